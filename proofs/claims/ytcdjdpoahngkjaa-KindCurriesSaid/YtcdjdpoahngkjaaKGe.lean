/- For every input the law KindCurries returns true. Part 5 of 8. No condition. -/
import Derived.Test.YtcdjdpoahngkjaaKGd
import Derived.Lib.Builder
import Derived.Lib.UnsafeStr
import Derived.Lib.Walk
import Derived.Laws.Externs
set_option linter.unusedVariables false
set_option linter.unusedSimpArgs false
namespace Go.Proofs.Ytcdjdpoahngkjaa
open Go Go.Abs Go.Proofs
set_option maxHeartbeats 1000000 in
theorem copyCheck_used (b : Nat) (w : World) (h0 : w.cell? ⟨b, 0, none⟩ = some (.pointer (some ⟨b, 0, none⟩))) :
    Calls Try.prog 53 #[.pointer (some ⟨b, 0, none⟩)] w fun e w' => e = .returned (.tuple #[]) ∧ w' = w := by
  go_enter Try.func53, Try.ntmps53
  go_wp2
  rw [Lib.run_neq_ptr_same w _ Try.underlying59 (show Try.prog.info? 62 = some Try.t62 from rfl)]
  go_wp2
  go_end0
  exact ⟨rfl, rfl⟩
set_option maxHeartbeats 1000000 in
theorem copyCheck_fresh (b : Nat) (w : World) (h0 : w.cell? ⟨b, 0, none⟩ = some (.pointer none)) (hsh : w.shape? b = some (62, 2)) (hfz : w.frozen? ⟨b, 0, none⟩ = false) :
    Calls Try.prog 53 #[.pointer (some ⟨b, 0, none⟩)] w fun e w' => e = .returned (.tuple #[]) ∧ w' = w.setCell ⟨b, 0, none⟩ (.pointer (some ⟨b, 0, none⟩)) := by
  have hj : Try.prog.info? 62 = some Try.t62 := rfl
  go_enter Try.func53, Try.ntmps53
  go_wp2
  rw [Lib.run_to_unsafe w ⟨b, 0, none⟩ Try.underlying59 Try.underlying82 hj (by decide) hsh (Nat.zero_lt_succ 1)]
  simp only [Result.andThen]
  rw [Oper.upon_value]
  go_wp2
  rw [run_callFunc_extern Try.func55 (by kernel_rfl) (by kernel_rfl) (by kernel_rfl) (e := Extern.AbiNoEscape.same) (by kernel_rfl)]
  rw [Lib.run_noEscape]
  simp only [Result.andThen]
  rw [Oper.upon_value]
  go_wp2
  rw [Lib.run_from_unsafe w ⟨b, 0, none⟩ Try.underlying82 Try.underlying59 hj hsh (by kernel_rfl)]
  simp only [Result.andThen]
  rw [Oper.upon_value]
  go_wp2
  go_end0
  exact ⟨rfl, rfl⟩
theorem setSelf {g : Gh} {bs : List (List AV)} {w : World} (h : Sto g bs w) {i k ty : Nat} {rest : List AV} (hb0 : bs[i]? = some (.baddr ty i :: rest)) (hk0 : g.σ[i]? = some k) :
    Sto g bs (w.setCell ⟨k, 0, none⟩ (.pointer (some ⟨k, 0, none⟩))) := by
  have hkm : k ∈ g.σ := List.mem_of_getElem? hk0
  have hblock : ∀ j, j ≠ k → (w.setCell ⟨k, 0, none⟩ (.pointer (some ⟨k, 0, none⟩))).heap[j]? = w.heap[j]? := fun j hj => RowKit.Below.heap_setCell _ _ _ _ hj
  refine { h with
    imm := fun y u hy => ?_
    blk := fun i' blk k' hb hk' => ?_
    ownσ := fun p k' hk' => by simpa using h.ownσ p k' hk' }
  · rw [World.cell?_setCell_other _ _ _ _ (fun e => h.immσ y u hy (by rw [← e]; exact hkm))]; exact h.imm y u hy
  · obtain ⟨c, ty', h1, h2, h3⟩ := h.blk i' blk k' hb hk'
    by_cases hi : i' = i
    · subst hi
      rw [hb0] at hb; cases hb
      rw [hk0] at hk'; cases hk'
      refine ⟨c.setIfInBounds 0 (.pointer (some ⟨k, 0, none⟩)), ty', ?_, by simpa using h2, fun j y hy => ?_⟩
      · simp only [World.setCell, Array.getElem?_modify, if_true]
        rw [h1]; rfl
      · obtain ⟨h5, h6, h7⟩ := h3 j y hy
        rw [getD_set_eq]
        cases j with
        | zero =>
          simp only [List.length_cons] at h2
          rw [if_pos ⟨rfl, by omega⟩]
          simp at hy; subst hy
          exact ⟨h5, .baddr _ _ _ hk0, OwnsBy.of_not rfl⟩
        | succ j =>
          rw [if_neg (fun e => by have := e.1; omega)]
          exact ⟨h5, h6, h7.world (fun _ _ _ _ hs => hs.setCell) shape_setCell⟩
    · refine ⟨c, ty', ?_, h2, fun j x hx => ?_⟩
      · rw [hblock k' (fun e => ?_)]
        · exact h1
        · subst e
          obtain ⟨l1, e1⟩ := List.getElem?_eq_some_iff.1 hk'; obtain ⟨l2, e2⟩ := List.getElem?_eq_some_iff.1 hk0
          exact hi (nodup_inj h.nodup l1 l2 (by rw [e1, e2]))
      · obtain ⟨h5, h6, h7⟩ := h3 j x hx
        exact ⟨h5, h6, h7.world (fun _ _ _ _ hs => hs.setCell) shape_setCell⟩
theorem copyCheck_raw (x : AV) : Raw Try.prog 53 [.mptr 0 0] [[.baddr 62 0, x]] (.tup []) [[.baddr 62 0, x]] := by
  have hb : ([[.baddr 62 0, x]] : List (List AV))[0]? = some [.baddr 62 0, x] := rfl
  generalize ([[.baddr 62 0, x]] : List (List AV)) = bs at hb
  refine ⟨⟨_, Try.func53, rfl, rfl⟩, fun g w vals hs h0 ha => ?_⟩
  obtain ⟨hsz, hv⟩ := ha
  have hv0 := hv 0 _ rfl
  obtain ⟨v0, rfl⟩ := Array.size_eq_one_iff.1 hsz
  cases hv0' : (#[v0] : Array Value).getD 0 undef with
  | pointer p =>
    rw [hv0'] at hv0
    cases hv0 with
    | mptr _ _ k hk =>
      have : v0 = .pointer (some ⟨k, 0, none⟩) := hv0'
      subst this
      obtain ⟨c, ty, h1, h2, h3⟩ := hs.blk 0 _ k hb hk
      obtain ⟨h5, h6, h7⟩ := h3 0 _ rfl
      have hty : ty = 62 := by
        rcases h5 with h5 | ⟨b, h5⟩
        · cases h5
        · cases h5; rfl
      subst hty
      have hc0 := cell_of_block h1 0 (by rw [h2]; exact Nat.zero_lt_succ _)
      have hkm : k ∈ g.σ := List.mem_of_getElem? hk
      generalize c.getD 0 undef = u at h6 hc0
      cases h6 with
      | baddr0 _ _ _ =>
        refine (copyCheck_fresh k w hc0 (by unfold World.shape?; rw [h1]; show some (62, c.size) = _; rw [h2]; rfl) (cells_of_frozen h1 0)).mono ?_
        rintro e w' ⟨rfl, rfl⟩
        refine ⟨g, _, rfl, .tup [] #[] rfl (by simp), setSelf hs hb hk, ?_, h0⟩
        have h8 := Ext.refl' w g (fun k hk => hs.σ_lt hk) h0
        exact { h8 with
          keep := fun j hj hT => by
            rw [RowKit.Below.heap_setCell _ _ _ _ (fun e => ?_)]
            subst e
            exact hT (.inl hkm)
          size := by simp
          os := h8.os
          tape := h8.tape
          output := h8.output }
      | baddr _ _ k' hk' =>
        rw [hk] at hk'; cases hk'
        refine (copyCheck_used k w hc0).mono ?_
        rintro e w' ⟨rfl, rfl⟩
        exact ⟨g, _, rfl, .tup [] #[] rfl (by simp), hs, Ext.refl' w' g (fun k hk => hs.σ_lt hk) h0, h0⟩
  | _ => rw [hv0'] at hv0; cases hv0
theorem strings_Builder_copyCheck_ok (b : List UInt8) (r : Unit) (h : M.strings_Builder_copyCheck b = some r) :
    Raw Try.prog 53 [.mptr 0 0] [[.baddr 62 0, .osl ⟨1, 5⟩ (b.map cU)]] (.tup []) [[.baddr 62 0, .osl ⟨1, 5⟩ (b.map cU)]] := copyCheck_raw _
section
variable (b : Nat) (w : World)
theorem us_none (p : Option Addr) (w : World) : (Builtin.unsafeString_ #[78, 3] 9 #[.pointer p, .int .i64 0]).run Try.prog w = .ok (.string ⟨#[]⟩) w := Lib.run_unsafeString_none w _ _ _ p
set_option maxHeartbeats 2000000 in
set_option maxRecDepth 100000 in
theorem string_nil (h0 : w.cell? ⟨b, 1, none⟩ = some (.slice none 0 0)) :
    Calls Try.prog 41 #[.pointer (some ⟨b, 0, none⟩)] w fun e w' => e = .returned (.string ⟨#[]⟩) ∧ w' = w.drew := by
  have c1 : w.drew.cell? ⟨b, 1, none⟩ = some (.slice none 0 0) := h0
  have hUS := us_none
  have hSD : (Builtin.unsafeSliceData_ #[60] 78 #[.slice none 0 0]).run Try.prog w.drew = .ok (.pointer none) w.drew := rfl
  go_enter Try.func41, Try.ntmps41
  go_wp2
  go_region
  all_goals (go_wp2; go_ret; exact ⟨rfl, rfl⟩)
set_option maxHeartbeats 2000000 in
set_option maxRecDepth 100000 in
theorem string_room (a : Addr) (k : Nat) (h0 : w.cell? ⟨b, 1, none⟩ = some (.slice (some a) 0 (k + 1))) :
    Calls Try.prog 41 #[.pointer (some ⟨b, 0, none⟩)] w fun e w' => e = .returned (.string ⟨#[]⟩) ∧ w' = w.drew := by
  have c1 : w.drew.cell? ⟨b, 1, none⟩ = some (.slice (some a) 0 (k + 1)) := h0
  have hUS := us_none
  have hSD : (Builtin.unsafeSliceData_ #[60] 78 #[.slice (some a) 0 (k + 1)]).run Try.prog w.drew = .ok (.pointer (some a)) w.drew := rfl
  go_enter Try.func41, Try.ntmps41
  go_wp2
  go_region
  all_goals (go_wp2; go_ret; exact ⟨rfl, rfl⟩)
set_option maxHeartbeats 2000000 in
set_option maxRecDepth 100000 in
theorem string_noroom (a : Addr) (sh : TypeId × Nat) (hsh : w.shape? a.block = some sh) (h0 : w.cell? ⟨b, 1, none⟩ = some (.slice (some a) 0 0)) (hlt : b < w.heap.size) :
    Calls Try.prog 41 #[.pointer (some ⟨b, 0, none⟩)] w fun e w' => e = .returned (.string ⟨#[]⟩) ∧ w' = (w.alloc (.view a 5)).drew := by
  have c1 : w.drew.cell? ⟨b, 1, none⟩ = some (.slice (some a) 0 0) := h0
  have hUS := us_none
  have hSD : (Builtin.unsafeSliceData_ #[60] 78 #[.slice (some a) 0 0]).run Try.prog w.drew = .ok (.pointer (some ⟨w.drew.heap.size, 0, none⟩)) (w.drew.alloc (.view a 5)) :=
    Lib.run_unsafeSliceData_zero w.drew _ _ 5 Try.underlying78 a 0 sh hsh
  have c3 : (w.alloc (.view a 5)).drew.cell? ⟨b, 1, none⟩ = some (.slice (some a) 0 0) := by
    show (w.alloc (.view a 5)).cell? ⟨b, 1, none⟩ = _
    rw [World.cell?_alloc_lt _ _ _ hlt]; exact h0
  have c2 : (w.drew.alloc (.view a 5)).cell? ⟨b, 1, none⟩ = some (.slice (some a) 0 0) := c3
  go_enter Try.func41, Try.ntmps41
  go_wp2
  go_region
  all_goals (go_wp2; go_ret; exact ⟨rfl, rfl⟩)
set_option maxHeartbeats 2000000 in
set_option maxRecDepth 100000 in
theorem string_some (q cells : Nat) (l : List UInt8) (cap : Nat) (h1 : l ≠ []) (hlc : l.length ≤ cap) (hn : l.length ≤ cells) (h63 : l.length ≤ 9223372036854775807) (hsh : w.shape? q = some (5, cells))
    (h0 : w.cell? ⟨b, 1, none⟩ = some (.slice (some ⟨q, 0, none⟩) l.length cap)) (hcell : ∀ j x, l[j]? = some x → w.cell? ((⟨q, 0, none⟩ : Addr).add j) = some (.int .u8 x.toNat)) :
    Calls Try.prog 41 #[.pointer (some ⟨b, 0, none⟩)] w fun e w' => e = .returned (.string ⟨l.toArray⟩) ∧ w' = w.drew.freeze ⟨q, 0, none⟩ l.length := by
  have c1 : w.drew.cell? ⟨b, 1, none⟩ = some (.slice (some ⟨q, 0, none⟩) l.length cap) := h0
  have hpos : l.length ≠ 0 := by simpa using h1
  have hSD : (Builtin.unsafeSliceData_ #[60] 78 #[.slice (some ⟨q, 0, none⟩) l.length cap]).run Try.prog w.drew = .ok (.pointer (some ⟨q, 0, none⟩)) w.drew :=
    Lib.run_unsafeSliceData_row w.drew _ _ _ _ _ (by omega)
  have hUS : (Builtin.unsafeString_ #[78, 3] 9 #[.pointer (some ⟨q, 0, none⟩), .int .i64 l.length]).run Try.prog w.drew = .ok (.string ⟨l.toArray⟩) (w.drew.freeze ⟨q, 0, none⟩ l.length) :=
    Lib.run_unsafeString_row w.drew 78 3 9 5 Try.underlying78 (by kernel_rfl) q cells hsh l h1 hn h63 hcell
  clear h1 hpos hlc hn h63 hcell
  generalize hw : w.drew.freeze ⟨q, 0, none⟩ l.length = wf at hUS ⊢
  go_enter Try.func41, Try.ntmps41
  go_wp2
  go_region
  all_goals (go_wp2; go_ret; exact ⟨rfl, rfl⟩)
end
theorem Sto.move {g : Gh} {bs : List (List AV)} {w w' : World} (h : Sto g bs w) (hc : ∀ a v, w.cell? a = some v → w'.cell? a = some v) (hb : ∀ k, k ∈ g.σ → w'.heap[k]? = w.heap[k]?) (hsz : w.heap.size ≤ w'.heap.size)
    (hown : ∀ (i j k : Nat) c ty blk x, bs[i]? = some blk → g.σ[i]? = some k → w.heap[k]? = some (.cells c ty (0, 0)) → blk[j]? = some x → OwnsBy g.imm w (g.own (.cell i j)) x (c.getD j undef) → OwnsBy g.imm w' (g.own (.cell i j)) x (c.getD j undef)) :
    Sto g bs w' := { h with
  imm := fun x v hx => hc _ _ (h.imm x v hx)
  blk := fun i blk k h1 h2 => by
    obtain ⟨c, ty, q1, q2, q3⟩ := h.blk i blk k h1 h2
    refine ⟨c, ty, by rw [hb k (List.mem_of_getElem? h2)]; exact q1, q2, fun j x hx => ?_⟩
    obtain ⟨r1, r2, r3⟩ := q3 j x hx
    exact ⟨r1, r2, hown i j k c ty blk x h1 h2 q1 hx r3⟩
  ownσ := fun p k hp => ⟨(h.ownσ p k hp).1, Nat.lt_of_lt_of_le (h.ownσ p k hp).2 hsz⟩ }
theorem sto_drew {g : Gh} {bs : List (List AV)} {w : World} (h : Sto g bs w) : Sto g bs w.drew :=
  Sto.move h (fun _ _ h => h) (fun _ _ => rfl) (Nat.le_refl _) fun _ _ _ _ _ _ _ _ _ _ _ h => h
theorem rowSh_shape {w : World} {k : Nat} {sh : TypeId × Nat} (h : rowSh w k = some sh) : w.shape? k = some sh := by
  unfold rowSh at h; unfold World.shape?
  split at h
  · rename_i c ty fr e; rw [e]
    split at h
    · exact h
    · cases h
  · cases h
theorem heap_freeze (w : World) (q n k : Nat) (h : k ≠ q) : (w.freeze ⟨q, 0, none⟩ n).heap[k]? = w.heap[k]? := by
  unfold World.freeze
  split
  · rfl
  · simp only [Array.getElem?_modify]; rw [if_neg (fun e => h e.symm)]
theorem freeze_at {w : World} {q n : Nat} {c : Array Value} {ty : TypeId} {fr : Nat × Nat} (h : w.heap[q]? = some (.cells c ty fr)) (hn : n ≠ 0) :
    (w.freeze ⟨q, 0, none⟩ n).heap[q]? = some (.cells c ty (if fr.1 == fr.2 then (0, n) else (0, max fr.2 n))) := by
  unfold World.freeze
  rw [if_neg hn]
  simp only [Array.getElem?_modify, if_true, h, Option.map_some]
  obtain ⟨lo, hi⟩ := fr
  simp
theorem strings_Builder_String_ok (b : List UInt8) (r : List UInt8) (h : M.strings_Builder_String b = some r) :
    Raw Try.prog 41 [.mptr 0 0] [[.baddr 62 0, .osl ⟨1, 5⟩ (b.map cU)]] (.str r) [[.baddr 62 0, .osl ⟨1, 5⟩ (b.map cU)]] := by
  obtain rfl := Option.some.inj h
  refine ⟨⟨_, Try.func41, rfl, rfl⟩, fun g w vals hs h0 ha => ?_⟩
  obtain ⟨hsz, hv⟩ := ha
  have hv0 := hv 0 _ rfl
  obtain ⟨v0, rfl⟩ := Array.size_eq_one_iff.1 hsz
  cases hv0' : (#[v0] : Array Value).getD 0 undef with
  | pointer p =>
    rw [hv0'] at hv0
    cases hv0 with
    | mptr _ _ k hk =>
      have : v0 = .pointer (some ⟨k, 0, none⟩) := hv0'
      subst this
      obtain ⟨c, ty, h1, h2, h3⟩ := hs.blk 0 _ k rfl hk
      obtain ⟨h5, h6, h7⟩ := h3 1 _ rfl
      have hc1 := cell_of_block h1 1 (by rw [h2]; exact Nat.lt_succ_self _)
      have hkl := hs.σ_lt (List.mem_of_getElem? hk)
      have hrefl := Ext.refl' w g (fun k hk => hs.σ_lt hk) h0
      have hext : ∀ w' : World, (∀ k, k < w.heap.size → ¬ Fx.T ⟨w, g⟩ k → w'.heap[k]? = w.heap[k]?) → w.heap.size ≤ w'.heap.size → w'.os = w.os → w'.tape = w.tape → w'.output = w.output → Ext ⟨w, g⟩ g w' := fun w' p1 p2 p3 p4 p5 =>
        { hrefl with keep := p1, size := p2, os := p3, tape := p4, output := p5 }
      have hstr : b.length ≤ 281474976710656 → Rep g.imm g.σ (.str b) (.string ⟨b.toArray⟩) := fun hl => .str _ _ (by simp) (by omega)
      generalize hcv : c.getD 1 undef = u at h6 h7 hc1
      cases h6' : b with
      | nil =>
        subst h6'
        have hrs : Rep g.imm g.σ (.str []) (.string ⟨#[]⟩) := hstr (by simp)
        cases h6 with
        | osl0 _ =>
          refine (string_nil k w hc1).mono ?_
          rintro e w' ⟨rfl, rfl⟩
          exact ⟨g, _, rfl, hrs, sto_drew hs, hext _ (fun _ _ _ => rfl) (Nat.le_refl _) rfl rfl rfl, h0⟩
        | osl _ _ a n cap vs hn hcap hbd he hi hr =>
          have hn0 : n = 0 := by simpa using hn
          subst hn0
          cases cap with
          | succ cap =>
            refine (string_room k w a cap hc1).mono ?_
            rintro e w' ⟨rfl, rfl⟩
            exact ⟨g, _, rfl, hrs, sto_drew hs, hext _ (fun _ _ _ => rfl) (Nat.le_refl _) rfl rfl rfl, h0⟩
          | zero =>
            rcases h7 _ _ _ rfl with h8 | ⟨a', h8, h9, ⟨ha1, ha2, m, h10, h11⟩, h12⟩
            · cases h8
            · cases h8
              refine (string_noroom k w a _ (rowSh_shape h10) hc1 hkl).mono ?_
              rintro e w' ⟨rfl, rfl⟩
              refine ⟨g, _, rfl, hrs, sto_drew (Sto.move hs (fun x v hx => ?_) (fun k' hk' => heap_alloc_old w _ (hs.σ_lt hk')) (by simp) fun i j k' c' ty' blk x e1 e2 e3 e4 e5 => ?_), hext _ (fun k' hk' _ => heap_alloc_old w _ hk') (by simp) rfl rfl rfl, h0⟩
              · rw [World.cell?_alloc_lt _ _ _ (World.block_lt_of_cell? _ _ hx)]; exact hx
              · exact e5.world (fun _ _ _ _ hs => hs.alloc (fun _ _ => rfl)) shape_alloc
      | cons x0 b0 =>
        have hne : b ≠ [] := by rw [h6']; simp
        rw [← h6']
        clear h6'
        generalize hl0 : b.map cU = l0 at h6
        cases h6 with
        | osl0 _ => exact absurd (List.map_eq_nil_iff.1 hl0) hne
        | osl _ _ a n cap vs hn hcap hbd he hi hr =>
          subst hl0
          have hn' : n = b.length := by simpa using hn
          subst hn'
          rcases h7 _ _ _ rfl with h8 | ⟨a', h8, h9, ⟨ha1, ha2, m, h10, h11⟩, h12⟩
          · cases h8
          · cases h8
            obtain ⟨q, off, spot⟩ := a
            simp only at ha1 ha2 h9 h10
            subst ha1; subst ha2
            have hpos : b.length ≠ 0 := by simpa using hne
            have hcell : ∀ j x, b[j]? = some x → w.cell? ((⟨q, 0, none⟩ : Addr).add j) = some (.int .u8 x.toNat) := fun j x hx => by
              have e1 : (b.map cU)[j]? = some [.int .u8 x.toNat] := by rw [List.getElem?_map, hx]; rfl
              have e2 := hi j _ e1 0 _ rfl
              have e3 := hr j _ e1 0 _ rfl
              have e4 := hs.imm _ _ e2
              simp only [Nat.mul_one, Nat.add_zero] at e4
              rw [e4]
              generalize vs j 0 = y at e3
              cases e3; rfl
            have hblk : ∃ c' fr, w.heap[q]? = some (.cells c' 5 fr) ∧ (fr.1 = fr.2 ∨ fr.1 = 0) ∧ c'.size = m := by
              unfold rowSh at h10
              split at h10
              · rename_i c' ty' fr e
                split at h10
                · rename_i hfr; cases h10; exact ⟨c', fr, e, hfr, rfl⟩
                · cases h10
              · cases h10
            obtain ⟨c', fr, hq, hfr, hm⟩ := hblk
            have hcm : cap ≤ m := by simpa using h11
            refine (string_some k w q m b cap hne hcap (by omega) (by omega) (rowSh_shape h10) hc1 hcell).mono ?_
            rintro e w' ⟨rfl, rfl⟩
            have hqσ := (hs.ownσ _ q h9).1
            have hfz : ∀ k', k' ≠ q → (w.freeze ⟨q, 0, none⟩ b.length).heap[k']? = w.heap[k']? := fun k' hk' => heap_freeze w q _ k' hk'
            have hfq := freeze_at (n := b.length) hq hpos
            have hsize : (w.freeze ⟨q, 0, none⟩ b.length).heap.size = w.heap.size := by unfold World.freeze; split <;> simp
            have hcells : ∀ x, (w.freeze ⟨q, 0, none⟩ b.length).cell? x = w.cell? x := fun x => by
              unfold World.cell?
              by_cases hx : x.block = q
              · rw [hx, hfq, hq]
              · rw [hfz _ hx]
            have hdrw : w.drew.freeze ⟨q, 0, none⟩ b.length = (w.freeze ⟨q, 0, none⟩ b.length).drew := by
              unfold World.freeze; split <;> rfl
            rw [hdrw]
            refine ⟨g, _, rfl, hstr hbd, sto_drew (Sto.move hs (fun x v hx => by rw [hcells]; exact hx) (fun k' hk' => hfz k' (fun e => hqσ (by rw [← e]; exact hk'))) (by rw [hsize]; exact Nat.le_refl _) fun i j k' c2 ty' blk x e1 e2 e3 e4 e5 => ?_),
              hext _ (fun k' hk' hT => hfz k' (fun e => hT (.inr ⟨0, 1, by rw [e]; exact h9⟩))) (by show _ ≤ (w.freeze ⟨q, 0, none⟩ b.length).heap.size; rw [hsize]; exact Nat.le_refl _) (by show (w.freeze ⟨q, 0, none⟩ b.length).os = _; unfold World.freeze; split <;> rfl)
              (by show (w.freeze ⟨q, 0, none⟩ b.length).tape = _; unfold World.freeze; split <;> rfl) (by show (w.freeze ⟨q, 0, none⟩ b.length).output = _; unfold World.freeze; split <;> rfl), h0⟩
            cases i with
            | succ i => simp at e1
            | zero =>
              simp only [List.getElem?_cons_zero, Option.some.injEq] at e1
              subst e1
              rw [hk] at e2; cases e2
              rw [h1] at e3; cases e3
              cases j with
              | zero => simp only [List.getElem?_cons_zero, Option.some.injEq] at e4; subst e4; exact OwnsBy.of_not rfl
              | succ j =>
                cases j with
                | succ j => simp at e4
                | zero =>
                  simp only [List.getElem?_cons_succ, List.getElem?_cons_zero, Option.some.injEq] at e4
                  subst e4
                  rw [hcv]
                  intro base n cap' hv'
                  cases hv'
                  refine .inr ⟨_, rfl, h9, ⟨rfl, rfl, m, ?_, h11⟩, fun j hj1 hj2 => ?_⟩
                  · unfold rowSh
                    rw [hfq, ← hm]
                    simp only
                    split <;> simp
                  · obtain ⟨p1, p2, p3⟩ := h12 j hj1 hj2
                    refine ⟨p1, by rw [hcells]; exact p2, ?_⟩
                    have hb0 : ((⟨q, 0, none⟩ : Addr).add j).block = q := add_block _ _
                    have ho0 : ((⟨q, 0, none⟩ : Addr).add j).off = j := by rw [add_off]; exact Nat.zero_add j
                    unfold World.frozen? at p3 ⊢
                    rw [hb0, hq] at p3
                    rw [hb0, hfq]
                    rw [ho0] at p3 ⊢
                    simp only [Nat.mul_one] at hj1
                    obtain ⟨lo, hi'⟩ := fr
                    simp only [Bool.and_eq_false_iff, decide_eq_false_iff_not] at p3 hfr
                    by_cases hlo : lo = hi'
                    · rw [if_pos (by simp [hlo])]
                      simp; omega
                    · rw [if_neg (by simp [hlo])]
                      simp; omega
  | _ => rw [hv0'] at hv0; cases hv0
end Go.Proofs.Ytcdjdpoahngkjaa
set_option linter.unusedVariables false
set_option linter.unusedSimpArgs false
set_option maxRecDepth 100000
namespace Go.Proofs.Ytcdjdpoahngkjaa
open Go Go.Abs Go.RowKit
theorem growPost {imm : Addr → Option Value} {w : World} {ec : EC} {cells : Array Value} {cap : Nat} (hc : cells.size = cap * ec.size) (him : ∀ x v, imm x = some v → w.cell? x = some v) :
    ∃ imm' v bo, Ending.returned (.slice (some ⟨w.heap.size, 0, none⟩) 0 cap) = .returned v ∧ Rep imm' [] (.osl ec []) v ∧ OwnsBy imm' (w.alloc (.cells cells ec.ty)).drew bo (.osl ec []) v ∧
      (∀ k, bo = some k → w.heap.size ≤ k ∧ k < (w.alloc (.cells cells ec.ty)).drew.heap.size) ∧
      (∀ x v, imm x = some v → imm' x = some v) ∧ (∀ x v, imm' x = some v → (w.alloc (.cells cells ec.ty)).drew.cell? x = some v) ∧ Below w.heap.size w (w.alloc (.cells cells ec.ty)).drew ∧
      (∀ x v, imm' x = some v → imm x = some v ∨ w.heap.size ≤ x.block) := by
  have hnew := heap_alloc_new w (.cells cells ec.ty (0, 0))
  have hlt : ∀ x v, imm x = some v → x.block < w.heap.size := fun x v h => World.block_lt_of_cell? _ _ (him x v h)
  refine ⟨imm, _, some w.heap.size, rfl, .osl ec [] _ 0 cap (fun _ _ => undef) rfl (Nat.zero_le _) (Nat.zero_le _) (fun i e h => by simp at h) (fun i e h => by simp at h) (fun i e h => by simp at h), ?_, ?_, fun _ _ h => h, ?_, ?_, fun x v h => .inl h⟩
  · intro base n cap' hv
    simp only [Value.slice.injEq] at hv
    obtain ⟨rfl, rfl, rfl⟩ := hv
    refine .inr ⟨_, rfl, rfl, ⟨rfl, rfl, cells.size, ?_, by rw [hc]; exact Nat.le_refl _⟩, ?_⟩
    · show rowSh (w.alloc (.cells cells ec.ty (0, 0))) w.heap.size = _
      unfold rowSh
      rw [hnew]
      exact if_pos (.inl rfl)
    · intro j hj1 hj2
      have hb : ((⟨w.heap.size, 0, none⟩ : Addr).add j).block = w.heap.size := add_block _ _
      refine ⟨?_, ?_, ?_⟩
      · cases h : imm ((⟨w.heap.size, 0, none⟩ : Addr).add j) with
        | none => rfl
        | some v => have := hlt _ v h; omega
      · have hj : j < cells.size := by rw [hc]; exact hj2
        refine ⟨cells[j], ?_⟩
        show (w.alloc (.cells cells ec.ty (0, 0))).cell? _ = _
        rw [add_new]
        simp only [World.cell?, hnew]
        simp [hj]
      · show (w.alloc (.cells cells ec.ty (0, 0))).frozen? _ = _
        rw [add_new]
        simp only [World.frozen?, hnew]
        simp
  · intro k hk
    cases hk
    simp
  · intro x v h
    show (w.alloc (.cells cells ec.ty (0, 0))).cell? x = some v
    rw [World.cell?_alloc_lt _ _ _ (hlt x v h)]
    exact him x v h
  · exact ((Below.refl w.heap.size w).alloc (Nat.le_refl _) _).drew
set_option maxHeartbeats 1000000 in
theorem grow_zero (w : World) : Calls Try.prog 47 #[.slice none 0 0, .int .i64 0] w fun e w' => e = .returned (.slice none 0 0) ∧ w' = w := by
  go_enter Try.func47, Try.ntmps47
  go_wp2
  go_ret
  exact ⟨rfl, rfl⟩
set_option maxHeartbeats 1000000 in
theorem grow_some (n : Nat) (hn : 0 < n) (hfit : n * 24 ≤ 140737488355328) (w : World)  :
    Calls Try.prog 47 #[.slice none 0 0, .int .i64 n] w fun e w' => ∃ (cells : Array Value) (cap : Nat), cells.size = cap * 1 ∧ e = .returned (.slice (some ⟨w.heap.size, 0, none⟩) 0 cap) ∧ w' = (w.alloc (.cells cells 24)).drew := by
  have h1 : ¬ ((n : Int) < 0) := by omega
  have h2 : (0 : Int) < n := by omega
  have hnn : ¬ n = 0 := by omega
  have h48 := growslice_fits (old := 0) hn hfit
  have h48' : ¬ (281474976710656 < Builtin.nextslicecap n 0 * 24) := by omega
  have h49 : ¬ (281474976710656 < (n : Int) * 24) := by omega
  have h63 : ¬ (9223372036854775807 < (n : Int)) := by omega
  have hge := grownCap_ge w n 0 24
  unfold grownCap at hge
  go_enter Try.func47, Try.ntmps47
  go_wp2
  go_ret
  refine ⟨_, ?_, rfl⟩
  have hsz : (Builtin.zeroCells #[Value.slice none 0 0] n ++ Builtin.zeroCells #[Value.slice none 0 0] ((Question.appendCap n 0 24).cut (w.tape w.drawn (Question.appendCap n 0 24)) - n)).size =
      (Question.appendCap n 0 24).cut (w.tape w.drawn (Question.appendCap n 0 24)) := by
    simp only [Array.size_append, size_zeroCells, List.size_toArray, List.length_cons, List.length_nil]
    omega
  rw [hsz]
  rfl
theorem grow_O (n : Int) (h0 : 0 ≤ n) (hfit : n * 24 ≤ 140737488355328) : PureO Try.prog 47 [.nsl, .int .i64 n] ⟨1, 24⟩ [] := by
  refine ⟨⟨Try.f47, Try.func47, by rfl, by rfl⟩, fun imm w vals him ha => ?_⟩
  obtain ⟨a1, a2⟩ := ha
  have e0 := a2 0 _ rfl
  have e1 := a2 1 _ rfl
  have hv : vals = #[.slice none 0 0, .int .i64 n] := by
    have s2 : vals.size = 2 := a1
    have c0 : vals.getD 0 undef = .slice none 0 0 := by cases h : vals.getD 0 undef <;> rw [h] at e0 <;> cases e0; rfl
    have c1 : vals.getD 1 undef = .int .i64 n := by cases h : vals.getD 1 undef <;> rw [h] at e1 <;> cases e1; rfl
    apply Array.ext
    · simpa using s2
    · intro i h1 h2
      have : i = 0 ∨ i = 1 := by omega
      rcases this with rfl | rfl
      · simpa [Array.getD_eq_getD_getElem?, h1] using c0
      · simpa [Array.getD_eq_getD_getElem?, h1] using c1
  subst hv
  obtain ⟨m, rfl⟩ : ∃ m : Nat, n = m := ⟨n.toNat, by omega⟩
  by_cases hm : m = 0
  · subst hm
    refine (grow_zero w).mono fun e w' h => ?_
    obtain ⟨rfl, rfl⟩ := h
    exact ⟨imm, _, none, rfl, .osl0 _, fun base n cap hv => by cases hv; exact .inl rfl, fun k hk => (by cases hk), fun _ _ h => h, him, Below.refl _ _, fun x v h => .inl h⟩
  · refine (grow_some m (by omega) (by omega) w).mono fun e w' h => ?_
    obtain ⟨cells, cap, hc, rfl, rfl⟩ := h
    exact growPost (ec := ⟨1, 24⟩) hc him
end Go.Proofs.Ytcdjdpoahngkjaa
set_option linter.unusedVariables false
set_option linter.unusedSimpArgs false
set_option maxRecDepth 100000
set_option maxHeartbeats 1000000
namespace Go.Proofs.Ytcdjdpoahngkjaa
open Go Go.Abs
theorem kind_size_ok (fuel : Nat) : (∀ (k1 : Api.Kind) (left2 : Int) (depth3 : Int) (r : Int × Bool) (_ : M.kind_size fuel k1 left2 depth3 = some r), Pure Try.prog 38 [.agg [.sl (k1.L.map Api.Kind.c)], .int .i64 left2, .int .i64 depth3] (.tup [.int .i64 r.1, .bool r.2])) := by
  induction fuel with
  | zero => intro k1 left2 depth3 r h; rw [M.kind_size] at h; cases h
  | succ fuel ih_kind_size =>
    intro k1 left2 depth3 r h
    rw [M.kind_size] at h
    refine pure_of_body Try.func38 (by rfl) (by rfl) (by simp) (by simp) (by simp) ?_
    refine cut 55 0 [(1, .int .i64 left2), (2, .int .i64 depth3), (3, .mptr 0 0)] [[.sl (k1.L.map Api.Kind.c)]] ?_ ?_
    · refine st ?_
      simp
    refine awp_seq ?_
    refine cut 55 0 [(1, .int .i64 left2), (2, .int .i64 depth3), (3, .mptr 0 0), (30, .bool ((leI left2 0) || ((ltI 400 depth3) || ((!(eqI (k1.L.length : Int) 0)) && (!(eqI (k1.L.length : Int) 2))))))] [[.sl (k1.L.map Api.Kind.c)]] ?_ ?_
    · rcases tf (leI left2 0) with g4 | g4
      · have c5 := leT g4
        refine st ?_
        simp [g4]
      · have c6 := leF g4
        rcases tf (ltI 400 depth3) with g7 | g7
        · have c8 := ltT g7
          refine st ?_
          simp [g4, g7]
        · have c9 := ltF g7
          rcases tf (!(eqI (k1.L.length : Int) 0)) with g10 | g10
          · have g11 := notT g10
            have c12 := eqF g11
            refine st ?_
            simp [g4, g7, g10]
          · have g13 := notF g10
            have c14 := eqT g13
            refine st ?_
            simp [g4, g7, g10]
    rcases sp h with ⟨g15, h⟩ | ⟨g15, h⟩
    · refine condT rfl g15 ?_
      refine cut 55 0 [(6, .int .i64 0), (7, .bool false)] [[.sl (k1.L.map Api.Kind.c)]] ?_ ?_
      · refine st ?_
        simp
      refine awp_ret ?_
      refine ret_seq ?_
      obtain rfl := Option.some.inj h
      simp
    · obtain ⟨g16, g17⟩ := orF g15
      have c18 := leF g16
      obtain ⟨g19, g20⟩ := orF g17
      have c21 := ltF g19
      refine condF rfl g15 ?_
      refine awp_skip ?_
      refine seq_eq ?_
      refine cut 55 0 [(1, .int .i64 left2), (2, .int .i64 depth3), (3, .mptr 0 0), (8, .int .i64 1)] [[.sl (k1.L.map Api.Kind.c)]] ?_ ?_
      · refine st ?_
        simp
      refine awp_seq ?_
      refine cut 55 0 [(1, .int .i64 left2), (2, .int .i64 depth3), (8, .int .i64 1), (32, .sl (k1.L.map Api.Kind.c)), (33, .int .i64 (k1.L.length : Int)), (34, .int .i64 0)] [[.sl (k1.L.map Api.Kind.c)]] ?_ ?_
      · refine st ?_
        simp
      refine awp_block ?_
      obtain ⟨o25, l26, h⟩ := bs h
      refine awp_inv (fun p : Nat × Int × Nat => mkS 55 0 [(1, .int .i64 left2), (2, .int .i64 depth3), (8, .int .i64 p.2.1), (32, .sl (k1.L.map Api.Kind.c)), (33, .int .i64 (k1.L.length : Int)), (34, .int .i64 ((p.2.2 : Nat) : Int))] [[.sl (k1.L.map Api.Kind.c)]]) (fun p => M.kind_size_l1 (M.kind_size fuel) k1 left2 depth3 p.1 p.2.1 p.2.2 = some o25) (fun p => p.1) (fuel, 1, 0) l26 (le_mkS (by simp)) ?_
      rintro ⟨k27, n22, i23⟩ l26
      dsimp only at l26 ⊢
      cases k27 with
      | zero =>
        rw [M.kind_size_l1] at l26; cases l26
      | succ k28 =>
        rw [M.kind_size_l1] at l26
        refine cut 55 0 [(1, .int .i64 left2), (2, .int .i64 depth3), (8, .int .i64 n22), (32, .sl (k1.L.map Api.Kind.c)), (33, .int .i64 (k1.L.length : Int)), (34, .int .i64 ((i23 : Nat) : Int)), (35, .bool (ltI ((i23 : Nat) : Int) (k1.L.length : Int)))] [[.sl (k1.L.map Api.Kind.c)]] ?_ ?_
        · refine st ?_
          simp
        refine awp_seq ?_
        rcases sp l26 with ⟨g29, l26⟩ | ⟨g29, l26⟩
        · have c30 := ltT g29
          refine condT rfl g29 ?_
          refine factL 32 rfl fun f31 => ?_
          rw [List.length_map] at f31
          refine awp_skip ?_
          refine seq_eq ?_
          refine awp_seq ?_
          refine awp_block ?_
          obtain ⟨x32, q33, l26⟩ := bs l26
          refine cut 55 0 [(1, .int .i64 left2), (2, .int .i64 depth3), (8, .int .i64 n22), (10, .mptr 1 0), (32, .sl (k1.L.map Api.Kind.c)), (33, .int .i64 (k1.L.length : Int)), (34, .int .i64 ((i23 : Nat) : Int))] [[.sl (k1.L.map Api.Kind.c)], [.sl (x32.L.map Api.Kind.c)]] ?_ ?_
          · refine st ?_
            simp [q33]
          obtain ⟨n34, q35, l26⟩ := bs l26
          obtain ⟨q36, q37⟩ := chk_ok q35
          try simp at q36
          try simp at q37
          have c38 := q36; simp only [Rng, inR] at c38
          obtain ⟨n39, q40, l26⟩ := bs l26
          obtain ⟨q41, q42⟩ := chk_ok q40
          try simp at q41
          try simp at q42
          have c43 := q41; simp only [Rng, inR] at c43
          obtain ⟨v44, q45, l26⟩ := bs l26
          refine cut 55 0 [(1, .int .i64 left2), (2, .int .i64 depth3), (8, .int .i64 n22), (11, .int .i64 v44.1), (12, .bool v44.2), (32, .sl (k1.L.map Api.Kind.c)), (33, .int .i64 (k1.L.length : Int)), (34, .int .i64 ((i23 : Nat) : Int))] [[.sl (k1.L.map Api.Kind.c)], [.sl (x32.L.map Api.Kind.c)]] ?_ ?_
          · refine st ?_
            simp [q36, q37, q41, q42]
            have r55 := ih_kind_size x32 n34 n39 v44 q45
            try simp [q36, q37, q41, q42] at r55
            refine callPure r55 (by simp) rfl ?_
            simp [q36, q37, q41, q42]
          refine awp_seq ?_
          refine cut 55 0 [(1, .int .i64 left2), (2, .int .i64 depth3), (8, .int .i64 n22), (11, .int .i64 v44.1), (32, .sl (k1.L.map Api.Kind.c)), (33, .int .i64 (k1.L.length : Int)), (34, .int .i64 ((i23 : Nat) : Int)), (49, .bool (!v44.2))] [[.sl (k1.L.map Api.Kind.c)], [.sl (x32.L.map Api.Kind.c)]] ?_ ?_
          · refine st ?_
            simp
          rcases sp l26 with ⟨g46, l26⟩ | ⟨g46, l26⟩
          · have g47 := notT g46
            refine condT rfl g46 ?_
            refine cut 55 0 [(6, .int .i64 0), (7, .bool false)] [[.sl (k1.L.map Api.Kind.c)], [.sl (x32.L.map Api.Kind.c)]] ?_ ?_
            · refine st ?_
              simp
            refine awp_ret ?_
            refine ret_seq ?_
            refine ret_blk ?_
            refine ret_seq ?_
            replace h := retL l26 h
            refine ret_seq ?_
            refine ret_blk ?_
            refine ret_seq ?_
            obtain rfl := Option.some.inj h
            simp
          · have g48 := notF g46
            refine condF rfl g46 ?_
            refine awp_skip ?_
            refine seq_eq ?_
            obtain ⟨n49, q50, l26⟩ := bs l26
            obtain ⟨q51, q52⟩ := chk_ok q50
            try simp at q51
            try simp at q52
            have c53 := q51; simp only [Rng, inR] at c53
            refine last 55 0 [(1, .int .i64 left2), (2, .int .i64 depth3), (8, .int .i64 n49), (32, .sl (k1.L.map Api.Kind.c)), (33, .int .i64 (k1.L.length : Int)), (34, .int .i64 ((i23 : Nat) : Int))] [[.sl (k1.L.map Api.Kind.c)], [.sl (x32.L.map Api.Kind.c)]] ?_ fun s1 hs => ?_
            · refine st ?_
              simp [q51, q52]
            refine blk_n ?_
            refine seq_le ?_ hs
            have q54 : Rng .i64 (((i23 : Nat) : Int) + 1) := by simp only [Rng, inR]; omega
            refine last 55 0 [(1, .int .i64 left2), (2, .int .i64 depth3), (8, .int .i64 n49), (32, .sl (k1.L.map Api.Kind.c)), (33, .int .i64 (k1.L.length : Int)), (34, .int .i64 ((i23 + 1 : Nat) : Int))] [[.sl (k1.L.map Api.Kind.c)]] ?_ fun s1 hs => ?_
            · refine st ?_
              simp [q54]
            exact ⟨(k28, n49, i23 + 1), hs, l26, by simp⟩
        · have c56 := ltF g29
          refine condF rfl g29 ?_
          refine factL 32 rfl fun f57 => ?_
          rw [List.length_map] at f57
          refine awp_exit ?_
          refine exit_seq ?_
          rcases o25 with o25 | o24
          · cases l26
          have q58 := Sum.inr.inj (Option.some.inj l26)
          replace h := elimR h
          have q58 := q58.symm
          refine exit_seq ?_
          refine exit_blk ?_
          refine seq_le (t := mkS 55 0 [(8, .int .i64 o24)] [[.sl (k1.L.map Api.Kind.c)]]) ?_ (le_mkS (by simp [q58]))
          refine cut 55 0 [(6, .int .i64 o24), (7, .bool true)] [[.sl (k1.L.map Api.Kind.c)]] ?_ ?_
          · refine st ?_
            simp
          refine awp_ret ?_
          obtain rfl := Option.some.inj h
          simp
end Go.Proofs.Ytcdjdpoahngkjaa
set_option linter.unusedVariables false
set_option linter.unusedSimpArgs false
set_option maxRecDepth 100000
set_option maxHeartbeats 1000000
namespace Go.Proofs.Ytcdjdpoahngkjaa
open Go Go.Abs
theorem kind_Valid_ok (fuel : Nat) (k1 : Api.Kind) (r : Bool) (h : M.kind_Valid fuel k1 = some r) : Pure Try.prog 16 [.agg [.sl (k1.L.map Api.Kind.c)]] (.bool r) := by
  rw [M.kind_Valid] at h
  refine pure_of_body Try.func16 (by rfl) (by rfl) (by simp) (by simp) (by simp) ?_
  refine cut 11 0 [(1, .mptr 0 0)] [[.sl (k1.L.map Api.Kind.c)]] ?_ ?_
  · refine st ?_
    simp
  obtain ⟨v2, q3, h⟩ := bs h
  refine cut 11 0 [(4, .bool v2.2)] [[.sl (k1.L.map Api.Kind.c)]] ?_ ?_
  · refine st ?_
    simp
    have r4 := kind_size_ok fuel k1 20000 1 v2 q3
    try simp [] at r4
    refine callPure r4 (by simp) rfl ?_
    simp
  refine cut 11 0 [(2, .bool v2.2)] [[.sl (k1.L.map Api.Kind.c)]] ?_ ?_
  · refine st ?_
    simp
  refine awp_ret ?_
  obtain rfl := Option.some.inj h
  simp
end Go.Proofs.Ytcdjdpoahngkjaa
set_option linter.unusedVariables false
set_option linter.unusedSimpArgs false
set_option maxRecDepth 100000
set_option maxHeartbeats 1000000
namespace Go.Proofs.Ytcdjdpoahngkjaa
open Go Go.Abs
theorem kind_equal_ok (fuel : Nat) : (∀ (a1 : Api.Kind) (b2 : Api.Kind) (r : Bool) (_ : M.kind_equal fuel a1 b2 = some r), Pure Try.prog 34 [.agg [.sl (a1.L.map Api.Kind.c)], .agg [.sl (b2.L.map Api.Kind.c)]] (.bool r)) := by
  induction fuel with
  | zero => intro a1 b2 r h; rw [M.kind_equal] at h; cases h
  | succ fuel ih_kind_equal =>
    intro a1 b2 r h
    rw [M.kind_equal] at h
    refine pure_of_body Try.func34 (by rfl) (by rfl) (by simp) (by simp) (by simp) ?_
    refine cut 32 0 [(2, .mptr 0 0), (3, .mptr 1 0)] [[.sl (a1.L.map Api.Kind.c)], [.sl (b2.L.map Api.Kind.c)]] ?_ ?_
    · refine st ?_
      simp
    refine awp_seq ?_
    refine cut 32 0 [(2, .mptr 0 0), (3, .mptr 1 0), (12, .bool (!(eqI (a1.L.length : Int) (b2.L.length : Int))))] [[.sl (a1.L.map Api.Kind.c)], [.sl (b2.L.map Api.Kind.c)]] ?_ ?_
    · refine st ?_
      simp
    rcases sp h with ⟨g3, h⟩ | ⟨g3, h⟩
    · have g4 := notT g3
      have c5 := eqF g4
      refine condT rfl g3 ?_
      refine cut 32 0 [(4, .bool false)] [[.sl (a1.L.map Api.Kind.c)], [.sl (b2.L.map Api.Kind.c)]] ?_ ?_
      · refine st ?_
        simp
      refine awp_ret ?_
      refine ret_seq ?_
      obtain rfl := Option.some.inj h
      simp
    · have g6 := notF g3
      have c7 := eqT g6
      refine condF rfl g3 ?_
      refine awp_skip ?_
      refine seq_eq ?_
      refine awp_seq ?_
      refine cut 32 0 [(2, .mptr 0 0), (3, .mptr 1 0), (15, .int .i64 (a1.L.length : Int)), (16, .int .i64 0)] [[.sl (a1.L.map Api.Kind.c)], [.sl (b2.L.map Api.Kind.c)]] ?_ ?_
      · refine st ?_
        simp
      refine awp_block ?_
      obtain ⟨o10, l11, h⟩ := bs h
      refine awp_inv (fun p : Nat × Nat => mkS 32 0 [(2, .mptr 0 0), (3, .mptr 1 0), (15, .int .i64 (a1.L.length : Int)), (16, .int .i64 ((p.2 : Nat) : Int))] [[.sl (a1.L.map Api.Kind.c)], [.sl (b2.L.map Api.Kind.c)]]) (fun p => M.kind_equal_l1 (M.kind_equal fuel) a1 b2 p.1 p.2 = some o10) (fun p => p.1) (fuel, 0) l11 (le_mkS (by simp)) ?_
      rintro ⟨k12, i8⟩ l11
      dsimp only at l11 ⊢
      cases k12 with
      | zero =>
        rw [M.kind_equal_l1] at l11; cases l11
      | succ k13 =>
        rw [M.kind_equal_l1] at l11
        refine cut 32 0 [(2, .mptr 0 0), (3, .mptr 1 0), (15, .int .i64 (a1.L.length : Int)), (16, .int .i64 ((i8 : Nat) : Int)), (17, .bool (ltI ((i8 : Nat) : Int) (a1.L.length : Int)))] [[.sl (a1.L.map Api.Kind.c)], [.sl (b2.L.map Api.Kind.c)]] ?_ ?_
        · refine st ?_
          simp
        refine awp_seq ?_
        rcases sp l11 with ⟨g14, l11⟩ | ⟨g14, l11⟩
        · have c15 := ltT g14
          refine condT rfl g14 ?_
          refine factCL 0 0 rfl rfl rfl fun f16 => ?_
          rw [List.length_map] at f16
          refine awp_skip ?_
          refine seq_eq ?_
          refine awp_seq ?_
          refine awp_block ?_
          refine cut 32 0 [(2, .mptr 0 0), (3, .mptr 1 0), (5, .int .i64 ((i8 : Nat) : Int)), (15, .int .i64 (a1.L.length : Int)), (16, .int .i64 ((i8 : Nat) : Int))] [[.sl (a1.L.map Api.Kind.c)], [.sl (b2.L.map Api.Kind.c)]] ?_ ?_
          · refine st ?_
            simp
          obtain ⟨x17, q18, l11⟩ := bs l11
          obtain ⟨x19, q20, l11⟩ := bs l11
          obtain ⟨v21, q22, l11⟩ := bs l11
          refine cut 32 0 [(2, .mptr 0 0), (3, .mptr 1 0), (15, .int .i64 (a1.L.length : Int)), (16, .int .i64 ((i8 : Nat) : Int)), (30, .bool (!v21))] [[.sl (a1.L.map Api.Kind.c)], [.sl (b2.L.map Api.Kind.c)]] ?_ ?_
          · refine awp_region_draw [] mixed (n := 32) rfl (by decide) ?_
            simp [q18, q20]
            have r27 := ih_kind_equal x17 x19 v21 q22
            try simp [q18, q20] at r27
            refine callD r27 (by simp) rfl ?_
            simp [q18, q20]
          rcases sp l11 with ⟨g23, l11⟩ | ⟨g23, l11⟩
          · have g24 := notT g23
            refine condT rfl g23 ?_
            refine cut 32 0 [(4, .bool false)] [[.sl (a1.L.map Api.Kind.c)], [.sl (b2.L.map Api.Kind.c)]] ?_ ?_
            · refine st ?_
              simp
            refine awp_ret ?_
            refine ret_blk ?_
            refine ret_seq ?_
            replace h := retL l11 h
            refine ret_seq ?_
            refine ret_blk ?_
            refine ret_seq ?_
            obtain rfl := Option.some.inj h
            simp
          · have g25 := notF g23
            refine condF rfl g23 ?_
            refine awp_skip ?_
            refine blk_n ?_
            refine seq_eq ?_
            have q26 : Rng .i64 (((i8 : Nat) : Int) + 1) := by simp only [Rng, inR]; omega
            refine last 32 0 [(2, .mptr 0 0), (3, .mptr 1 0), (15, .int .i64 (a1.L.length : Int)), (16, .int .i64 ((i8 + 1 : Nat) : Int))] [[.sl (a1.L.map Api.Kind.c)], [.sl (b2.L.map Api.Kind.c)]] ?_ fun s1 hs => ?_
            · refine st ?_
              simp [q26]
            exact ⟨(k13, i8 + 1), hs, l11, by simp⟩
        · have c28 := ltF g14
          refine condF rfl g14 ?_
          refine factCL 0 0 rfl rfl rfl fun f29 => ?_
          rw [List.length_map] at f29
          refine awp_exit ?_
          refine exit_seq ?_
          rcases o10 with o10 | o9
          · cases l11
          have q30 := Sum.inr.inj (Option.some.inj l11)
          replace h := elimR h
          refine exit_seq ?_
          refine exit_blk ?_
          refine seq_le (t := mkS 32 0 [] [[.sl (a1.L.map Api.Kind.c)], [.sl (b2.L.map Api.Kind.c)]]) ?_ (le_mkS (by simp []))
          refine cut 32 0 [(4, .bool true)] [[.sl (a1.L.map Api.Kind.c)], [.sl (b2.L.map Api.Kind.c)]] ?_ ?_
          · refine st ?_
            simp
          refine awp_ret ?_
          obtain rfl := Option.some.inj h
          simp
end Go.Proofs.Ytcdjdpoahngkjaa
set_option linter.unusedVariables false
set_option linter.unusedSimpArgs false
set_option maxRecDepth 100000
set_option maxHeartbeats 1000000
namespace Go.Proofs.Ytcdjdpoahngkjaa
open Go Go.Abs
theorem kind_Equal_ok (fuel : Nat) (a1 : Api.Kind) (b2 : Api.Kind) (r : Bool) (h : M.kind_Equal fuel a1 b2 = some r) : Pure Try.prog 17 [.agg [.sl (a1.L.map Api.Kind.c)], .agg [.sl (b2.L.map Api.Kind.c)]] (.bool r) := by
  rw [M.kind_Equal] at h
  refine pure_of_body Try.func17 (by rfl) (by rfl) (by simp) (by simp) (by simp) ?_
  refine cut 16 0 [(2, .mptr 0 0), (3, .mptr 1 0)] [[.sl (a1.L.map Api.Kind.c)], [.sl (b2.L.map Api.Kind.c)]] ?_ ?_
  · refine st ?_
    simp
  obtain ⟨b11, q12, h⟩ := bs h
  refine cut 16 0 [(4, .bool b11)] [[.sl (a1.L.map Api.Kind.c)], [.sl (b2.L.map Api.Kind.c)]] ?_ ?_
  · obtain ⟨v3, q4, q12⟩ := bs q12
    rcases sp q12 with ⟨g5, q12⟩ | ⟨g5, q12⟩
    · obtain ⟨v6, q7, q12⟩ := bs q12
      rcases sp q12 with ⟨g8, q12⟩ | ⟨g8, q12⟩
      · obtain ⟨v9, q10, q12⟩ := bs q12
        obtain rfl := Option.some.inj q12
        refine st ?_
        simp [g5, g8]
        have r13 := kind_Valid_ok fuel a1 v3 q4
        try simp [g5, g8] at r13
        refine callPure r13 (by simp) rfl ?_
        simp [g5, g8]
        have r14 := kind_Valid_ok fuel b2 v6 q7
        try simp [g5, g8] at r14
        refine callPure r14 (by simp) rfl ?_
        simp [g5, g8]
        have r15 := kind_equal_ok fuel a1 b2 v9 q10
        try simp [g5, g8] at r15
        refine callPure r15 (by simp) rfl ?_
        simp [g5, g8]
      · obtain rfl := Option.some.inj q12
        refine st ?_
        simp [g5, g8]
        have r16 := kind_Valid_ok fuel a1 v3 q4
        try simp [g5, g8] at r16
        refine callPure r16 (by simp) rfl ?_
        simp [g5, g8]
        have r17 := kind_Valid_ok fuel b2 v6 q7
        try simp [g5, g8] at r17
        refine callPure r17 (by simp) rfl ?_
        simp [g5, g8]
    · obtain rfl := Option.some.inj q12
      refine st ?_
      simp [g5]
      have r18 := kind_Valid_ok fuel a1 v3 q4
      try simp [g5] at r18
      refine callPure r18 (by simp) rfl ?_
      simp [g5]
  refine awp_ret ?_
  obtain rfl := Option.some.inj h
  simp
end Go.Proofs.Ytcdjdpoahngkjaa
set_option linter.unusedVariables false
set_option linter.unusedSimpArgs false
set_option maxRecDepth 100000
set_option maxHeartbeats 1000000
namespace Go.Proofs.Ytcdjdpoahngkjaa
open Go Go.Abs
theorem kind_Star_ok (r : Api.Kind) (h : M.kind_Star = some r) : Pure Try.prog 18 [] (.agg [.sl (r.L.map Api.Kind.c)]) := by
  rw [M.kind_Star] at h
  refine pure_of_body Try.func18 (by rfl) (by rfl) (by simp) (by simp) (by simp) ?_
  refine cut 2 0 [(0, .mptr 0 0)] [[.osl ⟨1, 24⟩ (([] : List Api.Kind).map Api.Kind.c)]] ?_ ?_
  · refine st ?_
    simp
  refine cut 2 0 [(0, .mptr 0 0)] [[.osl ⟨1, 24⟩ (([] : List Api.Kind).map Api.Kind.c)]] ?_ ?_
  · refine st ?_
    simp
  refine awp_ret ?_
  obtain rfl := Option.some.inj h
  simp
end Go.Proofs.Ytcdjdpoahngkjaa
set_option linter.unusedVariables false
set_option linter.unusedSimpArgs false
set_option maxRecDepth 100000
set_option maxHeartbeats 1000000
namespace Go.Proofs.Ytcdjdpoahngkjaa
open Go Go.Abs
theorem kind_copied_ok (fuel : Nat) : (∀ (k1 : Api.Kind) (r : Api.Kind) (_ : M.kind_copied fuel k1 = some r), Pure Try.prog 35 [.agg [.sl (k1.L.map Api.Kind.c)]] (.agg [.sl (r.L.map Api.Kind.c)])) := by
  induction fuel with
  | zero => intro k1 r h; rw [M.kind_copied] at h; cases h
  | succ fuel ih_kind_copied =>
    intro k1 r h
    rw [M.kind_copied] at h
    refine pure_of_body Try.func35 (by rfl) (by rfl) (by simp) (by simp) (by simp) ?_
    refine cut 22 0 [(1, .mptr 0 0), (2, .mptr 1 0)] [[.sl (k1.L.map Api.Kind.c)], [.osl ⟨1, 24⟩ (([] : List Api.Kind).map Api.Kind.c)]] ?_ ?_
    · refine st ?_
      simp
    refine cut 22 0 [(1, .mptr 0 0), (2, .mptr 1 0), (3, .mptr 2 0)] [[.sl (k1.L.map Api.Kind.c)], [.osl ⟨1, 24⟩ (([] : List Api.Kind).map Api.Kind.c)], [.osl ⟨1, 24⟩ (([] : List Api.Kind).map Api.Kind.c)]] ?_ ?_
    · refine st ?_
      simp
    refine awp_seq ?_
    refine cut 22 0 [(2, .mptr 1 0), (3, .mptr 2 0), (7, .sl (k1.L.map Api.Kind.c)), (8, .int .i64 (k1.L.length : Int)), (9, .int .i64 0)] [[.sl (k1.L.map Api.Kind.c)], [.osl ⟨1, 24⟩ (([] : List Api.Kind).map Api.Kind.c)], [.osl ⟨1, 24⟩ (([] : List Api.Kind).map Api.Kind.c)]] ?_ ?_
    · refine st ?_
      simp
    refine awp_block ?_
    obtain ⟨o4, l5, h⟩ := bs h
    refine awp_inv (fun p : Nat × (List Api.Kind) × Nat => mkS 22 0 [(2, .mptr 1 0), (3, .mptr 2 0), (7, .sl (k1.L.map Api.Kind.c)), (8, .int .i64 (k1.L.length : Int)), (9, .int .i64 ((p.2.2 : Nat) : Int))] [[.sl (k1.L.map Api.Kind.c)], [.osl ⟨1, 24⟩ (([] : List Api.Kind).map Api.Kind.c)], [.osl ⟨1, 24⟩ (p.2.1.map Api.Kind.c)]]) (fun p => M.kind_copied_l1 (M.kind_copied fuel) k1 p.1 p.2.1 p.2.2 = some o4) (fun p => p.1) (fuel, ([] : List Api.Kind), 0) l5 (le_mkS (by simp)) ?_
    rintro ⟨k6, L2, i3⟩ l5
    dsimp only at l5 ⊢
    cases k6 with
    | zero =>
      rw [M.kind_copied_l1] at l5; cases l5
    | succ k7 =>
      rw [M.kind_copied_l1] at l5
      refine cut 22 0 [(2, .mptr 1 0), (3, .mptr 2 0), (7, .sl (k1.L.map Api.Kind.c)), (8, .int .i64 (k1.L.length : Int)), (9, .int .i64 ((i3 : Nat) : Int)), (10, .bool (ltI ((i3 : Nat) : Int) (k1.L.length : Int)))] [[.sl (k1.L.map Api.Kind.c)], [.osl ⟨1, 24⟩ (([] : List Api.Kind).map Api.Kind.c)], [.osl ⟨1, 24⟩ (L2.map Api.Kind.c)]] ?_ ?_
      · refine st ?_
        simp
      refine awp_seq ?_
      rcases sp l5 with ⟨g8, l5⟩ | ⟨g8, l5⟩
      · have c9 := ltT g8
        refine condT rfl g8 ?_
        refine factL 7 rfl fun f10 => ?_
        rw [List.length_map] at f10
        refine awp_skip ?_
        refine seq_eq ?_
        refine awp_seq ?_
        refine awp_block ?_
        obtain ⟨x11, q12, l5⟩ := bs l5
        refine cut 22 0 [(2, .mptr 1 0), (3, .mptr 2 0), (5, .mptr 3 0), (7, .sl (k1.L.map Api.Kind.c)), (8, .int .i64 (k1.L.length : Int)), (9, .int .i64 ((i3 : Nat) : Int))] [[.sl (k1.L.map Api.Kind.c)], [.osl ⟨1, 24⟩ (([] : List Api.Kind).map Api.Kind.c)], [.osl ⟨1, 24⟩ (L2.map Api.Kind.c)], [.sl (x11.L.map Api.Kind.c)]] ?_ ?_
        · refine st ?_
          simp [q12]
        obtain ⟨v13, q14, l5⟩ := bs l5
        obtain ⟨l15, q16, l5⟩ := bs l5
        obtain ⟨q17, q18⟩ := app_ok q16
        try simp at q17
        refine last 22 0 [(2, .mptr 1 0), (3, .mptr 2 0), (7, .sl (k1.L.map Api.Kind.c)), (8, .int .i64 (k1.L.length : Int)), (9, .int .i64 ((i3 : Nat) : Int))] [[.sl (k1.L.map Api.Kind.c)], [.osl ⟨1, 24⟩ (([] : List Api.Kind).map Api.Kind.c)], [.osl ⟨1, 24⟩ (l15.map Api.Kind.c)], [.sl (x11.L.map Api.Kind.c)]] ?_ fun s1 hs => ?_
        · refine awp_region_draw [] mixed (n := 22) rfl (by decide) ?_
          simp [q17, q18]
          have r20 := ih_kind_copied x11 v13 q14
          try simp [q17, q18] at r20
          refine callD r20 (by simp) rfl ?_
          simp [q17, q18]
        refine blk_n ?_
        refine seq_le ?_ hs
        have q19 : Rng .i64 (((i3 : Nat) : Int) + 1) := by simp only [Rng, inR]; omega
        refine last 22 0 [(2, .mptr 1 0), (3, .mptr 2 0), (7, .sl (k1.L.map Api.Kind.c)), (8, .int .i64 (k1.L.length : Int)), (9, .int .i64 ((i3 + 1 : Nat) : Int))] [[.sl (k1.L.map Api.Kind.c)], [.osl ⟨1, 24⟩ (([] : List Api.Kind).map Api.Kind.c)], [.osl ⟨1, 24⟩ (l15.map Api.Kind.c)]] ?_ fun s1 hs => ?_
        · refine st ?_
          simp [q19]
        exact ⟨(k7, l15, i3 + 1), hs, l5, by simp⟩
      · have c21 := ltF g8
        refine condF rfl g8 ?_
        refine factL 7 rfl fun f22 => ?_
        rw [List.length_map] at f22
        refine awp_exit ?_
        refine exit_seq ?_
        have q23 := Option.some.inj l5
        have q23 := q23.symm
        refine exit_seq ?_
        refine exit_blk ?_
        refine seq_le (t := mkS 22 0 [(2, .mptr 1 0), (3, .mptr 2 0)] [[.sl (k1.L.map Api.Kind.c)], [.osl ⟨1, 24⟩ (([] : List Api.Kind).map Api.Kind.c)], [.osl ⟨1, 24⟩ (o4.map Api.Kind.c)]]) ?_ (le_mkS (by simp [q23]))
        refine cut 22 0 [(2, .mptr 1 0)] [[.sl (k1.L.map Api.Kind.c)], [.sl (o4.map Api.Kind.c)], [.osl ⟨1, 24⟩ (o4.map Api.Kind.c)]] ?_ ?_
        · refine st ?_
          simp
        refine awp_ret ?_
        obtain rfl := Option.some.inj h
        simp
end Go.Proofs.Ytcdjdpoahngkjaa
set_option linter.unusedVariables false
set_option linter.unusedSimpArgs false
set_option maxRecDepth 100000
set_option maxHeartbeats 1000000
namespace Go.Proofs.Ytcdjdpoahngkjaa
open Go Go.Abs
theorem kind_Parts_ok (fuel : Nat) (k1 : Api.Kind) (r : (List Api.Kind) × Api.Kind × Int) (h : M.kind_Parts fuel k1 = some r) : Pure Try.prog 19 [.agg [.sl (k1.L.map Api.Kind.c)]] (.tup [.sl (r.1.map Api.Kind.c), .agg [.sl (r.2.1.L.map Api.Kind.c)], .int .i64 r.2.2]) := by
  rw [M.kind_Parts] at h
  refine pure_of_body Try.func19 (by rfl) (by rfl) (by simp) (by simp) (by simp) ?_
  refine cut 28 0 [(1, .mptr 0 0), (3, .mptr 1 0)] [[.sl (k1.L.map Api.Kind.c)], [.osl ⟨1, 24⟩ (([] : List Api.Kind).map Api.Kind.c)]] ?_ ?_
  · refine st ?_
    simp
  refine awp_seq ?_
  obtain ⟨v2, q3, h⟩ := bs h
  refine cut 28 0 [(1, .mptr 0 0), (3, .mptr 1 0), (8, .bool (!v2))] [[.sl (k1.L.map Api.Kind.c)], [.osl ⟨1, 24⟩ (([] : List Api.Kind).map Api.Kind.c)]] ?_ ?_
  · refine st ?_
    simp
    have r35 := kind_Valid_ok fuel k1 v2 q3
    try simp [] at r35
    refine callPure r35 (by simp) rfl ?_
    simp
  rcases sp h with ⟨g4, h⟩ | ⟨g4, h⟩
  · have g5 := notT g4
    refine condT rfl g4 ?_
    refine cut 28 0 [(2, .osl ⟨1, 24⟩ (([] : List Api.Kind).map Api.Kind.c)), (3, .mptr 1 0), (4, .int .i64 1)] [[.sl (k1.L.map Api.Kind.c)], [.osl ⟨1, 24⟩ (([] : List Api.Kind).map Api.Kind.c)]] ?_ ?_
    · refine st ?_
      simp
    refine awp_ret ?_
    refine ret_seq ?_
    obtain rfl := Option.some.inj h
    simp
  · have g6 := notF g4
    refine condF rfl g4 ?_
    refine awp_skip ?_
    refine seq_eq ?_
    refine cut 28 0 [(1, .mptr 0 0), (3, .mptr 1 0), (5, .osl ⟨1, 24⟩ (([] : List Api.Kind).map Api.Kind.c))] [[.sl (k1.L.map Api.Kind.c)], [.osl ⟨1, 24⟩ (([] : List Api.Kind).map Api.Kind.c)]] ?_ ?_
    · refine st ?_
      simp
    refine awp_seq ?_
    refine awp_block ?_
    obtain ⟨o9, l10, h⟩ := bs h
    refine awp_inv (fun p : Nat × (List Api.Kind) × (List Api.Kind) => mkS 28 0 [(1, .mptr 0 0), (3, .mptr 1 0), (5, .osl ⟨1, 24⟩ (p.2.2.map Api.Kind.c))] [[.sl (p.2.1.map Api.Kind.c)], [.osl ⟨1, 24⟩ (([] : List Api.Kind).map Api.Kind.c)]]) (fun p => M.kind_Parts_l1 fuel p.1 p.2.1 p.2.2 = some o9) (fun p => p.1) (fuel, k1.L, ([] : List Api.Kind)) l10 (le_mkS (by simp)) ?_
    rintro ⟨k11, L7, out8⟩ l10
    dsimp only at l10 ⊢
    cases k11 with
    | zero =>
      rw [M.kind_Parts_l1] at l10; cases l10
    | succ k12 =>
      rw [M.kind_Parts_l1] at l10
      refine awp_seq ?_
      refine cut 28 0 [(1, .mptr 0 0), (3, .mptr 1 0), (5, .osl ⟨1, 24⟩ (out8.map Api.Kind.c)), (13, .bool (ltI 0 (L7.length : Int)))] [[.sl (L7.map Api.Kind.c)], [.osl ⟨1, 24⟩ (([] : List Api.Kind).map Api.Kind.c)]] ?_ ?_
      · refine st ?_
        simp
      rcases sp l10 with ⟨g13, l10⟩ | ⟨g13, l10⟩
      · have c14 := ltT g13
        refine condT rfl g13 ?_
        refine factCL 0 0 rfl rfl rfl fun f15 => ?_
        rw [List.length_map] at f15
        refine awp_skip ?_
        refine seq_eq ?_
        refine awp_block ?_
        obtain ⟨x16, q17, l10⟩ := bs l10
        obtain ⟨v18, q19, l10⟩ := bs l10
        obtain ⟨l20, q21, l10⟩ := bs l10
        obtain ⟨q22, q23⟩ := app_ok q21
        try simp at q22
        refine cut 28 0 [(1, .mptr 0 0), (3, .mptr 1 0), (5, .osl ⟨1, 24⟩ (l20.map Api.Kind.c))] [[.sl (L7.map Api.Kind.c)], [.osl ⟨1, 24⟩ (([] : List Api.Kind).map Api.Kind.c)]] ?_ ?_
        · refine st ?_
          simp [q17, q22, q23]
          have r26 := kind_copied_ok fuel x16 v18 q19
          try simp [q17, q22, q23] at r26
          refine callPure r26 (by simp) rfl ?_
          simp [q17, q22, q23]
        obtain ⟨x24, q25, l10⟩ := bs l10
        refine last 28 0 [(1, .mptr 0 0), (3, .mptr 1 0), (5, .osl ⟨1, 24⟩ (l20.map Api.Kind.c))] [[.sl (x24.L.map Api.Kind.c)], [.osl ⟨1, 24⟩ (([] : List Api.Kind).map Api.Kind.c)]] ?_ fun s1 hs => ?_
        · refine st ?_
          simp [q25]
        refine blk_n ?_
        exact ⟨(k12, x24.L, l20), hs, l10, by simp⟩
      · have c27 := ltF g13
        refine condF rfl g13 ?_
        refine factCL 0 0 rfl rfl rfl fun f28 => ?_
        rw [List.length_map] at f28
        refine awp_exit ?_
        refine exit_seq ?_
        have q29 := Option.some.inj l10
        have q30 : o9.1 = out8 := by rw [← q29]
        have q31 : o9.2 = L7 := by rw [← q29]
        refine exit_seq ?_
        refine exit_blk ?_
        refine seq_le (t := mkS 28 0 [(3, .mptr 1 0), (5, .osl ⟨1, 24⟩ (o9.1.map Api.Kind.c))] [[.sl (o9.2.map Api.Kind.c)], [.osl ⟨1, 24⟩ (([] : List Api.Kind).map Api.Kind.c)]]) ?_ (le_mkS (by simp [q30, q31]))
        obtain ⟨v32, q33, h⟩ := bs h
        refine cut 28 0 [(2, .osl ⟨1, 24⟩ (o9.1.map Api.Kind.c)), (3, .mptr 1 0), (4, .int .i64 0)] [[.sl (o9.2.map Api.Kind.c)], [.sl (v32.L.map Api.Kind.c)]] ?_ ?_
        · refine st ?_
          simp
          have r34 := kind_Star_ok v32 q33
          try simp [] at r34
          refine callPure r34 (by simp) rfl ?_
          simp
        refine awp_ret ?_
        obtain rfl := Option.some.inj h
        simp
end Go.Proofs.Ytcdjdpoahngkjaa
set_option linter.unusedVariables false
set_option linter.unusedSimpArgs false
set_option maxRecDepth 100000
set_option maxHeartbeats 1000000
namespace Go.Proofs.Ytcdjdpoahngkjaa
open Go Go.Abs
theorem kind_pair_ok (a1 : Api.Kind) (b2 : Api.Kind) (r : Api.Kind) (h : M.kind_pair a1 b2 = some r) : Pure Try.prog 42 [.agg [.sl (a1.L.map Api.Kind.c)], .agg [.sl (b2.L.map Api.Kind.c)]] (.agg [.sl (r.L.map Api.Kind.c)]) := by
  rw [M.kind_pair] at h
  refine pure_of_body Try.func42 (by rfl) (by rfl) (by simp) (by simp) (by simp) ?_
  refine cut 9 0 [(2, .mptr 0 0), (3, .mptr 1 0), (4, .mptr 2 0)] [[.sl (a1.L.map Api.Kind.c)], [.sl (b2.L.map Api.Kind.c)], [.osl ⟨1, 24⟩ (([] : List Api.Kind).map Api.Kind.c)]] ?_ ?_
  · refine st ?_
    simp
  refine cut 9 0 [(4, .mptr 2 0)] [[.sl (a1.L.map Api.Kind.c)], [.sl (b2.L.map Api.Kind.c)], [.sl ([a1, b2].map Api.Kind.c)]] ?_ ?_
  · refine st ?_
    simp
  refine awp_ret ?_
  obtain rfl := Option.some.inj h
  simp
end Go.Proofs.Ytcdjdpoahngkjaa
set_option linter.unusedVariables false
set_option linter.unusedSimpArgs false
set_option maxRecDepth 100000
set_option maxHeartbeats 1000000
namespace Go.Proofs.Ytcdjdpoahngkjaa
open Go Go.Abs
theorem kind_Arrow_ok (fuel : Nat) (l1 : (List Api.Kind)) (to2 : Api.Kind) (r : Api.Kind × Int) (h : M.kind_Arrow fuel l1 to2 = some r) : Pure Try.prog 21 [.sl (l1.map Api.Kind.c), .agg [.sl (to2.L.map Api.Kind.c)]] (.tup [.agg [.sl (r.1.L.map Api.Kind.c)], .int .i64 r.2]) := by
  rw [M.kind_Arrow] at h
  refine pure_of_body Try.func21 (by rfl) (by rfl) (by simp) (by simp) (by simp) ?_
  refine cut 53 0 [(0, .sl (l1.map Api.Kind.c)), (3, .mptr 0 0), (4, .mptr 1 0)] [[.sl (to2.L.map Api.Kind.c)], [.osl ⟨1, 24⟩ (([] : List Api.Kind).map Api.Kind.c)]] ?_ ?_
  · refine st ?_
    simp
  obtain ⟨v3, q4, h⟩ := bs h
  refine cut 53 0 [(0, .sl (l1.map Api.Kind.c)), (3, .mptr 0 0), (4, .mptr 1 0), (6, .bool v3)] [[.sl (to2.L.map Api.Kind.c)], [.osl ⟨1, 24⟩ (([] : List Api.Kind).map Api.Kind.c)]] ?_ ?_
  · refine st ?_
    simp
    have r67 := kind_Valid_ok fuel to2 v3 q4
    try simp [] at r67
    refine callPure r67 (by simp) rfl ?_
    simp
  refine awp_seq ?_
  refine cut 53 0 [(0, .sl (l1.map Api.Kind.c)), (3, .mptr 0 0), (4, .mptr 1 0), (6, .bool v3), (13, .sl (l1.map Api.Kind.c)), (14, .int .i64 (l1.length : Int)), (15, .int .i64 0)] [[.sl (to2.L.map Api.Kind.c)], [.osl ⟨1, 24⟩ (([] : List Api.Kind).map Api.Kind.c)]] ?_ ?_
  · refine st ?_
    simp
  refine awp_block ?_
  obtain ⟨o7, l8, h⟩ := bs h
  refine awp_inv (fun p : Nat × Bool × Nat => mkS 53 0 [(0, .sl (l1.map Api.Kind.c)), (3, .mptr 0 0), (4, .mptr 1 0), (6, .bool p.2.1), (13, .sl (l1.map Api.Kind.c)), (14, .int .i64 (l1.length : Int)), (15, .int .i64 ((p.2.2 : Nat) : Int))] [[.sl (to2.L.map Api.Kind.c)], [.osl ⟨1, 24⟩ (([] : List Api.Kind).map Api.Kind.c)]]) (fun p => M.kind_Arrow_l1 fuel l1 p.1 p.2.1 p.2.2 = some o7) (fun p => p.1) (fuel, v3, 0) l8 (le_mkS (by simp)) ?_
  rintro ⟨k9, ok5, i6⟩ l8
  dsimp only at l8 ⊢
  cases k9 with
  | zero =>
    rw [M.kind_Arrow_l1] at l8; cases l8
  | succ k10 =>
    rw [M.kind_Arrow_l1] at l8
    refine cut 53 0 [(0, .sl (l1.map Api.Kind.c)), (3, .mptr 0 0), (4, .mptr 1 0), (6, .bool ok5), (13, .sl (l1.map Api.Kind.c)), (14, .int .i64 (l1.length : Int)), (15, .int .i64 ((i6 : Nat) : Int)), (16, .bool (ltI ((i6 : Nat) : Int) (l1.length : Int)))] [[.sl (to2.L.map Api.Kind.c)], [.osl ⟨1, 24⟩ (([] : List Api.Kind).map Api.Kind.c)]] ?_ ?_
    · refine st ?_
      simp
    refine awp_seq ?_
    rcases sp l8 with ⟨g11, l8⟩ | ⟨g11, l8⟩
    · have c12 := ltT g11
      refine condT rfl g11 ?_
      refine factL 0 rfl fun f13 => ?_
      rw [List.length_map] at f13
      refine awp_skip ?_
      refine seq_eq ?_
      refine awp_seq ?_
      refine awp_block ?_
      obtain ⟨x14, q15, l8⟩ := bs l8
      refine cut 53 0 [(0, .sl (l1.map Api.Kind.c)), (3, .mptr 0 0), (4, .mptr 1 0), (6, .bool ok5), (8, .mptr 2 0), (13, .sl (l1.map Api.Kind.c)), (14, .int .i64 (l1.length : Int)), (15, .int .i64 ((i6 : Nat) : Int))] [[.sl (to2.L.map Api.Kind.c)], [.osl ⟨1, 24⟩ (([] : List Api.Kind).map Api.Kind.c)], [.sl (x14.L.map Api.Kind.c)]] ?_ ?_
      · refine st ?_
        simp [q15]
      obtain ⟨b19, q20, l8⟩ := bs l8
      refine last 53 0 [(0, .sl (l1.map Api.Kind.c)), (3, .mptr 0 0), (4, .mptr 1 0), (6, .bool b19), (13, .sl (l1.map Api.Kind.c)), (14, .int .i64 (l1.length : Int)), (15, .int .i64 ((i6 : Nat) : Int))] [[.sl (to2.L.map Api.Kind.c)], [.osl ⟨1, 24⟩ (([] : List Api.Kind).map Api.Kind.c)], [.sl (x14.L.map Api.Kind.c)]] ?_ fun s1 hs => ?_
      · rcases sp q20 with ⟨g16, q20⟩ | ⟨g16, q20⟩
        · obtain ⟨v17, q18, q20⟩ := bs q20
          obtain rfl := Option.some.inj q20
          refine st ?_
          simp [g16]
          have r22 := kind_Valid_ok fuel x14 v17 q18
          try simp [g16] at r22
          refine callPure r22 (by simp) rfl ?_
          simp [g16]
        · obtain rfl := Option.some.inj q20
          refine st ?_
          simp [g16]
      refine blk_n ?_
      refine seq_le ?_ hs
      have q21 : Rng .i64 (((i6 : Nat) : Int) + 1) := by simp only [Rng, inR]; omega
      refine last 53 0 [(0, .sl (l1.map Api.Kind.c)), (3, .mptr 0 0), (4, .mptr 1 0), (6, .bool b19), (13, .sl (l1.map Api.Kind.c)), (14, .int .i64 (l1.length : Int)), (15, .int .i64 ((i6 + 1 : Nat) : Int))] [[.sl (to2.L.map Api.Kind.c)], [.osl ⟨1, 24⟩ (([] : List Api.Kind).map Api.Kind.c)]] ?_ fun s1 hs => ?_
      · refine st ?_
        simp [q21]
      exact ⟨(k10, b19, i6 + 1), hs, l8, by simp⟩
    · have c23 := ltF g11
      refine condF rfl g11 ?_
      refine factL 0 rfl fun f24 => ?_
      rw [List.length_map] at f24
      refine awp_exit ?_
      refine exit_seq ?_
      have q25 := Option.some.inj l8
      have q25 := q25.symm
      refine exit_seq ?_
      refine exit_blk ?_
      refine seq_le (t := mkS 53 0 [(0, .sl (l1.map Api.Kind.c)), (3, .mptr 0 0), (4, .mptr 1 0), (6, .bool o7)] [[.sl (to2.L.map Api.Kind.c)], [.osl ⟨1, 24⟩ (([] : List Api.Kind).map Api.Kind.c)]]) ?_ (le_mkS (by simp [q25]))
      refine awp_seq ?_
      refine cut 53 0 [(0, .sl (l1.map Api.Kind.c)), (3, .mptr 0 0), (4, .mptr 1 0), (26, .bool (!o7))] [[.sl (to2.L.map Api.Kind.c)], [.osl ⟨1, 24⟩ (([] : List Api.Kind).map Api.Kind.c)]] ?_ ?_
      · refine st ?_
        simp
      rcases sp h with ⟨g26, h⟩ | ⟨g26, h⟩
      · have g27 := notT g26
        refine condT rfl g26 ?_
        refine cut 53 0 [(4, .mptr 1 0), (5, .int .i64 1)] [[.sl (to2.L.map Api.Kind.c)], [.osl ⟨1, 24⟩ (([] : List Api.Kind).map Api.Kind.c)]] ?_ ?_
        · refine st ?_
          simp
        refine awp_ret ?_
        refine ret_seq ?_
        obtain rfl := Option.some.inj h
        simp
      · have g28 := notF g26
        refine condF rfl g26 ?_
        refine awp_skip ?_
        refine seq_eq ?_
        refine awp_seq ?_
        refine cut 53 0 [(0, .sl (l1.map Api.Kind.c)), (3, .mptr 0 0), (4, .mptr 1 0), (30, .bool (ltI 400 (l1.length : Int)))] [[.sl (to2.L.map Api.Kind.c)], [.osl ⟨1, 24⟩ (([] : List Api.Kind).map Api.Kind.c)]] ?_ ?_
        · refine st ?_
          simp
        rcases sp h with ⟨g29, h⟩ | ⟨g29, h⟩
        · have c30 := ltT g29
          refine condT rfl g29 ?_
          refine factL 0 rfl fun f31 => ?_
          rw [List.length_map] at f31
          refine cut 53 0 [(4, .mptr 1 0), (5, .int .i64 5)] [[.sl (to2.L.map Api.Kind.c)], [.osl ⟨1, 24⟩ (([] : List Api.Kind).map Api.Kind.c)]] ?_ ?_
          · refine st ?_
            simp
          refine awp_ret ?_
          refine ret_seq ?_
          obtain rfl := Option.some.inj h
          simp
        · have c32 := ltF g29
          refine condF rfl g29 ?_
          refine factL 0 rfl fun f33 => ?_
          rw [List.length_map] at f33
          refine awp_skip ?_
          refine seq_eq ?_
          obtain ⟨v34, q35, h⟩ := bs h
          refine cut 53 0 [(0, .sl (l1.map Api.Kind.c)), (4, .mptr 1 0), (9, .mptr 2 0)] [[.sl (to2.L.map Api.Kind.c)], [.osl ⟨1, 24⟩ (([] : List Api.Kind).map Api.Kind.c)], [.sl (v34.L.map Api.Kind.c)]] ?_ ?_
          · refine st ?_
            simp
            have r66 := kind_copied_ok fuel to2 v34 q35
            try simp [] at r66
            refine callPure r66 (by simp) rfl ?_
            simp
          refine awp_seq ?_
          have q36 : Rng .i64 ((l1.length : Int) - 1) := by simp only [Rng, inR]; omega
          refine cut 53 0 [(0, .sl (l1.map Api.Kind.c)), (4, .mptr 1 0), (9, .mptr 2 0), (10, .int .i64 ((l1.length : Int) - 1))] [[.sl (to2.L.map Api.Kind.c)], [.osl ⟨1, 24⟩ (([] : List Api.Kind).map Api.Kind.c)], [.sl (v34.L.map Api.Kind.c)]] ?_ ?_
          · refine st ?_
            simp [q36]
          refine awp_block ?_
          obtain ⟨o39, l40, h⟩ := bs h
          refine awp_inv (fun p : Nat × (List Api.Kind) × Int => mkS 53 0 [(0, .sl (l1.map Api.Kind.c)), (4, .mptr 1 0), (9, .mptr 2 0), (10, .int .i64 p.2.2)] [[.sl (to2.L.map Api.Kind.c)], [.osl ⟨1, 24⟩ (([] : List Api.Kind).map Api.Kind.c)], [.sl (p.2.1.map Api.Kind.c)]]) (fun p => M.kind_Arrow_l2 fuel l1 p.1 p.2.1 p.2.2 = some o39 ∧ (-1) ≤ p.2.2 ∧ p.2.2 ≤ 399) (fun p => p.1) (fuel, v34.L, ((l1.length : Int) - 1)) ⟨l40, by (try dsimp only); omega, by (try dsimp only); omega⟩ (le_mkS (by simp)) ?_
          rintro ⟨k43, L37, i38⟩ ⟨l40, c41, c42⟩
          dsimp only at l40 c41 c42 ⊢
          cases k43 with
          | zero =>
            rw [M.kind_Arrow_l2] at l40; cases l40
          | succ k44 =>
            rw [M.kind_Arrow_l2] at l40
            refine awp_seq ?_
            refine cut 53 0 [(0, .sl (l1.map Api.Kind.c)), (4, .mptr 1 0), (9, .mptr 2 0), (10, .int .i64 i38), (38, .bool (leI 0 i38))] [[.sl (to2.L.map Api.Kind.c)], [.osl ⟨1, 24⟩ (([] : List Api.Kind).map Api.Kind.c)], [.sl (L37.map Api.Kind.c)]] ?_ ?_
            · refine st ?_
              simp
            rcases sp l40 with ⟨g45, l40⟩ | ⟨g45, l40⟩
            · have c46 := leT g45
              refine condT rfl g45 ?_
              refine awp_skip ?_
              refine seq_eq ?_
              refine awp_seq ?_
              refine awp_block ?_
              obtain ⟨x47, q48, l40⟩ := bs l40
              obtain ⟨q49, q50⟩ := idx_ok q48
              obtain ⟨v51, q52, l40⟩ := bs l40
              obtain ⟨v53, q54, l40⟩ := bs l40
              refine last 53 0 [(0, .sl (l1.map Api.Kind.c)), (4, .mptr 1 0), (9, .mptr 2 0), (10, .int .i64 i38)] [[.sl (to2.L.map Api.Kind.c)], [.osl ⟨1, 24⟩ (([] : List Api.Kind).map Api.Kind.c)], [.sl (v53.L.map Api.Kind.c)]] ?_ fun s1 hs => ?_
              · refine awp_region_draw [] mixed (n := 53) rfl (by decide) ?_
                simp [q49, q50]
                have r56 := kind_copied_ok fuel x47 v51 q52
                try simp [q49, q50] at r56
                refine callD r56 (by simp) rfl ?_
                simp [q49, q50]
                have r57 := kind_pair_ok v51 (Api.Kind.mk L37) v53 q54
                try simp [q49, q50] at r57
                refine callD r57 (by simp) rfl ?_
                simp [q49, q50]
              refine blk_n ?_
              refine seq_le ?_ hs
              have q55 : Rng .i64 (i38 - 1) := by simp only [Rng, inR]; omega
              refine last 53 0 [(0, .sl (l1.map Api.Kind.c)), (4, .mptr 1 0), (9, .mptr 2 0), (10, .int .i64 (i38 - 1))] [[.sl (to2.L.map Api.Kind.c)], [.osl ⟨1, 24⟩ (([] : List Api.Kind).map Api.Kind.c)], [.sl (v53.L.map Api.Kind.c)]] ?_ fun s1 hs => ?_
              · refine st ?_
                simp [q55]
              exact ⟨(k44, v53.L, i38 - 1), hs, ⟨l40, by (try dsimp only); omega, by (try dsimp only); omega⟩, by simp⟩
            · have c58 := leF g45
              refine condF rfl g45 ?_
              refine awp_exit ?_
              refine exit_seq ?_
              have q59 := Option.some.inj l40
              have q59 := q59.symm
              refine exit_seq ?_
              refine exit_blk ?_
              refine seq_le (t := mkS 53 0 [(4, .mptr 1 0), (9, .mptr 2 0)] [[.sl (to2.L.map Api.Kind.c)], [.osl ⟨1, 24⟩ (([] : List Api.Kind).map Api.Kind.c)], [.sl (o39.map Api.Kind.c)]]) ?_ (le_mkS (by simp [q59]))
              refine awp_seq ?_
              obtain ⟨v60, q61, h⟩ := bs h
              refine cut 53 0 [(4, .mptr 1 0), (9, .mptr 2 0), (50, .bool (!v60))] [[.sl (to2.L.map Api.Kind.c)], [.osl ⟨1, 24⟩ (([] : List Api.Kind).map Api.Kind.c)], [.sl (o39.map Api.Kind.c)]] ?_ ?_
              · refine st ?_
                simp
                have r65 := kind_Valid_ok fuel (Api.Kind.mk o39) v60 q61
                try simp [] at r65
                refine callPure r65 (by simp) rfl ?_
                simp
              rcases sp h with ⟨g62, h⟩ | ⟨g62, h⟩
              · have g63 := notT g62
                refine condT rfl g62 ?_
                refine cut 53 0 [(4, .mptr 1 0), (5, .int .i64 5)] [[.sl (to2.L.map Api.Kind.c)], [.osl ⟨1, 24⟩ (([] : List Api.Kind).map Api.Kind.c)], [.sl (o39.map Api.Kind.c)]] ?_ ?_
                · refine st ?_
                  simp
                refine awp_ret ?_
                refine ret_seq ?_
                obtain rfl := Option.some.inj h
                simp
              · have g64 := notF g62
                refine condF rfl g62 ?_
                refine awp_skip ?_
                refine seq_eq ?_
                refine cut 53 0 [(4, .mptr 1 0), (5, .int .i64 0)] [[.sl (to2.L.map Api.Kind.c)], [.sl (o39.map Api.Kind.c)], [.sl (o39.map Api.Kind.c)]] ?_ ?_
                · refine st ?_
                  simp
                refine awp_ret ?_
                obtain rfl := Option.some.inj h
                simp
end Go.Proofs.Ytcdjdpoahngkjaa
set_option linter.unusedVariables false
set_option linter.unusedSimpArgs false
set_option maxRecDepth 100000
set_option maxHeartbeats 1000000
namespace Go.Proofs.Ytcdjdpoahngkjaa
open Go Go.Abs
theorem kind_Apply_ok (fuel : Nat) (f1 : Api.Kind) (a2 : Api.Kind) (r : Api.Kind × Int) (h : M.kind_Apply fuel f1 a2 = some r) : Pure Try.prog 12 [.agg [.sl (f1.L.map Api.Kind.c)], .agg [.sl (a2.L.map Api.Kind.c)]] (.tup [.agg [.sl (r.1.L.map Api.Kind.c)], .int .i64 r.2]) := by
  rw [M.kind_Apply] at h
  refine pure_of_body Try.func12 (by rfl) (by rfl) (by simp) (by simp) (by simp) ?_
  refine cut 36 0 [(2, .mptr 0 0), (3, .mptr 1 0), (4, .mptr 2 0)] [[.sl (f1.L.map Api.Kind.c)], [.sl (a2.L.map Api.Kind.c)], [.osl ⟨1, 24⟩ (([] : List Api.Kind).map Api.Kind.c)]] ?_ ?_
  · refine st ?_
    simp
  refine awp_seq ?_
  refine awp_block ?_
  obtain ⟨b10, q11, h⟩ := bs h
  refine cut 36 0 [(2, .mptr 0 0), (3, .mptr 1 0), (4, .mptr 2 0), (6, .bool b10)] [[.sl (f1.L.map Api.Kind.c)], [.sl (a2.L.map Api.Kind.c)], [.osl ⟨1, 24⟩ (([] : List Api.Kind).map Api.Kind.c)]] ?_ ?_
  · obtain ⟨v3, q4, q11⟩ := bs q11
    rcases sp q11 with ⟨g5, q11⟩ | ⟨g5, q11⟩
    · have g6 := notT g5
      obtain rfl := Option.some.inj q11
      refine st ?_
      simp [g5]
      have r29 := kind_Valid_ok fuel f1 v3 q4
      try simp [g5] at r29
      refine callPure r29 (by simp) rfl ?_
      simp [g5]
    · have g7 := notF g5
      obtain ⟨v8, q9, q11⟩ := bs q11
      obtain rfl := Option.some.inj q11
      refine st ?_
      simp [g5]
      have r30 := kind_Valid_ok fuel f1 v3 q4
      try simp [g5] at r30
      refine callPure r30 (by simp) rfl ?_
      simp [g5]
      have r31 := kind_Valid_ok fuel a2 v8 q9
      try simp [g5] at r31
      refine callPure r31 (by simp) rfl ?_
      simp [g5]
  rcases sp h with ⟨g12, h⟩ | ⟨g12, h⟩
  · refine condT rfl g12 ?_
    refine cut 36 0 [(4, .mptr 2 0), (5, .int .i64 1)] [[.sl (f1.L.map Api.Kind.c)], [.sl (a2.L.map Api.Kind.c)], [.osl ⟨1, 24⟩ (([] : List Api.Kind).map Api.Kind.c)]] ?_ ?_
    · refine st ?_
      simp
    refine awp_ret ?_
    refine ret_blk ?_
    refine ret_seq ?_
    obtain rfl := Option.some.inj h
    simp
  · refine condF rfl g12 ?_
    obtain ⟨b20, q21, h⟩ := bs h
    refine cut 36 0 [(2, .mptr 0 0), (4, .mptr 2 0), (16, .bool b20)] [[.sl (f1.L.map Api.Kind.c)], [.sl (a2.L.map Api.Kind.c)], [.osl ⟨1, 24⟩ (([] : List Api.Kind).map Api.Kind.c)]] ?_ ?_
    · rcases sp q21 with ⟨g13, q21⟩ | ⟨g13, q21⟩
      · have c14 := eqT g13
        obtain rfl := Option.some.inj q21
        refine awp_region_draw [] mixed (n := 36) rfl (by decide) ?_
        simp [g13]
      · have c15 := eqF g13
        obtain ⟨x16, q17, q21⟩ := bs q21
        obtain ⟨v18, q19, q21⟩ := bs q21
        obtain rfl := Option.some.inj q21
        refine awp_region_draw [] mixed (n := 36) rfl (by decide) ?_
        simp [g13, q17]
        have r28 := kind_equal_ok fuel x16 a2 v18 q19
        try simp [g13, q17] at r28
        refine callD r28 (by simp) rfl ?_
        simp [g13, q17]
    rcases sp h with ⟨g22, h⟩ | ⟨g22, h⟩
    · refine condT rfl g22 ?_
      refine cut 36 0 [(4, .mptr 2 0), (5, .int .i64 11)] [[.sl (f1.L.map Api.Kind.c)], [.sl (a2.L.map Api.Kind.c)], [.osl ⟨1, 24⟩ (([] : List Api.Kind).map Api.Kind.c)]] ?_ ?_
      · refine st ?_
        simp
      refine awp_ret ?_
      refine ret_blk ?_
      refine ret_seq ?_
      obtain rfl := Option.some.inj h
      simp
    · refine condF rfl g22 ?_
      refine awp_skip ?_
      refine blk_n ?_
      refine seq_eq ?_
      obtain ⟨x23, q24, h⟩ := bs h
      obtain ⟨v25, q26, h⟩ := bs h
      refine cut 36 0 [(4, .mptr 2 0), (5, .int .i64 0)] [[.sl (f1.L.map Api.Kind.c)], [.sl (a2.L.map Api.Kind.c)], [.sl (v25.L.map Api.Kind.c)]] ?_ ?_
      · refine st ?_
        simp [q24]
        have r27 := kind_copied_ok fuel x23 v25 q26
        try simp [q24] at r27
        refine callPure r27 (by simp) rfl ?_
        simp [q24]
      refine awp_ret ?_
      obtain rfl := Option.some.inj h
      simp
end Go.Proofs.Ytcdjdpoahngkjaa
set_option linter.unusedVariables false
set_option linter.unusedSimpArgs false
set_option maxRecDepth 100000
set_option maxHeartbeats 1000000
namespace Go.Proofs.Ytcdjdpoahngkjaa
open Go Go.Abs
theorem ref08_count_ok (fuel : Nat) : (∀ (k1 : Api.Kind) (left2 : Int) (depth3 : Int) (r : Int) (_ : M.ref08_count fuel k1 left2 depth3 = some r), Pure Try.prog 36 [.agg [.sl (k1.L.map Api.Kind.c)], .int .i64 left2, .int .i64 depth3] (.int .i64 r)) := by
  induction fuel with
  | zero => intro k1 left2 depth3 r h; rw [M.ref08_count] at h; cases h
  | succ fuel ih_ref08_count =>
    intro k1 left2 depth3 r h
    rw [M.ref08_count] at h
    refine pure_of_body Try.func36 (by rfl) (by rfl) (by simp) (by simp) (by simp) ?_
    refine cut 49 0 [(1, .int .i64 left2), (2, .int .i64 depth3), (3, .mptr 0 0)] [[.sl (k1.L.map Api.Kind.c)]] ?_ ?_
    · refine st ?_
      simp
    refine awp_seq ?_
    refine cut 49 0 [(1, .int .i64 left2), (2, .int .i64 depth3), (3, .mptr 0 0), (25, .bool ((ltI left2 1) || ((ltI depth3 1) || ((!(eqI (k1.L.length : Int) 0)) && (!(eqI (k1.L.length : Int) 2))))))] [[.sl (k1.L.map Api.Kind.c)]] ?_ ?_
    · rcases tf (ltI left2 1) with g4 | g4
      · have c5 := ltT g4
        refine st ?_
        simp [g4]
      · have c6 := ltF g4
        rcases tf (ltI depth3 1) with g7 | g7
        · have c8 := ltT g7
          refine st ?_
          simp [g4, g7]
        · have c9 := ltF g7
          rcases tf (!(eqI (k1.L.length : Int) 0)) with g10 | g10
          · have g11 := notT g10
            have c12 := eqF g11
            refine st ?_
            simp [g4, g7, g10]
          · have g13 := notF g10
            have c14 := eqT g13
            refine st ?_
            simp [g4, g7, g10]
    rcases sp h with ⟨g15, h⟩ | ⟨g15, h⟩
    · refine condT rfl g15 ?_
      refine cut 49 0 [(6, .int .i64 (-1))] [[.sl (k1.L.map Api.Kind.c)]] ?_ ?_
      · refine st ?_
        simp
      refine awp_ret ?_
      refine ret_seq ?_
      obtain rfl := Option.some.inj h
      simp
    · obtain ⟨g16, g17⟩ := orF g15
      have c18 := ltF g16
      obtain ⟨g19, g20⟩ := orF g17
      have c21 := ltF g19
      refine condF rfl g15 ?_
      refine awp_skip ?_
      refine seq_eq ?_
      obtain ⟨n22, q23, h⟩ := bs h
      obtain ⟨q24, q25⟩ := chk_ok q23
      try simp at q24
      try simp at q25
      have c26 := q24; simp only [Rng, inR] at c26
      refine cut 49 0 [(1, .int .i64 n22), (2, .int .i64 depth3), (3, .mptr 0 0)] [[.sl (k1.L.map Api.Kind.c)]] ?_ ?_
      · refine st ?_
        simp [q24, q25]
      refine awp_seq ?_
      refine cut 49 0 [(1, .int .i64 n22), (2, .int .i64 depth3), (3, .mptr 0 0), (7, .int .i64 0)] [[.sl (k1.L.map Api.Kind.c)]] ?_ ?_
      · refine st ?_
        simp
      refine awp_block ?_
      obtain ⟨o29, l30, h⟩ := bs h
      refine awp_inv (fun p : Nat × Int × Nat => mkS 49 0 [(1, .int .i64 p.2.1), (2, .int .i64 depth3), (3, .mptr 0 0), (7, .int .i64 ((p.2.2 : Nat) : Int))] [[.sl (k1.L.map Api.Kind.c)]]) (fun p => M.ref08_count_l1 (M.ref08_count fuel) k1 depth3 p.1 p.2.1 p.2.2 = some o29) (fun p => p.1) (fuel, n22, 0) l30 (le_mkS (by simp)) ?_
      rintro ⟨k31, left27, i28⟩ l30
      dsimp only at l30 ⊢
      cases k31 with
      | zero =>
        rw [M.ref08_count_l1] at l30; cases l30
      | succ k32 =>
        rw [M.ref08_count_l1] at l30
        refine awp_seq ?_
        refine cut 49 0 [(1, .int .i64 left27), (2, .int .i64 depth3), (3, .mptr 0 0), (7, .int .i64 ((i28 : Nat) : Int)), (36, .bool ((ltI ((i28 : Nat) : Int) (k1.L.length : Int)) && (leI 0 left27)))] [[.sl (k1.L.map Api.Kind.c)]] ?_ ?_
        · rcases tf (ltI ((i28 : Nat) : Int) (k1.L.length : Int)) with g33 | g33
          · have c34 := ltT g33
            refine factCL 0 0 rfl rfl rfl fun f35 => ?_
            rw [List.length_map] at f35
            refine st ?_
            simp [g33]
          · have c36 := ltF g33
            refine factCL 0 0 rfl rfl rfl fun f37 => ?_
            rw [List.length_map] at f37
            refine st ?_
            simp [g33]
        rcases sp l30 with ⟨g38, l30⟩ | ⟨g38, l30⟩
        · obtain ⟨g39, g40⟩ := andT g38
          have c41 := ltT g39
          have c43 := leT g40
          refine condT rfl g38 ?_
          refine factCL 0 0 rfl rfl rfl fun f42 => ?_
          rw [List.length_map] at f42
          refine awp_skip ?_
          refine seq_eq ?_
          refine awp_seq ?_
          refine awp_block ?_
          obtain ⟨x44, q45, l30⟩ := bs l30
          obtain ⟨n46, q47, l30⟩ := bs l30
          obtain ⟨q48, q49⟩ := chk_ok q47
          try simp at q48
          try simp at q49
          have c50 := q48; simp only [Rng, inR] at c50
          obtain ⟨v51, q52, l30⟩ := bs l30
          refine last 49 0 [(1, .int .i64 v51), (2, .int .i64 depth3), (3, .mptr 0 0), (7, .int .i64 ((i28 : Nat) : Int))] [[.sl (k1.L.map Api.Kind.c)]] ?_ fun s1 hs => ?_
          · refine st ?_
            simp [q45, q48, q49]
            have r54 := ih_ref08_count x44 left27 n46 v51 q52
            try simp [q45, q48, q49] at r54
            refine callPure r54 (by simp) rfl ?_
            simp [q45, q48, q49]
          refine blk_n ?_
          refine seq_le ?_ hs
          have q53 : Rng .i64 (((i28 : Nat) : Int) + 1) := by simp only [Rng, inR]; omega
          refine last 49 0 [(1, .int .i64 v51), (2, .int .i64 depth3), (3, .mptr 0 0), (7, .int .i64 ((i28 + 1 : Nat) : Int))] [[.sl (k1.L.map Api.Kind.c)]] ?_ fun s1 hs => ?_
          · refine st ?_
            simp [q53]
          exact ⟨(k32, v51, i28 + 1), hs, l30, by simp⟩
        · refine condF rfl g38 ?_
          refine awp_exit ?_
          refine exit_seq ?_
          have q55 := Option.some.inj l30
          have q55 := q55.symm
          refine exit_seq ?_
          refine exit_blk ?_
          refine seq_le (t := mkS 49 0 [(1, .int .i64 o29)] [[.sl (k1.L.map Api.Kind.c)]]) ?_ (le_mkS (by simp [q55]))
          refine cut 49 0 [(6, .int .i64 o29)] [[.sl (k1.L.map Api.Kind.c)]] ?_ ?_
          · refine st ?_
            simp
          refine awp_ret ?_
          obtain rfl := Option.some.inj h
          simp
end Go.Proofs.Ytcdjdpoahngkjaa
set_option linter.unusedVariables false
set_option linter.unusedSimpArgs false
set_option maxRecDepth 100000
set_option maxHeartbeats 1000000
namespace Go.Proofs.Ytcdjdpoahngkjaa
open Go Go.Abs
theorem ref08_Valid_ok (fuel : Nat) (k1 : Api.Kind) (r : Bool) (h : M.ref08_Valid fuel k1 = some r) : Pure Try.prog 13 [.agg [.sl (k1.L.map Api.Kind.c)]] (.bool r) := by
  rw [M.ref08_Valid] at h
  refine pure_of_body Try.func13 (by rfl) (by rfl) (by simp) (by simp) (by simp) ?_
  refine cut 6 0 [(1, .mptr 0 0)] [[.sl (k1.L.map Api.Kind.c)]] ?_ ?_
  · refine st ?_
    simp
  obtain ⟨v2, q3, h⟩ := bs h
  refine cut 6 0 [(2, .bool (leI 0 v2))] [[.sl (k1.L.map Api.Kind.c)]] ?_ ?_
  · refine st ?_
    simp
    have r4 := ref08_count_ok fuel k1 20000 400 v2 q3
    try simp [] at r4
    refine callPure r4 (by simp) rfl ?_
    simp
  refine awp_ret ?_
  obtain rfl := Option.some.inj h
  simp
end Go.Proofs.Ytcdjdpoahngkjaa
set_option linter.unusedVariables false
set_option linter.unusedSimpArgs false
set_option maxRecDepth 100000
set_option maxHeartbeats 1000000
namespace Go.Proofs.Ytcdjdpoahngkjaa
open Go Go.Abs
theorem ref08_All_ok (fuel : Nat) (l1 : (List Api.Kind)) (r : Bool) (h : M.ref08_All fuel l1 = some r) : Pure Try.prog 31 [.sl (l1.map Api.Kind.c)] (.bool r) := by
  rw [M.ref08_All] at h
  refine pure_of_body Try.func31 (by rfl) (by rfl) (by simp) (by simp) (by simp) ?_
  refine cut 16 0 [(0, .sl (l1.map Api.Kind.c))] [] ?_ ?_
  · refine st ?_
    simp
  refine awp_seq ?_
  refine cut 16 0 [(0, .sl (l1.map Api.Kind.c)), (3, .int .i64 0)] [] ?_ ?_
  · refine st ?_
    simp
  refine awp_block ?_
  obtain ⟨o4, l5, h⟩ := bs h
  refine awp_inv (fun p : Nat × Nat => mkS 16 0 [(0, .sl (l1.map Api.Kind.c)), (3, .int .i64 ((p.2 : Nat) : Int))] []) (fun p => M.ref08_All_l1 fuel l1 p.1 p.2 = some o4) (fun p => p.1) (fuel, 0) l5 (le_mkS (by simp)) ?_
  rintro ⟨k6, i2⟩ l5
  dsimp only at l5 ⊢
  cases k6 with
  | zero =>
    rw [M.ref08_All_l1] at l5; cases l5
  | succ k7 =>
    rw [M.ref08_All_l1] at l5
    refine awp_seq ?_
    refine cut 16 0 [(0, .sl (l1.map Api.Kind.c)), (3, .int .i64 ((i2 : Nat) : Int)), (7, .bool (ltI ((i2 : Nat) : Int) (l1.length : Int)))] [] ?_ ?_
    · refine st ?_
      simp
    rcases sp l5 with ⟨g8, l5⟩ | ⟨g8, l5⟩
    · have c9 := ltT g8
      refine condT rfl g8 ?_
      refine factL 0 rfl fun f10 => ?_
      rw [List.length_map] at f10
      refine awp_skip ?_
      refine seq_eq ?_
      refine awp_seq ?_
      refine awp_block ?_
      obtain ⟨x11, q12, l5⟩ := bs l5
      obtain ⟨v13, q14, l5⟩ := bs l5
      refine cut 16 0 [(0, .sl (l1.map Api.Kind.c)), (3, .int .i64 ((i2 : Nat) : Int)), (15, .bool (!v13))] [] ?_ ?_
      · refine st ?_
        simp [q12]
        have r19 := ref08_Valid_ok fuel x11 v13 q14
        try simp [q12] at r19
        refine callPure r19 (by simp) rfl ?_
        simp [q12]
      rcases sp l5 with ⟨g15, l5⟩ | ⟨g15, l5⟩
      · have g16 := notT g15
        refine condT rfl g15 ?_
        refine cut 16 0 [(2, .bool false)] [] ?_ ?_
        · refine st ?_
          simp
        refine awp_ret ?_
        refine ret_blk ?_
        refine ret_seq ?_
        replace h := retL l5 h
        refine ret_seq ?_
        refine ret_blk ?_
        refine ret_seq ?_
        obtain rfl := Option.some.inj h
        simp
      · have g17 := notF g15
        refine condF rfl g15 ?_
        refine awp_skip ?_
        refine blk_n ?_
        refine seq_eq ?_
        have q18 : Rng .i64 (((i2 : Nat) : Int) + 1) := by simp only [Rng, inR]; omega
        refine last 16 0 [(0, .sl (l1.map Api.Kind.c)), (3, .int .i64 ((i2 + 1 : Nat) : Int))] [] ?_ fun s1 hs => ?_
        · refine st ?_
          simp [q18]
        exact ⟨(k7, i2 + 1), hs, l5, by simp⟩
    · have c20 := ltF g8
      refine condF rfl g8 ?_
      refine factL 0 rfl fun f21 => ?_
      rw [List.length_map] at f21
      refine awp_exit ?_
      refine exit_seq ?_
      rcases o4 with o4 | o3
      · cases l5
      have q22 := Sum.inr.inj (Option.some.inj l5)
      replace h := elimR h
      refine exit_seq ?_
      refine exit_blk ?_
      refine seq_le (t := mkS 16 0 [] []) ?_ (le_mkS (by simp []))
      refine cut 16 0 [(2, .bool true)] [] ?_ ?_
      · refine st ?_
        simp
      refine awp_ret ?_
      obtain rfl := Option.some.inj h
      simp
end Go.Proofs.Ytcdjdpoahngkjaa
set_option linter.unusedVariables false
set_option linter.unusedSimpArgs false
set_option maxRecDepth 100000
set_option maxHeartbeats 1000000
namespace Go.Proofs.Ytcdjdpoahngkjaa
open Go Go.Abs
theorem law08_big_1_ok (fuel : Nat) : (∀ (k1 : Api.Kind) (depth2 : Int) (c3 : Int) (r : Int) (_ : M.law08_big_1 fuel k1 depth2 c3 = some r), Raw Try.prog 33 [.agg [.sl (k1.L.map Api.Kind.c)], .int .i64 depth2, .mptr 0 0, .mptr 1 0] [[.int .i64 c3], [.fn (.func 33) [] [.mptr 0 0, .mptr 1 0]]] (.tup []) [[.int .i64 r], [.fn (.func 33) [] [.mptr 0 0, .mptr 1 0]]]) := by
  induction fuel with
  | zero => intro k1 depth2 c3 r h; rw [M.law08_big_1] at h; cases h
  | succ fuel ih_law08_big_1 =>
    intro k1 depth2 c3 r h
    rw [M.law08_big_1] at h
    refine raw_of_bodyB Try.func33 (by rfl) (by rfl) (by simp) (by simp) ?_
    refine cut 37 2 [(1, .int .i64 depth2), (2, .mptr 0 0), (3, .mptr 1 0), (4, .mptr 2 0)] [[.int .i64 c3], [.fn (.func 33) [] [.mptr 0 0, .mptr 1 0]], [.sl (k1.L.map Api.Kind.c)]] ?_ ?_
    · refine st ?_
      simp
    obtain ⟨n4, q5, h⟩ := bs h
    obtain ⟨q6, q7⟩ := chk_ok q5
    try simp at q6
    try simp at q7
    have c8 := q6; simp only [Rng, inR] at c8
    refine cut 37 2 [(1, .int .i64 depth2), (2, .mptr 0 0), (3, .mptr 1 0), (4, .mptr 2 0)] [[.int .i64 n4], [.fn (.func 33) [] [.mptr 0 0, .mptr 1 0]], [.sl (k1.L.map Api.Kind.c)]] ?_ ?_
    · refine st ?_
      simp [q6, q7]
    refine awp_seq ?_
    refine cut 37 2 [(1, .int .i64 depth2), (2, .mptr 0 0), (3, .mptr 1 0), (4, .mptr 2 0), (16, .bool ((ltI 60 depth2) || (ltI 10 (k1.L.length : Int))))] [[.int .i64 n4], [.fn (.func 33) [] [.mptr 0 0, .mptr 1 0]], [.sl (k1.L.map Api.Kind.c)]] ?_ ?_
    · rcases tf (ltI 60 depth2) with g9 | g9
      · have c10 := ltT g9
        refine st ?_
        simp [g9]
      · have c11 := ltF g9
        refine st ?_
        simp [g9]
    rcases sp h with ⟨g12, h⟩ | ⟨g12, h⟩
    · refine condT rfl g12 ?_
      refine last 37 2 [(1, .int .i64 depth2), (2, .mptr 0 0), (3, .mptr 1 0), (4, .mptr 2 0)] [[.int .i64 1000], [.fn (.func 33) [] [.mptr 0 0, .mptr 1 0]], [.sl (k1.L.map Api.Kind.c)]] ?_ fun s1 hs => ?_
      · refine st ?_
        simp
      refine seq_le ?_ hs
      refine cut 37 2 [(1, .int .i64 depth2), (2, .mptr 0 0), (3, .mptr 1 0), (4, .mptr 2 0), (6, .int .i64 0)] [[.int .i64 1000], [.fn (.func 33) [] [.mptr 0 0, .mptr 1 0]], [.sl (k1.L.map Api.Kind.c)]] ?_ ?_
      · refine st ?_
        simp
      refine awp_block ?_
      obtain ⟨o15, l16, h⟩ := bs h
      refine awp_inv (fun p : Nat × Int × Nat => mkS 37 2 [(1, .int .i64 depth2), (2, .mptr 0 0), (3, .mptr 1 0), (4, .mptr 2 0), (6, .int .i64 ((p.2.2 : Nat) : Int))] [[.int .i64 p.2.1], [.fn (.func 33) [] [.mptr 0 0, .mptr 1 0]], [.sl (k1.L.map Api.Kind.c)]]) (fun p => M.law08_big_1_l1 (M.law08_big_1 fuel) k1 depth2 p.1 p.2.1 p.2.2 = some o15) (fun p => p.1) (fuel, 1000, 0) l16 (le_mkS (by simp)) ?_
      rintro ⟨k17, a13, i14⟩ l16
      dsimp only at l16 ⊢
      cases k17 with
      | zero =>
        rw [M.law08_big_1_l1] at l16; cases l16
      | succ k18 =>
        rw [M.law08_big_1_l1] at l16
        refine awp_seq ?_
        refine cut 37 2 [(1, .int .i64 depth2), (2, .mptr 0 0), (3, .mptr 1 0), (4, .mptr 2 0), (6, .int .i64 ((i14 : Nat) : Int)), (25, .bool ((ltI ((i14 : Nat) : Int) (k1.L.length : Int)) && (leI a13 300)))] [[.int .i64 a13], [.fn (.func 33) [] [.mptr 0 0, .mptr 1 0]], [.sl (k1.L.map Api.Kind.c)]] ?_ ?_
        · rcases tf (ltI ((i14 : Nat) : Int) (k1.L.length : Int)) with g19 | g19
          · have c20 := ltT g19
            refine factCL 2 0 rfl rfl rfl fun f21 => ?_
            rw [List.length_map] at f21
            refine st ?_
            simp [g19]
          · have c22 := ltF g19
            refine factCL 2 0 rfl rfl rfl fun f23 => ?_
            rw [List.length_map] at f23
            refine st ?_
            simp [g19]
        rcases sp l16 with ⟨g24, l16⟩ | ⟨g24, l16⟩
        · obtain ⟨g25, g26⟩ := andT g24
          have c27 := ltT g25
          have c29 := leT g26
          refine condT rfl g24 ?_
          refine factCL 2 0 rfl rfl rfl fun f28 => ?_
          rw [List.length_map] at f28
          refine awp_skip ?_
          refine seq_eq ?_
          refine awp_seq ?_
          refine awp_block ?_
          obtain ⟨x30, q31, l16⟩ := bs l16
          obtain ⟨n32, q33, l16⟩ := bs l16
          obtain ⟨q34, q35⟩ := chk_ok q33
          try simp at q34
          try simp at q35
          have c36 := q34; simp only [Rng, inR] at c36
          obtain ⟨v37, q38, l16⟩ := bs l16
          refine last 37 2 [(1, .int .i64 depth2), (2, .mptr 0 0), (3, .mptr 1 0), (4, .mptr 2 0), (6, .int .i64 ((i14 : Nat) : Int))] [[.int .i64 v37], [.fn (.func 33) [] [.mptr 0 0, .mptr 1 0]], [.sl (k1.L.map Api.Kind.c)]] ?_ fun s1 hs => ?_
          · refine awp_region_pin [] [8] mixed (n := 37) rfl (by decide) (by decide) ?_
            simp [q31, q34, q35]
            have r40 := (ih_law08_big_1 x30 n32 a13 v37 q38).frame [0, 1] [[.int .i64 a13], [.fn (.func 33) [] [.mptr 0 0, .mptr 1 0]], [.sl (k1.L.map Api.Kind.c)]] (by simp)
            try simp [q31, q34, q35] at r40
            refine callX r40 (by simp [q31, q34, q35]) rfl ?_
            simp [q31, q34, q35]
          refine blk_n ?_
          refine seq_le ?_ hs
          have q39 : Rng .i64 (((i14 : Nat) : Int) + 1) := by simp only [Rng, inR]; omega
          refine last 37 2 [(1, .int .i64 depth2), (2, .mptr 0 0), (3, .mptr 1 0), (4, .mptr 2 0), (6, .int .i64 ((i14 + 1 : Nat) : Int))] [[.int .i64 v37], [.fn (.func 33) [] [.mptr 0 0, .mptr 1 0]], [.sl (k1.L.map Api.Kind.c)]] ?_ fun s1 hs => ?_
          · refine st ?_
            simp [q39]
          exact ⟨(k18, v37, i14 + 1), hs, l16, by simp⟩
        · refine condF rfl g24 ?_
          refine awp_exit ?_
          refine exit_seq ?_
          have q41 := Option.some.inj l16
          have q41 := q41.symm
          refine exit_seq ?_
          refine exit_blk ?_
          obtain rfl := Option.some.inj h
          simp [q41]
    · obtain ⟨g42, g43⟩ := orF g12
      have c44 := ltF g42
      have c45 := ltF g43
      refine condF rfl g12 ?_
      refine factCL 2 0 rfl rfl rfl fun f46 => ?_
      rw [List.length_map] at f46
      refine awp_skip ?_
      refine seq_eq ?_
      refine cut 37 2 [(1, .int .i64 depth2), (2, .mptr 0 0), (3, .mptr 1 0), (4, .mptr 2 0), (6, .int .i64 0)] [[.int .i64 n4], [.fn (.func 33) [] [.mptr 0 0, .mptr 1 0]], [.sl (k1.L.map Api.Kind.c)]] ?_ ?_
      · refine st ?_
        simp
      refine awp_block ?_
      obtain ⟨o49, l50, h⟩ := bs h
      refine awp_inv (fun p : Nat × Int × Nat => mkS 37 2 [(1, .int .i64 depth2), (2, .mptr 0 0), (3, .mptr 1 0), (4, .mptr 2 0), (6, .int .i64 ((p.2.2 : Nat) : Int))] [[.int .i64 p.2.1], [.fn (.func 33) [] [.mptr 0 0, .mptr 1 0]], [.sl (k1.L.map Api.Kind.c)]]) (fun p => M.law08_big_1_l2 (M.law08_big_1 fuel) k1 depth2 p.1 p.2.1 p.2.2 = some o49) (fun p => p.1) (fuel, n4, 0) l50 (le_mkS (by simp)) ?_
      rintro ⟨k51, a47, i48⟩ l50
      dsimp only at l50 ⊢
      cases k51 with
      | zero =>
        rw [M.law08_big_1_l2] at l50; cases l50
      | succ k52 =>
        rw [M.law08_big_1_l2] at l50
        refine awp_seq ?_
        refine cut 37 2 [(1, .int .i64 depth2), (2, .mptr 0 0), (3, .mptr 1 0), (4, .mptr 2 0), (6, .int .i64 ((i48 : Nat) : Int)), (25, .bool ((ltI ((i48 : Nat) : Int) (k1.L.length : Int)) && (leI a47 300)))] [[.int .i64 a47], [.fn (.func 33) [] [.mptr 0 0, .mptr 1 0]], [.sl (k1.L.map Api.Kind.c)]] ?_ ?_
        · rcases tf (ltI ((i48 : Nat) : Int) (k1.L.length : Int)) with g53 | g53
          · have c54 := ltT g53
            refine st ?_
            simp [g53]
          · have c55 := ltF g53
            refine st ?_
            simp [g53]
        rcases sp l50 with ⟨g56, l50⟩ | ⟨g56, l50⟩
        · obtain ⟨g57, g58⟩ := andT g56
          have c59 := ltT g57
          have c60 := leT g58
          refine condT rfl g56 ?_
          refine awp_skip ?_
          refine seq_eq ?_
          refine awp_seq ?_
          refine awp_block ?_
          obtain ⟨x61, q62, l50⟩ := bs l50
          obtain ⟨n63, q64, l50⟩ := bs l50
          obtain ⟨q65, q66⟩ := chk_ok q64
          try simp at q65
          try simp at q66
          have c67 := q65; simp only [Rng, inR] at c67
          obtain ⟨v68, q69, l50⟩ := bs l50
          refine last 37 2 [(1, .int .i64 depth2), (2, .mptr 0 0), (3, .mptr 1 0), (4, .mptr 2 0), (6, .int .i64 ((i48 : Nat) : Int))] [[.int .i64 v68], [.fn (.func 33) [] [.mptr 0 0, .mptr 1 0]], [.sl (k1.L.map Api.Kind.c)]] ?_ fun s1 hs => ?_
          · refine awp_region_pin [] [8] mixed (n := 37) rfl (by decide) (by decide) ?_
            simp [q62, q65, q66]
            have r71 := (ih_law08_big_1 x61 n63 a47 v68 q69).frame [0, 1] [[.int .i64 a47], [.fn (.func 33) [] [.mptr 0 0, .mptr 1 0]], [.sl (k1.L.map Api.Kind.c)]] (by simp)
            try simp [q62, q65, q66] at r71
            refine callX r71 (by simp [q62, q65, q66]) rfl ?_
            simp [q62, q65, q66]
          refine blk_n ?_
          refine seq_le ?_ hs
          have q70 : Rng .i64 (((i48 : Nat) : Int) + 1) := by simp only [Rng, inR]; omega
          refine last 37 2 [(1, .int .i64 depth2), (2, .mptr 0 0), (3, .mptr 1 0), (4, .mptr 2 0), (6, .int .i64 ((i48 + 1 : Nat) : Int))] [[.int .i64 v68], [.fn (.func 33) [] [.mptr 0 0, .mptr 1 0]], [.sl (k1.L.map Api.Kind.c)]] ?_ fun s1 hs => ?_
          · refine st ?_
            simp [q70]
          exact ⟨(k52, v68, i48 + 1), hs, l50, by simp⟩
        · refine condF rfl g56 ?_
          refine awp_exit ?_
          refine exit_seq ?_
          have q72 := Option.some.inj l50
          have q72 := q72.symm
          refine exit_seq ?_
          refine exit_blk ?_
          obtain rfl := Option.some.inj h
          simp [q72]
end Go.Proofs.Ytcdjdpoahngkjaa
set_option linter.unusedVariables false
set_option linter.unusedSimpArgs false
set_option maxRecDepth 100000
set_option maxHeartbeats 1000000
namespace Go.Proofs.Ytcdjdpoahngkjaa
open Go Go.Abs
theorem law08_big_ok (fuel : Nat) (k1 : Api.Kind) (r : Bool) (h : M.law08_big fuel k1 = some r) : Pure Try.prog 11 [.agg [.sl (k1.L.map Api.Kind.c)]] (.bool r) := by
  rw [M.law08_big] at h
  refine pure_of_body Try.func11 (by rfl) (by rfl) (by simp) (by simp) (by simp) ?_
  refine cut 11 0 [(1, .mptr 0 0)] [[.sl (k1.L.map Api.Kind.c)]] ?_ ?_
  · refine st ?_
    simp
  refine cut 11 0 [(1, .mptr 0 0), (3, .mptr 1 0)] [[.sl (k1.L.map Api.Kind.c)], [.int .i64 0]] ?_ ?_
  · refine st ?_
    simp
  refine cut 11 0 [(1, .mptr 0 0), (3, .mptr 1 0), (4, .mptr 2 0)] [[.sl (k1.L.map Api.Kind.c)], [.int .i64 0], [.nilfn]] ?_ ?_
  · refine st ?_
    simp
  refine cut 11 0 [(1, .mptr 0 0), (3, .mptr 1 0), (4, .mptr 2 0)] [[.sl (k1.L.map Api.Kind.c)], [.int .i64 0], [.fn (.func 33) [] [.mptr 1 0, .mptr 2 0]]] ?_ ?_
  · refine st ?_
    simp
  obtain ⟨v2, q3, h⟩ := bs h
  refine cut 11 0 [(3, .mptr 1 0)] [[.sl (k1.L.map Api.Kind.c)], [.int .i64 v2], [.fn (.func 33) [] [.mptr 1 0, .mptr 2 0]]] ?_ ?_
  · refine st ?_
    simp
    have r4 := (law08_big_1_ok fuel k1 1 0 v2 q3).frame [1, 2] [[.sl (k1.L.map Api.Kind.c)], [.int .i64 0], [.fn (.func 33) [] [.mptr 1 0, .mptr 2 0]]] (by simp)
    try simp [] at r4
    refine callRaw r4 (by simp []) rfl ?_
    simp
  refine cut 11 0 [(2, .bool (ltI 300 v2))] [[.sl (k1.L.map Api.Kind.c)], [.int .i64 v2], [.fn (.func 33) [] [.mptr 1 0, .mptr 2 0]]] ?_ ?_
  · refine st ?_
    simp
  refine awp_ret ?_
  obtain rfl := Option.some.inj h
  simp
end Go.Proofs.Ytcdjdpoahngkjaa
set_option linter.unusedVariables false
set_option linter.unusedSimpArgs false
set_option maxRecDepth 100000
set_option maxHeartbeats 1000000
namespace Go.Proofs.Ytcdjdpoahngkjaa
open Go Go.Abs
theorem law08_none_ok (k1 : Api.Kind) (r : Bool) (h : M.law08_none k1 = some r) : Pure Try.prog 14 [.agg [.sl (k1.L.map Api.Kind.c)]] (.bool r) := by
  rw [M.law08_none] at h
  refine pure_of_body Try.func14 (by rfl) (by rfl) (by simp) (by simp) (by simp) ?_
  refine cut 7 0 [(1, .mptr 0 0)] [[.sl (k1.L.map Api.Kind.c)]] ?_ ?_
  · refine st ?_
    simp
  refine cut 7 0 [(2, .bool (eqI (k1.L.length : Int) 0))] [[.sl (k1.L.map Api.Kind.c)]] ?_ ?_
  · refine st ?_
    simp
  refine awp_ret ?_
  obtain rfl := Option.some.inj h
  simp
end Go.Proofs.Ytcdjdpoahngkjaa
set_option linter.unusedVariables false
set_option linter.unusedSimpArgs false
set_option maxRecDepth 100000
set_option maxHeartbeats 1000000
namespace Go.Proofs.Ytcdjdpoahngkjaa
open Go Go.Abs
theorem kind_Arity_ok (fuel : Nat) (n1 : Int) (r : Api.Kind × Int) (h : M.kind_Arity fuel n1 = some r) : Pure Try.prog 24 [.int .i64 n1] (.tup [.agg [.sl (r.1.L.map Api.Kind.c)], .int .i64 r.2]) := by
  rw [M.kind_Arity] at h
  refine pure_of_body Try.func24 (by rfl) (by rfl) (by simp) (by simp) (by simp) ?_
  refine cut 20 0 [(0, .int .i64 n1), (2, .mptr 0 0)] [[.osl ⟨1, 24⟩ (([] : List Api.Kind).map Api.Kind.c)]] ?_ ?_
  · refine st ?_
    simp
  refine awp_seq ?_
  refine cut 20 0 [(0, .int .i64 n1), (2, .mptr 0 0), (10, .bool ((ltI n1 0) || (ltI 100 n1)))] [[.osl ⟨1, 24⟩ (([] : List Api.Kind).map Api.Kind.c)]] ?_ ?_
  · rcases tf (ltI n1 0) with g2 | g2
    · have c3 := ltT g2
      refine st ?_
      simp [g2]
    · have c4 := ltF g2
      refine st ?_
      simp [g2]
  rcases sp h with ⟨g5, h⟩ | ⟨g5, h⟩
  · refine condT rfl g5 ?_
    refine cut 20 0 [(2, .mptr 0 0), (3, .int .i64 2)] [[.osl ⟨1, 24⟩ (([] : List Api.Kind).map Api.Kind.c)]] ?_ ?_
    · refine st ?_
      simp
    refine awp_ret ?_
    refine ret_seq ?_
    obtain rfl := Option.some.inj h
    simp
  · obtain ⟨g6, g7⟩ := orF g5
    have c8 := ltF g6
    have c9 := ltF g7
    refine condF rfl g5 ?_
    refine awp_skip ?_
    refine seq_eq ?_
    refine cut 20 0 [(0, .int .i64 n1), (2, .mptr 0 0), (4, .mptr 1 0)] [[.osl ⟨1, 24⟩ (([] : List Api.Kind).map Api.Kind.c)], [.osl ⟨1, 24⟩ (([] : List Api.Kind).map Api.Kind.c)]] ?_ ?_
    · refine st ?_
      simp
    refine awp_seq ?_
    refine cut 20 0 [(2, .mptr 0 0), (4, .mptr 1 0), (12, .int .i64 n1), (13, .int .i64 0)] [[.osl ⟨1, 24⟩ (([] : List Api.Kind).map Api.Kind.c)], [.osl ⟨1, 24⟩ (([] : List Api.Kind).map Api.Kind.c)]] ?_ ?_
    · refine st ?_
      simp
    refine awp_block ?_
    obtain ⟨o12, l13, h⟩ := bs h
    refine awp_inv (fun p : Nat × (List Api.Kind) × Nat => mkS 20 0 [(2, .mptr 0 0), (4, .mptr 1 0), (12, .int .i64 n1), (13, .int .i64 ((p.2.2 : Nat) : Int))] [[.osl ⟨1, 24⟩ (([] : List Api.Kind).map Api.Kind.c)], [.sl (p.2.1.map Api.Kind.c)]]) (fun p => M.kind_Arity_l1 n1 p.1 p.2.1 p.2.2 = some o12) (fun p => p.1) (fuel, ([] : List Api.Kind), 0) l13 (le_mkS (by simp)) ?_
    rintro ⟨k14, L10, i11⟩ l13
    dsimp only at l13 ⊢
    cases k14 with
    | zero =>
      rw [M.kind_Arity_l1] at l13; cases l13
    | succ k15 =>
      rw [M.kind_Arity_l1] at l13
      refine cut 20 0 [(2, .mptr 0 0), (4, .mptr 1 0), (12, .int .i64 n1), (13, .int .i64 ((i11 : Nat) : Int)), (14, .bool (ltI ((i11 : Nat) : Int) n1))] [[.osl ⟨1, 24⟩ (([] : List Api.Kind).map Api.Kind.c)], [.sl (L10.map Api.Kind.c)]] ?_ ?_
      · refine st ?_
        simp
      refine awp_seq ?_
      rcases sp l13 with ⟨g16, l13⟩ | ⟨g16, l13⟩
      · have c17 := ltT g16
        refine condT rfl g16 ?_
        refine awp_skip ?_
        refine seq_eq ?_
        refine awp_seq ?_
        refine awp_block ?_
        obtain ⟨v18, q19, l13⟩ := bs l13
        obtain ⟨v20, q21, l13⟩ := bs l13
        refine last 20 0 [(2, .mptr 0 0), (4, .mptr 1 0), (12, .int .i64 n1), (13, .int .i64 ((i11 : Nat) : Int))] [[.osl ⟨1, 24⟩ (([] : List Api.Kind).map Api.Kind.c)], [.sl (v20.L.map Api.Kind.c)]] ?_ fun s1 hs => ?_
        · refine awp_region_draw [] mixed (n := 20) rfl (by decide) ?_
          simp
          have r23 := kind_Star_ok v18 q19
          try simp [] at r23
          refine callD r23 (by simp) rfl ?_
          simp
          have r24 := kind_pair_ok v18 (Api.Kind.mk L10) v20 q21
          try simp [] at r24
          refine callD r24 (by simp) rfl ?_
          simp
        refine blk_n ?_
        refine seq_le ?_ hs
        have q22 : Rng .i64 (((i11 : Nat) : Int) + 1) := by simp only [Rng, inR]; omega
        refine last 20 0 [(2, .mptr 0 0), (4, .mptr 1 0), (12, .int .i64 n1), (13, .int .i64 ((i11 + 1 : Nat) : Int))] [[.osl ⟨1, 24⟩ (([] : List Api.Kind).map Api.Kind.c)], [.sl (v20.L.map Api.Kind.c)]] ?_ fun s1 hs => ?_
        · refine st ?_
          simp [q22]
        exact ⟨(k15, v20.L, i11 + 1), hs, l13, by simp⟩
      · have c25 := ltF g16
        refine condF rfl g16 ?_
        refine awp_exit ?_
        refine exit_seq ?_
        have q26 := Option.some.inj l13
        have q26 := q26.symm
        refine exit_seq ?_
        refine exit_blk ?_
        refine seq_le (t := mkS 20 0 [(2, .mptr 0 0), (4, .mptr 1 0)] [[.osl ⟨1, 24⟩ (([] : List Api.Kind).map Api.Kind.c)], [.sl (o12.map Api.Kind.c)]]) ?_ (le_mkS (by simp [q26]))
        refine cut 20 0 [(2, .mptr 0 0), (3, .int .i64 0)] [[.sl (o12.map Api.Kind.c)], [.sl (o12.map Api.Kind.c)]] ?_ ?_
        · refine st ?_
          simp
        refine awp_ret ?_
        obtain rfl := Option.some.inj h
        simp
end Go.Proofs.Ytcdjdpoahngkjaa
set_option linter.unusedVariables false
set_option linter.unusedSimpArgs false
set_option maxRecDepth 100000
set_option maxHeartbeats 1000000
namespace Go.Proofs.Ytcdjdpoahngkjaa
open Go Go.Abs
theorem strings_Builder_WriteByte_ok (c1 : UInt8) (b2 : (List UInt8)) (r : (List UInt8)) (h : M.strings_Builder_WriteByte c1 b2 = some r) : Raw Try.prog 48 [.mptr 0 0, .int .u8 (c1.toNat : Int)] [[.baddr 62 0, .osl ⟨1, 5⟩ (b2.map cU)]] (.nilif) [[.baddr 62 0, .osl ⟨1, 5⟩ (r.map cU)]] := by
  rw [M.strings_Builder_WriteByte] at h
  refine raw_of_bodyB Try.func48 (by rfl) (by rfl) (by simp) (by simp) ?_
  refine cut 17 1 [(0, .mptr 0 0), (1, .int .u8 (c1.toNat : Int))] [[.baddr 62 0, .osl ⟨1, 5⟩ (b2.map cU)]] ?_ ?_
  · refine st ?_
    simp
  obtain ⟨v3, q4, h⟩ := bs h
  refine cut 17 1 [(0, .mptr 0 0), (1, .int .u8 (c1.toNat : Int))] [[.baddr 62 0, .osl ⟨1, 5⟩ (b2.map cU)]] ?_ ?_
  · refine st ?_
    simp
    have r9 := (strings_Builder_copyCheck_ok b2 v3 q4).frame [0] [[.baddr 62 0, .osl ⟨1, 5⟩ (b2.map cU)]] (by simp)
    try simp [] at r9
    refine callRaw r9 (by simp []) rfl ?_
    simp
  obtain ⟨l5, q6, h⟩ := bs h
  obtain ⟨q7, q8⟩ := app_ok q6
  try simp at q7
  refine cut 17 1 [] [[.baddr 62 0, .osl ⟨1, 5⟩ (l5.map cU)]] ?_ ?_
  · refine st ?_
    simp [q7, q8]
  refine cut 17 1 [(4, .nilif)] [[.baddr 62 0, .osl ⟨1, 5⟩ (l5.map cU)]] ?_ ?_
  · refine st ?_
    simp
  refine awp_ret ?_
  obtain rfl := Option.some.inj h
  simp
end Go.Proofs.Ytcdjdpoahngkjaa
set_option linter.unusedVariables false
set_option linter.unusedSimpArgs false
set_option maxRecDepth 100000
set_option maxHeartbeats 1000000
namespace Go.Proofs.Ytcdjdpoahngkjaa
open Go Go.Abs
theorem strings_Builder_WriteString_ok (s1 : (List UInt8)) (b2 : (List UInt8)) (r : Int × (List UInt8)) (h : M.strings_Builder_WriteString s1 b2 = some r) : Raw Try.prog 49 [.mptr 0 0, .str s1] [[.baddr 62 0, .osl ⟨1, 5⟩ (b2.map cU)]] (.tup [.int .i64 r.1, .nilif]) [[.baddr 62 0, .osl ⟨1, 5⟩ (r.2.map cU)]] := by
  rw [M.strings_Builder_WriteString] at h
  refine raw_of_bodyB Try.func49 (by rfl) (by rfl) (by simp) (by simp) ?_
  refine cut 19 1 [(0, .mptr 0 0), (1, .str s1)] [[.baddr 62 0, .osl ⟨1, 5⟩ (b2.map cU)]] ?_ ?_
  · refine st ?_
    simp
  obtain ⟨v3, q4, h⟩ := bs h
  refine cut 19 1 [(0, .mptr 0 0), (1, .str s1)] [[.baddr 62 0, .osl ⟨1, 5⟩ (b2.map cU)]] ?_ ?_
  · refine st ?_
    simp
    have r9 := (strings_Builder_copyCheck_ok b2 v3 q4).frame [0] [[.baddr 62 0, .osl ⟨1, 5⟩ (b2.map cU)]] (by simp)
    try simp [] at r9
    refine callRaw r9 (by simp []) rfl ?_
    simp
  obtain ⟨l5, q6, h⟩ := bs h
  obtain ⟨q7, q8⟩ := app_ok q6
  try simp at q7
  refine cut 19 1 [(1, .str s1)] [[.baddr 62 0, .osl ⟨1, 5⟩ (l5.map cU)]] ?_ ?_
  · refine st ?_
    simp [q7, q8]
  refine cut 19 1 [(4, .int .i64 (s1.length : Int)), (5, .nilif)] [[.baddr 62 0, .osl ⟨1, 5⟩ (l5.map cU)]] ?_ ?_
  · refine st ?_
    simp
  refine awp_ret ?_
  obtain rfl := Option.some.inj h
  simp
end Go.Proofs.Ytcdjdpoahngkjaa
set_option linter.unusedVariables false
set_option linter.unusedSimpArgs false
set_option maxRecDepth 100000
set_option maxHeartbeats 1000000
namespace Go.Proofs.Ytcdjdpoahngkjaa
open Go Go.Abs
theorem kind_write_ok (fuel : Nat) : (∀ (k1 : Api.Kind) (b2 : (List UInt8)) (r : (List UInt8)) (_ : M.kind_write fuel k1 b2 = some r), Raw Try.prog 39 [.mptr 0 0, .agg [.sl (k1.L.map Api.Kind.c)]] [[.baddr 62 0, .osl ⟨1, 5⟩ (b2.map cU)]] (.tup []) [[.baddr 62 0, .osl ⟨1, 5⟩ (r.map cU)]]) := by
  induction fuel with
  | zero => intro k1 b2 r h; rw [M.kind_write] at h; cases h
  | succ fuel ih_kind_write =>
    intro k1 b2 r h
    rw [M.kind_write] at h
    refine raw_of_bodyB Try.func39 (by rfl) (by rfl) (by simp) (by simp) ?_
    refine cut 37 1 [(0, .mptr 0 0), (3, .mptr 1 0)] [[.baddr 62 0, .osl ⟨1, 5⟩ (b2.map cU)], [.sl (k1.L.map Api.Kind.c)]] ?_ ?_
    · refine st ?_
      simp
    refine awp_seq ?_
    refine cut 37 1 [(0, .mptr 0 0), (3, .mptr 1 0), (7, .bool (eqI (k1.L.length : Int) 0))] [[.baddr 62 0, .osl ⟨1, 5⟩ (b2.map cU)], [.sl (k1.L.map Api.Kind.c)]] ?_ ?_
    · refine st ?_
      simp
    rcases sp h with ⟨g3, h⟩ | ⟨g3, h⟩
    · have c4 := eqT g3
      refine condT rfl g3 ?_
      obtain ⟨v5, q6, h⟩ := bs h
      refine cut 37 1 [] [[.baddr 62 0, .osl ⟨1, 5⟩ (v5.map cU)], [.sl (k1.L.map Api.Kind.c)]] ?_ ?_
      · refine st ?_
        simp
        have r7 := (strings_Builder_WriteByte_ok (42 : UInt8) b2 v5 q6).frame [0] [[.baddr 62 0, .osl ⟨1, 5⟩ (b2.map cU)], [.sl (k1.L.map Api.Kind.c)]] (by simp)
        try simp [] at r7
        refine callRaw r7 (by simp []) rfl ?_
        simp
      refine awp_ret ?_
      refine ret_seq ?_
      obtain rfl := Option.some.inj h
      simp
    · have c8 := eqF g3
      refine condF rfl g3 ?_
      refine awp_skip ?_
      refine seq_eq ?_
      refine awp_seq ?_
      obtain ⟨x9, q10, h⟩ := bs h
      refine cut 37 1 [(0, .mptr 0 0), (3, .mptr 1 0), (16, .bool (eqI (x9.L.length : Int) 0))] [[.baddr 62 0, .osl ⟨1, 5⟩ (b2.map cU)], [.sl (k1.L.map Api.Kind.c)]] ?_ ?_
      · refine st ?_
        simp [q10]
      rcases sp h with ⟨g11, h⟩ | ⟨g11, h⟩
      · have c12 := eqT g11
        refine condT rfl g11 ?_
        obtain ⟨v13, q14, h⟩ := bs h
        refine last 37 1 [(0, .mptr 0 0), (3, .mptr 1 0)] [[.baddr 62 0, .osl ⟨1, 5⟩ (v13.map cU)], [.sl (k1.L.map Api.Kind.c)]] ?_ fun s1 hs => ?_
        · refine st ?_
          simp
          have r23 := (strings_Builder_WriteByte_ok (42 : UInt8) b2 v13 q14).frame [0] [[.baddr 62 0, .osl ⟨1, 5⟩ (b2.map cU)], [.sl (k1.L.map Api.Kind.c)]] (by simp)
          try simp [] at r23
          refine callRaw r23 (by simp []) rfl ?_
          simp
        refine seq_le ?_ hs
        obtain ⟨v15, q16, h⟩ := bs h
        refine cut 37 1 [(0, .mptr 0 0), (3, .mptr 1 0)] [[.baddr 62 0, .osl ⟨1, 5⟩ (v15.2.map cU)], [.sl (k1.L.map Api.Kind.c)]] ?_ ?_
        · refine st ?_
          simp
          have r22 := (strings_Builder_WriteString_ok [32, 45, 62, 32] v13 v15 q16).frame [0] [[.baddr 62 0, .osl ⟨1, 5⟩ (v13.map cU)], [.sl (k1.L.map Api.Kind.c)]] (by simp)
          try simp [] at r22
          refine callRaw r22 (by simp []) rfl ?_
          simp
        obtain ⟨x17, q18, h⟩ := bs h
        obtain ⟨v19, q20, h⟩ := bs h
        obtain rfl := Option.some.inj h
        refine st ?_
        simp [q18]
        have r21 := (ih_kind_write x17 v15.2 v19 q20).frame [0] [[.baddr 62 0, .osl ⟨1, 5⟩ (v15.2.map cU)], [.sl (k1.L.map Api.Kind.c)]] (by simp)
        try simp [q18] at r21
        refine callRaw r21 (by simp [q18]) rfl ?_
        simp [q18]
      · have c24 := eqF g11
        refine condF rfl g11 ?_
        obtain ⟨v25, q26, h⟩ := bs h
        refine cut 37 1 [(0, .mptr 0 0), (3, .mptr 1 0)] [[.baddr 62 0, .osl ⟨1, 5⟩ (v25.map cU)], [.sl (k1.L.map Api.Kind.c)]] ?_ ?_
        · refine st ?_
          simp
          have r41 := (strings_Builder_WriteByte_ok (40 : UInt8) b2 v25 q26).frame [0] [[.baddr 62 0, .osl ⟨1, 5⟩ (b2.map cU)], [.sl (k1.L.map Api.Kind.c)]] (by simp)
          try simp [] at r41
          refine callRaw r41 (by simp []) rfl ?_
          simp
        obtain ⟨v27, q28, h⟩ := bs h
        refine cut 37 1 [(0, .mptr 0 0), (3, .mptr 1 0)] [[.baddr 62 0, .osl ⟨1, 5⟩ (v27.map cU)], [.sl (k1.L.map Api.Kind.c)]] ?_ ?_
        · refine st ?_
          simp [q10]
          have r40 := (ih_kind_write x9 v25 v27 q28).frame [0] [[.baddr 62 0, .osl ⟨1, 5⟩ (v25.map cU)], [.sl (k1.L.map Api.Kind.c)]] (by simp)
          try simp [q10] at r40
          refine callRaw r40 (by simp [q10]) rfl ?_
          simp [q10]
        obtain ⟨v29, q30, h⟩ := bs h
        refine last 37 1 [(0, .mptr 0 0), (3, .mptr 1 0)] [[.baddr 62 0, .osl ⟨1, 5⟩ (v29.map cU)], [.sl (k1.L.map Api.Kind.c)]] ?_ fun s1 hs => ?_
        · refine st ?_
          simp
          have r39 := (strings_Builder_WriteByte_ok (41 : UInt8) v27 v29 q30).frame [0] [[.baddr 62 0, .osl ⟨1, 5⟩ (v27.map cU)], [.sl (k1.L.map Api.Kind.c)]] (by simp)
          try simp [] at r39
          refine callRaw r39 (by simp []) rfl ?_
          simp
        refine seq_le ?_ hs
        obtain ⟨v31, q32, h⟩ := bs h
        refine cut 37 1 [(0, .mptr 0 0), (3, .mptr 1 0)] [[.baddr 62 0, .osl ⟨1, 5⟩ (v31.2.map cU)], [.sl (k1.L.map Api.Kind.c)]] ?_ ?_
        · refine st ?_
          simp
          have r38 := (strings_Builder_WriteString_ok [32, 45, 62, 32] v29 v31 q32).frame [0] [[.baddr 62 0, .osl ⟨1, 5⟩ (v29.map cU)], [.sl (k1.L.map Api.Kind.c)]] (by simp)
          try simp [] at r38
          refine callRaw r38 (by simp []) rfl ?_
          simp
        obtain ⟨x33, q34, h⟩ := bs h
        obtain ⟨v35, q36, h⟩ := bs h
        obtain rfl := Option.some.inj h
        refine st ?_
        simp [q34]
        have r37 := (ih_kind_write x33 v31.2 v35 q36).frame [0] [[.baddr 62 0, .osl ⟨1, 5⟩ (v31.2.map cU)], [.sl (k1.L.map Api.Kind.c)]] (by simp)
        try simp [q34] at r37
        refine callRaw r37 (by simp [q34]) rfl ?_
        simp [q34]
end Go.Proofs.Ytcdjdpoahngkjaa
set_option linter.unusedVariables false
set_option linter.unusedSimpArgs false
set_option maxRecDepth 100000
set_option maxHeartbeats 1000000
namespace Go.Proofs.Ytcdjdpoahngkjaa
open Go Go.Abs
theorem strings_Builder_Len_ok (b1 : (List UInt8)) (r : Int) (h : M.strings_Builder_Len b1 = some r) : Raw Try.prog 40 [.mptr 0 0] [[.baddr 62 0, .osl ⟨1, 5⟩ (b1.map cU)]] (.int .i64 r) [[.baddr 62 0, .osl ⟨1, 5⟩ (b1.map cU)]] := by
  rw [M.strings_Builder_Len] at h
  refine raw_of_bodyB Try.func40 (by rfl) (by rfl) (by simp) (by simp) ?_
  refine cut 8 1 [(0, .mptr 0 0)] [[.baddr 62 0, .osl ⟨1, 5⟩ (b1.map cU)]] ?_ ?_
  · refine st ?_
    simp
  refine cut 8 1 [(2, .int .i64 (b1.length : Int))] [[.baddr 62 0, .osl ⟨1, 5⟩ (b1.map cU)]] ?_ ?_
  · refine st ?_
    simp
  refine awp_ret ?_
  obtain rfl := Option.some.inj h
  simp
end Go.Proofs.Ytcdjdpoahngkjaa
set_option linter.unusedVariables false
set_option linter.unusedSimpArgs false
set_option maxRecDepth 100000
set_option maxHeartbeats 1000000
namespace Go.Proofs.Ytcdjdpoahngkjaa
open Go Go.Abs
theorem kind_Text_ok (fuel : Nat) (k1 : Api.Kind) (r : (List UInt8) × Int) (h : M.kind_Text fuel k1 = some r) : Pure Try.prog 20 [.agg [.sl (k1.L.map Api.Kind.c)]] (.tup [.str r.1, .int .i64 r.2]) := by
  rw [M.kind_Text] at h
  refine pure_of_body Try.func20 (by rfl) (by rfl) (by simp) (by simp) (by simp) ?_
  refine cut 18 0 [(1, .mptr 0 0)] [[.sl (k1.L.map Api.Kind.c)]] ?_ ?_
  · refine st ?_
    simp
  refine awp_seq ?_
  obtain ⟨v2, q3, h⟩ := bs h
  refine cut 18 0 [(1, .mptr 0 0), (7, .bool (!v2))] [[.sl (k1.L.map Api.Kind.c)]] ?_ ?_
  · refine st ?_
    simp
    have r19 := kind_Valid_ok fuel k1 v2 q3
    try simp [] at r19
    refine callPure r19 (by simp) rfl ?_
    simp
  rcases sp h with ⟨g4, h⟩ | ⟨g4, h⟩
  · have g5 := notT g4
    refine condT rfl g4 ?_
    refine cut 18 0 [(2, .str ([] : List UInt8)), (3, .int .i64 1)] [[.sl (k1.L.map Api.Kind.c)]] ?_ ?_
    · refine st ?_
      simp
    refine awp_ret ?_
    refine ret_seq ?_
    obtain rfl := Option.some.inj h
    simp
  · have g6 := notF g4
    refine condF rfl g4 ?_
    refine awp_skip ?_
    refine seq_eq ?_
    refine cut 18 0 [(1, .mptr 0 0), (4, .mptr 1 0)] [[.sl (k1.L.map Api.Kind.c)], [.baddr 62 1, .osl ⟨1, 5⟩ (([] : List UInt8).map cU)]] ?_ ?_
    · refine st ?_
      simp
    obtain ⟨v7, q8, h⟩ := bs h
    refine cut 18 0 [(4, .mptr 1 0)] [[.sl (k1.L.map Api.Kind.c)], [.baddr 62 1, .osl ⟨1, 5⟩ (v7.map cU)]] ?_ ?_
    · refine st ?_
      simp
      have r18 := (kind_write_ok fuel k1 ([] : List UInt8) v7 q8).frame [1] [[.sl (k1.L.map Api.Kind.c)], [.baddr 62 1, .osl ⟨1, 5⟩ (([] : List UInt8).map cU)]] (by simp)
      try simp [] at r18
      refine callRaw r18 (by simp []) rfl ?_
      simp
    refine awp_seq ?_
    obtain ⟨v9, q10, h⟩ := bs h
    refine cut 18 0 [(4, .mptr 1 0), (15, .bool (ltI 16384 v9))] [[.sl (k1.L.map Api.Kind.c)], [.baddr 62 1, .osl ⟨1, 5⟩ (v7.map cU)]] ?_ ?_
    · refine st ?_
      simp
      have r17 := (strings_Builder_Len_ok v7 v9 q10).frame [1] [[.sl (k1.L.map Api.Kind.c)], [.baddr 62 1, .osl ⟨1, 5⟩ (v7.map cU)]] (by simp)
      try simp [] at r17
      refine callRaw r17 (by simp []) rfl ?_
      simp
    rcases sp h with ⟨g11, h⟩ | ⟨g11, h⟩
    · have c12 := ltT g11
      refine condT rfl g11 ?_
      refine cut 18 0 [(2, .str ([] : List UInt8)), (3, .int .i64 5)] [[.sl (k1.L.map Api.Kind.c)], [.baddr 62 1, .osl ⟨1, 5⟩ (v7.map cU)]] ?_ ?_
      · refine st ?_
        simp
      refine awp_ret ?_
      refine ret_seq ?_
      obtain rfl := Option.some.inj h
      simp
    · have c13 := ltF g11
      refine condF rfl g11 ?_
      refine awp_skip ?_
      refine seq_eq ?_
      obtain ⟨v14, q15, h⟩ := bs h
      refine cut 18 0 [(2, .str v14), (3, .int .i64 0)] [[.sl (k1.L.map Api.Kind.c)], [.baddr 62 1, .osl ⟨1, 5⟩ (v7.map cU)]] ?_ ?_
      · refine st ?_
        simp
        have r16 := (strings_Builder_String_ok v7 v14 q15).frame [1] [[.sl (k1.L.map Api.Kind.c)], [.baddr 62 1, .osl ⟨1, 5⟩ (v7.map cU)]] (by simp)
        try simp [] at r16
        refine callRaw r16 (by simp []) rfl ?_
        simp
      refine awp_ret ?_
      obtain rfl := Option.some.inj h
      simp
end Go.Proofs.Ytcdjdpoahngkjaa
set_option linter.unusedVariables false
set_option linter.unusedSimpArgs false
set_option maxRecDepth 100000
set_option maxHeartbeats 1000000
namespace Go.Proofs.Ytcdjdpoahngkjaa
open Go Go.Abs
theorem law08_awake_ok (fuel : Nat) (r : Bool) (h : M.law08_awake fuel = some r) : Pure Try.prog 10 [] (.bool r) := by
  rw [M.law08_awake] at h
  refine pure_of_body Try.func10 (by rfl) (by rfl) (by simp) (by simp) (by simp) ?_
  refine cut 65 0 [] [] ?_ ?_
  · refine st ?_
    simp
  obtain ⟨v1, q2, h⟩ := bs h
  refine cut 65 0 [(1, .mptr 0 0), (2, .int .i64 v1.2)] [[.sl (v1.1.L.map Api.Kind.c)]] ?_ ?_
  · refine st ?_
    simp
    have r40 := kind_Arity_ok fuel 1 v1 q2
    try simp [] at r40
    refine callPure r40 (by simp) rfl ?_
    simp
  obtain ⟨v3, q4, h⟩ := bs h
  obtain ⟨v5, q6, h⟩ := bs h
  obtain ⟨v7, q8, h⟩ := bs h
  refine cut 65 0 [(2, .int .i64 v1.2), (3, .mptr 1 0), (4, .int .i64 v7.2)] [[.sl (v1.1.L.map Api.Kind.c)], [.sl (v7.1.L.map Api.Kind.c)]] ?_ ?_
  · refine awp_region_draw [] mixed (n := 65) rfl (by decide) ?_
    simp
    have r37 := kind_Star_ok v3 q4
    try simp [] at r37
    refine callD r37 (by simp) rfl ?_
    simp
    have r38 := kind_Star_ok v5 q6
    try simp [] at r38
    refine callD r38 (by simp) rfl ?_
    simp
    have r39 := kind_Arrow_ok fuel [v3, v1.1] v5 v7 q8
    try simp [] at r39
    refine callD r39 (by simp) rfl ?_
    simp
  obtain ⟨v9, q10, h⟩ := bs h
  refine cut 65 0 [(2, .int .i64 v1.2), (3, .mptr 1 0), (4, .int .i64 v7.2), (5, .str v9.1), (6, .int .i64 v9.2)] [[.sl (v1.1.L.map Api.Kind.c)], [.sl (v7.1.L.map Api.Kind.c)]] ?_ ?_
  · refine st ?_
    simp
    have r36 := kind_Text_ok fuel v7.1 v9 q10
    try simp [] at r36
    refine callPure r36 (by simp) rfl ?_
    simp
  obtain ⟨v11, q12, h⟩ := bs h
  obtain ⟨v13, q14, h⟩ := bs h
  refine cut 65 0 [(2, .int .i64 v1.2), (4, .int .i64 v7.2), (5, .str v9.1), (6, .int .i64 v9.2), (7, .mptr 2 0), (8, .int .i64 v13.2)] [[.sl (v1.1.L.map Api.Kind.c)], [.sl (v7.1.L.map Api.Kind.c)], [.sl (v13.1.L.map Api.Kind.c)]] ?_ ?_
  · refine awp_region_draw [] mixed (n := 65) rfl (by decide) ?_
    simp
    have r34 := kind_Star_ok v11 q12
    try simp [] at r34
    refine callD r34 (by simp) rfl ?_
    simp
    have r35 := kind_Apply_ok fuel v7.1 v11 v13 q14
    try simp [] at r35
    refine callD r35 (by simp) rfl ?_
    simp
  obtain ⟨v15, q16, h⟩ := bs h
  refine cut 65 0 [(2, .int .i64 v1.2), (4, .int .i64 v7.2), (5, .str v9.1), (6, .int .i64 v9.2), (8, .int .i64 v13.2), (9, .str v15.1), (10, .int .i64 v15.2)] [[.sl (v1.1.L.map Api.Kind.c)], [.sl (v7.1.L.map Api.Kind.c)], [.sl (v13.1.L.map Api.Kind.c)]] ?_ ?_
  · refine st ?_
    simp
    have r33 := kind_Text_ok fuel v13.1 v15 q16
    try simp [] at r33
    refine callPure r33 (by simp) rfl ?_
    simp
  refine cut 65 0 [(0, .bool ((eqI v1.2 0) && ((eqI v7.2 0) && ((eqI v9.2 0) && ((eqS v9.1 [42, 32, 45, 62, 32, 40, 42, 32, 45, 62, 32, 42, 41, 32, 45, 62, 32, 42]) && ((eqI v13.2 0) && ((eqI v15.2 0) && (eqS v15.1 [40, 42, 32, 45, 62, 32, 42, 41, 32, 45, 62, 32, 42]))))))))] [[.sl (v1.1.L.map Api.Kind.c)], [.sl (v7.1.L.map Api.Kind.c)], [.sl (v13.1.L.map Api.Kind.c)]] ?_ ?_
  · rcases tf (eqI v1.2 0) with g17 | g17
    · have c18 := eqT g17
      rcases tf (eqI v7.2 0) with g19 | g19
      · have c20 := eqT g19
        rcases tf (eqI v9.2 0) with g21 | g21
        · have c22 := eqT g21
          rcases tf (eqS v9.1 [42, 32, 45, 62, 32, 40, 42, 32, 45, 62, 32, 42, 41, 32, 45, 62, 32, 42]) with g23 | g23
          · rcases tf (eqI v13.2 0) with g24 | g24
            · have c25 := eqT g24
              rcases tf (eqI v15.2 0) with g26 | g26
              · have c27 := eqT g26
                refine st ?_
                simp [g17, g19, g21, g23, g24, g26]
              · have c28 := eqF g26
                refine st ?_
                simp [g17, g19, g21, g23, g24, g26]
            · have c29 := eqF g24
              refine st ?_
              simp [g17, g19, g21, g23, g24]
          · refine st ?_
            simp [g17, g19, g21, g23]
        · have c30 := eqF g21
          refine st ?_
          simp [g17, g19, g21]
      · have c31 := eqF g19
        refine st ?_
        simp [g17, g19]
    · have c32 := eqF g17
      refine st ?_
      simp [g17]
  refine awp_ret ?_
  obtain rfl := Option.some.inj h
  simp
end Go.Proofs.Ytcdjdpoahngkjaa
set_option linter.unusedVariables false
set_option linter.unusedSimpArgs false
set_option maxRecDepth 100000
set_option maxHeartbeats 1000000
namespace Go.Proofs.Ytcdjdpoahngkjaa
open Go Go.Abs
theorem slices_IndexFunc_api_Kind_big_ok (fuel : Nat) (s1 : (List Api.Kind)) (r : Int) (h : M.slices_IndexFunc_api_Kind_big fuel s1 = some r) : Pure Try.prog 43 [.sl (s1.map Api.Kind.c), .fn (.func 11) [] []] (.int .i64 r) := by
  rw [M.slices_IndexFunc_api_Kind_big] at h
  refine pure_of_body Try.func43 (by rfl) (by rfl) (by simp) (by simp) (by simp) ?_
  refine cut 19 0 [(0, .sl (s1.map Api.Kind.c)), (1, .fn (.func 11) [] [])] [] ?_ ?_
  · refine st ?_
    simp
  refine awp_seq ?_
  refine cut 19 0 [(0, .sl (s1.map Api.Kind.c)), (1, .fn (.func 11) [] []), (7, .int .i64 (s1.length : Int)), (8, .int .i64 0)] [] ?_ ?_
  · refine st ?_
    simp
  refine awp_block ?_
  obtain ⟨o4, l5, h⟩ := bs h
  refine awp_inv (fun p : Nat × Nat => mkS 19 0 [(0, .sl (s1.map Api.Kind.c)), (1, .fn (.func 11) [] []), (7, .int .i64 (s1.length : Int)), (8, .int .i64 ((p.2 : Nat) : Int))] []) (fun p => M.slices_IndexFunc_api_Kind_big_l1 fuel s1 p.1 p.2 = some o4) (fun p => p.1) (fuel, 0) l5 (le_mkS (by simp)) ?_
  rintro ⟨k6, i2⟩ l5
  dsimp only at l5 ⊢
  cases k6 with
  | zero =>
    rw [M.slices_IndexFunc_api_Kind_big_l1] at l5; cases l5
  | succ k7 =>
    rw [M.slices_IndexFunc_api_Kind_big_l1] at l5
    refine cut 19 0 [(0, .sl (s1.map Api.Kind.c)), (1, .fn (.func 11) [] []), (7, .int .i64 (s1.length : Int)), (8, .int .i64 ((i2 : Nat) : Int)), (9, .bool (ltI ((i2 : Nat) : Int) (s1.length : Int)))] [] ?_ ?_
    · refine st ?_
      simp
    refine awp_seq ?_
    rcases sp l5 with ⟨g8, l5⟩ | ⟨g8, l5⟩
    · have c9 := ltT g8
      refine condT rfl g8 ?_
      refine factL 0 rfl fun f10 => ?_
      rw [List.length_map] at f10
      refine awp_skip ?_
      refine seq_eq ?_
      refine awp_seq ?_
      refine awp_block ?_
      refine cut 19 0 [(0, .sl (s1.map Api.Kind.c)), (1, .fn (.func 11) [] []), (5, .int .i64 ((i2 : Nat) : Int)), (7, .int .i64 (s1.length : Int)), (8, .int .i64 ((i2 : Nat) : Int))] [] ?_ ?_
      · refine st ?_
        simp
      obtain ⟨x11, q12, l5⟩ := bs l5
      obtain ⟨v13, q14, l5⟩ := bs l5
      refine cut 19 0 [(0, .sl (s1.map Api.Kind.c)), (1, .fn (.func 11) [] []), (5, .int .i64 ((i2 : Nat) : Int)), (7, .int .i64 (s1.length : Int)), (8, .int .i64 ((i2 : Nat) : Int)), (16, .bool v13)] [] ?_ ?_
      · refine st ?_
        simp [q12]
        have r17 := law08_big_ok fuel x11 v13 q14
        try simp [q12] at r17
        refine callPure r17 (by simp) rfl ?_
        simp [q12]
      rcases sp l5 with ⟨g15, l5⟩ | ⟨g15, l5⟩
      · refine condT rfl g15 ?_
        refine cut 19 0 [(4, .int .i64 ((i2 : Nat) : Int))] [] ?_ ?_
        · refine st ?_
          simp
        refine awp_ret ?_
        refine ret_blk ?_
        refine ret_seq ?_
        replace h := retL l5 h
        refine ret_seq ?_
        refine ret_blk ?_
        refine ret_seq ?_
        obtain rfl := Option.some.inj h
        simp
      · refine condF rfl g15 ?_
        refine awp_skip ?_
        refine blk_n ?_
        refine seq_eq ?_
        have q16 : Rng .i64 (((i2 : Nat) : Int) + 1) := by simp only [Rng, inR]; omega
        refine last 19 0 [(0, .sl (s1.map Api.Kind.c)), (1, .fn (.func 11) [] []), (7, .int .i64 (s1.length : Int)), (8, .int .i64 ((i2 + 1 : Nat) : Int))] [] ?_ fun s1 hs => ?_
        · refine st ?_
          simp [q16]
        exact ⟨(k7, i2 + 1), hs, l5, by simp⟩
    · have c18 := ltF g8
      refine condF rfl g8 ?_
      refine factL 0 rfl fun f19 => ?_
      rw [List.length_map] at f19
      refine awp_exit ?_
      refine exit_seq ?_
      rcases o4 with o4 | o3
      · cases l5
      have q20 := Sum.inr.inj (Option.some.inj l5)
      replace h := elimR h
      refine exit_seq ?_
      refine exit_blk ?_
      refine seq_le (t := mkS 19 0 [] []) ?_ (le_mkS (by simp []))
      refine cut 19 0 [(4, .int .i64 (-1))] [] ?_ ?_
      · refine st ?_
        simp
      refine awp_ret ?_
      obtain rfl := Option.some.inj h
      simp
end Go.Proofs.Ytcdjdpoahngkjaa
set_option linter.unusedVariables false
set_option linter.unusedSimpArgs false
set_option maxRecDepth 100000
set_option maxHeartbeats 1000000
namespace Go.Proofs.Ytcdjdpoahngkjaa
open Go Go.Abs
theorem slices_ContainsFunc_api_Kind_big_ok (fuel : Nat) (s1 : (List Api.Kind)) (r : Bool) (h : M.slices_ContainsFunc_api_Kind_big fuel s1 = some r) : Pure Try.prog 22 [.sl (s1.map Api.Kind.c), .fn (.func 11) [] []] (.bool r) := by
  rw [M.slices_ContainsFunc_api_Kind_big] at h
  refine pure_of_body Try.func22 (by rfl) (by rfl) (by simp) (by simp) (by simp) ?_
  refine cut 9 0 [(0, .sl (s1.map Api.Kind.c)), (1, .fn (.func 11) [] [])] [] ?_ ?_
  · refine st ?_
    simp
  obtain ⟨v2, q3, h⟩ := bs h
  refine cut 9 0 [(4, .bool (leI 0 v2))] [] ?_ ?_
  · refine st ?_
    simp
    have r4 := slices_IndexFunc_api_Kind_big_ok fuel s1 v2 q3
    try simp [] at r4
    refine callPure r4 (by simp) rfl ?_
    simp
  refine awp_ret ?_
  obtain rfl := Option.some.inj h
  simp
end Go.Proofs.Ytcdjdpoahngkjaa
set_option linter.unusedVariables false
set_option linter.unusedSimpArgs false
set_option maxRecDepth 100000
set_option maxHeartbeats 1000000
namespace Go.Proofs.Ytcdjdpoahngkjaa
open Go Go.Abs
theorem slices_Concat_api_Kind_ok (fuel : Nat) (slices1 : (List (List Api.Kind))) (r : (List Api.Kind)) (h : M.slices_Concat_api_Kind fuel slices1 = some r) : Pure Try.prog 32 [.sl (slices1.map (cL Api.Kind.c))] (.sl (r.map Api.Kind.c)) := by
  rw [M.slices_Concat_api_Kind] at h
  refine pure_of_body Try.func32 (by rfl) (by rfl) (by simp) (by simp) (by simp) ?_
  refine cut 36 0 [(0, .sl (slices1.map (cL Api.Kind.c)))] [] ?_ ?_
  · refine st ?_
    simp
  refine cut 36 0 [(0, .sl (slices1.map (cL Api.Kind.c))), (3, .int .i64 0)] [] ?_ ?_
  · refine st ?_
    simp
  refine awp_seq ?_
  refine cut 36 0 [(0, .sl (slices1.map (cL Api.Kind.c))), (3, .int .i64 0), (9, .sl (slices1.map (cL Api.Kind.c))), (10, .int .i64 (slices1.length : Int)), (11, .int .i64 0)] [] ?_ ?_
  · refine st ?_
    simp
  refine awp_block ?_
  obtain ⟨o4, l5, h⟩ := bs h
  refine awp_inv (fun p : Nat × Int × Nat => mkS 36 0 [(0, .sl (slices1.map (cL Api.Kind.c))), (3, .int .i64 p.2.1), (9, .sl (slices1.map (cL Api.Kind.c))), (10, .int .i64 (slices1.length : Int)), (11, .int .i64 ((p.2.2 : Nat) : Int))] []) (fun p => M.slices_Concat_api_Kind_l1 slices1 p.1 p.2.1 p.2.2 = some o4 ∧ 0 ≤ p.2.1) (fun p => p.1) (fuel, 0, 0) ⟨l5, by (try dsimp only); omega⟩ (le_mkS (by simp)) ?_
  rintro ⟨k7, size2, i3⟩ ⟨l5, c6⟩
  dsimp only at l5 c6 ⊢
  cases k7 with
  | zero =>
    rw [M.slices_Concat_api_Kind_l1] at l5; cases l5
  | succ k8 =>
    rw [M.slices_Concat_api_Kind_l1] at l5
    refine cut 36 0 [(0, .sl (slices1.map (cL Api.Kind.c))), (3, .int .i64 size2), (9, .sl (slices1.map (cL Api.Kind.c))), (10, .int .i64 (slices1.length : Int)), (11, .int .i64 ((i3 : Nat) : Int)), (12, .bool (ltI ((i3 : Nat) : Int) (slices1.length : Int)))] [] ?_ ?_
    · refine st ?_
      simp
    refine awp_seq ?_
    rcases sp l5 with ⟨g9, l5⟩ | ⟨g9, l5⟩
    · have c10 := ltT g9
      refine condT rfl g9 ?_
      refine factL 0 rfl fun f11 => ?_
      rw [List.length_map] at f11
      refine awp_skip ?_
      refine seq_eq ?_
      refine awp_seq ?_
      refine awp_block ?_
      obtain ⟨x12, q13, l5⟩ := bs l5
      refine cut 36 0 [(0, .sl (slices1.map (cL Api.Kind.c))), (3, .int .i64 size2), (5, .sl (x12.map Api.Kind.c)), (9, .sl (slices1.map (cL Api.Kind.c))), (10, .int .i64 (slices1.length : Int)), (11, .int .i64 ((i3 : Nat) : Int))] [] ?_ ?_
      · refine st ?_
        simp [q13]
      obtain ⟨n14, q15, l5⟩ := bs l5
      obtain ⟨q16, q17⟩ := chk_ok q15
      try simp at q16
      try simp at q17
      have c18 := q16; simp only [Rng, inR] at c18
      refine cut 36 0 [(0, .sl (slices1.map (cL Api.Kind.c))), (3, .int .i64 n14), (9, .sl (slices1.map (cL Api.Kind.c))), (10, .int .i64 (slices1.length : Int)), (11, .int .i64 ((i3 : Nat) : Int))] [] ?_ ?_
      · refine st ?_
        simp [q16, q17]
      refine cut 36 0 [(0, .sl (slices1.map (cL Api.Kind.c))), (3, .int .i64 n14), (9, .sl (slices1.map (cL Api.Kind.c))), (10, .int .i64 (slices1.length : Int)), (11, .int .i64 ((i3 : Nat) : Int)), (20, .bool (ltI n14 0))] [] ?_ ?_
      · refine st ?_
        simp
      rcases sp l5 with ⟨g19, l5⟩ | ⟨g19, l5⟩
      · have c20 := ltT g19
        refine condT rfl g19 ?_
        cases l5
      · have c21 := ltF g19
        refine condF rfl g19 ?_
        refine awp_skip ?_
        refine blk_n ?_
        refine seq_eq ?_
        have q22 : Rng .i64 (((i3 : Nat) : Int) + 1) := by simp only [Rng, inR]; omega
        refine last 36 0 [(0, .sl (slices1.map (cL Api.Kind.c))), (3, .int .i64 n14), (9, .sl (slices1.map (cL Api.Kind.c))), (10, .int .i64 (slices1.length : Int)), (11, .int .i64 ((i3 + 1 : Nat) : Int))] [] ?_ fun s1 hs => ?_
        · refine st ?_
          simp [q22]
        exact ⟨(k8, n14, i3 + 1), hs, ⟨l5, by (try dsimp only); omega⟩, by simp⟩
    · have c23 := ltF g9
      refine condF rfl g9 ?_
      refine factL 0 rfl fun f24 => ?_
      rw [List.length_map] at f24
      refine awp_exit ?_
      refine exit_seq ?_
      have q25 := Option.some.inj l5
      have q25 := q25.symm
      refine exit_seq ?_
      refine exit_blk ?_
      refine seq_le (t := mkS 36 0 [(0, .sl (slices1.map (cL Api.Kind.c))), (3, .int .i64 o4)] []) ?_ (le_mkS (by simp [q25]))
      obtain ⟨u26, q27, h⟩ := bs h
      obtain ⟨q28, q29⟩ := growC_ok q27
      refine cut 36 0 [(0, .sl (slices1.map (cL Api.Kind.c))), (6, .osl ⟨1, 24⟩ (([] : List Api.Kind).map Api.Kind.c))] [] ?_ ?_
      · refine st ?_
        simp
        have r49 := grow_O o4 q28 q29
        try simp at r49
        refine callOwn r49 (by simp) ?_
        simp
      refine awp_seq ?_
      refine cut 36 0 [(6, .osl ⟨1, 24⟩ (([] : List Api.Kind).map Api.Kind.c)), (25, .sl (slices1.map (cL Api.Kind.c))), (26, .int .i64 (slices1.length : Int)), (27, .int .i64 0)] [] ?_ ?_
      · refine st ?_
        simp
      refine awp_block ?_
      obtain ⟨o32, l33, h⟩ := bs h
      refine awp_inv (fun p : Nat × (List Api.Kind) × Nat => mkS 36 0 [(6, .osl ⟨1, 24⟩ (p.2.1.map Api.Kind.c)), (25, .sl (slices1.map (cL Api.Kind.c))), (26, .int .i64 (slices1.length : Int)), (27, .int .i64 ((p.2.2 : Nat) : Int))] []) (fun p => M.slices_Concat_api_Kind_l2 slices1 p.1 p.2.1 p.2.2 = some o32) (fun p => p.1) (fuel, ([] : List Api.Kind), 0) l33 (le_mkS (by simp)) ?_
      rintro ⟨k34, newslice30, i31⟩ l33
      dsimp only at l33 ⊢
      cases k34 with
      | zero =>
        rw [M.slices_Concat_api_Kind_l2] at l33; cases l33
      | succ k35 =>
        rw [M.slices_Concat_api_Kind_l2] at l33
        refine cut 36 0 [(6, .osl ⟨1, 24⟩ (newslice30.map Api.Kind.c)), (25, .sl (slices1.map (cL Api.Kind.c))), (26, .int .i64 (slices1.length : Int)), (27, .int .i64 ((i31 : Nat) : Int)), (28, .bool (ltI ((i31 : Nat) : Int) (slices1.length : Int)))] [] ?_ ?_
        · refine st ?_
          simp
        refine awp_seq ?_
        rcases sp l33 with ⟨g36, l33⟩ | ⟨g36, l33⟩
        · have c37 := ltT g36
          refine condT rfl g36 ?_
          refine factL 25 rfl fun f38 => ?_
          rw [List.length_map] at f38
          refine awp_skip ?_
          refine seq_eq ?_
          refine awp_seq ?_
          refine awp_block ?_
          obtain ⟨x39, q40, l33⟩ := bs l33
          refine cut 36 0 [(6, .osl ⟨1, 24⟩ (newslice30.map Api.Kind.c)), (8, .sl (x39.map Api.Kind.c)), (25, .sl (slices1.map (cL Api.Kind.c))), (26, .int .i64 (slices1.length : Int)), (27, .int .i64 ((i31 : Nat) : Int))] [] ?_ ?_
          · refine st ?_
            simp [q40]
          obtain ⟨l41, q42, l33⟩ := bs l33
          obtain ⟨q43, q44⟩ := app_ok q42
          try simp at q43
          refine last 36 0 [(6, .osl ⟨1, 24⟩ (l41.map Api.Kind.c)), (25, .sl (slices1.map (cL Api.Kind.c))), (26, .int .i64 (slices1.length : Int)), (27, .int .i64 ((i31 : Nat) : Int))] [] ?_ fun s1 hs => ?_
          · refine st ?_
            simp [q43, q44]
          refine blk_n ?_
          refine seq_le ?_ hs
          have q45 : Rng .i64 (((i31 : Nat) : Int) + 1) := by simp only [Rng, inR]; omega
          refine last 36 0 [(6, .osl ⟨1, 24⟩ (l41.map Api.Kind.c)), (25, .sl (slices1.map (cL Api.Kind.c))), (26, .int .i64 (slices1.length : Int)), (27, .int .i64 ((i31 + 1 : Nat) : Int))] [] ?_ fun s1 hs => ?_
          · refine st ?_
            simp [q45]
          exact ⟨(k35, l41, i31 + 1), hs, l33, by simp⟩
        · have c46 := ltF g36
          refine condF rfl g36 ?_
          refine factL 25 rfl fun f47 => ?_
          rw [List.length_map] at f47
          refine awp_exit ?_
          refine exit_seq ?_
          have q48 := Option.some.inj l33
          have q48 := q48.symm
          refine exit_seq ?_
          refine exit_blk ?_
          refine seq_le (t := mkS 36 0 [(6, .osl ⟨1, 24⟩ (o32.map Api.Kind.c))] []) ?_ (le_mkS (by simp [q48]))
          refine cut 36 0 [(2, .osl ⟨1, 24⟩ (o32.map Api.Kind.c))] [] ?_ ?_
          · refine st ?_
            simp
          refine awp_ret ?_
          obtain rfl := Option.some.inj h
          simp
end Go.Proofs.Ytcdjdpoahngkjaa
set_option linter.unusedVariables false
set_option linter.unusedSimpArgs false
set_option maxRecDepth 100000
set_option maxHeartbeats 1000000
namespace Go.Proofs.Ytcdjdpoahngkjaa
open Go Go.Abs
theorem slices_EqualFunc_api_Kind_Equal_v2_ok (fuel : Nat) (s11 : (List Api.Kind)) (s22 : (List Api.Kind)) (r : Bool) (h : M.slices_EqualFunc_api_Kind_Equal_v2 fuel s11 s22 = some r) : Pure Try.prog 26 [.sl (s11.map Api.Kind.c), .sl (s22.map Api.Kind.c), .fn (.func 17) [] []] (.bool r) := by
  rw [M.slices_EqualFunc_api_Kind_Equal_v2] at h
  refine pure_of_body Try.func26 (by rfl) (by rfl) (by simp) (by simp) (by simp) ?_
  refine cut 32 0 [(0, .sl (s11.map Api.Kind.c)), (1, .sl (s22.map Api.Kind.c)), (2, .fn (.func 17) [] [])] [] ?_ ?_
  · refine st ?_
    simp
  refine awp_seq ?_
  refine cut 32 0 [(0, .sl (s11.map Api.Kind.c)), (1, .sl (s22.map Api.Kind.c)), (2, .fn (.func 17) [] []), (14, .bool (!(eqI (s11.length : Int) (s22.length : Int))))] [] ?_ ?_
  · refine st ?_
    simp
  rcases sp h with ⟨g3, h⟩ | ⟨g3, h⟩
  · have g4 := notT g3
    have c5 := eqF g4
    refine condT rfl g3 ?_
    refine cut 32 0 [(6, .bool false)] [] ?_ ?_
    · refine st ?_
      simp
    refine awp_ret ?_
    refine ret_seq ?_
    obtain rfl := Option.some.inj h
    simp
  · have g6 := notF g3
    have c7 := eqT g6
    refine condF rfl g3 ?_
    refine awp_skip ?_
    refine seq_eq ?_
    refine awp_seq ?_
    refine cut 32 0 [(1, .sl (s22.map Api.Kind.c)), (2, .fn (.func 17) [] []), (15, .sl (s11.map Api.Kind.c)), (16, .int .i64 (s11.length : Int)), (17, .int .i64 0)] [] ?_ ?_
    · refine st ?_
      simp
    refine awp_block ?_
    obtain ⟨o10, l11, h⟩ := bs h
    refine awp_inv (fun p : Nat × Nat => mkS 32 0 [(1, .sl (s22.map Api.Kind.c)), (2, .fn (.func 17) [] []), (15, .sl (s11.map Api.Kind.c)), (16, .int .i64 (s11.length : Int)), (17, .int .i64 ((p.2 : Nat) : Int))] []) (fun p => M.slices_EqualFunc_api_Kind_Equal_v2_l1 fuel s11 s22 p.1 p.2 = some o10) (fun p => p.1) (fuel, 0) l11 (le_mkS (by simp)) ?_
    rintro ⟨k12, i8⟩ l11
    dsimp only at l11 ⊢
    cases k12 with
    | zero =>
      rw [M.slices_EqualFunc_api_Kind_Equal_v2_l1] at l11; cases l11
    | succ k13 =>
      rw [M.slices_EqualFunc_api_Kind_Equal_v2_l1] at l11
      refine cut 32 0 [(1, .sl (s22.map Api.Kind.c)), (2, .fn (.func 17) [] []), (15, .sl (s11.map Api.Kind.c)), (16, .int .i64 (s11.length : Int)), (17, .int .i64 ((i8 : Nat) : Int)), (18, .bool (ltI ((i8 : Nat) : Int) (s11.length : Int)))] [] ?_ ?_
      · refine st ?_
        simp
      refine awp_seq ?_
      rcases sp l11 with ⟨g14, l11⟩ | ⟨g14, l11⟩
      · have c15 := ltT g14
        refine condT rfl g14 ?_
        refine factL 15 rfl fun f16 => ?_
        rw [List.length_map] at f16
        refine awp_skip ?_
        refine seq_eq ?_
        refine awp_seq ?_
        refine awp_block ?_
        obtain ⟨x17, q18, l11⟩ := bs l11
        refine cut 32 0 [(1, .sl (s22.map Api.Kind.c)), (2, .fn (.func 17) [] []), (7, .int .i64 ((i8 : Nat) : Int)), (8, .mptr 0 0), (15, .sl (s11.map Api.Kind.c)), (16, .int .i64 (s11.length : Int)), (17, .int .i64 ((i8 : Nat) : Int))] [[.sl (x17.L.map Api.Kind.c)]] ?_ ?_
        · refine st ?_
          simp [q18]
        obtain ⟨x19, q20, l11⟩ := bs l11
        refine cut 32 0 [(1, .sl (s22.map Api.Kind.c)), (2, .fn (.func 17) [] []), (8, .mptr 0 0), (9, .mptr 1 0), (15, .sl (s11.map Api.Kind.c)), (16, .int .i64 (s11.length : Int)), (17, .int .i64 ((i8 : Nat) : Int))] [[.sl (x17.L.map Api.Kind.c)], [.sl (x19.L.map Api.Kind.c)]] ?_ ?_
        · refine st ?_
          simp [q20]
        obtain ⟨v21, q22, l11⟩ := bs l11
        refine cut 32 0 [(1, .sl (s22.map Api.Kind.c)), (2, .fn (.func 17) [] []), (15, .sl (s11.map Api.Kind.c)), (16, .int .i64 (s11.length : Int)), (17, .int .i64 ((i8 : Nat) : Int)), (30, .bool (!v21))] [[.sl (x17.L.map Api.Kind.c)], [.sl (x19.L.map Api.Kind.c)]] ?_ ?_
        · refine st ?_
          simp
          have r27 := kind_Equal_ok fuel x17 x19 v21 q22
          try simp [] at r27
          refine callPure r27 (by simp) rfl ?_
          simp
        rcases sp l11 with ⟨g23, l11⟩ | ⟨g23, l11⟩
        · have g24 := notT g23
          refine condT rfl g23 ?_
          refine cut 32 0 [(6, .bool false)] [[.sl (x17.L.map Api.Kind.c)], [.sl (x19.L.map Api.Kind.c)]] ?_ ?_
          · refine st ?_
            simp
          refine awp_ret ?_
          refine ret_blk ?_
          refine ret_seq ?_
          replace h := retL l11 h
          refine ret_seq ?_
          refine ret_blk ?_
          refine ret_seq ?_
          obtain rfl := Option.some.inj h
          simp
        · have g25 := notF g23
          refine condF rfl g23 ?_
          refine awp_skip ?_
          refine blk_n ?_
          refine seq_eq ?_
          have q26 : Rng .i64 (((i8 : Nat) : Int) + 1) := by simp only [Rng, inR]; omega
          refine last 32 0 [(1, .sl (s22.map Api.Kind.c)), (2, .fn (.func 17) [] []), (15, .sl (s11.map Api.Kind.c)), (16, .int .i64 (s11.length : Int)), (17, .int .i64 ((i8 + 1 : Nat) : Int))] [] ?_ fun s1 hs => ?_
          · refine st ?_
            simp [q26]
          exact ⟨(k13, i8 + 1), hs, l11, by simp⟩
      · have c28 := ltF g14
        refine condF rfl g14 ?_
        refine factL 15 rfl fun f29 => ?_
        rw [List.length_map] at f29
        refine awp_exit ?_
        refine exit_seq ?_
        rcases o10 with o10 | o9
        · cases l11
        have q30 := Sum.inr.inj (Option.some.inj l11)
        replace h := elimR h
        refine exit_seq ?_
        refine exit_blk ?_
        refine seq_le (t := mkS 32 0 [] []) ?_ (le_mkS (by simp []))
        refine cut 32 0 [(6, .bool true)] [] ?_ ?_
        · refine st ?_
          simp
        refine awp_ret ?_
        obtain rfl := Option.some.inj h
        simp
end Go.Proofs.Ytcdjdpoahngkjaa
set_option linter.unusedVariables false
set_option linter.unusedSimpArgs false
set_option maxRecDepth 100000
set_option maxHeartbeats 1000000
namespace Go.Proofs.Ytcdjdpoahngkjaa
open Go Go.Abs
theorem law08_KindCurries_ok (fuel : Nat) (a1 : Api.Kind) (a2 : (List Api.Kind)) (r : Bool) (h : M.law08_KindCurries fuel a1 a2 = some r) : Pure Try.prog 9 [.agg [.sl (a1.L.map Api.Kind.c)], .sl (a2.map Api.Kind.c)] (.bool r) := by
  rw [M.law08_KindCurries] at h
  refine pure_of_body Try.func9 (by rfl) (by rfl) (by simp) (by simp) (by simp) ?_
  refine cut 124 0 [(1, .sl (a2.map Api.Kind.c)), (2, .mptr 0 0)] [[.sl (a1.L.map Api.Kind.c)]] ?_ ?_
  · refine st ?_
    simp
  refine awp_seq ?_
  obtain ⟨v3, q4, h⟩ := bs h
  refine cut 124 0 [(1, .sl (a2.map Api.Kind.c)), (2, .mptr 0 0), (21, .bool (!v3))] [[.sl (a1.L.map Api.Kind.c)]] ?_ ?_
  · refine st ?_
    simp
    have r136 := law08_awake_ok fuel v3 q4
    try simp [] at r136
    refine callPure r136 (by simp) rfl ?_
    simp
  rcases sp h with ⟨g5, h⟩ | ⟨g5, h⟩
  · have g6 := notT g5
    refine condT rfl g5 ?_
    refine cut 124 0 [(4, .bool false)] [[.sl (a1.L.map Api.Kind.c)]] ?_ ?_
    · refine st ?_
      simp
    refine awp_ret ?_
    refine ret_seq ?_
    obtain rfl := Option.some.inj h
    simp
  · have g7 := notF g5
    refine condF rfl g5 ?_
    refine awp_skip ?_
    refine seq_eq ?_
    refine awp_seq ?_
    obtain ⟨b26, q27, h⟩ := bs h
    refine cut 124 0 [(1, .sl (a2.map Api.Kind.c)), (2, .mptr 0 0), (42, .bool b26)] [[.sl (a1.L.map Api.Kind.c)]] ?_ ?_
    · obtain ⟨v8, q9, q27⟩ := bs q27
      rcases sp q27 with ⟨g10, q27⟩ | ⟨g10, q27⟩
      · obtain rfl := Option.some.inj q27
        refine st ?_
        simp [g10]
        have r125 := law08_big_ok fuel a1 v8 q9
        try simp [g10] at r125
        refine callPure r125 (by simp) rfl ?_
        simp [g10]
      · rcases sp q27 with ⟨g11, q27⟩ | ⟨g11, q27⟩
        · have c12 := ltT g11
          refine factL 1 rfl fun f13 => ?_
          rw [List.length_map] at f13
          obtain rfl := Option.some.inj q27
          refine st ?_
          simp [g10, g11]
          have r126 := law08_big_ok fuel a1 v8 q9
          try simp [g10, g11] at r126
          refine callPure r126 (by simp) rfl ?_
          simp [g10, g11]
        · have c14 := ltF g11
          refine factL 1 rfl fun f15 => ?_
          rw [List.length_map] at f15
          obtain ⟨v16, q17, q27⟩ := bs q27
          rcases sp q27 with ⟨g18, q27⟩ | ⟨g18, q27⟩
          · obtain rfl := Option.some.inj q27
            refine st ?_
            simp [g10, g11, g18]
            have r127 := law08_big_ok fuel a1 v8 q9
            try simp [g10, g11, g18] at r127
            refine callPure r127 (by simp) rfl ?_
            simp [g10, g11, g18]
            have r128 := slices_ContainsFunc_api_Kind_big_ok fuel a2 v16 q17
            try simp [g10, g11, g18] at r128
            refine callPure r128 (by simp) rfl ?_
            simp [g10, g11, g18]
          · obtain ⟨v19, q20, q27⟩ := bs q27
            rcases sp q27 with ⟨g21, q27⟩ | ⟨g21, q27⟩
            · have g22 := notT g21
              obtain rfl := Option.some.inj q27
              refine st ?_
              simp [g10, g11, g18, g21]
              have r129 := law08_big_ok fuel a1 v8 q9
              try simp [g10, g11, g18, g21] at r129
              refine callPure r129 (by simp) rfl ?_
              simp [g10, g11, g18, g21]
              have r130 := slices_ContainsFunc_api_Kind_big_ok fuel a2 v16 q17
              try simp [g10, g11, g18, g21] at r130
              refine callPure r130 (by simp) rfl ?_
              simp [g10, g11, g18, g21]
              have r131 := ref08_Valid_ok fuel a1 v19 q20
              try simp [g10, g11, g18, g21] at r131
              refine callPure r131 (by simp) rfl ?_
              simp [g10, g11, g18, g21]
            · have g23 := notF g21
              obtain ⟨v24, q25, q27⟩ := bs q27
              obtain rfl := Option.some.inj q27
              refine st ?_
              simp [g10, g11, g18, g21]
              have r132 := law08_big_ok fuel a1 v8 q9
              try simp [g10, g11, g18, g21] at r132
              refine callPure r132 (by simp) rfl ?_
              simp [g10, g11, g18, g21]
              have r133 := slices_ContainsFunc_api_Kind_big_ok fuel a2 v16 q17
              try simp [g10, g11, g18, g21] at r133
              refine callPure r133 (by simp) rfl ?_
              simp [g10, g11, g18, g21]
              have r134 := ref08_Valid_ok fuel a1 v19 q20
              try simp [g10, g11, g18, g21] at r134
              refine callPure r134 (by simp) rfl ?_
              simp [g10, g11, g18, g21]
              have r135 := ref08_All_ok fuel a2 v24 q25
              try simp [g10, g11, g18, g21] at r135
              refine callPure r135 (by simp) rfl ?_
              simp [g10, g11, g18, g21]
    rcases sp h with ⟨g28, h⟩ | ⟨g28, h⟩
    · refine condT rfl g28 ?_
      refine cut 124 0 [(4, .bool true)] [[.sl (a1.L.map Api.Kind.c)]] ?_ ?_
      · refine st ?_
        simp
      refine awp_ret ?_
      refine ret_seq ?_
      obtain rfl := Option.some.inj h
      simp
    · refine condF rfl g28 ?_
      refine awp_skip ?_
      refine seq_eq ?_
      obtain ⟨v29, q30, h⟩ := bs h
      refine cut 124 0 [(1, .sl (a2.map Api.Kind.c)), (2, .mptr 0 0), (5, .sl (v29.1.map Api.Kind.c)), (6, .mptr 1 0), (7, .int .i64 v29.2.2)] [[.sl (a1.L.map Api.Kind.c)], [.sl (v29.2.1.L.map Api.Kind.c)]] ?_ ?_
      · refine st ?_
        simp
        have r124 := kind_Parts_ok fuel a1 v29 q30
        try simp [] at r124
        refine callPure r124 (by simp) rfl ?_
        simp
      obtain ⟨v31, q32, h⟩ := bs h
      refine cut 124 0 [(1, .sl (a2.map Api.Kind.c)), (2, .mptr 0 0), (5, .sl (v29.1.map Api.Kind.c)), (7, .int .i64 v29.2.2), (8, .mptr 2 0), (9, .int .i64 v31.2)] [[.sl (a1.L.map Api.Kind.c)], [.sl (v29.2.1.L.map Api.Kind.c)], [.sl (v31.1.L.map Api.Kind.c)]] ?_ ?_
      · refine st ?_
        simp
        have r123 := kind_Arrow_ok fuel v29.1 v29.2.1 v31 q32
        try simp [] at r123
        refine callPure r123 (by simp) rfl ?_
        simp
      refine awp_seq ?_
      obtain ⟨b45, q46, h⟩ := bs h
      refine cut 124 0 [(1, .sl (a2.map Api.Kind.c)), (2, .mptr 0 0), (5, .sl (v29.1.map Api.Kind.c)), (8, .mptr 2 0), (66, .bool b45)] [[.sl (a1.L.map Api.Kind.c)], [.sl (v29.2.1.L.map Api.Kind.c)], [.sl (v31.1.L.map Api.Kind.c)]] ?_ ?_
      · rcases sp q46 with ⟨g33, q46⟩ | ⟨g33, q46⟩
        · have g34 := notT g33
          have c35 := eqF g34
          obtain rfl := Option.some.inj q46
          refine st ?_
          simp [g33]
        · have g36 := notF g33
          have c37 := eqT g36
          rcases sp q46 with ⟨g38, q46⟩ | ⟨g38, q46⟩
          · have g39 := notT g38
            have c40 := eqF g39
            obtain rfl := Option.some.inj q46
            refine st ?_
            simp [g33, g38]
          · have g41 := notF g38
            have c42 := eqT g41
            obtain ⟨v43, q44, q46⟩ := bs q46
            obtain rfl := Option.some.inj q46
            refine st ?_
            simp [g33, g38]
            have r122 := kind_Equal_ok fuel v31.1 a1 v43 q44
            try simp [g33, g38] at r122
            refine callPure r122 (by simp) rfl ?_
            simp [g33, g38]
      rcases sp h with ⟨g47, h⟩ | ⟨g47, h⟩
      · refine condT rfl g47 ?_
        refine cut 124 0 [(4, .bool false)] [[.sl (a1.L.map Api.Kind.c)], [.sl (v29.2.1.L.map Api.Kind.c)], [.sl (v31.1.L.map Api.Kind.c)]] ?_ ?_
        · refine st ?_
          simp
        refine awp_ret ?_
        refine ret_seq ?_
        obtain rfl := Option.some.inj h
        simp
      · refine condF rfl g47 ?_
        refine awp_skip ?_
        refine seq_eq ?_
        refine awp_seq ?_
        refine cut 124 0 [(1, .sl (a2.map Api.Kind.c)), (2, .mptr 0 0), (5, .sl (v29.1.map Api.Kind.c)), (8, .mptr 2 0), (67, .sl (v29.1.map Api.Kind.c)), (68, .int .i64 (v29.1.length : Int)), (69, .int .i64 0)] [[.sl (a1.L.map Api.Kind.c)], [.sl (v29.2.1.L.map Api.Kind.c)], [.sl (v31.1.L.map Api.Kind.c)]] ?_ ?_
        · refine st ?_
          simp
        refine awp_block ?_
        obtain ⟨o51, l52, h⟩ := bs h
        refine awp_inv (fun p : Nat × (List Api.Kind) × Nat => mkS 124 0 [(1, .sl (a2.map Api.Kind.c)), (2, .mptr 0 0), (5, .sl (v29.1.map Api.Kind.c)), (8, .mptr 2 0), (67, .sl (v29.1.map Api.Kind.c)), (68, .int .i64 (v29.1.length : Int)), (69, .int .i64 ((p.2.2 : Nat) : Int))] [[.sl (a1.L.map Api.Kind.c)], [.sl (v29.2.1.L.map Api.Kind.c)], [.sl (p.2.1.map Api.Kind.c)]]) (fun p => M.law08_KindCurries_l1 fuel v29 p.1 p.2.1 p.2.2 = some o51) (fun p => p.1) (fuel, v31.1.L, 0) l52 (le_mkS (by simp)) ?_
        rintro ⟨k53, L48, i49⟩ l52
        dsimp only at l52 ⊢
        cases k53 with
        | zero =>
          rw [M.law08_KindCurries_l1] at l52; cases l52
        | succ k54 =>
          rw [M.law08_KindCurries_l1] at l52
          refine cut 124 0 [(1, .sl (a2.map Api.Kind.c)), (2, .mptr 0 0), (5, .sl (v29.1.map Api.Kind.c)), (8, .mptr 2 0), (67, .sl (v29.1.map Api.Kind.c)), (68, .int .i64 (v29.1.length : Int)), (69, .int .i64 ((i49 : Nat) : Int)), (70, .bool (ltI ((i49 : Nat) : Int) (v29.1.length : Int)))] [[.sl (a1.L.map Api.Kind.c)], [.sl (v29.2.1.L.map Api.Kind.c)], [.sl (L48.map Api.Kind.c)]] ?_ ?_
          · refine st ?_
            simp
          refine awp_seq ?_
          rcases sp l52 with ⟨g55, l52⟩ | ⟨g55, l52⟩
          · have c56 := ltT g55
            refine condT rfl g55 ?_
            refine factL 5 rfl fun f57 => ?_
            rw [List.length_map] at f57
            refine awp_skip ?_
            refine seq_eq ?_
            refine awp_seq ?_
            refine awp_block ?_
            obtain ⟨x58, q59, l52⟩ := bs l52
            refine cut 124 0 [(1, .sl (a2.map Api.Kind.c)), (2, .mptr 0 0), (5, .sl (v29.1.map Api.Kind.c)), (8, .mptr 2 0), (11, .mptr 3 0), (67, .sl (v29.1.map Api.Kind.c)), (68, .int .i64 (v29.1.length : Int)), (69, .int .i64 ((i49 : Nat) : Int))] [[.sl (a1.L.map Api.Kind.c)], [.sl (v29.2.1.L.map Api.Kind.c)], [.sl (L48.map Api.Kind.c)], [.sl (x58.L.map Api.Kind.c)]] ?_ ?_
            · refine st ?_
              simp [q59]
            refine cut 124 0 [(1, .sl (a2.map Api.Kind.c)), (2, .mptr 0 0), (5, .sl (v29.1.map Api.Kind.c)), (8, .mptr 2 0), (11, .mptr 3 0), (67, .sl (v29.1.map Api.Kind.c)), (68, .int .i64 (v29.1.length : Int)), (69, .int .i64 ((i49 : Nat) : Int))] [[.sl (a1.L.map Api.Kind.c)], [.sl (v29.2.1.L.map Api.Kind.c)], [.sl (L48.map Api.Kind.c)], [.sl (x58.L.map Api.Kind.c)]] ?_ ?_
            · refine st ?_
              simp
            obtain ⟨v60, q61, l52⟩ := bs l52
            refine cut 124 0 [(1, .sl (a2.map Api.Kind.c)), (2, .mptr 0 0), (5, .sl (v29.1.map Api.Kind.c)), (8, .mptr 2 0), (12, .int .i64 v60.2), (67, .sl (v29.1.map Api.Kind.c)), (68, .int .i64 (v29.1.length : Int)), (69, .int .i64 ((i49 : Nat) : Int))] [[.sl (a1.L.map Api.Kind.c)], [.sl (v29.2.1.L.map Api.Kind.c)], [.sl (v60.1.L.map Api.Kind.c)], [.sl (x58.L.map Api.Kind.c)]] ?_ ?_
            · refine st ?_
              simp
              have r68 := kind_Apply_ok fuel (Api.Kind.mk L48) x58 v60 q61
              try simp [] at r68
              refine callPure r68 (by simp) rfl ?_
              simp
            refine cut 124 0 [(1, .sl (a2.map Api.Kind.c)), (2, .mptr 0 0), (5, .sl (v29.1.map Api.Kind.c)), (8, .mptr 2 0), (67, .sl (v29.1.map Api.Kind.c)), (68, .int .i64 (v29.1.length : Int)), (69, .int .i64 ((i49 : Nat) : Int)), (80, .bool (!(eqI v60.2 0)))] [[.sl (a1.L.map Api.Kind.c)], [.sl (v29.2.1.L.map Api.Kind.c)], [.sl (v60.1.L.map Api.Kind.c)], [.sl (x58.L.map Api.Kind.c)]] ?_ ?_
            · refine st ?_
              simp
            rcases sp l52 with ⟨g62, l52⟩ | ⟨g62, l52⟩
            · have g63 := notT g62
              have c64 := eqF g63
              refine condT rfl g62 ?_
              refine cut 124 0 [(4, .bool false)] [[.sl (a1.L.map Api.Kind.c)], [.sl (v29.2.1.L.map Api.Kind.c)], [.sl (v60.1.L.map Api.Kind.c)], [.sl (x58.L.map Api.Kind.c)]] ?_ ?_
              · refine st ?_
                simp
              refine awp_ret ?_
              refine ret_blk ?_
              refine ret_seq ?_
              replace h := retL l52 h
              refine ret_seq ?_
              refine ret_blk ?_
              refine ret_seq ?_
              obtain rfl := Option.some.inj h
              simp
            · have g65 := notF g62
              have c66 := eqT g65
              refine condF rfl g62 ?_
              refine awp_skip ?_
              refine blk_n ?_
              refine seq_eq ?_
              have q67 : Rng .i64 (((i49 : Nat) : Int) + 1) := by simp only [Rng, inR]; omega
              refine last 124 0 [(1, .sl (a2.map Api.Kind.c)), (2, .mptr 0 0), (5, .sl (v29.1.map Api.Kind.c)), (8, .mptr 2 0), (67, .sl (v29.1.map Api.Kind.c)), (68, .int .i64 (v29.1.length : Int)), (69, .int .i64 ((i49 + 1 : Nat) : Int))] [[.sl (a1.L.map Api.Kind.c)], [.sl (v29.2.1.L.map Api.Kind.c)], [.sl (v60.1.L.map Api.Kind.c)]] ?_ fun s1 hs => ?_
              · refine st ?_
                simp [q67]
              exact ⟨(k54, v60.1.L, i49 + 1), hs, l52, by simp⟩
          · have c69 := ltF g55
            refine condF rfl g55 ?_
            refine factL 5 rfl fun f70 => ?_
            rw [List.length_map] at f70
            refine awp_exit ?_
            refine exit_seq ?_
            rcases o51 with o51 | o50
            · cases l52
            have q71 := Sum.inr.inj (Option.some.inj l52)
            replace h := elimR h
            have q71 := q71.symm
            refine exit_seq ?_
            refine exit_blk ?_
            refine seq_le (t := mkS 124 0 [(1, .sl (a2.map Api.Kind.c)), (2, .mptr 0 0), (5, .sl (v29.1.map Api.Kind.c)), (8, .mptr 2 0)] [[.sl (a1.L.map Api.Kind.c)], [.sl (v29.2.1.L.map Api.Kind.c)], [.sl (o50.map Api.Kind.c)]]) ?_ (le_mkS (by simp [q71]))
            refine awp_seq ?_
            obtain ⟨v72, q73, h⟩ := bs h
            obtain ⟨v74, q75, h⟩ := bs h
            refine cut 124 0 [(1, .sl (a2.map Api.Kind.c)), (2, .mptr 0 0), (5, .sl (v29.1.map Api.Kind.c)), (8, .mptr 2 0), (85, .bool (!v74))] [[.sl (a1.L.map Api.Kind.c)], [.sl (v29.2.1.L.map Api.Kind.c)], [.sl (o50.map Api.Kind.c)]] ?_ ?_
            · refine awp_region_draw [] mixed (n := 124) rfl (by decide) ?_
              simp
              have r120 := kind_Star_ok v72 q73
              try simp [] at r120
              refine callD r120 (by simp) rfl ?_
              simp
              have r121 := kind_Equal_ok fuel (Api.Kind.mk o50) v72 v74 q75
              try simp [] at r121
              refine callD r121 (by simp) rfl ?_
              simp
            rcases sp h with ⟨g76, h⟩ | ⟨g76, h⟩
            · have g77 := notT g76
              refine condT rfl g76 ?_
              refine cut 124 0 [(4, .bool false)] [[.sl (a1.L.map Api.Kind.c)], [.sl (v29.2.1.L.map Api.Kind.c)], [.sl (o50.map Api.Kind.c)]] ?_ ?_
              · refine st ?_
                simp
              refine awp_ret ?_
              refine ret_seq ?_
              obtain rfl := Option.some.inj h
              simp
            · have g78 := notF g76
              refine condF rfl g76 ?_
              refine awp_skip ?_
              refine seq_eq ?_
              refine awp_seq ?_
              obtain ⟨v79, q80, h⟩ := bs h
              obtain ⟨v81, q82, h⟩ := bs h
              refine cut 124 0 [(1, .sl (a2.map Api.Kind.c)), (2, .mptr 0 0), (5, .sl (v29.1.map Api.Kind.c)), (14, .int .i64 v81.2)] [[.sl (a1.L.map Api.Kind.c)], [.sl (v29.2.1.L.map Api.Kind.c)], [.sl (o50.map Api.Kind.c)], [.sl (v81.1.L.map Api.Kind.c)]] ?_ ?_
              · refine awp_region_draw [] mixed (n := 124) rfl (by decide) ?_
                simp
                have r118 := kind_Star_ok v79 q80
                try simp [] at r118
                refine callD r118 (by simp) rfl ?_
                simp
                have r119 := kind_Apply_ok fuel (Api.Kind.mk o50) v79 v81 q82
                try simp [] at r119
                refine callD r119 (by simp) rfl ?_
                simp
              refine cut 124 0 [(1, .sl (a2.map Api.Kind.c)), (2, .mptr 0 0), (5, .sl (v29.1.map Api.Kind.c)), (93, .bool (!(eqI v81.2 11)))] [[.sl (a1.L.map Api.Kind.c)], [.sl (v29.2.1.L.map Api.Kind.c)], [.sl (o50.map Api.Kind.c)], [.sl (v81.1.L.map Api.Kind.c)]] ?_ ?_
              · refine st ?_
                simp
              rcases sp h with ⟨g83, h⟩ | ⟨g83, h⟩
              · have g84 := notT g83
                have c85 := eqF g84
                refine condT rfl g83 ?_
                refine cut 124 0 [(4, .bool false)] [[.sl (a1.L.map Api.Kind.c)], [.sl (v29.2.1.L.map Api.Kind.c)], [.sl (o50.map Api.Kind.c)], [.sl (v81.1.L.map Api.Kind.c)]] ?_ ?_
                · refine st ?_
                  simp
                refine awp_ret ?_
                refine ret_seq ?_
                obtain rfl := Option.some.inj h
                simp
              · have g86 := notF g83
                have c87 := eqT g86
                refine condF rfl g83 ?_
                refine awp_skip ?_
                refine seq_eq ?_
                obtain ⟨v88, q89, h⟩ := bs h
                refine cut 124 0 [(1, .sl (a2.map Api.Kind.c)), (5, .sl (v29.1.map Api.Kind.c)), (15, .mptr 4 0), (16, .int .i64 v88.2)] [[.sl (a1.L.map Api.Kind.c)], [.sl (v29.2.1.L.map Api.Kind.c)], [.sl (o50.map Api.Kind.c)], [.sl (v81.1.L.map Api.Kind.c)], [.sl (v88.1.L.map Api.Kind.c)]] ?_ ?_
                · refine st ?_
                  simp
                  have r117 := kind_Arrow_ok fuel a2 a1 v88 q89
                  try simp [] at r117
                  refine callPure r117 (by simp) rfl ?_
                  simp
                refine awp_seq ?_
                refine cut 124 0 [(1, .sl (a2.map Api.Kind.c)), (5, .sl (v29.1.map Api.Kind.c)), (15, .mptr 4 0), (16, .int .i64 v88.2), (101, .bool (!(eqI v88.2 0)))] [[.sl (a1.L.map Api.Kind.c)], [.sl (v29.2.1.L.map Api.Kind.c)], [.sl (o50.map Api.Kind.c)], [.sl (v81.1.L.map Api.Kind.c)], [.sl (v88.1.L.map Api.Kind.c)]] ?_ ?_
                · refine st ?_
                  simp
                rcases sp h with ⟨g90, h⟩ | ⟨g90, h⟩
                · have g91 := notT g90
                  have c92 := eqF g91
                  refine condT rfl g90 ?_
                  obtain ⟨b98, q99, h⟩ := bs h
                  refine cut 124 0 [(4, .bool b98)] [[.sl (a1.L.map Api.Kind.c)], [.sl (v29.2.1.L.map Api.Kind.c)], [.sl (o50.map Api.Kind.c)], [.sl (v81.1.L.map Api.Kind.c)], [.sl (v88.1.L.map Api.Kind.c)]] ?_ ?_
                  · rcases sp q99 with ⟨g93, q99⟩ | ⟨g93, q99⟩
                    · have c94 := eqT g93
                      obtain ⟨v95, q96, q99⟩ := bs q99
                      obtain rfl := Option.some.inj q99
                      refine st ?_
                      simp [g93]
                      have r100 := law08_none_ok v88.1 v95 q96
                      try simp [g93] at r100
                      refine callPure r100 (by simp) rfl ?_
                      simp [g93]
                    · have c97 := eqF g93
                      obtain rfl := Option.some.inj q99
                      refine st ?_
                      simp [g93]
                  refine awp_ret ?_
                  refine ret_seq ?_
                  obtain rfl := Option.some.inj h
                  simp
                · have g101 := notF g90
                  have c102 := eqT g101
                  refine condF rfl g90 ?_
                  refine awp_skip ?_
                  refine seq_eq ?_
                  obtain ⟨v103, q104, h⟩ := bs h
                  refine cut 124 0 [(1, .sl (a2.map Api.Kind.c)), (5, .sl (v29.1.map Api.Kind.c)), (17, .sl (v103.1.map Api.Kind.c)), (19, .int .i64 v103.2.2)] [[.sl (a1.L.map Api.Kind.c)], [.sl (v29.2.1.L.map Api.Kind.c)], [.sl (o50.map Api.Kind.c)], [.sl (v81.1.L.map Api.Kind.c)], [.sl (v88.1.L.map Api.Kind.c)], [.sl (v103.2.1.L.map Api.Kind.c)]] ?_ ?_
                  · refine st ?_
                    simp
                    have r116 := kind_Parts_ok fuel v88.1 v103 q104
                    try simp [] at r116
                    refine callPure r116 (by simp) rfl ?_
                    simp
                  obtain ⟨b112, q113, h⟩ := bs h
                  refine cut 124 0 [(4, .bool b112)] [[.sl (a1.L.map Api.Kind.c)], [.sl (v29.2.1.L.map Api.Kind.c)], [.sl (o50.map Api.Kind.c)], [.sl (v81.1.L.map Api.Kind.c)], [.sl (v88.1.L.map Api.Kind.c)], [.sl (v103.2.1.L.map Api.Kind.c)]] ?_ ?_
                  · rcases sp q113 with ⟨g105, q113⟩ | ⟨g105, q113⟩
                    · have c106 := eqT g105
                      obtain ⟨v107, q108, q113⟩ := bs q113
                      obtain ⟨v109, q110, q113⟩ := bs q113
                      obtain rfl := Option.some.inj q113
                      refine st ?_
                      simp [g105]
                      have r114 := slices_Concat_api_Kind_ok fuel [a2, v29.1] v107 q108
                      try simp [g105] at r114
                      refine callPure r114 (by simp) rfl ?_
                      simp [g105]
                      have r115 := slices_EqualFunc_api_Kind_Equal_v2_ok fuel v103.1 v107 v109 q110
                      try simp [g105] at r115
                      refine callPure r115 (by simp) rfl ?_
                      simp [g105]
                    · have c111 := eqF g105
                      obtain rfl := Option.some.inj q113
                      refine st ?_
                      simp [g105]
                  refine awp_ret ?_
                  obtain rfl := Option.some.inj h
                  simp
end Go.Proofs.Ytcdjdpoahngkjaa
set_option linter.unusedVariables false
set_option linter.unusedSimpArgs false
namespace Go.Proofs.Ytcdjdpoahngkjaa
open Go Go.Abs
mutual
def Api.Kind.two : Api.Kind → Bool
  | .mk l => (l.length == 0 || l.length == 2) && twoL l
def twoL : List Api.Kind → Bool
  | [] => true
  | x :: l => Api.Kind.two x && twoL l
end
mutual
def Api.Kind.cnt : Api.Kind → Nat
  | .mk l => 1 + cntL l
def cntL : List Api.Kind → Nat
  | [] => 0
  | x :: l => Api.Kind.cnt x + cntL l
end
mutual
def Api.Kind.hgt : Api.Kind → Nat
  | .mk l => 1 + hgtL l
def hgtL : List Api.Kind → Nat
  | [] => 0
  | x :: l => max (Api.Kind.hgt x) (hgtL l)
end
def okK (k : Api.Kind) (left h : Nat) : Bool := k.two && decide (k.cnt ≤ left) && decide (k.hgt ≤ h)
theorem cnt_pos (k : Api.Kind) : 1 ≤ k.cnt := by cases k; rw [Api.Kind.cnt]; omega
theorem hgt_pos (k : Api.Kind) : 1 ≤ k.hgt := by cases k; rw [Api.Kind.hgt]; omega
theorem cntL_mem {x : Api.Kind} : ∀ {l : List Api.Kind}, x ∈ l → x.cnt ≤ cntL l
  | y :: l, h => by
    rw [cntL]
    rcases List.mem_cons.1 h with rfl | h
    · omega
    · have := cntL_mem h; omega
theorem cntL_len : ∀ (l : List Api.Kind), l.length ≤ cntL l
  | [] => by simp
  | x :: l => by
    rw [cntL, List.length_cons]
    have := cnt_pos x; have := cntL_len l; omega
theorem Api.Kind.ind {p : Api.Kind → Prop} (h : ∀ l, (∀ x ∈ l, p x) → p (.mk l)) : ∀ k, p k := by
  intro k
  have : ∀ n, ∀ k : Api.Kind, k.cnt ≤ n → p k := by
    intro n
    induction n with
    | zero => intro k hk; have := cnt_pos k; omega
    | succ n ih =>
      rintro ⟨l⟩ hk
      rw [Api.Kind.cnt] at hk
      exact h l fun x hx => ih x (by have := cntL_mem hx; omega)
  exact this _ k (Nat.le_refl _)
theorem two_mk0 : Api.Kind.two (.mk []) = true := by simp [Api.Kind.two, twoL]
theorem two_mk2 (x y : Api.Kind) : Api.Kind.two (.mk [x, y]) = (x.two && y.two) := by simp [Api.Kind.two, twoL]
theorem two_mk1 (x : Api.Kind) : Api.Kind.two (.mk [x]) = false := by simp [Api.Kind.two]
theorem two_mk3 (x y z : Api.Kind) (l : List Api.Kind) : Api.Kind.two (.mk (x :: y :: z :: l)) = false := by simp [Api.Kind.two]
theorem cnt_mk0 : Api.Kind.cnt (.mk []) = 1 := by simp [Api.Kind.cnt, cntL]
theorem cnt_mk2 (x y : Api.Kind) : Api.Kind.cnt (.mk [x, y]) = 1 + x.cnt + y.cnt := by simp [Api.Kind.cnt, cntL]; omega
theorem hgt_mk0 : Api.Kind.hgt (.mk []) = 1 := by simp [Api.Kind.hgt, hgtL]
theorem hgt_mk2 (x y : Api.Kind) : Api.Kind.hgt (.mk [x, y]) = 1 + max x.hgt y.hgt := by simp [Api.Kind.hgt, hgtL]
theorem okK_left (k : Api.Kind) (h : Nat) : okK k 0 h = false := by
  have := cnt_pos k
  rw [okK, decide_eq_false (by omega : ¬ k.cnt ≤ 0)]; simp
theorem okK_hgt (k : Api.Kind) (left : Nat) : okK k left 0 = false := by
  have := hgt_pos k
  rw [okK, decide_eq_false (by omega : ¬ k.hgt ≤ 0)]; simp
theorem okK_mk0 (left h : Nat) : okK (.mk []) (left + 1) (h + 1) = true := by
  rw [okK, two_mk0, cnt_mk0, hgt_mk0]; simp
theorem okK_mk2 (x y : Api.Kind) (left h : Nat) : okK (.mk [x, y]) (left + 1) (h + 1) = (okK x left h && okK y (left - x.cnt) h) := by
  have h1 := cnt_pos x; have h2 := cnt_pos y
  rw [Bool.eq_iff_iff]
  simp only [okK, two_mk2, cnt_mk2, hgt_mk2, Bool.and_eq_true, decide_eq_true_eq]
  constructor
  · rintro ⟨⟨⟨a, b⟩, c⟩, d⟩; exact ⟨⟨⟨a, by omega⟩, by omega⟩, ⟨b, by omega⟩, by omega⟩
  · rintro ⟨⟨⟨a, b⟩, c⟩, ⟨d, e⟩, f⟩; exact ⟨⟨⟨a, d⟩, by omega⟩, by omega⟩
theorem okK_mk1 (x : Api.Kind) (left h : Nat) : okK (.mk [x]) left h = false := by rw [okK, two_mk1]; rfl
theorem okK_mk3 (x y z : Api.Kind) (l : List Api.Kind) (left h : Nat) : okK (.mk (x :: y :: z :: l)) left h = false := by rw [okK, two_mk3]; rfl
theorem obind {α β : Type} (a : α) (f : α → Option β) : (some a).bind f = f a := Eq.trans (Option.bind_some a f) rfl
theorem chk64 {n : Int} (h1 : -9223372036854775808 ≤ n) (h2 : n ≤ 9223372036854775807) : chk .i64 n = some n := by rw [chk, if_pos]; exact ⟨h1, h2⟩
theorem chk16 {n : Int} (h1 : 0 ≤ n) (h2 : n ≤ 65535) : chk .u16 n = some n := by rw [chk, if_pos]; exact ⟨h1, h2⟩
theorem app_some {α : Type} {b : Nat} {x y : List α} (h : 0 < b) (h2 : (x.length + y.length) * b ≤ 140737488355328) : app b x y = some (x ++ y) := by rw [app, if_pos ⟨h, h2⟩]
theorem size_M : ∀ (k : Api.Kind) (fuel left h : Nat) (L D : Int), k.cnt + 1 ≤ fuel → L = left → D = 401 - h → left ≤ 20000 → h ≤ 400 →
    M.kind_size fuel k L D = some (if okK k left h then ((k.cnt : Int), true) else (0, false)) := by
  intro k
  induction k using Api.Kind.ind with
  | h l ih =>
  intro fuel left h L D hf hL hD hl hh
  obtain ⟨f, rfl⟩ : ∃ f, fuel = f + 1 := ⟨fuel - 1, by omega⟩
  rw [M.kind_size]
  by_cases e0 : left = 0
  · rw [if_pos (by simp [leI]; omega), e0, okK_left]; rfl
  by_cases e1 : h = 0
  · rw [if_pos (by simp [leI, ltI]; omega), e1, okK_hgt]; rfl
  obtain ⟨left, rfl⟩ : ∃ n, left = n + 1 := ⟨left - 1, by omega⟩
  obtain ⟨h, rfl⟩ : ∃ n, h = n + 1 := ⟨h - 1, by omega⟩
  match l, ih with
  | [], _ =>
    rw [if_neg (by simp [leI, ltI, eqI]; omega), okK_mk0]
    obtain ⟨g, rfl⟩ : ∃ g, f = g + 1 := ⟨f - 1, by rw [cnt_mk0] at hf; omega⟩
    simp [M.kind_size_l1, ltI, cnt_mk0]
  | [x], _ =>
    rw [if_pos (by simp [eqI]), okK_mk1]; rfl
  | x :: y :: z :: l, _ =>
    rw [if_pos (by simp [eqI]; omega), okK_mk3]; rfl
  | [x, y], ih =>
    rw [if_neg (by simp [leI, ltI, eqI]; omega), okK_mk2]
    rw [cnt_mk2] at hf
    have h1 := cnt_pos x; have h2 := cnt_pos y
    obtain ⟨g, rfl⟩ : ∃ g, f = g + 3 := ⟨f - 3, by omega⟩
    have hx := ih x (by simp) (g + 3) left h (L - 1) (D + 1) (by omega) (by omega) (by omega) (by omega) (by omega)
    have q1 : chk .i64 (L - 1) = some (L - 1) := chk64 (by omega) (by omega)
    have q2 : chk .i64 (D + 1) = some (D + 1) := chk64 (by omega) (by omega)
    cases o1 : okK x left h with
    | false =>
      rw [o1] at hx
      simp [M.kind_size_l1, ltI, q1, q2, hx]
    | true =>
      have h3 : x.cnt ≤ left := by simp [okK] at o1; omega
      have hy := ih y (by simp) (g + 3) (left - x.cnt) h (L - (1 + x.cnt)) (D + 1) (by omega) (by omega) (by omega) (by omega) (by omega)
      have q3 : chk .i64 (1 + (x.cnt : Int)) = some (1 + (x.cnt : Int)) := chk64 (by omega) (by omega)
      have q4 : chk .i64 (L - (1 + (x.cnt : Int))) = some (L - (1 + (x.cnt : Int))) := chk64 (by omega) (by omega)
      rw [o1] at hx
      cases o2 : okK y (left - x.cnt) h with
      | false =>
        rw [o2] at hy
        simp [M.kind_size_l1, ltI, q1, q2, q3, q4, hx, hy]
      | true =>
        have h4 : y.cnt ≤ left - x.cnt := by simp [okK] at o2; omega
        have q5 : chk .i64 (1 + (x.cnt : Int) + y.cnt) = some (1 + (x.cnt : Int) + y.cnt) := chk64 (by omega) (by omega)
        rw [o2] at hy
        simp [M.kind_size_l1, ltI, q1, q2, q3, q4, q5, hx, hy, cnt_mk2]
def vK (k : Api.Kind) : Bool := okK k 20000 400
theorem valid_M {k : Api.Kind} {fuel : Nat} (h : k.cnt + 1 ≤ fuel) : M.kind_Valid fuel k = some (vK k) := by
  rw [M.kind_Valid, size_M k fuel 20000 400 20000 1 h rfl rfl (by omega) (by omega), vK]
  cases okK k 20000 400 <;> rfl
theorem count_M : ∀ (k : Api.Kind) (fuel left h : Nat) (L D : Int), k.cnt + 1 ≤ fuel → L = left → D = h → left ≤ 20000 → h ≤ 400 →
    M.ref08_count fuel k L D = some (if okK k left h then (left : Int) - k.cnt else -1) := by
  intro k
  induction k using Api.Kind.ind with
  | h l ih =>
  intro fuel left h L D hf hL hD hl hh
  obtain ⟨f, rfl⟩ : ∃ f, fuel = f + 1 := ⟨fuel - 1, by omega⟩
  rw [M.ref08_count]
  by_cases e0 : left = 0
  · rw [if_pos (by simp [ltI]; omega), e0, okK_left]; rfl
  by_cases e1 : h = 0
  · rw [if_pos (by simp [ltI]; omega), e1, okK_hgt]; rfl
  obtain ⟨left, rfl⟩ : ∃ n, left = n + 1 := ⟨left - 1, by omega⟩
  obtain ⟨h, rfl⟩ : ∃ n, h = n + 1 := ⟨h - 1, by omega⟩
  have q0 : chk .i64 (L - 1) = some (L - 1) := chk64 (by omega) (by omega)
  match l, ih with
  | [], _ =>
    rw [if_neg (by simp [ltI, eqI]; omega), okK_mk0]
    obtain ⟨g, rfl⟩ : ∃ g, f = g + 1 := ⟨f - 1, by rw [cnt_mk0] at hf; omega⟩
    simp [M.ref08_count_l1, ltI, cnt_mk0, q0]; omega
  | [x], _ =>
    rw [if_pos (by simp [eqI]), okK_mk1]; rfl
  | x :: y :: z :: l, _ =>
    rw [if_pos (by simp [eqI]; omega), okK_mk3]; rfl
  | [x, y], ih =>
    rw [if_neg (by simp [ltI, eqI]; omega), okK_mk2]
    rw [cnt_mk2] at hf
    have h1 := cnt_pos x; have h2 := cnt_pos y
    obtain ⟨g, rfl⟩ : ∃ g, f = g + 3 := ⟨f - 3, by omega⟩
    have hx := ih x (by simp) (g + 3) left h (L - 1) (D - 1) (by omega) (by omega) (by omega) (by omega) (by omega)
    have q2 : chk .i64 (D - 1) = some (D - 1) := chk64 (by omega) (by omega)
    have p1 : (1 : Int) ≤ L := by omega
    cases o1 : okK x left h with
    | false =>
      rw [o1] at hx
      simp [M.ref08_count_l1, ltI, leI, q0, q2, hx, p1]
    | true =>
      have h3 : x.cnt ≤ left := by simp [okK] at o1; omega
      have hy := ih y (by simp) (g + 3) (left - x.cnt) h ((left : Int) - x.cnt) (D - 1) (by omega) (by omega) (by omega) (by omega) (by omega)
      rw [o1] at hx
      have p2 : (x.cnt : Int) ≤ left := by omega
      cases o2 : okK y (left - x.cnt) h with
      | false =>
        rw [o2] at hy
        simp [M.ref08_count_l1, ltI, leI, q0, q2, hx, hy, p1, p2]
      | true =>
        have h4 : y.cnt ≤ left - x.cnt := by simp [okK] at o2; omega
        rw [o2] at hy
        simp [M.ref08_count_l1, ltI, leI, q0, q2, hx, hy, cnt_mk2, p1, p2]; omega
theorem refValid_M {k : Api.Kind} {fuel : Nat} (h : k.cnt + 1 ≤ fuel) : M.ref08_Valid fuel k = some (vK k) := by
  rw [M.ref08_Valid, count_M k fuel 20000 400 20000 400 h rfl rfl (by omega) (by omega), vK]
  cases o : okK k 20000 400
  · rfl
  · have : k.cnt ≤ 20000 := by simp [okK] at o; omega
    simp [leI]; omega
theorem Api.Kind.indTwo {p : Api.Kind → Prop} (h0 : p (.mk [])) (h2 : ∀ x y, x.two = true → y.two = true → p x → p y → p (.mk [x, y])) : ∀ k : Api.Kind, k.two = true → p k := by
  intro k
  induction k using Api.Kind.ind with
  | h l ih =>
  intro hk
  match l, ih, hk with
  | [], _, _ => exact h0
  | [x], _, hk => rw [two_mk1] at hk; cases hk
  | x :: y :: z :: l, _, hk => rw [two_mk3] at hk; cases hk
  | [x, y], ih, hk =>
    rw [two_mk2, Bool.and_eq_true] at hk
    exact h2 x y hk.1 hk.2 (ih x (by simp) hk.1) (ih y (by simp) hk.2)
theorem two_of_ok {k : Api.Kind} {left h : Nat} (hk : okK k left h = true) : k.two = true := by simp [okK] at hk; exact hk.1.1
noncomputable instance : DecidableEq Api.Kind := fun a b => Classical.propDecidable _
theorem equal_M : ∀ (a : Api.Kind), a.two = true → ∀ (b : Api.Kind) (fuel : Nat), a.cnt + 1 ≤ fuel → M.kind_equal fuel a b = some (decide (a = b)) := by
  refine Api.Kind.indTwo ?_ ?_
  · rintro ⟨m⟩ fuel hf
    obtain ⟨f, rfl⟩ : ∃ f, fuel = f + 1 := ⟨fuel - 1, by omega⟩
    rw [M.kind_equal]
    match m with
    | [] =>
      obtain ⟨g, rfl⟩ : ∃ g, f = g + 1 := ⟨f - 1, by rw [cnt_mk0] at hf; omega⟩
      simp [eqI, M.kind_equal_l1, ltI]
    | y :: m => simp [eqI]; omega
  · intro x y hx hy ihx ihy
    rintro ⟨m⟩ fuel hf
    rw [cnt_mk2] at hf
    have h1 := cnt_pos x; have h2 := cnt_pos y
    obtain ⟨g, rfl⟩ : ∃ g, fuel = g + 4 := ⟨fuel - 4, by omega⟩
    rw [M.kind_equal]
    match m with
    | [] => simp [eqI]
    | [u] => simp [eqI]
    | u :: v :: w :: m => simp [eqI]; omega
    | [u, v] =>
      have e1 := ihx u (g + 3) (by omega)
      have e2 := ihy v (g + 3) (by omega)
      by_cases d1 : x = u
      · by_cases d2 : y = v
        · subst d1; subst d2; simp at e1 e2; simp [eqI, M.kind_equal_l1, ltI, e1, e2]
        · subst d1; simp [d2] at e1 e2; simp [eqI, M.kind_equal_l1, ltI, e1, e2, d2]
      · simp [d1] at e1; simp [eqI, M.kind_equal_l1, ltI, e1, d1]
theorem refequal_M : ∀ (a : Api.Kind), a.two = true → ∀ (b : Api.Kind) (fuel : Nat), a.cnt + 1 ≤ fuel → M.ref08_equal fuel a b = some (decide (a = b)) := by
  refine Api.Kind.indTwo ?_ ?_
  · rintro ⟨m⟩ fuel hf
    obtain ⟨f, rfl⟩ : ∃ f, fuel = f + 1 := ⟨fuel - 1, by omega⟩
    rw [M.ref08_equal]
    match m with
    | [] =>
      obtain ⟨g, rfl⟩ : ∃ g, f = g + 1 := ⟨f - 1, by rw [cnt_mk0] at hf; omega⟩
      simp [eqI, M.ref08_equal_l1, ltI]
    | y :: m => simp [eqI]; omega
  · intro x y hx hy ihx ihy
    rintro ⟨m⟩ fuel hf
    rw [cnt_mk2] at hf
    have h1 := cnt_pos x; have h2 := cnt_pos y
    obtain ⟨g, rfl⟩ : ∃ g, fuel = g + 4 := ⟨fuel - 4, by omega⟩
    rw [M.ref08_equal]
    match m with
    | [] => simp [eqI]
    | [u] => simp [eqI]
    | u :: v :: w :: m => simp [eqI]; omega
    | [u, v] =>
      have e1 := ihx u (g + 3) (by omega)
      have e2 := ihy v (g + 3) (by omega)
      by_cases d1 : x = u
      · by_cases d2 : y = v
        · subst d1; subst d2; simp at e1 e2; simp [eqI, M.ref08_equal_l1, ltI, e1, e2]
        · subst d1; simp [d2] at e1 e2; simp [eqI, M.ref08_equal_l1, ltI, e1, e2, d2]
      · simp [d1] at e1; simp [eqI, M.ref08_equal_l1, ltI, e1, d1]
theorem copied_M : ∀ (a : Api.Kind), a.two = true → ∀ (fuel : Nat), a.cnt + 1 ≤ fuel → M.kind_copied fuel a = some a := by
  refine Api.Kind.indTwo ?_ ?_
  · intro fuel hf
    rw [cnt_mk0] at hf
    obtain ⟨g, rfl⟩ : ∃ g, fuel = g + 2 := ⟨fuel - 2, by omega⟩
    simp [M.kind_copied, M.kind_copied_l1, ltI]
  · intro x y hx hy ihx ihy
    intro fuel hf
    rw [cnt_mk2] at hf
    have h1 := cnt_pos x; have h2 := cnt_pos y
    obtain ⟨g, rfl⟩ : ∃ g, fuel = g + 4 := ⟨fuel - 4, by omega⟩
    have e1 := ihx (g + 3) (by omega)
    have e2 := ihy (g + 3) (by omega)
    rw [M.kind_copied]
    simp [M.kind_copied_l1, ltI, e1, e2, app]
theorem refEqual_M {a b : Api.Kind} {fuel : Nat} (ha : a.cnt + 1 ≤ fuel) (hb : b.cnt + 1 ≤ fuel) : M.ref08_Equal fuel a b = some (vK a && vK b && decide (a = b)) := by
  rw [M.ref08_Equal, refValid_M ha, refValid_M hb]
  cases va : vK a
  · rfl
  cases vb : vK b
  · rfl
  have h1 := refequal_M a (two_of_ok va) b fuel ha
  simp [h1]
theorem Equal_M {a b : Api.Kind} {fuel : Nat} (ha : a.cnt + 1 ≤ fuel) (hb : b.cnt + 1 ≤ fuel) : M.kind_Equal fuel a b = some (vK a && vK b && decide (a = b)) := by
  rw [M.kind_Equal, valid_M ha, valid_M hb]
  cases va : vK a
  · rfl
  cases vb : vK b
  · rfl
  have h1 := equal_M a (two_of_ok va) b fuel ha
  simp [h1]
end Go.Proofs.Ytcdjdpoahngkjaa
set_option linter.unusedVariables false
set_option linter.unusedSimpArgs false
namespace Go.Proofs.Ytcdjdpoahngkjaa
open Go Go.Abs
theorem cntL_drop {l : List Api.Kind} {i : Nat} {x : Api.Kind} (h : l[i]? = some x) : cntL (l.drop i) = x.cnt + cntL (l.drop (i + 1)) := by
  obtain ⟨hi, rfl⟩ := List.getElem?_eq_some_iff.1 h
  rw [List.drop_eq_getElem_cons hi, cntL]
theorem hgtL_drop {l : List Api.Kind} {i : Nat} {x : Api.Kind} (h : l[i]? = some x) : hgtL (l.drop i) = max x.hgt (hgtL (l.drop (i + 1))) := by
  obtain ⟨hi, rfl⟩ := List.getElem?_eq_some_iff.1 h
  rw [List.drop_eq_getElem_cons hi, hgtL]
theorem big_loop (F : Api.Kind → Int → Int → Option Int) (k : Api.Kind) (d : Int) (hd1 : 1 ≤ d) (hd2 : d ≤ 60)
    (hF : ∀ x ∈ k.L, ∀ a : Int, 0 ≤ a → a ≤ 300 → ∃ r, F x (d + 1) a = some r ∧ 0 ≤ r ∧ r ≤ 1000 ∧ (r ≤ 300 → r = a + x.cnt ∧ x.hgt + (d + 1) ≤ 61)) :
    ∀ (n i kf : Nat) (a : Int), i + n = k.L.length → n + 1 ≤ kf → 0 ≤ a → a ≤ 1000 →
      ∃ r, M.law08_big_1_l2 F k d kf a i = some r ∧ 0 ≤ r ∧ r ≤ 1000 ∧ (r ≤ 300 → r = a + cntL (k.L.drop i) ∧ hgtL (k.L.drop i) + (d + 1) ≤ 61) := by
  intro n
  induction n with
  | zero =>
    intro i kf a hi hk ha1 ha2
    obtain ⟨kf, rfl⟩ : ∃ g, kf = g + 1 := ⟨kf - 1, by omega⟩
    rw [M.law08_big_1_l2, if_neg (by simp [ltI]; omega)]
    rw [List.drop_eq_nil_of_le (by omega)]
    exact ⟨a, rfl, ha1, ha2, fun _ => ⟨by simp [cntL], by simp [hgtL]; omega⟩⟩
  | succ n ih =>
    intro i kf a hi hk ha1 ha2
    obtain ⟨kf, rfl⟩ : ∃ g, kf = g + 1 := ⟨kf - 1, by omega⟩
    rw [M.law08_big_1_l2]
    by_cases e : a ≤ 300
    · rw [if_pos (by simp [ltI, leI]; omega)]
      have hx : k.L[i]? = some k.L[i] := List.getElem?_eq_getElem (by omega)
      have hm : k.L[i] ∈ k.L := List.getElem_mem _
      generalize k.L[i] = x at hx hm
      obtain ⟨r, r1, r2, r3, r4⟩ := hF x hm a ha1 e
      obtain ⟨q, q1, q2, q3, q4⟩ := ih (i + 1) kf r (by omega) (by omega) r2 r3
      refine ⟨q, ?_, q2, q3, fun hq => ?_⟩
      · simp [hx, chk64 (n := d + 1) (by omega) (by omega), r1, q1]
      · obtain ⟨q5, q6⟩ := q4 hq
        obtain ⟨r5, r6⟩ := r4 (by omega)
        rw [cntL_drop hx, hgtL_drop hx]
        omega
    · rw [if_neg (by simp [ltI, leI]; omega)]
      exact ⟨a, rfl, ha1, ha2, fun h => absurd h e⟩
theorem big1_M : ∀ (k : Api.Kind) (fuel : Nat) (d c : Int), k.cnt + 1 ≤ fuel → 1 ≤ d → d ≤ 61 → 0 ≤ c → c ≤ 300 →
    ∃ r, M.law08_big_1 fuel k d c = some r ∧ 0 ≤ r ∧ r ≤ 1000 ∧ (r ≤ 300 → r = c + k.cnt ∧ k.hgt + d ≤ 61) := by
  intro k
  induction k using Api.Kind.ind with
  | h l ih =>
  intro fuel d c hf hd1 hd2 hc1 hc2
  obtain ⟨f, rfl⟩ : ∃ f, fuel = f + 1 := ⟨fuel - 1, by omega⟩
  rw [Api.Kind.cnt] at hf
  have hlen := cntL_len l
  rw [M.law08_big_1, chk64 (n := c + 1) (by omega) (by omega)]
  by_cases e : 60 < d ∨ 10 < l.length
  · obtain ⟨g, rfl⟩ : ∃ g, f = g + 1 := ⟨f - 1, by omega⟩
    refine ⟨1000, ?_, by omega, by omega, fun h => by omega⟩
    simp only [Option.bind_some]
    rw [if_pos (by simp [ltI]; omega), M.law08_big_1_l1, if_neg (by simp [leI])]
    rfl
  · obtain ⟨r, r1, r2, r3, r4⟩ := big_loop (M.law08_big_1 f) (.mk l) d hd1 (by omega) (fun x hx a ha1 ha2 => by
      obtain ⟨r, r1, r2, r3, r4⟩ := ih x hx f (d + 1) a (by have := cntL_mem (show x ∈ l from hx); omega) (by omega) (by omega) ha1 ha2
      exact ⟨r, r1, r2, r3, r4⟩) l.length 0 f (c + 1) (by simp) (by omega) (by omega) (by omega)
    refine ⟨r, ?_, r2, r3, fun hr => ?_⟩
    · simp only [Option.bind_some]
      rw [if_neg (by simp [ltI]; omega), r1]
      rfl
    · obtain ⟨r5, r6⟩ := r4 hr
      rw [Api.Kind.cnt, Api.Kind.hgt]
      simp at r5 r6
      omega
theorem big_M {k : Api.Kind} {fuel : Nat} (h : k.cnt + 1 ≤ fuel) : ∃ b, M.law08_big fuel k = some b ∧ (b = false → k.cnt ≤ 300 ∧ k.hgt ≤ 60) := by
  obtain ⟨r, r1, r2, r3, r4⟩ := big1_M k fuel 1 0 h (by omega) (by omega) (by omega) (by omega)
  refine ⟨ltI 300 r, by rw [M.law08_big, r1]; rfl, fun hb => ?_⟩
  have := ltF hb
  obtain ⟨r5, r6⟩ := r4 this
  omega
theorem awake_M {fuel : Nat} (h : 30 ≤ fuel) : M.law08_awake fuel = some true := by
  obtain ⟨g, rfl⟩ : ∃ g, fuel = g + 30 := ⟨fuel - 30, by omega⟩
  kernel_rfl
theorem okK_mono {k : Api.Kind} {a b c d : Nat} (h : okK k a b = true) (h1 : a ≤ c) (h2 : b ≤ d) : okK k c d = true := by
  simp only [okK, Bool.and_eq_true, decide_eq_true_eq] at h ⊢
  exact ⟨⟨h.1.1, by omega⟩, by omega⟩
theorem vK_two {k : Api.Kind} (h : vK k = true) : k.two = true := two_of_ok h
theorem vK_mk2 {x y : Api.Kind} (h : vK (.mk [x, y]) = true) : vK x = true ∧ vK y = true := by
  unfold vK at h ⊢
  rw [okK_mk2, Bool.and_eq_true] at h
  exact ⟨okK_mono h.1 (by omega) (by omega), okK_mono h.2 (by omega) (by omega)⟩
theorem vK_cases {k : Api.Kind} (h : vK k = true) : k = .mk [] ∨ ∃ x y, k = .mk [x, y] ∧ vK x = true ∧ vK y = true := by
  obtain ⟨l⟩ := k
  have h2 := vK_two h
  match l with
  | [] => exact .inl rfl
  | [x] => rw [two_mk1] at h2; cases h2
  | x :: y :: z :: l => rw [two_mk3] at h2; cases h2
  | [x, y] => exact .inr ⟨x, y, rfl, vK_mk2 h⟩
theorem vK_star : vK (.mk []) = true := okK_mk0 _ _
theorem none_M (k : Api.Kind) : M.law08_none k = some (decide (k.L.length = 0)) := by
  simp [M.law08_none, eqI]
theorem Applies_M (a b : Api.Kind) {fuel : Nat} (hf : 30 ≤ fuel) (ha : a.cnt + 1 ≤ fuel) (hb : b.cnt + 1 ≤ fuel) : M.law08_KindApplies fuel a b = some true := by
  rw [M.law08_KindApplies, awake_M hf]
  obtain ⟨b1, e1, _⟩ := big_M ha
  obtain ⟨b2, e2, _⟩ := big_M hb
  have va := valid_M ha
  have vb := valid_M hb
  have ra := refValid_M ha
  have rb := refValid_M hb
  cases b1
  · cases b2
    · rw [M.kind_Apply]
      cases ca : vK a
      · rw [ca] at va ra
        simp [e1, e2, va, ra, eqI, none_M]
      cases cb : vK b
      · rw [ca] at va ra; rw [cb] at vb rb
        simp [e1, e2, va, ra, vb, rb, eqI, none_M]
      rw [ca] at va ra; rw [cb] at vb rb
      rcases vK_cases ca with rfl | ⟨x, y, rfl, vx, vy⟩
      · simp [e1, e2, va, ra, vb, rb, eqI, none_M]
      · rw [cnt_mk2] at ha
        have h1 := equal_M x (vK_two vx) b fuel (by omega)
        have h2 := copied_M y (vK_two vy) fuel (by omega)
        have h3 := refEqual_M (a := x) (b := b) (fuel := fuel) (by omega) hb
        have h4 := refEqual_M (a := y) (b := y) (fuel := fuel) (by omega) (by omega)
        rw [vx, cb] at h3; rw [vy] at h4
        by_cases d : x = b
        · subst d
          simp at h1 h3 h4
          simp [e1, e2, va, ra, vb, rb, eqI, h1, h2, h3, h4, none_M]
        · simp [d] at h1 h3
          simp [e1, e2, va, ra, vb, rb, eqI, h1, h2, h3, h4, none_M]
    · simp [e1, e2]
  · simp [e1]
theorem Applies_true (a b : Api.Kind) : ∃ fuel, M.law08_KindApplies fuel a b = some true :=
  ⟨a.cnt + b.cnt + 30, Applies_M a b (by omega) (by omega) (by omega)⟩
end Go.Proofs.Ytcdjdpoahngkjaa
set_option linter.unusedVariables false
set_option linter.unusedSimpArgs false
namespace Go.Proofs.Ytcdjdpoahngkjaa
open Go Go.Abs
@[simp] theorem mk_L (k : Api.Kind) : (Api.Kind.mk k.L) = k := by cases k; rfl
theorem Forms_M (a b : Api.Kind) {fuel : Nat} (hf : 30 ≤ fuel) (ha : a.cnt + 1 ≤ fuel) (hb : b.cnt + 1 ≤ fuel) : M.law08_KindForms fuel a b = some true := by
  rw [M.law08_KindForms, awake_M hf]
  obtain ⟨b1, e1, _⟩ := big_M ha
  obtain ⟨b2, e2, _⟩ := big_M hb
  have h1 := Equal_M ha hb
  have h2 := refEqual_M ha hb
  have h3 := Equal_M ha ha
  cases b1
  · cases b2
    · simp [e1, e2, valid_M ha, refValid_M ha, h1, h2, h3, eqB, M.kind_Star, none_M]
    · simp [e1, e2]
  · simp [e1]
theorem KindForms_true (a b : Api.Kind) : ∃ fuel, M.law08_KindForms fuel a b = some true :=
  ⟨a.cnt + b.cnt + 30, Forms_M a b (by omega) (by omega) (by omega)⟩
def tx (k : Api.Kind) : List UInt8 :=
  match k with
  | .mk [] => [42]
  | .mk [x, y] => (if x.L.length = 0 then [42] else 40 :: (tx x ++ [41])) ++ ([32, 45, 62, 32] ++ tx y)
  | .mk _ => []
termination_by k.cnt
decreasing_by
  · rw [cnt_mk2]; have := cnt_pos y; omega
  · rw [cnt_mk2]; have := cnt_pos x; omega
def ps (k : Api.Kind) : List Api.Kind :=
  match k with
  | .mk [x, y] => x :: ps y
  | .mk _ => []
termination_by k.cnt
decreasing_by rw [cnt_mk2]; have := cnt_pos x; omega
theorem tx_0 : tx (.mk []) = [42] := by rw [tx]
theorem tx_2 (x y : Api.Kind) : tx (.mk [x, y]) = (if x.L.length = 0 then [42] else 40 :: (tx x ++ [41])) ++ ([32, 45, 62, 32] ++ tx y) := by rw [tx]
theorem ps_0 : ps (.mk []) = [] := by rw [ps]; simp
theorem ps_2 (x y : Api.Kind) : ps (.mk [x, y]) = x :: ps y := by rw [ps]
theorem tx_len : ∀ k : Api.Kind, k.two = true → (tx k).length ≤ 7 * k.cnt := by
  refine Api.Kind.indTwo ?_ ?_
  · rw [tx_0, cnt_mk0]; simp
  · intro x y hx hy ihx ihy
    rw [tx_2, cnt_mk2]
    split
    · simp; omega
    · simp; omega
theorem tx_pos (k : Api.Kind) (h : k.two = true) : 1 ≤ (tx k).length := by
  revert h; revert k
  refine Api.Kind.indTwo ?_ ?_
  · rw [tx_0]; simp
  · intro x y hx hy ihx ihy
    rw [tx_2]; simp; omega
theorem ps_len : ∀ k : Api.Kind, k.two = true → (ps k).length + 1 ≤ k.hgt := by
  refine Api.Kind.indTwo ?_ ?_
  · rw [ps_0, hgt_mk0]; simp
  · intro x y hx hy ihx ihy
    rw [ps_2, hgt_mk2]; simp; omega
theorem app1 {x y : List UInt8} (h : x.length + y.length ≤ 140737488355328) : app 1 x y = some (x ++ y) := app_some (by decide) (by omega)
theorem wb_M {c : UInt8} {b : List UInt8} (h : b.length + 1 ≤ 140737488355328) : M.strings_Builder_WriteByte c b = some (b ++ [c]) := by
  simp only [M.strings_Builder_WriteByte, M.strings_Builder_copyCheck, Option.bind_some, app1 (x := b) (y := [c]) h]
theorem ws_M {s b : List UInt8} (h : b.length + s.length ≤ 140737488355328) : M.strings_Builder_WriteString s b = some ((s.length : Int), b ++ s) := by
  simp only [M.strings_Builder_WriteString, M.strings_Builder_copyCheck, Option.bind_some, app1 (x := b) (y := s) h]
theorem write_M : ∀ k : Api.Kind, k.two = true → ∀ (fuel : Nat) (b : List UInt8), k.cnt + 1 ≤ fuel → b.length + (tx k).length ≤ 140737488355328 → M.kind_write fuel k b = some (b ++ tx k) := by
  refine Api.Kind.indTwo ?_ ?_
  · intro fuel b hf hb
    obtain ⟨f, rfl⟩ : ∃ f, fuel = f + 1 := ⟨fuel - 1, by omega⟩
    rw [tx_0] at hb ⊢
    rw [M.kind_write, if_pos (by simp [eqI]), wb_M hb]
    rfl
  · intro x y hx hy ihx ihy fuel b hf hb
    rw [cnt_mk2] at hf
    have h1 := cnt_pos x; have h2 := cnt_pos y
    obtain ⟨f, rfl⟩ : ∃ f, fuel = f + 1 := ⟨fuel - 1, by omega⟩
    rw [tx_2] at hb ⊢
    rw [M.kind_write, if_neg (by simp [eqI])]
    by_cases e : x.L.length = 0
    · rw [if_pos e] at hb ⊢
      simp only [List.length_append, List.length_cons, List.length_nil] at hb
      have e' : eqI (x.L.length : Int) 0 = true := by simp only [eqI, e]; rfl
      simp only [List.getElem?_cons_zero, List.getElem?_cons_succ, Option.bind_some, e', if_true]
      rw [wb_M (by omega)]
      simp only [Option.bind_some]
      rw [ws_M (by simp; omega)]
      simp only [Option.bind_some]
      rw [ihy f _ (by omega) (by simp; omega)]
      simp
    · rw [if_neg e] at hb ⊢
      simp only [List.length_append, List.length_cons, List.length_nil] at hb
      have e' : eqI (x.L.length : Int) 0 = false := decide_eq_false (by omega)
      simp only [List.getElem?_cons_zero, List.getElem?_cons_succ, Option.bind_some, e', Bool.false_eq_true, if_false]
      rw [wb_M (by omega)]
      simp only [Option.bind_some]
      rw [ihx f _ (by omega) (by simp; omega)]
      simp only [Option.bind_some]
      rw [wb_M (by simp; omega)]
      simp only [Option.bind_some]
      rw [ws_M (by simp; omega)]
      simp only [Option.bind_some]
      rw [ihy f _ (by omega) (by simp; omega)]
      simp
theorem vK_cnt {k : Api.Kind} (h : vK k = true) : k.cnt ≤ 20000 := by simp [vK, okK] at h; omega
theorem vK_hgt {k : Api.Kind} (h : vK k = true) : k.hgt ≤ 400 := by simp [vK, okK] at h; omega
theorem Text_M {k : Api.Kind} {fuel : Nat} (hf : k.cnt + 1 ≤ fuel) : M.kind_Text fuel k = some (if vK k then (if 16384 < (tx k).length then ([], 5) else (tx k, 0)) else ([], 1)) := by
  rw [M.kind_Text, valid_M hf]
  cases hk : vK k
  · rfl
  have h1 := tx_len k (vK_two hk); have h2 := vK_cnt hk
  rw [Option.bind_some, write_M k (vK_two hk) fuel [] hf (by simp; omega)]
  simp only [Option.bind_some, M.strings_Builder_Len, M.strings_Builder_String, List.nil_append, Bool.not_true, Bool.false_eq_true, if_false, if_true]
  by_cases e : 16384 < (tx k).length
  · rw [if_pos e, if_pos (by simp [ltI]; omega)]
  · rw [if_neg e, if_neg (by simp [ltI]; omega)]
theorem Parts_loop (fuel : Nat) : ∀ k : Api.Kind, k.two = true → ∀ (kf : Nat) (out : List Api.Kind), k.cnt + 1 ≤ kf → k.cnt + 1 ≤ fuel → out.length + (ps k).length ≤ 1000000 → M.kind_Parts_l1 fuel kf k.L out = some (out ++ ps k, []) := by
  refine Api.Kind.indTwo ?_ ?_
  · intro kf out hf _ hb
    obtain ⟨f, rfl⟩ : ∃ f, kf = f + 1 := ⟨kf - 1, by omega⟩
    rw [M.kind_Parts_l1, if_neg (by simp [ltI]), ps_0, List.append_nil]
  · intro x y hx hy ihx ihy kf out hf hf2 hb
    rw [cnt_mk2] at hf hf2
    have h1 := cnt_pos x; have h2 := cnt_pos y
    obtain ⟨f, rfl⟩ : ∃ f, kf = f + 1 := ⟨kf - 1, by omega⟩
    rw [ps_2] at hb ⊢
    simp only [List.length_cons] at hb
    rw [M.kind_Parts_l1, if_pos (by simp [ltI])]
    simp only [List.getElem?_cons_zero, List.getElem?_cons_succ, Option.bind_some, copied_M x hx fuel (by omega)]
    rw [app_some (by decide) (by simp; omega)]
    simp only [Option.bind_some]
    rw [ihy f _ (by omega) (by omega) (by simp; omega)]
    simp
theorem Parts_M {k : Api.Kind} {fuel : Nat} (hf : k.cnt + 1 ≤ fuel) : M.kind_Parts fuel k = some (if vK k then (ps k, .mk [], 0) else ([], .mk [], 1)) := by
  rw [M.kind_Parts, valid_M hf]
  cases hk : vK k
  · rfl
  have h1 := ps_len k (vK_two hk); have h2 := vK_hgt hk
  simp only [Option.bind_some, Bool.not_true, Bool.false_eq_true, if_false, if_true]
  rw [Parts_loop fuel k (vK_two hk) fuel [] hf hf (by simp; omega)]
  rfl
def arr (l : List Api.Kind) (k : Api.Kind) : Api.Kind := l.foldr (fun x k => .mk [x, k]) k
theorem arr_take {l : List Api.Kind} {i : Nat} {x : Api.Kind} (h : l[i]? = some x) (k : Api.Kind) : arr (l.take (i + 1)) k = arr (l.take i) (.mk [x, k]) := by
  unfold arr
  rw [List.take_add_one, h]
  simp
theorem cntL_take {l : List Api.Kind} {x : Api.Kind} (h : x ∈ l) : x.cnt ≤ cntL l := cntL_mem h
theorem Arrow_l1_M (fuel : Nat) (l : List Api.Kind) (hf : cntL l + 1 ≤ fuel) : ∀ (n i kf : Nat) (ok : Bool), i + n = l.length → n + 1 ≤ kf → M.kind_Arrow_l1 fuel l kf ok i = some (ok && (l.drop i).all vK) := by
  intro n
  induction n with
  | zero =>
    intro i kf ok hi hk
    obtain ⟨g, rfl⟩ : ∃ g, kf = g + 1 := ⟨kf - 1, by omega⟩
    rw [M.kind_Arrow_l1, if_neg (by simp [ltI]; omega), List.drop_eq_nil_of_le (by omega)]
    simp
  | succ n ih =>
    intro i kf ok hi hk
    obtain ⟨g, rfl⟩ : ∃ g, kf = g + 1 := ⟨kf - 1, by omega⟩
    rw [M.kind_Arrow_l1, if_pos (by simp [ltI]; omega)]
    have hx : l[i]? = some l[i] := List.getElem?_eq_getElem (by omega)
    have hv := valid_M (k := l[i]) (fuel := fuel) (by have := cntL_mem (List.getElem_mem (l := l) (n := i) (by omega)); omega)
    rw [hx, List.drop_eq_getElem_cons (by omega)]
    simp only [Option.bind_some, hv]
    cases ok
    · simp [ih (i + 1) g _ (by omega) (by omega)]
    · rw [List.all_cons]
      simp only [if_true, Option.bind_some, ih (i + 1) g _ (by omega) (by omega), Bool.true_and]
theorem Arrow_l2_M (fuel : Nat) (l : List Api.Kind) (hf : cntL l + 1 ≤ fuel) (hl : l.all vK = true) : ∀ (i kf : Nat) (k : Api.Kind) (I : Int), i ≤ l.length → I = (i : Int) - 1 → i + 1 ≤ kf → M.kind_Arrow_l2 fuel l kf k.L I = some (arr (l.take i) k).L := by
  intro i
  induction i with
  | zero =>
    intro kf k I hi hI hk
    obtain ⟨g, rfl⟩ : ∃ g, kf = g + 1 := ⟨kf - 1, by omega⟩
    rw [M.kind_Arrow_l2, if_neg (by simp [leI]; omega)]
    simp [arr]
  | succ i ih =>
    intro kf k I hi hI hk
    obtain ⟨g, rfl⟩ : ∃ g, kf = g + 1 := ⟨kf - 1, by omega⟩
    have hx : l[i]? = some l[i] := List.getElem?_eq_getElem (by omega)
    have hm : l[i] ∈ l := List.getElem_mem _
    generalize l[i] = x at hx hm
    have hI' : I = (i : Int) := by omega
    rw [M.kind_Arrow_l2, if_pos (by simp [leI]; omega), hI', idx, if_pos (by omega)]
    simp only [Int.toNat_natCast, hx, Option.bind_some]
    rw [copied_M x (vK_two (List.all_eq_true.1 hl x hm)) fuel (by have := cntL_mem hm; omega)]
    simp only [Option.bind_some, M.kind_pair, mk_L]
    rw [arr_take hx]
    exact ih g (.mk [x, k]) _ (by omega) rfl (by omega)
theorem two_arr : ∀ {l : List Api.Kind} {k : Api.Kind}, l.all vK = true → k.two = true → (arr l k).two = true
  | [], k, _, hk => hk
  | x :: l, k, hl, hk => by
    simp only [List.all_cons, Bool.and_eq_true] at hl
    show (Api.Kind.mk [x, arr l k]).two = true
    rw [two_mk2, vK_two hl.1, two_arr hl.2 hk]; rfl
theorem cnt_arr : ∀ (l : List Api.Kind) (k : Api.Kind), (arr l k).cnt = l.length + cntL l + k.cnt
  | [], k => by simp [arr, cntL]
  | x :: l, k => by
    show (Api.Kind.mk [x, arr l k]).cnt = _
    rw [cnt_mk2, cnt_arr l k, cntL, List.length_cons]; omega
theorem Arrow_M {l : List Api.Kind} {k : Api.Kind} {fuel : Nat} (hf : l.length + cntL l + k.cnt + 1 ≤ fuel) :
    M.kind_Arrow fuel l k = some (if vK k && l.all vK then (if 400 < l.length then (.mk [], 5) else if vK (arr l k) then (arr l k, 0) else (.mk [], 5)) else (.mk [], 1)) := by
  rw [M.kind_Arrow, valid_M (by omega)]
  simp only [Option.bind_some]
  rw [Arrow_l1_M fuel l (by omega) l.length 0 fuel _ (by simp) (by omega)]
  simp only [Option.bind_some, List.drop_zero]
  cases hv : (vK k && l.all vK)
  · simp
  rw [Bool.and_eq_true] at hv
  simp only [Bool.not_true, Bool.false_eq_true, if_false, if_true]
  by_cases e : 400 < l.length
  · rw [if_pos e, if_pos (by simp [ltI]; omega)]
  rw [if_neg e, if_neg (by simp [ltI]; omega), copied_M k (vK_two hv.1) fuel (by omega)]
  simp only [Option.bind_some]
  rw [Arrow_l2_M fuel l (by omega) hv.2 l.length fuel k _ (by omega) rfl (by omega), List.take_length]
  simp only [Option.bind_some]
  rw [mk_L, valid_M (k := arr l k) (by rw [cnt_arr]; omega)]
  simp only [Option.bind_some]
  cases vK (arr l k) <;> rfl
def ch (b : Bool) : Nat → Api.Kind
  | 0 => .mk []
  | n + 1 => if b then .mk [ch b n, .mk []] else .mk [.mk [], ch b n]
theorem two_ch (b : Bool) : ∀ n, (ch b n).two = true
  | 0 => two_mk0
  | n + 1 => by cases b <;> simp [ch, two_mk2, two_mk0, two_ch]
theorem cnt_ch (b : Bool) : ∀ n, (ch b n).cnt = 2 * n + 1
  | 0 => cnt_mk0
  | n + 1 => by cases b <;> simp [ch, cnt_mk2, cnt_mk0, cnt_ch] <;> omega
theorem hgt_ch (b : Bool) : ∀ n, (ch b n).hgt = n + 1
  | 0 => hgt_mk0
  | n + 1 => by cases b <;> simp [ch, hgt_mk2, hgt_mk0, hgt_ch] <;> omega
theorem vK_ch (b : Bool) (n : Nat) (h : n < 500) : vK (ch b n) = decide (n + 1 ≤ 400) := by
  rw [vK, okK, two_ch, cnt_ch, hgt_ch]
  simp; omega
theorem ch_loop (b : Bool) (n : Nat) (hn : n < 500) : ∀ (m i kf : Nat), i + m = n → m + 1 ≤ kf → M.law08_KindLimits_l1 b n kf (ch b i).L i = some (ch b n).L := by
  intro m
  induction m with
  | zero =>
    intro i kf hi hk
    obtain ⟨g, rfl⟩ : ∃ g, kf = g + 1 := ⟨kf - 1, by omega⟩
    rw [M.law08_KindLimits_l1, if_neg (by simp [ltI]; omega), show i = n by omega]
  | succ m ih =>
    intro i kf hi hk
    obtain ⟨g, rfl⟩ : ∃ g, kf = g + 1 := ⟨kf - 1, by omega⟩
    rw [M.law08_KindLimits_l1, if_pos (by simp [ltI]; omega), chk16 (n := (i : Int) + 1) (by omega) (by omega)]
    have := ih (i + 1) g (by omega) (by omega)
    cases b
    · simp only [mk_L]; simpa [ch] using this
    · simp only [mk_L]; simpa [ch] using this
theorem Limits_M (a1 : Int) (b : Bool) {fuel : Nat} (hf : 3000 ≤ fuel) (h0 : 0 ≤ a1) (h1 : a1 ≤ 65535) : M.law08_KindLimits fuel a1 b = some true := by
  rw [M.law08_KindLimits, awake_M (by omega)]
  have hm : Int.tmod a1 500 = a1 % 500 := Int.tmod_eq_emod_of_nonneg h0
  obtain ⟨n, hn, hlt⟩ : ∃ n : Nat, Int.tmod a1 500 = n ∧ n < 500 := ⟨(a1 % 500).toNat, by omega, by omega⟩
  rw [hn, chk16 (n := (n : Int)) (by omega) (by omega)]
  simp only [obind, Bool.not_true, Bool.false_eq_true, if_false]
  have q0 : M.law08_KindLimits_l1 b (n : Int) fuel [] 0 = some (ch b n).L := by simpa [ch] using ch_loop b n hlt n 0 fuel (by omega) (by omega)
  rw [q0]
  simp only [obind]
  have e1 : (⟨(ch b n).L⟩ : Api.Kind) = ch b n := mk_L _
  have c1 := cnt_ch b n
  have p1 := Parts_M (k := ch b n) (fuel := fuel) (by omega)
  have p2 := Text_M (k := ch b n) (fuel := fuel) (by omega)
  have p3 := valid_M (k := ch b n) (fuel := fuel) (by omega)
  have p4 := Arrow_M (l := [.mk []]) (k := ch b n) (fuel := fuel) (by simp [cntL, cnt_mk0]; omega)
  have t1 := tx_len (ch b n) (two_ch b n)
  have t2 : ¬ 16384 < (tx (ch b n)).length := by rw [c1] at t1; omega
  rw [if_neg t2] at p2
  rw [vK_ch b n hlt] at p1 p2 p3 p4
  have v1 : vK (arr [.mk []] (ch b n)) = decide (n + 2 ≤ 400) := by
    have ea : arr [.mk []] (ch b n) = .mk [.mk [], ch b n] := by simp [arr]
    rw [ea, vK, okK, two_mk2, cnt_mk2, hgt_mk2, two_mk0, cnt_mk0, hgt_mk0, two_ch, cnt_ch, hgt_ch]
    rw [Bool.eq_iff_iff]
    simp only [Bool.true_and, Bool.and_eq_true, decide_eq_true_eq]
    omega
  rw [v1] at p4
  rw [chk64 (n := (n : Int)) (by omega) (by omega)]
  simp only [obind]
  rw [chk64 (n := (n : Int) + 1) (by omega) (by omega)]
  have l1 : leI ((n : Int) + 1) 400 = decide (n + 1 ≤ 400) := by simp [leI]; omega
  have l2 : leI ((n : Int) + 2) 400 = decide (n + 2 ≤ 400) := by simp [leI]; omega
  have c2 : chk .i64 ((n : Int) + 2) = some ((n : Int) + 2) := chk64 (by omega) (by omega)
  simp only [obind, e1, p1, p2, p3, p4, l1, l2, c2]
  by_cases d1 : n + 1 ≤ 400
  · by_cases d2 : n + 2 ≤ 400
    · simp [d1, d2, eqB, eqI, vK_star, Bool.and_true]
    · simp [d1, d2, eqB, eqI, vK_star]
  · have d2 : ¬ n + 2 ≤ 400 := by omega
    simp [d1, d2, eqB, eqI]
theorem KindLimits_true (a1 : Int) (b : Bool) (h : Rng .u16 a1) : ∃ fuel, M.law08_KindLimits fuel a1 b = some true := ⟨3000, Limits_M a1 b (by omega) h.1 h.2⟩
end Go.Proofs.Ytcdjdpoahngkjaa
set_option linter.unusedVariables false
set_option linter.unusedSimpArgs false
namespace Go.Proofs.Ytcdjdpoahngkjaa
open Go Go.Abs
theorem vK_arr_base : ∀ {l : List Api.Kind} {k : Api.Kind}, vK (arr l k) = true → vK k = true
  | [], _, h => h
  | x :: l, k, h => by
    have e : arr (x :: l) k = .mk [x, arr l k] := by simp [arr]
    rw [e] at h
    exact vK_arr_base (vK_mk2 h).2
theorem All_loop (fuel : Nat) (l : List Api.Kind) (hf : cntL l + 1 ≤ fuel) : ∀ (n i kf : Nat), i + n = l.length → n + 1 ≤ kf →
    M.ref08_All_l1 fuel l kf i = some (if (l.drop i).all vK then .inr () else .inl false) := by
  intro n
  induction n with
  | zero =>
    intro i kf hi hk
    obtain ⟨g, rfl⟩ : ∃ g, kf = g + 1 := ⟨kf - 1, by omega⟩
    rw [M.ref08_All_l1, if_neg (by simp [ltI]; omega), List.drop_eq_nil_of_le (by omega)]
    simp
  | succ n ih =>
    intro i kf hi hk
    obtain ⟨g, rfl⟩ : ∃ g, kf = g + 1 := ⟨kf - 1, by omega⟩
    have hx : l[i]? = some l[i] := List.getElem?_eq_getElem (by omega)
    have hv := refValid_M (k := l[i]) (fuel := fuel) (by have := cntL_mem (List.getElem_mem (l := l) (n := i) (by omega)); omega)
    rw [M.ref08_All_l1, if_pos (by simp [ltI]; omega), hx, List.drop_eq_getElem_cons (by omega), List.all_cons]
    simp only [obind, hv]
    cases vK l[i]
    · rfl
    · simp only [Bool.not_true, Bool.false_eq_true, if_false, Bool.true_and]
      exact ih (i + 1) g (by omega) (by omega)
theorem All_M {l : List Api.Kind} {fuel : Nat} (hf : cntL l + 1 ≤ fuel) : M.ref08_All fuel l = some (l.all vK) := by
  rw [M.ref08_All, All_loop fuel l hf l.length 0 fuel (by simp) (by have := cntL_len l; omega), List.drop_zero]
  cases l.all vK <;> rfl
theorem refArrow_loop (fuel : Nat) (l : List Api.Kind) : ∀ (i kf : Nat) (k : Api.Kind) (I : Int), i ≤ l.length → I = (i : Int) - 1 → i + 1 ≤ kf → vK k = true →
    (arr (l.take i) k).cnt + 1 ≤ fuel → M.ref08_Arrow_l1 fuel l kf k.L I = some (if vK (arr (l.take i) k) then .inr (arr (l.take i) k).L else .inl (.mk [], 5)) := by
  intro i
  induction i with
  | zero =>
    intro kf k I hi hI hk hv _
    obtain ⟨g, rfl⟩ : ∃ g, kf = g + 1 := ⟨kf - 1, by omega⟩
    rw [M.ref08_Arrow_l1, if_neg (by simp [leI]; omega)]
    simp [arr, hv]
  | succ i ih =>
    intro kf k I hi hI hk hv hc2
    obtain ⟨g, rfl⟩ : ∃ g, kf = g + 1 := ⟨kf - 1, by omega⟩
    have hx : l[i]? = some l[i] := List.getElem?_eq_getElem (by omega)
    have hm : l[i] ∈ l := List.getElem_mem _
    generalize l[i] = x at hx hm
    have hI' : I = (i : Int) := by omega
    have hcc : (Api.Kind.mk [x, k]).cnt + 1 ≤ fuel := by
      rw [arr_take hx] at hc2
      have := cnt_arr (l.take i) (.mk [x, k])
      omega
    rw [M.ref08_Arrow_l1, if_pos (by simp [leI]; omega), hI', idx, if_pos (by omega)]
    simp only [Int.toNat_natCast, hx, obind, M.ref08_Pair, mk_L]
    rw [refValid_M hcc]
    simp only [obind]
    rw [arr_take hx] at hc2 ⊢
    cases hv2 : vK (.mk [x, k])
    · have : vK (arr (l.take i) (.mk [x, k])) = false := by
        cases h : vK (arr (l.take i) (.mk [x, k]))
        · rfl
        · rw [vK_arr_base h] at hv2; cases hv2
      rw [this]; rfl
    · simp only [Bool.not_true, Bool.false_eq_true, if_false]
      exact ih g (.mk [x, k]) _ (by omega) rfl (by omega) hv2 hc2
theorem refArrow_M {l : List Api.Kind} {k : Api.Kind} {fuel : Nat} (hf : l.length + cntL l + k.cnt + 1 ≤ fuel) :
    M.ref08_Arrow fuel l k = some (if vK k && l.all vK then (if 400 < l.length then (.mk [], 5) else if vK (arr l k) then (arr l k, 0) else (.mk [], 5)) else (.mk [], 1)) := by
  rw [M.ref08_Arrow, All_M (by omega), refValid_M (by omega)]
  simp only [obind]
  cases ha : l.all vK
  · cases vK k <;> rfl
  cases hv : vK k
  · rfl
  simp only [Bool.not_true, Bool.false_eq_true, if_false, if_true, obind, Bool.and_self]
  by_cases e : 400 < l.length
  · rw [if_pos e, if_pos (by simp [ltI]; omega)]
  rw [if_neg e, if_neg (by simp [ltI]; omega), refArrow_loop fuel l l.length fuel k _ (by omega) rfl (by omega) hv (by rw [List.take_length, cnt_arr]; omega), List.take_length]
  cases vK (arr l k)
  · rfl
  · simp
theorem Arity_loop (n : Nat) (hn : n ≤ 100) : ∀ (m i kf : Nat), i + m = n → m + 1 ≤ kf → M.kind_Arity_l1 (n : Int) kf (ch false i).L i = some (ch false n).L := by
  intro m
  induction m with
  | zero =>
    intro i kf hi hk
    obtain ⟨g, rfl⟩ : ∃ g, kf = g + 1 := ⟨kf - 1, by omega⟩
    rw [M.kind_Arity_l1, if_neg (by simp [ltI]; omega), show i = n by omega]
  | succ m ih =>
    intro i kf hi hk
    obtain ⟨g, rfl⟩ : ∃ g, kf = g + 1 := ⟨kf - 1, by omega⟩
    rw [M.kind_Arity_l1, if_pos (by simp [ltI]; omega)]
    simp only [M.kind_Star, M.kind_pair, obind, mk_L]
    exact ih (i + 1) g (by omega) (by omega)
theorem refArity_loop (n : Nat) (hn : n ≤ 100) : ∀ (m i kf : Nat) (I : Int), I = i → i + m = n → m + 1 ≤ kf → M.ref08_Arity_l1 (n : Int) kf (ch false i).L I = some (ch false n).L := by
  intro m
  induction m with
  | zero =>
    intro i kf I hI hi hk
    obtain ⟨g, rfl⟩ : ∃ g, kf = g + 1 := ⟨kf - 1, by omega⟩
    rw [M.ref08_Arity_l1, if_neg (by simp [ltI]; omega), show i = n by omega]
  | succ m ih =>
    intro i kf I hI hi hk
    obtain ⟨g, rfl⟩ : ∃ g, kf = g + 1 := ⟨kf - 1, by omega⟩
    rw [M.ref08_Arity_l1, if_pos (by simp [ltI]; omega)]
    simp only [M.ref08_Pair, obind, mk_L]
    rw [chk64 (by omega) (by omega)]
    simp only [obind]
    exact ih (i + 1) g _ (by omega) (by omega) (by omega)
theorem Parts2_loop : ∀ k : Api.Kind, k.two = true → ∀ (kf : Nat) (out : List Api.Kind), k.cnt + 1 ≤ kf → out.length + (ps k).length ≤ 1000000 → M.ref08_Parts_l1 kf k.L out = some (out ++ ps k, []) := by
  refine Api.Kind.indTwo ?_ ?_
  · intro kf out hf hb
    obtain ⟨f, rfl⟩ : ∃ f, kf = f + 1 := ⟨kf - 1, by omega⟩
    rw [M.ref08_Parts_l1, if_neg (by simp [eqI]), ps_0, List.append_nil]
  · intro x y hx hy ihx ihy kf out hf hb
    rw [cnt_mk2] at hf
    have h1 := cnt_pos x; have h2 := cnt_pos y
    obtain ⟨f, rfl⟩ : ∃ f, kf = f + 1 := ⟨kf - 1, by omega⟩
    rw [ps_2] at hb ⊢
    simp only [List.length_cons] at hb
    rw [M.ref08_Parts_l1, if_pos (by simp [eqI])]
    simp only [List.getElem?_cons_zero, List.getElem?_cons_succ, obind]
    rw [app_some (by decide) (by simp; omega)]
    simp only [obind]
    rw [ihy f _ (by omega) (by simp; omega)]
    simp
theorem refParts_M {k : Api.Kind} {fuel : Nat} (hf : k.cnt + 1 ≤ fuel) (hk : vK k = true) : M.ref08_Parts fuel k = some (ps k) := by
  have h1 := ps_len k (vK_two hk); have h2 := vK_hgt hk
  rw [M.ref08_Parts, Parts2_loop k (vK_two hk) fuel [] hf (by simp; omega)]
  rfl
theorem ps_valid : ∀ k : Api.Kind, k.two = true → vK k = true → ∀ x ∈ ps k, vK x = true ∧ x.cnt ≤ k.cnt := by
  refine Api.Kind.indTwo ?_ ?_
  · intro _ x hx; rw [ps_0] at hx; cases hx
  · intro x y hx hy ihx ihy hv z hz
    rw [ps_2] at hz
    rw [cnt_mk2]
    rcases List.mem_cons.1 hz with rfl | hz
    · exact ⟨(vK_mk2 hv).1, by omega⟩
    · obtain ⟨h1, h2⟩ := ihy (vK_mk2 hv).2 z hz
      exact ⟨h1, by omega⟩
theorem EqF_loop (fuel : Nat) (l : List Api.Kind) (hl : ∀ x ∈ l, vK x = true ∧ x.cnt + 1 ≤ fuel) : ∀ (n i kf : Nat), i + n = l.length → n + 1 ≤ kf → M.slices_EqualFunc_api_Kind_Equal_l1 fuel l l kf i = some (.inr ()) := by
  intro n
  induction n with
  | zero =>
    intro i kf hi hk
    obtain ⟨g, rfl⟩ : ∃ g, kf = g + 1 := ⟨kf - 1, by omega⟩
    rw [M.slices_EqualFunc_api_Kind_Equal_l1, if_neg (by simp [ltI]; omega)]
  | succ n ih =>
    intro i kf hi hk
    obtain ⟨g, rfl⟩ : ∃ g, kf = g + 1 := ⟨kf - 1, by omega⟩
    have hx : l[i]? = some l[i] := List.getElem?_eq_getElem (by omega)
    obtain ⟨h1, h2⟩ := hl l[i] (List.getElem_mem _)
    rw [M.slices_EqualFunc_api_Kind_Equal_l1, if_pos (by simp [ltI]; omega), hx]
    simp only [obind]
    rw [refEqual_M h2 h2, h1]
    simp only [obind, Bool.and_self, decide_true, Bool.not_true, Bool.false_eq_true, if_false]
    exact ih (i + 1) g (by omega) (by omega)
theorem EqF_M {l : List Api.Kind} {fuel : Nat} (hl : ∀ x ∈ l, vK x = true ∧ x.cnt + 1 ≤ fuel) (hf : l.length + 1 ≤ fuel) : M.slices_EqualFunc_api_Kind_Equal fuel l l = some true := by
  rw [M.slices_EqualFunc_api_Kind_Equal, if_neg (by simp [eqI]), EqF_loop fuel l hl l.length 0 fuel (by simp) hf]
  rfl
theorem Contains_loop (fuel : Nat) (l : List Api.Kind) (hl : cntL l + 1 ≤ fuel) : ∀ (n i kf : Nat), i + n = l.length → n + 1 ≤ kf →
    ∃ r, M.slices_IndexFunc_api_Kind_big_l1 fuel l kf i = some r ∧ (r = .inr () → ∀ x ∈ l.drop i, x.cnt ≤ 300 ∧ x.hgt ≤ 60) ∧ (∀ z, r = .inl z → 0 ≤ z) := by
  intro n
  induction n with
  | zero =>
    intro i kf hi hk
    obtain ⟨g, rfl⟩ : ∃ g, kf = g + 1 := ⟨kf - 1, by omega⟩
    rw [M.slices_IndexFunc_api_Kind_big_l1, if_neg (by simp [ltI]; omega), List.drop_eq_nil_of_le (by omega)]
    exact ⟨_, rfl, fun _ x hx => (by cases hx), fun z hz => (by cases hz)⟩
  | succ n ih =>
    intro i kf hi hk
    obtain ⟨g, rfl⟩ : ∃ g, kf = g + 1 := ⟨kf - 1, by omega⟩
    have hx : l[i]? = some l[i] := List.getElem?_eq_getElem (by omega)
    obtain ⟨b, h1, h2⟩ := big_M (k := l[i]) (fuel := fuel) (by have := cntL_mem (List.getElem_mem (l := l) (n := i) (by omega)); omega)
    rw [M.slices_IndexFunc_api_Kind_big_l1, if_pos (by simp [ltI]; omega), hx, List.drop_eq_getElem_cons (by omega)]
    simp only [obind, h1]
    cases b
    · obtain ⟨r, r1, r2, r3⟩ := ih (i + 1) g (by omega) (by omega)
      refine ⟨r, by simpa using r1, fun hr x hx => ?_, r3⟩
      rcases List.mem_cons.1 hx with rfl | hx
      · exact h2 rfl
      · exact r2 hr x hx
    · exact ⟨_, rfl, fun h => (by cases h), fun z hz => (by simp at hz; omega)⟩
theorem Contains_M {l : List Api.Kind} {fuel : Nat} (hl : cntL l + 1 ≤ fuel) : ∃ b, M.slices_ContainsFunc_api_Kind_big fuel l = some b ∧ (b = false → ∀ x ∈ l, x.cnt ≤ 300 ∧ x.hgt ≤ 60) := by
  obtain ⟨r, r1, r2, r3⟩ := Contains_loop fuel l hl l.length 0 fuel (by simp) (by have := cntL_len l; omega)
  rw [M.slices_ContainsFunc_api_Kind_big, M.slices_IndexFunc_api_Kind_big, r1]
  cases r with
  | inl z =>
    have := r3 z rfl
    refine ⟨true, ?_, fun h => (by cases h)⟩
    simp [leI, this]
  | inr u => exact ⟨false, by simp [leI], fun _ => by simpa using r2 rfl⟩
theorem refSelf_M {k : Api.Kind} {fuel : Nat} (hf : k.cnt + 1 ≤ fuel) (hk : vK k = true) : M.ref08_Equal fuel k k = some true := by
  rw [refEqual_M hf hf, hk]; simp
theorem Builds_M (l : List Api.Kind) (k : Api.Kind) (n : Int) {fuel : Nat} (hf : 500 ≤ fuel) (h : l.length + cntL l + k.cnt + 1 ≤ fuel) : M.law08_KindBuilds fuel l k n = some true := by
  rw [M.law08_KindBuilds, awake_M (by omega)]
  obtain ⟨b1, e1, _⟩ := Contains_M (l := l) (fuel := fuel) (by omega)
  obtain ⟨b2, e2, _⟩ := big_M (k := k) (fuel := fuel) (by omega)
  have star : M.ref08_Equal fuel (.mk []) (.mk []) = some true := refSelf_M (by rw [cnt_mk0]; omega) vK_star
  simp only [obind, Bool.not_true, Bool.false_eq_true, if_false]
  by_cases d0 : ltI 410 (l.length : Int) = true
  · rw [if_pos d0]; rfl
  rw [if_neg d0, e1]
  simp only [obind]
  cases b1
  case true => rfl
  simp only [Bool.false_eq_true, if_false, e2, obind]
  cases b2
  case true => rfl
  simp only [Bool.false_eq_true, if_false]
  rw [Arrow_M h, refArrow_M h]
  generalize hR : (if vK k && l.all vK then (if 400 < l.length then (Api.Kind.mk [], (5 : Int)) else if vK (arr l k) then (arr l k, 0) else (.mk [], 5)) else (.mk [], 1)) = R
  have hR1 : M.ref08_Equal fuel R.1 R.1 = some true := by
    rw [← hR]
    split
    · split
      · exact star
      · split
        · exact refSelf_M (by rw [cnt_arr]; omega) (by assumption)
        · exact star
    · exact star
  have hee : eqI R.2 R.2 = true := by simp [eqI]
  simp only [obind, hee, Bool.not_true, Bool.false_eq_true, if_false, hR1]
  have p1 := Parts_M (k := k) (fuel := fuel) (by omega)
  have p2 := refValid_M (k := k) (fuel := fuel) (by omega)
  have tail : ((M.kind_Parts fuel k).bind fun v52 => (M.ref08_Valid fuel k).bind fun v54 =>
      if !v54 then (if eqI v52.2.2 1 then if eqI (v52.1.length : Int) 0 then (M.law08_none v52.2.1).bind fun v62 => some v62 else some false else some false : Option Bool).bind fun b66 => some b66
      else (if eqI v52.2.2 0 then (M.law08_none v52.2.1).bind fun v72 => if v72 then (M.ref08_Parts fuel k).bind fun v75 => (M.slices_EqualFunc_api_Kind_Equal fuel v52.1 v75).bind fun v77 => some v77 else some false else some false : Option Bool).bind fun b80 => some b80) = some true := by
    rw [p1, p2]
    simp only [obind]
    cases hv : vK k
    · simp [eqI, none_M]
    · have q1 := refParts_M (k := k) (fuel := fuel) (by omega) hv
      have q2 := EqF_M (l := ps k) (fuel := fuel) (fun x hx => by
        obtain ⟨h1, h2⟩ := ps_valid k (vK_two hv) hv x hx
        exact ⟨h1, by omega⟩) (by have := ps_len k (vK_two hv); have := vK_hgt hv; omega)
      simp [eqI, none_M, q1, q2]
  by_cases d1 : (ltI n 0 || ltI 100 n) = true
  · have a1 : M.kind_Arity fuel n = some (.mk [], 2) := by rw [M.kind_Arity, if_pos d1]
    rw [a1]
    simp only [obind, d1, if_true]
    have e3 : eqI 2 2 = true := rfl
    have nm : M.law08_none (.mk []) = some true := by simp [none_M]
    simp only [e3, nm, Bool.not_true, Bool.false_eq_true, if_false, obind]
    exact tail
  · have d2 : 0 ≤ n ∧ n ≤ 100 := by simp [ltI] at d1; omega
    obtain ⟨m, rfl⟩ : ∃ m : Nat, n = m := ⟨n.toNat, by omega⟩
    have q0 : M.kind_Arity_l1 (m : Int) fuel [] 0 = some (ch false m).L := Arity_loop m (by omega) m 0 fuel (by omega) (by omega)
    have q1 : M.ref08_Arity_l1 (m : Int) fuel [] 0 = some (ch false m).L := refArity_loop m (by omega) m 0 fuel 0 rfl (by omega) (by omega)
    have a1 : M.kind_Arity fuel m = some (ch false m, 0) := by
      rw [M.kind_Arity, if_neg d1, q0]; simp
    have a2 : M.ref08_Arity fuel m = some (ch false m) := by
      rw [M.ref08_Arity, q1]; simp
    have a3 : M.ref08_Equal fuel (ch false m) (ch false m) = some true := refSelf_M (by rw [cnt_ch]; omega) (by rw [vK_ch false m (by omega)]; simp; omega)
    rw [a1]
    simp only [obind, if_neg d1]
    have e3 : eqI 0 0 = true := rfl
    simp only [e3, a2, a3, Bool.not_true, Bool.false_eq_true, if_false, obind]
    exact tail
theorem KindBuilds_true (l : List Api.Kind) (k : Api.Kind) (n : Int) (_ : l.length * 24 ≤ 140737488351232 ∧ ∀ x ∈ l, (fun _ => True) x) (_ : Rng .i64 n) : ∃ fuel, M.law08_KindBuilds fuel l k n = some true :=
  ⟨l.length + cntL l + k.cnt + 500, Builds_M l k n (by omega) (by omega)⟩
end Go.Proofs.Ytcdjdpoahngkjaa
set_option linter.unusedVariables false
set_option linter.unusedSimpArgs false
namespace Go.Proofs.Ytcdjdpoahngkjaa
open Go Go.Abs
theorem arr_ps : ∀ k : Api.Kind, k.two = true → arr (ps k) (.mk []) = k := by
  refine Api.Kind.indTwo ?_ ?_
  · rw [ps_0]; rfl
  · intro x y hx hy ihx ihy
    rw [ps_2]
    show Api.Kind.mk [x, arr (ps y) (.mk [])] = _
    rw [ihy]
theorem ps_arr : ∀ (l : List Api.Kind) (k : Api.Kind), ps (arr l k) = l ++ ps k
  | [], k => rfl
  | x :: l, k => by
    show ps (.mk [x, arr l k]) = _
    rw [ps_2, ps_arr l k]; rfl
theorem Apply_M2 {a b : Api.Kind} {fuel : Nat} (hv : vK (.mk [a, b]) = true) (hf : (Api.Kind.mk [a, b]).cnt + 1 ≤ fuel) : M.kind_Apply fuel (.mk [a, b]) a = some (b, 0) := by
  obtain ⟨va, vb⟩ := vK_mk2 hv
  have h0 := hf
  rw [cnt_mk2] at h0
  have h1 := equal_M a (vK_two va) a fuel (by omega)
  have h2 := copied_M b (vK_two vb) fuel (by omega)
  rw [M.kind_Apply, valid_M hf, valid_M (by omega), hv, va]
  simp at h1
  simp [eqI, h1, h2]
theorem Apply_M0 {a : Api.Kind} {fuel : Nat} (hf : a.cnt + 2 ≤ fuel) (ha : vK a = true) : M.kind_Apply fuel (.mk []) a = some (.mk [], 11) := by
  rw [M.kind_Apply, valid_M (by rw [cnt_mk0]; omega), valid_M (by omega), ha, vK_star]
  simp [eqI]
theorem Curry_loop (fuel : Nat) (v : List Api.Kind × Api.Kind × Int) : ∀ x : Api.Kind, x.two = true → vK x = true → x.cnt + 1 ≤ fuel → ∀ (i kf : Nat), v.1.drop i = ps x → x.cnt + 1 ≤ kf → M.law08_KindCurries_l1 fuel v kf x.L i = some (.inr []) := by
  refine Api.Kind.indTwo ?_ ?_
  · intro hv hf i kf hd hk
    obtain ⟨g, rfl⟩ : ∃ g, kf = g + 1 := ⟨kf - 1, by omega⟩
    rw [ps_0] at hd
    have := List.drop_eq_nil_iff.1 hd
    rw [M.law08_KindCurries_l1, if_neg (by simp [ltI]; omega)]
  · intro a b ha hb iha ihb hv hf i kf hd hk
    obtain ⟨g, rfl⟩ : ∃ g, kf = g + 1 := ⟨kf - 1, by omega⟩
    rw [ps_2] at hd
    obtain ⟨h1, h2, h3, h4⟩ := drop_cons hd
    rw [M.law08_KindCurries_l1, if_pos h1, h2]
    simp only [obind, mk_L]
    rw [Apply_M2 hv hf]
    have e0 : eqI 0 0 = true := rfl
    simp only [obind, e0, Bool.not_true, Bool.false_eq_true, if_false]
    rw [cnt_mk2] at hf hk
    exact ihb (vK_mk2 hv).2 (by omega) (i + 1) g h3 (by omega)
theorem EqF2_loop (fuel : Nat) (l : List Api.Kind) (hl : ∀ x ∈ l, vK x = true ∧ x.cnt + 1 ≤ fuel) : ∀ (n i kf : Nat), i + n = l.length → n + 1 ≤ kf → M.slices_EqualFunc_api_Kind_Equal_v2_l1 fuel l l kf i = some (.inr ()) := by
  intro n
  induction n with
  | zero =>
    intro i kf hi hk
    obtain ⟨g, rfl⟩ : ∃ g, kf = g + 1 := ⟨kf - 1, by omega⟩
    rw [M.slices_EqualFunc_api_Kind_Equal_v2_l1, if_neg (by simp [ltI]; omega)]
  | succ n ih =>
    intro i kf hi hk
    obtain ⟨g, rfl⟩ : ∃ g, kf = g + 1 := ⟨kf - 1, by omega⟩
    have hx : l[i]? = some l[i] := List.getElem?_eq_getElem (by omega)
    obtain ⟨h1, h2⟩ := hl l[i] (List.getElem_mem _)
    rw [M.slices_EqualFunc_api_Kind_Equal_v2_l1, if_pos (by simp [ltI]; omega), hx]
    simp only [obind]
    rw [Equal_M h2 h2, h1]
    simp only [obind, Bool.and_self, decide_true, Bool.not_true, Bool.false_eq_true, if_false]
    exact ih (i + 1) g (by omega) (by omega)
theorem EqF2_M {l : List Api.Kind} {fuel : Nat} (hl : ∀ x ∈ l, vK x = true ∧ x.cnt + 1 ≤ fuel) (hf : l.length + 1 ≤ fuel) : M.slices_EqualFunc_api_Kind_Equal_v2 fuel l l = some true := by
  rw [M.slices_EqualFunc_api_Kind_Equal_v2, if_neg (by simp [eqI]), EqF2_loop fuel l hl l.length 0 fuel (by simp) hf]
  rfl
theorem Concat_M (a b : List Api.Kind) {fuel : Nat} (hf : 3 ≤ fuel) (ha : a.length ≤ 100000) (hb : b.length ≤ 100000) : M.slices_Concat_api_Kind fuel [a, b] = some (a ++ b) := by
  obtain ⟨g, rfl⟩ : ∃ g, fuel = g + 3 := ⟨fuel - 3, by omega⟩
  have c1 : chk .i64 (0 + (a.length : Int)) = some (0 + (a.length : Int)) := chk64 (by omega) (by omega)
  have c2 : chk .i64 (0 + (a.length : Int) + (b.length : Int)) = some (0 + (a.length : Int) + (b.length : Int)) := chk64 (by omega) (by omega)
  have n1 : ltI (0 + (a.length : Int)) 0 = false := decide_eq_false (by omega)
  have n2 : ltI (0 + (a.length : Int) + (b.length : Int)) 0 = false := decide_eq_false (by omega)
  have l1 : M.slices_Concat_api_Kind_l1 [a, b] (g + 3) 0 0 = some (0 + (a.length : Int) + (b.length : Int)) := by
    rw [M.slices_Concat_api_Kind_l1, if_pos (by simp [ltI])]
    simp only [List.getElem?_cons_zero, obind, c1, n1, Bool.false_eq_true, if_false]
    rw [M.slices_Concat_api_Kind_l1, if_pos (by simp [ltI])]
    simp only [List.getElem?_cons_succ, List.getElem?_cons_zero, obind, c2, n2, Bool.false_eq_true, if_false]
    rw [M.slices_Concat_api_Kind_l1, if_neg (by simp [ltI])]
  have l2 : M.slices_Concat_api_Kind_l2 [a, b] (g + 3) [] 0 = some (a ++ b) := by
    rw [M.slices_Concat_api_Kind_l2, if_pos (by simp [ltI])]
    simp only [List.getElem?_cons_zero, obind]
    rw [app_some (by decide) (by simp; omega)]
    simp only [obind, List.nil_append]
    rw [M.slices_Concat_api_Kind_l2, if_pos (by simp [ltI])]
    simp only [List.getElem?_cons_succ, List.getElem?_cons_zero, obind]
    rw [app_some (by decide) (by omega)]
    simp only [obind]
    rw [M.slices_Concat_api_Kind_l2, if_neg (by simp [ltI])]
  rw [M.slices_Concat_api_Kind, l1]
  simp only [obind]
  rw [growC, if_pos ⟨by omega, by omega⟩]
  simp only [obind]
  rw [l2]
  rfl
theorem Curries_M (k : Api.Kind) (l : List Api.Kind) {fuel : Nat} (hf : 500 ≤ fuel) (hk : l.length + cntL l + k.cnt + 2 ≤ fuel) : M.law08_KindCurries fuel k l = some true := by
  rw [M.law08_KindCurries, awake_M (by omega)]
  obtain ⟨b1, e1, _⟩ := big_M (k := k) (fuel := fuel) (by omega)
  obtain ⟨b2, e2, _⟩ := Contains_M (l := l) (fuel := fuel) (by omega)
  simp only [obind, Bool.not_true, Bool.false_eq_true, if_false, e1]
  cases b1
  case true => rfl
  simp only [Bool.false_eq_true, if_false]
  by_cases d0 : ltI 10 (l.length : Int) = true
  · rw [if_pos d0]; rfl
  have d0' := ltF (eq_false_of_ne_true d0)
  rw [if_neg d0, e2]
  simp only [obind]
  cases b2
  case true => rfl
  simp only [Bool.false_eq_true, if_false]
  rw [refValid_M (by omega), All_M (by omega)]
  simp only [obind]
  cases hv : vK k
  · rfl
  cases hl : l.all vK
  · rfl
  simp only [Bool.not_true, Bool.false_eq_true, if_false]
  have two := vK_two hv
  have hg := vK_hgt hv
  have hps := ps_len k two
  have pv := ps_valid k two hv
  have pall : (ps k).all vK = true := List.all_eq_true.2 fun x hx => (pv x hx).1
  have hcnt : (ps k).length + cntL (ps k) + 1 = k.cnt := by
    have := cnt_arr (ps k) (.mk [])
    rw [arr_ps k two, cnt_mk0] at this
    omega
  rw [Parts_M (by omega), hv]
  simp only [obind, if_true]
  rw [Arrow_M (by rw [cnt_mk0]; omega), vK_star, pall, if_neg (by omega : ¬ 400 < (ps k).length), arr_ps k two, hv]
  have e0 : eqI 0 0 = true := rfl
  simp only [obind, e0, Bool.and_self, if_true, Bool.not_true, Bool.false_eq_true, if_false]
  rw [Equal_M (by omega) (by omega), hv]
  simp only [obind, Bool.and_self, decide_true, Bool.not_true, Bool.false_eq_true, if_false]
  rw [Curry_loop fuel (ps k, .mk [], 0) k two hv (by omega) 0 fuel rfl (by omega)]
  simp only [obind, Sum.elim_inr, M.kind_Star]
  rw [Equal_M (by rw [cnt_mk0]; omega) (by rw [cnt_mk0]; omega), vK_star]
  simp only [obind, Bool.and_self, decide_true, Bool.not_true, Bool.false_eq_true, if_false]
  rw [Apply_M0 (by rw [cnt_mk0]; omega) vK_star]
  have e11 : eqI 11 11 = true := rfl
  simp only [obind, e11, Bool.not_true, Bool.false_eq_true, if_false]
  rw [Arrow_M (by omega), hv, hl, if_neg (by omega : ¬ 400 < l.length)]
  simp only [Bool.and_self, if_true]
  cases ha : vK (arr l k)
  · have e5 : eqI 5 0 = false := rfl
    have e55 : eqI 5 5 = true := rfl
    have nm : M.law08_none (.mk []) = some true := by simp [none_M]
    simp only [obind, Bool.false_eq_true, if_false, e5, Bool.not_false, if_true, e55, nm]
  · simp only [obind, if_true, e0, Bool.not_true, Bool.false_eq_true, if_false]
    rw [Parts_M (by rw [cnt_arr]; omega), ha]
    simp only [obind, if_true, e0]
    rw [Concat_M l (ps k) (by omega) (by omega) (by omega), ps_arr]
    simp only [obind]
    have hx : ∀ x ∈ l ++ ps k, vK x = true ∧ x.cnt + 1 ≤ fuel := fun x hx => by
      rcases List.mem_append.1 hx with h | h
      · have := cntL_mem h
        exact ⟨List.all_eq_true.1 hl x h, by omega⟩
      · have := pv x h
        exact ⟨this.1, by omega⟩
    rw [EqF2_M hx (by rw [List.length_append]; omega)]
    rfl
theorem KindCurries_true (k : Api.Kind) (l : List Api.Kind) (_ : l.length * 24 ≤ 140737488351232 ∧ ∀ x ∈ l, (fun _ => True) x) : ∃ fuel, M.law08_KindCurries fuel k l = some true :=
  ⟨l.length + cntL l + k.cnt + 500, Curries_M k l (by omega) (by omega)⟩
end Go.Proofs.Ytcdjdpoahngkjaa
