/- For every input the law PatternBack returns true. Part 14 of 23. No condition. -/
import Derived.Test.YtbnahfdbjaohkaaGreatDoorPBm
import Derived.Lib.Builder
import Derived.Lib.UnsafeStr
set_option linter.unusedVariables false
set_option linter.unnecessarySimpa false
set_option linter.unusedSimpArgs false
set_option maxRecDepth 100000
set_option maxHeartbeats 4000000
namespace Go.Proofs.YtbnahfdbjaohkaaGreatDoor
open Go Go.Abs Go.Proofs
theorem zJk(b:Nat)(w:World)(h0:w.cell? ⟨b,0,none⟩=some (.pointer (some ⟨b,0,none⟩))):
 Calls Tryz.prog 107 #[.pointer (some ⟨b,0,none⟩)] w fun e w'=>e=.returned (.tuple #[])∧w'=w:=by
 go_enter Tryz.func107,Tryz.ntmps107
 go_wp2
 rw[Lib.run_neq_ptr_same w _ Tryz.underlying104 (show Tryz.prog.info? 107=some Tryz.t107 from rfl)]
 go_wp2
 go_end0
 exact⟨rfl,rfl⟩
theorem zIk(b:Nat)(w:World)(h0:w.cell? ⟨b,0,none⟩=some (.pointer none))(hsh:w.shape? b=some (107,2))(hfz:w.frozen? ⟨b,0,none⟩=false):
 Calls Tryz.prog 107 #[.pointer (some ⟨b,0,none⟩)] w fun e w'=>e=.returned (.tuple #[])∧w'=w.setCell ⟨b,0,none⟩ (.pointer (some ⟨b,0,none⟩)):=by
 have hj:Tryz.prog.info? 107=some Tryz.t107:=rfl
 go_enter Tryz.func107,Tryz.ntmps107
 go_wp2
 rw[Lib.run_to_unsafe w ⟨b,0,none⟩ Tryz.underlying104 Tryz.underlying201 hj (by decide) hsh (Nat.zero_lt_succ 1)]
 simp only[Result.andThen]
 rw[Oper.upon_value]
 go_wp2
 rw[run_callFunc_extern Tryz.func170 (by kernel_rfl) (by kernel_rfl) (by kernel_rfl) (e:=Extern.AbiNoEscape.same) (by kernel_rfl)]
 rw[Lib.run_noEscape]
 simp only[Result.andThen]
 rw[Oper.upon_value]
 go_wp2
 rw[Lib.run_from_unsafe w ⟨b,0,none⟩ Tryz.underlying201 Tryz.underlying104 hj hsh (by kernel_rfl)]
 simp only[Result.andThen]
 rw[Oper.upon_value]
 go_wp2
 go_end0
 exact⟨rfl,rfl⟩
theorem setSelf{g:Gh}{bs:List (List AV)}{w:World}(h:Sto g bs w){i k ty:Nat}{rest:List AV}(hb0:bs[i]? =some (.baddr ty i::rest))(hk0:g.σ[i]? =some k):
 Sto g bs (w.setCell ⟨k,0,none⟩ (.pointer (some ⟨k,0,none⟩))):=by
 have hkm:k∈g.σ:=zq3 hk0
 have hblock: ∀j,j≠k->(w.setCell ⟨k,0,none⟩ (.pointer (some ⟨k,0,none⟩))).heap[j]? =w.heap[j]? :=fun j hj=>RowKit.Below.heap_setCell _ _ _ _ hj
 refine {h with
  imm:=fun y u hy=>?_
  blk:=fun i' blk k' hb hk'=>?_
  ownσ:=fun p k' hk'=>by simpa using h.ownσ p k' hk'}
 ·rw[World.cell?_setCell_other _ _ _ _ (fun e=>h.immσ y u hy (by rw[<-e];exact hkm))];exact h.imm y u hy
 ·obtain⟨c,ty',h1,h2,h3⟩:=h.blk i' blk k' hb hk'
  by_cases hi:i'=i
  ·subst hi
   rw[hb0] at hb;cases hb
   rw[hk0] at hk';cases hk'
   refine⟨c.setIfInBounds 0 (.pointer (some ⟨k,0,none⟩)),ty',?_,by simpa using h2,fun j y hy=>?_⟩
   ·simp only[World.setCell,Array.getElem?_modify,if_true]
    rw[h1];rfl
   ·obtain⟨h5,h6,h7⟩:=h3 j y hy
    rw[zC9]
    cases j with
    |zero=>
     simp only[List.length_cons] at h2
     rw[if_pos ⟨rfl,by omega⟩]
     simp at hy;subst hy
     exact⟨h5.imp (fun e=>by simpa using e),.baddr _ _ _ hk0,OwnsBy.of_not rfl⟩
    |succ j=>
     rw[if_neg (fun e=>by have:=e.1;omega)]
     exact⟨h5.imp (fun e=>by simpa using e),h6,h7.world (fun _ _ _ _ hs=>hs.setCell) zCz (fun _ _ h=>h) zEH⟩
  ·refine⟨c,ty',?_,h2,fun j x hx=>?_⟩
   ·rw[hblock k' (fun e=>?_)]
    ·exact h1
    ·subst e
     obtain⟨l1,e1⟩:=zq1 hk';obtain⟨l2,e2⟩:=zq1 hk0
     exact hi (zGb h.nodup l1 l2 (by rw[e1,e2]))
   ·obtain⟨h5,h6,h7⟩:=h3 j x hx
    exact⟨h5,h6,h7.world (fun _ _ _ _ hs=>hs.setCell) zCz (fun _ _ h=>h) zEH⟩
theorem zHQ(x:AV):Raw Tryz.prog 107 [.mptr 0 0] [[.baddr 107 0,x]] (.tup []) [[.baddr 107 0,x]]:=by
 have hb:([[.baddr 107 0,x]]:List (List AV))[0]? =some [.baddr 107 0,x]:=rfl
 generalize ([[.baddr 107 0,x]]:List (List AV))=bs at hb
 refine⟨⟨_,Tryz.func107,rfl,rfl⟩,fun g w vals hs h0 htg ha=>?_⟩
 obtain⟨hsz,hv⟩:=ha
 have hv0:=hv 0 _ rfl
 obtain⟨v0,rfl⟩:=Array.size_eq_one_iff.1 hsz
 cases hv0':(#[v0]:Array Value).getD 0 undef with
 |pointer p=>
  rw[hv0'] at hv0
  cases hv0 with
  |mptr _ _ k hk=>
   have:v0=.pointer (some ⟨k,0,none⟩):=hv0'
   subst this
   obtain⟨c,ty,h1,h2,h3⟩:=hs.blk 0 _ k hb hk
   obtain⟨h5,h6,h7⟩:=h3 0 _ rfl
   have hty:ty=107∧2=c.size:=by
    rcases h5 with h5|⟨he,b,h5⟩
    ·cases h5
    ·cases h5;exact⟨rfl,he⟩
   obtain⟨hty,hsz2⟩:=hty
   subst hty
   have hc0:=zC1 h1 0 (Nat.lt_of_lt_of_le (Nat.zero_lt_succ _) h2)
   have hkm:k∈g.σ:=zq3 hk
   generalize c.getD 0 undef=u at h6 hc0
   cases h6 with
   |baddr0 _ _ _=>
    refine(zIk k w hc0 (by unfold World.shape?;rw[h1];show some (107,c.size)=_;rw[<-hsz2]) (zF8 h1 0)).mono ?_
    rintro e w' ⟨rfl,rfl⟩
    refine⟨g,_,rfl,.tup [] #[] rfl (by simp),setSelf hs hb hk,?_,h0⟩
    have h8:=Ext.refl' w g (fun k hk=>hs.σ_lt hk) h0 htg
    exact {h8 with
     keep:=fun j hj hT=>by
      rw[RowKit.Below.heap_setCell _ _ _ _ (fun e=>?_)]
      subst e
      exact hT (.inl hkm)
     size:=by simp
     os:=h8.os
     tape:=h8.tape
     output:=h8.output}
   |baddr _ _ k' hk'=>
    rw[hk] at hk';cases hk'
    refine(zJk k w hc0).mono ?_
    rintro e w' ⟨rfl,rfl⟩
    exact⟨g,_,rfl,.tup [] #[] rfl (by simp),hs,Ext.refl' w' g (fun k hk=>hs.σ_lt hk) h0 htg,h0⟩
 |_=>rw[hv0'] at hv0;cases hv0
theorem zEf(b:List UInt8)(r:Unit)(h:zCq b=some r):
 Raw Tryz.prog 107 [.mptr 0 0] [[.baddr 107 0,.osl ⟨1,5⟩ (b.map cU)]] (.tup []) [[.baddr 107 0,.osl ⟨1,5⟩ (b.map cU)]]:=zHQ _
section
variable (b:Nat) (w:World)
theorem us_none(p:Option Addr)(w:World):(Builtin.unsafeString_ #[146,3] 9 #[.pointer p,.int .i64 0]).run Tryz.prog w=.ok (.string ⟨#[]⟩) w:=Lib.run_unsafeString_none w _ _ _ p
theorem string_nil(h0:w.cell? ⟨b,1,none⟩=some (.slice none 0 0)):
 Calls Tryz.prog 42 #[.pointer (some ⟨b,0,none⟩)] w fun e w'=>e=.returned (.string ⟨#[]⟩)∧w'=w.drew:=by
 have c1:w.drew.cell? ⟨b,1,none⟩=some (.slice none 0 0):=h0
 have hUS:=us_none
 have hSD:(Builtin.unsafeSliceData_ #[105] 146 #[.slice none 0 0]).run Tryz.prog w.drew=.ok (.pointer none) w.drew:=rfl
 go_enter Tryz.func42,Tryz.ntmps42
 go_wp2
 go_region
 all_goals (go_wp2;go_ret;exact⟨rfl,rfl⟩)
theorem string_room(a:Addr)(k:Nat)(h0:w.cell? ⟨b,1,none⟩=some (.slice (some a) 0 (k+1))):
 Calls Tryz.prog 42 #[.pointer (some ⟨b,0,none⟩)] w fun e w'=>e=.returned (.string ⟨#[]⟩)∧w'=w.drew:=by
 have c1:w.drew.cell? ⟨b,1,none⟩=some (.slice (some a) 0 (k+1)):=h0
 have hUS:=us_none
 have hSD:(Builtin.unsafeSliceData_ #[105] 146 #[.slice (some a) 0 (k+1)]).run Tryz.prog w.drew=.ok (.pointer (some a)) w.drew:=rfl
 go_enter Tryz.func42,Tryz.ntmps42
 go_wp2
 go_region
 all_goals (go_wp2;go_ret;exact⟨rfl,rfl⟩)
theorem string_noroom(a:Addr)(sh:TypeId×Nat)(hsh:w.shape? a.block=some sh)(h0:w.cell? ⟨b,1,none⟩=some (.slice (some a) 0 0))(hlt:b<w.heap.size):
 Calls Tryz.prog 42 #[.pointer (some ⟨b,0,none⟩)] w fun e w'=>e=.returned (.string ⟨#[]⟩)∧w'=(w.alloc (.view a 5)).drew:=by
 have c1:w.drew.cell? ⟨b,1,none⟩=some (.slice (some a) 0 0):=h0
 have hUS:=us_none
 have hSD:(Builtin.unsafeSliceData_ #[105] 146 #[.slice (some a) 0 0]).run Tryz.prog w.drew=.ok (.pointer (some ⟨w.drew.heap.size,0,none⟩)) (w.drew.alloc (.view a 5)):=
  Lib.run_unsafeSliceData_zero w.drew _ _ 5 Tryz.underlying146 a 0 sh hsh
 have c3:(w.alloc (.view a 5)).drew.cell? ⟨b,1,none⟩=some (.slice (some a) 0 0):=by
  show(w.alloc (.view a 5)).cell? ⟨b,1,none⟩=_
  rw[World.cell?_alloc_lt _ _ _ hlt];exact h0
 have c2:(w.drew.alloc (.view a 5)).cell? ⟨b,1,none⟩=some (.slice (some a) 0 0):=c3
 go_enter Tryz.func42,Tryz.ntmps42
 go_wp2
 go_region
 all_goals (go_wp2;go_ret;exact⟨rfl,rfl⟩)
theorem string_some(q cells:Nat)(l:List UInt8)(cap:Nat)(h1:l≠[])(hlc:l.length<=cap)(hn:l.length<=cells)(h63:l.length<=9223372036854775807)(hsh:w.shape? q=some (5,cells))
 (h0:w.cell? ⟨b,1,none⟩=some (.slice (some ⟨q,0,none⟩) l.length cap)) (hcell: ∀j x,l[j]? =some x->w.cell? ((⟨q,0,none⟩:Addr).add j)=some (.int .u8 x.toNat)):
 Calls Tryz.prog 42 #[.pointer (some ⟨b,0,none⟩)] w fun e w'=>e=.returned (.string ⟨l.toArray⟩)∧w'=w.drew.freeze ⟨q,0,none⟩ l.length:=by
 have c1:w.drew.cell? ⟨b,1,none⟩=some (.slice (some ⟨q,0,none⟩) l.length cap):=h0
 have hpos:l.length≠0:=by simpa using h1
 have hSD:(Builtin.unsafeSliceData_ #[105] 146 #[.slice (some ⟨q,0,none⟩) l.length cap]).run Tryz.prog w.drew=.ok (.pointer (some ⟨q,0,none⟩)) w.drew:=
  Lib.run_unsafeSliceData_row w.drew _ _ _ _ _ (by omega)
 have hUS:(Builtin.unsafeString_ #[146,3] 9 #[.pointer (some ⟨q,0,none⟩),.int .i64 l.length]).run Tryz.prog w.drew=.ok (.string ⟨l.toArray⟩) (w.drew.freeze ⟨q,0,none⟩ l.length):=
  Lib.run_unsafeString_row w.drew 146 3 9 5 Tryz.underlying146 (by kernel_rfl) q cells hsh l h1 hn h63 hcell
 clear h1 hpos hlc hn h63 hcell
 generalize hw:w.drew.freeze ⟨q,0,none⟩ l.length=wf at hUS ⊢
 go_enter Tryz.func42,Tryz.ntmps42
 go_wp2
 go_region
 all_goals (go_wp2;go_ret;exact⟨rfl,rfl⟩)
end
theorem Sto.move{g:Gh}{bs:List (List AV)}{w w':World}(h:Sto g bs w)(hc: ∀a v,w.cell? a=some v->w'.cell? a=some v)(hb: ∀k,k∈g.σ->w'.heap[k]? =w.heap[k]?)(hsz:w.heap.size<=w'.heap.size)
 (hown: ∀(i j k:Nat) c ty blk x,bs[i]? =some blk->g.σ[i]? =some k->w.heap[k]? =some (.cells c ty (0,0))->blk[j]? =some x->OwnsBy g.imm w (g.own (.cell i j)) x (c.getD j undef)->OwnsBy g.imm w' (g.own (.cell i j)) x (c.getD j undef)):
 Sto g bs w':={h with
 imm:=fun x v hx=>hc _ _ (h.imm x v hx)
 blk:=fun i blk k h1 h2=>by
  obtain⟨c,ty,q1,q2,q3⟩:=h.blk i blk k h1 h2
  refine⟨c,ty,by rw[hb k (zq3 h2)];exact q1,q2,fun j x hx=>?_⟩
  obtain⟨r1,r2,r3⟩:=q3 j x hx
  exact⟨r1,r2,hown i j k c ty blk x h1 h2 q1 hx r3⟩
 ownσ:=fun p k hp=>⟨(h.ownσ p k hp).1,Nat.lt_of_lt_of_le (h.ownσ p k hp).2 hsz⟩}
theorem zJH{g:Gh}{bs:List (List AV)}{w:World}(h:Sto g bs w):Sto g bs w.drew:=
 Sto.move h (fun _ _ h=>h) (fun _ _=>rfl) (Nat.le_refl _) fun _ _ _ _ _ _ _ _ _ _ _ h=>h
theorem zIt{w:World}{k:Nat}{sh:TypeId×Nat}(h:zGu w k=some sh):w.shape? k=some sh:=by
 unfold zGu at h;unfold World.shape?
 split at h
 ·rename_i c ty fr e;rw[e]
  split at h
  ·exact h
  ·cases h
 ·cases h
theorem heap_freeze(w:World)(q n k:Nat)(h:k≠q):(w.freeze ⟨q,0,none⟩ n).heap[k]? =w.heap[k]? :=by
 unfold World.freeze
 split
 ·rfl
 ·simp only[Array.getElem?_modify];rw[if_neg (fun e=>h e.symm)]
theorem freeze_at{w:World}{q n:Nat}{c:Array Value}{ty:TypeId}{fr:Nat×Nat}(h:w.heap[q]? =some (.cells c ty fr))(hn:n≠0):
 (w.freeze ⟨q,0,none⟩ n).heap[q]? =some (.cells c ty (if fr.1==fr.2 then (0,n) else (0,max fr.2 n))):=by
 unfold World.freeze
 rw[if_neg hn]
 simp only[Array.getElem?_modify,if_true,h,Option.map_some]
 obtain⟨lo,hi⟩:=fr
 simp
theorem zDo(b:List UInt8)(r:List UInt8)(h:zCd b=some r):
 Raw Tryz.prog 42 [.mptr 0 0] [[.baddr 107 0,.osl ⟨1,5⟩ (b.map cU)]] (.str r) [[.baddr 107 0,.osl ⟨1,5⟩ (b.map cU)]]:=by
 obtain rfl:=zqa h
 refine⟨⟨_,Tryz.func42,rfl,rfl⟩,fun g w vals hs h0 htg ha=>?_⟩
 obtain⟨hsz,hv⟩:=ha
 have hv0:=hv 0 _ rfl
 obtain⟨v0,rfl⟩:=Array.size_eq_one_iff.1 hsz
 cases hv0':(#[v0]:Array Value).getD 0 undef with
 |pointer p=>
  rw[hv0'] at hv0
  cases hv0 with
  |mptr _ _ k hk=>
   have:v0=.pointer (some ⟨k,0,none⟩):=hv0'
   subst this
   obtain⟨c,ty,h1,h2,h3⟩:=hs.blk 0 _ k rfl hk
   obtain⟨h5,h6,h7⟩:=h3 1 _ rfl
   have hc1:=zC1 h1 1 (Nat.lt_of_lt_of_le (Nat.lt_succ_self _) h2)
   have hkl:=hs.σ_lt (zq3 hk)
   have hrefl:=Ext.refl' w g (fun k hk=>hs.σ_lt hk) h0 htg
   have hext: ∀w':World,(∀k,k<w.heap.size->¬Fx.T ⟨w,g⟩ k->w'.heap[k]? =w.heap[k]?)->w.heap.size<=w'.heap.size->w'.os=w.os->w'.tape=w.tape->w'.output=w.output->Ext ⟨w,g⟩ g w':=fun w' p1 p2 p3 p4 p5=>
    {hrefl with keep:=p1,size:=p2,os:=p3,tape:=p4,output:=p5}
   have hstr:b.length<=281474976710656->Rep g.imm g.σ (.str b) (.string ⟨b.toArray⟩):=fun hl=>.str _ _ (by simp) (by omega)
   generalize hcv:c.getD 1 undef=u at h6 h7 hc1
   cases h6':b with
   |nil=>
    subst h6'
    have hrs:Rep g.imm g.σ (.str []) (.string ⟨#[]⟩):=hstr (by simp)
    cases h6 with
    |osl0 _=>
     refine(string_nil k w hc1).mono ?_
     rintro e w' ⟨rfl,rfl⟩
     exact⟨g,_,rfl,hrs,zJH hs,hext _ (fun _ _ _=>rfl) (Nat.le_refl _) rfl rfl rfl,h0⟩
    |osl _ _ a n cap vs hn hcap hbd he hi hr=>
     have hn0:n=0:=by simpa using hn
     subst hn0
     cases cap with
     |succ cap=>
      refine(string_room k w a cap hc1).mono ?_
      rintro e w' ⟨rfl,rfl⟩
      exact⟨g,_,rfl,hrs,zJH hs,hext _ (fun _ _ _=>rfl) (Nat.le_refl _) rfl rfl rfl,h0⟩
     |zero=>
      rcases h7 _ _ _ rfl with h8|⟨a',h8,h9,⟨ha1,ha2,m,h10,h11⟩,h12⟩
      ·cases h8
      ·cases h8
       refine(string_noroom k w a _ (zIt h10) hc1 hkl).mono ?_
       rintro e w' ⟨rfl,rfl⟩
       refine⟨g,_,rfl,hrs,zJH (Sto.move hs (fun x v hx=>?_) (fun k' hk'=>heap_alloc_old w _ (hs.σ_lt hk')) (by simp) fun i j k' c' ty' blk x e1 e2 e3 e4 e5=>?_),hext _ (fun k' hk' _=>heap_alloc_old w _ hk') (by simp) rfl rfl rfl,h0⟩
       ·rw[World.cell?_alloc_lt _ _ _ (World.block_lt_of_cell? _ _ hx)];exact hx
       ·exact e5.world (fun _ _ _ _ hs=>hs.alloc (fun _ _=>rfl)) zED (fun _ _ h=>h) zFJ
   |cons x0 b0=>
    have hne:b≠[]:=by rw[h6'];simp
    rw[<-h6']
    clear h6'
    generalize hl0:b.map cU=l0 at h6
    cases h6 with
    |osl0 _=>exact absurd (List.map_eq_nil_iff.1 hl0) hne
    |osl _ _ a n cap vs hn hcap hbd he hi hr=>
     subst hl0
     have hn':n=b.length:=by simpa using hn
     subst hn'
     rcases h7 _ _ _ rfl with h8|⟨a',h8,h9,⟨ha1,ha2,m,h10,h11⟩,h12⟩
     ·cases h8
     ·cases h8
      obtain⟨q,off,spot⟩:=a
      simp only at ha1 ha2 h9 h10
      subst ha1;subst ha2
      have hpos:b.length≠0:=by simpa using hne
      have hcell: ∀j x,b[j]? =some x->w.cell? ((⟨q,0,none⟩:Addr).add j)=some (.int .u8 x.toNat):=fun j x hx=>by
       have e1:(b.map cU)[j]? =some [.int .u8 x.toNat]:=by rw[List.getElem?_map,hx];rfl
       have e2:=hi j _ e1 0 _ rfl
       have e3:=hr j _ e1 0 _ rfl
       have e4:=hs.imm _ _ e2
       simp only[Nat.mul_one,Nat.add_zero] at e4
       rw[e4]
       generalize vs j 0=y at e3
       cases e3;rfl
      have hblk: ∃c' fr,w.heap[q]? =some (.cells c' 5 fr)∧(fr.1=fr.2∨fr.1=0)∧c'.size=m:=by
       unfold zGu at h10
       split at h10
       ·rename_i c' ty' fr e
        split at h10
        ·rename_i hfr;cases h10;exact⟨c',fr,e,hfr,rfl⟩
        ·cases h10
       ·cases h10
      obtain⟨c',fr,hq,hfr,hm⟩:=hblk
      have hcm:cap<=m:=by simpa using h11
      refine(string_some k w q m b cap hne hcap (by omega) (by omega) (zIt h10) hc1 hcell).mono ?_
      rintro e w' ⟨rfl,rfl⟩
      have hqσ:=(hs.ownσ _ q h9).1
      have hfz: ∀k',k'≠q->(w.freeze ⟨q,0,none⟩ b.length).heap[k']? =w.heap[k']? :=fun k' hk'=>heap_freeze w q _ k' hk'
      have hfq:=freeze_at (n:=b.length) hq hpos
      have hsize:(w.freeze ⟨q,0,none⟩ b.length).heap.size=w.heap.size:=by unfold World.freeze;split<;>simp
      have hcells: ∀x,(w.freeze ⟨q,0,none⟩ b.length).cell? x=w.cell? x:=fun x=>by
       unfold World.cell?
       by_cases hx:x.block=q
       ·rw[hx,hfq,hq]
       ·rw[hfz _ hx]
      have hdrw:w.drew.freeze ⟨q,0,none⟩ b.length=(w.freeze ⟨q,0,none⟩ b.length).drew:=by
       unfold World.freeze;split<;>rfl
      rw[hdrw]
      refine⟨g,_,rfl,hstr hbd,zJH (Sto.move hs (fun x v hx=>by rw[hcells];exact hx) (fun k' hk'=>hfz k' (fun e=>hqσ (by rw[<-e];exact hk'))) (by rw[hsize];exact Nat.le_refl _) fun i j k' c2 ty' blk x e1 e2 e3 e4 e5=>?_),
       hext _ (fun k' hk' hT=>hfz k' (fun e=>hT (.inr ⟨0,1,by rw[e];exact h9⟩))) (by show _<=(w.freeze ⟨q,0,none⟩ b.length).heap.size;rw[hsize];exact Nat.le_refl _) (by show(w.freeze ⟨q,0,none⟩ b.length).os=_;unfold World.freeze;split<;>rfl)
       (by show(w.freeze ⟨q,0,none⟩ b.length).tape=_;unfold World.freeze;split<;>rfl) (by show(w.freeze ⟨q,0,none⟩ b.length).output=_;unfold World.freeze;split<;>rfl),h0⟩
      cases i with
      |succ i=>simp at e1
      |zero=>
       simp only[List.getElem?_cons_zero,Option.some.injEq] at e1
       subst e1
       rw[hk] at e2;cases e2
       rw[h1] at e3;cases e3
       cases j with
       |zero=>simp only[List.getElem?_cons_zero,Option.some.injEq] at e4;subst e4;exact OwnsBy.of_not rfl
       |succ j=>
        cases j with
        |succ j=>simp at e4
        |zero=>
         simp only[List.getElem?_cons_succ,List.getElem?_cons_zero,Option.some.injEq] at e4
         subst e4
         rw[hcv]
         intro base n cap' hv'
         cases hv'
         refine .inr ⟨_,rfl,h9,⟨rfl,rfl,m,?_,h11⟩,fun j hj1 hj2=>?_⟩
         ·unfold zGu
          rw[hfq,<-hm]
          simp only
          split<;>simp
         ·obtain⟨p1,p2,p3⟩:=h12 j hj1 hj2
          refine⟨p1,by rw[hcells];exact p2,?_⟩
          have hb0:((⟨q,0,none⟩:Addr).add j).block=q:=zEa _ _
          have ho0:((⟨q,0,none⟩:Addr).add j).off=j:=by rw[add_off];exact Nat.zero_add j
          unfold World.frozen? at p3 ⊢
          rw[hb0,hq] at p3
          rw[hb0,hfq]
          rw[ho0] at p3 ⊢
          simp only[Nat.mul_one] at hj1
          obtain⟨lo,hi'⟩:=fr
          simp only[Bool.and_eq_false_iff,decide_eq_false_iff_not] at p3 hfr
          by_cases hlo:lo=hi'
          ·rw[if_pos (by simp[hlo])]
           simp;omega
          ·rw[if_neg (by simp[hlo])]
           simp;omega
 |_=>rw[hv0'] at hv0;cases hv0
end Go.Proofs.YtbnahfdbjaohkaaGreatDoor
