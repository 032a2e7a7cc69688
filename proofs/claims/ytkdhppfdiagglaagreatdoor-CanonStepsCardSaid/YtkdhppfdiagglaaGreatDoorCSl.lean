/- CanonSteps holds: for every input the law returns true. No condition. Part 12 of 19. No condition. -/
import Derived.Test.YtkdhppfdiagglaaGreatDoorCSk
import Derived.Lib.Builder
import Derived.Lib.UnsafeStr
import Derived.Laws.Externs
set_option linter.unusedVariables false
set_option linter.unnecessarySimpa false
set_option linter.unusedSimpArgs false
set_option maxRecDepth 100000
set_option maxHeartbeats 4000000
namespace Go.Proofs.YtkdhppfdiagglaaGreatDoor
open Go Go.Abs Go.Proofs
theorem zMJ(b:Nat)(w:World)(h0:w.cell? ⟨b,0,none⟩=some (.pointer (some ⟨b,0,none⟩))):
 Calls Tryz.prog 94 #[.pointer (some ⟨b,0,none⟩)] w fun e w'=>e=.returned (.tuple #[])∧w'=w:=by
 go_enter Tryz.func94,Tryz.ntmps94
 go_wp2
 rw[Lib.run_neq_ptr_same w _ Tryz.underlying95 (show Tryz.prog.info? 98=some Tryz.t98 from rfl)]
 go_wp2
 go_end0
 exact⟨rfl,rfl⟩
def bldAt(T:TypeId):Prop:=liesAt Tryz.prog Tryz.prog.depth T (2/Tryz.prog.cellsOf T) 0 98 1=true
theorem zK6(b:Nat)(w:World)(T:TypeId)(hT:bldAt T)(h0:w.cell? ⟨b,0,none⟩=some (.pointer none))(hsh:w.shape? b=some (T,2))(hfz:w.frozen? ⟨b,0,none⟩=false):
 Calls Tryz.prog 94 #[.pointer (some ⟨b,0,none⟩)] w fun e w'=>e=.returned (.tuple #[])∧w'=w.setCell ⟨b,0,none⟩ (.pointer (some ⟨b,0,none⟩)):=by
 have hj:Tryz.prog.info? 98=some Tryz.t98:=rfl
 go_enter Tryz.func94,Tryz.ntmps94
 go_wp2
 rw[Lib.run_to_unsafe w ⟨b,0,none⟩ Tryz.underlying95 Tryz.underlying147 hj (by decide) hsh (Nat.zero_lt_succ 1)]
 simp only[Result.andThen]
 rw[Oper.upon_value]
 go_wp2
 rw[run_callFunc_extern Tryz.func124 (by kernel_rfl) (by kernel_rfl) (by kernel_rfl) (e:=Extern.AbiNoEscape.same) (by kernel_rfl)]
 rw[Lib.run_noEscape]
 simp only[Result.andThen]
 rw[Oper.upon_value]
 go_wp2
 rw[Lib.run_from_unsafe w ⟨b,0,none⟩ Tryz.underlying147 Tryz.underlying95 hj hsh hT]
 simp only[Result.andThen]
 rw[Oper.upon_value]
 go_wp2
 go_end0
 exact⟨rfl,rfl⟩
theorem setSelf{g:Gh}{bs:List (List AV)}{w:World}(h:Sto g bs w){i k ty:Nat}{rest:List AV}(hb0:bs[i]? =some (.baddr ty i::rest))(hk0:g.σ[i]? =some k):
 Sto g bs (w.setCell ⟨k,0,none⟩ (.pointer (some ⟨k,0,none⟩))):=by
 have hkm:k∈g.σ:=zq3 hk0
 have hblock: ∀j,j≠k->(w.setCell ⟨k,0,none⟩ (.pointer (some ⟨k,0,none⟩))).heap[j]? =w.heap[j]? :=fun j hj=>RowKit.Below.heap_setCell _ _ _ _ hj
 refine {h with
  imm:=fun y u hy=>?_
  blk:=fun i' blk k' hb hk'=>?_
  ownσ:=fun p k' hk'=>by simpa using h.ownσ p k' hk'}
 ·rw[World.cell?_setCell_other _ _ _ _ (fun e=>h.immσ y u hy (by rw[<-e];exact hkm))];exact h.imm y u hy
 ·obtain⟨c,ty',h1,h2,h3⟩:=h.blk i' blk k' hb hk'
  by_cases hi:i'=i
  ·subst hi
   rw[hb0] at hb;cases hb
   rw[hk0] at hk';cases hk'
   refine⟨c.setIfInBounds 0 (.pointer (some ⟨k,0,none⟩)),ty',?_,by simpa using h2,fun j y hy=>?_⟩
   ·simp only[World.setCell,Array.getElem?_modify,if_true]
    rw[h1];rfl
   ·obtain⟨h5,h6,h7⟩:=h3 j y hy
    rw[zFI]
    cases j with
    |zero=>
     simp only[List.length_cons] at h2
     rw[if_pos ⟨rfl,by omega⟩]
     simp at hy;subst hy
     exact⟨h5.imp (fun e=>by simpa using e),.baddr _ _ _ hk0,OwnsBy.of_not rfl⟩
    |succ j=>
     rw[if_neg (fun e=>by have:=e.1;omega)]
     exact⟨h5.imp (fun e=>by simpa using e),h6,h7.world (fun _ _ _ _ hs=>hs.setCell) zDb (fun _ _ h=>h) zFE⟩
  ·refine⟨c,ty',?_,h2,fun j x hx=>?_⟩
   ·rw[hblock k' (fun e=>?_)]
    ·exact h1
    ·subst e
     obtain⟨l1,e1⟩:=zq1 hk';obtain⟨l2,e2⟩:=zq1 hk0
     exact hi (zH4 h.nodup l1 l2 (by rw[e1,e2]))
   ·obtain⟨h5,h6,h7⟩:=h3 j x hx
    exact⟨h5,h6,h7.world (fun _ _ _ _ hs=>hs.setCell) zDb (fun _ _ h=>h) zFE⟩
theorem zMK(T:TypeId)(hT:bldAt T)(x:AV):Raw Tryz.prog 94 [.mptr 0 0] [[.baddr T 0,x]] (.tup []) [[.baddr T 0,x]]:=by
 have hb:([[.baddr T 0,x]]:List (List AV))[0]? =some [.baddr T 0,x]:=rfl
 generalize ([[.baddr T 0,x]]:List (List AV))=bs at hb
 refine⟨⟨_,Tryz.func94,rfl,rfl⟩,fun g w vals hs h0 htg ha=>?_⟩
 obtain⟨hsz,hv⟩:=ha
 have hv0:=hv 0 _ rfl
 obtain⟨v0,rfl⟩:=Array.size_eq_one_iff.1 hsz
 cases hv0':(#[v0]:Array Value).getD 0 undef with
 |pointer p=>
  rw[hv0'] at hv0
  cases hv0 with
  |mptr _ _ k hk=>
   have:v0=.pointer (some ⟨k,0,none⟩):=hv0'
   subst this
   obtain⟨c,ty,h1,h2,h3⟩:=hs.blk 0 _ k hb hk
   obtain⟨h5,h6,h7⟩:=h3 0 _ rfl
   have hty:ty=T∧2=c.size:=by
    rcases h5 with h5|⟨he,b,h5⟩
    ·cases h5
    ·cases h5;exact⟨rfl,he⟩
   obtain⟨hty,hsz2⟩:=hty
   subst hty
   have hc0:=zDe h1 0 (Nat.lt_of_lt_of_le (Nat.zero_lt_succ _) h2)
   have hkm:k∈g.σ:=zq3 hk
   generalize c.getD 0 undef=u at h6 hc0
   cases h6 with
   |baddr0 _ _ _=>
    refine(zK6 k w _ hT hc0 (by unfold World.shape?;rw[h1];show some (ty,c.size)=_;rw[<-hsz2]) (zIM h1 0)).mono ?_
    rintro e w' ⟨rfl,rfl⟩
    refine⟨g,_,rfl,.tup [] #[] rfl (by simp),setSelf hs hb hk,?_,h0⟩
    have h8:=Ext.refl' w g (fun k hk=>hs.σ_lt hk) h0 htg
    exact {h8 with
     keep:=fun j hj hT=>by
      rw[RowKit.Below.heap_setCell _ _ _ _ (fun e=>?_)]
      subst e
      exact hT (.inl hkm)
     size:=by simp
     os:=h8.os
     tape:=h8.tape
     output:=h8.output}
   |baddr _ _ k' hk'=>
    rw[hk] at hk';cases hk'
    refine(zMJ k w hc0).mono ?_
    rintro e w' ⟨rfl,rfl⟩
    exact⟨g,_,rfl,.tup [] #[] rfl (by simp),hs,Ext.refl' w' g (fun k hk=>hs.σ_lt hk) h0 htg,h0⟩
 |_=>rw[hv0'] at hv0;cases hv0
section
variable (b:Nat) (w:World)
theorem us_none(p:Option Addr)(w:World):(Builtin.unsafeString_ #[131,3] 9 #[.pointer p,.int .i64 0]).run Tryz.prog w=.ok (.string ⟨#[]⟩) w:=Lib.run_unsafeString_none w _ _ _ p
theorem string_nil(h0:w.cell? ⟨b,1,none⟩=some (.slice none 0 0)):
 Calls Tryz.prog 67 #[.pointer (some ⟨b,0,none⟩)] w fun e w'=>e=.returned (.string ⟨#[]⟩)∧w'=w.drew:=by
 have c1:w.drew.cell? ⟨b,1,none⟩=some (.slice none 0 0):=h0
 have hUS:=us_none
 have hSD:(Builtin.unsafeSliceData_ #[96] 131 #[.slice none 0 0]).run Tryz.prog w.drew=.ok (.pointer none) w.drew:=rfl
 go_enter Tryz.func67,Tryz.ntmps67
 go_wp2
 go_region
 all_goals (go_wp2;go_ret;exact⟨rfl,rfl⟩)
theorem string_room(a:Addr)(k:Nat)(h0:w.cell? ⟨b,1,none⟩=some (.slice (some a) 0 (k+1))):
 Calls Tryz.prog 67 #[.pointer (some ⟨b,0,none⟩)] w fun e w'=>e=.returned (.string ⟨#[]⟩)∧w'=w.drew:=by
 have c1:w.drew.cell? ⟨b,1,none⟩=some (.slice (some a) 0 (k+1)):=h0
 have hUS:=us_none
 have hSD:(Builtin.unsafeSliceData_ #[96] 131 #[.slice (some a) 0 (k+1)]).run Tryz.prog w.drew=.ok (.pointer (some a)) w.drew:=rfl
 go_enter Tryz.func67,Tryz.ntmps67
 go_wp2
 go_region
 all_goals (go_wp2;go_ret;exact⟨rfl,rfl⟩)
theorem string_noroom(a:Addr)(sh:TypeId×Nat)(hsh:w.shape? a.block=some sh)(h0:w.cell? ⟨b,1,none⟩=some (.slice (some a) 0 0))(hlt:b<w.heap.size):
 Calls Tryz.prog 67 #[.pointer (some ⟨b,0,none⟩)] w fun e w'=>e=.returned (.string ⟨#[]⟩)∧w'=(w.alloc (.view a 5)).drew:=by
 have c1:w.drew.cell? ⟨b,1,none⟩=some (.slice (some a) 0 0):=h0
 have hUS:=us_none
 have hSD:(Builtin.unsafeSliceData_ #[96] 131 #[.slice (some a) 0 0]).run Tryz.prog w.drew=.ok (.pointer (some ⟨w.drew.heap.size,0,none⟩)) (w.drew.alloc (.view a 5)):=
  Lib.run_unsafeSliceData_zero w.drew _ _ 5 Tryz.underlying131 a 0 sh hsh
 have c3:(w.alloc (.view a 5)).drew.cell? ⟨b,1,none⟩=some (.slice (some a) 0 0):=by
  show(w.alloc (.view a 5)).cell? ⟨b,1,none⟩=_
  rw[World.cell?_alloc_lt _ _ _ hlt];exact h0
 have c2:(w.drew.alloc (.view a 5)).cell? ⟨b,1,none⟩=some (.slice (some a) 0 0):=c3
 go_enter Tryz.func67,Tryz.ntmps67
 go_wp2
 go_region
 all_goals (go_wp2;go_ret;exact⟨rfl,rfl⟩)
theorem string_some(q cells:Nat)(l:List UInt8)(cap:Nat)(h1:l≠[])(hlc:l.length<=cap)(hn:l.length<=cells)(h63:l.length<=9223372036854775807)(hsh:w.shape? q=some (5,cells))
 (h0:w.cell? ⟨b,1,none⟩=some (.slice (some ⟨q,0,none⟩) l.length cap)) (hcell: ∀j x,l[j]? =some x->w.cell? ((⟨q,0,none⟩:Addr).add j)=some (.int .u8 x.toNat)):
 Calls Tryz.prog 67 #[.pointer (some ⟨b,0,none⟩)] w fun e w'=>e=.returned (.string ⟨l.toArray⟩)∧w'=w.drew.freeze ⟨q,0,none⟩ l.length:=by
 have c1:w.drew.cell? ⟨b,1,none⟩=some (.slice (some ⟨q,0,none⟩) l.length cap):=h0
 have hpos:l.length≠0:=by simpa using h1
 have hSD:(Builtin.unsafeSliceData_ #[96] 131 #[.slice (some ⟨q,0,none⟩) l.length cap]).run Tryz.prog w.drew=.ok (.pointer (some ⟨q,0,none⟩)) w.drew:=
  Lib.run_unsafeSliceData_row w.drew _ _ _ _ _ (by omega)
 have hUS:(Builtin.unsafeString_ #[131,3] 9 #[.pointer (some ⟨q,0,none⟩),.int .i64 l.length]).run Tryz.prog w.drew=.ok (.string ⟨l.toArray⟩) (w.drew.freeze ⟨q,0,none⟩ l.length):=
  Lib.run_unsafeString_row w.drew 131 3 9 5 Tryz.underlying131 (by kernel_rfl) q cells hsh l h1 hn h63 hcell
 clear h1 hpos hlc hn h63 hcell
 generalize hw:w.drew.freeze ⟨q,0,none⟩ l.length=wf at hUS ⊢
 go_enter Tryz.func67,Tryz.ntmps67
 go_wp2
 go_region
 all_goals (go_wp2;go_ret;exact⟨rfl,rfl⟩)
end
theorem Sto.move{g:Gh}{bs:List (List AV)}{w w':World}(h:Sto g bs w)(hc: ∀a v,w.cell? a=some v->w'.cell? a=some v)(hb: ∀k,k∈g.σ->w'.heap[k]? =w.heap[k]?)(hsz:w.heap.size<=w'.heap.size)
 (hown: ∀(i j k:Nat) c ty blk x,bs[i]? =some blk->g.σ[i]? =some k->w.heap[k]? =some (.cells c ty (0,0))->blk[j]? =some x->OwnsBy g.imm w (g.own (.cell i j)) x (c.getD j undef)->OwnsBy g.imm w' (g.own (.cell i j)) x (c.getD j undef)):
 Sto g bs w':={h with
 imm:=fun x v hx=>hc _ _ (h.imm x v hx)
 blk:=fun i blk k h1 h2=>by
  obtain⟨c,ty,q1,q2,q3⟩:=h.blk i blk k h1 h2
  refine⟨c,ty,by rw[hb k (zq3 h2)];exact q1,q2,fun j x hx=>?_⟩
  obtain⟨r1,r2,r3⟩:=q3 j x hx
  exact⟨r1,r2,hown i j k c ty blk x h1 h2 q1 hx r3⟩
 ownσ:=fun p k hp=>⟨(h.ownσ p k hp).1,Nat.lt_of_lt_of_le (h.ownσ p k hp).2 hsz⟩}
theorem zLe{g:Gh}{bs:List (List AV)}{w:World}(h:Sto g bs w):Sto g bs w.drew:=
 Sto.move h (fun _ _ h=>h) (fun _ _=>rfl) (Nat.le_refl _) fun _ _ _ _ _ _ _ _ _ _ _ h=>h
theorem zLH{w:World}{k:Nat}{sh:TypeId×Nat}(h:zI0 w k=some sh):w.shape? k=some sh:=by
 unfold zI0 at h;unfold World.shape?
 split at h
 ·rename_i c ty fr e;rw[e]
  split at h
  ·exact h
  ·cases h
 ·cases h
theorem heap_freeze(w:World)(q n k:Nat)(h:k≠q):(w.freeze ⟨q,0,none⟩ n).heap[k]? =w.heap[k]? :=by
 unfold World.freeze
 split
 ·rfl
 ·simp only[Array.getElem?_modify];rw[if_neg (fun e=>h e.symm)]
theorem freeze_at{w:World}{q n:Nat}{c:Array Value}{ty:TypeId}{fr:Nat×Nat}(h:w.heap[q]? =some (.cells c ty fr))(hn:n≠0):
 (w.freeze ⟨q,0,none⟩ n).heap[q]? =some (.cells c ty (if fr.1==fr.2 then (0,n) else (0,max fr.2 n))):=by
 unfold World.freeze
 rw[if_neg hn]
 simp only[Array.getElem?_modify,if_true,h,Option.map_some]
 obtain⟨lo,hi⟩:=fr
 simp
theorem zGZ(T:TypeId)(b:List UInt8)(r:List UInt8)(h:zHG b=some r):
 Raw Tryz.prog 67 [.mptr 0 0] [[.baddr T 0,.osl ⟨1,5⟩ (b.map cU)]] (.str r) [[.baddr T 0,.osl ⟨1,5⟩ (b.map cU)]]:=by
 obtain rfl:=zqa h
 refine⟨⟨_,Tryz.func67,rfl,rfl⟩,fun g w vals hs h0 htg ha=>?_⟩
 obtain⟨hsz,hv⟩:=ha
 have hv0:=hv 0 _ rfl
 obtain⟨v0,rfl⟩:=Array.size_eq_one_iff.1 hsz
 cases hv0':(#[v0]:Array Value).getD 0 undef with
 |pointer p=>
  rw[hv0'] at hv0
  cases hv0 with
  |mptr _ _ k hk=>
   have:v0=.pointer (some ⟨k,0,none⟩):=hv0'
   subst this
   obtain⟨c,ty,h1,h2,h3⟩:=hs.blk 0 _ k rfl hk
   obtain⟨h5,h6,h7⟩:=h3 1 _ rfl
   have hc1:=zDe h1 1 (Nat.lt_of_lt_of_le (Nat.lt_succ_self _) h2)
   have hkl:=hs.σ_lt (zq3 hk)
   have hrefl:=Ext.refl' w g (fun k hk=>hs.σ_lt hk) h0 htg
   have hext: ∀w':World,(∀k,k<w.heap.size->¬Fx.T ⟨w,g⟩ k->w'.heap[k]? =w.heap[k]?)->w.heap.size<=w'.heap.size->w'.os=w.os->w'.tape=w.tape->w'.output=w.output->Ext ⟨w,g⟩ g w':=fun w' p1 p2 p3 p4 p5=>
    {hrefl with keep:=p1,size:=p2,os:=p3,tape:=p4,output:=p5}
   have hstr:b.length<=281474976710656->Rep g.imm g.σ (.str b) (.string ⟨b.toArray⟩):=fun hl=>.str _ _ (by simp) (by omega)
   generalize hcv:c.getD 1 undef=u at h6 h7 hc1
   cases h6':b with
   |nil=>
    subst h6'
    have hrs:Rep g.imm g.σ (.str []) (.string ⟨#[]⟩):=hstr (by simp)
    cases h6 with
    |osl0 _=>
     refine(string_nil k w hc1).mono ?_
     rintro e w' ⟨rfl,rfl⟩
     exact⟨g,_,rfl,hrs,zLe hs,hext _ (fun _ _ _=>rfl) (Nat.le_refl _) rfl rfl rfl,h0⟩
    |osl _ _ a n cap vs hn hcap hbd he hi hr=>
     have hn0:n=0:=by simpa using hn
     subst hn0
     cases cap with
     |succ cap=>
      refine(string_room k w a cap hc1).mono ?_
      rintro e w' ⟨rfl,rfl⟩
      exact⟨g,_,rfl,hrs,zLe hs,hext _ (fun _ _ _=>rfl) (Nat.le_refl _) rfl rfl rfl,h0⟩
     |zero=>
      rcases h7 _ _ _ rfl with h8|⟨a',h8,h9,⟨ha1,ha2,m,h10,h11⟩,h12⟩
      ·cases h8
      ·cases h8
       refine(string_noroom k w a _ (zLH h10) hc1 hkl).mono ?_
       rintro e w' ⟨rfl,rfl⟩
       refine⟨g,_,rfl,hrs,zLe (Sto.move hs (fun x v hx=>?_) (fun k' hk'=>heap_alloc_old w _ (hs.σ_lt hk')) (by simp) fun i j k' c' ty' blk x e1 e2 e3 e4 e5=>?_),hext _ (fun k' hk' _=>heap_alloc_old w _ hk') (by simp) rfl rfl rfl,h0⟩
       ·rw[World.cell?_alloc_lt _ _ _ (World.block_lt_of_cell? _ _ hx)];exact hx
       ·exact e5.world (fun _ _ _ _ hs=>hs.alloc (fun _ _=>rfl)) zFB (fun _ _ h=>h) zHB
   |cons x0 b0=>
    have hne:b≠[]:=by rw[h6'];simp
    rw[<-h6']
    clear h6'
    generalize hl0:b.map cU=l0 at h6
    cases h6 with
    |osl0 _=>exact absurd (List.map_eq_nil_iff.1 hl0) hne
    |osl _ _ a n cap vs hn hcap hbd he hi hr=>
     subst hl0
     have hn':n=b.length:=by simpa using hn
     subst hn'
     rcases h7 _ _ _ rfl with h8|⟨a',h8,h9,⟨ha1,ha2,m,h10,h11⟩,h12⟩
     ·cases h8
     ·cases h8
      obtain⟨q,off,spot⟩:=a
      simp only at ha1 ha2 h9 h10
      subst ha1;subst ha2
      have hpos:b.length≠0:=by simpa using hne
      have hcell: ∀j x,b[j]? =some x->w.cell? ((⟨q,0,none⟩:Addr).add j)=some (.int .u8 x.toNat):=fun j x hx=>by
       have e1:(b.map cU)[j]? =some [.int .u8 x.toNat]:=by rw[List.getElem?_map,hx];rfl
       have e2:=hi j _ e1 0 _ rfl
       have e3:=hr j _ e1 0 _ rfl
       have e4:=hs.imm _ _ e2
       simp only[Nat.mul_one,Nat.add_zero] at e4
       rw[e4]
       generalize vs j 0=y at e3
       cases e3;rfl
      have hblk: ∃c' fr,w.heap[q]? =some (.cells c' 5 fr)∧(fr.1=fr.2∨fr.1=0)∧c'.size=m:=by
       unfold zI0 at h10
       split at h10
       ·rename_i c' ty' fr e
        split at h10
        ·rename_i hfr;cases h10;exact⟨c',fr,e,hfr,rfl⟩
        ·cases h10
       ·cases h10
      obtain⟨c',fr,hq,hfr,hm⟩:=hblk
      have hcm:cap<=m:=by simpa using h11
      refine(string_some k w q m b cap hne hcap (by omega) (by omega) (zLH h10) hc1 hcell).mono ?_
      rintro e w' ⟨rfl,rfl⟩
      have hqσ:=(hs.ownσ _ q h9).1
      have hfz: ∀k',k'≠q->(w.freeze ⟨q,0,none⟩ b.length).heap[k']? =w.heap[k']? :=fun k' hk'=>heap_freeze w q _ k' hk'
      have hfq:=freeze_at (n:=b.length) hq hpos
      have hsize:(w.freeze ⟨q,0,none⟩ b.length).heap.size=w.heap.size:=by unfold World.freeze;split<;>simp
      have hcells: ∀x,(w.freeze ⟨q,0,none⟩ b.length).cell? x=w.cell? x:=fun x=>by
       unfold World.cell?
       by_cases hx:x.block=q
       ·rw[hx,hfq,hq]
       ·rw[hfz _ hx]
      have hdrw:w.drew.freeze ⟨q,0,none⟩ b.length=(w.freeze ⟨q,0,none⟩ b.length).drew:=by
       unfold World.freeze;split<;>rfl
      rw[hdrw]
      refine⟨g,_,rfl,hstr hbd,zLe (Sto.move hs (fun x v hx=>by rw[hcells];exact hx) (fun k' hk'=>hfz k' (fun e=>hqσ (by rw[<-e];exact hk'))) (by rw[hsize];exact Nat.le_refl _) fun i j k' c2 ty' blk x e1 e2 e3 e4 e5=>?_),
       hext _ (fun k' hk' hT=>hfz k' (fun e=>hT (.inr ⟨0,1,by rw[e];exact h9⟩))) (by show _<=(w.freeze ⟨q,0,none⟩ b.length).heap.size;rw[hsize];exact Nat.le_refl _) (by show(w.freeze ⟨q,0,none⟩ b.length).os=_;unfold World.freeze;split<;>rfl)
       (by show(w.freeze ⟨q,0,none⟩ b.length).tape=_;unfold World.freeze;split<;>rfl) (by show(w.freeze ⟨q,0,none⟩ b.length).output=_;unfold World.freeze;split<;>rfl),h0⟩
      cases i with
      |succ i=>simp at e1
      |zero=>
       simp only[List.getElem?_cons_zero,Option.some.injEq] at e1
       subst e1
       rw[hk] at e2;cases e2
       rw[h1] at e3;cases e3
       cases j with
       |zero=>simp only[List.getElem?_cons_zero,Option.some.injEq] at e4;subst e4;exact OwnsBy.of_not rfl
       |succ j=>
        cases j with
        |succ j=>simp at e4
        |zero=>
         simp only[List.getElem?_cons_succ,List.getElem?_cons_zero,Option.some.injEq] at e4
         subst e4
         rw[hcv]
         intro base n cap' hv'
         cases hv'
         refine .inr ⟨_,rfl,h9,⟨rfl,rfl,m,?_,h11⟩,fun j hj1 hj2=>?_⟩
         ·unfold zI0
          rw[hfq,<-hm]
          simp only
          split<;>simp
         ·obtain⟨p1,p2,p3⟩:=h12 j hj1 hj2
          refine⟨p1,by rw[hcells];exact p2,?_⟩
          have hb0:((⟨q,0,none⟩:Addr).add j).block=q:=zFV _ _
          have ho0:((⟨q,0,none⟩:Addr).add j).off=j:=by rw[add_off];exact Nat.zero_add j
          unfold World.frozen? at p3 ⊢
          rw[hb0,hq] at p3
          rw[hb0,hfq]
          rw[ho0] at p3 ⊢
          simp only[Nat.mul_one] at hj1
          obtain⟨lo,hi'⟩:=fr
          simp only[Bool.and_eq_false_iff,decide_eq_false_iff_not] at p3 hfr
          by_cases hlo:lo=hi'
          ·rw[if_pos (by simp[hlo])]
           simp;omega
          ·rw[if_neg (by simp[hlo])]
           simp;omega
 |_=>rw[hv0'] at hv0;cases hv0
end Go.Proofs.YtkdhppfdiagglaaGreatDoor
namespace Go.Proofs.YtkdhppfdiagglaaGreatDoor
open Go Go.Abs Go.RowKit
theorem ixb_any(s:ByteArray)(c:Int)(w:World):Calls Tryz.prog 226 #[.string s,.int .u8 c] w fun e w'=>e=.returned (.int .i64 (Lib.indexByte s.data.toList c.toNat.toUInt8))∧w'=w:=by
 go_enter Tryz.func226,Tryz.ntmps226
 go_wp2
 rw[run_callFunc_extern Tryz.func241 (by kernel_rfl) (by kernel_rfl) (by kernel_rfl) (e:=Extern.BytealgIndexByte.indexByte) (by kernel_rfl)]
 rw[Lib.run_indexByteString]
 simp only[Result.andThen]
 rw[Oper.upon_value]
 go_wp2
 go_ret
 exact⟨rfl,rfl⟩
theorem zKb(c:UInt8): ∀l:List UInt8,Lib.indexByte l c<=l.length
 |[]=>by simp[Lib.indexByte]
 |b::l=>by
  have:=zKb c l
  have e:((b::l).length:Int)=l.length+1:=by simp
  rw[e]
  unfold Lib.indexByte
  split
  ·omega
  ·split
   ·omega
   ·omega
theorem zGw(s0:List UInt8)(c:UInt8)(r:Int)(h:zE9 s0 c=some r):Pure Tryz.prog 226 [.str s0,.int .u8 c.toNat] (.int .i64 r):=by
 refine zJc ⟨Tryz.f226,Tryz.func226,by rfl,by rfl⟩ fun imm w vals ha=>?_
 obtain⟨a,b,rfl,h1,h2⟩:=vals2 ha
 cases h1 with
 |str s l hs hb=>
  cases h2 with
  |int k n hn=>
   refine(ixb_any s _ w).mono fun e w' he=>?_
   obtain⟨rfl,rfl⟩:=he
   refine⟨_,rfl,?_,rfl⟩
   rw[hs]
   have e2:((c.toNat:Int).toNat).toUInt8=c:=by simp
   rw[e2]
   cases h
   refine .int .i64 _ ?_
   have:=Lib.indexByte_ge s0 c
   have:=zKb c s0
   simp only[inR]
   omega
theorem zKs(l:List (List UInt8))(s:List UInt8)(r:List UInt8)(h:zHF l s=some r):Pure Tryz.prog 96 [.sl (l.map cS),.str s] (.str r):=by
 refine zJe ⟨Tryz.f96,Tryz.func96,by rfl,by rfl⟩ fun imm w vals him hgl htb ha=>?_
 obtain⟨a,b,rfl,h1,h2⟩:=vals2 ha
 unfold zHF at h
 split at h
 case isFalse=>cases h
 rename_i hlen
 cases h
 cases h2 with
 |str sb _ hs hb=>
  have:=bytes_of hs;subst this
  cases l with
  |nil=>
   have hv: ∃ad c,a=.slice ad 0 c:=by
    cases h1 with
    |sl0=>exact⟨none,0,rfl⟩
    |sl ec L ad n cap vs hn hc hbd he h r=>exact⟨some ad,cap,by rw[hn];rfl⟩
   obtain⟨ad,c,rfl⟩:=hv
   refine(Tryz.strings_Join_none ad c _ w).mono fun e w' he=>?_
   obtain⟨rfl,rfl⟩:=he
   refine⟨_,rfl,.str _ _ ?_ (by simp[Lib.join_nil]),Below.refl _ _⟩
   rw[Lib.join_nil]
  |cons x l=>
   cases h1 with
   |sl ec L ad n cap vs hn hc hbd he hh rr=>
    have hec:ec=1:=(he 0 _ rfl).symm
    subst hec
    have h0:=him _ _ (hh 0 _ rfl 0 _ rfl)
    obtain⟨bk,o,sp⟩:=ad
    have hlt:=World.block_lt_of_cell? _ _ h0
    rw[zFV] at hlt
    have hsp:sp=none:=by
     cases sp with
     |none=>rfl
     |some q=>
      have:((⟨bk,o,some q⟩:Addr).add (0*1+0))=⟨bk,o,some q⟩:=by simp[Addr.add]
      rw[this] at h0
      simp only[World.cell?,Option.isSome_some,if_true] at h0
      split at h0<;>cases h0
    subst hsp
    obtain⟨xs,h1,h2,h3⟩: ∃xs:List ByteArray,xs.map (·.data.toList)=x::l∧xs.length=n∧∀(j:Nat) y,xs[j]? =some y->∃z,(x::l)[j]? =some z∧(⟨z.toArray⟩:ByteArray)=y:=
     ⟨(x::l).map fun b=>(⟨b.toArray⟩:ByteArray),map_bytes _,by rw[hn];simp,fun j y hy=>(by obtain⟨z,hz,e⟩:=getElem?_map_some hy;exact⟨z,hz,e.symm⟩)⟩
    rw[<-h1] at hlen
    have hcap:xs.length<=cap:=by rw[h2];exact hc
    have hN:xs.length<=140737488355328:=by have:=hlen.1;rw[zq4] at this;exact this
    have hcells: ∀(j:Nat) y,xs[j]? =some y->w.cell? ⟨bk,o+j,none⟩=some (.string y):=by
     intro j y hy
     obtain⟨z,hz,rfl⟩:=h3 j y hy
     have hm:((x::l).map cS)[j]? =some (cS z):=by rw[List.getElem?_map,hz];rfl
     have e1:=him _ _ (hh j _ hm 0 _ rfl)
     have e2:=rr j _ hm 0 (.str z) rfl
     generalize vs j 0=u at e1 e2
     cases e2 with
     |str sz _ hsz _=>
      have:=bytes_of hsz;subst this
      have:((⟨bk,o,none⟩:Addr).add (j*1+0))=⟨bk,o+j,none⟩:=by
       unfold Addr.add
       split
       ·rename_i h0;have:j=0:=by omega
        subst this;rfl
       ·simp
      rw[this] at e1
      exact e1
    have hjl:(Lib.join (xs.map (·.data.toList)) (⟨s.toArray⟩:ByteArray).data.toList).length<=140737488355328:=hlen.2
    have key:=Tryz.strings_Join bk o cap xs ⟨s.toArray⟩ w hcells hlt hN hcap hjl
    rw[h2] at key
    refine key.mono fun e w' he=>?_
    obtain⟨rfl,hbel⟩:=he
    rw[h1] at hlen
    refine⟨_,rfl,.str _ _ (by rw[h1]) (Nat.le_trans hlen.2 (by decide)),hbel⟩
end Go.Proofs.YtkdhppfdiagglaaGreatDoor
namespace Go.Proofs.YtkdhppfdiagglaaGreatDoor
open Go Go.Abs
def libHas(f:FuncId):Bool:=
 f==94
 ||f==67
 ||f==193
 ||f==240
 ||f==226
 ||f==96
def libTab:Calling:=fun f args bs=>
 if f=94 then match args,bs with
  |[.mptr 0 0],[[.baddr t 0,x]]=>if t=98∨t=177 then some (.raw (.tup []) [[.baddr t 0,x]] []) else none
  |_,_=>none
 else if f=67 then match args,bs with
  |[.mptr 0 0],[[.baddr t 0,.osl ⟨1,u⟩ l]]=>if u=5 then (match ubytes l with
   |some b=>some (.raw (.str b) [[.baddr t 0,.osl ⟨1,u⟩ l]] [])
   |none=>none) else none
  |_,_=>none
 else if f=193 then match args with
  |[.int .i64 n]=>(zHH n).map fun r=>.pure (.str r)
  |_=>none
 else if f=240 then match args with
  |[.str s]=>(zDY s).map fun r=>.pure (.sl (r.map cS))
  |_=>none
 else if f=226 then match args with
  |[.str s,.int .u8 n]=>if 0<=n∧n<=255 then (zE9 s (UInt8.ofNat n.toNat)).map fun r=>.pure (.int .i64 r) else none
  |_=>none
 else if f=96 then match args with
  |[.sl l,.str s]=>(match strsOf l with
   |some l'=>(zHF l' s).map fun r=>.pure (.str r)
   |none=>none)
  |_=>none
 else none
theorem mapR{α:Type}{o:Option α}{g:α->AV}{x:CR}(h:(o.map fun r=>CR.pure (g r))=some x): ∃r,o=some r∧x=.pure (g r):=by
 cases o with
 |none=>cases h
 |some r=>exact⟨r,rfl,(zqa h).symm⟩
theorem bldAt_of{t:TypeId}(h:t=98∨t=177):bldAt t:=by
 rcases h with rfl|rfl<;>(unfold bldAt;kernel_rfl)
theorem libTab_ok:TabOk Tryz.prog libTab:=by
 have key: ∀f args bs x,libTab f args bs=some x->(∃r,x=.pure r∧Pure Tryz.prog f args r∧r.owns=false)∨∃r bs' ρ,x=.raw r bs' ρ∧Raw Tryz.prog f args bs r bs'∧r.owns=false:=by
  intro f args bs x h
  unfold libTab at h
  split at h
  ·rename_i hf;subst hf
   split at h
   ·split at h
    ·rename_i ht
     replace ht:=bldAt_of ht
     cases h
     exact .inr ⟨_,_,_,rfl,zMK _ ht _,rfl⟩
    ·cases h
   ·cases h
  split at h
  ·rename_i hf;subst hf
   split at h
   ·split at h
    ·rename_i ht;subst ht
     split at h
     ·rename_i b hb
      cases h
      obtain rfl:=ubytes_ok hb
      exact .inr ⟨_,_,_,rfl,zGZ _ b b rfl,rfl⟩
     ·cases h
    ·cases h
   ·cases h
  split at h
  ·rename_i hf;subst hf
   split at h
   ·obtain⟨r,h1,rfl⟩:=mapR h
    exact .inl ⟨_,rfl,zKt _ _ h1,rfl⟩
   ·cases h
  split at h
  ·rename_i hf;subst hf
   split at h
   ·obtain⟨r,h1,rfl⟩:=mapR h
    exact .inl ⟨_,rfl,zHN _ _ h1,rfl⟩
   ·cases h
  split at h
  ·rename_i hf;subst hf
   split at h
   ·split at h
    ·rename_i hn
     obtain⟨r,h1,rfl⟩:=mapR h
     have:=zGw _ _ _ h1
     rw[u8_back hn] at this
     exact .inl ⟨_,rfl,this,rfl⟩
    ·cases h
   ·cases h
  split at h
  ·rename_i hf;subst hf
   split at h
   ·split at h
    ·rename_i l' hl
     obtain⟨r,h1,rfl⟩:=mapR h
     obtain rfl:=strsOf_ok hl
     exact .inl ⟨_,rfl,zKs _ _ _ h1,rfl⟩
    ·cases h
   ·cases h
  cases h
 constructor
 ·intro f args bs res h
  rcases key f args bs _ h with ⟨r,e,h1⟩|⟨r,bs',ρ,e,h1⟩
  ·cases e;exact h1
  ·cases e
 ·intro f args bs res bs' ρ h
  rcases key f args bs _ h with ⟨r,e,h1⟩|⟨r,bs1,ρ1,e,h1⟩
  ·cases e
  ·cases e;exact h1
theorem lib_ok:zDU Tryz.prog (libC libHas libTab):=libC_ok libTab_ok
def isNo:Option CR->Bool
 |some (.pure (.sl []))=>true
 |_=>false
theorem isNo_ok{P:Program}{ce:Calling}(h:zDU P ce){f:FuncId}{args:List AV}(hy:isNo (ce f args [])=true):Pure P f args (.sl []):=by
 unfold isNo at hy
 split at hy
 ·rename_i hb
  exact(h.1 _ _ _ _ hb).1
 ·cases hy
theorem zGz:isNo (callN Tryz.prog (libC libHas libTab) 1000 10 72 [.sl []] [])=true:=by decide +kernel
theorem zCJ(s1:(List (List UInt8)))(r:(List (List UInt8)))(h:zA7 s1=some r):Pure Tryz.prog 72 [.sl (s1.map cS)] (.sl (r.map cS)):=by
 cases s1 with
 |nil=>
  cases h
  exact isNo_ok (callN_ok lib_ok mixed 1000 10) zGz
 |cons x s=>
  have q4:x::s≠[]:=by simp
  rw[zA7] at h
  generalize x::s=s1 at h q4
  refine zGT [true] Tryz.func72 (by rfl) (by rfl) (by simp) (by simp) (by simp) ?_
  refine cut 8 0 [(0,.sl (s1.map cS))] [] ?_ ?_
  ·refine st ?_
   simp
  refine zAD ?_
  refine cut 8 0 [(0,.sl (s1.map cS)),(4,.bool false)] [] ?_ ?_
  ·refine st ?_
   simp[q4]
  refine zEc rfl rfl ?_
  refine zAC ?_
  refine zAH ?_
  obtain⟨q7,q8⟩:=clC_ok h
  subst q8
  have q9:=clC_row (cS) s1
  try simp at q9
  refine cut 8 0 [(2,.msl 0 1 s1.length)] [row cS s1] ?_ ?_
  ·refine st ?_
   simp[q7,q9]
   refine empR ?_
   simp[q7,q9]
  refine zAB ?_
  simp
theorem zGa:isNo (callN Tryz.prog (libC libHas libTab) 1000 10 71 [.sl []] [])=true:=by decide +kernel
theorem zCY(s1:(List zMY))(r:(List zMY))(h:zA5 s1=some r):Pure Tryz.prog 71 [.sl (s1.map zMY.c)] (.sl (r.map zMY.c)):=by
 cases s1 with
 |nil=>
  cases h
  exact isNo_ok (callN_ok lib_ok mixed 1000 10) zGa
 |cons x s=>
  have q4:x::s≠[]:=by simp
  rw[zA5] at h
  generalize x::s=s1 at h q4
  refine zGT [true] Tryz.func71 (by rfl) (by rfl) (by simp) (by simp) (by simp) ?_
  refine cut 8 0 [(0,.sl (s1.map zMY.c))] [] ?_ ?_
  ·refine st ?_
   simp
  refine zAD ?_
  refine cut 8 0 [(0,.sl (s1.map zMY.c)),(4,.bool false)] [] ?_ ?_
  ·refine st ?_
   simp[q4]
  refine zEc rfl rfl ?_
  refine zAC ?_
  refine zAH ?_
  obtain⟨q7,q8⟩:=clC_ok h
  subst q8
  have q9:=clC_row (zMY.c) s1
  try simp at q9
  refine cut 8 0 [(2,.msl 0 1 s1.length)] [row zMY.c s1] ?_ ?_
  ·refine st ?_
   simp[q7,q9]
   refine empR ?_
   simp[q7,q9]
  refine zAB ?_
  simp
end Go.Proofs.YtkdhppfdiagglaaGreatDoor
namespace Go.Proofs.YtkdhppfdiagglaaGreatDoor
open Go Go.Abs Go.RowKit
theorem growPost{imm:Addr->Option Value}{w:World}{ec:EC}{cells:Array Value}{cap:Nat}(hc:cells.size=cap*ec.size)(him: ∀x v,imm x=some v->w.cell? x=some v):
 ∃imm' v bo,Ending.returned (.slice (some ⟨w.heap.size,0,none⟩) 0 cap)=.returned v∧Rep imm' [] (.osl ec []) v∧OwnsBy imm' (w.alloc (.cells cells ec.ty)).drew bo (.osl ec []) v∧
  (∀k,bo=some k->w.heap.size<=k∧k<(w.alloc (.cells cells ec.ty)).drew.heap.size)∧
  (∀x v,imm x=some v->imm' x=some v)∧(∀x v,imm' x=some v->(w.alloc (.cells cells ec.ty)).drew.cell? x=some v)∧Below w.heap.size w (w.alloc (.cells cells ec.ty)).drew∧
  (∀x v,imm' x=some v->imm x=some v∨w.heap.size<=x.block):=by
 have hnew:=zEF w (.cells cells ec.ty (0,0))
 have hlt: ∀x v,imm x=some v->x.block<w.heap.size:=fun x v h=>World.block_lt_of_cell? _ _ (him x v h)
 refine⟨imm,_,some w.heap.size,rfl,.osl ec [] _ 0 cap (fun _ _=>undef) rfl (Nat.zero_le _) (Nat.zero_le _) (fun i e h=>by simp at h) (fun i e h=>by simp at h) (fun i e h=>by simp at h),?_,?_,fun _ _ h=>h,?_,?_,fun x v h=>.inl h⟩
 ·intro base n cap' hv
  simp only[Value.slice.injEq] at hv
  obtain⟨rfl,rfl,rfl⟩:=hv
  refine .inr ⟨_,rfl,rfl,⟨rfl,rfl,cells.size,?_,by rw[hc];exact Nat.le_refl _⟩,?_⟩
  ·show zI0 (w.alloc (.cells cells ec.ty (0,0))) w.heap.size=_
   unfold zI0
   rw[hnew]
   exact if_pos (.inl rfl)
  ·intro j hj1 hj2
   have hb:((⟨w.heap.size,0,none⟩:Addr).add j).block=w.heap.size:=zFV _ _
   refine⟨?_,?_,?_⟩
   ·cases h:imm ((⟨w.heap.size,0,none⟩:Addr).add j) with
    |none=>rfl
    |some v=>have:=hlt _ v h;omega
   ·have hj:j<cells.size:=by rw[hc];exact hj2
    refine⟨cells[j],?_⟩
    show(w.alloc (.cells cells ec.ty (0,0))).cell? _=_
    rw[zI8]
    simp only[World.cell?,hnew]
    simp[hj]
   ·show(w.alloc (.cells cells ec.ty (0,0))).frozen? _=_
    rw[zI8]
    simp only[World.frozen?,hnew]
    simp
 ·intro k hk
  cases hk
  simp
 ·intro x v h
  show(w.alloc (.cells cells ec.ty (0,0))).cell? x=some v
  rw[World.cell?_alloc_lt _ _ _ (hlt x v h)]
  exact him x v h
 ·exact((Below.refl w.heap.size w).alloc (Nat.le_refl _) _).drew
theorem grow_zero(w:World):Calls Tryz.prog 135 #[.slice none 0 0,.int .i64 0] w fun e w'=>e=.returned (.slice none 0 0)∧w'=w:=by
 go_enter Tryz.func135,Tryz.ntmps135
 go_wp2
 go_ret
 exact⟨rfl,rfl⟩
def Sz(a:Array Value)(n:Nat):Prop:=a.size=n*1
theorem grow_some(n:Nat)(hn:0<n)(hfit:n*24<=140737488355328)(w:World):
 Calls Tryz.prog 135 #[.slice none 0 0,.int .i64 n] w fun e w'=> ∃(cells:Array Value) (cap:Nat),Sz cells cap∧e=.returned (.slice (some ⟨w.heap.size,0,none⟩) 0 cap)∧w'=(w.alloc (.cells cells 24)).drew:=by
 have h1: ¬((n:Int)<0):=by omega
 have h2:(0:Int)<n:=by omega
 have hnn: ¬n=0:=by omega
 have h48:=growslice_fits (old:=0) hn hfit
 have h48': ¬(281474976710656<Builtin.nextslicecap n 0*24):=by omega
 have h49: ¬(281474976710656<(n:Int)*24):=by omega
 have h63: ¬(9223372036854775807<(n:Int)):=by omega
 have hge:=grownCap_ge w n 0 24
 unfold grownCap at hge
 go_enter Tryz.func135,Tryz.ntmps135
 go_wp2
 go_ret
 refine⟨_,(Question.appendCap n 0 24).cut (w.tape w.drawn (Question.appendCap n 0 24)),?_,rfl,rfl⟩
 unfold Sz
 simp only[Array.size_append,size_zeroCells,List.size_toArray,List.length_cons,List.length_nil]
 omega
theorem grow_O(n:Int)(h0:0<=n)(hfit:n*24<=140737488355328):PureO Tryz.prog 135 [.nsl,.int .i64 n] ⟨1,24⟩ []:=by
 refine⟨⟨Tryz.f135,Tryz.func135,by rfl,by rfl⟩,fun imm w vals him _ _ ha=>?_⟩
 obtain⟨a1,a2⟩:=ha
 have e0:=a2 0 _ rfl
 have e1:=a2 1 _ rfl
 have hv:vals=#[.slice none 0 0,.int .i64 n]:=by
  have s2:vals.size=2:=a1
  have c0:vals.getD 0 undef=.slice none 0 0:=by cases h:vals.getD 0 undef<;>rw[h] at e0<;>cases e0;rfl
  have c1:vals.getD 1 undef=.int .i64 n:=by cases h:vals.getD 1 undef<;>rw[h] at e1<;>cases e1;rfl
  apply Array.ext
  ·simpa using s2
  ·intro i h1 h2
   have:i=0∨i=1:=by omega
   rcases this with rfl|rfl
   ·simpa[zq6,h1] using c0
   ·simpa[zq6,h1] using c1
 subst hv
 obtain⟨m,rfl⟩: ∃m:Nat,n=m:=⟨n.toNat,by omega⟩
 by_cases hm:m=0
 ·subst hm
  refine(grow_zero w).mono fun e w' h=>?_
  obtain⟨rfl,rfl⟩:=h
  exact⟨imm,_,none,rfl,.osl0 _,fun base n cap hv=>by cases hv;exact .inl rfl,fun k hk=>(by cases hk),fun _ _ h=>h,him,Below.refl _ _,fun x v h=>.inl h⟩
 ·refine(grow_some m (by omega) (by omega) w).mono fun e w' h=>?_
  obtain⟨cells,cap,hc,rfl,rfl⟩:=h
  exact growPost (ec:=⟨1,24⟩) hc him
end Go.Proofs.YtkdhppfdiagglaaGreatDoor
namespace Go.Proofs.YtkdhppfdiagglaaGreatDoor
open Go Go.Abs
theorem zKz:yes (callN Tryz.prog (libC libHas libTab) 100000 100 4 [] [])=true:=by decide +kernel
theorem zL8(r:Bool)(h:zJk=some r):Pure Tryz.prog 4 [] (.bool r):=by
 cases h
 exact yes_ok (callN_ok lib_ok mixed 100000 100) zKz
theorem zJJ(fuel:Nat):(∀(k1:zMY)(depth2:Int)(r:Int)(_:zBQ fuel k1 depth2=some r),Pure Tryz.prog 37 [.agg [.sl (k1.L.map zMY.c)],iI depth2] (iI r)):=by
 induction fuel with
 |zero=>intro k1 depth2 r h;rw[zBQ] at h;cases h
 |succ fuel zJM=>
  intro k1 depth2 r h
  rw[zBQ] at h
  refine zAA Tryz.func37 (by rfl) (by rfl) (by simp) (by simp) (by simp)<|cutA 29 0 [(1,iI depth2),(2,pT 0)] [[.sl (k1.L.map zMY.c)]]<|cutA 29 0 [(1,iI depth2),(2,pT 0),(5,iI 1)] [[.sl (k1.L.map zMY.c)]]<|zAD<|cutA 29 0 [(1,iI depth2),(5,iI 1),(9,.sl (k1.L.map zMY.c)),(10,iI k1.L.length),(11,iI 0)] [[.sl (k1.L.map zMY.c)]]<|zAF ?_
  obtain⟨o6,l7,h⟩:=bs h
  refine zAm (fun p:Nat×Int×Nat=>mkS 29 0 [(1,iI depth2),(5,iI p.2.1),(9,.sl (k1.L.map zMY.c)),(10,iI k1.L.length),(11,iI p.2.2)] [[.sl (k1.L.map zMY.c)]]) (fun p=>zBp (zBQ fuel) k1 depth2 p.1 p.2.1 p.2.2=some o6) (fun p=>p.1) (fuel,1,0) l7 (zAL (by simp)) ?_
  rintro⟨k8,n3,i4⟩ l7
  try dsimp only at l7 ⊢
  cases k8 with
  |zero=>
   rw[zBp] at l7;cases l7
  |succ k9=>
   rw[zBp] at l7
   refine cutA 29 0 [(1,iI depth2),(5,iI n3),(9,.sl (k1.L.map zMY.c)),(10,iI k1.L.length),(11,iI i4),(12,.bool (ltI i4 k1.L.length))] [[.sl (k1.L.map zMY.c)]]<|zAD<|spc l7 rfl (fun g10 l7=>?_) fun g10 l7=>?_
   ·have c11:=ltT g10
    refine zCA 9 rfl fun f12=>?_
    rw[zq4] at f12
    refine zAC<|zAH<|zAD<|zAF ?_
    obtain⟨x13,q14,l7⟩:=bs l7
    refine cut 29 0 [(1,iI depth2),(5,iI n3),(7,pT 1),(9,.sl (k1.L.map zMY.c)),(10,iI k1.L.length),(11,iI i4)] [[.sl (k1.L.map zMY.c)],[.sl (x13.L.map zMY.c)]] (st (by simp[q14]))<|zAD<|cut 29 0 [(1,iI depth2),(5,iI n3),(7,pT 1),(9,.sl (k1.L.map zMY.c)),(10,iI k1.L.length),(11,iI i4),(20,.bool ((ltI 12 n3)||(eqI depth2 0)))] [[.sl (k1.L.map zMY.c)],[.sl (x13.L.map zMY.c)]] ?_ ?_
    ·rcases tf (ltI 12 n3) with g15|g15
     ·have c16:=ltT g15
      refine st ?_
      simp[g15]
     have c17:=ltF g15
     refine st ?_
     simp[g15]
    rcases sp l7 with ⟨g18,l7⟩|⟨g18,l7⟩
    ·refine zEk rfl g18<|cutA 29 0 [(4,iI 13)] [[.sl (k1.L.map zMY.c)],[.sl (x13.L.map zMY.c)]]<|zAB<|zAE<|zAK<|zAE ?_
     replace h:=retL l7 h
     refine zAE<|zAK<|zAE ?_
     obtain rfl:=oi h
     simp
    obtain⟨g19,g20⟩:=orF g18
    have c21:=ltF g19
    have c22:=eqF g20
    refine zEc rfl g18<|zAC<|zAH ?_
    obtain⟨n23,q24,l7⟩:=bs l7
    obtain⟨q25,q26⟩:=zBj q24
    try simp at q25
    try simp at q26
    have c27:=q25;simp only[Rng,inR] at c27
    obtain⟨v28,q29,l7⟩:=bs l7
    obtain⟨n30,q31,l7⟩:=bs l7
    obtain⟨q32,q33⟩:=zBj q31
    try simp at q32
    try simp at q33
    have c34:=q32;simp only[Rng,inR] at c34
    refine last 29 0 [(1,iI depth2),(5,iI n30),(9,.sl (k1.L.map zMY.c)),(10,iI k1.L.length),(11,iI i4)] [[.sl (k1.L.map zMY.c)],[.sl (x13.L.map zMY.c)]] ?_ fun zz hs=>?_
    ·refine st ?_
     simp[q25,q26,q32,q33]
     have r36:=zJM x13 n23 v28 q29
     try simp[q25,q26,q32,q33] at r36
     refine cP r36 ?_
     simp[q25,q26,q32,q33]
    refine zC1<|zAM ?_ hs
    have q35:Rng .i64 (((i4:Nat):Int)+1):=by simp only[Rng,inR];omega
    try simp at q35
    refine last 29 0 [(1,iI depth2),(5,iI n30),(9,.sl (k1.L.map zMY.c)),(10,iI k1.L.length),(11,iI ((i4+1:Nat):Int))] [[.sl (k1.L.map zMY.c)]] (st (by simp[q35])) fun zz hs=>?_
    exact⟨(k9,n30,i4+1),hs,l7,by simp⟩
   have c37:=ltF g10
   refine zCA 9 rfl fun f38=>?_
   rw[zq4] at f38
   refine zAQ<|zAG ?_
   rcases o6 with o6|o5
   ·cases l7
   have q39:=Sum.inr.inj (zqa l7)
   replace h:=zF0 h
   have q39:=q39.symm
   refine zAG<|zAS<|zAM (t:=mkS 29 0 [(5,iI o5)] [[.sl (k1.L.map zMY.c)]]) ?_ (zAL (by simp[q39]))
   refine cutA 29 0 [(4,iI o5)] [[.sl (k1.L.map zMY.c)]]<|zAB ?_
   obtain rfl:=oi h
   simp
theorem zCL(fuel:Nat)(l1:(List zMY))(w2:zMX)(r:zMX)(h:zA8 fuel l1 w2=some r):Raw Tryz.prog 16 [pT 0,.sl (l1.map zMY.c)] [[iI w2.left]] (.tup []) [[iI r.left]]:=by
 rw[zA8] at h
 refine zAq Tryz.func16 (by rfl) (by rfl) (by simp) (by simp) ?_
 obtain⟨j3,l4,h⟩:=bs h
 refine zLO 35 1 [(0,pT 0),(1,.sl (l1.map zMY.c))] [[iI j3]] (fun jj=>?_) ?_
 ·refine cutA 35 1 [(0,pT 0),(1,.sl (l1.map zMY.c)),(8,.bool (ltI 40 l1.length))] [[iI w2.left]]<|spc l4 rfl (fun g5 l4=>?_) fun g5 l4=>?_
  ·have c6:=ltT g5
   refine zCA 1 rfl fun f7=>?_
   rw[zq4] at f7
   refine last 35 1 [(0,pT 0),(1,.sl (l1.map zMY.c))] [[iI (-1)]] (st (by simp)) fun zz hs=>?_
   obtain rfl:=oi l4
   exact zAM jj hs
  have c8:=ltF g5
  refine zCA 1 rfl fun f9=>?_
  rw[zq4] at f9
  refine zAC ?_
  obtain rfl:=oi l4
  exact zAM jj (zAL (by simp))
 refine cutA 35 1 [(0,pT 0),(1,.sl (l1.map zMY.c)),(4,iI 0)] [[iI j3]]<|zAF ?_
 obtain⟨o12,l13,h⟩:=bs h
 refine zAm (fun p:Nat×Int×Nat=>mkS 35 1 [(0,pT 0),(1,.sl (l1.map zMY.c)),(4,iI p.2.2)] [[iI p.2.1]]) (fun p=>zBO fuel l1 p.1 p.2.1 p.2.2=some o12) (fun p=>p.1) (fuel,j3,0) l13 (zAL (by simp)) ?_
 rintro⟨k14,left10,i11⟩ l13
 try dsimp only at l13 ⊢
 cases k14 with
 |zero=>
  rw[zBO] at l13;cases l13
 |succ k15=>
  rw[zBO] at l13
  refine zAD<|cut 35 1 [(0,pT 0),(1,.sl (l1.map zMY.c)),(4,iI i11),(22,.bool ((ltI i11 l1.length)&&(leI 0 left10)))] [[iI left10]] ?_ ?_
  ·rcases tf (ltI i11 l1.length) with g16|g16
   ·have c17:=ltT g16
    refine zCA 1 rfl fun f18=>?_
    rw[zq4] at f18
    refine st ?_
    simp[g16]
   have c19:=ltF g16
   refine zCA 1 rfl fun f20=>?_
   rw[zq4] at f20
   refine st ?_
   simp[g16]
  rcases sp l13 with ⟨g21,l13⟩|⟨g21,l13⟩
  ·obtain⟨g22,g23⟩:=andT g21
   have c24:=ltT g22
   have c26:=leT g23
   refine zEk rfl g21<|zCA 1 rfl fun f25=>?_
   rw[zq4] at f25
   refine zAC<|zAH ?_
   obtain⟨j27,l28,l13⟩:=bs l13
   refine zLO 35 1 [(0,pT 0),(1,.sl (l1.map zMY.c)),(4,iI i11)] [[iI j27]] (fun jj=>?_) ?_
   ·refine zAF ?_
    obtain⟨x29,q30,l28⟩:=bs l28
    obtain⟨v31,q32,l28⟩:=bs l28
    refine cut 35 1 [(0,pT 0),(1,.sl (l1.map zMY.c)),(4,iI i11),(5,iI v31)] [[iI left10]] ?_ ?_
    ·refine st ?_
     simp[q30]
     have r36:=zJJ fuel x29 12 v31 q32
     try simp[q30] at r36
     refine cP r36 ?_
     simp[q30]
    refine cutA 35 1 [(0,pT 0),(1,.sl (l1.map zMY.c)),(4,iI i11),(31,.bool (ltI 12 v31))] [[iI left10]]<|spc l28 rfl (fun g33 l28=>?_) fun g33 l28=>?_
    ·have c34:=ltT g33
     refine last 35 1 [(0,pT 0),(1,.sl (l1.map zMY.c)),(4,iI i11)] [[iI (-1)]] (st (by simp)) fun zz hs=>?_
     refine zC1 ?_
     obtain rfl:=oi l28
     exact zAM jj hs
    have c35:=ltF g33
    refine zAC<|zC1 ?_
    obtain rfl:=oi l28
    exact zAM jj (zAL (by simp))
   have q37:Rng .i64 (((i11:Nat):Int)+1):=by simp only[Rng,inR];omega
   try simp at q37
   refine last 35 1 [(0,pT 0),(1,.sl (l1.map zMY.c)),(4,iI ((i11+1:Nat):Int))] [[iI j27]] (st (by simp[q37])) fun zz hs=>?_
   exact⟨(k15,j27,i11+1),hs,l13,by simp⟩
  refine zEc rfl g21<|zAQ<|zAG ?_
  have q38:=zqa l13
  have q38:=q38.symm
  refine zAG<|zAS ?_
  obtain rfl:=oi h
  simp[q38]
theorem zIb(fuel:Nat):(∀(x1:zMZ)(depth2:Int)(w3:zMX)(r:zMX)(_:zBG fuel x1 depth2 w3=some r),Raw Tryz.prog 38 [pT 0,.agg (zMZ.d x1),iI depth2] [[iI w3.left]] (.tup []) [[iI r.left]]):=by
 induction fuel with
 |zero=>intro x1 depth2 w3 r h;rw[zBG] at h;cases h
 |succ fuel zIe=>
  intro x1 depth2 w3 r h
  rw[zBG] at h
  refine zAq Tryz.func38 (by rfl) (by rfl) (by simp) (by simp)<|cutA 47 1 [(0,pT 0),(2,iI depth2),(4,pT 1)] [[iI w3.left],(zMZ.d x1)] ?_
  obtain⟨n4,q5,h⟩:=bs h
  obtain⟨q6,q7⟩:=zBj q5
  try simp at q6
  try simp at q7
  have c8:=q6;simp only[Rng,inR] at c8
  refine cut 47 1 [(0,pT 0),(2,iI depth2),(4,pT 1)] [[iI n4],(zMZ.d x1)] (st (by simp[q6,q7])) ?_
  obtain⟨j9,l10,h⟩:=bs h
  refine zLO 47 1 [(0,pT 0),(2,iI depth2),(4,pT 1)] [[iI j9],(zMZ.d x1)] (fun jj=>?_) ?_
  ·refine cutA 47 1 [(0,pT 0),(2,iI depth2),(4,pT 1),(15,.bool (eqI depth2 0))] [[iI n4],(zMZ.d x1)]<|spc l10 rfl (fun g11 l10=>?_) fun g11 l10=>?_
   ·have c12:=eqT g11
    refine last 47 1 [(0,pT 0),(2,iI depth2),(4,pT 1)] [[iI (-1)],(zMZ.d x1)] (st (by simp)) fun zz hs=>?_
    obtain rfl:=oi l10
    exact zAM jj hs
   have c13:=eqF g11
   refine zAC ?_
   obtain rfl:=oi l10
   exact zAM jj (zAL (by simp))
  obtain⟨v14,q15,h⟩:=bs h
  refine cut 47 1 [(0,pT 0),(2,iI depth2),(4,pT 1)] [[iI v14.left],(zMZ.d x1)] ?_ ?_
  ·refine st ?_
   simp
   have r45:=(zCL fuel [x1.Kind] (zMX.mk j9) v14 q15).frame [0] [[iI j9],(zMZ.d x1)] (by simp)
   try simp at r45
   refine zCV r45 (by simp) rfl ?_
   simp
  refine cutA 47 1 [(0,pT 0),(2,iI depth2),(4,pT 1),(6,iI 0)] [[iI v14.left],(zMZ.d x1)]<|zAF ?_
  obtain⟨o18,l19,h⟩:=bs h
  refine zAm (fun p:Nat×Int×Nat=>mkS 47 1 [(0,pT 0),(2,iI depth2),(4,pT 1),(6,iI p.2.2)] [[iI p.2.1],(zMZ.d x1)]) (fun p=>zBa (zBG fuel) x1 depth2 p.1 p.2.1 p.2.2=some o18) (fun p=>p.1) (fuel,v14.left,0) l19 (zAL (by simp)) ?_
  rintro⟨k20,left16,i17⟩ l19
  try dsimp only at l19 ⊢
  cases k20 with
  |zero=>
   rw[zBa] at l19;cases l19
  |succ k21=>
   rw[zBa] at l19
   refine zAD<|cut 47 1 [(0,pT 0),(2,iI depth2),(4,pT 1),(6,iI i17),(35,.bool ((ltI i17 x1.L.length)&&(leI 0 left16)))] [[iI left16],(zMZ.d x1)] ?_ ?_
   ·rcases tf (ltI i17 x1.L.length) with g22|g22
    ·have c23:=ltT g22
     refine zCB 1 5 rfl rfl rfl fun f24=>?_
     rw[zq4] at f24
     refine st ?_
     simp[g22]
    have c25:=ltF g22
    refine zCB 1 5 rfl rfl rfl fun f26=>?_
    rw[zq4] at f26
    refine st ?_
    simp[g22]
   rcases sp l19 with ⟨g27,l19⟩|⟨g27,l19⟩
   ·obtain⟨g28,g29⟩:=andT g27
    have c30:=ltT g28
    have c32:=leT g29
    refine zEk rfl g27<|zCB 1 5 rfl rfl rfl fun f31=>?_
    rw[zq4] at f31
    refine zAC<|zAH<|zAD<|zAF ?_
    obtain⟨x33,q34,l19⟩:=bs l19
    obtain⟨n35,q36,l19⟩:=bs l19
    obtain⟨q37,q38⟩:=zBj q36
    try simp at q37
    try simp at q38
    have c39:=q37;simp only[Rng,inR] at c39
    obtain⟨v40,q41,l19⟩:=bs l19
    refine last 47 1 [(0,pT 0),(2,iI depth2),(4,pT 1),(6,iI i17)] [[iI v40.left],(zMZ.d x1)] ?_ fun zz hs=>?_
    ·refine st ?_
     simp[q34,q37,q38]
     have r43:=(zIe x33 n35 (zMX.mk left16) v40 q41).frame [0] [[iI left16],(zMZ.d x1)] (by simp)
     try simp[q34,q37,q38] at r43
     refine zCV r43 (by simp[q34,q37,q38]) rfl ?_
     simp[q34,q37,q38]
    refine zC1<|zAM ?_ hs
    have q42:Rng .i64 (((i17:Nat):Int)+1):=by simp only[Rng,inR];omega
    try simp at q42
    refine last 47 1 [(0,pT 0),(2,iI depth2),(4,pT 1),(6,iI ((i17+1:Nat):Int))] [[iI v40.left],(zMZ.d x1)] (st (by simp[q42])) fun zz hs=>?_
    exact⟨(k21,v40.left,i17+1),hs,l19,by simp⟩
   refine zEc rfl g27<|zAQ<|zAG ?_
   have q44:=zqa l19
   have q44:=q44.symm
   refine zAG<|zAS ?_
   obtain rfl:=oi h
   simp[q44]
theorem zIa(fuel:Nat):(∀(x1:zMa)(depth2:Int)(w3:zMX)(r:zMX)(_:zBF fuel x1 depth2 w3=some r),Raw Tryz.prog 17 [pT 0,.agg (zMa.d x1),iI depth2] [[iI w3.left]] (.tup []) [[iI r.left]]):=by
 induction fuel with
 |zero=>intro x1 depth2 w3 r h;rw[zBF] at h;cases h
 |succ fuel zId=>
  intro x1 depth2 w3 r h
  rw[zBF] at h
  refine zAq Tryz.func17 (by rfl) (by rfl) (by simp) (by simp)<|cutA 59 1 [(0,pT 0),(2,iI depth2),(4,pT 1)] [[iI w3.left],(zMa.d x1)] ?_
  obtain⟨n4,q5,h⟩:=bs h
  obtain⟨q6,q7⟩:=zBj q5
  try simp at q6
  try simp at q7
  have c8:=q6;simp only[Rng,inR] at c8
  refine cut 59 1 [(0,pT 0),(2,iI depth2),(4,pT 1)] [[iI n4],(zMa.d x1)] (st (by simp[q6,q7])) ?_
  obtain⟨j9,l10,h⟩:=bs h
  refine zLO 59 1 [(0,pT 0),(2,iI depth2),(4,pT 1)] [[iI j9],(zMa.d x1)] (fun jj=>?_) ?_
  ·refine cutA 59 1 [(0,pT 0),(2,iI depth2),(4,pT 1),(15,.bool (eqI depth2 0))] [[iI n4],(zMa.d x1)]<|spc l10 rfl (fun g11 l10=>?_) fun g11 l10=>?_
   ·have c12:=eqT g11
    refine last 59 1 [(0,pT 0),(2,iI depth2),(4,pT 1)] [[iI (-1)],(zMa.d x1)] (st (by simp)) fun zz hs=>?_
    obtain rfl:=oi l10
    exact zAM jj hs
   have c13:=eqF g11
   refine zAC ?_
   obtain rfl:=oi l10
   exact zAM jj (zAL (by simp))
  obtain⟨v14,q15,h⟩:=bs h
  refine cut 59 1 [(0,pT 0),(2,iI depth2),(4,pT 1)] [[iI v14.left],(zMa.d x1)] ?_ ?_
  ·refine st ?_
   simp
   have r54:=(zIb fuel x1.Con 40 (zMX.mk j9) v14 q15).frame [0] [[iI j9],(zMa.d x1)] (by simp)
   try simp at r54
   refine zCV r54 (by simp) rfl ?_
   simp
  obtain⟨v16,q17,h⟩:=bs h
  refine cut 59 1 [(0,pT 0),(2,iI depth2),(4,pT 1)] [[iI v16.left],(zMa.d x1)] ?_ ?_
  ·refine st ?_
   simp
   have r53:=(zCL fuel x1.Kinds v14 v16 q17).frame [0] [[iI v14.left],(zMa.d x1)] (by simp)
   try simp at r53
   refine zCV r53 (by simp) rfl ?_
   simp
  obtain⟨v18,q19,h⟩:=bs h
  refine cut 59 1 [(0,pT 0),(2,iI depth2),(4,pT 1)] [[iI v18.left],(zMa.d x1)] ?_ ?_
  ·refine st ?_
   simp
   have r52:=(zCL fuel x1.More v16 v18 q19).frame [0] [[iI v16.left],(zMa.d x1)] (by simp)
   try simp at r52
   refine zCV r52 (by simp) rfl ?_
   simp
  obtain⟨v20,q21,h⟩:=bs h
  refine cut 59 1 [(0,pT 0),(2,iI depth2),(4,pT 1)] [[iI v20.left],(zMa.d x1)] ?_ ?_
  ·refine st ?_
   simp
   have r51:=(zCL fuel [x1.Kind] v18 v20 q21).frame [0] [[iI v18.left],(zMa.d x1)] (by simp)
   try simp at r51
   refine zCV r51 (by simp) rfl ?_
   simp
  refine cutA 59 1 [(0,pT 0),(2,iI depth2),(4,pT 1),(6,iI 0)] [[iI v20.left],(zMa.d x1)]<|zAF ?_
  obtain⟨o24,l25,h⟩:=bs h
  refine zAm (fun p:Nat×Int×Nat=>mkS 59 1 [(0,pT 0),(2,iI depth2),(4,pT 1),(6,iI p.2.2)] [[iI p.2.1],(zMa.d x1)]) (fun p=>zBZ (zBF fuel) x1 depth2 p.1 p.2.1 p.2.2=some o24) (fun p=>p.1) (fuel,v20.left,0) l25 (zAL (by simp)) ?_
  rintro⟨k26,left22,i23⟩ l25
  try dsimp only at l25 ⊢
  cases k26 with
  |zero=>
   rw[zBZ] at l25;cases l25
  |succ k27=>
   rw[zBZ] at l25
   refine zAD<|cut 59 1 [(0,pT 0),(2,iI depth2),(4,pT 1),(6,iI i23),(47,.bool ((ltI i23 x1.L.length)&&(leI 0 left22)))] [[iI left22],(zMa.d x1)] ?_ ?_
   ·rcases tf (ltI i23 x1.L.length) with g28|g28
    ·have c29:=ltT g28
     refine zCB 1 13 rfl rfl rfl fun f30=>?_
     rw[zq4] at f30
     refine st ?_
     simp[g28]
    have c31:=ltF g28
    refine zCB 1 13 rfl rfl rfl fun f32=>?_
    rw[zq4] at f32
    refine st ?_
    simp[g28]
   rcases sp l25 with ⟨g33,l25⟩|⟨g33,l25⟩
   ·obtain⟨g34,g35⟩:=andT g33
    have c36:=ltT g34
    have c38:=leT g35
    refine zEk rfl g33<|zCB 1 13 rfl rfl rfl fun f37=>?_
    rw[zq4] at f37
    refine zAC<|zAH<|zAD<|zAF ?_
    obtain⟨x39,q40,l25⟩:=bs l25
    obtain⟨n41,q42,l25⟩:=bs l25
    obtain⟨q43,q44⟩:=zBj q42
    try simp at q43
    try simp at q44
    have c45:=q43;simp only[Rng,inR] at c45
    obtain⟨v46,q47,l25⟩:=bs l25
    refine last 59 1 [(0,pT 0),(2,iI depth2),(4,pT 1),(6,iI i23)] [[iI v46.left],(zMa.d x1)] ?_ fun zz hs=>?_
    ·refine st ?_
     simp[q40,q43,q44]
     have r49:=(zId x39 n41 (zMX.mk left22) v46 q47).frame [0] [[iI left22],(zMa.d x1)] (by simp)
     try simp[q40,q43,q44] at r49
     refine zCV r49 (by simp[q40,q43,q44]) rfl ?_
     simp[q40,q43,q44]
    refine zC1<|zAM ?_ hs
    have q48:Rng .i64 (((i23:Nat):Int)+1):=by simp only[Rng,inR];omega
    try simp at q48
    refine last 59 1 [(0,pT 0),(2,iI depth2),(4,pT 1),(6,iI ((i23+1:Nat):Int))] [[iI v46.left],(zMa.d x1)] (st (by simp[q48])) fun zz hs=>?_
    exact⟨(k27,v46.left,i23+1),hs,l25,by simp⟩
   refine zEc rfl g33<|zAQ<|zAG ?_
   have q50:=zqa l25
   have q50:=q50.symm
   refine zAG<|zAS ?_
   obtain rfl:=oi h
   simp[q50]
theorem zKX(fuel:Nat)(a1:zMb)(r:Bool)(h:zEX fuel a1=some r):Pure Tryz.prog 15 [.agg [.sl (a1.Kinds.map zMY.c),iI a1.S.Op,iI a1.S.N,.str a1.S.S,iI a1.S.Con.Op,iI a1.S.Con.N,.str a1.S.Con.S,.sl (a1.S.Con.Kind.L.map zMY.c),.sl (a1.S.Con.Names.map cS),.sl (a1.S.Con.L.map zMZ.c),.sl (a1.S.Kind.L.map zMY.c),.sl (a1.S.Kinds.map zMY.c),.sl (a1.S.More.map zMY.c),.sl (a1.S.Names.map cS),.sl (a1.S.L.map zMa.c)]] (.bool r):=by
 rw[zEX] at h
 refine zAA Tryz.func15 (by rfl) (by rfl) (by simp) (by simp) (by simp)<|cutA 19 0 [(1,pT 0)] [(zMb.c a1)]<|cutA 19 0 [(1,pT 0),(3,pT 1)] [(zMb.c a1),[iI 400]] ?_
 obtain⟨v2,q3,h⟩:=bs h
 refine cut 19 0 [(1,pT 0),(3,pT 1)] [(zMb.c a1),[iI v2.left]] ?_ ?_
 ·refine st ?_
  simp
  have r7:=(zCL fuel a1.Kinds (zMX.mk 400) v2 q3).frame [1] [[.sl (a1.Kinds.map zMY.c),iI a1.S.Op,iI a1.S.N,.str a1.S.S,iI a1.S.Con.Op,iI a1.S.Con.N,.str a1.S.Con.S,.sl (a1.S.Con.Kind.L.map zMY.c),.sl (a1.S.Con.Names.map cS),.sl (a1.S.Con.L.map zMZ.c),.sl (a1.S.Kind.L.map zMY.c),.sl (a1.S.Kinds.map zMY.c),.sl (a1.S.More.map zMY.c),.sl (a1.S.Names.map cS),.sl (a1.S.L.map zMa.c)],[iI 400]] (by simp)
  try simp at r7
  refine zCV r7 (by simp) rfl ?_
  simp
 obtain⟨v4,q5,h⟩:=bs h
 refine cut 19 0 [(3,pT 1)] [(zMb.c a1),[iI v4.left]] ?_ ?_
 ·refine st ?_
  simp
  have r6:=(zIa fuel a1.S 40 v2 v4 q5).frame [1] [[.sl (a1.Kinds.map zMY.c),iI a1.S.Op,iI a1.S.N,.str a1.S.S,iI a1.S.Con.Op,iI a1.S.Con.N,.str a1.S.Con.S,.sl (a1.S.Con.Kind.L.map zMY.c),.sl (a1.S.Con.Names.map cS),.sl (a1.S.Con.L.map zMZ.c),.sl (a1.S.Kind.L.map zMY.c),.sl (a1.S.Kinds.map zMY.c),.sl (a1.S.More.map zMY.c),.sl (a1.S.Names.map cS),.sl (a1.S.L.map zMa.c)],[iI v2.left]] (by simp)
  try simp at r6
  refine zCV r6 (by simp) rfl ?_
  simp
 refine cutA 19 0 [(2,.bool (ltI v4.left 0))] [(zMb.c a1),[iI v4.left]]<|zAB ?_
 obtain rfl:=oi h
 simp
theorem zEv(fuel:Nat)(s1:(List zMb))(r:Int)(h:zBX fuel s1=some r):Pure Tryz.prog 36 [.sl (s1.map zMb.c),.fn (.func 15) [] []] (iI r):=by
 rw[zBX] at h
 refine zAA Tryz.func36 (by rfl) (by rfl) (by simp) (by simp) (by simp)<|cutA 19 0 [(0,.sl (s1.map zMb.c)),(1,.fn (.func 15) [] [])] []<|zAD<|cutA 19 0 [(0,.sl (s1.map zMb.c)),(1,.fn (.func 15) [] []),(7,iI s1.length),(8,iI 0)] []<|zAF ?_
 obtain⟨o4,l5,h⟩:=bs h
 refine zAm (fun p:Nat×Nat=>mkS 19 0 [(0,.sl (s1.map zMb.c)),(1,.fn (.func 15) [] []),(7,iI s1.length),(8,iI p.2)] []) (fun p=>zAZ fuel s1 p.1 p.2=some o4) (fun p=>p.1) (fuel,0) l5 (zAL (by simp)) ?_
 rintro⟨k6,i2⟩ l5
 try dsimp only at l5 ⊢
 cases k6 with
 |zero=>
  rw[zAZ] at l5;cases l5
 |succ k7=>
  rw[zAZ] at l5
  refine cutA 19 0 [(0,.sl (s1.map zMb.c)),(1,.fn (.func 15) [] []),(7,iI s1.length),(8,iI i2),(9,.bool (ltI i2 s1.length))] []<|zAD<|spc l5 rfl (fun g8 l5=>?_) fun g8 l5=>?_
  ·have c9:=ltT g8
   refine zCA 0 rfl fun f10=>?_
   rw[zq4] at f10
   refine zAC<|zAH<|zAD<|zAF<|cutA 19 0 [(0,.sl (s1.map zMb.c)),(1,.fn (.func 15) [] []),(5,iI i2),(7,iI s1.length),(8,iI i2)] [] ?_
   obtain⟨x11,q12,l5⟩:=bs l5
   obtain⟨v13,q14,l5⟩:=bs l5
   refine cut 19 0 [(0,.sl (s1.map zMb.c)),(1,.fn (.func 15) [] []),(5,iI i2),(7,iI s1.length),(8,iI i2),(16,.bool v13)] [] ?_ ?_
   ·refine st ?_
    simp[q12]
    have r17:=zKX fuel x11 v13 q14
    try simp[q12] at r17
    refine cP r17 ?_
    simp[q12]
   refine spc l5 rfl (fun g15 l5=>?_) fun g15 l5=>?_
   ·refine cutA 19 0 [(4,iI i2)] []<|zAB<|zAK<|zAE ?_
    replace h:=retL l5 h
    refine zAE<|zAK<|zAE ?_
    obtain rfl:=oi h
    simp
   refine zAC<|zC1<|zAH ?_
   have q16:Rng .i64 (((i2:Nat):Int)+1):=by simp only[Rng,inR];omega
   try simp at q16
   refine last 19 0 [(0,.sl (s1.map zMb.c)),(1,.fn (.func 15) [] []),(7,iI s1.length),(8,iI ((i2+1:Nat):Int))] [] (st (by simp[q16])) fun zz hs=>?_
   exact⟨(k7,i2+1),hs,l5,by simp⟩
  have c18:=ltF g8
  refine zCA 0 rfl fun f19=>?_
  rw[zq4] at f19
  refine zAQ<|zAG ?_
  rcases o4 with o4|o3
  ·cases l5
  have q20:=Sum.inr.inj (zqa l5)
  replace h:=zF0 h
  refine zAG<|zAS<|zAM (t:=mkS 19 0 [] []) ?_ (zAL (by simp))
  refine cutA 19 0 [(4,iI (-1))] []<|zAB ?_
  obtain rfl:=oi h
  simp
theorem zEO(fuel:Nat)(s1:(List zMb))(r:Bool)(h:zBD fuel s1=some r):Pure Tryz.prog 14 [.sl (s1.map zMb.c),.fn (.func 15) [] []] (.bool r):=by
 rw[zBD] at h
 refine zAA Tryz.func14 (by rfl) (by rfl) (by simp) (by simp) (by simp)<|cutA 9 0 [(0,.sl (s1.map zMb.c)),(1,.fn (.func 15) [] [])] [] ?_
 obtain⟨v2,q3,h⟩:=bs h
 refine cut 9 0 [(4,.bool (leI 0 v2))] [] ?_ ?_
 ·refine st ?_
  simp
  have r4:=zEv fuel s1 v2 q3
  try simp at r4
  refine cP r4 ?_
  simp
 refine zAB ?_
 obtain rfl:=oi h
 simp
theorem zI5(fuel:Nat)(l1:(List zMb))(r:Bool)(h:zFm fuel l1=some r):Pure Tryz.prog 5 [.sl (l1.map zMb.c)] (.bool r):=by
 rw[zFm] at h
 refine zAA Tryz.func5 (by rfl) (by rfl) (by simp) (by simp) (by simp)<|cutA 5 0 [(0,.sl (l1.map zMb.c))] [] ?_
 obtain⟨v2,q3,h⟩:=bs h
 refine cut 5 0 [(2,.bool v2)] [] ?_ ?_
 ·refine st ?_
  simp
  have r4:=zEO fuel l1 v2 q3
  try simp at r4
  refine cP r4 ?_
  simp
 refine zAB ?_
 obtain rfl:=oi h
 simp
theorem zEa(fuel:Nat):(∀(a1:zMY)(b2:zMY)(r:Bool)(_:zBB fuel a1 b2=some r),Pure Tryz.prog 18 [.agg [.sl (a1.L.map zMY.c)],.agg [.sl (b2.L.map zMY.c)]] (.bool r)):=by
 induction fuel with
 |zero=>intro a1 b2 r h;rw[zBB] at h;cases h
 |succ fuel zJo=>
  intro a1 b2 r h
  rw[zBB] at h
  refine zAA Tryz.func18 (by rfl) (by rfl) (by simp) (by simp) (by simp)<|cutA 32 0 [(2,pT 0),(3,pT 1)] [[.sl (a1.L.map zMY.c)],[.sl (b2.L.map zMY.c)]]<|zAD<|cutA 32 0 [(2,pT 0),(3,pT 1),(12,.bool (!(eqI a1.L.length b2.L.length)))] [[.sl (a1.L.map zMY.c)],[.sl (b2.L.map zMY.c)]] ?_
  rcases sp h with ⟨g3,h⟩|⟨g3,h⟩
  ·have g4:=notT g3
   have c5:=eqF g4
   refine zEk rfl g3<|cutA 32 0 [(4,.bool false)] [[.sl (a1.L.map zMY.c)],[.sl (b2.L.map zMY.c)]]<|zAB<|zAE ?_
   obtain rfl:=oi h
   simp
  have g6:=notF g3
  have c7:=eqT g6
  refine zEc rfl g3<|zAC<|zAH<|zAD<|cutA 32 0 [(2,pT 0),(3,pT 1),(5,iI 0)] [[.sl (a1.L.map zMY.c)],[.sl (b2.L.map zMY.c)]]<|zAF ?_
  obtain⟨o10,l11,h⟩:=bs h
  refine zAm (fun p:Nat×Nat=>mkS 32 0 [(2,pT 0),(3,pT 1),(5,iI p.2)] [[.sl (a1.L.map zMY.c)],[.sl (b2.L.map zMY.c)]]) (fun p=>zBu (zBB fuel) a1 b2 p.1 p.2=some o10) (fun p=>p.1) (fuel,0) l11 (zAL (by simp)) ?_
  rintro⟨k12,i8⟩ l11
  try dsimp only at l11 ⊢
  cases k12 with
  |zero=>
   rw[zBu] at l11;cases l11
  |succ k13=>
   rw[zBu] at l11
   refine zAD<|cutA 32 0 [(2,pT 0),(3,pT 1),(5,iI i8),(17,.bool (ltI i8 a1.L.length))] [[.sl (a1.L.map zMY.c)],[.sl (b2.L.map zMY.c)]]<|spc l11 rfl (fun g14 l11=>?_) fun g14 l11=>?_
   ·have c15:=ltT g14
    refine zCB 0 0 rfl rfl rfl fun f16=>?_
    rw[zq4] at f16
    refine zAC<|zAH<|zAD<|zAF ?_
    obtain⟨x17,q18,l11⟩:=bs l11
    obtain⟨x19,q20,l11⟩:=bs l11
    obtain⟨v21,q22,l11⟩:=bs l11
    refine cut 32 0 [(2,pT 0),(3,pT 1),(5,iI i8),(31,.bool (!v21))] [[.sl (a1.L.map zMY.c)],[.sl (b2.L.map zMY.c)]] ?_ ?_
    ·refine zAJ [] mixed (n:=32) rfl (by decide) ?_
     simp[q18,q20]
     have r27:=zJo x17 x19 v21 q22
     try simp[q18,q20] at r27
     refine zGN r27 (by simp) rfl ?_
     simp[q18,q20]
    refine spc l11 rfl (fun g23 l11=>?_) fun g23 l11=>?_
    ·have g24:=notT g23
     refine cutA 32 0 [(4,.bool false)] [[.sl (a1.L.map zMY.c)],[.sl (b2.L.map zMY.c)]]<|zAB<|zAK<|zAE ?_
     replace h:=retL l11 h
     refine zAE<|zAK<|zAE ?_
     obtain rfl:=oi h
     simp
    have g25:=notF g23
    refine zAC<|zC1<|zAH ?_
    have q26:Rng .i64 (((i8:Nat):Int)+1):=by simp only[Rng,inR];omega
    try simp at q26
    refine last 32 0 [(2,pT 0),(3,pT 1),(5,iI ((i8+1:Nat):Int))] [[.sl (a1.L.map zMY.c)],[.sl (b2.L.map zMY.c)]] (st (by simp[q26])) fun zz hs=>?_
    exact⟨(k13,i8+1),hs,l11,by simp⟩
   have c28:=ltF g14
   refine zCB 0 0 rfl rfl rfl fun f29=>?_
   rw[zq4] at f29
   refine zAQ<|zAG ?_
   rcases o10 with o10|o9
   ·cases l11
   have q30:=Sum.inr.inj (zqa l11)
   replace h:=zF0 h
   refine zAG<|zAS<|zAM (t:=mkS 32 0 [] [[.sl (a1.L.map zMY.c)],[.sl (b2.L.map zMY.c)]]) ?_ (zAL (by simp))
   refine cutA 32 0 [(4,.bool true)] [[.sl (a1.L.map zMY.c)],[.sl (b2.L.map zMY.c)]]<|zAB ?_
   obtain rfl:=oi h
   simp
theorem zDW(fuel:Nat)(a1:(List zMY))(b2:(List zMY))(r:Bool)(h:zB3 fuel a1 b2=some r):Pure Tryz.prog 6 [.sl (a1.map zMY.c),.sl (b2.map zMY.c)] (.bool r):=by
 rw[zB3] at h
 refine zAA Tryz.func6 (by rfl) (by rfl) (by simp) (by simp) (by simp)<|cutA 27 0 [(0,.sl (a1.map zMY.c)),(1,.sl (b2.map zMY.c))] []<|zAD<|cutA 27 0 [(0,.sl (a1.map zMY.c)),(1,.sl (b2.map zMY.c)),(10,.bool (!(eqI a1.length b2.length)))] [] ?_
 rcases sp h with ⟨g3,h⟩|⟨g3,h⟩
 ·have g4:=notT g3
  have c5:=eqF g4
  refine zEk rfl g3<|cutA 27 0 [(4,.bool false)] []<|zAB<|zAE ?_
  obtain rfl:=oi h
  simp
 have g6:=notF g3
 have c7:=eqT g6
 refine zEc rfl g3<|zAC<|zAH<|zAD<|cutA 27 0 [(0,.sl (a1.map zMY.c)),(1,.sl (b2.map zMY.c)),(5,iI 0)] []<|zAF ?_
 obtain⟨o10,l11,h⟩:=bs h
 refine zAm (fun p:Nat×Nat=>mkS 27 0 [(0,.sl (a1.map zMY.c)),(1,.sl (b2.map zMY.c)),(5,iI p.2)] []) (fun p=>zBo fuel a1 b2 p.1 p.2=some o10) (fun p=>p.1) (fuel,0) l11 (zAL (by simp)) ?_
 rintro⟨k12,i8⟩ l11
 try dsimp only at l11 ⊢
 cases k12 with
 |zero=>
  rw[zBo] at l11;cases l11
 |succ k13=>
  rw[zBo] at l11
  refine zAD<|cutA 27 0 [(0,.sl (a1.map zMY.c)),(1,.sl (b2.map zMY.c)),(5,iI i8),(14,.bool (ltI i8 a1.length))] []<|spc l11 rfl (fun g14 l11=>?_) fun g14 l11=>?_
  ·have c15:=ltT g14
   refine zCA 0 rfl fun f16=>?_
   rw[zq4] at f16
   refine zAC<|zAH<|zAD<|zAF ?_
   obtain⟨x17,q18,l11⟩:=bs l11
   obtain⟨x19,q20,l11⟩:=bs l11
   obtain⟨v21,q22,l11⟩:=bs l11
   refine cut 27 0 [(0,.sl (a1.map zMY.c)),(1,.sl (b2.map zMY.c)),(5,iI i8),(26,.bool (!v21))] [] ?_ ?_
   ·refine zAJ [] mixed (n:=27) rfl (by decide) ?_
    simp[q18,q20]
    have r27:=zEa fuel x17 x19 v21 q22
    try simp[q18,q20] at r27
    refine zGN r27 (by simp) rfl ?_
    simp[q18,q20]
   refine spc l11 rfl (fun g23 l11=>?_) fun g23 l11=>?_
   ·have g24:=notT g23
    refine cutA 27 0 [(4,.bool false)] []<|zAB<|zAK<|zAE ?_
    replace h:=retL l11 h
    refine zAE<|zAK<|zAE ?_
    obtain rfl:=oi h
    simp
   have g25:=notF g23
   refine zAC<|zC1<|zAH ?_
   have q26:Rng .i64 (((i8:Nat):Int)+1):=by simp only[Rng,inR];omega
   try simp at q26
   refine last 27 0 [(0,.sl (a1.map zMY.c)),(1,.sl (b2.map zMY.c)),(5,iI ((i8+1:Nat):Int))] [] (st (by simp[q26])) fun zz hs=>?_
   exact⟨(k13,i8+1),hs,l11,by simp⟩
  have c28:=ltF g14
  refine zCA 0 rfl fun f29=>?_
  rw[zq4] at f29
  refine zAQ<|zAG ?_
  rcases o10 with o10|o9
  ·cases l11
  have q30:=Sum.inr.inj (zqa l11)
  replace h:=zF0 h
  refine zAG<|zAS<|zAM (t:=mkS 27 0 [] []) ?_ (zAL (by simp))
  refine cutA 27 0 [(4,.bool true)] []<|zAB ?_
  obtain rfl:=oi h
  simp
theorem zEp(op1:Int)(r:Bool)(h:zDF op1=some r):Pure Tryz.prog 69 [iI op1] (.bool r):=by
 rw[zDF] at h
 refine zAA Tryz.func69 (by rfl) (by rfl) (by simp) (by simp) (by simp)<|cutA 13 0 [(0,iI op1)] []<|cut 13 0 [(2,.bool ((eqI op1 1)||((eqI op1 2)||(eqI op1 3))))] [] ?_ ?_
 ·rcases tf (eqI op1 1) with g2|g2
  ·have c3:=eqT g2
   refine st ?_
   simp[g2]
  have c4:=eqF g2
  rcases tf (eqI op1 2) with g5|g5
  ·have c6:=eqT g5
   refine st ?_
   simp[g2,g5]
  have c7:=eqF g5
  refine st ?_
  simp[g2,g5]
 refine zAB ?_
 obtain rfl:=oi h
 simp
theorem zGO(fuel:Nat):(∀(c1:zMZ)(r:Int)(_:zCC fuel c1=some r),Pure Tryz.prog 70 [.agg (zMZ.d c1)] (iI r)):=by
 induction fuel with
 |zero=>intro c1 r h;rw[zCC] at h;cases h
 |succ fuel ih_tycon_Size=>
  intro c1 r h
  rw[zCC] at h
  refine zAA Tryz.func70 (by rfl) (by rfl) (by simp) (by simp) (by simp)<|cutA 19 0 [(1,pT 0)] [(zMZ.d c1)]<|cutA 19 0 [(1,pT 0),(3,iI 1)] [(zMZ.d c1)]<|zAD<|cutA 19 0 [(3,iI 1),(7,.sl (c1.L.map zMZ.c)),(8,iI c1.L.length),(9,iI 0)] [(zMZ.d c1)]<|zAF ?_
  obtain⟨o4,l5,h⟩:=bs h
  refine zAm (fun p:Nat×Int×Nat=>mkS 19 0 [(3,iI p.2.1),(7,.sl (c1.L.map zMZ.c)),(8,iI c1.L.length),(9,iI p.2.2)] [(zMZ.d c1)]) (fun p=>zDE (zCC fuel) c1 p.1 p.2.1 p.2.2=some o4) (fun p=>p.1) (fuel,1,0) l5 (zAL (by simp)) ?_
  rintro⟨k6,n2,i3⟩ l5
  try dsimp only at l5 ⊢
  cases k6 with
  |zero=>
   rw[zDE] at l5;cases l5
  |succ k7=>
   rw[zDE] at l5
   refine cutA 19 0 [(3,iI n2),(7,.sl (c1.L.map zMZ.c)),(8,iI c1.L.length),(9,iI i3),(10,.bool (ltI i3 c1.L.length))] [(zMZ.d c1)]<|zAD<|spc l5 rfl (fun g8 l5=>?_) fun g8 l5=>?_
   ·have c9:=ltT g8
    refine zCA 7 rfl fun f10=>?_
    rw[zq4] at f10
    refine zAC<|zAH<|zAD<|zAF ?_
    obtain⟨x11,q12,l5⟩:=bs l5
    refine cut 19 0 [(3,iI n2),(5,pT 1),(7,.sl (c1.L.map zMZ.c)),(8,iI c1.L.length),(9,iI i3)] [(zMZ.d c1),(zMZ.d x11)] (st (by simp[q12])) ?_
    obtain⟨v13,q14,l5⟩:=bs l5
    obtain⟨n15,q16,l5⟩:=bs l5
    obtain⟨q17,q18⟩:=zBj q16
    try simp at q17
    try simp at q18
    have c19:=q17;simp only[Rng,inR] at c19
    refine last 19 0 [(3,iI n15),(7,.sl (c1.L.map zMZ.c)),(8,iI c1.L.length),(9,iI i3)] [(zMZ.d c1),(zMZ.d x11)] ?_ fun zz hs=>?_
    ·refine st ?_
     simp[q17,q18]
     have r21:=ih_tycon_Size x11 v13 q14
     try simp[q17,q18] at r21
     refine cP r21 ?_
     simp[q17,q18]
    refine zC1<|zAM ?_ hs
    have q20:Rng .i64 (((i3:Nat):Int)+1):=by simp only[Rng,inR];omega
    try simp at q20
    refine last 19 0 [(3,iI n15),(7,.sl (c1.L.map zMZ.c)),(8,iI c1.L.length),(9,iI ((i3+1:Nat):Int))] [(zMZ.d c1)] (st (by simp[q20])) fun zz hs=>?_
    exact⟨(k7,n15,i3+1),hs,l5,by simp⟩
   have c22:=ltF g8
   refine zCA 7 rfl fun f23=>?_
   rw[zq4] at f23
   refine zAQ<|zAG ?_
   have q24:=zqa l5
   have q24:=q24.symm
   refine zAG<|zAS<|zAM (t:=mkS 19 0 [(3,iI o4)] [(zMZ.d c1)]) ?_ (zAL (by simp[q24]))
   refine cutA 19 0 [(2,iI o4)] [(zMZ.d c1)]<|zAB ?_
   obtain rfl:=oi h
   simp
theorem zH6(c1:UInt8)(r:Int)(h:zDp c1=some r):Pure Tryz.prog 170 [.int .u8 c1.toNat] (iI r):=by
 rw[zDp] at h
 refine zAA Tryz.func170 (by rfl) (by rfl) (by simp) (by simp) (by simp)<|cutA 30 0 [(0,.int .u8 c1.toNat)] []<|zAD<|zAF<|cut 30 0 [(0,.int .u8 c1.toNat),(3,.bool ((leI 97 c1.toNat)&&(leI c1.toNat 122)))] [] ?_ ?_
 ·rcases tf (leI 97 c1.toNat) with g2|g2
  ·have c3:=leT g2
   refine st ?_
   simp[g2]
  have c4:=leF g2
  refine st ?_
  simp[g2]
 rcases sp h with ⟨g5,h⟩|⟨g5,h⟩
 ·obtain⟨g6,g7⟩:=andT g5
  have c8:=leT g6
  have c9:=leT g7
  refine zEk rfl g5<|cutA 30 0 [(2,iI 1)] []<|zAB<|zAK<|zAE ?_
  obtain rfl:=oi h
  simp
 refine zEc rfl g5<|cut 30 0 [(0,.int .u8 c1.toNat),(10,.bool ((leI 65 c1.toNat)&&(leI c1.toNat 90)))] [] ?_ ?_
 ·rcases tf (leI 65 c1.toNat) with g10|g10
  ·have c11:=leT g10
   refine st ?_
   simp[g10]
  have c12:=leF g10
  refine st ?_
  simp[g10]
 rcases sp h with ⟨g13,h⟩|⟨g13,h⟩
 ·obtain⟨g14,g15⟩:=andT g13
  have c16:=leT g14
  have c17:=leT g15
  refine zEk rfl g13<|cutA 30 0 [(2,iI 2)] []<|zAB<|zAK<|zAE ?_
  obtain rfl:=oi h
  simp
 refine zEc rfl g13<|cut 30 0 [(0,.int .u8 c1.toNat),(17,.bool ((leI 48 c1.toNat)&&(leI c1.toNat 57)))] [] ?_ ?_
 ·rcases tf (leI 48 c1.toNat) with g18|g18
  ·have c19:=leT g18
   refine st ?_
   simp[g18]
  have c20:=leF g18
  refine st ?_
  simp[g18]
 rcases sp h with ⟨g21,h⟩|⟨g21,h⟩
 ·obtain⟨g22,g23⟩:=andT g21
  have c24:=leT g22
  have c25:=leT g23
  refine zEk rfl g21<|cutA 30 0 [(2,iI 3)] []<|zAB<|zAK<|zAE ?_
  obtain rfl:=oi h
  simp
 refine zEc rfl g21<|cutA 30 0 [(0,.int .u8 c1.toNat),(24,.bool (eqI c1.toNat 95))] []<|spc h rfl (fun g26 h=>?_) fun g26 h=>?_
 ·have c27:=eqT g26
  refine cutA 30 0 [(2,iI 4)] []<|zAB<|zAK<|zAE ?_
  obtain rfl:=oi h
  simp
 have c28:=eqF g26
 refine cutA 30 0 [(27,.bool (eqI c1.toNat 46))] []<|spc h rfl (fun g29 h=>?_) fun g29 h=>?_
 ·have c30:=eqT g29
  refine cutA 30 0 [(2,iI 5)] []<|zAB<|zAK<|zAE ?_
  obtain rfl:=oi h
  simp
 have c31:=eqF g29
 refine zAC<|zC1<|zAH<|cutA 30 0 [(2,iI 0)] []<|zAB ?_
 obtain rfl:=oi h
 simp
theorem zHm(fuel:Nat)(s1:(List UInt8))(first2:Int)(r:Bool)(h:zEB fuel s1 first2=some r):Pure Tryz.prog 133 [.str s1,iI first2] (.bool r):=by
 rw[zEB] at h
 refine zAA Tryz.func133 (by rfl) (by rfl) (by simp) (by simp) (by simp)<|cutA 38 0 [(0,.str s1),(1,iI first2)] []<|zAD ?_
 obtain⟨b13,q14,h⟩:=bs h
 refine cut 38 0 [(0,.str s1),(21,.bool b13)] [] ?_ ?_
 ·rcases sp q14 with ⟨g3,q14⟩|⟨g3,q14⟩
  ·obtain rfl:=oi q14
   refine st ?_
   simp[g3]
  rcases sp q14 with ⟨g4,q14⟩|⟨g4,q14⟩
  ·have c5:=ltT g4
   refine zJP 0 rfl fun f6=>?_
   obtain rfl:=oi q14
   refine st ?_
   simp[g3,g4]
  have c7:=ltF g4
  refine zJP 0 rfl fun f8=>?_
  obtain⟨c9,q10,q14⟩:=bs q14
  obtain⟨v11,q12,q14⟩:=bs q14
  obtain rfl:=oi q14
  refine st ?_
  simp[g3,g4,q10]
  have r46:=zH6 c9 v11 q12
  try simp[g3,g4,q10] at r46
  refine cP r46 ?_
  simp[g3,g4,q10]
 refine spc h rfl (fun g15 h=>?_) fun g15 h=>?_
 ·refine cutA 38 0 [(4,.bool false)] []<|zAB<|zAE ?_
  obtain rfl:=oi h
  simp
 refine zAC<|zAH<|zAD ?_
 obtain⟨l16,q17,h⟩:=bs h
 obtain⟨q18,q19⟩:=zMP q17
 refine cut 38 0 [(23,.sl (l16.map cU)),(24,iI l16.length),(25,iI 0)] [] (st (by simp[q18,q19]))<|zAF ?_
 obtain⟨o22,l23,h⟩:=bs h
 refine zAm (fun p:Nat×Nat=>mkS 38 0 [(23,.sl (l16.map cU)),(24,iI l16.length),(25,iI p.2)] []) (fun p=>zCl l16 p.1 p.2=some o22) (fun p=>p.1) (fuel,0) l23 (zAL (by simp)) ?_
 rintro⟨k24,i20⟩ l23
 try dsimp only at l23 ⊢
 cases k24 with
 |zero=>
  rw[zCl] at l23;cases l23
 |succ k25=>
  rw[zCl] at l23
  refine cutA 38 0 [(23,.sl (l16.map cU)),(24,iI l16.length),(25,iI i20),(26,.bool (ltI i20 l16.length))] []<|zAD<|spc l23 rfl (fun g26 l23=>?_) fun g26 l23=>?_
  ·have c27:=ltT g26
   refine zCA 23 rfl fun f28=>?_
   rw[zq4] at f28
   refine zAC<|zAH<|zAD<|zAF ?_
   obtain⟨x29,q30,l23⟩:=bs l23
   refine cut 38 0 [(6,.int .u8 x29.toNat),(23,.sl (l16.map cU)),(24,iI l16.length),(25,iI i20)] [] (st (by simp[q30])) ?_
   obtain⟨v31,q32,l23⟩:=bs l23
   refine cut 38 0 [(7,iI v31),(23,.sl (l16.map cU)),(24,iI l16.length),(25,iI i20)] [] ?_ ?_
   ·refine st ?_
    simp
    have r42:=zH6 x29 v31 q32
    try simp at r42
    refine cP r42 ?_
    simp
   refine cut 38 0 [(23,.sl (l16.map cU)),(24,iI l16.length),(25,iI i20),(36,.bool ((eqI v31 0)||(eqI v31 5)))] [] ?_ ?_
   ·rcases tf (eqI v31 0) with g33|g33
    ·have c34:=eqT g33
     refine st ?_
     simp[g33]
    have c35:=eqF g33
    refine st ?_
    simp[g33]
   rcases sp l23 with ⟨g36,l23⟩|⟨g36,l23⟩
   ·refine zEk rfl g36<|cutA 38 0 [(4,.bool false)] []<|zAB<|zAK<|zAE ?_
    replace h:=retL l23 h
    refine zAE<|zAK<|zAE ?_
    obtain rfl:=oi h
    simp
   obtain⟨g37,g38⟩:=orF g36
   have c39:=eqF g37
   have c40:=eqF g38
   refine zEc rfl g36<|zAC<|zC1<|zAH ?_
   have q41:Rng .i64 (((i20:Nat):Int)+1):=by simp only[Rng,inR];omega
   try simp at q41
   refine last 38 0 [(23,.sl (l16.map cU)),(24,iI l16.length),(25,iI ((i20+1:Nat):Int))] [] (st (by simp[q41])) fun zz hs=>?_
   exact⟨(k25,i20+1),hs,l23,by simp⟩
  have c43:=ltF g26
  refine zCA 23 rfl fun f44=>?_
  rw[zq4] at f44
  refine zAQ<|zAG ?_
  rcases o22 with o22|o21
  ·cases l23
  have q45:=Sum.inr.inj (zqa l23)
  replace h:=zF0 h
  refine zAG<|zAS<|zAM (t:=mkS 38 0 [] []) ?_ (zAL (by simp))
  refine cutA 38 0 [(4,.bool true)] []<|zAB ?_
  obtain rfl:=oi h
  simp
theorem zD2(fuel:Nat)(s1:(List UInt8))(r:Bool)(h:zDR fuel s1=some r):Pure Tryz.prog 100 [.str s1] (.bool r):=by
 rw[zDR] at h
 refine zAA Tryz.func100 (by rfl) (by rfl) (by simp) (by simp) (by simp)<|cutA 5 0 [(0,.str s1)] [] ?_
 obtain⟨v2,q3,h⟩:=bs h
 refine cut 5 0 [(2,.bool v2)] [] ?_ ?_
 ·refine st ?_
  simp
  have r4:=zHm fuel s1 2 v2 q3
  try simp at r4
  refine cP r4 ?_
  simp
 refine zAB ?_
 obtain rfl:=oi h
 simp
theorem zFY(s1:zMa)(r:Bool)(h:zFN s1=some r):Pure Tryz.prog 130 [.agg (zMa.d s1)] (.bool r):=by
 rw[zFN] at h
 refine zAA Tryz.func130 (by rfl) (by rfl) (by simp) (by simp) (by simp)<|cutA 11 0 [(1,pT 0)] [(zMa.d s1)]<|cut 11 0 [(2,.bool ((eqI s1.Op 5)||(eqI s1.Op 6)))] [(zMa.d s1)] ?_ ?_
 ·rcases tf (eqI s1.Op 5) with g2|g2
  ·have c3:=eqT g2
   refine st ?_
   simp[g2]
  have c4:=eqF g2
  refine st ?_
  simp[g2]
 refine zAB ?_
 obtain rfl:=oi h
 simp
theorem zFG(fuel:Nat)(l1:(List (List UInt8)))(r:Bool)(h:zBm fuel l1=some r):Pure Tryz.prog 131 [.sl (l1.map cS)] (.bool r):=by
 rw[zBm] at h
 refine zAA Tryz.func131 (by rfl) (by rfl) (by simp) (by simp) (by simp)<|cutA 20 0 [(0,.sl (l1.map cS))] []<|zAD<|cutA 20 0 [(0,.sl (l1.map cS)),(3,iI 1)] []<|zAF ?_
 obtain⟨o4,l5,h⟩:=bs h
 refine zAm (fun p:Nat×Nat=>mkS 20 0 [(0,.sl (l1.map cS)),(3,iI p.2)] []) (fun p=>zA2 l1 p.1 p.2=some o4) (fun p=>p.1) (fuel,1) l5 (zAL (by simp)) ?_
 rintro⟨k6,i2⟩ l5
 try dsimp only at l5 ⊢
 cases k6 with
 |zero=>
  rw[zA2] at l5;cases l5
 |succ k7=>
  rw[zA2] at l5
  refine zAD<|cutA 20 0 [(0,.sl (l1.map cS)),(3,iI i2),(7,.bool (ltI i2 l1.length))] []<|spc l5 rfl (fun g8 l5=>?_) fun g8 l5=>?_
  ·have c9:=ltT g8
   refine zCA 0 rfl fun f10=>?_
   rw[zq4] at f10
   refine zAC<|zAH<|zAD<|zAF ?_
   have q11:Rng .i64 (((i2:Nat):Int)-1):=by simp only[Rng,inR];omega
   try simp at q11
   obtain⟨x12,q13,l5⟩:=bs l5
   obtain⟨q14,q15⟩:=idx_ok q13
   try simp at q14
   try simp at q15
   obtain⟨x16,q17,l5⟩:=bs l5
   refine cut 20 0 [(0,.sl (l1.map cS)),(3,iI i2),(19,.bool (!(ltS x12 x16)))] [] ?_ ?_
   ·refine zAJ [] mixed (n:=20) rfl (by decide) ?_
    simp[q11,q14,q15,q17]
   refine spc l5 rfl (fun g18 l5=>?_) fun g18 l5=>?_
   ·have g19:=notT g18
    refine cutA 20 0 [(2,.bool false)] []<|zAB<|zAK<|zAE ?_
    replace h:=retL l5 h
    refine zAE<|zAK<|zAE ?_
    obtain rfl:=oi h
    simp
   have g20:=notF g18
   refine zAC<|zC1<|zAH ?_
   have q21:Rng .i64 (((i2:Nat):Int)+1):=by simp only[Rng,inR];omega
   try simp at q21
   refine last 20 0 [(0,.sl (l1.map cS)),(3,iI ((i2+1:Nat):Int))] [] (st (by simp[q21])) fun zz hs=>?_
   exact⟨(k7,i2+1),hs,l5,by simp⟩
  have c22:=ltF g8
  refine zCA 0 rfl fun f23=>?_
  rw[zq4] at f23
  refine zAQ<|zAG ?_
  rcases o4 with o4|o3
  ·cases l5
  have q24:=Sum.inr.inj (zqa l5)
  replace h:=zF0 h
  refine zAG<|zAS<|zAM (t:=mkS 20 0 [] []) ?_ (zAL (by simp))
  refine cutA 20 0 [(2,.bool true)] []<|zAB ?_
  obtain rfl:=oi h
  simp
theorem zK3(kind1:Int)(r:(List UInt8))(h:zE3 kind1=some r):Pure Tryz.prog 200 [iI kind1] (.str r):=by
 rw[zE3] at h
 refine zAA Tryz.func200 (by rfl) (by rfl) (by simp) (by simp) (by simp)<|cutA 14 0 [(0,iI kind1)] []<|zAD<|cutA 14 0 [(3,iI kind1)] []<|zAF<|cutA 14 0 [(3,iI kind1),(4,.bool (eqI kind1 1))] []<|spc h rfl (fun g2 h=>?_) fun g2 h=>?_
 ·have c3:=eqT g2
  refine cutA 14 0 [(2,.str [118,97,108,46])] []<|zAB<|zAK<|zAE ?_
  obtain rfl:=oi h
  simp
 have c4:=eqF g2
 refine cutA 14 0 [(3,iI kind1),(6,.bool (eqI kind1 2))] []<|spc h rfl (fun g5 h=>?_) fun g5 h=>?_
 ·have c6:=eqT g5
  refine cutA 14 0 [(2,.str [116,121,112,101,46])] []<|zAB<|zAK<|zAE ?_
  obtain rfl:=oi h
  simp
 have c7:=eqF g5
 refine cutA 14 0 [(3,iI kind1),(8,.bool (eqI kind1 3))] []<|spc h rfl (fun g8 h=>?_) fun g8 h=>?_
 ·have c9:=eqT g8
  refine cutA 14 0 [(2,.str [99,111,110,46])] []<|zAB<|zAK<|zAE ?_
  obtain rfl:=oi h
  simp
 have c10:=eqF g8
 refine cutA 14 0 [(3,iI kind1),(10,.bool (eqI kind1 4))] []<|spc h rfl (fun g11 h=>?_) fun g11 h=>?_
 ·have c12:=eqT g11
  refine cutA 14 0 [(2,.str [109,111,100,46])] []<|zAB<|zAK<|zAE ?_
  obtain rfl:=oi h
  simp
 have c13:=eqF g11
 refine cutA 14 0 [(12,.bool (eqI kind1 5))] []<|spc h rfl (fun g14 h=>?_) fun g14 h=>?_
 ·have c15:=eqT g14
  refine cutA 14 0 [(2,.str [115,105,103,46])] []<|zAB<|zAK<|zAE ?_
  obtain rfl:=oi h
  simp
 have c16:=eqF g14
 refine zAC<|zC1<|zAH<|cutA 14 0 [(2,.str ([]:List UInt8))] []<|zAB ?_
 obtain rfl:=oi h
 simp
theorem zGx(s1:(List UInt8))(prefix2:(List UInt8))(r:Bool)(h:zCz s1 prefix2=some r):Pure Tryz.prog 198 [.str s1,.str prefix2] (.bool r):=by
 rw[zCz] at h
 refine zAA Tryz.func198 (by rfl) (by rfl) (by simp) (by simp) (by simp)<|cutA 18 0 [(0,.str s1),(1,.str prefix2)] [] ?_
 obtain⟨b14,q15,h⟩:=bs h
 refine cut 18 0 [(4,.bool b14)] [] ?_ ?_
 ·rcases sp q15 with ⟨g3,q15⟩|⟨g3,q15⟩
  ·have c4:=leT g3
   refine zJP 1 rfl fun f5=>?_
   refine zJP 0 rfl fun f6=>?_
   obtain⟨s7,q8,q15⟩:=bs q15
   obtain⟨q9,q10⟩:=zIs q8
   try simp at q9
   try simp at q10
   obtain rfl:=oi q15
   refine st ?_
   simp[g3,q9,q10]
  have c11:=leF g3
  refine zJP 1 rfl fun f12=>?_
  refine zJP 0 rfl fun f13=>?_
  obtain rfl:=oi q15
  refine st ?_
  simp[g3]
 refine zAB ?_
 obtain rfl:=oi h
 simp
theorem zGy(s1:(List UInt8))(prefix2:(List UInt8))(r:(List UInt8)×Bool)(h:zC0 s1 prefix2=some r):Pure Tryz.prog 215 [.str s1,.str prefix2] (.tup [.str r.1,.bool r.2]):=by
 rw[zC0] at h
 refine zAA Tryz.func215 (by rfl) (by rfl) (by simp) (by simp) (by simp)<|cutA 15 0 [(0,.str s1),(1,.str prefix2)] []<|zAD ?_
 obtain⟨v3,q4,h⟩:=bs h
 refine cut 15 0 [(0,.str s1),(1,.str prefix2),(9,.bool (!v3))] [] ?_ ?_
 ·refine st ?_
  simp
  have r12:=zGx s1 prefix2 v3 q4
  try simp at r12
  refine cP r12 ?_
  simp
 refine spc h rfl (fun g5 h=>?_) fun g5 h=>?_
 ·have g6:=notT g5
  refine cutA 15 0 [(4,.str s1),(5,.bool false)] []<|zAB<|zAE ?_
  obtain rfl:=oi h
  simp
 have g7:=notF g5
 refine zAC<|zAH ?_
 obtain⟨s8,q9,h⟩:=bs h
 obtain⟨q10,q11⟩:=zIs q9
 try simp at q10
 try simp at q11
 refine cut 15 0 [(4,.str s8),(5,.bool true)] [] (st (by simp[q10,q11]))<|zAB ?_
 obtain rfl:=oi h
 simp
theorem zIO(s1:(List UInt8))(prefix2:(List UInt8))(r:(List UInt8)×Bool)(h:zDA s1 prefix2=some r):Pure Tryz.prog 199 [.str s1,.str prefix2] (.tup [.str r.1,.bool r.2]):=by
 rw[zDA] at h
 refine zAA Tryz.func199 (by rfl) (by rfl) (by simp) (by simp) (by simp)<|cutA 11 0 [(0,.str s1),(1,.str prefix2)] [] ?_
 obtain⟨v3,q4,h⟩:=bs h
 refine cut 11 0 [(4,.str v3.1),(5,.bool v3.2)] [] ?_ ?_
 ·refine st ?_
  simp
  have r5:=zGy s1 prefix2 v3 q4
  try simp at r5
  refine cP r5 ?_
  simp
 refine zAB ?_
 obtain rfl:=oi h
 simp
theorem zHV(fuel:Nat)(s1:(List (List UInt8)))(v2:(List UInt8))(r:Int)(h:zDT fuel s1 v2=some r):Pure Tryz.prog 250 [.sl (s1.map cS),.str v2] (iI r):=by
 rw[zDT] at h
 refine zAA Tryz.func250 (by rfl) (by rfl) (by simp) (by simp) (by simp)<|cutA 19 0 [(0,.sl (s1.map cS)),(1,.str v2)] []<|zAD<|cutA 19 0 [(0,.sl (s1.map cS)),(1,.str v2),(7,iI s1.length),(8,iI 0)] []<|zAF ?_
 obtain⟨o5,l6,h⟩:=bs h
 refine zAm (fun p:Nat×Nat=>mkS 19 0 [(0,.sl (s1.map cS)),(1,.str v2),(7,iI s1.length),(8,iI p.2)] []) (fun p=>zAy s1 v2 p.1 p.2=some o5) (fun p=>p.1) (fuel,0) l6 (zAL (by simp)) ?_
 rintro⟨k7,i3⟩ l6
 try dsimp only at l6 ⊢
 cases k7 with
 |zero=>
  rw[zAy] at l6;cases l6
 |succ k8=>
  rw[zAy] at l6
  refine cutA 19 0 [(0,.sl (s1.map cS)),(1,.str v2),(7,iI s1.length),(8,iI i3),(9,.bool (ltI i3 s1.length))] []<|zAD<|spc l6 rfl (fun g9 l6=>?_) fun g9 l6=>?_
  ·have c10:=ltT g9
   refine zCA 0 rfl fun f11=>?_
   rw[zq4] at f11
   refine zAC<|zAH<|zAD<|zAF<|cutA 19 0 [(0,.sl (s1.map cS)),(1,.str v2),(5,iI i3),(7,iI s1.length),(8,iI i3)] [] ?_
   obtain⟨x12,q13,l6⟩:=bs l6
   refine cut 19 0 [(0,.sl (s1.map cS)),(1,.str v2),(5,iI i3),(7,iI s1.length),(8,iI i3),(16,.bool (eqS v2 x12))] [] (st (by simp[q13]))<|spc l6 rfl (fun g14 l6=>?_) fun g14 l6=>?_
   ·refine cutA 19 0 [(4,iI i3)] []<|zAB<|zAK<|zAE ?_
    replace h:=retL l6 h
    refine zAE<|zAK<|zAE ?_
    obtain rfl:=oi h
    simp
   refine zAC<|zC1<|zAH ?_
   have q15:Rng .i64 (((i3:Nat):Int)+1):=by simp only[Rng,inR];omega
   try simp at q15
   refine last 19 0 [(0,.sl (s1.map cS)),(1,.str v2),(7,iI s1.length),(8,iI ((i3+1:Nat):Int))] [] (st (by simp[q15])) fun zz hs=>?_
   exact⟨(k8,i3+1),hs,l6,by simp⟩
  have c16:=ltF g9
  refine zCA 0 rfl fun f17=>?_
  rw[zq4] at f17
  refine zAQ<|zAG ?_
  rcases o5 with o5|o4
  ·cases l6
  have q18:=Sum.inr.inj (zqa l6)
  replace h:=zF0 h
  refine zAG<|zAS<|zAM (t:=mkS 19 0 [] []) ?_ (zAL (by simp))
  refine cutA 19 0 [(4,iI (-1))] []<|zAB ?_
  obtain rfl:=oi h
  simp
theorem zGe(fuel:Nat)(s1:(List (List UInt8)))(v2:(List UInt8))(r:Bool)(h:zBh fuel s1 v2=some r):Pure Tryz.prog 239 [.sl (s1.map cS),.str v2] (.bool r):=by
 rw[zBh] at h
 refine zAA Tryz.func239 (by rfl) (by rfl) (by simp) (by simp) (by simp)<|cutA 9 0 [(0,.sl (s1.map cS)),(1,.str v2)] [] ?_
 obtain⟨v3,q4,h⟩:=bs h
 refine cut 9 0 [(4,.bool (leI 0 v3))] [] ?_ ?_
 ·refine st ?_
  simp
  have r5:=zHV fuel s1 v2 v3 q4
  try simp at r5
  refine cP r5 ?_
  simp
 refine zAB ?_
 obtain rfl:=oi h
 simp
theorem ident_word_ok(fuel:Nat)(s1:(List UInt8))(r:Bool)(h:zGI fuel s1=some r):Pure Tryz.prog 225 [.str s1] (.bool r):=by
 rw[zGI] at h
 refine zAA Tryz.func225 (by rfl) (by rfl) (by simp) (by simp) (by simp)<|cutA 6 0 [(0,.str s1)] [] ?_
 obtain⟨v2,q3,h⟩:=bs h
 obtain⟨v4,q5,h⟩:=bs h
 refine cut 6 0 [(2,.bool v4)] [] ?_ ?_
 ·refine st ?_
  simp
  have r6:=zHN [97,110,100,97,108,115,111,32,99,97,115,101,32,100,97,116,97,32,100,105,118,32,101,108,115,101,32,101,110,100,32,102,110,32,102,117,110,32,102,117,110,99,116,111,114,32,103,101,110,101,114,97,116,105,118,101,32,105,102,32,105,109,112,111,114,116,32,105,110,32,105,110,99,108,117,100,101,32,108,101,116,32,109,111,100,32,109,111,100,117,108,101,32,111,102,32,111,112,101,110,32,111,114,101,108,115,101,32,112,97,99,107,32,115,104,97,114,105,110,103,32,115,105,103,32,115,105,103,110,97,116,117,114,101,32,115,116,114,117,99,116,32,115,116,114,117,99,116,117,114,101,32,116,104,101,110,32,116,121,112,101,32,117,110,112,97,99,107,32,118,97,108,32,119,105,116,104] v2 q3
  try simp at r6
  refine cP r6 ?_
  simp
  have r7:=zGe fuel v2 s1 v4 q5
  try simp at r7
  refine cP r7 ?_
  simp
 refine zAB ?_
 obtain rfl:=oi h
 simp
theorem zKe(fuel:Nat)(s1:(List UInt8))(r:Bool)(h:zEY fuel s1=some r):Pure Tryz.prog 216 [.str s1] (.bool r):=by
 rw[zEY] at h
 refine zAA Tryz.func216 (by rfl) (by rfl) (by simp) (by simp) (by simp)<|cutA 10 0 [(0,.str s1)] [] ?_
 obtain⟨b7,q8,h⟩:=bs h
 refine cut 10 0 [(2,.bool b7)] [] ?_ ?_
 ·obtain⟨v2,q3,q8⟩:=bs q8
  rcases sp q8 with ⟨g4,q8⟩|⟨g4,q8⟩
  ·obtain⟨v5,q6,q8⟩:=bs q8
   obtain rfl:=oi q8
   refine st ?_
   simp[g4]
   have r9:=zHm fuel s1 1 v2 q3
   try simp[g4] at r9
   refine cP r9 ?_
   simp[g4]
   have r10:=ident_word_ok fuel s1 v5 q6
   try simp[g4] at r10
   refine cP r10 ?_
   simp[g4]
  obtain rfl:=oi q8
  refine st ?_
  simp[g4]
  have r11:=zHm fuel s1 1 v2 q3
  try simp[g4] at r11
  refine cP r11 ?_
  simp[g4]
 refine zAB ?_
 obtain rfl:=oi h
 simp
theorem ident_fits_ok(fuel:Nat)(kind1:Int)(zKy:(List UInt8))(r:Bool)(h:zGJ fuel kind1 zKy=some r):Pure Tryz.prog 201 [iI kind1,.str zKy] (.bool r):=by
 rw[zGJ] at h
 refine zAA Tryz.func201 (by rfl) (by rfl) (by simp) (by simp) (by simp)<|cutA 15 0 [(0,iI kind1),(1,.str zKy)] []<|zAD<|cut 15 0 [(1,.str zKy),(10,.bool ((eqI kind1 1)||(eqI kind1 2)))] [] ?_ ?_
 ·rcases tf (eqI kind1 1) with g3|g3
  ·have c4:=eqT g3
   refine st ?_
   simp[g3]
  have c5:=eqF g3
  refine st ?_
  simp[g3]
 rcases sp h with ⟨g6,h⟩|⟨g6,h⟩
 ·refine zEk rfl g6 ?_
  obtain⟨v7,q8,h⟩:=bs h
  refine cut 15 0 [(4,.bool v7)] [] ?_ ?_
  ·refine st ?_
   simp
   have r9:=zKe fuel zKy v7 q8
   try simp at r9
   refine cP r9 ?_
   simp
  refine zAB<|zAE ?_
  obtain rfl:=oi h
  simp
 obtain⟨g10,g11⟩:=orF g6
 have c12:=eqF g10
 have c13:=eqF g11
 refine zEc rfl g6<|zAC<|zAH ?_
 obtain⟨v14,q15,h⟩:=bs h
 refine cut 15 0 [(4,.bool v14)] [] ?_ ?_
 ·refine st ?_
  simp
  have r16:=zD2 fuel zKy v14 q15
  try simp at r16
  refine cP r16 ?_
  simp
 refine zAB ?_
 obtain rfl:=oi h
 simp
theorem zMH(fuel:Nat)(label1:(List UInt8))(r:Int×(List UInt8)×Int)(h:zFn fuel label1=some r):Pure Tryz.prog 169 [.str label1] (.tup [iI r.1,.str r.2.1,iI r.2.2]):=by
 rw[zFn] at h
 refine zAA Tryz.func169 (by rfl) (by rfl) (by simp) (by simp) (by simp)<|cutA 27 0 [(0,.str label1)] []<|zAD<|cutA 27 0 [(0,.str label1),(5,iI 1)] []<|zAF ?_
 obtain⟨o4,l5,h⟩:=bs h
 refine zAm (fun p:Nat×Nat=>mkS 27 0 [(0,.str label1),(5,iI p.2)] []) (fun p=>zCP fuel label1 p.1 p.2=some o4) (fun p=>p.1) (fuel,1) l5 (zAL (by simp)) ?_
 rintro⟨k6,kind2⟩ l5
 try dsimp only at l5 ⊢
 cases k6 with
 |zero=>
  rw[zCP] at l5;cases l5
 |succ k7=>
  rw[zCP] at l5
  refine zAD<|cutA 27 0 [(0,.str label1),(5,iI kind2),(9,.bool (leI kind2 5))] []<|spc l5 rfl (fun g8 l5=>?_) fun g8 l5=>?_
  ·have c9:=leT g8
   refine zAC<|zAH<|zAD<|zAF ?_
   obtain⟨v10,q11,l5⟩:=bs l5
   obtain⟨v12,q13,l5⟩:=bs l5
   refine cut 27 0 [(0,.str label1),(5,iI kind2),(6,.str v12.1),(7,.bool v12.2)] [] ?_ ?_
   ·refine st ?_
    simp
    have r22:=zK3 ((kind2:Nat):Int) v10 q11
    try simp at r22
    refine cP r22 ?_
    simp
    have r23:=zIO label1 v10 v12 q13
    try simp at r23
    refine cP r23 ?_
    simp
   obtain⟨b17,q18,l5⟩:=bs l5
   refine cut 27 0 [(0,.str label1),(5,iI kind2),(6,.str v12.1),(24,.bool b17)] [] ?_ ?_
   ·rcases sp q18 with ⟨g14,q18⟩|⟨g14,q18⟩
    ·obtain⟨v15,q16,q18⟩:=bs q18
     obtain rfl:=oi q18
     refine st ?_
     simp[g14]
     have r21:=ident_fits_ok fuel ((kind2:Nat):Int) v12.1 v15 q16
     try simp[g14] at r21
     refine cP r21 ?_
     simp[g14]
    obtain rfl:=oi q18
    refine st ?_
    simp[g14]
   refine spc l5 rfl (fun g19 l5=>?_) fun g19 l5=>?_
   ·refine cutA 27 0 [(2,iI kind2),(3,.str v12.1),(4,iI 0)] []<|zAB<|zAK<|zAE ?_
    replace h:=retL l5 h
    refine zAE<|zAK<|zAE ?_
    obtain rfl:=oi h
    simp
   refine zAC<|zC1<|zAH ?_
   have q20:Rng .i64 (((kind2:Nat):Int)+1):=by simp only[Rng,inR];omega
   try simp at q20
   refine last 27 0 [(0,.str label1),(5,iI ((kind2+1:Nat):Int))] [] (st (by simp[q20])) fun zz hs=>?_
   exact⟨(k7,kind2+1),hs,l5,by simp⟩
  have c24:=leF g8
  refine zAQ<|zAG ?_
  rcases o4 with o4|o3
  ·cases l5
  have q25:=Sum.inr.inj (zqa l5)
  replace h:=zF0 h
  refine zAG<|zAS<|zAM (t:=mkS 27 0 [] []) ?_ (zAL (by simp))
  refine cutA 27 0 [(2,iI 0),(3,.str ([]:List UInt8)),(4,iI 3)] []<|zAB ?_
  obtain rfl:=oi h
  simp
theorem sem_fits_ok(fuel:Nat)(label1:(List UInt8))(s2:zMa)(r:Bool)(h:zGr fuel label1 s2=some r):Pure Tryz.prog 132 [.str label1,.agg (zMa.d s2)] (.bool r):=by
 rw[zGr] at h
 refine zAA Tryz.func132 (by rfl) (by rfl) (by simp) (by simp) (by simp)<|cutA 45 0 [(0,.str label1),(3,pT 0)] [(zMa.d s2)] ?_
 obtain⟨v3,q4,h⟩:=bs h
 refine cut 45 0 [(3,pT 0),(5,iI v3.1),(6,.str v3.2.1),(7,iI v3.2.2)] [(zMa.d s2)] ?_ ?_
 ·refine st ?_
  simp
  have r28:=zMH fuel label1 v3 q4
  try simp at r28
  refine cP r28 ?_
  simp
 refine zAD<|cutA 45 0 [(3,pT 0),(5,iI v3.1),(6,.str v3.2.1),(15,.bool (!(eqI v3.2.2 0)))] [(zMa.d s2)] ?_
 rcases sp h with ⟨g5,h⟩|⟨g5,h⟩
 ·have g6:=notT g5
  have c7:=eqF g6
  refine zEk rfl g5<|cutA 45 0 [(4,.bool false)] [(zMa.d s2)]<|zAB<|zAE ?_
  obtain rfl:=oi h
  simp
 have g8:=notF g5
 have c9:=eqT g8
 refine zEc rfl g5<|zAC<|zAH<|zAD<|cutA 45 0 [(3,pT 0),(6,.str v3.2.1),(16,iI v3.1)] [(zMa.d s2)]<|zAF<|cutA 45 0 [(3,pT 0),(6,.str v3.2.1),(16,iI v3.1),(17,.bool (eqI v3.1 1))] [(zMa.d s2)] ?_
 refine spc h rfl (fun g10 h=>?_) fun g10 h=>?_
 ·have c11:=eqT g10
  refine cutA 45 0 [(4,.bool (eqI s2.Op 1))] [(zMa.d s2)]<|zAB<|zAK<|zAE ?_
  obtain rfl:=oi h
  simp
 have c12:=eqF g10
 refine cutA 45 0 [(3,pT 0),(6,.str v3.2.1),(16,iI v3.1),(22,.bool (eqI v3.1 2))] [(zMa.d s2)]<|spc h rfl (fun g13 h=>?_) fun g13 h=>?_
 ·have c14:=eqT g13
  refine cutA 45 0 [(4,.bool (eqI s2.Op 2))] [(zMa.d s2)]<|zAB<|zAK<|zAE ?_
  obtain rfl:=oi h
  simp
 have c15:=eqF g13
 refine cutA 45 0 [(3,pT 0),(6,.str v3.2.1),(16,iI v3.1),(27,.bool (eqI v3.1 3))] [(zMa.d s2)]<|spc h rfl (fun g16 h=>?_) fun g16 h=>?_
 ·have c17:=eqT g16
  refine cut 45 0 [(4,.bool ((eqI s2.Op 3)&&(eqS s2.S v3.2.1)))] [(zMa.d s2)] ?_ ?_
  ·rcases tf (eqI s2.Op 3) with g18|g18
   ·have c19:=eqT g18
    refine st ?_
    simp[g18]
   have c20:=eqF g18
   refine st ?_
   simp[g18]
  refine zAB<|zAK<|zAE ?_
  obtain rfl:=oi h
  simp
 have c21:=eqF g16
 refine cutA 45 0 [(3,pT 0),(38,.bool (eqI v3.1 4))] [(zMa.d s2)]<|spc h rfl (fun g22 h=>?_) fun g22 h=>?_
 ·have c23:=eqT g22
  obtain⟨v24,q25,h⟩:=bs h
  refine cut 45 0 [(4,.bool v24)] [(zMa.d s2)] ?_ ?_
  ·refine st ?_
   simp
   have r26:=zFY s2 v24 q25
   try simp at r26
   refine cP r26 ?_
   simp
  refine zAB<|zAK<|zAE ?_
  obtain rfl:=oi h
  simp
 have c27:=eqF g22
 refine zAC<|zC1<|zAH<|cutA 45 0 [(4,.bool (eqI s2.Op 4))] [(zMa.d s2)]<|zAB ?_
 obtain rfl:=oi h
 simp
theorem zIP(fuel:Nat)(s1:zMa)(r:Bool)(h:zGq fuel s1=some r):Pure Tryz.prog 99 [.agg (zMa.d s1)] (.bool r):=by
 rw[zGq] at h
 refine zAA Tryz.func99 (by rfl) (by rfl) (by simp) (by simp) (by simp)<|cutA 86 0 [(1,pT 0)] [(zMa.d s1)]<|zAD<|cutA 86 0 [(1,pT 0),(6,iI s1.Op)] [(zMa.d s1)]<|zAF ?_
 obtain⟨j2,l3,h⟩:=bs h
 refine zLO 86 0 [(1,pT 0),(6,iI s1.Op),(7,.bool j2)] [(zMa.d s1)] (fun jj=>?_) ?_
 ·refine cutA 86 0 [(1,pT 0),(6,iI s1.Op),(7,.bool (eqI s1.Op 1))] [(zMa.d s1)]<|spc l3 rfl (fun g4 l3=>?_) fun g4 l3=>?_
  ·refine zAC ?_
   obtain rfl:=oi l3
   exact zAM jj (zAL (by simp))
  refine cutA 86 0 [(1,pT 0),(6,iI s1.Op),(7,.bool (eqI s1.Op 2))] [(zMa.d s1)]<|spc l3 rfl (fun g7 l3=>?_) fun g7 l3=>?_
  ·refine zAC ?_
   obtain rfl:=oi l3
   exact zAM jj (zAL (by simp))
  refine last 86 0 [(1,pT 0),(6,iI s1.Op),(7,.bool (eqI s1.Op 3))] [(zMa.d s1)] (st (by simp)) fun zz hs=>?_
  obtain rfl:=oi l3
  exact zAM jj hs
 refine spc h rfl (fun g10 h=>?_) fun g10 h=>?_
 ·refine cutA 86 0 [(2,.bool (eqI s1.L.length 0))] [(zMa.d s1)]<|zAB<|zAK<|zAE ?_
  obtain rfl:=oi h
  simp
 refine cutA 86 0 [(1,pT 0),(6,iI s1.Op),(15,.bool (eqI s1.Op 4))] [(zMa.d s1)]<|spc h rfl (fun g11 h=>?_) fun g11 h=>?_
 ·obtain⟨b20,q21,h⟩:=bs h
  refine cut 86 0 [(2,.bool b20)] [(zMa.d s1)] ?_ ?_
  ·rcases sp q21 with ⟨g13,q21⟩|⟨g13,q21⟩
   ·have c14:=eqT g13
    obtain⟨x15,q16,q21⟩:=bs q21
    obtain⟨v17,q18,q21⟩:=bs q21
    obtain rfl:=oi q21
    refine st ?_
    simp[g13,q16]
    have r22:=zFY x15 v17 q18
    try simp[g13,q16] at r22
    refine cP r22 ?_
    simp[g13,q16]
   have c19:=eqF g13
   obtain rfl:=oi q21
   refine st ?_
   simp[g13]
  refine zAB<|zAK<|zAE ?_
  obtain rfl:=oi h
  simp
 refine cutA 86 0 [(1,pT 0),(6,iI s1.Op),(28,.bool (eqI s1.Op 6))] [(zMa.d s1)]<|spc h rfl (fun g24 h=>?_) fun g24 h=>?_
 ·obtain⟨b38,q39,h⟩:=bs h
  refine cut 86 0 [(2,.bool b38)] [(zMa.d s1)] ?_ ?_
  ·rcases sp q39 with ⟨g26,q39⟩|⟨g26,q39⟩
   ·have c27:=eqT g26
    obtain⟨x28,q29,q39⟩:=bs q39
    obtain⟨v30,q31,q39⟩:=bs q39
    rcases sp q39 with ⟨g32,q39⟩|⟨g32,q39⟩
    ·obtain⟨x33,q34,q39⟩:=bs q39
     obtain⟨v35,q36,q39⟩:=bs q39
     obtain rfl:=oi q39
     refine st ?_
     simp[g26,q29,g32,q34]
     have r40:=zFY x28 v30 q31
     try simp[g26,q29,g32,q34] at r40
     refine cP r40 ?_
     simp[g26,q29,g32,q34]
     have r41:=zFY x33 v35 q36
     try simp[g26,q29,g32,q34] at r41
     refine cP r41 ?_
     simp[g26,q29,g32,q34]
    obtain rfl:=oi q39
    refine st ?_
    simp[g26,q29,g32]
    have r42:=zFY x28 v30 q31
    try simp[g26,q29,g32] at r42
    refine cP r42 ?_
    simp[g26,q29,g32]
   have c37:=eqF g26
   obtain rfl:=oi q39
   refine st ?_
   simp[g26]
  refine zAB<|zAK<|zAE ?_
  obtain rfl:=oi h
  simp
 refine cutA 86 0 [(1,pT 0),(48,.bool (eqI s1.Op 5))] [(zMa.d s1)]<|spc h rfl (fun g44 h=>?_) fun g44 h=>?_
 ·refine zAD ?_
  obtain⟨b58,q59,h⟩:=bs h
  refine cut 86 0 [(1,pT 0),(68,.bool b58)] [(zMa.d s1)] ?_ ?_
  ·rcases sp q59 with ⟨g46,q59⟩|⟨g46,q59⟩
   ·have g47:=notT g46
    have c48:=eqF g47
    obtain rfl:=oi q59
    refine st ?_
    simp[g46]
   have g49:=notF g46
   have c50:=eqT g49
   rcases sp q59 with ⟨g51,q59⟩|⟨g51,q59⟩
   ·have c52:=ltT g51
    refine zCB 0 12 rfl rfl rfl fun f53=>?_
    rw[zq4] at f53
    obtain rfl:=oi q59
    refine st ?_
    simp[g46,g51]
   have c54:=ltF g51
   refine zCB 0 12 rfl rfl rfl fun f55=>?_
   rw[zq4] at f55
   obtain⟨v56,q57,q59⟩:=bs q59
   obtain rfl:=oi q59
   refine st ?_
   simp[g46,g51]
   have r84:=zFG fuel s1.Names v56 q57
   try simp[g46,g51] at r84
   refine cP r84 ?_
   simp[g46,g51]
  refine spc h rfl (fun g60 h=>?_) fun g60 h=>?_
  ·refine cutA 86 0 [(2,.bool false)] [(zMa.d s1)]<|zAB<|zAE<|zAK<|zAE ?_
   obtain rfl:=oi h
   simp
  refine zAC<|zAH<|zAD<|cutA 86 0 [(1,pT 0),(70,.sl (s1.Names.map cS)),(71,iI s1.Names.length),(72,iI 0)] [(zMa.d s1)]<|zAF ?_
  obtain⟨o63,l64,h⟩:=bs h
  refine zAm (fun p:Nat×Nat=>mkS 86 0 [(1,pT 0),(70,.sl (s1.Names.map cS)),(71,iI s1.Names.length),(72,iI p.2)] [(zMa.d s1)]) (fun p=>zDk fuel s1 p.1 p.2=some o63) (fun p=>p.1) (fuel,0) l64 (zAL (by simp)) ?_
  rintro⟨k65,i61⟩ l64
  try dsimp only at l64 ⊢
  cases k65 with
  |zero=>
   rw[zDk] at l64;cases l64
  |succ k66=>
   rw[zDk] at l64
   refine cutA 86 0 [(1,pT 0),(70,.sl (s1.Names.map cS)),(71,iI s1.Names.length),(72,iI i61),(73,.bool (ltI i61 s1.Names.length))] [(zMa.d s1)]<|zAD<|spc l64 rfl (fun g67 l64=>?_) fun g67 l64=>?_
   ·have c68:=ltT g67
    refine zCA 70 rfl fun f69=>?_
    rw[zq4] at f69
    refine zAC<|zAH<|zAD<|zAF ?_
    obtain⟨x70,q71,l64⟩:=bs l64
    refine cut 86 0 [(1,pT 0),(3,iI i61),(4,.str x70),(70,.sl (s1.Names.map cS)),(71,iI s1.Names.length),(72,iI i61)] [(zMa.d s1)] (st (by simp[q71])) ?_
    obtain⟨x72,q73,l64⟩:=bs l64
    obtain⟨v74,q75,l64⟩:=bs l64
    refine cut 86 0 [(1,pT 0),(70,.sl (s1.Names.map cS)),(71,iI s1.Names.length),(72,iI i61),(84,.bool (!v74))] [(zMa.d s1)] ?_ ?_
    ·refine st ?_
     simp[q73]
     have r80:=sem_fits_ok fuel x70 x72 v74 q75
     try simp[q73] at r80
     refine cP r80 ?_
     simp[q73]
    refine spc l64 rfl (fun g76 l64=>?_) fun g76 l64=>?_
    ·have g77:=notT g76
     refine cutA 86 0 [(2,.bool false)] [(zMa.d s1)]<|zAB<|zAK<|zAE ?_
     replace h:=retL l64 h
     refine zAE<|zAK<|zAE<|zAK<|zAE ?_
     obtain rfl:=oi h
     simp
    have g78:=notF g76
    refine zAC<|zC1<|zAH ?_
    have q79:Rng .i64 (((i61:Nat):Int)+1):=by simp only[Rng,inR];omega
    try simp at q79
    refine last 86 0 [(1,pT 0),(70,.sl (s1.Names.map cS)),(71,iI s1.Names.length),(72,iI ((i61+1:Nat):Int))] [(zMa.d s1)] (st (by simp[q79])) fun zz hs=>?_
    exact⟨(k66,i61+1),hs,l64,by simp⟩
   have c81:=ltF g67
   refine zCA 70 rfl fun f82=>?_
   rw[zq4] at f82
   refine zAQ<|zAG ?_
   rcases o63 with o63|o62
   ·cases l64
   have q83:=Sum.inr.inj (zqa l64)
   replace h:=zF0 h
   refine zAG<|zAS<|zAM (t:=mkS 86 0 [] [(zMa.d s1)]) ?_ (zAL (by simp))
   refine cutA 86 0 [(2,.bool true)] [(zMa.d s1)]<|zAB<|zAK<|zAE ?_
   obtain rfl:=oi h
   simp
 refine zAC<|zC1<|zAH<|cutA 86 0 [(2,.bool false)] [(zMa.d s1)]<|zAB ?_
 obtain rfl:=oi h
 simp
theorem kind_size_ok(fuel:Nat):(∀(k1:zMY)(left2:Int)(depth3:Int)(r:Int×Bool)(_:zC4 fuel k1 left2 depth3=some r),Pure Tryz.prog 85 [.agg [.sl (k1.L.map zMY.c)],iI left2,iI depth3] (.tup [iI r.1,.bool r.2])):=by
 induction fuel with
 |zero=>intro k1 left2 depth3 r h;rw[zC4] at h;cases h
 |succ fuel ih_kind_size=>
  intro k1 left2 depth3 r h
  rw[zC4] at h
  refine zAA Tryz.func85 (by rfl) (by rfl) (by simp) (by simp) (by simp)<|cutA 55 0 [(1,iI left2),(2,iI depth3),(3,pT 0)] [[.sl (k1.L.map zMY.c)]]<|zAD<|cut 55 0 [(1,iI left2),(2,iI depth3),(3,pT 0),(30,.bool ((leI left2 0)||((ltI 400 depth3)||((!(eqI k1.L.length 0))&&(!(eqI k1.L.length 2))))))] [[.sl (k1.L.map zMY.c)]] ?_ ?_
  ·rcases tf (leI left2 0) with g4|g4
   ·have c5:=leT g4
    refine st ?_
    simp[g4]
   have c6:=leF g4
   rcases tf (ltI 400 depth3) with g7|g7
   ·have c8:=ltT g7
    refine st ?_
    simp[g4,g7]
   have c9:=ltF g7
   rcases tf (!(eqI k1.L.length 0)) with g10|g10
   ·have g11:=notT g10
    have c12:=eqF g11
    refine st ?_
    simp[g4,g7,g10]
   have g13:=notF g10
   have c14:=eqT g13
   refine st ?_
   simp[g4,g7,g10]
  rcases sp h with ⟨g15,h⟩|⟨g15,h⟩
  ·refine zEk rfl g15<|cutA 55 0 [(6,iI 0),(7,.bool false)] [[.sl (k1.L.map zMY.c)]]<|zAB<|zAE ?_
   obtain rfl:=oi h
   simp
  obtain⟨g16,g17⟩:=orF g15
  have c18:=leF g16
  obtain⟨g19,g20⟩:=orF g17
  have c21:=ltF g19
  refine zEc rfl g15<|zAC<|zAH<|cutA 55 0 [(1,iI left2),(2,iI depth3),(3,pT 0),(8,iI 1)] [[.sl (k1.L.map zMY.c)]]<|zAD<|cutA 55 0 [(1,iI left2),(2,iI depth3),(8,iI 1),(32,.sl (k1.L.map zMY.c)),(33,iI k1.L.length),(34,iI 0)] [[.sl (k1.L.map zMY.c)]]<|zAF ?_
  obtain⟨o25,l26,h⟩:=bs h
  refine zAm (fun p:Nat×Int×Nat=>mkS 55 0 [(1,iI left2),(2,iI depth3),(8,iI p.2.1),(32,.sl (k1.L.map zMY.c)),(33,iI k1.L.length),(34,iI p.2.2)] [[.sl (k1.L.map zMY.c)]]) (fun p=>zBx (zC4 fuel) k1 left2 depth3 p.1 p.2.1 p.2.2=some o25) (fun p=>p.1) (fuel,1,0) l26 (zAL (by simp)) ?_
  rintro⟨k27,n22,i23⟩ l26
  try dsimp only at l26 ⊢
  cases k27 with
  |zero=>
   rw[zBx] at l26;cases l26
  |succ k28=>
   rw[zBx] at l26
   refine cutA 55 0 [(1,iI left2),(2,iI depth3),(8,iI n22),(32,.sl (k1.L.map zMY.c)),(33,iI k1.L.length),(34,iI i23),(35,.bool (ltI i23 k1.L.length))] [[.sl (k1.L.map zMY.c)]]<|zAD<|spc l26 rfl (fun g29 l26=>?_) fun g29 l26=>?_
   ·have c30:=ltT g29
    refine zCA 32 rfl fun f31=>?_
    rw[zq4] at f31
    refine zAC<|zAH<|zAD<|zAF ?_
    obtain⟨x32,q33,l26⟩:=bs l26
    refine cut 55 0 [(1,iI left2),(2,iI depth3),(8,iI n22),(10,pT 1),(32,.sl (k1.L.map zMY.c)),(33,iI k1.L.length),(34,iI i23)] [[.sl (k1.L.map zMY.c)],[.sl (x32.L.map zMY.c)]] (st (by simp[q33])) ?_
    obtain⟨n34,q35,l26⟩:=bs l26
    obtain⟨q36,q37⟩:=zBj q35
    try simp at q36
    try simp at q37
    have c38:=q36;simp only[Rng,inR] at c38
    obtain⟨n39,q40,l26⟩:=bs l26
    obtain⟨q41,q42⟩:=zBj q40
    try simp at q41
    try simp at q42
    have c43:=q41;simp only[Rng,inR] at c43
    obtain⟨v44,q45,l26⟩:=bs l26
    refine cut 55 0 [(1,iI left2),(2,iI depth3),(8,iI n22),(11,iI v44.1),(12,.bool v44.2),(32,.sl (k1.L.map zMY.c)),(33,iI k1.L.length),(34,iI i23)] [[.sl (k1.L.map zMY.c)],[.sl (x32.L.map zMY.c)]] ?_ ?_
    ·refine st ?_
     simp[q36,q37,q41,q42]
     have r55:=ih_kind_size x32 n34 n39 v44 q45
     try simp[q36,q37,q41,q42] at r55
     refine cP r55 ?_
     simp[q36,q37,q41,q42]
    refine zAD<|cutA 55 0 [(1,iI left2),(2,iI depth3),(8,iI n22),(11,iI v44.1),(32,.sl (k1.L.map zMY.c)),(33,iI k1.L.length),(34,iI i23),(49,.bool (!v44.2))] [[.sl (k1.L.map zMY.c)],[.sl (x32.L.map zMY.c)]]<|spc l26 rfl (fun g46 l26=>?_) fun g46 l26=>?_
    ·have g47:=notT g46
     refine cutA 55 0 [(6,iI 0),(7,.bool false)] [[.sl (k1.L.map zMY.c)],[.sl (x32.L.map zMY.c)]]<|zAB<|zAE<|zAK<|zAE ?_
     replace h:=retL l26 h
     refine zAE<|zAK<|zAE ?_
     obtain rfl:=oi h
     simp
    have g48:=notF g46
    refine zAC<|zAH ?_
    obtain⟨n49,q50,l26⟩:=bs l26
    obtain⟨q51,q52⟩:=zBj q50
    try simp at q51
    try simp at q52
    have c53:=q51;simp only[Rng,inR] at c53
    refine last 55 0 [(1,iI left2),(2,iI depth3),(8,iI n49),(32,.sl (k1.L.map zMY.c)),(33,iI k1.L.length),(34,iI i23)] [[.sl (k1.L.map zMY.c)],[.sl (x32.L.map zMY.c)]] (st (by simp[q51,q52])) fun zz hs=>?_
    refine zC1<|zAM ?_ hs
    have q54:Rng .i64 (((i23:Nat):Int)+1):=by simp only[Rng,inR];omega
    try simp at q54
    refine last 55 0 [(1,iI left2),(2,iI depth3),(8,iI n49),(32,.sl (k1.L.map zMY.c)),(33,iI k1.L.length),(34,iI ((i23+1:Nat):Int))] [[.sl (k1.L.map zMY.c)]] (st (by simp[q54])) fun zz hs=>?_
    exact⟨(k28,n49,i23+1),hs,l26,by simp⟩
   have c56:=ltF g29
   refine zCA 32 rfl fun f57=>?_
   rw[zq4] at f57
   refine zAQ<|zAG ?_
   rcases o25 with o25|o24
   ·cases l26
   have q58:=Sum.inr.inj (zqa l26)
   replace h:=zF0 h
   have q58:=q58.symm
   refine zAG<|zAS<|zAM (t:=mkS 55 0 [(8,iI o24)] [[.sl (k1.L.map zMY.c)]]) ?_ (zAL (by simp[q58]))
   refine cutA 55 0 [(6,iI o24),(7,.bool true)] [[.sl (k1.L.map zMY.c)]]<|zAB ?_
   obtain rfl:=oi h
   simp
theorem zDd(fuel:Nat)(k1:zMY)(r:Bool)(h:zBy fuel k1=some r):Pure Tryz.prog 52 [.agg [.sl (k1.L.map zMY.c)]] (.bool r):=by
 rw[zBy] at h
 refine zAA Tryz.func52 (by rfl) (by rfl) (by simp) (by simp) (by simp)<|cutA 11 0 [(1,pT 0)] [[.sl (k1.L.map zMY.c)]] ?_
 obtain⟨v2,q3,h⟩:=bs h
 refine cut 11 0 [(4,.bool v2.2)] [[.sl (k1.L.map zMY.c)]] ?_ ?_
 ·refine st ?_
  simp
  have r4:=kind_size_ok fuel k1 20000 1 v2 q3
  try simp at r4
  refine cP r4 ?_
  simp
 refine cutA 11 0 [(2,.bool v2.2)] [[.sl (k1.L.map zMY.c)]]<|zAB ?_
 obtain rfl:=oi h
 simp
theorem zLa(fuel:Nat):(∀(c1:zMZ)(r:Int)(_:zCd fuel c1=some r),Pure Tryz.prog 103 [.agg (zMZ.d c1)] (iI r)):=by
 induction fuel with
 |zero=>intro c1 r h;rw[zCd] at h;cases h
 |succ fuel zL9=>
  intro c1 r h
  rw[zCd] at h
  refine zAA Tryz.func103 (by rfl) (by rfl) (by simp) (by simp) (by simp)<|cutA 20 0 [(1,pT 0)] [(zMZ.d c1)]<|cutA 20 0 [(1,pT 0),(3,iI 0)] [(zMZ.d c1)]<|zAD<|cutA 20 0 [(3,iI 0),(7,.sl (c1.L.map zMZ.c)),(8,iI c1.L.length),(9,iI 0)] [(zMZ.d c1)]<|zAF ?_
  obtain⟨o4,l5,h⟩:=bs h
  refine zAm (fun p:Nat×Int×Nat=>mkS 20 0 [(3,iI p.2.1),(7,.sl (c1.L.map zMZ.c)),(8,iI c1.L.length),(9,iI p.2.2)] [(zMZ.d c1)]) (fun p=>zCt (zCd fuel) c1 p.1 p.2.1 p.2.2=some o4) (fun p=>p.1) (fuel,0,0) l5 (zAL (by simp)) ?_
  rintro⟨k6,n2,i3⟩ l5
  try dsimp only at l5 ⊢
  cases k6 with
  |zero=>
   rw[zCt] at l5;cases l5
  |succ k7=>
   rw[zCt] at l5
   refine cutA 20 0 [(3,iI n2),(7,.sl (c1.L.map zMZ.c)),(8,iI c1.L.length),(9,iI i3),(10,.bool (ltI i3 c1.L.length))] [(zMZ.d c1)]<|zAD<|spc l5 rfl (fun g8 l5=>?_) fun g8 l5=>?_
   ·have c9:=ltT g8
    refine zCA 7 rfl fun f10=>?_
    rw[zq4] at f10
    refine zAC<|zAH<|zAD<|zAF ?_
    obtain⟨x11,q12,l5⟩:=bs l5
    refine cut 20 0 [(3,iI n2),(5,pT 1),(7,.sl (c1.L.map zMZ.c)),(8,iI c1.L.length),(9,iI i3)] [(zMZ.d c1),(zMZ.d x11)] (st (by simp[q12])) ?_
    obtain⟨v13,q14,l5⟩:=bs l5
    refine last 20 0 [(3,iI (maxI n2 v13)),(7,.sl (c1.L.map zMZ.c)),(8,iI c1.L.length),(9,iI i3)] [(zMZ.d c1),(zMZ.d x11)] ?_ fun zz hs=>?_
    ·refine st ?_
     simp
     have r16:=zL9 x11 v13 q14
     try simp at r16
     refine cP r16 ?_
     simp
    refine zC1<|zAM ?_ hs
    have q15:Rng .i64 (((i3:Nat):Int)+1):=by simp only[Rng,inR];omega
    try simp at q15
    refine last 20 0 [(3,iI (maxI n2 v13)),(7,.sl (c1.L.map zMZ.c)),(8,iI c1.L.length),(9,iI ((i3+1:Nat):Int))] [(zMZ.d c1)] (st (by simp[q15])) fun zz hs=>?_
    exact⟨(k7,maxI n2 v13,i3+1),hs,l5,by simp⟩
   have c17:=ltF g8
   refine zCA 7 rfl fun f18=>?_
   rw[zq4] at f18
   refine zAQ<|zAG ?_
   have q19:=zqa l5
   have q19:=q19.symm
   refine zAG<|zAS<|zAM (t:=mkS 20 0 [(3,iI o4)] [(zMZ.d c1)]) ?_ (zAL (by simp[q19]))
   obtain⟨n20,q21,h⟩:=bs h
   obtain⟨q22,q23⟩:=zBj q21
   try simp at q22
   try simp at q23
   have c24:=q22;simp only[Rng,inR] at c24
   refine cut 20 0 [(2,iI n20)] [(zMZ.d c1)] (st (by simp[q22,q23]))<|zAB ?_
   obtain rfl:=oi h
   simp
theorem zHL(c1:zMZ)(r:Bool)(h:zBP c1=some r):Pure Tryz.prog 138 [.agg (zMZ.d c1)] (.bool r):=by
 rw[zBP] at h
 refine zAA Tryz.func138 (by rfl) (by rfl) (by simp) (by simp) (by simp)<|cutA 11 0 [(1,pT 0)] [(zMZ.d c1)]<|cut 11 0 [(2,.bool ((eqI c1.Op 7)||(eqI c1.Op 8)))] [(zMZ.d c1)] ?_ ?_
 ·rcases tf (eqI c1.Op 7) with g2|g2
  ·have c3:=eqT g2
   refine st ?_
   simp[g2]
  have c4:=eqF g2
  refine st ?_
  simp[g2]
 refine zAB ?_
 obtain rfl:=oi h
 simp
theorem zDq(c1:zMZ)(r:Bool)(h:zBf c1=some r):Pure Tryz.prog 119 [.agg (zMZ.d c1)] (.bool r):=by
 rw[zBf] at h
 refine zAA Tryz.func119 (by rfl) (by rfl) (by simp) (by simp) (by simp)<|cutA 21 0 [(1,pT 0)] [(zMZ.d c1)]<|cut 21 0 [(2,.bool ((eqI c1.Op 9)||((eqI c1.Op 10)||((eqI c1.Op 11)||(eqI c1.Op 13)))))] [(zMZ.d c1)] ?_ ?_
 ·rcases tf (eqI c1.Op 9) with g2|g2
  ·have c3:=eqT g2
   refine st ?_
   simp[g2]
  have c4:=eqF g2
  rcases tf (eqI c1.Op 10) with g5|g5
  ·have c6:=eqT g5
   refine st ?_
   simp[g2,g5]
  have c7:=eqF g5
  rcases tf (eqI c1.Op 11) with g8|g8
  ·have c9:=eqT g8
   refine st ?_
   simp[g2,g5,g8]
  have c10:=eqF g8
  refine st ?_
  simp[g2,g5,g8]
 refine zAB ?_
 obtain rfl:=oi h
 simp
theorem zLZ(c1:zMZ)(r:Int)(h:zCc c1=some r):Pure Tryz.prog 136 [.agg (zMZ.d c1)] (iI r):=by
 rw[zCc] at h
 refine zAA Tryz.func136 (by rfl) (by rfl) (by simp) (by simp) (by simp)<|cutA 30 0 [(1,pT 0)] [(zMZ.d c1)]<|zAD<|zAF<|cut 30 0 [(1,pT 0),(3,.bool ((ltI c1.Op 1)||(ltI 13 c1.Op)))] [(zMZ.d c1)] ?_ ?_
 ·rcases tf (ltI c1.Op 1) with g2|g2
  ·have c3:=ltT g2
   refine st ?_
   simp[g2]
  have c4:=ltF g2
  refine st ?_
  simp[g2]
 rcases sp h with ⟨g5,h⟩|⟨g5,h⟩
 ·refine zEk rfl g5<|cutA 30 0 [(2,iI (-1))] [(zMZ.d c1)]<|zAB<|zAK<|zAE ?_
  obtain rfl:=oi h
  simp
 obtain⟨g6,g7⟩:=orF g5
 have c8:=ltF g6
 have c9:=ltF g7
 refine zEc rfl g5 ?_
 obtain⟨v10,q11,h⟩:=bs h
 refine cut 30 0 [(1,pT 0),(12,.bool v10)] [(zMZ.d c1)] ?_ ?_
 ·refine st ?_
  simp
  have r25:=zHL c1 v10 q11
  try simp at r25
  refine cP r25 ?_
  simp
 refine spc h rfl (fun g12 h=>?_) fun g12 h=>?_
 ·refine cutA 30 0 [(2,iI c1.Names.length)] [(zMZ.d c1)]<|zAB<|zAK<|zAE ?_
  obtain rfl:=oi h
  simp
 obtain⟨v13,q14,h⟩:=bs h
 refine cut 30 0 [(1,pT 0),(18,.bool v13)] [(zMZ.d c1)] ?_ ?_
 ·refine st ?_
  simp
  have r24:=zDq c1 v13 q14
  try simp at r24
  refine cP r24 ?_
  simp
 refine spc h rfl (fun g15 h=>?_) fun g15 h=>?_
 ·refine cutA 30 0 [(2,iI 1)] [(zMZ.d c1)]<|zAB<|zAK<|zAE ?_
  obtain rfl:=oi h
  simp
 refine cut 30 0 [(21,.bool ((eqI c1.Op 6)||(eqI c1.Op 12)))] [(zMZ.d c1)] ?_ ?_
 ·rcases tf (eqI c1.Op 6) with g16|g16
  ·have c17:=eqT g16
   refine st ?_
   simp[g16]
  have c18:=eqF g16
  refine st ?_
  simp[g16]
 rcases sp h with ⟨g19,h⟩|⟨g19,h⟩
 ·refine zEk rfl g19<|cutA 30 0 [(2,iI 2)] [(zMZ.d c1)]<|zAB<|zAK<|zAE ?_
  obtain rfl:=oi h
  simp
 obtain⟨g20,g21⟩:=orF g19
 have c22:=eqF g20
 have c23:=eqF g21
 refine zEc rfl g19<|zAC<|zC1<|zAH<|cutA 30 0 [(2,iI 0)] [(zMZ.d c1)]<|zAB ?_
 obtain rfl:=oi h
 simp
theorem zJD(s1:(List UInt8))(sep2:(List UInt8))(r:(List UInt8)×(List UInt8)×Bool)(h:zEd s1 sep2=some r):Pure Tryz.prog 202 [.str s1,.str sep2] (.tup [.str r.1,.str r.2.1,.bool r.2.2]):=by
 rw[zEd] at h
 refine zAA Tryz.func202 (by rfl) (by rfl) (by simp) (by simp) (by simp)<|cutA 23 0 [(0,.str s1),(1,.str sep2)] []<|zAD ?_
 obtain⟨v3,q4,h⟩:=bs h
 refine cut 23 0 [(0,.str s1),(1,.str sep2),(7,iI v3)] [] ?_ ?_
 ·refine st ?_
  simp
  have r21:=zIN s1 sep2 v3 q4
  try simp at r21
  refine cP r21 ?_
  simp
 refine cutA 23 0 [(0,.str s1),(1,.str sep2),(7,iI v3),(12,.bool (leI 0 v3))] []<|spc h rfl (fun g5 h=>?_) fun g5 h=>?_
 ·have c6:=leT g5
  obtain⟨s7,q8,h⟩:=bs h
  obtain⟨q9,q10⟩:=zIs q8
  try simp at q9
  try simp at q10
  obtain⟨n11,q12,h⟩:=bs h
  obtain⟨q13,q14⟩:=zBj q12
  try simp at q13
  try simp at q14
  have c15:=q13;simp only[Rng,inR] at c15
  obtain⟨s16,q17,h⟩:=bs h
  obtain⟨q18,q19⟩:=zIs q17
  try simp at q18
  try simp at q19
  refine cut 23 0 [(4,.str s7),(5,.str s16),(6,.bool true)] [] ?_ ?_
  ·refine zAx [999] [10,11] mixed (n:=23) rfl (by decide) (by decide) ?_
   simp[q9,q10,q13,q14,q18,q19]
  refine zAB<|zAE ?_
  obtain rfl:=oi h
  simp
 have c20:=leF g5
 refine zAC<|zAH<|cutA 23 0 [(4,.str s1),(5,.str ([]:List UInt8)),(6,.bool false)] []<|zAB ?_
 obtain rfl:=oi h
 simp
theorem zLd(s1:(List UInt8))(sep2:(List UInt8))(r:(List UInt8)×(List UInt8)×Bool)(h:zFf s1 sep2=some r):Pure Tryz.prog 171 [.str s1,.str sep2] (.tup [.str r.1,.str r.2.1,.bool r.2.2]):=by
 rw[zFf] at h
 refine zAA Tryz.func171 (by rfl) (by rfl) (by simp) (by simp) (by simp)<|cutA 13 0 [(0,.str s1),(1,.str sep2)] [] ?_
 obtain⟨v3,q4,h⟩:=bs h
 refine cut 13 0 [(4,.str v3.1),(5,.str v3.2.1),(6,.bool v3.2.2)] [] ?_ ?_
 ·refine st ?_
  simp
  have r5:=zJD s1 sep2 v3 q4
  try simp at r5
  refine cP r5 ?_
  simp
 refine zAB ?_
 obtain rfl:=oi h
 simp
theorem zK4(fuel:Nat)(s1:(List UInt8))(r:Int×Int)(h:zE4 fuel s1=some r):Pure Tryz.prog 172 [.str s1] (.tup [iI r.1,iI r.2]):=by
 rw[zE4] at h
 refine zAA Tryz.func172 (by rfl) (by rfl) (by simp) (by simp) (by simp)<|cutA 43 0 [(0,.str s1)] []<|zAD ?_
 obtain⟨b10,q11,h⟩:=bs h
 refine cut 43 0 [(0,.str s1),(19,.bool b10)] [] ?_ ?_
 ·rcases sp q11 with ⟨g2,q11⟩|⟨g2,q11⟩
  ·obtain rfl:=oi q11
   refine st ?_
   simp[g2]
  rcases sp q11 with ⟨g3,q11⟩|⟨g3,q11⟩
  ·have c4:=ltT g3
   refine zJP 0 rfl fun f5=>?_
   obtain⟨c6,q7,q11⟩:=bs q11
   obtain rfl:=oi q11
   refine st ?_
   simp[g2,g3,q7]
  have c8:=ltF g3
  refine zJP 0 rfl fun f9=>?_
  obtain rfl:=oi q11
  refine st ?_
  simp[g2,g3]
 refine spc h rfl (fun g12 h=>?_) fun g12 h=>?_
 ·refine cutA 43 0 [(2,iI 0),(3,iI 3)] []<|zAB<|zAE ?_
  obtain rfl:=oi h
  simp
 refine zAC<|zAH<|zAD ?_
 obtain⟨l13,q14,h⟩:=bs h
 obtain⟨q15,q16⟩:=zMP q14
 refine cut 43 0 [(0,.str s1),(21,.sl (l13.map cU)),(22,iI l13.length),(23,iI 0)] [] (st (by simp[q15,q16]))<|zAF ?_
 obtain⟨o19,l20,h⟩:=bs h
 refine zAm (fun p:Nat×Nat=>mkS 43 0 [(0,.str s1),(21,.sl (l13.map cU)),(22,iI l13.length),(23,iI p.2)] []) (fun p=>zB5 l13 p.1 p.2=some o19) (fun p=>p.1) (fuel,0) l20 (zAL (by simp)) ?_
 rintro⟨k21,i17⟩ l20
 try dsimp only at l20 ⊢
 cases k21 with
 |zero=>
  rw[zB5] at l20;cases l20
 |succ k22=>
  rw[zB5] at l20
  refine cutA 43 0 [(0,.str s1),(21,.sl (l13.map cU)),(22,iI l13.length),(23,iI i17),(24,.bool (ltI i17 l13.length))] []<|zAD<|spc l20 rfl (fun g23 l20=>?_) fun g23 l20=>?_
  ·have c24:=ltT g23
   refine zCA 21 rfl fun f25=>?_
   rw[zq4] at f25
   refine zAC<|zAH<|zAD<|zAF ?_
   obtain⟨x26,q27,l20⟩:=bs l20
   refine cut 43 0 [(0,.str s1),(5,.int .u8 x26.toNat),(21,.sl (l13.map cU)),(22,iI l13.length),(23,iI i17)] [] (st (by simp[q27])) ?_
   obtain⟨v28,q29,l20⟩:=bs l20
   refine cut 43 0 [(0,.str s1),(21,.sl (l13.map cU)),(22,iI l13.length),(23,iI i17),(29,.bool (!(eqI v28 3)))] [] ?_ ?_
   ·refine st ?_
    simp
    have r36:=zH6 x26 v28 q29
    try simp at r36
    refine cP r36 ?_
    simp
   rcases sp l20 with ⟨g30,l20⟩|⟨g30,l20⟩
   ·have g31:=notT g30
    have c32:=eqF g31
    refine zEk rfl g30<|cutA 43 0 [(2,iI 0),(3,iI 3)] []<|zAB<|zAK<|zAE ?_
    replace h:=retL l20 h
    refine zAE<|zAK<|zAE ?_
    obtain rfl:=oi h
    simp
   have g33:=notF g30
   have c34:=eqT g33
   refine zEc rfl g30<|zAC<|zC1<|zAH ?_
   have q35:Rng .i64 (((i17:Nat):Int)+1):=by simp only[Rng,inR];omega
   try simp at q35
   refine last 43 0 [(0,.str s1),(21,.sl (l13.map cU)),(22,iI l13.length),(23,iI ((i17+1:Nat):Int))] [] (st (by simp[q35])) fun zz hs=>?_
   exact⟨(k22,i17+1),hs,l20,by simp⟩
  have c37:=ltF g23
  refine zCA 21 rfl fun f38=>?_
  rw[zq4] at f38
  refine zAQ<|zAG ?_
  rcases o19 with o19|o18
  ·cases l20
  have q39:=Sum.inr.inj (zqa l20)
  replace h:=zF0 h
  refine zAG<|zAS<|zAM (t:=mkS 43 0 [(0,.str s1)] []) ?_ (zAL (by simp))
  obtain⟨v40,q41,h⟩:=bs h
  rcases sp h with ⟨g42,h⟩|⟨g42,h⟩
  ·refine cut 43 0 [(6,iI v40.1),(7,.iface 225 (.cptr [.str [65,116,111,105],.str s1,.top]))] [] ?_ ?_
   ·refine st ?_
    simp[g42]
    have r46:=strconv_Atoi_ok s1 v40 q41
    try simp[g42] at r46
    refine cP r46 ?_
    simp[g42]
   refine zAD<|cutA 43 0 [(6,iI v40.1),(41,.bool true)] []<|zEk rfl rfl<|cutA 43 0 [(2,iI 0),(3,iI 6)] []<|zAB<|zAE ?_
   obtain rfl:=oi h
   simp
  refine cut 43 0 [(6,iI v40.1),(7,.nilif)] [] ?_ ?_
  ·refine st ?_
   simp[g42]
   have r47:=strconv_Atoi_ok s1 v40 q41
   try simp[g42] at r47
   refine cP r47 ?_
   simp[g42]
  refine zAD<|cutA 43 0 [(6,iI v40.1),(41,.bool (ltI 4503599627370496 v40.1))] []<|spc h rfl (fun g43 h=>?_) fun g43 h=>?_
  ·have c44:=ltT g43
   refine cutA 43 0 [(2,iI 0),(3,iI 6)] []<|zAB<|zAE ?_
   obtain rfl:=oi h
   simp
  have c45:=ltF g43
  refine zAC<|zAH<|cutA 43 0 [(2,iI v40.1),(3,iI 0)] []<|zAB ?_
  obtain rfl:=oi h
  simp
theorem zHM(fuel:Nat)(s1:(List UInt8))(r:Bool)(h:zDX fuel s1=some r):Pure Tryz.prog 137 [.str s1] (.bool r):=by
 rw[zDX] at h
 refine zAA Tryz.func137 (by rfl) (by rfl) (by simp) (by simp) (by simp)<|cutA 33 0 [(0,.str s1)] [] ?_
 obtain⟨v2,q3,h⟩:=bs h
 refine cut 33 0 [(0,.str s1),(3,.str v2.1),(4,.str v2.2.1),(5,.bool v2.2.2)] [] ?_ ?_
 ·refine st ?_
  simp
  have r20:=zLd s1 [46] v2 q3
  try simp at r20
  refine cP r20 ?_
  simp
 obtain⟨v4,q5,h⟩:=bs h
 refine cut 33 0 [(0,.str s1),(3,.str v2.1),(5,.bool v2.2.2),(7,iI v4.2)] [] ?_ ?_
 ·refine st ?_
  simp
  have r19:=zK4 fuel v2.2.1 v4 q5
  try simp at r19
  refine cP r19 ?_
  simp
 obtain⟨b15,q16,h⟩:=bs h
 refine cut 33 0 [(2,.bool b15)] [] ?_ ?_
 ·rcases sp q16 with ⟨g6,q16⟩|⟨g6,q16⟩
  ·rcases sp q16 with ⟨g7,q16⟩|⟨g7,q16⟩
   ·have c8:=leT g7
    refine zJP 0 rfl fun f9=>?_
    obtain⟨v10,q11,q16⟩:=bs q16
    rcases sp q16 with ⟨g12,q16⟩|⟨g12,q16⟩
    ·obtain rfl:=oi q16
     refine st ?_
     simp[g6,g7,g12]
     have r17:=zD2 fuel v2.1 v10 q11
     try simp[g6,g7,g12] at r17
     refine cP r17 ?_
     simp[g6,g7,g12]
    obtain rfl:=oi q16
    refine st ?_
    simp[g6,g7,g12]
    have r18:=zD2 fuel v2.1 v10 q11
    try simp[g6,g7,g12] at r18
    refine cP r18 ?_
    simp[g6,g7,g12]
   have c13:=leF g7
   refine zJP 0 rfl fun f14=>?_
   obtain rfl:=oi q16
   refine st ?_
   simp[g6,g7]
  obtain rfl:=oi q16
  refine st ?_
  simp[g6]
 refine zAB ?_
 obtain rfl:=oi h
 simp
theorem zKf(fuel:Nat)(s1:(List UInt8))(r:Bool)(h:zEZ fuel s1=some r):Pure Tryz.prog 141 [.str s1] (.bool r):=by
 rw[zEZ] at h
 refine zAA Tryz.func141 (by rfl) (by rfl) (by simp) (by simp) (by simp)<|cutA 23 0 [(0,.str s1)] []<|zAD<|cut 23 0 [(0,.str s1),(11,.bool ((eqS s1 ([]:List UInt8))||(ltI 48 s1.length)))] [] ?_ ?_
 ·rcases tf (eqS s1 ([]:List UInt8)) with g2|g2
  ·refine st ?_
   simp[g2]
  refine st ?_
  simp[g2]
 rcases sp h with ⟨g3,h⟩|⟨g3,h⟩
 ·refine zEk rfl g3<|cutA 23 0 [(2,.bool false)] []<|zAB<|zAE ?_
  obtain rfl:=oi h
  simp
 obtain⟨g4,g5⟩:=orF g3
 have c6:=ltF g5
 refine zEc rfl g3<|zJP 0 rfl fun f7=>?_
 refine zAC<|zAH<|zAD ?_
 obtain⟨l8,q9,h⟩:=bs h
 obtain⟨q10,q11⟩:=zMP q9
 refine cut 23 0 [(13,.sl (l8.map cU)),(14,iI l8.length),(15,iI 0)] [] (st (by simp[q10,q11]))<|zAF ?_
 obtain⟨o14,l15,h⟩:=bs h
 refine zAm (fun p:Nat×Nat=>mkS 23 0 [(13,.sl (l8.map cU)),(14,iI l8.length),(15,iI p.2)] []) (fun p=>zCF l8 p.1 p.2=some o14) (fun p=>p.1) (fuel,0) l15 (zAL (by simp)) ?_
 rintro⟨k16,i12⟩ l15
 try dsimp only at l15 ⊢
 cases k16 with
 |zero=>
  rw[zCF] at l15;cases l15
 |succ k17=>
  rw[zCF] at l15
  refine cutA 23 0 [(13,.sl (l8.map cU)),(14,iI l8.length),(15,iI i12),(16,.bool (ltI i12 l8.length))] []<|zAD<|spc l15 rfl (fun g18 l15=>?_) fun g18 l15=>?_
  ·have c19:=ltT g18
   refine zCA 13 rfl fun f20=>?_
   rw[zq4] at f20
   refine zAC<|zAH<|zAD<|zAF ?_
   obtain⟨x21,q22,l15⟩:=bs l15
   refine cut 23 0 [(4,.int .u8 x21.toNat),(13,.sl (l8.map cU)),(14,iI l8.length),(15,iI i12)] [] (st (by simp[q22])) ?_
   obtain⟨v23,q24,l15⟩:=bs l15
   refine cut 23 0 [(13,.sl (l8.map cU)),(14,iI l8.length),(15,iI i12),(21,.bool (eqI v23 0))] [] ?_ ?_
   ·refine st ?_
    simp
    have r29:=zH6 x21 v23 q24
    try simp at r29
    refine cP r29 ?_
    simp
   refine spc l15 rfl (fun g25 l15=>?_) fun g25 l15=>?_
   ·have c26:=eqT g25
    refine cutA 23 0 [(2,.bool false)] []<|zAB<|zAK<|zAE ?_
    replace h:=retL l15 h
    refine zAE<|zAK<|zAE ?_
    obtain rfl:=oi h
    simp
   have c27:=eqF g25
   refine zAC<|zC1<|zAH ?_
   have q28:Rng .i64 (((i12:Nat):Int)+1):=by simp only[Rng,inR];omega
   try simp at q28
   refine last 23 0 [(13,.sl (l8.map cU)),(14,iI l8.length),(15,iI ((i12+1:Nat):Int))] [] (st (by simp[q28])) fun zz hs=>?_
   exact⟨(k17,i12+1),hs,l15,by simp⟩
  have c30:=ltF g18
  refine zCA 13 rfl fun f31=>?_
  rw[zq4] at f31
  refine zAQ<|zAG ?_
  rcases o14 with o14|o13
  ·cases l15
  have q32:=Sum.inr.inj (zqa l15)
  replace h:=zF0 h
  refine zAG<|zAS<|zAM (t:=mkS 23 0 [] []) ?_ (zAL (by simp))
  refine cutA 23 0 [(2,.bool true)] []<|zAB ?_
  obtain rfl:=oi h
  simp
theorem zJl(fuel:Nat)(s1:(List UInt8))(r:Bool)(h:zD7 fuel s1=some r):Pure Tryz.prog 140 [.str s1] (.bool r):=by
 rw[zD7] at h
 refine zAA Tryz.func140 (by rfl) (by rfl) (by simp) (by simp) (by simp)<|cutA 6 0 [(0,.str s1)] [] ?_
 obtain⟨v2,q3,h⟩:=bs h
 refine cut 6 0 [(2,.bool (!v2))] [] ?_ ?_
 ·refine st ?_
  simp
  have r4:=zKf fuel s1 v2 q3
  try simp at r4
  refine cP r4 ?_
  simp
 refine zAB ?_
 obtain rfl:=oi h
 simp
theorem zEu(fuel:Nat)(s1:(List (List UInt8)))(r:Int)(h:zBW fuel s1=some r):Pure Tryz.prog 173 [.sl (s1.map cS),.fn (.func 140) [] []] (iI r):=by
 rw[zBW] at h
 refine zAA Tryz.func173 (by rfl) (by rfl) (by simp) (by simp) (by simp)<|cutA 19 0 [(0,.sl (s1.map cS)),(1,.fn (.func 140) [] [])] []<|zAD<|cutA 19 0 [(0,.sl (s1.map cS)),(1,.fn (.func 140) [] []),(7,iI s1.length),(8,iI 0)] []<|zAF ?_
 obtain⟨o4,l5,h⟩:=bs h
 refine zAm (fun p:Nat×Nat=>mkS 19 0 [(0,.sl (s1.map cS)),(1,.fn (.func 140) [] []),(7,iI s1.length),(8,iI p.2)] []) (fun p=>zAY fuel s1 p.1 p.2=some o4) (fun p=>p.1) (fuel,0) l5 (zAL (by simp)) ?_
 rintro⟨k6,i2⟩ l5
 try dsimp only at l5 ⊢
 cases k6 with
 |zero=>
  rw[zAY] at l5;cases l5
 |succ k7=>
  rw[zAY] at l5
  refine cutA 19 0 [(0,.sl (s1.map cS)),(1,.fn (.func 140) [] []),(7,iI s1.length),(8,iI i2),(9,.bool (ltI i2 s1.length))] []<|zAD<|spc l5 rfl (fun g8 l5=>?_) fun g8 l5=>?_
  ·have c9:=ltT g8
   refine zCA 0 rfl fun f10=>?_
   rw[zq4] at f10
   refine zAC<|zAH<|zAD<|zAF<|cutA 19 0 [(0,.sl (s1.map cS)),(1,.fn (.func 140) [] []),(5,iI i2),(7,iI s1.length),(8,iI i2)] [] ?_
   obtain⟨x11,q12,l5⟩:=bs l5
   obtain⟨v13,q14,l5⟩:=bs l5
   refine cut 19 0 [(0,.sl (s1.map cS)),(1,.fn (.func 140) [] []),(5,iI i2),(7,iI s1.length),(8,iI i2),(16,.bool v13)] [] ?_ ?_
   ·refine st ?_
    simp[q12]
    have r17:=zJl fuel x11 v13 q14
    try simp[q12] at r17
    refine cP r17 ?_
    simp[q12]
   refine spc l5 rfl (fun g15 l5=>?_) fun g15 l5=>?_
   ·refine cutA 19 0 [(4,iI i2)] []<|zAB<|zAK<|zAE ?_
    replace h:=retL l5 h
    refine zAE<|zAK<|zAE ?_
    obtain rfl:=oi h
    simp
   refine zAC<|zC1<|zAH ?_
   have q16:Rng .i64 (((i2:Nat):Int)+1):=by simp only[Rng,inR];omega
   try simp at q16
   refine last 19 0 [(0,.sl (s1.map cS)),(1,.fn (.func 140) [] []),(7,iI s1.length),(8,iI ((i2+1:Nat):Int))] [] (st (by simp[q16])) fun zz hs=>?_
   exact⟨(k7,i2+1),hs,l5,by simp⟩
  have c18:=ltF g8
  refine zCA 0 rfl fun f19=>?_
  rw[zq4] at f19
  refine zAQ<|zAG ?_
  rcases o4 with o4|o3
  ·cases l5
  have q20:=Sum.inr.inj (zqa l5)
  replace h:=zF0 h
  refine zAG<|zAS<|zAM (t:=mkS 19 0 [] []) ?_ (zAL (by simp))
  refine cutA 19 0 [(4,iI (-1))] []<|zAB ?_
  obtain rfl:=oi h
  simp
theorem zCU(fuel:Nat)(s1:(List (List UInt8)))(r:Bool)(h:zAO fuel s1=some r):Pure Tryz.prog 139 [.sl (s1.map cS),.fn (.func 140) [] []] (.bool r):=by
 rw[zAO] at h
 refine zAA Tryz.func139 (by rfl) (by rfl) (by simp) (by simp) (by simp)<|cutA 9 0 [(0,.sl (s1.map cS)),(1,.fn (.func 140) [] [])] [] ?_
 obtain⟨v2,q3,h⟩:=bs h
 refine cut 9 0 [(4,.bool (leI 0 v2))] [] ?_ ?_
 ·refine st ?_
  simp
  have r4:=zEu fuel s1 v2 q3
  try simp at r4
  refine cP r4 ?_
  simp
 refine zAB ?_
 obtain rfl:=oi h
 simp
theorem zCq(fuel:Nat):(∀(x1:zMZ)(r:Bool)(_:zCM fuel x1=some r),Pure Tryz.prog 143 [.agg (zMZ.d x1)] (.bool r))∧(∀(s1:(List zMZ))(r:Int)(_:zAu fuel s1=some r),Pure Tryz.prog 174 [.sl (s1.map zMZ.c),.fn (.func 143) [] []] (iI r))∧(∀(s1:(List zMZ))(r:Bool)(_:zAN fuel s1=some r),Pure Tryz.prog 142 [.sl (s1.map zMZ.c),.fn (.func 143) [] []] (.bool r))∧(∀(c1:zMZ)(r:Bool)(_:zC9 fuel c1=some r),Pure Tryz.prog 104 [.agg (zMZ.d c1)] (.bool r)):=by
 induction fuel with
 |zero=>
  refine⟨?_,?_,?_,?_⟩
  ·intro x1 r h;rw[zCM] at h;cases h
  ·intro s1 r h;rw[zAu] at h;cases h
  ·intro s1 r h;rw[zAN] at h;cases h
  ·intro c1 r h;rw[zC9] at h;cases h
 |succ fuel ih=>
  obtain⟨zJn,zEj,zEE,zK1⟩:=ih
  refine⟨?_,?_,?_,?_⟩
  ·intro x1 r h
   rw[zCM] at h
   refine zAA Tryz.func143 (by rfl) (by rfl) (by simp) (by simp) (by simp)<|cutA 6 0 [(1,pT 0)] [(zMZ.d x1)] ?_
   obtain⟨v2,q3,h⟩:=bs h
   refine cut 6 0 [(2,.bool (!v2))] [(zMZ.d x1)] ?_ ?_
   ·refine st ?_
    simp
    have r4:=zK1 x1 v2 q3
    try simp at r4
    refine cP r4 ?_
    simp
   refine zAB ?_
   obtain rfl:=oi h
   simp
  ·intro s1 r h
   rw[zAu] at h
   refine zAA Tryz.func174 (by rfl) (by rfl) (by simp) (by simp) (by simp)<|cutA 19 0 [(0,.sl (s1.map zMZ.c)),(1,.fn (.func 143) [] [])] []<|zAD<|cutA 19 0 [(0,.sl (s1.map zMZ.c)),(1,.fn (.func 143) [] []),(7,iI s1.length),(8,iI 0)] []<|zAF ?_
   obtain⟨o4,l5,h⟩:=bs h
   refine zAm (fun p:Nat×Nat=>mkS 19 0 [(0,.sl (s1.map zMZ.c)),(1,.fn (.func 143) [] []),(7,iI s1.length),(8,iI p.2)] []) (fun p=>zAW (zCM fuel) s1 p.1 p.2=some o4) (fun p=>p.1) (fuel,0) l5 (zAL (by simp)) ?_
   rintro⟨k6,i2⟩ l5
   try dsimp only at l5 ⊢
   cases k6 with
   |zero=>
    rw[zAW] at l5;cases l5
   |succ k7=>
    rw[zAW] at l5
    refine cutA 19 0 [(0,.sl (s1.map zMZ.c)),(1,.fn (.func 143) [] []),(7,iI s1.length),(8,iI i2),(9,.bool (ltI i2 s1.length))] []<|zAD<|spc l5 rfl (fun g8 l5=>?_) fun g8 l5=>?_
    ·have c9:=ltT g8
     refine zCA 0 rfl fun f10=>?_
     rw[zq4] at f10
     refine zAC<|zAH<|zAD<|zAF<|cutA 19 0 [(0,.sl (s1.map zMZ.c)),(1,.fn (.func 143) [] []),(5,iI i2),(7,iI s1.length),(8,iI i2)] [] ?_
     obtain⟨x11,q12,l5⟩:=bs l5
     obtain⟨v13,q14,l5⟩:=bs l5
     refine cut 19 0 [(0,.sl (s1.map zMZ.c)),(1,.fn (.func 143) [] []),(5,iI i2),(7,iI s1.length),(8,iI i2),(16,.bool v13)] [] ?_ ?_
     ·refine st ?_
      simp[q12]
      have r17:=zJn x11 v13 q14
      try simp[q12] at r17
      refine cP r17 ?_
      simp[q12]
     refine spc l5 rfl (fun g15 l5=>?_) fun g15 l5=>?_
     ·refine cutA 19 0 [(4,iI i2)] []<|zAB<|zAK<|zAE ?_
      replace h:=retL l5 h
      refine zAE<|zAK<|zAE ?_
      obtain rfl:=oi h
      simp
     refine zAC<|zC1<|zAH ?_
     have q16:Rng .i64 (((i2:Nat):Int)+1):=by simp only[Rng,inR];omega
     try simp at q16
     refine last 19 0 [(0,.sl (s1.map zMZ.c)),(1,.fn (.func 143) [] []),(7,iI s1.length),(8,iI ((i2+1:Nat):Int))] [] (st (by simp[q16])) fun zz hs=>?_
     exact⟨(k7,i2+1),hs,l5,by simp⟩
    have c18:=ltF g8
    refine zCA 0 rfl fun f19=>?_
    rw[zq4] at f19
    refine zAQ<|zAG ?_
    rcases o4 with o4|o3
    ·cases l5
    have q20:=Sum.inr.inj (zqa l5)
    replace h:=zF0 h
    refine zAG<|zAS<|zAM (t:=mkS 19 0 [] []) ?_ (zAL (by simp))
    refine cutA 19 0 [(4,iI (-1))] []<|zAB ?_
    obtain rfl:=oi h
    simp
  ·intro s1 r h
   rw[zAN] at h
   refine zAA Tryz.func142 (by rfl) (by rfl) (by simp) (by simp) (by simp)<|cutA 9 0 [(0,.sl (s1.map zMZ.c)),(1,.fn (.func 143) [] [])] [] ?_
   obtain⟨v2,q3,h⟩:=bs h
   refine cut 9 0 [(4,.bool (leI 0 v2))] [] ?_ ?_
   ·refine st ?_
    simp
    have r4:=zEj s1 v2 q3
    try simp at r4
    refine cP r4 ?_
    simp
   refine zAB ?_
   obtain rfl:=oi h
   simp
  ·intro c1 r h
   rw[zC9] at h
   refine zAA Tryz.func104 (by rfl) (by rfl) (by simp) (by simp) (by simp)<|cutA 100 0 [(1,pT 0)] [(zMZ.d c1)]<|zAD ?_
   obtain⟨v2,q3,h⟩:=bs h
   refine cut 100 0 [(1,pT 0),(9,.bool (!(eqI c1.L.length v2)))] [(zMZ.d c1)] ?_ ?_
   ·refine zAJ [] mixed (n:=100) rfl (by decide) ?_
    simp
    have r103:=zLZ c1 v2 q3
    try simp at r103
    refine zGN r103 (by simp) rfl ?_
    simp
   rcases sp h with ⟨g4,h⟩|⟨g4,h⟩
   ·have g5:=notT g4
    have c6:=eqF g5
    refine zEk rfl g4<|cutA 100 0 [(2,.bool false)] [(zMZ.d c1)]<|zAB<|zAE ?_
    obtain rfl:=oi h
    simp
   have g7:=notF g4
   have c8:=eqT g7
   refine zEc rfl g4<|zAC<|zAH ?_
   obtain⟨o10,l11,h⟩:=bs h
   refine joinS o10 100 0 (fun j9=>[(1,pT 0)]) (fun j9=>[(zMZ.d c1)]) (fun jj=>?_) ?_
   ·refine cutA 100 0 [(1,pT 0),(11,iI c1.Op)] [(zMZ.d c1)]<|zAF ?_
    obtain⟨j12,l13,l11⟩:=bs l11
    refine zLO 100 0 [(1,pT 0),(15,.bool j12)] [(zMZ.d c1)] (fun jj=>?_) ?_
    ·refine cutA 100 0 [(1,pT 0),(11,iI c1.Op),(15,.bool (eqI c1.Op 1))] [(zMZ.d c1)]<|spc l13 rfl (fun g14 l13=>?_) fun g14 l13=>?_
     ·refine zAC ?_
      obtain rfl:=oi l13
      exact zAM jj (zAL (by simp))
     refine last 100 0 [(1,pT 0),(15,.bool (eqI c1.Op 3))] [(zMZ.d c1)] (st (by simp)) fun zz hs=>?_
     obtain rfl:=oi l13
     exact zAM jj hs
    refine spc l11 rfl (fun g17 l11=>?_) fun g17 l11=>?_
    ·refine cut 100 0 [(1,pT 0),(25,.bool ((ltI c1.N 0)||(ltI 20000 c1.N)))] [(zMZ.d c1)] ?_ ?_
     ·rcases tf (ltI c1.N 0) with g18|g18
      ·have c19:=ltT g18
       refine st ?_
       simp[g18]
      have c20:=ltF g18
      refine st ?_
      simp[g18]
     rcases sp l11 with ⟨g21,l11⟩|⟨g21,l11⟩
     ·refine zEk rfl g21<|cutA 100 0 [(2,.bool false)] [(zMZ.d c1)]<|zAB<|zAK ?_
      replace h:=retL l11 h
      refine zAE ?_
      obtain rfl:=oi h
      simp
     obtain⟨g22,g23⟩:=orF g21
     have c24:=ltF g22
     have c25:=ltF g23
     refine zEc rfl g21<|zAC<|zC1 ?_
     obtain rfl:=oi l11
     exact zAM (jj _ rfl) (zAL (by simp))
    refine cutA 100 0 [(1,pT 0),(14,.bool (!(eqI c1.N 0)))] [(zMZ.d c1)] ?_
    rcases sp l11 with ⟨g26,l11⟩|⟨g26,l11⟩
    ·have g27:=notT g26
     have c28:=eqF g27
     refine zEk rfl g26<|cutA 100 0 [(2,.bool false)] [(zMZ.d c1)]<|zAB<|zAK ?_
     replace h:=retL l11 h
     refine zAE ?_
     obtain rfl:=oi h
     simp
    have g29:=notF g26
    have c30:=eqT g29
    refine zEc rfl g26<|zAC<|zC1 ?_
    obtain rfl:=oi l11
    exact zAM (jj _ rfl) (zAL (by simp))
   rintro j9 rfl
   replace h:=zF0 h
   try dsimp only
   refine zAD ?_
   obtain⟨b39,q40,h⟩:=bs h
   refine cut 100 0 [(1,pT 0),(44,.bool b39)] [(zMZ.d c1)] ?_ ?_
   ·rcases sp q40 with ⟨g31,q40⟩|⟨g31,q40⟩
    ·have c32:=eqT g31
     obtain⟨v33,q34,q40⟩:=bs q40
     rcases sp q40 with ⟨g35,q40⟩|⟨g35,q40⟩
     ·have g36:=notT g35
      obtain rfl:=oi q40
      refine st ?_
      simp[g31,g35]
      have r101:=zHM fuel c1.S v33 q34
      try simp[g31,g35] at r101
      refine cP r101 ?_
      simp[g31,g35]
     have g37:=notF g35
     obtain rfl:=oi q40
     refine st ?_
     simp[g31,g35]
     have r102:=zHM fuel c1.S v33 q34
     try simp[g31,g35] at r102
     refine cP r102 ?_
     simp[g31,g35]
    have c38:=eqF g31
    obtain rfl:=oi q40
    refine st ?_
    simp[g31]
   refine spc h rfl (fun g41 h=>?_) fun g41 h=>?_
   ·refine cutA 100 0 [(2,.bool false)] [(zMZ.d c1)]<|zAB<|zAE ?_
    obtain rfl:=oi h
    simp
   refine zAC<|zAH<|zAD ?_
   obtain⟨b45,q46,h⟩:=bs h
   refine cut 100 0 [(1,pT 0),(3,.bool b45)] [(zMZ.d c1)] ?_ ?_
   ·obtain⟨v42,q43,q46⟩:=bs q46
    rcases sp q46 with ⟨g44,q46⟩|⟨g44,q46⟩
    ·obtain rfl:=oi q46
     refine st ?_
     simp[g44]
     have r99:=zDq c1 v42 q43
     try simp[g44] at r99
     refine cP r99 ?_
     simp[g44]
    obtain rfl:=oi q46
    refine st ?_
    simp[g44]
    have r100:=zDq c1 v42 q43
    try simp[g44] at r100
    refine cP r100 ?_
    simp[g44]
   obtain⟨b53,q54,h⟩:=bs h
   refine cut 100 0 [(1,pT 0),(69,.bool b53)] [(zMZ.d c1)] ?_ ?_
   ·rcases sp q54 with ⟨g47,q54⟩|⟨g47,q54⟩
    ·obtain⟨v48,q49,q54⟩:=bs q54
     rcases sp q54 with ⟨g50,q54⟩|⟨g50,q54⟩
     ·have g51:=notT g50
      obtain rfl:=oi q54
      refine st ?_
      simp[g47,g50]
      have r97:=zDd fuel c1.Kind v48 q49
      try simp[g47,g50] at r97
      refine cP r97 ?_
      simp[g47,g50]
     have g52:=notF g50
     obtain rfl:=oi q54
     refine st ?_
     simp[g47,g50]
     have r98:=zDd fuel c1.Kind v48 q49
     try simp[g47,g50] at r98
     refine cP r98 ?_
     simp[g47,g50]
    obtain rfl:=oi q54
    refine st ?_
    simp[g47]
   refine spc h rfl (fun g55 h=>?_) fun g55 h=>?_
   ·refine cutA 100 0 [(2,.bool false)] [(zMZ.d c1)]<|zAB<|zAE ?_
    obtain rfl:=oi h
    simp
   refine zAC<|zAH<|zAD ?_
   obtain⟨b86,q87,h⟩:=bs h
   refine cut 100 0 [(1,pT 0),(95,.bool b86)] [(zMZ.d c1)] ?_ ?_
   ·refine zCB 0 4 rfl rfl rfl fun f58=>?_
    rw[zq4] at f58
    refine zCB 0 4 rfl rfl rfl fun f75=>?_
    rw[zq4] at f75
    refine zAw ?_
    rcases sp q87 with ⟨g56,q87⟩|⟨g56,q87⟩
    ·have c57:=ltT g56
     obtain⟨v59,q60,q87⟩:=bs q87
     refine WL.cut 7 100 0 [(1,pT 0),(74,.bool (ltI 0 c1.Names.length)),(76,.bool v59)] [(zMZ.d c1)] ?_ ?_
     ·simp[g56]
      have r92:=zHL c1 v59 q60
      try simp[g56] at r92
      refine cP r92 ?_
      simp[g56]
     rcases sp q87 with ⟨g61,q87⟩|⟨g61,q87⟩
     ·have g62:=notT g61
      obtain rfl:=oi q87
      have g56x:=g56
      try simp only[g61] at g56x
      have g61x:=g61
      try simp only[g56] at g61x
      refine WL.last ?_
      simp[g56,g61,g56x,g61x]
     have g63:=notF g61
     rcases sp q87 with ⟨g64,q87⟩|⟨g64,q87⟩
     ·have c65:=ltT g64
      obtain rfl:=oi q87
      have g56x:=g56
      try simp only[g61,g64] at g56x
      have g61x:=g61
      try simp only[g56,g64] at g61x
      have g64x:=g64
      try simp only[g56,g61] at g64x
      refine WL.last ?_
      simp[g56,g61,g64,g56x,g61x,g64x]
     have c66:=ltF g64
     obtain⟨v67,q68,q87⟩:=bs q87
     have g56x:=g56
     try simp only[g61,g64] at g56x
     have g61x:=g61
     try simp only[g56,g64] at g61x
     have g64x:=g64
     try simp only[g56,g61] at g64x
     refine WL.cut 12 100 0 [(1,pT 0),(85,.bool (ltI 1000 c1.Names.length)),(88,.bool v67)] [(zMZ.d c1)] ?_ ?_
     ·simp[g56,g61,g64,g56x,g61x,g64x]
      have r93:=zFG fuel c1.Names v67 q68
      try simp[g56,g61,g64,g56x,g61x,g64x] at r93
      refine cP r93 ?_
      simp[g56,g61,g64,g56x,g61x,g64x]
     rcases sp q87 with ⟨g69,q87⟩|⟨g69,q87⟩
     ·have g70:=notT g69
      obtain rfl:=oi q87
      have g69x:=g69
      try simp only[g56,g61,g64] at g69x
      refine WL.last ?_
      simp[g56,g61,g64,g69,g56x,g61x,g64x,g69x]
     have g71:=notF g69
     obtain⟨v72,q73,q87⟩:=bs q87
     obtain rfl:=oi q87
     have g69x:=g69
     try simp only[g56,g61,g64] at g69x
     refine WL.cut 6 100 0 [(1,pT 0),(91,.bool (!v67)),(94,.bool v72)] [(zMZ.d c1)] ?_ ?_
     ·simp[g56,g61,g64,g69,g56x,g61x,g64x,g69x]
      have r94:=zCU fuel c1.Names v72 q73
      try simp[g56,g61,g64,g69,g56x,g61x,g64x,g69x] at r94
      refine cP r94 ?_
      simp[g56,g61,g64,g69,g56x,g61x,g64x,g69x]
     refine WL.last ?_
     simp[g56,g61,g64,g69,g56x,g61x,g64x,g69x]
    have c74:=ltF g56
    rcases sp q87 with ⟨g76,q87⟩|⟨g76,q87⟩
    ·have c77:=ltT g76
     obtain rfl:=oi q87
     have g56x:=g56
     try simp only[g76] at g56x
     have g76x:=g76
     try simp only[g56] at g76x
     refine WL.last ?_
     simp[g56,g76,g56x,g76x]
    have c78:=ltF g76
    obtain⟨v79,q80,q87⟩:=bs q87
    have g56x:=g56
    try simp only[g76] at g56x
    have g76x:=g76
    try simp only[g56] at g76x
    refine WL.cut 19 100 0 [(1,pT 0),(85,.bool (ltI 1000 c1.Names.length)),(88,.bool v79)] [(zMZ.d c1)] ?_ ?_
    ·simp[g56,g76,g56x,g76x]
     have r95:=zFG fuel c1.Names v79 q80
     try simp[g56,g76,g56x,g76x] at r95
     refine cP r95 ?_
     simp[g56,g76,g56x,g76x]
    rcases sp q87 with ⟨g81,q87⟩|⟨g81,q87⟩
    ·have g82:=notT g81
     obtain rfl:=oi q87
     have g81x:=g81
     try simp only[g56,g76] at g81x
     refine WL.last ?_
     simp[g56,g76,g81,g56x,g76x,g81x]
    have g83:=notF g81
    obtain⟨v84,q85,q87⟩:=bs q87
    obtain rfl:=oi q87
    have g81x:=g81
    try simp only[g56,g76] at g81x
    refine WL.cut 6 100 0 [(1,pT 0),(91,.bool (!v79)),(94,.bool v84)] [(zMZ.d c1)] ?_ ?_
    ·simp[g56,g76,g81,g56x,g76x,g81x]
     have r96:=zCU fuel c1.Names v84 q85
     try simp[g56,g76,g81,g56x,g76x,g81x] at r96
     refine cP r96 ?_
     simp[g56,g76,g81,g56x,g76x,g81x]
    refine WL.last ?_
    simp[g56,g76,g81,g56x,g76x,g81x]
   refine spc h rfl (fun g88 h=>?_) fun g88 h=>?_
   ·refine cutA 100 0 [(2,.bool false)] [(zMZ.d c1)]<|zAB<|zAE ?_
    obtain rfl:=oi h
    simp
   refine zAC<|zAH ?_
   obtain⟨v89,q90,h⟩:=bs h
   refine cut 100 0 [(2,.bool (!v89))] [(zMZ.d c1)] ?_ ?_
   ·refine st ?_
    simp
    have r91:=zEE c1.L v89 q90
    try simp at r91
    refine cP r91 ?_
    simp
   refine zAB ?_
   obtain rfl:=oi h
   simp
theorem zKr(fuel:Nat):(∀(c1:zMZ)(r:Bool)(_:zC9 fuel c1=some r),Pure Tryz.prog 104 [.agg (zMZ.d c1)] (.bool r)):=(zCq fuel).2.2.2
theorem zC6(fuel:Nat)(c1:zMZ)(r:Bool)(h:zB2 fuel c1=some r):Pure Tryz.prog 74 [.agg (zMZ.d c1)] (.bool r):=by
 rw[zB2] at h
 refine zAA Tryz.func74 (by rfl) (by rfl) (by simp) (by simp) (by simp)<|cutA 15 0 [(1,pT 0)] [(zMZ.d c1)] ?_
 obtain⟨b14,q15,h⟩:=bs h
 refine cut 15 0 [(2,.bool b14)] [(zMZ.d c1)] ?_ ?_
 ·refine zAw ?_
  obtain⟨v2,q3,q15⟩:=bs q15
  refine WL.cut 2 15 0 [(1,pT 0),(4,iI v2)] [(zMZ.d c1)] ?_ ?_
  ·simp
   have r16:=zGO fuel c1 v2 q3
   try simp at r16
   refine cP r16 ?_
   simp
  rcases sp q15 with ⟨g4,q15⟩|⟨g4,q15⟩
  ·have c5:=leT g4
   obtain⟨v6,q7,q15⟩:=bs q15
   refine WL.cut 4 15 0 [(1,pT 0),(6,.bool (leI v2 20000)),(8,iI v6)] [(zMZ.d c1)] ?_ ?_
   ·simp[g4]
    have r17:=zLa fuel c1 v6 q7
    try simp[g4] at r17
    refine cP r17 ?_
    simp[g4]
   rcases sp q15 with ⟨g8,q15⟩|⟨g8,q15⟩
   ·have c9:=leT g8
    obtain⟨v10,q11,q15⟩:=bs q15
    obtain rfl:=oi q15
    have g4x:=g4
    try simp only[g8] at g4x
    have g8x:=g8
    try simp only[g4] at g8x
    refine WL.cut 5 15 0 [(11,.bool (leI v6 400)),(13,.bool v10)] [(zMZ.d c1)] ?_ ?_
    ·simp[g4,g8,g4x,g8x]
     have r18:=zKr fuel c1 v10 q11
     try simp[g4,g8,g4x,g8x] at r18
     refine cP r18 ?_
     simp[g4,g8,g4x,g8x]
    refine WL.last ?_
    simp[g4,g8,g4x,g8x]
   have c12:=leF g8
   obtain rfl:=oi q15
   have g4x:=g4
   try simp only[g8] at g4x
   have g8x:=g8
   try simp only[g4] at g8x
   refine WL.last ?_
   simp[g4,g8,g4x,g8x]
  have c13:=leF g4
  obtain rfl:=oi q15
  refine WL.last ?_
  simp[g4]
 refine zAB ?_
 obtain rfl:=oi h
 simp
theorem zDa(fuel:Nat):(∀(s11:(List zMY))(s22:(List zMY))(r:Bool)(_:zA9 fuel s11 s22=some r),Pure Tryz.prog 46 [.sl (s11.map zMY.c),.sl (s22.map zMY.c),.fn (.func 77) [] []] (.bool r))∧(∀(a1:zMY)(b2:zMY)(r:Bool)(_:zCs fuel a1 b2=some r),Pure Tryz.prog 77 [.agg [.sl (a1.L.map zMY.c)],.agg [.sl (b2.L.map zMY.c)]] (.bool r)):=by
 induction fuel with
 |zero=>
  refine⟨?_,?_⟩
  ·intro s11 s22 r h;rw[zA9] at h;cases h
  ·intro a1 b2 r h;rw[zCs] at h;cases h
 |succ fuel ih=>
  obtain⟨zE7,ih_tycon_same⟩:=ih
  refine⟨?_,?_⟩
  ·intro s11 s22 r h
   rw[zA9] at h
   refine zAA Tryz.func46 (by rfl) (by rfl) (by simp) (by simp) (by simp)<|cutA 32 0 [(0,.sl (s11.map zMY.c)),(1,.sl (s22.map zMY.c)),(2,.fn (.func 77) [] [])] []<|zAD<|cutA 32 0 [(0,.sl (s11.map zMY.c)),(1,.sl (s22.map zMY.c)),(2,.fn (.func 77) [] []),(14,.bool (!(eqI s11.length s22.length)))] [] ?_
   rcases sp h with ⟨g3,h⟩|⟨g3,h⟩
   ·have g4:=notT g3
    have c5:=eqF g4
    refine zEk rfl g3<|cutA 32 0 [(6,.bool false)] []<|zAB<|zAE ?_
    obtain rfl:=oi h
    simp
   have g6:=notF g3
   have c7:=eqT g6
   refine zEc rfl g3<|zAC<|zAH<|zAD<|cutA 32 0 [(1,.sl (s22.map zMY.c)),(2,.fn (.func 77) [] []),(15,.sl (s11.map zMY.c)),(16,iI s11.length),(17,iI 0)] []<|zAF ?_
   obtain⟨o10,l11,h⟩:=bs h
   refine zAm (fun p:Nat×Nat=>mkS 32 0 [(1,.sl (s22.map zMY.c)),(2,.fn (.func 77) [] []),(15,.sl (s11.map zMY.c)),(16,iI s11.length),(17,iI p.2)] []) (fun p=>zAc (zCs fuel) s11 s22 p.1 p.2=some o10) (fun p=>p.1) (fuel,0) l11 (zAL (by simp)) ?_
   rintro⟨k12,i8⟩ l11
   try dsimp only at l11 ⊢
   cases k12 with
   |zero=>
    rw[zAc] at l11;cases l11
   |succ k13=>
    rw[zAc] at l11
    refine cutA 32 0 [(1,.sl (s22.map zMY.c)),(2,.fn (.func 77) [] []),(15,.sl (s11.map zMY.c)),(16,iI s11.length),(17,iI i8),(18,.bool (ltI i8 s11.length))] []<|zAD<|spc l11 rfl (fun g14 l11=>?_) fun g14 l11=>?_
    ·have c15:=ltT g14
     refine zCA 15 rfl fun f16=>?_
     rw[zq4] at f16
     refine zAC<|zAH<|zAD<|zAF ?_
     obtain⟨x17,q18,l11⟩:=bs l11
     refine cut 32 0 [(1,.sl (s22.map zMY.c)),(2,.fn (.func 77) [] []),(7,iI i8),(8,pT 0),(15,.sl (s11.map zMY.c)),(16,iI s11.length),(17,iI i8)] [[.sl (x17.L.map zMY.c)]] (st (by simp[q18])) ?_
     obtain⟨x19,q20,l11⟩:=bs l11
     refine cut 32 0 [(1,.sl (s22.map zMY.c)),(2,.fn (.func 77) [] []),(8,pT 0),(9,pT 1),(15,.sl (s11.map zMY.c)),(16,iI s11.length),(17,iI i8)] [[.sl (x17.L.map zMY.c)],[.sl (x19.L.map zMY.c)]] (st (by simp[q20])) ?_
     obtain⟨v21,q22,l11⟩:=bs l11
     refine cut 32 0 [(1,.sl (s22.map zMY.c)),(2,.fn (.func 77) [] []),(15,.sl (s11.map zMY.c)),(16,iI s11.length),(17,iI i8),(30,.bool (!v21))] [[.sl (x17.L.map zMY.c)],[.sl (x19.L.map zMY.c)]] ?_ ?_
     ·refine st ?_
      simp
      have r27:=ih_tycon_same x17 x19 v21 q22
      try simp at r27
      refine cP r27 ?_
      simp
     refine spc l11 rfl (fun g23 l11=>?_) fun g23 l11=>?_
     ·have g24:=notT g23
      refine cutA 32 0 [(6,.bool false)] [[.sl (x17.L.map zMY.c)],[.sl (x19.L.map zMY.c)]]<|zAB<|zAK<|zAE ?_
      replace h:=retL l11 h
      refine zAE<|zAK<|zAE ?_
      obtain rfl:=oi h
      simp
     have g25:=notF g23
     refine zAC<|zC1<|zAH ?_
     have q26:Rng .i64 (((i8:Nat):Int)+1):=by simp only[Rng,inR];omega
     try simp at q26
     refine last 32 0 [(1,.sl (s22.map zMY.c)),(2,.fn (.func 77) [] []),(15,.sl (s11.map zMY.c)),(16,iI s11.length),(17,iI ((i8+1:Nat):Int))] [] (st (by simp[q26])) fun zz hs=>?_
     exact⟨(k13,i8+1),hs,l11,by simp⟩
    have c28:=ltF g14
    refine zCA 15 rfl fun f29=>?_
    rw[zq4] at f29
    refine zAQ<|zAG ?_
    rcases o10 with o10|o9
    ·cases l11
    have q30:=Sum.inr.inj (zqa l11)
    replace h:=zF0 h
    refine zAG<|zAS<|zAM (t:=mkS 32 0 [] []) ?_ (zAL (by simp))
    refine cutA 32 0 [(6,.bool true)] []<|zAB ?_
    obtain rfl:=oi h
    simp
  ·intro a1 b2 r h
   rw[zCs] at h
   refine zAA Tryz.func77 (by rfl) (by rfl) (by simp) (by simp) (by simp)<|cutA 10 0 [(2,pT 0),(3,pT 1)] [[.sl (a1.L.map zMY.c)],[.sl (b2.L.map zMY.c)]] ?_
   obtain⟨v3,q4,h⟩:=bs h
   refine cut 10 0 [(4,.bool v3)] [[.sl (a1.L.map zMY.c)],[.sl (b2.L.map zMY.c)]] ?_ ?_
   ·refine st ?_
    simp
    have r5:=zE7 a1.L b2.L v3 q4
    try simp at r5
    refine cP r5 ?_
    simp
   refine zAB ?_
   obtain rfl:=oi h
   simp
theorem tycon_same_ok(fuel:Nat):(∀(a1:zMY)(b2:zMY)(r:Bool)(_:zCs fuel a1 b2=some r),Pure Tryz.prog 77 [.agg [.sl (a1.L.map zMY.c)],.agg [.sl (b2.L.map zMY.c)]] (.bool r)):=(zDa fuel).2
theorem zFX(fuel:Nat)(s11:(List (List UInt8)))(s22:(List (List UInt8)))(r:Bool)(h:zB0 fuel s11 s22=some r):Pure Tryz.prog 45 [.sl (s11.map cS),.sl (s22.map cS)] (.bool r):=by
 rw[zB0] at h
 refine zAA Tryz.func45 (by rfl) (by rfl) (by simp) (by simp) (by simp)<|cutA 26 0 [(0,.sl (s11.map cS)),(1,.sl (s22.map cS))] []<|zAD<|cutA 26 0 [(0,.sl (s11.map cS)),(1,.sl (s22.map cS)),(10,.bool (!(eqI s11.length s22.length)))] [] ?_
 rcases sp h with ⟨g3,h⟩|⟨g3,h⟩
 ·have g4:=notT g3
  have c5:=eqF g4
  refine zEk rfl g3<|cutA 26 0 [(4,.bool false)] []<|zAB<|zAE ?_
  obtain rfl:=oi h
  simp
 have g6:=notF g3
 have c7:=eqT g6
 refine zEc rfl g3<|zAC<|zAH<|zAD<|cutA 26 0 [(0,.sl (s11.map cS)),(1,.sl (s22.map cS)),(12,iI s11.length),(13,iI 0)] []<|zAF ?_
 obtain⟨o10,l11,h⟩:=bs h
 refine zAm (fun p:Nat×Nat=>mkS 26 0 [(0,.sl (s11.map cS)),(1,.sl (s22.map cS)),(12,iI s11.length),(13,iI p.2)] []) (fun p=>zBL s11 s22 p.1 p.2=some o10) (fun p=>p.1) (fuel,0) l11 (zAL (by simp)) ?_
 rintro⟨k12,i8⟩ l11
 try dsimp only at l11 ⊢
 cases k12 with
 |zero=>
  rw[zBL] at l11;cases l11
 |succ k13=>
  rw[zBL] at l11
  refine cutA 26 0 [(0,.sl (s11.map cS)),(1,.sl (s22.map cS)),(12,iI s11.length),(13,iI i8),(14,.bool (ltI i8 s11.length))] []<|zAD<|spc l11 rfl (fun g14 l11=>?_) fun g14 l11=>?_
  ·have c15:=ltT g14
   refine zCA 0 rfl fun f16=>?_
   rw[zq4] at f16
   refine zAC<|zAH<|zAD<|zAF<|cutA 26 0 [(0,.sl (s11.map cS)),(1,.sl (s22.map cS)),(5,iI i8),(12,iI s11.length),(13,iI i8)] [] ?_
   obtain⟨x17,q18,l11⟩:=bs l11
   obtain⟨x19,q20,l11⟩:=bs l11
   refine cut 26 0 [(0,.sl (s11.map cS)),(1,.sl (s22.map cS)),(12,iI s11.length),(13,iI i8),(24,.bool (!(eqS x17 x19)))] [] ?_ ?_
   ·refine zAJ [] mixed (n:=26) rfl (by decide) ?_
    simp[q18,q20]
   refine spc l11 rfl (fun g21 l11=>?_) fun g21 l11=>?_
   ·have g22:=notT g21
    refine cutA 26 0 [(4,.bool false)] []<|zAB<|zAK<|zAE ?_
    replace h:=retL l11 h
    refine zAE<|zAK<|zAE ?_
    obtain rfl:=oi h
    simp
   have g23:=notF g21
   refine zAC<|zC1<|zAH ?_
   have q24:Rng .i64 (((i8:Nat):Int)+1):=by simp only[Rng,inR];omega
   try simp at q24
   refine last 26 0 [(0,.sl (s11.map cS)),(1,.sl (s22.map cS)),(12,iI s11.length),(13,iI ((i8+1:Nat):Int))] [] (st (by simp[q24])) fun zz hs=>?_
   exact⟨(k13,i8+1),hs,l11,by simp⟩
  have c25:=ltF g14
  refine zCA 0 rfl fun f26=>?_
  rw[zq4] at f26
  refine zAQ<|zAG ?_
  rcases o10 with o10|o9
  ·cases l11
  have q27:=Sum.inr.inj (zqa l11)
  replace h:=zF0 h
  refine zAG<|zAS<|zAM (t:=mkS 26 0 [] []) ?_ (zAL (by simp))
  refine cutA 26 0 [(4,.bool true)] []<|zAB ?_
  obtain rfl:=oi h
  simp
theorem zDV(fuel:Nat):(∀(s11:(List zMZ))(s22:(List zMZ))(r:Bool)(_:zBA fuel s11 s22=some r),Pure Tryz.prog 78 [.sl (s11.map zMZ.c),.sl (s22.map zMZ.c),.fn (.func 43) [] []] (.bool r))∧(∀(a1:zMZ)(b2:zMZ)(r:Bool)(_:zBq fuel a1 b2=some r),Pure Tryz.prog 43 [.agg (zMZ.d a1),.agg (zMZ.d b2)] (.bool r)):=by
 induction fuel with
 |zero=>
  refine⟨?_,?_⟩
  ·intro s11 s22 r h;rw[zBA] at h;cases h
  ·intro a1 b2 r h;rw[zBq] at h;cases h
 |succ fuel ih=>
  obtain⟨zE8,zMA⟩:=ih
  refine⟨?_,?_⟩
  ·intro s11 s22 r h
   rw[zBA] at h
   refine zAA Tryz.func78 (by rfl) (by rfl) (by simp) (by simp) (by simp)<|cutA 32 0 [(0,.sl (s11.map zMZ.c)),(1,.sl (s22.map zMZ.c)),(2,.fn (.func 43) [] [])] []<|zAD<|cutA 32 0 [(0,.sl (s11.map zMZ.c)),(1,.sl (s22.map zMZ.c)),(2,.fn (.func 43) [] []),(14,.bool (!(eqI s11.length s22.length)))] [] ?_
   rcases sp h with ⟨g3,h⟩|⟨g3,h⟩
   ·have g4:=notT g3
    have c5:=eqF g4
    refine zEk rfl g3<|cutA 32 0 [(6,.bool false)] []<|zAB<|zAE ?_
    obtain rfl:=oi h
    simp
   have g6:=notF g3
   have c7:=eqT g6
   refine zEc rfl g3<|zAC<|zAH<|zAD<|cutA 32 0 [(1,.sl (s22.map zMZ.c)),(2,.fn (.func 43) [] []),(15,.sl (s11.map zMZ.c)),(16,iI s11.length),(17,iI 0)] []<|zAF ?_
   obtain⟨o10,l11,h⟩:=bs h
   refine zAm (fun p:Nat×Nat=>mkS 32 0 [(1,.sl (s22.map zMZ.c)),(2,.fn (.func 43) [] []),(15,.sl (s11.map zMZ.c)),(16,iI s11.length),(17,iI p.2)] []) (fun p=>zAd (zBq fuel) s11 s22 p.1 p.2=some o10) (fun p=>p.1) (fuel,0) l11 (zAL (by simp)) ?_
   rintro⟨k12,i8⟩ l11
   try dsimp only at l11 ⊢
   cases k12 with
   |zero=>
    rw[zAd] at l11;cases l11
   |succ k13=>
    rw[zAd] at l11
    refine cutA 32 0 [(1,.sl (s22.map zMZ.c)),(2,.fn (.func 43) [] []),(15,.sl (s11.map zMZ.c)),(16,iI s11.length),(17,iI i8),(18,.bool (ltI i8 s11.length))] []<|zAD<|spc l11 rfl (fun g14 l11=>?_) fun g14 l11=>?_
    ·have c15:=ltT g14
     refine zCA 15 rfl fun f16=>?_
     rw[zq4] at f16
     refine zAC<|zAH<|zAD<|zAF ?_
     obtain⟨x17,q18,l11⟩:=bs l11
     refine cut 32 0 [(1,.sl (s22.map zMZ.c)),(2,.fn (.func 43) [] []),(7,iI i8),(8,pT 0),(15,.sl (s11.map zMZ.c)),(16,iI s11.length),(17,iI i8)] [(zMZ.d x17)] (st (by simp[q18])) ?_
     obtain⟨x19,q20,l11⟩:=bs l11
     refine cut 32 0 [(1,.sl (s22.map zMZ.c)),(2,.fn (.func 43) [] []),(8,pT 0),(9,pT 1),(15,.sl (s11.map zMZ.c)),(16,iI s11.length),(17,iI i8)] [(zMZ.d x17),(zMZ.d x19)] (st (by simp[q20])) ?_
     obtain⟨v21,q22,l11⟩:=bs l11
     refine cut 32 0 [(1,.sl (s22.map zMZ.c)),(2,.fn (.func 43) [] []),(15,.sl (s11.map zMZ.c)),(16,iI s11.length),(17,iI i8),(30,.bool (!v21))] [(zMZ.d x17),(zMZ.d x19)] ?_ ?_
     ·refine st ?_
      simp
      have r27:=zMA x17 x19 v21 q22
      try simp at r27
      refine cP r27 ?_
      simp
     refine spc l11 rfl (fun g23 l11=>?_) fun g23 l11=>?_
     ·have g24:=notT g23
      refine cutA 32 0 [(6,.bool false)] [(zMZ.d x17),(zMZ.d x19)]<|zAB<|zAK<|zAE ?_
      replace h:=retL l11 h
      refine zAE<|zAK<|zAE ?_
      obtain rfl:=oi h
      simp
     have g25:=notF g23
     refine zAC<|zC1<|zAH ?_
     have q26:Rng .i64 (((i8:Nat):Int)+1):=by simp only[Rng,inR];omega
     try simp at q26
     refine last 32 0 [(1,.sl (s22.map zMZ.c)),(2,.fn (.func 43) [] []),(15,.sl (s11.map zMZ.c)),(16,iI s11.length),(17,iI ((i8+1:Nat):Int))] [] (st (by simp[q26])) fun zz hs=>?_
     exact⟨(k13,i8+1),hs,l11,by simp⟩
    have c28:=ltF g14
    refine zCA 15 rfl fun f29=>?_
    rw[zq4] at f29
    refine zAQ<|zAG ?_
    rcases o10 with o10|o9
    ·cases l11
    have q30:=Sum.inr.inj (zqa l11)
    replace h:=zF0 h
    refine zAG<|zAS<|zAM (t:=mkS 32 0 [] []) ?_ (zAL (by simp))
    refine cutA 32 0 [(6,.bool true)] []<|zAB ?_
    obtain rfl:=oi h
    simp
  ·intro a1 b2 r h
   rw[zBq] at h
   refine zAA Tryz.func43 (by rfl) (by rfl) (by simp) (by simp) (by simp)<|cutA 45 0 [(2,pT 0),(3,pT 1)] [(zMZ.d a1),(zMZ.d b2)] ?_
   obtain⟨b18,q19,h⟩:=bs h
   refine cut 45 0 [(4,.bool b18)] [(zMZ.d a1),(zMZ.d b2)] ?_ ?_
   ·refine zAw ?_
    rcases sp q19 with ⟨g3,q19⟩|⟨g3,q19⟩
    ·have c4:=eqT g3
     rcases sp q19 with ⟨g5,q19⟩|⟨g5,q19⟩
     ·have c6:=eqT g5
      rcases sp q19 with ⟨g7,q19⟩|⟨g7,q19⟩
      ·obtain⟨v8,q9,q19⟩:=bs q19
       have g3x:=g3
       try simp only[g5,g7] at g3x
       have g5x:=g5
       try simp only[g3,g7] at g5x
       have g7x:=g7
       try simp only[g3,g5] at g7x
       refine WL.cut 25 45 0 [(2,pT 0),(3,pT 1),(24,.bool (eqS a1.S b2.S)),(29,.bool v8)] [(zMZ.d a1),(zMZ.d b2)] ?_ ?_
       ·simp[g3,g5,g7,g3x,g5x,g7x]
        have r20:=tycon_same_ok fuel a1.Kind b2.Kind v8 q9
        try simp[g3,g5,g7,g3x,g5x,g7x] at r20
        refine cP r20 ?_
        simp[g3,g5,g7,g3x,g5x,g7x]
       rcases sp q19 with ⟨g10,q19⟩|⟨g10,q19⟩
       ·obtain⟨v11,q12,q19⟩:=bs q19
        have g10x:=g10
        try simp only[g3,g5,g7] at g10x
        refine WL.cut 7 45 0 [(2,pT 0),(3,pT 1),(31,.bool v8),(36,.bool v11)] [(zMZ.d a1),(zMZ.d b2)] ?_ ?_
        ·simp[g3,g5,g7,g10,g3x,g5x,g7x,g10x]
         have r21:=zFX fuel a1.Names b2.Names v11 q12
         try simp[g3,g5,g7,g10,g3x,g5x,g7x,g10x] at r21
         refine cP r21 ?_
         simp[g3,g5,g7,g10,g3x,g5x,g7x,g10x]
        rcases sp q19 with ⟨g13,q19⟩|⟨g13,q19⟩
        ·obtain⟨v14,q15,q19⟩:=bs q19
         obtain rfl:=oi q19
         have g13x:=g13
         try simp only[g3,g5,g7,g10] at g13x
         refine WL.cut 7 45 0 [(38,.bool v11),(43,.bool v14)] [(zMZ.d a1),(zMZ.d b2)] ?_ ?_
         ·simp[g3,g5,g7,g10,g13,g3x,g5x,g7x,g10x,g13x]
          have r22:=zE8 a1.L b2.L v14 q15
          try simp[g3,g5,g7,g10,g13,g3x,g5x,g7x,g10x,g13x] at r22
          refine cP r22 ?_
          simp[g3,g5,g7,g10,g13,g3x,g5x,g7x,g10x,g13x]
         refine WL.last ?_
         simp[g3,g5,g7,g10,g13,g3x,g5x,g7x,g10x,g13x]
        obtain rfl:=oi q19
        have g13x:=g13
        try simp only[g3,g5,g7,g10] at g13x
        refine WL.last ?_
        simp[g3,g5,g7,g10,g13,g3x,g5x,g7x,g10x,g13x]
       obtain rfl:=oi q19
       have g10x:=g10
       try simp only[g3,g5,g7] at g10x
       refine WL.last ?_
       simp[g3,g5,g7,g10,g3x,g5x,g7x,g10x]
      obtain rfl:=oi q19
      have g3x:=g3
      try simp only[g5,g7] at g3x
      have g5x:=g5
      try simp only[g3,g7] at g5x
      have g7x:=g7
      try simp only[g3,g5] at g7x
      refine WL.last ?_
      simp[g3,g5,g7,g3x,g5x,g7x]
     have c16:=eqF g5
     obtain rfl:=oi q19
     have g3x:=g3
     try simp only[g5] at g3x
     have g5x:=g5
     try simp only[g3] at g5x
     refine WL.last ?_
     simp[g3,g5,g3x,g5x]
    have c17:=eqF g3
    obtain rfl:=oi q19
    refine WL.last ?_
    simp[g3]
   refine zAB ?_
   obtain rfl:=oi h
   simp
theorem zGu(fuel:Nat):(∀(a1:zMZ)(b2:zMZ)(r:Bool)(_:zBq fuel a1 b2=some r),Pure Tryz.prog 43 [.agg (zMZ.d a1),.agg (zMZ.d b2)] (.bool r)):=(zDV fuel).2
theorem zLg(fuel:Nat)(k1:zMY)(r:Bool)(h:zFg fuel k1=some r):Pure Tryz.prog 134 [.agg [.sl (k1.L.map zMY.c)]] (.bool r):=by
 rw[zFg] at h
 refine zAA Tryz.func134 (by rfl) (by rfl) (by simp) (by simp) (by simp)<|cutA 6 0 [(1,pT 0)] [[.sl (k1.L.map zMY.c)]] ?_
 obtain⟨v2,q3,h⟩:=bs h
 refine cut 6 0 [(2,.bool (!v2))] [[.sl (k1.L.map zMY.c)]] ?_ ?_
 ·refine st ?_
  simp
  have r4:=zDd fuel k1 v2 q3
  try simp at r4
  refine cP r4 ?_
  simp
 refine zAB ?_
 obtain rfl:=oi h
 simp
theorem zEe(fuel:Nat)(s1:(List zMY))(r:Int)(h:zBR fuel s1=some r):Pure Tryz.prog 84 [.sl (s1.map zMY.c),.fn (.func 134) [] []] (iI r):=by
 rw[zBR] at h
 refine zAA Tryz.func84 (by rfl) (by rfl) (by simp) (by simp) (by simp)<|cutA 19 0 [(0,.sl (s1.map zMY.c)),(1,.fn (.func 134) [] [])] []<|zAD<|cutA 19 0 [(0,.sl (s1.map zMY.c)),(1,.fn (.func 134) [] []),(7,iI s1.length),(8,iI 0)] []<|zAF ?_
 obtain⟨o4,l5,h⟩:=bs h
 refine zAm (fun p:Nat×Nat=>mkS 19 0 [(0,.sl (s1.map zMY.c)),(1,.fn (.func 134) [] []),(7,iI s1.length),(8,iI p.2)] []) (fun p=>zAU fuel s1 p.1 p.2=some o4) (fun p=>p.1) (fuel,0) l5 (zAL (by simp)) ?_
 rintro⟨k6,i2⟩ l5
 try dsimp only at l5 ⊢
 cases k6 with
 |zero=>
  rw[zAU] at l5;cases l5
 |succ k7=>
  rw[zAU] at l5
  refine cutA 19 0 [(0,.sl (s1.map zMY.c)),(1,.fn (.func 134) [] []),(7,iI s1.length),(8,iI i2),(9,.bool (ltI i2 s1.length))] []<|zAD<|spc l5 rfl (fun g8 l5=>?_) fun g8 l5=>?_
  ·have c9:=ltT g8
   refine zCA 0 rfl fun f10=>?_
   rw[zq4] at f10
   refine zAC<|zAH<|zAD<|zAF<|cutA 19 0 [(0,.sl (s1.map zMY.c)),(1,.fn (.func 134) [] []),(5,iI i2),(7,iI s1.length),(8,iI i2)] [] ?_
   obtain⟨x11,q12,l5⟩:=bs l5
   obtain⟨v13,q14,l5⟩:=bs l5
   refine cut 19 0 [(0,.sl (s1.map zMY.c)),(1,.fn (.func 134) [] []),(5,iI i2),(7,iI s1.length),(8,iI i2),(16,.bool v13)] [] ?_ ?_
   ·refine st ?_
    simp[q12]
    have r17:=zLg fuel x11 v13 q14
    try simp[q12] at r17
    refine cP r17 ?_
    simp[q12]
   refine spc l5 rfl (fun g15 l5=>?_) fun g15 l5=>?_
   ·refine cutA 19 0 [(4,iI i2)] []<|zAB<|zAK<|zAE ?_
    replace h:=retL l5 h
    refine zAE<|zAK<|zAE ?_
    obtain rfl:=oi h
    simp
   refine zAC<|zC1<|zAH ?_
   have q16:Rng .i64 (((i2:Nat):Int)+1):=by simp only[Rng,inR];omega
   try simp at q16
   refine last 19 0 [(0,.sl (s1.map zMY.c)),(1,.fn (.func 134) [] []),(7,iI s1.length),(8,iI ((i2+1:Nat):Int))] [] (st (by simp[q16])) fun zz hs=>?_
   exact⟨(k7,i2+1),hs,l5,by simp⟩
  have c18:=ltF g8
  refine zCA 0 rfl fun f19=>?_
  rw[zq4] at f19
  refine zAQ<|zAG ?_
  rcases o4 with o4|o3
  ·cases l5
  have q20:=Sum.inr.inj (zqa l5)
  replace h:=zF0 h
  refine zAG<|zAS<|zAM (t:=mkS 19 0 [] []) ?_ (zAL (by simp))
  refine cutA 19 0 [(4,iI (-1))] []<|zAB ?_
  obtain rfl:=oi h
  simp
theorem zED(fuel:Nat)(s1:(List zMY))(r:Bool)(h:zA6 fuel s1=some r):Pure Tryz.prog 50 [.sl (s1.map zMY.c),.fn (.func 134) [] []] (.bool r):=by
 rw[zA6] at h
 refine zAA Tryz.func50 (by rfl) (by rfl) (by simp) (by simp) (by simp)<|cutA 9 0 [(0,.sl (s1.map zMY.c)),(1,.fn (.func 134) [] [])] [] ?_
 obtain⟨v2,q3,h⟩:=bs h
 refine cut 9 0 [(4,.bool (leI 0 v2))] [] ?_ ?_
 ·refine st ?_
  simp
  have r4:=zEe fuel s1 v2 q3
  try simp at r4
  refine cP r4 ?_
  simp
 refine zAB ?_
 obtain rfl:=oi h
 simp
theorem zCr(fuel:Nat)(l1:(List zMY))(r:Bool)(h:zFO fuel l1=some r):Pure Tryz.prog 101 [.sl (l1.map zMY.c)] (.bool r):=by
 rw[zFO] at h
 refine zAA Tryz.func101 (by rfl) (by rfl) (by simp) (by simp) (by simp)<|cutA 11 0 [(0,.sl (l1.map zMY.c))] [] ?_
 obtain⟨b9,q10,h⟩:=bs h
 refine cut 11 0 [(2,.bool b9)] [] ?_ ?_
 ·rcases sp q10 with ⟨g2,q10⟩|⟨g2,q10⟩
  ·have c3:=leT g2
   refine zCA 0 rfl fun f4=>?_
   rw[zq4] at f4
   obtain⟨v5,q6,q10⟩:=bs q10
   obtain rfl:=oi q10
   refine st ?_
   simp[g2]
   have r11:=zED fuel l1 v5 q6
   try simp[g2] at r11
   refine cP r11 ?_
   simp[g2]
  have c7:=leF g2
  refine zCA 0 rfl fun f8=>?_
  rw[zq4] at f8
  obtain rfl:=oi q10
  refine st ?_
  simp[g2]
 refine zAB ?_
 obtain rfl:=oi h
 simp
theorem sem_node_ok(fuel:Nat)(s1:zMa)(r:Bool)(h:zHt fuel s1=some r):Pure Tryz.prog 68 [.agg (zMa.d s1)] (.bool r):=by
 rw[zHt] at h
 refine zAA Tryz.func68 (by rfl) (by rfl) (by simp) (by simp) (by simp)<|cutA 138 0 [(1,pT 0)] [(zMa.d s1)]<|zAD ?_
 obtain⟨b12,q13,h⟩:=bs h
 refine cut 138 0 [(1,pT 0),(16,.bool b12)] [(zMa.d s1)] ?_ ?_
 ·obtain⟨v2,q3,q13⟩:=bs q13
  rcases sp q13 with ⟨g4,q13⟩|⟨g4,q13⟩
  ·have g5:=notT g4
   obtain rfl:=oi q13
   refine st ?_
   simp[g4]
   have r117:=zIP fuel s1 v2 q3
   try simp[g4] at r117
   refine cP r117 ?_
   simp[g4]
  have g6:=notF g4
  rcases sp q13 with ⟨g7,q13⟩|⟨g7,q13⟩
  ·have g8:=notT g7
   have c9:=eqF g8
   obtain rfl:=oi q13
   refine st ?_
   simp[g4,g7]
   have r118:=zIP fuel s1 v2 q3
   try simp[g4,g7] at r118
   refine cP r118 ?_
   simp[g4,g7]
  have g10:=notF g7
  have c11:=eqT g10
  obtain rfl:=oi q13
  refine st ?_
  simp[g4,g7]
  have r119:=zIP fuel s1 v2 q3
  try simp[g4,g7] at r119
  refine cP r119 ?_
  simp[g4,g7]
 refine spc h rfl (fun g14 h=>?_) fun g14 h=>?_
 ·refine cutA 138 0 [(2,.bool false)] [(zMa.d s1)]<|zAB<|zAE ?_
  obtain rfl:=oi h
  simp
 refine zAC<|zAH<|zAD ?_
 obtain⟨b37,q38,h⟩:=bs h
 refine cut 138 0 [(1,pT 0),(38,.bool b37)] [(zMa.d s1)] ?_ ?_
 ·refine zAw ?_
  obtain⟨v15,q16,q38⟩:=bs q38
  refine WL.cut 3 138 0 [(1,pT 0),(19,.bool v15)] [(zMa.d s1)] ?_ ?_
  ·simp
   have r111:=zEp s1.Op v15 q16
   try simp at r111
   refine cP r111 ?_
   simp
  rcases sp q38 with ⟨g17,q38⟩|⟨g17,q38⟩
  ·obtain⟨v18,q19,q38⟩:=bs q38
   refine WL.cut 4 138 0 [(1,pT 0),(20,.bool v15),(23,.bool v18)] [(zMa.d s1)] ?_ ?_
   ·simp[g17]
    have r112:=zC6 fuel s1.Con v18 q19
    try simp[g17] at r112
    refine cP r112 ?_
    simp[g17]
   rcases sp q38 with ⟨g20,q38⟩|⟨g20,q38⟩
   ·have g21:=notT g20
    obtain rfl:=oi q38
    have g17x:=g17
    try simp only[g20] at g17x
    have g20x:=g20
    try simp only[g17] at g20x
    refine WL.last ?_
    simp[g17,g20,g17x,g20x]
   have g22:=notF g20
   obtain⟨v23,q24,q38⟩:=bs q38
   have g17x:=g17
   try simp only[g20] at g17x
   have g20x:=g20
   try simp only[g17] at g20x
   refine WL.cut 6 138 0 [(1,pT 0),(26,.bool (!v18)),(29,.bool v23)] [(zMa.d s1)] ?_ ?_
   ·simp[g17,g20,g17x,g20x]
    have r113:=zEp s1.Op v23 q24
    try simp[g17,g20,g17x,g20x] at r113
    refine cP r113 ?_
    simp[g17,g20,g17x,g20x]
   rcases sp q38 with ⟨g25,q38⟩|⟨g25,q38⟩
   ·have g26:=notT g25
    obtain⟨v27,q28,q38⟩:=bs q38
    obtain rfl:=oi q38
    have g25x:=g25
    try simp only[g17,g20] at g25x
    refine WL.cut 6 138 0 [(1,pT 0),(26,.bool (!v18)),(31,.bool (!v23)),(35,.bool v27)] [(zMa.d s1)] ?_ ?_
    ·simp[g17,g20,g25,g17x,g20x,g25x]
     have r114:=zGu fuel s1.Con (zMZ.mk 0 0 ([]:List UInt8) (zMY.mk ([]:List zMY)) ([]:List (List UInt8)) ([]:List zMZ)) v27 q28
     try simp[g17,g20,g25,g17x,g20x,g25x] at r114
     refine cP r114 ?_
     simp[g17,g20,g25,g17x,g20x,g25x]
    refine WL.last ?_
    simp[g17,g20,g25,g17x,g20x,g25x]
   have g29:=notF g25
   obtain rfl:=oi q38
   have g25x:=g25
   try simp only[g17,g20] at g25x
   refine WL.last ?_
   simp[g17,g20,g25,g17x,g20x,g25x]
  obtain⟨v30,q31,q38⟩:=bs q38
  refine WL.cut 10 138 0 [(1,pT 0),(26,.bool false),(29,.bool v30)] [(zMa.d s1)] ?_ ?_
  ·simp[g17]
   have r115:=zEp s1.Op v30 q31
   try simp[g17] at r115
   refine cP r115 ?_
   simp[g17]
  rcases sp q38 with ⟨g32,q38⟩|⟨g32,q38⟩
  ·have g33:=notT g32
   obtain⟨v34,q35,q38⟩:=bs q38
   obtain rfl:=oi q38
   have g17x:=g17
   try simp only[g32] at g17x
   have g32x:=g32
   try simp only[g17] at g32x
   refine WL.cut 6 138 0 [(1,pT 0),(26,.bool false),(31,.bool (!v30)),(35,.bool v34)] [(zMa.d s1)] ?_ ?_
   ·simp[g17,g32,g17x,g32x]
    have r116:=zGu fuel s1.Con (zMZ.mk 0 0 ([]:List UInt8) (zMY.mk ([]:List zMY)) ([]:List (List UInt8)) ([]:List zMZ)) v34 q35
    try simp[g17,g32,g17x,g32x] at r116
    refine cP r116 ?_
    simp[g17,g32,g17x,g32x]
   refine WL.last ?_
   simp[g17,g32,g17x,g32x]
  have g36:=notF g32
  obtain rfl:=oi q38
  have g17x:=g17
  try simp only[g32] at g17x
  have g32x:=g32
  try simp only[g17] at g32x
  refine WL.last ?_
  simp[g17,g32,g17x,g32x]
 refine spc h rfl (fun g39 h=>?_) fun g39 h=>?_
 ·refine cutA 138 0 [(2,.bool false)] [(zMa.d s1)]<|zAB<|zAE ?_
  obtain rfl:=oi h
  simp
 refine zAC<|zAH<|zAD ?_
 obtain⟨b48,q49,h⟩:=bs h
 refine cut 138 0 [(1,pT 0),(59,.bool b48)] [(zMa.d s1)] ?_ ?_
 ·rcases sp q49 with ⟨g40,q49⟩|⟨g40,q49⟩
  ·have c41:=eqT g40
   obtain⟨v42,q43,q49⟩:=bs q49
   rcases sp q49 with ⟨g44,q49⟩|⟨g44,q49⟩
   ·have g45:=notT g44
    obtain rfl:=oi q49
    refine st ?_
    simp[g40,g44]
    have r109:=zDd fuel s1.Kind v42 q43
    try simp[g40,g44] at r109
    refine cP r109 ?_
    simp[g40,g44]
   have g46:=notF g44
   obtain rfl:=oi q49
   refine st ?_
   simp[g40,g44]
   have r110:=zDd fuel s1.Kind v42 q43
   try simp[g40,g44] at r110
   refine cP r110 ?_
   simp[g40,g44]
  have c47:=eqF g40
  obtain rfl:=oi q49
  refine st ?_
  simp[g40]
 refine spc h rfl (fun g50 h=>?_) fun g50 h=>?_
 ·refine cutA 138 0 [(2,.bool false)] [(zMa.d s1)]<|zAB<|zAE ?_
  obtain rfl:=oi h
  simp
 refine zAC<|zAH<|zAD ?_
 obtain⟨b59,q60,h⟩:=bs h
 refine cut 138 0 [(1,pT 0),(78,.bool b59)] [(zMa.d s1)] ?_ ?_
 ·rcases sp q60 with ⟨g51,q60⟩|⟨g51,q60⟩
  ·have c52:=eqT g51
   obtain⟨v53,q54,q60⟩:=bs q60
   rcases sp q60 with ⟨g55,q60⟩|⟨g55,q60⟩
   ·have g56:=notT g55
    obtain rfl:=oi q60
    refine st ?_
    simp[g51,g55]
    have r107:=zD2 fuel s1.S v53 q54
    try simp[g51,g55] at r107
    refine cP r107 ?_
    simp[g51,g55]
   have g57:=notF g55
   obtain rfl:=oi q60
   refine st ?_
   simp[g51,g55]
   have r108:=zD2 fuel s1.S v53 q54
   try simp[g51,g55] at r108
   refine cP r108 ?_
   simp[g51,g55]
  have c58:=eqF g51
  obtain rfl:=oi q60
  refine st ?_
  simp[g51]
 refine spc h rfl (fun g61 h=>?_) fun g61 h=>?_
 ·refine cutA 138 0 [(2,.bool false)] [(zMa.d s1)]<|zAB<|zAE ?_
  obtain rfl:=oi h
  simp
 refine zAC<|zAH<|zAD<|cutA 138 0 [(1,pT 0),(80,iI s1.Op)] [(zMa.d s1)]<|zAF<|cutA 138 0 [(1,pT 0),(80,iI s1.Op),(81,.bool (eqI s1.Op 4))] [(zMa.d s1)]<|spc h rfl (fun g62 h=>?_) fun g62 h=>?_
 ·obtain⟨b70,q71,h⟩:=bs h
  refine cut 138 0 [(2,.bool b70)] [(zMa.d s1)] ?_ ?_
  ·rcases sp q71 with ⟨g64,q71⟩|⟨g64,q71⟩
   ·have c65:=eqT g64
    obtain⟨v66,q67,q71⟩:=bs q71
    rcases sp q71 with ⟨g68,q71⟩|⟨g68,q71⟩
    ·obtain rfl:=oi q71
     refine st ?_
     simp[g64,g68]
     have r72:=zCr fuel s1.Kinds v66 q67
     try simp[g64,g68] at r72
     refine cP r72 ?_
     simp[g64,g68]
    obtain rfl:=oi q71
    refine st ?_
    simp[g64,g68]
    have r73:=zCr fuel s1.Kinds v66 q67
    try simp[g64,g68] at r73
    refine cP r73 ?_
    simp[g64,g68]
   have c69:=eqF g64
   obtain rfl:=oi q71
   refine st ?_
   simp[g64]
  refine zAB<|zAK<|zAE ?_
  obtain rfl:=oi h
  simp
 refine cutA 138 0 [(1,pT 0),(97,.bool (eqI s1.Op 6))] [(zMa.d s1)]<|spc h rfl (fun g75 h=>?_) fun g75 h=>?_
 ·obtain⟨b89,q90,h⟩:=bs h
  refine cut 138 0 [(2,.bool b89)] [(zMa.d s1)] ?_ ?_
  ·obtain⟨v77,q78,q90⟩:=bs q90
   rcases sp q90 with ⟨g79,q90⟩|⟨g79,q90⟩
   ·obtain⟨v80,q81,q90⟩:=bs q90
    rcases sp q90 with ⟨g82,q90⟩|⟨g82,q90⟩
    ·rcases sp q90 with ⟨g83,q90⟩|⟨g83,q90⟩
     ·have c84:=eqT g83
      obtain rfl:=oi q90
      refine st ?_
      simp[g79,g82,g83]
      have r91:=zCr fuel s1.Kinds v77 q78
      try simp[g79,g82,g83] at r91
      refine cP r91 ?_
      simp[g79,g82,g83]
      have r92:=zCr fuel s1.More v80 q81
      try simp[g79,g82,g83] at r92
      refine cP r92 ?_
      simp[g79,g82,g83]
     have c85:=eqF g83
     rcases sp q90 with ⟨g86,q90⟩|⟨g86,q90⟩
     ·have c87:=eqT g86
      obtain rfl:=oi q90
      refine st ?_
      simp[g79,g82,g83,g86]
      have r93:=zCr fuel s1.Kinds v77 q78
      try simp[g79,g82,g83,g86] at r93
      refine cP r93 ?_
      simp[g79,g82,g83,g86]
      have r94:=zCr fuel s1.More v80 q81
      try simp[g79,g82,g83,g86] at r94
      refine cP r94 ?_
      simp[g79,g82,g83,g86]
     have c88:=eqF g86
     obtain rfl:=oi q90
     refine st ?_
     simp[g79,g82,g83,g86]
     have r95:=zCr fuel s1.Kinds v77 q78
     try simp[g79,g82,g83,g86] at r95
     refine cP r95 ?_
     simp[g79,g82,g83,g86]
     have r96:=zCr fuel s1.More v80 q81
     try simp[g79,g82,g83,g86] at r96
     refine cP r96 ?_
     simp[g79,g82,g83,g86]
    obtain rfl:=oi q90
    refine st ?_
    simp[g79,g82]
    have r97:=zCr fuel s1.Kinds v77 q78
    try simp[g79,g82] at r97
    refine cP r97 ?_
    simp[g79,g82]
    have r98:=zCr fuel s1.More v80 q81
    try simp[g79,g82] at r98
    refine cP r98 ?_
    simp[g79,g82]
   obtain rfl:=oi q90
   refine st ?_
   simp[g79]
   have r99:=zCr fuel s1.Kinds v77 q78
   try simp[g79] at r99
   refine cP r99 ?_
   simp[g79]
  refine zAB<|zAK<|zAE ?_
  obtain rfl:=oi h
  simp
 refine zAC<|zC1<|zAH<|cut 138 0 [(2,.bool ((eqI s1.N 0)&&((eqI s1.Kinds.length 0)&&(eqI s1.More.length 0))))] [(zMa.d s1)] ?_ ?_
 ·rcases tf (eqI s1.N 0) with g101|g101
  ·have c102:=eqT g101
   rcases tf (eqI s1.Kinds.length 0) with g103|g103
   ·have c104:=eqT g103
    refine st ?_
    simp[g101,g103]
   have c105:=eqF g103
   refine st ?_
   simp[g101,g103]
  have c106:=eqF g101
  refine st ?_
  simp[g101]
 refine zAB ?_
 obtain rfl:=oi h
 simp
theorem zIy(fuel:Nat):(∀(s1:zMa)(left2:Int)(depth3:Int)(r:Int×Bool)(_:zCN fuel s1 left2 depth3=some r),Pure Tryz.prog 39 [.agg (zMa.d s1),iI left2,iI depth3] (.tup [iI r.1,.bool r.2])):=by
 induction fuel with
 |zero=>intro s1 left2 depth3 r h;rw[zCN] at h;cases h
 |succ fuel zMB=>
  intro s1 left2 depth3 r h
  rw[zCN] at h
  refine zAA Tryz.func39 (by rfl) (by rfl) (by simp) (by simp) (by simp)<|cutA 59 0 [(1,iI left2),(2,iI depth3),(3,pT 0)] [(zMa.d s1)]<|zAD ?_
  obtain⟨b12,q13,h⟩:=bs h
  refine cut 59 0 [(1,iI left2),(2,iI depth3),(3,pT 0),(23,.bool b12)] [(zMa.d s1)] ?_ ?_
  ·rcases sp q13 with ⟨g4,q13⟩|⟨g4,q13⟩
   ·have c5:=leT g4
    obtain rfl:=oi q13
    refine st ?_
    simp[g4]
   have c6:=leF g4
   rcases sp q13 with ⟨g7,q13⟩|⟨g7,q13⟩
   ·have c8:=ltT g7
    obtain rfl:=oi q13
    refine st ?_
    simp[g4,g7]
   have c9:=ltF g7
   obtain⟨v10,q11,q13⟩:=bs q13
   obtain rfl:=oi q13
   refine st ?_
   simp[g4,g7]
   have r66:=sem_node_ok fuel s1 v10 q11
   try simp[g4,g7] at r66
   refine cP r66 ?_
   simp[g4,g7]
  refine spc h rfl (fun g14 h=>?_) fun g14 h=>?_
  ·refine cutA 59 0 [(6,iI 0),(7,.bool false)] [(zMa.d s1)]<|zAB<|zAE ?_
   obtain rfl:=oi h
   simp
  refine zAC<|zAH<|cutA 59 0 [(1,iI left2),(2,iI depth3),(3,pT 0),(8,iI 1)] [(zMa.d s1)] ?_
  obtain⟨j15,l16,h⟩:=bs h
  refine zLO 59 0 [(1,iI left2),(2,iI depth3),(3,pT 0),(8,iI j15)] [(zMa.d s1)] (fun jj=>?_) ?_
  ·obtain⟨v17,q18,l16⟩:=bs l16
   refine cut 59 0 [(1,iI left2),(2,iI depth3),(3,pT 0),(8,iI 1),(26,.bool v17)] [(zMa.d s1)] ?_ ?_
   ·refine st ?_
    simp
    have r28:=zEp s1.Op v17 q18
    try simp at r28
    refine cP r28 ?_
    simp
   refine spc l16 rfl (fun g19 l16=>?_) fun g19 l16=>?_
   ·obtain⟨v20,q21,l16⟩:=bs l16
    obtain⟨n22,q23,l16⟩:=bs l16
    obtain⟨q24,q25⟩:=zBj q23
    try simp at q24
    try simp at q25
    have c26:=q24;simp only[Rng,inR] at c26
    refine last 59 0 [(1,iI left2),(2,iI depth3),(3,pT 0),(8,iI n22)] [(zMa.d s1)] ?_ fun zz hs=>?_
    ·refine st ?_
     simp[q24,q25]
     have r27:=zGO fuel s1.Con v20 q21
     try simp[q24,q25] at r27
     refine cP r27 ?_
     simp[q24,q25]
    obtain rfl:=oi l16
    exact zAM jj hs
   refine zAC ?_
   obtain rfl:=oi l16
   exact zAM jj (zAL (by simp))
  refine zAD<|cutA 59 0 [(1,iI left2),(2,iI depth3),(8,iI j15),(33,.sl (s1.L.map zMa.c)),(34,iI s1.L.length),(35,iI 0)] [(zMa.d s1)]<|zAF ?_
  obtain⟨o32,l33,h⟩:=bs h
  refine zAm (fun p:Nat×Int×Nat=>mkS 59 0 [(1,iI left2),(2,iI depth3),(8,iI p.2.1),(33,.sl (s1.L.map zMa.c)),(34,iI s1.L.length),(35,iI p.2.2)] [(zMa.d s1)]) (fun p=>zCu (zCN fuel) s1 left2 depth3 p.1 p.2.1 p.2.2=some o32) (fun p=>p.1) (fuel,j15,0) l33 (zAL (by simp)) ?_
  rintro⟨k34,n29,i30⟩ l33
  try dsimp only at l33 ⊢
  cases k34 with
  |zero=>
   rw[zCu] at l33;cases l33
  |succ k35=>
   rw[zCu] at l33
   refine cutA 59 0 [(1,iI left2),(2,iI depth3),(8,iI n29),(33,.sl (s1.L.map zMa.c)),(34,iI s1.L.length),(35,iI i30),(36,.bool (ltI i30 s1.L.length))] [(zMa.d s1)]<|zAD<|spc l33 rfl (fun g36 l33=>?_) fun g36 l33=>?_
   ·have c37:=ltT g36
    refine zCA 33 rfl fun f38=>?_
    rw[zq4] at f38
    refine zAC<|zAH<|zAD<|zAF ?_
    obtain⟨x39,q40,l33⟩:=bs l33
    refine cut 59 0 [(1,iI left2),(2,iI depth3),(8,iI n29),(10,pT 1),(33,.sl (s1.L.map zMa.c)),(34,iI s1.L.length),(35,iI i30)] [(zMa.d s1),(zMa.d x39)] (st (by simp[q40])) ?_
    obtain⟨n41,q42,l33⟩:=bs l33
    obtain⟨q43,q44⟩:=zBj q42
    try simp at q43
    try simp at q44
    have c45:=q43;simp only[Rng,inR] at c45
    obtain⟨n46,q47,l33⟩:=bs l33
    obtain⟨q48,q49⟩:=zBj q47
    try simp at q48
    try simp at q49
    have c50:=q48;simp only[Rng,inR] at c50
    obtain⟨v51,q52,l33⟩:=bs l33
    refine cut 59 0 [(1,iI left2),(2,iI depth3),(8,iI n29),(11,iI v51.1),(12,.bool v51.2),(33,.sl (s1.L.map zMa.c)),(34,iI s1.L.length),(35,iI i30)] [(zMa.d s1),(zMa.d x39)] ?_ ?_
    ·refine st ?_
     simp[q43,q44,q48,q49]
     have r62:=zMB x39 n41 n46 v51 q52
     try simp[q43,q44,q48,q49] at r62
     refine cP r62 ?_
     simp[q43,q44,q48,q49]
    refine zAD<|cutA 59 0 [(1,iI left2),(2,iI depth3),(8,iI n29),(11,iI v51.1),(33,.sl (s1.L.map zMa.c)),(34,iI s1.L.length),(35,iI i30),(50,.bool (!v51.2))] [(zMa.d s1),(zMa.d x39)]<|spc l33 rfl (fun g53 l33=>?_) fun g53 l33=>?_
    ·have g54:=notT g53
     refine cutA 59 0 [(6,iI 0),(7,.bool false)] [(zMa.d s1),(zMa.d x39)]<|zAB<|zAE<|zAK<|zAE ?_
     replace h:=retL l33 h
     refine zAE<|zAK<|zAE ?_
     obtain rfl:=oi h
     simp
    have g55:=notF g53
    refine zAC<|zAH ?_
    obtain⟨n56,q57,l33⟩:=bs l33
    obtain⟨q58,q59⟩:=zBj q57
    try simp at q58
    try simp at q59
    have c60:=q58;simp only[Rng,inR] at c60
    refine last 59 0 [(1,iI left2),(2,iI depth3),(8,iI n56),(33,.sl (s1.L.map zMa.c)),(34,iI s1.L.length),(35,iI i30)] [(zMa.d s1),(zMa.d x39)] (st (by simp[q58,q59])) fun zz hs=>?_
    refine zC1<|zAM ?_ hs
    have q61:Rng .i64 (((i30:Nat):Int)+1):=by simp only[Rng,inR];omega
    try simp at q61
    refine last 59 0 [(1,iI left2),(2,iI depth3),(8,iI n56),(33,.sl (s1.L.map zMa.c)),(34,iI s1.L.length),(35,iI ((i30+1:Nat):Int))] [(zMa.d s1)] (st (by simp[q61])) fun zz hs=>?_
    exact⟨(k35,n56,i30+1),hs,l33,by simp⟩
   have c63:=ltF g36
   refine zCA 33 rfl fun f64=>?_
   rw[zq4] at f64
   refine zAQ<|zAG ?_
   rcases o32 with o32|o31
   ·cases l33
   have q65:=Sum.inr.inj (zqa l33)
   replace h:=zF0 h
   have q65:=q65.symm
   refine zAG<|zAS<|zAM (t:=mkS 59 0 [(1,iI left2),(8,iI o31)] [(zMa.d s1)]) ?_ (zAL (by simp[q65]))
   refine cutA 59 0 [(6,iI o31),(7,.bool (leI o31 left2))] [(zMa.d s1)]<|zAB ?_
   obtain rfl:=oi h
   simp
theorem zEq(fuel:Nat)(s1:zMa)(r:Bool)(h:zBn fuel s1=some r):Pure Tryz.prog 19 [.agg (zMa.d s1)] (.bool r):=by
 rw[zBn] at h
 refine zAA Tryz.func19 (by rfl) (by rfl) (by simp) (by simp) (by simp)<|cutA 11 0 [(1,pT 0)] [(zMa.d s1)] ?_
 obtain⟨v2,q3,h⟩:=bs h
 refine cut 11 0 [(4,.bool v2.2)] [(zMa.d s1)] ?_ ?_
 ·refine st ?_
  simp
  have r4:=zIy fuel s1 20000 1 v2 q3
  try simp at r4
  refine cP r4 ?_
  simp
 refine cutA 11 0 [(2,.bool v2.2)] [(zMa.d s1)]<|zAB ?_
 obtain rfl:=oi h
 simp
theorem zL3(fuel:Nat):(∀(c1:zMZ)(r:Int×Int)(_:zCj fuel c1=some r),Pure Tryz.prog 175 [.agg (zMZ.d c1)] (.tup [iI r.1,iI r.2])):=by
 induction fuel with
 |zero=>intro c1 r h;rw[zCj] at h;cases h
 |succ fuel zMF=>
  intro c1 r h
  rw[zCj] at h
  refine zAA Tryz.func175 (by rfl) (by rfl) (by simp) (by simp) (by simp)<|cutA 30 0 [(1,pT 0),(3,iI 0)] [(zMZ.d c1)]<|cutA 30 0 [(1,pT 0),(2,iI 1),(3,iI 0)] [(zMZ.d c1)]<|zAD<|cutA 30 0 [(2,iI 1),(3,iI 0),(9,.sl (c1.L.map zMZ.c)),(10,iI c1.L.length),(11,iI 0)] [(zMZ.d c1)]<|zAF ?_
  obtain⟨o5,l6,h⟩:=bs h
  refine zAm (fun p:Nat×Int×Int×Nat=>mkS 30 0 [(2,iI p.2.1),(3,iI p.2.2.1),(9,.sl (c1.L.map zMZ.c)),(10,iI c1.L.length),(11,iI p.2.2.2)] [(zMZ.d c1)]) (fun p=>zCx (zCj fuel) c1 p.1 p.2.1 p.2.2.1 p.2.2.2=some o5) (fun p=>p.1) (fuel,1,0,0) l6 (zAL (by simp)) ?_
  rintro⟨k7,nodes2,depth3,i4⟩ l6
  try dsimp only at l6 ⊢
  cases k7 with
  |zero=>
   rw[zCx] at l6;cases l6
  |succ k8=>
   rw[zCx] at l6
   refine cutA 30 0 [(2,iI nodes2),(3,iI depth3),(9,.sl (c1.L.map zMZ.c)),(10,iI c1.L.length),(11,iI i4),(12,.bool (ltI i4 c1.L.length))] [(zMZ.d c1)]<|zAD<|spc l6 rfl (fun g9 l6=>?_) fun g9 l6=>?_
   ·have c10:=ltT g9
    refine zCA 9 rfl fun f11=>?_
    rw[zq4] at f11
    refine zAC<|zAH<|zAD<|zAF ?_
    obtain⟨x12,q13,l6⟩:=bs l6
    refine cut 30 0 [(2,iI nodes2),(3,iI depth3),(5,pT 1),(9,.sl (c1.L.map zMZ.c)),(10,iI c1.L.length),(11,iI i4)] [(zMZ.d c1),(zMZ.d x12)] (st (by simp[q13])) ?_
    obtain⟨v14,q15,l6⟩:=bs l6
    refine cut 30 0 [(2,iI nodes2),(3,iI depth3),(6,iI v14.1),(7,iI v14.2),(9,.sl (c1.L.map zMZ.c)),(10,iI c1.L.length),(11,iI i4)] [(zMZ.d c1),(zMZ.d x12)] ?_ ?_
    ·refine st ?_
     simp
     have r22:=zMF x12 v14 q15
     try simp at r22
     refine cP r22 ?_
     simp
    obtain⟨n16,q17,l6⟩:=bs l6
    obtain⟨q18,q19⟩:=zBj q17
    try simp at q18
    try simp at q19
    have c20:=q18;simp only[Rng,inR] at c20
    refine last 30 0 [(2,iI n16),(3,iI (maxI depth3 v14.2)),(9,.sl (c1.L.map zMZ.c)),(10,iI c1.L.length),(11,iI i4)] [(zMZ.d c1),(zMZ.d x12)] (st (by simp[q18,q19])) fun zz hs=>?_
    refine zC1<|zAM ?_ hs
    have q21:Rng .i64 (((i4:Nat):Int)+1):=by simp only[Rng,inR];omega
    try simp at q21
    refine last 30 0 [(2,iI n16),(3,iI (maxI depth3 v14.2)),(9,.sl (c1.L.map zMZ.c)),(10,iI c1.L.length),(11,iI ((i4+1:Nat):Int))] [(zMZ.d c1)] (st (by simp[q21])) fun zz hs=>?_
    exact⟨(k8,n16,maxI depth3 v14.2,i4+1),hs,l6,by simp⟩
   have c23:=ltF g9
   refine zCA 9 rfl fun f24=>?_
   rw[zq4] at f24
   refine zAQ<|zAG ?_
   have q25:=zqa l6
   have q26:o5.1=depth3:=by rw[<-q25]
   have q27:o5.2=nodes2:=by rw[<-q25]
   refine zAG<|zAS<|zAM (t:=mkS 30 0 [(2,iI o5.2),(3,iI o5.1)] [(zMZ.d c1)]) ?_ (zAL (by simp[q26,q27]))
   obtain⟨n28,q29,h⟩:=bs h
   obtain⟨q30,q31⟩:=zBj q29
   try simp at q30
   try simp at q31
   have c32:=q30;simp only[Rng,inR] at c32
   refine cut 30 0 [(2,iI o5.2),(3,iI n28)] [(zMZ.d c1)] (st (by simp[q30,q31]))<|zAB ?_
   obtain rfl:=oi h
   simp
theorem zFb(fuel:Nat)(c1:zMZ)(w2:zMW)(r:zMZ×zMW)(h:zB1 fuel c1 w2=some r):Raw Tryz.prog 144 [pT 0,.agg (zMZ.d c1)] [[iI w2.steps,.bool w2.over]] (.agg (zMZ.d r.1)) [[iI r.2.steps,.bool r.2.over]]:=by
 rw[zB1] at h
 refine zAq Tryz.func144 (by rfl) (by rfl) (by simp) (by simp)<|cutA 28 1 [(0,pT 0),(3,pT 1),(4,pT 2)] [[iI w2.steps,.bool w2.over],(zMZ.d c1),zz0]<|zAD<|cutA 28 1 [(0,pT 0),(3,pT 1),(4,pT 2),(10,.bool w2.over)] [[iI w2.steps,.bool w2.over],(zMZ.d c1),zz0]<|spc h rfl (fun g3 h=>?_) fun g3 h=>?_
 ·refine cutA 28 1 [(4,pT 2)] [[iI w2.steps,.bool w2.over],(zMZ.d c1),zz0]<|zAB<|zAE ?_
  obtain rfl:=oi h
  simp
 refine zAC<|zAH<|zAD ?_
 obtain⟨v4,q5,h⟩:=bs h
 refine cut 28 1 [(0,pT 0),(3,pT 1),(4,pT 2),(5,iI v4.1),(6,iI v4.2)] [[iI w2.steps,.bool w2.over],(zMZ.d c1),zz0] ?_ ?_
 ·refine st ?_
  simp
  have r14:=zL3 fuel c1 v4 q5
  try simp at r14
  refine cP r14 ?_
  simp
 refine cut 28 1 [(0,pT 0),(3,pT 1),(4,pT 2),(22,.bool ((ltI 20000 v4.1)||(ltI 400 v4.2)))] [[iI w2.steps,.bool w2.over],(zMZ.d c1),zz0] ?_ ?_
 ·rcases tf (ltI 20000 v4.1) with g6|g6
  ·have c7:=ltT g6
   refine st ?_
   simp[g6]
  have c8:=ltF g6
  refine st ?_
  simp[g6]
 rcases sp h with ⟨g9,h⟩|⟨g9,h⟩
 ·refine zEk rfl g9<|cutA 28 1 [(4,pT 2)] [[iI w2.steps,.bool true],(zMZ.d c1),zz0]<|cutA 28 1 [(4,pT 2)] [[iI w2.steps,.bool true],(zMZ.d c1),zz0]<|zAB<|zAE ?_
  obtain rfl:=oi h
  simp
 obtain⟨g10,g11⟩:=orF g9
 have c12:=ltF g10
 have c13:=ltF g11
 refine zEc rfl g9<|zAC<|zAH<|cutA 28 1 [(4,pT 2)] [[iI w2.steps,.bool w2.over],(zMZ.d c1),(zMZ.d c1)]<|zAB ?_
 obtain rfl:=oi h
 simp
theorem zLb(fuel:Nat)(c1:zMZ)(r:Bool)(h:zFd fuel c1=some r):Pure Tryz.prog 220 [.agg (zMZ.d c1)] (.bool r):=by
 rw[zFd] at h
 refine zAA Tryz.func220 (by rfl) (by rfl) (by simp) (by simp) (by simp)<|cutA 6 0 [(1,pT 0)] [(zMZ.d c1)] ?_
 obtain⟨v2,q3,h⟩:=bs h
 refine cut 6 0 [(2,.bool (!v2))] [(zMZ.d c1)] ?_ ?_
 ·refine st ?_
  simp
  have r4:=zC6 fuel c1 v2 q3
  try simp at r4
  refine cP r4 ?_
  simp
 refine zAB ?_
 obtain rfl:=oi h
 simp
theorem zE6(fuel:Nat)(s1:(List zMZ))(r:Int)(h:zBg fuel s1=some r):Pure Tryz.prog 174 [.sl (s1.map zMZ.c),.fn (.func 220) [] []] (iI r):=by
 rw[zBg] at h
 refine zAA Tryz.func174 (by rfl) (by rfl) (by simp) (by simp) (by simp)<|cutA 19 0 [(0,.sl (s1.map zMZ.c)),(1,.fn (.func 220) [] [])] []<|zAD<|cutA 19 0 [(0,.sl (s1.map zMZ.c)),(1,.fn (.func 220) [] []),(7,iI s1.length),(8,iI 0)] []<|zAF ?_
 obtain⟨o4,l5,h⟩:=bs h
 refine zAm (fun p:Nat×Nat=>mkS 19 0 [(0,.sl (s1.map zMZ.c)),(1,.fn (.func 220) [] []),(7,iI s1.length),(8,iI p.2)] []) (fun p=>zAb fuel s1 p.1 p.2=some o4) (fun p=>p.1) (fuel,0) l5 (zAL (by simp)) ?_
 rintro⟨k6,i2⟩ l5
 try dsimp only at l5 ⊢
 cases k6 with
 |zero=>
  rw[zAb] at l5;cases l5
 |succ k7=>
  rw[zAb] at l5
  refine cutA 19 0 [(0,.sl (s1.map zMZ.c)),(1,.fn (.func 220) [] []),(7,iI s1.length),(8,iI i2),(9,.bool (ltI i2 s1.length))] []<|zAD<|spc l5 rfl (fun g8 l5=>?_) fun g8 l5=>?_
  ·have c9:=ltT g8
   refine zCA 0 rfl fun f10=>?_
   rw[zq4] at f10
   refine zAC<|zAH<|zAD<|zAF<|cutA 19 0 [(0,.sl (s1.map zMZ.c)),(1,.fn (.func 220) [] []),(5,iI i2),(7,iI s1.length),(8,iI i2)] [] ?_
   obtain⟨x11,q12,l5⟩:=bs l5
   obtain⟨v13,q14,l5⟩:=bs l5
   refine cut 19 0 [(0,.sl (s1.map zMZ.c)),(1,.fn (.func 220) [] []),(5,iI i2),(7,iI s1.length),(8,iI i2),(16,.bool v13)] [] ?_ ?_
   ·refine st ?_
    simp[q12]
    have r17:=zLb fuel x11 v13 q14
    try simp[q12] at r17
    refine cP r17 ?_
    simp[q12]
   refine spc l5 rfl (fun g15 l5=>?_) fun g15 l5=>?_
   ·refine cutA 19 0 [(4,iI i2)] []<|zAB<|zAK<|zAE ?_
    replace h:=retL l5 h
    refine zAE<|zAK<|zAE ?_
    obtain rfl:=oi h
    simp
   refine zAC<|zC1<|zAH ?_
   have q16:Rng .i64 (((i2:Nat):Int)+1):=by simp only[Rng,inR];omega
   try simp at q16
   refine last 19 0 [(0,.sl (s1.map zMZ.c)),(1,.fn (.func 220) [] []),(7,iI s1.length),(8,iI ((i2+1:Nat):Int))] [] (st (by simp[q16])) fun zz hs=>?_
   exact⟨(k7,i2+1),hs,l5,by simp⟩
  have c18:=ltF g8
  refine zCA 0 rfl fun f19=>?_
  rw[zq4] at f19
  refine zAQ<|zAG ?_
  rcases o4 with o4|o3
  ·cases l5
  have q20:=Sum.inr.inj (zqa l5)
  replace h:=zF0 h
  refine zAG<|zAS<|zAM (t:=mkS 19 0 [] []) ?_ (zAL (by simp))
  refine cutA 19 0 [(4,iI (-1))] []<|zAB ?_
  obtain rfl:=oi h
  simp
theorem zEf(fuel:Nat)(s1:(List zMZ))(r:Bool)(h:zBS fuel s1=some r):Pure Tryz.prog 142 [.sl (s1.map zMZ.c),.fn (.func 220) [] []] (.bool r):=by
 rw[zBS] at h
 refine zAA Tryz.func142 (by rfl) (by rfl) (by simp) (by simp) (by simp)<|cutA 9 0 [(0,.sl (s1.map zMZ.c)),(1,.fn (.func 220) [] [])] [] ?_
 obtain⟨v2,q3,h⟩:=bs h
 refine cut 9 0 [(4,.bool (leI 0 v2))] [] ?_ ?_
 ·refine st ?_
  simp
  have r4:=zE6 fuel s1 v2 q3
  try simp at r4
  refine cP r4 ?_
  simp
 refine zAB ?_
 obtain rfl:=oi h
 simp
theorem tycon_all_ok(fuel:Nat)(l1:(List zMZ))(r:Bool)(h:zGp fuel l1=some r):Pure Tryz.prog 204 [.sl (l1.map zMZ.c)] (.bool r):=by
 rw[zGp] at h
 refine zAA Tryz.func204 (by rfl) (by rfl) (by simp) (by simp) (by simp)<|cutA 6 0 [(0,.sl (l1.map zMZ.c))] [] ?_
 obtain⟨v2,q3,h⟩:=bs h
 refine cut 6 0 [(2,.bool (!v2))] [] ?_ ?_
 ·refine st ?_
  simp
  have r4:=zEf fuel l1 v2 q3
  try simp at r4
  refine cP r4 ?_
  simp
 refine zAB ?_
 obtain rfl:=oi h
 simp
theorem zGY(fuel:Nat):(∀(k1:zMY)(r:zMY)(_:zBl fuel k1=some r),Pure Tryz.prog 164 [.agg [.sl (k1.L.map zMY.c)]] (.agg [.sl (r.L.map zMY.c)])):=by
 induction fuel with
 |zero=>intro k1 r h;rw[zBl] at h;cases h
 |succ fuel zK0=>
  intro k1 r h
  rw[zBl] at h
  refine zAA Tryz.func164 (by rfl) (by rfl) (by simp) (by simp) (by simp)<|cutA 22 0 [(1,pT 0),(2,pT 1)] [[.sl (k1.L.map zMY.c)],zz2]<|cutA 22 0 [(1,pT 0),(2,pT 1),(3,pT 2)] [[.sl (k1.L.map zMY.c)],zz2,zz2]<|zAD<|cutA 22 0 [(2,pT 1),(3,pT 2),(7,.sl (k1.L.map zMY.c)),(8,iI k1.L.length),(9,iI 0)] [[.sl (k1.L.map zMY.c)],zz2,zz2]<|zAF ?_
  obtain⟨o4,l5,h⟩:=bs h
  refine zAm (fun p:Nat×(List zMY)×Nat=>mkS 22 0 [(2,pT 1),(3,pT 2),(7,.sl (k1.L.map zMY.c)),(8,iI k1.L.length),(9,iI p.2.2)] [[.sl (k1.L.map zMY.c)],zz2,[.osl ⟨1,24⟩ (p.2.1.map zMY.c)]]) (fun p=>zCR (zBl fuel) k1 p.1 p.2.1 p.2.2=some o4) (fun p=>p.1) (fuel,([]:List zMY),0) l5 (zAL (by simp)) ?_
  rintro⟨k6,L2,i3⟩ l5
  try dsimp only at l5 ⊢
  cases k6 with
  |zero=>
   rw[zCR] at l5;cases l5
  |succ k7=>
   rw[zCR] at l5
   refine cutA 22 0 [(2,pT 1),(3,pT 2),(7,.sl (k1.L.map zMY.c)),(8,iI k1.L.length),(9,iI i3),(10,.bool (ltI i3 k1.L.length))] [[.sl (k1.L.map zMY.c)],zz2,[.osl ⟨1,24⟩ (L2.map zMY.c)]]<|zAD<|spc l5 rfl (fun g8 l5=>?_) fun g8 l5=>?_
   ·have c9:=ltT g8
    refine zCA 7 rfl fun f10=>?_
    rw[zq4] at f10
    refine zAC<|zAH<|zAD<|zAF ?_
    obtain⟨x11,q12,l5⟩:=bs l5
    refine cut 22 0 [(2,pT 1),(3,pT 2),(5,pT 3),(7,.sl (k1.L.map zMY.c)),(8,iI k1.L.length),(9,iI i3)] [[.sl (k1.L.map zMY.c)],zz2,[.osl ⟨1,24⟩ (L2.map zMY.c)],[.sl (x11.L.map zMY.c)]] (st (by simp[q12])) ?_
    obtain⟨v13,q14,l5⟩:=bs l5
    obtain⟨l15,q16,l5⟩:=bs l5
    obtain⟨q17,q18⟩:=zI7 q16
    try simp at q17
    refine last 22 0 [(2,pT 1),(3,pT 2),(7,.sl (k1.L.map zMY.c)),(8,iI k1.L.length),(9,iI i3)] [[.sl (k1.L.map zMY.c)],zz2,[.osl ⟨1,24⟩ (l15.map zMY.c)],[.sl (x11.L.map zMY.c)]] ?_ fun zz hs=>?_
    ·refine zAJ [] mixed (n:=22) rfl (by decide) ?_
     simp[q17,q18]
     have r20:=zK0 x11 v13 q14
     try simp[q17,q18] at r20
     refine zGN r20 (by simp) rfl ?_
     simp[q17,q18]
    refine zC1<|zAM ?_ hs
    have q19:Rng .i64 (((i3:Nat):Int)+1):=by simp only[Rng,inR];omega
    try simp at q19
    refine last 22 0 [(2,pT 1),(3,pT 2),(7,.sl (k1.L.map zMY.c)),(8,iI k1.L.length),(9,iI ((i3+1:Nat):Int))] [[.sl (k1.L.map zMY.c)],zz2,[.osl ⟨1,24⟩ (l15.map zMY.c)]] (st (by simp[q19])) fun zz hs=>?_
    exact⟨(k7,l15,i3+1),hs,l5,by simp⟩
   have c21:=ltF g8
   refine zCA 7 rfl fun f22=>?_
   rw[zq4] at f22
   refine zAQ<|zAG ?_
   have q23:=zqa l5
   have q23:=q23.symm
   refine zAG<|zAS<|zAM (t:=mkS 22 0 [(2,pT 1),(3,pT 2)] [[.sl (k1.L.map zMY.c)],zz2,[.osl ⟨1,24⟩ (o4.map zMY.c)]]) ?_ (zAL (by simp[q23]))
   refine cutA 22 0 [(2,pT 1)] [[.sl (k1.L.map zMY.c)],[.sl (o4.map zMY.c)],[.osl ⟨1,24⟩ (o4.map zMY.c)]]<|zAB ?_
   obtain rfl:=oi h
   simp
theorem zIH(fuel:Nat)(c1:zMZ)(r:zMZ)(h:zEH fuel c1=some r):Pure Tryz.prog 123 [.agg (zMZ.d c1)] (.agg (zMZ.d r)):=by
 rw[zEH] at h
 refine zAA Tryz.func123 (by rfl) (by rfl) (by simp) (by simp) (by simp)<|cutA 13 0 [(1,pT 0),(2,pT 1)] [(zMZ.d c1),zz0] ?_
 obtain⟨v2,q3,h⟩:=bs h
 refine cut 13 0 [(2,pT 1)] [(zMZ.d c1),[iI c1.Op,iI c1.N,.str c1.S,.sl (v2.L.map zMY.c),.osl ⟨1,9⟩ (([]:List (List UInt8)).map cS),.osl ⟨6,28⟩ (([]:List zMZ).map zMZ.c)]] ?_ ?_
 ·refine zAJ [] mixed (n:=13) rfl (by decide) ?_
  simp
  have r4:=zGY fuel c1.Kind v2 q3
  try simp at r4
  refine zGN r4 (by simp) rfl ?_
  simp
 refine zAB ?_
 obtain rfl:=oi h
 simp
theorem zHK(n1:Int)(r:zMZ)(h:zEz n1=some r):Pure Tryz.prog 122 [iI n1] (.agg (zMZ.d r)):=by
 rw[zEz] at h
 refine zAA Tryz.func122 (by rfl) (by rfl) (by simp) (by simp) (by simp)<|cutA 5 0 [(0,iI n1),(2,pT 0)] [zz0]<|cutA 5 0 [(2,pT 0)] [[iI 1,iI n1,.str ([]:List UInt8),.osl ⟨1,24⟩ (([]:List zMY).map zMY.c),.osl ⟨1,9⟩ (([]:List (List UInt8)).map cS),.osl ⟨6,28⟩ (([]:List zMZ).map zMZ.c)]]<|zAB ?_
 obtain rfl:=oi h
 simp
theorem zHS(by1:Int)(from2:Int)(r:Int×Int)(h:zFW by1 from2=some r):Pure Tryz.prog 93 [iI by1,iI from2] (.fn (.func 121) [] [.cptr [iI r.1],.cptr [iI r.2]]):=by
 rw[zFW] at h
 refine zGT [true,true] Tryz.func93 (by rfl) (by rfl) (by simp) (by simp) (by simp)<|cutA 6 0 [(2,pT 0),(3,pT 1)] [[iI by1],[iI from2]]<|cutA 6 0 [(4,.fn (.func 121) [] [pT 1,pT 0])] [[iI by1],[iI from2]]<|zAB ?_
 obtain rfl:=oi h
 simp
theorem zJC(fuel:Nat)(c1:zMZ)(binders2:Int)(a3:Int)(a4:Int)(r:zMZ)(h:zDn fuel c1 binders2 a3 a4=some r):Pure Tryz.prog 121 [.agg (zMZ.d c1),iI binders2,.cptr [iI a3],.cptr [iI a4]] (.agg (zMZ.d r)):=by
 rw[zDn] at h
 refine zAA Tryz.func121 (by rfl) (by rfl) (by simp) (by simp) (by simp)<|cutA 25 0 [(1,iI binders2),(2,.cptr [iI a3]),(3,.cptr [iI a4]),(4,pT 0),(6,pT 1)] [(zMZ.d c1),zz0]<|zAD ?_
 obtain⟨b13,q14,h⟩:=bs h
 refine cut 25 0 [(3,.cptr [iI a4]),(4,pT 0),(6,pT 1),(17,.bool b13)] [(zMZ.d c1),zz0] ?_ ?_
 ·rcases sp q14 with ⟨g5,q14⟩|⟨g5,q14⟩
  ·have c6:=eqT g5
   obtain⟨n7,q8,q14⟩:=bs q14
   obtain⟨q9,q10⟩:=zBj q8
   try simp at q9
   try simp at q10
   have c11:=q9;simp only[Rng,inR] at c11
   obtain rfl:=oi q14
   refine st ?_
   simp[g5,q9,q10]
  have c12:=eqF g5
  obtain rfl:=oi q14
  refine st ?_
  simp[g5]
 refine spc h rfl (fun g15 h=>?_) fun g15 h=>?_
 ·obtain⟨n16,q17,h⟩:=bs h
  obtain⟨q18,q19⟩:=zBj q17
  try simp at q18
  try simp at q19
  have c20:=q18;simp only[Rng,inR] at c20
  obtain⟨v21,q22,h⟩:=bs h
  refine cut 25 0 [(6,pT 1)] [(zMZ.d c1),(zMZ.d v21)] ?_ ?_
  ·refine st ?_
   simp[q18,q19]
   have r23:=zHK n16 v21 q22
   try simp[q18,q19] at r23
   refine cP r23 ?_
   simp[q18,q19]
  refine zAB<|zAE ?_
  obtain rfl:=oi h
  simp
 refine zAC<|zAH ?_
 obtain⟨v24,q25,h⟩:=bs h
 refine cut 25 0 [(6,pT 1)] [(zMZ.d c1),(zMZ.d v24)] ?_ ?_
 ·refine st ?_
  simp
  have r26:=zIH fuel c1 v24 q25
  try simp at r26
  refine cP r26 ?_
  simp
 refine zAB ?_
 obtain rfl:=oi h
 simp
theorem zEo(fuel:Nat):(∀(c1:zMZ)(binders2:Int)(c3:Int)(c4:Int)(c5:Int)(r:zMZ×Int)(_:zAe fuel c1 binders2 c3 c4 c5=some r),Raw Tryz.prog 120 [pT 0,.agg (zMZ.d c1),iI binders2] [[.fn (.func 121) [] [.cptr [iI c3],.cptr [iI c4]],iI c5]] (.agg (zMZ.d r.1)) [[.fn (.func 121) [] [.cptr [iI c3],.cptr [iI c4]],iI r.2]]):=by
 induction fuel with
 |zero=>intro c1 binders2 c3 c4 c5 r h;rw[zAe] at h;cases h
 |succ fuel zGk=>
  intro c1 binders2 c3 c4 c5 r h
  rw[zAe] at h
  refine zAq Tryz.func120 (by rfl) (by rfl) (by simp) (by simp)<|cutA 87 1 [(0,pT 0),(2,iI binders2),(4,pT 1),(6,pT 2)] [[.fn (.func 121) [] [.cptr [iI c3],.cptr [iI c4]],iI c5],(zMZ.d c1),zz0]<|zAD<|cutA 87 1 [(0,pT 0),(2,iI binders2),(4,pT 1),(6,pT 2),(15,.bool (leI c5 0))] [[.fn (.func 121) [] [.cptr [iI c3],.cptr [iI c4]],iI c5],(zMZ.d c1),zz0]<|spc h rfl (fun g6 h=>?_) fun g6 h=>?_
  ·have c7:=leT g6
   refine cutA 87 1 [(6,pT 2)] [[.fn (.func 121) [] [.cptr [iI c3],.cptr [iI c4]],iI (-1)],(zMZ.d c1),zz0]<|cutA 87 1 [(6,pT 2)] [[.fn (.func 121) [] [.cptr [iI c3],.cptr [iI c4]],iI (-1)],(zMZ.d c1),zz0]<|zAB<|zAE ?_
   obtain rfl:=oi h
   simp
  have c8:=leF g6
  refine zAC<|zAH<|zAD<|cut 87 1 [(0,pT 0),(2,iI binders2),(4,pT 1),(6,pT 2),(27,.bool ((eqI c1.Op 1)||(eqI c1.Op 2)))] [[.fn (.func 121) [] [.cptr [iI c3],.cptr [iI c4]],iI c5],(zMZ.d c1),zz0] ?_ ?_
  ·rcases tf (eqI c1.Op 1) with g9|g9
   ·have c10:=eqT g9
    refine st ?_
    simp[g9]
   have c11:=eqF g9
   refine st ?_
   simp[g9]
  rcases sp h with ⟨g12,h⟩|⟨g12,h⟩
  ·refine zEk rfl g12 ?_
   obtain⟨v13,q14,h⟩:=bs h
   refine cut 87 1 [(0,pT 0),(6,pT 2),(7,pT 3)] [[.fn (.func 121) [] [.cptr [iI c3],.cptr [iI c4]],iI c5],(zMZ.d c1),zz0,(zMZ.d v13)] ?_ ?_
   ·refine zAJ [] mixed (n:=87) rfl (by decide) ?_
    simp
    have r23:=zJC fuel c1 binders2 c3 c4 v13 q14
    try simp at r23
    refine zGN r23 (by simp) rfl ?_
    simp
   obtain⟨v15,q16,h⟩:=bs h
   obtain⟨n17,q18,h⟩:=bs h
   obtain⟨q19,q20⟩:=zBj q18
   try simp at q19
   try simp at q20
   have c21:=q19;simp only[Rng,inR] at c21
   refine cut 87 1 [(6,pT 2),(7,pT 3)] [[.fn (.func 121) [] [.cptr [iI c3],.cptr [iI c4]],iI n17],(zMZ.d c1),zz0,(zMZ.d v13)] ?_ ?_
   ·refine zAJ [] mixed (n:=87) rfl (by decide) ?_
    simp[q19,q20]
    have r22:=zGO fuel v13 v15 q16
    try simp[q19,q20] at r22
    refine zGN r22 (by simp) rfl ?_
    simp[q19,q20]
   refine cutA 87 1 [(6,pT 2)] [[.fn (.func 121) [] [.cptr [iI c3],.cptr [iI c4]],iI n17],(zMZ.d c1),(zMZ.d v13),(zMZ.d v13)]<|zAB<|zAE ?_
   obtain rfl:=oi h
   simp
  obtain⟨g24,g25⟩:=orF g12
  have c26:=eqF g24
  have c27:=eqF g25
  refine zEc rfl g12<|zAC<|zAH ?_
  obtain⟨n28,q29,h⟩:=bs h
  obtain⟨q30,q31⟩:=zBj q29
  try simp at q30
  try simp at q31
  have c32:=q30;simp only[Rng,inR] at c32
  refine cut 87 1 [(0,pT 0),(2,iI binders2),(4,pT 1),(6,pT 2)] [[.fn (.func 121) [] [.cptr [iI c3],.cptr [iI c4]],iI n28],(zMZ.d c1),zz0] (st (by simp[q30,q31])) ?_
  obtain⟨v33,q34,h⟩:=bs h
  obtain⟨v35,q36,h⟩:=bs h
  refine cut 87 1 [(0,pT 0),(2,iI binders2),(4,pT 1),(6,pT 2),(8,pT 3)] [[.fn (.func 121) [] [.cptr [iI c3],.cptr [iI c4]],iI n28],(zMZ.d c1),zz0,[iI c1.Op,iI c1.N,.str c1.S,.sl (v33.L.map zMY.c),.sl (v35.map cS),.osl ⟨6,28⟩ (([]:List zMZ).map zMZ.c)]] ?_ ?_
  ·refine zAJ [] mixed (n:=87) rfl (by decide) ?_
   simp
   have r73:=zGY fuel c1.Kind v33 q34
   try simp at r73
   refine zGN r73 (by simp) rfl ?_
   simp
   have r74:=zCJ c1.Names v35 q36
   try simp at r74
   refine zGN r74 (by simp) rfl ?_
   simp
  obtain⟨j37,l38,h⟩:=bs h
  refine zLO 87 1 [(0,pT 0),(2,iI j37),(4,pT 1),(6,pT 2),(8,pT 3)] [[.fn (.func 121) [] [.cptr [iI c3],.cptr [iI c4]],iI n28],(zMZ.d c1),zz0,[iI c1.Op,iI c1.N,.str c1.S,.sl (v33.L.map zMY.c),.sl (v35.map cS),.osl ⟨6,28⟩ (([]:List zMZ).map zMZ.c)]] (fun jj=>?_) ?_
  ·obtain⟨v39,q40,l38⟩:=bs l38
   refine cut 87 1 [(0,pT 0),(2,iI binders2),(4,pT 1),(6,pT 2),(8,pT 3),(66,.bool v39)] [[.fn (.func 121) [] [.cptr [iI c3],.cptr [iI c4]],iI n28],(zMZ.d c1),zz0,[iI c1.Op,iI c1.N,.str c1.S,.sl (v33.L.map zMY.c),.sl (v35.map cS),.osl ⟨6,28⟩ (([]:List zMZ).map zMZ.c)]] ?_ ?_
   ·refine st ?_
    simp
    have r47:=zDq c1 v39 q40
    try simp at r47
    refine cP r47 ?_
    simp
   refine spc l38 rfl (fun g41 l38=>?_) fun g41 l38=>?_
   ·obtain⟨n42,q43,l38⟩:=bs l38
    obtain⟨q44,q45⟩:=zBj q43
    try simp at q44
    try simp at q45
    have c46:=q44;simp only[Rng,inR] at c46
    refine last 87 1 [(0,pT 0),(2,iI n42),(4,pT 1),(6,pT 2),(8,pT 3)] [[.fn (.func 121) [] [.cptr [iI c3],.cptr [iI c4]],iI n28],(zMZ.d c1),zz0,[iI c1.Op,iI c1.N,.str c1.S,.sl (v33.L.map zMY.c),.sl (v35.map cS),.osl ⟨6,28⟩ (([]:List zMZ).map zMZ.c)]] (st (by simp[q44,q45])) fun zz hs=>?_
    obtain rfl:=oi l38
    exact zAM jj hs
   refine zAC ?_
   obtain rfl:=oi l38
   exact zAM jj (zAL (by simp))
  refine zAD<|cutA 87 1 [(0,pT 0),(2,iI j37),(6,pT 2),(8,pT 3),(70,.sl (c1.L.map zMZ.c)),(71,iI c1.L.length),(72,iI 0)] [[.fn (.func 121) [] [.cptr [iI c3],.cptr [iI c4]],iI n28],(zMZ.d c1),zz0,[iI c1.Op,iI c1.N,.str c1.S,.sl (v33.L.map zMY.c),.sl (v35.map cS),.osl ⟨6,28⟩ (([]:List zMZ).map zMZ.c)]]<|zAF ?_
  obtain⟨o51,l52,h⟩:=bs h
  refine zAm (fun p:Nat×Int×(List zMZ)×Nat=>mkS 87 1 [(0,pT 0),(2,iI j37),(6,pT 2),(8,pT 3),(70,.sl (c1.L.map zMZ.c)),(71,iI c1.L.length),(72,iI p.2.2.2)] [[.fn (.func 121) [] [.cptr [iI c3],.cptr [iI c4]],iI p.2.1],(zMZ.d c1),zz0,[iI c1.Op,iI c1.N,.str c1.S,.sl (v33.L.map zMY.c),.sl (v35.map cS),.osl ⟨6,28⟩ (p.2.2.1.map zMZ.c)]]) (fun p=>zAv (zAe fuel) c1 c3 c4 j37 p.1 p.2.1 p.2.2.1 p.2.2.2=some o51) (fun p=>p.1) (fuel,n28,([]:List zMZ),0) l52 (zAL (by simp)) ?_
  rintro⟨k53,left48,L49,i50⟩ l52
  try dsimp only at l52 ⊢
  cases k53 with
  |zero=>
   rw[zAv] at l52;cases l52
  |succ k54=>
   rw[zAv] at l52
   refine cutA 87 1 [(0,pT 0),(2,iI j37),(6,pT 2),(8,pT 3),(70,.sl (c1.L.map zMZ.c)),(71,iI c1.L.length),(72,iI i50),(73,.bool (ltI i50 c1.L.length))] [[.fn (.func 121) [] [.cptr [iI c3],.cptr [iI c4]],iI left48],(zMZ.d c1),zz0,[iI c1.Op,iI c1.N,.str c1.S,.sl (v33.L.map zMY.c),.sl (v35.map cS),.osl ⟨6,28⟩ (L49.map zMZ.c)]]<|zAD<|spc l52 rfl (fun g55 l52=>?_) fun g55 l52=>?_
   ·have c56:=ltT g55
    refine zCA 70 rfl fun f57=>?_
    rw[zq4] at f57
    refine zAC<|zAH<|zAD<|zAF ?_
    obtain⟨x58,q59,l52⟩:=bs l52
    refine cut 87 1 [(0,pT 0),(2,iI j37),(6,pT 2),(8,pT 3),(10,pT 4),(70,.sl (c1.L.map zMZ.c)),(71,iI c1.L.length),(72,iI i50)] [[.fn (.func 121) [] [.cptr [iI c3],.cptr [iI c4]],iI left48],(zMZ.d c1),zz0,[iI c1.Op,iI c1.N,.str c1.S,.sl (v33.L.map zMY.c),.sl (v35.map cS),.osl ⟨6,28⟩ (L49.map zMZ.c)],(zMZ.d x58)] (st (by simp[q59])) ?_
    obtain⟨v60,q61,l52⟩:=bs l52
    obtain⟨l62,q63,l52⟩:=bs l52
    obtain⟨q64,q65⟩:=zI7 q63
    try simp at q64
    refine last 87 1 [(0,pT 0),(2,iI j37),(6,pT 2),(8,pT 3),(70,.sl (c1.L.map zMZ.c)),(71,iI c1.L.length),(72,iI i50)] [[.fn (.func 121) [] [.cptr [iI c3],.cptr [iI c4]],iI v60.2],(zMZ.d c1),zz0,[iI c1.Op,iI c1.N,.str c1.S,.sl (v33.L.map zMY.c),.sl (v35.map cS),.osl ⟨6,28⟩ (l62.map zMZ.c)],(zMZ.d x58)] ?_ fun zz hs=>?_
    ·refine zAx [0,996] [7,9] mixed (n:=87) rfl (by decide) (by decide) ?_
     simp[q64,q65]
     have r67:=(zGk x58 j37 c3 c4 left48 v60 q61).frameZ [0] [[.fn (.func 121) [] [.cptr [iI c3],.cptr [iI c4]],iI left48],(zMZ.d c1),zz0,[iI c1.Op,iI c1.N,.str c1.S,.sl (v33.L.map zMY.c),.sl (v35.map cS),.osl ⟨6,28⟩ (L49.map zMZ.c)],(zMZ.d x58)] (by simp) rfl (by simp) (by simp)
     try simp[q64,q65] at r67
     refine zMO r67 (by simp[q64,q65]) rfl (by decide) (by simp) ?_
     simp[q64,q65]
    refine zC1<|zAM ?_ hs
    have q66:Rng .i64 (((i50:Nat):Int)+1):=by simp only[Rng,inR];omega
    try simp at q66
    refine last 87 1 [(0,pT 0),(2,iI j37),(6,pT 2),(8,pT 3),(70,.sl (c1.L.map zMZ.c)),(71,iI c1.L.length),(72,iI ((i50+1:Nat):Int))] [[.fn (.func 121) [] [.cptr [iI c3],.cptr [iI c4]],iI v60.2],(zMZ.d c1),zz0,[iI c1.Op,iI c1.N,.str c1.S,.sl (v33.L.map zMY.c),.sl (v35.map cS),.osl ⟨6,28⟩ (l62.map zMZ.c)]] (st (by simp[q66])) fun zz hs=>?_
    exact⟨(k54,v60.2,l62,i50+1),hs,l52,by simp⟩
   have c68:=ltF g55
   refine zCA 70 rfl fun f69=>?_
   rw[zq4] at f69
   refine zAQ<|zAG ?_
   have q70:=zqa l52
   have q71:o51.1=left48:=by rw[<-q70]
   have q72:o51.2=L49:=by rw[<-q70]
   refine zAG<|zAS<|zAM (t:=mkS 87 1 [(6,pT 2),(8,pT 3)] [[.fn (.func 121) [] [.cptr [iI c3],.cptr [iI c4]],iI o51.1],(zMZ.d c1),zz0,[iI c1.Op,iI c1.N,.str c1.S,.sl (v33.L.map zMY.c),.sl (v35.map cS),.osl ⟨6,28⟩ (o51.2.map zMZ.c)]]) ?_ (zAL (by simp[q71,q72]))
   refine cutA 87 1 [(6,pT 2)] [[.fn (.func 121) [] [.cptr [iI c3],.cptr [iI c4]],iI o51.1],(zMZ.d c1),[iI c1.Op,iI c1.N,.str c1.S,.sl (v33.L.map zMY.c),.sl (v35.map cS),.sl (o51.2.map zMZ.c)],[iI c1.Op,iI c1.N,.str c1.S,.sl (v33.L.map zMY.c),.sl (v35.map cS),.osl ⟨6,28⟩ (o51.2.map zMZ.c)]]<|zAB ?_
   obtain rfl:=oi h
   simp
theorem zJz(fuel:Nat)(c1:zMZ)(binders2:Int)(c3:(List zMZ))(r:zMZ)(h:zES fuel c1 binders2 c3=some r):Raw Tryz.prog 205 [.agg (zMZ.d c1),iI binders2,pT 0] [[.sl (c3.map zMZ.c)]] (.agg (zMZ.d r)) [[.sl (c3.map zMZ.c)]]:=by
 rw[zES] at h
 refine zAq Tryz.func205 (by rfl) (by rfl) (by simp) (by simp)<|cutA 43 1 [(1,iI binders2),(2,pT 0),(3,pT 1),(5,pT 2)] [[.sl (c3.map zMZ.c)],(zMZ.d c1),zz0] ?_
 obtain⟨n4,q5,h⟩:=bs h
 obtain⟨q6,q7⟩:=zBj q5
 try simp at q6
 try simp at q7
 have c8:=q6;simp only[Rng,inR] at c8
 refine cut 43 1 [(1,iI binders2),(2,pT 0),(3,pT 1),(5,pT 2),(6,iI n4)] [[.sl (c3.map zMZ.c)],(zMZ.d c1),zz0] (st (by simp[q6,q7]))<|zAD<|zAF<|cut 43 1 [(1,iI binders2),(2,pT 0),(3,pT 1),(5,pT 2),(6,iI n4),(12,.bool ((!(eqI c1.Op 1))||(ltI n4 0)))] [[.sl (c3.map zMZ.c)],(zMZ.d c1),zz0] ?_ ?_
 ·rcases tf (!(eqI c1.Op 1)) with g9|g9
  ·have g10:=notT g9
   have c11:=eqF g10
   refine st ?_
   simp[g9]
  have g12:=notF g9
  have c13:=eqT g12
  refine st ?_
  simp[g9]
 rcases sp h with ⟨g14,h⟩|⟨g14,h⟩
 ·refine zEk rfl g14 ?_
  obtain⟨v15,q16,h⟩:=bs h
  refine cut 43 1 [(5,pT 2)] [[.sl (c3.map zMZ.c)],(zMZ.d c1),(zMZ.d v15)] ?_ ?_
  ·refine st ?_
   simp
   have r17:=zIH fuel c1 v15 q16
   try simp at r17
   refine cP r17 ?_
   simp
  refine zAB<|zAK<|zAE ?_
  obtain rfl:=oi h
  simp
 obtain⟨g18,g19⟩:=orF g14
 have g20:=notF g18
 have c21:=eqT g20
 have c22:=ltF g19
 refine zEc rfl g14<|cutA 43 1 [(1,iI binders2),(2,pT 0),(3,pT 1),(5,pT 2),(6,iI n4),(22,.bool (leI c3.length n4))] [[.sl (c3.map zMZ.c)],(zMZ.d c1),zz0]<|spc h rfl (fun g23 h=>?_) fun g23 h=>?_
 ·have c24:=leT g23
  refine zCB 0 0 rfl rfl rfl fun f25=>?_
  rw[zq4] at f25
  obtain⟨n26,q27,h⟩:=bs h
  obtain⟨q28,q29⟩:=zBj q27
  try simp at q28
  try simp at q29
  have c30:=q28;simp only[Rng,inR] at c30
  obtain⟨v31,q32,h⟩:=bs h
  refine cut 43 1 [(5,pT 2)] [[.sl (c3.map zMZ.c)],(zMZ.d c1),(zMZ.d v31)] ?_ ?_
  ·refine st ?_
   simp[q28,q29]
   have r33:=zHK n26 v31 q32
   try simp[q28,q29] at r33
   refine cP r33 ?_
   simp[q28,q29]
  refine zAB<|zAK<|zAE ?_
  obtain rfl:=oi h
  simp
 have c34:=leF g23
 refine zCB 0 0 rfl rfl rfl fun f35=>?_
 rw[zq4] at f35
 refine zAC<|zC1<|zAH ?_
 obtain⟨v36,q37,h⟩:=bs h
 refine cut 43 1 [(2,pT 0),(5,pT 2),(6,iI n4),(7,pT 3)] [[.sl (c3.map zMZ.c)],(zMZ.d c1),zz0,[.fn (.func 121) [] [.cptr [iI v36.1],.cptr [iI v36.2]],iI 20000]] ?_ ?_
 ·refine st ?_
  simp
  have r45:=zHS binders2 0 v36 q37
  try simp at r45
  refine cP r45 ?_
  simp
 obtain⟨x38,q39,h⟩:=bs h
 obtain⟨q40,q41⟩:=idx_ok q39
 obtain⟨v42,q43,h⟩:=bs h
 refine cut 43 1 [(5,pT 2)] [[.sl (c3.map zMZ.c)],(zMZ.d c1),(zMZ.d v42.1),[.fn (.func 121) [] [.cptr [iI v36.1],.cptr [iI v36.2]],iI v42.2]] ?_ ?_
 ·refine st ?_
  simp[q40,q41]
  have r44:=(zEo fuel x38 0 v36.1 v36.2 20000 v42 q43).frame [3] [[.sl (c3.map zMZ.c)],(zMZ.d c1),zz0,[.fn (.func 121) [] [.cptr [iI v36.1],.cptr [iI v36.2]],iI 20000]] (by simp)
  try simp[q40,q41] at r44
  refine zCV r44 (by simp[q40,q41]) rfl ?_
  simp[q40,q41]
 refine zAB ?_
 obtain rfl:=oi h
 simp
theorem zHT(fuel:Nat):(∀(c1:zMZ)(binders2:Int)(c3:Int)(c4:(List zMZ))(r:zMZ×Int)(_:zAr fuel c1 binders2 c3 c4=some r),Raw Tryz.prog 120 [pT 0,.agg (zMZ.d c1),iI binders2] [[.fn (.func 205) [] [pT 1],iI c3],[.sl (c4.map zMZ.c)]] (.agg (zMZ.d r.1)) [[.fn (.func 205) [] [pT 1],iI r.2],[.sl (c4.map zMZ.c)]]):=by
 induction fuel with
 |zero=>intro c1 binders2 c3 c4 r h;rw[zAr] at h;cases h
 |succ fuel zHk=>
  intro c1 binders2 c3 c4 r h
  rw[zAr] at h
  refine zAq Tryz.func120 (by rfl) (by rfl) (by simp) (by simp)<|cutA 87 2 [(0,pT 0),(2,iI binders2),(4,pT 2),(6,pT 3)] [[.fn (.func 205) [] [pT 1],iI c3],[.sl (c4.map zMZ.c)],(zMZ.d c1),zz0]<|zAD<|cutA 87 2 [(0,pT 0),(2,iI binders2),(4,pT 2),(6,pT 3),(15,.bool (leI c3 0))] [[.fn (.func 205) [] [pT 1],iI c3],[.sl (c4.map zMZ.c)],(zMZ.d c1),zz0]<|spc h rfl (fun g5 h=>?_) fun g5 h=>?_
  ·have c6:=leT g5
   refine cutA 87 2 [(6,pT 3)] [[.fn (.func 205) [] [pT 1],iI (-1)],[.sl (c4.map zMZ.c)],(zMZ.d c1),zz0]<|cutA 87 2 [(6,pT 3)] [[.fn (.func 205) [] [pT 1],iI (-1)],[.sl (c4.map zMZ.c)],(zMZ.d c1),zz0]<|zAB<|zAE ?_
   obtain rfl:=oi h
   simp
  have c7:=leF g5
  refine zAC<|zAH<|zAD<|cut 87 2 [(0,pT 0),(2,iI binders2),(4,pT 2),(6,pT 3),(27,.bool ((eqI c1.Op 1)||(eqI c1.Op 2)))] [[.fn (.func 205) [] [pT 1],iI c3],[.sl (c4.map zMZ.c)],(zMZ.d c1),zz0] ?_ ?_
  ·rcases tf (eqI c1.Op 1) with g8|g8
   ·have c9:=eqT g8
    refine st ?_
    simp[g8]
   have c10:=eqF g8
   refine st ?_
   simp[g8]
  rcases sp h with ⟨g11,h⟩|⟨g11,h⟩
  ·refine zEk rfl g11 ?_
   obtain⟨v12,q13,h⟩:=bs h
   refine cut 87 2 [(0,pT 0),(6,pT 3),(7,pT 4)] [[.fn (.func 205) [] [pT 1],iI c3],[.sl (c4.map zMZ.c)],(zMZ.d c1),zz0,(zMZ.d v12)] ?_ ?_
   ·refine zAx [1,995,996] [8] mixed (n:=87) rfl (by decide) (by decide) ?_
    simp
    have r22:=(zJz fuel c1 binders2 c4 v12 q13).frameZ [1] [[.fn (.func 205) [] [pT 1],iI c3],[.sl (c4.map zMZ.c)],(zMZ.d c1),zz0] (by simp) rfl (by simp) (by simp)
    try simp at r22
    refine zMO r22 (by simp) rfl (by decide) (by simp) ?_
    simp
   obtain⟨v14,q15,h⟩:=bs h
   obtain⟨n16,q17,h⟩:=bs h
   obtain⟨q18,q19⟩:=zBj q17
   try simp at q18
   try simp at q19
   have c20:=q18;simp only[Rng,inR] at c20
   refine cut 87 2 [(6,pT 3),(7,pT 4)] [[.fn (.func 205) [] [pT 1],iI n16],[.sl (c4.map zMZ.c)],(zMZ.d c1),zz0,(zMZ.d v12)] ?_ ?_
   ·refine zAJ [] mixed (n:=87) rfl (by decide) ?_
    simp[q18,q19]
    have r21:=zGO fuel v12 v14 q15
    try simp[q18,q19] at r21
    refine zGN r21 (by simp) rfl ?_
    simp[q18,q19]
   refine cutA 87 2 [(6,pT 3)] [[.fn (.func 205) [] [pT 1],iI n16],[.sl (c4.map zMZ.c)],(zMZ.d c1),(zMZ.d v12),(zMZ.d v12)]<|zAB<|zAE ?_
   obtain rfl:=oi h
   simp
  obtain⟨g23,g24⟩:=orF g11
  have c25:=eqF g23
  have c26:=eqF g24
  refine zEc rfl g11<|zAC<|zAH ?_
  obtain⟨n27,q28,h⟩:=bs h
  obtain⟨q29,q30⟩:=zBj q28
  try simp at q29
  try simp at q30
  have c31:=q29;simp only[Rng,inR] at c31
  refine cut 87 2 [(0,pT 0),(2,iI binders2),(4,pT 2),(6,pT 3)] [[.fn (.func 205) [] [pT 1],iI n27],[.sl (c4.map zMZ.c)],(zMZ.d c1),zz0] (st (by simp[q29,q30])) ?_
  obtain⟨v32,q33,h⟩:=bs h
  obtain⟨v34,q35,h⟩:=bs h
  refine cut 87 2 [(0,pT 0),(2,iI binders2),(4,pT 2),(6,pT 3),(8,pT 4)] [[.fn (.func 205) [] [pT 1],iI n27],[.sl (c4.map zMZ.c)],(zMZ.d c1),zz0,[iI c1.Op,iI c1.N,.str c1.S,.sl (v32.L.map zMY.c),.sl (v34.map cS),.osl ⟨6,28⟩ (([]:List zMZ).map zMZ.c)]] ?_ ?_
  ·refine zAJ [] mixed (n:=87) rfl (by decide) ?_
   simp
   have r72:=zGY fuel c1.Kind v32 q33
   try simp at r72
   refine zGN r72 (by simp) rfl ?_
   simp
   have r73:=zCJ c1.Names v34 q35
   try simp at r73
   refine zGN r73 (by simp) rfl ?_
   simp
  obtain⟨j36,l37,h⟩:=bs h
  refine zLO 87 2 [(0,pT 0),(2,iI j36),(4,pT 2),(6,pT 3),(8,pT 4)] [[.fn (.func 205) [] [pT 1],iI n27],[.sl (c4.map zMZ.c)],(zMZ.d c1),zz0,[iI c1.Op,iI c1.N,.str c1.S,.sl (v32.L.map zMY.c),.sl (v34.map cS),.osl ⟨6,28⟩ (([]:List zMZ).map zMZ.c)]] (fun jj=>?_) ?_
  ·obtain⟨v38,q39,l37⟩:=bs l37
   refine cut 87 2 [(0,pT 0),(2,iI binders2),(4,pT 2),(6,pT 3),(8,pT 4),(66,.bool v38)] [[.fn (.func 205) [] [pT 1],iI n27],[.sl (c4.map zMZ.c)],(zMZ.d c1),zz0,[iI c1.Op,iI c1.N,.str c1.S,.sl (v32.L.map zMY.c),.sl (v34.map cS),.osl ⟨6,28⟩ (([]:List zMZ).map zMZ.c)]] ?_ ?_
   ·refine st ?_
    simp
    have r46:=zDq c1 v38 q39
    try simp at r46
    refine cP r46 ?_
    simp
   refine spc l37 rfl (fun g40 l37=>?_) fun g40 l37=>?_
   ·obtain⟨n41,q42,l37⟩:=bs l37
    obtain⟨q43,q44⟩:=zBj q42
    try simp at q43
    try simp at q44
    have c45:=q43;simp only[Rng,inR] at c45
    refine last 87 2 [(0,pT 0),(2,iI n41),(4,pT 2),(6,pT 3),(8,pT 4)] [[.fn (.func 205) [] [pT 1],iI n27],[.sl (c4.map zMZ.c)],(zMZ.d c1),zz0,[iI c1.Op,iI c1.N,.str c1.S,.sl (v32.L.map zMY.c),.sl (v34.map cS),.osl ⟨6,28⟩ (([]:List zMZ).map zMZ.c)]] (st (by simp[q43,q44])) fun zz hs=>?_
    obtain rfl:=oi l37
    exact zAM jj hs
   refine zAC ?_
   obtain rfl:=oi l37
   exact zAM jj (zAL (by simp))
  refine zAD<|cutA 87 2 [(0,pT 0),(2,iI j36),(6,pT 3),(8,pT 4),(70,.sl (c1.L.map zMZ.c)),(71,iI c1.L.length),(72,iI 0)] [[.fn (.func 205) [] [pT 1],iI n27],[.sl (c4.map zMZ.c)],(zMZ.d c1),zz0,[iI c1.Op,iI c1.N,.str c1.S,.sl (v32.L.map zMY.c),.sl (v34.map cS),.osl ⟨6,28⟩ (([]:List zMZ).map zMZ.c)]]<|zAF ?_
  obtain⟨o50,l51,h⟩:=bs h
  refine zAm (fun p:Nat×Int×(List zMZ)×Nat=>mkS 87 2 [(0,pT 0),(2,iI j36),(6,pT 3),(8,pT 4),(70,.sl (c1.L.map zMZ.c)),(71,iI c1.L.length),(72,iI p.2.2.2)] [[.fn (.func 205) [] [pT 1],iI p.2.1],[.sl (c4.map zMZ.c)],(zMZ.d c1),zz0,[iI c1.Op,iI c1.N,.str c1.S,.sl (v32.L.map zMY.c),.sl (v34.map cS),.osl ⟨6,28⟩ (p.2.2.1.map zMZ.c)]]) (fun p=>zBJ (zAr fuel) c1 c4 j36 p.1 p.2.1 p.2.2.1 p.2.2.2=some o50) (fun p=>p.1) (fuel,n27,([]:List zMZ),0) l51 (zAL (by simp)) ?_
  rintro⟨k52,left47,L48,i49⟩ l51
  try dsimp only at l51 ⊢
  cases k52 with
  |zero=>
   rw[zBJ] at l51;cases l51
  |succ k53=>
   rw[zBJ] at l51
   refine cutA 87 2 [(0,pT 0),(2,iI j36),(6,pT 3),(8,pT 4),(70,.sl (c1.L.map zMZ.c)),(71,iI c1.L.length),(72,iI i49),(73,.bool (ltI i49 c1.L.length))] [[.fn (.func 205) [] [pT 1],iI left47],[.sl (c4.map zMZ.c)],(zMZ.d c1),zz0,[iI c1.Op,iI c1.N,.str c1.S,.sl (v32.L.map zMY.c),.sl (v34.map cS),.osl ⟨6,28⟩ (L48.map zMZ.c)]]<|zAD<|spc l51 rfl (fun g54 l51=>?_) fun g54 l51=>?_
   ·have c55:=ltT g54
    refine zCA 70 rfl fun f56=>?_
    rw[zq4] at f56
    refine zAC<|zAH<|zAD<|zAF ?_
    obtain⟨x57,q58,l51⟩:=bs l51
    refine cut 87 2 [(0,pT 0),(2,iI j36),(6,pT 3),(8,pT 4),(10,pT 5),(70,.sl (c1.L.map zMZ.c)),(71,iI c1.L.length),(72,iI i49)] [[.fn (.func 205) [] [pT 1],iI left47],[.sl (c4.map zMZ.c)],(zMZ.d c1),zz0,[iI c1.Op,iI c1.N,.str c1.S,.sl (v32.L.map zMY.c),.sl (v34.map cS),.osl ⟨6,28⟩ (L48.map zMZ.c)],(zMZ.d x57)] (st (by simp[q58])) ?_
    obtain⟨v59,q60,l51⟩:=bs l51
    obtain⟨l61,q62,l51⟩:=bs l51
    obtain⟨q63,q64⟩:=zI7 q62
    try simp at q63
    refine last 87 2 [(0,pT 0),(2,iI j36),(6,pT 3),(8,pT 4),(70,.sl (c1.L.map zMZ.c)),(71,iI c1.L.length),(72,iI i49)] [[.fn (.func 205) [] [pT 1],iI v59.2],[.sl (c4.map zMZ.c)],(zMZ.d c1),zz0,[iI c1.Op,iI c1.N,.str c1.S,.sl (v32.L.map zMY.c),.sl (v34.map cS),.osl ⟨6,28⟩ (l61.map zMZ.c)],(zMZ.d x57)] ?_ fun zz hs=>?_
    ·refine zAx [0,1,996] [7,9] mixed (n:=87) rfl (by decide) (by decide) ?_
     simp[q63,q64]
     have r66:=(zHk x57 j36 left47 c4 v59 q60).frameZ [0,1] [[.fn (.func 205) [] [pT 1],iI left47],[.sl (c4.map zMZ.c)],(zMZ.d c1),zz0,[iI c1.Op,iI c1.N,.str c1.S,.sl (v32.L.map zMY.c),.sl (v34.map cS),.osl ⟨6,28⟩ (L48.map zMZ.c)],(zMZ.d x57)] (by simp) rfl (by simp) (by simp)
     try simp[q63,q64] at r66
     refine zMO r66 (by simp[q63,q64]) rfl (by decide) (by simp) ?_
     simp[q63,q64]
    refine zC1<|zAM ?_ hs
    have q65:Rng .i64 (((i49:Nat):Int)+1):=by simp only[Rng,inR];omega
    try simp at q65
    refine last 87 2 [(0,pT 0),(2,iI j36),(6,pT 3),(8,pT 4),(70,.sl (c1.L.map zMZ.c)),(71,iI c1.L.length),(72,iI ((i49+1:Nat):Int))] [[.fn (.func 205) [] [pT 1],iI v59.2],[.sl (c4.map zMZ.c)],(zMZ.d c1),zz0,[iI c1.Op,iI c1.N,.str c1.S,.sl (v32.L.map zMY.c),.sl (v34.map cS),.osl ⟨6,28⟩ (l61.map zMZ.c)]] (st (by simp[q65])) fun zz hs=>?_
    exact⟨(k53,v59.2,l61,i49+1),hs,l51,by simp⟩
   have c67:=ltF g54
   refine zCA 70 rfl fun f68=>?_
   rw[zq4] at f68
   refine zAQ<|zAG ?_
   have q69:=zqa l51
   have q70:o50.1=left47:=by rw[<-q69]
   have q71:o50.2=L48:=by rw[<-q69]
   refine zAG<|zAS<|zAM (t:=mkS 87 2 [(6,pT 3),(8,pT 4)] [[.fn (.func 205) [] [pT 1],iI o50.1],[.sl (c4.map zMZ.c)],(zMZ.d c1),zz0,[iI c1.Op,iI c1.N,.str c1.S,.sl (v32.L.map zMY.c),.sl (v34.map cS),.osl ⟨6,28⟩ (o50.2.map zMZ.c)]]) ?_ (zAL (by simp[q70,q71]))
   refine cutA 87 2 [(6,pT 3)] [[.fn (.func 205) [] [pT 1],iI o50.1],[.sl (c4.map zMZ.c)],(zMZ.d c1),[iI c1.Op,iI c1.N,.str c1.S,.sl (v32.L.map zMY.c),.sl (v34.map cS),.sl (o50.2.map zMZ.c)],[iI c1.Op,iI c1.N,.str c1.S,.sl (v32.L.map zMY.c),.sl (v34.map cS),.osl ⟨6,28⟩ (o50.2.map zMZ.c)]]<|zAB ?_
   obtain rfl:=oi h
   simp
theorem zGd(fuel:Nat)(c1:zMZ)(c2:(List zMZ))(r:zMZ×Int)(h:zCb fuel c1 c2=some r):Raw Tryz.prog 92 [.agg (zMZ.d c1),.fn (.func 205) [] [pT 0]] [[.sl (c2.map zMZ.c)]] (.tup [.agg (zMZ.d r.1),iI r.2]) [[.sl (c2.map zMZ.c)]]:=by
 rw[zCb] at h
 refine zAq Tryz.func92 (by rfl) (by rfl) (by simp) (by simp)<|cutA 26 1 [(1,.fn (.func 205) [] [pT 0]),(2,pT 1),(4,pT 2)] [[.sl (c2.map zMZ.c)],(zMZ.d c1),zz0]<|cutA 26 1 [(2,pT 1),(4,pT 2),(6,pT 3)] [[.sl (c2.map zMZ.c)],(zMZ.d c1),zz0,[.fn (.func 205) [] [pT 0],iI 20000]] ?_
 obtain⟨v3,q4,h⟩:=bs h
 refine cut 26 1 [(4,pT 2),(6,pT 3),(7,pT 4)] [[.sl (c2.map zMZ.c)],(zMZ.d c1),zz0,[.fn (.func 205) [] [pT 0],iI v3.2],(zMZ.d v3.1)] ?_ ?_
 ·refine st ?_
  simp
  have r14:=(zHT fuel c1 0 20000 c2 v3 q4).frame [3,0] [[.sl (c2.map zMZ.c)],(zMZ.d c1),zz0,[.fn (.func 205) [] [pT 0],iI 20000]] (by simp)
  try simp at r14
  refine zCV r14 (by simp) rfl ?_
  simp
 refine zAD ?_
 obtain⟨b10,q11,h⟩:=bs h
 refine cut 26 1 [(4,pT 2),(7,pT 4),(23,.bool b10)] [[.sl (c2.map zMZ.c)],(zMZ.d c1),zz0,[.fn (.func 205) [] [pT 0],iI v3.2],(zMZ.d v3.1)] ?_ ?_
 ·rcases sp q11 with ⟨g5,q11⟩|⟨g5,q11⟩
  ·have c6:=ltT g5
   obtain rfl:=oi q11
   refine st ?_
   simp[g5]
  have c7:=ltF g5
  obtain⟨v8,q9,q11⟩:=bs q11
  obtain rfl:=oi q11
  refine st ?_
  simp[g5]
  have r13:=zC6 fuel v3.1 v8 q9
  try simp[g5] at r13
  refine cP r13 ?_
  simp[g5]
 refine spc h rfl (fun g12 h=>?_) fun g12 h=>?_
 ·refine cutA 26 1 [(4,pT 2),(5,iI 6)] [[.sl (c2.map zMZ.c)],(zMZ.d c1),zz0,[.fn (.func 205) [] [pT 0],iI v3.2],(zMZ.d v3.1)]<|zAB<|zAE ?_
  obtain rfl:=oi h
  simp
 refine zAC<|zAH<|cutA 26 1 [(4,pT 2),(5,iI 0)] [[.sl (c2.map zMZ.c)],(zMZ.d c1),(zMZ.d v3.1),[.fn (.func 205) [] [pT 0],iI v3.2],(zMZ.d v3.1)]<|zAB ?_
 obtain rfl:=oi h
 simp
theorem zLc(fuel:Nat)(c1:zMZ)(l2:(List zMZ))(r:zMZ×Int)(h:zFe fuel c1 l2=some r):Pure Tryz.prog 176 [.agg (zMZ.d c1),.sl (l2.map zMZ.c)] (.tup [.agg (zMZ.d r.1),iI r.2]):=by
 rw[zFe] at h
 refine zAA Tryz.func176 (by rfl) (by rfl) (by simp) (by simp) (by simp)<|cutA 24 0 [(2,pT 0),(3,pT 1),(4,pT 2)] [(zMZ.d c1),[.sl (l2.map zMZ.c)],zz0]<|zAD ?_
 obtain⟨b10,q11,h⟩:=bs h
 refine cut 24 0 [(2,pT 0),(3,pT 1),(4,pT 2),(13,.bool b10)] [(zMZ.d c1),[.sl (l2.map zMZ.c)],zz0] ?_ ?_
 ·obtain⟨v3,q4,q11⟩:=bs q11
  rcases sp q11 with ⟨g5,q11⟩|⟨g5,q11⟩
  ·have g6:=notT g5
   obtain rfl:=oi q11
   refine st ?_
   simp[g5]
   have r21:=zC6 fuel c1 v3 q4
   try simp[g5] at r21
   refine cP r21 ?_
   simp[g5]
  have g7:=notF g5
  obtain⟨v8,q9,q11⟩:=bs q11
  obtain rfl:=oi q11
  refine st ?_
  simp[g5]
  have r22:=zC6 fuel c1 v3 q4
  try simp[g5] at r22
  refine cP r22 ?_
  simp[g5]
  have r23:=tycon_all_ok fuel l2 v8 q9
  try simp[g5] at r23
  refine cP r23 ?_
  simp[g5]
 refine spc h rfl (fun g12 h=>?_) fun g12 h=>?_
 ·refine cutA 24 0 [(4,pT 2),(5,iI 1)] [(zMZ.d c1),[.sl (l2.map zMZ.c)],zz0]<|zAB<|zAE ?_
  obtain rfl:=oi h
  simp
 refine zAC<|zAH<|zAD<|cutA 24 0 [(2,pT 0),(3,pT 1),(4,pT 2),(17,.bool (ltI 1000 l2.length))] [(zMZ.d c1),[.sl (l2.map zMZ.c)],zz0]<|spc h rfl (fun g13 h=>?_) fun g13 h=>?_
 ·have c14:=ltT g13
  refine zCB 1 0 rfl rfl rfl fun f15=>?_
  rw[zq4] at f15
  refine cutA 24 0 [(4,pT 2),(5,iI 5)] [(zMZ.d c1),[.sl (l2.map zMZ.c)],zz0]<|zAB<|zAE ?_
  obtain rfl:=oi h
  simp
 have c16:=ltF g13
 refine zCB 1 0 rfl rfl rfl fun f17=>?_
 rw[zq4] at f17
 refine zAC<|zAH ?_
 obtain⟨v18,q19,h⟩:=bs h
 refine cut 24 0 [(4,pT 2),(5,iI v18.2)] [(zMZ.d c1),[.sl (l2.map zMZ.c)],(zMZ.d v18.1)] ?_ ?_
 ·refine st ?_
  simp
  have r20:=(zGd fuel c1 l2 v18 q19).frame [1] [(zMZ.d c1),[.sl (l2.map zMZ.c)],zz0] (by simp)
  try simp at r20
  refine zCV r20 (by simp) rfl ?_
  simp
 refine zAB ?_
 obtain rfl:=oi h
 simp
theorem zHf(fuel:Nat)(f1:zMZ)(a2:zMZ)(w3:zMW)(r:zMZ×zMW)(h:zCX fuel f1 a2 w3=some r):Raw Tryz.prog 145 [pT 0,.agg (zMZ.d f1),.agg (zMZ.d a2)] [[iI w3.steps,.bool w3.over]] (.agg (zMZ.d r.1)) [[iI r.2.steps,.bool r.2.over]]:=by
 rw[zCX] at h
 refine zAq Tryz.func145 (by rfl) (by rfl) (by simp) (by simp)<|cutA 48 1 [(0,pT 0),(4,pT 1),(5,pT 2),(6,pT 3)] [[iI w3.steps,.bool w3.over],(zMZ.d f1),(zMZ.d a2),zz0] ?_
 obtain⟨n4,q5,h⟩:=bs h
 obtain⟨q6,q7⟩:=zBj q5
 try simp at q6
 try simp at q7
 have c8:=q6;simp only[Rng,inR] at c8
 refine cut 48 1 [(0,pT 0),(4,pT 1),(5,pT 2),(6,pT 3)] [[iI n4,.bool w3.over],(zMZ.d f1),(zMZ.d a2),zz0] (st (by simp[q6,q7]))<|zAD<|cutA 48 1 [(0,pT 0),(4,pT 1),(5,pT 2),(6,pT 3),(20,.bool (ltI 10000 n4))] [[iI n4,.bool w3.over],(zMZ.d f1),(zMZ.d a2),zz0]<|spc h rfl (fun g9 h=>?_) fun g9 h=>?_
 ·have c10:=ltT g9
  refine lastA 48 1 [(0,pT 0),(4,pT 1),(5,pT 2),(6,pT 3)] [[iI n4,.bool true],(zMZ.d f1),(zMZ.d a2),zz0]<|zAD<|cutA 48 1 [(0,pT 0),(4,pT 1),(5,pT 2),(6,pT 3),(27,.bool true)] [[iI n4,.bool true],(zMZ.d f1),(zMZ.d a2),zz0]<|zEk rfl rfl<|cutA 48 1 [(6,pT 3)] [[iI n4,.bool true],(zMZ.d f1),(zMZ.d a2),zz0]<|zAB<|zAE ?_
  obtain rfl:=oi h
  simp
 have c11:=ltF g9
 refine zAC<|zAH<|zAD<|cutA 48 1 [(0,pT 0),(4,pT 1),(5,pT 2),(6,pT 3),(27,.bool w3.over)] [[iI n4,.bool w3.over],(zMZ.d f1),(zMZ.d a2),zz0]<|spc h rfl (fun g12 h=>?_) fun g12 h=>?_
 ·refine cutA 48 1 [(6,pT 3)] [[iI n4,.bool w3.over],(zMZ.d f1),(zMZ.d a2),zz0]<|zAB<|zAE ?_
  obtain rfl:=oi h
  simp
 refine zAC<|zAH ?_
 obtain⟨x13,q14,h⟩:=bs h
 obtain⟨v15,q16,h⟩:=bs h
 refine cut 48 1 [(0,pT 0),(6,pT 3),(7,pT 4),(8,iI v15.2)] [[iI n4,.bool w3.over],(zMZ.d f1),(zMZ.d a2),zz0,(zMZ.d v15.1)] ?_ ?_
 ·refine zAJ [] mixed (n:=48) rfl (by decide) ?_
  simp[q14]
  have r25:=zLc fuel x13 [a2] v15 q16
  try simp[q14] at r25
  refine zGN r25 (by simp) rfl ?_
  simp[q14]
 refine zAD<|cutA 48 1 [(0,pT 0),(6,pT 3),(7,pT 4),(40,.bool (!(eqI v15.2 0)))] [[iI n4,.bool w3.over],(zMZ.d f1),(zMZ.d a2),zz0,(zMZ.d v15.1)] ?_
 rcases sp h with ⟨g17,h⟩|⟨g17,h⟩
 ·have g18:=notT g17
  have c19:=eqF g18
  refine zEk rfl g17<|cutA 48 1 [(6,pT 3)] [[iI n4,.bool true],(zMZ.d f1),(zMZ.d a2),zz0,(zMZ.d v15.1)]<|cutA 48 1 [(6,pT 3)] [[iI n4,.bool true],(zMZ.d f1),(zMZ.d a2),zz0,(zMZ.d v15.1)]<|zAB<|zAE ?_
  obtain rfl:=oi h
  simp
 have g20:=notF g17
 have c21:=eqT g20
 refine zEc rfl g17<|zAC<|zAH ?_
 obtain⟨v22,q23,h⟩:=bs h
 refine cut 48 1 [(6,pT 3)] [[iI v22.2.steps,.bool v22.2.over],(zMZ.d f1),(zMZ.d a2),(zMZ.d v22.1),(zMZ.d v15.1)] ?_ ?_
 ·refine st ?_
  simp
  have r24:=(zFb fuel v15.1 (zMW.mk n4 w3.over) v22 q23).frame [0] [[iI n4,.bool w3.over],(zMZ.d f1),(zMZ.d a2),zz0,(zMZ.d v15.1)] (by simp)
  try simp at r24
  refine zCV r24 (by simp) rfl ?_
  simp
 refine zAB ?_
 obtain rfl:=oi h
 simp
theorem zKQ(op1:Int)(r:Bool)(h:zGb op1=some r):Pure Tryz.prog 206 [iI op1] (.bool r):=by
 rw[zGb] at h
 refine zAA Tryz.func206 (by rfl) (by rfl) (by simp) (by simp) (by simp)<|cutA 17 0 [(0,iI op1)] []<|cut 17 0 [(2,.bool ((eqI op1 9)||((eqI op1 10)||((eqI op1 11)||(eqI op1 13)))))] [] ?_ ?_
 ·rcases tf (eqI op1 9) with g2|g2
  ·have c3:=eqT g2
   refine st ?_
   simp[g2]
  have c4:=eqF g2
  rcases tf (eqI op1 10) with g5|g5
  ·have c6:=eqT g5
   refine st ?_
   simp[g2,g5]
  have c7:=eqF g5
  rcases tf (eqI op1 11) with g8|g8
  ·have c9:=eqT g8
   refine st ?_
   simp[g2,g5,g8]
  have c10:=eqF g8
  refine st ?_
  simp[g2,g5,g8]
 refine zAB ?_
 obtain rfl:=oi h
 simp
theorem zCm(fuel:Nat):(∀(x1:zMZ)(c2:Int)(r:Bool)(_:zB4 fuel x1 c2=some r),Raw Tryz.prog 207 [.agg (zMZ.d x1),pT 0] [[iI c2]] (.bool r) [[iI c2]])∧(∀(s1:(List zMZ))(c2:Int)(r:Int)(_:zAt fuel s1 c2=some r),Raw Tryz.prog 174 [.sl (s1.map zMZ.c),.fn (.func 207) [] [pT 0]] [[iI c2]] (iI r) [[iI c2]])∧(∀(s1:(List zMZ))(c2:Int)(r:Bool)(_:zAX fuel s1 c2=some r),Raw Tryz.prog 142 [.sl (s1.map zMZ.c),.fn (.func 207) [] [pT 0]] [[iI c2]] (.bool r) [[iI c2]])∧(∀(c1:zMZ)(n2:Int)(r:Bool)(_:zCk fuel c1 n2=some r),Pure Tryz.prog 177 [.agg (zMZ.d c1),iI n2] (.bool r)):=by
 induction fuel with
 |zero=>
  refine⟨?_,?_,?_,?_⟩
  ·intro x1 c2 r h;rw[zB4] at h;cases h
  ·intro s1 c2 r h;rw[zAt] at h;cases h
  ·intro s1 c2 r h;rw[zAX] at h;cases h
  ·intro c1 n2 r h;rw[zCk] at h;cases h
 |succ fuel ih=>
  obtain⟨zJL,zEi,zCQ,zKc⟩:=ih
  refine⟨?_,?_,?_,?_⟩
  ·intro x1 c2 r h
   rw[zB4] at h
   refine zAq Tryz.func207 (by rfl) (by rfl) (by simp) (by simp)<|cutA 7 1 [(1,pT 0),(2,pT 1)] [[iI c2],(zMZ.d x1)] ?_
   obtain⟨v3,q4,h⟩:=bs h
   refine cut 7 1 [(3,.bool v3)] [[iI c2],(zMZ.d x1)] ?_ ?_
   ·refine st ?_
    simp
    have r5:=zKc x1 c2 v3 q4
    try simp at r5
    refine cP r5 ?_
    simp
   refine zAB ?_
   obtain rfl:=oi h
   simp
  ·intro s1 c2 r h
   rw[zAt] at h
   refine zAq Tryz.func174 (by rfl) (by rfl) (by simp) (by simp)<|cutA 19 1 [(0,.sl (s1.map zMZ.c)),(1,.fn (.func 207) [] [pT 0])] [[iI c2]]<|zAD<|cutA 19 1 [(0,.sl (s1.map zMZ.c)),(1,.fn (.func 207) [] [pT 0]),(7,iI s1.length),(8,iI 0)] [[iI c2]]<|zAF ?_
   obtain⟨o5,l6,h⟩:=bs h
   refine zAm (fun p:Nat×Nat=>mkS 19 1 [(0,.sl (s1.map zMZ.c)),(1,.fn (.func 207) [] [pT 0]),(7,iI s1.length),(8,iI p.2)] [[iI c2]]) (fun p=>zAV (zB4 fuel) s1 c2 p.1 p.2=some o5) (fun p=>p.1) (fuel,0) l6 (zAL (by simp)) ?_
   rintro⟨k7,i3⟩ l6
   try dsimp only at l6 ⊢
   cases k7 with
   |zero=>
    rw[zAV] at l6;cases l6
   |succ k8=>
    rw[zAV] at l6
    refine cutA 19 1 [(0,.sl (s1.map zMZ.c)),(1,.fn (.func 207) [] [pT 0]),(7,iI s1.length),(8,iI i3),(9,.bool (ltI i3 s1.length))] [[iI c2]]<|zAD<|spc l6 rfl (fun g9 l6=>?_) fun g9 l6=>?_
    ·have c10:=ltT g9
     refine zCA 0 rfl fun f11=>?_
     rw[zq4] at f11
     refine zAC<|zAH<|zAD<|zAF<|cutA 19 1 [(0,.sl (s1.map zMZ.c)),(1,.fn (.func 207) [] [pT 0]),(5,iI i3),(7,iI s1.length),(8,iI i3)] [[iI c2]] ?_
     obtain⟨x12,q13,l6⟩:=bs l6
     obtain⟨v14,q15,l6⟩:=bs l6
     refine cut 19 1 [(0,.sl (s1.map zMZ.c)),(1,.fn (.func 207) [] [pT 0]),(5,iI i3),(7,iI s1.length),(8,iI i3),(16,.bool v14)] [[iI c2]] ?_ ?_
     ·refine st ?_
      simp[q13]
      have r18:=(zJL x12 c2 v14 q15).frame [0] [[iI c2]] (by simp)
      try simp[q13] at r18
      refine zCV r18 (by simp[q13]) rfl ?_
      simp[q13]
     refine spc l6 rfl (fun g16 l6=>?_) fun g16 l6=>?_
     ·refine cutA 19 1 [(4,iI i3)] [[iI c2]]<|zAB<|zAK<|zAE ?_
      replace h:=retL l6 h
      refine zAE<|zAK<|zAE ?_
      obtain rfl:=oi h
      simp
     refine zAC<|zC1<|zAH ?_
     have q17:Rng .i64 (((i3:Nat):Int)+1):=by simp only[Rng,inR];omega
     try simp at q17
     refine last 19 1 [(0,.sl (s1.map zMZ.c)),(1,.fn (.func 207) [] [pT 0]),(7,iI s1.length),(8,iI ((i3+1:Nat):Int))] [[iI c2]] (st (by simp[q17])) fun zz hs=>?_
     exact⟨(k8,i3+1),hs,l6,by simp⟩
    have c19:=ltF g9
    refine zCA 0 rfl fun f20=>?_
    rw[zq4] at f20
    refine zAQ<|zAG ?_
    rcases o5 with o5|o4
    ·cases l6
    have q21:=Sum.inr.inj (zqa l6)
    replace h:=zF0 h
    refine zAG<|zAS<|zAM (t:=mkS 19 1 [] [[iI c2]]) ?_ (zAL (by simp))
    refine cutA 19 1 [(4,iI (-1))] [[iI c2]]<|zAB ?_
    obtain rfl:=oi h
    simp
  ·intro s1 c2 r h
   rw[zAX] at h
   refine zAq Tryz.func142 (by rfl) (by rfl) (by simp) (by simp)<|cutA 9 1 [(0,.sl (s1.map zMZ.c)),(1,.fn (.func 207) [] [pT 0])] [[iI c2]] ?_
   obtain⟨v3,q4,h⟩:=bs h
   refine cut 9 1 [(4,.bool (leI 0 v3))] [[iI c2]] ?_ ?_
   ·refine st ?_
    simp
    have r5:=(zEi s1 c2 v3 q4).frame [0] [[iI c2]] (by simp)
    try simp at r5
    refine zCV r5 (by simp) rfl ?_
    simp
   refine zAB ?_
   obtain rfl:=oi h
   simp
  ·intro c1 n2 r h
   rw[zCk] at h
   refine zAA Tryz.func177 (by rfl) (by rfl) (by simp) (by simp) (by simp)<|cutA 21 0 [(2,pT 0),(3,pT 1)] [(zMZ.d c1),[iI n2]]<|zAD<|cutA 21 0 [(2,pT 0),(3,pT 1),(7,.bool (eqI c1.Op 1))] [(zMZ.d c1),[iI n2]]<|spc h rfl (fun g3 h=>?_) fun g3 h=>?_
   ·refine cutA 21 0 [(4,.bool (eqI c1.N n2))] [(zMZ.d c1),[iI n2]]<|zAB<|zAE ?_
    obtain rfl:=oi h
    simp
   refine zAC<|zAH<|zAD ?_
   obtain⟨v6,q7,h⟩:=bs h
   refine cut 21 0 [(2,pT 0),(3,pT 1),(14,.bool v6)] [(zMZ.d c1),[iI n2]] ?_ ?_
   ·refine st ?_
    simp
    have r20:=zKQ c1.Op v6 q7
    try simp at r20
    refine cP r20 ?_
    simp
   refine spc h rfl (fun g8 h=>?_) fun g8 h=>?_
   ·obtain⟨n9,q10,h⟩:=bs h
    obtain⟨q11,q12⟩:=zBj q10
    try simp at q11
    try simp at q12
    have c13:=q11;simp only[Rng,inR] at c13
    refine last 21 0 [(2,pT 0),(3,pT 1)] [(zMZ.d c1),[iI n9]] (st (by simp[q11,q12])) fun zz hs=>?_
    refine zAM ?_ hs
    obtain⟨v14,q15,h⟩:=bs h
    refine cut 21 0 [(4,.bool v14)] [(zMZ.d c1),[iI n9]] ?_ ?_
    ·refine st ?_
     simp
     have r16:=(zCQ c1.L n9 v14 q15).frame [1] [(zMZ.d c1),[iI n9]] (by simp)
     try simp at r16
     refine zCV r16 (by simp) rfl ?_
     simp
    refine zAB ?_
    obtain rfl:=oi h
    simp
   refine zAC<|zAH ?_
   obtain⟨v17,q18,h⟩:=bs h
   refine cut 21 0 [(4,.bool v17)] [(zMZ.d c1),[iI n2]] ?_ ?_
   ·refine st ?_
    simp
    have r19:=(zCQ c1.L n2 v17 q18).frame [1] [(zMZ.d c1),[iI n2]] (by simp)
    try simp at r19
    refine zCV r19 (by simp) rfl ?_
    simp
   refine zAB ?_
   obtain rfl:=oi h
   simp
theorem zKO(fuel:Nat):(∀(c1:zMZ)(n2:Int)(r:Bool)(_:zCk fuel c1 n2=some r),Pure Tryz.prog 177 [.agg (zMZ.d c1),iI n2] (.bool r)):=(zCm fuel).2.2.2
theorem normal_eta_ok(fuel:Nat)(c1:zMZ)(r:Bool)(h:zGH fuel c1=some r):Pure Tryz.prog 146 [.agg (zMZ.d c1)] (.bool r):=by
 rw[zGH] at h
 refine zAA Tryz.func146 (by rfl) (by rfl) (by simp) (by simp) (by simp)<|cutA 43 0 [(1,pT 0)] [(zMZ.d c1)]<|zAD ?_
 obtain⟨b9,q10,h⟩:=bs h
 refine cut 43 0 [(1,pT 0),(15,.bool b9)] [(zMZ.d c1)] ?_ ?_
 ·rcases sp q10 with ⟨g2,q10⟩|⟨g2,q10⟩
  ·have g3:=notT g2
   have c4:=eqF g3
   obtain rfl:=oi q10
   refine st ?_
   simp[g2]
  have g5:=notF g2
  have c6:=eqT g5
  obtain⟨x7,q8,q10⟩:=bs q10
  obtain rfl:=oi q10
  refine st ?_
  simp[g2,q8]
 refine spc h rfl (fun g11 h=>?_) fun g11 h=>?_
 ·refine cutA 43 0 [(2,.bool false)] [(zMZ.d c1)]<|zAB<|zAE ?_
  obtain rfl:=oi h
  simp
 refine zAC<|zAH ?_
 obtain⟨x12,q13,h⟩:=bs h
 obtain⟨x14,q15,h⟩:=bs h
 obtain⟨x16,q17,h⟩:=bs h
 refine cut 43 0 [(3,pT 1),(4,pT 2)] [(zMZ.d c1),(zMZ.d x14),(zMZ.d x16)] ?_ ?_
 ·refine zK9 mixed 17 (fun L s=> ∃(pos:Nat->Nat) (bl:List (List AV)),NPos [(14,(if L 16=true then (zMZ.d x14) else [iI 0,iI 0,.str ([]:List UInt8),.nsl,.nsl,.nsl])),(15,[iI 0,iI 0,.str ([]:List UInt8),.nsl,.nsl,.nsl])] L pos bl∧s.n=43∧s.base=0∧(∀t,s.loans t=none)∧s.blocks=[(zMZ.d c1)]++bl∧s.get 1=pT 0∧s.get 15=.bool b9∧(L 0=true->s.get 16=.mptr 0 5)∧(L 1=true->s.get 17=.sl (c1.L.map zMZ.c))∧(L 2=true->s.get 18=.cptr (zMZ.d x12))∧(L 3=true->s.get 19=.cptr [.sl (x12.L.map zMZ.c)])∧(L 4=true->s.get 20=.sl (x12.L.map zMZ.c))∧(L 5=true->s.get 21=.cptr (zMZ.d x14))∧(L 6=true->s.get 22=.agg (zMZ.d x14))∧(L 7=true->s.get 23=.mptr 0 5)∧(L 8=true->s.get 24=.sl (c1.L.map zMZ.c))∧(L 9=true->s.get 25=.cptr (zMZ.d x12))∧(L 10=true->s.get 26=.cptr [.sl (x12.L.map zMZ.c)])∧(L 11=true->s.get 27=.sl (x12.L.map zMZ.c))∧(L 12=true->s.get 28=.cptr (zMZ.d x16))∧(L 13=true->s.get 29=.agg (zMZ.d x16))∧(L 14=true->s.get 3=.mptr (pos 14+1) 0)∧(L 15=true->s.get 4=.mptr (pos 15+1) 0)∧(L 16=true->L 14=true)) (by decide) ⟨fun _=>0,[],NPos.start _ _,by simp⟩ ?_ ?_
  ·refine⟨?_,?_,?_,?_,?_,?_,?_,?_,?_,?_,?_,?_,?_,?_,?_,?_,?_,trivial⟩
   all_goals
    intro L s hL he hI
    obtain⟨pos,bl,hN,fn1,fn2,fn3,fn4,fw1,fw15,fv0,fv1,fv2,fv3,fv4,fv5,fv6,fv7,fv8,fv9,fv10,fv11,fv12,fv13,fv14,fv15,fc16⟩:=hI
    try simp[q13,q15,q17] at fv0 fv1 fv2 fv3 fv4 fv5 fv6 fv7 fv8 fv9 fv10 fv11 fv12 fv13 fv14 fv15
   refine AStep.mono ?_ fun s' h=>⟨_,_,hN.skip (by simp),h⟩
   rotate_left
   replace fv0:=fv0 ((zq8 he) 0 (by decide))
   refine AStep.mono ?_ fun s' h=>⟨_,_,hN.skip (by simp),h⟩
   rotate_left
   replace fv1:=fv1 ((zq8 he) 1 (by decide))
   refine AStep.mono ?_ fun s' h=>⟨_,_,hN.skip (by simp),h⟩
   rotate_left
   replace fv2:=fv2 ((zq8 he) 2 (by decide))
   refine AStep.mono ?_ fun s' h=>⟨_,_,hN.skip (by simp),h⟩
   rotate_left
   replace fv3:=fv3 ((zq8 he) 3 (by decide))
   refine AStep.mono ?_ fun s' h=>⟨_,_,hN.skip (by simp),h⟩
   rotate_left
   replace fv4:=fv4 ((zq8 he) 4 (by decide))
   refine AStep.mono ?_ fun s' h=>⟨_,_,hN.skip (by simp),h⟩
   rotate_left
   replace fv5:=fv5 ((zq8 he) 5 (by decide))
   refine AStep.mono ?_ fun s' h=>⟨_,_,hN.skip (by simp),h⟩
   rotate_left
   refine AStep.mono ?_ fun s' h=>⟨_,_,hN.skip (by simp),h⟩
   rotate_left
   replace fv7:=fv7 ((zq8 he) 7 (by decide))
   refine AStep.mono ?_ fun s' h=>⟨_,_,hN.skip (by simp),h⟩
   rotate_left
   replace fv8:=fv8 ((zq8 he) 8 (by decide))
   refine AStep.mono ?_ fun s' h=>⟨_,_,hN.skip (by simp),h⟩
   rotate_left
   replace fv9:=fv9 ((zq8 he) 9 (by decide))
   refine AStep.mono ?_ fun s' h=>⟨_,_,hN.skip (by simp),h⟩
   rotate_left
   replace fv10:=fv10 ((zq8 he) 10 (by decide))
   refine AStep.mono ?_ fun s' h=>⟨_,_,hN.skip (by simp),h⟩
   rotate_left
   replace fv11:=fv11 ((zq8 he) 11 (by decide))
   refine AStep.mono ?_ fun s' h=>⟨_,_,hN.skip (by simp),h⟩
   rotate_left
   replace fv12:=fv12 ((zq8 he) 12 (by decide))
   refine AStep.mono ?_ fun s' h=>⟨_,_,hN.skip (by simp),h⟩
   rotate_left
   have hL:L 14=false:=hL
   have fh16:L 16=false:=by cases hh:L 16 with|false=>rfl|true=>have:=fc16 hh;rw[hL] at this;cases this
   have hN2:=hN.push (i:=14) (blk:=[iI 0,iI 0,.str ([]:List UInt8),.nsl,.nsl,.nsl]) (by simp[fh16]) (by simp) hL
   refine AStep.mono ?_ fun s' h=>⟨_,_,hN2,h⟩
   rotate_left
   refine AStep.mono ?_ fun s' h=>⟨_,_,hN.push (i:=15) (blk:=[iI 0,iI 0,.str ([]:List UInt8),.nsl,.nsl,.nsl]) (by simp) (by simp) hL,h⟩
   rotate_left
   replace fv0:=fv0 ((zq8 he) 0 (by decide))
   replace fv1:=fv1 ((zq8 he) 1 (by decide))
   replace fv2:=fv2 ((zq8 he) 2 (by decide))
   replace fv3:=fv3 ((zq8 he) 3 (by decide))
   replace fv4:=fv4 ((zq8 he) 4 (by decide))
   replace fv5:=fv5 ((zq8 he) 5 (by decide))
   replace fv6:=fv6 ((zq8 he) 6 (by decide))
   replace fv14:=fv14 ((zq8 he) 14 (by decide))
   replace fv15:=fv15 ((zq8 he) 15 (by decide))
   have hA:L 14=true:=(zq8 he) 14 (by decide)
   have hL:L 16=false:=hL
   have e1:=hN.at_ (14,if L 16=true then (zMZ.d x14) else [iI 0,iI 0,.str ([]:List UInt8),.nsl,.nsl,.nsl]) (by simp) hA
   simp[hL] at e1
   have e2:pos 14<bl.length:=(zq1 e1).1
   refine store_all (pos 14+1) (.agg (zMZ.d x14)) (zMZ.d x14) rfl rfl ti28 (by simp[fv14]) (by simp[fn1,fn2,fn3,fn4,fw1,fw15,fv0,fv1,fv2,fv3,fv4,fv5,fv6,fv7,fv8,fv9,fv10,fv11,fv12,fv13,fv14,fv15,q13,q15,q17]) (by simp[fn1,fn2,fn3,fn4,fw1,fw15,fv0,fv1,fv2,fv3,fv4,fv5,fv6,fv7,fv8,fv9,fv10,fv11,fv12,fv13,fv14,fv15,q13,q15,q17]) (by rfl) (by simp) (by simp) (by simp) (by simp) (by simp[fn1,fn2,fn3,fn4,fw1,fw15,fv0,fv1,fv2,fv3,fv4,fv5,fv6,fv7,fv8,fv9,fv10,fv11,fv12,fv13,fv14,fv15,q13,q15,q17,e1]) (by simp[fn4];omega) fn3<|⟨pos,bl.set (pos 14) (zMZ.d x14),hN.store (N':=[(14,(if true=true then (zMZ.d x14) else [iI 0,iI 0,.str ([]:List UInt8),.nsl,.nsl,.nsl])),(15,[iI 0,iI 0,.str ([]:List UInt8),.nsl,.nsl,.nsl])]) (A:=(zMZ.d x14)) (i:=16) (a:=14) hA (by simp) rfl (by simp[hL]) ⟨_,zq9 ..,rfl⟩,?_⟩
   rotate_left
   all_goals simp[fn1,fn2,fn3,fn4,fw1,fw15,fv0,fv1,fv2,fv3,fv4,fv5,fv6,fv7,fv8,fv9,fv10,fv11,fv12,fv13,fv14,fv15,q13,q15,q17]
   all_goals repeat' (first|exact fv0|exact fv1|exact fv2|exact fv3|exact fv4|exact fv5|exact fv6|exact fv7|exact fv8|exact fv9|exact fv10|exact fv11|exact fv12|exact fv13|exact fv14|exact fv15|exact fc16|exact fun h=>absurd (fc16 h) (by simp[hL])|exact(zq8 he) 0 (by decide)|exact(zq8 he) 1 (by decide)|exact(zq8 he) 2 (by decide)|exact(zq8 he) 3 (by decide)|exact(zq8 he) 4 (by decide)|exact(zq8 he) 5 (by decide)|exact(zq8 he) 6 (by decide)|exact(zq8 he) 7 (by decide)|exact(zq8 he) 8 (by decide)|exact(zq8 he) 9 (by decide)|exact(zq8 he) 10 (by decide)|exact(zq8 he) 11 (by decide)|exact(zq8 he) 12 (by decide)|exact(zq8 he) 14 (by decide)|exact(zq8 he) 15 (by decide)|refine⟨?_,?_⟩)
  ·rintro L s hall ⟨pos,bl,hN,fn1,fn2,fn3,fn4,fw1,fw15,fv0,fv1,fv2,fv3,fv4,fv5,fv6,fv7,fv8,fv9,fv10,fv11,fv12,fv13,fv14,fv15,fc16⟩
   try simp[q13,q15,q17] at fv0 fv1 fv2 fv3 fv4 fv5 fv6 fv7 fv8 fv9 fv10 fv11 fv12 fv13 fv14 fv15
   replace fv0:=fv0 (hall 0 (by decide))
   replace fv1:=fv1 (hall 1 (by decide))
   replace fv2:=fv2 (hall 2 (by decide))
   replace fv3:=fv3 (hall 3 (by decide))
   replace fv4:=fv4 (hall 4 (by decide))
   replace fv5:=fv5 (hall 5 (by decide))
   replace fv6:=fv6 (hall 6 (by decide))
   replace fv7:=fv7 (hall 7 (by decide))
   replace fv8:=fv8 (hall 8 (by decide))
   replace fv9:=fv9 (hall 9 (by decide))
   replace fv10:=fv10 (hall 10 (by decide))
   replace fv11:=fv11 (hall 11 (by decide))
   replace fv12:=fv12 (hall 12 (by decide))
   replace fv13:=fv13 (hall 13 (by decide))
   replace fv14:=fv14 (hall 14 (by decide))
   replace fv15:=fv15 (hall 15 (by decide))
   simp only[hall 16 (by decide),if_true] at hN
   obtain⟨f,hf,hk,hg⟩:=hN.ghost (by simp) (by simp[hall 14 (by decide),hall 15 (by decide)]) fn4 (by simp[fn2])
   have k0:f (pos 14+1)=1:=by have:=hk 0 _ rfl;simpa[Nat.add_comm] using this
   have k1:f (pos 15+1)=2:=by have:=hk 1 _ rfl;simpa[Nat.add_comm] using this
   simp at hf
   refine⟨_,hg,?_⟩
   simp[AV.ren,AV.renL,hf,k0,k1,fn1,fn2,fn3,fn4,fw1,fw15,fv0,fv1,fv2,fv3,fv4,fv5,fv6,fv7,fv8,fv9,fv10,fv11,fv12,fv13,fv14,fv15,q13,q15,q17]
 obtain⟨b26,q27,h⟩:=bs h
 refine cut 43 0 [(2,.bool b26)] [(zMZ.d c1),(zMZ.d x14),(zMZ.d x16)] ?_ ?_
 ·rcases sp q27 with ⟨g18,q27⟩|⟨g18,q27⟩
  ·have c19:=eqT g18
   rcases sp q27 with ⟨g20,q27⟩|⟨g20,q27⟩
   ·have c21:=eqT g20
    obtain⟨v22,q23,q27⟩:=bs q27
    obtain rfl:=oi q27
    refine st ?_
    simp[g18,g20]
    have r28:=zKO fuel x14 0 v22 q23
    try simp[g18,g20] at r28
    refine cP r28 ?_
    simp[g18,g20]
   have c24:=eqF g20
   obtain rfl:=oi q27
   refine st ?_
   simp[g18,g20]
  have c25:=eqF g18
  obtain rfl:=oi q27
  refine st ?_
  simp[g18]
 refine zAB ?_
 obtain rfl:=oi h
 simp
theorem zJ0(c1:zMZ)(binders2:Int)(c3:Int)(c4:Int)(c5:Bool)(r:Bool)(h:zET c1 binders2 c3 c4 c5=some r):Raw Tryz.prog 91 [.agg (zMZ.d c1),iI binders2,pT 0,pT 1,pT 2] [[iI c3],[iI c4],[.bool c5]] (.tup []) [[iI c3],[iI c4],[.bool r]]:=by
 rw[zET] at h
 refine zAq Tryz.func91 (by rfl) (by rfl) (by simp) (by simp)<|cutA 27 3 [(1,iI binders2),(2,pT 0),(3,pT 1),(4,pT 2),(5,pT 3)] [[iI c3],[iI c4],[.bool c5],(zMZ.d c1)] ?_
 obtain⟨n6,q7,h⟩:=bs h
 obtain⟨q8,q9⟩:=zBj q7
 try simp at q8
 try simp at q9
 have c10:=q8;simp only[Rng,inR] at c10
 refine cut 27 3 [(2,pT 0),(3,pT 1),(4,pT 2),(5,pT 3),(7,iI n6)] [[iI c3],[iI c4],[.bool c5],(zMZ.d c1)] (st (by simp[q8,q9])) ?_
 obtain⟨b22,q23,h⟩:=bs h
 refine cut 27 3 [(4,pT 2),(26,.bool b22)] [[iI c3],[iI c4],[.bool c5],(zMZ.d c1)] ?_ ?_
 ·rcases sp q23 with ⟨g11,q23⟩|⟨g11,q23⟩
  ·have c12:=eqT g11
   rcases sp q23 with ⟨g13,q23⟩|⟨g13,q23⟩
   ·have c14:=leT g13
    obtain⟨n15,q16,q23⟩:=bs q23
    obtain⟨q17,q18⟩:=zBj q16
    try simp at q17
    try simp at q18
    have c19:=q17;simp only[Rng,inR] at c19
    obtain rfl:=oi q23
    refine st ?_
    simp[g11,g13,q17,q18]
   have c20:=leF g13
   obtain rfl:=oi q23
   refine st ?_
   simp[g11,g13]
  have c21:=eqF g11
  obtain rfl:=oi q23
  refine st ?_
  simp[g11]
 refine spc h rfl (fun g24 h=>?_) fun g24 h=>?_
 ·obtain rfl:=oi h
  refine st ?_
  simp
 refine zAC ?_
 obtain rfl:=oi h
 simp
theorem zIA(fuel:Nat):(∀(c1:zMZ)(binders2:Int)(c3:Int)(c4:Int)(c5:Bool)(r:Bool)(_:zA0 fuel c1 binders2 c3 c4 c5=some r),Raw Tryz.prog 90 [.agg (zMZ.d c1),iI binders2,.fn (.func 91) [] [pT 0,pT 1,pT 2]] [[iI c3],[iI c4],[.bool c5]] (.tup []) [[iI c3],[iI c4],[.bool r]]):=by
 induction fuel with
 |zero=>intro c1 binders2 c3 c4 c5 r h;rw[zA0] at h;cases h
 |succ fuel zIC=>
  intro c1 binders2 c3 c4 c5 r h
  rw[zA0] at h
  refine zAq Tryz.func90 (by rfl) (by rfl) (by simp) (by simp)<|cutA 36 3 [(1,iI binders2),(2,.fn (.func 91) [] [pT 0,pT 1,pT 2]),(3,pT 3)] [[iI c3],[iI c4],[.bool c5],(zMZ.d c1)] ?_
  obtain⟨j6,l7,h⟩:=bs h
  refine zLO 36 3 [(1,iI binders2),(2,.fn (.func 91) [] [pT 0,pT 1,pT 2]),(3,pT 3)] [[iI c3],[iI c4],[.bool j6],(zMZ.d c1)] (fun jj=>?_) ?_
  ·refine cut 36 3 [(1,iI binders2),(2,.fn (.func 91) [] [pT 0,pT 1,pT 2]),(3,pT 3),(15,.bool ((eqI c1.Op 1)||(eqI c1.Op 2)))] [[iI c3],[iI c4],[.bool c5],(zMZ.d c1)] ?_ ?_
   ·rcases tf (eqI c1.Op 1) with g8|g8
    ·have c9:=eqT g8
     refine st ?_
     simp[g8]
    have c10:=eqF g8
    refine st ?_
    simp[g8]
   rcases sp l7 with ⟨g11,l7⟩|⟨g11,l7⟩
   ·refine zEk rfl g11 ?_
    obtain⟨v12,q13,l7⟩:=bs l7
    refine last 36 3 [(1,iI binders2),(2,.fn (.func 91) [] [pT 0,pT 1,pT 2]),(3,pT 3)] [[iI c3],[iI c4],[.bool v12],(zMZ.d c1)] ?_ fun zz hs=>?_
    ·refine st ?_
     simp
     have r14:=(zJ0 c1 binders2 c3 c4 c5 v12 q13).frame [0,1,2] [[iI c3],[iI c4],[.bool c5],(zMZ.d c1)] (by simp)
     try simp at r14
     refine zCV r14 (by simp) rfl ?_
     simp
    obtain rfl:=oi l7
    exact zAM jj hs
   obtain⟨g15,g16⟩:=orF g11
   have c17:=eqF g15
   have c18:=eqF g16
   refine zEc rfl g11<|zAC ?_
   obtain rfl:=oi l7
   exact zAM jj (zAL (by simp))
  obtain⟨j19,l20,h⟩:=bs h
  refine zLO 36 3 [(1,iI j19),(2,.fn (.func 91) [] [pT 0,pT 1,pT 2]),(3,pT 3)] [[iI c3],[iI c4],[.bool j6],(zMZ.d c1)] (fun jj=>?_) ?_
  ·obtain⟨v21,q22,l20⟩:=bs l20
   refine cut 36 3 [(1,iI binders2),(2,.fn (.func 91) [] [pT 0,pT 1,pT 2]),(3,pT 3),(21,.bool v21)] [[iI c3],[iI c4],[.bool j6],(zMZ.d c1)] ?_ ?_
   ·refine st ?_
    simp
    have r29:=zDq c1 v21 q22
    try simp at r29
    refine cP r29 ?_
    simp
   refine spc l20 rfl (fun g23 l20=>?_) fun g23 l20=>?_
   ·obtain⟨n24,q25,l20⟩:=bs l20
    obtain⟨q26,q27⟩:=zBj q25
    try simp at q26
    try simp at q27
    have c28:=q26;simp only[Rng,inR] at c28
    refine last 36 3 [(1,iI n24),(2,.fn (.func 91) [] [pT 0,pT 1,pT 2]),(3,pT 3)] [[iI c3],[iI c4],[.bool j6],(zMZ.d c1)] (st (by simp[q26,q27])) fun zz hs=>?_
    obtain rfl:=oi l20
    exact zAM jj hs
   refine zAC ?_
   obtain rfl:=oi l20
   exact zAM jj (zAL (by simp))
  refine cutA 36 3 [(1,iI j19),(2,.fn (.func 91) [] [pT 0,pT 1,pT 2]),(25,.sl (c1.L.map zMZ.c)),(26,iI c1.L.length),(27,iI 0)] [[iI c3],[iI c4],[.bool j6],(zMZ.d c1)]<|zAF ?_
  obtain⟨o32,l33,h⟩:=bs h
  refine zAm (fun p:Nat×Bool×Nat=>mkS 36 3 [(1,iI j19),(2,.fn (.func 91) [] [pT 0,pT 1,pT 2]),(25,.sl (c1.L.map zMZ.c)),(26,iI c1.L.length),(27,iI p.2.2)] [[iI c3],[iI c4],[.bool p.2.1],(zMZ.d c1)]) (fun p=>zBU (zA0 fuel) c1 c3 c4 j19 p.1 p.2.1 p.2.2=some o32) (fun p=>p.1) (fuel,j6,0) l33 (zAL (by simp)) ?_
  rintro⟨k34,a30,i31⟩ l33
  try dsimp only at l33 ⊢
  cases k34 with
  |zero=>
   rw[zBU] at l33;cases l33
  |succ k35=>
   rw[zBU] at l33
   refine cutA 36 3 [(1,iI j19),(2,.fn (.func 91) [] [pT 0,pT 1,pT 2]),(25,.sl (c1.L.map zMZ.c)),(26,iI c1.L.length),(27,iI i31),(28,.bool (ltI i31 c1.L.length))] [[iI c3],[iI c4],[.bool a30],(zMZ.d c1)]<|zAD<|spc l33 rfl (fun g36 l33=>?_) fun g36 l33=>?_
   ·have c37:=ltT g36
    refine zCA 25 rfl fun f38=>?_
    rw[zq4] at f38
    refine zAC<|zAH<|zAD<|zAF ?_
    obtain⟨x39,q40,l33⟩:=bs l33
    refine cut 36 3 [(1,iI j19),(2,.fn (.func 91) [] [pT 0,pT 1,pT 2]),(7,pT 4),(25,.sl (c1.L.map zMZ.c)),(26,iI c1.L.length),(27,iI i31)] [[iI c3],[iI c4],[.bool a30],(zMZ.d c1),(zMZ.d x39)] (st (by simp[q40])) ?_
    obtain⟨v41,q42,l33⟩:=bs l33
    refine last 36 3 [(1,iI j19),(2,.fn (.func 91) [] [pT 0,pT 1,pT 2]),(25,.sl (c1.L.map zMZ.c)),(26,iI c1.L.length),(27,iI i31)] [[iI c3],[iI c4],[.bool v41],(zMZ.d c1),(zMZ.d x39)] ?_ fun zz hs=>?_
    ·refine st ?_
     simp
     have r44:=(zIC x39 j19 c3 c4 a30 v41 q42).frame [0,1,2] [[iI c3],[iI c4],[.bool a30],(zMZ.d c1),(zMZ.d x39)] (by simp)
     try simp at r44
     refine zCV r44 (by simp) rfl ?_
     simp
    refine zC1<|zAM ?_ hs
    have q43:Rng .i64 (((i31:Nat):Int)+1):=by simp only[Rng,inR];omega
    try simp at q43
    refine last 36 3 [(1,iI j19),(2,.fn (.func 91) [] [pT 0,pT 1,pT 2]),(25,.sl (c1.L.map zMZ.c)),(26,iI c1.L.length),(27,iI ((i31+1:Nat):Int))] [[iI c3],[iI c4],[.bool v41],(zMZ.d c1)] (st (by simp[q43])) fun zz hs=>?_
    exact⟨(k35,v41,i31+1),hs,l33,by simp⟩
   have c45:=ltF g36
   refine zCA 25 rfl fun f46=>?_
   rw[zq4] at f46
   refine zAQ<|zAG ?_
   have q47:=zqa l33
   have q47:=q47.symm
   refine zAG<|zAS ?_
   obtain rfl:=oi h
   simp[q47]
theorem zGK(fuel:Nat)(c1:zMZ)(leaf2:Int)(leaf3:Int)(r:zMZ×Int)(h:zCG fuel c1 leaf2 leaf3=some r):Pure Tryz.prog 92 [.agg (zMZ.d c1),.fn (.func 121) [] [.cptr [iI leaf2],.cptr [iI leaf3]]] (.tup [.agg (zMZ.d r.1),iI r.2]):=by
 rw[zCG] at h
 refine zAA Tryz.func92 (by rfl) (by rfl) (by simp) (by simp) (by simp)<|cutA 26 0 [(1,.fn (.func 121) [] [.cptr [iI leaf2],.cptr [iI leaf3]]),(2,pT 0),(4,pT 1)] [(zMZ.d c1),zz0]<|cutA 26 0 [(2,pT 0),(4,pT 1),(6,pT 2)] [(zMZ.d c1),zz0,[.fn (.func 121) [] [.cptr [iI leaf2],.cptr [iI leaf3]],iI 20000]] ?_
 obtain⟨v4,q5,h⟩:=bs h
 refine cut 26 0 [(4,pT 1),(6,pT 2),(7,pT 3)] [(zMZ.d c1),zz0,[.fn (.func 121) [] [.cptr [iI leaf2],.cptr [iI leaf3]],iI v4.2],(zMZ.d v4.1)] ?_ ?_
 ·refine st ?_
  simp
  have r15:=(zEo fuel c1 0 leaf2 leaf3 20000 v4 q5).frame [2] [(zMZ.d c1),zz0,[.fn (.func 121) [] [.cptr [iI leaf2],.cptr [iI leaf3]],iI 20000]] (by simp)
  try simp at r15
  refine zCV r15 (by simp) rfl ?_
  simp
 refine zAD ?_
 obtain⟨b11,q12,h⟩:=bs h
 refine cut 26 0 [(4,pT 1),(7,pT 3),(23,.bool b11)] [(zMZ.d c1),zz0,[.fn (.func 121) [] [.cptr [iI leaf2],.cptr [iI leaf3]],iI v4.2],(zMZ.d v4.1)] ?_ ?_
 ·rcases sp q12 with ⟨g6,q12⟩|⟨g6,q12⟩
  ·have c7:=ltT g6
   obtain rfl:=oi q12
   refine st ?_
   simp[g6]
  have c8:=ltF g6
  obtain⟨v9,q10,q12⟩:=bs q12
  obtain rfl:=oi q12
  refine st ?_
  simp[g6]
  have r14:=zC6 fuel v4.1 v9 q10
  try simp[g6] at r14
  refine cP r14 ?_
  simp[g6]
 refine spc h rfl (fun g13 h=>?_) fun g13 h=>?_
 ·refine cutA 26 0 [(4,pT 1),(5,iI 6)] [(zMZ.d c1),zz0,[.fn (.func 121) [] [.cptr [iI leaf2],.cptr [iI leaf3]],iI v4.2],(zMZ.d v4.1)]<|zAB<|zAE ?_
  obtain rfl:=oi h
  simp
 refine zAC<|zAH<|cutA 26 0 [(4,pT 1),(5,iI 0)] [(zMZ.d c1),(zMZ.d v4.1),[.fn (.func 121) [] [.cptr [iI leaf2],.cptr [iI leaf3]],iI v4.2],(zMZ.d v4.1)]<|zAB ?_
 obtain rfl:=oi h
 simp
theorem zIo(fuel:Nat)(c1:zMZ)(by2:Int)(from3:Int)(r:zMZ×Int)(h:zEr fuel c1 by2 from3=some r):Pure Tryz.prog 61 [.agg (zMZ.d c1),iI by2,iI from3] (.tup [.agg (zMZ.d r.1),iI r.2]):=by
 rw[zEr] at h
 refine zAA Tryz.func61 (by rfl) (by rfl) (by simp) (by simp) (by simp)<|cutA 36 0 [(3,pT 0),(4,pT 1),(5,pT 2),(6,pT 3)] [(zMZ.d c1),[iI by2],[iI from3],zz0]<|zAD ?_
 obtain⟨v4,q5,h⟩:=bs h
 refine cut 36 0 [(3,pT 0),(4,pT 1),(5,pT 2),(6,pT 3),(11,.bool (!v4))] [(zMZ.d c1),[iI by2],[iI from3],zz0] ?_ ?_
 ·refine st ?_
  simp
  have r33:=zC6 fuel c1 v4 q5
  try simp at r33
  refine cP r33 ?_
  simp
 refine spc h rfl (fun g6 h=>?_) fun g6 h=>?_
 ·have g7:=notT g6
  refine cutA 36 0 [(6,pT 3),(7,iI 1)] [(zMZ.d c1),[iI by2],[iI from3],zz0]<|zAB<|zAE ?_
  obtain rfl:=oi h
  simp
 have g8:=notF g6
 refine zAC<|zAH<|zAD<|cut 36 0 [(3,pT 0),(4,pT 1),(5,pT 2),(6,pT 3),(22,.bool ((ltI from3 0)||((ltI by2 (-20000))||(ltI 20000 by2))))] [(zMZ.d c1),[iI by2],[iI from3],zz0] ?_ ?_
 ·rcases tf (ltI from3 0) with g9|g9
  ·have c10:=ltT g9
   refine st ?_
   simp[g9]
  have c11:=ltF g9
  rcases tf (ltI by2 (-20000)) with g12|g12
  ·have c13:=ltT g12
   refine st ?_
   simp[g9,g12]
  have c14:=ltF g12
  refine st ?_
  simp[g9,g12]
 rcases sp h with ⟨g15,h⟩|⟨g15,h⟩
 ·refine zEk rfl g15<|cutA 36 0 [(6,pT 3),(7,iI 2)] [(zMZ.d c1),[iI by2],[iI from3],zz0]<|zAB<|zAE ?_
  obtain rfl:=oi h
  simp
 obtain⟨g16,g17⟩:=orF g15
 have c18:=ltF g16
 obtain⟨g19,g20⟩:=orF g17
 have c21:=ltF g19
 have c22:=ltF g20
 refine zEc rfl g15<|zAC<|zAH<|cutA 36 0 [(3,pT 0),(4,pT 1),(5,pT 2),(6,pT 3),(8,pT 4)] [(zMZ.d c1),[iI by2],[iI from3],zz0,[.bool false]] ?_
 obtain⟨v23,q24,h⟩:=bs h
 refine cut 36 0 [(3,pT 0),(4,pT 1),(5,pT 2),(6,pT 3),(8,pT 4)] [(zMZ.d c1),[iI by2],[iI from3],zz0,[.bool v23]] ?_ ?_
 ·refine st ?_
  simp
  have r32:=(zIA fuel c1 0 from3 by2 false v23 q24).frame [2,1,4] [(zMZ.d c1),[iI by2],[iI from3],zz0,[.bool false]] (by simp)
  try simp at r32
  refine zCV r32 (by simp) rfl ?_
  simp
 refine zAD<|cutA 36 0 [(3,pT 0),(4,pT 1),(5,pT 2),(6,pT 3),(27,.bool v23)] [(zMZ.d c1),[iI by2],[iI from3],zz0,[.bool v23]]<|spc h rfl (fun g25 h=>?_) fun g25 h=>?_
 ·refine cutA 36 0 [(6,pT 3),(7,iI 2)] [(zMZ.d c1),[iI by2],[iI from3],zz0,[.bool v23]]<|zAB<|zAE ?_
  obtain rfl:=oi h
  simp
 refine zAC<|zAH ?_
 obtain⟨v26,q27,h⟩:=bs h
 obtain⟨v28,q29,h⟩:=bs h
 refine cut 36 0 [(6,pT 3),(7,iI v28.2)] [(zMZ.d c1),[iI by2],[iI from3],(zMZ.d v28.1),[.bool v23]] ?_ ?_
 ·refine zAJ [] mixed (n:=36) rfl (by decide) ?_
  simp
  have r30:=zHS by2 from3 v26 q27
  try simp at r30
  refine zGN r30 (by simp) rfl ?_
  simp
  have r31:=zGK fuel c1 v26.1 v26.2 v28 q29
  try simp at r31
  refine zGN r31 (by simp) rfl ?_
  simp
 refine zAB ?_
 obtain rfl:=oi h
 simp
theorem zGL(fuel:Nat):(∀(c1:zMZ)(w2:zMW)(r:zMZ×zMW)(_:zAP fuel c1 w2=some r),Raw Tryz.prog 105 [pT 0,.agg (zMZ.d c1)] [[iI w2.steps,.bool w2.over]] (.agg (zMZ.d r.1)) [[iI r.2.steps,.bool r.2.over]]):=by
 induction fuel with
 |zero=>intro c1 w2 r h;rw[zAP] at h;cases h
 |succ fuel zEN=>
  intro c1 w2 r h
  rw[zAP] at h
  refine zAq Tryz.func105 (by rfl) (by rfl) (by simp) (by simp)<|cutA 87 1 [(0,pT 0),(3,pT 1),(4,pT 2)] [[iI w2.steps,.bool w2.over],(zMZ.d c1),zz0]<|zAD<|cutA 87 1 [(0,pT 0),(3,pT 1),(4,pT 2),(13,.bool w2.over)] [[iI w2.steps,.bool w2.over],(zMZ.d c1),zz0]<|spc h rfl (fun g3 h=>?_) fun g3 h=>?_
  ·refine cutA 87 1 [(4,pT 2)] [[iI w2.steps,.bool w2.over],(zMZ.d c1),zz0]<|zAB<|zAE ?_
   obtain rfl:=oi h
   simp
  refine zAC<|zAH<|cutA 87 1 [(0,pT 0),(3,pT 1),(4,pT 2),(5,pT 3)] [[iI w2.steps,.bool w2.over],(zMZ.d c1),zz0,(zMZ.d c1)]<|cutA 87 1 [(0,pT 0),(3,pT 1),(4,pT 2),(5,pT 3)] [[iI w2.steps,.bool w2.over],(zMZ.d c1),zz0,[iI c1.Op,iI c1.N,.str c1.S,.sl (c1.Kind.L.map zMY.c),.sl (c1.Names.map cS),.osl ⟨6,28⟩ (([]:List zMZ).map zMZ.c)]]<|zAD<|cutA 87 1 [(0,pT 0),(4,pT 2),(5,pT 3),(18,.sl (c1.L.map zMZ.c)),(19,iI c1.L.length),(20,iI 0)] [[iI w2.steps,.bool w2.over],(zMZ.d c1),zz0,[iI c1.Op,iI c1.N,.str c1.S,.sl (c1.Kind.L.map zMY.c),.sl (c1.Names.map cS),.osl ⟨6,28⟩ (([]:List zMZ).map zMZ.c)]]<|zAF ?_
  obtain⟨o8,l9,h⟩:=bs h
  refine zAm (fun p:Nat×Int×Bool×(List zMZ)×Nat=>mkS 87 1 [(0,pT 0),(4,pT 2),(5,pT 3),(18,.sl (c1.L.map zMZ.c)),(19,iI c1.L.length),(20,iI p.2.2.2.2)] [[iI p.2.1,.bool p.2.2.1],(zMZ.d c1),zz0,[iI c1.Op,iI c1.N,.str c1.S,.sl (c1.Kind.L.map zMY.c),.sl (c1.Names.map cS),.osl ⟨6,28⟩ (p.2.2.2.1.map zMZ.c)]]) (fun p=>zAo (zAP fuel) c1 p.1 p.2.1 p.2.2.1 p.2.2.2.1 p.2.2.2.2=some o8) (fun p=>p.1) (fuel,w2.steps,w2.over,([]:List zMZ),0) l9 (zAL (by simp)) ?_
  rintro⟨k10,steps4,over5,L6,i7⟩ l9
  try dsimp only at l9 ⊢
  cases k10 with
  |zero=>
   rw[zAo] at l9;cases l9
  |succ k11=>
   rw[zAo] at l9
   refine cutA 87 1 [(0,pT 0),(4,pT 2),(5,pT 3),(18,.sl (c1.L.map zMZ.c)),(19,iI c1.L.length),(20,iI i7),(21,.bool (ltI i7 c1.L.length))] [[iI steps4,.bool over5],(zMZ.d c1),zz0,[iI c1.Op,iI c1.N,.str c1.S,.sl (c1.Kind.L.map zMY.c),.sl (c1.Names.map cS),.osl ⟨6,28⟩ (L6.map zMZ.c)]]<|zAD<|spc l9 rfl (fun g12 l9=>?_) fun g12 l9=>?_
   ·have c13:=ltT g12
    refine zCA 18 rfl fun f14=>?_
    rw[zq4] at f14
    refine zAC<|zAH<|zAD<|zAF ?_
    obtain⟨x15,q16,l9⟩:=bs l9
    refine cut 87 1 [(0,pT 0),(4,pT 2),(5,pT 3),(7,pT 4),(18,.sl (c1.L.map zMZ.c)),(19,iI c1.L.length),(20,iI i7)] [[iI steps4,.bool over5],(zMZ.d c1),zz0,[iI c1.Op,iI c1.N,.str c1.S,.sl (c1.Kind.L.map zMY.c),.sl (c1.Names.map cS),.osl ⟨6,28⟩ (L6.map zMZ.c)],(zMZ.d x15)] (st (by simp[q16])) ?_
    obtain⟨v17,q18,l9⟩:=bs l9
    obtain⟨l19,q20,l9⟩:=bs l9
    obtain⟨q21,q22⟩:=zI7 q20
    try simp at q21
    refine last 87 1 [(0,pT 0),(4,pT 2),(5,pT 3),(18,.sl (c1.L.map zMZ.c)),(19,iI c1.L.length),(20,iI i7)] [[iI v17.2.steps,.bool v17.2.over],(zMZ.d c1),zz0,[iI c1.Op,iI c1.N,.str c1.S,.sl (c1.Kind.L.map zMY.c),.sl (c1.Names.map cS),.osl ⟨6,28⟩ (l19.map zMZ.c)],(zMZ.d x15)] ?_ fun zz hs=>?_
    ·refine zAx [0,996] [6,8] mixed (n:=87) rfl (by decide) (by decide) ?_
     simp[q21,q22]
     have r24:=(zEN x15 (zMW.mk steps4 over5) v17 q18).frameZ [0] [[iI steps4,.bool over5],(zMZ.d c1),zz0,[iI c1.Op,iI c1.N,.str c1.S,.sl (c1.Kind.L.map zMY.c),.sl (c1.Names.map cS),.osl ⟨6,28⟩ (L6.map zMZ.c)],(zMZ.d x15)] (by simp) rfl (by simp) (by simp)
     try simp[q21,q22] at r24
     refine zMO r24 (by simp[q21,q22]) rfl (by decide) (by simp) ?_
     simp[q21,q22]
    refine zC1<|zAM ?_ hs
    have q23:Rng .i64 (((i7:Nat):Int)+1):=by simp only[Rng,inR];omega
    try simp at q23
    refine last 87 1 [(0,pT 0),(4,pT 2),(5,pT 3),(18,.sl (c1.L.map zMZ.c)),(19,iI c1.L.length),(20,iI ((i7+1:Nat):Int))] [[iI v17.2.steps,.bool v17.2.over],(zMZ.d c1),zz0,[iI c1.Op,iI c1.N,.str c1.S,.sl (c1.Kind.L.map zMY.c),.sl (c1.Names.map cS),.osl ⟨6,28⟩ (l19.map zMZ.c)]] (st (by simp[q23])) fun zz hs=>?_
    exact⟨(k11,v17.2.steps,v17.2.over,l19,i7+1),hs,l9,by simp⟩
   have c25:=ltF g12
   refine zCA 18 rfl fun f26=>?_
   rw[zq4] at f26
   refine zAQ<|zAG ?_
   have q27:=zqa l9
   have q28:o8.1=steps4:=by rw[<-q27]
   have q29:o8.2.1=over5:=by rw[<-q27]
   have q30:o8.2.2=L6:=by rw[<-q27]
   refine zAG<|zAS<|zAM (t:=mkS 87 1 [(0,pT 0),(4,pT 2),(5,pT 3)] [[iI o8.1,.bool o8.2.1],(zMZ.d c1),zz0,[iI c1.Op,iI c1.N,.str c1.S,.sl (c1.Kind.L.map zMY.c),.sl (c1.Names.map cS),.osl ⟨6,28⟩ (o8.2.2.map zMZ.c)]]) ?_ (zAL (by simp[q28,q29,q30]))
   refine zAD ?_
   obtain⟨v31,q32,h⟩:=bs h
   refine cut 87 1 [(0,pT 0),(4,pT 2),(5,pT 3)] [[iI v31.2.steps,.bool v31.2.over],(zMZ.d c1),zz0,(zMZ.d v31.1)] ?_ ?_
   ·refine st ?_
    simp
    have r68:=(zFb fuel (zMZ.mk c1.Op c1.N c1.S c1.Kind c1.Names o8.2.2) (zMW.mk o8.1 o8.2.1) v31 q32).frame [0] [[iI o8.1,.bool o8.2.1],(zMZ.d c1),zz0,[iI c1.Op,iI c1.N,.str c1.S,.sl (c1.Kind.L.map zMY.c),.sl (c1.Names.map cS),.osl ⟨6,28⟩ (o8.2.2.map zMZ.c)]] (by simp)
    try simp at r68
    refine zCV r68 (by simp) rfl ?_
    simp
   refine cutA 87 1 [(0,pT 0),(4,pT 2),(5,pT 3),(39,.bool v31.2.over)] [[iI v31.2.steps,.bool v31.2.over],(zMZ.d c1),zz0,(zMZ.d v31.1)]<|spc h rfl (fun g33 h=>?_) fun g33 h=>?_
   ·refine cutA 87 1 [(4,pT 2)] [[iI v31.2.steps,.bool v31.2.over],(zMZ.d c1),zz0,(zMZ.d v31.1)]<|zAB<|zAE ?_
    obtain rfl:=oi h
    simp
   refine zAC<|zAH<|zAD<|zAF ?_
   obtain⟨b39,q40,h⟩:=bs h
   refine cut 87 1 [(0,pT 0),(4,pT 2),(5,pT 3),(41,.bool b39)] [[iI v31.2.steps,.bool v31.2.over],(zMZ.d c1),zz0,(zMZ.d v31.1)] ?_ ?_
   ·rcases sp q40 with ⟨g34,q40⟩|⟨g34,q40⟩
    ·have c35:=eqT g34
     obtain⟨x36,q37,q40⟩:=bs q40
     obtain rfl:=oi q40
     refine st ?_
     simp[g34,q37]
    have c38:=eqF g34
    obtain rfl:=oi q40
    refine st ?_
    simp[g34]
   refine spc h rfl (fun g41 h=>?_) fun g41 h=>?_
   ·obtain⟨x42,q43,h⟩:=bs h
    obtain⟨x44,q45,h⟩:=bs h
    obtain⟨v46,q47,h⟩:=bs h
    obtain⟨v48,q49,h⟩:=bs h
    refine cut 87 1 [(4,pT 2)] [[iI v48.2.steps,.bool v48.2.over],(zMZ.d c1),(zMZ.d v48.1),(zMZ.d v31.1)] ?_ ?_
    ·refine zAx [0,996] [11,12] mixed (n:=87) rfl (by decide) (by decide) ?_
     simp[q43,q45]
     have r50:=(zHf fuel x42 x44 v31.2 v46 q47).frameZ [0] [[iI v31.2.steps,.bool v31.2.over],(zMZ.d c1),zz0,(zMZ.d v31.1)] (by simp) rfl (by simp) (by simp)
     try simp[q43,q45] at r50
     refine zMO r50 (by simp[q43,q45]) rfl (by decide) (by simp) ?_
     simp[q43,q45]
     have r51:=(zEN v46.1 v46.2 v48 q49).frame [0] [[iI v46.2.steps,.bool v46.2.over],(zMZ.d c1),zz0,(zMZ.d v31.1)] (by simp)
     try simp[q43,q45] at r51
     refine callX r51 (by simp[q43,q45]) rfl ?_
     simp[q43,q45]
    refine zAB<|zAK<|zAE ?_
    obtain rfl:=oi h
    simp
   obtain⟨v52,q53,h⟩:=bs h
   refine cut 87 1 [(0,pT 0),(4,pT 2),(5,pT 3),(65,.bool v52)] [[iI v31.2.steps,.bool v31.2.over],(zMZ.d c1),zz0,(zMZ.d v31.1)] ?_ ?_
   ·refine st ?_
    simp
    have r67:=normal_eta_ok fuel v31.1 v52 q53
    try simp at r67
    refine cP r67 ?_
    simp
   refine spc h rfl (fun g54 h=>?_) fun g54 h=>?_
   ·obtain⟨x55,q56,h⟩:=bs h
    obtain⟨x57,q58,h⟩:=bs h
    obtain⟨v59,q60,h⟩:=bs h
    refine cut 87 1 [(0,pT 0),(4,pT 2),(8,pT 4),(9,iI v59.2)] [[iI v31.2.steps,.bool v31.2.over],(zMZ.d c1),zz0,(zMZ.d v31.1),(zMZ.d v59.1)] ?_ ?_
    ·refine st ?_
     simp[q56,q58]
     have r66:=zIo fuel x57 (-1) 0 v59 q60
     try simp[q56,q58] at r66
     refine cP r66 ?_
     simp[q56,q58]
    refine zAD<|cutA 87 1 [(0,pT 0),(4,pT 2),(8,pT 4),(80,.bool (!(eqI v59.2 0)))] [[iI v31.2.steps,.bool v31.2.over],(zMZ.d c1),zz0,(zMZ.d v31.1),(zMZ.d v59.1)] ?_
    rcases sp h with ⟨g61,h⟩|⟨g61,h⟩
    ·have g62:=notT g61
     have c63:=eqF g62
     refine zEk rfl g61<|cutA 87 1 [(4,pT 2)] [[iI v31.2.steps,.bool true],(zMZ.d c1),zz0,(zMZ.d v31.1),(zMZ.d v59.1)]<|cutA 87 1 [(4,pT 2)] [[iI v31.2.steps,.bool true],(zMZ.d c1),zz0,(zMZ.d v31.1),(zMZ.d v59.1)]<|zAB<|zAE<|zAK<|zAE ?_
     obtain rfl:=oi h
     simp
    have g64:=notF g61
    have c65:=eqT g64
    refine zEc rfl g61<|zAC<|zAH<|cutA 87 1 [(4,pT 2)] [[iI v31.2.steps,.bool v31.2.over],(zMZ.d c1),(zMZ.d v59.1),(zMZ.d v31.1),(zMZ.d v59.1)]<|zAB<|zAK<|zAE ?_
    obtain rfl:=oi h
    simp
   refine zAC<|zC1<|zAH<|cutA 87 1 [(4,pT 2)] [[iI v31.2.steps,.bool v31.2.over],(zMZ.d c1),(zMZ.d v31.1),(zMZ.d v31.1)]<|zAB ?_
   obtain rfl:=oi h
   simp
theorem zL2(fuel:Nat)(c1:zMZ)(r:zMZ×Bool)(h:zGX fuel c1=some r):Pure Tryz.prog 75 [.agg (zMZ.d c1)] (.tup [.agg (zMZ.d r.1),.bool r.2]):=by
 rw[zGX] at h
 refine zAA Tryz.func75 (by rfl) (by rfl) (by simp) (by simp) (by simp)<|cutA 17 0 [(1,pT 0),(2,pT 1)] [(zMZ.d c1),zz0]<|cutA 17 0 [(1,pT 0),(2,pT 1),(4,pT 2)] [(zMZ.d c1),zz0,[iI 0,.bool false]] ?_
 obtain⟨v2,q3,h⟩:=bs h
 refine cut 17 0 [(2,pT 1),(4,pT 2),(5,pT 3)] [(zMZ.d c1),zz0,[iI v2.2.steps,.bool v2.2.over],(zMZ.d v2.1)] ?_ ?_
 ·refine st ?_
  simp
  have r4:=(zGL fuel c1 (zMW.mk 0 false) v2 q3).frame [2] [(zMZ.d c1),zz0,[iI 0,.bool false]] (by simp)
  try simp at r4
  refine zCV r4 (by simp) rfl ?_
  simp
 refine cut 17 0 [(2,pT 1),(3,.bool (!v2.2.over))] [(zMZ.d c1),(zMZ.d v2.1),[iI v2.2.steps,.bool v2.2.over],(zMZ.d v2.1)] ?_ ?_
 ·refine zAx [1] [7] mixed (n:=17) rfl (by decide) (by decide) ?_
  simp
 refine zAB ?_
 obtain rfl:=oi h
 simp
theorem zIY(fuel:Nat):(∀(k1:zMY)(r:zMY)(_:zBE fuel k1=some r),Pure Tryz.prog 106 [.agg [.sl (k1.L.map zMY.c)]] (.agg [.sl (r.L.map zMY.c)])):=by
 induction fuel with
 |zero=>intro k1 r h;rw[zBE] at h;cases h
 |succ fuel zIc=>
  intro k1 r h
  rw[zBE] at h
  refine zAA Tryz.func106 (by rfl) (by rfl) (by simp) (by simp) (by simp)<|cutA 22 0 [(1,pT 0),(2,pT 1)] [[.sl (k1.L.map zMY.c)],zz2]<|cutA 22 0 [(1,pT 0),(2,pT 1),(3,pT 2)] [[.sl (k1.L.map zMY.c)],zz2,zz2]<|zAD<|cutA 22 0 [(2,pT 1),(3,pT 2),(7,.sl (k1.L.map zMY.c)),(8,iI k1.L.length),(9,iI 0)] [[.sl (k1.L.map zMY.c)],zz2,zz2]<|zAF ?_
  obtain⟨o4,l5,h⟩:=bs h
  refine zAm (fun p:Nat×(List zMY)×Nat=>mkS 22 0 [(2,pT 1),(3,pT 2),(7,.sl (k1.L.map zMY.c)),(8,iI k1.L.length),(9,iI p.2.2)] [[.sl (k1.L.map zMY.c)],zz2,[.osl ⟨1,24⟩ (p.2.1.map zMY.c)]]) (fun p=>zBY (zBE fuel) k1 p.1 p.2.1 p.2.2=some o4) (fun p=>p.1) (fuel,([]:List zMY),0) l5 (zAL (by simp)) ?_
  rintro⟨k6,L2,i3⟩ l5
  try dsimp only at l5 ⊢
  cases k6 with
  |zero=>
   rw[zBY] at l5;cases l5
  |succ k7=>
   rw[zBY] at l5
   refine cutA 22 0 [(2,pT 1),(3,pT 2),(7,.sl (k1.L.map zMY.c)),(8,iI k1.L.length),(9,iI i3),(10,.bool (ltI i3 k1.L.length))] [[.sl (k1.L.map zMY.c)],zz2,[.osl ⟨1,24⟩ (L2.map zMY.c)]]<|zAD<|spc l5 rfl (fun g8 l5=>?_) fun g8 l5=>?_
   ·have c9:=ltT g8
    refine zCA 7 rfl fun f10=>?_
    rw[zq4] at f10
    refine zAC<|zAH<|zAD<|zAF ?_
    obtain⟨x11,q12,l5⟩:=bs l5
    refine cut 22 0 [(2,pT 1),(3,pT 2),(5,pT 3),(7,.sl (k1.L.map zMY.c)),(8,iI k1.L.length),(9,iI i3)] [[.sl (k1.L.map zMY.c)],zz2,[.osl ⟨1,24⟩ (L2.map zMY.c)],[.sl (x11.L.map zMY.c)]] (st (by simp[q12])) ?_
    obtain⟨v13,q14,l5⟩:=bs l5
    obtain⟨l15,q16,l5⟩:=bs l5
    obtain⟨q17,q18⟩:=zI7 q16
    try simp at q17
    refine last 22 0 [(2,pT 1),(3,pT 2),(7,.sl (k1.L.map zMY.c)),(8,iI k1.L.length),(9,iI i3)] [[.sl (k1.L.map zMY.c)],zz2,[.osl ⟨1,24⟩ (l15.map zMY.c)],[.sl (x11.L.map zMY.c)]] ?_ fun zz hs=>?_
    ·refine zAJ [] mixed (n:=22) rfl (by decide) ?_
     simp[q17,q18]
     have r20:=zIc x11 v13 q14
     try simp[q17,q18] at r20
     refine zGN r20 (by simp) rfl ?_
     simp[q17,q18]
    refine zC1<|zAM ?_ hs
    have q19:Rng .i64 (((i3:Nat):Int)+1):=by simp only[Rng,inR];omega
    try simp at q19
    refine last 22 0 [(2,pT 1),(3,pT 2),(7,.sl (k1.L.map zMY.c)),(8,iI k1.L.length),(9,iI ((i3+1:Nat):Int))] [[.sl (k1.L.map zMY.c)],zz2,[.osl ⟨1,24⟩ (l15.map zMY.c)]] (st (by simp[q19])) fun zz hs=>?_
    exact⟨(k7,l15,i3+1),hs,l5,by simp⟩
   have c21:=ltF g8
   refine zCA 7 rfl fun f22=>?_
   rw[zq4] at f22
   refine zAQ<|zAG ?_
   have q23:=zqa l5
   have q23:=q23.symm
   refine zAG<|zAS<|zAM (t:=mkS 22 0 [(2,pT 1),(3,pT 2)] [[.sl (k1.L.map zMY.c)],zz2,[.osl ⟨1,24⟩ (o4.map zMY.c)]]) ?_ (zAL (by simp[q23]))
   refine cutA 22 0 [(2,pT 1)] [[.sl (k1.L.map zMY.c)],[.sl (o4.map zMY.c)],[.osl ⟨1,24⟩ (o4.map zMY.c)]]<|zAB ?_
   obtain rfl:=oi h
   simp
theorem zKP(fuel:Nat):(∀(c1:zMZ)(r:zMZ)(_:zBr fuel c1=some r),Pure Tryz.prog 76 [.agg (zMZ.d c1)] (.agg (zMZ.d r))):=by
 induction fuel with
 |zero=>intro c1 r h;rw[zBr] at h;cases h
 |succ fuel zKd=>
  intro c1 r h
  rw[zBr] at h
  refine zAA Tryz.func76 (by rfl) (by rfl) (by simp) (by simp) (by simp)<|cutA 32 0 [(1,pT 0),(2,pT 1)] [(zMZ.d c1),zz0]<|cutA 32 0 [(1,pT 0),(2,pT 1),(3,pT 2)] [(zMZ.d c1),zz0,(zMZ.d c1)] ?_
  obtain⟨v2,q3,h⟩:=bs h
  refine cut 32 0 [(1,pT 0),(2,pT 1),(3,pT 2)] [(zMZ.d c1),zz0,[iI c1.Op,iI c1.N,.str c1.S,.sl (v2.L.map zMY.c),.sl (c1.Names.map cS),.sl (c1.L.map zMZ.c)]] ?_ ?_
  ·refine st ?_
   simp
   have r29:=zIY fuel c1.Kind v2 q3
   try simp at r29
   refine cP r29 ?_
   simp
  obtain⟨v4,q5,h⟩:=bs h
  refine cut 32 0 [(1,pT 0),(2,pT 1),(3,pT 2)] [(zMZ.d c1),zz0,[iI c1.Op,iI c1.N,.str c1.S,.sl (v2.L.map zMY.c),.sl (v4.map cS),.sl (c1.L.map zMZ.c)]] ?_ ?_
  ·refine st ?_
   simp
   have r28:=zCJ c1.Names v4 q5
   try simp at r28
   refine cP r28 ?_
   simp
  refine cutA 32 0 [(1,pT 0),(2,pT 1),(3,pT 2)] [(zMZ.d c1),zz0,[iI c1.Op,iI c1.N,.str c1.S,.sl (v2.L.map zMY.c),.sl (v4.map cS),.osl ⟨6,28⟩ (([]:List zMZ).map zMZ.c)]]<|zAD<|cutA 32 0 [(2,pT 1),(3,pT 2),(17,.sl (c1.L.map zMZ.c)),(18,iI c1.L.length),(19,iI 0)] [(zMZ.d c1),zz0,[iI c1.Op,iI c1.N,.str c1.S,.sl (v2.L.map zMY.c),.sl (v4.map cS),.osl ⟨6,28⟩ (([]:List zMZ).map zMZ.c)]]<|zAF ?_
  obtain⟨o8,l9,h⟩:=bs h
  refine zAm (fun p:Nat×(List zMZ)×Nat=>mkS 32 0 [(2,pT 1),(3,pT 2),(17,.sl (c1.L.map zMZ.c)),(18,iI c1.L.length),(19,iI p.2.2)] [(zMZ.d c1),zz0,[iI c1.Op,iI c1.N,.str c1.S,.sl (v2.L.map zMY.c),.sl (v4.map cS),.osl ⟨6,28⟩ (p.2.1.map zMZ.c)]]) (fun p=>zCE (zBr fuel) c1 p.1 p.2.1 p.2.2=some o8) (fun p=>p.1) (fuel,([]:List zMZ),0) l9 (zAL (by simp)) ?_
  rintro⟨k10,L6,i7⟩ l9
  try dsimp only at l9 ⊢
  cases k10 with
  |zero=>
   rw[zCE] at l9;cases l9
  |succ k11=>
   rw[zCE] at l9
   refine cutA 32 0 [(2,pT 1),(3,pT 2),(17,.sl (c1.L.map zMZ.c)),(18,iI c1.L.length),(19,iI i7),(20,.bool (ltI i7 c1.L.length))] [(zMZ.d c1),zz0,[iI c1.Op,iI c1.N,.str c1.S,.sl (v2.L.map zMY.c),.sl (v4.map cS),.osl ⟨6,28⟩ (L6.map zMZ.c)]]<|zAD<|spc l9 rfl (fun g12 l9=>?_) fun g12 l9=>?_
   ·have c13:=ltT g12
    refine zCA 17 rfl fun f14=>?_
    rw[zq4] at f14
    refine zAC<|zAH<|zAD<|zAF ?_
    obtain⟨x15,q16,l9⟩:=bs l9
    refine cut 32 0 [(2,pT 1),(3,pT 2),(5,pT 3),(17,.sl (c1.L.map zMZ.c)),(18,iI c1.L.length),(19,iI i7)] [(zMZ.d c1),zz0,[iI c1.Op,iI c1.N,.str c1.S,.sl (v2.L.map zMY.c),.sl (v4.map cS),.osl ⟨6,28⟩ (L6.map zMZ.c)],(zMZ.d x15)] (st (by simp[q16])) ?_
    obtain⟨v17,q18,l9⟩:=bs l9
    obtain⟨l19,q20,l9⟩:=bs l9
    obtain⟨q21,q22⟩:=zI7 q20
    try simp at q21
    refine last 32 0 [(2,pT 1),(3,pT 2),(17,.sl (c1.L.map zMZ.c)),(18,iI c1.L.length),(19,iI i7)] [(zMZ.d c1),zz0,[iI c1.Op,iI c1.N,.str c1.S,.sl (v2.L.map zMY.c),.sl (v4.map cS),.osl ⟨6,28⟩ (l19.map zMZ.c)],(zMZ.d x15)] ?_ fun zz hs=>?_
    ·refine zAJ [] mixed (n:=32) rfl (by decide) ?_
     simp[q21,q22]
     have r24:=zKd x15 v17 q18
     try simp[q21,q22] at r24
     refine zGN r24 (by simp) rfl ?_
     simp[q21,q22]
    refine zC1<|zAM ?_ hs
    have q23:Rng .i64 (((i7:Nat):Int)+1):=by simp only[Rng,inR];omega
    try simp at q23
    refine last 32 0 [(2,pT 1),(3,pT 2),(17,.sl (c1.L.map zMZ.c)),(18,iI c1.L.length),(19,iI ((i7+1:Nat):Int))] [(zMZ.d c1),zz0,[iI c1.Op,iI c1.N,.str c1.S,.sl (v2.L.map zMY.c),.sl (v4.map cS),.osl ⟨6,28⟩ (l19.map zMZ.c)]] (st (by simp[q23])) fun zz hs=>?_
    exact⟨(k11,l19,i7+1),hs,l9,by simp⟩
   have c25:=ltF g12
   refine zCA 17 rfl fun f26=>?_
   rw[zq4] at f26
   refine zAQ<|zAG ?_
   have q27:=zqa l9
   have q27:=q27.symm
   refine zAG<|zAS<|zAM (t:=mkS 32 0 [(2,pT 1),(3,pT 2)] [(zMZ.d c1),zz0,[iI c1.Op,iI c1.N,.str c1.S,.sl (v2.L.map zMY.c),.sl (v4.map cS),.osl ⟨6,28⟩ (o8.map zMZ.c)]]) ?_ (zAL (by simp[q27]))
   refine cutA 32 0 [(2,pT 1)] [(zMZ.d c1),[iI c1.Op,iI c1.N,.str c1.S,.sl (v2.L.map zMY.c),.sl (v4.map cS),.sl (o8.map zMZ.c)],[iI c1.Op,iI c1.N,.str c1.S,.sl (v2.L.map zMY.c),.sl (v4.map cS),.osl ⟨6,28⟩ (o8.map zMZ.c)]]<|zAB ?_
   obtain rfl:=oi h
   simp
theorem zKR(fuel:Nat)(c1:zMZ)(r:zMZ×Int)(h:zEW fuel c1=some r):Pure Tryz.prog 42 [.agg (zMZ.d c1)] (.tup [.agg (zMZ.d r.1),iI r.2]):=by
 rw[zEW] at h
 refine zAA Tryz.func42 (by rfl) (by rfl) (by simp) (by simp) (by simp)<|cutA 20 0 [(1,pT 0),(2,pT 1)] [(zMZ.d c1),zz0]<|zAD ?_
 obtain⟨v2,q3,h⟩:=bs h
 refine cut 20 0 [(1,pT 0),(2,pT 1),(8,.bool (!v2))] [(zMZ.d c1),zz0] ?_ ?_
 ·refine st ?_
  simp
  have r16:=zC6 fuel c1 v2 q3
  try simp at r16
  refine cP r16 ?_
  simp
 refine spc h rfl (fun g4 h=>?_) fun g4 h=>?_
 ·have g5:=notT g4
  refine cutA 20 0 [(2,pT 1),(3,iI 1)] [(zMZ.d c1),zz0]<|zAB<|zAE ?_
  obtain rfl:=oi h
  simp
 have g6:=notF g4
 refine zAC<|zAH ?_
 obtain⟨v7,q8,h⟩:=bs h
 refine cut 20 0 [(2,pT 1),(4,pT 2),(5,.bool v7.2)] [(zMZ.d c1),zz0,(zMZ.d v7.1)] ?_ ?_
 ·refine st ?_
  simp
  have r15:=zL2 fuel c1 v7 q8
  try simp at r15
  refine cP r15 ?_
  simp
 refine zAD<|cutA 20 0 [(2,pT 1),(4,pT 2),(16,.bool (!v7.2))] [(zMZ.d c1),zz0,(zMZ.d v7.1)]<|spc h rfl (fun g9 h=>?_) fun g9 h=>?_
 ·have g10:=notT g9
  refine cutA 20 0 [(2,pT 1),(3,iI 27)] [(zMZ.d c1),zz0,(zMZ.d v7.1)]<|zAB<|zAE ?_
  obtain rfl:=oi h
  simp
 have g11:=notF g9
 refine zAC<|zAH ?_
 obtain⟨v12,q13,h⟩:=bs h
 refine cut 20 0 [(2,pT 1),(3,iI 0)] [(zMZ.d c1),(zMZ.d v12),(zMZ.d v7.1)] ?_ ?_
 ·refine st ?_
  simp
  have r14:=zKP fuel v7.1 v12 q13
  try simp at r14
  refine cP r14 ?_
  simp
 refine zAB ?_
 obtain rfl:=oi h
 simp
theorem sem_tame_1_ok(fuel:Nat)(c1:zMZ)(a2:Int)(r:zMZ×Int)(h:zGC fuel c1 a2=some r):Pure Tryz.prog 41 [.agg (zMZ.d c1),iI a2] (.tup [.agg (zMZ.d r.1),iI r.2]):=by
 rw[zGC] at h
 refine zAA Tryz.func41 (by rfl) (by rfl) (by simp) (by simp) (by simp)<|cutA 10 0 [(2,pT 0),(4,pT 1)] [(zMZ.d c1),zz0] ?_
 obtain⟨v3,q4,h⟩:=bs h
 refine cut 10 0 [(4,pT 1),(5,iI v3.2)] [(zMZ.d c1),(zMZ.d v3.1)] ?_ ?_
 ·refine st ?_
  simp
  have r5:=zKR fuel c1 v3 q4
  try simp at r5
  refine cP r5 ?_
  simp
 refine zAB ?_
 obtain rfl:=oi h
 simp
theorem zGf(fuel:Nat)(slices1:(List (List zMY)))(r:(List zMY))(h:zBt fuel slices1=some r):Pure Tryz.prog 102 [.sl (slices1.map (cL zMY.c))] (.sl (r.map zMY.c)):=by
 rw[zBt] at h
 refine zAA Tryz.func102 (by rfl) (by rfl) (by simp) (by simp) (by simp)<|cutA 36 0 [(0,.sl (slices1.map (cL zMY.c)))] []<|cutA 36 0 [(0,.sl (slices1.map (cL zMY.c))),(3,iI 0)] []<|zAD<|cutA 36 0 [(0,.sl (slices1.map (cL zMY.c))),(3,iI 0),(9,.sl (slices1.map (cL zMY.c))),(10,iI slices1.length),(11,iI 0)] []<|zAF ?_
 obtain⟨o4,l5,h⟩:=bs h
 refine zAm (fun p:Nat×Int×Nat=>mkS 36 0 [(0,.sl (slices1.map (cL zMY.c))),(3,iI p.2.1),(9,.sl (slices1.map (cL zMY.c))),(10,iI slices1.length),(11,iI p.2.2)] []) (fun p=>zAh slices1 p.1 p.2.1 p.2.2=some o4∧0<=p.2.1) (fun p=>p.1) (fuel,0,0) ⟨l5,by(try dsimp only);omega⟩ (zAL (by simp)) ?_
 rintro⟨k7,size2,i3⟩ ⟨l5,c6⟩
 try dsimp only at l5 c6 ⊢
 cases k7 with
 |zero=>
  rw[zAh] at l5;cases l5
 |succ k8=>
  rw[zAh] at l5
  refine cutA 36 0 [(0,.sl (slices1.map (cL zMY.c))),(3,iI size2),(9,.sl (slices1.map (cL zMY.c))),(10,iI slices1.length),(11,iI i3),(12,.bool (ltI i3 slices1.length))] []<|zAD<|spc l5 rfl (fun g9 l5=>?_) fun g9 l5=>?_
  ·have c10:=ltT g9
   refine zCA 0 rfl fun f11=>?_
   rw[zq4] at f11
   refine zAC<|zAH<|zAD<|zAF ?_
   obtain⟨x12,q13,l5⟩:=bs l5
   refine cut 36 0 [(0,.sl (slices1.map (cL zMY.c))),(3,iI size2),(5,.sl (x12.map zMY.c)),(9,.sl (slices1.map (cL zMY.c))),(10,iI slices1.length),(11,iI i3)] [] (st (by simp[q13])) ?_
   obtain⟨n14,q15,l5⟩:=bs l5
   obtain⟨q16,q17⟩:=zBj q15
   try simp at q16
   try simp at q17
   have c18:=q16;simp only[Rng,inR] at c18
   refine cut 36 0 [(0,.sl (slices1.map (cL zMY.c))),(3,iI n14),(9,.sl (slices1.map (cL zMY.c))),(10,iI slices1.length),(11,iI i3)] [] (st (by simp[q16,q17]))<|cutA 36 0 [(0,.sl (slices1.map (cL zMY.c))),(3,iI n14),(9,.sl (slices1.map (cL zMY.c))),(10,iI slices1.length),(11,iI i3),(20,.bool (ltI n14 0))] []<|spc l5 rfl (fun g19 l5=>?_) fun g19 l5=>?_
   ·have c20:=ltT g19
    cases l5
   have c21:=ltF g19
   refine zAC<|zC1<|zAH ?_
   have q22:Rng .i64 (((i3:Nat):Int)+1):=by simp only[Rng,inR];omega
   try simp at q22
   refine last 36 0 [(0,.sl (slices1.map (cL zMY.c))),(3,iI n14),(9,.sl (slices1.map (cL zMY.c))),(10,iI slices1.length),(11,iI ((i3+1:Nat):Int))] [] (st (by simp[q22])) fun zz hs=>?_
   exact⟨(k8,n14,i3+1),hs,⟨l5,by(try dsimp only);(try unfold maxI);(first|omega|(split<;>omega))⟩,by simp⟩
  have c23:=ltF g9
  refine zCA 0 rfl fun f24=>?_
  rw[zq4] at f24
  refine zAQ<|zAG ?_
  have q25:=zqa l5
  have q25:=q25.symm
  refine zAG<|zAS<|zAM (t:=mkS 36 0 [(0,.sl (slices1.map (cL zMY.c))),(3,iI o4)] []) ?_ (zAL (by simp[q25]))
  obtain⟨u26,q27,h⟩:=bs h
  obtain⟨q28,q29⟩:=growC_ok q27
  refine cut 36 0 [(0,.sl (slices1.map (cL zMY.c))),(6,.osl ⟨1,24⟩ (([]:List zMY).map zMY.c))] [] ?_ ?_
  ·refine st ?_
   simp
   have r49:=grow_O o4 q28 q29
   try simp at r49
   refine callOwn r49 (by simp) ?_
   simp
  refine zAD<|cutA 36 0 [(6,.osl ⟨1,24⟩ (([]:List zMY).map zMY.c)),(25,.sl (slices1.map (cL zMY.c))),(26,iI slices1.length),(27,iI 0)] []<|zAF ?_
  obtain⟨o32,l33,h⟩:=bs h
  refine zAm (fun p:Nat×(List zMY)×Nat=>mkS 36 0 [(6,.osl ⟨1,24⟩ (p.2.1.map zMY.c)),(25,.sl (slices1.map (cL zMY.c))),(26,iI slices1.length),(27,iI p.2.2)] []) (fun p=>zAg slices1 p.1 p.2.1 p.2.2=some o32) (fun p=>p.1) (fuel,([]:List zMY),0) l33 (zAL (by simp)) ?_
  rintro⟨k34,newslice30,i31⟩ l33
  try dsimp only at l33 ⊢
  cases k34 with
  |zero=>
   rw[zAg] at l33;cases l33
  |succ k35=>
   rw[zAg] at l33
   refine cutA 36 0 [(6,.osl ⟨1,24⟩ (newslice30.map zMY.c)),(25,.sl (slices1.map (cL zMY.c))),(26,iI slices1.length),(27,iI i31),(28,.bool (ltI i31 slices1.length))] []<|zAD<|spc l33 rfl (fun g36 l33=>?_) fun g36 l33=>?_
   ·have c37:=ltT g36
    refine zCA 25 rfl fun f38=>?_
    rw[zq4] at f38
    refine zAC<|zAH<|zAD<|zAF ?_
    obtain⟨x39,q40,l33⟩:=bs l33
    refine cut 36 0 [(6,.osl ⟨1,24⟩ (newslice30.map zMY.c)),(8,.sl (x39.map zMY.c)),(25,.sl (slices1.map (cL zMY.c))),(26,iI slices1.length),(27,iI i31)] [] (st (by simp[q40])) ?_
    obtain⟨l41,q42,l33⟩:=bs l33
    obtain⟨q43,q44⟩:=zI7 q42
    try simp at q43
    refine last 36 0 [(6,.osl ⟨1,24⟩ (l41.map zMY.c)),(25,.sl (slices1.map (cL zMY.c))),(26,iI slices1.length),(27,iI i31)] [] (st (by simp[q43,q44])) fun zz hs=>?_
    refine zC1<|zAM ?_ hs
    have q45:Rng .i64 (((i31:Nat):Int)+1):=by simp only[Rng,inR];omega
    try simp at q45
    refine last 36 0 [(6,.osl ⟨1,24⟩ (l41.map zMY.c)),(25,.sl (slices1.map (cL zMY.c))),(26,iI slices1.length),(27,iI ((i31+1:Nat):Int))] [] (st (by simp[q45])) fun zz hs=>?_
    exact⟨(k35,l41,i31+1),hs,l33,by simp⟩
   have c46:=ltF g36
   refine zCA 25 rfl fun f47=>?_
   rw[zq4] at f47
   refine zAQ<|zAG ?_
   have q48:=zqa l33
   have q48:=q48.symm
   refine zAG<|zAS<|zAM (t:=mkS 36 0 [(6,.osl ⟨1,24⟩ (o32.map zMY.c))] []) ?_ (zAL (by simp[q48]))
   refine cutA 36 0 [(2,.osl ⟨1,24⟩ (o32.map zMY.c))] []<|zAB ?_
   obtain rfl:=oi h
   simp
theorem zJ6(fuel:Nat)(s1:zMa)(part2:Int)(r:(List zMY))(h:zEs fuel s1 part2=some r):Pure Tryz.prog 73 [.agg (zMa.d s1),iI part2] (.sl (r.map zMY.c)):=by
 rw[zEs] at h
 refine zAA Tryz.func73 (by rfl) (by rfl) (by simp) (by simp) (by simp)<|cutA 28 0 [(1,iI part2),(2,pT 0)] [(zMa.d s1)]<|zAD<|zAF ?_
 obtain⟨j3,l4,h⟩:=bs h
 refine zLO 28 0 [(2,pT 0),(5,.bool j3)] [(zMa.d s1)] (fun jj=>?_) ?_
 ·refine cutA 28 0 [(1,iI part2),(2,pT 0),(5,.bool (eqI s1.Op 4))] [(zMa.d s1)]<|spc l4 rfl (fun g5 l4=>?_) fun g5 l4=>?_
  ·refine zAC ?_
   obtain rfl:=oi l4
   exact zAM jj (zAL (by simp))
  refine last 28 0 [(2,pT 0),(5,.bool ((eqI s1.Op 6)&&(eqI part2 0)))] [(zMa.d s1)] ?_ fun zz hs=>?_
  ·rcases tf (eqI s1.Op 6) with g8|g8
   ·have c9:=eqT g8
    refine st ?_
    simp[g8]
   have c10:=eqF g8
   refine st ?_
   simp[g8]
  obtain rfl:=oi l4
  exact zAM jj hs
 refine spc h rfl (fun g11 h=>?_) fun g11 h=>?_
 ·refine cutA 28 0 [(4,.sl (s1.Kinds.map zMY.c))] [(zMa.d s1)]<|zAB<|zAK<|zAE ?_
  obtain rfl:=oi h
  simp
 refine cutA 28 0 [(2,pT 0),(18,.bool (eqI s1.Op 6))] [(zMa.d s1)]<|spc h rfl (fun g12 h=>?_) fun g12 h=>?_
 ·obtain⟨v14,q15,h⟩:=bs h
  refine cut 28 0 [(4,.sl (v14.map zMY.c))] [(zMa.d s1)] ?_ ?_
  ·refine st ?_
   simp
   have r16:=zGf fuel [s1.Kinds,s1.More] v14 q15
   try simp at r16
   refine cP r16 ?_
   simp
  refine zAB<|zAK<|zAE ?_
  obtain rfl:=oi h
  simp
 refine zAC<|zC1<|zAH<|cutA 28 0 [(4,.osl ⟨1,24⟩ (([]:List zMY).map zMY.c))] [(zMa.d s1)]<|zAB ?_
 obtain rfl:=oi h
 simp
theorem zIB(fuel:Nat):(∀(s1:zMa)(depth2:Int)(r:zMa×Int)(_:zA1 fuel s1 depth2=some r),Pure Tryz.prog 40 [.agg (zMa.d s1),iI depth2,.fn (.func 41) [] []] (.tup [.agg (zMa.d r.1),iI r.2])):=by
 induction fuel with
 |zero=>intro s1 depth2 r h;rw[zA1] at h;cases h
 |succ fuel zID=>
  intro s1 depth2 r h
  rw[zA1] at h
  refine zAA Tryz.func40 (by rfl) (by rfl) (by simp) (by simp) (by simp)<|cutA 82 0 [(1,iI depth2),(2,.fn (.func 41) [] []),(3,pT 0),(6,pT 1)] [(zMa.d s1),zz1] ?_
  obtain⟨v3,q4,h⟩:=bs h
  obtain⟨v5,q6,h⟩:=bs h
  obtain⟨v7,q8,h⟩:=bs h
  refine cut 82 0 [(1,iI depth2),(2,.fn (.func 41) [] []),(3,pT 0),(6,pT 1),(8,pT 2)] [(zMa.d s1),zz1,[iI s1.Op,iI s1.N,.str s1.S,iI 0,iI 0,.str ([]:List UInt8),.osl ⟨1,24⟩ (([]:List zMY).map zMY.c),.osl ⟨1,9⟩ (([]:List (List UInt8)).map cS),.osl ⟨6,28⟩ (([]:List zMZ).map zMZ.c),.sl (s1.Kind.L.map zMY.c),.sl (v3.map zMY.c),.sl (v5.map zMY.c),.sl (v7.map cS),.osl ⟨14,31⟩ (([]:List zMa).map zMa.c)]] ?_ ?_
  ·refine zAJ [] mixed (n:=82) rfl (by decide) ?_
   simp
   have r60:=zCY s1.Kinds v3 q4
   try simp at r60
   refine zGN r60 (by simp) rfl ?_
   simp
   have r61:=zCY s1.More v5 q6
   try simp at r61
   refine zGN r61 (by simp) rfl ?_
   simp
   have r62:=zCJ s1.Names v7 q8
   try simp at r62
   refine zGN r62 (by simp) rfl ?_
   simp
  obtain⟨o10,l11,h⟩:=bs h
  refine joinS o10 82 0 (fun j9=>[(1,iI depth2),(2,.fn (.func 41) [] []),(3,pT 0),(6,pT 1),(8,pT 2)]) (fun j9=>[(zMa.d s1),zz1,[iI s1.Op,iI s1.N,.str s1.S,iI j9.1,iI j9.2.1,.str j9.2.2.1,.sl (j9.2.2.2.1.map zMY.c),.sl (j9.2.2.2.2.1.map cS),.sl (j9.2.2.2.2.2.map zMZ.c),.sl (s1.Kind.L.map zMY.c),.sl (v3.map zMY.c),.sl (v5.map zMY.c),.sl (v7.map cS),.osl ⟨14,31⟩ (([]:List zMa).map zMa.c)]]) (fun jj=>?_) ?_
  ·obtain⟨v12,q13,l11⟩:=bs l11
   refine cut 82 0 [(1,iI depth2),(2,.fn (.func 41) [] []),(3,pT 0),(6,pT 1),(8,pT 2),(35,.bool v12)] [(zMa.d s1),zz1,[iI s1.Op,iI s1.N,.str s1.S,iI 0,iI 0,.str ([]:List UInt8),.osl ⟨1,24⟩ (([]:List zMY).map zMY.c),.osl ⟨1,9⟩ (([]:List (List UInt8)).map cS),.osl ⟨6,28⟩ (([]:List zMZ).map zMZ.c),.sl (s1.Kind.L.map zMY.c),.sl (v3.map zMY.c),.sl (v5.map zMY.c),.sl (v7.map cS),.osl ⟨14,31⟩ (([]:List zMa).map zMa.c)]] ?_ ?_
   ·refine st ?_
    simp
    have r23:=zEp s1.Op v12 q13
    try simp at r23
    refine cP r23 ?_
    simp
   refine spc l11 rfl (fun g14 l11=>?_) fun g14 l11=>?_
   ·obtain⟨v15,q16,l11⟩:=bs l11
    refine cut 82 0 [(1,iI depth2),(2,.fn (.func 41) [] []),(3,pT 0),(6,pT 1),(8,pT 2),(9,pT 3),(10,iI v15.2)] [(zMa.d s1),zz1,[iI s1.Op,iI s1.N,.str s1.S,iI 0,iI 0,.str ([]:List UInt8),.osl ⟨1,24⟩ (([]:List zMY).map zMY.c),.osl ⟨1,9⟩ (([]:List (List UInt8)).map cS),.osl ⟨6,28⟩ (([]:List zMZ).map zMZ.c),.sl (s1.Kind.L.map zMY.c),.sl (v3.map zMY.c),.sl (v5.map zMY.c),.sl (v7.map cS),.osl ⟨14,31⟩ (([]:List zMa).map zMa.c)],(zMZ.d v15.1)] ?_ ?_
    ·refine st ?_
     simp
     have r22:=sem_tame_1_ok fuel s1.Con depth2 v15 q16
     try simp at r22
     refine cP r22 ?_
     simp
    refine zAD<|cutA 82 0 [(1,iI depth2),(2,.fn (.func 41) [] []),(3,pT 0),(6,pT 1),(8,pT 2),(9,pT 3),(10,iI v15.2),(45,.bool (!(eqI v15.2 0)))] [(zMa.d s1),zz1,[iI s1.Op,iI s1.N,.str s1.S,iI 0,iI 0,.str ([]:List UInt8),.osl ⟨1,24⟩ (([]:List zMY).map zMY.c),.osl ⟨1,9⟩ (([]:List (List UInt8)).map cS),.osl ⟨6,28⟩ (([]:List zMZ).map zMZ.c),.sl (s1.Kind.L.map zMY.c),.sl (v3.map zMY.c),.sl (v5.map zMY.c),.sl (v7.map cS),.osl ⟨14,31⟩ (([]:List zMa).map zMa.c)],(zMZ.d v15.1)] ?_
    rcases sp l11 with ⟨g17,l11⟩|⟨g17,l11⟩
    ·have g18:=notT g17
     have c19:=eqF g18
     refine zEk rfl g17<|cutA 82 0 [(6,pT 1),(7,iI v15.2)] [(zMa.d s1),zz1,[iI s1.Op,iI s1.N,.str s1.S,iI 0,iI 0,.str ([]:List UInt8),.osl ⟨1,24⟩ (([]:List zMY).map zMY.c),.osl ⟨1,9⟩ (([]:List (List UInt8)).map cS),.osl ⟨6,28⟩ (([]:List zMZ).map zMZ.c),.sl (s1.Kind.L.map zMY.c),.sl (v3.map zMY.c),.sl (v5.map zMY.c),.sl (v7.map cS),.osl ⟨14,31⟩ (([]:List zMa).map zMa.c)],(zMZ.d v15.1)]<|zAB<|zAE ?_
     replace h:=retL l11 h
     refine zAE ?_
     obtain rfl:=oi h
     simp
    have g20:=notF g17
    have c21:=eqT g20
    refine zEc rfl g17<|zAC<|zAH<|last 82 0 [(1,iI depth2),(2,.fn (.func 41) [] []),(3,pT 0),(6,pT 1),(8,pT 2)] [(zMa.d s1),zz1,[iI s1.Op,iI s1.N,.str s1.S,iI v15.1.Op,iI v15.1.N,.str v15.1.S,.sl (v15.1.Kind.L.map zMY.c),.sl (v15.1.Names.map cS),.sl (v15.1.L.map zMZ.c),.sl (s1.Kind.L.map zMY.c),.sl (v3.map zMY.c),.sl (v5.map zMY.c),.sl (v7.map cS),.osl ⟨14,31⟩ (([]:List zMa).map zMa.c)]] (st (by simp)) fun zz hs=>?_
    obtain rfl:=oi l11
    exact zAM (jj _ rfl) hs
   refine zAC ?_
   obtain rfl:=oi l11
   exact zAM (jj _ rfl) (zAL (by simp))
  rintro j9 rfl
  replace h:=zF0 h
  try dsimp only
  refine zAD<|cutA 82 0 [(1,iI depth2),(2,.fn (.func 41) [] []),(3,pT 0),(6,pT 1),(8,pT 2),(51,.sl (s1.L.map zMa.c)),(52,iI s1.L.length),(53,iI 0)] [(zMa.d s1),zz1,[iI s1.Op,iI s1.N,.str s1.S,iI j9.1,iI j9.2.1,.str j9.2.2.1,.sl (j9.2.2.2.1.map zMY.c),.sl (j9.2.2.2.2.1.map cS),.sl (j9.2.2.2.2.2.map zMZ.c),.sl (s1.Kind.L.map zMY.c),.sl (v3.map zMY.c),.sl (v5.map zMY.c),.sl (v7.map cS),.osl ⟨14,31⟩ (([]:List zMa).map zMa.c)]]<|zAF ?_
  obtain⟨o27,l28,h⟩:=bs h
  refine zAm (fun p:Nat×(List zMa)×Nat=>mkS 82 0 [(1,iI depth2),(2,.fn (.func 41) [] []),(3,pT 0),(6,pT 1),(8,pT 2),(51,.sl (s1.L.map zMa.c)),(52,iI s1.L.length),(53,iI p.2.2)] [(zMa.d s1),zz1,[iI s1.Op,iI s1.N,.str s1.S,iI j9.1,iI j9.2.1,.str j9.2.2.1,.sl (j9.2.2.2.1.map zMY.c),.sl (j9.2.2.2.2.1.map cS),.sl (j9.2.2.2.2.2.map zMZ.c),.sl (s1.Kind.L.map zMY.c),.sl (v3.map zMY.c),.sl (v5.map zMY.c),.sl (v7.map cS),.osl ⟨14,31⟩ (p.2.1.map zMa.c)]]) (fun p=>zBV fuel (zA1 fuel) s1 depth2 p.1 p.2.1 p.2.2=some o27) (fun p=>p.1) (fuel,([]:List zMa),0) l28 (zAL (by simp)) ?_
  rintro⟨k29,L24,i25⟩ l28
  try dsimp only at l28 ⊢
  cases k29 with
  |zero=>
   rw[zBV] at l28;cases l28
  |succ k30=>
   rw[zBV] at l28
   refine cutA 82 0 [(1,iI depth2),(2,.fn (.func 41) [] []),(3,pT 0),(6,pT 1),(8,pT 2),(51,.sl (s1.L.map zMa.c)),(52,iI s1.L.length),(53,iI i25),(54,.bool (ltI i25 s1.L.length))] [(zMa.d s1),zz1,[iI s1.Op,iI s1.N,.str s1.S,iI j9.1,iI j9.2.1,.str j9.2.2.1,.sl (j9.2.2.2.1.map zMY.c),.sl (j9.2.2.2.2.1.map cS),.sl (j9.2.2.2.2.2.map zMZ.c),.sl (s1.Kind.L.map zMY.c),.sl (v3.map zMY.c),.sl (v5.map zMY.c),.sl (v7.map cS),.osl ⟨14,31⟩ (L24.map zMa.c)]]<|zAD<|spc l28 rfl (fun g31 l28=>?_) fun g31 l28=>?_
   ·have c32:=ltT g31
    refine zCA 51 rfl fun f33=>?_
    rw[zq4] at f33
    refine zAC<|zAH<|zAD<|zAF ?_
    obtain⟨x34,q35,l28⟩:=bs l28
    refine cut 82 0 [(1,iI depth2),(2,.fn (.func 41) [] []),(3,pT 0),(6,pT 1),(8,pT 2),(11,iI i25),(12,pT 3),(51,.sl (s1.L.map zMa.c)),(52,iI s1.L.length),(53,iI i25)] [(zMa.d s1),zz1,[iI s1.Op,iI s1.N,.str s1.S,iI j9.1,iI j9.2.1,.str j9.2.2.1,.sl (j9.2.2.2.1.map zMY.c),.sl (j9.2.2.2.2.1.map cS),.sl (j9.2.2.2.2.2.map zMZ.c),.sl (s1.Kind.L.map zMY.c),.sl (v3.map zMY.c),.sl (v5.map zMY.c),.sl (v7.map cS),.osl ⟨14,31⟩ (L24.map zMa.c)],(zMa.d x34)] (st (by simp[q35])) ?_
    obtain⟨v36,q37,l28⟩:=bs l28
    obtain⟨n38,q39,l28⟩:=bs l28
    obtain⟨q40,q41⟩:=zBj q39
    try simp at q40
    try simp at q41
    have c42:=q40;simp only[Rng,inR] at c42
    obtain⟨v43,q44,l28⟩:=bs l28
    refine cut 82 0 [(1,iI depth2),(2,.fn (.func 41) [] []),(3,pT 0),(6,pT 1),(8,pT 2),(13,pT 4),(14,iI v43.2),(51,.sl (s1.L.map zMa.c)),(52,iI s1.L.length),(53,iI i25)] [(zMa.d s1),zz1,[iI s1.Op,iI s1.N,.str s1.S,iI j9.1,iI j9.2.1,.str j9.2.2.1,.sl (j9.2.2.2.1.map zMY.c),.sl (j9.2.2.2.2.1.map cS),.sl (j9.2.2.2.2.2.map zMZ.c),.sl (s1.Kind.L.map zMY.c),.sl (v3.map zMY.c),.sl (v5.map zMY.c),.sl (v7.map cS),.osl ⟨14,31⟩ (L24.map zMa.c)],(zMa.d x34),(zMa.d v43.1)] ?_ ?_
    ·refine zAJ [] mixed (n:=82) rfl (by decide) ?_
     simp[q40,q41]
     have r55:=zJ6 fuel s1 ((i25:Nat):Int) v36 q37
     try simp[q40,q41] at r55
     refine zGN r55 (by simp) rfl ?_
     simp[q40,q41]
     have r56:=zID x34 n38 v43 q44
     try simp[q40,q41] at r56
     refine zGN r56 (by simp) rfl ?_
     simp[q40,q41]
    refine zAD<|cutA 82 0 [(1,iI depth2),(2,.fn (.func 41) [] []),(3,pT 0),(6,pT 1),(8,pT 2),(13,pT 4),(14,iI v43.2),(51,.sl (s1.L.map zMa.c)),(52,iI s1.L.length),(53,iI i25),(71,.bool (!(eqI v43.2 0)))] [(zMa.d s1),zz1,[iI s1.Op,iI s1.N,.str s1.S,iI j9.1,iI j9.2.1,.str j9.2.2.1,.sl (j9.2.2.2.1.map zMY.c),.sl (j9.2.2.2.2.1.map cS),.sl (j9.2.2.2.2.2.map zMZ.c),.sl (s1.Kind.L.map zMY.c),.sl (v3.map zMY.c),.sl (v5.map zMY.c),.sl (v7.map cS),.osl ⟨14,31⟩ (L24.map zMa.c)],(zMa.d x34),(zMa.d v43.1)] ?_
    rcases sp l28 with ⟨g45,l28⟩|⟨g45,l28⟩
    ·have g46:=notT g45
     have c47:=eqF g46
     refine zEk rfl g45<|cutA 82 0 [(6,pT 1),(7,iI v43.2)] [(zMa.d s1),zz1,[iI s1.Op,iI s1.N,.str s1.S,iI j9.1,iI j9.2.1,.str j9.2.2.1,.sl (j9.2.2.2.1.map zMY.c),.sl (j9.2.2.2.2.1.map cS),.sl (j9.2.2.2.2.2.map zMZ.c),.sl (s1.Kind.L.map zMY.c),.sl (v3.map zMY.c),.sl (v5.map zMY.c),.sl (v7.map cS),.osl ⟨14,31⟩ (L24.map zMa.c)],(zMa.d x34),(zMa.d v43.1)]<|zAB<|zAE<|zAK<|zAE ?_
     replace h:=retL l28 h
     refine zAE<|zAK<|zAE ?_
     obtain rfl:=oi h
     simp
    have g48:=notF g45
    have c49:=eqT g48
    refine zEc rfl g45<|zAC<|zAH ?_
    obtain⟨l50,q51,l28⟩:=bs l28
    obtain⟨q52,q53⟩:=zI7 q51
    try simp at q52
    refine last 82 0 [(1,iI depth2),(2,.fn (.func 41) [] []),(3,pT 0),(6,pT 1),(8,pT 2),(51,.sl (s1.L.map zMa.c)),(52,iI s1.L.length),(53,iI i25)] [(zMa.d s1),zz1,[iI s1.Op,iI s1.N,.str s1.S,iI j9.1,iI j9.2.1,.str j9.2.2.1,.sl (j9.2.2.2.1.map zMY.c),.sl (j9.2.2.2.2.1.map cS),.sl (j9.2.2.2.2.2.map zMZ.c),.sl (s1.Kind.L.map zMY.c),.sl (v3.map zMY.c),.sl (v5.map zMY.c),.sl (v7.map cS),.osl ⟨14,31⟩ (l50.map zMa.c)],(zMa.d x34),(zMa.d v43.1)] (st (by simp[q52,q53])) fun zz hs=>?_
    refine zC1<|zAM ?_ hs
    have q54:Rng .i64 (((i25:Nat):Int)+1):=by simp only[Rng,inR];omega
    try simp at q54
    refine last 82 0 [(1,iI depth2),(2,.fn (.func 41) [] []),(3,pT 0),(6,pT 1),(8,pT 2),(51,.sl (s1.L.map zMa.c)),(52,iI s1.L.length),(53,iI ((i25+1:Nat):Int))] [(zMa.d s1),zz1,[iI s1.Op,iI s1.N,.str s1.S,iI j9.1,iI j9.2.1,.str j9.2.2.1,.sl (j9.2.2.2.1.map zMY.c),.sl (j9.2.2.2.2.1.map cS),.sl (j9.2.2.2.2.2.map zMZ.c),.sl (s1.Kind.L.map zMY.c),.sl (v3.map zMY.c),.sl (v5.map zMY.c),.sl (v7.map cS),.osl ⟨14,31⟩ (l50.map zMa.c)]] (st (by simp[q54])) fun zz hs=>?_
    exact⟨(k30,l50,i25+1),hs,l28,by simp⟩
   have c57:=ltF g31
   refine zCA 51 rfl fun f58=>?_
   rw[zq4] at f58
   refine zAQ<|zAG ?_
   rcases o27 with o27|o26
   ·cases l28
   have q59:=Sum.inr.inj (zqa l28)
   replace h:=zF0 h
   have q59:=q59.symm
   refine zAG<|zAS<|zAM (t:=mkS 82 0 [(6,pT 1),(8,pT 2)] [(zMa.d s1),zz1,[iI s1.Op,iI s1.N,.str s1.S,iI j9.1,iI j9.2.1,.str j9.2.2.1,.sl (j9.2.2.2.1.map zMY.c),.sl (j9.2.2.2.2.1.map cS),.sl (j9.2.2.2.2.2.map zMZ.c),.sl (s1.Kind.L.map zMY.c),.sl (v3.map zMY.c),.sl (v5.map zMY.c),.sl (v7.map cS),.osl ⟨14,31⟩ (o26.map zMa.c)]]) ?_ (zAL (by simp[q59]))
   refine cutA 82 0 [(6,pT 1),(7,iI 0)] [(zMa.d s1),[iI s1.Op,iI s1.N,.str s1.S,iI j9.1,iI j9.2.1,.str j9.2.2.1,.sl (j9.2.2.2.1.map zMY.c),.sl (j9.2.2.2.2.1.map cS),.sl (j9.2.2.2.2.2.map zMZ.c),.sl (s1.Kind.L.map zMY.c),.sl (v3.map zMY.c),.sl (v5.map zMY.c),.sl (v7.map cS),.sl (o26.map zMa.c)],[iI s1.Op,iI s1.N,.str s1.S,iI j9.1,iI j9.2.1,.str j9.2.2.1,.sl (j9.2.2.2.1.map zMY.c),.sl (j9.2.2.2.2.1.map cS),.sl (j9.2.2.2.2.2.map zMZ.c),.sl (s1.Kind.L.map zMY.c),.sl (v3.map zMY.c),.sl (v5.map zMY.c),.sl (v7.map cS),.osl ⟨14,31⟩ (o26.map zMa.c)]]<|zAB ?_
   obtain rfl:=oi h
   simp
theorem zJE(fuel:Nat)(s1:zMa)(r:zMa×Int)(h:zEU fuel s1=some r):Pure Tryz.prog 20 [.agg (zMa.d s1)] (.tup [.agg (zMa.d r.1),iI r.2]):=by
 rw[zEU] at h
 refine zAA Tryz.func20 (by rfl) (by rfl) (by simp) (by simp) (by simp)<|cutA 8 0 [(1,pT 0),(2,pT 1)] [(zMa.d s1),zz1] ?_
 obtain⟨v2,q3,h⟩:=bs h
 refine cut 8 0 [(2,pT 1),(3,iI v2.2)] [(zMa.d s1),(zMa.d v2.1)] ?_ ?_
 ·refine st ?_
  simp
  have r4:=zIB fuel s1 0 v2 q3
  try simp at r4
  refine cP r4 ?_
  simp
 refine zAB ?_
 obtain rfl:=oi h
 simp
end Go.Proofs.YtkdhppfdiagglaaGreatDoor
