/- For every input the law PatternWider returns true. Part 18 of 22. No condition. -/
import Derived.Test.YtencdekdgajgfaaGreatDoorPXq
import Derived.Test.YtencdekdgajgfaaGreatDoorRows
import Derived.Shelf.Vars
import Derived.Lib.LaidU8
import Derived.Lib.LaidTab
import Derived.Stop.Joined
import Derived.Stop.LaidErr
set_option linter.unusedVariables false
set_option linter.unnecessarySimpa false
set_option linter.unusedSimpArgs false
set_option maxRecDepth 100000
set_option maxHeartbeats 1000000
namespace Go.Proofs.YtencdekdgajgfaaGreatDoor
open Go Go.Abs
theorem op24(n:Nat):zF0 Tryz.prog n 24 zLc.c (fun _=>True):=by
 induction n using Nat.strongRecOn with
 |_ n ih=>
  exact zFS Tryz.underlying24 (N:=4) (by kernel_rfl) (fun p=>⟨p.1,p.2.1,p.2.2.1,p.2.2.2.1⟩) (fun p=>by simp) (fun _ _=>trivial) (fun k hk=>
   zBe rfl (k:=1) (by kernel_rfl) (zFW Tryz.underlying3 k) (zBe rfl (k:=1) (by kernel_rfl) (zFW Tryz.underlying3 k)
    (zBe rfl (k:=1) (by kernel_rfl) (zGE Tryz.underlying9 k)
     (zBe rfl (k:=1) (by kernel_rfl) (zDk Tryz.underlying22 (m:=4) (b:=56) (by kernel_rfl) (by kernel_rfl) (by decide) (fun a=>by simp) (fun j hj=>ih j (by omega))) (zGa (by decide))))))
theorem op46(n:Nat):zF0 Tryz.prog n 46 zLZ.c (fun _=>True):=by
 induction n using Nat.strongRecOn with
 |_ n ih=>
  exact zFS Tryz.underlying46 (N:=5) (by kernel_rfl) (fun p=>⟨p.1,p.2.1,p.2.2.1,p.2.2.2.1,p.2.2.2.2.1⟩) (fun p=>by simp) (fun _ _=>trivial) (fun k hk=>
   zBe rfl (k:=1) (by kernel_rfl) (zFW Tryz.underlying3 k) (zBe rfl (k:=1) (by kernel_rfl) (zFW Tryz.underlying3 k)
    (zBe rfl (k:=1) (by kernel_rfl) (zGE Tryz.underlying9 k)
     (zBe rfl (k:=1) (by kernel_rfl) (zDk Tryz.underlying28 (m:=1) (b:=16) (by kernel_rfl) (by kernel_rfl) (by decide) (fun a=>by simp) (fun j hj=>zGE Tryz.underlying9 j))
      (zBe rfl (k:=1) (by kernel_rfl) (zDk Tryz.underlying44 (m:=5) (b:=80) (by kernel_rfl) (by kernel_rfl) (by decide) (fun a=>by simp) (fun j hj=>ih j (by omega))) (zGa (by decide)))))))
theorem op27(n:Nat):zF0 Tryz.prog n 27 zLb.c (fun _=>True):=by
 induction n using Nat.strongRecOn with
 |_ n ih=>
  exact zFS Tryz.underlying27 (N:=1) (by kernel_rfl) (fun p=>zLb.mk p.1) (fun p=>by simp) (fun _ _=>trivial) (fun k hk=>
   zBe rfl (k:=1) (by kernel_rfl) (zDk Tryz.underlying25 (m:=1) (b:=24) (by kernel_rfl) (by kernel_rfl) (by decide) (fun a=>by simp) (fun j hj=>ih j (by omega))) (zGa (by decide)))
theorem op31(n:Nat):zF0 Tryz.prog n 31 zLd.c (fun _=>True):=by
 induction n using Nat.strongRecOn with
 |_ n ih=>
  exact zFS Tryz.underlying31 (N:=6) (by kernel_rfl) (fun p=>⟨p.1,p.2.1,p.2.2.1,p.2.2.2.1,p.2.2.2.2.1,p.2.2.2.2.2.1⟩) (fun p=>by simp) (fun _ _=>trivial) (fun k hk=>
   zBe rfl (k:=1) (by kernel_rfl) (zFW Tryz.underlying3 k) (zBe rfl (k:=1) (by kernel_rfl) (zFW Tryz.underlying3 k)
    (zBe rfl (k:=1) (by kernel_rfl) (zGE Tryz.underlying9 k)
     (zBe rfl (k:=1) (by kernel_rfl) (op27 k)
      (zBe rfl (k:=1) (by kernel_rfl) (zDk Tryz.underlying28 (m:=1) (b:=16) (by kernel_rfl) (by kernel_rfl) (by decide) (fun a=>by simp) (fun j hj=>zGE Tryz.underlying9 j))
       (zBe rfl (k:=1) (by kernel_rfl) (zDk Tryz.underlying29 (m:=6) (b:=104) (by kernel_rfl) (by kernel_rfl) (by decide) (fun a=>by simp) (fun j hj=>ih j (by omega))) (zGa (by decide))))))))
theorem own:ownKnob Tryz.prog.godebug=none:=by kernel_rfl
theorem laid:laidOutB Tryz.prog=true:=by kernel_rfl
theorem tab_reads{W:World}{name:String}{k:IntKind}{zs:List Int}{g:Nat}{t e:TypeId}{n:Nat}
 (hg:Tryz.prog.globalNamed name=some g) (hty:(Tryz.prog.globals[g]?).map (·.type)=some t) (ht:Tryz.prog.underlying t=some (.array n e)) (he:Tryz.prog.underlying e=some (.int k)) (hce:Tryz.prog.cellsOf e=1) (hct:Tryz.prog.cellsOf t=n)
 (h:Lib.VarReads Tryz.prog W name (Lib.tabData k zs)): ∃ty fr,W.heap[g]? =some (.cells (zs.map fun z=>Value.int k z).toArray ty fr):=by
 obtain⟨g',t',cs,fuel,p,hg',ht',hvar,hd⟩:=h
 obtain rfl:=zqa (hg.symm.trans hg')
 obtain rfl:=zqa (hty.symm.trans ht')
 have hcs:=Lib.cells_of_tab ht he hce hct hd
 unfold World.var? at hvar
 rw[hg] at hvar
 simp only[Option.bind_some] at hvar
 split at hvar
 ·rename_i c ty fr hh
  cases hvar
  refine⟨ty,fr,?_⟩
  rw[hh,<-hcs]
 ·cases hvar
theorem laid_drop{P:Program}{W:World}: ∀(k:Nat)(l:List (String×DataW Unit)),laidMet P l W->laidMet P (l.drop k) W
 |0,l,h=>by rw[List.drop_zero];exact h
 |k+1,[],h=>by rw[List.drop_nil];exact h
 |k+1,x::l,h=>laid_drop k l (laidMet.tail h)
theorem laid_at{P:Program}{W:World}{l r:List (String×DataW Unit)}{x:String×DataW Unit}(k:Nat)(h:laidMet P l W)(e:l.drop k=x::r):laidMet P (x::r) W:=by
 rw[<-e];exact laid_drop k l h
theorem err_star: "*" ++ "errors.errorString" = "*errors.errorString" :=by decide
theorem err_row (u:TypeId) (h:Tryz.prog.typeName? 3 u=some "*errors.errorString"):u=230:=
 typeName_ptr_named (nm:= "errors.errorString") (by rw [err_star];kernel_rfl) (by kernel_rfl) (by decide) u (by rw [err_star];exact h)
theorem err_var {n:String} {text:List UInt8} {r:List (String×DataW Unit)} {W:World} {g:Nat} (h:laidMet Tryz.prog ((n,.iface "*errors.errorString" (.ptr (.agg [.lit (.string text)])))::r) W) (hg:Tryz.prog.globalNamed n=some g)
 (ht:(Tryz.prog.globals[g]?).map (·.type)=some 152): ∃t v,W.cell? ⟨g,0,none⟩=some (.iface t v):=by
 obtain⟨a,s,hv,_⟩:=laid_sentinel h hg ht Tryz.underlying152 err_row Tryz.underlying230 Tryz.underlying232 rfl rfl Tryz.underlying9 (by kernel_rfl) (by kernel_rfl)
 exact⟨_,_,World.var?_cell hg hv 0⟩
theorem glob {Q:World→Prop} (hQ: ∀W,Q W→Lib.VarReads Tryz.prog W "internal/strconv.uint64pow10" (Lib.tabData .u64 Lib.pow10Tab)∧Lib.VarReads Tryz.prog W "strings.asciiSpace" (Lib.tabData .u8 Lib.asciiSpaceTab)) (hE: ∀W,Q W→∀i,i∈ge→∃t v,W.cell? ⟨i,0,none⟩=some (.iface t v)):
 ∀W:World,W.ShapedOpen Tryz.prog->Q W->GOk (fun x=>W.cell? x)∧Tabs W:=fun W h hq=>by
 obtain⟨h1,h2⟩:=hQ W hq
 refine⟨⟨fun i hi=>?_,hE W hq⟩,fun t ht=>?_⟩
 ·obtain rfl:i=0:=by simpa[gl] using hi
  exact cell_of_shapedOpen_int h (t:=3) (zero:=#[.int .i64 0]) (k:=.i64) (of_decide_eq_true (by kernel_rfl)) (by kernel_rfl) rfl (by kernel_rfl) (by kernel_rfl) Tryz.underlying3
 simp only[tb,tb1,tb2,List.cons_append,List.nil_append,List.mem_cons,List.not_mem_nil,or_false] at ht
 rcases ht with rfl|rfl
 ·exact tab_reads (t:=223) (e:=150) (by kernel_rfl) (by kernel_rfl) (n:=20) (by kernel_rfl) (by kernel_rfl) (by kernel_rfl) (by kernel_rfl) h1
 ·exact tab_reads (t:=226) (e:=5) (by kernel_rfl) (by kernel_rfl) (n:=256) (by kernel_rfl) (by kernel_rfl) (by kernel_rfl) (by kernel_rfl) h2
def sln(l:List (List UInt8)):Nat:=(l.map List.length).sum
def vnd(v:zLZ):Nat:=1+(v.L.map vnd).sum
decreasing_by all_goals (cases v;simp only[zLZ.mk.sizeOf_spec];have:=List.sizeOf_lt_of_mem ‹_›;simp only at this;omega)
theorem vnd_eq(v:zLZ):vnd v=1+(v.L.map vnd).sum:=by rw[vnd]
def vwt(v:zLZ):Nat:=100+v.S.length+v.Names.length+sln v.Names+v.L.length+(v.L.map vwt).sum
decreasing_by all_goals (cases v;simp only[zLZ.mk.sizeOf_spec];have:=List.sizeOf_lt_of_mem ‹_›;simp only at this;omega)
theorem vwt_eq(v:zLZ):vwt v=100+v.S.length+v.Names.length+sln v.Names+v.L.length+(v.L.map vwt).sum:=by rw[vwt]
theorem zHY{v x:zLZ}(h:x∈v.L):vwt x+100+v.S.length+v.Names.length+sln v.Names+v.L.length<=vwt v:=by
 rw[vwt_eq v]
 have:=le_sum vwt h
 omega
theorem zJB{v x:zLZ}(h:x∈v.L):vnd x+1<=vnd v:=by
 rw[vnd_eq v]
 have:=le_sum vnd h
 omega
theorem zKO(v:zLZ):100+v.S.length+v.Names.length+sln v.Names+v.L.length<=vwt v:=by rw[vwt_eq];omega
theorem vnd_pos(v:zLZ):1<=vnd v:=by rw[vnd_eq];omega
theorem val_ind{T:zLZ->Prop}(h: ∀v,(∀x,x∈v.L->T x)->T v): ∀v,T v:=by
 have key: ∀n v,vwt v<=n->T v:=by
  intro n
  induction n with
  |zero=>intro v hv;have:=zKO v;omega
  |succ n ih=>exact fun v hv=>h v fun x hx=>ih x (by have:=zHY hx;omega)
 exact fun v=>key (vwt v) v (Nat.le_refl _)
theorem len_vnd(v:zLZ):v.L.length+1<=vnd v:=by
 rw[vnd_eq]
 have:v.L.length<=(v.L.map vnd).sum:=by
  induction v.L with
  |nil=>simp
  |cons x l ih=>simp only[List.length_cons,List.map_cons,List.sum_cons];have:=vnd_pos x;omega
 omega
theorem zLL(l:List (List UInt8)): ∀(n i k:Nat),i+n=l.length->n+1<=k->∃o,zAX l k i=some o:=by
 intro n
 induction n with
 |zero=>
  intro i k hi hk
  obtain⟨k,rfl⟩: ∃q,k=q+1:=⟨k-1,by omega⟩
  rw[zAX,if_neg (ltN (by omega))]
  exact⟨_,rfl⟩
 |succ n ihn=>
  intro i k hi hk
  obtain⟨k,rfl⟩: ∃q,k=q+1:=⟨k-1,by omega⟩
  have hx:l[i]? =some l[i]:=zq2 (by omega)
  rw[zAX,if_pos (ltP (by omega)),hx,zAs,zEo,zAs]
  split
  ·exact⟨_,rfl⟩
  ·exact ihn (i+1) k (by omega) (by omega)
theorem hugeNames_M(l:List (List UInt8)){fuel:Nat}(hf:l.length+1<=fuel): ∃b,zA9 fuel l=some b:=by
 obtain⟨o,ho⟩:=zLL l l.length 0 fuel (by omega) hf
 rw[zA9,zBl,ho,zAs]
 cases o<;>exact⟨_,rfl⟩
theorem huge_loop(v:zLZ)(d:Int)(g:Nat)(hd:0<=d)(hd2:d<=60)(ih: ∀x,x∈v.L->∀c:Int,0<=c->c<=400->∃w:Int,zBp g x (d+1) c=some w∧0<=w∧(w<=400->w=c+vnd x)):
 ∀(n i k:Nat)(a:Int),i+n=v.L.length->n+1<=k->0<=a->∃w:Int,zB6 (zBp g) v d k a i=some w∧0<=w∧(w<=400->w=a+((v.L.drop i).map vnd).sum):=by
 intro n
 induction n with
 |zero=>
  intro i k a hi hk ha
  obtain⟨k,rfl⟩: ∃q,k=q+1:=⟨k-1,by omega⟩
  rw[zB6,show ltI (i:Int) (v.L.length:Int)=false from decide_eq_false (by omega),List.drop_eq_nil_of_le (by omega)]
  exact⟨a,rfl,ha,fun _=>by simp⟩
 |succ n ihn=>
  intro i k a hi hk ha
  obtain⟨k,rfl⟩: ∃q,k=q+1:=⟨k-1,by omega⟩
  have hx:v.L[i]? =some v.L[i]:=zq2 (by omega)
  rw[zB6,show ltI (i:Int) (v.L.length:Int)=true from zqb (by omega),zHg vnd v.L i (by omega)]
  by_cases h2:a<=400
  ·rw[show leI a 400=true from zqb h2,Bool.and_self,if_pos rfl,hx,zAs,chk64 (by omega) (by omega),zAs]
   obtain⟨w,h3,h4,h5⟩:=ih v.L[i] (List.getElem_mem _) a ha h2
   rw[h3,zAs]
   obtain⟨u,h6,h7,h8⟩:=ihn (i+1) k w (by omega) (by omega) h4
   refine⟨u,h6,h7,fun hu=>?_⟩
   have h9:=h8 hu
   have:w<=400:=by omega
   rw[h9,h5 this];omega
  ·rw[show leI a 400=false from decide_eq_false h2]
   exact⟨a,rfl,ha,fun h=>absurd h h2⟩
theorem huge_M(v:zLZ): ∀(fuel:Nat)(d c:Int),vwt v<=fuel->0<=d->d<=61->0<=c->c<=400->∃w:Int,zBp fuel v d c=some w∧0<=w∧(w<=400->w=c+vnd v):=by
 induction v using val_ind with
 |h v ih=>
  intro fuel d c hf hd hd2 hc hc2
  have hw:=zKO v
  obtain⟨g,rfl⟩: ∃g,fuel=g+1:=⟨fuel-1,by omega⟩
  obtain⟨hn,hn1⟩:=hugeNames_M v.Names (fuel:=g) (by omega)
  rw[zBp,chk64 (by omega) (by omega),zAs,hn1]
  have key: ∀b:Bool,(b=false->d<=60)->∃w:Int,(if b=true then (zCl (zBp g) v d g 1000 0).bind fun o34=>some o34 else (zB6 (zBp g) v d g (c+1) 0).bind fun o63=>some o63)=some w∧0<=w∧(w<=400->w=c+vnd v):=by
   intro b hb
   cases b with
   |true=>
    obtain⟨k,rfl⟩: ∃k,g=k+1:=⟨g-1,by omega⟩
    rw[if_pos rfl,zCl,show leI (1000:Int) 400=false from rfl,Bool.and_false]
    exact⟨1000,rfl,by omega,fun h=>by omega⟩
   |false=>
    obtain⟨w,h1,h2,h3⟩:=huge_loop v d g hd (hb rfl) (fun x hx c hc hc2=>ih x hx g (d+1) c (by have:=zHY hx;omega) (by omega) (by have:=hb rfl;omega) hc hc2) v.L.length 0 g (c+1) (by omega) (by omega) (by omega)
    rw[if_neg (by decide),h1,zAs]
    refine⟨w,rfl,h2,fun hv=>?_⟩
    rw[h3 hv,vnd_eq,List.drop_zero];omega
  split
  ·exact key true (fun h=>by cases h)
  ·rename_i h60
   have h60:d<=60:=by
    have:=ltF (by simpa using h60:ltI 60 d=false)
    omega
   split
   ·exact key true (fun h=>by cases h)
   ·split
    ·exact key true (fun h=>by cases h)
    ·split
     ·exact key true (fun h=>by cases h)
     ·rw[zAs,zAs];exact key hn (fun _=>h60)
theorem Huge_M(v:zLZ){fuel:Nat}(hf:vwt v<=fuel): ∃b,zFm fuel v=some b∧(b=false->vnd v<=400):=by
 obtain⟨w,h1,h2,h3⟩:=huge_M v fuel 1 0 hf (by omega) (by omega) (by omega) (by omega)
 rw[zFm,h1,zAs]
 refine⟨_,rfl,fun h=>?_⟩
 have:=ltF h
 have:=h3 this
 omega
theorem asc_loop(l:List (List UInt8)): ∀(n i k:Nat),i+n=l.length->n+1<=k->∃o,zAx l k (i+1)=some o:=by
 intro n
 induction n with
 |zero=>
  intro i k hi hk
  obtain⟨k,rfl⟩: ∃q,k=q+1:=⟨k-1,by omega⟩
  rw[zAx,if_neg (ltN (by omega))]
  exact⟨_,rfl⟩
 |succ n ihn=>
  intro i k hi hk
  obtain⟨k,rfl⟩: ∃q,k=q+1:=⟨k-1,by omega⟩
  rw[zAx]
  by_cases hlt:i+1<l.length
  ·have hx:l[i+1]? =some l[i+1]:=zq2 hlt
   have hy:idx l (((i+1:Nat):Int)-1)=some l[i]:=by
    rw[show((i+1:Nat):Int)-1=(i:Int) by omega,idxN];exact zq2 (by omega)
   rw[if_pos (ltP hlt),hy,zAs,hx,zAs]
   split
   ·exact⟨_,rfl⟩
   ·exact ihn (i+1) k (by omega) (by omega)
  ·rw[if_neg (ltN hlt)]
   exact⟨_,rfl⟩
theorem Ascending_M(l:List (List UInt8)){fuel:Nat}(hf:l.length+1<=fuel): ∃b,zA5 fuel l=some b:=by
 obtain⟨o,ho⟩:=asc_loop l l.length 0 fuel (by omega) hf
 rw[zA5,ho,zAs]
 cases o<;>exact⟨_,rfl⟩
theorem isLabel_loop(l:List UInt8): ∀(n i k:Nat),i+n=l.length->n+1<=k->∃o,zBd l k i=some o:=by
 intro n
 induction n with
 |zero=>
  intro i k hi hk
  obtain⟨k,rfl⟩: ∃q,k=q+1:=⟨k-1,by omega⟩
  rw[zBd,if_neg (ltN (by omega))]
  exact⟨_,rfl⟩
 |succ n ihn=>
  intro i k hi hk
  obtain⟨k,rfl⟩: ∃q,k=q+1:=⟨k-1,by omega⟩
  have hx:l[i]? =some l[i]:=zq2 (by omega)
  obtain⟨m,hm,_⟩:=of_M l[i]
  rw[zBd,if_pos (ltP (by omega)),hx,zAs,hm,zAs]
  split
  ·exact⟨_,rfl⟩
  ·exact ihn (i+1) k (by omega) (by omega)
theorem IsLabel_M(s:List UInt8){fuel:Nat}(hf:60<=fuel): ∃b,zCU fuel s=some b:=by
 rw[zCU]
 split
 ·exact⟨_,rfl⟩
 ·rename_i h
  have hl:s.length<=48:=by
   rw[Bool.or_eq_true] at h
   have: ¬ltI 48 (s.length:Int)=true:=fun h'=>h (.inr h')
   have:=ltF (by simpa using this:ltI 48 (s.length:Int)=false)
   omega
  rw[zLQ,if_pos (by omega),zAs]
  obtain⟨o,ho⟩:=isLabel_loop s s.length 0 fuel (by omega) (by omega)
  rw[ho,zAs]
  cases o<;>exact⟨_,rfl⟩
theorem labels_loop(fuel:Nat)(hf:60<=fuel)(l:List (List UInt8)): ∀(n i k:Nat),i+n=l.length->n+1<=k->∃o,zAW fuel l k i=some o:=by
 intro n
 induction n with
 |zero=>
  intro i k hi hk
  obtain⟨k,rfl⟩: ∃q,k=q+1:=⟨k-1,by omega⟩
  rw[zAW,if_neg (ltN (by omega))]
  exact⟨_,rfl⟩
 |succ n ihn=>
  intro i k hi hk
  obtain⟨k,rfl⟩: ∃q,k=q+1:=⟨k-1,by omega⟩
  have hx:l[i]? =some l[i]:=zq2 (by omega)
  obtain⟨b,hb⟩:=IsLabel_M l[i] hf
  rw[zAW,if_pos (ltP (by omega)),hx,zAs,zEi,hb,zAs,zAs]
  split
  ·exact⟨_,rfl⟩
  ·exact ihn (i+1) k (by omega) (by omega)
theorem labels_M(l:List (List UInt8)){fuel:Nat}(hf:60+l.length<=fuel): ∃b,zEj fuel l=some b∧(b=true->l.length<=1000):=by
 obtain⟨a,ha⟩:=Ascending_M l (fuel:=fuel) (by omega)
 obtain⟨o,ho⟩:=labels_loop fuel (by omega) l l.length 0 fuel (by omega) (by omega)
 have hc: ∃c,zA8 fuel l=some c:=by
  rw[zA8,zBk,ho,zAs]
  cases o<;>exact⟨_,rfl⟩
 obtain⟨c,hc⟩:=hc
 rw[zEj,ha,zAs,hc]
 by_cases h:l.length<=1000
 ·rw[if_pos (show leI (l.length:Int) 1000=true from zqb (by omega))]
  cases a<;>exact⟨_,rfl,fun _=>h⟩
 ·rw[if_neg (show¬leI (l.length:Int) 1000=true from fun h'=>h (by have:=leT h';omega))]
  exact⟨false,rfl,fun h=>by cases h⟩
def vnP(v:zLZ):Prop:=v.Names.length<=1000∧(v.Op=5->v.L.length=1)∧(v.Op=4->v.L.length=1)
theorem zIj(n s:Bool)(v:zLZ): ∃b,zBx n s false v=some b∧(b=true->v.Names.length<=1000):=by
 rw[zBx]
 refine⟨_,rfl,fun h=>?_⟩
 have:eqI (v.Names.length:Int) 0=true:=by
  cases n<;>cases s<;>simp only[Bool.false_or,zq7,if_true,if_false,Bool.false_eq_true] at h
  ·exact h.2.2
  ·exact h.2
  ·exact h.2
  ·exact h
 have:=eqT this
 omega
theorem nodeK{A B:Prop}{x R:Option Bool}(h1: ∃b,x=some b∧(b=true->A))(h2:A->∃b,R=some b∧(b=true->B)):
 ∃b,((x.bind fun y=>if y=true then R else some false).bind fun b=>some b)=some b∧(b=true->B):=by
 obtain⟨b,rfl,h1⟩:=h1
 cases b with
 |false=>exact⟨false,rfl,fun h=>by cases h⟩
 |true=>
  obtain⟨c,rfl,h3⟩:=h2 (h1 rfl)
  exact⟨c,rfl,h3⟩
theorem value_node_M(v:zLZ){fuel:Nat}(hf:60+v.Names.length<=fuel): ∃b,zFh fuel v=some b∧(b=true->vnP v):=by
 obtain⟨lb,hlb,hlb2⟩:=labels_M v.Names (fuel:=fuel) (by omega)
 obtain⟨il,hil⟩:=IsLabel_M v.S (fuel:=fuel) (by omega)
 have no: ∃b,(some false:Option Bool)=some b∧(b=true->vnP v):=⟨false,rfl,fun h=>by cases h⟩
 rw[zFh]
 by_cases h1:v.Op=1
 ·rw[if_pos (show eqI v.Op 1=true from zqb h1)]
  refine nodeK (zIj _ _ v) fun hnm=>?_
  have hP:vnP v:=⟨hnm,fun h=>by omega,fun h=>by omega⟩
  repeat' split
  all_goals exact⟨_,rfl,fun _=>hP⟩
 rw[if_neg (show¬eqI v.Op 1=true from fun h=>h1 (eqT h))]
 by_cases h2:v.Op=2
 ·rw[if_pos (show eqI v.Op 2=true from zqb h2)]
  refine nodeK (zIj _ _ v) fun hnm=>?_
  have hP:vnP v:=⟨hnm,fun h=>by omega,fun h=>by omega⟩
  repeat' split
  all_goals exact⟨_,rfl,fun _=>hP⟩
 rw[if_neg (show¬eqI v.Op 2=true from fun h=>h2 (eqT h))]
 by_cases h3:v.Op=3
 ·rw[if_pos (show eqI v.Op 3=true from zqb h3),zF1,zAs]
  split
  ·exact nodeK (zIj _ _ v) fun hnm=>⟨_,rfl,fun _=>⟨hnm,fun h=>by omega,fun h=>by omega⟩⟩
  ·refine nodeK (A:=True) ⟨_,rfl,fun _=>trivial⟩ fun _=>?_
   rw[hlb,zAs]
   cases lb with
   |true=>exact⟨_,rfl,fun _=>⟨hlb2 rfl,fun h=>by omega,fun h=>by omega⟩⟩
   |false=>exact no
 rw[if_neg (show¬eqI v.Op 3=true from fun h=>h3 (eqT h))]
 by_cases h4:v.Op=4
 ·rw[if_pos (show eqI v.Op 4=true from zqb h4),zFU,zAs]
  split
  ·refine nodeK (zIj _ _ v) fun hnm=>?_
   split
   ·rename_i hl
    have hl:=eqT hl
    have hP:vnP v:=⟨hnm,fun h=>by omega,fun h=>by omega⟩
    split
    all_goals exact⟨_,rfl,fun _=>hP⟩
   ·exact no
  ·refine nodeK (zIj _ _ v) fun hnm=>?_
   split
   ·rename_i hl
    have hl:=eqT hl
    rw[hil,zAs]
    exact⟨_,rfl,fun _=>⟨hnm,fun h=>by omega,fun h=>by omega⟩⟩
   ·exact no
 rw[if_neg (show¬eqI v.Op 4=true from fun h=>h4 (eqT h))]
 by_cases h5:v.Op=5
 ·rw[if_pos (show eqI v.Op 5=true from zqb h5)]
  exact nodeK (zIj _ _ v) fun hnm=>⟨_,rfl,fun h=>⟨hnm,fun _=>by have:=eqT h;omega,fun h=>by omega⟩⟩
 rw[if_neg (show¬eqI v.Op 5=true from fun h=>h5 (eqT h))]
 by_cases h6:v.Op=6
 ·rw[if_pos (show eqI v.Op 6=true from zqb h6)]
  exact nodeK (zIj _ _ v) fun hnm=>⟨_,rfl,fun h=>⟨hnm,fun _=>by omega,fun h=>by omega⟩⟩
 rw[if_neg (show¬eqI v.Op 6=true from fun h=>h6 (eqT h))]
 split
 ·exact nodeK (zIj _ _ v) fun hnm=>⟨_,rfl,fun h=>⟨hnm,fun _=>by omega,fun h=>by omega⟩⟩
 ·exact no
inductive Vok:zLZ->Prop
 |mk (v:zLZ) (h:vnP v) (hs: ∀x,x∈v.L->Vok x):Vok v
theorem Vok.here{v:zLZ}(h:Vok v):vnP v:=by cases h;assumption
theorem Vok.part{v x:zLZ}(h:Vok v)(hx:x∈v.L):Vok x:=by cases h with|mk _ _ hs=>exact hs x hx
theorem right_loop(v:zLZ)(d:Int)(F:zLZ->Int->Int->Option (Bool×Int))
 (ih: ∀x,x∈v.L->∀c:Int,(vnd x:Int)-1000000<=c->c<=20000->∃b c',F x d c=some (b,c')∧c-vnd x<=c'∧c'<=c∧(b=false->Vok x)):
 ∀(n i k:Nat)(c:Int),i+n=v.L.length->n+1<=k->(((v.L.drop i).map vnd).sum:Int)-1000000<=c->c<=20000->
  ∃o,zAU F v.L d k c i=some o∧((∃m c',o=.inl (m,c')∧0<=m∧c-((v.L.drop i).map vnd).sum<=c'∧c'<=c)∨(∃c',o=.inr c'∧c-((v.L.drop i).map vnd).sum<=c'∧c'<=c∧∀x,x∈v.L.drop i->Vok x)):=by
 intro n
 induction n with
 |zero=>
  intro i k c hi hk hc hc2
  obtain⟨k,rfl⟩: ∃q,k=q+1:=⟨k-1,by omega⟩
  rw[List.drop_eq_nil_of_le (by omega)]
  rw[zAU,if_neg (ltN (by omega))]
  exact⟨_,rfl,.inr ⟨c,rfl,by simp,by omega,fun x hx=>by cases hx⟩⟩
 |succ n ihn=>
  intro i k c hi hk hc hc2
  obtain⟨k,rfl⟩: ∃q,k=q+1:=⟨k-1,by omega⟩
  have hx:v.L[i]? =some v.L[i]:=zq2 (by omega)
  rw[zHg vnd v.L i (by omega)] at hc ⊢
  obtain⟨b,c',h1,h2,h3,h4⟩:=ih v.L[i] (List.getElem_mem _) c (by omega) hc2
  rw[zAU,if_pos (ltP (by omega)),hx,zAs,h1,zAs]
  cases b with
  |true=>exact⟨_,rfl,.inl ⟨_,c',rfl,by omega,by omega,h3⟩⟩
  |false=>
   simp only[Bool.false_eq_true,if_false]
   obtain⟨o,h5,h6⟩:=ihn (i+1) k c' (by omega) (by omega) (by omega) (by omega)
   refine⟨o,h5,?_⟩
   rcases h6 with ⟨m,c2,rfl,h7,h8,h9⟩|⟨c2,rfl,h7,h8,h9⟩
   ·exact .inl ⟨m,c2,rfl,h7,by omega,by omega⟩
   ·refine .inr ⟨c2,rfl,by omega,by omega,fun x hxm=>?_⟩
    rw[List.drop_eq_getElem_cons (by omega)] at hxm
    rcases List.mem_cons.1 hxm with rfl|hxm
    ·exact h4 rfl
    ·exact h9 x hxm
theorem right_M(v:zLZ): ∀(fuel:Nat)(d c:Int),vwt v<=fuel->0<=d->d<=400->(vnd v:Int)-1000000<=c->c<=20000->∃b c',zDV fuel v d c=some (b,c')∧c-vnd v<=c'∧c'<=c∧(b=true->Vok v):=by
 induction v using val_ind with
 |h v ih=>
  intro fuel d c hf hd hd2 hc hc2
  have hw:=zKO v
  have hp:=vnd_pos v
  have hve:=vnd_eq v
  obtain⟨g,rfl⟩: ∃g,fuel=g+3+1:=⟨fuel-4,by omega⟩
  obtain⟨nb,hn1,hn2⟩:=value_node_M v (fuel:=g+3) (by omega)
  rw[zDV,chk64 (by omega) (by omega),zAs,hn1]
  by_cases h1:c-1<0
  ·rw[if_pos (show ltI (c-1) 0=true from zqb h1),zAs,if_pos rfl]
   exact⟨false,c-1,rfl,by omega,by omega,fun h=>by cases h⟩
  rw[if_neg (show¬ltI (c-1) 0=true from fun h=>h1 (ltT h))]
  by_cases h2:d=0
  ·rw[if_pos (show eqI d 0=true from zqb h2),zAs,if_pos rfl]
   exact⟨false,c-1,rfl,by omega,by omega,fun h=>by cases h⟩
  rw[if_neg (show¬eqI d 0=true from fun h=>h2 (eqT h)),zAs,zAs]
  cases nb with
  |false=>exact⟨false,c-1,rfl,by omega,by omega,fun h=>by cases h⟩
  |true=>
   rw[if_neg (by decide),zA4,zBB]
   obtain⟨o,h5,h6⟩:=right_loop v d (zDG (g+1)) (fun x hx c hc hc2=>by
    obtain⟨b,c',h7,h8,h9,h10⟩:=ih x hx g (d-1) c (by have:=zHY hx;omega) (by omega) (by omega) hc hc2
    refine⟨!b,c',?_,h8,h9,fun h=>h10 (by simpa using h)⟩
    rw[zDG,chk64 (by omega) (by omega),zAs,h7,zAs]) v.L.length 0 (g+1) (c-1) (by omega) (by omega) (by rw[List.drop_zero];omega) (by omega)
   rw[List.drop_zero] at h6
   rw[h5,zAs]
   rcases h6 with ⟨m,c2,rfl,h7,h8,h9⟩|⟨c2,rfl,h7,h8,h9⟩
   ·refine⟨!(leI 0 m),c2,rfl,by omega,by omega,fun h=>?_⟩
    rw[show leI 0 m=true from zqb h7] at h;cases h
   ·exact⟨true,c2,rfl,by omega,by omega,fun _=>.mk v (hn2 rfl) h9⟩
theorem VValid_M(v:zLZ){fuel:Nat}(hf:vwt v<=fuel)(hs:vnd v<=400): ∃b,zCF fuel v=some b∧(b=true->Vok v):=by
 obtain⟨b,c',h1,_,_,h2⟩:=right_M v fuel 400 20000 hf (by omega) (by omega) (by omega) (by omega)
 rw[zCF,h1,zAs]
 exact⟨b,rfl,h2⟩
def Ev{α:Type}(f:Nat->Option α)(r:α):Prop:= ∃N,∀n,N<=n->f n=some r
def Tot{α:Type}(f:Nat->Option α)(Q:α->Prop):Prop:= ∃r,Ev f r∧Q r
theorem Ev.tot{α:Type}{f:Nat->Option α}{r:α}(h:Ev f r):Tot f (fun x=>x=r):=⟨r,h,rfl⟩
theorem Ev.of{α:Type}{f:Nat->Option α}{r:α}{K:Nat}(h: ∀n,K<=n->f n=some r):Ev f r:=⟨K,h⟩
theorem Tot.mono{α:Type}{f:Nat->Option α}{Q Q':α->Prop}(h:Tot f Q)(hq: ∀r,Q r->Q' r):Tot f Q':=by
 obtain⟨r,h1,h2⟩:=h;exact⟨r,h1,hq r h2⟩
theorem Tot.pure{α:Type}{r:α}{Q:α->Prop}(h:Q r):Tot (fun _=>some r) Q:=⟨r,⟨0,fun _ _=>rfl⟩,h⟩
theorem Tot.bind{α β:Type}{f:Nat->Option α}{g:Nat->α->Option β}{A:α->Prop}{Q:β->Prop}(h1:Tot f A)(h2: ∀a,A a->Tot (fun n=>g n a) Q):Tot (fun n=>(f n).bind (g n)) Q:=by
 obtain⟨a,⟨N,ha⟩,hA⟩:=h1
 obtain⟨b,⟨M,hb⟩,hQ⟩:=h2 a hA
 refine⟨b,⟨N+M,fun n hn=>?_⟩,hQ⟩
 show(f n).bind (g n)=some b
 rw[ha n (by omega),zAs];exact hb n (by omega)
theorem Tot.ev{α β:Type}{f:Nat->Option α}{g:Nat->α->Option β}{a:α}{Q:β->Prop}(h1:Ev f a)(h2:Tot (fun n=>g n a) Q):Tot (fun n=>(f n).bind (g n)) Q:=
 Tot.bind h1.tot fun x hx=>by subst hx;exact h2
theorem Tot.k{α β:Type}{x:Option α}{g:Nat->α->Option β}{a:α}{Q:β->Prop}(h1:x=some a)(h2:Tot (fun n=>g n a) Q):Tot (fun n=>x.bind (g n)) Q:=by
 subst h1;exact h2
theorem Tot.ite{α:Type}{c:Bool}{f g:Nat->Option α}{Q:α->Prop}(h1:c=true->Tot f Q)(h2:c=false->Tot g Q):Tot (fun n=>if c=true then f n else g n) Q:=by
 cases c with
 |true=>exact h1 rfl
 |false=>exact h2 rfl
theorem Tot.step{α:Type}{F G:Nat->Option α}{Q:α->Prop}(h: ∀n,F (n+1)=G n)(hg:Tot G Q):Tot F Q:=by
 obtain⟨r,⟨N,hN⟩,hq⟩:=hg
 refine⟨r,⟨N+1,fun n hn=>?_⟩,hq⟩
 obtain⟨m,rfl⟩: ∃m,n=m+1:=⟨n-1,by omega⟩
 rw[h];exact hN m (by omega)
theorem Tot.chk{β:Type}{x:Int}{g:Nat->Int->Option β}{Q:β->Prop}(h1: -9223372036854775808<=x)(h2:x<=9223372036854775807)(h:Tot (fun n=>g n x) Q):Tot (fun n=>(chk .i64 x).bind (g n)) Q:=Tot.k (chk64 h1 h2) h
theorem Tot.sum{α β:Type}{o:α ⊕ β}{g:Nat->β->Option α}{Q:α->Prop}(h1: ∀a,o=.inl a->Q a)(h2: ∀b,o=.inr b->Tot (fun n=>g n b) Q):Tot (fun n=>Sum.elim some (g n) o) Q:=by
 cases o with
 |inl a=>exact Tot.pure (h1 a rfl)
 |inr b=>exact h2 b rfl
theorem Tot.loop{α β γ:Type}(l:List α)(L:Nat->Nat->β->Nat->Option γ)(S:Nat->Nat->β->α->Option (γ ⊕ β))(E:β->γ)
 (hL: ∀n k b i,L n (k+1) b i=if ltI (i:Int) (l.length:Int)=true then (l[i]?).bind fun x=>(S n i b x).bind fun r=>Sum.elim some (fun b'=>L n k b' (i+1)) r else some (E b))
 (I:Nat->β->Prop) (R:γ->Prop)
 (hS: ∀i b x,l[i]? =some x->I i b->Tot (fun n=>S n i b x) (fun r=>(∀g,r=.inl g->R g)∧(∀b',r=.inr b'->I (i+1) b')))
 (hE: ∀b,I l.length b->R (E b)) (b0:β) (h0:I 0 b0):Tot (fun n=>L n n b0 0) R:=by
 have key: ∀m i b,i+m=l.length->I i b->∃g,R g∧∃N,∀n,N<=n->∀k,m<k->L n k b i=some g:=by
  intro m
  induction m with
  |zero=>
   intro i b hi hI
   refine⟨E b,hE b (by rw[<-hi];exact hI),0,fun n _ k hk=>?_⟩
   obtain⟨k,rfl⟩: ∃q,k=q+1:=⟨k-1,by omega⟩
   rw[hL,if_neg (ltN (by omega))]
  |succ m ih=>
   intro i b hi hI
   have hx:l[i]? =some l[i]:=zq2 (by omega)
   obtain⟨r,⟨N,hN⟩,q1,q2⟩:=hS i b l[i] hx hI
   cases r with
   |inl g=>
    refine⟨g,q1 g rfl,N,fun n hn k hk=>?_⟩
    obtain⟨k,rfl⟩: ∃q,k=q+1:=⟨k-1,by omega⟩
    rw[hL,if_pos (ltP (by omega)),hx,zAs,show S n i b l[i]=_ from hN n hn,zAs];rfl
   |inr b'=>
    obtain⟨g,hg,N',hN'⟩:=ih (i+1) b' (by omega) (q2 b' rfl)
    refine⟨g,hg,N+N',fun n hn k hk=>?_⟩
    obtain⟨k,rfl⟩: ∃q,k=q+1:=⟨k-1,by omega⟩
    rw[hL,if_pos (ltP (by omega)),hx,zAs,show S n i b l[i]=_ from hN n (by omega),zAs]
    exact hN' n (by omega) k (by omega)
 obtain⟨g,hg,N,hN⟩:=key l.length 0 b0 (by omega) h0
 exact⟨g,⟨N+l.length+1,fun n hn=>hN n (by omega) n (by omega)⟩,hg⟩
theorem Tot.loop1{α β γ:Type}(l:List α)(L:Nat->Nat->β->Nat->Option γ)(S:Nat->Nat->β->α->Option β)(E:β->γ)
 (hL: ∀n k b i,L n (k+1) b i=if ltI (i:Int) (l.length:Int)=true then (l[i]?).bind fun x=>(S n i b x).bind fun b'=>L n k b' (i+1) else some (E b))
 (I:Nat->β->Prop) (R:γ->Prop) (hS: ∀i b x,l[i]? =some x->I i b->Tot (fun n=>S n i b x) (fun b'=>I (i+1) b'))
 (hE: ∀b,I l.length b->R (E b)) (b0:β) (h0:I 0 b0):Tot (fun n=>L n n b0 0) R:=
 Tot.loop l L (fun n i b x=>(S n i b x).bind fun b'=>some (.inr b')) E (fun n k b i=>by
  rw[hL]
  split
  ·congr 1;funext x;cases S n i b x<;>rfl
  ·rfl) I R
  (fun i b x hx hI=>by
   refine Tot.bind (hS i b x hx hI) fun b' hb=>?_
   refine Tot.pure ?_
   exact⟨fun g hg=>(by cases hg),fun b'' h=>by cases h;exact hb⟩) hE b0 h0
def csz(c:zLd):Nat:=1+(c.L.map csz).sum
decreasing_by all_goals (cases c;simp only[zLd.mk.sizeOf_spec];have:=List.sizeOf_lt_of_mem ‹_›;simp only at this;omega)
theorem zGq(c:zLd):csz c=1+(c.L.map csz).sum:=by rw[csz]
theorem zCm{c x:zLd}(h:x∈c.L):csz x+1<=csz c:=by
 rw[zGq c];have:=le_sum csz h;omega
theorem zFx(c:zLd):1<=csz c:=by rw[zGq];omega
theorem zFy{T:zLd->Prop}(h: ∀c,(∀x,x∈c.L->T x)->T c): ∀c,T c:=by
 have key: ∀n c,csz c<=n->T c:=by
  intro n
  induction n with
  |zero=>intro c hc;have:=zFx c;omega
  |succ n ih=>exact fun c hc=>h c fun x hx=>ih x (by have:=zCm hx;omega)
 exact fun c=>key (csz c) c (Nat.le_refl _)
theorem len_csz(c:zLd):c.L.length+1<=csz c:=by
 rw[zGq]
 have:c.L.length<=(c.L.map csz).sum:=by
  induction c.L with
  |nil=>simp
  |cons x l ih=>simp only[List.length_cons,List.map_cons,List.sum_cons];have:=zFx x;omega
 omega
def ksz(k:zLb):Nat:=1+(k.L.map ksz).sum
decreasing_by all_goals (cases k;simp only[zLb.mk.sizeOf_spec];have:=List.sizeOf_lt_of_mem ‹_›;simp only at this;omega)
theorem ksz_eq(k:zLb):ksz k=1+(k.L.map ksz).sum:=by rw[ksz]
theorem ksz_mem{k x:zLb}(h:x∈k.L):ksz x+1<=ksz k:=by
 rw[ksz_eq k];have:=le_sum ksz h;omega
theorem ksz_pos(k:zLb):1<=ksz k:=by rw[ksz_eq];omega
theorem zLE{T:zLb->Prop}(h: ∀c,(∀x,x∈c.L->T x)->T c): ∀c,T c:=by
 have key: ∀n c,ksz c<=n->T c:=by
  intro n
  induction n with
  |zero=>intro c hc;have:=ksz_pos c;omega
  |succ n ih=>exact fun c hc=>h c fun x hx=>ih x (by have:=ksz_mem hx;omega)
 exact fun c=>key (ksz c) c (Nat.le_refl _)
theorem zDR{α:Type}(f:α->Nat)(l:List α)(i:Nat)(x:α)(h:l[i]? =some x):((l.take (i+1)).map f).sum=((l.take i).map f).sum+f x:=by
 rw[List.take_add_one,h];simp
theorem zHJ{α:Type}(f:α->Nat)(l:List α)(i:Nat):((l.take i).map f).sum<=(l.map f).sum:=by
 conv=>rhs;rw[<-List.take_append_drop i l,List.map_append,List.sum_append]
 omega
theorem Size_T(c:zLd):csz c<=1000000000000->Tot (fun n=>zCN n c) (fun r=>r=csz c):=by
 induction c using zFy with
 |h c ih=>
 intro hc
 refine Tot.step (fun n=>by rw[zCN]) ?_
 refine Tot.bind (A:=fun r=>r=(csz c:Int)) ?_ (fun a ha=>?_)
 rotate_left
 ·exact Tot.pure ha
 refine Tot.loop1 c.L (fun n k b i=>zDH (zCN n) c k b i) (fun n i b x=>(zCN n x).bind fun v=>chk .i64 (b+v)) (fun b=>b)
  (fun n k b i=>by rw[zDH];simp only[Option.bind_assoc]) (fun i b=>b=1+(((c.L.take i).map csz).sum:Nat)) (fun r=>r=csz c) ?_ (fun b hb=>?_) 1 (by simp)
 ·intro i b x hx hb
  have hm:=zq3 hx
  have h1:=zCm hm
  have h2:=zHJ csz c.L (i+1)
  have h3:=zGq c
  refine Tot.bind (ih x hm (by omega)) fun v hv=>?_
  rw[zDR csz _ _ _ hx] at h2 ⊢
  exact⟨b+v,⟨0,fun n _=>chk64 (by omega) (by omega)⟩,by omega⟩
 ·rw[hb,List.take_length,zGq c];simp
theorem depth_T(c:zLd):csz c<=1000000000000->Tot (fun n=>zCs n c) (fun r=>0<=r∧r<=csz c):=by
 induction c using zFy with
 |h c ih=>
 intro hc
 refine Tot.step (fun n=>by rw[zCs]) ?_
 refine Tot.bind (A:=fun r=>0<=r∧r+1<=(csz c:Int)) ?_ (fun a ha=>?_)
 rotate_left
 ·refine Tot.chk (by omega) (by omega) ?_
  exact Tot.pure ⟨by omega,by omega⟩
 refine Tot.loop1 c.L (fun n k b i=>zC3 (zCs n) c k b i) (fun n i b x=>(zCs n x).bind fun v=>some (maxI b v)) (fun b=>b)
  (fun n k b i=>by rw[zC3];simp only[Option.bind_assoc,zAs]) (fun i b=>0<=b∧b+1<=(csz c:Int)) _ ?_ (fun b hb=>hb) 0 (by have:=zFx c;omega)
 intro i b x hx hb
 have hm:=zq3 hx
 have h1:=zCm hm
 refine Tot.bind (ih x hm (by omega)) fun v hv=>?_
 refine Tot.pure ?_
 unfold maxI
 split<;>omega
theorem nsize_T(c:zLd):csz c<=1000000000000->Tot (fun n=>zCw n c) (fun r=>r.1=csz c∧0<=r.2∧r.2<=csz c):=by
 induction c using zFy with
 |h c ih=>
 intro hc
 refine Tot.step (fun n=>by rw[zCw]) ?_
 refine Tot.bind (A:=fun r=>r.2=(csz c:Int)∧0<=r.1∧r.1+1<=(csz c:Int)) ?_ (fun a ha=>?_)
 rotate_left
 ·refine Tot.chk (by omega) (by omega) ?_
  exact Tot.pure ⟨ha.1,by omega,by omega⟩
 refine Tot.loop1 c.L (fun n k (b:Int×Int) i=>zC5 (zCw n) c k b.1 b.2 i) (fun n i b x=>(zCw n x).bind fun v=>(chk .i64 (b.1+v.1)).bind fun m=>some (m,maxI b.2 v.2)) (fun b=>(b.2,b.1))
  (fun n k b i=>by rw[zC5];simp only[Option.bind_assoc,zAs]) (fun i b=>b.1=1+(((c.L.take i).map csz).sum:Nat)∧0<=b.2∧b.2+1<=(csz c:Int)) _ ?_ (fun b hb=>⟨?_,hb.2⟩) (1,0) (by have:=zFx c;simp;omega)
 ·intro i b x hx hb
  have hm:=zq3 hx
  have h1:=zCm hm
  have h2:=zHJ csz c.L (i+1)
  have h3:=zGq c
  refine Tot.bind (ih x hm (by omega)) fun v hv=>?_
  rw[zDR csz _ _ _ hx] at h2 ⊢
  refine Tot.chk (by omega) (by omega) ?_
  refine Tot.pure ⟨?_,?_⟩
  ·simp only;omega
  ·unfold maxI
   simp only
   split<;>omega
 ·have h4:=hb.1
  rw[List.take_length] at h4
  rw[zGq c];simp only;omega
theorem ksize_T(k:zLb): ∀(left d:Int),-100000<=left->left<=100000->0<=d->d<=500->Tot (fun n=>zDh n k left d) (fun r=>0<=r.1∧(r.2=true->1<=r.1∧r.1<=left∧ksz k=r.1)):=by
 induction k using zLE with
 |h k ih=>
 intro left d h1 h2 h3 h4
 refine Tot.step (fun n=>by rw[zDh]) ?_
 refine Tot.ite (fun hc=>Tot.pure ⟨by simp,fun h=>by cases h⟩) (fun hc=>?_)
 simp only[Bool.or_eq_false_iff] at hc
 have hl:=leF hc.1
 have hd:=ltF hc.2.1
 refine Tot.bind (A:=fun r=>(∀g,r=.inl g->g=((0:Int),false))∧∀b,r=.inr b->1<=b∧b<=left∧(ksz k:Int)=b) ?_ (fun o ho=>?_)
 rotate_left
 ·refine Tot.sum (fun a ha=>?_) (fun b hb=>?_)
  ·rw[ho.1 a ha];exact⟨by simp,fun h=>by cases h⟩
  ·have:=ho.2 b hb
   exact Tot.pure ⟨by simp only;omega,fun _=>this⟩
 refine Tot.loop k.L (fun n kk b i=>zDZ (zDh n) k left d kk b i)
  (fun n i b x=>(chk .i64 (left-b)).bind fun m=>(chk .i64 (d+1)).bind fun e=>(zDh n x m e).bind fun v=>if (!v.2)=true then some (.inl (.inl (0,false))) else (chk .i64 (b+v.1)).bind fun q=>some (.inr q)) .inr
  (fun n kk b i=>by
   rw[zDZ]
   simp only[Option.bind_assoc]
   split
   ·congr 1;funext x;congr 1;funext m;congr 1;funext e;congr 1;funext v
    split
    ·rfl
    ·simp only[Option.bind_assoc,zAs];rfl
   ·rfl) (fun i b=>1<=b∧b<=left∧b=1+(((k.L.take i).map ksz).sum:Nat)) _ ?_ (fun b hb=>⟨fun g hg=>(by cases hg),fun b' hb'=>?_⟩) 1 (by simp;omega)
 ·intro i b x hx hb
  have hm:=zq3 hx
  refine Tot.chk (by omega) (by omega) (Tot.chk (by omega) (by omega) ?_)
  refine Tot.bind (ih x hm (left-b) (d+1) (by omega) (by omega) (by omega) (by omega)) fun v hv=>?_
  refine Tot.ite (fun hc=>Tot.pure ⟨fun g hg=>?_,fun b' hb'=>by cases hb'⟩) (fun hc=>?_)
  ·cases hg;exact⟨fun g hg=>(by cases hg;rfl),fun b hb=>(by cases hb)⟩
  ·have hv2:=hv.2 (by simpa using hc)
   refine Tot.chk (by omega) (by omega) (Tot.pure ⟨fun g hg=>(by cases hg),fun b' hb'=>?_⟩)
   cases hb'
   rw[zDR ksz _ _ _ hx]
   omega
 ·cases hb'
  obtain⟨h5,h6,h7⟩:=hb
  rw[List.take_length] at h7
  rw[ksz_eq k]
  exact⟨h5,h6,by omega⟩
theorem KValid_T(k:zLb):Tot (fun n=>zDu n k) (fun b=>b=true->ksz k<=20000):=by
 unfold zDu
 refine Tot.bind (ksize_T k 20000 1 (by decide) (by decide) (by decide) (by decide)) fun v hv=>Tot.pure fun h=>?_
 have:=hv.2 h
 omega
theorem Tot.index{α:Type}(l:List α)(L:Nat->Nat->Nat->Option (Int ⊕ Unit))(F:Nat->α->Option Bool)
 (hL: ∀n k i,L n (k+1) i=if ltI (i:Int) (l.length:Int)=true then (l[i]?).bind fun x=>(F n x).bind fun v=>if v=true then some (.inl (i:Int)) else L n k (i+1) else some (.inr ()))
 (P T:α->Prop) (hF: ∀x,x∈l->Tot (fun n=>F n x) (fun b=>(b=false->P x)∧(b=true->T x))):
 Tot (fun n=>L n n 0) (fun o=>(∀i,o=.inl i->0<=i∧∃x,x∈l∧T x)∧(∀u,o=.inr u->∀x,x∈l->P x)):=by
 refine Tot.loop l (fun n k (b:Unit) i=>L n k i) (fun n i b x=>(F n x).bind fun v=>if v=true then some (.inl (.inl (i:Int))) else some (.inr ())) (fun _=>.inr ())
  (fun n k b i=>by
   rw[hL]
   split
   ·congr 1;funext x
    rw[Option.bind_assoc]
    congr 1;funext v
    split<;>rfl
   ·rfl) (fun i _=> ∀j x,j<i->l[j]? =some x->P x) _ ?_ (fun b hb=>⟨fun i hi=>(by cases hi),fun u _ x hx=>?_⟩) () (fun j x hj=>(by omega))
 ·intro i b x hx hb
  refine Tot.bind (hF x (zq3 hx)) fun v hv=>?_
  refine Tot.ite (fun hc=>Tot.pure ⟨fun g hg=>?_,fun b' hb'=>(by cases hb')⟩) (fun hc=>Tot.pure ⟨fun g hg=>(by cases hg),fun b' hb' j y hj hy=>?_⟩)
  ·cases hg
   exact⟨fun i' hi'=>(by cases hi';exact⟨by omega,x,zq3 hx,hv.2 hc⟩),fun u hu=>(by cases hu)⟩
  ·by_cases hji:j=i
   ·subst hji;rw[hx] at hy;cases hy;exact hv.1 hc
   ·exact hb j y (by omega) hy
 ·obtain⟨j,hj,rfl⟩:=List.getElem_of_mem hx
  exact hb j _ hj (zq2 hj)
theorem zGH{P T:Prop}{f:Nat->Option (Int ⊕ Unit)}{α:Type}{l:List α}{Q R:α->Prop}(h:Tot f (fun o=>(∀i,o=.inl i->0<=i∧∃x,x∈l∧R x)∧(∀u,o=.inr u->∀x,x∈l->Q x))):
 Tot (fun n=>(f n).bind fun o=>Sum.elim some (fun _=>some (-1)) o) (fun i=>(leI 0 i=false->∀x,x∈l->Q x)∧(leI 0 i=true->∃x,x∈l∧R x)):=by
 refine Tot.bind h fun o ho=>?_
 refine Tot.sum (fun a ha=>?_) (fun b hb=>Tot.pure ?_)
 ·have:=ho.1 a ha
  exact⟨fun h=>by have:=leF h;omega,fun _=>this.2⟩
 ·exact⟨fun _=>ho.2 b hb,fun h=>by have:=leT h;omega⟩
structure okN (c:zLd):Prop where
 parts:zCr c=some (c.L.length:Int)
 n0:0<=c.N
 n1:c.N<=20000
 names:c.Names.length<=1000
 str:c.S.length<=48
 kind:ksz c.Kind<=20000
 lab:c.Names=[]∨zBN c=some true
inductive Fm:zLd->Prop
 |mk (c:zLd) (h:okN c) (hs: ∀x,x∈c.L->Fm x):Fm c
theorem Fm.here{c:zLd}(h:Fm c):okN c:=by cases h;assumption
theorem Fm.part{c x:zLd}(h:Fm c)(hx:x∈c.L):Fm x:=by cases h with|mk _ _ hs=>exact hs x hx
inductive Sh:zLd->Prop
 |mk (c:zLd) (h:c.S.length<=100000) (hs: ∀x,x∈c.L->Sh x):Sh c
theorem Sh.here{c:zLd}(h:Sh c):c.S.length<=100000:=by cases h;assumption
theorem Sh.part{c x:zLd}(h:Sh c)(hx:x∈c.L):Sh x:=by cases h with|mk _ _ hs=>exact hs x hx
theorem Fm.sh{c:zLd}(h:Fm c):Sh c:=by
 induction h with
 |mk c h hs ih=>exact .mk c (by have:=h.str;omega) ih
theorem parts_ex(c:zLd): ∃v,zCr c=some v:=by
 unfold zCr
 split
 ·exact⟨_,rfl⟩
 ·unfold zBN zBO
  simp only[zAs]
  split
  ·exact⟨_,rfl⟩
  ·split
   ·exact⟨_,rfl⟩
   ·split<;>exact⟨_,rfl⟩
theorem cut_le(s t:List UInt8):(Lib.cut s t).1.length<=s.length∧(Lib.cut s t).2.1.length<=s.length:=by
 unfold Lib.cut
 split
 ·simp;omega
 ·simp
theorem Number_T(s:List UInt8)(hs:s.length<=1000000):Tot (fun n=>zEp n s) (fun _=>True):=by
 unfold zEp
 have h1: ∃b,(if eqS s ([]:List UInt8)=true then some true else if ltI 1 (s.length:Int)=true then (s[0]?).bind fun c6=>some (eqI (c6.toNat:Int) 48) else some false:Option Bool)=some b:=by
  split
  ·exact⟨_,rfl⟩
  ·split
   ·rename_i h
    have:=ltT h
    rw[zq2 (show 0<s.length by omega)]
    exact⟨_,rfl⟩
   ·exact⟨_,rfl⟩
 obtain⟨b,hb⟩:=h1
 refine Tot.k hb ?_
 refine Tot.ite (fun _=>Tot.pure trivial) (fun _=>?_)
 refine Tot.k (a:=s) (by rw[zLQ,if_pos (by omega)]) ?_
 have hE:Tot (fun n=>zCI s n 0) (fun _=>True):=by
  refine Tot.mono (Tot.loop s (fun n k (b:Unit) i=>zCI s k i) (fun n i b x=>(zDd x).bind fun v=>if (!(eqI v 3))=true then some (.inl (.inl (0,3))) else some (.inr ())) (fun _=>.inr ()) (fun n k b i=>?_) (fun _ _=>True) (fun _=>True) ?_ (fun _ _=>trivial) () trivial) fun _ h=>h
  ·rw[zCI]
   split
   ·congr 1;funext x
    rw[Option.bind_assoc]
    congr 1;funext v
    split<;>rfl
   ·rfl
  ·intro i b x hx _
   obtain⟨m,hm,_⟩:=of_M x
   refine Tot.k hm ?_
   exact Tot.ite (fun _=>Tot.pure ⟨fun _ _=>trivial,fun _ _=>trivial⟩) (fun _=>Tot.pure ⟨fun _ _=>trivial,fun _ _=>trivial⟩)
 refine Tot.bind hE fun o _=>?_
 refine Tot.sum (fun _ _=>trivial) (fun b hb=>?_)
 have h2: ∃r,zEm s=some r:=by
  unfold zEm
  rw[if_pos hs]
  split<;>exact⟨_,rfl⟩
 obtain⟨r,hr⟩:=h2
 refine Tot.k hr ?_
 refine Tot.ite (fun _=>Tot.pure trivial) (fun _=>Tot.ite (fun _=>Tot.pure trivial) (fun _=>Tot.pure trivial))
theorem constant_T(s:List UInt8)(hs:s.length<=100000):Tot (fun n=>zCZ n s) (fun b=>b=true->s.length<=48):=by
 unfold zCZ
 refine Tot.k (a:=Lib.cut s [46]) (by rw[zFJ,if_pos (by omega)]) ?_
 have hc:=cut_le s [46]
 refine Tot.bind (Number_T _ (by omega)) fun v _=>?_
 refine Tot.bind (A:=fun b=>b=true->s.length<=48) ?_ (fun b hb=>Tot.pure hb)
 refine Tot.ite (fun _=>Tot.ite (fun h=>?_) (fun _=>Tot.pure fun h=>by cases h)) (fun _=>Tot.pure fun h=>by cases h)
 have hl:=leT h
 refine Tot.bind (Ev.of (K:=30) fun n hn=>IsUpper_M _ hn).tot fun b _=>?_
 exact Tot.ite (fun _=>Tot.pure fun _=>by omega) (fun _=>Tot.pure fun h=>by cases h)
theorem asc_T(l:List (List UInt8)):Tot (fun n=>zA5 n l) (fun _=>True):=by
 have key: ∀n i,i+n=l.length->∃o,∀k,n+1<=k->zAx l k (i+1)=some o:=by
  intro n
  induction n with
  |zero=>
   intro i hi
   refine⟨.inr (),fun k hk=>?_⟩
   obtain⟨k,rfl⟩: ∃q,k=q+1:=⟨k-1,by omega⟩
   rw[zAx,if_neg (ltN (by omega))]
  |succ n ihn=>
   intro i hi
   by_cases hlt:i+1<l.length
   ·have hx:l[i+1]? =some l[i+1]:=zq2 hlt
    have hy:idx l (((i+1:Nat):Int)-1)=some l[i]:=by
     rw[show((i+1:Nat):Int)-1=(i:Int) by omega,idxN];exact zq2 (by omega)
    obtain⟨o,ho⟩:=ihn (i+1) (by omega)
    cases hc:ltS l[i] l[i+1] with
    |false=>
     refine⟨.inl false,fun k hk=>?_⟩
     obtain⟨k,rfl⟩: ∃q,k=q+1:=⟨k-1,by omega⟩
     rw[zAx,if_pos (ltP hlt),hy,zAs,hx,zAs,hc];rfl
    |true=>
     refine⟨o,fun k hk=>?_⟩
     obtain⟨k,rfl⟩: ∃q,k=q+1:=⟨k-1,by omega⟩
     rw[zAx,if_pos (ltP hlt),hy,zAs,hx,zAs,hc]
     exact ho k (by omega)
   ·refine⟨.inr (),fun k hk=>?_⟩
    obtain⟨k,rfl⟩: ∃q,k=q+1:=⟨k-1,by omega⟩
    rw[zAx,if_neg (ltN hlt)]
 obtain⟨o,ho⟩:=key l.length 0 (by omega)
 unfold zA5
 refine Tot.bind (Ev.of (K:=l.length+1) fun n hn=>ho n hn).tot fun o' _=>?_
 exact Tot.sum (fun _ _=>trivial) (fun b hb=>Tot.pure trivial)
theorem label_T(s:List UInt8):Tot (fun n=>zCU n s) (fun _=>True):=by
 unfold zCU
 refine Tot.ite (fun _=>Tot.pure trivial) (fun h=>?_)
 rw[Bool.or_eq_false_iff] at h
 have:=ltF h.2
 refine Tot.k (a:=s) (by rw[zLQ,if_pos (by omega)]) ?_
 refine Tot.bind (A:=fun _=>True) ?_ fun o _=>Tot.sum (fun _ _=>trivial) (fun b hb=>Tot.pure trivial)
 refine Tot.loop s (fun n k (b:Unit) i=>zBd s k i) (fun n i b x=>(zDd x).bind fun v=>if eqI v 0=true then some (.inl (.inl false)) else some (.inr ())) (fun _=>.inr ()) (fun n k b i=>?_) (fun _ _=>True) (fun _=>True) ?_ (fun _ _=>trivial) () trivial
 ·rw[zBd]
  split
  ·congr 1;funext x
   rw[Option.bind_assoc]
   congr 1;funext v
   split<;>rfl
  ·rfl
 ·intro i b x hx _
  obtain⟨m,hm,_⟩:=of_M x
  refine Tot.k hm ?_
  exact Tot.ite (fun _=>Tot.pure ⟨fun _ _=>trivial,fun _ _=>trivial⟩) (fun _=>Tot.pure ⟨fun _ _=>trivial,fun _ _=>trivial⟩)
theorem labels_T(l:List (List UInt8)):Tot (fun n=>zAI n l) (fun _=>True):=by
 unfold zAI zBm
 refine Tot.bind (zGH (Q:=fun _=>True) (R:=fun _=>True) (P:=True) (T:=True) (Tot.index l (fun n k i=>zAi n l k i) (fun n x=>zDq n x) (fun n k i=>by rw[zAi]) _ _ fun x hx=>?_)) fun v _=>Tot.pure trivial
 unfold zDq
 exact Tot.bind (label_T x) fun v _=>Tot.pure ⟨fun _=>trivial,fun _=>trivial⟩
theorem zIU(c:zLd)(hl:c.S.length<=100000)(hparts:Tot (fun n=>zAM n c.L) (fun b=>b=false->∀x,x∈c.L->Fm x))(hpar:zCr c=some (c.L.length:Int))(h1:0<=c.N)(h2:c.N<=20000):
 Tot (fun fuel=>
  (if eqI c.Op 2 then
   (zCZ fuel c.S).bind fun v21=>
   if !v21 then
    some true
   else
    some false
  else
   some (!(eqS c.S ([]:List UInt8))):Option Bool).bind fun b27=>
  if b27 then
   some false
  else
   ((zBO c).bind fun v30=>
   if v30 then
    some true
   else
    some (eqI c.Op 2):Option Bool).bind fun b33=>
   (if b33 then
    (zDu fuel c.Kind).bind fun v36=>
    if !v36 then
     some true
    else
     some false
   else
    some (ltI 0 (c.Kind.L.length:Int)):Option Bool).bind fun b41=>
   if b41 then
    some false
   else
    (if ltI 0 (c.Names.length:Int) then
     (zBN c).bind fun v47=>
     if !v47 then
      some true
     else if ltI 1000 (c.Names.length:Int) then
      some true
     else
      (zA5 fuel c.Names).bind fun v55=>
      if !v55 then
       some true
      else
       (zAI fuel c.Names).bind fun v60=>
       some v60
    else if ltI 1000 (c.Names.length:Int) then
     some true
    else
     (zA5 fuel c.Names).bind fun v67=>
     if !v67 then
      some true
     else
      (zAI fuel c.Names).bind fun v72=>
      some v72:Option Bool).bind fun b74=>
    if b74 then
     some false
    else
     ((zAM fuel) c.L).bind fun v77=>
     some (!v77)) (fun b=>b=true->Fm c):=by
 refine Tot.bind (A:=fun b=>b=false->c.S.length<=48) ?_ (fun b hb=>?_)
 ·refine Tot.ite (fun _=>?_) (fun _=>?_)
  ·refine Tot.bind (constant_T _ (by first|assumption|omega)) fun v hv=>?_
   exact Tot.ite (fun h=>Tot.pure fun h=>by cases h) (fun h=>Tot.pure fun _=>hv (notF h))
  ·refine Tot.pure fun h=>?_
   have h:=notF (b:=eqS c.S []) (by simpa using h)
   rw[of_decide_eq_true h];simp
 refine Tot.ite (fun _=>Tot.pure fun h=>by cases h) (fun hb0=>?_)
 have hstr:=hb hb0
 refine Tot.bind (A:=fun _=>True) ?_ (fun b _=>?_)
 ·unfold zBO
  refine Tot.k rfl (Tot.ite (fun _=>Tot.pure trivial) (fun _=>Tot.pure trivial))
 refine Tot.bind (A:=fun b=>b=false->ksz c.Kind<=20000) ?_ (fun b hb=>?_)
 ·refine Tot.ite (fun _=>?_) (fun _=>?_)
  ·refine Tot.bind (KValid_T _) fun v hv=>?_
   exact Tot.ite (fun h=>Tot.pure fun h=>by cases h) (fun h=>Tot.pure fun _=>hv (notF h))
  ·refine Tot.pure fun h=>?_
   have h:=ltF h
   rw[ksz_eq,List.eq_nil_of_length_eq_zero (l:=c.Kind.L) (by omega)];simp
 refine Tot.ite (fun _=>Tot.pure fun h=>by cases h) (fun hb0=>?_)
 have hkind:=hb hb0
 refine Tot.bind (A:=fun b=>b=false->c.Names.length<=1000∧(c.Names=[]∨zBN c=some true)) ?_ (fun b hb=>?_)
 ·refine Tot.ite (fun _=>?_) (fun h0=>?_)
  ·refine Tot.k (a:=eqI c.Op 7||eqI c.Op 8) rfl (Tot.ite (fun _=>Tot.pure fun h=>by cases h) (fun hlb=>Tot.ite (fun _=>Tot.pure fun h=>by cases h) (fun h=>?_)))
   have h:=ltF h
   have hlb:=notF hlb
   refine Tot.bind (asc_T _) fun v _=>Tot.ite (fun _=>Tot.pure fun h=>by cases h) (fun _=>Tot.bind (labels_T _) fun v _=>Tot.pure fun _=>⟨by omega,.inr (by unfold zBN;rw[hlb])⟩)
  ·have h0:=ltF h0
   refine Tot.ite (fun _=>Tot.pure fun h=>by cases h) (fun h=>?_)
   have h:=ltF h
   refine Tot.bind (asc_T _) fun v _=>Tot.ite (fun _=>Tot.pure fun h=>by cases h) (fun _=>Tot.bind (labels_T _) fun v _=>Tot.pure fun _=>⟨by omega,.inl (List.eq_nil_of_length_eq_zero (by omega))⟩)
 refine Tot.ite (fun _=>Tot.pure fun h=>by cases h) (fun hb0=>?_)
 have hnames:=hb hb0
 refine Tot.bind hparts fun v hv=>Tot.pure fun h=>?_
 exact .mk _ ⟨hpar,by omega,by omega,hnames.1,hstr,hkind,hnames.2⟩ (hv (by simpa using h))
theorem formed_T(c:zLd):Sh c->Tot (fun n=>zDE n c) (fun b=>b=true->Fm c):=by
 induction c using zFy with
 |h c ih=>
 intro hs
 have hl:=hs.here
 have hparts:Tot (fun n=>zAM n c.L) (fun b=>b=false->∀x,x∈c.L->Fm x):=by
  refine Tot.step (fun n=>by rw[zAM]) ?_
  refine Tot.bind (A:=fun i=>(leI 0 i=false->∀x,x∈c.L->Fm x)∧(leI 0 i=true->∃x,x∈c.L∧True)) ?_ (fun v hv=>Tot.pure hv.1)
  refine Tot.step (fun n=>by rw[zBF]) ?_
  refine zGH (P:=True) (T:=True) (Tot.index c.L (fun n k i=>zAe (zCY n) c.L k i) (fun n x=>zCY n x) (fun n k i=>by rw[zAe]) _ _ fun x hx=>?_)
  refine Tot.step (fun n=>by rw[zCY]) ?_
  refine Tot.bind (ih x hx (hs.part hx)) fun v hv=>Tot.pure ⟨fun h=>hv (notF h),fun _=>trivial⟩
 obtain⟨v,hv⟩:=parts_ex c
 refine Tot.step (fun n=>by rw[zDE]) ?_
 refine Tot.k hv ?_
 refine Tot.ite (fun _=>Tot.pure fun h=>by cases h) (fun hp=>?_)
 have hp:=eqT (notF hp)
 rw[<-hp] at hv
 refine Tot.ite (fun _=>?_) (fun _=>?_)
 ·refine Tot.ite (fun _=>Tot.pure fun h=>by cases h) (fun h=>?_)
  rw[Bool.or_eq_false_iff] at h
  have h1:=ltF h.1
  have h2:=ltF h.2
  exact zIU c hl hparts hv h1 h2
 ·refine Tot.ite (fun _=>?_) (fun _=>?_)
  ·refine Tot.ite (fun _=>Tot.pure fun h=>by cases h) (fun h=>?_)
   rw[Bool.or_eq_false_iff] at h
   have h1:=ltF h.1
   have h2:=ltF h.2
   exact zIU c hl hparts hv h1 h2
  ·refine Tot.ite (fun _=>Tot.pure fun h=>by cases h) (fun h=>?_)
   have h1:=eqT (notF h)
   exact zIU c hl hparts hv (by omega) (by omega)
theorem zHx(c:zLd)(h:csz c<=1000000000000)(hs:Sh c):Tot (fun n=>zBZ n c) (fun b=>b=true->Fm c∧csz c<=20000):=by
 unfold zBZ
 refine Tot.bind (A:=fun b=>b=true->Fm c∧csz c<=20000) ?_ fun b hb=>Tot.pure hb
 refine Tot.bind (Size_T c h) fun v hv=>Tot.ite (fun hl=>?_) (fun _=>Tot.pure fun h=>by cases h)
 have hl:=leT hl
 refine Tot.bind (depth_T c h) fun d hd=>Tot.ite (fun _=>?_) (fun _=>Tot.pure fun h=>by cases h)
 exact Tot.bind (formed_T c hs) fun b hb=>Tot.pure fun h=>⟨hb h,by omega⟩
theorem CAll_T(l:List zLd)(h: ∀x,x∈l->csz x<=1000000000000∧Sh x):Tot (fun n=>zGJ n l) (fun b=>b=true->∀x,x∈l->Fm x∧csz x<=20000):=by
 unfold zGJ zBc zBz
 refine Tot.bind (A:=fun v=>v=false->∀x,x∈l->Fm x∧csz x<=20000) ?_ fun v hv=>Tot.pure fun h=>hv (by simpa using h)
 refine Tot.bind (zGH (Q:=fun x=>Fm x∧csz x<=20000) (R:=fun _=>True) (P:=True) (T:=True) (Tot.index l (fun n k i=>zAn n l k i) (fun n x=>zFH n x) (fun n k i=>by rw[zAn]) _ _ fun x hx=>?_)) fun v hv=>Tot.pure hv.1
 unfold zFH
 exact Tot.bind (zHx x (h x hx).1 (h x hx).2) fun v hv=>Tot.pure ⟨fun h=>hv (by simpa using h),fun _=>trivial⟩
theorem map_take_succ{α β:Type}(f:α->β)(l:List α)(i:Nat)(x:α)(h:l[i]? =some x):(l.take (i+1)).map f=(l.take i).map f++[f x]:=by
 rw[List.take_add_one,h];simp
theorem kindEta(k:zLb):zLb.mk k.L=k:=by cases k;rfl
theorem zLF(k:zLb):ksz k<=1000000->Tot (fun n=>zBy n k) (fun r=>r=k):=by
 induction k using zLE with
 |h k ih=>
 intro hk
 refine Tot.step (fun n=>by rw[zBy]) ?_
 refine Tot.bind (A:=fun r=>r=k.L) ?_ fun r hr=>Tot.pure (by rw[hr];exact kindEta k)
 refine Tot.loop1 k.L (fun n kk b i=>zCh (zBy n) k kk b i) (fun n i b x=>(zBy n x).bind fun v=>app 24 b [v]) (fun b=>b)
  (fun n kk b i=>by rw[zCh];simp only[Option.bind_assoc]) (fun i b=>b=k.L.take i∧i<=k.L.length) (fun b=>b=k.L) ?_ (fun b hb=>by rw[hb.1,List.take_length]) [] ⟨by simp,by omega⟩
 intro i b x hx hb
 have hm:=zq3 hx
 have h1:=ksz_mem hm
 have hi:=(zq1 hx).1
 have hlen:k.L.length<=ksz k:=by
  rw[ksz_eq]
  have:k.L.length<=(k.L.map ksz).sum:=by
   generalize k.L=l
   induction l with
   |nil=>simp
   |cons x l ih=>simp only[List.length_cons,List.map_cons,List.sum_cons];have:=ksz_pos x;omega
  omega
 refine Tot.bind (ih x hm (by omega)) fun v hv=>?_
 subst hv
 refine⟨b++[v],⟨0,fun n _=>zE1 (by decide) (by rw[hb.1];simp;omega)⟩,?_,by omega⟩
 rw[hb.1,List.take_add_one,hx];rfl
def cLeaf(c:zLd):zLd:=zLd.mk c.Op c.N c.S c.Kind [] []
def cVar(n:Int):zLd:=zLd.mk 1 n [] (zLb.mk []) [] []
def bndB(c:zLd):Bool:=(eqI c.Op 9)||((eqI c.Op 10)||((eqI c.Op 11)||(eqI c.Op 13)))
theorem zJv(c:zLd):zBO c=some (bndB c):=rfl
theorem leafOf_T(c:zLd)(h:ksz c.Kind<=1000000):Tot (fun n=>zDX n c) (fun r=>r=cLeaf c):=by
 unfold zDX
 exact Tot.bind (zLF _ h) fun v hv=>Tot.pure (by rw[hv];rfl)
def shLeaf(a y:Int)(c:zLd)(b:Int):zLd:=if (eqI c.Op 1&&leI a (c.N-b))=true then cVar (c.N+y) else cLeaf c
theorem shifted_T(c:zLd)(b a y:Int)(h:okN c)(hb:0<=b)(hb2:b<=1000000)(hy: -100000<=y)(hy2:y<=1000000):Tot (fun n=>zDb n c b a y) (fun r=>r=shLeaf a y c b):=by
 have h1:=h.n0
 have h2:=h.n1
 have h3:=h.kind
 unfold zDb shLeaf
 refine Tot.bind (A:=fun q=>q=(eqI c.Op 1&&leI a (c.N-b))) ?_ fun q hq=>?_
 ·refine Tot.ite (fun h=>Tot.chk (by omega) (by omega) (Tot.pure (by rw[h];rfl))) (fun h=>Tot.pure (by rw[h];rfl))
 ·rw[<-hq]
  cases q with
  |true=>exact Tot.chk (by omega) (by omega) (Tot.pure rfl)
  |false=>exact Tot.bind (leafOf_T c (by omega)) fun v hv=>Tot.pure hv
def shf(a y:Int)(c:zLd)(b:Int):zLd:=
 if (eqI c.Op 1||eqI c.Op 2)=true then shLeaf a y c b else zLd.mk c.Op c.N c.S c.Kind c.Names (c.L.map fun x=>shf a y x (if bndB c then b+1 else b))
termination_by SizeOf.sizeOf c
decreasing_by all_goals (cases c;simp only[zLd.mk.sizeOf_spec];have:=List.sizeOf_lt_of_mem ‹_›;simp only at this;omega)
theorem shf_eq(a y:Int)(c:zLd)(b:Int):shf a y c b=if (eqI c.Op 1||eqI c.Op 2)=true then shLeaf a y c b else zLd.mk c.Op c.N c.S c.Kind c.Names (c.L.map fun x=>shf a y x (if bndB c then b+1 else b)):=by rw[shf]
theorem clone_T(l:List (List UInt8))(h:l.length<=100000):zBC l=some l:=by
 cases l with
 |nil=>rfl
 |cons x l=>rw[zBC,clC,if_pos ⟨by simp,by decide,by simp at h ⊢;omega⟩]
theorem zIW(op n:Int)(s:List UInt8)(k:zLb)(ns:List (List UInt8)):csz (zLd.mk op n s k ns [])=1:=by rw[zGq];rfl
theorem sh_leaf(op n:Int)(s:List UInt8)(k:zLb)(ns:List (List UInt8))(h:s.length<=100000):Sh (zLd.mk op n s k ns []):=.mk _ h fun x hx=>by cases hx
def cZ:zLd:=zLd.mk 0 0 [] (zLb.mk []) [] []
theorem csz_cZ:csz cZ=1:=zIW _ _ _ _ _
theorem sh_cZ:Sh cZ:=sh_leaf _ _ _ _ _ (by simp)
def RbI(K:Nat)(f:zLd->zLd)(c:zLd)(left:Int)(i:Nat)(b:Int×List zLd):Prop:=
 b.2.length=i∧i<=c.L.length∧-20000<=b.1∧b.1<=20000∧(b.2.map csz).sum<=K*((c.L.take i).map csz).sum∧(∀x,x∈b.2->Sh x)∧(0<=b.1->b.2=(c.L.take i).map f∧b.1=left-((b.2.map csz).sum:Nat))∧(((c.L.map fun x=>csz (f x)).sum:Int)<=left->0<=b.1)
def RbR(K:Nat)(f:zLd->zLd)(c:zLd)(left:Int)(b:Int×List zLd):Prop:=
 b.2.length=c.L.length∧-20000<=b.1∧b.1<=20000∧(b.2.map csz).sum<=K*(c.L.map csz).sum∧(∀x,x∈b.2->Sh x)∧(0<=b.1->b.2=c.L.map f∧b.1=left-((b.2.map csz).sum:Nat))∧(((c.L.map fun x=>csz (f x)).sum:Int)<=left->0<=b.1)
theorem zKW(K:Nat)(f:zLd->zLd)(c:zLd)(left:Int)(h1: -20000<=left)(h2:left<=20000)(hlen:c.L.length<=1000000)(L:Nat->Nat->Int×List zLd->Nat->Option (Int×List zLd))(F:Nat->zLd->Int->Option (zLd×Int))
 (hL: ∀n k b i,L n (k+1) b i=if ltI (i:Int) (c.L.length:Int)=true then (c.L[i]?).bind fun x=>(F n x b.1).bind fun v=>(app 104 b.2 [v.1]).bind fun l=>L n k (v.2,l) (i+1) else some (b.1,b.2))
 (hF: ∀x,x∈c.L->∀q:Int,-20000<=q->q<=20000->Tot (fun n=>F n x q) (fun r=> -20000<=r.2∧r.2<=20000∧csz r.1<=K*csz x∧Sh r.1∧(0<=r.2->0<q∧r.1=f x∧r.2=q-csz r.1)∧((csz (f x):Int)<=q->0<=r.2))):
 Tot (fun n=>L n n (left,[]) 0) (RbR K f c left):=by
 have hsum:=fun i x (h:c.L[i]? =some x)=>zDR (fun x=>csz (f x)) c.L i x h
 have hle:=fun i=>zHJ (fun x=>csz (f x)) c.L i
 refine Tot.loop1 c.L L (fun n i b x=>(F n x b.1).bind fun v=>(app 104 b.2 [v.1]).bind fun l=>some (v.2,l)) (fun b=>b)
  (fun n k b i=>by rw[hL];simp only[Option.bind_assoc,zAs]) (RbI K f c left) _ ?_ (fun b hb=>?_) (left,[]) ⟨rfl,by omega,h1,h2,by simp,fun x hx=>(by cases hx),fun _=>⟨rfl,by simp⟩,fun h=>(by show 0<=left;omega)⟩
 ·intro i b x hx hb
  obtain⟨q1,q2,q3,q4,q5,q6,q7,q8⟩:=hb
  have hm:=zq3 hx
  have hi:=(zq1 hx).1
  refine Tot.bind (hF x hm b.1 q3 q4) fun v hv=>?_
  obtain⟨w1,w2,w3,w4,w5,w6⟩:=hv
  refine Tot.k (a:=b.2++[v.1]) (zE1 (by decide) (by simp;omega)) (Tot.pure ⟨by simp;omega,by omega,w1,w2,?_,fun z hz=>?_,fun h0=>?_,fun h0=>?_⟩)
  ·rw[zDR csz _ _ _ hx,List.map_append,List.sum_append,Nat.mul_add]
   simp only[List.map_cons,List.map_nil,List.sum_cons,List.sum_nil]
   omega
  ·rcases List.mem_append.1 hz with hz|hz
   ·exact q6 z hz
   ·rw[List.mem_singleton.1 hz];exact w4
  ·obtain⟨e1,e2,e3⟩:=w5 h0
   obtain⟨e4,e5⟩:=q7 (by omega)
   refine⟨?_,?_⟩
   ·rw[map_take_succ f _ _ _ hx,e4,e2]
   ·simp only[List.map_append,List.sum_append,List.map_cons,List.map_nil,List.sum_cons,List.sum_nil]
    omega
  ·have q9:=q8 h0
   obtain⟨e4,e5⟩:=q7 q9
   refine w6 ?_
   have h3:=hsum i x hx
   have h4:=hle (i+1)
   rw[e4,List.map_map] at e5
   simp only[Function.comp_def] at e5
   omega
 ·obtain⟨q1,q2,q3,q4,q5,q6,q7,q8⟩:=hb
  rw[List.take_length] at q5 q7
  exact⟨q1,q3,q4,q5,q6,q7,q8⟩
theorem rb_node{K:Nat}{f:zLd->zLd}{c:zLd}{left:Int}(hK:1<=K)(hs:c.S.length<=100000)(hl:0<left){o:Int×List zLd}(h:RbR K f c (left-1) o):
 -20000<=o.1∧o.1<=20000∧csz (zLd.mk c.Op c.N c.S c.Kind c.Names o.2)<=K*csz c∧Sh (zLd.mk c.Op c.N c.S c.Kind c.Names o.2)∧
  (0<=o.1->0<left∧zLd.mk c.Op c.N c.S c.Kind c.Names o.2=zLd.mk c.Op c.N c.S c.Kind c.Names (c.L.map f)∧o.1=left-csz (zLd.mk c.Op c.N c.S c.Kind c.Names o.2))∧((csz (zLd.mk c.Op c.N c.S c.Kind c.Names (c.L.map f)):Int)<=left->0<=o.1):=by
 obtain⟨q1,q2,q3,q4,q5,q6,q7⟩:=h
 have e:csz (zLd.mk c.Op c.N c.S c.Kind c.Names o.2)=1+(o.2.map csz).sum:=by rw[zGq]
 have e':=zGq c
 refine⟨q2,q3,?_,.mk _ hs q5,fun h0=>?_,fun h0=>q7 ?_⟩
 ·rw[e,e',Nat.mul_add];omega
 ·obtain⟨e1,e2⟩:=q6 h0
  refine⟨hl,by rw[e1],?_⟩
  rw[e];omega
 ·rw[zGq,List.map_map] at h0
  simp only[Function.comp_def] at h0
  omega
theorem rebuild2_T(a y:Int)(hy: -100000<=y)(hy2:y<=1000000)(c:zLd):Fm c->csz c<=1000000->∀b left:Int,0<=b->b+csz c<=1000000->-20000<=left->left<=20000->
 Tot (fun n=>zAT n c b a y left) (fun r=> -20000<=r.2∧r.2<=20000∧csz r.1<=1*csz c∧Sh r.1∧(0<=r.2->0<left∧r.1=shf a y c b∧r.2=left-csz r.1)∧((csz (shf a y c b):Int)<=left->0<=r.2)):=by
 induction c using zFy with
 |h c ih=>
 intro hf hc b left hb hbc hl hl2
 have hok:=hf.here
 have hp:=zFx c
 have hlc:=len_csz c
 have hn:=hok.names
 have hkd:=hok.kind
 have hst:=hok.str
 refine Tot.step (fun n=>by rw[zAT]) ?_
 refine Tot.ite (fun _=>Tot.pure ⟨by decide,by decide,by show csz cZ<=_;rw[csz_cZ];omega,sh_cZ,fun h=>by simp at h,fun h=>by have:=zFx (shf a y c b);rename_i h9;have:=leT h9;omega⟩) (fun h0=>?_)
 have h0:=leF h0
 refine Tot.ite (fun hlf=>?_) (fun hlf=>?_)
 ·refine Tot.bind (shifted_T c b a y hok hb (by omega) hy hy2) fun v hv=>?_
  have hv1:csz v=1∧Sh v:=by
   rw[hv];unfold shLeaf
   split
   ·exact⟨zIW _ _ _ _ _,sh_leaf _ _ _ _ _ (by simp)⟩
   ·exact⟨zIW _ _ _ _ _,sh_leaf _ _ _ _ _ (by omega)⟩
  refine Tot.bind (Size_T v (by omega)) fun w hw=>?_
  refine Tot.chk (by omega) (by omega) (Tot.pure ⟨by simp only;omega,by simp only;omega,by simp only;omega,hv1.2,fun _=>⟨h0,?_,by simp only;omega⟩,fun _=>by simp only;omega⟩)
  rw[shf_eq,if_pos hlf];exact hv
 ·refine Tot.chk (by omega) (by omega) ?_
  refine Tot.bind (zLF _ (by omega)) fun v hv=>?_
  subst hv
  refine Tot.k (clone_T _ (by omega)) (Tot.k (zJv c) ?_)
  have hq: ∀(q:Int),q=(if bndB c then b+1 else b)->∀r:zLd×Int,(∃o,r=(zLd.mk c.Op c.N c.S c.Kind c.Names o.2,o.1)∧RbR 1 (fun x=>shf a y x q) c (left-1) o)->
   -20000<=r.2∧r.2<=20000∧csz r.1<=1*csz c∧Sh r.1∧(0<=r.2->0<left∧r.1=shf a y c b∧r.2=left-csz r.1)∧((csz (shf a y c b):Int)<=left->0<=r.2):=by
   rintro q hq r ⟨o,rfl,ho⟩
   obtain⟨w1,w2,w3,w4,w5,w6⟩:=rb_node (by decide) (by omega) h0 ho
   refine⟨w1,w2,w3,w4,fun h=>?_,fun h=>w6 (by rw[shf_eq,if_neg (by rw[hlf];simp),<-hq] at h;exact h)⟩
   obtain⟨e1,e2,e3⟩:=w5 h
   exact⟨e1,by rw[e2,shf_eq,if_neg (by rw[hlf];simp),<-hq],e3⟩
  refine Tot.ite (fun hbd=>?_) (fun hbd=>?_)
  ·refine Tot.chk (by omega) (by omega) ?_
   refine Tot.bind (zKW 1 (fun x=>shf a y x (b+1)) c (left-1) (by omega) (by omega) (by omega) (fun n k b' i=>zBJ (zAT n) c a y (b+1) k b'.1 b'.2 i) (fun n x q=>zAT n x (b+1) a y q)
    (fun n k b' i=>by rw[zBJ]) fun x hx q q1 q2=>ih x hx (hf.part hx) (by have:=zCm hx;omega) (b+1) q (by omega) (by have:=zCm hx;omega) q1 q2) fun o ho=>?_
   exact Tot.pure (hq (b+1) (by rw[hbd];rfl) _ ⟨o,rfl,ho⟩)
  ·refine Tot.bind (zKW 1 (fun x=>shf a y x b) c (left-1) (by omega) (by omega) (by omega) (fun n k b' i=>zBI (zAT n) c b a y k b'.1 b'.2 i) (fun n x q=>zAT n x b a y q)
    (fun n k b' i=>by rw[zBI]) fun x hx q q1 q2=>ih x hx (hf.part hx) (by have:=zCm hx;omega) b q (by omega) (by have:=zCm hx;omega) q1 q2) fun o ho=>?_
   exact Tot.pure (hq b (by rw[hbd];rfl) _ ⟨o,rfl,ho⟩)
theorem zJi{c:zLd}(h:okN c)(ho:(eqI c.Op 1||eqI c.Op 2)=true):c.L=[]∧c.Names=[]:=by
 have h1:=h.parts
 have h2:=h.lab
 rw[Bool.or_eq_true] at ho
 have ho:c.Op=1∨c.Op=2:=ho.imp eqT eqT
 have hp:zCr c=some 0:=by
  unfold zCr zBN zBO
  rcases ho with ho|ho<;>rw[ho]<;>rfl
 rw[hp] at h1
 have:=zqa h1
 refine⟨List.eq_nil_of_length_eq_zero (by omega),h2.resolve_right fun h3=>?_⟩
 unfold zBN at h3
 rcases ho with ho|ho<;>rw[ho] at h3<;>cases h3
theorem csz_shLeaf(a y:Int)(c:zLd)(b:Int):csz (shLeaf a y c b)=1:=by
 unfold shLeaf;split<;>exact zIW _ _ _ _ _
theorem csz_shf(a y:Int)(c:zLd):Fm c->∀b,csz (shf a y c b)=csz c:=by
 induction c using zFy with
 |h c ih=>
 intro hf b
 rw[shf_eq]
 split
 ·rename_i ho
  rw[csz_shLeaf,zGq,(zJi hf.here ho).1];rfl
 ·rw[zGq,zGq c,List.map_map]
  congr 2
  exact List.map_congr_left fun x hx=>ih x hx (hf.part hx) _
theorem idxI{α:Type}(l:List α)(i:Int)(h:0<=i)(h2:i<l.length): ∃x,x∈l∧idx l i=some x∧l[i.toNat]? =some x:=by
 have hx:l[i.toNat]? =some (l[i.toNat]'(by omega)):=zq2 (by omega)
 exact⟨_,List.getElem_mem (by omega),by rw[idx,if_pos h,hx],hx⟩
def sbLeaf(l:List zLd)(c:zLd)(b:Int):zLd:=
 if (!(eqI c.Op 1)||ltI (c.N-b) 0)=true then cLeaf c else if leI (l.length:Int) (c.N-b)=true then cVar (c.N-l.length) else shf 0 b ((l[(c.N-b).toNat]?).getD cZ) 0
theorem subst1_T(l:List zLd)(hl: ∀x,x∈l->Fm x∧csz x<=20000)(hll:l.length<=1000)(c:zLd)(b:Int)(h:okN c)(hb:0<=b)(hb2:b<=900000):
 Tot (fun n=>zD7 n c b l) (fun r=>r=sbLeaf l c b∧csz r<=20000∧Sh r):=by
 have h1:=h.n0
 have h2:=h.n1
 have h3:=h.kind
 have h4:=h.str
 unfold zD7 sbLeaf
 refine Tot.chk (by omega) (by omega) ?_
 refine Tot.ite (fun hc=>?_) (fun hc=>?_)
 ·rw[if_pos hc]
  exact Tot.bind (leafOf_T c (by omega)) fun v hv=>Tot.pure ⟨hv,by rw[hv];show csz (cLeaf c)<=_;rw[cLeaf,zIW];omega,by rw[hv];exact sh_leaf _ _ _ _ _ (by omega)⟩
 ·rw[if_neg (by rw[hc];simp)]
  rw[Bool.or_eq_false_iff] at hc
  have hn:=ltF hc.2
  refine Tot.ite (fun hc2=>?_) (fun hc2=>?_)
  ·rw[if_pos hc2]
   exact Tot.chk (by omega) (by omega) (Tot.k rfl (Tot.pure ⟨rfl,by show csz (cVar _)<=_;rw[cVar,zIW];omega,sh_leaf _ _ _ _ _ (by simp)⟩))
  ·rw[if_neg (by rw[hc2];simp)]
   have hn2:=leF hc2
   obtain⟨x,hx,e1,e2⟩:=idxI l (c.N-b) hn hn2
   refine Tot.k rfl (Tot.k e1 ?_)
   obtain⟨hf,hs⟩:=hl x hx
   refine Tot.bind (rebuild2_T 0 b (by omega) (by omega) x hf (by omega) 0 20000 (by omega) (by omega) (by omega) (by omega)) fun v hv=>Tot.pure ?_
   obtain⟨w1,w2,w3,w4,w5,w6⟩:=hv
   have:=w5 (w6 (by rw[csz_shf 0 b x hf 0];omega))
   rw[e2]
   exact⟨this.2.1,by omega,w4⟩
def sbs(l:List zLd)(c:zLd)(b:Int):zLd:=
 if (eqI c.Op 1||eqI c.Op 2)=true then sbLeaf l c b else zLd.mk c.Op c.N c.S c.Kind c.Names (c.L.map fun x=>sbs l x (if bndB c then b+1 else b))
termination_by SizeOf.sizeOf c
decreasing_by all_goals (cases c;simp only[zLd.mk.sizeOf_spec];have:=List.sizeOf_lt_of_mem ‹_›;simp only at this;omega)
theorem sbs_eq(l:List zLd)(c:zLd)(b:Int):sbs l c b=if (eqI c.Op 1||eqI c.Op 2)=true then sbLeaf l c b else zLd.mk c.Op c.N c.S c.Kind c.Names (c.L.map fun x=>sbs l x (if bndB c then b+1 else b)):=by rw[sbs]
theorem rebuild_T(l:List zLd)(hll: ∀x,x∈l->Fm x∧csz x<=20000)(hlen:l.length<=1000)(c:zLd):Fm c->csz c<=100000->∀b left:Int,0<=b->b+csz c<=900000->-20000<=left->left<=20000->
 Tot (fun n=>zAm n c b left l) (fun r=> -20000<=r.2∧r.2<=20000∧csz r.1<=20000*csz c∧Sh r.1∧(0<=r.2->0<left∧r.1=sbs l c b∧r.2=left-csz r.1)∧((csz (sbs l c b):Int)<=left->0<=r.2)):=by
 induction c using zFy with
 |h c ih=>
 intro hf hc b left hb hbc hl hl2
 have hok:=hf.here
 have hp:=zFx c
 have hlc:=len_csz c
 have hn:=hok.names
 have hkd:=hok.kind
 have hst:=hok.str
 refine Tot.step (fun n=>by rw[zAm]) ?_
 refine Tot.ite (fun h9=>Tot.pure ⟨by decide,by decide,by show csz cZ<=_;rw[csz_cZ];omega,sh_cZ,fun h=>by simp at h,fun h=>by have:=zFx (sbs l c b);have:=leT h9;omega⟩) (fun h0=>?_)
 have h0:=leF h0
 refine Tot.ite (fun hlf=>?_) (fun hlf=>?_)
 ·refine Tot.bind (subst1_T l hll hlen c b hok hb (by omega)) fun v hv=>?_
  obtain⟨hv,hv1,hv2⟩:=hv
  refine Tot.bind (Size_T v (by omega)) fun w hw=>?_
  have e:sbs l c b=v:=by rw[sbs_eq,if_pos hlf,hv]
  refine Tot.chk (by omega) (by omega) (Tot.pure ⟨by simp only;omega,by simp only;omega,by simp only;omega,hv2,fun _=>⟨h0,e.symm,by simp only;omega⟩,fun h=>by rw[e] at h;simp only;omega⟩)
 ·refine Tot.chk (by omega) (by omega) ?_
  refine Tot.bind (zLF _ (by omega)) fun v hv=>?_
  subst hv
  refine Tot.k (clone_T _ (by omega)) (Tot.k (zJv c) ?_)
  have hq: ∀(q:Int),q=(if bndB c then b+1 else b)->∀r:zLd×Int,(∃o,r=(zLd.mk c.Op c.N c.S c.Kind c.Names o.2,o.1)∧RbR 20000 (fun x=>sbs l x q) c (left-1) o)->
   -20000<=r.2∧r.2<=20000∧csz r.1<=20000*csz c∧Sh r.1∧(0<=r.2->0<left∧r.1=sbs l c b∧r.2=left-csz r.1)∧((csz (sbs l c b):Int)<=left->0<=r.2):=by
   rintro q hq r ⟨o,rfl,ho⟩
   obtain⟨w1,w2,w3,w4,w5,w6⟩:=rb_node (by decide) (by omega) h0 ho
   refine⟨w1,w2,w3,w4,fun h=>?_,fun h=>w6 (by rw[sbs_eq,if_neg (by rw[hlf];simp),<-hq] at h;exact h)⟩
   obtain⟨e1,e2,e3⟩:=w5 h
   exact⟨e1,by rw[e2,sbs_eq,if_neg (by rw[hlf];simp),<-hq],e3⟩
  refine Tot.ite (fun hbd=>?_) (fun hbd=>?_)
  ·refine Tot.chk (by omega) (by omega) ?_
   refine Tot.bind (zKW 20000 (fun x=>sbs l x (b+1)) c (left-1) (by omega) (by omega) (by omega) (fun n k b' i=>zBb (zAm n) c l (b+1) k b'.1 b'.2 i) (fun n x q=>zAm n x (b+1) q l)
    (fun n k b' i=>by rw[zBb]) fun x hx q q1 q2=>ih x hx (hf.part hx) (by have:=zCm hx;omega) (b+1) q (by omega) (by have:=zCm hx;omega) q1 q2) fun o ho=>?_
   exact Tot.pure (hq (b+1) (by rw[hbd];rfl) _ ⟨o,rfl,ho⟩)
  ·refine Tot.bind (zKW 20000 (fun x=>sbs l x b) c (left-1) (by omega) (by omega) (by omega) (fun n k b' i=>zBa (zAm n) c b l k b'.1 b'.2 i) (fun n x q=>zAm n x b q l)
    (fun n k b' i=>by rw[zBa]) fun x hx q q1 q2=>ih x hx (hf.part hx) (by have:=zCm hx;omega) b q (by omega) (by have:=zCm hx;omega) q1 q2) fun o ho=>?_
   exact Tot.pure (hq b (by rw[hbd];rfl) _ ⟨o,rfl,ho⟩)
def ErrOr(e0:Int)(w:zLd)(r:zLd×Int):Prop:=(r.2=0∧Fm r.1∧csz r.1<=20000∧r.1=w)∨(r.2≠0∧r.1=cZ)
theorem replaced_T{w:zLd}{f:Nat->Option (zLd×Int)}{K:Nat}(hK:K<=1000000000000)
 (h:Tot f (fun r=> -20000<=r.2∧r.2<=20000∧csz r.1<=K∧Sh r.1∧(0<=r.2->r.1=w))):
 Tot (fun n=>(f n).bind fun v=>(if ltI v.2 0=true then some true else (zBZ n v.1).bind fun b=>some (!b):Option Bool).bind fun b=>if b=true then some (cZ,(6:Int)) else some (v.1,0)) (ErrOr 6 w):=by
 refine Tot.bind h fun v hv=>?_
 obtain⟨w1,w2,w3,w4,w5⟩:=hv
 refine Tot.bind (A:=fun b=>b=false->0<=v.2∧Fm v.1∧csz v.1<=20000) ?_ (fun b hb=>?_)
 ·refine Tot.ite (fun _=>Tot.pure fun h=>by cases h) (fun h=>?_)
  have h:=ltF h
  exact Tot.bind (zHx v.1 (by omega) w4) fun b hb=>Tot.pure fun hq=>⟨h,hb (notF hq)⟩
 ·refine Tot.ite (fun _=>Tot.pure (.inr ⟨by decide,rfl⟩)) (fun h=>Tot.pure (.inl ?_))
  obtain⟨e1,e2,e3⟩:=hb h
  exact⟨rfl,e2,e3,w5 e1⟩
theorem Subst_T(c:zLd)(l:List zLd)(hc:csz c<=1000000000000)(hs:Sh c)(hl: ∀x,x∈l->csz x<=1000000000000∧Sh x):Tot (fun n=>zET n c l) (ErrOr 6 (sbs l c 0)):=by
 unfold zET
 refine Tot.bind (A:=fun b=>b=false->(Fm c∧csz c<=20000)∧∀x,x∈l->Fm x∧csz x<=20000) ?_ (fun b hb=>?_)
 ·refine Tot.bind (zHx c hc hs) fun v hv=>Tot.ite (fun _=>Tot.pure fun h=>by cases h) (fun h=>?_)
  exact Tot.bind (CAll_T l hl) fun b hb=>Tot.pure fun hq=>⟨hv (notF h),hb (notF hq)⟩
 refine Tot.ite (fun _=>Tot.pure (.inr ⟨by decide,rfl⟩)) (fun h=>?_)
 obtain⟨⟨hf,hcs⟩,hfl⟩:=hb h
 refine Tot.ite (fun _=>Tot.pure (.inr ⟨by decide,rfl⟩)) (fun h=>?_)
 have h:=ltF h
 refine Tot.bind (A:=ErrOr 6 (sbs l c 0)) ?_ fun v hv=>Tot.pure hv
 unfold zCp
 refine replaced_T (K:=20000*csz c) (by omega) ((rebuild_T l hfl (by omega) c hf (by omega) 0 20000 (by omega) (by omega) (by omega) (by omega)).mono fun r hr=>?_)
 exact⟨hr.1,hr.2.1,hr.2.2.1,hr.2.2.2.1,fun h=>(hr.2.2.2.2.1 h).2.1⟩
theorem zI7(c:zLd)(L:Nat->Nat->Bool->Nat->Option Bool)(F:Nat->zLd->Bool->Option Bool)
 (hL: ∀n k b i,L n (k+1) b i=if ltI (i:Int) (c.L.length:Int)=true then (c.L[i]?).bind fun x=>(F n x b).bind fun v=>L n k v (i+1) else some b)
 (hF: ∀x,x∈c.L->∀q:Bool,Tot (fun n=>F n x q) (fun _=>True)) (b0:Bool):Tot (fun n=>L n n b0 0) (fun _=>True):=
 Tot.loop1 c.L L (fun n i b x=>F n x b) (fun b=>b) hL (fun _ _=>True) _ (fun i b x hx _=>hF x (zq3 hx) b) (fun _ _=>trivial) b0 trivial
theorem shift1_T(c:zLd)(b a y:Int)(q:Bool)(h:okN c)(hb:0<=b)(hb2:b<=1000000)(hy: -100000<=y)(hy2:y<=1000000): ∃r,zD8 c b a y q=some r:=by
 have h1:=h.n0
 have h2:=h.n1
 unfold zD8
 rw[chk64 (by omega) (by omega),zAs,chk64 (by omega) (by omega),zAs]
 split
 ·split
  ·rw[zAs];split<;>exact⟨_,rfl⟩
  ·rw[zAs];split<;>exact⟨_,rfl⟩
 ·rw[zAs];split<;>exact⟨_,rfl⟩
theorem each_T(a y:Int)(hy: -100000<=y)(hy2:y<=1000000)(c:zLd):Fm c->∀(b:Int)(q:Bool),0<=b->b+csz c<=900000->Tot (fun n=>zAS n c b a y q) (fun _=>True):=by
 induction c using zFy with
 |h c ih=>
 intro hf b q hb hbc
 have hok:=hf.here
 have hp:=zFx c
 refine Tot.step (fun n=>by rw[zAS]) ?_
 have hx1: ∀x,x∈c.L->∀q:Bool,Tot (fun n=>zAS n x (b+1) a y q) (fun _=>True):=fun x hx q=>ih x hx (hf.part hx) (b+1) q (by omega) (by have:=zCm hx;omega)
 have hx2: ∀x,x∈c.L->∀q:Bool,Tot (fun n=>zAS n x b a y q) (fun _=>True):=fun x hx q=>ih x hx (hf.part hx) b q (by omega) (by have:=zCm hx;omega)
 refine Tot.ite (fun _=>?_) (fun _=>?_)
 ·obtain⟨r,hr⟩:=shift1_T c b a y q hok hb (by omega) hy hy2
  refine Tot.k hr (Tot.k (zJv c) (Tot.ite (fun _=>Tot.chk (by omega) (by omega) ?_) (fun _=>?_)))
  ·exact Tot.bind (zI7 c (fun n k b' i=>zBi (zAS n) c a y (b+1) k b' i) _ (fun n k b' i=>by rw[zBi]) hx1 r) fun _ _=>Tot.pure trivial
  ·exact Tot.bind (zI7 c (fun n k b' i=>zBh (zAS n) c b a y k b' i) _ (fun n k b' i=>by rw[zBh]) hx2 r) fun _ _=>Tot.pure trivial
 ·refine Tot.k (zJv c) (Tot.ite (fun _=>Tot.chk (by omega) (by omega) ?_) (fun _=>?_))
  ·exact Tot.bind (zI7 c (fun n k b' i=>zBg (zAS n) c a y (b+1) k b' i) _ (fun n k b' i=>by rw[zBg]) hx1 q) fun _ _=>Tot.pure trivial
  ·exact Tot.bind (zI7 c (fun n k b' i=>zBf (zAS n) c b a y k b' i) _ (fun n k b' i=>by rw[zBf]) hx2 q) fun _ _=>Tot.pure trivial
theorem Shift_T(c:zLd)(y a:Int)(hc:csz c<=1000000000000)(hs:Sh c):Tot (fun n=>zEU n c y a) (ErrOr 6 (shf a y c 0)):=by
 unfold zEU
 refine Tot.bind (zHx c hc hs) fun v hv=>Tot.ite (fun _=>Tot.pure (.inr ⟨by decide,rfl⟩)) (fun h=>?_)
 obtain⟨hf,hcs⟩:=hv (notF h)
 refine Tot.ite (fun _=>Tot.pure (.inr ⟨by decide,rfl⟩)) (fun h=>?_)
 simp only[Bool.or_eq_false_iff] at h
 have h1:=ltF h.1
 have h2:=ltF h.2.1
 have h3:=ltF h.2.2
 refine Tot.bind (each_T a y (by omega) (by omega) c hf 0 false (by omega) (by omega)) fun b _=>Tot.ite (fun _=>Tot.pure (.inr ⟨by decide,rfl⟩)) (fun _=>?_)
 refine Tot.k rfl ?_
 refine Tot.bind (A:=ErrOr 6 (shf a y c 0)) ?_ fun v hv=>Tot.pure hv
 unfold zCS
 refine replaced_T (K:=1*csz c) (by omega) ((rebuild2_T a y (by omega) (by omega) c hf (by omega) 0 20000 (by omega) (by omega) (by omega) (by omega)).mono fun r hr=>?_)
 exact⟨hr.1,hr.2.1,hr.2.2.1,hr.2.2.2.1,fun h=>(hr.2.2.2.2.1 h).2.1⟩
theorem conEta(c:zLd):zLd.mk c.Op c.N c.S c.Kind c.Names c.L=c:=by cases c;rfl
theorem leaf_self{c:zLd}(h:okN c)(ho:(eqI c.Op 1||eqI c.Op 2)=true):cLeaf c=c:=by
 obtain⟨h1,h2⟩:=zJi h ho
 unfold cLeaf
 conv=>rhs;rw[<-conEta c,h1,h2]
theorem rebuild3_T(c:zLd):Fm c->csz c<=1000000->∀b left:Int,0<=b->b+csz c<=1000000->-20000<=left->left<=20000->
 Tot (fun n=>zAV n c b left) (fun r=> -20000<=r.2∧r.2<=20000∧csz r.1<=1*csz c∧Sh r.1∧(0<=r.2->0<left∧r.1=c∧r.2=left-csz r.1)∧((csz c:Int)<=left->0<=r.2)):=by
 induction c using zFy with
 |h c ih=>
 intro hf hc b left hb hbc hl hl2
 have hok:=hf.here
 have hp:=zFx c
 have hlc:=len_csz c
 have hn:=hok.names
 have hkd:=hok.kind
 have hst:=hok.str
 refine Tot.step (fun n=>by rw[zAV]) ?_
 refine Tot.ite (fun h9=>Tot.pure ⟨by decide,by decide,by show csz cZ<=_;rw[csz_cZ];omega,sh_cZ,fun h=>by simp at h,fun h=>by have:=leT h9;omega⟩) (fun h0=>?_)
 have h0:=leF h0
 refine Tot.ite (fun hlf=>?_) (fun hlf=>?_)
 ·refine Tot.bind (A:=fun r=>r=c) ?_ fun v hv=>?_
  ·unfold zEl
   exact Tot.bind (leafOf_T c (by omega)) fun v hv=>Tot.pure (by rw[hv];exact leaf_self hok hlf)
  have h1:csz c=1:=by rw[zGq,(zJi hok hlf).1];rfl
  refine Tot.bind (Size_T v (by rw[hv];omega)) fun w hw=>?_
  subst hv
  refine Tot.chk (by omega) (by omega) (Tot.pure ⟨by simp only;omega,by simp only;omega,by simp only;omega,hf.sh,fun _=>⟨h0,rfl,by simp only;omega⟩,fun _=>by simp only;omega⟩)
 ·refine Tot.chk (by omega) (by omega) ?_
  refine Tot.bind (zLF _ (by omega)) fun v hv=>?_
  subst hv
  refine Tot.k (clone_T _ (by omega)) (Tot.k (zJv c) ?_)
  have hq: ∀r:zLd×Int,(∃o,r=(zLd.mk c.Op c.N c.S c.Kind c.Names o.2,o.1)∧RbR 1 (fun x=>x) c (left-1) o)->
   -20000<=r.2∧r.2<=20000∧csz r.1<=1*csz c∧Sh r.1∧(0<=r.2->0<left∧r.1=c∧r.2=left-csz r.1)∧((csz c:Int)<=left->0<=r.2):=by
   rintro r ⟨o,rfl,ho⟩
   obtain⟨w1,w2,w3,w4,w5,w6⟩:=rb_node (by decide) (by omega) h0 ho
   refine⟨w1,w2,w3,w4,fun h=>?_,fun h=>w6 (by rw[List.map_id',conEta];exact h)⟩
   obtain⟨e1,e2,e3⟩:=w5 h
   exact⟨e1,by rw[e2,List.map_id',conEta],e3⟩
  refine Tot.ite (fun hbd=>?_) (fun hbd=>?_)
  ·refine Tot.chk (by omega) (by omega) ?_
   refine Tot.bind (zKW 1 (fun x=>x) c (left-1) (by omega) (by omega) (by omega) (fun n k b' i=>zBH (zAV n) c (b+1) k b'.1 b'.2 i) (fun n x q=>zAV n x (b+1) q)
    (fun n k b' i=>by rw[zBH]) fun x hx q q1 q2=>ih x hx (hf.part hx) (by have:=zCm hx;omega) (b+1) q (by omega) (by have:=zCm hx;omega) q1 q2) fun o ho=>?_
   exact Tot.pure (hq _ ⟨o,rfl,ho⟩)
  ·refine Tot.bind (zKW 1 (fun x=>x) c (left-1) (by omega) (by omega) (by omega) (fun n k b' i=>zBG (zAV n) c b k b'.1 b'.2 i) (fun n x q=>zAV n x b q)
    (fun n k b' i=>by rw[zBG]) fun x hx q q1 q2=>ih x hx (hf.part hx) (by have:=zCm hx;omega) b q (by omega) (by have:=zCm hx;omega) q1 q2) fun o ho=>?_
   exact Tot.pure (hq _ ⟨o,rfl,ho⟩)
theorem copied_T(c:zLd)(hf:Fm c)(hc:csz c<=20000):Tot (fun n=>zCq n c) (fun r=>r=c):=by
 unfold zCq
 refine Tot.bind (rebuild3_T c hf (by omega) 0 20000 (by omega) (by omega) (by omega) (by omega)) fun v hv=>Tot.pure ?_
 exact(hv.2.2.2.2.1 (hv.2.2.2.2.2 (by omega))).2.1
theorem okN.len{c:zLd}(h:okN c):((c.Op=9∨c.Op=10∨c.Op=11∨c.Op=13)->c.L.length=1)∧((c.Op=6∨c.Op=12)->c.L.length=2)∧((c.Op=7∨c.Op=8)->c.L.length=c.Names.length):=by
 have h1:=h.parts
 unfold zCr zBN zBO at h1
 refine⟨fun ho=>?_,fun ho=>?_,fun ho=>?_⟩
 ·rcases ho with ho|ho|ho|ho<;>rw[ho] at h1<;>have:=zqa h1<;>omega
 ·rcases ho with ho|ho<;>rw[ho] at h1<;>have:=zqa h1<;>omega
 ·rcases ho with ho|ho<;>rw[ho] at h1<;>have:=zqa h1<;>omega
theorem okN.with{c:zLd}(h:okN c)(l:List zLd)(hl:l.length=c.L.length):okN (zLd.mk c.Op c.N c.S c.Kind c.Names l):=
 ⟨by rw[hl,<-h.parts];rfl,h.n0,h.n1,h.names,h.str,h.kind,h.lab⟩
theorem kept_T(c:zLd)(w:zLY)(hc:w.over=false->csz c<=1000000000000):
 Tot (fun n=>zCE n c w) (fun r=>r.2.steps=w.steps∧csz r.1<=csz c∧(r.2.over=false->w.over=false∧r.1=c∧csz c<=20000)):=by
 have hp:=zFx c
 have hz:csz cZ<=csz c:=by rw[csz_cZ];exact hp
 unfold zCE
 refine Tot.ite (fun h=>Tot.pure ⟨rfl,hz,fun h'=>by rw[h] at h';cases h'⟩) (fun h=>?_)
 refine Tot.bind (nsize_T c (hc h)) fun v hv=>Tot.ite (fun _=>Tot.pure ⟨rfl,hz,fun h'=>by cases h'⟩) (fun h'=>Tot.pure ⟨rfl,Nat.le_refl _,fun _=>⟨h,rfl,?_⟩⟩)
 rw[Bool.or_eq_false_iff] at h'
 have:=ltF h'.1
 omega
theorem beta_T(f a x:zLd)(w:zLY)(hx:f.L[0]? =some x)(h0:0<=w.steps)(h1:w.steps<=20000)(hcx:csz x<=1000000000000∧Sh x)(hca:csz a<=1000000000000∧Sh a):
 Tot (fun n=>zCn n f a w) (fun r=>r.2.steps=w.steps+1∧(r.2.over=false->w.steps+1<=10000∧Fm r.1∧csz r.1<=20000)):=by
 unfold zCn
 refine Tot.chk (by omega) (by omega) (Tot.ite (fun _=>Tot.pure ⟨rfl,fun h=>by cases h⟩) (fun hs=>Tot.ite (fun h=>Tot.pure ⟨rfl,fun h'=>by rw[h] at h';cases h'⟩) (fun h=>?_)))
 have hs:=ltF hs
 refine Tot.k hx ?_
 refine Tot.bind (Subst_T x [a] hcx.1 hcx.2 (fun z hz=>by rw[List.mem_singleton.1 hz];exact hca)) fun v hv=>?_
 refine Tot.ite (fun _=>Tot.pure ⟨rfl,fun h=>by cases h⟩) (fun he=>?_)
 have he:=eqT (notF he)
 rcases hv with ⟨_,hf,hcs,_⟩|⟨hv,_⟩
 ·refine Tot.bind (kept_T v.1 ⟨w.steps+1,w.over⟩ fun _=>by omega) fun r hr=>Tot.pure ⟨hr.1,fun h=>?_⟩
  obtain⟨_,e,_⟩:=hr.2.2 h
  exact⟨by omega,by rw[e];exact hf,by rw[e];exact hcs⟩
 ·exact absurd he hv
theorem occurs_T(c:zLd): ∀m:Int,-1000000000<=m->m+csz c<=1000000000->Tot (fun n=>zCx n c m) (fun _=>True):=by
 induction c using zFy with
 |h c ih=>
 intro m hm hc
 have hp:=zFx c
 have key: ∀q:Int,-1000000000<=q->q<=m+1->Tot (fun n=>zAf n c.L q) (fun _=>True):=fun q h1 h2=>by
  refine Tot.step (fun n=>by rw[zAf]) ?_
  refine Tot.bind (A:=fun i=>(leI 0 i=false->∀x,x∈c.L->True)∧(leI 0 i=true->∃x,x∈c.L∧True)) ?_ (fun v hv=>Tot.pure trivial)
  refine Tot.step (fun n=>by rw[zBE]) ?_
  refine zGH (P:=True) (T:=True) (Tot.index c.L (fun n k i=>zAd (zCG n) c.L q k i) (fun n x=>zCG n x q) (fun n k i=>by rw[zAd]) _ _ fun x hx=>?_)
  refine Tot.step (fun n=>by rw[zCG]) ?_
  refine Tot.bind (ih x hx q h1 (by have:=zCm hx;omega)) fun v hv=>Tot.pure ⟨fun _=>trivial,fun _=>trivial⟩
 refine Tot.step (fun n=>by rw[zCx]) ?_
 refine Tot.ite (fun _=>Tot.pure trivial) (fun _=>Tot.k rfl (Tot.ite (fun _=>Tot.chk (by omega) (by omega) ?_) (fun _=>?_)))
 ·exact Tot.bind (key (m+1) (by omega) (by omega)) fun _ _=>Tot.pure trivial
 ·exact Tot.bind (key m (by omega) (by omega)) fun _ _=>Tot.pure trivial
theorem at0{α:Type}{l:List α}(h:0<l.length): ∃x,l[0]? =some x∧x∈l:=⟨l[0],zq2 h,List.getElem_mem h⟩
theorem at1{α:Type}{l:List α}(h:1<l.length): ∃x,l[1]? =some x∧x∈l:=⟨l[1],zq2 h,List.getElem_mem h⟩
theorem eta_T(c:zLd)(hf:Fm c)(hc:csz c<=20000):Tot (fun n=>zFl n c) (fun b=>b=true->∃x y,c.L[0]? =some x∧x∈c.L∧x.L[0]? =some y∧y∈x.L):=by
 unfold zFl
 refine Tot.bind (A:=fun b=>b=false->c.Op=11∧∃x,c.L[0]? =some x∧x∈c.L∧x.Op=12) ?_ (fun b hb=>?_)
 ·refine Tot.ite (fun _=>Tot.pure fun h=>by cases h) (fun ho=>?_)
  have ho:=eqT (notF ho)
  obtain⟨x,hx,hm⟩:=at0 (l:=c.L) (by rw[hf.here.len.1 (by omega)];omega)
  refine Tot.k hx (Tot.pure fun h=>⟨ho,x,hx,hm,eqT (notF h)⟩)
 ·refine Tot.ite (fun _=>Tot.pure fun h=>by cases h) (fun h=>?_)
  obtain⟨ho,x,hx,hm,hxo⟩:=hb h
  have h2:=(hf.part hm).here.len.2.1 (by omega)
  obtain⟨y,hy,hym⟩:=at0 (l:=x.L) (by omega)
  obtain⟨z,hz,hzm⟩:=at1 (l:=x.L) (by omega)
  refine Tot.k hx (Tot.k hy (Tot.k hz ?_))
  refine Tot.bind (A:=fun _=>True) ?_ (fun b _=>Tot.pure fun _=>⟨x,y,hx,hm,hy,hym⟩)
  refine Tot.ite (fun _=>Tot.ite (fun _=>?_) (fun _=>Tot.pure trivial)) (fun _=>Tot.pure trivial)
  exact Tot.bind (occurs_T y 0 (by omega) (by have:=zCm hym;have:=zCm hm;omega)) fun _ _=>Tot.pure trivial
def NzQ(w:zLY)(r:zLd×zLY):Prop:=w.steps<=r.2.steps∧r.2.steps<=10001∧csz r.1<=20000∧(r.2.over=false->w.over=false∧Fm r.1∧r.2.steps<=10000)
theorem sum_bound{α:Type}(f:α->Nat)(K:Nat): ∀l:List α,(∀x,x∈l->f x<=K)->(l.map f).sum<=l.length*K
 |[],_=>by simp
 |x::l,h=>by
  have h1:=h x (zq9 ..)
  have h2:=sum_bound f K l fun y hy=>h y (zqc _ hy)
  rw[List.map_cons,List.sum_cons,List.length_cons,Nat.succ_mul]
  omega
theorem normalize_T: ∀(m:Nat)(c:zLd)(w:zLY),Fm c->csz c<=20000->0<=w.steps->w.steps<=10001->(w.over=false->w.steps<=10000)->10001-w.steps<=m->Tot (fun n=>zAb n c w) (NzQ w):=by
 intro m
 induction m using Nat.strongRecOn with
 |_ m IH=>
 intro c
 induction c using zFy with
 |h c ih=>
 intro w hf hc h0 h1 h10 hm
 have hp:=zFx c
 have hlc:=len_csz c
 refine Tot.step (fun n=>by rw[zAb]) ?_
 refine Tot.ite (fun h=>Tot.pure ⟨Int.le_refl _,by simp only;omega,by show csz cZ<=_;rw[csz_cZ];omega,fun h'=>by rw[h] at h';cases h'⟩) (fun hov=>?_)
 refine Tot.bind (Tot.loop1 c.L (fun n k (b:Int×Bool×List zLd) i=>zA6 (zAb n) c k b.1 b.2.1 b.2.2 i)
  (fun n i b x=>(zAb n x ⟨b.1,b.2.1⟩).bind fun v=>(app 104 b.2.2 [v.1]).bind fun l=>some (v.2.steps,v.2.over,l)) (fun b=>b)
  (fun n k b i=>by rw[zA6];simp only[Option.bind_assoc,zAs])
  (fun i b=>w.steps<=b.1∧b.1<=10001∧b.2.2.length=i∧(∀x,x∈b.2.2->csz x<=20000)∧(b.2.1=false->b.1<=10000∧∀x,x∈b.2.2->Fm x))
  (fun b=>w.steps<=b.1∧b.1<=10001∧b.2.2.length=c.L.length∧(∀x,x∈b.2.2->csz x<=20000)∧(b.2.1=false->b.1<=10000∧∀x,x∈b.2.2->Fm x)) ?_ (fun b hb=>hb) (w.steps,w.over,[]) ⟨Int.le_refl _,h1,rfl,fun x hx=>(by cases hx),fun h=>⟨h10 h,fun x hx=>(by cases hx)⟩⟩) fun o ho=>?_
 ·intro i b x hx hb
  obtain⟨q1,q2,q3,q4,q5⟩:=hb
  have hxm:=zq3 hx
  have hi:=(zq1 hx).1
  have hcx:=zCm hxm
  refine Tot.bind (ih x hxm ⟨b.1,b.2.1⟩ (hf.part hxm) (by omega) (by simp only;omega) (by simp only;omega) (fun h=>(q5 h).1) (by simp only;omega)) fun v hv=>?_
  obtain⟨w1,w2,w3,w4⟩:=hv
  refine Tot.k (a:=b.2.2++[v.1]) (zE1 (by decide) (by simp;omega)) (Tot.pure ⟨by simp only at w1 ⊢;omega,w2,by simp;omega,fun z hz=>?_,fun h=>⟨(w4 h).2.2,fun z hz=>?_⟩⟩)
  ·rcases List.mem_append.1 hz with hz|hz
   ·exact q4 z hz
   ·rw[List.mem_singleton.1 hz];exact w3
  ·rcases List.mem_append.1 hz with hz|hz
   ·exact(q5 (w4 h).1).2 z hz
   ·rw[List.mem_singleton.1 hz];exact(w4 h).2.1
 obtain⟨q1,q2,q3,q4,q5⟩:=ho
 have hsum:=sum_bound csz 20000 o.2.2 q4
 have hcn:csz (zLd.mk c.Op c.N c.S c.Kind c.Names o.2.2)<=1000000000:=by
  rw[zGq]
  have:o.2.2.length*20000<=20000*20000:=Nat.mul_le_mul_right _ (by omega)
  simp only;omega
 refine Tot.bind (kept_T _ ⟨o.1,o.2.1⟩ fun _=>by omega) fun v hv=>?_
 obtain⟨k1,k2,k3⟩:=hv
 simp only at k1 k3
 refine Tot.ite (fun h=>Tot.pure ⟨by simp only;omega,by simp only;omega,by show csz cZ<=_;rw[csz_cZ];omega,fun h'=>by simp only at h';rw[h] at h';cases h'⟩) (fun hvo=>?_)
 obtain⟨k4,k5,k6⟩:=k3 hvo
 have hfn:Fm v.1:=by rw[k5];exact .mk _ (hf.here.with _ q3) (q5 k4).2
 have hst:=(q5 k4).1
 have hcs:csz v.1<=20000:=by rw[k5];exact k6
 have fin: ∀r:zLd×zLY,w.steps<=r.2.steps->r.2.steps<=10001->csz r.1<=20000->(r.2.over=false->Fm r.1∧r.2.steps<=10000)->NzQ w r:=fun r a b d e=>⟨a,b,d,fun h=>⟨by simpa using hov,e h⟩⟩
 refine Tot.bind (A:=fun b=>b=true->v.1.Op=12∧∃x,v.1.L[0]? =some x∧x∈v.1.L∧x.Op=11) ?_ (fun b hb=>?_)
 ·refine Tot.ite (fun ho=>?_) (fun _=>Tot.pure fun h=>by cases h)
  have ho:=eqT ho
  obtain⟨x,hx,hxm⟩:=at0 (l:=v.1.L) (by rw[hfn.here.len.2.1 (by omega)];omega)
  exact Tot.k hx (Tot.pure fun h=>⟨ho,x,hx,hxm,eqT h⟩)
 refine Tot.ite (fun h=>?_) (fun h=>?_)
 ·obtain⟨ho,x,hx,hxm,hxo⟩:=hb h
  obtain⟨y,hy,hym⟩:=at1 (l:=v.1.L) (by rw[hfn.here.len.2.1 (by omega)];omega)
  refine Tot.k hx (Tot.k hy ?_)
  obtain⟨z,hz,hzm⟩:=at0 (l:=x.L) (by rw[(hfn.part hxm).here.len.1 (by omega)];omega)
  have e1:=zCm hxm
  have e2:=zCm hym
  have e3:=zCm hzm
  refine Tot.bind (beta_T x y z v.2 hz (by omega) (by omega) ⟨by omega,((hfn.part hxm).part hzm).sh⟩ ⟨by omega,(hfn.part hym).sh⟩) fun u hu=>?_
  obtain⟨u1,u2⟩:=hu
  refine Tot.bind (A:=NzQ u.2) ?_ fun r hr=>Tot.pure (fin _ (by have:=hr.1;simp only;omega) hr.2.1 hr.2.2.1 fun h=>(hr.2.2.2 h).2)
  cases huo:u.2.over with
  |true=>
   refine Tot.step (fun n=>by rw[zAb]) ?_
   rw[huo]
   exact Tot.pure ⟨Int.le_refl _,by simp only;omega,by show csz cZ<=_;rw[csz_cZ];omega,fun h'=>by simp only at h';rw[huo] at h';cases h'⟩
  |false=>
   obtain⟨u3,u4,u5⟩:=u2 huo
   exact IH (m-1) (by omega) u.1 u.2 u4 u5 (by omega) (by omega) (fun _=>by omega) (by omega)
 ·refine Tot.bind (eta_T v.1 hfn hcs) fun b hb=>Tot.ite (fun h=>?_) (fun _=>Tot.pure (fin _ (by simp only;omega) (by simp only;omega) hcs fun _=>⟨hfn,by simp only;omega⟩))
  obtain⟨x,y,hx,hxm,hy,hym⟩:=hb h
  refine Tot.k hx (Tot.k hy ?_)
  have e1:=zCm hxm
  have e2:=zCm hym
  refine Tot.bind (Shift_T y (-1) 0 (by omega) ((hfn.part hxm).part hym).sh) fun u hu=>?_
  refine Tot.ite (fun _=>Tot.pure (fin _ (by simp only;omega) (by simp only;omega) (by show csz cZ<=_;rw[csz_cZ];omega) fun h=>by cases h)) (fun he=>?_)
  have he:=eqT (notF he)
  rcases hu with ⟨_,u1,u2,_⟩|⟨u1,_⟩
  ·exact Tot.pure (fin _ (by simp only;omega) (by simp only;omega) u2 fun _=>⟨u1,by simp only;omega⟩)
  ·exact absurd he u1
theorem copiedKind_T(k:zLb):ksz k<=1000000->Tot (fun n=>zBY n k) (fun r=>r=k):=by
 induction k using zLE with
 |h k ih=>
 intro hk
 refine Tot.step (fun n=>by rw[zBY]) ?_
 refine Tot.bind (A:=fun r=>r=k.L) ?_ fun r hr=>Tot.pure (by rw[hr];exact kindEta k)
 refine Tot.loop1 k.L (fun n kk b i=>zBr (zBY n) k kk b i) (fun n i b x=>(zBY n x).bind fun v=>app 24 b [v]) (fun b=>b)
  (fun n kk b i=>by rw[zBr];simp only[Option.bind_assoc]) (fun i b=>b=k.L.take i∧i<=k.L.length) (fun b=>b=k.L) ?_ (fun b hb=>by rw[hb.1,List.take_length]) [] ⟨by simp,by omega⟩
 intro i b x hx hb
 have hm:=zq3 hx
 have h1:=ksz_mem hm
 have hi:=(zq1 hx).1
 have hlen:k.L.length<=ksz k:=by
  rw[ksz_eq]
  have:k.L.length<=(k.L.map ksz).sum:=by
   generalize k.L=l
   induction l with
   |nil=>simp
   |cons x l ih=>simp only[List.length_cons,List.map_cons,List.sum_cons];have:=ksz_pos x;omega
  omega
 refine Tot.bind (ih x hm (by omega)) fun v hv=>?_
 subst hv
 refine⟨b++[v],⟨0,fun n _=>zE1 (by decide) (by rw[hb.1];simp;omega)⟩,?_,by omega⟩
 rw[hb.1,List.take_add_one,hx];rfl
theorem ncopied_T(c:zLd):Fm c->csz c<=1000000->Tot (fun n=>zB9 n c) (fun r=>r=c):=by
 induction c using zFy with
 |h c ih=>
 intro hf hc
 have hok:=hf.here
 have hkd:=hok.kind
 have hn:=hok.names
 have hlc:=len_csz c
 refine Tot.step (fun n=>by rw[zB9]) ?_
 refine Tot.bind (copiedKind_T _ (by omega)) fun v hv=>?_
 subst hv
 refine Tot.k (clone_T _ (by omega)) ?_
 refine Tot.bind (A:=fun r=>r=c.L) ?_ fun r hr=>Tot.pure (by rw[hr,conEta])
 refine Tot.loop1 c.L (fun n kk b i=>zCO (zB9 n) c kk b i) (fun n i b x=>(zB9 n x).bind fun v=>app 104 b [v]) (fun b=>b)
  (fun n kk b i=>by rw[zCO];simp only[Option.bind_assoc]) (fun i b=>b=c.L.take i∧i<=c.L.length) (fun b=>b=c.L) ?_ (fun b hb=>by rw[hb.1,List.take_length]) [] ⟨by simp,by omega⟩
 intro i b x hx hb
 have hm:=zq3 hx
 have h1:=zCm hm
 have hi:=(zq1 hx).1
 refine Tot.bind (ih x hm (hf.part hm) (by omega)) fun v hv=>?_
 subst hv
 refine⟨b++[v],⟨0,fun n _=>zE1 (by decide) (by rw[hb.1];simp;omega)⟩,?_,by omega⟩
 rw[hb.1,List.take_add_one,hx];rfl
def NQ(r:zLd×Int):Prop:=(r.2=0∧Fm r.1∧csz r.1<=20000)∨(r.2≠0∧r.1=cZ)
theorem NQ.ok{r:zLd×Int}(h:NQ r)(h0:r.2=0):Fm r.1∧csz r.1<=20000:=by
 rcases h with ⟨_,h1,h2⟩|⟨h1,_⟩
 ·exact⟨h1,h2⟩
 ·exact absurd h0 h1
theorem ErrOr.ok{e:Int}{w:zLd}{r:zLd×Int}(h:ErrOr e w r)(h0:r.2=0):Fm r.1∧csz r.1<=20000∧r.1=w:=by
 rcases h with ⟨_,h1,h2,h3⟩|⟨h1,_⟩
 ·exact⟨h1,h2,h3⟩
 ·exact absurd h0 h1
theorem Normal_T(c:zLd)(hc:csz c<=1000000000000)(hs:Sh c):Tot (fun n=>zDJ n c) NQ:=by
 unfold zDJ
 refine Tot.bind (zHx c hc hs) fun v hv=>Tot.ite (fun _=>Tot.pure (.inr ⟨by decide,rfl⟩)) (fun h=>?_)
 obtain⟨hf,hcs⟩:=hv (notF h)
 refine Tot.bind (A:=fun r=>r.2=true->Fm r.1∧csz r.1<=20000) ?_ fun r hr=>Tot.ite (fun _=>Tot.pure (.inr ⟨by decide,rfl⟩)) (fun h=>?_)
 ·unfold zF2
  refine Tot.bind (normalize_T 10001 c ⟨0,false⟩ hf hcs (by decide) (by decide) (fun _=>by decide) (by decide)) fun r hr=>Tot.pure fun h=>?_
  exact⟨(hr.2.2.2 (by simpa using h)).2.1,hr.2.2.1⟩
 ·obtain⟨e1,e2⟩:=hr (notF h)
  exact Tot.bind (ncopied_T r.1 e1 (by omega)) fun v hv=>Tot.pure (.inl ⟨rfl,by rw[hv];exact e1,by rw[hv];exact e2⟩)
theorem spine_loop(x:zLd):Fm x->csz x<=20000->∀l:List zLd,(∀y,y∈l->Fm y∧csz y<=20000)->l.length+csz x<=40000->
 ∃o:zLd×List zLd,(∃N,∀n,N<=n->∀k,csz x<k->zCC n k x l=some o)∧Fm o.1∧csz o.1<=20000∧(∀y,y∈o.2->Fm y∧csz y<=20000)∧o.2.length<=40000:=by
 induction x using zFy with
 |h x ih=>
 intro hf hc l hl hlen
 have hp:=zFx x
 by_cases ho:x.Op=12
 ·have h2:=hf.here.len.2.1 (.inr ho)
  obtain⟨u,hu,hum⟩:=at0 (l:=x.L) (by omega)
  obtain⟨y,hy,hym⟩:=at1 (l:=x.L) (by omega)
  have e1:=zCm hum
  have e2:=zCm hym
  obtain⟨z,⟨N1,hz⟩,rfl⟩:=copied_T y (hf.part hym) (by omega)
  obtain⟨o,⟨N2,hN2⟩,r1,r2,r3,r4⟩:=ih u hum (hf.part hum) (by omega) (l++[z]) (fun w hw=>by
   rcases List.mem_append.1 hw with hw|hw
   ·exact hl w hw
   ·rw[List.mem_singleton.1 hw];exact⟨hf.part hym,by omega⟩) (by simp;omega)
  refine⟨o,⟨N1+N2,fun n hn k hk=>?_⟩,r1,r2,r3,r4⟩
  obtain⟨k,rfl⟩: ∃q,k=q+1:=⟨k-1,by omega⟩
  rw[zCC,if_pos (show eqI x.Op 12=true from zqb ho),hy,zAs,show zCq n z=some z from hz n (by omega),zAs,zE1 (by decide) (by simp;omega),zAs,hu,zAs]
  exact hN2 n (by omega) k (by omega)
 ·refine⟨(x,l),⟨0,fun n _ k hk=>?_⟩,hf,hc,hl,by simp only;omega⟩
  obtain⟨k,rfl⟩: ∃q,k=q+1:=⟨k-1,by omega⟩
  rw[zCC,if_neg (show¬eqI x.Op 12=true from fun h=>ho (eqT h))]
theorem Spine_T(c:zLd)(hc:csz c<=1000000000000)(hs:Sh c):Tot (fun n=>zFI n c) (fun r=>r.2.2=0->Fm r.1∧csz r.1<=20000∧(∀y,y∈r.2.1->Fm y∧csz y<=20000)∧r.2.1.length<=40000):=by
 unfold zFI
 refine Tot.bind (zHx c hc hs) fun v hv=>Tot.ite (fun _=>Tot.pure fun h=>by simp at h) (fun h=>?_)
 obtain⟨hf,hcs⟩:=hv (notF h)
 obtain⟨o,⟨N,hN⟩,r1,r2,r3,r4⟩:=spine_loop c hf hcs [] (fun y hy=>by cases hy) (by simp;omega)
 refine Tot.ev (a:=o) ⟨N+csz c+1,fun n hn=>hN n (by omega) n (by omega)⟩ ?_
 refine Tot.bind (copied_T o.1 r1 r2) fun z hz=>Tot.pure fun _=>?_
 exact⟨by rw[hz];exact r1,by rw[hz];exact r2,fun y hy=>r3 y (List.mem_reverse.1 hy),by simp only[List.length_reverse];exact r4⟩
theorem Unroll_T(c:zLd)(hc:csz c<=1000000000000)(hs:Sh c):Tot (fun n=>zEB n c) (fun r=>r.2=0->Fm r.1∧csz r.1<=20000):=by
 unfold zEB
 refine Tot.bind (Normal_T c hc hs) fun v hv=>Tot.ite (fun h=>Tot.pure fun h'=>?_) (fun h=>?_)
 ·have h:=eqF (notT h)
  exact absurd h' h
 have h:=eqT (notF h)
 obtain⟨hf,hcs⟩:=hv.ok h
 refine Tot.bind (Spine_T v.1 (by omega) hf.sh) fun u hu=>Tot.ite (fun h=>Tot.pure fun h'=>by simp at h') (fun h=>?_)
 obtain⟨u1,u2,u3,u4⟩:=hu (eqT (notF h))
 refine Tot.ite (fun h=>Tot.pure fun h'=>by simp at h') (fun h=>?_)
 have ho:=eqT (notF h)
 obtain⟨x,hx,hxm⟩:=at0 (l:=u.1.L) (by rw[u1.here.len.1 (by omega)];omega)
 have e1:=zCm hxm
 refine Tot.k hx ?_
 refine Tot.bind (Subst_T x [u.1] (by omega) (u1.part hxm).sh (fun z hz=>by rw[List.mem_singleton.1 hz];exact⟨by omega,u1.sh⟩)) fun y hy=>Tot.ite (fun h=>Tot.pure fun h'=>by simp at h') (fun h=>?_)
 have he:=eqT (notF h)
 obtain⟨y1,y2,_⟩:=hy.ok he
 refine Tot.bind (Tot.loop1 u.2.1 (fun n k (b:Int×Int×List UInt8×List zLb×List (List UInt8)×List zLd) i=>zCP u k b.1 b.2.1 b.2.2.1 b.2.2.2.1 b.2.2.2.2.1 b.2.2.2.2.2 i)
  (fun n i b x=>some (12,0,[],[],[],[zLd.mk b.1 b.2.1 b.2.2.1 (zLb.mk b.2.2.2.1) b.2.2.2.2.1 b.2.2.2.2.2,x])) (fun b=>b) (fun n k b i=>by rw[zCP];simp only[zAs])
  (fun i b=>Sh (zLd.mk b.1 b.2.1 b.2.2.1 (zLb.mk b.2.2.2.1) b.2.2.2.2.1 b.2.2.2.2.2)∧csz (zLd.mk b.1 b.2.1 b.2.2.1 (zLb.mk b.2.2.2.1) b.2.2.2.2.1 b.2.2.2.2.2)<=20000+i*20001)
  (fun b=>Sh (zLd.mk b.1 b.2.1 b.2.2.1 (zLb.mk b.2.2.2.1) b.2.2.2.2.1 b.2.2.2.2.2)∧csz (zLd.mk b.1 b.2.1 b.2.2.1 (zLb.mk b.2.2.2.1) b.2.2.2.2.1 b.2.2.2.2.2)<=1000000000) ?_ (fun b hb=>⟨hb.1,?_⟩)
  (y.1.Op,y.1.N,y.1.S,y.1.Kind.L,y.1.Names,y.1.L) ?_) fun o ho=>?_
 ·intro i b x hx hb
  have hxm:=zq3 hx
  obtain⟨x1,x2⟩:=u3 x hxm
  refine Tot.pure ⟨.mk _ (by simp) fun z hz=>?_,?_⟩
  ·simp only[List.mem_cons,List.not_mem_nil,or_false] at hz
   rcases hz with rfl|rfl
   ·exact hb.1
   ·exact x1.sh
  ·rw[zGq]
   simp only[List.map_cons,List.map_nil,List.sum_cons,List.sum_nil]
   have:=hb.2
   omega
 ·have:=hb.2
  have:u.2.1.length*20001<=40000*20001:=Nat.mul_le_mul_right _ u4
  omega
 ·simp only[kindEta,conEta]
  exact⟨y1.sh,by omega⟩
 ·refine Tot.bind (Normal_T _ (by have:=ho.2;omega) ho.1) fun r hr=>Tot.ite (fun _=>Tot.pure fun h'=>by simp at h') (fun h=>Tot.pure fun _=>?_)
  have h:=eqT (notF h)
  rcases hr with ⟨_,r1,r2⟩|⟨h',_⟩
  ·exact⟨r1,r2⟩
  ·exact absurd h h'
inductive Cov:zLc->zLc->Prop
 |any {p q:zLc} (h:p.Op=1∨p.Op=2):Cov p q
 |node {p q:zLc} (h1:p.Op=q.Op) (h2:p.N=q.N) (h3:p.S=q.S) (h4:p.L.length=q.L.length) (hs: ∀(i:Nat)(x y:zLc),p.L[i]? =some x->q.L[i]? =some y->Cov x y):Cov p q
theorem Cov.inv{p q:zLc}(h:Cov p q):(p.Op=1∨p.Op=2)∨(p.Op=q.Op∧p.N=q.N∧p.S=q.S∧p.L.length=q.L.length∧∀(i:Nat)(x y:zLc),p.L[i]? =some x->q.L[i]? =some y->Cov x y):=by
 cases h with
 |any h=>exact .inl h
 |node h1 h2 h3 h4 hs=>exact .inr ⟨h1,h2,h3,h4,hs⟩
theorem cov_loop(F:zLc->zLc->Option Bool)(s t:List zLc)(hl:s.length=t.length)(ih: ∀x,x∈s->∀y,∃v,F x y=some v∧(v=true↔Cov x y)):
 ∀(n i k:Nat),i+n=s.length->n+1<=k->∃o,zAZ F s t k i=some o∧((o=.inr ()∧∀(j:Nat)(x y:zLc),i<=j->s[j]? =some x->t[j]? =some y->Cov x y)∨(o=.inl false∧∃(j:Nat) (x y:zLc),s[j]? =some x∧t[j]? =some y∧¬Cov x y)):=by
 intro n
 induction n with
 |zero=>
  intro i k hi hk
  obtain⟨k,rfl⟩: ∃q,k=q+1:=⟨k-1,by omega⟩
  rw[zAZ,if_neg (ltN (by omega))]
  exact⟨_,rfl,.inl ⟨rfl,fun j x y hj hx _=>by have:=(zq1 hx).1;omega⟩⟩
 |succ n ihn=>
  intro i k hi hk
  obtain⟨k,rfl⟩: ∃q,k=q+1:=⟨k-1,by omega⟩
  have hx:s[i]? =some s[i]:=zq2 (by omega)
  have hy:t[i]? =some t[i]:=zq2 (by omega)
  obtain⟨v,h1,h2⟩:=ih s[i] (List.getElem_mem _) t[i]
  rw[zAZ,if_pos (ltP (by omega)),hx,zAs,hy,zAs,h1,zAs]
  cases v with
  |false=>exact⟨_,rfl,.inr ⟨rfl,i,_,_,hx,hy,fun h=>by have:=h2.2 h;cases this⟩⟩
  |true=>
   simp only[Bool.not_true,Bool.false_eq_true,if_false]
   obtain⟨o,h3,h4⟩:=ihn (i+1) k (by omega) (by omega)
   refine⟨o,h3,?_⟩
   rcases h4 with ⟨q1,q2⟩|h4
   ·refine .inl ⟨q1,fun j x y hj hxj hyj=>?_⟩
    by_cases e:j=i
    ·subst e;rw[hx] at hxj;rw[hy] at hyj;cases hxj;cases hyj;exact h2.1 rfl
    ·exact q2 j x y (by omega) hxj hyj
   ·exact .inr h4
theorem lenQ(s t:List zLc):eqI (s.length:Int) (t.length:Int)=decide (s.length=t.length):=lenI s t.length
theorem covers_M(p:zLc): ∀(fuel:Nat)(q:zLc),wt p<=fuel->∃v,zB3 fuel p q=some v∧(v=true↔Cov p q):=by
 induction p using zGk with
 |h p ih=>
  intro fuel q hf
  have hw:=zI9 p
  obtain⟨g,rfl⟩: ∃g,fuel=g+1+1:=⟨fuel-2,by omega⟩
  rw[zB3]
  by_cases h0:p.Op=1∨p.Op=2
  ·rw[if_pos (show(eqI p.Op 1||eqI p.Op 2)=true from by rw[Bool.or_eq_true];exact h0.imp (fun h=>zqb h) (fun h=>zqb h))]
   exact⟨true,rfl,by simp[Cov.any h0]⟩
  rw[if_neg (show¬(eqI p.Op 1||eqI p.Op 2)=true from fun h=>h0 (by rw[Bool.or_eq_true] at h;exact h.imp (fun h=>eqT h) (fun h=>eqT h)))]
  have no: ∀{A:Prop},(Cov p q->A->False)->A->∃v,(some false:Option Bool).bind (fun b=>some b)=some v∧(v=true↔Cov p q):=fun h a=>⟨false,rfl,by simp;exact fun hc=>h hc a⟩
  by_cases h1:p.Op=q.Op
  rotate_left
  ·rw[if_neg (show¬eqI p.Op q.Op=true from fun h=>h1 (eqT h))]
   exact no (fun hc ha=>by rcases hc.inv with h|h;exact h0 h;exact ha h.1) h1
  rw[if_pos (show eqI p.Op q.Op=true from zqb h1)]
  by_cases h2:p.N=q.N
  rotate_left
  ·rw[if_neg (show¬eqI p.N q.N=true from fun h=>h2 (eqT h))]
   exact no (fun hc ha=>by rcases hc.inv with h|h;exact h0 h;exact ha h.2.1) h2
  rw[if_pos (show eqI p.N q.N=true from zqb h2)]
  by_cases h3:p.S=q.S
  rotate_left
  ·rw[if_neg (show¬eqS p.S q.S=true from fun h=>h3 (of_decide_eq_true h))]
   exact no (fun hc ha=>by rcases hc.inv with h|h;exact h0 h;exact ha h.2.2.1) h3
  rw[if_pos (show eqS p.S q.S=true from zqb h3),zBU,lenQ]
  by_cases h4:p.L.length=q.L.length
  rotate_left
  ·rw[decide_eq_false h4]
   exact no (fun hc ha=>by rcases hc.inv with h|h;exact h0 h;exact ha h.2.2.2.1) h4
  rw[zqb h4]
  obtain⟨o,h5,h6⟩:=cov_loop (zB3 g) p.L q.L h4 (fun x hx y=>ih x hx g y (by have:=zJA hx;omega)) p.L.length 0 g (by omega) (by omega)
  simp only[Bool.not_true,Bool.false_eq_true,if_false]
  rw[h5,zAs]
  rcases h6 with ⟨rfl,h6⟩|⟨rfl,j,x,y,hx,hy,h6⟩
  ·exact⟨true,rfl,by simp;exact .node h1 h2 h3 h4 fun i x y hx hy=>h6 i x y (Nat.zero_le _) hx hy⟩
  ·exact⟨false,rfl,by simp;exact fun hc=>by rcases hc.inv with h|h;exact h0 h;exact h6 (h.2.2.2.2 j x y hx hy)⟩
theorem Covers_M(p q:zLc){fuel:Nat}(hf:wt p<=fuel)(hf2:wt q<=fuel)(hs:nds p<=200)(hs2:nds q<=200):
 ∃v e,zDs fuel p q=some (v,e)∧(vld p=true∧vld q=true->e=0∧(v=true↔Cov p q))∧(¬(vld p=true∧vld q=true)->e=1∧v=false):=by
 obtain⟨v,h1,h2⟩:=covers_M p fuel q hf
 rw[zDs,zJ1 p hf hs,zAs,zJ1 q hf2 hs2,h1]
 cases vld p with
 |false=>exact⟨false,1,rfl,fun h=>(by cases h.1),fun _=>⟨rfl,rfl⟩⟩
 |true=>
  cases vld q with
  |false=>exact⟨false,1,rfl,fun h=>(by cases h.2),fun _=>⟨rfl,rfl⟩⟩
  |true=>exact⟨v,0,rfl,fun _=>⟨rfl,h2⟩,fun h=>absurd ⟨rfl,rfl⟩ h⟩
theorem numbered_loop(l:List (List UInt8))(hl:l.length<=1000000): ∀(n i k:Nat),i+n=l.length->n+1<=k->∃o,zBD l k i=some o:=by
 intro n
 induction n with
 |zero=>
  intro i k hi hk
  obtain⟨k,rfl⟩: ∃q,k=q+1:=⟨k-1,by omega⟩
  rw[zBD,if_neg (ltN (by omega))]
  exact⟨_,rfl⟩
 |succ n ihn=>
  intro i k hi hk
  obtain⟨k,rfl⟩: ∃q,k=q+1:=⟨k-1,by omega⟩
  have hx:l[i]? =some l[i]:=zq2 (by omega)
  rw[zBD,if_pos (ltP (by omega)),hx,zAs,itoa_M (i+1) (by omega),zAs]
  split
  ·exact⟨_,rfl⟩
  ·exact ihn (i+1) k (by omega) (by omega)
theorem numbered_M(l:List (List UInt8))(n:Int){fuel:Nat}(hl:l.length<=1000000)(hf:l.length+1<=fuel): ∃b,zB7 fuel l n=some b:=by
 obtain⟨o,ho⟩:=numbered_loop l hl l.length 0 fuel (by omega) hf
 rw[zB7,ho,zAs]
 split
 ·exact⟨_,rfl⟩
 ·cases o<;>exact⟨_,rfl⟩
theorem copied_loop(v:zLZ)(g:Nat)(hv:v.L.length<=400)(ih: ∀x,x∈v.L->∃y,zB4 g x=some y):
 ∀(n i k:Nat)(c:List zLZ),i+n=v.L.length->n+1<=k->c.length=i->∃o,zB2 (zB4 g) v k c i=some o:=by
 intro n
 induction n with
 |zero=>
  intro i k c hi hk hc
  obtain⟨k,rfl⟩: ∃q,k=q+1:=⟨k-1,by omega⟩
  rw[zB2,if_neg (ltN (by omega))]
  exact⟨_,rfl⟩
 |succ n ihn=>
  intro i k c hi hk hc
  obtain⟨k,rfl⟩: ∃q,k=q+1:=⟨k-1,by omega⟩
  have hx:v.L[i]? =some v.L[i]:=zq2 (by omega)
  obtain⟨y,hy⟩:=ih v.L[i] (List.getElem_mem _)
  rw[zB2,if_pos (ltP (by omega)),hx,zAs,hy,zAs,zE1 (by decide) (by simp only[List.length_cons,List.length_nil];omega),zAs]
  exact ihn (i+1) k _ (by omega) (by omega) (by simp[hc])
theorem copied_M(v:zLZ): ∀fuel,vwt v<=fuel->Vok v->vnd v<=400->∃y,zB4 fuel v=some y:=by
 induction v using val_ind with
 |h v ih=>
  intro fuel hf hv hn
  have hw:=zKO v
  have hl:=len_vnd v
  obtain⟨g,rfl⟩: ∃g,fuel=g+1:=⟨fuel-1,by omega⟩
  obtain⟨o,ho⟩:=copied_loop v g (by omega) (fun x hx=>ih x hx g (by have:=zHY hx;omega) (hv.part hx) (by have:=zJB hx;omega)) v.L.length 0 g [] (by omega) (by omega) rfl
  have hc: ∃c,zBC v.Names=some c:=by
   have:=hv.here.1
   cases hN:v.Names with
   |nil=>exact⟨_,rfl⟩
   |cons x s=>
    rw[hN] at this
    exact⟨x::s,by show clC 16 (x::s)=_;rw[clC,if_pos ⟨by simp,by decide,by omega⟩]⟩
  obtain⟨c,hc⟩:=hc
  rw[zB4,hc,zAs,ho,zAs]
  exact⟨_,rfl⟩
theorem match_loop(p:zLc)(v:zLZ)(g:Nat)(hl:v.L.length=p.L.length)(hp:nds p<=200)
 (ih: ∀x,x∈p.L->∀y,y∈v.L->∀l:List zLZ,l.length+nds x<=1000->∃r,zAP g x y l=some r∧r.1.length<=l.length+nds x):
 ∀(n i k:Nat)(l:List zLZ),i+n=p.L.length->n+1<=k->l.length+((p.L.drop i).map nds).sum<=1000->
  ∃o,zAg (zAP g) p v k l i=some o∧((∃r,o=.inl r∧r.1=[]∧r.2.1=false)∨∃l',o=.inr l'∧l'.length<=l.length+((p.L.drop i).map nds).sum):=by
 intro n
 induction n with
 |zero=>
  intro i k l hi hk hb
  obtain⟨k,rfl⟩: ∃q,k=q+1:=⟨k-1,by omega⟩
  rw[zAg,if_neg (ltN (by omega))]
  exact⟨_,rfl,.inr ⟨l,rfl,by omega⟩⟩
 |succ n ihn=>
  intro i k l hi hk hb
  obtain⟨k,rfl⟩: ∃q,k=q+1:=⟨k-1,by omega⟩
  have hx:p.L[i]? =some p.L[i]:=zq2 (by omega)
  have hy:v.L[i]? =some v.L[i]:=zq2 (by omega)
  rw[zHg nds p.L i (by omega)] at hb ⊢
  obtain⟨r,h1,h2⟩:=ih p.L[i] (List.getElem_mem _) v.L[i] (List.getElem_mem _) l (by omega)
  rw[zAg,if_pos (ltP (by omega)),hx,zAs,hy,zAs,h1,zAs]
  split
  ·exact⟨_,rfl,.inl ⟨_,rfl,rfl,rfl⟩⟩
  ·obtain⟨o,h3,h4⟩:=ihn (i+1) k r.1 (by omega) (by omega) (by omega)
   refine⟨o,h3,?_⟩
   rcases h4 with h4|⟨l',h4,h5⟩
   ·exact .inl h4
   ·exact .inr ⟨l',h4,by omega⟩
theorem match_M(p:zLc): ∀(fuel:Nat)(v:zLZ)(l:List zLZ),wt p+vwt v<=fuel->nok p=true->Vok v->nds p<=200->vnd v<=400->l.length+nds p<=1000->
 ∃r,zAP fuel p v l=some r∧r.1.length<=l.length+nds p:=by
 induction p using zGk with
 |h p ih=>
  intro fuel v l hf hp hv hn hn2 hb
  have hw:=zI9 p
  have hw2:=zKO v
  have hnp:=zIk p
  have hh:=hv.here
  obtain⟨hnb,hnk⟩:=nok_iff.1 hp
  obtain⟨g,rfl⟩: ∃g,fuel=g+1:=⟨fuel-1,by omega⟩
  rw[zAP]
  by_cases h1:p.Op=1
  ·rw[if_pos (show eqI p.Op 1=true from zqb h1)]
   exact⟨_,rfl,by simp⟩
  rw[if_neg (show¬eqI p.Op 1=true from fun h=>h1 (eqT h))]
  by_cases h2:p.Op=2
  ·rw[if_pos (show eqI p.Op 2=true from zqb h2)]
   obtain⟨y,hy⟩:=copied_M v g (by omega) hv hn2
   rw[hy,zAs,zE1 (by decide) (by simp only[List.length_cons,List.length_nil];omega),zAs]
   exact⟨_,rfl,by simp;omega⟩
  rw[if_neg (show¬eqI p.Op 2=true from fun h=>h2 (eqT h))]
  by_cases h3:p.Op=3
  ·rw[if_pos (show eqI p.Op 3=true from zqb h3)]
   exact⟨_,rfl,by simp⟩
  rw[if_neg (show¬eqI p.Op 3=true from fun h=>h3 (eqT h))]
  have fin: ∀(b:Bool)(R:Option (List zLZ×Bool×Bool)),(b=false->∃r,R=some r∧r.1.length<=l.length+nds p)->
   ∃r,(if b=true then some (([]:List zLZ),false,true) else R)=some r∧r.1.length<=l.length+nds p:=fun b R h=>by
   cases b with
   |true=>exact⟨_,rfl,by simp⟩
   |false=>exact h rfl
  by_cases h5:p.Op=5
  ·rw[if_pos (show eqI p.Op 5=true from zqb h5)]
   obtain⟨nb,hnb2⟩:=numbered_M v.Names (p.L.length:Int) (fuel:=g) (by have:=hh.1;omega) (by omega)
   split
   ·exact⟨_,rfl,by simp⟩
   ·split
    ·exact⟨_,rfl,by simp⟩
    ·rename_i hlen
     have hlen:v.L.length=p.L.length:=by
      have:eqI (v.L.length:Int) (p.L.length:Int)=true:=by simpa using hlen
      have:=eqT this
      omega
     rw[hnb2,zAs,zAs]
     refine fin _ _ fun _=>?_
     obtain⟨o,h6,h7⟩:=match_loop p v g hlen hn (fun x hx y hy l hl=>ih x hx g y l (by have:=zJA hx;have:=zHY hy;omega) (hnk x hx) (hv.part hy) (by have:=zG6 hx;omega) (by have:=zJB hy;omega) hl)
      p.L.length 0 g l (by omega) (by omega) (by rw[List.drop_zero];have:=zG7 p;omega)
     rw[h6,zAs]
     rw[List.drop_zero] at h7
     rcases h7 with ⟨r,rfl,h8,_⟩|⟨l',rfl,h8⟩
     ·exact⟨r,rfl,by rw[h8];simp⟩
     ·exact⟨_,rfl,by have:=zG7 p;simp only;omega⟩
  rw[if_neg (show¬eqI p.Op 5=true from fun h=>h5 (eqT h))]
  split
  ·exact⟨_,rfl,by simp⟩
  ·rename_i hroll
   have hroll:v.Op=5:=eqT (by simpa using hroll)
   have hL:=hh.2.1 hroll
   have hx:v.L[0]? =some v.L[0]:=zq2 (by omega)
   have hxm:v.L[0]∈v.L:=List.getElem_mem _
   have hxv:=hv.part hxm
   rw[hx,zAs]
   split
   ·exact⟨_,rfl,by simp⟩
   ·rename_i hinj
    have hinj:v.L[0].Op=4:=eqT (by simpa using hinj)
    have hL2:=hxv.here.2.2 hinj
    have hy:v.L[0].L[0]? =some v.L[0].L[0]:=zq2 (by omega)
    have hym:v.L[0].L[0]∈v.L[0].L:=List.getElem_mem _
    rw[zAs]
    refine fin _ _ fun _=>?_
    rw[zAs,hy,zAs]
    split
    ·exact⟨_,rfl,by simp⟩
    ·split
     ·exact⟨_,rfl,by simp⟩
     ·rename_i hne
      have hpl:0<p.L.length:=by
       rcases Nat.eq_zero_or_pos p.L.length with h|h
       ·exact absurd (show eqI (p.L.length:Int) 0=true from zqb (by omega)) hne
       ·exact h
      have hz:p.L[0]? =some p.L[0]:=zq2 hpl
      have hzm:p.L[0]∈p.L:=List.getElem_mem _
      obtain⟨r,h6,h7⟩:=ih p.L[0] hzm g v.L[0].L[0] l (by have:=zJA hzm;have:=zHY hxm;have:=zHY hym;omega) (hnk _ hzm) (hxv.part hym) (by have:=zG6 hzm;omega) (by have:=zJB hxm;have:=zJB hym;omega) (by have:=zG6 hzm;omega)
      rw[hz,zAs,h6,zAs]
      exact⟨_,rfl,by have:=zG6 hzm;simp only;omega⟩
theorem zEh{α β:Type}{x:Option α}{f:α->Option β}{r:β}(h:x.bind f=some r): ∃a,x=some a∧f a=some r:=by
 cases x with
 |none=>cases h
 |some a=>exact⟨a,rfl,h⟩
theorem ml_inl(q:zLc)(v:zLZ)(g:Nat): ∀(k:Nat)(l:List zLZ)(i:Nat){r:List zLZ×Bool×Bool},zAg (zAP g) q v k l i=some (.inl r)->r.2.1=false:=by
 intro k
 induction k with
 |zero=>intro l i r h;cases h
 |succ k ih=>
  intro l i r h
  rw[zAg] at h
  split at h
  ·obtain⟨x,_,h⟩:=zEh h
   obtain⟨y,_,h⟩:=zEh h
   obtain⟨z,_,h⟩:=zEh h
   split at h
   ·cases h;rfl
   ·exact ih _ _ h
  ·cases h
theorem cm_loop(p q:zLc)(v:zLZ)(g:Nat)(hl:v.L.length=p.L.length)(hq:q.L.length=p.L.length)
 (ih: ∀(i:Nat)(x z:zLc)(y:zLZ),p.L[i]? =some x->q.L[i]? =some z->v.L[i]? =some y->∀(l1 l2:List zLZ)(r:List zLZ×Bool×Bool),l2.length+nds x<=1000->zAP g z y l1=some r->r.2.1=true->∃o,zAP g x y l2=some (o,true,false)∧o.length<=l2.length+nds x):
 ∀(n i k:Nat)(l1 l2 l':List zLZ),i+n=p.L.length->n+1<=k->l2.length+((p.L.drop i).map nds).sum<=1000->zAg (zAP g) q v k l1 i=some (.inr l')->∃l'',zAg (zAP g) p v k l2 i=some (.inr l''):=by
 intro n
 induction n with
 |zero=>
  intro i k l1 l2 l' hi hk hb h
  obtain⟨k,rfl⟩: ∃q,k=q+1:=⟨k-1,by omega⟩
  rw[zAg,if_neg (ltN (by omega))]
  exact⟨_,rfl⟩
 |succ n ihn=>
  intro i k l1 l2 l' hi hk hb h
  obtain⟨k,rfl⟩: ∃q,k=q+1:=⟨k-1,by omega⟩
  have hx:p.L[i]? =some p.L[i]:=zq2 (by omega)
  have hz:q.L[i]? =some q.L[i]:=zq2 (by omega)
  have hy:v.L[i]? =some v.L[i]:=zq2 (by omega)
  rw[zHg nds p.L i (by omega)] at hb
  rw[zAg,if_pos (ltP (by omega)),hz,zAs,hy,zAs] at h
  obtain⟨r,h1,h2⟩:=zEh h
  have hr:r.2.1=true:=by
   cases hc:r.2.1 with
   |true=>rfl
   |false=>rw[hc] at h2;cases h2
  rw[hr] at h2
  obtain⟨o,h3,h4⟩:=ih i _ _ _ hx hz hy l1 l2 r (by omega) h1 hr
  rw[zAg,if_pos (ltP (by omega)),hx,zAs,hy,zAs,h3,zAs]
  exact ihn (i+1) k r.1 o l' (by omega) (by omega) (by omega) h2
theorem cov_match(p:zLc): ∀(q:zLc)(fuel:Nat)(v:zLZ)(l1 l2:List zLZ)(r:List zLZ×Bool×Bool),Cov p q->wt p+vwt v<=fuel->nok p=true->Vok v->nds p<=200->vnd v<=400->l2.length+nds p<=1000->
 zAP fuel q v l1=some r->r.2.1=true->∃o,zAP fuel p v l2=some (o,true,false)∧o.length<=l2.length+nds p:=by
 induction p using zGk with
 |h p ih=>
  intro q fuel v l1 l2 r hc hf hp hv hn hn2 hb hm hr
  obtain⟨r2,hm2,hlen⟩:=match_M p fuel v l2 hf hp hv hn hn2 hb
  have hw:=zI9 p
  have hw2:=zKO v
  have hnp:=zIk p
  have hh:=hv.here
  obtain⟨hnb,hnk⟩:=nok_iff.1 hp
  obtain⟨g,rfl⟩: ∃g,fuel=g+1:=⟨fuel-1,by omega⟩
  suffices hs:r2.2=(true,false) from⟨r2.1,by rw[hm2];congr 1;rw[<-hs],hlen⟩
  rw[zAP] at hm2
  by_cases h1:p.Op=1
  ·rw[if_pos (show eqI p.Op 1=true from zqb h1)] at hm2
   cases hm2;rfl
  rw[if_neg (show¬eqI p.Op 1=true from fun h=>h1 (eqT h))] at hm2
  by_cases h2:p.Op=2
  ·rw[if_pos (show eqI p.Op 2=true from zqb h2)] at hm2
   obtain⟨y,hy,hm2⟩:=zEh hm2
   obtain⟨z,hz,hm2⟩:=zEh hm2
   cases hm2;rfl
  rw[if_neg (show¬eqI p.Op 2=true from fun h=>h2 (eqT h))] at hm2
  rcases hc.inv with hc|⟨c1,c2,c3,c4,hc⟩
  ·omega
  rw[zAP,if_neg (show¬eqI q.Op 1=true from fun h=>h1 (by rw[c1];exact eqT h)),if_neg (show¬eqI q.Op 2=true from fun h=>h2 (by rw[c1];exact eqT h))] at hm
  by_cases h3:p.Op=3
  ·rw[if_pos (show eqI p.Op 3=true from zqb h3)] at hm2
   rw[if_pos (show eqI q.Op 3=true from zqb (by rw[<-c1];exact h3))] at hm
   cases hm;cases hm2
   rw[<-c2] at hr
   show(eqI v.Op 1&&eqI v.N p.N,!(eqI v.Op 1))=(true,false)
   have hr:(eqI v.Op 1&&eqI v.N p.N)=true:=hr
   rw[hr]
   rw[zq7] at hr
   rw[hr.1];rfl
  rw[if_neg (show¬eqI p.Op 3=true from fun h=>h3 (eqT h))] at hm2
  rw[if_neg (show¬eqI q.Op 3=true from fun h=>h3 (by rw[c1];exact eqT h))] at hm
  by_cases h5:p.Op=5
  ·rw[if_pos (show eqI p.Op 5=true from zqb h5)] at hm2
   rw[if_pos (show eqI q.Op 5=true from zqb (by rw[<-c1];exact h5))] at hm
   rw[<-c4] at hm
   obtain⟨b,hb1,hm⟩:=zEh hm
   rw[hb1,zAs] at hm2
   cases b with
   |true=>rw[if_pos rfl] at hm;cases hm;cases hr
   |false=>
    rw[if_neg (by decide)] at hm hm2
    have hvl:v.L.length=p.L.length:=by
     split at hb1
     ·cases hb1
     ·split at hb1
      ·cases hb1
      ·rename_i hlen
       have:eqI (v.L.length:Int) (p.L.length:Int)=true:=by simpa using hlen
       have:=eqT this
       omega
    obtain⟨o,ho,hm⟩:=zEh hm
    cases o with
    |inl r0=>
     have hm:some r0=some r:=hm
     cases hm
     rw[ml_inl q v g g l1 0 ho] at hr;cases hr
    |inr l'=>
     obtain⟨l'',hl''⟩:=cm_loop p q v g hvl c4.symm (fun i x z y hx hz hy l1 l2 r hbb hmm hrr=>by
      have hxm:=zq3 hx
      have hym:=zq3 hy
      exact ih x hxm z g y l1 l2 r (hc i x z hx hz) (by have:=zJA hxm;have:=zHY hym;omega) (hnk x hxm) (hv.part hym) (by have:=zG6 hxm;omega) (by have:=zJB hym;omega) hbb hmm hrr)
      p.L.length 0 g l1 l2 l' (by omega) (by omega) (by rw[List.drop_zero];have:=zG7 p;omega) ho
     rw[hl'',zAs] at hm2
     cases hm2;rfl
  rw[if_neg (show¬eqI p.Op 5=true from fun h=>h5 (eqT h))] at hm2
  rw[if_neg (show¬eqI q.Op 5=true from fun h=>h5 (by rw[c1];exact eqT h))] at hm
  obtain⟨b,hb1,hm⟩:=zEh hm
  rw[hb1,zAs] at hm2
  cases b with
  |true=>rw[if_pos rfl] at hm;cases hm;cases hr
  |false=>
   rw[if_neg (by decide)] at hm hm2
   obtain⟨x,hx,hm⟩:=zEh hm
   obtain⟨y,hy,hm⟩:=zEh hm
   rw[hx,zAs,hy,zAs,c3,c4] at hm2
   split at hm
   ·cases hm;cases hr
   ·rename_i e1
    rw[if_neg e1] at hm2
    split at hm
    ·rename_i e2
     rw[if_pos e2] at hm2
     cases hm;cases hm2
     have hr:(eqI y.Op 3&&eqI (y.L.length:Int) 0)=true:=hr
     show(eqI y.Op 3&&eqI (y.L.length:Int) 0,!(eqI y.Op 3&&eqI (y.L.length:Int) 0))=(true,false)
     rw[hr];rfl
    ·rename_i e2
     rw[if_neg e2] at hm2
     obtain⟨z,hz,hm⟩:=zEh hm
     obtain⟨r3,hr3,hm⟩:=zEh hm
     obtain⟨u,hu,hm2⟩:=zEh hm2
     have hxm:=zq3 hx
     have hym:=zq3 hy
     have hum:=zq3 hu
     cases hm
     obtain⟨o,ho,_⟩:=ih u hum z g y l1 l2 r3 (hc 0 u z hu hz) (by have:=zJA hum;have:=zHY hxm;have:=zHY hym;omega) (hnk u hum) ((hv.part hxm).part hym) (by have:=zG6 hum;omega) (by have:=zJB hxm;have:=zJB hym;omega) (by have:=zG6 hum;omega) hr3 hr
     rw[ho,zAs] at hm2
     cases hm2;rfl
theorem vld_nok{p:zLc}(h:vld p=true):nok p=true:=by unfold vld at h;rw[zq7] at h;exact h.1
theorem Match_M(p:zLc)(v:zLZ){fuel:Nat}(hf:wt p+vwt v<=fuel)(hs:nds p<=200)(hs2:vnd v<=400):
 ∃r,zBX fuel p v=some r∧(r.2.1=true->zCF fuel v=some true∧Vok v∧∃r0,zAP fuel p v []=some r0∧r0.2.1=true):=by
 obtain⟨b,hb,hb2⟩:=VValid_M v (fuel:=fuel) (by omega) hs2
 rw[zBX,zJ1 p (by omega) hs,zAs,hb]
 cases hp:vld p with
 |false=>exact⟨([],false,1),rfl,fun h=>(by cases h)⟩
 |true=>
  cases b with
  |false=>exact⟨([],false,1),rfl,fun h=>(by cases h)⟩
  |true=>
   obtain⟨r,hr,hr2⟩:=match_M p fuel v [] hf (vld_nok hp) (hb2 rfl) hs hs2 (by simp only[List.length_nil];omega)
   simp only[Bool.not_true,Bool.false_eq_true,if_false,zAs]
   rw[hr,zAs]
   obtain⟨o,ok,fl⟩:=r
   cases fl with
   |true=>exact⟨([],false,12),rfl,fun h=>(by cases h)⟩
   |false=>
    cases ok with
    |false=>exact⟨([],false,0),rfl,fun h=>(by cases h)⟩
    |true=>exact⟨(o,true,0),rfl,fun _=>⟨trivial,hb2 rfl,_,rfl,rfl⟩⟩
theorem Match_ok(p:zLc)(v:zLZ){fuel:Nat}(hf:wt p<=fuel)(hs:nds p<=200)(hp:vld p=true)(hv:zCF fuel v=some true){o:List zLZ}(h:zAP fuel p v []=some (o,true,false)):
 zBX fuel p v=some (o,true,0):=by
 rw[zBX,zJ1 p hf hs,zAs,hv,hp,h]
 rfl
theorem numbered_T(l:List (List UInt8))(m:Int)(hl:l.length<=1000000):Tot (fun n=>zB7 n l m) (fun b=>b=true->(l.length:Int)=m):=by
 unfold zB7
 refine Tot.ite (fun _=>Tot.pure fun h=>by cases h) (fun h=>?_)
 have h:=eqT (notF h)
 refine Tot.bind (A:=fun _=>True) ?_ (fun o _=>Tot.sum (fun a _ _=>h) (fun b hb=>Tot.pure fun _=>h))
 refine Tot.loop l (fun n k (b:Unit) i=>zBD l k i) (fun n i b x=>(zDY ((i+1:Nat):Int)).bind fun v=>if (!(eqS x v))=true then some (.inl (.inl false)) else some (.inr ())) (fun _=>.inr ()) (fun n k b i=>?_) (fun _ _=>True) (fun _=>True) ?_ (fun _ _=>trivial) () trivial
 ·rw[zBD]
  split
  ·congr 1;funext x
   rw[Option.bind_assoc]
   congr 1;funext v
   split<;>rfl
  ·rfl
 ·intro i b x hx _
  have hi:=(zq1 hx).1
  refine Tot.k (itoa_M (i+1) (by omega)) ?_
  exact Tot.ite (fun _=>Tot.pure ⟨fun _ _=>trivial,fun _ _=>trivial⟩) (fun _=>Tot.pure ⟨fun _ _=>trivial,fun _ _=>trivial⟩)
theorem Find_T(l:List (List UInt8))(s:List UInt8):Tot (fun n=>zFo n l s) (fun r=>r<0∨(0<=r∧r<l.length)):=by
 unfold zFo
 refine Tot.bind (A:=fun o=> ∀a:Int,o=.inl a->0<=a∧a<(l.length:Int)) ?_ (fun o ho=>Tot.sum (fun a ha=>.inr (ho a ha)) (fun b hb=>Tot.pure (.inl (by decide))))
 refine Tot.loop l (fun n k (b:Unit) i=>zDK l s k i) (fun n i b x=>if eqS x s=true then some (.inl (.inl (i:Int))) else some (.inr ())) (fun _=>.inr ()) (fun n k b i=>?_) (fun _ _=>True) _ ?_ (fun _ _ a ha=>by cases ha) () trivial
 ·rw[zDK]
  split
  ·congr 1;funext x
   split<;>rfl
  ·rfl
 ·intro i b x hx _
  have hi:=(zq1 hx).1
  refine Tot.ite (fun _=>Tot.pure ⟨fun g hg a ha=>?_,fun _ _=>trivial⟩) (fun _=>Tot.pure ⟨fun g hg=>(by cases hg),fun _ _=>trivial⟩)
  cases hg;cases ha;omega
theorem typing_T(p:zLc): ∀(c:zLd)(w:zLX),Fm c->csz c<=20000->w.binds.length+nds p<=1000->Tot (fun n=>zAO n p c w) (fun r=>r.2.binds.length<=w.binds.length+nds p):=by
 induction p using zGk with
 |h p ih=>
 intro c w hf hc hw
 have hp:=zIk p
 refine Tot.step (fun n=>by rw[zAO]) ?_
 refine Tot.ite (fun _=>Tot.pure (by simp only;omega)) (fun _=>Tot.ite (fun _=>?_) (fun _=>Tot.ite (fun _=>Tot.ite (fun _=>Tot.pure (by simp only;omega)) (fun _=>Tot.pure (by simp only;omega))) (fun _=>Tot.ite (fun _=>?_) (fun _=>?_))))
 ·refine Tot.bind (Shift_T c 0 0 (by omega) hf.sh) fun v _=>Tot.k (zE1 (by decide) (by simp;omega)) (Tot.pure ?_)
  simp;omega
 ·refine Tot.bind (A:=fun b=>b=false->c.L.length=p.L.length) ?_ (fun b hb=>Tot.ite (fun _=>Tot.pure (by simp only;omega)) (fun h=>?_))
  ·refine Tot.ite (fun _=>Tot.pure fun h=>by cases h) (fun h=>?_)
   have ho:=eqT (notF h)
   have hn:=hf.here.len.2.2 (.inl ho)
   refine Tot.bind (numbered_T c.Names _ (by have:=hf.here.names;omega)) fun v hv=>Tot.pure fun h=>?_
   have:=hv (notF h)
   omega
  ·have hlen:=hb h
   refine Tot.bind (Tot.loop p.L (fun n k b i=>zAR (zAO n) p c k b i)
    (fun n i b x=>(c.L[i]?).bind fun y=>(zAO n x y ⟨b⟩).bind fun v=>if (!(eqI v.1 0))=true then some (.inl (.inl (v.1,v.2))) else some (.inr v.2.binds)) .inr
    (fun n k b i=>?_) (fun i b=>b.length<=w.binds.length+((p.L.take i).map nds).sum) (fun o=>(∀a,o=.inl a->a.2.binds.length<=w.binds.length+nds p)∧∀b,o=.inr b->b.length<=w.binds.length+nds p) ?_ (fun b hb=>⟨fun a ha=>(by cases ha),fun b' hb'=>?_⟩) w.binds (by simp)) fun o ho=>Tot.sum (fun a ha=>ho.1 a ha) (fun b hb=>Tot.pure (ho.2 b hb))
   ·rw[zAR]
    split
    ·congr 1;funext x
     rw[Option.bind_assoc]
     congr 1;funext y
     rw[Option.bind_assoc]
     congr 1;funext v
     split<;>rfl
    ·rfl
   ·intro i b x hx hb
    have hi:=(zq1 hx).1
    have hm:=zq3 hx
    have hy:c.L[i]? =some c.L[i]:=zq2 (by omega)
    have hym:c.L[i]∈c.L:=List.getElem_mem _
    have h2:=zHJ nds p.L (i+1)
    rw[zDR nds _ _ _ hx] at h2
    have h3:=zG7 p
    refine Tot.k hy (Tot.bind (ih x hm c.L[i] ⟨b⟩ (hf.part hym) (by have:=zCm hym;omega) (by simp only;omega)) fun v hv=>?_)
    simp only at hv
    refine Tot.ite (fun _=>Tot.pure ⟨fun g hg=>?_,fun b' hb'=>(by cases hb')⟩) (fun _=>Tot.pure ⟨fun g hg=>(by cases hg),fun b' hb'=>?_⟩)
    ·cases hg
     exact⟨fun a ha=>by cases ha;simp only;omega,fun b hb=>by cases hb⟩
    ·cases hb'
     rw[zDR nds _ _ _ hx];omega
   ·cases hb'
    rw[List.take_length] at hb
    rw[zG7];omega
 ·refine Tot.bind (A:=fun r=>r.2.binds.length<=w.binds.length+nds p) ?_ (fun v hv=>Tot.pure hv)
  refine Tot.step (fun n=>by rw[zAq]) ?_
  refine Tot.bind (Unroll_T c (by omega) hf.sh) fun v hv=>Tot.ite (fun _=>Tot.pure (by simp only;omega)) (fun _=>Tot.ite (fun _=>Tot.pure (by simp only;omega)) (fun h=>?_))
  rw[Bool.or_eq_false_iff] at h
  obtain⟨v1,v2⟩:=hv (eqT (notF h.1))
  have ho:=eqT (notF h.2)
  have hl:=v1.here.len.2.2 (.inr ho)
  refine Tot.bind (Find_T v.1.Names p.S) fun i hi=>Tot.ite (fun _=>Tot.pure (by simp only;omega)) (fun h=>?_)
  have h:=ltF h
  obtain⟨x,hx,e1,e2⟩:=idxI v.1.L i (by omega) (by omega)
  refine Tot.k e1 (Tot.k rfl (Tot.ite (fun _=>Tot.pure (by simp only;omega)) (fun _=>Tot.ite (fun _=>Tot.pure (by simp only;omega)) (fun h=>?_))))
  have h:=eqF h
  obtain⟨y,hy,hym⟩:=at0 (l:=p.L) (by omega)
  have hny:=zG6 hym
  exact Tot.k hy (Tot.bind (ih y hym x w (v1.part hx) (by have:=zCm hx;omega) (by omega)) fun r hr=>Tot.pure (by simp only;omega))
theorem Type_T(p:zLc)(c:zLd)(hp:nds p<=200)(hc:csz c<=1000000000000)(hs:Sh c):Tot (fun n=>zB1 n p c) (fun _=>True):=by
 unfold zB1
 refine Tot.bind (A:=fun _=>True) ?_ (fun b _=>Tot.ite (fun _=>Tot.pure trivial) (fun _=>?_))
 ·refine Tot.bind (Ev.of (K:=wt p) fun n hn=>zJ1 p hn hp).tot fun v _=>Tot.ite (fun _=>Tot.pure trivial) (fun _=>?_)
  exact Tot.bind (zHx c hc hs) fun _ _=>Tot.pure trivial
 ·refine Tot.bind (Normal_T c hc hs) fun v hv=>Tot.ite (fun _=>Tot.pure trivial) (fun h=>?_)
  obtain⟨v1,v2⟩:=hv.ok (eqT (notF h))
  exact Tot.bind (typing_T p v.1 ⟨[]⟩ v1 v2 (by simp;omega)) fun r _=>Tot.ite (fun _=>Tot.pure trivial) (fun _=>Tot.pure trivial)
inductive Wd:zLc->zLc->Prop
 |any (p:zLc):Wd p (zLc.mk 1 0 [] [])
 |node (p w:zLc) (ho:w.Op=p.Op) (hn:w.N=p.N) (hs:w.S=p.S) (hl:w.L.length=p.L.length) (h: ∀(i:Nat) x y,p.L[i]? =some x->w.L[i]? =some y->Wd x y):Wd p w
theorem Wd.refl(p:zLc):Wd p p:=by
 induction p using zGk with
 |h p ih=>exact .node p p rfl rfl rfl rfl fun i x y hx hy=>by rw[hx] at hy;cases hy;exact ih x (zq3 hx)
theorem tl_inl{F:zLc->zLd->zLX->Option (Int×zLX)}{p:zLc}{c:zLd}: ∀(k:Nat)(b:List zLa)(i:Nat){a},zAR F p c k b i=some (.inl a)->a.1≠0
 |0,b,i,a,h=>by rw[zAR] at h;cases h
 |k+1,b,i,a,h=>by
  rw[zAR] at h
  split at h
  ·obtain⟨x,hx,h⟩:=zEh h
   obtain⟨y,hy,h⟩:=zEh h
   obtain⟨v,hv,h⟩:=zEh h
   split at h
   ·rename_i hc
    cases h
    exact eqF (notT hc)
   ·exact tl_inl k _ _ h
  ·cases h
theorem tl_mono{F:zLc->zLd->zLX->Option (Int×zLX)}{p w:zLc}{c:zLd}(hl:w.L.length=p.L.length)
 (hF: ∀(i:Nat) x y z b b' r r',p.L[i]? =some x->w.L[i]? =some y->F x z b=some r->r.1=0->F y z b'=some r'->r'.1=0):
 ∀(k:Nat)(b b':List zLa)(i:Nat){z o},zAR F p c k b i=some (.inr z)->zAR F w c k b' i=some o->∃z',o=.inr z'
 |0,b,b',i,z,o,h,h'=>by rw[zAR] at h;cases h
 |k+1,b,b',i,z,o,h,h'=>by
  rw[zAR] at h h'
  rw[hl] at h'
  split at h
  ·rename_i hi
   rw[if_pos hi] at h'
   obtain⟨x,hx,h⟩:=zEh h
   obtain⟨y,hy,h⟩:=zEh h
   obtain⟨v,hv,h⟩:=zEh h
   obtain⟨x',hx',h'⟩:=zEh h'
   rw[hy,zAs] at h'
   obtain⟨v',hv',h'⟩:=zEh h'
   split at h
   ·cases h
   ·rename_i hc
    have hv0:v.1=0:=eqT (notF (by simpa using hc))
    have hv1:=hF i x x' y _ _ v v' hx hx' hv hv0 hv'
    rw[if_neg (by rw[show eqI v'.1 0=true from zqb hv1];simp)] at h'
    exact tl_mono hl hF k _ _ _ h h'
  ·rename_i hi
   rw[if_neg hi] at h'
   cases h'
   exact⟨_,rfl⟩
theorem typ_mono: ∀n:Nat,(∀p w c b b' r r',Wd p w->zAO n p c b=some r->r.1=0->zAO n w c b'=some r'->r'.1=0)∧
 (∀p w c b b' r r',w.S=p.S->w.L.length=p.L.length->(∀(i:Nat) x y,p.L[i]? =some x->w.L[i]? =some y->Wd x y)->zAq n p c b=some r->r.1=0->zAq n w c b'=some r'->r'.1=0)
 |0=>by
  refine⟨fun p w c b b' r r' _ h=>?_,fun p w c b b' r r' _ _ _ h=>?_⟩
  ·rw[zAO] at h;cases h
  ·rw[zAq] at h;cases h
 |n+1=>by
  obtain⟨ih1,ih2⟩:=typ_mono n
  refine⟨fun p w c b b' r r' hw h h0 h'=>?_,fun p w c b b' r r' hs hl hw h h0 h'=>?_⟩
  ·cases hw with
   |any=>rw[zAO,if_pos (by decide)] at h';cases h';rfl
   |node _ _ ho hn hs hl hw=>
    rw[zAO] at h h'
    rw[ho,hl] at h'
    split at h
    ·rename_i h1;rw[if_pos h1] at h';cases h';rfl
    rename_i h1;rw[if_neg h1] at h'
    split at h
    ·rename_i h2;rw[if_pos h2] at h'
     obtain⟨v,_,h'⟩:=zEh h'
     obtain⟨l,_,h'⟩:=zEh h'
     cases h';rfl
    rename_i h2;rw[if_neg h2] at h'
    split at h
    ·rename_i h3;rw[if_pos h3] at h'
     split at h
     ·cases h;cases h0
     ·rename_i h4;rw[if_neg h4] at h';cases h';rfl
    rename_i h3;rw[if_neg h3] at h'
    split at h
    ·rename_i h4;rw[if_pos h4] at h'
     obtain⟨q,hq,h⟩:=zEh h
     rw[hq,zAs] at h'
     split at h
     ·cases h;cases h0
     ·rename_i h5;rw[if_neg h5] at h'
      obtain⟨o,ho,h⟩:=zEh h
      obtain⟨o',ho',h'⟩:=zEh h'
      cases o with
      |inl a=>
       have:=tl_inl _ _ _ ho
       cases h
       exact absurd h0 this
      |inr z=>
       obtain⟨z',rfl⟩:=tl_mono hl (fun i x y z b b' r r' hx hy h1 h2 h3=>ih1 x y z b b' r r' (hw i x y hx hy) h1 h2 h3) _ _ _ _ ho ho'
       cases h';rfl
    ·rename_i h4;rw[if_neg h4] at h'
     obtain⟨v,hv,h⟩:=zEh h
     obtain⟨v',hv',h'⟩:=zEh h'
     cases h;cases h'
     exact ih2 p w c b b' v v' hs hl hw hv h0 hv'
  ·rw[zAq] at h h'
   obtain⟨v,hv,h⟩:=zEh h
   rw[hv,zAs] at h'
   split at h
   ·rename_i h1;cases h
    have:=eqT h1
    simp only at h0
    omega
   rename_i h1;rw[if_neg h1] at h'
   split at h
   ·cases h;cases h0
   rename_i h2;rw[if_neg h2] at h'
   rw[hs] at h'
   obtain⟨i,hi,h⟩:=zEh h
   rw[hi,zAs] at h'
   split at h
   ·cases h;cases h0
   rename_i h3;rw[if_neg h3] at h'
   obtain⟨x,hx,h⟩:=zEh h
   rw[hx,zAs] at h'
   obtain⟨u,hu,h⟩:=zEh h
   rw[hu,zAs,hl] at h'
   split at h
   ·cases h;cases h0
   rename_i h4;rw[if_neg h4] at h'
   split at h
   ·rename_i h5;rw[if_pos h5] at h';cases h';rfl
   rename_i h5;rw[if_neg h5] at h'
   obtain⟨y,hy,h⟩:=zEh h
   obtain⟨y',hy',h'⟩:=zEh h'
   obtain⟨r1,hr1,h⟩:=zEh h
   obtain⟨r2,hr2,h'⟩:=zEh h'
   cases h;cases h'
   exact ih1 y y' x b b' r1 r2 (hw 0 y y' hy hy') hr1 h0 hr2
theorem Type_mono{n:Nat}{p w:zLc}{c:zLd}(hw:Wd p w)(hv:zB8 n w=some true){r r':List zLa×Int}(h:zB1 n p c=some r)(h0:r.2=0)(h':zB1 n w c=some r'):r'.2=0:=by
 unfold zB1 at h h'
 obtain⟨q,hq,h⟩:=zEh h
 obtain⟨v,hv0,hq⟩:=zEh hq
 split at h
 ·cases h;cases h0
 rename_i hqf
 have hq2:zBZ n c=some true:=by
  split at hq
  ·cases hq;exact absurd rfl hqf
  ·obtain⟨t,ht,hq⟩:=zEh hq
   cases hq
   cases t with
   |true=>exact ht
   |false=>exact absurd rfl hqf
 rw[hv,zAs,if_neg (by decide),hq2,zAs,zAs,if_neg (by decide)] at h'
 obtain⟨m,hm,h⟩:=zEh h
 rw[hm,zAs] at h'
 split at h
 ·rename_i h1;cases h
  have:=eqF (notT h1)
  exact absurd h0 this
 rename_i h1;rw[if_neg h1] at h'
 obtain⟨t,ht,h⟩:=zEh h
 obtain⟨t',ht',h'⟩:=zEh h'
 split at h
 ·rename_i h2;cases h
  exact absurd h0 (eqF (notT h2))
 rename_i h2
 have e:=(typ_mono n).1 p w m.1 _ _ t t' hw ht (eqT (notF (by simpa using h2))) ht'
 rw[if_neg (by rw[show eqI t'.1 0=true from zqb e];simp)] at h'
 cases h';rfl
theorem Tot.loopG{α β γ:Type}(l:List α)(g:β->Bool)(L:Nat->Nat->β->Nat->Option γ)(S:Nat->Nat->β->α->Option β)(E:β->γ)
 (hL: ∀n k b i,L n (k+1) b i=if (ltI (i:Int) (l.length:Int)&&g b)=true then (l[i]?).bind fun x=>(S n i b x).bind fun b'=>L n k b' (i+1) else some (E b))
 (I:Nat->β->Prop) (R:γ->Prop) (hS: ∀i b x,l[i]? =some x->g b=true->I i b->Tot (fun n=>S n i b x) (fun b'=>I (i+1) b'))
 (hE: ∀i b,I i b->i=l.length∨g b=false->R (E b)) (b0:β) (h0:I 0 b0):Tot (fun n=>L n n b0 0) R:=by
 have key: ∀m i b,i+m=l.length->I i b->∃g,R g∧∃N,∀n,N<=n->∀k,m<k->L n k b i=some g:=by
  intro m
  induction m with
  |zero=>
   intro i b hi hI
   refine⟨E b,hE i b hI (.inl (by omega)),0,fun n _ k hk=>?_⟩
   obtain⟨k,rfl⟩: ∃q,k=q+1:=⟨k-1,by omega⟩
   rw[hL,if_neg]
   rw[zq7]
   exact fun h=>ltN (by omega) h.1
  |succ m ih=>
   intro i b hi hI
   have hx:l[i]? =some l[i]:=zq2 (by omega)
   cases hg:g b with
   |false=>
    refine⟨E b,hE i b hI (.inr hg),0,fun n _ k hk=>?_⟩
    obtain⟨k,rfl⟩: ∃q,k=q+1:=⟨k-1,by omega⟩
    rw[hL,if_neg]
    rw[zq7,hg]
    exact fun h=>by cases h.2
   |true=>
    obtain⟨b',⟨N,hN⟩,q2⟩:=hS i b l[i] hx hg hI
    obtain⟨z,hz,N',hN'⟩:=ih (i+1) b' (by omega) q2
    refine⟨z,hz,N+N',fun n hn k hk=>?_⟩
    obtain⟨k,rfl⟩: ∃q,k=q+1:=⟨k-1,by omega⟩
    rw[hL,if_pos (by rw[hg,Bool.and_true];exact ltP (by omega)),hx,zAs,show S n i b l[i]=_ from hN n (by omega),zAs]
    exact hN' n (by omega) k (by omega)
 obtain⟨g,hg,N,hN⟩:=key l.length 0 b0 (by omega) h0
 exact⟨g,⟨N+l.length+1,fun n hn=>hN n (by omega) n (by omega)⟩,hg⟩
theorem wideK_T(k:zLb): ∀d c:Int,0<=d->d<=100->0<=c->c<=401->Tot (fun n=>zBo n k d c) (fun r=>c<r∧r<=1000):=by
 induction k using zLE with
 |h k ih=>
 intro d c h1 h2 h3 h4
 refine Tot.step (fun n=>by rw[zBo]) ?_
 refine Tot.chk (by omega) (by omega) (Tot.ite (fun _=>?_) (fun hc=>?_))
 ·refine Tot.bind (A:=fun r=>r=(1000:Int)) ?_ (fun r hr=>Tot.pure (by omega))
  exact Tot.loopG k.L (fun b=>leI b 400) (fun n kk b i=>zCk (zBo n) k d kk b i) (fun n i b x=>(chk .i64 (d+1)).bind fun m=>zBo n x m b) (fun b=>b)
   (fun n kk b i=>by rw[zCk];simp only[Option.bind_assoc]) (fun i b=>b=(1000:Int)) _ (fun i b x hx hg hb=>by subst hb;cases hg) (fun i b hb _=>hb) 1000 rfl
 ·rw[Bool.or_eq_false_iff] at hc
  have hd:=ltF hc.1
  refine Tot.bind (A:=fun r=>c<r∧r<=1000) ?_ (fun r hr=>Tot.pure hr)
  refine Tot.loopG k.L (fun b=>leI b 400) (fun n kk b i=>zCj (zBo n) k d kk b i) (fun n i b x=>(chk .i64 (d+1)).bind fun m=>zBo n x m b) (fun b=>b)
   (fun n kk b i=>by rw[zCj];simp only[Option.bind_assoc]) (fun i b=>c<b∧b<=1000) _ (fun i b x hx hg hb=>?_) (fun i b hb _=>hb) (c+1) (by omega)
  have hg:=leT hg
  exact Tot.chk (by omega) (by omega) ((ih x (zq3 hx) (d+1) b (by omega) (by omega) (by omega) (by omega)).mono fun r hr=>by omega)
theorem wideN_T(l:List (List UInt8)):Tot (fun n=>zA7 n l) (fun _=>True):=by
 unfold zA7 zBj
 refine Tot.bind (zGH (Q:=fun _=>True) (R:=fun _=>True) (P:=True) (T:=True) (Tot.index l (fun n k i=>zAh l k i) (fun n x=>zDt x) (fun n k i=>by rw[zAh]) _ _ fun x hx=>?_)) fun v _=>Tot.pure trivial
 unfold zDt
 exact Tot.pure ⟨fun _=>trivial,fun _=>trivial⟩
theorem wide_T(c:zLd): ∀d a:Int,0<=d->d<=100->0<=a->a<=400->Tot (fun n=>zCT n c d a) (fun r=>a<r∧r<=1000∧(r<=400->a+csz c<=r∧Sh c)):=by
 induction c using zFy with
 |h c ih=>
 intro d a h1 h2 h3 h4
 refine Tot.step (fun n=>by rw[zCT]) ?_
 refine Tot.chk (by omega) (by omega) (Tot.bind (A:=fun b=>b=false->d<=50∧c.S.length<=100) ?_ (fun b hb=>Tot.ite (fun _=>Tot.pure ⟨by omega,by decide,fun h=>by omega⟩) (fun h=>?_)))
 ·refine Tot.ite (fun _=>Tot.pure fun h=>by cases h) (fun hd=>Tot.ite (fun _=>Tot.pure fun h=>by cases h) (fun _=>Tot.ite (fun _=>Tot.pure fun h=>by cases h) (fun _=>Tot.ite (fun _=>Tot.pure fun h=>by cases h) (fun hs=>?_))))
  have hd:=ltF hd
  have hs:=ltF hs
  exact Tot.bind (wideN_T c.Names) fun v _=>Tot.pure fun _=>⟨hd,by omega⟩
 ·obtain⟨hd,hs⟩:=hb h
  refine Tot.bind (wideK_T c.Kind 1 (a+1) (by omega) (by omega) (by omega) (by omega)) fun v hv=>?_
  refine Tot.bind (A:=fun r=>a<r∧r<=1000∧(r<=400->a+csz c<=r∧Sh c)) ?_ (fun r hr=>Tot.pure hr)
  refine Tot.loopG c.L (fun b=>leI b 400) (fun n kk b i=>zCi (zCT n) c d kk b i) (fun n i b x=>(chk .i64 (d+1)).bind fun m=>zCT n x m b) (fun b=>b)
   (fun n kk b i=>by rw[zCi];simp only[Option.bind_assoc]) (fun i b=>a<b∧b<=1000∧(b<=400->a+1+((c.L.take i).map csz).sum<=b∧∀j x,j<i->c.L[j]? =some x->Sh x)) _ (fun i b x hx hg hb=>?_) (fun i b hb he=>?_) v ⟨by omega,hv.2,fun _=>⟨by simp;omega,fun j x hj=>by omega⟩⟩
  ·have hg:=leT hg
   obtain⟨b1,b2,b3⟩:=hb
   obtain⟨b4,b5⟩:=b3 hg
   refine Tot.chk (by omega) (by omega) ((ih x (zq3 hx) (d+1) b (by omega) (by omega) (by omega) hg).mono fun r hr=>⟨by omega,hr.2.1,fun h=>?_⟩)
   obtain⟨r1,r2⟩:=hr.2.2 h
   refine⟨by rw[zDR csz _ _ _ hx];omega,fun j y hj hy=>?_⟩
   by_cases e:j=i
   ·subst e;rw[hx] at hy;cases hy;exact r2
   ·exact b5 j y (by omega) hy
  ·obtain⟨b1,b2,b3⟩:=hb
   refine⟨b1,b2,fun h=>?_⟩
   obtain⟨b4,b5⟩:=b3 h
   rcases he with rfl|he
   ·rw[List.take_length] at b4
    refine⟨by rw[zGq c];omega,.mk _ (by omega) fun x hx=>?_⟩
    obtain⟨j,hj,rfl⟩:=List.getElem_of_mem hx
    exact b5 j _ hj (zq2 hj)
   ·have:=leF he
    omega
theorem Wide_T(c:zLd):Tot (fun n=>zE4 n c) (fun b=>b=false->csz c<=400∧Sh c):=by
 unfold zE4
 refine Tot.bind (wide_T c 1 0 (by decide) (by decide) (by decide) (by decide)) fun r hr=>Tot.pure fun h=>?_
 have h:=ltF h
 obtain⟨h1,h2⟩:=hr.2.2 h
 exact⟨by omega,h2⟩
theorem any_loop{α:Type}(l:List α)(L:Nat->Nat->Option (Int ⊕ Unit))(F:α->Option Bool)(V:α->Bool)
 (hL: ∀k i,L (k+1) i=if ltI (i:Int) (l.length:Int)=true then (l[i]?).bind fun x=>(F x).bind fun v=>if v=true then some (.inl (i:Int)) else L k (i+1) else some (.inr ()))
 (hF: ∀x,x∈l->F x=some (V x)): ∀m i k,i+m=l.length->m<k->∃o,L k i=some o∧((l.drop i).any V=true->∃j:Nat,o=.inl (j:Int))∧((l.drop i).any V=false->o=.inr ()):=by
 intro m
 induction m with
 |zero=>
  intro i k hi hk
  obtain⟨k,rfl⟩: ∃q,k=q+1:=⟨k-1,by omega⟩
  rw[hL,if_neg (ltN (by omega)),List.drop_eq_nil_of_le (by omega)]
  exact⟨_,rfl,fun h=>(by cases h),fun _=>rfl⟩
 |succ m ih=>
  intro i k hi hk
  obtain⟨k,rfl⟩: ∃q,k=q+1:=⟨k-1,by omega⟩
  have hx:l[i]? =some l[i]:=zq2 (by omega)
  rw[hL,if_pos (ltP (by omega)),hx,zAs,hF _ (List.getElem_mem _),zAs,List.drop_eq_getElem_cons (by omega),List.any_cons]
  cases V l[i] with
  |true=>exact⟨_,rfl,fun _=>⟨i,rfl⟩,fun h=>by cases h⟩
  |false=>
   obtain⟨o,h1,h2,h3⟩:=ih (i+1) k (by omega) (by omega)
   exact⟨o,h1,h2,h3⟩
theorem any_M{α:Type}(l:List α)(L:Nat->Nat->Option (Int ⊕ Unit))(F:α->Option Bool)(V:α->Bool)
 (hL: ∀k i,L (k+1) i=if ltI (i:Int) (l.length:Int)=true then (l[i]?).bind fun x=>(F x).bind fun v=>if v=true then some (.inl (i:Int)) else L k (i+1) else some (.inr ()))
 (hF: ∀x,x∈l->F x=some (V x)) {n:Nat} (hn:l.length<n):
 (((L n 0).bind fun o=>Sum.elim some (fun _=>some (-1:Int)) o).bind fun v=>some (leI 0 v))=some (l.any V):=by
 obtain⟨o,h1,h2,h3⟩:=any_loop l L F V hL hF l.length 0 n (by omega) hn
 rw[List.drop_zero] at h2 h3
 rw[h1,zAs]
 cases h:l.any V with
 |true=>obtain⟨j,rfl⟩:=h2 h;exact congrArg some (zqb (by omega))
 |false=>rw[h3 h];rfl
theorem bigs_M(l:List zLc){n:Nat}(hn:l.length<n)(hw: ∀x,x∈l->wt x<=n): ∃b,zBV n l=some b∧(b=false->∀x,x∈l->nds x<=200):=by
 refine⟨l.any fun x=>(zEW n x).getD false,?_,fun h x hx=>?_⟩
 ·unfold zBV zB5
  refine any_M l (fun k i=>zAv n l k i) (fun x=>zEW n x) _ (fun k i=>by rw[zAv]) (fun x hx=>?_) hn
  obtain⟨b,hb,_⟩:=Big_M x (fuel:=n) (hw x hx)
  rw[hb];rfl
 ·obtain⟨b,hb,h2⟩:=Big_M x (fuel:=n) (hw x hx)
  have:=List.any_eq_false.1 h x hx
  rw[hb] at this
  exact h2 (by simpa using this)
theorem valids_M(l:List zLc){n:Nat}(hn:l.length<n)(hw: ∀x,x∈l->wt x<=n)(hs: ∀x,x∈l->nds x<=200):zBA n l=some (l.any fun x=> !vld x):=by
 unfold zBA zBn
 refine any_M l (fun k i=>zAj n l k i) (fun x=>zDc n x) _ (fun k i=>by rw[zAj]) (fun x hx=>?_) hn
 rw[zDc,zJ1 x (hw x hx) (hs x hx)];rfl
theorem concat_M(a b:List zLc){n:Nat}(hn:3<=n)(h:a.length+b.length<=1000):zAo n [a,b]=some (a++b):=by
 obtain⟨k,rfl⟩: ∃k,n=k+3:=⟨n-3,by omega⟩
 have e1:zAz [a,b] (k+3) 0 0=some ((a.length:Int)+b.length):=by
  rw[zAz,if_pos (ltP (by simp))]
  show(chk .i64 (0+(a.length:Int))).bind _=_
  rw[chk64 (by omega) (by omega),zAs,if_neg (fun h=>by have:=ltT h;omega),zAz,if_pos (ltP (by simp))]
  show(chk .i64 (0+(a.length:Int)+(b.length:Int))).bind _=_
  rw[chk64 (by omega) (by omega),zAs,if_neg (fun h=>by have:=ltT h;omega),zAz,if_neg (ltN (by simp))]
  congr 1;omega
 have e2:zAy [a,b] (k+3) [] 0=some (a++b):=by
  rw[zAy,if_pos (ltP (by simp))]
  show(app 56 [] a).bind _=_
  rw[zE1 (by decide) (by simp;omega),zAs,zAy,if_pos (ltP (by simp))]
  show(app 56 ([]++a) b).bind _=_
  rw[zE1 (by decide) (by simp;omega),zAs,zAy,if_neg (ltN (by simp))]
  simp
 rw[zAo,e1,zAs,growC,if_pos (by omega),zAs,e2];rfl
def pAny:zLc:=zLc.mk 1 0 [] []
theorem widen_M: ∀(at2:List UInt8)(p:zLc),nds p<=200->∃w,(∀n,at2.length<n->zBQ n p at2=some w)∧Wd p w
 |[],p,_=>by
  refine⟨pAny,fun n hn=>?_,.any p⟩
  obtain⟨n,rfl⟩: ∃q,n=q+1:=⟨n-1,by omega⟩
  rw[zBQ,if_pos (by simp[eqI])];rfl
 |a::rest,p,hp=>by
  have hl:=len_nds p
  by_cases h2:p.L.length=0
  ·refine⟨pAny,fun n hn=>?_,.any p⟩
   obtain⟨n,rfl⟩: ∃q,n=q+1:=⟨n-1,by omega⟩
   rw[zBQ,if_pos (by rw[h2];simp[eqI])];rfl
  ·have ha:a.toNat<256:=a.toNat_lt
   have hlen:0<p.L.length:=by omega
   have hm:Int.tmod (a.toNat:Int) (p.L.length:Int)=((a.toNat%p.L.length:Nat):Int):=by
    rw[Int.tmod_eq_emod_of_nonneg (by omega)];omega
   have hk:a.toNat%p.L.length<p.L.length:=Nat.mod_lt _ hlen
   have hx:p.L[a.toNat%p.L.length]? =some p.L[a.toNat%p.L.length]:=zq2 hk
   have hxm:p.L[a.toNat%p.L.length]∈p.L:=List.getElem_mem _
   have hix:ixC p.L ((a.toNat%p.L.length:Nat):Int)=some ():=by rw[ixC,if_pos ⟨by omega,by omega⟩]
   have hcl:zCa p.L=some p.L:=by
    rw[zCa]
    have hne:neC p.L=some ():=by
     cases hq:p.L with
     |nil=>rw[hq] at hlen;cases hlen
     |cons x l=>rfl
    rw[hne,zAs,clC,if_pos ⟨hlen,by decide,by omega⟩];rfl
   have hsub:subC (a::rest) 1 ((a::rest).length:Int)=some rest:=by
    have:=subD (a::rest) 1 (by simp)
    exact this
   obtain⟨y,hy,hw⟩:=widen_M rest p.L[a.toNat%p.L.length] (by have:=zG6 hxm;omega)
   refine⟨zLc.mk p.Op p.N p.S (p.L.set (a.toNat%p.L.length) y),fun n hn=>?_,?_⟩
   ·obtain⟨n,rfl⟩: ∃q,n=q+1:=⟨n-1,by omega⟩
    rw[zBQ,if_neg (by simp only[Bool.or_eq_true,not_or];exact⟨fun h=>by have:=eqT h;simp at this;omega,fun h=>by have:=eqT h;omega⟩)]
    rw[show(a::rest)[0]? =some a from rfl,zAs,hm,modC,if_pos ⟨by omega,by show inR .i64 _;simp only[inR];omega⟩,zAs,hcl,zAs,hix,zAs,Int.toNat_natCast,hx,zAs,hsub,zAs,hy n (by simp at hn;omega),zAs,zAs,zAs]
   ·refine .node _ _ rfl rfl rfl (by simp) fun i u v hu hv=>?_
    by_cases e:a.toNat%p.L.length=i
    ·subst e
     rw[hx] at hu;cases hu
     simp only[List.getElem?_set_self hk,Option.some.injEq] at hv
     rw[<-hv];exact hw
    ·simp only[List.getElem?_set_ne e] at hv
     rw[hu] at hv;cases hv
     exact Wd.refl _
theorem Wd.cov{p w:zLc}(h:Wd p w):Cov w p:=by
 induction h with
 |any p=>exact .any (.inl rfl)
 |node p w ho hn hs hl h ih=>exact .node ho hn hs hl fun i x y hx hy=>ih i y x hy hx
theorem sum_le2{α:Type}{f:α->Nat}: ∀{l l':List α},l'.length=l.length->(∀(i:Nat) x y,l[i]? =some x->l'[i]? =some y->f y<=f x)->(l'.map f).sum<=(l.map f).sum
 |[],[],_,_=>Nat.le_refl _
 |[],_::_,h,_=>by cases h
 |_::_,[],h,_=>by cases h
 |x::l,y::l',h,hf=>by
  have h1:=hf 0 x y rfl rfl
  have h2:=sum_le2 (f:=f) (l:=l) (l':=l') (by simpa using h) fun i a b ha hb=>hf (i+1) a b (by simpa using ha) (by simpa using hb)
  simp only[List.map_cons,List.sum_cons]
  omega
theorem Wd.nds{p w:zLc}(h:Wd p w):nds w<=nds p:=by
 induction h with
 |any p=>have:=zIk p;rw[zG7];simpa using this
 |node p w ho hn hs hl h ih=>rw[zG7 w,zG7 p];have:=sum_le2 hl ih;omega
theorem Wd.wt{p w:zLc}(h:Wd p w):wt w<=wt p:=by
 induction h with
 |any p=>have:=zI9 p;rw[wt_eq];simp;omega
 |node p w ho hn hs hl h ih=>rw[wt_eq w,wt_eq p,hs,hl];have:=sum_le2 hl ih;omega
theorem Wd.nok{p w:zLc}(h:Wd p w):nok p=true->nok w=true:=by
 induction h with
 |any p=>intro _;rw[nok_iff];exact⟨rfl,fun x hx=>by cases hx⟩
 |node p w ho hn hs hl h ih=>
  rw[nok_iff,nok_iff]
  rintro⟨h1,h2⟩
  refine⟨by unfold nodeB at h1 ⊢;rw[ho,hn,hs,hl];exact h1,fun y hy=>?_⟩
  obtain⟨i,hi,rfl⟩:=List.getElem_of_mem hy
  exact ih i _ _ (zq2 (by omega)) (zq2 hi) (h2 _ (List.getElem_mem _))
theorem flat_sub{α β:Type}{f:α->List β}: ∀{l l':List α},l'.length=l.length->(∀(i:Nat) x y,l[i]? =some x->l'[i]? =some y->(f y).Sublist (f x))->((l'.map f).flatten).Sublist ((l.map f).flatten)
 |[],[],_,_=>List.Sublist.refl _
 |[],_::_,h,_=>by cases h
 |_::_,[],h,_=>by cases h
 |x::l,y::l',h,hf=>by
  have h1:=hf 0 x y rfl rfl
  have h2:=flat_sub (f:=f) (l:=l) (l':=l') (by simpa using h) fun i a b ha hb=>hf (i+1) a b (by simpa using ha) (by simpa using hb)
  simp only[List.map_cons,List.flatten_cons]
  exact h1.append h2
theorem Wd.vrs{p w:zLc}(h:Wd p w):(vrs w).Sublist (vrs p):=by
 induction h with
 |any p=>rw[zIm];exact List.nil_sublist _
 |node p w ho hn hs hl h ih=>
  rw[zIm w,zIm p,ho,hs]
  exact(List.Sublist.refl _).append (flat_sub hl ih)
theorem Wd.vld{p w:zLc}(h:Wd p w)(hv:vld p=true):vld w=true:=by
 unfold Go.Proofs.YtencdekdgajgfaaGreatDoor.vld at hv ⊢
 rw[zq7] at hv ⊢
 exact⟨h.nok hv.1,zqb ((of_decide_eq_true hv.2).sublist h.vrs)⟩
theorem ml_len(p:zLc)(v:zLZ)(F:zLc->zLZ->List zLZ->Option (List zLZ×Bool×Bool))(hF: ∀x,x∈p.L->∀y l r,F x y l=some r->r.2.1=true->r.1.length=l.length+(vrs x).length):
 ∀(k:Nat)(l:List zLZ)(i:Nat){o},zAg F p v k l i=some (.inr o)->o.length=l.length+(((p.L.drop i).map vrs).flatten).length
 |0,l,i,o,h=>by rw[zAg] at h;cases h
 |k+1,l,i,o,h=>by
  rw[zAg] at h
  split at h
  ·obtain⟨x,hx,h⟩:=zEh h
   obtain⟨y,hy,h⟩:=zEh h
   obtain⟨r,hr,h⟩:=zEh h
   split at h
   ·cases h
   ·rename_i hc
    have hi:=(zq1 hx).1
    have e:=ml_len p v F hF k _ _ h
    have e2:=hF x (zq3 hx) y l r hr (by simpa using hc)
    have hxe:p.L[i]=x:=(zq1 hx).2
    rw[List.drop_eq_getElem_cons hi,List.map_cons,List.flatten_cons,List.length_append,hxe]
    omega
  ·rename_i hc
   cases h
   have:p.L.length<=i:=by
    have:=ltF (by simpa using hc)
    omega
   rw[List.drop_eq_nil_of_le this];simp
theorem nok_len{p:zLc}(h:nok p=true):((p.Op=1∨p.Op=2∨p.Op=3)->p.L=[])∧(¬(p.Op=1∨p.Op=2∨p.Op=3∨p.Op=5)->p.L.length<=1):=by
 have h1:=(nok_iff.1 h).1
 unfold nodeB at h1
 refine⟨fun ho=>?_,fun ho=>?_⟩
 ·rcases ho with ho|ho|ho<;>simp[ho] at h1<;>exact h1.1
 ·by_cases h4:p.Op=4
  ·simp[h4] at h1;exact h1.1
  ·simp only[not_or] at ho
   simp[ho,h4] at h1
theorem zI3: ∀(n:Nat)(p:zLc)(v:zLZ)(l:List zLZ)(r:List zLZ×Bool×Bool),zAP n p v l=some r->r.2.1=true->nok p=true->r.1.length=l.length+(vrs p).length
 |0,p,v,l,r,h,_,_=>by rw[zAP] at h;cases h
 |n+1,p,v,l,r,h,h0,hp=>by
  obtain⟨hn1,hn2⟩:=nok_len hp
  rw[zAP] at h
  split at h
  ·rename_i ho
   have ho:=eqT ho
   cases h
   rw[zIm,if_neg (by omega),hn1 (.inl ho)];simp
  rename_i h1
  split at h
  ·rename_i ho
   have ho:=eqT ho
   obtain⟨x,_,h⟩:=zEh h
   obtain⟨y,hy,h⟩:=zEh h
   cases h
   rw[app] at hy
   split at hy
   ·cases hy
    rw[zIm,if_pos ho,hn1 (.inr (.inl ho))];simp
   ·cases hy
  rename_i h2
  have h2':=eqF (by simpa using h2)
  split at h
  ·rename_i ho
   have ho:=eqT ho
   cases h
   rw[zIm,if_neg h2',hn1 (.inr (.inr ho))];simp
  rename_i h3
  split at h
  ·obtain⟨b,_,h⟩:=zEh h
   split at h
   ·cases h;cases h0
   ·obtain⟨o,ho,h⟩:=zEh h
    cases o with
    |inl a=>
     have:=ml_inl p v n _ _ _ ho
     cases h
     rw[this] at h0;cases h0
    |inr z=>
     cases h
     have:=ml_len p v (zAP n) (fun x hx y l r hr h0=>zI3 n x y l r hr h0 ((nok_iff.1 hp).2 x hx)) _ _ _ ho
     rw[zIm,if_neg h2',this,List.drop_zero];simp
  ·rename_i h5
   obtain⟨b,_,h⟩:=zEh h
   split at h
   ·cases h;cases h0
   ·obtain⟨x,_,h⟩:=zEh h
    obtain⟨y,_,h⟩:=zEh h
    have hl:=hn2 (by simp only[not_or];exact⟨eqF (by simpa using h1),h2',eqF (by simpa using h3),eqF (by simpa using h5)⟩)
    split at h
    ·cases h;cases h0
    split at h
    ·rename_i hz
     have hz:=eqT hz
     cases h
     rw[zIm,if_neg h2',List.eq_nil_of_length_eq_zero (by omega:p.L.length=0)];simp
    ·obtain⟨z,hz,h⟩:=zEh h
     obtain⟨r',hr',h⟩:=zEh h
     cases h
     have:=zI3 n z y l r' hr' h0 ((nok_iff.1 hp).2 z (zq3 hz))
     have hpl:p.L=[z]:=by
      match hq:p.L,hl,hz with
      |[q],_,hz=>simp at hz;rw[hz]
      |[],_,hz=>simp at hz
      |_::_::_,hl,_=>simp at hl
     rw[zIm,if_neg h2',hpl];simp
     exact this
theorem Match_inv{n:Nat}{p:zLc}{v:zLZ}{r:List zLZ×Bool×Int}(h:zBX n p v=some r)(h0:r.2.1=true):
 zCF n v=some true∧∃o,zAP n p v []=some (o,true,false)∧r=(o,true,0):=by
 rw[zBX] at h
 obtain⟨b,hb,h⟩:=zEh h
 split at h
 ·cases h;cases h0
 rename_i hbf
 obtain⟨q,hq,hb⟩:=zEh hb
 split at hb
 ·cases hb;exact absurd rfl hbf
 obtain⟨t,ht,hb⟩:=zEh hb
 cases hb
 obtain⟨m,hm,h⟩:=zEh h
 split at h
 ·cases h;cases h0
 rename_i hf
 split at h
 ·cases h;cases h0
 rename_i hk
 cases h
 refine⟨?_,m.1,?_,rfl⟩
 ·cases t with
  |true=>exact ht
  |false=>exact absurd rfl hbf
 ·rw[hm]
  obtain⟨a,b,c⟩:=m
  simp only at hf hk
  simp at hf hk
  rw[hf,hk]
def Hit(n:Nat)(v:zLZ)(x:zLc):Prop:= ∃o,zAP n x v []=some (o,true,false)
def Skip(n:Nat)(v:zLZ)(x:zLc):Prop:= ∃o,zAP n x v []=some (o,false,false)
theorem first_hit{n:Nat}{v:zLZ}{l:List zLc}{J:Nat}{x:zLc}(hx:l[J]? =some x)(hit:Hit n v x)(hs: ∀m y,m<J->l[m]? =some y->Skip n v y):
 ∀m i k,i+m=J->m<k->zBW n l v k i=some (.inl ((J:Int),0)):=by
 have hJ:=(zq1 hx).1
 intro m
 induction m with
 |zero=>
  intro i k hi hk
  obtain⟨k,rfl⟩: ∃q,k=q+1:=⟨k-1,by omega⟩
  obtain rfl:i=J:=by omega
  obtain⟨o,ho⟩:=hit
  rw[zBW,if_pos (ltP hJ),hx,zAs,ho,zAs];rfl
 |succ m ih=>
  intro i k hi hk
  obtain⟨k,rfl⟩: ∃q,k=q+1:=⟨k-1,by omega⟩
  have hy:l[i]? =some l[i]:=zq2 (by omega)
  obtain⟨o,ho⟩:=hs i _ (by omega) hy
  rw[zBW,if_pos (ltP (by omega)),hy,zAs,ho,zAs,if_neg (by simp),if_neg (by simp)]
  exact ih (i+1) k (by omega) (by omega)
theorem first_ex{n:Nat}{v:zLZ}{l:List zLc}(hm: ∀x,x∈l->∃r,zAP n x v []=some r):
 ∀m i k,i+m=l.length->m<k->∃o,zBW n l v k i=some o∧((∃u,o=.inr u)∨o=.inl (0,12)∨∃(J:Nat) (x:zLc),o=.inl ((J:Int),0)∧i<=J∧l[J]? =some x∧Hit n v x∧∀q y,i<=q->q<J->l[q]? =some y->Skip n v y):=by
 intro m
 induction m with
 |zero=>
  intro i k hi hk
  obtain⟨k,rfl⟩: ∃q,k=q+1:=⟨k-1,by omega⟩
  rw[zBW,if_neg (ltN (by omega))]
  exact⟨_,rfl,.inl ⟨(),rfl⟩⟩
 |succ m ih=>
  intro i k hi hk
  obtain⟨k,rfl⟩: ∃q,k=q+1:=⟨k-1,by omega⟩
  have hy:l[i]? =some l[i]:=zq2 (by omega)
  obtain⟨⟨o,a,b⟩,hr⟩:=hm l[i] (List.getElem_mem _)
  rw[zBW,if_pos (ltP (by omega)),hy,zAs,hr,zAs]
  cases b with
  |true=>exact⟨_,rfl,.inr (.inl rfl)⟩
  |false=>
   cases a with
   |true=>exact⟨_,rfl,.inr (.inr ⟨i,l[i],rfl,Nat.le_refl _,hy,⟨o,hr⟩,fun q y h1 h2=>by omega⟩)⟩
   |false=>
    obtain⟨z,hz,hc⟩:=ih (i+1) k (by omega) (by omega)
    refine⟨z,hz,?_⟩
    rcases hc with hc|hc|⟨J,x,h1,h2,h3,h4,h5⟩
    ·exact .inl hc
    ·exact .inr (.inl hc)
    ·refine .inr (.inr ⟨J,x,h1,by omega,h3,h4,fun q y q1 q2 q3=>?_⟩)
     by_cases e:q=i
     ·subst e;rw[hy] at q3;cases q3;exact⟨o,hr⟩
     ·exact h5 q y (by omega) q2 q3
theorem First_M{n:Nat}{v:zLZ}{l:List zLc}(hn:l.length<n)(hl:l.length<=1000)(hv:vnd v<=400)(hw: ∀x,x∈l->wt x+vwt v<=n)(hs: ∀x,x∈l->nds x<=200)(hvn:vwt v<=n):
 ∃r,zAY n l v=some r∧((r.2≠0∧r.1=0)∨(r.2=0∧zCF n v=some true∧(∀x,x∈l->vld x=true)∧∃(J:Nat) (x:zLc),r.1=J∧l[J]? =some x∧Hit n v x∧∀q y,q<J->l[q]? =some y->Skip n v y)):=by
 obtain⟨b,hb,hok⟩:=VValid_M v (fuel:=n) hvn hv
 rw[zAY,hb,zAs]
 cases b with
 |false=>exact⟨_,rfl,.inl ⟨by decide,rfl⟩⟩
 |true=>
  rw[if_neg (by decide),valids_M l hn (fun x hx=>by have:=hw x hx;omega) hs,zAs,zAs]
  cases ha:l.any fun x=> !vld x with
  |true=>exact⟨_,rfl,.inl ⟨by decide,rfl⟩⟩
  |false=>
   have hall: ∀x,x∈l->vld x=true:=fun x hx=>by simpa using List.any_eq_false.1 ha x hx
   rw[if_neg (by decide),if_neg (fun h=>by have:=ltT h;omega)]
   obtain⟨o,ho,hc⟩:=first_ex (n:=n) (v:=v) (l:=l) (fun x hx=>by
    obtain⟨r,hr,_⟩:=match_M x n v [] (hw x hx) (vld_nok (hall x hx)) (hok rfl) (hs x hx) hv (by have:=hs x hx;simp only[List.length_nil];omega)
    exact⟨r,hr⟩) l.length 0 n (by omega) hn
   rw[ho,zAs]
   rcases hc with ⟨u,rfl⟩|rfl|⟨J,x,rfl,_,h3,h4,h5⟩
   ·exact⟨_,rfl,.inl ⟨by decide,rfl⟩⟩
   ·exact⟨_,rfl,.inl ⟨by decide,rfl⟩⟩
   ·exact⟨_,rfl,.inr ⟨rfl,rfl,hall,J,x,rfl,h3,h4,fun q y q1 q2=>h5 q y (by omega) q1 q2⟩⟩
theorem zLV{n:Nat}{v:zLZ}{l:List zLc}(hn:l.length<n)(hl:l.length<=1000)(hw: ∀x,x∈l->wt x<=n)(hs: ∀x,x∈l->nds x<=200)(hv:zCF n v=some true)(hall: ∀x,x∈l->vld x=true)
 {J:Nat} {x:zLc} (hx:l[J]? =some x) (hit:Hit n v x) (hsk: ∀m y,m<J->l[m]? =some y->Skip n v y):zAY n l v=some ((J:Int),0):=by
 have hJ:=(zq1 hx).1
 have ha:(l.any fun x=> !vld x)=false:=by
  rw[List.any_eq_false];intro x hx;rw[hall x hx];simp
 rw[zAY,hv,zAs,if_neg (by decide),valids_M l hn hw hs,zAs,zAs,ha,if_neg (by decide),if_neg (fun h=>by have:=ltT h;omega),first_hit hx hit hsk J 0 n (by omega) (by omega),zAs];rfl
theorem First_bad{n:Nat}{v:zLZ}{l:List zLc}(hn:l.length<n)(hw: ∀x,x∈l->wt x<=n)(hs: ∀x,x∈l->nds x<=200)(hv:zCF n v=some true)(hall:(l.any fun x=> !vld x)=true):zAY n l v=some (0,1):=by
 rw[zAY,hv,zAs,if_neg (by decide),valids_M l hn hw hs,zAs,zAs,hall,if_pos rfl]
def tailF(n:Nat)(l:List zLc)(w:zLc)(v:zLZ):Option Bool:=
 (zAY n l v).bind fun v107=>
 if (!(eqI v107.2 0))=true then
  some (eqI v107.1 0)
 else if ((ltI v107.1 0)||(leI (l.length:Int) v107.1))=true then
  some false
 else
  (subC l 0 (v107.1+1)).bind fun l124=>
  (zAY n l124 v).bind fun v128=>
  (zAo n [l,[w]]).bind fun v130=>
  (zAY n v130 v).bind fun v132=>
  some ((eqI v128.2 0)&&((eqI v128.1 v107.1)&&((eqI v132.2 0)&&(eqI v132.1 v107.1))))
def tailM(n:Nat)(l:List zLc)(p w:zLc)(v:zLZ):Option Bool:=
 (zBX n p v).bind fun v64=>
 if ((eqI v64.2.2 0)&&v64.2.1)=true then
  (zBX n w v).bind fun v73=>
  if ((!(eqI v73.2.2 0))||((!v73.2.1)||(ltI (v64.1.length:Int) (v73.1.length:Int))))=true then
   some false
  else
   (zAo n [[w],l]).bind fun v94=>
   (zAY n v94 v).bind fun v96=>
   if (if eqI v96.2 0=true then (!(eqI v96.1 0))||false else !(eqI v96.2 1))=true then
    some false
   else
    tailF n l w v
 else
  tailF n l w v
section
variable {n:Nat} {l:List zLc} {p w:zLc} {v:zLZ} (hn:l.length+30<n) (hl:l.length<=20) (hv:vnd v<=400) (hw: ∀x,x∈l->wt x+vwt v<=n) (hs: ∀x,x∈l->nds x<=200) (hvn:vwt v<=n)
 (hwp:wt p+vwt v<=n) (hsp:nds p<=200) (hvp:vld p=true) (hwd:Wd p w)
include hn hl hv hw hs hvn hwp hsp hvp hwd
theorem tailF_true:tailF n l w v=some true:=by
 have hww:=hwd.wt
 have hsw:=hwd.nds
 have hvw:=hwd.vld hvp
 unfold tailF
 obtain⟨r,hr,hc⟩:=First_M (n:=n) (v:=v) (l:=l) (by omega) (by omega) hv hw hs hvn
 rw[hr,zAs]
 rcases hc with ⟨h1,h2⟩|⟨h1,h2,h3,J,x,h4,h5,h6,h7⟩
 ·rw[if_pos (by rw[show eqI r.2 0=false from decide_eq_false h1];rfl),h2];rfl
 ·have hJ:=(zq1 h5).1
  rw[if_neg (by rw[show eqI r.2 0=true from zqb h1];decide),if_neg (by
   rw[Bool.or_eq_true,h4];rintro(h|h)
   ·have:=ltT h;omega
   ·have:=leT h;omega),h4,show(J:Int)+1=((J+1:Nat):Int) by omega,subT l (J+1) (by omega),zAs]
  have ht:(l.take (J+1)).length=J+1:=by rw[List.length_take];omega
  have hmt: ∀x,x∈l.take (J+1)->x∈l:=fun x hx=>List.mem_of_mem_take hx
  rw[zLV (n:=n) (l:=l.take (J+1)) (by omega) (by omega) (fun x hx=>by have:=hw x (hmt x hx);omega) (fun x hx=>hs x (hmt x hx)) h2 (fun x hx=>h3 x (hmt x hx)) (J:=J) (x:=x) (by rw[List.getElem?_take,if_pos (by omega)];exact h5) h6
   (fun m y hm hy=>h7 m y hm (by rw[List.getElem?_take,if_pos (by omega)] at hy;exact hy)),zAs,concat_M l [w] (by omega) (by simp;omega),zAs]
  have hma: ∀x,x∈l++[w]->x∈l∨x=w:=fun x hx=>by
   rcases List.mem_append.1 hx with hx|hx
   ·exact .inl hx
   ·exact .inr (List.mem_singleton.1 hx)
  rw[zLV (n:=n) (l:=l++[w]) (by simp;omega) (by simp;omega) (fun x hx=>by rcases hma x hx with hx|rfl;exact(by have:=hw x hx;omega);omega) (fun x hx=>by rcases hma x hx with hx|rfl;exact hs x hx;omega) h2
   (fun x hx=>by rcases hma x hx with hx|rfl;exact h3 x hx;exact hvw) (J:=J) (x:=x) (by rw[List.getElem?_append_left hJ];exact h5) h6 (fun m y hm hy=>h7 m y hm (by rw[List.getElem?_append_left (by omega)] at hy;exact hy)),zAs]
  have e:eqI (J:Int) (J:Int)=true:=zqb rfl
  simp only[e];rfl
theorem tailM_true:tailM n l p w v=some true:=by
 have hww:=hwd.wt
 have hsw:=hwd.nds
 have hvw:=hwd.vld hvp
 have hT:=tailF_true hn hl hv hw hs hvn hwp hsp hvp hwd
 unfold tailM
 obtain⟨r,hr,_⟩:=Match_M p v (fuel:=n) (by omega) hsp hv
 rw[hr,zAs]
 cases hc:(eqI r.2.2 0)&&r.2.1 with
 |false=>rw[if_neg (by decide)];exact hT
 |true=>
  rw[if_pos rfl]
  rw[zq7] at hc
  obtain⟨hvv,o,ho,rfl⟩:=Match_inv hr hc.2
  obtain⟨b,hb,hok⟩:=VValid_M v (fuel:=n) hvn hv
  have hvo:Vok v:=hok (by rw[hvv] at hb;cases hb;rfl)
  obtain⟨o2,ho2,_⟩:=cov_match w p n v [] [] (o,true,false) hwd.cov (by omega) (vld_nok hvw) hvo (by omega) hv (by simp only[List.length_nil];omega) ho rfl
  rw[Match_ok w v (by omega) (by omega) hvw hvv ho2,zAs]
  have e1:=zI3 n p v [] _ ho rfl (vld_nok hvp)
  have e2:=zI3 n w v [] _ ho2 rfl (vld_nok hvw)
  have e3:=hwd.vrs.length_le
  simp only[List.length_nil,Nat.zero_add] at e1 e2
  rw[if_neg (by
   simp only[Bool.or_eq_true]
   rintro(h|h|h)
   ·cases h
   ·cases h
   ·have:=ltT h;omega),concat_M [w] l (by omega) (by simp;omega),zAs]
  have hmc: ∀x,x∈[w]++l->x∈l∨x=w:=fun x hx=>by
   rcases List.mem_append.1 hx with hx|hx
   ·exact .inr (List.mem_singleton.1 hx)
   ·exact .inl hx
  have g1:([w]++l).length<n:=by simp;omega
  have g2: ∀x,x∈[w]++l->wt x<=n:=fun x hx=>by rcases hmc x hx with hx|rfl;exact(by have:=hw x hx;omega);omega
  have g3: ∀x,x∈[w]++l->nds x<=200:=fun x hx=>by rcases hmc x hx with hx|rfl;exact hs x hx;omega
  cases ha:([w]++l).any fun x=> !vld x with
  |true=>rw[First_bad g1 g2 g3 hvv ha,zAs];exact hT
  |false=>
   rw[zLV g1 (by simp;omega) g2 g3 hvv (fun x hx=>by simpa using List.any_eq_false.1 ha x hx) (J:=0) (x:=w) rfl ⟨o2,ho2⟩ (fun m y hm=>by omega),zAs];exact hT
end
def ltw(l:List zLc):Nat:=(l.map wt).sum
theorem zJ2(p:zLc)(at2:List UInt8)(c:zLd)(v:zLZ)(l:List zLc): ∃fuel,zCQ fuel p at2 c v l=some true:=by
 by_cases hsp:nds p<=200
 ·obtain⟨w,hwn,hwd⟩:=widen_M at2 p hsp
  have hww:=hwd.wt
  have hsw:=hwd.nds
  obtain⟨bw,⟨N1,hbw⟩,hwide⟩:=Wide_T c
  have hty:bw=false->∃N,∀n,N<=n->(∃r,zB1 n p c=some r)∧∃r,zB1 n w c=some r:=fun h=>by
   obtain⟨hc,hsh⟩:=hwide h
   obtain⟨r1,⟨N2,h2⟩,_⟩:=Type_T p c hsp (by omega) hsh
   obtain⟨r2,⟨N3,h3⟩,_⟩:=Type_T w c (by omega) (by omega) hsh
   exact⟨N2+N3,fun n hn=>⟨⟨r1,h2 n (by omega)⟩,r2,h3 n (by omega)⟩⟩
  obtain⟨N2,hty⟩: ∃N,bw=false->∀n,N<=n->(∃r,zB1 n p c=some r)∧∃r,zB1 n w c=some r:=by
   cases bw with
   |true=>exact⟨0,fun h=>by cases h⟩
   |false=>obtain⟨N,h⟩:=hty rfl;exact⟨N,fun _=>h⟩
  refine⟨N1+N2+wt p+vwt v+ltw l+at2.length+l.length+100,?_⟩
  generalize hfu:N1+N2+wt p+vwt v+ltw l+at2.length+l.length+100=n
  have hwl: ∀x,x∈l->wt x+vwt v<=n:=fun x hx=>by have:wt x<=ltw l:=le_sum wt hx;omega
  obtain⟨bp,hbp,_⟩:=Big_M p (fuel:=n) (by omega)
  obtain⟨bv,hbv,hv⟩:=Huge_M v (fuel:=n) (by omega)
  obtain⟨bl,hbl,hsl⟩:=bigs_M l (n:=n) (by omega) (fun x hx=>by have:=hwl x hx;omega)
  rw[zCQ,zF3,zAs,hbp,show zE4 n c=some bw from hbw n (by omega),hbv,hbl,RValid_M p (by omega) hsp]
  simp only[Bool.not_true,Bool.false_eq_true,if_false,zAs]
  cases bp with
  |true=>rfl
  |false=>
  by_cases h50:ltI 50 (at2.length:Int)=true
  ·rw[if_neg (by decide),if_pos h50];rfl
  rw[if_neg (by decide),if_neg h50]
  cases bw with
  |true=>rfl
  |false=>
  cases bv with
  |true=>rfl
  |false=>
  by_cases h20:ltI 20 (l.length:Int)=true
  ·rw[if_neg (by decide),if_neg (by decide),if_pos h20];rfl
  rw[if_neg (by decide),if_neg (by decide),if_neg h20]
  have hl20:=ltF (by simpa using h20)
  cases bl with
  |true=>rfl
  |false=>
  cases hvp:vld p with
  |false=>rfl
  |true=>
  have hv:=hv rfl
  have hsl:=hsl rfl
  have hvw:=hwd.vld hvp
  have hM:=tailM_true (n:=n) (l:=l) (p:=p) (w:=w) (v:=v) (by omega) (by omega) hv hwl hsl (by omega) (by omega) hsp hvp hwd
  obtain⟨cv,e,h1,h2,_⟩:=Covers_M w p (fuel:=n) (by omega) (by omega) (by omega) hsp
  obtain⟨rfl,h2'⟩:=h2 ⟨hvw,hvp⟩
  obtain rfl:cv=true:=h2'.2 hwd.cov
  obtain⟨⟨r1,hr1⟩,r2,hr2⟩:=hty rfl n (by omega)
  simp only[Bool.not_true,Bool.false_eq_true,if_false,zAs]
  rw[hwn n (by omega),zAs,h1,zAs,if_neg (by decide),hr1,zAs]
  cases h0:eqI r1.2 0 with
  |false=>rw[if_neg (by decide)];exact hM
  |true=>
   rw[if_pos rfl,hr2,zAs]
   have:=Type_mono hwd (zJ1 w (fuel:=n) (by omega) (by omega) ▸ by rw[hvw]) hr1 (eqT h0) hr2
   rw[if_neg (by rw[show eqI r2.2 0=true from zqb this];decide)]
   exact hM
 ·refine⟨wt p+100,?_⟩
  obtain⟨bp,hbp,hp⟩:=Big_M p (fuel:=wt p+100) (by omega)
  cases bp with
  |false=>exact absurd (hp rfl) hsp
  |true=>rw[zCQ,zF3,zAs,hbp];rfl
theorem zIz(p:zLc)(at2:List UInt8)(c:zLd)(v:zLZ)(l:List zLc){A B:Prop}(_:A)(_:B): ∃fuel,zCQ fuel p at2 c v l=some true:=zJ2 p at2 c v l
end Go.Proofs.YtencdekdgajgfaaGreatDoor
