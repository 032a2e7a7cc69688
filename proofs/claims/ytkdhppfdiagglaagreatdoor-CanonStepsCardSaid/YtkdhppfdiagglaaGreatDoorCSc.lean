/- CanonSteps holds: for every input the law returns true. No condition. Part 3 of 19. No condition. -/
import Derived.Test.YtkdhppfdiagglaaGreatDoorCSb
import Derived.Lib.Strings
set_option linter.unusedVariables false
set_option linter.unnecessarySimpa false
set_option linter.unusedSimpArgs false
set_option maxRecDepth 100000
set_option maxHeartbeats 4000000
namespace Go.Abs
open Go
variable {P:Program} {ops:Array Oper} {imm:Addr->Option Value} {w:World} {B:List Nat} {a:Act} {o:Oper} {v:Value} {f:FuncId} {α:Type} {x:Operand} {σ:List Nat} {ρ:List Nat} {t:TypeId} {c:Code} {bo:Option Nat} {n:Nat} {i:Nat} {pins:List Nat} {fn:Func} {xs:List Operand} {k:IntKind} {id:Nat} {args:List AV} {l:List (List AV)} {res:AV} {m:Option Place} {s:AState} {Q:Exit->AState->Prop} {g:Gh} {F:Fx} {K:AState->Prop} {R:AV->AState->Prop} {r:Res}
section
variable {P:Program}
theorem zEy{w w':World}{argTypes:Array TypeId}{ty t t2 e:TypeId}{d2:TypeDesc}{i:TypeInfo}(h0:argTypes[0]? =some t)(h1:argTypes[1]? =some t2)
 (hu2:P.underlying t2=some d2) (hd2: ∀k,d2≠.int k) (ht:P.underlying t=some (.slice e)) (hi:P.info? e=some i)
 (a:Addr) (sLen sCap n:Nat) (x:Value) (hlen:(Builtin.lenOf x).run P w=.ok n w) (news:List Value) (hf:(Builtin.firstCells i.size n x).run P w=.ok news.toArray w)
 (hroom:sLen+n<=sCap) (hst:(storeCells (a.add (sLen*i.size)) news).run P w=.ok () w'):
 (Builtin.append_ argTypes ty #[.slice (some a) sLen sCap,x]).run P w=.ok (.slice (some a) (sLen+n) sCap) w':=by
 have hz:(match d2 with|.int _=>true|_=>false)=false:=by cases d2<;>first|rfl|exact(hd2 _ rfl).elim
 simp[Builtin.append_,h0,h1,underlying,hu2,hz,ht,sizeOf,typeInfo,hi,hlen,hf,hroom,hst]
theorem zGR{argTypes:Array TypeId}{ty t t2 e:TypeId}{d2:TypeDesc}{i:TypeInfo}(h0:argTypes[0]? =some t)(h1:argTypes[1]? =some t2)
 (hu2:P.underlying t2=some d2) (hd2: ∀k,d2≠.int k) (ht:P.underlying t=some (.slice e)) (hi:P.info? e=some i)
 (x:Value) (hlen:(Builtin.lenOf x).run P w=.ok 0 w) (hf:(Builtin.firstCells i.size 0 x).run P w=.ok #[] w):
 (Builtin.append_ argTypes ty #[.slice none 0 0,x]).run P w=.ok (.slice none 0 0) w:=by
 have hz:(match d2 with|.int _=>true|_=>false)=false:=by cases d2<;>first|rfl|exact(hd2 _ rfl).elim
 simp[Builtin.append_,h0,h1,underlying,hu2,hz,ht,sizeOf,typeInfo,hi,hlen,hf]
theorem zF3{argTypes:Array TypeId}{ty t t2 e:TypeId}{d2:TypeDesc}{i:TypeInfo}{z:Value}(h0:argTypes[0]? =some t)(h1:argTypes[1]? =some t2)
 (hu2:P.underlying t2=some d2) (hd2: ∀k,d2≠.int k) (ht:P.underlying t=some (.slice e)) (hi:P.info? e=some i) (hz:i.zero=some z)
 (base:Option Addr) (sLen sCap n:Nat) (x:Value) (hlen: ∀w,(Builtin.lenOf x).run P w=.ok n w) (olds news:List Value)
 (hfo:(Builtin.firstCells i.size sLen (.slice base sLen sCap)).run P w.drew=.ok olds.toArray w.drew) (hf:(Builtin.firstCells i.size n x).run P w.drew=.ok news.toArray w.drew)
 (hg:sCap<sLen+n) (h63:((sLen+n:Nat):Int)<=9223372036854775807) (hfit:(sLen+n)*i.bytes<=140737488355328):
 (Builtin.append_ argTypes ty #[.slice base sLen sCap,x]).run P w=.ok (.slice (some ⟨w.heap.size,0,none⟩) (sLen+n) (grownCap w (sLen+n) sCap e))
  (w.drew.alloc (.cells (olds.toArray++news.toArray++Builtin.zeroCells z.cells (grownCap w (sLen+n) sCap e-(sLen+n))) e)):=by
 have hzz:(match d2 with|.int _=>true|_=>false)=false:=by cases d2<;>first|rfl|exact(hd2 _ rfl).elim
 have hn: ¬(sLen+n<=sCap):=by omega
 have h63': ¬(9223372036854775807<((sLen:Int)+(n:Int))):=by omega
 have h48:=growslice_fits hg hfit
 have h48': ¬(281474976710656<Builtin.nextslicecap (sLen+n) sCap*i.bytes):=by omega
 simp[Builtin.append_,h0,h1,underlying,hu2,hzz,ht,sizeOf,typeInfo,zeroValue,hi,hz,hlen,hn,h63',h48',Question.forced,hf,hfo,newRow,grownCap]
 congr 2
 apply Array.ext'
 simp[List.append_assoc]
end
theorem fillList(b:Addr)(hi:Nat): ∀(news:List Value)(i:Nat)(g:Gh)(w:World),Sim F g s a w->Floating F g w (some b.block)->
 Spare g.imm w b i hi->i+news.length<=hi->(∀v,v∈news->v.oneCell'=true)->∃g' w',(∀c m,c.add m=b.add i->(∀j,c.add (m+j)=b.add (i+j))->(storeCells c news m).run P w=.ok () w')∧Sim F g' s a w'∧
  g'.σ=g.σ∧g'.own=g.own∧(∀x v,g.imm x=some v->g'.imm x=some v)∧(∀(j:Nat) v,news[j]? =some v->g'.imm (b.add (i+j))=some v)∧
  Floating F g' w' (some b.block)∧Spare g'.imm w' b (i+news.length) hi∧(∀k sh,zI0 w k=some sh->zI0 w' k=some sh):=by
 intro news
 induction news with
 |nil=>exact fun i g w h hf hs _ _=>⟨g,w,fun _ _ _ _=>rfl,h,rfl,rfl,fun _ _ h=>h,fun j v hv=>by simp at hv,hf,hs,fun _ _ h=>h⟩
 |cons v news ih=>
  intro i g w h hf hs hle h1
  simp only[List.length_cons] at hle
  obtain⟨hn,⟨u,hu⟩,hfz⟩:=hs i (Nat.le_refl _) (by omega)
  have hblk:(b.add i).block=b.block:=zFV b i
  have hstep:=h.fill (b.add i) v (by rw[hblk];exact hf) hn ⟨u,hu⟩
  have hf':Floating F {g with imm:=fun x=>if x=b.add i then some v else g.imm x} (w.setCell (b.add i) v) (some b.block):=fun k hk=>by
   obtain⟨h1,h2,h3,h4⟩:=hf k hk
   exact⟨h1,h2,by simpa using h3,h4⟩
  have hs':Spare (fun x=>if x=b.add i then some v else g.imm x) (w.setCell (b.add i) v) b (i+1) hi:=fun j hj1 hj2=>by
   obtain⟨h3,h4,h5⟩:=(Spare.setCell (b:=b.add i) (v:=v) hs) j (by omega) hj2
   refine⟨?_,h4,h5⟩
   show(if b.add j=b.add i then some v else g.imm (b.add j))=none
   rw[if_neg (fun e=>by have:=add_inj e;omega)];exact h3
  obtain⟨g',w',e1,e2,e3,e4,e5,e6,e7,e8,e9⟩:=ih (i+1) _ _ hstep hf' hs' (by omega) (fun x hx=>h1 x (zqc _ hx))
  refine⟨g',w',fun c m hcm hcj=>?_,e2,e3,e4,fun x y hx=>e5 x y ?_,fun j y hy=>?_,e7,?_,fun k sh hk=>e9 k sh (zDb (bo:=some k) k sh rfl hk)⟩
  ·have hst:(store (c.add m) v).run P w=.ok () (w.setCell (b.add i) v):=by
    rw[hcm,run_store _ _ _ _ _ (h1 v (zq9 ..)),hu]
    simp[hfz]
   simp only[storeCells,Sem.run_bind,hst,Result.andThen_ok]
   refine e1 c (m+1) (hcj 1) fun j=>?_
   have:=hcj (1+j)
   rw[<-Nat.add_assoc,<-Nat.add_assoc] at this;exact this
  ·show(if x=b.add i then some v else g.imm x)=some y
   rw[if_neg (fun e=>by rw[e,hn] at hx;cases hx)];exact hx
  ·cases j with
   |zero=>
    simp at hy;subst hy
    refine e5 _ _ ?_
    show(if b.add (i+0)=b.add i then some v else _)=_
    rw[Nat.add_zero,if_pos rfl]
   |succ j=>have:=e6 j y (by simpa using hy);rwa [show i+1+j=i+(j+1) by omega] at this
  ·rw[List.length_cons,show i+(news.length+1)=i+1+news.length by omega];exact e8
def zFr(size:Nat)(l:List (List AV)):Prop:= ∀e,e∈l->e.length=size∧e.all AV.inert=true
def zIE(size n:Nat)(vs:Nat->Nat->Value):List Value:=(List.range (n*size)).map fun j=>vs (j/size) (j%size)
theorem zB9(size n:Nat)(vs:Nat->Nat->Value):(zIE size n vs).length=n*size:=by simp[zIE]
theorem zJu{size n:Nat}{vs:Nat->Nat->Value}{j:Nat}(h:(zIE size n vs)[j]? =some v):j<n*size∧v=vs (j/size) (j%size):=by
 unfold zIE at h
 rw[List.getElem?_map] at h
 by_cases hj:j<n*size
 ·rw[List.getElem?_range hj] at h;simp at h;exact⟨hj,h.symm⟩
 ·rw[List.getElem?_eq_none (by simpa using hj)] at h;simp at h
theorem zIh{size n i j:Nat}(vs:Nat->Nat->Value)(hi:i<n)(hj:j<size):(zIE size n vs)[i*size+j]? =some (vs i j):=by
 have hlt:i*size+j<n*size:=by
  have:=Nat.mul_le_mul_right size (show i+1<=n by omega)
  rw[Nat.add_mul] at this;omega
 unfold zIE
 rw[List.getElem?_map,List.getElem?_range hlt]
 have h1:(i*size+j)/size=i:=by
  rw[Nat.mul_comm,Nat.mul_add_div (by omega),Nat.div_eq_of_lt hj];rfl
 have h2:(i*size+j)%size=j:=by
  rw[Nat.mul_comm,Nat.mul_add_mod,Nat.mod_eq_of_lt hj]
 simp[h1,h2]
theorem zMG{size n j:Nat}(h:j<n*size):j/size<n∧j%size<size∧j/size*size+j%size=j:=by
 have hs:0<size:=by
  rcases Nat.eq_zero_or_pos size with h0|h0
  ·subst h0;simp at h
  ·exact h0
 exact⟨(Nat.div_lt_iff_lt_mul hs).2 h,Nat.mod_lt _ hs,by rw[Nat.mul_comm];exact Nat.div_add_mod j size⟩
structure News (P:Program) (g:Gh) (w:World) (size:Nat) (l:List (List AV)) (x:Value) (vs:Nat->Nat->Value):Prop where
 len: ∀w,(Builtin.lenOf x).run P w=.ok l.length w
 cells: ∀w',(∀b v,g.imm b=some v->w'.cell? b=some v)->(Builtin.firstCells size l.length x).run P w'=.ok (zIE size l.length vs).toArray w'
 rep: ∀(i:Nat) e,l[i]? =some e->∀(j:Nat) y,e[j]? =some y->Rep g.imm [] y (vs i j)
theorem zHg{size:Nat}{y:AV}(h:Rep g.imm g.σ y v)(hl:elems y=some l)(hok: ∀e,e∈l->e.length=size):
 ∃vs,News P g w size l v vs:=by
 have key: ∀base cap (vs:Nat->Nat->Value),(∀a,base=some a->∀(i:Nat) e,l[i]? =some e->∀(j:Nat) y,e[j]? =some y->g.imm (a.add (i*size+j))=some (vs i j))->
  (base=none->l=[])->(∀(i:Nat) e,l[i]? =some e->∀(j:Nat) y,e[j]? =some y->Rep g.imm [] y (vs i j))->News P g w size l (.slice base l.length cap) vs:=by
  intro base cap vs h1 h2 h3
  refine⟨fun w=>by simp[Builtin.lenOf],fun w' hw'=>?_,h3⟩
  cases base with
  |none=>rw[h2 rfl];simp[Builtin.firstCells,zIE]
  |some b=>
   refine run_firstCells_some w' size l.length b l.length cap _ (zB9 ..) fun j u hu=>?_
   obtain⟨hj,rfl⟩:=zJu hu
   obtain⟨p1,p2,p3⟩:=zMG hj
   have he:=zq2 p1
   have hel:=hok _ (List.getElem_mem p1)
   have:=h1 b rfl _ _ he _ _ (zq2 (by rw[hel];exact p2))
   rw[p3] at this
   exact hw' _ _ this
 have hec: ∀(ec:Nat),(∀(i:Nat) e,l[i]? =some e->e.length=ec)->∀(i:Nat) e,l[i]? =some e->size=ec:=fun ec he i e hie=>by
  rw[<-he i e hie];exact(hok e (zq3 hie)).symm
 cases h with
 |nsl=>cases hl;exact⟨fun _ _=>undef,key none 0 _ (fun _ h=>by cases h) (fun _=>rfl) (fun i e he=>by simp at he)⟩
 |e0 b=>cases hl;exact⟨fun _ _=>undef,key b 0 _ (fun a _ i e hie=>by simp at hie) (fun _=>rfl) (fun i e he=>by simp at he)⟩
 |osl0 ec=>cases hl;exact⟨fun _ _=>undef,key none 0 _ (fun _ h=>by cases h) (fun _=>rfl) (fun i e he=>by simp at he)⟩
 |osq0 ec=>cases hl;exact⟨fun _ _=>undef,key none 0 _ (fun _ h=>by cases h) (fun _=>rfl) (fun i e he=>by simp at he)⟩
 |sl0=>cases hl;exact⟨fun _ _=>undef,key none 0 _ (fun _ h=>by cases h) (fun _=>rfl) (fun i e he=>by simp at he)⟩
 |osl ec l' a n cap vs hn hc hbd he hi hr=>
  cases hl;subst hn
  exact⟨vs,key (some a) cap vs (fun b hb i e hie j y hy=>by cases hb;rw[hec ec.size he i e hie];exact hi i e hie j y hy) (fun h=>by cases h) hr⟩
 |osq ec l' a n cap vs hn hc hbd he hi hr=>
  cases hl;subst hn
  exact⟨vs,key (some a) cap vs (fun b hb i e hie j y hy=>by cases hb;rw[hec ec.size he i e hie];exact hi i e hie j y hy) (fun h=>by cases h) hr⟩
 |sl ec l' a n cap vs hn hc hbd he hi hr=>
  cases hl;subst hn
  exact⟨vs,key (some a) cap vs (fun b hb i e hie j y hy=>by cases hb;rw[hec ec he i e hie];exact hi i e hie j y hy) (fun h=>by cases h) hr⟩
 |_=>cases hl
def zCa(l:List UInt8):List (List AV):=l.map fun c=>[.int .u8 c.toNat]
theorem news_str{s:ByteArray}{l:List UInt8}(hl:s.data.toList=l):
 News P g w 1 (zCa l) (.string s) (fun i _=>.int .u8 (l.getD i 0).toNat):=by
 have hsz:s.size=l.length:=by rw[zDs,hl]
 refine⟨fun w=>by simp[Builtin.lenOf,zCa,hsz],fun w' _=>?_,fun i e he j y hy=>?_⟩
 ·have hx:(s.extract 0 (zCa l).length).data=s.data:=by
   apply Array.ext'
   rw[Lib.extract_data]
   simp[zCa,hl]
  simp only[Builtin.firstCells,hx,Sem.run_pure]
  congr 1
  apply Array.ext'
  apply List.ext_getElem?
  intro j
  have h1:(s.data.map fun b=>Value.int .u8 b.toNat).toList=l.map fun b=>Value.int .u8 b.toNat:=by rw[Array.toList_map,hl]
  rw[h1]
  by_cases hj:j<l.length
  ·have:=zIh (size:=1) (n:=(zCa l).length) (i:=j) (j:=0) (fun i _=>Value.int .u8 (l.getD i 0).toNat) (by simpa[zCa] using hj) (by omega)
   simp only[Nat.mul_one,Nat.add_zero] at this
   rw[show(zIE 1 (zCa l).length fun i _=>Value.int .u8 (l.getD i 0).toNat).toArray.toList[j]? =_ from this]
   simp[zq2 hj,zq5]
  ·rw[List.getElem?_eq_none (by simpa using hj),List.getElem?_eq_none (by simp[zIE,zCa];omega)]
 ·obtain⟨c,hc,rfl⟩:=getElem?_map_some he
  cases j with
  |zero=>simp at hy;subst hy;rw[zq5,hc];exact .int _ _ (by unfold inR;have:=c.toNat_lt;simp only;omega)
  |succ j=>simp at hy
theorem zH2{size:Nat}(h:zFr size l){i j:Nat}{e:List AV}{y:AV}(he:l[i]? =some e)(hy:e[j]? =some y):y.one=true∧y.owns=false∧y.flat=true:=by
 have:=zKo (h e (zq3 he)).2 hy
 simpa[AV.inert,and_assoc] using this
theorem zBs{l1 l2:List α}{e:α}(h:(l1++l2)[i]? =some e):(i<l1.length∧l1[i]? =some e)∨(∃k,i=l1.length+k∧l2[k]? =some e):=by
 by_cases hi:i<l1.length
 ·rw[List.getElem?_append_left hi] at h;exact .inl ⟨hi,h⟩
 ·rw[List.getElem?_append_right (by omega)] at h;exact .inr ⟨i-l1.length,by omega,h⟩
theorem append_core(h:Sim F g s a w){ec0:EC}{l1 l2:List (List AV)}{v x:Value}
 (hr:Rep g.imm g.σ (.osl ec0 l1) v) (ho:OwnsBy g.imm w bo (.osl ec0 l1) v) (hf:Floating F g w bo) {vs2:Nat->Nat->Value} (hn:News P g w ec0.size l2 x vs2) (hok:zFr ec0.size l2)
 {argTypes:Array TypeId} {ty t t2 e:TypeId} {d2:TypeDesc} {i:TypeInfo} {z:Value} (h0:argTypes[0]? =some t) (h1:argTypes[1]? =some t2)
 (hu2:P.underlying t2=some d2) (hd2: ∀k,d2≠.int k) (ht:P.underlying t=some (.slice e)) (hi:P.info? e=some i) (hz:i.zero=some z) (hsz:i.size=ec0.size) (hty:ec0.ty=e) (hzs:z.cells.size=ec0.size)
 (h63:((l1.length+l2.length:Nat):Int)<=9223372036854775807) (hfit:(l1.length+l2.length)*i.bytes<=140737488355328) (hbd:l1.length+l2.length<=281474976710656):
 ∃v' w' g' bo',(Builtin.append_ argTypes ty #[v,x]).run P w=.ok v' w'∧Sim F g' s a w'∧Rep g'.imm g'.σ (.osl ec0 (l1++l2)) v'∧OwnsBy g'.imm w' bo' (.osl ec0 (l1++l2)) v'∧Floating F g' w' bo':=by
 obtain⟨size,ty0⟩:=ec0
 simp only at hsz hty hn hok hzs ⊢
 subst hsz;subst hty
 have hl1: ∀e,e∈l1->e.length=i.size:=by
  intro e he
  cases hr with
  |osl0=>simp at he
  |osl ec l a n cap vs hn' hc hbd' he' hi' hr'=>obtain⟨k,hk⟩:=zqd he;exact he' k e hk
 obtain⟨vs1,hn1⟩:=zHg (P:=P) (w:=w) hr rfl hl1
 have hl2: ∀e,e∈l2->e.length=i.size:=fun e he=>(hok e he).1
 have grow: ∀base cap,v=.slice base l1.length cap->cap<l1.length+l2.length->
  ∃v' w' g' bo',(Builtin.append_ argTypes ty #[v,x]).run P w=.ok v' w'∧Sim F g' s a w'∧Rep g'.imm g'.σ (.osl ⟨i.size,ty0⟩ (l1++l2)) v'∧OwnsBy g'.imm w' bo' (.osl ⟨i.size,ty0⟩ (l1++l2)) v'∧Floating F g' w' bo':=by
  intro base cap hv hcap
  have hdrew: ∀b u,g.imm b=some u->w.drew.cell? b=some u:=fun b u hb=>by simpa using h.sto.imm b u hb
  have hfo:=hn1.cells w.drew hdrew
  rw[hv] at hfo
  have hrun:=zF3 (P:=P) (w:=w) (ty:=ty) h0 h1 hu2 hd2 ht hi hz base l1.length cap l2.length x hn.len (zIE i.size l1.length vs1) (zIE i.size l2.length vs2)
   hfo (hn.cells w.drew hdrew) hcap h63 hfit
  rw[<-hv] at hrun
  have hge:=grownCap_ge w (l1.length+l2.length) cap ty0
  generalize grownCap w (l1.length+l2.length) cap ty0=cap' at hrun hge
  generalize hc:(zIE i.size l1.length vs1).toArray++(zIE i.size l2.length vs2).toArray++Builtin.zeroCells z.cells (cap'-(l1.length+l2.length))=c at hrun
  have hcs:c.size=cap'*i.size:=by
   rw[<-hc]
   simp only[Array.size_append,List.size_toArray,zB9,size_zeroCells,hzs,<-Nat.add_mul]
   congr 1;omega
  obtain⟨r1,r2,r3,r4⟩:=h.drew.row c ty0 ((l1.length+l2.length)*i.size)
  have hm:(l1.length+l2.length)*i.size<=c.size:=by rw[hcs];exact Nat.mul_le_mul_right _ hge
  refine⟨_,_,_,_,hrun,r1,?_,?_,r2⟩
  ·refine .osl ⟨i.size,ty0⟩ _ _ _ _ (fun k j=>c.getD (k*i.size+j) undef) (by simp) hge hbd (fun k el hel=>?_) (fun k el hel j y hy=>?_) (fun k el hel j y hy=>?_)
   ·rcases zBs hel with ⟨_,hk⟩|⟨_,_,hk⟩
    ·exact hl1 el (zq3 hk)
    ·exact hl2 el (zq3 hk)
   ·rw[zI8]
    refine Gh.row_imm_new _ _ _ _ _ ?_ hm
    show k*i.size+j<(l1.length+l2.length)*i.size
    have hk:k<(l1++l2).length:=(zq1 hel).1
    have hj:j<i.size:=by
     have:=(zq1 hy).1
     rcases zBs hel with ⟨_,hk⟩|⟨_,_,hk⟩
     ·rwa [hl1 el (zq3 hk)] at this
     ·rwa [hl2 el (zq3 hk)] at this
    rw[List.length_append] at hk
    have:=Nat.mul_le_mul_right i.size (show k+1<=l1.length+l2.length by omega)
    rw[Nat.add_mul] at this;omega
   ·have hj:=(zq1 hy).1
    rcases zBs hel with ⟨hlt,hk⟩|⟨q,rfl,hk⟩
    ·rw[hl1 el (zq3 hk)] at hj
     have hg:=zIh vs1 hlt hj
     have:c.getD (k*i.size+j) undef=vs1 k j:=by
      rw[<-hc,zq6,Array.append_assoc,Array.getElem?_append_left]
      ·rw[List.getElem?_toArray,hg];rfl
      ·rw[List.size_toArray];exact(zq1 hg).1
     rw[this]
     exact(hn1.rep k el hk j y hy).monoI r4
    ·rw[hl2 el (zq3 hk)] at hj
     have hq:q<l2.length:=(zq1 hk).1
     have hg:=zIh vs2 hq hj
     have:c.getD ((l1.length+q)*i.size+j) undef=vs2 q j:=by
      rw[<-hc,zq6,Array.append_assoc,Array.getElem?_append_right (by rw[List.size_toArray,zB9,Nat.add_mul];omega),List.size_toArray,zB9,
       Array.getElem?_append_left]
      ·rw[List.getElem?_toArray,show(l1.length+q)*i.size+j-l1.length*i.size=q*i.size+j by rw[Nat.add_mul];omega,hg];rfl
      ·rw[List.size_toArray,show(l1.length+q)*i.size+j-l1.length*i.size=q*i.size+j by rw[Nat.add_mul];omega];exact(zq1 hg).1
     rw[this]
     exact(hn.rep q el hk j y hy).monoI r4
  ·intro base' n' cap'' hv'
   simp only[Value.slice.injEq] at hv'
   obtain⟨rfl,rfl,rfl⟩:=hv'
   refine .inr ⟨_,rfl,rfl,⟨rfl,rfl,c.size,?_,by rw[hcs];exact Nat.le_refl _⟩,by rw[<-hcs];exact r3⟩
   have:=zEF w.drew (.cells c ty0 (0,0))
   unfold zI0
   rw[show(w.drew.heap.size)=w.heap.size from rfl] at this
   rw[this];exact if_pos (.inl rfl)
 cases hr with
 |osl0=>
  by_cases hl:l2=[]
  ·subst hl
   refine⟨.slice none 0 0,w,g,none,?_,h,.osl0 _,fun base n cap hv=>?_,Floating.none⟩
   ·have h3:=hn.cells w h.sto.imm
    simp only[List.length_nil] at h3
    exact zGR h0 h1 hu2 hd2 ht hi x (hn.len w) (by simpa[zIE] using h3)
   ·cases hv;exact .inl rfl
  ·exact grow none 0 rfl (by simpa using List.length_pos_iff.2 hl)
 |osl ec l b n cap vs hnn hcap hbd1 hel himm hrep=>
  subst hnn
  by_cases hroom:l1.length+l2.length<=cap
  ·by_cases hl:l2=[]
   ·subst hl
    refine⟨.slice (some b) l1.length cap,w,g,bo,?_,h,by simpa using Rep.osl ⟨i.size,ty0⟩ l1 b l1.length cap vs rfl hcap hbd1 hel himm hrep,by simpa using ho,hf⟩
    have h3:=hn.cells w h.sto.imm
    have:=zEy (P:=P) (w:=w) (w':=w) (ty:=ty) h0 h1 hu2 hd2 ht hi b l1.length cap 0 x (hn.len w) [] (by simpa[zIE] using h3) (by simpa using hroom) rfl
    simpa using this
   ·have hpos:=List.length_pos_iff.2 hl
    rcases ho _ _ _ rfl with hlc|⟨b',hb',hbo,⟨q1,q2,q3,q4,q5⟩,hsp⟩
    ·cases hlc
    ·cases hb'
     have h1n: ∀u,u∈zIE i.size l2.length vs2->u.oneCell'=true:=fun u hu=>by
      obtain⟨j,hj0⟩:=zqd hu
      obtain⟨hj,rfl⟩:=zJu hj0
      obtain⟨p1,p2,p3⟩:=zMG hj
      have he:=zq2 p1
      have hy:=zq2 (show j%i.size<l2[j/i.size].length by rw[hl2 _ (List.getElem_mem p1)];exact p2)
      exact(hn.rep _ _ he _ _ hy).oneCell (zH2 hok he hy).1
     have hfits:l1.length*i.size+(zIE i.size l2.length vs2).length<=cap*i.size:=by
      rw[zB9,<-Nat.add_mul];exact Nat.mul_le_mul_right _ hroom
     obtain⟨g',w',e1,e2,e3,e4,e5,e6,e7,e8,e9⟩:=fillList (P:=P) b (cap*i.size) (zIE i.size l2.length vs2) (l1.length*i.size) g w h (by rw[<-hbo];exact hf) hsp hfits h1n
     have hst:=e1 (b.add (l1.length*i.size)) 0 rfl (fun j=>by rw[zKp];simp)
     refine⟨.slice (some b) (l1.length+l2.length) cap,w',g',bo,?_,e2,?_,?_,by rw[hbo];exact e7⟩
     ·exact zEy h0 h1 hu2 hd2 ht hi b l1.length cap l2.length x (hn.len w) _ (hn.cells w h.sto.imm) hroom hst
     ·refine .osl ⟨i.size,ty0⟩ _ _ _ _ (fun k j=>if k<l1.length then vs k j else vs2 (k-l1.length) j) (by simp) hroom hbd (fun k el hk=>?_) (fun k el hk j y hy=>?_) (fun k el hk j y hy=>?_)
      ·rcases zBs hk with ⟨_,hk⟩|⟨_,_,hk⟩
       ·exact hl1 el (zq3 hk)
       ·exact hl2 el (zq3 hk)
      ·rcases zBs hk with ⟨hlt,hk1⟩|⟨q,rfl,hk1⟩
       ·simp only[if_pos hlt];exact e5 _ _ (himm k el hk1 j y hy)
       ·have hj:=(zq1 hy).1
        rw[hl2 el (zq3 hk1)] at hj
        have hg:=zIh vs2 (zq1 hk1).1 hj
        have:=e6 _ _ hg
        rw[if_neg (by omega),show l1.length+q-l1.length=q by omega,Nat.add_mul,Nat.add_assoc];exact this
      ·rcases zBs hk with ⟨hlt,hk1⟩|⟨q,rfl,hk1⟩
       ·simp only[if_pos hlt];exact(hrep k el hk1 j y hy).monoI e5
       ·rw[if_neg (by omega),show l1.length+q-l1.length=q by omega]
        exact(hn.rep q el hk1 j y hy).monoI e5
     ·intro base n cap' hv
      simp only[Value.slice.injEq] at hv
      obtain⟨rfl,rfl,rfl⟩:=hv
      refine .inr ⟨b,rfl,hbo,⟨q1,q2,q3,e9 _ _ q4,q5⟩,?_⟩
      rw[zB9,<-Nat.add_mul] at e8;exact e8
  ·exact grow (some b) cap rfl (by omega)
def zHE(d:TypeDesc)(y:AV):Option (List (List AV)):=
 match d with
 |.string=>match y with
  |.str l=>some (zCa l)
  |_=>none
 |.slice _=>elems y
 |_=>none
def zLz(size:EC):AV->Option (List (List AV))
 |.nsl=>some []
 |.osl ec l=>if ec=size then some l else none
 |_=>none
def Fits(b n:Nat):Prop:=0<b∧n*b<=140737488355328
def zFt(P:Program)(s:AState)(ts:Array TypeId)(x y:Operand):Option Res:=
 match ts[0]?,ts[1]? with
 |some t,some t2=>match P.underlying t,P.underlying t2 with
  |some (.slice e),some d=>match P.info? e with
   |some i=>match i.zero,zHE d (s.look y),zLz ⟨i.size,e⟩ (s.takeV x) with
    |some z,some l2,some l1=>some ⟨zFr i.size l2∧z.cells.size=i.size∧Fits i.bytes (l1.length+l2.length),.osl ⟨i.size,e⟩ (l1++l2),none,s.takeS x⟩
    |_,_,_=>none
   |none=>none
  |_,_=>none
 |_,_=>none
theorem ok_append(P:Program)(o:Oper)(s:AState)(ts:Array TypeId)(x y:Operand)(ho:o.op=.call {callee:=.builtin .append,args:=#[x,y],argTypes:=ts})(r:Res)
 (hr:zFt P s ts x y=some r) (hs:r.side):OpOk P o s r:=by
 unfold zFt at hr
 split at hr
 case h_2=>cases hr
 rename_i t t2 h0 h1
 split at hr
 case h_2=>cases hr
 rename_i e d ht hu2
 split at hr
 case h_2=>cases hr
 rename_i i hi
 split at hr
 case h_2=>cases hr
 rename_i z l2 l1 hz hl2 hl1
 cases hr
 obtain⟨hok,hzs,hby,hfit⟩:=hs
 intro F g a w h
 obtain⟨g1,bo,s1,s2,s3,s4,s5,s6⟩:=zJX h x
 have hd: ∀k,d≠.int k:=fun k hk=>by rw[hk] at hl2;simp[zHE] at hl2
 have h63:((l1.length+l2.length:Nat):Int)<=9223372036854775807:=by
  have:l1.length+l2.length<=(l1.length+l2.length)*i.bytes:=Nat.le_mul_of_pos_right _ hby
  omega
 have hbd:l1.length+l2.length<=281474976710656:=by
  have:l1.length+l2.length<=(l1.length+l2.length)*i.bytes:=Nat.le_mul_of_pos_right _ hby
  omega
 have hrep:Rep g1.imm g1.σ (.osl ⟨i.size,e⟩ l1) (a.eval x)∧OwnsBy g1.imm w bo (.osl ⟨i.size,e⟩ l1) (a.eval x):=by
  cases hv:s.takeV x<;>rw[hv] at hl1 s2 s3<;>simp only[zLz,reduceCtorEq] at hl1
  ·cases hl1
   cases hv':a.eval x<;>rw[hv'] at s2<;>cases s2
   exact⟨.osl0 _,fun base n cap hh=>by cases hh;exact .inl rfl⟩
  ·split at hl1
   ·rename_i hec;cases hl1;subst hec;exact⟨s2,s3⟩
   ·cases hl1
 have hy:Rep g1.imm g1.σ (s.look y) (a.eval y):=(zAT h y).mono (fun _ _ h=>by rw[s5];exact h) (fun _ _ h=>by rw[s6];exact h)
 have hnews: ∃vs,News P g1 w i.size l2 (a.eval y) vs:=by
  cases d<;>simp only[zHE,reduceCtorEq] at hl2
  ·split at hl2
   ·rename_i b hb
    cases hl2
    obtain⟨bs,hbs,hbl,_⟩:=zIj h hb
    rw[hbs]
    have hsz1:i.size=1∨zCa b=[]:=by
     cases b with
     |nil=>exact .inr rfl
     |cons c b=>exact .inl ((hok _ (zq9 ..)).1).symm
    rcases hsz1 with hsz1|hnil
    ·rw[hsz1];exact⟨_,news_str hbl⟩
    ·have hb0:b=[]:=by simpa[zCa] using hnil
     subst hb0
     refine⟨fun _ _=>undef,fun w=>?_,fun w' _=>?_,fun i e he=>by simp[zCa] at he⟩
     ·have:bs.size=0:=by rw[zDs,hbl];rfl
      simp[Builtin.lenOf,this,zCa]
     ·simp only[Builtin.firstCells,zCa,List.map_nil,List.length_nil,Sem.run_pure]
      congr 1
      apply Array.ext'
      rw[Array.toList_map,Lib.extract_data]
      simp[zIE]
   ·cases hl2
  ·exact zHg hy hl2 (fun e he=>(hok e he).1)
 obtain⟨vs,hn⟩:=hnews
 obtain⟨v',w',g',bo',e1,e2,e3,e4,e5⟩:=append_core s1 hrep.1 hrep.2 s4 hn hok (ty:=o.type) h0 h1 hu2 hd ht hi hz rfl rfl hzs h63 hfit hbd
 refine⟨v',w',g',bo',.inl ?_,e2,e3,e4,e5,fun p hp=>by cases hp⟩
 simp[execOp,ho,resolve,invoke,builtin,e1]
end Go.Abs
