/- For every input the law PatternTypes returns true. Part 17 of 21. No condition. -/
import Derived.Test.YtencdekdgajgfaaGreatDoorPTp
import Derived.Test.YtencdekdgajgfaaGreatDoorRows
import Derived.Shelf.Vars
import Derived.Lib.LaidU8
import Derived.Lib.LaidTab
import Derived.Stop.Joined
import Derived.Stop.LaidErr
set_option linter.unusedVariables false
set_option linter.unnecessarySimpa false
set_option linter.unusedSimpArgs false
set_option maxRecDepth 100000
set_option maxHeartbeats 1000000
namespace Go.Proofs.YtencdekdgajgfaaGreatDoor
open Go Go.Abs
theorem op24(n:Nat):zHc Tryz.prog n 24 zLn.c (fun _=>True):=by
 induction n using Nat.strongRecOn with
 |_ n ih=>
  exact zGa Tryz.underlying24 (N:=4) (by kernel_rfl) (fun p=>⟨p.1,p.2.1,p.2.2.1,p.2.2.2.1⟩) (fun p=>by simp) (fun _ _=>trivial) (fun k hk=>
   zCP rfl (k:=1) (by kernel_rfl) (zHH Tryz.underlying3 k) (zCP rfl (k:=1) (by kernel_rfl) (zHH Tryz.underlying3 k)
    (zCP rfl (k:=1) (by kernel_rfl) (zIY Tryz.underlying9 k)
     (zCP rfl (k:=1) (by kernel_rfl) (zFy Tryz.underlying22 (m:=4) (b:=56) (by kernel_rfl) (by kernel_rfl) (by decide) (fun a=>by simp) (fun j hj=>ih j (by omega))) (zHr (by decide))))))
theorem op27(n:Nat):zHc Tryz.prog n 27 zLl.c (fun _=>True):=by
 induction n using Nat.strongRecOn with
 |_ n ih=>
  exact zGa Tryz.underlying27 (N:=1) (by kernel_rfl) (fun p=>zLl.mk p.1) (fun p=>by simp) (fun _ _=>trivial) (fun k hk=>
   zCP rfl (k:=1) (by kernel_rfl) (zFy Tryz.underlying25 (m:=1) (b:=24) (by kernel_rfl) (by kernel_rfl) (by decide) (fun a=>by simp) (fun j hj=>ih j (by omega))) (zHr (by decide)))
theorem op31(n:Nat):zHc Tryz.prog n 31 zLm.c (fun _=>True):=by
 induction n using Nat.strongRecOn with
 |_ n ih=>
  exact zGa Tryz.underlying31 (N:=6) (by kernel_rfl) (fun p=>⟨p.1,p.2.1,p.2.2.1,p.2.2.2.1,p.2.2.2.2.1,p.2.2.2.2.2.1⟩) (fun p=>by simp) (fun _ _=>trivial) (fun k hk=>
   zCP rfl (k:=1) (by kernel_rfl) (zHH Tryz.underlying3 k) (zCP rfl (k:=1) (by kernel_rfl) (zHH Tryz.underlying3 k)
    (zCP rfl (k:=1) (by kernel_rfl) (zIY Tryz.underlying9 k)
     (zCP rfl (k:=1) (by kernel_rfl) (op27 k)
      (zCP rfl (k:=1) (by kernel_rfl) (zFy Tryz.underlying28 (m:=1) (b:=16) (by kernel_rfl) (by kernel_rfl) (by decide) (fun a=>by simp) (fun j hj=>zIY Tryz.underlying9 j))
       (zCP rfl (k:=1) (by kernel_rfl) (zFy Tryz.underlying29 (m:=6) (b:=104) (by kernel_rfl) (by kernel_rfl) (by decide) (fun a=>by simp) (fun j hj=>ih j (by omega))) (zHr (by decide))))))))
theorem own:ownKnob Tryz.prog.godebug=none:=by kernel_rfl
theorem laid:laidOutB Tryz.prog=true:=by kernel_rfl
theorem tab_reads{W:World}{name:String}{k:IntKind}{zs:List Int}{g:Nat}{t e:TypeId}{n:Nat}
 (hg:Tryz.prog.globalNamed name=some g) (hty:(Tryz.prog.globals[g]?).map (·.type)=some t) (ht:Tryz.prog.underlying t=some (.array n e)) (he:Tryz.prog.underlying e=some (.int k)) (hce:Tryz.prog.cellsOf e=1) (hct:Tryz.prog.cellsOf t=n)
 (h:Lib.VarReads Tryz.prog W name (Lib.tabData k zs)): ∃ty fr,W.heap[g]? =some (.cells (zs.map fun z=>Value.int k z).toArray ty fr):=by
 obtain⟨g',t',cs,fuel,p,hg',ht',hvar,hd⟩:=h
 obtain rfl:=zqa (hg.symm.trans hg')
 obtain rfl:=zqa (hty.symm.trans ht')
 have hcs:=Lib.cells_of_tab ht he hce hct hd
 unfold World.var? at hvar
 rw[hg] at hvar
 simp only[Option.bind_some] at hvar
 split at hvar
 ·rename_i c ty fr hh
  cases hvar
  refine⟨ty,fr,?_⟩
  rw[hh,<-hcs]
 ·cases hvar
theorem laid_drop{P:Program}{W:World}: ∀(k:Nat)(l:List (String×DataW Unit)),laidMet P l W->laidMet P (l.drop k) W
 |0,l,h=>by rw[List.drop_zero];exact h
 |k+1,[],h=>by rw[List.drop_nil];exact h
 |k+1,x::l,h=>laid_drop k l (laidMet.tail h)
theorem laid_at{P:Program}{W:World}{l r:List (String×DataW Unit)}{x:String×DataW Unit}(k:Nat)(h:laidMet P l W)(e:l.drop k=x::r):laidMet P (x::r) W:=by
 rw[<-e];exact laid_drop k l h
theorem err_star: "*" ++ "errors.errorString" = "*errors.errorString" :=by decide
theorem err_row (u:TypeId) (h:Tryz.prog.typeName? 3 u=some "*errors.errorString"):u=230:=
 typeName_ptr_named (nm:= "errors.errorString") (by rw [err_star];kernel_rfl) (by kernel_rfl) (by decide) u (by rw [err_star];exact h)
theorem err_var {n:String} {text:List UInt8} {r:List (String×DataW Unit)} {W:World} {g:Nat} (h:laidMet Tryz.prog ((n,.iface "*errors.errorString" (.ptr (.agg [.lit (.string text)])))::r) W) (hg:Tryz.prog.globalNamed n=some g)
 (ht:(Tryz.prog.globals[g]?).map (·.type)=some 152): ∃t v,W.cell? ⟨g,0,none⟩=some (.iface t v):=by
 obtain⟨a,s,hv,_⟩:=laid_sentinel h hg ht Tryz.underlying152 err_row Tryz.underlying230 Tryz.underlying232 rfl rfl Tryz.underlying9 (by kernel_rfl) (by kernel_rfl)
 exact⟨_,_,World.var?_cell hg hv 0⟩
theorem glob {Q:World→Prop} (hQ: ∀W,Q W→Lib.VarReads Tryz.prog W "internal/strconv.uint64pow10" (Lib.tabData .u64 Lib.pow10Tab)∧Lib.VarReads Tryz.prog W "strings.asciiSpace" (Lib.tabData .u8 Lib.asciiSpaceTab)) (hE: ∀W,Q W→∀i,i∈ge→∃t v,W.cell? ⟨i,0,none⟩=some (.iface t v)):
 ∀W:World,W.ShapedOpen Tryz.prog->Q W->GOk (fun x=>W.cell? x)∧Tabs W:=fun W h hq=>by
 obtain⟨h1,h2⟩:=hQ W hq
 refine⟨⟨fun i hi=>?_,hE W hq⟩,fun t ht=>?_⟩
 ·obtain rfl:i=0:=by simpa[gl] using hi
  exact cell_of_shapedOpen_int h (t:=3) (zero:=#[.int .i64 0]) (k:=.i64) (of_decide_eq_true (by kernel_rfl)) (by kernel_rfl) rfl (by kernel_rfl) (by kernel_rfl) Tryz.underlying3
 simp only[tb,tb1,tb2,List.cons_append,List.nil_append,List.mem_cons,List.not_mem_nil,or_false] at ht
 rcases ht with rfl|rfl
 ·exact tab_reads (t:=223) (e:=150) (by kernel_rfl) (by kernel_rfl) (n:=20) (by kernel_rfl) (by kernel_rfl) (by kernel_rfl) (by kernel_rfl) h1
 ·exact tab_reads (t:=226) (e:=5) (by kernel_rfl) (by kernel_rfl) (n:=256) (by kernel_rfl) (by kernel_rfl) (by kernel_rfl) (by kernel_rfl) h2
def vnP(v:Api.Value):Prop:=v.Names.length<=1000∧(v.Op=5->v.L.length=1)∧(v.Op=4->v.L.length=1)
inductive Vok:Api.Value->Prop
 |mk (v:Api.Value) (h:vnP v) (hs: ∀x,x∈v.L->Vok x):Vok v
def Ev{α:Type}(f:Nat->Option α)(r:α):Prop:= ∃N,∀n,N<=n->f n=some r
def Tot{α:Type}(f:Nat->Option α)(Q:α->Prop):Prop:= ∃r,Ev f r∧Q r
theorem Ev.uniq{α:Type}{f:Nat->Option α}{a b:α}(h1:Ev f a)(h2:Ev f b):a=b:=by
 obtain⟨N,h1⟩:=h1
 obtain⟨M,h2⟩:=h2
 have:=(h1 (N+M) (by omega)).symm.trans (h2 (N+M) (by omega))
 exact zqa this
theorem Ev.tot{α:Type}{f:Nat->Option α}{r:α}(h:Ev f r):Tot f (fun x=>x=r):=⟨r,h,rfl⟩
theorem Ev.of{α:Type}{f:Nat->Option α}{r:α}{K:Nat}(h: ∀n,K<=n->f n=some r):Ev f r:=⟨K,h⟩
theorem Tot.mono{α:Type}{f:Nat->Option α}{Q Q':α->Prop}(h:Tot f Q)(hq: ∀r,Q r->Q' r):Tot f Q':=by
 obtain⟨r,h1,h2⟩:=h;exact⟨r,h1,hq r h2⟩
theorem Tot.pure{α:Type}{r:α}{Q:α->Prop}(h:Q r):Tot (fun _=>some r) Q:=⟨r,⟨0,fun _ _=>rfl⟩,h⟩
theorem Tot.bind{α β:Type}{f:Nat->Option α}{g:Nat->α->Option β}{A:α->Prop}{Q:β->Prop}(h1:Tot f A)(h2: ∀a,A a->Tot (fun n=>g n a) Q):Tot (fun n=>(f n).bind (g n)) Q:=by
 obtain⟨a,⟨N,ha⟩,hA⟩:=h1
 obtain⟨b,⟨M,hb⟩,hQ⟩:=h2 a hA
 refine⟨b,⟨N+M,fun n hn=>?_⟩,hQ⟩
 show(f n).bind (g n)=some b
 rw[ha n (by omega),zBH];exact hb n (by omega)
theorem Ev.bind{α β:Type}{f:Nat->Option α}{g:Nat->α->Option β}{a:α}{b:β}(h1:Ev f a)(h2:Ev (fun n=>g n a) b):Ev (fun n=>(f n).bind (g n)) b:=by
 obtain⟨N,ha⟩:=h1
 obtain⟨M,hb⟩:=h2
 refine⟨N+M,fun n hn=>?_⟩
 show(f n).bind (g n)=some b
 rw[ha n (by omega),zBH];exact hb n (by omega)
theorem Tot.ev{α β:Type}{f:Nat->Option α}{g:Nat->α->Option β}{a:α}{Q:β->Prop}(h1:Ev f a)(h2:Tot (fun n=>g n a) Q):Tot (fun n=>(f n).bind (g n)) Q:=
 Tot.bind h1.tot fun x hx=>by subst hx;exact h2
theorem Tot.k{α β:Type}{x:Option α}{g:Nat->α->Option β}{a:α}{Q:β->Prop}(h1:x=some a)(h2:Tot (fun n=>g n a) Q):Tot (fun n=>x.bind (g n)) Q:=by
 subst h1;exact h2
theorem Tot.ite{α:Type}{c:Bool}{f g:Nat->Option α}{Q:α->Prop}(h1:c=true->Tot f Q)(h2:c=false->Tot g Q):Tot (fun n=>if c=true then f n else g n) Q:=by
 cases c with
 |true=>exact h1 rfl
 |false=>exact h2 rfl
theorem Tot.step{α:Type}{F G:Nat->Option α}{Q:α->Prop}(h: ∀n,F (n+1)=G n)(hg:Tot G Q):Tot F Q:=by
 obtain⟨r,⟨N,hN⟩,hq⟩:=hg
 refine⟨r,⟨N+1,fun n hn=>?_⟩,hq⟩
 obtain⟨m,rfl⟩: ∃m,n=m+1:=⟨n-1,by omega⟩
 rw[h];exact hN m (by omega)
theorem Tot.eq{α:Type}{F G:Nat->Option α}{Q:α->Prop}(h: ∀n,F n=G n)(hg:Tot G Q):Tot F Q:=by
 rw[show F=G from funext h];exact hg
theorem Tot.chk{β:Type}{x:Int}{g:Nat->Int->Option β}{Q:β->Prop}(h1: -9223372036854775808<=x)(h2:x<=9223372036854775807)(h:Tot (fun n=>g n x) Q):Tot (fun n=>(chk .i64 x).bind (g n)) Q:=Tot.k (zIN h1 h2) h
theorem Tot.sum{α β:Type}{o:α ⊕ β}{g:Nat->β->Option α}{Q:α->Prop}(h1: ∀a,o=.inl a->Q a)(h2: ∀b,o=.inr b->Tot (fun n=>g n b) Q):Tot (fun n=>Sum.elim some (g n) o) Q:=by
 cases o with
 |inl a=>exact Tot.pure (h1 a rfl)
 |inr b=>exact h2 b rfl
theorem Tot.loop{α β γ:Type}(l:List α)(L:Nat->Nat->β->Nat->Option γ)(S:Nat->Nat->β->α->Option (γ ⊕ β))(E:β->γ)
 (hL: ∀n k b i,L n (k+1) b i=if ltI (i:Int) (l.length:Int)=true then (l[i]?).bind fun x=>(S n i b x).bind fun r=>Sum.elim some (fun b'=>L n k b' (i+1)) r else some (E b))
 (I:Nat->β->Prop) (R:γ->Prop)
 (hS: ∀i b x,l[i]? =some x->I i b->Tot (fun n=>S n i b x) (fun r=>(∀g,r=.inl g->R g)∧(∀b',r=.inr b'->I (i+1) b')))
 (hE: ∀b,I l.length b->R (E b)) (b0:β) (h0:I 0 b0):Tot (fun n=>L n n b0 0) R:=by
 have key: ∀m i b,i+m=l.length->I i b->∃g,R g∧∃N,∀n,N<=n->∀k,m<k->L n k b i=some g:=by
  intro m
  induction m with
  |zero=>
   intro i b hi hI
   refine⟨E b,hE b (by rw[<-hi];exact hI),0,fun n _ k hk=>?_⟩
   obtain⟨k,rfl⟩: ∃q,k=q+1:=⟨k-1,by omega⟩
   rw[hL,if_neg (ltN (by omega))]
  |succ m ih=>
   intro i b hi hI
   have hx:l[i]? =some l[i]:=zq2 (by omega)
   obtain⟨r,⟨N,hN⟩,q1,q2⟩:=hS i b l[i] hx hI
   cases r with
   |inl g=>
    refine⟨g,q1 g rfl,N,fun n hn k hk=>?_⟩
    obtain⟨k,rfl⟩: ∃q,k=q+1:=⟨k-1,by omega⟩
    rw[hL,if_pos (ltP (by omega)),hx,zBH,show S n i b l[i]=_ from hN n hn,zBH];rfl
   |inr b'=>
    obtain⟨g,hg,N',hN'⟩:=ih (i+1) b' (by omega) (q2 b' rfl)
    refine⟨g,hg,N+N',fun n hn k hk=>?_⟩
    obtain⟨k,rfl⟩: ∃q,k=q+1:=⟨k-1,by omega⟩
    rw[hL,if_pos (ltP (by omega)),hx,zBH,show S n i b l[i]=_ from hN n (by omega),zBH]
    exact hN' n (by omega) k (by omega)
 obtain⟨g,hg,N,hN⟩:=key l.length 0 b0 (by omega) h0
 exact⟨g,⟨N+l.length+1,fun n hn=>hN n (by omega) n (by omega)⟩,hg⟩
theorem Tot.loop1{α β γ:Type}(l:List α)(L:Nat->Nat->β->Nat->Option γ)(S:Nat->Nat->β->α->Option β)(E:β->γ)
 (hL: ∀n k b i,L n (k+1) b i=if ltI (i:Int) (l.length:Int)=true then (l[i]?).bind fun x=>(S n i b x).bind fun b'=>L n k b' (i+1) else some (E b))
 (I:Nat->β->Prop) (R:γ->Prop) (hS: ∀i b x,l[i]? =some x->I i b->Tot (fun n=>S n i b x) (fun b'=>I (i+1) b'))
 (hE: ∀b,I l.length b->R (E b)) (b0:β) (h0:I 0 b0):Tot (fun n=>L n n b0 0) R:=
 Tot.loop l L (fun n i b x=>(S n i b x).bind fun b'=>some (.inr b')) E (fun n k b i=>by
  rw[hL]
  split
  ·congr 1;funext x;cases S n i b x<;>rfl
  ·rfl) I R
  (fun i b x hx hI=>by
   refine Tot.bind (hS i b x hx hI) fun b' hb=>?_
   refine Tot.pure ?_
   exact⟨fun g hg=>(by cases hg),fun b'' h=>by cases h;exact hb⟩) hE b0 h0
def csz(c:zLm):Nat:=1+(c.L.map csz).sum
decreasing_by all_goals (cases c;simp only[zLm.mk.sizeOf_spec];have:=List.sizeOf_lt_of_mem ‹_›;simp only at this;omega)
theorem zE5(c:zLm):csz c=1+(c.L.map csz).sum:=by rw[csz]
theorem zCH{c x:zLm}(h:x∈c.L):csz x+1<=csz c:=by
 rw[zE5 c];have:=le_sum csz h;omega
theorem zEv(c:zLm):1<=csz c:=by rw[zE5];omega
theorem zCv{T:zLm->Prop}(h: ∀c,(∀x,x∈c.L->T x)->T c): ∀c,T c:=by
 have key: ∀n c,csz c<=n->T c:=by
  intro n
  induction n with
  |zero=>intro c hc;have:=zEv c;omega
  |succ n ih=>exact fun c hc=>h c fun x hx=>ih x (by have:=zCH hx;omega)
 exact fun c=>key (csz c) c (Nat.le_refl _)
theorem zIs(c:zLm):c.L.length+1<=csz c:=by
 rw[zE5]
 have:c.L.length<=(c.L.map csz).sum:=by
  induction c.L with
  |nil=>simp
  |cons x l ih=>simp only[List.length_cons,List.map_cons,List.sum_cons];have:=zEv x;omega
 omega
def ksz(k:zLl):Nat:=1+(k.L.map ksz).sum
decreasing_by all_goals (cases k;simp only[zLl.mk.sizeOf_spec];have:=List.sizeOf_lt_of_mem ‹_›;simp only at this;omega)
theorem ksz_eq(k:zLl):ksz k=1+(k.L.map ksz).sum:=by rw[ksz]
theorem ksz_mem{k x:zLl}(h:x∈k.L):ksz x+1<=ksz k:=by
 rw[ksz_eq k];have:=le_sum ksz h;omega
theorem ksz_pos(k:zLl):1<=ksz k:=by rw[ksz_eq];omega
theorem zJl{T:zLl->Prop}(h: ∀c,(∀x,x∈c.L->T x)->T c): ∀c,T c:=by
 have key: ∀n c,ksz c<=n->T c:=by
  intro n
  induction n with
  |zero=>intro c hc;have:=ksz_pos c;omega
  |succ n ih=>exact fun c hc=>h c fun x hx=>ih x (by have:=ksz_mem hx;omega)
 exact fun c=>key (ksz c) c (Nat.le_refl _)
theorem zBj{α:Type}(f:α->Nat)(l:List α)(i:Nat)(x:α)(h:l[i]? =some x):((l.take (i+1)).map f).sum=((l.take i).map f).sum+f x:=by
 rw[List.take_add_one,h];simp
theorem zD8{α:Type}(f:α->Nat)(l:List α)(i:Nat):((l.take i).map f).sum<=(l.map f).sum:=by
 conv=>rhs;rw[<-List.take_append_drop i l,List.map_append,List.sum_append]
 omega
theorem Size_T(c:zLm):csz c<=1000000000000->Tot (fun n=>zCD n c) (fun r=>r=csz c):=by
 induction c using zCv with
 |h c ih=>
 intro hc
 refine Tot.step (fun n=>by rw[zCD]) ?_
 refine Tot.bind (A:=fun r=>r=(csz c:Int)) ?_ (fun a ha=>?_)
 rotate_left
 ·exact Tot.pure ha
 refine Tot.loop1 c.L (fun n k b i=>zDI (zCD n) c k b i) (fun n i b x=>(zCD n x).bind fun v=>chk .i64 (b+v)) (fun b=>b)
  (fun n k b i=>by rw[zDI];simp only[Option.bind_assoc]) (fun i b=>b=1+(((c.L.take i).map csz).sum:Nat)) (fun r=>r=csz c) ?_ (fun b hb=>?_) 1 (by simp)
 ·intro i b x hx hb
  have hm:=zq3 hx
  have h1:=zCH hm
  have h2:=zD8 csz c.L (i+1)
  have h3:=zE5 c
  refine Tot.bind (ih x hm (by omega)) fun v hv=>?_
  rw[zBj csz _ _ _ hx] at h2 ⊢
  exact⟨b+v,⟨0,fun n _=>zIN (by omega) (by omega)⟩,by omega⟩
 ·rw[hb,List.take_length,zE5 c];simp
theorem depth_T(c:zLm):csz c<=1000000000000->Tot (fun n=>zBc n c) (fun r=>0<=r∧r<=csz c):=by
 induction c using zCv with
 |h c ih=>
 intro hc
 refine Tot.step (fun n=>by rw[zBc]) ?_
 refine Tot.bind (A:=fun r=>0<=r∧r+1<=(csz c:Int)) ?_ (fun a ha=>?_)
 rotate_left
 ·refine Tot.chk (by omega) (by omega) ?_
  exact Tot.pure ⟨by omega,by omega⟩
 refine Tot.loop1 c.L (fun n k b i=>zBu (zBc n) c k b i) (fun n i b x=>(zBc n x).bind fun v=>some (maxI b v)) (fun b=>b)
  (fun n k b i=>by rw[zBu];simp only[Option.bind_assoc,zBH]) (fun i b=>0<=b∧b+1<=(csz c:Int)) _ ?_ (fun b hb=>hb) 0 (by have:=zEv c;omega)
 intro i b x hx hb
 have hm:=zq3 hx
 have h1:=zCH hm
 refine Tot.bind (ih x hm (by omega)) fun v hv=>?_
 refine Tot.pure ?_
 unfold maxI
 split<;>omega
theorem nsize_T(c:zLm):csz c<=1000000000000->Tot (fun n=>zBQ n c) (fun r=>r.1=csz c∧0<=r.2∧r.2<=csz c):=by
 induction c using zCv with
 |h c ih=>
 intro hc
 refine Tot.step (fun n=>by rw[zBQ]) ?_
 refine Tot.bind (A:=fun r=>r.2=(csz c:Int)∧0<=r.1∧r.1+1<=(csz c:Int)) ?_ (fun a ha=>?_)
 rotate_left
 ·refine Tot.chk (by omega) (by omega) ?_
  exact Tot.pure ⟨ha.1,by omega,by omega⟩
 refine Tot.loop1 c.L (fun n k (b:Int×Int) i=>zB1 (zBQ n) c k b.1 b.2 i) (fun n i b x=>(zBQ n x).bind fun v=>(chk .i64 (b.1+v.1)).bind fun m=>some (m,maxI b.2 v.2)) (fun b=>(b.2,b.1))
  (fun n k b i=>by rw[zB1];simp only[Option.bind_assoc,zBH]) (fun i b=>b.1=1+(((c.L.take i).map csz).sum:Nat)∧0<=b.2∧b.2+1<=(csz c:Int)) _ ?_ (fun b hb=>⟨?_,hb.2⟩) (1,0) (by have:=zEv c;simp;omega)
 ·intro i b x hx hb
  have hm:=zq3 hx
  have h1:=zCH hm
  have h2:=zD8 csz c.L (i+1)
  have h3:=zE5 c
  refine Tot.bind (ih x hm (by omega)) fun v hv=>?_
  rw[zBj csz _ _ _ hx] at h2 ⊢
  refine Tot.chk (by omega) (by omega) ?_
  refine Tot.pure ⟨?_,?_⟩
  ·simp only;omega
  ·unfold maxI
   simp only
   split<;>omega
 ·have h4:=hb.1
  rw[List.take_length] at h4
  rw[zE5 c];simp only;omega
theorem ksize_T(k:zLl): ∀(left d:Int),-100000<=left->left<=100000->0<=d->d<=500->Tot (fun n=>zC9 n k left d) (fun r=>0<=r.1∧(r.2=true->1<=r.1∧r.1<=left∧ksz k=r.1)):=by
 induction k using zJl with
 |h k ih=>
 intro left d h1 h2 h3 h4
 refine Tot.step (fun n=>by rw[zC9]) ?_
 refine Tot.ite (fun hc=>Tot.pure ⟨by simp,fun h=>by cases h⟩) (fun hc=>?_)
 simp only[Bool.or_eq_false_iff] at hc
 have hl:=leF hc.1
 have hd:=ltF hc.2.1
 refine Tot.bind (A:=fun r=>(∀g,r=.inl g->g=((0:Int),false))∧∀b,r=.inr b->1<=b∧b<=left∧(ksz k:Int)=b) ?_ (fun o ho=>?_)
 rotate_left
 ·refine Tot.sum (fun a ha=>?_) (fun b hb=>?_)
  ·rw[ho.1 a ha];exact⟨by simp,fun h=>by cases h⟩
  ·have:=ho.2 b hb
   exact Tot.pure ⟨by simp only;omega,fun _=>this⟩
 refine Tot.loop k.L (fun n kk b i=>zB2 (zC9 n) k left d kk b i)
  (fun n i b x=>(chk .i64 (left-b)).bind fun m=>(chk .i64 (d+1)).bind fun e=>(zC9 n x m e).bind fun v=>if (!v.2)=true then some (.inl (.inl (0,false))) else (chk .i64 (b+v.1)).bind fun q=>some (.inr q)) .inr
  (fun n kk b i=>by
   rw[zB2]
   simp only[Option.bind_assoc]
   split
   ·congr 1;funext x;congr 1;funext m;congr 1;funext e;congr 1;funext v
    split
    ·rfl
    ·simp only[Option.bind_assoc,zBH];rfl
   ·rfl) (fun i b=>1<=b∧b<=left∧b=1+(((k.L.take i).map ksz).sum:Nat)) _ ?_ (fun b hb=>⟨fun g hg=>(by cases hg),fun b' hb'=>?_⟩) 1 (by simp;omega)
 ·intro i b x hx hb
  have hm:=zq3 hx
  refine Tot.chk (by omega) (by omega) (Tot.chk (by omega) (by omega) ?_)
  refine Tot.bind (ih x hm (left-b) (d+1) (by omega) (by omega) (by omega) (by omega)) fun v hv=>?_
  refine Tot.ite (fun hc=>Tot.pure ⟨fun g hg=>?_,fun b' hb'=>by cases hb'⟩) (fun hc=>?_)
  ·cases hg;exact⟨fun g hg=>(by cases hg;rfl),fun b hb=>(by cases hb)⟩
  ·have hv2:=hv.2 (by simpa using hc)
   refine Tot.chk (by omega) (by omega) (Tot.pure ⟨fun g hg=>(by cases hg),fun b' hb'=>?_⟩)
   cases hb'
   rw[zBj ksz _ _ _ hx]
   omega
 ·cases hb'
  obtain⟨h5,h6,h7⟩:=hb
  rw[List.take_length] at h7
  rw[ksz_eq k]
  exact⟨h5,h6,by omega⟩
theorem KValid_T(k:zLl):Tot (fun n=>zCi n k) (fun b=>b=true->ksz k<=20000):=by
 unfold zCi
 refine Tot.bind (ksize_T k 20000 1 (by decide) (by decide) (by decide) (by decide)) fun v hv=>Tot.pure fun h=>?_
 have:=hv.2 h
 omega
theorem Tot.index{α:Type}(l:List α)(L:Nat->Nat->Nat->Option (Int ⊕ Unit))(F:Nat->α->Option Bool)
 (hL: ∀n k i,L n (k+1) i=if ltI (i:Int) (l.length:Int)=true then (l[i]?).bind fun x=>(F n x).bind fun v=>if v=true then some (.inl (i:Int)) else L n k (i+1) else some (.inr ()))
 (P T:α->Prop) (hF: ∀x,x∈l->Tot (fun n=>F n x) (fun b=>(b=false->P x)∧(b=true->T x))):
 Tot (fun n=>L n n 0) (fun o=>(∀i,o=.inl i->0<=i∧∃x,x∈l∧T x)∧(∀u,o=.inr u->∀x,x∈l->P x)):=by
 refine Tot.loop l (fun n k (b:Unit) i=>L n k i) (fun n i b x=>(F n x).bind fun v=>if v=true then some (.inl (.inl (i:Int))) else some (.inr ())) (fun _=>.inr ())
  (fun n k b i=>by
   rw[hL]
   split
   ·congr 1;funext x
    rw[Option.bind_assoc]
    congr 1;funext v
    split<;>rfl
   ·rfl) (fun i _=> ∀j x,j<i->l[j]? =some x->P x) _ ?_ (fun b hb=>⟨fun i hi=>(by cases hi),fun u _ x hx=>?_⟩) () (fun j x hj=>(by omega))
 ·intro i b x hx hb
  refine Tot.bind (hF x (zq3 hx)) fun v hv=>?_
  refine Tot.ite (fun hc=>Tot.pure ⟨fun g hg=>?_,fun b' hb'=>(by cases hb')⟩) (fun hc=>Tot.pure ⟨fun g hg=>(by cases hg),fun b' hb' j y hj hy=>?_⟩)
  ·cases hg
   exact⟨fun i' hi'=>(by cases hi';exact⟨by omega,x,zq3 hx,hv.2 hc⟩),fun u hu=>(by cases hu)⟩
  ·by_cases hji:j=i
   ·subst hji;rw[hx] at hy;cases hy;exact hv.1 hc
   ·exact hb j y (by omega) hy
 ·obtain⟨j,hj,rfl⟩:=List.getElem_of_mem hx
  exact hb j _ hj (zq2 hj)
theorem zEe{P T:Prop}{f:Nat->Option (Int ⊕ Unit)}{α:Type}{l:List α}{Q R:α->Prop}(h:Tot f (fun o=>(∀i,o=.inl i->0<=i∧∃x,x∈l∧R x)∧(∀u,o=.inr u->∀x,x∈l->Q x))):
 Tot (fun n=>(f n).bind fun o=>Sum.elim some (fun _=>some (-1)) o) (fun i=>(leI 0 i=false->∀x,x∈l->Q x)∧(leI 0 i=true->∃x,x∈l∧R x)):=by
 refine Tot.bind h fun o ho=>?_
 refine Tot.sum (fun a ha=>?_) (fun b hb=>Tot.pure ?_)
 ·have:=ho.1 a ha
  exact⟨fun h=>by have:=leF h;omega,fun _=>this.2⟩
 ·exact⟨fun _=>ho.2 b hb,fun h=>by have:=leT h;omega⟩
structure okN (c:zLm):Prop where
 parts:zB4 c=some (c.L.length:Int)
 n0:0<=c.N
 n1:c.N<=20000
 names:c.Names.length<=1000
 str:c.S.length<=48
 kind:ksz c.Kind<=20000
 lab:c.Names=[]∨zAn c=some true
inductive Fm:zLm->Prop
 |mk (c:zLm) (h:okN c) (hs: ∀x,x∈c.L->Fm x):Fm c
theorem Fm.here{c:zLm}(h:Fm c):okN c:=by cases h;assumption
theorem Fm.part{c x:zLm}(h:Fm c)(hx:x∈c.L):Fm x:=by cases h with|mk _ _ hs=>exact hs x hx
inductive Sh:zLm->Prop
 |mk (c:zLm) (h:c.S.length<=100000) (hs: ∀x,x∈c.L->Sh x):Sh c
theorem Sh.here{c:zLm}(h:Sh c):c.S.length<=100000:=by cases h;assumption
theorem Sh.part{c x:zLm}(h:Sh c)(hx:x∈c.L):Sh x:=by cases h with|mk _ _ hs=>exact hs x hx
theorem Fm.sh{c:zLm}(h:Fm c):Sh c:=by
 induction h with
 |mk c h hs ih=>exact .mk c (by have:=h.str;omega) ih
theorem parts_ex(c:zLm): ∃v,zB4 c=some v:=by
 unfold zB4
 split
 ·exact⟨_,rfl⟩
 ·unfold zAn zAx
  simp only[zBH]
  split
  ·exact⟨_,rfl⟩
  ·split
   ·exact⟨_,rfl⟩
   ·split<;>exact⟨_,rfl⟩
theorem cut_le(s t:List UInt8):(Lib.cut s t).1.length<=s.length∧(Lib.cut s t).2.1.length<=s.length:=by
 unfold Lib.cut
 split
 ·simp;omega
 ·simp
theorem Number_T(s:List UInt8)(hs:s.length<=1000000):Tot (fun n=>zDo n s) (fun _=>True):=by
 unfold zDo
 have h1: ∃b,(if eqS s ([]:List UInt8)=true then some true else if ltI 1 (s.length:Int)=true then (s[0]?).bind fun c6=>some (eqI (c6.toNat:Int) 48) else some false:Option Bool)=some b:=by
  split
  ·exact⟨_,rfl⟩
  ·split
   ·rename_i h
    have:=ltT h
    rw[zq2 (show 0<s.length by omega)]
    exact⟨_,rfl⟩
   ·exact⟨_,rfl⟩
 obtain⟨b,hb⟩:=h1
 refine Tot.k hb ?_
 refine Tot.ite (fun _=>Tot.pure trivial) (fun _=>?_)
 refine Tot.k (a:=s) (by rw[zKR,if_pos (by omega)]) ?_
 have hE:Tot (fun n=>zBV s n 0) (fun _=>True):=by
  refine Tot.mono (Tot.loop s (fun n k (b:Unit) i=>zBV s k i) (fun n i b x=>(zCV x).bind fun v=>if (!(eqI v 3))=true then some (.inl (.inl (0,3))) else some (.inr ())) (fun _=>.inr ()) (fun n k b i=>?_) (fun _ _=>True) (fun _=>True) ?_ (fun _ _=>trivial) () trivial) fun _ h=>h
  ·rw[zBV]
   split
   ·congr 1;funext x
    rw[Option.bind_assoc]
    congr 1;funext v
    split<;>rfl
   ·rfl
  ·intro i b x hx _
   obtain⟨m,hm,_⟩:=of_M x
   refine Tot.k hm ?_
   exact Tot.ite (fun _=>Tot.pure ⟨fun _ _=>trivial,fun _ _=>trivial⟩) (fun _=>Tot.pure ⟨fun _ _=>trivial,fun _ _=>trivial⟩)
 refine Tot.bind hE fun o _=>?_
 refine Tot.sum (fun _ _=>trivial) (fun b hb=>?_)
 have h2: ∃r,zBw s=some r:=by
  unfold zBw
  rw[if_pos hs]
  split<;>exact⟨_,rfl⟩
 obtain⟨r,hr⟩:=h2
 refine Tot.k hr ?_
 refine Tot.ite (fun _=>Tot.pure trivial) (fun _=>Tot.ite (fun _=>Tot.pure trivial) (fun _=>Tot.pure trivial))
theorem constant_T(s:List UInt8)(hs:s.length<=100000):Tot (fun n=>zBO n s) (fun b=>b=true->s.length<=48):=by
 unfold zBO
 refine Tot.k (a:=Lib.cut s [46]) (by rw[zEf,if_pos (by omega)]) ?_
 have hc:=cut_le s [46]
 refine Tot.bind (Number_T _ (by omega)) fun v _=>?_
 refine Tot.bind (A:=fun b=>b=true->s.length<=48) ?_ (fun b hb=>Tot.pure hb)
 refine Tot.ite (fun _=>Tot.ite (fun h=>?_) (fun _=>Tot.pure fun h=>by cases h)) (fun _=>Tot.pure fun h=>by cases h)
 have hl:=leT h
 refine Tot.bind (Ev.of (K:=30) fun n hn=>zLf _ hn).tot fun b _=>?_
 exact Tot.ite (fun _=>Tot.pure fun _=>by omega) (fun _=>Tot.pure fun h=>by cases h)
theorem asc_T(l:List (List UInt8)):Tot (fun n=>zAf n l) (fun _=>True):=by
 have key: ∀n i,i+n=l.length->∃o,∀k,n+1<=k->zAk l k (i+1)=some o:=by
  intro n
  induction n with
  |zero=>
   intro i hi
   refine⟨.inr (),fun k hk=>?_⟩
   obtain⟨k,rfl⟩: ∃q,k=q+1:=⟨k-1,by omega⟩
   rw[zAk,if_neg (ltN (by omega))]
  |succ n ihn=>
   intro i hi
   by_cases hlt:i+1<l.length
   ·have hx:l[i+1]? =some l[i+1]:=zq2 hlt
    have hy:idx l (((i+1:Nat):Int)-1)=some l[i]:=by
     rw[show((i+1:Nat):Int)-1=(i:Int) by omega,idxN];exact zq2 (by omega)
    obtain⟨o,ho⟩:=ihn (i+1) (by omega)
    cases hc:ltS l[i] l[i+1] with
    |false=>
     refine⟨.inl false,fun k hk=>?_⟩
     obtain⟨k,rfl⟩: ∃q,k=q+1:=⟨k-1,by omega⟩
     rw[zAk,if_pos (ltP hlt),hy,zBH,hx,zBH,hc];rfl
    |true=>
     refine⟨o,fun k hk=>?_⟩
     obtain⟨k,rfl⟩: ∃q,k=q+1:=⟨k-1,by omega⟩
     rw[zAk,if_pos (ltP hlt),hy,zBH,hx,zBH,hc]
     exact ho k (by omega)
   ·refine⟨.inr (),fun k hk=>?_⟩
    obtain⟨k,rfl⟩: ∃q,k=q+1:=⟨k-1,by omega⟩
    rw[zAk,if_neg (ltN hlt)]
 obtain⟨o,ho⟩:=key l.length 0 (by omega)
 unfold zAf
 refine Tot.bind (Ev.of (K:=l.length+1) fun n hn=>ho n hn).tot fun o' _=>?_
 exact Tot.sum (fun _ _=>trivial) (fun b hb=>Tot.pure trivial)
theorem label_T(s:List UInt8):Tot (fun n=>zDS n s) (fun _=>True):=by
 unfold zDS
 refine Tot.ite (fun _=>Tot.pure trivial) (fun h=>?_)
 rw[Bool.or_eq_false_iff] at h
 have:=ltF h.2
 refine Tot.k (a:=s) (by rw[zKR,if_pos (by omega)]) ?_
 refine Tot.bind (A:=fun _=>True) ?_ fun o _=>Tot.sum (fun _ _=>trivial) (fun b hb=>Tot.pure trivial)
 refine Tot.loop s (fun n k (b:Unit) i=>zBa s k i) (fun n i b x=>(zCV x).bind fun v=>if eqI v 0=true then some (.inl (.inl false)) else some (.inr ())) (fun _=>.inr ()) (fun n k b i=>?_) (fun _ _=>True) (fun _=>True) ?_ (fun _ _=>trivial) () trivial
 ·rw[zBa]
  split
  ·congr 1;funext x
   rw[Option.bind_assoc]
   congr 1;funext v
   split<;>rfl
  ·rfl
 ·intro i b x hx _
  obtain⟨m,hm,_⟩:=of_M x
  refine Tot.k hm ?_
  exact Tot.ite (fun _=>Tot.pure ⟨fun _ _=>trivial,fun _ _=>trivial⟩) (fun _=>Tot.pure ⟨fun _ _=>trivial,fun _ _=>trivial⟩)
theorem labels_T(l:List (List UInt8)):Tot (fun n=>zAG n l) (fun _=>True):=by
 unfold zAG zBA
 refine Tot.bind (zEe (Q:=fun _=>True) (R:=fun _=>True) (P:=True) (T:=True) (Tot.index l (fun n k i=>zAP n l k i) (fun n x=>zCw n x) (fun n k i=>by rw[zAP]) _ _ fun x hx=>?_)) fun v _=>Tot.pure trivial
 unfold zCw
 exact Tot.bind (label_T x) fun v _=>Tot.pure ⟨fun _=>trivial,fun _=>trivial⟩
theorem zId(c:zLm)(hl:c.S.length<=100000)(hparts:Tot (fun n=>zAI n c.L) (fun b=>b=false->∀x,x∈c.L->Fm x))(hpar:zB4 c=some (c.L.length:Int))(h1:0<=c.N)(h2:c.N<=20000):
 Tot (fun fuel=>
  (if eqI c.Op 2 then
   (zBO fuel c.S).bind fun v21=>
   if !v21 then
    some true
   else
    some false
  else
   some (!(eqS c.S ([]:List UInt8))):Option Bool).bind fun b27=>
  if b27 then
   some false
  else
   ((zAx c).bind fun v30=>
   if v30 then
    some true
   else
    some (eqI c.Op 2):Option Bool).bind fun b33=>
   (if b33 then
    (zCi fuel c.Kind).bind fun v36=>
    if !v36 then
     some true
    else
     some false
   else
    some (ltI 0 (c.Kind.L.length:Int)):Option Bool).bind fun b41=>
   if b41 then
    some false
   else
    (if ltI 0 (c.Names.length:Int) then
     (zAn c).bind fun v47=>
     if !v47 then
      some true
     else if ltI 1000 (c.Names.length:Int) then
      some true
     else
      (zAf fuel c.Names).bind fun v55=>
      if !v55 then
       some true
      else
       (zAG fuel c.Names).bind fun v60=>
       some v60
    else if ltI 1000 (c.Names.length:Int) then
     some true
    else
     (zAf fuel c.Names).bind fun v67=>
     if !v67 then
      some true
     else
      (zAG fuel c.Names).bind fun v72=>
      some v72:Option Bool).bind fun b74=>
    if b74 then
     some false
    else
     ((zAI fuel) c.L).bind fun v77=>
     some (!v77)) (fun b=>b=true->Fm c):=by
 refine Tot.bind (A:=fun b=>b=false->c.S.length<=48) ?_ (fun b hb=>?_)
 ·refine Tot.ite (fun _=>?_) (fun _=>?_)
  ·refine Tot.bind (constant_T _ (by first|assumption|omega)) fun v hv=>?_
   exact Tot.ite (fun h=>Tot.pure fun h=>by cases h) (fun h=>Tot.pure fun _=>hv (notF h))
  ·refine Tot.pure fun h=>?_
   have h:=notF (b:=eqS c.S []) (by simpa using h)
   rw[of_decide_eq_true h];simp
 refine Tot.ite (fun _=>Tot.pure fun h=>by cases h) (fun hb0=>?_)
 have hstr:=hb hb0
 refine Tot.bind (A:=fun _=>True) ?_ (fun b _=>?_)
 ·unfold zAx
  refine Tot.k rfl (Tot.ite (fun _=>Tot.pure trivial) (fun _=>Tot.pure trivial))
 refine Tot.bind (A:=fun b=>b=false->ksz c.Kind<=20000) ?_ (fun b hb=>?_)
 ·refine Tot.ite (fun _=>?_) (fun _=>?_)
  ·refine Tot.bind (KValid_T _) fun v hv=>?_
   exact Tot.ite (fun h=>Tot.pure fun h=>by cases h) (fun h=>Tot.pure fun _=>hv (notF h))
  ·refine Tot.pure fun h=>?_
   have h:=ltF h
   rw[ksz_eq,List.eq_nil_of_length_eq_zero (l:=c.Kind.L) (by omega)];simp
 refine Tot.ite (fun _=>Tot.pure fun h=>by cases h) (fun hb0=>?_)
 have hkind:=hb hb0
 refine Tot.bind (A:=fun b=>b=false->c.Names.length<=1000∧(c.Names=[]∨zAn c=some true)) ?_ (fun b hb=>?_)
 ·refine Tot.ite (fun _=>?_) (fun h0=>?_)
  ·refine Tot.k (a:=eqI c.Op 7||eqI c.Op 8) rfl (Tot.ite (fun _=>Tot.pure fun h=>by cases h) (fun hlb=>Tot.ite (fun _=>Tot.pure fun h=>by cases h) (fun h=>?_)))
   have h:=ltF h
   have hlb:=notF hlb
   refine Tot.bind (asc_T _) fun v _=>Tot.ite (fun _=>Tot.pure fun h=>by cases h) (fun _=>Tot.bind (labels_T _) fun v _=>Tot.pure fun _=>⟨by omega,.inr (by unfold zAn;rw[hlb])⟩)
  ·have h0:=ltF h0
   refine Tot.ite (fun _=>Tot.pure fun h=>by cases h) (fun h=>?_)
   have h:=ltF h
   refine Tot.bind (asc_T _) fun v _=>Tot.ite (fun _=>Tot.pure fun h=>by cases h) (fun _=>Tot.bind (labels_T _) fun v _=>Tot.pure fun _=>⟨by omega,.inl (List.eq_nil_of_length_eq_zero (by omega))⟩)
 refine Tot.ite (fun _=>Tot.pure fun h=>by cases h) (fun hb0=>?_)
 have hnames:=hb hb0
 refine Tot.bind hparts fun v hv=>Tot.pure fun h=>?_
 exact .mk _ ⟨hpar,by omega,by omega,hnames.1,hstr,hkind,hnames.2⟩ (hv (by simpa using h))
theorem formed_T(c:zLm):Sh c->Tot (fun n=>zCJ n c) (fun b=>b=true->Fm c):=by
 induction c using zCv with
 |h c ih=>
 intro hs
 have hl:=hs.here
 have hparts:Tot (fun n=>zAI n c.L) (fun b=>b=false->∀x,x∈c.L->Fm x):=by
  refine Tot.step (fun n=>by rw[zAI]) ?_
  refine Tot.bind (A:=fun i=>(leI 0 i=false->∀x,x∈c.L->Fm x)∧(leI 0 i=true->∃x,x∈c.L∧True)) ?_ (fun v hv=>Tot.pure hv.1)
  refine Tot.step (fun n=>by rw[zAm]) ?_
  refine zEe (P:=True) (T:=True) (Tot.index c.L (fun n k i=>zAS (zBN n) c.L k i) (fun n x=>zBN n x) (fun n k i=>by rw[zAS]) _ _ fun x hx=>?_)
  refine Tot.step (fun n=>by rw[zBN]) ?_
  refine Tot.bind (ih x hx (hs.part hx)) fun v hv=>Tot.pure ⟨fun h=>hv (notF h),fun _=>trivial⟩
 obtain⟨v,hv⟩:=parts_ex c
 refine Tot.step (fun n=>by rw[zCJ]) ?_
 refine Tot.k hv ?_
 refine Tot.ite (fun _=>Tot.pure fun h=>by cases h) (fun hp=>?_)
 have hp:=eqT (notF hp)
 rw[<-hp] at hv
 refine Tot.ite (fun _=>?_) (fun _=>?_)
 ·refine Tot.ite (fun _=>Tot.pure fun h=>by cases h) (fun h=>?_)
  rw[Bool.or_eq_false_iff] at h
  have h1:=ltF h.1
  have h2:=ltF h.2
  exact zId c hl hparts hv h1 h2
 ·refine Tot.ite (fun _=>?_) (fun _=>?_)
  ·refine Tot.ite (fun _=>Tot.pure fun h=>by cases h) (fun h=>?_)
   rw[Bool.or_eq_false_iff] at h
   have h1:=ltF h.1
   have h2:=ltF h.2
   exact zId c hl hparts hv h1 h2
  ·refine Tot.ite (fun _=>Tot.pure fun h=>by cases h) (fun h=>?_)
   have h1:=eqT (notF h)
   exact zId c hl hparts hv (by omega) (by omega)
theorem zJ5(c:zLm)(h:csz c<=1000000000000)(hs:Sh c):Tot (fun n=>zA8 n c) (fun b=>b=true->Fm c∧csz c<=20000):=by
 unfold zA8
 refine Tot.bind (A:=fun b=>b=true->Fm c∧csz c<=20000) ?_ fun b hb=>Tot.pure hb
 refine Tot.bind (Size_T c h) fun v hv=>Tot.ite (fun hl=>?_) (fun _=>Tot.pure fun h=>by cases h)
 have hl:=leT hl
 refine Tot.bind (depth_T c h) fun d hd=>Tot.ite (fun _=>?_) (fun _=>Tot.pure fun h=>by cases h)
 exact Tot.bind (formed_T c hs) fun b hb=>Tot.pure fun h=>⟨hb h,by omega⟩
theorem CAll_T(l:List zLm)(h: ∀x,x∈l->csz x<=1000000000000∧Sh x):Tot (fun n=>zE6 n l) (fun b=>b=true->∀x,x∈l->Fm x∧csz x<=20000):=by
 unfold zE6 zA0 zBF
 refine Tot.bind (A:=fun v=>v=false->∀x,x∈l->Fm x∧csz x<=20000) ?_ fun v hv=>Tot.pure fun h=>hv (by simpa using h)
 refine Tot.bind (zEe (Q:=fun x=>Fm x∧csz x<=20000) (R:=fun _=>True) (P:=True) (T:=True) (Tot.index l (fun n k i=>zAU n l k i) (fun n x=>zD2 n x) (fun n k i=>by rw[zAU]) _ _ fun x hx=>?_)) fun v hv=>Tot.pure hv.1
 unfold zD2
 exact Tot.bind (zJ5 x (h x hx).1 (h x hx).2) fun v hv=>Tot.pure ⟨fun h=>hv (by simpa using h),fun _=>trivial⟩
theorem zG6{α β:Type}(f:α->β)(l:List α)(i:Nat)(x:α)(h:l[i]? =some x):(l.take (i+1)).map f=(l.take i).map f++[f x]:=by
 rw[List.take_add_one,h];simp
theorem kindEta(k:zLl):zLl.mk k.L=k:=by cases k;rfl
theorem zLL(k:zLl):ksz k<=1000000->Tot (fun n=>zBY n k) (fun r=>r=k):=by
 induction k using zJl with
 |h k ih=>
 intro hk
 refine Tot.step (fun n=>by rw[zBY]) ?_
 refine Tot.bind (A:=fun r=>r=k.L) ?_ fun r hr=>Tot.pure (by rw[hr];exact kindEta k)
 refine Tot.loop1 k.L (fun n kk b i=>zCY (zBY n) k kk b i) (fun n i b x=>(zBY n x).bind fun v=>app 24 b [v]) (fun b=>b)
  (fun n kk b i=>by rw[zCY];simp only[Option.bind_assoc]) (fun i b=>b=k.L.take i∧i<=k.L.length) (fun b=>b=k.L) ?_ (fun b hb=>by rw[hb.1,List.take_length]) [] ⟨by simp,by omega⟩
 intro i b x hx hb
 have hm:=zq3 hx
 have h1:=ksz_mem hm
 have hi:=(zq1 hx).1
 have hlen:k.L.length<=ksz k:=by
  rw[ksz_eq]
  have:k.L.length<=(k.L.map ksz).sum:=by
   generalize k.L=l
   induction l with
   |nil=>simp
   |cons x l ih=>simp only[List.length_cons,List.map_cons,List.sum_cons];have:=ksz_pos x;omega
  omega
 refine Tot.bind (ih x hm (by omega)) fun v hv=>?_
 subst hv
 refine⟨b++[v],⟨0,fun n _=>zDH (by decide) (by rw[hb.1];simp;omega)⟩,?_,by omega⟩
 rw[hb.1,List.take_add_one,hx];rfl
def cLeaf(c:zLm):zLm:=zLm.mk c.Op c.N c.S c.Kind [] []
def cVar(n:Int):zLm:=zLm.mk 1 n [] (zLl.mk []) [] []
def bndB(c:zLm):Bool:=(eqI c.Op 9)||((eqI c.Op 10)||((eqI c.Op 11)||(eqI c.Op 13)))
theorem zGf(c:zLm):zAx c=some (bndB c):=rfl
theorem leafOf_T(c:zLm)(h:ksz c.Kind<=1000000):Tot (fun n=>zDk n c) (fun r=>r=cLeaf c):=by
 unfold zDk
 exact Tot.bind (zLL _ h) fun v hv=>Tot.pure (by rw[hv];rfl)
def zH3(a y:Int)(c:zLm)(b:Int):zLm:=if (eqI c.Op 1&&leI a (c.N-b))=true then cVar (c.N+y) else cLeaf c
theorem shifted_T(c:zLm)(b a y:Int)(h:okN c)(hb:0<=b)(hb2:b<=1000000)(hy: -100000<=y)(hy2:y<=1000000):Tot (fun n=>zDq n c b a y) (fun r=>r=zH3 a y c b):=by
 have h1:=h.n0
 have h2:=h.n1
 have h3:=h.kind
 unfold zDq zH3
 refine Tot.bind (A:=fun q=>q=(eqI c.Op 1&&leI a (c.N-b))) ?_ fun q hq=>?_
 ·refine Tot.ite (fun h=>Tot.chk (by omega) (by omega) (Tot.pure (by rw[h];rfl))) (fun h=>Tot.pure (by rw[h];rfl))
 ·rw[<-hq]
  cases q with
  |true=>exact Tot.chk (by omega) (by omega) (Tot.pure rfl)
  |false=>exact Tot.bind (leafOf_T c (by omega)) fun v hv=>Tot.pure hv
def shf(a y:Int)(c:zLm)(b:Int):zLm:=
 if (eqI c.Op 1||eqI c.Op 2)=true then zH3 a y c b else zLm.mk c.Op c.N c.S c.Kind c.Names (c.L.map fun x=>shf a y x (if bndB c then b+1 else b))
termination_by SizeOf.sizeOf c
decreasing_by all_goals (cases c;simp only[zLm.mk.sizeOf_spec];have:=List.sizeOf_lt_of_mem ‹_›;simp only at this;omega)
theorem shf_eq(a y:Int)(c:zLm)(b:Int):shf a y c b=if (eqI c.Op 1||eqI c.Op 2)=true then zH3 a y c b else zLm.mk c.Op c.N c.S c.Kind c.Names (c.L.map fun x=>shf a y x (if bndB c then b+1 else b)):=by rw[shf]
theorem clone_T(l:List (List UInt8))(h:l.length<=100000):zBK l=some l:=by
 cases l with
 |nil=>rfl
 |cons x l=>rw[zBK,clC,if_pos ⟨by simp,by decide,by simp at h ⊢;omega⟩]
theorem zFh(op n:Int)(s:List UInt8)(k:zLl)(ns:List (List UInt8)):csz (zLm.mk op n s k ns [])=1:=by rw[zE5];rfl
theorem sh_leaf(op n:Int)(s:List UInt8)(k:zLl)(ns:List (List UInt8))(h:s.length<=100000):Sh (zLm.mk op n s k ns []):=.mk _ h fun x hx=>by cases hx
def cZ:zLm:=zLm.mk 0 0 [] (zLl.mk []) [] []
theorem csz_cZ:csz cZ=1:=zFh _ _ _ _ _
theorem sh_cZ:Sh cZ:=sh_leaf _ _ _ _ _ (by simp)
def RbI(K:Nat)(f:zLm->zLm)(c:zLm)(left:Int)(i:Nat)(b:Int×List zLm):Prop:=
 b.2.length=i∧i<=c.L.length∧-20000<=b.1∧b.1<=20000∧(b.2.map csz).sum<=K*((c.L.take i).map csz).sum∧(∀x,x∈b.2->Sh x)∧(0<=b.1->b.2=(c.L.take i).map f∧b.1=left-((b.2.map csz).sum:Nat))∧(((c.L.map fun x=>csz (f x)).sum:Int)<=left->0<=b.1)
def RbR(K:Nat)(f:zLm->zLm)(c:zLm)(left:Int)(b:Int×List zLm):Prop:=
 b.2.length=c.L.length∧-20000<=b.1∧b.1<=20000∧(b.2.map csz).sum<=K*(c.L.map csz).sum∧(∀x,x∈b.2->Sh x)∧(0<=b.1->b.2=c.L.map f∧b.1=left-((b.2.map csz).sum:Nat))∧(((c.L.map fun x=>csz (f x)).sum:Int)<=left->0<=b.1)
theorem zKb(K:Nat)(f:zLm->zLm)(c:zLm)(left:Int)(h1: -20000<=left)(h2:left<=20000)(hlen:c.L.length<=1000000)(L:Nat->Nat->Int×List zLm->Nat->Option (Int×List zLm))(F:Nat->zLm->Int->Option (zLm×Int))
 (hL: ∀n k b i,L n (k+1) b i=if ltI (i:Int) (c.L.length:Int)=true then (c.L[i]?).bind fun x=>(F n x b.1).bind fun v=>(app 104 b.2 [v.1]).bind fun l=>L n k (v.2,l) (i+1) else some (b.1,b.2))
 (hF: ∀x,x∈c.L->∀q:Int,-20000<=q->q<=20000->Tot (fun n=>F n x q) (fun r=> -20000<=r.2∧r.2<=20000∧csz r.1<=K*csz x∧Sh r.1∧(0<=r.2->0<q∧r.1=f x∧r.2=q-csz r.1)∧((csz (f x):Int)<=q->0<=r.2))):
 Tot (fun n=>L n n (left,[]) 0) (RbR K f c left):=by
 have hsum:=fun i x (h:c.L[i]? =some x)=>zBj (fun x=>csz (f x)) c.L i x h
 have hle:=fun i=>zD8 (fun x=>csz (f x)) c.L i
 refine Tot.loop1 c.L L (fun n i b x=>(F n x b.1).bind fun v=>(app 104 b.2 [v.1]).bind fun l=>some (v.2,l)) (fun b=>b)
  (fun n k b i=>by rw[hL];simp only[Option.bind_assoc,zBH]) (RbI K f c left) _ ?_ (fun b hb=>?_) (left,[]) ⟨rfl,by omega,h1,h2,by simp,fun x hx=>(by cases hx),fun _=>⟨rfl,by simp⟩,fun h=>(by show 0<=left;omega)⟩
 ·intro i b x hx hb
  obtain⟨q1,q2,q3,q4,q5,q6,q7,q8⟩:=hb
  have hm:=zq3 hx
  have hi:=(zq1 hx).1
  refine Tot.bind (hF x hm b.1 q3 q4) fun v hv=>?_
  obtain⟨w1,w2,w3,w4,w5,w6⟩:=hv
  refine Tot.k (a:=b.2++[v.1]) (zDH (by decide) (by simp;omega)) (Tot.pure ⟨by simp;omega,by omega,w1,w2,?_,fun z hz=>?_,fun h0=>?_,fun h0=>?_⟩)
  ·rw[zBj csz _ _ _ hx,List.map_append,List.sum_append,Nat.mul_add]
   simp only[List.map_cons,List.map_nil,List.sum_cons,List.sum_nil]
   omega
  ·rcases List.mem_append.1 hz with hz|hz
   ·exact q6 z hz
   ·rw[List.mem_singleton.1 hz];exact w4
  ·obtain⟨e1,e2,e3⟩:=w5 h0
   obtain⟨e4,e5⟩:=q7 (by omega)
   refine⟨?_,?_⟩
   ·rw[zG6 f _ _ _ hx,e4,e2]
   ·simp only[List.map_append,List.sum_append,List.map_cons,List.map_nil,List.sum_cons,List.sum_nil]
    omega
  ·have q9:=q8 h0
   obtain⟨e4,e5⟩:=q7 q9
   refine w6 ?_
   have h3:=hsum i x hx
   have h4:=hle (i+1)
   rw[e4,List.map_map] at e5
   simp only[Function.comp_def] at e5
   omega
 ·obtain⟨q1,q2,q3,q4,q5,q6,q7,q8⟩:=hb
  rw[List.take_length] at q5 q7
  exact⟨q1,q3,q4,q5,q6,q7,q8⟩
theorem rb_node{K:Nat}{f:zLm->zLm}{c:zLm}{left:Int}(hK:1<=K)(hs:c.S.length<=100000)(hl:0<left){o:Int×List zLm}(h:RbR K f c (left-1) o):
 -20000<=o.1∧o.1<=20000∧csz (zLm.mk c.Op c.N c.S c.Kind c.Names o.2)<=K*csz c∧Sh (zLm.mk c.Op c.N c.S c.Kind c.Names o.2)∧
  (0<=o.1->0<left∧zLm.mk c.Op c.N c.S c.Kind c.Names o.2=zLm.mk c.Op c.N c.S c.Kind c.Names (c.L.map f)∧o.1=left-csz (zLm.mk c.Op c.N c.S c.Kind c.Names o.2))∧((csz (zLm.mk c.Op c.N c.S c.Kind c.Names (c.L.map f)):Int)<=left->0<=o.1):=by
 obtain⟨q1,q2,q3,q4,q5,q6,q7⟩:=h
 have e:csz (zLm.mk c.Op c.N c.S c.Kind c.Names o.2)=1+(o.2.map csz).sum:=by rw[zE5]
 have e':=zE5 c
 refine⟨q2,q3,?_,.mk _ hs q5,fun h0=>?_,fun h0=>q7 ?_⟩
 ·rw[e,e',Nat.mul_add];omega
 ·obtain⟨e1,e2⟩:=q6 h0
  refine⟨hl,by rw[e1],?_⟩
  rw[e];omega
 ·rw[zE5,List.map_map] at h0
  simp only[Function.comp_def] at h0
  omega
theorem zJV(a y:Int)(hy: -100000<=y)(hy2:y<=1000000)(c:zLm):Fm c->csz c<=1000000->∀b left:Int,0<=b->b+csz c<=1000000->-20000<=left->left<=20000->
 Tot (fun n=>zAT n c b a y left) (fun r=> -20000<=r.2∧r.2<=20000∧csz r.1<=1*csz c∧Sh r.1∧(0<=r.2->0<left∧r.1=shf a y c b∧r.2=left-csz r.1)∧((csz (shf a y c b):Int)<=left->0<=r.2)):=by
 induction c using zCv with
 |h c ih=>
 intro hf hc b left hb hbc hl hl2
 have hok:=hf.here
 have hp:=zEv c
 have hlc:=zIs c
 have hn:=hok.names
 have hkd:=hok.kind
 have hst:=hok.str
 refine Tot.step (fun n=>by rw[zAT]) ?_
 refine Tot.ite (fun _=>Tot.pure ⟨by decide,by decide,by show csz cZ<=_;rw[csz_cZ];omega,sh_cZ,fun h=>by simp at h,fun h=>by have:=zEv (shf a y c b);rename_i h9;have:=leT h9;omega⟩) (fun h0=>?_)
 have h0:=leF h0
 refine Tot.ite (fun hlf=>?_) (fun hlf=>?_)
 ·refine Tot.bind (shifted_T c b a y hok hb (by omega) hy hy2) fun v hv=>?_
  have hv1:csz v=1∧Sh v:=by
   rw[hv];unfold zH3
   split
   ·exact⟨zFh _ _ _ _ _,sh_leaf _ _ _ _ _ (by simp)⟩
   ·exact⟨zFh _ _ _ _ _,sh_leaf _ _ _ _ _ (by omega)⟩
  refine Tot.bind (Size_T v (by omega)) fun w hw=>?_
  refine Tot.chk (by omega) (by omega) (Tot.pure ⟨by simp only;omega,by simp only;omega,by simp only;omega,hv1.2,fun _=>⟨h0,?_,by simp only;omega⟩,fun _=>by simp only;omega⟩)
  rw[shf_eq,if_pos hlf];exact hv
 ·refine Tot.chk (by omega) (by omega) ?_
  refine Tot.bind (zLL _ (by omega)) fun v hv=>?_
  subst hv
  refine Tot.k (clone_T _ (by omega)) (Tot.k (zGf c) ?_)
  have hq: ∀(q:Int),q=(if bndB c then b+1 else b)->∀r:zLm×Int,(∃o,r=(zLm.mk c.Op c.N c.S c.Kind c.Names o.2,o.1)∧RbR 1 (fun x=>shf a y x q) c (left-1) o)->
   -20000<=r.2∧r.2<=20000∧csz r.1<=1*csz c∧Sh r.1∧(0<=r.2->0<left∧r.1=shf a y c b∧r.2=left-csz r.1)∧((csz (shf a y c b):Int)<=left->0<=r.2):=by
   rintro q hq r ⟨o,rfl,ho⟩
   obtain⟨w1,w2,w3,w4,w5,w6⟩:=rb_node (by decide) (by omega) h0 ho
   refine⟨w1,w2,w3,w4,fun h=>?_,fun h=>w6 (by rw[shf_eq,if_neg (by rw[hlf];simp),<-hq] at h;exact h)⟩
   obtain⟨e1,e2,e3⟩:=w5 h
   exact⟨e1,by rw[e2,shf_eq,if_neg (by rw[hlf];simp),<-hq],e3⟩
  refine Tot.ite (fun hbd=>?_) (fun hbd=>?_)
  ·refine Tot.chk (by omega) (by omega) ?_
   refine Tot.bind (zKb 1 (fun x=>shf a y x (b+1)) c (left-1) (by omega) (by omega) (by omega) (fun n k b' i=>zA4 (zAT n) c a y (b+1) k b'.1 b'.2 i) (fun n x q=>zAT n x (b+1) a y q)
    (fun n k b' i=>by rw[zA4]) fun x hx q q1 q2=>ih x hx (hf.part hx) (by have:=zCH hx;omega) (b+1) q (by omega) (by have:=zCH hx;omega) q1 q2) fun o ho=>?_
   exact Tot.pure (hq (b+1) (by rw[hbd];rfl) _ ⟨o,rfl,ho⟩)
  ·refine Tot.bind (zKb 1 (fun x=>shf a y x b) c (left-1) (by omega) (by omega) (by omega) (fun n k b' i=>zA3 (zAT n) c b a y k b'.1 b'.2 i) (fun n x q=>zAT n x b a y q)
    (fun n k b' i=>by rw[zA3]) fun x hx q q1 q2=>ih x hx (hf.part hx) (by have:=zCH hx;omega) b q (by omega) (by have:=zCH hx;omega) q1 q2) fun o ho=>?_
   exact Tot.pure (hq b (by rw[hbd];rfl) _ ⟨o,rfl,ho⟩)
theorem zEI{c:zLm}(h:okN c)(ho:(eqI c.Op 1||eqI c.Op 2)=true):c.L=[]∧c.Names=[]:=by
 have h1:=h.parts
 have h2:=h.lab
 rw[Bool.or_eq_true] at ho
 have ho:c.Op=1∨c.Op=2:=ho.imp eqT eqT
 have hp:zB4 c=some 0:=by
  unfold zB4 zAn zAx
  rcases ho with ho|ho<;>rw[ho]<;>rfl
 rw[hp] at h1
 have:=zqa h1
 refine⟨List.eq_nil_of_length_eq_zero (by omega),h2.resolve_right fun h3=>?_⟩
 unfold zAn at h3
 rcases ho with ho|ho<;>rw[ho] at h3<;>cases h3
theorem csz_shLeaf(a y:Int)(c:zLm)(b:Int):csz (zH3 a y c b)=1:=by
 unfold zH3;split<;>exact zFh _ _ _ _ _
theorem csz_shf(a y:Int)(c:zLm):Fm c->∀b,csz (shf a y c b)=csz c:=by
 induction c using zCv with
 |h c ih=>
 intro hf b
 rw[shf_eq]
 split
 ·rename_i ho
  rw[csz_shLeaf,zE5,(zEI hf.here ho).1];rfl
 ·rw[zE5,zE5 c,List.map_map]
  congr 2
  exact List.map_congr_left fun x hx=>ih x hx (hf.part hx) _
theorem idxI{α:Type}(l:List α)(i:Int)(h:0<=i)(h2:i<l.length): ∃x,x∈l∧idx l i=some x∧l[i.toNat]? =some x:=by
 have hx:l[i.toNat]? =some (l[i.toNat]'(by omega)):=zq2 (by omega)
 exact⟨_,List.getElem_mem (by omega),by rw[idx,if_pos h,hx],hx⟩
def zKt(l:List zLm)(c:zLm)(b:Int):zLm:=
 if (!(eqI c.Op 1)||ltI (c.N-b) 0)=true then cLeaf c else if leI (l.length:Int) (c.N-b)=true then cVar (c.N-l.length) else shf 0 b ((l[(c.N-b).toNat]?).getD cZ) 0
theorem subst1_T(l:List zLm)(hl: ∀x,x∈l->Fm x∧csz x<=20000)(hll:l.length<=1000)(c:zLm)(b:Int)(h:okN c)(hb:0<=b)(hb2:b<=900000):
 Tot (fun n=>zEJ n c b l) (fun r=>r=zKt l c b∧csz r<=20000∧Sh r):=by
 have h1:=h.n0
 have h2:=h.n1
 have h3:=h.kind
 have h4:=h.str
 unfold zEJ zKt
 refine Tot.chk (by omega) (by omega) ?_
 refine Tot.ite (fun hc=>?_) (fun hc=>?_)
 ·rw[if_pos hc]
  exact Tot.bind (leafOf_T c (by omega)) fun v hv=>Tot.pure ⟨hv,by rw[hv];show csz (cLeaf c)<=_;rw[cLeaf,zFh];omega,by rw[hv];exact sh_leaf _ _ _ _ _ (by omega)⟩
 ·rw[if_neg (by rw[hc];simp)]
  rw[Bool.or_eq_false_iff] at hc
  have hn:=ltF hc.2
  refine Tot.ite (fun hc2=>?_) (fun hc2=>?_)
  ·rw[if_pos hc2]
   exact Tot.chk (by omega) (by omega) (Tot.k rfl (Tot.pure ⟨rfl,by show csz (cVar _)<=_;rw[cVar,zFh];omega,sh_leaf _ _ _ _ _ (by simp)⟩))
  ·rw[if_neg (by rw[hc2];simp)]
   have hn2:=leF hc2
   obtain⟨x,hx,e1,e2⟩:=idxI l (c.N-b) hn hn2
   refine Tot.k rfl (Tot.k e1 ?_)
   obtain⟨hf,hs⟩:=hl x hx
   refine Tot.bind (zJV 0 b (by omega) (by omega) x hf (by omega) 0 20000 (by omega) (by omega) (by omega) (by omega)) fun v hv=>Tot.pure ?_
   obtain⟨w1,w2,w3,w4,w5,w6⟩:=hv
   have:=w5 (w6 (by rw[csz_shf 0 b x hf 0];omega))
   rw[e2]
   exact⟨this.2.1,by omega,w4⟩
def sbs(l:List zLm)(c:zLm)(b:Int):zLm:=
 if (eqI c.Op 1||eqI c.Op 2)=true then zKt l c b else zLm.mk c.Op c.N c.S c.Kind c.Names (c.L.map fun x=>sbs l x (if bndB c then b+1 else b))
termination_by SizeOf.sizeOf c
decreasing_by all_goals (cases c;simp only[zLm.mk.sizeOf_spec];have:=List.sizeOf_lt_of_mem ‹_›;simp only at this;omega)
theorem sbs_eq(l:List zLm)(c:zLm)(b:Int):sbs l c b=if (eqI c.Op 1||eqI c.Op 2)=true then zKt l c b else zLm.mk c.Op c.N c.S c.Kind c.Names (c.L.map fun x=>sbs l x (if bndB c then b+1 else b)):=by rw[sbs]
theorem zK8(l:List zLm)(hll: ∀x,x∈l->Fm x∧csz x<=20000)(hlen:l.length<=1000)(c:zLm):Fm c->csz c<=100000->∀b left:Int,0<=b->b+csz c<=900000->-20000<=left->left<=20000->
 Tot (fun n=>zAg n c b left l) (fun r=> -20000<=r.2∧r.2<=20000∧csz r.1<=20000*csz c∧Sh r.1∧(0<=r.2->0<left∧r.1=sbs l c b∧r.2=left-csz r.1)∧((csz (sbs l c b):Int)<=left->0<=r.2)):=by
 induction c using zCv with
 |h c ih=>
 intro hf hc b left hb hbc hl hl2
 have hok:=hf.here
 have hp:=zEv c
 have hlc:=zIs c
 have hn:=hok.names
 have hkd:=hok.kind
 have hst:=hok.str
 refine Tot.step (fun n=>by rw[zAg]) ?_
 refine Tot.ite (fun h9=>Tot.pure ⟨by decide,by decide,by show csz cZ<=_;rw[csz_cZ];omega,sh_cZ,fun h=>by simp at h,fun h=>by have:=zEv (sbs l c b);have:=leT h9;omega⟩) (fun h0=>?_)
 have h0:=leF h0
 refine Tot.ite (fun hlf=>?_) (fun hlf=>?_)
 ·refine Tot.bind (subst1_T l hll hlen c b hok hb (by omega)) fun v hv=>?_
  obtain⟨hv,hv1,hv2⟩:=hv
  refine Tot.bind (Size_T v (by omega)) fun w hw=>?_
  have e:sbs l c b=v:=by rw[sbs_eq,if_pos hlf,hv]
  refine Tot.chk (by omega) (by omega) (Tot.pure ⟨by simp only;omega,by simp only;omega,by simp only;omega,hv2,fun _=>⟨h0,e.symm,by simp only;omega⟩,fun h=>by rw[e] at h;simp only;omega⟩)
 ·refine Tot.chk (by omega) (by omega) ?_
  refine Tot.bind (zLL _ (by omega)) fun v hv=>?_
  subst hv
  refine Tot.k (clone_T _ (by omega)) (Tot.k (zGf c) ?_)
  have hq: ∀(q:Int),q=(if bndB c then b+1 else b)->∀r:zLm×Int,(∃o,r=(zLm.mk c.Op c.N c.S c.Kind c.Names o.2,o.1)∧RbR 20000 (fun x=>sbs l x q) c (left-1) o)->
   -20000<=r.2∧r.2<=20000∧csz r.1<=20000*csz c∧Sh r.1∧(0<=r.2->0<left∧r.1=sbs l c b∧r.2=left-csz r.1)∧((csz (sbs l c b):Int)<=left->0<=r.2):=by
   rintro q hq r ⟨o,rfl,ho⟩
   obtain⟨w1,w2,w3,w4,w5,w6⟩:=rb_node (by decide) (by omega) h0 ho
   refine⟨w1,w2,w3,w4,fun h=>?_,fun h=>w6 (by rw[sbs_eq,if_neg (by rw[hlf];simp),<-hq] at h;exact h)⟩
   obtain⟨e1,e2,e3⟩:=w5 h
   exact⟨e1,by rw[e2,sbs_eq,if_neg (by rw[hlf];simp),<-hq],e3⟩
  refine Tot.ite (fun hbd=>?_) (fun hbd=>?_)
  ·refine Tot.chk (by omega) (by omega) ?_
   refine Tot.bind (zKb 20000 (fun x=>sbs l x (b+1)) c (left-1) (by omega) (by omega) (by omega) (fun n k b' i=>zBJ (zAg n) c l (b+1) k b'.1 b'.2 i) (fun n x q=>zAg n x (b+1) q l)
    (fun n k b' i=>by rw[zBJ]) fun x hx q q1 q2=>ih x hx (hf.part hx) (by have:=zCH hx;omega) (b+1) q (by omega) (by have:=zCH hx;omega) q1 q2) fun o ho=>?_
   exact Tot.pure (hq (b+1) (by rw[hbd];rfl) _ ⟨o,rfl,ho⟩)
  ·refine Tot.bind (zKb 20000 (fun x=>sbs l x b) c (left-1) (by omega) (by omega) (by omega) (fun n k b' i=>zBI (zAg n) c b l k b'.1 b'.2 i) (fun n x q=>zAg n x b q l)
    (fun n k b' i=>by rw[zBI]) fun x hx q q1 q2=>ih x hx (hf.part hx) (by have:=zCH hx;omega) b q (by omega) (by have:=zCH hx;omega) q1 q2) fun o ho=>?_
   exact Tot.pure (hq b (by rw[hbd];rfl) _ ⟨o,rfl,ho⟩)
def ErrOr(e0:Int)(w:zLm)(r:zLm×Int):Prop:=(r.2=0∧Fm r.1∧csz r.1<=20000∧r.1=w)∨(r.2≠0∧r.1=cZ)
theorem replaced_T{w:zLm}{f:Nat->Option (zLm×Int)}{K:Nat}(hK:K<=1000000000000)
 (h:Tot f (fun r=> -20000<=r.2∧r.2<=20000∧csz r.1<=K∧Sh r.1∧(0<=r.2->r.1=w))):
 Tot (fun n=>(f n).bind fun v=>(if ltI v.2 0=true then some true else (zA8 n v.1).bind fun b=>some (!b):Option Bool).bind fun b=>if b=true then some (cZ,(6:Int)) else some (v.1,0)) (ErrOr 6 w):=by
 refine Tot.bind h fun v hv=>?_
 obtain⟨w1,w2,w3,w4,w5⟩:=hv
 refine Tot.bind (A:=fun b=>b=false->0<=v.2∧Fm v.1∧csz v.1<=20000) ?_ (fun b hb=>?_)
 ·refine Tot.ite (fun _=>Tot.pure fun h=>by cases h) (fun h=>?_)
  have h:=ltF h
  exact Tot.bind (zJ5 v.1 (by omega) w4) fun b hb=>Tot.pure fun hq=>⟨h,hb (notF hq)⟩
 ·refine Tot.ite (fun _=>Tot.pure (.inr ⟨by decide,rfl⟩)) (fun h=>Tot.pure (.inl ?_))
  obtain⟨e1,e2,e3⟩:=hb h
  exact⟨rfl,e2,e3,w5 e1⟩
theorem Subst_T(c:zLm)(l:List zLm)(hc:csz c<=1000000000000)(hs:Sh c)(hl: ∀x,x∈l->csz x<=1000000000000∧Sh x):Tot (fun n=>zDe n c l) (ErrOr 6 (sbs l c 0)):=by
 unfold zDe
 refine Tot.bind (A:=fun b=>b=false->(Fm c∧csz c<=20000)∧∀x,x∈l->Fm x∧csz x<=20000) ?_ (fun b hb=>?_)
 ·refine Tot.bind (zJ5 c hc hs) fun v hv=>Tot.ite (fun _=>Tot.pure fun h=>by cases h) (fun h=>?_)
  exact Tot.bind (CAll_T l hl) fun b hb=>Tot.pure fun hq=>⟨hv (notF h),hb (notF hq)⟩
 refine Tot.ite (fun _=>Tot.pure (.inr ⟨by decide,rfl⟩)) (fun h=>?_)
 obtain⟨⟨hf,hcs⟩,hfl⟩:=hb h
 refine Tot.ite (fun _=>Tot.pure (.inr ⟨by decide,rfl⟩)) (fun h=>?_)
 have h:=ltF h
 refine Tot.bind (A:=ErrOr 6 (sbs l c 0)) ?_ fun v hv=>Tot.pure hv
 unfold zBt
 refine replaced_T (K:=20000*csz c) (by omega) ((zK8 l hfl (by omega) c hf (by omega) 0 20000 (by omega) (by omega) (by omega) (by omega)).mono fun r hr=>?_)
 exact⟨hr.1,hr.2.1,hr.2.2.1,hr.2.2.2.1,fun h=>(hr.2.2.2.2.1 h).2.1⟩
theorem zI9(c:zLm)(L:Nat->Nat->Bool->Nat->Option Bool)(F:Nat->zLm->Bool->Option Bool)
 (hL: ∀n k b i,L n (k+1) b i=if ltI (i:Int) (c.L.length:Int)=true then (c.L[i]?).bind fun x=>(F n x b).bind fun v=>L n k v (i+1) else some b)
 (hF: ∀x,x∈c.L->∀q:Bool,Tot (fun n=>F n x q) (fun _=>True)) (b0:Bool):Tot (fun n=>L n n b0 0) (fun _=>True):=
 Tot.loop1 c.L L (fun n i b x=>F n x b) (fun b=>b) hL (fun _ _=>True) _ (fun i b x hx _=>hF x (zq3 hx) b) (fun _ _=>trivial) b0 trivial
theorem shift1_T(c:zLm)(b a y:Int)(q:Bool)(h:okN c)(hb:0<=b)(hb2:b<=1000000)(hy: -100000<=y)(hy2:y<=1000000): ∃r,zDJ c b a y q=some r:=by
 have h1:=h.n0
 have h2:=h.n1
 unfold zDJ
 rw[zIN (by omega) (by omega),zBH,zIN (by omega) (by omega),zBH]
 split
 ·split
  ·rw[zBH];split<;>exact⟨_,rfl⟩
  ·rw[zBH];split<;>exact⟨_,rfl⟩
 ·rw[zBH];split<;>exact⟨_,rfl⟩
theorem each_T(a y:Int)(hy: -100000<=y)(hy2:y<=1000000)(c:zLm):Fm c->∀(b:Int)(q:Bool),0<=b->b+csz c<=900000->Tot (fun n=>zAM n c b a y q) (fun _=>True):=by
 induction c using zCv with
 |h c ih=>
 intro hf b q hb hbc
 have hok:=hf.here
 have hp:=zEv c
 refine Tot.step (fun n=>by rw[zAM]) ?_
 have hx1: ∀x,x∈c.L->∀q:Bool,Tot (fun n=>zAM n x (b+1) a y q) (fun _=>True):=fun x hx q=>ih x hx (hf.part hx) (b+1) q (by omega) (by have:=zCH hx;omega)
 have hx2: ∀x,x∈c.L->∀q:Bool,Tot (fun n=>zAM n x b a y q) (fun _=>True):=fun x hx q=>ih x hx (hf.part hx) b q (by omega) (by have:=zCH hx;omega)
 refine Tot.ite (fun _=>?_) (fun _=>?_)
 ·obtain⟨r,hr⟩:=shift1_T c b a y q hok hb (by omega) hy hy2
  refine Tot.k hr (Tot.k (zGf c) (Tot.ite (fun _=>Tot.chk (by omega) (by omega) ?_) (fun _=>?_)))
  ·exact Tot.bind (zI9 c (fun n k b' i=>zAw (zAM n) c a y (b+1) k b' i) _ (fun n k b' i=>by rw[zAw]) hx1 r) fun _ _=>Tot.pure trivial
  ·exact Tot.bind (zI9 c (fun n k b' i=>zAv (zAM n) c b a y k b' i) _ (fun n k b' i=>by rw[zAv]) hx2 r) fun _ _=>Tot.pure trivial
 ·refine Tot.k (zGf c) (Tot.ite (fun _=>Tot.chk (by omega) (by omega) ?_) (fun _=>?_))
  ·exact Tot.bind (zI9 c (fun n k b' i=>zAu (zAM n) c a y (b+1) k b' i) _ (fun n k b' i=>by rw[zAu]) hx1 q) fun _ _=>Tot.pure trivial
  ·exact Tot.bind (zI9 c (fun n k b' i=>zAt (zAM n) c b a y k b' i) _ (fun n k b' i=>by rw[zAt]) hx2 q) fun _ _=>Tot.pure trivial
theorem Shift_T(c:zLm)(y a:Int)(hc:csz c<=1000000000000)(hs:Sh c):Tot (fun n=>zDD n c y a) (ErrOr 6 (shf a y c 0)):=by
 unfold zDD
 refine Tot.bind (zJ5 c hc hs) fun v hv=>Tot.ite (fun _=>Tot.pure (.inr ⟨by decide,rfl⟩)) (fun h=>?_)
 obtain⟨hf,hcs⟩:=hv (notF h)
 refine Tot.ite (fun _=>Tot.pure (.inr ⟨by decide,rfl⟩)) (fun h=>?_)
 simp only[Bool.or_eq_false_iff] at h
 have h1:=ltF h.1
 have h2:=ltF h.2.1
 have h3:=ltF h.2.2
 refine Tot.bind (each_T a y (by omega) (by omega) c hf 0 false (by omega) (by omega)) fun b _=>Tot.ite (fun _=>Tot.pure (.inr ⟨by decide,rfl⟩)) (fun _=>?_)
 refine Tot.k rfl ?_
 refine Tot.bind (A:=ErrOr 6 (shf a y c 0)) ?_ fun v hv=>Tot.pure hv
 unfold zBd
 refine replaced_T (K:=1*csz c) (by omega) ((zJV a y (by omega) (by omega) c hf (by omega) 0 20000 (by omega) (by omega) (by omega) (by omega)).mono fun r hr=>?_)
 exact⟨hr.1,hr.2.1,hr.2.2.1,hr.2.2.2.1,fun h=>(hr.2.2.2.2.1 h).2.1⟩
theorem zLZ(c:zLm):zLm.mk c.Op c.N c.S c.Kind c.Names c.L=c:=by cases c;rfl
theorem zFz{c:zLm}(h:okN c)(ho:(eqI c.Op 1||eqI c.Op 2)=true):cLeaf c=c:=by
 obtain⟨h1,h2⟩:=zEI h ho
 unfold cLeaf
 conv=>rhs;rw[<-zLZ c,h1,h2]
theorem rebuild3_T(c:zLm):Fm c->csz c<=1000000->∀b left:Int,0<=b->b+csz c<=1000000->-20000<=left->left<=20000->
 Tot (fun n=>zAV n c b left) (fun r=> -20000<=r.2∧r.2<=20000∧csz r.1<=1*csz c∧Sh r.1∧(0<=r.2->0<left∧r.1=c∧r.2=left-csz r.1)∧((csz c:Int)<=left->0<=r.2)):=by
 induction c using zCv with
 |h c ih=>
 intro hf hc b left hb hbc hl hl2
 have hok:=hf.here
 have hp:=zEv c
 have hlc:=zIs c
 have hn:=hok.names
 have hkd:=hok.kind
 have hst:=hok.str
 refine Tot.step (fun n=>by rw[zAV]) ?_
 refine Tot.ite (fun h9=>Tot.pure ⟨by decide,by decide,by show csz cZ<=_;rw[csz_cZ];omega,sh_cZ,fun h=>by simp at h,fun h=>by have:=leT h9;omega⟩) (fun h0=>?_)
 have h0:=leF h0
 refine Tot.ite (fun hlf=>?_) (fun hlf=>?_)
 ·refine Tot.bind (A:=fun r=>r=c) ?_ fun v hv=>?_
  ·unfold zEq
   exact Tot.bind (leafOf_T c (by omega)) fun v hv=>Tot.pure (by rw[hv];exact zFz hok hlf)
  have h1:csz c=1:=by rw[zE5,(zEI hok hlf).1];rfl
  refine Tot.bind (Size_T v (by rw[hv];omega)) fun w hw=>?_
  subst hv
  refine Tot.chk (by omega) (by omega) (Tot.pure ⟨by simp only;omega,by simp only;omega,by simp only;omega,hf.sh,fun _=>⟨h0,rfl,by simp only;omega⟩,fun _=>by simp only;omega⟩)
 ·refine Tot.chk (by omega) (by omega) ?_
  refine Tot.bind (zLL _ (by omega)) fun v hv=>?_
  subst hv
  refine Tot.k (clone_T _ (by omega)) (Tot.k (zGf c) ?_)
  have hq: ∀r:zLm×Int,(∃o,r=(zLm.mk c.Op c.N c.S c.Kind c.Names o.2,o.1)∧RbR 1 (fun x=>x) c (left-1) o)->
   -20000<=r.2∧r.2<=20000∧csz r.1<=1*csz c∧Sh r.1∧(0<=r.2->0<left∧r.1=c∧r.2=left-csz r.1)∧((csz c:Int)<=left->0<=r.2):=by
   rintro r ⟨o,rfl,ho⟩
   obtain⟨w1,w2,w3,w4,w5,w6⟩:=rb_node (by decide) (by omega) h0 ho
   refine⟨w1,w2,w3,w4,fun h=>?_,fun h=>w6 (by rw[List.map_id',zLZ];exact h)⟩
   obtain⟨e1,e2,e3⟩:=w5 h
   exact⟨e1,by rw[e2,List.map_id',zLZ],e3⟩
  refine Tot.ite (fun hbd=>?_) (fun hbd=>?_)
  ·refine Tot.chk (by omega) (by omega) ?_
   refine Tot.bind (zKb 1 (fun x=>x) c (left-1) (by omega) (by omega) (by omega) (fun n k b' i=>zA2 (zAV n) c (b+1) k b'.1 b'.2 i) (fun n x q=>zAV n x (b+1) q)
    (fun n k b' i=>by rw[zA2]) fun x hx q q1 q2=>ih x hx (hf.part hx) (by have:=zCH hx;omega) (b+1) q (by omega) (by have:=zCH hx;omega) q1 q2) fun o ho=>?_
   exact Tot.pure (hq _ ⟨o,rfl,ho⟩)
  ·refine Tot.bind (zKb 1 (fun x=>x) c (left-1) (by omega) (by omega) (by omega) (fun n k b' i=>zA1 (zAV n) c b k b'.1 b'.2 i) (fun n x q=>zAV n x b q)
    (fun n k b' i=>by rw[zA1]) fun x hx q q1 q2=>ih x hx (hf.part hx) (by have:=zCH hx;omega) b q (by omega) (by have:=zCH hx;omega) q1 q2) fun o ho=>?_
   exact Tot.pure (hq _ ⟨o,rfl,ho⟩)
theorem copied_T(c:zLm)(hf:Fm c)(hc:csz c<=20000):Tot (fun n=>zCk n c) (fun r=>r=c):=by
 unfold zCk
 refine Tot.bind (rebuild3_T c hf (by omega) 0 20000 (by omega) (by omega) (by omega) (by omega)) fun v hv=>Tot.pure ?_
 exact(hv.2.2.2.2.1 (hv.2.2.2.2.2 (by omega))).2.1
theorem okN.len{c:zLm}(h:okN c):((c.Op=9∨c.Op=10∨c.Op=11∨c.Op=13)->c.L.length=1)∧((c.Op=6∨c.Op=12)->c.L.length=2)∧((c.Op=7∨c.Op=8)->c.L.length=c.Names.length):=by
 have h1:=h.parts
 unfold zB4 zAn zAx at h1
 refine⟨fun ho=>?_,fun ho=>?_,fun ho=>?_⟩
 ·rcases ho with ho|ho|ho|ho<;>rw[ho] at h1<;>have:=zqa h1<;>omega
 ·rcases ho with ho|ho<;>rw[ho] at h1<;>have:=zqa h1<;>omega
 ·rcases ho with ho|ho<;>rw[ho] at h1<;>have:=zqa h1<;>omega
theorem okN.with{c:zLm}(h:okN c)(l:List zLm)(hl:l.length=c.L.length):okN (zLm.mk c.Op c.N c.S c.Kind c.Names l):=
 ⟨by rw[hl,<-h.parts];rfl,h.n0,h.n1,h.names,h.str,h.kind,h.lab⟩
theorem at0{α:Type}{l:List α}(h:0<l.length): ∃x,l[0]? =some x∧x∈l:=⟨l[0],zq2 h,List.getElem_mem h⟩
theorem at1{α:Type}{l:List α}(h:1<l.length): ∃x,l[1]? =some x∧x∈l:=⟨l[1],zq2 h,List.getElem_mem h⟩
theorem sum_bound{α:Type}(f:α->Nat)(K:Nat): ∀l:List α,(∀x,x∈l->f x<=K)->(l.map f).sum<=l.length*K
 |[],_=>by simp
 |x::l,h=>by
  have h1:=h x (zq9 ..)
  have h2:=sum_bound f K l fun y hy=>h y (zqc _ hy)
  rw[List.map_cons,List.sum_cons,List.length_cons,Nat.succ_mul]
  omega
theorem copiedKind_T(k:zLl):ksz k<=1000000->Tot (fun n=>zBG n k) (fun r=>r=k):=by
 induction k using zJl with
 |h k ih=>
 intro hk
 refine Tot.step (fun n=>by rw[zBG]) ?_
 refine Tot.bind (A:=fun r=>r=k.L) ?_ fun r hr=>Tot.pure (by rw[hr];exact kindEta k)
 refine Tot.loop1 k.L (fun n kk b i=>zBR (zBG n) k kk b i) (fun n i b x=>(zBG n x).bind fun v=>app 24 b [v]) (fun b=>b)
  (fun n kk b i=>by rw[zBR];simp only[Option.bind_assoc]) (fun i b=>b=k.L.take i∧i<=k.L.length) (fun b=>b=k.L) ?_ (fun b hb=>by rw[hb.1,List.take_length]) [] ⟨by simp,by omega⟩
 intro i b x hx hb
 have hm:=zq3 hx
 have h1:=ksz_mem hm
 have hi:=(zq1 hx).1
 have hlen:k.L.length<=ksz k:=by
  rw[ksz_eq]
  have:k.L.length<=(k.L.map ksz).sum:=by
   generalize k.L=l
   induction l with
   |nil=>simp
   |cons x l ih=>simp only[List.length_cons,List.map_cons,List.sum_cons];have:=ksz_pos x;omega
  omega
 refine Tot.bind (ih x hm (by omega)) fun v hv=>?_
 subst hv
 refine⟨b++[v],⟨0,fun n _=>zDH (by decide) (by rw[hb.1];simp;omega)⟩,?_,by omega⟩
 rw[hb.1,List.take_add_one,hx];rfl
theorem ncopied_T(c:zLm):Fm c->csz c<=1000000->Tot (fun n=>zBq n c) (fun r=>r=c):=by
 induction c using zCv with
 |h c ih=>
 intro hf hc
 have hok:=hf.here
 have hkd:=hok.kind
 have hn:=hok.names
 have hlc:=zIs c
 refine Tot.step (fun n=>by rw[zBq]) ?_
 refine Tot.bind (copiedKind_T _ (by omega)) fun v hv=>?_
 subst hv
 refine Tot.k (clone_T _ (by omega)) ?_
 refine Tot.bind (A:=fun r=>r=c.L) ?_ fun r hr=>Tot.pure (by rw[hr,zLZ])
 refine Tot.loop1 c.L (fun n kk b i=>zCF (zBq n) c kk b i) (fun n i b x=>(zBq n x).bind fun v=>app 104 b [v]) (fun b=>b)
  (fun n kk b i=>by rw[zCF];simp only[Option.bind_assoc]) (fun i b=>b=c.L.take i∧i<=c.L.length) (fun b=>b=c.L) ?_ (fun b hb=>by rw[hb.1,List.take_length]) [] ⟨by simp,by omega⟩
 intro i b x hx hb
 have hm:=zq3 hx
 have h1:=zCH hm
 have hi:=(zq1 hx).1
 refine Tot.bind (ih x hm (hf.part hm) (by omega)) fun v hv=>?_
 subst hv
 refine⟨b++[v],⟨0,fun n _=>zDH (by decide) (by rw[hb.1];simp;omega)⟩,?_,by omega⟩
 rw[hb.1,List.take_add_one,hx];rfl
theorem ErrOr.ok{e:Int}{w:zLm}{r:zLm×Int}(h:ErrOr e w r)(h0:r.2=0):Fm r.1∧csz r.1<=20000∧r.1=w:=by
 rcases h with ⟨_,h1,h2,h3⟩|⟨h1,_⟩
 ·exact⟨h1,h2,h3⟩
 ·exact absurd h0 h1
inductive Cov:zLn->zLn->Prop
 |any {p q:zLn} (h:p.Op=1∨p.Op=2):Cov p q
 |node {p q:zLn} (h1:p.Op=q.Op) (h2:p.N=q.N) (h3:p.S=q.S) (h4:p.L.length=q.L.length) (hs: ∀(i:Nat)(x y:zLn),p.L[i]? =some x->q.L[i]? =some y->Cov x y):Cov p q
theorem vld_nok{p:zLn}(h:vld p=true):nok p=true:=by unfold vld at h;rw[zq7] at h;exact h.1
theorem numbered_T(l:List (List UInt8))(m:Int)(hl:l.length<=1000000):Tot (fun n=>zBm n l m) (fun b=>b=true->(l.length:Int)=m):=by
 unfold zBm
 refine Tot.ite (fun _=>Tot.pure fun h=>by cases h) (fun h=>?_)
 have h:=eqT (notF h)
 refine Tot.bind (A:=fun _=>True) ?_ (fun o _=>Tot.sum (fun a _ _=>h) (fun b hb=>Tot.pure fun _=>h))
 refine Tot.loop l (fun n k (b:Unit) i=>zBD l k i) (fun n i b x=>(zDl ((i+1:Nat):Int)).bind fun v=>if (!(eqS x v))=true then some (.inl (.inl false)) else some (.inr ())) (fun _=>.inr ()) (fun n k b i=>?_) (fun _ _=>True) (fun _=>True) ?_ (fun _ _=>trivial) () trivial
 ·rw[zBD]
  split
  ·congr 1;funext x
   rw[Option.bind_assoc]
   congr 1;funext v
   split<;>rfl
  ·rfl
 ·intro i b x hx _
  have hi:=(zq1 hx).1
  refine Tot.k (itoa_M (i+1) (by omega)) ?_
  exact Tot.ite (fun _=>Tot.pure ⟨fun _ _=>trivial,fun _ _=>trivial⟩) (fun _=>Tot.pure ⟨fun _ _=>trivial,fun _ _=>trivial⟩)
theorem Find_T(l:List (List UInt8))(s:List UInt8):Tot (fun n=>zDp n l s) (fun r=>r<0∨(0<=r∧r<l.length)):=by
 unfold zDp
 refine Tot.bind (A:=fun o=> ∀a:Int,o=.inl a->0<=a∧a<(l.length:Int)) ?_ (fun o ho=>Tot.sum (fun a ha=>.inr (ho a ha)) (fun b hb=>Tot.pure (.inl (by decide))))
 refine Tot.loop l (fun n k (b:Unit) i=>zCN l s k i) (fun n i b x=>if eqS x s=true then some (.inl (.inl (i:Int))) else some (.inr ())) (fun _=>.inr ()) (fun n k b i=>?_) (fun _ _=>True) _ ?_ (fun _ _ a ha=>by cases ha) () trivial
 ·rw[zCN]
  split
  ·congr 1;funext x
   split<;>rfl
  ·rfl
 ·intro i b x hx _
  have hi:=(zq1 hx).1
  refine Tot.ite (fun _=>Tot.pure ⟨fun g hg a ha=>?_,fun _ _=>trivial⟩) (fun _=>Tot.pure ⟨fun g hg=>(by cases hg),fun _ _=>trivial⟩)
  cases hg;cases ha;omega
inductive Wd:zLn->zLn->Prop
 |any (p:zLn):Wd p (zLn.mk 1 0 [] [])
 |node (p w:zLn) (ho:w.Op=p.Op) (hn:w.N=p.N) (hs:w.S=p.S) (hl:w.L.length=p.L.length) (h: ∀(i:Nat) x y,p.L[i]? =some x->w.L[i]? =some y->Wd x y):Wd p w
theorem Tot.loopG{α β γ:Type}(l:List α)(g:β->Bool)(L:Nat->Nat->β->Nat->Option γ)(S:Nat->Nat->β->α->Option β)(E:β->γ)
 (hL: ∀n k b i,L n (k+1) b i=if (ltI (i:Int) (l.length:Int)&&g b)=true then (l[i]?).bind fun x=>(S n i b x).bind fun b'=>L n k b' (i+1) else some (E b))
 (I:Nat->β->Prop) (R:γ->Prop) (hS: ∀i b x,l[i]? =some x->g b=true->I i b->Tot (fun n=>S n i b x) (fun b'=>I (i+1) b'))
 (hE: ∀i b,I i b->i=l.length∨g b=false->R (E b)) (b0:β) (h0:I 0 b0):Tot (fun n=>L n n b0 0) R:=by
 have key: ∀m i b,i+m=l.length->I i b->∃g,R g∧∃N,∀n,N<=n->∀k,m<k->L n k b i=some g:=by
  intro m
  induction m with
  |zero=>
   intro i b hi hI
   refine⟨E b,hE i b hI (.inl (by omega)),0,fun n _ k hk=>?_⟩
   obtain⟨k,rfl⟩: ∃q,k=q+1:=⟨k-1,by omega⟩
   rw[hL,if_neg]
   rw[zq7]
   exact fun h=>ltN (by omega) h.1
  |succ m ih=>
   intro i b hi hI
   have hx:l[i]? =some l[i]:=zq2 (by omega)
   cases hg:g b with
   |false=>
    refine⟨E b,hE i b hI (.inr hg),0,fun n _ k hk=>?_⟩
    obtain⟨k,rfl⟩: ∃q,k=q+1:=⟨k-1,by omega⟩
    rw[hL,if_neg]
    rw[zq7,hg]
    exact fun h=>by cases h.2
   |true=>
    obtain⟨b',⟨N,hN⟩,q2⟩:=hS i b l[i] hx hg hI
    obtain⟨z,hz,N',hN'⟩:=ih (i+1) b' (by omega) q2
    refine⟨z,hz,N+N',fun n hn k hk=>?_⟩
    obtain⟨k,rfl⟩: ∃q,k=q+1:=⟨k-1,by omega⟩
    rw[hL,if_pos (by rw[hg,Bool.and_true];exact ltP (by omega)),hx,zBH,show S n i b l[i]=_ from hN n (by omega),zBH]
    exact hN' n (by omega) k (by omega)
 obtain⟨g,hg,N,hN⟩:=key l.length 0 b0 (by omega) h0
 exact⟨g,⟨N+l.length+1,fun n hn=>hN n (by omega) n (by omega)⟩,hg⟩
theorem wideK_T(k:zLl): ∀d c:Int,0<=d->d<=100->0<=c->c<=401->Tot (fun n=>zBM n k d c) (fun r=>c<r∧r<=1000):=by
 induction k using zJl with
 |h k ih=>
 intro d c h1 h2 h3 h4
 refine Tot.step (fun n=>by rw[zBM]) ?_
 refine Tot.chk (by omega) (by omega) (Tot.ite (fun _=>?_) (fun hc=>?_))
 ·refine Tot.bind (A:=fun r=>r=(1000:Int)) ?_ (fun r hr=>Tot.pure (by omega))
  exact Tot.loopG k.L (fun b=>leI b 400) (fun n kk b i=>zCh (zBM n) k d kk b i) (fun n i b x=>(chk .i64 (d+1)).bind fun m=>zBM n x m b) (fun b=>b)
   (fun n kk b i=>by rw[zCh];simp only[Option.bind_assoc]) (fun i b=>b=(1000:Int)) _ (fun i b x hx hg hb=>by subst hb;cases hg) (fun i b hb _=>hb) 1000 rfl
 ·rw[Bool.or_eq_false_iff] at hc
  have hd:=ltF hc.1
  refine Tot.bind (A:=fun r=>c<r∧r<=1000) ?_ (fun r hr=>Tot.pure hr)
  refine Tot.loopG k.L (fun b=>leI b 400) (fun n kk b i=>zCg (zBM n) k d kk b i) (fun n i b x=>(chk .i64 (d+1)).bind fun m=>zBM n x m b) (fun b=>b)
   (fun n kk b i=>by rw[zCg];simp only[Option.bind_assoc]) (fun i b=>c<b∧b<=1000) _ (fun i b x hx hg hb=>?_) (fun i b hb _=>hb) (c+1) (by omega)
  have hg:=leT hg
  exact Tot.chk (by omega) (by omega) ((ih x (zq3 hx) (d+1) b (by omega) (by omega) (by omega) (by omega)).mono fun r hr=>by omega)
theorem wideN_T(l:List (List UInt8)):Tot (fun n=>zAr n l) (fun _=>True):=by
 unfold zAr zBL
 refine Tot.bind (zEe (Q:=fun _=>True) (R:=fun _=>True) (P:=True) (T:=True) (Tot.index l (fun n k i=>zAb l k i) (fun n x=>zD6 x) (fun n k i=>by rw[zAb]) _ _ fun x hx=>?_)) fun v _=>Tot.pure trivial
 unfold zD6
 exact Tot.pure ⟨fun _=>trivial,fun _=>trivial⟩
theorem wide_T(c:zLm): ∀d a:Int,0<=d->d<=100->0<=a->a<=400->Tot (fun n=>zCM n c d a) (fun r=>a<r∧r<=1000∧(r<=400->a+csz c<=r∧Sh c)):=by
 induction c using zCv with
 |h c ih=>
 intro d a h1 h2 h3 h4
 refine Tot.step (fun n=>by rw[zCM]) ?_
 refine Tot.chk (by omega) (by omega) (Tot.bind (A:=fun b=>b=false->d<=50∧c.S.length<=100) ?_ (fun b hb=>Tot.ite (fun _=>Tot.pure ⟨by omega,by decide,fun h=>by omega⟩) (fun h=>?_)))
 ·refine Tot.ite (fun _=>Tot.pure fun h=>by cases h) (fun hd=>Tot.ite (fun _=>Tot.pure fun h=>by cases h) (fun _=>Tot.ite (fun _=>Tot.pure fun h=>by cases h) (fun _=>Tot.ite (fun _=>Tot.pure fun h=>by cases h) (fun hs=>?_))))
  have hd:=ltF hd
  have hs:=ltF hs
  exact Tot.bind (wideN_T c.Names) fun v _=>Tot.pure fun _=>⟨hd,by omega⟩
 ·obtain⟨hd,hs⟩:=hb h
  refine Tot.bind (wideK_T c.Kind 1 (a+1) (by omega) (by omega) (by omega) (by omega)) fun v hv=>?_
  refine Tot.bind (A:=fun r=>a<r∧r<=1000∧(r<=400->a+csz c<=r∧Sh c)) ?_ (fun r hr=>Tot.pure hr)
  refine Tot.loopG c.L (fun b=>leI b 400) (fun n kk b i=>zCf (zCM n) c d kk b i) (fun n i b x=>(chk .i64 (d+1)).bind fun m=>zCM n x m b) (fun b=>b)
   (fun n kk b i=>by rw[zCf];simp only[Option.bind_assoc]) (fun i b=>a<b∧b<=1000∧(b<=400->a+1+((c.L.take i).map csz).sum<=b∧∀j x,j<i->c.L[j]? =some x->Sh x)) _ (fun i b x hx hg hb=>?_) (fun i b hb he=>?_) v ⟨by omega,hv.2,fun _=>⟨by simp;omega,fun j x hj=>by omega⟩⟩
  ·have hg:=leT hg
   obtain⟨b1,b2,b3⟩:=hb
   obtain⟨b4,b5⟩:=b3 hg
   refine Tot.chk (by omega) (by omega) ((ih x (zq3 hx) (d+1) b (by omega) (by omega) (by omega) hg).mono fun r hr=>⟨by omega,hr.2.1,fun h=>?_⟩)
   obtain⟨r1,r2⟩:=hr.2.2 h
   refine⟨by rw[zBj csz _ _ _ hx];omega,fun j y hj hy=>?_⟩
   by_cases e:j=i
   ·subst e;rw[hx] at hy;cases hy;exact r2
   ·exact b5 j y (by omega) hy
  ·obtain⟨b1,b2,b3⟩:=hb
   refine⟨b1,b2,fun h=>?_⟩
   obtain⟨b4,b5⟩:=b3 h
   rcases he with rfl|he
   ·rw[List.take_length] at b4
    refine⟨by rw[zE5 c];omega,.mk _ (by omega) fun x hx=>?_⟩
    obtain⟨j,hj,rfl⟩:=List.getElem_of_mem hx
    exact b5 j _ hj (zq2 hj)
   ·have:=leF he
    omega
theorem Wide_T(c:zLm):Tot (fun n=>zEW n c) (fun b=>b=false->csz c<=400∧Sh c):=by
 unfold zEW
 refine Tot.bind (wide_T c 1 0 (by decide) (by decide) (by decide) (by decide)) fun r hr=>Tot.pure fun h=>?_
 have h:=ltF h
 obtain⟨h1,h2⟩:=hr.2.2 h
 exact⟨by omega,h2⟩
mutual
def zLl.two:zLl->Bool
 |.mk l=>(l.length==0||l.length==2)&&twoL l
def twoL:List zLl->Bool
 |[]=>true
 |x::l=>zLl.two x&&twoL l
end
mutual
def zLl.cnt:zLl->Nat
 |.mk l=>1+cntL l
def cntL:List zLl->Nat
 |[]=>0
 |x::l=>zLl.cnt x+cntL l
end
mutual
def zLl.hgt:zLl->Nat
 |.mk l=>1+hgtL l
def hgtL:List zLl->Nat
 |[]=>0
 |x::l=>max (zLl.hgt x) (hgtL l)
end
def okK(k:zLl)(left h:Nat):Bool:=k.two&&decide (k.cnt<=left)&&decide (k.hgt<=h)
theorem zIt(k:zLl):1<=k.cnt:=by cases k;rw[zLl.cnt];omega
theorem hgt_pos(k:zLl):1<=k.hgt:=by cases k;rw[zLl.hgt];omega
theorem cntL_mem{x:zLl}: ∀{l:List zLl},x∈l->x.cnt<=cntL l
 |y::l,h=>by
  rw[cntL]
  rcases List.mem_cons.1 h with rfl|h
  ·omega
  ·have:=cntL_mem h;omega
theorem zLl.ind{p:zLl->Prop}(h: ∀l,(∀x∈l,p x)->p (.mk l)): ∀k,p k:=by
 intro k
 have: ∀n,∀k:zLl,k.cnt<=n->p k:=by
  intro n
  induction n with
  |zero=>intro k hk;have:=zIt k;omega
  |succ n ih=>
   rintro⟨l⟩ hk
   rw[zLl.cnt] at hk
   exact h l fun x hx=>ih x (by have:=cntL_mem hx;omega)
 exact this _ k (Nat.le_refl _)
theorem two_mk0:zLl.two (.mk [])=true:=by simp[zLl.two,twoL]
theorem two_mk2(x y:zLl):zLl.two (.mk [x,y])=(x.two&&y.two):=by simp[zLl.two,twoL]
theorem two_mk1(x:zLl):zLl.two (.mk [x])=false:=by simp[zLl.two]
theorem two_mk3(x y z:zLl)(l:List zLl):zLl.two (.mk (x::y::z::l))=false:=by simp[zLl.two]
theorem cnt_mk0:zLl.cnt (.mk [])=1:=by simp[zLl.cnt,cntL]
theorem cnt_mk2(x y:zLl):zLl.cnt (.mk [x,y])=1+x.cnt+y.cnt:=by simp[zLl.cnt,cntL];omega
theorem hgt_mk0:zLl.hgt (.mk [])=1:=by simp[zLl.hgt,hgtL]
theorem hgt_mk2(x y:zLl):zLl.hgt (.mk [x,y])=1+max x.hgt y.hgt:=by simp[zLl.hgt,hgtL]
theorem okK_left(k:zLl)(h:Nat):okK k 0 h=false:=by
 have:=zIt k
 rw[okK,decide_eq_false (by omega: ¬k.cnt<=0)];simp
theorem okK_hgt(k:zLl)(left:Nat):okK k left 0=false:=by
 have:=hgt_pos k
 rw[okK,decide_eq_false (by omega: ¬k.hgt<=0)];simp
theorem okK_mk0(left h:Nat):okK (.mk []) (left+1) (h+1)=true:=by
 rw[okK,two_mk0,cnt_mk0,hgt_mk0];simp
theorem okK_mk2(x y:zLl)(left h:Nat):okK (.mk [x,y]) (left+1) (h+1)=(okK x left h&&okK y (left-x.cnt) h):=by
 have h1:=zIt x;have h2:=zIt y
 rw[Bool.eq_iff_iff]
 simp only[okK,two_mk2,cnt_mk2,hgt_mk2,zq7,decide_eq_true_eq]
 constructor
 ·rintro⟨⟨⟨a,b⟩,c⟩,d⟩;exact⟨⟨⟨a,by omega⟩,by omega⟩,⟨b,by omega⟩,by omega⟩
 ·rintro⟨⟨⟨a,b⟩,c⟩,⟨d,e⟩,f⟩;exact⟨⟨⟨a,d⟩,by omega⟩,by omega⟩
theorem okK_mk1(x:zLl)(left h:Nat):okK (.mk [x]) left h=false:=by rw[okK,two_mk1];rfl
theorem okK_mk3(x y z:zLl)(l:List zLl)(left h:Nat):okK (.mk (x::y::z::l)) left h=false:=by rw[okK,two_mk3];rfl
theorem ksize_M: ∀(k:zLl)(fuel left h:Nat)(L D:Int),k.cnt+1<=fuel->L=left->D=401-h->left<=20000->h<=400->
 zC9 fuel k L D=some (if okK k left h then ((k.cnt:Int),true) else (0,false)):=by
 intro k
 induction k using zLl.ind with
 |h l ih=>
 intro fuel left h L D hf hL hD hl hh
 obtain⟨f,rfl⟩: ∃f,fuel=f+1:=⟨fuel-1,by omega⟩
 rw[zC9]
 by_cases e0:left=0
 ·rw[if_pos (by simp[leI];omega),e0,okK_left];rfl
 by_cases e1:h=0
 ·rw[if_pos (by simp[leI,ltI];omega),e1,okK_hgt];rfl
 obtain⟨left,rfl⟩: ∃n,left=n+1:=⟨left-1,by omega⟩
 obtain⟨h,rfl⟩: ∃n,h=n+1:=⟨h-1,by omega⟩
 match l,ih with
 |[],_=>
  rw[if_neg (by simp[leI,ltI,eqI];omega),okK_mk0]
  obtain⟨g,rfl⟩: ∃g,f=g+1:=⟨f-1,by rw[cnt_mk0] at hf;omega⟩
  simp[zB2,ltI,cnt_mk0]
 |[x],_=>
  rw[if_pos (by simp[eqI]),okK_mk1];rfl
 |x::y::z::l,_=>
  rw[if_pos (by simp[eqI];omega),okK_mk3];rfl
 |[x,y],ih=>
  rw[if_neg (by simp[leI,ltI,eqI];omega),okK_mk2]
  rw[cnt_mk2] at hf
  have h1:=zIt x;have h2:=zIt y
  obtain⟨g,rfl⟩: ∃g,f=g+3:=⟨f-3,by omega⟩
  have hx:=ih x (by simp) (g+3) left h (L-1) (D+1) (by omega) (by omega) (by omega) (by omega) (by omega)
  have q1:chk .i64 (L-1)=some (L-1):=zIN (by omega) (by omega)
  have q2:chk .i64 (D+1)=some (D+1):=zIN (by omega) (by omega)
  cases o1:okK x left h with
  |false=>
   rw[o1] at hx
   simp[zB2,ltI,q1,q2,hx]
  |true=>
   have h3:x.cnt<=left:=by simp[okK] at o1;omega
   have hy:=ih y (by simp) (g+3) (left-x.cnt) h (L-(1+x.cnt)) (D+1) (by omega) (by omega) (by omega) (by omega) (by omega)
   have q3:chk .i64 (1+(x.cnt:Int))=some (1+(x.cnt:Int)):=zIN (by omega) (by omega)
   have q4:chk .i64 (L-(1+(x.cnt:Int)))=some (L-(1+(x.cnt:Int))):=zIN (by omega) (by omega)
   rw[o1] at hx
   cases o2:okK y (left-x.cnt) h with
   |false=>
    rw[o2] at hy
    simp[zB2,ltI,q1,q2,q3,q4,hx,hy]
   |true=>
    have h4:y.cnt<=left-x.cnt:=by simp[okK] at o2;omega
    have q5:chk .i64 (1+(x.cnt:Int)+y.cnt)=some (1+(x.cnt:Int)+y.cnt):=zIN (by omega) (by omega)
    rw[o2] at hy
    simp[zB2,ltI,q1,q2,q3,q4,q5,hx,hy,cnt_mk2]
def vK(k:zLl):Bool:=okK k 20000 400
theorem kvalid_M{k:zLl}{fuel:Nat}(h:k.cnt+1<=fuel):zCi fuel k=some (vK k):=by
 rw[zCi,ksize_M k fuel 20000 400 20000 1 h rfl rfl (by omega) (by omega),vK]
 cases okK k 20000 400<;>rfl
theorem kcount_M: ∀(k:zLl)(fuel left h:Nat)(L D:Int),k.cnt+1<=fuel->L=left->D=h->left<=20000->h<=400->
 zDg fuel k L D=some (if okK k left h then (left:Int)-k.cnt else -1):=by
 intro k
 induction k using zLl.ind with
 |h l ih=>
 intro fuel left h L D hf hL hD hl hh
 obtain⟨f,rfl⟩: ∃f,fuel=f+1:=⟨fuel-1,by omega⟩
 rw[zDg]
 by_cases e0:left=0
 ·rw[if_pos (by simp[ltI];omega),e0,okK_left];rfl
 by_cases e1:h=0
 ·rw[if_pos (by simp[ltI];omega),e1,okK_hgt];rfl
 obtain⟨left,rfl⟩: ∃n,left=n+1:=⟨left-1,by omega⟩
 obtain⟨h,rfl⟩: ∃n,h=n+1:=⟨h-1,by omega⟩
 have q0:chk .i64 (L-1)=some (L-1):=zIN (by omega) (by omega)
 match l,ih with
 |[],_=>
  rw[if_neg (by simp[ltI,eqI];omega),okK_mk0]
  obtain⟨g,rfl⟩: ∃g,f=g+1:=⟨f-1,by rw[cnt_mk0] at hf;omega⟩
  simp[zB0,ltI,cnt_mk0,q0];omega
 |[x],_=>
  rw[if_pos (by simp[eqI]),okK_mk1];rfl
 |x::y::z::l,_=>
  rw[if_pos (by simp[eqI];omega),okK_mk3];rfl
 |[x,y],ih=>
  rw[if_neg (by simp[ltI,eqI];omega),okK_mk2]
  rw[cnt_mk2] at hf
  have h1:=zIt x;have h2:=zIt y
  obtain⟨g,rfl⟩: ∃g,f=g+3:=⟨f-3,by omega⟩
  have hx:=ih x (by simp) (g+3) left h (L-1) (D-1) (by omega) (by omega) (by omega) (by omega) (by omega)
  have q2:chk .i64 (D-1)=some (D-1):=zIN (by omega) (by omega)
  have p1:(1:Int)<=L:=by omega
  cases o1:okK x left h with
  |false=>
   rw[o1] at hx
   simp[zB0,ltI,leI,q0,q2,hx,p1]
  |true=>
   have h3:x.cnt<=left:=by simp[okK] at o1;omega
   have hy:=ih y (by simp) (g+3) (left-x.cnt) h ((left:Int)-x.cnt) (D-1) (by omega) (by omega) (by omega) (by omega) (by omega)
   rw[o1] at hx
   have p2:(x.cnt:Int)<=left:=by omega
   cases o2:okK y (left-x.cnt) h with
   |false=>
    rw[o2] at hy
    simp[zB0,ltI,leI,q0,q2,hx,hy,p1,p2]
   |true=>
    have h4:y.cnt<=left-x.cnt:=by simp[okK] at o2;omega
    rw[o2] at hy
    simp[zB0,ltI,leI,q0,q2,hx,hy,cnt_mk2,p1,p2];omega
theorem krefValid_M{k:zLl}{fuel:Nat}(h:k.cnt+1<=fuel):zDh fuel k=some (vK k):=by
 rw[zDh,kcount_M k fuel 20000 400 20000 400 h rfl rfl (by omega) (by omega),vK]
 cases o:okK k 20000 400
 ·rfl
 ·have:k.cnt<=20000:=by simp[okK] at o;omega
  simp[leI];omega
theorem Tot.toEv{α:Type}{f:Nat->Option α}{r:α}(h:Tot f fun x=>x=r):Ev f r:=by obtain⟨x,h1,rfl⟩:=h;exact h1
theorem Tot.scan{α γ:Type}(l:List α)(L:Nat->Nat->Nat->Option (γ ⊕ Unit))(F:Nat->α->Option Bool)(p:α->Bool)(g:γ)
 (hL: ∀n k i,L n (k+1) i=if ltI (i:Int) (l.length:Int)=true then (l[i]?).bind fun x=>(F n x).bind fun v=>if v=true then L n k (i+1) else some (.inl g) else some (.inr ()))
 (hF: ∀x,x∈l->Tot (fun n=>F n x) fun v=>v=p x):Tot (fun n=>L n n 0) fun o=>o=if l.all p=true then .inr () else .inl g:=by
 refine Tot.loop l (fun n k (b:Unit) i=>L n k i) (fun n i b x=>(F n x).bind fun v=>if v=true then some (.inr ()) else some (.inl (.inl g))) (fun _=>.inr ())
  (fun n k b i=>by
   rw[hL]
   split
   ·congr 1;funext x
    rw[Option.bind_assoc]
    congr 1;funext v
    split<;>rfl
   ·rfl) (fun i _=>(l.take i).all p=true) _ ?_ (fun b hb=>?_) () (by simp)
 ·intro i b x hx hb
  refine Tot.bind (hF x (zq3 hx)) fun v hv=>?_
  subst hv
  refine Tot.ite (fun hc=>Tot.pure ⟨fun g hg=>(by cases hg),fun b' _=>?_⟩) (fun hc=>Tot.pure ⟨fun o ho=>?_,fun b' hb'=>(by cases hb')⟩)
  ·rw[List.take_add_one,hx];simp[hb,hc]
  ·cases ho
   rw[if_neg]
   intro h
   have:=zq8 h x (zq3 hx)
   rw[hc] at this;cases this
 ·rw[List.take_length] at hb
  rw[if_pos hb]
theorem orTF(b:Bool):b=true∨b=false:=by cases b<;>simp
def inL(c:UInt8):Bool:=inU c||decide (c.toNat=46)
def dgB(c:UInt8):Bool:=decide (48<=c.toNat)&&decide (c.toNat<=57)
theorem of_L(c:UInt8): ∃k,zCV c=some k∧(eqI k 0= !inL c)∧(eqI k 3=dgB c):=by
 have h:=zIJ (fun c=>match zCV c with|some k=>(eqI k 0== !inL c)&&(eqI k 3==dgB c)|none=>false) (by kernel_rfl) c
 cases hk:zCV c with
 |none=>rw[hk] at h;cases h
 |some k=>
  rw[hk] at h
  simp only[zq7,beq_iff_eq] at h
  exact⟨k,rfl,h.1,h.2⟩
def lbB(s:List UInt8):Bool:=decide (1<=s.length)&&(decide (s.length<=48)&&s.all inL)
theorem Label_E(s:List UInt8):Tot (fun n=>zDS n s) fun b=>b=lbB s:=by
 unfold zDS
 refine Tot.ite (fun h=>Tot.pure ?_) (fun h=>?_)
 ·rcases Bool.or_eq_true_iff.1 h with h|h
  ·rw[of_decide_eq_true h];rfl
  ·have:=ltT h
   unfold lbB
   rw[decide_eq_false (show¬s.length<=48 by omega)];simp
 rw[Bool.or_eq_false_iff] at h
 have h1:=ltF h.2
 have h2:s≠[]:=of_decide_eq_false h.1
 have h3:1<=s.length:=by cases s with|nil=>exact absurd rfl h2|cons _ _=>simp
 refine Tot.k (a:=s) (by rw[zKR,if_pos (by omega)]) ?_
 refine Tot.bind (Tot.scan s (fun n k i=>zBa s k i) (fun n x=>(zCV x).bind fun v=>some (!(eqI v 0))) inL false (fun n k i=>?_) fun x _=>?_) fun o ho=>?_
 ·rw[zBa]
  split
  ·congr 1;funext x
   rw[Option.bind_assoc]
   congr 1;funext v
   cases eqI v 0<;>rfl
  ·rfl
 ·obtain⟨k,hk,h5,_⟩:=of_L x
  exact Tot.k hk (Tot.pure (by rw[h5];simp))
 ·subst ho
  unfold lbB
  rw[zqb h3,zqb (show s.length<=48 by omega)]
  rcases orTF (s.all inL) with h4|h4<;>rw[h4]
  ·exact Tot.pure rfl
  ·exact Tot.pure rfl
theorem RLabel_E(s:List UInt8):Tot (fun n=>zDv n s) fun b=>b=lbB s:=by
 unfold zDv
 refine Tot.bind (Tot.scan s (fun n k i=>zCE s k i) (fun n x=>(zDE x).bind fun v=>if !v then some (eqI (x.toNat:Int) 46) else some true) inL false (fun n k i=>?_) fun x _=>?_) fun o ho=>?_
 ·rw[zCE]
  split
  ·rename_i hi
   have hi:=ltT hi
   rw[zq2 (show i<s.length by omega)]
   simp only[zBH]
   cases zDE s[i] with
   |none=>rfl
   |some v=>
    cases v with
    |true=>rfl
    |false=>
     simp only[zBH]
     cases eqI ((s[i]:UInt8).toNat:Int) 46<;>rfl
  ·rfl
 ·refine Tot.k (Inner_M x) ?_
  unfold inL
  rcases orTF (inU x) with h|h<;>rw[h]
  ·exact Tot.pure rfl
  ·refine Tot.pure ?_
   unfold eqI
   rw[Bool.false_or]
   exact decide_eq_decide.2 (by omega)
 ·subst ho
  unfold lbB
  rcases orTF (s.all inL) with h4|h4<;>rw[h4]
  ·refine Tot.pure ?_
   unfold leI
   rw[Bool.and_true]
   congr 1
   ·exact decide_eq_decide.2 (by omega)
   ·exact decide_eq_decide.2 (by omega)
  ·exact Tot.pure (by simp)
theorem asc_same(l:List (List UInt8)): ∀k i,zBi l k i=zAk l k i
 |0,i=>rfl
 |k+1,i=>by rw[zBi,zAk];simp only[asc_same l k]
noncomputable def ascB (l:List (List UInt8)):Bool:=Classical.choose (asc_T l)
theorem Asc_E(l:List (List UInt8)):Tot (fun n=>zAf n l) fun b=>b=ascB l:=⟨_,(Classical.choose_spec (asc_T l)).1,rfl⟩
theorem RAsc_E(l:List (List UInt8)):Tot (fun n=>zDr n l) fun b=>b=ascB l:=
 Tot.eq (fun n=>by rw[zDr,zAf,asc_same]) (Asc_E l)
theorem asc_nil:ascB []=true:=(Asc_E []).toEv.uniq ⟨1,fun n hn=>by
 obtain⟨k,rfl⟩: ∃q,n=q+1:=⟨n-1,by omega⟩
 show zAf (k+1) []=some true
 rw[zAf,zAk];rfl⟩
theorem Labels_E(l:List (List UInt8)):Tot (fun n=>zAG n l) fun b=>b= !(l.all lbB):=by
 unfold zAG zBA
 have h:Tot (fun n=>(zAP n l n 0).bind fun o=>Sum.elim some (fun _=>some (-1)) o) (fun i=>leI 0 i= !(l.all lbB)):=by
  refine(zEe (Q:=fun x=>lbB x=true) (R:=fun x=>lbB x=false) (P:=True) (T:=True) (Tot.index l (fun n k i=>zAP n l k i) (fun n x=>zCw n x) (fun n k i=>by rw[zAP]) _ _ fun x hx=>?_)).mono fun i hi=>?_
  ·unfold zCw
   exact Tot.bind (Label_E x) fun v hv=>Tot.pure ⟨fun h=>by rw[<-hv];simpa using h,fun h=>by rw[<-hv];simpa using h⟩
  ·rcases orTF (leI 0 i) with h|h
   ·obtain⟨x,h1,h2⟩:=hi.2 h
    have:l.all lbB=false:=by
     rcases orTF (l.all lbB) with h3|h3
     ·have:=zq8 h3 x h1
      rw[h2] at this;cases this
     ·exact h3
    rw[h,this];rfl
   ·have:=List.all_eq_true.2 (hi.1 h)
    rw[h,this];rfl
 exact Tot.bind h fun v hv=>Tot.pure hv
theorem RLabels_E(l:List (List UInt8)):Tot (fun n=>zED n l) fun b=>b=(l.all lbB&&(decide (l.length<=1000)&&ascB l)):=by
 unfold zED
 refine Tot.bind (Tot.scan l (fun n k i=>zCa n l k i) (fun n x=>zDv n x) lbB false (fun n k i=>?_) fun x _=>RLabel_E x) fun o ho=>?_
 ·rw[zCa]
  split
  ·congr 1;funext x
   congr 1;funext v
   cases v<;>rfl
  ·rfl
 ·subst ho
  rcases orTF (l.all lbB) with h4|h4<;>rw[h4]
  ·refine Tot.bind (A:=fun b=>b=(decide (l.length<=1000)&&ascB l)) ?_ fun b hb=>Tot.pure hb
   refine Tot.ite (fun h=>?_) (fun h=>Tot.pure ?_)
   ·have:=leT h
    rw[zqb (show l.length<=1000 by omega)]
    exact Tot.bind (RAsc_E l) fun v hv=>Tot.pure hv
   ·have:=leF h
    rw[decide_eq_false (show¬l.length<=1000 by omega)];rfl
  ·exact Tot.pure rfl
def dv(acc:Nat)(s:List UInt8):Nat:=s.foldl (fun a c=>a*10+(c.toNat-48)) acc
theorem dv_cons(acc:Nat)(c:UInt8)(s:List UInt8):dv acc (c::s)=dv (acc*10+(c.toNat-48)) s:=by unfold dv;rw[List.foldl_cons]
theorem dv_ge: ∀(s:List UInt8)(acc:Nat),acc<=dv acc s
 |[],acc=>by unfold dv;rw[List.foldl_nil];exact Nat.le_refl _
 |c::s,acc=>by
  have:=dv_ge s (acc*10+(c.toNat-48))
  rw[dv_cons];omega
theorem dv_app(s:List UInt8)(acc:Nat)(c:UInt8):dv acc (s++[c])=dv acc s*10+(c.toNat-48):=by
 unfold dv;rw[List.foldl_append,List.foldl_cons,List.foldl_nil]
theorem dgB_iff{c:UInt8}(h:dgB c=true):48<=c.toNat∧c.toNat<=57:=by
 unfold dgB at h
 simpa using h
theorem parse_dv: ∀(s:List UInt8)(acc:Nat),s.all dgB=true->acc<18446744073709551616->
 (Lib.parseUint10 acc s=.ok (dv acc s)∧dv acc s<18446744073709551616)∨(Lib.parseUint10 acc s=.range∧18446744073709551616<=dv acc s)
 |[],acc,_,h=>by
  have e:dv acc []=acc:=by unfold dv;rw[List.foldl_nil]
  rw[e];exact .inl ⟨rfl,h⟩
 |c::s,acc,hs,h=>by
  rw[List.all_cons,zq7] at hs
  have hc:=dgB_iff hs.1
  rw[Lib.parseUint10,if_pos hc,dv_cons]
  have hg:=dv_ge s (acc*10+(c.toNat-48))
  by_cases h1:1844674407370955162<=acc
  ·rw[if_pos h1];exact .inr ⟨rfl,by omega⟩
  ·rw[if_neg h1]
   by_cases h2:18446744073709551616<=acc*10+(c.toNat-48)
   ·rw[if_pos h2];exact .inr ⟨rfl,by omega⟩
   ·rw[if_neg h2]
    exact parse_dv s _ hs.2 (by omega)
def zB:List UInt8->Bool
 |[]=>true
 |[_]=>false
 |c::_::_=>decide (c.toNat=48)
def numR(s:List UInt8):Int×Int:=if zB s=true then (0,3) else if s.all dgB=true then (if dv 0 s<=4503599627370496 then ((dv 0 s:Int),0) else (0,6)) else (0,3)
theorem zB_ex(s:List UInt8)(a:Bool)(ha:a=decide (s=[])):(if a=true then some true else if ltI 1 (s.length:Int)=true then (s[0]?).bind fun c6=>some (eqI (c6.toNat:Int) 48) else some false:Option Bool)=some (zB s):=by
 subst ha
 match s with
 |[]=>rfl
 |[c]=>rfl
 |c::d::s=>
  rw[if_neg (by simp),if_pos (show ltI 1 ((c::d::s).length:Int)=true from zqb (by simp only[List.length_cons];omega))]
  simp only[List.getElem?_cons_zero,zBH,zB]
  refine congrArg some (decide_eq_decide.2 (by omega))
theorem Number_E(s:List UInt8)(hs:s.length<=1000000):Tot (fun n=>zDo n s) fun r=>r=numR s:=by
 unfold zDo numR
 refine Tot.k (zB_ex s _ rfl) ?_
 rcases orTF (zB s) with hz|hz<;>rw[hz]
 ·exact Tot.pure rfl
 refine Tot.k (a:=s) (by rw[zKR,if_pos (by omega)]) ?_
 refine Tot.bind (Tot.scan s (fun n k i=>zBV s k i) (fun n x=>(zCV x).bind fun v=>some (eqI v 3)) dgB (0,3) (fun n k i=>?_) fun x _=>?_) fun o ho=>?_
 ·rw[zBV]
  split
  ·congr 1;funext x
   rw[Option.bind_assoc]
   congr 1;funext v
   cases eqI v 3<;>rfl
  ·rfl
 ·obtain⟨k,hk,_,h5⟩:=of_L x
  exact Tot.k hk (Tot.pure h5)
 ·subst ho
  rcases orTF (s.all dgB) with h4|h4<;>rw[h4]
  ·cases s with
   |nil=>cases hz
   |cons c r=>
    have hc:=dgB_iff (zq8 h4 c (zq9 ..))
    have hm:Lib.parseMag (c::r)=Lib.parseUint10 0 (c::r):=by unfold Lib.parseMag;rw[if_neg (by simp)]
    rcases parse_dv (c::r) 0 h4 (by decide) with ⟨h5,h6⟩|⟨h5,h6⟩
    ·by_cases h7:9223372036854775808<=dv 0 (c::r)
     ·have e:zBw (c::r)=some (Lib.atoiSat (c::r),true):=by
       unfold zBw
       rw[if_pos hs,Lib.atoiAll_plain c r (by omega) (by omega),hm,h5,Lib.signless,if_pos h7]
      refine Tot.k e (Tot.pure ?_)
      rw[if_pos rfl,if_neg (show¬dv 0 (c::r)<=4503599627370496 by omega)];rfl
     ·have e:zBw (c::r)=some ((dv 0 (c::r):Int),false):=by
       unfold zBw
       rw[if_pos hs,Lib.atoiAll_plain c r (by omega) (by omega),hm,h5,Lib.signless,if_neg h7]
      refine Tot.k e ?_
      refine Tot.ite (fun h=>by cases h) (fun _=>Tot.ite (fun h=>?_) (fun h=>?_))
      ·have h:=ltT h
       refine Tot.pure ?_
       simp only at h
       rw[if_pos rfl,if_neg (show¬dv 0 (c::r)<=4503599627370496 by omega)];rfl
      ·have h:=ltF h
       refine Tot.pure ?_
       simp only at h
       rw[if_pos rfl,if_pos (show dv 0 (c::r)<=4503599627370496 by omega)];rfl
    ·have e:zBw (c::r)=some (Lib.atoiSat (c::r),true):=by
      unfold zBw
      rw[if_pos hs,Lib.atoiAll_plain c r (by omega) (by omega),hm,h5,Lib.signless]
     refine Tot.k e (Tot.pure ?_)
     rw[if_pos rfl,if_neg (show¬dv 0 (c::r)<=4503599627370496 by omega)];rfl
  ·exact Tot.pure rfl
theorem RNumber_E(s:List UInt8):Tot (fun n=>zEE n s) fun r=>r=numR s:=by
 unfold zEE numR
 refine Tot.k (zB_ex s _ (by
  unfold eqI
  refine decide_eq_decide.2 ⟨fun h=>List.eq_nil_of_length_eq_zero (by omega),fun h=>by rw[h];rfl⟩)) ?_
 rcases orTF (zB s) with hz|hz<;>rw[hz]
 ·exact Tot.pure rfl
 refine Tot.bind (A:=fun o=>o=if s.all dgB=true then .inr (minI 4503599627370497 (dv 0 s)) else .inl (0,3)) ?_ fun o ho=>?_
 ·refine Tot.loop s (fun n k b i=>zCd s k b i) (fun n i b x=>(zD5 x).bind fun v=>if (!v)=true then some (.inl (.inl (0,3))) else (chk .i64 (10*b)).bind fun n1=>(chk .u8 ((x.toNat:Int)-48)).bind fun n2=>(chk .i64 (n1+n2)).bind fun n3=>some (.inr (minI 4503599627370497 n3))) .inr
   (fun n k b i=>?_) (fun i b=>(s.take i).all dgB=true∧b=minI 4503599627370497 (dv 0 (s.take i))) _ (fun i b x hx hb=>?_) (fun b hb=>?_) 0 ⟨by simp,by simp[minI,dv]⟩
  ·rw[zCd]
   split
   ·congr 1;funext x
    rw[Option.bind_assoc]
    congr 1;funext v
    split
    ·rfl
    ·simp only[Option.bind_assoc,zBH];rfl
   ·rfl
  ·have hd:zD5 x=some (dgB x):=by
    unfold zD5 dgB leI
    refine congrArg some ?_
    congr 1
    ·exact decide_eq_decide.2 (by omega)
    ·exact decide_eq_decide.2 (by omega)
   refine Tot.k hd ?_
   rcases orTF (dgB x) with h|h<;>rw[h]
   ·have hc:=dgB_iff h
    obtain⟨h1,h2⟩:=hb
    have hb0:0<=b∧b<=4503599627370497:=by rw[h2];unfold minI;split<;>omega
    refine Tot.chk (by omega) (by omega) ?_
    refine Tot.k (a:=(x.toNat:Int)-48) (by rw[chk,if_pos];exact⟨by omega,by omega⟩) ?_
    refine Tot.chk (by omega) (by omega) (Tot.pure ⟨fun g hg=>(by cases hg),fun b' hb'=>?_⟩)
    cases hb'
    rw[List.take_add_one,hx]
    refine⟨by simp[h1,h],?_⟩
    rw[Option.toList_some,dv_app,h2]
    unfold minI
    split<;>split<;>(try split)<;>omega
   ·refine Tot.pure ⟨fun o ho=>?_,fun b' hb'=>(by cases hb')⟩
    cases ho
    rw[if_neg]
    intro h'
    have:=zq8 h' x (zq3 hx)
    rw[h] at this;cases this
  ·rw[List.take_length] at hb
   rw[if_pos hb.1,hb.2]
 ·subst ho
  rcases orTF (s.all dgB) with h4|h4<;>rw[h4]
  ·have e:minI 4503599627370497 (dv 0 s)=if dv 0 s<4503599627370497 then (dv 0 s:Int) else 4503599627370497:=by
    unfold minI
    by_cases h:dv 0 s<4503599627370497
    ·rw[if_pos h,if_pos (by omega)]
    ·rw[if_neg h,if_neg (by omega)]
   simp only[if_true,Bool.false_eq_true,if_false,Sum.elim_inr,e]
   by_cases h:dv 0 s<4503599627370497
   ·rw[if_pos h,if_pos (show dv 0 s<=4503599627370496 by omega)]
    exact Tot.ite (fun h'=>by have:=ltT h';omega) (fun _=>Tot.pure rfl)
   ·rw[if_neg h,if_neg (show¬dv 0 s<=4503599627370496 by omega)]
    exact Tot.ite (fun _=>Tot.pure rfl) (fun h'=>by have:=ltF h';omega)
  ·exact Tot.pure rfl
def cnB(s:List UInt8):Bool:=(Lib.cut s [46]).2.2&&(decide (s.length<=48)&&(nm caB (Lib.cut s [46]).1&&decide ((numR (Lib.cut s [46]).2.1).2=0)))
theorem Const_E(s:List UInt8)(hs:s.length<=100000):Tot (fun n=>zBO n s) fun b=>b=cnB s:=by
 unfold zBO cnB
 refine Tot.k (a:=Lib.cut s [46]) (by rw[zEf,if_pos (by omega)]) ?_
 have hc:=cut_le s [46]
 refine Tot.bind (Number_E _ (by omega)) fun v hv=>?_
 subst hv
 refine Tot.bind (A:=fun b=>b=cnB s) ?_ (fun b hb=>Tot.pure (by rw[hb];rfl))
 unfold cnB
 refine Tot.ite (fun h=>?_) (fun h=>Tot.pure (by rw[h];rfl))
 rw[h]
 refine Tot.ite (fun h=>?_) (fun h=>Tot.pure ?_)
 ·have h:=leT h
  rw[zqb (show s.length<=48 by omega)]
  refine Tot.bind (Ev.of (K:=30) fun n hn=>zLf _ hn).tot fun b hb=>?_
  subst hb
  refine Tot.ite (fun h=>Tot.pure ?_) (fun h=>Tot.pure (by rw[h];rfl))
  rw[h];rfl
 ·have h:=leF h
  rw[decide_eq_false (show¬s.length<=48 by omega)];rfl
theorem index_none(c:UInt8): ∀s:List UInt8,c∉s->Lib.index s [c]= -1
 |[],_=>rfl
 |d::s,h=>by
  have h1:d≠c:=fun e=>h (by simp[e])
  rw[Lib.index,if_neg (by rw[notPre h1];simp),index_none c s fun e=>h (zqc _ e)];rfl
theorem cut_none{c:UInt8}{s:List UInt8}(h:c∉s):(Lib.cut s [c]).2.2=false:=by
 unfold Lib.cut
 rw[index_none c s h];rfl
theorem RConst_E(s:List UInt8):Tot (fun n=>zCc n s) fun b=>b=cnB s:=by
 unfold zCc
 refine Tot.ite (fun h=>Tot.pure ?_) (fun h=>?_)
 ·have h:=ltT h
  unfold cnB
  rw[decide_eq_false (show¬s.length<=48 by omega)];simp
 have h:=ltF h
 refine Tot.bind (A:=fun o=>(∀b,o=.inl b->b=cnB s)∧(∀u,o=.inr u->cnB s=false)) ?_ fun o ho=>Tot.sum (fun a ha=>ho.1 a ha) (fun b hb=>Tot.pure (ho.2 b hb).symm)
 refine Tot.loop s (fun n k (b:Unit) i=>zBh n s k i) (fun n i b x=>if eqI (x.toNat:Int) 46=true then (subC s ((i+1:Nat):Int) (s.length:Int)).bind fun s20=>(zEE n s20).bind fun v24=>((subC s 0 ((i:Nat):Int)).bind fun s26=>(zDP n s26).bind fun v30=>if v30=true then some (eqI v24.2 0) else some false:Option Bool).bind fun b33=>some (.inl (.inl b33)) else some (.inr ())) (fun _=>.inr ())
  (fun n k b i=>?_) (fun i _=>(46:UInt8)∉s.take i) _ (fun i b x hx hb=>?_) (fun b hb=>⟨fun g hg=>(by cases hg),fun u hu=>?_⟩) () (by simp)
 ·rw[zBh]
  split
  ·congr 1;funext x
   split
   ·simp only[Option.bind_assoc];rfl
   ·rfl
  ·rfl
 ·have hi:=(zq1 hx).1
  refine Tot.ite (fun hc=>?_) (fun hc=>Tot.pure ⟨fun o ho=>(by cases ho),fun b' _=>?_⟩)
  ·have hc:=eqT hc
   have hx46:x=46:=UInt8.toNat.inj (by rw[show(46:UInt8).toNat=46 from rfl];omega)
   subst hx46
   have es:s=s.take i++[46]++s.drop (i+1):=by
    have:s[i]=46:=by rw[zq2 hi] at hx;exact zqa hx
    rw[<-this];simp
   have ec:Lib.cut s [46]=(s.take i,s.drop (i+1),true):=by
    have:=cut_part 46 [] (s.drop (i+1)) (s.take i) hb
    rw[<-es] at this;exact this
   refine Tot.k (subD s (i+1) (by omega)) ?_
   refine Tot.bind (RNumber_E _) fun v hv=>?_
   subst hv
   refine Tot.bind (A:=fun b=>b=cnB s) ?_ fun b hb=>Tot.pure ⟨fun o ho=>(by cases ho;exact⟨fun b' hb'=>by cases hb';exact hb,fun u hu=>by cases hu⟩),fun b' hb'=>(by cases hb')⟩
   refine Tot.k (subT s i (by omega)) ?_
   refine Tot.bind (Ev.of (K:=30) fun n hn=>Upper_M _ hn).tot fun b hb=>?_
   subst hb
   unfold cnB
   rw[ec,zqb (show s.length<=48 by omega)]
   simp only[Bool.true_and]
   refine Tot.ite (fun h=>Tot.pure ?_) (fun h=>Tot.pure (by rw[h];rfl))
   rw[h];rfl
  ·rw[List.take_add_one,hx]
   intro hm
   rcases List.mem_append.1 hm with hm|hm
   ·exact hb hm
   ·have:=eqF hc
    simp at hm
    subst hm
    exact this rfl
 ·rw[List.take_length] at hb
  unfold cnB
  rw[cut_none hb];rfl
def labB(c:zLm):Bool:=eqI c.Op 7||eqI c.Op 8
noncomputable def nmsB (l:List (List UInt8)):Bool:=decide (l.length<=1000)&&(ascB l&&l.all lbB)
def prtI(c:zLm):Int:=if (ltI c.Op 1||ltI 13 c.Op)=true then -1 else if labB c=true then c.Names.length else if bndB c=true then 1 else if (eqI c.Op 6||eqI c.Op 12)=true then 2 else 0
theorem parts_M(c:zLm):zB4 c=some (prtI c):=by
 unfold zB4 prtI
 split
 ·rfl
 ·refine(show(zAn c).bind _=_ from ?_)
  rw[show zAn c=some (labB c) from rfl,zBH]
  split
  ·rfl
  ·rw[zGf,zBH]
   split
   ·rfl
   ·split<;>rfl
def numB(c:zLm):Bool:=if (eqI c.Op 1||eqI c.Op 3)=true then !(ltI c.N 0||ltI 20000 c.N) else eqI c.N 0
def strB(c:zLm):Bool:=if eqI c.Op 2=true then cnB c.S else eqS c.S []
def knB(c:zLm):Bool:=if (bndB c||eqI c.Op 2)=true then vK c.Kind else !(ltI 0 (c.Kind.L.length:Int))
noncomputable def nlB (c:zLm):Bool:=(labB c||eqI (c.Names.length:Int) 0)&&nmsB c.Names
noncomputable def ndB (c:zLm):Bool:=eqI (c.L.length:Int) (prtI c)&&(numB c&&(strB c&&(knB c&&nlB c)))
noncomputable def cokB (c:zLm):Bool:=ndB c&&(c.L.map cokB).all id
termination_by SizeOf.sizeOf c
decreasing_by all_goals (cases c;simp only[zLm.mk.sizeOf_spec];have:=List.sizeOf_lt_of_mem ‹_›;simp only at this;omega)
theorem cokB_eq(c:zLm):cokB c=(ndB c&&(c.L.map cokB).all id):=by rw[cokB]
theorem all_map{α:Type}(f:α->Bool)(l:List α):(l.map f).all id=l.all f:=by simp[Function.comp_def]
theorem cokB_iff{c:zLm}:cokB c=true↔ndB c=true∧∀x,x∈c.L->cokB x=true:=by
 rw[cokB_eq,all_map,zq7,List.all_eq_true]
theorem vK_E(k:zLl):Tot (fun n=>zCi n k) fun b=>b=vK k:=(Ev.of (K:=k.cnt+1) fun n hn=>kvalid_M hn).tot
theorem RvK_E(k:zLl):Tot (fun n=>zDh n k) fun b=>b=vK k:=(Ev.of (K:=k.cnt+1) fun n hn=>krefValid_M hn).tot
theorem lenI0{α:Type}(l:List α):eqI (l.length:Int) 0= !(ltI 0 (l.length:Int)):=by
 unfold eqI ltI
 rcases Nat.eq_zero_or_pos l.length with h|h
 ·rw[h];rfl
 ·rw[decide_eq_false (by omega),zqb (by omega)];rfl
theorem nmsB_nil{l:List (List UInt8)}(h: ¬ltI 0 (l.length:Int)=true):nmsB l=true:=by
 have:l=[]:=List.eq_nil_of_length_eq_zero (by
  have:ltI 0 (l.length:Int)=false:=by simpa using h
  have:=ltF this;omega)
 subst this
 unfold nmsB
 rw[asc_nil];rfl
theorem names_E(l:List (List UInt8)):Tot (fun n=>if ltI 1000 (l.length:Int)=true then some true else (zAf n l).bind fun v55=>if (!v55)=true then some true else (zAG n l).bind fun v60=>some v60) fun b=>b= !(nmsB l):=by
 unfold nmsB
 refine Tot.ite (fun h=>Tot.pure ?_) (fun h=>?_)
 ·have:=ltT h
  rw[decide_eq_false (show¬l.length<=1000 by omega)];rfl
 have:=ltF h
 rw[zqb (show l.length<=1000 by omega)]
 refine Tot.bind (Asc_E l) fun v hv=>?_
 subst hv
 rcases orTF (ascB l) with h2|h2<;>rw[h2]
 ·exact Tot.bind (Labels_E l) fun v hv=>Tot.pure hv
 ·exact Tot.pure rfl
theorem zHo(c:zLm)(pb:Bool)(hl:c.S.length<=100000)(hparts:Tot (fun n=>zAI n c.L) (fun b=>b= !pb)):
 Tot (fun fuel=>
  (if eqI c.Op 2 then
   (zBO fuel c.S).bind fun v21=>
   if !v21 then
    some true
   else
    some false
  else
   some (!(eqS c.S ([]:List UInt8))):Option Bool).bind fun b27=>
  if b27 then
   some false
  else
   ((zAx c).bind fun v30=>
   if v30 then
    some true
   else
    some (eqI c.Op 2):Option Bool).bind fun b33=>
   (if b33 then
    (zCi fuel c.Kind).bind fun v36=>
    if !v36 then
     some true
    else
     some false
   else
    some (ltI 0 (c.Kind.L.length:Int)):Option Bool).bind fun b41=>
   if b41 then
    some false
   else
    (if ltI 0 (c.Names.length:Int) then
     (zAn c).bind fun v47=>
     if !v47 then
      some true
     else if ltI 1000 (c.Names.length:Int) then
      some true
     else
      (zAf fuel c.Names).bind fun v55=>
      if !v55 then
       some true
      else
       (zAG fuel c.Names).bind fun v60=>
       some v60
    else if ltI 1000 (c.Names.length:Int) then
     some true
    else
     (zAf fuel c.Names).bind fun v67=>
     if !v67 then
      some true
     else
      (zAG fuel c.Names).bind fun v72=>
      some v72:Option Bool).bind fun b74=>
    if b74 then
     some false
    else
     ((zAI fuel) c.L).bind fun v77=>
     some (!v77)) (fun b=>b=(strB c&&(knB c&&(nlB c&&pb)))):=by
 refine Tot.bind (A:=fun b=>b= !(strB c)) ?_ (fun b hb=>?_)
 ·unfold strB
  refine Tot.ite (fun h=>?_) (fun h=>Tot.pure (by rw[h];rfl))
  rw[h]
  refine Tot.bind (Const_E _ hl) fun v hv=>?_
  subst hv
  cases cnB c.S
  ·exact Tot.pure rfl
  ·exact Tot.pure rfl
 subst hb
 cases strB c
 ·exact Tot.pure rfl
 refine Tot.bind (A:=fun b=>b=(bndB c||eqI c.Op 2)) ?_ (fun b hb=>?_)
 ·refine Tot.k (zGf c) ?_
  cases bndB c
  ·exact Tot.pure rfl
  ·exact Tot.pure rfl
 subst hb
 refine Tot.bind (A:=fun b=>b= !(knB c)) ?_ (fun b hb=>?_)
 ·unfold knB
  refine Tot.ite (fun h=>?_) (fun h=>Tot.pure (by rw[h];simp))
  rw[h]
  refine Tot.bind (vK_E _) fun v hv=>?_
  subst hv
  cases vK c.Kind
  ·exact Tot.pure rfl
  ·exact Tot.pure rfl
 subst hb
 cases knB c
 ·exact Tot.pure rfl
 refine Tot.bind (A:=fun b=>b= !(nlB c)) ?_ (fun b hb=>?_)
 ·unfold nlB
  refine Tot.ite (fun h=>?_) (fun h=>?_)
  ·refine Tot.k (a:=labB c) rfl ?_
   have h0:eqI (c.Names.length:Int) 0=false:=by rw[lenI0,h];rfl
   rw[h0]
   cases labB c
   ·exact Tot.pure rfl
   ·exact names_E c.Names
  ·have h0:eqI (c.Names.length:Int) 0=true:=by rw[lenI0,h];rfl
   rw[h0,Bool.or_true,Bool.true_and]
   exact names_E c.Names
 subst hb
 cases nlB c
 ·exact Tot.pure rfl
 refine Tot.bind hparts fun v hv=>Tot.pure ?_
 subst hv
 cases pb<;>rfl
theorem Formed_E(c:zLm):Sh c->Tot (fun n=>zCJ n c) (fun b=>b=cokB c):=by
 induction c using zCv with
 |h c ih=>
 intro hs
 have hl:=hs.here
 have hparts:Tot (fun n=>zAI n c.L) (fun b=>b= !(c.L.all cokB)):=by
  refine Tot.step (fun n=>by rw[zAI]) ?_
  refine Tot.bind (A:=fun i=>(leI 0 i=false->∀x,x∈c.L->cokB x=true)∧(leI 0 i=true->∃x,x∈c.L∧cokB x=false)) ?_ (fun v hv=>Tot.pure ?_)
  ·refine Tot.step (fun n=>by rw[zAm]) ?_
   refine zEe (P:=True) (T:=True) (Tot.index c.L (fun n k i=>zAS (zBN n) c.L k i) (fun n x=>zBN n x) (fun n k i=>by rw[zAS]) _ _ fun x hx=>?_)
   refine Tot.step (fun n=>by rw[zBN]) ?_
   exact Tot.bind (ih x hx (hs.part hx)) fun v hv=>Tot.pure ⟨fun h=>by rw[<-hv];simpa using h,fun h=>by rw[<-hv];simpa using h⟩
  ·rcases orTF (leI 0 v) with h|h
   ·obtain⟨x,h1,h2⟩:=hv.2 h
    rw[h,(show c.L.all cokB=false from ?_)]
    ·rfl
    ·rcases orTF (c.L.all cokB) with h3|h3
     ·have:=zq8 h3 x h1
      rw[h2] at this;cases this
     ·exact h3
   ·rw[h,List.all_eq_true.2 (hv.1 h)];rfl
 refine Tot.step (fun n=>by rw[zCJ]) ?_
 refine Tot.k (parts_M c) ?_
 rw[cokB_eq,all_map]
 unfold ndB
 refine Tot.ite (fun h=>Tot.pure ?_) (fun hp=>?_)
 ·rw[notT h];rfl
 rw[notF hp,Bool.true_and]
 have fin: ∀{f:Nat->Option Bool},numB c=true->Tot f (fun b=>b=(strB c&&(knB c&&(nlB c&&c.L.all cokB))))->Tot f fun b=>b=((numB c&&(strB c&&(knB c&&nlB c)))&&c.L.all cokB):=fun hn h=>h.mono fun r hr=>by
  rw[hn,hr,Bool.true_and];simp only[Bool.and_assoc]
 have bad:numB c=false->(false=((numB c&&(strB c&&(knB c&&nlB c)))&&c.L.all cokB)):=fun h=>by rw[h];rfl
 refine Tot.ite (fun ho=>?_) (fun ho=>?_)
 ·have hn:numB c= !(ltI c.N 0||ltI 20000 c.N):=by unfold numB;rw[ho];rfl
  refine Tot.ite (fun h=>Tot.pure (bad (by rw[hn,h];rfl))) (fun h=>?_)
  exact fin (by rw[hn,h];rfl) (zHo c _ hl hparts)
 ·refine Tot.ite (fun ho2=>?_) (fun ho2=>?_)
  ·have hn:numB c= !(ltI c.N 0||ltI 20000 c.N):=by unfold numB;rw[ho,ho2];rfl
   refine Tot.ite (fun h=>Tot.pure (bad (by rw[hn,h];rfl))) (fun h=>?_)
   exact fin (by rw[hn,h];rfl) (zHo c _ hl hparts)
  ·have hn:numB c=eqI c.N 0:=by unfold numB;rw[ho,ho2];rfl
   refine Tot.ite (fun h=>Tot.pure (bad (by rw[hn];simpa using h))) (fun h=>?_)
   exact fin (by rw[hn];simpa using h) (zHo c _ hl hparts)
def lmx(l:List Nat):Nat:=l.foldl max 0
theorem zJv: ∀(l:List Nat)(a k:Nat),l.foldl max a<=k↔a<=k∧∀x,x∈l->x<=k
 |[],a,k=>by simp
 |y::l,a,k=>by
  rw[List.foldl_cons,zJv l]
  constructor
  ·rintro⟨h1,h2⟩
   refine⟨by omega,fun x hx=>?_⟩
   rcases List.mem_cons.1 hx with rfl|hx
   ·omega
   ·exact h2 x hx
  ·rintro⟨h1,h2⟩
   have:=h2 y (zq9 ..)
   exact⟨by omega,fun x hx=>h2 x (zqc _ hx)⟩
theorem lmx_le{l:List Nat}{k:Nat}:lmx l<=k↔∀x,x∈l->x<=k:=by unfold lmx;rw[zJv];simp
theorem lmx_app(l:List Nat)(x:Nat):lmx (l++[x])=max (lmx l) x:=by unfold lmx;rw[List.foldl_append];rfl
def dep(c:zLm):Nat:=1+lmx (c.L.map dep)
termination_by SizeOf.sizeOf c
decreasing_by all_goals (cases c;simp only[zLm.mk.sizeOf_spec];have:=List.sizeOf_lt_of_mem ‹_›;simp only at this;omega)
theorem dep_eq(c:zLm):dep c=1+lmx (c.L.map dep):=by rw[dep]
theorem dep_le{c:zLm}{k:Nat}:dep c<=k+1↔∀x,x∈c.L->dep x<=k:=by
 rw[dep_eq]
 have:=lmx_le (l:=c.L.map dep) (k:=k)
 constructor
 ·intro h x hx
  exact this.1 (by omega) _ (List.mem_map_of_mem hx)
 ·intro h
  have:=this.2 fun y hy=>by
   obtain⟨x,hx,rfl⟩:=List.mem_map.1 hy
   exact h x hx
  omega
theorem dep_mem{c x:zLm}(h:x∈c.L):dep x+1<=dep c:=by
 have h1:1<=dep c:=by rw[dep_eq];omega
 obtain⟨k,hk⟩: ∃k,dep c=k+1:=⟨dep c-1,by omega⟩
 have:=dep_le.1 (Nat.le_of_eq hk) x h
 omega
theorem dep_csz(c:zLm):dep c<=csz c:=by
 induction c using zCv with
 |h c ih=>
 obtain⟨k,hk⟩: ∃k,csz c=k+1:=⟨csz c-1,by have:=zEv c;omega⟩
 rw[hk]
 exact dep_le.2 fun x hx=>by have:=ih x hx;have:=zCH hx;omega
theorem lmx_take(l:List zLm)(i:Nat)(x:zLm)(h:l[i]? =some x):lmx ((l.take (i+1)).map dep)=max (lmx ((l.take i).map dep)) (dep x):=by
 rw[zG6 dep _ _ _ h,lmx_app]
theorem Depth_E(c:zLm):csz c<=1000000000000->Tot (fun n=>zBc n c) (fun r=>r=dep c):=by
 induction c using zCv with
 |h c ih=>
 intro hc
 refine Tot.step (fun n=>by rw[zBc]) ?_
 have hd:=dep_csz c
 refine Tot.bind (A:=fun r=>r=(lmx (c.L.map dep):Int)) ?_ (fun a ha=>?_)
 rotate_left
 ·subst ha
  have e:=dep_eq c
  refine Tot.chk (by omega) (by omega) (Tot.pure (by omega))
 refine Tot.loop1 c.L (fun n k b i=>zBu (zBc n) c k b i) (fun n i b x=>(zBc n x).bind fun v=>some (maxI b v)) (fun b=>b)
  (fun n k b i=>by rw[zBu];simp only[Option.bind_assoc,zBH]) (fun i b=>b=(lmx ((c.L.take i).map dep):Int)) _ ?_ (fun b hb=>by rw[List.take_length] at hb;exact hb) 0 (by rfl)
 intro i b x hx hb
 have hm:=zq3 hx
 have h1:=zCH hm
 refine Tot.bind (ih x hm (by omega)) fun v hv=>Tot.pure ?_
 rw[lmx_take _ _ _ hx,hb,hv]
 unfold maxI
 split<;>omega
theorem nsize_E(c:zLm)(hc:csz c<=1000000000000):Tot (fun n=>zBQ n c) (fun r=>r=((csz c:Int),(dep c:Int))):=by
 have h2: ∀c,csz c<=1000000000000->Tot (fun n=>zBQ n c) (fun r=>r.2=(dep c:Int)):=by
  intro c
  induction c using zCv with
  |h c ih=>
  intro hc
  refine Tot.step (fun n=>by rw[zBQ]) ?_
  have hd:=dep_csz c
  refine Tot.bind (A:=fun r=>r.1=(lmx (c.L.map dep):Int)) ?_ (fun a ha=>?_)
  rotate_left
  ·have e:=dep_eq c
   exact Tot.chk (by omega) (by omega) (Tot.pure (by simp only;omega))
  refine Tot.loop1 c.L (fun n k (b:Int×Int) i=>zB1 (zBQ n) c k b.1 b.2 i) (fun n i b x=>(zBQ n x).bind fun v=>(chk .i64 (b.1+v.1)).bind fun m=>some (m,maxI b.2 v.2)) (fun b=>(b.2,b.1))
   (fun n k b i=>by rw[zB1];simp only[Option.bind_assoc,zBH]) (fun i b=>b.1=1+(((c.L.take i).map csz).sum:Nat)∧b.2=(lmx ((c.L.take i).map dep):Int)) _ ?_ (fun b hb=>by have:=hb.2;rw[List.take_length] at this;exact this) (1,0) ⟨by simp,by rfl⟩
  intro i b x hx hb
  have hm:=zq3 hx
  have h1:=zCH hm
  have h2:=zD8 csz c.L (i+1)
  have h3:=zE5 c
  obtain⟨v,hev,hv⟩:=nsize_T x (by omega)
  obtain⟨v',hev',hv'⟩:=ih x hm (by omega)
  have:=hev.uniq hev'
  subst this
  refine Tot.ev hev ?_
  rw[zBj csz _ _ _ hx] at h2 ⊢
  refine Tot.chk (by omega) (by omega) (Tot.pure ⟨by simp only;omega,?_⟩)
  rw[lmx_take _ _ _ hx,hb.2,hv']
  unfold maxI
  split<;>omega
 obtain⟨r,hev,hr⟩:=nsize_T c hc
 obtain⟨r',hev',hr'⟩:=h2 c hc
 have:=hev.uniq hev'
 subst this
 exact⟨r,hev,Prod.ext hr.1 hr'⟩
noncomputable def vcB (c:zLm):Bool:=decide (csz c<=20000)&&(decide (dep c<=400)&&cokB c)
theorem vcB_iff{c:zLm}:vcB c=true↔csz c<=20000∧dep c<=400∧cokB c=true:=by
 unfold vcB;simp only[zq7,decide_eq_true_eq]
theorem zIL(c:zLm)(h:csz c<=1000000000000)(hs:Sh c):Tot (fun n=>zA8 n c) (fun b=>b=vcB c):=by
 unfold zA8
 refine Tot.bind (A:=fun b=>b=vcB c) ?_ fun b hb=>Tot.pure hb
 unfold vcB
 refine Tot.bind (Size_T c h) fun v hv=>Tot.ite (fun hl=>?_) (fun hl=>Tot.pure ?_)
 ·have hl:=leT hl
  rw[zqb (show csz c<=20000 by omega),Bool.true_and]
  refine Tot.bind (Depth_E c h) fun d hd=>Tot.ite (fun hl=>?_) (fun hl=>Tot.pure ?_)
  ·have hl:=leT hl
   rw[zqb (show dep c<=400 by omega),Bool.true_and]
   exact Tot.bind (Formed_E c hs) fun b hb=>Tot.pure hb
  ·have hl:=leF hl
   rw[decide_eq_false (show¬dep c<=400 by omega)];rfl
 ·have hl:=leF hl
  rw[decide_eq_false (show¬csz c<=20000 by omega)];rfl
theorem vcB_Fm{c:zLm}(h:csz c<=1000000000000)(hs:Sh c)(hv:vcB c=true):Fm c∧csz c<=20000:=by
 obtain⟨b,h1,h2⟩:=zJ5 c h hs
 obtain⟨b',h3,h4⟩:=zIL c h hs
 have:=h1.uniq h3
 subst this
 exact h2 (h4.trans hv)
theorem nlB_lab{c:zLm}(h:labB c=true):nlB c=nmsB c.Names:=by unfold nlB;rw[h];rfl
theorem nlB_non{c:zLm}(h:labB c=false):nlB c=eqI (c.Names.length:Int) 0:=by
 unfold nlB
 rw[h,Bool.false_or]
 rcases orTF (eqI (c.Names.length:Int) 0) with h0|h0<;>rw[h0]
 ·rw[nmsB_nil (by rw[lenI0] at h0;simpa using h0)];rfl
 ·rfl
theorem rnode_rest(c:zLm):Tot (fun fuel=>
 (if eqI c.Op 2 then
  (zCc fuel c.S).bind fun v62=>
  if !v62 then
   some true
  else
   some false
 else
  some (!(eqS c.S ([]:List UInt8))):Option Bool).bind fun b68=>
 if b68 then
  some false
 else
  (if eqI c.Op 2 then
   some true
  else
   (zCl c.Op).bind fun v74=>
   some v74:Option Bool).bind fun b76=>
  if b76 then
   (zDh fuel c.Kind).bind fun v79=>
   some v79
  else
   some (eqI (c.Kind.L.length:Int) 0)) (fun b=>b=(strB c&&knB c)):=by
 refine Tot.bind (A:=fun b=>b= !(strB c)) ?_ (fun b hb=>?_)
 ·unfold strB
  refine Tot.ite (fun h=>?_) (fun h=>Tot.pure (by rw[h];rfl))
  rw[h]
  refine Tot.bind (RConst_E _) fun v hv=>?_
  subst hv
  cases cnB c.S
  ·exact Tot.pure rfl
  ·exact Tot.pure rfl
 subst hb
 cases strB c
 ·exact Tot.pure rfl
 refine Tot.bind (A:=fun b=>b=(bndB c||eqI c.Op 2)) ?_ (fun b hb=>?_)
 ·refine Tot.ite (fun h=>Tot.pure (by rw[h,Bool.or_true])) (fun h=>?_)
  rw[h,Bool.or_false]
  exact Tot.k (a:=bndB c) rfl (Tot.pure rfl)
 subst hb
 unfold knB
 refine Tot.ite (fun h=>?_) (fun h=>Tot.pure (by rw[h,lenI0];rfl))
 rw[h]
 exact Tot.bind (RvK_E _) fun v hv=>Tot.pure hv
theorem RNode_E(c:zLm):Tot (fun n=>zFo n c) fun b=>b=ndB c:=by
 unfold zFo
 refine Tot.ite (fun h=>Tot.pure ?_) (fun h=>?_)
 ·have e:prtI c= -1:=by unfold prtI;rw[if_pos h]
  unfold ndB
  rw[e,show eqI (c.L.length:Int) (-1)=false from decide_eq_false (by omega)];rfl
 have hp:prtI c=if labB c=true then (c.Names.length:Int) else if bndB c=true then 1 else if (eqI c.Op 6||eqI c.Op 12)=true then 2 else 0:=by unfold prtI;rw[h];rfl
 have hlab:(eqI c.Op 6||eqI c.Op 12)=true->labB c=false∧bndB c=false:=fun h=>by
  rw[Bool.or_eq_true] at h
  unfold labB bndB
  rcases h with h|h<;>rw[eqT h]<;>exact⟨rfl,rfl⟩
 have hlb:labB c=true->bndB c=false∧(eqI c.Op 6||eqI c.Op 12)=false:=fun h=>by
  unfold labB at h
  rw[Bool.or_eq_true] at h
  unfold bndB
  rcases h with h|h<;>rw[eqT h]<;>exact⟨rfl,rfl⟩
 have hr:zFM c.Op=some (if labB c=true then -1 else prtI c):=by
  unfold zFM
  rw[hp]
  rcases orTF (eqI c.Op 6||eqI c.Op 12) with h6|h6
  ·rw[h6,(hlab h6).1,(hlab h6).2];rfl
  ·rw[h6]
   rcases orTF (labB c) with hl|hl
   ·have:(eqI c.Op 7||eqI c.Op 8)=true:=hl
    rw[this,hl];rfl
   ·have:(eqI c.Op 7||eqI c.Op 8)=false:=hl
    rw[this,hl]
    simp only[Bool.false_eq_true,if_false]
    rw[show zCl c.Op=some (bndB c) from rfl,zBH]
    rcases orTF (bndB c) with hb|hb<;>rw[hb]<;>rfl
 refine Tot.k hr ?_
 refine Tot.bind (A:=fun b=>b= !(eqI (c.L.length:Int) (prtI c)&&nlB c)) ?_ (fun b hb=>?_)
 ·rcases orTF (labB c) with hl|hl
  ·rw[nlB_lab hl,hp,hl]
   refine Tot.ite (fun h=>by cases h) (fun _=>Tot.ite (fun _=>Tot.ite (fun h=>Tot.pure ?_) (fun h=>?_)) (fun h=>by cases h))
   ·rw[if_pos rfl,notT h];rfl
   ·rw[if_pos rfl,notF h]
    refine Tot.bind (RLabels_E _) fun v hv=>Tot.pure ?_
    subst hv
    unfold nmsB
    cases c.Names.all lbB<;>cases decide (c.Names.length<=1000)<;>cases ascB c.Names<;>rfl
  ·rw[nlB_non hl,hl]
   have hp0:leI 0 (prtI c)=true:=by
    rw[hp,hl]
    rcases orTF (bndB c) with hb|hb<;>rw[hb]
    ·rfl
    ·rcases orTF (eqI c.Op 6||eqI c.Op 12) with h6|h6<;>rw[h6]<;>rfl
   have hp1:ltI (prtI c) 0=false:=by
    have:=leT hp0
    exact decide_eq_false (by omega)
   simp only[Bool.false_eq_true,if_false]
   rw[hp0,hp1]
   refine Tot.ite (fun _=>Tot.ite (fun h=>Tot.pure ?_) (fun h=>Tot.ite (fun h2=>Tot.pure ?_) (fun h2=>Tot.ite (fun h=>by cases h) (fun _=>Tot.pure ?_)))) (fun h=>by cases h)
   ·rw[notT h];rfl
   ·rw[notT h2,Bool.and_false];rfl
   ·rw[notF h2,notF h];rfl
 subst hb
 unfold ndB
 rcases orTF (eqI (c.L.length:Int) (prtI c)&&nlB c) with hx|hx
 ·rw[hx]
  rw[zq7] at hx
  rw[hx.1,hx.2,Bool.and_true,Bool.true_and]
  refine Tot.ite (fun h=>by cases h) (fun _=>?_)
  unfold numB
  refine Tot.ite (fun ho=>?_) (fun ho=>?_)
  ·rw[ho]
   refine Tot.ite (fun h=>Tot.pure (by rw[h];rfl)) (fun h=>?_)
   rw[h]
   exact rnode_rest c
  ·rw[ho]
   refine Tot.ite (fun h=>Tot.pure (by rw[notT h];rfl)) (fun h=>?_)
   rw[notF h]
   exact rnode_rest c
 ·rw[hx]
  refine Tot.ite (fun _=>Tot.pure ?_) (fun h=>by cases h)
  rcases Bool.and_eq_false_iff.1 hx with h|h<;>rw[h]
  ·rfl
  ·simp
theorem RAll_E(c:zLm):Tot (fun n=>zDu n c) fun b=>b=cokB c:=by
 induction c using zCv with
 |h c ih=>
 refine Tot.step (fun n=>by rw[zDu]) ?_
 rw[cokB_eq,all_map]
 refine Tot.bind (RNode_E c) fun v hv=>?_
 subst hv
 cases ndB c
 ·exact Tot.pure rfl
 refine Tot.ite (fun h=>by cases h) (fun _=>?_)
 refine Tot.bind (Tot.scan c.L (fun n k i=>zDn (zDu n) c k i) (fun n x=>zDu n x) cokB false (fun n k i=>?_) fun x hx=>ih x hx) fun o ho=>?_
 ·rw[zDn]
  split
  ·congr 1;funext x
   congr 1;funext v
   cases v<;>rfl
  ·rfl
 ·subst ho
  rcases orTF (c.L.all cokB) with h|h<;>rw[h]
  ·exact Tot.pure rfl
  ·exact Tot.pure rfl
theorem RCount_E(c:zLm): ∀left d:Int,1<=left->left<=30000->1<=d->d<=401->
 Tot (fun n=>zCp n c left d) fun r=>((csz c:Int)<left∧(dep c:Int)+d<=401->r=csz c)∧(¬((csz c:Int)<left∧(dep c:Int)+d<=401)->r=left):=by
 induction c using zCv with
 |h c ih=>
 intro left d h1 h2 h3 h4
 refine Tot.step (fun n=>by rw[zCp]) ?_
 have hd1:1<=dep c:=by rw[dep_eq];omega
 refine Tot.ite (fun h=>?_) (fun h=>?_)
 ·have h:=ltT h
  exact Tot.pure ⟨fun hh=>by omega,fun _=>rfl⟩
 have h:=ltF h
 refine Tot.bind ?_ fun o ho=>Tot.pure ho
 refine Tot.loopG c.L (fun b=>ltI b left) (fun n k b i=>zC0 (zCp n) c left d k b i) (fun n i b x=>(chk .i64 (left-b)).bind fun m=>(chk .i64 (d+1)).bind fun e=>(zCp n x m e).bind fun v=>chk .i64 (b+v)) (fun b=>b)
  (fun n k b i=>by rw[zC0];simp only[Option.bind_assoc])
  (fun i b=>(1+(((c.L.take i).map csz).sum:Nat)<left∧(∀x,x∈c.L.take i->(dep x:Int)+(d+1)<=401)->b=1+(((c.L.take i).map csz).sum:Nat))∧(¬(1+(((c.L.take i).map csz).sum:Nat)<left∧(∀x,x∈c.L.take i->(dep x:Int)+(d+1)<=401))->b=left)) _
  (fun i b x hx hg hb=>?_) (fun i b hb hend=>?_) 1 ⟨fun _=>by simp,fun hn=>?_⟩
 ·have hg:=ltT hg
  have hm:=zq3 hx
  have hc:1+(((c.L.take i).map csz).sum:Nat)<left∧(∀x,x∈c.L.take i->(dep x:Int)+(d+1)<=401):=Classical.byContradiction fun hn=>by
   have:=hb.2 hn;omega
  have hb1:=hb.1 hc
  refine Tot.chk (by omega) (by omega) (Tot.chk (by omega) (by omega) ?_)
  refine Tot.bind (ih x hm (left-b) (d+1) (by omega) (by omega) (by omega) (by omega)) fun v hv=>?_
  have hs:=zBj csz c.L i x hx
  have hpx:=zEv x
  have hmem: ∀y,y∈c.L.take (i+1)↔y∈c.L.take i∨y=x:=fun y=>by
   rw[List.take_add_one,hx];simp
  by_cases hf:(csz x:Int)<left-b∧(dep x:Int)+(d+1)<=401
  ·have:=hv.1 hf
   refine⟨b+v,⟨0,fun n _=>zIN (by omega) (by omega)⟩,fun _=>by omega,fun hn=>(hn ⟨by omega,fun y hy=>?_⟩).elim⟩
   rcases(hmem y).1 hy with hy|rfl
   ·exact hc.2 y hy
   ·exact hf.2
  ·have:=hv.2 hf
   refine⟨b+v,⟨0,fun n _=>zIN (by omega) (by omega)⟩,fun hh=>(hf ⟨by omega,hh.2 x ((hmem x).2 (.inr rfl))⟩).elim,fun _=>by omega⟩
 ·have hcs:=zE5 c
  have hle:=zD8 csz c.L i
  by_cases hc:1+(((c.L.take i).map csz).sum:Nat)<left∧(∀x,x∈c.L.take i->(dep x:Int)+(d+1)<=401)
  ·have hb1:=hb.1 hc
   have hi:i=c.L.length:=by
    rcases hend with hi|hg
    ·exact hi
    ·have:=ltF hg;omega
   rw[hi,List.take_length] at hc hb1
   have hdc:(dep c:Int)+d<=401:=by
    have:=(dep_le (c:=c) (k:=(400-d).toNat)).2 fun x hx=>by have:=hc.2 x hx;omega
    omega
   exact⟨fun _=>by omega,fun hn=>(hn ⟨by omega,hdc⟩).elim⟩
  ·have hb1:=hb.2 hc
   refine⟨fun hh=>(hc ⟨by omega,fun x hx=>?_⟩).elim,fun _=>hb1⟩
   have:=dep_mem (List.mem_of_mem_take hx)
   omega
 ·refine Classical.byContradiction fun h5=>hn ⟨?_,fun x hx=>by simp at hx⟩
  simp only[List.take_zero,List.map_nil,List.sum_nil]
  omega
theorem zIh(c:zLm):Tot (fun n=>zCR n c) fun b=>b=vcB c:=by
 unfold zCR zF3 vcB
 refine Tot.bind (A:=fun b=>b=(decide (csz c<=20000)&&(decide (dep c<=400)&&cokB c))) ?_ fun b hb=>Tot.pure hb
 refine Tot.bind (A:=fun b=>b=(decide (csz c<=20000)&&decide (dep c<=400))) ?_ fun b hb=>?_
 ·refine Tot.bind (RCount_E c 20001 1 (by decide) (by decide) (by decide) (by decide)) fun v hv=>Tot.pure ?_
  by_cases hf:(csz c:Int)<20001∧(dep c:Int)+1<=401
  ·rw[hv.1 hf,zqb (show csz c<=20000 by omega),zqb (show dep c<=400 by omega)]
   exact zqb (by omega)
  ·rw[hv.2 hf]
   by_cases h1:csz c<=20000
   ·rw[decide_eq_false (show¬dep c<=400 by omega),Bool.and_false];rfl
   ·rw[decide_eq_false h1];rfl
 ·subst hb
  refine Tot.ite (fun h=>?_) (fun h=>Tot.pure ?_)
  ·rw[zq7] at h
   rw[h.1,h.2]
   exact Tot.bind (RAll_E c) fun v hv=>Tot.pure hv
  ·rcases Bool.and_eq_false_iff.1 h with h|h<;>rw[h]
   ·rfl
   ·simp
theorem RSize_E(c:zLm):csz c<=1000000000000->Tot (fun n=>zC1 n c) (fun r=>r=csz c):=by
 induction c using zCv with
 |h c ih=>
 intro hc
 refine Tot.step (fun n=>by rw[zC1]) ?_
 refine Tot.bind (A:=fun r=>r=(csz c:Int)) ?_ (fun a ha=>Tot.pure ha)
 refine Tot.loop1 c.L (fun n k b i=>zDM (zC1 n) c k b i) (fun n i b x=>(zC1 n x).bind fun v=>chk .i64 (b+v)) (fun b=>b)
  (fun n k b i=>by rw[zDM];simp only[Option.bind_assoc]) (fun i b=>b=1+(((c.L.take i).map csz).sum:Nat)) (fun r=>r=csz c) ?_ (fun b hb=>?_) 1 (by simp)
 ·intro i b x hx hb
  have hm:=zq3 hx
  have h1:=zCH hm
  have h2:=zD8 csz c.L (i+1)
  have h3:=zE5 c
  refine Tot.bind (ih x hm (by omega)) fun v hv=>?_
  rw[zBj csz _ _ _ hx] at h2 ⊢
  exact⟨b+v,⟨0,fun n _=>zIN (by omega) (by omega)⟩,by omega⟩
 ·rw[hb,List.take_length,zE5 c];simp
theorem All_E(l:List zLm)(h: ∀x,x∈l->csz x<=1000000000000∧Sh x):Tot (fun n=>zE6 n l) (fun b=>b=l.all vcB):=by
 unfold zE6 zA0 zBF
 refine Tot.bind (A:=fun v=>v= !(l.all vcB)) ?_ fun v hv=>Tot.pure (by rw[hv];simp)
 refine Tot.bind (zEe (Q:=fun x=>vcB x=true) (R:=fun x=>vcB x=false) (P:=True) (T:=True) (Tot.index l (fun n k i=>zAU n l k i) (fun n x=>zD2 n x) (fun n k i=>by rw[zAU]) _ _ fun x hx=>?_)) fun v hv=>Tot.pure ?_
 ·unfold zD2
  exact Tot.bind (zIL x (h x hx).1 (h x hx).2) fun v hv=>Tot.pure ⟨fun h=>by rw[<-hv];simpa using h,fun h=>by rw[<-hv];simpa using h⟩
 ·rcases orTF (leI 0 v) with h|h
  ·obtain⟨x,h1,h2⟩:=hv.2 h
   rw[h,(show l.all vcB=false from ?_)]
   ·rfl
   ·rcases orTF (l.all vcB) with h3|h3
    ·have:=zq8 h3 x h1
     rw[h2] at this;cases this
    ·exact h3
  ·rw[h,List.all_eq_true.2 (hv.1 h)];rfl
theorem replaced_E{w:zLm}{f:Nat->Option (zLm×Int)}{K:Nat}(hK:K<=1000000000000)
 (h:Tot f (fun r=> -20000<=r.2∧r.2<=20000∧csz r.1<=K∧Sh r.1∧(0<=r.2->r.1=w)∧((csz w:Int)<=20000->0<=r.2))):
 Tot (fun n=>(f n).bind fun v=>(if ltI v.2 0=true then some true else (zA8 n v.1).bind fun b=>some (!b):Option Bool).bind fun b=>if b=true then some (cZ,(6:Int)) else some (v.1,0)) (fun r=>r=if vcB w=true then (w,0) else (cZ,6)):=by
 refine Tot.bind h fun v hv=>?_
 obtain⟨w1,w2,w3,w4,w5,w6⟩:=hv
 refine Tot.bind (A:=fun b=>b= !(vcB w)∧(b=false->v.1=w)) ?_ (fun b hb=>?_)
 ·refine Tot.ite (fun h=>Tot.pure ⟨?_,fun h=>by cases h⟩) (fun h=>?_)
  ·have h:=ltT h
   rcases orTF (vcB w) with hw|hw<;>rw[hw]
   ·have:=(vcB_iff.1 hw).1
    have:=w6 (by omega)
    omega
   ·rfl
  ·have h:=ltF h
   have e:=w5 h
   refine Tot.bind (zIL v.1 (by omega) w4) fun b hb=>Tot.pure ⟨by rw[hb,e],fun _=>e⟩
 ·obtain⟨hb1,hb2⟩:=hb
  rcases orTF (vcB w) with hw|hw
  ·rw[hw] at hb1 ⊢
   subst hb1
   exact Tot.pure (by rw[hb2 rfl];rfl)
  ·rw[hw] at hb1 ⊢
   subst hb1
   exact Tot.pure rfl
theorem Subst_E(c:zLm)(l:List zLm)(hc:csz c<=1000000000000)(hs:Sh c)(hl: ∀x,x∈l->csz x<=1000000000000∧Sh x)(hv:vcB c=true)(hvl: ∀x,x∈l->vcB x=true)(hlen:l.length<=1000):
 Tot (fun n=>zDe n c l) (fun r=>r=if vcB (sbs l c 0)=true then (sbs l c 0,0) else (cZ,6)):=by
 unfold zDe
 have hf:=vcB_Fm hc hs hv
 refine Tot.bind (A:=fun b=>b=false) ?_ (fun b hb=>?_)
 ·refine Tot.bind (zIL c hc hs) fun v h=>?_
  rw[hv] at h
  subst h
  refine Tot.bind (All_E l hl) fun b hb=>Tot.pure ?_
  rw[hb,List.all_eq_true.2 hvl];rfl
 subst hb
 refine Tot.ite (fun h=>by cases h) (fun _=>Tot.ite (fun h=>by have:=ltT h;omega) (fun _=>?_))
 refine Tot.bind (A:=fun r=>r=if vcB (sbs l c 0)=true then (sbs l c 0,(0:Int)) else (cZ,6)) ?_ fun v hv=>Tot.pure hv
 unfold zBt
 refine replaced_E (K:=20000*csz c) (by omega) ((zK8 l (fun x hx=>vcB_Fm (hl x hx).1 (hl x hx).2 (hvl x hx)) (by omega) c hf.1 (by omega) 0 20000 (by omega) (by omega) (by omega) (by omega)).mono fun r hr=>?_)
 exact⟨hr.1,hr.2.1,hr.2.2.1,hr.2.2.2.1,fun h=>(hr.2.2.2.2.1 h).2.1,hr.2.2.2.2.2⟩
def occB(n:Int)(c:zLm):Bool:=if eqI c.Op 1=true then eqI c.N n else (c.L.map fun x=>occB (if bndB c=true then n+1 else n) x).any id
termination_by SizeOf.sizeOf c
decreasing_by all_goals (cases c;simp only[zLm.mk.sizeOf_spec];have:=List.sizeOf_lt_of_mem ‹_›;simp only at this;omega)
theorem occB_eq(n:Int)(c:zLm):occB n c=if eqI c.Op 1=true then eqI c.N n else c.L.any fun x=>occB (if bndB c=true then n+1 else n) x:=by
 rw[occB]
 congr 1
 simp[Function.comp_def]
theorem any_take{α:Type}(p:α->Bool)(l:List α)(i:Nat)(x:α)(h:l[i]? =some x):(l.take (i+1)).any p=((l.take i).any p||p x):=by
 rw[List.take_add_one,h];simp
theorem zII(c:zLm)(p:zLm->Bool)(L:Nat->Nat->Bool->Nat->Option Bool)(F:Nat->zLm->Bool->Option Bool)
 (hL: ∀n k b i,L n (k+1) b i=if ltI (i:Int) (c.L.length:Int)=true then (c.L[i]?).bind fun x=>(F n x b).bind fun v=>L n k v (i+1) else some b)
 (hF: ∀x,x∈c.L->∀q:Bool,Tot (fun n=>F n x q) (fun r=>r=(q||p x))) (b0:Bool):Tot (fun n=>L n n b0 0) (fun r=>r=(b0||c.L.any p)):=
 Tot.loop1 c.L L (fun n i b x=>F n x b) (fun b=>b) hL (fun i b=>b=(b0||(c.L.take i).any p)) _ (fun i b x hx hb=>(hF x (zq3 hx) b).mono fun r hr=>by rw[hr,hb,any_take p _ _ _ hx,Bool.or_assoc]) (fun b hb=>by rw[List.take_length] at hb;exact hb) b0 (by simp)
theorem each_E(y:Int)(hy:y=0∨y= -1)(c:zLm):Fm c->∀(b:Int)(q:Bool),0<=b->b+csz c<=900000->Tot (fun n=>zAM n c b 0 y q) (fun r=>r=(q||(decide (y= -1)&&occB b c))):=by
 induction c using zCv with
 |h c ih=>
 intro hf b q hb hbc
 have hok:=hf.here
 have hp:=zEv c
 have h1:=hok.n0
 have h2:=hok.n1
 refine Tot.step (fun n=>by rw[zAM]) ?_
 have hx1: ∀b',(b'=b+1∨b'=b)->∀x,x∈c.L->∀q:Bool,Tot (fun n=>zAM n x b' 0 y q) (fun r=>r=(q||(decide (y= -1)&&occB b' x))):=fun b' hb' x hx q=>ih x hx (hf.part hx) b' q (by omega) (by have:=zCH hx;omega)
 have anyc: ∀b',(c.L.any fun x=>decide (y= -1)&&occB b' x)=(decide (y= -1)&&c.L.any fun x=>occB b' x):=fun b'=>by
  cases decide (y= -1)<;>simp
 rw[occB_eq]
 refine Tot.ite (fun hl=>?_) (fun hl=>?_)
 ·have hL:=(zEI hok hl).1
  have hs1:zDJ c b 0 y q=some (q||(decide (y= -1)&&(if eqI c.Op 1=true then eqI c.N b else false))):=by
   unfold zDJ
   rw[zIN (by omega) (by omega),zBH,zIN (by omega) (by omega),zBH]
   rcases orTF (eqI c.Op 1) with ho|ho<;>rw[ho]
   ·simp only[if_true]
    rcases hy with rfl|rfl
    ·rcases orTF (leI 0 (c.N-b)) with hn|hn<;>rw[hn]
     ·have:=leT hn
      rw[if_pos rfl,zBH,if_neg (show¬ltI (c.N-b+0) 0=true from fun h=>by have:=ltT h;omega)];simp
     ·simp[zBH]
    ·rcases orTF (leI 0 (c.N-b)) with hn|hn<;>rw[hn]
     ·have:=leT hn
      rw[if_pos rfl,zBH]
      by_cases he:c.N=b
      ·rw[if_pos (show ltI (c.N-b+ -1) 0=true from zqb (by omega)),show eqI c.N b=true from zqb he];simp
      ·rw[if_neg (show¬ltI (c.N-b+ -1) 0=true from fun h=>by have:=ltT h;omega),show eqI c.N b=false from decide_eq_false he];simp
     ·have:=leF hn
      rw[show eqI c.N b=false from decide_eq_false (by omega)];simp[zBH]
   ·simp[zBH]
  have hz:(c.L.any fun x=>occB (if bndB c=true then b+1 else b) x)=false:=by rw[hL];rfl
  rw[hz]
  refine Tot.k hs1 (Tot.k (zGf c) (Tot.ite (fun _=>Tot.chk (by omega) (by omega) ?_) (fun _=>?_)))
  ·refine Tot.bind (zII c (fun x=>decide (y= -1)&&occB (b+1) x) (fun n k b' i=>zAw (zAM n) c 0 y (b+1) k b' i) _ (fun n k b' i=>by rw[zAw]) (hx1 _ (.inl rfl)) _) fun o ho=>Tot.pure ?_
   rw[ho,hL];simp
  ·refine Tot.bind (zII c (fun x=>decide (y= -1)&&occB b x) (fun n k b' i=>zAv (zAM n) c b 0 y k b' i) _ (fun n k b' i=>by rw[zAv]) (hx1 _ (.inr rfl)) _) fun o ho=>Tot.pure ?_
   rw[ho,hL];simp
 ·rw[Bool.or_eq_false_iff] at hl
  rw[hl.1]
  refine Tot.k (zGf c) (Tot.ite (fun hb2=>Tot.chk (by omega) (by omega) ?_) (fun hb2=>?_))
  ·refine Tot.bind (zII c (fun x=>decide (y= -1)&&occB (b+1) x) (fun n k b' i=>zAu (zAM n) c 0 y (b+1) k b' i) _ (fun n k b' i=>by rw[zAu]) (hx1 _ (.inl rfl)) _) fun o ho=>Tot.pure ?_
   rw[ho,anyc,hb2];rfl
  ·refine Tot.bind (zII c (fun x=>decide (y= -1)&&occB b x) (fun n k b' i=>zAt (zAM n) c b 0 y k b' i) _ (fun n k b' i=>by rw[zAt]) (hx1 _ (.inr rfl)) _) fun o ho=>Tot.pure ?_
   rw[ho,anyc,hb2];rfl
theorem Shift_E(c:zLm)(y:Int)(hy:y=0∨y= -1)(hc:csz c<=1000000000000)(hs:Sh c)(hv:vcB c=true):
 Tot (fun n=>zDD n c y 0) (fun r=>r=if (decide (y= -1)&&occB 0 c)=true then (cZ,2) else if vcB (shf 0 y c 0)=true then (shf 0 y c 0,0) else (cZ,6)):=by
 unfold zDD
 have hf:=vcB_Fm hc hs hv
 refine Tot.bind (zIL c hc hs) fun v h=>?_
 rw[hv] at h
 subst h
 refine Tot.ite (fun h=>by cases h) (fun _=>Tot.ite (fun h=>?_) (fun _=>?_))
 ·simp only[Bool.or_eq_true] at h
  rcases h with h|h|h
  ·cases h
  ·have:=ltT h;omega
  ·have:=ltT h;omega
 refine Tot.bind (each_E y hy c hf.1 0 false (by omega) (by omega)) fun b hb=>?_
 rw[Bool.false_or] at hb
 subst hb
 refine Tot.ite (fun h=>Tot.pure (by rw[h];rfl)) (fun h=>?_)
 rw[h]
 refine Tot.k rfl ?_
 refine Tot.bind (A:=fun r=>r=if vcB (shf 0 y c 0)=true then (shf 0 y c 0,(0:Int)) else (cZ,6)) ?_ fun v hv=>Tot.pure (by rw[if_neg (by simp)];exact hv)
 unfold zBd
 refine replaced_E (K:=1*csz c) (by omega) ((zJV 0 y (by omega) (by omega) c hf.1 (by omega) 0 20000 (by omega) (by omega) (by omega) (by omega)).mono fun r hr=>?_)
 exact⟨hr.1,hr.2.1,hr.2.2.1,hr.2.2.2.1,fun h=>(hr.2.2.2.2.1 h).2.1,hr.2.2.2.2.2⟩
theorem map_loop{α β:Type}(sz:Nat)(hsz:0<sz∧sz<=200)(l:List α)(hlen:l.length<=1000000)(L:Nat->Nat->List β->Nat->Option (List β))(F:Nat->α->Option β)(f:α->β)
 (hL: ∀n k b i,L n (k+1) b i=if ltI (i:Int) (l.length:Int)=true then (l[i]?).bind fun x=>(F n x).bind fun v=>(app sz b [v]).bind fun l'=>L n k l' (i+1) else some b)
 (hF: ∀x,x∈l->Tot (fun n=>F n x) fun r=>r=f x):Tot (fun n=>L n n [] 0) fun r=>r=l.map f:=by
 refine Tot.loop1 l L (fun n i b x=>(F n x).bind fun v=>app sz b [v]) (fun b=>b) (fun n k b i=>by rw[hL];simp only[Option.bind_assoc]) (fun i b=>b=(l.take i).map f∧i<=l.length) _ (fun i b x hx hb=>?_) (fun b hb=>by rw[hb.1,List.take_length]) [] ⟨by simp,by omega⟩
 have hi:=(zq1 hx).1
 refine Tot.bind (hF x (zq3 hx)) fun v hv=>?_
 subst hv
 refine⟨b++[f x],⟨0,fun n _=>zDH hsz.1 ?_⟩,?_,by omega⟩
 ·rw[hb.1]
  simp only[zq4,List.length_take,List.length_cons,List.length_nil]
  have:(min i l.length+(0+1))*sz<=1000002*200:=Nat.mul_le_mul (by omega) hsz.2
  omega
 ·rw[hb.1,zG6 f _ _ _ hx]
theorem deep_M(c:zLm)(b:Int)(h1: -1000000<=b)(h2:b<=1000000000):zCb c b=some (if bndB c=true then b+1 else b):=by
 unfold zCb
 rw[show zCl c.Op=some (bndB c) from rfl,zBH]
 cases bndB c
 ·rfl
 ·rw[if_pos rfl,if_pos rfl,zIN (by omega) (by omega),zBH]
theorem RShift_E(y:Int)(hy: -100000<=y)(hy2:y<=1000000)(c:zLm):Fm c->csz c<=1000000->∀fr b:Int,0<=b->b+csz c<=100000000->(fr=b∨(20001<=fr∧20001<=b))->Tot (fun n=>zB6 n c y fr) (fun r=>r=shf 0 y c b):=by
 induction c using zCv with
 |h c ih=>
 intro hf hc fr b hb hbc hfr
 have hok:=hf.here
 have h1:=hok.n0
 have h2:=hok.n1
 have hlc:=zIs c
 have hm:minI fr 20001=b∨(minI fr 20001=20001∧20001<=b):=by unfold minI;split<;>omega
 refine Tot.step (fun n=>by rw[zB6]) ?_
 rw[shf_eq]
 refine Tot.ite (fun ho=>?_) (fun ho=>?_)
 ·rw[ho,Bool.true_or,if_pos rfl]
  unfold zH3
  rw[ho,Bool.true_and]
  refine Tot.ite (fun h=>?_) (fun h=>?_)
  ·have h:=leT h
   rw[if_pos (show leI 0 (c.N-b)=true from zqb (by omega))]
   exact Tot.chk (by omega) (by omega) (Tot.pure rfl)
  ·have h:=leF h
   rw[if_neg (show¬leI 0 (c.N-b)=true from fun h'=>by have:=leT h';omega)]
   exact Tot.pure (zFz hok (by rw[ho];rfl)).symm
 ·refine Tot.bind (map_loop 104 (by decide) c.L (by omega) (fun n k b' i=>zC2 (zB6 n) c y fr k b' i) (fun n x=>(zCb c (minI fr 20001)).bind fun v26=>zB6 n x y v26) (fun x=>shf 0 y x (if bndB c=true then b+1 else b))
   (fun n k b' i=>by rw[zC2];simp only[Option.bind_assoc]) fun x hx=>?_) fun o ho'=>?_
  ·have hcx:=zCH hx
   refine Tot.k (deep_M c _ (by omega) (by omega)) ?_
   refine ih x hx (hf.part hx) (by omega) _ _ (by split<;>omega) (by split<;>omega) ?_
   split<;>omega
  ·subst ho'
   refine Tot.k rfl (Tot.pure ?_)
   rcases orTF (eqI c.Op 2) with h2|h2
   ·have hlf:(eqI c.Op 1||eqI c.Op 2)=true:=by rw[h2,Bool.or_true]
    rw[if_pos hlf]
    have:=zEI hok hlf
    unfold zH3
    rw[if_neg (show¬(eqI c.Op 1&&leI 0 (c.N-b))=true by rw[ho];simp),zFz hok hlf,this.1,List.map_nil]
    conv=>rhs;rw[<-zLZ c,this.1]
   ·rw[if_neg (show¬(eqI c.Op 1||eqI c.Op 2)=true by rw[ho,h2];simp)]
theorem csz_sbs(l:List zLm)(hl: ∀x,x∈l->Fm x∧csz x<=20000)(c:zLm):Fm c->∀b,csz (sbs l c b)<=20000*csz c:=by
 induction c using zCv with
 |h c ih=>
 intro hf b
 have hp:=zEv c
 rw[sbs_eq]
 split
 ·unfold zKt
  split
  ·show csz (cLeaf c)<=_
   rw[cLeaf,zFh];omega
  ·rename_i h1
   split
   ·show csz (cVar _)<=_
    rw[cVar,zFh];omega
   ·rename_i h2
    have h1:(!(eqI c.Op 1)||ltI (c.N-b) 0)=false:=by simpa using h1
    rw[Bool.or_eq_false_iff] at h1
    have h2:leI (l.length:Int) (c.N-b)=false:=by simpa using h2
    obtain⟨x,hx,e1,e2⟩:=idxI l (c.N-b) (ltF h1.2) (leF h2)
    have:=hl x hx
    rw[e2,Option.getD_some,csz_shf 0 b x this.1 0];omega
 ·rw[zE5,zE5 c,List.map_map]
  have h1:((c.L.map (csz∘fun x=>sbs l x (if bndB c=true then b+1 else b))).sum)<=20000*(c.L.map csz).sum:=by
   have: ∀L:List zLm,(∀x,x∈L->csz (sbs l x (if bndB c=true then b+1 else b))<=20000*csz x)->(L.map (csz∘fun x=>sbs l x (if bndB c=true then b+1 else b))).sum<=20000*(L.map csz).sum:=by
    intro L
    induction L with
    |nil=>simp
    |cons x L ihL=>
     intro h
     have h1:=h x (zq9 ..)
     have h2:=ihL fun y hy=>h y (zqc _ hy)
     simp only[List.map_cons,List.sum_cons,Function.comp_apply,Nat.mul_add]
     omega
   exact this c.L fun x hx=>ih x hx (hf.part hx) _
  omega
theorem RSubst_E(l:List zLm)(hl: ∀x,x∈l->Fm x∧csz x<=20000)(hll:l.length<=1000)(c:zLm):Fm c->csz c<=1000000->∀b:Int,0<=b->b+csz c<=1000000->Tot (fun n=>zCo n c l b) (fun r=>r=sbs l c b):=by
 induction c using zCv with
 |h c ih=>
 intro hf hc b hb hbc
 have hok:=hf.here
 have h1:=hok.n0
 have h2:=hok.n1
 have hlc:=zIs c
 refine Tot.step (fun n=>by rw[zCo]) ?_
 rw[sbs_eq]
 refine Tot.ite (fun ho=>?_) (fun ho=>?_)
 ·rw[ho,Bool.true_or,if_pos rfl]
  unfold zKt
  rw[ho]
  refine Tot.ite (fun h=>?_) (fun h=>?_)
  ·have h:=ltT h
   rw[if_pos (show(!true||ltI (c.N-b) 0)=true by rw[show ltI (c.N-b) 0=true from zqb (by omega)];rfl)]
   exact Tot.pure (zFz hok (by rw[ho];rfl)).symm
  ·have h:=ltF h
   rw[if_neg (show¬(!true||ltI (c.N-b) 0)=true by rw[show ltI (c.N-b) 0=false from decide_eq_false (by omega)];simp)]
   refine Tot.chk (by omega) (by omega) (Tot.ite (fun h=>?_) (fun h=>?_))
   ·have h:=ltT h
    obtain⟨x,hx,e1,e2⟩:=idxI l (c.N-b) (by omega) h
    rw[if_neg (show¬leI (l.length:Int) (c.N-b)=true from fun h'=>by have:=leT h';omega),e2]
    refine Tot.k e1 ?_
    exact Tot.bind (RShift_E b (by omega) (by omega) x (hl x hx).1 (by have:=(hl x hx).2;omega) 0 0 (by omega) (by have:=(hl x hx).2;omega) (.inl rfl)) fun v hv=>Tot.pure hv
   ·have h:=ltF h
    rw[if_pos (show leI (l.length:Int) (c.N-b)=true from zqb h)]
    exact Tot.chk (by omega) (by omega) (Tot.pure rfl)
 ·refine Tot.bind (map_loop 104 (by decide) c.L (by omega) (fun n k b' i=>zCz (zCo n) c l b k b' i) (fun n x=>(zCb c b).bind fun v26=>zCo n x l v26) (fun x=>sbs l x (if bndB c=true then b+1 else b))
   (fun n k b' i=>by rw[zCz];simp only[Option.bind_assoc]) fun x hx=>?_) fun o ho'=>?_
  ·have hcx:=zCH hx
   refine Tot.k (deep_M c _ (by omega) (by omega)) ?_
   exact ih x hx (hf.part hx) (by omega) _ (by split<;>omega) (by split<;>omega)
  ·subst ho'
   refine Tot.k rfl (Tot.pure ?_)
   rcases orTF (eqI c.Op 2) with h2|h2
   ·have hlf:(eqI c.Op 1||eqI c.Op 2)=true:=by rw[h2,Bool.or_true]
    rw[if_pos hlf]
    have:=zEI hok hlf
    unfold zKt
    rw[if_pos (show(!(eqI c.Op 1)||ltI (c.N-b) 0)=true by rw[ho];rfl),zFz hok hlf,this.1,List.map_nil]
    conv=>rhs;rw[<-zLZ c,this.1]
   ·rw[if_neg (show¬(eqI c.Op 1||eqI c.Op 2)=true by rw[ho,h2];simp)]
theorem RGrown_E(l:List zLm)(hl: ∀x,x∈l->Fm x∧csz x<=20000)(hll:l.length<=1000)(c:zLm)(hf:Fm c)(hc:csz c<=100000):Tot (fun n=>zEg n c l) (fun r=>r=csz (sbs l c 0)):=by
 unfold zEg
 refine Tot.bind (map_loop 8 (by decide) l (by omega) (fun n k b' i=>zC4 n l k b' i) (fun n x=>zC1 n x) (fun x=>(csz x:Int))
  (fun n k b' i=>by rw[zC4]) fun x hx=>RSize_E x (by have:=(hl x hx).2;omega)) fun o ho=>?_
 subst ho
 have key: ∀c:zLm,Fm c->csz c<=100000->∀b:Int,0<=b->b+csz c<=1000000->Tot (fun n=>zB5 n c (l.map fun x=>(csz x:Int)) b) (fun r=>r=csz (sbs l c b)):=by
  intro c
  induction c using zCv with
  |h c ih=>
  intro hf hc b hb hbc
  have hok:=hf.here
  have h1:=hok.n0
  have h2:=hok.n1
  have hlc:=zIs c
  refine Tot.step (fun n=>by rw[zB5]) ?_
  rw[sbs_eq]
  have hlen:((l.map fun x=>(csz x:Int)).length:Int)=l.length:=by simp
  have one:(eqI c.Op 1||eqI c.Op 2)=true->∀z:zLm,csz z=1->Tot (fun n=>(zBe (zB5 n) c (l.map fun x=>(csz x:Int)) b n 1 0).bind fun o29=>some o29) (fun r=>r=csz z):=fun hlf z hz=>by
   have hL:=(zEI hok hlf).1
   refine⟨1,⟨1,fun n hn=>?_⟩,by rw[hz];rfl⟩
   obtain⟨k,rfl⟩: ∃q,n=q+1:=⟨n-1,by omega⟩
   show(zBe (zB5 (k+1)) c _ b (k+1) 1 0).bind _=some 1
   rw[zBe,hL];rfl
  refine Tot.bind (A:=fun q=>q=(eqI c.Op 1&&(leI b c.N&&ltI (c.N-b) (l.length:Int)))) ?_ fun q hq=>?_
  ·refine Tot.ite (fun ho=>?_) (fun ho=>Tot.pure (by rw[ho];rfl))
   rw[ho]
   refine Tot.ite (fun h=>?_) (fun h=>Tot.pure (by rw[h];rfl))
   rw[h]
   exact Tot.chk (by omega) (by omega) (Tot.pure (by rw[hlen];rfl))
  subst hq
  rcases orTF (eqI c.Op 1) with ho|ho
  ·rw[ho,Bool.true_or,if_pos rfl,Bool.true_and]
   unfold zKt
   rw[ho]
   have hlf:(eqI c.Op 1||eqI c.Op 2)=true:=by rw[ho];rfl
   rcases orTF (leI b c.N) with hn|hn
   ·have hn':=leT hn
    rw[if_neg (show¬(!true||ltI (c.N-b) 0)=true by rw[show ltI (c.N-b) 0=false from decide_eq_false (by omega)];simp)]
    rw[hn,Bool.true_and]
    refine Tot.ite (fun h=>?_) (fun h=>?_)
    ·have h:=ltT h
     obtain⟨x,hx,e1,e2⟩:=idxI l (c.N-b) (by omega) h
     rw[if_neg (show¬leI (l.length:Int) (c.N-b)=true from fun h'=>by have:=leT h';omega),e2,Option.getD_some,csz_shf 0 b x (hl x hx).1 0]
     refine Tot.chk (by omega) (by omega) (Tot.k (a:=(csz x:Int)) ?_ (Tot.pure rfl))
     rw[idx,if_pos (by omega),List.getElem?_map,e2];rfl
    ·have h:=ltF h
     rw[if_pos (show leI (l.length:Int) (c.N-b)=true from zqb h)]
     exact one hlf _ (zFh _ _ _ _ _)
   ·have hn':=leF hn
    rw[if_pos (show(!true||ltI (c.N-b) 0)=true by rw[show ltI (c.N-b) 0=true from zqb (by omega)];rfl)]
    rw[hn]
    exact one hlf _ (zFh _ _ _ _ _)
  ·rw[ho,Bool.false_or,Bool.false_and]
   refine Tot.ite (fun h=>by cases h) (fun _=>?_)
   rcases orTF (eqI c.Op 2) with h2|h2<;>rw[h2]
   ·rw[if_pos rfl]
    unfold zKt
    rw[ho,if_pos (by rfl)]
    exact one (by rw[h2,Bool.or_true]) _ (zFh _ _ _ _ _)
   ·rw[if_neg (by simp)]
    have hcs:csz (zLm.mk c.Op c.N c.S c.Kind c.Names (c.L.map fun x=>sbs l x (if bndB c=true then b+1 else b)))=1+(c.L.map fun x=>csz (sbs l x (if bndB c=true then b+1 else b))).sum:=by
     rw[zE5,List.map_map];rfl
    have htot:csz (zLm.mk c.Op c.N c.S c.Kind c.Names (c.L.map fun x=>sbs l x (if bndB c=true then b+1 else b)))<=20000*csz c:=by
     have:=csz_sbs l hl c hf b
     rw[sbs_eq,ho,h2,if_neg (by simp)] at this;exact this
    rw[hcs] at htot ⊢
    refine Tot.bind (A:=fun r=>r=((1+(c.L.map fun x=>csz (sbs l x (if bndB c=true then b+1 else b))).sum:Nat):Int)) ?_ fun v hv=>Tot.pure (by rw[hv])
    refine Tot.loop1 c.L (fun n k b' i=>zBe (zB5 n) c (l.map fun x=>(csz x:Int)) b k b' i) (fun n i b' x=>(zCb c b).bind fun v38=>(zB5 n x (l.map fun x=>(csz x:Int)) v38).bind fun v40=>chk .i64 (b'+v40)) (fun b=>b)
     (fun n k b' i=>by rw[zBe];simp only[Option.bind_assoc]) (fun i b'=>b'=((1+((c.L.take i).map fun x=>csz (sbs l x (if bndB c=true then b+1 else b))).sum:Nat):Int)) _ (fun i b' x hx hb'=>?_) (fun b' hb'=>by rw[hb',List.take_length]) 1 (by simp)
    have hm:=zq3 hx
    have hcx:=zCH hm
    have h3:=zD8 (fun x=>csz (sbs l x (if bndB c=true then b+1 else b))) c.L (i+1)
    have h4:=zBj (fun x=>csz (sbs l x (if bndB c=true then b+1 else b))) c.L i x hx
    refine Tot.k (deep_M c _ (by omega) (by omega)) ?_
    refine Tot.bind (ih x hm (hf.part hm) (by omega) (if bndB c=true then b+1 else b) (by split<;>omega) (by split<;>omega)) fun v hv=>?_
    exact⟨b'+v,⟨0,fun n _=>zIN (by omega) (by omega)⟩,by omega⟩
 exact Tot.bind (key c hf hc 0 (by omega) (by omega)) fun v hv=>Tot.pure hv
theorem Occurs_E(c:zLm): ∀m:Int,-1000000000<=m->m+csz c<=1000000000->Tot (fun n=>zCq n c m) (fun b=>b=occB m c):=by
 induction c using zCv with
 |h c ih=>
 intro m hm hc
 have hp:=zEv c
 have key: ∀q:Int,-1000000000<=q->q<=m+1->Tot (fun n=>zAa n c.L q) (fun b=>b=c.L.any fun x=>occB q x):=fun q h1 h2=>by
  refine Tot.step (fun n=>by rw[zAa]) ?_
  refine Tot.bind (A:=fun i=>(leI 0 i=false->∀x,x∈c.L->occB q x=false)∧(leI 0 i=true->∃x,x∈c.L∧occB q x=true)) ?_ (fun v hv=>Tot.pure ?_)
  ·refine Tot.step (fun n=>by rw[zAz]) ?_
   refine zEe (P:=True) (T:=True) (Tot.index c.L (fun n k i=>zAZ (zB7 n) c.L q k i) (fun n x=>zB7 n x q) (fun n k i=>by rw[zAZ]) _ _ fun x hx=>?_)
   refine Tot.step (fun n=>by rw[zB7]) ?_
   exact Tot.bind (ih x hx q h1 (by have:=zCH hx;omega)) fun v hv=>Tot.pure ⟨fun h=>by rw[<-hv];exact h,fun h=>by rw[<-hv];exact h⟩
  ·rcases orTF (leI 0 v) with h|h<;>rw[h]
   ·obtain⟨x,h1,h2⟩:=hv.2 h
    exact(List.any_eq_true.2 ⟨x,h1,h2⟩).symm
   ·rcases orTF (c.L.any fun x=>occB q x) with h3|h3<;>rw[h3]
    obtain⟨x,h4,h5⟩:=List.any_eq_true.1 h3
    rw[hv.1 h x h4] at h5;cases h5
 rw[occB_eq]
 refine Tot.step (fun n=>by rw[zCq]) ?_
 refine Tot.ite (fun h=>Tot.pure (by rw[h];rfl)) (fun h=>?_)
 rw[h]
 refine Tot.k (a:=bndB c) rfl (Tot.ite (fun hb=>Tot.chk (by omega) (by omega) ?_) (fun hb=>?_))
 ·rw[hb];exact Tot.bind (key (m+1) (by omega) (by omega)) fun v hv=>Tot.pure hv
 ·rw[hb];exact Tot.bind (key m (by omega) (by omega)) fun v hv=>Tot.pure hv
theorem Add_E(l:List Int)(v:Int)(hl:l.length<=1000000):Tot (fun n=>zGL n l v) (fun r=>(∀k,k∈r↔k=v∨k∈l)∧r.length<=l.length+1):=by
 unfold zGL
 refine Tot.bind (Tot.loop1 l (fun n k (b:List Int×Bool) i=>zCK l v k b.1 b.2 i)
  (fun n i b x=>if (!b.2&&leI v x)=true then (app 8 b.1 [v]).bind fun l21=>if (!(eqI x v))=true then (app 8 l21 [x]).bind fun l30=>some (l30,true) else some (l21,true) else if (!(eqI x v))=true then (app 8 b.1 [x]).bind fun l30=>some (l30,b.2) else some (b.1,b.2)) (fun b=>b)
  (fun n k b i=>?_) (fun i b=>i<=l.length∧(∀k,k∈b.1↔(b.2=true∧k=v)∨(k≠v∧k∈l.take i))∧b.1.length<=i+(if b.2=true then 1 else 0)∧(b.2=false->v∉l.take i))
  (fun b=>(∀k,k∈b.1↔(b.2=true∧k=v)∨(k≠v∧k∈l))∧b.1.length<=l.length+(if b.2=true then 1 else 0)∧(b.2=false->v∉l)) (fun i b x hx hb=>?_) (fun b hb=>by obtain⟨_,h1,h2,h3⟩:=hb;rw[List.take_length] at h1 h3;exact⟨h1,h2,h3⟩) ([],false) ⟨by omega,by simp,by simp,by simp⟩) fun o ho=>?_
 ·rw[zCK]
  split
  ·rename_i hi
   have hi:=ltT hi
   rw[zq2 (show i<l.length by omega)]
   simp only[zBH]
   cases b.2 with
   |true=>
    simp only[Bool.not_true,Bool.false_eq_true,if_false,Bool.false_and,zBH]
    split<;>simp only[Option.bind_assoc,zBH]
   |false=>
    simp only[Bool.not_false,if_true,Bool.true_and,zBH]
    split
    ·simp only[Option.bind_assoc]
     congr 1;funext l21
     split<;>simp only[Option.bind_assoc,zBH]
    ·split<;>simp only[Option.bind_assoc,zBH]
  ·rfl
 ·obtain⟨h0,h1,h2,h3⟩:=hb
  have hi:=(zq1 hx).1
  have hmem: ∀k,k∈l.take (i+1)↔k∈l.take i∨k=x:=fun k=>by rw[List.take_add_one,hx];simp
  have hlen:b.1.length<=i+1:=by split at h2<;>omega
  refine Tot.ite (fun hc=>?_) (fun hc=>?_)
  ·rw[zq7] at hc
   have hb2:b.2=false:=by simpa using hc.1
   have h4:=leT hc.2
   rw[hb2] at h1 h2
   refine Tot.k (a:=b.1++[v]) (zDH (by decide) (by simp;omega)) (Tot.ite (fun he=>?_) (fun he=>?_))
   ·have he:=eqF (notT he)
    refine Tot.k (a:=b.1++[v]++[x]) (zDH (by decide) (by simp;omega)) (Tot.pure ⟨by omega,fun k=>?_,by simp at h2 ⊢;omega,fun h=>by cases h⟩)
    simp only[List.mem_append,List.mem_singleton,h1,hmem,true_and,Bool.false_eq_true,false_and,false_or]
    constructor
    ·rintro((⟨a,b⟩|a)|a)
     ·exact .inr ⟨a,.inl b⟩
     ·exact .inl a
     ·exact .inr ⟨by rw[a];exact he,.inr a⟩
    ·rintro(a|⟨a,b|b⟩)
     ·exact .inl (.inr a)
     ·exact .inl (.inl ⟨a,b⟩)
     ·exact .inr b
   ·have he:=eqT (notF he)
    refine Tot.pure ⟨by omega,fun k=>?_,by simp at h2 ⊢;omega,fun h=>by cases h⟩
    simp only[List.mem_append,List.mem_singleton,h1,hmem,true_and,Bool.false_eq_true,false_and,false_or]
    constructor
    ·rintro(⟨a,b⟩|a)
     ·exact .inr ⟨a,.inl b⟩
     ·exact .inl a
    ·rintro(a|⟨a,b|b⟩)
     ·exact .inr a
     ·exact .inl ⟨a,b⟩
     ·exact absurd (b.trans he) a
  ·refine Tot.ite (fun he=>?_) (fun he=>?_)
   ·have he:=eqF (notT he)
    refine Tot.k (a:=b.1++[x]) (zDH (by decide) (by simp;omega)) (Tot.pure ⟨by omega,fun k=>?_,by simp;omega,fun h=>?_⟩)
    ·simp only[List.mem_append,List.mem_singleton,h1,hmem]
     constructor
     ·rintro((a|⟨a,b⟩)|a)
      ·exact .inl a
      ·exact .inr ⟨a,.inl b⟩
      ·exact .inr ⟨by rw[a];exact he,.inr a⟩
     ·rintro(a|⟨a,b|b⟩)
      ·exact .inl (.inl a)
      ·exact .inl (.inr ⟨a,b⟩)
      ·exact .inr b
    ·rw[hmem]
     rintro(a|a)
     ·exact h3 h a
     ·exact he a.symm
   ·have he:=eqT (notF he)
    have hb2:b.2=true:=by
     cases hb:b.2 with
     |true=>rfl
     |false=>
      rw[hb] at hc
      have:=leF (by simpa using hc)
      omega
    refine Tot.pure ⟨by omega,fun k=>?_,by simp only;omega,fun h=>by simp only at h;rw[hb2] at h;cases h⟩
    simp only[h1,hmem,hb2,true_and]
    constructor
    ·rintro(a|⟨a,b⟩)
     ·exact .inl a
     ·exact .inr ⟨a,.inl b⟩
    ·rintro(a|⟨a,b|b⟩)
     ·exact .inl a
     ·exact .inr ⟨a,b⟩
     ·exact absurd (b.trans he) a
 ·obtain⟨h1,h2,h3⟩:=ho
  refine Tot.ite (fun h=>?_) (fun h=>?_)
  ·have hb:=notT h
   rw[hb] at h1 h2
   refine Tot.k (a:=o.1++[v]) (zDH (by decide) (by simp at h2 ⊢;omega)) (Tot.pure ⟨fun k=>?_,by simp at h2 ⊢;omega⟩)
   simp only[List.mem_append,List.mem_singleton,h1,Bool.false_eq_true,false_and,false_or]
   constructor
   ·rintro(⟨_,a⟩|a)
    ·exact .inr a
    ·exact .inl a
   ·rintro(a|a)
    ·exact .inr a
    ·by_cases e:k=v
     ·exact .inr e
     ·exact .inl ⟨e,a⟩
  ·have hb:=notF h
   rw[hb] at h1 h2
   refine Tot.pure ⟨fun k=>?_,by simpa using h2⟩
   simp only[h1,true_and]
   constructor
   ·rintro(a|⟨_,a⟩)
    ·exact .inl a
    ·exact .inr a
   ·rintro(a|a)
    ·exact .inl a
    ·by_cases e:k=v
     ·exact .inl e
     ·exact .inr ⟨e,a⟩
theorem Free_E(c:zLm):Fm c->∀(l:List Int)(d:Int),0<=d->d+csz c<=1000000->l.length+csz c<=1000000->Tot (fun n=>zDL n l c d) (fun r=>(∀k,k∈r↔k∈l∨(0<=k∧occB (k+d) c=true))∧r.length<=l.length+csz c):=by
 induction c using zCv with
 |h c ih=>
 intro hf l d hd hdc hl
 have hok:=hf.here
 have h1:=hok.n0
 have h2:=hok.n1
 have hp:=zEv c
 refine Tot.step (fun n=>by rw[zDL]) ?_
 refine Tot.ite (fun h=>?_) (fun h=>?_)
 ·rw[zq7] at h
  have h4:=leT h.2
  refine Tot.chk (by omega) (by omega) (Tot.bind (Add_E l (c.N-d) (by omega)) fun v hv=>Tot.pure ⟨fun k=>?_,by have:=hv.2;omega⟩)
  rw[hv.1,occB_eq,if_pos h.1]
  constructor
  ·rintro(rfl|a)
   ·exact .inr ⟨by omega,zqb (by omega)⟩
   ·exact .inl a
  ·rintro(a|⟨a,b⟩)
   ·exact .inr a
   ·have:=eqT b;exact .inl (by omega)
 ·refine Tot.bind (A:=fun r=>(∀k,k∈r↔k∈l∨(0<=k∧c.L.any (fun x=>occB (if bndB c=true then k+d+1 else k+d) x)=true))∧r.length<=l.length+csz c) ?_ fun o ho=>Tot.pure ⟨fun k=>?_,ho.2⟩
  ·refine Tot.loop1 c.L (fun n k b i=>zDK (zDL n) c d k b i) (fun n i b x=>(zCb c d).bind fun v31=>zDL n b x v31) (fun b=>b) (fun n k b i=>by rw[zDK];simp only[Option.bind_assoc])
    (fun i b=>(∀k,k∈b↔k∈l∨(0<=k∧(c.L.take i).any (fun x=>occB (if bndB c=true then k+d+1 else k+d) x)=true))∧b.length<=l.length+((c.L.take i).map csz).sum) _ (fun i b x hx hb=>?_) (fun b hb=>?_) l ⟨by simp,by simp⟩
   ·have hm:=zq3 hx
    have hcx:=zCH hm
    have hs:=zBj csz c.L i x hx
    have hs2:=zD8 csz c.L (i+1)
    have hce:=zE5 c
    refine Tot.k (deep_M c d (by omega) (by omega)) ((ih x hm (hf.part hm) b (if bndB c=true then d+1 else d) (by split<;>omega) (by split<;>omega) (by have:=hb.2;omega)).mono fun r hr=>⟨fun k=>?_,by have:=hb.2;have:=hr.2;omega⟩)
    rw[hr.1,hb.1,any_take _ _ _ _ hx,Bool.or_eq_true]
    have e:k+(if bndB c=true then d+1 else d)=if bndB c=true then k+d+1 else k+d:=by split<;>omega
    rw[e]
    constructor
    ·rintro((a|⟨a,b⟩)|⟨a,b⟩)
     ·exact .inl a
     ·exact .inr ⟨a,.inl b⟩
     ·exact .inr ⟨a,.inr b⟩
    ·rintro(a|⟨a,b|b⟩)
     ·exact .inl (.inl a)
     ·exact .inl (.inr ⟨a,b⟩)
     ·exact .inr ⟨a,b⟩
   ·rw[List.take_length] at hb
    exact⟨hb.1,by have:=hb.2;have:=zE5 c;omega⟩
  ·rw[ho.1,occB_eq]
   rcases orTF (eqI c.Op 1) with ho|ho<;>rw[ho]
   ·rw[ho,Bool.true_and] at h
    have h:=leF h
    have hL:=(zEI hok (by rw[ho];rfl)).1
    rw[hL,if_pos rfl]
    constructor
    ·rintro(a|⟨a,b⟩)
     ·exact .inl a
     ·cases b
    ·rintro(a|⟨a,b⟩)
     ·exact .inl a
     ·have:=eqT b;omega
   ·rw[if_neg (show¬(false=true) by simp)]
theorem ROccurs_E(c:zLm)(hf:Fm c)(hc:csz c<=500000):Tot (fun n=>zEr n c 0) (fun b=>b=occB 0 c):=by
 unfold zEr zGj
 refine Tot.bind (A:=fun r=>(∀k,k∈r↔(0<=k∧occB (k+0) c=true))) ?_ fun l hl=>?_
 ·exact Tot.bind (Free_E c hf [] 0 (by decide) (by omega) (by simp;omega)) fun v hv=>Tot.pure fun k=>by rw[hv.1];simp
 refine Tot.bind (A:=fun o=>(∀a,o=.inl a->a=true∧(0:Int)∈l)∧(∀u,o=.inr u->(0:Int)∉l)) ?_ fun o ho=>Tot.sum (fun a ha=>?_) (fun b hb=>Tot.pure ?_)
 ·refine Tot.loop l (fun n k (b:Unit) i=>zCZ 0 l k i) (fun n i b x=>if eqI x 0=true then some (.inl (.inl true)) else some (.inr ())) (fun _=>.inr ()) (fun n k b i=>?_) (fun i _=>(0:Int)∉l.take i) _ (fun i b x hx hb=>?_) (fun b hb=>⟨fun a ha=>(by cases ha),fun u _=>by rw[List.take_length] at hb;exact hb⟩) () (by simp)
  ·rw[zCZ]
   split
   ·congr 1;funext x
    split<;>rfl
   ·rfl
  ·refine Tot.ite (fun h=>Tot.pure ⟨fun o ho=>?_,fun b' hb'=>(by cases hb')⟩) (fun h=>Tot.pure ⟨fun o ho=>(by cases ho),fun b' _=>?_⟩)
   ·have h:=eqT h
    cases ho
    exact⟨fun a ha=>by cases ha;exact⟨rfl,by rw[<-h];exact zq3 hx⟩,fun u hu=>by cases hu⟩
   ·have h:=eqF h
    rw[List.take_add_one,hx]
    intro hm
    rcases List.mem_append.1 hm with hm|hm
    ·exact hb hm
    ·simp at hm;exact h hm.symm
 ·obtain⟨h1,h2⟩:=ho.1 a ha
  have:=(hl 0).1 h2
  rw[h1,<-this.2];rfl
 ·have:=ho.2 b hb
  rcases orTF (occB 0 c) with h|h<;>rw[h]
  exact absurd ((hl 0).2 ⟨by decide,h⟩) this
def etaB(c:zLm):Bool:=eqI c.Op 11&&(match c.L[0]? with
 |none=>false
 |some x=>eqI x.Op 12&&(match x.L[0]?,x.L[1]? with
  |some f,some a=>eqI a.Op 1&&(eqI a.N 0&& !(occB 0 f))
  |_,_=>false))
theorem eta_lens{c:zLm}(hf:Fm c)(h:c.Op=11): ∃x,c.L[0]? =some x∧x∈c.L∧(x.Op=12->∃f a,x.L[0]? =some f∧x.L[1]? =some a∧f∈x.L∧a∈x.L):=by
 obtain⟨x,hx,hm⟩:=at0 (l:=c.L) (by rw[hf.here.len.1 (by omega)];omega)
 refine⟨x,hx,hm,fun ho=>?_⟩
 have h2:=(hf.part hm).here.len.2.1 (by omega)
 obtain⟨y,hy,hym⟩:=at0 (l:=x.L) (by omega)
 obtain⟨z,hz,hzm⟩:=at1 (l:=x.L) (by omega)
 exact⟨y,z,hy,hz,hym,hzm⟩
theorem etaB_no{c:zLm}(h:eqI c.Op 11=false):etaB c=false:=by unfold etaB;rw[h];rfl
theorem etaB_x{c x:zLm}(hx:c.L[0]? =some x)(h:eqI x.Op 12=false):etaB c=false:=by
 unfold etaB;rw[hx];simp only[h,Bool.false_and,Bool.and_false]
theorem etaB_y{c x f a:zLm}(ho:eqI c.Op 11=true)(hx:c.L[0]? =some x)(h:eqI x.Op 12=true)(hf:x.L[0]? =some f)(ha:x.L[1]? =some a):etaB c=(eqI a.Op 1&&(eqI a.N 0&& !(occB 0 f))):=by
 unfold etaB;rw[hx];simp only[ho,h,hf,ha,Bool.true_and]
theorem Eta_E(c:zLm)(hf:Fm c)(hc:csz c<=20000):Tot (fun n=>zE9 n c) (fun b=>b=etaB c):=by
 unfold zE9
 rcases orTF (eqI c.Op 11) with ho|ho
 ·obtain⟨x,hx,hm,h12⟩:=eta_lens hf (eqT ho)
  rcases orTF (eqI x.Op 12) with h2|h2
  ·obtain⟨f,a,hfx,hax,hfm,ham⟩:=h12 (eqT h2)
   rw[etaB_y ho hx h2 hfx hax]
   refine Tot.k (a:=false) (by rw[ho,hx,if_neg (by decide),zBH,h2];rfl) (Tot.k hx (Tot.k hfx (Tot.k hax ?_)))
   refine Tot.bind (A:=fun b=>b=(eqI a.Op 1&&(eqI a.N 0&& !(occB 0 f)))) ?_ fun b hb=>Tot.pure hb
   refine Tot.ite (fun h=>?_) (fun h=>Tot.pure (by rw[h];rfl))
   rw[h]
   refine Tot.ite (fun h=>?_) (fun h=>Tot.pure (by rw[h];rfl))
   rw[h]
   exact Tot.bind (Occurs_E f 0 (by omega) (by have:=zCH hfm;have:=zCH hm;omega)) fun v hv=>Tot.pure (by rw[hv];rfl)
  ·rw[etaB_x hx h2]
   exact Tot.k (a:=true) (by rw[ho,hx,if_neg (by decide),zBH,h2];rfl) (Tot.pure rfl)
 ·rw[etaB_no ho,ho]
  exact Tot.pure rfl
theorem REta_E(c:zLm)(hf:Fm c)(hc:csz c<=20000):Tot (fun n=>zFa n c) (fun b=>b=etaB c):=by
 unfold zFa
 rcases orTF (eqI c.Op 11) with ho|ho
 ·obtain⟨x,hx,hm,h12⟩:=eta_lens hf (eqT ho)
  rcases orTF (eqI x.Op 12) with h2|h2
  ·obtain⟨f,a,hfx,hax,hfm,ham⟩:=h12 (eqT h2)
   rw[etaB_y ho hx h2 hfx hax]
   refine Tot.k (a:=false) (by rw[ho,hx,if_neg (by decide),zBH,h2];rfl) (Tot.k hx (Tot.k hax ?_))
   refine Tot.bind (A:=fun b=>b=(eqI a.Op 1&&(eqI a.N 0&& !(occB 0 f)))) ?_ fun b hb=>Tot.pure hb
   refine Tot.ite (fun h=>?_) (fun h=>Tot.pure (by rw[h];rfl))
   rw[h]
   refine Tot.ite (fun h=>?_) (fun h=>Tot.pure (by rw[h];rfl))
   rw[h]
   exact Tot.k hfx (Tot.bind (ROccurs_E f ((hf.part hm).part hfm) (by have:=zCH hfm;have:=zCH hm;omega)) fun v hv=>Tot.pure (by rw[hv];rfl))
  ·rw[etaB_x hx h2]
   exact Tot.k (a:=true) (by rw[ho,hx,if_neg (by decide),zBH,h2];rfl) (Tot.pure rfl)
 ·rw[etaB_no ho,ho]
  exact Tot.pure rfl
theorem Tot.and{α:Type}{f:Nat->Option α}{A B:α->Prop}(h1:Tot f A)(h2:Tot f B):Tot f fun r=>A r∧B r:=by
 obtain⟨a,e1,q1⟩:=h1
 obtain⟨b,e2,q2⟩:=h2
 have:=e1.uniq e2
 subst this
 exact⟨a,e1,q1,q2⟩
def Tot2{α β:Type}(f:Nat->Option α)(g:Nat->Option β)(Q:α->β->Prop):Prop:= ∃a b,Ev f a∧Ev g b∧Q a b
section
variable {α β γ δ:Type} {f:Nat->Option α} {g:Nat->Option β} {Q:α->β->Prop}
theorem Tot2.of{A:α->Prop}{B:β->Prop}(h1:Tot f A)(h2:Tot g B)(h: ∀a b,A a->B b->Q a b):Tot2 f g Q:=by
 obtain⟨a,e1,q1⟩:=h1
 obtain⟨b,e2,q2⟩:=h2
 exact⟨a,b,e1,e2,h a b q1 q2⟩
theorem Tot2.pure{a:α}{b:β}(h:Q a b):Tot2 (fun _=>some a) (fun _=>some b) Q:=⟨a,b,⟨0,fun _ _=>rfl⟩,⟨0,fun _ _=>rfl⟩,h⟩
theorem Tot2.bind{f':Nat->γ->Option α}{g':Nat->δ->Option β}{f0:Nat->Option γ}{g0:Nat->Option δ}{A:γ->δ->Prop}(h1:Tot2 f0 g0 A)(h2: ∀a b,A a b->Tot2 (fun n=>f' n a) (fun n=>g' n b) Q):
 Tot2 (fun n=>(f0 n).bind (f' n)) (fun n=>(g0 n).bind (g' n)) Q:=by
 obtain⟨a,b,e1,e2,q⟩:=h1
 obtain⟨a',b',e3,e4,q'⟩:=h2 a b q
 exact⟨a',b',e1.bind e3,e2.bind e4,q'⟩
theorem Tot2.L{f':Nat->γ->Option α}{f0:Nat->Option γ}{A:γ->Prop}(h1:Tot f0 A)(h2: ∀a,A a->Tot2 (fun n=>f' n a) g Q):Tot2 (fun n=>(f0 n).bind (f' n)) g Q:=by
 obtain⟨a,e1,q⟩:=h1
 obtain⟨a',b',e3,e4,q'⟩:=h2 a q
 exact⟨a',b',e1.bind e3,e4,q'⟩
theorem Tot2.R{g':Nat->δ->Option β}{g0:Nat->Option δ}{A:δ->Prop}(h1:Tot g0 A)(h2: ∀a,A a->Tot2 f (fun n=>g' n a) Q):Tot2 f (fun n=>(g0 n).bind (g' n)) Q:=by
 obtain⟨a,e1,q⟩:=h1
 obtain⟨a',b',e3,e4,q'⟩:=h2 a q
 exact⟨a',b',e3,e1.bind e4,q'⟩
theorem Tot2.kL{f':Nat->γ->Option α}{x:Option γ}{a:γ}(h1:x=some a)(h2:Tot2 (fun n=>f' n a) g Q):Tot2 (fun n=>x.bind (f' n)) g Q:=by subst h1;exact h2
theorem Tot2.kR{g':Nat->δ->Option β}{x:Option δ}{a:δ}(h1:x=some a)(h2:Tot2 f (fun n=>g' n a) Q):Tot2 f (fun n=>x.bind (g' n)) Q:=by subst h1;exact h2
theorem Tot2.iteL{c:Bool}{f1 f2:Nat->Option α}(h1:c=true->Tot2 f1 g Q)(h2:c=false->Tot2 f2 g Q):Tot2 (fun n=>if c=true then f1 n else f2 n) g Q:=by
 cases c with
 |true=>exact h1 rfl
 |false=>exact h2 rfl
theorem Tot2.iteR{c:Bool}{g1 g2:Nat->Option β}(h1:c=true->Tot2 f g1 Q)(h2:c=false->Tot2 f g2 Q):Tot2 f (fun n=>if c=true then g1 n else g2 n) Q:=by
 cases c with
 |true=>exact h1 rfl
 |false=>exact h2 rfl
theorem Ev.step{F G:Nat->Option α}{r:α}(h: ∀n,F (n+1)=G n)(hg:Ev G r):Ev F r:=by
 obtain⟨N,hN⟩:=hg
 refine⟨N+1,fun n hn=>?_⟩
 obtain⟨m,rfl⟩: ∃m,n=m+1:=⟨n-1,by omega⟩
 rw[h];exact hN m (by omega)
theorem Tot2.step{F:Nat->Option α}{G:Nat->Option β}(h1: ∀n,F (n+1)=f n)(h2: ∀n,G (n+1)=g n)(h:Tot2 f g Q):Tot2 F G Q:=by
 obtain⟨a,b,e1,e2,q⟩:=h
 exact⟨a,b,e1.step h1,e2.step h2,q⟩
end
theorem zF5{c x:zLm}(h:vcB c=true)(hx:x∈c.L):vcB x=true:=by
 obtain⟨h1,h2,h3⟩:=vcB_iff.1 h
 exact vcB_iff.2 ⟨by have:=zCH hx;omega,by have:=dep_mem hx;omega,(cokB_iff.1 h3).2 x hx⟩
theorem ndB_with(c:zLm)(l:List zLm)(hl:l.length=c.L.length):ndB (zLm.mk c.Op c.N c.S c.Kind c.Names l)=ndB c:=by
 unfold ndB
 simp only[hl]
 rfl
theorem cok_with{c:zLm}{l:List zLm}(hl:l.length=c.L.length)(hc:cokB c=true)(h: ∀x,x∈l->cokB x=true):cokB (zLm.mk c.Op c.N c.S c.Kind c.Names l)=true:=
 cokB_iff.2 ⟨by rw[ndB_with c l hl];exact(cokB_iff.1 hc).1,h⟩
theorem cok_var{m:Int}(h0:0<=m)(h1:m<=20000):cokB (cVar m)=true:=by
 refine cokB_iff.2 ⟨?_,fun x hx=>by cases hx⟩
 unfold ndB
 have e1:numB (cVar m)=true:=by
  show(!(ltI m 0||ltI 20000 m))=true
  rw[show ltI m 0=false from decide_eq_false (by omega),show ltI 20000 m=false from decide_eq_false (by omega)];rfl
 have e2:nlB (cVar m)=true:=by
  rw[nlB_non (by rfl)];rfl
 rw[e1,e2]
 rfl
theorem dep_one{c:zLm}(h:c.L=[]):dep c=1:=by rw[dep_eq,h];rfl
theorem dep_shLeaf(a y:Int)(c:zLm)(b:Int):dep (zH3 a y c b)=1:=by
 unfold zH3;split<;>exact dep_one rfl
theorem dep_shf(a y:Int)(c:zLm):Fm c->∀b,dep (shf a y c b)=dep c:=by
 induction c using zCv with
 |h c ih=>
 intro hf b
 rw[shf_eq]
 split
 ·rename_i ho
  rw[dep_shLeaf,dep_one (zEI hf.here ho).1]
 ·rw[dep_eq,dep_eq c,List.map_map]
  congr 2
  exact List.map_congr_left fun x hx=>ih x hx (hf.part hx) _
theorem cok_shf(c:zLm):Fm c->cokB c=true->∀b,0<=b->occB b c=false->cokB (shf 0 (-1) c b)=true:=by
 induction c using zCv with
 |h c ih=>
 intro hf hc b hb ho
 have hok:=hf.here
 have h1:=hok.n1
 rw[occB_eq] at ho
 rw[shf_eq]
 rcases orTF (eqI c.Op 1) with h|h
 ·rw[if_pos (show(eqI c.Op 1||eqI c.Op 2)=true by rw[h];rfl)]
  rw[if_pos h] at ho
  have ho:=eqF ho
  unfold zH3
  rw[h,Bool.true_and]
  split
  ·rename_i h2
   have h2:=leT h2
   exact cok_var (by omega) (by omega)
  ·rw[zFz hok (by rw[h];rfl)];exact hc
 ·rcases orTF (eqI c.Op 2) with h2|h2
  ·rw[if_pos (show(eqI c.Op 1||eqI c.Op 2)=true by rw[h2,Bool.or_true])]
   unfold zH3
   rw[if_neg (show¬(eqI c.Op 1&&leI 0 (c.N-b))=true by rw[h];simp),zFz hok (by rw[h2,Bool.or_true])];exact hc
  ·rw[if_neg (show¬(eqI c.Op 1||eqI c.Op 2)=true by rw[h,h2];simp)]
   rw[if_neg (show¬eqI c.Op 1=true by rw[h];simp)] at ho
   refine cok_with (by simp) hc fun y hy=>?_
   obtain⟨x,hx,rfl⟩:=List.mem_map.1 hy
   refine ih x hx (hf.part hx) ((cokB_iff.1 hc).2 x hx) _ (by split<;>omega) ?_
   rcases orTF (occB (if bndB c=true then b+1 else b) x) with h3|h3
   ·rw[List.any_eq_true.2 ⟨x,hx,h3⟩] at ho;cases ho
   ·exact h3
theorem vc_shf{c:zLm}(hf:Fm c)(hv:vcB c=true)(ho:occB 0 c=false):vcB (shf 0 (-1) c 0)=true:=by
 obtain⟨h1,h2,h3⟩:=vcB_iff.1 hv
 exact vcB_iff.2 ⟨by rw[csz_shf 0 (-1) c hf];exact h1,by rw[dep_shf 0 (-1) c hf];exact h2,cok_shf c hf h3 0 (by decide) ho⟩
theorem Kept_E(c:zLm)(w:zLi)(hc:csz c<=1000000000000)(hw:w.over=false):
 Tot (fun n=>zBb n c w) (fun r=>r=if (decide (csz c<=20000)&&decide (dep c<=400))=true then (c,w) else (cZ,zLi.mk w.steps true)):=by
 unfold zBb
 rw[hw]
 refine Tot.ite (fun h=>by cases h) (fun _=>Tot.bind (nsize_E c hc) fun v hv=>?_)
 subst hv
 refine Tot.ite (fun h=>Tot.pure ?_) (fun h=>Tot.pure ?_)
 ·rw[if_neg]
  ·rfl
  ·intro h'
   simp only[zq7,decide_eq_true_eq] at h'
   rw[Bool.or_eq_true] at h
   rcases h with h|h
   ·have:=ltT h;simp only at this;omega
   ·have:=ltT h;simp only at this;omega
 ·rw[Bool.or_eq_false_iff] at h
  have h1:=ltF h.1
  have h2:=ltF h.2
  simp only at h1 h2
  rw[if_pos (by rw[zqb (show csz c<=20000 by omega),zqb (show dep c<=400 by omega)];rfl)]
def NR(w:zLi)(r:zLm×zLi)(r':zLm×Int):Prop:=
 (r.2.over=true->r'.2<0)∧(r.2.over=false->r'.1=r.1∧r'.2=10000-r.2.steps∧0<=r'.2∧vcB r.1=true∧Fm r.1∧w.steps<=r.2.steps)
def LR(c:zLm)(s0:Int)(b:Int×Bool×List zLm)(o:(zLm×Int) ⊕ (Int×List zLm)):Prop:=
 (b.2.1=true->∃q,o=.inl q∧q.2<0)∧(b.2.1=false->o=.inr (10000-b.1,b.2.2)∧s0<=b.1∧b.1<=10000∧b.2.2.length=c.L.length∧∀z,z∈b.2.2->vcB z=true∧Fm z)
theorem nz_over(x:zLm)(w:zLi)(hw:w.over=true): ∀n,1<=n->zAK n x w=some (cZ,w):=fun n hn=>by
 obtain⟨k,rfl⟩: ∃q,n=q+1:=⟨n-1,by omega⟩
 rw[zAK,if_pos hw];rfl
theorem nzl_over(c:zLm)(hlen:c.L.length<=100000): ∀m i (s:Int) (L:List zLm),i+m=c.L.length->L.length=i->∃s' L',∀n,1<=n->∀k,m<k->zAQ (zAK n) c k s true L i=some (s',true,L'):=by
 intro m
 induction m with
 |zero=>
  intro i s L hi hL
  refine⟨s,L,fun n _ k hk=>?_⟩
  obtain⟨k,rfl⟩: ∃q,k=q+1:=⟨k-1,by omega⟩
  rw[zAQ,if_neg (ltN (by omega))]
 |succ m ih=>
  intro i s L hi hL
  obtain⟨s',L',h⟩:=ih (i+1) s (L++[cZ]) (by omega) (by simp[hL])
  refine⟨s',L',fun n hn k hk=>?_⟩
  obtain⟨k,rfl⟩: ∃q,k=q+1:=⟨k-1,by omega⟩
  rw[zAQ,if_pos (ltP (by omega)),zq2 (show i<c.L.length by omega),zBH,nz_over _ _ rfl n hn,zBH,zDH (by decide) (by simp;omega),zBH]
  exact h n hn k (by omega)
theorem nzl_E(c:zLm)(hlen:c.L.length<=100000)(s0:Int)(h0:0<=s0)
 (hx: ∀x,x∈c.L->∀s:Int,s0<=s->s<=10000->Tot2 (fun n=>zAK n x ⟨s,false⟩) (fun n=>zAs n x (10000-s)) (NR ⟨s,false⟩)) (hs0:s0<=10000):
 Tot2 (fun n=>zAQ (zAK n) c n s0 false [] 0) (fun n=>zBC (zAs n) c n [] (10000-s0) 0) (LR c s0):=by
 have key: ∀m i (s:Int) (L:List zLm),i+m=c.L.length->L.length=i->(∀z,z∈L->vcB z=true∧Fm z)->s0<=s->s<=10000->∃b o,LR c s0 b o∧
  (∃N,∀n,N<=n->∀k,m<k->zAQ (zAK n) c k s false L i=some b)∧(∃N,∀n,N<=n->∀k,m<k->zBC (zAs n) c k L (10000-s) i=some o):=by
  intro m
  induction m with
  |zero=>
   intro i s L hi hL hz h1 h2
   refine⟨(s,false,L),.inr (10000-s,L),⟨fun h=>(by cases h),fun _=>⟨rfl,h1,h2,by simp only;omega,hz⟩⟩,⟨0,fun n _ k hk=>?_⟩,⟨0,fun n _ k hk=>?_⟩⟩
   ·obtain⟨k,rfl⟩: ∃q,k=q+1:=⟨k-1,by omega⟩
    rw[zAQ,if_neg (ltN (by omega))]
   ·obtain⟨k,rfl⟩: ∃q,k=q+1:=⟨k-1,by omega⟩
    rw[zBC,if_neg (ltN (by omega))]
  |succ m ih=>
   intro i s L hi hL hz h1 h2
   have hxi:c.L[i]? =some c.L[i]:=zq2 (by omega)
   obtain⟨r,r',⟨N1,e1⟩,⟨N2,e2⟩,q1,q2⟩:=hx c.L[i] (List.getElem_mem _) s h1 h2
   cases ho:r.2.over with
   |true=>
    have hneg:=q1 ho
    obtain⟨s',L',h⟩:=nzl_over c hlen m (i+1) r.2.steps (L++[r.1]) (by omega) (by simp[hL])
    refine⟨(s',true,L'),.inl ((zLm.mk 0 0 [] (zLl.mk []) [] [],-1)),⟨fun _=>⟨_,rfl,by decide⟩,fun h=>by cases h⟩,⟨N1+1,fun n hn k hk=>?_⟩,⟨N2,fun n hn k hk=>?_⟩⟩
    ·obtain⟨k,rfl⟩: ∃q,k=q+1:=⟨k-1,by omega⟩
     rw[zAQ,if_pos (ltP (by omega)),hxi,zBH,show zAK n c.L[i] ⟨s,false⟩=some r from e1 n (by omega),zBH,zDH (by decide) (by simp;omega),zBH,ho]
     exact h n (by omega) k (by omega)
    ·obtain⟨k,rfl⟩: ∃q,k=q+1:=⟨k-1,by omega⟩
     rw[zBC,if_pos (ltP (by omega)),hxi,zBH,show zAs n c.L[i] (10000-s)=some r' from e2 n (by omega),zBH,if_pos (show ltI r'.2 0=true from zqb hneg)]
   |false=>
    obtain⟨p1,p2,p3,p4,p5,p6⟩:=q2 ho
    simp only at p6
    obtain⟨b,o,hr,⟨N3,e3⟩,⟨N4,e4⟩⟩:=ih (i+1) r.2.steps (L++[r.1]) (by omega) (by simp[hL]) (fun z hz'=>by
     rcases List.mem_append.1 hz' with hz'|hz'
     ·exact hz z hz'
     ·rw[List.mem_singleton.1 hz'];exact⟨p4,p5⟩) (by omega) (by omega)
    refine⟨b,o,hr,⟨N1+N3,fun n hn k hk=>?_⟩,⟨N2+N4,fun n hn k hk=>?_⟩⟩
    ·obtain⟨k,rfl⟩: ∃q,k=q+1:=⟨k-1,by omega⟩
     rw[zAQ,if_pos (ltP (by omega)),hxi,zBH,show zAK n c.L[i] ⟨s,false⟩=some r from e1 n (by omega),zBH,zDH (by decide) (by simp;omega),zBH,ho]
     exact e3 n (by omega) k (by omega)
    ·obtain⟨k,rfl⟩: ∃q,k=q+1:=⟨k-1,by omega⟩
     rw[zBC,if_pos (ltP (by omega)),hxi,zBH,show zAs n c.L[i] (10000-s)=some r' from e2 n (by omega),zBH,if_neg (show¬ltI r'.2 0=true from fun h=>by have:=ltT h;omega),p1,zDH (by decide) (by simp;omega),zBH,p2]
     exact e4 n (by omega) k (by omega)
 obtain⟨b,o,hr,⟨N1,e1⟩,⟨N2,e2⟩⟩:=key c.L.length 0 s0 [] (by omega) rfl (fun z hz=>by cases hz) (Int.le_refl _) hs0
 exact⟨b,o,⟨N1+c.L.length+1,fun n hn=>e1 n (by omega) n (by omega)⟩,⟨N2+c.L.length+1,fun n hn=>e2 n (by omega) n (by omega)⟩,hr⟩
theorem Fm_with{c:zLm}(hf:Fm c){l:List zLm}(hl:l.length=c.L.length)(h: ∀z,z∈l->Fm z):Fm (zLm.mk c.Op c.N c.S c.Kind c.Names l):=.mk _ (hf.here.with _ hl) h
theorem normalize_E: ∀(m:Nat)(c:zLm)(s:Int),Fm c->vcB c=true->0<=s->s<=10000->10001-s<=m->Tot2 (fun n=>zAK n c ⟨s,false⟩) (fun n=>zAs n c (10000-s)) (NR ⟨s,false⟩):=by
 intro m
 induction m using Nat.strongRecOn with
 |_ m IH=>
 intro c
 induction c using zCv with
 |h c ih=>
 intro s hf hv h0 h1 hm
 have hcs:=(vcB_iff.1 hv).1
 have hp:=zEv c
 have hlc:=zIs c
 refine Tot2.step (fun n=>by rw[zAK]) (fun n=>by rw[zAs]) ?_
 refine Tot2.iteL (fun h=>by cases h) (fun _=>?_)
 refine Tot2.bind (nzl_E c (by omega) s h0 (fun x hx s' h2 h3=>ih x hx s' (hf.part hx) (zF5 hv hx) (by omega) h3 (by omega)) h1) fun b o hr=>?_
 cases hov:b.2.1 with
 |true=>
  obtain⟨q,rfl,hq⟩:=hr.1 hov
  refine Tot2.L (A:=fun r=>r=(cZ,zLi.mk b.1 true)) ?_ fun v hv2=>?_
  ·unfold zBb
   exact Tot.ite (fun _=>Tot.pure rfl) (fun h=>by cases h)
  ·subst hv2
   exact Tot2.iteL (fun _=>Tot2.pure ⟨fun _=>hq,fun h=>by cases h⟩) (fun h=>by cases h)
 |false=>
  obtain⟨rfl,k1,k2,k3,k4⟩:=hr.2 hov
  have hfo:=Fm_with hf k3 fun z hz=>(k4 z hz).2
  have hck:=cok_with k3 (vcB_iff.1 hv).2.2 fun z hz=>(vcB_iff.1 (k4 z hz).1).2.2
  have hcn:csz (zLm.mk c.Op c.N c.S c.Kind c.Names b.2.2)<=1000000000:=by
   have hsum:=sum_bound csz 20000 b.2.2 fun z hz=>(vcB_iff.1 (k4 z hz).1).1
   rw[zE5]
   have:b.2.2.length*20000<=20000*20000:=Nat.mul_le_mul_right _ (by omega)
   simp only;omega
  refine Tot2.L (Kept_E _ ⟨b.1,false⟩ (by omega) rfl) fun v hv2=>?_
  refine Tot2.R (zIh _) fun q hq=>?_
  have hvc:vcB (zLm.mk c.Op c.N c.S c.Kind c.Names b.2.2)=(decide (csz (zLm.mk c.Op c.N c.S c.Kind c.Names b.2.2)<=20000)&&decide (dep (zLm.mk c.Op c.N c.S c.Kind c.Names b.2.2)<=400)):=by
   unfold vcB;rw[hck,Bool.and_true]
  rw[<-hvc] at hv2
  rcases orTF (vcB (zLm.mk c.Op c.N c.S c.Kind c.Names b.2.2)) with hvo|hvo
  ·rw[hvo,if_pos rfl] at hv2
   rw[hvo] at hq
   subst hv2;subst hq
   refine Tot2.iteL (fun h=>by cases h) (fun _=>Tot2.iteR (fun h=>by cases h) (fun _=>?_))
   have hfo':=(vcB_iff.1 hvo).1
   have etaP:Tot2 (fun n=>(zE9 n (zLm.mk c.Op c.N c.S c.Kind c.Names b.2.2)).bind fun v52=>if v52=true then (b.2.2[0]?).bind fun x55=>(x55.L[0]?).bind fun x57=>(zDD n x57 (-1) 0).bind fun v59=>if (!(eqI v59.2 0))=true then some (cZ,zLi.mk b.1 true) else some (v59.1,zLi.mk b.1 false) else some (zLm.mk c.Op c.N c.S c.Kind c.Names b.2.2,zLi.mk b.1 false))
    (fun n=>(zFa n (zLm.mk c.Op c.N c.S c.Kind c.Names b.2.2)).bind fun v77=>if v77=true then (b.2.2[0]?).bind fun x80=>(x80.L[0]?).bind fun x82=>(zB6 n x82 (-1) 0).bind fun v84=>some (v84,10000-b.1) else some (zLm.mk c.Op c.N c.S c.Kind c.Names b.2.2,10000-b.1)) (NR ⟨s,false⟩):=by
    refine Tot2.L (Eta_E _ hfo hfo') fun e1 he1=>Tot2.R (REta_E _ hfo hfo') fun e2 he2=>?_
    subst he1;subst he2
    refine Tot2.iteL (fun he=>Tot2.iteR (fun _=>?_) (fun h=>by rw[he] at h;cases h)) (fun he=>Tot2.iteR (fun h=>by rw[he] at h;cases h) (fun _=>Tot2.pure ⟨fun h=>(by cases h),fun _=>⟨rfl,rfl,by simp only;omega,hvo,hfo,k1⟩⟩))
    have h11:eqI c.Op 11=true:=by
     rcases orTF (eqI c.Op 11) with h|h
     ·exact h
     ·rw[etaB_no (c:=zLm.mk c.Op c.N c.S c.Kind c.Names b.2.2) h] at he;cases he
    obtain⟨x,hx,hxm,h12⟩:=eta_lens hfo (eqT h11)
    have hx:b.2.2[0]? =some x:=hx
    have h2:eqI x.Op 12=true:=by
     rcases orTF (eqI x.Op 12) with h|h
     ·exact h
     ·rw[etaB_x (c:=zLm.mk c.Op c.N c.S c.Kind c.Names b.2.2) hx h] at he;cases he
    obtain⟨f,a,hfx,hax,hfm,ham⟩:=h12 (eqT h2)
    rw[etaB_y (c:=zLm.mk c.Op c.N c.S c.Kind c.Names b.2.2) h11 hx h2 hfx hax] at he
    simp only[zq7] at he
    have hocc:occB 0 f=false:=by simpa using he.2.2
    have hff:=(hfo.part hxm).part hfm
    have hvf:=zF5 (zF5 hvo hxm) hfm
    have hcf:=(vcB_iff.1 hvf).1
    refine Tot2.kL hx (Tot2.kR hx (Tot2.kL hfx (Tot2.kR hfx ?_)))
    refine Tot2.L ((Shift_E f (-1) (.inr rfl) (by omega) hff.sh hvf).and (Shift_T f (-1) 0 (by omega) hff.sh)) fun v hv=>?_
    obtain⟨hv,hv3⟩:=hv
    rw[hocc,Bool.and_false,if_neg (by simp),if_pos (vc_shf hff hvf hocc)] at hv
    subst hv
    obtain⟨f1,f2,_⟩:=hv3.ok rfl
    refine Tot2.R (RShift_E (-1) (by omega) (by omega) f hff (by omega) 0 0 (by omega) (by omega) (.inl rfl)) fun u hu=>?_
    subst hu
    exact Tot2.iteL (fun h=>by cases h) (fun _=>Tot2.pure ⟨fun h=>(by cases h),fun _=>⟨rfl,rfl,by simp only;omega,vc_shf hff hvf hocc,f1,k1⟩⟩)
   rcases orTF (eqI c.Op 12) with ho|ho
   ·obtain⟨f,hfx,hfm⟩:=at0 (l:=b.2.2) (by rw[k3,hf.here.len.2.1 (.inr (eqT ho))];omega)
    obtain⟨a,hax,ham⟩:=at1 (l:=b.2.2) (by rw[k3,hf.here.len.2.1 (.inr (eqT ho))];omega)
    refine Tot2.kL (a:=eqI f.Op 11) (by simp only[ho,if_true,hfx,zBH]) (Tot2.kR (a:=eqI f.Op 11) (by simp only[ho,if_true,hfx,zBH]) ?_)
    refine Tot2.iteL (fun h11=>Tot2.iteR (fun _=>?_) (fun h=>by rw[h11] at h;cases h)) (fun h11=>Tot2.iteR (fun h=>by rw[h11] at h;cases h) (fun _=>etaP))
    obtain⟨hvf,hff⟩:=k4 f hfm
    obtain⟨hva,hfa⟩:=k4 a ham
    obtain⟨z,hz,hzm⟩:=at0 (l:=f.L) (by rw[hff.here.len.1 (.inr (.inr (.inl (eqT h11))))];omega)
    have hvz:=zF5 hvf hzm
    have hfz:=hff.part hzm
    have hcz:=(vcB_iff.1 hvz).1
    have hca:=(vcB_iff.1 hva).1
    have overL: ∀(g:Nat->Option (zLm×Int))(w:zLi)(y:zLm),w.over=true->Tot g (fun r=>r.2<0)->Tot2 (fun n=>(zAK n y w).bind fun v48=>some (v48.1,v48.2)) g (NR ⟨s,false⟩):=fun g w y hw hg=>
     Tot2.of (A:=fun r=>r.2.over=true) (Tot.bind (A:=fun r=>r=(cZ,w)) (Ev.of (K:=1) fun n hn=>nz_over y w hw n hn).tot fun r hr=>Tot.pure (by rw[hr];exact hw)) hg fun r r' h1 h2=>⟨fun _=>h2,fun h=>by rw[h1] at h;cases h⟩
    refine Tot2.kL hfx (Tot2.kL hax ?_)
    by_cases hst:b.1=10000
    ·refine Tot2.L (A:=fun r=>r.2.over=true) ?_ fun v hv=>?_
     ·unfold zB3
      exact Tot.chk (by simp only;omega) (by simp only;omega) (Tot.ite (fun _=>Tot.pure rfl) (fun h=>by have:=ltF h;simp only at this;omega))
     ·exact overL _ _ _ hv (Tot.ite (fun _=>Tot.pure (by decide)) (fun h=>absurd (by omega) (eqF h)))
    ·refine Tot2.iteR (fun h=>absurd (eqT h) (by omega)) (fun _=>?_)
     have hl1: ∀y,y∈[a]->Fm y∧csz y<=20000:=fun y hy=>by rw[List.mem_singleton.1 hy];exact⟨hfa,hca⟩
     refine Tot2.kR hfx (Tot2.kR hz (Tot2.kR hax ?_))
     refine Tot2.R (RGrown_E [a] hl1 (by simp) z hfz (by omega)) fun g hg=>?_
     subst hg
     have hsub:=(Subst_E z [a] (by omega) hfz.sh (fun y hy=>by rw[List.mem_singleton.1 hy];exact⟨by omega,hfa.sh⟩) hvz (fun y hy=>by rw[List.mem_singleton.1 hy];exact hva) (by simp)).and (Subst_T z [a] (by omega) hfz.sh (fun y hy=>by rw[List.mem_singleton.1 hy];exact⟨by omega,hfa.sh⟩))
     rcases orTF (vcB (sbs [a] z 0)) with hvs|hvs
     ·have hcs2:=(vcB_iff.1 hvs).1
      refine Tot2.L (A:=fun r=>r=(sbs [a] z 0,zLi.mk (b.1+1) false)∧Fm (sbs [a] z 0)) ?_ fun v hv=>?_
      ·unfold zB3
       refine Tot.chk (by simp only;omega) (by simp only;omega) (Tot.ite (fun h=>by have:=ltT h;simp only at this;omega) (fun _=>Tot.ite (fun h=>by cases h) (fun _=>Tot.k hz (Tot.bind hsub fun u hu=>?_))))
       obtain⟨hu,hu2⟩:=hu
       rw[hvs,if_pos rfl] at hu
       subst hu
       obtain⟨g1,g2,_⟩:=hu2.ok rfl
       refine Tot.ite (fun h=>by cases h) (fun _=>Tot.bind (Kept_E _ ⟨b.1+1,false⟩ (by simp only;omega) rfl) fun u hu=>Tot.pure ?_)
       have:=vcB_iff.1 hvs
       rw[if_pos (by rw[zqb this.1,zqb this.2.1];rfl)] at hu
       subst hu
       exact⟨rfl,g1⟩
      ·obtain⟨rfl,hfs⟩:=hv
       refine Tot2.iteR (fun h=>by have:=ltT h;omega) (fun _=>?_)
       refine Tot2.R (A:=fun r=>r=sbs [a] z 0) ?_ fun u hu=>?_
       ·unfold zDf
        exact Tot.bind (RSubst_E [a] hl1 (by simp) z hfz (by omega) 0 (by omega) (by omega)) fun v hv=>Tot.pure hv
       subst hu
       refine Tot2.R (zIh _) fun q hq=>?_
       rw[hvs] at hq
       subst hq
       refine Tot2.iteR (fun h=>by cases h) (fun _=>Tot2.kR (zIN (by omega) (by omega)) ?_)
       have:=IH (m-1) (by omega) (sbs [a] z 0) (b.1+1) hfs hvs (by omega) (by omega) (by omega)
       have e:(10000-(b.1+1):Int)=10000-b.1-1:=by omega
       rw[e] at this
       refine Tot2.bind this fun r r' hr'=>Tot2.pure ⟨hr'.1,fun h=>?_⟩
       obtain⟨w1,w2,w3,w4,w5,w6⟩:=hr'.2 h
       simp only at w6
       exact⟨w1,w2,w3,w4,w5,by simp only;omega⟩
     ·refine Tot2.L (A:=fun r=>r.2.over=true) ?_ fun v hv=>?_
      ·unfold zB3
       refine Tot.chk (by simp only;omega) (by simp only;omega) (Tot.ite (fun _=>Tot.pure rfl) (fun _=>Tot.ite (fun h=>by cases h) (fun _=>Tot.k hz (Tot.bind hsub fun u hu=>?_))))
       have hu:=hu.1
       rw[hvs,if_neg (by simp)] at hu
       subst hu
       exact Tot.ite (fun _=>Tot.pure rfl) (fun h=>by cases h)
      ·refine overL _ _ _ hv (Tot.ite (fun _=>Tot.pure (by decide)) (fun _=>?_))
       refine Tot.bind (A:=fun r=>r=sbs [a] z 0) ?_ fun u hu=>?_
       ·unfold zDf
        exact Tot.bind (RSubst_E [a] hl1 (by simp) z hfz (by omega) 0 (by omega) (by omega)) fun v hv=>Tot.pure hv
       subst hu
       refine Tot.bind (zIh _) fun q hq=>?_
       rw[hvs] at hq
       subst hq
       exact Tot.ite (fun _=>Tot.pure (by decide)) (fun h=>by cases h)
   ·refine Tot2.kL (a:=false) (by simp only[ho,Bool.false_eq_true,if_false]) (Tot2.kR (a:=false) (by simp only[ho,Bool.false_eq_true,if_false]) ?_)
    exact Tot2.iteL (fun h=>by cases h) (fun _=>Tot2.iteR (fun h=>by cases h) (fun _=>etaP))
  ·rw[hvo,if_neg (by simp)] at hv2
   rw[hvo] at hq
   subst hv2;subst hq
   exact Tot2.iteL (fun _=>Tot2.iteR (fun _=>Tot2.pure ⟨fun _=>by decide,fun h=>by cases h⟩) (fun h=>by cases h)) (fun h=>by cases h)
def TmR(c:zLm)(r:zLm×Int)(r':zLm×Bool):Prop:=
 (vcB c=true∧r'.2=true∧r.2=0∧r.1=r'.1∧vcB r.1=true∧Fm r.1)∨(r'.2=false∧r.2≠0∧(vcB c=true->r.2=27))
theorem Tame_E(c:zLm)(hc:csz c<=1000000000000)(hs:Sh c):Tot2 (fun n=>zDR n c) (fun n=>zEV n c) (TmR c):=by
 unfold zDR zEV
 refine Tot2.L (zIL c hc hs) fun v hv=>Tot2.R (zIh c) fun v' hv'=>?_
 subst hv;subst hv'
 refine Tot2.iteL (fun h=>Tot2.iteR (fun _=>Tot2.pure (.inr ⟨rfl,by decide,fun h'=>?_⟩)) (fun h'=>by rw[h] at h';cases h')) (fun h=>Tot2.iteR (fun h'=>by rw[h] at h';cases h') (fun _=>?_))
 ·rw[h'] at h;cases h
 have hv:=notF h
 have hf:=vcB_Fm hc hs hv
 have:=normalize_E 10001 c 0 hf.1 hv (by decide) (by decide) (by decide)
 rw[show(10000-0:Int)=10000 from rfl] at this
 unfold zF4
 refine Tot2.bind (A:=fun(r:zLm×Bool) (r':zLm×Int)=>(r.2=false∧r'.2<0)∨(r.2=true∧0<=r'.2∧r'.1=r.1∧vcB r.1=true∧Fm r.1)) ?_ fun r r' hr=>?_
 ·obtain⟨a,b,⟨N1,e1⟩,e2,q1,q2⟩:=this
  refine⟨(a.1,!a.2.over),b,⟨N1,fun n hn=>?_⟩,e2,?_⟩
  ·show(zAK n c ⟨0,false⟩).bind _=_
   rw[show zAK n c ⟨0,false⟩=some a from e1 n hn,zBH]
  ·cases ho:a.2.over with
   |true=>exact .inl ⟨rfl,q1 ho⟩
   |false=>
    obtain⟨w1,w2,w3,w4,w5,w6⟩:=q2 ho
    exact .inr ⟨rfl,w3,w1,w4,w5⟩
 ·rcases hr with ⟨h1,h2⟩|⟨h1,h2,h3,h4,h5⟩
  ·rw[h1]
   exact Tot2.iteL (fun _=>Tot2.pure (.inr ⟨decide_eq_false (by omega),by decide,fun _=>rfl⟩)) (fun h=>by cases h)
  ·rw[h1]
   refine Tot2.iteL (fun h=>by cases h) (fun _=>?_)
   have hcs:=(vcB_iff.1 h4).1
   refine Tot2.L (ncopied_T r.1 h5 (by omega)) fun z hz=>?_
   subst hz
   exact Tot2.pure (.inl ⟨hv,zqb h2,rfl,h3.symm,h4,h5⟩)
theorem spine_E(c:zLm):Fm c->vcB c=true->∃f l,Ev (fun n=>zCS n c) (f,l)∧vcB f=true∧Fm f∧(∀y,y∈l->vcB y=true∧Fm y)∧l.length+1<=csz c∧
 ∀acc:List zLm,acc.length+csz c<=40000->∃N,∀n,N<=n->∀k,csz c<k->zBv n k c acc=some (f,acc++l.reverse):=by
 induction c using zCv with
 |h x ih=>
 intro hf hv
 have hp:=zEv x
 have hc:=(vcB_iff.1 hv).1
 by_cases ho:x.Op=12
 ·have h2:=hf.here.len.2.1 (.inr ho)
  obtain⟨u,hu,hum⟩:=at0 (l:=x.L) (by omega)
  obtain⟨y,hy,hym⟩:=at1 (l:=x.L) (by omega)
  have e1:=zCH hum
  have e2:=zCH hym
  obtain⟨f,l,⟨N1,q1⟩,q2,q3,q4,q5,q6⟩:=ih u hum (hf.part hum) (zF5 hv hum)
  refine⟨f,l++[y],⟨N1+1,fun n hn=>?_⟩,q2,q3,fun z hz=>?_,by simp;omega,fun acc hacc=>?_⟩
  ·obtain⟨n,rfl⟩: ∃q,n=q+1:=⟨n-1,by omega⟩
   show zCS (n+1) x=_
   rw[zCS,if_neg (by rw[show eqI x.Op 12=true from zqb ho];simp),hu,zBH,show zCS n u=some (f,l) from q1 n (by omega),zBH,zDH (by decide) (by simp;omega),zBH,hy,zBH,zDH (by decide) (by simp;omega),zBH]
   rfl
  ·rcases List.mem_append.1 hz with hz|hz
   ·exact q4 z hz
   ·rw[List.mem_singleton.1 hz];exact⟨zF5 hv hym,hf.part hym⟩
  ·obtain⟨z,⟨N2,hz⟩,rfl⟩:=copied_T y (hf.part hym) (by omega)
   obtain⟨N3,h3⟩:=q6 (acc++[z]) (by simp;omega)
   refine⟨N2+N3,fun n hn k hk=>?_⟩
   obtain⟨k,rfl⟩: ∃q,k=q+1:=⟨k-1,by omega⟩
   rw[zBv,if_pos (show eqI x.Op 12=true from zqb ho),hy,zBH,show zCk n z=some z from hz n (by omega),zBH,zDH (by decide) (by simp;omega),zBH,hu,zBH]
   rw[h3 n (by omega) k (by omega)]
   simp
 ·refine⟨x,[],⟨1,fun n hn=>?_⟩,hv,hf,(fun y hy=>by cases hy),(by simp only[List.length_nil];omega),fun acc _=>⟨0,fun n _ k hk=>?_⟩⟩
  ·obtain⟨n,rfl⟩: ∃q,n=q+1:=⟨n-1,by omega⟩
   show zCS (n+1) x=_
   rw[zCS,if_pos (by rw[show eqI x.Op 12=false from decide_eq_false ho];rfl)]
  ·obtain⟨k,rfl⟩: ∃q,k=q+1:=⟨k-1,by omega⟩
   rw[zBv,if_neg (show¬eqI x.Op 12=true from fun h=>ho (eqT h))]
   simp
theorem apps_same(f:zLm)(l:List zLm): ∀(k:Nat)(a b:Int)(s:List UInt8)(ks:List zLl)(ns:List (List UInt8))(L:List zLm)(i:Nat),zBn (f,l,0) k a b s ks ns L i=zBT (f,l) k a b s ks ns L i
 |0,_,_,_,_,_,_,_=>rfl
 |k+1,a,b,s,ks,ns,L,i=>by
  rw[zBn,zBT]
  simp only[apps_same f l k]
theorem apps_T(f:zLm)(l:List zLm)(hl: ∀y,y∈l->Fm y∧csz y<=20000)(hll:l.length<=40000)(y:zLm)(hy:Sh y)(hcy:csz y<=20000):
 Tot (fun n=>zBT (f,l) n y.Op y.N y.S y.Kind.L y.Names y.L 0) (fun b=>Sh (zLm.mk b.1 b.2.1 b.2.2.1 (zLl.mk b.2.2.2.1) b.2.2.2.2.1 b.2.2.2.2.2)∧csz (zLm.mk b.1 b.2.1 b.2.2.1 (zLl.mk b.2.2.2.1) b.2.2.2.2.1 b.2.2.2.2.2)<=1000000000∧
  (vcB (zLm.mk b.1 b.2.1 b.2.2.1 (zLl.mk b.2.2.2.1) b.2.2.2.2.1 b.2.2.2.2.2)=true->vcB y=true)):=by
 refine Tot.loop1 l (fun n k (b:Int×Int×List UInt8×List zLl×List (List UInt8)×List zLm) i=>zBT (f,l) k b.1 b.2.1 b.2.2.1 b.2.2.2.1 b.2.2.2.2.1 b.2.2.2.2.2 i)
  (fun n i b x=>some (12,0,[],[],[],[zLm.mk b.1 b.2.1 b.2.2.1 (zLl.mk b.2.2.2.1) b.2.2.2.2.1 b.2.2.2.2.2,x])) (fun b=>b) (fun n k b i=>by rw[zBT];simp only[zBH])
  (fun i b=>Sh (zLm.mk b.1 b.2.1 b.2.2.1 (zLl.mk b.2.2.2.1) b.2.2.2.2.1 b.2.2.2.2.2)∧csz (zLm.mk b.1 b.2.1 b.2.2.1 (zLl.mk b.2.2.2.1) b.2.2.2.2.1 b.2.2.2.2.2)<=20000+i*20001∧(vcB (zLm.mk b.1 b.2.1 b.2.2.1 (zLl.mk b.2.2.2.1) b.2.2.2.2.1 b.2.2.2.2.2)=true->vcB y=true))
  (fun b=>Sh (zLm.mk b.1 b.2.1 b.2.2.1 (zLl.mk b.2.2.2.1) b.2.2.2.2.1 b.2.2.2.2.2)∧csz (zLm.mk b.1 b.2.1 b.2.2.1 (zLl.mk b.2.2.2.1) b.2.2.2.2.1 b.2.2.2.2.2)<=1000000000∧(vcB (zLm.mk b.1 b.2.1 b.2.2.1 (zLl.mk b.2.2.2.1) b.2.2.2.2.1 b.2.2.2.2.2)=true->vcB y=true)) ?_ (fun b hb=>⟨hb.1,?_,hb.2.2⟩) (y.Op,y.N,y.S,y.Kind.L,y.Names,y.L) ?_
 ·intro i b x hx hb
  have hxm:=zq3 hx
  obtain⟨x1,x2⟩:=hl x hxm
  refine Tot.pure ⟨.mk _ (by simp) fun z hz=>?_,?_,fun h=>hb.2.2 (zF5 h (zq9 ..))⟩
  ·simp only[List.mem_cons,List.not_mem_nil,or_false] at hz
   rcases hz with rfl|rfl
   ·exact hb.1
   ·exact x1.sh
  ·rw[zE5]
   simp only[List.map_cons,List.map_nil,List.sum_cons,List.sum_nil]
   have:=hb.2.1
   omega
 ·have:=hb.2.1
  have:l.length*20001<=40000*20001:=Nat.mul_le_mul_right _ hll
  omega
 ·simp only[kindEta,zLZ]
  exact⟨hy,by omega,fun h=>h⟩
def UnR(r:zLm×Int)(r':zLm×Int):Prop:=(r.2=0∧r'.2=0∧r.1=r'.1∧vcB r.1=true∧Fm r.1)∨(r.2=r'.2∧(r.2=12∨r.2=27))
theorem Unroll_E(c:zLm)(hf:Fm c)(hv:vcB c=true):Tot2 (fun n=>zDw n c) (fun n=>zDm n c) UnR:=by
 have hcs:=(vcB_iff.1 hv).1
 unfold zDw zDm
 refine Tot2.R (zIh c) fun v hv'=>?_
 rw[hv] at hv'
 subst hv'
 refine Tot2.iteR (fun h=>by cases h) (fun _=>Tot2.bind (Tame_E c (by omega) hf.sh) fun r r' hr=>?_)
 rcases hr with ⟨_,h1,h2,h3,h4,h5⟩|⟨h1,h2,h3⟩
 ·rw[h1,h2]
  refine Tot2.iteL (fun h=>by cases h) (fun _=>Tot2.iteR (fun h=>by cases h) (fun _=>?_))
  have hc1:=(vcB_iff.1 h4).1
  obtain⟨f,l,⟨N1,q1⟩,q2,q3,q4,q5,q6⟩:=spine_E r.1 h5 h4
  have hcf:=(vcB_iff.1 q2).1
  refine Tot2.L (A:=fun o=>o=(f,l,(0:Int))) ?_ fun o ho=>?_
  ·unfold zF2
   refine Tot.bind (zIL r.1 (by omega) h5.sh) fun v hv=>?_
   rw[h4] at hv
   subst hv
   refine Tot.ite (fun h=>by cases h) (fun _=>?_)
   obtain⟨N2,q7⟩:=q6 [] (by simp;omega)
   refine Tot.ev (a:=(f,[]++l.reverse)) ⟨N2+csz r.1+1,fun n hn=>q7 n (by omega) n (by omega)⟩ ?_
   exact Tot.bind (copied_T f q3 hcf) fun z hz=>Tot.pure (by rw[hz];simp)
  subst ho
  rw[<-h3]
  refine Tot2.R (A:=fun o=>o=(f,l)) ⟨_,⟨N1,q1⟩,rfl⟩ fun o ho=>?_
  subst ho
  refine Tot2.iteL (fun h=>by cases h) (fun _=>Tot2.iteL (fun h=>Tot2.iteR (fun _=>Tot2.pure (.inr ⟨rfl,.inl rfl⟩)) (fun h'=>by rw[h] at h';cases h')) (fun h=>Tot2.iteR (fun h'=>by rw[h] at h';cases h') (fun _=>?_)))
  have ho:=eqT (notF h)
  obtain⟨x,hx,hxm⟩:=at0 (l:=f.L) (by rw[q3.here.len.1 (by simp only at ho;omega)];omega)
  have hvx:=zF5 q2 hxm
  have hfx:=q3.part hxm
  have hcx:=(vcB_iff.1 hvx).1
  have hl1: ∀y,y∈[f]->Fm y∧csz y<=20000:=fun y hy=>by rw[List.mem_singleton.1 hy];exact⟨q3,hcf⟩
  refine Tot2.kL hx (Tot2.kR hx ?_)
  refine Tot2.R (RGrown_E [f] hl1 (by simp) x hfx (by omega)) fun g hg=>?_
  subst hg
  refine Tot2.L ((Subst_E x [f] (by omega) hfx.sh (fun y hy=>by rw[List.mem_singleton.1 hy];exact⟨by omega,q3.sh⟩) hvx (fun y hy=>by rw[List.mem_singleton.1 hy];exact q2) (by simp)).and (Subst_T x [f] (by omega) hfx.sh (fun y hy=>by rw[List.mem_singleton.1 hy];exact⟨by omega,q3.sh⟩))) fun u hu=>?_
  obtain⟨hu,hu2⟩:=hu
  have hsub:Tot (fun n=>zDf n x [f]) (fun r=>r=sbs [f] x 0):=by
   unfold zDf
   exact Tot.bind (RSubst_E [f] hl1 (by simp) x hfx (by omega) 0 (by omega) (by omega)) fun v hv=>Tot.pure hv
  have hll: ∀y,y∈l->Fm y∧csz y<=20000:=fun y hy=>⟨(q4 y hy).2,(vcB_iff.1 (q4 y hy).1).1⟩
  rcases orTF (vcB (sbs [f] x 0)) with hvs|hvs
  ·rw[hvs,if_pos rfl] at hu
   subst hu
   obtain⟨g1,g2,_⟩:=hu2.ok rfl
   refine Tot2.iteL (fun h=>by cases h) (fun _=>Tot2.iteR (fun h=>by have:=ltT h;have:=(vcB_iff.1 hvs).1;omega) (fun _=>?_))
   refine Tot2.R hsub fun z hz=>?_
   subst hz
   obtain⟨b,e,hb⟩:=apps_T f l hll (by omega) (sbs [f] x 0) g1.sh g2
   have e':Ev (fun n=>zBn (f,l,0) n (sbs [f] x 0).Op (sbs [f] x 0).N (sbs [f] x 0).S (sbs [f] x 0).Kind.L (sbs [f] x 0).Names (sbs [f] x 0).L 0) b:=by
    obtain⟨N,e⟩:=e
    exact⟨N,fun n hn=>(apps_same f l n _ _ _ _ _ _ 0).trans (e n hn)⟩
   refine Tot2.L (A:=fun o=>o=b) ⟨_,e',rfl⟩ fun o ho=>Tot2.R (A:=fun o=>o=b) ⟨_,e,rfl⟩ fun o2 ho2=>?_
   subst ho;subst ho2
   refine Tot2.bind (Tame_E _ (by omega) hb.1) fun w w' hw=>?_
   rcases hw with ⟨_,w1,w2,w3,w4,w5⟩|⟨w1,w2,w3⟩
   ·rw[w1,w2]
    exact Tot2.iteL (fun h=>by cases h) (fun _=>Tot2.iteR (fun h=>by cases h) (fun _=>Tot2.pure (.inl ⟨rfl,rfl,w3,w4,w5⟩)))
   ·rw[w1]
    exact Tot2.iteL (fun _=>Tot2.iteR (fun _=>Tot2.pure (.inr ⟨rfl,.inr rfl⟩)) (fun h=>by cases h)) (fun h=>absurd (eqT (notF h)) w2)
  ·rw[hvs,if_neg (by simp)] at hu
   subst hu
   refine Tot2.iteL (fun _=>?_) (fun h=>by cases h)
   refine Tot2.iteR (fun _=>Tot2.pure (.inr ⟨rfl,.inr rfl⟩)) (fun hgr=>?_)
   have hgr:=ltF hgr
   refine Tot2.R hsub fun z hz=>?_
   subst hz
   have hfs:Sh (sbs [f] x 0)∧csz (sbs [f] x 0)<=20000:=by
    obtain⟨r,er,hr⟩:=zK8 [f] hl1 (by simp) x hfx (by omega) 0 20000 (by omega) (by omega) (by omega) (by omega)
    obtain⟨_,_,_,r4,r5,r6⟩:=hr
    have:=(r5 (r6 (by omega))).2.1
    rw[<-this]
    exact⟨r4,by rw[this];omega⟩
   obtain⟨b,e,hb⟩:=apps_T f l hll (by omega) (sbs [f] x 0) hfs.1 hfs.2
   refine Tot2.R (A:=fun o=>o=b) ⟨_,e,rfl⟩ fun o2 ho2=>?_
   subst ho2
   obtain⟨w,w',e1,e2,hw⟩:=Tame_E _ (by omega) hb.1
   have hw2:w'.2=false:=by
    rcases hw with ⟨w0,_⟩|⟨w1,_⟩
    ·have:=hb.2.2 w0
     rw[hvs] at this;cases this
    ·exact w1
   refine Tot2.R (A:=fun o=>o=w') ⟨_,e2,rfl⟩ fun o2 ho2=>?_
   subst ho2
   rw[hw2]
   exact Tot2.iteR (fun _=>Tot2.pure (.inr ⟨rfl,.inr rfl⟩)) (fun h=>by cases h)
 ·have h2':=h3 hv
  rw[h1,h2']
  exact Tot2.iteL (fun _=>Tot2.iteR (fun _=>Tot2.pure (.inr ⟨rfl,.inr rfl⟩)) (fun h=>by cases h)) (fun h=>by cases h)
theorem nok_len{p:zLn}(h:nok p=true):((p.Op=1∨p.Op=2∨p.Op=3)->p.L=[])∧(¬(p.Op=1∨p.Op=2∨p.Op=3∨p.Op=5)->p.L.length<=1):=by
 have h1:=(nok_iff.1 h).1
 unfold nodeB at h1
 refine⟨fun ho=>?_,fun ho=>?_⟩
 ·rcases ho with ho|ho|ho<;>simp[ho] at h1<;>exact h1.1
 ·by_cases h4:p.Op=4
  ·simp[h4] at h1;exact h1.1
  ·simp only[not_or] at ho
   simp[ho,h4] at h1
theorem Tot2.loop{α β1 β2 γ1 γ2:Type}(l:List α)(L1:Nat->Nat->β1->Nat->Option γ1)(S1:Nat->Nat->β1->α->Option (γ1 ⊕ β1))(E1:β1->γ1)(L2:Nat->Nat->β2->Nat->Option γ2)(S2:Nat->Nat->β2->α->Option (γ2 ⊕ β2))(E2:β2->γ2)
 (hL1: ∀n k b i,L1 n (k+1) b i=if ltI (i:Int) (l.length:Int)=true then (l[i]?).bind fun x=>(S1 n i b x).bind fun r=>Sum.elim some (fun b'=>L1 n k b' (i+1)) r else some (E1 b))
 (hL2: ∀n k b i,L2 n (k+1) b i=if ltI (i:Int) (l.length:Int)=true then (l[i]?).bind fun x=>(S2 n i b x).bind fun r=>Sum.elim some (fun b'=>L2 n k b' (i+1)) r else some (E2 b))
 (I:Nat->β1->β2->Prop) (R:γ1->γ2->Prop)
 (hS: ∀i b1 b2 x,l[i]? =some x->I i b1 b2->Tot2 (fun n=>S1 n i b1 x) (fun n=>S2 n i b2 x) (fun r1 r2=>(∃g1 g2,r1=.inl g1∧r2=.inl g2∧R g1 g2)∨(∃c1 c2,r1=.inr c1∧r2=.inr c2∧I (i+1) c1 c2)))
 (hE: ∀b1 b2,I l.length b1 b2->R (E1 b1) (E2 b2)) (b1:β1) (b2:β2) (h0:I 0 b1 b2):Tot2 (fun n=>L1 n n b1 0) (fun n=>L2 n n b2 0) R:=by
 have key: ∀m i b1 b2,i+m=l.length->I i b1 b2->∃g1 g2,R g1 g2∧(∃N,∀n,N<=n->∀k,m<k->L1 n k b1 i=some g1)∧(∃N,∀n,N<=n->∀k,m<k->L2 n k b2 i=some g2):=by
  intro m
  induction m with
  |zero=>
   intro i b1 b2 hi hI
   refine⟨E1 b1,E2 b2,hE b1 b2 (by rw[<-hi];exact hI),⟨0,fun n _ k hk=>?_⟩,⟨0,fun n _ k hk=>?_⟩⟩
   ·obtain⟨k,rfl⟩: ∃q,k=q+1:=⟨k-1,by omega⟩
    rw[hL1,if_neg (ltN (by omega))]
   ·obtain⟨k,rfl⟩: ∃q,k=q+1:=⟨k-1,by omega⟩
    rw[hL2,if_neg (ltN (by omega))]
  |succ m ih=>
   intro i b1 b2 hi hI
   have hx:l[i]? =some l[i]:=zq2 (by omega)
   obtain⟨r1,r2,⟨N1,e1⟩,⟨N2,e2⟩,hr⟩:=hS i b1 b2 l[i] hx hI
   rcases hr with ⟨g1,g2,rfl,rfl,hR⟩|⟨c1,c2,rfl,rfl,hI'⟩
   ·refine⟨g1,g2,hR,⟨N1,fun n hn k hk=>?_⟩,⟨N2,fun n hn k hk=>?_⟩⟩
    ·obtain⟨k,rfl⟩: ∃q,k=q+1:=⟨k-1,by omega⟩
     rw[hL1,if_pos (ltP (by omega)),hx,zBH,show S1 n i b1 l[i]=_ from e1 n hn,zBH];rfl
    ·obtain⟨k,rfl⟩: ∃q,k=q+1:=⟨k-1,by omega⟩
     rw[hL2,if_pos (ltP (by omega)),hx,zBH,show S2 n i b2 l[i]=_ from e2 n hn,zBH];rfl
   ·obtain⟨g1,g2,hR,⟨N3,e3⟩,⟨N4,e4⟩⟩:=ih (i+1) c1 c2 (by omega) hI'
    refine⟨g1,g2,hR,⟨N1+N3,fun n hn k hk=>?_⟩,⟨N2+N4,fun n hn k hk=>?_⟩⟩
    ·obtain⟨k,rfl⟩: ∃q,k=q+1:=⟨k-1,by omega⟩
     rw[hL1,if_pos (ltP (by omega)),hx,zBH,show S1 n i b1 l[i]=_ from e1 n (by omega),zBH]
     exact e3 n (by omega) k (by omega)
    ·obtain⟨k,rfl⟩: ∃q,k=q+1:=⟨k-1,by omega⟩
     rw[hL2,if_pos (ltP (by omega)),hx,zBH,show S2 n i b2 l[i]=_ from e2 n (by omega),zBH]
     exact e4 n (by omega) k (by omega)
 obtain⟨g1,g2,hR,⟨N1,e1⟩,⟨N2,e2⟩⟩:=key l.length 0 b1 b2 (by omega) h0
 exact⟨g1,g2,⟨N1+l.length+1,fun n hn=>e1 n (by omega) n (by omega)⟩,⟨N2+l.length+1,fun n hn=>e2 n (by omega) n (by omega)⟩,hR⟩
theorem num_same(l:List (List UInt8))(hl:l.length<=1000000)(fuel:Nat)(hf:20<=fuel): ∀k i:Nat,i<=l.length->zBy fuel l (l.length:Int) k (i:Int)=zBD l k i
 |0,i,_=>rfl
 |k+1,i,hi=>by
  rw[zBy,zBD,idxN]
  split
  ·rename_i h
   have h:=ltT h
   rw[zq2 (show i<l.length by omega),zBH,zBH,zIN (by omega) (by omega),zBH,show((i:Int)+1)=((i+1:Nat):Int) by omega,Decimal_M 6 (i+1) (by omega) (by omega) fuel (by omega),itoa_M (i+1) (by omega),zBH,zBH,num_same l hl fuel hf k (i+1) (by omega)]
  ·rfl
theorem Numbered_E(l:List (List UInt8))(m:Int)(hl:l.length<=1000000):Tot2 (fun n=>zBm n l m) (fun n=>zDZ n l m) (fun b b'=>b=b'∧(b=true->(l.length:Int)=m)):=by
 obtain⟨b,⟨N,hN⟩,hq⟩:=numbered_T l m hl
 refine⟨b,b,⟨N,hN⟩,⟨N+20,fun n hn=>?_⟩,rfl,hq⟩
 have:=hN n (by omega)
 have e:zDZ n l m=zBm n l m:=by
  rw[zDZ,zBm]
  split
  ·rfl
  ·rename_i h
   have h:eqI (l.length:Int) m=true:=by simpa using h
   rw[<-eqT h]
   have:=num_same l hl n (by omega) n 0 (by omega)
   rw[show((0:Nat):Int)=0 from rfl] at this
   rw[this]
 exact e.trans this
theorem find_same(l:List (List UInt8))(s:List UInt8): ∀k i,zBp l s k i=zCN l s k i
 |0,i=>rfl
 |k+1,i=>by rw[zBp,zCN];simp only[find_same l s k]
theorem Find_E(l:List (List UInt8))(s:List UInt8):Tot2 (fun n=>zDp n l s) (fun n=>zCe n l s) (fun r r'=>r=r'∧(r<0∨(0<=r∧r<l.length))):=by
 obtain⟨b,⟨N,hN⟩,hq⟩:=Find_T l s
 refine⟨b,b,⟨N,hN⟩,⟨N,fun n hn=>?_⟩,rfl,hq⟩
 have:=hN n (by omega)
 rw[<-this]
 show zCe n l s=zDp n l s
 rw[zCe,zDp,find_same]
theorem var_self{c:zLm}(hf:Fm c)(hv:cokB c=true)(h:eqI c.Op 1=true):cVar c.N=c:=by
 have hn:=(cokB_iff.1 hv).1
 obtain⟨e1,e2⟩:=zEI hf.here (by rw[h];rfl)
 have ho:=eqT h
 unfold ndB at hn
 simp only[zq7] at hn
 have hs:c.S=[]:=by
  have:=hn.2.2.1
  unfold strB at this
  rw[if_neg (by rw[ho];decide)] at this
  exact of_decide_eq_true this
 have hk:c.Kind=zLl.mk []:=by
  have:=hn.2.2.2.1
  unfold knB bndB at this
  rw[if_neg (by rw[ho];decide)] at this
  have h0:ltI 0 (c.Kind.L.length:Int)=false:=by simpa using this
  have h0:=ltF h0
  rw[<-kindEta c.Kind,List.eq_nil_of_length_eq_zero (l:=c.Kind.L) (by omega)]
 unfold cVar
 conv=>rhs;rw[<-zLZ c,ho,hs,hk,e1,e2]
theorem shf_zero(c:zLm):Fm c->cokB c=true->∀b,shf 0 0 c b=c:=by
 induction c using zCv with
 |h c ih=>
 intro hf hv b
 rw[shf_eq]
 rcases orTF (eqI c.Op 1||eqI c.Op 2) with h|h
 ·rw[if_pos h]
  unfold zH3
  split
  ·rename_i h2
   rw[zq7] at h2
   rw[Int.add_zero]
   exact var_self hf hv h2.1
  ·exact zFz hf.here h
 ·rw[if_neg (by rw[h];simp)]
  have:c.L.map (fun x=>shf 0 0 x (if bndB c=true then b+1 else b))=c.L:=by
   conv=>rhs;rw[<-List.map_id c.L]
   exact List.map_congr_left fun x hx=>ih x hx (hf.part hx) ((cokB_iff.1 hv).2 x hx) _
  rw[this,zLZ]
def TyR(w:List zLk)(k:Nat)(r:Int×zLj)(r':List zLk×Int):Prop:=r.1=r'.2∧(r.1=0->r.2.binds=r'.1∧r'.1.length<=w.length+k)∧(r.1≠0->r'.1=[])
theorem TyR.err{w:List zLk}{k:Nat}{e:Int}{x:zLj}(h:e≠0):TyR w k (e,x) ([],e):=⟨rfl,fun h'=>absurd h' h,fun _=>rfl⟩
theorem TyR.fine{w:List zLk}{k:Nat}{l:List zLk}(h:l.length<=w.length+k):TyR w k (0,⟨l⟩) (l,0):=⟨rfl,fun _=>⟨rfl,h⟩,fun h'=>absurd rfl h'⟩
theorem typed_E(p:zLn):nok p=true->∀(c:zLm)(w:List zLk),Fm c->vcB c=true->w.length+nds p<=1000->Tot2 (fun n=>zAY n p c ⟨w⟩) (fun n=>zBl n w p c) (TyR w (nds p)):=by
 induction p using zIp with
 |h p ih=>
 intro hn c w hf hv hw
 have hp:=nds_pos p
 have hcs:=(vcB_iff.1 hv).1
 obtain⟨hnd,hns⟩:=nok_iff.1 hn
 have hlen:=nok_len hn
 refine Tot2.step (fun n=>by rw[zAY]) (fun n=>by rw[zBl]) ?_
 refine Tot2.iteL (fun h1=>?_) (fun h1=>Tot2.iteL (fun h2=>Tot2.iteR (fun _=>?_) (fun h=>by rw[h2] at h;cases h)) (fun h2=>Tot2.iteR (fun h=>by rw[h2] at h;cases h) (fun _=>Tot2.iteL (fun h3=>Tot2.iteR (fun _=>?_) (fun h=>by rw[h3] at h;cases h)) (fun h3=>Tot2.iteR (fun h=>by rw[h3] at h;cases h) (fun _=>Tot2.iteL (fun h5=>Tot2.iteR (fun _=>?_) (fun h=>by rw[h5] at h;cases h)) (fun h5=>Tot2.iteR (fun h=>by rw[h5] at h;cases h) (fun _=>?_)))))))
 ·have ho:=eqT h1
  refine Tot2.iteR (fun h=>by rw[ho] at h;cases h) (fun _=>Tot2.iteR (fun h=>by rw[ho] at h;cases h) (fun _=>Tot2.iteR (fun h=>by rw[ho] at h;cases h) (fun _=>Tot2.iteR (fun h=>by rw[ho] at h;cases h) (fun _=>Tot2.pure (TyR.fine (by omega))))))
 ·refine Tot2.L (Shift_E c 0 (.inl rfl) (by omega) hf.sh hv) fun v hv2=>?_
  rw[shf_zero c hf (vcB_iff.1 hv).2.2 0,hv,if_neg (by simp),if_pos rfl] at hv2
  subst hv2
  refine Tot2.kL (zDH (by decide) (by simp;omega)) (Tot2.kR (zDH (by decide) (by simp;omega)) (Tot2.kR (zDH (by decide) (by simp;omega)) (by rw[List.nil_append];exact Tot2.pure (TyR.fine (by simp;omega)))))
 ·refine Tot2.iteL (fun h=>Tot2.iteR (fun _=>Tot2.pure (TyR.err (by decide))) (fun h'=>by rw[h] at h';cases h')) (fun h=>Tot2.iteR (fun h'=>by rw[h] at h';cases h') (fun _=>Tot2.pure (TyR.fine (by omega))))
 ·refine Tot2.bind (A:=fun b b'=>b=b'∧(b=false->c.L.length=p.L.length)) ?_ (fun b b' hb=>?_)
  ·refine Tot2.iteL (fun h=>Tot2.iteR (fun _=>Tot2.pure ⟨rfl,fun h=>by cases h⟩) (fun h'=>by rw[h] at h';cases h')) (fun h=>Tot2.iteR (fun h'=>by rw[h] at h';cases h') (fun _=>?_))
   have ho:=eqT (notF h)
   have hln:=hf.here.len.2.2 (.inl ho)
   refine Tot2.bind (Numbered_E c.Names (p.L.length:Int) (by have:=hf.here.names;omega)) fun v v' hv=>Tot2.pure ⟨by rw[hv.1],fun h=>?_⟩
   have:=hv.2 (notF h)
   omega
  obtain⟨rfl,hb⟩:=hb
  refine Tot2.iteL (fun h=>Tot2.iteR (fun _=>Tot2.pure (TyR.err (by decide))) (fun h'=>by rw[h] at h';cases h')) (fun h=>Tot2.iteR (fun h'=>by rw[h] at h';cases h') (fun _=>?_))
  have hl:=hb h
  refine Tot2.bind (A:=fun o o'=>(∃a a',o=.inl a∧o'=.inl a'∧a.1=a'.2∧a.1≠0∧a'.1=[])∨(∃z,o=.inr z∧o'=.inr z∧z.length<=w.length+nds p)) ?_ (fun o o' ho=>?_)
  ·refine Tot2.loop p.L (fun n k b i=>zA5 (zAY n) p c k b i) (fun n i b x=>(c.L[i]?).bind fun y=>(zAY n x y ⟨b⟩).bind fun v=>if (!(eqI v.1 0))=true then some (.inl (.inl (v.1,v.2))) else some (.inr v.2.binds)) .inr
    (fun n k b i=>zCy (zBl n) p c k b i) (fun n i b x=>(c.L[i]?).bind fun y=>(zBl n b x y).bind fun v=>if (!(eqI v.2 0))=true then some (.inl (.inl ([],v.2))) else some (.inr v.1)) .inr
    (fun n k b i=>?_) (fun n k b i=>?_) (fun i b b'=>b=b'∧b.length<=w.length+((p.L.take i).map nds).sum) _ (fun i b b' x hx hb=>?_) (fun b b' hb=>.inr ⟨b,rfl,by rw[hb.1],?_⟩) w w ⟨rfl,by simp⟩
   ·rw[zA5]
    split
    ·congr 1;funext x
     rw[Option.bind_assoc]
     congr 1;funext y
     rw[Option.bind_assoc]
     congr 1;funext v
     split<;>rfl
    ·rfl
   ·rw[zCy]
    split
    ·congr 1;funext x
     rw[Option.bind_assoc]
     congr 1;funext y
     rw[Option.bind_assoc]
     congr 1;funext v
     split<;>rfl
    ·rfl
   ·obtain⟨rfl,hb⟩:=hb
    have hi:=(zq1 hx).1
    have hm:=zq3 hx
    have hy:c.L[i]? =some c.L[i]:=zq2 (by omega)
    have hym:c.L[i]∈c.L:=List.getElem_mem _
    have h2:=zD8 nds p.L (i+1)
    rw[zBj nds _ _ _ hx] at h2
    have h3:=zKH p
    refine Tot2.kL hy (Tot2.kR hy (Tot2.bind (ih x hm (hns x hm) c.L[i] b (hf.part hym) (zF5 hv hym) (by omega)) fun v v' hv=>?_))
    obtain⟨q1,q2,_⟩:=hv
    refine Tot2.iteL (fun h=>Tot2.iteR (fun _=>Tot2.pure (.inl ⟨_,_,rfl,rfl,.inl ⟨_,_,rfl,rfl,q1,eqF (notT h),rfl⟩⟩)) (fun h'=>by rw[<-q1,h] at h';cases h')) (fun h=>Tot2.iteR (fun h'=>by rw[<-q1,h] at h';cases h') (fun _=>Tot2.pure (.inr ⟨_,_,rfl,rfl,?_,?_⟩)))
    ·exact(q2 (eqT (notF h))).1
    ·have q3:=q2 (eqT (notF h))
     rw[zBj nds _ _ _ hx,q3.1]
     have:=q3.2
     omega
   ·have:=hb.2
    rw[List.take_length] at this
    rw[zKH];omega
  ·rcases ho with ⟨a,a',rfl,rfl,q1,q2,q3⟩|⟨z,rfl,rfl,q⟩
   ·exact Tot2.pure ⟨q1,fun h=>absurd h q2,fun _=>q3⟩
   ·exact Tot2.pure (TyR.fine q)
 ·have h4:eqI p.Op 4=true:=by
   refine zqb (Classical.byContradiction fun h4=>?_)
   unfold nodeB at hnd
   rw[if_neg (eqF h1),if_neg (eqF h2),if_neg (eqF h3),if_neg h4,if_neg (eqF h5)] at hnd
   cases hnd
  have ho:=eqT h4
  have hl1:=hlen.2 (by omega)
  refine Tot2.iteR (fun _=>?_) (fun h=>by rw[h4] at h;cases h)
  have con:Tot2 (fun n=>zAo n p c ⟨w⟩) (fun n=>(zDm n c).bind fun v67=>
   if (!(eqI v67.2 0))=true then
    some (([]:List zLk),v67.2)
   else if (!(eqI v67.1.Op 8))=true then
    some (([]:List zLk),12)
   else
    (zCe n v67.1.Names p.S).bind fun v79=>
    if ltI v79 0=true then
     some (([]:List zLk),10)
    else
     (idx v67.1.L v79).bind fun x84=>
     (zFn x84).bind fun v88=>
     if (!(eqB v88 (eqI (p.L.length:Int) 0)))=true then
      some (([]:List zLk),12)
     else if eqI (p.L.length:Int) 1=true then
      (p.L[0]?).bind fun x95=>
      ((zBl n) w x95 x84).bind fun v97=>
      some (v97.1,v97.2)
     else
      some (w,0)) (TyR w (nds p)):=by
   obtain⟨a,b,⟨N1,e1⟩,e2,hab⟩:=Unroll_E c hf hv
   have stp:Tot2 (fun n=>(zDw n c).bind fun v4=>
  if eqI v4.2 27=true then
   some (v4.2,(⟨w⟩:zLj))
  else if ((!(eqI v4.2 0))||(!(eqI v4.1.Op 8)))=true then
   some (12,⟨w⟩)
  else
   (zDp n v4.1.Names p.S).bind fun v21=>
   if ltI v21 0=true then
    some (10,⟨w⟩)
   else
    (idx v4.1.L v21).bind fun x26=>
    (zFX x26).bind fun v30=>
    if (!(eqB v30 (eqI (p.L.length:Int) 0)))=true then
     some (12,⟨w⟩)
    else if eqI (p.L.length:Int) 0=true then
     some (0,⟨w⟩)
    else
     (p.L[0]?).bind fun x38=>
     ((zAY n) x38 x26 ⟨w⟩).bind fun v40=>
     some (v40.1,v40.2)) (fun n=>(zDm n c).bind fun v67=>
   if (!(eqI v67.2 0))=true then
    some (([]:List zLk),v67.2)
   else if (!(eqI v67.1.Op 8))=true then
    some (([]:List zLk),12)
   else
    (zCe n v67.1.Names p.S).bind fun v79=>
    if ltI v79 0=true then
     some (([]:List zLk),10)
    else
     (idx v67.1.L v79).bind fun x84=>
     (zFn x84).bind fun v88=>
     if (!(eqB v88 (eqI (p.L.length:Int) 0)))=true then
      some (([]:List zLk),12)
     else if eqI (p.L.length:Int) 1=true then
      (p.L[0]?).bind fun x95=>
      ((zBl n) w x95 x84).bind fun v97=>
      some (v97.1,v97.2)
     else
      some (w,0)) (TyR w (nds p)):=by
    refine Tot2.bind (A:=UnR) ⟨a,b,⟨N1,e1⟩,e2,hab⟩ fun r r' hr=>?_
    rcases hr with ⟨q1,q2,q3,q4,q5⟩|⟨q1,q2⟩
    ·rw[q1,q2,<-q3]
     refine Tot2.iteL (fun h=>by cases h) (fun _=>Tot2.iteR (fun h=>by cases h) (fun _=>?_))
     refine Tot2.iteL (fun h=>Tot2.iteR (fun _=>Tot2.pure (TyR.err (by decide))) (fun h'=>?_)) (fun h=>Tot2.iteR (fun h'=>?_) (fun _=>?_))
     ·rw[h'] at h;cases h
     ·rw[h'] at h;cases h
     have h8:eqI r.1.Op 8=true:=by
      rcases orTF (eqI r.1.Op 8) with h9|h9
      ·exact h9
      ·rw[h9] at h;cases h
     have hln:=q5.here.len.2.2 (.inr (eqT h8))
     refine Tot2.bind (Find_E r.1.Names p.S) fun i i' hi=>?_
     obtain⟨rfl,hi⟩:=hi
     refine Tot2.iteL (fun h=>Tot2.iteR (fun _=>Tot2.pure (TyR.err (by decide))) (fun h'=>by rw[h] at h';cases h')) (fun h=>Tot2.iteR (fun h'=>by rw[h] at h';cases h') (fun _=>?_))
     have h:=ltF h
     obtain⟨x,hx,z1,z2⟩:=idxI r.1.L i (by omega) (by omega)
     refine Tot2.kL z1 (Tot2.kR z1 (Tot2.kL (a:=eqI x.Op 7&&eqI (x.L.length:Int) 0) rfl (Tot2.kR (a:=eqI x.Op 7&&eqI (x.L.length:Int) 0) rfl ?_)))
     refine Tot2.iteL (fun h=>Tot2.iteR (fun _=>Tot2.pure (TyR.err (by decide))) (fun h'=>by rw[h] at h';cases h')) (fun h=>Tot2.iteR (fun h'=>by rw[h] at h';cases h') (fun _=>?_))
     refine Tot2.iteL (fun h0=>Tot2.iteR (fun h1=>?_) (fun _=>Tot2.pure (TyR.fine (by omega)))) (fun h0=>Tot2.iteR (fun _=>?_) (fun h1=>?_))
     ·have:=eqT h0;have:=eqT h1;omega
     ·have h0:=eqF h0
      obtain⟨y,hy,hym⟩:=at0 (l:=p.L) (by omega)
      have hny:=nds_mem hym
      refine Tot2.kL hy (Tot2.kR hy (Tot2.bind (ih y hym (hns y hym) x w (q5.part hx) (zF5 q4 hx) (by omega)) fun v v' hv=>Tot2.pure ⟨hv.1,fun h=>?_,hv.2.2⟩))
      have:=hv.2.1 h
      exact⟨this.1,by have:=this.2;simp only;omega⟩
     ·have h0:=eqF h0;have h1:=eqF h1;omega
    ·refine Tot2.iteR (fun _=>?_) (fun h=>?_)
     ·rw[<-q1]
      rcases q2 with q2|q2<;>rw[q2]
      ·exact Tot2.iteL (fun h=>by cases h) (fun _=>Tot2.iteL (fun _=>Tot2.pure (TyR.err (by decide))) (fun h=>by cases h))
      ·exact Tot2.iteL (fun _=>Tot2.pure (TyR.err (by decide))) (fun h=>by cases h)
     ·rw[<-q1] at h
      rcases q2 with q2|q2<;>rw[q2] at h<;>cases h
   obtain⟨a,b,⟨N3,e3⟩,e4,hab⟩:=stp
   exact⟨a,b,Ev.step (fun n=>by rw[zAo]) ⟨N3,e3⟩,e4,hab⟩
  obtain⟨a,b,⟨N3,e3⟩,e4,hab⟩:=con
  exact⟨a,b,⟨N3,fun n hn=>by show(zAo n p c ⟨w⟩).bind _=_;rw[show zAo n p c ⟨w⟩=some a from e3 n hn,zBH]⟩,e4,hab⟩
theorem zI3{α:Type}(l:List α)(L:Nat->Nat->Nat->Option (Bool ⊕ Unit))(F:Nat->α->α->Option Bool)
 (hL: ∀n k i,L n (k+1) i=if ltI (i:Int) (l.length:Int)=true then (l[i]?).bind fun x=>(l[i]?).bind fun y=>(F n x y).bind fun v=>if (!v)=true then some (.inl false) else L n k (i+1) else some (.inr ()))
 (hF: ∀x,x∈l->Tot (fun n=>F n x x) fun b=>b=true):Tot (fun n=>L n n 0) fun o=>o=.inr ():=by
 refine Tot.loop l (fun n k (b:Unit) i=>L n k i) (fun n i b x=>(l[i]?).bind fun y=>(F n x y).bind fun v=>if (!v)=true then some (.inl (.inl false)) else some (.inr ())) (fun _=>.inr ())
  (fun n k b i=>by
   rw[hL]
   split
   ·congr 1;funext x
    rw[Option.bind_assoc]
    congr 1;funext y
    rw[Option.bind_assoc]
    congr 1;funext v
    split<;>rfl
   ·rfl) (fun _ _=>True) _ (fun i b x hx _=>?_) (fun _ _=>rfl) () trivial
 refine Tot.k hx (Tot.bind (hF x (zq3 hx)) fun v hv=>?_)
 subst hv
 exact Tot.ite (fun h=>by cases h) (fun _=>Tot.pure ⟨fun g hg=>(by cases hg),fun _ _=>trivial⟩)
theorem lenSelf{α:Type}(l:List α):eqI (l.length:Int) (l.length:Int)=true:=zqb rfl
theorem SameKind_E(k:zLl):Tot (fun n=>zBf n k k) fun b=>b=true:=by
 induction k using zJl with
 |h k ih=>
 refine Tot.step (fun n=>by rw[zBf]) ?_
 rw[lenSelf]
 refine Tot.ite (fun h=>by cases h) (fun _=>?_)
 refine Tot.bind (zI3 k.L (fun n kk i=>zBz (zBf n) k k kk i) (fun n x y=>zBf n x y) (fun n kk i=>by rw[zBz]) ih) fun o ho=>?_
 subst ho
 exact Tot.pure rfl
theorem SameNames_E(l:List (List UInt8)):Tot (fun n=>zFp n l l) fun b=>b=true:=by
 unfold zFp
 rw[lenSelf]
 refine Tot.ite (fun h=>by cases h) (fun _=>?_)
 refine Tot.bind (zI3 l (fun n kk i=>zDO l l kk i) (fun n x y=>some (eqS x y)) (fun n kk i=>by rw[zDO];rfl) fun x _=>Tot.pure (zqb rfl)) fun o ho=>?_
 subst ho
 exact Tot.pure rfl
theorem Same_E(c:zLm):Tot (fun n=>zC3 n c c) fun b=>b=true:=by
 induction c using zCv with
 |h c ih=>
 refine Tot.step (fun n=>by rw[zC3]) ?_
 refine Tot.bind (A:=fun b=>b=false) ?_ fun b hb=>?_
 ·rw[show eqI c.Op c.Op=true from zqb rfl,show eqI c.N c.N=true from zqb rfl,show eqS c.S c.S=true from zqb rfl,lenSelf]
  refine Tot.ite (fun h=>by cases h) (fun _=>Tot.ite (fun h=>by cases h) (fun _=>Tot.ite (fun h=>by cases h) (fun _=>Tot.ite (fun h=>by cases h) (fun _=>?_))))
  refine Tot.bind (SameKind_E c.Kind) fun v hv=>?_
  subst hv
  refine Tot.ite (fun h=>by cases h) (fun _=>Tot.bind (SameNames_E c.Names) fun v hv=>Tot.pure (by rw[hv];rfl))
 subst hb
 refine Tot.ite (fun h=>by cases h) (fun _=>?_)
 refine Tot.bind (zI3 c.L (fun n kk i=>zDN (zC3 n) c c kk i) (fun n x y=>zC3 n x y) (fun n kk i=>by rw[zDN]) ih) fun o ho=>?_
 subst ho
 exact Tot.pure rfl
theorem SameBinds_E(l:List zLk):Tot (fun n=>zC8 n l l) fun b=>b=true:=by
 unfold zC8
 rw[lenSelf]
 refine Tot.ite (fun h=>by cases h) (fun _=>?_)
 refine Tot.bind (zI3 l (fun n kk i=>zBg n l l kk i) (fun n x y=>if (!(eqS x.Name y.Name))=true then some false else (zC3 n x.Con y.Con).bind fun v=>some v) (fun n kk i=>?_) fun x _=>?_) fun o ho=>?_
 ·rw[zBg]
  split
  ·rw[Option.bind_assoc]
   congr 1;funext x
   rw[Option.bind_assoc]
   congr 1;funext y
   split
   ·rfl
   ·rw[Option.bind_assoc,Option.bind_assoc]
    congr 1
  ·rfl
 ·rw[show eqS x.Name x.Name=true from zqb rfl]
  exact Tot.ite (fun h=>by cases h) (fun _=>Tot.bind (Same_E x.Con) fun v hv=>Tot.pure hv)
 ·subst ho
  exact Tot.pure rfl
theorem Types_E(p:zLn)(c:zLm)(hp:nds p<=200)(hpv:vld p=true)(hc:csz c<=1000000000000)(hs:Sh c)(hv:vcB c=true):Tot2 (fun n=>zDF n p c) (fun n=>zE7 n p c) (fun r r'=>r=r'):=by
 unfold zDF zE7
 refine Tot2.L (A:=fun b=>b=false) ?_ fun b hb=>?_
 ·refine Tot.bind (Ev.of (K:=wt p) fun n hn=>Valid_M p hn hp).tot fun v hv2=>?_
  rw[hpv] at hv2
  subst hv2
  exact Tot.ite (fun h=>by cases h) (fun _=>Tot.bind (zIL c hc hs) fun v hv2=>Tot.pure (by rw[hv2,hv];rfl))
 subst hb
 refine Tot2.iteL (fun h=>by cases h) (fun _=>Tot2.bind (Tame_E c hc hs) fun r r' hr=>?_)
 rcases hr with ⟨_,w1,w2,w3,w4,w5⟩|⟨w1,w2,w3⟩
 ·rw[w1,w2,<-w3]
  refine Tot2.iteL (fun h=>by cases h) (fun _=>Tot2.iteR (fun h=>by cases h) (fun _=>?_))
  refine Tot2.bind (typed_E p (vld_nok hpv) r.1 [] w5 w4 (by simp;omega)) fun v v' hv'=>?_
  obtain⟨q1,q2,q3⟩:=hv'
  refine Tot2.iteL (fun h=>Tot2.pure ?_) (fun h=>Tot2.pure ?_)
  ·rw[q1,q3 (eqF (notT h))]
  ·have h0:=eqT (notF h)
   rw[(q2 h0).1,<-q1,h0]
 ·rw[w1,w3 hv]
  exact Tot2.iteL (fun _=>Tot2.iteR (fun _=>Tot2.pure rfl) (fun h=>by cases h)) (fun h=>by cases h)
theorem Type_bad(p:zLn)(c:zLm)(hp:nds p<=200)(hc:csz c<=1000000000000)(hs:Sh c)(h:vld p=false∨vcB c=false):Tot (fun n=>zDF n p c) (fun r=>r=([],1)):=by
 unfold zDF
 refine Tot.bind (A:=fun b=>b=true) ?_ fun b hb=>?_
 ·refine Tot.bind (Ev.of (K:=wt p) fun n hn=>Valid_M p hn hp).tot fun v hv2=>?_
  subst hv2
  refine Tot.ite (fun _=>Tot.pure rfl) (fun h2=>Tot.bind (zIL c hc hs) fun v hv2=>Tot.pure ?_)
  have h2:=notF h2
  rcases h with h|h
  ·rw[h] at h2;cases h2
  ·rw[hv2,h];rfl
 ·subst hb
  exact Tot.ite (fun _=>Tot.pure rfl) (fun h=>by cases h)
theorem types_rest(p:zLn)(c:zLm)(hp:nds p<=200)(hc:csz c<=400)(hs:Sh c):Tot (fun fuel=>
 (zDF fuel p c).bind fun v16=>
 ((zD3 fuel p).bind fun v18=>
 if (!v18)=true then
  some true
 else
  (zCR fuel c).bind fun v23=>
  some (!v23):Option Bool).bind fun b25=>
 if b25=true then
  some ((eqI v16.2 1)&&(eqI (v16.1.length:Int) 0))
 else
  (zE7 fuel p c).bind fun v31=>
  (if eqI v16.2 v31.2=true then
   (zC8 fuel v16.1 v31.1).bind fun v35=>
   some v35
  else
   some false:Option Bool).bind fun b38=>
  some b38) fun b=>b=true:=by
 have rest:Tot (fun n=>(zD3 n p).bind fun v18=>if (!v18)=true then some true else (zCR n c).bind fun v23=>some (!v23)) (fun b=>b= !(vld p&&vcB c)):=by
  refine Tot.bind (Ev.of (K:=wt p) fun n hn=>RValid_M p hn hp).tot fun v hv=>?_
  subst hv
  cases vld p
  ·exact Tot.pure rfl
  ·exact Tot.ite (fun h=>by cases h) (fun _=>Tot.bind (zIh c) fun v hv=>Tot.pure (by rw[hv];rfl))
 rcases orTF (vld p&&vcB c) with hv|hv
 ·rw[zq7] at hv
  obtain⟨r,r',e1,e2,hr⟩:=Types_E p c hp hv.1 (by omega) hs hv.2
  subst hr
  refine Tot.bind (A:=fun o=>o=r) ⟨_,e1,rfl⟩ fun o ho=>?_
  subst ho
  refine Tot.bind rest fun b hb=>?_
  rw[hv.1,hv.2] at hb
  subst hb
  refine Tot.ite (fun h=>by cases h) (fun _=>?_)
  refine Tot.bind (A:=fun q=>q=o) ⟨_,e2,rfl⟩ fun q hq=>?_
  subst hq
  refine Tot.bind (A:=fun b=>b=true) ?_ fun b hb=>Tot.pure hb
  rw[show eqI q.2 q.2=true from zqb rfl]
  exact Tot.ite (fun _=>Tot.bind (SameBinds_E q.1) fun v hv=>Tot.pure hv) (fun h=>by cases h)
 ·refine Tot.bind (Type_bad p c hp (by omega) hs (Bool.and_eq_false_iff.1 hv)) fun o ho=>?_
  subst ho
  refine Tot.bind rest fun b hb=>?_
  rw[hv] at hb
  subst hb
  exact Tot.ite (fun _=>Tot.pure rfl) (fun h=>by cases h)
theorem zI1(p:zLn)(c:zLm): ∃fuel,zCG fuel p c=some true:=by
 obtain⟨bw,⟨N1,hbw⟩,hwide⟩:=Wide_T c
 by_cases hsp:nds p<=200
 ·cases bw with
  |true=>
   refine⟨N1+wt p,?_⟩
   obtain⟨bp,hbp,_⟩:=Big_M p (fuel:=N1+wt p) (by omega)
   rw[zCG,zFO,zBH,hbp,show zEW (N1+wt p) c=some true from hbw _ (by omega)]
   cases bp<;>rfl
  |false=>
   obtain⟨hc,hs⟩:=hwide rfl
   obtain⟨r,⟨N2,h2⟩,rfl⟩:=types_rest p c hsp hc hs
   refine⟨N1+N2+wt p,?_⟩
   obtain⟨bp,hbp,_⟩:=Big_M p (fuel:=N1+N2+wt p) (by omega)
   rw[zCG,zFO,zBH,hbp,show zEW (N1+N2+wt p) c=some false from hbw _ (by omega)]
   cases bp with
   |true=>rfl
   |false=>exact h2 (N1+N2+wt p) (by omega)
 ·refine⟨wt p,?_⟩
  obtain⟨bp,hbp,hb⟩:=Big_M p (fuel:=wt p) (Nat.le_refl _)
  cases bp with
  |true=>rw[zCG,zFO,zBH,hbp];rfl
  |false=>exact absurd (hb rfl) hsp
end Go.Proofs.YtencdekdgajgfaaGreatDoor
