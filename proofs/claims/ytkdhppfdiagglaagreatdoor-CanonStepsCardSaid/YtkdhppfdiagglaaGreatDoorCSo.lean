/- CanonSteps holds: for every input the law returns true. No condition. Part 15 of 19. No condition. -/
import Derived.Test.YtkdhppfdiagglaaGreatDoorCSn
import Derived.Test.YtkdhppfdiagglaaGreatDoorRows
import Derived.Shelf.Vars
import Derived.Lib.LaidU8
import Derived.Lib.LaidTab
import Derived.Stop.Joined
import Derived.Stop.LaidErr
set_option linter.unusedVariables false
set_option linter.unnecessarySimpa false
set_option linter.unusedSimpArgs false
set_option maxRecDepth 100000
set_option maxHeartbeats 4000000
namespace Go.Proofs.YtkdhppfdiagglaaGreatDoor
open Go Go.Abs
inductive GdC:zMZ->Prop
 |mk (c:zMZ) (h:c.S.length<=140737488351232) (hs: ∀x,x∈c.L->GdC x):GdC c
inductive GdS:zMa->Prop
 |mk (s:zMa) (h:GdC s.Con) (hs: ∀x,x∈s.L->GdS x):GdS s
def zMZ.good(c:zMZ):Prop:=GdC c
def zMa.good(s:zMa):Prop:=GdS s
def zMb.good(a:zMb):Prop:=GdS a.S
theorem op24(n:Nat):zGo Tryz.prog n 24 zMY.c (fun _=>True):=by
 induction n using Nat.strongRecOn with
 |_ n ih=>
  exact zFw Tryz.underlying24 (N:=1) (by kernel_rfl) (fun p=>zMY.mk p.1) (fun p=>by simp) (fun _ _=>trivial) (fun k hk=>
   zA4 rfl (k:=1) (by kernel_rfl) (zFa Tryz.underlying22 (m:=1) (b:=24) (by kernel_rfl) (by kernel_rfl) (by decide) (fun a=>by simp) (fun j hj=>ih j (by omega))) (zHC (by decide)))
theorem opKs(n:Nat):zGo Tryz.prog n 22 (cL zMY.c) (fun l=>l.length*24<=140737488351232∧∀x∈l,True):=
 zFa Tryz.underlying22 (m:=1) (b:=24) (by kernel_rfl) (by kernel_rfl) (by decide) (fun a=>by simp) (fun j hj=>op24 j)
theorem opNs(n:Nat):zGo Tryz.prog n 25 (cL cS) (fun l=>l.length*16<=140737488351232∧∀x∈l,x.length<=140737488351232):=
 zFa Tryz.underlying25 (m:=1) (b:=16) (by kernel_rfl) (by kernel_rfl) (by decide) (fun a=>by simp) (fun j hj=>zJH Tryz.underlying9 j)
theorem op28(n:Nat):zGo Tryz.prog n 28 zMZ.c zMZ.good:=by
 induction n using Nat.strongRecOn with
 |_ n ih=>
  exact zFw Tryz.underlying28 (N:=6) (by kernel_rfl) (fun p=>⟨p.1,p.2.1,p.2.2.1,p.2.2.2.1,p.2.2.2.2.1,p.2.2.2.2.2.1⟩) (fun p=>by simp) (fun p h=>.mk _ h.2.2.1 h.2.2.2.2.2.1.2) (fun k hk=>
   zA4 rfl (k:=1) (by kernel_rfl) (zH1 Tryz.underlying3 k) (zA4 rfl (k:=1) (by kernel_rfl) (zH1 Tryz.underlying3 k)
    (zA4 rfl (k:=1) (by kernel_rfl) (zJH Tryz.underlying9 k)
     (zA4 rfl (k:=1) (by kernel_rfl) (op24 k)
      (zA4 rfl (k:=1) (by kernel_rfl) (opNs k)
       (zA4 rfl (k:=1) (by kernel_rfl) (zFa Tryz.underlying26 (m:=6) (b:=104) (by kernel_rfl) (by kernel_rfl) (by decide) (fun a=>by simp) (fun j hj=>ih j (by omega))) (zHC (by decide))))))))
theorem op31(n:Nat):zGo Tryz.prog n 31 zMa.c zMa.good:=by
 induction n using Nat.strongRecOn with
 |_ n ih=>
  exact zFw Tryz.underlying31 (N:=14) (by kernel_rfl) (fun p=>⟨p.1,p.2.1,p.2.2.1,p.2.2.2.1,p.2.2.2.2.1,p.2.2.2.2.2.1,p.2.2.2.2.2.2.1,p.2.2.2.2.2.2.2.1,p.2.2.2.2.2.2.2.2.1⟩) (fun p=>by simp) (fun p h=>.mk _ h.2.2.2.1 h.2.2.2.2.2.2.2.2.1.2) (fun k hk=>
   zA4 rfl (k:=1) (by kernel_rfl) (zH1 Tryz.underlying3 k) (zA4 rfl (k:=1) (by kernel_rfl) (zH1 Tryz.underlying3 k)
    (zA4 rfl (k:=1) (by kernel_rfl) (zJH Tryz.underlying9 k)
     (zA4 rfl (k:=6) (by kernel_rfl) (op28 k)
      (zA4 rfl (k:=1) (by kernel_rfl) (op24 k)
       (zA4 rfl (k:=1) (by kernel_rfl) (opKs k) (zA4 rfl (k:=1) (by kernel_rfl) (opKs k)
        (zA4 rfl (k:=1) (by kernel_rfl) (opNs k)
         (zA4 rfl (k:=1) (by kernel_rfl) (zFa Tryz.underlying29 (m:=14) (b:=256) (by kernel_rfl) (by kernel_rfl) (by decide) (fun a=>by simp) (fun j hj=>ih j (by omega))) (zHC (by decide)))))))))))
theorem op33(n:Nat):zGo Tryz.prog n 33 zMb.c zMb.good:=
 zFw Tryz.underlying33 (N:=15) (by kernel_rfl) (fun p=>⟨p.1,p.2.1⟩) (fun p=>by simp) (fun p h=>h.2.1) (fun k hk=>
  zA4 rfl (k:=1) (by kernel_rfl) (opKs k) (zA4 rfl (k:=14) (by kernel_rfl) (op31 k) (zHC (by decide))))
theorem own:ownKnob Tryz.prog.godebug=none:=by kernel_rfl
theorem laid:laidOutB Tryz.prog=true:=by kernel_rfl
theorem tab_reads{W:World}{name:String}{k:IntKind}{zs:List Int}{g:Nat}{t e:TypeId}{n:Nat}
 (hg:Tryz.prog.globalNamed name=some g) (hty:(Tryz.prog.globals[g]?).map (·.type)=some t) (ht:Tryz.prog.underlying t=some (.array n e)) (he:Tryz.prog.underlying e=some (.int k)) (hce:Tryz.prog.cellsOf e=1) (hct:Tryz.prog.cellsOf t=n)
 (h:Lib.VarReads Tryz.prog W name (Lib.tabData k zs)): ∃ty fr,W.heap[g]? =some (.cells (zs.map fun z=>Value.int k z).toArray ty fr):=by
 obtain⟨g',t',cs,fuel,p,hg',ht',hvar,hd⟩:=h
 obtain rfl:=zqa (hg.symm.trans hg')
 obtain rfl:=zqa (hty.symm.trans ht')
 have hcs:=Lib.cells_of_tab ht he hce hct hd
 unfold World.var? at hvar
 rw[hg] at hvar
 simp only[Option.bind_some] at hvar
 split at hvar
 ·rename_i c ty fr hh
  cases hvar
  refine⟨ty,fr,?_⟩
  rw[hh,<-hcs]
 ·cases hvar
theorem laid_drop{P:Program}{W:World}: ∀(k:Nat)(l:List (String×DataW Unit)),laidMet P l W->laidMet P (l.drop k) W
 |0,l,h=>by rw[List.drop_zero];exact h
 |k+1,[],h=>by rw[List.drop_nil];exact h
 |k+1,x::l,h=>laid_drop k l (laidMet.tail h)
theorem laid_at{P:Program}{W:World}{l r:List (String×DataW Unit)}{x:String×DataW Unit}(k:Nat)(h:laidMet P l W)(e:l.drop k=x::r):laidMet P (x::r) W:=by
 rw[<-e];exact laid_drop k l h
theorem err_star: "*" ++ "errors.errorString" = "*errors.errorString" :=by decide
theorem err_row (u:TypeId) (h:Tryz.prog.typeName? 3 u=some "*errors.errorString"):u=248:=
 typeName_ptr_named (nm:= "errors.errorString") (by rw [err_star];kernel_rfl) (by kernel_rfl) (by decide) u (by rw [err_star];exact h)
theorem err_var {n:String} {text:List UInt8} {r:List (String×DataW Unit)} {W:World} {g:Nat} (h:laidMet Tryz.prog ((n,.iface "*errors.errorString" (.ptr (.agg [.lit (.string text)])))::r) W) (hg:Tryz.prog.globalNamed n=some g)
 (ht:(Tryz.prog.globals[g]?).map (·.type)=some 100): ∃t v,W.cell? ⟨g,0,none⟩=some (.iface t v):=by
 obtain⟨a,s,hv,_⟩:=laid_sentinel h hg ht Tryz.underlying100 err_row Tryz.underlying248 Tryz.underlying250 rfl rfl Tryz.underlying9 (by kernel_rfl) (by kernel_rfl)
 exact⟨_,_,World.var?_cell hg hv 0⟩
theorem glob {Q:World→Prop} (hQ: ∀W,Q W→Lib.VarReads Tryz.prog W "internal/strconv.uint64pow10" (Lib.tabData .u64 Lib.pow10Tab)∧Lib.VarReads Tryz.prog W "strings.asciiSpace" (Lib.tabData .u8 Lib.asciiSpaceTab)) (hE: ∀W,Q W→∀i,i∈ge→∃t v,W.cell? ⟨i,0,none⟩=some (.iface t v)):
 ∀W:World,W.ShapedOpen Tryz.prog->Q W->GOk (fun x=>W.cell? x)∧Tabs W:=fun W h hq=>by
 obtain⟨h1,h2⟩:=hQ W hq
 refine⟨⟨fun i hi=>?_,hE W hq⟩,fun t ht=>?_⟩
 ·obtain rfl:i=0:=by simpa[gl] using hi
  exact cell_of_shapedOpen_int h (t:=3) (zero:=#[.int .i64 0]) (k:=.i64) (of_decide_eq_true (by kernel_rfl)) (by kernel_rfl) rfl (by kernel_rfl) (by kernel_rfl) Tryz.underlying3
 simp only[tb,tb1,tb2,List.cons_append,List.nil_append,List.mem_cons,List.not_mem_nil,or_false] at ht
 rcases ht with rfl|rfl
 ·exact tab_reads (t:=242) (e:=174) (by kernel_rfl) (by kernel_rfl) (n:=20) (by kernel_rfl) (by kernel_rfl) (by kernel_rfl) (by kernel_rfl) h1
 ·exact tab_reads (t:=244) (e:=5) (by kernel_rfl) (by kernel_rfl) (n:=256) (by kernel_rfl) (by kernel_rfl) (by kernel_rfl) (by kernel_rfl) h2

def Ev{α:Type}(f:Nat->Option α)(r:α):Prop:= ∃N,∀n,N<=n->f n=some r
def Tot{α:Type}(f:Nat->Option α)(Q:α->Prop):Prop:= ∃r,Ev f r∧Q r
theorem Ev.uniq{α:Type}{f:Nat->Option α}{a b:α}(h1:Ev f a)(h2:Ev f b):a=b:=by
 obtain⟨N,h1⟩:=h1
 obtain⟨M,h2⟩:=h2
 have:=(h1 (N+M) (by omega)).symm.trans (h2 (N+M) (by omega))
 exact zqa this
theorem Ev.tot{α:Type}{f:Nat->Option α}{r:α}(h:Ev f r):Tot f (fun x=>x=r):=⟨r,h,rfl⟩
theorem Ev.of{α:Type}{f:Nat->Option α}{r:α}{K:Nat}(h: ∀n,K<=n->f n=some r):Ev f r:=⟨K,h⟩
theorem Tot.mono{α:Type}{f:Nat->Option α}{Q Q':α->Prop}(h:Tot f Q)(hq: ∀r,Q r->Q' r):Tot f Q':=by
 obtain⟨r,h1,h2⟩:=h;exact⟨r,h1,hq r h2⟩
theorem Tot.pure{α:Type}{r:α}{Q:α->Prop}(h:Q r):Tot (fun _=>some r) Q:=⟨r,⟨0,fun _ _=>rfl⟩,h⟩
theorem Tot.bind{α β:Type}{f:Nat->Option α}{g:Nat->α->Option β}{A:α->Prop}{Q:β->Prop}(h1:Tot f A)(h2: ∀a,A a->Tot (fun n=>g n a) Q):Tot (fun n=>(f n).bind (g n)) Q:=by
 obtain⟨a,⟨N,ha⟩,hA⟩:=h1
 obtain⟨b,⟨M,hb⟩,hQ⟩:=h2 a hA
 refine⟨b,⟨N+M,fun n hn=>?_⟩,hQ⟩
 show(f n).bind (g n)=some b
 rw[ha n (by omega),zDD];exact hb n (by omega)
theorem Ev.bind{α β:Type}{f:Nat->Option α}{g:Nat->α->Option β}{a:α}{b:β}(h1:Ev f a)(h2:Ev (fun n=>g n a) b):Ev (fun n=>(f n).bind (g n)) b:=by
 obtain⟨N,ha⟩:=h1
 obtain⟨M,hb⟩:=h2
 refine⟨N+M,fun n hn=>?_⟩
 show(f n).bind (g n)=some b
 rw[ha n (by omega),zDD];exact hb n (by omega)
theorem Tot.ev{α β:Type}{f:Nat->Option α}{g:Nat->α->Option β}{a:α}{Q:β->Prop}(h1:Ev f a)(h2:Tot (fun n=>g n a) Q):Tot (fun n=>(f n).bind (g n)) Q:=
 Tot.bind h1.tot fun x hx=>by subst hx;exact h2
theorem Tot.k{α β:Type}{x:Option α}{g:Nat->α->Option β}{a:α}{Q:β->Prop}(h1:x=some a)(h2:Tot (fun n=>g n a) Q):Tot (fun n=>x.bind (g n)) Q:=by
 subst h1;exact h2
theorem Tot.ite{α:Type}{c:Bool}{f g:Nat->Option α}{Q:α->Prop}(h1:c=true->Tot f Q)(h2:c=false->Tot g Q):Tot (fun n=>if c=true then f n else g n) Q:=by
 cases c with
 |true=>exact h1 rfl
 |false=>exact h2 rfl
theorem Tot.step{α:Type}{F G:Nat->Option α}{Q:α->Prop}(h: ∀n,F (n+1)=G n)(hg:Tot G Q):Tot F Q:=by
 obtain⟨r,⟨N,hN⟩,hq⟩:=hg
 refine⟨r,⟨N+1,fun n hn=>?_⟩,hq⟩
 obtain⟨m,rfl⟩: ∃m,n=m+1:=⟨n-1,by omega⟩
 rw[h];exact hN m (by omega)
theorem Tot.chk{β:Type}{x:Int}{g:Nat->Int->Option β}{Q:β->Prop}(h1: -9223372036854775808<=x)(h2:x<=9223372036854775807)(h:Tot (fun n=>g n x) Q):Tot (fun n=>(chk .i64 x).bind (g n)) Q:=Tot.k (chk64 h1 h2) h
theorem Tot.sum{α β:Type}{o:α ⊕ β}{g:Nat->β->Option α}{Q:α->Prop}(h1: ∀a,o=.inl a->Q a)(h2: ∀b,o=.inr b->Tot (fun n=>g n b) Q):Tot (fun n=>Sum.elim some (g n) o) Q:=by
 cases o with
 |inl a=>exact Tot.pure (h1 a rfl)
 |inr b=>exact h2 b rfl
theorem Tot.loop{α β γ:Type}(l:List α)(L:Nat->Nat->β->Nat->Option γ)(S:Nat->Nat->β->α->Option (γ ⊕ β))(E:β->γ)
 (hL: ∀n k b i,L n (k+1) b i=if ltI (i:Int) (l.length:Int)=true then (l[i]?).bind fun x=>(S n i b x).bind fun r=>Sum.elim some (fun b'=>L n k b' (i+1)) r else some (E b))
 (I:Nat->β->Prop) (R:γ->Prop)
 (hS: ∀i b x,l[i]? =some x->I i b->Tot (fun n=>S n i b x) (fun r=>(∀g,r=.inl g->R g)∧(∀b',r=.inr b'->I (i+1) b')))
 (hE: ∀b,I l.length b->R (E b)) (b0:β) (h0:I 0 b0):Tot (fun n=>L n n b0 0) R:=by
 have key: ∀m i b,i+m=l.length->I i b->∃g,R g∧∃N,∀n,N<=n->∀k,m<k->L n k b i=some g:=by
  intro m
  induction m with
  |zero=>
   intro i b hi hI
   refine⟨E b,hE b (by rw[<-hi];exact hI),0,fun n _ k hk=>?_⟩
   obtain⟨k,rfl⟩: ∃q,k=q+1:=⟨k-1,by omega⟩
   rw[hL,if_neg (ltN (by omega))]
  |succ m ih=>
   intro i b hi hI
   have hx:l[i]? =some l[i]:=zq2 (by omega)
   obtain⟨r,⟨N,hN⟩,q1,q2⟩:=hS i b l[i] hx hI
   cases r with
   |inl g=>
    refine⟨g,q1 g rfl,N,fun n hn k hk=>?_⟩
    obtain⟨k,rfl⟩: ∃q,k=q+1:=⟨k-1,by omega⟩
    rw[hL,if_pos (ltP (by omega)),hx,zDD,show S n i b l[i]=_ from hN n hn,zDD];rfl
   |inr b'=>
    obtain⟨g,hg,N',hN'⟩:=ih (i+1) b' (by omega) (q2 b' rfl)
    refine⟨g,hg,N+N',fun n hn k hk=>?_⟩
    obtain⟨k,rfl⟩: ∃q,k=q+1:=⟨k-1,by omega⟩
    rw[hL,if_pos (ltP (by omega)),hx,zDD,show S n i b l[i]=_ from hN n (by omega),zDD]
    exact hN' n (by omega) k (by omega)
 obtain⟨g,hg,N,hN⟩:=key l.length 0 b0 (by omega) h0
 exact⟨g,⟨N+l.length+1,fun n hn=>hN n (by omega) n (by omega)⟩,hg⟩
theorem Tot.loop1{α β γ:Type}(l:List α)(L:Nat->Nat->β->Nat->Option γ)(S:Nat->Nat->β->α->Option β)(E:β->γ)
 (hL: ∀n k b i,L n (k+1) b i=if ltI (i:Int) (l.length:Int)=true then (l[i]?).bind fun x=>(S n i b x).bind fun b'=>L n k b' (i+1) else some (E b))
 (I:Nat->β->Prop) (R:γ->Prop) (hS: ∀i b x,l[i]? =some x->I i b->Tot (fun n=>S n i b x) (fun b'=>I (i+1) b'))
 (hE: ∀b,I l.length b->R (E b)) (b0:β) (h0:I 0 b0):Tot (fun n=>L n n b0 0) R:=
 Tot.loop l L (fun n i b x=>(S n i b x).bind fun b'=>some (.inr b')) E (fun n k b i=>by
  rw[hL]
  split
  ·congr 1;funext x;cases S n i b x<;>rfl
  ·rfl) I R
  (fun i b x hx hI=>by
   refine Tot.bind (hS i b x hx hI) fun b' hb=>?_
   refine Tot.pure ?_
   exact⟨fun g hg=>(by cases hg),fun b'' h=>by cases h;exact hb⟩) hE b0 h0
def csz(c:zMZ):Nat:=1+(c.L.map csz).sum
decreasing_by all_goals (cases c;simp only[zMZ.mk.sizeOf_spec];have:=List.sizeOf_lt_of_mem ‹_›;simp only at this;omega)
theorem zGM(c:zMZ):csz c=1+(c.L.map csz).sum:=by rw[csz]
theorem zD4{c x:zMZ}(h:x∈c.L):csz x+1<=csz c:=by
 rw[zGM c];have:=le_sum csz h;omega
theorem zF8(c:zMZ):1<=csz c:=by rw[zGM];omega
theorem zD5{T:zMZ->Prop}(h: ∀c,(∀x,x∈c.L->T x)->T c): ∀c,T c:=by
 have key: ∀n c,csz c<=n->T c:=by
  intro n
  induction n with
  |zero=>intro c hc;have:=zF8 c;omega
  |succ n ih=>exact fun c hc=>h c fun x hx=>ih x (by have:=zD4 hx;omega)
 exact fun c=>key (csz c) c (Nat.le_refl _)
theorem len_csz(c:zMZ):c.L.length+1<=csz c:=by
 rw[zGM]
 have:c.L.length<=(c.L.map csz).sum:=by
  induction c.L with
  |nil=>simp
  |cons x l ih=>simp only[List.length_cons,List.map_cons,List.sum_cons];have:=zF8 x;omega
 omega
def ksz(k:zMY):Nat:=1+(k.L.map ksz).sum
decreasing_by all_goals (cases k;simp only[zMY.mk.sizeOf_spec];have:=List.sizeOf_lt_of_mem ‹_›;simp only at this;omega)
theorem ksz_eq(k:zMY):ksz k=1+(k.L.map ksz).sum:=by rw[ksz]
theorem ksz_mem{k x:zMY}(h:x∈k.L):ksz x+1<=ksz k:=by
 rw[ksz_eq k];have:=le_sum ksz h;omega
theorem ksz_pos(k:zMY):1<=ksz k:=by rw[ksz_eq];omega
theorem zHi{T:zMY->Prop}(h: ∀c,(∀x,x∈c.L->T x)->T c): ∀c,T c:=by
 have key: ∀n c,ksz c<=n->T c:=by
  intro n
  induction n with
  |zero=>intro c hc;have:=ksz_pos c;omega
  |succ n ih=>exact fun c hc=>h c fun x hx=>ih x (by have:=ksz_mem hx;omega)
 exact fun c=>key (ksz c) c (Nat.le_refl _)
theorem zC7{α:Type}(f:α->Nat)(l:List α)(i:Nat)(x:α)(h:l[i]? =some x):((l.take (i+1)).map f).sum=((l.take i).map f).sum+f x:=by
 rw[List.take_add_one,h];simp
theorem zHy{α:Type}(f:α->Nat)(l:List α)(i:Nat):((l.take i).map f).sum<=(l.map f).sum:=by
 conv=>rhs;rw[<-List.take_append_drop i l,List.map_append,List.sum_append]
 omega
theorem Size_T(c:zMZ):csz c<=1000000000000->Tot (fun n=>zCC n c) (fun r=>r=csz c):=by
 induction c using zD5 with
 |h c ih=>
 intro hc
 refine Tot.step (fun n=>by rw[zCC]) ?_
 refine Tot.bind (A:=fun r=>r=(csz c:Int)) ?_ (fun a ha=>?_)
 rotate_left
 ·exact Tot.pure ha
 refine Tot.loop1 c.L (fun n k b i=>zDE (zCC n) c k b i) (fun n i b x=>(zCC n x).bind fun v=>chk .i64 (b+v)) (fun b=>b)
  (fun n k b i=>by rw[zDE];simp only[Option.bind_assoc]) (fun i b=>b=1+(((c.L.take i).map csz).sum:Nat)) (fun r=>r=csz c) ?_ (fun b hb=>?_) 1 (by simp)
 ·intro i b x hx hb
  have hm:=zq3 hx
  have h1:=zD4 hm
  have h2:=zHy csz c.L (i+1)
  have h3:=zGM c
  refine Tot.bind (ih x hm (by omega)) fun v hv=>?_
  rw[zC7 csz _ _ _ hx] at h2 ⊢
  exact⟨b+v,⟨0,fun n _=>chk64 (by omega) (by omega)⟩,by omega⟩
 ·rw[hb,List.take_length,zGM c];simp
theorem depth_T(c:zMZ):csz c<=1000000000000->Tot (fun n=>zCd n c) (fun r=>0<=r∧r<=csz c):=by
 induction c using zD5 with
 |h c ih=>
 intro hc
 refine Tot.step (fun n=>by rw[zCd]) ?_
 refine Tot.bind (A:=fun r=>0<=r∧r+1<=(csz c:Int)) ?_ (fun a ha=>?_)
 rotate_left
 ·refine Tot.chk (by omega) (by omega) ?_
  exact Tot.pure ⟨by omega,by omega⟩
 refine Tot.loop1 c.L (fun n k b i=>zCt (zCd n) c k b i) (fun n i b x=>(zCd n x).bind fun v=>some (maxI b v)) (fun b=>b)
  (fun n k b i=>by rw[zCt];simp only[Option.bind_assoc,zDD]) (fun i b=>0<=b∧b+1<=(csz c:Int)) _ ?_ (fun b hb=>hb) 0 (by have:=zF8 c;omega)
 intro i b x hx hb
 have hm:=zq3 hx
 have h1:=zD4 hm
 refine Tot.bind (ih x hm (by omega)) fun v hv=>?_
 refine Tot.pure ?_
 unfold maxI
 split<;>omega
theorem nsize_T(c:zMZ):csz c<=1000000000000->Tot (fun n=>zCj n c) (fun r=>r.1=csz c∧0<=r.2∧r.2<=csz c):=by
 induction c using zD5 with
 |h c ih=>
 intro hc
 refine Tot.step (fun n=>by rw[zCj]) ?_
 refine Tot.bind (A:=fun r=>r.2=(csz c:Int)∧0<=r.1∧r.1+1<=(csz c:Int)) ?_ (fun a ha=>?_)
 rotate_left
 ·refine Tot.chk (by omega) (by omega) ?_
  exact Tot.pure ⟨ha.1,by omega,by omega⟩
 refine Tot.loop1 c.L (fun n k (b:Int×Int) i=>zCx (zCj n) c k b.1 b.2 i) (fun n i b x=>(zCj n x).bind fun v=>(chk .i64 (b.1+v.1)).bind fun m=>some (m,maxI b.2 v.2)) (fun b=>(b.2,b.1))
  (fun n k b i=>by rw[zCx];simp only[Option.bind_assoc,zDD]) (fun i b=>b.1=1+(((c.L.take i).map csz).sum:Nat)∧0<=b.2∧b.2+1<=(csz c:Int)) _ ?_ (fun b hb=>⟨?_,hb.2⟩) (1,0) (by have:=zF8 c;simp;omega)
 ·intro i b x hx hb
  have hm:=zq3 hx
  have h1:=zD4 hm
  have h2:=zHy csz c.L (i+1)
  have h3:=zGM c
  refine Tot.bind (ih x hm (by omega)) fun v hv=>?_
  rw[zC7 csz _ _ _ hx] at h2 ⊢
  refine Tot.chk (by omega) (by omega) ?_
  refine Tot.pure ⟨?_,?_⟩
  ·simp only;omega
  ·unfold maxI
   simp only
   split<;>omega
 ·have h4:=hb.1
  rw[List.take_length] at h4
  rw[zGM c];simp only;omega
theorem ksize_T(k:zMY): ∀(left d:Int),-100000<=left->left<=100000->0<=d->d<=500->Tot (fun n=>zC4 n k left d) (fun r=>0<=r.1∧(r.2=true->1<=r.1∧r.1<=left∧ksz k=r.1)):=by
 induction k using zHi with
 |h k ih=>
 intro left d h1 h2 h3 h4
 refine Tot.step (fun n=>by rw[zC4]) ?_
 refine Tot.ite (fun hc=>Tot.pure ⟨by simp,fun h=>by cases h⟩) (fun hc=>?_)
 simp only[Bool.or_eq_false_iff] at hc
 have hl:=leF hc.1
 have hd:=ltF hc.2.1
 refine Tot.bind (A:=fun r=>(∀g,r=.inl g->g=((0:Int),false))∧∀b,r=.inr b->1<=b∧b<=left∧(ksz k:Int)=b) ?_ (fun o ho=>?_)
 rotate_left
 ·refine Tot.sum (fun a ha=>?_) (fun b hb=>?_)
  ·rw[ho.1 a ha];exact⟨by simp,fun h=>by cases h⟩
  ·have:=ho.2 b hb
   exact Tot.pure ⟨by simp only;omega,fun _=>this⟩
 refine Tot.loop k.L (fun n kk b i=>zBx (zC4 n) k left d kk b i)
  (fun n i b x=>(chk .i64 (left-b)).bind fun m=>(chk .i64 (d+1)).bind fun e=>(zC4 n x m e).bind fun v=>if (!v.2)=true then some (.inl (.inl (0,false))) else (chk .i64 (b+v.1)).bind fun q=>some (.inr q)) .inr
  (fun n kk b i=>by
   rw[zBx]
   simp only[Option.bind_assoc]
   split
   ·congr 1;funext x;congr 1;funext m;congr 1;funext e;congr 1;funext v
    split
    ·rfl
    ·simp only[Option.bind_assoc,zDD];rfl
   ·rfl) (fun i b=>1<=b∧b<=left∧b=1+(((k.L.take i).map ksz).sum:Nat)) _ ?_ (fun b hb=>⟨fun g hg=>(by cases hg),fun b' hb'=>?_⟩) 1 (by simp;omega)
 ·intro i b x hx hb
  have hm:=zq3 hx
  refine Tot.chk (by omega) (by omega) (Tot.chk (by omega) (by omega) ?_)
  refine Tot.bind (ih x hm (left-b) (d+1) (by omega) (by omega) (by omega) (by omega)) fun v hv=>?_
  refine Tot.ite (fun hc=>Tot.pure ⟨fun g hg=>?_,fun b' hb'=>by cases hb'⟩) (fun hc=>?_)
  ·cases hg;exact⟨fun g hg=>(by cases hg;rfl),fun b hb=>(by cases hb)⟩
  ·have hv2:=hv.2 (by simpa using hc)
   refine Tot.chk (by omega) (by omega) (Tot.pure ⟨fun g hg=>(by cases hg),fun b' hb'=>?_⟩)
   cases hb'
   rw[zC7 ksz _ _ _ hx]
   omega
 ·cases hb'
  obtain⟨h5,h6,h7⟩:=hb
  rw[List.take_length] at h7
  rw[ksz_eq k]
  exact⟨h5,h6,by omega⟩
theorem KValid_T(k:zMY):Tot (fun n=>zBy n k) (fun b=>b=true->ksz k<=20000):=by
 unfold zBy
 refine Tot.bind (ksize_T k 20000 1 (by decide) (by decide) (by decide) (by decide)) fun v hv=>Tot.pure fun h=>?_
 have:=hv.2 h
 omega
theorem Tot.index{α:Type}(l:List α)(L:Nat->Nat->Nat->Option (Int ⊕ Unit))(F:Nat->α->Option Bool)
 (hL: ∀n k i,L n (k+1) i=if ltI (i:Int) (l.length:Int)=true then (l[i]?).bind fun x=>(F n x).bind fun v=>if v=true then some (.inl (i:Int)) else L n k (i+1) else some (.inr ()))
 (P T:α->Prop) (hF: ∀x,x∈l->Tot (fun n=>F n x) (fun b=>(b=false->P x)∧(b=true->T x))):
 Tot (fun n=>L n n 0) (fun o=>(∀i,o=.inl i->0<=i∧∃x,x∈l∧T x)∧(∀u,o=.inr u->∀x,x∈l->P x)):=by
 refine Tot.loop l (fun n k (b:Unit) i=>L n k i) (fun n i b x=>(F n x).bind fun v=>if v=true then some (.inl (.inl (i:Int))) else some (.inr ())) (fun _=>.inr ())
  (fun n k b i=>by
   rw[hL]
   split
   ·congr 1;funext x
    rw[Option.bind_assoc]
    congr 1;funext v
    split<;>rfl
   ·rfl) (fun i _=> ∀j x,j<i->l[j]? =some x->P x) _ ?_ (fun b hb=>⟨fun i hi=>(by cases hi),fun u _ x hx=>?_⟩) () (fun j x hj=>(by omega))
 ·intro i b x hx hb
  refine Tot.bind (hF x (zq3 hx)) fun v hv=>?_
  refine Tot.ite (fun hc=>Tot.pure ⟨fun g hg=>?_,fun b' hb'=>(by cases hb')⟩) (fun hc=>Tot.pure ⟨fun g hg=>(by cases hg),fun b' hb' j y hj hy=>?_⟩)
  ·cases hg
   exact⟨fun i' hi'=>(by cases hi';exact⟨by omega,x,zq3 hx,hv.2 hc⟩),fun u hu=>(by cases hu)⟩
  ·by_cases hji:j=i
   ·subst hji;rw[hx] at hy;cases hy;exact hv.1 hc
   ·exact hb j y (by omega) hy
 ·obtain⟨j,hj,rfl⟩:=List.getElem_of_mem hx
  exact hb j _ hj (zq2 hj)
theorem zFL{P T:Prop}{f:Nat->Option (Int ⊕ Unit)}{α:Type}{l:List α}{Q R:α->Prop}(h:Tot f (fun o=>(∀i,o=.inl i->0<=i∧∃x,x∈l∧R x)∧(∀u,o=.inr u->∀x,x∈l->Q x))):
 Tot (fun n=>(f n).bind fun o=>Sum.elim some (fun _=>some (-1)) o) (fun i=>(leI 0 i=false->∀x,x∈l->Q x)∧(leI 0 i=true->∃x,x∈l∧R x)):=by
 refine Tot.bind h fun o ho=>?_
 refine Tot.sum (fun a ha=>?_) (fun b hb=>Tot.pure ?_)
 ·have:=ho.1 a ha
  exact⟨fun h=>by have:=leF h;omega,fun _=>this.2⟩
 ·exact⟨fun _=>ho.2 b hb,fun h=>by have:=leT h;omega⟩
structure okN (c:zMZ):Prop where
 parts:zCc c=some (c.L.length:Int)
 n0:0<=c.N
 n1:c.N<=20000
 names:c.Names.length<=1000
 str:c.S.length<=48
 kind:ksz c.Kind<=20000
 lab:c.Names=[]∨zBP c=some true
 var:c.Op=1->c.S=[]∧c.Kind.L=[]
inductive Fm:zMZ->Prop
 |mk (c:zMZ) (h:okN c) (hs: ∀x,x∈c.L->Fm x):Fm c
theorem Fm.here{c:zMZ}(h:Fm c):okN c:=by cases h;assumption
theorem Fm.part{c x:zMZ}(h:Fm c)(hx:x∈c.L):Fm x:=by cases h with|mk _ _ hs=>exact hs x hx
inductive Sh:zMZ->Prop
 |mk (c:zMZ) (h:c.S.length<=140737488351232) (hs: ∀x,x∈c.L->Sh x):Sh c
theorem Sh.here{c:zMZ}(h:Sh c):c.S.length<=140737488351232:=by cases h;assumption
theorem Sh.part{c x:zMZ}(h:Sh c)(hx:x∈c.L):Sh x:=by cases h with|mk _ _ hs=>exact hs x hx
theorem Fm.sh{c:zMZ}(h:Fm c):Sh c:=by
 induction h with
 |mk c h hs ih=>exact .mk c (by have:=h.str;omega) ih
theorem parts_ex(c:zMZ): ∃v,zCc c=some v:=by
 unfold zCc
 split
 ·exact⟨_,rfl⟩
 ·unfold zBP zBf
  simp only[zDD]
  split
  ·exact⟨_,rfl⟩
  ·split
   ·exact⟨_,rfl⟩
   ·split<;>exact⟨_,rfl⟩
theorem subI{α:Type}(l:List α)(a b:Int)(h0:0<=a)(h1:a<=b)(h2:b<=l.length):subC l a b=some (sub l a b):=by rw[subC,if_pos ⟨h0,h1,h2⟩]
theorem ixle(c:UInt8): ∀l:List UInt8,-1<=Lib.indexByte l c∧Lib.indexByte l c<l.length+0∨Lib.indexByte l c= -1
 |[]=>.inr rfl
 |b::l=>by
  have:=ixle c l
  have e:((b::l).length:Int)=l.length+1:=by simp
  rw[e]
  unfold Lib.indexByte
  split
  ·left;omega
  ·split
   ·right;rfl
   ·left;omega
theorem cut_T(s:List UInt8)(c:UInt8)(hs:s.length<=140737488351232): ∃r,zFf s [c]=some r∧r.2.1.length<=s.length:=by
 have h:=ixle c s
 unfold zFf zEd
 rw[show zDx s [c]=some (Lib.indexByte s c) from rfl,zDD]
 split
 ·rename_i h0
  have h0:=leT h0
  rw[subI _ _ _ (by omega) (by omega) (by omega),zDD,chk64 (by simp;omega) (by simp;omega),zDD,subI _ _ _ (by simp;omega) (by simp;omega) (by omega),zDD,zDD]
  refine⟨_,rfl,?_⟩
  simp only[sub,List.length_take,List.length_drop];omega
 ·rw[zDD];exact⟨_,rfl,by simp⟩
theorem Number_T(s:List UInt8)(hs:s.length<=140737488355328):Tot (fun n=>zE4 n s) (fun _=>True):=by
 unfold zE4
 have h1: ∃b,(if eqS s ([]:List UInt8)=true then some true else if ltI 1 (s.length:Int)=true then (s[0]?).bind fun c6=>some (eqI (c6.toNat:Int) 48) else some false:Option Bool)=some b:=by
  split
  ·exact⟨_,rfl⟩
  ·split
   ·rename_i h
    have:=ltT h
    rw[zq2 (show 0<s.length by omega)]
    exact⟨_,rfl⟩
   ·exact⟨_,rfl⟩
 obtain⟨b,hb⟩:=h1
 refine Tot.k hb ?_
 refine Tot.ite (fun _=>Tot.pure trivial) (fun _=>?_)
 refine Tot.k (a:=s) (by rw[bytesC,if_pos (by omega)]) ?_
 have hE:Tot (fun n=>zB5 s n 0) (fun _=>True):=by
  refine Tot.mono (Tot.loop s (fun n k (b:Unit) i=>zB5 s k i) (fun n i b x=>(zDp x).bind fun v=>if (!(eqI v 3))=true then some (.inl (.inl (0,3))) else some (.inr ())) (fun _=>.inr ()) (fun n k b i=>?_) (fun _ _=>True) (fun _=>True) ?_ (fun _ _=>trivial) () trivial) fun _ h=>h
  ·rw[zB5]
   split
   ·congr 1;funext x
    rw[Option.bind_assoc]
    congr 1;funext v
    split<;>rfl
   ·rfl
  ·intro i b x hx _
   obtain⟨m,hm,_⟩:=of_M x
   refine Tot.k hm ?_
   exact Tot.ite (fun _=>Tot.pure ⟨fun _ _=>trivial,fun _ _=>trivial⟩) (fun _=>Tot.pure ⟨fun _ _=>trivial,fun _ _=>trivial⟩)
 refine Tot.bind hE fun o _=>?_
 refine Tot.sum (fun _ _=>trivial) (fun b hb=>?_)
 have h2: ∃r,zE0 s=some r:=by
  unfold zE0
  rw[if_pos hs]
  split<;>exact⟨_,rfl⟩
 obtain⟨r,hr⟩:=h2
 refine Tot.k hr ?_
 refine Tot.ite (fun _=>Tot.pure trivial) (fun _=>Tot.ite (fun _=>Tot.pure trivial) (fun _=>Tot.pure trivial))
theorem constant_T(s:List UInt8)(hs:s.length<=140737488351232):Tot (fun n=>zDX n s) (fun b=>b=true->s.length<=48):=by
 unfold zDX
 obtain⟨r,hr,hc⟩:=cut_T s 46 hs
 refine Tot.k hr ?_
 refine Tot.bind (Number_T _ (by omega)) fun v _=>?_
 refine Tot.bind (A:=fun b=>b=true->s.length<=48) ?_ (fun b hb=>Tot.pure hb)
 refine Tot.ite (fun _=>Tot.ite (fun h=>?_) (fun _=>Tot.pure fun h=>by cases h)) (fun _=>Tot.pure fun h=>by cases h)
 have hl:=leT h
 refine Tot.bind (Ev.of (K:=30) fun n hn=>zMT _ hn).tot fun b _=>?_
 exact Tot.ite (fun _=>Tot.pure fun _=>by omega) (fun _=>Tot.pure fun h=>by cases h)
theorem asc_T(l:List (List UInt8)):Tot (fun n=>zBm n l) (fun _=>True):=by
 have key: ∀n i,i+n=l.length->∃o,∀k,n+1<=k->zA2 l k (i+1)=some o:=by
  intro n
  induction n with
  |zero=>
   intro i hi
   refine⟨.inr (),fun k hk=>?_⟩
   obtain⟨k,rfl⟩: ∃q,k=q+1:=⟨k-1,by omega⟩
   rw[zA2,if_neg (ltN (by omega))]
  |succ n ihn=>
   intro i hi
   by_cases hlt:i+1<l.length
   ·have hx:l[i+1]? =some l[i+1]:=zq2 hlt
    have hy:idx l (((i+1:Nat):Int)-1)=some l[i]:=by
     rw[show((i+1:Nat):Int)-1=(i:Int) by omega,idxN];exact zq2 (by omega)
    obtain⟨o,ho⟩:=ihn (i+1) (by omega)
    cases hc:ltS l[i] l[i+1] with
    |false=>
     refine⟨.inl false,fun k hk=>?_⟩
     obtain⟨k,rfl⟩: ∃q,k=q+1:=⟨k-1,by omega⟩
     rw[zA2,if_pos (ltP hlt),hy,zDD,hx,zDD,hc];rfl
    |true=>
     refine⟨o,fun k hk=>?_⟩
     obtain⟨k,rfl⟩: ∃q,k=q+1:=⟨k-1,by omega⟩
     rw[zA2,if_pos (ltP hlt),hy,zDD,hx,zDD,hc]
     exact ho k (by omega)
   ·refine⟨.inr (),fun k hk=>?_⟩
    obtain⟨k,rfl⟩: ∃q,k=q+1:=⟨k-1,by omega⟩
    rw[zA2,if_neg (ltN hlt)]
 obtain⟨o,ho⟩:=key l.length 0 (by omega)
 unfold zBm
 refine Tot.bind (Ev.of (K:=l.length+1) fun n hn=>ho n hn).tot fun o' _=>?_
 exact Tot.sum (fun _ _=>trivial) (fun b hb=>Tot.pure trivial)
theorem label_T(s:List UInt8):Tot (fun n=>zEZ n s) (fun _=>True):=by
 unfold zEZ
 refine Tot.ite (fun _=>Tot.pure trivial) (fun h=>?_)
 rw[Bool.or_eq_false_iff] at h
 have:=ltF h.2
 refine Tot.k (a:=s) (by rw[bytesC,if_pos (by omega)]) ?_
 refine Tot.bind (A:=fun _=>True) ?_ fun o _=>Tot.sum (fun _ _=>trivial) (fun b hb=>Tot.pure trivial)
 refine Tot.loop s (fun n k (b:Unit) i=>zCF s k i) (fun n i b x=>(zDp x).bind fun v=>if eqI v 0=true then some (.inl (.inl false)) else some (.inr ())) (fun _=>.inr ()) (fun n k b i=>?_) (fun _ _=>True) (fun _=>True) ?_ (fun _ _=>trivial) () trivial
 ·rw[zCF]
  split
  ·congr 1;funext x
   rw[Option.bind_assoc]
   congr 1;funext v
   split<;>rfl
  ·rfl
 ·intro i b x hx _
  obtain⟨m,hm,_⟩:=of_M x
  refine Tot.k hm ?_
  exact Tot.ite (fun _=>Tot.pure ⟨fun _ _=>trivial,fun _ _=>trivial⟩) (fun _=>Tot.pure ⟨fun _ _=>trivial,fun _ _=>trivial⟩)
theorem labels_T(l:List (List UInt8)):Tot (fun n=>zAO n l) (fun _=>True):=by
 unfold zAO zBW
 refine Tot.bind (zFL (Q:=fun _=>True) (R:=fun _=>True) (P:=True) (T:=True) (Tot.index l (fun n k i=>zAY n l k i) (fun n x=>zD7 n x) (fun n k i=>by rw[zAY]) _ _ fun x hx=>?_)) fun v _=>Tot.pure trivial
 unfold zD7
 exact Tot.bind (label_T x) fun v _=>Tot.pure ⟨fun _=>trivial,fun _=>trivial⟩
theorem formed_rest(c:zMZ)(hl:c.S.length<=140737488351232)(hparts:Tot (fun n=>zAN n c.L) (fun b=>b=false->∀x,x∈c.L->Fm x))(hpar:zCc c=some (c.L.length:Int))(h1:0<=c.N)(h2:c.N<=20000):
 Tot (fun fuel=>
  (if eqI c.Op 2 then
   (zDX fuel c.S).bind fun v21=>
   if !v21 then
    some true
   else
    some false
  else
   some (!(eqS c.S ([]:List UInt8))):Option Bool).bind fun b27=>
  if b27 then
   some false
  else
   ((zBf c).bind fun v30=>
   if v30 then
    some true
   else
    some (eqI c.Op 2):Option Bool).bind fun b33=>
   (if b33 then
    (zBy fuel c.Kind).bind fun v36=>
    if !v36 then
     some true
    else
     some false
   else
    some (ltI 0 (c.Kind.L.length:Int)):Option Bool).bind fun b41=>
   if b41 then
    some false
   else
    (if ltI 0 (c.Names.length:Int) then
     (zBP c).bind fun v47=>
     if !v47 then
      some true
     else if ltI 1000 (c.Names.length:Int) then
      some true
     else
      (zBm fuel c.Names).bind fun v55=>
      if !v55 then
       some true
      else
       (zAO fuel c.Names).bind fun v60=>
       some v60
    else if ltI 1000 (c.Names.length:Int) then
     some true
    else
     (zBm fuel c.Names).bind fun v67=>
     if !v67 then
      some true
     else
      (zAO fuel c.Names).bind fun v72=>
      some v72:Option Bool).bind fun b74=>
    if b74 then
     some false
    else
     ((zAN fuel) c.L).bind fun v77=>
     some (!v77)) (fun b=>b=true->Fm c):=by
 refine Tot.bind (A:=fun b=>b=false->c.S.length<=48∧(c.Op=1->c.S=[])) ?_ (fun b hb=>?_)
 ·refine Tot.ite (fun h2=>?_) (fun _=>?_)
  ·refine Tot.bind (constant_T _ (by first|assumption|omega)) fun v hv=>?_
   exact Tot.ite (fun h=>Tot.pure fun h=>by cases h) (fun h=>Tot.pure fun _=>⟨hv (notF h),fun h1=>by have:=eqT h2;omega⟩)
  ·refine Tot.pure fun h=>?_
   have h:=notF (b:=eqS c.S []) (by simpa using h)
   rw[of_decide_eq_true h];simp
 refine Tot.ite (fun _=>Tot.pure fun h=>by cases h) (fun hb0=>?_)
 have hstr:=hb hb0
 refine Tot.bind (A:=fun b=>b=true->c.Op≠1) ?_ (fun b hbo=>?_)
 ·unfold zBf
  refine Tot.k rfl (Tot.ite (fun h=>Tot.pure fun _ h1=>?_) (fun _=>Tot.pure fun h h1=>by have:=eqT h;omega))
  rw[h1] at h;cases h
 refine Tot.bind (A:=fun b=>b=false->ksz c.Kind<=20000∧(c.Op=1->c.Kind.L=[])) ?_ (fun b hb=>?_)
 ·refine Tot.ite (fun h1=>?_) (fun _=>?_)
  ·refine Tot.bind (KValid_T _) fun v hv=>?_
   exact Tot.ite (fun h=>Tot.pure fun h=>by cases h) (fun h=>Tot.pure fun _=>⟨hv (notF h),fun h=>absurd h (hbo h1)⟩)
  ·refine Tot.pure fun h=>?_
   have h:=ltF h
   have e:=List.eq_nil_of_length_eq_zero (l:=c.Kind.L) (by omega)
   refine⟨?_,fun _=>e⟩
   rw[ksz_eq,e];simp
 refine Tot.ite (fun _=>Tot.pure fun h=>by cases h) (fun hb0=>?_)
 have hkind:=hb hb0
 refine Tot.bind (A:=fun b=>b=false->c.Names.length<=1000∧(c.Names=[]∨zBP c=some true)) ?_ (fun b hb=>?_)
 ·refine Tot.ite (fun _=>?_) (fun h0=>?_)
  ·refine Tot.k (a:=eqI c.Op 7||eqI c.Op 8) rfl (Tot.ite (fun _=>Tot.pure fun h=>by cases h) (fun hlb=>Tot.ite (fun _=>Tot.pure fun h=>by cases h) (fun h=>?_)))
   have h:=ltF h
   have hlb:=notF hlb
   refine Tot.bind (asc_T _) fun v _=>Tot.ite (fun _=>Tot.pure fun h=>by cases h) (fun _=>Tot.bind (labels_T _) fun v _=>Tot.pure fun _=>⟨by omega,.inr (by unfold zBP;rw[hlb])⟩)
  ·have h0:=ltF h0
   refine Tot.ite (fun _=>Tot.pure fun h=>by cases h) (fun h=>?_)
   have h:=ltF h
   refine Tot.bind (asc_T _) fun v _=>Tot.ite (fun _=>Tot.pure fun h=>by cases h) (fun _=>Tot.bind (labels_T _) fun v _=>Tot.pure fun _=>⟨by omega,.inl (List.eq_nil_of_length_eq_zero (by omega))⟩)
 refine Tot.ite (fun _=>Tot.pure fun h=>by cases h) (fun hb0=>?_)
 have hnames:=hb hb0
 refine Tot.bind hparts fun v hv=>Tot.pure fun h=>?_
 exact .mk _ ⟨hpar,by omega,by omega,hnames.1,hstr.1,hkind.1,hnames.2,fun h=>⟨hstr.2 h,hkind.2 h⟩⟩ (hv (by simpa using h))
theorem formed_T(c:zMZ):Sh c->Tot (fun n=>zC9 n c) (fun b=>b=true->Fm c):=by
 induction c using zD5 with
 |h c ih=>
 intro hs
 have hl:=hs.here
 have hparts:Tot (fun n=>zAN n c.L) (fun b=>b=false->∀x,x∈c.L->Fm x):=by
  refine Tot.step (fun n=>by rw[zAN]) ?_
  refine Tot.bind (A:=fun i=>(leI 0 i=false->∀x,x∈c.L->Fm x)∧(leI 0 i=true->∃x,x∈c.L∧True)) ?_ (fun v hv=>Tot.pure hv.1)
  refine Tot.step (fun n=>by rw[zAu]) ?_
  refine zFL (P:=True) (T:=True) (Tot.index c.L (fun n k i=>zAW (zCM n) c.L k i) (fun n x=>zCM n x) (fun n k i=>by rw[zAW]) _ _ fun x hx=>?_)
  refine Tot.step (fun n=>by rw[zCM]) ?_
  refine Tot.bind (ih x hx (hs.part hx)) fun v hv=>Tot.pure ⟨fun h=>hv (notF h),fun _=>trivial⟩
 obtain⟨v,hv⟩:=parts_ex c
 refine Tot.step (fun n=>by rw[zC9]) ?_
 refine Tot.k hv ?_
 refine Tot.ite (fun _=>Tot.pure fun h=>by cases h) (fun hp=>?_)
 have hp:=eqT (notF hp)
 rw[<-hp] at hv
 refine Tot.bind (A:=fun o=>(∀b,o=.inl b->b=false)∧∀u,o=.inr u->0<=c.N∧c.N<=20000) ?_ fun o ho=>?_
 ·refine Tot.bind (A:=fun _=>True) (Tot.ite (fun _=>Tot.pure trivial) (fun _=>Tot.pure trivial)) fun b _=>?_
  refine Tot.ite (fun _=>Tot.ite (fun _=>Tot.pure ⟨fun b h=>(by cases h;rfl),fun u h=>(by cases h)⟩) (fun h=>Tot.pure ⟨fun b h=>(by cases h),fun u _=>?_⟩)) (fun _=>Tot.ite (fun _=>Tot.pure ⟨fun b h=>(by cases h;rfl),fun u h=>(by cases h)⟩) (fun h=>Tot.pure ⟨fun b h=>(by cases h),fun u _=>?_⟩))
  ·rw[Bool.or_eq_false_iff] at h
   exact⟨by have:=ltF h.1;omega,by have:=ltF h.2;omega⟩
  ·have h1:=eqT (notF h)
   omega
 ·refine Tot.sum (fun b hb h=>by rw[ho.1 b hb] at h;cases h) fun u hu=>?_
  obtain⟨h1,h2⟩:=ho.2 u hu
  exact formed_rest c hl hparts hv h1 h2
theorem zJT(c:zMZ)(h:csz c<=1000000000000)(hs:Sh c):Tot (fun n=>zB2 n c) (fun b=>b=true->Fm c∧csz c<=20000):=by
 unfold zB2
 refine Tot.bind (A:=fun b=>b=true->Fm c∧csz c<=20000) ?_ fun b hb=>Tot.pure hb
 refine Tot.bind (Size_T c h) fun v hv=>Tot.ite (fun hl=>?_) (fun _=>Tot.pure fun h=>by cases h)
 have hl:=leT hl
 refine Tot.bind (depth_T c h) fun d hd=>Tot.ite (fun _=>?_) (fun _=>Tot.pure fun h=>by cases h)
 exact Tot.bind (formed_T c hs) fun b hb=>Tot.pure fun h=>⟨hb h,by omega⟩
theorem CAll_T(l:List zMZ)(h: ∀x,x∈l->csz x<=1000000000000∧Sh x):Tot (fun n=>zGp n l) (fun b=>b=true->∀x,x∈l->Fm x∧csz x<=20000):=by
 unfold zGp zBS zBg
 refine Tot.bind (A:=fun v=>v=false->∀x,x∈l->Fm x∧csz x<=20000) ?_ fun v hv=>Tot.pure fun h=>hv (by simpa using h)
 refine Tot.bind (zFL (Q:=fun x=>Fm x∧csz x<=20000) (R:=fun _=>True) (P:=True) (T:=True) (Tot.index l (fun n k i=>zAb n l k i) (fun n x=>zFd n x) (fun n k i=>by rw[zAb]) _ _ fun x hx=>?_)) fun v hv=>Tot.pure hv.1
 unfold zFd
 exact Tot.bind (zJT x (h x hx).1 (h x hx).2) fun v hv=>Tot.pure ⟨fun h=>hv (by simpa using h),fun _=>trivial⟩
theorem zHh{α β:Type}(f:α->β)(l:List α)(i:Nat)(x:α)(h:l[i]? =some x):(l.take (i+1)).map f=(l.take i).map f++[f x]:=by
 rw[List.take_add_one,h];simp
theorem zKY(k:zMY):zMY.mk k.L=k:=by cases k;rfl
theorem kindOf_T(k:zMY):ksz k<=1000000->Tot (fun n=>zBl n k) (fun r=>r=k):=by
 induction k using zHi with
 |h k ih=>
 intro hk
 refine Tot.step (fun n=>by rw[zBl]) ?_
 refine Tot.bind (A:=fun r=>r=k.L) ?_ fun r hr=>Tot.pure (by rw[hr];exact zKY k)
 refine Tot.loop1 k.L (fun n kk b i=>zCR (zBl n) k kk b i) (fun n i b x=>(zBl n x).bind fun v=>app 24 b [v]) (fun b=>b)
  (fun n kk b i=>by rw[zCR];simp only[Option.bind_assoc]) (fun i b=>b=k.L.take i∧i<=k.L.length) (fun b=>b=k.L) ?_ (fun b hb=>by rw[hb.1,List.take_length]) [] ⟨by simp,by omega⟩
 intro i b x hx hb
 have hm:=zq3 hx
 have h1:=ksz_mem hm
 have hi:=(zq1 hx).1
 have hlen:k.L.length<=ksz k:=by
  rw[ksz_eq]
  have:k.L.length<=(k.L.map ksz).sum:=by
   generalize k.L=l
   induction l with
   |nil=>simp
   |cons x l ih=>simp only[List.length_cons,List.map_cons,List.sum_cons];have:=ksz_pos x;omega
  omega
 refine Tot.bind (ih x hm (by omega)) fun v hv=>?_
 subst hv
 refine⟨b++[v],⟨0,fun n _=>zFM (by decide) (by rw[hb.1];simp;omega)⟩,?_,by omega⟩
 rw[hb.1,List.take_add_one,hx];rfl
def cLeaf(c:zMZ):zMZ:=zMZ.mk c.Op c.N c.S c.Kind [] []
def cVar(n:Int):zMZ:=zMZ.mk 1 n [] (zMY.mk []) [] []
def bndB(c:zMZ):Bool:=(eqI c.Op 9)||((eqI c.Op 10)||((eqI c.Op 11)||(eqI c.Op 13)))
theorem binder_M(c:zMZ):zBf c=some (bndB c):=rfl
theorem leafOf_T(c:zMZ)(h:ksz c.Kind<=1000000):Tot (fun n=>zEH n c) (fun r=>r=cLeaf c):=by
 unfold zEH
 exact Tot.bind (kindOf_T _ h) fun v hv=>Tot.pure (by rw[hv];rfl)
def shLeaf(a y:Int)(c:zMZ)(b:Int):zMZ:=if (eqI c.Op 1&&leI a (c.N-b))=true then cVar (c.N+y) else cLeaf c
theorem shifted_T(c:zMZ)(b a y:Int)(h:okN c)(hb:0<=b)(hb2:b<=1000000)(hy: -100000<=y)(hy2:y<=1000000):Tot (fun n=>zDn n c b a y) (fun r=>r=shLeaf a y c b):=by
 have h1:=h.n0
 have h2:=h.n1
 have h3:=h.kind
 unfold zDn shLeaf
 refine Tot.bind (A:=fun q=>q=(eqI c.Op 1&&leI a (c.N-b))) ?_ fun q hq=>?_
 ·refine Tot.ite (fun h=>Tot.chk (by omega) (by omega) (Tot.pure (by rw[h];rfl))) (fun h=>Tot.pure (by rw[h];rfl))
 ·rw[<-hq]
  cases q with
  |true=>exact Tot.chk (by omega) (by omega) (Tot.pure rfl)
  |false=>exact Tot.bind (leafOf_T c (by omega)) fun v hv=>Tot.pure hv
def shf(a y:Int)(c:zMZ)(b:Int):zMZ:=
 if (eqI c.Op 1||eqI c.Op 2)=true then shLeaf a y c b else zMZ.mk c.Op c.N c.S c.Kind c.Names (c.L.map fun x=>shf a y x (if bndB c then b+1 else b))
termination_by SizeOf.sizeOf c
decreasing_by all_goals (cases c;simp only[zMZ.mk.sizeOf_spec];have:=List.sizeOf_lt_of_mem ‹_›;simp only at this;omega)
theorem shf_eq(a y:Int)(c:zMZ)(b:Int):shf a y c b=if (eqI c.Op 1||eqI c.Op 2)=true then shLeaf a y c b else zMZ.mk c.Op c.N c.S c.Kind c.Names (c.L.map fun x=>shf a y x (if bndB c then b+1 else b)):=by rw[shf]
theorem clone_T(l:List (List UInt8))(h:l.length<=100000):zA7 l=some l:=by
 cases l with
 |nil=>rfl
 |cons x l=>rw[zA7,clC,if_pos ⟨by simp,by decide,by simp at h ⊢;omega⟩]
theorem zJQ(op n:Int)(s:List UInt8)(k:zMY)(ns:List (List UInt8)):csz (zMZ.mk op n s k ns [])=1:=by rw[zGM];rfl
theorem sh_leaf(op n:Int)(s:List UInt8)(k:zMY)(ns:List (List UInt8))(h:s.length<=100000):Sh (zMZ.mk op n s k ns []):=.mk _ (by simp only;omega) fun x hx=>by cases hx
def cZ:zMZ:=zMZ.mk 0 0 [] (zMY.mk []) [] []
theorem csz_cZ:csz cZ=1:=zJQ _ _ _ _ _
theorem sh_cZ:Sh cZ:=sh_leaf _ _ _ _ _ (by simp)
def RbI(K:Nat)(f:zMZ->zMZ)(c:zMZ)(left:Int)(i:Nat)(b:Int×List zMZ):Prop:=
 b.2.length=i∧i<=c.L.length∧-20000<=b.1∧b.1<=20000∧(b.2.map csz).sum<=K*((c.L.take i).map csz).sum∧(∀x,x∈b.2->Sh x)∧(0<=b.1->b.2=(c.L.take i).map f∧b.1=left-((b.2.map csz).sum:Nat))∧(((c.L.map fun x=>csz (f x)).sum:Int)<=left->0<=b.1)
def RbR(K:Nat)(f:zMZ->zMZ)(c:zMZ)(left:Int)(b:Int×List zMZ):Prop:=
 b.2.length=c.L.length∧-20000<=b.1∧b.1<=20000∧(b.2.map csz).sum<=K*(c.L.map csz).sum∧(∀x,x∈b.2->Sh x)∧(0<=b.1->b.2=c.L.map f∧b.1=left-((b.2.map csz).sum:Nat))∧(((c.L.map fun x=>csz (f x)).sum:Int)<=left->0<=b.1)
theorem rb_loop(K:Nat)(f:zMZ->zMZ)(c:zMZ)(left:Int)(h1: -20000<=left)(h2:left<=20000)(hlen:c.L.length<=1000000)(L:Nat->Nat->Int×List zMZ->Nat->Option (Int×List zMZ))(F:Nat->zMZ->Int->Option (zMZ×Int))
 (hL: ∀n k b i,L n (k+1) b i=if ltI (i:Int) (c.L.length:Int)=true then (c.L[i]?).bind fun x=>(F n x b.1).bind fun v=>(app 104 b.2 [v.1]).bind fun l=>L n k (v.2,l) (i+1) else some (b.1,b.2))
 (hF: ∀x,x∈c.L->∀q:Int,-20000<=q->q<=20000->Tot (fun n=>F n x q) (fun r=> -20000<=r.2∧r.2<=20000∧csz r.1<=K*csz x∧Sh r.1∧(0<=r.2->0<q∧r.1=f x∧r.2=q-csz r.1)∧((csz (f x):Int)<=q->0<=r.2))):
 Tot (fun n=>L n n (left,[]) 0) (RbR K f c left):=by
 have hsum:=fun i x (h:c.L[i]? =some x)=>zC7 (fun x=>csz (f x)) c.L i x h
 have hle:=fun i=>zHy (fun x=>csz (f x)) c.L i
 refine Tot.loop1 c.L L (fun n i b x=>(F n x b.1).bind fun v=>(app 104 b.2 [v.1]).bind fun l=>some (v.2,l)) (fun b=>b)
  (fun n k b i=>by rw[hL];simp only[Option.bind_assoc,zDD]) (RbI K f c left) _ ?_ (fun b hb=>?_) (left,[]) ⟨rfl,by omega,h1,h2,by simp,fun x hx=>(by cases hx),fun _=>⟨rfl,by simp⟩,fun h=>(by show 0<=left;omega)⟩
 ·intro i b x hx hb
  obtain⟨q1,q2,q3,q4,q5,q6,q7,q8⟩:=hb
  have hm:=zq3 hx
  have hi:=(zq1 hx).1
  refine Tot.bind (hF x hm b.1 q3 q4) fun v hv=>?_
  obtain⟨w1,w2,w3,w4,w5,w6⟩:=hv
  refine Tot.k (a:=b.2++[v.1]) (zFM (by decide) (by simp;omega)) (Tot.pure ⟨by simp;omega,by omega,w1,w2,?_,fun z hz=>?_,fun h0=>?_,fun h0=>?_⟩)
  ·rw[zC7 csz _ _ _ hx,List.map_append,List.sum_append,Nat.mul_add]
   simp only[List.map_cons,List.map_nil,List.sum_cons,List.sum_nil]
   omega
  ·rcases List.mem_append.1 hz with hz|hz
   ·exact q6 z hz
   ·rw[List.mem_singleton.1 hz];exact w4
  ·obtain⟨e1,e2,e3⟩:=w5 h0
   obtain⟨e4,e5⟩:=q7 (by omega)
   refine⟨?_,?_⟩
   ·rw[zHh f _ _ _ hx,e4,e2]
   ·simp only[List.map_append,List.sum_append,List.map_cons,List.map_nil,List.sum_cons,List.sum_nil]
    omega
  ·have q9:=q8 h0
   obtain⟨e4,e5⟩:=q7 q9
   refine w6 ?_
   have h3:=hsum i x hx
   have h4:=hle (i+1)
   rw[e4,List.map_map] at e5
   simp only[Function.comp_def] at e5
   omega
 ·obtain⟨q1,q2,q3,q4,q5,q6,q7,q8⟩:=hb
  rw[List.take_length] at q5 q7
  exact⟨q1,q3,q4,q5,q6,q7,q8⟩
theorem rb_node{K:Nat}{f:zMZ->zMZ}{c:zMZ}{left:Int}(hK:1<=K)(hs:c.S.length<=100000)(hl:0<left){o:Int×List zMZ}(h:RbR K f c (left-1) o):
 -20000<=o.1∧o.1<=20000∧csz (zMZ.mk c.Op c.N c.S c.Kind c.Names o.2)<=K*csz c∧Sh (zMZ.mk c.Op c.N c.S c.Kind c.Names o.2)∧
  (0<=o.1->0<left∧zMZ.mk c.Op c.N c.S c.Kind c.Names o.2=zMZ.mk c.Op c.N c.S c.Kind c.Names (c.L.map f)∧o.1=left-csz (zMZ.mk c.Op c.N c.S c.Kind c.Names o.2))∧((csz (zMZ.mk c.Op c.N c.S c.Kind c.Names (c.L.map f)):Int)<=left->0<=o.1):=by
 obtain⟨q1,q2,q3,q4,q5,q6,q7⟩:=h
 have e:csz (zMZ.mk c.Op c.N c.S c.Kind c.Names o.2)=1+(o.2.map csz).sum:=by rw[zGM]
 have e':=zGM c
 refine⟨q2,q3,?_,.mk _ (by simp only;omega) q5,fun h0=>?_,fun h0=>q7 ?_⟩
 ·rw[e,e',Nat.mul_add];omega
 ·obtain⟨e1,e2⟩:=q6 h0
  refine⟨hl,by rw[e1],?_⟩
  rw[e];omega
 ·rw[zGM,List.map_map] at h0
  simp only[Function.comp_def] at h0
  omega
theorem rebuild2_T(a y:Int)(hy: -100000<=y)(hy2:y<=1000000)(c:zMZ):Fm c->csz c<=1000000->∀b left:Int,0<=b->b+csz c<=1000000->-20000<=left->left<=20000->
 Tot (fun n=>zAe n c b a y left) (fun r=> -20000<=r.2∧r.2<=20000∧csz r.1<=1*csz c∧Sh r.1∧(0<=r.2->0<left∧r.1=shf a y c b∧r.2=left-csz r.1)∧((csz (shf a y c b):Int)<=left->0<=r.2)):=by
 induction c using zD5 with
 |h c ih=>
 intro hf hc b left hb hbc hl hl2
 have hok:=hf.here
 have hp:=zF8 c
 have hlc:=len_csz c
 have hn:=hok.names
 have hkd:=hok.kind
 have hst:=hok.str
 refine Tot.step (fun n=>by rw[zAe]) ?_
 refine Tot.ite (fun _=>Tot.pure ⟨by decide,by decide,by show csz cZ<=_;rw[csz_cZ];omega,sh_cZ,fun h=>by simp at h,fun h=>by have:=zF8 (shf a y c b);rename_i h9;have:=leT h9;omega⟩) (fun h0=>?_)
 have h0:=leF h0
 refine Tot.ite (fun hlf=>?_) (fun hlf=>?_)
 ·refine Tot.bind (shifted_T c b a y hok hb (by omega) hy hy2) fun v hv=>?_
  have hv1:csz v=1∧Sh v:=by
   rw[hv];unfold shLeaf
   split
   ·exact⟨zJQ _ _ _ _ _,sh_leaf _ _ _ _ _ (by simp)⟩
   ·exact⟨zJQ _ _ _ _ _,sh_leaf _ _ _ _ _ (by omega)⟩
  refine Tot.bind (Size_T v (by omega)) fun w hw=>?_
  refine Tot.chk (by omega) (by omega) (Tot.pure ⟨by simp only;omega,by simp only;omega,by simp only;omega,hv1.2,fun _=>⟨h0,?_,by simp only;omega⟩,fun _=>by simp only;omega⟩)
  rw[shf_eq,if_pos hlf];exact hv
 ·refine Tot.chk (by omega) (by omega) ?_
  refine Tot.bind (kindOf_T _ (by omega)) fun v hv=>?_
  subst hv
  refine Tot.k (clone_T _ (by omega)) ?_
  have hq: ∀(q:Int),q=(if bndB c then b+1 else b)->∀r:zMZ×Int,(∃o,r=(zMZ.mk c.Op c.N c.S c.Kind c.Names o.2,o.1)∧RbR 1 (fun x=>shf a y x q) c (left-1) o)->
   -20000<=r.2∧r.2<=20000∧csz r.1<=1*csz c∧Sh r.1∧(0<=r.2->0<left∧r.1=shf a y c b∧r.2=left-csz r.1)∧((csz (shf a y c b):Int)<=left->0<=r.2):=by
   rintro q hq r ⟨o,rfl,ho⟩
   obtain⟨w1,w2,w3,w4,w5,w6⟩:=rb_node (by decide) (by omega) h0 ho
   refine⟨w1,w2,w3,w4,fun h=>?_,fun h=>w6 (by rw[shf_eq,if_neg (by rw[hlf];simp),<-hq] at h;exact h)⟩
   obtain⟨e1,e2,e3⟩:=w5 h
   exact⟨e1,by rw[e2,shf_eq,if_neg (by rw[hlf];simp),<-hq],e3⟩
  refine Tot.bind (A:=fun q=>q=(if bndB c then b+1 else b)) (Tot.k (binder_M c) (Tot.ite (fun h=>Tot.chk (by omega) (by omega) (Tot.pure (by rw[h];rfl))) (fun h=>Tot.pure (by rw[h];rfl)))) fun d hd=>?_
  have hd2:0<=d∧d<=b+1:=by rw[hd];split<;>omega
  refine Tot.bind (rb_loop 1 (fun x=>shf a y x d) c (left-1) (by omega) (by omega) (by omega) (fun n k b' i=>zAv (zAe n) c a y d k b'.1 b'.2 i) (fun n x q=>zAe n x d a y q)
   (fun n k b' i=>by rw[zAv]) fun x hx q q1 q2=>ih x hx (hf.part hx) (by have:=zD4 hx;omega) d q (by omega) (by have:=zD4 hx;omega) q1 q2) fun o ho=>?_
  exact Tot.pure (hq d hd _ ⟨o,rfl,ho⟩)
theorem zKW{c:zMZ}(h:okN c)(ho:(eqI c.Op 1||eqI c.Op 2)=true):c.L=[]∧c.Names=[]:=by
 have h1:=h.parts
 have h2:=h.lab
 rw[Bool.or_eq_true] at ho
 have ho:c.Op=1∨c.Op=2:=ho.imp eqT eqT
 have hp:zCc c=some 0:=by
  unfold zCc zBP zBf
  rcases ho with ho|ho<;>rw[ho]<;>rfl
 rw[hp] at h1
 have:=zqa h1
 refine⟨List.eq_nil_of_length_eq_zero (by omega),h2.resolve_right fun h3=>?_⟩
 unfold zBP at h3
 rcases ho with ho|ho<;>rw[ho] at h3<;>cases h3
theorem csz_shLeaf(a y:Int)(c:zMZ)(b:Int):csz (shLeaf a y c b)=1:=by
 unfold shLeaf;split<;>exact zJQ _ _ _ _ _
theorem csz_shf(a y:Int)(c:zMZ):Fm c->∀b,csz (shf a y c b)=csz c:=by
 induction c using zD5 with
 |h c ih=>
 intro hf b
 rw[shf_eq]
 split
 ·rename_i ho
  rw[csz_shLeaf,zGM,(zKW hf.here ho).1];rfl
 ·rw[zGM,zGM c,List.map_map]
  congr 2
  exact List.map_congr_left fun x hx=>ih x hx (hf.part hx) _
theorem idxI{α:Type}(l:List α)(i:Int)(h:0<=i)(h2:i<l.length): ∃x,x∈l∧idx l i=some x∧l[i.toNat]? =some x:=by
 have hx:l[i.toNat]? =some (l[i.toNat]'(by omega)):=zq2 (by omega)
 exact⟨_,List.getElem_mem (by omega),by rw[idx,if_pos h,hx],hx⟩
def sbLeaf(l:List zMZ)(c:zMZ)(b:Int):zMZ:=
 if (!(eqI c.Op 1)||ltI (c.N-b) 0)=true then cLeaf c else if leI (l.length:Int) (c.N-b)=true then cVar (c.N-l.length) else shf 0 b ((l[(c.N-b).toNat]?).getD cZ) 0
theorem subst1_T(l:List zMZ)(hl: ∀x,x∈l->Fm x∧csz x<=20000)(hll:l.length<=1000)(c:zMZ)(b:Int)(h:okN c)(hb:0<=b)(hb2:b<=900000):
 Tot (fun n=>zES n c b l) (fun r=>r=sbLeaf l c b∧csz r<=20000∧Sh r):=by
 have h1:=h.n0
 have h2:=h.n1
 have h3:=h.kind
 have h4:=h.str
 unfold zES sbLeaf
 refine Tot.chk (by omega) (by omega) ?_
 refine Tot.ite (fun hc=>?_) (fun hc=>?_)
 ·rw[if_pos hc]
  exact Tot.bind (leafOf_T c (by omega)) fun v hv=>Tot.pure ⟨hv,by rw[hv];show csz (cLeaf c)<=_;rw[cLeaf,zJQ];omega,by rw[hv];exact sh_leaf _ _ _ _ _ (by omega)⟩
 ·rw[if_neg (by rw[hc];simp)]
  rw[Bool.or_eq_false_iff] at hc
  have hn:=ltF hc.2
  refine Tot.ite (fun hc2=>?_) (fun hc2=>?_)
  ·rw[if_pos hc2]
   exact Tot.chk (by omega) (by omega) (Tot.k rfl (Tot.pure ⟨rfl,by show csz (cVar _)<=_;rw[cVar,zJQ];omega,sh_leaf _ _ _ _ _ (by simp)⟩))
  ·rw[if_neg (by rw[hc2];simp)]
   have hn2:=leF hc2
   obtain⟨x,hx,e1,e2⟩:=idxI l (c.N-b) hn hn2
   refine Tot.k rfl (Tot.k e1 ?_)
   obtain⟨hf,hs⟩:=hl x hx
   refine Tot.bind (rebuild2_T 0 b (by omega) (by omega) x hf (by omega) 0 20000 (by omega) (by omega) (by omega) (by omega)) fun v hv=>Tot.pure ?_
   obtain⟨w1,w2,w3,w4,w5,w6⟩:=hv
   have:=w5 (w6 (by rw[csz_shf 0 b x hf 0];omega))
   rw[e2]
   exact⟨this.2.1,by omega,w4⟩
def sbs(l:List zMZ)(c:zMZ)(b:Int):zMZ:=
 if (eqI c.Op 1||eqI c.Op 2)=true then sbLeaf l c b else zMZ.mk c.Op c.N c.S c.Kind c.Names (c.L.map fun x=>sbs l x (if bndB c then b+1 else b))
termination_by SizeOf.sizeOf c
decreasing_by all_goals (cases c;simp only[zMZ.mk.sizeOf_spec];have:=List.sizeOf_lt_of_mem ‹_›;simp only at this;omega)
theorem sbs_eq(l:List zMZ)(c:zMZ)(b:Int):sbs l c b=if (eqI c.Op 1||eqI c.Op 2)=true then sbLeaf l c b else zMZ.mk c.Op c.N c.S c.Kind c.Names (c.L.map fun x=>sbs l x (if bndB c then b+1 else b)):=by rw[sbs]
theorem rebuild_T(l:List zMZ)(hll: ∀x,x∈l->Fm x∧csz x<=20000)(hlen:l.length<=1000)(c:zMZ):Fm c->csz c<=100000->∀b left:Int,0<=b->b+csz c<=900000->-20000<=left->left<=20000->
 Tot (fun n=>zAr n c b left l) (fun r=> -20000<=r.2∧r.2<=20000∧csz r.1<=20000*csz c∧Sh r.1∧(0<=r.2->0<left∧r.1=sbs l c b∧r.2=left-csz r.1)∧((csz (sbs l c b):Int)<=left->0<=r.2)):=by
 induction c using zD5 with
 |h c ih=>
 intro hf hc b left hb hbc hl hl2
 have hok:=hf.here
 have hp:=zF8 c
 have hlc:=len_csz c
 have hn:=hok.names
 have hkd:=hok.kind
 have hst:=hok.str
 refine Tot.step (fun n=>by rw[zAr]) ?_
 refine Tot.ite (fun h9=>Tot.pure ⟨by decide,by decide,by show csz cZ<=_;rw[csz_cZ];omega,sh_cZ,fun h=>by simp at h,fun h=>by have:=zF8 (sbs l c b);have:=leT h9;omega⟩) (fun h0=>?_)
 have h0:=leF h0
 refine Tot.ite (fun hlf=>?_) (fun hlf=>?_)
 ·refine Tot.bind (subst1_T l hll hlen c b hok hb (by omega)) fun v hv=>?_
  obtain⟨hv,hv1,hv2⟩:=hv
  refine Tot.bind (Size_T v (by omega)) fun w hw=>?_
  have e:sbs l c b=v:=by rw[sbs_eq,if_pos hlf,hv]
  refine Tot.chk (by omega) (by omega) (Tot.pure ⟨by simp only;omega,by simp only;omega,by simp only;omega,hv2,fun _=>⟨h0,e.symm,by simp only;omega⟩,fun h=>by rw[e] at h;simp only;omega⟩)
 ·refine Tot.chk (by omega) (by omega) ?_
  refine Tot.bind (kindOf_T _ (by omega)) fun v hv=>?_
  subst hv
  refine Tot.k (clone_T _ (by omega)) ?_
  have hq: ∀(q:Int),q=(if bndB c then b+1 else b)->∀r:zMZ×Int,(∃o,r=(zMZ.mk c.Op c.N c.S c.Kind c.Names o.2,o.1)∧RbR 20000 (fun x=>sbs l x q) c (left-1) o)->
   -20000<=r.2∧r.2<=20000∧csz r.1<=20000*csz c∧Sh r.1∧(0<=r.2->0<left∧r.1=sbs l c b∧r.2=left-csz r.1)∧((csz (sbs l c b):Int)<=left->0<=r.2):=by
   rintro q hq r ⟨o,rfl,ho⟩
   obtain⟨w1,w2,w3,w4,w5,w6⟩:=rb_node (by decide) (by omega) h0 ho
   refine⟨w1,w2,w3,w4,fun h=>?_,fun h=>w6 (by rw[sbs_eq,if_neg (by rw[hlf];simp),<-hq] at h;exact h)⟩
   obtain⟨e1,e2,e3⟩:=w5 h
   exact⟨e1,by rw[e2,sbs_eq,if_neg (by rw[hlf];simp),<-hq],e3⟩
  refine Tot.bind (A:=fun q=>q=(if bndB c then b+1 else b)) (Tot.k (binder_M c) (Tot.ite (fun h=>Tot.chk (by omega) (by omega) (Tot.pure (by rw[h];rfl))) (fun h=>Tot.pure (by rw[h];rfl)))) fun d hd=>?_
  have hd2:0<=d∧d<=b+1:=by rw[hd];split<;>omega
  refine Tot.bind (rb_loop 20000 (fun x=>sbs l x d) c (left-1) (by omega) (by omega) (by omega) (fun n k b' i=>zBJ (zAr n) c l d k b'.1 b'.2 i) (fun n x q=>zAr n x d q l)
   (fun n k b' i=>by rw[zBJ]) fun x hx q q1 q2=>ih x hx (hf.part hx) (by have:=zD4 hx;omega) d q (by omega) (by have:=zD4 hx;omega) q1 q2) fun o ho=>?_
  exact Tot.pure (hq d hd _ ⟨o,rfl,ho⟩)
def ErrOr(e0:Int)(w:zMZ)(r:zMZ×Int):Prop:=(r.2=0∧Fm r.1∧csz r.1<=20000∧r.1=w)∨(r.2≠0∧r.1=cZ)
theorem replaced_T{w:zMZ}{f:Nat->Option (zMZ×Int)}{K:Nat}(hK:K<=1000000000000)
 (h:Tot f (fun r=> -20000<=r.2∧r.2<=20000∧csz r.1<=K∧Sh r.1∧(0<=r.2->r.1=w))):
 Tot (fun n=>(f n).bind fun v=>(if ltI v.2 0=true then some true else (zB2 n v.1).bind fun b=>some (!b):Option Bool).bind fun b=>if b=true then some (cZ,(6:Int)) else some (v.1,0)) (ErrOr 6 w):=by
 refine Tot.bind h fun v hv=>?_
 obtain⟨w1,w2,w3,w4,w5⟩:=hv
 refine Tot.bind (A:=fun b=>b=false->0<=v.2∧Fm v.1∧csz v.1<=20000) ?_ (fun b hb=>?_)
 ·refine Tot.ite (fun _=>Tot.pure fun h=>by cases h) (fun h=>?_)
  have h:=ltF h
  exact Tot.bind (zJT v.1 (by omega) w4) fun b hb=>Tot.pure fun hq=>⟨h,hb (notF hq)⟩
 ·refine Tot.ite (fun _=>Tot.pure (.inr ⟨by decide,rfl⟩)) (fun h=>Tot.pure (.inl ?_))
  obtain⟨e1,e2,e3⟩:=hb h
  exact⟨rfl,e2,e3,w5 e1⟩
theorem Subst_T(c:zMZ)(l:List zMZ)(hc:csz c<=1000000000000)(hs:Sh c)(hl: ∀x,x∈l->csz x<=1000000000000∧Sh x):Tot (fun n=>zFe n c l) (ErrOr 6 (sbs l c 0)):=by
 unfold zFe
 refine Tot.bind (A:=fun b=>b=false->(Fm c∧csz c<=20000)∧∀x,x∈l->Fm x∧csz x<=20000) ?_ (fun b hb=>?_)
 ·refine Tot.bind (zJT c hc hs) fun v hv=>Tot.ite (fun _=>Tot.pure fun h=>by cases h) (fun h=>?_)
  exact Tot.bind (CAll_T l hl) fun b hb=>Tot.pure fun hq=>⟨hv (notF h),hb (notF hq)⟩
 refine Tot.ite (fun _=>Tot.pure (.inr ⟨by decide,rfl⟩)) (fun h=>?_)
 obtain⟨⟨hf,hcs⟩,hfl⟩:=hb h
 refine Tot.ite (fun _=>Tot.pure (.inr ⟨by decide,rfl⟩)) (fun h=>?_)
 have h:=ltF h
 refine Tot.bind (A:=ErrOr 6 (sbs l c 0)) ?_ fun v hv=>Tot.pure hv
 unfold zCb
 refine replaced_T (K:=20000*csz c) (by omega) ((rebuild_T l hfl (by omega) c hf (by omega) 0 20000 (by omega) (by omega) (by omega) (by omega)).mono fun r hr=>?_)
 exact⟨hr.1,hr.2.1,hr.2.2.1,hr.2.2.2.1,fun h=>(hr.2.2.2.2.1 h).2.1⟩
theorem each_loop(c:zMZ)(L:Nat->Nat->Bool->Nat->Option Bool)(F:Nat->zMZ->Bool->Option Bool)
 (hL: ∀n k b i,L n (k+1) b i=if ltI (i:Int) (c.L.length:Int)=true then (c.L[i]?).bind fun x=>(F n x b).bind fun v=>L n k v (i+1) else some b)
 (hF: ∀x,x∈c.L->∀q:Bool,Tot (fun n=>F n x q) (fun _=>True)) (b0:Bool):Tot (fun n=>L n n b0 0) (fun _=>True):=
 Tot.loop1 c.L L (fun n i b x=>F n x b) (fun b=>b) hL (fun _ _=>True) _ (fun i b x hx _=>hF x (zq3 hx) b) (fun _ _=>trivial) b0 trivial
theorem shift1_T(c:zMZ)(b a y:Int)(q:Bool)(h:okN c)(hb:0<=b)(hb2:b<=1000000)(hy: -100000<=y)(hy2:y<=1000000): ∃r,zET c b a y q=some r:=by
 have h1:=h.n0
 have h2:=h.n1
 unfold zET
 rw[chk64 (by omega) (by omega),zDD,chk64 (by omega) (by omega),zDD]
 split
 ·split
  ·rw[zDD];split<;>exact⟨_,rfl⟩
  ·rw[zDD];split<;>exact⟨_,rfl⟩
 ·rw[zDD];split<;>exact⟨_,rfl⟩
theorem each_T(a y:Int)(hy: -100000<=y)(hy2:y<=1000000)(c:zMZ):Fm c->∀(b:Int)(q:Bool),0<=b->b+csz c<=900000->Tot (fun n=>zA0 n c b a y q) (fun _=>True):=by
 induction c using zD5 with
 |h c ih=>
 intro hf b q hb hbc
 have hok:=hf.here
 have hp:=zF8 c
 refine Tot.step (fun n=>by rw[zA0]) ?_
 refine Tot.bind (A:=fun _=>True) (Tot.ite (fun _=>?_) (fun _=>Tot.pure trivial)) fun q' _=>?_
 ·obtain⟨r,hr⟩:=shift1_T c b a y q hok hb (by omega) hy hy2
  exact Tot.k hr (Tot.pure trivial)
 refine Tot.bind (A:=fun d=>0<=d∧d<=b+1) (Tot.k (binder_M c) (Tot.ite (fun _=>Tot.chk (by omega) (by omega) (Tot.pure (by omega))) (fun _=>Tot.pure (by omega)))) fun d hd=>?_
 exact Tot.bind (each_loop c (fun n k b' i=>zBU (zA0 n) c a y d k b' i) (fun n x q=>zA0 n x d a y q) (fun n k b' i=>by rw[zBU])
  (fun x hx q=>ih x hx (hf.part hx) d q (by omega) (by have:=zD4 hx;omega)) q') fun _ _=>Tot.pure trivial
theorem Shift_T(c:zMZ)(y a:Int)(hc:csz c<=1000000000000)(hs:Sh c):Tot (fun n=>zEr n c y a) (ErrOr 6 (shf a y c 0)):=by
 unfold zEr
 refine Tot.bind (zJT c hc hs) fun v hv=>Tot.ite (fun _=>Tot.pure (.inr ⟨by decide,rfl⟩)) (fun h=>?_)
 obtain⟨hf,hcs⟩:=hv (notF h)
 refine Tot.ite (fun _=>Tot.pure (.inr ⟨by decide,rfl⟩)) (fun h=>?_)
 simp only[Bool.or_eq_false_iff] at h
 have h1:=ltF h.1
 have h2:=ltF h.2.1
 have h3:=ltF h.2.2
 refine Tot.bind (each_T a y (by omega) (by omega) c hf 0 false (by omega) (by omega)) fun b _=>Tot.ite (fun _=>Tot.pure (.inr ⟨by decide,rfl⟩)) (fun _=>?_)
 refine Tot.k rfl ?_
 refine Tot.bind (A:=ErrOr 6 (shf a y c 0)) ?_ fun v hv=>Tot.pure hv
 unfold zCG
 refine replaced_T (K:=1*csz c) (by omega) ((rebuild2_T a y (by omega) (by omega) c hf (by omega) 0 20000 (by omega) (by omega) (by omega) (by omega)).mono fun r hr=>?_)
 exact⟨hr.1,hr.2.1,hr.2.2.1,hr.2.2.2.1,fun h=>(hr.2.2.2.2.1 h).2.1⟩
theorem conEta(c:zMZ):zMZ.mk c.Op c.N c.S c.Kind c.Names c.L=c:=by cases c;rfl
theorem leaf_self{c:zMZ}(h:okN c)(ho:(eqI c.Op 1||eqI c.Op 2)=true):cLeaf c=c:=by
 obtain⟨h1,h2⟩:=zKW h ho
 unfold cLeaf
 conv=>rhs;rw[<-conEta c,h1,h2]
theorem okN.len{c:zMZ}(h:okN c):((c.Op=9∨c.Op=10∨c.Op=11∨c.Op=13)->c.L.length=1)∧((c.Op=6∨c.Op=12)->c.L.length=2)∧((c.Op=7∨c.Op=8)->c.L.length=c.Names.length):=by
 have h1:=h.parts
 unfold zCc zBP zBf at h1
 refine⟨fun ho=>?_,fun ho=>?_,fun ho=>?_⟩
 ·rcases ho with ho|ho|ho|ho<;>rw[ho] at h1<;>have:=zqa h1<;>omega
 ·rcases ho with ho|ho<;>rw[ho] at h1<;>have:=zqa h1<;>omega
 ·rcases ho with ho|ho<;>rw[ho] at h1<;>have:=zqa h1<;>omega
theorem okN.with{c:zMZ}(h:okN c)(l:List zMZ)(hl:l.length=c.L.length):okN (zMZ.mk c.Op c.N c.S c.Kind c.Names l):=
 ⟨by rw[hl,<-h.parts];rfl,h.n0,h.n1,h.names,h.str,h.kind,h.lab,h.var⟩
theorem kept_T(c:zMZ)(w:zMW)(hc:w.over=false->csz c<=1000000000000):
 Tot (fun n=>zB1 n c w) (fun r=>r.2.steps=w.steps∧csz r.1<=csz c∧(r.2.over=false->w.over=false∧r.1=c∧csz c<=20000)):=by
 have hp:=zF8 c
 have hz:csz cZ<=csz c:=by rw[csz_cZ];exact hp
 unfold zB1
 refine Tot.ite (fun h=>Tot.pure ⟨rfl,hz,fun h'=>by rw[h] at h';cases h'⟩) (fun h=>?_)
 refine Tot.bind (nsize_T c (hc h)) fun v hv=>Tot.ite (fun _=>Tot.pure ⟨rfl,hz,fun h'=>by cases h'⟩) (fun h'=>Tot.pure ⟨rfl,Nat.le_refl _,fun _=>⟨h,rfl,?_⟩⟩)
 rw[Bool.or_eq_false_iff] at h'
 have:=ltF h'.1
 omega
theorem beta_T(f a x:zMZ)(w:zMW)(hx:f.L[0]? =some x)(h0:0<=w.steps)(h1:w.steps<=20000)(hcx:csz x<=1000000000000∧Sh x)(hca:csz a<=1000000000000∧Sh a):
 Tot (fun n=>zCX n f a w) (fun r=>r.2.steps=w.steps+1∧(r.2.over=false->w.steps+1<=10000∧Fm r.1∧csz r.1<=20000)):=by
 unfold zCX
 refine Tot.chk (by omega) (by omega) (Tot.ite (fun _=>Tot.pure ⟨rfl,fun h=>by cases h⟩) (fun hs=>Tot.ite (fun h=>Tot.pure ⟨rfl,fun h'=>by rw[h] at h';cases h'⟩) (fun h=>?_)))
 have hs:=ltF hs
 refine Tot.k hx ?_
 refine Tot.bind (Subst_T x [a] hcx.1 hcx.2 (fun z hz=>by rw[List.mem_singleton.1 hz];exact hca)) fun v hv=>?_
 refine Tot.ite (fun _=>Tot.pure ⟨rfl,fun h=>by cases h⟩) (fun he=>?_)
 have he:=eqT (notF he)
 rcases hv with ⟨_,hf,hcs,_⟩|⟨hv,_⟩
 ·refine Tot.bind (kept_T v.1 ⟨w.steps+1,w.over⟩ fun _=>by omega) fun r hr=>Tot.pure ⟨hr.1,fun h=>?_⟩
  obtain⟨_,e,_⟩:=hr.2.2 h
  exact⟨by omega,by rw[e];exact hf,by rw[e];exact hcs⟩
 ·exact absurd he hv
theorem occurs_T(c:zMZ): ∀m:Int,-1000000000<=m->m+csz c<=1000000000->Tot (fun n=>zCk n c m) (fun _=>True):=by
 induction c using zD5 with
 |h c ih=>
 intro m hm hc
 have hp:=zF8 c
 have key: ∀q:Int,-1000000000<=q->q<=m+1->Tot (fun n=>zAX n c.L q) (fun _=>True):=fun q h1 h2=>by
  refine Tot.step (fun n=>by rw[zAX]) ?_
  refine Tot.bind (A:=fun i=>(leI 0 i=false->∀x,x∈c.L->True)∧(leI 0 i=true->∃x,x∈c.L∧True)) ?_ (fun v hv=>Tot.pure trivial)
  refine Tot.step (fun n=>by rw[zAt]) ?_
  refine zFL (P:=True) (T:=True) (Tot.index c.L (fun n k i=>zAV (zB4 n) c.L q k i) (fun n x=>zB4 n x q) (fun n k i=>by rw[zAV]) _ _ fun x hx=>?_)
  refine Tot.step (fun n=>by rw[zB4]) ?_
  refine Tot.bind (ih x hx q h1 (by have:=zD4 hx;omega)) fun v hv=>Tot.pure ⟨fun _=>trivial,fun _=>trivial⟩
 refine Tot.step (fun n=>by rw[zCk]) ?_
 refine Tot.ite (fun _=>Tot.pure trivial) (fun _=>Tot.k rfl (Tot.ite (fun _=>Tot.chk (by omega) (by omega) ?_) (fun _=>?_)))
 ·exact Tot.bind (key (m+1) (by omega) (by omega)) fun _ _=>Tot.pure trivial
 ·exact Tot.bind (key m (by omega) (by omega)) fun _ _=>Tot.pure trivial
theorem at0{α:Type}{l:List α}(h:0<l.length): ∃x,l[0]? =some x∧x∈l:=⟨l[0],zq2 h,List.getElem_mem h⟩
theorem at1{α:Type}{l:List α}(h:1<l.length): ∃x,l[1]? =some x∧x∈l:=⟨l[1],zq2 h,List.getElem_mem h⟩
theorem eta_T(c:zMZ)(hf:Fm c)(hc:csz c<=20000):Tot (fun n=>zGH n c) (fun b=>b=true->∃x y,c.L[0]? =some x∧x∈c.L∧x.L[0]? =some y∧y∈x.L):=by
 unfold zGH
 refine Tot.bind (A:=fun b=>b=false->c.Op=11∧∃x,c.L[0]? =some x∧x∈c.L∧x.Op=12) ?_ (fun b hb=>?_)
 ·refine Tot.ite (fun _=>Tot.pure fun h=>by cases h) (fun ho=>?_)
  have ho:=eqT (notF ho)
  obtain⟨x,hx,hm⟩:=at0 (l:=c.L) (by rw[hf.here.len.1 (by omega)];omega)
  refine Tot.k hx (Tot.pure fun h=>⟨ho,x,hx,hm,eqT (notF h)⟩)
 ·refine Tot.ite (fun _=>Tot.pure fun h=>by cases h) (fun h=>?_)
  obtain⟨ho,x,hx,hm,hxo⟩:=hb h
  have h2:=(hf.part hm).here.len.2.1 (by omega)
  obtain⟨y,hy,hym⟩:=at0 (l:=x.L) (by omega)
  obtain⟨z,hz,hzm⟩:=at1 (l:=x.L) (by omega)
  refine Tot.k hx (Tot.k hy (Tot.k hz ?_))
  refine Tot.bind (A:=fun _=>True) ?_ (fun b _=>Tot.pure fun _=>⟨x,y,hx,hm,hy,hym⟩)
  refine Tot.ite (fun _=>Tot.ite (fun _=>?_) (fun _=>Tot.pure trivial)) (fun _=>Tot.pure trivial)
  exact Tot.bind (occurs_T y 0 (by omega) (by have:=zD4 hym;have:=zD4 hm;omega)) fun _ _=>Tot.pure trivial
def NzQ(w:zMW)(r:zMZ×zMW):Prop:=w.steps<=r.2.steps∧r.2.steps<=10001∧csz r.1<=20000∧(r.2.over=false->w.over=false∧Fm r.1∧r.2.steps<=10000)
theorem sum_bound{α:Type}(f:α->Nat)(K:Nat): ∀l:List α,(∀x,x∈l->f x<=K)->(l.map f).sum<=l.length*K
 |[],_=>by simp
 |x::l,h=>by
  have h1:=h x (zq9 ..)
  have h2:=sum_bound f K l fun y hy=>h y (zqc _ hy)
  rw[List.map_cons,List.sum_cons,List.length_cons,Nat.succ_mul]
  omega
theorem normalize_T: ∀(m:Nat)(c:zMZ)(w:zMW),Fm c->csz c<=20000->0<=w.steps->w.steps<=10001->(w.over=false->w.steps<=10000)->10001-w.steps<=m->Tot (fun n=>zAP n c w) (NzQ w):=by
 intro m
 induction m using Nat.strongRecOn with
 |_ m IH=>
 intro c
 induction c using zD5 with
 |h c ih=>
 intro w hf hc h0 h1 h10 hm
 have hp:=zF8 c
 have hlc:=len_csz c
 refine Tot.step (fun n=>by rw[zAP]) ?_
 refine Tot.ite (fun h=>Tot.pure ⟨Int.le_refl _,by simp only;omega,by show csz cZ<=_;rw[csz_cZ];omega,fun h'=>by rw[h] at h';cases h'⟩) (fun hov=>?_)
 refine Tot.bind (Tot.loop1 c.L (fun n k (b:Int×Bool×List zMZ) i=>zAo (zAP n) c k b.1 b.2.1 b.2.2 i)
  (fun n i b x=>(zAP n x ⟨b.1,b.2.1⟩).bind fun v=>(app 104 b.2.2 [v.1]).bind fun l=>some (v.2.steps,v.2.over,l)) (fun b=>b)
  (fun n k b i=>by rw[zAo];simp only[Option.bind_assoc,zDD])
  (fun i b=>w.steps<=b.1∧b.1<=10001∧b.2.2.length=i∧(∀x,x∈b.2.2->csz x<=20000)∧(b.2.1=false->b.1<=10000∧∀x,x∈b.2.2->Fm x))
  (fun b=>w.steps<=b.1∧b.1<=10001∧b.2.2.length=c.L.length∧(∀x,x∈b.2.2->csz x<=20000)∧(b.2.1=false->b.1<=10000∧∀x,x∈b.2.2->Fm x)) ?_ (fun b hb=>hb) (w.steps,w.over,[]) ⟨Int.le_refl _,h1,rfl,fun x hx=>(by cases hx),fun h=>⟨h10 h,fun x hx=>(by cases hx)⟩⟩) fun o ho=>?_
 ·intro i b x hx hb
  obtain⟨q1,q2,q3,q4,q5⟩:=hb
  have hxm:=zq3 hx
  have hi:=(zq1 hx).1
  have hcx:=zD4 hxm
  refine Tot.bind (ih x hxm ⟨b.1,b.2.1⟩ (hf.part hxm) (by omega) (by simp only;omega) (by simp only;omega) (fun h=>(q5 h).1) (by simp only;omega)) fun v hv=>?_
  obtain⟨w1,w2,w3,w4⟩:=hv
  refine Tot.k (a:=b.2.2++[v.1]) (zFM (by decide) (by simp;omega)) (Tot.pure ⟨by simp only at w1 ⊢;omega,w2,by simp;omega,fun z hz=>?_,fun h=>⟨(w4 h).2.2,fun z hz=>?_⟩⟩)
  ·rcases List.mem_append.1 hz with hz|hz
   ·exact q4 z hz
   ·rw[List.mem_singleton.1 hz];exact w3
  ·rcases List.mem_append.1 hz with hz|hz
   ·exact(q5 (w4 h).1).2 z hz
   ·rw[List.mem_singleton.1 hz];exact(w4 h).2.1
 obtain⟨q1,q2,q3,q4,q5⟩:=ho
 have hsum:=sum_bound csz 20000 o.2.2 q4
 have hcn:csz (zMZ.mk c.Op c.N c.S c.Kind c.Names o.2.2)<=1000000000:=by
  rw[zGM]
  have:o.2.2.length*20000<=20000*20000:=Nat.mul_le_mul_right _ (by omega)
  simp only;omega
 refine Tot.bind (kept_T _ ⟨o.1,o.2.1⟩ fun _=>by omega) fun v hv=>?_
 obtain⟨k1,k2,k3⟩:=hv
 simp only at k1 k3
 refine Tot.ite (fun h=>Tot.pure ⟨by simp only;omega,by simp only;omega,by show csz cZ<=_;rw[csz_cZ];omega,fun h'=>by simp only at h';rw[h] at h';cases h'⟩) (fun hvo=>?_)
 obtain⟨k4,k5,k6⟩:=k3 hvo
 have hfn:Fm v.1:=by rw[k5];exact .mk _ (hf.here.with _ q3) (q5 k4).2
 have hst:=(q5 k4).1
 have hcs:csz v.1<=20000:=by rw[k5];exact k6
 have fin: ∀r:zMZ×zMW,w.steps<=r.2.steps->r.2.steps<=10001->csz r.1<=20000->(r.2.over=false->Fm r.1∧r.2.steps<=10000)->NzQ w r:=fun r a b d e=>⟨a,b,d,fun h=>⟨by simpa using hov,e h⟩⟩
 refine Tot.bind (A:=fun b=>b=true->v.1.Op=12∧∃x,v.1.L[0]? =some x∧x∈v.1.L∧x.Op=11) ?_ (fun b hb=>?_)
 ·refine Tot.ite (fun ho=>?_) (fun _=>Tot.pure fun h=>by cases h)
  have ho:=eqT ho
  obtain⟨x,hx,hxm⟩:=at0 (l:=v.1.L) (by rw[hfn.here.len.2.1 (by omega)];omega)
  exact Tot.k hx (Tot.pure fun h=>⟨ho,x,hx,hxm,eqT h⟩)
 refine Tot.ite (fun h=>?_) (fun h=>?_)
 ·obtain⟨ho,x,hx,hxm,hxo⟩:=hb h
  obtain⟨y,hy,hym⟩:=at1 (l:=v.1.L) (by rw[hfn.here.len.2.1 (by omega)];omega)
  refine Tot.k hx (Tot.k hy ?_)
  obtain⟨z,hz,hzm⟩:=at0 (l:=x.L) (by rw[(hfn.part hxm).here.len.1 (by omega)];omega)
  have e1:=zD4 hxm
  have e2:=zD4 hym
  have e3:=zD4 hzm
  refine Tot.bind (beta_T x y z v.2 hz (by omega) (by omega) ⟨by omega,((hfn.part hxm).part hzm).sh⟩ ⟨by omega,(hfn.part hym).sh⟩) fun u hu=>?_
  obtain⟨u1,u2⟩:=hu
  refine Tot.bind (A:=NzQ u.2) ?_ fun r hr=>Tot.pure (fin _ (by have:=hr.1;simp only;omega) hr.2.1 hr.2.2.1 fun h=>(hr.2.2.2 h).2)
  cases huo:u.2.over with
  |true=>
   refine Tot.step (fun n=>by rw[zAP]) ?_
   rw[huo]
   exact Tot.pure ⟨Int.le_refl _,by simp only;omega,by show csz cZ<=_;rw[csz_cZ];omega,fun h'=>by simp only at h';rw[huo] at h';cases h'⟩
  |false=>
   obtain⟨u3,u4,u5⟩:=u2 huo
   exact IH (m-1) (by omega) u.1 u.2 u4 u5 (by omega) (by omega) (fun _=>by omega) (by omega)
 ·refine Tot.bind (eta_T v.1 hfn hcs) fun b hb=>Tot.ite (fun h=>?_) (fun _=>Tot.pure (fin _ (by simp only;omega) (by simp only;omega) hcs fun _=>⟨hfn,by simp only;omega⟩))
  obtain⟨x,y,hx,hxm,hy,hym⟩:=hb h
  refine Tot.k hx (Tot.k hy ?_)
  have e1:=zD4 hxm
  have e2:=zD4 hym
  refine Tot.bind (Shift_T y (-1) 0 (by omega) ((hfn.part hxm).part hym).sh) fun u hu=>?_
  refine Tot.ite (fun _=>Tot.pure (fin _ (by simp only;omega) (by simp only;omega) (by show csz cZ<=_;rw[csz_cZ];omega) fun h=>by cases h)) (fun he=>?_)
  have he:=eqT (notF he)
  rcases hu with ⟨_,u1,u2,_⟩|⟨u1,_⟩
  ·exact Tot.pure (fin _ (by simp only;omega) (by simp only;omega) u2 fun _=>⟨u1,by simp only;omega⟩)
  ·exact absurd he u1
theorem copiedKind_T(k:zMY):ksz k<=1000000->Tot (fun n=>zBE n k) (fun r=>r=k):=by
 induction k using zHi with
 |h k ih=>
 intro hk
 refine Tot.step (fun n=>by rw[zBE]) ?_
 refine Tot.bind (A:=fun r=>r=k.L) ?_ fun r hr=>Tot.pure (by rw[hr];exact zKY k)
 refine Tot.loop1 k.L (fun n kk b i=>zBY (zBE n) k kk b i) (fun n i b x=>(zBE n x).bind fun v=>app 24 b [v]) (fun b=>b)
  (fun n kk b i=>by rw[zBY];simp only[Option.bind_assoc]) (fun i b=>b=k.L.take i∧i<=k.L.length) (fun b=>b=k.L) ?_ (fun b hb=>by rw[hb.1,List.take_length]) [] ⟨by simp,by omega⟩
 intro i b x hx hb
 have hm:=zq3 hx
 have h1:=ksz_mem hm
 have hi:=(zq1 hx).1
 have hlen:k.L.length<=ksz k:=by
  rw[ksz_eq]
  have:k.L.length<=(k.L.map ksz).sum:=by
   generalize k.L=l
   induction l with
   |nil=>simp
   |cons x l ih=>simp only[List.length_cons,List.map_cons,List.sum_cons];have:=ksz_pos x;omega
  omega
 refine Tot.bind (ih x hm (by omega)) fun v hv=>?_
 subst hv
 refine⟨b++[v],⟨0,fun n _=>zFM (by decide) (by rw[hb.1];simp;omega)⟩,?_,by omega⟩
 rw[hb.1,List.take_add_one,hx];rfl
theorem ncopied_T(c:zMZ):Fm c->csz c<=1000000->Tot (fun n=>zBr n c) (fun r=>r=c):=by
 induction c using zD5 with
 |h c ih=>
 intro hf hc
 have hok:=hf.here
 have hkd:=hok.kind
 have hn:=hok.names
 have hlc:=len_csz c
 refine Tot.step (fun n=>by rw[zBr]) ?_
 refine Tot.bind (copiedKind_T _ (by omega)) fun v hv=>?_
 subst hv
 refine Tot.k (clone_T _ (by omega)) ?_
 refine Tot.bind (A:=fun r=>r=c.L) ?_ fun r hr=>Tot.pure (by rw[hr,conEta])
 refine Tot.loop1 c.L (fun n kk b i=>zCE (zBr n) c kk b i) (fun n i b x=>(zBr n x).bind fun v=>app 104 b [v]) (fun b=>b)
  (fun n kk b i=>by rw[zCE];simp only[Option.bind_assoc]) (fun i b=>b=c.L.take i∧i<=c.L.length) (fun b=>b=c.L) ?_ (fun b hb=>by rw[hb.1,List.take_length]) [] ⟨by simp,by omega⟩
 intro i b x hx hb
 have hm:=zq3 hx
 have h1:=zD4 hm
 have hi:=(zq1 hx).1
 refine Tot.bind (ih x hm (hf.part hm) (by omega)) fun v hv=>?_
 subst hv
 refine⟨b++[v],⟨0,fun n _=>zFM (by decide) (by rw[hb.1];simp;omega)⟩,?_,by omega⟩
 rw[hb.1,List.take_add_one,hx];rfl
def NQ(r:zMZ×Int):Prop:=(r.2=0∧Fm r.1∧csz r.1<=20000)∨(r.2≠0∧r.1=cZ)
theorem NQ.ok{r:zMZ×Int}(h:NQ r)(h0:r.2=0):Fm r.1∧csz r.1<=20000:=by
 rcases h with ⟨_,h1,h2⟩|⟨h1,_⟩
 ·exact⟨h1,h2⟩
 ·exact absurd h0 h1
theorem ErrOr.ok{e:Int}{w:zMZ}{r:zMZ×Int}(h:ErrOr e w r)(h0:r.2=0):Fm r.1∧csz r.1<=20000∧r.1=w:=by
 rcases h with ⟨_,h1,h2,h3⟩|⟨h1,_⟩
 ·exact⟨h1,h2,h3⟩
 ·exact absurd h0 h1
theorem Normal_T(c:zMZ)(hc:csz c<=1000000000000)(hs:Sh c):Tot (fun n=>zEW n c) NQ:=by
 unfold zEW
 refine Tot.bind (zJT c hc hs) fun v hv=>Tot.ite (fun _=>Tot.pure (.inr ⟨by decide,rfl⟩)) (fun h=>?_)
 obtain⟨hf,hcs⟩:=hv (notF h)
 refine Tot.bind (A:=fun r=>r.2=true->Fm r.1∧csz r.1<=20000) ?_ fun r hr=>Tot.ite (fun _=>Tot.pure (.inr ⟨by decide,rfl⟩)) (fun h=>?_)
 ·unfold zGX
  refine Tot.bind (normalize_T 10001 c ⟨0,false⟩ hf hcs (by decide) (by decide) (fun _=>by decide) (by decide)) fun r hr=>Tot.pure fun h=>?_
  exact⟨(hr.2.2.2 (by simpa using h)).2.1,hr.2.2.1⟩
 ·obtain⟨e1,e2⟩:=hr (notF h)
  exact Tot.bind (ncopied_T r.1 e1 (by omega)) fun v hv=>Tot.pure (.inl ⟨rfl,by rw[hv];exact e1,by rw[hv];exact e2⟩)
mutual
def zMY.two:zMY->Bool
 |.mk l=>(l.length==0||l.length==2)&&twoL l
def twoL:List zMY->Bool
 |[]=>true
 |x::l=>zMY.two x&&twoL l
end
mutual
def zMY.cnt:zMY->Nat
 |.mk l=>1+cntL l
def cntL:List zMY->Nat
 |[]=>0
 |x::l=>zMY.cnt x+cntL l
end
mutual
def zMY.hgt:zMY->Nat
 |.mk l=>1+hgtL l
def hgtL:List zMY->Nat
 |[]=>0
 |x::l=>max (zMY.hgt x) (hgtL l)
end
def okK(k:zMY)(left h:Nat):Bool:=k.two&&decide (k.cnt<=left)&&decide (k.hgt<=h)
theorem zJj(k:zMY):1<=k.cnt:=by cases k;rw[zMY.cnt];omega
theorem hgt_pos(k:zMY):1<=k.hgt:=by cases k;rw[zMY.hgt];omega
theorem cntL_mem{x:zMY}: ∀{l:List zMY},x∈l->x.cnt<=cntL l
 |y::l,h=>by
  rw[cntL]
  rcases List.mem_cons.1 h with rfl|h
  ·omega
  ·have:=cntL_mem h;omega
theorem zMY.ind{p:zMY->Prop}(h: ∀l,(∀x∈l,p x)->p (.mk l)): ∀k,p k:=by
 intro k
 have: ∀n,∀k:zMY,k.cnt<=n->p k:=by
  intro n
  induction n with
  |zero=>intro k hk;have:=zJj k;omega
  |succ n ih=>
   rintro⟨l⟩ hk
   rw[zMY.cnt] at hk
   exact h l fun x hx=>ih x (by have:=cntL_mem hx;omega)
 exact this _ k (Nat.le_refl _)
theorem two_mk0:zMY.two (.mk [])=true:=by simp[zMY.two,twoL]
theorem two_mk2(x y:zMY):zMY.two (.mk [x,y])=(x.two&&y.two):=by simp[zMY.two,twoL]
theorem two_mk1(x:zMY):zMY.two (.mk [x])=false:=by simp[zMY.two]
theorem two_mk3(x y z:zMY)(l:List zMY):zMY.two (.mk (x::y::z::l))=false:=by simp[zMY.two]
theorem cnt_mk0:zMY.cnt (.mk [])=1:=by simp[zMY.cnt,cntL]
theorem cnt_mk2(x y:zMY):zMY.cnt (.mk [x,y])=1+x.cnt+y.cnt:=by simp[zMY.cnt,cntL];omega
theorem hgt_mk0:zMY.hgt (.mk [])=1:=by simp[zMY.hgt,hgtL]
theorem hgt_mk2(x y:zMY):zMY.hgt (.mk [x,y])=1+max x.hgt y.hgt:=by simp[zMY.hgt,hgtL]
theorem okK_left(k:zMY)(h:Nat):okK k 0 h=false:=by
 have:=zJj k
 rw[okK,decide_eq_false (by omega: ¬k.cnt<=0)];simp
theorem okK_hgt(k:zMY)(left:Nat):okK k left 0=false:=by
 have:=hgt_pos k
 rw[okK,decide_eq_false (by omega: ¬k.hgt<=0)];simp
theorem okK_mk0(left h:Nat):okK (.mk []) (left+1) (h+1)=true:=by
 rw[okK,two_mk0,cnt_mk0,hgt_mk0];simp
theorem okK_mk2(x y:zMY)(left h:Nat):okK (.mk [x,y]) (left+1) (h+1)=(okK x left h&&okK y (left-x.cnt) h):=by
 have h1:=zJj x;have h2:=zJj y
 rw[Bool.eq_iff_iff]
 simp only[okK,two_mk2,cnt_mk2,hgt_mk2,zq7,decide_eq_true_eq]
 constructor
 ·rintro⟨⟨⟨a,b⟩,c⟩,d⟩;exact⟨⟨⟨a,by omega⟩,by omega⟩,⟨b,by omega⟩,by omega⟩
 ·rintro⟨⟨⟨a,b⟩,c⟩,⟨d,e⟩,f⟩;exact⟨⟨⟨a,d⟩,by omega⟩,by omega⟩
theorem okK_mk1(x:zMY)(left h:Nat):okK (.mk [x]) left h=false:=by rw[okK,two_mk1];rfl
theorem okK_mk3(x y z:zMY)(l:List zMY)(left h:Nat):okK (.mk (x::y::z::l)) left h=false:=by rw[okK,two_mk3];rfl
theorem ksize_M: ∀(k:zMY)(fuel left h:Nat)(L D:Int),k.cnt+1<=fuel->L=left->D=401-h->left<=20000->h<=400->
 zC4 fuel k L D=some (if okK k left h then ((k.cnt:Int),true) else (0,false)):=by
 intro k
 induction k using zMY.ind with
 |h l ih=>
 intro fuel left h L D hf hL hD hl hh
 obtain⟨f,rfl⟩: ∃f,fuel=f+1:=⟨fuel-1,by omega⟩
 rw[zC4]
 by_cases e0:left=0
 ·rw[if_pos (by simp[leI];omega),e0,okK_left];rfl
 by_cases e1:h=0
 ·rw[if_pos (by simp[leI,ltI];omega),e1,okK_hgt];rfl
 obtain⟨left,rfl⟩: ∃n,left=n+1:=⟨left-1,by omega⟩
 obtain⟨h,rfl⟩: ∃n,h=n+1:=⟨h-1,by omega⟩
 match l,ih with
 |[],_=>
  rw[if_neg (by simp[leI,ltI,eqI];omega),okK_mk0]
  obtain⟨g,rfl⟩: ∃g,f=g+1:=⟨f-1,by rw[cnt_mk0] at hf;omega⟩
  simp[zBx,ltI,cnt_mk0]
 |[x],_=>
  rw[if_pos (by simp[eqI]),okK_mk1];rfl
 |x::y::z::l,_=>
  rw[if_pos (by simp[eqI];omega),okK_mk3];rfl
 |[x,y],ih=>
  rw[if_neg (by simp[leI,ltI,eqI];omega),okK_mk2]
  rw[cnt_mk2] at hf
  have h1:=zJj x;have h2:=zJj y
  obtain⟨g,rfl⟩: ∃g,f=g+3:=⟨f-3,by omega⟩
  have hx:=ih x (by simp) (g+3) left h (L-1) (D+1) (by omega) (by omega) (by omega) (by omega) (by omega)
  have q1:chk .i64 (L-1)=some (L-1):=chk64 (by omega) (by omega)
  have q2:chk .i64 (D+1)=some (D+1):=chk64 (by omega) (by omega)
  cases o1:okK x left h with
  |false=>
   rw[o1] at hx
   simp[zBx,ltI,q1,q2,hx]
  |true=>
   have h3:x.cnt<=left:=by simp[okK] at o1;omega
   have hy:=ih y (by simp) (g+3) (left-x.cnt) h (L-(1+x.cnt)) (D+1) (by omega) (by omega) (by omega) (by omega) (by omega)
   have q3:chk .i64 (1+(x.cnt:Int))=some (1+(x.cnt:Int)):=chk64 (by omega) (by omega)
   have q4:chk .i64 (L-(1+(x.cnt:Int)))=some (L-(1+(x.cnt:Int))):=chk64 (by omega) (by omega)
   rw[o1] at hx
   cases o2:okK y (left-x.cnt) h with
   |false=>
    rw[o2] at hy
    simp[zBx,ltI,q1,q2,q3,q4,hx,hy]
   |true=>
    have h4:y.cnt<=left-x.cnt:=by simp[okK] at o2;omega
    have q5:chk .i64 (1+(x.cnt:Int)+y.cnt)=some (1+(x.cnt:Int)+y.cnt):=chk64 (by omega) (by omega)
    rw[o2] at hy
    simp[zBx,ltI,q1,q2,q3,q4,q5,hx,hy,cnt_mk2]
def vK(k:zMY):Bool:=okK k 20000 400
theorem kvalid_M{k:zMY}{fuel:Nat}(h:k.cnt+1<=fuel):zBy fuel k=some (vK k):=by
 rw[zBy,ksize_M k fuel 20000 400 20000 1 h rfl rfl (by omega) (by omega),vK]
 cases okK k 20000 400<;>rfl
theorem kcount_M: ∀(k:zMY)(fuel left h:Nat)(L D:Int),k.cnt+1<=fuel->L=left->D=h->left<=20000->h<=400->
 zDf fuel k L D=some (if okK k left h then (left:Int)-k.cnt else -1):=by
 intro k
 induction k using zMY.ind with
 |h l ih=>
 intro fuel left h L D hf hL hD hl hh
 obtain⟨f,rfl⟩: ∃f,fuel=f+1:=⟨fuel-1,by omega⟩
 rw[zDf]
 by_cases e0:left=0
 ·rw[if_pos (by simp[ltI];omega),e0,okK_left];rfl
 by_cases e1:h=0
 ·rw[if_pos (by simp[ltI];omega),e1,okK_hgt];rfl
 obtain⟨left,rfl⟩: ∃n,left=n+1:=⟨left-1,by omega⟩
 obtain⟨h,rfl⟩: ∃n,h=n+1:=⟨h-1,by omega⟩
 have q0:chk .i64 (L-1)=some (L-1):=chk64 (by omega) (by omega)
 match l,ih with
 |[],_=>
  rw[if_neg (by simp[ltI,eqI];omega),okK_mk0]
  obtain⟨g,rfl⟩: ∃g,f=g+1:=⟨f-1,by rw[cnt_mk0] at hf;omega⟩
  simp[zBv,ltI,cnt_mk0,q0];omega
 |[x],_=>
  rw[if_pos (by simp[eqI]),okK_mk1];rfl
 |x::y::z::l,_=>
  rw[if_pos (by simp[eqI];omega),okK_mk3];rfl
 |[x,y],ih=>
  rw[if_neg (by simp[ltI,eqI];omega),okK_mk2]
  rw[cnt_mk2] at hf
  have h1:=zJj x;have h2:=zJj y
  obtain⟨g,rfl⟩: ∃g,f=g+3:=⟨f-3,by omega⟩
  have hx:=ih x (by simp) (g+3) left h (L-1) (D-1) (by omega) (by omega) (by omega) (by omega) (by omega)
  have q2:chk .i64 (D-1)=some (D-1):=chk64 (by omega) (by omega)
  have p1:(1:Int)<=L:=by omega
  cases o1:okK x left h with
  |false=>
   rw[o1] at hx
   simp[zBv,ltI,leI,q0,q2,hx,p1]
  |true=>
   have h3:x.cnt<=left:=by simp[okK] at o1;omega
   have hy:=ih y (by simp) (g+3) (left-x.cnt) h ((left:Int)-x.cnt) (D-1) (by omega) (by omega) (by omega) (by omega) (by omega)
   rw[o1] at hx
   have p2:(x.cnt:Int)<=left:=by omega
   cases o2:okK y (left-x.cnt) h with
   |false=>
    rw[o2] at hy
    simp[zBv,ltI,leI,q0,q2,hx,hy,p1,p2]
   |true=>
    have h4:y.cnt<=left-x.cnt:=by simp[okK] at o2;omega
    rw[o2] at hy
    simp[zBv,ltI,leI,q0,q2,hx,hy,cnt_mk2,p1,p2];omega
theorem krefValid_M{k:zMY}{fuel:Nat}(h:k.cnt+1<=fuel):zCg fuel k=some (vK k):=by
 rw[zCg,kcount_M k fuel 20000 400 20000 400 h rfl rfl (by omega) (by omega),vK]
 cases o:okK k 20000 400
 ·rfl
 ·have:k.cnt<=20000:=by simp[okK] at o;omega
  simp[leI];omega
def Tells(f:Nat->Option Bool)(p:Prop):Prop:=Tot f (fun v=>v=true↔p)
theorem Tells.and{f g:Nat->Option Bool}{p q:Prop}(h1:Tells f p)(h2:p->Tells g q):Tells (fun n=>(f n).bind fun v=>if v=true then g n else some false) (p∧q):=
 Tot.bind h1 fun v hv=>Tot.ite (fun h=>(h2 (hv.1 h)).mono fun w hw=>⟨fun e=>⟨hv.1 h,hw.1 e⟩,fun e=>hw.2 e.2⟩) (fun h=>Tot.pure ⟨fun e=>(by cases e),fun e=>by rw[hv.2 e.1] at h;cases h⟩)
theorem Tells.id{f:Nat->Option Bool}{p:Prop}(h:Tells f p):Tells (fun n=>(f n).bind fun v=>some v) p:=Tot.bind h fun v hv=>Tot.pure hv
theorem Tells.cond{g:Nat->Option Bool}{c:Bool}{p q:Prop}(h1:c=true↔p)(h2:p->Tells g q):Tells (fun n=>if c=true then g n else some false) (p∧q):=
 Tot.ite (fun h=>(h2 (h1.1 h)).mono fun w hw=>⟨fun e=>⟨h1.1 h,hw.1 e⟩,fun e=>hw.2 e.2⟩) (fun h=>Tot.pure ⟨fun e=>(by cases e),fun e=>by rw[h1.2 e.1] at h;cases h⟩)
theorem Tells.congr{f:Nat->Option Bool}{p q:Prop}(h:Tells f p)(e:p↔q):Tells f q:=h.mono fun v hv=>hv.trans e
def Denies(f:Nat->Option Bool)(p:Prop):Prop:=Tot f (fun v=>v=false↔p)
theorem Denies.no{c:Bool}{g:Nat->Option Bool}{p q:Prop}(h1:c=true↔p)(h2:p->Denies g q):Denies (fun n=>if (!c)=true then some true else g n) (p∧q):=
 Tot.ite (fun h=>Tot.pure ⟨fun e=>(by cases e),fun e=>by rw[h1.2 e.1] at h;cases h⟩) (fun h=>(h2 (h1.1 (notF h))).mono fun w hw=>⟨fun e=>⟨h1.1 (notF h),hw.1 e⟩,fun e=>hw.2 e.2⟩)
theorem Denies.go{f g:Nat->Option Bool}{p q:Prop}(h1:Tells f p)(h2:p->Denies g q):Denies (fun n=>(f n).bind fun v=>if (!v)=true then some true else g n) (p∧q):=
 Tot.bind h1 fun v hv=>Denies.no hv h2
theorem Denies.last{f:Nat->Option Bool}{p:Prop}(h1:Tells f p):Denies (fun n=>(f n).bind fun v=>some (!v)) p:=
 Tot.bind h1 fun v hv=>Tot.pure (by cases v<;>simpa using hv)
theorem Denies.then{f g:Nat->Option Bool}{p q:Prop}(h1:Denies f p)(h2:p->Tells g q):Tells (fun n=>(f n).bind fun b=>if b=true then some false else g n) (p∧q):=
 Tot.bind h1 fun v hv=>Tot.ite (fun h=>Tot.pure ⟨fun e=>(by cases e),fun e=>(by rw[hv.2 e.1] at h;cases h)⟩) (fun h=>(h2 (hv.1 h)).mono fun w hw=>⟨fun e=>⟨hv.1 h,hw.1 e⟩,fun e=>hw.2 e.2⟩)
theorem zHr{a b:Int}:eqI a b=true↔a=b:=⟨eqT,fun h=>zqb h⟩
theorem zLU{a b:List UInt8}:eqS a b=true↔a=b:=⟨fun h=>of_decide_eq_true h,fun h=>zqb h⟩
theorem eqLoop{α:Type}(a b:List α)(hlen:a.length=b.length)(L:Nat->Nat->Nat->Option (Bool ⊕ Unit))(F:Nat->α->α->Option Bool)
 (hL: ∀n k i,L n (k+1) i=if ltI (i:Int) (a.length:Int)=true then (a[i]?).bind fun x=>(b[i]?).bind fun y=>(F n x y).bind fun v=>if (!v)=true then some (.inl false) else L n k (i+1) else some (.inr ()))
 (hF: ∀x y,x∈a->y∈b->Tells (fun n=>F n x y) (x=y)):Tells (fun n=>(L n n 0).bind fun o=>Sum.elim some (fun _=>some true) o) (a=b):=by
 refine Tot.bind (A:=fun o=>(∀v,o=.inl v->v=false∧a≠b)∧∀u,o=.inr u->a=b) ?_ fun o ho=>Tot.sum (fun v hv=>?_) fun u hu=>Tot.pure ⟨fun _=>ho.2 u hu,fun _=>rfl⟩
 rotate_left
 ·obtain⟨rfl,h⟩:=ho.1 v hv
  exact⟨fun e=>(by cases e),fun e=>absurd e h⟩
 refine Tot.loop a (fun n k (_:Unit) i=>L n k i) (fun n i _ x=>(b[i]?).bind fun y=>(F n x y).bind fun v=>if (!v)=true then some (.inl (.inl false)) else some (.inr ())) (fun _=>.inr ())
  (fun n k _ i=>by
   rw[hL]
   split
   ·congr 1;funext x
    rw[Option.bind_assoc]
    congr 1;funext y
    rw[Option.bind_assoc]
    congr 1;funext v
    split<;>rfl
   ·rfl) (fun i _=>a.take i=b.take i) _ ?_ (fun _ h=>⟨fun v hv=>(by cases hv),fun u _=>?_⟩) () (by simp)
 ·intro i _ x hx hI
  have hi:=(zq1 hx).1
  have hy:b[i]? =some b[i]:=zq2 (by omega)
  refine Tot.k hy (Tot.bind (hF x b[i] (zq3 hx) (List.getElem_mem _)) fun v hv=>?_)
  refine Tot.ite (fun h=>Tot.pure ⟨fun g hg=>?_,fun u hu=>(by cases hu)⟩) (fun h=>Tot.pure ⟨fun g hg=>(by cases hg),fun u _=>?_⟩)
  ·cases hg
   refine⟨fun v hv'=>?_,fun u hu=>(by cases hu)⟩
   cases hv'
   refine⟨rfl,fun e=>?_⟩
   subst e
   rw[hy] at hx
   rw[hv.2 (zqa hx).symm] at h
   cases h
  ·rw[List.take_add_one,List.take_add_one,hI,hx,hy,hv.1 (notF h)]
 ·rw[List.take_length,hlen,List.take_length] at h;exact h
theorem zK5{α:Type}(a b:List α)(L:Nat->Nat->Nat->Option (Bool ⊕ Unit))(F:Nat->α->α->Option Bool)
 (hL: ∀n k i,L n (k+1) i=if ltI (i:Int) (a.length:Int)=true then (a[i]?).bind fun x=>(b[i]?).bind fun y=>(F n x y).bind fun v=>if (!v)=true then some (.inl false) else L n k (i+1) else some (.inr ()))
 (hF: ∀x y,x∈a->y∈b->Tells (fun n=>F n x y) (x=y)):Tells (fun n=>if (!(eqI (a.length:Int) (b.length:Int)))=true then some false else (L n n 0).bind fun o=>Sum.elim some (fun _=>some true) o) (a=b):=by
 refine Tot.ite (fun h=>Tot.pure ⟨fun e=>(by cases e),fun e=>?_⟩) (fun h=>eqLoop a b ?_ L F hL hF)
 ·rw[e] at h;simp[eqI] at h
 ·have:=eqT (notF h);omega
theorem kind_eq{a b:zMY}:a.L=b.L↔a=b:=by
 constructor
 ·intro h;rw[<-zKY a,h,zKY]
 ·intro h;rw[h]
theorem strs_E(a b:List (List UInt8)):Tells (fun n=>zB0 n a b) (a=b):=by
 unfold zB0
 exact zK5 a b (fun n k i=>zBL a b k i) (fun _ x y=>some (eqS x y)) (fun n k i=>by rw[zBL];simp only[zDD]) fun x y _ _=>Tot.pure zLU
theorem rstrs_E(a b:List (List UInt8)):Tells (fun n=>zFS n a b) (a=b):=by
 unfold zFS
 exact zK5 a b (fun n k i=>zDN a b k i) (fun _ x y=>some (eqS x y)) (fun n k i=>by rw[zDN];simp only[zDD]) fun x y _ _=>Tot.pure zLU
theorem ints_E(a b:List Int):Tells (fun n=>zCo n a b) (a=b):=by
 unfold zCo
 exact zK5 a b (fun n k i=>zBk a b k i) (fun _ x y=>some (eqI x y)) (fun n k i=>by rw[zBk];simp only[zDD]) fun x y _ _=>Tot.pure zHr
theorem kinds1_E(a:zMY): ∀b,Tells (fun n=>zBB n a b) (a=b):=by
 induction a using zHi with
 |h a ih=>
 intro b
 refine Tot.step (fun n=>by rw[zBB]) ?_
 exact Tells.congr (zK5 a.L b.L (fun n k i=>zBu (zBB n) a b k i) (fun n x y=>zBB n x y) (fun n k i=>by rw[zBu]) fun x y hx _=>ih x hx y) kind_eq
theorem kinds2_E(a:zMY): ∀b,Tells (fun n=>zCs n a b) (a=b):=by
 induction a using zHi with
 |h a ih=>
 intro b
 refine Tot.step (fun n=>by rw[zCs]) (Tells.id (Tot.step (fun n=>by rw[zA9]) ?_))
 exact Tells.congr (zK5 a.L b.L (fun n k i=>zAc (zCs n) a.L b.L k i) (fun n x y=>zCs n x y) (fun n k i=>by rw[zAc]) fun x y hx _=>ih x hx y) kind_eq
theorem kinds3_E(a:zMY): ∀b,Tells (fun n=>zDQ n a b) (a=b):=by
 induction a using zHi with
 |h a ih=>
 intro b
 refine Tot.step (fun n=>by rw[zDQ]) ?_
 exact Tells.congr (zK5 a.L b.L (fun n k i=>zDP (zDQ n) a b k i) (fun n x y=>zDQ n x y) (fun n k i=>by rw[zDP]) fun x y hx _=>ih x hx y) kind_eq
theorem zJK(k:zMY):Ev (fun n=>zBy n k) (vK k):=Ev.of (K:=k.cnt+1) fun n hn=>kvalid_M hn
theorem kequal_E(a b:zMY)(ha:vK a=true)(hb:vK b=true):Tells (fun n=>zEm n a b) (a=b):=by
 unfold zEm
 refine Tells.id (Tot.ev (zJK a) ?_)
 refine Tot.ite (fun _=>Tot.ev (zJK b) (Tot.ite (fun _=>Tells.id (kinds3_E a b)) (fun h=>?_))) (fun h=>?_)
 ·rw[hb] at h;cases h
 ·rw[ha] at h;cases h
theorem kequals_E(a b:List zMY)(ha: ∀x,x∈a->vK x=true)(hb: ∀x,x∈b->vK x=true):Tells (fun n=>zAn n a b) (a=b):=by
 unfold zAn
 exact zK5 a b (fun n k i=>zAa n a b k i) (fun n x y=>zEm n x y) (fun n k i=>by rw[zAa]) fun x y hx hy=>kequal_E x y (ha x hx) (hb y hy)
theorem zLj(a b:List zMY):Tells (fun n=>zB3 n a b) (a=b):=by
 unfold zB3
 exact zK5 a b (fun n k i=>zBo n a b k i) (fun n x y=>zBB n x y) (fun n k i=>by rw[zBo]) fun x y hx hy=>kinds1_E x y
theorem con_eq{a b:zMZ}:(a.Op=b.Op∧a.N=b.N∧a.S=b.S∧a.Kind=b.Kind∧a.Names=b.Names∧a.L=b.L)↔a=b:=by
 cases a;cases b;simp
theorem cons_E(a:zMZ): ∀b,Tells (fun n=>zBq n a b) (a=b):=by
 induction a using zD5 with
 |h a ih=>
 intro b
 refine Tot.step (fun n=>by rw[zBq]) (Tells.id ?_)
 refine Tells.congr (Tells.cond zHr fun _=>Tells.cond zHr fun _=>Tells.cond zLU fun _=>Tells.and (kinds2_E _ _) fun _=>Tells.and (strs_E _ _) fun _=>Tells.id (Tot.step (fun n=>by rw[zBA]) ?_)) con_eq
 exact zK5 a.L b.L (fun n k i=>zAd (zBq n) a.L b.L k i) (fun n x y=>zBq n x y) (fun n k i=>by rw[zAd]) fun x y hx _=>ih x hx y
theorem rcons_E(a:zMZ): ∀b,Tells (fun n=>zDM n a b) (a=b):=by
 induction a using zD5 with
 |h a ih=>
 intro b
 refine Tot.step (fun n=>by rw[zDM]) ?_
 refine Tells.congr (Denies.then (q:=a.L=b.L) (Denies.no zHr fun _=>Denies.no zHr fun _=>Denies.no zLU fun _=>Denies.no zHr fun _=>Denies.go (kinds1_E _ _) fun _=>Denies.last (rstrs_E _ _)) fun h=>?_) ?_
 ·have hl:=h.2.2.2.1
  exact eqLoop a.L b.L (by omega) (fun n k i=>zDL (zDM n) a b k i) (fun n x y=>zDM n x y) (fun n k i=>by rw[zDL]) fun x y hx _=>ih x hx y
 ·rw[<-con_eq]
  exact⟨fun⟨⟨h1,h2,h3,h4,h5,h6⟩,h7⟩=>⟨h1,h2,h3,h5,h6,h7⟩,fun⟨h1,h2,h3,h5,h6,h7⟩=>⟨⟨h1,h2,h3,by rw[h7],h5,h6⟩,h7⟩⟩
def ssz(s:zMa):Nat:=1+(s.L.map ssz).sum
decreasing_by all_goals (cases s;simp only[zMa.mk.sizeOf_spec];have:=List.sizeOf_lt_of_mem ‹_›;simp only at this;omega)
theorem ssz_eq(s:zMa):ssz s=1+(s.L.map ssz).sum:=by rw[ssz]
theorem zHU{s x:zMa}(h:x∈s.L):ssz x+1<=ssz s:=by rw[ssz_eq s];have:=le_sum ssz h;omega
theorem zJ4(s:zMa):1<=ssz s:=by rw[ssz_eq];omega
theorem zII{T:zMa->Prop}(h: ∀s,(∀x,x∈s.L->T x)->T s): ∀s,T s:=by
 have key: ∀n s,ssz s<=n->T s:=by
  intro n
  induction n with
  |zero=>intro s hs;have:=zJ4 s;omega
  |succ n ih=>exact fun s hs=>h s fun x hx=>ih x (by have:=zHU hx;omega)
 exact fun s=>key (ssz s) s (Nat.le_refl _)
theorem sem_eq{a b:zMa}:(a.Op=b.Op∧a.N=b.N∧a.S=b.S∧a.Con=b.Con∧a.Kind=b.Kind∧a.Kinds=b.Kinds∧a.More=b.More∧a.Names=b.Names∧a.L=b.L)↔a=b:=by
 cases a;cases b;simp
inductive KS:zMa->Prop
 |mk (s:zMa) (h1:vK s.Kind=true) (h2: ∀k,k∈s.Kinds->vK k=true) (h3: ∀k,k∈s.More->vK k=true) (hs: ∀x,x∈s.L->KS x):KS s
theorem same_E(a:zMa): ∀b,KS a->KS b->Tells (fun n=>zD8 n a b) (a=b):=by
 induction a using zII with
 |h a ih=>
 rintro b ⟨_,a1,a2,a3,a4⟩ ⟨_,b1,b2,b3,b4⟩
 refine Tot.step (fun n=>by rw[zD8]) ?_
 refine Tells.congr (Denies.then (q:=a.Kinds=b.Kinds∧a.More=b.More∧a.L=b.L) (Denies.no zHr fun _=>Denies.no zHr fun _=>Denies.no zLU fun _=>Denies.go (cons_E _ _) fun _=>Denies.go (kequal_E _ _ a1 b1) fun _=>Denies.last (strs_E _ _)) fun h=>Tells.id (Tells.and (kequals_E _ _ a2 b2) fun _=>Tells.and (kequals_E _ _ a3 b3) fun _=>Tells.id (Tot.step (fun n=>by rw[zBI]) ?_))) ?_
 ·exact zK5 a.L b.L (fun n k i=>zAf (zD8 n) a.L b.L k i) (fun n x y=>zD8 n x y) (fun n k i=>by rw[zAf]) fun x y hx hy=>ih x hx y (a4 x hx) (b4 y hy)
 ·rw[<-sem_eq]
  exact⟨fun⟨⟨h1,h2,h3,h4,h5,h6⟩,h7,h8,h9⟩=>⟨h1,h2,h3,h4,h5,h7,h8,h6,h9⟩,fun⟨h1,h2,h3,h4,h5,h7,h8,h6,h9⟩=>⟨⟨h1,h2,h3,h4,h5,h6⟩,h7,h8,h9⟩⟩
theorem rsame_E(a:zMa): ∀b,Tells (fun n=>zDI n a b) (a=b):=by
 induction a using zII with
 |h a ih=>
 intro b
 refine Tot.step (fun n=>by rw[zDI]) ?_
 refine Tells.congr (Denies.then (q:=a.L=b.L) (Denies.no zHr fun _=>Denies.no zHr fun _=>Denies.no zLU fun _=>Denies.go (rcons_E _ _) fun _=>Denies.go (kinds1_E _ _) fun _=>Denies.go (zLj _ _) fun _=>Denies.go (zLj _ _) fun _=>Denies.go (rstrs_E _ _) fun _=>Tot.pure (Q:=fun v=>v=false↔(a.L.length:Int)=b.L.length) ?_) fun h=>?_) ?_
 ·have:=@zHr a.L.length b.L.length
  cases hq:eqI (a.L.length:Int) b.L.length<;>rw[hq] at this<;>simpa using this
 ·have hl:=h.2.2.2.2.2.2.2.2
  exact eqLoop a.L b.L (by omega) (fun n k i=>zDH (zDI n) a b k i) (fun n x y=>zDI n x y) (fun n k i=>by rw[zDH]) fun x y hx _=>ih x hx y
 ·rw[<-sem_eq]
  exact⟨fun⟨⟨h1,h2,h3,h4,h5,h6,h7,h8,_⟩,h9⟩=>⟨h1,h2,h3,h4,h5,h6,h7,h8,h9⟩,fun⟨h1,h2,h3,h4,h5,h6,h7,h8,h9⟩=>⟨⟨h1,h2,h3,h4,h5,h6,h7,h8,by rw[h9]⟩,h9⟩⟩
theorem rabs_E(a b:zMb):Tells (fun n=>zDv n a b) (a.Kinds=b.Kinds∧a.S=b.S):=by
 unfold zDv
 exact Tells.id (Tells.and (zLj _ _) fun _=>Tells.id (rsame_E _ _))
theorem gLoop{α:Type}(g:Int->Bool)(l:List α)(L:Nat->Nat->Int->Nat->Option Int)(S:Nat->Int->α->Option Int)
 (hL: ∀n k b i,L n (k+1) b i=if (ltI (i:Int) (l.length:Int)&&g b)=true then (l[i]?).bind fun x=>(S n b x).bind fun b'=>L n k b' (i+1) else some b)
 (I:Nat->Int->Prop) (R:Int->Prop) (hS: ∀i b x,l[i]? =some x->g b=true->I i b->Tot (fun n=>S n b x) (fun b'=>I (i+1) b'))
 (hE: ∀i b,I i b->g b=false∨i=l.length->R b) (b0:Int) (h0:I 0 b0):Tot (fun n=>L n n b0 0) R:=by
 have key: ∀m i b,i+m=l.length->I i b->∃z,R z∧∃N,∀n,N<=n->∀k,m<k->L n k b i=some z:=by
  intro m
  induction m with
  |zero=>
   intro i b hi hI
   refine⟨b,hE i b hI (.inr (by omega)),0,fun n _ k hk=>?_⟩
   obtain⟨k,rfl⟩: ∃q,k=q+1:=⟨k-1,by omega⟩
   rw[hL,if_neg]
   intro h
   have:=ltT (andT h).1;omega
  |succ m ih=>
   intro i b hi hI
   cases hb:g b with
   |true=>
    have hx:l[i]? =some l[i]:=zq2 (by omega)
    obtain⟨b',⟨N,hN⟩,hI'⟩:=hS i b l[i] hx hb hI
    obtain⟨z,hg,N',hN'⟩:=ih (i+1) b' (by omega) hI'
    refine⟨z,hg,N+N',fun n hn k hk=>?_⟩
    obtain⟨k,rfl⟩: ∃q,k=q+1:=⟨k-1,by omega⟩
    rw[hL,if_pos (by rw[zq7];exact⟨ltP (by omega),hb⟩),hx,zDD,show S n b l[i]=_ from hN n (by omega),zDD]
    exact hN' n (by omega) k (by omega)
   |false=>
    refine⟨b,hE i b hI (.inl hb),0,fun n _ k hk=>?_⟩
    obtain⟨k,rfl⟩: ∃q,k=q+1:=⟨k-1,by omega⟩
    rw[hL,if_neg]
    intro h
    rw[hb] at h;simp at h
 obtain⟨z,hg,N,hN⟩:=key l.length 0 b0 (by omega) h0
 exact⟨z,⟨N+l.length+1,fun n hn=>hN n (by omega) n (by omega)⟩,hg⟩
theorem kindNodes_T(k:zMY): ∀d:Int,0<=d->d<=12->Tot (fun n=>zBQ n k d) (fun r=>1<=r∧r<=13+13*d):=by
 induction k using zHi with
 |h k ih=>
 intro d h0 h1
 refine Tot.step (fun n=>by rw[zBQ]) ?_
 refine Tot.bind (A:=fun o=>(∀v,o=.inl v->1<=v∧v<=13+13*d)∧∀v,o=.inr v->1<=v∧v<=13+13*d) ?_ fun o ho=>Tot.sum (fun v hv=>ho.1 v hv) fun v hv=>Tot.pure (ho.2 v hv)
 refine Tot.loop k.L (fun n kk (b:Int) i=>zBp (zBQ n) k d kk b i) (fun n i b x=>if (ltI 12 b||eqI d 0)=true then some (.inl (.inl 13)) else (chk .i64 (d-1)).bind fun u=>(zBQ n x u).bind fun v=>(chk .i64 (b+v)).bind fun w=>some (.inr w)) (fun b=>.inr b)
  (fun n kk b i=>by
   rw[zBp]
   split
   ·congr 1;funext x
    split
    ·rfl
    ·simp only[Option.bind_assoc,zDD];rfl
   ·rfl) (fun i b=>1<=b∧b<=13+13*d) _ ?_ (fun b hb=>⟨fun v hv=>(by cases hv),fun v hv=>(by cases hv;exact hb)⟩) 1 ⟨by omega,by omega⟩
 intro i b x hx hb
 refine Tot.ite (fun _=>Tot.pure ⟨fun g hg=>?_,fun b' hb'=>(by cases hb')⟩) (fun h=>?_)
 ·cases hg
  exact⟨fun v hv=>(by cases hv;omega),fun v hv=>(by cases hv)⟩
 ·rw[Bool.or_eq_false_iff] at h
  have h2:=ltF h.1
  have h3:=eqF h.2
  refine Tot.chk (by omega) (by omega) (Tot.bind (ih x (zq3 hx) (d-1) (by omega) (by omega)) fun v hv=>Tot.chk (by omega) (by omega) (Tot.pure ⟨fun g hg=>(by cases hg),fun b' hb'=>?_⟩))
  cases hb'
  omega
theorem zKj(l:List zMY)(w:zMX):Tot (fun n=>zA8 n l w) (fun r=>r.left=w.left∨r.left= -1):=by
 unfold zA8
 refine Tot.bind (A:=fun j=>j=w.left∨j= -1) (Tot.ite (fun _=>Tot.pure (.inr rfl)) (fun _=>Tot.pure (.inl rfl))) fun j hj=>?_
 refine Tot.bind (gLoop (leI 0) l (fun n k b i=>zBO n l k b i) (fun n b x=>(zBQ n x 12).bind fun v=>if ltI 12 v=true then some (-1) else some b) (fun n k b i=>by rw[zBO];simp only[Option.bind_assoc]) (fun _ b=>b=w.left∨b= -1) (fun b=>b=w.left∨b= -1) ?_ (fun _ _ h _=>h) j hj) fun o ho=>Tot.pure ho
 intro i b x hx _ hb
 exact Tot.bind (kindNodes_T x 12 (by omega) (by omega)) fun v _=>Tot.ite (fun _=>Tot.pure (.inr rfl)) (fun _=>Tot.pure hb)
theorem ccon_T(c:zMZ): ∀d q:Int,0<=d->d<=40->-2<=q->q<=400->Tot (fun n=>zBG n c d ⟨q⟩) (fun r=> -3<=r.left∧r.left<=400∧(0<=r.left->r.left=q-csz c)):=by
 induction c using zD5 with
 |h c ih=>
 intro d q h0 h1 h2 h3
 refine Tot.step (fun n=>by rw[zBG]) (Tot.chk (by simp only;omega) (by simp only;omega) ?_)
 refine Tot.bind (A:=fun j=>(d=0∧j= -1)∨(d≠0∧j=q-1)) (Tot.ite (fun h=>Tot.pure (.inl ⟨eqT h,rfl⟩)) (fun h=>Tot.pure (.inr ⟨eqF h,rfl⟩))) fun j hj=>?_
 refine Tot.bind (zKj [c.Kind] ⟨j⟩) fun v hv=>?_
 simp only at hv
 refine Tot.bind (gLoop (leI 0) c.L (fun n k b i=>zBa (zBG n) c d k b i) (fun n b x=>(chk .i64 (d-1)).bind fun u=>(zBG n x u ⟨b⟩).bind fun v=>some v.left) (fun n k b i=>by rw[zBa];simp only[Option.bind_assoc,zDD])
  (fun i b=> -3<=b∧b<=400∧(0<=b->d≠0∧b=q-1-(((c.L.take i).map csz).sum:Nat))) (fun b=> -3<=b∧b<=400∧(0<=b->b=q-csz c)) ?_ (fun i b hb hi=>⟨hb.1,hb.2.1,fun h=>?_⟩) v.left ⟨by omega,by omega,fun h=>⟨by omega,by simp;omega⟩⟩) fun o ho=>Tot.pure ho
 ·intro i b x hx hb0 hb
  have hb0:=leT hb0
  obtain⟨e1,e2⟩:=hb.2.2 hb0
  refine Tot.chk (by omega) (by omega) (Tot.bind (ih x (zq3 hx) (d-1) b (by omega) (by omega) (by omega) hb.2.1) fun w hw=>Tot.pure ⟨hw.1,hw.2.1,fun h=>⟨e1,?_⟩⟩)
  rw[hw.2.2 h,e2,zC7 csz _ _ _ hx];omega
 ·have:=(hb.2.2 h).2
  rcases hi with hi|hi
  ·have:=leF hi;omega
  ·rw[hi,List.take_length] at this
   rw[zGM];omega
def tsz(s:zMa):Nat:=1+csz s.Con+(s.L.map tsz).sum
decreasing_by all_goals (cases s;simp only[zMa.mk.sizeOf_spec];have:=List.sizeOf_lt_of_mem ‹_›;simp only at this;omega)
theorem tsz_eq(s:zMa):tsz s=1+csz s.Con+(s.L.map tsz).sum:=by rw[tsz]
theorem csem_T(s:zMa): ∀d q:Int,0<=d->d<=40->-1<=q->q<=400->Tot (fun n=>zBF n s d ⟨q⟩) (fun r=> -3<=r.left∧r.left<=400∧(0<=r.left->r.left=q-tsz s)):=by
 induction s using zII with
 |h s ih=>
 intro d q h0 h1 h2 h3
 refine Tot.step (fun n=>by rw[zBF]) (Tot.chk (by simp only;omega) (by simp only;omega) ?_)
 refine Tot.bind (A:=fun j=>(d=0∧j= -1)∨(d≠0∧j=q-1)) (Tot.ite (fun h=>Tot.pure (.inl ⟨eqT h,rfl⟩)) (fun h=>Tot.pure (.inr ⟨eqF h,rfl⟩))) fun j hj=>?_
 refine Tot.bind (ccon_T s.Con 40 j (by omega) (by omega) (by omega) (by omega)) fun v1 h1'=>?_
 refine Tot.bind (zKj s.Kinds v1) fun v2 h2'=>Tot.bind (zKj s.More v2) fun v3 h3'=>Tot.bind (zKj [s.Kind] v3) fun v hv=>?_
 have hv':v.left=v1.left∨v.left= -1:=by omega
 have hp:=zF8 s.Con
 refine Tot.bind (gLoop (leI 0) s.L (fun n k b i=>zBZ (zBF n) s d k b i) (fun n b x=>(chk .i64 (d-1)).bind fun u=>(zBF n x u ⟨b⟩).bind fun v=>some v.left) (fun n k b i=>by rw[zBZ];simp only[Option.bind_assoc,zDD])
  (fun i b=> -3<=b∧b<=400∧(0<=b->d≠0∧b=q-1-csz s.Con-(((s.L.take i).map tsz).sum:Nat))) (fun b=> -3<=b∧b<=400∧(0<=b->b=q-tsz s)) ?_ (fun i b hb hi=>⟨hb.1,hb.2.1,fun h=>?_⟩) v.left ⟨by omega,by omega,fun h=>⟨by omega,by simp;omega⟩⟩) fun o ho=>Tot.pure ho
 ·intro i b x hx hb0 hb
  have hb0:=leT hb0
  obtain⟨e1,e2⟩:=hb.2.2 hb0
  refine Tot.chk (by omega) (by omega) (Tot.bind (ih x (zq3 hx) (d-1) b (by omega) (by omega) (by omega) hb.2.1) fun w hw=>Tot.pure ⟨hw.1,hw.2.1,fun h=>⟨e1,?_⟩⟩)
  rw[hw.2.2 h,e2,zC7 tsz _ _ _ hx];omega
 ·have:=(hb.2.2 h).2
  rcases hi with hi|hi
  ·have:=leF hi;omega
  ·rw[hi,List.take_length] at this
   rw[tsz_eq];omega
theorem great_T(a b:zMb):Tot (fun n=>zFm n [a,b]) (fun r=>r=false->tsz a.S<=400∧tsz b.S<=400):=by
 unfold zFm zBD zBX
 refine Tot.bind (A:=fun v=>v=false->∀x,x∈[a,b]->tsz x.S<=400) ?_ fun v hv=>Tot.pure fun h=>⟨hv h a (by simp),hv h b (by simp)⟩
 refine Tot.bind (zFL (Q:=fun x=>tsz x.S<=400) (R:=fun _=>True) (P:=True) (T:=True) (Tot.index [a,b] (fun n k i=>zAZ n [a,b] k i) (fun n x=>zEX n x) (fun n k i=>by rw[zAZ]) _ _ fun x hx=>?_)) fun v hv=>Tot.pure hv.1
 unfold zEX
 refine Tot.bind (zKj x.Kinds ⟨400⟩) fun u hu=>Tot.bind (csem_T x.S 40 u.left (by omega) (by omega) (by simp only at hu;omega) (by simp only at hu;omega)) fun v hv=>Tot.pure ⟨fun h=>?_,fun _=>trivial⟩
 have h:=ltF h
 have:=hv.2.2 h
 simp only at hu
 omega
inductive WS:zMa->Prop
 |mk (s:zMa) (h1:csz s.Con<=1000000000000) (h2:Sh s.Con) (hs: ∀x,x∈s.L->WS x):WS s
theorem Sh_good{c:zMZ}(h:GdC c):Sh c:=by
 induction h with
 |mk c h hs ih=>exact .mk c h ih
theorem WS_of(s:zMa):tsz s<=400->GdS s->WS s:=by
 induction s using zII with
 |h s ih=>
 rintro h ⟨_,h1,h2⟩
 rw[tsz_eq] at h
 refine .mk s (by omega) (Sh_good h1) fun x hx=>ih x hx ?_ (h2 x hx)
 have:=le_sum tsz hx
 omega
def hasC(op:Int):Bool:=(eqI op 1)||((eqI op 2)||(eqI op 3))
theorem hasC_M(op:Int):zDF op=some (hasC op):=rfl
structure okS (s:zMa):Prop where
 con:(hasC s.Op=true∧Fm s.Con∧csz s.Con<=20000)∨(hasC s.Op=false∧s.Con=cZ)
 kind:vK s.Kind=true
 kinds:s.Kinds.length<=1000∧∀k,k∈s.Kinds->vK k=true
 more:s.More.length<=1000∧∀k,k∈s.More->vK k=true
 names:s.Names.length<=1000
 lens:s.L.length<=1000∧(hasC s.Op=true->s.L=[])∧(s.Op=4->s.L.length=1)∧(s.Op=6->s.L.length=2)∧(s.Op=5->s.L.length=s.Names.length)
inductive FmS:zMa->Prop
 |mk (s:zMa) (h:okS s) (hs: ∀x,x∈s.L->FmS x):FmS s
theorem FmS.here{s:zMa}(h:FmS s):okS s:=by cases h;assumption
theorem FmS.part{s x:zMa}(h:FmS s)(hx:x∈s.L):FmS x:=by cases h with|mk _ _ hs=>exact hs x hx
theorem sh_cZ':csz cZ<=1000000000000∧Sh cZ:=⟨by rw[csz_cZ];omega,sh_cZ⟩
theorem vK_star(k:zMY)(h:(k.L.length:Int)<=0):vK k=true:=by
 rw[<-zKY k,List.eq_nil_of_length_eq_zero (l:=k.L) (by omega)];rfl
theorem prefix_ex(k:Int): ∃p,zE3 k=some p:=by
 unfold zE3
 repeat' split
 all_goals exact⟨_,rfl⟩
theorem cutp_ex(s p:List UInt8): ∃r,zDA s p=some r:=by
 unfold zDA zC0 zCz
 split
 ·rename_i h
  have h:=leT h
  rw[subT s p.length (by omega)]
  simp only[zDD]
  split
  ·rw[zDD];exact⟨_,rfl⟩
  ·rw[subD s p.length (by omega),zDD,zDD];exact⟨_,rfl⟩
 ·simp only[zDD];exact⟨_,rfl⟩
theorem fits_ex(k:Int)(s:List UInt8): ∃b,∀n,40<=n->zGJ n k s=some b:=by
 unfold zGJ
 split
 ·exact⟨loS s,fun n hn=>by rw[IsLower_M s hn];rfl⟩
 ·exact⟨nm caB s,fun n hn=>by rw[zMT s (by omega)];rfl⟩
theorem Split_T(s:List UInt8):Tot (fun n=>zFn n s) (fun _=>True):=by
 have key: ∀m k,k+m=6->∃o,∀n,40<=n->∀j,m<j->zCP n s j k=some o:=by
  intro m
  induction m with
  |zero=>
   intro k hk
   refine⟨.inr (),fun n hn j hj=>?_⟩
   obtain⟨j,rfl⟩: ∃q,j=q+1:=⟨j-1,by omega⟩
   rw[zCP,if_neg (fun h=>by have:=leT h;omega)]
  |succ m ih=>
   intro k hk
   obtain⟨o,ho⟩:=ih (k+1) (by omega)
   obtain⟨p,hp⟩:=prefix_ex (k:Int)
   obtain⟨r,hr⟩:=cutp_ex s p
   obtain⟨b,hb⟩:=fits_ex (k:Int) r.1
   refine⟨if (r.2&&b)=true then .inl ((k:Int),r.1,0) else o,fun n hn j hj=>?_⟩
   obtain⟨j,rfl⟩: ∃q,j=q+1:=⟨j-1,by omega⟩
   rw[zCP,if_pos (show leI (k:Int) 5=true from zqb (by omega)),hp,zDD,hr,zDD,hb n hn]
   cases r.2 with
   |false=>simp only[Bool.false_and,Bool.false_eq_true,if_false,zDD];exact ho n hn j (by omega)
   |true=>
    cases b with
    |true=>simp only[Bool.and_self,if_true,zDD]
    |false=>simp only[Bool.and_false,Bool.false_eq_true,if_false,if_true,zDD];exact ho n hn j (by omega)
 obtain⟨o,ho⟩:=key 5 1 rfl
 unfold zFn
 exact Tot.ev (Ev.of (K:=40) fun n hn=>ho n hn n (by omega)) (Tot.sum (fun _ _=>trivial) fun _ _=>Tot.pure trivial)
theorem sfits_T(l:List UInt8)(s:zMa):Tot (fun n=>zGr n l s) (fun _=>True):=by
 unfold zGr
 refine Tot.bind (Split_T l) fun v _=>?_
 refine Tot.ite (fun _=>Tot.pure trivial) fun _=>Tot.ite (fun _=>Tot.pure trivial) fun _=>Tot.ite (fun _=>Tot.pure trivial) fun _=>Tot.ite (fun _=>Tot.pure trivial) fun _=>Tot.ite (fun _=>Tot.k rfl (Tot.pure trivial)) fun _=>Tot.pure trivial
theorem right_T(s:zMa):Tot (fun n=>zGq n s) (fun b=>b=true->(s.Op=1∨s.Op=2∨s.Op=3)∧s.L=[]∨s.Op=4∧s.L.length=1∨s.Op=6∧s.L.length=2∨s.Op=5∧s.L.length=s.Names.length∧s.Names.length<=1000):=by
 unfold zGq
 have nil:eqI (s.L.length:Int) 0=true->s.L=[]:=fun h=>List.eq_nil_of_length_eq_zero (by have:=eqT h;omega)
 refine Tot.bind (A:=fun j=>j=true->s.Op=1∨s.Op=2∨s.Op=3) ?_ fun j hj=>Tot.ite (fun h=>?_) fun _=>?_
 ·exact Tot.ite (fun h=>Tot.pure fun _=>.inl (eqT h)) fun _=>Tot.ite (fun h=>Tot.pure fun _=>.inr (.inl (eqT h))) fun _=>Tot.pure fun h=>.inr (.inr (eqT h))
 ·exact Tot.pure fun h'=>.inl ⟨hj h,nil h'⟩
 refine Tot.ite (fun h=>?_) fun _=>Tot.ite (fun h=>?_) fun _=>Tot.ite (fun h=>?_) fun _=>Tot.pure fun h=>by cases h
 ·refine Tot.bind (A:=fun b=>b=true->s.L.length=1) (Tot.ite (fun h1=>?_) fun _=>Tot.pure fun h=>by cases h) fun b hb=>Tot.pure fun h'=>.inr (.inl ⟨eqT h,hb h'⟩)
  have h1:=eqT h1
  obtain⟨x,hx,_⟩:=at0 (l:=s.L) (by omega)
  exact Tot.k hx (Tot.k rfl (Tot.pure fun _=>by omega))
 ·refine Tot.bind (A:=fun b=>b=true->s.L.length=2) (Tot.ite (fun h1=>?_) fun _=>Tot.pure fun h=>by cases h) fun b hb=>Tot.pure fun h'=>.inr (.inr (.inl ⟨eqT h,hb h'⟩))
  have h1:=eqT h1
  obtain⟨x,hx,_⟩:=at0 (l:=s.L) (by omega)
  obtain⟨y,hy,_⟩:=at1 (l:=s.L) (by omega)
  exact Tot.k hx (Tot.k rfl (Tot.ite (fun _=>Tot.k hy (Tot.k rfl (Tot.pure fun _=>by omega))) fun _=>Tot.pure fun h=>by cases h))
 ·refine Tot.bind (A:=fun b=>b=false->s.L.length=s.Names.length∧s.Names.length<=1000) ?_ fun b hb=>Tot.ite (fun _=>Tot.pure fun h=>by cases h) fun h'=>?_
  ·refine Tot.ite (fun _=>Tot.pure fun h=>by cases h) fun h1=>Tot.ite (fun _=>Tot.pure fun h=>by cases h) fun h2=>Tot.bind (asc_T _) fun v _=>Tot.pure fun _=>⟨by have:=eqT (notF h1);omega,by have:=ltF h2;omega⟩
  ·obtain⟨e1,e2⟩:=hb h'
   refine Tot.bind (A:=fun _=>True) ?_ fun o _=>Tot.sum (fun _ _ _=>.inr (.inr (.inr ⟨eqT h,e1,e2⟩))) fun _ _=>Tot.pure fun _=>.inr (.inr (.inr ⟨eqT h,e1,e2⟩))
   refine Tot.loop s.Names (fun n k (_:Unit) i=>zDk n s k i) (fun n i _ x=>(s.L[i]?).bind fun y=>(zGr n x y).bind fun v=>if (!v)=true then some (.inl (.inl false)) else some (.inr ())) (fun _=>.inr ())
    (fun n k _ i=>by
     rw[zDk]
     split
     ·congr 1;funext x
      rw[Option.bind_assoc]
      congr 1;funext y
      rw[Option.bind_assoc]
      congr 1;funext v
      split<;>rfl
     ·rfl) (fun _ _=>True) _ ?_ (fun _ _=>trivial) () trivial
   intro i _ x hx _
   have hi:=(zq1 hx).1
   exact Tot.k (zq2 (show i<s.L.length by omega)) (Tot.bind (sfits_T _ _) fun v _=>Tot.ite (fun _=>Tot.pure ⟨fun _ _=>trivial,fun _ _=>trivial⟩) fun _=>Tot.pure ⟨fun _ _=>trivial,fun _ _=>trivial⟩)
theorem skinds_T(l:List zMY):Tot (fun n=>zFO n l) (fun b=>b=true->l.length<=1000∧∀k,k∈l->vK k=true):=by
 unfold zFO
 refine Tot.bind (A:=fun b=>b=true->l.length<=1000∧∀k,k∈l->vK k=true) (Tot.ite (fun h=>?_) fun _=>Tot.pure fun h=>by cases h) fun b hb=>Tot.pure hb
 have h:=leT h
 unfold zA6 zBR
 refine Tot.bind (A:=fun v=>v=false->∀k,k∈l->vK k=true) ?_ fun v hv=>Tot.pure fun h'=>⟨by omega,hv (by simpa using h')⟩
 refine Tot.bind (zFL (Q:=fun x=>vK x=true) (R:=fun _=>True) (P:=True) (T:=True) (Tot.index l (fun n k i=>zAU n l k i) (fun n x=>zFg n x) (fun n k i=>by rw[zAU]) _ _ fun x hx=>?_)) fun v hv=>Tot.pure hv.1
 unfold zFg
 exact Tot.ev (zJK x) (Tot.pure ⟨fun h=>notF h,fun _=>trivial⟩)
theorem node_T(s:zMa)(h1:csz s.Con<=1000000000000)(h2:Sh s.Con):Tot (fun n=>zHt n s) (fun b=>b=true->okS s):=by
 unfold zHt
 refine Tot.bind (A:=fun b=>b=false->s.Names.length<=1000∧(s.L.length<=1000∧(hasC s.Op=true->s.L=[])∧(s.Op=4->s.L.length=1)∧(s.Op=6->s.L.length=2)∧(s.Op=5->s.L.length=s.Names.length))) ?_ fun b hb=>Tot.ite (fun _=>Tot.pure fun h=>by cases h) fun h=>?_
 ·refine Tot.bind (right_T s) fun v hv=>Tot.ite (fun _=>Tot.pure fun h=>by cases h) fun h=>?_
  have hr:=hv (notF h)
  have hop:hasC s.Op=true->s.Op=1∨s.Op=2∨s.Op=3:=fun h=>by
   unfold hasC at h
   simp only[Bool.or_eq_true] at h
   rcases h with h|h|h
   ·exact .inl (eqT h)
   ·exact .inr (.inl (eqT h))
   ·exact .inr (.inr (eqT h))
  have hl:s.Names.length<=1000->s.Names.length<=1000∧(s.L.length<=1000∧(hasC s.Op=true->s.L=[])∧(s.Op=4->s.L.length=1)∧(s.Op=6->s.L.length=2)∧(s.Op=5->s.L.length=s.Names.length)):=fun hn=>by
   refine⟨hn,?_,fun h=>?_,fun h=>?_,fun h=>?_,fun h=>?_⟩
   ·rcases hr with ⟨_,e⟩|⟨_,e⟩|⟨_,e⟩|⟨_,e,_⟩
    ·rw[e];simp
    ·omega
    ·omega
    ·omega
   all_goals first|have h:=hop h|skip
   all_goals rcases hr with ⟨hq,e⟩|⟨hq,e⟩|⟨hq,e⟩|⟨hq,e,_⟩
   all_goals first|exact e|omega
  refine Tot.ite (fun h5=>Tot.pure fun h'=>hl (by have:=ltF h';omega)) fun h5=>Tot.pure fun _=>hl ?_
  have h5:=eqT (notF h5)
  rcases hr with ⟨hq,e⟩|⟨hq,e⟩|⟨hq,e⟩|⟨hq,e,e2⟩<;>omega
 obtain⟨hnames,hlens⟩:=hb h
 refine Tot.bind (A:=fun b=>b=false->(hasC s.Op=true∧Fm s.Con∧csz s.Con<=20000)∨(hasC s.Op=false∧s.Con=cZ)) ?_ fun b hb=>Tot.ite (fun _=>Tot.pure fun h=>by cases h) fun h=>?_
 ·refine Tot.k (hasC_M _) (Tot.ite (fun hc=>?_) fun hc=>?_)
  ·refine Tot.bind (zJT _ h1 h2) fun v hv=>Tot.ite (fun _=>Tot.pure fun h=>by cases h) fun h=>Tot.k (hasC_M _) (Tot.ite (fun h'=>?_) fun _=>Tot.pure fun _=>.inl ⟨hc,hv (notF h)⟩)
   rw[hc] at h';cases h'
  ·refine Tot.k (hasC_M _) (Tot.ite (fun _=>Tot.bind (cons_E s.Con cZ) fun v hv=>Tot.pure fun h=>.inr ⟨hc,hv.1 (notF h)⟩) fun h'=>?_)
   rw[hc] at h';cases h'
 have hcon:=hb h
 refine Tot.bind (A:=fun b=>b=false->vK s.Kind=true) ?_ fun b hb=>Tot.ite (fun _=>Tot.pure fun h=>by cases h) fun h=>?_
 ·refine Tot.ite (fun _=>Tot.ev (zJK _) (Tot.ite (fun _=>Tot.pure fun h=>by cases h) fun h=>Tot.pure fun _=>notF h)) fun _=>Tot.pure fun h=>vK_star _ (ltF h)
 have hkind:=hb h
 refine Tot.bind (A:=fun _=>True) ?_ fun b _=>Tot.ite (fun _=>Tot.pure fun h=>by cases h) fun h=>?_
 ·exact Tot.ite (fun _=>Tot.bind (Ev.of (K:=30) fun n hn=>zMT _ hn).tot fun b _=>Tot.ite (fun _=>Tot.pure trivial) fun _=>Tot.pure trivial) fun _=>Tot.pure trivial
 have nilK: ∀l:List zMY,(l.length:Int)=0->l.length<=1000∧∀k,k∈l->vK k=true:=fun l h=>by
  rw[List.eq_nil_of_length_eq_zero (l:=l) (by omega)]
  exact⟨by simp,fun k hk=>by cases hk⟩
 refine Tot.ite (fun _=>?_) fun _=>Tot.ite (fun _=>?_) fun _=>Tot.pure fun h=>?_
 ·refine Tot.bind (A:=fun b=>b=true->okS s) (Tot.ite (fun _=>Tot.bind (skinds_T _) fun v hv=>Tot.ite (fun h=>Tot.pure fun h'=>⟨hcon,hkind,hv h,nilK _ (eqT h'),hnames,hlens⟩) fun _=>Tot.pure fun h=>by cases h) fun _=>Tot.pure fun h=>by cases h) fun b hb=>Tot.pure hb
 ·refine Tot.bind (A:=fun b=>b=true->okS s) (Tot.bind (skinds_T _) fun v hv=>Tot.ite (fun h=>Tot.bind (skinds_T _) fun w hw=>Tot.ite (fun h'=>?_) fun _=>Tot.pure fun h=>by cases h) fun _=>Tot.pure fun h=>by cases h) fun b hb=>Tot.pure hb
  have ok:okS s:=⟨hcon,hkind,hv h,hw h',hnames,hlens⟩
  exact Tot.ite (fun _=>Tot.pure fun _=>ok) fun _=>Tot.ite (fun _=>Tot.pure fun _=>ok) fun _=>Tot.pure fun _=>ok
 ·simp only[zq7] at h
  exact⟨hcon,hkind,nilK _ (eqT h.2.1),nilK _ (eqT h.2.2),hnames,hlens⟩
theorem measure_T(s:zMa):WS s->∀left d:Int,-100000<=left->left<=20000->0<=d->d<=401->Tot (fun n=>zCN n s left d) (fun r=>r.2=true->FmS s∧(ssz s:Int)<=r.1∧r.1<=left):=by
 induction s using zII with
 |h s ih=>
 rintro⟨_,w1,w2,w3⟩ left d h0 h1 h2 h3
 refine Tot.step (fun n=>by rw[zCN]) ?_
 refine Tot.bind (A:=fun b=>b=false->0<left∧d<=400∧okS s) ?_ fun b hb=>Tot.ite (fun _=>Tot.pure fun h=>by cases h) fun h=>?_
 ·exact Tot.ite (fun _=>Tot.pure fun h=>by cases h) fun e1=>Tot.ite (fun _=>Tot.pure fun h=>by cases h) fun e2=>Tot.bind (node_T s w1 w2) fun v hv=>Tot.pure fun h=>⟨leF e1,ltF e2,hv (notF h)⟩
 obtain⟨l0,d0,hok⟩:=hb h
 refine Tot.bind (A:=fun j=>1<=j∧j<=20001) (Tot.k (hasC_M _) (Tot.ite (fun hc=>Tot.bind (Size_T _ w1) fun v hv=>?_) fun _=>Tot.pure (by omega))) fun j hj=>?_
 ·rcases hok.con with ⟨_,_,e⟩|⟨e,_⟩
  ·exact Tot.chk (by omega) (by omega) (Tot.pure (by omega))
  ·rw[hc] at e;cases e
 refine Tot.bind (A:=fun o=>(∀r,o=.inl r->r.2=false)∧∀b,o=.inr b->FmS s∧(ssz s:Int)<=b) ?_ fun o ho=>Tot.sum (fun r hr h=>by rw[ho.1 r hr] at h;cases h) fun b hb=>Tot.pure fun h=>⟨(ho.2 b hb).1,(ho.2 b hb).2,leT h⟩
 refine Tot.loop s.L (fun n k (b:Int) i=>zCu (zCN n) s left d k b i) (fun n i b x=>(chk .i64 (left-b)).bind fun u=>(chk .i64 (d+1)).bind fun e=>(zCN n x u e).bind fun v=>if (!v.2)=true then some (.inl (.inl (0,false))) else (chk .i64 (b+v.1)).bind fun w=>some (.inr w)) (fun b=>.inr b)
  (fun n k b i=>by
   rw[zCu]
   split
   ·congr 1;funext x
    simp only[Option.bind_assoc]
    congr 1;funext u
    congr 1;funext e
    congr 1;funext v
    split
    ·rfl
    ·simp only[Option.bind_assoc,zDD];rfl
   ·rfl) (fun i b=>1+((((s.L.take i).map ssz).sum:Nat):Int)<=b∧b<=20001∧∀x,x∈s.L.take i->FmS x) _ ?_ (fun b hb=>⟨fun r hr=>(by cases hr),fun b' hb'=>?_⟩) j ⟨by simp;omega,by omega,fun x hx=>by simp at hx⟩
 ·intro i b x hx hb
  have hm:=zq3 hx
  refine Tot.chk (by omega) (by omega) (Tot.chk (by omega) (by omega) (Tot.bind (ih x hm (w3 x hm) (left-b) (d+1) (by omega) (by omega) (by omega) (by omega)) fun v hv=>?_))
  refine Tot.ite (fun _=>Tot.pure ⟨fun g hg=>?_,fun b' hb'=>(by cases hb')⟩) fun h=>?_
  ·cases hg
   exact⟨fun r hr=>(by cases hr;rfl),fun b' hb'=>(by cases hb')⟩
  ·obtain⟨e1,e2,e3⟩:=hv (notF h)
   have:=zJ4 x
   refine Tot.chk (by omega) (by omega) (Tot.pure ⟨fun g hg=>(by cases hg),fun b' hb'=>?_⟩)
   cases hb'
   refine⟨?_,by omega,fun z hz=>?_⟩
   ·rw[zC7 ssz _ _ _ hx];omega
   ·rw[List.take_add_one,hx] at hz
    rcases List.mem_append.1 hz with hz|hz
    ·exact hb.2.2 z hz
    ·simp at hz;rw[hz];exact e1
 ·cases hb'
  rw[List.take_length] at hb
  refine⟨.mk s hok hb.2.2,?_⟩
  rw[ssz_eq];omega
theorem zIv(s:zMa)(h:WS s):Tot (fun n=>zBn n s) (fun b=>b=true->FmS s∧ssz s<=20000):=by
 unfold zBn
 exact Tot.bind (measure_T s h 20000 1 (by omega) (by omega) (by omega) (by omega)) fun v hv=>Tot.pure fun h=>⟨(hv h).1,by have:=hv h;omega⟩
theorem ssize_T(s:zMa)(h:WS s)(hf:Ev (fun n=>zBn n s) true):Tot (fun n=>zHu n s) (fun r=>0<r):=by
 obtain⟨v,hv,hq⟩:=measure_T s h 20000 1 (by omega) (by omega) (by omega) (by omega)
 have h2:v.2=true:=by
  have:Ev (fun n=>zBn n s) v.2:=Ev.bind hv (Ev.of (K:=0) fun _ _=>rfl)
  exact Ev.uniq this hf
 unfold zHu
 refine Tot.ev hv (Tot.ite (fun h=>?_) fun _=>Tot.pure ?_)
 ·rw[h2] at h;cases h
 ·have:=hq h2;have:=zJ4 s;omega
def Ans{α:Type}(f:Nat->Option α):Prop:=Tot f (fun _=>True)
theorem Tot.ans{α:Type}{f:Nat->Option α}{Q:α->Prop}(h:Tot f Q):Ans f:=h.mono fun _ _=>trivial
theorem Ans.pure{α:Type}{a:α}:Ans (fun _=>some a):=Tot.pure trivial
theorem Ans.bind{α β:Type}{f:Nat->Option α}{g:Nat->α->Option β}(h1:Ans f)(h2: ∀a,Ans (fun n=>g n a)):Ans (fun n=>(f n).bind (g n)):=Tot.bind h1 fun a _=>h2 a
theorem Ans.ite{α:Type}{c:Bool}{f g:Nat->Option α}(h1:c=true->Ans f)(h2:c=false->Ans g):Ans (fun n=>if c=true then f n else g n):=Tot.ite h1 h2
theorem Ans.any{α β:Type}(l:List α){L:Nat->Nat->Nat->Option (β ⊕ Unit)}(S:Nat->Nat->α->Option (β ⊕ Unit))
 (hL: ∀n k i,L n (k+1) i=if ltI (i:Int) (l.length:Int)=true then (l[i]?).bind fun x=>(S n i x).bind fun r=>Sum.elim (fun b=>some (.inl b)) (fun _=>L n k (i+1)) r else some (.inr ()))
 (hS: ∀i x,l[i]? =some x->Ans (fun n=>S n i x)):Ans (fun n=>L n n 0):=by
 refine Tot.loop l (fun n k (_:Unit) i=>L n k i) (fun n i _ x=>(S n i x).bind fun r=>Sum.elim (fun b=>some (.inl (.inl b))) (fun _=>some (.inr ())) r) (fun _=>.inr ())
  (fun n k _ i=>by
   rw[hL]
   split
   ·congr 1;funext x
    rw[Option.bind_assoc]
    congr 1;funext r
    cases r<;>rfl
   ·rfl) (fun _ _=>True) _ ?_ (fun _ _=>trivial) () trivial
 intro i _ x hx _
 refine Tot.bind (hS i x hx) fun r _=>?_
 cases r with
 |inl b=>exact Tot.pure ⟨fun _ _=>trivial,fun _ _=>trivial⟩
 |inr u=>exact Tot.pure ⟨fun _ _=>trivial,fun _ _=>trivial⟩
theorem Ans.sum{α:Type}{f:Nat->Option (α ⊕ Unit)}{g:Nat->Option α}(h1:Ans f)(h2:Ans g):Ans (fun n=>(f n).bind fun o=>Sum.elim some (fun _=>g n) o):=Tot.bind h1 fun o _=>Tot.sum (fun _ _=>trivial) fun _ _=>h2
theorem rlabel_A(s:List UInt8):Ans (fun n=>zCh n s):=by
 unfold zCh
 refine Ans.sum (Ans.any s (fun n i x=>(zDg x).bind fun v=>(if (!v)=true then some (!(eqI (x.toNat:Int) 46)) else some false).bind fun b=>if b=true then some (.inl false) else some (.inr ())) (fun n k i=>?_) fun i x hx=>?_) Ans.pure
 ·rw[zCp]
  split
  ·simp only[Option.bind_assoc]
   congr 1;funext x
   congr 1;funext v
   congr 1;funext b
   split<;>rfl
  ·rfl
 ·exact Tot.k (Inner_M x) (Ans.bind (Ans.ite (fun _=>Ans.pure) fun _=>Ans.pure) fun b=>Ans.ite (fun _=>Ans.pure) fun _=>Ans.pure)
theorem rasc_A(l:List (List UInt8)):Ans (fun n=>zC3 n l):=by
 have key: ∀n i,i+n=l.length->∃o,∀k,n+1<=k->zBN l k (i+1)=some o:=by
  intro n
  induction n with
  |zero=>
   intro i hi
   refine⟨.inr (),fun k hk=>?_⟩
   obtain⟨k,rfl⟩: ∃q,k=q+1:=⟨k-1,by omega⟩
   rw[zBN,if_neg (ltN (by omega))]
  |succ n ihn=>
   intro i hi
   by_cases hlt:i+1<l.length
   ·have hx:l[i+1]? =some l[i+1]:=zq2 hlt
    have hy:idx l (((i+1:Nat):Int)-1)=some l[i]:=by
     rw[show((i+1:Nat):Int)-1=(i:Int) by omega,idxN];exact zq2 (by omega)
    obtain⟨o,ho⟩:=ihn (i+1) (by omega)
    refine⟨if (!(ltS l[i] l[i+1]))=true then .inl false else o,fun k hk=>?_⟩
    obtain⟨k,rfl⟩: ∃q,k=q+1:=⟨k-1,by omega⟩
    rw[zBN,if_pos (ltP hlt),hy,zDD,hx,zDD]
    split
    ·rfl
    ·exact ho k (by omega)
   ·refine⟨.inr (),fun k hk=>?_⟩
    obtain⟨k,rfl⟩: ∃q,k=q+1:=⟨k-1,by omega⟩
    rw[zBN,if_neg (ltN hlt)]
 obtain⟨o,ho⟩:=key l.length 0 (by omega)
 unfold zC3
 exact Ans.sum (Ev.of (K:=l.length+1) fun n hn=>ho n hn).tot.ans Ans.pure
theorem rlabels_A(l:List (List UInt8)):Ans (fun n=>zEJ n l):=by
 unfold zEJ
 refine Ans.sum (Ans.any l (fun n i x=>(zCh n x).bind fun v=>if (!v)=true then some (.inl false) else some (.inr ())) (fun n k i=>?_) fun i x hx=>?_) ?_
 ·rw[zC2]
  split
  ·congr 1;funext x
   rw[Option.bind_assoc]
   congr 1;funext v
   split<;>rfl
  ·rfl
 ·exact Ans.bind (rlabel_A x) fun v=>Ans.ite (fun _=>Ans.pure) fun _=>Ans.pure
 ·exact Ans.bind (Ans.ite (fun _=>Ans.bind (rasc_A l) fun v=>Ans.pure) fun _=>Ans.pure) fun b=>Ans.pure
theorem digit_B(c:UInt8)(h:zEA c=some true):48<=c.toNat∧c.toNat<=57:=by
 have h:=oi h
 simp only[zq7] at h
 have h1:=leT h.1
 have h2:=leT h.2
 omega
theorem rnumber_A(s:List UInt8):Ans (fun n=>zEM n s):=by
 unfold zEM
 refine Ans.bind (Ans.ite (fun _=>Ans.pure) fun h=>Ans.ite (fun h2=>?_) fun _=>Ans.pure) fun b=>Ans.ite (fun _=>Ans.pure) fun _=>?_
 ·have:=ltT h2
  exact Tot.k (zq2 (show 0<s.length by omega)) Ans.pure
 ·refine Tot.bind (A:=fun _=>True) ?_ fun o _=>Tot.sum (fun _ _=>trivial) fun b _=>Ans.ite (fun _=>Ans.pure) fun _=>Ans.pure
  refine Tot.loop s (fun n k (b:Int) i=>zCS s k b i) (fun n i b x=>(zEA x).bind fun v=>if (!v)=true then some (.inl (.inl (0,3))) else (chk .i64 (10*b)).bind fun u=>(chk .u8 ((x.toNat:Int)-48)).bind fun w=>(chk .i64 (u+w)).bind fun z=>some (.inr (minI 4503599627370497 z))) (fun b=>.inr b)
   (fun n k b i=>by
    rw[zCS]
    split
    ·congr 1;funext x
     rw[Option.bind_assoc]
     congr 1;funext v
     split
     ·rfl
     ·simp only[Option.bind_assoc,zDD];rfl
    ·rfl) (fun _ b=>0<=b∧b<=4503599627370497) _ ?_ (fun _ _=>trivial) 0 (by omega)
  intro i b x hx hb
  refine Tot.k (a:=(leI 48 (x.toNat:Int))&&(leI (x.toNat:Int) 57)) rfl (Tot.ite (fun _=>Tot.pure ⟨fun _ _=>trivial,fun b' hb'=>(by cases hb')⟩) fun h=>?_)
  have hd:=digit_B x (by rw[show zEA x=some ((leI 48 (x.toNat:Int))&&(leI (x.toNat:Int) 57)) from rfl,notF h])
  refine Tot.chk (by omega) (by omega) (Tot.k (a:=(x.toNat:Int)-48) ?_ (Tot.chk (by omega) (by omega) (Tot.pure ⟨fun _ _=>trivial,fun b' hb'=>?_⟩)))
  ·rw[chk,if_pos]
   simp only[Rng,inR];omega
  ·cases hb'
   unfold minI
   split<;>omega
theorem rupper_A(s:List UInt8):Ans (fun n=>zCH n s):=(Ev.of (K:=30) fun n hn=>Upper_M s hn).tot.ans
theorem rconst_A(s:List UInt8):Ans (fun n=>zDo n s):=by
 unfold zDo
 refine Ans.ite (fun _=>Ans.pure) fun _=>Ans.sum (Ans.any s (fun n i x=>if eqI (x.toNat:Int) 46=true then (subC s ((i+1:Nat):Int) (s.length:Int)).bind fun z=>(zEM n z).bind fun v=>((subC s 0 (i:Int)).bind fun y=>(zCH n y).bind fun u=>if u=true then some (eqI v.2 0) else some false:Option Bool).bind fun b=>some (.inl b) else some (.inr ())) (fun n k i=>?_) fun i x hx=>?_) Ans.pure
 ·rw[zCD]
  split
  ·congr 1;funext x
   split
   ·simp only[Option.bind_assoc,zDD];rfl
   ·rfl
  ·rfl
 ·have hi:=(zq1 hx).1
  refine Ans.ite (fun _=>Tot.k (subD s (i+1) (by omega)) (Ans.bind (rnumber_A _) fun v=>Ans.bind (Tot.k (subT s i (by omega)) (Ans.bind (rupper_A _) fun u=>Ans.ite (fun _=>Ans.pure) fun _=>Ans.pure)) fun b=>Ans.pure)) fun _=>Ans.pure
theorem rkvalid_E(k:zMY):Ev (fun n=>zCg n k) (vK k):=Ev.of (K:=k.cnt+1) fun n hn=>krefValid_M hn
theorem rkvalid_A(k:zMY):Ans (fun n=>zCg n k):=(rkvalid_E k).tot.ans
theorem rnode_A(c:zMZ):Ans (fun n=>zGE n c):=by
 unfold zGE
 have hl:=rlabels_A c.Names
 have hc:=rconst_A c.S
 have hk:=rkvalid_A c.Kind
 have hp: ∃v,zFi c.Op=some v:=by
  unfold zFi zE2
  split
  ·exact⟨_,rfl⟩
  ·split
   ·exact⟨_,rfl⟩
   ·rw[zDD];split<;>exact⟨_,rfl⟩
 obtain⟨v,hp⟩:=hp
 refine Ans.ite (fun _=>Ans.pure) fun _=>Tot.k hp ?_
 repeat' (first|exact Ans.pure|exact hl|exact hc|exact hk|refine Ans.bind ?_ fun _=>?_|refine Ans.ite (fun _=>?_) fun _=>?_|refine Tot.k (a:=bndB c) rfl ?_|refine Tot.sum (fun _ _=>trivial) fun _ _=>?_)
theorem rcount_T(c:zMZ): ∀left d:Int,1<=left->left<=20001->0<=d->d<=401->Tot (fun n=>zCf n c left d) (fun r=>1<=r∧r<=left):=by
 induction c using zD5 with
 |h c ih=>
 intro left d h0 h1 h2 h3
 refine Tot.step (fun n=>by rw[zCf]) (Tot.ite (fun _=>Tot.pure ⟨h0,Int.le_refl _⟩) fun h=>?_)
 have h:=ltF h
 refine Tot.bind (gLoop (fun b=>ltI b left) c.L (fun n k b i=>zCw (zCf n) c left d k b i) (fun n b x=>(chk .i64 (left-b)).bind fun u=>(chk .i64 (d+1)).bind fun e=>(zCf n x u e).bind fun v=>chk .i64 (b+v)) (fun n k b i=>by rw[zCw];simp only[Option.bind_assoc]) (fun _ b=>1<=b∧b<=left) (fun b=>1<=b∧b<=left) (fun i b x hx hg hb=>?_) (fun _ _ h _=>h) 1 (by omega)) fun o ho=>Tot.pure ho
 have hg:=ltT hg
 refine Tot.chk (by omega) (by omega) (Tot.chk (by omega) (by omega) (Tot.bind (ih x (zq3 hx) (left-b) (d+1) (by omega) (by omega) (by omega) (by omega)) fun v hv=>?_))
 exact(Ev.of (K:=0) fun n _=>chk64 (by omega) (by omega)).tot.mono fun r hr=>by omega
theorem rall_A(c:zMZ):Ans (fun n=>zEL n c):=by
 induction c using zD5 with
 |h c ih=>
 refine Tot.step (fun n=>by rw[zEL]) (Ans.bind (rnode_A c) fun v=>Ans.ite (fun _=>Ans.pure) fun _=>?_)
 refine Ans.sum (Ans.any c.L (fun n i x=>(zEL n x).bind fun v=>if (!v)=true then some (.inl false) else some (.inr ())) (fun n k i=>?_) fun i x hx=>?_) Ans.pure
 ·rw[zEK]
  split
  ·congr 1;funext x
   rw[Option.bind_assoc]
   congr 1;funext v
   split<;>rfl
  ·rfl
 ·exact Ans.bind (ih x (zq3 hx)) fun v=>Ans.ite (fun _=>Ans.pure) fun _=>Ans.pure
theorem rcvalid_A(c:zMZ):Ans (fun n=>zFj n c):=by
 unfold zFj zGW
 exact Ans.bind (Ans.bind (Ans.bind (rcount_T c 20001 1 (by omega) (by omega) (by omega) (by omega)).ans fun v=>Ans.pure) fun v=>Ans.ite (fun _=>Ans.bind (rall_A c) fun v=>Ans.pure) fun _=>Ans.pure) fun b=>Ans.pure
theorem rfits_ex(k:Int)(s:List UInt8): ∃b,∀n,40<=n->zGG n k s=some b:=by
 unfold zGG
 split
 ·exact⟨loS s,fun n hn=>by rw[Lower_M s hn];rfl⟩
 ·exact⟨nm caB s,fun n hn=>by rw[Upper_M s (by omega)];rfl⟩
theorem rsplit_A(s:List UInt8):Ans (fun n=>zFl n s):=by
 unfold zFl
 refine Tot.k rfl (Ans.sum ?_ Ans.pure)
 generalize hH:[([]:List UInt8),[118,97,108,46],[116,121,112,101,46],[99,111,110,46],[109,111,100,46],[115,105,103,46]]=H
 have hlen:1<=H.length:=by rw[<-hH];simp
 clear hH
 have key: ∀m k,k+m=H.length->∃o,∀n,40<=n->∀j,m<j->zBw n s H j k=some o:=by
  intro m
  induction m with
  |zero=>
   intro k hk
   refine⟨.inr (),fun n hn j hj=>?_⟩
   obtain⟨j,rfl⟩: ∃q,j=q+1:=⟨j-1,by omega⟩
   rw[zBw,if_neg (ltN (by omega))]
  |succ m ih=>
   intro k hk
   obtain⟨o,ho⟩:=ih (k+1) (by omega)
   have hx:H[k]? =some H[k]:=zq2 (by omega)
   by_cases hl:H[k].length<s.length
   ·obtain⟨b,hb⟩:=rfits_ex (k:Int) (s.drop H[k].length)
    have h1:=subT s H[k].length (by omega)
    have h2:=subD s H[k].length (by omega)
    refine⟨if (eqS (s.take H[k].length) H[k]&&b)=true then .inl ((k:Int),s.drop H[k].length) else o,fun n hn j hj=>?_⟩
    obtain⟨j,rfl⟩: ∃q,j=q+1:=⟨j-1,by omega⟩
    rw[zBw,if_pos (ltP (by omega)),hx,zDD,if_pos (ltP hl),h1,zDD,h2,zDD,hb n hn]
    cases eqS (s.take H[k].length) H[k] with
    |false=>simp only[Bool.false_and,Bool.false_eq_true,if_false,zDD];exact ho n hn j (by omega)
    |true=>
     cases b with
     |true=>simp only[Bool.and_self,if_true,zDD]
     |false=>simp only[Bool.and_false,Bool.false_eq_true,if_false,if_true,zDD];exact ho n hn j (by omega)
   ·refine⟨o,fun n hn j hj=>?_⟩
    obtain⟨j,rfl⟩: ∃q,j=q+1:=⟨j-1,by omega⟩
    rw[zBw,if_pos (ltP (by omega)),hx,zDD,if_neg (ltN hl),zDD,if_neg (by simp)]
    exact ho n hn j (by omega)
 obtain⟨o,ho⟩:=key (H.length-1) 1 (by omega)
 exact(Ev.of (K:=40+H.length) fun n hn=>ho n (by omega) n (by omega)).tot.ans
theorem rsfits_A(l:List UInt8)(s:zMa):Ans (fun n=>zFQ n l s):=by
 unfold zFQ
 refine Ans.bind (rsplit_A l) fun v=>?_
 exact Ans.ite (fun _=>Ans.pure) fun _=>Ans.ite (fun _=>Ans.pure) fun _=>Ans.ite (fun _=>Ans.pure) fun _=>Ans.ite (fun _=>Tot.k rfl Ans.pure) fun _=>Ans.ite (fun _=>Ans.pure) fun _=>Ans.pure
theorem rkall_T(l:List zMY):Tot (fun n=>zF1 n l) (fun b=>b=true->∀k,k∈l->vK k=true):=by
 unfold zF1
 refine Tot.bind (A:=fun o=>(∀v,o=.inl v->v=false)∧∀u,o=.inr u->∀k,k∈l->vK k=true) ?_ fun o ho=>Tot.sum (fun v hv h=>by rw[ho.1 v hv] at h;cases h) fun u hu=>Tot.pure fun _=>ho.2 u hu
 refine Tot.loop l (fun n k (_:Unit) i=>zDl n l k i) (fun n i _ x=>(zCg n x).bind fun v=>if (!v)=true then some (.inl (.inl false)) else some (.inr ())) (fun _=>.inr ())
  (fun n k _ i=>by
   rw[zDl]
   split
   ·congr 1;funext x
    rw[Option.bind_assoc]
    congr 1;funext v
    split<;>rfl
   ·rfl) (fun i _=> ∀k,k∈l.take i->vK k=true) _ ?_ (fun _ h=>⟨fun v hv=>(by cases hv),fun u _=>by rw[List.take_length] at h;exact h⟩) () (by simp)
 intro i _ x hx hb
 refine Tot.ev (rkvalid_E x) (Tot.ite (fun _=>Tot.pure ⟨fun g hg=>?_,fun u hu=>(by cases hu)⟩) fun h=>Tot.pure ⟨fun g hg=>(by cases hg),fun u _ k hk=>?_⟩)
 ·cases hg
  exact⟨fun v hv=>(by cases hv;rfl),fun u hu=>(by cases hu)⟩
 ·rw[List.take_add_one,hx] at hk
  rcases List.mem_append.1 hk with hk|hk
  ·exact hb k hk
  ·simp at hk;rw[hk];exact notF h
theorem rkinds_A(l:List zMY):Ans (fun n=>zEt n l):=by
 unfold zEt
 exact Ans.bind (Ans.ite (fun _=>Ans.bind (rkall_T l).ans fun v=>Ans.pure) fun _=>Ans.pure) fun b=>Ans.pure
theorem rsnode_A(s:zMa)(hok:okS s):Ans (fun n=>zGD n s):=by
 unfold zGD
 have h1:=rcvalid_A s.Con
 have h2:=rkvalid_A s.Kind
 have h3:=rupper_A s.S
 have h4:=rkinds_A s.Kinds
 have h5:=rkinds_A s.More
 have h6:=rasc_A s.Names
 have h7:s.L.length=s.Names.length->Ans (fun n=>zDG n s n 0):=fun hl=>by
  refine Ans.any s.Names (fun n i y=>((zCh n y).bind fun v=>if (!v)=true then some true else (s.L[i]?).bind fun z=>(zFQ n y z).bind fun w=>some (!w):Option Bool).bind fun b=>if b=true then some (.inl false) else some (.inr ())) (fun n k i=>?_) fun i y hx=>?_
  ·rw[zDG,hl]
   split
   ·rw[Option.bind_assoc]
    congr 1;funext y
    conv=>rhs;rw[Option.bind_assoc]
    congr 1;funext b
    split<;>rfl
   ·rfl
  ·have hi:=(zq1 hx).1
   exact Ans.bind (Ans.bind (rlabel_A _) fun v=>Ans.ite (fun _=>Ans.pure) fun _=>Tot.k (zq2 (show i<s.L.length by omega)) (Ans.bind (rsfits_A _ _) fun w=>Ans.pure)) fun b=>Ans.ite (fun _=>Ans.pure) fun _=>Ans.pure
 refine Ans.ite (fun _=>Ans.pure) fun _=>?_
 refine Ans.bind (Tot.k (a:=hasC s.Op) rfl (Tot.k rfl (Ans.ite (fun _=>Ans.pure) fun _=>Tot.k (a:=hasC s.Op) rfl (Ans.ite (fun _=>Ans.bind h1 fun v=>Ans.pure) fun _=>Ans.pure)))) fun b=>Ans.ite (fun _=>Ans.pure) fun _=>?_
 refine Ans.bind (Ans.ite (fun _=>Ans.bind h2 fun v=>Ans.ite (fun _=>Ans.pure) fun _=>Ans.pure) fun _=>Ans.pure) fun b=>Ans.ite (fun _=>Ans.pure) fun _=>?_
 refine Ans.bind (Ans.ite (fun _=>Ans.bind h3 fun v=>Ans.ite (fun _=>Ans.pure) fun _=>Ans.pure) fun _=>Ans.pure) fun b=>Ans.ite (fun _=>Ans.pure) fun _=>?_
 refine Ans.bind ?_ fun b=>Ans.ite (fun _=>Ans.pure) fun _=>?_
 ·refine Ans.bind h4 fun v=>Ans.ite (fun _=>Ans.pure) fun _=>Ans.bind h5 fun w=>?_
  repeat' (first|exact Ans.pure|refine Ans.ite (fun _=>?_) fun _=>?_)
 refine Tot.ite (fun _=>Ans.pure) fun _=>?_
 refine Ans.ite (fun h=>?_) fun _=>Ans.ite (fun h=>?_) fun _=>Ans.ite (fun h=>?_) fun _=>Ans.pure
 ·obtain⟨x,hx,_⟩:=at0 (l:=s.L) (by rw[hok.lens.2.2.1 (eqT h)];omega)
  exact Ans.bind (Ans.ite (fun _=>Tot.k hx (Tot.k rfl Ans.pure)) fun _=>Ans.pure) fun b=>Ans.pure
 ·have hl2:=hok.lens.2.2.2.1 (eqT h)
  obtain⟨x,hx,_⟩:=at0 (l:=s.L) (by omega)
  obtain⟨y,hy,_⟩:=at1 (l:=s.L) (by omega)
  exact Ans.bind (Ans.ite (fun _=>Tot.k hx (Tot.k rfl (Ans.ite (fun _=>Tot.k hy (Tot.k rfl Ans.pure)) fun _=>Ans.pure))) fun _=>Ans.pure) fun b=>Ans.pure
 ·refine Ans.bind (Ans.ite (fun _=>Ans.pure) fun _=>Ans.ite (fun _=>Ans.pure) fun _=>Ans.bind h6 fun v=>Ans.pure) fun b=>Ans.ite (fun _=>Ans.pure) fun _=>?_
  exact Ans.sum (h7 (hok.lens.2.2.2.2 (eqT h))) Ans.pure
theorem rcsize_T(c:zMZ):csz c<=1000000000000->Tot (fun n=>zDK n c) (fun r=>r=csz c):=by
 induction c using zD5 with
 |h c ih=>
 intro hc
 refine Tot.step (fun n=>by rw[zDK]) (Tot.bind (A:=fun r=>r=(csz c:Int)) ?_ fun o ho=>Tot.pure ho)
 refine Tot.loop1 c.L (fun n k b i=>zDJ (zDK n) c k b i) (fun n i b x=>(zDK n x).bind fun v=>chk .i64 (b+v)) (fun b=>b) (fun n k b i=>by rw[zDJ];simp only[Option.bind_assoc])
  (fun i b=>b=1+(((c.L.take i).map csz).sum:Nat)) _ (fun i b x hx hb=>?_) (fun b hb=>by rw[hb,List.take_length,zGM];simp) 1 (by simp)
 have hm:=zq3 hx
 have h1:=zHy csz c.L (i+1)
 have h2:=zC7 csz _ _ _ hx
 have h3:=zGM c
 refine Tot.bind (ih x hm (by have:=zD4 hm;omega)) fun v hv=>?_
 exact(Ev.of (K:=0) fun n _=>chk64 (by omega) (by omega)).tot.mono fun r hr=>by omega
theorem rscount_T(s:zMa):FmS s->∀left d:Int,-100000<=left->left<=20000->0<=d->d<=400->Tot (fun n=>zCe n s left d) (fun r=> -100000<=r∧r<=20000):=by
 induction s using zII with
 |h s ih=>
 intro hf left d h0 h1 h2 h3
 have hok:=hf.here
 refine Tot.step (fun n=>by rw[zCe]) ?_
 refine Tot.bind (A:=fun b=>b=false->1<=left∧1<=d) (Tot.ite (fun _=>Tot.pure fun h=>by cases h) fun e1=>Tot.ite (fun _=>Tot.pure fun h=>by cases h) fun e2=>Tot.bind (rsnode_A s hok) fun v _=>Tot.pure fun _=>⟨ltF e1,ltF e2⟩) fun b hb=>Tot.ite (fun _=>Tot.pure (by omega)) fun h=>?_
 obtain⟨e1,e2⟩:=hb h
 refine Tot.chk (by omega) (by omega) (Tot.bind (A:=fun j=> -100000<=j∧j<=20000) (Tot.k (a:=hasC s.Op) rfl (Tot.ite (fun hc=>?_) fun _=>Tot.pure (by omega))) fun j hj=>?_)
 ·rcases hok.con with ⟨_,_,q2⟩|⟨q1,_⟩
  ·exact Tot.bind (rcsize_T _ (by omega)) fun v hv=>Tot.chk (by omega) (by omega) (Tot.pure (by omega))
  ·rw[hc] at q1;cases q1
 ·refine Tot.bind (gLoop (leI 0) s.L (fun n k b i=>zCv (zCe n) s d k b i) (fun n b x=>(chk .i64 (d-1)).bind fun u=>zCe n x b u) (fun n k b i=>by rw[zCv];simp only[Option.bind_assoc]) (fun _ b=> -100000<=b∧b<=20000) (fun b=> -100000<=b∧b<=20000) (fun i b x hx hg hb=>?_) (fun _ _ h _=>h) j hj) fun o ho=>Tot.pure ho
  have hm:=zq3 hx
  exact Tot.chk (by omega) (by omega) (ih x hm (hf.part hm) b (d-1) hb.1 hb.2 (by omega) (by omega))
theorem rformed_T(a:zMb)(h:FmS a.S):Tot (fun n=>zDB n a) (fun b=>b=true->a.Kinds.length<=1000∧∀k,k∈a.Kinds->vK k=true):=by
 unfold zDB zFx
 refine Tot.bind (A:=fun b=>b=true->a.Kinds.length<=1000∧∀k,k∈a.Kinds->vK k=true) (Tot.ite (fun h1=>Tot.bind (rkall_T _) fun v hv=>Tot.ite (fun h2=>?_) fun _=>Tot.pure fun h=>by cases h) fun _=>Tot.pure fun h=>by cases h) fun b hb=>Tot.pure hb
 have h1:=leT h1
 exact Tot.bind (Ans.bind (rscount_T a.S h 20000 400 (by omega) (by omega) (by omega) (by omega)).ans fun v=>Ans.pure) fun w _=>Tot.pure fun _=>⟨by omega,hv h2⟩
theorem zML(l:List zMY)(h:l.length<=1000):zA5 l=some l:=by
 cases l with
 |nil=>rfl
 |cons x l=>rw[zA5,clC,if_pos ⟨by simp,by decide,by simp at h ⊢;omega⟩]
theorem concat_M(a b:List zMY)(ha:a.length<=1000)(hb:b.length<=1000)(n:Nat):zBt (n+3) [a,b]=some (a++b):=by
 have e1:zAh [a,b] (n+3) 0 0=some ((a.length:Int)+b.length):=by
  rw[zAh,if_pos (ltP (i:=0) (n:=[a,b].length) (by simp))]
  show(some a).bind _=_
  rw[zDD,chk64 (by omega) (by omega),zDD,if_neg (by intro h;have:=ltT h;omega),zAh,if_pos (ltP (i:=0+1) (n:=[a,b].length) (by simp))]
  show(some b).bind _=_
  rw[zDD,chk64 (by omega) (by omega),zDD,if_neg (by intro h;have:=ltT h;omega),zAh,if_neg (ltN (i:=0+1+1) (n:=[a,b].length) (by simp)),Int.zero_add]
 have e2:zAg [a,b] (n+3) [] 0=some (a++b):=by
  rw[zAg,if_pos (ltP (i:=0) (n:=[a,b].length) (by simp))]
  show(some a).bind _=_
  rw[zDD,zFM (by decide) (by simp;omega),zDD,zAg,if_pos (ltP (i:=0+1) (n:=[a,b].length) (by simp))]
  show(some b).bind _=_
  rw[zDD,zFM (by decide) (by simp;omega),zDD,zAg,if_neg (ltN (i:=0+1+1) (n:=[a,b].length) (by simp)),List.nil_append]
 rw[zBt,e1,zDD,growC,if_pos (by constructor<;>omega),zDD,e2,zDD]
def bnd(s:zMa)(i:Nat):Int:=if s.Op=4 then s.Kinds.length else if s.Op=6 then (if i=0 then (s.Kinds.length:Int) else s.Kinds.length+s.More.length) else 0
theorem bnd_le{s:zMa}(h:okS s)(i:Nat):0<=bnd s i∧bnd s i<=2000:=by
 have h1:=h.kinds.1
 have h2:=h.more.1
 unfold bnd
 split
 ·omega
 ·split
  ·split<;>omega
  ·omega
theorem bound_T{s:zMa}(h:okS s)(i:Nat):Tot (fun n=>zEs n s (i:Int)) (fun l=>(l.length:Int)=bnd s i):=by
 unfold zEs
 refine Tot.bind (A:=fun j=>j=(eqI s.Op 4||(eqI s.Op 6&&eqI (i:Int) 0))) (Tot.ite (fun h=>Tot.pure (by rw[h];rfl)) fun h=>Tot.pure (by rw[h];rfl)) fun j hj=>Tot.ite (fun h'=>Tot.pure ?_) fun h'=>Tot.ite (fun h6=>?_) fun h6=>Tot.pure ?_
 ·rw[hj,Bool.or_eq_true,zq7] at h'
  unfold bnd
  rcases h' with h'|⟨h1,h2⟩
  ·rw[if_pos (eqT h')]
  ·have h1:=eqT h1
   have h2:=eqT h2
   rw[if_neg (by omega),if_pos h1,if_pos (by omega)]
 ·rw[hj,Bool.or_eq_false_iff,h6,Bool.true_and] at h'
  have h4:=eqF h'.1
  have h5:=eqF h'.2
  refine Tot.ev (Ev.of (K:=3) fun n hn=>?_) (Tot.pure (r:=s.Kinds++s.More) ?_)
  ·obtain⟨m,rfl⟩: ∃m,n=m+3:=⟨n-3,by omega⟩
   exact concat_M _ _ h.kinds.1 h.more.1 m
  ·unfold bnd
   rw[if_neg h4,if_pos (eqT h6),if_neg (by omega)];simp
 ·rw[hj,Bool.or_eq_false_iff] at h'
  unfold bnd
  rw[if_neg (eqF h'.1),if_neg (eqF h6)];rfl
def sZ:zMa:=zMa.mk 0 0 [] cZ (zMY.mk []) [] [] [] []
theorem part_loop(s:zMa)(hok:okS s)(d:Int)(h0:0<=d)(h1:d<=1000000000)(P:Nat->zMa->Prop)(L:Nat->Nat->List zMa->Nat->Option ((zMa×Int) ⊕ List zMa))(F:Nat->zMa->Int->Option (zMa×Int))
 (hL: ∀n k b i,L n (k+1) b i=if ltI (i:Int) (s.L.length:Int)=true then (s.L[i]?).bind fun x=>(zEs n s (i:Int)).bind fun v=>(chk .i64 (d+v.length)).bind fun e=>(F n x e).bind fun w=>if (!(eqI w.2 0))=true then some (.inl (sZ,w.2)) else (app 256 b [w.1]).bind fun l=>L n k l (i+1) else some (.inr b))
 (hF: ∀i x,s.L[i]? =some x->Tot (fun n=>F n x (d+bnd s i)) (fun r=>r.2=0->P i r.1)):
 Tot (fun n=>L n n [] 0) (fun o=>(∀r,o=.inl r->r.2≠0)∧∀b,o=.inr b->b.length=s.L.length∧∀i y,b[i]? =some y->P i y):=by
 refine Tot.loop s.L L (fun n i b x=>(zEs n s (i:Int)).bind fun v=>(chk .i64 (d+v.length)).bind fun e=>(F n x e).bind fun w=>if (!(eqI w.2 0))=true then some (.inl (.inl (sZ,w.2))) else (app 256 b [w.1]).bind fun l=>some (.inr l)) (fun b=>.inr b)
  (fun n k b i=>by
   rw[hL]
   split
   ·congr 1;funext x
    simp only[Option.bind_assoc]
    congr 1;funext v
    congr 1;funext e
    congr 1;funext w
    split
    ·rfl
    ·simp only[Option.bind_assoc,zDD];rfl
   ·rfl) (fun i b=>b.length=i∧i<=s.L.length∧∀j y,b[j]? =some y->P j y) _ ?_ (fun b hb=>⟨fun r hr=>(by cases hr),fun b' hb'=>(by cases hb';exact⟨hb.1,hb.2.2⟩)⟩) [] ⟨rfl,by omega,fun j y hy=>by simp at hy⟩
 intro i b x hx hb
 have hi:=(zq1 hx).1
 have hll:=hok.lens.1
 refine Tot.bind (bound_T hok i) fun v hv=>?_
 have hbd:=bnd_le hok i
 refine Tot.chk (by omega) (by omega) ?_
 rw[hv]
 refine Tot.bind (hF i x hx) fun w hw=>Tot.ite (fun h=>Tot.pure ⟨fun g hg=>?_,fun b' hb'=>(by cases hb')⟩) fun h=>?_
 ·cases hg
  exact⟨fun r hr=>(by cases hr;exact eqF (notT h)),fun b' hb'=>(by cases hb')⟩
 ·refine Tot.k (a:=b++[w.1]) (zFM (by decide) (by simp;omega)) (Tot.pure ⟨fun g hg=>(by cases hg),fun b' hb'=>?_⟩)
  cases hb'
  refine⟨by simp;omega,by omega,fun j y hy=>?_⟩
  by_cases hj:j<b.length
  ·rw[List.getElem?_append_left hj] at hy;exact hb.2.2 j y hy
  ·have hj2:j=i:=by have:=(zq1 hy).1;simp at this;omega
   subst hj2
   rw[List.getElem?_append_right (by omega),hb.1] at hy
   simp at hy
   rw[<-hy];exact hw (eqT (notF h))
theorem zLV(c:zMZ):zMZ.mk c.Op c.N c.S (zMY.mk c.Kind.L) c.Names c.L=c:=by rw[zKY,conEta]
abbrev CT:Type:=Int×Int×List UInt8×List zMY×List (List UInt8)×List zMZ
def ofCT(j:CT):zMZ:=zMZ.mk j.1 j.2.1 j.2.2.1 (zMY.mk j.2.2.2.1) j.2.2.2.2.1 j.2.2.2.2.2
theorem conPart{f:Nat->Option (zMZ×Int)}{op:Int}{P:zMZ->Prop}(h1:hasC op=true->Tot f (fun r=>r.2=0->P r.1))(h2:hasC op=false->P cZ):
 Tot (fun n=>(zDF op).bind fun v=>if v=true then (f n).bind fun v=>if (!(eqI v.2 0))=true then some (.inl (sZ,v.2)) else some (.inr (v.1.Op,v.1.N,v.1.S,v.1.Kind.L,v.1.Names,v.1.L)) else some (.inr (0,0,([]:List UInt8),([]:List zMY),([]:List (List UInt8)),([]:List zMZ))):Nat->Option ((zMa×Int) ⊕ CT))
  (fun o=>(∀r,o=.inl r->r.2≠0)∧∀j,o=.inr j->P (ofCT j)):=by
 refine Tot.k (hasC_M op) (Tot.ite (fun h=>Tot.bind (h1 h) fun v hv=>Tot.ite (fun h=>Tot.pure ⟨fun r hr=>?_,fun j hj=>(by cases hj)⟩) fun h=>Tot.pure ⟨fun r hr=>(by cases hr),fun j hj=>?_⟩) fun h=>Tot.pure ⟨fun r hr=>(by cases hr),fun j hj=>?_⟩)
 ·cases hr;exact eqF (notT h)
 ·cases hj
  have:=hv (eqT (notF h))
  show P (zMZ.mk v.1.Op v.1.N v.1.S (zMY.mk v.1.Kind.L) v.1.Names v.1.L)
  rw[zLV];exact this
 ·cases hj;exact h2 h
theorem tame1_T(s:zMa):FmS s->∀d:Int,0<=d->d+2000*ssz s<=1000000000->Tot (fun n=>zA1 n s d) (fun r=>r.2=0->WS r.1∧KS r.1):=by
 induction s using zII with
 |h s ih=>
 intro hf d h0 h1
 have hok:=hf.here
 have hp:=zJ4 s
 refine Tot.step (fun n=>by rw[zA1]) ?_
 refine Tot.k (zML _ hok.kinds.1) (Tot.k (zML _ hok.more.1) (Tot.k (clone_T _ (by have:=hok.names;omega)) ?_))
 refine Tot.bind (conPart (f:=fun n=>zGC n s.Con d) (P:=fun c=>csz c<=1000000000000∧Sh c) (fun h=>?_) fun _=>sh_cZ') fun o ho=>Tot.sum (fun r hr h=>absurd h (ho.1 r hr)) fun j hj=>?_
 ·rcases hok.con with ⟨_,h2,h3⟩|⟨h2,_⟩
  ·unfold zGC
   refine Tot.bind (Normal_T _ (by omega) h2.sh) fun v hv=>Tot.pure fun h=>?_
   obtain⟨e1,e2⟩:=hv.ok h
   exact⟨by simp only;omega,e1.sh⟩
  ·rw[h] at h2;cases h2
 have hj:=ho.2 j hj
 refine Tot.bind (part_loop s hok d h0 (by omega) (fun _ y=>WS y∧KS y) (fun n k b i=>zBV n (zA1 n) s d k b i) (fun n x e=>zA1 n x e) (fun n k b i=>by rw[zBV];rfl) fun i x hx=>?_) fun o ho=>Tot.sum (fun r hr h=>absurd h (ho.1 r hr)) fun b hb=>Tot.pure fun _=>?_
 ·have hm:=zq3 hx
  have:=bnd_le hok i
  exact ih x hm (hf.part hm) _ (by omega) (by have:=zHU hm;omega)
 ·obtain⟨e1,e2⟩:=ho.2 b hb
  have hmem: ∀y,y∈b->WS y∧KS y:=fun y hy=>by
   obtain⟨i,hi,rfl⟩:=List.getElem_of_mem hy
   exact e2 i _ (zq2 hi)
  exact⟨.mk _ hj.1 hj.2 fun y hy=>(hmem y hy).1,.mk _ hok.kind hok.kinds.2 hok.more.2 fun y hy=>(hmem y hy).2⟩
theorem tame_T(s:zMa)(hf:FmS s)(hs:ssz s<=20000):Tot (fun n=>zEU n s) (fun r=>r.2=0->WS r.1∧KS r.1):=by
 unfold zEU
 exact Tot.bind (tame1_T s hf 0 (by omega) (by omega)) fun v hv=>Tot.pure hv
theorem shf_zero(a:Int)(c:zMZ):Fm c->∀b,shf a 0 c b=c:=by
 induction c using zD5 with
 |h c ih=>
 intro hf b
 have hok:=hf.here
 rw[shf_eq]
 split
 ·rename_i h
  unfold shLeaf
  split
  ·rename_i h2
   have h1:=eqT (andT h2).1
   obtain⟨e1,e2⟩:=hok.var h1
   obtain⟨e3,e4⟩:=zKW hok h
   conv=>rhs;rw[<-zLV c,e1,e2,e3,e4,h1]
   rw[Int.add_zero];rfl
  ·exact leaf_self hok h
 ·have e:(c.L.map fun x=>shf a 0 x (if bndB c then b+1 else b))=c.L.map id:=List.map_congr_left fun x hx=>ih x hx (hf.part hx) _
  rw[e,List.map_id,conEta]
theorem semEta(s:zMa):zMa.mk s.Op s.N s.S s.Con s.Kind s.Kinds s.More s.Names s.L=s:=by cases s;rfl
theorem shift1_S(s:zMa):FmS s->∀d:Int,0<=d->d+2000*ssz s<=1000000000->Tot (fun n=>zAs n s d 0 0) (fun r=>r.2=0->r.1=s):=by
 induction s using zII with
 |h s ih=>
 intro hf d h0 h1
 have hok:=hf.here
 have hp:=zJ4 s
 refine Tot.step (fun n=>by rw[zAs]) ?_
 refine Tot.k (zML _ hok.kinds.1) (Tot.k (zML _ hok.more.1) (Tot.k (clone_T _ (by have:=hok.names;omega)) ?_))
 refine Tot.bind (conPart (f:=fun n=>zFh n s.Con d 0 0) (P:=fun c=>c=s.Con) (fun h=>?_) fun h=>?_) fun o ho=>Tot.sum (fun r hr h=>absurd h (ho.1 r hr)) fun j hj=>?_
 ·rcases hok.con with ⟨_,h2,h3⟩|⟨h2,_⟩
  ·unfold zFh
   refine Tot.chk (by omega) (by omega) (Tot.bind (Shift_T s.Con 0 _ (by omega) h2.sh) fun v hv=>Tot.pure fun h=>?_)
   obtain⟨_,_,e⟩:=hv.ok h
   simp only
   rw[e,shf_zero _ _ h2]
  ·rw[h] at h2;cases h2
 ·rcases hok.con with ⟨h2,_⟩|⟨_,h2⟩
  ·rw[h] at h2;cases h2
  ·exact h2.symm
 have hj:=ho.2 j hj
 refine Tot.bind (part_loop s hok d h0 (by omega) (fun i y=>s.L[i]? =some y) (fun n k b i=>zBM n (zAs n) s d 0 0 k b i) (fun n x e=>zAs n x e 0 0) (fun n k b i=>by rw[zBM];rfl) fun i x hx=>?_) fun o ho=>Tot.sum (fun r hr h=>absurd h (ho.1 r hr)) fun b hb=>Tot.pure fun _=>?_
 ·have hm:=zq3 hx
  have:=bnd_le hok i
  exact(ih x hm (hf.part hm) _ (by omega) (by have:=zHU hm;omega)).mono fun r hr h=>by rw[hr h,hx]
 ·obtain⟨e1,e2⟩:=ho.2 b hb
  have:b=s.L:=List.ext_getElem? fun i=>by
   cases hbi:b[i]? with
   |none=>rw[List.getElem?_eq_none_iff] at hbi;rw[List.getElem?_eq_none (by omega)]
   |some y=>exact(e2 i y hbi).symm
  show zMa.mk s.Op s.N s.S (ofCT j) s.Kind s.Kinds s.More s.Names b=s
  rw[hj,this,semEta]
theorem sshift_T(s:zMa)(hw:WS s):Tot (fun n=>zGs n s 0 0) (fun r=>r.2=0->r.1=s):=by
 unfold zGs
 refine Tot.bind (zIv s hw) fun v hv=>Tot.ite (fun _=>Tot.pure fun h=>by cases h) fun h=>?_
 obtain⟨hf,hs⟩:=hv (notF h)
 refine Tot.ite (fun h=>by cases h) fun _=>Tot.k rfl ?_
 refine Tot.bind (shift1_S s hf 0 (by omega) (by omega)) fun v hv=>?_
 refine Tot.bind (A:=fun r=>r.2=0->r.1=s) ?_ fun r hr=>Tot.pure hr
 unfold zFP
 refine Tot.bind (A:=fun b=>b=false->v.2=0) ?_ fun b hb=>Tot.ite (fun _=>Tot.pure fun h=>by cases h) fun h=>Tot.pure fun _=>hv (hb h)
 refine Tot.ite (fun _=>Tot.pure fun h=>by cases h) fun h=>?_
 have h:=eqT (notF h)
 rw[hv h]
 exact Tot.bind (zIv s hw) fun b _=>Tot.pure fun _=>h
def ixF:List Int->Int->Int
 |[],_=> -1
 |x::l,v=>if v=x then 0 else if ixF l v<0 then -1 else ixF l v+1
theorem zKZ(v:Int): ∀l:List Int,(0<=ixF l v∧ixF l v<l.length∧l[(ixF l v).toNat]? =some v)∨(ixF l v= -1∧v∉l)
 |[]=>.inr ⟨rfl,by simp⟩
 |x::l=>by
  rw[ixF]
  split
  ·rename_i h;subst h;exact .inl ⟨by omega,by simp,rfl⟩
  ·rename_i h
   rcases zKZ v l with ⟨h1,h2,h3⟩|⟨h1,h2⟩
   ·rw[if_neg (by omega)]
    refine .inl ⟨by omega,by simp;omega,?_⟩
    rw[show(ixF l v+1).toNat=(ixF l v).toNat+1 by omega,List.getElem?_cons_succ];exact h3
   ·rw[if_pos (by omega)]
    exact .inr ⟨rfl,by simp[h,h2]⟩
theorem index_T(l:List Int)(v:Int):Tot (fun n=>zCn n l v) (fun r=>r=ixF l v):=by
 have key: ∀m i,i+m=l.length->∀k,m<k->zBT l v k i=some (if ixF (l.drop i) v<0 then .inr () else .inl ((i:Int)+ixF (l.drop i) v)):=by
  intro m
  induction m with
  |zero=>
   intro i hi k hk
   obtain⟨k,rfl⟩: ∃q,k=q+1:=⟨k-1,by omega⟩
   rw[zBT,if_neg (ltN (by omega)),List.drop_eq_nil_of_le (by omega),ixF,if_pos (by omega)]
  |succ m ih=>
   intro i hi k hk
   obtain⟨k,rfl⟩: ∃q,k=q+1:=⟨k-1,by omega⟩
   rw[zBT,if_pos (ltP (by omega)),zq2 (show i<l.length by omega),zDD,List.drop_eq_getElem_cons (show i<l.length by omega),ixF]
   by_cases h:v=l[i]
   ·rw[if_pos (show eqI v l[i]=true from zqb h),if_pos h,if_neg (by omega),Int.add_zero]
   ·rw[if_neg (show¬eqI v l[i]=true from fun e=>h (eqT e)),if_neg h,ih (i+1) (by omega) k (by omega)]
    by_cases h2:ixF (l.drop (i+1)) v<0
    ·rw[if_pos h2,if_pos h2,if_pos (by omega)]
    ·rw[if_neg h2,if_neg h2,if_neg (by omega)]
     congr 2;omega
 unfold zCn
 refine Tot.ev (Ev.of (K:=l.length+1) fun n hn=>key l.length 0 (by omega) n (by omega)) (Tot.sum (fun a ha=>?_) fun b hb=>Tot.pure ?_)
 ·rw[List.drop_zero] at ha
  split at ha
  ·cases ha
  ·cases ha;omega
 ·rw[List.drop_zero] at hb
  split at hb
  ·rcases zKZ v l with ⟨h1,_⟩|⟨h1,_⟩<;>omega
  ·cases hb
theorem contains_T(l:List Int)(v:Int):Tot (fun n=>zCW n l v) (fun b=>b=true↔v∈l):=by
 unfold zCW
 refine Tot.bind (index_T l v) fun r hr=>Tot.pure ?_
 rcases zKZ v l with ⟨h1,h2,h3⟩|⟨h1,h2⟩
 ·exact⟨fun _=>zq3 h3,fun _=>zqb (by omega)⟩
 ·exact⟨fun h=>by have:=leT h;omega,fun h=>absurd h h2⟩
def Us(n:Int)(l:List Int):Prop:=l.Nodup∧∀x,x∈l->0<=x∧x<n
theorem us_len: ∀(n:Nat)(l:List Int),Us n l->l.length<=n
 |0,l,h=>by
  cases l with
  |nil=>simp
  |cons x l=>have:=h.2 x (by simp);omega
 |n+1,l,h=>by
  by_cases hm:(n:Int)∈l
  ·have h1:=us_len n (l.erase n) ⟨h.1.erase _,fun x hx=>by
    obtain⟨h2,h3⟩:=(h.1.mem_erase_iff).1 hx
    have:=h.2 x h3;omega⟩
   rw[List.length_erase_of_mem hm] at h1;omega
  ·have:=us_len n l ⟨h.1,fun x hx=>by
    have:=h.2 x hx
    have:x≠n:=fun e=>hm (by rw[<-e];exact hx)
    omega⟩
   omega
theorem us_all{n:Nat}{l:List Int}(h:Us n l)(hl:n<=l.length)(x:Int)(h0:0<=x)(h1:x<n):x∈l:=by
 by_cases hm:x∈l
 ·exact hm
 ·have:=us_len n (x::l) ⟨List.nodup_cons.2 ⟨hm,h.1⟩,fun y hy=>by
   rcases List.mem_cons.1 hy with rfl|hy
   ·exact⟨h0,h1⟩
   ·exact h.2 y hy⟩
  simp at this;omega
theorem visit_T(f k:Int)(l:List Int)(hf: -2000000000<=f)(hf2:f<=2000000000)(hk:0<=k)(hk2:k<=1000)(hl:Us k l):Tot (fun n=>zFp n f k l) (Us k):=by
 have hlen:=us_len k.toNat l (by rw[Int.toNat_of_nonneg hk];exact hl)
 unfold zFp
 refine Tot.chk (by omega) (by omega) (Tot.chk (by omega) (by omega) ?_)
 refine Tot.bind (A:=fun b=>b=true->0<=k-1-f∧0<=f∧k-1-f∉l) (Tot.ite (fun h1=>Tot.ite (fun h2=>Tot.bind (contains_T l _) fun v hv=>Tot.pure fun h=>?_) fun _=>Tot.pure fun h=>by cases h) fun _=>Tot.pure fun h=>by cases h) fun b hb=>Tot.ite (fun h=>?_) fun _=>Tot.pure hl
 ·have h:=notT h
  exact⟨leT h2,leT h1,fun hm=>by rw[hv.2 hm] at h;cases h⟩
 ·obtain⟨h1,h2,h3⟩:=hb h
  refine Tot.k (a:=l++[k-1-f]) (zFM (by decide) (by simp;omega)) (Tot.pure ⟨?_,fun x hx=>?_⟩)
  ·rw[List.nodup_append]
   exact⟨hl.1,by simp,fun a ha b hb=>by simp at hb;subst hb;exact fun e=>h3 (by rw[<-e];exact ha)⟩
  ·rcases List.mem_append.1 hx with hx|hx
   ·exact hl.2 x hx
   ·simp at hx;omega
theorem inCon_T(k:Int)(hk:0<=k)(hk2:k<=1000)(c:zMZ):Fm c->∀(d:Int)(l:List Int),0<=d->d+csz c<=1000000000->Us k l->Tot (fun n=>zBH n c d k l) (Us k):=by
 induction c using zD5 with
 |h c ih=>
 intro hf d l h0 h1 hl
 have hok:=hf.here
 have hp:=zF8 c
 have hn0:=hok.n0
 have hn1:=hok.n1
 refine Tot.step (fun n=>by rw[zBH]) ?_
 refine Tot.bind (A:=fun j=>Us k j.1∧0<=j.2∧j.2<=d+1) ?_ fun j hj=>?_
 ·refine Tot.ite (fun _=>Tot.chk (by omega) (by omega) (Tot.bind (visit_T _ k l (by omega) (by omega) hk hk2 hl) fun v hv=>Tot.pure ⟨hv,h0,by simp only;omega⟩)) fun _=>?_
  refine Tot.bind (A:=fun _=>True) ?_ fun b _=>Tot.ite (fun _=>Tot.chk (by omega) (by omega) (Tot.pure ⟨hl,by simp only;omega,by simp only;omega⟩)) fun _=>Tot.pure ⟨hl,h0,by simp only;omega⟩
  exact Tot.ite (fun _=>Tot.pure trivial) fun _=>Tot.ite (fun _=>Tot.pure trivial) fun _=>Tot.ite (fun _=>Tot.pure trivial) fun _=>Tot.pure trivial
 ·refine Tot.bind (Tot.loop1 c.L (fun n kk b i=>zBd (zBH n) c k j kk b i) (fun n i b x=>zBH n x j.2 k b) (fun b=>b) (fun n kk b i=>by rw[zBd]) (fun _ b=>Us k b) (Us k) (fun i b x hx hb=>?_) (fun _ h=>h) j.1 hj.1) fun o ho=>Tot.pure ho
  have hm:=zq3 hx
  exact ih x hm (hf.part hm) j.2 b hj.2.1 (by have:=zD4 hm;omega) hb
theorem inSem_T(k:Int)(hk:0<=k)(hk2:k<=1000)(s:zMa):FmS s->∀(d:Int)(l:List Int),0<=d->d+2000*ssz s<=500000000->Us k l->Tot (fun n=>zAj n s d k l) (Us k):=by
 induction s using zII with
 |h s ih=>
 intro hf d l h0 h1 hl
 have hok:=hf.here
 have hp:=zJ4 s
 have hk1:=hok.kinds.1
 have hm1:=hok.more.1
 refine Tot.step (fun n=>by rw[zAj]) ?_
 refine Tot.bind (A:=fun b=>b=hasC s.Op) ?_ fun b hb=>Tot.ite (fun h=>?_) fun hc=>Tot.ite (fun h=>?_) fun _=>Tot.ite (fun h=>?_) fun _=>?_
 ·unfold hasC
  refine Tot.ite (fun h=>Tot.pure (by rw[h];rfl)) fun h=>Tot.ite (fun h'=>Tot.pure (by rw[h',h];rfl)) fun h'=>Tot.pure (by rw[h,h'];rfl)
 ·rw[hb] at h
  rcases hok.con with ⟨_,h2,h3⟩|⟨h2,_⟩
  ·exact Tot.bind (inCon_T k hk hk2 s.Con h2 d l h0 (by omega) hl) fun v hv=>Tot.pure hv
  ·rw[h] at h2;cases h2
 ·obtain⟨x,hx,hm⟩:=at0 (l:=s.L) (by rw[hok.lens.2.2.1 (eqT h)];omega)
  refine Tot.k hx (Tot.chk (by omega) (by omega) (Tot.bind (ih x hm (hf.part hm) _ l (by omega) (by have:=zHU hm;omega) hl) fun v hv=>Tot.pure hv))
 ·have hl2:=hok.lens.2.2.2.1 (eqT h)
  obtain⟨x,hx,hm⟩:=at0 (l:=s.L) (by omega)
  obtain⟨y,hy,hn⟩:=at1 (l:=s.L) (by omega)
  refine Tot.k hx (Tot.chk (by omega) (by omega) (Tot.bind (ih x hm (hf.part hm) _ l (by omega) (by have:=zHU hm;omega) hl) fun v hv=>?_))
  exact Tot.k hy (Tot.chk (by omega) (by omega) (Tot.bind (ih y hn (hf.part hn) _ v (by omega) (by have:=zHU hn;omega) hv) fun w hw=>Tot.pure hw))
 ·refine Tot.bind (Tot.loop1 s.L (fun n kk b i=>zBc (zAj n) s d k kk b i) (fun n i b x=>zAj n x d k b) (fun b=>b) (fun n kk b i=>by rw[zBc]) (fun _ b=>Us k b) (Us k) (fun i b x hx hb=>?_) (fun _ h=>h) l hl) fun o ho=>Tot.pure ho
  have hm:=zq3 hx
  exact ih x hm (hf.part hm) d b h0 (by have:=zHU hm;omega) hb
def toI(k:Int)(l:List Int)(f:Int):Int:=if k<=f then f-k+l.length else l.length-1-ixF l (k-1-f)
theorem toI_T(f k:Int)(l:List Int)(hf:0<=f)(hf2:f<=1000000)(hk:0<=k)(hk2:k<=1000)(hl:l.length<=1000):Tot (fun n=>zFo n f k l.length l) (fun r=>r=toI k l f∧0<=r∧r<=2000000):=by
 unfold zFo toI
 refine Tot.ite (fun h=>?_) fun h=>?_
 ·have h:=leT h
  exact Tot.chk (by omega) (by omega) (Tot.chk (by omega) (by omega) (Tot.pure ⟨by rw[if_pos h],by omega,by omega⟩))
 ·have h:=leF h
  have h2:=zKZ (k-1-f) l
  refine Tot.chk (by omega) (by omega) (Tot.chk (by omega) (by omega) (Tot.chk (by omega) (by omega) (Tot.bind (index_T l _) fun v hv=>?_)))
  exact Tot.chk (by omega) (by omega) (Tot.pure ⟨by rw[if_neg (by omega),hv],by omega,by omega⟩)
def mvC(tv:Int->Int)(c:zMZ)(d:Int):zMZ:=
 if c.Op=1 then zMZ.mk c.Op (if d<=c.N then tv (c.N-d)+d else c.N) c.S c.Kind c.Names c.L else zMZ.mk c.Op c.N c.S c.Kind c.Names (c.L.map fun x=>mvC tv x (if bndB c then d+1 else d))
termination_by SizeOf.sizeOf c
decreasing_by all_goals (cases c;simp only[zMZ.mk.sizeOf_spec];have:=List.sizeOf_lt_of_mem ‹_›;simp only at this;omega)
theorem zL5(tv:Int->Int)(c:zMZ)(d:Int):mvC tv c d=if c.Op=1 then zMZ.mk c.Op (if d<=c.N then tv (c.N-d)+d else c.N) c.S c.Kind c.Names c.L else zMZ.mk c.Op c.N c.S c.Kind c.Names (c.L.map fun x=>mvC tv x (if bndB c then d+1 else d)):=by rw[mvC]
theorem movedCon_T(k:Int)(l:List Int)(hk:0<=k)(hk2:k<=1000)(hl:l.length<=1000)(c:zMZ):Fm c->csz c<=20000->∀d:Int,0<=d->d+csz c<=1000000000->Tot (fun n=>zAp n c d k l.length l) (fun r=>r=mvC (toI k l) c d):=by
 induction c using zD5 with
 |h c ih=>
 intro hf hs d h0 h1
 have hok:=hf.here
 have hp:=zF8 c
 have hlc:=len_csz c
 have hn0:=hok.n0
 have hn1:=hok.n1
 refine Tot.step (fun n=>by rw[zAp]) ?_
 refine Tot.bind (A:=fun o=>(∀r,o=.inl r->c.Op=1∧r=mvC (toI k l) c d)∧∀e,o=.inr e->c.Op≠1∧e=(if bndB c then d+1 else d)) ?_ fun o ho=>Tot.sum (fun r hr=>(ho.1 r hr).2) fun e he=>?_
 ·refine Tot.ite (fun h=>?_) fun h=>?_
  ·refine Tot.bind (A:=fun j=>j=if d<=c.N then toI k l (c.N-d)+d else c.N) (Tot.ite (fun h=>?_) fun h=>Tot.pure (by rw[if_neg (by have:=leF h;omega)])) fun j hj=>Tot.pure ⟨fun r hr=>?_,fun e he=>by cases he⟩
   ·have h:=leT h
    refine Tot.chk (by omega) (by omega) (Tot.bind (toI_T (c.N-d) k l (by omega) (by omega) hk hk2 hl) fun v hv=>Tot.chk (by omega) (by omega) (Tot.pure ?_))
    rw[if_pos h,hv.1]
   ·cases hr
    refine⟨eqT h,?_⟩
    rw[zL5,if_pos (eqT h),hj]
  ·have hne:=eqF h
   refine Tot.bind (A:=fun b=>b=bndB c) ?_ fun b hb=>Tot.ite (fun h=>Tot.chk (by omega) (by omega) (Tot.pure ⟨fun r hr=>(by cases hr),fun e he=>?_⟩)) fun h=>Tot.pure ⟨fun r hr=>(by cases hr),fun e he=>?_⟩
   ·unfold bndB
    refine Tot.ite (fun h=>Tot.pure (by rw[h];rfl)) fun h1=>Tot.ite (fun h=>Tot.pure (by rw[h1,h];rfl)) fun h2=>Tot.ite (fun h=>Tot.pure (by rw[h1,h2,h];rfl)) fun h3=>Tot.pure (by rw[h1,h2,h3];rfl)
   ·cases he;exact⟨hne,by rw[<-hb,h];rfl⟩
   ·cases he;exact⟨hne,by rw[<-hb,h];rfl⟩
 ·obtain⟨hne,he⟩:=ho.2 e he
  have hed:0<=e∧e<=d+1:=by rw[he];split<;>omega
  refine Tot.bind (A:=fun o=>o=c.L.map fun x=>mvC (toI k l) x e) ?_ fun o ho=>Tot.pure (by rw[zL5,if_neg hne,ho,he])
  refine Tot.loop1 c.L (fun n kk b i=>zBC (zAp n) c k l.length l e kk b i) (fun n i b x=>(zAp n x e k l.length l).bind fun v=>app 104 b [v]) (fun b=>b)
   (fun n kk b i=>by rw[zBC];simp only[Option.bind_assoc]) (fun i b=>b=(c.L.take i).map (fun x=>mvC (toI k l) x e)) _ ?_ (fun b hb=>by rw[hb,List.take_length]) [] (by simp)
  intro i b x hx hb
  have hm:=zq3 hx
  have hi:=(zq1 hx).1
  refine Tot.bind (ih x hm (hf.part hm) (by have:=zD4 hm;omega) e hed.1 (by have:=zD4 hm;omega)) fun v hv=>?_
  refine⟨b++[v],⟨0,fun n _=>zFM (by decide) (by rw[hb];simp;omega)⟩,?_⟩
  rw[zHh _ _ _ _ hx,hb,hv]
theorem mvC_sz(tv:Int->Int)(c:zMZ): ∀d,csz (mvC tv c d)=csz c:=by
 induction c using zD5 with
 |h c ih=>
 intro d
 rw[zL5]
 split
 ·rw[zGM,zGM c]
 ·have e:(c.L.map (csz∘fun x=>mvC tv x (if bndB c=true then d+1 else d)))=c.L.map csz:=List.map_congr_left fun x hx=>ih x hx _
  rw[zGM,zGM c,List.map_map,e]
theorem mvC_sh(tv:Int->Int)(c:zMZ):Sh c->∀d,Sh (mvC tv c d):=by
 induction c using zD5 with
 |h c ih=>
 intro hs d
 rw[zL5]
 split
 ·exact .mk _ hs.here fun x hx=>hs.part hx
 ·refine .mk _ hs.here fun x hx=>?_
  obtain⟨y,hy,rfl⟩:=List.mem_map.1 hx
  exact ih y hy (hs.part hy) _
def Inj(tv:Int->Int):Prop:= ∀f,0<=f->0<=tv f∧∀g,0<=g->tv f=tv g->f=g
theorem mvC_op(tv:Int->Int)(c:zMZ)(d:Int):(mvC tv c d).Op=c.Op:=by rw[zL5];split<;>rfl
theorem mvC_inj{tv:Int->Int}(h:Inj tv)(c:zMZ): ∀c' d,mvC tv c d=mvC tv c' d->c=c':=by
 induction c using zD5 with
 |h c ih=>
 intro c' d e
 have hop:c.Op=c'.Op:=by rw[<-mvC_op tv c d,e,mvC_op]
 have hb:bndB c=bndB c':=by unfold bndB;rw[hop]
 rw[<-con_eq]
 by_cases h1:c.Op=1
 ·rw[zL5 tv c,if_pos h1,zL5 tv c',if_pos (show c'.Op=1 by rw[<-hop];exact h1)] at e
  injection e with e1 e2 e3 e4 e5 e6
  refine⟨e1,?_,e3,e4,e5,e6⟩
  split at e2
  ·rename_i q1
   obtain⟨z1,z2⟩:=h (c.N-d) (by omega)
   split at e2
   ·rename_i q2
    have:=z2 (c'.N-d) (by omega) (by omega);omega
   ·omega
  ·split at e2
   ·rename_i q1 q2
    have:=(h (c'.N-d) (by omega)).1;omega
   ·exact e2
 ·rw[zL5 tv c,if_neg h1,zL5 tv c',if_neg (show¬c'.Op=1 by rw[<-hop];exact h1)] at e
  injection e with e1 e2 e3 e4 e5 e6
  refine⟨e1,e2,e3,e4,e5,?_⟩
  rw[<-hb] at e6
  have hlen:c.L.length=c'.L.length:=by have:=congrArg List.length e6;simpa using this
  refine List.ext_getElem hlen fun i h1 h2=>?_
  have:=congrArg (fun l:List zMZ=>l[i]?) e6
  simp only[List.getElem?_map,zq2 h1,zq2 h2,Option.map_some,Option.some.injEq] at this
  exact ih _ (List.getElem_mem h1) _ _ this
inductive MvS (tv:Int->Int):zMa->Int->zMa->Prop
 |mk (s:zMa) (d:Int) (t:zMa) (h1:t.Op=s.Op∧t.N=s.N∧t.S=s.S∧t.Kind=s.Kind∧t.Kinds=s.Kinds∧t.More=s.More∧t.Names=s.Names) (hc:t.Con=if hasC s.Op=true then mvC tv s.Con d else s.Con)
  (hl:t.L.length=s.L.length) (hs: ∀i x y,s.L[i]? =some x->t.L[i]? =some y->MvS tv x (d+bnd s i) y):MvS tv s d t
theorem MvS.inj{tv:Int->Int}(h:Inj tv){s:zMa}{d:Int}{t:zMa}(h1:MvS tv s d t): ∀s',MvS tv s' d t->s=s':=by
 induction h1 with
 |mk s d t a1 a2 a3 a4 ih=>
 rintro s' ⟨_,_,_,b1,b2,b3,b4⟩
 obtain⟨p1,p2,p3,p4,p5,p6,p7⟩:=a1
 obtain⟨q1,q2,q3,q4,q5,q6,q7⟩:=b1
 have hop:s.Op=s'.Op:=by rw[<-p1,q1]
 have hb: ∀i,bnd s i=bnd s' i:=fun i=>by unfold bnd;rw[hop,<-p5,q5,<-p6,q6]
 rw[<-sem_eq]
 refine⟨hop,by rw[<-p2,q2],by rw[<-p3,q3],?_,by rw[<-p4,q4],by rw[<-p5,q5],by rw[<-p6,q6],by rw[<-p7,q7],?_⟩
 ·rw[a2,hop] at b2
  split at b2
  ·exact mvC_inj h _ _ _ b2
  ·exact b2
 ·refine List.ext_getElem (by omega) fun i h1 h2=>?_
  have ht:t.L[i]? =some t.L[i]:=zq2 (by omega)
  exact ih i _ _ (zq2 h1) ht _ (by rw[hb];exact b4 i _ _ (zq2 h2) ht)
theorem MvS.ws{tv:Int->Int}{s:zMa}{d:Int}{t:zMa}(h1:MvS tv s d t):WS s->WS t:=by
 induction h1 with
 |mk s d t a1 a2 a3 a4 ih=>
 rintro⟨_,w1,w2,w3⟩
 refine .mk t ?_ ?_ fun y hy=>?_
 ·rw[a2];split
  ·rw[mvC_sz];exact w1
  ·exact w1
 ·rw[a2];split
  ·exact mvC_sh _ _ w2 _
  ·exact w2
 ·obtain⟨i,hi,rfl⟩:=List.getElem_of_mem hy
  have hx:s.L[i]? =some s.L[i]:=zq2 (by omega)
  exact ih i _ _ hx (zq2 hi) (w3 _ (List.getElem_mem _))
theorem moved_T(k:Int)(l:List Int)(hk:0<=k)(hk2:k<=1000)(hl:l.length<=1000)(s:zMa):FmS s->∀d:Int,0<=d->d+2000*ssz s<=500000000->Tot (fun n=>zAi n s d k l.length l) (fun t=>MvS (toI k l) s d t):=by
 induction s using zII with
 |h s ih=>
 intro hf d h0 h1
 have hok:=hf.here
 have hp:=zJ4 s
 have hk1:=hok.kinds.1
 have hm1:=hok.more.1
 refine Tot.step (fun n=>by rw[zAi]) ?_
 refine Tot.bind (A:=fun j=>zMZ.mk j.1 j.2.1 j.2.2.1 (zMY.mk j.2.2.2.1) j.2.2.2.2.1 j.2.2.2.2.2.1=(if hasC s.Op=true then mvC (toI k l) s.Con d else s.Con)∧j.2.2.2.2.2.2.length=s.L.length∧∀i x y,s.L[i]? =some x->j.2.2.2.2.2.2[i]? =some y->MvS (toI k l) x (d+bnd s i) y) ?_ fun j hj=>Tot.pure (.mk s d _ ⟨rfl,rfl,rfl,rfl,rfl,rfl,rfl⟩ hj.1 hj.2.1 hj.2.2)
 refine Tot.bind (A:=fun b=>b=hasC s.Op) ?_ fun b hb=>Tot.ite (fun h=>?_) fun hc=>?_
 ·unfold hasC
  refine Tot.ite (fun h=>Tot.pure (by rw[h];rfl)) fun h=>Tot.ite (fun h'=>Tot.pure (by rw[h',h];rfl)) fun h'=>Tot.pure (by rw[h,h'];rfl)
 ·rw[hb] at h
  rcases hok.con with ⟨_,h2,h3⟩|⟨h2,_⟩
  ·refine Tot.bind (movedCon_T k l hk hk2 hl s.Con h2 h3 d h0 (by omega)) fun v hv=>Tot.pure ⟨?_,?_,fun i x y hx hy=>by simp at hy⟩
   ·rw[if_pos h,<-hv];exact zLV v
   ·rw[hok.lens.2.1 h]
  ·rw[h] at h2;cases h2
 rw[hb] at hc
 refine Tot.ite (fun h=>?_) fun h4=>Tot.ite (fun h=>?_) fun h6=>?_
 ·have h:=eqT h
  have hlen:=hok.lens.2.2.1 h
  obtain⟨x,hx,hm⟩:=at0 (l:=s.L) (by omega)
  refine Tot.k hx (Tot.chk (by omega) (by omega) (Tot.bind (ih x hm (hf.part hm) _ (by omega) (by have:=zHU hm;omega)) fun v hv=>Tot.pure ⟨?_,by simp;omega,fun i z y hz hy=>?_⟩))
  ·rw[if_neg (by rw[hc];simp)];exact zLV _
  ·cases i with
   |zero=>
    simp at hy;subst hy
    rw[hx] at hz;cases hz
    unfold bnd;rw[if_pos h];exact hv
   |succ i=>simp at hy
 ·have h:=eqT h
  have hlen:=hok.lens.2.2.2.1 h
  obtain⟨x,hx,hm⟩:=at0 (l:=s.L) (by omega)
  obtain⟨y,hy,hn⟩:=at1 (l:=s.L) (by omega)
  refine Tot.k hx (Tot.chk (by omega) (by omega) (Tot.bind (ih x hm (hf.part hm) _ (by omega) (by have:=zHU hm;omega)) fun v hv=>?_))
  refine Tot.k hy (Tot.chk (by omega) (by omega) (Tot.bind (ih y hn (hf.part hn) _ (by omega) (by have:=zHU hn;omega)) fun w hw=>Tot.pure ⟨?_,by simp;omega,fun i z y' hz hy'=>?_⟩))
  ·rw[if_neg (by rw[hc];simp)];exact zLV _
  ·have hne: ¬s.Op=4:=by omega
   unfold bnd
   rw[if_neg hne,if_pos h]
   rcases i with _|_|i
   ·simp at hy';subst hy'
    rw[hx] at hz;cases hz
    exact hv
   ·simp at hy';subst hy'
    rw[hy] at hz;cases hz
    rw[if_neg (by omega),<-Int.add_assoc];exact hw
   ·simp at hy'
 ·have hll:=hok.lens.1
  refine Tot.bind (A:=fun(o:List zMa)=>o.length=s.L.length∧∀(i:Nat) x y,s.L[i]? =some x->o[i]? =some y->MvS (toI k l) x d y) ?_ fun o ho=>Tot.pure ⟨?_,ho.1,fun i x y hx hy=>?_⟩
  ·refine Tot.loop1 s.L (fun n kk b i=>zBb (zAi n) s d k l.length l kk b i) (fun n i b x=>(zAi n x d k l.length l).bind fun v=>app 256 b [v]) (fun b=>b)
    (fun n kk b i=>by rw[zBb];simp only[Option.bind_assoc]) (fun i (b:List zMa)=>b.length=i∧∀(j:Nat) x y,s.L[j]? =some x->b[j]? =some y->MvS (toI k l) x d y) _ ?_ (fun b hb=>hb) [] ⟨rfl,fun j x y _ hy=>by simp at hy⟩
   intro i b x hx hb
   have hm:=zq3 hx
   have hi:=(zq1 hx).1
   refine Tot.bind (ih x hm (hf.part hm) d h0 (by have:=zHU hm;omega)) fun v hv=>?_
   refine⟨b++[v],⟨0,fun n _=>zFM (by decide) (by simp;omega)⟩,by simp;omega,fun j z y hz hy=>?_⟩
   by_cases hj:j<b.length
   ·rw[List.getElem?_append_left hj] at hy;exact hb.2 j z y hz hy
   ·have hj2:j=i:=by have:=(zq1 hy).1;simp at this;omega
    subst hj2
    rw[List.getElem?_append_right (by omega),hb.1] at hy
    simp at hy
    rw[hx] at hz;cases hz
    rw[<-hy];exact hv
  ·rw[if_neg (by rw[hc];simp)];exact zLV _
  ·unfold bnd
   rw[if_neg (eqF h4),if_neg (eqF h6),Int.add_zero];exact ho.2 i x y hx hy
theorem toI_inj{k:Nat}{l:List Int}(h:Us k l)(hl:k<=l.length):Inj (toI k l):=by
 have hlen:=us_len k l h
 have hlt: ∀f:Int,0<=f->¬(k:Int)<=f->0<=ixF l (k-1-f)∧ixF l (k-1-f)<l.length∧l[(ixF l (k-1-f)).toNat]? =some (k-1-f):=fun f h0 h1=>by
  rcases zKZ (k-1-f) l with e|⟨_,e⟩
  ·exact e
  ·exact absurd (us_all h hl (k-1-f) (by omega) (by omega)) e
 intro f hf
 unfold toI
 by_cases h1:(k:Int)<=f
 ·rw[if_pos h1]
  refine⟨by omega,fun g hg e=>?_⟩
  by_cases h2:(k:Int)<=g
  ·rw[if_pos h2] at e;omega
  ·rw[if_neg h2] at e
   have:=hlt g hg h2;omega
 ·rw[if_neg h1]
  obtain⟨a1,a2,a3⟩:=hlt f hf h1
  refine⟨by omega,fun g hg e=>?_⟩
  by_cases h2:(k:Int)<=g
  ·rw[if_pos h2] at e;omega
  ·rw[if_neg h2] at e
   obtain⟨b1,b2,b3⟩:=hlt g hg h2
   have e2:ixF l (k-1-f)=ixF l (k-1-g):=by omega
   rw[e2,b3] at a3
   have:=zqa a3;omega
theorem kcopied_T(k:zMY):ksz k<=1000000->Tot (fun n=>zBz n k) (fun r=>r=k):=by
 induction k using zHi with
 |h k ih=>
 intro hk
 refine Tot.step (fun n=>by rw[zBz]) ?_
 refine Tot.bind (A:=fun r=>r=k.L) ?_ fun r hr=>Tot.pure (by rw[hr];exact zKY k)
 refine Tot.loop1 k.L (fun n kk b i=>zCT (zBz n) k kk b i) (fun n i b x=>(zBz n x).bind fun v=>app 24 b [v]) (fun b=>b)
  (fun n kk b i=>by rw[zCT];simp only[Option.bind_assoc]) (fun i b=>b=k.L.take i∧i<=k.L.length) (fun b=>b=k.L) ?_ (fun b hb=>by rw[hb.1,List.take_length]) [] ⟨by simp,by omega⟩
 intro i b x hx hb
 have hm:=zq3 hx
 have h1:=ksz_mem hm
 have hi:=(zq1 hx).1
 have hlen:k.L.length<=ksz k:=by
  rw[ksz_eq]
  have:k.L.length<=(k.L.map ksz).sum:=by
   generalize k.L=l
   induction l with
   |nil=>simp
   |cons x l ih=>simp only[List.length_cons,List.map_cons,List.sum_cons];have:=ksz_pos x;omega
  omega
 refine Tot.bind (ih x hm (by omega)) fun v hv=>?_
 subst hv
 refine⟨b++[v],⟨0,fun n _=>zFM (by decide) (by rw[hb.1];simp;omega)⟩,?_,by omega⟩
 rw[hb.1,List.take_add_one,hx];rfl
theorem vK_sz{k:zMY}(h:vK k=true):ksz k<=20000:=by
 obtain⟨b,hb,hq⟩:=KValid_T k
 exact hq (by rw[Ev.uniq hb (zJK k)];exact h)
theorem cformed_T(a:zMb)(h1:a.Kinds.length<=1000)(h2: ∀k,k∈a.Kinds->vK k=true)(hw:WS a.S)(hf:Ev (fun n=>zBn n a.S) true):Tot (fun n=>zE5 n a) (fun b=>b=true):=by
 unfold zE5
 refine Tot.bind (A:=fun b=>b=true) (Tot.ite (fun _=>?_) fun h=>by have:=leF h;omega) fun b hb=>Tot.pure hb
 refine Tot.bind (A:=fun v=>v=false) ?_ fun v hv=>Tot.ite (fun _=>Tot.bind (ssize_T a.S hw hf) fun r hr=>Tot.pure (zqb hr)) fun h=>by rw[hv] at h;cases h
 unfold zA3 zBK
 refine Tot.bind (zFL (Q:=fun _=>True) (R:=fun x=>vK x=false) (P:=True) (T:=True) (Tot.index a.Kinds (fun n k i=>zAR n a.Kinds k i) (fun n x=>zEC n x) (fun n k i=>by rw[zAR]) _ _ fun x hx=>?_)) fun v hv=>Tot.pure ?_
 ·unfold zEC
  exact Tot.ev (zJK x) (Tot.pure ⟨fun _=>trivial,fun h=>notT h⟩)
 ·cases hq:leI 0 v with
  |false=>rfl
  |true=>
   obtain⟨x,hx,e⟩:=hv.2 hq
   rw[h2 x hx] at e;cases e
def CF(ks:List zMY)(x:zMa)(r:zMb×List Int×Int):Prop:=
 r.2.2=6∨(r.2.2=0∧FmS x∧Us ks.length r.2.1∧Ev (fun n=>zAj n x 0 ks.length []) r.2.1∧(∃t,Ev (fun n=>zAi n x 0 ks.length r.2.1.length r.2.1) t∧MvS (toI ks.length r.2.1) x 0 t∧r.1.S=t)∧r.1.Kinds=r.2.1.map fun i=>(ks[i.toNat]?).getD (zMY.mk []))
theorem cabs_T(a:zMb)(h1:a.Kinds.length<=1000)(h2: ∀k,k∈a.Kinds->vK k=true)(hw:WS a.S)(hf:Ev (fun n=>zBn n a.S) true)(x:zMa)(hx:WS x)(hq:KS x)(ht:Ev (fun n=>zEU n a.S) (x,0)):Tot (fun n=>zF2 n a) (CF a.Kinds x):=by
 unfold zF2
 refine Tot.bind (cformed_T a h1 h2 hw hf) fun v hv=>Tot.ite (fun h=>by rw[hv] at h;cases h) fun _=>?_
 refine Tot.bind (A:=fun r=>(r.2=6)∨(r=(x,0)∧FmS x∧ssz x<=20000)) ?_ fun r hr=>?_
 ·unfold zHI
  refine Tot.ev hf (Tot.ite (fun h=>by cases h) fun _=>Tot.ev ht (Tot.ite (fun h=>by cases h) fun _=>?_))
  refine Tot.bind (A:=fun r=>(r.2=6)∨(r=(x,0)∧FmS x∧ssz x<=20000)) ?_ fun r hr=>Tot.pure hr
  unfold zFP
  refine Tot.bind (A:=fun b=>b=false->FmS x∧ssz x<=20000) (Tot.ite (fun h=>by cases h) fun _=>Tot.bind (zIv x hx) fun v hv=>Tot.pure fun h=>hv (notF h)) fun b hb=>Tot.ite (fun _=>Tot.pure (.inl rfl)) fun h=>Tot.pure (.inr ⟨rfl,hb h⟩)
 rcases hr with hr|⟨rfl,hfx,hsx⟩
 ·refine Tot.ite (fun _=>Tot.pure (.inl hr)) fun h=>?_
  rw[hr] at h;cases h
 refine Tot.ite (fun h=>by cases h) fun _=>?_
 obtain⟨l,hl,hus⟩:=inSem_T a.Kinds.length (by omega) (by omega) x hfx 0 [] (by omega) (by omega) ⟨List.nodup_nil,fun x hx=>by cases hx⟩
 have hlen:=us_len a.Kinds.length l hus
 refine Tot.ev hl ?_
 obtain⟨t,ht,hmv⟩:=moved_T a.Kinds.length l (by omega) (by omega) (by omega) x hfx 0 (by omega) (by omega)
 refine Tot.ev ht ?_
 refine Tot.bind (sshift_T t (hmv.ws hx)) fun w hw=>Tot.ite (fun _=>Tot.pure (.inl rfl)) fun h=>?_
 have hw:=hw (eqT (notF h))
 refine Tot.bind (A:=fun o=>o=l.map fun i=>(a.Kinds[i.toNat]?).getD (zMY.mk [])) ?_ fun o ho=>Tot.pure (.inr ⟨rfl,hfx,hus,hl,⟨t,ht,hmv,hw⟩,ho⟩)
 refine Tot.loop1 l (fun n kk b i=>zDm n a l kk b i) (fun n i b x=>(idx a.Kinds x).bind fun y=>(zBz n y).bind fun v=>app 24 b [v]) (fun b=>b) (fun n kk b i=>by rw[zDm];simp only[Option.bind_assoc])
  (fun i b=>b=(l.take i).map fun i=>(a.Kinds[i.toNat]?).getD (zMY.mk [])) _ ?_ (fun b hb=>by rw[hb,List.take_length]) [] (by simp)
 intro i b z hz hb
 have hm:=hus.2 z (zq3 hz)
 have hi:=(zq1 hz).1
 obtain⟨y,hy,e1,e2⟩:=idxI a.Kinds z hm.1 hm.2
 refine Tot.k e1 (Tot.bind (kcopied_T y (by have:=vK_sz (h2 y hy);omega)) fun v hv=>?_)
 refine⟨b++[v],⟨0,fun n _=>zFM (by decide) (by rw[hb];simp;omega)⟩,?_⟩
 rw[zHh _ _ _ _ hz,hb,e2,hv];rfl
theorem zLC(a b:zMb)(ha:zMb.good a)(hb:zMb.good b): ∃fuel,zDZ fuel a b=some true:=by
 have key:Tot (fun n=>zDZ n a b) (fun r=>r=true):=by
  unfold zDZ
  refine Tot.k rfl (Tot.ite (fun h=>by cases h) fun _=>?_)
  refine Tot.bind (A:=fun v=>v=false->(tsz a.S<=400∧tsz b.S<=400)∧a.Kinds=b.Kinds) ?_ fun v hv=>Tot.ite (fun _=>Tot.pure rfl) fun h=>?_
  ·refine Tot.bind (great_T a b) fun v hv=>Tot.ite (fun _=>Tot.pure fun h=>by cases h) fun h=>Tot.bind (zLj _ _) fun w hw=>Tot.pure fun h'=>⟨hv h,hw.1 (notF h')⟩
  obtain⟨⟨hsa,hsb⟩,hks⟩:=hv h
  have wa:=WS_of a.S hsa ha
  have wb:=WS_of b.S hsb hb
  refine Tot.bind (A:=fun r=>(r.2≠0∧r.1=false)∨(r.2=0∧Ev (fun n=>zBn n a.S) true∧Ev (fun n=>zBn n b.S) true∧FmS a.S∧FmS b.S∧∃x y,Ev (fun n=>zEU n a.S) (x,0)∧Ev (fun n=>zEU n b.S) (y,0)∧WS x∧WS y∧KS x∧KS y∧(r.1=true↔x=y))) ?_ fun r hr=>?_
  ·unfold zH9
   obtain⟨va,ea,qa⟩:=zIv a.S wa
   obtain⟨vb,eb,qb⟩:=zIv b.S wb
   refine Tot.bind (A:=fun q=>q=false->va=true∧vb=true) (Tot.ev ea (Tot.ite (fun _=>Tot.pure fun h=>by cases h) fun h=>Tot.ev eb (Tot.pure fun h'=>⟨notF h,notF h'⟩))) fun q hq=>Tot.ite (fun _=>Tot.pure (.inl ⟨by decide,rfl⟩)) fun h=>?_
   obtain⟨rfl,rfl⟩:=hq h
   obtain⟨fa,za⟩:=qa rfl
   obtain⟨fb,zb⟩:=qb rfl
   obtain⟨⟨x,e1⟩,tx,qx⟩:=tame_T a.S fa za
   obtain⟨⟨y,e2⟩,ty,qy⟩:=tame_T b.S fb zb
   refine Tot.ev tx (Tot.ev ty (Tot.ite (fun _=>Tot.pure (.inl ⟨by decide,rfl⟩)) fun h=>?_))
   rw[Bool.or_eq_false_iff] at h
   obtain rfl:e1=0:=eqT (notF h.1)
   obtain rfl:e2=0:=eqT (notF h.2)
   obtain⟨wx,kx⟩:=qx rfl
   obtain⟨wy,ky⟩:=qy rfl
   exact Tot.bind (same_E x y kx ky) fun v hv=>Tot.pure (.inr ⟨rfl,ea,eb,fa,fb,x,y,tx,ty,wx,wy,kx,ky,hv⟩)
  rcases hr with ⟨hr,hr2⟩|⟨hr,ea,eb,fa,fb,x,y,tx,ty,wx,wy,kx,ky,hxy⟩
  ·refine Tot.bind (A:=fun q=>q=true) (Tot.ite (fun _=>Tot.pure rfl) fun h=>absurd (eqT (notF h)) hr) fun q hq=>Tot.ite (fun _=>?_) fun h=>by rw[hq] at h;cases h
   refine Tot.bind (A:=fun q=>q=true) (Tot.ite (fun _=>Tot.pure rfl) fun h=>?_) fun q hq=>Tot.pure hq
   rw[hr2] at h;cases h
  obtain⟨va,ra,qa⟩:=rformed_T a fa
  obtain⟨vb,rb,qb⟩:=rformed_T b fb
  refine Tot.bind (A:=fun q=>(q=true∧(va=false∨vb=false))∨(q=false∧va=true∧vb=true)) ?_ fun q hq=>?_
  ·refine Tot.ite (fun h=>absurd hr (eqF (notT h))) fun _=>Tot.ev ra (Tot.ite (fun h=>Tot.pure (.inl ⟨rfl,.inl (notT h)⟩)) fun h=>Tot.ev rb (Tot.pure ?_))
   cases vb with
   |true=>exact .inr ⟨rfl,notF h,rfl⟩
   |false=>exact .inl ⟨rfl,.inr rfl⟩
  rcases hq with ⟨rfl,hq⟩|⟨rfl,rfl,rfl⟩
  ·refine Tot.ite (fun _=>?_) fun h=>by cases h
   refine Tot.bind (A:=fun q=>q=true) (Tot.ite (fun _=>Tot.pure rfl) fun _=>Tot.ev ra (Tot.ite (fun _=>Tot.pure rfl) fun h=>Tot.ev rb (Tot.pure ?_))) fun q hq=>Tot.pure hq
   rcases hq with hq|hq
   ·rw[hq] at h;cases h
   ·rw[hq];rfl
  refine Tot.ite (fun h=>by cases h) fun _=>?_
  obtain⟨ka1,ka2⟩:=qa rfl
  obtain⟨kb1,kb2⟩:=qb rfl
  obtain⟨u,eu,hu⟩:=cabs_T a ka1 ka2 wa ea x wx kx tx
  obtain⟨w,ew,hw⟩:=cabs_T b kb1 kb2 wb eb y wy ky ty
  refine Tot.ev eu (Tot.ev ew (Tot.ite (fun _=>Tot.pure rfl) fun h=>?_))
  rw[Bool.or_eq_false_iff] at h
  rcases hu with hu|⟨u0,ux,uu,ui,⟨t,ut,um,us⟩,uk⟩
  ·exact absurd hu (eqF h.1)
  rcases hw with hw|⟨w0,wx',wu,wi,⟨t',wv,wm,ws⟩,wk⟩
  ·exact absurd hw (eqF h.2)
  refine Tot.ite (fun h=>?_) fun _=>?_
  ·rw[u0,w0] at h;cases h
  rw[<-hks] at wi wv wm wk wu
  refine Tot.ite (fun h=>?_) fun h=>?_
  ·obtain rfl:=hxy.1 h
   have e1:u.2.1=w.2.1:=Ev.uniq ui wi
   rw[<-e1] at wv wk
   have e2:u.1.S=w.1.S:=by rw[us,ws];exact Ev.uniq ut wv
   have e3:u.1.Kinds=w.1.Kinds:=by rw[uk,wk]
   refine Tot.bind (A:=fun q=>q=true) (Tot.bind (rabs_E _ _) fun v hv=>Tot.ite (fun _=>Tot.bind (ints_E _ _) fun z hz=>Tot.pure (hz.2 e1)) fun h=>?_) fun q hq=>Tot.pure hq
   rw[hv.2 ⟨e3,e2⟩] at h;cases h
  ·refine Tot.bind (A:=fun q=>q=true) (Tot.bind (rabs_E _ _) fun v hv=>Tot.ite (fun _=>Tot.pure rfl) fun h1=>Tot.bind (ints_E _ _) fun z hz=>Tot.ite (fun _=>Tot.pure rfl) fun h2=>Tot.pure ?_) fun q hq=>Tot.pure hq
   have e1:=hv.1 (notF h1)
   have e2:=hz.1 (notF h2)
   by_cases hlt:(u.2.1.length:Int)<a.Kinds.length
   ·exact zqb hlt
   ·exfalso
    have hi:Inj (toI a.Kinds.length u.2.1):=toI_inj uu (by omega)
    rw[<-e2] at wm
    have e3:t=t':=by rw[<-us,<-ws];exact e1.2
    rw[<-e3] at wm
    have:=um.inj hi y wm
    rw[hxy.2 this] at h;cases h
 obtain⟨r,⟨N,hN⟩,rfl⟩:=key
 exact⟨N,hN N (Nat.le_refl _)⟩
end Go.Proofs.YtkdhppfdiagglaaGreatDoor
