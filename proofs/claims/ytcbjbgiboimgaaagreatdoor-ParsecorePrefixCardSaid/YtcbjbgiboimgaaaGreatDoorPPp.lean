/- For every input the law ParsecorePrefix returns true. Part 16 of 22. No condition. -/
import Derived.Test.YtcbjbgiboimgaaaGreatDoorPPo
set_option linter.unusedVariables false
set_option linter.unnecessarySimpa false
set_option linter.unusedSimpArgs false
set_option maxRecDepth 100000
set_option maxHeartbeats 1000000
namespace Go.Proofs.YtcbjbgiboimgaaaGreatDoor
open Go Go.Abs
theorem cat_some(op:Int): ∃c,zDf op=some c:=by
 unfold zDf
 repeat' first
  |exact⟨_,rfl⟩
  |apply ex_ite
def bl(cat:Int)(t:zKZ):Bool:=(zBQ cat t).getD false
theorem bl_eq(cat:Int)(t:zKZ):zBQ cat t=some (bl cat t):=by
 have: ∃b,zBQ cat t=some b:=by
  unfold zBQ
  obtain⟨c,hc⟩:=cat_some t.Op
  rw[hc]
  split
  ·exact⟨_,rfl⟩
  ·split<;>exact⟨_,rfl⟩
 obtain⟨b,h⟩:=this
 simp only[bl,h,Option.getD_some]
theorem many1_eq(s:List zKZ)(c:Int)(n:Nat): ∀k i,zAs s c k i=IX (fun _ x=>some (!bl c x)) s n k i
 |0,_=>rfl
 |k+1,i=>by simp only[zAs,zE4,bl_eq,IX,Option.bind_some,many1_eq s c n k]
theorem many_any(l:List zKZ)(c:Int):Ev (fun n=>zA6 n l c) (l.any fun x=> !bl c x):=by
 have e: ∀n,zA6 n l c=((IX (fun _ x=>some (!bl c x)) l n n 0).bind fun o=>Sum.elim some (fun _=>some (-1)) o).bind (fun v=>some (leI 0 v)):=fun n=>by
  simp only[zA6,zCE,many1_eq l c n]
 exact(IX_ev (fun x _=>Ev.const _)).congr e
theorem many_ev(l:List zKZ)(c a b:Int):Ev (fun n=>zCQ n l c a b) (leI a (l.length:Int)&&(leI (l.length:Int) b&&l.all fun x=>bl c x)):=by
 simp only[zCQ]
 cases h1:leI a (l.length:Int) with
 |false=>exact Ev.const _
 |true=>
  cases h2:leI (l.length:Int) b with
  |false=>exact Ev.const _
  |true=>
   have:(l.all fun x=>bl c x)= !(l.any fun x=> !bl c x):=by simp[List.all_eq_not_any_not]
   simp only[if_true,Bool.true_and,this]
   exact Ev.map (fun v=>v) (Ev.map (fun v=> !v) (many_any l c))
theorem parts_AL(t:zKZ)(cs:List Int)(n:Nat): ∀k i,zCm t cs k i=AL (fun _ i=>(cs[i]?).bind fun x=>(t.L[i]?).bind fun y=>some (!bl x y)) cs.length n k i
 |0,_=>rfl
 |k+1,i=>by simp only[zCm,bl_eq,AL,Option.bind_assoc,Option.bind_some,parts_AL t cs n k]
theorem parts_ev(t:zKZ)(cs:List Int)(h:t.L.length=cs.length):Ev (fun n=>zAj n t cs) (!((List.range' 0 cs.length).any fun i=> !bl (cs.getD i 0) (t.L.getD i (zKZ.mk 0 0 [] [] [])))):=by
 have h1:(eqI (t.L.length:Int) (cs.length:Int))=true:=zqb (by omega)
 simp only[zAj,h1,Bool.not_true,Bool.false_eq_true,if_false]
 have e: ∀n,zCm t cs n 0=AL (fun _ i=>(cs[i]?).bind fun x=>(t.L[i]?).bind fun y=>some (!bl x y)) cs.length n n 0:=fun n=>parts_AL t cs n n 0
 simp only[e]
 refine Ev.bind (AL_ev (q:=fun i=> !bl (cs.getD i 0) (t.L.getD i (zKZ.mk 0 0 [] [] []))) fun i hi=>?_) ?_
 ·have:(cs[i]?).bind (fun x=>(t.L[i]?).bind fun y=>some (!bl x y))=some (!bl (cs.getD i 0) (t.L.getD i (zKZ.mk 0 0 [] [] []))):=by
   rw[zq2 hi,zq2 (by omega:i<t.L.length)]
   simp[zq5,hi,(by omega:i<t.L.length)]
  rw[this];exact Ev.const _
 ·cases(List.range' 0 cs.length).any fun i=> !bl (cs.getD i 0) (t.L.getD i (zKZ.mk 0 0 [] [] []))<;>exact Ev.const _
theorem parts_no(t:zKZ)(cs:List Int)(h:t.L.length≠cs.length):Ev (fun n=>zAj n t cs) false:=by
 have h1:(eqI (t.L.length:Int) (cs.length:Int))=false:=decide_eq_false (by omega)
 simp only[zAj,h1,Bool.not_false,if_true]
 exact Ev.const _
theorem parts_cv(t:zKZ)(cs:List Int):Cv fun n=>zAj n t cs:=by
 by_cases h:t.L.length=cs.length
 ·exact⟨_,parts_ev t cs h⟩
 ·exact⟨_,parts_no t cs h⟩
theorem idxint_eq(s:List Int)(v:Int)(n:Nat): ∀k i,zCO s v k i=IX (fun _ x=>some (eqI v x)) s n k i
 |0,_=>rfl
 |k+1,i=>by simp only[zCO,IX,Option.bind_some,idxint_eq s v n k]
theorem contInt_ev(s:List Int)(v:Int):Ev (fun n=>zCj n s v) (s.any fun x=>eqI v x):=by
 have e: ∀n,zCj n s v=((IX (fun _ x=>some (eqI v x)) s n n 0).bind fun o=>Sum.elim some (fun _=>some (-1)) o).bind (fun v=>some (leI 0 v)):=fun n=>by
  simp only[zCj,zDx,idxint_eq s v n]
 exact(IX_ev (fun x _=>Ev.const _)).congr e
theorem only1_eq(s:List zKZ)(c:List Int)(n:Nat): ∀k i,zAr n s c k i=IX (fun n x=>zD6 n x c) s n k i
 |0,_=>rfl
 |k+1,i=>by simp only[zAr,IX,only1_eq s c n k]
theorem only_ev(l:List zKZ)(c:List Int):Ev (fun n=>zCa n l c) (!(l.any fun x=> !(c.any fun o=>eqI x.Op o))):=by
 simp only[zCa]
 refine Ev.map (fun v=> !v) ?_
 have e: ∀n,zBR n l c=((IX (fun n x=>zD6 n x c) l n n 0).bind fun o=>Sum.elim some (fun _=>some (-1)) o).bind (fun v=>some (leI 0 v)):=fun n=>by
  simp only[zBR,zCD,only1_eq l c n]
 exact(IX_ev (q:=fun x=> !(c.any fun o=>eqI x.Op o)) (fun x _=>Ev.map (fun v=> !v) (contInt_ev c x.Op))).congr e
theorem diff1_eq(s:List zKZ)(w:zKZ)(n:Nat): ∀k i,zAn s w k i=IX (fun _ x=>some (eqS w.S x.S)) s n k i
 |0,_=>rfl
 |k+1,i=>by simp only[zAn,zEE,IX,Option.bind_some,diff1_eq s w n k]
theorem diff1_cv(l:List zKZ)(w:zKZ):Cv fun n=>zAp n l w:=by
 have e: ∀n,zAp n l w=((IX (fun _ x=>some (eqS w.S x.S)) l n n 0).bind fun o=>Sum.elim some (fun _=>some (-1)) o).bind (fun v=>some (leI 0 v)):=fun n=>by
  simp only[zAp,zBt,diff1_eq l w n]
 simp only[e]
 exact any_cv fun x _=>.const
theorem differ_AL(l:List zKZ)(n:Nat): ∀k i,zCu n l k i=AL (fun n i=>(l[i]?).bind fun x=>(subC l 0 ((i:Nat):Int)).bind fun l13=>zAp n l13 x) l.length n k i
 |0,_=>rfl
 |k+1,i=>by simp only[zCu,AL,Option.bind_assoc,differ_AL l n k]
theorem differ_cv(l:List zKZ):Cv fun n=>zD8 n l:=by
 simp only[zD8,differ_AL]
 refine Cv.bind (AL_cv fun i hi=>Cv.get hi fun c _=>Cv.sub (by omega) (by omega) (by omega) (diff1_cv _ _)) fun o=>?_
 cases o<;>exact .const
theorem many_cv(l:List zKZ)(c a b:Int):Cv fun n=>zCQ n l c a b:=⟨_,many_ev l c a b⟩
theorem only_cv(l:List zKZ)(c:List Int):Cv fun n=>zCa n l c:=⟨_,only_ev l c⟩
theorem shape_cv(t:zKZ):Cv fun n=>zDS n t:=by
 simp only[zDS,bl_eq]
 repeat' first
  |with_reducible exact .const
  |with_reducible exact parts_cv _ _
  |with_reducible exact many_cv _ _ _ _
  |with_reducible exact only_cv _ _
  |with_reducible exact differ_cv _
  |with_reducible refine Cv.ite (fun _=>?_) fun _=>?_
  |(with_reducible refine Cv.get ?_ fun _ _=>?_;(simp only[leI,eqI,decide_eq_true_eq] at *;omega))
  |(with_reducible refine Cv.idx ?_ ?_ fun _ _=>?_;(simp only[leI,eqI,decide_eq_true_eq] at *;omega);omega)
  |(with_reducible refine Cv.sub ?_ ?_ ?_ ?_;(simp only[leI,eqI,decide_eq_true_eq] at *;omega);(simp only[leI,eqI,decide_eq_true_eq] at *;omega);omega)
  |with_reducible refine Cv.bind ?_ fun _=>?_
inductive WF:zKZ->Bool->Prop where
 |mk {t:zKZ} {w:Bool} (ho:Ev (fun n=>zDr n t w) true) (hs:Ev (fun n=>zDS n t) true) (h: ∀x∈t.L,WF x (eqI t.Op 74)):WF t w
mutual
def szT:zKZ->Nat
 |⟨_,_,_,_,l⟩=>1+szL l
def szL:List zKZ->Nat
 |[]=>0
 |x::l=>szT x+szL l
end
mutual
def dpT:zKZ->Nat
 |⟨_,_,_,_,l⟩=>1+dpL l
def dpL:List zKZ->Nat
 |[]=>0
 |x::l=>max (dpT x) (dpL l)
end
def FSt(t:zKZ):Prop:= ∀(d:Int)(w:Bool)(c:Nat),0<=d->d<=401->c<=20000->∃b c',Ev (fun n=>zBi n t d w (c:Int)) (b,c')∧
 ((b=true∧WF t w∧c'=((c+szT t:Nat):Int)∧c+szT t<=20000∧d+dpT t<=401)∨(b=false∧¬(WF t w∧c+szT t<=20000∧d+dpT t<=401)))
def FL(l:List zKZ):Prop:= ∀(s:List zKZ)(i:Nat),s.drop i=l->∀(d:Int)(p:zKZ)(c:Nat),0<=d->d<=400->c<=20000->
 ∃r N,(∀n k,N<=n->N<=k->zAX (zB6 n) s d p k (c:Int) i=some r)∧
  ((r=.inr ((c+szL l:Nat):Int)∧c+szL l<=20000∧d+1+dpL l<=401∧∀x∈l,WF x (eqI p.Op 74))∨
   ((∃(j:Nat) (c':Int),r=.inl ((j:Int),c'))∧¬(c+szL l<=20000∧d+1+dpL l<=401∧∀x∈l,WF x (eqI p.Op 74))))
theorem FL_nil:FL []:=fun s i hs d p c h1 h2 h3=>by
 refine⟨.inr ((c+szL []:Nat):Int),1,fun n k hn hk=>?_,.inl ⟨rfl,by simp only[szL];omega,by simp only[dpL];omega,fun x hx=>by cases hx⟩⟩
 obtain⟨k,rfl⟩: ∃k',k=k'+1:=⟨k-1,by omega⟩
 have hl:s.length<=i:=List.drop_eq_nil_iff.1 hs
 have h1:ltI (i:Int) (s.length:Int)=false:=by simp only[ltI,decide_eq_false_iff_not];omega
 rw[zAX,h1];rfl
theorem FL_cons{x:zKZ}{l:List zKZ}(hx:FSt x)(hl:FL l):FL (x::l):=fun s i hs d p c h1 h2 h3=>by
 have hi:i<s.length:=by
  rcases Nat.lt_or_ge i s.length with h|h
  ·exact h
  ·rw[List.drop_eq_nil_of_le h] at hs;cases hs
 have hs':=List.drop_eq_getElem_cons hi
 rw[hs] at hs'
 obtain⟨hx1,hl1⟩:=List.cons.inj hs'
 have hlt:ltI (i:Int) (s.length:Int)=true:=by simp only[ltI,decide_eq_true_eq];omega
 obtain⟨b,c',⟨N,hev⟩,hb⟩:=hx (d+1) (eqI p.Op 74) c (by omega) (by omega) h3
 have hc:chk .i64 (d+1)=some (d+1):=chkA (by omega) (by omega)
 have step: ∀n k,N+1<=n->zAX (zB6 n) s d p (k+1) (c:Int) i=if !b then some (.inl ((i:Int),c')) else zAX (zB6 n) s d p k c' (i+1):=fun n k hn=>by
  obtain⟨m,rfl⟩: ∃m,n=m+1:=⟨n-1,by omega⟩
  rw[zAX,hlt,if_pos rfl,zq2 hi,<-hx1]
  simp only[Option.bind_some]
  rw[zB6]
  simp only[hc,Option.bind_some,hev m (by omega)]
 rcases hb with ⟨rfl,hw,rfl,hsz,hdp⟩|⟨rfl,hno⟩
 ·obtain⟨r,N2,hr,ho⟩:=hl s (i+1) hl1.symm d p (c+szT x) h1 h2 hsz
  refine⟨r,max (N+1) (N2+1),fun n k hn hk=>?_,?_⟩
  ·obtain⟨k,rfl⟩: ∃k',k=k'+1:=⟨k-1,by omega⟩
   rw[step n k (by omega)]
   exact hr n k (by omega) (by omega)
  ·simp only[szL,dpL]
   rcases ho with ⟨rfl,a1,a2,a3⟩|⟨a1,a2⟩
   ·refine .inl ⟨by rw[Nat.add_assoc],by omega,by omega,fun y hy=>?_⟩
    rcases List.mem_cons.1 hy with rfl|hy
    ·exact hw
    ·exact a3 y hy
   ·exact .inr ⟨a1,fun g=>a2 ⟨by have:=g.1;omega,by have:=g.2.1;omega,fun y hy=>g.2.2 y (zqc _ hy)⟩⟩
 ·refine⟨.inl ((i:Int),c'),N+1,fun n k hn hk=>?_,.inr ⟨⟨i,c',rfl⟩,fun g=>hno ⟨g.2.2 x zq9,?_,?_⟩⟩⟩
  ·obtain⟨k,rfl⟩: ∃k',k=k'+1:=⟨k-1,by omega⟩
   rw[step n k (by omega)];rfl
  ·have:=g.1;simp only[szL] at this;omega
  ·have:=g.2.1;simp only[dpL] at this;omega
theorem FS_mk(t:zKZ)(hl:FL t.L):FSt t:=fun d w c h1 h2 h3=>by
 have hsz:szT t=1+szL t.L:=by cases t;rfl
 have hdp:dpT t=1+dpL t.L:=by cases t;rfl
 have hc:chk .i64 ((c:Int)+1)=some ((c+1:Nat):Int):=chkA (by omega) (by omega)
 have no: ∀(h:Ev (fun n=>(if ltI 20000 ((c+1:Nat):Int) then some true else if ltI 400 d then some true else (zDr n t w).bind fun v16=>if !v16 then some true else (zDS n t).bind fun v21=>some (!v21):Option Bool)) true),
  Ev (fun n=>zBi n t d w (c:Int)) (false,((c+1:Nat):Int)):=fun⟨N,h⟩=>⟨N+1,fun n hn=>by
  obtain⟨m,rfl⟩: ∃m,n=m+1:=⟨n-1,by omega⟩
  have:=h m (by omega)
  simp only at this
  show zBi (m+1) t d w (c:Int)=_
  rw[zBi,hc]
  simp only[Option.bind_some]
  rw[this];rfl⟩
 by_cases g1:20000<c+1
 ·refine⟨false,_,no ?_,.inr ⟨rfl,fun g=>by have:=g.2.1;omega⟩⟩
  rw[show ltI 20000 ((c+1:Nat):Int)=true from zqb (by omega)];exact Ev.const _
 have e1:ltI 20000 ((c+1:Nat):Int)=false:=decide_eq_false (by omega)
 by_cases g2:400<d
 ·refine⟨false,_,no ?_,.inr ⟨rfl,fun g=>by have:=g.2.2;omega⟩⟩
  rw[e1,show ltI 400 d=true from zqb (by omega)];exact Ev.const _
 have e2:ltI 400 d=false:=decide_eq_false (by omega)
 simp only[e1,e2,Bool.false_eq_true,if_false] at no
 rcases(own_cv t w).bool with ho|ho
 case inr=>exact⟨false,_,no (ho.bind (Ev.const _)),.inr ⟨rfl,fun g=>by
  cases g.1 with
  |mk a _ _=>cases a.unique ho⟩⟩
 rcases(shape_cv t).bool with hs|hs
 case inr=>exact⟨false,_,no (ho.bind (hs.bind (Ev.const _))),.inr ⟨rfl,fun g=>by
  cases g.1 with
  |mk _ a _=>cases a.unique hs⟩⟩
 obtain⟨r,N,hr,hout⟩:=hl t.L 0 (List.drop_zero) d t (c+1) h1 (by omega) (by omega)
 obtain⟨No,ho'⟩:=ho
 obtain⟨Ns,hs'⟩:=hs
 have main: ∀n,N+No+Ns+10<=n->zBi n t d w (c:Int)=((Sum.elim some (fun o7=>some ((-1:Int),o7)) r:Option (Int×Int)).bind fun v5=>some (leI 0 v5.1,v5.2)).bind fun v26=>some (!v26.1,v26.2):=fun n hn=>by
  obtain⟨m,rfl⟩: ∃m,n=m+3:=⟨n-3,by omega⟩
  rw[zBi,hc]
  simp only[Option.bind_some,e1,e2,Bool.false_eq_true,if_false]
  rw[show zDr (m+2) t w=some true from ho' (m+2) (by omega)]
  simp only[Option.bind_some,Bool.not_true,Bool.false_eq_true,if_false]
  rw[show zDS (m+2) t=some true from hs' (m+2) (by omega)]
  simp only[Option.bind_some,Bool.not_true,Bool.false_eq_true,if_false]
  rw[zBA,zBM,hr m m (by omega) (by omega)]
  rfl
 rcases hout with ⟨rfl,a1,a2,a3⟩|⟨⟨j,c',rfl⟩,a2⟩
 ·refine⟨true,((c+1+szL t.L:Nat):Int),⟨_,fun n hn=>(main n hn).trans rfl⟩,.inl ⟨rfl,.mk ⟨No,ho'⟩ ⟨Ns,hs'⟩ a3,by rw[hsz,Nat.add_assoc],by omega,by omega⟩⟩
 ·refine⟨false,c',⟨_,fun n hn=>(main n hn).trans ?_⟩,.inr ⟨rfl,fun g=>a2 ⟨by have:=g.2.1;omega,by have:=g.2.2;omega,?_⟩⟩⟩
  ·simp only[Sum.elim_inl,Option.bind_some]
   rw[show leI 0 (j:Int)=true from zqb (by omega)];rfl
  ·cases g.1 with
   |mk _ _ h=>exact h
mutual
theorem FS_all: ∀t,FSt t
 |⟨a,b,c,d,l⟩=>FS_mk ⟨a,b,c,d,l⟩ (FL_all l)
theorem FL_all: ∀l,FL l
 |[]=>FL_nil
 |x::l=>FL_cons (FS_all x) (FL_all l)
end
theorem Valid_ev(cat:Int)(t:zKZ): ∃b,Ev (fun n=>zCx n cat t) b∧(b=true↔bl cat t=true∧WF t false∧szT t<=20000∧dpT t<=400):=by
 simp only[zCx,bl_eq,zE5]
 cases hb:bl cat t with
 |false=>exact⟨false,Ev.const _,by simp⟩
 |true=>
  obtain⟨b,c',hev,ho⟩:=FS_all t 1 false 0 (by decide) (by decide) (by decide)
  refine⟨b,?_,?_⟩
  ·simp only[Option.bind_some,if_true]
   exact((hev.bind (Ev.const b)).bind (Ev.const b)).bind (Ev.const b)
  ·rcases ho with ⟨rfl,a1,a2,a3,a4⟩|⟨rfl,a1⟩
   ·exact⟨fun _=>⟨rfl,a1,by omega,by omega⟩,fun _=>rfl⟩
   ·exact⟨fun h=>(by cases h),fun g=>(a1 ⟨g.2.1,by omega,by omega⟩).elim⟩
def Ate{α:Type}(r:Nat):α->Nat->Prop:=fun _ r'=>r'+1<=r∧1<=r'
section
variable {α β:Type} {r:Nat} {Q:β->Nat->Prop}
theorem zB5{x:PT α}{f:α->PT β}(h:x.wp r (Ate r))(hf: ∀a r',r'+1<=r->1<=r'->(f a).wp r' Q):(x.bind f).wp r Q:=
 PT.wp_bindQ h fun a r' ha=>hf a r' ha.1 ha.2
theorem kd_I{n:Int}{x y:PT β}(h0:y.wp r Q)(h1:(n≠8->2<=r)->x.wp r Q):(PT.kd n fun b=>if b then x else y).wp r Q:=⟨h0,h1⟩
theorem kd_N{n:Int}{x y:PT β}(h0:x.wp r Q)(h1:(n≠8->2<=r)->y.wp r Q):(PT.kd n fun b=>if !b then x else y).wp r Q:=⟨h0,h1⟩
theorem zGJ{s:List UInt8}{x y:PT β}(h0:y.wp r Q)(h1:2<=r->x.wp (r-1) Q):((T.skip s).bind fun b=>if b then x else y).wp r Q:=⟨h0,fun h=>⟨h,fun _ _=>h1 h⟩⟩
theorem skip_N{s:List UInt8}{x y:PT β}(h0:x.wp r Q)(h1:2<=r->y.wp (r-1) Q):((T.skip s).bind fun b=>if !b then x else y).wp r Q:=⟨h0,fun h=>⟨h,fun _ _=>h1 h⟩⟩
theorem zDk{s:List UInt8}{f:Unit->PT β}(h1:2<=r->(f ()).wp (r-1) Q):((T.want s).bind f).wp r Q:=⟨trivial,fun h=>⟨h,fun _ _=>h1 h⟩⟩
theorem zFe{n:Int}(hn:n≠8){f:List UInt8->PT β}(h1:2<=r->∀t:List UInt8,t.length<=20000->(f t).wp (r-1) Q):((T.name n).bind f).wp r Q:=⟨trivial,fun h=>⟨h hn,fun t ht=>h1 (h hn) t ht⟩⟩
theorem named_I{x y:PT β}(h0:y.wp r Q)(h1:2<=r->x.wp r Q):(T.named.bind fun b=>if b then x else y).wp r Q:=⟨⟨h0,fun h=>h1 (h (by decide))⟩,fun h=>h1 (h (by decide))⟩
theorem begins_I{x y:PT β}(h0:y.wp r Q)(h1:2<=r->x.wp r Q):(T.begins.bind fun b=>if b then x else y).wp r Q:=
 ⟨⟨⟨⟨⟨⟨⟨h0,h1⟩,h1⟩,h1⟩,fun h=>h1 (h (by decide))⟩,fun h=>h1 (h (by decide))⟩,fun h=>h1 (h (by decide))⟩,fun h=>h1 (h (by decide))⟩
theorem ofO_wp{o:Option α}{a:α}(h:o=some a){f:α->PT β}(hf:(f a).wp r Q):((PT.ofO o).bind f).wp r Q:=by subst h;exact hf
theorem app80{x:List zKZ}{v:zKZ}(hx:x.length<=100000){f:List zKZ->PT β}(hf:(f (x++[v])).wp r Q):((PT.ofO (app 80 x [v])).bind f).wp r Q:=
 ofO_wp (appA (by decide) (by simp only[List.length_cons,List.length_nil];omega)) hf
theorem app16{x:Nms}{v:List UInt8}(hx:x.length<=100000){f:Nms->PT β}(hf:(f (x++[v])).wp r Q):((PT.ofO (app 16 x [v])).bind f).wp r Q:=
 ofO_wp (appA (by decide) (by simp only[List.length_cons,List.length_nil];omega)) hf
theorem ops_wp{n:Int}{f:Int->PT β}(h0:(f 0).wp r Q): ∀L:List (Int×List UInt8×Int),(2<=r->∀q∈L,eqI n q.1=true->(f q.2.2).wp r Q)->((T.ops n L).bind f).wp r Q
 |[],h=>h0
 |q::L,h=>by
  have ih:=ops_wp h0 L fun h2 q hq=>h h2 q (zqc _ hq)
  rw[T.ops]
  split
  ·rename_i hn
   exact⟨ih,fun h2=>h h2 q zq9 hn⟩
  ·exact ih
end
theorem path_l1_wp(cap:Bool): ∀k x r,r<=k->1<=r->x.length+r<=40000->(T.path_l1 cap k x).wp r fun a r'=>Sum.elim (fun _=>r'+1<=r∧1<=r') (fun l=>r'<=r∧1<=r'∧l.length+r'<=40000) a
 |0,x,r,h1,h2,h3=>by omega
 |k+1,x,r,h1,h2,h3=>by
  rw[T.path_l1]
  refine kd_I ⟨by omega,h2,h3⟩ fun h=>zFe (by decide) fun h4 t ht=>app16 (by omega) ?_
  have nx:((T.want [46]).bind fun _=>T.path_l1 cap k (x++[t])).wp (r-1) fun a r'=>Sum.elim (fun _=>r'+1<=r∧1<=r') (fun l=>r'<=r∧1<=r'∧l.length+r'<=40000) a:=by
   refine zDk fun h5=>PT.wp_mono (fun a r' ha=>?_) _ _ (path_l1_wp cap k (x++[t]) (r-1-1) (by omega) (by omega) (by simp only[List.length_append,List.length_cons,List.length_nil];omega))
   cases a with
   |inl a=>exact⟨by have:=ha.1;omega,ha.2⟩
   |inr a=>exact⟨by have:=ha.1;omega,ha.2⟩
  cases cap with
  |false=>exact nx
  |true=>exact⟨⟨by omega,by omega⟩,fun _=>nx⟩
theorem path_wp(fuel:Nat)(cap:Bool){r:Nat}(h:r<=fuel)(h1:1<=r)(h2:r<=20000):(T.path fuel cap).wp r (Ate r):=by
 refine PT.wp_bindQ (path_l1_wp cap fuel [] r h h1 (by simp only[List.length_nil];omega)) fun a r' ha=>?_
 cases a with
 |inl a=>exact ha
 |inr l=>
  obtain⟨h3,h4,h5⟩:=ha
  exact zFe (by decide) fun h6 t ht=>app16 (by omega) ⟨by omega,by omega⟩
theorem zHc(fuel:Nat)(x:List zKZ){r:Nat}(h:r<=fuel)(h1:1<=r)(h2:r<=20000):(T.typePath fuel x).wp r (Ate r):=
 zB5 (path_wp fuel false h h1 h2) fun a r' h3 h4=>⟨h3,h4⟩
theorem mods_l1_wp: ∀k x r,r<=k->1<=r->x.length+r<=40000->(T.mods_l1 k x).wp r fun _ r'=>r'<=r∧1<=r'
 |0,x,r,h1,h2,h3=>by omega
 |k+1,x,r,h1,h2,h3=>by
  rw[T.mods_l1]
  refine zGJ ⟨by omega,h2⟩ fun h=>zFe (by decide) fun h4 t ht=>app16 (by omega) ?_
  exact PT.wp_mono (fun a r' ha=>⟨by have:=ha.1;omega,ha.2⟩) _ _ (mods_l1_wp k (x++[t]) (r-1-1) (by omega) (by omega) (by simp only[List.length_append,List.length_cons,List.length_nil];omega))
theorem zJf(fuel:Nat){r:Nat}(h:r<=fuel)(h1:1<=r)(h2:r<=20000):(T.mods fuel).wp r (Ate r):=by
 refine zFe (by decide) fun h4 t ht=>PT.wp_mono (fun a r' ha=>⟨by have:=ha.1;omega,ha.2⟩) _ _ (mods_l1_wp fuel [t] (r-1) (by omega) (by omega) (by simp only[List.length_cons,List.length_nil];omega))
theorem sep_wp(s:List UInt8){F:PT zKZ}(R:Nat)(hF: ∀r,1<=r->r<=R->F.wp r (Ate r)): ∀k x r,r<=k->1<=r->r<=R+1->x.length+r<=40000->(T.sep s F k x).wp r fun l r'=>r'<=r∧1<=r'∧x.length<=l.length∧l.length<=40000
 |0,x,r,h1,h2,h4,h3=>by omega
 |k+1,x,r,h1,h2,h4,h3=>by
  rw[T.sep]
  refine zGJ ⟨by omega,h2,by omega,by omega⟩ fun h=>zB5 (hF _ (by omega) (by omega)) fun v r' h5 h6=>app80 (by omega) ?_
  refine PT.wp_mono (fun a r' ha=>?_) _ _ (sep_wp s R hF k (x++[v]) r' (by omega) (by omega) (by omega) (by simp only[List.length_append,List.length_cons,List.length_nil];omega))
  obtain⟨a1,a2,a3,a4⟩:=ha
  simp only[List.length_append,List.length_cons,List.length_nil] at a3
  exact⟨by omega,a2,by omega,a4⟩
theorem zHV{α:Type}{l:List α}(h:1<=l.length): ∃a,l[0]? =some a:=⟨_,zq2 h⟩
theorem zH9(fuel:Nat): ∀k t r,r<=k->r<=fuel->1<=r->r<=20000->(T.pfx_l1 fuel k t).wp r fun _ r'=>r'<=r∧1<=r'
 |0,t,r,h1,h2,h3,h4=>by omega
 |k+1,t,r,h1,h2,h3,h4=>by
  rw[T.pfx_l1]
  exact named_I ⟨by omega,h3⟩ fun h5=>zB5 (zHc fuel _ h2 h3 h4) fun u r' h6 h7=>PT.wp_mono (fun a r' ha=>⟨by have:=ha.1;omega,ha.2⟩) _ _ (zH9 fuel k u r' (by omega) (by omega) h7 (by omega))
theorem types_wp: ∀fuel,(∀r,30*r+1<=fuel->1<=r->r<=20000->(T.simple fuel).wp r (Ate r))∧(∀r,30*r+2<=fuel->1<=r->r<=20000->(T.pfx fuel).wp r (Ate r))∧
 (∀r,30*r+3<=fuel->1<=r->r<=20000->(T.product fuel).wp r (Ate r))∧(∀r,30*r+4<=fuel->1<=r->r<=20000->(T.typ fuel).wp r (Ate r))
 |0=>⟨fun r h=>by omega,fun r h=>by omega,fun r h=>by omega,fun r h=>by omega⟩
 |fuel+1=>by
  obtain⟨h1,h2,h3,h4⟩:=types_wp fuel
  refine⟨fun r hf hr hm=>?_,fun r hf hr hm=>?_,fun r hf hr hm=>?_,fun r hf hr hm=>?_⟩
  ·rw[T.simple]
   refine kd_I ?_ fun h=>zFe (by decide) fun h5 t ht=>⟨by omega,by omega⟩
   refine skip_N (zB5 (zHc fuel _ (by omega) hr hm) fun v r' h5 h6=>⟨h5,h6⟩) fun h5=>?_
   refine zGJ ?_ fun h6=>zB5 (zJf fuel (by omega) (by omega) (by omega)) fun l r' h7 h8=>zDk fun h9=>⟨by omega,by omega⟩
   refine zB5 (h4 _ (by omega) (by omega) (by omega)) fun t r' h7 h8=>?_
   refine PT.wp_bindQ (sep_wp [44] (r-1) (fun q hq hq2=>h4 q (by omega) hq (by omega)) fuel [t] r' (by omega) h8 (by omega) (by simp only[List.length_cons,List.length_nil];omega)) fun l r'' hl=>?_
   obtain⟨l1,l2,l3,l4⟩:=hl
   refine zDk fun h9=>?_
   split
   ·obtain⟨a,ha⟩:=zHV (l:=l) (by simpa using l3)
    exact ofO_wp ha ⟨by omega,by omega⟩
   ·exact zB5 (zHc fuel _ (by omega) (by omega) (by omega)) fun v r' h5 h6=>⟨by omega,h6⟩
  ·rw[T.pfx]
   refine zB5 (h1 _ (by omega) hr hm) fun t r' h7 h8=>PT.wp_bindQ (zH9 fuel fuel t r' (by omega) (by omega) h8 (by omega)) fun a r'' ha=>⟨by have:=ha.1;omega,ha.2⟩
  ·rw[T.product]
   refine zB5 (h2 _ (by omega) hr hm) fun t r' h7 h8=>PT.wp_bindQ (sep_wp [42] (r-1) (fun q hq hq2=>h2 q (by omega) hq (by omega)) fuel [t] r' (by omega) h8 (by omega) (by simp only[List.length_cons,List.length_nil];omega)) fun l r'' hl=>?_
   obtain⟨l1,l2,l3,l4⟩:=hl
   split
   ·obtain⟨a,ha⟩:=zHV (l:=l) (by simpa using l3)
    exact ofO_wp ha ⟨by omega,by omega⟩
   ·exact⟨by omega,l2⟩
  ·rw[T.typ]
   refine zB5 (h3 _ (by omega) hr hm) fun t r' h7 h8=>zGJ ⟨by omega,h8⟩ fun h9=>zB5 (h4 _ (by omega) (by omega) (by omega)) fun u r'' h5 h6=>⟨by omega,h6⟩
theorem zKA(fuel:Nat){β:Type}{r:Nat}{Q:β->Nat->Prop}{f:Int->PT β}(h:20001<=fuel)(hf:2<=r->∀n:Int,-4503599627370496<=-n->-n<=0->(f n).wp (r-1) Q):((T.number fuel).bind f).wp r Q:=by
 unfold T.number
 rw[PT.bind_assoc]
 refine zFe (by decide) fun h2 t ht=>?_
 obtain⟨v,hv,h3,h4⟩:=zKK t ht (fuel:=fuel) (by omega)
 rw[PT.bind_assoc]
 exact ofO_wp hv (hf h2 v.1 h3 h4)
theorem pats_wp: ∀fuel,(∀r,30*r+20001<=fuel->1<=r->r<=20000->(T.argument fuel).wp r (Ate r))∧(∀r,30*r+20002<=fuel->1<=r->r<=20000->(T.pattern fuel).wp r (Ate r))
 |0=>⟨fun r h=>by omega,fun r h=>by omega⟩
 |fuel+1=>by
  obtain⟨h1,h2⟩:=pats_wp fuel
  refine⟨fun r hf hr hm=>?_,fun r hf hr hm=>?_⟩
  ·rw[T.argument]
   refine zGJ ?_ fun h=>⟨by omega,by omega⟩
   refine zGJ ?_ fun h=>zKA fuel (by omega) fun h5 n h6 h7=>ofO_wp (chkA (by omega) (by omega)) ⟨by omega,by omega⟩
   refine kd_I ?_ fun h=>zKA fuel (by omega) fun h5 n h6 h7=>⟨by omega,by omega⟩
   refine kd_I ?_ fun h=>zFe (by decide) fun h5 t ht=>⟨by omega,by omega⟩
   refine kd_I ?_ fun h=>zB5 (zJf fuel (by omega) (by omega) (by omega)) fun l r' h7 h8=>⟨h7,h8⟩
   refine zDk fun h5=>zGJ ?_ fun h6=>⟨by omega,by omega⟩
   refine zB5 (h2 _ (by omega) (by omega) (by omega)) fun t r' h7 h8=>?_
   refine PT.wp_bindQ (sep_wp [44] (r-1) (fun q hq hq2=>h2 q (by omega) hq (by omega)) fuel [t] r' (by omega) h8 (by omega) (by simp only[List.length_cons,List.length_nil];omega)) fun l r'' hl=>?_
   obtain⟨l1,l2,l3,l4⟩:=hl
   refine zDk fun h9=>?_
   split
   ·obtain⟨a,ha⟩:=zHV (l:=l) (by simpa using l3)
    exact ofO_wp ha ⟨by omega,by omega⟩
   ·exact⟨by omega,by omega⟩
  ·rw[T.pattern]
   refine kd_N (zB5 (h1 _ (by omega) hr hm) fun t r' h7 h8=>⟨h7,h8⟩) fun h=>zB5 (zJf fuel (by omega) (by omega) (by omega)) fun l r' h7 h8=>?_
   have no:(PT.ret (zKZ.mk 14 0 [] l []):PT zKZ).wp r' (Ate r):=⟨h7,h8⟩
   have yes:((T.argument fuel).bind fun t=>PT.ret (zKZ.mk 14 0 [] l [t])).wp r' (Ate r):=zB5 (h1 _ (by omega) h8 (by omega)) fun t r'' h5 h6=>⟨by omega,h6⟩
   exact⟨⟨⟨⟨⟨⟨no,fun _=>yes⟩,fun _=>yes⟩,fun _=>yes⟩,fun _=>yes⟩,fun _=>yes⟩,fun _=>yes⟩
theorem zIx(fuel:Nat){F:PT zKZ}(R:Nat)(hF: ∀r,1<=r->r<=R->F.wp r (Ate r))(hP: ∀r,1<=r->r<=R->(T.pattern fuel).wp r (Ate r)): ∀k x r,r<=k->1<=r->r<=R->x.length+r<=40000->(T.choice_l1 fuel F k x).wp r fun _ r'=>r'<=r∧1<=r'
 |0,x,r,h1,h2,h4,h3=>by omega
 |k+1,x,r,h1,h2,h4,h3=>by
  rw[T.choice_l1]
  refine zB5 (hP _ h2 h4) fun p r1 a1 b1=>zDk fun c1=>zB5 (hF _ (by omega) (by omega)) fun v r2 a2 b2=>app80 (by simp) (app80 (by omega) (skip_N (zDk fun c2=>⟨by omega,by omega⟩) fun c3=>?_))
  exact PT.wp_mono (fun a r' ha=>⟨by have:=ha.1;omega,ha.2⟩) _ _ (zIx fuel R hF hP k _ (r2-1) (by omega) (by omega) (by omega) (by simp only[List.length_append,List.length_cons,List.length_nil];omega))
theorem zHS{F:PT zKZ}(R:Nat)(hF: ∀r,1<=r->r<=R->F.wp r (Ate r)): ∀k x r,r<=k->1<=r->r<=R->(T.negation_l1 F k x).wp r fun _ r'=>r'<=r∧1<=r'
 |0,x,r,h1,h2,h4=>by omega
 |k+1,x,r,h1,h2,h4=>by
  rw[T.negation_l1]
  exact begins_I ⟨by omega,h2⟩ fun h=>zB5 (hF _ h2 h4) fun v r1 a1 b1=>PT.wp_mono (fun a r' ha=>⟨by have:=ha.1;omega,ha.2⟩) _ _ (zHS R hF k _ r1 (by omega) b1 (by omega))
theorem decl_l1_wp: ∀k x r,r<=k->1<=r->x.length+r<=40000->(T.decl_l1 k x).wp r fun _ r'=>r'<=r∧1<=r'
 |0,x,r,h1,h2,h3=>by omega
 |k+1,x,r,h1,h2,h3=>by
  rw[T.decl_l1]
  refine kd_I ⟨by omega,h2⟩ fun h=>zFe (by decide) fun h4 t ht=>app16 (by omega) ?_
  exact PT.wp_mono (fun a r' ha=>⟨by have:=ha.1;omega,ha.2⟩) _ _ (decl_l1_wp k (x++[t]) (r-1) (by omega) (by omega) (by simp only[List.length_append,List.length_cons,List.length_nil];omega))
theorem let_l1_wp{F:PT zKZ}(R:Nat)(hF: ∀r,1<=r->r<=R->F.wp r (Ate r)): ∀k x r,r<=k->1<=r->r<=R->x.length+r<=40000->(T.let_l1 F k x).wp r fun l r'=>r'<=r∧1<=r'∧l.length<=40000
 |0,x,r,h1,h2,h4,h3=>by omega
 |k+1,x,r,h1,h2,h4,h3=>by
  rw[T.let_l1]
  refine skip_N (zB5 (hF _ h2 h4) fun v r1 a1 b1=>app80 (by omega) ?_) fun h=>⟨by omega,by omega,by omega⟩
  exact PT.wp_mono (fun a r' ha=>⟨by have:=ha.1;omega,ha.2⟩) _ _ (let_l1_wp R hF k (x++[v]) r1 (by omega) (by omega) (by omega) (by simp only[List.length_append,List.length_cons,List.length_nil];omega))
theorem zJi{F:Int->PT zKZ}(n:Int)(R:Nat)(hF: ∀r m,(m=n∨m=n+1)->1<=r->r<=R->(F m).wp r (Ate r)): ∀k x r,r<=k->1<=r->r<=R+1->(T.level_l1 F n (n+1) k x).wp r fun _ r'=>r'<=r∧1<=r'
 |0,x,r,h1,h2,h4=>by omega
 |k+1,x,r,h1,h2,h4=>by
  rw[T.level_l1]
  refine ops_wp ?_ OPS fun h2 q hq hn=>?_
  ·rw[if_pos (by decide)];exact⟨by omega,h2⟩
  split
  ·exact⟨by omega,by omega⟩
  ·refine⟨h2,fun t ht=>?_⟩
   split
   ·exact zB5 (hF _ _ (.inl rfl) (by omega) (by omega)) fun u r1 a1 b1=>⟨by omega,b1⟩
   split
   ·exact zB5 (hF _ _ (.inl rfl) (by omega) (by omega)) fun u r1 a1 b1=>⟨by omega,b1⟩
   split
   ·exact zB5 (hF _ _ (.inl rfl) (by omega) (by omega)) fun u r1 a1 b1=>⟨by omega,b1⟩
   split
   ·exact zB5 (hF _ _ (.inr rfl) (by omega) (by omega)) fun u r1 a1 b1=>⟨by omega,b1⟩
   ·exact zB5 (hF _ _ (.inr rfl) (by omega) (by omega)) fun u r1 a1 b1=>PT.wp_mono (fun a r' ha=>⟨by have:=ha.1;omega,ha.2⟩) _ _ (zJi n R hF k _ r1 (by omega) b1 (by omega))
theorem ofO_bind{α β:Type}(a:α)(f:α->PT β):(PT.ofO (some a)).bind f=f a:=rfl
theorem level_succ(fuel:Nat)(n:Int)(h:eqI n 7=false)(h1: -9223372036854775808<=n+1)(h2:n+1<=9223372036854775807):T.level (fuel+1) n=(T.level fuel (n+1)).bind fun t=>T.level_l1 (T.level fuel) n (n+1) fuel t:=by
 rw[T.level,if_neg (by rw[h];decide),chkA h1 h2,ofO_bind]
theorem level_seven(fuel:Nat):T.level (fuel+1) 7=(T.negation fuel).bind .ret:=by
 rw[T.level,if_pos (by decide)]
theorem level_step(K fuel:Nat)(hK:20001<=K)(h3: ∀r,30*r+K+2<=fuel->1<=r->r<=20000->(T.negation fuel).wp r (Ate r))(h4: ∀r (n:Nat),1<=n->n<=7->30*r+K+10<=fuel+n->1<=r->r<=20000->(T.level fuel n).wp r (Ate r))
 (r n:Nat) (hn1:1<=n) (hn7:n<=7) (hf:30*r+K+10<=fuel+1+n) (hr:1<=r) (hm:r<=20000):(T.level (fuel+1) n).wp r (Ate r):=by
 have hn:((n+1:Nat):Int)=(n:Int)+1:=by omega
 rcases Nat.lt_or_ge n 7 with h|h
 ·have h4': ∀q,30*q+K+10<=fuel+(n+1)->1<=q->q<=20000->(T.level fuel ((n:Int)+1)).wp q (Ate q):=fun q g1 g2 g3=>by
   rw[<-hn];exact h4 q (n+1) (by omega) (by omega) g1 g2 g3
  rw[level_succ fuel n (by simp only[eqI,decide_eq_false_iff_not];omega) (by omega) (by omega)]
  refine zB5 (h4' r (by omega) hr hm) fun t r1 a1 b1=>?_
  refine PT.wp_mono (fun a r' ha=>?_) _ _ (zJi n (r-1) (fun q m hm2 hq hq2=>?_) fuel t r1 (by omega) b1 (by omega))
  ·obtain⟨x1,x2⟩:=ha
   exact⟨by omega,x2⟩
  rcases hm2 with rfl|rfl
  ·exact h4 q n hn1 hn7 (by omega) hq (by omega)
  ·exact h4' q (by omega) hq (by omega)
 ·have:n=7:=by omega
  subst this
  rw[show((7:Nat):Int)=7 from rfl,level_seven]
  exact zB5 (h3 _ (by omega) hr hm) fun t r1 a1 b1=>⟨a1,b1⟩
def ExprsWp(K fuel:Nat):Prop:=(∀r,30*r+K+11<=fuel->1<=r->r<=20000->(T.inside fuel).wp r (Ate r))∧(∀r,30*r+K+11<=fuel->1<=r->r<=20000->(T.choice fuel).wp r (Ate r))∧
 (∀r,30*r+K+2<=fuel->1<=r->r<=20000->(T.negation fuel).wp r (Ate r))∧(∀r (n:Nat),1<=n->n<=7->30*r+K+10<=fuel+n->1<=r->r<=20000->(T.level fuel n).wp r (Ate r))∧
 (∀r,30*r+K+10<=fuel->1<=r->r<=20000->(T.expr fuel).wp r (Ate r))∧(∀r,30*r+K+1<=fuel->1<=r->r<=20000->(T.decl fuel).wp r (Ate r))∧
 (∀r,30*r+K+11<=fuel->1<=r->r<=20000->(T.let fuel).wp r (Ate r))∧(∀r,30*r+K+1<=fuel->1<=r->r<=20000->(T.atom fuel).wp r (Ate r))
theorem exprs_step(K fuel:Nat)(hK:20001<=K)(h:ExprsWp K fuel):ExprsWp K (fuel+1):=by
 obtain⟨h1,h2,h3,h4,h5,h6,h7,h8⟩:=h
 have h41: ∀r,30*r+K+10<=fuel+1->1<=r->r<=20000->(T.level fuel 1).wp r (Ate r):=fun r g1 g2 g3=>h4 r 1 (by omega) (by omega) g1 g2 g3
 have ht:=(types_wp fuel).2.2.2
 have hp:=(pats_wp fuel).2
 refine⟨fun r hf hr hm=>?_,fun r hf hr hm=>?_,fun r hf hr hm=>?_,fun r n hn1 hn7 hf hr hm=>?_,fun r hf hr hm=>?_,fun r hf hr hm=>?_,fun r hf hr hm=>?_,fun r hf hr hm=>?_⟩
 ·rw[T.inside]
  refine zGJ ?_ fun c1=>⟨by omega,by omega⟩
  refine zGJ ?_ fun c1=>zB5 (zJf fuel (by omega) (by omega) (by omega)) fun l r1 a1 b1=>zDk fun c2=>zB5 (zJf fuel (by omega) (by omega) (by omega)) fun l r2 a2 b2=>zDk fun c3=>⟨by omega,by omega⟩
  refine zB5 (h5 _ (by omega) hr hm) fun t r1 a1 b1=>?_
  refine zGJ ?_ fun c2=>zB5 (ht _ (by omega) (by omega) (by omega)) fun u r2 a2 b2=>app80 (by simp) (zDk fun c3=>⟨by omega,by omega⟩)
  refine PT.wp_bindQ (sep_wp [44] (r-1) (fun q hq hq2=>h5 q (by omega) hq (by omega)) fuel [t] r1 (by omega) b1 (by omega) (by simp only[List.length_cons,List.length_nil];omega)) fun l r'' hl=>?_
  obtain⟨l1,l2,l3,l4⟩:=hl
  refine zDk fun h9=>?_
  split
  ·obtain⟨a,ha⟩:=zHV (l:=l) (by simpa using l3)
   exact ofO_wp ha ⟨by omega,by omega⟩
  ·exact⟨by omega,by omega⟩
 ·rw[T.choice]
  refine zB5 (h5 _ (by omega) hr hm) fun t r1 a1 b1=>zDk fun c1=>?_
  exact PT.wp_mono (fun a r' ha=>⟨by have:=ha.1;omega,ha.2⟩) _ _ (zIx fuel (r-1) (fun q hq hq2=>h5 q (by omega) hq (by omega)) (fun q hq hq2=>hp q (by omega) hq (by omega)) fuel [t] (r1-1) (by omega) (by omega) (by omega) (by simp only[List.length_cons,List.length_nil];omega))
 ·rw[T.negation]
  refine zGJ ?_ fun c1=>zB5 (h3 _ (by omega) (by omega) (by omega)) fun t r1 a1 b1=>⟨by omega,b1⟩
  refine zB5 (h8 _ (by omega) hr hm) fun t r1 a1 b1=>PT.wp_bindQ (zHS (r-1) (fun q hq hq2=>h8 q (by omega) hq (by omega)) fuel t r1 (by omega) b1 (by omega)) fun a r' ha=>⟨by have:=ha.1;omega,ha.2⟩
 ·exact level_step K fuel hK h3 h4 r n hn1 hn7 hf hr hm
 ·rw[T.expr]
  refine zGJ ?_ fun c1=>skip_N (zFe (by decide) fun c2 s hs=>zDk fun c3=>zB5 (h5 _ (by omega) (by omega) (by omega)) fun t r1 a1 b1=>⟨by omega,b1⟩) fun c2=>zDk fun c3=>zB5 (h5 _ (by omega) (by omega) (by omega)) fun t r1 a1 b1=>⟨by omega,b1⟩
  refine zGJ (zB5 (h41 r (by omega) hr hm) fun t r1 a1 b1=>⟨a1,b1⟩) fun c1=>?_
  exact zB5 (h5 _ (by omega) (by omega) (by omega)) fun t r1 a1 b1=>zDk fun c2=>zB5 (h5 _ (by omega) (by omega) (by omega)) fun u r2 a2 b2=>app80 (by simp) (zDk fun c3=>zB5 (h5 _ (by omega) (by omega) (by omega)) fun v r3 a3 b3=>app80 (by simp) ⟨by omega,b3⟩)
 ·rw[T.decl]
  refine zGJ ?_ fun c1=>zFe (by decide) fun c2 s hs=>zDk fun c3=>zB5 (h5 _ (by omega) (by omega) (by omega)) fun t r1 a1 b1=>⟨by omega,b1⟩
  refine zGJ ?_ fun c1=>zFe (by decide) fun c2 s hs=>zFe (by decide) fun c3 x hx=>PT.wp_bindQ (decl_l1_wp fuel [x] (r-1-1-1) (by omega) (by omega) (by simp only[List.length_cons,List.length_nil];omega)) fun l r1 hl=>zDk fun c4=>zB5 (h5 _ (by have:=hl.1;omega) (by omega) (by have:=hl.1;omega)) fun t r2 a2 b2=>⟨by have:=hl.1;omega,b2⟩
  exact zDk fun c1=>zFe (by decide) fun c2 s hs=>zDk fun c3=>zDk fun c4=>zB5 (h8 _ (by omega) (by omega) (by omega)) fun t r1 a1 b1=>zDk fun c5=>zB5 (zJf fuel (by omega) (by omega) (by omega)) fun m r2 a2 b2=>app80 (by simp) ⟨by omega,b2⟩
 ·rw[T.let]
  refine PT.wp_bindQ (let_l1_wp r (fun q hq hq2=>h6 q (by omega) hq (by omega)) fuel [] r (by omega) hr (by omega) (by simp only[List.length_nil];omega)) fun L r1 hL=>?_
  obtain⟨l1,l2,l3⟩:=hL
  exact zB5 (h5 _ (by omega) (by omega) (by omega)) fun t r2 a2 b2=>app80 (by omega) (zDk fun c1=>⟨by omega,by omega⟩)
 ·rw[T.atom]
  refine kd_I ?_ fun c1=>zKA fuel (by omega) fun c2 n h6 h7=>⟨by omega,by omega⟩
  refine kd_I ?_ fun c1=>zFe (by decide) fun c2 t ht=>⟨by omega,by omega⟩
  refine named_I ?_ fun c1=>zB5 (path_wp fuel true (by omega) hr hm) fun v r1 a1 b1=>?_
  ·refine zGJ ?_ fun c1=>zB5 (h7 _ (by omega) (by omega) (by omega)) fun t r1 a1 b1=>⟨by omega,b1⟩
   refine zGJ ?_ fun c1=>zB5 (h2 _ (by omega) (by omega) (by omega)) fun t r1 a1 b1=>⟨by omega,b1⟩
   exact zDk fun c1=>zB5 (h1 _ (by omega) (by omega) (by omega)) fun t r1 a1 b1=>⟨by omega,b1⟩
  ·split
   ·exact⟨a1,b1⟩
   ·exact⟨a1,b1⟩
theorem exprs_wp(K:Nat)(hK:20001<=K): ∀fuel,ExprsWp K fuel
 |0=>⟨fun r h=>by omega,fun r h=>by omega,fun r h=>by omega,fun r n h1 h2 h3=>by omega,fun r h=>by omega,fun r h=>by omega,fun r h=>by omega,fun r h=>by omega⟩
 |fuel+1=>exprs_step K fuel hK (exprs_wp K hK fuel)
section
variable {α β:Type}
open PT
end
theorem zCH{α β:Type}(a:α)(f:α->Option β):(some a).bind f=f a:=Eq.trans (Option.bind_some a f) rfl
theorem zHz{n:Int}(h1: -9223372036854775808<=n)(h2:n<=9223372036854775807):chk .i64 n=some n:=by rw[chk,if_pos];exact⟨h1,h2⟩
theorem app_some{α:Type}{b:Nat}{x y:List α}(h:0<b)(h2:(x.length+y.length)*b<=140737488355328):app b x y=some (x++y):=by rw[app,if_pos ⟨h,h2⟩]
theorem app1{x y:List UInt8}(h:x.length+y.length<=140737488355328):app 1 x y=some (x++y):=app_some (by decide) (by omega)
theorem wb_M{c:UInt8}{b:List UInt8}(h:b.length+1<=140737488355328):zAa c b=some (b++[c]):=by
 simp only[zAa,zCN,zCH,app1 (x:=b) (y:=[c]) h]
theorem ws_M{s b:List UInt8}(h:b.length+s.length<=140737488355328):zB7 s b=some ((s.length:Int),b++s):=by
 simp only[zB7,zCN,zCH,app1 (x:=b) (y:=s) h]
def okc(c:UInt8):Bool:=c==10||(decide (32<=c.toNat)&&decide (c.toNat<=126))
def esc(c:UInt8):List UInt8:=if c=10 then [92,110] else if c=34∨c=92 then [92,c] else [c]
def qs(s:List UInt8):List UInt8:=s.flatMap esc
theorem eq8(c:UInt8)(n:Nat)(d:UInt8)(hd:d.toNat=n):eqI (c.toNat:Int) (n:Int)=decide (c=d):=by
 unfold eqI
 rw[decide_eq_decide]
 constructor
 ·intro h;apply UInt8.toNat_inj.1;omega
 ·rintro rfl;omega
theorem e10(c:UInt8):eqI (c.toNat:Int) 10=decide (c=10):=eq8 c 10 10 rfl
theorem e34(c:UInt8):eqI (c.toNat:Int) 34=decide (c=34):=eq8 c 34 34 rfl
theorem e92(c:UInt8):eqI (c.toNat:Int) 92=decide (c=92):=eq8 c 92 92 rfl
theorem e110(c:UInt8):eqI (c.toNat:Int) 110=decide (c=110):=eq8 c 110 110 rfl
theorem vis_M(c:UInt8):zDj c=some (decide (32<=c.toNat)&&decide (c.toNat<=126)):=by
 unfold zDj leI
 congr 2
 ·exact decide_eq_decide.2 (by omega)
 ·exact decide_eq_decide.2 (by omega)
theorem esc_len(c:UInt8):(esc c).length<=2:=by unfold esc;split<;>(try split)<;>simp
theorem qs_len(s:List UInt8):(qs s).length<=2*s.length:=by
 induction s with
 |nil=>simp[qs]
 |cons c s ih=>
  have:=esc_len c
  simp only[qs,List.flatMap_cons,List.length_append,List.length_cons] at ih ⊢
  omega
theorem qs_ge(s:List UInt8):s.length<=(qs s).length:=by
 induction s with
 |nil=>simp
 |cons c s ih=>
  have:1<=(esc c).length:=by unfold esc;split<;>(try split)<;>simp
  simp only[qs,List.flatMap_cons,List.length_append,List.length_cons] at ih ⊢
  omega
theorem zGp(c:UInt8)(s:List UInt8):qs (c::s)=esc c++qs s:=by simp[qs]
theorem Quote_loop(s:List UInt8)(hs:s.length<=20000): ∀(n i k:Nat)(b:List UInt8),i+n=s.length->n+1<=k->b.length+2*n<=1000000->
 zCV s k b i=some (if (s.drop i).all okc then .inr (b++qs (s.drop i)) else .inl ([],3)):=by
 intro n
 induction n with
 |zero=>
  intro i k b hi hk hb
  obtain⟨g,rfl⟩: ∃g,k=g+1:=⟨k-1,by omega⟩
  rw[zCV,if_neg (by simp[ltI];omega),List.drop_eq_nil_of_le (by omega)]
  simp[qs]
 |succ n ih=>
  intro i k b hi hk hb
  obtain⟨g,rfl⟩: ∃g,k=g+1:=⟨k-1,by omega⟩
  have hx:s[i]? =some s[i]:=zq2 (by omega)
  rw[zCV,if_pos (by simp[ltI];omega),hx,List.drop_eq_getElem_cons (by omega),List.all_cons,zGp]
  generalize s[i]=c at hx
  simp only[zCH,e10,e34,e92,vis_M]
  by_cases c10:c=10
  ·subst c10
   have ho:okc 10=true:=rfl
   rw[zqb rfl,if_pos rfl,ws_M (by simp;omega)]
   simp only[zCH,ho,Bool.true_and]
   rw[ih (i+1) g _ (by omega) (by omega) (by simp;omega)]
   have he:esc 10=[92,110]:=rfl
   rw[he,List.append_assoc]
  ·rw[decide_eq_false c10,if_neg (by simp)]
   cases hv:(decide (32<=c.toNat)&&decide (c.toNat<=126))
   ·have ho:okc c=false:=by unfold okc;rw[hv];simpa using c10
    rw[ho];rfl
   ·have ho:okc c=true:=by unfold okc;rw[hv];simp
    simp only[Bool.not_true,Bool.false_eq_true,if_false,ho,Bool.true_and]
    by_cases c2:c=34∨c=92
    ·have he:esc c=[92,c]:=by unfold esc;rw[if_neg c10,if_pos c2]
     rw[if_pos (by rcases c2 with h|h<;>simp[h]),wb_M (by omega)]
     simp only[zCH]
     rw[wb_M (by simp;omega)]
     simp only[zCH]
     rw[ih (i+1) g _ (by omega) (by omega) (by simp;omega),he]
     simp
    ·have he:esc c=[c]:=by unfold esc;rw[if_neg c10,if_neg c2]
     rw[if_neg (by simpa using c2),wb_M (by omega)]
     simp only[zCH]
     rw[ih (i+1) g _ (by omega) (by omega) (by simp;omega),he]
     simp
theorem Quote_M{s:List UInt8}{fuel:Nat}(hs:s.length<=16384)(hf:s.length+1<=fuel):zER fuel s=some (if s.all okc then (34::(qs s++[34]),0) else ([],3)):=by
 have hl:=qs_len s
 rw[zER,if_neg (by simp[ltI];omega),wb_M (by simp)]
 simp only[zCH,List.nil_append]
 rw[Quote_loop s (by omega) s.length 0 fuel [34] (by simp) hf (by simp;omega),List.drop_zero]
 cases s.all okc
 ·rfl
 ·simp only[if_true,zCH,Sum.elim_inr]
  rw[wb_M (by simp;omega)]
  simp[zCK]
theorem lit_complete(s:List UInt8): ∀(m:List UInt8),m.all okc=true->∀(i k:Nat)(b r:List UInt8),s.drop i=qs m++34::r->m.length+1<=k->b.length+m.length<=1000000->
 zAf s k b i=some (.inl (b++m,((i+(qs m).length+1:Nat):Int),0,0)):=by
 intro m
 induction m with
 |nil=>
  intro _ i k b r hd hk hb
  obtain⟨g,rfl⟩: ∃g,k=g+1:=⟨k-1,by omega⟩
  obtain⟨h1,h2,h3,h4⟩:=zGh (show s.drop i=34::r by simpa[qs] using hd)
  rw[zAf,if_pos h1,h2]
  simp only[zCH,e34,decide_true,if_true,zCK]
  simp[qs]
 |cons c m ih=>
  intro ha i k b r hd hk hb
  obtain⟨g,rfl⟩: ∃g,k=g+1:=⟨k-1,by omega⟩
  rw[List.all_cons,zq7] at ha
  rw[zGp] at hd ⊢
  simp only[List.length_cons] at hk hb
  have fin: ∀(j:Nat),j=i+(esc c).length->s.drop j=qs m++34::r->zAf s g (b++[c]) j=some (.inl (b++c::m,((i+(esc c++qs m).length+1:Nat):Int),0,0)):=fun j hj hd'=>by
   rw[ih ha.2 j g (b++[c]) r hd' (by omega) (by simp;omega),hj]
   simp
   omega
  by_cases c10:c=10
  ·subst c10
   have he:esc 10=[92,110]:=rfl
   rw[he] at hd
   obtain⟨h1,h2,h3,h4⟩:=zGh (show s.drop i=92::(110::(qs m++34::r)) by simpa using hd)
   obtain⟨k1,k2,k3,k4⟩:=zGh h3
   rw[zAf,if_pos h1,h2]
   simp only[zCH,e34,e92,e110]
   rw[if_neg (by decide),if_pos (by simp only[decide_true,Bool.true_and];exact k1),k2]
   simp only[zCH]
   rw[if_neg (by decide),if_neg (by decide),if_pos (by decide),wb_M (by omega)]
   simp only[zCH]
   exact fin (i+1+1) (by rw[he];rfl) k3
  ·by_cases c2:c=34∨c=92
   ·have he:esc c=[92,c]:=by unfold esc;rw[if_neg c10,if_pos c2]
    rw[he] at hd
    obtain⟨h1,h2,h3,h4⟩:=zGh (show s.drop i=92::(c::(qs m++34::r)) by simpa using hd)
    obtain⟨k1,k2,k3,k4⟩:=zGh h3
    rw[zAf,if_pos h1,h2]
    simp only[zCH,e34,e92,e110]
    rw[if_neg (by decide),if_pos (by simp only[decide_true,Bool.true_and];exact k1),k2]
    simp only[zCH]
    rcases c2 with c2|c2
    ·rw[if_pos (by simp[c2]),wb_M (by omega)]
     simp only[zCH]
     exact fin (i+1+1) (by rw[he];rfl) k3
    ·rw[if_neg (by rw[c2];decide),if_pos (by simp[c2]),wb_M (by omega)]
     simp only[zCH]
     exact fin (i+1+1) (by rw[he];rfl) k3
   ·have he:esc c=[c]:=by unfold esc;rw[if_neg c10,if_neg c2]
    rw[he] at hd
    obtain⟨h1,h2,h3,h4⟩:=zGh (show s.drop i=c::(qs m++34::r) by simpa using hd)
    have hv:(decide (32<=c.toNat)&&decide (c.toNat<=126))=true:=by
     have:=ha.1
     unfold okc at this
     simpa[c10] using this
    have n34: ¬c=34:=fun h=>c2 (.inl h)
    have n92: ¬c=92:=fun h=>c2 (.inr h)
    rw[zAf,if_pos h1,h2]
    simp only[zCH,e34,e92,e110]
    rw[if_neg (by simpa using n34),if_neg (by simp[n92]),if_neg (by simpa using n92),vis_M]
    simp only[zCH,hv,Bool.not_true,Bool.false_eq_true,if_false]
    rw[wb_M (by omega)]
    simp only[zCH]
    exact fin (i+1) (by rw[he];rfl) h3
theorem lit_sound(s:List UInt8)(hs:s.length<=100000): ∀(n i k:Nat)(b:List UInt8),s.length-i<=n->n+1<=k->b.length+n<=1000000->
 ∃o,zAf s k b i=some o∧∀t N p e,o=.inl (t,N,p,e)->e=0->∃m r,t=b++m∧m.all okc=true∧s.drop i=qs m++34::r∧N=((i+(qs m).length+1:Nat):Int):=by
 intro n
 induction n with
 |zero=>
  intro i k b hi hk hb
  obtain⟨g,rfl⟩: ∃g,k=g+1:=⟨k-1,by omega⟩
  rw[zAf,if_neg (by simp[ltI];omega)]
  exact⟨_,rfl,fun t N p e h=>by cases h⟩
 |succ n ih=>
  intro i k b hi hk hb
  obtain⟨g,rfl⟩: ∃g,k=g+1:=⟨k-1,by omega⟩
  by_cases hlt:i<s.length
  case neg=>
   rw[zAf,if_neg (by simp[ltI];omega)]
   exact⟨_,rfl,fun t N p e h=>by cases h⟩
  have hx:s[i]? =some s[i]:=zq2 hlt
  have hd:s.drop i=s[i]::s.drop (i+1):=List.drop_eq_getElem_cons hlt
  generalize s[i]=c at hx hd
  rw[zAf,if_pos (by simp[ltI];omega),hx]
  simp only[zCH,e34,e92,e110]
  have step: ∀(j:Nat)(x:UInt8),i<j->okc x=true->s.drop i=esc x++s.drop j->j=i+(esc x).length->∃o,zAf s g (b++[x]) j=some o∧
   ∀t N p e,o=.inl (t,N,p,e)->e=0->∃m r,t=b++m∧m.all okc=true∧s.drop i=qs m++34::r∧N=((i+(qs m).length+1:Nat):Int):=fun j x hj hx' hdx hjl=>by
   obtain⟨o,o1,o2⟩:=ih j g (b++[x]) (by omega) (by omega) (by simp;omega)
   refine⟨o,o1,fun t N p e ho he=>?_⟩
   obtain⟨m,r,m1,m2,m3,m4⟩:=o2 t N p e ho he
   refine⟨x::m,r,by rw[m1];simp,by rw[List.all_cons,hx',m2];rfl,by rw[hdx,m3,zGp];simp,?_⟩
   rw[m4,zGp,hjl]
   simp
   omega
  by_cases c34:c=34
  ·subst c34
   simp only[decide_true,if_true,zCK,zCH]
   refine⟨_,rfl,fun t N p e h he=>?_⟩
   simp only[Sum.inl.injEq,Prod.mk.injEq] at h
   obtain⟨rfl,rfl,_,_⟩:=h
   exact⟨[],s.drop (i+1),by simp,rfl,by simpa[qs] using hd,by simp[qs]⟩
  rw[if_neg (by simpa using c34)]
  by_cases c92:c=92
  ·subst c92
   by_cases hlt2:i+1<s.length
   ·have hx2:s[i+1]? =some s[i+1]:=zq2 hlt2
    have hd2:s.drop (i+1)=s[i+1]::s.drop (i+1+1):=List.drop_eq_getElem_cons hlt2
    generalize s[i+1]=d at hx2 hd2
    rw[if_pos (by simp[ltI];omega),hx2]
    simp only[zCH]
    rw[hd2] at hd
    by_cases d34:d=34
    ·subst d34
     rw[if_pos (by decide),wb_M (by omega)]
     exact step (i+1+1) 34 (by omega) rfl hd rfl
    rw[if_neg (by simpa using d34)]
    by_cases d92:d=92
    ·subst d92
     rw[if_pos (by decide),wb_M (by omega)]
     exact step (i+1+1) 92 (by omega) rfl hd rfl
    rw[if_neg (by simpa using d92)]
    by_cases d110:d=110
    ·subst d110
     rw[if_pos (by decide),wb_M (by omega)]
     exact step (i+1+1) 10 (by omega) rfl hd rfl
    rw[if_neg (by simpa using d110)]
    refine⟨_,rfl,fun t N p e h he=>?_⟩
    simp only[Sum.inl.injEq,Prod.mk.injEq] at h
    omega
   ·rw[if_neg (by simp[ltI];omega),if_pos (by decide)]
    refine⟨_,rfl,fun t N p e h he=>?_⟩
    simp only[Sum.inl.injEq,Prod.mk.injEq] at h
    omega
  ·rw[if_neg (by simp[c92]),if_neg (by simpa using c92),vis_M]
   simp only[zCH]
   cases hv:(decide (32<=c.toNat)&&decide (c.toNat<=126))
   ·refine⟨_,rfl,fun t N p e h he=>?_⟩
    simp only[Sum.inl.injEq,Prod.mk.injEq] at h
    omega
   ·simp only[Bool.not_true,Bool.false_eq_true,if_false]
    rw[wb_M (by omega)]
    have c10: ¬c=10:=fun h=>by subst h;revert hv;decide
    have he:esc c=[c]:=by unfold esc;rw[if_neg c10,if_neg (by simp[c34,c92])]
    exact step (i+1) c (by omega) (by unfold okc;rw[hv];simp) (by rw[he];exact hd) (by rw[he];rfl)
theorem literal_total(s:List UInt8){fuel:Nat}(hs:s.length<=100000)(hf:s.length+1<=fuel): ∃r,zDV fuel s=some r∧
 (r.2.2.2=0->∃m rest,r.1=m∧m.all okc=true∧s.drop 1=qs m++34::rest∧r.2.1=((1+(qs m).length+1:Nat):Int)):=by
 obtain⟨o,o1,o2⟩:=lit_sound s hs s.length 1 fuel [] (by omega) hf (by simp;omega)
 rw[zDV,o1]
 simp only[zCH]
 cases o with
 |inl x=>
  obtain⟨t,N,p,e⟩:=x
  refine⟨_,rfl,fun he=>?_⟩
  obtain⟨m,r,m1,m2,m3,m4⟩:=o2 t N p e rfl he
  exact⟨m,r,by simpa using m1,m2,m3,m4⟩
 |inr x=>exact⟨_,rfl,fun he=>by simp at he⟩
theorem last_loop(s:List UInt8)(c:UInt8)(hs:s.length<=100000): ∀(i k:Nat)(I:Int),I=(i:Int)-1->i<=s.length->i+1<=k->∃o,zAc s c k I=some o∧∀z,o=.inl z->0<=z∧z<=s.length:=by
 intro i
 induction i with
 |zero=>
  intro k I hI hi hk
  obtain⟨g,rfl⟩: ∃g,k=g+1:=⟨k-1,by omega⟩
  rw[zAc,if_neg (by simp[leI];omega)]
  exact⟨_,rfl,fun z h=>by cases h⟩
 |succ i ih=>
  intro k I hI hi hk
  obtain⟨g,rfl⟩: ∃g,k=g+1:=⟨k-1,by omega⟩
  have hI':I=(i:Int):=by omega
  have hx:s[i]? =some s[i]:=zq2 (by omega)
  rw[zAc,if_pos (by simp[leI];omega),hI',idx,if_pos (by omega)]
  simp only[Int.toNat_natCast,hx,zCH]
  cases eqI ((s[i]).toNat:Int) (c.toNat:Int)
  ·simp only[Bool.false_eq_true,if_false]
   exact ih g _ rfl (by omega) (by omega)
  ·exact⟨_,rfl,fun z h=>by simp at h;omega⟩
theorem place_total(s:List UInt8)(at_:Nat){fuel:Nat}(hs:s.length<=100000)(ha:at_<=s.length)(hf:s.length+2<=fuel): ∃p,zCz fuel s (at_:Int)=some p:=by
 rw[zCz,subC,if_pos ⟨by omega,by omega,by omega⟩]
 simp only[zCH]
 have hsub:sub s 0 (at_:Int)=s.take at_:=by simp[sub]
 rw[hsub]
 have hl:(s.take at_).length<=at_:=by simp;omega
 have hc:Lib.countByte (s.take at_) 10<=(s.take at_).length:=List.count_le_length
 rw[zD9]
 simp only[zCH]
 rw[zHz (by omega) (by omega)]
 simp only[zCH]
 rw[zCr,zB8,zHz (by omega) (by omega)]
 simp only[zCH]
 obtain⟨o,o1,o2⟩:=last_loop (s.take at_) 10 (by omega) (s.take at_).length fuel _ rfl (by omega) (by omega)
 rw[o1]
 cases o with
 |inl z=>
  obtain⟨z1,z2⟩:=o2 z rfl
  simp only[zCH,Sum.elim_inl]
  rw[zHz (by omega) (by omega)]
  exact⟨_,rfl⟩
 |inr u=>
  simp only[zCH,Sum.elim_inr]
  rw[zHz (by omega) (by omega)]
  exact⟨_,rfl⟩
theorem sub_all(s:List UInt8):sub s 0 (s.length:Int)=s:=by simp[sub]
theorem skip_quote(t:List UInt8){fuel:Nat}(hf:1<=fuel):zCY fuel (zKW.mk (34::t) 0)=some (-1,zKW.mk (34::t) 0):=by
 obtain⟨g,rfl⟩: ∃g,fuel=g+1:=⟨fuel-1,by omega⟩
 rw[zCY,zBU,if_pos (by simp[ltI]),subC,if_pos ⟨by simp,by simp,by simp⟩]
 simp only[zCH]
 rw[sub_all]
 simp only[List.getElem?_cons_zero,zCH]
 have h1:zCi [32,9,10] 34=some (-1):=by rfl
 rw[h1]
 have h2:leI 0 (-1)=false:=rfl
 simp only[zCH,h2,Bool.false_eq_true,if_false]
 have h3:zBZ (34::t) [40,42]=some false:=by
  rw[zBZ,zBe]
  by_cases hl:leI (([40,42]:List UInt8).length:Int) ((34::t:List UInt8).length:Int)=true
  ·rw[if_pos hl]
   have hl':=leT hl
   rw[subC,if_pos ⟨by omega,by simp,hl'⟩]
   simp only[zCH]
   have:eqS (sub (34::t) 0 (([40,42]:List UInt8).length:Int)) [40,42]=false:=decide_eq_false (by simp[sub])
   rw[this]
  ·rw[if_neg hl];rfl
 rw[h3]
 rfl
theorem idxN{α:Type}(l:List α)(i:Nat):idx l (i:Int)=l[i]? :=by rw[idx,if_pos (by omega)];simp
theorem subD(s:List UInt8)(i:Nat)(h:i<=s.length):subC s (i:Int) (s.length:Int)=some (s.drop i):=by
 rw[subC,if_pos ⟨by omega,by omega,by omega⟩]
 unfold sub
 rw[List.take_of_length_le (by simp)]
 simp
theorem subT(s:List UInt8)(n:Nat)(h:n<=s.length):subC s 0 (n:Int)=some (s.take n):=by
 rw[subC,if_pos ⟨by omega,by omega,by omega⟩]
 simp[sub]
def pre(s t:List UInt8):Bool:=decide (s.take t.length=t)
theorem has_M(s t:List UInt8):zBZ s t=some (pre s t):=by
 rw[zBZ,zBe]
 by_cases h:t.length<=s.length
 ·rw[if_pos (show leI (t.length:Int) (s.length:Int)=true from zqb (by omega)),subT s t.length h]
  rfl
 ·rw[if_neg (show¬leI (t.length:Int) (s.length:Int)=true from fun h'=>by have:=leT h';omega)]
  have:pre s t=false:=decide_eq_false fun e=>by have:=congrArg List.length e;simp at this;omega
  rw[this];rfl
def smB(c:UInt8):Bool:=(leI 97 (c.toNat:Int))&&(leI (c.toNat:Int) 122)
def caB(c:UInt8):Bool:=(leI 65 (c.toNat:Int))&&(leI (c.toNat:Int) 90)
def diB(c:UInt8):Bool:=(leI 48 (c.toNat:Int))&&(leI (c.toNat:Int) 57)
def inB(c:UInt8):Bool:=smB c||(caB c||(diB c||eqI (c.toNat:Int) 95))
theorem small_M(c:UInt8):zDs c=some (smB c):=rfl
theorem capital_M(c:UInt8):zEB c=some (caB c):=rfl
theorem digit_M(c:UInt8):zEQ c=some (diB c):=rfl
theorem inner_M(c:UInt8):zE8 c=some (inB c):=by
 rw[zE8,small_M,capital_M,digit_M]
 unfold inB
 cases smB c<;>cases caB c<;>cases diB c<;>rfl
def cw(p:UInt8->Bool)(s:List UInt8)(i:Nat):Nat:=i+((s.drop i).takeWhile p).length
theorem cw_le(p:UInt8->Bool)(s:List UInt8)(i:Nat)(h:i<=s.length):i<=cw p s i∧cw p s i<=s.length:=by
 unfold cw
 have h1:=(List.takeWhile_prefix p (l:=s.drop i)).length_le
 simp at h1
 omega
theorem cw_end(p:UInt8->Bool)(s:List UInt8)(i:Nat)(h:s.length<=i):cw p s i=i:=by
 unfold cw;rw[List.drop_eq_nil_of_le h];simp
theorem cw_step(p:UInt8->Bool)(s:List UInt8)(i:Nat)(c:UInt8)(h:s[i]? =some c):cw p s i=if p c=true then cw p s (i+1) else i:=by
 obtain⟨hi,rfl⟩:=zq1 h
 unfold cw
 rw[List.drop_eq_getElem_cons hi,List.takeWhile_cons]
 split
 ·simp;omega
 ·simp
theorem inner_loop(s:List UInt8)(hs:s.length<=100000): ∀(n i k:Nat)(I:Int),I=i->s.length-i<=n->n+1<=k->i<=s.length->zBf s k I=some ((cw inB s i:Nat):Int):=by
 intro n
 induction n with
 |zero=>
  intro i k I hI hi hk hl
  obtain⟨g,rfl⟩: ∃g,k=g+1:=⟨k-1,by omega⟩
  rw[zBf,if_neg (show¬ltI I (s.length:Int)=true from fun h=>by have:=ltT h;omega),cw_end _ _ _ (by omega),hI]
  rfl
 |succ n ih=>
  intro i k I hI hi hk hl
  obtain⟨g,rfl⟩: ∃g,k=g+1:=⟨k-1,by omega⟩
  rw[zBf]
  by_cases hlt:i<s.length
  ·have hx:s[i]? =some s[i]:=zq2 hlt
   generalize s[i]=c at hx
   rw[if_pos (show ltI I (s.length:Int)=true from zqb (by omega)),hI,idxN,hx,cw_step _ _ _ _ hx]
   simp only[zCH,inner_M]
   cases inB c
   ·rfl
   ·simp only[if_true]
    rw[zHz (by omega) (by omega)]
    simp only[zCH]
    exact ih (i+1) g _ (by omega) (by omega) (by omega) (by omega)
  ·rw[if_neg (show¬ltI I (s.length:Int)=true from fun h=>by have:=ltT h;omega),cw_end _ _ _ (by omega),hI]
   rfl
theorem digit_loop(s:List UInt8)(hs:s.length<=100000): ∀(n i k:Nat)(I:Int),I=i->s.length-i<=n->n+1<=k->i<=s.length->zBg s k I=some ((cw diB s i:Nat):Int):=by
 intro n
 induction n with
 |zero=>
  intro i k I hI hi hk hl
  obtain⟨g,rfl⟩: ∃g,k=g+1:=⟨k-1,by omega⟩
  rw[zBg,if_neg (show¬ltI I (s.length:Int)=true from fun h=>by have:=ltT h;omega),cw_end _ _ _ (by omega),hI]
  rfl
 |succ n ih=>
  intro i k I hI hi hk hl
  obtain⟨g,rfl⟩: ∃g,k=g+1:=⟨k-1,by omega⟩
  rw[zBg]
  by_cases hlt:i<s.length
  ·have hx:s[i]? =some s[i]:=zq2 hlt
   generalize s[i]=c at hx
   rw[if_pos (show ltI I (s.length:Int)=true from zqb (by omega)),hI,idxN,hx,cw_step _ _ _ _ hx]
   simp only[zCH,digit_M]
   cases diB c
   ·rfl
   ·simp only[if_true]
    rw[zHz (by omega) (by omega)]
    simp only[zCH]
    exact ih (i+1) g _ (by omega) (by omega) (by omega) (by omega)
  ·rw[if_neg (show¬ltI I (s.length:Int)=true from fun h=>by have:=ltT h;omega),cw_end _ _ _ (by omega),hI]
   rfl
theorem inner_len{s:List UInt8}{fuel:Nat}(hs:s.length<=100000)(hf:s.length+1<=fuel):zCv fuel s=some ((cw inB s 0:Nat):Int):=by
 rw[zCv,inner_loop s hs s.length 0 fuel 0 rfl (by omega) hf (by omega)];rfl
theorem digit_len{s:List UInt8}{fuel:Nat}(hs:s.length<=100000)(hf:s.length+1<=fuel):zDJ fuel s=some ((cw diB s 0:Nat):Int):=by
 rw[zDJ,digit_loop s hs s.length 0 fuel 0 rfl (by omega) hf (by omega)];rfl
def WORDS:List (List UInt8):=[[97,110,100,97,108,115,111],[99,97,115,101],[100,97,116,97],[100,105,118],[101,108,115,101],[101,110,100],[102,110],[102,117,110],[102,117,110,99,116,111,114],[103,101,110,101,114,97,116,105,118,101],[105,102],[105,109,112,111,114,116],[105,110],[105,110,99,108,117,100,101],[108,101,116],[109,111,100],[109,111,100,117,108,101],[111,102],[111,112,101,110],[111,114,101,108,115,101],[112,97,99,107],[115,104,97,114,105,110,103],[115,105,103],[115,105,103,110,97,116,117,114,101],[115,116,114,117,99,116],[115,116,114,117,99,116,117,114,101],[116,104,101,110],[116,121,112,101],[117,110,112,97,99,107],[118,97,108],[119,105,116,104]]
theorem ifs(c y:Bool):(if c=true then some true else some y)=some (c||y):=by cases c<;>rfl
theorem Keyword_M(s:List UInt8):zEC s=some (WORDS.any (fun w=>eqS s w)):=by
 unfold zEC
 simp only[ifs]
 rfl
theorem words_short{s:List UInt8}(h:WORDS.any (fun w=>eqS s w)=true):s.length<=24:=by
 obtain⟨w,hw,he⟩:=List.any_eq_true.1 h
 have e:s=w:=of_decide_eq_true he
 subst e
 have hall: ∀w∈WORDS,w.length<=24:=by decide
 exact hall _ hw
theorem chku8{n:Int}(h1:0<=n)(h2:n<=255):chk .u8 n=some n:=by rw[chk,if_pos];exact⟨h1,h2⟩
theorem number_loop(s:List UInt8)(hd: ∀c∈s,diB c=true): ∀(n i k:Nat)(m:Int),i+n=s.length->n+1<=k->0<=m->m<=4503599627370496->∃o,zA8 s k m i=some o:=by
 intro n
 induction n with
 |zero=>
  intro i k m hi hk h0 h1
  obtain⟨g,rfl⟩: ∃g,k=g+1:=⟨k-1,by omega⟩
  rw[zA8,if_neg (show¬ltI (i:Int) (s.length:Int)=true from fun h=>by have:=ltT h;omega)]
  exact⟨_,rfl⟩
 |succ n ih=>
  intro i k m hi hk h0 h1
  obtain⟨g,rfl⟩: ∃g,k=g+1:=⟨k-1,by omega⟩
  have hx:s[i]? =some s[i]:=zq2 (by omega)
  have hc:=hd s[i] (List.getElem_mem _)
  generalize s[i]=c at hx hc
  unfold diB at hc
  rw[zq7] at hc
  have c1:=leT hc.1;have c2:=leT hc.2
  rw[zA8,if_pos (show ltI (i:Int) (s.length:Int)=true from zqb (by omega)),zHz (by omega) (by omega),hx]
  simp only[zCH]
  rw[chku8 (by omega) (by omega)]
  simp only[zCH]
  rw[zHz (by omega) (by omega)]
  simp only[zCH]
  by_cases hb:4503599627370496<10*m+((c.toNat:Int)-48)
  ·rw[if_pos (show ltI 4503599627370496 _=true from zqb hb)]
   exact⟨_,rfl⟩
  ·rw[if_neg (show¬ltI 4503599627370496 _=true from fun h=>hb (ltT h))]
   exact ih (i+1) g _ (by omega) (by omega) (by omega) (by omega)
theorem number_total(s:List UInt8){fuel:Nat}(hd: ∀c∈s,diB c=true)(hf:s.length+1<=fuel): ∃e,zDC fuel s=some e:=by
 obtain⟨o,ho⟩:=number_loop s hd s.length 0 fuel 0 (by simp) hf (by omega) (by omega)
 rw[zDC,ho]
 have fin: ∀b:Bool,∃e,(if b=true then some 3 else (some o).bind fun o=>Sum.elim some (fun o14=>some 0) o)=some e:=fun b=>by
  cases b
  ·cases o<;>exact⟨_,rfl⟩
  ·exact⟨_,rfl⟩
 by_cases h:1<s.length
 ·rw[if_pos (show ltI 1 (s.length:Int)=true from zqb (by omega)),zq2 (by omega:0<s.length)]
  simp only[zCH]
  exact fin _
 ·rw[if_neg (show¬ltI 1 (s.length:Int)=true from fun h'=>by have:=ltT h';omega)]
  simp only[zCH]
  exact fin false
theorem Sym_loop(s:List UInt8)(v:List (List UInt8)): ∀(n i k:Nat),i+n=v.length->n+1<=k->zCF s v k i=some (match (v.drop i).find? (pre s) with|some x=>.inl (x,true)|none=>.inr ()):=by
 intro n
 induction n with
 |zero=>
  intro i k hi hk
  obtain⟨g,rfl⟩: ∃g,k=g+1:=⟨k-1,by omega⟩
  rw[zCF,if_neg (show¬ltI (i:Int) (v.length:Int)=true from fun h=>by have:=ltT h;omega),List.drop_eq_nil_of_le (by omega)]
  rfl
 |succ n ih=>
  intro i k hi hk
  obtain⟨g,rfl⟩: ∃g,k=g+1:=⟨k-1,by omega⟩
  have hx:v[i]? =some v[i]:=zq2 (by omega)
  rw[zCF,if_pos (show ltI (i:Int) (v.length:Int)=true from zqb (by omega)),hx,List.drop_eq_getElem_cons (by omega),List.find?_cons]
  simp only[zCH,has_M]
  cases pre s v[i]
  ·simp only[Bool.false_eq_true,if_false]
   exact ih (i+1) g (by omega) (by omega)
  ·rfl
def SA:List (List UInt8):=[[58,62],[61,62],[45,62],[60,61]]
def SB:List UInt8:=[40,41,44,59,58,61,124,95,46,42,43,45,60,94,126]
def la(c:UInt8)(s:List UInt8):Nat->Int
 |0=> -1
 |i+1=>if s[i]? =some c then (i:Int) else la c s i
theorem la_lt(c:UInt8)(s:List UInt8): ∀i,-1<=la c s i∧la c s i<i
 |0=>by simp[la]
 |i+1=>by
  have:=la_lt c s i
  rw[la]
  split<;>omega
theorem eqB8(c d:UInt8):eqI (c.toNat:Int) (d.toNat:Int)=decide (c=d):=eq8 c d.toNat d rfl
theorem lastM_loop(s:List UInt8)(c:UInt8)(hs:s.length<=100000): ∀(i k:Nat)(I:Int),I=(i:Int)-1->i<=s.length->i+1<=k->∃o,zAc s c k I=some o∧Sum.elim id (fun _=> -1) o=la c s i:=by
 intro i
 induction i with
 |zero=>
  intro k I hI hi hk
  obtain⟨g,rfl⟩: ∃g,k=g+1:=⟨k-1,by omega⟩
  rw[zAc,if_neg (show¬leI 0 I=true from fun h=>by have:=leT h;omega)]
  exact⟨_,rfl,rfl⟩
 |succ i ih=>
  intro k I hI hi hk
  obtain⟨g,rfl⟩: ∃g,k=g+1:=⟨k-1,by omega⟩
  have hI':I=(i:Int):=by omega
  have hx:s[i]? =some s[i]:=zq2 (by omega)
  generalize s[i]=d at hx
  rw[zAc,if_pos (show leI 0 I=true from zqb (by omega)),hI',idxN,hx,la,hx]
  simp only[zCH,eqB8,Option.some.injEq]
  by_cases h:d=c
  ·subst h
   rw[zqb rfl,if_pos rfl,if_pos rfl]
   exact⟨_,rfl,rfl⟩
  ·rw[decide_eq_false h,if_neg (by simp),if_neg h]
   exact ih g _ rfl (by omega) (by omega)
theorem la_take(c:UInt8)(s:List UInt8)(n:Nat): ∀i,i<=n->la c (s.take n) i=la c s i
 |0,_=>rfl
 |i+1,h=>by
  have e:(s.take n)[i]? =s[i]? :=by
   rw[List.getElem?_take,if_pos (by omega)]
  show(if (s.take n)[i]? =some c then (i:Int) else la c (s.take n) i)=(if s[i]? =some c then (i:Int) else la c s i)
  rw[la_take c s n i (by omega),e]
theorem cnt_take(s:List UInt8)(i:Nat)(d:UInt8)(h:s[i]? =some d):Lib.countByte (s.take (i+1)) 10=Lib.countByte (s.take i) 10+(if d=10 then 1 else 0):=by
 unfold Lib.countByte
 rw[List.take_add_one,h]
 simp[List.count_append,List.count_singleton]
def PL(s:List UInt8)(i:Nat):zKa:=zKa.mk (1+(Lib.countByte (s.take i) 10:Nat)) ((i:Int)-la 10 s i)
theorem place_M(s:List UInt8)(i:Nat){fuel:Nat}(hs:s.length<=100000)(hi:i<=s.length)(hf:s.length+2<=fuel):zCz fuel s (i:Int)=some (PL s i):=by
 have hl:(s.take i).length=i:=by simp;omega
 have hc:Lib.countByte (s.take i) 10<=(s.take i).length:=List.count_le_length
 have hla:=la_lt 10 s i
 rw[zCz,subT s i hi]
 simp only[zCH,zD9]
 rw[zHz (by omega) (by omega)]
 simp only[zCH]
 rw[zCr,zB8,hl,zHz (by omega) (by omega)]
 simp only[zCH]
 obtain⟨o,o1,o2⟩:=lastM_loop (s.take i) 10 (by omega) i fuel _ rfl (by omega) (by omega)
 rw[la_take 10 s i i (by omega)] at o2
 rw[o1]
 have fin:(Option.bind (some (Sum.elim id (fun _=>(-1:Int)) o)) fun v14=>(chk .i64 ((i:Int)-v14)).bind fun n16=>some (zKa.mk (1+(Lib.countByte (s.take i) 10:Nat)) n16))=some (PL s i):=by
  rw[o2,zCH,zHz (by omega) (by omega),zCH];rfl
 cases o with
 |inl z=>exact fin
 |inr u=>exact fin
theorem pre2(t:List UInt8)(a b:UInt8):pre t [a,b]=true↔∃r,t=a::b::r:=by
 unfold pre
 rw[decide_eq_true_eq]
 constructor
 ·intro h
  match t,h with
  |[],h=>simp at h
  |[x],h=>simp at h
  |x::y::r,h=>simp at h;exact⟨r,by rw[h.1,h.2]⟩
 ·rintro⟨r,rfl⟩;simp
theorem e41(c:UInt8):eqI (c.toNat:Int) 41=decide (c=41):=eq8 c 41 41 rfl
def blank(c:UInt8):Bool:=decide (c=32)||(decide (c=9)||decide (c=10))
theorem e32(c:UInt8):eqI (c.toNat:Int) 32=decide (c=32):=eq8 c 32 32 rfl
theorem e9(c:UInt8):eqI (c.toNat:Int) 9=decide (c=9):=eq8 c 9 9 rfl
theorem e39(c:UInt8):eqI (c.toNat:Int) 39=decide (c=39):=eq8 c 39 39 rfl
theorem blank_L(c:UInt8):zCi [32,9,10] c=some (Lib.indexByte [32,9,10] c):=rfl
theorem blank_I(c:UInt8):leI 0 (Lib.indexByte [32,9,10] c)=blank c:=by
 unfold blank
 by_cases h1:c=32
 ·subst h1;rfl
 by_cases h2:c=9
 ·subst h2;rfl
 by_cases h3:c=10
 ·subst h3;rfl
 have n1: ¬32=c:=fun e=>h1 e.symm
 have n2: ¬9=c:=fun e=>h2 e.symm
 have n3: ¬10=c:=fun e=>h3 e.symm
 have:Lib.indexByte [32,9,10] c= -1:=by simp[Lib.indexByte,n1,n2,n3]
 rw[this]
 simp[h1,h2,h3,leI]
theorem vis_N(n:Nat):((ltI (n:Int) 32)||(ltI 126 (n:Int)))= !(decide (32<=n)&&decide (n<=126)):=by
 cases h1:ltI (n:Int) 32
 ·have c1:=ltF h1
  cases h2:ltI 126 (n:Int)
  ·have c2:=ltF h2
   rw[zqb (by omega:32<=n),zqb (by omega:n<=126)];rfl
  ·have c2:=ltT h2
   rw[decide_eq_false (by omega: ¬n<=126)];simp
 ·have c1:=ltT h1
  rw[decide_eq_false (by omega: ¬32<=n)];simp
theorem t1_M(kind n:Int)(text s:List UInt8)(a N:Nat)(hn:n=N)(h:a+N<=1000000):zA3 kind n text (zKW.mk s (a:Int))=some (zKY.mk kind text (zKa.mk 0 0),0,0,zKW.mk s ((a+N:Nat):Int)):=by
 have k:chk .i64 ((a:Int)+n)=some ((a+N:Nat):Int):=by rw[zHz (by omega) (by omega)];congr 1;omega
 rw[zA3]
 dsimp only
 rw[k];rfl
theorem t2_M(by_ e:Int)(s:List UInt8)(a P:Nat)(hp:by_=P)(h:a+P<=1000000):zBD by_ e (zKW.mk s (a:Int))=some (zKY.mk 0 [] (zKa.mk 0 0),((a+P:Nat):Int),e):=by
 have k:chk .i64 ((a:Int)+by_)=some ((a+P:Nat):Int):=by rw[zHz (by omega) (by omega)];congr 1;omega
 rw[zBD]
 dsimp only
 rw[k];rfl
theorem cw_pos{p:UInt8->Bool}{c:UInt8}{r:List UInt8}(h:p c=true):1<=cw p (c::r) 0:=by
 rw[cw_step p (c::r) 0 c rfl,if_pos h]
 exact(cw_le p (c::r) 1 (by simp)).1
theorem sm_in{c:UInt8}(h:(smB c||caB c)=true):inB c=true:=by
 unfold inB
 cases h1:smB c
 ·rw[h1] at h;rw[Bool.false_or] at h;rw[h];rfl
 ·rfl
theorem tw_all(p:UInt8->Bool): ∀l:List UInt8,∀c∈l.takeWhile p,p c=true
 |[],c,h=>by cases h
 |x::l,c,h=>by
  rw[List.takeWhile_cons] at h
  split at h
  ·rename_i hx
   rcases List.mem_cons.1 h with rfl|h
   ·exact hx
   ·exact tw_all p l c h
  ·cases h
theorem take_all(p:UInt8->Bool)(t:List UInt8): ∀c∈t.take (cw p t 0),p c=true:=by
 intro c hc
 have e:t.take (cw p t 0)=t.takeWhile p:=by
  unfold cw
  simp only[List.drop_zero,Nat.zero_add]
  exact(List.prefix_iff_eq_take.1 (List.takeWhile_prefix p)).symm
 rw[e] at hc
 exact tw_all p t c hc
theorem lit_one(s:List UInt8)(hs:s.length<=100000): ∀(n i k:Nat)(b:List UInt8),s.length-i<=n->n+1<=k->i<=s.length->b.length+n<=1000000->
 ∃(x:List UInt8) (N p e:Int),(zAf s k b i).bind (fun o=>Sum.elim some (fun o4=>some (([]:List UInt8),(0:Int),(0:Int),(4:Int))) o)=some (x,N,p,e)∧
  (e=0->∃q:Nat,N=q∧i<q∧q<=s.length)∧(∃q:Nat,p=q∧q<=s.length):=by
 intro n
 induction n using Nat.strongRecOn with
 |_ n ih=>
 intro i k b hn hk hi hb
 obtain⟨g,rfl⟩: ∃g,k=g+1:=⟨k-1,by omega⟩
 rw[zAf]
 by_cases hend:s.length<=i
 ·rw[if_neg (show¬ltI (i:Int) (s.length:Int)=true from fun h=>by have:=ltT h;omega)]
  have he:eqI (i:Int) (s.length:Int)=true:=zqb (by omega)
  exact⟨[],0,0,4,rfl,(fun h=>absurd h (by decide)),0,rfl,by omega⟩
 have hx:s[i]? =some s[i]:=zq2 (by omega)
 generalize s[i]=c at hx
 have hidx:idx s (i:Int)=some c:=by rw[idxN];exact hx
 have k1:chk .i64 ((i:Int)+1)=some ((i:Int)+1):=zHz (by omega) (by omega)
 have k2:chk .i64 ((i:Int)+2)=some ((i:Int)+2):=zHz (by omega) (by omega)
 have hlt:ltI (i:Int) (s.length:Int)=true:=zqb (by omega)
 have next: ∀(j:Nat)(z:UInt8),i<j->j<=s.length->∃(x:List UInt8) (N p e:Int),(zAf s g (b++[z]) j).bind (fun o=>Sum.elim some (fun o4=>some (([]:List UInt8),(0:Int),(0:Int),(4:Int))) o)=some (x,N,p,e)∧
  (e=0->∃q:Nat,N=q∧i<q∧q<=s.length)∧(∃q:Nat,p=q∧q<=s.length):=fun j z hj1 hj2=>by
  obtain⟨x,N,p,e,h1,h3,h4⟩:=ih (n-1) (by omega) j g (b++[z]) (by omega) (by omega) hj2 (by simp;omega)
  exact⟨x,N,p,e,h1,fun h=>by obtain⟨q,q1,q2,q3⟩:=h3 h;exact⟨q,q1,by omega,q3⟩,h4⟩
 have hcat: ∀z:UInt8,cat b [z]=some (b++[z]):=fun z=>by rw[cat,if_pos (by simp;omega)]
 have hwb: ∀z:UInt8,zAa z b=some (b++[z]):=fun z=>wb_M (by omega)
 simp only[hlt,if_true,hx,hidx,zCH,e34,e92,e110]
 by_cases c34:c=34
 ·rw[zqb c34]
  have he:eqI (i:Int) (s.length:Int)=false:=decide_eq_false (by omega)
  exact⟨b,(i:Int)+1,0,0,rfl,fun _=>⟨i+1,by omega,by omega,by omega⟩,0,rfl,by omega⟩
 rw[decide_eq_false c34]
 simp only[Bool.false_eq_true,if_false,Bool.not_false,if_true,zCH]
 by_cases c92:c=92
 ·rw[zqb c92]
  simp only[if_true,Bool.true_and,k1,zCH]
  by_cases hlt2:i+1<s.length
  ·have hx2:s[i+1]? =some s[i+1]:=zq2 hlt2
   generalize s[i+1]=z at hx2
   have hidx2:idx s ((i:Int)+1)=some z:=by rw[show((i:Int)+1)=((i+1:Nat):Int) by omega,idxN];exact hx2
   have h1:ltI ((i+1:Nat):Int) (s.length:Int)=true:=zqb (by omega)
   have h2:eqI ((i:Int)+1) (s.length:Int)=false:=decide_eq_false (by omega)
   have e2:((i:Int)+2)=((i+1+1:Nat):Int):=by omega
   simp only[h1,if_true,hx2,zCH,h2,Bool.false_eq_true,if_false,hidx2,e34,e92,e110,hcat,hwb,k2]
   by_cases z34:z=34
   ·subst z34
    simp only[decide_true,if_true,show decide ((34:UInt8)=110)=false from rfl,Bool.false_eq_true,if_false]
    try rw[e2]
    exact next (i+1+1) 34 (by omega) (by omega)
   by_cases z92:z=92
   ·subst z92
    simp only[decide_true,if_true,show decide ((92:UInt8)=110)=false from rfl,show decide ((92:UInt8)=34)=false from rfl,Bool.false_eq_true,if_false]
    try rw[e2]
    exact next (i+1+1) 92 (by omega) (by omega)
   by_cases z110:z=110
   ·subst z110
    simp only[decide_true,if_true,show decide ((110:UInt8)=92)=false from rfl,show decide ((110:UInt8)=34)=false from rfl,Bool.false_eq_true,if_false]
    try rw[e2]
    exact next (i+1+1) 10 (by omega) (by omega)
   simp only[decide_eq_false z34,decide_eq_false z92,decide_eq_false z110,Bool.false_eq_true,if_false,zCH,Sum.elim_inl]
   exact⟨[],0,(i:Int),3,by first|rfl|rw[show(((i+1:Nat):Int)-1)=(i:Int) by omega],(fun h=>absurd h (by decide)),i,rfl,by omega⟩
  ·have h1:ltI ((i+1:Nat):Int) (s.length:Int)=false:=decide_eq_false (by omega)
   have h2:eqI ((i:Int)+1) (s.length:Int)=true:=zqb (by omega)
   simp only[h1,Bool.false_eq_true,if_false,h2,if_true]
   exact⟨[],0,0,4,rfl,(fun h=>absurd h (by decide)),0,rfl,by omega⟩
 ·rw[decide_eq_false c92]
  simp only[Bool.false_and,Bool.false_eq_true,if_false,vis_M,zCH]
  have hv:=vis_N c.toNat
  try rw[hv]
  cases hvv:(decide (32<=c.toNat)&&decide (c.toNat<=126))
  ·exact⟨[],0,(i:Int),3,rfl,(fun h=>absurd h (by decide)),i,rfl,by omega⟩
  ·have hsub:subC s (i:Int) ((i:Int)+1)=some [c]:=by
    rw[subC,if_pos ⟨by omega,by omega,by omega⟩]
    have:s.drop i=c::s.drop (i+1):=by
     obtain⟨hl,he⟩:=zq1 hx
     rw[List.drop_eq_getElem_cons hl,he]
    have e1:((i:Int)+1).toNat-(i:Int).toNat=1:=by omega
    unfold sub
    rw[e1,Int.toNat_natCast,this]
    rfl
   simp only[Bool.not_true,Bool.false_eq_true,if_false,hwb,zCH,k1,hsub,hcat]
   try rw[show((i:Int)+1)=((i+1:Nat):Int) by omega]
   exact next (i+1) c (by omega) (by omega)
theorem literal_one(s:List UInt8){fuel:Nat}(hs:s.length<=100000)(h1:1<=s.length)(hf:s.length+1<=fuel): ∃(x:List UInt8) (N p e:Int),zDV fuel s=some (x,N,p,e)∧
 (e=0->∃q:Nat,N=q∧1<=q∧q<=s.length)∧(∃q:Nat,p=q∧q<=s.length):=by
 obtain⟨x,N,p,e,a1,a3,a4⟩:=lit_one s hs s.length 1 fuel [] (by omega) (by omega) h1 (by simp;omega)
 exact⟨x,N,p,e,a1,fun h=>by obtain⟨q,q1,q2,q3⟩:=a3 h;exact⟨q,q1,by omega,q3⟩,a4⟩
def lt:List UInt8->Option (List UInt8×List UInt8)
 |[]=>none
 |c::s=>
  if c=34 then some ([],s)
  else if c=92 then
   match s with
   |[]=>none
   |d::s'=>if d=34∨d=92∨d=110 then (lt s').map (fun q=>((if d=110 then 10 else d)::q.1,q.2)) else none
  else if 32<=c.toNat∧c.toNat<=126 then (lt s).map (fun q=>(c::q.1,q.2)) else none
theorem lt_cons(c:UInt8)(s:List UInt8):lt (c::s)=if c=34 then some ([],s)
 else if c=92 then
  match s with
  |[]=>none
  |d::s'=>if d=34∨d=92∨d=110 then (lt s').map (fun q=>((if d=110 then 10 else d)::q.1,q.2)) else none
 else if 32<=c.toNat∧c.toNat<=126 then (lt s).map (fun q=>(c::q.1,q.2)) else none:=by rw[lt.eq_def]
theorem lt_qs(r:List UInt8): ∀m:List UInt8,m.all okc=true->lt (qs m++34::r)=some (m,r)
 |[],_=>by show lt (34::r)=_;rw[lt_cons,if_pos rfl]
 |c::m,h=>by
  rw[List.all_cons,zq7] at h
  have ih:=lt_qs r m h.2
  rw[zGp,List.append_assoc]
  by_cases c10:c=10
  ·subst c10
   have he:esc 10=[92,110]:=rfl
   rw[he]
   show lt (92::110::(qs m++34::r))=_
   rw[lt_cons]
   simp[ih]
  ·by_cases c2:c=34∨c=92
   ·have he:esc c=[92,c]:=by unfold esc;rw[if_neg c10,if_pos c2]
    rw[he]
    show lt (92::c::(qs m++34::r))=_
    rw[lt_cons]
    have n110: ¬c=110:=by rcases c2 with rfl|rfl<;>decide
    rcases c2 with c2|c2<;>simp[ih,c2]
   ·have he:esc c=[c]:=by unfold esc;rw[if_neg c10,if_neg c2]
    rw[he]
    show lt (c::(qs m++34::r))=_
    rw[lt_cons]
    have hv:32<=c.toNat∧c.toNat<=126:=by
     have:=h.1
     unfold okc at this
     simpa[c10] using this
    rw[if_neg (fun e=>c2 (.inl e)),if_neg (fun e=>c2 (.inr e)),if_pos hv,ih]
    rfl
theorem zKC: ∀(n:Nat)(s m r:List UInt8),s.length<=n->lt s=some (m,r)->m.all okc=true∧s=qs m++34::r:=by
 intro n
 induction n with
 |zero=>
  intro s m r hs h
  have:s=[]:=List.length_eq_zero_iff.1 (by omega)
  subst this
  cases h
 |succ n ih=>
  intro s m r hs h
  match s,hs,h with
  |[],hs,h=>cases h
  |c::s,hs,h=>
   rw[lt_cons] at h
   simp only[List.length_cons] at hs
   by_cases c34:c=34
   ·subst c34
    rw[if_pos rfl] at h
    cases h
    exact⟨rfl,rfl⟩
   rw[if_neg c34] at h
   by_cases c92:c=92
   ·subst c92
    rw[if_pos rfl] at h
    match s,hs,h with
    |[],hs,h=>cases h
    |d::s',hs,h=>
     simp only[List.length_cons] at hs
     by_cases hd:d=34∨d=92∨d=110
     ·simp only[hd,if_true] at h
      cases hl:lt s' with
      |none=>rw[hl] at h;cases h
      |some q=>
       obtain⟨m',r'⟩:=q
       rw[hl] at h
       simp only[Option.map_some,Option.some.injEq,Prod.mk.injEq] at h
       obtain⟨rfl,rfl⟩:=h
       obtain⟨a1,a2⟩:=ih s' m' r' (by omega) hl
       rw[a2]
       rcases hd with rfl|rfl|rfl
       ·exact⟨by rw[List.all_cons,a1];rfl,by rw[zGp];rfl⟩
       ·exact⟨by rw[List.all_cons,a1];rfl,by rw[zGp];rfl⟩
       ·exact⟨by rw[List.all_cons,a1];rfl,by rw[zGp];rfl⟩
     ·simp only[hd,if_false] at h;cases h
   ·rw[if_neg c92] at h
    by_cases hv:32<=c.toNat∧c.toNat<=126
    ·rw[if_pos hv] at h
     cases hl:lt s with
     |none=>rw[hl] at h;cases h
     |some q=>
      obtain⟨m',r'⟩:=q
      rw[hl] at h
      simp only[Option.map_some,Option.some.injEq,Prod.mk.injEq] at h
      obtain⟨rfl,rfl⟩:=h
      obtain⟨a1,a2⟩:=ih s m' r' (by omega) hl
      have c10: ¬c=10:=fun e=>by subst e;revert hv;decide
      have he:esc c=[c]:=by unfold esc;rw[if_neg c10,if_neg (by simp[c34,c92])]
      exact⟨by rw[List.all_cons,a1,okc];simp[hv],by rw[zGp,he,a2];rfl⟩
    ·rw[if_neg hv] at h;cases h
def cmt:Nat->List UInt8->Option (List UInt8)
 |_,[]=>none
 |_,[_]=>none
 |d,x::y::r=>if x=40∧y=42 then cmt (d+1) r else if x=42∧y=41 then (if d<=1 then some r else cmt (d-1) r) else cmt d (y::r)
theorem cmt_len: ∀(n d:Nat)(s r:List UInt8),s.length<=n->cmt d s=some r->r.length+2<=s.length:=by
 intro n
 induction n using Nat.strongRecOn with
 |_ n ih=>
 intro d s r hs h
 match s,hs,h with
 |[],hs,h=>simp[cmt] at h
 |[x],hs,h=>simp[cmt] at h
 |x::y::t,hs,h=>
  rw[cmt] at h
  simp only[List.length_cons] at hs ⊢
  split at h
  ·have:=ih (n-2) (by omega) _ t r (by omega) h;omega
  ·split at h
   ·split at h
    ·cases h;omega
    ·have:=ih (n-2) (by omega) _ t r (by omega) h;omega
   ·have:=ih (n-1) (by omega) _ (y::t) r (by simp;omega) h
    simp only[List.length_cons] at this;omega
def skp(s:List UInt8):Option (List UInt8):=
 match s with
 |[]=>some []
 |c::r=>if blank c=true then skp r else if pre (c::r) [40,42]=true then
  match h:cmt 1 (r.drop 1) with
  |none=>none
  |some r'=>skp r'
  else some (c::r)
termination_by s.length
decreasing_by
 ·simp
 ·have:=cmt_len _ _ _ _ (Nat.le_refl _) h
  simp at this ⊢;omega
theorem skp_nil:skp []=some []:=by rw[skp]
theorem zIM{c:UInt8}{r:List UInt8}(h:blank c=true):skp (c::r)=skp r:=by rw[skp,if_pos h]
theorem skp_cmt(r:List UInt8):skp (40::42::r)=(cmt 1 r).bind skp:=by
 rw[skp,if_neg (by decide),if_pos (by rw[pre2];exact⟨r,rfl⟩)]
 split<;>rename_i h<;>rw[show cmt 1 r=_ from h]<;>rfl
theorem zJ0{c:UInt8}{r:List UInt8}(h:blank c=false)(h2:pre (c::r) [40,42]=false):skp (c::r)=some (c::r):=by rw[skp,if_neg (by simp[h]),if_neg (by simp[h2])]
def wd(s:List UInt8):Bool:=WORDS.any (fun w=>eqS s w)
def sy:List UInt8->List UInt8
 |[]=>[]
 |c::r=>if pre (c::r) [40,42]=true then [] else match SA.find? (pre (c::r)) with
  |some x=>x
  |none=>if 0<=Lib.indexByte SB c then [c] else []
def numE(x:List UInt8):Option Int:=zDC (x.length+1) x
theorem zKB(s:List UInt8): ∀(n i k k':Nat)(m:Int),i+n=s.length->n+1<=k->n+1<=k'->zA8 s k m i=zA8 s k' m i:=by
 intro n
 induction n with
 |zero=>
  intro i k k' m hi hk hk'
  obtain⟨g,rfl⟩: ∃g,k=g+1:=⟨k-1,by omega⟩
  obtain⟨g',rfl⟩: ∃g,k'=g+1:=⟨k'-1,by omega⟩
  rw[zA8,zA8,if_neg (show¬ltI (i:Int) (s.length:Int)=true from fun h=>by have:=ltT h;omega),if_neg (show¬ltI (i:Int) (s.length:Int)=true from fun h=>by have:=ltT h;omega)]
 |succ n ih=>
  intro i k k' m hi hk hk'
  obtain⟨g,rfl⟩: ∃g,k=g+1:=⟨k-1,by omega⟩
  obtain⟨g',rfl⟩: ∃g,k'=g+1:=⟨k'-1,by omega⟩
  rw[zA8,zA8]
  have e: ∀z,zA8 s g z (i+1)=zA8 s g' z (i+1):=fun z=>ih (i+1) g g' z (by omega) (by omega) (by omega)
  simp only[e]
theorem number_fuel{x:List UInt8}{fuel:Nat}(h:x.length+1<=fuel):zDC fuel x=numE x:=by
 unfold numE
 rw[zDC,zDC,zKB x x.length 0 fuel (x.length+1) 0 (by omega) h (Nat.le_refl _)]
def tk:List UInt8->Option (Int×List UInt8×List UInt8)
 |[]=>none
 |c::r=>
  if (smB c||caB c)=true then
   if 24<cw inB (c::r) 0 then none
   else some (if wd ((c::r).take (cw inB (c::r) 0))=true then 6 else if smB c=true then 1 else 2,(c::r).take (cw inB (c::r) 0),(c::r).drop (cw inB (c::r) 0))
  else if c=39 then
   match r with
   |[]=>none
   |d::r'=>if smB d=true then
    if 24<cw inB (d::r') 0+1 then none else some (3,(c::d::r').take (cw inB (d::r') 0+1),(c::d::r').drop (cw inB (d::r') 0+1))
    else none
  else if diB c=true then
   if numE ((c::r).take (cw diB (c::r) 0))=some 0 then some (4,(c::r).take (cw diB (c::r) 0),(c::r).drop (cw diB (c::r) 0)) else none
  else if c=34 then (lt r).map fun q=>(5,q.1,q.2)
  else if sy (c::r)=[] then none else some (7,sy (c::r),(c::r).drop (sy (c::r)).length)
theorem zHY(c:UInt8)(r:List UInt8){fuel:Nat}(hf:40<=fuel):zDT fuel (c::r)=some (sy (c::r),decide (sy (c::r)≠[]))∧(sy (c::r)).length<=(c::r).length∧(c::r).take (sy (c::r)).length=sy (c::r):=by
 rw[zDT,has_M,sy]
 simp only[zCH]
 cases h0:pre (c::r) [40,42]
 case true=>exact⟨rfl,by simp,rfl⟩
 simp only[Bool.false_eq_true,if_false]
 have hA:=Sym_loop (c::r) SA 4 0 fuel rfl (by omega)
 rw[List.drop_zero] at hA
 change ((zCF (c::r) SA fuel 0).bind _)=_∧_
 rw[hA]
 cases hfa:SA.find? (pre (c::r)) with
 |some x=>
  have hx:=List.find?_some hfa
  have hm:=List.mem_of_find?_eq_some hfa
  have hne:x≠[]:=by
   have: ∀x∈SA,x≠[]:=by decide
   exact this x hm
  have hxe:(c::r).take x.length=x:=of_decide_eq_true hx
  refine⟨by simp[hne],?_,hxe⟩
  have:=congrArg List.length hxe
  simp at this ⊢
  omega
 |none=>
  have hns:eqS (c::r) []=false:=decide_eq_false (by simp)
  simp only[zCH,Sum.elim_inr,hns,Bool.not_false,if_true,List.getElem?_cons_zero]
  have hI:zCi [40,41,44,59,58,61,124,95,46,42,43,45,60,94,126] c=some (Lib.indexByte SB c):=rfl
  rw[hI]
  simp only[zCH]
  by_cases h:0<=Lib.indexByte SB c
  ·rw[if_pos h,show leI 0 (Lib.indexByte SB c)=true from zqb h]
   have:=subT (c::r) 1 (by simp)
   simp only[if_true]
   rw[show subC (c::r) 0 1=_ from this]
   exact⟨by simp,by simp,rfl⟩
  ·rw[if_neg h,show leI 0 (Lib.indexByte SB c)=false from decide_eq_false h]
   exact⟨by simp,by simp,rfl⟩
def TKS(s:List UInt8)(a:Nat)(L:zKY×Int×Int×zKW):Prop:=
 (L.2.2.1=0∧∃N:Nat,1<=N∧a+N<=s.length∧tk (s.drop a)=some (L.1.Kind,L.1.Text,s.drop (a+N))∧L.2.2.2=zKW.mk s ((a+N:Nat):Int))∨
 (L.2.2.1≠0∧tk (s.drop a)=none∧∃P:Nat,a+P<=s.length∧L.2.1=((a+P:Nat):Int))
theorem zHD(s:List UInt8)(hs:s.length<=100000)(a:Nat)(ha:a<s.length){fuel:Nat}(hf:s.length+100<=fuel):
 ∃L,zBI fuel (zKW.mk s (a:Int))=some L∧TKS s a L:=by
 have n3:(3:Int)≠0:=by decide
 have n5:(5:Int)≠0:=by decide
 have hlen:(s.drop a).length=s.length-a:=by simp
 have hdrop: ∀N,s.drop (a+N)=(s.drop a).drop N:=fun N=>by rw[List.drop_drop]
 unfold TKS
 simp only[hdrop]
 rw[zBI]
 dsimp only
 rw[subD s a (by omega)]
 simp only[zCH]
 have hTb:(s.drop a).length<=100000:=by omega
 have hTf:(s.drop a).length+1<=fuel:=by omega
 have hTp:1<=(s.drop a).length:=by omega
 generalize s.drop a=T at hlen hTb hTf hTp
 match T,hlen,hTb,hTf,hTp with
 |c::r,hlen,hTb,hTf,_=>
 have b13:(if smB c=true then some true else some (caB c))=some (smB c||caB c):=by cases smB c<;>rfl
 simp only[List.getElem?_cons_zero,zCH,small_M,capital_M,digit_M,b13]
 rw[tk.eq_def]
 dsimp only
 cases hsc:(smB c||caB c)
 case true=>
  have hp:=cw_pos (r:=r) (sm_in hsc)
  have hle:=(cw_le inB (c::r) 0 (by simp)).2
  rw[inner_len hTb hTf]
  simp only[if_true,zCH]
  generalize hN:cw inB (c::r) 0=N at hp hle
  rw[subT (c::r) N hle]
  simp only[zCH,Keyword_M]
  have tl:((c::r).take N).length=N:=by rw[List.length_take];omega
  cases hw:WORDS.any (fun w=>eqS ((c::r).take N) w)
  ·have hwd:wd ((c::r).take N)=false:=hw
   by_cases h24:24<N
   ·have h24':ltI 24 (N:Int)=true:=zqb (by omega)
    rw[t2_M 0 5 s a 0 rfl (by omega)]
    simp only[Bool.false_eq_true,if_false,h24',if_true,zCH,h24]
    exact⟨_,rfl,.inr ⟨n5,by first|rfl|trivial,0,by omega,rfl⟩⟩
   ·have h24':ltI 24 (N:Int)=false:=decide_eq_false (by omega)
    rw[t1_M 1 (N:Int) _ s a N rfl (by omega),t1_M 2 (N:Int) _ s a N rfl (by omega)]
    simp only[Bool.false_eq_true,if_false,h24',zCH,h24,hwd]
    cases smB c
    ·exact⟨_,rfl,.inl ⟨rfl,N,hp,by omega,by first|rfl|trivial,rfl⟩⟩
    ·exact⟨_,rfl,.inl ⟨rfl,N,hp,by omega,by first|rfl|trivial,rfl⟩⟩
  ·have hwd:wd ((c::r).take N)=true:=hw
   have hsh:=words_short hw
   rw[tl] at hsh
   have h24: ¬24<N:=by omega
   rw[t1_M 6 (N:Int) _ s a N rfl (by omega)]
   simp only[if_true,Bool.false_eq_true,if_false,zCH,h24,hwd]
   exact⟨_,rfl,.inl ⟨rfl,N,hp,by omega,by first|rfl|trivial,rfl⟩⟩
 simp only[Bool.false_eq_true,if_false,e39]
 by_cases c39:c=39
 ·rw[zqb c39]
  simp only[if_true]
  rw[if_pos c39]
  have hsub:subC (c::r) 1 ((c::r).length:Int)=some r:=by have:=subD (c::r) 1 (by simp);simpa using this
  rw[hsub]
  simp only[zCH]
  simp only[List.length_cons] at hlen hTb hTf
  match r,hlen,hTb,hTf with
  |[],hlen,hTb,hTf=>
   have h2:ltI (([c]:List UInt8).length:Int) 2=true:=zqb (by simp)
   rw[t2_M 0 3 s a 0 rfl (by omega)]
   simp only[h2,if_true,zCH]
   exact⟨_,rfl,.inr ⟨n3,by first|rfl|trivial,0,by omega,rfl⟩⟩
  |d::r',hlen,hTb,hTf=>
   simp only[List.length_cons] at hlen hTb hTf
   have h2:ltI ((c::d::r':List UInt8).length:Int) 2=false:=decide_eq_false (by simp;omega)
   simp only[h2,Bool.false_eq_true,if_false,List.getElem?_cons_succ,List.getElem?_cons_zero,zCH,small_M]
   cases hd:smB d
   ·rw[t2_M 0 3 s a 0 rfl (by omega)]
    simp only[Bool.not_false,if_true,zCH,Bool.false_eq_true,if_false]
    exact⟨_,rfl,.inr ⟨n3,by first|rfl|trivial,0,by omega,rfl⟩⟩
   ·have hin:inB d=true:=by unfold inB;rw[hd];rfl
    have hp:=cw_pos (r:=r') hin
    have hle:=(cw_le inB (d::r') 0 (by simp)).2
    simp only[if_true,Bool.false_eq_true,if_false,Bool.not_true,zCH]
    rw[inner_len (by simp;omega) (by simp;omega)]
    simp only[zCH]
    generalize cw inB (d::r') 0=N at hp hle
    simp only[List.length_cons] at hle
    have k1:chk .i64 (1+(N:Int))=some ((N+1:Nat):Int):=by rw[zHz (by omega) (by omega)];congr 1;omega
    rw[k1]
    simp only[zCH]
    by_cases h24:24<N+1
    ·have h24':ltI 24 ((N+1:Nat):Int)=true:=zqb (by omega)
     rw[t2_M 0 5 s a 0 rfl (by omega)]
     simp only[h24',if_true,zCH,h24]
     exact⟨_,rfl,.inr ⟨n5,by first|rfl|trivial,0,by omega,rfl⟩⟩
    ·have h24':ltI 24 ((N+1:Nat):Int)=false:=decide_eq_false (by omega)
     rw[subT (c::d::r') (N+1) (by simp;omega)]
     simp only[h24',Bool.false_eq_true,if_false,zCH,h24]
     rw[t1_M 3 ((N+1:Nat):Int) _ s a (N+1) rfl (by omega)]
     exact⟨_,rfl,.inl ⟨rfl,N+1,by omega,by omega,by first|rfl|trivial,rfl⟩⟩
 rw[decide_eq_false c39]
 simp only[Bool.false_eq_true,if_false]
 rw[if_neg c39]
 cases hdi:diB c
 case true=>
  have hp:=cw_pos (r:=r) hdi
  have hle:=(cw_le diB (c::r) 0 (by simp)).2
  rw[digit_len hTb hTf]
  have hall:=take_all diB (c::r)
  simp only[if_true,zCH]
  generalize cw diB (c::r) 0=N at hp hle hall
  rw[subT (c::r) N hle]
  simp only[zCH]
  obtain⟨e,he⟩:=number_total ((c::r).take N) (fuel:=fuel) hall (by rw[List.length_take];omega)
  have hE:=he
  rw[number_fuel (by rw[List.length_take];omega)] at hE
  rw[he]
  simp only[zCH]
  by_cases e0:e=0
  ·have h0:eqI e 0=true:=zqb e0
   rw[h0,t1_M 4 (N:Int) _ s a N rfl (by omega),if_pos (show numE ((c::r).take N)=some 0 by rw[hE,e0])]
   exact⟨_,rfl,.inl ⟨rfl,N,hp,by omega,by first|rfl|trivial,rfl⟩⟩
  ·have h0:eqI e 0=false:=decide_eq_false e0
   rw[h0,t2_M 0 e s a 0 rfl (by omega),if_neg (show¬numE ((c::r).take N)=some 0 from fun h=>e0 (by rw[hE] at h;exact zqa h))]
   exact⟨_,rfl,.inr ⟨e0,by first|rfl|trivial,0,by omega,rfl⟩⟩
 simp only[Bool.false_eq_true,if_false,e34]
 by_cases c34:c=34
 ·subst c34
  simp only[decide_true,if_true,zCH]
  obtain⟨x,N,p,e,l1,l3,P,hP,hPl⟩:=literal_one (34::r) (fuel:=fuel) hTb (by simp) hTf
  obtain⟨v,v1,v2⟩:=literal_total (34::r) (fuel:=fuel) hTb hTf
  rw[l1] at v1
  cases v1
  rw[l1]
  simp only[zCH]
  by_cases e0:e=0
  ·obtain⟨m,rest,m1,m2,m3,m4⟩:=v2 e0
   simp only at m1 m4
   subst m1
   have m3':r=qs x++34::rest:=by simpa using m3
   have hlr:=congrArg List.length m3'
   simp only[List.length_append,List.length_cons] at hlr hlen
   have h0:eqI e 0=true:=zqb e0
   clear l3 v2
   rw[h0,t1_M 5 N x s a (1+(qs x).length+1) m4 (by omega)]
   have hlt:lt r=some (x,rest):=by rw[m3'];exact lt_qs rest x m2
   rw[hlt]
   refine⟨_,rfl,.inl ⟨rfl,1+(qs x).length+1,by omega,by omega,?_,rfl⟩⟩
   have hdr:(34::r).drop (1+(qs x).length+1)=rest:=by
    rw[show 1+(qs x).length+1=((qs x).length+1)+1 by omega,List.drop_succ_cons,m3',List.drop_append]
    simp
   rw[hdr]
   rfl
  ·have h0:eqI e 0=false:=decide_eq_false e0
   have hb:a+P<=1000000:=by clear l3 v2;omega
   have hb2:a+P<=s.length:=by clear l3 v2;omega
   rw[h0,t2_M p e s a P hP hb]
   refine⟨_,rfl,.inr ⟨e0,?_,P,hb2,rfl⟩⟩
   cases hl:lt r with
   |none=>rfl
   |some q=>
    obtain⟨m,rest⟩:=q
    obtain⟨a1,a2⟩:=zKC _ r m rest (Nat.le_refl _) hl
    have hlr:=congrArg List.length a2
    have hge:=qs_ge m
    simp only[List.length_append,List.length_cons] at hlr hlen hTb hTf
    have:=lit_complete (34::r) m a1 1 fuel [] rest (by simpa using a2) (by clear l3 v2;omega) (by simp;clear l3 v2;omega)
    rw[zDV,this] at l1
    simp only[zCH,Sum.elim_inl,Option.some.injEq,Prod.mk.injEq] at l1
    exact(e0 l1.2.2.2.symm).elim
 rw[decide_eq_false c34,if_neg c34]
 obtain⟨y1,y2,y3⟩:=zHY c r (fuel:=fuel) (by omega)
 rw[y1]
 generalize sy (c::r)=y at y2 y3
 simp only[Bool.false_eq_true,if_false,zCH]
 by_cases hy:y=[]
 ·subst hy
  have h1:decide (([]:List UInt8)≠[])=false:=by simp
  rw[h1,t2_M 0 3 s a 0 rfl (by omega)]
  exact⟨_,rfl,.inr ⟨n3,by first|rfl|trivial,0,by omega,rfl⟩⟩
 ·have h1:decide (y≠[])=true:=zqb hy
  have hyl:1<=y.length:=by
   cases y with
   |nil=>exact(hy rfl).elim
   |cons z y=>simp
  rw[h1,t1_M 7 (y.length:Int) y s a y.length rfl (by omega),if_neg hy]
  exact⟨_,rfl,.inl ⟨rfl,y.length,hyl,by omega,by first|rfl|trivial,rfl⟩⟩
theorem comment_spec(s:List UInt8)(hs:s.length<=100000)(w:zKW)(hw:w.s=s)(A:Int): ∀(n p k d:Nat)(X D:Int),X=p->D=d->s.length-p<=n->n+2<=k->1<=d->d<=p->p<=s.length->
 (zAe w A k X D=some (.inl (A,zKW.mk s s.length))∧cmt d (s.drop p)=none)∨
 (∃q:Nat,zAe w A k X D=some (.inr (q:Int))∧cmt d (s.drop p)=some (s.drop q)∧p<q∧q<=s.length):=by
 intro n
 induction n using Nat.strongRecOn with
 |_ n ih=>
 intro p k d X D hX hD hn hk hd hdp hp
 obtain⟨g,rfl⟩: ∃g,k=g+1:=⟨k-1,by omega⟩
 subst hX;subst hD
 have k3:chk .i64 ((d:Int)+1)=some ((d:Int)+1):=zHz (by omega) (by omega)
 have k4:chk .i64 ((d:Int)-1)=some ((d:Int)-1):=zHz (by omega) (by omega)
 have k5:chk .i64 ((p:Int)+1)=some ((p:Int)+1):=zHz (by omega) (by omega)
 have k6:chk .i64 ((p:Int)+2)=some ((p:Int)+2):=zHz (by omega) (by omega)
 rw[zAe,hw]
 by_cases hend:s.length<=p
 ·rw[if_pos (show leI (s.length:Int) (p:Int)=true from zqb (by omega)),List.drop_eq_nil_of_le hend]
  exact .inl ⟨by rw[show(p:Int)=(s.length:Int) by omega],by simp[cmt]⟩
 rw[if_neg (show¬leI (s.length:Int) (p:Int)=true from fun h=>by have:=leT h;omega),subD s p (by omega)]
 simp only[zCH,has_M]
 have hd1:s.drop (p+1)=(s.drop p).drop 1:=by rw[List.drop_drop]
 have hd2:s.drop (p+2)=(s.drop p).drop 2:=by rw[List.drop_drop]
 have hTl:(s.drop p).length=s.length-p:=by simp
 have go: ∀(b d':Nat),1<=b->b<=2->p+b<=s.length->1<=d'->d'<=p+b->∀(X' D':Int),X'=((p+b:Nat):Int)->D'=d'->
  (zAe w A g X' D'=some (.inl (A,zKW.mk s s.length))∧cmt d' (s.drop (p+b))=none)∨
  (∃q:Nat,zAe w A g X' D'=some (.inr (q:Int))∧cmt d' (s.drop (p+b))=some (s.drop q)∧p<q∧q<=s.length):=fun b d' hb1 hb2 hbl h1 h2 X' D' hX' hD'=>by
  rcases ih (n-b) (by omega) (p+b) g d' X' D' hX' hD' (by omega) (by omega) h1 h2 hbl with h|⟨q,m1,m2,m3,m4⟩
  ·exact .inl h
  ·exact .inr ⟨q,m1,m2,by omega,m4⟩
 generalize hT:s.drop p=T at hTl hd1 hd2
 match T,hTl,hd1,hd2 with
 |[],hTl,_,_=>simp at hTl;omega
 |[x],hTl,hd1,hd2=>
  have h1:pre [x] [40,42]=false:=decide_eq_false (by simp)
  have h2:pre [x] [42,41]=false:=decide_eq_false (by simp)
  rw[h1]
  simp only[Bool.false_eq_true,if_false,h2]
  simp at hTl
  rw[k5]
  simp only[zCH]
  rw[if_neg (show¬eqI (d:Int) 0=true from fun h=>by have:=eqT h;omega)]
  obtain⟨g2,hg2⟩: ∃g2,g=g2+1:=⟨g-1,by omega⟩
  rw[hg2,zAe,hw,if_pos (show leI (s.length:Int) _=true from zqb (by omega))]
  exact .inl ⟨by rw[show((p:Int)+1)=(s.length:Int) by omega],by simp[cmt]⟩
 |x::y::r,hTl,hd1,hd2=>
  simp only[List.length_cons] at hTl
  simp only[List.drop_succ_cons,List.drop_zero] at hd1 hd2
  have q40:pre (x::y::r) [40,42]=(decide (x=40)&&decide (y=42)):=by unfold pre;simp[Bool.decide_and]
  have q42:pre (x::y::r) [42,41]=(decide (x=42)&&decide (y=41)):=by unfold pre;simp[Bool.decide_and]
  simp only[q40,q42]
  rw[cmt]
  by_cases ho:x=40∧y=42
  ·rw[zqb ho.1,zqb ho.2,if_pos ho]
   simp only[Bool.and_self,if_true,zCH,k3,k6]
   rw[if_neg (show¬eqI ((d:Int)+1) 0=true from fun h=>by have:=eqT h;omega)]
   have:=go 2 (d+1) (by omega) (by omega) (by omega) (by omega) (by omega) ((p:Int)+2) ((d:Int)+1) (by omega) (by omega)
   rw[hd2] at this
   exact this
  have hno:(decide (x=40)&&decide (y=42))=false:=by
   cases h:(decide (x=40)&&decide (y=42))
   ·rfl
   ·simp at h;exact(ho h).elim
  rw[hno,if_neg ho]
  simp only[zCH,Bool.false_eq_true,if_false]
  by_cases hc:x=42∧y=41
  ·rw[zqb hc.1,zqb hc.2,if_pos hc]
   simp only[Bool.and_self,if_true,zCH,k4,k6]
   by_cases hz:d=1
   ·have hz':eqI ((d:Int)-1) 0=true:=zqb (by omega)
    rw[hz',if_pos (show d<=1 by omega)]
    simp only[if_true]
    exact .inr ⟨p+2,by rw[show((p:Int)+2)=((p+2:Nat):Int) by omega],by rw[hd2],by omega,by omega⟩
   ·have hz':eqI ((d:Int)-1) 0=false:=decide_eq_false (by omega)
    rw[hz',if_neg (show¬d<=1 by omega)]
    simp only[Bool.false_eq_true,if_false]
    have:=go 2 (d-1) (by omega) (by omega) (by omega) (by omega) (by omega) ((p:Int)+2) ((d:Int)-1) (by omega) (by omega)
    rw[hd2] at this
    exact this
  ·have hnc:(decide (x=42)&&decide (y=41))=false:=by
    cases h:(decide (x=42)&&decide (y=41))
    ·rfl
    ·simp at h;exact(hc h).elim
   rw[hnc,if_neg hc]
   simp only[zCH,Bool.false_eq_true,if_false,k5]
   rw[if_neg (show¬eqI (d:Int) 0=true from fun h=>by have:=eqT h;omega)]
   have:=go 1 d (by omega) (by omega) (by omega) (by omega) (by omega) ((p:Int)+1) (d:Int) (by omega) rfl
   rw[hd1] at this
   exact this
theorem skip_loop(s:List UInt8)(hs:s.length<=100000)(w:zKW)(hw:w.s=s){fuel:Nat}(hf:s.length+10<=fuel): ∀(n i k:Nat)(I:Int),I=i->s.length-i<=n->n+1<=k->i<=s.length->
 ∃v,(zBU fuel w k I).bind (fun o=>Sum.elim some (fun o3=>some ((-1:Int),(zKW.mk w.s o3))) o)=some v∧
  ((∃m:Nat,i<=m∧m<=s.length∧v=(-1,zKW.mk s (m:Int))∧skp (s.drop i)=some (s.drop m))∨(∃m:Nat,m<=s.length∧v.1=(m:Int)∧skp (s.drop i)=none)):=by
 subst hw
 intro n
 induction n using Nat.strongRecOn with
 |_ n ih=>
 intro i k I hI hn hk hi
 obtain⟨g,rfl⟩: ∃g,k=g+1:=⟨k-1,by omega⟩
 subst hI
 rw[zBU]
 by_cases hend:w.s.length<=i
 ·rw[if_neg (show¬ltI (i:Int) (w.s.length:Int)=true from fun h=>by have:=ltT h;omega)]
  refine⟨_,rfl,.inl ⟨i,Nat.le_refl _,hi,rfl,?_⟩⟩
  rw[List.drop_eq_nil_of_le hend,skp_nil]
 have hx:w.s[i]? =some w.s[i]:=zq2 (by omega)
 have hd:w.s.drop i=w.s[i]::w.s.drop (i+1):=List.drop_eq_getElem_cons (by omega)
 generalize w.s[i]=c at hx hd
 have k1:chk .i64 ((i:Int)+1)=some ((i:Int)+1):=zHz (by omega) (by omega)
 have k2:chk .i64 ((i:Int)+2)=some ((i:Int)+2):=zHz (by omega) (by omega)
 rw[if_pos (show ltI (i:Int) (w.s.length:Int)=true from zqb (by omega)),subD w.s i (by omega)]
 have h0:(w.s.drop i)[0]? =some c:=by rw[hd];rfl
 simp only[zCH,h0,blank_L,blank_I]
 cases hb:blank c
 case true=>
  simp only[if_true,k1,zCH]
  rw[hd,zIM hb]
  obtain⟨v,v1,v2⟩:=ih (n-1) (by omega) (i+1) g ((i:Int)+1) (by omega) (by omega) (by omega) (by omega)
  refine⟨v,v1,?_⟩
  rcases v2 with ⟨m,m1,m2,m3,m4⟩|⟨m,m1,m2,m3⟩
  ·exact .inl ⟨m,by omega,m2,m3,m4⟩
  ·exact .inr ⟨m,m1,m2,m3⟩
 simp only[Bool.false_eq_true,if_false,has_M]
 cases hp:pre (w.s.drop i) [40,42]
 ·rw[hd] at hp ⊢
  exact⟨_,rfl,.inl ⟨i,Nat.le_refl _,hi,rfl,by rw[zJ0 hb hp,hd]⟩⟩
 simp only[if_true,zCH]
 obtain⟨r,hr⟩:=(pre2 _ _ _).1 hp
 have hrl:=congrArg List.length hr
 simp only[List.length_drop,List.length_cons] at hrl
 have hr2:w.s.drop (i+2)=r:=by rw[<-List.drop_drop,hr];rfl
 obtain⟨f2,rfl⟩: ∃f2,fuel=f2+1:=⟨fuel-1,by omega⟩
 have first:zAe w (i:Int) (f2+1) (i:Int) 0=zAe w (i:Int) f2 ((i:Int)+2) 1:=by
  rw[zAe,if_neg (show¬leI (w.s.length:Int) (i:Int)=true from fun h=>by have:=leT h;omega),subD w.s i (by omega)]
  simp only[zCH,has_M,hp,if_true]
  rw[show chk .i64 (0+1)=some 1 from rfl,k2]
  simp only[zCH]
  rw[if_neg (show¬eqI 1 0=true by decide)]
 rw[first,hr,skp_cmt]
 rcases comment_spec w.s hs w rfl (i:Int) (w.s.length-(i+2)) (i+2) f2 1 ((i:Int)+2) 1 (by omega) rfl (Nat.le_refl _) (by omega) (Nat.le_refl _) (by omega) (by omega) with ⟨l1,l2⟩|⟨q,l1,l2,l3,l4⟩
 ·rw[hr2] at l2
  rw[l1,l2]
  exact⟨_,rfl,.inr ⟨i,hi,rfl,rfl⟩⟩
 ·rw[hr2] at l2
  rw[l1,l2]
  simp only[zCH,Sum.elim_inr]
  obtain⟨v,v1,v2⟩:=ih (n-1) (by omega) q g (q:Int) rfl (by omega) (by omega) (by omega)
  refine⟨v,v1,?_⟩
  rcases v2 with ⟨m,m1,m2,m3,m4⟩|⟨m,m1,m2,m3⟩
  ·exact .inl ⟨m,by omega,m2,m3,m4⟩
  ·exact .inr ⟨m,m1,m2,m3⟩
theorem zJ1(s:List UInt8)(hs:s.length<=100000)(a:Nat)(ha:a<=s.length){fuel:Nat}(hf:s.length+10<=fuel):
 ∃v,zCY fuel (zKW.mk s (a:Int))=some v∧
  ((∃m:Nat,a<=m∧m<=s.length∧v=(-1,zKW.mk s (m:Int))∧skp (s.drop a)=some (s.drop m))∨(∃m:Nat,m<=s.length∧v.1=(m:Int)∧skp (s.drop a)=none)):=by
 rw[zCY]
 exact skip_loop s hs (zKW.mk s (a:Int)) rfl hf s.length a fuel (a:Int) rfl (by omega) (by omega) ha
inductive Toks:List UInt8->List (Int×List UInt8×List UInt8)->Prop where
 |done {s:List UInt8} (h:skp s=some []):Toks s [(8,[],[])]
 |next {s s' r x:List UInt8} {k:Int} {l:List (Int×List UInt8×List UInt8)} (h:skp s=some s') (h1:s'≠[]) (h2:tk s'=some (k,x,r)) (h3:Toks r l):Toks s ((k,x,s')::l)
theorem Toks.inj{s:List UInt8}{l l':List (Int×List UInt8×List UInt8)}(h:Toks s l):Toks s l'->l=l':=by
 induction h generalizing l' with
 |done h=>
  intro h'
  cases h' with
  |done _=>rfl
  |next g g1 g2 g3=>rw[h] at g;cases g;exact(g1 rfl).elim
 |next h h1 h2 h3 ih=>
  intro h'
  cases h' with
  |done g=>rw[h] at g;cases g;exact(h1 rfl).elim
  |next g g1 g2 g3=>
   rw[h] at g;cases g
   rw[h2] at g2;cases g2
   rw[ih g3]
def zH5(s:List UInt8)(q:Int×List UInt8×List UInt8):zKY:=zKY.mk q.1 q.2.1 (PL s (s.length-q.2.2.length))
theorem tokens_loop(s:List UInt8)(hs:s.length<=16384){fuel:Nat}(hf:s.length+100<=fuel): ∀(n a k:Nat)(out:List zKY),s.length-a<=n->n+1<=k->a<=s.length->out.length<=a->
 ∃r,zC4 fuel s k s (a:Int) out=some r∧
  ((r.2.2=0∧∃l,Toks (s.drop a) l∧r.1=out++l.map (zH5 s))∨(r.2.2≠0∧r.1=[]∧(∀l,¬Toks (s.drop a) l)∧∃i,i<=s.length∧r.2.1=PL s i)):=by
 intro n
 induction n using Nat.strongRecOn with
 |_ n ih=>
 intro a k out hn hk ha ho
 obtain⟨g,rfl⟩: ∃g,k=g+1:=⟨k-1,by omega⟩
 rw[zC4]
 have happ: ∀t:zKY,app 40 out [t]=some (out++[t]):=fun t=>app_some (by decide) (by simp;omega)
 obtain⟨v,s1,hv⟩:=zJ1 s (by omega) a ha (fuel:=fuel) (by omega)
 rw[s1]
 simp only[zCH]
 rcases hv with ⟨m,m1,m2,rfl,m4⟩|⟨m,m1,m2,m3⟩
 ·have hm1:leI 0 (-1)=false:=rfl
  simp only[hm1,Bool.false_eq_true,if_false]
  by_cases hend:s.length<=m
  ·have h1:leI (s.length:Int) (m:Int)=true:=zqb (by omega)
   rw[h1,place_M s s.length (by omega) (by omega) (by omega)]
   simp only[if_true,zCH,happ]
   refine⟨_,rfl,.inl ⟨rfl,[(8,[],[])],.done ?_,?_⟩⟩
   ·rw[m4,List.drop_eq_nil_of_le hend]
   ·simp[zH5]
  have h1:leI (s.length:Int) (m:Int)=false:=decide_eq_false (by omega)
  rw[h1]
  simp only[Bool.false_eq_true,if_false]
  have h3:eqI (out.length:Int) 20000=false:=decide_eq_false (by omega)
  rw[h3]
  simp only[Bool.false_eq_true,if_false]
  have hne:s.drop m≠[]:=fun e=>by have:=congrArg List.length e;simp at this;omega
  obtain⟨L,l1,ht⟩:=zHD s (by omega) m (by omega) (fuel:=fuel) (by omega)
  rw[l1]
  simp only[zCH]
  rcases ht with ⟨t1,N,t5,t6,t7,t8⟩|⟨t1,t2,P,t4,t5⟩
  ·have h4:eqI L.2.2.1 0=true:=zqb t1
   rw[h4,t8,place_M s m (by omega) (by omega) (by omega)]
   simp only[Bool.not_true,Bool.false_eq_true,if_false,zCH,happ]
   obtain⟨r,r1,r2⟩:=ih (n-1) (by omega) (m+N) g (out++[zKY.mk L.1.Kind L.1.Text (PL s m)]) (by omega) (by omega) (by omega) (by simp;omega)
   refine⟨r,r1,?_⟩
   rcases r2 with ⟨e0,l,q1,q2⟩|⟨e0,q0,q1,q2⟩
   ·refine .inl ⟨e0,(L.1.Kind,L.1.Text,s.drop m)::l,.next m4 hne t7 q1,?_⟩
    rw[q2]
    have:s.length-(s.length-m)=m:=by omega
    simp[zH5,this]
   ·refine .inr ⟨e0,q0,fun l hl=>?_,q2⟩
    cases hl with
    |done g=>rw[m4] at g;exact hne (zqa g)
    |next g g1 g2 g3=>
     rw[m4] at g;cases g
     rw[t7] at g2;cases g2
     exact q1 _ g3
  ·have h4:eqI L.2.2.1 0=false:=decide_eq_false t1
   rw[h4,t5]
   simp only[Bool.not_false,if_true,zCH]
   rw[place_M s (m+P) (by omega) (by omega) (by omega)]
   refine⟨_,rfl,.inr ⟨t1,rfl,fun l hl=>?_,m+P,t4,rfl⟩⟩
   cases hl with
   |done g=>rw[m4] at g;exact hne (zqa g)
   |next g g1 g2 g3=>
    rw[m4] at g;cases g
    rw[t2] at g2;cases g2
 ·have hm1:leI 0 v.1=true:=zqb (by omega)
  simp only[hm1,if_true]
  rw[m2,place_M s m (by omega) (by omega) (by omega)]
  refine⟨_,rfl,.inr ⟨(show(4:Int)≠0 by decide),rfl,fun l hl=>?_,m,m1,rfl⟩⟩
  cases hl with
  |done g=>rw[m3] at g;cases g
  |next g g1 g2 g3=>rw[m3] at g;cases g
theorem zFp(s:List UInt8)(hs:s.length<=16384){fuel:Nat}(hf:s.length+100<=fuel):
 ∃r,zCX fuel s=some r∧((r.2.2=0∧∃l,Toks s l∧r.1=l.map (zH5 s))∨(r.2.2≠0∧r.1=[]∧(∀l,¬Toks s l)∧∃i,i<=s.length∧r.2.1=PL s i)):=by
 rw[zCX,if_neg (show¬ltI 16384 (s.length:Int)=true from fun h'=>by have:=ltT h';omega)]
 have:=tokens_loop s hs hf s.length 0 fuel [] (by omega) (by omega) (by omega) (by simp)
 rw[List.drop_zero] at this
 exact this
theorem tk_len{s x r:List UInt8}{k:Int}(hs:s.length<=100000)(h:tk s=some (k,x,r)):r.length+1<=s.length:=by
 cases s with
 |nil=>simp[tk] at h
 |cons c t=>
  obtain⟨L,l1,l2⟩:=zHD (c::t) hs 0 (by simp) (fuel:=(c::t).length+100) (Nat.le_refl _)
  rcases l2 with ⟨_,N,n1,n2,n3,_⟩|⟨_,n1,_⟩
  ·rw[List.drop_zero,h] at n3
   simp only[Option.some.injEq,Prod.mk.injEq] at n3
   rw[n3.2.2,List.length_drop]
   omega
  ·rw[List.drop_zero,h] at n1;cases n1
theorem skp_len{s s':List UInt8}(hs:s.length<=100000)(h:skp s=some s'):s'.length<=s.length:=by
 obtain⟨v,_,hv⟩:=zJ1 s hs 0 (by omega) (fuel:=s.length+10) (Nat.le_refl _)
 rcases hv with ⟨m,m1,m2,_,m4⟩|⟨m,m1,_,m3⟩
 ·rw[List.drop_zero,h] at m4
  rw[zqa m4,List.length_drop]
  omega
 ·rw[List.drop_zero,h] at m3;cases m3
theorem Toks.len{s:List UInt8}{l:List (Int×List UInt8×List UInt8)}(hs:s.length<=100000)(h:Toks s l):l.length<=s.length+1:=by
 induction h with
 |done h=>simp
 |next h h1 h2 h3 ih=>
  have a1:=skp_len hs h
  have a2:=tk_len (by omega) h2
  have:=ih (by omega)
  simp only[List.length_cons]
  omega
def bd:List UInt8->Prop
 |[]=>True
 |c::_=>c=32∨c=9∨c=10∨c=40∨c=41
theorem bd_inB{u:List UInt8}(h:bd u): ∀c r,u=c::r->inB c=false∧diB c=false:=by
 rintro c r rfl
 rcases h with rfl|rfl|rfl|rfl|rfl<;>exact⟨rfl,rfl⟩
theorem cw_ext(p:UInt8->Bool)(s u:List UInt8)(h: ∀c r,u=c::r->p c=false):cw p (s++u) 0=cw p s 0:=by
 unfold cw
 simp only[List.drop_zero,Nat.zero_add]
 induction s with
 |nil=>
  cases u with
  |nil=>rfl
  |cons c r=>simp[h c r rfl]
 |cons c s ih=>
  rw[List.cons_append,List.takeWhile_cons,List.takeWhile_cons]
  split
  ·simp[ih]
  ·rfl
theorem cmt_ext(u:List UInt8): ∀(n d:Nat)(s r:List UInt8),s.length<=n->cmt d s=some r->cmt d (s++u)=some (r++u):=by
 intro n
 induction n using Nat.strongRecOn with
 |_ n ih=>
 intro d s r hs h
 match s,hs,h with
 |[],hs,h=>simp[cmt] at h
 |[x],hs,h=>simp[cmt] at h
 |x::y::t,hs,h=>
  rw[cmt] at h
  simp only[List.length_cons] at hs
  show cmt d (x::y::(t++u))=_
  rw[cmt]
  by_cases h1:x=40∧y=42
  ·rw[if_pos h1] at h ⊢
   exact ih (n-2) (by omega) _ t r (by omega) h
  ·rw[if_neg h1] at h ⊢
   by_cases h2:x=42∧y=41
   ·rw[if_pos h2] at h ⊢
    by_cases h3:d<=1
    ·rw[if_pos h3] at h ⊢
     cases h;rfl
    ·rw[if_neg h3] at h ⊢
     exact ih (n-2) (by omega) _ t r (by omega) h
   ·rw[if_neg h2] at h ⊢
    exact ih (n-1) (by omega) _ (y::t) r (by simp;omega) h
theorem zJZ(c:UInt8)(r u:List UInt8)(x y:UInt8)(h:bd u)(hy: ¬(y=32∨y=9∨y=10∨y=40∨y=41)):pre (c::r++u) [x,y]=pre (c::r) [x,y]:=by
 cases r with
 |cons d r=>unfold pre;simp
 |nil=>
  have h1:pre [c] [x,y]=false:=decide_eq_false (by simp)
  rw[h1]
  cases u with
  |nil=>exact h1
  |cons e u=>
   refine decide_eq_false ?_
   simp
   rintro _ rfl
   exact hy h
theorem sy_ext(c:UInt8)(r u:List UInt8)(h:bd u):sy (c::r++u)=sy (c::r):=by
 show sy (c::(r++u))=_
 rw[sy,sy]
 have e:pre (c::(r++u)) [40,42]=pre (c::r) [40,42]:=zJZ c r u 40 42 h (by decide)
 have e1:pre (c::(r++u)) [58,62]=pre (c::r) [58,62]:=zJZ c r u 58 62 h (by decide)
 have e2:pre (c::(r++u)) [61,62]=pre (c::r) [61,62]:=zJZ c r u 61 62 h (by decide)
 have e3:pre (c::(r++u)) [45,62]=pre (c::r) [45,62]:=zJZ c r u 45 62 h (by decide)
 have e4:pre (c::(r++u)) [60,61]=pre (c::r) [60,61]:=zJZ c r u 60 61 h (by decide)
 have e5:SA.find? (pre (c::(r++u)))=SA.find? (pre (c::r)):=by
  simp only[SA,List.find?_cons,e1,e2,e3,e4,List.find?_nil]
 rw[e,e5]
theorem tk_ext{s:List UInt8}{k:Int}{x r:List UInt8}(u:List UInt8)(hu:bd u)(h:tk s=some (k,x,r)):tk (s++u)=some (k,x,r++u):=by
 match s,h with
 |[],h=>simp[tk] at h
 |c::t,h=>
  have fin: ∀(p:UInt8->Bool),(∀c r,u=c::r->p c=false)->cw p (c::(t++u)) 0=cw p (c::t) 0:=fun p hp=>by
   have:=cw_ext p (c::t) u hp
   rwa [List.cons_append] at this
  have tkd: ∀N,N<=(c::t).length->(c::(t++u)).take N=(c::t).take N∧(c::(t++u)).drop N=(c::t).drop N++u:=fun N hN=>by
   rw[<-List.cons_append]
   exact⟨List.take_append_of_le_length hN,List.drop_append_of_le_length hN⟩
  rw[List.cons_append,tk.eq_def]
  rw[tk.eq_def] at h
  dsimp only at h ⊢
  by_cases h1:(smB c||caB c)=true
  ·rw[if_pos h1] at h ⊢
   have hle:=(cw_le inB (c::t) 0 (by simp)).2
   rw[fin inB (fun c r e=>(bd_inB hu c r e).1),(tkd _ hle).1,(tkd _ hle).2]
   by_cases h2:24<cw inB (c::t) 0
   ·rw[if_pos h2] at h;cases h
   ·rw[if_neg h2] at h ⊢;cases h;rfl
  rw[if_neg h1] at h ⊢
  by_cases h2:c=39
  ·rw[if_pos h2] at h ⊢
   match t,h,tkd with
   |[],h,_=>cases h
   |d::t,h,tkd=>
    dsimp only[List.cons_append] at h tkd ⊢
    have fin2:cw inB (d::(t++u)) 0=cw inB (d::t) 0:=by
     have:=cw_ext inB (d::t) u (fun c r e=>(bd_inB hu c r e).1)
     rwa [List.cons_append] at this
    rw[fin2]
    by_cases h3:smB d=true
    ·rw[if_pos h3] at h ⊢
     have hle:=(cw_le inB (d::t) 0 (by simp)).2
     have hle':cw inB (d::t) 0+1<=(c::d::t).length:=by simp at hle ⊢;omega
     rw[(tkd _ hle').1,(tkd _ hle').2]
     by_cases h4:24<cw inB (d::t) 0+1
     ·rw[if_pos h4] at h;cases h
     ·rw[if_neg h4] at h ⊢;cases h;rfl
    ·rw[if_neg h3] at h;cases h
  rw[if_neg h2] at h ⊢
  by_cases h3:diB c=true
  ·rw[if_pos h3] at h ⊢
   have hle:=(cw_le diB (c::t) 0 (by simp)).2
   rw[fin diB (fun c r e=>(bd_inB hu c r e).2),(tkd _ hle).1,(tkd _ hle).2]
   split at h
   ·rename_i h4
    rw[if_pos h4];cases h;rfl
   ·cases h
  rw[if_neg h3] at h ⊢
  by_cases h4:c=34
  ·rw[if_pos h4] at h ⊢
   cases hl:lt t with
   |none=>rw[hl] at h;cases h
   |some q=>
    obtain⟨m,rest⟩:=q
    rw[hl] at h
    cases h
    obtain⟨a1,a2⟩:=zKC _ t _ _ (Nat.le_refl _) hl
    have:lt (t++u)=some (m,rest++u):=by
     rw[a2,List.append_assoc]
     exact lt_qs (rest++u) m a1
    rw[this];rfl
  rw[if_neg h4] at h ⊢
  have hsy:=sy_ext c t u hu
  rw[List.cons_append] at hsy
  rw[hsy]
  have hle:=(zHY c t (fuel:=40) (Nat.le_refl _)).2.1
  rw[(tkd _ hle).2]
  split at h
  ·cases h
  ·rename_i h5;rw[if_neg h5];cases h;rfl
theorem skp_ext(u:List UInt8)(hu:bd u): ∀(n:Nat)(s s':List UInt8),s.length<=n->skp s=some s'->skp (s++u)=if s'=[] then skp u else some (s'++u):=by
 intro n
 induction n using Nat.strongRecOn with
 |_ n ih=>
 intro s s' hs h
 match s,hs,h with
 |[],hs,h=>rw[skp_nil] at h;cases h;rfl
 |c::t,hs,h=>
  simp only[List.length_cons] at hs
  cases hb:blank c
  case true=>
   rw[zIM hb] at h
   rw[List.cons_append,zIM hb]
   exact ih (n-1) (by omega) t s' (by omega) h
  cases hp:pre (c::t) [40,42]
  case true=>
   obtain⟨r,hr⟩:=(pre2 _ _ _).1 hp
   rw[hr] at h ⊢
   have hrl:=congrArg List.length hr
   simp only[List.length_cons] at hrl
   rw[skp_cmt] at h
   rw[List.cons_append,List.cons_append,skp_cmt]
   cases hc:cmt 1 r with
   |none=>rw[hc] at h;cases h
   |some r'=>
    rw[hc,zCH] at h
    rw[cmt_ext u _ 1 r r' (Nat.le_refl _) hc,zCH]
    have:=cmt_len _ _ _ _ (Nat.le_refl _) hc
    exact ih (n-1) (by omega) r' s' (by omega) h
  ·rw[zJ0 hb hp] at h
   cases h
   rw[if_neg (by simp)]
   have:=zJZ c t u 40 42 hu (by decide)
   rw[hp] at this
   rw[List.cons_append] at this ⊢
   exact zJ0 hb this
theorem Toks.ext{s:List UInt8}{l:List (Int×List UInt8×List UInt8)}(u:List UInt8)(hu:bd u){lu:List (Int×List UInt8×List UInt8)}(h2:Toks u lu)(h:Toks s l):
 Toks (s++u) (l.dropLast.map (fun q=>(q.1,q.2.1,q.2.2++u))++lu):=by
 induction h with
 |@done s h=>
  have e:=skp_ext u hu _ s [] (Nat.le_refl _) h
  rw[if_pos rfl] at e
  simp only[List.dropLast_singleton,List.map_nil,List.nil_append]
  cases h2 with
  |done g=>exact .done (e.trans g)
  |next g g1 g2 g3=>exact .next (e.trans g) g1 g2 g3
 |@next s s' r x k l h h1 hk h3 ih=>
  have e:=skp_ext u hu _ s s' (Nat.le_refl _) h
  rw[if_neg h1] at e
  have hl:l≠[]:=by cases h3<;>simp
  rw[List.dropLast_cons_of_ne_nil hl,List.map_cons,List.cons_append]
  exact .next e (by simp[h1]) (tk_ext u hu hk) ih
def kt(t:zKY):Int×List UInt8:=(t.Kind,t.Text)
theorem subTg{α:Type}(s:List α)(n:Nat)(h:n<=s.length):subC s 0 (n:Int)=some (s.take n):=by
 rw[subC,if_pos ⟨by omega,by omega,by omega⟩]
 simp[sub]
theorem Toks.skip{u t:List UInt8}{l:List (Int×List UInt8×List UInt8)}(h:skp u=skp t)(h2:Toks t l):Toks u l:=by
 cases h2 with
 |done g=>exact .done (h.trans g)
 |next g g1 g2 g3=>exact .next (h.trans g) g1 g2 g3
def rt(t:zKY):Bool:=if t.Kind=5 then decide (t.Text.length<=16384)&&t.Text.all okc else decide (tk t.Text=some (t.Kind,t.Text,[]))
def wt(t:zKY):List UInt8:=if t.Kind=5 then 34::(qs t.Text++[34]) else t.Text
theorem sy_first{c:UInt8}{r:List UInt8}(h:sy (c::r)≠[]):(smB c||caB c)=false∧c≠39∧diB c=false∧c≠34∧blank c=false:=by
 have key: ∀d∈([58,61,45,60]++SB:List UInt8),(smB d||caB d)=false∧d≠39∧diB d=false∧d≠34∧blank d=false:=by decide
 refine key c ?_
 rw[sy] at h
 split at h
 ·exact(h rfl).elim
 split at h
 ·rename_i x hx
  have h1:=List.find?_some hx
  have h2:=List.mem_of_find?_eq_some hx
  simp only[SA,List.mem_cons,List.not_mem_nil,or_false] at h2
  rcases h2 with rfl|rfl|rfl|rfl<;>obtain⟨q,hq⟩:=(pre2 _ _ _).1 h1<;>cases hq<;>simp
 ·split at h
  ·rename_i h3
   have:c∈SB:=by
    refine Classical.byContradiction fun hn=>?_
    have hno: ∀l:List UInt8,c∉l->Lib.indexByte l c= -1:=by
     intro l
     induction l with
     |nil=>intro _;rfl
     |cons b l ih=>
      intro hb
      have hb1: ¬b=c:=fun e=>hb (by rw[e];exact zq9 ..)
      have hb2:c∉l:=fun e=>hb (zqc _ e)
      simp[Lib.indexByte,hb1,ih hb2]
    have:=hno SB hn
    omega
   exact List.mem_append_right _ this
  ·exact(h rfl).elim
theorem zFw{s x r:List UInt8}{k:Int}(h:tk s=some (k,x,r)):(k=1∨k=2∨k=3∨k=4∨k=5∨k=6∨k=7)∧(k≠5->s=x++r)∧s≠[]∧skp s=some s∧(k=7->sy s=x):=by
 match s,h with
 |[],h=>simp[tk] at h
 |c::t,h=>
  have hsk:blank c=false->pre (c::t) [40,42]=false->skp (c::t)=some (c::t):=zJ0
  have hp:c≠40->pre (c::t) [40,42]=false:=fun hc=>by
   cases hh:pre (c::t) [40,42]
   ·rfl
   ·obtain⟨q,hq⟩:=(pre2 _ _ _).1 hh
    cases hq;exact(hc rfl).elim
  have bl: ∀c:UInt8,blank c=true->c=32∨c=9∨c=10:=fun c h=>by
   unfold blank at h
   simpa using h
  rw[tk.eq_def] at h
  dsimp only at h
  by_cases h1:(smB c||caB c)=true
  ·rw[if_pos h1] at h
   have n40:c≠40:=fun e=>by subst e;revert h1;decide
   have nb:blank c=false:=by
    cases hb:blank c
    ·rfl
    ·rcases bl c hb with rfl|rfl|rfl<;>(revert h1;decide)
   split at h
   ·cases h
   ·simp only[Option.some.injEq,Prod.mk.injEq] at h
    obtain⟨rfl,rfl,rfl⟩:=h
    refine⟨?_,fun _=>(List.take_append_drop _ _).symm,by simp,hsk nb (hp n40),fun e=>?_⟩
    ·split
     ·simp
     ·split<;>simp
    ·split at e
     ·omega
     ·split at e<;>omega
  rw[if_neg h1] at h
  by_cases h2:c=39
  ·subst h2
   rw[if_pos rfl] at h
   have n40:(39:UInt8)≠40:=by decide
   split at h
   ·cases h
   ·split at h
    ·split at h
     ·cases h
     ·simp only[Option.some.injEq,Prod.mk.injEq] at h
      obtain⟨rfl,rfl,rfl⟩:=h
      exact⟨by simp,fun _=>(List.take_append_drop _ _).symm,by simp,hsk rfl (hp n40),fun e=>by omega⟩
    ·cases h
  rw[if_neg h2] at h
  by_cases h3:diB c=true
  ·rw[if_pos h3] at h
   have n40:c≠40:=fun e=>by subst e;revert h3;decide
   have nb:blank c=false:=by
    cases hb:blank c
    ·rfl
    ·rcases bl c hb with rfl|rfl|rfl<;>(revert h3;decide)
   split at h
   ·simp only[Option.some.injEq,Prod.mk.injEq] at h
    obtain⟨rfl,rfl,rfl⟩:=h
    exact⟨by simp,fun _=>(List.take_append_drop _ _).symm,by simp,hsk nb (hp n40),fun e=>by omega⟩
   ·cases h
  rw[if_neg h3] at h
  by_cases h4:c=34
  ·subst h4
   rw[if_pos rfl] at h
   cases hl:lt t with
   |none=>rw[hl] at h;cases h
   |some q=>
    rw[hl] at h
    simp only[Option.map_some,Option.some.injEq,Prod.mk.injEq] at h
    obtain⟨rfl,rfl,rfl⟩:=h
    exact⟨by simp,fun e=>(e rfl).elim,by simp,hsk rfl (hp (by decide)),fun e=>by omega⟩
  rw[if_neg h4] at h
  obtain⟨_,y2,y3⟩:=zHY c t (fuel:=40) (Nat.le_refl _)
  split at h
  ·cases h
  ·rename_i h5
   have hf:=sy_first h5
   simp only[Option.some.injEq,Prod.mk.injEq] at h
   obtain⟨rfl,rfl,rfl⟩:=h
   refine⟨by simp,fun _=>?_,by simp,hsk hf.2.2.2.2 ?_,fun _=>rfl⟩
   ·have:=(List.take_append_drop (sy (c::t)).length (c::t)).symm
    rw[y3] at this
    exact this
   ·cases hh:pre (c::t) [40,42]
    ·rfl
    ·rw[sy,if_pos hh] at h5;exact(h5 rfl).elim
theorem tk_sy{c:UInt8}{t:List UInt8}(h:sy (c::t)≠[]):tk (c::t)=some (7,sy (c::t),(c::t).drop (sy (c::t)).length):=by
 obtain⟨a1,a2,a3,a4,_⟩:=sy_first h
 rw[tk.eq_def]
 dsimp only
 rw[if_neg (by rw[a1];simp),if_neg a2,if_neg (by rw[a3];simp),if_neg a4,if_neg h]
theorem tokB(t:zKY)(h5:t.Kind≠5)(hne:t.Text≠[])(hl:t.Text.length<=20000){fuel:Nat}(hf:20200<=fuel):
 ∃L,zBI fuel (zKW.mk t.Text 0)=some L∧((eqI L.2.2.1 0)&&((eqI L.1.Kind t.Kind)&&(eqI L.2.2.2.at_ (t.Text.length:Int))))=rt t:=by
 have hpos:0<t.Text.length:=by
  cases h:t.Text with
  |nil=>exact(hne h).elim
  |cons c r=>simp
 obtain⟨L,l1,l2⟩:=zHD t.Text (by omega) 0 hpos (fuel:=fuel) (by omega)
 refine⟨L,l1,?_⟩
 unfold rt
 rw[if_neg h5]
 unfold TKS at l2
 simp only[List.drop_zero,Nat.zero_add] at l2
 rcases l2 with ⟨e0,N,n1,n2,n3,n4⟩|⟨e0,n1,_⟩
 ·rw[zqb (show L.2.2.1=0 from e0)|>(show eqI L.2.2.1 0=true from ·),Bool.true_and,n4,n3]
  obtain⟨c1,c2,_⟩:=zFw n3
  by_cases hk:L.1.Kind=t.Kind
  ·by_cases hN:N=t.Text.length
   ·have e1:eqI L.1.Kind t.Kind=true:=zqb hk
    have e2:eqI ((N:Nat):Int) (t.Text.length:Int)=true:=zqb (by omega)
    have hd:t.Text.drop N=[]:=List.drop_eq_nil_of_le (by omega)
    have hx:=c2 (by rw[hk];exact h5)
    rw[hd,List.append_nil] at hx
    rw[e1]
    dsimp only
    rw[e2,hd,hk,<-hx]
    simp
   ·have e2:eqI ((N:Nat):Int) (t.Text.length:Int)=false:=decide_eq_false (by omega)
    dsimp only
    rw[e2,Bool.and_false]
    refine(decide_eq_false ?_).symm
    intro e
    simp only[Option.some.injEq,Prod.mk.injEq] at e
    have:=congrArg List.length e.2.2
    simp at this
    omega
  ·have e1:eqI L.1.Kind t.Kind=false:=decide_eq_false hk
   rw[e1,Bool.false_and]
   refine(decide_eq_false ?_).symm
   intro e
   simp only[Option.some.injEq,Prod.mk.injEq] at e
   exact hk e.1
 ·rw[decide_eq_false (show¬L.2.2.1=0 from e0)|>(show eqI L.2.2.1 0=false from ·),Bool.false_and,n1]
  rfl
theorem Symbol_nil{fuel:Nat}(hf:40<=fuel):zDT fuel []=some ([],false):=by
 rw[zDT,has_M]
 have hA:=Sym_loop [] SA 4 0 fuel rfl (by omega)
 have h0:pre [] [40,42]=false:=rfl
 simp only[zCH,h0,Bool.false_eq_true,if_false]
 change ((zCF [] SA fuel 0).bind _)=_
 rw[hA]
 rfl
theorem written_M(t:zKY)(hl:t.Text.length<=17000){fuel:Nat}(hf:20200<=fuel): ∃w,zEA fuel t=some (w,rt t)∧(rt t=true->w=wt t)∧w.length<=40000:=by
 rw[zEA]
 have ek: ∀n:Int,eqI t.Kind n=decide (t.Kind=n):=fun n=>rfl
 simp only[ek]
 by_cases h5:t.Kind=5
 ·have hwt:wt t=34::(qs t.Text++[34]):=by unfold wt;rw[if_pos h5]
  have hrt:rt t=(decide (t.Text.length<=16384)&&t.Text.all okc):=by unfold rt;rw[if_pos h5]
  rw[zqb h5,if_pos rfl,hrt]
  by_cases hs:t.Text.length<=16384
  ·rw[Quote_M hs (by omega),zqb hs,Bool.true_and]
   have:=qs_len t.Text
   cases ha:t.Text.all okc
   ·exact⟨[],rfl,fun h=>(by cases h),by simp⟩
   ·exact⟨34::(qs t.Text++[34]),rfl,fun _=>hwt.symm,by simp;omega⟩
  ·rw[zER,if_pos (show ltI 16384 (t.Text.length:Int)=true from zqb (by omega)),decide_eq_false hs,Bool.false_and]
   exact⟨[],rfl,fun h=>(by cases h),by simp⟩
 rw[decide_eq_false h5]
 have hwt:wt t=t.Text:=by unfold wt;rw[if_neg h5]
 simp only[Bool.false_eq_true,if_false]
 by_cases h7:t.Kind=7
 ·rw[zqb h7]
  simp only[if_true]
  have hrt:rt t=decide (tk t.Text=some (7,t.Text,[])):=by unfold rt;rw[if_neg h5,h7]
  rw[hrt]
  generalize t.Text=s at hl hwt
  match s,hl,hwt with
  |[],hl,hwt=>
   rw[Symbol_nil (by omega)]
   exact⟨[],rfl,fun h=>(by cases h),by simp⟩
  |c::r,hl,hwt=>
   obtain⟨y1,y2,y3⟩:=zHY c r (fuel:=fuel) (by omega)
   rw[y1]
   simp only[zCH]
   refine⟨c::r,?_,fun _=>hwt.symm,by omega⟩
   congr 2
   by_cases hs:sy (c::r)=c::r
   ·have hn:sy (c::r)≠[]:=by rw[hs];simp
    have e1:eqS (sy (c::r)) (c::r)=true:=zqb hs
    rw[zqb hn,e1,tk_sy hn,hs]
    simp
   ·have e1:eqS (sy (c::r)) (c::r)=false:=decide_eq_false hs
    rw[e1,Bool.and_false]
    refine(decide_eq_false fun e=>?_).symm
    exact hs ((zFw e).2.2.2.2 rfl)
 rw[decide_eq_false h7]
 simp only[Bool.false_eq_true,if_false]
 by_cases hne:t.Text=[]
 ·have hrt:rt t=false:=by unfold rt;rw[if_neg h5,hne];simp[tk]
  have e1:eqS t.Text []=true:=zqb hne
  simp only[e1,if_true,hrt,ite_self]
  exact⟨[],rfl,fun h=>(by cases h),by simp⟩
 have e1:eqS t.Text []=false:=decide_eq_false hne
 obtain⟨L,l1,l2⟩:=tokB t h5 hne (by omega) (fuel:=fuel) hf
 simp only[e1,Bool.false_eq_true,if_false,l1,zCH,l2]
 by_cases hk:t.Kind=1∨t.Kind=2∨t.Kind=3∨t.Kind=4∨t.Kind=6
 ·refine⟨t.Text,?_,fun _=>hwt.symm,by omega⟩
  rcases hk with h|h|h|h|h<;>simp[h]
 ·have n1: ¬t.Kind=1:=fun e=>hk (.inl e)
  have n2: ¬t.Kind=2:=fun e=>hk (.inr (.inl e))
  have n3: ¬t.Kind=3:=fun e=>hk (.inr (.inr (.inl e)))
  have n4: ¬t.Kind=4:=fun e=>hk (.inr (.inr (.inr (.inl e))))
  have n6: ¬t.Kind=6:=fun e=>hk (.inr (.inr (.inr (.inr e))))
  have hrt:rt t=false:=by
   unfold rt
   rw[if_neg h5]
   refine decide_eq_false fun e=>?_
   have:=(zFw e).1
   omega
  simp only[decide_eq_false n1,decide_eq_false n2,decide_eq_false n3,decide_eq_false n4,decide_eq_false n6,Bool.false_eq_true,if_false,hrt]
  exact⟨[],rfl,fun h=>(by cases h),by simp⟩
def Vl(l:List zKY):Prop:=l.length<=20100∧∀t∈l,t.Text.length<=17000
def zHy(l:List zKY):List zKY:=match l.getLast? with
 |some t=>if t.Kind=8∧t.Text=[] then l.dropLast else l
 |none=>l
def JN(l:List zKY):List UInt8×Int:=
 if 20000<l.length then ([],5)
 else if l.all rt=true then (if 16384<(Lib.join (l.map wt) [32]).length then ([],5) else (Lib.join (l.map wt) [32],0))
 else ([],3)
theorem cutEnd_V{l:List zKY}(h:Vl l):Vl (zHy l):=by
 unfold zHy
 split
 ·split
  ·exact⟨by have:=h.1;simp;omega,fun t ht=>h.2 t (List.dropLast_subset _ ht)⟩
  ·exact h
 ·exact h
theorem wt_len(t:zKY)(h:t.Text.length<=17000):(wt t).length<=40000:=by
 unfold wt
 split
 ·have:=qs_len t.Text;simp;omega
 ·omega
theorem joinTail_len(ws:List (List UInt8))(h: ∀w∈ws,w.length<=40000):(Lib.joinTail [32] ws).length<=40001*ws.length:=by
 induction ws with
 |nil=>simp[Lib.joinTail]
 |cons w ws ih=>
  have h1:=ih (fun x hx=>h x (zqc _ hx))
  have h2:=h w (zq9 ..)
  simp only[Lib.joinTail,List.map_cons,List.flatten_cons,List.length_append,List.length_cons,List.length_nil] at h1 ⊢
  omega
theorem join_len(ws:List (List UInt8))(h: ∀w∈ws,w.length<=40000):(Lib.join ws [32]).length<=40001*ws.length:=by
 cases ws with
 |nil=>simp[Lib.join_nil]
 |cons w ws=>
  have h1:=joinTail_len ws (fun x hx=>h x (zqc _ hx))
  have h2:=h w (zq9 ..)
  rw[Lib.join_cons]
  simp only[List.length_append,List.length_cons]
  omega
theorem wts_len{l:List zKY}(h: ∀t∈l,t.Text.length<=17000): ∀w∈l.map wt,w.length<=40000:=fun w hw=>by
 obtain⟨t,ht,rfl⟩:=List.mem_map.1 hw
 exact wt_len t (h t ht)
theorem idx_loop(l:List zKY)(hV: ∀t∈l,t.Text.length<=17000){fuel:Nat}(hf:20200<=fuel): ∀(n i k:Nat)(c:List (List UInt8)),i+n=l.length->n+1<=k->c.length<=i->l.length<=100000->
 ∃o,zAi fuel l k c i=some o∧(((l.drop i).all rt=true∧o=.inr (c++(l.drop i).map wt))∨((l.drop i).all rt=false∧∃(j:Nat) (c':List (List UInt8)),o=.inl ((j:Int),c'))):=by
 intro n
 induction n with
 |zero=>
  intro i k c hi hk hc hl
  obtain⟨g,rfl⟩: ∃g,k=g+1:=⟨k-1,by omega⟩
  rw[zAi,if_neg (show¬ltI (i:Int) (l.length:Int)=true from fun h=>by have:=ltT h;omega),List.drop_eq_nil_of_le (by omega)]
  exact⟨_,rfl,.inl ⟨rfl,by simp⟩⟩
 |succ n ih=>
  intro i k c hi hk hc hl
  obtain⟨g,rfl⟩: ∃g,k=g+1:=⟨k-1,by omega⟩
  have hx:l[i]? =some l[i]:=zq2 (by omega)
  have hdc:l.drop i=l[i]::l.drop (i+1):=List.drop_eq_getElem_cons (by omega)
  have hm:=hV l[i] (List.getElem_mem _)
  generalize l[i]=t at hx hdc hm
  rw[zAi,if_pos (show ltI (i:Int) (l.length:Int)=true from zqb (by omega)),hx,hdc]
  simp only[zCH]
  obtain⟨w,w1,w2,w3⟩:=written_M t hm (fuel:=fuel) hf
  rw[zFM,w1]
  simp only[zCH]
  rw[app_some (by decide) (by simp;omega)]
  simp only[zCH,List.all_cons,List.map_cons]
  cases hr:rt t
  ·simp only[Bool.not_false,if_true,Bool.false_and]
   exact⟨_,rfl,.inr ⟨by first|rfl|trivial,i,_,rfl⟩⟩
  ·simp only[Bool.not_true,Bool.false_eq_true,if_false,Bool.true_and]
   rw[w2 hr]
   obtain⟨o,o1,o2⟩:=ih (i+1) g (c++[wt t]) (by omega) (by omega) (by simp;omega) hl
   refine⟨o,o1,?_⟩
   rcases o2 with ⟨a,b⟩|⟨a,j,c',b⟩
   ·exact .inl ⟨a,by rw[b];simp⟩
   ·exact .inr ⟨a,j,c',b⟩
theorem contains_M(l:List zKY)(hV:Vl l){fuel:Nat}(hf:40000<=fuel): ∃v,zAo fuel l []=some v∧v.1= !(l.all rt)∧(l.all rt=true->v.2=l.map wt):=by
 have hl:=hV.1
 obtain⟨o,o1,o2⟩:=idx_loop l hV.2 (fuel:=fuel) (by omega) l.length 0 fuel [] (by omega) (by omega) (by simp) (by omega)
 rw[zAo,zBs,o1]
 simp only[zCH]
 rw[List.drop_zero] at o2
 rcases o2 with ⟨a,rfl⟩|⟨a,j,c',rfl⟩
 ·exact⟨(leI 0 (-1),[]++l.map wt),by first|rfl|trivial,by rw[a];rfl,fun _=>by simp⟩
 ·refine⟨_,rfl,?_,fun h=>(by rw[a] at h;cases h)⟩
  rw[a]
  exact zqb (by show(0:Int)<=(j:Int);omega)
theorem getLast_some{α:Type}(l:List α)(hl:l≠[]):l.getLast? =some (l.getLast hl):=by
 cases l with
 |nil=>exact(hl rfl).elim
 |cons a t=>rfl
theorem last_M(l:List zKY):((if ltI 0 (l.length:Int)=true then (idx l ((l.length:Int)-1)).bind fun x6=>if eqI x6.Kind 8=true then some (eqS x6.Text ([]:List UInt8)) else some false else some false:Option Bool))=
 some (decide (zHy l≠l)):=by
 by_cases hl:l=[]
 ·subst hl;rfl
 have hpos:0<l.length:=by
  cases l with
  |nil=>exact(hl rfl).elim
  |cons _ _=>simp
 have hx:idx l ((l.length:Int)-1)=some (l.getLast hl):=by
  rw[show((l.length:Int)-1)=((l.length-1:Nat):Int) by omega,idxN,zq2 (by omega),List.getLast_eq_getElem]
 have hg:l.getLast? =some (l.getLast hl):=getLast_some _ hl
 rw[if_pos (show ltI 0 (l.length:Int)=true from zqb (by omega)),hx]
 simp only[zCH]
 have hd:l.dropLast≠l:=fun e=>by have:=congrArg List.length e;simp at this;omega
 have hc:zHy l=if (l.getLast hl).Kind=8∧(l.getLast hl).Text=[] then l.dropLast else l:=by unfold zHy;rw[hg]
 generalize l.getLast hl=t at hc
 by_cases h8:t.Kind=8
 ·rw[show eqI t.Kind 8=true from zqb h8,if_pos rfl]
  by_cases h0:t.Text=[]
  ·rw[if_pos ⟨h8,h0⟩] at hc
   rw[zqb (by rw[hc];exact hd),show eqS t.Text []=true from zqb h0]
  ·rw[if_neg (fun e=>h0 e.2)] at hc
   rw[decide_eq_false (by rw[hc];simp),show eqS t.Text []=false from decide_eq_false h0]
 ·rw[if_neg (fun e=>h8 e.1)] at hc
  rw[show eqI t.Kind 8=false from decide_eq_false h8,decide_eq_false (by rw[hc];simp)]
  rfl
theorem cut_take{l:List zKY}(h:zHy l≠l):zHy l=l.take (l.length-1)∧1<=l.length:=by
 unfold zHy at h ⊢
 split at h
 ·rename_i t ht
  split at h
  ·rename_i h2
   rw[if_pos h2,List.dropLast_eq_take]
   refine⟨rfl,?_⟩
   cases l with
   |nil=>cases ht
   |cons _ _=>simp
  ·exact(h rfl).elim
 ·exact(h rfl).elim
theorem join_tail(l:List zKY)(hV:Vl l){fuel:Nat}(hf:40000<=fuel):(if ltI 20000 (l.length:Int)=true then some (([]:List UInt8),(5:Int)) else (mkC 16 (l.length:Int)).bind fun u54=>(zAo fuel l ([]:List (List UInt8))).bind fun v58=>
 if v58.1 then some (([]:List UInt8),(3:Int)) else (zDw v58.2 [32]).bind fun v61=>if ltI 16384 (v61.length:Int) then some (([]:List UInt8),(5:Int)) else some (v61,0))=some (JN l):=by
 have hl:=hV.1
 unfold JN
 by_cases h:20000<l.length
 ·rw[if_pos (show ltI 20000 (l.length:Int)=true from zqb (by omega)),if_pos h]
 rw[if_neg (show¬ltI 20000 (l.length:Int)=true from fun e=>by have:=ltT e;omega),if_neg h,mkC,if_pos ⟨by omega,by omega,by omega⟩]
 simp only[zCH]
 obtain⟨v,v1,v2,v3⟩:=contains_M l hV hf
 rw[v1]
 simp only[zCH,v2]
 cases ha:l.all rt
 ·rfl
 ·simp only[Bool.not_true,Bool.false_eq_true,if_false,if_true]
  rw[v3 ha]
  have hj:=join_len (l.map wt) (wts_len hV.2)
  rw[zq4] at hj
  rw[zDw,if_pos ⟨by rw[zq4];omega,by omega⟩]
  simp only[zCH]
  by_cases hb:16384<(Lib.join (l.map wt) [32]).length
  ·rw[if_pos (show ltI 16384 _=true from zqb (by omega)),if_pos hb]
  ·rw[if_neg (show¬ltI 16384 _=true from fun e=>by have:=ltT e;omega),if_neg hb]
theorem Join_M(l:List zKY)(hV:Vl l){fuel:Nat}(hf:40000<=fuel):zEJ fuel l=some (JN (zHy l)):=by
 have hl:=hV.1
 rw[zEJ,last_M]
 simp only[zCH]
 by_cases hc:zHy l=l
 ·rw[decide_eq_false (by simp[hc])]
  simp only[Bool.false_eq_true,if_false]
  rw[hc]
  exact join_tail l hV hf
 ·obtain⟨c1,c2⟩:=cut_take hc
  rw[zqb hc]
  simp only[if_true]
  rw[zHz (by omega) (by omega)]
  simp only[zCH]
  rw[show((l.length:Int)-1)=((l.length-1:Nat):Int) by omega,subTg l (l.length-1) (by omega)]
  simp only[zCH]
  rw[<-c1]
  exact join_tail (zHy l) (cutEnd_V hV) hf
theorem rt_tk{t:zKY}(h:rt t=true):tk (wt t)=some (t.Kind,t.Text,[]):=by
 unfold rt at h
 unfold wt
 by_cases h5:t.Kind=5
 ·rw[if_pos h5] at h ⊢
  rw[zq7] at h
  rw[tk.eq_def]
  dsimp only
  rw[if_neg (by decide),if_neg (by decide),if_neg (by decide),if_pos rfl]
  have:=lt_qs [] t.Text h.2
  rw[this,h5];rfl
 ·rw[if_neg h5] at h ⊢
  exact of_decide_eq_true h
theorem join_Toks: ∀ts:List zKY,ts.all rt=true->∃L,Toks (Lib.join (ts.map wt) [32]) (L++[(8,[],[])])∧(L.map fun q=>(q.1,q.2.1))=ts.map kt
 |[],_=>⟨[],.done (by rw[List.map_nil,Lib.join_nil,skp_nil]),rfl⟩
 |t::ts,h=>by
  rw[List.all_cons,zq7] at h
  obtain⟨L,l1,l2⟩:=join_Toks ts h.2
  have hk:=rt_tk h.1
  obtain⟨_,_,hne,hs,_⟩:=zFw hk
  have h1:Toks (wt t) [(t.Kind,t.Text,wt t),(8,[],[])]:=.next hs hne hk (.done skp_nil)
  rw[List.map_cons,Lib.join_cons]
  have hu:bd (Lib.joinTail [32] (ts.map wt))∧Toks (Lib.joinTail [32] (ts.map wt)) (L++[(8,[],[])]):=by
   cases ts with
   |nil=>exact⟨trivial,l1⟩
   |cons t2 ts=>
    have e:Lib.joinTail [32] ((t2::ts).map wt)=32::Lib.join ((t2::ts).map wt) [32]:=by
     rw[List.map_cons,Lib.join_cons];simp[Lib.joinTail]
    rw[e]
    exact⟨.inl rfl,Toks.skip (zIM rfl) l1⟩
  have:=Toks.ext _ hu.1 hu.2 h1
  refine⟨(t.Kind,t.Text,wt t++Lib.joinTail [32] (ts.map wt))::L,this,?_⟩
  rw[List.map_cons,l2];rfl
theorem tk_text{s x r:List UInt8}{k:Int}(hs:s.length<=100000)(h:tk s=some (k,x,r)):x.length<=s.length:=by
 by_cases h5:k=5
 ·subst h5
  match s,h with
  |[],h=>simp[tk] at h
  |c::t,h=>
   obtain⟨L,l1,l2⟩:=zHD (c::t) hs 0 (by simp) (fuel:=(c::t).length+100) (Nat.le_refl _)
   rw[tk.eq_def] at h
   dsimp only at h
   split at h
   ·split at h
    ·cases h
    ·simp only[Option.some.injEq,Prod.mk.injEq] at h;rw[<-h.2.1,List.length_take];omega
   split at h
   ·split at h
    ·cases h
    ·split at h
     ·split at h
      ·cases h
      ·simp only[Option.some.injEq,Prod.mk.injEq] at h;rw[<-h.2.1,List.length_take];omega
     ·cases h
   split at h
   ·split at h
    ·simp only[Option.some.injEq,Prod.mk.injEq] at h;rw[<-h.2.1,List.length_take];omega
    ·cases h
   split at h
   ·cases hl:lt t with
    |none=>rw[hl] at h;cases h
    |some q=>
     obtain⟨m,rest⟩:=q
     rw[hl] at h
     simp only[Option.map_some,Option.some.injEq,Prod.mk.injEq] at h
     obtain⟨_,rfl,rfl⟩:=h
     obtain⟨_,a2⟩:=zKC _ t _ _ (Nat.le_refl _) hl
     have:=qs_ge m
     rw[a2]
     simp
     omega
   ·split at h
    ·cases h
    ·simp only[Option.some.injEq,Prod.mk.injEq] at h
     obtain⟨_,y2,_⟩:=zHY c t (fuel:=40) (Nat.le_refl _)
     rw[<-h.2.1];exact y2
 ·have:=(zFw h).2.1 h5
  rw[this];simp
theorem Toks.texts{s:List UInt8}{l:List (Int×List UInt8×List UInt8)}(hs:s.length<=100000)(h:Toks s l): ∀q∈l,q.2.1.length<=s.length:=by
 induction h with
 |done h=>intro q hq;simp at hq;subst hq;simp
 |next h h1 h2 h3 ih=>
  have a1:=skp_len hs h
  have a2:=tk_len (by omega) h2
  have a3:=tk_text (by omega) h2
  intro q hq
  rcases List.mem_cons.1 hq with rfl|hq
  ·dsimp only;omega
  ·have:=ih (by omega) q hq;omega
theorem take_cw(p:UInt8->Bool): ∀s:List UInt8,s.take (cw p s 0)=s.takeWhile p:=by
 intro s
 unfold cw
 simp only[List.drop_zero,Nat.zero_add]
 induction s with
 |nil=>rfl
 |cons c s ih=>
  rw[List.takeWhile_cons]
  split
  ·rw[List.length_cons,List.take_succ_cons,ih]
  ·rfl
theorem zGu{p:UInt8->Bool}{c:UInt8}(h:p c=false)(s:List UInt8):c∉s.takeWhile p:=fun hm=>by
 have: ∀s:List UInt8,∀z∈s.takeWhile p,p z=true:=fun s=>by
  induction s with
  |nil=>simp
  |cons d s ih=>
   intro z hz
   rw[List.takeWhile_cons] at hz
   split at hz
   ·rename_i hd
    rcases List.mem_cons.1 hz with rfl|hz
    ·exact hd
    ·exact ih z hz
   ·simp at hz
 rw[this s c hm] at h;cases h
theorem qs_no10: ∀m:List UInt8,(10:UInt8)∉qs m
 |[]=>by simp[qs]
 |c::m=>by
  rw[zGp]
  intro h
  rcases List.mem_append.1 h with h|h
  ·unfold esc at h
   split at h
   ·simp at h
   ·rename_i h1
    split at h
    ·simp at h;exact h1 h.symm
    ·simp at h;exact h1 h.symm
  ·exact qs_no10 m h
def wk(k:Int)(x:List UInt8):List UInt8:=if k=5 then 34::(qs x++[34]) else x
theorem tk_raw{s x r:List UInt8}{k:Int}(h:tk s=some (k,x,r)):s=wk k x++r∧10∉wk k x∧(k=5->x.all okc=true∧x.length<=s.length):=by
 have hc:=zFw h
 by_cases hk:k=5
 ·subst hk
  unfold wk
  rw[if_pos rfl]
  match s,h with
  |[],h=>simp[tk] at h
  |c::t,h=>
   have h0:=h
   rw[tk.eq_def] at h
   dsimp only at h
   by_cases h1:(smB c||caB c)=true
   ·rw[if_pos h1] at h
    split at h
    ·cases h
    ·simp only[Option.some.injEq,Prod.mk.injEq] at h
     have:=h.1
     split at this
     ·omega
     ·split at this<;>omega
   rw[if_neg h1] at h
   by_cases h2:c=39
   ·rw[if_pos h2] at h
    split at h
    ·cases h
    ·split at h
     ·split at h
      ·cases h
      ·simp only[Option.some.injEq,Prod.mk.injEq] at h
       omega
     ·cases h
   rw[if_neg h2] at h
   by_cases h3:diB c=true
   ·rw[if_pos h3] at h
    split at h
    ·simp only[Option.some.injEq,Prod.mk.injEq] at h
     omega
    ·cases h
   rw[if_neg h3] at h
   by_cases h4:c=34
   ·rw[if_pos h4] at h
    cases hl:lt t with
    |none=>rw[hl] at h;cases h
    |some q=>
     rw[hl] at h
     simp only[Option.map_some,Option.some.injEq,Prod.mk.injEq] at h
     obtain⟨_,rfl,rfl⟩:=h
     obtain⟨a1,a2⟩:=zKC _ t q.1 q.2 (Nat.le_refl _) hl
     have:=qs_len q.1
     refine⟨by rw[h4,a2];simp,?_,fun _=>⟨a1,?_⟩⟩
     ·intro hm
      rcases List.mem_cons.1 hm with hm|hm
      ·cases hm
      ·rcases List.mem_append.1 hm with hm|hm
       ·exact qs_no10 _ hm
       ·simp at hm
     ·have e:=congrArg List.length a2
      have:=qs_ge q.1
      simp at e ⊢
      omega
   rw[if_neg h4] at h
   split at h
   ·cases h
   ·simp only[Option.some.injEq,Prod.mk.injEq] at h
    omega
 ·have hw:wk k x=x:=by unfold wk;rw[if_neg hk]
  rw[hw]
  refine⟨hc.2.1 hk,?_,fun e=>(hk e).elim⟩
  match s,h with
  |[],h=>simp[tk] at h
  |c::t,h=>
   rw[tk.eq_def] at h
   dsimp only at h
   by_cases h1:(smB c||caB c)=true
   ·rw[if_pos h1] at h
    split at h
    ·cases h
    ·simp only[Option.some.injEq,Prod.mk.injEq] at h
     rw[<-h.2.1,take_cw]
     exact zGu (by decide) _
   rw[if_neg h1] at h
   by_cases h2:c=39
   ·rw[if_pos h2] at h
    split at h
    ·cases h
    ·split at h
     ·split at h
      ·cases h
      ·simp only[Option.some.injEq,Prod.mk.injEq] at h
       rw[<-h.2.1,List.take_succ_cons,take_cw,h2]
       intro hm
       rcases List.mem_cons.1 hm with hm|hm
       ·cases hm
       ·exact zGu (by decide) _ hm
     ·cases h
   rw[if_neg h2] at h
   by_cases h3:diB c=true
   ·rw[if_pos h3] at h
    split at h
    ·simp only[Option.some.injEq,Prod.mk.injEq] at h
     rw[<-h.2.1,take_cw]
     exact zGu (by decide) _
    ·cases h
   rw[if_neg h3] at h
   by_cases h4:c=34
   ·rw[if_pos h4] at h
    cases hl:lt t with
    |none=>rw[hl] at h;cases h
    |some q=>
     rw[hl] at h
     simp only[Option.map_some,Option.some.injEq,Prod.mk.injEq] at h
     exact(hk h.1.symm).elim
   rw[if_neg h4] at h
   split at h
   ·cases h
   ·rename_i h5
    simp only[Option.some.injEq,Prod.mk.injEq] at h
    rw[<-h.2.1]
    rw[sy] at h5 ⊢
    split
    ·simp
    split
    ·rename_i z hz
     have:=List.mem_of_find?_eq_some hz
     have key: ∀z∈SA,(10:UInt8)∉z:=by decide
     exact key z this
    ·split
     ·intro hm
      have:(10:UInt8)=c:=by simpa using hm
      subst this
      rename_i h6 _ _ h7
      revert h7;decide
     ·simp
theorem skp_suffix{s s':List UInt8}(hs:s.length<=100000)(h:skp s=some s'): ∃m,s'=s.drop m∧m<=s.length:=by
 obtain⟨v,_,hv⟩:=zJ1 s hs 0 (by omega) (fuel:=s.length+10) (Nat.le_refl _)
 rcases hv with ⟨m,m1,m2,_,m4⟩|⟨m,m1,_,m3⟩
 ·rw[List.drop_zero,h] at m4
  exact⟨m,zqa m4,by omega⟩
 ·rw[List.drop_zero,h] at m3;cases m3
theorem Toks.facts{s:List UInt8}(hs:s.length<=100000){t:List UInt8}{l:List (Int×List UInt8×List UInt8)}(h:Toks t l):(∃a,t=s.drop a)->
 (∀q∈l,(∃b,q.2.2=s.drop b∧b<=s.length)∧((q=(8,[],[]))∨∃r,tk q.2.2=some (q.1,q.2.1,r)))∧
 (∀j q q',l[j]? =some q->l[j+1]? =some q'->q'.2.2.length<q.2.2.length)∧(∀q,l[0]? =some q->q.2.2.length<=t.length)∧(∀j q,l[j]? =some q->(q.1=8↔j+1=l.length)):=by
 induction h with
 |@done t h=>
  rintro⟨a,ha⟩
  refine⟨fun q hq=>?_,fun j q q' h1 h2=>?_,fun q hq=>?_,fun j q hq=>?_⟩
  ·have:q=(8,[],[]):=by simpa using hq
   subst this
   exact⟨⟨s.length,by simp,Nat.le_refl _⟩,.inl rfl⟩
  ·simp at h2
  ·have:q=(8,[],[]):=by simpa using hq.symm
   subst this;simp
  ·rcases j with _|j
   ·have:q=(8,[],[]):=by simpa using hq.symm
    subst this;simp
   ·simp at hq
 |@next t s' r x k l h h1 h2 h3 ih=>
  rintro⟨a,ha⟩
  have htl:t.length<=s.length:=by rw[ha,List.length_drop];omega
  obtain⟨m,m1,m2⟩:=skp_suffix (by omega) h
  have hsl:=skp_len (by omega) h
  have hkl:=tk_len (by omega) h2
  have hraw:=(tk_raw h2).1
  have hk:=(zFw h2).1
  have hb:s'=s.drop (s.length-s'.length)∧s.length-s'.length<=s.length:=by
   refine⟨?_,by omega⟩
   have e:s'=s.drop (a+m):=by rw[<-List.drop_drop,<-ha,m1]
   have el:=congrArg List.length e
   rw[List.length_drop] at el
   by_cases hz:a+m<=s.length
   ·rw[show s.length-s'.length=a+m by omega];exact e
   ·have:s'=[]:=List.length_eq_zero_iff.1 (by omega)
    exact(h1 this).elim
  have hr: ∃a,r=s.drop a:=by
   refine⟨s.length-s'.length+(wk k x).length,?_⟩
   rw[<-List.drop_drop,<-hb.1]
   have: ∀u:List UInt8,u=wk k x++r->r=u.drop (wk k x).length:=fun u hu=>by rw[hu];simp
   exact this s' hraw
  obtain⟨f1,f2,f3,f4⟩:=ih hr
  refine⟨fun q hq=>?_,fun j q q' g1 g2=>?_,fun q hq=>?_,fun j q hq=>?_⟩
  ·rcases List.mem_cons.1 hq with rfl|hq
   ·exact⟨⟨_,hb⟩,.inr ⟨r,h2⟩⟩
   ·exact f1 q hq
  ·rcases j with _|j
   ·have e:q=(k,x,s'):=by simpa using g1.symm
    subst e
    have:=f3 q' (by simpa using g2)
    show q'.2.2.length<s'.length
    omega
   ·exact f2 j q q' (by simpa using g1) (by simpa using g2)
  ·have e:q=(k,x,s'):=by simpa using hq.symm
   subst e
   exact hsl
  ·have hln:l≠[]:=by cases h3<;>simp
   have hll:0<l.length:=List.length_pos_iff.2 hln
   rcases j with _|j
   ·have e:q=(k,x,s'):=by simpa using hq.symm
    subst e
    simp only[List.length_cons]
    show k=8↔_
    constructor
    ·intro e;omega
    ·intro e;omega
   ·have:=f4 j q (by simpa using hq)
    simp only[List.length_cons]
    rw[this];omega
theorem PL_mono(s:List UInt8)(a:Nat): ∀n,a+n<=s.length->(PL s a).Line<=(PL s (a+n)).Line∧((PL s a).Line=(PL s (a+n)).Line->(PL s (a+n)).Column=(PL s a).Column+n)
 |0,_=>⟨Int.le_refl _,fun _=>by simp⟩
 |n+1,h=>by
  obtain⟨h1,h2⟩:=PL_mono s a n (by omega)
  have hx:s[a+n]? =some s[a+n]:=zq2 (by omega)
  generalize s[a+n]=c at hx
  have e:=cnt_take s (a+n) c hx
  have el:la 10 s (a+n+1)=if c=10 then ((a+n:Nat):Int) else la 10 s (a+n):=by
   rw[la,hx]
   by_cases hc:c=10<;>simp[hc]
  unfold PL at h1 h2 ⊢
  dsimp only at h1 h2 ⊢
  rw[<-Nat.add_assoc,e,el]
  by_cases hc:c=10
  ·rw[if_pos hc,if_pos hc]
   exact⟨by omega,fun h=>by omega⟩
  ·rw[if_neg hc,if_neg hc]
   refine⟨by omega,fun h=>?_⟩
   have:=h2 (by omega)
   omega
theorem cw_all{p:UInt8->Bool}{x:List UInt8}(h: ∀c∈x,p c=true):cw p x 0=x.length:=by
 have e: ∀x:List UInt8,(∀c∈x,p c=true)->x.takeWhile p=x:=fun x=>by
  induction x with
  |nil=>intro _;rfl
  |cons a x ih=>
   intro h
   rw[List.takeWhile_cons,if_pos (h a zq9),ih fun c hc=>h c (zqc _ hc)]
 unfold cw
 rw[List.drop_zero,e x h];omega
theorem take_fix{p:UInt8->Bool}{c:UInt8}{t:List UInt8}(h:p c=true): ∃m,cw p (c::t) 0=m+1∧cw p (c::t.take m) 0=m+1∧(c::t.take m).length=m+1:=by
 have h1:=cw_pos (r:=t) h
 have h2:=(cw_le p (c::t) 0 (by simp)).2
 refine⟨cw p (c::t) 0-1,by omega,?_,?_⟩
 ·rw[cw_all]
  ·simp only[List.length_cons,List.length_take] at h2 ⊢;omega
  ·intro d hd
   have:=take_all p (c::t)
   rw[show cw p (c::t) 0=(cw p (c::t) 0-1)+1 by omega,List.take_succ_cons] at this
   exact this d hd
 ·simp only[List.length_cons,List.length_take] at h2 ⊢;omega
theorem sy_alone{c:UInt8}{t:List UInt8}(h:sy (c::t)≠[]):sy (sy (c::t))=sy (c::t):=by
 have k1: ∀x∈SA,sy x=x:=by decide
 have k2: ∀d∈SB,sy [d]=[d]:=by decide
 rw[sy] at h ⊢
 split at h
 ·exact(h rfl).elim
 rename_i hp
 rw[if_neg hp]
 split at h
 ·rename_i x hx
  exact k1 x (List.mem_of_find?_eq_some hx)
 ·split at h
  ·rename_i hi
   rw[if_pos hi]
   refine k2 c (Classical.byContradiction fun hn=>?_)
   have hno: ∀l:List UInt8,c∉l->Lib.indexByte l c= -1:=by
    intro l
    induction l with
    |nil=>intro _;rfl
    |cons b l ih=>
     intro hb
     have hb1: ¬b=c:=fun e=>hb (by rw[e];exact zq9 ..)
     have hb2:c∉l:=fun e=>hb (zqc _ e)
     simp[Lib.indexByte,hb1,ih hb2]
   have:=hno SB hn
   omega
  ·exact(h rfl).elim
theorem tk_alone{s x r:List UInt8}{k:Int}(h:tk s=some (k,x,r))(h5:k≠5):tk x=some (k,x,[]):=by
 match s,h with
 |[],h=>simp[tk] at h
 |c::t,h=>
  rw[tk.eq_def] at h
  dsimp only at h
  by_cases h1:(smB c||caB c)=true
  ·rw[if_pos h1] at h
   obtain⟨m,m1,m2,m3⟩:=take_fix (t:=t) (sm_in h1)
   rw[m1,List.take_succ_cons] at h
   split at h
   ·cases h
   ·rename_i h2
    cases h
    rw[tk.eq_def]
    dsimp only
    rw[if_pos h1,m2,if_neg h2,<-m3,List.take_length,List.drop_length]
  rw[if_neg h1] at h
  by_cases h2:c=39
  ·rw[if_pos h2] at h
   match t,h with
   |[],h=>cases h
   |d::t,h=>
    dsimp only at h
    by_cases h3:smB d=true
    ·rw[if_pos h3] at h
     obtain⟨m,m1,m2,m3⟩:=take_fix (p:=inB) (t:=t) (c:=d) (sm_in (by rw[h3];rfl))
     rw[m1,List.take_succ_cons,List.take_succ_cons] at h
     split at h
     ·cases h
     ·rename_i h4
      cases h
      rw[tk.eq_def]
      dsimp only
      rw[if_neg h1,if_pos h2,if_pos h3,m2,if_neg h4]
      have e:m+1+1=(c::d::List.take m t).length:=by rw[List.length_cons,m3]
      rw[e,List.take_length,List.drop_length]
    ·rw[if_neg h3] at h;cases h
  rw[if_neg h2] at h
  by_cases h3:diB c=true
  ·rw[if_pos h3] at h
   obtain⟨m,m1,m2,m3⟩:=take_fix (t:=t) h3
   rw[m1,List.take_succ_cons] at h
   split at h
   ·rename_i h4
    cases h
    rw[tk.eq_def]
    dsimp only
    rw[if_neg h1,if_neg h2,if_pos h3,m2,<-m3,List.take_length,List.drop_length,if_pos h4]
   ·cases h
  rw[if_neg h3] at h
  by_cases h4:c=34
  ·rw[if_pos h4] at h
   cases hl:lt t with
   |none=>rw[hl] at h;cases h
   |some q=>rw[hl] at h;cases h;exact(h5 rfl).elim
  rw[if_neg h4] at h
  split at h
  ·cases h
  ·rename_i h6
   cases h
   have ha:=sy_alone h6
   cases hx:sy (c::t) with
   |nil=>exact(h6 hx).elim
   |cons d u=>
    rw[hx] at ha
    have:=tk_sy (c:=d) (t:=u) (by rw[ha];simp)
    rw[this,ha,List.drop_length]
theorem rt_found{s x r:List UInt8}{k:Int}(hs:s.length<=16384)(h:tk s=some (k,x,r))(p:zKa):rt (zKY.mk k x p)=true:=by
 unfold rt
 by_cases h5:k=5
 ·obtain⟨a1,a2⟩:=(tk_raw h).2.2 h5
  rw[if_pos h5]
  dsimp only
  rw[a1,zqb (by omega)];rfl
 ·rw[if_neg h5]
  exact zqb (tk_alone h h5)
theorem awake_M{fuel:Nat}(h:200<=fuel):zFh fuel=some true:=by
 obtain⟨g,rfl⟩: ∃g,fuel=g+200:=⟨fuel-200,by omega⟩
 kernel_rfl
abbrev Tq:=Int×List UInt8×List UInt8
def tks(l:List Tq):List Tk:=l.map fun q=>(q.1,q.2.1)
theorem tks_tokOf(s:List UInt8)(l:List Tq):(l.map (zH5 s)).map ktk=tks l:=by rw[List.map_map];rfl
theorem Toks.fin{s:List UInt8}{l:List Tq}(hs:s.length<=16384)(h:Toks s l):PT.Fin (tks l):=by
 induction h with
 |done h=>rfl
 |@next s s' r x k l h h1 h2 h3 ih=>
  have a1:=skp_len (by omega) h
  have a2:=tk_len (by omega) h2
  have a3:=tk_text (by omega) h2
  have a4:=(zFw h2).1
  have:=ih (by omega)
  have hl:l≠[]:=by cases h3<;>simp
  cases l with
  |nil=>exact(hl rfl).elim
  |cons q l=>exact⟨by dsimp only;omega,by dsimp only;omega,this⟩
def Tc(cat:Int)(n:Nat):PT zKZ:=if eqI cat 1 then T.typ n else if eqI cat 2 then T.pattern n else T.expr n
theorem Tc_wp(cat:Int){n r:Nat}(hn:30*r+20100<=n)(h1:1<=r)(h2:r<=20000):(Tc cat n).wp r (Ate r):=by
 unfold Tc
 split
 ·exact(types_wp n).2.2.2 r (by omega) h1 h2
 ·split
  ·exact(pats_wp n).2 r (by omega) h1 h2
  ·exact(exprs_wp 20001 (by omega) n).2.2.2.2.1 r (by omega) h1 h2
theorem Tc_le(cat:Int)(n:Nat):PT.le (Tc cat n) (Tc cat (n+1)):=by
 unfold Tc
 exact PT.le_ite _ (types_le n).2.2.2 (PT.le_ite _ (pats_le n).2 (exprs_le n).2.2.2.2.1)
theorem Tc_mono(cat:Int){n m:Nat}(h:n<=m){l:List Tk}{r:Option zKZ×List Tk}(hr:(Tc cat n).go l=some r):(Tc cat m).go l=some r:=by
 induction h with
 |refl=>exact hr
 |step h ih=>exact PT.le_go (Tc_le cat _) l r ih
theorem Tc_go(cat:Int){l:List Tk}(hl:PT.Fin l)(h2:l.length<=20000): ∃o r,PT.Fin r∧∀n,30*l.length+20100<=n->(Tc cat n).go l=some (o,r):=by
 have h1:1<=l.length:=by cases l;exact hl.elim;simp
 obtain⟨o,r,h,hr,-⟩:=PT.wp_go _ l hl (Tc_wp cat (Nat.le_refl _) h1 h2)
 exact⟨o,r,hr,fun n hn=>Tc_mono cat hn h⟩
theorem run_Tc(n:Nat){cat:Int}(hc:cat=1∨cat=2∨cat=3)(w:zKV):zCc n cat w=zBC ((Tc cat n).run w):=by
 unfold zCc Tc
 rcases hc with rfl|rfl|rfl
 ·show zBC (zAv n w)=zBC ((T.typ n).run w)
  rw[(zJw n).2.2.2 w]
 ·show zBC (zAd n w)=zBC ((T.pattern n).run w)
  rw[(pats_run n).2 w]
 ·show zBC (zAV n w)=zBC ((T.expr n).run w)
  rw[(exprs_run n).2.2.2.2.1 w]
def zS:zKZ:=zKZ.mk 0 0 [] [] []
theorem whole_err{n:Nat}{cat:Int}{s:List UInt8}{r:List zKY×zKa×Int}(h:zCX n s=some r)(he:r.2.2≠0):zAY n cat s=some (zS,r.2.1,r.2.2):=by
 rw[zAY,h]
 simp only[Option.bind_some]
 rw[show eqI r.2.2 0=false from decide_eq_false he];rfl
theorem whole_run{n:Nat}{cat:Int}{s:List UInt8}(hc:cat=1∨cat=2∨cat=3){L:List zKY}{p:zKa}(h:zCX n s=some (L,p,0))(hL:L.length<=100000){o:Option zKZ}{A:List Tk}{t:Tk}{B:List Tk}(hA:L.map ktk=A++t::B)
 (hg:(Tc cat n).go (L.map ktk)=some (o,t::B)):
 (∀v,o=some v->t.1=8->zAY n cat s=(zCx n cat v).bind fun b=>if !b then some (zS,zKa.mk 0 0,5) else some (v,zKa.mk 0 0,0))∧
 ((o=none∨t.1≠8)->∃x,L[A.length]? =some x∧zAY n cat s=some (zS,x.At,if t.1=8 then 4 else 3)):=by
 have hlen:=congrArg List.length hA
 simp only[zq4,List.length_append,List.length_cons] at hlen
 have hrun:=PT.run_go L (by omega) (Tc cat n) 0 (by omega)
 rw[List.drop_zero,hg] at hrun
 obtain⟨x,hx⟩: ∃x,L[A.length]? =some x:=⟨_,zq2 (by omega)⟩
 have hk:ktk x=t:=by
  have:(L.map ktk)[A.length]? =some t:=by rw[hA];simp
  rw[List.getElem?_map,hx] at this
  exact zqa this
 have hix:idx L ((L.length-(B.length+1):Nat):Int)=some x:=by
  rw[show L.length-(B.length+1)=A.length by omega,idx,if_pos (by omega)]
  simpa using hx
 have h0:(⟨L,0⟩:zKV)=zKV.mk L ((0:Nat):Int):=rfl
 have hw:zAY n cat s=(zBC ((Tc cat n).run (zKV.mk L ((0:Nat):Int)))).bind fun v10=>
  (if !v10.2.1 then some true else (zAL 8 v10.2.2).bind fun v15=>some (!v15):Option Bool).bind fun b17=>
  if b17 then (idx v10.2.2.l v10.2.2.at_).bind fun x20=>(zBx v10.2.2).bind fun v24=>some (zS,x20.At,v24)
  else (zCx n cat v10.1).bind fun b=>if !b then some (zS,zKa.mk 0 0,5) else some (v10.1,zKa.mk 0 0,0):=by
  rw[zAY,h,<-run_Tc n hc];rfl
 rw[hw,hrun]
 have hkind:zAL 8 (zKV.mk L ((L.length-(B.length+1):Nat):Int))=some (eqI t.1 8):=by
  rw[zAL]
  simp only[hix,Option.bind_some]
  rw[<-hk];rfl
 have href:zBx (zKV.mk L ((L.length-(B.length+1):Nat):Int))=some (if t.1=8 then 4 else 3):=by
  rw[zBx,hkind]
  simp only[Option.bind_some]
  by_cases h8:t.1=8
  ·rw[show eqI t.1 8=true from zqb h8,if_pos rfl,if_pos h8]
  ·rw[show eqI t.1 8=false from decide_eq_false h8,if_neg (by decide),if_neg h8]
 cases o with
 |none=>
  refine⟨fun v hv=>(by cases hv),fun _=>⟨x,hx,?_⟩⟩
  simp only[Option.map_some,PT.back,zBC,Option.bind_some,Sum.elim_inl,Bool.not_false,if_true,List.length_cons,hix,href]
 |some v=>
  have hb:(zBC (some (PT.back L (some v,t::B))))=some (v,true,zKV.mk L ((L.length-(B.length+1):Nat):Int)):=rfl
  simp only[Option.map_some,hb,Option.bind_some,Bool.not_true,Bool.false_eq_true,if_false,hkind]
  by_cases h8:t.1=8
  ·rw[show eqI t.1 8=true from zqb h8]
   refine⟨fun v' hv _=>?_,fun hh=>?_⟩
   ·cases hv;rfl
   ·rcases hh with hh|hh
    ·cases hh
    ·exact(hh h8).elim
  ·rw[show eqI t.1 8=false from decide_eq_false h8]
   refine⟨fun v' hv hh=>(h8 hh).elim,fun _=>⟨x,hx,?_⟩⟩
   simp only[Bool.not_false,if_true,hix,href,Option.bind_some]
theorem whole_ok{s:List UInt8}(hs:s.length<=16384){l:List Tq}(h:Toks s l){cat:Int}(hc:cat=1∨cat=2∨cat=3): ∃o A t B,tks l=A++t::B∧(∃N,∀n,N<=n->(Tc cat n).go (tks l)=some (o,t::B))∧
 ((∃v b,o=some v∧t=(8,[])∧B=[]∧Ev (fun n=>zCx n cat v) b∧Ev (fun n=>zAY n cat s) (if b then (v,zKa.mk 0 0,0) else (zS,zKa.mk 0 0,5)))∨
  (∃q,l[A.length]? =some q∧(q.1,q.2.1)=t∧(o=none∨t.1≠8)∧Ev (fun n=>zAY n cat s) (zS,(zH5 s q).At,if t.1=8 then 4 else 3))):=by
 have hfin:=h.fin hs
 have hlen:=h.len (by omega)
 have htl:(tks l).length=l.length:=zq4 ..
 obtain⟨o,r,hr,hgo⟩:=Tc_go cat hfin (by omega)
 obtain⟨A,hA⟩:=PT.go_drop _ _ _ _ (hgo _ (Nat.le_refl _))
 cases r with
 |nil=>exact hr.elim
 |cons t B=>
 have hT: ∀n,s.length+100<=n->∃p,zCX n s=some (l.map (zH5 s),p,0):=fun n hn=>by
  obtain⟨v,v1,v2⟩:=zFp s hs hn
  rcases v2 with ⟨e0,l',t1,t2⟩|⟨_,_,t1,_⟩
  ·have:=t1.inj h;subst this
   refine⟨v.2.1,?_⟩
   rw[v1,<-t2,<-e0]
  ·exact(t1 _ h).elim
 have hw: ∀n,s.length+100+(30*(tks l).length+20100)<=n->(∀v,o=some v->t.1=8->zAY n cat s=(zCx n cat v).bind fun b=>if !b then some (zS,zKa.mk 0 0,5) else some (v,zKa.mk 0 0,0))∧
  ((o=none∨t.1≠8)->∃x,(l.map (zH5 s))[A.length]? =some x∧zAY n cat s=some (zS,x.At,if t.1=8 then 4 else 3)):=fun n hn=>by
  obtain⟨p,hp⟩:=hT n (by omega)
  exact whole_run hc hp (by rw[zq4];omega) (A:=A) (t:=t) (B:=B) (o:=o) (by rw[tks_tokOf];exact hA) (by rw[tks_tokOf];exact hgo n (by omega))
 refine⟨o,A,t,B,hA,⟨_,hgo⟩,?_⟩
 by_cases h8:t.1=8∧∃v,o=some v
 ·obtain⟨h8,v,rfl⟩:=h8
  left
  obtain⟨b,hb,-⟩:=Valid_ev cat v
  have ht:t=(8,[])∧B=[]:=by
   cases B with
   |nil=>exact⟨hr,rfl⟩
   |cons u B=>exact(hr.1 h8).elim
  refine⟨v,b,rfl,ht.1,ht.2,hb,?_⟩
  obtain⟨N,hN⟩:=hb
  refine⟨max N (s.length+100+(30*(tks l).length+20100)),fun n hn=>?_⟩
  show zAY n cat s=_
  rw[(hw n (by omega)).1 v rfl h8,show zCx n cat v=some b from hN n (by omega)]
  cases b<;>rfl
 ·right
  have ho:o=none∨t.1≠8:=by
   cases o with
   |none=>exact .inl rfl
   |some v=>exact .inr fun e=>h8 ⟨e,v,rfl⟩
  have hAl:A.length<l.length:=by
   have:=congrArg List.length hA
   simp only[List.length_append,List.length_cons] at this
   omega
  refine⟨l[A.length],zq2 hAl,?_,ho,s.length+100+(30*(tks l).length+20100),fun n hn=>?_⟩
  ·have:(tks l)[A.length]? =some t:=by rw[hA];simp
   rw[tks,List.getElem?_map,zq2 hAl] at this
   exact zqa this
  ·obtain⟨x,hx,hwx⟩:=(hw n hn).2 ho
   rw[List.getElem?_map,zq2 hAl] at hx
   have:=zqa hx
   show zAY n cat s=_
   rw[hwx,<-this]
theorem zH1{s:List UInt8}(hs:s.length<=16384){l:List Tq}(h:Toks s l){cat:Int}(hc:cat=1∨cat=2∨cat=3){o:Option zKZ}{A:List Tk}{t:Tk}{B:List Tk}(hA:tks l=A++t::B)
 (hg: ∃N,∀n,N<=n->(Tc cat n).go (tks l)=some (o,t::B)) (ho:o=none∨t.1≠8):
 ∃q,l[A.length]? =some q∧(q.1,q.2.1)=t∧Ev (fun n=>zAY n cat s) (zS,(zH5 s q).At,if t.1=8 then 4 else 3):=by
 obtain⟨o2,A2,t2,B2,h2,⟨N2,g2⟩,hw⟩:=whole_ok hs h hc
 obtain⟨N,hg⟩:=hg
 have e:=(hg (max N N2) (by omega)).symm.trans (g2 _ (by omega))
 cases e
 have hAA:A=A2:=by
  have:=hA.symm.trans h2
  exact List.append_cancel_right this
 subst hAA
 rcases hw with ⟨v,b,rfl,h8,_⟩|⟨q,q1,q2,_,q4⟩
 ·rcases ho with ho|ho
  ·cases ho
  ·rw[h8] at ho;exact(ho rfl).elim
 ·exact⟨q,q1,q2,q4⟩
theorem zF5(n:Nat){cat:Int}(hc:cat=1∨cat=2∨cat=3)(s:List UInt8):zDU n cat s=zAY n cat s:=by
 have e: ∀x:Option (zKZ×zKa×Int),((x.bind fun v2=>some (v2.1,v2.2.1,v2.2.2)).bind fun v5=>some (v5.1,v5.2.1,v5.2.2))=x:=fun x=>by cases x<;>rfl
 rcases hc with rfl|rfl|rfl
 ·exact e _
 ·exact e _
 ·exact e _
theorem PL_append(s u:List UInt8){i:Nat}(hi:i<=s.length):PL (s++u) i=PL s i:=by
 unfold PL
 rw[List.take_append_of_le_length hi]
 congr 2
 rw[<-la_take 10 (s++u) s.length i hi,List.take_left']
 rfl
theorem la_none(c:UInt8)(s:List UInt8)(h: ¬0<=Lib.indexByte s c): ∀n,la c s n= -1
 |0=>rfl
 |n+1=>by
  have hno: ∀(l:List UInt8)(i:Nat),l[i]? =some c->0<=Lib.indexByte l c:=by
   intro l
   induction l with
   |nil=>intro i hi;simp at hi
   |cons a l ih=>
    intro i hi
    by_cases e:a=c
    ·simp[Lib.indexByte,e]
    ·cases i with
     |zero=>simp at hi;exact(e hi).elim
     |succ i=>
      have:=ih i (by simpa using hi)
      have hb:(a==c)=false:=by simpa using e
      simp only[Lib.indexByte,hb,Bool.false_eq_true,if_false]
      have hn:(Lib.indexByte l c== -1)=false:=by simp;omega
      rw[hn,if_neg (by decide)];omega
  rw[la,if_neg fun hh=>h (hno s n hh)]
  exact la_none c s h n
theorem IX_at{α:Type}{p:Nat->α->Option Bool}{s:List α}{n k0:Nat}(hk:k0<s.length)(h1: ∀j x,j<k0->s[j]? =some x->p n x=some false)(h2: ∀x,s[k0]? =some x->p n x=some true):
 ∀(m i k:Nat),i+m=k0->m+1<=k->IX p s n k i=some (.inl (k0:Int))
 |0,i,k+1,hi,hk'=>by
  have e:i=k0:=by omega
  subst e
  have h:ltI (i:Int) (s.length:Int)=true:=by simp only[ltI,decide_eq_true_eq];omega
  rw[IX,h,if_pos rfl,zq2 hk]
  simp only[Option.bind_some]
  rw[h2 _ (zq2 hk)];rfl
 |m+1,i,k+1,hi,hk'=>by
  have h:ltI (i:Int) (s.length:Int)=true:=by simp only[ltI,decide_eq_true_eq];omega
  have hl:i<s.length:=by omega
  rw[IX,h,if_pos rfl,zq2 hl]
  simp only[Option.bind_some]
  rw[h1 i _ (by omega) (zq2 hl)]
  exact IX_at hk h1 h2 m (i+1) k (by omega) (by omega)
theorem at_IX(s:List zKY)(w:zKa)(n:Nat): ∀k i,zAZ s w k i=IX (fun _ t=>some ((eqI t.At.Line w.Line)&&(eqI t.At.Column w.Column))) s n k i
 |0,_=>rfl
 |k+1,i=>by simp only[zAZ,zC3,IX,Option.bind_some,at_IX s w n k]
theorem PL_inj(s:List UInt8){a b:Nat}(h:a<b)(hb:b<=s.length): ¬((PL s a).Line=(PL s b).Line∧(PL s a).Column=(PL s b).Column):=by
 rintro⟨h1,h2⟩
 have:=(PL_mono s a (b-a) (by omega)).2
 rw[show a+(b-a)=b by omega] at this
 have:=this h1
 omega
theorem falls{l:List Tq}(h: ∀(j:Nat)(q q':Tq),l[j]? =some q->l[j+1]? =some q'->q'.2.2.length<q.2.2.length): ∀(d j:Nat)(q q':Tq),l[j]? =some q->l[j+(d+1)]? =some q'->q'.2.2.length<q.2.2.length
 |0,j,q,q',h1,h2=>h j q q' h1 h2
 |d+1,j,q,q',h1,h2=>by
  have hl:=(zq1 h2).1
  have hm:l[j+1]? =some l[j+1]:=zq2 (by omega)
  have a:=h j q _ h1 hm
  have b:=falls h d (j+1) _ q' hm (by rw[show j+1+(d+1)=j+(d+1+1) by omega];exact h2)
  omega
theorem zJa{s:List UInt8}(hs:s.length<=16384){l:List Tq}(h:Toks s l){k:Nat}{q:Tq}(hq:l[k]? =some q){n:Nat}(hn:l.length+2<=n):
 zAu n (l.map (zH5 s)) (zH5 s q).At=some (k:Int):=by
 obtain⟨f1,f2,f3,f4⟩:=h.facts (s:=s) (by omega) ⟨0,by simp⟩
 have hk:=(zq1 hq).1
 have zHa: ∀(j:Nat)(q:Tq),l[j]? =some q->q.2.2.length<=s.length:=fun j q hq=>by
  obtain⟨⟨b,hb,_⟩,_⟩:=f1 q (zq3 hq)
  rw[hb,List.length_drop];omega
 rw[zAu,at_IX _ _ n,IX_at (k0:=k) (by rw[zq4];exact hk) (fun j x hj hx=>?_) (fun x hx=>?_) k 0 n (by omega) (by omega)]
 ·rfl
 ·rw[List.getElem?_map] at hx
  cases hj2:l[j]? with
  |none=>rw[hj2] at hx;cases hx
  |some q'=>
   rw[hj2] at hx
   cases hx
   have hlt:=falls f2 (k-j-1) j q' q hj2 (by rw[show j+(k-j-1+1)=k by omega];exact hq)
   have b1:=zHa j q' hj2
   have:=PL_inj s (a:=s.length-q'.2.2.length) (b:=s.length-q.2.2.length) (by omega) (by omega)
   simp only[Option.some.injEq,Bool.and_eq_false_iff]
   by_cases e:(zH5 s q').At.Line=(zH5 s q).At.Line
   ·right
    exact decide_eq_false fun e2=>this ⟨e,e2⟩
   ·left;exact decide_eq_false e
 ·rw[List.getElem?_map,hq] at hx
  cases hx
  simp[eqI]
theorem sum_wk{s:List UInt8}{l:List Tq}(hs:s.length<=100000)(h:Toks s l):(l.map fun q=>(wk q.1 q.2.1).length).sum<=s.length:=by
 induction h with
 |done h=>simp[wk]
 |@next s s' r x k l h h1 h2 h3 ih=>
  have a1:=skp_len hs h
  have a2:=tk_len (by omega) h2
  have a3:=congrArg List.length (tk_raw h2).1
  rw[List.length_append] at a3
  have:=ih (by omega)
  simp only[List.map_cons,List.sum_cons]
  omega
theorem join_le(ws:List (List UInt8)):(Lib.join ws [32]).length<=(ws.map List.length).sum+ws.length:=by
 have ht: ∀ws:List (List UInt8),(Lib.joinTail [32] ws).length<=(ws.map List.length).sum+ws.length:=fun ws=>by
  induction ws with
  |nil=>simp[Lib.joinTail]
  |cons w ws ih=>
   simp only[Lib.joinTail,List.map_cons,List.flatten_cons,List.length_append,List.length_cons,List.length_nil,List.sum_cons] at ih ⊢
   omega
 cases ws with
 |nil=>simp[Lib.join_nil]
 |cons w ws=>
  have:=ht ws
  rw[Lib.join_cons]
  simp only[List.length_append,List.map_cons,List.sum_cons,List.length_cons]
  omega
theorem sum_take(l:List Tq)(f:Tq->Nat)(k:Nat):((l.take k).map f).sum<=(l.map f).sum:=by
 conv=>rhs;rw[<-List.take_append_drop k l,List.map_append,List.sum_append]
 omega
theorem join_take{s:List UInt8}(hs:s.length<=1000){l:List Tq}(h:Toks s l){k:Nat}(hk:k<l.length):
 ∃J L,(∀n,40000<=n->zEJ n ((l.map (zH5 s)).take k)=some (J,0))∧Toks J (L++[(8,[],[])])∧tks L=(tks l).take k∧J.length<=2100:=by
 obtain⟨f1,f2,f3,f4⟩:=h.facts (s:=s) (by omega) ⟨0,by simp⟩
 have hlen:=h.len (by omega)
 have htx:=h.texts (by omega)
 have hmem: ∀t∈(l.map (zH5 s)).take k,∃q∈l.take k,t=zH5 s q:=fun t ht=>by
  rw[<-List.map_take] at ht
  obtain⟨q,hq,rfl⟩:=List.mem_map.1 ht
  exact⟨q,hq,rfl⟩
 have hne: ∀q∈l.take k,q≠(8,[],[])∧q∈l:=fun q hq=>by
  obtain⟨j,hj⟩:=List.mem_iff_getElem?.1 hq
  rw[List.getElem?_take] at hj
  split at hj
  ·rename_i hjk
   refine⟨fun e=>?_,zq3 hj⟩
   have:=(f4 j q hj).1 (by rw[e])
   omega
  ·cases hj
 have hV:Vl ((l.map (zH5 s)).take k):=⟨by rw[List.length_take,zq4];omega,fun t ht=>by
  obtain⟨q,hq,rfl⟩:=hmem t ht
  have:=htx q (hne q hq).2
  show q.2.1.length<=17000
  omega⟩
 have hrt:((l.map (zH5 s)).take k).all rt=true:=List.all_eq_true.2 fun t ht=>by
  obtain⟨q,hq,rfl⟩:=hmem t ht
  obtain⟨h1,h2⟩:=hne q hq
  obtain⟨⟨b,hb,_⟩,h3⟩:=f1 q h2
  rcases h3 with h3|⟨r,h3⟩
  ·exact(h1 h3).elim
  ·exact rt_found (by rw[hb,List.length_drop];omega) h3 _
 have hcut:zHy ((l.map (zH5 s)).take k)=(l.map (zH5 s)).take k:=by
  unfold zHy
  split
  ·rename_i t ht
   rw[if_neg]
   rintro⟨e,_⟩
   have hr:=zq8 hrt t (List.mem_of_getLast? ht)
   unfold rt at hr
   rw[if_neg (by rw[e];decide)] at hr
   have:=(zFw (of_decide_eq_true hr)).1
   omega
  ·rfl
 have hwt:((l.map (zH5 s)).take k).map wt=(l.take k).map fun q=>wk q.1 q.2.1:=by
  rw[<-List.map_take,List.map_map];rfl
 have hjl:(Lib.join (((l.map (zH5 s)).take k).map wt) [32]).length<=2100:=by
  have a:=join_le (((l.map (zH5 s)).take k).map wt)
  rw[hwt,List.map_map,zq4,List.length_take] at a
  have b:=sum_take l (fun q=>(wk q.1 q.2.1).length) k
  have c:=sum_wk (by omega) h
  rw[hwt]
  have e:((l.take k).map (List.length∘fun q=>wk q.1 q.2.1)).sum=((l.take k).map fun q=>(wk q.1 q.2.1).length).sum:=rfl
  rw[e] at a
  omega
 obtain⟨L,l1,l2⟩:=join_Toks _ hrt
 refine⟨_,L,?_,l1,?_,hjl⟩
 ·intro n hn
  rw[Join_M _ hV hn,hcut,JN,if_neg (by have:=hV.1;rw[List.length_take,zq4];omega),if_pos hrt,if_neg (by omega)]
 ·rw[tks,l2,tks,<-List.map_take,<-List.map_take,List.map_map];rfl
theorem Toks.split{s:List UInt8}{l:List Tq}(u:List UInt8)(hu:bd u)(h:Toks s l): ∀{l3:List Tq},Toks (s++u) l3->∃lu,Toks u lu:=by
 induction h with
 |@done s h=>
  intro l3 h3
  have e:=skp_ext u hu _ s [] (Nat.le_refl _) h
  rw[if_pos rfl] at e
  exact⟨_,Toks.skip e.symm h3⟩
 |@next s s' r x k l h h1 h2 h3 ih=>
  intro l3 h4
  have e:=skp_ext u hu _ s s' (Nat.le_refl _) h
  rw[if_neg h1] at e
  have e2:=tk_ext u hu h2
  cases h4 with
  |done g=>rw[e] at g;cases s' with
   |nil=>exact(h1 rfl).elim
   |cons c s'=>cases g
  |next g g1 g2 g3=>
   rw[e] at g;cases g
   rw[e2] at g2;cases g2
   exact ih g3
theorem catN{x y:List UInt8}(h:x.length+y.length<=1000000):cat x y=some (x++y):=by
 rw[cat,if_pos (by omega)]
theorem Ev.also{α β:Type}{f:Nat->Option α}{a:α}{g:Nat->Option β}{b:β}(h:Ev f a)(h2:Ev g b)(K:Nat): ∃N,K<=N∧∀n,N<=n->f n=some a∧g n=some b:=by
 obtain⟨N1,h⟩:=h;obtain⟨N2,h2⟩:=h2
 exact⟨max K (max N1 N2),by omega,fun n hn=>⟨h n (by omega),h2 n (by omega)⟩⟩
theorem category_M(w:UInt8): ∃cat,zEn w=some cat∧(cat=1∨cat=2∨cat=3):=by
 refine⟨_,rfl,?_⟩
 have:Int.tmod (w.toNat:Int) 3=((w.toNat%3:Nat):Int):=rfl
 rw[this]
 have:=Nat.mod_lt w.toNat (show 3>0 by decide)
 omega
theorem prefix_tail{cat:Int}(hc:cat=1∨cat=2∨cat=3){J more:List UInt8}(hJ:J.length<=2100)(hm:more.length<=1000){L:List Tq}(hL:Toks J (L++[(8,[],[])])){A:List Tk}{t:Tk}(hA:tks L=A++[t])(h8:t.1≠8)
 {o:Option zKZ} (hg: ∃N,∀B,∀n,N<=n->(Tc cat n).go (A++t::B)=some (o,t::B)∨20000<(A++t::B).length):
 ∃N,∀n,N<=n->((zDU n cat J).bind fun v137=>(Go.Abs.cat J [32]).bind fun s139=>(Go.Abs.cat s139 more).bind fun s143=>(zDU n cat s143).bind fun v147=>(zCX n s143).bind fun v149=>
  if !(eqI v149.2.2 0) then some ((eqI v137.2.2 3)&&(eqI v147.2.2 v149.2.2))
  else some ((eqI v137.2.2 3)&&((eqI v147.2.2 3)&&((eqI v137.2.1.Line v147.2.1.Line)&&(eqI v137.2.1.Column v147.2.1.Column)))))=some true:=by
 obtain⟨N,hg⟩:=hg
 have htl:tks (L++[(8,[],[])])=A++t::[(8,[])]:=by rw[tks,List.map_append,<-tks,hA];simp
 have hlenJ:=hL.len (by omega)
 have small: ∀(l:List Tq)(B:List Tk),tks l=A++t::B->l.length<=20000->∃N,∀n,N<=n->(Tc cat n).go (tks l)=some (o,t::B):=fun l B hl h2=>⟨N,fun n hn=>by
  rw[hl]
  rcases hg B n hn with h|h
  ·exact h
  ·rw[<-hl,tks,zq4] at h;omega⟩
 obtain⟨q,q1,q2,q3⟩:=zH1 (by omega) hL hc htl (small _ _ htl (by omega)) (.inr h8)
 rw[if_neg h8] at q3
 have hc1:Go.Abs.cat J [32]=some (J++[32]):=catN (by simp;omega)
 have hc2:Go.Abs.cat (J++[32]) more=some (J++32::more):=by
  rw[catN (by simp;omega)];simp
 obtain⟨N1,q3⟩:=q3
 by_cases hT: ∃l3,Toks (J++32::more) l3
 ·obtain⟨l3,hT⟩:=hT
  have hbd:bd (32::more):=.inl rfl
  obtain⟨lu,hlu⟩:=hL.split _ hbd hT
  have hx:=Toks.ext _ hbd hlu hL
  have:=hT.inj hx
  subst this
  have hdl:(L++[((8:Int),([]:List UInt8),([]:List UInt8))]).dropLast=L:=by simp
  rw[hdl] at hT
  have htk:tks (L.map (fun q=>(q.1,q.2.1,q.2.2++32::more))++lu)=A++t::tks lu:=by
   have e:tks (L.map (fun q=>(q.1,q.2.1,q.2.2++32::more)))=tks L:=by simp only[tks,List.map_map];rfl
   rw[tks,List.map_append,<-tks,<-tks,e,hA];simp
  have hbl:(J++32::more).length<=16384:=by simp;omega
  have hlen3:=hT.len (by omega)
  obtain⟨q',p1,p2,N2,p3⟩:=zH1 hbl hT hc htk (small _ _ htk (by omega)) (.inr h8)
  rw[if_neg h8] at p3
  have hAL:A.length<L.length:=by
   have:=congrArg List.length hA
   simp[tks] at this;omega
  have hq:L[A.length]? =some q:=by rw[List.getElem?_append_left hAL] at q1;exact q1
  have hq':q'=(q.1,q.2.1,q.2.2++32::more):=by
   rw[List.getElem?_append_left (by rw[zq4];exact hAL),List.getElem?_map,hq] at p1
   exact(zqa p1).symm
  obtain⟨f1,_⟩:=hL.facts (s:=J) (by omega) ⟨0,by simp⟩
  have hql:q.2.2.length<=J.length:=by
   obtain⟨⟨b,hb,_⟩,_⟩:=f1 q (zq3 q1)
   rw[hb,List.length_drop];omega
  have hat:(zH5 (J++32::more) q').At=(zH5 J q).At:=by
   rw[hq']
   show PL (J++32::more) ((J++32::more).length-(q.2.2++32::more).length)=PL J (J.length-q.2.2.length)
   rw[<-PL_append J (32::more) (i:=J.length-q.2.2.length) (by omega)]
   congr 1
   simp only[List.length_append,List.length_cons];omega
  refine⟨max (max N1 N2) 20000,fun n hn=>?_⟩
  obtain⟨r,r1,r2⟩:=zFp (J++32::more) hbl (fuel:=n) (by omega)
  rcases r2 with ⟨e0,_⟩|⟨_,_,t1,_⟩
  ·rw[zF5 n hc,show zAY n cat J=_ from q3 n (by omega)]
   simp only[Option.bind_some,hc1,hc2]
   rw[zF5 n hc,show zAY n cat (J++32::more)=_ from p3 n (by omega),r1]
   simp only[Option.bind_some,hat,e0]
   simp[eqI]
  ·exact(t1 _ hT).elim
 ·refine⟨max N1 20000,fun n hn=>?_⟩
  have hbl:(J++32::more).length<=16384:=by simp;omega
  obtain⟨r,r1,r2⟩:=zFp (J++32::more) hbl (fuel:=n) (by omega)
  rcases r2 with ⟨e0,l,t1,_⟩|⟨e0,_,t1,_⟩
  ·exact(hT ⟨l,t1⟩).elim
  ·rw[zF5 n hc,show zAY n cat J=_ from q3 n (by omega)]
   simp only[Option.bind_some,hc1,hc2]
   rw[zF5 n hc,whole_err r1 e0,r1]
   simp only[Option.bind_some]
   rw[show eqI r.2.2 0=false from decide_eq_false e0]
   simp[eqI]
theorem prefix_front{cat:Int}(hc:cat=1∨cat=2∨cat=3){J:List UInt8}(hJ:J.length<=2100){L:List Tq}(hL:Toks J (L++[(8,[],[])])){A:List Tk}{t:Tk}{B:List Tk}(hA:tks L=A)
 {o:Option zKZ} (hg: ∃N,∀n,N<=n->(Tc cat n).go (A++t::B)=some (o,t::B)):
 ∃x,Ev (fun n=>zAY n cat J) x∧(x.2.2=0∨x.2.2=5∨(x.2.2=4∧(x.2.1.Column=(J.length:Int)+1∨0<=Lib.indexByte J 10))):=by
 have htl:tks (L++[(8,[],[])])=A++[(8,[])]:=by rw[tks,List.map_append,<-tks,hA];simp
 obtain⟨o',A',t',B',hA',⟨N',hg'⟩,hw⟩:=whole_ok (by omega) hL hc
 obtain⟨N,hg⟩:=hg
 rcases hw with ⟨v,b,rfl,_,_,_,hx⟩|⟨q,q1,q2,q3,q4⟩
 ·refine⟨_,hx,?_⟩
  cases b
  ·exact .inr (.inl rfl)
  ·exact .inl rfl
 ·refine⟨_,q4,.inr (.inr ?_)⟩
  rw[htl] at hA'
  rcases List.eq_nil_or_concat B' with rfl|⟨B'',z,hB⟩
  ·
   have e:=List.append_inj hA' (by have:=congrArg List.length hA';simp at this;omega)
   obtain⟨rfl,e2⟩:=e
   cases e2
   refine⟨rfl,?_⟩
   have hAL:A.length=L.length:=by rw[<-hA,tks,zq4]
   have hq:q=(8,[],[]):=by
    rw[hAL,List.getElem?_append_right (Nat.le_refl _)] at q1
    simpa using q1.symm
   subst hq
   by_cases h10:0<=Lib.indexByte J 10
   ·exact .inr h10
   ·left
    show(PL J (J.length-0)).Column=_
    simp only[PL,la_none 10 J h10];omega
  ·exfalso
   subst hB
   have e:A'++t'::B''=A:=by
    have h2:A++[((8:Int),([]:List UInt8))]=(A'++t'::B'')++[z]:=by rw[hA'];simp
    exact(List.append_inj' h2 rfl).1.symm
   have g1:=hg' (max N N') (by omega)
   rw[htl,<-e] at g1
   have g2:=PT.go_loc t' (B''++[((8:Int),([]:List UInt8))]) (B''++t::B) _ A' o' (by
    have h3:z=((8:Int),([]:List UInt8)):=by
     have h2:A++[((8:Int),([]:List UInt8))]=(A'++t'::B'')++[z]:=by rw[hA'];simp
     exact(List.cons.inj (List.append_inj' h2 rfl).2).1.symm
    subst h3
    simpa using g1)
   have g3:=hg (max N N') (by omega)
   rw[<-e] at g3
   simp only[List.append_assoc,List.cons_append] at g3 g2
   have:=congrArg (fun p=>p.2.length) (zqa (g3.symm.trans g2))
   simp at this
   omega
theorem zHB(w:UInt8)(s more:List UInt8)(_:s.length<=140737488351232)(_:more.length<=140737488351232): ∃fuel,zBh fuel w s more=some true:=by
 by_cases hsz:1000<s.length∨1000<more.length
 ·refine⟨200,?_⟩
  rw[zBh,awake_M (by omega)]
  simp only[zCH,Bool.not_true,Bool.false_eq_true,if_false]
  rw[if_pos]
  simp only[Bool.or_eq_true,ltI,decide_eq_true_eq];omega
 have hs:s.length<=1000:=by omega
 have hm:more.length<=1000:=by omega
 obtain⟨cat,hcat,hc⟩:=category_M w
 by_cases hT: ∃l,Toks s l
 case neg=>
  refine⟨5000,?_⟩
  obtain⟨r,r1,r2⟩:=zFp s (by omega) (fuel:=5000) (by omega)
  rcases r2 with ⟨e0,l,t1,_⟩|⟨e0,_,_,_⟩
  ·exact(hT ⟨l,t1⟩).elim
  rw[zBh,awake_M (by omega)]
  simp only[zCH,Bool.not_true,Bool.false_eq_true,if_false]
  rw[if_neg (by simp only[Bool.or_eq_true,ltI,decide_eq_true_eq];omega),hcat]
  simp only[zCH,zF5 _ hc,whole_err r1 e0,r1]
  rw[show eqI r.2.2 0=false from decide_eq_false e0]
  rfl
 obtain⟨l,hT⟩:=hT
 have hlen:=hT.len (by omega)
 have hTok: ∀n,5000<=n->∃p,zCX n s=some (l.map (zH5 s),p,0):=fun n hn=>by
  obtain⟨v,v1,v2⟩:=zFp s (by omega) (fuel:=n) (by omega)
  rcases v2 with ⟨e0,l',t1,t2⟩|⟨_,_,t1,_⟩
  ·have:=t1.inj hT;subst this
   exact⟨v.2.1,by rw[v1,<-t2,<-e0]⟩
  ·exact(t1 _ hT).elim
 have start: ∀(v23:zKZ×zKa×Int),Ev (fun n=>zAY n cat s) v23->∃N,100000<=N∧∀n,N<=n->zAY n cat s=some v23:=fun v ⟨N,h⟩=>⟨max N 100000,by omega,fun n hn=>h n (by omega)⟩
 obtain⟨o,A,t,B,hA,hg,hw⟩:=whole_ok (by omega) hT hc
 rcases hw with ⟨v,b,_,_,_,_,hx⟩|⟨q,q1,q2,q3,q4⟩
 ·obtain⟨N,hN,hn⟩:=start _ hx
  refine⟨N,?_⟩
  obtain⟨p,hp⟩:=hTok N (by omega)
  rw[zBh,awake_M (by omega)]
  simp only[zCH,Bool.not_true,Bool.false_eq_true,if_false]
  rw[if_neg (by simp only[Bool.or_eq_true,ltI,decide_eq_true_eq];omega),hcat]
  simp only[zCH,zF5 _ hc,hn N (Nat.le_refl _),hp]
  cases b<;>rfl
 have hAl:=(zq1 q1).1
 have h8:=(hT.facts (s:=s) (by omega) ⟨0,by simp⟩).2.2.2 _ _ q1
 have hq1:q.1=t.1:=by rw[<-q2]
 by_cases ht:t.1=8
 ·rw[if_pos ht] at q4
  obtain⟨N,hN,hn⟩:=start _ q4
  refine⟨N,?_⟩
  obtain⟨p,hp⟩:=hTok N (by omega)
  have hk:A.length+1=l.length:=h8.1 (hq1.trans ht)
  rw[zBh,awake_M (by omega)]
  simp only[zCH,Bool.not_true,Bool.false_eq_true,if_false]
  rw[if_neg (by simp only[Bool.or_eq_true,ltI,decide_eq_true_eq];omega),hcat]
  simp only[zCH,zF5 _ hc,hn N (Nat.le_refl _),hp,zq4]
  rw[show eqI (l.length:Int) 0=false from decide_eq_false (by omega)]
  rw[if_neg (by decide),zJa (by omega) hT q1 (by omega)]
  simp only[zCH]
  rw[show ltI (A.length:Int) 0=false from decide_eq_false (by omega),zHz (by omega) (by omega)]
  simp only[Bool.false_eq_true,if_false,zCH]
  rw[show eqI (A.length:Int) ((l.length:Int)-1)=true from zqb (by omega)]
  rfl
 ·rw[if_neg ht] at q4
  have hk:A.length+1<l.length:=by
   have: ¬A.length+1=l.length:=fun e=>ht (hq1.symm.trans (h8.2 e))
   omega
  have hAlen:(tks l).take A.length=A:=by rw[hA];simp
  have hA1:(tks l).take (A.length+1)=A++[t]:=by rw[hA,List.take_append,List.take_of_length_le (by omega)];simp
  obtain⟨J,L,j1,j2,j3,j4⟩:=join_take hs hT hAl
  obtain⟨J2,L2,k1,k2,k3,k4⟩:=join_take hs hT hk
  obtain⟨Ng,hg⟩:=hg
  have hgA: ∀n,Ng<=n->(Tc cat n).go (A++t::B)=some (o,t::B):=fun n hn=>by rw[<-hA];exact hg n hn
  obtain⟨x,hx,hxx⟩:=prefix_front hc j4 j2 (j3.trans hAlen) ⟨Ng,hgA⟩
  obtain⟨N2,htail⟩:=prefix_tail hc k4 hm k2 (k3.trans hA1) ht (o:=o) ⟨Ng,fun B' n hn=>.inl (PT.go_loc t B B' _ A o (hgA n hn))⟩
  obtain⟨N,hN,hn⟩:=q4.also hx (max N2 100000)
  refine⟨N,?_⟩
  obtain⟨p,hp⟩:=hTok N (by omega)
  have hback:(if !(eqI (0:Int) 0) then some true else if !(eqI x.2.2 0) then if !(eqI x.2.2 4) then if !(eqI x.2.2 5) then some true else some false
   else (chk .i64 ((J.length:Int)+1)).bind fun n89=>if !(eqI x.2.1.Column n89) then (zCb J [10]).bind fun v97=>some (!v97) else some false
   else if eqI x.2.2 4 then (chk .i64 ((J.length:Int)+1)).bind fun n105=>if !(eqI x.2.1.Column n105) then (zCb J [10]).bind fun v113=>some (!v113) else some false
   else some false:Option Bool)=some false:=by
   rcases hxx with e|e|⟨e,e2⟩
   ·rw[e];rfl
   ·rw[e];rfl
   ·rw[e,zHz (by omega) (by omega)]
    simp only[zCH]
    rcases e2 with e2|e2
    ·rw[show eqI x.2.1.Column ((J.length:Int)+1)=true from zqb e2];rfl
    ·rw[show zCb J [10]=some true by rw[zCb,zqb e2]]
     cases eqI x.2.1.Column ((J.length:Int)+1)<;>rfl
  rw[zBh,awake_M (by omega)]
  simp only[zCH,Bool.not_true,Bool.false_eq_true,if_false]
  rw[if_neg (by simp only[Bool.or_eq_true,ltI,decide_eq_true_eq];omega),hcat]
  simp only[zCH]
  rw[zF5 _ hc s,show zAY N cat s=_ from(hn N (Nat.le_refl _)).1,hp]
  simp only[zCH,zq4]
  rw[show eqI (l.length:Int) 0=false from decide_eq_false (by omega)]
  rw[if_neg (by decide),zJa (by omega) hT q1 (by omega)]
  simp only[zCH]
  rw[show ltI (A.length:Int) 0=false from decide_eq_false (by omega),zHz (by omega) (by omega)]
  simp only[Bool.false_eq_true,if_false,zCH]
  rw[show eqI (A.length:Int) ((l.length:Int)-1)=false from decide_eq_false (by omega)]
  rw[if_neg (by decide),if_neg (by decide),subTg _ _ (by rw[zq4];omega)]
  simp only[zCH]
  rw[j1 N (by omega)]
  simp only[zCH]
  rw[zF5 _ hc J,show zAY N cat J=_ from(hn N (Nat.le_refl _)).2]
  simp only[zCH]
  rw[hback]
  simp only[zCH,Bool.false_eq_true,if_false]
  rw[show chk .i64 ((A.length:Int)+1)=some ((A.length+1:Nat):Int) from zHz (by omega) (by omega)]
  simp only[zCH]
  rw[subTg _ _ (by rw[zq4];omega)]
  simp only[zCH]
  rw[k1 N (by omega)]
  simp only[zCH]
  rw[if_neg (by decide)]
  exact htail N (by omega)
end Go.Proofs.YtcbjbgiboimgaaaGreatDoor
