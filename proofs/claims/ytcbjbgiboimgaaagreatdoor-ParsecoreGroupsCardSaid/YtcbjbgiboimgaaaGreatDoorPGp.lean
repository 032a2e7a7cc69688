/- For every input the law ParsecoreGroups returns true. Part 16 of 22. No condition. -/
import Derived.Test.YtcbjbgiboimgaaaGreatDoorPGo
set_option linter.unusedVariables false
set_option linter.unnecessarySimpa false
set_option linter.unusedSimpArgs false
set_option maxRecDepth 100000
set_option maxHeartbeats 4000000
namespace Go.Proofs.YtcbjbgiboimgaaaGreatDoor
open Go Go.Abs
theorem cat_some(op:Int): ∃c,zDg op=some c:=by
 unfold zDg
 repeat' first
  |exact⟨_,rfl⟩
  |apply ex_ite
def bl(cat:Int)(t:zKr):Bool:=(zBP cat t).getD false
theorem bl_eq(cat:Int)(t:zKr):zBP cat t=some (bl cat t):=by
 have: ∃b,zBP cat t=some b:=by
  unfold zBP
  obtain⟨c,hc⟩:=cat_some t.Op
  rw[hc]
  split
  ·exact⟨_,rfl⟩
  ·split<;>exact⟨_,rfl⟩
 obtain⟨b,h⟩:=this
 simp only[bl,h,Option.getD_some]
theorem many1_eq(s:List zKr)(c:Int)(n:Nat): ∀k i,zAs s c k i=IX (fun _ x=>some (!bl c x)) s n k i
 |0,_=>rfl
 |k+1,i=>by simp only[zAs,zE3,bl_eq,IX,Option.bind_some,many1_eq s c n k]
theorem many_any(l:List zKr)(c:Int):Ev (fun n=>zA5 n l c) (l.any fun x=> !bl c x):=by
 have e: ∀n,zA5 n l c=((IX (fun _ x=>some (!bl c x)) l n n 0).bind fun o=>Sum.elim some (fun _=>some (-1)) o).bind (fun v=>some (leI 0 v)):=fun n=>by
  simp only[zA5,zCE,many1_eq l c n]
 exact(IX_ev (fun x _=>Ev.const _)).congr e
theorem many_ev(l:List zKr)(c a b:Int):Ev (fun n=>zCN n l c a b) (leI a (l.length:Int)&&(leI (l.length:Int) b&&l.all fun x=>bl c x)):=by
 simp only[zCN]
 cases h1:leI a (l.length:Int) with
 |false=>exact Ev.const _
 |true=>
  cases h2:leI (l.length:Int) b with
  |false=>exact Ev.const _
  |true=>
   have:(l.all fun x=>bl c x)= !(l.any fun x=> !bl c x):=by simp[List.all_eq_not_any_not]
   simp only[if_true,Bool.true_and,this]
   exact Ev.map (fun v=>v) (Ev.map (fun v=> !v) (many_any l c))
theorem parts_AL(t:zKr)(cs:List Int)(n:Nat): ∀k i,zCi t cs k i=AL (fun _ i=>(cs[i]?).bind fun x=>(t.L[i]?).bind fun y=>some (!bl x y)) cs.length n k i
 |0,_=>rfl
 |k+1,i=>by simp only[zCi,bl_eq,AL,Option.bind_assoc,Option.bind_some,parts_AL t cs n k]
theorem parts_ev(t:zKr)(cs:List Int)(h:t.L.length=cs.length):Ev (fun n=>zAd n t cs) (!((List.range' 0 cs.length).any fun i=> !bl (cs.getD i 0) (t.L.getD i (zKr.mk 0 0 [] [] [])))):=by
 have h1:(eqI (t.L.length:Int) (cs.length:Int))=true:=zqb (by omega)
 simp only[zAd,h1,Bool.not_true,Bool.false_eq_true,if_false]
 have e: ∀n,zCi t cs n 0=AL (fun _ i=>(cs[i]?).bind fun x=>(t.L[i]?).bind fun y=>some (!bl x y)) cs.length n n 0:=fun n=>parts_AL t cs n n 0
 simp only[e]
 refine Ev.bind (AL_ev (q:=fun i=> !bl (cs.getD i 0) (t.L.getD i (zKr.mk 0 0 [] [] []))) fun i hi=>?_) ?_
 ·have:(cs[i]?).bind (fun x=>(t.L[i]?).bind fun y=>some (!bl x y))=some (!bl (cs.getD i 0) (t.L.getD i (zKr.mk 0 0 [] [] []))):=by
   rw[zq2 hi,zq2 (by omega:i<t.L.length)]
   simp[zq5,hi,(by omega:i<t.L.length)]
  rw[this];exact Ev.const _
 ·cases(List.range' 0 cs.length).any fun i=> !bl (cs.getD i 0) (t.L.getD i (zKr.mk 0 0 [] [] []))<;>exact Ev.const _
theorem parts_no(t:zKr)(cs:List Int)(h:t.L.length≠cs.length):Ev (fun n=>zAd n t cs) false:=by
 have h1:(eqI (t.L.length:Int) (cs.length:Int))=false:=decide_eq_false (by omega)
 simp only[zAd,h1,Bool.not_false,if_true]
 exact Ev.const _
theorem parts_cv(t:zKr)(cs:List Int):Cv fun n=>zAd n t cs:=by
 by_cases h:t.L.length=cs.length
 ·exact⟨_,parts_ev t cs h⟩
 ·exact⟨_,parts_no t cs h⟩
theorem idxint_eq(s:List Int)(v:Int)(n:Nat): ∀k i,zCM s v k i=IX (fun _ x=>some (eqI v x)) s n k i
 |0,_=>rfl
 |k+1,i=>by simp only[zCM,IX,Option.bind_some,idxint_eq s v n k]
theorem contInt_ev(s:List Int)(v:Int):Ev (fun n=>zCg n s v) (s.any fun x=>eqI v x):=by
 have e: ∀n,zCg n s v=((IX (fun _ x=>some (eqI v x)) s n n 0).bind fun o=>Sum.elim some (fun _=>some (-1)) o).bind (fun v=>some (leI 0 v)):=fun n=>by
  simp only[zCg,zDy,idxint_eq s v n]
 exact(IX_ev (fun x _=>Ev.const _)).congr e
theorem only1_eq(s:List zKr)(c:List Int)(n:Nat): ∀k i,zAr n s c k i=IX (fun n x=>zD8 n x c) s n k i
 |0,_=>rfl
 |k+1,i=>by simp only[zAr,IX,only1_eq s c n k]
theorem only_ev(l:List zKr)(c:List Int):Ev (fun n=>zCW n l c) (!(l.any fun x=> !(c.any fun o=>eqI x.Op o))):=by
 simp only[zCW]
 refine Ev.map (fun v=> !v) ?_
 have e: ∀n,zBQ n l c=((IX (fun n x=>zD8 n x c) l n n 0).bind fun o=>Sum.elim some (fun _=>some (-1)) o).bind (fun v=>some (leI 0 v)):=fun n=>by
  simp only[zBQ,zCD,only1_eq l c n]
 exact(IX_ev (q:=fun x=> !(c.any fun o=>eqI x.Op o)) (fun x _=>Ev.map (fun v=> !v) (contInt_ev c x.Op))).congr e
theorem diff1_eq(s:List zKr)(w:zKr)(n:Nat): ∀k i,zAp s w k i=IX (fun _ x=>some (eqS w.S x.S)) s n k i
 |0,_=>rfl
 |k+1,i=>by simp only[zAp,zEE,IX,Option.bind_some,diff1_eq s w n k]
theorem diff1_cv(l:List zKr)(w:zKr):Cv fun n=>zAq n l w:=by
 have e: ∀n,zAq n l w=((IX (fun _ x=>some (eqS w.S x.S)) l n n 0).bind fun o=>Sum.elim some (fun _=>some (-1)) o).bind (fun v=>some (leI 0 v)):=fun n=>by
  simp only[zAq,zBw,diff1_eq l w n]
 simp only[e]
 exact any_cv fun x _=>.const
theorem differ_AL(l:List zKr)(n:Nat): ∀k i,zCr n l k i=AL (fun n i=>(l[i]?).bind fun x=>(subC l 0 ((i:Nat):Int)).bind fun l13=>zAq n l13 x) l.length n k i
 |0,_=>rfl
 |k+1,i=>by simp only[zCr,AL,Option.bind_assoc,differ_AL l n k]
theorem differ_cv(l:List zKr):Cv fun n=>zEA n l:=by
 simp only[zEA,differ_AL]
 refine Cv.bind (AL_cv fun i hi=>Cv.get hi fun c _=>Cv.sub (by omega) (by omega) (by omega) (diff1_cv _ _)) fun o=>?_
 cases o<;>exact .const
theorem many_cv(l:List zKr)(c a b:Int):Cv fun n=>zCN n l c a b:=⟨_,many_ev l c a b⟩
theorem only_cv(l:List zKr)(c:List Int):Cv fun n=>zCW n l c:=⟨_,only_ev l c⟩
theorem shape_cv(t:zKr):Cv fun n=>zCT n t:=by
 simp only[zCT,bl_eq]
 repeat' first
  |with_reducible exact .const
  |with_reducible exact parts_cv _ _
  |with_reducible exact many_cv _ _ _ _
  |with_reducible exact only_cv _ _
  |with_reducible exact differ_cv _
  |with_reducible refine Cv.ite (fun _=>?_) fun _=>?_
  |(with_reducible refine Cv.get ?_ fun _ _=>?_;(simp only[leI,eqI,decide_eq_true_eq] at *;omega))
  |(with_reducible refine Cv.idx ?_ ?_ fun _ _=>?_;(simp only[leI,eqI,decide_eq_true_eq] at *;omega);omega)
  |(with_reducible refine Cv.sub ?_ ?_ ?_ ?_;(simp only[leI,eqI,decide_eq_true_eq] at *;omega);(simp only[leI,eqI,decide_eq_true_eq] at *;omega);omega)
  |with_reducible refine Cv.bind ?_ fun _=>?_
inductive WF:zKr->Bool->Prop where
 |mk {t:zKr} {w:Bool} (ho:Ev (fun n=>zDW n t w) true) (hs:Ev (fun n=>zCT n t) true) (h: ∀x∈t.L,WF x (eqI t.Op 74)):WF t w
mutual
def szT:zKr->Nat
 |⟨_,_,_,_,l⟩=>1+szL l
def szL:List zKr->Nat
 |[]=>0
 |x::l=>szT x+szL l
end
mutual
def dpT:zKr->Nat
 |⟨_,_,_,_,l⟩=>1+dpL l
def dpL:List zKr->Nat
 |[]=>0
 |x::l=>max (dpT x) (dpL l)
end
def FSt(t:zKr):Prop:= ∀(d:Int)(w:Bool)(c:Nat),0<=d->d<=401->c<=20000->∃b c',Ev (fun n=>zBi n t d w (c:Int)) (b,c')∧
 ((b=true∧WF t w∧c'=((c+szT t:Nat):Int)∧c+szT t<=20000∧d+dpT t<=401)∨(b=false∧¬(WF t w∧c+szT t<=20000∧d+dpT t<=401)))
def FL(l:List zKr):Prop:= ∀(s:List zKr)(i:Nat),s.drop i=l->∀(d:Int)(p:zKr)(c:Nat),0<=d->d<=400->c<=20000->
 ∃r N,(∀n k,N<=n->N<=k->zAY (zB7 n) s d p k (c:Int) i=some r)∧
  ((r=.inr ((c+szL l:Nat):Int)∧c+szL l<=20000∧d+1+dpL l<=401∧∀x∈l,WF x (eqI p.Op 74))∨
   ((∃(j:Nat) (c':Int),r=.inl ((j:Int),c'))∧¬(c+szL l<=20000∧d+1+dpL l<=401∧∀x∈l,WF x (eqI p.Op 74))))
theorem FL_nil:FL []:=fun s i hs d p c h1 h2 h3=>by
 refine⟨.inr ((c+szL []:Nat):Int),1,fun n k hn hk=>?_,.inl ⟨rfl,by simp only[szL];omega,by simp only[dpL];omega,fun x hx=>by cases hx⟩⟩
 obtain⟨k,rfl⟩: ∃k',k=k'+1:=⟨k-1,by omega⟩
 have hl:s.length<=i:=List.drop_eq_nil_iff.1 hs
 have h1:ltI (i:Int) (s.length:Int)=false:=by simp only[ltI,decide_eq_false_iff_not];omega
 rw[zAY,h1];rfl
theorem FL_cons{x:zKr}{l:List zKr}(hx:FSt x)(hl:FL l):FL (x::l):=fun s i hs d p c h1 h2 h3=>by
 have hi:i<s.length:=by
  rcases Nat.lt_or_ge i s.length with h|h
  ·exact h
  ·rw[List.drop_eq_nil_of_le h] at hs;cases hs
 have hs':=List.drop_eq_getElem_cons hi
 rw[hs] at hs'
 obtain⟨hx1,hl1⟩:=List.cons.inj hs'
 have hlt:ltI (i:Int) (s.length:Int)=true:=by simp only[ltI,decide_eq_true_eq];omega
 obtain⟨b,c',⟨N,hev⟩,hb⟩:=hx (d+1) (eqI p.Op 74) c (by omega) (by omega) h3
 have hc:chk .i64 (d+1)=some (d+1):=chkA (by omega) (by omega)
 have step: ∀n k,N+1<=n->zAY (zB7 n) s d p (k+1) (c:Int) i=if !b then some (.inl ((i:Int),c')) else zAY (zB7 n) s d p k c' (i+1):=fun n k hn=>by
  obtain⟨m,rfl⟩: ∃m,n=m+1:=⟨n-1,by omega⟩
  rw[zAY,hlt,if_pos rfl,zq2 hi,<-hx1]
  simp only[Option.bind_some]
  rw[zB7]
  simp only[hc,Option.bind_some,hev m (by omega)]
 rcases hb with ⟨rfl,hw,rfl,hsz,hdp⟩|⟨rfl,hno⟩
 ·obtain⟨r,N2,hr,ho⟩:=hl s (i+1) hl1.symm d p (c+szT x) h1 h2 hsz
  refine⟨r,max (N+1) (N2+1),fun n k hn hk=>?_,?_⟩
  ·obtain⟨k,rfl⟩: ∃k',k=k'+1:=⟨k-1,by omega⟩
   rw[step n k (by omega)]
   exact hr n k (by omega) (by omega)
  ·simp only[szL,dpL]
   rcases ho with ⟨rfl,a1,a2,a3⟩|⟨a1,a2⟩
   ·refine .inl ⟨by rw[Nat.add_assoc],by omega,by omega,fun y hy=>?_⟩
    rcases List.mem_cons.1 hy with rfl|hy
    ·exact hw
    ·exact a3 y hy
   ·exact .inr ⟨a1,fun g=>a2 ⟨by have:=g.1;omega,by have:=g.2.1;omega,fun y hy=>g.2.2 y (zqc _ hy)⟩⟩
 ·refine⟨.inl ((i:Int),c'),N+1,fun n k hn hk=>?_,.inr ⟨⟨i,c',rfl⟩,fun g=>hno ⟨g.2.2 x zq9,?_,?_⟩⟩⟩
  ·obtain⟨k,rfl⟩: ∃k',k=k'+1:=⟨k-1,by omega⟩
   rw[step n k (by omega)];rfl
  ·have:=g.1;simp only[szL] at this;omega
  ·have:=g.2.1;simp only[dpL] at this;omega
theorem FS_mk(t:zKr)(hl:FL t.L):FSt t:=fun d w c h1 h2 h3=>by
 have hsz:szT t=1+szL t.L:=by cases t;rfl
 have hdp:dpT t=1+dpL t.L:=by cases t;rfl
 have hc:chk .i64 ((c:Int)+1)=some ((c+1:Nat):Int):=chkA (by omega) (by omega)
 have no: ∀(h:Ev (fun n=>(if ltI 20000 ((c+1:Nat):Int) then some true else if ltI 400 d then some true else (zDW n t w).bind fun v16=>if !v16 then some true else (zCT n t).bind fun v21=>some (!v21):Option Bool)) true),
  Ev (fun n=>zBi n t d w (c:Int)) (false,((c+1:Nat):Int)):=fun⟨N,h⟩=>⟨N+1,fun n hn=>by
  obtain⟨m,rfl⟩: ∃m,n=m+1:=⟨n-1,by omega⟩
  have:=h m (by omega)
  simp only at this
  show zBi (m+1) t d w (c:Int)=_
  rw[zBi,hc]
  simp only[Option.bind_some]
  rw[this];rfl⟩
 by_cases g1:20000<c+1
 ·refine⟨false,_,no ?_,.inr ⟨rfl,fun g=>by have:=g.2.1;omega⟩⟩
  rw[show ltI 20000 ((c+1:Nat):Int)=true from zqb (by omega)];exact Ev.const _
 have e1:ltI 20000 ((c+1:Nat):Int)=false:=decide_eq_false (by omega)
 by_cases g2:400<d
 ·refine⟨false,_,no ?_,.inr ⟨rfl,fun g=>by have:=g.2.2;omega⟩⟩
  rw[e1,show ltI 400 d=true from zqb (by omega)];exact Ev.const _
 have e2:ltI 400 d=false:=decide_eq_false (by omega)
 simp only[e1,e2,Bool.false_eq_true,if_false] at no
 rcases(own_cv t w).bool with ho|ho
 case inr=>exact⟨false,_,no (ho.bind (Ev.const _)),.inr ⟨rfl,fun g=>by
  cases g.1 with
  |mk a _ _=>cases a.unique ho⟩⟩
 rcases(shape_cv t).bool with hs|hs
 case inr=>exact⟨false,_,no (ho.bind (hs.bind (Ev.const _))),.inr ⟨rfl,fun g=>by
  cases g.1 with
  |mk _ a _=>cases a.unique hs⟩⟩
 obtain⟨r,N,hr,hout⟩:=hl t.L 0 (List.drop_zero) d t (c+1) h1 (by omega) (by omega)
 obtain⟨No,ho'⟩:=ho
 obtain⟨Ns,hs'⟩:=hs
 have main: ∀n,N+No+Ns+10<=n->zBi n t d w (c:Int)=((Sum.elim some (fun o7=>some ((-1:Int),o7)) r:Option (Int×Int)).bind fun v5=>some (leI 0 v5.1,v5.2)).bind fun v26=>some (!v26.1,v26.2):=fun n hn=>by
  obtain⟨m,rfl⟩: ∃m,n=m+3:=⟨n-3,by omega⟩
  rw[zBi,hc]
  simp only[Option.bind_some,e1,e2,Bool.false_eq_true,if_false]
  rw[show zDW (m+2) t w=some true from ho' (m+2) (by omega)]
  simp only[Option.bind_some,Bool.not_true,Bool.false_eq_true,if_false]
  rw[show zCT (m+2) t=some true from hs' (m+2) (by omega)]
  simp only[Option.bind_some,Bool.not_true,Bool.false_eq_true,if_false]
  rw[zBA,zBL,hr m m (by omega) (by omega)]
  rfl
 rcases hout with ⟨rfl,a1,a2,a3⟩|⟨⟨j,c',rfl⟩,a2⟩
 ·refine⟨true,((c+1+szL t.L:Nat):Int),⟨_,fun n hn=>(main n hn).trans rfl⟩,.inl ⟨rfl,.mk ⟨No,ho'⟩ ⟨Ns,hs'⟩ a3,by rw[hsz,Nat.add_assoc],by omega,by omega⟩⟩
 ·refine⟨false,c',⟨_,fun n hn=>(main n hn).trans ?_⟩,.inr ⟨rfl,fun g=>a2 ⟨by have:=g.2.1;omega,by have:=g.2.2;omega,?_⟩⟩⟩
  ·simp only[Sum.elim_inl,Option.bind_some]
   rw[show leI 0 (j:Int)=true from zqb (by omega)];rfl
  ·cases g.1 with
   |mk _ _ h=>exact h
mutual
theorem FS_all: ∀t,FSt t
 |⟨a,b,c,d,l⟩=>FS_mk ⟨a,b,c,d,l⟩ (FL_all l)
theorem FL_all: ∀l,FL l
 |[]=>FL_nil
 |x::l=>FL_cons (FS_all x) (FL_all l)
end
theorem Valid_ev(cat:Int)(t:zKr): ∃b,Ev (fun n=>zCu n cat t) b∧(b=true↔bl cat t=true∧WF t false∧szT t<=20000∧dpT t<=400):=by
 simp only[zCu,bl_eq,zE4]
 cases hb:bl cat t with
 |false=>exact⟨false,Ev.const _,by simp⟩
 |true=>
  obtain⟨b,c',hev,ho⟩:=FS_all t 1 false 0 (by decide) (by decide) (by decide)
  refine⟨b,?_,?_⟩
  ·simp only[Option.bind_some,if_true]
   exact((hev.bind (Ev.const b)).bind (Ev.const b)).bind (Ev.const b)
  ·rcases ho with ⟨rfl,a1,a2,a3,a4⟩|⟨rfl,a1⟩
   ·exact⟨fun _=>⟨rfl,a1,by omega,by omega⟩,fun _=>rfl⟩
   ·exact⟨fun h=>(by cases h),fun g=>(a1 ⟨g.2.1,by omega,by omega⟩).elim⟩
def Ate{α:Type}(r:Nat):α->Nat->Prop:=fun _ r'=>r'+1<=r∧1<=r'
section
variable {α β:Type} {r:Nat} {Q:β->Nat->Prop}
theorem zB6{x:PT α}{f:α->PT β}(h:x.wp r (Ate r))(hf: ∀a r',r'+1<=r->1<=r'->(f a).wp r' Q):(x.bind f).wp r Q:=
 PT.wp_bindQ h fun a r' ha=>hf a r' ha.1 ha.2
theorem kd_I{n:Int}{x y:PT β}(h0:y.wp r Q)(h1:(n≠8->2<=r)->x.wp r Q):(PT.kd n fun b=>if b then x else y).wp r Q:=⟨h0,h1⟩
theorem kd_N{n:Int}{x y:PT β}(h0:x.wp r Q)(h1:(n≠8->2<=r)->y.wp r Q):(PT.kd n fun b=>if !b then x else y).wp r Q:=⟨h0,h1⟩
theorem zGE{s:List UInt8}{x y:PT β}(h0:y.wp r Q)(h1:2<=r->x.wp (r-1) Q):((T.skip s).bind fun b=>if b then x else y).wp r Q:=⟨h0,fun h=>⟨h,fun _ _=>h1 h⟩⟩
theorem skip_N{s:List UInt8}{x y:PT β}(h0:x.wp r Q)(h1:2<=r->y.wp (r-1) Q):((T.skip s).bind fun b=>if !b then x else y).wp r Q:=⟨h0,fun h=>⟨h,fun _ _=>h1 h⟩⟩
theorem zDl{s:List UInt8}{f:Unit->PT β}(h1:2<=r->(f ()).wp (r-1) Q):((T.want s).bind f).wp r Q:=⟨trivial,fun h=>⟨h,fun _ _=>h1 h⟩⟩
theorem zFa{n:Int}(hn:n≠8){f:List UInt8->PT β}(h1:2<=r->∀t:List UInt8,t.length<=20000->(f t).wp (r-1) Q):((T.name n).bind f).wp r Q:=⟨trivial,fun h=>⟨h hn,fun t ht=>h1 (h hn) t ht⟩⟩
theorem named_I{x y:PT β}(h0:y.wp r Q)(h1:2<=r->x.wp r Q):(T.named.bind fun b=>if b then x else y).wp r Q:=⟨⟨h0,fun h=>h1 (h (by decide))⟩,fun h=>h1 (h (by decide))⟩
theorem begins_I{x y:PT β}(h0:y.wp r Q)(h1:2<=r->x.wp r Q):(T.begins.bind fun b=>if b then x else y).wp r Q:=
 ⟨⟨⟨⟨⟨⟨⟨h0,h1⟩,h1⟩,h1⟩,fun h=>h1 (h (by decide))⟩,fun h=>h1 (h (by decide))⟩,fun h=>h1 (h (by decide))⟩,fun h=>h1 (h (by decide))⟩
theorem ofO_wp{o:Option α}{a:α}(h:o=some a){f:α->PT β}(hf:(f a).wp r Q):((PT.ofO o).bind f).wp r Q:=by subst h;exact hf
theorem app80{x:List zKr}{v:zKr}(hx:x.length<=100000){f:List zKr->PT β}(hf:(f (x++[v])).wp r Q):((PT.ofO (app 80 x [v])).bind f).wp r Q:=
 ofO_wp (appA (by decide) (by simp only[List.length_cons,List.length_nil];omega)) hf
theorem app16{x:Nms}{v:List UInt8}(hx:x.length<=100000){f:Nms->PT β}(hf:(f (x++[v])).wp r Q):((PT.ofO (app 16 x [v])).bind f).wp r Q:=
 ofO_wp (appA (by decide) (by simp only[List.length_cons,List.length_nil];omega)) hf
theorem ops_wp{n:Int}{f:Int->PT β}(h0:(f 0).wp r Q): ∀L:List (Int×List UInt8×Int),(2<=r->∀q∈L,eqI n q.1=true->(f q.2.2).wp r Q)->((T.ops n L).bind f).wp r Q
 |[],h=>h0
 |q::L,h=>by
  have ih:=ops_wp h0 L fun h2 q hq=>h h2 q (zqc _ hq)
  rw[T.ops]
  split
  ·rename_i hn
   exact⟨ih,fun h2=>h h2 q zq9 hn⟩
  ·exact ih
end
theorem path_l1_wp(cap:Bool): ∀k x r,r<=k->1<=r->x.length+r<=40000->(T.path_l1 cap k x).wp r fun a r'=>Sum.elim (fun _=>r'+1<=r∧1<=r') (fun l=>r'<=r∧1<=r'∧l.length+r'<=40000) a
 |0,x,r,h1,h2,h3=>by omega
 |k+1,x,r,h1,h2,h3=>by
  rw[T.path_l1]
  refine kd_I ⟨by omega,h2,h3⟩ fun h=>zFa (by decide) fun h4 t ht=>app16 (by omega) ?_
  have nx:((T.want [46]).bind fun _=>T.path_l1 cap k (x++[t])).wp (r-1) fun a r'=>Sum.elim (fun _=>r'+1<=r∧1<=r') (fun l=>r'<=r∧1<=r'∧l.length+r'<=40000) a:=by
   refine zDl fun h5=>PT.wp_mono (fun a r' ha=>?_) _ _ (path_l1_wp cap k (x++[t]) (r-1-1) (by omega) (by omega) (by simp only[List.length_append,List.length_cons,List.length_nil];omega))
   cases a with
   |inl a=>exact⟨by have:=ha.1;omega,ha.2⟩
   |inr a=>exact⟨by have:=ha.1;omega,ha.2⟩
  cases cap with
  |false=>exact nx
  |true=>exact⟨⟨by omega,by omega⟩,fun _=>nx⟩
theorem path_wp(fuel:Nat)(cap:Bool){r:Nat}(h:r<=fuel)(h1:1<=r)(h2:r<=20000):(T.path fuel cap).wp r (Ate r):=by
 refine PT.wp_bindQ (path_l1_wp cap fuel [] r h h1 (by simp only[List.length_nil];omega)) fun a r' ha=>?_
 cases a with
 |inl a=>exact ha
 |inr l=>
  obtain⟨h3,h4,h5⟩:=ha
  exact zFa (by decide) fun h6 t ht=>app16 (by omega) ⟨by omega,by omega⟩
theorem zHb(fuel:Nat)(x:List zKr){r:Nat}(h:r<=fuel)(h1:1<=r)(h2:r<=20000):(T.typePath fuel x).wp r (Ate r):=
 zB6 (path_wp fuel false h h1 h2) fun a r' h3 h4=>⟨h3,h4⟩
theorem mods_l1_wp: ∀k x r,r<=k->1<=r->x.length+r<=40000->(T.mods_l1 k x).wp r fun _ r'=>r'<=r∧1<=r'
 |0,x,r,h1,h2,h3=>by omega
 |k+1,x,r,h1,h2,h3=>by
  rw[T.mods_l1]
  refine zGE ⟨by omega,h2⟩ fun h=>zFa (by decide) fun h4 t ht=>app16 (by omega) ?_
  exact PT.wp_mono (fun a r' ha=>⟨by have:=ha.1;omega,ha.2⟩) _ _ (mods_l1_wp k (x++[t]) (r-1-1) (by omega) (by omega) (by simp only[List.length_append,List.length_cons,List.length_nil];omega))
theorem zJn(fuel:Nat){r:Nat}(h:r<=fuel)(h1:1<=r)(h2:r<=20000):(T.mods fuel).wp r (Ate r):=by
 refine zFa (by decide) fun h4 t ht=>PT.wp_mono (fun a r' ha=>⟨by have:=ha.1;omega,ha.2⟩) _ _ (mods_l1_wp fuel [t] (r-1) (by omega) (by omega) (by simp only[List.length_cons,List.length_nil];omega))
theorem sep_wp(s:List UInt8){F:PT zKr}(R:Nat)(hF: ∀r,1<=r->r<=R->F.wp r (Ate r)): ∀k x r,r<=k->1<=r->r<=R+1->x.length+r<=40000->(T.sep s F k x).wp r fun l r'=>r'<=r∧1<=r'∧x.length<=l.length∧l.length<=40000
 |0,x,r,h1,h2,h4,h3=>by omega
 |k+1,x,r,h1,h2,h4,h3=>by
  rw[T.sep]
  refine zGE ⟨by omega,h2,by omega,by omega⟩ fun h=>zB6 (hF _ (by omega) (by omega)) fun v r' h5 h6=>app80 (by omega) ?_
  refine PT.wp_mono (fun a r' ha=>?_) _ _ (sep_wp s R hF k (x++[v]) r' (by omega) (by omega) (by omega) (by simp only[List.length_append,List.length_cons,List.length_nil];omega))
  obtain⟨a1,a2,a3,a4⟩:=ha
  simp only[List.length_append,List.length_cons,List.length_nil] at a3
  exact⟨by omega,a2,by omega,a4⟩
theorem zHS{α:Type}{l:List α}(h:1<=l.length): ∃a,l[0]? =some a:=⟨_,zq2 h⟩
theorem zIA(fuel:Nat): ∀k t r,r<=k->r<=fuel->1<=r->r<=20000->(T.pfx_l1 fuel k t).wp r fun _ r'=>r'<=r∧1<=r'
 |0,t,r,h1,h2,h3,h4=>by omega
 |k+1,t,r,h1,h2,h3,h4=>by
  rw[T.pfx_l1]
  exact named_I ⟨by omega,h3⟩ fun h5=>zB6 (zHb fuel _ h2 h3 h4) fun u r' h6 h7=>PT.wp_mono (fun a r' ha=>⟨by have:=ha.1;omega,ha.2⟩) _ _ (zIA fuel k u r' (by omega) (by omega) h7 (by omega))
theorem types_wp: ∀fuel,(∀r,30*r+1<=fuel->1<=r->r<=20000->(T.simple fuel).wp r (Ate r))∧(∀r,30*r+2<=fuel->1<=r->r<=20000->(T.pfx fuel).wp r (Ate r))∧
 (∀r,30*r+3<=fuel->1<=r->r<=20000->(T.product fuel).wp r (Ate r))∧(∀r,30*r+4<=fuel->1<=r->r<=20000->(T.typ fuel).wp r (Ate r))
 |0=>⟨fun r h=>by omega,fun r h=>by omega,fun r h=>by omega,fun r h=>by omega⟩
 |fuel+1=>by
  obtain⟨h1,h2,h3,h4⟩:=types_wp fuel
  refine⟨fun r hf hr hm=>?_,fun r hf hr hm=>?_,fun r hf hr hm=>?_,fun r hf hr hm=>?_⟩
  ·rw[T.simple]
   refine kd_I ?_ fun h=>zFa (by decide) fun h5 t ht=>⟨by omega,by omega⟩
   refine skip_N (zB6 (zHb fuel _ (by omega) hr hm) fun v r' h5 h6=>⟨h5,h6⟩) fun h5=>?_
   refine zGE ?_ fun h6=>zB6 (zJn fuel (by omega) (by omega) (by omega)) fun l r' h7 h8=>zDl fun h9=>⟨by omega,by omega⟩
   refine zB6 (h4 _ (by omega) (by omega) (by omega)) fun t r' h7 h8=>?_
   refine PT.wp_bindQ (sep_wp [44] (r-1) (fun q hq hq2=>h4 q (by omega) hq (by omega)) fuel [t] r' (by omega) h8 (by omega) (by simp only[List.length_cons,List.length_nil];omega)) fun l r'' hl=>?_
   obtain⟨l1,l2,l3,l4⟩:=hl
   refine zDl fun h9=>?_
   split
   ·obtain⟨a,ha⟩:=zHS (l:=l) (by simpa using l3)
    exact ofO_wp ha ⟨by omega,by omega⟩
   ·exact zB6 (zHb fuel _ (by omega) (by omega) (by omega)) fun v r' h5 h6=>⟨by omega,h6⟩
  ·rw[T.pfx]
   refine zB6 (h1 _ (by omega) hr hm) fun t r' h7 h8=>PT.wp_bindQ (zIA fuel fuel t r' (by omega) (by omega) h8 (by omega)) fun a r'' ha=>⟨by have:=ha.1;omega,ha.2⟩
  ·rw[T.product]
   refine zB6 (h2 _ (by omega) hr hm) fun t r' h7 h8=>PT.wp_bindQ (sep_wp [42] (r-1) (fun q hq hq2=>h2 q (by omega) hq (by omega)) fuel [t] r' (by omega) h8 (by omega) (by simp only[List.length_cons,List.length_nil];omega)) fun l r'' hl=>?_
   obtain⟨l1,l2,l3,l4⟩:=hl
   split
   ·obtain⟨a,ha⟩:=zHS (l:=l) (by simpa using l3)
    exact ofO_wp ha ⟨by omega,by omega⟩
   ·exact⟨by omega,l2⟩
  ·rw[T.typ]
   refine zB6 (h3 _ (by omega) hr hm) fun t r' h7 h8=>zGE ⟨by omega,h8⟩ fun h9=>zB6 (h4 _ (by omega) (by omega) (by omega)) fun u r'' h5 h6=>⟨by omega,h6⟩
theorem zKO(fuel:Nat){β:Type}{r:Nat}{Q:β->Nat->Prop}{f:Int->PT β}(h:20001<=fuel)(hf:2<=r->∀n:Int,-4503599627370496<=-n->-n<=0->(f n).wp (r-1) Q):((T.number fuel).bind f).wp r Q:=by
 unfold T.number
 rw[PT.bind_assoc]
 refine zFa (by decide) fun h2 t ht=>?_
 obtain⟨v,hv,h3,h4⟩:=zKa t ht (fuel:=fuel) (by omega)
 rw[PT.bind_assoc]
 exact ofO_wp hv (hf h2 v.1 h3 h4)
theorem pats_wp: ∀fuel,(∀r,30*r+20001<=fuel->1<=r->r<=20000->(T.argument fuel).wp r (Ate r))∧(∀r,30*r+20002<=fuel->1<=r->r<=20000->(T.pattern fuel).wp r (Ate r))
 |0=>⟨fun r h=>by omega,fun r h=>by omega⟩
 |fuel+1=>by
  obtain⟨h1,h2⟩:=pats_wp fuel
  refine⟨fun r hf hr hm=>?_,fun r hf hr hm=>?_⟩
  ·rw[T.argument]
   refine zGE ?_ fun h=>⟨by omega,by omega⟩
   refine zGE ?_ fun h=>zKO fuel (by omega) fun h5 n h6 h7=>ofO_wp (chkA (by omega) (by omega)) ⟨by omega,by omega⟩
   refine kd_I ?_ fun h=>zKO fuel (by omega) fun h5 n h6 h7=>⟨by omega,by omega⟩
   refine kd_I ?_ fun h=>zFa (by decide) fun h5 t ht=>⟨by omega,by omega⟩
   refine kd_I ?_ fun h=>zB6 (zJn fuel (by omega) (by omega) (by omega)) fun l r' h7 h8=>⟨h7,h8⟩
   refine zDl fun h5=>zGE ?_ fun h6=>⟨by omega,by omega⟩
   refine zB6 (h2 _ (by omega) (by omega) (by omega)) fun t r' h7 h8=>?_
   refine PT.wp_bindQ (sep_wp [44] (r-1) (fun q hq hq2=>h2 q (by omega) hq (by omega)) fuel [t] r' (by omega) h8 (by omega) (by simp only[List.length_cons,List.length_nil];omega)) fun l r'' hl=>?_
   obtain⟨l1,l2,l3,l4⟩:=hl
   refine zDl fun h9=>?_
   split
   ·obtain⟨a,ha⟩:=zHS (l:=l) (by simpa using l3)
    exact ofO_wp ha ⟨by omega,by omega⟩
   ·exact⟨by omega,by omega⟩
  ·rw[T.pattern]
   refine kd_N (zB6 (h1 _ (by omega) hr hm) fun t r' h7 h8=>⟨h7,h8⟩) fun h=>zB6 (zJn fuel (by omega) (by omega) (by omega)) fun l r' h7 h8=>?_
   have no:(PT.ret (zKr.mk 14 0 [] l []):PT zKr).wp r' (Ate r):=⟨h7,h8⟩
   have yes:((T.argument fuel).bind fun t=>PT.ret (zKr.mk 14 0 [] l [t])).wp r' (Ate r):=zB6 (h1 _ (by omega) h8 (by omega)) fun t r'' h5 h6=>⟨by omega,h6⟩
   exact⟨⟨⟨⟨⟨⟨no,fun _=>yes⟩,fun _=>yes⟩,fun _=>yes⟩,fun _=>yes⟩,fun _=>yes⟩,fun _=>yes⟩
theorem zI3(fuel:Nat){F:PT zKr}(R:Nat)(hF: ∀r,1<=r->r<=R->F.wp r (Ate r))(hP: ∀r,1<=r->r<=R->(T.pattern fuel).wp r (Ate r)): ∀k x r,r<=k->1<=r->r<=R->x.length+r<=40000->(T.choice_l1 fuel F k x).wp r fun _ r'=>r'<=r∧1<=r'
 |0,x,r,h1,h2,h4,h3=>by omega
 |k+1,x,r,h1,h2,h4,h3=>by
  rw[T.choice_l1]
  refine zB6 (hP _ h2 h4) fun p r1 a1 b1=>zDl fun c1=>zB6 (hF _ (by omega) (by omega)) fun v r2 a2 b2=>app80 (by simp) (app80 (by omega) (skip_N (zDl fun c2=>⟨by omega,by omega⟩) fun c3=>?_))
  exact PT.wp_mono (fun a r' ha=>⟨by have:=ha.1;omega,ha.2⟩) _ _ (zI3 fuel R hF hP k _ (r2-1) (by omega) (by omega) (by omega) (by simp only[List.length_append,List.length_cons,List.length_nil];omega))
theorem zHP{F:PT zKr}(R:Nat)(hF: ∀r,1<=r->r<=R->F.wp r (Ate r)): ∀k x r,r<=k->1<=r->r<=R->(T.negation_l1 F k x).wp r fun _ r'=>r'<=r∧1<=r'
 |0,x,r,h1,h2,h4=>by omega
 |k+1,x,r,h1,h2,h4=>by
  rw[T.negation_l1]
  exact begins_I ⟨by omega,h2⟩ fun h=>zB6 (hF _ h2 h4) fun v r1 a1 b1=>PT.wp_mono (fun a r' ha=>⟨by have:=ha.1;omega,ha.2⟩) _ _ (zHP R hF k _ r1 (by omega) b1 (by omega))
theorem decl_l1_wp: ∀k x r,r<=k->1<=r->x.length+r<=40000->(T.decl_l1 k x).wp r fun _ r'=>r'<=r∧1<=r'
 |0,x,r,h1,h2,h3=>by omega
 |k+1,x,r,h1,h2,h3=>by
  rw[T.decl_l1]
  refine kd_I ⟨by omega,h2⟩ fun h=>zFa (by decide) fun h4 t ht=>app16 (by omega) ?_
  exact PT.wp_mono (fun a r' ha=>⟨by have:=ha.1;omega,ha.2⟩) _ _ (decl_l1_wp k (x++[t]) (r-1) (by omega) (by omega) (by simp only[List.length_append,List.length_cons,List.length_nil];omega))
theorem let_l1_wp{F:PT zKr}(R:Nat)(hF: ∀r,1<=r->r<=R->F.wp r (Ate r)): ∀k x r,r<=k->1<=r->r<=R->x.length+r<=40000->(T.let_l1 F k x).wp r fun l r'=>r'<=r∧1<=r'∧l.length<=40000
 |0,x,r,h1,h2,h4,h3=>by omega
 |k+1,x,r,h1,h2,h4,h3=>by
  rw[T.let_l1]
  refine skip_N (zB6 (hF _ h2 h4) fun v r1 a1 b1=>app80 (by omega) ?_) fun h=>⟨by omega,by omega,by omega⟩
  exact PT.wp_mono (fun a r' ha=>⟨by have:=ha.1;omega,ha.2⟩) _ _ (let_l1_wp R hF k (x++[v]) r1 (by omega) (by omega) (by omega) (by simp only[List.length_append,List.length_cons,List.length_nil];omega))
theorem zJs{F:Int->PT zKr}(n:Int)(R:Nat)(hF: ∀r m,(m=n∨m=n+1)->1<=r->r<=R->(F m).wp r (Ate r)): ∀k x r,r<=k->1<=r->r<=R+1->(T.level_l1 F n (n+1) k x).wp r fun _ r'=>r'<=r∧1<=r'
 |0,x,r,h1,h2,h4=>by omega
 |k+1,x,r,h1,h2,h4=>by
  rw[T.level_l1]
  refine ops_wp ?_ OPS fun h2 q hq hn=>?_
  ·rw[if_pos (by decide)];exact⟨by omega,h2⟩
  split
  ·exact⟨by omega,by omega⟩
  ·refine⟨h2,fun t ht=>?_⟩
   split
   ·exact zB6 (hF _ _ (.inl rfl) (by omega) (by omega)) fun u r1 a1 b1=>⟨by omega,b1⟩
   split
   ·exact zB6 (hF _ _ (.inl rfl) (by omega) (by omega)) fun u r1 a1 b1=>⟨by omega,b1⟩
   split
   ·exact zB6 (hF _ _ (.inl rfl) (by omega) (by omega)) fun u r1 a1 b1=>⟨by omega,b1⟩
   split
   ·exact zB6 (hF _ _ (.inr rfl) (by omega) (by omega)) fun u r1 a1 b1=>⟨by omega,b1⟩
   ·exact zB6 (hF _ _ (.inr rfl) (by omega) (by omega)) fun u r1 a1 b1=>PT.wp_mono (fun a r' ha=>⟨by have:=ha.1;omega,ha.2⟩) _ _ (zJs n R hF k _ r1 (by omega) b1 (by omega))
theorem ofO_bind{α β:Type}(a:α)(f:α->PT β):(PT.ofO (some a)).bind f=f a:=rfl
theorem level_succ(fuel:Nat)(n:Int)(h:eqI n 7=false)(h1: -9223372036854775808<=n+1)(h2:n+1<=9223372036854775807):T.level (fuel+1) n=(T.level fuel (n+1)).bind fun t=>T.level_l1 (T.level fuel) n (n+1) fuel t:=by
 rw[T.level,if_neg (by rw[h];decide),chkA h1 h2,ofO_bind]
theorem zJr(fuel:Nat):T.level (fuel+1) 7=(T.negation fuel).bind .ret:=by
 rw[T.level,if_pos (by decide)]
theorem level_step(K fuel:Nat)(hK:20001<=K)(h3: ∀r,30*r+K+2<=fuel->1<=r->r<=20000->(T.negation fuel).wp r (Ate r))(h4: ∀r (n:Nat),1<=n->n<=7->30*r+K+10<=fuel+n->1<=r->r<=20000->(T.level fuel n).wp r (Ate r))
 (r n:Nat) (hn1:1<=n) (hn7:n<=7) (hf:30*r+K+10<=fuel+1+n) (hr:1<=r) (hm:r<=20000):(T.level (fuel+1) n).wp r (Ate r):=by
 have hn:((n+1:Nat):Int)=(n:Int)+1:=by omega
 rcases Nat.lt_or_ge n 7 with h|h
 ·have h4': ∀q,30*q+K+10<=fuel+(n+1)->1<=q->q<=20000->(T.level fuel ((n:Int)+1)).wp q (Ate q):=fun q g1 g2 g3=>by
   rw[<-hn];exact h4 q (n+1) (by omega) (by omega) g1 g2 g3
  rw[level_succ fuel n (by simp only[eqI,decide_eq_false_iff_not];omega) (by omega) (by omega)]
  refine zB6 (h4' r (by omega) hr hm) fun t r1 a1 b1=>?_
  refine PT.wp_mono (fun a r' ha=>?_) _ _ (zJs n (r-1) (fun q m hm2 hq hq2=>?_) fuel t r1 (by omega) b1 (by omega))
  ·obtain⟨x1,x2⟩:=ha
   exact⟨by omega,x2⟩
  rcases hm2 with rfl|rfl
  ·exact h4 q n hn1 hn7 (by omega) hq (by omega)
  ·exact h4' q (by omega) hq (by omega)
 ·have:n=7:=by omega
  subst this
  rw[show((7:Nat):Int)=7 from rfl,zJr]
  exact zB6 (h3 _ (by omega) hr hm) fun t r1 a1 b1=>⟨a1,b1⟩
def ExprsWp(K fuel:Nat):Prop:=(∀r,30*r+K+11<=fuel->1<=r->r<=20000->(T.inside fuel).wp r (Ate r))∧(∀r,30*r+K+11<=fuel->1<=r->r<=20000->(T.choice fuel).wp r (Ate r))∧
 (∀r,30*r+K+2<=fuel->1<=r->r<=20000->(T.negation fuel).wp r (Ate r))∧(∀r (n:Nat),1<=n->n<=7->30*r+K+10<=fuel+n->1<=r->r<=20000->(T.level fuel n).wp r (Ate r))∧
 (∀r,30*r+K+10<=fuel->1<=r->r<=20000->(T.expr fuel).wp r (Ate r))∧(∀r,30*r+K+1<=fuel->1<=r->r<=20000->(T.decl fuel).wp r (Ate r))∧
 (∀r,30*r+K+11<=fuel->1<=r->r<=20000->(T.let fuel).wp r (Ate r))∧(∀r,30*r+K+1<=fuel->1<=r->r<=20000->(T.atom fuel).wp r (Ate r))
theorem exprs_step(K fuel:Nat)(hK:20001<=K)(h:ExprsWp K fuel):ExprsWp K (fuel+1):=by
 obtain⟨h1,h2,h3,h4,h5,h6,h7,h8⟩:=h
 have h41: ∀r,30*r+K+10<=fuel+1->1<=r->r<=20000->(T.level fuel 1).wp r (Ate r):=fun r g1 g2 g3=>h4 r 1 (by omega) (by omega) g1 g2 g3
 have ht:=(types_wp fuel).2.2.2
 have hp:=(pats_wp fuel).2
 refine⟨fun r hf hr hm=>?_,fun r hf hr hm=>?_,fun r hf hr hm=>?_,fun r n hn1 hn7 hf hr hm=>?_,fun r hf hr hm=>?_,fun r hf hr hm=>?_,fun r hf hr hm=>?_,fun r hf hr hm=>?_⟩
 ·rw[T.inside]
  refine zGE ?_ fun c1=>⟨by omega,by omega⟩
  refine zGE ?_ fun c1=>zB6 (zJn fuel (by omega) (by omega) (by omega)) fun l r1 a1 b1=>zDl fun c2=>zB6 (zJn fuel (by omega) (by omega) (by omega)) fun l r2 a2 b2=>zDl fun c3=>⟨by omega,by omega⟩
  refine zB6 (h5 _ (by omega) hr hm) fun t r1 a1 b1=>?_
  refine zGE ?_ fun c2=>zB6 (ht _ (by omega) (by omega) (by omega)) fun u r2 a2 b2=>app80 (by simp) (zDl fun c3=>⟨by omega,by omega⟩)
  refine PT.wp_bindQ (sep_wp [44] (r-1) (fun q hq hq2=>h5 q (by omega) hq (by omega)) fuel [t] r1 (by omega) b1 (by omega) (by simp only[List.length_cons,List.length_nil];omega)) fun l r'' hl=>?_
  obtain⟨l1,l2,l3,l4⟩:=hl
  refine zDl fun h9=>?_
  split
  ·obtain⟨a,ha⟩:=zHS (l:=l) (by simpa using l3)
   exact ofO_wp ha ⟨by omega,by omega⟩
  ·exact⟨by omega,by omega⟩
 ·rw[T.choice]
  refine zB6 (h5 _ (by omega) hr hm) fun t r1 a1 b1=>zDl fun c1=>?_
  exact PT.wp_mono (fun a r' ha=>⟨by have:=ha.1;omega,ha.2⟩) _ _ (zI3 fuel (r-1) (fun q hq hq2=>h5 q (by omega) hq (by omega)) (fun q hq hq2=>hp q (by omega) hq (by omega)) fuel [t] (r1-1) (by omega) (by omega) (by omega) (by simp only[List.length_cons,List.length_nil];omega))
 ·rw[T.negation]
  refine zGE ?_ fun c1=>zB6 (h3 _ (by omega) (by omega) (by omega)) fun t r1 a1 b1=>⟨by omega,b1⟩
  refine zB6 (h8 _ (by omega) hr hm) fun t r1 a1 b1=>PT.wp_bindQ (zHP (r-1) (fun q hq hq2=>h8 q (by omega) hq (by omega)) fuel t r1 (by omega) b1 (by omega)) fun a r' ha=>⟨by have:=ha.1;omega,ha.2⟩
 ·exact level_step K fuel hK h3 h4 r n hn1 hn7 hf hr hm
 ·rw[T.expr]
  refine zGE ?_ fun c1=>skip_N (zFa (by decide) fun c2 s hs=>zDl fun c3=>zB6 (h5 _ (by omega) (by omega) (by omega)) fun t r1 a1 b1=>⟨by omega,b1⟩) fun c2=>zDl fun c3=>zB6 (h5 _ (by omega) (by omega) (by omega)) fun t r1 a1 b1=>⟨by omega,b1⟩
  refine zGE (zB6 (h41 r (by omega) hr hm) fun t r1 a1 b1=>⟨a1,b1⟩) fun c1=>?_
  exact zB6 (h5 _ (by omega) (by omega) (by omega)) fun t r1 a1 b1=>zDl fun c2=>zB6 (h5 _ (by omega) (by omega) (by omega)) fun u r2 a2 b2=>app80 (by simp) (zDl fun c3=>zB6 (h5 _ (by omega) (by omega) (by omega)) fun v r3 a3 b3=>app80 (by simp) ⟨by omega,b3⟩)
 ·rw[T.decl]
  refine zGE ?_ fun c1=>zFa (by decide) fun c2 s hs=>zDl fun c3=>zB6 (h5 _ (by omega) (by omega) (by omega)) fun t r1 a1 b1=>⟨by omega,b1⟩
  refine zGE ?_ fun c1=>zFa (by decide) fun c2 s hs=>zFa (by decide) fun c3 x hx=>PT.wp_bindQ (decl_l1_wp fuel [x] (r-1-1-1) (by omega) (by omega) (by simp only[List.length_cons,List.length_nil];omega)) fun l r1 hl=>zDl fun c4=>zB6 (h5 _ (by have:=hl.1;omega) (by omega) (by have:=hl.1;omega)) fun t r2 a2 b2=>⟨by have:=hl.1;omega,b2⟩
  exact zDl fun c1=>zFa (by decide) fun c2 s hs=>zDl fun c3=>zDl fun c4=>zB6 (h8 _ (by omega) (by omega) (by omega)) fun t r1 a1 b1=>zDl fun c5=>zB6 (zJn fuel (by omega) (by omega) (by omega)) fun m r2 a2 b2=>app80 (by simp) ⟨by omega,b2⟩
 ·rw[T.let]
  refine PT.wp_bindQ (let_l1_wp r (fun q hq hq2=>h6 q (by omega) hq (by omega)) fuel [] r (by omega) hr (by omega) (by simp only[List.length_nil];omega)) fun L r1 hL=>?_
  obtain⟨l1,l2,l3⟩:=hL
  exact zB6 (h5 _ (by omega) (by omega) (by omega)) fun t r2 a2 b2=>app80 (by omega) (zDl fun c1=>⟨by omega,by omega⟩)
 ·rw[T.atom]
  refine kd_I ?_ fun c1=>zKO fuel (by omega) fun c2 n h6 h7=>⟨by omega,by omega⟩
  refine kd_I ?_ fun c1=>zFa (by decide) fun c2 t ht=>⟨by omega,by omega⟩
  refine named_I ?_ fun c1=>zB6 (path_wp fuel true (by omega) hr hm) fun v r1 a1 b1=>?_
  ·refine zGE ?_ fun c1=>zB6 (h7 _ (by omega) (by omega) (by omega)) fun t r1 a1 b1=>⟨by omega,b1⟩
   refine zGE ?_ fun c1=>zB6 (h2 _ (by omega) (by omega) (by omega)) fun t r1 a1 b1=>⟨by omega,b1⟩
   exact zDl fun c1=>zB6 (h1 _ (by omega) (by omega) (by omega)) fun t r1 a1 b1=>⟨by omega,b1⟩
  ·split
   ·exact⟨a1,b1⟩
   ·exact⟨a1,b1⟩
theorem exprs_wp(K:Nat)(hK:20001<=K): ∀fuel,ExprsWp K fuel
 |0=>⟨fun r h=>by omega,fun r h=>by omega,fun r h=>by omega,fun r n h1 h2 h3=>by omega,fun r h=>by omega,fun r h=>by omega,fun r h=>by omega,fun r h=>by omega⟩
 |fuel+1=>exprs_step K fuel hK (exprs_wp K hK fuel)
section
variable {α β:Type}
open PT
theorem zFE{s:List UInt8}{f:Bool->PT β}(h:(f false).eats):((T.skip s).bind f).eats:=fun b=>by
 cases b with
 |false=>exact h
 |true=>trivial
theorem want_eats{s:List UInt8}{f:Unit->PT β}:((T.want s).bind f).eats:=eats_bind _ _ fun b=>by cases b<;>trivial
theorem zF1{n:Int}:(T.name n).eats:=fun b=>by cases b<;>trivial
theorem zHs{n:Int}{x y:PT β}(hx:x.eats)(hy:y.eats):(PT.kd n fun b=>if b then x else y).eats:=fun b=>by cases b<;>assumption
theorem kdN_eats{n:Int}{x y:PT β}(hx:x.eats)(hy:y.eats):(PT.kd n fun b=>if !b then x else y).eats:=fun b=>by cases b<;>assumption
theorem ite_eats{c:Prop}[Decidable c]{x y:PT β}(hx:x.eats)(hy:y.eats):(if c then x else y).eats:=by split<;>assumption
theorem zD3{s:List UInt8}{f:Bool->PT β}(h: ∀b,(f b).nc)(he:s=[41]->(f false).eats):((T.skip s).bind f).nc:=
 ⟨fun b=>by
  cases b with
  |false=>exact h false
  |true=>exact fun _=>h true,fun hs=>he hs⟩
theorem zDm{s:List UInt8}:(T.want s).nc:=⟨fun b=>by
 cases b with
 |false=>trivial
 |true=>exact fun _=>trivial,fun _=>trivial⟩
theorem zFb{n:Int}(h7:n≠7)(h8:n≠8):(T.name n).nc:=⟨h7,h8,fun b=>by
 cases b with
 |false=>trivial
 |true=>exact fun _=>trivial⟩
theorem kd_nc{n:Int}{f:Bool->PT β}(h7:n≠7)(h8:n≠8)(h: ∀b,(f b).nc):(PT.kd n f).nc:=⟨h7,h8,h⟩
theorem zCn{c:Prop}[Decidable c]{x y:PT β}(hx:x.nc)(hy:y.nc):(if c then x else y).nc:=by split<;>assumption
theorem zFm{o:Option α}:(PT.ofO o).nc:=by cases o<;>trivial
theorem zAa{x:PT α}{f:α->PT β}(h:x.nc)(hf: ∀a,(f a).nc):(x.bind f).nc:=nc_bind f hf x h
theorem anyOf_nc: ∀L:List (List UInt8),(∀s∈L,s≠[41])->(T.anyOf L).nc
 |[],_=>trivial
 |[s],h=>⟨fun _=>trivial,fun hs=>absurd hs (h s zq9)⟩
 |s::s'::r,h=>⟨fun b=>by
  cases b with
  |true=>trivial
  |false=>exact anyOf_nc (s'::r) fun x hx=>h x (zqc _ hx),fun hs=>absurd hs (h s zq9)⟩
theorem named_nc:T.named.nc:=kd_nc (by decide) (by decide) fun b=>zCn trivial (kd_nc (by decide) (by decide) fun _=>trivial)
theorem begins_nc:T.begins.nc:=kd_nc (by decide) (by decide) fun b=>zCn trivial (kd_nc (by decide) (by decide) fun b=>zCn trivial (kd_nc (by decide) (by decide) fun b=>zCn trivial (kd_nc (by decide) (by decide) fun b=>zCn trivial (anyOf_nc _ (by decide)))))
theorem ops_nc(n:Int): ∀L:List (Int×List UInt8×Int),(∀q∈L,q.2.1≠[41])->(T.ops n L).nc
 |[],_=>trivial
 |q::L,h=>by
  rw[T.ops]
  have ih:=ops_nc n L fun x hx=>h x (zqc _ hx)
  exact zCn ⟨fun b=>zCn trivial ih,fun hs=>absurd hs (h q zq9)⟩ ih
end
open PT in
theorem path_l1_nc(cap:Bool): ∀k x,(T.path_l1 cap k x).nc
 |0,x=>trivial
 |k+1,x=>by
  have ih:=path_l1_nc cap k
  rw[T.path_l1]
  refine kd_nc (by decide) (by decide) fun b=>zCn (zAa (zFb (by decide) (by decide)) fun t=>zAa zFm fun l=>zAa (zCn ⟨fun _=>trivial,fun h=>absurd h (by decide)⟩ trivial) fun c=>zCn trivial (zAa zDm fun _=>ih _)) trivial
theorem path_nc(fuel:Nat)(cap:Bool):(T.path fuel cap).nc:=zAa (path_l1_nc cap fuel []) fun r=>by
 cases r with
 |inl v=>trivial
 |inr l=>exact zAa (zFb (by decide) (by decide)) fun t=>zAa zFm fun _=>trivial
theorem zHc(fuel:Nat)(x:List zKr):(T.typePath fuel x).nc:=zAa (path_nc fuel false) fun _=>trivial
theorem path_eats(fuel:Nat)(cap:Bool):(T.path fuel cap).eats:=by
 cases fuel with
 |zero=>trivial
 |succ k=>
  unfold T.path
  rw[T.path_l1]
  intro b
  cases b with
  |true=>exact PT.eats_bind _ _ (PT.eats_bind _ _ zF1)
  |false=>exact(show((T.name 1).bind _).eats from PT.eats_bind _ _ zF1)
theorem typePath_eats(fuel:Nat)(x:List zKr):(T.typePath fuel x).eats:=PT.eats_bind _ _ (path_eats _ _)
theorem mods_l1_nc: ∀k x,(T.mods_l1 k x).nc
 |0,x=>trivial
 |k+1,x=>by
  have ih:=mods_l1_nc k
  rw[T.mods_l1]
  exact zD3 (fun b=>zCn (zAa (zFb (by decide) (by decide)) fun t=>zAa zFm fun l=>ih _) trivial) fun h=>absurd h (by decide)
theorem zJo(fuel:Nat):(T.mods fuel).nc:=zAa (zFb (by decide) (by decide)) fun t=>mods_l1_nc _ _
theorem mods_eats(fuel:Nat):(T.mods fuel).eats:=PT.eats_bind _ _ zF1
theorem sep_nc{s:List UInt8}(hs:s≠[41]){F:PT zKr}(hF:F.nc): ∀k x,(T.sep s F k x).nc
 |0,x=>trivial
 |k+1,x=>by
  have ih:=sep_nc hs hF k
  rw[T.sep]
  exact zD3 (fun b=>zCn (zAa hF fun v=>zAa zFm fun l=>ih _) trivial) fun h=>absurd h hs
theorem zIB(fuel:Nat): ∀k x,(T.pfx_l1 fuel k x).nc
 |0,x=>trivial
 |k+1,x=>by
  have ih:=zIB fuel k
  rw[T.pfx_l1]
  exact zAa named_nc fun b=>zCn (zAa (zHc _ _) fun u=>ih _) trivial
theorem types_ne: ∀fuel,((T.simple fuel).nc∧(T.pfx fuel).nc∧(T.product fuel).nc∧(T.typ fuel).nc)∧(T.simple fuel).eats∧(T.pfx fuel).eats∧(T.product fuel).eats∧(T.typ fuel).eats
 |0=>by simp only[T.simple,T.pfx,T.product,T.typ,PT.nc,PT.eats,and_self]
 |fuel+1=>by
  obtain⟨⟨h1,h2,h3,h4⟩,e1,e2,e3,e4⟩:=types_ne fuel
  have lf: ∀l:List zKr,(if eqI (l.length:Int) 1 then (PT.ofO l[0]?).bind .ret else (T.typePath fuel l).bind .ret:PT zKr).nc:=fun l=>zCn (zAa zFm fun _=>trivial) (zAa (zHc _ _) fun _=>trivial)
  refine⟨⟨?_,?_,?_,?_⟩,?_,?_,?_,?_⟩
  ·rw[T.simple]
   exact kd_nc (by decide) (by decide) fun b=>zCn (zAa (zFb (by decide) (by decide)) fun t=>trivial) (zD3 (fun b=>zCn (zAa (zHc _ _) fun _=>trivial) (zD3 (fun b=>zCn (zAa (zJo _) fun l=>zAa zDm fun _=>trivial)
    (zAa h4 fun t=>zAa (sep_nc (by decide) h4 _ _) fun l=>zAa zDm fun _=>lf l)) fun h=>absurd h (by decide))) fun h=>absurd h (by decide))
  ·rw[T.pfx]
   exact zAa h1 fun t=>zAa (zIB _ _ _) fun _=>trivial
  ·rw[T.product]
   exact zAa h2 fun t=>zAa (sep_nc (by decide) h2 _ _) fun l=>zCn (zAa zFm fun _=>trivial) trivial
  ·rw[T.typ]
   exact zAa h3 fun t=>zD3 (fun b=>zCn (zAa h4 fun _=>trivial) trivial) fun h=>absurd h (by decide)
  ·rw[T.simple]
   exact zHs (PT.eats_bind _ _ zF1) (zFE (PT.eats_bind _ _ (typePath_eats _ _)))
  ·rw[T.pfx]
   exact PT.eats_bind _ _ e1
  ·rw[T.product]
   exact PT.eats_bind _ _ e2
  ·rw[T.typ]
   exact PT.eats_bind _ _ e3
theorem zKP(fuel:Nat):(T.number fuel).nc:=zAa (zFb (by decide) (by decide)) fun t=>zAa zFm fun _=>trivial
theorem zJm(fuel:Nat):(T.number fuel).eats:=PT.eats_bind _ _ zF1
theorem pats_ne: ∀fuel,((T.argument fuel).nc∧(T.pattern fuel).nc)∧(T.argument fuel).eats∧(T.pattern fuel).eats
 |0=>by simp only[T.argument,T.pattern,PT.nc,PT.eats,and_self]
 |fuel+1=>by
  obtain⟨⟨h1,h2⟩,e1,e2⟩:=pats_ne fuel
  refine⟨⟨?_,?_⟩,?_,?_⟩
  ·rw[T.argument]
   refine zD3 (fun b=>zCn trivial (zD3 (fun b=>zCn (zAa (zKP _) fun n=>zAa zFm fun _=>trivial) (kd_nc (by decide) (by decide) fun b=>zCn (zAa (zKP _) fun n=>trivial)
    (kd_nc (by decide) (by decide) fun b=>zCn (zAa (zFb (by decide) (by decide)) fun n=>trivial) (kd_nc (by decide) (by decide) fun b=>zCn (zAa (zJo _) fun _=>trivial) (zAa zDm fun _=>zD3 (fun b=>zCn trivial ?_) fun _=>?_))))) fun h=>absurd h (by decide))) fun h=>absurd h (by decide)
   ·exact zAa h2 fun t=>zAa (sep_nc (by decide) h2 _ _) fun l=>zAa zDm fun _=>zCn (zAa zFm fun _=>trivial) trivial
   ·exact PT.eats_bind _ _ e2
  ·rw[T.pattern]
   exact kd_nc (by decide) (by decide) fun b=>zCn (zAa h1 fun _=>trivial) (zAa (zJo _) fun l=>zAa (zAa named_nc fun b=>zCn trivial (kd_nc (by decide) (by decide) fun b=>zCn trivial (anyOf_nc _ (by decide)))) fun b=>zCn (zAa h1 fun _=>trivial) trivial)
  ·rw[T.argument]
   exact zFE (zFE (zHs (PT.eats_bind _ _ (zJm _)) (zHs (PT.eats_bind _ _ zF1) (zHs (PT.eats_bind _ _ (mods_eats _)) want_eats))))
  ·rw[T.pattern]
   exact kdN_eats (PT.eats_bind _ _ e1) (PT.eats_bind _ _ (mods_eats _))
theorem zI4(fuel:Nat){F:PT zKr}(hF:F.nc): ∀k x,(T.choice_l1 fuel F k x).nc
 |0,x=>trivial
 |k+1,x=>by
  have ih:=zI4 fuel hF k
  rw[T.choice_l1]
  exact zAa (pats_ne _).1.2 fun p=>zAa zDm fun _=>zAa hF fun v=>zAa zFm fun _=>zAa zFm fun _=>zD3 (fun b=>zCn (zAa zDm fun _=>trivial) (ih _)) fun h=>absurd h (by decide)
theorem zHQ{F:PT zKr}(hF:F.nc): ∀k x,(T.negation_l1 F k x).nc
 |0,x=>trivial
 |k+1,x=>by
  have ih:=zHQ hF k
  rw[T.negation_l1]
  exact zAa begins_nc fun b=>zCn (zAa hF fun _=>ih _) trivial
theorem decl_l1_nc: ∀k x,(T.decl_l1 k x).nc
 |0,x=>trivial
 |k+1,x=>by
  have ih:=decl_l1_nc k
  rw[T.decl_l1]
  exact kd_nc (by decide) (by decide) fun b=>zCn (zAa (zFb (by decide) (by decide)) fun t=>zAa zFm fun _=>ih _) trivial
theorem let_l1_nc{F:PT zKr}(hF:F.nc): ∀k x,(T.let_l1 F k x).nc
 |0,x=>trivial
 |k+1,x=>by
  have ih:=let_l1_nc hF k
  rw[T.let_l1]
  exact zD3 (fun b=>zCn (zAa hF fun _=>zAa zFm fun _=>ih _) trivial) fun h=>absurd h (by decide)
theorem zJt{F:Int->PT zKr}(hF: ∀n,(F n).nc)(n n2:Int): ∀k x,(T.level_l1 F n n2 k x).nc
 |0,x=>trivial
 |k+1,x=>by
  have ih:=zJt hF n n2 k
  rw[T.level_l1]
  exact zAa (ops_nc _ _ (by decide)) fun o=>zCn trivial fun _=>zCn (zAa (hF _) fun _=>trivial) (zCn (zAa (hF _) fun _=>trivial) (zCn (zAa (hF _) fun _=>trivial) (zCn (zAa (hF _) fun _=>trivial) (zAa (hF _) fun _=>ih _))))
theorem zKd: ∀fuel,((T.inside fuel).nc∧(T.choice fuel).nc∧(T.negation fuel).nc∧(∀n,(T.level fuel n).nc)∧(T.expr fuel).nc∧(T.decl fuel).nc∧(T.let fuel).nc∧(T.atom fuel).nc)∧
 (T.negation fuel).eats∧(∀n,(T.level fuel n).eats)∧(T.expr fuel).eats∧(T.atom fuel).eats
 |0=>by simp only[T.inside,T.choice,T.negation,T.level,T.expr,T.decl,T.let,T.atom,PT.nc,PT.eats,and_self,implies_true]
 |fuel+1=>by
  obtain⟨⟨h1,h2,h3,h4,h5,h6,h7,h8⟩,e3,e4,e5,e8⟩:=zKd fuel
  have ht:=(types_ne fuel).1.2.2.2
  have no: ∀{p:Prop}{s:List UInt8},s≠[41]->s=[41]->p:=fun a b=>absurd b a
  refine⟨⟨?_,?_,?_,fun n=>?_,?_,?_,?_,?_⟩,?_,fun n=>?_,?_,?_⟩
  ·rw[T.inside]
   refine zD3 (fun b=>zCn trivial ?_) fun _=>zFE (PT.eats_bind _ _ e5)
   exact zD3 (fun b=>zCn (zAa (zJo _) fun _=>zAa zDm fun _=>zAa (zJo _) fun _=>zAa zDm fun _=>trivial)
    (zAa h5 fun t=>zD3 (fun b=>zCn (zAa ht fun _=>zAa zFm fun _=>zAa zDm fun _=>trivial) (zAa (sep_nc (by decide) h5 _ _) fun l=>zAa zDm fun _=>zCn (zAa zFm fun _=>trivial) trivial)) (no (by decide)))) (no (by decide))
  ·rw[T.choice]
   exact zAa h5 fun t=>zAa zDm fun _=>zI4 _ h5 _ _
  ·rw[T.negation]
   exact zD3 (fun b=>zCn (zAa h3 fun _=>trivial) (zAa h8 fun _=>zAa (zHQ h8 _ _) fun _=>trivial)) (no (by decide))
  ·rw[T.level]
   exact zCn (zAa h3 fun _=>trivial) (zAa zFm fun m=>zAa (h4 _) fun t=>zJt h4 _ _ _ _)
  ·rw[T.expr]
   exact zD3 (fun b=>zCn (zD3 (fun b=>zCn (zAa (zFb (by decide) (by decide)) fun _=>zAa zDm fun _=>zAa h5 fun _=>trivial) (zAa zDm fun _=>zAa h5 fun _=>trivial)) (no (by decide)))
    (zD3 (fun b=>zCn (zAa h5 fun _=>zAa zDm fun _=>zAa h5 fun _=>zAa zFm fun _=>zAa zDm fun _=>zAa h5 fun _=>zAa zFm fun _=>trivial) (zAa (h4 _) fun _=>trivial)) (no (by decide)))) (no (by decide))
  ·rw[T.decl]
   exact zD3 (fun b=>zCn (zAa (zFb (by decide) (by decide)) fun _=>zAa zDm fun _=>zAa h5 fun _=>trivial)
    (zD3 (fun b=>zCn (zAa (zFb (by decide) (by decide)) fun _=>zAa (zFb (by decide) (by decide)) fun _=>zAa (decl_l1_nc _ _) fun _=>zAa zDm fun _=>zAa h5 fun _=>trivial)
     (zAa zDm fun _=>zAa (zFb (by decide) (by decide)) fun _=>zAa zDm fun _=>zAa zDm fun _=>zAa h8 fun _=>zAa zDm fun _=>zAa (zJo _) fun _=>zAa zFm fun _=>trivial)) (no (by decide)))) (no (by decide))
  ·rw[T.let]
   exact zAa (let_l1_nc h6 _ _) fun _=>zAa h5 fun _=>zAa zFm fun _=>zAa zDm fun _=>trivial
  ·rw[T.atom]
   exact kd_nc (by decide) (by decide) fun b=>zCn (zAa (zKP _) fun _=>trivial) (kd_nc (by decide) (by decide) fun b=>zCn (zAa (zFb (by decide) (by decide)) fun _=>trivial)
    (zAa named_nc fun b=>zCn (zAa (path_nc _ _) fun v=>zCn trivial trivial) (zD3 (fun b=>zCn (zAa h7 fun _=>trivial) (zD3 (fun b=>zCn (zAa h2 fun _=>trivial) (zAa zDm fun _=>zAa h1 fun _=>trivial)) (no (by decide)))) (no (by decide)))))
  ·rw[T.negation]
   exact zFE (PT.eats_bind _ _ e8)
  ·rw[T.level]
   exact ite_eats (PT.eats_bind _ _ e3) (PT.eats_bind2 _ (fun m=>PT.eats_bind _ _ (e4 _)) _)
  ·rw[T.expr]
   exact zFE (zFE (PT.eats_bind _ _ (e4 _)))
  ·rw[T.atom]
   refine zHs (PT.eats_bind _ _ (zJm _)) (zHs (PT.eats_bind _ _ zF1) ?_)
   exact PT.eats_bind2 _ (fun b=>ite_eats (PT.eats_bind _ _ (path_eats _ _)) (zFE (zFE want_eats))) _
theorem zC3{α β:Type}(a:α)(f:α->Option β):(some a).bind f=f a:=Eq.trans (Option.bind_some a f) rfl
theorem zJE{n:Int}(h1: -9223372036854775808<=n)(h2:n<=9223372036854775807):chk .i64 n=some n:=by rw[chk,if_pos];exact⟨h1,h2⟩
theorem app_some{α:Type}{b:Nat}{x y:List α}(h:0<b)(h2:(x.length+y.length)*b<=140737488355328):app b x y=some (x++y):=by rw[app,if_pos ⟨h,h2⟩]
theorem app1{x y:List UInt8}(h:x.length+y.length<=140737488355328):app 1 x y=some (x++y):=app_some (by decide) (by omega)
theorem wb_M{c:UInt8}{b:List UInt8}(h:b.length+1<=140737488355328):zAl c b=some (b++[c]):=by
 simp only[zAl,zCL,zC3,app1 (x:=b) (y:=[c]) h]
theorem ws_M{s b:List UInt8}(h:b.length+s.length<=140737488355328):zDC s b=some ((s.length:Int),b++s):=by
 simp only[zDC,zCL,zC3,app1 (x:=b) (y:=s) h]
def okc(c:UInt8):Bool:=c==10||(decide (32<=c.toNat)&&decide (c.toNat<=126))
def esc(c:UInt8):List UInt8:=if c=10 then [92,110] else if c=34∨c=92 then [92,c] else [c]
def qs(s:List UInt8):List UInt8:=s.flatMap esc
theorem eq8(c:UInt8)(n:Nat)(d:UInt8)(hd:d.toNat=n):eqI (c.toNat:Int) (n:Int)=decide (c=d):=by
 unfold eqI
 rw[decide_eq_decide]
 constructor
 ·intro h;apply UInt8.toNat_inj.1;omega
 ·rintro rfl;omega
theorem e10(c:UInt8):eqI (c.toNat:Int) 10=decide (c=10):=eq8 c 10 10 rfl
theorem e34(c:UInt8):eqI (c.toNat:Int) 34=decide (c=34):=eq8 c 34 34 rfl
theorem e92(c:UInt8):eqI (c.toNat:Int) 92=decide (c=92):=eq8 c 92 92 rfl
theorem e110(c:UInt8):eqI (c.toNat:Int) 110=decide (c=110):=eq8 c 110 110 rfl
theorem vis_M(c:UInt8):zDk c=some (decide (32<=c.toNat)&&decide (c.toNat<=126)):=by
 unfold zDk leI
 congr 2
 ·exact decide_eq_decide.2 (by omega)
 ·exact decide_eq_decide.2 (by omega)
theorem qs_ge(s:List UInt8):s.length<=(qs s).length:=by
 induction s with
 |nil=>simp
 |cons c s ih=>
  have:1<=(esc c).length:=by unfold esc;split<;>(try split)<;>simp
  simp only[qs,List.flatMap_cons,List.length_append,List.length_cons] at ih ⊢
  omega
theorem zHN(c:UInt8)(s:List UInt8):qs (c::s)=esc c++qs s:=by simp[qs]
theorem Quote_loop(s:List UInt8)(hs:s.length<=20000): ∀(n i k:Nat)(b:List UInt8),i+n=s.length->n+1<=k->b.length+2*n<=1000000->
 zDa s k b i=some (if (s.drop i).all okc then .inr (b++qs (s.drop i)) else .inl ([],3)):=by
 intro n
 induction n with
 |zero=>
  intro i k b hi hk hb
  obtain⟨g,rfl⟩: ∃g,k=g+1:=⟨k-1,by omega⟩
  rw[zDa,if_neg (by simp[ltI];omega),List.drop_eq_nil_of_le (by omega)]
  simp[qs]
 |succ n ih=>
  intro i k b hi hk hb
  obtain⟨g,rfl⟩: ∃g,k=g+1:=⟨k-1,by omega⟩
  have hx:s[i]? =some s[i]:=zq2 (by omega)
  rw[zDa,if_pos (by simp[ltI];omega),hx,List.drop_eq_getElem_cons (by omega),List.all_cons,zHN]
  generalize s[i]=c at hx
  simp only[zC3,e10,e34,e92,vis_M]
  by_cases c10:c=10
  ·subst c10
   have ho:okc 10=true:=rfl
   rw[zqb rfl,if_pos rfl,ws_M (by simp;omega)]
   simp only[zC3,ho,Bool.true_and]
   rw[ih (i+1) g _ (by omega) (by omega) (by simp;omega)]
   have he:esc 10=[92,110]:=rfl
   rw[he,List.append_assoc]
  ·rw[decide_eq_false c10,if_neg (by simp)]
   cases hv:(decide (32<=c.toNat)&&decide (c.toNat<=126))
   ·have ho:okc c=false:=by unfold okc;rw[hv];simpa using c10
    rw[ho];rfl
   ·have ho:okc c=true:=by unfold okc;rw[hv];simp
    simp only[Bool.not_true,Bool.false_eq_true,if_false,ho,Bool.true_and]
    by_cases c2:c=34∨c=92
    ·have he:esc c=[92,c]:=by unfold esc;rw[if_neg c10,if_pos c2]
     rw[if_pos (by rcases c2 with h|h<;>simp[h]),wb_M (by omega)]
     simp only[zC3]
     rw[wb_M (by simp;omega)]
     simp only[zC3]
     rw[ih (i+1) g _ (by omega) (by omega) (by simp;omega),he]
     simp
    ·have he:esc c=[c]:=by unfold esc;rw[if_neg c10,if_neg c2]
     rw[if_neg (by simpa using c2),wb_M (by omega)]
     simp only[zC3]
     rw[ih (i+1) g _ (by omega) (by omega) (by simp;omega),he]
     simp
theorem lit_complete(s:List UInt8): ∀(m:List UInt8),m.all okc=true->∀(i k:Nat)(b r:List UInt8),s.drop i=qs m++34::r->m.length+1<=k->b.length+m.length<=1000000->
 zAj s k b i=some (.inl (b++m,((i+(qs m).length+1:Nat):Int),0,0)):=by
 intro m
 induction m with
 |nil=>
  intro _ i k b r hd hk hb
  obtain⟨g,rfl⟩: ∃g,k=g+1:=⟨k-1,by omega⟩
  obtain⟨h1,h2,h3,h4⟩:=zGf (show s.drop i=34::r by simpa[qs] using hd)
  rw[zAj,if_pos h1,h2]
  simp only[zC3,e34,decide_true,if_true,zDD]
  simp[qs]
 |cons c m ih=>
  intro ha i k b r hd hk hb
  obtain⟨g,rfl⟩: ∃g,k=g+1:=⟨k-1,by omega⟩
  rw[List.all_cons,zq7] at ha
  rw[zHN] at hd ⊢
  simp only[List.length_cons] at hk hb
  have fin: ∀(j:Nat),j=i+(esc c).length->s.drop j=qs m++34::r->zAj s g (b++[c]) j=some (.inl (b++c::m,((i+(esc c++qs m).length+1:Nat):Int),0,0)):=fun j hj hd'=>by
   rw[ih ha.2 j g (b++[c]) r hd' (by omega) (by simp;omega),hj]
   simp
   omega
  by_cases c10:c=10
  ·subst c10
   have he:esc 10=[92,110]:=rfl
   rw[he] at hd
   obtain⟨h1,h2,h3,h4⟩:=zGf (show s.drop i=92::(110::(qs m++34::r)) by simpa using hd)
   obtain⟨k1,k2,k3,k4⟩:=zGf h3
   rw[zAj,if_pos h1,h2]
   simp only[zC3,e34,e92,e110]
   rw[if_neg (by decide),if_pos (by simp only[decide_true,Bool.true_and];exact k1),k2]
   simp only[zC3]
   rw[if_neg (by decide),if_neg (by decide),if_pos (by decide),wb_M (by omega)]
   simp only[zC3]
   exact fin (i+1+1) (by rw[he];rfl) k3
  ·by_cases c2:c=34∨c=92
   ·have he:esc c=[92,c]:=by unfold esc;rw[if_neg c10,if_pos c2]
    rw[he] at hd
    obtain⟨h1,h2,h3,h4⟩:=zGf (show s.drop i=92::(c::(qs m++34::r)) by simpa using hd)
    obtain⟨k1,k2,k3,k4⟩:=zGf h3
    rw[zAj,if_pos h1,h2]
    simp only[zC3,e34,e92,e110]
    rw[if_neg (by decide),if_pos (by simp only[decide_true,Bool.true_and];exact k1),k2]
    simp only[zC3]
    rcases c2 with c2|c2
    ·rw[if_pos (by simp[c2]),wb_M (by omega)]
     simp only[zC3]
     exact fin (i+1+1) (by rw[he];rfl) k3
    ·rw[if_neg (by rw[c2];decide),if_pos (by simp[c2]),wb_M (by omega)]
     simp only[zC3]
     exact fin (i+1+1) (by rw[he];rfl) k3
   ·have he:esc c=[c]:=by unfold esc;rw[if_neg c10,if_neg c2]
    rw[he] at hd
    obtain⟨h1,h2,h3,h4⟩:=zGf (show s.drop i=c::(qs m++34::r) by simpa using hd)
    have hv:(decide (32<=c.toNat)&&decide (c.toNat<=126))=true:=by
     have:=ha.1
     unfold okc at this
     simpa[c10] using this
    have n34: ¬c=34:=fun h=>c2 (.inl h)
    have n92: ¬c=92:=fun h=>c2 (.inr h)
    rw[zAj,if_pos h1,h2]
    simp only[zC3,e34,e92,e110]
    rw[if_neg (by simpa using n34),if_neg (by simp[n92]),if_neg (by simpa using n92),vis_M]
    simp only[zC3,hv,Bool.not_true,Bool.false_eq_true,if_false]
    rw[wb_M (by omega)]
    simp only[zC3]
    exact fin (i+1) (by rw[he];rfl) h3
theorem lit_sound(s:List UInt8)(hs:s.length<=100000): ∀(n i k:Nat)(b:List UInt8),s.length-i<=n->n+1<=k->b.length+n<=1000000->
 ∃o,zAj s k b i=some o∧∀t N p e,o=.inl (t,N,p,e)->e=0->∃m r,t=b++m∧m.all okc=true∧s.drop i=qs m++34::r∧N=((i+(qs m).length+1:Nat):Int):=by
 intro n
 induction n with
 |zero=>
  intro i k b hi hk hb
  obtain⟨g,rfl⟩: ∃g,k=g+1:=⟨k-1,by omega⟩
  rw[zAj,if_neg (by simp[ltI];omega)]
  exact⟨_,rfl,fun t N p e h=>by cases h⟩
 |succ n ih=>
  intro i k b hi hk hb
  obtain⟨g,rfl⟩: ∃g,k=g+1:=⟨k-1,by omega⟩
  by_cases hlt:i<s.length
  case neg=>
   rw[zAj,if_neg (by simp[ltI];omega)]
   exact⟨_,rfl,fun t N p e h=>by cases h⟩
  have hx:s[i]? =some s[i]:=zq2 hlt
  have hd:s.drop i=s[i]::s.drop (i+1):=List.drop_eq_getElem_cons hlt
  generalize s[i]=c at hx hd
  rw[zAj,if_pos (by simp[ltI];omega),hx]
  simp only[zC3,e34,e92,e110]
  have step: ∀(j:Nat)(x:UInt8),i<j->okc x=true->s.drop i=esc x++s.drop j->j=i+(esc x).length->∃o,zAj s g (b++[x]) j=some o∧
   ∀t N p e,o=.inl (t,N,p,e)->e=0->∃m r,t=b++m∧m.all okc=true∧s.drop i=qs m++34::r∧N=((i+(qs m).length+1:Nat):Int):=fun j x hj hx' hdx hjl=>by
   obtain⟨o,o1,o2⟩:=ih j g (b++[x]) (by omega) (by omega) (by simp;omega)
   refine⟨o,o1,fun t N p e ho he=>?_⟩
   obtain⟨m,r,m1,m2,m3,m4⟩:=o2 t N p e ho he
   refine⟨x::m,r,by rw[m1];simp,by rw[List.all_cons,hx',m2];rfl,by rw[hdx,m3,zHN];simp,?_⟩
   rw[m4,zHN,hjl]
   simp
   omega
  by_cases c34:c=34
  ·subst c34
   simp only[decide_true,if_true,zDD,zC3]
   refine⟨_,rfl,fun t N p e h he=>?_⟩
   simp only[Sum.inl.injEq,Prod.mk.injEq] at h
   obtain⟨rfl,rfl,_,_⟩:=h
   exact⟨[],s.drop (i+1),by simp,rfl,by simpa[qs] using hd,by simp[qs]⟩
  rw[if_neg (by simpa using c34)]
  by_cases c92:c=92
  ·subst c92
   by_cases hlt2:i+1<s.length
   ·have hx2:s[i+1]? =some s[i+1]:=zq2 hlt2
    have hd2:s.drop (i+1)=s[i+1]::s.drop (i+1+1):=List.drop_eq_getElem_cons hlt2
    generalize s[i+1]=d at hx2 hd2
    rw[if_pos (by simp[ltI];omega),hx2]
    simp only[zC3]
    rw[hd2] at hd
    by_cases d34:d=34
    ·subst d34
     rw[if_pos (by decide),wb_M (by omega)]
     exact step (i+1+1) 34 (by omega) rfl hd rfl
    rw[if_neg (by simpa using d34)]
    by_cases d92:d=92
    ·subst d92
     rw[if_pos (by decide),wb_M (by omega)]
     exact step (i+1+1) 92 (by omega) rfl hd rfl
    rw[if_neg (by simpa using d92)]
    by_cases d110:d=110
    ·subst d110
     rw[if_pos (by decide),wb_M (by omega)]
     exact step (i+1+1) 10 (by omega) rfl hd rfl
    rw[if_neg (by simpa using d110)]
    refine⟨_,rfl,fun t N p e h he=>?_⟩
    simp only[Sum.inl.injEq,Prod.mk.injEq] at h
    omega
   ·rw[if_neg (by simp[ltI];omega),if_pos (by decide)]
    refine⟨_,rfl,fun t N p e h he=>?_⟩
    simp only[Sum.inl.injEq,Prod.mk.injEq] at h
    omega
  ·rw[if_neg (by simp[c92]),if_neg (by simpa using c92),vis_M]
   simp only[zC3]
   cases hv:(decide (32<=c.toNat)&&decide (c.toNat<=126))
   ·refine⟨_,rfl,fun t N p e h he=>?_⟩
    simp only[Sum.inl.injEq,Prod.mk.injEq] at h
    omega
   ·simp only[Bool.not_true,Bool.false_eq_true,if_false]
    rw[wb_M (by omega)]
    have c10: ¬c=10:=fun h=>by subst h;revert hv;decide
    have he:esc c=[c]:=by unfold esc;rw[if_neg c10,if_neg (by simp[c34,c92])]
    exact step (i+1) c (by omega) (by unfold okc;rw[hv];simp) (by rw[he];exact hd) (by rw[he];rfl)
theorem literal_total(s:List UInt8){fuel:Nat}(hs:s.length<=100000)(hf:s.length+1<=fuel): ∃r,zDX fuel s=some r∧
 (r.2.2.2=0->∃m rest,r.1=m∧m.all okc=true∧s.drop 1=qs m++34::rest∧r.2.1=((1+(qs m).length+1:Nat):Int)):=by
 obtain⟨o,o1,o2⟩:=lit_sound s hs s.length 1 fuel [] (by omega) hf (by simp;omega)
 rw[zDX,o1]
 simp only[zC3]
 cases o with
 |inl x=>
  obtain⟨t,N,p,e⟩:=x
  refine⟨_,rfl,fun he=>?_⟩
  obtain⟨m,r,m1,m2,m3,m4⟩:=o2 t N p e rfl he
  exact⟨m,r,by simpa using m1,m2,m3,m4⟩
 |inr x=>exact⟨_,rfl,fun he=>by simp at he⟩
theorem last_loop(s:List UInt8)(c:UInt8)(hs:s.length<=100000): ∀(i k:Nat)(I:Int),I=(i:Int)-1->i<=s.length->i+1<=k->∃o,zAf s c k I=some o∧∀z,o=.inl z->0<=z∧z<=s.length:=by
 intro i
 induction i with
 |zero=>
  intro k I hI hi hk
  obtain⟨g,rfl⟩: ∃g,k=g+1:=⟨k-1,by omega⟩
  rw[zAf,if_neg (by simp[leI];omega)]
  exact⟨_,rfl,fun z h=>by cases h⟩
 |succ i ih=>
  intro k I hI hi hk
  obtain⟨g,rfl⟩: ∃g,k=g+1:=⟨k-1,by omega⟩
  have hI':I=(i:Int):=by omega
  have hx:s[i]? =some s[i]:=zq2 (by omega)
  rw[zAf,if_pos (by simp[leI];omega),hI',idx,if_pos (by omega)]
  simp only[Int.toNat_natCast,hx,zC3]
  cases eqI ((s[i]).toNat:Int) (c.toNat:Int)
  ·simp only[Bool.false_eq_true,if_false]
   exact ih g _ rfl (by omega) (by omega)
  ·exact⟨_,rfl,fun z h=>by simp at h;omega⟩
theorem place_total(s:List UInt8)(at_:Nat){fuel:Nat}(hs:s.length<=100000)(ha:at_<=s.length)(hf:s.length+2<=fuel): ∃p,zCz fuel s (at_:Int)=some p:=by
 rw[zCz,subC,if_pos ⟨by omega,by omega,by omega⟩]
 simp only[zC3]
 have hsub:sub s 0 (at_:Int)=s.take at_:=by simp[sub]
 rw[hsub]
 have hl:(s.take at_).length<=at_:=by simp;omega
 have hc:Lib.countByte (s.take at_) 10<=(s.take at_).length:=List.count_le_length
 rw[zEB]
 simp only[zC3]
 rw[zJE (by omega) (by omega)]
 simp only[zC3]
 rw[zCo,zB8,zJE (by omega) (by omega)]
 simp only[zC3]
 obtain⟨o,o1,o2⟩:=last_loop (s.take at_) 10 (by omega) (s.take at_).length fuel _ rfl (by omega) (by omega)
 rw[o1]
 cases o with
 |inl z=>
  obtain⟨z1,z2⟩:=o2 z rfl
  simp only[zC3,Sum.elim_inl]
  rw[zJE (by omega) (by omega)]
  exact⟨_,rfl⟩
 |inr u=>
  simp only[zC3,Sum.elim_inr]
  rw[zJE (by omega) (by omega)]
  exact⟨_,rfl⟩
theorem sub_all(s:List UInt8):sub s 0 (s.length:Int)=s:=by simp[sub]
theorem skip_quote(t:List UInt8){fuel:Nat}(hf:1<=fuel):zCV fuel (zKn.mk (34::t) 0)=some (-1,zKn.mk (34::t) 0):=by
 obtain⟨g,rfl⟩: ∃g,fuel=g+1:=⟨fuel-1,by omega⟩
 rw[zCV,zBT,if_pos (by simp[ltI]),subC,if_pos ⟨by simp,by simp,by simp⟩]
 simp only[zC3]
 rw[sub_all]
 simp only[List.getElem?_cons_zero,zC3]
 have h1:zCf [32,9,10] 34=some (-1):=by rfl
 rw[h1]
 have h2:leI 0 (-1)=false:=rfl
 simp only[zC3,h2,Bool.false_eq_true,if_false]
 have h3:zBa (34::t) [40,42]=some false:=by
  rw[zBa,zBf]
  by_cases hl:leI (([40,42]:List UInt8).length:Int) ((34::t:List UInt8).length:Int)=true
  ·rw[if_pos hl]
   have hl':=leT hl
   rw[subC,if_pos ⟨by omega,by simp,hl'⟩]
   simp only[zC3]
   have:eqS (sub (34::t) 0 (([40,42]:List UInt8).length:Int)) [40,42]=false:=decide_eq_false (by simp[sub])
   rw[this]
  ·rw[if_neg hl];rfl
 rw[h3]
 rfl
theorem idxN{α:Type}(l:List α)(i:Nat):idx l (i:Int)=l[i]? :=by rw[idx,if_pos (by omega)];simp
theorem subD(s:List UInt8)(i:Nat)(h:i<=s.length):subC s (i:Int) (s.length:Int)=some (s.drop i):=by
 rw[subC,if_pos ⟨by omega,by omega,by omega⟩]
 unfold sub
 rw[List.take_of_length_le (by simp)]
 simp
theorem subT(s:List UInt8)(n:Nat)(h:n<=s.length):subC s 0 (n:Int)=some (s.take n):=by
 rw[subC,if_pos ⟨by omega,by omega,by omega⟩]
 simp[sub]
def pre(s t:List UInt8):Bool:=decide (s.take t.length=t)
theorem has_M(s t:List UInt8):zBa s t=some (pre s t):=by
 rw[zBa,zBf]
 by_cases h:t.length<=s.length
 ·rw[if_pos (show leI (t.length:Int) (s.length:Int)=true from zqb (by omega)),subT s t.length h]
  rfl
 ·rw[if_neg (show¬leI (t.length:Int) (s.length:Int)=true from fun h'=>by have:=leT h';omega)]
  have:pre s t=false:=decide_eq_false fun e=>by have:=congrArg List.length e;simp at this;omega
  rw[this];rfl
def smB(c:UInt8):Bool:=(leI 97 (c.toNat:Int))&&(leI (c.toNat:Int) 122)
def caB(c:UInt8):Bool:=(leI 65 (c.toNat:Int))&&(leI (c.toNat:Int) 90)
def diB(c:UInt8):Bool:=(leI 48 (c.toNat:Int))&&(leI (c.toNat:Int) 57)
def inB(c:UInt8):Bool:=smB c||(caB c||(diB c||eqI (c.toNat:Int) 95))
theorem small_M(c:UInt8):zDr c=some (smB c):=rfl
theorem capital_M(c:UInt8):zEC c=some (caB c):=rfl
theorem digit_M(c:UInt8):zEQ c=some (diB c):=rfl
theorem inner_M(c:UInt8):zE8 c=some (inB c):=by
 rw[zE8,small_M,capital_M,digit_M]
 unfold inB
 cases smB c<;>cases caB c<;>cases diB c<;>rfl
def cw(p:UInt8->Bool)(s:List UInt8)(i:Nat):Nat:=i+((s.drop i).takeWhile p).length
theorem cw_le(p:UInt8->Bool)(s:List UInt8)(i:Nat)(h:i<=s.length):i<=cw p s i∧cw p s i<=s.length:=by
 unfold cw
 have h1:=(List.takeWhile_prefix p (l:=s.drop i)).length_le
 simp at h1
 omega
theorem cw_end(p:UInt8->Bool)(s:List UInt8)(i:Nat)(h:s.length<=i):cw p s i=i:=by
 unfold cw;rw[List.drop_eq_nil_of_le h];simp
theorem cw_step(p:UInt8->Bool)(s:List UInt8)(i:Nat)(c:UInt8)(h:s[i]? =some c):cw p s i=if p c=true then cw p s (i+1) else i:=by
 obtain⟨hi,rfl⟩:=zq1 h
 unfold cw
 rw[List.drop_eq_getElem_cons hi,List.takeWhile_cons]
 split
 ·simp;omega
 ·simp
theorem inner_loop(s:List UInt8)(hs:s.length<=100000): ∀(n i k:Nat)(I:Int),I=i->s.length-i<=n->n+1<=k->i<=s.length->zBg s k I=some ((cw inB s i:Nat):Int):=by
 intro n
 induction n with
 |zero=>
  intro i k I hI hi hk hl
  obtain⟨g,rfl⟩: ∃g,k=g+1:=⟨k-1,by omega⟩
  rw[zBg,if_neg (show¬ltI I (s.length:Int)=true from fun h=>by have:=ltT h;omega),cw_end _ _ _ (by omega),hI]
  rfl
 |succ n ih=>
  intro i k I hI hi hk hl
  obtain⟨g,rfl⟩: ∃g,k=g+1:=⟨k-1,by omega⟩
  rw[zBg]
  by_cases hlt:i<s.length
  ·have hx:s[i]? =some s[i]:=zq2 hlt
   generalize s[i]=c at hx
   rw[if_pos (show ltI I (s.length:Int)=true from zqb (by omega)),hI,idxN,hx,cw_step _ _ _ _ hx]
   simp only[zC3,inner_M]
   cases inB c
   ·rfl
   ·simp only[if_true]
    rw[zJE (by omega) (by omega)]
    simp only[zC3]
    exact ih (i+1) g _ (by omega) (by omega) (by omega) (by omega)
  ·rw[if_neg (show¬ltI I (s.length:Int)=true from fun h=>by have:=ltT h;omega),cw_end _ _ _ (by omega),hI]
   rfl
theorem digit_loop(s:List UInt8)(hs:s.length<=100000): ∀(n i k:Nat)(I:Int),I=i->s.length-i<=n->n+1<=k->i<=s.length->zBh s k I=some ((cw diB s i:Nat):Int):=by
 intro n
 induction n with
 |zero=>
  intro i k I hI hi hk hl
  obtain⟨g,rfl⟩: ∃g,k=g+1:=⟨k-1,by omega⟩
  rw[zBh,if_neg (show¬ltI I (s.length:Int)=true from fun h=>by have:=ltT h;omega),cw_end _ _ _ (by omega),hI]
  rfl
 |succ n ih=>
  intro i k I hI hi hk hl
  obtain⟨g,rfl⟩: ∃g,k=g+1:=⟨k-1,by omega⟩
  rw[zBh]
  by_cases hlt:i<s.length
  ·have hx:s[i]? =some s[i]:=zq2 hlt
   generalize s[i]=c at hx
   rw[if_pos (show ltI I (s.length:Int)=true from zqb (by omega)),hI,idxN,hx,cw_step _ _ _ _ hx]
   simp only[zC3,digit_M]
   cases diB c
   ·rfl
   ·simp only[if_true]
    rw[zJE (by omega) (by omega)]
    simp only[zC3]
    exact ih (i+1) g _ (by omega) (by omega) (by omega) (by omega)
  ·rw[if_neg (show¬ltI I (s.length:Int)=true from fun h=>by have:=ltT h;omega),cw_end _ _ _ (by omega),hI]
   rfl
theorem inner_len{s:List UInt8}{fuel:Nat}(hs:s.length<=100000)(hf:s.length+1<=fuel):zCs fuel s=some ((cw inB s 0:Nat):Int):=by
 rw[zCs,inner_loop s hs s.length 0 fuel 0 rfl (by omega) hf (by omega)];rfl
theorem digit_len{s:List UInt8}{fuel:Nat}(hs:s.length<=100000)(hf:s.length+1<=fuel):zDM fuel s=some ((cw diB s 0:Nat):Int):=by
 rw[zDM,digit_loop s hs s.length 0 fuel 0 rfl (by omega) hf (by omega)];rfl
def WORDS:List (List UInt8):=[[97,110,100,97,108,115,111],[99,97,115,101],[100,97,116,97],[100,105,118],[101,108,115,101],[101,110,100],[102,110],[102,117,110],[102,117,110,99,116,111,114],[103,101,110,101,114,97,116,105,118,101],[105,102],[105,109,112,111,114,116],[105,110],[105,110,99,108,117,100,101],[108,101,116],[109,111,100],[109,111,100,117,108,101],[111,102],[111,112,101,110],[111,114,101,108,115,101],[112,97,99,107],[115,104,97,114,105,110,103],[115,105,103],[115,105,103,110,97,116,117,114,101],[115,116,114,117,99,116],[115,116,114,117,99,116,117,114,101],[116,104,101,110],[116,121,112,101],[117,110,112,97,99,107],[118,97,108],[119,105,116,104]]
theorem ifs(c y:Bool):(if c=true then some true else some y)=some (c||y):=by cases c<;>rfl
theorem Keyword_M(s:List UInt8):zED s=some (WORDS.any (fun w=>eqS s w)):=by
 unfold zED
 simp only[ifs]
 rfl
theorem words_short{s:List UInt8}(h:WORDS.any (fun w=>eqS s w)=true):s.length<=24:=by
 obtain⟨w,hw,he⟩:=List.any_eq_true.1 h
 have e:s=w:=of_decide_eq_true he
 subst e
 have hall: ∀w∈WORDS,w.length<=24:=by decide
 exact hall _ hw
theorem chku8{n:Int}(h1:0<=n)(h2:n<=255):chk .u8 n=some n:=by rw[chk,if_pos];exact⟨h1,h2⟩
theorem number_loop(s:List UInt8)(hd: ∀c∈s,diB c=true): ∀(n i k:Nat)(m:Int),i+n=s.length->n+1<=k->0<=m->m<=4503599627370496->∃o,zA7 s k m i=some o:=by
 intro n
 induction n with
 |zero=>
  intro i k m hi hk h0 h1
  obtain⟨g,rfl⟩: ∃g,k=g+1:=⟨k-1,by omega⟩
  rw[zA7,if_neg (show¬ltI (i:Int) (s.length:Int)=true from fun h=>by have:=ltT h;omega)]
  exact⟨_,rfl⟩
 |succ n ih=>
  intro i k m hi hk h0 h1
  obtain⟨g,rfl⟩: ∃g,k=g+1:=⟨k-1,by omega⟩
  have hx:s[i]? =some s[i]:=zq2 (by omega)
  have hc:=hd s[i] (List.getElem_mem _)
  generalize s[i]=c at hx hc
  unfold diB at hc
  rw[zq7] at hc
  have c1:=leT hc.1;have c2:=leT hc.2
  rw[zA7,if_pos (show ltI (i:Int) (s.length:Int)=true from zqb (by omega)),zJE (by omega) (by omega),hx]
  simp only[zC3]
  rw[chku8 (by omega) (by omega)]
  simp only[zC3]
  rw[zJE (by omega) (by omega)]
  simp only[zC3]
  by_cases hb:4503599627370496<10*m+((c.toNat:Int)-48)
  ·rw[if_pos (show ltI 4503599627370496 _=true from zqb hb)]
   exact⟨_,rfl⟩
  ·rw[if_neg (show¬ltI 4503599627370496 _=true from fun h=>hb (ltT h))]
   exact ih (i+1) g _ (by omega) (by omega) (by omega) (by omega)
theorem number_total(s:List UInt8){fuel:Nat}(hd: ∀c∈s,diB c=true)(hf:s.length+1<=fuel): ∃e,zDE fuel s=some e:=by
 obtain⟨o,ho⟩:=number_loop s hd s.length 0 fuel 0 (by simp) hf (by omega) (by omega)
 rw[zDE,ho]
 have fin: ∀b:Bool,∃e,(if b=true then some 3 else (some o).bind fun o=>Sum.elim some (fun o14=>some 0) o)=some e:=fun b=>by
  cases b
  ·cases o<;>exact⟨_,rfl⟩
  ·exact⟨_,rfl⟩
 by_cases h:1<s.length
 ·rw[if_pos (show ltI 1 (s.length:Int)=true from zqb (by omega)),zq2 (by omega:0<s.length)]
  simp only[zC3]
  exact fin _
 ·rw[if_neg (show¬ltI 1 (s.length:Int)=true from fun h'=>by have:=ltT h';omega)]
  simp only[zC3]
  exact fin false
theorem Sym_loop(s:List UInt8)(v:List (List UInt8)): ∀(n i k:Nat),i+n=v.length->n+1<=k->zCU s v k i=some (match (v.drop i).find? (pre s) with|some x=>.inl (x,true)|none=>.inr ()):=by
 intro n
 induction n with
 |zero=>
  intro i k hi hk
  obtain⟨g,rfl⟩: ∃g,k=g+1:=⟨k-1,by omega⟩
  rw[zCU,if_neg (show¬ltI (i:Int) (v.length:Int)=true from fun h=>by have:=ltT h;omega),List.drop_eq_nil_of_le (by omega)]
  rfl
 |succ n ih=>
  intro i k hi hk
  obtain⟨g,rfl⟩: ∃g,k=g+1:=⟨k-1,by omega⟩
  have hx:v[i]? =some v[i]:=zq2 (by omega)
  rw[zCU,if_pos (show ltI (i:Int) (v.length:Int)=true from zqb (by omega)),hx,List.drop_eq_getElem_cons (by omega),List.find?_cons]
  simp only[zC3,has_M]
  cases pre s v[i]
  ·simp only[Bool.false_eq_true,if_false]
   exact ih (i+1) g (by omega) (by omega)
  ·rfl
def SA:List (List UInt8):=[[58,62],[61,62],[45,62],[60,61]]
def SB:List UInt8:=[40,41,44,59,58,61,124,95,46,42,43,45,60,94,126]
def la(c:UInt8)(s:List UInt8):Nat->Int
 |0=> -1
 |i+1=>if s[i]? =some c then (i:Int) else la c s i
theorem la_lt(c:UInt8)(s:List UInt8): ∀i,-1<=la c s i∧la c s i<i
 |0=>by simp[la]
 |i+1=>by
  have:=la_lt c s i
  rw[la]
  split<;>omega
theorem eqB8(c d:UInt8):eqI (c.toNat:Int) (d.toNat:Int)=decide (c=d):=eq8 c d.toNat d rfl
theorem lastM_loop(s:List UInt8)(c:UInt8)(hs:s.length<=100000): ∀(i k:Nat)(I:Int),I=(i:Int)-1->i<=s.length->i+1<=k->∃o,zAf s c k I=some o∧Sum.elim id (fun _=> -1) o=la c s i:=by
 intro i
 induction i with
 |zero=>
  intro k I hI hi hk
  obtain⟨g,rfl⟩: ∃g,k=g+1:=⟨k-1,by omega⟩
  rw[zAf,if_neg (show¬leI 0 I=true from fun h=>by have:=leT h;omega)]
  exact⟨_,rfl,rfl⟩
 |succ i ih=>
  intro k I hI hi hk
  obtain⟨g,rfl⟩: ∃g,k=g+1:=⟨k-1,by omega⟩
  have hI':I=(i:Int):=by omega
  have hx:s[i]? =some s[i]:=zq2 (by omega)
  generalize s[i]=d at hx
  rw[zAf,if_pos (show leI 0 I=true from zqb (by omega)),hI',idxN,hx,la,hx]
  simp only[zC3,eqB8,Option.some.injEq]
  by_cases h:d=c
  ·subst h
   rw[zqb rfl,if_pos rfl,if_pos rfl]
   exact⟨_,rfl,rfl⟩
  ·rw[decide_eq_false h,if_neg (by simp),if_neg h]
   exact ih g _ rfl (by omega) (by omega)
theorem la_take(c:UInt8)(s:List UInt8)(n:Nat): ∀i,i<=n->la c (s.take n) i=la c s i
 |0,_=>rfl
 |i+1,h=>by
  have e:(s.take n)[i]? =s[i]? :=by
   rw[List.getElem?_take,if_pos (by omega)]
  show(if (s.take n)[i]? =some c then (i:Int) else la c (s.take n) i)=(if s[i]? =some c then (i:Int) else la c s i)
  rw[la_take c s n i (by omega),e]
def PL(s:List UInt8)(i:Nat):zKq:=zKq.mk (1+(Lib.countByte (s.take i) 10:Nat)) ((i:Int)-la 10 s i)
theorem place_M(s:List UInt8)(i:Nat){fuel:Nat}(hs:s.length<=100000)(hi:i<=s.length)(hf:s.length+2<=fuel):zCz fuel s (i:Int)=some (PL s i):=by
 have hl:(s.take i).length=i:=by simp;omega
 have hc:Lib.countByte (s.take i) 10<=(s.take i).length:=List.count_le_length
 have hla:=la_lt 10 s i
 rw[zCz,subT s i hi]
 simp only[zC3,zEB]
 rw[zJE (by omega) (by omega)]
 simp only[zC3]
 rw[zCo,zB8,hl,zJE (by omega) (by omega)]
 simp only[zC3]
 obtain⟨o,o1,o2⟩:=lastM_loop (s.take i) 10 (by omega) i fuel _ rfl (by omega) (by omega)
 rw[la_take 10 s i i (by omega)] at o2
 rw[o1]
 have fin:(Option.bind (some (Sum.elim id (fun _=>(-1:Int)) o)) fun v14=>(chk .i64 ((i:Int)-v14)).bind fun n16=>some (zKq.mk (1+(Lib.countByte (s.take i) 10:Nat)) n16))=some (PL s i):=by
  rw[o2,zC3,zJE (by omega) (by omega),zC3];rfl
 cases o with
 |inl z=>exact fin
 |inr u=>exact fin
theorem pre2(t:List UInt8)(a b:UInt8):pre t [a,b]=true↔∃r,t=a::b::r:=by
 unfold pre
 rw[decide_eq_true_eq]
 constructor
 ·intro h
  match t,h with
  |[],h=>simp at h
  |[x],h=>simp at h
  |x::y::r,h=>simp at h;exact⟨r,by rw[h.1,h.2]⟩
 ·rintro⟨r,rfl⟩;simp
theorem e41(c:UInt8):eqI (c.toNat:Int) 41=decide (c=41):=eq8 c 41 41 rfl
def blank(c:UInt8):Bool:=decide (c=32)||(decide (c=9)||decide (c=10))
theorem e32(c:UInt8):eqI (c.toNat:Int) 32=decide (c=32):=eq8 c 32 32 rfl
theorem e9(c:UInt8):eqI (c.toNat:Int) 9=decide (c=9):=eq8 c 9 9 rfl
theorem e39(c:UInt8):eqI (c.toNat:Int) 39=decide (c=39):=eq8 c 39 39 rfl
theorem blank_L(c:UInt8):zCf [32,9,10] c=some (Lib.indexByte [32,9,10] c):=rfl
theorem blank_I(c:UInt8):leI 0 (Lib.indexByte [32,9,10] c)=blank c:=by
 unfold blank
 by_cases h1:c=32
 ·subst h1;rfl
 by_cases h2:c=9
 ·subst h2;rfl
 by_cases h3:c=10
 ·subst h3;rfl
 have n1: ¬32=c:=fun e=>h1 e.symm
 have n2: ¬9=c:=fun e=>h2 e.symm
 have n3: ¬10=c:=fun e=>h3 e.symm
 have:Lib.indexByte [32,9,10] c= -1:=by simp[Lib.indexByte,n1,n2,n3]
 rw[this]
 simp[h1,h2,h3,leI]
theorem vis_N(n:Nat):((ltI (n:Int) 32)||(ltI 126 (n:Int)))= !(decide (32<=n)&&decide (n<=126)):=by
 cases h1:ltI (n:Int) 32
 ·have c1:=ltF h1
  cases h2:ltI 126 (n:Int)
  ·have c2:=ltF h2
   rw[zqb (by omega:32<=n),zqb (by omega:n<=126)];rfl
  ·have c2:=ltT h2
   rw[decide_eq_false (by omega: ¬n<=126)];simp
 ·have c1:=ltT h1
  rw[decide_eq_false (by omega: ¬32<=n)];simp
theorem t1_M(kind n:Int)(text s:List UInt8)(a N:Nat)(hn:n=N)(h:a+N<=1000000):zA2 kind n text (zKn.mk s (a:Int))=some (zKp.mk kind text (zKq.mk 0 0),0,0,zKn.mk s ((a+N:Nat):Int)):=by
 have k:chk .i64 ((a:Int)+n)=some ((a+N:Nat):Int):=by rw[zJE (by omega) (by omega)];congr 1;omega
 rw[zA2]
 dsimp only
 rw[k];rfl
theorem t2_M(by_ e:Int)(s:List UInt8)(a P:Nat)(hp:by_=P)(h:a+P<=1000000):zBD by_ e (zKn.mk s (a:Int))=some (zKp.mk 0 [] (zKq.mk 0 0),((a+P:Nat):Int),e):=by
 have k:chk .i64 ((a:Int)+by_)=some ((a+P:Nat):Int):=by rw[zJE (by omega) (by omega)];congr 1;omega
 rw[zBD]
 dsimp only
 rw[k];rfl
theorem cw_pos{p:UInt8->Bool}{c:UInt8}{r:List UInt8}(h:p c=true):1<=cw p (c::r) 0:=by
 rw[cw_step p (c::r) 0 c rfl,if_pos h]
 exact(cw_le p (c::r) 1 (by simp)).1
theorem sm_in{c:UInt8}(h:(smB c||caB c)=true):inB c=true:=by
 unfold inB
 cases h1:smB c
 ·rw[h1] at h;rw[Bool.false_or] at h;rw[h];rfl
 ·rfl
theorem tw_all(p:UInt8->Bool): ∀l:List UInt8,∀c∈l.takeWhile p,p c=true
 |[],c,h=>by cases h
 |x::l,c,h=>by
  rw[List.takeWhile_cons] at h
  split at h
  ·rename_i hx
   rcases List.mem_cons.1 h with rfl|h
   ·exact hx
   ·exact tw_all p l c h
  ·cases h
theorem take_all(p:UInt8->Bool)(t:List UInt8): ∀c∈t.take (cw p t 0),p c=true:=by
 intro c hc
 have e:t.take (cw p t 0)=t.takeWhile p:=by
  unfold cw
  simp only[List.drop_zero,Nat.zero_add]
  exact(List.prefix_iff_eq_take.1 (List.takeWhile_prefix p)).symm
 rw[e] at hc
 exact tw_all p t c hc
theorem lit_one(s:List UInt8)(hs:s.length<=100000): ∀(n i k:Nat)(b:List UInt8),s.length-i<=n->n+1<=k->i<=s.length->b.length+n<=1000000->
 ∃(x:List UInt8) (N p e:Int),(zAj s k b i).bind (fun o=>Sum.elim some (fun o4=>some (([]:List UInt8),(0:Int),(0:Int),(4:Int))) o)=some (x,N,p,e)∧
  (e=0->∃q:Nat,N=q∧i<q∧q<=s.length)∧(∃q:Nat,p=q∧q<=s.length):=by
 intro n
 induction n using Nat.strongRecOn with
 |_ n ih=>
 intro i k b hn hk hi hb
 obtain⟨g,rfl⟩: ∃g,k=g+1:=⟨k-1,by omega⟩
 rw[zAj]
 by_cases hend:s.length<=i
 ·rw[if_neg (show¬ltI (i:Int) (s.length:Int)=true from fun h=>by have:=ltT h;omega)]
  have he:eqI (i:Int) (s.length:Int)=true:=zqb (by omega)
  exact⟨[],0,0,4,rfl,(fun h=>absurd h (by decide)),0,rfl,by omega⟩
 have hx:s[i]? =some s[i]:=zq2 (by omega)
 generalize s[i]=c at hx
 have hidx:idx s (i:Int)=some c:=by rw[idxN];exact hx
 have k1:chk .i64 ((i:Int)+1)=some ((i:Int)+1):=zJE (by omega) (by omega)
 have k2:chk .i64 ((i:Int)+2)=some ((i:Int)+2):=zJE (by omega) (by omega)
 have hlt:ltI (i:Int) (s.length:Int)=true:=zqb (by omega)
 have next: ∀(j:Nat)(z:UInt8),i<j->j<=s.length->∃(x:List UInt8) (N p e:Int),(zAj s g (b++[z]) j).bind (fun o=>Sum.elim some (fun o4=>some (([]:List UInt8),(0:Int),(0:Int),(4:Int))) o)=some (x,N,p,e)∧
  (e=0->∃q:Nat,N=q∧i<q∧q<=s.length)∧(∃q:Nat,p=q∧q<=s.length):=fun j z hj1 hj2=>by
  obtain⟨x,N,p,e,h1,h3,h4⟩:=ih (n-1) (by omega) j g (b++[z]) (by omega) (by omega) hj2 (by simp;omega)
  exact⟨x,N,p,e,h1,fun h=>by obtain⟨q,q1,q2,q3⟩:=h3 h;exact⟨q,q1,by omega,q3⟩,h4⟩
 have hcat: ∀z:UInt8,cat b [z]=some (b++[z]):=fun z=>by rw[cat,if_pos (by simp;omega)]
 have hwb: ∀z:UInt8,zAl z b=some (b++[z]):=fun z=>wb_M (by omega)
 simp only[hlt,if_true,hx,hidx,zC3,e34,e92,e110]
 by_cases c34:c=34
 ·rw[zqb c34]
  have he:eqI (i:Int) (s.length:Int)=false:=decide_eq_false (by omega)
  exact⟨b,(i:Int)+1,0,0,rfl,fun _=>⟨i+1,by omega,by omega,by omega⟩,0,rfl,by omega⟩
 rw[decide_eq_false c34]
 simp only[Bool.false_eq_true,if_false,Bool.not_false,if_true,zC3]
 by_cases c92:c=92
 ·rw[zqb c92]
  simp only[if_true,Bool.true_and,k1,zC3]
  by_cases hlt2:i+1<s.length
  ·have hx2:s[i+1]? =some s[i+1]:=zq2 hlt2
   generalize s[i+1]=z at hx2
   have hidx2:idx s ((i:Int)+1)=some z:=by rw[show((i:Int)+1)=((i+1:Nat):Int) by omega,idxN];exact hx2
   have h1:ltI ((i+1:Nat):Int) (s.length:Int)=true:=zqb (by omega)
   have h2:eqI ((i:Int)+1) (s.length:Int)=false:=decide_eq_false (by omega)
   have e2:((i:Int)+2)=((i+1+1:Nat):Int):=by omega
   simp only[h1,if_true,hx2,zC3,h2,Bool.false_eq_true,if_false,hidx2,e34,e92,e110,hcat,hwb,k2]
   by_cases z34:z=34
   ·subst z34
    simp only[decide_true,if_true,show decide ((34:UInt8)=110)=false from rfl,Bool.false_eq_true,if_false]
    try rw[e2]
    exact next (i+1+1) 34 (by omega) (by omega)
   by_cases z92:z=92
   ·subst z92
    simp only[decide_true,if_true,show decide ((92:UInt8)=110)=false from rfl,show decide ((92:UInt8)=34)=false from rfl,Bool.false_eq_true,if_false]
    try rw[e2]
    exact next (i+1+1) 92 (by omega) (by omega)
   by_cases z110:z=110
   ·subst z110
    simp only[decide_true,if_true,show decide ((110:UInt8)=92)=false from rfl,show decide ((110:UInt8)=34)=false from rfl,Bool.false_eq_true,if_false]
    try rw[e2]
    exact next (i+1+1) 10 (by omega) (by omega)
   simp only[decide_eq_false z34,decide_eq_false z92,decide_eq_false z110,Bool.false_eq_true,if_false,zC3,Sum.elim_inl]
   exact⟨[],0,(i:Int),3,by first|rfl|rw[show(((i+1:Nat):Int)-1)=(i:Int) by omega],(fun h=>absurd h (by decide)),i,rfl,by omega⟩
  ·have h1:ltI ((i+1:Nat):Int) (s.length:Int)=false:=decide_eq_false (by omega)
   have h2:eqI ((i:Int)+1) (s.length:Int)=true:=zqb (by omega)
   simp only[h1,Bool.false_eq_true,if_false,h2,if_true]
   exact⟨[],0,0,4,rfl,(fun h=>absurd h (by decide)),0,rfl,by omega⟩
 ·rw[decide_eq_false c92]
  simp only[Bool.false_and,Bool.false_eq_true,if_false,vis_M,zC3]
  have hv:=vis_N c.toNat
  try rw[hv]
  cases hvv:(decide (32<=c.toNat)&&decide (c.toNat<=126))
  ·exact⟨[],0,(i:Int),3,rfl,(fun h=>absurd h (by decide)),i,rfl,by omega⟩
  ·have hsub:subC s (i:Int) ((i:Int)+1)=some [c]:=by
    rw[subC,if_pos ⟨by omega,by omega,by omega⟩]
    have:s.drop i=c::s.drop (i+1):=by
     obtain⟨hl,he⟩:=zq1 hx
     rw[List.drop_eq_getElem_cons hl,he]
    have e1:((i:Int)+1).toNat-(i:Int).toNat=1:=by omega
    unfold sub
    rw[e1,Int.toNat_natCast,this]
    rfl
   simp only[Bool.not_true,Bool.false_eq_true,if_false,hwb,zC3,k1,hsub,hcat]
   try rw[show((i:Int)+1)=((i+1:Nat):Int) by omega]
   exact next (i+1) c (by omega) (by omega)
theorem literal_one(s:List UInt8){fuel:Nat}(hs:s.length<=100000)(h1:1<=s.length)(hf:s.length+1<=fuel): ∃(x:List UInt8) (N p e:Int),zDX fuel s=some (x,N,p,e)∧
 (e=0->∃q:Nat,N=q∧1<=q∧q<=s.length)∧(∃q:Nat,p=q∧q<=s.length):=by
 obtain⟨x,N,p,e,a1,a3,a4⟩:=lit_one s hs s.length 1 fuel [] (by omega) (by omega) h1 (by simp;omega)
 exact⟨x,N,p,e,a1,fun h=>by obtain⟨q,q1,q2,q3⟩:=a3 h;exact⟨q,q1,by omega,q3⟩,a4⟩
def lt:List UInt8->Option (List UInt8×List UInt8)
 |[]=>none
 |c::s=>
  if c=34 then some ([],s)
  else if c=92 then
   match s with
   |[]=>none
   |d::s'=>if d=34∨d=92∨d=110 then (lt s').map (fun q=>((if d=110 then 10 else d)::q.1,q.2)) else none
  else if 32<=c.toNat∧c.toNat<=126 then (lt s).map (fun q=>(c::q.1,q.2)) else none
theorem lt_cons(c:UInt8)(s:List UInt8):lt (c::s)=if c=34 then some ([],s)
 else if c=92 then
  match s with
  |[]=>none
  |d::s'=>if d=34∨d=92∨d=110 then (lt s').map (fun q=>((if d=110 then 10 else d)::q.1,q.2)) else none
 else if 32<=c.toNat∧c.toNat<=126 then (lt s).map (fun q=>(c::q.1,q.2)) else none:=by rw[lt.eq_def]
theorem lt_qs(r:List UInt8): ∀m:List UInt8,m.all okc=true->lt (qs m++34::r)=some (m,r)
 |[],_=>by show lt (34::r)=_;rw[lt_cons,if_pos rfl]
 |c::m,h=>by
  rw[List.all_cons,zq7] at h
  have ih:=lt_qs r m h.2
  rw[zHN,List.append_assoc]
  by_cases c10:c=10
  ·subst c10
   have he:esc 10=[92,110]:=rfl
   rw[he]
   show lt (92::110::(qs m++34::r))=_
   rw[lt_cons]
   simp[ih]
  ·by_cases c2:c=34∨c=92
   ·have he:esc c=[92,c]:=by unfold esc;rw[if_neg c10,if_pos c2]
    rw[he]
    show lt (92::c::(qs m++34::r))=_
    rw[lt_cons]
    have n110: ¬c=110:=by rcases c2 with rfl|rfl<;>decide
    rcases c2 with c2|c2<;>simp[ih,c2]
   ·have he:esc c=[c]:=by unfold esc;rw[if_neg c10,if_neg c2]
    rw[he]
    show lt (c::(qs m++34::r))=_
    rw[lt_cons]
    have hv:32<=c.toNat∧c.toNat<=126:=by
     have:=h.1
     unfold okc at this
     simpa[c10] using this
    rw[if_neg (fun e=>c2 (.inl e)),if_neg (fun e=>c2 (.inr e)),if_pos hv,ih]
    rfl
theorem lt_sound: ∀(n:Nat)(s m r:List UInt8),s.length<=n->lt s=some (m,r)->m.all okc=true∧s=qs m++34::r:=by
 intro n
 induction n with
 |zero=>
  intro s m r hs h
  have:s=[]:=List.length_eq_zero_iff.1 (by omega)
  subst this
  cases h
 |succ n ih=>
  intro s m r hs h
  match s,hs,h with
  |[],hs,h=>cases h
  |c::s,hs,h=>
   rw[lt_cons] at h
   simp only[List.length_cons] at hs
   by_cases c34:c=34
   ·subst c34
    rw[if_pos rfl] at h
    cases h
    exact⟨rfl,rfl⟩
   rw[if_neg c34] at h
   by_cases c92:c=92
   ·subst c92
    rw[if_pos rfl] at h
    match s,hs,h with
    |[],hs,h=>cases h
    |d::s',hs,h=>
     simp only[List.length_cons] at hs
     by_cases hd:d=34∨d=92∨d=110
     ·simp only[hd,if_true] at h
      cases hl:lt s' with
      |none=>rw[hl] at h;cases h
      |some q=>
       obtain⟨m',r'⟩:=q
       rw[hl] at h
       simp only[Option.map_some,Option.some.injEq,Prod.mk.injEq] at h
       obtain⟨rfl,rfl⟩:=h
       obtain⟨a1,a2⟩:=ih s' m' r' (by omega) hl
       rw[a2]
       rcases hd with rfl|rfl|rfl
       ·exact⟨by rw[List.all_cons,a1];rfl,by rw[zHN];rfl⟩
       ·exact⟨by rw[List.all_cons,a1];rfl,by rw[zHN];rfl⟩
       ·exact⟨by rw[List.all_cons,a1];rfl,by rw[zHN];rfl⟩
     ·simp only[hd,if_false] at h;cases h
   ·rw[if_neg c92] at h
    by_cases hv:32<=c.toNat∧c.toNat<=126
    ·rw[if_pos hv] at h
     cases hl:lt s with
     |none=>rw[hl] at h;cases h
     |some q=>
      obtain⟨m',r'⟩:=q
      rw[hl] at h
      simp only[Option.map_some,Option.some.injEq,Prod.mk.injEq] at h
      obtain⟨rfl,rfl⟩:=h
      obtain⟨a1,a2⟩:=ih s m' r' (by omega) hl
      have c10: ¬c=10:=fun e=>by subst e;revert hv;decide
      have he:esc c=[c]:=by unfold esc;rw[if_neg c10,if_neg (by simp[c34,c92])]
      exact⟨by rw[List.all_cons,a1,okc];simp[hv],by rw[zHN,he,a2];rfl⟩
    ·rw[if_neg hv] at h;cases h
def cmt:Nat->List UInt8->Option (List UInt8)
 |_,[]=>none
 |_,[_]=>none
 |d,x::y::r=>if x=40∧y=42 then cmt (d+1) r else if x=42∧y=41 then (if d<=1 then some r else cmt (d-1) r) else cmt d (y::r)
theorem cmt_len: ∀(n d:Nat)(s r:List UInt8),s.length<=n->cmt d s=some r->r.length+2<=s.length:=by
 intro n
 induction n using Nat.strongRecOn with
 |_ n ih=>
 intro d s r hs h
 match s,hs,h with
 |[],hs,h=>simp[cmt] at h
 |[x],hs,h=>simp[cmt] at h
 |x::y::t,hs,h=>
  rw[cmt] at h
  simp only[List.length_cons] at hs ⊢
  split at h
  ·have:=ih (n-2) (by omega) _ t r (by omega) h;omega
  ·split at h
   ·split at h
    ·cases h;omega
    ·have:=ih (n-2) (by omega) _ t r (by omega) h;omega
   ·have:=ih (n-1) (by omega) _ (y::t) r (by simp;omega) h
    simp only[List.length_cons] at this;omega
def skp(s:List UInt8):Option (List UInt8):=
 match s with
 |[]=>some []
 |c::r=>if blank c=true then skp r else if pre (c::r) [40,42]=true then
  match h:cmt 1 (r.drop 1) with
  |none=>none
  |some r'=>skp r'
  else some (c::r)
termination_by s.length
decreasing_by
 ·simp
 ·have:=cmt_len _ _ _ _ (Nat.le_refl _) h
  simp at this ⊢;omega
theorem skp_nil:skp []=some []:=by rw[skp]
theorem zIN{c:UInt8}{r:List UInt8}(h:blank c=true):skp (c::r)=skp r:=by rw[skp,if_pos h]
theorem skp_cmt(r:List UInt8):skp (40::42::r)=(cmt 1 r).bind skp:=by
 rw[skp,if_neg (by decide),if_pos (by rw[pre2];exact⟨r,rfl⟩)]
 split<;>rename_i h<;>rw[show cmt 1 r=_ from h]<;>rfl
theorem zKE{c:UInt8}{r:List UInt8}(h:blank c=false)(h2:pre (c::r) [40,42]=false):skp (c::r)=some (c::r):=by rw[skp,if_neg (by simp[h]),if_neg (by simp[h2])]
def wd(s:List UInt8):Bool:=WORDS.any (fun w=>eqS s w)
def sy:List UInt8->List UInt8
 |[]=>[]
 |c::r=>if pre (c::r) [40,42]=true then [] else match SA.find? (pre (c::r)) with
  |some x=>x
  |none=>if 0<=Lib.indexByte SB c then [c] else []
def numE(x:List UInt8):Option Int:=zDE (x.length+1) x
theorem zKQ(s:List UInt8): ∀(n i k k':Nat)(m:Int),i+n=s.length->n+1<=k->n+1<=k'->zA7 s k m i=zA7 s k' m i:=by
 intro n
 induction n with
 |zero=>
  intro i k k' m hi hk hk'
  obtain⟨g,rfl⟩: ∃g,k=g+1:=⟨k-1,by omega⟩
  obtain⟨g',rfl⟩: ∃g,k'=g+1:=⟨k'-1,by omega⟩
  rw[zA7,zA7,if_neg (show¬ltI (i:Int) (s.length:Int)=true from fun h=>by have:=ltT h;omega),if_neg (show¬ltI (i:Int) (s.length:Int)=true from fun h=>by have:=ltT h;omega)]
 |succ n ih=>
  intro i k k' m hi hk hk'
  obtain⟨g,rfl⟩: ∃g,k=g+1:=⟨k-1,by omega⟩
  obtain⟨g',rfl⟩: ∃g,k'=g+1:=⟨k'-1,by omega⟩
  rw[zA7,zA7]
  have e: ∀z,zA7 s g z (i+1)=zA7 s g' z (i+1):=fun z=>ih (i+1) g g' z (by omega) (by omega) (by omega)
  simp only[e]
theorem number_fuel{x:List UInt8}{fuel:Nat}(h:x.length+1<=fuel):zDE fuel x=numE x:=by
 unfold numE
 rw[zDE,zDE,zKQ x x.length 0 fuel (x.length+1) 0 (by omega) h (Nat.le_refl _)]
def tk:List UInt8->Option (Int×List UInt8×List UInt8)
 |[]=>none
 |c::r=>
  if (smB c||caB c)=true then
   if 24<cw inB (c::r) 0 then none
   else some (if wd ((c::r).take (cw inB (c::r) 0))=true then 6 else if smB c=true then 1 else 2,(c::r).take (cw inB (c::r) 0),(c::r).drop (cw inB (c::r) 0))
  else if c=39 then
   match r with
   |[]=>none
   |d::r'=>if smB d=true then
    if 24<cw inB (d::r') 0+1 then none else some (3,(c::d::r').take (cw inB (d::r') 0+1),(c::d::r').drop (cw inB (d::r') 0+1))
    else none
  else if diB c=true then
   if numE ((c::r).take (cw diB (c::r) 0))=some 0 then some (4,(c::r).take (cw diB (c::r) 0),(c::r).drop (cw diB (c::r) 0)) else none
  else if c=34 then (lt r).map fun q=>(5,q.1,q.2)
  else if sy (c::r)=[] then none else some (7,sy (c::r),(c::r).drop (sy (c::r)).length)
theorem zIU(c:UInt8)(r:List UInt8){fuel:Nat}(hf:40<=fuel):zEm fuel (c::r)=some (sy (c::r),decide (sy (c::r)≠[]))∧(sy (c::r)).length<=(c::r).length∧(c::r).take (sy (c::r)).length=sy (c::r):=by
 rw[zEm,has_M,sy]
 simp only[zC3]
 cases h0:pre (c::r) [40,42]
 case true=>exact⟨rfl,by simp,rfl⟩
 simp only[Bool.false_eq_true,if_false]
 have hA:=Sym_loop (c::r) SA 4 0 fuel rfl (by omega)
 rw[List.drop_zero] at hA
 change ((zCU (c::r) SA fuel 0).bind _)=_∧_
 rw[hA]
 cases hfa:SA.find? (pre (c::r)) with
 |some x=>
  have hx:=List.find?_some hfa
  have hm:=List.mem_of_find?_eq_some hfa
  have hne:x≠[]:=by
   have: ∀x∈SA,x≠[]:=by decide
   exact this x hm
  have hxe:(c::r).take x.length=x:=of_decide_eq_true hx
  refine⟨by simp[hne],?_,hxe⟩
  have:=congrArg List.length hxe
  simp at this ⊢
  omega
 |none=>
  have hns:eqS (c::r) []=false:=decide_eq_false (by simp)
  simp only[zC3,Sum.elim_inr,hns,Bool.not_false,if_true,List.getElem?_cons_zero]
  have hI:zCf [40,41,44,59,58,61,124,95,46,42,43,45,60,94,126] c=some (Lib.indexByte SB c):=rfl
  rw[hI]
  simp only[zC3]
  by_cases h:0<=Lib.indexByte SB c
  ·rw[if_pos h,show leI 0 (Lib.indexByte SB c)=true from zqb h]
   have:=subT (c::r) 1 (by simp)
   simp only[if_true]
   rw[show subC (c::r) 0 1=_ from this]
   exact⟨by simp,by simp,rfl⟩
  ·rw[if_neg h,show leI 0 (Lib.indexByte SB c)=false from decide_eq_false h]
   exact⟨by simp,by simp,rfl⟩
def TKS(s:List UInt8)(a:Nat)(L:zKp×Int×Int×zKn):Prop:=
 (L.2.2.1=0∧∃N:Nat,1<=N∧a+N<=s.length∧tk (s.drop a)=some (L.1.Kind,L.1.Text,s.drop (a+N))∧L.2.2.2=zKn.mk s ((a+N:Nat):Int))∨
 (L.2.2.1≠0∧tk (s.drop a)=none∧∃P:Nat,a+P<=s.length∧L.2.1=((a+P:Nat):Int))
theorem zIZ(s:List UInt8)(hs:s.length<=100000)(a:Nat)(ha:a<s.length){fuel:Nat}(hf:s.length+100<=fuel):
 ∃L,zC6 fuel (zKn.mk s (a:Int))=some L∧TKS s a L:=by
 have n3:(3:Int)≠0:=by decide
 have n5:(5:Int)≠0:=by decide
 have hlen:(s.drop a).length=s.length-a:=by simp
 have hdrop: ∀N,s.drop (a+N)=(s.drop a).drop N:=fun N=>by rw[List.drop_drop]
 unfold TKS
 simp only[hdrop]
 rw[zC6]
 dsimp only
 rw[subD s a (by omega)]
 simp only[zC3]
 have hTb:(s.drop a).length<=100000:=by omega
 have hTf:(s.drop a).length+1<=fuel:=by omega
 have hTp:1<=(s.drop a).length:=by omega
 generalize s.drop a=T at hlen hTb hTf hTp
 match T,hlen,hTb,hTf,hTp with
 |c::r,hlen,hTb,hTf,_=>
 have b13:(if smB c=true then some true else some (caB c))=some (smB c||caB c):=by cases smB c<;>rfl
 simp only[List.getElem?_cons_zero,zC3,small_M,capital_M,digit_M,b13]
 rw[tk.eq_def]
 dsimp only
 cases hsc:(smB c||caB c)
 case true=>
  have hp:=cw_pos (r:=r) (sm_in hsc)
  have hle:=(cw_le inB (c::r) 0 (by simp)).2
  rw[inner_len hTb hTf]
  simp only[if_true,zC3]
  generalize hN:cw inB (c::r) 0=N at hp hle
  rw[subT (c::r) N hle]
  simp only[zC3,Keyword_M]
  have tl:((c::r).take N).length=N:=by rw[List.length_take];omega
  cases hw:WORDS.any (fun w=>eqS ((c::r).take N) w)
  ·have hwd:wd ((c::r).take N)=false:=hw
   by_cases h24:24<N
   ·have h24':ltI 24 (N:Int)=true:=zqb (by omega)
    rw[t2_M 0 5 s a 0 rfl (by omega)]
    simp only[Bool.false_eq_true,if_false,h24',if_true,zC3,h24]
    exact⟨_,rfl,.inr ⟨n5,by first|rfl|trivial,0,by omega,rfl⟩⟩
   ·have h24':ltI 24 (N:Int)=false:=decide_eq_false (by omega)
    rw[t1_M 1 (N:Int) _ s a N rfl (by omega),t1_M 2 (N:Int) _ s a N rfl (by omega)]
    simp only[Bool.false_eq_true,if_false,h24',zC3,h24,hwd]
    cases smB c
    ·exact⟨_,rfl,.inl ⟨rfl,N,hp,by omega,by first|rfl|trivial,rfl⟩⟩
    ·exact⟨_,rfl,.inl ⟨rfl,N,hp,by omega,by first|rfl|trivial,rfl⟩⟩
  ·have hwd:wd ((c::r).take N)=true:=hw
   have hsh:=words_short hw
   rw[tl] at hsh
   have h24: ¬24<N:=by omega
   rw[t1_M 6 (N:Int) _ s a N rfl (by omega)]
   simp only[if_true,Bool.false_eq_true,if_false,zC3,h24,hwd]
   exact⟨_,rfl,.inl ⟨rfl,N,hp,by omega,by first|rfl|trivial,rfl⟩⟩
 simp only[Bool.false_eq_true,if_false,e39]
 by_cases c39:c=39
 ·rw[zqb c39]
  simp only[if_true]
  rw[if_pos c39]
  have hsub:subC (c::r) 1 ((c::r).length:Int)=some r:=by have:=subD (c::r) 1 (by simp);simpa using this
  rw[hsub]
  simp only[zC3]
  simp only[List.length_cons] at hlen hTb hTf
  match r,hlen,hTb,hTf with
  |[],hlen,hTb,hTf=>
   have h2:ltI (([c]:List UInt8).length:Int) 2=true:=zqb (by simp)
   rw[t2_M 0 3 s a 0 rfl (by omega)]
   simp only[h2,if_true,zC3]
   exact⟨_,rfl,.inr ⟨n3,by first|rfl|trivial,0,by omega,rfl⟩⟩
  |d::r',hlen,hTb,hTf=>
   simp only[List.length_cons] at hlen hTb hTf
   have h2:ltI ((c::d::r':List UInt8).length:Int) 2=false:=decide_eq_false (by simp;omega)
   simp only[h2,Bool.false_eq_true,if_false,List.getElem?_cons_succ,List.getElem?_cons_zero,zC3,small_M]
   cases hd:smB d
   ·rw[t2_M 0 3 s a 0 rfl (by omega)]
    simp only[Bool.not_false,if_true,zC3,Bool.false_eq_true,if_false]
    exact⟨_,rfl,.inr ⟨n3,by first|rfl|trivial,0,by omega,rfl⟩⟩
   ·have hin:inB d=true:=by unfold inB;rw[hd];rfl
    have hp:=cw_pos (r:=r') hin
    have hle:=(cw_le inB (d::r') 0 (by simp)).2
    simp only[if_true,Bool.false_eq_true,if_false,Bool.not_true,zC3]
    rw[inner_len (by simp;omega) (by simp;omega)]
    simp only[zC3]
    generalize cw inB (d::r') 0=N at hp hle
    simp only[List.length_cons] at hle
    have k1:chk .i64 (1+(N:Int))=some ((N+1:Nat):Int):=by rw[zJE (by omega) (by omega)];congr 1;omega
    rw[k1]
    simp only[zC3]
    by_cases h24:24<N+1
    ·have h24':ltI 24 ((N+1:Nat):Int)=true:=zqb (by omega)
     rw[t2_M 0 5 s a 0 rfl (by omega)]
     simp only[h24',if_true,zC3,h24]
     exact⟨_,rfl,.inr ⟨n5,by first|rfl|trivial,0,by omega,rfl⟩⟩
    ·have h24':ltI 24 ((N+1:Nat):Int)=false:=decide_eq_false (by omega)
     rw[subT (c::d::r') (N+1) (by simp;omega)]
     simp only[h24',Bool.false_eq_true,if_false,zC3,h24]
     rw[t1_M 3 ((N+1:Nat):Int) _ s a (N+1) rfl (by omega)]
     exact⟨_,rfl,.inl ⟨rfl,N+1,by omega,by omega,by first|rfl|trivial,rfl⟩⟩
 rw[decide_eq_false c39]
 simp only[Bool.false_eq_true,if_false]
 rw[if_neg c39]
 cases hdi:diB c
 case true=>
  have hp:=cw_pos (r:=r) hdi
  have hle:=(cw_le diB (c::r) 0 (by simp)).2
  rw[digit_len hTb hTf]
  have hall:=take_all diB (c::r)
  simp only[if_true,zC3]
  generalize cw diB (c::r) 0=N at hp hle hall
  rw[subT (c::r) N hle]
  simp only[zC3]
  obtain⟨e,he⟩:=number_total ((c::r).take N) (fuel:=fuel) hall (by rw[List.length_take];omega)
  have hE:=he
  rw[number_fuel (by rw[List.length_take];omega)] at hE
  rw[he]
  simp only[zC3]
  by_cases e0:e=0
  ·have h0:eqI e 0=true:=zqb e0
   rw[h0,t1_M 4 (N:Int) _ s a N rfl (by omega),if_pos (show numE ((c::r).take N)=some 0 by rw[hE,e0])]
   exact⟨_,rfl,.inl ⟨rfl,N,hp,by omega,by first|rfl|trivial,rfl⟩⟩
  ·have h0:eqI e 0=false:=decide_eq_false e0
   rw[h0,t2_M 0 e s a 0 rfl (by omega),if_neg (show¬numE ((c::r).take N)=some 0 from fun h=>e0 (by rw[hE] at h;exact zqa h))]
   exact⟨_,rfl,.inr ⟨e0,by first|rfl|trivial,0,by omega,rfl⟩⟩
 simp only[Bool.false_eq_true,if_false,e34]
 by_cases c34:c=34
 ·subst c34
  simp only[decide_true,if_true,zC3]
  obtain⟨x,N,p,e,l1,l3,P,hP,hPl⟩:=literal_one (34::r) (fuel:=fuel) hTb (by simp) hTf
  obtain⟨v,v1,v2⟩:=literal_total (34::r) (fuel:=fuel) hTb hTf
  rw[l1] at v1
  cases v1
  rw[l1]
  simp only[zC3]
  by_cases e0:e=0
  ·obtain⟨m,rest,m1,m2,m3,m4⟩:=v2 e0
   simp only at m1 m4
   subst m1
   have m3':r=qs x++34::rest:=by simpa using m3
   have hlr:=congrArg List.length m3'
   simp only[List.length_append,List.length_cons] at hlr hlen
   have h0:eqI e 0=true:=zqb e0
   clear l3 v2
   rw[h0,t1_M 5 N x s a (1+(qs x).length+1) m4 (by omega)]
   have hlt:lt r=some (x,rest):=by rw[m3'];exact lt_qs rest x m2
   rw[hlt]
   refine⟨_,rfl,.inl ⟨rfl,1+(qs x).length+1,by omega,by omega,?_,rfl⟩⟩
   have hdr:(34::r).drop (1+(qs x).length+1)=rest:=by
    rw[show 1+(qs x).length+1=((qs x).length+1)+1 by omega,List.drop_succ_cons,m3',List.drop_append]
    simp
   rw[hdr]
   rfl
  ·have h0:eqI e 0=false:=decide_eq_false e0
   have hb:a+P<=1000000:=by clear l3 v2;omega
   have hb2:a+P<=s.length:=by clear l3 v2;omega
   rw[h0,t2_M p e s a P hP hb]
   refine⟨_,rfl,.inr ⟨e0,?_,P,hb2,rfl⟩⟩
   cases hl:lt r with
   |none=>rfl
   |some q=>
    obtain⟨m,rest⟩:=q
    obtain⟨a1,a2⟩:=lt_sound _ r m rest (Nat.le_refl _) hl
    have hlr:=congrArg List.length a2
    have hge:=qs_ge m
    simp only[List.length_append,List.length_cons] at hlr hlen hTb hTf
    have:=lit_complete (34::r) m a1 1 fuel [] rest (by simpa using a2) (by clear l3 v2;omega) (by simp;clear l3 v2;omega)
    rw[zDX,this] at l1
    simp only[zC3,Sum.elim_inl,Option.some.injEq,Prod.mk.injEq] at l1
    exact(e0 l1.2.2.2.symm).elim
 rw[decide_eq_false c34,if_neg c34]
 obtain⟨y1,y2,y3⟩:=zIU c r (fuel:=fuel) (by omega)
 rw[y1]
 generalize sy (c::r)=y at y2 y3
 simp only[Bool.false_eq_true,if_false,zC3]
 by_cases hy:y=[]
 ·subst hy
  have h1:decide (([]:List UInt8)≠[])=false:=by simp
  rw[h1,t2_M 0 3 s a 0 rfl (by omega)]
  exact⟨_,rfl,.inr ⟨n3,by first|rfl|trivial,0,by omega,rfl⟩⟩
 ·have h1:decide (y≠[])=true:=zqb hy
  have hyl:1<=y.length:=by
   cases y with
   |nil=>exact(hy rfl).elim
   |cons z y=>simp
  rw[h1,t1_M 7 (y.length:Int) y s a y.length rfl (by omega),if_neg hy]
  exact⟨_,rfl,.inl ⟨rfl,y.length,hyl,by omega,by first|rfl|trivial,rfl⟩⟩
theorem comment_spec(s:List UInt8)(hs:s.length<=100000)(w:zKn)(hw:w.s=s)(A:Int): ∀(n p k d:Nat)(X D:Int),X=p->D=d->s.length-p<=n->n+2<=k->1<=d->d<=p->p<=s.length->
 (zAi w A k X D=some (.inl (A,zKn.mk s s.length))∧cmt d (s.drop p)=none)∨
 (∃q:Nat,zAi w A k X D=some (.inr (q:Int))∧cmt d (s.drop p)=some (s.drop q)∧p<q∧q<=s.length):=by
 intro n
 induction n using Nat.strongRecOn with
 |_ n ih=>
 intro p k d X D hX hD hn hk hd hdp hp
 obtain⟨g,rfl⟩: ∃g,k=g+1:=⟨k-1,by omega⟩
 subst hX;subst hD
 have k3:chk .i64 ((d:Int)+1)=some ((d:Int)+1):=zJE (by omega) (by omega)
 have k4:chk .i64 ((d:Int)-1)=some ((d:Int)-1):=zJE (by omega) (by omega)
 have k5:chk .i64 ((p:Int)+1)=some ((p:Int)+1):=zJE (by omega) (by omega)
 have k6:chk .i64 ((p:Int)+2)=some ((p:Int)+2):=zJE (by omega) (by omega)
 rw[zAi,hw]
 by_cases hend:s.length<=p
 ·rw[if_pos (show leI (s.length:Int) (p:Int)=true from zqb (by omega)),List.drop_eq_nil_of_le hend]
  exact .inl ⟨by rw[show(p:Int)=(s.length:Int) by omega],by simp[cmt]⟩
 rw[if_neg (show¬leI (s.length:Int) (p:Int)=true from fun h=>by have:=leT h;omega),subD s p (by omega)]
 simp only[zC3,has_M]
 have hd1:s.drop (p+1)=(s.drop p).drop 1:=by rw[List.drop_drop]
 have hd2:s.drop (p+2)=(s.drop p).drop 2:=by rw[List.drop_drop]
 have hTl:(s.drop p).length=s.length-p:=by simp
 have go: ∀(b d':Nat),1<=b->b<=2->p+b<=s.length->1<=d'->d'<=p+b->∀(X' D':Int),X'=((p+b:Nat):Int)->D'=d'->
  (zAi w A g X' D'=some (.inl (A,zKn.mk s s.length))∧cmt d' (s.drop (p+b))=none)∨
  (∃q:Nat,zAi w A g X' D'=some (.inr (q:Int))∧cmt d' (s.drop (p+b))=some (s.drop q)∧p<q∧q<=s.length):=fun b d' hb1 hb2 hbl h1 h2 X' D' hX' hD'=>by
  rcases ih (n-b) (by omega) (p+b) g d' X' D' hX' hD' (by omega) (by omega) h1 h2 hbl with h|⟨q,m1,m2,m3,m4⟩
  ·exact .inl h
  ·exact .inr ⟨q,m1,m2,by omega,m4⟩
 generalize hT:s.drop p=T at hTl hd1 hd2
 match T,hTl,hd1,hd2 with
 |[],hTl,_,_=>simp at hTl;omega
 |[x],hTl,hd1,hd2=>
  have h1:pre [x] [40,42]=false:=decide_eq_false (by simp)
  have h2:pre [x] [42,41]=false:=decide_eq_false (by simp)
  rw[h1]
  simp only[Bool.false_eq_true,if_false,h2]
  simp at hTl
  rw[k5]
  simp only[zC3]
  rw[if_neg (show¬eqI (d:Int) 0=true from fun h=>by have:=eqT h;omega)]
  obtain⟨g2,hg2⟩: ∃g2,g=g2+1:=⟨g-1,by omega⟩
  rw[hg2,zAi,hw,if_pos (show leI (s.length:Int) _=true from zqb (by omega))]
  exact .inl ⟨by rw[show((p:Int)+1)=(s.length:Int) by omega],by simp[cmt]⟩
 |x::y::r,hTl,hd1,hd2=>
  simp only[List.length_cons] at hTl
  simp only[List.drop_succ_cons,List.drop_zero] at hd1 hd2
  have q40:pre (x::y::r) [40,42]=(decide (x=40)&&decide (y=42)):=by unfold pre;simp[Bool.decide_and]
  have q42:pre (x::y::r) [42,41]=(decide (x=42)&&decide (y=41)):=by unfold pre;simp[Bool.decide_and]
  simp only[q40,q42]
  rw[cmt]
  by_cases ho:x=40∧y=42
  ·rw[zqb ho.1,zqb ho.2,if_pos ho]
   simp only[Bool.and_self,if_true,zC3,k3,k6]
   rw[if_neg (show¬eqI ((d:Int)+1) 0=true from fun h=>by have:=eqT h;omega)]
   have:=go 2 (d+1) (by omega) (by omega) (by omega) (by omega) (by omega) ((p:Int)+2) ((d:Int)+1) (by omega) (by omega)
   rw[hd2] at this
   exact this
  have hno:(decide (x=40)&&decide (y=42))=false:=by
   cases h:(decide (x=40)&&decide (y=42))
   ·rfl
   ·simp at h;exact(ho h).elim
  rw[hno,if_neg ho]
  simp only[zC3,Bool.false_eq_true,if_false]
  by_cases hc:x=42∧y=41
  ·rw[zqb hc.1,zqb hc.2,if_pos hc]
   simp only[Bool.and_self,if_true,zC3,k4,k6]
   by_cases hz:d=1
   ·have hz':eqI ((d:Int)-1) 0=true:=zqb (by omega)
    rw[hz',if_pos (show d<=1 by omega)]
    simp only[if_true]
    exact .inr ⟨p+2,by rw[show((p:Int)+2)=((p+2:Nat):Int) by omega],by rw[hd2],by omega,by omega⟩
   ·have hz':eqI ((d:Int)-1) 0=false:=decide_eq_false (by omega)
    rw[hz',if_neg (show¬d<=1 by omega)]
    simp only[Bool.false_eq_true,if_false]
    have:=go 2 (d-1) (by omega) (by omega) (by omega) (by omega) (by omega) ((p:Int)+2) ((d:Int)-1) (by omega) (by omega)
    rw[hd2] at this
    exact this
  ·have hnc:(decide (x=42)&&decide (y=41))=false:=by
    cases h:(decide (x=42)&&decide (y=41))
    ·rfl
    ·simp at h;exact(hc h).elim
   rw[hnc,if_neg hc]
   simp only[zC3,Bool.false_eq_true,if_false,k5]
   rw[if_neg (show¬eqI (d:Int) 0=true from fun h=>by have:=eqT h;omega)]
   have:=go 1 d (by omega) (by omega) (by omega) (by omega) (by omega) ((p:Int)+1) (d:Int) (by omega) rfl
   rw[hd1] at this
   exact this
theorem skip_loop(s:List UInt8)(hs:s.length<=100000)(w:zKn)(hw:w.s=s){fuel:Nat}(hf:s.length+10<=fuel): ∀(n i k:Nat)(I:Int),I=i->s.length-i<=n->n+1<=k->i<=s.length->
 ∃v,(zBT fuel w k I).bind (fun o=>Sum.elim some (fun o3=>some ((-1:Int),(zKn.mk w.s o3))) o)=some v∧
  ((∃m:Nat,i<=m∧m<=s.length∧v=(-1,zKn.mk s (m:Int))∧skp (s.drop i)=some (s.drop m))∨(∃m:Nat,m<=s.length∧v.1=(m:Int)∧skp (s.drop i)=none)):=by
 subst hw
 intro n
 induction n using Nat.strongRecOn with
 |_ n ih=>
 intro i k I hI hn hk hi
 obtain⟨g,rfl⟩: ∃g,k=g+1:=⟨k-1,by omega⟩
 subst hI
 rw[zBT]
 by_cases hend:w.s.length<=i
 ·rw[if_neg (show¬ltI (i:Int) (w.s.length:Int)=true from fun h=>by have:=ltT h;omega)]
  refine⟨_,rfl,.inl ⟨i,Nat.le_refl _,hi,rfl,?_⟩⟩
  rw[List.drop_eq_nil_of_le hend,skp_nil]
 have hx:w.s[i]? =some w.s[i]:=zq2 (by omega)
 have hd:w.s.drop i=w.s[i]::w.s.drop (i+1):=List.drop_eq_getElem_cons (by omega)
 generalize w.s[i]=c at hx hd
 have k1:chk .i64 ((i:Int)+1)=some ((i:Int)+1):=zJE (by omega) (by omega)
 have k2:chk .i64 ((i:Int)+2)=some ((i:Int)+2):=zJE (by omega) (by omega)
 rw[if_pos (show ltI (i:Int) (w.s.length:Int)=true from zqb (by omega)),subD w.s i (by omega)]
 have h0:(w.s.drop i)[0]? =some c:=by rw[hd];rfl
 simp only[zC3,h0,blank_L,blank_I]
 cases hb:blank c
 case true=>
  simp only[if_true,k1,zC3]
  rw[hd,zIN hb]
  obtain⟨v,v1,v2⟩:=ih (n-1) (by omega) (i+1) g ((i:Int)+1) (by omega) (by omega) (by omega) (by omega)
  refine⟨v,v1,?_⟩
  rcases v2 with ⟨m,m1,m2,m3,m4⟩|⟨m,m1,m2,m3⟩
  ·exact .inl ⟨m,by omega,m2,m3,m4⟩
  ·exact .inr ⟨m,m1,m2,m3⟩
 simp only[Bool.false_eq_true,if_false,has_M]
 cases hp:pre (w.s.drop i) [40,42]
 ·rw[hd] at hp ⊢
  exact⟨_,rfl,.inl ⟨i,Nat.le_refl _,hi,rfl,by rw[zKE hb hp,hd]⟩⟩
 simp only[if_true,zC3]
 obtain⟨r,hr⟩:=(pre2 _ _ _).1 hp
 have hrl:=congrArg List.length hr
 simp only[List.length_drop,List.length_cons] at hrl
 have hr2:w.s.drop (i+2)=r:=by rw[<-List.drop_drop,hr];rfl
 obtain⟨f2,rfl⟩: ∃f2,fuel=f2+1:=⟨fuel-1,by omega⟩
 have first:zAi w (i:Int) (f2+1) (i:Int) 0=zAi w (i:Int) f2 ((i:Int)+2) 1:=by
  rw[zAi,if_neg (show¬leI (w.s.length:Int) (i:Int)=true from fun h=>by have:=leT h;omega),subD w.s i (by omega)]
  simp only[zC3,has_M,hp,if_true]
  rw[show chk .i64 (0+1)=some 1 from rfl,k2]
  simp only[zC3]
  rw[if_neg (show¬eqI 1 0=true by decide)]
 rw[first,hr,skp_cmt]
 rcases comment_spec w.s hs w rfl (i:Int) (w.s.length-(i+2)) (i+2) f2 1 ((i:Int)+2) 1 (by omega) rfl (Nat.le_refl _) (by omega) (Nat.le_refl _) (by omega) (by omega) with ⟨l1,l2⟩|⟨q,l1,l2,l3,l4⟩
 ·rw[hr2] at l2
  rw[l1,l2]
  exact⟨_,rfl,.inr ⟨i,hi,rfl,rfl⟩⟩
 ·rw[hr2] at l2
  rw[l1,l2]
  simp only[zC3,Sum.elim_inr]
  obtain⟨v,v1,v2⟩:=ih (n-1) (by omega) q g (q:Int) rfl (by omega) (by omega) (by omega)
  refine⟨v,v1,?_⟩
  rcases v2 with ⟨m,m1,m2,m3,m4⟩|⟨m,m1,m2,m3⟩
  ·exact .inl ⟨m,by omega,m2,m3,m4⟩
  ·exact .inr ⟨m,m1,m2,m3⟩
theorem skip_spec(s:List UInt8)(hs:s.length<=100000)(a:Nat)(ha:a<=s.length){fuel:Nat}(hf:s.length+10<=fuel):
 ∃v,zCV fuel (zKn.mk s (a:Int))=some v∧
  ((∃m:Nat,a<=m∧m<=s.length∧v=(-1,zKn.mk s (m:Int))∧skp (s.drop a)=some (s.drop m))∨(∃m:Nat,m<=s.length∧v.1=(m:Int)∧skp (s.drop a)=none)):=by
 rw[zCV]
 exact skip_loop s hs (zKn.mk s (a:Int)) rfl hf s.length a fuel (a:Int) rfl (by omega) (by omega) ha
inductive Toks:List UInt8->List (Int×List UInt8×List UInt8)->Prop where
 |done {s:List UInt8} (h:skp s=some []):Toks s [(8,[],[])]
 |next {s s' r x:List UInt8} {k:Int} {l:List (Int×List UInt8×List UInt8)} (h:skp s=some s') (h1:s'≠[]) (h2:tk s'=some (k,x,r)) (h3:Toks r l):Toks s ((k,x,s')::l)
theorem Toks.inj{s:List UInt8}{l l':List (Int×List UInt8×List UInt8)}(h:Toks s l):Toks s l'->l=l':=by
 induction h generalizing l' with
 |done h=>
  intro h'
  cases h' with
  |done _=>rfl
  |next g g1 g2 g3=>rw[h] at g;cases g;exact(g1 rfl).elim
 |next h h1 h2 h3 ih=>
  intro h'
  cases h' with
  |done g=>rw[h] at g;cases g;exact(h1 rfl).elim
  |next g g1 g2 g3=>
   rw[h] at g;cases g
   rw[h2] at g2;cases g2
   rw[ih g3]
def tokOf(s:List UInt8)(q:Int×List UInt8×List UInt8):zKp:=zKp.mk q.1 q.2.1 (PL s (s.length-q.2.2.length))
theorem tokens_loop(s:List UInt8)(hs:s.length<=16384){fuel:Nat}(hf:s.length+100<=fuel): ∀(n a k:Nat)(out:List zKp),s.length-a<=n->n+1<=k->a<=s.length->out.length<=a->
 ∃r,zC2 fuel s k s (a:Int) out=some r∧
  ((r.2.2=0∧∃l,Toks (s.drop a) l∧r.1=out++l.map (tokOf s))∨(r.2.2≠0∧r.1=[]∧(∀l,¬Toks (s.drop a) l)∧∃i,i<=s.length∧r.2.1=PL s i)):=by
 intro n
 induction n using Nat.strongRecOn with
 |_ n ih=>
 intro a k out hn hk ha ho
 obtain⟨g,rfl⟩: ∃g,k=g+1:=⟨k-1,by omega⟩
 rw[zC2]
 have happ: ∀t:zKp,app 40 out [t]=some (out++[t]):=fun t=>app_some (by decide) (by simp;omega)
 obtain⟨v,s1,hv⟩:=skip_spec s (by omega) a ha (fuel:=fuel) (by omega)
 rw[s1]
 simp only[zC3]
 rcases hv with ⟨m,m1,m2,rfl,m4⟩|⟨m,m1,m2,m3⟩
 ·have hm1:leI 0 (-1)=false:=rfl
  simp only[hm1,Bool.false_eq_true,if_false]
  by_cases hend:s.length<=m
  ·have h1:leI (s.length:Int) (m:Int)=true:=zqb (by omega)
   rw[h1,place_M s s.length (by omega) (by omega) (by omega)]
   simp only[if_true,zC3,happ]
   refine⟨_,rfl,.inl ⟨rfl,[(8,[],[])],.done ?_,?_⟩⟩
   ·rw[m4,List.drop_eq_nil_of_le hend]
   ·simp[tokOf]
  have h1:leI (s.length:Int) (m:Int)=false:=decide_eq_false (by omega)
  rw[h1]
  simp only[Bool.false_eq_true,if_false]
  have h3:eqI (out.length:Int) 20000=false:=decide_eq_false (by omega)
  rw[h3]
  simp only[Bool.false_eq_true,if_false]
  have hne:s.drop m≠[]:=fun e=>by have:=congrArg List.length e;simp at this;omega
  obtain⟨L,l1,ht⟩:=zIZ s (by omega) m (by omega) (fuel:=fuel) (by omega)
  rw[l1]
  simp only[zC3]
  rcases ht with ⟨t1,N,t5,t6,t7,t8⟩|⟨t1,t2,P,t4,t5⟩
  ·have h4:eqI L.2.2.1 0=true:=zqb t1
   rw[h4,t8,place_M s m (by omega) (by omega) (by omega)]
   simp only[Bool.not_true,Bool.false_eq_true,if_false,zC3,happ]
   obtain⟨r,r1,r2⟩:=ih (n-1) (by omega) (m+N) g (out++[zKp.mk L.1.Kind L.1.Text (PL s m)]) (by omega) (by omega) (by omega) (by simp;omega)
   refine⟨r,r1,?_⟩
   rcases r2 with ⟨e0,l,q1,q2⟩|⟨e0,q0,q1,q2⟩
   ·refine .inl ⟨e0,(L.1.Kind,L.1.Text,s.drop m)::l,.next m4 hne t7 q1,?_⟩
    rw[q2]
    have:s.length-(s.length-m)=m:=by omega
    simp[tokOf,this]
   ·refine .inr ⟨e0,q0,fun l hl=>?_,q2⟩
    cases hl with
    |done g=>rw[m4] at g;exact hne (zqa g)
    |next g g1 g2 g3=>
     rw[m4] at g;cases g
     rw[t7] at g2;cases g2
     exact q1 _ g3
  ·have h4:eqI L.2.2.1 0=false:=decide_eq_false t1
   rw[h4,t5]
   simp only[Bool.not_false,if_true,zC3]
   rw[place_M s (m+P) (by omega) (by omega) (by omega)]
   refine⟨_,rfl,.inr ⟨t1,rfl,fun l hl=>?_,m+P,t4,rfl⟩⟩
   cases hl with
   |done g=>rw[m4] at g;exact hne (zqa g)
   |next g g1 g2 g3=>
    rw[m4] at g;cases g
    rw[t2] at g2;cases g2
 ·have hm1:leI 0 v.1=true:=zqb (by omega)
  simp only[hm1,if_true]
  rw[m2,place_M s m (by omega) (by omega) (by omega)]
  refine⟨_,rfl,.inr ⟨(show(4:Int)≠0 by decide),rfl,fun l hl=>?_,m,m1,rfl⟩⟩
  cases hl with
  |done g=>rw[m3] at g;cases g
  |next g g1 g2 g3=>rw[m3] at g;cases g
theorem zJW(s:List UInt8)(hs:s.length<=16384){fuel:Nat}(hf:s.length+100<=fuel):
 ∃r,zDV fuel s=some r∧((r.2.2=0∧∃l,Toks s l∧r.1=l.map (tokOf s))∨(r.2.2≠0∧r.1=[]∧(∀l,¬Toks s l)∧∃i,i<=s.length∧r.2.1=PL s i)):=by
 rw[zDV,if_neg (show¬ltI 16384 (s.length:Int)=true from fun h'=>by have:=ltT h';omega)]
 have:=tokens_loop s hs hf s.length 0 fuel [] (by omega) (by omega) (by omega) (by simp)
 rw[List.drop_zero] at this
 exact this
theorem tk_len{s x r:List UInt8}{k:Int}(hs:s.length<=100000)(h:tk s=some (k,x,r)):r.length+1<=s.length:=by
 cases s with
 |nil=>simp[tk] at h
 |cons c t=>
  obtain⟨L,l1,l2⟩:=zIZ (c::t) hs 0 (by simp) (fuel:=(c::t).length+100) (Nat.le_refl _)
  rcases l2 with ⟨_,N,n1,n2,n3,_⟩|⟨_,n1,_⟩
  ·rw[List.drop_zero,h] at n3
   simp only[Option.some.injEq,Prod.mk.injEq] at n3
   rw[n3.2.2,List.length_drop]
   omega
  ·rw[List.drop_zero,h] at n1;cases n1
theorem skp_len{s s':List UInt8}(hs:s.length<=100000)(h:skp s=some s'):s'.length<=s.length:=by
 obtain⟨v,_,hv⟩:=skip_spec s hs 0 (by omega) (fuel:=s.length+10) (Nat.le_refl _)
 rcases hv with ⟨m,m1,m2,_,m4⟩|⟨m,m1,_,m3⟩
 ·rw[List.drop_zero,h] at m4
  rw[zqa m4,List.length_drop]
  omega
 ·rw[List.drop_zero,h] at m3;cases m3
theorem Toks.len{s:List UInt8}{l:List (Int×List UInt8×List UInt8)}(hs:s.length<=100000)(h:Toks s l):l.length<=s.length+1:=by
 induction h with
 |done h=>simp
 |next h h1 h2 h3 ih=>
  have a1:=skp_len hs h
  have a2:=tk_len (by omega) h2
  have:=ih (by omega)
  simp only[List.length_cons]
  omega
def bd:List UInt8->Prop
 |[]=>True
 |c::_=>c=32∨c=9∨c=10∨c=40∨c=41
theorem bd_inB{u:List UInt8}(h:bd u): ∀c r,u=c::r->inB c=false∧diB c=false:=by
 rintro c r rfl
 rcases h with rfl|rfl|rfl|rfl|rfl<;>exact⟨rfl,rfl⟩
theorem cw_ext(p:UInt8->Bool)(s u:List UInt8)(h: ∀c r,u=c::r->p c=false):cw p (s++u) 0=cw p s 0:=by
 unfold cw
 simp only[List.drop_zero,Nat.zero_add]
 induction s with
 |nil=>
  cases u with
  |nil=>rfl
  |cons c r=>simp[h c r rfl]
 |cons c s ih=>
  rw[List.cons_append,List.takeWhile_cons,List.takeWhile_cons]
  split
  ·simp[ih]
  ·rfl
theorem cmt_ext(u:List UInt8): ∀(n d:Nat)(s r:List UInt8),s.length<=n->cmt d s=some r->cmt d (s++u)=some (r++u):=by
 intro n
 induction n using Nat.strongRecOn with
 |_ n ih=>
 intro d s r hs h
 match s,hs,h with
 |[],hs,h=>simp[cmt] at h
 |[x],hs,h=>simp[cmt] at h
 |x::y::t,hs,h=>
  rw[cmt] at h
  simp only[List.length_cons] at hs
  show cmt d (x::y::(t++u))=_
  rw[cmt]
  by_cases h1:x=40∧y=42
  ·rw[if_pos h1] at h ⊢
   exact ih (n-2) (by omega) _ t r (by omega) h
  ·rw[if_neg h1] at h ⊢
   by_cases h2:x=42∧y=41
   ·rw[if_pos h2] at h ⊢
    by_cases h3:d<=1
    ·rw[if_pos h3] at h ⊢
     cases h;rfl
    ·rw[if_neg h3] at h ⊢
     exact ih (n-2) (by omega) _ t r (by omega) h
   ·rw[if_neg h2] at h ⊢
    exact ih (n-1) (by omega) _ (y::t) r (by simp;omega) h
theorem zJh(c:UInt8)(r u:List UInt8)(x y:UInt8)(h:bd u)(hy: ¬(y=32∨y=9∨y=10∨y=40∨y=41)):pre (c::r++u) [x,y]=pre (c::r) [x,y]:=by
 cases r with
 |cons d r=>unfold pre;simp
 |nil=>
  have h1:pre [c] [x,y]=false:=decide_eq_false (by simp)
  rw[h1]
  cases u with
  |nil=>exact h1
  |cons e u=>
   refine decide_eq_false ?_
   simp
   rintro _ rfl
   exact hy h
theorem sy_ext(c:UInt8)(r u:List UInt8)(h:bd u):sy (c::r++u)=sy (c::r):=by
 show sy (c::(r++u))=_
 rw[sy,sy]
 have e:pre (c::(r++u)) [40,42]=pre (c::r) [40,42]:=zJh c r u 40 42 h (by decide)
 have e1:pre (c::(r++u)) [58,62]=pre (c::r) [58,62]:=zJh c r u 58 62 h (by decide)
 have e2:pre (c::(r++u)) [61,62]=pre (c::r) [61,62]:=zJh c r u 61 62 h (by decide)
 have e3:pre (c::(r++u)) [45,62]=pre (c::r) [45,62]:=zJh c r u 45 62 h (by decide)
 have e4:pre (c::(r++u)) [60,61]=pre (c::r) [60,61]:=zJh c r u 60 61 h (by decide)
 have e5:SA.find? (pre (c::(r++u)))=SA.find? (pre (c::r)):=by
  simp only[SA,List.find?_cons,e1,e2,e3,e4,List.find?_nil]
 rw[e,e5]
theorem tk_ext{s:List UInt8}{k:Int}{x r:List UInt8}(u:List UInt8)(hu:bd u)(h:tk s=some (k,x,r)):tk (s++u)=some (k,x,r++u):=by
 match s,h with
 |[],h=>simp[tk] at h
 |c::t,h=>
  have fin: ∀(p:UInt8->Bool),(∀c r,u=c::r->p c=false)->cw p (c::(t++u)) 0=cw p (c::t) 0:=fun p hp=>by
   have:=cw_ext p (c::t) u hp
   rwa [List.cons_append] at this
  have tkd: ∀N,N<=(c::t).length->(c::(t++u)).take N=(c::t).take N∧(c::(t++u)).drop N=(c::t).drop N++u:=fun N hN=>by
   rw[<-List.cons_append]
   exact⟨List.take_append_of_le_length hN,List.drop_append_of_le_length hN⟩
  rw[List.cons_append,tk.eq_def]
  rw[tk.eq_def] at h
  dsimp only at h ⊢
  by_cases h1:(smB c||caB c)=true
  ·rw[if_pos h1] at h ⊢
   have hle:=(cw_le inB (c::t) 0 (by simp)).2
   rw[fin inB (fun c r e=>(bd_inB hu c r e).1),(tkd _ hle).1,(tkd _ hle).2]
   by_cases h2:24<cw inB (c::t) 0
   ·rw[if_pos h2] at h;cases h
   ·rw[if_neg h2] at h ⊢;cases h;rfl
  rw[if_neg h1] at h ⊢
  by_cases h2:c=39
  ·rw[if_pos h2] at h ⊢
   match t,h,tkd with
   |[],h,_=>cases h
   |d::t,h,tkd=>
    dsimp only[List.cons_append] at h tkd ⊢
    have fin2:cw inB (d::(t++u)) 0=cw inB (d::t) 0:=by
     have:=cw_ext inB (d::t) u (fun c r e=>(bd_inB hu c r e).1)
     rwa [List.cons_append] at this
    rw[fin2]
    by_cases h3:smB d=true
    ·rw[if_pos h3] at h ⊢
     have hle:=(cw_le inB (d::t) 0 (by simp)).2
     have hle':cw inB (d::t) 0+1<=(c::d::t).length:=by simp at hle ⊢;omega
     rw[(tkd _ hle').1,(tkd _ hle').2]
     by_cases h4:24<cw inB (d::t) 0+1
     ·rw[if_pos h4] at h;cases h
     ·rw[if_neg h4] at h ⊢;cases h;rfl
    ·rw[if_neg h3] at h;cases h
  rw[if_neg h2] at h ⊢
  by_cases h3:diB c=true
  ·rw[if_pos h3] at h ⊢
   have hle:=(cw_le diB (c::t) 0 (by simp)).2
   rw[fin diB (fun c r e=>(bd_inB hu c r e).2),(tkd _ hle).1,(tkd _ hle).2]
   split at h
   ·rename_i h4
    rw[if_pos h4];cases h;rfl
   ·cases h
  rw[if_neg h3] at h ⊢
  by_cases h4:c=34
  ·rw[if_pos h4] at h ⊢
   cases hl:lt t with
   |none=>rw[hl] at h;cases h
   |some q=>
    obtain⟨m,rest⟩:=q
    rw[hl] at h
    cases h
    obtain⟨a1,a2⟩:=lt_sound _ t _ _ (Nat.le_refl _) hl
    have:lt (t++u)=some (m,rest++u):=by
     rw[a2,List.append_assoc]
     exact lt_qs (rest++u) m a1
    rw[this];rfl
  rw[if_neg h4] at h ⊢
  have hsy:=sy_ext c t u hu
  rw[List.cons_append] at hsy
  rw[hsy]
  have hle:=(zIU c t (fuel:=40) (Nat.le_refl _)).2.1
  rw[(tkd _ hle).2]
  split at h
  ·cases h
  ·rename_i h5;rw[if_neg h5];cases h;rfl
theorem skp_ext(u:List UInt8)(hu:bd u): ∀(n:Nat)(s s':List UInt8),s.length<=n->skp s=some s'->skp (s++u)=if s'=[] then skp u else some (s'++u):=by
 intro n
 induction n using Nat.strongRecOn with
 |_ n ih=>
 intro s s' hs h
 match s,hs,h with
 |[],hs,h=>rw[skp_nil] at h;cases h;rfl
 |c::t,hs,h=>
  simp only[List.length_cons] at hs
  cases hb:blank c
  case true=>
   rw[zIN hb] at h
   rw[List.cons_append,zIN hb]
   exact ih (n-1) (by omega) t s' (by omega) h
  cases hp:pre (c::t) [40,42]
  case true=>
   obtain⟨r,hr⟩:=(pre2 _ _ _).1 hp
   rw[hr] at h ⊢
   have hrl:=congrArg List.length hr
   simp only[List.length_cons] at hrl
   rw[skp_cmt] at h
   rw[List.cons_append,List.cons_append,skp_cmt]
   cases hc:cmt 1 r with
   |none=>rw[hc] at h;cases h
   |some r'=>
    rw[hc,zC3] at h
    rw[cmt_ext u _ 1 r r' (Nat.le_refl _) hc,zC3]
    have:=cmt_len _ _ _ _ (Nat.le_refl _) hc
    exact ih (n-1) (by omega) r' s' (by omega) h
  ·rw[zKE hb hp] at h
   cases h
   rw[if_neg (by simp)]
   have:=zJh c t u 40 42 hu (by decide)
   rw[hp] at this
   rw[List.cons_append] at this ⊢
   exact zKE hb this
theorem Toks.ext{s:List UInt8}{l:List (Int×List UInt8×List UInt8)}(u:List UInt8)(hu:bd u){lu:List (Int×List UInt8×List UInt8)}(h2:Toks u lu)(h:Toks s l):
 Toks (s++u) (l.dropLast.map (fun q=>(q.1,q.2.1,q.2.2++u))++lu):=by
 induction h with
 |@done s h=>
  have e:=skp_ext u hu _ s [] (Nat.le_refl _) h
  rw[if_pos rfl] at e
  simp only[List.dropLast_singleton,List.map_nil,List.nil_append]
  cases h2 with
  |done g=>exact .done (e.trans g)
  |next g g1 g2 g3=>exact .next (e.trans g) g1 g2 g3
 |@next s s' r x k l h h1 hk h3 ih=>
  have e:=skp_ext u hu _ s s' (Nat.le_refl _) h
  rw[if_neg h1] at e
  have hl:l≠[]:=by cases h3<;>simp
  rw[List.dropLast_cons_of_ne_nil hl,List.map_cons,List.cons_append]
  exact .next e (by simp[h1]) (tk_ext u hu hk) ih
theorem Toks.last{s:List UInt8}{l:List (Int×List UInt8×List UInt8)}(h:Toks s l): ∃l',l=l'++[(8,[],[])]:=by
 induction h with
 |done h=>exact⟨[],rfl⟩
 |next h h1 h2 h3 ih=>obtain⟨l',rfl⟩:=ih;exact⟨_::l',rfl⟩
theorem Toks.skip{u t:List UInt8}{l:List (Int×List UInt8×List UInt8)}(h:skp u=skp t)(h2:Toks t l):Toks u l:=by
 cases h2 with
 |done g=>exact .done (h.trans g)
 |next g g1 g2 g3=>exact .next (h.trans g) g1 g2 g3
theorem sy_first{c:UInt8}{r:List UInt8}(h:sy (c::r)≠[]):(smB c||caB c)=false∧c≠39∧diB c=false∧c≠34∧blank c=false:=by
 have key: ∀d∈([58,61,45,60]++SB:List UInt8),(smB d||caB d)=false∧d≠39∧diB d=false∧d≠34∧blank d=false:=by decide
 refine key c ?_
 rw[sy] at h
 split at h
 ·exact(h rfl).elim
 split at h
 ·rename_i x hx
  have h1:=List.find?_some hx
  have h2:=List.mem_of_find?_eq_some hx
  simp only[SA,List.mem_cons,List.not_mem_nil,or_false] at h2
  rcases h2 with rfl|rfl|rfl|rfl<;>obtain⟨q,hq⟩:=(pre2 _ _ _).1 h1<;>cases hq<;>simp
 ·split at h
  ·rename_i h3
   have:c∈SB:=by
    refine Classical.byContradiction fun hn=>?_
    have hno: ∀l:List UInt8,c∉l->Lib.indexByte l c= -1:=by
     intro l
     induction l with
     |nil=>intro _;rfl
     |cons b l ih=>
      intro hb
      have hb1: ¬b=c:=fun e=>hb (by rw[e];exact zq9 ..)
      have hb2:c∉l:=fun e=>hb (zqc _ e)
      simp[Lib.indexByte,hb1,ih hb2]
    have:=hno SB hn
    omega
   exact List.mem_append_right _ this
  ·exact(h rfl).elim
theorem zKA{s x r:List UInt8}{k:Int}(h:tk s=some (k,x,r)):(k=1∨k=2∨k=3∨k=4∨k=5∨k=6∨k=7)∧(k≠5->s=x++r)∧s≠[]∧skp s=some s∧(k=7->sy s=x):=by
 match s,h with
 |[],h=>simp[tk] at h
 |c::t,h=>
  have hsk:blank c=false->pre (c::t) [40,42]=false->skp (c::t)=some (c::t):=zKE
  have hp:c≠40->pre (c::t) [40,42]=false:=fun hc=>by
   cases hh:pre (c::t) [40,42]
   ·rfl
   ·obtain⟨q,hq⟩:=(pre2 _ _ _).1 hh
    cases hq;exact(hc rfl).elim
  have bl: ∀c:UInt8,blank c=true->c=32∨c=9∨c=10:=fun c h=>by
   unfold blank at h
   simpa using h
  rw[tk.eq_def] at h
  dsimp only at h
  by_cases h1:(smB c||caB c)=true
  ·rw[if_pos h1] at h
   have n40:c≠40:=fun e=>by subst e;revert h1;decide
   have nb:blank c=false:=by
    cases hb:blank c
    ·rfl
    ·rcases bl c hb with rfl|rfl|rfl<;>(revert h1;decide)
   split at h
   ·cases h
   ·simp only[Option.some.injEq,Prod.mk.injEq] at h
    obtain⟨rfl,rfl,rfl⟩:=h
    refine⟨?_,fun _=>(List.take_append_drop _ _).symm,by simp,hsk nb (hp n40),fun e=>?_⟩
    ·split
     ·simp
     ·split<;>simp
    ·split at e
     ·omega
     ·split at e<;>omega
  rw[if_neg h1] at h
  by_cases h2:c=39
  ·subst h2
   rw[if_pos rfl] at h
   have n40:(39:UInt8)≠40:=by decide
   split at h
   ·cases h
   ·split at h
    ·split at h
     ·cases h
     ·simp only[Option.some.injEq,Prod.mk.injEq] at h
      obtain⟨rfl,rfl,rfl⟩:=h
      exact⟨by simp,fun _=>(List.take_append_drop _ _).symm,by simp,hsk rfl (hp n40),fun e=>by omega⟩
    ·cases h
  rw[if_neg h2] at h
  by_cases h3:diB c=true
  ·rw[if_pos h3] at h
   have n40:c≠40:=fun e=>by subst e;revert h3;decide
   have nb:blank c=false:=by
    cases hb:blank c
    ·rfl
    ·rcases bl c hb with rfl|rfl|rfl<;>(revert h3;decide)
   split at h
   ·simp only[Option.some.injEq,Prod.mk.injEq] at h
    obtain⟨rfl,rfl,rfl⟩:=h
    exact⟨by simp,fun _=>(List.take_append_drop _ _).symm,by simp,hsk nb (hp n40),fun e=>by omega⟩
   ·cases h
  rw[if_neg h3] at h
  by_cases h4:c=34
  ·subst h4
   rw[if_pos rfl] at h
   cases hl:lt t with
   |none=>rw[hl] at h;cases h
   |some q=>
    rw[hl] at h
    simp only[Option.map_some,Option.some.injEq,Prod.mk.injEq] at h
    obtain⟨rfl,rfl,rfl⟩:=h
    exact⟨by simp,fun e=>(e rfl).elim,by simp,hsk rfl (hp (by decide)),fun e=>by omega⟩
  rw[if_neg h4] at h
  obtain⟨_,y2,y3⟩:=zIU c t (fuel:=40) (Nat.le_refl _)
  split at h
  ·cases h
  ·rename_i h5
   have hf:=sy_first h5
   simp only[Option.some.injEq,Prod.mk.injEq] at h
   obtain⟨rfl,rfl,rfl⟩:=h
   refine⟨by simp,fun _=>?_,by simp,hsk hf.2.2.2.2 ?_,fun _=>rfl⟩
   ·have:=(List.take_append_drop (sy (c::t)).length (c::t)).symm
    rw[y3] at this
    exact this
   ·cases hh:pre (c::t) [40,42]
    ·rfl
    ·rw[sy,if_pos hh] at h5;exact(h5 rfl).elim
theorem tk_sy{c:UInt8}{t:List UInt8}(h:sy (c::t)≠[]):tk (c::t)=some (7,sy (c::t),(c::t).drop (sy (c::t)).length):=by
 obtain⟨a1,a2,a3,a4,_⟩:=sy_first h
 rw[tk.eq_def]
 dsimp only
 rw[if_neg (by rw[a1];simp),if_neg a2,if_neg (by rw[a3];simp),if_neg a4,if_neg h]
theorem tk_text{s x r:List UInt8}{k:Int}(hs:s.length<=100000)(h:tk s=some (k,x,r)):x.length<=s.length:=by
 by_cases h5:k=5
 ·subst h5
  match s,h with
  |[],h=>simp[tk] at h
  |c::t,h=>
   obtain⟨L,l1,l2⟩:=zIZ (c::t) hs 0 (by simp) (fuel:=(c::t).length+100) (Nat.le_refl _)
   rw[tk.eq_def] at h
   dsimp only at h
   split at h
   ·split at h
    ·cases h
    ·simp only[Option.some.injEq,Prod.mk.injEq] at h;rw[<-h.2.1,List.length_take];omega
   split at h
   ·split at h
    ·cases h
    ·split at h
     ·split at h
      ·cases h
      ·simp only[Option.some.injEq,Prod.mk.injEq] at h;rw[<-h.2.1,List.length_take];omega
     ·cases h
   split at h
   ·split at h
    ·simp only[Option.some.injEq,Prod.mk.injEq] at h;rw[<-h.2.1,List.length_take];omega
    ·cases h
   split at h
   ·cases hl:lt t with
    |none=>rw[hl] at h;cases h
    |some q=>
     obtain⟨m,rest⟩:=q
     rw[hl] at h
     simp only[Option.map_some,Option.some.injEq,Prod.mk.injEq] at h
     obtain⟨_,rfl,rfl⟩:=h
     obtain⟨_,a2⟩:=lt_sound _ t _ _ (Nat.le_refl _) hl
     have:=qs_ge m
     rw[a2]
     simp
     omega
   ·split at h
    ·cases h
    ·simp only[Option.some.injEq,Prod.mk.injEq] at h
     obtain⟨_,y2,_⟩:=zIU c t (fuel:=40) (Nat.le_refl _)
     rw[<-h.2.1];exact y2
 ·have:=(zKA h).2.1 h5
  rw[this];simp
theorem zJ6{fuel:Nat}(h:200<=fuel):zFf fuel=some true:=by
 obtain⟨g,rfl⟩: ∃g,fuel=g+200:=⟨fuel-200,by omega⟩
 kernel_rfl
abbrev Tq:=Int×List UInt8×List UInt8
def tks(l:List Tq):List Tk:=l.map fun q=>(q.1,q.2.1)
theorem tks_tokOf(s:List UInt8)(l:List Tq):(l.map (tokOf s)).map ktk=tks l:=by rw[List.map_map];rfl
theorem Toks.fin{s:List UInt8}{l:List Tq}(hs:s.length<=16384)(h:Toks s l):PT.Fin (tks l):=by
 induction h with
 |done h=>rfl
 |@next s s' r x k l h h1 h2 h3 ih=>
  have a1:=skp_len (by omega) h
  have a2:=tk_len (by omega) h2
  have a3:=tk_text (by omega) h2
  have a4:=(zKA h2).1
  have:=ih (by omega)
  have hl:l≠[]:=by cases h3<;>simp
  cases l with
  |nil=>exact(hl rfl).elim
  |cons q l=>exact⟨by dsimp only;omega,by dsimp only;omega,this⟩
def Tc(cat:Int)(n:Nat):PT zKr:=if eqI cat 1 then T.typ n else if eqI cat 2 then T.pattern n else T.expr n
theorem Tc_wp(cat:Int){n r:Nat}(hn:30*r+20100<=n)(h1:1<=r)(h2:r<=20000):(Tc cat n).wp r (Ate r):=by
 unfold Tc
 split
 ·exact(types_wp n).2.2.2 r (by omega) h1 h2
 ·split
  ·exact(pats_wp n).2 r (by omega) h1 h2
  ·exact(exprs_wp 20001 (by omega) n).2.2.2.2.1 r (by omega) h1 h2
theorem Tc_le(cat:Int)(n:Nat):PT.le (Tc cat n) (Tc cat (n+1)):=by
 unfold Tc
 exact PT.le_ite _ (types_le n).2.2.2 (PT.le_ite _ (pats_le n).2 (exprs_le n).2.2.2.2.1)
theorem Tc_mono(cat:Int){n m:Nat}(h:n<=m){l:List Tk}{r:Option zKr×List Tk}(hr:(Tc cat n).go l=some r):(Tc cat m).go l=some r:=by
 induction h with
 |refl=>exact hr
 |step h ih=>exact PT.le_go (Tc_le cat _) l r ih
theorem Tc_go(cat:Int){l:List Tk}(hl:PT.Fin l)(h2:l.length<=20000): ∃o r,PT.Fin r∧∀n,30*l.length+20100<=n->(Tc cat n).go l=some (o,r):=by
 have h1:1<=l.length:=by cases l;exact hl.elim;simp
 obtain⟨o,r,h,hr,-⟩:=PT.wp_go _ l hl (Tc_wp cat (Nat.le_refl _) h1 h2)
 exact⟨o,r,hr,fun n hn=>Tc_mono cat hn h⟩
theorem run_Tc(n:Nat){cat:Int}(hc:cat=1∨cat=2∨cat=3)(w:zKm):zCX n cat w=zBC ((Tc cat n).run w):=by
 unfold zCX Tc
 rcases hc with rfl|rfl|rfl
 ·show zBC (zAu n w)=zBC ((T.typ n).run w)
  rw[(zJ9 n).2.2.2 w]
 ·show zBC (zAh n w)=zBC ((T.pattern n).run w)
  rw[(pats_run n).2 w]
 ·show zBC (zAW n w)=zBC ((T.expr n).run w)
  rw[(exprs_run n).2.2.2.2.1 w]
def zS:zKr:=zKr.mk 0 0 [] [] []
theorem whole_err{n:Nat}{cat:Int}{s:List UInt8}{r:List zKp×zKq×Int}(h:zDV n s=some r)(he:r.2.2≠0):zAb n cat s=some (zS,r.2.1,r.2.2):=by
 rw[zAb,h]
 simp only[Option.bind_some]
 rw[show eqI r.2.2 0=false from decide_eq_false he];rfl
theorem whole_run{n:Nat}{cat:Int}{s:List UInt8}(hc:cat=1∨cat=2∨cat=3){L:List zKp}{p:zKq}(h:zDV n s=some (L,p,0))(hL:L.length<=100000){o:Option zKr}{A:List Tk}{t:Tk}{B:List Tk}(hA:L.map ktk=A++t::B)
 (hg:(Tc cat n).go (L.map ktk)=some (o,t::B)):
 (∀v,o=some v->t.1=8->zAb n cat s=(zCu n cat v).bind fun b=>if !b then some (zS,zKq.mk 0 0,5) else some (v,zKq.mk 0 0,0))∧
 ((o=none∨t.1≠8)->∃x,L[A.length]? =some x∧zAb n cat s=some (zS,x.At,if t.1=8 then 4 else 3)):=by
 have hlen:=congrArg List.length hA
 simp only[zq4,List.length_append,List.length_cons] at hlen
 have hrun:=PT.run_go L (by omega) (Tc cat n) 0 (by omega)
 rw[List.drop_zero,hg] at hrun
 obtain⟨x,hx⟩: ∃x,L[A.length]? =some x:=⟨_,zq2 (by omega)⟩
 have hk:ktk x=t:=by
  have:(L.map ktk)[A.length]? =some t:=by rw[hA];simp
  rw[List.getElem?_map,hx] at this
  exact zqa this
 have hix:idx L ((L.length-(B.length+1):Nat):Int)=some x:=by
  rw[show L.length-(B.length+1)=A.length by omega,idx,if_pos (by omega)]
  simpa using hx
 have h0:(⟨L,0⟩:zKm)=zKm.mk L ((0:Nat):Int):=rfl
 have hw:zAb n cat s=(zBC ((Tc cat n).run (zKm.mk L ((0:Nat):Int)))).bind fun v10=>
  (if !v10.2.1 then some true else (zAM 8 v10.2.2).bind fun v15=>some (!v15):Option Bool).bind fun b17=>
  if b17 then (idx v10.2.2.l v10.2.2.at_).bind fun x20=>(zB0 v10.2.2).bind fun v24=>some (zS,x20.At,v24)
  else (zCu n cat v10.1).bind fun b=>if !b then some (zS,zKq.mk 0 0,5) else some (v10.1,zKq.mk 0 0,0):=by
  rw[zAb,h,<-run_Tc n hc];rfl
 rw[hw,hrun]
 have hkind:zAM 8 (zKm.mk L ((L.length-(B.length+1):Nat):Int))=some (eqI t.1 8):=by
  rw[zAM]
  simp only[hix,Option.bind_some]
  rw[<-hk];rfl
 have href:zB0 (zKm.mk L ((L.length-(B.length+1):Nat):Int))=some (if t.1=8 then 4 else 3):=by
  rw[zB0,hkind]
  simp only[Option.bind_some]
  by_cases h8:t.1=8
  ·rw[show eqI t.1 8=true from zqb h8,if_pos rfl,if_pos h8]
  ·rw[show eqI t.1 8=false from decide_eq_false h8,if_neg (by decide),if_neg h8]
 cases o with
 |none=>
  refine⟨fun v hv=>(by cases hv),fun _=>⟨x,hx,?_⟩⟩
  simp only[Option.map_some,PT.back,zBC,Option.bind_some,Sum.elim_inl,Bool.not_false,if_true,List.length_cons,hix,href]
 |some v=>
  have hb:(zBC (some (PT.back L (some v,t::B))))=some (v,true,zKm.mk L ((L.length-(B.length+1):Nat):Int)):=rfl
  simp only[Option.map_some,hb,Option.bind_some,Bool.not_true,Bool.false_eq_true,if_false,hkind]
  by_cases h8:t.1=8
  ·rw[show eqI t.1 8=true from zqb h8]
   refine⟨fun v' hv _=>?_,fun hh=>?_⟩
   ·cases hv;rfl
   ·rcases hh with hh|hh
    ·cases hh
    ·exact(hh h8).elim
  ·rw[show eqI t.1 8=false from decide_eq_false h8]
   refine⟨fun v' hv hh=>(h8 hh).elim,fun _=>⟨x,hx,?_⟩⟩
   simp only[Bool.not_false,if_true,hix,href,Option.bind_some]
theorem whole_ok{s:List UInt8}(hs:s.length<=16384){l:List Tq}(h:Toks s l){cat:Int}(hc:cat=1∨cat=2∨cat=3): ∃o A t B,tks l=A++t::B∧(∃N,∀n,N<=n->(Tc cat n).go (tks l)=some (o,t::B))∧
 ((∃v b,o=some v∧t=(8,[])∧B=[]∧Ev (fun n=>zCu n cat v) b∧Ev (fun n=>zAb n cat s) (if b then (v,zKq.mk 0 0,0) else (zS,zKq.mk 0 0,5)))∨
  (∃q,l[A.length]? =some q∧(q.1,q.2.1)=t∧(o=none∨t.1≠8)∧Ev (fun n=>zAb n cat s) (zS,(tokOf s q).At,if t.1=8 then 4 else 3))):=by
 have hfin:=h.fin hs
 have hlen:=h.len (by omega)
 have htl:(tks l).length=l.length:=zq4 ..
 obtain⟨o,r,hr,hgo⟩:=Tc_go cat hfin (by omega)
 obtain⟨A,hA⟩:=PT.go_drop _ _ _ _ (hgo _ (Nat.le_refl _))
 cases r with
 |nil=>exact hr.elim
 |cons t B=>
 have hT: ∀n,s.length+100<=n->∃p,zDV n s=some (l.map (tokOf s),p,0):=fun n hn=>by
  obtain⟨v,v1,v2⟩:=zJW s hs hn
  rcases v2 with ⟨e0,l',t1,t2⟩|⟨_,_,t1,_⟩
  ·have:=t1.inj h;subst this
   refine⟨v.2.1,?_⟩
   rw[v1,<-t2,<-e0]
  ·exact(t1 _ h).elim
 have hw: ∀n,s.length+100+(30*(tks l).length+20100)<=n->(∀v,o=some v->t.1=8->zAb n cat s=(zCu n cat v).bind fun b=>if !b then some (zS,zKq.mk 0 0,5) else some (v,zKq.mk 0 0,0))∧
  ((o=none∨t.1≠8)->∃x,(l.map (tokOf s))[A.length]? =some x∧zAb n cat s=some (zS,x.At,if t.1=8 then 4 else 3)):=fun n hn=>by
  obtain⟨p,hp⟩:=hT n (by omega)
  exact whole_run hc hp (by rw[zq4];omega) (A:=A) (t:=t) (B:=B) (o:=o) (by rw[tks_tokOf];exact hA) (by rw[tks_tokOf];exact hgo n (by omega))
 refine⟨o,A,t,B,hA,⟨_,hgo⟩,?_⟩
 by_cases h8:t.1=8∧∃v,o=some v
 ·obtain⟨h8,v,rfl⟩:=h8
  left
  obtain⟨b,hb,-⟩:=Valid_ev cat v
  have ht:t=(8,[])∧B=[]:=by
   cases B with
   |nil=>exact⟨hr,rfl⟩
   |cons u B=>exact(hr.1 h8).elim
  refine⟨v,b,rfl,ht.1,ht.2,hb,?_⟩
  obtain⟨N,hN⟩:=hb
  refine⟨max N (s.length+100+(30*(tks l).length+20100)),fun n hn=>?_⟩
  show zAb n cat s=_
  rw[(hw n (by omega)).1 v rfl h8,show zCu n cat v=some b from hN n (by omega)]
  cases b<;>rfl
 ·right
  have ho:o=none∨t.1≠8:=by
   cases o with
   |none=>exact .inl rfl
   |some v=>exact .inr fun e=>h8 ⟨e,v,rfl⟩
  have hAl:A.length<l.length:=by
   have:=congrArg List.length hA
   simp only[List.length_append,List.length_cons] at this
   omega
  refine⟨l[A.length],zq2 hAl,?_,ho,s.length+100+(30*(tks l).length+20100),fun n hn=>?_⟩
  ·have:(tks l)[A.length]? =some t:=by rw[hA];simp
   rw[tks,List.getElem?_map,zq2 hAl] at this
   exact zqa this
  ·obtain⟨x,hx,hwx⟩:=(hw n hn).2 ho
   rw[List.getElem?_map,zq2 hAl] at hx
   have:=zqa hx
   show zAb n cat s=_
   rw[hwx,<-this]
theorem whole_refused{s:List UInt8}(hs:s.length<=16384){l:List Tq}(h:Toks s l){cat:Int}(hc:cat=1∨cat=2∨cat=3){o:Option zKr}{A:List Tk}{t:Tk}{B:List Tk}(hA:tks l=A++t::B)
 (hg: ∃N,∀n,N<=n->(Tc cat n).go (tks l)=some (o,t::B)) (ho:o=none∨t.1≠8):
 ∃q,l[A.length]? =some q∧(q.1,q.2.1)=t∧Ev (fun n=>zAb n cat s) (zS,(tokOf s q).At,if t.1=8 then 4 else 3):=by
 obtain⟨o2,A2,t2,B2,h2,⟨N2,g2⟩,hw⟩:=whole_ok hs h hc
 obtain⟨N,hg⟩:=hg
 have e:=(hg (max N N2) (by omega)).symm.trans (g2 _ (by omega))
 cases e
 have hAA:A=A2:=by
  have:=hA.symm.trans h2
  exact List.append_cancel_right this
 subst hAA
 rcases hw with ⟨v,b,rfl,h8,_⟩|⟨q,q1,q2,_,q4⟩
 ·rcases ho with ho|ho
  ·cases ho
  ·rw[h8] at ho;exact(ho rfl).elim
 ·exact⟨q,q1,q2,q4⟩
def EV(f:Nat->PT zKr)(ts:List Tk)(v:zKr)(r:List Tk):Prop:= ∃N,∀n,N<=n->(f n).go ts=some (some v,r)
abbrev lp:Tk:=(7,[40])
abbrev rp:Tk:=(7,[41])
theorem zEh{α:Type}{s:List UInt8}{t:Tk}(h:isB t s=false)(f:Bool->PT α)(r:List Tk):((T.skip s).bind f).go (t::r)=(f false).go (t::r):=by
 simp only[T.skip,PT.bind,PT.go,h];rfl
theorem go_skip_yes{α:Type}{s:List UInt8}{t:Tk}(h:isB t s=true)(f:Bool->PT α)(r:List Tk):((T.skip s).bind f).go (t::r)=(f true).go r:=by
 simp only[T.skip,PT.bind,PT.go,h];rfl
theorem go_want{α:Type}{s:List UInt8}{t:Tk}(h:isB t s=true)(f:Unit->PT α)(r:List Tk):((T.want s).bind f).go (t::r)=(f ()).go r:=by
 simp only[T.want,PT.bind,PT.go,h];rfl
theorem zFT{α β:Type}{x:PT α}{f:α->PT β}{ts r:List Tk}{v:α}(h:x.go ts=some (some v,r)):(x.bind f).go ts=(f v).go r:=by
 rw[PT.go_bind,h];rfl
theorem go_kd_no{α:Type}{k:Int}{t:Tk}(h:eqI t.1 k=false)(f:Bool->PT α)(r:List Tk):(PT.kd k f).go (t::r)=(f false).go (t::r):=by simp only[PT.go,h]
theorem isB_cases{t:Tk}{s:List UInt8}(h:isB t s=true):t=(6,s)∨t=(7,s):=by
 simp only[isB,zq7,Bool.or_eq_true,eqI,eqS,decide_eq_true_eq] at h
 obtain⟨h1,h2⟩:=h
 obtain⟨a,b⟩:=t
 dsimp only at h1 h2
 subst h2
 rcases h1 with rfl|rfl<;>simp
theorem expr_star(n:Nat)(r:List Tk):(T.expr (n+12)).go ((7,[42])::r)=some (none,(7,[42])::r):=by kernel_rfl
theorem expr_rp6(n:Nat)(r:List Tk):(T.expr (n+12)).go ((6,[41])::r)=some (none,(6,[41])::r):=by kernel_rfl
theorem expr_rp7(n:Nat)(r:List Tk):(T.expr (n+12)).go ((7,[41])::r)=some (none,(7,[41])::r):=by kernel_rfl
theorem expr_pack6(n:Nat)(r:List Tk):(T.expr (n+12)).go ((6,[112,97,99,107])::r)=some (none,(6,[112,97,99,107])::r):=by kernel_rfl
theorem expr_pack7(n:Nat)(r:List Tk):(T.expr (n+12)).go ((7,[112,97,99,107])::r)=some (none,(7,[112,97,99,107])::r):=by kernel_rfl
theorem expr_first{ts:List Tk}{v:zKr}{r:List Tk}(h:EV T.expr ts v r): ∃t ts',ts=t::ts'∧isB t [41]=false∧isB t [112,97,99,107]=false∧t≠(7,[42]):=by
 obtain⟨N,h⟩:=h
 have h:=h (N+12) (by omega)
 cases ts with
 |nil=>
  have:=PT.eats_go _ (zKd (N+12)).2.2.2.1 _ _ _ h
  simp at this
 |cons t ts'=>
  refine⟨t,ts',rfl,?_,?_,?_⟩
  ·cases hb:isB t [41] with
   |false=>rfl
   |true=>
    rcases isB_cases hb with rfl|rfl
    ·rw[expr_rp6] at h;cases h
    ·rw[expr_rp7] at h;cases h
  ·cases hb:isB t [112,97,99,107] with
   |false=>rfl
   |true=>
    rcases isB_cases hb with rfl|rfl
    ·rw[expr_pack6] at h;cases h
    ·rw[expr_pack7] at h;cases h
  ·rintro rfl
   rw[expr_star] at h;cases h
theorem inside_ev{A:List Tk}{v:zKr}{B:List Tk}(h:EV T.expr (A++[(8,[])]) v [(8,[])]):EV T.inside (A++rp::B) v B:=by
 obtain⟨t,ts',e,b1,b2,b3⟩:=expr_first h
 obtain⟨N,h⟩:=h
 have hA: ∃A',A=t::A':=by
  cases A with
  |nil=>
   exfalso
   have:=PT.eats_go _ (zKd N).2.2.2.1 _ _ _ (h N (Nat.le_refl _))
   simp at this
  |cons a A=>exact⟨A,by cases e;rfl⟩
 obtain⟨A',hA⟩:=hA
 refine⟨N+3,fun n hn=>?_⟩
 obtain⟨m,rfl⟩: ∃m,n=m+2:=⟨n-2,by omega⟩
 have hc:=PT.go_close [] B _ (zKd (m+1)).1.2.2.2.2.1 A v (h (m+1) (by omega))
 rw[T.inside]
 rw[show A++rp::B=t::(A'++rp::B) by rw[hA];rfl,zEh b1,if_neg (by decide),zEh b2,if_neg (by decide),
  show t::(A'++rp::B)=A++rp::B by rw[hA];rfl,zFT hc,zEh (by decide),if_neg (by decide),T.sep,PT.bind_assoc,zEh (by decide),if_neg (by decide)]
 rfl
theorem zIs{A:List Tk}{v:zKr}{B:List Tk}(h:EV T.expr (A++[(8,[])]) v [(8,[])]):EV T.atom (lp::(A++rp::B)) v B:=by
 obtain⟨N,h⟩:=inside_ev (B:=B) h
 refine⟨N+1,fun n hn=>?_⟩
 obtain⟨m,rfl⟩: ∃m,n=m+1:=⟨n-1,by omega⟩
 rw[T.atom,go_kd_no (by decide),if_neg (by decide),go_kd_no (by decide),if_neg (by decide)]
 have hn:(T.named.bind fun b=>if b=true then (T.path m true).bind fun v=>if v.2=true then PT.ret (zKr.mk 23 0 [] v.1 []) else PT.ret (zKr.mk 24 0 [] v.1 []) else
  (T.skip [108,101,116]).bind fun b=>if b=true then (T.let m).bind .ret else (T.skip [99,97,115,101]).bind fun b=>if b=true then (T.choice m).bind .ret else (T.want [40]).bind fun _=>(T.inside m).bind .ret:PT zKr).go (lp::(A++rp::B))=
  ((T.skip [108,101,116]).bind fun b=>if b=true then (T.let m).bind .ret else (T.skip [99,97,115,101]).bind fun b=>if b=true then (T.choice m).bind .ret else (T.want [40]).bind fun _=>(T.inside m).bind .ret:PT zKr).go (lp::(A++rp::B)):=rfl
 rw[hn,zEh (by decide),if_neg (by decide),zEh (by decide),if_neg (by decide),go_want (by decide),zFT (h m (by omega))]
 rfl
def Lv(l:Int)(ts:List Tk)(v:zKr)(r:List Tk):Prop:=EV (fun n=>T.level n l) ts v r
def LL(l:Int)(t:zKr)(ts:List Tk)(v:zKr)(r:List Tk):Prop:= ∃N,∀n k,N<=n->N<=k->(T.level_l1 (T.level n) l (l+1) k t).go ts=some (some v,r)
def opv(n:Int)(t:Tk):List (Int×List UInt8×Int)->Int
 |[]=>0
 |q::r=>if eqI n q.1&&isB t q.2.1 then q.2.2 else opv n t r
theorem go_ops{α:Type}(n:Int)(t:Tk)(r:List Tk)(f:Int->PT α): ∀L,((T.ops n L).bind f).go (t::r)=(f (opv n t L)).go (t::r)
 |[]=>rfl
 |q::L=>by
  have ih:=go_ops n t r f L
  rw[T.ops,opv]
  cases h:eqI n q.1 with
  |false=>simpa using ih
  |true=>
   simp only[if_true,Bool.true_and,PT.bind,PT.go]
   cases isB t q.2.1 with
   |false=>simpa using ih
   |true=>rfl
abbrev bin (c:Int) (x y:zKr):zKr:=zKr.mk 32 c [] [] [x,y]
theorem LL_no{l:Int}{t:zKr}{o:Tk}{r:List Tk}(h:opv l o OPS=0):LL l t (o::r) t (o::r):=⟨1,fun n k hn hk=>by
 obtain⟨k,rfl⟩: ∃m,k=m+1:=⟨k-1,by omega⟩
 rw[T.level_l1,go_ops,h,if_pos (by decide)];rfl⟩
theorem LL_right{l:Int}(hl:l=1∨l=2∨l=4){t:zKr}{o:Tk}{r:List Tk}{c:Int}(h:opv l o OPS=c)(h0:c≠0){u:zKr}{r':List Tk}(hu:Lv l r u r'):LL l t (o::r) (bin c t u) r':=by
 obtain⟨N,hu⟩:=hu
 refine⟨N+1,fun n k hn hk=>?_⟩
 obtain⟨k,rfl⟩: ∃m,k=m+1:=⟨k-1,by omega⟩
 rw[T.level_l1,go_ops,h,if_neg (by simp[eqI,h0])]
 show PT.go _ r=_
 have:=hu n (by omega)
 rcases hl with rfl|rfl|rfl
 ·rw[if_pos (by decide),zFT this];rfl
 ·rw[if_neg (by decide),if_pos (by decide),zFT this];rfl
 ·rw[if_neg (by decide),if_neg (by decide),if_pos (by decide),zFT this];rfl
theorem LL_once{t:zKr}{o:Tk}{r:List Tk}{c:Int}(h:opv 3 o OPS=c)(h0:c≠0){u:zKr}{r':List Tk}(hu:Lv 4 r u r'):LL 3 t (o::r) (bin c t u) r':=by
 obtain⟨N,hu⟩:=hu
 refine⟨N+1,fun n k hn hk=>?_⟩
 obtain⟨k,rfl⟩: ∃m,k=m+1:=⟨k-1,by omega⟩
 rw[T.level_l1,go_ops,h,if_neg (by simp[eqI,h0])]
 show PT.go _ r=_
 have:=hu n (by omega)
 rw[if_neg (by decide),if_neg (by decide),if_neg (by decide),if_pos (by decide),show(3:Int)+1=4 from rfl,zFT this];rfl
theorem LL_left{l:Int}(hl:l=5∨l=6){t:zKr}{o:Tk}{r:List Tk}{c:Int}(h:opv l o OPS=c)(h0:c≠0){u:zKr}{r':List Tk}(hu:Lv (l+1) r u r'){w:zKr}{r'':List Tk}(hw:LL l (bin c t u) r' w r''):LL l t (o::r) w r'':=by
 obtain⟨N,hu⟩:=hu
 obtain⟨N2,hw⟩:=hw
 refine⟨max N N2+1,fun n k hn hk=>?_⟩
 obtain⟨k,rfl⟩: ∃m,k=m+1:=⟨k-1,by omega⟩
 rw[T.level_l1,go_ops,h,if_neg (by simp[eqI,h0])]
 show PT.go _ r=_
 have:=hu n (by omega)
 have h2:=hw n k (by omega) (by omega)
 rcases hl with rfl|rfl
 ·rw[if_neg (by decide),if_neg (by decide),if_neg (by decide),if_neg (by decide),zFT this];exact h2
 ·rw[if_neg (by decide),if_neg (by decide),if_neg (by decide),if_neg (by decide),zFT this];exact h2
theorem Lv_of{l:Int}(h1:1<=l)(h6:l<=6){ts:List Tk}{v:zKr}{r:List Tk}(h:Lv (l+1) ts v r){w:zKr}{r':List Tk}(hw:LL l v r w r'):Lv l ts w r':=by
 obtain⟨N,h⟩:=h
 obtain⟨N2,hw⟩:=hw
 refine⟨max N N2+1,fun n hn=>?_⟩
 obtain⟨m,rfl⟩: ∃m,n=m+1:=⟨n-1,by omega⟩
 show(T.level (m+1) l).go ts=_
 rw[level_succ m l (by simp only[eqI,decide_eq_false_iff_not];omega) (by omega) (by omega),zFT (h m (by omega))]
 exact hw m m (by omega) (by omega)
theorem zHX{ts:List Tk}{v:zKr}{o:Tk}{r:List Tk}: ∀(d:Nat)(l:Int),1<=l->l+d<=7->(∀m:Int,l<=m->m<l+d->opv m o OPS=0)->Lv (l+d) ts v (o::r)->Lv l ts v (o::r)
 |0,l,h1,h7,hno,h=>by simpa using h
 |d+1,l,h1,h7,hno,h=>by
  have:=zHX d (l+1) (by omega) (by omega) (fun m g1 g2=>hno m (by omega) (by omega)) (by rw[show l+1+(d:Int)=l+((d+1:Nat):Int) by omega];exact h)
  exact Lv_of h1 (by omega) this (LL_no (hno l (Int.le_refl _) (by omega)))
theorem zJD{ts:List Tk}{v:zKr}{r:List Tk}(h:EV T.negation ts v r):Lv 7 ts v r:=by
 obtain⟨N,h⟩:=h
 refine⟨N+1,fun n hn=>?_⟩
 obtain⟨m,rfl⟩: ∃m,n=m+1:=⟨n-1,by omega⟩
 show(T.level (m+1) 7).go ts=_
 rw[zJr,zFT (h m (by omega))];rfl
theorem down7{ts:List Tk}{v:zKr}{o:Tk}{r:List Tk}(l:Int)(h1:1<=l)(h7:l<=7)(hno: ∀m:Int,l<=m->m<7->opv m o OPS=0)(h:Lv 7 ts v (o::r)):Lv l ts v (o::r):=by
 refine zHX (7-l).toNat l h1 (by omega) (fun m g1 g2=>hno m g1 (by omega)) ?_
 rw[show l+((7-l).toNat:Int)=7 by omega];exact h
def IsOp(o:Tk)(a c:Int):Prop:=1<=a∧a<=6∧c≠0∧opv a o OPS=c∧∀m:Int,m≠a->opv m o OPS=0
theorem Lv_bin{o:Tk}{a c:Int}(ho:IsOp o a c){ts:List Tk}{x:zKr}{ts1:List Tk}(hx:Lv 7 ts x (o::ts1)){y:zKr}{e:Tk}{r:List Tk}(hy:Lv 7 ts1 y (e::r))(he: ∀m:Int,(a<m∨(a=m∧a≠3))->m<7->opv m e OPS=0):Lv a ts (bin c x y) (e::r):=by
 obtain⟨h1,h6,h0,hc,hno⟩:=ho
 have hx':=down7 (a+1) (by omega) (by omega) (fun m g1 g2=>hno m (by omega)) hx
 refine Lv_of h1 h6 hx' ?_
 by_cases h3:a=3
 ·subst h3
  exact LL_once hc h0 (down7 4 (by decide) (by decide) (fun m g1 g2=>he m (.inl (by omega)) g2) hy)
 by_cases hr:a=1∨a=2∨a=4
 ·exact LL_right hr hc h0 (down7 a h1 (by omega) (fun m g1 g2=>he m (by omega) g2) hy)
 ·exact LL_left (by omega) hc h0 (down7 (a+1) (by omega) (by omega) (fun m g1 g2=>he m (by omega) g2) hy) (LL_no (he a (.inr ⟨rfl,h3⟩) (by omega)))
theorem Lv_leftward{o1 o2:Tk}{a b c d:Int}(h1:IsOp o1 a c)(h2:IsOp o2 b d)(hab:b<a∨(a=b∧5<=a)){ts ts1 ts2 r:List Tk}{x y z:zKr}{e:Tk}(hx:Lv 7 ts x (o1::ts1))(hy:Lv 7 ts1 y (o2::ts2))(hz:Lv 7 ts2 z (e::r))(he: ∀m:Int,opv m e OPS=0):
 Lv 1 ts (bin d (bin c x y) z) (e::r):=by
 have fin:Lv b ts (bin d (bin c x y) z) (e::r):=by
  obtain⟨b1,b6,b0,bc,bno⟩:=h2
  rcases hab with hab|⟨rfl,h5⟩
  ·have hl:=Lv_bin h1 hx hy (fun m g1 g2=>bno m (by omega))
   have hl':=zHX (a-(b+1)).toNat (b+1) (by omega) (by have:=h1.2.1;omega) (fun m g1 g2=>bno m (by omega)) (by rw[show b+1+((a-(b+1)).toNat:Int)=a by omega];exact hl)
   refine Lv_of b1 b6 hl' ?_
   by_cases h3:b=3
   ·subst h3
    exact LL_once bc b0 (down7 4 (by decide) (by decide) (fun m g1 g2=>he m) hz)
   by_cases hr:b=1∨b=2∨b=4
   ·exact LL_right hr bc b0 (down7 b b1 (by omega) (fun m g1 g2=>he m) hz)
   ·exact LL_left (by omega) bc b0 (down7 (b+1) (by omega) (by omega) (fun m g1 g2=>he m) hz) (LL_no (he b))
  ·obtain⟨a1,a6,a0,ac,ano⟩:=h1
   refine Lv_of a1 a6 (down7 (a+1) (by omega) (by omega) (fun m g1 g2=>ano m (by omega)) hx) ?_
   exact LL_left (by omega) ac a0 (down7 (a+1) (by omega) (by omega) (fun m g1 g2=>bno m (by omega)) hy) (LL_left (by omega) bc b0 (down7 (a+1) (by omega) (by omega) (fun m g1 g2=>he m) hz) (LL_no (he a)))
 refine zHX (b-1).toNat 1 (by decide) (by have:=h2.1;have:=h2.2.1;omega) (fun m g1 g2=>he m) ?_
 rw[show(1:Int)+((b-1).toNat:Int)=b by have:=h2.1;omega];exact fin
theorem Lv_rightward{o1 o2:Tk}{a b c d:Int}(h1:IsOp o1 a c)(h2:IsOp o2 b d)(hab:a<b∨(a=b∧(a=1∨a=2∨a=4))){ts ts1 ts2 r:List Tk}{x y z:zKr}{e:Tk}(hx:Lv 7 ts x (o1::ts1))(hy:Lv 7 ts1 y (o2::ts2))(hz:Lv 7 ts2 z (e::r))(he: ∀m:Int,opv m e OPS=0):
 Lv 1 ts (bin c x (bin d y z)) (e::r):=by
 have hr:=Lv_bin h2 hy hz (fun m g1 g2=>he m)
 have b6:=h2.2.1
 obtain⟨a1,a6,a0,ac,ano⟩:=h1
 have fin:Lv a ts (bin c x (bin d y z)) (e::r):=by
  refine Lv_of a1 a6 (down7 (a+1) (by omega) (by omega) (fun m g1 g2=>ano m (by omega)) hx) ?_
  by_cases hq:a=1∨a=2∨a=4
  ·refine LL_right hq ac a0 (zHX (b-a).toNat a a1 (by omega) (fun m g1 g2=>he m) ?_)
   rw[show a+((b-a).toNat:Int)=b by omega];exact hr
  ·have hb:Lv (a+1) ts1 (bin d y z) (e::r):=by
    refine zHX (b-(a+1)).toNat (a+1) (by omega) (by omega) (fun m g1 g2=>he m) ?_
    rw[show a+1+((b-(a+1)).toNat:Int)=b by omega];exact hr
   by_cases h3:a=3
   ·subst h3;exact LL_once ac a0 hb
   ·exact LL_left (by omega) ac a0 hb (LL_no (he a))
 refine zHX (a-1).toNat 1 (by decide) (by omega) (fun m g1 g2=>he m) ?_
 rw[show(1:Int)+((a-1).toNat:Int)=a by omega];exact fin
theorem Lv_unchained{o1 o2:Tk}{c d:Int}(h1:IsOp o1 3 c)(h2:IsOp o2 3 d){ts ts1 ts2:List Tk}{x y:zKr}(hx:Lv 7 ts x (o1::ts1))(hy:Lv 7 ts1 y (o2::ts2)):Lv 1 ts (bin c x y) (o2::ts2):=by
 have:=Lv_bin h1 hx hy (fun m g1 g2=>h2.2.2.2.2 m (by omega))
 exact zHX 2 1 (by decide) (by decide) (fun m g1 g2=>h2.2.2.2.2 m (by omega)) this
theorem Lv_one{o1:Tk}{a c:Int}(h1:IsOp o1 a c){ts ts1 r:List Tk}{x y:zKr}{e:Tk}(hx:Lv 7 ts x (o1::ts1))(hy:Lv 7 ts1 y (e::r))(he: ∀m:Int,opv m e OPS=0):Lv 1 ts (bin c x y) (e::r):=by
 have:=Lv_bin h1 hx hy (fun m g1 g2=>he m)
 refine zHX (a-1).toNat 1 (by decide) (by have:=h1.1;have:=h1.2.1;omega) (fun m g1 g2=>he m) ?_
 rw[show(1:Int)+((a-1).toNat:Int)=a by have:=h1.1;omega];exact this
theorem zHT{t:Tk}{ts:List Tk}(h1:isB t [102,110]=false)(h2:isB t [105,102]=false){v:zKr}{r:List Tk}(h:Lv 1 (t::ts) v r):EV T.expr (t::ts) v r:=by
 obtain⟨N,h⟩:=h
 refine⟨N+1,fun n hn=>?_⟩
 obtain⟨m,rfl⟩: ∃m,n=m+1:=⟨n-1,by omega⟩
 rw[T.expr,zEh h1,if_neg (by decide),zEh h2,if_neg (by decide),zFT (h m (by omega))];rfl
def zE6(t:Tk):Prop:=t.1≠4∧t.1≠5∧t.1≠1∧t.1≠2∧isB t [40]=false∧isB t [108,101,116]=false∧isB t [99,97,115,101]=false
theorem begins_no{α:Type}{t:Tk}(h:zE6 t)(f:Bool->PT α)(r:List Tk):(T.begins.bind f).go (t::r)=(f false).go (t::r):=by
 obtain⟨a1,a2,a3,a4,a5,a6,a7⟩:=h
 have e: ∀n:Int,t.1≠n->eqI t.1 n=false:=fun n h=>decide_eq_false h
 simp only[T.begins,PT.bind,zEy,PT.go,e _ a1,e _ a2,e _ a3,e _ a4,Bool.false_eq_true,if_false,T.anyOf,a5,a6,a7]
theorem begins_lp{α:Type}(f:Bool->PT α)(r:List Tk):(T.begins.bind f).go (lp::r)=(f true).go (lp::r):=rfl
def NL(t:zKr)(ts:List Tk)(v:zKr)(r:List Tk):Prop:= ∃N,∀n k,N<=n->N<=k->(T.negation_l1 (T.atom n) k t).go ts=some (some v,r)
theorem NL_no{t:zKr}{o:Tk}{r:List Tk}(h:zE6 o):NL t (o::r) t (o::r):=⟨1,fun n k hn hk=>by
 obtain⟨k,rfl⟩: ∃m,k=m+1:=⟨k-1,by omega⟩
 rw[T.negation_l1,begins_no h,if_neg (by decide)];rfl⟩
theorem NL_lp{t u:zKr}{ts r:List Tk}(h:EV T.atom (lp::ts) u r){w:zKr}{r':List Tk}(hw:NL (zKr.mk 26 0 [] [] [t,u]) r w r'):NL t (lp::ts) w r':=by
 obtain⟨N,h⟩:=h
 obtain⟨N2,hw⟩:=hw
 refine⟨max N N2+1,fun n k hn hk=>?_⟩
 obtain⟨k,rfl⟩: ∃m,k=m+1:=⟨k-1,by omega⟩
 rw[T.negation_l1,begins_lp,if_pos rfl,zFT (h n (by omega))]
 exact hw n k (by omega) (by omega)
theorem neg_atom{t:Tk}{ts:List Tk}(ht:isB t [126]=false){u:zKr}{r:List Tk}(h:EV T.atom (t::ts) u r){w:zKr}{r':List Tk}(hw:NL u r w r'):EV T.negation (t::ts) w r':=by
 obtain⟨N,h⟩:=h
 obtain⟨N2,hw⟩:=hw
 refine⟨max N N2+1,fun n hn=>?_⟩
 obtain⟨m,rfl⟩: ∃m,n=m+1:=⟨n-1,by omega⟩
 rw[T.negation,zEh ht,if_neg (by decide),zFT (h m (by omega)),zFT (hw m m (by omega) (by omega))];rfl
theorem zKR{ts:List Tk}{w:zKr}{r:List Tk}(h:EV T.negation ts w r):EV T.negation ((7,[126])::ts) (zKr.mk 32 12 [] [] [w]) r:=by
 obtain⟨N,h⟩:=h
 refine⟨N+1,fun n hn=>?_⟩
 obtain⟨m,rfl⟩: ∃m,n=m+1:=⟨n-1,by omega⟩
 rw[T.negation,go_skip_yes (by decide),if_pos rfl,zFT (h m (by omega))];rfl
theorem zIP{A:List Tk}{v:zKr}(h:EV T.expr (A++[(8,[])]) v [(8,[])]){o:Tk}{r:List Tk}(ho:zE6 o):EV T.negation (lp::(A++rp::o::r)) v (o::r):=
 neg_atom (by decide) (zIs h) (NL_no ho)
theorem obm{α β:Type}(a:α)(f:α->Option β):(some a).bind f=f a:=Eq.trans (Option.bind_some a f) rfl
mutual
theorem szT_pos: ∀t:zKr,1<=szT t
 |⟨_,_,_,_,l⟩=>by rw[szT];omega
theorem dpT_pos: ∀t:zKr,1<=dpT t
 |⟨_,_,_,_,l⟩=>by rw[dpT];omega
end
def SzOk(t:zKr):Prop:=szT t<=100000->Ev (fun n=>zBt n t) (szT t:Int)
theorem Size_loop(t:zKr): ∀(l:List zKr),(∀x∈l,SzOk x)->∀(i:Nat)(c:Nat),t.L.drop i=l->c+szL l<=100000->∃N,∀n k,N<=n->N<=k->zDG (zBt n) t k (c:Int) i=some ((c+szL l:Nat):Int)
 |[],_,i,c,hd,hc=>⟨1,fun n k hn hk=>by
  obtain⟨k,rfl⟩: ∃m,k=m+1:=⟨k-1,by omega⟩
  have hl:t.L.length<=i:=List.drop_eq_nil_iff.1 hd
  rw[zDG,show ltI (i:Int) (t.L.length:Int)=false from decide_eq_false (by omega)];rfl⟩
 |x::l,hx,i,c,hd,hc=>by
  have hi:i<t.L.length:=by
   rcases Nat.lt_or_ge i t.L.length with h|h
   ·exact h
   ·rw[List.drop_eq_nil_of_le h] at hd;cases hd
  have hs':=List.drop_eq_getElem_cons hi
  rw[hd] at hs'
  obtain⟨hx1,hl1⟩:=List.cons.inj hs'
  rw[szL] at hc ⊢
  obtain⟨N,h1⟩:=hx x zq9 (by omega)
  obtain⟨N2,h2⟩:=Size_loop t l (fun y hy=>hx y (zqc _ hy)) (i+1) (c+szT x) hl1.symm (by omega)
  refine⟨max N N2+1,fun n k hn hk=>?_⟩
  obtain⟨k,rfl⟩: ∃m,k=m+1:=⟨k-1,by omega⟩
  rw[zDG,show ltI (i:Int) (t.L.length:Int)=true from zqb (by omega),if_pos rfl,zq2 hi,<-hx1]
  simp only[obm]
  rw[show zBt n x=_ from h1 n (by omega)]
  simp only[obm]
  rw[show chk .i64 ((c:Int)+(szT x:Int))=some ((c+szT x:Nat):Int) from(chkA (by omega) (by omega)).trans (by rfl)]
  simp only[obm]
  rw[h2 n k (by omega) (by omega),Nat.add_assoc]
mutual
theorem zKk: ∀t,SzOk t
 |⟨a,b,c,d,l⟩=>fun hs=>by
  rw[szT] at hs ⊢
  obtain⟨N,h⟩:=Size_loop ⟨a,b,c,d,l⟩ l (Size_list l) 0 1 rfl (by omega)
  refine⟨N+1,fun n hn=>?_⟩
  obtain⟨m,rfl⟩: ∃m,n=m+1:=⟨n-1,by omega⟩
  show zBt (m+1) _=_
  rw[zBt,show(1:Int)=((1:Nat):Int) from rfl,h m m (by omega) (by omega)];rfl
theorem Size_list: ∀l:List zKr,∀x∈l,SzOk x
 |[],x,hx=>by cases hx
 |y::l,x,hx=>by
  rcases List.mem_cons.1 hx with h|h
  ·rw[h];exact zKk y
  ·exact Size_list l x h
end
def DpOk(t:zKr):Prop:=dpT t<=100000->Ev (fun n=>zBd n t) (dpT t:Int)
theorem maxN(a b:Nat):maxI (a:Int) (b:Int)=((max a b:Nat):Int):=by
 unfold maxI;split<;>omega
theorem Depth_loop(t:zKr): ∀(l:List zKr),(∀x∈l,DpOk x)->∀(i:Nat)(c:Nat),t.L.drop i=l->dpL l<=100000->∃N,∀n k,N<=n->N<=k->zCy (zBd n) t k (c:Int) i=some ((max c (dpL l):Nat):Int)
 |[],_,i,c,hd,hc=>⟨1,fun n k hn hk=>by
  obtain⟨k,rfl⟩: ∃m,k=m+1:=⟨k-1,by omega⟩
  have hl:t.L.length<=i:=List.drop_eq_nil_iff.1 hd
  rw[zCy,show ltI (i:Int) (t.L.length:Int)=false from decide_eq_false (by omega),dpL,Nat.max_zero];rfl⟩
 |x::l,hx,i,c,hd,hc=>by
  have hi:i<t.L.length:=by
   rcases Nat.lt_or_ge i t.L.length with h|h
   ·exact h
   ·rw[List.drop_eq_nil_of_le h] at hd;cases hd
  have hs':=List.drop_eq_getElem_cons hi
  rw[hd] at hs'
  obtain⟨hx1,hl1⟩:=List.cons.inj hs'
  rw[dpL] at hc ⊢
  obtain⟨N,h1⟩:=hx x zq9 (by omega)
  obtain⟨N2,h2⟩:=Depth_loop t l (fun y hy=>hx y (zqc _ hy)) (i+1) (max c (dpT x)) hl1.symm (by omega)
  refine⟨max N N2+1,fun n k hn hk=>?_⟩
  obtain⟨k,rfl⟩: ∃m,k=m+1:=⟨k-1,by omega⟩
  rw[zCy,show ltI (i:Int) (t.L.length:Int)=true from zqb (by omega),if_pos rfl,zq2 hi,<-hx1]
  simp only[obm]
  rw[show zBd n x=_ from h1 n (by omega)]
  simp only[obm]
  rw[maxN,h2 n k (by omega) (by omega),Nat.max_assoc]
mutual
theorem zIV: ∀t,DpOk t
 |⟨a,b,c,d,l⟩=>fun hs=>by
  rw[dpT] at hs ⊢
  obtain⟨N,h⟩:=Depth_loop ⟨a,b,c,d,l⟩ l (Depth_list l) 0 0 rfl (by omega)
  refine⟨N+1,fun n hn=>?_⟩
  obtain⟨m,rfl⟩: ∃m,n=m+1:=⟨n-1,by omega⟩
  show zBd (m+1) _=_
  rw[zBd,show(0:Int)=((0:Nat):Int) from rfl,h m m (by omega) (by omega)]
  have hc:chk .i64 (((max 0 (dpL l):Nat):Int)+1)=some ((1+dpL l:Nat):Int):=by
   rw[chkA (by omega) (by omega)];exact congrArg some (by omega)
  simp only[obm,hc]
theorem Depth_list: ∀l:List zKr,∀x∈l,DpOk x
 |[],x,hx=>by cases hx
 |y::l,x,hx=>by
  rcases List.mem_cons.1 hx with h|h
  ·rw[h];exact zIV y
  ·exact Depth_list l x h
end
def EqOk(t:zKr):Prop:=Ev (fun n=>zAx n t t) true
theorem Eq_names(t:zKr): ∀(m i k:Nat),i+m=t.Names.length->m+1<=k->zCx t t k i=some (.inr ())
 |0,i,k+1,hi,hk=>by rw[zCx,show ltI (i:Int) (t.Names.length:Int)=false from decide_eq_false (by omega)];rfl
 |m+1,i,k+1,hi,hk=>by
  rw[zCx,show ltI (i:Int) (t.Names.length:Int)=true from zqb (by omega),if_pos rfl,zq2 (by omega)]
  simp only[obm]
  rw[show eqS t.Names[i] t.Names[i]=true from zqb rfl]
  exact Eq_names t m (i+1) k (by omega) (by omega)
theorem Eq_loop(t:zKr): ∀(l:List zKr),(∀x∈l,EqOk x)->∀(i:Nat),t.L.drop i=l->∃N,∀n k,N<=n->N<=k->zCw (zAx n) t t k i=some (.inr ())
 |[],_,i,hd=>⟨1,fun n k hn hk=>by
  obtain⟨k,rfl⟩: ∃m,k=m+1:=⟨k-1,by omega⟩
  have hl:t.L.length<=i:=List.drop_eq_nil_iff.1 hd
  rw[zCw,show ltI (i:Int) (t.L.length:Int)=false from decide_eq_false (by omega)];rfl⟩
 |x::l,hx,i,hd=>by
  have hi:i<t.L.length:=by
   rcases Nat.lt_or_ge i t.L.length with h|h
   ·exact h
   ·rw[List.drop_eq_nil_of_le h] at hd;cases hd
  have hs':=List.drop_eq_getElem_cons hi
  rw[hd] at hs'
  obtain⟨hx1,hl1⟩:=List.cons.inj hs'
  obtain⟨N,h1⟩:=hx x zq9
  obtain⟨N2,h2⟩:=Eq_loop t l (fun y hy=>hx y (zqc _ hy)) (i+1) hl1.symm
  refine⟨max N N2+1,fun n k hn hk=>?_⟩
  obtain⟨k,rfl⟩: ∃m,k=m+1:=⟨k-1,by omega⟩
  rw[zCw,show ltI (i:Int) (t.L.length:Int)=true from zqb (by omega),if_pos rfl,zq2 hi,<-hx1]
  simp only[obm]
  rw[show zAx n x x=_ from h1 n (by omega)]
  exact h2 n k (by omega) (by omega)
mutual
theorem zHY: ∀t,EqOk t
 |⟨a,b,c,d,l⟩=>by
  obtain⟨N,h⟩:=Eq_loop ⟨a,b,c,d,l⟩ l (Equal_list l) 0 rfl
  refine⟨max N (d.length+1)+1,fun n hn=>?_⟩
  obtain⟨m,rfl⟩: ∃m,n=m+1:=⟨n-1,by omega⟩
  show zAx (m+1) _ _=_
  rw[zAx,if_neg (by simp[eqI,eqS]),Eq_names _ d.length 0 m (by simp) (by omega)]
  simp only[obm,Sum.elim_inr]
  rw[h m m (by omega) (by omega)];rfl
theorem Equal_list: ∀l:List zKr,∀x∈l,EqOk x
 |[],x,hx=>by cases hx
 |y::l,x,hx=>by
  rcases List.mem_cons.1 hx with h|h
  ·rw[h];exact zHY y
  ·exact Equal_list l x h
end
theorem parts1{t:zKr}{x:zKr}{c:Int}(hl:t.L=[x])(hx:bl c x=true):Ev (fun n=>zAd n t [c]) true:=by
 have:=parts_ev t [c] (by rw[hl];rfl)
 rw[hl] at this
 simpa[List.range',hx] using this
theorem parts2{t:zKr}{x y:zKr}{c d:Int}(hl:t.L=[x,y])(hx:bl c x=true)(hy:bl d y=true):Ev (fun n=>zAd n t [c,d]) true:=by
 have:=parts_ev t [c,d] (by rw[hl];rfl)
 rw[hl] at this
 simpa[List.range',hx,hy] using this
theorem own_op{c:Int}(h1:1<=c)(h2:c<=12)(L:List zKr)(w:Bool)(n:Nat):zDW n (zKr.mk 32 c [] [] L) w=some true:=by
 have:(leI 1 c&&leI c 12)=true:=by simp[leI,h1,h2]
 have e:zDW n (zKr.mk 32 c [] [] L) w=some (leI 1 c&&leI c 12):=by rfl
 rw[e,this]
theorem wf_bin{c:Int}(h1:1<=c)(h2:c<=11){x y:zKr}(hx:WF x false)(hy:WF y false)(bx:bl 3 x=true)(by_:bl 3 y=true):WF (zKr.mk 32 c [] [] [x,y]) false:=by
 refine .mk ⟨0,fun n _=>own_op h1 (by omega) _ _ n⟩ ?_ fun z hz=>?_
 ·have e: ∀n,zCT n (zKr.mk 32 c [] [] [x,y])=(zAd n (zKr.mk 32 c [] [] [x,y]) [3,3]).bind fun v=>some v:=fun n=>by
   have:zCT n (zKr.mk 32 c [] [] [x,y])=if eqI c 12 then (zAd n (zKr.mk 32 c [] [] [x,y]) [3]).bind fun v=>some v else (zAd n (zKr.mk 32 c [] [] [x,y]) [3,3]).bind fun v=>some v:=by rfl
   rw[this,if_neg (by simp only[eqI,decide_eq_true_eq];omega)]
  exact(Ev.map (fun v=>v) (parts2 (c:=3) (d:=3) rfl bx by_)).congr e
 ·simp only[List.mem_cons,List.not_mem_nil,or_false] at hz
  rcases hz with rfl|rfl
  ·exact hx
  ·exact hy
theorem wf_neg{x:zKr}(hx:WF x false)(bx:bl 3 x=true):WF (zKr.mk 32 12 [] [] [x]) false:=by
 refine .mk ⟨0,fun n _=>own_op (by decide) (by decide) _ _ n⟩ ?_ fun z hz=>?_
 ·have e: ∀n,zCT n (zKr.mk 32 12 [] [] [x])=(zAd n (zKr.mk 32 12 [] [] [x]) [3]).bind fun v=>some v:=fun n=>by rfl
  exact(Ev.map (fun v=>v) (parts1 (c:=3) rfl bx)).congr e
 ·simp only[List.mem_cons,List.not_mem_nil,or_false] at hz
  subst hz;exact hx
theorem wf_app{x y:zKr}(hx:WF x false)(hy:WF y false)(bx:bl 3 x=true)(by_:bl 3 y=true):WF (zKr.mk 26 0 [] [] [x,y]) false:=by
 refine .mk ⟨0,fun n _=>by rfl⟩ ?_ fun z hz=>?_
 ·have e: ∀n,zCT n (zKr.mk 26 0 [] [] [x,y])=(zAd n (zKr.mk 26 0 [] [] [x,y]) [3,3]).bind fun v=>some v:=fun n=>by rfl
  exact(Ev.map (fun v=>v) (parts2 (c:=3) (d:=3) rfl bx by_)).congr e
 ·simp only[List.mem_cons,List.not_mem_nil,or_false] at hz
  rcases hz with rfl|rfl
  ·exact hx
  ·exact hy
theorem bl_op(c:Int)(L:List zKr):bl 3 (zKr.mk 32 c [] [] L)=true:=by rfl
theorem bl_app(L:List zKr):bl 3 (zKr.mk 26 0 [] [] L)=true:=by rfl
abbrev eT:Tk:=(8,[])
def TL(s:List UInt8)(ts:List Tk):Prop:= ∃l,Toks s (l++[(8,[],[])])∧tks l=ts
theorem TL_nil:TL [] []:=⟨[],.done skp_nil,rfl⟩
theorem TL_blank{c:UInt8}(hc:blank c=true){u:List UInt8}{ts:List Tk}(h:TL u ts):TL (c::u) ts:=by
 obtain⟨l,h,e⟩:=h
 exact⟨l,Toks.skip (zIN hc) h,e⟩
theorem TL_ext{s u:List UInt8}{xs bs:List Tk}(h:TL s xs)(hu:bd u)(h2:TL u bs):TL (s++u) (xs++bs):=by
 obtain⟨l,h,e⟩:=h
 obtain⟨l2,h2,e2⟩:=h2
 have:=Toks.ext u hu h2 h
 rw[List.dropLast_concat,<-List.append_assoc] at this
 refine⟨_,this,?_⟩
 rw[tks,List.map_append,<-tks,<-tks,e2]
 congr 1
 rw[<-e];simp only[tks,List.map_map];rfl
theorem TL_tk{s x r:List UInt8}{k:Int}(h:tk s=some (k,x,r)){ts:List Tk}(hr:TL r ts):TL s ((k,x)::ts):=by
 obtain⟨l,hr,e⟩:=hr
 obtain⟨_,_,h3,h4,_⟩:=zKA h
 exact⟨(k,x,s)::l,.next h4 h3 h hr,by rw[tks,List.map_cons,<-tks,e]⟩
theorem zGW{w:List UInt8}{k:Int}(h:tk w=some (k,w,[])):TL w [(k,w)]:=TL_tk h TL_nil
theorem sy_one{c:UInt8}{r:List UInt8}(h1:pre (c::r) [40,42]=false)(h2:c≠58∧c≠61∧c≠45∧c≠60)(h3:0<=Lib.indexByte SB c):sy (c::r)=[c]:=by
 rw[sy,h1]
 have hf:SA.find? (pre (c::r))=none:=by
  obtain⟨a1,a2,a3,a4⟩:=h2
  simp[SA,pre,a1,a2,a3,a4]
 rw[hf,if_neg (by decide)]
 dsimp only
 rw[if_pos h3]
theorem tk_one{c:UInt8}{r:List UInt8}(h1:pre (c::r) [40,42]=false)(h2:c≠58∧c≠61∧c≠45∧c≠60)(h3:0<=Lib.indexByte SB c):tk (c::r)=some (7,[c],r):=by
 have:=sy_one h1 h2 h3
 rw[tk_sy (by rw[this];simp),this];rfl
theorem pre_not{c:UInt8}(h:c≠40)(r:List UInt8):pre (c::r) [40,42]=false:=by
 simp[pre,h]
theorem TL_close{u:List UInt8}{ts:List Tk}(h:TL u ts):TL (41::u) (rp::ts):=TL_tk (tk_one (pre_not (by decide) u) (by decide) (by decide)) h
theorem TL_tilde{u:List UInt8}{ts:List Tk}(h:TL u ts):TL (126::u) ((7,[126])::ts):=TL_tk (tk_one (pre_not (by decide) u) (by decide) (by decide)) h
theorem TL_open{u:List UInt8}(hu: ∀r,u≠42::r){ts:List Tk}(h:TL u ts):TL (40::u) (lp::ts):=by
 refine TL_tk (tk_one ?_ (by decide) (by decide)) h
 cases hp:pre (40::u) [40,42] with
 |false=>rfl
 |true=>
  obtain⟨r,hr⟩:=(pre2 _ _ _).1 hp
  cases hr;exact(hu r rfl).elim
theorem TL_star{u:List UInt8}{ts:List Tk}(h:TL (42::u) ts): ∃ts',ts=(7,[42])::ts':=by
 obtain⟨l,h,e⟩:=h
 have hk:tk (42::u)=some (7,[42],u):=tk_one (pre_not (by decide) u) (by decide) (by decide)
 have hs:=(zKA hk).2.2.2.1
 generalize hL:l++[((8:Int),([]:List UInt8),([]:List UInt8))]=L at h
 cases h with
 |done g=>rw[hs] at g;cases g
 |@next _ s' r x k l' g g1 g2 g3=>
  rw[hs] at g;cases g
  rw[hk] at g2;cases g2
  cases l with
  |nil=>
   cases hL
  |cons q l=>cases hL;exact⟨_,e.symm⟩
theorem zIW{s:List UInt8}(hs:s.length<=16384){A:List Tk}(h:TL s A){v:zKr}(hv:EV T.expr (A++[eT]) v [eT])(hb:bl 3 v=true)(hw:WF v false)(h1:szT v<=20000)(h2:dpT v<=400):Ev (fun n=>zAb n 3 s) (v,zKq.mk 0 0,0):=by
 obtain⟨l,h,e⟩:=h
 have he:tks (l++[(8,[],[])])=A++[eT]:=by rw[tks,List.map_append,<-tks,e];rfl
 obtain⟨o,A',t,B,hA,⟨N,hg⟩,hx⟩:=whole_ok hs h (cat:=3) (.inr (.inr rfl))
 obtain⟨N2,hv⟩:=hv
 have h3:=hg (max N N2) (by omega)
 have h4:(T.expr (max N N2)).go (tks (l++[(8,[],[])]))=some (o,t::B):=h3
 rw[he,hv _ (by omega)] at h4
 cases h4
 rcases hx with ⟨v',b,e1,_,_,hV,hx⟩|⟨q,_,_,h5,_⟩
 ·cases e1
  obtain⟨b',hb',hiff⟩:=Valid_ev 3 v
  have:=hV.unique hb'
  subst this
  rw[hiff.2 ⟨hb,hw,h1,h2⟩] at hx
  exact hx
 ·rcases h5 with h5|h5
  ·cases h5
  ·exact(h5 rfl).elim
theorem whole_form{s:List UInt8}(hs:s.length<=16384){A:List Tk}(h:TL s A){v:zKr}{t:Tk}{B:List Tk}(hv:EV T.expr (A++[eT]) v (t::B))(h8:t.1≠8): ∃p,Ev (fun n=>zAb n 3 s) (zS,p,3):=by
 obtain⟨l,h,e⟩:=h
 have he:tks (l++[(8,[],[])])=A++[eT]:=by rw[tks,List.map_append,<-tks,e];rfl
 obtain⟨N,hv⟩:=hv
 obtain⟨A',hA⟩:=PT.go_drop _ _ _ _ (hv N (Nat.le_refl _))
 obtain⟨q,_,_,h3⟩:=whole_refused hs h (cat:=3) (.inr (.inr rfl)) (A:=A') (by rw[he];exact hA) ⟨N,fun n hn=>by rw[he];exact hv n hn⟩ (.inr h8)
 rw[if_neg h8] at h3
 exact⟨_,h3⟩
structure Opd (s:List UInt8) (x:zKr) (A:List Tk):Prop where
 tl:TL s A
 ev:EV T.expr (A++[eT]) x [eT]
 wf:WF x false
 b:bl 3 x=true
 sz:szT x<=20000
 dp:dpT x<=400
theorem zIF(n:Nat)(s:List UInt8):zAZ n s=zAb n 3 s:=by
 rw[zAZ];cases zAb n 3 s<;>rfl
theorem opd_or(s:List UInt8)(hs:s.length<=16384):(∃N,∀n,N<=n->∃v,zAZ n s=some v∧v.2.2≠0)∨(∃x A,Opd s x A∧Ev (fun n=>zAZ n s) (x,zKq.mk 0 0,0)):=by
 by_cases hT: ∃l,Toks s l
 ·obtain⟨l,hT⟩:=hT
  obtain⟨o,A,t,B,hA,⟨N,hg⟩,hx⟩:=whole_ok hs hT (cat:=3) (.inr (.inr rfl))
  rcases hx with ⟨v,b,rfl,rfl,rfl,hV,N2,hx⟩|⟨q,_,_,_,N2,hx⟩
  ·cases b with
   |false=>
    left
    exact⟨N2,fun n hn=>⟨_,(zIF n s).trans (hx n hn),fun h=>absurd (show (5:Int)=0 from h) (by decide)⟩⟩
   |true=>
    right
    obtain⟨b',hb',hiff⟩:=Valid_ev 3 v
    have:=hV.unique hb'
    subst this
    obtain⟨a1,a2,a3,a4⟩:=hiff.1 rfl
    obtain⟨l',rfl⟩:=hT.last
    refine⟨v,A,⟨⟨l',hT,?_⟩,⟨N,fun n hn=>?_⟩,a2,a1,a3,a4⟩,N2,fun n hn=>(zIF n s).trans (hx n hn)⟩
    ·rw[tks,List.map_append,<-tks] at hA
     exact(List.append_inj' hA rfl).1
    ·have:=hg n hn
     rw[hA] at this;exact this
  ·left
   refine⟨N2,fun n hn=>⟨_,(zIF n s).trans (hx n hn),?_⟩⟩
   show(if t.1=8 then (4:Int) else 3)≠0
   split<;>decide
 ·left
  refine⟨s.length+100,fun n hn=>?_⟩
  obtain⟨r,r1,r2⟩:=zJW s hs hn
  rcases r2 with ⟨_,l,t1,_⟩|⟨e0,_,_,_⟩
  ·exact(hT ⟨l,t1⟩).elim
  ·exact⟨_,(zIF n s).trans (whole_err r1 e0),e0⟩
theorem Opd.head{s:List UInt8}{x:zKr}{A:List Tk}(h:Opd s x A)(u:List UInt8): ∀r,s++41::u≠42::r:=fun r e=>by
 cases s with
 |nil=>cases e
 |cons c s=>
  have hc:c=42:=by cases e;rfl
  subst hc
  obtain⟨ts',ht⟩:=TL_star h.tl
  obtain⟨t,ts,e2,_,_,h3⟩:=expr_first h.ev
  rw[ht] at e2
  cases e2
  exact h3 rfl
theorem Opd.tl_paren{s:List UInt8}{x:zKr}{A:List Tk}(h:Opd s x A){u:List UInt8}{ts:List Tk}(hu:TL u ts):TL (40::(s++41::u)) (lp::(A++rp::ts)):=
 TL_open (h.head u) (TL_ext h.tl (by simp[bd]) (TL_close hu))
theorem TL_sp{u:List UInt8}{ts:List Tk}(h:TL u ts):TL (32::u) ts:=TL_blank (by decide) h
theorem TL_op{w u:List UInt8}{o:Tk}{ts:List Tk}(h:TL w [o])(hu:TL u ts):TL (w++32::u) (o::ts):=TL_ext h (.inl rfl) (TL_sp hu)
def WO:List (List UInt8):=[[111,114,101,108,115,101],[97,110,100,97,108,115,111],[61],[60],[60,61],[94],[43],[45],[42],[100,105,118],[109,111,100]]
def NO:List Int:=[1,2,3,4,5,6,7,8,9,10,11]
def LO:List Int:=[1,2,3,3,3,4,5,5,6,6,6]
theorem zGQ{o:Tk}{a c:Int}(h1:1<=a)(h6:a<=6)(h0:c≠0)(h: ∀m:Int,opv m o OPS=if m=a then c else 0):IsOp o a c:=
 ⟨h1,h6,h0,by rw[h,if_pos rfl],fun m hm=>by rw[h,if_neg hm]⟩
theorem op_facts(i:Nat)(hi:i<11): ∃o w a,WO[i]? =some w∧LO[i]? =some a∧NO[i]? =some ((i:Int)+1)∧TL w [o]∧IsOp o a ((i:Int)+1)∧zE6 o∧o.1≠8∧w.length<=7:=by
 have nb: ∀t:Tk,(t.1=6∨t.1=7)->isB t [40]=false->isB t [108,101,116]=false->isB t [99,97,115,101]=false->zE6 t:=fun t h a b c=>⟨by omega,by omega,by omega,by omega,a,b,c⟩
 match i,hi with
 |0,_=>exact⟨(6,[111,114,101,108,115,101]),_,1,rfl,rfl,rfl,zGW (by kernel_rfl),zGQ (by decide) (by decide) (by decide) (fun m=>by simp[opv,OPS,isB,eqI,eqS]),nb _ (.inl rfl) (by decide) (by decide) (by decide),by decide,by decide⟩
 |1,_=>exact⟨(6,[97,110,100,97,108,115,111]),_,2,rfl,rfl,rfl,zGW (by kernel_rfl),zGQ (by decide) (by decide) (by decide) (fun m=>by simp[opv,OPS,isB,eqI,eqS]),nb _ (.inl rfl) (by decide) (by decide) (by decide),by decide,by decide⟩
 |2,_=>exact⟨(7,[61]),_,3,rfl,rfl,rfl,zGW (by kernel_rfl),zGQ (by decide) (by decide) (by decide) (fun m=>by simp[opv,OPS,isB,eqI,eqS]),nb _ (.inr rfl) (by decide) (by decide) (by decide),by decide,by decide⟩
 |3,_=>exact⟨(7,[60]),_,3,rfl,rfl,rfl,zGW (by kernel_rfl),zGQ (by decide) (by decide) (by decide) (fun m=>by simp[opv,OPS,isB,eqI,eqS]),nb _ (.inr rfl) (by decide) (by decide) (by decide),by decide,by decide⟩
 |4,_=>exact⟨(7,[60,61]),_,3,rfl,rfl,rfl,zGW (by kernel_rfl),zGQ (by decide) (by decide) (by decide) (fun m=>by simp[opv,OPS,isB,eqI,eqS]),nb _ (.inr rfl) (by decide) (by decide) (by decide),by decide,by decide⟩
 |5,_=>exact⟨(7,[94]),_,4,rfl,rfl,rfl,zGW (by kernel_rfl),zGQ (by decide) (by decide) (by decide) (fun m=>by simp[opv,OPS,isB,eqI,eqS]),nb _ (.inr rfl) (by decide) (by decide) (by decide),by decide,by decide⟩
 |6,_=>exact⟨(7,[43]),_,5,rfl,rfl,rfl,zGW (by kernel_rfl),zGQ (by decide) (by decide) (by decide) (fun m=>by simp[opv,OPS,isB,eqI,eqS]),nb _ (.inr rfl) (by decide) (by decide) (by decide),by decide,by decide⟩
 |7,_=>exact⟨(7,[45]),_,5,rfl,rfl,rfl,zGW (by kernel_rfl),zGQ (by decide) (by decide) (by decide) (fun m=>by simp[opv,OPS,isB,eqI,eqS]),nb _ (.inr rfl) (by decide) (by decide) (by decide),by decide,by decide⟩
 |8,_=>exact⟨(7,[42]),_,6,rfl,rfl,rfl,zGW (by kernel_rfl),zGQ (by decide) (by decide) (by decide) (fun m=>by simp[opv,OPS,isB,eqI,eqS]),nb _ (.inr rfl) (by decide) (by decide) (by decide),by decide,by decide⟩
 |9,_=>exact⟨(6,[100,105,118]),_,6,rfl,rfl,rfl,zGW (by kernel_rfl),zGQ (by decide) (by decide) (by decide) (fun m=>by simp[opv,OPS,isB,eqI,eqS]),nb _ (.inl rfl) (by decide) (by decide) (by decide),by decide,by decide⟩
 |10,_=>exact⟨(6,[109,111,100]),_,6,rfl,rfl,rfl,zGW (by kernel_rfl),zGQ (by decide) (by decide) (by decide) (fun m=>by simp[opv,OPS,isB,eqI,eqS]),nb _ (.inl rfl) (by decide) (by decide) (by decide),by decide,by decide⟩
theorem end_no(m:Int):opv m eT OPS=0:=by simp[opv,OPS,isB,eqI,eqS]
theorem end_nb:zE6 eT:=⟨by decide,by decide,by decide,by decide,by decide,by decide,by decide⟩
theorem catG{x y:List UInt8}(h:x.length+y.length<=1000000):cat x y=some (x++y):=by
 rw[cat,if_pos (by omega)]
structure Three (s t u:List UInt8) (x y z:zKr) (A B C:List Tk):Prop where
 hs:s.length<=300
 ht:t.length<=300
 hu:u.length<=300
 ox:Opd s x A
 oy:Opd t y B
 oz:Opd u z C
 sz:szT x+szT y+szT z<=900
 dx:dpT x<=150
 dy:dpT y<=150
 dz:dpT z<=150
section
variable {s t u:List UInt8} {x y z:zKr} {A B C:List Tk} (H:Three s t u x y z A B C)
include H
theorem Three.tl1{w1 w2:List UInt8}{o1 o2:Tk}(h1:TL w1 [o1])(h2:TL w2 [o2]):
 TL (40::(s++41::32::(w1++32::40::(t++41::32::(w2++32::40::(u++[41])))))) (lp::(A++rp::o1::lp::(B++rp::o2::lp::(C++[rp])))):=
 H.ox.tl_paren (TL_sp (TL_op h1 (H.oy.tl_paren (TL_sp (TL_op h2 (H.oz.tl_paren TL_nil))))))
theorem Three.tl2{w1:List UInt8}{o1:Tk}(h1:TL w1 [o1]):
 TL (126::32::40::(s++41::32::40::(t++41::32::(w1++32::126::32::126::32::40::(u++[41]))))) ((7,[126])::lp::(A++rp::lp::(B++rp::o1::(7,[126])::(7,[126])::lp::(C++[rp])))):=
 TL_tilde (TL_sp (H.ox.tl_paren (TL_sp (H.oy.tl_paren (TL_sp (TL_op h1 (TL_tilde (TL_sp (TL_tilde (TL_sp (H.oz.tl_paren TL_nil)))))))))))
theorem Three.lx{o:Tk}(ho:zE6 o)(r:List Tk):Lv 7 (lp::(A++rp::o::r)) x (o::r):=zJD (zIP H.ox.ev ho)
theorem Three.ly{o:Tk}(ho:zE6 o)(r:List Tk):Lv 7 (lp::(B++rp::o::r)) y (o::r):=zJD (zIP H.oy.ev ho)
theorem Three.lz{o:Tk}(ho:zE6 o)(r:List Tk):Lv 7 (lp::(C++rp::o::r)) z (o::r):=zJD (zIP H.oz.ev ho)
theorem Three.left{w1 w2:List UInt8}{o1 o2:Tk}{a b c d:Int}(h1:TL w1 [o1])(h2:TL w2 [o2])(i1:IsOp o1 a c)(i2:IsOp o2 b d)(n1:zE6 o1)(n2:zE6 o2)(hw1:w1.length<=7)(hw2:w2.length<=7)
 (hc1:1<=c) (hc2:c<=11) (hd1:1<=d) (hd2:d<=11) (hab:b<a∨(a=b∧5<=a)):
 Ev (fun n=>zAb n 3 (40::(s++41::32::(w1++32::40::(t++41::32::(w2++32::40::(u++[41]))))))) (bin d (bin c x y) z,zKq.mk 0 0,0):=by
 have k1:=H.hs;have k2:=H.ht;have k3:=H.hu;have k4:=H.sz;have k5:=H.dx;have k6:=H.dy;have k7:=H.dz
 refine zIW (by simp only[List.length_append,List.length_cons,List.length_nil];omega) (H.tl1 h1 h2) ?_ (bl_op _ _) (wf_bin hd1 hd2 (wf_bin hc1 hc2 H.ox.wf H.oy.wf H.ox.b H.oy.b) H.oz.wf (bl_op _ _) H.oz.b) (by simp only[szT,szL];omega) (by simp only[dpT,dpL];omega)
 have:=Lv_leftward i1 i2 hab (H.lx n1 (lp::(B++rp::o2::lp::(C++rp::[eT])))) (H.ly n2 (lp::(C++rp::[eT]))) (H.lz end_nb []) end_no
 simp only[List.cons_append,List.append_assoc,List.nil_append]
 exact zHT (by decide) (by decide) this
theorem Three.right{w1 w2:List UInt8}{o1 o2:Tk}{a b c d:Int}(h1:TL w1 [o1])(h2:TL w2 [o2])(i1:IsOp o1 a c)(i2:IsOp o2 b d)(n1:zE6 o1)(n2:zE6 o2)(hw1:w1.length<=7)(hw2:w2.length<=7)
 (hc1:1<=c) (hc2:c<=11) (hd1:1<=d) (hd2:d<=11) (hab:a<b∨(a=b∧(a=1∨a=2∨a=4))):
 Ev (fun n=>zAb n 3 (40::(s++41::32::(w1++32::40::(t++41::32::(w2++32::40::(u++[41]))))))) (bin c x (bin d y z),zKq.mk 0 0,0):=by
 have k1:=H.hs;have k2:=H.ht;have k3:=H.hu;have k4:=H.sz;have k5:=H.dx;have k6:=H.dy;have k7:=H.dz
 refine zIW (by simp only[List.length_append,List.length_cons,List.length_nil];omega) (H.tl1 h1 h2) ?_ (bl_op _ _) (wf_bin hc1 hc2 H.ox.wf (wf_bin hd1 hd2 H.oy.wf H.oz.wf H.oy.b H.oz.b) H.ox.b (bl_op _ _)) (by simp only[szT,szL];omega) (by simp only[dpT,dpL];omega)
 have:=Lv_rightward i1 i2 hab (H.lx n1 (lp::(B++rp::o2::lp::(C++rp::[eT])))) (H.ly n2 (lp::(C++rp::[eT]))) (H.lz end_nb []) end_no
 simp only[List.cons_append,List.append_assoc,List.nil_append]
 exact zHT (by decide) (by decide) this
theorem Three.unchained{w1 w2:List UInt8}{o1 o2:Tk}{c d:Int}(h1:TL w1 [o1])(h2:TL w2 [o2])(i1:IsOp o1 3 c)(i2:IsOp o2 3 d)(n1:zE6 o1)(n2:zE6 o2)(hw1:w1.length<=7)(hw2:w2.length<=7)(h8:o2.1≠8):
 ∃p,Ev (fun n=>zAb n 3 (40::(s++41::32::(w1++32::40::(t++41::32::(w2++32::40::(u++[41]))))))) (zS,p,3):=by
 have k1:=H.hs;have k2:=H.ht;have k3:=H.hu
 refine whole_form (by simp only[List.length_append,List.length_cons,List.length_nil];omega) (H.tl1 h1 h2) (v:=bin c x y) (t:=o2) (B:=lp::(C++rp::[eT])) ?_ h8
 have:=Lv_unchained i1 i2 (H.lx n1 (lp::(B++rp::o2::lp::(C++rp::[eT])))) (H.ly n2 (lp::(C++rp::[eT])))
 simp only[List.cons_append,List.append_assoc,List.nil_append]
 exact zHT (by decide) (by decide) this
theorem Three.minus{w1:List UInt8}{o1:Tk}{a c:Int}(h1:TL w1 [o1])(i1:IsOp o1 a c)(n1:zE6 o1)(hw1:w1.length<=7)(hc1:1<=c)(hc2:c<=11):
 Ev (fun n=>zAb n 3 (126::32::40::(s++41::32::40::(t++41::32::(w1++32::126::32::126::32::40::(u++[41])))))) (bin c (zKr.mk 32 12 [] [] [zKr.mk 26 0 [] [] [x,y]]) (zKr.mk 32 12 [] [] [zKr.mk 32 12 [] [] [z]]),zKq.mk 0 0,0):=by
 have k1:=H.hs;have k2:=H.ht;have k3:=H.hu;have k4:=H.sz;have k5:=H.dx;have k6:=H.dy;have k7:=H.dz
 refine zIW (by simp only[List.length_append,List.length_cons,List.length_nil];omega) (H.tl2 h1) ?_ (bl_op _ _) (wf_bin hc1 hc2 (wf_neg (wf_app H.ox.wf H.oy.wf H.ox.b H.oy.b) (bl_app _)) (wf_neg (wf_neg H.oz.wf H.oz.b) (bl_op _ _)) (bl_op _ _) (bl_op _ _)) (by simp only[szT,szL];omega) (by simp only[dpT,dpL];omega)
 have hl:Lv 7 ((7,[126])::lp::(A++rp::lp::(B++rp::o1::(7,[126])::(7,[126])::lp::(C++rp::[eT])))) (zKr.mk 32 12 [] [] [zKr.mk 26 0 [] [] [x,y]]) (o1::(7,[126])::(7,[126])::lp::(C++rp::[eT])):=
  zJD (zKR (neg_atom (by decide) (zIs H.ox.ev) (NL_lp (zIs H.oy.ev) (NL_no n1))))
 have hr:Lv 7 ((7,[126])::(7,[126])::lp::(C++rp::[eT])) (zKr.mk 32 12 [] [] [zKr.mk 32 12 [] [] [z]]) [eT]:=
  zJD (zKR (zKR (zIP H.oz.ev end_nb)))
 have:=Lv_one i1 hl hr end_no
 simp only[List.cons_append,List.append_assoc,List.nil_append]
 exact zHT (by decide) (by decide) this
theorem Three.tail{w1:List UInt8}{o1:Tk}{a c:Int}(h1:TL w1 [o1])(i1:IsOp o1 a c)(n1:zE6 o1)(hw1:w1.length<=7)(hc1:1<=c)(hc2:c<=11):
 Ev (fun n=>(cat [126,32,40] s).bind fun s183=>(cat s183 [41,32,40]).bind fun s187=>(cat s187 t).bind fun s191=>(cat s191 [41,32]).bind fun s195=>(cat s195 w1).bind fun s199=>(cat s199 [32,126,32,126,32,40]).bind fun s203=>
  (cat s203 u).bind fun s207=>(cat s207 [41]).bind fun s211=>(zAZ n s211).bind fun v215=>
  (if eqI v215.2.2 0 then
   (zAx n v215.1 (bin c (zKr.mk 32 12 [] [] [zKr.mk 26 0 [] [] [x,y]]) (zKr.mk 32 12 [] [] [zKr.mk 32 12 [] [] [z]]))).bind fun v227=>some v227
  else some false:Option Bool).bind fun b230=>some b230) true:=by
 have k1:=H.hs;have k2:=H.ht;have k3:=H.hu
 obtain⟨N,h⟩:=H.minus h1 i1 n1 hw1 hc1 hc2
 obtain⟨N2,h2⟩:=zHY (bin c (zKr.mk 32 12 [] [] [zKr.mk 26 0 [] [] [x,y]]) (zKr.mk 32 12 [] [] [zKr.mk 32 12 [] [] [z]]))
 refine⟨max N N2,fun n hn=>?_⟩
 have e1:cat [126,32,40] s=some ([126,32,40]++s):=catG (by simp only[List.length_cons,List.length_nil];omega)
 have e2:cat ([126,32,40]++s) [41,32,40]=some ([126,32,40]++s++[41,32,40]):=catG (by simp only[List.length_append,List.length_cons,List.length_nil];omega)
 have e3:cat ([126,32,40]++s++[41,32,40]) t=some ([126,32,40]++s++[41,32,40]++t):=catG (by simp only[List.length_append,List.length_cons,List.length_nil];omega)
 have e4:cat ([126,32,40]++s++[41,32,40]++t) [41,32]=some ([126,32,40]++s++[41,32,40]++t++[41,32]):=catG (by simp only[List.length_append,List.length_cons,List.length_nil];omega)
 have e5:cat ([126,32,40]++s++[41,32,40]++t++[41,32]) w1=some ([126,32,40]++s++[41,32,40]++t++[41,32]++w1):=catG (by simp only[List.length_append,List.length_cons,List.length_nil];omega)
 have e6:cat ([126,32,40]++s++[41,32,40]++t++[41,32]++w1) [32,126,32,126,32,40]=some ([126,32,40]++s++[41,32,40]++t++[41,32]++w1++[32,126,32,126,32,40]):=catG (by simp only[List.length_append,List.length_cons,List.length_nil];omega)
 have e7:cat ([126,32,40]++s++[41,32,40]++t++[41,32]++w1++[32,126,32,126,32,40]) u=some ([126,32,40]++s++[41,32,40]++t++[41,32]++w1++[32,126,32,126,32,40]++u):=catG (by simp only[List.length_append,List.length_cons,List.length_nil];omega)
 have e8:cat ([126,32,40]++s++[41,32,40]++t++[41,32]++w1++[32,126,32,126,32,40]++u) [41]=some (126::32::40::(s++41::32::40::(t++41::32::(w1++32::126::32::126::32::40::(u++[41]))))):=
  (catG (by simp only[List.length_append,List.length_cons,List.length_nil];omega)).trans (by simp)
 simp only[e1,e2,e3,e4,e5,e6,e7,e8,obm]
 rw[zIF,show zAb n 3 _=_ from h n (by omega)]
 simp only[obm]
 rw[show eqI (0:Int) 0=true from rfl,if_pos rfl]
 rw[show zAx n _ _=_ from h2 n (by omega)]
 rfl
end
theorem op_index(v:UInt8): ∃i:Nat,i<11∧modC .i64 (Int.tmod (v.toNat:Int) (WO.length:Int)) (WO.length:Int)=some (i:Int):=by
 refine⟨v.toNat%11,Nat.mod_lt _ (by decide),?_⟩
 show modC .i64 (Int.tmod (v.toNat:Int) 11) 11=_
 have e:Int.tmod (v.toNat:Int) 11=((v.toNat%11:Nat):Int):=rfl
 have h:=Nat.mod_lt v.toNat (show 11>0 by decide)
 have h1:(-9223372036854775808:Int)<=((v.toNat%11:Nat):Int):=by omega
 have h2:((v.toNat%11:Nat):Int)<=9223372036854775807:=by omega
 rw[e,modC,if_pos ⟨by decide,⟨h1,h2⟩⟩]
theorem gidx{α:Type}(l:List α)(i:Nat):idx l (i:Int)=l[i]? :=by rw[idx,if_pos (by omega)];simp
theorem pairs(a b:Int)(h1:1<=a)(h2:a<=6)(h3:1<=b)(h4:b<=6):(a=3∧b=3)∨(¬(a=3∧b=3)∧(b<a∨(a=b∧5<=a)))∨(¬(a=3∧b=3)∧¬(b<a∨(a=b∧5<=a))∧(a<b∨(a=b∧(a=1∨a=2∨a=4)))):=by omega
theorem none_zS:Ev (fun n=>zDs n zS) true:=by
 obtain⟨N,h⟩:=zHY zS
 refine⟨N,fun n hn=>?_⟩
 show zDs n zS=_
 rw[zDs,show zAx n zS (zKr.mk 0 0 [] [] [])=some true from h n hn];rfl
theorem groups_main{s t u:List UInt8}{x y z:zKr}{A B C:List Tk}(H:Three s t u x y z A B C)(a b:UInt8):
 ∃N,∀n,N<=n->((zEF).bind fun v81=>
  (modC .i64 (Int.tmod (a.toNat:Int) (v81.1.length:Int)) (v81.1.length:Int)).bind fun n84=>
  (modC .i64 (Int.tmod (b.toNat:Int) (v81.1.length:Int)) (v81.1.length:Int)).bind fun n89=>
  (cat [40] s).bind fun s93=>
  (cat s93 [41,32]).bind fun s97=>
  (idx v81.1 n84).bind fun x101=>
  (cat s97 x101).bind fun s105=>
  (cat s105 [32,40]).bind fun s109=>
  (cat s109 t).bind fun s113=>
  (cat s113 [41,32]).bind fun s117=>
  (idx v81.1 n89).bind fun x121=>
  (cat s117 x121).bind fun s125=>
  (cat s125 [32,40]).bind fun s129=>
  (cat s129 u).bind fun s133=>
  (cat s133 [41]).bind fun s137=>
  (zAZ n s137).bind fun v141=>
  (idx v81.2.1 n89).bind fun x143=>
  (idx v81.2.1 n84).bind fun x147=>
  (zAG x147 [x,y]).bind fun v151=>
  (zAG x143 [v151,z]).bind fun v153=>
  (zAG x143 [y,z]).bind fun v155=>
  (zAG x147 [x,v155]).bind fun v157=>
  ((idx v81.2.2 n84).bind fun x159=>
  if eqI x159 3 then
   (idx v81.2.2 n89).bind fun x165=>
   some (eqI x165 3)
  else
   some false:Option Bool).bind fun b170=>
  if b170 then
   (if !(eqI v141.2.2 3) then
    some true
   else
    (zDs n v141.1).bind fun v178=>
    some (!v178):Option Bool).bind fun b180=>
   if b180 then
    some false
   else
    (cat [126,32,40] s).bind fun s183=>
    (cat s183 [41,32,40]).bind fun s187=>
    (cat s187 t).bind fun s191=>
    (cat s191 [41,32]).bind fun s195=>
    (cat s195 x101).bind fun s199=>
    (cat s199 [32,126,32,126,32,40]).bind fun s203=>
    (cat s203 u).bind fun s207=>
    (cat s207 [41]).bind fun s211=>
    (zAZ n s211).bind fun v215=>
    (if eqI v215.2.2 0 then
     (zAG 12 [(zKr.mk 26 0 ([]:List UInt8) ([]:List (List UInt8)) [x,y])]).bind fun v219=>
     (zAG 12 [z]).bind fun v221=>
     (zAG 12 [v221]).bind fun v223=>
     (zAG x147 [v219,v223]).bind fun v225=>
     (zAx n v215.1 v225).bind fun v227=>
     some v227
    else
     some false:Option Bool).bind fun b230=>
    some b230
  else
   ((idx v81.2.2 n84).bind fun x239=>
   (idx v81.2.2 n89).bind fun x243=>
   if ltI x243 x239 then
    some true
   else if eqI x239 x243 then
    some (leI 5 x239)
   else
    some false:Option Bool).bind fun b253=>
   if b253 then
    (if !(eqI v141.2.2 0) then
     some true
    else
     (zAx n v141.1 v153).bind fun v261=>
     some (!v261):Option Bool).bind fun b263=>
    if b263 then
     some false
    else
     (cat [126,32,40] s).bind fun s266=>
     (cat s266 [41,32,40]).bind fun s270=>
     (cat s270 t).bind fun s274=>
     (cat s274 [41,32]).bind fun s278=>
     (cat s278 x101).bind fun s282=>
     (cat s282 [32,126,32,126,32,40]).bind fun s286=>
     (cat s286 u).bind fun s290=>
     (cat s290 [41]).bind fun s294=>
     (zAZ n s294).bind fun v298=>
     (if eqI v298.2.2 0 then
      (zAG 12 [(zKr.mk 26 0 ([]:List UInt8) ([]:List (List UInt8)) [x,y])]).bind fun v302=>
      (zAG 12 [z]).bind fun v304=>
      (zAG 12 [v304]).bind fun v306=>
      (zAG x147 [v302,v306]).bind fun v308=>
      (zAx n v298.1 v308).bind fun v310=>
      some v310
     else
      some false:Option Bool).bind fun b313=>
     some b313
   else
    (if !(eqI v141.2.2 0) then
     some true
    else
     (zAx n v141.1 v157).bind fun v327=>
     some (!v327):Option Bool).bind fun b329=>
    if b329 then
     some false
    else
     (cat [126,32,40] s).bind fun s332=>
     (cat s332 [41,32,40]).bind fun s336=>
     (cat s336 t).bind fun s340=>
     (cat s340 [41,32]).bind fun s344=>
     (cat s344 x101).bind fun s348=>
     (cat s348 [32,126,32,126,32,40]).bind fun s352=>
     (cat s352 u).bind fun s356=>
     (cat s356 [41]).bind fun s360=>
     (zAZ n s360).bind fun v364=>
     (if eqI v364.2.2 0 then
      (zAG 12 [(zKr.mk 26 0 ([]:List UInt8) ([]:List (List UInt8)) [x,y])]).bind fun v368=>
      (zAG 12 [z]).bind fun v370=>
      (zAG 12 [v370]).bind fun v372=>
      (zAG x147 [v368,v372]).bind fun v374=>
      (zAx n v364.1 v374).bind fun v376=>
      some v376
     else
      some false:Option Bool).bind fun b379=>
     some b379)=some true:=by
 obtain⟨i,hi,hai⟩:=op_index a
 obtain⟨k,hk,hbk⟩:=op_index b
 obtain⟨o1,w1,a1,p1,p2,p3,p4,p5,p6,p7,p8⟩:=op_facts i hi
 obtain⟨o2,w2,a2,q1,q2,q3,q4,q5,q6,q7,q8⟩:=op_facts k hk
 have k1:=H.hs;have k2:=H.ht;have k3:=H.hu
 have hop:zEF=some (WO,NO,LO):=rfl
 have hp:=pairs a1 a2 p5.1 p5.2.1 q5.1 q5.2.1
 obtain⟨Nt,htail⟩:=H.tail p4 p5 p6 p8 (by omega) (by omega)
 have e1:cat [40] s=some ([40]++s):=catG (by simp only[List.length_cons,List.length_nil];omega)
 have e2:cat ([40]++s) [41,32]=some ([40]++s++[41,32]):=catG (by simp only[List.length_append,List.length_cons,List.length_nil];omega)
 have e3:cat ([40]++s++[41,32]) w1=some ([40]++s++[41,32]++w1):=catG (by simp only[List.length_append,List.length_cons,List.length_nil];omega)
 have e4:cat ([40]++s++[41,32]++w1) [32,40]=some ([40]++s++[41,32]++w1++[32,40]):=catG (by simp only[List.length_append,List.length_cons,List.length_nil];omega)
 have e5:cat ([40]++s++[41,32]++w1++[32,40]) t=some ([40]++s++[41,32]++w1++[32,40]++t):=catG (by simp only[List.length_append,List.length_cons,List.length_nil];omega)
 have e6:cat ([40]++s++[41,32]++w1++[32,40]++t) [41,32]=some ([40]++s++[41,32]++w1++[32,40]++t++[41,32]):=catG (by simp only[List.length_append,List.length_cons,List.length_nil];omega)
 have e7:cat ([40]++s++[41,32]++w1++[32,40]++t++[41,32]) w2=some ([40]++s++[41,32]++w1++[32,40]++t++[41,32]++w2):=catG (by simp only[List.length_append,List.length_cons,List.length_nil];omega)
 have e8:cat ([40]++s++[41,32]++w1++[32,40]++t++[41,32]++w2) [32,40]=some ([40]++s++[41,32]++w1++[32,40]++t++[41,32]++w2++[32,40]):=catG (by simp only[List.length_append,List.length_cons,List.length_nil];omega)
 have e9:cat ([40]++s++[41,32]++w1++[32,40]++t++[41,32]++w2++[32,40]) u=some ([40]++s++[41,32]++w1++[32,40]++t++[41,32]++w2++[32,40]++u):=catG (by simp only[List.length_append,List.length_cons,List.length_nil];omega)
 have e10:cat ([40]++s++[41,32]++w1++[32,40]++t++[41,32]++w2++[32,40]++u) [41]=some (40::(s++41::32::(w1++32::40::(t++41::32::(w2++32::40::(u++[41])))))):=
  (catG (by simp only[List.length_append,List.length_cons,List.length_nil];omega)).trans (by simp)
 have g1:idx WO (i:Int)=some w1:=(gidx _ _).trans p1
 have g2:idx WO (k:Int)=some w2:=(gidx _ _).trans q1
 have g3:idx NO (i:Int)=some ((i:Int)+1):=(gidx _ _).trans p3
 have g4:idx NO (k:Int)=some ((k:Int)+1):=(gidx _ _).trans q3
 have g5:idx LO (i:Int)=some a1:=(gidx _ _).trans p2
 have g6:idx LO (k:Int)=some a2:=(gidx _ _).trans q2
 have gg: ∀(c:Int)(l:List zKr),zAG c l=some (zKr.mk 32 c [] [] l):=fun c l=>rfl
 rcases hp with ⟨h3,h4⟩|⟨hn3,hl⟩|⟨hn3,hnl,hr⟩
 ·subst h3;subst h4
  obtain⟨p,N,hN⟩:=H.unchained p4 q4 p5 q5 p6 q6 p8 q8 q7
  obtain⟨N2,hz⟩:=none_zS
  refine⟨max (max N N2) Nt,fun n hn=>?_⟩
  rw[hop]
  simp only[obm,hai,hbk,e1,e2,e3,e4,e5,e6,e7,e8,e9,e10,g1,g2,g3,g4,g5,g6,gg]
  rw[zIF,show zAb n 3 _=_ from hN n (by omega)]
  have hz':zDs n zS=some true:=hz n (by omega)
  simp only[obm,show eqI (3:Int) 3=true from rfl,if_true,Bool.not_true,Bool.false_eq_true,if_false,hz']
  exact htail n (by omega)
 ·obtain⟨N,hN⟩:=H.left p4 q4 p5 q5 p6 q6 p8 q8 (by omega) (by omega) (by omega) (by omega) hl
  obtain⟨N2,hz⟩:=zHY (bin ((k:Int)+1) (bin ((i:Int)+1) x y) z)
  refine⟨max (max N N2) Nt,fun n hn=>?_⟩
  have c1:(if eqI a1 3=true then some (eqI a2 3) else some false:Option Bool)=some false:=by
   by_cases h:a1=3
   ·rw[show eqI a1 3=true from zqb h,if_pos rfl,show eqI a2 3=false from decide_eq_false fun h'=>hn3 ⟨h,h'⟩]
   ·rw[show eqI a1 3=false from decide_eq_false h];rfl
  have c2:(if ltI a2 a1=true then some true else if eqI a1 a2=true then some (leI 5 a1) else some false:Option Bool)=some true:=by
   by_cases h:a2<a1
   ·rw[show ltI a2 a1=true from zqb h];rfl
   ·rw[show ltI a2 a1=false from decide_eq_false h,if_neg (by decide),show eqI a1 a2=true from zqb (by omega),if_pos rfl,show leI 5 a1=true from zqb (by omega)]
  rw[hop]
  simp only[obm,hai,hbk,e1,e2,e3,e4,e5,e6,e7,e8,e9,e10,g1,g2,g3,g4,g5,g6,gg,c1,c2]
  rw[zIF,show zAb n 3 _=_ from hN n (by omega)]
  have hz':zAx n (bin ((k:Int)+1) (bin ((i:Int)+1) x y) z) (bin ((k:Int)+1) (bin ((i:Int)+1) x y) z)=some true:=hz n (by omega)
  simp only[obm,show eqI (0:Int) 0=true from rfl,if_true,Bool.not_true,Bool.false_eq_true,if_false,hz']
  exact htail n (by omega)
 ·obtain⟨N,hN⟩:=H.right p4 q4 p5 q5 p6 q6 p8 q8 (by omega) (by omega) (by omega) (by omega) hr
  obtain⟨N2,hz⟩:=zHY (bin ((i:Int)+1) x (bin ((k:Int)+1) y z))
  refine⟨max (max N N2) Nt,fun n hn=>?_⟩
  have c1:(if eqI a1 3=true then some (eqI a2 3) else some false:Option Bool)=some false:=by
   by_cases h:a1=3
   ·rw[show eqI a1 3=true from zqb h,if_pos rfl,show eqI a2 3=false from decide_eq_false fun h'=>hn3 ⟨h,h'⟩]
   ·rw[show eqI a1 3=false from decide_eq_false h];rfl
  have c2:(if ltI a2 a1=true then some true else if eqI a1 a2=true then some (leI 5 a1) else some false:Option Bool)=some false:=by
   rw[show ltI a2 a1=false from decide_eq_false (by omega),if_neg (by decide)]
   by_cases h:a1=a2
   ·rw[show eqI a1 a2=true from zqb h,if_pos rfl,show leI 5 a1=false from decide_eq_false (by omega)]
   ·rw[show eqI a1 a2=false from decide_eq_false h];rfl
  rw[hop]
  simp only[obm,hai,hbk,e1,e2,e3,e4,e5,e6,e7,e8,e9,e10,g1,g2,g3,g4,g5,g6,gg,c1,c2]
  rw[zIF,show zAb n 3 _=_ from hN n (by omega)]
  have hz':zAx n (bin ((i:Int)+1) x (bin ((k:Int)+1) y z)) (bin ((i:Int)+1) x (bin ((k:Int)+1) y z))=some true:=hz n (by omega)
  simp only[obm,show eqI (0:Int) 0=true from rfl,if_true,Bool.not_true,Bool.false_eq_true,if_false,hz']
  exact htail n (by omega)
theorem zG9(a b:UInt8)(s t u:List UInt8)(_:s.length<=140737488351232)(_:t.length<=140737488351232)(_:u.length<=140737488351232): ∃fuel,zBU fuel a b s t u=some true:=by
 by_cases hsz:300<s.length∨300<t.length∨300<u.length
 ·refine⟨200,?_⟩
  rw[zBU,zJ6 (by omega)]
  simp only[obm,Bool.not_true,Bool.false_eq_true,if_false]
  rw[if_pos]
  simp only[Bool.or_eq_true,ltI,decide_eq_true_eq];omega
 have hs:s.length<=300:=by omega
 have ht:t.length<=300:=by omega
 have hu:u.length<=300:=by omega
 have hsz':((ltI 300 (s.length:Int))||((ltI 300 (t.length:Int))||(ltI 300 (u.length:Int))))=false:=by
  simp only[Bool.or_eq_false_iff,ltI,decide_eq_false_iff_not];omega
 have some_s: ∀s:List UInt8,s.length<=300->∃N,∀n,N<=n->∃v,zAZ n s=some v:=fun s hs=>by
  rcases opd_or s (by omega) with ⟨N,h⟩|⟨x,A,_,N,h⟩
  ·exact⟨N,fun n hn=>by obtain⟨v,h1,_⟩:=h n hn;exact⟨v,h1⟩⟩
  ·exact⟨N,fun n hn=>⟨_,h n hn⟩⟩
 obtain⟨Ns,hSs⟩:=some_s s hs
 obtain⟨Nt,hSt⟩:=some_s t ht
 obtain⟨Nu,hSu⟩:=some_s u hu
 rcases opd_or s (by omega) with ⟨N,h⟩|⟨x,A,ox,N1,hx⟩
 ·refine⟨max (max N 200) (max Nt Nu),?_⟩
  obtain⟨v,h1,h2⟩:=h (max (max N 200) (max Nt Nu)) (by omega)
  obtain⟨v',h3⟩:=hSt (max (max N 200) (max Nt Nu)) (by omega)
  obtain⟨v'',h4⟩:=hSu (max (max N 200) (max Nt Nu)) (by omega)
  rw[zBU,zJ6 (by omega)]
  simp only[obm,Bool.not_true,Bool.false_eq_true,if_false,hsz',h1,h3,h4]
  rw[show eqI v.2.2 0=false from decide_eq_false h2];rfl
 rcases opd_or t (by omega) with ⟨N,h⟩|⟨y,B,oy,N2,hy⟩
 ·refine⟨max (max N 200) (max N1 Nu),?_⟩
  obtain⟨v,h1,h2⟩:=h (max (max N 200) (max N1 Nu)) (by omega)
  have h3:=hx (max (max N 200) (max N1 Nu)) (by omega)
  obtain⟨v'',h4⟩:=hSu (max (max N 200) (max N1 Nu)) (by omega)
  rw[zBU,zJ6 (by omega)]
  simp only[obm,Bool.not_true,Bool.false_eq_true,if_false,hsz',h1,h4]
  rw[show zAZ _ s=_ from h3]
  simp only[obm]
  rw[show eqI v.2.2 0=false from decide_eq_false h2];rfl
 rcases opd_or u (by omega) with ⟨N,h⟩|⟨z,C,oz,N3,hz⟩
 ·refine⟨max (max N 200) (max N1 N2),?_⟩
  obtain⟨v,h1,h2⟩:=h (max (max N 200) (max N1 N2)) (by omega)
  have h3:=hx (max (max N 200) (max N1 N2)) (by omega)
  have h4:=hy (max (max N 200) (max N1 N2)) (by omega)
  rw[zBU,zJ6 (by omega)]
  simp only[obm,Bool.not_true,Bool.false_eq_true,if_false,hsz',h1]
  rw[show zAZ _ s=_ from h3,show zAZ _ t=_ from h4]
  simp only[obm]
  rw[show eqI v.2.2 0=false from decide_eq_false h2];rfl
 obtain⟨M1,s1⟩:=zKk x (by have:=ox.sz;omega)
 obtain⟨M2,s2⟩:=zKk y (by have:=oy.sz;omega)
 obtain⟨M3,s3⟩:=zKk z (by have:=oz.sz;omega)
 obtain⟨D1,d1⟩:=zIV x (by have:=ox.dp;omega)
 obtain⟨D2,d2⟩:=zIV y (by have:=oy.dp;omega)
 obtain⟨D3,d3⟩:=zIV z (by have:=oz.dp;omega)
 have bsz:szT x<=20000∧szT y<=20000∧szT z<=20000:=⟨ox.sz,oy.sz,oz.sz⟩
 have cx:chk .i64 ((szT x:Int)+(szT y:Int))=some ((szT x:Int)+(szT y:Int)):=chkA (by omega) (by omega)
 have cy:chk .i64 ((szT x:Int)+(szT y:Int)+(szT z:Int))=some ((szT x:Int)+(szT y:Int)+(szT z:Int)):=chkA (by omega) (by omega)
 have guard: ∀n,max (max M1 (max M2 M3)) (max D1 (max D2 D3))<=n->((zBt n x).bind fun v53=>(zBt n y).bind fun v55=>(chk .i64 (v53+v55)).bind fun n57=>(zBt n z).bind fun v62=>(chk .i64 (n57+v62)).bind fun n64=>
  if ltI 900 n64 then some true else (zBd n x).bind fun v72=>(zBd n y).bind fun v74=>(zBd n z).bind fun v76=>some (ltI 150 (maxI (maxI v72 v74) v76)):Option Bool)=
  some (decide (¬(szT x+szT y+szT z<=900∧dpT x<=150∧dpT y<=150∧dpT z<=150))):=fun n hn=>by
  rw[show zBt n x=_ from s1 n (by omega),show zBt n y=_ from s2 n (by omega),show zBt n z=_ from s3 n (by omega)]
  simp only[obm,cx,cy]
  by_cases h9:900<szT x+szT y+szT z
  ·rw[show ltI 900 ((szT x:Int)+(szT y:Int)+(szT z:Int))=true from zqb (by omega),if_pos rfl]
   rw[zqb (by omega)]
  ·rw[show ltI 900 ((szT x:Int)+(szT y:Int)+(szT z:Int))=false from decide_eq_false (by omega),if_neg (by decide)]
   rw[show zBd n x=_ from d1 n (by omega),show zBd n y=_ from d2 n (by omega),show zBd n z=_ from d3 n (by omega)]
   simp only[obm,maxN]
   congr 1
   simp only[ltI,decide_eq_decide]
   omega
 by_cases hsm:szT x+szT y+szT z<=900∧dpT x<=150∧dpT y<=150∧dpT z<=150
 ·have H:Three s t u x y z A B C:=⟨hs,ht,hu,ox,oy,oz,hsm.1,hsm.2.1,hsm.2.2.1,hsm.2.2.2⟩
  obtain⟨N,hmain⟩:=groups_main H a b
  refine⟨max (max N 200) (max (max N1 (max N2 N3)) (max (max M1 (max M2 M3)) (max D1 (max D2 D3)))),?_⟩
  generalize hn:max (max N 200) (max (max N1 (max N2 N3)) (max (max M1 (max M2 M3)) (max D1 (max D2 D3))))=n
  have g:=guard n (by omega)
  rw[decide_eq_false (by simpa using hsm)] at g
  rw[zBU,zJ6 (by omega),obm,if_neg (by decide),if_neg (by rw[hsz'];decide),show zAZ n s=_ from hx n (by omega),obm,show zAZ n t=_ from hy n (by omega),obm,show zAZ n u=_ from hz n (by omega),obm]
  dsimp only
  rw[if_neg (by decide),if_neg (by decide),if_neg (by decide),g,obm]
  exact(if_neg (by decide: ¬false=true)).trans (hmain n (by omega))
 ·refine⟨max 200 (max (max N1 (max N2 N3)) (max (max M1 (max M2 M3)) (max D1 (max D2 D3)))),?_⟩
  generalize hn:max 200 (max (max N1 (max N2 N3)) (max (max M1 (max M2 M3)) (max D1 (max D2 D3))))=n
  have g:=guard n (by omega)
  rw[zqb hsm] at g
  rw[zBU,zJ6 (by omega),obm,if_neg (by decide),if_neg (by rw[hsz'];decide),show zAZ n s=_ from hx n (by omega),obm,show zAZ n t=_ from hy n (by omega),obm,show zAZ n u=_ from hz n (by omega),obm]
  dsimp only
  rw[if_neg (by decide),if_neg (by decide),if_neg (by decide),g,obm]
  rfl
end Go.Proofs.YtcbjbgiboimgaaaGreatDoor
