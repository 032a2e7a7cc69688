/- CanonSteps holds: for every input the law returns true. No condition. Part 5 of 19. No condition. -/
import Derived.Test.YtkdhppfdiagglaaGreatDoorCSd
import Derived.MapKept
set_option linter.unusedVariables false
set_option linter.unnecessarySimpa false
set_option linter.unusedSimpArgs false
set_option maxRecDepth 100000
set_option maxHeartbeats 4000000
namespace Go.Abs
open Go
variable {P:Program} {ops:Array Oper} {imm:Addr->Option Value} {w:World} {B:List Nat} {a:Act} {o:Oper} {v:Value} {f:FuncId} {α:Type} {x:Operand} {σ:List Nat} {ρ:List Nat} {t:TypeId} {c:Code} {bo:Option Nat} {n:Nat} {i:Nat} {pins:List Nat} {fn:Func} {xs:List Operand} {k:IntKind} {id:Nat} {args:List AV} {l:List (List AV)} {res:AV} {m:Option Place} {s:AState} {Q:Exit->AState->Prop} {g:Gh} {F:Fx} {K:AState->Prop} {R:AV->AState->Prop} {r:Res}
def keyD:TypeDesc->AV->Bool
 |.int k,.int k' _=>k'==k
 |.string,.str _=>true
 |.bool,.bool _=>true
 |_,_=>false
def eqKey:AV->AV->Bool
 |.int _ a,.int _ b=>a==b
 |.str a,.str b=>a==b
 |.bool a,.bool b=>a==b
 |_,_=>false
def findK(k:AV):List AV->Option Nat
 |[]=>none
 |x::l=>if eqKey k x then some 0 else (findK k l).map (·+1)
theorem zHj{d:TypeDesc}{x:AV}(h:keyD d x=true)(hr:Rep imm σ x v):MapKept.IsKey d v:=by
 cases d<;>cases x<;>simp only[keyD,Bool.false_eq_true,reduceCtorEq] at h
 ·cases hr;trivial
 ·cases hr
  simp only[beq_iff_eq] at h
  exact h
 ·cases hr;trivial
theorem data_eq{a b:ByteArray}(h:a.data.toList=b.data.toList):a=b:=by
 obtain⟨x⟩:=a
 obtain⟨y⟩:=b
 congr 1
 exact Array.ext' h
theorem eqKey_rep{d:TypeDesc}{x y:AV}{imm imm':Addr->Option Value}{σ σ':List Nat}{v u:Value}(hx:keyD d x=true)(hy:keyD d y=true)(hv:Rep imm σ x v)(hu:Rep imm' σ' y u):eqKey x y=true↔v=u:=by
 cases d<;>cases x<;>simp only[keyD,Bool.false_eq_true,reduceCtorEq] at hx<;>cases y<;>simp only[keyD,Bool.false_eq_true,reduceCtorEq] at hy
 ·cases hv;cases hu
  simp[eqKey]
 ·cases hv;cases hu
  simp only[beq_iff_eq] at hx hy
  subst hx;subst hy
  simp[eqKey]
 ·cases hv with
  |str s l h1 h2=>
   cases hu with
   |str s' l' h3 h4=>
    subst h1;subst h3
    simp only[eqKey,beq_iff_eq,Value.string.injEq]
    exact⟨data_eq,fun e=>by rw[e]⟩
theorem zHq{d:TypeDesc}{k:AV}{imm:Addr->Option Value}{σ:List Nat}{kv:Value}(hk:keyD d k=true)(hkr:Rep imm σ k kv){imm':Addr->Option Value}: ∀(l:List MapEntry)(ks:List AV)(i:Nat),ks.length=l.length->
 (∀(j:Nat) e x,l[j]? =some e->ks[j]? =some x->keyD d x=true∧Rep imm' [] x e.key)->
 (findK k ks=none∧Instr.findNow d kv l i=some none)∨∃j e,findK k ks=some j∧l[j]? =some e∧e.key=kv∧Instr.findNow d kv l i=some (some (i+j,e.val))
 |[],ks,i,hl,_=>by
  cases ks with
  |nil=>exact .inl ⟨rfl,rfl⟩
  |cons x ks=>simp at hl
 |e::l,[],i,hl,_=>by simp at hl
 |e::l,x::ks,i,hl,h=>by
  obtain⟨h1,h2⟩:=h 0 e x rfl rfl
  obtain⟨r,hr,hiff⟩:=MapKept.sameNow_of_keys (zHj hk hkr) (zHj h1 h2)
  have he:=eqKey_rep hk h1 hkr h2
  cases r with
  |true=>
   have e1:=hiff.1 rfl
   exact .inr ⟨0,e,by simp[findK,he.2 e1],rfl,e1.symm,by simp[Instr.findNow,hr]⟩
  |false=>
   have hne:eqKey k x=false:=by
    cases hh:eqKey k x with
    |false=>rfl
    |true=>have:=hiff.2 (he.1 hh);cases this
   rcases zHq hk hkr l ks (i+1) (by simpa using hl) (fun j e' x' h3 h4=>h (j+1) e' x' (by simpa using h3) (by simpa using h4)) with ⟨h3,h4⟩|⟨j,e',h3,h4,h5,h6⟩
   ·exact .inl ⟨by simp[findK,hne,h3],by simp[Instr.findNow,hr,h4]⟩
   ·exact .inr ⟨j+1,e',by simp[findK,hne,h3],by simpa using h4,h5,by simp[Instr.findNow,hr,h6];omega⟩
theorem Sim.allocObj(h:Sim F g s a w)(o:Obj):Sim F g s a (w.alloc o) where
 ext:=h.ext.alloc o
 sto:={h.sto with
  imm:=fun x v hx=>by rw[World.cell?_alloc_lt _ _ _ (h.sto.imm_lt hx)];exact h.sto.imm x v hx
  blk:=fun i b k hb hk=>by
   obtain⟨c,ty,h1,h2,h3⟩:=h.sto.blk i b k hb hk
   exact⟨c,ty,zHn h1,h2,fun j x hx=>⟨(h3 j x hx).1,(h3 j x hx).2.1,
    (h3 j x hx).2.2.world (fun _ _ _ _ hs=>hs.alloc (fun _ _=>rfl)) zFB (fun _ _ h=>h) zHB⟩⟩
  ownσ:=fun p k hk=>by
   have:=h.sto.ownσ p k hk
   exact⟨this.1,by simp;omega⟩}
 size:=h.size
 tmps:=fun t=>⟨(h.tmps t).1,(h.tmps t).2.world (fun _ _ _ _ hs=>hs.alloc (fun _ _=>rfl)) zFB (fun _ _ h=>h) zHB⟩
 loans:=fun t p hp=>by
  have:=h.loans t p hp
  cases p with
  |tmp t'=>exact this
  |cell b o=>
   obtain⟨k,hk,hv⟩:=this
   exact⟨k,hk,by rw[World.cell?_alloc_lt _ _ _ (h.sto.σ_lt (zq3 hk))];exact hv⟩
 defers:=h.defers
 base:=h.base
def zHb(s:AState):Res:=⟨True,.omp [] [],none,s⟩
theorem ok_makeMap(P:Program)(o:Oper)(s:AState)(t:TypeId)(ho:o.op=.makeMap t none):OpOk P o s (zHb s):=fun F g a w h=>by
 refine⟨.map (some w.heap.size),w.alloc (.map #[] 0),g,some w.heap.size,.inl ?_,h.allocObj _,.omp _ _ _,?_,?_,fun p hp=>by cases hp⟩
 ·simp[execOp,ho,Instr.makeMap,Result.andThen]
 ·intro k hk
  cases hk
  exact⟨rfl,#[],0,zEF _ _,rfl,rfl,fun i e he=>by simp at he⟩
 ·intro k hk
  cases hk
  refine⟨fun p hp=>?_,.inl h.ext.size,by simp,fun hm=>?_⟩
  ·have:=(h.sto.ownσ p _ hp).2;omega
  ·have:=h.sto.σ_lt hm;omega
theorem owner_ok(h:Sim F g s a w){t:Nat}{p:Place}(hw:s.owner t=some p):
 Rep g.imm g.σ (s.at p) (a.tmps.getD t undef)∧OwnsBy g.imm w (g.own p) (s.at p) (a.tmps.getD t undef)∧LoanOk g w a.tmps (a.tmps.getD t undef) p:=by
 simp only[AState.owner] at hw
 split at hw
 ·rename_i ho;cases hw
  have:=h.tmps t
  exact⟨this.1,this.2,rfl⟩
 ·split at hw
  ·rename_i q hq
   split at hw
   ·rename_i ho
    cases hw
    have hl:=h.loans t p hq
    refine⟨?_,?_,hl⟩
    all_goals
     cases p with
     |tmp t'=>
      simp only[LoanOk] at hl
      rw[hl]
      have:=h.tmps t'
      first|exact this.1|exact this.2
     |cell b o=>
      obtain⟨k,hk,hv⟩:=hl
      simp only[AState.at] at ho ⊢
      have hb:b<s.blocks.length:=by rw[<-h.sto.len];exact(zq1 hk).1
      obtain⟨c,ty,h3,h4,h5⟩:=h.sto.blk b _ k (zB7 [] hb) hk
      by_cases hoo:o<(s.blocks.getD b []).length
      ·have h6:=h5 o _ (zB7 AV.top hoo)
       have h7:=zDe h3 o (by omega)
       rw[hv] at h7
       rw[zqa h7]
       first|exact h6.2.1|exact h6.2.2
      ·have:(s.blocks.getD b []).getD o .top=.top:=by rw[zq5,List.getElem?_eq_none (Nat.le_of_not_lt hoo)];rfl
       rw[this] at ho;simp at ho
   ·cases hw
  ·cases hw
def AState.setAt(s:AState)(p:Place)(x:AV):AState:=
 match p with
 |.tmp t=>{s with tmps:=fun u=>if u=t then x else s.tmps u}
 |.cell b o=>{s with blocks:=s.blocks.set b ((s.blocks.getD b []).set o x)}
theorem Sim.remap{w w':World}(h:Sim F g s a w){p:Place}{k:Nat}{es es':Array MapEntry}{clock clock':Nat}{ks' vs':List AV}
 (hw:w'={w with heap:=w.heap.setIfInBounds k (.map es' clock')})
 (hown:g.own p=some k) (hk:w.heap[k]? =some (.map es clock)) (hv:LoanOk g w a.tmps (.map (some k)) p) (hm:MapAt g.imm w' k ks' vs'):Sim F g (s.setAt p (.omp ks' vs')) a w':=by
 have hsz:w'.heap.size=w.heap.size:=by rw[hw];simp
 have hoth: ∀j,j≠k->w'.heap[j]? =w.heap[j]? :=fun j hj=>by rw[hw];exact(MapKept.heap_set hk).2 j hj
 have hsame:w'.heap[k]? =some (.map es' clock'):=by rw[hw];exact(MapKept.heap_set hk).1
 have hcell: ∀x:Addr,w'.cell? x=w.cell? x:=fun x=>by
  by_cases e:x.block=k
  ·simp only[World.cell?,e,hsame,hk]
  ·simp only[World.cell?,hoth _ e]
 have hfroz: ∀x:Addr,w'.frozen? x=w.frozen? x:=fun x=>by
  by_cases e:x.block=k
  ·simp only[World.frozen?,e,hsame,hk]
  ·simp only[World.frozen?,hoth _ e]
 have hrow: ∀j,zI0 w' j=zI0 w j:=fun j=>by
  by_cases e:j=k
  ·subst e;simp only[zI0,hsame,hk]
  ·simp only[zI0,hoth _ e]
 have hkσ:k∉g.σ:=(h.sto.ownσ p k hown).1
 have hother: ∀{q:Place}{x:AV}{v:Value},q≠p->OwnsBy g.imm w (g.own q) x v->OwnsBy g.imm w' (g.own q) x v:=fun {q x v} hq ho=>
  ho.world (fun a lo hi _ hs j h1 h2=>by
   obtain⟨q1,q2,q3⟩:=hs j h1 h2
   exact⟨q1,by rw[hcell];exact q2,by rw[hfroz];exact q3⟩)
   (fun j sh _ hj=>by rw[hrow];exact hj) (fun _ _ h=>h)
   (fun k' es c hb hm=>by rw[hoth k' (fun e=>hq (h.sto.ownInj q p k (by rw[hb,e]) hown))];exact hm)
 have hme: ∀v:Value,v=.map (some k)->OwnsBy g.imm w' (g.own p) (.omp ks' vs') v:=fun v e k' hk'=>by
  subst e;cases hk';exact⟨hown,hm⟩
 have hext:Ext F g w':={h.ext with
  keep:=fun j hj hT=>by
   have hjk:j≠k:=fun e=>by
    subst e
    rcases h.ext.mineOwn p j hown with h1|h1
    ·omega
    ·exact hT h1
   rw[hoth j hjk];exact h.ext.keep j hj hT
  size:=by rw[hsz];exact h.ext.size
  os:=by rw[hw];exact h.ext.os
  tape:=by rw[hw];exact h.ext.tape
  output:=by rw[hw];exact h.ext.output}
 have hloans: ∀(n:Nat)(t:Nat) q,s.loans t=some q->LoanOk g w' a.tmps (a.tmps.getD t undef) q:=fun _ t q hq=>by
  have:=h.loans t q hq
  cases q with
  |tmp t'=>exact this
  |cell b o=>
   obtain⟨j,h1,h2⟩:=this
   exact⟨j,h1,by rw[hcell];exact h2⟩
 cases p with
 |tmp t=>
  exact {
   ext:=hext
   sto:={h.sto with
    imm:=fun x v hx=>by rw[hcell];exact h.sto.imm x v hx
    blk:=fun i blk j hb hj=>by
     obtain⟨c,ty,h1,h2,h3⟩:=h.sto.blk i blk j hb hj
     exact⟨c,ty,by rw[hoth j (fun e=>hkσ (by rw[<-e];exact zq3 hj))];exact h1,h2,fun o x hx=>
      ⟨(h3 o x hx).1,(h3 o x hx).2.1,hother (fun e=>by cases e) (h3 o x hx).2.2⟩⟩
    ownσ:=fun q j hq=>by rw[hsz];exact h.sto.ownσ q j hq}
   size:=h.size
   tmps:=fun t'=>by
    simp only[AState.setAt]
    by_cases e:t'=t
    ·subst e
     rw[if_pos rfl]
     simp only[LoanOk] at hv
     rw[<-hv]
     exact⟨.omp _ _ _,hme _ rfl⟩
    ·rw[if_neg e]
     exact⟨(h.tmps t').1,hother (fun e'=>e (by cases e';rfl)) (h.tmps t').2⟩
   loans:=fun t q hq=>hloans 0 t q hq
   defers:=h.defers
   base:=h.base}
 |cell b o=>
  obtain⟨kb,hkb,hvb⟩:=hv
  exact {
   ext:=hext
   sto:={h.sto with
    imm:=fun x v hx=>by rw[hcell];exact h.sto.imm x v hx
    len:=by simpa[AState.setAt] using h.sto.len
    blk:=fun i blk j hb hj=>by
     simp only[AState.setAt] at hb
     have hjk:w'.heap[j]? =w.heap[j]? :=hoth j (fun e=>hkσ (by rw[<-e];exact zq3 hj))
     rcases getElem?_set_cases hb with ⟨rfl,hd,rfl⟩|⟨hne,hb⟩
     ·obtain⟨c,ty,h1,h2,h3⟩:=h.sto.blk i _ j (zB7 [] hd) hj
      refine⟨c,ty,by rw[hjk];exact h1,by simpa using h2,fun q x hx=>?_⟩
      rcases getElem?_set_cases hx with ⟨rfl,hq,rfl⟩|⟨hne,hx⟩
      ·have hjkb:j=kb:=by rw[show g.σ[i]? =some j from hj] at hkb;exact zqa hkb
       have hc:=zDe h1 q (by omega)
       rw[hjkb,hvb] at hc
       rw[<-zqa hc]
       exact⟨.inl rfl,.omp _ _ _,hme _ rfl⟩
      ·obtain⟨q1,q2,q3⟩:=h3 q x hx
       exact⟨q1.imp (fun e=>by simpa using e),q2,hother (fun e=>hne (by cases e;rfl)) q3⟩
     ·obtain⟨c,ty,h1,h2,h3⟩:=h.sto.blk i blk j hb hj
      exact⟨c,ty,by rw[hjk];exact h1,h2,fun q x hx=>
       ⟨(h3 q x hx).1,(h3 q x hx).2.1,hother (fun e=>hne (by cases e;rfl)) (h3 q x hx).2.2⟩⟩
    ownσ:=fun q j hq=>by rw[hsz];exact h.sto.ownσ q j hq}
   size:=h.size
   tmps:=fun t'=>⟨(h.tmps t').1,hother (fun e=>by cases e) (h.tmps t').2⟩
   loans:=fun t q hq=>hloans 0 t q hq
   defers:=h.defers
   base:=h.base}
def lookV(ks vs:List AV)(k z:AV):AV×Bool:=
 match findK k ks with
 |some j=>((vs.getD j .top).copy,true)
 |none=>(z,false)
def zGS(P:Program)(s:AState)(t:TypeId)(x i:Operand)(ok:Bool):Option Res:=
 match P.underlying t,s.takeV x with
 |some (.map key elem),.omp ks vs=>match P.underlying key,P.info? elem with
  |some d,some inf=>match inf.zero with
   |some z=>some ⟨keyD d (s.look i)=true∧ks.all (keyD d)=true,
    if ok then .tup [(lookV ks vs (s.look i) (AV.ofConst z)).1,.bool (lookV ks vs (s.look i) (AV.ofConst z)).2] else (lookV ks vs (s.look i) (AV.ofConst z)).1,none,s⟩
   |none=>none
  |_,_=>none
 |_,_=>none
def updM(ks vs:List AV)(k v:AV):AV:=
 match findK k ks with
 |some j=>.omp ks (vs.set j v)
 |none=>.omp (ks++[k]) (vs++[v])
def zB8(P:Program)(s:AState)(t:TypeId)(x i v:Operand):Option Res:=
 match P.underlying t,x with
 |some (.map key _),.tmp tx=>match s.owner tx with
  |some p=>match s.at p,P.underlying key with
   |.omp ks vs,some d=>some ⟨keyD d (s.look i)=true∧ks.all (keyD d)=true∧(s.look v).flat=true,.top,none,
    s.setAt p (updM ks vs (s.look i) (s.look v))⟩
   |_,_=>none
  |none=>none
 |_,_=>none
theorem mapAt_keys{k:Nat}{ks vs:List AV}(h:MapAt imm w k ks vs): ∃es clock,w.heap[k]? =some (.map es clock)∧ks.length=es.toList.length∧vs.length=es.toList.length∧
 (∀(j:Nat) e x,es.toList[j]? =some e->ks[j]? =some x->Rep imm [] x e.key)∧(∀(j:Nat) e x,es.toList[j]? =some e->vs[j]? =some x->Rep imm [] x e.val):=by
 obtain⟨es,c,h1,h2,h3,h4⟩:=h
 refine⟨es,c,h1,by simpa using h2,by simpa using h3,fun j e x he hx=>?_,fun j e x he hx=>?_⟩
 all_goals
  obtain⟨x',y',e1,e2,e3,e4⟩:=h4 j e (by simpa using he)
  first
  |(rw[e1] at hx;cases hx;exact e3)
  |(rw[e2] at hx;cases hx;exact e4)
theorem ok_lookup(P:Program)(o:Oper)(s:AState)(t:TypeId)(x i:Operand)(ok:Bool)(ho:o.op=.lookup t x i ok)(r:Res)(hr:zGS P s t x i ok=some r)(hs:r.side):OpOk P o s r:=by
 unfold zGS at hr
 split at hr
 ·rename_i key elem ks vs hu htake
  split at hr
  ·rename_i d inf hd hinf
   split at hr
   ·rename_i z hz
    cases hr
    obtain⟨hkd,hall⟩:=hs
    have hown:(lookV ks vs (s.look i) (AV.ofConst z)).1.owns=false:=by
     unfold lookV
     split
     ·exact zEb _
     ·exact zIX z
    refine .same (by split<;>first|rfl|exact hown) fun F g a w h=>?_
    obtain⟨g',bo,h1,h2,h3,h4,h5,h6⟩:=zJX h x
    rw[htake] at h2 h3
    cases hx:a.eval x<;>rw[hx] at h2 h3<;>cases h2
    rename_i k
    obtain⟨_,hmap⟩:=h3 k rfl
    obtain⟨es,clock,hb,hl1,hl2,hkr,hvr⟩:=mapAt_keys hmap
    have hik:=zAT h i
    rw[List.all_eq_true] at hall
    have hcheck:=MapKept.run_checkKey (w:=w) hd (zHj hkd hik) es.isEmpty 9999
    have hf: ∃rv,Instr.findNow d (a.eval i) es.toList 0=some rv∧((rv=none∧lookV ks vs (s.look i) (AV.ofConst z)=(AV.ofConst z,false))∨
     ∃j e,rv=some (j,e.val)∧lookV ks vs (s.look i) (AV.ofConst z)=((vs.getD j .top).copy,true)∧es.toList[j]? =some e):=by
     rcases zHq hkd hik es.toList ks 0 hl1 (fun j e x he hx=>⟨hall x (zq3 hx),hkr j e x he hx⟩) with ⟨q1,q2⟩|⟨j,e,q1,q2,q3,q4⟩
     ·exact⟨_,q2,.inl ⟨rfl,by simp[lookV,q1]⟩⟩
     ·exact⟨_,q4,.inr ⟨j,e,by simp,by simp[lookV,q1],q2⟩⟩
    obtain⟨rv,hrv,hcase⟩:=hf
    have hfind:=MapKept.run_findKey (w:=w) hd hrv
    rcases hcase with ⟨rfl,hlv⟩|⟨j,e,rfl,hlv,hje⟩
    ·rw[hlv]
     have hzr:=(zFD (imm:=g.imm) (σ:=g.σ) z)
     cases ok with
     |true=>
      refine⟨.tuple #[z,.bool false],?_,?_,fun p hp=>by cases hp⟩
      ·simp[execOp,ho,Instr.lookup,run_underlying hu,hx,MapKept.run_getObj_map hb,hcheck,hfind,Result.andThen,zeroValue,typeInfo,hinf,hz]
      ·exact .tup _ _ rfl (fun i x hx=>by
        rcases i with _|_|i<;>simp at hx<;>subst hx
        ·exact hzr
        ·exact .bool _)
     |false=>
      refine⟨z,?_,hzr,fun p hp=>by cases hp⟩
      simp[execOp,ho,Instr.lookup,run_underlying hu,hx,MapKept.run_getObj_map hb,hcheck,hfind,Result.andThen,zeroValue,typeInfo,hinf,hz]
    ·rw[hlv]
     have hjl:j<vs.length:=by rw[hl2];exact(zq1 hje).1
     have hzr:Rep g.imm g.σ (vs.getD j .top).copy e.val:=by
      have:=hvr j e _ hje (zB7 AV.top hjl)
      rw[h5] at this
      exact(this.mono (fun _ _ h=>h) (fun b k h=>by simp at h)).copy
     cases ok with
     |true=>
      refine⟨.tuple #[e.val,.bool true],?_,?_,fun p hp=>by cases hp⟩
      ·simp[execOp,ho,Instr.lookup,run_underlying hu,hx,MapKept.run_getObj_map hb,hcheck,hfind,Result.andThen]
      ·exact .tup _ _ rfl (fun i x hx=>by
        rcases i with _|_|i<;>simp at hx<;>subst hx
        ·exact hzr
        ·exact .bool _)
     |false=>
      refine⟨e.val,?_,hzr,fun p hp=>by cases hp⟩
      simp[execOp,ho,Instr.lookup,run_underlying hu,hx,MapKept.run_getObj_map hb,hcheck,hfind,Result.andThen]
   ·cases hr
  ·cases hr
 ·cases hr
theorem zG9(P:Program)(o:Oper)(s:AState)(t:TypeId)(x i v:Operand)(ho:o.op=.mapUpdate t x i v∨o.op=.insert t x i v)(r:Res)(hr:zB8 P s t x i v=some r)(hs:r.side):OpOk P o s r:=by
 unfold zB8 at hr
 split at hr
 ·rename_i key elem tx hu
  split at hr
  ·rename_i p hp
   split at hr
   ·rename_i ks vs d hat hd
    cases hr
    obtain⟨hkd,hall,hflat⟩:=hs
    intro F g a w h
    obtain⟨h1,h2,h3⟩:=owner_ok h hp
    rw[hat] at h1 h2
    cases hx:a.tmps.getD tx undef<;>rw[hx] at h1 h2 h3<;>cases h1
    rename_i k
    obtain⟨hown,hmap⟩:=h2 k rfl
    have hmap':=hmap
    obtain⟨es,clock,hb,hm1,hm2,hm3⟩:=hmap'
    obtain⟨es0,c0,hb0,hl1,hl2,hkr,hvr⟩:=mapAt_keys hmap
    rw[hb] at hb0
    cases hb0
    have hik:=zAT h i
    have hiv:Rep g.imm [] (s.look v) (a.eval v):=(zAT h v).flat hflat
    have hik0:Rep g.imm [] (s.look i) (a.eval i):=hik.flat (by cases d<;>cases hz:s.look i<;>rw[hz] at hkd<;>first|rfl|cases hkd)
    rw[List.all_eq_true] at hall
    have hcheck:=MapKept.run_checkKey (w:=w) hd (zHj hkd hik) false 9999
    have hx':a.eval (.tmp tx)=.map (some k):=hx
    rcases zHq hkd hik es.toList ks 0 hl1 (fun j e x he hx=>⟨hall x (zq3 hx),hkr j e x he hx⟩) with ⟨q1,q2⟩|⟨j,e,q1,q2,q3,q4⟩
    ·have hfind:=MapKept.run_findKey (w:=w) hd q2
     simp only[updM,q1]
     refine⟨undef,_,g,none,.inr ⟨?_,rfl⟩,h.remap (es':=es.push {key:=a.eval i,val:=a.eval v,born:=clock}) (clock':=clock+1) rfl hown hb h3 ?_,.top _,trivial,Floating.none,fun p hp=>by cases hp⟩
     ·rcases ho with ho|ho<;>
       simp[execOp,ho,Instr.mapUpdate,run_underlying hu,hx',MapKept.run_getObj_map hb,hcheck,hfind,MapKept.run_setObj_map _ hb,Result.andThen]
     ·refine⟨_,_,(MapKept.heap_set hb).1,by simp[hm1],by simp[hm2],fun n en hen=>?_⟩
      rw[Array.getElem?_push] at hen
      split at hen
      ·rename_i hn
       cases hen
       subst hn
       refine⟨s.look i,s.look v,?_,?_,hik0,hiv⟩
       ·rw[<-hm1];simp
       ·rw[<-hm2];simp
      ·obtain⟨x',y',e1,e2,e3,e4⟩:=hm3 n en hen
       exact⟨x',y',by rw[List.getElem?_append_left (zq1 e1).1];exact e1,by rw[List.getElem?_append_left (zq1 e2).1];exact e2,e3,e4⟩
    ·have hfind:=MapKept.run_findKey (w:=w) hd q4
     have hj:es[j]? =some e:=by simpa using q2
     simp only[updM,q1]
     have hstay:=MapKept.run_keyThatStays (P:=P) (w:=w) (zHj hkd hik)
     refine⟨undef,_,g,none,.inr ⟨?_,rfl⟩,h.remap (es':=es.modify j fun e=>{e with key:=a.eval i,val:=a.eval v}) (clock':=clock) rfl hown hb h3 ?_,.top _,trivial,Floating.none,fun p hp=>by cases hp⟩
     ·rcases ho with ho|ho<;>
       simp[execOp,ho,Instr.mapUpdate,run_underlying hu,hx',MapKept.run_getObj_map hb,hcheck,hfind,hj,q3,hstay,MapKept.run_setObj_map _ hb,Result.andThen]
     ·refine⟨_,_,(MapKept.heap_set hb).1,by simp[hm1],by simp[hm2],fun n en hen=>?_⟩
      rw[Array.getElem?_modify] at hen
      split at hen
      ·rename_i hn
       subst hn
       rw[hj] at hen
       cases hen
       obtain⟨x',y',e1,e2,e3,e4⟩:=hm3 j e hj
       refine⟨x',s.look v,e1,?_,by show Rep g.imm [] x' (a.eval i);rw[<-q3];exact e3,hiv⟩
       rw[List.getElem?_set_self (zq1 e2).1]
      ·rename_i hn
       obtain⟨x',y',e1,e2,e3,e4⟩:=hm3 n en hen
       exact⟨x',y',e1,by rw[List.getElem?_set_ne hn];exact e2,e3,e4⟩
   ·cases hr
  ·cases hr
 ·cases hr
def mapOp(P:Program)(s:AState):Op->Option Res
 |.makeMap _ none=>some (zHb s)
 |.lookup t x i ok=>zGS P s t x i ok
 |.mapUpdate t x i v=>zB8 P s t x i v
 |.insert t x i v=>zB8 P s t x i v
 |_=>none
theorem mapOp_ok(h:mapOp P s o.op=some r)(hs:r.side):OpOk P o s r:=by
 unfold mapOp at h
 split at h
 ·rename_i t ho;cases h;exact ok_makeMap P o s t ho
 ·rename_i t x i ok ho;exact ok_lookup P o s t x i ok ho r h hs
 ·rename_i t x i v ho;exact zG9 P o s t x i v (.inl ho) r h hs
 ·rename_i t x i v ho;exact zG9 P o s t x i v (.inr ho) r h hs
 ·cases h
theorem mapOp_frame{op:Op}(h:mapOp P s op=some r):r.st.n=s.n∧r.st.loans=s.loans∧r.loan=none:=by
 have hset: ∀(p:Place)(x:AV),(s.setAt p x).n=s.n∧(s.setAt p x).loans=s.loans:=fun p x=>by cases p<;>exact⟨rfl,rfl⟩
 have hup: ∀{t x i v},zB8 P s t x i v=some r->r.st.n=s.n∧r.st.loans=s.loans∧r.loan=none:=fun {t x i v} h=>by
  unfold zB8 at h
  split at h
  ·split at h
   ·split at h
    ·cases h;exact⟨(hset _ _).1,(hset _ _).2,rfl⟩
    ·cases h
   ·cases h
  ·cases h
 unfold mapOp at h
 split at h
 ·cases h;exact⟨rfl,rfl,rfl⟩
 ·unfold zGS at h
  split at h
  ·split at h
   ·split at h
    ·cases h;exact⟨rfl,rfl,rfl⟩
    ·cases h
   ·cases h
  ·cases h
 ·exact hup h
 ·exact hup h
 ·cases h
section
variable {β:Type}
def mks(m:List (List UInt8×β)):List AV:=m.map fun q=>.str q.1
def mvs(f:β->AV)(m:List (List UInt8×β)):List AV:=m.map fun q=>f q.2
theorem mks_nil:mks ([]:List (List UInt8×β))=[]:=rfl
theorem mvs_nil(f:β->AV):mvs f []=[]:=rfl
end
def Enters (P:Program) (f:FuncId):Prop:= ∃fn,P.funcs[f]? =some fn∧(fn.name== "runtime.NumGoroutine")=false∧fn.body.isNone=false
theorem Enters.run(h:Enters P f)(args:Array Value)(w:World):(callFunc f args).run P w=.ok (.enter f args) w:=by
 obtain⟨fn,h1,h2,h3⟩:=h
 simp only[callFunc,Sem.run_bind,run_program,Result.andThen_ok,h1,h2,h3,Bool.false_eq_true,if_false,Sem.run_pure]
def Pure(P:Program)(f:FuncId)(args:List AV)(res:AV):Prop:=
 Enters P f∧∀(imm:Addr->Option Value)(w:World)(vals:Array Value),(∀x v,imm x=some v->w.cell? x=some v)->GOk imm->Tabs w->RepL imm [] args vals->
  Calls P f vals w fun e w'=> ∃imm' v,e=.returned v∧Rep imm' [] res v∧(∀x v,imm x=some v->imm' x=some v)∧(∀x v,imm' x=some v->w'.cell? x=some v)∧
   RowKit.Below w.heap.size w w'∧(∀x v,imm' x=some v->imm x=some v∨w.heap.size<=x.block)
def Raw(P:Program)(f:FuncId)(args:List AV)(bs:List (List AV))(res:AV)(bs':List (List AV)):Prop:=
 Enters P f∧∀(g:Gh)(w:World)(vals:Array Value),Sto g bs w->(∀t,g.own (.tmp t)=none)->TG g w->RepL g.imm g.σ args vals->
  Calls P f vals w fun e w'=> ∃g' v,e=.returned v∧Rep g'.imm g'.σ res v∧Sto g' bs' w'∧Ext ⟨w,g⟩ g' w'∧(∀t,g'.own (.tmp t)=none)
def zJS(P:Program)(o:Oper)(s s':AState):Prop:=
 ∀F g a w,Sim F g s a w->∀(K:Act->World->Prop)(Q:Exit->Act->World->Prop),(∀g' a' w',Sim F g' s' a' w'->K a' w')->o.wp P a w K Q
theorem OpOk.step(h:OpOk P o s r):zJS P o s (s.putR o.dst r):=fun F g a w hs K Q hK=>by
 obtain⟨v,w',g',bo,hrun,h1,h2,h3,h4,h5⟩:=h F g a w hs
 have hnext:K (a.put o.dst v) w':=by
  cases hd:o.dst with
  |none=>exact hK _ _ _ (by simpa[AState.putR,hd,Act.put] using h1)
  |some d=>
   have hput:=h1.putL d bo r.loan h2 h3 h4 h5
   have e:s.putR (some d) r=r.st.putL d r.val r.loan:=rfl
   rw[hd,e] at hK
   exact hK _ _ _ hput
 rcases hrun with hrun|⟨hrun,rfl⟩
 ·simpa only[Oper.wp,hrun,Oper.upon] using hnext
 ·simpa only[Oper.wp,hrun,Oper.upon] using hnext
def AState.called(s:AState)(d:Option Nat)(res:AV)(bs':List (List AV)):AState:=
 ({s with blocks:=bs',loans:=fun t=>match s.loans t with|some (.tmp u)=>some (.tmp u)|_=>none}:AState).putO d res
theorem repL_nil_σ{σ σ':List Nat}{l:List AV}{c:Array Value}(h:RepL imm σ l c)(hf:AV.flatL l=true):RepL imm σ' l c:=
 ⟨h.1,fun i x hx=>(h.2 i x hx).flat (zGU hf hx)⟩
theorem Sim.after{g g':Gh}{w w':World}{bs':List (List AV)}(h:Sim F g s a w)(h0: ∀t,g'.own (.tmp t)=none)
 (hsto:Sto g' bs' w') (hext:Ext ⟨w,{g with own:=fun p=>match p with|.tmp _=>none|q=>g.own q}⟩ g' w'):
 Sim F {g' with own:=fun p=>match p with|.tmp t=>g.own (.tmp t)|q=>g'.own q}
  {s with blocks:=bs',loans:=fun t=>match s.loans t with|some (.tmp u)=>some (.tmp u)|_=>none} a w':=by
 generalize hF:(⟨w,{g with own:=fun p=>match p with|.tmp _=>none|q=>g.own q}⟩:Fx)=F2 at hext
 have hw0:F2.w0=w:=by rw[<-hF]
 have hg0i:F2.g0.imm=g.imm:=by rw[<-hF]
 have hg0σ:F2.g0.σ=g.σ:=by rw[<-hF]
 have hT: ∀k,F2.T k->k∈g.σ∨∃b o,g.own (.cell b o)=some k:=fun k hk=>by
  rw[<-hF] at hk;exact hk
 have hTm: ∀k,F2.T k->F.mine k:=fun k hk=>by
  rcases hT k hk with hk|⟨b,o,hk⟩
  ·exact h.ext.mineσ k hk
  ·exact h.ext.mineOwn _ k hk
 have hmine: ∀k,F2.mine k->F.mine k:=fun k hk=>by
  rcases hk with hk|hk
  ·rw[hw0] at hk;exact .inl (Nat.le_trans h.ext.size hk)
  ·exact hTm k hk
 have hframe: ∀t k,g.own (.tmp t)=some k->k<w.heap.size∧¬F2.T k∧k∉g'.σ∧(∀p,g'.own p≠some k):=fun t k hk=>by
  have h1:=h.sto.ownσ _ _ hk
  have h2: ¬F2.T k:=fun hT'=>by
   rcases hT k hT' with h3|⟨b,o,h3⟩
   ·exact h1.1 h3
   ·have:=h.sto.ownInj _ _ k hk h3;cases this
  have h3: ¬F2.mine k:=fun hm=>by
   rcases hm with hm|hm
   ·rw[hw0] at hm;omega
   ·exact h2 hm
  exact⟨h1.2,h2,fun hm=>h3 (hext.mineσ k hm),fun p hp=>h3 (hext.mineOwn p k hp)⟩
 have himm: ∀x v,g.imm x=some v->g'.imm x=some v:=fun x v hx=>hext.imm x v (by rw[hg0i];exact hx)
 have hσ: ∀(b k:Nat),g.σ[b]? =some k->g'.σ[b]? =some k:=fun b k hb=>hext.σ b k (by rw[hg0σ];exact hb)
 exact {
  ext:={
   gfx:=h.ext.gfx
   imm:=fun x v hx=>himm x v (h.ext.imm x v hx)
   immNew:=fun x v hx=>by
    rcases hext.immNew x v hx with h1|h1
    ·rw[hg0i] at h1;exact h.ext.immNew x v h1
    ·exact .inr (hmine _ h1)
   σ:=fun b k hb=>hσ b k (h.ext.σ b k hb)
   mineσ:=fun k hk=>hmine k (hext.mineσ k hk)
   mineOwn:=fun p k hk=>by
    cases p with
    |tmp t=>exact h.ext.mineOwn _ k hk
    |cell b o=>exact hmine k (hext.mineOwn _ k hk)
   keep:=fun k hk hT'=>by
    have h2: ¬F2.T k:=fun h3=>by
     rcases hTm k h3 with h4|h4
     ·omega
     ·exact hT' h4
    have:=hext.keep k (by rw[hw0];exact Nat.lt_of_lt_of_le hk h.ext.size) h2
    rw[this,hw0];exact h.ext.keep k hk hT'
   size:=by have:=hext.size;rw[hw0] at this;exact Nat.le_trans h.ext.size this
   os:=by rw[hext.os,hw0];exact h.ext.os
   tape:=by rw[hext.tape,hw0];exact h.ext.tape
   output:=by rw[hext.output,hw0];exact h.ext.output}
  sto:={hsto with
   blk:=fun i b k hb hk=>by
    obtain⟨c,ty,h1,h2,h3⟩:=hsto.blk i b k hb hk
    exact⟨c,ty,h1,h2,h3⟩
   ownσ:=fun p k hk=>by
    cases p with
    |tmp t=>
     have:=hframe t k hk
     have h5:=hext.size
     rw[hw0] at h5
     exact⟨this.2.2.1,by omega⟩
    |cell b o=>exact hsto.ownσ _ k hk
   ownInj:=fun p q k hp hq=>by
    cases p with
    |tmp t=>
     cases q with
     |tmp u=>exact h.sto.ownInj _ _ k hp hq
     |cell b o=>exact((hframe t k hp).2.2.2 _ hq).elim
    |cell b o=>
     cases q with
     |tmp u=>exact((hframe u k hq).2.2.2 _ hp).elim
     |cell b' o'=>exact hsto.ownInj _ _ k hp hq}
  size:=h.size
  tmps:=fun t=>by
   obtain⟨h1,h2⟩:=h.tmps t
   refine⟨h1.mono himm hσ,h2.world (fun x lo hi hx hs=>fun j hj1 hj2=>?_) (fun k sh hk hsh=>by
    obtain⟨f1,f2,f3,f4⟩:=hframe t k hk
    have hkk:=hext.keep k (by rw[hw0];exact f1) f2
    rw[hw0] at hkk
    exact zGg hkk hsh) himm (fun k es c hk hm=>by
    obtain⟨f1,f2,f3,f4⟩:=hframe t k hk
    have hkk:=hext.keep k (by rw[hw0];exact f1) f2
    rw[hw0] at hkk
    rw[hkk];exact hm)⟩
   obtain⟨h3,⟨u,hu⟩,h5⟩:=hs j hj1 hj2
   obtain⟨f1,f2,f3,f4⟩:=hframe t x.block hx
   have hblk:(x.add j).block=x.block:=zFV x j
   have hk:=hext.keep x.block (by rw[hw0];exact f1) f2
   rw[hw0] at hk
   refine⟨?_,⟨u,?_⟩,?_⟩
   ·cases hn:g'.imm (x.add j) with
    |none=>first|rfl|exact hn
    |some y=>
     rcases hext.immNew _ y hn with h6|h6
     ·rw[hg0i,h3] at h6;cases h6
     ·rw[hblk] at h6
      rcases h6 with h6|h6
      ·rw[hw0] at h6;omega
      ·exact(f2 h6).elim
   ·rw[World.cell?_of_block (w:=w) (by rw[hblk];exact hk)];exact hu
   ·rw[World.frozen?_of_block (w:=w) (by rw[hblk];exact hk)];exact h5
  loans:=fun t p hp=>by
   simp only at hp
   split at hp
   ·rename_i u hu
    cases hp
    exact h.loans t _ hu
   ·cases hp
  defers:=h.defers
  base:=h.base}
theorem Ext.refl'(w:World)(g:Gh)(hlt: ∀k,k∈g.σ->k<w.heap.size)(h0: ∀t,g.own (.tmp t)=none)(htg:TG g w):Ext ⟨w,g⟩ g w where
 gfx:=htg.fx
 imm:=fun _ _ h=>h
 immNew:=fun _ _ h=>.inl h
 σ:=fun _ _ h=>h
 mineσ:=fun k hk=>.inr (.inl hk)
 mineOwn:=fun p k hk=>by
  cases p with
  |tmp t=>rw[h0] at hk;cases hk
  |cell b o=>exact .inr (.inr ⟨b,o,hk⟩)
 keep:=fun _ _ _=>rfl
 size:=Nat.le_refl _
 os:=rfl
 tape:=rfl
 output:=rfl
theorem Sim.callee(h:Sim F g s a w):Sto {g with own:=fun p=>match p with|.tmp _=>none|q=>g.own q} s.blocks w:={h.sto with
 blk:=fun i b k hb hk=>by
  obtain⟨c,ty,h1,h2,h3⟩:=h.sto.blk i b k hb hk
  exact⟨c,ty,h1,h2,h3⟩
 ownσ:=fun p k hk=>by
  cases p with
  |tmp t=>cases hk
  |cell b o=>exact h.sto.ownσ _ k hk
 ownInj:=fun p q k hp hq=>by
  cases p with
  |tmp t=>cases hp
  |cell b o=>
   cases q with
   |tmp t=>cases hq
   |cell b' o'=>exact h.sto.ownInj _ _ k hp hq}
def zAz(s:AState)(first captured:List AV)(args:Array Operand):List AV:=first++(args.toList.map fun x=>(s.look x).norm)++captured
theorem RepL.append{l l':List AV}{c c':Array Value}(h:RepL imm σ l c)(h':RepL imm σ l' c'):RepL imm σ (l++l') (c++c'):=by
 refine⟨by simp[h.1,h'.1],fun i x hx=>?_⟩
 rcases zBs hx with ⟨hlt,hx1⟩|⟨k,rfl,hx1⟩
 ·have:=h.2 i x hx1
  rw[zq6,Array.getElem?_append_left (by rw[h.1];exact hlt),<-zq6];exact this
 ·have:=h'.2 k x hx1
  rw[zq6,Array.getElem?_append_right (by rw[h.1];omega),h.1,show l.length+k-l.length=k by omega,<-zq6];exact this
theorem zJr(h:Sim F g s a w)(xs:Array Operand):RepL g.imm g.σ (xs.toList.map fun x=>(s.look x).norm) (xs.map a.eval):=by
 refine⟨by simp,fun i x hx=>?_⟩
 obtain⟨y,hy,rfl⟩:=getElem?_map_some hx
 rw[Array.getElem?_toList] at hy
 rw[zq6,Array.getElem?_map,hy]
 exact(zAT h y).norm
theorem ok_call{c:Call}{first captured:List AV}(ho:o.op=.call c)(hc:c.callee=.value x)(hx:s.look x=.fn (.func f) first captured)
 {res:AV} {bs':List (List AV)} (h:Raw P f (zAz s first captured c.args) s.blocks res bs') (hres:res.owns=false):zJS P o s (s.called o.dst res bs'):=fun F g a w hs K Q hK=>by
 have he:=zAT hs x
 rw[hx] at he
 cases hv:a.eval x with
 |func fn fv cv=>
  rw[hv] at he
  cases he with
  |fn _ _ _ _ _ hf hcv rf rc=>
   have hargs:RepL g.imm g.σ (zAz s first captured c.args) ((fv++c.args.map a.eval)++cv):=RepL.append (RepL.append ⟨hf,rf⟩ (zJr hs c.args)) ⟨hcv,rc⟩
   have hrun:(execOp a.eval o).run P w=.ok (.enter f ((fv++c.args.map a.eval)++cv)) w:=by
    simp only[execOp,ho,Sem.run_bind,resolve,hc,hv,Deferred.ofValue,Sem.run_pure,Result.andThen_ok,invoke,h.1.run]
   simp only[Oper.wp,hrun,Oper.upon]
   refine(h.2 _ w _ hs.callee (fun t=>rfl) hs.ext.tg.callee hargs).mono fun e w'=>?_
   rintro⟨g',v,rfl,h1,h2,h3,h4⟩
   have hsim:=hs.after h4 h2 h3
   show K (a.put o.dst v) w'
   cases hd:o.dst with
   |none=>exact hK _ _ _ (by simpa[AState.called,AState.putO,hd,Act.put] using hsim)
   |some d=>
    have hput:=hsim.putTmp d none (x:=res) (v:=v) h1 (OwnsBy.of_not hres) Floating.none
    rw[hd] at hK
    exact hK _ _ _ hput
 |_=>rw[hv] at he;cases he
theorem toList_eq1{l:Array α}{x:α}(h:l.toList=[x]):l=#[x]:=by apply Array.ext';simpa using h
theorem toList_eq3{l:Array α}{x y z:α}(h:l.toList=[x,y,z]):l=#[x,y,z]:=by apply Array.ext';simpa using h
theorem zJ1{l:Array α}{x y:α}(h:l.toList=[x,y]):l=#[x,y]:=by apply Array.ext';simpa using h
def zD6(P:Program)(s:AState)(c:Call)(b:Builtin):Option Res:=
 match b,c.args.toList with
 |.len,[x]=>resLn P s c.argTypes x
 |.append,[x,y]=>zLk P s c.argTypes x y
 |.min,[x,y]=>resMM s false x y
 |.max,[x,y]=>resMM s true x y
 |.max,[x,y,z]=>resM3 s x y z
 |_,_=>none
def zHO(P:Program)(s:AState):Op->Option Res
 |.move x=>some (zLI s x)
 |.assign x=>some (zI1 s x)
 |.pick c x y=>some (zJ8 s c x y)
 |.alloc t=>zG4 P s t
 |.box t x=>some (resBox P s t x)
 |.build t parts=>zIV P s t parts
 |.buildSlice t n parts=>zDc P s t n parts
 |.makeSlice t l c=>resMk P s t l c
 |.load t x=>zIJ P s t x
 |.store t x y=>zF4 P s t x y
 |.nilCheck x=>zFC s x
 |.binOp op t x y _=>resBn P s op t x y
 |.unOp op _ x=>resUn s op x
 |.convert src dst x=>zKB P s src dst x
 |.makeInterface t x=>zIS P s t x
 |.makeFunc f first captured=>some (resFunc s f first captured)
 |.slice t x lo hi none=>zG2 P s t x lo hi
 |.slice t x lo hi (some m)=>zG1 P s t x lo hi m
 |.fieldAddr t x f=>zEh P s t x f
 |.indexAddr t x i=>resIx P s t x i
 |.index t x i=>resIdx P s t x i
 |.field t x f=>zIT P s t x f
 |.extract x i=>zCK s x i
 |.call c=>match c.callee with
  |.builtin b=>zD6 P s c b
  |_=>none
 |_=>none
theorem zMR(h:zHO P s o.op=some r)(hs:r.side):OpOk P o s r:=by
 cases ho:o.op<;>rw[ho] at h<;>simp only[zHO,reduceCtorEq] at h
 case move x=>cases h;exact ok_move P o s x ho
 case assign x=>cases h;exact ok_assign P o s x ho
 case pick c x y=>cases h;exact ok_pick P o s c x y ho hs
 case alloc t=>exact ok_alloc P o s t ho r h hs
 case box t x=>cases h;exact ok_box P o s t x ho hs
 case build t parts=>exact ok_build P o s t parts ho r h hs
 case buildSlice t n parts=>exact ok_buildSlice P o s t n parts ho r h hs
 case makeSlice t l c=>exact ok_mk P o s t l c ho r h hs
 case load t x=>exact ok_load P o s t x ho r h hs
 case store t x y=>exact ok_store P o s t x y ho r h hs
 case nilCheck x=>exact ok_nilCheck P o s x ho r h hs
 case binOp op t x y t'=>exact ok_bn P o s op t t' x y ho r h hs
 case unOp op t x=>exact ok_un P o s op t x ho r h hs
 case convert src dst x=>exact ok_conv P o s src dst x ho r h hs
 case makeInterface t x=>exact ok_iface P o s t x ho r h hs
 case makeFunc f first captured=>cases h;exact ok_func P o s f first captured ho
 case slice t x lo hi mx=>
  cases mx with
  |none=>exact ok_slice P o s t x lo hi ho r h hs
  |some m=>exact ok_slice3 P o s t x lo hi m ho r h hs
 case fieldAddr t x f=>exact ok_fieldAddr P o s t x f ho r h hs
 case indexAddr t x i=>exact ok_ix P o s t x i ho r h hs
 case index t x i=>exact ok_idx P o s t x i ho r h hs
 case field t x f=>exact ok_field P o s t x f ho r h hs
 case extract x i=>exact zKL P o s x i ho r h hs
 case call c=>
  obtain⟨callee,args,argTypes⟩:=c
  cases callee with
  |builtin b=>
   simp only[zD6] at h
   split at h
   ·rename_i x hx
    have:=toList_eq1 hx;subst this
    exact ok_ln P o s argTypes x ho r h hs
   ·rename_i x y hx
    have:=zJ1 hx;subst this
    exact ok_app P o s argTypes x y ho r h hs
   ·rename_i x y hx
    have:=zJ1 hx;subst this
    exact ok_mm P o s argTypes false x y ho r h hs
   ·rename_i x y hx
    have:=zJ1 hx;subst this
    exact ok_mm P o s argTypes true x y ho r h hs
   ·rename_i x y z hx
    have:=toList_eq3 hx;subst this
    exact ok_m3 P o s argTypes x y z ho r h hs
   ·cases h
  |value x=>simp at h
  |invoke x m=>simp at h
theorem zHA{c:Call}{first captured:List AV}(ho:o.op=.call c)(hc:c.callee=.value x)(hx:s.look x=.fn (.func f) first captured)
 {res:AV} (h:Pure P f (zAz s first captured c.args) res) (hfl:AV.flatL (zAz s first captured c.args)=true) (hres:res.owns=false):zJS P o s (s.putO o.dst res):=fun F g a w hs K Q hK=>by
 have he:=zAT hs x
 rw[hx] at he
 cases hv:a.eval x with
 |func fn fv cv=>
  rw[hv] at he
  cases he with
  |fn _ _ _ _ _ hf hcv rf rc=>
   have hargs:RepL g.imm g.σ (zAz s first captured c.args) ((fv++c.args.map a.eval)++cv):=RepL.append (RepL.append ⟨hf,rf⟩ (zJr hs c.args)) ⟨hcv,rc⟩
   have hrun:(execOp a.eval o).run P w=.ok (.enter f ((fv++c.args.map a.eval)++cv)) w:=by
    simp only[execOp,ho,Sem.run_bind,resolve,hc,hv,Deferred.ofValue,Sem.run_pure,Result.andThen_ok,invoke,h.1.run]
   simp only[Oper.wp,hrun,Oper.upon]
   refine(h.2 g.imm w _ hs.sto.imm hs.sto.gok hs.ext.tabs (repL_nil_σ hargs hfl)).mono fun e w'=>?_
   rintro⟨imm',v,rfl,h1,h2,h3,h4,h5⟩
   have hsim:=hs.grow h2 h3 h4 h5
   show K (a.put o.dst v) w'
   cases hd:o.dst with
   |none=>exact hK _ _ _ (by simpa[AState.putO,hd,Act.put] using hsim)
   |some d=>
    have hput:=hsim.putTmp d none (x:=res) (v:=v) (h1.mono (fun _ _ h=>h) (fun _ _ h=>by simp at h)) (OwnsBy.of_not hres) Floating.none
    rw[hd] at hK
    exact hK _ _ _ hput
 |_=>rw[hv] at he;cases he
def ResK(s:AState)(dst:Option Nat)(r:Option Res)(K:AState->Prop):Prop:=
 match r with
 |some r=>r.side∧K (s.putR dst r)
 |none=>False
@[simp ↓] theorem ResK_some(s:AState)(dst:Option Nat)(r:Res)(K:AState->Prop):ResK s dst (some r) K=(r.side∧K (s.putR dst r)):=Eq.trans rfl rfl
@[simp ↓] theorem ResK_none(s:AState)(dst:Option Nat)(K:AState->Prop):ResK s dst none K=False:=Eq.trans rfl rfl
def zCy(s:AState)(first captured:List AV)(args:Array Operand):List AV:=first++(args.toList.map fun x=>s.look x)++captured
theorem repL_look(h:Sim F g s a w)(xs:Array Operand):RepL g.imm g.σ (xs.toList.map fun x=>s.look x) (xs.map a.eval):=by
 refine⟨by simp,fun i x hx=>?_⟩
 obtain⟨y,hy,rfl⟩:=getElem?_map_some hx
 rw[Array.getElem?_toList] at hy
 rw[zq6,Array.getElem?_map,hy]
 exact zAT h y
def PureO(P:Program)(f:FuncId)(args:List AV)(ec:EC)(l:List (List AV)):Prop:=
 Enters P f∧∀(imm:Addr->Option Value)(w:World)(vals:Array Value),(∀x v,imm x=some v->w.cell? x=some v)->GOk imm->Tabs w->RepL imm [] args vals->
  Calls P f vals w fun e w'=> ∃imm' v bo,e=.returned v∧Rep imm' [] (.osl ec l) v∧OwnsBy imm' w' bo (.osl ec l) v∧(∀k,bo=some k->w.heap.size<=k∧k<w'.heap.size)∧
   (∀x v,imm x=some v->imm' x=some v)∧(∀x v,imm' x=some v->w'.cell? x=some v)∧RowKit.Below w.heap.size w w'∧(∀x v,imm' x=some v->imm x=some v∨w.heap.size<=x.block)
theorem zJg{c:Call}{first captured:List AV}(ho:o.op=.call c)(hc:c.callee=.value x)(hx:s.look x=.fn (.func f) first captured)
 {res:AV} (h:Pure P f (zCy s first captured c.args) res) (hfl:AV.flatL (zCy s first captured c.args)=true) (hres:res.owns=false):zJS P o s (s.putO o.dst res):=fun F g a w hs K Q hK=>by
 have he:=zAT hs x
 rw[hx] at he
 cases hv:a.eval x with
 |func fn fv cv=>
  rw[hv] at he
  cases he with
  |fn _ _ _ _ _ hf hcv rf rc=>
   have hargs:RepL g.imm g.σ (zCy s first captured c.args) ((fv++c.args.map a.eval)++cv):=RepL.append (RepL.append ⟨hf,rf⟩ (repL_look hs c.args)) ⟨hcv,rc⟩
   have hrun:(execOp a.eval o).run P w=.ok (.enter f ((fv++c.args.map a.eval)++cv)) w:=by
    simp only[execOp,ho,Sem.run_bind,resolve,hc,hv,Deferred.ofValue,Sem.run_pure,Result.andThen_ok,invoke,h.1.run]
   simp only[Oper.wp,hrun,Oper.upon]
   refine(h.2 g.imm w _ hs.sto.imm hs.sto.gok hs.ext.tabs (repL_nil_σ hargs hfl)).mono fun e w'=>?_
   rintro⟨imm',v,rfl,h1,h2,h3,h4,h5⟩
   have hsim:=hs.grow h2 h3 h4 h5
   show K (a.put o.dst v) w'
   cases hd:o.dst with
   |none=>exact hK _ _ _ (by simpa[AState.putO,hd,Act.put] using hsim)
   |some d=>
    have hput:=hsim.putTmp d none (x:=res) (v:=v) (h1.mono (fun _ _ h=>h) (fun _ _ h=>by simp at h)) (OwnsBy.of_not hres) Floating.none
    rw[hd] at hK
    exact hK _ _ _ hput
 |_=>rw[hv] at he;cases he
theorem ok_call_pureO{c:Call}{first captured:List AV}(ho:o.op=.call c)(hc:c.callee=.value x)(hx:s.look x=.fn (.func f) first captured)
 {ec:EC} {l:List (List AV)} (h:PureO P f (zCy s first captured c.args) ec l) (hfl:AV.flatL (zCy s first captured c.args)=true):zJS P o s (s.putO o.dst (.osl ec l)):=fun F g a w hs K Q hK=>by
 have he:=zAT hs x
 rw[hx] at he
 cases hv:a.eval x with
 |func fn fv cv=>
  rw[hv] at he
  cases he with
  |fn _ _ _ _ _ hf hcv rf rc=>
   have hargs:RepL g.imm g.σ (zCy s first captured c.args) ((fv++c.args.map a.eval)++cv):=RepL.append (RepL.append ⟨hf,rf⟩ (repL_look hs c.args)) ⟨hcv,rc⟩
   have hrun:(execOp a.eval o).run P w=.ok (.enter f ((fv++c.args.map a.eval)++cv)) w:=by
    simp only[execOp,ho,Sem.run_bind,resolve,hc,hv,Deferred.ofValue,Sem.run_pure,Result.andThen_ok,invoke,h.1.run]
   simp only[Oper.wp,hrun,Oper.upon]
   refine(h.2 g.imm w _ hs.sto.imm hs.sto.gok hs.ext.tabs (repL_nil_σ hargs hfl)).mono fun e w'=>?_
   rintro⟨imm',v,bo,rfl,h1,hO,hbo,h2,h3,h4,h5⟩
   have hsim:=hs.grow h2 h3 h4 h5
   show K (a.put o.dst v) w'
   cases hd:o.dst with
   |none=>exact hK _ _ _ (by simpa[AState.putO,hd,Act.put] using hsim)
   |some d=>
    have hput:=hsim.putTmp d bo (x:=.osl ec l) (v:=v) (h1.mono (fun _ _ h=>h) (fun _ _ h=>by simp at h)) hO (fun k hk=>by
     obtain⟨b1,b2⟩:=hbo k hk
     refine⟨fun p hp=>?_,.inl (Nat.le_trans hs.ext.size b1),b2,fun hm=>?_⟩
     ·have:=(hs.sto.ownσ p k hp).2;omega
     ·have:=hs.sto.σ_lt hm;omega)
    rw[hd] at hK
    exact hK _ _ _ hput
 |_=>rw[hv] at he;cases he
theorem Sim.growB{w w':World}(h:Sim F g s a w)(hfl:Floating F g w bo){imm':Addr->Option Value}(h2: ∀x v,g.imm x=some v->imm' x=some v)
 (h3: ∀x v,imm' x=some v->w'.cell? x=some v) (hsz:w.heap.size<=w'.heap.size) (hos:w'.os=w.os) (htape:w'.tape=w.tape) (hout:w'.output=w.output)
 (hkeep: ∀k,k<w.heap.size->bo≠some k->w'.heap[k]? =w.heap[k]?) (h5: ∀x v,imm' x=some v->g.imm x=some v∨w.heap.size<=x.block∨bo=some x.block):
 Sim F {g with imm:=imm'} s a w':=by
 have hown: ∀p k,g.own p=some k->bo≠some k:=fun p k hp hb=>(hfl k hb).1 p hp
 have hσ: ∀k,k∈g.σ->bo≠some k:=fun k hk hb=>(hfl k hb).2.2.2 hk
 have hsp: ∀(p:Place)(y:Addr) lo hi,g.own p=some y.block->Spare g.imm w y lo hi->Spare imm' w' y lo hi:=fun p y lo hi hp hsp j hj1 hj2=>by
  obtain⟨p1,⟨u,hu⟩,p3⟩:=hsp j hj1 hj2
  have hlt:=World.block_lt_of_cell? _ _ hu
  have hb:bo≠some (y.add j).block:=by rw[zFV];exact hown p _ hp
  have hk2:=hkeep _ hlt hb
  refine⟨?_,⟨u,by rw[World.cell?_of_block hk2];exact hu⟩,by rw[World.frozen?_of_block hk2];exact p3⟩
  cases hn:imm' (y.add j) with
  |none=>rfl
  |some z=>
   rcases h5 _ z hn with h6|h6|h6
   ·rw[p1] at h6;cases h6
   ·omega
   ·exact absurd h6 hb
 have hw: ∀p x v,OwnsBy g.imm w (g.own p) x v->OwnsBy imm' w' (g.own p) x v:=fun p x v ho=>
  ho.world (fun y lo hi hp hs=>hsp p y lo hi hp hs) (fun k sh hp hsh=>zGg (hkeep k (shape_lt hsh) (hown p k hp)) hsh) h2 (fun k es c hp hk=>by rw[hkeep k (lt_of_getElem? hk) (hown p k hp)];exact hk)
 exact {
  ext:={
   gfx:=h.ext.gfx
   imm:=fun x v hx=>h2 x v (h.ext.imm x v hx)
   immNew:=fun x v hx=>by
    rcases h5 x v hx with h6|h6|h6
    ·exact h.ext.immNew x v h6
    ·exact .inr (.inl (Nat.le_trans h.ext.size h6))
    ·exact .inr (hfl _ h6).2.1
   σ:=h.ext.σ
   mineσ:=h.ext.mineσ
   mineOwn:=h.ext.mineOwn
   keep:=fun k hk hT=>by
    have:=h.ext.size
    have hb:bo≠some k:=fun hb=>by
     rcases(hfl k hb).2.1 with h6|h6
     ·omega
     ·exact hT h6
    rw[hkeep k (by omega) hb];exact h.ext.keep k hk hT
   size:=Nat.le_trans h.ext.size hsz
   os:=hos.trans h.ext.os
   tape:=htape.trans h.ext.tape
   output:=hout.trans h.ext.output}
  sto:={
   gok:=h.sto.gok.mono h2
   imm:=h3
   immσ:=fun x v hx hm=>by
    rcases h5 x v hx with h6|h6|h6
    ·exact h.sto.immσ x v h6 hm
    ·have:=h.sto.σ_lt hm;omega
    ·exact hσ _ hm h6
   len:=h.sto.len
   nodup:=h.sto.nodup
   blk:=fun i b k hb hk=>by
    obtain⟨c,ty,e1,e2,e3⟩:=h.sto.blk i b k hb hk
    exact⟨c,ty,by rw[hkeep k (h.sto.σ_lt (zq3 hk)) (hσ k (zq3 hk))];exact e1,e2,fun j x hx=>⟨(e3 j x hx).1,(e3 j x hx).2.1.mono h2 (fun _ _ h=>h),hw _ _ _ (e3 j x hx).2.2⟩⟩
   ownσ:=fun p k hk=>⟨(h.sto.ownσ p k hk).1,Nat.lt_of_lt_of_le (h.sto.ownσ p k hk).2 hsz⟩
   ownInj:=h.sto.ownInj}
  size:=h.size
  tmps:=fun t=>⟨(h.tmps t).1.mono h2 (fun _ _ h=>h),hw _ _ _ (h.tmps t).2⟩
  loans:=fun t p hp=>by
   have:=h.loans t p hp
   cases p with
   |tmp u=>exact this
   |cell b o=>
    obtain⟨k,hk,hv⟩:=this
    exact⟨k,hk,by rw[World.cell?_of_block (w:=w) (hkeep k (h.sto.σ_lt (zq3 hk)) (hσ k (zq3 hk)))];exact hv⟩
  defers:=h.defers
  base:=h.base}
def PureG(P:Program)(f:FuncId)(args:List AV)(i:Nat)(ec:EC)(l:List (List AV))(r:AV):Prop:=
 Enters P f∧args[i]? =some (.osl ec l)∧∀(imm:Addr->Option Value)(w:World)(vals:Array Value)(bo:Option Nat),(∀x v,imm x=some v->w.cell? x=some v)->GOk imm->Tabs w->RepL imm [] args vals->
  OwnsBy imm w bo (.osl ec l) (vals.getD i undef)->(∀k,bo=some k->k<w.heap.size∧NoTab k)->
  Calls P f vals w fun e w'=> ∃imm' v bo',e=.returned v∧Rep imm' [] r v∧OwnsBy imm' w' bo' r v∧(∀k,bo'=some k->(w.heap.size<=k∨bo=some k)∧k<w'.heap.size)∧
   (∀x v,imm x=some v->imm' x=some v)∧(∀x v,imm' x=some v->w'.cell? x=some v)∧(w.heap.size<=w'.heap.size∧w'.os=w.os∧w'.tape=w.tape∧w'.output=w.output)∧
   (∀k,k<w.heap.size->bo≠some k->w'.heap[k]? =w.heap[k]?)∧(∀x v,imm' x=some v->imm x=some v∨w.heap.size<=x.block∨bo=some x.block)
theorem zJf{c:Call}{first captured:List AV}(ho:o.op=.call c)(hc:c.callee=.value x)(hx:s.look x=.fn (.func f) first captured)
 {i:Nat} {y:Operand} {ec:EC} {l:List (List AV)} {r:AV} (hy:c.args.toList[i]? =some y) (hlen:(zAz s first captured c.args).length=c.args.toList.length)
 (ht:s.takeV y=.osl ec l∨(s.takeV y=.nsl∧l=[])) (h:PureG P f ((zAz s first captured c.args).set i (.osl ec l)) i ec l r) (hfl:AV.flatL (zAz s first captured c.args)=true):
 zJS P o s ((s.takeS y).putO o.dst r):=fun F g a w hs K Q hK=>by
 have he:=zAT hs x
 rw[hx] at he
 cases hv:a.eval x with
 |func fn fv cv=>
  rw[hv] at he
  cases he with
  |fn _ _ _ _ _ hf hcv rf rc=>
   have hargs:RepL g.imm g.σ (zAz s first captured c.args) ((fv++c.args.map a.eval)++cv):=RepL.append (RepL.append ⟨hf,rf⟩ (zJr hs c.args)) ⟨hcv,rc⟩
   have hnil:first=[]∧captured=[]:=by
    simp only[zAz,List.length_append,zq4] at hlen
    exact⟨List.eq_nil_of_length_eq_zero (by omega),List.eq_nil_of_length_eq_zero (by omega)⟩
   obtain⟨rfl,rfl⟩:=hnil
   have hrun:(execOp a.eval o).run P w=.ok (.enter f ((fv++c.args.map a.eval)++cv)) w:=by
    simp only[execOp,ho,Sem.run_bind,resolve,hc,hv,Deferred.ofValue,Sem.run_pure,Result.andThen_ok,invoke,h.1.run]
   simp only[Oper.wp,hrun,Oper.upon]
   obtain⟨g1,bo,s1,r1,o1,fl1,e1,e2⟩:=zJX hs y
   have hi:i<c.args.toList.length:=(zq1 hy).1
   have hval:((fv++c.args.map a.eval)++cv).getD i undef=a.eval y:=by
    have hfv:fv.size=0:=by simpa using hf
    have hi':i<c.args.size:=by simpa using hi
    rw[zq6,Array.getElem?_append_left (by simp[hfv];exact hi'),Array.getElem?_append_right (by rw[hfv];exact Nat.zero_le _),hfv,Nat.sub_zero,Array.getElem?_map]
    rw[Array.getElem?_toList] at hy
    rw[hy];rfl
   have hown:Rep g1.imm g1.σ (.osl ec l) (a.eval y)∧OwnsBy g1.imm w bo (.osl ec l) (a.eval y):=by
    rcases ht with ht|⟨ht,rfl⟩
    ·rw[ht] at r1 o1;exact⟨r1,o1⟩
    ·rw[ht] at r1
     generalize a.eval y=vy at r1
     cases r1
     exact⟨.osl0 ec,fun base n cap hb=>by cases hb;exact .inl rfl⟩
   have hargs2:RepL g1.imm [] ((zAz s [] [] c.args).set i (.osl ec l)) ((fv++c.args.map a.eval)++cv):=by
    refine⟨by rw[List.length_set];exact hargs.1,fun j z hz=>?_⟩
    rcases getElem?_set_cases hz with ⟨rfl,_,rfl⟩|⟨_,hz⟩
    ·rw[hval];exact hown.1.flat rfl
    ·rw[e1];exact(hargs.2 j z hz).flat (zGU hfl hz)
   refine(h.2.2 g1.imm w _ bo s1.sto.imm s1.sto.gok s1.ext.tabs hargs2 (by rw[hval];exact hown.2) (fun k hk=>⟨(fl1 k hk).2.2.1,s1.ext.gfx.2 k (fl1 k hk).2.1⟩)).mono fun e w'=>?_
   rintro⟨imm',v,bo',rfl,h1,hO,hbo,h2,h3,⟨h4,h4o,h4t,h4u⟩,h4k,h5⟩
   have hsim:=s1.growB fl1 h2 h3 h4 h4o h4t h4u h4k h5
   show K (a.put o.dst v) w'
   cases hd:o.dst with
   |none=>exact hK _ _ _ (by simpa[AState.putO,hd,Act.put] using hsim)
   |some d=>
    have hput:=hsim.putTmp d bo' (x:=r) (v:=v) (h1.mono (fun _ _ h=>h) (fun _ _ h=>by simp at h)) hO (fun k hk=>by
     obtain⟨b1,b2⟩:=hbo k hk
     rcases b1 with b1|b1
     ·refine⟨fun p hp=>?_,.inl (Nat.le_trans s1.ext.size b1),b2,fun hm=>?_⟩
      ·have:=(s1.sto.ownσ p k hp).2;omega
      ·have:=s1.sto.σ_lt hm;omega
     ·obtain⟨f1,f2,f3,f4⟩:=fl1 k b1
      exact⟨f1,f2,b2,f4⟩)
    rw[hd] at hK
    exact hK _ _ _ hput
 |_=>rw[hv] at he;cases he
def CallG(P:Program)(f:FuncId)(xs:List Operand)(args:List AV)(s:AState)(dst:Option Nat)(K:AState->Prop):Prop:=
 ∃i y ec l r,xs[i]? =some y∧args.length=xs.length∧(s.takeV y=.osl ec l∨(s.takeV y=.nsl∧l=[]))∧PureG P f (args.set i (.osl ec l)) i ec l r∧AV.flatL args=true∧
  K ((s.takeS y).putO dst r)
def CallP0(P:Program)(f:FuncId)(args args0:List AV)(s:AState)(dst:Option Nat)(K:AState->Prop):Prop:=
 (∃res,Pure P f args res∧AV.flatL args=true∧res.owns=false∧K (s.putO dst res))∨
 (∃res bs',Raw P f args s.blocks res bs'∧res.owns=false∧K (s.called dst res bs'))∨
 (∃ec l,PureO P f args0 ec l∧AV.flatL args0=true∧K (s.putO dst (.osl ec l)))
def CallF(P:Program)(f:FuncId):Nat->List AV->List AV->AState->Option Nat->(AState->Prop)->Prop
 |0,args,args0,s,dst,K=>CallP0 P f args args0 s dst K
 |k+1,args,args0,s,dst,K=>FzOk s∧CallF P f k (args.map (AV.fz s.lb s.lblk)) (args0.map (AV.fz s.lb s.lblk)) s.fz dst K
def CallP(P:Program)(f:FuncId)(xs:List Operand)(args args0:List AV)(s:AState)(dst:Option Nat)(K:AState->Prop):Prop:=(∃k,CallF P f k args args0 s dst K)∨CallG P f xs args s dst K
theorem callPure{args args0:List AV}{dst:Option Nat}(h:Pure P f args res)(h1:AV.flatL args=true)(h2:res.owns=false)(h3:K (s.putO dst res)):CallP P f xs args args0 s dst K:=
 .inl ⟨0,.inl ⟨res,h,h1,h2,h3⟩⟩
theorem zCV{args args0:List AV}{dst:Option Nat}{bs bs':List (List AV)}(h:Raw P f args bs res bs')(h1:s.blocks=bs)(h2:res.owns=false)(h3:K (s.called dst res bs')):CallP P f xs args args0 s dst K:=
 .inl ⟨0,.inr (.inl ⟨res,bs',by rw[h1];exact h,h2,h3⟩)⟩
theorem callOwn{args args0:List AV}{dst:Option Nat}{ec:EC}(h:PureO P f args0 ec l)(h1:AV.flatL args0=true)(h3:K (s.putO dst (.osl ec l))):CallP P f xs args args0 s dst K:=
 .inl ⟨0,.inr (.inr ⟨ec,l,h,h1,h3⟩)⟩
theorem copy_fz(b:Nat)(blk:List AV)(x:AV):(x.fz b blk).copy=x.copy.fz b blk:=by
 cases x with
 |mptr b' o=>by_cases h:b'=b<;>simp[AV.fz,h]
 |baddr t b'=>by_cases h:b'=b<;>simp[AV.fz,h]
 |msl b' ec n=>by_cases h:b'=b<;>by_cases h2:n*ec<=blk.length<;>simp[AV.fz,h,h2]
 |_=>rfl
theorem norm1_fz(b:Nat)(blk:List AV)(x:AV):(x.fz b blk).norm1=x.norm1.fz b blk:=by
 cases x with
 |mptr b' o=>by_cases h:b'=b<;>simp[AV.fz,h]
 |baddr t b'=>by_cases h:b'=b<;>simp[AV.fz,h]
 |msl b' ec n=>by_cases h:b'=b<;>by_cases h2:n*ec<=blk.length<;>simp[AV.fz,h,h2]
 |_=>rfl
theorem norm_fz(b:Nat)(blk:List AV)(x:AV):(x.fz b blk).norm=x.norm.fz b blk:=by
 cases x with
 |mptr b' o=>by_cases h:b'=b<;>simp[AV.fz,h]
 |baddr t b'=>by_cases h:b'=b<;>simp[AV.fz,h]
 |msl b' ec n=>by_cases h:b'=b<;>by_cases h2:n*ec<=blk.length<;>simp[AV.fz,h,h2]
 |agg cs=>
  simp only[AV.norm,AV.fz]
  rw[zIg,zIg,List.map_map,List.map_map]
  congr 1
  exact List.map_congr_left fun x _=>norm1_fz b blk x
 |_=>rfl
theorem const1_fz(b:Nat)(blk:List AV)(v:Value):(AV.ofConst1 v).fz b blk=AV.ofConst1 v:=by
 unfold AV.ofConst1
 split<;>first|rfl|(split<;>rfl)
theorem const_fz(b:Nat)(blk:List AV)(v:Value):(AV.ofConst v).fz b blk=AV.ofConst v:=by
 unfold AV.ofConst
 split
 ·simp only[AV.fz,zIg,List.map_map]
  congr 1
  exact List.map_congr_left fun x _=>const1_fz b blk x
 ·exact const1_fz b blk v
theorem ev_fz(s:AState)(x:Operand):s.fz.ev x=(s.ev x).fz s.lb s.lblk:=by
 cases x with
 |tmp t=>rfl
 |const v=>exact(const_fz _ _ v).symm
 |func f=>rfl
 |global g=>rfl
theorem look_fz(s:AState)(x:Operand):s.fz.look x=(s.look x).fz s.lb s.lblk:=by
 unfold AState.look;rw[ev_fz,copy_fz]
theorem callArgs_fz(s:AState)(first captured:List AV)(args:Array Operand):zAz s.fz (AV.fzL s.lb s.lblk first) (AV.fzL s.lb s.lblk captured) args=(zAz s first captured args).map (AV.fz s.lb s.lblk):=by
 unfold zAz
 rw[zIg,zIg,List.map_append,List.map_append,List.map_map]
 congr 2
 exact List.map_congr_left fun x _=>by show(s.fz.look x).norm=_;rw[look_fz,norm_fz];rfl
theorem callArgs0_fz(s:AState)(first captured:List AV)(args:Array Operand):zCy s.fz (AV.fzL s.lb s.lblk first) (AV.fzL s.lb s.lblk captured) args=(zCy s first captured args).map (AV.fz s.lb s.lblk):=by
 unfold zCy
 rw[zIg,zIg,List.map_append,List.map_append,List.map_map]
 congr 2
 exact List.map_congr_left fun x _=>by show s.fz.look x=_;rw[look_fz];rfl
theorem callF_ok{P:Program}{o:Oper}{c:Call}{x:Operand}{f:FuncId}(ho:o.op=.call c)(hc:c.callee=.value x){K:AState->Prop}: ∀(k:Nat)(s:AState)(first captured:List AV),s.look x=.fn (.func f) first captured->
 CallF P f k (zAz s first captured c.args) (zCy s first captured c.args) s o.dst K->∃s',zJS P o s s'∧K s'
 |0,s,first,captured,hx,h=>by
  rcases h with ⟨res,h1,h2,h3,h4⟩|⟨res,bs',h1,h2,h3⟩|⟨ec,l,h1,h2,h3⟩
  ·exact⟨_,zHA ho hc hx h1 h2 h3,h4⟩
  ·exact⟨_,ok_call ho hc hx h1 h2,h3⟩
  ·exact⟨_,ok_call_pureO ho hc hx h1 h2,h3⟩
 |k+1,s,first,captured,hx,h=>by
  obtain⟨h1,h2⟩:=h
  rw[<-callArgs_fz,<-callArgs0_fz] at h2
  obtain⟨s',h3,h4⟩:=callF_ok ho hc k s.fz _ _ (by rw[look_fz,hx];rfl) h2
  refine⟨s',fun F g a w hs K' Q hK=>?_,h4⟩
  obtain⟨g',hs',_⟩:=hs.fz h1
  exact h3 F g' a w hs' K' Q hK
def TailV(v:AV)(X Y:Prop):Prop:=
 match v with
 |.osq _ _=>X
 |_=>Y
def EmpK(n:Nat)(ps:Array (Nat×Operand))(X Y:Prop):Prop:=X∨(n=0∧ps=#[]∧Y)
@[simp] theorem EmpK_ne{ps:Array (Nat×Operand)}{X Y:Prop}(h:n≠0):EmpK n ps X Y=X:=by simp[EmpK,h]
theorem empR{X Y:Prop}(h:Y):EmpK 0 #[] X Y:=.inr ⟨rfl,rfl,h⟩
def AStep(P:Program)(o:Oper)(s:AState)(K:AState->Prop):Prop:=
 match o.op with
 |.call c=>match c.callee with
  |.value x=>match s.look x with
   |.fn (.func f) first captured=>CallP P f c.args.toList (zAz s first captured c.args) (zCy s first captured c.args) s o.dst K
   |_=>False
  |.builtin b=>ResK s o.dst (zD6 P s c b) K
  |_=>False
 |.buildSlice t n ps=>EmpK n ps (ResK s o.dst (zDc P s t n ps) K) (ResK s o.dst (resEmp P s t) K)
 |.slice t x (some lo) none none=>TailV (s.takeV x) (ResK s o.dst (resTail P s t x lo) K) (ResK s o.dst (zG2 P s t x (some lo) none) K)
 |.makeMap t none=>ResK s o.dst (some (zHb s)) K
 |.lookup t x i ok=>ResK s o.dst (zGS P s t x i ok) K
 |.mapUpdate t x i v=>ResK s o.dst (zB8 P s t x i v) K
 |.insert t x i v=>ResK s o.dst (zB8 P s t x i v) K
 |.extract x i=>ResK s o.dst (zIU s x i) K
 |op=>ResK s o.dst (zHO P s op) K
theorem AStep.ok{P:Program}{o:Oper}{s:AState}{K:AState->Prop}(h:AStep P o s K): ∃s',zJS P o s s'∧K s':=by
 have other: ∀r,zHO P s o.op=some r->r.side->K (s.putR o.dst r)->∃s',zJS P o s s'∧K s':=fun r h1 h2 h3=>⟨_,(zMR h1 h2).step,h3⟩
 unfold AStep at h
 split at h
 ·rename_i c ho
  split at h
  ·rename_i x hc
   split at h
   ·rename_i f first captured hx
    rcases h with ⟨k,h⟩|⟨i,y,ec,l,r,h1,h2,h3,h4,h5,h7⟩
    ·exact callF_ok ho hc k s first captured hx h
    ·exact⟨_,zJf ho hc hx h1 h2 h3 h4 h5,h7⟩
   ·exact h.elim
  ·rename_i b hc
   unfold ResK at h
   split at h
   ·rename_i r hr
    exact other r (by rw[ho];simp only[zHO,hc];exact hr) h.1 h.2
   ·exact h.elim
  ·exact h.elim
 ·rename_i t n ps ho
  rcases h with h|⟨rfl,rfl,h⟩
  ·unfold ResK at h
   split at h
   ·rename_i r hr
    exact other r (by rw[ho];exact hr) h.1 h.2
   ·exact h.elim
  ·unfold ResK at h
   split at h
   ·rename_i r hr
    exact⟨_,(ok_emp P o s t ho r hr h.1).step,h.2⟩
   ·exact h.elim
 ·rename_i t x lo ho
  unfold TailV at h
  split at h
  ·unfold ResK at h
   split at h
   ·rename_i r hr
    exact⟨_,(ok_tail P o s t x lo ho r hr h.1).step,h.2⟩
   ·exact h.elim
  ·unfold ResK at h
   split at h
   ·rename_i r hr
    exact other r (by rw[ho];exact hr) h.1 h.2
   ·exact h.elim
 ·rename_i t ho
  exact⟨_,(ok_makeMap P o s t ho).step,h.2⟩
 ·rename_i t x i ok ho
  unfold ResK at h
  split at h
  ·rename_i r hr
   exact⟨_,(ok_lookup P o s t x i ok ho r hr h.1).step,h.2⟩
  ·exact h.elim
 ·rename_i t x i v ho
  unfold ResK at h
  split at h
  ·rename_i r hr
   exact⟨_,(zG9 P o s t x i v (.inl ho) r hr h.1).step,h.2⟩
  ·exact h.elim
 ·rename_i t x i v ho
  unfold ResK at h
  split at h
  ·rename_i r hr
   exact⟨_,(zG9 P o s t x i v (.inr ho) r hr h.1).step,h.2⟩
  ·exact h.elim
 ·rename_i x i ho
  unfold ResK at h
  split at h
  ·rename_i r hr
   exact⟨_,(ok_ext P o s x i ho r hr h.1).step,h.2⟩
  ·exact h.elim
 ·unfold ResK at h
  split at h
  ·rename_i r hr
   exact other r hr h.1 h.2
  ·exact h.elim
def zLB(b want:Bool)(X Y:Prop):Prop:=(b=want->X)∧(b= !want->Y)
@[simp ↓] theorem GuardK_tt(X Y:Prop):zLB true true X Y=X:=by simp[zLB]
@[simp ↓] theorem GuardK_ff(X Y:Prop):zLB false false X Y=X:=by simp[zLB]
@[simp ↓] theorem GuardK_tf(X Y:Prop):zLB true false X Y=Y:=by simp[zLB]
@[simp ↓] theorem GuardK_ft(X Y:Prop):zLB false true X Y=Y:=by simp[zLB]
def zJA(v:AV)(want:Bool)(X Y:Prop):Prop:=
 match v with
 |.bool b=>zLB b want X Y
 |.tup []=>Y
 |_=>False
@[congr] theorem GuardV_congr{v v':AV}{want:Bool}{X Y:Prop}(h:v=v'):zJA v want X Y=zJA v' want X Y:=by rw[h]
@[simp ↓] theorem GuardV_bool(b want:Bool)(X Y:Prop):zJA (.bool b) want X Y=zLB b want X Y:=Eq.trans rfl rfl
@[simp ↓] theorem GuardV_tup(want:Bool)(X Y:Prop):zJA (.tup []) want X Y=Y:=Eq.trans rfl rfl
def zGt(d:Option Nat)(f:Nat->Prop):Prop:=
 match d with
 |some d=>f d
 |none=>False
@[congr] theorem GuardAt_congr{d d':Option Nat}{f:Nat->Prop}(h:d=d'):zGt d f=zGt d' f:=by rw[h]
@[simp ↓] theorem GuardAt_some(d:Nat)(f:Nat->Prop):zGt (some d) f=f d:=Eq.trans rfl rfl
def AOps(P:Program)(ops:Array Oper)(K:AState->Prop):List Oper->AState->Prop
 |[],s=>K s
 |o::l,s=>match o.guard with
  |none=>AStep P o s (AOps P ops K l)
  |some (j,want)=>zGt ((ops[j]?).bind (·.dst)) fun d=>zJA (s.get d) want (AStep P o s (AOps P ops K l)) (AOps P ops K l (s.putO o.dst (.tup [])))
@[congr] theorem AOps_congr{l:List Oper}{s s':AState}(h:s=s'):AOps P ops K l s=AOps P ops K l s':=by rw[h]
theorem Sim.putUndef(h:Sim F g s a w)(d:Option Nat): ∃g',Sim F g' (s.putO d (.tup [])) (a.put d undef) w:=by
 cases d with
 |none=>exact⟨g,h⟩
 |some d=>exact⟨_,h.putTmp d none (.tup [] #[] rfl (by simp)) trivial Floating.none⟩
theorem zFT{tmps:Array Value}{j d:Nat}{b:Bool}(h:(ops[j]?).bind (·.dst)=some d)(hv:tmps.getD d undef=.bool b):yielded ops tmps j=some b:=by
 unfold yielded
 rw[h]
 simp only[Option.bind_some]
 by_cases hd:d<tmps.size
 ·rw[zq6,zqe hd] at hv
  simp only[Option.getD_some] at hv
  rw[zqe hd,hv]
 ·rw[zq6,Array.getElem?_eq_none (by omega)] at hv;cases hv
theorem zEw{tmps:Array Value}{j d:Nat}(h:(ops[j]?).bind (·.dst)=some d)(hv:tmps.getD d undef=undef):yielded ops tmps j=none:=by
 unfold yielded
 rw[h]
 simp only[Option.bind_some]
 by_cases hd:d<tmps.size
 ·rw[zq6,zqe hd] at hv
  simp only[Option.getD_some] at hv
  rw[zqe hd,hv];rfl
 ·rw[Array.getElem?_eq_none (by omega)]
theorem AOps.sound{Q:Exit->Act->World->Prop}(hK: ∀g s a w,K s->Sim F g s a w->Q .normal a w):
 ∀(l:List Oper)(s:AState)(g:Gh)(a:Act)(w:World),AOps P ops K l s->Sim F g s a w->wpList P ops Q l a w:=by
 intro l
 induction l with
 |nil=>exact fun s g a w h hs=>hK g s a w h hs
 |cons o l ih=>
  intro s g a w h hs
  have step:AStep P o s (AOps P ops K l)->o.wp P a w (wpList P ops Q l) Q:=fun h=>by
   obtain⟨s',h1,h2⟩:=h.ok
   exact h1 F g a w hs _ Q fun g' a' w' hs'=>ih s' g' a' w' h2 hs'
  have skip:AOps P ops K l (s.putO o.dst (.tup []))->wpList P ops Q l (a.put o.dst undef) w:=fun h=>by
   obtain⟨g',hs'⟩:=hs.putUndef o.dst
   exact ih _ g' _ w h hs'
  unfold AOps at h
  unfold wpList
  cases hg:o.guard with
  |none=>
   rw[hg] at h
   rw[if_pos (by simp[Region.wanted,hg])]
   exact .inl (step h)
  |some q=>
   obtain⟨j,want⟩:=q
   rw[hg] at h
   simp only[zGt] at h
   split at h
   ·rename_i d hd
    have hr:=(hs.tmps d).1
    unfold zJA at h
    split at h
    ·rename_i b hb
     have hb':s.tmps d=.bool b:=hb
     rw[hb'] at hr
     have hv:a.tmps.getD d undef=.bool b:=by cases hh:a.tmps.getD d undef<;>rw[hh] at hr<;>cases hr;rfl
     have hy:=zFT hd hv
     by_cases hbw:b=want
     ·rw[if_pos (by simp[Region.wanted,hg,hy,hbw])]
      exact .inl (step (h.1 hbw))
     ·rw[if_neg (by simp[Region.wanted,hg,hy,hbw])]
      exact skip (h.2 (by cases b<;>cases want<;>simp_all))
    ·rename_i hb
     have hb':s.tmps d=.tup []:=hb
     rw[hb'] at hr
     have hv:a.tmps.getD d undef=undef:=by
      cases hh:a.tmps.getD d undef<;>rw[hh] at hr<;>cases hr
      rename_i vs hsz _
      have:vs=#[]:=by simpa using hsz
      subst this;rfl
     have hy:=zEw hd hv
     rw[if_neg (by simp[Region.wanted,hg,hy])]
     exact skip h
    ·exact h.elim
   ·exact h.elim
theorem AOps.sound_app{Q:Exit->Act->World->Prop}{l2:List Oper}(hK: ∀g s a w,K s->Sim F g s a w->wpList P ops Q l2 a w):
 ∀(l:List Oper)(s:AState)(g:Gh)(a:Act)(w:World),AOps P ops K l s->Sim F g s a w->wpList P ops Q (l++l2) a w:=by
 intro l
 induction l with
 |nil=>exact fun s g a w h hs=>hK g s a w h hs
 |cons o l ih=>
  intro s g a w h hs
  have step:AStep P o s (AOps P ops K l)->o.wp P a w (wpList P ops Q (l++l2)) Q:=fun h=>by
   obtain⟨s',h1,h2⟩:=h.ok
   exact h1 F g a w hs _ Q fun g' a' w' hs'=>ih s' g' a' w' h2 hs'
  have skip:AOps P ops K l (s.putO o.dst (.tup []))->wpList P ops Q (l++l2) (a.put o.dst undef) w:=fun h=>by
   obtain⟨g',hs'⟩:=hs.putUndef o.dst
   exact ih _ g' _ w h hs'
  unfold AOps at h
  rw[List.cons_append]
  unfold wpList
  cases hg:o.guard with
  |none=>
   rw[hg] at h
   rw[if_pos (by simp[Region.wanted,hg])]
   exact .inl (step h)
  |some q=>
   obtain⟨j,want⟩:=q
   rw[hg] at h
   simp only[zGt] at h
   split at h
   ·rename_i d hd
    have hr:=(hs.tmps d).1
    unfold zJA at h
    split at h
    ·rename_i b hb
     have hb':s.tmps d=.bool b:=hb
     rw[hb'] at hr
     have hv:a.tmps.getD d undef=.bool b:=by cases hh:a.tmps.getD d undef<;>rw[hh] at hr<;>cases hr;rfl
     have hy:=zFT hd hv
     by_cases hbw:b=want
     ·rw[if_pos (by simp[Region.wanted,hg,hy,hbw])]
      exact .inl (step (h.1 hbw))
     ·rw[if_neg (by simp[Region.wanted,hg,hy,hbw])]
      exact skip (h.2 (by cases b<;>cases want<;>simp_all))
    ·rename_i hb
     have hb':s.tmps d=.tup []:=hb
     rw[hb'] at hr
     have hv:a.tmps.getD d undef=undef:=by
      cases hh:a.tmps.getD d undef<;>rw[hh] at hr<;>cases hr
      rename_i vs hsz _
      have:vs=#[]:=by simpa using hsz
      subst this;rfl
     have hy:=zEw hd hv
     rw[if_neg (by simp[Region.wanted,hg,hy])]
     exact skip h
    ·exact h.elim
   ·exact h.elim
def AWp(P:Program)(c:Code)(Q:Exit->AState->Prop)(s:AState):Prop:=
 ∀F g a w,Sim F g s a w->c.wp P (fun e a' w'=> ∃g' s',Sim F g' s' a' w'∧Q e s') a w
def seqK(N:AState->Prop)(Q:Exit->AState->Prop):Exit->AState->Prop
 |.normal,s=>N s
 |e,s=>Q e s
def blockK(id:Nat)(Q:Exit->AState->Prop):Exit->AState->Prop
 |.exit id',s=>if id'=id then Q .normal s else Q (.exit id') s
 |e,s=>Q e s
def AState.fresh(s:AState):AState:={s with loans:=fun _=>none}
theorem Sim.fresh(h:Sim F g s a w):Sim F g s.fresh a w:={h with loans:=fun t p hp=>by cases hp}
theorem awp_region(h:AOps P ops (Q .normal) ops.toList s.fresh):AWp P (.region id ops false) Q s:=
 fun F g a w hs=>wp_region_list (AOps.sound (K:=Q .normal) (fun g s a w hk hs=>⟨g,s,hs,hk⟩) _ _ _ _ _ h hs.fresh)
theorem zGA{Q Q':Exit->AState->Prop}(h:AWp P c Q s)(hq: ∀e s,Q e s->Q' e s):AWp P c Q' s:=
 fun F g a w hs=>wp_mono (h F g a w hs) fun e a w ⟨g',s',h1,h2⟩=>⟨g',s',h1,hq e s' h2⟩
theorem zAD{x y:Code}(h:AWp P x (seqK (AWp P y Q) Q) s):AWp P (.seq x y) Q s:=fun F g a w hs=>by
 refine wp_seq (wp_mono (h F g a w hs) fun e a' w' ⟨g',s',h1,h2⟩=>?_)
 cases e with
 |normal=>exact h2 F g' a' w' h1
 |_=>exact⟨g',s',h1,h2⟩
theorem zKn{c:Operand}{x y:Code}{b:Bool}(hc:s.look c=.bool b)(h1:b=true->AWp P x Q s)(h2:b=false->AWp P y Q s):
 AWp P (.cond c x y) Q s:=fun F g a w hs=>
 wp_cond_split (eval_bool hs hc) (fun hb=>h1 hb F g a w hs) (fun hb=>h2 hb F g a w hs)
theorem zAF(h:AWp P c (blockK id Q) s):AWp P (.block id c) Q s:=fun F g a w hs=>by
 refine wp_block (wp_mono (h F g a w hs) fun e a' w' ⟨g',s',h1,h2⟩=>?_)
 cases e with
 |exit id'=>
  simp only[Exit.inBlock,blockK] at h2 ⊢
  split
  ·rename_i e;rw[if_pos e] at h2;exact⟨g',s',h1,h2⟩
  ·rename_i e;rw[if_neg e] at h2;exact⟨g',s',h1,h2⟩
 |_=>exact⟨g',s',h1,h2⟩
def RawK(P:Program)(f:FuncId)(args:List AV)(bs:List (List AV))(res:AV)(bs':List (List AV))(kept:Nat->Prop):Prop:=
 Enters P f∧∀(g:Gh)(w:World)(vals:Array Value),Sto g bs w->(∀t,g.own (.tmp t)=none)->TG g w->RepL g.imm g.σ args vals->
  Calls P f vals w fun e w'=> ∃g' v,e=.returned v∧Rep g'.imm g'.σ res v∧Sto g' bs' w'∧Ext ⟨w,g⟩ g' w'∧(∀t,g'.own (.tmp t)=none)∧∀(b k:Nat),kept b->g.σ[b]? =some k->w'.heap[k]? =w.heap[k]?
theorem RawK.raw{bs:List (List AV)}{bs':List (List AV)}{kept:Nat->Prop}(h:RawK P f args bs res bs' kept):Raw P f args bs res bs':=
 ⟨h.1,fun g w vals h1 h2 h3 h4=>(h.2 g w vals h1 h2 h3 h4).mono fun e w' ⟨g',v,e1,e2,e3,e4,e5,_⟩=>⟨g',v,e1,e2,e3,e4,e5⟩⟩
def FrRaw(P:Program)(f:FuncId)(ρ:List Nat)(args:List AV)(bs:List (List AV))(res:AV)(bs':List (List AV)):Prop:=
 (∀zs,RawK P f args (bs++zs) res (bs'++zs) (fun b=>b∉ρ))∧bs'.length=bs.length∧∀b,b∉ρ->bs'.getD b []=bs.getD b []
def zCZ(ρ:List Nat):Option Place->Option Place
 |some (.tmp u)=>some (.tmp u)
 |some (.cell b o)=>if ρ.contains b then none else some (.cell b o)
 |none=>none
def AState.calledK(s:AState)(ρ:List Nat)(d:Option Nat)(res:AV)(bs':List (List AV)):AState:=
 ({s with blocks:=bs',loans:=fun t=>zCZ ρ (s.loans t)}:AState).putO d res
theorem Sim.afterK{g g':Gh}{w w':World}{bs':List (List AV)}{ρ:List Nat}(h:Sim F g s a w)(h0: ∀t,g'.own (.tmp t)=none)
 (hsto:Sto g' bs' w') (hext:Ext ⟨w,{g with own:=fun p=>match p with|.tmp _=>none|q=>g.own q}⟩ g' w')
 (hk: ∀(b k:Nat),b∉ρ->g.σ[b]? =some k->w'.heap[k]? =w.heap[k]?):
 Sim F {g' with own:=fun p=>match p with|.tmp t=>g.own (.tmp t)|q=>g'.own q} {s with blocks:=bs',loans:=fun t=>zCZ ρ (s.loans t)} a w':=by
 have h1:=h.after h0 hsto hext
 exact {h1 with
  ext:=h1.ext
  sto:=h1.sto
  size:=h1.size
  tmps:=h1.tmps
  defers:=h1.defers
  base:=h1.base
  loans:=fun t p hp=>by
   simp only at hp
   cases hl:s.loans t with
   |none=>rw[hl] at hp;cases hp
   |some q=>
    rw[hl] at hp
    cases q with
    |tmp u=>
     simp only[zCZ,Option.some.injEq] at hp
     subst hp
     exact h.loans t _ hl
    |cell b o=>
     simp only[zCZ] at hp
     split at hp
     ·cases hp
     ·rename_i hb
      simp only[Option.some.injEq] at hp
      subst hp
      obtain⟨k,e1,e2⟩:=h.loans t _ hl
      refine⟨k,hext.σ b k e1,?_⟩
      rw[World.cell?_of_block (w:=w) (hk b k (by simpa using hb) e1)];exact e2}
theorem ok_callK{c:Call}{first captured:List AV}(ho:o.op=.call c)(hc:c.callee=.value x)(hx:s.look x=.fn (.func f) first captured)
 {res:AV} {bs':List (List AV)} (h:RawK P f (zAz s first captured c.args) s.blocks res bs' (fun b=>b∉ρ)) (hres:res.owns=false):zJS P o s (s.calledK ρ o.dst res bs'):=fun F g a w hs K Q hK=>by
 have he:=zAT hs x
 rw[hx] at he
 cases hv:a.eval x with
 |func fn fv cv=>
  rw[hv] at he
  cases he with
  |fn _ _ _ _ _ hf hcv rf rc=>
   have hargs:RepL g.imm g.σ (zAz s first captured c.args) ((fv++c.args.map a.eval)++cv):=RepL.append (RepL.append ⟨hf,rf⟩ (zJr hs c.args)) ⟨hcv,rc⟩
   have hrun:(execOp a.eval o).run P w=.ok (.enter f ((fv++c.args.map a.eval)++cv)) w:=by
    simp only[execOp,ho,Sem.run_bind,resolve,hc,hv,Deferred.ofValue,Sem.run_pure,Result.andThen_ok,invoke,h.1.run]
   simp only[Oper.wp,hrun,Oper.upon]
   refine(h.2 _ w _ hs.callee (fun t=>rfl) hs.ext.tg.callee hargs).mono fun e w'=>?_
   rintro⟨g',v,rfl,h1,h2,h3,h4,h5⟩
   have hsim:=hs.afterK (ρ:=ρ) h4 h2 h3 h5
   show K (a.put o.dst v) w'
   cases hd:o.dst with
   |none=>exact hK _ _ _ (by simpa[AState.calledK,AState.putO,hd,Act.put] using hsim)
   |some d=>
    have hput:=hsim.putTmp d none (x:=res) (v:=v) h1 (OwnsBy.of_not hres) Floating.none
    rw[hd] at hK
    exact hK _ _ _ hput
 |_=>rw[hv] at he;cases he
@[simp] def leAV:AV->AV->Prop
 |_,.top=>True
 |.nsl,.osl _ l=>l=[]
 |.nsl,.osq _ l=>l=[]
 |.nsl,.sl l=>l=[]
 |.e0,.sl l=>l=[]
 |.osl ec l,.osl ec' l'=>ec=ec'∧l=l'
 |.osl ec l,.osq ec' l'=>ec=ec'∧l=l'
 |.osq ec l,.osq ec' l'=>ec=ec'∧l=l'
 |.osl _ l,.sl l'=>l=l'
 |.osq _ l,.sl l'=>l=l'
 |.agg cs,.agg cs'=>cs=cs'∨cs.map AV.norm1=cs'
 |x,y=>x=y
theorem leAV.le{x y:AV}(h:leAV x y):x.le y:=by
 unfold leAV at h
 split at h
 ·exact .inl rfl
 ·subst h;exact .inr (.inr (.inr (.inr (.inr (.inr (.inl ⟨rfl,_,rfl⟩))))))
 ·subst h;exact .inr (.inr (.inr (.inr (.inr (.inr (.inr (.inl ⟨rfl,_,rfl⟩)))))))
 ·subst h;exact .inr (.inr (.inl rfl))
 ·subst h;exact .inr (.inr (.inl rfl))
 ·obtain⟨rfl,rfl⟩:=h;exact .inr (.inl rfl)
 ·obtain⟨rfl,rfl⟩:=h;exact .inr (.inr (.inr (.inr (.inr (.inr (.inr (.inr ⟨_,_,rfl,rfl⟩)))))))
 ·obtain⟨rfl,rfl⟩:=h;exact .inr (.inl rfl)
 ·subst h;exact .inr (.inr (.inl rfl))
 ·subst h;exact .inr (.inr (.inl rfl))
 ·rcases h with rfl|rfl
  ·exact .inr (.inl rfl)
  ·exact .inr (.inr (.inr (.inl rfl)))
 ·subst h;exact .inr (.inl rfl)
def AllBelow(m:Nat)(bs:List (List AV)):Prop:= ∀(i j:Nat) blk x,bs[i]? =some blk->blk[j]? =some x->x.under m=true
structure AState.Le (s s':AState):Prop where
 tmps: ∀t,leAV (s.tmps t) (s'.tmps t)
 loans: ∀t,s'.loans t=none
 n:s'.n=s.n
 base:s'.base=s.base
 hbase:s.base<=s'.blocks.length
 short:s'.blocks.length<=s.blocks.length
 blocks: ∀(b:Nat) blk',s'.blocks[b]? =some blk'->∃blk,s.blocks[b]? =some blk∧blk.length=blk'.length∧∀(o:Nat) x',blk'[o]? =some x'->∃x,blk[o]? =some x∧leAV x x'∧(x'.one=true∨x=x')
 below:s'.blocks.length=s.blocks.length∨((∀t,(s'.tmps t).under s'.blocks.length=true)∧AllBelow s'.blocks.length s'.blocks)
theorem OwnsBy.le{x y:AV}(h:OwnsBy imm w bo x v)(hr:Rep imm σ x v)(hl:x.le y):OwnsBy imm w bo y v:=by
 rcases hl with rfl|rfl|rfl|rfl|rfl|rfl|⟨rfl,ec,rfl⟩|⟨rfl,ec,rfl⟩|⟨ec,l,rfl,rfl⟩
 ·trivial
 ·exact h
 ·exact OwnsBy.of_not (owns_norm1 _)
 ·exact OwnsBy.of_not (owns_norm _)
 ·exact OwnsBy.of_not (owns_normR _)
 ·exact OwnsBy.of_not (zEb _)
 ·intro base n cap hv;subst hv;cases hr;exact .inl rfl
 ·intro base n cap hv;subst hv;cases hr;exact .inl rfl
 ·intro base n cap hv
  rcases h base n cap hv with h|⟨a,h1,h2,_,h3⟩
  ·exact .inl h
  ·exact .inr ⟨a,h1,h2,h3⟩
theorem zIq{l:List α}{m:Nat}(h:m=l.length):l.take m=l:=by subst h;simp
theorem Sim.le'{s s':AState}(h:Sim F g s a w)(hl:s.Le s'): ∃g',Sim F g' s' a w∧g'.imm=g.imm∧g'.σ=g.σ.take s'.blocks.length:=by
 have hlen:s'.blocks.length<=g.σ.length:=by rw[h.sto.len];exact hl.short
 have htake: ∀(b k:Nat),(g.σ.take s'.blocks.length)[b]? =some k->g.σ[b]? =some k∧b<s'.blocks.length:=fun b k hb=>by
  rw[List.getElem?_take] at hb
  split at hb
  ·rename_i h1;exact⟨hb,h1⟩
  ·cases hb
 have hrep: ∀x v,Rep g.imm g.σ x v->(s'.blocks.length=s.blocks.length∨x.under s'.blocks.length=true)->Rep g.imm (g.σ.take s'.blocks.length) x v:=fun x v hr hb=>by
  rcases hb with hb|hb
  ·rw[zIq (by rw[h.sto.len];exact hb)];exact hr
  ·exact hr.under _ hb
 refine⟨{g with σ:=g.σ.take s'.blocks.length},?_,rfl,rfl⟩
 exact {
  ext:={h.ext with
   imm:=h.ext.imm
   immNew:=h.ext.immNew
   σ:=fun b k hb=>by
    have h1:b<s'.blocks.length:=by
     have:=(zq1 hb).1
     have h2:=h.base
     have h3:=hl.hbase
     omega
    show(g.σ.take s'.blocks.length)[b]? =some k
    rw[List.getElem?_take,if_pos h1];exact h.ext.σ b k hb
   mineσ:=fun k hk=>h.ext.mineσ k (List.mem_of_mem_take hk)
   mineOwn:=h.ext.mineOwn}
  sto:={
   gok:=h.sto.gok
   imm:=h.sto.imm
   immσ:=fun x v hx hm=>h.sto.immσ x v hx (List.mem_of_mem_take hm)
   len:=by simp[hlen]
   nodup:=h.sto.nodup.sublist (List.take_sublist _ _)
   blk:=fun i blk' k hb hk=>by
    obtain⟨hk1,hk2⟩:=htake i k hk
    obtain⟨blk,e1,e2,e3⟩:=hl.blocks i blk' hb
    obtain⟨c,ty,f1,f2,f3⟩:=h.sto.blk i blk k e1 hk1
    refine⟨c,ty,f1,by omega,fun j x' hx'=>?_⟩
    obtain⟨x,p1,p2,p3⟩:=e3 j x' hx'
    obtain⟨q1,q2,q3⟩:=f3 j x p1
    refine⟨?_,hrep _ _ (q2.le p2.le) ?_,q3.le q2 p2.le⟩
    ·rcases p3 with p3|p3
     ·exact .inl p3
     ·rw[<-p3];exact q1.imp (fun e=>by omega)
    rcases hl.below with hb'|⟨_,hb'⟩
    ·exact .inl hb'
    ·exact .inr (hb' i j blk' x' hb hx')
   ownσ:=fun p k hk=>⟨fun hm=>(h.sto.ownσ p k hk).1 (List.mem_of_mem_take hm),(h.sto.ownσ p k hk).2⟩
   ownInj:=h.sto.ownInj}
  size:=by rw[hl.n];exact h.size
  tmps:=fun t=>by
   refine⟨hrep _ _ ((h.tmps t).1.le (hl.tmps t).le) ?_,(h.tmps t).2.le (h.tmps t).1 (hl.tmps t).le⟩
   rcases hl.below with hb'|⟨hb',_⟩
   ·exact .inl hb'
   ·exact .inr (hb' t)
  loans:=fun t p hp=>by rw[hl.loans] at hp;cases hp
  defers:=h.defers
  base:=by rw[hl.base];exact h.base}
theorem Sim.le{s s':AState}(h:Sim F g s a w)(hl:s.Le s'): ∃g',Sim F g' s' a w:=by
 obtain⟨g',h1,_⟩:=h.le' hl
 exact⟨g',h1⟩
theorem awp_le{s s':AState}(h:AWp P c Q s')(hl:s.Le s'):AWp P c Q s:=fun F g a w hs=>by
 obtain⟨g',hs'⟩:=hs.le hl
 exact h F g' a w hs'
theorem awp_loop(I:α->AState)(μ:α->Nat)(x0:α)(h0:s.Le (I x0))
 (round: ∀x,AWp P c (seqK (fun s'=> ∃y,s'.Le (I y)∧μ y<μ x) Q) (I x)):AWp P (.loop c) Q s:=by
 intro F g a w hs b k cs
 obtain⟨g0,hs0⟩:=hs.le h0
 have key: ∀n x,μ x=n->∀g a w,Sim F g (I x) a w->
  ∃e a' w',(∃g' s',Sim F g' s' a' w'∧Q e s')∧Arrives P (lone (b.at a (.code c::.inLoop c::k)) cs w) b k cs e a' w':=by
  intro n
  induction n using Nat.strongRecOn with
  |_ n ih=>
   intro x hn g a w hI
   obtain⟨e,a₁,w₁,⟨g1,s1,h1,h2⟩,harr⟩:=round x F g a w hI b (.inLoop c::k) cs
   cases e with
   |normal=>
    obtain⟨y,hy,hlt⟩:=h2
    obtain⟨g2,h3⟩:=h1.le hy
    obtain⟨e₂,a₂,w₂,hq₂,harr₂⟩:=ih (μ y) (hn ▸ hlt) y rfl g2 a₁ w₁ h3
    exact⟨e₂,a₂,w₂,hq₂,.of_steps (Steps.trans harr (.one step_inLoop)) harr₂⟩
   |exit id=>exact⟨_,a₁,w₁,⟨g1,s1,h1,h2⟩,.pass (x:=.inLoop c) rfl (fun _ _=>.inl (by simp)) harr⟩
   |goto l=>exact⟨_,a₁,w₁,⟨g1,s1,h1,h2⟩,.pass (x:=.inLoop c) rfl (fun _ _=>.inl (by simp)) harr⟩
   |ret=>exact⟨_,a₁,w₁,⟨g1,s1,h1,h2⟩,.pass (x:=.inLoop c) rfl (fun _ _=>.inl (by simp)) harr⟩
   |panic ch=>exact⟨_,a₁,w₁,⟨g1,s1,h1,h2⟩,.pass (x:=.inLoop c) rfl (fun _ _=>.inl (by simp)) harr⟩
   |outgrown=>exact⟨_,a₁,w₁,⟨g1,s1,h1,h2⟩,.pass (x:=.inLoop c) rfl (fun _ _=>.inl (by simp)) harr⟩
 obtain⟨e,a',w',hq,harr⟩:=key _ x0 rfl g0 a w hs0
 exact⟨e,a',w',hq,.of_steps (.one step_loop) harr⟩
def lookD:List (Nat×AV)->Nat->AV
 |[],_=>.top
 |(u,x)::l,t=>if t=u then x else lookD l t
def mkS(n base:Nat)(live:List (Nat×AV))(blocks:List (List AV)):AState:=⟨lookD live,fun _=>none,n,base,blocks⟩
theorem le_lookD{f:Nat->AV}: ∀(live:List (Nat×AV)),(∀q,q∈live->leAV (f q.1) q.2)->∀t,leAV (f t) (lookD live t)
 |[],_,t=>by simp[lookD]
 |(u,x)::l,h,t=>by
  simp only[lookD]
  split
  ·rename_i e;subst e;exact h (t,x) (zq9 ..)
  ·exact le_lookD l (fun q hq=>h q (zqc _ hq)) t
theorem zLX{m:Nat}: ∀(live:List (Nat×AV)),(∀q,q∈live->q.2.under m=true)->∀t,(lookD live t).under m=true
 |[],_,t=>by simp[lookD,AV.under]
 |(u,x)::l,h,t=>by
  simp only[lookD]
  split
  ·exact h (u,x) (zq9 ..)
  ·exact zLX l (fun q hq=>h q (zqc _ hq)) t
@[simp] def leCells:List AV->List AV->Prop
 |[],[]=>True
 |x::l,y::l'=>leAV x y∧(y.one=true∨x=y)∧leCells l l'
 |_,_=>False
@[simp] def leBlocks:List (List AV)->List (List AV)->Prop
 |_,[]=>True
 |x::l,y::l'=>leCells x y∧leBlocks l l'
 |[],_::_=>False
theorem leCells.get: ∀{l l':List AV},leCells l l'->l.length=l'.length∧∀(o:Nat) x',l'[o]? =some x'->∃x,l[o]? =some x∧leAV x x'∧(x'.one=true∨x=x')
 |[],[],_=>⟨rfl,fun o x' h=>by simp at h⟩
 |x::l,y::l',h=>by
  obtain⟨h1,h2,h3⟩:=h
  obtain⟨h4,h5⟩:=leCells.get h3
  refine⟨by simp[h4],fun o x' hx=>?_⟩
  cases o with
  |zero=>simp at hx;subst hx;exact⟨x,rfl,h1,h2⟩
  |succ o=>simpa using h5 o x' (by simpa using hx)
 |[],_::_,h=>h.elim
 |_::_,[],h=>h.elim
theorem leBlocks.get: ∀{l l':List (List AV)},leBlocks l l'->l'.length<=l.length∧∀(b:Nat) blk',l'[b]? =some blk'->∃blk,l[b]? =some blk∧leCells blk blk'
 |l,[],_=>⟨by simp,fun b blk' h=>by simp at h⟩
 |x::l,y::l',h=>by
  obtain⟨h1,h2⟩:=h
  obtain⟨h3,h4⟩:=leBlocks.get h2
  refine⟨by simp;exact h3,fun b blk' hb=>?_⟩
  cases b with
  |zero=>simp at hb;subst hb;exact⟨x,rfl,h1⟩
  |succ b=>simpa using h4 b blk' (by simpa using hb)
 |[],_::_,h=>h.elim
theorem zJR{m:Nat}{bs:List (List AV)}(h: ∀blk,blk∈bs->AV.underL m blk=true):AllBelow m bs:=fun i j blk x hi hj=>zC5 (h blk (zq3 hi)) hj
theorem Le.lit{n base:Nat}{live:List (Nat×AV)}{blocks:List (List AV)}(hn:s.n=n)(hb:s.base=base)(hbl:base<=blocks.length)
 (h1: ∀q,q∈live->leAV (s.get q.1) q.2) (h2:leBlocks s.blocks blocks)
 (h3:s.blocks.length=blocks.length∨((∀q,q∈live->q.2.under blocks.length=true)∧∀blk,blk∈blocks->AV.underL blocks.length blk=true)):s.Le (mkS n base live blocks) where
 tmps:=le_lookD live h1
 loans:=fun t=>rfl
 n:=hn.symm
 base:=hb.symm
 hbase:=by rw[hb];exact hbl
 short:=h2.get.1
 blocks:=fun b blk' hb'=>by
  obtain⟨blk,e1,e2⟩:=h2.get.2 b blk' hb'
  exact⟨blk,e1,e2.get.1,e2.get.2⟩
 below:=by
  rcases h3 with h3|⟨h3,h4⟩
  ·exact .inl h3.symm
  ·exact .inr ⟨zLX live h3,zJR h4⟩
def zKq(P:Program)(s:AState):ResultVar->Option (Prop×AV)
 |.tmp t=>some (True,(s.get t).copy)
 |.cell a t=>match s.get a with
  |.mptr b o=>loadV P t ((s.blocks.getD b []).drop o)
  |_=>none
def zFs(P:Program)(s:AState):List ResultVar->Option (Prop×List AV)
 |[]=>some (True,[])
 |r::l=>match zKq P s r,zFs P s l with
  |some (c,x),some (c',xs)=>some (c∧c',x::xs)
  |_,_=>none
def oneOf:List AV->AV
 |[x]=>x
 |l=>.tup l
def resSem(tmps:Array Value):ResultVar->Sem Value
 |.tmp t=>pure (tmps.getD t undef)
 |.cell b t=>do loadVar t (<-asAddr (tmps.getD b undef))
theorem results_eq(fn:Func)(tmps:Array Value):results fn tmps=(do let vs<-fn.results.mapM (resSem tmps);pure (if h:vs.size=1 then vs[0] else .tuple vs)):=by
 unfold results
 congr 1
theorem res1_ok(h:Sim F g s a w){r:ResultVar}{c:Prop}{x:AV}(hr:zKq P s r=some (c,x))(hc:c):
 ∃v,(resSem a.tmps r).run P w=.ok v w∧Rep g.imm g.σ x v:=by
 cases r with
 |tmp t=>
  simp only[zKq,Option.some.injEq,Prod.mk.injEq] at hr
  obtain⟨rfl,rfl⟩:=hr
  exact⟨_,rfl,(h.tmps t).1.copy⟩
 |cell b t=>
  simp only[zKq] at hr
  split at hr
  ·rename_i bb off hx
   have he:=(h.tmps b).1
   have hx':s.tmps b=.mptr bb off:=hx
   rw[hx'] at he
   cases hv:a.tmps.getD b undef with
   |pointer p=>
    rw[hv] at he
    cases he with
    |mptr _ _ k hk=>
     have hcell: ∀(j:Nat) y,((s.blocks.getD bb []).drop off)[j]? =some y->∃u,w.cell? ((⟨k,off,none⟩:Addr).add j)=some u∧Rep g.imm g.σ y u:=fun j y hy=>by
      rw[List.getElem?_drop] at hy
      obtain⟨u,h1,h2,_⟩:=h.cell hy hk
      exact⟨u,by rw[add_mk];exact h1,h2⟩
     obtain⟨u,h1,h2,h3,h4⟩:=loadV_ok (imm:=g.imm) (σ:=g.σ) (w:=w) (b:=⟨k,off,none⟩)
      (vs:=fun j=>(w.cell? ((⟨k,off,none⟩:Addr).add j)).getD undef) hr hc
      (fun j y hy=>by obtain⟨u,hu,_⟩:=hcell j y hy;rw[hu];rfl) (fun j y hy=>by obtain⟨u,hu,hr⟩:=hcell j y hy;rw[hu];exact hr)
     exact⟨u,by simp only[resSem,Sem.run_bind,hv,asAddr,Sem.run_pure,Result.andThen_ok,h1],h2⟩
   |_=>rw[hv] at he;cases he
  ·cases hr
theorem resL_ok(h:Sim F g s a w): ∀(l:List ResultVar)(c:Prop)(xs:List AV),zFs P s l=some (c,xs)->c->
 ∃vs:List Value,(l.mapM (resSem a.tmps)).run P w=.ok vs w∧
  vs.length=xs.length∧∀(i:Nat) x,xs[i]? =some x->∃v,vs[i]? =some v∧Rep g.imm g.σ x v:=by
 intro l
 induction l with
 |nil=>
  intro c xs hl hc
  simp only[zFs,Option.some.injEq,Prod.mk.injEq] at hl
  obtain⟨rfl,rfl⟩:=hl
  exact⟨[],by simp,rfl,fun i x hx=>by simp at hx⟩
 |cons r l ih=>
  intro c xs hl hc
  simp only[zFs] at hl
  split at hl
  ·rename_i c1 x c2 xs' h1 h2
   simp only[Option.some.injEq,Prod.mk.injEq] at hl
   obtain⟨rfl,rfl⟩:=hl
   obtain⟨v,e1,e2⟩:=res1_ok h h1 hc.1
   obtain⟨vs,f1,f2,f3⟩:=ih c2 xs' h2 hc.2
   refine⟨v::vs,?_,by simp[f2],fun i y hy=>?_⟩
   ·simp only[List.mapM_cons,Sem.run_bind,e1,Result.andThen_ok,f1,Sem.run_pure]
   ·cases i with
    |zero=>simp at hy;subst hy;exact⟨v,rfl,e2⟩
    |succ i=>simpa using f3 i y (by simpa using hy)
  ·cases hl
theorem results_ok(h:Sim F g s a w){c:Prop}{xs:List AV}(hr:zFs P s fn.results.toList=some (c,xs))(hc:c):
 ∃v,(results fn a.tmps).run P w=.ok v w∧Rep g.imm g.σ (oneOf xs) v:=by
 obtain⟨vs,h1,h2,h3⟩:=resL_ok h _ c xs hr hc
 have hrun:(fn.results.mapM (resSem a.tmps)).run P w=.ok vs.toArray w:=by
  rw[Array.mapM_eq_mapM_toList]
  simp only[Sem.run_map,h1,Result.andThen_ok]
 rw[results_eq]
 simp only[Sem.run_bind]
 refine⟨if h:vs.toArray.size=1 then vs.toArray[0] else .tuple vs.toArray,?_,?_⟩
 ·have:=hrun
  simp only[hrun,Result.andThen_ok,Sem.run_pure]
 ·cases xs with
  |nil=>
   have:vs=[]:=by simpa using h2
   subst this
   simpa[oneOf] using Rep.tup (imm:=g.imm) (σ:=g.σ) [] #[] rfl (by simp)
  |cons x xs=>
   cases xs with
   |nil=>
    obtain⟨v,hv,hr⟩:=h3 0 x rfl
    match vs,h2,hv with
    |[u],_,hv=>
     simp at hv;subst hv
     simpa[oneOf] using hr
   |cons y xs=>
    have hne:vs.toArray.size≠1:=by simp[h2]
    rw[dif_neg hne]
    refine .tup _ _ (by simp[h2]) fun i z hz=>?_
    obtain⟨v,hv,hr⟩:=h3 i z hz
    rw[zq6,List.getElem?_toArray,hv];exact hr
def Ret(P:Program)(fn:Func)(R:AV->AState->Prop):Exit->AState->Prop
 |.normal,s|.ret,s=>match zFs P s fn.results.toList with
  |some (c,xs)=>c∧R (oneOf xs).normR s
  |none=>False
 |_,_=>False
def start(n base:Nat)(args:List AV)(bs:List (List AV)):AState:=⟨fun t=>args.getD t (.tup []),fun _=>none,n,base,bs⟩
theorem start_tmps{vals:Array Value}(h:RepL imm σ args vals)(n t:Nat):
 Rep imm σ (args.getD t (.tup [])) ((vals++Array.replicate n undef).getD t undef):=by
 by_cases ht:t<args.length
 ·have h1:=h.2 t _ (zB7 (.tup []) ht)
  rwa [zq6,Array.getElem?_append_left (by rw[h.1];exact ht),<-zq6]
 ·rw[zq5,List.getElem?_eq_none (by omega),zq6,Array.getElem?_append_right (by rw[h.1];omega)]
  have:((Array.replicate n undef)[t-vals.size]?).getD undef=undef:=by
   rw[Array.getElem?_replicate];split<;>rfl
  rw[this]
  exact .tup [] #[] rfl (by simp)
theorem owns_getD(h:args.all (fun x=> !x.owns)=true)(t:Nat):(args.getD t (.tup [])).owns=false:=by
 by_cases ht:t<args.length
 ·have:=zKo h (zB7 (.tup []) ht)
  simpa using this
 ·rw[zq5,List.getElem?_eq_none (by omega)];rfl
theorem sim_start{bs:List (List AV)}{vals:Array Value}(hs:Sto g bs w)(h0: ∀t,g.own (.tmp t)=none)(ha:RepL g.imm g.σ args vals)
 (hn:args.length<=n) (hown:args.all (fun x=> !x.owns)=true) (htg:TG g w):
 Sim ⟨w,g⟩ g (start n bs.length args bs) {tmps:=vals++Array.replicate (n-vals.size) undef,defers:=[]} w where
 ext:=Ext.refl' w g (fun k hk=>hs.σ_lt hk) h0 htg
 sto:=hs
 size:=by simp[start,ha.1];omega
 tmps:=fun t=>⟨start_tmps ha _ t,OwnsBy.of_not (owns_getD hown t)⟩
 loans:=fun t p hp=>by cases hp
 defers:=rfl
 base:=by simp[start,hs.len]
theorem body_ok{bs:List (List AV)}(hf:P.funcs[f]? =some fn)(hb:fn.body=some c)
 (hn:args.length<=fn.ntmps) (hown:args.all (fun x=> !x.owns)=true) (h:AWp P c (Ret P fn R) (start fn.ntmps bs.length args bs))
 {g:Gh} {w:World} {vals:Array Value} (hs:Sto g bs w) (h0: ∀t,g.own (.tmp t)=none) (htg:TG g w) (ha:RepL g.imm g.σ args vals):
 Calls P f vals w fun e w'=> ∃g' s' a' v r,e=.returned v∧Sim ⟨w,g⟩ g' s' a' w'∧Rep g'.imm g'.σ r v∧R r s':=by
 refine calls_of_wp hf hb (wp_mono (h ⟨w,g⟩ g _ w (sim_start hs h0 ha hn hown htg)) fun e a' w' ⟨g',s',h1,h2⟩=>?_)
 have key:(match zFs P s' fn.results.toList with|some (c,xs)=>c∧R (oneOf xs).normR s'|none=>False)->
  a'.defers=[]∧∃v,(results fn a'.tmps).run P w'=.ok v w'∧∃g2 s2 a2 v2 r,Ending.returned v=.returned v2∧Sim ⟨w,g⟩ g2 s2 a2 w'∧Rep g2.imm g2.σ r v2∧R r s2:=fun h2=>by
  split at h2
  ·rename_i c xs hr
   obtain⟨v,e1,e2⟩:=results_ok h1 hr h2.1
   exact⟨h1.defers,v,e1,g',s',a',v,_,rfl,h1,e2.normR,h2.2⟩
  ·exact h2.elim
 cases e with
 |normal=>exact key h2
 |ret=>exact key h2
 |_=>exact h2.elim
def AState.dropB(s:AState):AState:=⟨fun _=>.top,fun _=>none,s.n,s.base,s.blocks.take (s.blocks.length-1)⟩
def zLF(m:Nat):List (List AV)->Bool
 |[]=>true
 |b::l=>AV.underL m b&&zLF m l
theorem zLE{m:Nat}: ∀{l:List (List AV)},zLF m l=true->∀b,b∈l->AV.underL m b=true
 |[],_,b,hb=>by cases hb
 |x::l,h,b,hb=>by
  simp only[zLF,zq7] at h
  rcases List.mem_cons.1 hb with rfl|hb
  ·exact h.1
  ·exact zLE h.2 b hb
def DropOk(s:AState)(r:AV):Prop:=s.base<s.blocks.length∧r.under (s.blocks.length-1)=true∧zLF (s.blocks.length-1) (s.blocks.take (s.blocks.length-1))=true
theorem DropOk.le{r:AV}(h:DropOk s r):s.Le s.dropB:=by
 obtain⟨h1,h2,h3⟩:=h
 have hlen:s.dropB.blocks.length=s.blocks.length-1:=by simp only[AState.dropB,List.length_take];omega
 exact {
  tmps:=fun t=>by show leAV _ .top;cases s.tmps t<;>simp
  loans:=fun t=>rfl
  n:=rfl
  base:=rfl
  hbase:=by rw[hlen];omega
  short:=by rw[hlen];omega
  blocks:=fun b blk' hb=>by
   simp only[AState.dropB,List.getElem?_take] at hb
   split at hb
   ·refine⟨blk',hb,rfl,fun o x' hx=>⟨x',hx,?_,.inr rfl⟩⟩
    cases x'<;>simp
   ·cases hb
  below:=.inr ⟨fun t=>rfl,by rw[hlen];exact zJR (zLE h3)⟩}
def FzR:List Bool->(AV->AState->Prop)->AV->AState->Prop
 |[],R,r,s=>R r s
 |true::k,R,r,s=>FzOk s∧FzR k R (r.fz s.lb s.lblk) s.fz
 |false::k,R,r,s=>DropOk s r∧FzR k R r s.dropB
theorem FzR.open: ∀(k:List Bool)(g:Gh)(s:AState)(r:AV),Sim F g s a w->Rep g.imm g.σ r v->FzR k R r s->∃g' s' r',Sim F g' s' a w∧Rep g'.imm g'.σ r' v∧R r' s'
 |[],g,s,r,h1,h2,h3=>⟨g,s,r,h1,h2,h3⟩
 |true::k,g,s,r,h1,h2,h3=>by
  obtain⟨g',h4,h5⟩:=h1.fz h3.1
  exact FzR.open k g' s.fz _ h4 (h5 _ _ h2) h3.2
 |false::k,g,s,r,h1,h2,h3=>by
  obtain⟨g',h4,h5,h6⟩:=h1.le' h3.1.le
  refine FzR.open k g' s.dropB r h4 ?_ h3.2
  have hl:s.dropB.blocks.length=s.blocks.length-1:=by simp only[AState.dropB,List.length_take];have:=h3.1.1;omega
  rw[h5,h6,hl]
  exact h2.under _ h3.1.2.1
def FzE(R:AV->AState->Prop)(r:AV)(s:AState):Prop:= ∃k,FzR k R r s
theorem FzR.imp{R R':AV->AState->Prop}(hm: ∀r s,R r s->R' r s): ∀(k:List Bool)(r:AV)(s:AState),FzR k R r s->FzR k R' r s
 |[],r,s,h=>hm r s h
 |true::k,r,s,h=>⟨h.1,FzR.imp hm k _ _ h.2⟩
 |false::k,r,s,h=>⟨h.1,FzR.imp hm k _ _ h.2⟩
theorem Ret.mono{R R':AV->AState->Prop}(hm: ∀r s,R r s->R' r s){e:Exit}(h:Ret P fn R e s):Ret P fn R' e s:=by
 have key:(match zFs P s fn.results.toList with|some (c,xs)=>c∧R (oneOf xs).normR s|none=>False)->(match zFs P s fn.results.toList with|some (c,xs)=>c∧R' (oneOf xs).normR s|none=>False):=fun h=>by
  split at h
  ·rename_i c xs hr
   exact⟨h.1,hm _ _ h.2⟩
  ·exact h.elim
 cases e with
 |normal=>exact key h
 |ret=>exact key h
 |_=>exact h.elim
theorem body_okE{bs:List (List AV)}(hf:P.funcs[f]? =some fn)(hb:fn.body=some c)
 (hn:args.length<=fn.ntmps) (hown:args.all (fun x=> !x.owns)=true) (h:AWp P c (Ret P fn (FzE R)) (start fn.ntmps bs.length args bs))
 {g:Gh} {w:World} {vals:Array Value} (hs:Sto g bs w) (h0: ∀t,g.own (.tmp t)=none) (htg:TG g w) (ha:RepL g.imm g.σ args vals):
 Calls P f vals w fun e w'=> ∃g' s' a' v r,e=.returned v∧Sim ⟨w,g⟩ g' s' a' w'∧Rep g'.imm g'.σ r v∧R r s':=
 (body_ok hf hb hn hown h hs h0 htg ha).mono fun e w'=>by
  rintro⟨g',s',a',v,r,rfl,h1,h2,h3⟩
  obtain⟨k,h3⟩:=h3
  obtain⟨g2,s2,r2,h4,h5,h6⟩:=h3.open k g' s' r h1 h2
  exact⟨g2,s2,a',v,r2,rfl,h4,h5,h6⟩
theorem zJd (hf:P.funcs[f]? =some fn) (hname:(fn.name== "runtime.NumGoroutine")=false) (hb:fn.body=some c)
 (hn:args.length<=fn.ntmps) (hown:args.all (fun x=> !x.owns)=true) (hres:res.flat=true) (h:AWp P c (Ret P fn (FzE fun r _=>r=res)) (start fn.ntmps 0 args [])):Pure P f args res:=by
 refine⟨⟨fn,hf,hname,by rw[hb];rfl⟩,fun imm w vals him hgl htb ha=>?_⟩
 have hs:Sto ⟨imm,[],fun _=>none⟩ [] w:={
  gok:=hgl
  imm:=him
  immσ:=fun x v _ hm=>by cases hm
  len:=rfl
  nodup:=List.nodup_nil
  blk:=fun i b k hb _=>by simp at hb
  ownσ:=fun p k hk=>by cases hk
  ownInj:=fun p q k hk=>by cases hk}
 refine(body_okE (bs:=[]) hf hb hn hown h hs (fun _=>rfl) ⟨htb,fun k hk=>(by cases hk),fun p k hk=>by cases hk⟩ ha).mono fun e w'=>?_
 rintro⟨g',s',a',v,r,rfl,h1,h2,rfl⟩
 have hT: ∀k,¬(⟨w,⟨imm,[],fun _=>none⟩⟩:Fx).T k:=fun k hk=>by
  rcases hk with hk|⟨b,o,hk⟩
  ·cases hk
  ·cases hk
 refine⟨g'.imm,v,rfl,h2.flat hres,h1.ext.imm,h1.sto.imm,⟨h1.ext.os,h1.ext.tape,h1.ext.output,h1.ext.size,fun k hk=>h1.ext.keep k hk (hT k)⟩,fun x u hx=>?_⟩
 rcases h1.ext.immNew x u hx with h3|h3|h3
 ·exact .inl h3
 ·exact .inr h3
 ·exact(hT _ h3).elim
theorem zGT (k:List Bool) (hf:P.funcs[f]? =some fn) (hname:(fn.name== "runtime.NumGoroutine")=false) (hb:fn.body=some c)
 (hn:args.length<=fn.ntmps) (hown:args.all (fun x=> !x.owns)=true) (hres:res.flat=true) (h:AWp P c (Ret P fn (FzR k fun r _=>r=res)) (start fn.ntmps 0 args [])):Pure P f args res:=
 zJd hf hname hb hn hown hres (zGA h fun e s hR=>hR.mono fun r s h=>⟨k,h⟩)
theorem zAA (hf:P.funcs[f]? =some fn) (hname:(fn.name== "runtime.NumGoroutine")=false) (hb:fn.body=some c)
 (hn:args.length<=fn.ntmps) (hown:args.all (fun x=> !x.owns)=true) (hres:res.flat=true) (h:AWp P c (Ret P fn fun r _=>r=res) (start fn.ntmps 0 args [])):Pure P f args res:=zGT [] hf hname hb hn hown hres h
def endS(s:AState)(bs:List (List AV)):AState:=⟨fun _=>.top,fun _=>none,s.n,s.base,bs⟩
def Good(bs:List (List AV)):Prop:= ∀(i j:Nat) blk x,bs[i]? =some blk->blk[j]? =some x->(x.one=true∨∃t b,x=.baddr t b)∧x.under bs.length=true
theorem Sto.good{bs:List (List AV)}(h:Sto g bs w):Good bs:=fun i j blk x hi hj=>by
 have hl:i<g.σ.length:=by rw[h.len];exact(zq1 hi).1
 obtain⟨c,ty,h1,h2,h3⟩:=h.blk i blk _ hi (zq2 hl)
 obtain⟨e1,e2,e3⟩:=h3 j x hj
 exact⟨e1.elim .inl fun⟨_,b,e1⟩=>.inr ⟨_,_,e1⟩,by rw[<-h.len];exact e2.isUnder⟩
theorem zKI {bs bs':List (List AV)} (hf:P.funcs[f]? =some fn) (hname:(fn.name== "runtime.NumGoroutine")=false) (hb:fn.body=some c)
 (hn:args.length<=fn.ntmps) (hown:args.all (fun x=> !x.owns)=true)
 (h:Good bs->AWp P c (Ret P fn (FzE fun r s=>r=res∧s.Le (endS s bs')∧(bs'.length=s.blocks.length∨res.under bs'.length=true))) (start fn.ntmps bs.length args bs)):Raw P f args bs res bs':=by
 refine⟨⟨fn,hf,hname,by rw[hb];rfl⟩,fun g w vals hs h0 htg ha=>?_⟩
 refine(body_okE hf hb hn hown (h hs.good) hs h0 htg ha).mono fun e w'=>?_
 rintro⟨g',s',a',v,r,rfl,h1,h2,rfl,h3,h4⟩
 have hlen:bs'.length<=g'.σ.length:=by rw[h1.sto.len];exact h3.short
 obtain⟨g2,h5,h6,h7⟩: ∃g2,Sim ⟨w,g⟩ g2 (endS s' bs') a' w'∧g2.imm=g'.imm∧g2.σ=g'.σ.take bs'.length:=by
  obtain⟨g2,h5⟩:=h1.le' h3
  exact⟨g2,h5⟩
 refine⟨{g2 with own:=fun p=>match p with|.tmp _=>none|q=>g2.own q},v,rfl,?_,h5.callee,?_,fun t=>rfl⟩
 ·rcases h4 with h4|h4
  ·have:g2.σ=g'.σ:=by rw[h7,zIq (by rw[h1.sto.len];exact h4)]
   show Rep g2.imm g2.σ r v
   rw[h6,this];exact h2
  ·show Rep g2.imm g2.σ r v
   rw[h6,h7];exact h2.under _ h4
 ·exact {h5.ext with
   imm:=h5.ext.imm
   immNew:=h5.ext.immNew
   mineσ:=h5.ext.mineσ
   mineOwn:=fun p k hk=>by
    cases p with
    |tmp t=>cases hk
    |cell b o=>exact h5.ext.mineOwn _ k hk}
theorem raw_of_bodyF (k:List Bool) {bs bs':List (List AV)} (hf:P.funcs[f]? =some fn) (hname:(fn.name== "runtime.NumGoroutine")=false) (hb:fn.body=some c)
 (hn:args.length<=fn.ntmps) (hown:args.all (fun x=> !x.owns)=true)
 (h:Good bs->AWp P c (Ret P fn (FzR k fun r s=>r=res∧s.Le (endS s bs')∧(bs'.length=s.blocks.length∨res.under bs'.length=true))) (start fn.ntmps bs.length args bs)):Raw P f args bs res bs':=
 zKI hf hname hb hn hown fun hg=>zGA (h hg) fun e s hR=>hR.mono fun r s h=>⟨k,h⟩
theorem raw_of_body {bs bs':List (List AV)} (hf:P.funcs[f]? =some fn) (hname:(fn.name== "runtime.NumGoroutine")=false) (hb:fn.body=some c)
 (hn:args.length<=fn.ntmps) (hown:args.all (fun x=> !x.owns)=true)
 (h:Good bs->AWp P c (Ret P fn fun r s=>r=res∧s.Le (endS s bs')∧(bs'.length=s.blocks.length∨res.under bs'.length=true)) (start fn.ntmps bs.length args bs)):Raw P f args bs res bs':=raw_of_bodyF [] hf hname hb hn hown h
def AState.upd(s:AState)(d:Nat)(y:AV)(m:Option Place):AState:=
 {s with tmps:=fun t=>if t=d then y else s.tmps t,loans:=fun t=>if t=d then m else s.loans t}
def zFq(xs:List Operand):List Nat:=xs.filterMap fun|.tmp t=>some t|_=>none
def zDC:Op->List Nat
 |.call c=>zFq ((match c.callee with|.value f=>[f]|.invoke r _=>[r]|.builtin _=>[])++c.args.toList)
 |.build _ ps|.buildSlice _ _ ps=>zFq (ps.toList.map (·.2))
 |.makeFunc _ first captured=>zFq (first.toList++captured.toList)
 |.move x|.assign x|.box _ x|.load _ x|.nilCheck x|.unOp _ _ x|.convert _ _ x|.makeInterface _ x|.fieldAddr _ x _|.field _ x _|.extract x _=>zFq [x]
 |.pick c a b=>zFq [c,a,b]
 |.store _ a v|.makeSlice _ a v|.binOp _ _ a v _|.indexAddr _ a v|.index _ a v=>zFq [a,v]
 |.slice _ x l h m=>zFq (x::(l.toList++h.toList++m.toList))
 |_=>[]
theorem zFc{t:Nat}(h:Operand.tmp t∈xs):t∈zFq xs:=List.mem_filterMap.2 ⟨_,h,rfl⟩
section
variable (s:AState) (d:Nat) (y:AV) (m:Option Place)
theorem ev_upd(h:x≠.tmp d):(s.upd d y m).ev x=s.ev x:=by
 cases x with
 |tmp t=>
  show(if t=d then y else s.tmps t)=s.tmps t
  rw[if_neg (fun e=>h (by rw[e]))]
 |_=>rfl
theorem zAk(h:x≠.tmp d):(s.upd d y m).look x=s.look x:=by
 unfold AState.look;rw[ev_upd s d y m h]
theorem get_upd{t:Nat}(h:t≠d):(s.upd d y m).get t=s.get t:=by
 show(if t=d then y else s.tmps t)=s.tmps t
 rw[if_neg h]
def AState.free(s:AState)(d:Nat):Prop:= ∀t,s.loans t≠some (.tmp d)
theorem at_upd{p:Place}(h:p≠.tmp d):(s.upd d y m).at p=s.at p:=by
 cases p with
 |tmp t=>exact get_upd s d y m (fun e=>h (by rw[e]))
 |cell b o=>rfl
theorem zG8{t:Nat}(h:t≠d)(hf:s.free d):(s.upd d y m).owner t=s.owner t:=by
 unfold AState.owner
 rw[get_upd s d y m h]
 have hl:(s.upd d y m).loans t=s.loans t:=by
  show(if t=d then m else s.loans t)=_
  rw[if_neg h]
 rw[hl]
 split
 ·rfl
 ·cases hp:s.loans t with
  |none=>rfl
  |some p=>
   simp only
   rw[at_upd s d y m (fun e=>hf t (by rw[hp,e]))]
theorem degrade_upd{p:Place}(h:p≠.tmp d):(s.upd d y m).degrade p=(s.degrade p).upd d y m:=by
 cases p with
 |tmp t=>
  have ht:t≠d:=fun e=>h (by rw[e])
  simp only[AState.degrade,AState.upd,AState.mk.injEq,and_true,true_and]
  funext u
  by_cases e:u=t
  ·subst e;simp[ht]
  ·simp[e]
 |cell b o=>rfl
theorem zLL{t:Nat}{p:Place}(h:s.owner t=some p):p=.tmp t∨s.loans t=some p:=by
 unfold AState.owner at h
 split at h
 ·cases h;exact .inl rfl
 ·split at h
  ·rename_i q hq
   split at h
   ·cases h;exact .inr hq
   ·cases h
  ·cases h
theorem zGv(h:x≠.tmp d)(hf:s.free d):(s.upd d y m).takeV x=s.takeV x:=by
 cases x with
 |tmp t=>
  have ht:t≠d:=fun e=>h (by rw[e])
  simp only[AState.takeV,zG8 s d y m ht hf,get_upd s d y m ht]
  cases ho:s.owner t with
  |none=>rfl
  |some p=>
   simp only
   refine at_upd s d y m fun e=>?_
   rcases zLL s ho with h1|h1
   ·rw[e] at h1;cases h1;exact ht rfl
   ·exact hf t (by rw[h1,e])
 |_=>rfl
theorem zIr(h:x≠.tmp d)(hf:s.free d):(s.upd d y m).takeS x=(s.takeS x).upd d y m:=by
 cases x with
 |tmp t=>
  have ht:t≠d:=fun e=>h (by rw[e])
  simp only[AState.takeS,zG8 s d y m ht hf]
  cases ho:s.owner t with
  |none=>rfl
  |some p=>
   simp only
   refine degrade_upd s d y m fun e=>?_
   rcases zLL s ho with h1|h1
   ·rw[e] at h1;cases h1;exact ht rfl
   ·exact hf t (by rw[h1,e])
 |_=>rfl
def notCell(m:Option Place):Prop:= ∀b o,m≠some (.cell b o)
theorem zLG(b o:Nat)(x:AV)(hm: ∀o,m≠some (.cell b o)):(s.upd d y m).setCell b o x=(s.setCell b o x).upd d y m:=by
 simp only[AState.setCell,AState.upd,AState.mk.injEq,and_true,true_and]
 funext t
 by_cases e:t=d
 ·subst e;simp[hm o]
 ·simp[e]
theorem zJ5(b:Nat)(hm: ∀o,m≠some (.cell b o)): ∀(xs:List AV)(o:Nat)(s:AState),(s.upd d y m).setCells b o xs=(s.setCells b o xs).upd d y m
 |[],o,s=>rfl
 |x::xs,o,s=>by
  simp only[AState.setCells]
  rw[zLG s d y m b o x hm]
  exact zJ5 b hm xs (o+1) _
theorem zLy(blk:List AV):(s.upd d y m).push blk=(s.push blk).upd d y m:=rfl
theorem put_upd{e:Nat}(x:AV)(he:e≠d)(hm:m≠some (.tmp e)):(s.upd d y m).put e x=(s.put e x).upd d y m:=by
 have hn:(s.upd d y m).n=s.n:=rfl
 unfold AState.put
 rw[hn]
 split
 ·simp only[AState.upd,AState.mk.injEq,and_true,true_and]
  constructor
  ·funext t
   by_cases h1:t=e
   ·subst h1;simp[he]
   ·simp[h1]
  ·funext t
   by_cases h1:t=d
   ·subst h1;simp[Ne.symm he,hm]
   ·simp[h1]
 ·rfl
theorem putL_upd{e:Nat}(x:AV)(l:Option Place)(he:e≠d)(hm:m≠some (.tmp e)):(s.upd d y m).putL e x l=(s.putL e x l).upd d y m:=by
 unfold AState.putL
 cases l with
 |none=>exact put_upd s d y m x he hm
 |some p=>
  have hn:(s.upd d y m).n=s.n:=rfl
  simp only[hn]
  split
  ·exact put_upd s d y m x he hm
  ·rw[put_upd s d y m x he hm]
   simp only[AState.upd,AState.mk.injEq,and_true,true_and]
   funext t
   by_cases h1:t=e
   ·subst h1;simp[he]
   ·simp[h1]
theorem zLx{e:Option Nat}(x:AV)(he: ∀k,e=some k->k≠d∧m≠some (.tmp k)):(s.upd d y m).putO e x=(s.putO e x).upd d y m:=by
 cases e with
 |none=>rfl
 |some k=>exact put_upd s d y m x (he k rfl).1 (he k rfl).2
theorem put_eq_upd{x:AV}(hd:d<s.n)(hf:s.free d):s.put d x=s.upd d x none:=by
 unfold AState.put
 rw[if_pos hd]
 simp only[AState.upd,AState.mk.injEq,and_true,true_and]
 funext t
 by_cases h1:t=d
 ·simp[h1]
 ·simp[h1,hf t]
theorem zH0{x:AV}{l:Option Place}(hd:d<s.n)(hf:s.free d)(hl:l≠some (.tmp d)):s.putL d x l=s.upd d x l:=by
 unfold AState.putL
 cases l with
 |none=>exact put_eq_upd s d hd hf
 |some p=>
  have hne: ¬(p=.tmp d∨s.n<=d):=fun h=>by
   rcases h with h|h
   ·exact hl (by rw[h])
   ·omega
  simp only[if_neg hne]
  rw[put_eq_upd s d hd hf]
  simp only[AState.upd,AState.mk.injEq,and_true,true_and]
  funext t
  by_cases h1:t=d
  ·simp[h1]
  ·simp[h1]
end
def Res.upd(r:Res)(d:Nat)(y:AV)(m:Option Place):Res:={r with st:=r.st.upd d y m}
theorem zAI{d:Nat}(h:d∉zFq xs)(hx:x∈xs):x≠.tmp d:=fun e=>h (zFc (by rw[<-e];exact hx))
theorem map_look_upd(s:AState)(d:Nat)(y:AV)(m:Option Place)(h:d∉zFq xs)(f:AV->AV):(xs.map fun x=>f ((s.upd d y m).look x))=xs.map fun x=>f (s.look x):=by
 apply List.map_congr_left
 intro x hx
 rw[zAk s d y m (zAI h hx)]
def isStore:Op->Bool
 |.store ..=>true
 |_=>false
def okM(op:Op)(s:AState)(m:Option Place):Prop:= ∀t x y,op=.store t x y->∀b off,s.ev x=.mptr b off->∀o,m≠some (.cell b o)
theorem absOp_upd(P:Program)(s:AState)(d:Nat)(y:AV)(m:Option Place)(op:Op)(hm:okM op s m)(hf:s.free d)(h:d∉zDC op):
 zHO P (s.upd d y m) op=(zHO P s op).map fun r=>r.upd d y m:=by
 have hb:(s.upd d y m).blocks=s.blocks:=rfl
 cases op<;>simp only[zDC] at h<;>simp only[zHO,Option.map_none,Option.map_some]
 case move x=>
  have hx:=zAI h (zq9 ..)
  simp only[zLI,Res.upd,zAk s d y m hx]
  congr 2
  cases x with
  |tmp t=>
   have ht:t≠d:=fun e=>hx (by rw[e])
   simp only[AState.loanOf,get_upd s d y m ht]
  |_=>rfl
 case assign x=>
  have hx:=zAI h (zq9 ..)
  simp only[zI1,Res.upd,zGv s d y m hx hf,zIr s d y m hx hf]
 case pick c a b=>
  simp only[zJ8,Res.upd,zAk s d y m (zAI h (x:=c) (by simp)),zAk s d y m (zAI h (x:=a) (by simp)),zAk s d y m (zAI h (x:=b) (by simp))]
 case alloc t=>
  unfold zG4
  split
  ·split
   ·simp only[resNew,hb,zLy,Option.map_some,Res.upd]
   ·rfl
  ·rfl
 case box t x=>
  have hx:=zAI h (zq9 ..)
  simp only[resBox,resNew,Res.upd,zAk s d y m hx,hb,zLy]
 case build t parts=>
  have hp:(parts.toList.map fun q=>(q.1,(s.upd d y m).look q.2))=parts.toList.map fun q=>(q.1,s.look q.2):=by
   apply List.map_congr_left
   intro q hq
   rw[zAk s d y m (zAI h (List.mem_map.2 ⟨q,hq,rfl⟩))]
  unfold zIV
  rw[hp]
  split
  ·split
   ·split<;>rfl
   ·rfl
  ·split
   ·split<;>rfl
   ·rfl
  ·rfl
 case buildSlice t n parts=>
  have hp: ∀q,q∈parts.toList->(s.upd d y m).look q.2=s.look q.2:=fun q hq=>zAk s d y m (zAI h (List.mem_map.2 ⟨q,hq,rfl⟩))
  have hp1:(parts.toList.map fun q=>((s.upd d y m).look q.2).norm.cells)=parts.toList.map fun q=>(s.look q.2).norm.cells:=List.map_congr_left fun q hq=>by rw[hp q hq]
  have hp2:(parts.toList.all fun q=>((s.upd d y m).look q.2).solid)=parts.toList.all fun q=>(s.look q.2).solid:=by
   rw[Bool.eq_iff_iff,List.all_eq_true,List.all_eq_true]
   exact⟨fun h q hq=>by rw[<-hp q hq];exact h q hq,fun h q hq=>by rw[hp q hq];exact h q hq⟩
  unfold zDc
  rw[hp1,hp2]
  split
  ·split
   ·split<;>rfl
   ·rfl
  ·rfl
 case makeSlice t l c=>
  have hx:=zAI h (x:=l) (by simp)
  have hz:=zAI h (x:=c) (by simp)
  unfold resMk
  split
  ·unfold zJ9
   rw[zAk s d y m hx,zAk s d y m hz]
   split
   ·split
    ·split
     ·split<;>rfl
     ·rfl
    ·rfl
   ·rfl
  ·unfold zIQ
   rw[zAk s d y m hx,zAk s d y m hz]
   split
   ·split
    ·split
     ·split
      ·simp only[hb,zLy,Option.map_some,Res.upd]
      ·rfl
     ·rfl
    ·rfl
   ·rfl
 case load t x=>
  have hx:=zAI h (zq9 ..)
  unfold zIJ
  rw[zAk s d y m hx,hb]
  split
  ·split<;>rfl
  ·split<;>rfl
  ·rfl
 case store t x z=>
  have hx:=zAI h (x:=x) (by simp)
  have hz:=zAI h (x:=z) (by simp)
  unfold zF4
  rw[ev_upd s d y m hx,zGv s d y m hz hf,zIr s d y m hz hf,hb]
  split
  ·rename_i b off i hev hi
   have hm:=hm t x z rfl b off hev
   split
   ·simp only[Option.map_some,Res.upd,zLG _ d y m _ _ _ hm]
   ·simp only[Option.map_some,Res.upd,zJ5 d y m _ hm]
  ·rfl
 case nilCheck x=>
  unfold zFC
  rw[zAk s d y m (zAI h (zq9 ..))]
  split<;>rfl
 case binOp op t x z t'=>
  have hx:=zAk s d y m (zAI h (x:=x) (by simp))
  have hz:=zAk s d y m (zAI h (x:=z) (by simp))
  unfold resBn
  rw[hz]
  split
  ·unfold zKC
   rw[hx]
   split
   ·split<;>rfl
   ·split
    ·split<;>rfl
    ·rfl
   ·rfl
  ·unfold zKD
   rw[hx]
   split<;>rfl
  ·unfold resBin
   rw[hx,hz]
   split<;>rfl
 case unOp op t x=>
  unfold resUn
  rw[zAk s d y m (zAI h (zq9 ..))]
  split<;>rfl
 case convert src dst x=>
  unfold zKB
  rw[zAk s d y m (zAI h (zq9 ..))]
  split<;>first|rfl|(split<;>rfl)
 case makeInterface t x=>
  unfold zIS
  rw[zAk s d y m (zAI h (zq9 ..))]
  split<;>rfl
 case makeFunc f first captured=>
  have h1:(first.toList.map (s.upd d y m).look)=first.toList.map s.look:=List.map_congr_left fun x hx=>zAk s d y m (zAI h (List.mem_append_left _ hx))
  have h2:(captured.toList.map (s.upd d y m).look)=captured.toList.map s.look:=List.map_congr_left fun x hx=>zAk s d y m (zAI h (List.mem_append_right _ hx))
  simp only[resFunc,Res.upd,h1,h2]
 case slice t x lo hi mx=>
  cases mx with
  |some z=>
   have hbd: ∀(D:Int)(z:Option Operand),(∀q,z=some q->q≠.tmp d)->zIF (s.upd d y m) D z=zIF s D z:=fun D z hz=>by
    cases z with
    |none=>rfl
    |some q=>simp only[zIF,zAk s d y m (hz q rfl)]
   have h1:=zAI h (zq9 ..)
   have hlo: ∀q,lo=some q->q≠.tmp d:=fun q hq=>zAI h (by subst hq;simp)
   have hhi: ∀q,hi=some q->q≠.tmp d:=fun q hq=>zAI h (by subst hq;simp)
   have hzz: ∀q,some z=some q->q≠.tmp d:=fun q hq=>zAI h (by cases hq;simp)
   simp only
   unfold zG1
   rw[zAk s d y m h1,hbd _ lo hlo,hbd _ hi hhi,hbd _ (some z) hzz]
   split
   ·split
    ·split<;>rfl
    ·rfl
   ·rfl
  |none=>
   have hbd: ∀(D:Int)(z:Option Operand),(∀q,z=some q->q≠.tmp d)->zIF (s.upd d y m) D z=zIF s D z:=fun D z hz=>by
    cases z with
    |none=>rfl
    |some q=>simp only[zIF,zAk s d y m (hz q rfl)]
   have h1:=zAI h (zq9 ..)
   have hlo: ∀q,lo=some q->q≠.tmp d:=fun q hq=>zAI h (by subst hq;simp)
   have hhi: ∀q,hi=some q->q≠.tmp d:=fun q hq=>zAI h (by subst hq;simp)
   simp only
   unfold zG2
   rw[zAk s d y m h1]
   split
   ·split
    ·rw[hbd _ lo hlo,hbd _ hi hhi]
     split<;>rfl
    ·rfl
   ·split
    ·rw[hbd _ lo hlo,hbd _ hi hhi]
     split<;>rfl
    ·rfl
   ·rfl
 case fieldAddr t x f=>
  unfold zEh
  rw[zAk s d y m (zAI h (zq9 ..))]
  split
  ·split
   ·split<;>rfl
   ·rfl
  ·rfl
 case indexAddr t x i=>
  unfold resIx
  rw[zAk s d y m (zAI h (x:=x) (by simp))]
  split
  ·unfold resIxM
   rw[zAk s d y m (zAI h (x:=x) (by simp)),zAk s d y m (zAI h (x:=i) (by simp))]
   split
   ·split<;>rfl
   ·rfl
  ·unfold zEg
   rw[zAk s d y m (zAI h (x:=x) (by simp)),zAk s d y m (zAI h (x:=i) (by simp))]
   split
   ·split<;>rfl
   ·rfl
 case index t x i=>
  have hx:=zAk s d y m (zAI h (x:=x) (by simp))
  have hi:=zAk s d y m (zAI h (x:=i) (by simp))
  unfold resIdx
  split
  ·unfold zG3
   rw[hx,hi]
   split
   ·split<;>rfl
   ·rfl
  ·unfold zIR
   rw[hx,hi]
   split
   ·split<;>rfl
   ·split<;>rfl
   ·rfl
 case field t x f=>
  unfold zIT
  rw[zAk s d y m (zAI h (zq9 ..))]
  split
  ·split
   ·split<;>rfl
   ·rfl
  ·rfl
 case extract x i=>
  unfold zCK
  rw[zAk s d y m (zAI h (zq9 ..))]
  split
  ·split<;>rfl
  ·rfl
 case call c=>
  obtain⟨callee,args,argTypes⟩:=c
  cases callee with
  |value f=>rfl
  |invoke r n=>rfl
  |builtin b=>
   simp only[List.nil_append] at h
   simp only[zD6]
   split
   ·rename_i x hx
    rw[hx] at h
    unfold resLn
    rw[zAk s d y m (zAI h (zq9 ..))]
    split
    ·unfold zKA
     rw[zAk s d y m (zAI h (zq9 ..))]
     split
     ·split<;>rfl
     ·rfl
    ·unfold resLen
     rw[zAk s d y m (zAI h (zq9 ..))]
     split
     ·split
      ·rfl
      ·split<;>rfl
      ·rfl
     ·rfl
   ·rename_i x z hx
    rw[hx] at h
    have h1:=zAI h (x:=x) (by simp)
    have h2:=zAI h (x:=z) (by simp)
    unfold zLk
    rw[zGv s d y m h1 hf]
    split
    ·unfold zKE
     have hcell: ∀D sz v,zGB (s.upd d y m) D sz v=zGB s D sz v:=fun D sz v=>by unfold zGB;rw[hb]
     rw[zAk s d y m h1,zAk s d y m h2]
     split
     ·split
      ·split
       ·rw[hcell]
        split
        ·simp only[hb,zLy,Option.map_some,Res.upd]
        ·rfl
       ·rfl
      ·rfl
     ·rfl
    ·unfold zJa
     rw[zGv s d y m h1 hf,zIr s d y m h1 hf,zAk s d y m h2]
     split
     ·split
      ·split
       ·split<;>rfl
       ·rfl
      ·rfl
     ·rfl
    ·unfold zFt
     rw[zGv s d y m h1 hf,zIr s d y m h1 hf,zAk s d y m h2]
     split
     ·split
      ·split
       ·split<;>rfl
       ·rfl
      ·rfl
     ·rfl
   ·rename_i x z hx
    rw[hx] at h
    have h1:=zAI h (x:=x) (by simp)
    have h2:=zAI h (x:=z) (by simp)
    unfold resMM
    rw[zAk s d y m h1,zAk s d y m h2]
    split
    ·split<;>rfl
    ·rfl
   ·rename_i x z hx
    rw[hx] at h
    have h1:=zAI h (x:=x) (by simp)
    have h2:=zAI h (x:=z) (by simp)
    unfold resMM
    rw[zAk s d y m h1,zAk s d y m h2]
    split
    ·split<;>rfl
    ·rfl
   ·rename_i x z z2 hx
    rw[hx] at h
    have h1:=zAI h (x:=x) (by simp)
    have h2:=zAI h (x:=z) (by simp)
    have h3:=zAI h (x:=z2) (by simp)
    unfold resM3
    rw[zAk s d y m h1,zAk s d y m h2,zAk s d y m h3]
    split
    ·split<;>rfl
    ·rfl
   ·rfl
def isE0:AV->Bool
 |.e0=>true
 |_=>false
def ownIn(B:List Nat)(s:AState):Operand->Bool
 |.tmp t=>match s.owner t with
  |some (.cell b _)=>B.contains b||B.contains 994
  |some (.tmp u)=>u==t
  |none=>true
 |_=>true
def gdA(B:List Nat)(s:AState)(c:Call):Bool:=match c.args.toList with
 |[x,_]=> !isE0 (s.takeV x)&&ownIn B s x
 |_=>true
def isApp:Op->Bool
 |.call c=>match c.callee with
  |.builtin .append=>true
  |_=>false
 |_=>false
def asgOk(B:List Nat)(s:AState):Operand->Bool
 |.tmp t=>match s.owner t with
  |none=>true
  |some (.tmp _)=>B.contains 998
  |_=>false
 |_=>true
def isAsg:Op->Bool
 |.assign _=>true
 |_=>false
def exL(B:List Nat):Op->Bool
 |.load _ (.tmp t)=>B.contains (2000000+t)
 |_=>false
def Gd(B:List Nat)(s:AState):Op->Prop
 |.call c=>B=[]∨isApp (.call c)=false∨gdA B s c=true
 |.store _ x y=>B=[]∨((∃b off,s.ev x=.mptr b off∧b∈B)∧∀t,y=.tmp t->s.owner t=none)
 |.load t x=>B=[]∨(∀b off,s.look x=.mptr b off->b∉B)∨(exL B (.load t x)=true∧∀b off,s.look x=.mptr b off->((s.blocks.getD b []).getD off .top).owns=false)
 |.assign x=>B=[]∨asgOk B s x=true
 |_=>True
theorem gd_upd{d:Nat}{y:AV}{op:Op}(hf:s.free d)(h:d∉zDC op):Gd B (s.upd d y m) op↔Gd B s op:=by
 cases op<;>simp only[Gd,zDC] at h ⊢
 case store t x z=>
  rw[ev_upd s d y m (zAI h (x:=x) (by simp))]
  have hz:=zAI h (x:=z) (by simp)
  constructor
  ·rintro(h1|⟨h1,h2⟩)
   ·exact .inl h1
   ·exact .inr ⟨h1,fun t ht=>by rw[<-zG8 s d y m (fun e=>hz (by rw[ht,e])) hf];exact h2 t ht⟩
  ·rintro(h1|⟨h1,h2⟩)
   ·exact .inl h1
   ·exact .inr ⟨h1,fun t ht=>by rw[zG8 s d y m (fun e=>hz (by rw[ht,e])) hf];exact h2 t ht⟩
 case load t x=>rw[zAk s d y m (zAI h (x:=x) (by simp))];exact Iff.rfl
 case call c=>
  have e:gdA B (s.upd d y m) c=gdA B s c:=by
   unfold gdA
   split
   ·rename_i x z hl
    rw[hl] at h
    have hx:=zAI h (x:=x) (by simp)
    rw[zGv s d y m hx hf]
    cases x with
    |tmp t=>
     have hne:t≠d:=fun e=>hx (by rw[e])
     simp only[ownIn,zG8 s d y m hne hf]
    |_=>rfl
   ·rfl
  rw[e]
 case assign z=>
  have hz:=zAI h (x:=z) (by simp)
  have e:asgOk B (s.upd d y m) z=asgOk B s z:=by
   cases z with
   |tmp t=>
    have hne:t≠d:=fun e=>hz (by rw[e])
    simp only[asgOk,zG8 s d y m hne hf]
   |_=>rfl
  rw[e]
def isPut:Op->Bool
 |.store ..|.assign _=>true
 |_=>false
def zF7:Op->Bool
 |.call c=>match c.callee with
  |.value _=>true
  |_=>false
 |_=>false
def okL(B:List Nat)(op:Op)(m:Option Place):Prop:=notCell m∨(isStore op=false∧(B=[]∨zF7 op=false))∨(B≠[]∧∀b o,m=some (.cell b o)->b∉B)
theorem okL.okM{B:List Nat}{op:Op}{s:AState}{m:Option Place}(hm:okL B op m)(hg:Gd B s op):okM op s m:=fun t x y e b off hev o hmo=>by
 subst e
 rcases hm with h|h|⟨h1,h2⟩
 ·exact h b o hmo
 ·have h:=h.1;simp[isStore] at h
 ·rcases hg with h3|⟨⟨b',off',h4,h5⟩,_⟩
  ·exact h1 h3
  ·rw[hev] at h4;cases h4
   exact h2 b o hmo h5
def FrD(P:Program)(B:List Nat)(o:Oper)(s s':AState):Prop:=
 B≠[]∧∃c x f first captured res bs' ρ,o.op=.call c∧c.callee=.value x∧s.look x=.fn (.func f) first captured∧(∀zs,RawK P f (zAz s first captured c.args) (s.blocks++zs) res (bs'++zs) (fun b=>b∉ρ))∧
  res.owns=false∧(∀b,b∈ρ->b∈B)∧bs'.length=s.blocks.length∧(∀b,b∉ρ->bs'.getD b []=s.blocks.getD b [])∧(B.contains 995=true->bs'=s.blocks)∧s'=s.calledK ρ o.dst res bs'
def ExD(B:List Nat)(o:Oper)(s s':AState):Prop:=
 B.contains 997=true∧∃x r,o.op=.extract x 0∧zIU s x 0=some r∧s'=s.putR o.dst r
theorem resExt_side(h:zIU s x i=some r):r.side:=by
 have h0: ∀j,zCK s x j=some r->r.side:=fun j h=>by
  unfold zCK at h
  split at h
  ·split at h
   ·cases h;trivial
   ·cases h
  ·cases h
 cases i with
 |succ i=>exact h0 _ h
 |zero=>
  simp only[zIU] at h
  split at h
  ·cases h;trivial
  ·exact h0 0 h
theorem resExt_upd{d:Nat}{y:AV}(hf:s.free d)(hx:x≠.tmp d):zIU (s.upd d y m) x 0=(zIU s x 0).map fun r=>r.upd d y m:=by
 have h0:zCK (s.upd d y m) x 0=(zCK s x 0).map (fun r=>r.upd d y m):=by
  unfold zCK
  rw[zAk s d y m hx]
  split
  ·split<;>rfl
  ·rfl
 simp only[zIU]
 have hown:ownT (s.upd d y m) x=ownT s x:=by
  cases x with
  |tmp t=>
   have hne:t≠d:=fun e=>hx (by rw[e])
   simp only[ownT,zG8 s d y m hne hf]
  |_=>rfl
 rw[zGv s d y m hx hf,hown]
 split
 ·simp only[Option.map_some,Res.upd,zIr s d y m hx hf]
 ·exact h0
theorem resExt_blocks(h:zIU s x 0=some r):r.st.blocks=s.blocks∧r.loan=none:=by
 simp only[zIU] at h
 split at h
 ·rename_i ec l cs hx hown
  cases h
  refine⟨?_,rfl⟩
  cases x with
  |tmp t=>
   simp only[ownT] at hown
   simp only[AState.takeS]
   split at hown
   ·rename_i u hu
    rw[hu];rfl
   ·cases hown
  |_=>rfl
 ·unfold zCK at h
  split at h
  ·split at h
   ·cases h;exact⟨rfl,rfl⟩
   ·cases h
  ·cases h
def StepD(P:Program)(B:List Nat)(o:Oper)(s s':AState):Prop:=
 (∃c x f first captured res,o.op=.call c∧c.callee=.value x∧s.look x=.fn (.func f) first captured∧Pure P f (zAz s first captured c.args) res∧
  AV.flatL (zAz s first captured c.args)=true∧res.owns=false∧s'=s.putO o.dst res)∨
 (∃r,zHO P s o.op=some r∧r.side∧Gd B s o.op∧s'=s.putR o.dst r)∨FrD P B o s s'∨ExD B o s s'
def GStep(P:Program)(B:List Nat)(ops:Array Oper)(o:Oper)(s s':AState):Prop:=
 match o.guard with
 |none=>StepD P B o s s'
 |some (j,want)=> ∃g,(ops[j]?).bind (·.dst)=some g∧
  ((∃b,s.get g=.bool b∧((b=want∧StepD P B o s s')∨(b= !want∧s'=s.putO o.dst (.tup []))))∨(s.get g=.tup []∧s'=s.putO o.dst (.tup [])))
def zJU(ops:Array Oper)(o:Oper):List Nat:=
 zDC o.op++match o.guard with
  |some (j,_)=>((ops[j]?).bind (·.dst)).toList
  |none=>[]
theorem zF9(s:AState)(d:Nat)(y:AV)(m:Option Place)(first captured:List AV){args:Array Operand}(h:d∉zFq args.toList):
 zAz (s.upd d y m) first captured args=zAz s first captured args:=by
 unfold zAz;rw[map_look_upd s d y m h]
theorem zEn{c:Call}(hc:c.callee=.value x):zDC (.call c)=zFq (x::c.args.toList):=by
 simp[zDC,hc]
theorem zLN{B ρ:List Nat}{c:Call}(hc:c.callee=.value x)(hm:okL B (.call c) m)(hB:B≠[])(hρ: ∀b,b∈ρ->b∈B):zCZ ρ m=m:=by
 cases m with
 |none=>rfl
 |some p=>
  cases p with
  |tmp t=>rfl
  |cell b o=>
   rcases hm with h|⟨_,h|h⟩|⟨_,h⟩
   ·exact(h b o rfl).elim
   ·exact(hB h).elim
   ·simp[zF7,hc] at h
   ·have: ¬b∈ρ:=fun hb=>h b o rfl (hρ b hb)
    simp[zCZ,this]
theorem zLW{d:Nat}{y:AV}{e:Option Nat}{bs':List (List AV)}(hk:zCZ ρ m=m)(he: ∀k,e=some k->k≠d∧m≠some (.tmp k)):
 (s.upd d y m).calledK ρ e res bs'=(s.calledK ρ e res bs').upd d y m:=by
 unfold AState.calledK
 have h0:({s.upd d y m with blocks:=bs',loans:=fun t=>zCZ ρ ((s.upd d y m).loans t)}:AState)=({s with blocks:=bs',loans:=fun t=>zCZ ρ (s.loans t)}:AState).upd d y m:=by
  simp only[AState.upd]
  congr 1
  funext t
  split
  ·exact hk
  ·rfl
 rw[h0]
 exact zLx _ d y m res he
theorem zLf{d:Nat}{y:AV}(hm:okL B o.op m)(hf:s.free d)(h:d∉zDC o.op)
 (hd: ∀e,o.dst=some e->e≠d∧m≠some (.tmp e)) {s2:AState}:StepD P B o (s.upd d y m) s2↔∃s',StepD P B o s s'∧s2=s'.upd d y m:=by
 have habs:=fun hg:Gd B s o.op=>absOp_upd P s d y m o.op (hm.okM hg) hf h
 have hput: ∀r:Res,(s.upd d y m).putR o.dst (r.upd d y m)=(s.putR o.dst r).upd d y m:=fun r=>by
  cases hdst:o.dst with
  |none=>rfl
  |some e=>exact putL_upd r.st d y m r.val r.loan (hd e hdst).1 (hd e hdst).2
 constructor
 ·rintro(⟨c,x,f,first,captured,res,h1,h2,h3,h4,h5,h6,rfl⟩|⟨r,h1,h2,hgd,rfl⟩|⟨hB,c,x,f,first,captured,res,bs',ρ,h1,h2,h3,h4,h5,h6,h7,h8,h9,rfl⟩|⟨h1,x,r,h2,h3,rfl⟩)
  ·rw[h1,zEn h2] at h
   have hx:=zAI h (zq9 ..)
   have ha:d∉zFq c.args.toList:=fun hmem=>h (by simp only[zFq,List.mem_filterMap] at hmem ⊢;obtain⟨z,hz,he⟩:=hmem;exact⟨z,zqc _ hz,he⟩)
   rw[zAk s d y m hx] at h3
   rw[zF9 s d y m _ _ ha] at h4 h5
   exact⟨s.putO o.dst res,.inl ⟨c,x,f,first,captured,res,h1,h2,h3,h4,h5,h6,rfl⟩,zLx s d y m res (fun k hk=>hd k hk)⟩
  ·have hgd':=(gd_upd hf h).1 hgd
   rw[habs hgd'] at h1
   cases hr:zHO P s o.op with
   |none=>rw[hr] at h1;cases h1
   |some r'=>
    rw[hr] at h1;cases h1
    exact⟨s.putR o.dst r',.inr (.inl ⟨r',hr,h2,hgd',rfl⟩),hput r'⟩
  ·have hk:=zLN h2 (by rw[h1] at hm;exact hm) hB h6
   rw[h1,zEn h2] at h
   have hx:=zAI h (zq9 ..)
   have ha:d∉zFq c.args.toList:=fun hmem=>h (by simp only[zFq,List.mem_filterMap] at hmem ⊢;obtain⟨z,hz,he⟩:=hmem;exact⟨z,zqc _ hz,he⟩)
   rw[zAk s d y m hx] at h3
   rw[zF9 s d y m _ _ ha] at h4
   exact⟨s.calledK ρ o.dst res bs',.inr (.inr (.inl ⟨hB,c,x,f,first,captured,res,bs',ρ,h1,h2,h3,h4,h5,h6,h7,h8,h9,rfl⟩)),zLW hk hd⟩
  ·rw[h2] at h
   rw[resExt_upd hf (zAI h (zq9 ..))] at h3
   cases hr:zIU s x 0 with
   |none=>rw[hr] at h3;cases h3
   |some r'=>
    rw[hr] at h3;cases h3
    exact⟨s.putR o.dst r',.inr (.inr (.inr ⟨h1,x,r',h2,hr,rfl⟩)),hput r'⟩
 ·rintro⟨s',⟨c,x,f,first,captured,res,h1,h2,h3,h4,h5,h6,rfl⟩|⟨r,h1,h2,hgd,rfl⟩|⟨hB,c,x,f,first,captured,res,bs',ρ,h1,h2,h3,h4,h5,h6,h7,h8,h9,rfl⟩|⟨h1,x,r,h2,h3,rfl⟩,rfl⟩
  ·have hh:=h
   rw[h1,zEn h2] at h
   have hx:=zAI h (zq9 ..)
   have ha:d∉zFq c.args.toList:=fun hmem=>h (by simp only[zFq,List.mem_filterMap] at hmem ⊢;obtain⟨z,hz,he⟩:=hmem;exact⟨z,zqc _ hz,he⟩)
   exact .inl ⟨c,x,f,first,captured,res,h1,h2,by rw[zAk s d y m hx];exact h3,by rw[zF9 s d y m _ _ ha];exact h4,by rw[zF9 s d y m _ _ ha];exact h5,h6,
    (zLx s d y m res (fun k hk=>hd k hk)).symm⟩
  ·exact .inr (.inl ⟨r.upd d y m,by rw[habs hgd,h1];rfl,h2,(gd_upd hf h).2 hgd,(hput r).symm⟩)
  ·have hk:=zLN h2 (by rw[h1] at hm;exact hm) hB h6
   rw[h1,zEn h2] at h
   have hx:=zAI h (zq9 ..)
   have ha:d∉zFq c.args.toList:=fun hmem=>h (by simp only[zFq,List.mem_filterMap] at hmem ⊢;obtain⟨z,hz,he⟩:=hmem;exact⟨z,zqc _ hz,he⟩)
   exact .inr (.inr (.inl ⟨hB,c,x,f,first,captured,res,bs',ρ,h1,h2,by rw[zAk s d y m hx];exact h3,by rw[zF9 s d y m _ _ ha];exact h4,h5,h6,h7,h8,h9,(zLW hk hd).symm⟩))
  ·rw[h2] at h
   exact .inr (.inr (.inr ⟨h1,x,r.upd d y m,h2,by rw[resExt_upd hf (zAI h (zq9 ..)),h3];rfl,(hput r).symm⟩))
theorem gstep_upd{d:Nat}{y:AV}(hm:okL B o.op m)(hf:s.free d)(h:d∉zJU ops o)
 (hd: ∀e,o.dst=some e->e≠d∧m≠some (.tmp e)) {s2:AState}:GStep P B ops o (s.upd d y m) s2↔∃s',GStep P B ops o s s'∧s2=s'.upd d y m:=by
 have h1:d∉zDC o.op:=fun hmem=>h (List.mem_append_left _ hmem)
 unfold GStep
 cases hg:o.guard with
 |none=>exact zLf hm hf h1 hd
 |some q=>
  obtain⟨j,want⟩:=q
  simp only
  have hskip:=zLx s d y m (e:=o.dst) (.tup []) (fun k hk=>hd k hk)
  have hget: ∀g,(ops[j]?).bind (·.dst)=some g->(s.upd d y m).get g=s.get g:=fun g hgj=>
   get_upd s d y m (fun e=>h (List.mem_append_right _ (by simp[hg,hgj,e])))
  constructor
  ·rintro⟨g,hgj,hh⟩
   rw[hget g hgj] at hh
   rcases hh with ⟨b,hb,⟨hw,hs⟩|⟨hw,rfl⟩⟩|⟨hb,rfl⟩
   ·obtain⟨s',hs',rfl⟩:=(zLf hm hf h1 hd).1 hs
    exact⟨s',⟨g,hgj,.inl ⟨b,hb,.inl ⟨hw,hs'⟩⟩⟩,rfl⟩
   ·exact⟨_,⟨g,hgj,.inl ⟨b,hb,.inr ⟨hw,rfl⟩⟩⟩,hskip⟩
   ·exact⟨_,⟨g,hgj,.inr ⟨hb,rfl⟩⟩,hskip⟩
  ·rintro⟨s',⟨g,hgj,hh⟩,rfl⟩
   refine⟨g,hgj,?_⟩
   rw[hget g hgj]
   rcases hh with ⟨b,hb,⟨hw,hs⟩|⟨hw,rfl⟩⟩|⟨hb,rfl⟩
   ·exact .inl ⟨b,hb,.inl ⟨hw,(zLf hm hf h1 hd).2 ⟨s',hs,rfl⟩⟩⟩
   ·exact .inl ⟨b,hb,.inr ⟨hw,hskip.symm⟩⟩
   ·exact .inr ⟨hb,hskip.symm⟩
def isA:Op->Bool
 |.pick ..|.build ..|.buildSlice ..|.nilCheck _|.binOp ..|.unOp ..|.convert ..|.makeInterface ..|.makeFunc ..|.slice ..|.fieldAddr ..|.field ..|.indexAddr ..|.index ..|.extract ..=>true
 |.call c=>match c.callee with
  |.value _=>true
  |.builtin b=>(match b with|.len|.min|.max=>true|_=>false)
  |_=>false
 |_=>false
def zDS:Op->Bool
 |.move _=>true
 |_=>false
def zB6:Op->Bool
 |.load ..=>true
 |_=>false
def isX0:Op->Bool
 |.extract _ i=>i==0
 |_=>false
def zJm:Op->Bool
 |.alloc _|.box ..=>true
 |_=>false
theorem zI9{s s2:AState}{op:Op}(hA:isA op=true)(h: ∀x,(∀t,x=.tmp t->t∈zDC op)->s2.look x=s.look x):
 zHO P s2 op=(zHO P s op).map (fun r=>{r with st:=s2})∧∀r,zHO P s op=some r->r.st=s∧r.loan=none∧True:=by
 have hm: ∀{xs:List Operand},(∀t,t∈zFq xs->t∈zDC op)->∀x,x∈xs->s2.look x=s.look x:=fun hsub x hx=>h x fun t e=>hsub t (zFc (by rw[<-e];exact hx))
 cases op<;>simp only[isA,Bool.false_eq_true] at hA<;>simp only[zDC] at hm<;>simp only[zHO]
 case pick c a b=>
  have e:=hm (xs:=[c,a,b]) (fun _ h=>h)
  simp only[zJ8,e c (by simp),e a (by simp),e b (by simp)]
  exact⟨rfl,fun r hr=>by cases hr;exact⟨rfl,rfl,trivial⟩⟩
 case build t parts=>
  have e:=hm (xs:=parts.toList.map (·.2)) (fun _ h=>h)
  have hp:(parts.toList.map fun q=>(q.1,s2.look q.2))=parts.toList.map fun q=>(q.1,s.look q.2):=List.map_congr_left fun q hq=>by rw[e q.2 (List.mem_map.2 ⟨q,hq,rfl⟩)]
  unfold zIV
  rw[hp]
  split
  ·split
   ·split
    ·exact⟨rfl,fun r hr=>by cases hr;exact⟨rfl,rfl,trivial⟩⟩
    ·exact⟨rfl,fun r hr=>by cases hr⟩
   ·exact⟨rfl,fun r hr=>by cases hr⟩
  ·split
   ·split
    ·exact⟨rfl,fun r hr=>by cases hr;exact⟨rfl,rfl,trivial⟩⟩
    ·exact⟨rfl,fun r hr=>by cases hr⟩
   ·exact⟨rfl,fun r hr=>by cases hr⟩
  ·exact⟨rfl,fun r hr=>by cases hr⟩
 case buildSlice t n parts=>
  have e:=hm (xs:=parts.toList.map (·.2)) (fun _ h=>h)
  have hp: ∀q,q∈parts.toList->s2.look q.2=s.look q.2:=fun q hq=>e q.2 (List.mem_map.2 ⟨q,hq,rfl⟩)
  have hp1:(parts.toList.map fun q=>(s2.look q.2).norm.cells)=parts.toList.map fun q=>(s.look q.2).norm.cells:=List.map_congr_left fun q hq=>by rw[hp q hq]
  have hp2:(parts.toList.all fun q=>(s2.look q.2).solid)=parts.toList.all fun q=>(s.look q.2).solid:=by
   rw[Bool.eq_iff_iff,List.all_eq_true,List.all_eq_true]
   exact⟨fun h q hq=>by rw[<-hp q hq];exact h q hq,fun h q hq=>by rw[hp q hq];exact h q hq⟩
  unfold zDc
  rw[hp1,hp2]
  split
  ·split
   ·split
    ·exact⟨rfl,fun r hr=>by cases hr;exact⟨rfl,rfl,trivial⟩⟩
    ·exact⟨rfl,fun r hr=>by cases hr⟩
   ·exact⟨rfl,fun r hr=>by cases hr⟩
  ·exact⟨rfl,fun r hr=>by cases hr⟩
 case nilCheck x=>
  unfold zFC
  rw[hm (xs:=[x]) (fun _ h=>h) x (by simp)]
  split<;>first|exact⟨rfl,fun r hr=>by cases hr;exact⟨rfl,rfl,trivial⟩⟩|exact⟨rfl,fun r hr=>by cases hr⟩
 case binOp op t x z t'=>
  have e:=hm (xs:=[x,z]) (fun _ h=>h)
  have hx:=e x (by simp)
  have hz:=e z (by simp)
  unfold resBn
  rw[hz]
  split
  ·unfold zKC
   rw[hx]
   split
   ·split<;>first|exact⟨rfl,fun r hr=>by cases hr;exact⟨rfl,rfl,trivial⟩⟩|exact⟨rfl,fun r hr=>by cases hr⟩
   ·split
    ·split<;>first|exact⟨rfl,fun r hr=>by cases hr;exact⟨rfl,rfl,trivial⟩⟩|exact⟨rfl,fun r hr=>by cases hr⟩
    ·exact⟨rfl,fun r hr=>by cases hr⟩
   ·exact⟨rfl,fun r hr=>by cases hr⟩
  ·unfold zKD
   rw[hx]
   split<;>first|exact⟨rfl,fun r hr=>by cases hr;exact⟨rfl,rfl,trivial⟩⟩|exact⟨rfl,fun r hr=>by cases hr⟩
  ·unfold resBin
   rw[hx,hz]
   split<;>first|exact⟨rfl,fun r hr=>by cases hr;exact⟨rfl,rfl,trivial⟩⟩|exact⟨rfl,fun r hr=>by cases hr⟩
 case unOp op t x=>
  unfold resUn
  rw[hm (xs:=[x]) (fun _ h=>h) x (by simp)]
  split<;>first|exact⟨rfl,fun r hr=>by cases hr;exact⟨rfl,rfl,trivial⟩⟩|exact⟨rfl,fun r hr=>by cases hr⟩
 case convert src dst x=>
  unfold zKB
  rw[hm (xs:=[x]) (fun _ h=>h) x (by simp)]
  split<;>first|exact⟨rfl,fun r hr=>by cases hr;exact⟨rfl,rfl,trivial⟩⟩|exact⟨rfl,fun r hr=>by cases hr⟩|
   (split<;>first|exact⟨rfl,fun r hr=>by cases hr;exact⟨rfl,rfl,trivial⟩⟩|exact⟨rfl,fun r hr=>by cases hr⟩)
 case makeInterface t x=>
  unfold zIS
  rw[hm (xs:=[x]) (fun _ h=>h) x (by simp)]
  split<;>first|exact⟨rfl,fun r hr=>by cases hr;exact⟨rfl,rfl,trivial⟩⟩|exact⟨rfl,fun r hr=>by cases hr⟩
 case makeFunc f first captured=>
  have e:=hm (xs:=first.toList++captured.toList) (fun _ h=>h)
  have h1:(first.toList.map s2.look)=first.toList.map s.look:=List.map_congr_left fun x hx=>e x (List.mem_append_left _ hx)
  have h2:(captured.toList.map s2.look)=captured.toList.map s.look:=List.map_congr_left fun x hx=>e x (List.mem_append_right _ hx)
  simp only[resFunc,h1,h2]
  exact⟨rfl,fun r hr=>by cases hr;exact⟨rfl,rfl,trivial⟩⟩
 case slice t x lo hi mx=>
  cases mx with
  |some z=>
   have e:=hm (xs:=x::(lo.toList++hi.toList++(some z).toList)) (fun _ h=>h)
   have hbd: ∀(D:Int)(z:Option Operand),(∀q,z=some q->s2.look q=s.look q)->zIF s2 D z=zIF s D z:=fun D z hz=>by
    cases z with
    |none=>rfl
    |some q=>simp only[zIF,hz q rfl]
   simp only
   unfold zG1
   rw[e x (zq9 ..),hbd _ lo (fun q hq=>e q (by subst hq;simp)),hbd _ hi (fun q hq=>e q (by subst hq;simp)),hbd _ (some z) (fun q hq=>e q (by cases hq;simp))]
   split
   ·split
    ·split<;>first|exact⟨rfl,fun r hr=>by cases hr;exact⟨rfl,rfl,trivial⟩⟩|exact⟨rfl,fun r hr=>by cases hr⟩
    ·exact⟨rfl,fun r hr=>by cases hr⟩
   ·exact⟨rfl,fun r hr=>by cases hr⟩
  |none=>
   have e:=hm (xs:=x::(lo.toList++hi.toList++(none:Option Operand).toList)) (fun _ h=>h)
   have hbd: ∀(D:Int)(z:Option Operand),(∀q,z=some q->s2.look q=s.look q)->zIF s2 D z=zIF s D z:=fun D z hz=>by
    cases z with
    |none=>rfl
    |some q=>simp only[zIF,hz q rfl]
   simp only
   unfold zG2
   rw[e x (zq9 ..)]
   split
   ·split
    ·rw[hbd _ lo (fun q hq=>e q (by subst hq;simp)),hbd _ hi (fun q hq=>e q (by subst hq;simp))]
     split<;>first|exact⟨rfl,fun r hr=>by cases hr;exact⟨rfl,rfl,trivial⟩⟩|exact⟨rfl,fun r hr=>by cases hr⟩
    ·exact⟨rfl,fun r hr=>by cases hr⟩
   ·split
    ·rw[hbd _ lo (fun q hq=>e q (by subst hq;simp)),hbd _ hi (fun q hq=>e q (by subst hq;simp))]
     split<;>first|exact⟨rfl,fun r hr=>by cases hr;exact⟨rfl,rfl,trivial⟩⟩|exact⟨rfl,fun r hr=>by cases hr⟩
    ·exact⟨rfl,fun r hr=>by cases hr⟩
   ·exact⟨rfl,fun r hr=>by cases hr⟩
 case fieldAddr t x f=>
  unfold zEh
  rw[hm (xs:=[x]) (fun _ h=>h) x (by simp)]
  split
  ·split
   ·split<;>first|exact⟨rfl,fun r hr=>by cases hr;exact⟨rfl,rfl,trivial⟩⟩|exact⟨rfl,fun r hr=>by cases hr⟩
   ·exact⟨rfl,fun r hr=>by cases hr⟩
  ·exact⟨rfl,fun r hr=>by cases hr⟩
 case indexAddr t x i=>
  have e:=hm (xs:=[x,i]) (fun _ h=>h)
  unfold resIx
  rw[e x (by simp)]
  split
  ·unfold resIxM
   rw[e x (by simp),e i (by simp)]
   split
   ·split<;>first|exact⟨rfl,fun r hr=>by cases hr;exact⟨rfl,rfl,trivial⟩⟩|exact⟨rfl,fun r hr=>by cases hr⟩
   ·exact⟨rfl,fun r hr=>by cases hr⟩
  ·unfold zEg
   rw[e x (by simp),e i (by simp)]
   split
   ·split<;>first|exact⟨rfl,fun r hr=>by cases hr;exact⟨rfl,rfl,trivial⟩⟩|exact⟨rfl,fun r hr=>by cases hr⟩
   ·exact⟨rfl,fun r hr=>by cases hr⟩
 case index t x i=>
  have e:=hm (xs:=[x,i]) (fun _ h=>h)
  have hx:=e x (by simp)
  have hi:=e i (by simp)
  unfold resIdx
  split
  ·unfold zG3
   rw[hx,hi]
   split
   ·split<;>first|exact⟨rfl,fun r hr=>by cases hr;exact⟨rfl,rfl,trivial⟩⟩|exact⟨rfl,fun r hr=>by cases hr⟩
   ·exact⟨rfl,fun r hr=>by cases hr⟩
  ·unfold zIR
   rw[hx,hi]
   split
   ·split<;>first|exact⟨rfl,fun r hr=>by cases hr;exact⟨rfl,rfl,trivial⟩⟩|exact⟨rfl,fun r hr=>by cases hr⟩
   ·split<;>first|exact⟨rfl,fun r hr=>by cases hr;exact⟨rfl,rfl,trivial⟩⟩|exact⟨rfl,fun r hr=>by cases hr⟩
   ·exact⟨rfl,fun r hr=>by cases hr⟩
 case field t x f=>
  unfold zIT
  rw[hm (xs:=[x]) (fun _ h=>h) x (by simp)]
  split
  ·split
   ·split<;>first|exact⟨rfl,fun r hr=>by cases hr;exact⟨rfl,rfl,trivial⟩⟩|exact⟨rfl,fun r hr=>by cases hr⟩
   ·exact⟨rfl,fun r hr=>by cases hr⟩
  ·exact⟨rfl,fun r hr=>by cases hr⟩
 case extract x i=>
  unfold zCK
  rw[hm (xs:=[x]) (fun _ h=>h) x (by simp)]
  split
  ·split<;>first|exact⟨rfl,fun r hr=>by cases hr;exact⟨rfl,rfl,trivial⟩⟩|exact⟨rfl,fun r hr=>by cases hr⟩
  ·exact⟨rfl,fun r hr=>by cases hr⟩
 case call c=>
  obtain⟨callee,args,argTypes⟩:=c
  cases callee with
  |value f=>exact⟨rfl,fun r hr=>by cases hr⟩
  |invoke r n=>exact⟨rfl,fun r hr=>by cases hr⟩
  |builtin b=>
   cases b<;>simp only[Bool.false_eq_true] at hA
   all_goals
    simp only[zD6]
    split
    ·first
     |(rename_i hb _;cases hb;done)
     |(
      rename_i x hb hx
      simp only[hx,List.nil_append] at hm
      unfold resLn
      rw[hm (xs:=[x]) (fun _ h=>h) x (by simp)]
      split
      ·unfold zKA
       rw[hm (xs:=[x]) (fun _ h=>h) x (by simp)]
       split
       ·split<;>first|exact⟨rfl,fun r hr=>by cases hr;exact⟨rfl,rfl,trivial⟩⟩|exact⟨rfl,fun r hr=>by cases hr⟩
       ·exact⟨rfl,fun r hr=>by cases hr⟩
      ·unfold resLen
       rw[hm (xs:=[x]) (fun _ h=>h) x (by simp)]
       split
       ·split
        ·exact⟨rfl,fun r hr=>by cases hr;exact⟨rfl,rfl,trivial⟩⟩
        ·split<;>first|exact⟨rfl,fun r hr=>by cases hr;exact⟨rfl,rfl,trivial⟩⟩|exact⟨rfl,fun r hr=>by cases hr⟩
        ·exact⟨rfl,fun r hr=>by cases hr⟩
       ·exact⟨rfl,fun r hr=>by cases hr⟩)
    ·rename_i hb _;cases hb
    ·first
     |(rename_i hb _;cases hb;done)
     |(
      rename_i x z hb hx
      simp only[hx,List.nil_append] at hm
      unfold resMM
      rw[hm (xs:=[x,z]) (fun _ h=>h) x (by simp),hm (xs:=[x,z]) (fun _ h=>h) z (by simp)]
      split
      ·split<;>first|exact⟨rfl,fun r hr=>by cases hr;exact⟨rfl,rfl,trivial⟩⟩|exact⟨rfl,fun r hr=>by cases hr⟩
      ·exact⟨rfl,fun r hr=>by cases hr⟩)
    ·first
     |(rename_i hb _;cases hb;done)
     |(
      rename_i x z hb hx
      simp only[hx,List.nil_append] at hm
      unfold resMM
      rw[hm (xs:=[x,z]) (fun _ h=>h) x (by simp),hm (xs:=[x,z]) (fun _ h=>h) z (by simp)]
      split
      ·split<;>first|exact⟨rfl,fun r hr=>by cases hr;exact⟨rfl,rfl,trivial⟩⟩|exact⟨rfl,fun r hr=>by cases hr⟩
      ·exact⟨rfl,fun r hr=>by cases hr⟩)
    ·first
     |(rename_i hb _;cases hb;done)
     |(
      rename_i x z z2 hb hx
      simp only[hx,List.nil_append] at hm
      unfold resM3
      rw[hm (xs:=[x,z,z2]) (fun _ h=>h) x (by simp),hm (xs:=[x,z,z2]) (fun _ h=>h) z (by simp),hm (xs:=[x,z,z2]) (fun _ h=>h) z2 (by simp)]
      split
      ·split<;>first|exact⟨rfl,fun r hr=>by cases hr;exact⟨rfl,rfl,trivial⟩⟩|exact⟨rfl,fun r hr=>by cases hr⟩
      ·exact⟨rfl,fun r hr=>by cases hr⟩)
    ·exact⟨rfl,fun r hr=>by cases hr⟩
structure Frame0 (op:Op) (s:AState) (r:Res):Prop where
 n:r.st.n=s.n
 copy: ∀t,(r.st.get t).copy=(s.get t).copy
 loans: ∀t p,r.st.loans t=some p->s.loans t=some p
 loan: ∀u,r.loan=some (.tmp u)->zDS op=true∧u∈zDC op
 calm:(isA op||zDS op||zB6 op||zJm op)=true->(∀t,r.st.get t=s.get t)∧∃bl,r.st.blocks=s.blocks++bl∧(zJm op=false->bl=[])
theorem zHo{op:Op}{c:Prop}{v:AV}{l:Option Place}(hl: ∀u,l=some (.tmp u)->zDS op=true∧u∈zDC op):Frame0 op s ⟨c,v,l,s⟩:=
 ⟨rfl,fun _=>rfl,fun _ _ h=>h,hl,fun _=>⟨fun _=>rfl,[],by simp,fun _=>rfl⟩⟩
theorem copy_copy(x:AV):x.copy.copy=x.copy:=by cases x<;>rfl
theorem zDr(s:AState)(x:Operand):(s.takeS x).n=s.n∧(∀t,((s.takeS x).get t).copy=(s.get t).copy)∧∀t,(s.takeS x).loans t=s.loans t:=by
 cases x with
 |tmp u=>
  simp only[AState.takeS]
  cases s.owner u with
  |none=>exact⟨rfl,fun _=>rfl,fun _=>rfl⟩
  |some p=>
   cases p with
   |tmp w=>
    refine⟨rfl,fun t=>?_,fun _=>rfl⟩
    show(if t=w then (s.tmps w).copy else s.tmps t).copy=(s.tmps t).copy
    split
    ·rename_i e;rw[e,copy_copy]
    ·rfl
   |cell b o=>exact⟨rfl,fun _=>rfl,fun _=>rfl⟩
 |_=>exact⟨rfl,fun _=>rfl,fun _=>rfl⟩
theorem zIx(b:Nat): ∀(xs:List AV)(o:Nat)(s:AState),(s.setCells b o xs).n=s.n∧(∀t,(s.setCells b o xs).get t=s.get t)∧∀t p,(s.setCells b o xs).loans t=some p->s.loans t=some p
 |[],o,s=>⟨rfl,fun _=>rfl,fun _ _ h=>h⟩
 |x::xs,o,s=>by
  obtain⟨h1,h2,h3⟩:=zIx b xs (o+1) (s.setCell b o x)
  refine⟨h1,h2,fun t p hp=>?_⟩
  have:=h3 t p hp
  simp only[AState.setCell] at this
  split at this
  ·cases this
  ·exact this
theorem absOp_frame{op:Op}(h:zHO P s op=some r):Frame0 op s r:=by
 by_cases hA:isA op=true
 ·obtain⟨_,h2⟩:=zI9 (P:=P) (s:=s) (s2:=s) hA (fun _ _=>rfl)
  obtain⟨h3,h4,_⟩:=h2 r h
  obtain⟨c,v,l,st⟩:=r
  simp only at h3 h4
  subst h3;subst h4
  exact zHo (fun u hu=>by cases hu)
 ·cases op<;>simp only[zHO,reduceCtorEq] at h<;>try (exact absurd rfl hA)
  case move x=>
   cases h
   refine zHo fun u hu=>⟨rfl,?_⟩
   cases x with
   |tmp t=>
    simp only[AState.loanOf] at hu
    split at hu
    ·cases hu;simp[zDC,zFq]
    ·cases hu
   |_=>cases hu
  case assign x=>
   cases h
   obtain⟨h1,h2,h3⟩:=zDr s x
   exact⟨h1,h2,fun t p hp=>by rw[<-h3 t];exact hp,fun u hu=>(by cases hu),fun hc=>by simp[isA,zDS,zB6,zJm] at hc⟩
  case alloc t=>
   unfold zG4 at h
   split at h
   ·split at h
    ·cases h
     exact⟨rfl,fun _=>rfl,fun _ _ h=>h,fun u hu=>(by cases hu),fun _=>⟨fun _=>rfl,_,rfl,fun hc=>by simp[zJm] at hc⟩⟩
    ·cases h
   ·cases h
  case box t x=>
   cases h
   exact⟨rfl,fun _=>rfl,fun _ _ h=>h,fun u hu=>(by cases hu),fun _=>⟨fun _=>rfl,_,rfl,fun hc=>by simp[zJm] at hc⟩⟩
  case load t x=>
   unfold zIJ at h
   split at h
   ·split at h
    ·cases h
     refine zHo fun u hu=>?_
     split at hu
     ·split at hu
      ·cases hu
      ·cases hu
     ·cases hu
    ·cases h
   ·split at h
    ·cases h;exact zHo fun u hu=>by cases hu
    ·cases h
   ·cases h
  case makeSlice t l c=>
   unfold resMk at h
   split at h
   ·unfold zJ9 at h
    split at h
    ·split at h
     ·split at h
      ·split at h
       ·cases h;exact zHo fun u hu=>by cases hu
       ·cases h
      ·cases h
     ·cases h
    ·cases h
   ·unfold zIQ at h
    split at h
    ·split at h
     ·split at h
      ·split at h
       ·cases h
        exact⟨rfl,fun _=>rfl,fun _ _ h=>h,fun u hu=>(by cases hu),fun hc=>by simp[isA,zDS,zB6,zJm] at hc⟩
       ·cases h
      ·cases h
     ·cases h
    ·cases h
  case store t x z=>
   unfold zF4 at h
   obtain⟨h1,h2,h3⟩:=zDr s z
   split at h
   ·split at h
    ·cases h
     refine⟨h1,h2,fun t p hp=>?_,fun u hu=>(by cases hu),fun hc=>by simp[isA,zDS,zB6,zJm] at hc⟩
     simp only[AState.setCell] at hp
     split at hp
     ·cases hp
     ·rw[<-h3 t];exact hp
    ·cases h
     obtain⟨g1,g2,g3⟩:=zIx _ (List.map AV.copy (s.takeV z).cells) _ (s.takeS z)
     exact⟨g1.trans h1,fun t=>by rw[g2 t];exact h2 t,fun t p hp=>by rw[<-h3 t];exact g3 t p hp,fun u hu=>(by cases hu),fun hc=>by simp[isA,zDS,zB6,zJm] at hc⟩
   ·cases h
  case call c=>
   obtain⟨callee,args,argTypes⟩:=c
   cases callee with
   |value f=>cases h
   |invoke r n=>cases h
   |builtin b=>
    simp only[zD6] at h
    split at h
    ·exact absurd rfl hA
    ·unfold zLk at h
     split at h
     ·unfold zKE at h
      split at h
      ·split at h
       ·split at h
        ·split at h
         ·cases h
          exact⟨rfl,fun _=>rfl,fun _ _ h=>h,fun u hu=>(by cases hu),fun hc=>by simp[isA,zDS,zB6,zJm] at hc⟩
         ·cases h
        ·cases h
       ·cases h
      ·cases h
     ·unfold zJa at h
      split at h
      ·split at h
       ·split at h
        ·split at h
         ·cases h
          exact⟨(zDr s _).1,(zDr s _).2.1,fun t p hp=>by rw[<-(zDr s _).2.2 t];exact hp,fun u hu=>(by cases hu),fun hc=>by simp[isA,zDS,zB6,zJm] at hc⟩
         ·cases h
        ·cases h
       ·cases h
      ·cases h
     ·unfold zFt at h
      split at h
      ·split at h
       ·split at h
        ·split at h
         ·cases h
          exact⟨(zDr s _).1,(zDr s _).2.1,fun t p hp=>by rw[<-(zDr s _).2.2 t];exact hp,fun u hu=>(by cases hu),fun hc=>by simp[isA,zDS,zB6,zJm] at hc⟩
         ·cases h
        ·cases h
       ·cases h
      ·cases h
    ·exact absurd rfl hA
    ·exact absurd rfl hA
    ·exact absurd rfl hA
    ·cases h
theorem zFH(s:AState)(d t:Nat)(x:AV)(h:t≠d):(s.put d x).get t=s.get t:=by
 unfold AState.put;split
 ·simp only[AState.get,if_neg h]
 ·rfl
theorem zH7(s:AState)(d t:Nat)(x:AV)(l:Option Place)(h:t≠d):(s.putL d x l).get t=s.get t:=by
 unfold AState.putL
 cases l with
 |none=>exact zFH s d t x h
 |some p=>
  simp only
  split
  ·exact zFH s d t x h
  ·exact zFH s d t x h
theorem n_putL'(s:AState)(d:Nat)(x:AV)(l:Option Place):(s.putL d x l).n=s.n:=by
 unfold AState.putL
 cases l with
 |none=>exact put_n s d x
 |some p=>
  simp only
  split
  ·exact put_n s d x
  ·exact put_n s d x
theorem zDj(s:AState)(d:Nat)(x:AV)(l:Option Place):(s.putL d x l).blocks=s.blocks:=by
 unfold AState.putL
 cases l with
 |none=>exact zBi s d x
 |some p=>
  simp only
  split
  ·exact zBi s d x
  ·exact zBi s d x
theorem zGj{d t:Nat}{x:AV}{p:Place}(h:(s.put d x).loans t=some p):s.loans t=some p:=by
 unfold AState.put at h;split at h
 ·simp only at h
  split at h
  ·cases h
  ·split at h
   ·cases h
   ·exact h
 ·exact h
theorem zLM{d t:Nat}{x:AV}{l:Option Place}{p:Place}(h:(s.putL d x l).loans t=some p):s.loans t=some p∨l=some p:=by
 unfold AState.putL at h
 cases l with
 |none=>exact .inl (zGj h)
 |some q=>
  simp only at h
  split at h
  ·exact .inl (zGj h)
  ·simp only at h
   split at h
   ·exact .inr h
   ·exact .inl (zGj h)
def isAB(B:List Nat)(op:Op):Bool:=(isA op&&(B.isEmpty|| !zF7 op))&& !(B.contains 997&&isX0 op)
theorem isAB_A{op:Op}(h:isAB B op=true):isA op=true:=by
 simp only[isAB,zq7] at h;exact h.1.1
theorem isAB_x0(h:B.contains 997=true):isAB B (.extract x 0)=false:=by
 simp[isAB,isX0]
 intro _ _;simpa using h
theorem zJv{s s':AState}(h:ExD B o s s'):s'.n=s.n∧(∀t,o.dst≠some t->(s'.get t).copy=(s.get t).copy)∧
 (∀t u,s'.loans t=some (.tmp u)->s.loans t=some (.tmp u))∧s'.blocks=s.blocks∧B.contains 997=true∧∃x,o.op=.extract x 0:=by
 obtain⟨h1,x,r,h2,h3,rfl⟩:=h
 obtain⟨h4,h5⟩:=resExt_blocks h3
 have hst:r.st.n=s.n∧(∀t,(r.st.get t).copy=(s.get t).copy)∧∀t,r.st.loans t=s.loans t:=by
  simp only[zIU] at h3
  split at h3
  ·cases h3
   exact zDr s x
  ·unfold zCK at h3
   split at h3
   ·split at h3
    ·cases h3;exact⟨rfl,fun _=>rfl,fun _=>rfl⟩
    ·cases h3
   ·cases h3
 obtain⟨g1,g2,g3⟩:=hst
 cases hd:o.dst with
 |none=>exact⟨g1,fun t _=>g2 t,fun t u hu=>by rw[<-g3 t];exact hu,h4,h1,x,h2⟩
 |some d=>
  simp only[AState.putR]
  refine⟨by rw[n_putL'];exact g1,fun t ht=>by rw[zH7 _ _ _ _ _ (fun e=>ht (by rw[e]))];exact g2 t,fun t u hu=>?_,by rw[zDj];exact h4,h1,x,h2⟩
  rcases zLM hu with hu|hu
  ·rw[<-g3 t];exact hu
  ·rw[h5] at hu;cases hu
theorem isAB_call{c:Call}(hc:c.callee=.value x)(hB:B≠[]):isAB B (.call c)=false:=by
 have:B.isEmpty=false:=by cases B with
  |nil=>exact(hB rfl).elim
  |cons b l=>rfl
 simp[isAB,zF7,hc,this]
def isPutB(op:Op):Bool:=isPut op||zF7 op
theorem zMI{s s':AState}(h:FrD P B o s s'):s'.n=s.n∧(∀t,o.dst≠some t->s'.get t=s.get t)∧
 (∀t u,s'.loans t=some (.tmp u)->s.loans t=some (.tmp u))∧s'.blocks.length=s.blocks.length∧(∀b,b∉B->s'.blocks.getD b []=s.blocks.getD b [])∧B≠[]∧∃c x,o.op=.call c∧c.callee=.value x:=by
 obtain⟨hB,c,x,f,first,captured,res,bs',ρ,h1,h2,h3,h4,h5,h6,h7,h8,_,rfl⟩:=h
 have hbl:(s.calledK ρ o.dst res bs').blocks=bs':=by
  unfold AState.calledK
  cases o.dst with
  |none=>rfl
  |some d=>exact zBi _ _ _
 refine⟨?_,fun t ht=>?_,fun t u hu=>?_,by rw[hbl];exact h7,fun b hb=>by rw[hbl];exact h8 b (fun hr=>hb (h6 b hr)),hB,c,x,h1,h2⟩
 ·unfold AState.calledK
  cases o.dst with
  |none=>rfl
  |some d=>exact put_n _ _ _
 ·unfold AState.calledK
  cases hd:o.dst with
  |none=>rfl
  |some d=>exact zFH _ d t _ (fun e=>ht (by rw[hd,e]))
 ·have h9:zCZ ρ (s.loans t)=some (.tmp u):=by
   unfold AState.calledK at hu
   cases hd:o.dst with
   |none=>rw[hd] at hu;exact hu
   |some d=>rw[hd] at hu;exact zGj (s:={s with blocks:=bs',loans:=fun t=>zCZ ρ (s.loans t)}) hu
  cases hl:s.loans t with
  |none=>rw[hl] at h9;cases h9
  |some q=>
   rw[hl] at h9
   cases q with
   |tmp v=>exact h9
   |cell b o'=>
    simp only[zCZ] at h9
    split at h9<;>cases h9
theorem stepD_frame{s s':AState}(h:StepD P B o s s'):s'.n=s.n∧(∀t,o.dst≠some t->(s'.get t).copy=(s.get t).copy)∧
 (∀t u,s'.loans t=some (.tmp u)->s.loans t=some (.tmp u)∨(zDS o.op=true∧u∈zDC o.op))∧
 ((isAB B o.op||zDS o.op||zB6 o.op||zJm o.op)=true->(∀t,o.dst≠some t->s'.get t=s.get t)∧∃bl,s'.blocks=s.blocks++bl∧(zJm o.op=false->bl=[])):=by
 rcases h with ⟨c,x,f,first,captured,res,h1,h2,h3,h4,h5,h6,rfl⟩|⟨r,h1,h2,hgd,rfl⟩|hfr|hex
 ·have hg: ∀t,o.dst≠some t->(s.putO o.dst res).get t=s.get t:=fun t ht=>by
   cases hd:o.dst with
   |none=>rfl
   |some d=>exact zFH s d t res (fun e=>ht (by rw[hd,e]))
  refine⟨?_,fun t ht=>by rw[hg t ht],fun t u hu=>.inl ?_,fun _=>⟨hg,[],?_,fun _=>rfl⟩⟩
  ·cases hd:o.dst with
   |none=>rfl
   |some d=>exact put_n s d res
  ·cases hd:o.dst with
   |none=>rw[hd] at hu;exact hu
   |some d=>rw[hd] at hu;exact zGj hu
  ·cases hd:o.dst with
   |none=>simp[AState.putO]
   |some d=>simp[AState.putO,zBi]
 ·have hf:=absOp_frame h1
  have hAA:(isAB B o.op||zDS o.op||zB6 o.op||zJm o.op)=true->(isA o.op||zDS o.op||zB6 o.op||zJm o.op)=true:=fun h=>by
   cases hb:isAB B o.op with
   |true=>rw[isAB_A hb];rfl
   |false=>rw[hb] at h;cases hx:isA o.op with
    |true=>rfl
    |false=>exact h
  cases hd:o.dst with
  |none=>
   simp only[AState.putR]
   exact⟨hf.n,fun t _=>hf.copy t,fun t u hu=>.inl (hf.loans t _ hu),fun hc=>⟨fun t _=>(hf.calm (hAA hc)).1 t,(hf.calm (hAA hc)).2⟩⟩
  |some d=>
   simp only[AState.putR]
   refine⟨by rw[n_putL'];exact hf.n,fun t ht=>by rw[zH7 _ _ _ _ _ (fun e=>ht (by rw[e]))];exact hf.copy t,fun t u hu=>?_,fun hc=>⟨fun t ht=>by rw[zH7 _ _ _ _ _ (fun e=>ht (by rw[e]))];exact(hf.calm (hAA hc)).1 t,?_⟩⟩
   ·rcases zLM hu with hu|hu
    ·exact .inl (hf.loans t _ hu)
    ·exact .inr (hf.loan u hu)
   ·rw[zDj];exact(hf.calm (hAA hc)).2
 ·obtain⟨f1,f2,f3,f4,f5,hB,c,x,hop,hcal⟩:=zMI hfr
  refine⟨f1,fun t ht=>by rw[f2 t ht],fun t u hu=>.inl (f3 t u hu),fun hc=>?_⟩
  rw[hop,isAB_call hcal hB] at hc
  simp[zDS,zB6,zJm] at hc
 ·obtain⟨f1,f2,f3,f4,hB,x,hop⟩:=zJv hex
  refine⟨f1,f2,fun t u hu=>.inl (f3 t u hu),fun hc=>?_⟩
  rw[hop,isAB_x0 hB] at hc
  simp[zDS,zB6,zJm] at hc
theorem zGm{s s':AState}(h:GStep P B ops o s s'):StepD P B o s s'∨s'=s.putO o.dst (.tup []):=by
 unfold GStep at h
 split at h
 ·exact .inl h
 ·obtain⟨g,_,⟨b,_,⟨_,h⟩|⟨_,h⟩⟩|⟨_,h⟩⟩:=h
  ·exact .inl h
  ·exact .inr h
  ·exact .inr h
theorem zGl{s s':AState}(h:GStep P B ops o s s'):s'.n=s.n∧(∀t,o.dst≠some t->(s'.get t).copy=(s.get t).copy)∧
 (∀t u,s'.loans t=some (.tmp u)->s.loans t=some (.tmp u)∨(zDS o.op=true∧u∈zDC o.op))∧
 ((isAB B o.op||zDS o.op||zB6 o.op||zJm o.op)=true->(∀t,o.dst≠some t->s'.get t=s.get t)∧∃bl,s'.blocks=s.blocks++bl∧(zJm o.op=false->bl=[])):=by
 rcases zGm h with h|rfl
 ·exact stepD_frame h
 ·have hg: ∀t,o.dst≠some t->(s.putO o.dst (.tup [])).get t=s.get t:=fun t ht=>by
   cases hd:o.dst with
   |none=>rfl
   |some d=>exact zFH s d t _ (fun e=>ht (by rw[hd,e]))
  refine⟨?_,fun t ht=>by rw[hg t ht],fun t u hu=>.inl ?_,fun _=>⟨hg,[],?_,fun _=>rfl⟩⟩
  ·cases hd:o.dst with
   |none=>rfl
   |some d=>exact put_n s d _
  ·cases hd:o.dst with
   |none=>rw[hd] at hu;exact hu
   |some d=>rw[hd] at hu;exact zGj hu
  ·cases hd:o.dst with
   |none=>simp[AState.putO]
   |some d=>simp[AState.putO,zBi]
def zMS(B:List Nat)(ops:Array Oper)(o:Oper)(s s2:AState):Prop:=
 (∀t,t∈zJU ops o->(s2.get t).copy=(s.get t).copy)∧(isAB B o.op=false->zB6 o.op=false->∀t,t∈zJU ops o->s2.get t=s.get t)∧
 (zB6 o.op=true->∀t b off,t∈zDC o.op->s.get t=.mptr b off->b<s.blocks.length->(B=[]∨exL B o.op=true∨b∉B)->s2.blocks.getD b []=s.blocks.getD b []∧b<s2.blocks.length)
theorem zIZ{s s2:AState}{uses:List Nat}(h: ∀t,t∈uses->(s2.get t).copy=(s.get t).copy)(hx: ∀t,x=.tmp t->t∈uses):s2.look x=s.look x:=by
 cases x with
 |tmp t=>exact h t (hx t rfl)
 |_=>rfl
theorem gd_A{op:Op}(h:isA op=true):Gd B s op:=by
 cases op<;>first|trivial|(simp[isA] at h;done)|skip
 rename_i c
 refine .inr (.inl ?_)
 obtain⟨callee,args,argTypes⟩:=c
 cases callee with
 |builtin b=>cases b<;>first|rfl|simp[isA] at h
 |_=>rfl
theorem zIw(b:Nat): ∀(xs:List AV)(o:Nat)(s:AState),(∀t,(s.setCells b o xs).get t=s.get t)∧(s.setCells b o xs).blocks.length=s.blocks.length∧∀b',b'≠b->(s.setCells b o xs).blocks.getD b' []=s.blocks.getD b' []
 |[],o,s=>⟨fun _=>rfl,rfl,fun _ _=>rfl⟩
 |x::xs,o,s=>by
  obtain⟨h1,h2,h3⟩:=zIw b xs (o+1) (s.setCell b o x)
  simp only[AState.setCells]
  refine⟨fun t=>by rw[h1];rfl,by rw[h2];simp[AState.setCell],fun b' hb=>?_⟩
  rw[h3 b' hb]
  simp only[AState.setCell,zq5,List.getElem?_set_ne (Ne.symm hb)]
theorem stepD_store{s s':AState}(hB:B≠[])(ho:isPutB o.op=true)(h:StepD P B o s s'):
 (isAsg o.op=false∨B.contains 998=false->∀t,o.dst≠some t->s'.get t=s.get t)∧s'.blocks.length=s.blocks.length∧∀b,b∉B->s'.blocks.getD b []=s.blocks.getD b []:=by
 rcases h with ⟨c,x,f,first,captured,res,h1,_,_,_,_,_,rfl⟩|⟨r,h1,h2,hgd,rfl⟩|hfr|hex
 ·cases hd:o.dst with
  |none=>exact⟨fun _ _ _=>rfl,rfl,fun _ _=>rfl⟩
  |some d=>exact⟨fun _ t ht=>zFH s d t _ (fun e=>ht (by rw[e])),by simp[AState.putO,zBi],fun b _=>by simp[AState.putO,zBi]⟩
 ·have ho:isPut o.op=true:=by
   simp only[isPutB,Bool.or_eq_true] at ho
   rcases ho with ho|ho
   ·exact ho
   ·exfalso
    cases hop:o.op<;>rw[hop] at ho<;>simp only[zF7,Bool.false_eq_true] at ho
    rename_i c
    rw[hop] at h1
    simp only[zHO] at h1
    split at h1
    ·rename_i hb;rw[hb] at ho;cases ho
    ·cases h1
  cases hop:o.op<;>rw[hop] at ho<;>simp only[isPut,Bool.false_eq_true] at ho
  case assign x=>
   rw[hop] at h1 hgd
   rcases hgd with hgd|hown
   ·exact absurd hgd hB
   have hS:s.takeS x=s∨(B.contains 998=true∧∃u,s.takeS x=s.degrade (.tmp u)):=by
    cases x with
    |tmp t=>
     simp only[asgOk] at hown
     simp only[AState.takeS]
     split at hown
     ·rename_i h9;rw[h9];exact .inl rfl
     ·rename_i u h9;rw[h9];exact .inr ⟨hown,u,rfl⟩
     ·cases hown
    |_=>exact .inl rfl
   simp only[zHO,zI1,Option.some.injEq] at h1
   subst h1
   rcases hS with hS|⟨h98,u,hS⟩
   ·rw[hS]
    cases hd:o.dst with
    |none=>exact⟨fun _ _ _=>rfl,rfl,fun _ _=>rfl⟩
    |some d=>exact⟨fun _ t ht=>zH7 s d t _ _ (fun e=>ht (by rw[e])),by simp[AState.putR,zDj],fun b _=>by simp[AState.putR,zDj]⟩
   ·rw[hS]
    have hno: ∀Z:Prop,(isAsg (.assign x)=false∨B.contains 998=false)->Z:=fun Z h=>by
     rcases h with h|h
     ·cases h
     ·rw[h98] at h;cases h
    cases hd:o.dst with
    |none=>exact⟨fun h=>hno _ h,rfl,fun _ _=>rfl⟩
    |some d=>exact⟨fun h=>hno _ h,by simp[AState.putR,zDj,AState.degrade],fun b _=>by simp[AState.putR,zDj,AState.degrade]⟩
  case store t x y=>
   rw[hop] at h1 hgd
   rcases hgd with hgd|⟨⟨b,off,hev,hbB⟩,hown⟩
   ·exact absurd hgd hB
   have hS:s.takeS y=s:=by
    cases y with
    |tmp t=>simp only[AState.takeS,hown t rfl]
    |_=>rfl
   have hV:(s.takeV y).owns=false:=by
    cases y with
    |tmp t=>simp only[AState.takeV,hown t rfl];exact zEb _
    |const v=>exact zIX v
    |_=>rfl
   have hV:(s.takeV y).owns1=false:=by cases hz:s.takeV y<;>rw[hz] at hV<;>first|rfl|simp at hV
   simp only[zHO,zF4,hev] at h1
   split at h1
   ·rename_i i b' off' he hi
    cases he
    rw[hV] at h1
    simp only[Bool.false_eq_true,if_false,Option.some.injEq] at h1
    subst h1
    obtain⟨q1,q2,q3⟩:=zIw b ((s.takeV y).cells.map AV.copy) off s
    have hput: ∀(st:AState)(d:Option Nat),(∀t,d≠some t->(AState.putR st d ⟨True,.top,none,st⟩).get t=st.get t)∧(AState.putR st d ⟨True,.top,none,st⟩).blocks=st.blocks:=fun st d=>by
     cases d with
     |none=>exact⟨fun _ _=>rfl,rfl⟩
     |some d=>exact⟨fun t ht=>zH7 st d t _ _ (fun e=>ht (by rw[e])),zDj st d _ _⟩
    have hst: ∀sd:Prop,s.putR o.dst ⟨sd,.top,none,(s.takeS y).setCells b off ((s.takeV y).cells.map AV.copy)⟩=(s.setCells b off ((s.takeV y).cells.map AV.copy)).putR o.dst ⟨True,.top,none,s.setCells b off ((s.takeV y).cells.map AV.copy)⟩:=fun sd=>by
     rw[hS];cases o.dst<;>rfl
    rw[hst]
    obtain⟨p1,p2⟩:=hput (s.setCells b off ((s.takeV y).cells.map AV.copy)) o.dst
    refine⟨fun _ t ht=>by rw[p1 t ht,q1],by rw[p2,q2],fun b' hb'=>by rw[p2];exact q3 b' (fun e=>hb' (by rw[e];exact hbB))⟩
   ·cases h1
 ·obtain⟨f1,f2,f3,f4,f5,_⟩:=zMI hfr
  exact⟨fun _=>f2,f4,f5⟩
 ·obtain⟨_,x,r,h2,_⟩:=hex
  rw[h2] at ho;cases ho
theorem stepD_app{s s':AState}(hB:B≠[])(ho:isApp o.op=true)(h:StepD P B o s s'):
 s'.blocks.length=s.blocks.length∧(B.contains 994=false->∀b,b∉B->s'.blocks.getD b []=s.blocks.getD b [])∧∀t,o.dst≠some t->t∉zDC o.op->s'.get t=s.get t:=by
 have hcal: ∀c x,o.op=.call c->c.callee=.value x->False:=fun c x h1 h2=>by
  rw[h1] at ho;simp[isApp,h2] at ho
 rcases h with ⟨c,x,f,first,captured,res,h1,h2,_,_,_,_,rfl⟩|⟨r,h1,h2,hgd,rfl⟩|⟨_,c,x,f,first,captured,res,bs',ρ,h1,h2,_⟩|⟨_,x,r,h2,_⟩
 ·exact(hcal c x h1 h2).elim
 ·cases hop:o.op<;>rw[hop] at ho<;>simp only[isApp,Bool.false_eq_true] at ho
  rename_i c
  obtain⟨callee,args,argTypes⟩:=c
  cases callee with
  |builtin b=>
   cases b<;>simp only[Bool.false_eq_true] at ho
   rw[hop] at h1 hgd
   simp only[zHO,zD6] at h1
   split at h1
   ·rename_i hb _;cases hb
   ·rename_i x y hb hargs
    rcases hgd with hgd|hgd|hgd
    ·exact absurd hgd hB
    ·simp[isApp] at hgd
    ·have hargs':args.toList=[x,y]:=hargs
     simp only[gdA,hargs',zq7,Bool.not_eq_true'] at hgd
     obtain⟨g1,g2⟩:=hgd
     have hst:r.st=s.takeS x∧r.loan=none:=by
      unfold zLk at h1
      split at h1
      ·rename_i he;rw[he] at g1;cases g1
      ·unfold zJa at h1
       split at h1
       ·split at h1
        ·split at h1
         ·split at h1
          ·cases h1;exact⟨rfl,rfl⟩
          ·cases h1
         ·cases h1
        ·cases h1
       ·cases h1
      ·unfold zFt at h1
       split at h1
       ·split at h1
        ·split at h1
         ·split at h1
          ·cases h1;exact⟨rfl,rfl⟩
          ·cases h1
         ·cases h1
        ·cases h1
       ·cases h1
     have hblk: ∀d:Option Nat,(s.putR d r).blocks=(s.takeS x).blocks:=fun d=>by
      cases d with
      |none=>simp only[AState.putR,hst.1]
      |some d=>simp only[AState.putR,zDj,hst.1]
     have hget: ∀t,o.dst≠some t->(s.putR o.dst r).get t=(s.takeS x).get t:=fun t ht=>by
      cases hd:o.dst with
      |none=>simp only[AState.putR,hst.1]
      |some d=>simp only[AState.putR];rw[zH7 _ _ _ _ _ (fun e=>ht (by rw[hd,e])),hst.1]
     have hu:zDC (Op.call {callee:=Callee.builtin Builtin.append,args:=args,argTypes:=argTypes})=zFq [x,y]:=by simp only[zDC,hargs',List.nil_append]
     rw[hblk,hu]
     cases x with
     |tmp t=>
      simp only[AState.takeS]
      simp only[ownIn] at g2
      cases how:s.owner t with
      |none=>exact⟨rfl,fun _ _ _=>rfl,fun t' ht _=>by rw[hget t' ht];simp only[AState.takeS,how]⟩
      |some p=>
       cases p with
       |tmp u=>
        rw[how] at g2
        simp only[beq_iff_eq] at g2
        subst g2
        refine⟨rfl,fun _ _ _=>rfl,fun t' ht hu'=>?_⟩
        rw[hget t' ht]
        simp only[AState.takeS,how]
        have hne:t'≠u:=fun e=>hu' (by rw[e];exact zFc (zq9 ..))
        show(if t'=u then _ else s.tmps t')=s.tmps t'
        rw[if_neg hne]
       |cell b o'=>
        rw[how] at g2
        simp only at g2
        refine⟨by simp[AState.degrade],fun h994 b' hb'=>?_,fun t' ht _=>by rw[hget t' ht];simp only[AState.takeS,how];rfl⟩
        rw[h994,Bool.or_false] at g2
        have hne:b≠b':=fun e=>hb' (by rw[<-e];simpa using g2)
        simp only[AState.degrade,zq5,List.getElem?_set_ne hne]
     |_=>exact⟨rfl,fun _ _ _=>rfl,fun t' ht _=>by rw[hget t' ht];rfl⟩
   all_goals (first|cases h1|(rename_i hb _;cases hb))
  |_=>simp at ho
 ·exact(hcal c x h1 h2).elim
 ·rw[h2] at ho;cases ho
theorem gstep_app{s s':AState}(hB:B≠[])(ho:isApp o.op=true)(h:GStep P B ops o s s'):
 s'.blocks.length=s.blocks.length∧(B.contains 994=false->∀b,b∉B->s'.blocks.getD b []=s.blocks.getD b [])∧∀t,o.dst≠some t->t∉zDC o.op->s'.get t=s.get t:=by
 rcases zGm h with h|rfl
 ·exact stepD_app hB ho h
 ·cases hd:o.dst with
  |none=>exact⟨rfl,fun _ _ _=>rfl,fun _ _ _=>rfl⟩
  |some d=>exact⟨by simp[AState.putO,zBi],fun _ b _=>by simp[AState.putO,zBi],fun t ht _=>zFH s d t _ (fun e=>ht (by rw[e]))⟩
theorem zLQ{s s':AState}(hB:B≠[])(ho:isPutB o.op=true)(h:GStep P B ops o s s'):
 (isAsg o.op=false∨B.contains 998=false->∀t,o.dst≠some t->s'.get t=s.get t)∧s'.blocks.length=s.blocks.length∧∀b,b∉B->s'.blocks.getD b []=s.blocks.getD b []:=by
 rcases zGm h with h|rfl
 ·exact stepD_store hB ho h
 ·cases hd:o.dst with
  |none=>exact⟨fun _ _ _=>rfl,rfl,fun _ _=>rfl⟩
  |some d=>exact⟨fun _ t ht=>zFH s d t _ (fun e=>ht (by rw[e])),by simp[AState.putO,zBi],fun b _=>by simp[AState.putO,zBi]⟩
theorem frD_same{s s':AState}(h:FrD P B o s s')(h9:B.contains 995=true):s'.blocks=s.blocks:=by
 obtain⟨hB,c,x,f,first,captured,res,bs',ρ,h1,h2,h3,h4,h5,h6,h7,h8,h10,rfl⟩:=h
 have:=h10 h9
 unfold AState.calledK
 cases o.dst with
 |none=>exact this
 |some d=>exact(zBi _ _ _).trans this
theorem gstep_call995{s s':AState}(h9:B.contains 995=true)(ho:zF7 o.op=true)(h:GStep P B ops o s s'):s'.blocks=s.blocks:=by
 rcases zGm h with h|rfl
 ·rcases h with ⟨c,x,f,first,captured,res,h1,_,_,_,_,_,rfl⟩|⟨r,h1,h2,hgd,rfl⟩|hfr|hex
  ·cases hd:o.dst with
   |none=>rfl
   |some d=>simp[AState.putO,zBi]
  ·exfalso
   cases hop:o.op<;>rw[hop] at ho h1<;>simp only[zF7,Bool.false_eq_true] at ho
   rename_i c
   obtain⟨callee,args,ts⟩:=c
   cases callee with
   |value x=>cases h1
   |builtin b=>simp at ho
   |invoke x m=>simp at ho
  ·exact frD_same hfr h9
  ·exact(zJv hex).2.2.2.1
 ·cases hd:o.dst with
  |none=>rfl
  |some d=>simp[AState.putO,zBi]
theorem gstep_x0{s s':AState}(ho:isX0 o.op=true)(h:GStep P B ops o s s'):s'.blocks=s.blocks:=by
 rcases zGm h with h|rfl
 ·rcases h with ⟨c,x,f,first,captured,res,h1,_,_,_,_,_,rfl⟩|⟨r,h1,h2,hgd,rfl⟩|hfr|hex
  ·rw[h1] at ho;cases ho
  ·have hA:isA o.op=true:=by cases hop:o.op<;>rw[hop] at ho<;>first|rfl|cases ho
   obtain⟨_,e2⟩:=zI9 (P:=P) (s:=s) (s2:=s) hA (fun _ _=>rfl)
   cases hd:o.dst with
   |none=>simp only[AState.putR];rw[(e2 r h1).1]
   |some d=>simp only[AState.putR,zDj];rw[(e2 r h1).1]
  ·obtain⟨_,c,x,f,first,captured,res,bs',ρ,h1,h2,_⟩:=hfr
   rw[h1] at ho;cases ho
  ·exact(zJv hex).2.2.2.1
 ·cases hd:o.dst with
  |none=>rfl
  |some d=>simp[AState.putO,zBi]
theorem zJ2{d:Nat}(hd:o.dst=some d)(hc:(isAB B o.op||zDS o.op||zB6 o.op)=true){s s':AState}(h:StepD P B o s s'):
 ∃v l,(∀u,l=some (.tmp u)->u∈zDC o.op)∧(zB6 o.op=false->notCell l)∧(∀b o,l=some (.cell b o)->B=[]∨b∉B)∧s'=s.putL d v l∧∀s2,zMS B ops o s s2->StepD P B o s2 (s2.putL d v l):=by
 rcases h with ⟨c,x,f,first,captured,res,h1,h2,h3,h4,h5,h6,rfl⟩|⟨r,h1,h2,hgd,rfl⟩|hfr|hex
 ·refine⟨res,none,fun u hu=>(by cases hu),fun _ b o hb=>(by cases hb),fun b o hb=>(by cases hb),by rw[hd];rfl,fun s2 hv=>?_⟩
  have hu: ∀z,(∀t,z=.tmp t->t∈zDC o.op)->s2.look z=s.look z:=fun z hz=>zIZ (fun t ht=>hv.1 t (List.mem_append_left _ ht)) hz
  have hmem: ∀z,z∈x::c.args.toList->∀t,z=.tmp t->t∈zDC o.op:=fun z hz t e=>by rw[h1,zEn h2];exact zFc (by rw[<-e];exact hz)
  have ha:zAz s2 first captured c.args=zAz s first captured c.args:=by
   unfold zAz
   congr 2
   exact List.map_congr_left fun z hz=>by rw[hu z (hmem z (zqc _ hz))]
  exact .inl ⟨c,x,f,first,captured,res,h1,h2,by rw[hu x (hmem x (zq9 ..))];exact h3,by rw[ha];exact h4,by rw[ha];exact h5,h6,by rw[hd];rfl⟩
 ·by_cases hA:isAB B o.op=true
  ·obtain⟨_,e2⟩:=zI9 (P:=P) (s:=s) (s2:=s) (isAB_A hA) (fun _ _=>rfl)
   obtain⟨e3,e4,_⟩:=e2 r h1
   obtain⟨c,v,l,st⟩:=r
   simp only at e3 e4
   subst e3;subst e4
   refine⟨v,none,fun u hu=>(by cases hu),fun _ b o hb=>(by cases hb),fun b o hb=>(by cases hb),by rw[hd];rfl,fun s2 hv=>?_⟩
   obtain⟨e1,_⟩:=zI9 (P:=P) (s:=st) (s2:=s2) (isAB_A hA) (fun x hx=>zIZ (fun t ht=>hv.1 t (List.mem_append_left _ ht)) hx)
   rw[h1] at e1
   exact .inr (.inl ⟨_,e1,h2,gd_A (isAB_A hA),by rw[hd];rfl⟩)
  ·have hA':isAB B o.op=false:=by simpa using hA
   have hML:zDS o.op=true∨zB6 o.op=true:=by simpa[hA'] using hc
   cases ho:o.op<;>rw[ho] at hML<;>simp only[zDS,zB6,Bool.false_eq_true,or_self,or_false,false_or] at hML
   case move x=>
    rw[ho] at h1
    cases h1
    refine⟨s.look x,s.loanOf x,fun u hu=>?_,fun _ b off hb=>?_,fun b off hb=>?_,by rw[hd];rfl,fun s2 hv=>?_⟩
    ·cases x with
     |tmp t=>
      simp only[AState.loanOf] at hu
      split at hu
      ·cases hu;simp[zDC,zFq]
      ·cases hu
     |_=>cases hu
    ·cases x with
     |tmp t=>
      simp only[AState.loanOf] at hb
      split at hb<;>cases hb
     |_=>cases hb
    ·cases x with
     |tmp t=>
      simp only[AState.loanOf] at hb
      split at hb<;>cases hb
     |_=>cases hb
    ·have e:s2.look x=s.look x∧s2.loanOf x=s.loanOf x:=by
      cases x with
      |tmp t=>
       have:=hv.2.1 hA' (by rw[ho];rfl) t (List.mem_append_left _ (by rw[ho];simp[zDC,zFq]))
       simp only[AState.look,AState.ev,AState.loanOf,this,and_self]
      |_=>exact⟨rfl,rfl⟩
     exact .inr (.inl ⟨zLI s2 x,by rw[ho];rfl,trivial,by rw[ho];trivial,by rw[hd];simp only[AState.putR,zLI,e.1,e.2]⟩)
   case load t x=>
    rw[ho] at h1 hgd
    simp only[zHO] at h1
    have hxu: ∀t',x=.tmp t'->t'∈zDC o.op:=fun t' e=>by rw[ho];exact zFc (by rw[e];exact zq9 ..)
    have hlook: ∀s2,zMS B ops o s s2->s2.look x=s.look x:=fun s2 hv=>zIZ (fun t ht=>hv.1 t (List.mem_append_left _ ht)) hxu
    unfold zIJ at h1
    split at h1
    ·rename_i b off hx
     split at h1
     ·rename_i side v hl
      cases h1
      refine⟨v,_,fun u hu=>?_,fun hh=>(by simp[zB6] at hh),fun b' o' hb'=>?_,by rw[hd];rfl,fun s2 hv=>?_⟩
      ·split at hu
       ·split at hu<;>cases hu
       ·cases hu
      ·split at hb'
       ·split at hb'
        ·rename_i how _
         cases hb'
         rcases hgd with h|h|⟨_,h⟩
         ·exact .inl h
         ·exact .inr (h _ _ hx)
         ·rw[h _ _ hx] at how;cases how
        ·cases hb'
       ·cases hb'
      ·have hlk:=hlook s2 hv
       have hb:s2.blocks.getD b []=s.blocks.getD b []∧b<s2.blocks.length:=by
        cases x with
        |tmp t'=>
         refine hv.2.2 (by rw[ho];rfl) t' b off (hxu t' rfl) ?_ h2.1 (hgd.imp id fun h=>h.symm.imp (fun h=>by rw[ho];exact h.1) fun h=>h _ _ hx)
         have hx':(s.get t').copy=.mptr b off:=hx
         cases hg:s.get t'<;>rw[hg] at hx'<;>simp at hx'
         rw[hx'.1,hx'.2]
        |const w=>
         have hx':(AV.ofConst w).copy=.mptr b off:=hx
         exfalso
         unfold AV.ofConst AV.ofConst1 at hx'
         split at hx'
         ·cases hx'
         ·split at hx'<;>first|cases hx'|(split at hx'<;>cases hx')
        |global g=>cases hx
        |func f=>cases hx
       refine .inr (.inl ⟨⟨b<s2.blocks.length∧side,v,if ((s.blocks.getD b []).getD off .top).owns then (if zKa P t=some false then some (.cell b off) else none) else none,s2⟩,?_,⟨hb.2,h2.2⟩,by rw[ho];show B=[]∨_;rw[hlk];exact hgd.imp id fun h=>h.imp id fun h=>⟨h.1,fun b' off' hx'=>by rw[hx] at hx';cases hx';rw[hb.1];exact h.2 _ _ hx⟩,by rw[hd];rfl⟩)
       rw[ho]
       simp only[zHO,zIJ,hlk,hx,hb.1,hl]
     ·cases h1
    ·rename_i cells hx
     split at h1
     ·rename_i side v hl
      cases h1
      refine⟨v,none,fun u hu=>(by cases hu),fun _ b o hb=>(by cases hb),fun b o hb=>(by cases hb),by rw[hd];rfl,fun s2 hv=>?_⟩
      exact .inr (.inl ⟨⟨side,v,none,s2⟩,by rw[ho];simp only[zHO,zIJ,hlook s2 hv,hx,hl],h2,by rw[ho];show B=[]∨_;rw[hlook s2 hv];exact hgd.imp id fun h=>h.imp id fun h=>⟨h.1,fun b' off' hx'=>by rw[hx] at hx';cases hx'⟩,by rw[hd];rfl⟩)
     ·cases h1
    ·cases h1
 ·obtain⟨_,_,_,_,_,hB,c,x,hop,hcal⟩:=zMI hfr
  rw[hop,isAB_call hcal hB] at hc
  simp[zDS,zB6] at hc
 ·obtain⟨_,_,_,_,hB,x,hop⟩:=zJv hex
  rw[hop,isAB_x0 hB] at hc
  simp[zDS,zB6] at hc
theorem zLR{x y:AV}(h:x.copy=y.copy){b:Bool}(hy:y=.bool b):x=.bool b:=by
 subst hy;cases x<;>simp at h;rw[h]
theorem get_of_copy_m{x y:AV}{b o:Nat}(h:x.copy=y.copy)(hy:x=.mptr b o):y=.mptr b o:=by
 subst hy;cases y<;>simp at h;rw[h.1,h.2]
theorem get_of_copy'{x y:AV}(h:x.copy=y.copy)(hy:y=.tup []):x=.tup []:=by
 subst hy;cases x<;>simp at h;rw[h]
theorem zKg{d:Nat}(hd:o.dst=some d)(hc:(isAB B o.op||zDS o.op||zB6 o.op)=true){s s':AState}(h:GStep P B ops o s s'):
 ∃v l,(∀u,l=some (.tmp u)->u∈zDC o.op)∧(zB6 o.op=false->notCell l)∧(∀b o,l=some (.cell b o)->B=[]∨b∉B)∧s'=s.putL d v l∧∀s2,zMS B ops o s s2->GStep P B ops o s2 (s2.putL d v l):=by
 unfold GStep at h
 cases hg:o.guard with
 |none=>
  rw[hg] at h
  obtain⟨v,l,h1,h2,h2',h3,h4⟩:=zJ2 (ops:=ops) hd hc h
  exact⟨v,l,h1,h2,h2',h3,fun s2 hv=>by unfold GStep;rw[hg];exact h4 s2 hv⟩
 |some q=>
  obtain⟨j,want⟩:=q
  rw[hg] at h
  obtain⟨g,hgj,hh⟩:=h
  have hgu:g∈zJU ops o:=List.mem_append_right _ (by simp[hg,hgj])
  rcases hh with ⟨b,hb,⟨hw,hs⟩|⟨hw,rfl⟩⟩|⟨hb,rfl⟩
  ·obtain⟨v,l,h1,h2,h2',h3,h4⟩:=zJ2 (ops:=ops) hd hc hs
   exact⟨v,l,h1,h2,h2',h3,fun s2 hv=>by unfold GStep;rw[hg];exact⟨g,hgj,.inl ⟨b,zLR (hv.1 g hgu) hb,.inl ⟨hw,h4 s2 hv⟩⟩⟩⟩
  ·exact⟨.tup [],none,fun u hu=>(by cases hu),fun _ b o hb=>(by cases hb),fun b o hb=>(by cases hb),by rw[hd];rfl,fun s2 hv=>by
    unfold GStep;rw[hg];exact⟨g,hgj,.inl ⟨b,zLR (hv.1 g hgu) hb,.inr ⟨hw,by rw[hd];rfl⟩⟩⟩⟩
  ·exact⟨.tup [],none,fun u hu=>(by cases hu),fun _ b o hb=>(by cases hb),fun b o hb=>(by cases hb),by rw[hd];rfl,fun s2 hv=>by
    unfold GStep;rw[hg];exact⟨g,hgj,.inr ⟨get_of_copy' (hv.1 g hgu) hb,by rw[hd];rfl⟩⟩⟩
def okPair(B:List Nat)(ops:Array Oper)(a x:Oper):Bool:=
 match a.dst with
 |none=>false
 |some d=> !(zJU ops a).contains d&& !(zJU ops x).contains d&&
  (match x.dst with|none=>true|some e=>e !=d&& !(zJU ops a).contains e)&&
  (isAB B a.op||((zDS a.op||zB6 a.op)&&(isAB B x.op||zDS x.op||zB6 x.op||zJm x.op||(isX0 x.op&&zB6 a.op)||(!B.isEmpty&&(!exL B a.op||(B.contains 995&&zF7 x.op))&&((isPutB x.op&&(zB6 a.op|| !isAsg x.op|| !B.contains 998))||(isApp x.op&&(zDS a.op|| !B.contains 994)&&(zJU ops a).all fun t=> !(zDC x.op).contains t))))))
theorem zFz{a x:Oper}(h:okPair B ops a x=true): ∃d,a.dst=some d∧d∉zJU ops a∧d∉zJU ops x∧
 (∀e,x.dst=some e->e≠d∧e∉zJU ops a)∧(isAB B a.op=true∨(isAB B a.op=false∧(zDS a.op||zB6 a.op)=true∧((isAB B x.op||zDS x.op||zB6 x.op||zJm x.op)=true∨(isX0 x.op=true∧zB6 a.op=true)∨(B≠[]∧(exL B a.op=false∨(B.contains 995=true∧zF7 x.op=true))∧((isPutB x.op=true∧(zB6 a.op=true∨isAsg x.op=false∨B.contains 998=false))∨(isApp x.op=true∧(zDS a.op=true∨B.contains 994=false)∧∀t,t∈zJU ops a->t∉zDC x.op)))))):=by
 unfold okPair at h
 cases hd:a.dst with
 |none=>rw[hd] at h;cases h
 |some d=>
  rw[hd] at h
  simp only[zq7,Bool.not_eq_true',List.contains_eq_mem,decide_eq_false_iff_not] at h
  obtain⟨⟨⟨h0,h1⟩,h3⟩,h4⟩:=h
  refine⟨d,rfl,h0,h1,fun e he=>?_,?_⟩
  ·rw[he] at h3
   simpa using h3
  ·cases hA:isAB B a.op with
   |true=>exact .inl rfl
   |false=>
    rw[hA] at h4;simp only[Bool.false_or,zq7] at h4
    refine .inr ⟨rfl,h4.1,?_⟩
    cases hx:(isAB B x.op||zDS x.op||zB6 x.op||zJm x.op) with
    |true=>exact .inl rfl
    |false=>
     have h5:=h4.2
     rw[hx] at h5
     cases hx0:(isX0 x.op&&zB6 a.op) with
     |true=>rw[zq7] at hx0;exact .inr (.inl hx0)
     |false=>
     rw[hx0] at h5
     simp only[Bool.false_or,zq7,Bool.or_eq_true,Bool.not_eq_true',List.isEmpty_eq_false_iff,List.all_eq_true,List.contains_eq_mem,decide_eq_false_iff_not] at h5
     refine .inr (.inr ⟨h5.1.1,h5.1.2.imp id (fun q=>⟨by rw[List.contains_eq_mem];exact q.1,q.2⟩),?_⟩)
     rcases h5.2 with ⟨h6,h7⟩|h6
     ·refine .inl ⟨h6,?_⟩
      rcases h7 with (h7|h7)|h7
      ·exact .inl h7
      ·exact .inr (.inl h7)
      ·exact .inr (.inr (by rw[List.contains_eq_mem];exact decide_eq_false h7))
     ·refine .inr ⟨h6.1.1,?_,h6.2⟩
      rcases h6.1.2 with h7|h7
      ·exact .inl h7
      ·exact .inr (by rw[List.contains_eq_mem];exact decide_eq_false h7)
theorem zEG{l bl:List α}{b:Nat}{z:α}(h:b<l.length):(l++bl).getD b z=l.getD b z:=by
 rw[zq5,List.getElem?_append_left h,<-zq5]
theorem swap{a x:Oper}(hok:okPair B ops a x=true)(hfree: ∀d,a.dst=some d->s.free d)(hn: ∀d,a.dst=some d->d<s.n):
 (∀s1 s2,GStep P B ops a s s1->GStep P B ops x s1 s2->∃s',GStep P B ops x s s'∧GStep P B ops a s' s2)∧
 (∀s1 s2,GStep P B ops x s s1->GStep P B ops a s1 s2->(zB6 a.op=true->∀t,t∈zDC a.op->(s.get t).under s.blocks.length=true)->∃s',GStep P B ops a s s'∧GStep P B ops x s' s2):=by
 obtain⟨d,hd,h0,h1,h3,h4⟩:=zFz hok
 have hdn:=hn d hd
 have hfree:=hfree d hd
 have hc:(isAB B a.op||zDS a.op||zB6 a.op)=true:=by
  rcases h4 with h4|⟨_,h4,_⟩
  ·simp[h4]
  ·rw[Bool.or_assoc,h4];simp
 have hstore:zB6 a.op=true->isStore x.op=false∨B≠[]:=fun hl=>by
  rcases h4 with h4|⟨_,_,h4|h4|h4⟩
  ·exfalso;cases ho:a.op<;>rw[ho] at hl h4<;>simp[zB6,isAB,isA] at hl h4
  ·left;cases ho:x.op<;>rw[ho] at h4<;>simp[isAB,isA,zDS,zB6,zJm,isStore] at h4 ⊢
  ·left;have h4:=h4.1;cases ho:x.op<;>rw[ho] at h4<;>simp[isX0,isStore] at h4 ⊢
  ·exact .inr h4.1
 have hokl: ∀l:Option Place,(zB6 a.op=false->notCell l)->(∀b o,l=some (.cell b o)->B=[]∨b∉B)->okL B x.op l:=fun l y2 y3=>by
  cases hl:zB6 a.op with
  |false=>exact .inl (y2 hl)
  |true=>
   rcases hstore hl with h5|h5
   ·by_cases hB:B=[]
    ·exact .inr (.inl ⟨h5,.inl hB⟩)
    ·exact .inr (.inr ⟨hB,fun b o hb=>(y3 b o hb).resolve_left hB⟩)
   ·exact .inr (.inr ⟨h5,fun b o hb=>(y3 b o hb).resolve_left h5⟩)
 have hmv: ∀l:Option Place,(∀u,l=some (.tmp u)->u∈zDC a.op)->l≠some (.tmp d)∧∀e,x.dst=some e->e≠d∧l≠some (.tmp e):=fun l hl=>
  ⟨fun e=>h0 (List.mem_append_left _ (hl d e)),fun e he=>⟨(h3 e he).1,fun e2=>(h3 e he).2 (List.mem_append_left _ (hl e e2))⟩⟩
 have hxd:x.dst≠some d:=fun e=>(h3 d e).1 rfl
 have hfr: ∀s s',GStep P B ops x s s'->s'.n=s.n∧(∀t,t∈zJU ops a->(s'.get t).copy=(s.get t).copy)∧(s.free d->s'.free d)∧
  (isAB B a.op=false->(zB6 a.op=false->∀t,t∈zJU ops a->s'.get t=s.get t)∧s.blocks.length<=s'.blocks.length∧(zB6 a.op=true->zJm x.op=false->s'.blocks.length=s.blocks.length)∧(zB6 a.op=true->∀b,b<s.blocks.length->(B=[]∨exL B a.op=true∨b∉B)->s'.blocks.getD b []=s.blocks.getD b [])):=fun s s' hx=>by
  obtain⟨f1,f2,f3,f4⟩:=zGl hx
  refine⟨f1,fun t ht=>f2 t (fun e=>(h3 t e).2 ht),fun hS t hl=>?_,fun hA=>?_⟩
  ·rcases f3 t d hl with h5|⟨_,h5⟩
   ·exact hS t h5
   ·exact h1 (List.mem_append_left _ h5)
  ·rcases h4 with h4|⟨_,_,h4|h4|⟨hB,hex,h4|⟨h4,h994,hdis⟩⟩⟩
   ·rw[hA] at h4;cases h4
   ·obtain⟨g1,bl,g2,g3⟩:=f4 h4
    refine⟨fun _ t ht=>g1 t (fun e=>(h3 t e).2 ht),by rw[g2,List.length_append];omega,fun _ hn=>by rw[g2,g3 hn];simp,fun _ b hb _=>by rw[g2];exact zEG hb⟩
   ·have g:=gstep_x0 h4.1 hx
    exact⟨fun hl=>absurd h4.2 (by rw[hl];simp),by rw[g];exact Nat.le_refl _,fun _ _=>by rw[g],fun _ b _ _=>by rw[g]⟩
   ·obtain⟨g1,g2,g3⟩:=zLQ hB h4.1 hx
    rcases hex with hex|⟨h9,hcv⟩
    ·exact⟨fun hl t ht=>g1 (h4.2.resolve_left (by rw[hl];simp)) t (fun e=>(h3 t e).2 ht),by omega,fun _ _=>g2,fun _ b _ hb=>g3 b ((hb.resolve_left hB).resolve_left (by rw[hex];simp))⟩
    ·have hbl:=gstep_call995 h9 hcv hx
     exact⟨fun hl t ht=>g1 (h4.2.resolve_left (by rw[hl];simp)) t (fun e=>(h3 t e).2 ht),by omega,fun _ _=>g2,fun _ b _ _=>by rw[hbl]⟩
   ·have hex:exL B a.op=false:=by
     rcases hex with hex|⟨_,hcv⟩
     ·exact hex
     ·exfalso
      cases hop:x.op<;>rw[hop] at h4 hcv<;>simp only[isApp,zF7,Bool.false_eq_true] at h4 hcv
      rename_i c
      obtain⟨callee,args,ts⟩:=c
      cases callee<;>simp at h4 hcv
    obtain⟨g2,g3,g1⟩:=gstep_app hB h4 hx
    exact⟨fun _ t ht=>g1 t (fun e=>(h3 t e).2 ht) (hdis t ht),by omega,fun _ _=>g2,fun hl b _ hb=>g3 (h994.resolve_left (fun hm=>by cases ho:a.op<;>rw[ho] at hl hm<;>simp[zB6,zDS] at hl hm)) b ((hb.resolve_left hB).resolve_left (by rw[hex];simp))⟩
 constructor
 ·intro s1 s2 ha hx
  obtain⟨v,l,y1,y2,y3,rfl,y4⟩:=zKg (ops:=ops) hd hc ha
  obtain⟨m1,m2⟩:=hmv l y1
  rw[zH0 s d hdn hfree m1] at hx
  obtain⟨s',hx',rfl⟩:=(gstep_upd (hokl l y2 y3) hfree h1 m2).1 hx
  obtain⟨f1,f2,f3,f4⟩:=hfr s s' hx'
  refine⟨s',hx',?_⟩
  have:=y4 s' ⟨f2,fun hA=>(f4 hA).1,fun hl t b off ht hg hb hB=>?_⟩
  ·rw[zH0 s' d (by rw[f1];exact hdn) (f3 hfree) m1] at this;exact this
  ·have hA:isAB B a.op=false:=by cases ho:a.op<;>rw[ho] at hl<;>simp[zB6] at hl;rfl
   obtain⟨_,g2,_,g4⟩:=f4 hA
   exact⟨g4 hl b hb hB,by omega⟩
 ·intro s1 s2 hx ha hun
  obtain⟨v,l,y1,y2,y3,rfl,y4⟩:=zKg (ops:=ops) hd hc ha
  obtain⟨m1,m2⟩:=hmv l y1
  obtain⟨f1,f2,f3,f4⟩:=hfr s s1 hx
  have hview:zMS B ops a s1 s:=⟨fun t ht=>(f2 t ht).symm,fun hA hnl t ht=>((f4 hA).1 hnl t ht).symm,fun hl t b off ht hg hb hB=>by
   have hA:isAB B a.op=false:=by cases ho:a.op<;>rw[ho] at hl<;>simp[zB6] at hl;rfl
   obtain⟨g1,g2,g3,g4⟩:=f4 hA
   have hu:=hun hl t ht
   rw[get_of_copy_m (f2 t (List.mem_append_left _ ht)) hg] at hu
   have hb':b<s.blocks.length:=by simpa[AV.under] using hu
   exact⟨(g4 hl b hb' hB).symm,hb'⟩⟩
  have h5:=y4 s hview
  rw[zH0 s d hdn hfree m1] at h5
  refine⟨_,h5,?_⟩
  rw[zH0 s1 d (by rw[f1];exact hdn) (f3 hfree) m1]
  exact(gstep_upd (hokl l y2 y3) hfree h1 m2).2 ⟨s1,hx,rfl⟩
theorem zGc(m:Nat)(x:AV):x.copy.under m=x.under m:=by cases x<;>rfl
mutual
theorem zJx{m m':Nat}(h:m<=m'): ∀x:AV,x.under m=true->x.under m'=true
 |.mptr b o,hx=>by simp only[AV.under,decide_eq_true_eq] at hx ⊢;omega
 |.baddr t b,hx=>by simp only[AV.under,decide_eq_true_eq] at hx ⊢;omega
 |.msl b _ _,hx=>by simp only[AV.under,decide_eq_true_eq] at hx ⊢;omega
 |.e0,_=>rfl
 |.omp _ _,_=>rfl
 |.mpx,_=>rfl
 |.fn f fs cs,hx=>by simp only[AV.under,zq7] at hx ⊢;exact⟨zFy h fs hx.1,zFy h cs hx.2⟩
 |.iface t v,hx=>by simp only[AV.under] at hx ⊢;exact zJx h v hx
 |.agg cs,hx=>by simp only[AV.under] at hx ⊢;exact zFy h cs hx
 |.tup cs,hx=>by simp only[AV.under] at hx ⊢;exact zFy h cs hx
 |.otup _ _ cs,hx=>by simp only[AV.under] at hx ⊢;exact zFy h cs hx
 |.int _ _,_=>rfl
 |.bool _,_=>rfl
 |.str _,_=>rfl
 |.nilp,_=>rfl
 |.cptr _,_=>rfl
 |.nsl,_=>rfl
 |.osl _ _,_=>rfl
 |.osq _ _,_=>rfl
 |.sl _,_=>rfl
 |.nilfn,_=>rfl
 |.nilif,_=>rfl
 |.top,_=>rfl
theorem zFy{m m':Nat}(h:m<=m'): ∀l:List AV,AV.underL m l=true->AV.underL m' l=true
 |[],_=>rfl
 |x::l,hx=>by simp only[AV.underL,zq7] at hx ⊢;exact⟨zJx h x hx.1,zFy h l hx.2⟩
end
def Chain(P:Program)(B:List Nat)(ops:Array Oper):List Nat->AState->AState->Prop
 |[],s,s'=>s'=s
 |i::l,s,s'=> ∃o s1,ops[i]? =some o∧GStep P B ops o s s1∧Chain P B ops l s1 s'
def okCA(B:List Nat)(ops:Array Oper)(a x:Oper):Bool:=
 x.guard.isNone&& !B.isEmpty&&(zF7 a.op&&(match x.op with
  |.alloc _=>true
  |_=>false)&&(match x.dst with
  |none=>false
  |some e=> !(zJU ops a).contains e&& !(zJU ops x).contains e&&match a.dst with
   |none=>true
   |some d=>d !=e&& !(zJU ops x).contains d))
theorem okCA_spec{a x:Oper}(h:okCA B ops a x=true):x.guard=none∧B≠[]∧zF7 a.op=true∧(∃t,x.op=.alloc t)∧∃e,x.dst=some e∧e∉zJU ops a∧e∉zJU ops x∧∀d,a.dst=some d->d≠e∧d∉zJU ops x:=by
 simp only[okCA,zq7,Bool.not_eq_true',List.isEmpty_eq_false_iff] at h
 obtain⟨⟨h0,h1⟩,⟨h2,h3⟩,h4⟩:=h
 refine⟨Option.isNone_iff_eq_none.1 h0,h1,h2,?_,?_⟩
 ·split at h3
  ·exact⟨_,by assumption⟩
  ·cases h3
 ·cases hd:x.dst with
  |none=>rw[hd] at h4;cases h4
  |some e=>
   rw[hd] at h4
   simp only[zq7,Bool.not_eq_true',List.contains_eq_mem,decide_eq_false_iff_not] at h4
   refine⟨e,rfl,h4.1.1,h4.1.2,fun d ha=>?_⟩
   have h5:=h4.2
   rw[ha] at h5
   simpa using h5
theorem okCA_load{a x:Oper}(h:okCA B ops a x=true):zB6 x.op=false:=by
 obtain⟨_,_,_,⟨t,ht⟩,_⟩:=okCA_spec h
 rw[ht];rfl
theorem put_comm(s:AState){d e:Nat}(x y:AV)(h:d≠e):(s.put d x).put e y=(s.put e y).put d x:=by
 unfold AState.put
 by_cases hd:d<s.n
 ·by_cases he:e<s.n
  ·simp only[hd,he,if_true,AState.mk.injEq,true_and,and_true]
   constructor
   ·funext t
    by_cases h1:t=e
    ·subst h1;rw[if_pos rfl,if_neg (Ne.symm h),if_pos rfl]
    ·rw[if_neg h1]
     by_cases h2:t=d
     ·rw[if_pos h2,if_pos h2]
     ·rw[if_neg h2,if_neg h2,if_neg h1]
   ·funext t
    by_cases h1:t=e
    ·subst h1
     simp[Ne.symm h]
    ·by_cases h2:t=d
     ·subst h2;simp[h1]
     ·simp only[if_neg h1,if_neg h2]
      cases hl:s.loans t with
      |none=>simp
      |some q=>
       by_cases q1:q=.tmp d
       ·subst q1;simp
       ·by_cases q2:q=.tmp e
        ·subst q2;simp
        ·simp[q1,q2]
  ·simp[hd,he]
 ·by_cases he:e<s.n
  ·simp[hd,he]
  ·simp[hd,he]
theorem alloc_step{s s':AState}{e:Nat}(ho:o.op=.alloc t)(hd:o.dst=some e):
 StepD P B o s s'↔∃cells:List AV,(∃i z,P.info? t=some i∧i.zero=some z∧cells=(AV.ofConst z).cells)∧(cells.all AV.plain)=true∧s'=(s.push (markB P t s.blocks.length cells)).put e (.mptr s.blocks.length 0):=by
 constructor
 ·rintro(⟨c,x,f,first,captured,res,h1,_⟩|⟨r,h1,h2,_,rfl⟩|⟨_,c,x,f,first,captured,res,bs',ρ,h1,_⟩|⟨_,x,r,h1,_⟩)
  ·rw[ho] at h1;cases h1
  ·rw[ho] at h1
   simp only[zHO,zG4] at h1
   split at h1
   ·rename_i i hi
    split at h1
    ·rename_i z hz
     cases h1
     exact⟨_,⟨i,z,hi,hz,rfl⟩,h2,by rw[hd];rfl⟩
    ·cases h1
   ·cases h1
  ·rw[ho] at h1;cases h1
  ·rw[ho] at h1;cases h1
 ·rintro⟨cells,⟨i,z,hi,hz,rfl⟩,h2,rfl⟩
  exact .inr (.inl ⟨resNew P t s (AV.ofConst z).cells,by rw[ho];simp only[zHO,zG4,hi,hz],h2,by rw[ho];trivial,by rw[hd];rfl⟩)
theorem zHe(s:AState)(d:Option Nat)(r:AV)(blk:List AV)(e:Nat)(v:AV)(h: ∀k,d=some k->k≠e):((s.putO d r).push blk).put e v=((s.push blk).put e v).putO d r:=by
 have hp: ∀k,(s.put k r).push blk=(s.push blk).put k r:=fun k=>by
  unfold AState.put AState.push
  by_cases hk:k<s.n
  ·simp[hk]
  ·simp[hk]
 cases d with
 |none=>rfl
 |some k=>
  show((s.put k r).push blk).put e v=((s.push blk).put e v).put k r
  rw[hp,put_comm _ _ _ (h k rfl)]
theorem zKm(s:AState)(ρ:List Nat)(d:Option Nat)(r:AV)(bs':List (List AV))(blk:List AV)(e:Nat)(v:AV)(h: ∀k,d=some k->k≠e):
 ((s.calledK ρ d r bs').push blk).put e v=((s.push blk).put e v).calledK ρ d r (bs'++[blk]):=by
 unfold AState.calledK
 rw[zHe _ d r blk e v h]
 congr 1
 unfold AState.put AState.push
 by_cases he:e<s.n
 ·simp only[he,if_true,AState.mk.injEq,true_and,and_true]
  funext t
  by_cases h1:t=e
  ·simp[h1,zCZ]
  ·simp only[if_neg h1]
   cases hl:s.loans t with
   |none=>simp[zCZ]
   |some q=>
    cases q with
    |tmp u=>
     by_cases q2:u=e
     ·subst q2;simp[zCZ]
     ·simp[zCZ,q2]
    |cell b o=>
     simp only[zCZ]
     split<;>rename_i hb<;>simp[zCZ]<;>simpa using hb
 ·simp[he]
theorem swapCA{a x:Oper}(hok:okCA B ops a x=true):
 ∀s1 s2,GStep P B ops a s s1->GStep P B ops x s1 s2->∃s',GStep P B ops x s s'∧GStep P B ops a s' s2:=by
 obtain⟨hxg,hB,hcall,⟨t,hxo⟩,e,hxd,he1,he2,hda⟩:=okCA_spec hok
 intro s1 s2 ha hx
 have hne: ∀k,a.dst=some k->k≠e:=fun k hk=>(hda k hk).1
 have hcase: ∃T:AState->AState,s1=T s∧(∀z:List AV,((T s).push z).put e (.mptr s.blocks.length 0)=T ((s.push z).put e (.mptr s.blocks.length 0)))∧(T s).blocks.length=s.blocks.length∧
  (∀g,g∈zJU ops x->(T s).get g=s.get g)∧∀z:List AV,GStep P B ops a ((s.push z).put e (.mptr s.blocks.length 0)) (T ((s.push z).put e (.mptr s.blocks.length 0))):=by
  have hgd: ∀z:List AV,∀u,u∈zJU ops a->((s.push z).put e (.mptr s.blocks.length 0)).get u=s.get u:=fun z u hu=>by
   rw[zFH _ e u _ (fun h=>he1 (by rw[<-h];exact hu))];rfl
  have hlk: ∀z:List AV,∀y:Operand,(∀u,y=.tmp u->u∈zDC a.op)->((s.push z).put e (.mptr s.blocks.length 0)).look y=s.look y:=fun z y hy=>by
   cases y with
   |tmp u=>
    have:=hgd z u (List.mem_append_left _ (hy u rfl))
    simp only[AState.look,AState.ev,this]
   |_=>rfl
  have hcA: ∀(z:List AV)(first captured:List AV)(c:Call)(y:Operand),a.op=.call c->c.callee=.value y->zAz ((s.push z).put e (.mptr s.blocks.length 0)) first captured c.args=zAz s first captured c.args:=fun z first captured c y h1 h2=>by
   unfold zAz
   congr 2
   refine List.map_congr_left fun w hw=>?_
   rw[hlk z w (fun u e'=>by rw[h1,zEn h2];exact zFc (by rw[<-e'];exact zqc _ hw))]
  have lift: ∀z s2',StepD P B a ((s.push z).put e (.mptr s.blocks.length 0)) s2'->(∃s3,StepD P B a s s3)->True:=fun _ _ _ _=>trivial
  have skip:s1=s.putO a.dst (.tup [])->(∀z:List AV,GStep P B ops a ((s.push z).put e (.mptr s.blocks.length 0)) (((s.push z).put e (.mptr s.blocks.length 0)).putO a.dst (.tup [])))->_:=fun h1 h2=>
   (⟨fun s=>s.putO a.dst (.tup []),h1,fun z=>zHe s a.dst (.tup []) z e _ hne,by cases a.dst<;>simp[AState.putO,zBi],fun g hg=>by
    cases hd:a.dst with
    |none=>rfl
    |some d=>exact zFH s d g _ (fun h=>(hda d hd).2 (by rw[<-h];exact hg)),h2⟩: ∃T:AState->AState,s1=T s∧(∀z:List AV,((T s).push z).put e (.mptr s.blocks.length 0)=T ((s.push z).put e (.mptr s.blocks.length 0)))∧(T s).blocks.length=s.blocks.length∧
   (∀g,g∈zJU ops x->(T s).get g=s.get g)∧∀z:List AV,GStep P B ops a ((s.push z).put e (.mptr s.blocks.length 0)) (T ((s.push z).put e (.mptr s.blocks.length 0))))
  have stepT:StepD P B a s s1->∃T:AState->AState,s1=T s∧(∀z:List AV,((T s).push z).put e (.mptr s.blocks.length 0)=T ((s.push z).put e (.mptr s.blocks.length 0)))∧(T s).blocks.length=s.blocks.length∧
   (∀g,g∈zJU ops x->(T s).get g=s.get g)∧∀z:List AV,StepD P B a ((s.push z).put e (.mptr s.blocks.length 0)) (T ((s.push z).put e (.mptr s.blocks.length 0))):=by
   rintro(⟨c,y,f,first,captured,res,h1,h2,h3,h4,h5,h6,h7⟩|⟨r,h1,_⟩|⟨_,c,y,f,first,captured,res,bs',ρ,h1,h2,h3,h4,h5,h6,h7,h8,h10,h9⟩|⟨_,y,r,h2,_⟩)
   ·refine⟨fun s=>s.putO a.dst res,h7,fun z=>zHe s a.dst res z e _ hne,by cases a.dst<;>simp[AState.putO,zBi],fun g hg=>?_,fun z=>?_⟩
    ·cases hd:a.dst with
     |none=>rfl
     |some d=>exact zFH s d g _ (fun h=>(hda d hd).2 (by rw[<-h];exact hg))
    ·exact .inl ⟨c,y,f,first,captured,res,h1,h2,by rw[hlk z y (fun u e'=>by rw[h1,zEn h2];exact zFc (by rw[<-e'];exact zq9 ..))];exact h3,by rw[hcA z _ _ c y h1 h2];exact h4,by rw[hcA z _ _ c y h1 h2];exact h5,h6,rfl⟩
   ·exfalso
    cases hop:a.op<;>rw[hop] at hcall<;>simp only[zF7,Bool.false_eq_true] at hcall
    rename_i c
    rw[hop] at h1
    simp only[zHO] at h1
    split at h1
    ·rename_i hb;rw[hb] at hcall;cases hcall
    ·cases h1
   ·have hblk: ∀z:List AV,((s.push z).put e (.mptr s.blocks.length 0)).blocks=s.blocks++[z]:=fun z=>by rw[zBi];rfl
    refine⟨fun s'=>s'.calledK ρ a.dst res (bs'++s'.blocks.drop s.blocks.length),?_,fun z=>?_,?_,fun g hg=>?_,fun z=>?_⟩
    ·rw[h9];simp
    ·show((s.calledK ρ a.dst res (bs'++List.drop s.blocks.length s.blocks)).push z).put e _=((s.push z).put e (.mptr s.blocks.length 0)).calledK ρ a.dst res (bs'++List.drop s.blocks.length ((s.push z).put e (.mptr s.blocks.length 0)).blocks)
     rw[hblk]
     simp only[List.drop_length,List.append_nil,List.drop_left]
     exact zKm s ρ a.dst res bs' z e _ hne
    ·simp only[List.drop_length,List.append_nil]
     unfold AState.calledK
     cases a.dst<;>simp[AState.putO,zBi,h7]
    ·simp only[List.drop_length,List.append_nil]
     unfold AState.calledK
     cases hd:a.dst with
     |none=>rfl
     |some d=>exact zFH _ d g _ (fun h=>(hda d hd).2 (by rw[<-h];exact hg))
    ·refine .inr (.inr (.inl ⟨hB,c,y,f,first,captured,res,bs'++[z],ρ,h1,h2,by rw[hlk z y (fun u e'=>by rw[h1,zEn h2];exact zFc (by rw[<-e'];exact zq9 ..))];exact h3,fun zs=>?_,h5,h6,?_,fun b hb=>?_,fun h11=>by rw[hblk,h10 h11],?_⟩))
     ·rw[hcA z _ _ c y h1 h2,hblk,List.append_assoc,List.append_assoc]
      exact h4 _
     ·rw[hblk];simp[h7]
     ·rw[hblk]
      rcases Nat.lt_or_ge b s.blocks.length with hlt|hge
      ·rw[zEG (by rw[h7];exact hlt),zEG hlt];exact h8 b hb
      ·simp only[zq5]
       rw[List.getElem?_append_right (by rw[h7];exact hge),List.getElem?_append_right hge,h7]
     ·show((s.push z).put e (.mptr s.blocks.length 0)).calledK ρ a.dst res (bs'++List.drop s.blocks.length ((s.push z).put e (.mptr s.blocks.length 0)).blocks)=_
      rw[hblk];simp
   ·rw[h2] at hcall;cases hcall
  unfold GStep at ha
  cases hg:a.guard with
  |none=>
   rw[hg] at ha
   obtain⟨T,q1,q2,q3,q4,q5⟩:=stepT ha
   exact⟨T,q1,q2,q3,q4,fun z=>by unfold GStep;rw[hg];exact q5 z⟩
  |some q=>
   obtain⟨j,want⟩:=q
   rw[hg] at ha
   obtain⟨g,hgj,hh⟩:=ha
   have hgu:g∈zJU ops a:=List.mem_append_right _ (by simp[hg,hgj])
   rcases hh with ⟨b,hb,⟨hw,hs⟩|⟨hw,h1⟩⟩|⟨hb,h1⟩
   ·obtain⟨T,q1,q2,q3,q4,q5⟩:=stepT hs
    exact⟨T,q1,q2,q3,q4,fun z=>by unfold GStep;rw[hg];exact⟨g,hgj,.inl ⟨b,by rw[hgd z g hgu];exact hb,.inl ⟨hw,q5 z⟩⟩⟩⟩
   ·exact skip h1 fun z=>by unfold GStep;rw[hg];exact⟨g,hgj,.inl ⟨b,by rw[hgd z g hgu];exact hb,.inr ⟨hw,rfl⟩⟩⟩
   ·exact skip h1 fun z=>by unfold GStep;rw[hg];exact⟨g,hgj,.inr ⟨by rw[hgd z g hgu];exact hb,rfl⟩⟩
 obtain⟨T,rfl,q2,q3,q4,q5⟩:=hcase
 have stepX:StepD P B x (T s) s2->∃s',StepD P B x s s'∧GStep P B ops a s' s2:=fun h=>by
  obtain⟨cells,hc,hpl,rfl⟩:=(alloc_step hxo hxd).1 h
  rw[q3]
  refine⟨_,(alloc_step hxo hxd).2 ⟨cells,hc,hpl,rfl⟩,?_⟩
  rw[q2]
  exact q5 _
 unfold GStep at hx
 rw[hxg] at hx
 obtain⟨s',h1,h2⟩:=stepX hx
 exact⟨s',by unfold GStep;rw[hxg];exact h1,h2⟩
def comm(B:List Nat)(ops:Array Oper)(i j:Nat):Bool:=
 match ops[i]?,ops[j]? with
 |some a,some b=>okPair B ops a b||(okPair B ops b a||okCA B ops a b)
 |_,_=>false
def quietC(op:Op):Bool:=isA op||(zDS op||zB6 op)
theorem zKM{a x:Oper}(h:okPair B ops a x=true):quietC a.op=true:=by
 obtain⟨_,_,_,_,_,h4⟩:=zFz h
 rcases h4 with h4|⟨_,h4,_⟩
 ·simp[quietC,isAB_A h4]
 ·simp only[quietC,h4,Bool.or_true]
def mvBad(ops:Array Oper)(k i:Nat):Prop:= ∃ok oi u,ops[k]? =some ok∧ops[i]? =some oi∧zDS ok.op=true∧u∈zDC ok.op∧oi.dst=some u∧quietC oi.op=true
def LFree(ops:Array Oper)(l:List Nat)(s:AState):Prop:= ∀i,i∈l->∀o d,ops[i]? =some o->o.dst=some d->quietC o.op=true->s.free d
def dstsIn(ops:Array Oper)(n:Nat):Prop:= ∀(i:Nat) o d,ops[i]? =some o->o.dst=some d->d<n
theorem front{j:Nat}{oj:Oper}(hj:ops[j]? =some oj): ∀(u1:List Nat)(s s':AState),Chain P B ops (u1++[j]) s s'->(∀k,k∈u1->comm B ops k j=true)->
 LFree ops (u1++[j]) s->(u1++[j]).Pairwise (fun k i=> ¬mvBad ops k i)->dstsIn ops s.n->(zB6 oj.op=true->∀t,t∈zDC oj.op->(s.get t).under s.blocks.length=true)->∃s1,GStep P B ops oj s s1∧Chain P B ops u1 s1 s':=by
 intro u1
 induction u1 with
 |nil=>
  rintro s s' ⟨o,s1,h1,h2,rfl⟩ _ _ _ _ _
  rw[hj] at h1;cases h1
  exact⟨_,h2,rfl⟩
 |cons k u1 ih=>
  rintro s s' ⟨ok,sk,h1,h2,h3⟩ hcm hS hpw hn hun
  rw[List.cons_append,List.pairwise_cons] at hpw
  have hkj:=hcm k (zq9 ..)
  simp only[comm,h1,hj,Bool.or_eq_true] at hkj
  obtain⟨f1,f2,f3,f4⟩:=zGl h2
  have hS':LFree ops (u1++[j]) sk:=fun i hi o d ho hd hqt t hl=>by
   rcases f3 t d hl with h|⟨hm,h⟩
   ·exact hS i (zqc _ hi) o d ho hd hqt t h
   ·exact hpw.1 i hi ⟨ok,o,d,h1,ho,hm,h,hd,hqt⟩
  have hdst:zB6 oj.op=true->∀e,ok.dst=some e->e∉zDC oj.op:=fun hlo e he hmem=>by
   rcases hkj with h|h|h
   ·obtain⟨d,hd,_,hx,_⟩:=zFz h
    rw[he] at hd;cases hd
    exact hx (List.mem_append_left _ hmem)
   ·obtain⟨d,hd,_,_,hx,_⟩:=zFz h
    exact(hx e he).2 (List.mem_append_left _ hmem)
   ·rw[okCA_load h] at hlo;cases hlo
  have hun':zB6 oj.op=true->∀t,t∈zDC oj.op->(sk.get t).under sk.blocks.length=true:=fun hl t ht=>by
   have hcalm:(isAB B ok.op||zDS ok.op||zB6 ok.op||zJm ok.op)=true∨(isX0 ok.op=true∧zB6 oj.op=true)∨(B≠[]∧(exL B oj.op=false∨(B.contains 995=true∧zF7 ok.op=true))∧((isPutB ok.op=true∧(zB6 oj.op=true∨isAsg ok.op=false∨B.contains 998=false))∨(isApp ok.op=true∧(zDS oj.op=true∨B.contains 994=false)∧∀t,t∈zJU ops oj->t∉zDC ok.op))):=by
    rcases hkj with h|h|h
    rotate_left 2
    ·rw[okCA_load h] at hl;cases hl
    ·obtain⟨_,_,_,_,_,hx⟩:=zFz h
     rcases hx with hx|⟨_,hx,_⟩
     ·left;simp[hx]
     ·left;rw[Bool.or_assoc (isAB B ok.op),hx];simp
    ·obtain⟨_,_,_,_,_,hx⟩:=zFz h
     rcases hx with hx|⟨_,_,hx|hx|hx⟩
     ·cases ho:oj.op<;>rw[ho] at hl hx<;>simp[zB6,isAB,isA] at hl hx
     ·exact .inl hx
     ·exact .inr (.inl hx)
     ·exact .inr (.inr hx)
   rcases hcalm with hcalm|hcalm|⟨hB,_,hst|⟨hst,_⟩⟩
   ·obtain⟨g1,bl,g2,_⟩:=f4 hcalm
    rw[g1 t (fun e=>hdst hl t e ht),g2,List.length_append]
    have:=hun hl t ht
    revert this
    generalize s.get t=y
    intro hy
    exact zJx (by omega) _ hy
   ·have g2:=gstep_x0 hcalm.1 h2
    rw[<-zGc,f2 t (fun e=>hdst hl t e ht),zGc,g2];exact hun hl t ht
   ·obtain⟨_,g2,_⟩:=zLQ hB hst.1 h2
    rw[<-zGc,f2 t (fun e=>hdst hl t e ht),zGc,g2];exact hun hl t ht
   ·obtain⟨g2,_⟩:=gstep_app hB hst h2
    rw[<-zGc,f2 t (fun e=>hdst hl t e ht),zGc,g2];exact hun hl t ht
  have hsw: ∀sj,GStep P B ops oj sk sj->∃s1,GStep P B ops oj s s1∧GStep P B ops ok s1 sj:=fun sj hsj=>by
   rcases hkj with h|h|h
   rotate_left 2
   ·exact swapCA h sk sj h2 hsj
   ·exact(swap h (fun d hd=>hS k (zq9 ..) ok d h1 hd (zKM h)) (fun d hd=>hn k ok d h1 hd)).1 sk sj h2 hsj
   ·exact(swap h (fun d hd=>hS j (zqc _ (List.mem_append_right _ (List.mem_singleton_self _))) oj d hj hd (zKM h)) (fun d hd=>hn j oj d hj hd)).2 sk sj h2 hsj hun
  obtain⟨sj,e1,e2⟩:=ih sk s' h3 (fun q hq=>hcm q (zqc _ hq)) hS' hpw.2 (by rw[f1];exact hn) hun'
  obtain⟨s1,g1,g2⟩:=hsw sj e1
  exact⟨s1,g1,ok,sj,h1,g2,e2⟩
theorem StepD.toA{s s':AState}(h:StepD P B o s s'):zJS P o s s':=by
 rcases h with ⟨c,x,f,first,captured,res,h1,h2,h3,h4,h5,h6,rfl⟩|⟨r,h1,h2,_,rfl⟩|⟨_,c,x,f,first,captured,res,bs',ρ,h1,h2,h3,h4,h5,_,_,_,_,rfl⟩|⟨_,x,r,h2,h3,rfl⟩
 ·exact zHA h1 h2 h3 h4 h5 h6
 ·exact(zMR h1 h2).step
 ·exact ok_callK h1 h2 h3 (by simpa using h4 []) h5
 ·exact(ok_ext P o s x 0 h2 r h3 (resExt_side h3)).step
theorem GStep.sound{s s':AState}(h:GStep P B ops o s s')(hs:Sim F g s a w)
 {K:Act->World->Prop} {Q:Exit->Act->World->Prop} (hK: ∀g' a' w',Sim F g' s' a' w'->K a' w'):
 if Region.wanted o (yielded ops a.tmps) then o.wp P a w K Q else K (a.put o.dst undef) w:=by
 have step:StepD P B o s s'->o.wp P a w K Q:=fun h=>h.toA F g a w hs K Q hK
 have skip:s'=s.putO o.dst (.tup [])->K (a.put o.dst undef) w:=fun h=>by
  obtain⟨g',hs'⟩:=hs.putUndef o.dst
  exact hK _ _ _ (by rw[h];exact hs')
 unfold GStep at h
 cases hg:o.guard with
 |none=>
  rw[hg] at h
  rw[if_pos (by simp[Region.wanted,hg])]
  exact step h
 |some q=>
  obtain⟨j,want⟩:=q
  rw[hg] at h
  obtain⟨d,hd,hh⟩:=h
  have hr:=(hs.tmps d).1
  have boolv: ∀b,s.get d=.bool b->yielded ops a.tmps j=some b:=fun b hb=>by
   have hb':s.tmps d=.bool b:=hb
   rw[hb'] at hr
   exact zFT hd (by cases hh:a.tmps.getD d undef<;>rw[hh] at hr<;>cases hr;rfl)
  rcases hh with ⟨b,hb,⟨hw,hst⟩|⟨hw,hsk⟩⟩|⟨hb,hsk⟩
  ·rw[if_pos (by simp[Region.wanted,hg,boolv b hb,hw])]
   exact step hst
  ·rw[if_neg (by simp[Region.wanted,hg,boolv b hb,hw])]
   exact skip hsk
  ·have hb':s.tmps d=.tup []:=hb
   rw[hb'] at hr
   have hv:a.tmps.getD d undef=undef:=by
    cases hh:a.tmps.getD d undef<;>rw[hh] at hr<;>cases hr
    rename_i vs hsz _
    have:vs=#[]:=by simpa using hsz
    subst this;rfl
   rw[if_neg (by simp[Region.wanted,hg,zEw hd hv])]
   exact skip hsk
theorem zHD{P:Program}{B:List Nat}{ops:Array Oper}: ∀(l l':List Nat)(s s':AState),Chain P B ops (l++l') s s'↔∃m,Chain P B ops l s m∧Chain P B ops l' m s'
 |[],l',s,s'=>⟨fun h=>⟨s,rfl,h⟩,fun⟨m,h1,h2⟩=>by cases h1;exact h2⟩
 |i::l,l',s,s'=>by
  constructor
  ·rintro⟨o,s1,h1,h2,h3⟩
   obtain⟨m,h4,h5⟩:=(zHD l l' s1 s').1 h3
   exact⟨m,⟨o,s1,h1,h2,h4⟩,h5⟩
  ·rintro⟨m,⟨o,s1,h1,h2,h4⟩,h5⟩
   exact⟨o,s1,h1,h2,(zHD l l' s1 s').2 ⟨m,h4,h5⟩⟩
def zD3(o:Oper):List Nat:=(o.after.toList.filter (Region.binds .any)).map (·.on)
def zEl(ops:List Oper):List (List Nat):=ops.foldl (fun acc o=>acc++[((zD3 o).flatMap fun e=>e::acc.getD e []).eraseDups]) []
def dstOk(n:Nat):Option Nat->Bool
 |some d=>d<n
 |none=>true
def mvOk(ops:Array Oper):Bool:=
 ops.toList.zipIdx.all fun(o,k)=> !zDS o.op||ops.toList.zipIdx.all fun(x,i)=>match x.dst with
  |some u=> !quietC x.op||(!(zDC o.op).contains u||((zEl ops.toList).getD k []).contains i)
  |none=>true
theorem zJI(h:ops[i]? =some o):(o,i)∈ops.toList.zipIdx:=by
 rw[List.mk_mem_zipIdx_iff_getElem?];simpa using h
theorem zL4(h:mvOk ops=true){k i:Nat}(hb:mvBad ops k i):i∈(zEl ops.toList).getD k []:=by
 obtain⟨ok,oi,u,h1,h2,h3,h4,h5,h6⟩:=hb
 have:=zq8 h (ok,k) (zJI h1)
 simp only[h3,Bool.not_true,Bool.false_or] at this
 have:=zq8 this (oi,i) (zJI h2)
 simp only[h5,h6,Bool.not_true,Bool.false_or,Bool.or_eq_true,Bool.not_eq_true',List.contains_eq_mem,decide_eq_false_iff_not,decide_eq_true_eq] at this
 rcases this with h|h
 ·exact absurd h4 h
 ·exact h
def regOk(B:List Nat)(ops:Array Oper)(n:Nat):Bool:=
 mvOk ops&&
 (ops.toList.zipIdx.all fun(o,j)=>(zD3 o).all (·<j)&&dstOk n o.dst)&&
 (List.range ops.size).all fun j=>(List.range j).all fun k=>((zEl ops.toList).getD j []).contains k||comm B ops k j
end Go.Abs
