/- CanonSteps holds: for every input the law returns true. No condition. Part 6 of 19. No condition. -/
import Derived.Test.YtkdhppfdiagglaaGreatDoorCSe
import Derived.Orders
set_option linter.unusedVariables false
set_option linter.unnecessarySimpa false
set_option linter.unusedSimpArgs false
set_option maxRecDepth 100000
set_option maxHeartbeats 4000000
namespace Go.Abs
open Go
variable {P:Program} {ops:Array Oper} {imm:Addr->Option Value} {w:World} {B:List Nat} {a:Act} {o:Oper} {v:Value} {f:FuncId} {α:Type} {x:Operand} {σ:List Nat} {ρ:List Nat} {t:TypeId} {c:Code} {bo:Option Nat} {n:Nat} {i:Nat} {pins:List Nat} {fn:Func} {xs:List Operand} {k:IntKind} {id:Nat} {args:List AV} {l:List (List AV)} {res:AV} {m:Option Place} {s:AState} {Q:Exit->AState->Prop} {g:Gh} {F:Fx} {K:AState->Prop} {R:AV->AState->Prop} {r:Res}
theorem zKU{ops:List Oper}{L:Nat->Prop}(hcl: ∀(j:Nat) o,ops[j]? =some o->L j->∀e,e∈zD3 o->L e):
 ∀(j:Nat) o,ops[j]? =some o->(∀e,e∈zD3 o->L e)->∀k,k∈(zEl ops).getD j []->L k:=by
 have key: ∀(pre suf:List Oper)(acc:List (List Nat)),ops=pre++suf->acc.length=pre.length->
  (∀(j:Nat) o,pre[j]? =some o->(∀e,e∈zD3 o->L e)->∀k,k∈acc.getD j []->L k)->
  (∀(j:Nat) o,ops[j]? =some o->(∀e,e∈zD3 o->L e)->∀k,k∈(suf.foldl (fun acc o=>acc++[((zD3 o).flatMap fun e=>e::acc.getD e []).eraseDups]) acc).getD j []->L k):=by
  intro pre suf
  induction suf generalizing pre with
  |nil=>
   intro acc he hl h j o hj ho k hk
   rw[List.append_nil] at he
   subst he
   exact h j o hj ho k hk
  |cons x suf ih=>
   intro acc he hl h
   simp only[List.foldl_cons]
   refine ih (pre++[x]) _ (by simp[he]) (by simp[hl]) fun j o hj ho k hk=>?_
   rcases zBs hj with ⟨hlt,hj1⟩|⟨q,rfl,hj1⟩
   ·rw[zEG (by omega)] at hk
    exact h j o hj1 ho k hk
   ·cases q with
    |succ q=>simp at hj1
    |zero=>
     simp only[List.getElem?_cons_zero,Option.some.injEq] at hj1
     subst hj1
     rw[zq5,List.getElem?_append_right (by omega)] at hk
     simp only[Nat.add_zero,hl,Nat.sub_self,List.getElem?_cons_zero,Option.getD_some] at hk
     rw[List.mem_eraseDups] at hk
     obtain⟨e,he1,he2⟩:=List.mem_flatMap.1 hk
     simp only[List.mem_cons] at he2
     rcases he2 with rfl|he2
     ·exact ho _ he1
     ·have hLe:=ho e he1
      by_cases hlt:e<pre.length
      ·have hpe:=zq2 hlt
       have hoe:ops[e]? =some pre[e]:=by rw[he,List.getElem?_append_left hlt];exact hpe
       exact h e _ hpe (fun e' he'=>hcl e _ hoe hLe e' he') k he2
      ·rw[zq5,List.getElem?_eq_none (by omega)] at he2
       cases he2
 exact key [] ops [] rfl rfl (fun j o hj=>by simp at hj)
theorem zLo(h:regOk B ops n=true):mvOk ops=true:=by
 simp only[regOk,zq7] at h;exact h.1.1
theorem regOk_spec(h:regOk B ops n=true):(∀(j:Nat) o,ops[j]? =some o->∀e,e∈zD3 o->e<j)∧dstsIn ops n∧
 ∀j,j<ops.size->∀k,k<j->k∈(zEl ops.toList).getD j []∨comm B ops k j=true:=by
 simp only[regOk,zq7] at h
 replace h:=And.intro h.1.2 h.2
 obtain⟨h1,h2⟩:=h
 have h1': ∀(j:Nat) o,ops[j]? =some o->(zD3 o).all (·<j)=true∧dstOk n o.dst=true:=fun j o hj=>by
  have hz:ops.toList.zipIdx[j]? =some (o,j):=by
   rw[List.getElem?_zipIdx,Array.getElem?_toList,hj];simp
  have:=(zq8 h1) (o,j) (zq3 hz)
  simpa only[zq7] using this
 refine⟨fun j o hj e he=>by simpa using(zq8 (h1' j o hj).1) e he,fun i o d hi hd=>?_,fun j hj k hk=>?_⟩
 ·have:=(h1' i o hi).2
  rw[hd] at this
  simpa[dstOk] using this
 ·have:=(zq8 ((zq8 h2) j (List.mem_range.2 hj))) k (List.mem_range.2 hk)
  simpa using this
theorem zIi{p:Nat->Bool}{n i:Nat}(hi:i<n)(hp:p i=true): ∃u1 u2,(List.range n).filter p=u1++i::u2∧(∀k,k∈u1->k<i∧p k=true)∧
 (List.range n).filter (fun k=>p k&&k !=i)=u1++u2:=by
 obtain⟨q,rfl⟩: ∃q,n=i+(1+q):=⟨n-(i+1),by omega⟩
 have hr:List.range (i+(1+q))=List.range i++i::(List.range' (i+1) q):=by
  rw[List.range_eq_range',List.range_eq_range',<-List.range'_append_1,<-List.range'_append_1]
  simp[List.range'_one]
 refine⟨(List.range i).filter p,(List.range' (i+1) q).filter p,?_,fun k hk=>?_,?_⟩
 ·rw[hr,List.filter_append,List.filter_cons_of_pos hp]
 ·rw[List.mem_filter,List.mem_range] at hk;exact hk
 ·rw[hr,List.filter_append,List.filter_cons_of_neg (by simp)]
  congr 1
  ·apply List.filter_congr
   intro k hk
   rw[List.mem_range] at hk
   have:(k !=i)=true:=by simp;omega
   rw[this,Bool.and_true]
  ·apply List.filter_congr
   intro k hk
   rw[List.mem_range'_1] at hk
   have:(k !=i)=true:=by simp;omega
   rw[this,Bool.and_true]
theorem zFJ{n:Nat}(l:Array Bool)(i j:Nat)(z:Bool)(hj:j<l.size):(l.setIfInBounds i true).getD j z=if j=i then true else l.getD j z:=by
 rw[zq6,Array.getElem?_setIfInBounds]
 by_cases e:i=j
 ·subst e;simp[hj]
 ·simp[e,Ne.symm e,zq6]
theorem anc_lt(hedge: ∀(j:Nat) o,ops[j]? =some o->∀e,e∈zD3 o->e<j){k i:Nat}(hk:k<ops.size)(h:i∈(zEl ops.toList).getD k []):i<k:=
 zKU (ops:=ops.toList) (L:=fun x=>x<k) (fun j o hj hl e he=>Nat.lt_trans (hedge j o (by simpa using hj) e he) hl) k ops[k] (by simp[zqe hk]) (fun e he=>hedge k ops[k] (zqe hk) e he) i h
theorem zLK(hmv:mvOk ops=true)(hedge: ∀(j:Nat) o,ops[j]? =some o->∀e,e∈zD3 o->e<j){p:Nat->Bool}{u1 u2:List Nat}
 (h:(List.range ops.size).filter p=u1++i::u2):(u1++[i]).Pairwise (fun k i=> ¬mvBad ops k i):=by
 have h1:((List.range ops.size).filter p).Pairwise (·<·):=List.Pairwise.filter p List.pairwise_lt_range
 have h2:(u1++[i]).Pairwise (·<·):=by
  rw[h,show u1++i::u2=(u1++[i])++u2 by simp] at h1
  exact(List.pairwise_append.1 h1).1
 refine h2.imp fun {a b} hab hb=>?_
 have ha:a<ops.size:=by obtain⟨ok,_,_,h3,_⟩:=hb;exact lt_of_getElem? h3
 have:=anc_lt hedge ha (zL4 hmv hb)
 omega
theorem any_wp{Q:Exit->Act->World->Prop}(hok:regOk B ops n=true): ∀(fuel:Nat)(listed:Array Bool)(s s':AState)(g:Gh)(a:Act)(w:World),
 listed.size=ops.size->((List.range ops.size).filter fun i=> !listed.getD i true).length<=fuel->
 (∀(j:Nat) o,ops[j]? =some o->listed.getD j true=true->∀e,e∈zD3 o->listed.getD e true=true)->
 Chain P B ops ((List.range ops.size).filter fun i=> !listed.getD i true) s s'->Sim F g s a w->LFree ops ((List.range ops.size).filter fun i=> !listed.getD i true) s->s.n=n->(∀g a w,Sim F g s' a w->Q .normal a w)->
 wpAny P .any ops Q fuel listed a w:=by
 obtain⟨hedge,hdst,hcomm⟩:=regOk_spec hok
 have hin: ∀(listed:Array Bool),listed.size=ops.size->∀i,i<ops.size->listed.getD i true=listed.getD i false:=fun listed hsz i hi=>by
  rw[zq6,zq6,zqe (by omega)];rfl
 have hleft: ∀(listed:Array Bool),listed.size=ops.size->Region.ready .any ops listed=[]->((List.range ops.size).filter fun i=> !listed.getD i true)=[]:=fun listed hsz hr=>by
  have all: ∀i,i<ops.size->listed.getD i true=true:=by
   intro i
   induction i using Nat.strongRecOn with
   |_ i ih=>
    intro hi
    cases hv:listed.getD i true with
    |true=>rfl
    |false=>
     have hmem:i∈Region.ready .any ops listed:=mem_ready.2 ⟨hv,ops[i],zqe hi,fun e he hb=>by
      have hlt:=hedge i _ (zqe hi) e.on (List.mem_map.2 ⟨e,List.mem_filter.2 ⟨by simpa using he,hb⟩,rfl⟩)
      rw[<-hin listed hsz e.on (by omega)];exact ih e.on hlt (by omega)⟩
     rw[hr] at hmem;cases hmem
  rw[List.filter_eq_nil_iff]
  intro i hi
  rw[List.mem_range] at hi
  simp[all i hi]
 intro fuel
 induction fuel with
 |zero=>
  intro listed s s' g a w hsz hlen hcl hc hs hS hn hQ
  have hnil:((List.range ops.size).filter fun i=> !listed.getD i true)=[]:=List.eq_nil_of_length_eq_zero (by omega)
  rw[hnil] at hc
  have:s'=s:=hc
  subst this
  refine⟨?_,hQ g a w hs⟩
  cases hr:Region.ready .any ops listed with
  |nil=>rfl
  |cons i l=>
   have hi:i∈Region.ready .any ops listed:=by rw[hr];exact zq9 ..
   obtain⟨h1,o,h2,_⟩:=mem_ready.1 hi
   have:i∈((List.range ops.size).filter fun i=> !listed.getD i true):=List.mem_filter.2 ⟨List.mem_range.2 (lt_of_getElem? h2),by simp[h1]⟩
   rw[hnil] at this;cases this
 |succ fuel ih=>
  intro listed s s' g a w hsz hlen hcl hc hs hS hn hQ
  refine⟨fun hr=>?_,fun i hi=>?_⟩
  ·rw[hleft listed hsz hr] at hc
   have:s'=s:=hc
   subst this
   exact hQ g a w hs
  ·obtain⟨h1,o,h2,h3⟩:=mem_ready.1 hi
   have hilt:=lt_of_getElem? h2
   have hready: ∀e,e∈zD3 o->listed.getD e true=true:=fun e he=>by
    obtain⟨ed,hed,rfl⟩:=List.mem_map.1 he
    rw[List.mem_filter] at hed
    have:=h3 ed (by simpa using hed.1) hed.2
    have hlt:=hedge i o h2 ed.on he
    rw[hin listed hsz _ (by omega)];exact this
   obtain⟨u1,u2,e1,e2,e3⟩:=zIi (p:=fun i=> !listed.getD i true) hilt (by simp[h1])
   have hcm: ∀k,k∈u1->comm B ops k i=true:=fun k hk=>by
    obtain⟨hlt,hk2⟩:=e2 k hk
    rcases hcomm i hilt k hlt with h|h
    ·exfalso
     have:=zKU (ops:=ops.toList) (L:=fun j=>listed.getD j true=true) (fun j o hj=>hcl j o (by simpa using hj)) i o (by simpa using h2) hready k h
     rw[this] at hk2;simp at hk2
    ·exact h
   rw[e1,show u1++i::u2=(u1++[i])++u2 by simp] at hc
   obtain⟨m,hc1,hc2⟩:=(zHD _ _ _ _).1 hc
   obtain⟨s1,g1,g2⟩:=front h2 u1 s m hc1 hcm (fun q hq=>hS q (by rw[e1];rcases List.mem_append.1 hq with hq|hq;exact List.mem_append_left _ hq;rw[List.mem_singleton.1 hq];exact List.mem_append_right _ (zq9 ..))) (zLK (zLo hok) hedge e1) (by rw[hn];exact hdst) (fun _ t _=>by rw[<-hs.sto.len];exact(hs.tmps t).1.isUnder)
   have hc':Chain P B ops (u1++u2) s1 s':=(zHD _ _ _ _).2 ⟨m,g2,hc2⟩
   obtain⟨f1,f2,f3,f4⟩:=zGl g1
   have hS':LFree ops (u1++u2) s1:=fun q hq oq d hoq hd hqt t hl=>by
    have hq':q∈(List.range ops.size).filter fun i=> !listed.getD i true:=by
     rw[e1]
     rcases List.mem_append.1 hq with hq|hq
     ·exact List.mem_append_left _ hq
     ·exact List.mem_append_right _ (zqc _ hq)
    rcases f3 t d hl with h|⟨hm,h⟩
    ·exact hS q hq' oq d hoq hd hqt t h
    ·have h5:=zKU (ops:=ops.toList) (L:=fun j=>listed.getD j true=true) (fun j o hj=>hcl j o (by simpa using hj)) i o (by simpa using h2) hready q (zL4 (zLo hok) ⟨o,oq,d,h2,hoq,hm,h,hd,hqt⟩)
     rw[List.mem_filter,h5] at hq'
     cases hq'.2
   have hfil:((List.range ops.size).filter fun k=> !(listed.setIfInBounds i true).getD k true)=u1++u2:=by
    rw[<-e3]
    apply List.filter_congr
    intro k hk
    rw[List.mem_range] at hk
    rw[zFJ (n:=0) listed i k true (by omega)]
    by_cases e:k=i
    ·simp[e]
    ·simp[e]
   have hgo:=GStep.sound g1 hs (K:=wpAny P .any ops Q fuel (listed.setIfInBounds i true)) (Q:=Q) (fun g' a' w' hs'=>
    ih (listed.setIfInBounds i true) s1 s' g' a' w' (by simpa using hsz) (by
     rw[hfil]
     have:=hlen
     rw[e1] at this
     simp only[List.length_append,List.length_cons] at this ⊢
     omega) (fun j oj hj hl e he=>by
     have hjlt:=lt_of_getElem? hj
     have helt:=hedge j oj hj e he
     rw[zFJ (n:=0) listed i j true (by omega)] at hl
     rw[zFJ (n:=0) listed i e true (by omega)]
     split
     ·rfl
     ·split at hl
      ·rename_i hji
       subst hji
       rw[h2] at hj;cases hj
       exact hready e he
      ·exact hcl j oj hj hl e he) (by rw[hfil];exact hc') hs' (by rw[hfil];exact hS') (by rw[f1];exact hn) hQ)
   unfold wpOp
   simp only[h2]
   split
   ·rename_i hw;rw[if_pos hw] at hgo;exact .inl hgo
   ·rename_i hw;rw[if_neg hw] at hgo;exact hgo
def CallD(P:Program)(B:List Nat)(f:FuncId)(args:List AV)(s:AState)(dst:Option Nat)(K:AState->Prop):Prop:=
 (∃res,Pure P f args res∧AV.flatL args=true∧res.owns=false∧K (s.putO dst res))∨
 (∃res bs' ρ,B≠[]∧FrRaw P f ρ args s.blocks res bs'∧res.owns=false∧(∀b,b∈ρ->b∈B)∧(B.contains 995=true->bs'=s.blocks)∧K (s.calledK ρ dst res bs'))
theorem zGN{dst:Option Nat}(h:Pure P f args res)(h1:AV.flatL args=true)(h2:res.owns=false)(h3:K (s.putO dst res)):CallD P B f args s dst K:=
 .inl ⟨res,h,h1,h2,h3⟩
theorem zMO{dst:Option Nat}{bs bs':List (List AV)}(h:FrRaw P f ρ args bs res bs')(h1:s.blocks=bs)(h2:res.owns=false)
 (hB:(!B.isEmpty&&ρ.all fun b=>B.contains b)=true) (h9:B.contains 995=true->bs'=bs) (h3:K (s.calledK ρ dst res bs')):CallD P B f args s dst K:=by
 simp only[zq7,Bool.not_eq_true',List.isEmpty_eq_false_iff,List.all_eq_true,List.contains_iff_mem] at hB
 exact .inr ⟨res,bs',ρ,hB.1,by rw[h1];exact h,h2,hB.2,by rw[h1];exact h9,h3⟩
def ResD(B:List Nat)(s:AState)(op:Op)(dst:Option Nat)(r:Option Res)(K:AState->Prop):Prop:=
 match r with
 |some r=>r.side∧Gd B s op∧K (s.putR dst r)
 |none=>False
@[simp ↓] theorem ResD_some(B:List Nat)(s:AState)(op:Op)(dst:Option Nat)(r:Res)(K:AState->Prop):ResD B s op dst (some r) K=(r.side∧Gd B s op∧K (s.putR dst r)):=Eq.trans rfl rfl
def ExtD(B:List Nat)(X Y:Prop):Prop:=if B.contains 997 then X else Y
@[simp] theorem ExtD_nil{X Y:Prop}:ExtD [] X Y=Y:=rfl
def AStepD(P:Program)(B:List Nat)(o:Oper)(s:AState)(K:AState->Prop):Prop:=
 match o.op with
 |.call c=>match c.callee with
  |.value x=>match s.look x with
   |.fn (.func f) first captured=>CallD P B f (zAz s first captured c.args) s o.dst K
   |_=>False
  |.builtin b=>ResD B s (.call c) o.dst (zD6 P s c b) K
  |_=>False
 |.extract x 0=>ExtD B (ResK s o.dst (zIU s x 0) K) (ResK s o.dst (zCK s x 0) K)
 |op=>ResD B s op o.dst (zHO P s op) K
theorem AStepD.ok(h:AStepD P B o s K): ∃s',StepD P B o s s'∧K s':=by
 have other: ∀r,zHO P s o.op=some r->r.side->Gd B s o.op->K (s.putR o.dst r)->∃s',StepD P B o s s'∧K s':=fun r h1 h2 hg h3=>⟨_,.inr (.inl ⟨r,h1,h2,hg,rfl⟩),h3⟩
 unfold AStepD at h
 split at h
 ·rename_i c ho
  split at h
  ·rename_i x hc
   split at h
   ·rename_i f first captured hx
    rcases h with ⟨res,h1,h2,h3,h4⟩|⟨res,bs',ρ,h0,⟨h1,h2,h3⟩,h4,h5,h7,h6⟩
    ·exact⟨_,.inl ⟨c,x,f,first,captured,res,ho,hc,hx,h1,h2,h3,rfl⟩,h4⟩
    ·exact⟨_,.inr (.inr (.inl ⟨h0,c,x,f,first,captured,res,bs',ρ,ho,hc,hx,h1,h4,h5,h2,h3,h7,rfl⟩)),h6⟩
   ·exact h.elim
  ·rename_i b hc
   unfold ResD at h
   split at h
   ·rename_i r hr
    exact other r (by rw[ho];simp only[zHO,hc];exact hr) h.1 (by rw[ho];exact h.2.1) h.2.2
   ·exact h.elim
  ·exact h.elim
 ·rename_i x ho
  unfold ExtD at h
  split at h
  ·rename_i hB
   unfold ResK at h
   split at h
   ·rename_i r hr
    exact⟨_,.inr (.inr (.inr ⟨hB,x,r,ho,hr,rfl⟩)),h.2⟩
   ·exact h.elim
  ·unfold ResK at h
   split at h
   ·rename_i r hr
    exact other r (by rw[ho];exact hr) h.1 (by rw[ho];trivial) h.2
   ·exact h.elim
 ·unfold ResD at h
  split at h
  ·rename_i r hr
   exact other r hr h.1 h.2.1 h.2.2
  ·exact h.elim
def AOpsD(P:Program)(B:List Nat)(ops:Array Oper)(K:AState->Prop):List Oper->AState->Prop
 |[],s=>K s
 |o::l,s=>match o.guard with
  |none=>AStepD P B o s (AOpsD P B ops K l)
  |some (j,want)=>zGt ((ops[j]?).bind (·.dst)) fun d=>zJA (s.get d) want (AStepD P B o s (AOpsD P B ops K l)) (AOpsD P B ops K l (s.putO o.dst (.tup [])))
@[congr] theorem AOpsD_congr{l:List Oper}{s s':AState}(h:s=s'):AOpsD P B ops K l s=AOpsD P B ops K l s':=by rw[h]
theorem AOpsD.chain: ∀(l:List Oper)(k:Nat)(s:AState),(∀j,l[j]? =ops[k+j]?)->AOpsD P B ops K l s->
 ∃s',Chain P B ops (List.range' k l.length) s s'∧K s':=by
 intro l
 induction l with
 |nil=>exact fun k s _ h=>⟨s,rfl,h⟩
 |cons o l ih=>
  intro k s hl h
  have h0:ops[k]? =some o:=by simpa using(hl 0).symm
  have hl': ∀j,l[j]? =ops[k+1+j]? :=fun j=>by have:=hl (j+1);simpa[Nat.add_assoc,Nat.add_comm 1 j] using this
  have go: ∀s1,GStep P B ops o s s1->AOpsD P B ops K l s1->∃s',Chain P B ops (List.range' k (o::l).length) s s'∧K s':=fun s1 h1 h2=>by
   obtain⟨s',h3,h4⟩:=ih (k+1) s1 hl' h2
   refine⟨s',?_,h4⟩
   rw[List.length_cons,List.range'_succ]
   exact⟨o,s1,h0,h1,h3⟩
  unfold AOpsD at h
  cases hg:o.guard with
  |none=>
   rw[hg] at h
   obtain⟨s1,h1,h2⟩:=h.ok
   exact go s1 (by unfold GStep;rw[hg];exact h1) h2
  |some q=>
   obtain⟨j,want⟩:=q
   rw[hg] at h
   simp only[zGt] at h
   split at h
   ·rename_i d hd
    unfold zJA at h
    split at h
    ·rename_i b hb
     by_cases hw:b=want
     ·obtain⟨s1,h1,h2⟩:=(h.1 hw).ok
      exact go s1 (by unfold GStep;rw[hg];exact⟨d,hd,.inl ⟨b,hb,.inl ⟨hw,h1⟩⟩⟩) h2
     ·have hw':b= !want:=by cases b<;>cases want<;>simp_all
      exact go _ (by unfold GStep;rw[hg];exact⟨d,hd,.inl ⟨b,hb,.inr ⟨hw',rfl⟩⟩⟩) (h.2 hw')
    ·rename_i hb
     exact go _ (by unfold GStep;rw[hg];exact⟨d,hd,.inr ⟨hb,rfl⟩⟩) h
    ·exact h.elim
   ·exact h.elim
theorem zAJ(B:List Nat)(hm:P.follows .mixedOrders=true)(hn:s.n=n)(hok:regOk B ops n=true)
 (h:AOpsD P B ops (Q .normal) ops.toList s.fresh):AWp P (.region id ops true) Q s:=fun F g a w hs=>by
 obtain⟨s',h1,h2⟩:=AOpsD.chain ops.toList 0 s.fresh (fun j=>by simp) h
 refine wp_region_any hm (any_wp (F:=F) (n:=n) hok ops.size _ s.fresh s' g a _ (by simp) ?_ ?_ ?_ hs.fresh.drew (fun _ _ _ _ _ _ _ t hl=>by cases hl) hn (fun g a w hs'=>⟨g,s',hs',h2⟩))
 ·exact Nat.le_trans (List.length_filter_le _ _) (by simp)
 ·intro j o hj hl
  have:(Array.replicate ops.size false).getD j true=false:=by
   have:=lt_of_getElem? hj
   rw[zq6,Array.getElem?_replicate,if_pos this];rfl
  rw[this] at hl;cases hl
 ·have hall:((List.range ops.size).filter fun i=> !(Array.replicate ops.size false).getD i true)=List.range ops.size:=by
   rw[List.filter_eq_self]
   intro i hi
   rw[List.mem_range] at hi
   rw[zq6,Array.getElem?_replicate,if_pos hi];rfl
  rw[hall,List.range_eq_range']
  simpa using h1
def AW(P:Program):Code->(Exit->AState->Prop)->AState->Prop
 |.skip,Q,s=>Q .normal s
 |.label _,Q,s=>Q .normal s
 |.region _ ops false,Q,s=>AOps P ops (Q .normal) ops.toList s.fresh
 |.region _ ops true,Q,s=>regOk [] ops s.n=true∧AOpsD P [] ops (Q .normal) ops.toList s.fresh
 |.seq x y,Q,s=>AW P x (seqK (AWp P y Q) Q) s
 |.cond c x y,Q,s=>match s.look c with
  |.bool b=>(b=true->AW P x Q s)∧(b=false->AW P y Q s)
  |_=>False
 |.block id c,Q,s=>AW P c (blockK id Q) s
 |.exit id,Q,s=>Q (.exit id) s
 |.ret,Q,s=>Q .ret s
 |c,Q,s=>AWp P c Q s
theorem AW.sound(hm:P.follows .mixedOrders=true): ∀(c:Code)(Q:Exit->AState->Prop)(s:AState),AW P c Q s->AWp P c Q s:=by
 intro c
 induction c with
 |skip=>exact fun Q s h F g a w hs=>wp_skip ⟨g,s,hs,h⟩
 |label l=>exact fun Q s h F g a w hs=>wp_label ⟨g,s,hs,h⟩
 |region id ops draw=>
  intro Q s h
  cases draw with
  |false=>exact awp_region h
  |true=>exact zAJ [] hm rfl h.1 h.2
 |seq x y ihx ihy=>
  intro Q s h
  exact zAD (ihx _ _ h)
 |cond c x y ihx ihy=>
  intro Q s h
  unfold AW at h
  split at h
  ·rename_i b hb
   exact zKn hb (fun e=>ihx _ _ (h.1 e)) (fun e=>ihy _ _ (h.2 e))
  ·exact h.elim
 |block id c ih=>exact fun Q s h=>zAF (ih _ _ h)
 |exit id=>exact fun Q s h F g a w hs=>wp_exit ⟨g,s,hs,h⟩
 |ret=>exact fun Q s h F g a w hs=>wp_ret ⟨g,s,hs,h⟩
 |_=>exact fun Q s h=>h
section
variable (s:AState) (d t u b o:Nat) (x:AV) (blk:List AV)
@[simp] theorem get_start(n base:Nat)(args:List AV)(bs:List (List AV)):(start n base args bs).get t=args.getD t (.tup []):=rfl
@[simp] theorem n_start(n base:Nat)(args:List AV)(bs:List (List AV)):(start n base args bs).n=n:=rfl
@[simp] theorem base_start(n base:Nat)(args:List AV)(bs:List (List AV)):(start n base args bs).base=base:=rfl
@[simp] theorem blocks_start(n base:Nat)(args:List AV)(bs:List (List AV)):(start n base args bs).blocks=bs:=rfl
@[simp] theorem loans_start(n base:Nat)(args:List AV)(bs:List (List AV)):(start n base args bs).loans t=none:=rfl
@[simp] theorem get_mkS(n base:Nat)(live:List (Nat×AV))(bs:List (List AV)):(mkS n base live bs).get t=lookD live t:=rfl
@[simp] theorem n_mkS(n base:Nat)(live:List (Nat×AV))(bs:List (List AV)):(mkS n base live bs).n=n:=rfl
@[simp] theorem base_mkS(n base:Nat)(live:List (Nat×AV))(bs:List (List AV)):(mkS n base live bs).base=base:=rfl
@[simp] theorem blocks_mkS(n base:Nat)(live:List (Nat×AV))(bs:List (List AV)):(mkS n base live bs).blocks=bs:=rfl
@[simp] theorem loans_mkS(n base:Nat)(live:List (Nat×AV))(bs:List (List AV)):(mkS n base live bs).loans t=none:=rfl
@[simp] theorem get_fresh:s.fresh.get t=s.get t:=rfl
@[simp] theorem n_fresh:s.fresh.n=s.n:=rfl
@[simp] theorem base_fresh:s.fresh.base=s.base:=rfl
@[simp] theorem blocks_fresh:s.fresh.blocks=s.blocks:=rfl
@[simp] theorem loans_fresh:s.fresh.loans t=none:=rfl
@[simp] theorem get_put:(s.put d x).get t=if t=d then (if d<s.n then x else s.get t) else s.get t:=by
 unfold AState.put;split
 ·rename_i h;simp only[AState.get]
 ·rename_i h;split<;>rfl
@[simp] theorem n_put:(s.put d x).n=s.n:=put_n s d x
@[simp] theorem base_put:(s.put d x).base=s.base:=put_base s d x
@[simp] theorem blocks_put:(s.put d x).blocks=s.blocks:=zBi s d x
@[simp] theorem loans_put:(s.put d x).loans t=if d<s.n then (if t=d then none else if s.loans t=some (.tmp d) then none else s.loans t) else s.loans t:=by
 unfold AState.put;split<;>rfl
@[simp] theorem get_setCell:(s.setCell b o x).get t=s.get t:=rfl
@[simp] theorem n_setCell:(s.setCell b o x).n=s.n:=rfl
@[simp] theorem base_setCell:(s.setCell b o x).base=s.base:=rfl
@[simp] theorem blocks_setCell:(s.setCell b o x).blocks=s.blocks.set b ((s.blocks.getD b []).set o x):=rfl
@[simp] theorem loans_setCell:(s.setCell b o x).loans t=if s.loans t=some (.cell b o) then none else s.loans t:=rfl
@[simp] theorem get_push:(s.push blk).get t=s.get t:=rfl
@[simp] theorem n_push:(s.push blk).n=s.n:=rfl
@[simp] theorem base_push:(s.push blk).base=s.base:=rfl
@[simp] theorem blocks_push:(s.push blk).blocks=s.blocks++[blk]:=rfl
@[simp] theorem loans_push:(s.push blk).loans t=s.loans t:=rfl
@[simp] theorem get_degT:(s.degrade (.tmp u)).get t=if t=u then (s.get u).copy else s.get t:=rfl
@[simp] theorem n_deg(p:Place):(s.degrade p).n=s.n:=by cases p<;>rfl
@[simp] theorem base_deg(p:Place):(s.degrade p).base=s.base:=by cases p<;>rfl
@[simp] theorem blocks_degT:(s.degrade (.tmp u)).blocks=s.blocks:=rfl
@[simp] theorem loans_deg(p:Place):(s.degrade p).loans t=s.loans t:=by cases p<;>rfl
@[simp] theorem get_degC:(s.degrade (.cell b o)).get t=s.get t:=rfl
@[simp] theorem blocks_degC:(s.degrade (.cell b o)).blocks=s.blocks.set b ((s.blocks.getD b []).set o (((s.blocks.getD b []).getD o .top).copy)):=rfl
end
def AState.lend(s:AState)(d:Nat)(p:Place):AState:={s with loans:=fun t=>if t=d then some p else s.loans t}
section
variable (s:AState) (d t:Nat) (p:Place) (x:AV)
@[simp] theorem get_lend:(s.lend d p).get t=s.get t:=rfl
@[simp] theorem n_lend:(s.lend d p).n=s.n:=rfl
@[simp] theorem base_lend:(s.lend d p).base=s.base:=rfl
@[simp] theorem blocks_lend:(s.lend d p).blocks=s.blocks:=rfl
@[simp] theorem loans_lend:(s.lend d p).loans t=if t=d then some p else s.loans t:=rfl
@[simp] theorem putL_none:s.putL d x none=s.put d x:=rfl
@[simp] theorem putL_some:s.putL d x (some p)=if p=.tmp d∨s.n<=d then s.put d x else (s.put d x).lend d p:=rfl
end
def AState.storeK(s:AState)(ρ:List Nat)(bs:List (List AV)):AState:={s with blocks:=bs,loans:=fun t=>zCZ ρ (s.loans t)}
section
variable (s:AState) (t:Nat) (ρ:List Nat) (bs:List (List AV))
@[simp] theorem calledK_eq(d:Option Nat)(res:AV):s.calledK ρ d res bs=(s.storeK ρ bs).putO d res:=rfl
@[simp] theorem get_storeK:(s.storeK ρ bs).get t=s.get t:=rfl
@[simp] theorem n_storeK:(s.storeK ρ bs).n=s.n:=rfl
@[simp] theorem base_storeK:(s.storeK ρ bs).base=s.base:=rfl
@[simp] theorem blocks_storeK:(s.storeK ρ bs).blocks=bs:=rfl
@[simp] theorem loans_storeK:(s.storeK ρ bs).loans t=zCZ ρ (s.loans t):=rfl
@[simp] theorem keepLoan_none:zCZ ρ none=none:=rfl
@[simp] theorem keepLoan_tmp(u:Nat):zCZ ρ (some (.tmp u))=some (.tmp u):=rfl
@[simp] theorem keepLoan_cell(b o:Nat):zCZ ρ (some (.cell b o))=if ρ.contains b then none else some (.cell b o):=rfl
end
def AState.store'(s:AState)(bs:List (List AV)):AState:={s with blocks:=bs,loans:=fun t=>match s.loans t with|some (.tmp u)=>some (.tmp u)|_=>none}
section
variable (s:AState) (t:Nat) (bs:List (List AV))
@[simp] theorem called_eq(d:Option Nat)(res:AV):s.called d res bs=(s.store' bs).putO d res:=rfl
@[simp] theorem get_store':(s.store' bs).get t=s.get t:=rfl
@[simp] theorem n_store':(s.store' bs).n=s.n:=rfl
@[simp] theorem base_store':(s.store' bs).base=s.base:=rfl
@[simp] theorem blocks_store':(s.store' bs).blocks=bs:=rfl
@[simp] theorem loans_store':(s.store' bs).loans t=match s.loans t with|some (.tmp u)=>some (.tmp u)|_=>none:=rfl
end
@[simp] theorem AOps_nil(P:Program)(ops:Array Oper)(K:AState->Prop)(s:AState):AOps P ops K [] s=K s:=Eq.trans rfl rfl
@[simp] theorem AOps_cons(P:Program)(ops:Array Oper)(K:AState->Prop)(o:Oper)(l:List Oper)(s:AState):AOps P ops K (o::l) s=match o.guard with
 |none=>AStep P o s (AOps P ops K l)
 |some (j,want)=>zGt ((ops[j]?).bind (·.dst)) fun d=>zJA (s.get d) want (AStep P o s (AOps P ops K l)) (AOps P ops K l (s.putO o.dst (.tup []))):=Eq.trans rfl rfl
@[simp] theorem AOpsD_nil(P:Program)(B:List Nat)(ops:Array Oper)(K:AState->Prop)(s:AState):AOpsD P B ops K [] s=K s:=Eq.trans rfl rfl
@[simp] theorem AOpsD_cons(P:Program)(B:List Nat)(ops:Array Oper)(K:AState->Prop)(o:Oper)(l:List Oper)(s:AState):AOpsD P B ops K (o::l) s=match o.guard with
 |none=>AStepD P B o s (AOpsD P B ops K l)
 |some (j,want)=>zGt ((ops[j]?).bind (·.dst)) fun d=>zJA (s.get d) want (AStepD P B o s (AOpsD P B ops K l)) (AOpsD P B ops K l (s.putO o.dst (.tup []))):=Eq.trans rfl rfl
attribute [simp] AStep AStepD TailV resTail partV zIT zG3 arrS resIdx resBn zKC zKD nilI resEmp resIx resIxM resLn zKA resMk zIQ zIu zG1 zGB zKE zJs zJa zLk zHO zD6 zLI zI1 zJ8 pickV isBool resNew zG4 resBox bldT markB zKa loadV zIJ zF4 zEh elems zEg zIU ExtD ownT zCK zFC cmpV intV strV binV resBin resUn zKB zIR zIS resFunc zHE zLz zFt resMM resM3 resLen zIF zG2 zHX fillA placeOf zIV zDc zJ9 isR zAz zCy eqTy eqFs AState.at AState.ev AState.owner AState.takeV AState.takeS AState.putR AState.putO AState.look AState.loanOf AState.setCells AV.ofConst AV.ofConst1 AV.plain AV.inert AV.flat AV.flatL AV.under AV.underL seqK blockK Ret zKq zFs oneOf lookD endS Gd exL gdA isE0 ownIn isApp asgOk
attribute [simp] mks_nil mvs_nil zHb zGS zB8 AState.setAt keyD
def notLoop:Code->Bool
 |.loop _=>false
 |_=>true
theorem AW.step(hm:P.follows .mixedOrders=true)(hc:notLoop c=true)(h:AW P c Q s):AWp P c Q s:=AW.sound hm c Q s h
attribute [simp] AW
theorem zAm(I:α->AState)(Inv:α->Prop)(μ:α->Nat)(x0:α)(hi:Inv x0)(h0:s.Le (I x0))
 (round: ∀x,Inv x->AWp P c (seqK (fun s'=> ∃y,s'.Le (I y)∧Inv y∧μ y<μ x) Q) (I x)):AWp P (.loop c) Q s:=by
 refine awp_loop (fun x:{x:α//Inv x}=>I x.1) (fun x=>μ x.1) ⟨x0,hi⟩ h0 ?_
 rintro⟨x,hx⟩
 refine zGA (round x hx) fun e s' h=>?_
 cases e with
 |normal=>obtain⟨y,h1,h2,h3⟩:=h;exact⟨⟨y,h2⟩,h1,h3⟩
 |_=>exact h
def PStep(P:Program)(o:Oper)(s s':AState):Prop:=
 o.guard=none∧((∃c x f first captured res,o.op=.call c∧c.callee=.value x∧s.look x=.fn (.func f) first captured∧res.owns=false∧
  ((∃bs',Raw P f (zAz s first captured c.args) s.blocks res bs'∧s'=s.called o.dst res bs')∨
   (∃bs' ρ,RawK P f (zAz s first captured c.args) s.blocks res bs' (fun b=>b∉ρ)∧s'=s.calledK ρ o.dst res bs')∨
   (Pure P f (zAz s first captured c.args) res∧AV.flatL (zAz s first captured c.args)=true∧s'=s.putO o.dst res)∨
   (Pure P f (zCy s first captured c.args) res∧AV.flatL (zCy s first captured c.args)=true∧s'=s.putO o.dst res)))∨
  (∃r,mapOp P s o.op=some r∧r.side∧s'=s.putR o.dst r)∨(∃r,zHO P s o.op=some r∧r.side∧s'=s.putR o.dst r)∨
  (∃c x f first captured i y ec l r,o.op=.call c∧c.callee=.value x∧s.look x=.fn (.func f) first captured∧c.args.toList[i]? =some y∧(zAz s first captured c.args).length=c.args.toList.length∧
   (s.takeV y=.osl ec l∨(s.takeV y=.nsl∧l=[]))∧PureG P f ((zAz s first captured c.args).set i (.osl ec l)) i ec l r∧AV.flatL (zAz s first captured c.args)=true∧
   s'=(s.takeS y).putO o.dst r))
def zKJ(ops:Array Oper)(pins:List Nat):Bool:=
 pins.all fun i=>(List.range ops.size).all fun k=>k==i||(if k<i then ((zEl ops.toList).getD i []).contains k else ((zEl ops.toList).getD k []).contains i)
theorem pins_before(h:zKJ ops pins=true){i k:Nat}(hi:pins.contains i=true)(hk:k<i)(hs:i<ops.size):k∈(zEl ops.toList).getD i []:=by
 have:=(zq8 ((zq8 h) i (by simpa using hi))) k (List.mem_range.2 (by omega))
 rw[if_pos hk] at this
 simp only[Bool.or_eq_true,beq_iff_eq,List.contains_iff_mem] at this
 rcases this with h|h
 ·omega
 ·exact h
theorem pins_after(h:zKJ ops pins=true){i k:Nat}(hk:pins.contains k=true)(hlt:k<i)(hs:i<ops.size):k∈(zEl ops.toList).getD i []:=by
 have:=(zq8 ((zq8 h) k (by simpa using hk))) i (List.mem_range.2 hs)
 rw[if_neg (by omega)] at this
 simp only[Bool.or_eq_true,beq_iff_eq,List.contains_iff_mem] at this
 rcases this with h|h
 ·omega
 ·exact h
def zJq(P:Program)(B:List Nat)(ops:Array Oper)(pins:List Nat):List Nat->AState->AState->Prop
 |[],s,s'=>s'=s
 |i::l,s,s'=> ∃o s1,ops[i]? =some o∧((pins.contains i=false∧GStep P B ops o s s1)∨(pins.contains i=true∧PStep P o s s1))∧zJq P B ops pins l s1 s'
theorem zGV{P:Program}{B:List Nat}{ops:Array Oper}{pins:List Nat}: ∀(l l':List Nat)(s s':AState),zJq P B ops pins (l++l') s s'↔∃m,zJq P B ops pins l s m∧zJq P B ops pins l' m s'
 |[],l',s,s'=>⟨fun h=>⟨s,rfl,h⟩,fun⟨m,h1,h2⟩=>by cases h1;exact h2⟩
 |i::l,l',s,s'=>by
  constructor
  ·rintro⟨o,s1,h1,h2,h3⟩
   obtain⟨m,h4,h5⟩:=(zGV l l' s1 s').1 h3
   exact⟨m,⟨o,s1,h1,h2,h4⟩,h5⟩
  ·rintro⟨m,⟨o,s1,h1,h2,h4⟩,h5⟩
   exact⟨o,s1,h1,h2,(zGV l l' s1 s').2 ⟨m,h4,h5⟩⟩
theorem zKk{P:Program}{B:List Nat}{ops:Array Oper}{pins:List Nat}: ∀{l:List Nat}{s s':AState},(∀k,k∈l->pins.contains k=false)->zJq P B ops pins l s s'->Chain P B ops l s s'
 |[],s,s',_,h=>h
 |i::l,s,s',hp,⟨o,s1,h1,h2,h3⟩=>by
  refine⟨o,s1,h1,?_,zKk (fun k hk=>hp k (zqc _ hk)) h3⟩
  rcases h2 with ⟨_,h2⟩|⟨h2,_⟩
  ·exact h2
  ·rw[hp i (zq9 ..)] at h2;cases h2
theorem chainX_of{P:Program}{B:List Nat}{ops:Array Oper}{pins:List Nat}: ∀{l:List Nat}{s s':AState},(∀k,k∈l->pins.contains k=false)->Chain P B ops l s s'->zJq P B ops pins l s s'
 |[],s,s',_,h=>h
 |i::l,s,s',hp,⟨o,s1,h1,h2,h3⟩=>⟨o,s1,h1,.inl ⟨hp i (zq9 ..),h2⟩,chainX_of (fun k hk=>hp k (zqc _ hk)) h3⟩
theorem PStep.frame{s s':AState}(hp:PStep P o s s'):s'.n=s.n∧∀t u,s'.loans t=some (.tmp u)->s.loans t=some (.tmp u)∨(zDS o.op=true∧u∈zDC o.op):=by
 have put: ∀(s0:AState)(r:AV),s0.n=s.n->(∀t u,s0.loans t=some (.tmp u)->s.loans t=some (.tmp u))->(s0.putO o.dst r).n=s.n∧∀t u,(s0.putO o.dst r).loans t=some (.tmp u)->s.loans t=some (.tmp u)∨(zDS o.op=true∧u∈zDC o.op):=fun s0 r hn hl=>by
  cases hd:o.dst with
  |none=>exact⟨hn,fun t u h=>.inl (hl t u h)⟩
  |some d=>
   refine⟨by simpa using hn,fun t u h=>.inl ?_⟩
   simp only[AState.putO,loans_put] at h
   split at h
   ·split at h
    ·cases h
    ·split at h
     ·cases h
     ·exact hl t u h
   ·exact hl t u h
 obtain⟨hg0,⟨c,x,f,first,captured,res,_,_,_,_,⟨bs',_,rfl⟩|⟨bs',ρ,_,rfl⟩|⟨_,_,rfl⟩|⟨_,_,rfl⟩⟩|⟨r,hr,_,rfl⟩|⟨r,hr,hr2,rfl⟩|⟨c,x,f,first,captured,i,y,ec,l,r,_,_,_,_,_,_,_,_,rfl⟩⟩:=hp
 ·rw[called_eq]
  refine put _ _ rfl fun t u h=>?_
  rw[loans_store'] at h
  split at h
  ·rename_i v hv;rw[hv];exact h
  ·cases h
 ·unfold AState.calledK
  refine put _ _ rfl fun t u h=>?_
  simp only at h
  cases hv:s.loans t with
  |none=>rw[hv] at h;cases h
  |some q=>
   rw[hv] at h
   cases q with
   |tmp v=>exact h
   |cell b o=>simp only[zCZ] at h;split at h<;>cases h
 ·exact put s res rfl fun t u h=>h
 ·exact put s res rfl fun t u h=>h
 ·obtain⟨h1,h2,h3⟩:=mapOp_frame hr
  have e:s.putR o.dst r=r.st.putO o.dst r.val:=by
   unfold AState.putR AState.putO
   cases o.dst with
   |none=>rfl
   |some d=>simp only[AState.putL,h3]
  rw[e]
  exact put _ _ h1 fun t u h=>by rw[h2] at h;exact h
 ·have hg:GStep P [] #[] o s (s.putR o.dst r):=by
   unfold GStep
   rw[hg0]
   exact .inr (.inl ⟨r,hr,hr2,by cases o.op<;>simp[Gd],rfl⟩)
  obtain⟨f1,f2,f3,f4⟩:=zGl hg
  exact⟨f1,f3⟩
 ·obtain⟨t1,t2,t3⟩:=zDr s y
  exact put _ _ t1 fun t u h=>by rw[t3] at h;exact h
theorem gp_sound{s s':AState}(h:GStep P B ops o s s'∨PStep P o s s')(hs:Sim F g s a w)
 {K:Act->World->Prop} {Q:Exit->Act->World->Prop} (hK: ∀g' a' w',Sim F g' s' a' w'->K a' w'):
 if Region.wanted o (yielded ops a.tmps) then o.wp P a w K Q else K (a.put o.dst undef) w:=by
 rcases h with h|⟨hg,⟨c,x,f,first,captured,res,ho,hc,hx,h2,⟨bs',h1,rfl⟩|⟨bs',ρ,h1,rfl⟩|⟨h1,h3,rfl⟩|⟨h1,h3,rfl⟩⟩|⟨r,h1,h2,rfl⟩|⟨r,h1,h2,rfl⟩|⟨c,x,f,first,captured,i,y,ec,l,r,ho,hc,hx,e1,e2,e3,e4,e5,rfl⟩⟩
 ·exact h.sound hs hK
 ·rw[if_pos (by simp[Region.wanted,hg])]
  exact ok_call ho hc hx h1 h2 F g a w hs K Q hK
 ·rw[if_pos (by simp[Region.wanted,hg])]
  exact ok_callK ho hc hx h1 h2 F g a w hs K Q hK
 ·rw[if_pos (by simp[Region.wanted,hg])]
  exact zHA ho hc hx h1 h3 h2 F g a w hs K Q hK
 ·rw[if_pos (by simp[Region.wanted,hg])]
  exact zJg ho hc hx h1 h3 h2 F g a w hs K Q hK
 ·rw[if_pos (by simp[Region.wanted,hg])]
  exact(mapOp_ok h1 h2).step F g a w hs K Q hK
 ·rw[if_pos (by simp[Region.wanted,hg])]
  exact(zMR h1 h2).step F g a w hs K Q hK
 ·rw[if_pos (by simp[Region.wanted,hg])]
  exact zJf ho hc hx e1 e2 e3 e4 e5 F g a w hs K Q hK
theorem any_wpX{Q:Exit->Act->World->Prop}(hok:regOk B ops n=true)(hpin:zKJ ops pins=true): ∀(fuel:Nat)(listed:Array Bool)(s s':AState)(g:Gh)(a:Act)(w:World),
 listed.size=ops.size->((List.range ops.size).filter fun i=> !listed.getD i true).length<=fuel->
 (∀(j:Nat) o,ops[j]? =some o->listed.getD j true=true->∀e,e∈zD3 o->listed.getD e true=true)->
 zJq P B ops pins ((List.range ops.size).filter fun i=> !listed.getD i true) s s'->Sim F g s a w->LFree ops ((List.range ops.size).filter fun i=> !listed.getD i true) s->s.n=n->(∀g a w,Sim F g s' a w->Q .normal a w)->
 wpAny P .any ops Q fuel listed a w:=by
 obtain⟨hedge,hdst,hcomm⟩:=regOk_spec hok
 have hin: ∀(listed:Array Bool),listed.size=ops.size->∀i,i<ops.size->listed.getD i true=listed.getD i false:=fun listed hsz i hi=>by
  rw[zq6,zq6,zqe (by omega)];rfl
 have hleft: ∀(listed:Array Bool),listed.size=ops.size->Region.ready .any ops listed=[]->((List.range ops.size).filter fun i=> !listed.getD i true)=[]:=fun listed hsz hr=>by
  have all: ∀i,i<ops.size->listed.getD i true=true:=by
   intro i
   induction i using Nat.strongRecOn with
   |_ i ih=>
    intro hi
    cases hv:listed.getD i true with
    |true=>rfl
    |false=>
     have hmem:i∈Region.ready .any ops listed:=mem_ready.2 ⟨hv,ops[i],zqe hi,fun e he hb=>by
      have hlt:=hedge i _ (zqe hi) e.on (List.mem_map.2 ⟨e,List.mem_filter.2 ⟨by simpa using he,hb⟩,rfl⟩)
      rw[<-hin listed hsz e.on (by omega)];exact ih e.on hlt (by omega)⟩
     rw[hr] at hmem;cases hmem
  rw[List.filter_eq_nil_iff]
  intro i hi
  rw[List.mem_range] at hi
  simp[all i hi]
 intro fuel
 induction fuel with
 |zero=>
  intro listed s s' g a w hsz hlen hcl hc hs hS hn hQ
  have hnil:((List.range ops.size).filter fun i=> !listed.getD i true)=[]:=List.eq_nil_of_length_eq_zero (by omega)
  rw[hnil] at hc
  have:s'=s:=hc
  subst this
  refine⟨?_,hQ g a w hs⟩
  cases hr:Region.ready .any ops listed with
  |nil=>rfl
  |cons i l=>
   have hi:i∈Region.ready .any ops listed:=by rw[hr];exact zq9 ..
   obtain⟨h1,o,h2,_⟩:=mem_ready.1 hi
   have:i∈((List.range ops.size).filter fun i=> !listed.getD i true):=List.mem_filter.2 ⟨List.mem_range.2 (lt_of_getElem? h2),by simp[h1]⟩
   rw[hnil] at this;cases this
 |succ fuel ih=>
  intro listed s s' g a w hsz hlen hcl hc hs hS hn hQ
  refine⟨fun hr=>?_,fun i hi=>?_⟩
  ·rw[hleft listed hsz hr] at hc
   have:s'=s:=hc
   subst this
   exact hQ g a w hs
  ·obtain⟨h1,o,h2,h3⟩:=mem_ready.1 hi
   have hilt:=lt_of_getElem? h2
   have hready: ∀e,e∈zD3 o->listed.getD e true=true:=fun e he=>by
    obtain⟨ed,hed,rfl⟩:=List.mem_map.1 he
    rw[List.mem_filter] at hed
    have:=h3 ed (by simpa using hed.1) hed.2
    have hlt:=hedge i o h2 ed.on he
    rw[hin listed hsz _ (by omega)];exact this
   obtain⟨u1,u2,e1,e2,e3⟩:=zIi (p:=fun i=> !listed.getD i true) hilt (by simp[h1])
   have hcm: ∀k,k∈u1->comm B ops k i=true:=fun k hk=>by
    obtain⟨hlt,hk2⟩:=e2 k hk
    rcases hcomm i hilt k hlt with h|h
    ·exfalso
     have:=zKU (ops:=ops.toList) (L:=fun j=>listed.getD j true=true) (fun j o hj=>hcl j o (by simpa using hj)) i o (by simpa using h2) hready k h
     rw[this] at hk2;simp at hk2
    ·exact h
   have hanc: ∀k,k∈u1->k∉(zEl ops.toList).getD i []:=fun k hk hm=>by
    have:=zKU (ops:=ops.toList) (L:=fun j=>listed.getD j true=true) (fun j o hj=>hcl j o (by simpa using hj)) i o (by simpa using h2) hready k hm
    have h5:=(e2 k hk).2
    rw[this] at h5;cases h5
   rw[e1] at hc
   have hstep: ∃s1,(GStep P B ops o s s1∨PStep P o s s1)∧zJq P B ops pins (u1++u2) s1 s':=by
    cases hp:pins.contains i with
    |true=>
     have hu:u1=[]:=by
      cases u1 with
      |nil=>rfl
      |cons k u1=>
       exfalso
       have hk:=(e2 k (zq9 ..)).1
       exact hanc k (zq9 ..) (pins_before hpin hp hk hilt)
     subst hu
     obtain⟨o',s1,q1,q2,q3⟩:=hc
     rw[h2] at q1;cases q1
     rcases q2 with ⟨q2,_⟩|⟨_,q2⟩
     ·rw[hp] at q2;cases q2
     ·exact⟨s1,.inr q2,q3⟩
    |false=>
     have hnp: ∀k,k∈u1++[i]->pins.contains k=false:=fun k hk=>by
      rcases List.mem_append.1 hk with hk|hk
      ·cases hpk:pins.contains k with
       |false=>rfl
       |true=>exact absurd (pins_after hpin hpk (e2 k hk).1 hilt) (hanc k hk)
      ·rw[List.mem_singleton.1 hk];exact hp
     rw[show u1++i::u2=(u1++[i])++u2 by simp] at hc
     obtain⟨m,hc1,hc2⟩:=(zGV _ _ _ _).1 hc
     obtain⟨s1,g1,g2⟩:=front h2 u1 s m (zKk hnp hc1) hcm (fun q hq=>hS q (by rw[e1];rcases List.mem_append.1 hq with hq|hq;exact List.mem_append_left _ hq;rw[List.mem_singleton.1 hq];exact List.mem_append_right _ (zq9 ..))) (zLK (zLo hok) hedge e1) (by rw[hn];exact hdst) (fun _ t _=>by rw[<-hs.sto.len];exact(hs.tmps t).1.isUnder)
     exact⟨s1,.inl g1,(zGV _ _ _ _).2 ⟨m,chainX_of (fun k hk=>hnp k (List.mem_append_left _ hk)) g2,hc2⟩⟩
   obtain⟨s1,g1,hc'⟩:=hstep
   have hfr:s1.n=s.n∧∀t u,s1.loans t=some (.tmp u)->s.loans t=some (.tmp u)∨(zDS o.op=true∧u∈zDC o.op):=by
    rcases g1 with g1|g1
    ·obtain⟨f1,f2,f3,f4⟩:=zGl g1
     exact⟨f1,f3⟩
    ·exact g1.frame
   obtain⟨f1,f3⟩:=hfr
   have hS':LFree ops (u1++u2) s1:=fun q hq oq d hoq hd hqt t hl=>by
    have hq':q∈(List.range ops.size).filter fun i=> !listed.getD i true:=by
     rw[e1]
     rcases List.mem_append.1 hq with hq|hq
     ·exact List.mem_append_left _ hq
     ·exact List.mem_append_right _ (zqc _ hq)
    rcases f3 t d hl with h|⟨hm,h⟩
    ·exact hS q hq' oq d hoq hd hqt t h
    ·have h5:=zKU (ops:=ops.toList) (L:=fun j=>listed.getD j true=true) (fun j o hj=>hcl j o (by simpa using hj)) i o (by simpa using h2) hready q (zL4 (zLo hok) ⟨o,oq,d,h2,hoq,hm,h,hd,hqt⟩)
     rw[List.mem_filter,h5] at hq'
     cases hq'.2
   have hfil:((List.range ops.size).filter fun k=> !(listed.setIfInBounds i true).getD k true)=u1++u2:=by
    rw[<-e3]
    apply List.filter_congr
    intro k hk
    rw[List.mem_range] at hk
    rw[zFJ (n:=0) listed i k true (by omega)]
    by_cases e:k=i
    ·simp[e]
    ·simp[e]
   have hgo:=gp_sound g1 hs (K:=wpAny P .any ops Q fuel (listed.setIfInBounds i true)) (Q:=Q) (fun g' a' w' hs'=>
    ih (listed.setIfInBounds i true) s1 s' g' a' w' (by simpa using hsz) (by
     rw[hfil]
     have:=hlen
     rw[e1] at this
     simp only[List.length_append,List.length_cons] at this ⊢
     omega) (fun j oj hj hl e he=>by
     have hjlt:=lt_of_getElem? hj
     have helt:=hedge j oj hj e he
     rw[zFJ (n:=0) listed i j true (by omega)] at hl
     rw[zFJ (n:=0) listed i e true (by omega)]
     split
     ·rfl
     ·split at hl
      ·rename_i hji
       subst hji
       rw[h2] at hj;cases hj
       exact hready e he
      ·exact hcl j oj hj hl e he) (by rw[hfil];exact hc') hs' (by rw[hfil];exact hS') (by rw[f1];exact hn) hQ)
   unfold wpOp
   simp only[h2]
   split
   ·rename_i hw;rw[if_pos hw] at hgo;exact .inl hgo
   ·rename_i hw;rw[if_neg hw] at hgo;exact hgo
def CallX(P:Program)(f:FuncId)(xs:List Operand)(args:List AV)(s:AState)(dst:Option Nat)(K:AState->Prop):Prop:=
 (∃res bs',Raw P f args s.blocks res bs'∧res.owns=false∧K (s.called dst res bs'))∨CallG P f xs args s dst K
theorem callX{dst:Option Nat}{bs bs':List (List AV)}(h:Raw P f args bs res bs')(h1:s.blocks=bs)(h2:res.owns=false)(h3:K (s.called dst res bs')):CallX P f xs args s dst K:=
 .inl ⟨res,bs',by rw[h1];exact h,h2,h3⟩
def AStepX(P:Program)(o:Oper)(s:AState)(K:AState->Prop):Prop:=
 match o.guard,o.op with
 |none,.call c=>match c.callee with
  |.value x=>match s.look x with
   |.fn (.func f) first captured=>CallX P f c.args.toList (zAz s first captured c.args) s o.dst K
   |_=>False
  |.builtin b=>ResK s o.dst (zD6 P s c b) K
  |_=>False
 |none,.makeMap t none=>ResK s o.dst (some (zHb s)) K
 |none,.lookup t x i ok=>ResK s o.dst (zGS P s t x i ok) K
 |none,.mapUpdate t x i v=>ResK s o.dst (zB8 P s t x i v) K
 |none,.insert t x i v=>ResK s o.dst (zB8 P s t x i v) K
 |none,op=>ResK s o.dst (zHO P s op) K
 |_,_=>False
theorem AStepX.ok{P:Program}{o:Oper}{s:AState}{K:AState->Prop}(h:AStepX P o s K): ∃s',PStep P o s s'∧K s':=by
 have mp: ∀x:Option Res,o.guard=none->mapOp P s o.op=x->ResK s o.dst x K->∃s',PStep P o s s'∧K s':=fun x hg hx h=>by
  unfold ResK at h
  split at h
  ·rename_i r
   exact⟨_,⟨hg,.inr (.inl ⟨r,hx,h.1,rfl⟩)⟩,h.2⟩
  ·exact h.elim
 unfold AStepX at h
 split at h
 ·rename_i c hg ho
  split at h
  ·rename_i x hc
   split at h
   ·rename_i f first captured hx
    rcases h with ⟨res,bs',h1,h2,h3⟩|⟨i,y,ec,l,r,e1,e2,e3,e4,e5,e7⟩
    ·exact⟨_,⟨hg,.inl ⟨c,x,f,first,captured,res,ho,hc,hx,h2,.inl ⟨bs',h1,rfl⟩⟩⟩,h3⟩
    ·exact⟨_,⟨hg,.inr (.inr (.inr ⟨c,x,f,first,captured,i,y,ec,l,r,ho,hc,hx,e1,e2,e3,e4,e5,rfl⟩))⟩,e7⟩
   ·exact h.elim
  ·rename_i b hc
   unfold ResK at h
   split at h
   ·rename_i r hr
    exact⟨_,⟨hg,.inr (.inr (.inl ⟨r,by rw[ho];simp only[zHO,hc];exact hr,h.1,rfl⟩))⟩,h.2⟩
   ·exact h.elim
  ·exact h.elim
 ·rename_i t hg ho
  exact mp _ hg (by rw[ho];rfl) h
 ·rename_i t x i ok hg ho
  exact mp _ hg (by rw[ho];rfl) h
 ·rename_i t x i v hg ho
  exact mp _ hg (by rw[ho];rfl) h
 ·rename_i t x i v hg ho
  exact mp _ hg (by rw[ho];rfl) h
 ·rename_i hg _ _ _ _ _
  unfold ResK at h
  split at h
  ·rename_i r hr
   exact⟨_,⟨hg,.inr (.inr (.inl ⟨r,hr,h.1,rfl⟩))⟩,h.2⟩
  ·exact h.elim
 ·exact h.elim
def AOpsX(P:Program)(B:List Nat)(ops:Array Oper)(pins:List Nat)(K:AState->Prop):List Oper->Nat->AState->Prop
 |[],_,s=>K s
 |o::l,k,s=>if pins.contains k then AStepX P o s (AOpsX P B ops pins K l (k+1)) else match o.guard with
  |none=>AStepD P B o s (AOpsX P B ops pins K l (k+1))
  |some (j,want)=>zGt ((ops[j]?).bind (·.dst)) fun d=>zJA (s.get d) want (AStepD P B o s (AOpsX P B ops pins K l (k+1))) (AOpsX P B ops pins K l (k+1) (s.putO o.dst (.tup [])))
@[congr] theorem AOpsX_congr{l:List Oper}{k k':Nat}{s s':AState}(hk:k=k')(h:s=s'):AOpsX P B ops pins K l k s=AOpsX P B ops pins K l k' s':=by rw[h,hk]
theorem AOpsX.chain: ∀(l:List Oper)(k:Nat)(s:AState),(∀j,l[j]? =ops[k+j]?)->AOpsX P B ops pins K l k s->
 ∃s',zJq P B ops pins (List.range' k l.length) s s'∧K s':=by
 intro l
 induction l with
 |nil=>exact fun k s _ h=>⟨s,rfl,h⟩
 |cons o l ih=>
  intro k s hl h
  have h0:ops[k]? =some o:=by simpa using(hl 0).symm
  have hl': ∀j,l[j]? =ops[k+1+j]? :=fun j=>by have:=hl (j+1);simpa[Nat.add_assoc,Nat.add_comm 1 j] using this
  unfold AOpsX at h
  cases hp:pins.contains k with
  |true=>
   rw[if_pos hp] at h
   obtain⟨s1,h1,h2⟩:=h.ok
   obtain⟨s',h3,h4⟩:=ih (k+1) s1 hl' h2
   refine⟨s',?_,h4⟩
   rw[List.length_cons,List.range'_succ]
   exact⟨o,s1,h0,.inr ⟨hp,h1⟩,h3⟩
  |false=>
  rw[if_neg (by rw[hp];simp)] at h
  have go: ∀s1,GStep P B ops o s s1->AOpsX P B ops pins K l (k+1) s1->∃s',zJq P B ops pins (List.range' k (o::l).length) s s'∧K s':=fun s1 h1 h2=>by
   obtain⟨s',h3,h4⟩:=ih (k+1) s1 hl' h2
   refine⟨s',?_,h4⟩
   rw[List.length_cons,List.range'_succ]
   exact⟨o,s1,h0,.inl ⟨hp,h1⟩,h3⟩
  cases hg:o.guard with
  |none=>
   rw[hg] at h
   obtain⟨s1,h1,h2⟩:=AStepD.ok h
   exact go s1 (by unfold GStep;rw[hg];exact h1) h2
  |some q=>
   obtain⟨j,want⟩:=q
   rw[hg] at h
   simp only[zGt] at h
   split at h
   ·rename_i d hd
    unfold zJA at h
    split at h
    ·rename_i b hb
     by_cases hw:b=want
     ·obtain⟨s1,h1,h2⟩:=(h.1 hw).ok
      exact go s1 (by unfold GStep;rw[hg];exact⟨d,hd,.inl ⟨b,hb,.inl ⟨hw,h1⟩⟩⟩) h2
     ·have hw':b= !want:=by clear h;revert hw;cases b<;>cases want<;>decide
      exact go _ (by unfold GStep;rw[hg];exact⟨d,hd,.inl ⟨b,hb,.inr ⟨hw',rfl⟩⟩⟩) (h.2 hw')
    ·rename_i hb
     exact go _ (by unfold GStep;rw[hg];exact⟨d,hd,.inr ⟨hb,rfl⟩⟩) h
    ·exact h.elim
   ·exact h.elim
theorem zHs(B:List Nat)(pins:List Nat)(hm:P.follows .mixedOrders=true){s s':AState}(hn:s.n=n)(hok:regOk B ops n=true)(hpin:zKJ ops pins=true)
 (h1:zJq P B ops pins (List.range' 0 ops.toList.length) s.fresh s') (h2:Q .normal s'):AWp P (.region id ops true) Q s:=fun F g a w hs=>by
 refine wp_region_any hm (any_wpX (F:=F) (n:=n) hok hpin ops.size _ s.fresh s' g a _ (by simp) ?_ ?_ ?_ hs.fresh.drew (fun _ _ _ _ _ _ _ t hl=>by cases hl) hn (fun g a w hs'=>⟨g,s',hs',h2⟩))
 ·exact Nat.le_trans (List.length_filter_le _ _) (by simp)
 ·intro j o hj hl
  have:(Array.replicate ops.size false).getD j true=false:=by
   have:=lt_of_getElem? hj
   rw[zq6,Array.getElem?_replicate,if_pos this];rfl
  rw[this] at hl;cases hl
 ·have hall:((List.range ops.size).filter fun i=> !(Array.replicate ops.size false).getD i true)=List.range ops.size:=by
   rw[List.filter_eq_self]
   intro i hi
   rw[List.mem_range] at hi
   rw[zq6,Array.getElem?_replicate,if_pos hi];rfl
  rw[hall,List.range_eq_range']
  simpa using h1
theorem zAx(B:List Nat)(pins:List Nat)(hm:P.follows .mixedOrders=true)(hn:s.n=n)(hok:regOk B ops n=true)(hpin:zKJ ops pins=true)
 (h:AOpsX P B ops pins (Q .normal) ops.toList 0 s.fresh):AWp P (.region id ops true) Q s:=by
 obtain⟨s',h1,h2⟩:=AOpsX.chain ops.toList 0 s.fresh (fun j=>by simp) h
 exact zHs B pins hm hn hok hpin h1 h2
@[simp] theorem AOpsX_nil(P:Program)(B:List Nat)(ops:Array Oper)(pins:List Nat)(K:AState->Prop)(k:Nat)(s:AState):AOpsX P B ops pins K [] k s=K s:=Eq.trans rfl rfl
@[simp] theorem AOpsX_cons(P:Program)(B:List Nat)(ops:Array Oper)(pins:List Nat)(K:AState->Prop)(o:Oper)(l:List Oper)(k:Nat)(s:AState):AOpsX P B ops pins K (o::l) k s=if pins.contains k then AStepX P o s (AOpsX P B ops pins K l (k+1)) else match o.guard with
 |none=>AStepD P B o s (AOpsX P B ops pins K l (k+1))
 |some (j,want)=>zGt ((ops[j]?).bind (·.dst)) fun d=>zJA (s.get d) want (AStepD P B o s (AOpsX P B ops pins K l (k+1))) (AOpsX P B ops pins K l (k+1) (s.putO o.dst (.tup []))):=Eq.trans rfl rfl
attribute [simp] AStepX
@[simp] def leTmps(s:AState):List (Nat×AV)->Prop
 |[]=>True
 |(t,x)::l=>leAV (s.get t) x∧leTmps s l
@[simp] def underTmps(m:Nat):List (Nat×AV)->Bool
 |[]=>true
 |(_,x)::l=>x.under m&&underTmps m l
@[simp] def underBlocks(m:Nat):List (List AV)->Bool
 |[]=>true
 |b::l=>AV.underL m b&&underBlocks m l
theorem leTmps.get: ∀{l:List (Nat×AV)},leTmps s l->∀q,q∈l->leAV (s.get q.1) q.2
 |[],_,q,hq=>by cases hq
 |(t,x)::l,h,q,hq=>by
  rcases List.mem_cons.1 hq with rfl|hq
  ·exact h.1
  ·exact leTmps.get h.2 q hq
theorem zJV{m:Nat}: ∀{l:List (Nat×AV)},underTmps m l=true->∀q,q∈l->q.2.under m=true
 |[],_,q,hq=>by cases hq
 |(t,x)::l,h,q,hq=>by
  simp only[underTmps,zq7] at h
  rcases List.mem_cons.1 hq with rfl|hq
  ·exact h.1
  ·exact zJV h.2 q hq
theorem zFU{m:Nat}: ∀{l:List (List AV)},underBlocks m l=true->∀b,b∈l->AV.underL m b=true
 |[],_,b,hb=>by cases hb
 |x::l,h,b,hb=>by
  simp only[underBlocks,zq7] at h
  rcases List.mem_cons.1 hb with rfl|hb
  ·exact h.1
  ·exact zFU h.2 b hb
def LeB(s:AState)(n base:Nat)(live:List (Nat×AV))(blocks:List (List AV)):Prop:=
 s.n=n∧s.base=base∧base<=blocks.length∧leTmps s live∧leBlocks s.blocks blocks∧
  (s.blocks.length=blocks.length∨(underTmps blocks.length live=true∧underBlocks blocks.length blocks=true))
attribute [simp] LeB
theorem zAL{n base:Nat}{live:List (Nat×AV)}{blocks:List (List AV)}(h:LeB s n base live blocks):s.Le (mkS n base live blocks):=by
 obtain⟨h1,h2,h3,h4,h5,h6⟩:=h
 refine Le.lit h1 h2 h3 h4.get h5 ?_
 rcases h6 with h6|⟨h6,h7⟩
 ·exact .inl h6
 ·exact .inr ⟨zJV h6,zFU h7⟩
def cutK(n base:Nat)(live:List (Nat×AV))(blocks:List (List AV))(Q:Exit->AState->Prop):Exit->AState->Prop
 |.normal,s=>LeB s n base live blocks
 |e,s=>Q e s
attribute [simp] cutK
theorem cut{x y:Code}(n base:Nat)(live:List (Nat×AV))(blocks:List (List AV))(h1:AWp P x (cutK n base live blocks Q) s)(h2:AWp P y Q (mkS n base live blocks)):
 AWp P (.seq x y) Q s:=
 zAD (zGA h1 fun e s' hq=>by
  cases e with
  |normal=>exact awp_le h2 (zAL hq)
  |_=>exact hq)
theorem last{x:Code}(n base:Nat)(live:List (Nat×AV))(blocks:List (List AV))(h1:AWp P x (cutK n base live blocks Q) s)
 (h2: ∀s',s'.Le (mkS n base live blocks)->Q .normal s'):AWp P x Q s:=
 zGA h1 fun e s' hq=>by
  cases e with
  |normal=>exact h2 s' (zAL hq)
  |_=>exact hq
def WL(P:Program)(ops:Array Oper)(Q:Exit->AState->Prop)(l:List Oper)(s:AState):Prop:=
 ∀F g a w,Sim F g s a w->wpList P ops (fun e a w=> ∃g s',Sim F g s' a w∧Q e s') l a w
theorem zAw(h:WL P ops Q ops.toList s.fresh):AWp P (.region id ops false) Q s:=
 fun F g a w hs=>wp_region_list (h F g a w hs.fresh)
theorem WL.cut{l:List Oper}(k:Nat)(n base:Nat)(live:List (Nat×AV))(blocks:List (List AV))
 (h1:AOps P ops (fun s'=>LeB s' n base live blocks) (l.take k) s) (h2:WL P ops Q (l.drop k) (mkS n base live blocks)):WL P ops Q l s:=fun F g a w hs=>by
 have:=AOps.sound_app (F:=F) (l2:=l.drop k) (Q:=fun e a w=> ∃g s',Sim F g s' a w∧Q e s') (fun g s a w hk hs=>by
  obtain⟨g',hs'⟩:=hs.le (zAL hk)
  exact h2 F g' a w hs') (l.take k) s g a w h1 hs
 rwa [List.take_append_drop] at this
theorem WL.last{l:List Oper}(h:AOps P ops (Q .normal) l s):WL P ops Q l s:=
 fun F g a w hs=>AOps.sound (K:=Q .normal) (fun g s a w hk hs=>⟨g,s,hs,hk⟩) _ _ _ _ _ h hs
theorem zEk{c:Operand}{x y:Code}{b:Bool}(hc:s.look c=.bool b)(hb:b=true)(h:AWp P x Q s):AWp P (.cond c x y) Q s:=
 zKn hc (fun _=>h) (fun e=>by rw[hb] at e;cases e)
theorem zEc{c:Operand}{x y:Code}{b:Bool}(hc:s.look c=.bool b)(hb:b=false)(h:AWp P y Q s):AWp P (.cond c x y) Q s:=
 zKn hc (fun e=>by rw[hb] at e;cases e) (fun _=>h)
theorem spc{c:Operand}{x y:Code}{b:Bool}{u v:Option α}{r:α}(h:(if b=true then u else v)=some r)(hc:s.look c=.bool b)(h1:b=true->u=some r->AWp P x Q s)(h2:b=false->v=some r->AWp P y Q s):AWp P (.cond c x y) Q s:=by
 cases b with
 |true=>exact zEk hc rfl (h1 rfl h)
 |false=>exact zEc hc rfl (h2 rfl h)
theorem zCA(t:Nat)(ht:elems (s.get t)=some l)(h:l.length<=281474976710656->AWp P c Q s):AWp P c Q s:=fun F g a w hs=>by
 obtain⟨_,_,_,_,hb,_⟩:=zG5 (hs.tmps t).1 ht
 exact h hb F g a w hs
theorem rep_short{l:List UInt8}(h:Rep imm σ (.str l) v):l.length<=1152921504606846976:=by cases h;assumption
theorem zJP(t:Nat){l:List UInt8}(ht:s.get t=.str l)(h:l.length<=1152921504606846976->AWp P c Q s):AWp P c Q s:=fun F g a w hs=>by
 have:=(hs.tmps t).1
 rw[show s.tmps t=.str l from ht] at this
 exact h (rep_short this) F g a w hs
theorem Sim.cellRep(h:Sim F g s a w){b o:Nat}{blk:List AV}{x:AV}(hb:s.blocks[b]? =some blk)(hx:blk[o]? =some x): ∃v,Rep g.imm g.σ x v:=by
 have hlt:b<g.σ.length:=by rw[h.sto.len];exact(zq1 hb).1
 obtain⟨c,ty,_,_,h3⟩:=h.sto.blk b blk _ hb (zq2 hlt)
 exact⟨_,(h3 o x hx).2.1⟩
theorem zCB(b o:Nat){blk:List AV}{x:AV}(hb:s.blocks[b]? =some blk)(hx:blk[o]? =some x)(hl:elems x=some l)
 (h:l.length<=281474976710656->AWp P c Q s):AWp P c Q s:=fun F g a w hs=>by
 obtain⟨v,hv⟩:=hs.cellRep hb hx
 obtain⟨_,_,_,_,h1,_⟩:=zG5 hv hl
 exact h h1 F g a w hs
theorem bs{α β:Type}{x:Option α}{f:α->Option β}{r:β}(h:x.bind f=some r): ∃v,x=some v∧f v=some r:=by
 cases x with
 |none=>cases h
 |some v=>exact⟨v,rfl,h⟩
theorem sp{c:Bool}{x y:Option α}{r:α}(h:(if c=true then x else y)=some r):(c=true∧x=some r)∨(c=false∧y=some r):=by
 cases c with
 |true=>exact .inl ⟨rfl,h⟩
 |false=>exact .inr ⟨rfl,h⟩
theorem tf(c:Bool):c=true∨c=false:=by cases c<;>simp
theorem ltT{a b:Int}(h:ltI a b=true):a<b:=of_decide_eq_true h
theorem ltF{a b:Int}(h:ltI a b=false):b<=a:=by have:=of_decide_eq_false h;omega
theorem leT{a b:Int}(h:leI a b=true):a<=b:=of_decide_eq_true h
theorem leF{a b:Int}(h:leI a b=false):b<a:=by have:=of_decide_eq_false h;omega
theorem eqT{a b:Int}(h:eqI a b=true):a=b:=of_decide_eq_true h
theorem eqF{a b:Int}(h:eqI a b=false):a≠b:=of_decide_eq_false h
theorem notT{b:Bool}(h:(!b)=true):b=false:=by cases b<;>simp_all
theorem notF{b:Bool}(h:(!b)=false):b=true:=by cases b<;>simp_all
theorem andT{a b:Bool}(h:(a&&b)=true):a=true∧b=true:=by cases a<;>simp_all
theorem orF{a b:Bool}(h:(a||b)=false):a=false∧b=false:=by cases a<;>simp_all
@[simp] theorem unU_nil:unU []=[]:=rfl
@[simp] theorem unU_cons(k:IntKind)(n:Int)(l:List (List AV)):unU ([.int k n]::l)=UInt8.ofNat n.toNat::unU l:=rfl
theorem oi{a b:α}(h:some a=some b):a=b:=zqa h
def bytesC(l:List UInt8):Option (List UInt8):=if l.length<=281474976710656 then some l else none
theorem zMP{l r:List UInt8}(h:bytesC l=some r):r.length<=281474976710656∧l=r:=by
 unfold bytesC at h
 split at h
 ·cases h;exact⟨by assumption,rfl⟩
 ·cases h
def chk(k:IntKind)(n:Int):Option Int:=if inR k n then some n else none
theorem zBj{n r:Int}(h:chk k n=some r):Rng k r∧n=r:=by
 unfold chk at h;split at h
 ·cases h;exact⟨‹_›,rfl⟩
 ·cases h
def idx{α:Type}(l:List α)(n:Int):Option α:=if 0<=n then l[n.toNat]? else none
theorem idx_ok{l:List α}{n:Int}{x:α}(h:idx l n=some x):0<=n∧l[n.toNat]? =some x:=by
 unfold idx at h;split at h
 ·exact⟨‹_›,h⟩
 ·cases h
def app{α:Type}(b:Nat)(x y:List α):Option (List α):=if 0<b∧(x.length+y.length)*b<=140737488355328 then some (x++y) else none
theorem zI7{b:Nat}{x y r:List α}(h:app b x y=some r):Fits b (x.length+y.length)∧r=x++y:=by
 unfold app at h;split at h
 ·cases h;exact⟨‹_›,rfl⟩
 ·cases h
theorem lit_ok{a v:α}(h:some a=some v):v=a∧True:=⟨(zqa h).symm,trivial⟩
def growC(b n:Int):Option Unit:=if 0<=n∧n*b<=140737488355328 then some () else none
theorem growC_ok{b n:Int}{u:Unit}(h:growC b n=some u):0<=n∧n*b<=140737488355328:=by
 unfold growC at h;split at h
 ·rename_i h0;exact h0
 ·cases h
def subC{α:Type}(l:List α)(a b:Int):Option (List α):=if 0<=a∧a<=b∧b<=l.length then some (sub l a b) else none
theorem zIs{l:List α}{a b:Int}{r:List α}(h:subC l a b=some r):InB a b l.length∧sub l a b=r:=by
 unfold subC at h;split at h
 ·cases h;exact⟨‹_›,rfl⟩
 ·cases h
attribute [simp] inR Value.cells
@[simp] theorem ba_size(a:Array UInt8):(ByteArray.mk a).size=a.size:=rfl
theorem okE_map{f:α->List AV}(hf: ∀x,(f x).length=n∧(f x).all AV.inert=true)(l:List α):zFr n (l.map f):=fun e h=>by
 obtain⟨x,_,rfl⟩:=List.mem_map.1 h;exact hf x
@[simp] theorem okE_nil(n:Nat):zFr n []:=fun e h=>by cases h
@[simp] theorem okE_cons(n:Nat)(e:List AV)(l:List (List AV)):zFr n (e::l)↔(e.length=n∧e.all AV.inert=true)∧zFr n l:=by
 unfold zFr;simp
@[simp] def cI(k:IntKind)(n:Int):List AV:=[.int k n]
@[simp] def cS(l:List UInt8):List AV:=[.str l]
@[simp] def cL{α:Type}(f:α->List AV)(l:List α):List AV:=[.sl (l.map f)]
@[simp] theorem okE_cS(l:List (List UInt8)):zFr 1 (l.map cS):=okE_map (fun x=>by simp) l
theorem zAC(h:Q .normal s):AWp P .skip Q s:=fun F g a w hs=>wp_skip ⟨g,s,hs,h⟩
theorem zAQ(h:Q (.exit id) s):AWp P (.exit id) Q s:=fun F g a w hs=>wp_exit ⟨g,s,hs,h⟩
theorem zAB(h:Q .ret s):AWp P .ret Q s:=fun F g a w hs=>wp_ret ⟨g,s,hs,h⟩
theorem zAM{y:Code}{s t:AState}(h:AWp P y Q t)(hs:s.Le t):seqK (AWp P y Q) Q .normal s:=awp_le h hs
theorem zAH{y:Code}(h:AWp P y Q s):seqK (AWp P y Q) Q .normal s:=h
theorem zLO{x y:Code}(n base:Nat)(live:List (Nat×AV))(blocks:List (List AV))(h1:AWp P y Q (mkS n base live blocks)->AWp P x (seqK (AWp P y Q) Q) s)(h2:AWp P y Q (mkS n base live blocks)):AWp P (.seq x y) Q s:=zAD (h1 h2)
theorem joinS{R V:Type}{x y:Code}(o:R ⊕ V)(n base:Nat)(live:V->List (Nat×AV))(blocks:V->List (List AV))(h1:(∀v,o=.inr v->AWp P y Q (mkS n base (live v) (blocks v)))->AWp P x (seqK (AWp P y Q) Q) s)
 (h2: ∀v,o=.inr v->AWp P y Q (mkS n base (live v) (blocks v))):AWp P (.seq x y) Q s:=zAD (h1 h2)
theorem zC1(h:Q .normal s):blockK id Q .normal s:=h
theorem zAG{N:AState->Prop}(h:Q (.exit id) s):seqK N Q (.exit id) s:=h
theorem zAS(h:Q .normal s):blockK id Q (.exit id) s:=by
 show(if id=id then Q .normal s else Q (.exit id) s);rw[if_pos rfl];exact h
theorem zAE{N:AState->Prop}(h:Q .ret s):seqK N Q .ret s:=h
theorem zAK(h:Q .ret s):blockK id Q .ret s:=h
theorem retL{R V A:Type}{a:R}{o:R ⊕ V}{f:R->Option A}{g:V->Option A}{r:A}(l:some (Sum.inl a)=some o)(h:Sum.elim f g o=some r):f a=some r:=by cases l;exact h
theorem zF0{R V A:Type}{v:V}{f:R->Option A}{g:V->Option A}{r:A}(h:Sum.elim f g (.inr v)=some r):g v=some r:=h
def EndB(s:AState)(bs:List (List AV)):Prop:=s.base<=bs.length∧leBlocks s.blocks bs∧(s.blocks.length=bs.length∨underBlocks bs.length bs=true)
attribute [simp] EndB
theorem EndB.le{bs:List (List AV)}(h:EndB s bs):s.Le (endS s bs) where
 tmps:=fun t=>by show leAV _ .top;cases s.tmps t<;>simp
 loans:=fun t=>rfl
 n:=rfl
 base:=rfl
 hbase:=h.1
 short:=h.2.1.get.1
 blocks:=fun b blk' hb'=>by
  obtain⟨blk,e1,e2⟩:=h.2.1.get.2 b blk' hb'
  exact⟨blk,e1,e2.get.1,e2.get.2⟩
 below:=by
  rcases h.2.2 with h1|h1
  ·exact .inl h1.symm
  ·exact .inr ⟨fun t=>by simp[endS],zJR (zFU h1)⟩
theorem zAq {bs bs':List (List AV)} (hf:P.funcs[f]? =some fn) (hname:(fn.name== "runtime.NumGoroutine")=false) (hb:fn.body=some c)
 (hn:args.length<=fn.ntmps) (hown:args.all (fun x=> !x.owns)=true)
 (h:AWp P c (Ret P fn fun r s=>r=res∧EndB s bs'∧(bs'.length=s.blocks.length∨res.under bs'.length=true)) (start fn.ntmps bs.length args bs)):Raw P f args bs res bs':=
 raw_of_body hf hname hb hn hown fun _=>zGA h fun e s hq=>by
  cases e with
  |normal=>
   simp only[Ret] at hq ⊢
   split at hq
   ·exact⟨hq.1,hq.2.1,hq.2.2.1.le,hq.2.2.2⟩
   ·exact hq.elim
  |ret=>
   simp only[Ret] at hq ⊢
   split at hq
   ·exact⟨hq.1,hq.2.1,hq.2.2.1.le,hq.2.2.2⟩
   ·exact hq.elim
  |_=>exact hq
mutual
def AV.ren(f:Nat->Nat):AV->AV
 |.mptr b o=>.mptr (f b) o
 |.baddr t b=>.baddr t (f b)
 |.msl b e n=>.msl (f b) e n
 |.fn g fs cs=>.fn g (AV.renL f fs) (AV.renL f cs)
 |.iface t v=>.iface t (v.ren f)
 |.agg cs=>.agg (AV.renL f cs)
 |.tup cs=>.tup (AV.renL f cs)
 |.otup ec l cs=>.otup ec l (AV.renL f cs)
 |x=>x
def AV.renL(f:Nat->Nat):List AV->List AV
 |[]=>[]
 |x::l=>x.ren f::AV.renL f l
end
theorem zEP(f:Nat->Nat): ∀(l:List AV)(i:Nat),(AV.renL f l)[i]? =l[i]?.map (AV.ren f)
 |[],i=>by simp[AV.renL]
 |x::l,0=>by simp[AV.renL]
 |x::l,i+1=>by simp[AV.renL,zEP f l i]
theorem zBe(f:Nat->Nat): ∀l:List AV,(AV.renL f l).length=l.length
 |[]=>rfl
 |x::l=>by simp[AV.renL,zBe f l]
theorem ren_one(f:Nat->Nat)(x:AV):(x.ren f).one=x.one:=by cases x<;>simp[AV.ren]
theorem ren_owns(f:Nat->Nat)(x:AV):(x.ren f).owns=x.owns:=by cases x<;>simp[AV.ren]
theorem zKG(f:Nat->Nat)(x:AV)(ty:TypeId){e e':Prop}(he:e=e'):(x.ren f).cellOk ty e↔x.cellOk ty e':=by
 subst he
 unfold AV.cellOk
 rw[ren_one]
 constructor
 ·rintro(h|⟨h0,b,h⟩)
  ·exact .inl h
  ·cases x<;>simp[AV.ren] at h
   exact .inr ⟨h0,_,by rw[h.1]⟩
 ·rintro(h|⟨h0,b,h⟩)
  ·exact .inl h
  ·subst h;exact .inr ⟨h0,_,rfl⟩
theorem Rep.ren{σ σ':List Nat}{f:Nat->Nat}(hf: ∀(b k:Nat),σ[b]? =some k->σ'[f b]? =some k){x:AV}(h:Rep imm σ x v):Rep imm σ' (x.ren f) v:=by
 induction h generalizing σ' with
 |int k n hb=>exact .int k n hb
 |bool b=>exact .bool b
 |str s l h hb=>exact .str s l h hb
 |nilp=>exact .nilp
 |mptr b off k h=>exact .mptr _ off k (hf _ _ h)
 |baddr0 t b h=>exact .baddr0 t _ (zq1 (hf b _ (zq2 h))).1
 |baddr t b k h=>exact .baddr t _ k (hf _ _ h)
 |msl b ec n k cap h hc hbd=>exact .msl _ ec n k cap (hf _ _ h) hc hbd
 |e0 b=>exact .e0 b
 |omp ks vs k=>exact .omp ks vs k
 |mpx o=>exact .mpx o
 |cptr cells a vs h r _=>exact .cptr cells a vs h r
 |nsl=>exact .nsl
 |osl0 ec=>exact .osl0 ec
 |osq0 ec=>exact .osq0 ec
 |osl ec l a n cap vs hn hc hbd he h r _=>exact .osl ec l a n cap vs hn hc hbd he h r
 |osq ec l a n cap vs hn hc hbd he h r _=>exact .osq ec l a n cap vs hn hc hbd he h r
 |sl0=>exact .sl0
 |sl ec l a n cap vs hn hc hbd he h r _=>exact .sl ec l a n cap vs hn hc hbd he h r
 |fn g fs cs fv cv hf' hc _ _ ihf ihc=>
  refine .fn g _ _ fv cv (by rw[zBe];exact hf') (by rw[zBe];exact hc) (fun i x hx=>?_) (fun i x hx=>?_)
  ·rw[zEP] at hx
   cases hy:fs[i]? with
   |none=>rw[hy] at hx;cases hx
   |some y=>rw[hy] at hx;cases hx;exact ihf i y hy hf
  ·rw[zEP] at hx
   cases hy:cs[i]? with
   |none=>rw[hy] at hx;cases hx
   |some y=>rw[hy] at hx;cases hx;exact ihc i y hy hf
 |nilfn=>exact .nilfn
 |iface t x v _ ih=>exact .iface t _ v (ih hf)
 |nilif=>exact .nilif
 |agg cs vs hs' _ ih=>
  refine .agg _ vs (by rw[zBe];exact hs') (fun i x hx=>?_)
  rw[zEP] at hx
  cases hy:cs[i]? with
  |none=>rw[hy] at hx;cases hx
  |some y=>rw[hy] at hx;cases hx;exact ih i y hy hf
 |tup cs vs hs' _ ih=>
  refine .tup _ vs (by rw[zBe];exact hs') (fun i x hx=>?_)
  rw[zEP] at hx
  cases hy:cs[i]? with
  |none=>rw[hy] at hx;cases hx
  |some y=>rw[hy] at hx;cases hx;exact ih i y hy hf
 |otup ec l cs vs hs' _ _ ih0 ih=>
  refine .otup ec l _ vs (by rw[zBe];exact hs') (ih0 hf) (fun i x hx=>?_)
  rw[zEP] at hx
  cases hy:cs[i]? with
  |none=>rw[hy] at hx;cases hx
  |some y=>rw[hy] at hx;cases hx;exact ih i y hy hf
 |top v=>exact .top v
theorem Rep.unren{σ σ':List Nat}{f:Nat->Nat}{m:Nat}(hf: ∀(b:Nat),b<m->σ'[b]? =σ[f b]?){y:AV}(h:Rep imm σ y v):
 ∀x:AV,y=x.ren f->x.under m=true->m<=σ'.length->Rep imm σ' x v:=by
 induction h generalizing σ' with
 |int k n hb=>intro x e hu hm;cases x<;>simp[AV.ren] at e;obtain⟨rfl,rfl⟩:=e;exact .int _ _ hb
 |bool b=>intro x e hu hm;cases x<;>simp[AV.ren] at e;subst e;exact .bool _
 |str s l h hb=>intro x e hu hm;cases x<;>simp[AV.ren] at e;subst e;exact .str s _ h hb
 |nilp=>intro x e hu hm;cases x<;>simp[AV.ren] at e;exact .nilp
 |mptr b off k h=>
  intro x e hu hm;cases x<;>simp[AV.ren] at e
  rename_i b' off'
  obtain⟨rfl,rfl⟩:=e
  simp only[AV.under,decide_eq_true_eq] at hu
  exact .mptr _ _ k (by rw[hf _ hu];exact h)
 |baddr0 t b h=>
  intro x e hu hm;cases x<;>simp[AV.ren] at e
  rename_i t' b'
  obtain⟨rfl,rfl⟩:=e
  simp only[AV.under,decide_eq_true_eq] at hu
  exact .baddr0 _ _ (by omega)
 |baddr t b k h=>
  intro x e hu hm;cases x<;>simp[AV.ren] at e
  rename_i t' b'
  obtain⟨rfl,rfl⟩:=e
  simp only[AV.under,decide_eq_true_eq] at hu
  exact .baddr _ _ k (by rw[hf _ hu];exact h)
 |msl b ec n k cap h hc hbd=>
  intro x e hu hm;cases x<;>simp[AV.ren] at e
  rename_i b' ec' n'
  obtain⟨rfl,rfl,rfl⟩:=e
  simp only[AV.under,decide_eq_true_eq] at hu
  exact .msl _ _ _ k cap (by rw[hf _ hu];exact h) hc hbd
 |e0 b=>intro x e hu hm;cases x<;>simp[AV.ren] at e;exact .e0 b
 |omp ks vs k=>intro x e hu hm;cases x<;>simp[AV.ren] at e;obtain⟨rfl,rfl⟩:=e;exact .omp _ _ k
 |mpx o=>intro x e hu hm;cases x<;>simp[AV.ren] at e;exact .mpx o
 |cptr cells a vs h r _=>intro x e hu hm;cases x<;>simp[AV.ren] at e;subst e;exact .cptr _ a vs h r
 |nsl=>intro x e hu hm;cases x<;>simp[AV.ren] at e;exact .nsl
 |osl0 ec=>intro x e hu hm;cases x<;>simp[AV.ren] at e;obtain⟨rfl,rfl⟩:=e;exact .osl0 _
 |osq0 ec=>intro x e hu hm;cases x<;>simp[AV.ren] at e;obtain⟨rfl,rfl⟩:=e;exact .osq0 _
 |osl ec l a n cap vs hn hc hbd he h r _=>intro x e hu hm;cases x<;>simp[AV.ren] at e;obtain⟨rfl,rfl⟩:=e;exact .osl _ _ a n cap vs hn hc hbd he h r
 |osq ec l a n cap vs hn hc hbd he h r _=>intro x e hu hm;cases x<;>simp[AV.ren] at e;obtain⟨rfl,rfl⟩:=e;exact .osq _ _ a n cap vs hn hc hbd he h r
 |sl0=>intro x e hu hm;cases x<;>simp[AV.ren] at e;subst e;exact .sl0
 |sl ec l a n cap vs hn hc hbd he h r _=>intro x e hu hm;cases x<;>simp[AV.ren] at e;subst e;exact .sl ec _ a n cap vs hn hc hbd he h r
 |fn g fs cs fv cv hf' hc _ _ ihf ihc=>
  intro x e hu hm;cases x<;>simp[AV.ren] at e
  rename_i g' fs' cs'
  obtain⟨rfl,rfl,rfl⟩:=e
  simp only[AV.under,zq7] at hu
  refine .fn _ _ _ fv cv (by rw[zBe] at hf';exact hf') (by rw[zBe] at hc;exact hc) (fun i x hx=>?_) (fun i x hx=>?_)
  ·exact ihf i _ (by rw[zEP,hx];rfl) hf x rfl (zC5 hu.1 hx) hm
  ·exact ihc i _ (by rw[zEP,hx];rfl) hf x rfl (zC5 hu.2 hx) hm
 |nilfn=>intro x e hu hm;cases x<;>simp[AV.ren] at e;exact .nilfn
 |iface t x v _ ih=>
  intro y e hu hm;cases y<;>simp[AV.ren] at e
  obtain⟨rfl,rfl⟩:=e
  exact .iface _ _ v (ih hf _ rfl (by simpa[AV.under] using hu) hm)
 |nilif=>intro x e hu hm;cases x<;>simp[AV.ren] at e;exact .nilif
 |agg cs vs hs' _ ih=>
  intro x e hu hm;cases x<;>simp[AV.ren] at e
  subst e
  refine .agg _ vs (by rw[zBe] at hs';exact hs') (fun i x hx=>?_)
  exact ih i _ (by rw[zEP,hx];rfl) hf x rfl (zC5 (by simpa[AV.under] using hu) hx) hm
 |tup cs vs hs' _ ih=>
  intro x e hu hm;cases x<;>simp[AV.ren] at e
  subst e
  refine .tup _ vs (by rw[zBe] at hs';exact hs') (fun i x hx=>?_)
  exact ih i _ (by rw[zEP,hx];rfl) hf x rfl (zC5 (by simpa[AV.under] using hu) hx) hm
 |otup ec l cs vs hs' _ _ ih0 ih=>
  intro x e hu hm;cases x<;>simp[AV.ren] at e
  obtain⟨rfl,rfl,rfl⟩:=e
  refine .otup _ _ _ vs (by rw[zBe] at hs';exact hs') (ih0 hf (.osl _ _) rfl rfl hm) (fun i x hx=>?_)
  exact ih i _ (by rw[zEP,hx];rfl) hf x rfl (zC5 (by simpa[AV.under] using hu) hx) hm
 |top v=>intro x e hu hm;cases x<;>simp[AV.ren] at e;exact .top v
theorem OwnsBy.ren{x:AV}(f:Nat->Nat):OwnsBy imm w bo (x.ren f) v↔OwnsBy imm w bo x v:=by
 cases x<;>simp[AV.ren,OwnsBy]
def zDy(ρ:List Nat)(n:Nat)(j:Nat):Nat:=ρ.getD j (n+(j-ρ.length))
def lay(f:Nat->Nat):List Nat->List (List AV)->List (List AV)->List (List AV)
 |[],l,bs=>bs++l.map (AV.renL f)
 |r::ρ,b::l,bs=>lay f ρ l (bs.set r (AV.renL f b))
 |_::_,[],bs=>bs
def zLA(f:Nat->Nat)(bs:List (List AV)):List Nat->List (List AV)->Prop
 |[],[]=>True
 |r::ρ,b::l=>bs[r]? =some (AV.renL f b)∧zLA f bs ρ l
 |_,_=>False
def noDup:List Nat->Bool
 |[]=>true
 |r::l=> !(l.contains r)&&noDup l
theorem zKT: ∀{l:List Nat},noDup l=true->l.Nodup
 |[],_=>List.nodup_nil
 |r::l,h=>by
  simp only[noDup,zq7,Bool.not_eq_true',List.contains_eq_mem,decide_eq_false_iff_not] at h
  exact List.nodup_cons.2 ⟨h.1,zKT h.2⟩
def zLY(ρ:List Nat)(args:List AV)(bS bs:List (List AV)):Prop:=
 noDup ρ=true∧AV.underL bS.length args=true∧underBlocks bS.length bS=true∧zLA (zDy ρ bs.length) bs ρ bS
theorem zGP{f:Nat->Nat}{bs:List (List AV)}: ∀{ρ:List Nat}{l:List (List AV)},zLA f bs ρ l->ρ.length=l.length
 |[],[],_=>rfl
 |r::ρ,b::l,h=>by simp[zGP h.2]
 |[],_::_,h=>h.elim
 |_::_,[],h=>h.elim
theorem zIt{f:Nat->Nat}{bs:List (List AV)}: ∀{ρ:List Nat}{l:List (List AV)},zLA f bs ρ l->∀(j r:Nat) b,ρ[j]? =some r->l[j]? =some b->bs[r]? =some (AV.renL f b)
 |[],[],_,j,r,b,h1,h2=>by simp at h1
 |r::ρ,b::l,h,j,r',b',h1,h2=>by
  cases j with
  |zero=>simp at h1 h2;subst h1;subst h2;exact h.1
  |succ j=>exact zIt h.2 j r' b' (by simpa using h1) (by simpa using h2)
 |[],_::_,h,_,_,_,_,_=>h.elim
 |_::_,[],h,_,_,_,_,_=>h.elim
theorem lay_length(f:Nat->Nat): ∀(ρ:List Nat)(l bs:List (List AV)),ρ.length<=l.length->(lay f ρ l bs).length=bs.length+(l.length-ρ.length)
 |[],l,bs,_=>by simp[lay]
 |r::ρ,b::l,bs,h=>by
  simp only[lay]
  rw[lay_length f ρ l _ (by simpa using h)]
  simp
 |_::_,[],bs,h=>by simp at h
theorem zH5(f:Nat->Nat): ∀(ρ:List Nat)(l bs:List (List AV))(b:Nat),b∉ρ->b<bs.length->(lay f ρ l bs)[b]? =bs[b]?
 |[],l,bs,b,_,h=>by simp[lay,List.getElem?_append_left h]
 |r::ρ,x::l,bs,b,h1,h2=>by
  simp only[List.mem_cons,not_or] at h1
  simp only[lay]
  rw[zH5 f ρ l _ b h1.2 (by simpa using h2),List.getElem?_set_ne (fun e=>h1.1 e.symm)]
 |_::_,[],bs,b,_,_=>rfl
theorem lay_at(f:Nat->Nat): ∀(ρ:List Nat)(l bs:List (List AV))(j r:Nat),ρ.Nodup->(∀q,q∈ρ->q<bs.length)->ρ.length<=l.length->ρ[j]? =some r->(lay f ρ l bs)[r]? =l[j]?.map (AV.renL f)
 |[],l,bs,j,r,_,_,_,h=>by simp at h
 |q::ρ,x::l,bs,j,r,hn,hq,hl,h=>by
  simp only[lay]
  have hn':=List.nodup_cons.1 hn
  cases j with
  |zero=>
   simp at h;subst h
   rw[zH5 f ρ l _ q hn'.1 (by simpa using hq q (zq9 ..))]
   rw[List.getElem?_set_self (hq q (zq9 ..))];rfl
  |succ j=>
   rw[lay_at f ρ l _ j r hn'.2 (fun y hy=>by simpa using hq y (zqc _ hy)) (by simpa using hl) (by simpa using h)]
   simp
 |_::_,[],bs,j,r,_,_,hl,_=>by simp at hl
theorem lay_new(f:Nat->Nat): ∀(ρ:List Nat)(l bs:List (List AV))(j:Nat),ρ.length<=l.length->(lay f ρ l bs)[bs.length+j]? =l[ρ.length+j]?.map (AV.renL f)
 |[],l,bs,j,_=>by simp only[lay];rw[List.getElem?_append_right (by omega)];simp
 |r::ρ,x::l,bs,j,h=>by
  simp only[lay]
  have:=lay_new f ρ l (bs.set r (AV.renL f x)) j (by simpa using h)
  rw[List.length_set] at this
  rw[this,List.length_cons,show ρ.length+1+j=(ρ.length+j)+1 by omega,List.getElem?_cons_succ]
 |_::_,[],bs,j,h=>by simp at h
def Gh.small(g:Gh)(ρ:List Nat):Gh where
 imm:=g.imm
 σ:=ρ.map fun b=>g.σ.getD b 0
 own:=fun p=>match p with
  |.cell j o=>match ρ[j]? with
   |some b=>g.own (.cell b o)
   |none=>none
  |.tmp _=>none
theorem small_σ(hlt: ∀q,q∈ρ->q<g.σ.length)(j:Nat):(g.small ρ).σ[j]? =(ρ[j]?).bind fun b=>g.σ[b]? :=by
 simp only[Gh.small,List.getElem?_map]
 cases h:ρ[j]? with
 |none=>rfl
 |some b=>
  have:=hlt b (zq3 h)
  simp only[Option.map_some,Option.bind_some]
  rw[zB7 0 this]
theorem zLP{l:List α}(h:l.Nodup){i j:Nat}{x:α}(hi:l[i]? =some x)(hj:l[j]? =some x):i=j:=by
 obtain⟨h1,e1⟩:=zq1 hi
 obtain⟨h2,e2⟩:=zq1 hj
 exact(List.getElem_inj h).1 (e1.trans e2.symm)
theorem sto_small{bs bS:List (List AV)}(h:Sto g bs w)(hn:ρ.Nodup)(hs:zLA (zDy ρ bs.length) bs ρ bS)(hu:underBlocks bS.length bS=true):Sto (g.small ρ) bS w:=by
 have hlen:=zGP hs
 have hget:=fun j r b h1 h2=>zIt hs j r b h1 h2
 have hlt: ∀q,q∈ρ->q<g.σ.length:=fun q hq=>by
  obtain⟨j,hj⟩:=zqd hq
  have hj':j<bS.length:=by rw[<-hlen];exact(zq1 hj).1
  have:=hget j q _ hj (zq2 hj')
  rw[h.len];exact(zq1 this).1
 have hσ:=small_σ (g:=g) hlt
 refine {gok:=h.gok,imm:=h.imm,immσ:=fun x v hx hm=>?_,len:=by simp[Gh.small,hlen],nodup:=?_,blk:=fun j blk k hb hk=>?_,ownσ:=fun p k hp=>?_,ownInj:=fun p q k hp hq=>?_}
 ·obtain⟨j,hj⟩:=zqd hm
  rw[hσ] at hj
  cases hr:ρ[j]? with
  |none=>rw[hr] at hj;cases hj
  |some b=>rw[hr] at hj;exact h.immσ x v hx (zq3 hj)
 ·rw[List.nodup_iff_pairwise_ne,List.pairwise_iff_getElem]
  intro i j hi hj hij e
  have e1:(g.small ρ).σ[i]? =some ((g.small ρ).σ[i]):=zq2 hi
  have e2:(g.small ρ).σ[j]? =some ((g.small ρ).σ[j]):=zq2 hj
  rw[<-e] at e2
  rw[hσ] at e1 e2
  cases h1:ρ[i]? with
  |none=>rw[h1] at e1;cases e1
  |some a=>
   cases h2:ρ[j]? with
   |none=>rw[h2] at e2;cases e2
   |some b=>
    rw[h1] at e1;rw[h2] at e2
    have:=zLP h.nodup e1 e2
    subst this
    have:=zLP hn h1 h2
    omega
 ·rw[hσ] at hk
  cases hr:ρ[j]? with
  |none=>rw[hr] at hk;cases hk
  |some b=>
   rw[hr] at hk
   obtain⟨c,ty,h1,h2,h3⟩:=h.blk b _ k (hget j b blk hr hb) hk
   refine⟨c,ty,h1,by rw[zBe] at h2;exact h2,fun o x hx=>?_⟩
   obtain⟨p1,p2,p3⟩:=h3 o (x.ren (zDy ρ bs.length)) (by rw[zEP,hx];rfl)
   refine⟨(zKG _ _ _ (by rw[zBe])).1 p1,?_,?_⟩
   ·refine p2.unren (m:=bS.length) (fun b' hb'=>?_) x rfl (zC5 (zFU hu blk (zq3 hb)) hx) (by simp[Gh.small,hlen])
    have: ∃r,ρ[b']? =some r:=⟨_,zq2 (by rw[hlen];exact hb')⟩
    obtain⟨r,hr'⟩:=this
    rw[hσ,hr']
    simp only[Option.bind_some,zDy,zq5,hr',Option.getD_some]
   ·have:(g.small ρ).own (.cell j o)=g.own (.cell b o):=by simp[Gh.small,hr]
    rw[this]
    exact(OwnsBy.ren _).1 p3
 ·have: ∃q,g.own q=some k:=by
   cases p with
   |tmp t=>cases hp
   |cell j o=>
    simp only[Gh.small] at hp
    split at hp
    ·exact⟨_,hp⟩
    ·cases hp
  obtain⟨q,hq⟩:=this
  refine⟨fun hm=>?_,(h.ownσ q k hq).2⟩
  obtain⟨j,hj⟩:=zqd hm
  rw[hσ] at hj
  cases hr:ρ[j]? with
  |none=>rw[hr] at hj;cases hj
  |some b=>rw[hr] at hj;exact(h.ownσ q k hq).1 (zq3 hj)
 ·cases p with
  |tmp t=>cases hp
  |cell j o=>
   cases q with
   |tmp t=>cases hq
   |cell j' o'=>
    simp only[Gh.small] at hp hq
    cases h1:ρ[j]? with
    |none=>rw[h1] at hp;cases hp
    |some b=>
     cases h2:ρ[j']? with
     |none=>rw[h2] at hq;cases hq
     |some b'=>
      rw[h1] at hp;rw[h2] at hq
      have:=h.ownInj _ _ k hp hq
      cases this
      rw[zLP hn h1 h2]
def Gh.large(g gS:Gh)(ρ:List Nat):Gh where
 imm:=gS.imm
 σ:=g.σ++gS.σ.drop ρ.length
 own:=fun p=>match p with
  |.cell b o=>if b<g.σ.length then (match ρ.idxOf? b with
   |some j=>gS.own (.cell j o)
   |none=>g.own (.cell b o))
   else gS.own (.cell (b-g.σ.length+ρ.length) o)
  |.tmp _=>none
theorem idxOf_some{b j:Nat}(h:ρ.idxOf? b=some j):ρ[j]? =some b:=by
 obtain⟨hj,h1,_⟩:=List.idxOf?_eq_some_iff.1 h
 rw[zq2 hj,h1]
theorem idxOf_none{b:Nat}(h:ρ.idxOf? b=none):b∉ρ:=List.idxOf?_eq_none_iff.1 h
def RawG(P:Program)(f:FuncId)(args:List AV)(bs:List (List AV))(Rr:Ending->(Addr->Option Value)->List Nat->Prop)(bs':List (List AV))(kept:Nat->Prop):Prop:=
 Enters P f∧∀(g:Gh)(w:World)(vals:Array Value),Sto g bs w->(∀t,g.own (.tmp t)=none)->TG g w->RepL g.imm g.σ args vals->
  Calls P f vals w fun e w'=> ∃g',Rr e g'.imm g'.σ∧Sto g' bs' w'∧Ext ⟨w,g⟩ g' w'∧(∀t,g'.own (.tmp t)=none)∧∀(b k:Nat),kept b->g.σ[b]? =some k->w'.heap[k]? =w.heap[k]?
theorem RawG.frameK{bS bS':List (List AV)}{Rr Rr':Ending->(Addr->Option Value)->List Nat->Prop}(h:RawG P f args bS Rr bS' (fun _=>False))(ρ:List Nat)(bs:List (List AV))(hok:zLY ρ args bS bs)
 (hR: ∀e imm (σ σ':List Nat),(∀(b k:Nat),σ[b]? =some k->σ'[zDy ρ bs.length b]? =some k)->Rr e imm σ->Rr' e imm σ'):
 RawG P f (AV.renL (zDy ρ bs.length) args) bs Rr' (lay (zDy ρ bs.length) ρ bS' bs) (fun b=>b∉ρ):=by
 obtain⟨hn0,hua,hub,hs⟩:=hok
 have hn:=zKT hn0
 refine⟨h.1,fun g w vals hst h0 htg ha=>?_⟩
 have hlen:=zGP hs
 have hlt: ∀q,q∈ρ->q<bs.length:=fun q hq=>by
  obtain⟨j,hj⟩:=zqd hq
  have hj':j<bS.length:=by rw[<-hlen];exact(zq1 hj).1
  have:=zIt hs j q _ hj (zq2 hj')
  exact(zq1 this).1
 have hltσ: ∀q,q∈ρ->q<g.σ.length:=fun q hq=>by rw[hst.len];exact hlt q hq
 have hσ:=small_σ (g:=g) hltσ
 have hS:=sto_small hst hn hs hub
 have hplace: ∀(j r:Nat),ρ[j]? =some r->zDy ρ bs.length j=r:=fun j r hr=>by
  simp only[zDy,zq5,hr,Option.getD_some]
 have haS:RepL (g.small ρ).imm (g.small ρ).σ args vals:=by
  refine⟨by rw[ha.1,zBe],fun i x hx=>?_⟩
  refine(ha.2 i (x.ren (zDy ρ bs.length)) (by rw[zEP,hx];rfl)).unren (m:=bS.length) (fun b' hb'=>?_) x rfl (zC5 hua hx) (by simp[Gh.small,hlen])
  obtain⟨r,hr⟩: ∃r,ρ[b']? =some r:=⟨_,zq2 (by rw[hlen];exact hb')⟩
  rw[hσ,hr,hplace _ _ hr];rfl
 have htS:TG (g.small ρ) w:=⟨htg.1,fun k hk=>by
  obtain⟨j,hj⟩:=zqd hk
  rw[hσ] at hj
  cases hr:ρ[j]? with
  |none=>rw[hr] at hj;cases hj
  |some b=>rw[hr] at hj;exact htg.2.1 k (zq3 hj),fun p k hk=>by
  cases p with
  |tmp t=>cases hk
  |cell j o=>
   simp only[Gh.small] at hk
   split at hk
   ·exact htg.2.2 _ k hk
   ·cases hk⟩
 refine(h.2 (g.small ρ) w vals hS (fun t=>rfl) htS haS).mono ?_
 rintro e w' ⟨gS,hv,hsto,hext,htmp,_⟩
 have hT: ∀k,Fx.T ⟨w,g.small ρ⟩ k->(k∈(g.small ρ).σ)∨∃(j b o:Nat),ρ[j]? =some b∧g.own (.cell b o)=some k:=by
  rintro k (hk|⟨j,o,hk⟩)
  ·exact .inl hk
  ·simp only[Gh.small] at hk
   split at hk
   ·rename_i b hb;exact .inr ⟨j,b,o,hb,hk⟩
   ·cases hk
 have hsub: ∀k,k∈(g.small ρ).σ->k∈g.σ:=fun k hk=>by
  obtain⟨j,hj⟩:=zqd hk
  rw[hσ] at hj
  cases hr:ρ[j]? with
  |none=>rw[hr] at hj;cases hj
  |some b=>rw[hr] at hj;exact zq3 hj
 have hTg: ∀k,Fx.T ⟨w,g.small ρ⟩ k->Fx.T ⟨w,g⟩ k:=fun k hk=>by
  rcases hT k hk with h1|⟨j,b,o,_,h2⟩
  ·exact .inl (hsub k h1)
  ·exact .inr ⟨b,o,h2⟩
 have hmine: ∀k,Fx.mine ⟨w,g.small ρ⟩ k->Fx.mine ⟨w,g⟩ k:=fun k hk=>hk.imp id (hTg k)
 have hpre: ∀(j k:Nat),(g.small ρ).σ[j]? =some k->gS.σ[j]? =some k:=hext.σ
 have hlenS:(g.small ρ).σ.length=ρ.length:=by simp[Gh.small]
 have hgeS:ρ.length<=gS.σ.length:=by
  rcases Nat.lt_or_ge gS.σ.length ρ.length with h1|h1
  ·have h2:=zq2 (show gS.σ.length<(g.small ρ).σ.length by rw[hlenS];exact h1)
   have h3:=(zq1 (hpre _ _ h2)).1
   omega
  ·exact h1
 have hge:ρ.length<=bS'.length:=by rw[<-hsto.len];exact hgeS
 have hpreρ: ∀(j b:Nat),ρ[j]? =some b->gS.σ[j]? =g.σ[b]? :=fun j b hr=>by
  have h1:=hσ j
  rw[hr] at h1
  have hb:=hltσ b (zq3 hr)
  simp only[Option.bind_some] at h1
  rw[zq2 hb] at h1 ⊢
  exact hpre _ _ h1
 have hfr: ∀(b k:Nat),g.σ[b]? =some k->b∉ρ->¬Fx.T ⟨w,g.small ρ⟩ k:=fun b k hk hb ht=>by
  rcases hT k ht with h1|⟨j,b',o,_,h2⟩
  ·obtain⟨j,hj⟩:=zqd h1
   rw[hσ] at hj
   cases hr:ρ[j]? with
   |none=>rw[hr] at hj;cases hj
   |some b'=>
    rw[hr] at hj
    have:=zLP hst.nodup hk hj
    subst this
    exact hb (zq3 hr)
  ·exact(hst.ownσ _ k h2).1 (zq3 hk)
 have hfo: ∀(b o k:Nat),g.own (.cell b o)=some k->b∉ρ->¬Fx.T ⟨w,g.small ρ⟩ k:=fun b o k hk hb ht=>by
  rcases hT k ht with h1|⟨j,b',o',hr,h2⟩
  ·exact(hst.ownσ _ k hk).1 (hsub k h1)
  ·have:=hst.ownInj _ _ k hk h2
   cases this
   exact hb (zq3 hr)
 have hnewmem: ∀k,k∈gS.σ.drop ρ.length->k∈gS.σ∧k∉(g.small ρ).σ:=fun k hk=>by
  refine⟨List.mem_of_mem_drop hk,fun hm=>?_⟩
  obtain⟨j,hj⟩:=zqd hm
  obtain⟨i,hi⟩:=zqd hk
  rw[List.getElem?_drop] at hi
  have:=zLP hsto.nodup (hpre j k hj) hi
  have hj':=(zq1 hj).1
  rw[hlenS] at hj'
  omega
 have hnewold: ∀k,k∈gS.σ.drop ρ.length->k∉g.σ:=fun k hk hm=>by
  obtain⟨h1,h2⟩:=hnewmem k hk
  rcases hext.mineσ k h1 with h3|h3
  ·exact absurd (hst.σ_lt hm) (Nat.not_lt.2 h3)
  ·rcases hT k h3 with h4|⟨j,b,o,_,h5⟩
   ·exact h2 h4
   ·exact(hst.ownσ _ k h5).1 hm
 have hownNew: ∀(j o k:Nat),gS.own (.cell j o)=some k->k∉g.σ:=fun j o k hk hm=>by
  rcases hext.mineOwn _ k hk with h3|h3
  ·exact absurd (hst.σ_lt hm) (Nat.not_lt.2 h3)
  ·rcases hT k h3 with h4|⟨j',b,o',_,h5⟩
   ·obtain⟨i,hi⟩:=zqd h4
    exact(hsto.ownσ _ k hk).1 (zq3 (hpre i k hi))
   ·exact(hst.ownσ _ k h5).1 hm
 have hnum: ∀(j k:Nat),gS.σ[j]? =some k->(g.large gS ρ).σ[zDy ρ bs.length j]? =some k:=fun j k hk=>by
  simp only[Gh.large]
  cases hr:ρ[j]? with
  |some b=>
   rw[hplace j b hr,List.getElem?_append_left (hltσ b (zq3 hr)),<-hpreρ j b hr];exact hk
  |none=>
   have hj:ρ.length<=j:=List.getElem?_eq_none_iff.1 hr
   simp only[zDy,zq5,hr,Option.getD_none]
   rw[<-hst.len,List.getElem?_append_right (by omega),List.getElem?_drop,show ρ.length+(g.σ.length+(j-ρ.length)-g.σ.length)=j by omega];exact hk
 have hownρ: ∀(j b o:Nat),ρ[j]? =some b->(g.large gS ρ).own (.cell b o)=gS.own (.cell j o):=fun j b o hr=>by
  simp only[Gh.large]
  rw[if_pos (hltσ b (zq3 hr))]
  cases hi:ρ.idxOf? b with
  |none=>exact absurd (zq3 hr) (idxOf_none hi)
  |some i=>rw[zLP hn (idxOf_some hi) hr]
 have hownF: ∀(b o:Nat),b<g.σ.length->b∉ρ->(g.large gS ρ).own (.cell b o)=g.own (.cell b o):=fun b o hb hr=>by
  simp only[Gh.large]
  rw[if_pos hb]
  cases hi:ρ.idxOf? b with
  |none=>rfl
  |some i=>exact absurd (zq3 (idxOf_some hi)) hr
 have hownN: ∀(b o:Nat),g.σ.length<=b->(g.large gS ρ).own (.cell b o)=gS.own (.cell (b-g.σ.length+ρ.length) o):=fun b o hb=>by
  simp only[Gh.large]
  rw[if_neg (by omega)]
 have hcases: ∀(p:Place)(k:Nat),(g.large gS ρ).own p=some k->(∃b o,p=.cell b o∧b<g.σ.length∧b∉ρ∧g.own p=some k)∨
  (∃b o j,p=.cell b o∧gS.own (.cell j o)=some k∧((ρ[j]? =some b∧b<g.σ.length)∨(g.σ.length<=b∧j=b-g.σ.length+ρ.length))):=fun p k hp=>by
  cases p with
  |tmp t=>cases hp
  |cell b o=>
   rcases Nat.lt_or_ge b g.σ.length with hb|hb
   ·by_cases hr:b∈ρ
    ·obtain⟨j,hj⟩:=zqd hr
     rw[hownρ j b o hj] at hp
     exact .inr ⟨b,o,j,rfl,hp,.inl ⟨hj,hb⟩⟩
    ·rw[hownF b o hb hr] at hp
     exact .inl ⟨b,o,rfl,hb,hr,hp⟩
   ·rw[hownN b o hb] at hp
    exact .inr ⟨b,o,_,rfl,hp,.inr ⟨hb,rfl⟩⟩
 have hσlen:(g.large gS ρ).σ.length=bs.length+(bS'.length-ρ.length):=by
  simp only[Gh.large,List.length_append,List.length_drop,hst.len,hsto.len]
 have hExt:Ext ⟨w,g⟩ (g.large gS ρ) w':={
  gfx:=htg.fx
  imm:=hext.imm
  immNew:=fun x u hx=>(hext.immNew x u hx).imp id (hmine _)
  σ:=fun b k hk=>by
   show(g.σ++gS.σ.drop ρ.length)[b]? =some k
   rw[List.getElem?_append_left (zq1 hk).1];exact hk
  mineσ:=fun k hk=>by
   rcases List.mem_append.1 hk with h1|h1
   ·exact .inr (.inl h1)
   ·exact hmine _ (hext.mineσ k (hnewmem k h1).1)
  mineOwn:=fun p k hp=>by
   rcases hcases p k hp with ⟨b,o,rfl,_,_,h3⟩|⟨b,o,j,rfl,h3,_⟩
   ·exact .inr (.inr ⟨b,o,h3⟩)
   ·exact hmine _ (hext.mineOwn _ k h3)
  keep:=fun k hk hnt=>hext.keep k hk fun ht=>hnt (hTg k ht)
  size:=hext.size
  os:=hext.os
  tape:=hext.tape
  output:=hext.output}
 refine⟨g.large gS ρ,hR e _ _ _ hnum hv,?_,hExt,fun t=>rfl,fun b k hb hk=>hext.keep k (hst.σ_lt (zq3 hk)) (hfr b k hk hb)⟩
 have hspare: ∀(b o k:Nat)(a:Addr) lo hi,g.own (.cell b o)=some k->b∉ρ->a.block=k->Spare g.imm w a lo hi->Spare gS.imm w' a lo hi:=fun b o k a lo hi hk hb hak hsp j h1 h2=>by
  obtain⟨p1,⟨u,p2⟩,p3⟩:=hsp j h1 h2
  have hkl:=(hst.ownσ _ k hk).2
  have hnt:=hfo b o k hk hb
  have hh:=hext.keep k hkl hnt
  have hbl:(a.add j).block=k:=by rw[zFV];exact hak
  refine⟨?_,⟨u,?_⟩,?_⟩
  ·cases hc:gS.imm (a.add j) with
   |none=>rfl
   |some u'=>
    rcases hext.immNew _ _ hc with h3|h3
    ·have h3':g.imm (a.add j)=some u':=h3
     rw[p1] at h3';cases h3'
    ·rw[hbl] at h3
     rcases h3 with h4|h4
     ·exact absurd hkl (Nat.not_lt.2 h4)
     ·exact absurd h4 hnt
  ·rw[<-p2];unfold World.cell?;rw[hbl,hh]
  ·rw[<-p3];unfold World.frozen?;rw[hbl,hh]
 refine {gok:=hsto.gok,imm:=hsto.imm,immσ:=fun x u hx hm=>?_,len:=by rw[hσlen,lay_length _ _ _ _ hge],nodup:=?_,blk:=fun b blk k hb hk=>?_,ownσ:=fun p k hp=>?_,ownInj:=fun p q k hp hq=>?_}
 ·rcases List.mem_append.1 hm with h1|h1
  ·obtain⟨b,hb⟩:=zqd h1
   by_cases hr:b∈ρ
   ·obtain⟨j,hj⟩:=zqd hr
    exact hsto.immσ x u hx (zq3 (i:=j) (by rw[hpreρ j b hj];exact hb))
   ·rcases hext.immNew x u hx with h2|h2
    ·exact hst.immσ x u h2 h1
    ·rcases h2 with h3|h3
     ·exact absurd (hst.σ_lt h1) (Nat.not_lt.2 h3)
     ·exact hfr b _ hb hr h3
  ·exact hsto.immσ x u hx (hnewmem _ h1).1
 ·refine List.nodup_append.2 ⟨hst.nodup,hsto.nodup.sublist (List.drop_sublist _ _),fun a ha b hb e=>?_⟩
  subst e;exact hnewold a hb ha
 ·
  have hS': ∀(j:Nat) blkS,bS'[j]? =some blkS->gS.σ[j]? =some k->(∀o,(g.large gS ρ).own (.cell b o)=gS.own (.cell j o))->blk=AV.renL (zDy ρ bs.length) blkS->
   ∃c ty,w'.heap[k]? =some (.cells c ty (0,0))∧blk.length<=c.size∧∀(o:Nat) x,blk[o]? =some x->x.cellOk ty (blk.length=c.size)∧Rep (g.large gS ρ).imm (g.large gS ρ).σ x (c.getD o undef)∧OwnsBy (g.large gS ρ).imm w' ((g.large gS ρ).own (.cell b o)) x (c.getD o undef):=by
   intro j blkS h1 h2 h3 h4
   obtain⟨c,ty,q1,q2,q3⟩:=hsto.blk j blkS k h1 h2
   refine⟨c,ty,q1,by rw[h4,zBe];exact q2,fun o x hx=>?_⟩
   rw[h4,zEP] at hx
   cases hy:blkS[o]? with
   |none=>rw[hy] at hx;cases hx
   |some y=>
    rw[hy] at hx;cases hx
    obtain⟨r1,r2,r3⟩:=q3 o y hy
    exact⟨(zKG _ _ _ (by rw[h4,zBe])).2 r1,r2.ren hnum,by rw[h3];exact(OwnsBy.ren _).2 r3⟩
  rcases Nat.lt_or_ge b g.σ.length with hbl|hbl
  ·have hk':g.σ[b]? =some k:=by
    have:(g.σ++gS.σ.drop ρ.length)[b]? =some k:=hk
    rwa [List.getElem?_append_left hbl] at this
   by_cases hr:b∈ρ
   ·obtain⟨j,hj⟩:=zqd hr
    rw[lay_at _ _ _ _ j b hn hlt hge hj] at hb
    cases hq:bS'[j]? with
    |none=>rw[hq] at hb;cases hb
    |some blkS=>
     rw[hq] at hb
     exact hS' j blkS hq (by rw[hpreρ j b hj];exact hk') (fun o=>hownρ j b o hj) (by cases hb;rfl)
   ·rw[zH5 _ _ _ _ b hr (by rw[<-hst.len];exact hbl)] at hb
    obtain⟨c,ty,q1,q2,q3⟩:=hst.blk b blk k hb hk'
    have hh:=hext.keep k (hst.σ_lt (zq3 hk')) (hfr b k hk' hr)
    refine⟨c,ty,by rw[hh];exact q1,q2,fun o x hx=>?_⟩
    obtain⟨r1,r2,r3⟩:=q3 o x hx
    refine⟨r1,r2.mono hext.imm (fun b' k' hb'=>hExt.σ b' k' hb'),?_⟩
    rw[hownF b o hbl hr]
    cases x<;>try exact trivial
    ·intro base n cap hv'
     rcases r3 base n cap hv' with h1|⟨a,h1,h2,⟨h3,h4,m,h5,h6⟩,h7⟩
     ·exact .inl h1
     ·have hkl:=(hst.ownσ _ _ h2).2
      have hnt:=hfo b o _ h2 hr
      refine .inr ⟨a,h1,h2,⟨h3,h4,m,zGg (hext.keep _ hkl hnt) h5,h6⟩,hspare b o _ a _ _ h2 hr rfl h7⟩
    ·intro base n cap hv'
     rcases r3 base n cap hv' with h1|⟨a,h1,h2,h7⟩
     ·exact .inl h1
     ·exact .inr ⟨a,h1,h2,hspare b o _ a _ _ h2 hr rfl h7⟩
    ·intro k0 hv'
     obtain⟨h1,h2⟩:=r3 k0 hv'
     have hkl:=(hst.ownσ _ _ h1).2
     have hnt:=hfo b o _ h1 hr
     exact⟨h1,h2.mono hext.imm (fun es c hm=>by rw[hext.keep _ hkl hnt];exact hm)⟩
    ·intro vs base n cap hv1 hv2
     rcases r3 vs base n cap hv1 hv2 with h1|⟨a,h1,h2,⟨h3,h4,m,h5,h6⟩,h7⟩
     ·exact .inl h1
     ·have hkl:=(hst.ownσ _ _ h2).2
      have hnt:=hfo b o _ h2 hr
      exact .inr ⟨a,h1,h2,⟨h3,h4,m,zGg (hext.keep _ hkl hnt) h5,h6⟩,hspare b o _ a _ _ h2 hr rfl h7⟩
  ·have hk':gS.σ[b-g.σ.length+ρ.length]? =some k:=by
    have:(g.σ++gS.σ.drop ρ.length)[b]? =some k:=hk
    rw[List.getElem?_append_right hbl,List.getElem?_drop] at this
    rw[Nat.add_comm];exact this
   have hbl':bs.length<=b:=by rw[<-hst.len];exact hbl
   obtain⟨d,rfl⟩: ∃d,b=bs.length+d:=⟨b-bs.length,by omega⟩
   rw[lay_new _ _ _ _ d hge] at hb
   have hidx:bs.length+d-g.σ.length+ρ.length=ρ.length+d:=by rw[hst.len];omega
   cases hq:bS'[ρ.length+d]? with
   |none=>rw[hq] at hb;cases hb
   |some blkS=>
    rw[hq] at hb
    exact hS' (ρ.length+d) blkS hq (by rw[<-hidx];exact hk') (fun o=>by rw[hownN _ o hbl,hidx]) (by cases hb;rfl)
 ·rcases hcases p k hp with ⟨b,o,rfl,hb,hr,h3⟩|⟨b,o,j,rfl,h3,h4⟩
  ·obtain⟨q1,q2⟩:=hst.ownσ _ k h3
   refine⟨fun hm=>?_,Nat.lt_of_lt_of_le q2 hext.size⟩
   rcases List.mem_append.1 hm with h5|h5
   ·exact q1 h5
   ·obtain⟨h6,h7⟩:=hnewmem k h5
    rcases hext.mineσ k h6 with h8|h8
    ·exact absurd q2 (Nat.not_lt.2 h8)
    ·exact hfo b o k h3 hr h8
  ·obtain⟨q1,q2⟩:=hsto.ownσ _ k h3
   refine⟨fun hm=>?_,q2⟩
   rcases List.mem_append.1 hm with h5|h5
   ·exact hownNew j o k h3 h5
   ·exact q1 (hnewmem k h5).1
 ·have hmix: ∀(b o j o':Nat),b∉ρ->g.own (.cell b o)=some k->gS.own (.cell j o')=some k->False:=fun b o j o' hr h1 h2=>by
   rcases hext.mineOwn _ k h2 with h3|h3
   ·exact absurd (hst.ownσ _ k h1).2 (Nat.not_lt.2 h3)
   ·exact hfo b o k h1 hr h3
  rcases hcases p k hp with ⟨b,o,rfl,hb,hr,h3⟩|⟨b,o,j,rfl,h3,h4⟩
  ·rcases hcases q k hq with ⟨b',o',rfl,hb',hr',h3'⟩|⟨b',o',j',rfl,h3',h4'⟩
   ·exact hst.ownInj _ _ k h3 h3'
   ·exact(hmix b o j' o' hr h3 h3').elim
  ·rcases hcases q k hq with ⟨b',o',rfl,hb',hr',h3'⟩|⟨b',o',j',rfl,h3',h4'⟩
   ·exact(hmix b' o' j o hr' h3' h3).elim
   ·have:=hsto.ownInj _ _ k h3 h3'
    cases this
    congr 1
    rcases h4 with ⟨h5,h6⟩|⟨h5,h6⟩<;>rcases h4' with ⟨h5',h6'⟩|⟨h5',h6'⟩
    ·rw[h5] at h5';cases h5';rfl
    ·have:=(zq1 h5).1;omega
    ·have:=(zq1 h5').1;omega
    ·omega
theorem Raw.frameK{bS bS':List (List AV)}(h:Raw P f args bS res bS')(ρ:List Nat)(bs:List (List AV))(hok:zLY ρ args bS bs):
 RawK P f (AV.renL (zDy ρ bs.length) args) bs (res.ren (zDy ρ bs.length)) (lay (zDy ρ bs.length) ρ bS' bs) (fun b=>b∉ρ):=by
 have h1:=RawG.frameK (Rr:=fun e imm σ=> ∃v,e=.returned v∧Rep imm σ res v) (Rr':=fun e imm σ=> ∃v,e=.returned v∧Rep imm σ (res.ren (zDy ρ bs.length)) v) (P:=P) (f:=f) (args:=args) (bS:=bS) (bS':=bS')
  ⟨h.1,fun g w vals h1 h2 h3 h4=>(h.2 g w vals h1 h2 h3 h4).mono fun e w' ⟨g',v,e1,e2,e3,e4,e5⟩=>⟨g',⟨v,e1,e2⟩,e3,e4,e5,fun _ _ h=>h.elim⟩⟩ ρ bs hok (fun e imm σ σ' hn ⟨v,e1,e2⟩=>⟨v,e1,e2.ren hn⟩)
 exact⟨h1.1,fun g w vals h2 h3 h4 h5=>(h1.2 g w vals h2 h3 h4 h5).mono fun e w' ⟨g',⟨v,e1,e2⟩,e3,e4,e5,e6⟩=>⟨g',v,e1,e2,e3,e4,e5,e6⟩⟩
attribute [simp] AV.ren AV.renL zDy lay zLA noDup zLY
theorem Raw.frame{bS bS':List (List AV)}(h:Raw P f args bS res bS')(ρ:List Nat)(bs:List (List AV))(hok:zLY ρ args bS bs):
 Raw P f (AV.renL (zDy ρ bs.length) args) bs (res.ren (zDy ρ bs.length)) (lay (zDy ρ bs.length) ρ bS' bs):=(h.frameK ρ bs hok).raw
mutual
theorem fz_flat(b:Nat)(blk:List AV): ∀x:AV,x.flat=true->x.fz b blk=x
 |.fn f fs cs,h=>by
  simp only[AV.flat,zq7] at h
  simp only[AV.fz,zJN b blk fs h.1,zJN b blk cs h.2]
 |.iface t v,h=>by simp only[AV.flat] at h;simp only[AV.fz,fz_flat b blk v h]
 |.agg cs,h=>by simp only[AV.flat] at h;simp only[AV.fz,zJN b blk cs h]
 |.tup cs,h=>by simp only[AV.flat] at h;simp only[AV.fz,zJN b blk cs h]
 |.otup _ _ cs,h=>by simp only[AV.flat] at h;simp only[AV.fz,zJN b blk cs h]
 |.mptr _ _,h=>by simp[AV.flat] at h
 |.msl _ _ _,h=>by simp[AV.flat] at h
 |.baddr _ _,h=>by simp[AV.flat] at h
 |.int _ _,_=>rfl
 |.bool _,_=>rfl
 |.str _,_=>rfl
 |.nilp,_=>rfl
 |.cptr _,_=>rfl
 |.nsl,_=>rfl
 |.osl _ _,_=>rfl
 |.osq _ _,_=>rfl
 |.sl _,_=>rfl
 |.nilfn,_=>rfl
 |.nilif,_=>rfl
 |.e0,_=>rfl
 |.omp _ _,_=>rfl
 |.mpx,_=>rfl
 |.top,_=>rfl
theorem zJN(b:Nat)(blk:List AV): ∀l:List AV,AV.flatL l=true->AV.fzL b blk l=l
 |[],_=>rfl
 |x::l,h=>by simp only[AV.flatL,zq7] at h;simp only[AV.fzL,fz_flat b blk x h.1,zJN b blk l h.2]
end
mutual
theorem under_flat(m:Nat): ∀x:AV,x.flat=true->x.under m=true
 |.fn g fs cs,h=>by
  simp only[AV.flat,zq7] at h
  simp only[AV.under,zFA m fs h.1,zFA m cs h.2,Bool.and_self]
 |.iface t v,h=>by simp only[AV.flat] at h;simp only[AV.under,under_flat m v h]
 |.agg cs,h=>by simp only[AV.flat] at h;simp only[AV.under,zFA m cs h]
 |.tup cs,h=>by simp only[AV.flat] at h;simp only[AV.under,zFA m cs h]
 |.otup _ _ cs,h=>by simp only[AV.flat] at h;simp only[AV.under,zFA m cs h]
 |.mptr _ _,h=>by simp[AV.flat] at h
 |.msl _ _ _,h=>by simp[AV.flat] at h
 |.baddr _ _,h=>by simp[AV.flat] at h
 |.int _ _,_=>rfl
 |.bool _,_=>rfl
 |.str _,_=>rfl
 |.nilp,_=>rfl
 |.cptr _,_=>rfl
 |.nsl,_=>rfl
 |.osl _ _,_=>rfl
 |.osq _ _,_=>rfl
 |.sl _,_=>rfl
 |.nilfn,_=>rfl
 |.nilif,_=>rfl
 |.e0,_=>rfl
 |.omp _ _,_=>rfl
 |.mpx,_=>rfl
 |.top,_=>rfl
theorem zFA(m:Nat): ∀l:List AV,AV.flatL l=true->AV.underL m l=true
 |[],_=>rfl
 |x::l,h=>by simp only[AV.flatL,zq7] at h;simp only[AV.underL,under_flat m x h.1,zFA m l h.2,Bool.and_self]
end
theorem leAV_refl(x:AV):leAV x x:=by
 cases x<;>simp
@[simp] theorem leCells_refl: ∀l:List AV,leCells l l
 |[]=>trivial
 |x::l=>⟨leAV_refl x,.inr rfl,leCells_refl l⟩
def row{α:Type}(c:α->List AV)(l:List α):List AV:=(l.map c).flatten
def RowC{α:Type}(c:α->List AV)(n:Nat):Prop:= ∀x,(c x).length=n∧(c x).all AV.inert=true
section
variable {α:Type} {c:α->List AV} {n:Nat} (h:RowC c n)
include h
theorem row_sz(l:List α): ∀e,e∈l.map c->e.length=n:=fun e he=>by
 obtain⟨x,_,rfl⟩:=List.mem_map.1 he;exact(h x).1
theorem row_len(l:List α):(row c l).length=l.length*n:=by
 unfold row;rw[zH8 _ (row_sz h l),zq4]
theorem zLi(l:List α):(row c l).all AV.inert=true:=by
 rw[List.all_eq_true]
 intro x hx
 obtain⟨e,he,hx⟩:=List.mem_flatten.1 hx
 obtain⟨y,_,rfl⟩:=List.mem_map.1 he
 exact(zq8 (h y).2) x hx
theorem row_flat(l:List α):AV.flatL (row c l)=true:=by
 have h1:=zLi h l
 generalize row c l=cs at h1
 induction cs with
 |nil=>rfl
 |cons x cs ih=>
  simp only[List.all_cons,zq7,AV.inert] at h1
  simp only[AV.flatL,zq7]
  exact⟨h1.1.2,ih h1.2⟩
theorem row_under(m:Nat)(l:List α):AV.underL m (row c l)=true:=zFA m _ (row_flat h l)
theorem row_chunk(l:List α):chunk n l.length (row c l)=l.map c:=by
 induction l with
 |nil=>rfl
 |cons y l ih=>
  unfold row at ih ⊢
  simp only[List.length_cons,chunk,List.map_cons,List.flatten_cons]
  rw[List.take_left' (h y).1,List.drop_left' (h y).1,ih]
end
section
variable {α:Type} {c:α->List AV} (h:RowC c 1)
include h
theorem row_len1(l:List α):(row c l).length=l.length:=by rw[row_len h,Nat.mul_one]
end
theorem rc_S:RowC cS 1:=fun x=>by simp[AV.inert,AV.flat]
@[simp] theorem rlen_S(l:List (List UInt8)):(row cS l).length=l.length:=row_len1 rc_S l
@[simp] theorem rine_S(l:List (List UInt8)):(row cS l).all AV.inert=true:=zLi rc_S l
@[simp] theorem rund_S(m:Nat)(l:List (List UInt8)):AV.underL m (row cS l)=true:=row_under rc_S m l
@[simp] theorem rchk_S(l:List (List UInt8))(h:n=l.length):chunk 1 n (row cS l)=l.map cS:=by rw[h];exact row_chunk rc_S l
def clC{α:Type}(b:Nat)(l:List α):Option (List α):=if 0<l.length∧0<b∧l.length*b<=140737488355328 then some l else none
theorem clC_ok{b:Nat}{l r:List α}(h:clC b l=some r):(0<r.length∧Fits b r.length)∧l=r:=by
 unfold clC at h;split at h
 ·cases h;exact⟨⟨by omega,by unfold Fits;omega⟩,rfl⟩
 ·cases h
theorem clC_row(c:α->List AV)(l:List α):(l.map c).flatten=row c l:=rfl
section
variable (s:AState) (t:Nat)
@[simp] theorem get_fz:s.fz.get t=(s.get t).fz s.lb s.lblk:=rfl
@[simp] theorem n_fz:s.fz.n=s.n:=rfl
@[simp] theorem base_fz:s.fz.base=s.base:=rfl
@[simp] theorem blocks_fz:s.fz.blocks=(s.blocks.take s.lb).map (AV.fzL s.lb s.lblk):=rfl
@[simp] theorem loans_fz:s.fz.loans t=none:=rfl
end
attribute [simp] AState.lb AState.lblk AV.fz AV.fzL okFz okFzL okFzB FzOk FzR DropOk zLF AState.dropB
def Ghost(s s':AState):Prop:= ∀F g a w,Sim F g s a w->∃g',Sim F g' s' a w
theorem Ghost.refl(s:AState):Ghost s s:=fun F g a w h=>⟨g,h⟩
def FreeSteps(P:Program)(Inv:(Nat->Bool)->AState->Prop):Nat->List Oper->Prop
 |_,[]=>True
 |k,o::l=>(∀L s,L k=false->(zD3 o).all L=true->Inv L s->AStep P o s fun s'=>Inv (fun j=>if j=k then true else L j) s')∧FreeSteps P Inv (k+1) l
theorem FreeSteps.get{Inv:(Nat->Bool)->AState->Prop}: ∀{l:List Oper}{k:Nat},FreeSteps P Inv k l->∀{i:Nat}{o:Oper},l[i]? =some o->
 ∀L s,L (k+i)=false->(zD3 o).all L=true->Inv L s->AStep P o s fun s'=>Inv (fun j=>if j=k+i then true else L j) s'
 |[],k,_,i,o,hi=>by simp at hi
 |x::l,k,h,0,o,hi=>by simp at hi;subst hi;exact h.1
 |x::l,k,h,i+1,o,hi=>by
  have:=FreeSteps.get h.2 (i:=i) (o:=o) (by simpa using hi)
  rwa [show k+1+i=k+(i+1) by omega] at this
def freeOk(ops:Array Oper)(r:Nat):Bool:=decide (r<=ops.size)&&(ops.toList.zipIdx.all fun(o,j)=>o.guard.isNone&&(zD3 o).all (·<j))&&
 (List.range ops.size).all fun j=>decide (j<r)||(List.range j).all fun k=>((zEl ops.toList).getD j []).contains k
theorem any_free{Q:Exit->Act->World->Prop}{Inv:(Nat->Bool)->AState->Prop}(hgd: ∀(j:Nat) o,ops[j]? =some o->o.guard=none∧∀e,e∈zD3 o->e<j)
 (step: ∀(i:Nat) o L s,ops[i]? =some o->L i=false->(∀e,e∈zD3 o->L e=true)->(∀k,k∈(zEl ops.toList).getD i []->L k=true)->Inv L s->∃s1,Ghost s s1∧AStep P o s1 fun s2=>Inv (fun j=>if j=i then true else L j) s2)
 (fin: ∀L s,(∀i,i<ops.size->L i=true)->Inv L s->∀g a w,Sim F g s a w->Q .normal a w): ∀(fuel:Nat)(listed:Array Bool)(s:AState)(g:Gh)(a:Act)(w:World),
 listed.size=ops.size->((List.range ops.size).filter fun i=> !listed.getD i true).length<=fuel->(∀(j:Nat) o,ops[j]? =some o->listed.getD j false=true->∀e,e∈zD3 o->listed.getD e false=true)->
 Inv (fun i=>listed.getD i false) s->Sim F g s a w->wpAny P .any ops Q fuel listed a w:=by
 have hin: ∀(listed:Array Bool),listed.size=ops.size->∀i,i<ops.size->listed.getD i true=listed.getD i false:=fun listed hsz i hi=>by
  rw[zq6,zq6,zqe (by omega)];rfl
 have hall: ∀(listed:Array Bool),listed.size=ops.size->Region.ready .any ops listed=[]->∀i,i<ops.size->listed.getD i false=true:=fun listed hsz hr=>by
  intro i
  induction i using Nat.strongRecOn with
  |_ i ih=>
   intro hi
   cases hv:listed.getD i false with
   |true=>rfl
   |false=>
    have hmem:i∈Region.ready .any ops listed:=mem_ready.2 ⟨by rw[hin listed hsz i hi];exact hv,ops[i],zqe hi,fun e he hb=>by
     have hlt:=(hgd i _ (zqe hi)).2 e.on (List.mem_map.2 ⟨e,List.mem_filter.2 ⟨by simpa using he,hb⟩,rfl⟩)
     exact ih e.on hlt (by omega)⟩
    rw[hr] at hmem;cases hmem
 intro fuel
 induction fuel with
 |zero=>
  intro listed s g a w hsz hlen hcl hI hs
  have hnil:((List.range ops.size).filter fun i=> !listed.getD i true)=[]:=List.eq_nil_of_length_eq_zero (by omega)
  have hr:Region.ready .any ops listed=[]:=by
   cases hr:Region.ready .any ops listed with
   |nil=>rfl
   |cons i l=>
    have hi:i∈Region.ready .any ops listed:=by rw[hr];exact zq9 ..
    obtain⟨h1,o,h2,_⟩:=mem_ready.1 hi
    have:i∈((List.range ops.size).filter fun i=> !listed.getD i true):=List.mem_filter.2 ⟨List.mem_range.2 (lt_of_getElem? h2),by simp[h1]⟩
    rw[hnil] at this;cases this
  exact⟨hr,fin _ s (hall listed hsz hr) hI g a w hs⟩
 |succ fuel ih=>
  intro listed s g a w hsz hlen hcl hI hs
  refine⟨fun hr=>fin _ s (hall listed hsz hr) hI g a w hs,fun i hi=>?_⟩
  obtain⟨h1,o,h2,h3⟩:=mem_ready.1 hi
  have hilt:=lt_of_getElem? h2
  obtain⟨hgn,_⟩:=hgd i o h2
  have hed: ∀e,e∈zD3 o->listed.getD e false=true:=fun e he=>by
   obtain⟨ed,hed,rfl⟩:=List.mem_map.1 he
   rw[List.mem_filter] at hed
   exact h3 ed (by simpa using hed.1) hed.2
  have hanc: ∀k,k∈(zEl ops.toList).getD i []->listed.getD k false=true:=fun k hk=>
   zKU (ops:=ops.toList) (L:=fun j=>listed.getD j false=true) (fun j o hj=>hcl j o (by simpa using hj)) i o (by simpa using h2) hed k hk
  obtain⟨s0,hgh,hstep⟩:=step i o (fun i=>listed.getD i false) s h2 (by rw[<-hin listed hsz i hilt];exact h1) hed hanc hI
  obtain⟨g0,hs0⟩:=hgh F g a w hs
  obtain⟨s1,hs1,hI1⟩:=hstep.ok
  obtain⟨u1,u2,e1,e2,e3⟩:=zIi (p:=fun i=> !listed.getD i true) hilt (by simp[h1])
  have hfil:((List.range ops.size).filter fun k=> !(listed.setIfInBounds i true).getD k true)=u1++u2:=by
   rw[<-e3]
   apply List.filter_congr
   intro k hk
   rw[List.mem_range] at hk
   rw[zFJ (n:=0) listed i k true (by omega)]
   by_cases e:k=i
   ·simp[e]
   ·simp[e]
  have hL: ∀k,(listed.setIfInBounds i true).getD k false=if k=i then true else listed.getD k false:=fun k=>by
   rw[zq6,Array.getElem?_setIfInBounds]
   by_cases e:k=i
   ·subst e;simp[hsz,hilt]
   ·simp[e,Ne.symm e,zq6]
  have hgo:=hs1 F g0 a w hs0 (wpAny P .any ops Q fuel (listed.setIfInBounds i true)) Q fun g' a' w' hs'=>
   ih (listed.setIfInBounds i true) s1 g' a' w' (by simpa using hsz) (by
    rw[hfil]
    have:=hlen
    rw[e1] at this
    simp only[List.length_append,List.length_cons] at this ⊢
    omega) (fun j oj hj hl e he=>by
    rw[hL] at hl ⊢
    split
    ·rfl
    ·split at hl
     ·rename_i hji
      subst hji
      rw[h2] at hj;cases hj
      exact hed e he
     ·exact hcl j oj hj hl e he) (by rw[funext hL];exact hI1) hs'
  unfold wpOp
  simp only[h2]
  rw[if_pos (by simp[Region.wanted,hgn])]
  exact .inl hgo
theorem ResK.mono{d:Option Nat}{r:Option Res}{K K':AState->Prop}(hk: ∀s,K s->K' s)(h:ResK s d r K):ResK s d r K':=by
 unfold ResK at h ⊢
 split
 ·exact⟨h.1,hk _ h.2⟩
 ·exact h
theorem CallF.mono{d:Option Nat}{K K':AState->Prop}(hk: ∀s,K s->K' s): ∀(k:Nat)(args args0:List AV)(s:AState),CallF P f k args args0 s d K->CallF P f k args args0 s d K'
 |0,args,args0,s,h=>by
  rcases h with ⟨res,h1,h2,h3,h4⟩|⟨res,bs',h1,h2,h3⟩|⟨ec,l,h1,h2,h3⟩
  ·exact .inl ⟨res,h1,h2,h3,hk _ h4⟩
  ·exact .inr (.inl ⟨res,bs',h1,h2,hk _ h3⟩)
  ·exact .inr (.inr ⟨ec,l,h1,h2,hk _ h3⟩)
 |k+1,args,args0,s,h=>⟨h.1,CallF.mono hk k _ _ _ h.2⟩
theorem AStep.mono{K K':AState->Prop}(h:AStep P o s K)(hk: ∀s,K s->K' s):AStep P o s K':=by
 unfold AStep at h ⊢
 split
 ·rename_i c ho
  rw[ho] at h
  simp only at h
  split
  ·rename_i x hc
   rw[hc] at h
   simp only at h
   split
   ·rename_i f first captured hx
    rw[hx] at h
    rcases h with ⟨k,h⟩|⟨i,y,ec,l,r,h1,h2,h3,h4,h5,h7⟩
    ·exact .inl ⟨k,CallF.mono hk k _ _ _ h⟩
    ·exact .inr ⟨i,y,ec,l,r,h1,h2,h3,h4,h5,hk _ h7⟩
   ·rename_i hn
    split at h
    ·rename_i f first captured hx;exact(hn _ _ _ hx).elim
    ·exact h
  ·rename_i b hc
   rw[hc] at h
   exact ResK.mono hk h
  ·rename_i h1 h2
   split at h
   ·rename_i x hx;exact(h1 x hx).elim
   ·rename_i b hb;exact(h2 b hb).elim
   ·exact h
 ·rename_i t n ps ho
  rw[ho] at h
  rcases h with h|⟨h1,h2,h⟩
  ·exact .inl (ResK.mono hk h)
  ·exact .inr ⟨h1,h2,ResK.mono hk h⟩
 ·rename_i t x lo ho
  rw[ho] at h
  simp only[TailV] at h ⊢
  split
  ·rename_i ec l hx;rw[hx] at h;exact ResK.mono hk h
  ·rename_i hn
   split at h
   ·rename_i ec l hx;exact(hn _ _ hx).elim
   ·exact ResK.mono hk h
 ·rename_i t ho
  rw[ho] at h
  exact ResK.mono hk h
 ·rename_i t x i ok ho
  rw[ho] at h
  exact ResK.mono hk h
 ·rename_i t x i v ho
  rw[ho] at h
  exact ResK.mono hk h
 ·rename_i t x i v ho
  rw[ho] at h
  exact ResK.mono hk h
 ·rename_i x i ho
  rw[ho] at h
  exact ResK.mono hk h
 ·rename_i h1 h2 h3 h4 h5 h6 h7 h8
  split at h
  ·rename_i c hc;exact(h1 _ hc).elim
  ·rename_i t n ps hc;exact(h2 _ _ _ hc).elim
  ·rename_i t x lo hc;exact(h3 _ _ _ hc).elim
  ·rename_i t hc;exact(h4 _ hc).elim
  ·rename_i t x i ok hc;exact(h5 _ _ _ _ hc).elim
  ·rename_i t x i v hc;exact(h6 _ _ _ _ hc).elim
  ·rename_i t x i v hc;exact(h7 _ _ _ _ hc).elim
  ·rename_i x i hc;exact(h8 _ _ hc).elim
  ·exact ResK.mono hk h
theorem zK9(hm:P.follows .mixedOrders=true)(r:Nat)(Inv:(Nat->Bool)->AState->Prop)(hok:freeOk ops r=true)
 (h0:Inv (fun _=>false) s.fresh) (hst:FreeSteps P Inv 0 (ops.toList.take r))
 (fin: ∀L s',(∀i,i<r->L i=true)->Inv L s'->∃s'',Ghost s' s''∧AOps P ops (Q .normal) (ops.toList.drop r) s''):AWp P (.region id ops true) Q s:=fun F g a w hs=>by
 simp only[freeOk,zq7] at hok
 obtain⟨⟨hrs,hok1⟩,hok2⟩:=hok
 have hrs:r<=ops.size:=by simpa using hrs
 have hgd: ∀(j:Nat) o,ops[j]? =some o->o.guard=none∧∀e,e∈zD3 o->e<j:=fun j o hj=>by
  have:=(zq8 hok1) (o,j) (zJI hj)
  simp only[zq7,Option.isNone_iff_eq_none,List.all_eq_true,decide_eq_true_eq] at this
  exact this
 have htl: ∀j,j<ops.size->r<=j->∀k,k<j->k∈(zEl ops.toList).getD j []:=fun j hj hr k hk=>by
  have:=(zq8 hok2) j (List.mem_range.2 hj)
  simp only[Bool.or_eq_true,decide_eq_true_eq] at this
  rcases this with h|h
  ·omega
  ·simpa using(zq8 h) k (List.mem_range.2 hk)
 let Inv':(Nat->Bool)->AState->Prop:=fun L s=>((∀j,r<=j->L j=false)∧Inv L s)∨∃k,r<k∧(∀j,j<k->L j=true)∧(∀j,k<=j->L j=false)∧AOps P ops (Q .normal) (ops.toList.drop k) s
 have hdrop: ∀(i:Nat) o,ops[i]? =some o->ops.toList.drop i=o::ops.toList.drop (i+1):=fun i o h=>by
  have hi:i<ops.toList.length:=by simpa using lt_of_getElem? h
  rw[List.drop_eq_getElem_cons hi]
  congr 1
  have:=zq2 hi
  rw[Array.getElem?_toList,h] at this
  exact(zqa this).symm
 have hops: ∀(i:Nat) o s,ops[i]? =some o->AOps P ops (Q .normal) (ops.toList.drop i) s->AStep P o s fun s2=>AOps P ops (Q .normal) (ops.toList.drop (i+1)) s2:=fun i o s h hA=>by
  rw[hdrop i o h] at hA
  simp only[AOps,(hgd i o h).1] at hA
  exact hA
 have mono: ∀(o:Oper)(s:AState)(K K':AState->Prop),AStep P o s K->(∀s,K s->K' s)->AStep P o s K':=fun o s K K' h hk=>h.mono hk
 refine wp_region_any hm (any_free (F:=F) (Inv:=Inv') hgd ?_ ?_ ops.size _ s.fresh g a _ (by simp) (Nat.le_trans (List.length_filter_le _ _) (by simp)) ?_ ?_ hs.fresh.drew)
 ·intro i o L s hi hLi hed hanc hI
  rcases hI with ⟨hL,hI⟩|⟨k,hk,hk1,hk2,hA⟩
  ·by_cases hir:i<r
   ·refine⟨s,.refl s,?_⟩
    have h1:=FreeSteps.get hst (i:=i) (o:=o) (by rw[List.getElem?_take,if_pos hir];simpa using hi) L s (by simpa using hLi) (List.all_eq_true.2 hed) hI
    simp only[Nat.zero_add] at h1
    exact mono o s _ _ h1 fun s2 h2=>.inl ⟨fun j hj=>by show(if j=i then true else L j)=false;rw[if_neg (by omega)];exact hL j hj,h2⟩
   ·have hlt:=lt_of_getElem? hi
    have hir':i=r:=by
     rcases Nat.lt_or_ge r i with h|h
     ·have:=hanc r (htl i hlt (by omega) r h)
      rw[hL r (Nat.le_refl _)] at this;cases this
     ·omega
    subst hir'
    have hLall: ∀j,j<i->L j=true:=fun j hj=>hanc j (htl i hlt (Nat.le_refl _) j hj)
    obtain⟨s'',hgh,hA⟩:=fin L s hLall hI
    refine⟨s'',hgh,mono o s'' _ _ (hops i o s'' hi hA) fun s2 h2=>.inr ⟨i+1,by omega,fun j hj=>?_,fun j hj=>?_,h2⟩⟩
    ·show(if j=i then true else L j)=true
     split
     ·rfl
     ·exact hLall j (by omega)
    ·show(if j=i then true else L j)=false
     rw[if_neg (by omega)];exact hL j (by omega)
  ·have hlt:=lt_of_getElem? hi
   have hik:k<=i:=by
    rcases Nat.lt_or_ge i k with h|h
    ·rw[hk1 i h] at hLi;cases hLi
    ·exact h
   have hik':i=k:=by
    rcases Nat.lt_or_ge k i with h|h
    ·have:=hanc k (htl i hlt (by omega) k h)
     rw[hk2 k (Nat.le_refl _)] at this;cases this
    ·omega
   subst hik'
   refine⟨s,.refl s,mono o s _ _ (hops i o s hi hA) fun s2 h2=>.inr ⟨i+1,by omega,fun j hj=>?_,fun j hj=>?_,h2⟩⟩
   ·show(if j=i then true else L j)=true
    split
    ·rfl
    ·exact hk1 j (by omega)
   ·show(if j=i then true else L j)=false
    rw[if_neg (by omega)];exact hk2 j (by omega)
 ·intro L s hL hI g a w hs
  rcases hI with ⟨hLr,hI⟩|⟨k,hk,hk1,hk2,hA⟩
  ·have hsz:ops.size<=r:=by
    rcases Nat.lt_or_ge r ops.size with h|h
    ·have:=hL r h
     rw[hLr r (Nat.le_refl _)] at this;cases this
    ·exact h
   obtain⟨s'',hgh,hA⟩:=fin L s (fun i hi=>hL i (by omega)) hI
   rw[List.drop_eq_nil_of_le (by simpa using hsz)] at hA
   obtain⟨g',hs'⟩:=hgh F g a w hs
   exact⟨g',s'',hs',hA⟩
  ·have hsz:ops.size<=k:=by
    rcases Nat.lt_or_ge k ops.size with h|h
    ·have:=hL k h
     rw[hk2 k (Nat.le_refl _)] at this;cases this
    ·exact h
   rw[List.drop_eq_nil_of_le (by simpa using hsz)] at hA
   exact⟨g,s,hs,hA⟩
 ·intro j o hj hl
  rw[zq6,Array.getElem?_replicate] at hl
  split at hl<;>cases hl
 ·refine .inl ⟨fun j _=>?_,?_⟩
  ·show(Array.replicate ops.size false).getD j false=false
   rw[zq6,Array.getElem?_replicate];split<;>rfl
  ·have:(fun i=>(Array.replicate ops.size false).getD i false)=fun _=>false:=by
    funext i
    rw[zq6,Array.getElem?_replicate];split<;>rfl
   show Inv (fun i=>(Array.replicate ops.size false).getD i false) s.fresh
   rw[this];exact h0
structure PermOk (f fi:Nat->Nat) (n base:Nat):Prop where
 lt: ∀b,b<n->f b<n∧fi b<n
 inv: ∀b,b<n->fi (f b)=b∧f (fi b)=b
 fix: ∀b,b<base->f b=b
 hb:base<=n
def AState.perm(f fi:Nat->Nat)(s:AState):AState:=
 {tmps:=fun t=>(s.tmps t).ren f,loans:=fun _=>none,n:=s.n,base:=s.base,blocks:=(List.range s.blocks.length).map fun j=>AV.renL f (s.blocks.getD (fi j) [])}
def Gh.permOwn(g:Gh)(n:Nat)(fi:Nat->Nat):Place->Option Nat
 |.cell b o=>if b<n then g.own (.cell (fi b) o) else none
 |.tmp t=>g.own (.tmp t)
def Place.pre(fi:Nat->Nat):Place->Place
 |.cell b o=>.cell (fi b) o
 |.tmp t=>.tmp t
theorem Sim.perm(h:Sim F g s a w){f fi:Nat->Nat}(hp:PermOk f fi s.blocks.length s.base): ∃g',Sim F g' (s.perm f fi) a w:=by
 have hl:=h.sto.len
 have hσ: ∀(b k:Nat),g.σ[b]? =some k->((List.range s.blocks.length).map fun j=>g.σ.getD (fi j) 0)[f b]? =some k:=fun b k hb=>by
  have hlt:=(zq1 hb).1
  rw[List.getElem?_map,List.getElem?_range (hp.lt b (by omega)).1]
  simp only[Option.map_some,(hp.inv b (by omega)).1]
  rw[zq5,hb];rfl
 have hσ': ∀(i k:Nat),((List.range s.blocks.length).map fun j=>g.σ.getD (fi j) 0)[i]? =some k->i<s.blocks.length∧g.σ[fi i]? =some k:=fun i k hi=>by
  have hlt:=(zq1 hi).1
  simp only[zq4,List.length_range] at hlt
  rw[List.getElem?_map,List.getElem?_range hlt] at hi
  refine⟨hlt,?_⟩
  rw[<-hi]
  exact zB7 0 (by rw[hl];exact(hp.lt i hlt).2)
 have hmem: ∀k,k∈((List.range s.blocks.length).map fun j=>g.σ.getD (fi j) 0)->k∈g.σ:=fun k hk=>by
  obtain⟨i,hi⟩:=zqd hk
  exact zq3 (hσ' i k hi).2
 have hown: ∀p k,g.permOwn s.blocks.length fi p=some k->∃q,g.own q=some k∧(∀p',g.permOwn s.blocks.length fi p'=some k->p'=p):=fun p k hk=>by
  have key: ∀p,g.permOwn s.blocks.length fi p=some k->g.own (p.pre fi)=some k∧(∀b o,p=.cell b o->b<s.blocks.length):=fun p hk=>by
   cases p with
   |tmp t=>exact⟨hk,fun b o e=>by cases e⟩
   |cell b o=>
    simp only[Gh.permOwn] at hk
    split at hk
    ·rename_i hlt;exact⟨hk,fun b' o' e=>by cases e;exact hlt⟩
    ·cases hk
  obtain⟨h1,h2⟩:=key p hk
  refine⟨_,h1,fun p' hk'=>?_⟩
  obtain⟨h3,h4⟩:=key p' hk'
  have:=h.sto.ownInj _ _ k h3 h1
  cases p with
  |tmp t=>
   cases p' with
   |tmp t'=>exact this
   |cell b' o'=>cases this
  |cell b o=>
   cases p' with
   |tmp t'=>cases this
   |cell b' o'=>
    simp only[Place.pre,Place.cell.injEq] at this
    have e1:=(hp.inv b (h2 b o rfl)).2
    have e2:=(hp.inv b' (h4 b' o' rfl)).2
    rw[<-this.1,e2] at e1
    rw[e1,this.2]
 refine⟨{g with σ:=(List.range s.blocks.length).map fun j=>g.σ.getD (fi j) 0,own:=g.permOwn s.blocks.length fi},?_⟩
 exact {
  ext:={h.ext with
   imm:=h.ext.imm
   immNew:=h.ext.immNew
   σ:=fun b k hb=>by
    have h1:=h.ext.σ b k hb
    have h2:=(zq1 hb).1
    have h3:=hσ b k h1
    rw[hp.fix b (by have:=h.base;omega)] at h3
    exact h3
   mineσ:=fun k hk=>h.ext.mineσ k (hmem k hk)
   mineOwn:=fun p k hk=>by obtain⟨q,hq,_⟩:=hown p k hk;exact h.ext.mineOwn q k hq}
  sto:={
   gok:=h.sto.gok
   imm:=h.sto.imm
   immσ:=fun x v hx hm=>h.sto.immσ x v hx (hmem _ hm)
   len:=by simp[AState.perm]
   nodup:=by
    show((List.range s.blocks.length).map fun j=>g.σ.getD (fi j) 0).Nodup
    unfold List.Nodup
    rw[List.pairwise_iff_getElem]
    intro i j hi hj hij
    simp only[zq4,List.length_range] at hi hj
    simp only[List.getElem_map,List.getElem_range]
    intro e
    have a1:fi i<g.σ.length:=by rw[hl];exact(hp.lt i hi).2
    have a2:fi j<g.σ.length:=by rw[hl];exact(hp.lt j hj).2
    have b1:=zB7 0 a1
    have b2:=zB7 0 a2
    rw[e] at b1
    obtain⟨_,c1⟩:=zq1 b1
    obtain⟨_,c2⟩:=zq1 b2
    have e2:=zH4 h.sto.nodup a1 a2 (by rw[c1,c2])
    have d1:=(hp.inv i hi).2
    have d2:=(hp.inv j hj).2
    rw[e2,d2] at d1
    omega
   blk:=fun i blk k hb hk=>by
    obtain⟨hlt,hk2⟩:=hσ' i k hk
    simp only[AState.perm,List.getElem?_map,List.getElem?_range hlt,Option.map_some,Option.some.injEq] at hb
    subst hb
    obtain⟨c,ty,e1,e2,e3⟩:=h.sto.blk (fi i) _ k (zB7 [] (hp.lt i hlt).2) hk2
    refine⟨c,ty,e1,by rw[zBe];exact e2,fun j x hx=>?_⟩
    rw[zEP] at hx
    cases hy:(s.blocks.getD (fi i) [])[j]? with
    |none=>rw[hy] at hx;cases hx
    |some y=>
     rw[hy] at hx;cases hx
     obtain⟨q1,q2,q3⟩:=e3 j y hy
     refine⟨(zKG _ _ _ (by rw[zBe])).2 q1,q2.ren hσ,?_⟩
     show OwnsBy g.imm w (if i<s.blocks.length then g.own (.cell (fi i) j) else none) _ _
     rw[if_pos hlt]
     exact(OwnsBy.ren _).2 q3
   ownσ:=fun p k hk=>by obtain⟨q,hq,_⟩:=hown p k hk;exact⟨fun hm=>(h.sto.ownσ q k hq).1 (hmem _ hm),(h.sto.ownσ q k hq).2⟩
   ownInj:=fun p q k hp' hq=>by obtain⟨_,_,h2⟩:=hown q k hq;exact h2 p hp'}
  size:=h.size
  tmps:=fun t=>⟨(h.tmps t).1.ren hσ,(OwnsBy.ren _).2 (h.tmps t).2⟩
  loans:=fun t p hp=>by cases hp
  defers:=h.defers
  base:=h.base}
theorem zKS: ∀(n:Nat)(P:List Nat),P.Nodup->P.length=n->(∀x,x∈P->x<n)->∀x,x<n->x∈P
 |0,_,_,_,_,x,hx=>by omega
 |n+1,P,h1,h2,h3,x,hx=>by
  by_cases hn:n∈P
  ·by_cases e:x=n
   ·rw[e];exact hn
   ·have:=zKS n (P.erase n) (h1.erase n) (by rw[List.length_erase_of_mem hn];omega) (fun y hy=>by
     have h4:=(h1.mem_erase_iff).1 hy
     have:=h3 y h4.2
     have:=h4.1
     omega) x (by omega)
    exact List.mem_of_mem_erase this
  ·cases P with
   |nil=>simp at h2
   |cons y P=>
    rw[List.nodup_cons] at h1
    have hlt: ∀z,z∈y::P->z<n:=fun z hz=>by
     have:=h3 z hz
     have:z≠n:=fun e=>hn (by rw[<-e];exact hz)
     omega
    have:=zKS n P h1.2 (by simpa using h2) (fun z hz=>hlt z (zqc _ hz)) y (hlt y (zq9 ..))
    exact(h1.1 this).elim
structure NPos (N:List (Nat×List AV)) (L:Nat->Bool) (pos:Nat->Nat) (bl:List (List AV)):Prop where
 len:bl.length=(N.filter fun q=>L q.1).length
 at_: ∀q,q∈N->L q.1=true->bl[pos q.1]? =some q.2
 inj: ∀q q',q∈N->q'∈N->L q.1=true->L q'.1=true->pos q.1=pos q'.1->q.1=q'.1
theorem NPos.start(N:List (Nat×List AV))(pos:Nat->Nat):NPos N (fun _=>false) pos []:=
 ⟨by rw[List.filter_eq_nil_iff.2 (by simp)];rfl,fun _ _ h=>(by cases h),fun _ _ _ _ h=>(by cases h)⟩
theorem filter_upd{L:Nat->Bool}{i:Nat}(hL:L i=false): ∀(N:List (Nat×List AV)),(N.map (·.1)).Nodup->(∀q,q∈N->q.1≠i)->(N.filter fun q=>if q.1=i then true else L q.1)=N.filter fun q=>L q.1
 |[],_,_=>rfl
 |q::N,hnd,hne=>by
  have h1:=hne q (zq9 ..)
  have:=filter_upd hL N (List.nodup_cons.1 hnd).2 (fun q hq=>hne q (zqc _ hq))
  simp only[List.filter_cons,if_neg h1,this]
theorem zLT{L:Nat->Bool}{i:Nat}(hL:L i=false): ∀(N:List (Nat×List AV)),(N.map (·.1)).Nodup->i∈N.map (·.1)->(N.filter fun q=>if q.1=i then true else L q.1).length=(N.filter fun q=>L q.1).length+1
 |[],_,h=>by simp at h
 |q::N,hnd,hm=>by
  rw[List.map_cons,List.nodup_cons] at hnd
  by_cases e:q.1=i
  ·have:=filter_upd (i:=i) hL N hnd.2 (fun q' hq' e'=>hnd.1 (by rw[e,<-e'];exact List.mem_map.2 ⟨q',hq',rfl⟩))
   simp only[List.filter_cons,e,if_true,hL,Bool.false_eq_true,if_false,this,List.length_cons]
  ·have hm':i∈N.map (·.1):=by
    rcases List.mem_cons.1 hm with h|h
    ·exact(e h.symm).elim
    ·exact h
   have:=zLT hL N hnd.2 hm'
   simp only[List.filter_cons,if_neg e]
   split
   ·simp only[List.length_cons,this]
   ·exact this
theorem NPos.push{N:List (Nat×List AV)}{L:Nat->Bool}{pos:Nat->Nat}{bl:List (List AV)}(h:NPos N L pos bl){blk:List AV}(hq:(i,blk)∈N)(hnd:(N.map (·.1)).Nodup)(hL:L i=false):
 NPos N (fun j=>if j=i then true else L j) (fun j=>if j=i then bl.length else pos j) (bl++[blk]):=by
 have hlt: ∀q,q∈N->L q.1=true->pos q.1<bl.length:=fun q hq hl=>(zq1 (h.at_ q hq hl)).1
 have huniq: ∀q,q∈N->q.1=i->q.2=blk:=fun q hq' e=>by
  obtain⟨a,ha⟩:=zqd hq
  obtain⟨b,hb⟩:=zqd hq'
  have h1:(N.map (·.1))[a]? =some i:=by rw[List.getElem?_map,ha];rfl
  have h2:(N.map (·.1))[b]? =some i:=by rw[List.getElem?_map,hb];simp[e]
  obtain⟨l1,e1⟩:=zq1 h1
  obtain⟨l2,e2⟩:=zq1 h2
  have:=zH4 hnd l1 l2 (by rw[e1,e2])
  subst this
  rw[ha] at hb;cases hb;rfl
 refine⟨?_,fun q hq' hl=>?_,fun q q' hq1 hq2 hl1 hl2 hp=>?_⟩
 ·rw[List.length_append,zLT hL N hnd (List.mem_map.2 ⟨_,hq,rfl⟩),h.len];rfl
 ·by_cases e:q.1=i
  ·simp only[if_pos e]
   rw[huniq q hq' e];simp
  ·simp only[if_neg e] at hl ⊢
   rw[List.getElem?_append_left (hlt q hq' hl)];exact h.at_ q hq' hl
 ·by_cases e1:q.1=i<;>by_cases e2:q'.1=i
  ·rw[e1,e2]
  ·simp only[if_pos e1,if_neg e2] at hp hl2
   have:=hlt q' hq2 hl2;omega
  ·simp only[if_neg e1,if_pos e2] at hp hl1
   have:=hlt q hq1 hl1;omega
  ·simp only[if_neg e1,if_neg e2] at hp hl1 hl2
   exact h.inj q q' hq1 hq2 hl1 hl2 hp
theorem NPos.skip{N:List (Nat×List AV)}{L:Nat->Bool}{pos:Nat->Nat}{bl:List (List AV)}(h:NPos N L pos bl)(hi:N.all (fun q=>q.1 !=i)=true):NPos N (fun j=>if j=i then true else L j) pos bl:=by
 have hne: ∀q,q∈N->q.1≠i:=fun q hq=>by have:=(zq8 hi) q hq;simpa using this
 refine⟨?_,fun q hq hl=>?_,fun q q' hq1 hq2 hl1 hl2 hp=>?_⟩
 ·rw[h.len]
  congr 1
  apply List.filter_congr
  intro q hq
  rw[if_neg (hne q hq)]
 ·simp only[if_neg (hne q hq)] at hl;exact h.at_ q hq hl
 ·simp only[if_neg (hne q hq1)] at hl1
  simp only[if_neg (hne q' hq2)] at hl2
  exact h.inj q q' hq1 hq2 hl1 hl2 hp
def AState.renamed(s:AState)(f:Nat->Nat)(bs:List (List AV)):AState:=⟨fun t=>(s.tmps t).ren f,fun _=>none,s.n,s.base,bs⟩
section
variable (s:AState) (f:Nat->Nat) (bs:List (List AV)) (t:Nat)
@[simp] theorem get_renamed:(s.renamed f bs).get t=(s.get t).ren f:=rfl
@[simp] theorem n_renamed:(s.renamed f bs).n=s.n:=rfl
@[simp] theorem base_renamed:(s.renamed f bs).base=s.base:=rfl
@[simp] theorem blocks_renamed:(s.renamed f bs).blocks=bs:=rfl
@[simp] theorem loans_renamed:(s.renamed f bs).loans t=none:=rfl
end
theorem NPos.ghost{N:List (Nat×List AV)}{L:Nat->Bool}{pos:Nat->Nat}{bl pre:List (List AV)}(h:NPos N L pos bl)(hnd:(N.map (·.1)).Nodup)(hall: ∀q,q∈N->L q.1=true)(hb:s.blocks=pre++bl)(hbase:s.base<=pre.length):
 ∃f:Nat->Nat,(∀b,b<pre.length->f b=b)∧(∀(k:Nat) q,N[k]? =some q->f (pre.length+pos q.1)=pre.length+k)∧
  Ghost s (s.renamed f (pre.map (AV.renL f)++N.map fun q=>AV.renL f q.2)):=by
 have hlen:bl.length=N.length:=by
  rw[h.len,List.filter_eq_self.2 (fun q hq=>hall q hq)]
 generalize hP:N.map (fun q=>pos q.1)=P
 have hPl:P.length=N.length:=by rw[<-hP,zq4]
 have hPget: ∀(k:Nat) q,N[k]? =some q->P[k]? =some (pos q.1):=fun k q hk=>by rw[<-hP,List.getElem?_map,hk];rfl
 have hlt: ∀q,q∈N->pos q.1<N.length:=fun q hq=>by rw[<-hlen];exact(zq1 (h.at_ q hq (hall q hq))).1
 have hPnd:P.Nodup:=by
  unfold List.Nodup
  rw[List.pairwise_iff_getElem]
  intro i j hi hj hij e
  rw[hPl] at hi hj
  have a1:=hPget i _ (zq2 hi)
  have a2:=hPget j _ (zq2 hj)
  obtain⟨_,b1⟩:=zq1 a1
  obtain⟨_,b2⟩:=zq1 a2
  have:=h.inj _ _ (List.getElem_mem hi) (List.getElem_mem hj) (hall _ (List.getElem_mem hi)) (hall _ (List.getElem_mem hj)) (by rw[<-b1,<-b2,e])
  have h5:(N.map (·.1))[i]? =some (N[i].1):=by rw[List.getElem?_map,zq2 hi];rfl
  have h6:(N.map (·.1))[j]? =some (N[j].1):=by rw[List.getElem?_map,zq2 hj];rfl
  obtain⟨l1,e1⟩:=zq1 h5
  obtain⟨l2,e2⟩:=zq1 h6
  have:=zH4 hnd l1 l2 (by rw[e1,e2,this])
  omega
 have hfull:=zKS N.length P hPnd hPl (fun x hx=>by
  rw[<-hP] at hx
  obtain⟨q,hq,rfl⟩:=List.mem_map.1 hx
  exact hlt q hq)
 have hfi: ∀k,k<N.length->P.idxOf (P.getD k 0)=k:=fun k hk=>by
  rw[zq5,zq2 (by omega)]
  simp only[Option.getD_some]
  exact hPnd.idxOf_getElem k (by omega)
 have hPlt: ∀k,k<N.length->P.getD k 0<N.length:=fun k hk=>by
  rw[zq5,hPget k _ (zq2 hk)]
  exact hlt _ (List.getElem_mem hk)
 have hidx: ∀x,x<N.length->P.idxOf x<N.length∧P.getD (P.idxOf x) 0=x:=fun x hx=>by
  have hm:=hfull x hx
  have hl:P.idxOf x<P.length:=List.idxOf_lt_length_of_mem hm
  refine⟨by omega,?_⟩
  rw[zq5,zq2 hl]
  simp
 have hp:PermOk (fun b=>if b<pre.length then b else pre.length+P.idxOf (b-pre.length)) (fun j=>if j<pre.length then j else pre.length+P.getD (j-pre.length) 0) s.blocks.length s.base:=by
  have hsl:s.blocks.length=pre.length+N.length:=by rw[hb,List.length_append,hlen]
  refine⟨fun b hb'=>?_,fun b hb'=>?_,fun b hb'=>if_pos (by omega),by omega⟩
  ·constructor
   ·split
    ·omega
    ·have:=(hidx (b-pre.length) (by omega)).1;omega
   ·split
    ·omega
    ·have:=hPlt (b-pre.length) (by omega);omega
  ·constructor
   ·by_cases e:b<pre.length
    ·simp[e]
    ·have:=hidx (b-pre.length) (by omega)
     simp only[if_neg e]
     rw[if_neg (by omega),Nat.add_sub_cancel_left,this.2];omega
   ·by_cases e:b<pre.length
    ·simp[e]
    ·have:=hfi (b-pre.length) (by omega)
     simp only[if_neg e]
     rw[if_neg (by omega),Nat.add_sub_cancel_left,this];omega
 refine⟨fun b=>if b<pre.length then b else pre.length+P.idxOf (b-pre.length),fun b hb'=>if_pos hb',fun k q hk=>?_,fun F g a w hs=>?_⟩
 ·have hk':=(zq1 hk).1
  simp only
  rw[if_neg (by omega),Nat.add_sub_cancel_left]
  have h1:=hPget k q hk
  have h2:=hfi k hk'
  rw[zq5,h1] at h2
  simp only[Option.getD_some] at h2
  rw[h2]
 ·obtain⟨g',hs'⟩:=hs.perm hp
  refine⟨g',?_⟩
  have hbl:(s.perm (fun b=>if b<pre.length then b else pre.length+P.idxOf (b-pre.length)) (fun j=>if j<pre.length then j else pre.length+P.getD (j-pre.length) 0)).blocks=
   pre.map (AV.renL fun b=>if b<pre.length then b else pre.length+P.idxOf (b-pre.length))++N.map fun q=>AV.renL (fun b=>if b<pre.length then b else pre.length+P.idxOf (b-pre.length)) q.2:=by
   apply List.ext_getElem?
   intro j
   have hsl:s.blocks.length=pre.length+N.length:=by rw[hb,List.length_append,hlen]
   simp only[AState.perm,List.getElem?_map]
   by_cases hj:j<pre.length
   ·rw[List.getElem?_range (by omega),List.getElem?_append_left (by simpa using hj),List.getElem?_map]
    simp only[Option.map_some,if_pos hj,hb]
    rw[zq5,List.getElem?_append_left hj,zq2 hj];rfl
   ·by_cases hj2:j<pre.length+N.length
    ·rw[List.getElem?_range (by omega),List.getElem?_append_right (by simpa using hj),List.getElem?_map,zq4,zq2 (by omega)]
     simp only[Option.map_some,if_neg hj,hb]
     have h1:=hPget (j-pre.length) _ (zq2 (by omega))
     rw[zq5,List.getElem?_append_right (by omega),Nat.add_sub_cancel_left,zq5 (l:=P),h1]
     simp only[Option.getD_some]
     rw[h.at_ _ (List.getElem_mem (by omega)) (hall _ (List.getElem_mem (by omega)))];rfl
    ·rw[List.getElem?_eq_none (by simp;omega),List.getElem?_eq_none (by simp;omega)];rfl
  rw[<-hbl]
  exact hs'
mutual
def AV.refsIn(ρ:List Nat):AV->Bool
 |.mptr b _=>ρ.contains b
 |.msl b _ _=>ρ.contains b
 |.baddr _ b=>ρ.contains b
 |.fn _ fs cs=>AV.refsInL ρ fs&&AV.refsInL ρ cs
 |.iface _ v=>v.refsIn ρ
 |.agg cs=>AV.refsInL ρ cs
 |.tup cs=>AV.refsInL ρ cs
 |.otup _ _ cs=>AV.refsInL ρ cs
 |_=>true
def AV.refsInL(ρ:List Nat):List AV->Bool
 |[]=>true
 |x::l=>x.refsIn ρ&&AV.refsInL ρ l
end
mutual
def AV.refs:AV->List Nat
 |.mptr b _=>[b]
 |.msl b _ _=>[b]
 |.baddr _ b=>[b]
 |.fn _ fs cs=>AV.refsL fs++AV.refsL cs
 |.iface _ v=>v.refs
 |.agg cs=>AV.refsL cs
 |.tup cs=>AV.refsL cs
 |.otup _ _ cs=>AV.refsL cs
 |_=>[]
def AV.refsL:List AV->List Nat
 |[]=>[]
 |x::l=>x.refs++AV.refsL l
end
def zL1:List Nat->Nat->Nat
 |[],_=>0
 |r::ρ,b=>if r=b then 0 else zL1 ρ b+1
theorem zL0: ∀{ρ:List Nat}{b:Nat},ρ.contains b=true->ρ[zL1 ρ b]? =some b
 |[],b,h=>by simp at h
 |r::ρ,b,h=>by
  unfold zL1
  split
  ·rename_i e;subst e;rfl
  ·rename_i e
   simp only[List.contains_cons,Bool.or_eq_true,beq_iff_eq] at h
   rcases h with h|h
   ·exact absurd h.symm e
   ·simpa using zL0 h
theorem zJG{n b:Nat}(h:ρ.contains b=true):zDy ρ n (zL1 ρ b)=b:=by
 simp only[zDy,zq5,zL0 h,Option.getD_some]
theorem numIn_lt{b:Nat}(h:ρ.contains b=true):zL1 ρ b<ρ.length:=(zq1 (zL0 h)).1
mutual
theorem ren_numIn{ρ:List Nat}{n:Nat}: ∀x:AV,x.refsIn ρ=true->(x.ren (zL1 ρ)).ren (zDy ρ n)=x
 |.mptr b o,h=>by simp only[AV.refsIn] at h;simp only[AV.ren,zJG h]
 |.msl b ec m,h=>by simp only[AV.refsIn] at h;simp only[AV.ren,zJG h]
 |.baddr t b,h=>by simp only[AV.refsIn] at h;simp only[AV.ren,zJG h]
 |.fn f fs cs,h=>by
  simp only[AV.refsIn,zq7] at h
  simp only[AV.ren,zFZ fs h.1,zFZ cs h.2]
 |.iface t v,h=>by simp only[AV.refsIn] at h;simp only[AV.ren,ren_numIn v h]
 |.agg cs,h=>by simp only[AV.refsIn] at h;simp only[AV.ren,zFZ cs h]
 |.tup cs,h=>by simp only[AV.refsIn] at h;simp only[AV.ren,zFZ cs h]
 |.otup _ _ cs,h=>by simp only[AV.refsIn] at h;simp only[AV.ren,zFZ cs h]
 |.int _ _,_=>rfl
 |.bool _,_=>rfl
 |.str _,_=>rfl
 |.nilp,_=>rfl
 |.cptr _,_=>rfl
 |.nsl,_=>rfl
 |.osl _ _,_=>rfl
 |.osq _ _,_=>rfl
 |.sl _,_=>rfl
 |.nilfn,_=>rfl
 |.nilif,_=>rfl
 |.e0,_=>rfl
 |.omp _ _,_=>rfl
 |.mpx,_=>rfl
 |.top,_=>rfl
theorem zFZ{ρ:List Nat}{n:Nat}: ∀l:List AV,AV.refsInL ρ l=true->AV.renL (zDy ρ n) (AV.renL (zL1 ρ) l)=l
 |[],_=>rfl
 |x::l,h=>by
  simp only[AV.refsInL,zq7] at h
  simp only[AV.renL,ren_numIn x h.1,zFZ l h.2]
end
mutual
theorem zLD{ρ:List Nat}: ∀x:AV,x.refsIn ρ=true->(x.ren (zL1 ρ)).under ρ.length=true
 |.mptr b o,h=>by simp only[AV.refsIn] at h;simpa only[AV.ren,AV.under,decide_eq_true_eq] using numIn_lt h
 |.msl b ec m,h=>by simp only[AV.refsIn] at h;simpa only[AV.ren,AV.under,decide_eq_true_eq] using numIn_lt h
 |.baddr t b,h=>by simp only[AV.refsIn] at h;simpa only[AV.ren,AV.under,decide_eq_true_eq] using numIn_lt h
 |.fn f fs cs,h=>by
  simp only[AV.refsIn,zq7] at h
  simp only[AV.ren,AV.under,zDz fs h.1,zDz cs h.2,Bool.and_self]
 |.iface t v,h=>by simp only[AV.refsIn] at h;simp only[AV.ren,AV.under,zLD v h]
 |.agg cs,h=>by simp only[AV.refsIn] at h;simp only[AV.ren,AV.under,zDz cs h]
 |.tup cs,h=>by simp only[AV.refsIn] at h;simp only[AV.ren,AV.under,zDz cs h]
 |.otup _ _ cs,h=>by simp only[AV.refsIn] at h;simp only[AV.ren,AV.under,zDz cs h]
 |.int _ _,_=>rfl
 |.bool _,_=>rfl
 |.str _,_=>rfl
 |.nilp,_=>rfl
 |.cptr _,_=>rfl
 |.nsl,_=>rfl
 |.osl _ _,_=>rfl
 |.osq _ _,_=>rfl
 |.sl _,_=>rfl
 |.nilfn,_=>rfl
 |.nilif,_=>rfl
 |.e0,_=>rfl
 |.omp _ _,_=>rfl
 |.mpx,_=>rfl
 |.top,_=>rfl
theorem zDz{ρ:List Nat}: ∀l:List AV,AV.refsInL ρ l=true->AV.underL ρ.length (AV.renL (zL1 ρ) l)=true
 |[],_=>rfl
 |x::l,h=>by
  simp only[AV.refsInL,zq7] at h
  simp only[AV.renL,AV.underL,zLD x h.1,zDz l h.2,Bool.and_self]
end
def small(ρ:List Nat)(bs:List (List AV)):List (List AV):=ρ.map fun r=>AV.renL (zL1 ρ) (bs.getD r [])
def zGn(ρ:List Nat)(args:List AV)(bs:List (List AV)):Bool:=
 noDup ρ&&AV.refsInL ρ args&&ρ.all fun r=>decide (r<bs.length)&&AV.refsInL ρ (bs.getD r [])
theorem zIn{m:Nat}: ∀{l:List (List AV)},(∀b,b∈l->AV.underL m b=true)->underBlocks m l=true
 |[],_=>rfl
 |x::l,h=>by
  simp only[underBlocks,zq7]
  exact⟨h x (zq9 ..),zIn fun b hb=>h b (zqc _ hb)⟩
theorem zJ3{f:Nat->Nat}{ρ0:List Nat}{bs:List (List AV)}: ∀(ρ:List Nat),(∀r,r∈ρ->r<bs.length∧AV.renL f (AV.renL (zL1 ρ0) (bs.getD r []))=bs.getD r [])->
 zLA f bs ρ (ρ.map fun r=>AV.renL (zL1 ρ0) (bs.getD r []))
 |[],_=>by simp[zLA]
 |r::ρ,h=>by
  obtain⟨h1,h2⟩:=h r (zq9 ..)
  refine⟨?_,zJ3 ρ fun q hq=>h q (zqc _ hq)⟩
  rw[h2];exact zB7 [] h1
theorem zHp{bs:List (List AV)}(h:zGn ρ args bs=true):zLY ρ (AV.renL (zL1 ρ) args) (small ρ bs) bs∧AV.renL (zDy ρ bs.length) (AV.renL (zL1 ρ) args)=args:=by
 simp only[zGn,zq7,List.all_eq_true,decide_eq_true_eq] at h
 obtain⟨⟨h1,h2⟩,h3⟩:=h
 have hl:(small ρ bs).length=ρ.length:=by simp[small]
 refine⟨⟨h1,by rw[hl];exact zDz _ h2,?_,zJ3 ρ fun r hr=>⟨(h3 r hr).1,zFZ _ (h3 r hr).2⟩⟩,zFZ _ h2⟩
 rw[hl]
 refine zIn fun b hb=>?_
 obtain⟨r,hr,rfl⟩:=List.mem_map.1 hb
 exact zDz _ (h3 r hr).2
def reach(bs:List (List AV)):Nat->List Nat->List Nat
 |0,ρ=>ρ
 |n+1,ρ=>let ρ':=(ρ++ρ.flatMap fun r=>AV.refsL (bs.getD r [])).eraseDups;if ρ'.length=ρ.length then ρ else reach bs n ρ'
theorem place_eq{n m b:Nat}(hlt: ∀q,q∈ρ->q<n)(h:ρ.contains (zDy ρ n b)=true):zDy ρ n b=zDy ρ m b:=by
 by_cases hb:b<ρ.length
 ·simp only[zDy,zq5,zq2 hb,Option.getD_some]
 ·have e:zDy ρ n b=n+(b-ρ.length):=by simp only[zDy,zq5,List.getElem?_eq_none (Nat.le_of_not_lt hb),Option.getD_none]
  have h1:zDy ρ n b∈ρ:=by rwa [List.contains_iff_mem] at h
  have:=hlt _ h1
  omega
mutual
theorem zLm{ρ:List Nat}{n m:Nat}(hlt: ∀q,q∈ρ->q<n): ∀x:AV,(x.ren (zDy ρ n)).refsIn ρ=true->x.ren (zDy ρ n)=x.ren (zDy ρ m)
 |.mptr b o,h=>by simp only[AV.ren,AV.refsIn] at h;simp only[AV.ren,place_eq (m:=m) hlt h]
 |.msl b ec k,h=>by simp only[AV.ren,AV.refsIn] at h;simp only[AV.ren,place_eq (m:=m) hlt h]
 |.baddr t b,h=>by simp only[AV.ren,AV.refsIn] at h;simp only[AV.ren,place_eq (m:=m) hlt h]
 |.fn f fs cs,h=>by
  simp only[AV.ren,AV.refsIn,zq7] at h
  simp only[AV.ren];rw[zF5 (m:=m) hlt fs h.1,zF5 (m:=m) hlt cs h.2]
 |.iface t v,h=>by simp only[AV.ren,AV.refsIn] at h;simp only[AV.ren];rw[zLm (m:=m) hlt v h]
 |.agg cs,h=>by simp only[AV.ren,AV.refsIn] at h;simp only[AV.ren];rw[zF5 (m:=m) hlt cs h]
 |.tup cs,h=>by simp only[AV.ren,AV.refsIn] at h;simp only[AV.ren];rw[zF5 (m:=m) hlt cs h]
 |.otup _ _ cs,h=>by simp only[AV.ren,AV.refsIn] at h;simp only[AV.ren];rw[zF5 (m:=m) hlt cs h]
 |.int _ _,_=>rfl
 |.bool _,_=>rfl
 |.str _,_=>rfl
 |.nilp,_=>rfl
 |.cptr _,_=>rfl
 |.nsl,_=>rfl
 |.osl _ _,_=>rfl
 |.osq _ _,_=>rfl
 |.sl _,_=>rfl
 |.nilfn,_=>rfl
 |.nilif,_=>rfl
 |.e0,_=>rfl
 |.omp _ _,_=>rfl
 |.mpx,_=>rfl
 |.top,_=>rfl
theorem zF5{ρ:List Nat}{n m:Nat}(hlt: ∀q,q∈ρ->q<n): ∀l:List AV,AV.refsInL ρ (AV.renL (zDy ρ n) l)=true->AV.renL (zDy ρ n) l=AV.renL (zDy ρ m) l
 |[],_=>rfl
 |x::l,h=>by
  simp only[AV.renL,AV.refsInL,zq7] at h
  simp only[AV.renL,zLm (m:=m) hlt x h.1,zF5 (m:=m) hlt l h.2]
end
theorem lay_snoc(f:Nat->Nat): ∀(ρ:List Nat)(l bs zs:List (List AV)),l.length<=ρ.length->(∀q,q∈ρ->q<bs.length)->lay f ρ l (bs++zs)=lay f ρ l bs++zs
 |[],l,bs,zs,h,_=>by
  have:l=[]:=List.eq_nil_of_length_eq_zero (by simpa using h)
  subst this
  simp[lay]
 |r::ρ,b::l,bs,zs,h,hq=>by
  simp only[lay]
  rw[List.set_append_left _ _ (hq r (zq9 ..))]
  exact lay_snoc f ρ l _ zs (by simpa using h) (fun q h'=>by simpa using hq q (zqc _ h'))
 |_::_,[],bs,zs,_,_=>rfl
theorem zL6(f g:Nat->Nat): ∀(ρ:List Nat)(l bs:List (List AV)),(∀b,b∈l->AV.renL f b=AV.renL g b)->lay f ρ l bs=lay g ρ l bs
 |[],l,bs,h=>by
  simp only[lay]
  congr 1
  exact List.map_congr_left h
 |r::ρ,b::l,bs,h=>by
  simp only[lay]
  rw[h b (zq9 ..)]
  exact zL6 f g ρ l _ fun x hx=>h x (zqc _ hx)
 |_::_,[],bs,_=>rfl
theorem lay_len(f:Nat->Nat): ∀(ρ:List Nat)(l bs:List (List AV)),ρ.length<=l.length->(lay f ρ l bs).length=bs.length+(l.length-ρ.length)
 |[],l,bs,_=>by simp[lay]
 |r::ρ,b::l,bs,h=>by
  simp only[lay]
  rw[lay_len f ρ l _ (by simpa using h)]
  simp
 |_::_,[],bs,h=>by simp at h
theorem framed_ext{bs bs1:List (List AV)}{r:AV}(hraw:Raw P f (AV.renL (zL1 ρ) args) (small ρ bs) r bs1)(hcl:zGn ρ args bs=true)(hge:ρ.length<=bs1.length)
 (hc2:zGn ρ [r.ren (zDy ρ bs.length)] (lay (zDy ρ bs.length) ρ bs1 bs)=true) (hl:(lay (zDy ρ bs.length) ρ bs1 bs).length=bs.length) (zs:List (List AV)):
 RawK P f args (bs++zs) (r.ren (zDy ρ bs.length)) (lay (zDy ρ bs.length) ρ bs1 bs++zs) (fun b=>b∉ρ):=by
 have hcl0:=hcl
 simp only[zGn,zq7,List.all_eq_true,decide_eq_true_eq] at hcl0 hc2
 obtain⟨⟨h1,h2⟩,h3⟩:=hcl0
 obtain⟨⟨_,h5⟩,h6⟩:=hc2
 have hlt: ∀q,q∈ρ->q<bs.length:=fun q hq=>(h3 q hq).1
 have hcl':zGn ρ args (bs++zs)=true:=by
  simp only[zGn,zq7,List.all_eq_true,decide_eq_true_eq]
  refine⟨⟨h1,h2⟩,fun q hq=>⟨by have:=hlt q hq;simp;omega,?_⟩⟩
  rw[zEG (hlt q hq)];exact(h3 q hq).2
 have hsm:small ρ (bs++zs)=small ρ bs:=List.map_congr_left fun q hq=>by rw[zEG (hlt q hq)]
 obtain⟨hfr,hargs⟩:=zHp hcl'
 rw[hsm] at hfr
 have hk:=hraw.frameK ρ (bs++zs) hfr
 rw[hargs] at hk
 have hle:bs1.length<=ρ.length:=by
  rw[lay_len _ _ _ _ hge] at hl;omega
 have hres:r.ren (zDy ρ (bs++zs).length)=r.ren (zDy ρ bs.length):=by
  simp only[AV.refsInL,zq7] at h5
  exact(zLm hlt r h5.1).symm
 have hblk: ∀b,b∈bs1->AV.renL (zDy ρ (bs++zs).length) b=AV.renL (zDy ρ bs.length) b:=fun b hb=>by
  obtain⟨j,hj⟩:=zqd hb
  have hjl:j<ρ.length:=by have:=(zq1 hj).1;omega
  have hat:=lay_at (zDy ρ bs.length) ρ bs1 bs j ρ[j] (zKT h1) hlt hge (zq2 hjl)
  rw[hj] at hat
  have:=(h6 ρ[j] (List.getElem_mem hjl)).2
  rw[zq5,hat] at this
  exact(zF5 hlt b this).symm
 rw[hres,zL6 _ (zDy ρ bs.length) ρ bs1 (bs++zs) hblk,lay_snoc _ _ _ _ _ hle hlt] at hk
 exact hk
theorem place_u{n m b:Nat}(hb:b<ρ.length):zDy ρ n b=zDy ρ m b:=by
 simp only[zDy,zq5,zq2 hb,Option.getD_some]
mutual
theorem ren_u{ρ:List Nat}{n m:Nat}: ∀x:AV,x.under ρ.length=true->x.ren (zDy ρ n)=x.ren (zDy ρ m)
 |.mptr b o,h=>by simp only[AV.under,decide_eq_true_eq] at h;simp only[AV.ren,place_u (n:=n) (m:=m) h]
 |.msl b ec k,h=>by simp only[AV.under,decide_eq_true_eq] at h;simp only[AV.ren,place_u (n:=n) (m:=m) h]
 |.baddr t b,h=>by simp only[AV.under,decide_eq_true_eq] at h;simp only[AV.ren,place_u (n:=n) (m:=m) h]
 |.fn f fs cs,h=>by
  simp only[AV.under,zq7] at h
  simp only[AV.ren];rw[zLn (n:=n) (m:=m) fs h.1,zLn (n:=n) (m:=m) cs h.2]
 |.iface t v,h=>by simp only[AV.under] at h;simp only[AV.ren];rw[ren_u (n:=n) (m:=m) v h]
 |.agg cs,h=>by simp only[AV.under] at h;simp only[AV.ren];rw[zLn (n:=n) (m:=m) cs h]
 |.tup cs,h=>by simp only[AV.under] at h;simp only[AV.ren];rw[zLn (n:=n) (m:=m) cs h]
 |.otup _ _ cs,h=>by simp only[AV.under] at h;simp only[AV.ren];rw[zLn (n:=n) (m:=m) cs h]
 |.int _ _,_=>rfl
 |.bool _,_=>rfl
 |.str _,_=>rfl
 |.nilp,_=>rfl
 |.cptr _,_=>rfl
 |.nsl,_=>rfl
 |.osl _ _,_=>rfl
 |.osq _ _,_=>rfl
 |.sl _,_=>rfl
 |.nilfn,_=>rfl
 |.nilif,_=>rfl
 |.e0,_=>rfl
 |.omp _ _,_=>rfl
 |.mpx,_=>rfl
 |.top,_=>rfl
theorem zLn{ρ:List Nat}{n m:Nat}: ∀l:List AV,AV.underL ρ.length l=true->AV.renL (zDy ρ n) l=AV.renL (zDy ρ m) l
 |[],_=>rfl
 |x::l,h=>by
  simp only[AV.underL,zq7] at h
  simp only[AV.renL,ren_u (n:=n) (m:=m) x h.1,zLn (n:=n) (m:=m) l h.2]
end
theorem zJy{m:Nat}: ∀{l:List (List AV)},underBlocks m l=true->∀b,b∈l->AV.underL m b=true
 |[],_,b,hb=>by cases hb
 |x::l,h,b,hb=>by
  simp only[underBlocks,zq7] at h
  rcases List.mem_cons.1 hb with rfl|hb
  ·exact h.1
  ·exact zJy h.2 b hb
theorem stands_ext{ρ0:List Nat}{n m:Nat}{bs zs:List (List AV)}: ∀{ρ:List Nat}{l:List (List AV)},(∀b,b∈l->AV.underL ρ0.length b=true)->zLA (zDy ρ0 n) bs ρ l->zLA (zDy ρ0 m) (bs++zs) ρ l
 |[],[],_,h=>h
 |r::ρ,b::l,hu,h=>by
  obtain⟨h1,h2⟩:=h
  refine⟨?_,stands_ext (fun x hx=>hu x (zqc _ hx)) h2⟩
  rw[List.getElem?_append_left (zq1 h1).1,h1,zLn (n:=n) (m:=m) b (hu b (zq9 ..))]
 |[],_::_,_,h=>h.elim
 |_::_,[],_,h=>h.elim
theorem Raw.frameZ{bS bS':List (List AV)}(h:Raw P f args bS res bS')(ρ:List Nat)(bs:List (List AV))(hok:zLY ρ args bS bs)
 (hl:bS'.length=bS.length) (hr:res.under bS.length=true) (hu:underBlocks bS.length bS'=true):
 FrRaw P f ρ (AV.renL (zDy ρ bs.length) args) bs (res.ren (zDy ρ bs.length)) (lay (zDy ρ bs.length) ρ bS' bs):=by
 obtain⟨h1,h2,h3,h4⟩:=hok
 have hlen:=zGP h4
 have hlt: ∀q,q∈ρ->q<bs.length:=fun q hq=>by
  obtain⟨j,hj⟩:=zqd hq
  have hjl:j<bS.length:=by rw[<-hlen];exact(zq1 hj).1
  have:=zIt h4 j q _ hj (zq2 hjl)
  exact(zq1 this).1
 rw[<-hlen] at h2 h3 hr hu hl
 refine⟨fun zs=>?_,?_,fun b hb=>?_⟩
 ·have hk:=h.frameK ρ (bs++zs) ⟨h1,by rw[<-hlen];exact h2,by rw[<-hlen];exact h3,stands_ext (zJy h3) h4⟩
  rw[zLn (n:=(bs++zs).length) (m:=bs.length) args h2,ren_u (n:=(bs++zs).length) (m:=bs.length) res hr,
   zL6 _ (zDy ρ bs.length) ρ bS' (bs++zs) (fun b hb=>zLn b (zJy hu b hb)),lay_snoc _ _ _ _ _ (by omega) hlt] at hk
  exact hk
 ·rw[lay_len _ _ _ _ (by omega)];omega
 ·rcases Nat.lt_or_ge b bs.length with hlt'|hge
  ·rw[zq5,zH5 _ _ _ _ _ hb hlt',<-zq5]
  ·rw[zq5,zq5,List.getElem?_eq_none (by rw[lay_len _ _ _ _ (by omega)];omega),List.getElem?_eq_none hge]
def AState.withB(s:AState)(bs:List (List AV)):AState:={s with blocks:=bs}
section
variable (s:AState) (t:Nat) (bs:List (List AV))
@[simp] theorem get_withB:(s.withB bs).get t=s.get t:=rfl
@[simp] theorem n_withB:(s.withB bs).n=s.n:=rfl
@[simp] theorem base_withB:(s.withB bs).base=s.base:=rfl
@[simp] theorem blocks_withB:(s.withB bs).blocks=bs:=rfl
@[simp] theorem loans_withB:(s.withB bs).loans t=s.loans t:=rfl
end
theorem zJY{b:Nat}: ∀(cs:List AV)(o:Nat)(s:AState),o+cs.length=(s.blocks.getD b []).length->b<s.blocks.length->(∀t,s.loans t=none)->s.setCells b o cs=s.withB (s.blocks.set b ((s.blocks.getD b []).take o++cs))
 |[],o,s,h,hb,hl=>by
  have e:(s.blocks.getD b []).take o=s.blocks.getD b []:=List.take_of_length_le (by simpa using Nat.le_of_eq h.symm)
  have e2:s.blocks.getD b []=s.blocks[b]:=by rw[zq5,zq2 hb];rfl
  simp only[AState.setCells,List.append_nil,e,AState.withB]
  rw[e2,List.set_getElem_self]
 |x::xs,o,s,h,hb,hl=>by
  have h1:(s.setCell b o x).blocks=s.blocks.set b ((s.blocks.getD b []).set o x):=rfl
  have h2:(s.setCell b o x).blocks.getD b []=(s.blocks.getD b []).set o x:=by
   rw[h1,zq5,List.getElem?_set_self hb];rfl
  have hl': ∀t,(s.setCell b o x).loans t=none:=fun t=>by
   show(if s.loans t=some (.cell b o) then none else s.loans t)=none
   rw[hl t];simp
  have ho:o<(s.blocks.getD b []).length:=by rw[<-h];simp
  show(s.setCell b o x).setCells b (o+1) xs=_
  rw[zJY xs (o+1) _ (by rw[h2,List.length_set,<-h];simp;omega) (by rw[h1,List.length_set];exact hb) hl',h2,h1]
  have e3:((s.blocks.getD b []).set o x).take (o+1)++xs=(s.blocks.getD b []).take o++x::xs:=by
   rw[List.take_succ_eq_append_getElem (by rw[List.length_set];exact ho),List.getElem_set_self,List.take_set,List.append_assoc]
   congr 1
   rw[List.set_eq_of_length_le (by rw[List.length_take];exact Nat.min_le_left _ _)]
  rw[e3,List.set_set]
  have hf:(s.setCell b o x).loans=s.loans:=funext fun t=>by rw[hl' t,hl t]
  show(⟨_,_,_,_,_⟩:AState)=⟨_,_,_,_,_⟩
  rw[hf]
  rfl
theorem store_all{x y:Operand}(b:Nat)(v:AV)(A:List AV){i:TypeInfo}(ho:o.op=.store t x y)(hd:o.dst=none)(hi:P.info? t=some i)(hx:s.ev x=.mptr b 0)
 (hv:s.takeV y=v) (hS:s.takeS y=s) (h1:v.owns1=false) (h2:v.solid=true) (h3:A.all AV.one=true) (hA:v.cells.map AV.copy=A) (h4:A.length=i.size) (h5:(s.blocks.getD b []).length=i.size)
 (hb:b<s.blocks.length) (hl: ∀t,s.loans t=none) (hK:K (s.withB (s.blocks.set b A))):AStep P o s K:=by
 have hr:zF4 P s t x y=some ⟨v.solid=true∧A.all AV.one=true∧v.cells.length=i.size∧0+i.size<=(s.blocks.getD b []).length,.top,none,s.setCells b 0 A⟩:=by
  unfold zF4
  rw[hx,hi]
  simp only[hv,h1,hS,hA,Bool.false_eq_true,if_false]
 have hlen:v.cells.length=i.size:=by rw[<-h4,<-hA,zq4]
 have hst:s.setCells b 0 A=s.withB (s.blocks.set b A):=by
  rw[zJY A 0 s (by rw[h5,h4];omega) hb hl];simp
 unfold AStep
 rw[ho]
 show ResK s o.dst (zF4 P s t x y) K
 rw[hr]
 refine⟨⟨h2,h3,hlen,by rw[h5];omega⟩,?_⟩
 rw[hd]
 show K (s.setCells b 0 A)
 rw[hst];exact hK
theorem NPos.store{N N':List (Nat×List AV)}{L:Nat->Bool}{pos:Nat->Nat}{bl:List (List AV)}(h:NPos N L pos bl){i a:Nat}{A:List AV}(hLa:L a=true)(hi:N.all (fun q=>q.1 !=i)=true)(hm:N'.map (·.1)=N.map (·.1))
 (hq: ∀q',q'∈N'->∃q,q∈N∧q.1=q'.1∧(q.1≠a->q.2=q'.2)∧(q.1=a->q'.2=A)) (ha: ∃q,q∈N∧q.1=a):
 NPos N' (fun j=>if j=i then true else L j) pos (bl.set (pos a) A):=by
 have hs:=h.skip hi
 have hne: ∀q,q∈N->q.1≠i:=fun q hq=>by have:=(zq8 hi) q hq;simpa using this
 have hLq: ∀q',q'∈N'->(if q'.1=i then true else L q'.1)=true->∃q,q∈N∧q.1=q'.1∧(q.1≠a->q.2=q'.2)∧(q.1=a->q'.2=A)∧L q.1=true:=fun q' h1 h2=>by
  obtain⟨q,e1,e2,e3,e4⟩:=hq q' h1
  refine⟨q,e1,e2,e3,e4,?_⟩
  rw[<-e2,if_neg (hne q e1)] at h2;exact h2
 obtain⟨qa,ha1,ha2⟩:=ha
 have hpa:pos a<bl.length:=by
  have:=h.at_ qa ha1 (by rw[ha2];exact hLa)
  rw[ha2] at this
  exact(zq1 this).1
 refine⟨?_,fun q' h1 h2=>?_,fun q1 q2 h1 h2 h3 h4 h5=>?_⟩
 ·rw[List.length_set,h.len]
  have key: ∀(f:Nat->Bool)(M:List (Nat×List AV)),(M.filter fun q=>f q.1).length=((M.map (·.1)).filter f).length:=fun f M=>by
   induction M with
   |nil=>rfl
   |cons q M ih=>simp only[List.filter_cons,List.map_cons];split<;>simp[ih]
  rw[key L N,key (fun j=>if j=i then true else L j) N',hm]
  congr 1
  apply List.filter_congr
  intro j hj
  obtain⟨q,hq1,rfl⟩:=List.mem_map.1 hj
  rw[if_neg (hne q hq1)]
 ·obtain⟨q,e1,e2,e3,e4,e5⟩:=hLq q' h1 h2
  rw[<-e2]
  by_cases e:q.1=a
  ·rw[e,e4 e,List.getElem?_set_self hpa]
  ·rw[List.getElem?_set_ne (fun hp=>e (h.inj q qa e1 ha1 e5 (by rw[ha2];exact hLa) (by rw[ha2];exact hp.symm) ▸ ha2)),h.at_ q e1 e5,e3 e]
 ·obtain⟨p1,e1,e2,_,_,e5⟩:=hLq q1 h1 h3
  obtain⟨p2,f1,f2,_,_,f5⟩:=hLq q2 h2 h4
  rw[<-e2,<-f2]
  exact h.inj p1 p2 e1 f1 e5 f5 (by rw[e2,f2];exact h5)
def inRB(k:IntKind)(n:Int):Bool:=decide (inR k n)
theorem inRB_ok{n:Int}(h:inRB k n=true):Rng k n:=of_decide_eq_true (p:=inR k n) h
def zKN(size:Nat)(l:List (List AV)):Bool:=l.all fun e=>(e.length==size)&&e.all AV.inert
theorem zH3{size:Nat}(h:zKN size l=true):zFr size l:=fun e he=>by
 have:=zq8 h e he
 simpa[zq7] using this
def ELB(n:Nat)(l:List (List AV)):Bool:=l.all fun e=>e.length==n
theorem ELB_ok(h:ELB n l=true):EL n l:=fun e he=>by
 have:=zq8 h e he
 simpa using this
def FitsB(b n:Nat):Bool:=decide (0<b)&&decide (n*b<=140737488355328)
theorem zMU{b n:Nat}(h:FitsB b n=true):Fits b n:=by simpa[FitsB,Fits] using h
def InBB(a b:Int)(n:Nat):Bool:=decide (0<=a)&&decide (a<=b)&&decide (b<=n)
theorem InBB_ok{a b:Int}(h:InBB a b n=true):InB a b n:=by simpa[InBB,InB,and_assoc] using h
def sdLoadV(P:Program)(t:TypeId)(cells:List AV):Bool:=
 match zKa P t,P.info? t with
 |some true,some i=>decide (i.size<=cells.length)
 |_,_=>true
theorem zJ7{cells:List AV}{c:Prop}{v:AV}(h:loadV P t cells=some (c,v))(hs:sdLoadV P t cells=true):c:=by
 unfold loadV at h;unfold sdLoadV at hs
 split at h
 ·rename_i i h1 h2
  simp only[h1,h2,decide_eq_true_eq] at hs
  simp only[Option.some.injEq,Prod.mk.injEq] at h
  rw[<-h.1];exact hs
 ·split at h
  ·simp only[Option.some.injEq,Prod.mk.injEq] at h
   rw[<-h.1];trivial
  ·cases h
 ·cases h
def sdPart(P:Program)(t:TypeId)(cs:List AV)(off:Nat):Bool:=
 match zKa P t with
 |some false=>match (cs.drop off).take (P.cellsOf t) with
  |[x]=> !x.owns
  |_=>true
 |_=>true
theorem sdPart_ok{cs:List AV}{off:Nat}{c:Prop}{v:AV}(h:partV P t cs off=some (c,v))(hs:sdPart P t cs off=true):c:=by
 unfold partV at h;unfold sdPart at hs
 split at h
 ·rename_i h1
  simp only[h1] at hs
  split at h
  ·rename_i x h2
   simp only[h2,Bool.not_eq_true'] at hs
   simp only[Option.some.injEq,Prod.mk.injEq] at h
   rw[<-h.1];exact hs
  ·cases h
 ·simp only[Option.some.injEq,Prod.mk.injEq] at h
  rw[<-h.1];trivial
 ·cases h
def sdApp(P:Program)(s:AState)(t:TypeId)(t2:TypeId)(x y:Operand):Bool:=
 match P.underlying t,P.underlying t2 with
 |some (.slice e),some d=>match P.info? e with
  |some i=>match i.zero with
   |some z=>match s.takeV x with
    |.e0=>match d,s.look y with
     |.slice _,.msl b ec n=>decide (b<s.blocks.length)&&(ec==i.size)&&decide (n*ec<=(s.blocks.getD b []).length)&&((s.blocks.getD b []).take (n*ec)).all AV.inert&&decide (0<n)&&(z.cells.size==i.size)&&FitsB i.bytes n
     |.slice _,y=>match elems y with
      |some l=>zKN i.size l&&decide (0<l.length)&&(z.cells.size==i.size)&&FitsB i.bytes l.length
      |none=>false
     |_,_=>false
    |.osq ec l=>match zHE d (s.look y) with
     |some l2=>zKN i.size l2&&(z.cells.size==i.size)&&FitsB i.bytes (l.length+l2.length)
     |none=>false
    |v=>match zHE d (s.look y),zLz ⟨i.size,e⟩ v with
     |some l2,some l1=>zKN i.size l2&&(z.cells.size==i.size)&&FitsB i.bytes (l1.length+l2.length)
     |_,_=>false
   |none=>false
  |none=>false
 |_,_=>false
theorem sdApp_ok{ts:Array TypeId}{x y:Operand}{t t2:TypeId}(h0:ts[0]? =some t)(h1:ts[1]? =some t2)(h:zLk P s ts x y=some r)(hs:sdApp P s t t2 x y=true):r.side:=by
 unfold sdApp at hs
 split at hs
 ·rename_i e d hu1 hu2
  split at hs
  ·rename_i i hi
   split at hs
   ·rename_i z hz
    unfold zLk at h
    split at hs
    ·rename_i hx
     simp only[hx,zKE,h0,h1,hu1,hu2,hi,hz] at h
     split at hs
     ·rename_i e' b ec n hy
      simp only[hy,zGB] at h
      split at h
      ·rename_i z' side n' cells hz' hc hl
       simp only[Option.some.injEq] at hz' hc
       subst hz'
       simp only[Prod.mk.injEq] at hc
       obtain⟨rfl,rfl,rfl⟩:=hc
       simp only[Option.some.injEq] at h
       rw[<-h]
       simp only[zq7,decide_eq_true_eq,beq_iff_eq] at hs
       obtain⟨⟨⟨⟨⟨⟨a1,a2⟩,a3⟩,a4⟩,a5⟩,a6⟩,a7⟩:=hs
       exact⟨⟨a1,a2,a3,a4⟩,a5,a6,zMU a7⟩
      ·cases h
     ·rename_i e' y' hy
      split at hs
      ·rename_i l hl
       have hc:zGB s (.slice y') i.size (s.look y)=some (zFr i.size l,l.length,l.flatten):=by
        unfold zGB
        cases hyv:s.look y with
        |msl b ec n=>exact(hy b ec n hyv).elim
        |_=>rw[hyv] at hl;simp only[hl]
       rw[hc] at h
       split at h
       ·rename_i z' side n' cells hz' hc hl
        simp only[Option.some.injEq] at hz' hc
        subst hz'
        simp only[Prod.mk.injEq] at hc
        obtain⟨rfl,rfl,rfl⟩:=hc
        simp only[Option.some.injEq] at h
        rw[<-h]
        simp only[zq7,decide_eq_true_eq,beq_iff_eq] at hs
        exact⟨zH3 hs.1.1.1,hs.1.1.2,hs.1.2,zMU hs.2⟩
       ·cases h
      ·cases hs
     ·cases hs
    ·rename_i ec l hx
     simp only[hx,zJa,h0,h1,hu1,hu2,hi,hz] at h
     split at hs
     ·rename_i l2 hl2
      simp only[hl2,zJs] at h
      split at h
      ·rename_i z' l2' l1 hz' hl2' hl1
       simp only[Option.some.injEq] at hz' hl2' h
       subst hz' hl2'
       split at hl1
       ·simp only[Option.some.injEq] at hl1
        subst hl1
        rw[<-h]
        simp only[zq7,beq_iff_eq] at hs
        exact⟨zH3 hs.1.1,hs.1.2,zMU hs.2⟩
       ·cases hl1
      ·cases h
     ·cases hs
    ·rename_i hx1 hx2
     have h':zFt P s ts x y=some r:=by
      split at h
      ·rename_i hx;exact(hx1 hx).elim
      ·rename_i hx;exact(hx2 _ _ hx).elim
      ·exact h
     split at hs
     ·rename_i l2 l1 hl2 hl1
      simp only[zFt,h0,h1,hu1,hu2,hi,hz,hl2,hl1,Option.some.injEq] at h'
      rw[<-h']
      simp only[zq7,beq_iff_eq] at hs
      exact⟨zH3 hs.1.1,hs.1.2,zMU hs.2⟩
     ·cases hs
   ·cases hs
  ·cases hs
 ·cases hs
def sdInt(op:BinOp)(k:IntKind)(a b:Int):Bool:=
 match op with
 |.add=>inRB k (a+b)
 |.sub=>inRB k (a-b)
 |.mul=>inRB k (a*b)
 |.quo=> !(b==0)&&inRB k (a.tdiv b)
 |.rem=> !(b==0)&&inRB k (a.tmod b)
 |_=>true
theorem sdInt_ok{op:BinOp}{a b:Int}{c:Prop}{v:AV}(h:intV op k a b=some (c,v))(hs:sdInt op k a b=true):c:=by
 cases op<;>simp[intV,sdInt,cmpV] at h hs<;>(try rw[<-h.1])<;>(try exact inRB_ok hs)<;>(try exact⟨hs.1,inRB_ok hs.2⟩)<;>(try exact h.1)<;>trivial
def sdBn(P:Program)(s:AState)(op:BinOp)(t:TypeId)(x y:Operand):Bool:=
 match s.look y with
 |.nsl=>match elems (s.look x) with
  |some l=> !l.isEmpty
  |none=>true
 |vy=>match s.look x,vy with
  |.int k a,.int _ b=>sdInt op k a b
  |.str a,.str b=>(match op with|.add=>decide (a.length+b.length<=1152921504606846976)|_=>true)
  |_,_=>true
theorem sdBn_ok{op:BinOp}{x y:Operand}(h:resBn P s op t x y=some r)(hs:sdBn P s op t x y=true):r.side:=by
 unfold resBn at h;unfold sdBn at hs
 split at h
 ·rename_i hy
  simp only[hy] at hs
  unfold zKC at h
  split at h
  ·split at h
   ·cases h;trivial
   ·cases h;trivial
   ·cases h
  ·split at h
   ·rename_i l hl
    rw[hl] at hs
    have:l≠[]:=by simpa using hs
    split at h
    ·cases h;exact this
    ·cases h;exact this
    ·cases h
   ·cases h
  ·cases h
 ·unfold zKD at h
  split at h
  ·cases h;trivial
  ·cases h
 ·rename_i hy
  unfold resBin at h
  split at h
  ·rename_i c v hb
   simp only[Option.some.injEq] at h
   rw[<-h]
   unfold binV at hb
   split at hb
   ·rename_i k a k' b hx hy'
    simp only[hx,hy'] at hs
    split at hb
    ·exact sdInt_ok hb hs
    ·cases hb
   ·rename_i a b hx hy'
    simp only[hx,hy'] at hs
    cases op<;>simp[strV] at hb hs<;>(try rw[<-hb.1])<;>(try exact hb.1)<;>(try trivial)<;>exact hs
   ·split at hb<;>simp at hb<;>first|exact hb.1|(rw[<-hb.1];trivial)
   ·split at hb
    ·cases hb
    ·split at hb<;>simp at hb<;>first|exact hb.1|(rw[<-hb.1];trivial)
   ·cases hb
  ·cases h
def sdSlice(P:Program)(s:AState)(t:TypeId)(x:Operand)(lo hi:Option Operand):Bool:=
 match P.underlying t with
 |some .string=>match s.look x with
  |.str l=>match zIF s 0 lo,zIF s l.length hi with
   |some a,some b=>InBB a b l.length
   |_,_=>true
  |_=>true
 |some (.slice e)=>match elems (s.look x),P.info? e with
  |some l,some i=>match zIF s 0 lo,zIF s l.length hi with
   |some a,some b=>InBB a b l.length&&ELB i.size l
   |_,_=>true
  |_,_=>true
 |_=>true
theorem sdSlice_ok{lo hi:Option Operand}(h:zG2 P s t x lo hi=some r)(hs:sdSlice P s t x lo hi=true):r.side:=by
 unfold zG2 at h;unfold sdSlice at hs
 split at h
 ·rename_i hu
  simp only[hu] at hs
  split at h
  ·rename_i l hl
   simp only[hl] at hs
   split at h
   ·rename_i a b ha hb
    simp only[ha,hb] at hs
    cases h;exact InBB_ok hs
   ·cases h
  ·cases h
 ·rename_i e hu
  simp only[hu] at hs
  split at h
  ·rename_i l i hl hi'
   simp only[hl,hi'] at hs
   split at h
   ·rename_i a b ha hb
    simp only[ha,hb,zq7] at hs
    cases h;exact⟨InBB_ok hs.1,ELB_ok hs.2⟩
   ·cases h
  ·cases h
 ·cases h
def sdOp(P:Program)(s:AState):Op->Bool
 |.move _|.assign _|.extract _ _|.nilCheck _|.makeInterface _ _|.makeFunc _ _ _=>true
 |.pick c _ _=>isBool (s.look c)
 |.alloc t=>match P.info? t with
  |some i=>match i.zero with
   |some z=>(AV.ofConst z).cells.all AV.plain
   |none=>true
  |none=>true
 |.box _ x=>(s.look x).solid&&((s.look x).cells.map AV.copy).all AV.plain
 |.build t _=>match P.info? t,P.underlying t with
  |some i,some (.struct fields)=>match i.zero with
   |some z=>(AV.ofConst z).solid&&fields.all (fun f=>(P.info? f.type).isSome)
   |none=>true
  |some i,some (.array _ _)=>match i.zero with
   |some z=>(AV.ofConst z).solid
   |none=>true
  |_,_=>true
 |.buildSlice t n parts=>match P.underlying t with
  |some (.slice e)=>match P.info? e with
   |some i=>zKN i.size (parts.toList.map fun q=>(s.look q.2).norm.cells)&&isR (parts.toList.map (·.1)) 0&&(parts.toList.length==n)&&(parts.toList.all fun q=>(s.look q.2).solid)&&decide (n*i.size<=16777216)&&decide (n<=16777216)
   |none=>true
  |_=>true
 |.makeSlice t l c=>match s.look l,s.look c with
  |.int _ n0,.int _ n=>match P.underlying t with
   |some (.slice e)=>match P.info? e with
    |some i=>match i.zero with
     |some z=>(match l with
      |.const _=>decide (n0=0)&&decide (0<=n)&&decide ((i.bytes:Int)*n<=281474976710656)&&decide (n<=9223372036854775807)
      |_=>decide (0<=n0)&&decide (n0<=n)&&decide (0<i.bytes)&&decide ((i.bytes:Int)*n<=281474976710656)&&decide (n<=9223372036854775807)&&(AV.ofConst z).solid&&(AV.ofConst z).cells.all AV.plain&&((AV.ofConst z).cells.length==i.size))
     |none=>true
    |none=>true
   |_=>true
  |_,_=>true
 |.load t x=>match s.look x with
  |.mptr b o=>decide (b<s.blocks.length)&&sdLoadV P t ((s.blocks.getD b []).drop o)
  |.cptr cells=>sdLoadV P t cells
  |_=>true
 |.store t x y=>match s.ev x,P.info? t with
  |.mptr b o,some i=>
   if (s.takeV y).owns1 then (i.size==1)&&decide (o<(s.blocks.getD b []).length)
   else (s.takeV y).solid&&((s.takeV y).cells.map AV.copy).all AV.one&&((s.takeV y).cells.length==i.size)&&decide (o+i.size<=(s.blocks.getD b []).length)
  |_,_=>true
 |.binOp op t x y _=>sdBn P s op t x y
 |.unOp op _ x=>match op,s.look x with
  |.neg,.int k n=>inRB k (-n)
  |_,_=>true
 |.convert src dst x=>match P.underlying src,P.underlying dst,s.look x with
  |some _,some (.int k),.int k' n=>decide (k=k')||inRB k n
  |some .string,some (.slice _),.str l=>decide (l.length<=281474976710656)
  |some (.slice _),some .string,v=>match elems v with
   |some l=>l.all fun e=>match e with
    |[.int .u8 n]=>decide (0<=n)&&decide (n<=255)
    |_=>false
   |none=>true
  |_,_,_=>true
 |.slice t x lo hi none=>sdSlice P s t x lo hi
 |.slice _ x lo hi (some m)=>zIu (s.look x)&&(match zIF s 0 lo,zIF s 1 hi,zIF s 1 (some m) with
  |some a,some b,some c=>(a==0)&&(b==0)&&(c==0)
  |_,_,_=>true)
 |.fieldAddr t _ f=>match P.underlying t with
  |some (.struct fields)=>match fields[f]? with
   |some fd=>match P.info? fd.type with
    |some i=> !(i.size==0)
    |none=>true
   |none=>true
  |_=>true
 |.indexAddr t x ix=>match P.underlying t,s.look x,s.look ix with
  |some (.slice el),.msl _ ec n,.int _ i=>match P.info? el with
   |some inf=>decide (0<=i)&&decide (i<n)&&(ec==inf.size)
   |none=>true
  |some (.slice el),v,.int _ n=>match elems v,P.info? el with
   |some l,some i=>match l[n.toNat]? with
    |some e=>decide (0<=n)&&(e.length==i.size)
    |none=>true
   |_,_=>true
  |_,_,_=>true
 |.index t x ix=>match s.look x,s.look ix with
  |.agg cs,.int _ n=>match P.underlying t with
   |some (.array m e)=>if arrS P t then decide (0<=n)&&decide (n<m)&&sdPart P e cs (n.toNat*P.cellsOf e)
    else match P.info? e,cs[n.toNat]? with
     |some j,some c=>decide (0<=n)&&(cs.length==m)&&(j.size==1)&& !c.owns
     |_,_=>true
   |_=>true
  |_,.int _ n=>decide (0<=n)
  |_,_=>true
 |.field t x f=>match P.underlying t,s.look x with
  |some (.struct fields),.agg cs=>match fields[f]? with
   |some fd=>sdPart P fd.type cs fd.offset
   |none=>true
  |_,_=>true
 |.call c=>match c.callee,c.args.toList with
  |.builtin .append,[x,y]=>match c.argTypes[0]?,c.argTypes[1]? with
   |some t,some t2=>sdApp P s t t2 x y
   |_,_=>false
  |_,_=>true
 |_=>false
theorem unU_ok(h:(l.all fun e=>match e with|[.int .u8 n]=>decide (0<=n)&&decide (n<=255)|_=>false)=true):l=(unU l).map cU:=by
 induction l with
 |nil=>rfl
 |cons e l ih=>
  simp only[List.all_cons,zq7] at h
  obtain⟨h1,h2⟩:=h
  simp only[unU,List.map_cons] at ih ⊢
  rw[<-ih h2]
  congr 1
  split at h1
  ·rename_i n
   simp only[zq7,decide_eq_true_eq] at h1
   simp only[cU]
   congr 2
   rw[UInt8.toNat_ofNat']
   omega
  ·cases h1
theorem sdOp_ok{op:Op}(h:zHO P s op=some r)(hs:sdOp P s op=true):r.side:=by
 cases op<;>simp only[zHO,reduceCtorEq] at h
 case move x=>cases h;trivial
 case assign x=>cases h;trivial
 case pick c x y=>cases h;exact hs
 case alloc t=>
  unfold zG4 at h;simp only[sdOp] at hs
  split at h
  ·rename_i i hi
   split at h
   ·rename_i z hz
    simp only[hi,hz] at hs
    cases h;exact hs
   ·cases h
  ·cases h
 case box t x=>
  cases h
  simp only[sdOp,zq7] at hs
  exact hs
 case build t parts=>
  unfold zIV at h;simp only[sdOp] at hs
  split at h
  ·rename_i i fields hi hu
   simp only[hi,hu] at hs
   split at h
   ·rename_i z hz
    simp only[hz,zq7] at hs
    split at h
    ·cases h;exact hs
    ·cases h
   ·cases h
  ·rename_i i m e hi hu
   simp only[hi,hu] at hs
   split at h
   ·rename_i z j hz hj
    simp only[hz] at hs
    split at h
    ·cases h;exact hs
    ·cases h
   ·cases h
  ·cases h
 case buildSlice t n parts=>
  unfold zDc at h;simp only[sdOp] at hs
  split at h
  ·rename_i e hu
   simp only[hu] at hs
   split at h
   ·rename_i i hi
    simp only[hi,zq7,decide_eq_true_eq,beq_iff_eq] at hs
    split at h
    ·rename_i z hz
     cases h
     obtain⟨⟨⟨⟨⟨h1,h2⟩,h3⟩,h4⟩,h5⟩,h6⟩:=hs
     exact⟨zH3 h1,⟨h2,h3⟩,h4,h5,h6⟩
    ·cases h
   ·cases h
  ·cases h
 case makeSlice t l c=>
  unfold resMk at h;simp only[sdOp] at hs
  split at h
  ·rename_i v
   unfold zJ9 at h
   split at h
   ·rename_i k0 n0 k n hl hc
    simp only[hl,hc] at hs
    split at h
    ·rename_i e hu
     simp only[hu] at hs
     split at h
     ·rename_i i hi
      simp only[hi] at hs
      split at h
      ·rename_i z hz
       simp only[hz,zq7,decide_eq_true_eq] at hs
       cases h
       exact⟨hs.1.1.1,hs.1.1.2,hs.1.2,hs.2⟩
      ·cases h
     ·cases h
    ·cases h
   ·cases h
  ·rename_i hl0
   unfold zIQ at h
   split at h
   ·rename_i k0 n0 k n hl hc
    simp only[hl,hc] at hs
    split at h
    ·rename_i e hu
     simp only[hu] at hs
     split at h
     ·rename_i i hi
      simp only[hi] at hs
      split at h
      ·rename_i z hz
       simp only[hz] at hs
       cases h
       cases l with
       |const v=>exact(hl0 v rfl).elim
       |_=>
        simp only[zq7,decide_eq_true_eq,beq_iff_eq] at hs
        obtain⟨⟨⟨⟨⟨⟨⟨h1,h2⟩,h3⟩,h4⟩,h5⟩,h6⟩,h7⟩,h8⟩:=hs
        exact⟨⟨h1,h2,h3,h4,h5⟩,h6,h7,h8⟩
      ·cases h
     ·cases h
    ·cases h
   ·cases h
 case load t x=>
  unfold zIJ at h;simp only[sdOp] at hs
  split at h
  ·rename_i b o hx
   simp only[hx,zq7,decide_eq_true_eq] at hs
   split at h
   ·rename_i c v hv
    cases h;exact⟨hs.1,zJ7 hv hs.2⟩
   ·cases h
  ·rename_i cells hx
   simp only[hx] at hs
   split at h
   ·rename_i c v hv
    cases h;exact zJ7 hv hs
   ·cases h
  ·cases h
 case store t x y=>
  unfold zF4 at h;simp only[sdOp] at hs
  split at h
  ·rename_i b o i hx hi
   simp only[hx,hi] at hs
   split at h
   ·rename_i ho
    rw[if_pos ho] at hs
    simp only[zq7,decide_eq_true_eq,beq_iff_eq] at hs
    cases h;exact hs
   ·rename_i ho
    rw[if_neg ho] at hs
    simp only[zq7,decide_eq_true_eq,beq_iff_eq] at hs
    cases h;exact⟨hs.1.1.1,hs.1.1.2,hs.1.2,hs.2⟩
  ·cases h
 case nilCheck x=>
  unfold zFC at h
  split at h<;>first|(cases h;trivial)|cases h
 case binOp op t x y t'=>exact sdBn_ok h hs
 case unOp op t x=>
  unfold resUn at h;simp only[sdOp] at hs
  split at h
  ·cases h;trivial
  ·rename_i k n hx
   simp only[hx] at hs
   cases h;exact inRB_ok hs
  ·cases h
 case convert src dst x=>
  unfold zKB at h;simp only[sdOp] at hs
  split at h
  ·rename_i d k k' n hu1 hu2 hx
   simp only[hu1,hu2,hx,Bool.or_eq_true,decide_eq_true_eq] at hs
   cases h
   rcases hs with hs|hs
   ·exact .inl hs
   ·exact .inr (inRB_ok hs)
  ·cases h;trivial
  ·rename_i e l hu1 hu2 hx
   simp only[hu1,hu2,hx,decide_eq_true_eq] at hs
   split at h
   ·cases h;exact hs
   ·cases h
  ·rename_i e v hu1 hu2 _
   split at h
   ·rename_i l _ hl
    simp only[hu1,hu2,hl] at hs
    cases h;exact unU_ok hs
   ·cases h
  ·cases h
 case makeInterface t x=>
  unfold zIS at h
  split at h<;>first|(cases h;trivial)|cases h
 case makeFunc f first captured=>cases h;trivial
 case slice t x lo hi mx=>
  cases mx with
  |none=>exact sdSlice_ok h hs
  |some m=>
   simp only[zHO] at h
   unfold zG1 at h;simp only[sdOp] at hs
   split at h
   ·split at h
    ·split at h
     ·rename_i a b c ha hb hc
      simp only[ha,hb,hc,zq7,beq_iff_eq] at hs
      cases h;exact⟨hs.1,hs.2.1.1,hs.2.1.2,hs.2.2⟩
     ·cases h
    ·cases h
   ·cases h
 case fieldAddr t x f=>
  unfold zEh at h;simp only[sdOp] at hs
  split at h
  ·rename_i fields hu
   simp only[hu] at hs
   split at h
   ·rename_i fd hf
    simp only[hf] at hs
    split at h
    ·rename_i i b o hi hx
     simp only[hi,Bool.not_eq_true',beq_eq_false_iff_ne] at hs
     cases h;exact hs
    ·rename_i i cells hi hx
     simp only[hi,Bool.not_eq_true',beq_eq_false_iff_ne] at hs
     cases h;exact hs
    ·cases h
   ·cases h
  ·cases h
 case indexAddr t x ix=>
  unfold resIx at h;simp only[sdOp] at hs
  split at h
  ·rename_i b ec n hx
   unfold resIxM at h
   split at h
   ·rename_i el b' ec' n' k i hu hx' hix
    simp only[hu,hx',hix] at hs
    split at h
    ·rename_i inf hinf
     simp only[hinf,zq7,decide_eq_true_eq,beq_iff_eq] at hs
     cases h;exact⟨hs.1.1,hs.1.2,hs.2⟩
    ·cases h
   ·cases h
  ·rename_i hne
   unfold zEg at h
   split at h
   ·rename_i el l k n hu hl hix
    split at h
    ·rename_i i e hi he
     have hs':(decide (0<=n)&&(e.length==i.size))=true:=by
      revert hs
      rw[hu,hix]
      cases hx:s.look x<;>simp only[hx,elems,reduceCtorEq,Option.some.injEq] at hl<;>first
       |(subst hl;simp only[elems,hi,he];exact id)
       |(exact(hne _ _ _ hx).elim)
     simp only[zq7,decide_eq_true_eq,beq_iff_eq] at hs'
     cases h;exact hs'
    ·cases h
   ·cases h
 case index t x ix=>
  unfold resIdx at h;simp only[sdOp] at hs
  split at h
  ·rename_i ha
   unfold zG3 at h
   split at h
   ·rename_i m e cs k n hu hx hix
    simp only[hu,hx,hix,ha,if_true] at hs
    split at h
    ·rename_i j c z hj hz
     simp only[zq7,decide_eq_true_eq] at hs
     cases h;exact⟨⟨hs.1.1,hs.1.2⟩,sdPart_ok hz hs.2⟩
    ·cases h
   ·cases h
  ·rename_i ha
   unfold zIR at h
   split at h
   ·rename_i l k n hu hx hix
    simp only[hx,hix,decide_eq_true_eq] at hs
    split at h
    ·cases h;exact hs
    ·cases h
   ·rename_i m e cs k n hu hx hix
    simp only[hu,hx,hix,ha,Bool.false_eq_true,if_false] at hs
    split at h
    ·rename_i j c hb hj hc
     simp only[hj,hc,zq7,decide_eq_true_eq,beq_iff_eq,Bool.not_eq_true'] at hs
     cases h;exact⟨hs.1.1.1,hs.1.1.2,hs.1.2,hs.2⟩
    ·cases h
   ·cases h
 case field t x f=>
  unfold zIT at h;simp only[sdOp] at hs
  split at h
  ·rename_i fields cs hu hx
   simp only[hu,hx] at hs
   split at h
   ·rename_i fd hf
    simp only[hf] at hs
    split at h
    ·rename_i c z hz
     cases h;exact sdPart_ok hz hs
    ·cases h
   ·cases h
  ·cases h
 case extract x i=>
  unfold zCK at h
  split at h
  ·split at h
   ·cases h;trivial
   ·cases h
  ·cases h
 case call c=>
  obtain⟨callee,args,argTypes⟩:=c
  cases callee with
  |builtin b=>
   simp only[zD6] at h
   split at h
   ·rename_i x hx
    unfold resLn at h
    split at h
    ·unfold zKA at h
     split at h
     ·split at h<;>first|(cases h;trivial)|cases h
     ·cases h
    ·unfold resLen at h
     split at h
     ·split at h
      ·cases h;trivial
      ·split at h<;>first|(cases h;trivial)|cases h
      ·cases h
     ·cases h
   ·rename_i x y hx
    simp only[sdOp,hx] at hs
    split at hs
    ·rename_i t t2 h0 h1
     exact sdApp_ok h0 h1 h hs
    ·cases hs
   ·rename_i x y hx
    unfold resMM at h
    split at h
    ·split at h<;>first|(cases h;trivial)|cases h
    ·cases h
   ·rename_i x y hx
    unfold resMM at h
    split at h
    ·split at h<;>first|(cases h;trivial)|cases h
    ·cases h
   ·rename_i x y z hx
    unfold resM3 at h
    split at h
    ·split at h<;>first|(cases h;trivial)|cases h
    ·cases h
   ·cases h
  |value x=>simp at h
  |invoke x m=>simp at h
def ckOp(P:Program)(s:AState)(op:Op):Option Res:=if sdOp P s op then zHO P s op else none
theorem ckOp_ok{op:Op}(h:ckOp P s op=some r):zHO P s op=some r∧r.side:=by
 unfold ckOp at h
 split at h
 ·rename_i hs
  exact⟨h,sdOp_ok h hs⟩
 ·cases h
def sdKeys(P:Program)(key:TypeId)(k:AV)(ks:List AV):Bool:=match P.underlying key with
 |some d=>keyD d k&&ks.all (keyD d)
 |none=>false
def sdMap(P:Program)(s:AState):Op->Bool
 |.makeMap _ _=>true
 |.lookup t x i _=>match P.underlying t,s.takeV x with
  |some (.map key _),.omp ks _=>sdKeys P key (s.look i) ks
  |_,_=>false
 |.mapUpdate t x i v|.insert t x i v=>match P.underlying t,x with
  |some (.map key _),.tmp tx=>match s.owner tx with
   |some p=>match s.at p with
    |.omp ks _=>sdKeys P key (s.look i) ks&&(s.look v).flat
    |_=>false
   |none=>false
  |_,_=>false
 |_=>false
theorem sdMap_up{x i v:Operand}(h:zB8 P s t x i v=some r)(hs:sdMap P s (.mapUpdate t x i v)=true):r.side:=by
 unfold zB8 at h
 split at h
 ·rename_i key elem tx hu
  split at h
  ·rename_i p hp
   split at h
   ·rename_i ks vs d hat hd
    cases h
    simp only[sdMap,hu,hp,hat,sdKeys,hd,zq7] at hs
    exact⟨hs.1.1,hs.1.2,hs.2⟩
   ·cases h
  ·cases h
 ·cases h
theorem sdMap_ok{op:Op}(h:mapOp P s op=some r)(hs:sdMap P s op=true):r.side:=by
 unfold mapOp at h
 split at h
 ·cases h;trivial
 ·unfold zGS at h
  split at h
  ·rename_i key elem ks vs hu htake
   split at h
   ·rename_i d inf hd hinf
    split at h
    ·rename_i z hz
     cases h
     simp only[sdMap,hu,htake,sdKeys,hd,zq7] at hs
     exact hs
    ·cases h
   ·cases h
  ·cases h
 ·exact sdMap_up h hs
 ·exact sdMap_up h hs
 ·cases h
def ckMap(P:Program)(s:AState)(op:Op):Option Res:=if sdMap P s op then mapOp P s op else none
theorem ckMap_ok{op:Op}(h:ckMap P s op=some r):mapOp P s op=some r∧r.side:=by
 unfold ckMap at h
 split at h
 ·rename_i hh;exact⟨h,sdMap_ok h hh⟩
 ·cases h
def isMap:Op->Bool
 |.makeMap ..|.lookup ..|.mapUpdate ..|.insert ..=>true
 |_=>false
inductive CR where
 |pure (res:AV)
 |raw (res:AV) (bs:List (List AV)) (ρ:List Nat)
mutual
def AV.same:AV->AV->Bool
 |.int k a,.int k' b=>decide (k=k')&&a==b
 |.bool a,.bool b=>a==b
 |.str a,.str b=>a==b
 |.nilp,.nilp=>true
 |.mptr b o,.mptr b' o'=>b==b'&&o==o'
 |.baddr t b,.baddr t' b'=>t==t'&&b==b'
 |.cptr l,.cptr l'=>AV.sameL l l'
 |.nsl,.nsl=>true
 |.osl ⟨n,t⟩ l,.osl ⟨n',t'⟩ l'=>n==n'&&(t==t'&&AV.sameLL l l')
 |.sl l,.sl l'=>AV.sameLL l l'
 |.nilfn,.nilfn=>true
 |.iface t v,.iface t' v'=>t==t'&&v.same v'
 |.nilif,.nilif=>true
 |.agg l,.agg l'=>AV.sameL l l'
 |.tup l,.tup l'=>AV.sameL l l'
 |_,_=>false
def AV.sameL:List AV->List AV->Bool
 |[],[]=>true
 |x::l,y::l'=>x.same y&&AV.sameL l l'
 |_,_=>false
def AV.sameLL:List (List AV)->List (List AV)->Bool
 |[],[]=>true
 |x::l,y::l'=>AV.sameL x y&&AV.sameLL l l'
 |_,_=>false
end
mutual
theorem AV.same_ok: ∀x y:AV,x.same y=true->x=y
 |.int k a,y,h=>by cases y<;>simp_all [AV.same]
 |.bool a,y,h=>by cases y<;>simp_all [AV.same]
 |.str a,y,h=>by cases y<;>simp_all [AV.same]
 |.nilp,y,h=>by cases y<;>simp_all [AV.same]
 |.mptr b o,y,h=>by cases y<;>simp_all [AV.same]
 |.baddr t b,y,h=>by cases y<;>simp_all [AV.same]
 |.cptr l,y,h=>by cases y<;>simp[AV.same] at h;rw[AV.sameL_ok _ _ h]
 |.nsl,y,h=>by cases y<;>simp_all [AV.same]
 |.osl ⟨n,t⟩ l,y,h=>by
  cases y<;>simp[AV.same] at h
  rename_i e l'
  obtain⟨n',t'⟩:=e
  simp[AV.same] at h
  rw[h.1,h.2.1,AV.sameLL_ok _ _ h.2.2]
 |.sl l,y,h=>by cases y<;>simp[AV.same] at h;rw[AV.sameLL_ok _ _ h]
 |.nilfn,y,h=>by cases y<;>simp_all [AV.same]
 |.iface t v,y,h=>by
  cases y<;>simp[AV.same] at h
  rw[h.1,AV.same_ok _ _ h.2]
 |.nilif,y,h=>by cases y<;>simp_all [AV.same]
 |.agg l,y,h=>by cases y<;>simp[AV.same] at h;rw[AV.sameL_ok _ _ h]
 |.tup l,y,h=>by cases y<;>simp[AV.same] at h;rw[AV.sameL_ok _ _ h]
 |.osq _ _,y,h=>by cases y<;>simp[AV.same] at h
 |.fn _ _ _,y,h=>by cases y<;>simp[AV.same] at h
 |.msl _ _ _,y,h=>by cases y<;>simp[AV.same] at h
 |.e0,y,h=>by cases y<;>simp[AV.same] at h
 |.omp _ _,y,h=>by cases y<;>simp[AV.same] at h
 |.mpx,y,h=>by cases y<;>simp[AV.same] at h
 |.otup _ _ _,y,h=>by cases y<;>simp[AV.same] at h
 |.top,y,h=>by cases y<;>simp[AV.same] at h
theorem AV.sameL_ok: ∀x y:List AV,AV.sameL x y=true->x=y
 |[],y,h=>by cases y<;>simp_all [AV.sameL]
 |x::l,y,h=>by
  cases y<;>simp[AV.sameL] at h
  rw[AV.same_ok _ _ h.1,AV.sameL_ok _ _ h.2]
theorem AV.sameLL_ok: ∀x y:List (List AV),AV.sameLL x y=true->x=y
 |[],y,h=>by cases y<;>simp_all [AV.sameLL]
 |x::l,y,h=>by
  cases y<;>simp[AV.sameLL] at h
  rw[AV.sameL_ok _ _ h.1,AV.sameLL_ok _ _ h.2]
end
def bothC(x y:Option CR):Option CR:=
 match x,y with
 |some (.pure r),some (.pure r')=>if r.same r' then some (.pure r) else none
 |some (.raw r bs ρ),some (.raw r' bs' ρ')=>if r.same r'&&(AV.sameLL bs bs'&&ρ==ρ') then some (.raw r bs ρ) else none
 |_,_=>none
theorem bothC_ok{x y:Option CR}{z:CR}(h:bothC x y=some z):x=some z∧y=some z:=by
 unfold bothC at h
 split at h
 ·split at h
  ·rename_i hs
   cases h
   exact⟨rfl,by rw[AV.same_ok _ _ hs]⟩
  ·cases h
 ·split at h
  ·rename_i hs
   simp only[zq7,beq_iff_eq] at hs
   cases h
   exact⟨rfl,by rw[AV.same_ok _ _ hs.1,AV.sameLL_ok _ _ hs.2.1,hs.2.2]⟩
  ·cases h
 ·cases h
abbrev Calling:=FuncId->List AV->List (List AV)->Option CR
def zDU(P:Program)(ce:Calling):Prop:=
 (∀f args bs res,ce f args bs=some (.pure res)->Pure P f args res∧AV.flatL args=true∧res.owns=false)∧
 (∀f args bs res bs' ρ,ce f args bs=some (.raw res bs' ρ)->RawK P f args bs res bs' (fun b=>b∉ρ)∧res.owns=false∧(∀b,b∉ρ->b<bs.length->bs'[b]? =bs[b]?)∧(zGn ρ [res] bs'=true->bs'.length=bs.length->∀zs,RawK P f args (bs++zs) res (bs'++zs) (fun b=>b∉ρ)))
def hasNil(args:List AV):Bool:=args.any fun x=>match x with
 |.nsl=>true
 |_=>false
def call0(ce:Calling)(f:FuncId)(s:AState)(first captured:List AV)(args:Array Operand):Option AV:=
 if hasNil (zCy s first captured args) then match ce f (zCy s first captured args) s.blocks with
  |some (.pure r)=>some r
  |_=>none
 else none
theorem call0_ok{ce:Calling}(hce:zDU P ce){first captured:List AV}{args:Array Operand}{r:AV}(h:call0 ce f s first captured args=some r):
 Pure P f (zCy s first captured args) r∧AV.flatL (zCy s first captured args)=true∧r.owns=false:=by
 unfold call0 at h
 split at h
 ·split at h
  ·rename_i hr
   cases h
   exact hce.1 _ _ _ _ hr
  ·cases h
 ·cases h
def stepE(P:Program)(ce:Calling)(o:Oper)(s:AState):Option AState:=
 match o.op with
 |.call c=>match c.callee with
  |.value x=>match s.look x with
   |.fn (.func f) first captured=>match call0 ce f s first captured c.args with
    |some r=>some (s.putO o.dst r)
    |none=>match ce f (zAz s first captured c.args) s.blocks with
     |some (.pure r)=>some (s.putO o.dst r)
     |some (.raw r bs' ρ)=>some (s.calledK ρ o.dst r bs')
     |none=>none
   |_=>none
  |.builtin _=>match ckOp P s o.op with
   |some r=>some (s.putR o.dst r)
   |none=>none
  |_=>none
 |.slice _ x (some _) none none=>match s.takeV x with
  |.osq _ _=>none
  |_=>match ckOp P s o.op with
   |some r=>some (s.putR o.dst r)
   |none=>none
 |op=>if isMap op then match ckMap P s o.op with
  |some r=>some (s.putR o.dst r)
  |none=>none
  else match ckOp P s o.op with
   |some r=>some (s.putR o.dst r)
   |none=>none
theorem stepE_ok{ce:Calling}(hce:zDU P ce){s s':AState}(h:stepE P ce o s=some s'):zJS P o s s':=by
 have ck: ∀{x:Option AState},(match ckOp P s o.op with|some r=>some (s.putR o.dst r)|none=>none)=some s'->zJS P o s s':=fun {x} h=>by
  split at h
  ·rename_i r hr
   obtain⟨h1,h2⟩:=ckOp_ok hr
   simp only[Option.some.injEq] at h
   rw[<-h];exact(zMR h1 h2).step
  ·cases h
 unfold stepE at h
 split at h
 ·rename_i c ho
  split at h
  ·rename_i x hc
   split at h
   ·rename_i f first captured hx
    split at h
    ·rename_i r hr
     simp only[Option.some.injEq] at h
     obtain⟨h1,h2,h3⟩:=call0_ok hce hr
     rw[<-h];exact zJg ho hc hx h1 h2 h3
    split at h
    ·rename_i r hr
     simp only[Option.some.injEq] at h
     obtain⟨h1,h2,h3⟩:=hce.1 _ _ _ _ hr
     rw[<-h];exact zHA ho hc hx h1 h2 h3
    ·rename_i r bs' ρ hr
     simp only[Option.some.injEq] at h
     obtain⟨h1,h2,_⟩:=hce.2 _ _ _ _ _ _ hr
     rw[<-h];exact ok_callK ho hc hx h1 h2
    ·cases h
   ·cases h
  ·exact ck (x:=none) h
  ·cases h
 ·split at h
  ·cases h
  ·exact ck (x:=none) h
 ·split at h
  ·split at h
   ·rename_i r hr
    obtain⟨h1,h2⟩:=ckMap_ok hr
    simp only[Option.some.injEq] at h
    rw[<-h];exact(mapOp_ok h1 h2).step
   ·cases h
  ·exact ck (x:=none) h
def guardE(ops:Array Oper)(s:AState):Option (Nat×Bool)->Option Bool
 |none=>some true
 |some (j,want)=>match (ops[j]?).bind (·.dst) with
  |some d=>match s.get d with
   |.bool b=>some (b==want)
   |.tup []=>some false
   |_=>none
  |none=>none
def AState.re{α:Type}(s:AState)(n b:Nat)(K:AState->Option α):Option α:=if s.n=n∧s.base=b then K ⟨s.tmps,s.loans,n,b,s.blocks⟩ else none
theorem re_ok{n b:Nat}{K:AState->Option α}{x:α}(h:s.re n b K=some x):K s=some x:=by
 unfold AState.re at h
 split at h
 ·rename_i hh
  obtain⟨rfl,rfl⟩:=hh
  exact h
 ·cases h
def isAsk(P:Program)(s:AState):Op->Bool
 |.binOp op t x y _=>(match op with
  |.eql|.neq=>true
  |_=>false)&&(match P.underlying t,s.look x,s.look y with
  |some (.slice _),.sl [],.nsl=>true
  |some (.slice _),.nsl,.nsl=>true
  |_,_,_=>false)
 |_=>false
def goE(P:Program)(ce:Calling)(n b:Nat)(o:Oper)(s:AState)(K:AState->Option CR):Option CR:=
 match stepE P ce o s with
 |some s1=>s1.re n b K
 |none=>if isAsk P s o.op then bothC ((s.putO o.dst (.bool true)).re n b K) ((s.putO o.dst (.bool false)).re n b K) else none
def opsE(P:Program)(ce:Calling)(n b:Nat)(ops:Array Oper):List Oper->AState->(AState->Option CR)->Option CR
 |[],s,K=>K s
 |o::l,s,K=>match guardE ops s o.guard with
  |some true=>goE P ce n b o s fun s2=>opsE P ce n b ops l s2 K
  |some false=>(s.putO o.dst (.tup [])).re n b fun s2=>opsE P ce n b ops l s2 K
  |none=>none
theorem ask_ok(h:isAsk P s o.op=true)(hs:Sim F g s a w): ∃b,(execOp a.eval o).run P w=.ok (.value (.bool b)) w:=by
 unfold isAsk at h
 split at h
 ·rename_i op t x y t' ho
  rw[zq7] at h
  obtain⟨h1,h2⟩:=h
  have hp: ∃e base cap,P.underlying t=some (.slice e)∧a.eval x=.slice base 0 cap∧a.eval y=.slice none 0 0:=by
   have hxr:=zAT hs x
   have hyr:=zAT hs y
   split at h2
   ·rename_i e hu hx hy
    rw[hx] at hxr;rw[hy] at hyr
    have hyv:a.eval y=.slice none 0 0:=by generalize a.eval y=z at hyr;cases hyr;rfl
    have hxv: ∃base cap,a.eval x=.slice base 0 cap:=by
     generalize a.eval x=z at hxr
     cases hxr with
     |sl0=>exact⟨none,0,rfl⟩
     |sl ec l a' n cap vs hn _ _ _ _ _=>
      simp only[List.length_nil] at hn
      subst hn
      exact⟨some a',cap,rfl⟩
    obtain⟨base,cap,hxv⟩:=hxv
    exact⟨e,base,cap,hu,hxv,hyv⟩
   ·rename_i e hu hx hy
    rw[hx] at hxr;rw[hy] at hyr
    exact⟨e,none,0,hu,by generalize a.eval x=z at hxr;cases hxr;rfl,by generalize a.eval y=z at hyr;cases hyr;rfl⟩
   ·cases h2
  obtain⟨e,base,cap,hu,hxv,hyv⟩:=hp
  ·clear h2
   have hg:(eqGuard op t x y (.slice base 0 cap) (.slice none 0 0)).run P w=.ok () w:=by unfold eqGuard;split<;>simp
   have he: ∃b,(Op.equal t (.slice base 0 cap) (.slice none 0 0)).run P w=.ok b w:=by
    show∃b,(Op.equalIn 10000 t (.slice base 0 cap) (.slice none 0 0)).run P w=_
    unfold Op.equalIn
    cases base<;>simp[underlying,hu]
   obtain⟨b,he⟩:=he
   cases op<;>simp only[Bool.false_eq_true] at h1
   ·exact⟨b,by simp[execOp,ho,hxv,hyv,hg,binOp,he]⟩
   ·exact⟨!b,by simp[execOp,ho,hxv,hyv,hg,binOp,he]⟩
 ·cases h
theorem goE_ok{ce:Calling}(hce:zDU P ce){n b:Nat}{K:AState->Option CR}{x:CR}(h:goE P ce n b o s K=some x)(hs:Sim F g s a w)
 {K':Act->World->Prop} {Q:Exit->Act->World->Prop} (hK: ∀s1 g a w,K s1=some x->Sim F g s1 a w->K' a w):o.wp P a w K' Q:=by
 unfold goE at h
 split at h
 ·rename_i s1 h1
  exact stepE_ok hce h1 F g a w hs _ Q fun g' a' w' hs'=>hK s1 g' a' w' (re_ok h) hs'
 ·split at h
  ·rename_i hask
   obtain⟨h1,h2⟩:=bothC_ok h
   obtain⟨v,hrun⟩:=ask_ok hask hs
   simp only[Oper.wp,hrun,Oper.upon]
   have hput: ∃g',Sim F g' (s.putO o.dst (.bool v)) (a.put o.dst (.bool v)) w:=by
    cases hd:o.dst with
    |none=>exact⟨g,by simpa[AState.putO,Act.put] using hs⟩
    |some d=>exact⟨_,hs.putTmp d none (x:=.bool v) (v:=.bool v) (.bool v) trivial Floating.none⟩
   obtain⟨g',hs'⟩:=hput
   cases v with
   |true=>exact hK _ g' _ w (re_ok h1) hs'
   |false=>exact hK _ g' _ w (re_ok h2) hs'
  ·cases h
theorem opsE_ok{ce:Calling}(hce:zDU P ce){n b:Nat}{Q:Exit->Act->World->Prop}{K:AState->Option CR}{x:CR}(hK: ∀s' g a w,K s'=some x->Sim F g s' a w->Q .normal a w):
 ∀(l:List Oper)(s:AState)(g:Gh)(a:Act)(w:World),opsE P ce n b ops l s K=some x->Sim F g s a w->wpList P ops Q l a w:=by
 intro l
 induction l with
 |nil=>intro s g a w h hs;exact hK s g a w h hs
 |cons o l ih=>
  intro s g a w h hs
  have step:(goE P ce n b o s fun s2=>opsE P ce n b ops l s2 K)=some x->o.wp P a w (wpList P ops Q l) Q:=fun h=>goE_ok hce h hs fun s1 g' a' w' h1 hs'=>ih s1 g' a' w' h1 hs'
  have skip:((s.putO o.dst (.tup [])).re n b fun s2=>opsE P ce n b ops l s2 K)=some x->wpList P ops Q l (a.put o.dst undef) w:=fun h=>by
   obtain⟨g',hs'⟩:=hs.putUndef o.dst
   exact ih _ g' _ w (re_ok h) hs'
  unfold opsE at h
  unfold wpList
  cases hg:o.guard with
  |none=>
   rw[hg] at h;simp only[guardE] at h
   rw[if_pos (by simp[Region.wanted,hg])]
   exact .inl (step h)
  |some q=>
   obtain⟨j,want⟩:=q
   rw[hg] at h
   cases hge:guardE ops s (some (j,want)) with
   |none=>rw[hge] at h;cases h
   |some way=>
    rw[hge] at h
    simp only[guardE] at hge
    split at hge
    ·rename_i d hd
     have hr:=(hs.tmps d).1
     split at hge
     ·rename_i c hc
      have hc':s.tmps d=.bool c:=hc
      rw[hc'] at hr
      have hv:a.tmps.getD d undef=.bool c:=by cases hh:a.tmps.getD d undef<;>rw[hh] at hr<;>cases hr;rfl
      have hy:=zFT hd hv
      simp only[Option.some.injEq] at hge
      subst hge
      by_cases hcw:c=want
      ·rw[if_pos (by simp[Region.wanted,hg,hy,hcw])]
       have e:(c==want)=true:=by simp[hcw]
       rw[e] at h
       exact .inl (step h)
      ·rw[if_neg (by simp[Region.wanted,hg,hy,hcw])]
       have e:(c==want)=false:=by simp[hcw]
       rw[e] at h
       exact skip h
     ·rename_i hc
      have hc':s.tmps d=.tup []:=hc
      rw[hc'] at hr
      have hv:a.tmps.getD d undef=undef:=by
       cases hh:a.tmps.getD d undef<;>rw[hh] at hr<;>cases hr
       rename_i vs hsz _
       have:vs=#[]:=by simpa using hsz
       subst this;rfl
      have hy:=zEw hd hv
      simp only[Option.some.injEq] at hge
      subst hge
      rw[if_neg (by simp[Region.wanted,hg,hy])]
      exact skip h
     ·cases hge
    ·cases hge
structure Acc where
 tg:List Nat
 ld:List Nat
 bad:Bool
 raw:Bool
def tgs(s:AState):Op->List Nat
 |.store _ x _=>match s.ev x with
  |.mptr b _=>[b]
  |_=>[]
 |.call c=>match c.args.toList with
  |[.tmp t,_]=>match s.owner t with
   |some (.cell b _)=>[b]
   |_=>[]
  |_=>[]
 |_=>[]
def lds(s:AState):Op->List Nat
 |.load _ x=>match s.look x with
  |.mptr b _=>[b]
  |_=>[]
 |_=>[]
def badOp(s:AState):Op->Bool
 |.store _ x y=>(match s.ev x with
  |.mptr _ _=>false
  |_=>true)||(match y with
  |.tmp t=> !(s.owner t).isNone
  |_=>false)
 |.assign x=>match x with
  |.tmp t=> !(s.owner t).isNone
  |_=>false
 |.call c=>match c.args.toList with
  |[x,_]=>isE0 (s.takeV x)||(match x with
   |.tmp t=>(match s.owner t with
    |some (.tmp u)=> !(u==t)
    |_=>false)
   |_=>false)
  |_=>false
 |_=>false
def Acc.add(s:AState)(op:Op)(a:Acc):Acc:=⟨tgs s op++a.tg,lds s op++a.ld,badOp s op||a.bad,a.raw⟩
def Acc.addK(ρ:List Nat)(a:Acc):Acc:=⟨ρ++a.tg,a.ld,a.bad,true⟩
def Acc.Ok(B:List Nat)(a:Acc):Prop:=(B=[]∧a.raw=false)∨(B≠[]∧(a.bad=false∧B.contains 995=false)∧(∀b,b∈a.tg->b∈B)∧∀b,b∈a.ld->b∉B)
theorem Acc.add_ok{op:Op}{a:Acc}(h:(a.add s op).Ok B):Gd B s op∧a.Ok B:=by
 rcases h with ⟨rfl,h⟩|⟨hB,⟨hbad,h995⟩,htg,hld⟩
 ·exact⟨by cases op<;>simp[Gd],.inl ⟨rfl,h⟩⟩
 ·simp only[Acc.add,Bool.or_eq_false_iff] at hbad
  refine⟨?_,.inr ⟨hB,⟨hbad.2,h995⟩,fun b hb=>htg b (List.mem_append_right _ hb),fun b hb=>hld b (List.mem_append_right _ hb)⟩⟩
  cases op<;>simp only[Gd]
  case store t x y=>
   obtain⟨h1,_⟩:=hbad
   simp only[badOp,Bool.or_eq_false_iff] at h1
   refine .inr ⟨?_,fun t ht=>?_⟩
   ·have h2:=h1.1
    split at h2
    ·rename_i b off hx
     exact⟨b,off,hx,htg b (List.mem_append_left _ (by simp only[tgs,hx,List.mem_singleton]))⟩
    ·cases h2
   ·have h2:=h1.2
    subst ht
    simp only[Bool.not_eq_false'] at h2
    exact Option.isNone_iff_eq_none.1 h2
  case load t x=>
   refine .inr (.inl fun b off hx=>hld b (List.mem_append_left _ (by simp only[lds,hx,List.mem_singleton])))
  case call c=>
   obtain⟨h1,_⟩:=hbad
   refine .inr (.inr ?_)
   unfold gdA
   split
   ·rename_i x y hl
    simp only[badOp,hl,Bool.or_eq_false_iff] at h1
    rw[h1.1]
    have h2:=h1.2
    cases x with
    |tmp t=>
     simp only[ownIn]
     simp only at h2
     split
     ·rename_i b o' how
      have:=htg b (List.mem_append_left _ (by simp only[tgs,hl,how,List.mem_singleton]))
      simp[this]
     ·rename_i u how
      rw[how] at h2
      simpa using h2
     ·rfl
    |_=>rfl
   ·rfl
  case assign x=>
   obtain⟨h1,_⟩:=hbad
   refine .inr ?_
   cases x with
   |tmp t=>
    simp only[badOp,Bool.not_eq_false'] at h1
    simp only[asgOk,Option.isNone_iff_eq_none.1 h1]
   |_=>rfl
theorem Acc.addK_ok{B ρ:List Nat}{a:Acc}(h:(a.addK ρ).Ok B):B≠[]∧B.contains 995=false∧(∀b,b∈ρ->b∈B)∧a.Ok B:=by
 rcases h with ⟨_,h⟩|⟨hB,hbad,htg,hld⟩
 ·cases h
 ·exact⟨hB,hbad.2,fun b hb=>htg b (List.mem_append_left _ hb),.inr ⟨hB,hbad,fun b hb=>htg b (List.mem_append_right _ hb),hld⟩⟩
def stepY(P:Program)(ce:Calling)(o:Oper)(s:AState)(a:Acc):Option (AState×Acc):=
 match o.op with
 |.call c=>match c.callee with
  |.value x=>match s.look x with
   |.fn (.func f) first captured=>match ce f (zAz s first captured c.args) s.blocks with
    |some (.pure r)=>some (s.putO o.dst r,a)
    |some (.raw r bs' ρ)=>if bs'.length==s.blocks.length&&zGn ρ [r] bs' then some (s.calledK ρ o.dst r bs',a.addK ρ) else none
    |none=>none
   |_=>none
  |.builtin _=>match ckOp P s o.op with
   |some r=>some (s.putR o.dst r,a.add s o.op)
   |none=>none
  |_=>none
 |_=>match ckOp P s o.op with
  |some r=>some (s.putR o.dst r,a.add s o.op)
  |none=>none
theorem stepY_ok{ce:Calling}(hce:zDU P ce){s s':AState}{a a':Acc}(h:stepY P ce o s a=some (s',a'))(hB:a'.Ok B):StepD P B o s s'∧a.Ok B:=by
 have ck:(match ckOp P s o.op with|some r=>some (s.putR o.dst r,a.add s o.op)|none=>none)=some (s',a')->StepD P B o s s'∧a.Ok B:=fun h=>by
  split at h
  ·rename_i r hr
   obtain⟨h1,h2⟩:=ckOp_ok hr
   simp only[Option.some.injEq,Prod.mk.injEq] at h
   obtain⟨rfl,rfl⟩:=h
   obtain⟨h3,h4⟩:=Acc.add_ok hB
   exact⟨.inr (.inl ⟨r,h1,h2,h3,rfl⟩),h4⟩
  ·cases h
 unfold stepY at h
 split at h
 ·rename_i c ho
  split at h
  ·rename_i x hc
   split at h
   ·rename_i f first captured hx
    split at h
    ·rename_i r hr
     simp only[Option.some.injEq,Prod.mk.injEq] at h
     obtain⟨rfl,rfl⟩:=h
     obtain⟨h1,h2,h3⟩:=hce.1 _ _ _ _ hr
     exact⟨.inl ⟨c,x,f,first,captured,r,ho,hc,hx,h1,h2,h3,rfl⟩,hB⟩
    ·rename_i r bs' ρ hr
     split at h
     ·rename_i hl
      simp only[zq7,beq_iff_eq] at hl
      obtain⟨hl,hcl⟩:=hl
      simp only[Option.some.injEq,Prod.mk.injEq] at h
      obtain⟨rfl,rfl⟩:=h
      obtain⟨hne,h995,hρ,ha⟩:=Acc.addK_ok hB
      obtain⟨h1,h2,h3,h4⟩:=hce.2 _ _ _ _ _ _ hr
      refine⟨.inr (.inr (.inl ⟨hne,c,x,f,first,captured,r,bs',ρ,ho,hc,hx,h4 hcl hl,h2,hρ,hl,fun b hb=>?_,fun h=>absurd h (by rw[h995];decide),rfl⟩)),ha⟩
      rcases Nat.lt_or_ge b s.blocks.length with hlt|hge
      ·rw[zq5,h3 b hb hlt,<-zq5]
      ·rw[zq5,zq5,List.getElem?_eq_none (by omega),List.getElem?_eq_none hge]
     ·cases h
    ·cases h
   ·cases h
  ·exact ck h
  ·cases h
 ·exact ck h
def stepX(P:Program)(ce:Calling)(o:Oper)(s:AState):Option AState:=
 match o.guard with
 |none=>match o.op with
  |.call c=>match c.callee with
   |.value x=>match s.look x with
    |.fn (.func f) first captured=>match call0 ce f s first captured c.args with
     |some r=>some (s.putO o.dst r)
     |none=>match ce f (zAz s first captured c.args) s.blocks with
      |some (.pure r)=>some (s.putO o.dst r)
      |some (.raw r bs' ρ)=>some (s.calledK ρ o.dst r bs')
      |none=>none
    |_=>none
   |.builtin _=>match ckOp P s o.op with
    |some r=>some (s.putR o.dst r)
    |none=>none
   |_=>none
  |op=>if isMap op then match ckMap P s o.op with
   |some r=>some (s.putR o.dst r)
   |none=>none
   else match ckOp P s o.op with
    |some r=>some (s.putR o.dst r)
    |none=>none
 |some _=>none
theorem stepX_ok{ce:Calling}(hce:zDU P ce){s s':AState}(h:stepX P ce o s=some s'):PStep P o s s':=by
 unfold stepX at h
 split at h
 ·rename_i hg
  split at h
  ·rename_i c ho
   split at h
   ·rename_i x hc
    split at h
    ·rename_i f first captured hx
     split at h
     ·rename_i r hr
      simp only[Option.some.injEq] at h
      obtain⟨h1,h2,h3⟩:=call0_ok hce hr
      exact⟨hg,.inl ⟨c,x,f,first,captured,r,ho,hc,hx,h3,.inr (.inr (.inr ⟨h1,h2,h.symm⟩))⟩⟩
     split at h
     ·rename_i r hr
      simp only[Option.some.injEq] at h
      obtain⟨h1,h2,h3⟩:=hce.1 _ _ _ _ hr
      exact⟨hg,.inl ⟨c,x,f,first,captured,r,ho,hc,hx,h3,.inr (.inr (.inl ⟨h1,h2,h.symm⟩))⟩⟩
     ·rename_i r bs' ρ hr
      simp only[Option.some.injEq] at h
      obtain⟨h1,h2,_⟩:=hce.2 _ _ _ _ _ _ hr
      exact⟨hg,.inl ⟨c,x,f,first,captured,r,ho,hc,hx,h2,.inr (.inl ⟨bs',ρ,h1,h.symm⟩)⟩⟩
     ·cases h
    ·cases h
   ·split at h
    ·rename_i r hr
     obtain⟨h1,h2⟩:=ckOp_ok hr
     simp only[Option.some.injEq] at h
     exact⟨hg,.inr (.inr (.inl ⟨r,h1,h2,h.symm⟩))⟩
    ·cases h
   ·cases h
  ·split at h
   ·split at h
    ·rename_i r hr
     obtain⟨h1,h2⟩:=ckMap_ok hr
     simp only[Option.some.injEq] at h
     exact⟨hg,.inr (.inl ⟨r,h1,h2,h.symm⟩)⟩
    ·cases h
   ·split at h
    ·rename_i r hr
     obtain⟨h1,h2⟩:=ckOp_ok hr
     simp only[Option.some.injEq] at h
     exact⟨hg,.inr (.inr (.inl ⟨r,h1,h2,h.symm⟩))⟩
    ·cases h
 ·cases h
theorem gstep_of{s s1:AState}{way:Bool}(h:guardE ops s o.guard=some way)(h1:way=true->StepD P B o s s1)(h2:way=false->s1=s.putO o.dst (.tup [])):GStep P B ops o s s1:=by
 unfold GStep
 cases hg:o.guard with
 |none=>
  rw[hg] at h;simp only[guardE,Option.some.injEq] at h
  exact h1 h.symm
 |some q=>
  obtain⟨j,want⟩:=q
  rw[hg] at h
  simp only[guardE] at h ⊢
  split at h
  ·rename_i d hd
   split at h
   ·rename_i c hc
    simp only[Option.some.injEq] at h
    refine⟨d,hd,.inl ⟨c,hc,?_⟩⟩
    by_cases hw:c=want
    ·exact .inl ⟨hw,h1 (by rw[<-h];simp[hw])⟩
    ·refine .inr ⟨?_,h2 (by rw[<-h];simp[hw])⟩
     revert hw;cases c<;>cases want<;>decide
   ·rename_i hc
    simp only[Option.some.injEq] at h
    exact⟨d,hd,.inr ⟨hc,h2 h.symm⟩⟩
   ·cases h
  ·cases h
def opsX(P:Program)(ce:Calling)(n b:Nat)(ops:Array Oper)(pins:List Nat):List Oper->Nat->AState->Acc->Option (AState×Acc)
 |[],_,s,a=>some (s,a)
 |o::l,k,s,a=>if pins.contains k then match stepX P ce o s with
  |some s1=>s1.re n b fun s2=>opsX P ce n b ops pins l (k+1) s2 a
  |none=>none
  else match guardE ops s o.guard with
  |some true=>match stepY P ce o s a with
   |some (s1,a1)=>s1.re n b fun s2=>opsX P ce n b ops pins l (k+1) s2 a1
   |none=>none
  |some false=>(s.putO o.dst (.tup [])).re n b fun s2=>opsX P ce n b ops pins l (k+1) s2 a
  |none=>none
theorem opsX_ok{ce:Calling}(hce:zDU P ce){n b:Nat}: ∀(l:List Oper)(k:Nat)(s:AState)(a:Acc)(s':AState)(a':Acc),(∀j,l[j]? =ops[k+j]?)->opsX P ce n b ops pins l k s a=some (s',a')->a'.Ok B->
 zJq P B ops pins (List.range' k l.length) s s'∧a.Ok B:=by
 intro l
 induction l with
 |nil=>intro k s a s' a' _ h hB;cases h;exact⟨rfl,hB⟩
 |cons o l ih=>
  intro k s a s' a' hl h hB
  have h0:ops[k]? =some o:=by simpa using(hl 0).symm
  have hl': ∀j,l[j]? =ops[k+1+j]? :=fun j=>by have:=hl (j+1);simpa[Nat.add_assoc,Nat.add_comm 1 j] using this
  rw[List.length_cons,List.range'_succ]
  unfold opsX at h
  split at h
  ·rename_i hp
   split at h
   ·rename_i s1 h1
    obtain⟨h2,h3⟩:=ih _ _ _ _ _ hl' (re_ok h) hB
    exact⟨⟨o,s1,h0,.inr ⟨hp,stepX_ok hce h1⟩,h2⟩,h3⟩
   ·cases h
  ·rename_i hp
   have hp':pins.contains k=false:=by simpa using hp
   split at h
   ·rename_i hb
    split at h
    ·rename_i s1 a1 h1
     obtain⟨h2,h3⟩:=ih _ _ _ _ _ hl' (re_ok h) hB
     obtain⟨h4,h5⟩:=stepY_ok hce h1 h3
     exact⟨⟨o,s1,h0,.inl ⟨hp',gstep_of hb (fun _=>h4) (fun e=>by cases e)⟩,h2⟩,h5⟩
    ·cases h
   ·rename_i hb
    obtain⟨h2,h3⟩:=ih _ _ _ _ _ hl' (re_ok h) hB
    exact⟨⟨o,_,h0,.inl ⟨hp',gstep_of hb (fun e=>by cases e) (fun _=>rfl)⟩,h2⟩,h3⟩
   ·cases h
def pinsOf(ops:Array Oper):List Nat:=(List.range ops.size).filter fun i=>match ops[i]? with
 |some o=>(match o.guard with
  |none=>(match o.op with
   |.call c=>(match c.callee with
    |.value _=>zKJ ops [i]
    |.builtin .append=>zKJ ops [i]
    |_=>false)
   |.store ..=>zKJ ops [i]
   |.assign _=>zKJ ops [i]
   |op=>isMap op&&zKJ ops [i])
  |some _=>false)
 |none=>false
def pickB(ops:Array Oper)(n:Nat)(a:Acc):Option (List Nat):=
 if !a.raw&&regOk [] ops n then some [] else
 if !a.bad&&(!(1000000::a.tg).eraseDups.contains 995&&a.ld.all (fun b=> !(1000000::a.tg).eraseDups.contains b)&&regOk (1000000::a.tg).eraseDups ops n) then some (1000000::a.tg).eraseDups else none
theorem pickB_ok{a:Acc}(h:pickB ops n a=some B):a.Ok B∧regOk B ops n=true:=by
 unfold pickB at h
 split at h
 ·rename_i hh
  simp only[zq7,Bool.not_eq_true'] at hh
  cases h
  exact⟨.inl ⟨rfl,hh.1⟩,hh.2⟩
 ·split at h
  ·rename_i hh
   simp only[zq7,Bool.not_eq_true',List.all_eq_true] at hh
   cases h
   have hmem:1000000∈(1000000::a.tg).eraseDups:=List.mem_eraseDups.2 (zq9 ..)
   refine⟨.inr ⟨fun e=>(by rw[e] at hmem;cases hmem),⟨hh.1,hh.2.1.1⟩,fun b hb=>List.mem_eraseDups.2 (zqc _ hb),fun b hb hm=>?_⟩,hh.2.2⟩
   have:=hh.2.1.2 b hb
   rw[<-List.contains_iff_mem] at hm
   rw[hm] at this;cases this
  ·cases h
def regionX(P:Program)(ce:Calling)(n b:Nat)(ops:Array Oper)(s:AState):Option AState:=
 if zKJ ops (pinsOf ops)&&s.n==n then
  match s.fresh.re n b fun s=>opsX P ce n b ops (pinsOf ops) ops.toList 0 s ⟨[],[],false,false⟩ with
   |some (s',a)=>match pickB ops n a with
    |some _=>some s'
    |none=>none
   |none=>none
 else none
theorem regionX_ok{ce:Calling}(hce:zDU P ce)(hm:P.follows .mixedOrders=true){n b:Nat}{s s':AState}(h:regionX P ce n b ops s=some s')(hQ:Q .normal s'):
 AWp P (.region id ops true) Q s:=by
 unfold regionX at h
 split at h
 ·rename_i hp
  simp only[zq7,beq_iff_eq] at hp
  obtain⟨hp,hsn⟩:=hp
  split at h
  ·rename_i s1 a h1
   split at h
   ·rename_i B hpick
    cases h
    obtain⟨ha,hr⟩:=pickB_ok hpick
    exact zHs B (pinsOf ops) hm hsn hr hp (opsX_ok hce _ _ _ _ _ _ (fun j=>by simp) (re_ok h1) ha).1 hQ
   ·cases h
  ·cases h
 ·cases h
def AState.compact(s:AState):AState:=if s.base<=s.blocks.length then (let l:=(List.range s.n).map s.tmps;⟨fun t=>l.getD t .top,fun _=>none,s.n,s.base,s.blocks⟩) else s
theorem leAV_rfl(x:AV):leAV x x:=by cases x<;>simp
theorem leSame{s s':AState}(ht: ∀t,leAV (s.tmps t) (s'.tmps t))(hl: ∀t,s'.loans t=none)(hn:s'.n=s.n)(hb:s'.base=s.base)(hbl:s'.blocks=s.blocks)(hbb:s.base<=s.blocks.length):s.Le s' where
 tmps:=ht
 loans:=hl
 n:=hn
 base:=hb
 hbase:=by rw[hbl];exact hbb
 short:=by rw[hbl];exact Nat.le_refl _
 blocks:=fun b blk' h=>⟨blk',by rw[<-hbl];exact h,rfl,fun o x' hx=>⟨x',hx,leAV_rfl x',.inr rfl⟩⟩
 below:=.inl (by rw[hbl])
theorem compact_le(h:s.base<=s.blocks.length):s.Le s.compact:=by
 unfold AState.compact
 rw[if_pos h]
 refine leSame (fun t=>?_) (fun t=>rfl) rfl rfl rfl h
 simp only
 by_cases ht:t<s.n
 ·rw[zq5,List.getElem?_map,List.getElem?_range ht];exact leAV_rfl _
 ·rw[zq5,List.getElem?_eq_none (by simpa using ht)]
  cases s.tmps t<;>simp
noncomputable def evC (P:Program) (ce:Calling) (nt nb:Nat) (n:Nat):Code->AState->(Exit->AState->Option CR)->Option CR:=
 Nat.rec (fun _ _ _=>none) (fun _ ih c s K=>match c with
  |.skip=>K .normal s
  |.region _ ops false=>s.fresh.re nt nb fun s1=>opsE P ce nt nb ops ops.toList s1 (K .normal)
  |.region _ ops true=>match regionX P ce nt nb ops s with
   |some s'=>K .normal s'
   |none=>none
  |.seq x y=>ih x s fun e s1=>match e with
   |.normal=>ih y s1 K
   |e=>K e s1
  |.cond c x y=>match s.look c with
   |.bool true=>ih x s K
   |.bool false=>ih y s K
   |_=>none
  |.block id c=>ih c s fun e s1=>match e with
   |.exit id'=>if id'=id then K .normal s1 else K (.exit id') s1
   |e=>K e s1
  |.loop c=>ih c s fun e s1=>match e with
   |.normal=>ih (.loop c) s1.compact K
   |e=>K e s1
  |.exit id=>K (.exit id) s
  |.ret=>K .ret s
  |_=>none) n
def LoopAt(P:Program)(c:Code)(Q:Exit->AState->Prop)(s:AState):Prop:=
 ∀F g a w,Sim F g s a w->∀b k cs,∃e a' w',(∃g' s',Sim F g' s' a' w'∧Q e s')∧Arrives P (lone (b.at a (.code c::.inLoop c::k)) cs w) b k cs e a' w'
theorem loopAt_le(h:LoopAt P c Q s.compact):LoopAt P c Q s:=fun F g a w hs=>by
 by_cases hb:s.base<=s.blocks.length
 ·obtain⟨g',hs'⟩:=hs.le (compact_le hb)
  exact h F g' a w hs'
 ·have e:s.compact=s:=by unfold AState.compact;rw[if_neg hb]
  rw[e] at h
  exact h F g a w hs
theorem loopAt_round(h:AWp P c (seqK (LoopAt P c Q) Q) s):LoopAt P c Q s:=fun F g a w hs b k cs=>by
 obtain⟨e,a₁,w₁,⟨g1,s1,h1,h2⟩,harr⟩:=h F g a w hs b (.inLoop c::k) cs
 cases e with
 |normal=>
  obtain⟨e₂,a₂,w₂,hq₂,harr₂⟩:=h2 F g1 a₁ w₁ h1 b k cs
  exact⟨e₂,a₂,w₂,hq₂,.of_steps (Steps.trans harr (.one step_inLoop)) harr₂⟩
 |exit id=>exact⟨_,a₁,w₁,⟨g1,s1,h1,h2⟩,.pass (x:=.inLoop c) rfl (fun _ _=>.inl (by simp)) harr⟩
 |goto l=>exact⟨_,a₁,w₁,⟨g1,s1,h1,h2⟩,.pass (x:=.inLoop c) rfl (fun _ _=>.inl (by simp)) harr⟩
 |ret=>exact⟨_,a₁,w₁,⟨g1,s1,h1,h2⟩,.pass (x:=.inLoop c) rfl (fun _ _=>.inl (by simp)) harr⟩
 |panic ch=>exact⟨_,a₁,w₁,⟨g1,s1,h1,h2⟩,.pass (x:=.inLoop c) rfl (fun _ _=>.inl (by simp)) harr⟩
 |outgrown=>exact⟨_,a₁,w₁,⟨g1,s1,h1,h2⟩,.pass (x:=.inLoop c) rfl (fun _ _=>.inl (by simp)) harr⟩
theorem awp_loopAt(h:LoopAt P c Q s):AWp P (.loop c) Q s:=fun F g a w hs b k cs=>by
 obtain⟨e,a',w',hq,harr⟩:=h F g a w hs b k cs
 exact⟨e,a',w',hq,.of_steps (.one step_loop) harr⟩
theorem evC_ok{ce:Calling}(hce:zDU P ce)(hm:P.follows .mixedOrders=true)(nt nb:Nat){x:CR}: ∀(n:Nat),
 (∀(c:Code)(s:AState)(K:Exit->AState->Option CR),evC P ce nt nb n c s K=some x->AWp P c (fun e s'=>K e s'=some x) s)∧
 (∀(c:Code)(s:AState)(K:Exit->AState->Option CR),evC P ce nt nb n (.loop c) s K=some x->LoopAt P c (fun e s'=>K e s'=some x) s):=by
 intro n
 induction n with
 |zero=>exact⟨fun c s K h=>(by cases h),fun c s K h=>(by cases h)⟩
 |succ n ih=>
  have hloop: ∀(c:Code)(s:AState)(K:Exit->AState->Option CR),evC P ce nt nb (n+1) (.loop c) s K=some x->LoopAt P c (fun e s'=>K e s'=some x) s:=fun c s K h=>by
   have h':(evC P ce nt nb n c s fun e s1=>match e with
    |.normal=>evC P ce nt nb n (.loop c) s1.compact K
    |e=>K e s1)=some x:=h
   apply loopAt_round
   refine zGA (ih.1 c s _ h') fun e s1 h1=>?_
   cases e with
   |normal=>exact loopAt_le (ih.2 c _ _ h1)
   |_=>exact h1
  refine⟨fun c s K h=>?_,hloop⟩
  cases c with
  |skip=>exact zAC h
  |region id ops draw=>
   cases draw with
   |false=>
    have h':(s.fresh.re nt nb fun s1=>opsE P ce nt nb ops ops.toList s1 (K .normal))=some x:=h
    exact fun F g a w hs=>wp_region_list (opsE_ok hce (fun s' g a w hK hs'=>⟨g,s',hs',hK⟩) _ _ _ _ _ (re_ok h') hs.fresh)
   |true=>
    have h':(match regionX P ce nt nb ops s with|some s'=>K .normal s'|none=>none)=some x:=h
    split at h'
    ·rename_i s1 h1
     exact regionX_ok hce hm h1 h'
    ·cases h'
  |seq c y=>
   have h':(evC P ce nt nb n c s fun e s1=>match e with
    |.normal=>evC P ce nt nb n y s1 K
    |e=>K e s1)=some x:=h
   apply zAD
   refine zGA (ih.1 c s _ h') fun e s1 h1=>?_
   cases e with
   |normal=>exact ih.1 y s1 _ h1
   |_=>exact h1
  |cond c y z=>
   have h':(match s.look c with|.bool true=>evC P ce nt nb n y s K|.bool false=>evC P ce nt nb n z s K|_=>none)=some x:=h
   split at h'
   ·rename_i hc
    exact zKn hc (fun _=>ih.1 y s _ h') (fun hb=>by cases hb)
   ·rename_i hc
    exact zKn hc (fun hb=>by cases hb) (fun _=>ih.1 z s _ h')
   ·cases h'
  |block id c=>
   have h':(evC P ce nt nb n c s fun e s1=>match e with
    |.exit id'=>if id'=id then K .normal s1 else K (.exit id') s1
    |e=>K e s1)=some x:=h
   apply zAF
   refine zGA (ih.1 c s _ h') fun e s1 h1=>?_
   cases e with
   |exit id'=>
    show if id'=id then _ else _
    have h2:(if id'=id then K .normal s1 else K (.exit id') s1)=some x:=h1
    split at h2
    ·rename_i hid;rw[if_pos hid];exact h2
    ·rename_i hid;rw[if_neg hid];exact h2
   |_=>exact h1
  |loop c=>exact awp_loopAt (hloop c s K h)
  |exit id=>exact zAQ h
  |ret=>exact zAB h
  |_=>cases h
def sdRes(P:Program)(s:AState):ResultVar->Bool
 |.tmp _=>true
 |.cell a t=>match s.get a with
  |.mptr b o=>sdLoadV P t ((s.blocks.getD b []).drop o)
  |_=>true
theorem sdRes_ok{P:Program}{s:AState}: ∀{l:List ResultVar}{c:Prop}{xs:List AV},zFs P s l=some (c,xs)->l.all (sdRes P s)=true->c
 |[],c,xs,h,_=>by
  simp only[zFs,Option.some.injEq,Prod.mk.injEq] at h
  rw[<-h.1];trivial
 |r::l,c,xs,h,hs=>by
  simp only[List.all_cons,zq7] at hs
  simp only[zFs] at h
  split at h
  ·rename_i c1 x c2 xs' h1 h2
   simp only[Option.some.injEq,Prod.mk.injEq] at h
   rw[<-h.1]
   refine⟨?_,sdRes_ok h2 hs.2⟩
   cases r with
   |tmp t=>
    simp only[zKq,Option.some.injEq,Prod.mk.injEq] at h1
    rw[<-h1.1];trivial
   |cell a t=>
    simp only[zKq] at h1
    have h3:=hs.1
    simp only[sdRes] at h3
    split at h1
    ·rename_i b o ha
     simp only[ha] at h3
     exact zJ7 h1 h3
    ·cases h1
  ·cases h
def dropE(s:AState)(r:AV):Bool:=decide (s.base<s.blocks.length)&&(r.under (s.blocks.length-1)&&zLF (s.blocks.length-1) (s.blocks.take (s.blocks.length-1)))
theorem dropE_ok{r:AV}(h:dropE s r=true):DropOk s r:=by
 simp only[dropE,zq7,decide_eq_true_eq] at h
 exact h
def fzE(s:AState):Bool:=decide (s.base<s.blocks.length)&&(s.lblk.all AV.inert&&okFzB s.lb s.lblk (s.blocks.take s.lb))
theorem fzE_ok(h:fzE s=true):FzOk s:=by
 simp only[fzE,zq7,decide_eq_true_eq] at h
 exact h
def finK:Nat->AState->AV->Option (AState×AV)
 |0,s,r=>some (s,r)
 |k+1,s,r=>if dropE s r then finK k s.dropB r else if fzE s then finK k s.fz (r.fz s.lb s.lblk) else none
theorem finK_ok{R:AV->AState->Prop}: ∀(k:Nat)(s:AState)(r:AV)(s':AState)(r':AV),finK k s r=some (s',r')->R r' s'->∃l,FzR l R r s
 |0,s,r,s',r',h,hR=>by cases h;exact⟨[],hR⟩
 |k+1,s,r,s',r',h,hR=>by
  unfold finK at h
  split at h
  ·rename_i hd
   obtain⟨l,hl⟩:=finK_ok k _ _ _ _ h hR
   exact⟨false::l,dropE_ok hd,hl⟩
  ·split at h
   ·rename_i hf
    obtain⟨l,hl⟩:=finK_ok k _ _ _ _ h hR
    exact⟨true::l,fzE_ok hf,hl⟩
   ·cases h
def finD:Nat->AState->AV->AState
 |0,s,r=>s
 |k+1,s,r=>if dropE s r then finD k s.dropB r else s
theorem finD_ok{R:AV->AState->Prop}: ∀(k:Nat)(s:AState)(r:AV),R r (finD k s r)->∃l,FzR l R r s
 |0,s,r,hR=>⟨[],hR⟩
 |k+1,s,r,hR=>by
  unfold finD at hR
  split at hR
  ·rename_i hd
   obtain⟨l,hl⟩:=finD_ok k _ _ hR
   exact⟨false::l,dropE_ok hd,hl⟩
  ·exact⟨[],hR⟩
def endE(P:Program)(fn:Func):Option (Exit×AState)->Option (AState×AV)
 |some (.normal,s)|some (.ret,s)=>match zFs P s fn.results.toList with
  |some (_,xs)=>if fn.results.toList.all (sdRes P s) then some (s,(oneOf xs).normR) else none
  |none=>none
 |_=>none
theorem endE_ok{e:Exit}{s s':AState}{r:AV}(h:endE P fn (some (e,s))=some (s',r)):s'=s∧∀R:AV->AState->Prop,R r s->Ret P fn R e s:=by
 have key:(match zFs P s fn.results.toList with|some (_,xs)=>if fn.results.toList.all (sdRes P s) then some (s,(oneOf xs).normR) else none|none=>none)=some (s',r)->
  s'=s∧∀R:AV->AState->Prop,R r s->match zFs P s fn.results.toList with|some (c,xs)=>c∧R (oneOf xs).normR s|none=>False:=fun h=>by
  split at h
  ·rename_i c xs hr
   split at h
   ·rename_i hs
    simp only[Option.some.injEq,Prod.mk.injEq] at h
    obtain⟨rfl,rfl⟩:=h
    refine⟨rfl,fun R hR=>?_⟩
    exact⟨sdRes_ok hr hs,hR⟩
   ·cases h
  ·cases h
 cases e with
 |normal=>exact key h
 |ret=>exact key h
 |_=>cases h
def forceN{α:Type}(n:Nat)(K:Nat->α):α:=match n with
 |0=>K 0
 |p+1=>K (p+1)
theorem zJt(n:Nat)(K:Nat->α):forceN n K=K n:=by cases n<;>rfl
def forceI{α:Type}(n:Int)(K:Int->α):α:=match n with
 |.ofNat m=>forceN m fun m=>K (.ofNat m)
 |.negSucc m=>forceN m fun m=>K (.negSucc m)
theorem forceI_eq(n:Int)(K:Int->α):forceI n K=K n:=by cases n<;>simp only[forceI,zJt]
def forceB{α:Type}:List UInt8->(List UInt8->α)->α
 |[],K=>K []
 |c::l,K=>forceN c.toNat fun n=>forceB l fun l=>K (UInt8.ofNat n::l)
theorem forceB_eq{α:Type}: ∀(l:List UInt8)(K:List UInt8->α),forceB l K=K l
 |[],K=>rfl
 |c::l,K=>by simp only[forceB,zJt,forceB_eq l,UInt8.ofNat_toNat]
mutual
def AV.force{α:Type}:AV->(AV->α)->α
 |.int k n,K=>forceI n fun n=>K (.int k n)
 |.bool b,K=>match b with
  |true=>K (.bool true)
  |false=>K (.bool false)
 |.str s,K=>forceB s fun s=>K (.str s)
 |.mptr b o,K=>forceN b fun b=>forceN o fun o=>K (.mptr b o)
 |.baddr t b,K=>forceN b fun b=>K (.baddr t b)
 |.cptr l,K=>AV.forceL l fun l=>K (.cptr l)
 |.osl e l,K=>AV.forceLL l fun l=>K (.osl e l)
 |.sl l,K=>AV.forceLL l fun l=>K (.sl l)
 |.fn f a b,K=>AV.forceL a fun a=>AV.forceL b fun b=>K (.fn f a b)
 |.iface t v,K=>v.force fun v=>K (.iface t v)
 |.agg l,K=>AV.forceL l fun l=>K (.agg l)
 |.tup l,K=>AV.forceL l fun l=>K (.tup l)
 |.omp a b,K=>AV.forceL a fun a=>AV.forceL b fun b=>K (.omp a b)
 |.nilp,K=>K .nilp
 |.nsl,K=>K .nsl
 |.nilfn,K=>K .nilfn
 |.nilif,K=>K .nilif
 |.osq e l,K=>K (.osq e l)
 |.msl b e n,K=>K (.msl b e n)
 |.e0,K=>K .e0
 |.mpx,K=>K .mpx
 |.otup e l cs,K=>K (.otup e l cs)
 |.top,K=>K .top
def AV.forceL{α:Type}:List AV->(List AV->α)->α
 |[],K=>K []
 |x::l,K=>x.force fun x=>AV.forceL l fun l=>K (x::l)
def AV.forceLL{α:Type}:List (List AV)->(List (List AV)->α)->α
 |[],K=>K []
 |x::l,K=>AV.forceL x fun x=>AV.forceLL l fun l=>K (x::l)
end
mutual
theorem AV.force_eq: ∀(x:AV)(K:AV->α),x.force K=K x
 |.int k n,K=>by simp only[AV.force,forceI_eq]
 |.bool b,K=>by cases b<;>rfl
 |.str s,K=>by simp only[AV.force,forceB_eq]
 |.mptr b o,K=>by simp only[AV.force,zJt]
 |.baddr t b,K=>by simp only[AV.force,zJt]
 |.cptr l,K=>by simp only[AV.force,AV.forceL_eq l]
 |.osl e l,K=>by simp only[AV.force,AV.forceLL_eq l]
 |.sl l,K=>by simp only[AV.force,AV.forceLL_eq l]
 |.fn f a b,K=>by simp only[AV.force,AV.forceL_eq a,AV.forceL_eq b]
 |.iface t v,K=>by simp only[AV.force,AV.force_eq v]
 |.agg l,K=>by simp only[AV.force,AV.forceL_eq l]
 |.tup l,K=>by simp only[AV.force,AV.forceL_eq l]
 |.omp a b,K=>by simp only[AV.force,AV.forceL_eq a,AV.forceL_eq b]
 |.nilp,K=>rfl
 |.nsl,K=>rfl
 |.nilfn,K=>rfl
 |.nilif,K=>rfl
 |.osq e l,K=>rfl
 |.msl b e n,K=>rfl
 |.e0,K=>rfl
 |.mpx,K=>rfl
 |.otup e l cs,K=>rfl
 |.top,K=>rfl
theorem AV.forceL_eq: ∀(l:List AV)(K:List AV->α),AV.forceL l K=K l
 |[],K=>rfl
 |x::l,K=>by simp only[AV.forceL,AV.force_eq x,AV.forceL_eq l]
theorem AV.forceLL_eq: ∀(l:List (List AV))(K:List (List AV)->α),AV.forceLL l K=K l
 |[],K=>rfl
 |x::l,K=>by simp only[AV.forceLL,AV.forceL_eq x,AV.forceLL_eq l]
end
def zHP(args:List AV)(bs:List (List AV)):List Nat:=reach bs bs.length (AV.refsL args).eraseDups
def finPure:Option (AState×AV)->Option CR
 |some (s,r)=>match finK s.blocks.length s r with
  |some (_,r')=>if r'.flat&& !r'.owns then some (.pure r') else none
  |none=>none
 |none=>none
def finRaw:Option (AState×AV)->Option CR
 |some (s,r)=>if !r.owns&&decide ((finD s.blocks.length s r).base<=(finD s.blocks.length s r).blocks.length) then some (.raw r (finD s.blocks.length s r).blocks []) else none
 |none=>none
noncomputable def bodyP (P:Program) (ce:Calling) (fu:Nat) (fn:Func) (c:Code) (args:List AV):Option CR:=
 match evC P ce fn.ntmps 0 fu c (start fn.ntmps 0 args []) fun e s=>finPure (endE P fn (some (e,s))) with
 |some (.pure r)=>r.force fun r=>if r.flat&& !r.owns then some (.pure r) else none
 |_=>none
noncomputable def bodyR (P:Program) (ce:Calling) (fu:Nat) (fn:Func) (c:Code) (args:List AV) (bs:List (List AV)):Option CR:=
 match evC P ce fn.ntmps bs.length fu c (start fn.ntmps bs.length args bs) fun e s=>finRaw (endE P fn (some (e,s))) with
 |some (.raw r bs' _)=>r.force fun r=>AV.forceLL bs' fun bs'=>some (.raw r bs' [])
 |_=>none
noncomputable def bodyE (P:Program) (ce:Calling) (fu:Nat) (fn:Func) (c:Code) (args:List AV) (bs:List (List AV)):Option CR:=
 AV.forceL args fun args=>
 if AV.flatL args then bodyP P ce fu fn c args
 else if zGn (zHP args bs) args bs then
  match AV.forceL (AV.renL (zL1 (zHP args bs)) args) fun args'=>AV.forceLL (small (zHP args bs) bs) fun sm=>bodyR P ce fu fn c args' sm with
  |some (.raw r bs' _)=>if !r.owns&&decide ((zHP args bs).length<=bs'.length) then some (.raw (r.ren (zDy (zHP args bs) bs.length)) (lay (zDy (zHP args bs) bs.length) (zHP args bs) bs' bs) (zHP args bs)) else none
  |_=>none
 else none
noncomputable def callN (P:Program) (lib:Calling) (fu:Nat) (n:Nat):Calling:=
 Nat.rec (fun f args bs=>lib f args bs) (fun _ ih f args bs=>match lib f args bs with
  |some r=>some r
  |none=>match P.funcs[f]? with
   |some fn=>match fn.body with
    |some c=>if !(fn.name== "runtime.NumGoroutine")&&(decide (args.length≤fn.ntmps)&&args.all (fun x=> !x.owns)) then bodyE P ih fu fn c args bs else none
    |none=>none
   |none=>none) n
theorem bodyE_ok {ce:Calling} (hce:zDU P ce) (hm:P.follows .mixedOrders=true) {fu:Nat} {bs:List (List AV)} {x:CR} (hf:P.funcs[f]? =some fn) (hname:(fn.name== "runtime.NumGoroutine")=false) (hb:fn.body=some c)
 (hn:args.length<=fn.ntmps) (hown:args.all (fun x=> !x.owns)=true) (h:bodyE P ce fu fn c args bs=some x):
 (∃res,x=.pure res∧Pure P f args res∧AV.flatL args=true∧res.owns=false)∨(∃res bs' ρ,x=.raw res bs' ρ∧RawK P f args bs res bs' (fun b=>b∉ρ)∧res.owns=false∧(∀b,b∉ρ->b<bs.length->bs'[b]? =bs[b]?)∧(zGn ρ [res] bs'=true->bs'.length=bs.length->∀zs,RawK P f args (bs++zs) res (bs'++zs) (fun b=>b∉ρ))):=by
 unfold bodyE bodyP bodyR at h
 simp only[AV.forceL_eq,AV.forceLL_eq,AV.force_eq] at h
 split at h
 ·rename_i hfl
  split at h
  ·rename_i r hev
   split at h
   ·rename_i hr
    simp only[zq7,Bool.not_eq_true'] at hr
    cases h
    refine .inl ⟨r,rfl,zJd hf hname hb hn hown hr.1 (zGA ((evC_ok hce hm _ _ fu).1 _ _ _ hev) fun e s hK=>?_),hfl,hr.2⟩
    cases hend:endE P fn (some (e,s)) with
    |none=>rw[hend] at hK;cases hK
    |some q=>
     obtain⟨s1,r1⟩:=q
     rw[hend] at hK
     obtain⟨rfl,hret⟩:=endE_ok hend
     simp only[finPure] at hK
     split at hK
     ·rename_i s2 r' hk
      split at hK
      ·cases hK
       obtain⟨l,hl⟩:=finK_ok (R:=fun r0 _=>r0=r) _ _ _ _ _ hk rfl
       exact hret _ ⟨l,hl⟩
      ·cases hK
     ·cases hK
   ·cases h
  ·cases h
 ·split at h
  ·rename_i hcl
   generalize zHP args bs=ρ at h hcl
   obtain⟨hfr,hargs⟩:=zHp hcl
   split at h
   ·rename_i r bs1 ρ1 hev0
    have hev: ∃ρ2,evC P ce fn.ntmps (small ρ bs).length fu c (start fn.ntmps (small ρ bs).length (AV.renL (zL1 ρ) args) (small ρ bs)) (fun e s=>finRaw (endE P fn (some (e,s))))=some (.raw r bs1 ρ2):=by
     split at hev0
     ·rename_i r2 bs2 ρ2 h2
      cases hev0
      exact⟨_,h2⟩
     ·cases hev0
    obtain⟨ρ2,hev⟩:=hev
    split at h
    ·rename_i hr
     simp only[zq7,Bool.not_eq_true',decide_eq_true_eq] at hr
     obtain⟨hr,hge⟩:=hr
     cases h
     have hraw:Raw P f (AV.renL (zL1 ρ) args) (small ρ bs) r bs1:=
      zKI hf hname hb (by rw[zBe];exact hn) (by
       rw[List.all_eq_true] at hown ⊢
       intro y hy
       obtain⟨i,hi⟩:=zqd hy
       rw[zEP] at hi
       cases hz:args[i]? with
       |none=>rw[hz] at hi;cases hi
       |some z=>
        rw[hz] at hi;cases hi
        rw[ren_owns];exact hown z (zq3 hz)) fun _=>zGA ((evC_ok hce hm _ _ fu).1 _ _ _ hev) fun e s hK=>by
      cases hend:endE P fn (some (e,s)) with
      |none=>rw[hend] at hK;cases hK
      |some q=>
       obtain⟨s1,r1⟩:=q
       rw[hend] at hK
       obtain⟨rfl,hret⟩:=endE_ok hend
       simp only[finRaw] at hK
       split at hK
       ·rename_i hr1
        simp only[zq7,Bool.not_eq_true',decide_eq_true_eq] at hr1
        cases hK
        obtain⟨l,hl⟩:=finD_ok (R:=fun r' s'=>r'=r∧s'=finD s1.blocks.length s1 r) s1.blocks.length s1 r ⟨rfl,rfl⟩
        refine hret _ ⟨l,FzR.imp (fun r' s' hh=>?_) l _ _ hl⟩
        obtain⟨rfl,rfl⟩:=hh
        exact⟨rfl,leSame (fun t=>by show leAV _ .top;generalize AState.tmps _ t=z;cases z<;>simp) (fun t=>rfl) rfl rfl rfl hr1.2,.inl rfl⟩
       ·cases hK
     have hk:=hraw.frameK ρ bs hfr
     rw[hargs] at hk
     exact .inr ⟨_,_,ρ,rfl,hk,by rw[ren_owns];exact hr,fun b h1 h2=>zH5 _ _ _ _ _ h1 h2,fun h1 h2 zs=>framed_ext hraw hcl hge h1 h2 zs⟩
    ·cases h
   ·cases h
  ·cases h
theorem callN_ok{lib:Calling}(hlib:zDU P lib)(hm:P.follows .mixedOrders=true)(fu:Nat): ∀n,zDU P (callN P lib fu n):=by
 intro n
 induction n with
 |zero=>exact hlib
 |succ n ih=>
  have key: ∀f args bs x,callN P lib fu (n+1) f args bs=some x->(∃res,x=.pure res∧Pure P f args res∧AV.flatL args=true∧res.owns=false)∨(∃res bs' ρ,x=.raw res bs' ρ∧RawK P f args bs res bs' (fun b=>b∉ρ)∧res.owns=false∧(∀b,b∉ρ->b<bs.length->bs'[b]? =bs[b]?)∧(zGn ρ [res] bs'=true->bs'.length=bs.length->∀zs,RawK P f args (bs++zs) res (bs'++zs) (fun b=>b∉ρ))):=fun f args bs x h=>by
   have h':(match lib f args bs with
    |some r=>some r
    |none=>match P.funcs[f]? with
     |some fn=>match fn.body with
      |some c=>if !(fn.name== "runtime.NumGoroutine")&&(decide (args.length≤fn.ntmps)&&args.all (fun x=> !x.owns)) then bodyE P (callN P lib fu n) fu fn c args bs else none
      |none=>none
     |none=>none)=some x:=h
   split at h'
   ·rename_i r hr
    cases h'
    cases x with
    |pure res=>exact .inl ⟨res,rfl,hlib.1 _ _ _ _ hr⟩
    |raw res bs' ρ=>exact .inr ⟨res,bs',ρ,rfl,hlib.2 _ _ _ _ _ _ hr⟩
   ·split at h'
    ·rename_i fn hf
     split at h'
     ·rename_i c hb
      split at h'
      ·rename_i hg
       simp only[zq7,Bool.not_eq_true',decide_eq_true_eq] at hg
       obtain⟨hname,hn,hown⟩:=hg
       exact bodyE_ok ih hm hf hname hb hn hown h'
      ·cases h'
     ·cases h'
    ·cases h'
  constructor
  ·intro f args bs res h
   rcases key f args bs _ h with ⟨r,e,h1⟩|⟨r,bs',ρ,e,h1⟩
   ·cases e;exact h1
   ·cases e
  ·intro f args bs res bs' ρ h
   rcases key f args bs _ h with ⟨r,e,h1⟩|⟨r,bs',ρ,e,h1⟩
   ·cases e
   ·cases e;exact h1
def yes:Option CR->Bool
 |some (.pure (.bool b))=>b
 |_=>false
theorem yes_ok{ce:Calling}(h:zDU P ce)(hy:yes (ce f args [])=true):Pure P f args (.bool true):=by
 unfold yes at hy
 split at hy
 ·rename_i b hb
  subst hy
  exact(h.1 _ _ _ _ hb).1
 ·cases hy
variable {ce:Calling}
def TabOk(P:Program)(tab:Calling):Prop:=
 (∀f args bs res,tab f args bs=some (.pure res)->Pure P f args res∧res.owns=false)∧
 (∀f args bs res bs' ρ,tab f args bs=some (.raw res bs' ρ)->Raw P f args bs res bs'∧res.owns=false)
def libC(has:FuncId->Bool)(tab:Calling):Calling:=fun f args bs=>
 if has f then
  if AV.flatL args then match tab f args [] with
   |some (.pure r)=>some (.pure r)
   |_=>none
  else if zGn (zHP args bs) args bs then match tab f (AV.renL (zL1 (zHP args bs)) args) (small (zHP args bs) bs) with
   |some (.raw r bs' _)=>if (zHP args bs).length<=bs'.length then some (.raw (r.ren (zDy (zHP args bs) bs.length)) (lay (zDy (zHP args bs) bs.length) (zHP args bs) bs' bs) (zHP args bs)) else none
   |_=>none
  else none
 else none
theorem libC_ok{has:FuncId->Bool}{tab:Calling}(h:TabOk P tab):zDU P (libC has tab):=by
 constructor
 ·intro f args bs res hr
  unfold libC at hr
  split at hr
  ·split at hr
   ·rename_i hfl
    split at hr
    ·rename_i r ht
     cases hr
     obtain⟨h1,h2⟩:=h.1 _ _ _ _ ht
     exact⟨h1,hfl,h2⟩
    ·cases hr
   ·split at hr
    ·split at hr
     ·split at hr<;>cases hr
     ·cases hr
    ·cases hr
  ·cases hr
 ·intro f args bs res bs' ρ hr
  unfold libC at hr
  split at hr
  ·split at hr
   ·split at hr<;>cases hr
   ·split at hr
    ·rename_i hcl
     split at hr
     ·rename_i r bs1 ρ1 ht
      obtain⟨hraw,hown⟩:=h.2 _ _ _ _ _ _ ht
      obtain⟨hfr,hargs⟩:=zHp hcl
      have hk:=hraw.frameK (zHP args bs) bs hfr
      rw[hargs] at hk
      split at hr
      ·rename_i hge
       cases hr
       exact⟨hk,by rw[ren_owns];exact hown,fun b h1 h2=>zH5 _ _ _ _ _ h1 h2,fun h1 h2 zs=>framed_ext hraw hcl hge h1 h2 zs⟩
      ·cases hr
     ·cases hr
    ·cases hr
  ·cases hr
def ubytes:List (List AV)->Option (List UInt8)
 |[]=>some []
 |[.int .u8 n]::l=>if 0<=n∧n<=255 then (ubytes l).map (UInt8.ofNat n.toNat::·) else none
 |_::_=>none
theorem u8_back{n:Int}(h:0<=n∧n<=255):((UInt8.ofNat n.toNat).toNat:Int)=n:=by
 have:(UInt8.ofNat n.toNat).toNat=n.toNat:=by
  simp only[UInt8.toNat_ofNat']
  omega
 rw[this];omega
theorem ubytes_ok: ∀{l:List (List AV)}{b:List UInt8},ubytes l=some b->l=b.map cU
 |[],b,h=>by cases h;rfl
 |x::l,b,h=>by
  unfold ubytes at h
  split at h
  ·cases ‹_::_=[]›
  ·rename_i n l' heq
   cases heq
   split at h
   ·rename_i hn
    cases hu:ubytes l with
    |none=>rw[hu] at h;cases h
    |some b'=>
     rw[hu] at h
     simp only[Option.map_some,Option.some.injEq] at h
     subst h
     rw[List.map_cons,<-ubytes_ok hu]
     simp only[cU,u8_back hn]
   ·cases h
  ·cases h
def strsOf:List (List AV)->Option (List (List UInt8))
 |[]=>some []
 |[.str s]::l=>(strsOf l).map (s::·)
 |_::_=>none
theorem strsOf_ok: ∀{l:List (List AV)}{b:List (List UInt8)},strsOf l=some b->l=b.map cS
 |[],b,h=>by cases h;rfl
 |x::l,b,h=>by
  unfold strsOf at h
  split at h
  ·cases ‹_::_=[]›
  ·rename_i s l' heq
   cases heq
   cases hu:strsOf l with
   |none=>rw[hu] at h;cases h
   |some b'=>
    rw[hu] at h
    simp only[Option.map_some,Option.some.injEq] at h
    subst h
    rw[List.map_cons,<-strsOf_ok hu]
    rfl
  ·cases h
end Go.Abs
namespace Go.Proofs.YtkdhppfdiagglaaGreatDoor
open Go Go.Abs
structure zMY where
 L:(List zMY)
def zMY.c(x:zMY):List AV:=[.sl (x.L.map zMY.c)]
termination_by SizeOf.sizeOf x
decreasing_by all_goals (cases x;simp only[zMY.mk.sizeOf_spec];have:=List.sizeOf_lt_of_mem ‹_›;simp only at this;omega)
@[simp] theorem zMY.c_eq(x:zMY):zMY.c x=[.sl (x.L.map zMY.c)]:=by rw[zMY.c]
@[simp] theorem okE_Api_Kind(l:List zMY):zFr 1 (l.map zMY.c):=okE_map (fun x=>by simp) l
theorem zHz:RowC zMY.c 1:=fun x=>by simp[AV.inert,AV.flat]
@[simp] theorem rlen_Api_Kind(l:List zMY):(row zMY.c l).length=l.length*1:=row_len zHz l
@[simp] theorem rine_Api_Kind(l:List zMY):(row zMY.c l).all AV.inert=true:=zLi zHz l
@[simp] theorem rund_Api_Kind(m:Nat)(l:List zMY):AV.underL m (row zMY.c l)=true:=row_under zHz m l
@[simp] theorem rchk_Api_Kind(l:List zMY){k:Nat}(h:k=l.length):chunk 1 k (row zMY.c l)=l.map zMY.c:=by rw[h];exact row_chunk zHz l
structure zMZ where
 Op:Int
 N:Int
 S:(List UInt8)
 Kind:zMY
 Names:(List (List UInt8))
 L:(List zMZ)
def zMZ.c(x:zMZ):List AV:=[.int .i64 x.Op,.int .i64 x.N,.str x.S,.sl (x.Kind.L.map zMY.c),.sl (x.Names.map cS),.sl (x.L.map zMZ.c)]
termination_by SizeOf.sizeOf x
decreasing_by all_goals (cases x;simp only[zMZ.mk.sizeOf_spec];have:=List.sizeOf_lt_of_mem ‹_›;simp only at this;omega)
@[simp] theorem zMZ.c_eq(x:zMZ):zMZ.c x=[.int .i64 x.Op,.int .i64 x.N,.str x.S,.sl (x.Kind.L.map zMY.c),.sl (x.Names.map cS),.sl (x.L.map zMZ.c)]:=by rw[zMZ.c]
@[simp] def zMZ.d(x:zMZ):List AV:=[.int .i64 x.Op,.int .i64 x.N,.str x.S,.sl (x.Kind.L.map zMY.c),.sl (x.Names.map cS),.sl (x.L.map zMZ.c)]
structure zMa where
 Op:Int
 N:Int
 S:(List UInt8)
 Con:zMZ
 Kind:zMY
 Kinds:(List zMY)
 More:(List zMY)
 Names:(List (List UInt8))
 L:(List zMa)
def zMa.c(x:zMa):List AV:=[.int .i64 x.Op,.int .i64 x.N,.str x.S,.int .i64 x.Con.Op,.int .i64 x.Con.N,.str x.Con.S,.sl (x.Con.Kind.L.map zMY.c),.sl (x.Con.Names.map cS),.sl (x.Con.L.map zMZ.c),.sl (x.Kind.L.map zMY.c),.sl (x.Kinds.map zMY.c),.sl (x.More.map zMY.c),.sl (x.Names.map cS),.sl (x.L.map zMa.c)]
termination_by SizeOf.sizeOf x
decreasing_by all_goals (cases x;simp only[zMa.mk.sizeOf_spec];have:=List.sizeOf_lt_of_mem ‹_›;simp only at this;omega)
@[simp] theorem zMa.c_eq(x:zMa):zMa.c x=[.int .i64 x.Op,.int .i64 x.N,.str x.S,.int .i64 x.Con.Op,.int .i64 x.Con.N,.str x.Con.S,.sl (x.Con.Kind.L.map zMY.c),.sl (x.Con.Names.map cS),.sl (x.Con.L.map zMZ.c),.sl (x.Kind.L.map zMY.c),.sl (x.Kinds.map zMY.c),.sl (x.More.map zMY.c),.sl (x.Names.map cS),.sl (x.L.map zMa.c)]:=by rw[zMa.c]
@[simp] def zMa.d(x:zMa):List AV:=[.int .i64 x.Op,.int .i64 x.N,.str x.S,.int .i64 x.Con.Op,.int .i64 x.Con.N,.str x.Con.S,.sl (x.Con.Kind.L.map zMY.c),.sl (x.Con.Names.map cS),.sl (x.Con.L.map zMZ.c),.sl (x.Kind.L.map zMY.c),.sl (x.Kinds.map zMY.c),.sl (x.More.map zMY.c),.sl (x.Names.map cS),.sl (x.L.map zMa.c)]
structure zMb where
 Kinds:(List zMY)
 S:zMa
@[simp] def zMb.c(x:zMb):List AV:=[.sl (x.Kinds.map zMY.c),.int .i64 x.S.Op,.int .i64 x.S.N,.str x.S.S,.int .i64 x.S.Con.Op,.int .i64 x.S.Con.N,.str x.S.Con.S,.sl (x.S.Con.Kind.L.map zMY.c),.sl (x.S.Con.Names.map cS),.sl (x.S.Con.L.map zMZ.c),.sl (x.S.Kind.L.map zMY.c),.sl (x.S.Kinds.map zMY.c),.sl (x.S.More.map zMY.c),.sl (x.S.Names.map cS),.sl (x.S.L.map zMa.c)]
structure zMX where
 left:Int
 deriving DecidableEq
structure zMW where
 steps:Int
 over:Bool
 deriving DecidableEq
end Go.Proofs.YtkdhppfdiagglaaGreatDoor
