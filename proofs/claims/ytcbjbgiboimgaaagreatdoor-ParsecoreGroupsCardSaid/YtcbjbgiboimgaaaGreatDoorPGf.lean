/- For every input the law ParsecoreGroups returns true. Part 6 of 22. No condition. -/
import Derived.Test.YtcbjbgiboimgaaaGreatDoorPGe
import Derived.Orders
set_option linter.unusedVariables false
set_option linter.unnecessarySimpa false
set_option linter.unusedSimpArgs false
set_option maxRecDepth 100000
set_option maxHeartbeats 4000000
namespace Go.Abs
open Go
variable {P:Program} {ops:Array Oper} {imm:Addr->Option Value} {w:World} {B:List Nat} {a:Act} {v:Value} {o:Oper} {f:FuncId} {σ:List Nat} {x:Operand} {α:Type} {t:TypeId} {c:Code} {bo:Option Nat} {id:Nat} {i:Nat} {pins:List Nat} {D:List Deferred} {ρ:List Nat} {ch:List PanicEntry} {n:Nat} {fn:Func} {args:List AV} {l:List (List AV)} {res:AV} {m:Option Place} {blk:List AV} {s:AState} {Q:Exit->AState->Prop} {F:Fx} {g:Gh} {K:AState->Prop} {E:List PanicEntry->AState->Prop}
theorem zIE{ops:List Oper}{L:Nat->Prop}(hcl: ∀(j:Nat) o,ops[j]? =some o->L j->∀e,e∈zDf o->L e):
 ∀(j:Nat) o,ops[j]? =some o->(∀e,e∈zDf o->L e)->∀k,k∈(zDQ ops).getD j []->L k:=by
 have key: ∀(pre suf:List Oper)(acc:List (List Nat)),ops=pre++suf->acc.length=pre.length->
  (∀(j:Nat) o,pre[j]? =some o->(∀e,e∈zDf o->L e)->∀k,k∈acc.getD j []->L k)->
  (∀(j:Nat) o,ops[j]? =some o->(∀e,e∈zDf o->L e)->∀k,k∈(suf.foldl (fun acc o=>acc++[((zDf o).flatMap fun e=>e::acc.getD e []).eraseDups]) acc).getD j []->L k):=by
  intro pre suf
  induction suf generalizing pre with
  |nil=>
   intro acc he hl h j o hj ho k hk
   rw[List.append_nil] at he
   subst he
   exact h j o hj ho k hk
  |cons x suf ih=>
   intro acc he hl h
   simp only[List.foldl_cons]
   refine ih (pre++[x]) _ (by simp[he]) (by simp[hl]) fun j o hj ho k hk=>?_
   rcases zCe hj with ⟨hlt,hj1⟩|⟨q,rfl,hj1⟩
   ·rw[zFG (by omega)] at hk
    exact h j o hj1 ho k hk
   ·cases q with
    |succ q=>simp at hj1
    |zero=>
     simp only[List.getElem?_cons_zero,Option.some.injEq] at hj1
     subst hj1
     rw[zq5,List.getElem?_append_right (by omega)] at hk
     simp only[Nat.add_zero,hl,Nat.sub_self,List.getElem?_cons_zero,Option.getD_some] at hk
     rw[List.mem_eraseDups] at hk
     obtain⟨e,he1,he2⟩:=List.mem_flatMap.1 hk
     simp only[List.mem_cons] at he2
     rcases he2 with rfl|he2
     ·exact ho _ he1
     ·have hLe:=ho e he1
      by_cases hlt:e<pre.length
      ·have hpe:=zq2 hlt
       have hoe:ops[e]? =some pre[e]:=by rw[he,List.getElem?_append_left hlt];exact hpe
       exact h e _ hpe (fun e' he'=>hcl e _ hoe hLe e' he') k he2
      ·rw[zq5,List.getElem?_eq_none (by omega)] at he2
       cases he2
 exact key [] ops [] rfl rfl (fun j o hj=>by simp at hj)
theorem zHn(h:regOk B ops n=true):mvOk ops=true:=by
 simp only[regOk,zq7] at h;exact h.1.1
theorem zIq(h:regOk B ops n=true):(∀(j:Nat) o,ops[j]? =some o->∀e,e∈zDf o->e<j)∧dstsIn ops n∧
 ∀j,j<ops.size->∀k,k<j->k∈(zDQ ops.toList).getD j []∨comm B ops k j=true:=by
 simp only[regOk,zq7] at h
 replace h:=And.intro h.1.2 h.2
 obtain⟨h1,h2⟩:=h
 have h1': ∀(j:Nat) o,ops[j]? =some o->(zDf o).all (·<j)=true∧dstOk n o.dst=true:=fun j o hj=>by
  have hz:ops.toList.zipIdx[j]? =some (o,j):=by
   rw[List.getElem?_zipIdx,Array.getElem?_toList,hj];simp
  have:=(zq8 h1) (o,j) (zq3 hz)
  simpa only[zq7] using this
 refine⟨fun j o hj e he=>by simpa using(zq8 (h1' j o hj).1) e he,fun i o d hi hd=>?_,fun j hj k hk=>?_⟩
 ·have:=(h1' i o hi).2
  rw[hd] at this
  simpa[dstOk] using this
 ·have:=(zq8 ((zq8 h2) j (List.mem_range.2 hj))) k (List.mem_range.2 hk)
  simpa using this
theorem zFU{p:Nat->Bool}{n i:Nat}(hi:i<n)(hp:p i=true): ∃u1 u2,(List.range n).filter p=u1++i::u2∧(∀k,k∈u1->k<i∧p k=true)∧
 (List.range n).filter (fun k=>p k&&k !=i)=u1++u2:=by
 obtain⟨q,rfl⟩: ∃q,n=i+(1+q):=⟨n-(i+1),by omega⟩
 have hr:List.range (i+(1+q))=List.range i++i::(List.range' (i+1) q):=by
  rw[List.range_eq_range',List.range_eq_range',<-List.range'_append_1,<-List.range'_append_1]
  simp[List.range'_one]
 refine⟨(List.range i).filter p,(List.range' (i+1) q).filter p,?_,fun k hk=>?_,?_⟩
 ·rw[hr,List.filter_append,List.filter_cons_of_pos hp]
 ·rw[List.mem_filter,List.mem_range] at hk;exact hk
 ·rw[hr,List.filter_append,List.filter_cons_of_neg (by simp)]
  congr 1
  ·apply List.filter_congr
   intro k hk
   rw[List.mem_range] at hk
   have:(k !=i)=true:=by simp;omega
   rw[this,Bool.and_true]
  ·apply List.filter_congr
   intro k hk
   rw[List.mem_range'_1] at hk
   have:(k !=i)=true:=by simp;omega
   rw[this,Bool.and_true]
theorem zDS{n:Nat}(l:Array Bool)(i j:Nat)(z:Bool)(hj:j<l.size):(l.setIfInBounds i true).getD j z=if j=i then true else l.getD j z:=by
 rw[zq6,Array.getElem?_setIfInBounds]
 by_cases e:i=j
 ·subst e;simp[hj]
 ·simp[e,Ne.symm e,zq6]
theorem anc_lt(hedge: ∀(j:Nat) o,ops[j]? =some o->∀e,e∈zDf o->e<j){k i:Nat}(hk:k<ops.size)(h:i∈(zDQ ops.toList).getD k []):i<k:=
 zIE (ops:=ops.toList) (L:=fun x=>x<k) (fun j o hj hl e he=>Nat.lt_trans (hedge j o (by simpa using hj) e he) hl) k ops[k] (by simp[zqe hk]) (fun e he=>hedge k ops[k] (zqe hk) e he) i h
theorem zHp(hmv:mvOk ops=true)(hedge: ∀(j:Nat) o,ops[j]? =some o->∀e,e∈zDf o->e<j){p:Nat->Bool}{u1 u2:List Nat}
 (h:(List.range ops.size).filter p=u1++i::u2):(u1++[i]).Pairwise (fun k i=> ¬mvBad ops k i):=by
 have h1:((List.range ops.size).filter p).Pairwise (·<·):=List.Pairwise.filter p List.pairwise_lt_range
 have h2:(u1++[i]).Pairwise (·<·):=by
  rw[h,show u1++i::u2=(u1++[i])++u2 by simp] at h1
  exact(List.pairwise_append.1 h1).1
 refine h2.imp fun {a b} hab hb=>?_
 have ha:a<ops.size:=by obtain⟨ok,_,_,h3,_⟩:=hb;exact lt_of_getElem? h3
 have:=anc_lt hedge ha (zIQ hmv hb)
 omega
theorem any_wp{Q:Exit->Act->World->Prop}(hok:regOk B ops n=true): ∀(fuel:Nat)(listed:Array Bool)(s s':AState)(g:Gh)(a:Act)(w:World),
 listed.size=ops.size->((List.range ops.size).filter fun i=> !listed.getD i true).length<=fuel->
 (∀(j:Nat) o,ops[j]? =some o->listed.getD j true=true->∀e,e∈zDf o->listed.getD e true=true)->
 Chain P B ops ((List.range ops.size).filter fun i=> !listed.getD i true) s s'->Sim F g s a w->LFree ops ((List.range ops.size).filter fun i=> !listed.getD i true) s->s.n=n->(∀g a w,Sim F g s' a w->Q .normal a w)->
 wpAny P .any ops Q fuel listed a w:=by
 obtain⟨hedge,hdst,hcomm⟩:=zIq hok
 have hin: ∀(listed:Array Bool),listed.size=ops.size->∀i,i<ops.size->listed.getD i true=listed.getD i false:=fun listed hsz i hi=>by
  rw[zq6,zq6,zqe (by omega)];rfl
 have hleft: ∀(listed:Array Bool),listed.size=ops.size->Region.ready .any ops listed=[]->((List.range ops.size).filter fun i=> !listed.getD i true)=[]:=fun listed hsz hr=>by
  have all: ∀i,i<ops.size->listed.getD i true=true:=by
   intro i
   induction i using Nat.strongRecOn with
   |_ i ih=>
    intro hi
    cases hv:listed.getD i true with
    |true=>rfl
    |false=>
     have hmem:i∈Region.ready .any ops listed:=mem_ready.2 ⟨hv,ops[i],zqe hi,fun e he hb=>by
      have hlt:=hedge i _ (zqe hi) e.on (List.mem_map.2 ⟨e,List.mem_filter.2 ⟨by simpa using he,hb⟩,rfl⟩)
      rw[<-hin listed hsz e.on (by omega)];exact ih e.on hlt (by omega)⟩
     rw[hr] at hmem;cases hmem
  rw[List.filter_eq_nil_iff]
  intro i hi
  rw[List.mem_range] at hi
  simp[all i hi]
 intro fuel
 induction fuel with
 |zero=>
  intro listed s s' g a w hsz hlen hcl hc hs hS hn hQ
  have hnil:((List.range ops.size).filter fun i=> !listed.getD i true)=[]:=List.eq_nil_of_length_eq_zero (by omega)
  rw[hnil] at hc
  have:s'=s:=hc
  subst this
  refine⟨?_,hQ g a w hs⟩
  cases hr:Region.ready .any ops listed with
  |nil=>rfl
  |cons i l=>
   have hi:i∈Region.ready .any ops listed:=by rw[hr];exact zq9 ..
   obtain⟨h1,o,h2,_⟩:=mem_ready.1 hi
   have:i∈((List.range ops.size).filter fun i=> !listed.getD i true):=List.mem_filter.2 ⟨List.mem_range.2 (lt_of_getElem? h2),by simp[h1]⟩
   rw[hnil] at this;cases this
 |succ fuel ih=>
  intro listed s s' g a w hsz hlen hcl hc hs hS hn hQ
  refine⟨fun hr=>?_,fun i hi=>?_⟩
  ·rw[hleft listed hsz hr] at hc
   have:s'=s:=hc
   subst this
   exact hQ g a w hs
  ·obtain⟨h1,o,h2,h3⟩:=mem_ready.1 hi
   have hilt:=lt_of_getElem? h2
   have hready: ∀e,e∈zDf o->listed.getD e true=true:=fun e he=>by
    obtain⟨ed,hed,rfl⟩:=List.mem_map.1 he
    rw[List.mem_filter] at hed
    have:=h3 ed (by simpa using hed.1) hed.2
    have hlt:=hedge i o h2 ed.on he
    rw[hin listed hsz _ (by omega)];exact this
   obtain⟨u1,u2,e1,e2,e3⟩:=zFU (p:=fun i=> !listed.getD i true) hilt (by simp[h1])
   have hcm: ∀k,k∈u1->comm B ops k i=true:=fun k hk=>by
    obtain⟨hlt,hk2⟩:=e2 k hk
    rcases hcomm i hilt k hlt with h|h
    ·exfalso
     have:=zIE (ops:=ops.toList) (L:=fun j=>listed.getD j true=true) (fun j o hj=>hcl j o (by simpa using hj)) i o (by simpa using h2) hready k h
     rw[this] at hk2;simp at hk2
    ·exact h
   rw[e1,show u1++i::u2=(u1++[i])++u2 by simp] at hc
   obtain⟨m,hc1,hc2⟩:=(zF6 _ _ _ _).1 hc
   obtain⟨s1,g1,g2⟩:=front h2 u1 s m hc1 hcm (fun q hq=>hS q (by rw[e1];rcases List.mem_append.1 hq with hq|hq;exact List.mem_append_left _ hq;rw[List.mem_singleton.1 hq];exact List.mem_append_right _ (zq9 ..))) (zHp (zHn hok) hedge e1) (by rw[hn];exact hdst) (fun _ t _=>by rw[<-hs.sto.len];exact(hs.tmps t).1.isUnder)
   have hc':Chain P B ops (u1++u2) s1 s':=(zF6 _ _ _ _).2 ⟨m,g2,hc2⟩
   obtain⟨f1,f2,f3,f4⟩:=zFM g1
   have hS':LFree ops (u1++u2) s1:=fun q hq oq d hoq hd hqt t hl=>by
    have hq':q∈(List.range ops.size).filter fun i=> !listed.getD i true:=by
     rw[e1]
     rcases List.mem_append.1 hq with hq|hq
     ·exact List.mem_append_left _ hq
     ·exact List.mem_append_right _ (zqc _ hq)
    rcases f3 t d hl with h|⟨hm,h⟩
    ·exact hS q hq' oq d hoq hd hqt t h
    ·have h5:=zIE (ops:=ops.toList) (L:=fun j=>listed.getD j true=true) (fun j o hj=>hcl j o (by simpa using hj)) i o (by simpa using h2) hready q (zIQ (zHn hok) ⟨o,oq,d,h2,hoq,hm,h,hd,hqt⟩)
     rw[List.mem_filter,h5] at hq'
     cases hq'.2
   have hfil:((List.range ops.size).filter fun k=> !(listed.setIfInBounds i true).getD k true)=u1++u2:=by
    rw[<-e3]
    apply List.filter_congr
    intro k hk
    rw[List.mem_range] at hk
    rw[zDS (n:=0) listed i k true (by omega)]
    by_cases e:k=i
    ·simp[e]
    ·simp[e]
   have hgo:=GStep.sound g1 hs (K:=wpAny P .any ops Q fuel (listed.setIfInBounds i true)) (Q:=Q) (fun g' a' w' hs'=>
    ih (listed.setIfInBounds i true) s1 s' g' a' w' (by simpa using hsz) (by
     rw[hfil]
     have:=hlen
     rw[e1] at this
     simp only[List.length_append,List.length_cons] at this ⊢
     omega) (fun j oj hj hl e he=>by
     have hjlt:=lt_of_getElem? hj
     have helt:=hedge j oj hj e he
     rw[zDS (n:=0) listed i j true (by omega)] at hl
     rw[zDS (n:=0) listed i e true (by omega)]
     split
     ·rfl
     ·split at hl
      ·rename_i hji
       subst hji
       rw[h2] at hj;cases hj
       exact hready e he
      ·exact hcl j oj hj hl e he) (by rw[hfil];exact hc') hs' (by rw[hfil];exact hS') (by rw[f1];exact hn) hQ)
   unfold wpOp
   simp only[h2]
   split
   ·rename_i hw;rw[if_pos hw] at hgo;exact .inl hgo
   ·rename_i hw;rw[if_neg hw] at hgo;exact hgo
def CallD(P:Program)(B:List Nat)(f:FuncId)(args:List AV)(s:AState)(dst:Option Nat)(K:AState->Prop):Prop:=
 (∃res,Pure P f args res∧AV.flatL args=true∧res.owns=false∧K (s.putO dst res))∨
 (∃res bs' ρ,B≠[]∧FrRaw P f ρ args s.blocks res bs'∧res.owns=false∧(∀b,b∈ρ->b∈B)∧(B.contains 995=true->bs'=s.blocks)∧K (s.calledK ρ dst res bs'))
theorem zG7{dst:Option Nat}(h:Pure P f args res)(h1:AV.flatL args=true)(h2:res.owns=false)(h3:K (s.putO dst res)):CallD P B f args s dst K:=
 .inl ⟨res,h,h1,h2,h3⟩
theorem zHU{dst:Option Nat}{bs bs':List (List AV)}(h:FrRaw P f ρ args bs res bs')(h1:s.blocks=bs)(h2:res.owns=false)
 (hB:(!B.isEmpty&&ρ.all fun b=>B.contains b)=true) (h9:B.contains 995=true->bs'=bs) (h3:K (s.calledK ρ dst res bs')):CallD P B f args s dst K:=by
 simp only[zq7,Bool.not_eq_true',List.isEmpty_eq_false_iff,List.all_eq_true,List.contains_iff_mem] at hB
 exact .inr ⟨res,bs',ρ,hB.1,by rw[h1];exact h,h2,hB.2,by rw[h1];exact h9,h3⟩
def ResD(B:List Nat)(s:AState)(op:Op)(dst:Option Nat)(r:Option Res)(K:AState->Prop):Prop:=
 match r with
 |some r=>r.side∧Gd B s op∧K (s.putR dst r)
 |none=>False
@[simp ↓] theorem ResD_some(B:List Nat)(s:AState)(op:Op)(dst:Option Nat)(r:Res)(K:AState->Prop):ResD B s op dst (some r) K=(r.side∧Gd B s op∧K (s.putR dst r)):=Eq.trans rfl rfl
def ExtD(B:List Nat)(X Y:Prop):Prop:=if B.contains 997 then X else Y
@[simp] theorem ExtD_nil{X Y:Prop}:ExtD [] X Y=Y:=rfl
def AStepD(P:Program)(B:List Nat)(o:Oper)(s:AState)(K:AState->Prop):Prop:=
 match o.op with
 |.call c=>match c.callee with
  |.value x=>match s.look x with
   |.fn (.func f) first captured=>CallD P B f (zBO s first captured c.args) s o.dst K
   |_=>False
  |.builtin b=>ResD B s (.call c) o.dst (zD7 P s c b) K
  |_=>False
 |.extract x 0=>ExtD B (ResK s o.dst (zGw s x 0) K) (ResK s o.dst (zC5 s x 0) K)
 |op=>ResD B s op o.dst (zGn P s op) K
theorem AStepD.ok(h:AStepD P B o s K): ∃s',StepD P B o s s'∧K s':=by
 have other: ∀r,zGn P s o.op=some r->r.side->Gd B s o.op->K (s.putR o.dst r)->∃s',StepD P B o s s'∧K s':=fun r h1 h2 hg h3=>⟨_,.inr (.inl ⟨r,h1,h2,hg,rfl⟩),h3⟩
 unfold AStepD at h
 split at h
 ·rename_i c ho
  split at h
  ·rename_i x hc
   split at h
   ·rename_i f first captured hx
    rcases h with ⟨res,h1,h2,h3,h4⟩|⟨res,bs',ρ,h0,⟨h1,h2,h3⟩,h4,h5,h7,h6⟩
    ·exact⟨_,.inl ⟨c,x,f,first,captured,res,ho,hc,hx,h1,h2,h3,rfl⟩,h4⟩
    ·exact⟨_,.inr (.inr (.inl ⟨h0,c,x,f,first,captured,res,bs',ρ,ho,hc,hx,h1,h4,h5,h2,h3,h7,rfl⟩)),h6⟩
   ·exact h.elim
  ·rename_i b hc
   unfold ResD at h
   split at h
   ·rename_i r hr
    exact other r (by rw[ho];simp only[zGn,hc];exact hr) h.1 (by rw[ho];exact h.2.1) h.2.2
   ·exact h.elim
  ·exact h.elim
 ·rename_i x ho
  unfold ExtD at h
  split at h
  ·rename_i hB
   unfold ResK at h
   split at h
   ·rename_i r hr
    exact⟨_,.inr (.inr (.inr ⟨hB,x,r,ho,hr,rfl⟩)),h.2⟩
   ·exact h.elim
  ·unfold ResK at h
   split at h
   ·rename_i r hr
    exact other r (by rw[ho];exact hr) h.1 (by rw[ho];trivial) h.2
   ·exact h.elim
 ·unfold ResD at h
  split at h
  ·rename_i r hr
   exact other r hr h.1 h.2.1 h.2.2
  ·exact h.elim
def AOpsD(P:Program)(B:List Nat)(ops:Array Oper)(K:AState->Prop):List Oper->AState->Prop
 |[],s=>K s
 |o::l,s=>match o.guard with
  |none=>AStepD P B o s (AOpsD P B ops K l)
  |some (j,want)=>zFW ((ops[j]?).bind (·.dst)) fun d=>zGo (s.get d) want (AStepD P B o s (AOpsD P B ops K l)) (AOpsD P B ops K l (s.putO o.dst (.tup [])))
@[congr] theorem AOpsD_congr{l:List Oper}{s s':AState}(h:s=s'):AOpsD P B ops K l s=AOpsD P B ops K l s':=by rw[h]
theorem AOpsD.chain: ∀(l:List Oper)(k:Nat)(s:AState),(∀j,l[j]? =ops[k+j]?)->AOpsD P B ops K l s->
 ∃s',Chain P B ops (List.range' k l.length) s s'∧K s':=by
 intro l
 induction l with
 |nil=>exact fun k s _ h=>⟨s,rfl,h⟩
 |cons o l ih=>
  intro k s hl h
  have h0:ops[k]? =some o:=by simpa using(hl 0).symm
  have hl': ∀j,l[j]? =ops[k+1+j]? :=fun j=>by have:=hl (j+1);simpa[Nat.add_assoc,Nat.add_comm 1 j] using this
  have go: ∀s1,GStep P B ops o s s1->AOpsD P B ops K l s1->∃s',Chain P B ops (List.range' k (o::l).length) s s'∧K s':=fun s1 h1 h2=>by
   obtain⟨s',h3,h4⟩:=ih (k+1) s1 hl' h2
   refine⟨s',?_,h4⟩
   rw[List.length_cons,List.range'_succ]
   exact⟨o,s1,h0,h1,h3⟩
  unfold AOpsD at h
  cases hg:o.guard with
  |none=>
   rw[hg] at h
   obtain⟨s1,h1,h2⟩:=h.ok
   exact go s1 (by unfold GStep;rw[hg];exact h1) h2
  |some q=>
   obtain⟨j,want⟩:=q
   rw[hg] at h
   simp only[zFW] at h
   split at h
   ·rename_i d hd
    unfold zGo at h
    split at h
    ·rename_i b hb
     by_cases hw:b=want
     ·obtain⟨s1,h1,h2⟩:=(h.1 hw).ok
      exact go s1 (by unfold GStep;rw[hg];exact⟨d,hd,.inl ⟨b,hb,.inl ⟨hw,h1⟩⟩⟩) h2
     ·have hw':b= !want:=by cases b<;>cases want<;>simp_all
      exact go _ (by unfold GStep;rw[hg];exact⟨d,hd,.inl ⟨b,hb,.inr ⟨hw',rfl⟩⟩⟩) (h.2 hw')
    ·rename_i hb
     exact go _ (by unfold GStep;rw[hg];exact⟨d,hd,.inr ⟨hb,rfl⟩⟩) h
    ·exact h.elim
   ·exact h.elim
theorem zAg(B:List Nat)(hm:P.follows .mixedOrders=true)(hn:s.n=n)(hok:regOk B ops n=true)
 (h:AOpsD P B ops (Q .normal) ops.toList s.fresh):AWp P (.region id ops true) Q s:=fun F g a w hs=>by
 obtain⟨s',h1,h2⟩:=AOpsD.chain ops.toList 0 s.fresh (fun j=>by simp) h
 refine wp_region_any hm (any_wp (F:=F) (n:=n) hok ops.size _ s.fresh s' g a _ (by simp) ?_ ?_ ?_ hs.fresh.drew (fun _ _ _ _ _ _ _ t hl=>by cases hl) hn (fun g a w hs'=>⟨g,s',hs',h2⟩))
 ·exact Nat.le_trans (List.length_filter_le _ _) (by simp)
 ·intro j o hj hl
  have:(Array.replicate ops.size false).getD j true=false:=by
   have:=lt_of_getElem? hj
   rw[zq6,Array.getElem?_replicate,if_pos this];rfl
  rw[this] at hl;cases hl
 ·have hall:((List.range ops.size).filter fun i=> !(Array.replicate ops.size false).getD i true)=List.range ops.size:=by
   rw[List.filter_eq_self]
   intro i hi
   rw[List.mem_range] at hi
   rw[zq6,Array.getElem?_replicate,if_pos hi];rfl
  rw[hall,List.range_eq_range']
  simpa using h1
def AW(P:Program):Code->(Exit->AState->Prop)->AState->Prop
 |.skip,Q,s=>Q .normal s
 |.label _,Q,s=>Q .normal s
 |.region _ ops false,Q,s=>AOps P ops (Q .normal) ops.toList s.fresh
 |.region _ ops true,Q,s=>regOk [] ops s.n=true∧AOpsD P [] ops (Q .normal) ops.toList s.fresh
 |.seq x y,Q,s=>AW P x (seqK (AWp P y Q) Q) s
 |.cond c x y,Q,s=>match s.look c with
  |.bool b=>(b=true->AW P x Q s)∧(b=false->AW P y Q s)
  |_=>False
 |.block id c,Q,s=>AW P c (zI7 id Q) s
 |.exit id,Q,s=>Q (.exit id) s
 |.ret,Q,s=>Q .ret s
 |c,Q,s=>AWp P c Q s
theorem AW.sound(hm:P.follows .mixedOrders=true): ∀(c:Code)(Q:Exit->AState->Prop)(s:AState),AW P c Q s->AWp P c Q s:=by
 intro c
 induction c with
 |skip=>exact fun Q s h F g a w hs=>wp_skip ⟨g,s,hs,h⟩
 |label l=>exact fun Q s h F g a w hs=>wp_label ⟨g,s,hs,h⟩
 |region id ops draw=>
  intro Q s h
  cases draw with
  |false=>exact awp_region h
  |true=>exact zAg [] hm rfl h.1 h.2
 |seq x y ihx ihy=>
  intro Q s h
  exact zAF (ihx _ _ h)
 |cond c x y ihx ihy=>
  intro Q s h
  unfold AW at h
  split at h
  ·rename_i b hb
   exact awp_cond hb (fun e=>ihx _ _ (h.1 e)) (fun e=>ihy _ _ (h.2 e))
  ·exact h.elim
 |block id c ih=>exact fun Q s h=>zAP (ih _ _ h)
 |exit id=>exact fun Q s h F g a w hs=>wp_exit ⟨g,s,hs,h⟩
 |ret=>exact fun Q s h F g a w hs=>wp_ret ⟨g,s,hs,h⟩
 |_=>exact fun Q s h=>h
section
variable (s:AState) (d t u b o:Nat) (x:AV) (blk:List AV)
@[simp] theorem get_start(n base:Nat)(args:List AV)(bs:List (List AV)):(start n base args bs).get t=args.getD t (.tup []):=rfl
@[simp] theorem n_start(n base:Nat)(args:List AV)(bs:List (List AV)):(start n base args bs).n=n:=rfl
@[simp] theorem base_start(n base:Nat)(args:List AV)(bs:List (List AV)):(start n base args bs).base=base:=rfl
@[simp] theorem blocks_start(n base:Nat)(args:List AV)(bs:List (List AV)):(start n base args bs).blocks=bs:=rfl
@[simp] theorem loans_start(n base:Nat)(args:List AV)(bs:List (List AV)):(start n base args bs).loans t=none:=rfl
@[simp] theorem get_mkS(n base:Nat)(live:List (Nat×AV))(bs:List (List AV)):(mkS n base live bs).get t=lookD live t:=rfl
@[simp] theorem n_mkS(n base:Nat)(live:List (Nat×AV))(bs:List (List AV)):(mkS n base live bs).n=n:=rfl
@[simp] theorem base_mkS(n base:Nat)(live:List (Nat×AV))(bs:List (List AV)):(mkS n base live bs).base=base:=rfl
@[simp] theorem blocks_mkS(n base:Nat)(live:List (Nat×AV))(bs:List (List AV)):(mkS n base live bs).blocks=bs:=rfl
@[simp] theorem loans_mkS(n base:Nat)(live:List (Nat×AV))(bs:List (List AV)):(mkS n base live bs).loans t=none:=rfl
@[simp] theorem get_fresh:s.fresh.get t=s.get t:=rfl
@[simp] theorem n_fresh:s.fresh.n=s.n:=rfl
@[simp] theorem base_fresh:s.fresh.base=s.base:=rfl
@[simp] theorem blocks_fresh:s.fresh.blocks=s.blocks:=rfl
@[simp] theorem loans_fresh:s.fresh.loans t=none:=rfl
@[simp] theorem get_put:(s.put d x).get t=if t=d then (if d<s.n then x else s.get t) else s.get t:=by
 unfold AState.put;split
 ·rename_i h;simp only[AState.get]
 ·rename_i h;split<;>rfl
@[simp] theorem n_put:(s.put d x).n=s.n:=put_n s d x
@[simp] theorem base_put:(s.put d x).base=s.base:=put_base s d x
@[simp] theorem blocks_put:(s.put d x).blocks=s.blocks:=zCK s d x
@[simp] theorem loans_put:(s.put d x).loans t=if d<s.n then (if t=d then none else if s.loans t=some (.tmp d) then none else s.loans t) else s.loans t:=by
 unfold AState.put;split<;>rfl
@[simp] theorem get_setCell:(s.setCell b o x).get t=s.get t:=rfl
@[simp] theorem n_setCell:(s.setCell b o x).n=s.n:=rfl
@[simp] theorem base_setCell:(s.setCell b o x).base=s.base:=rfl
@[simp] theorem blocks_setCell:(s.setCell b o x).blocks=s.blocks.set b ((s.blocks.getD b []).set o x):=rfl
@[simp] theorem loans_setCell:(s.setCell b o x).loans t=if s.loans t=some (.cell b o) then none else s.loans t:=rfl
@[simp] theorem get_push:(s.push blk).get t=s.get t:=rfl
@[simp] theorem n_push:(s.push blk).n=s.n:=rfl
@[simp] theorem base_push:(s.push blk).base=s.base:=rfl
@[simp] theorem blocks_push:(s.push blk).blocks=s.blocks++[blk]:=rfl
@[simp] theorem loans_push:(s.push blk).loans t=s.loans t:=rfl
@[simp] theorem get_degT:(s.degrade (.tmp u)).get t=if t=u then (s.get u).copy else s.get t:=rfl
@[simp] theorem n_deg(p:Place):(s.degrade p).n=s.n:=by cases p<;>rfl
@[simp] theorem base_deg(p:Place):(s.degrade p).base=s.base:=by cases p<;>rfl
@[simp] theorem blocks_degT:(s.degrade (.tmp u)).blocks=s.blocks:=rfl
@[simp] theorem loans_deg(p:Place):(s.degrade p).loans t=s.loans t:=by cases p<;>rfl
@[simp] theorem get_degC:(s.degrade (.cell b o)).get t=s.get t:=rfl
@[simp] theorem blocks_degC:(s.degrade (.cell b o)).blocks=s.blocks.set b ((s.blocks.getD b []).set o (((s.blocks.getD b []).getD o .top).copy)):=rfl
end
def AState.lend(s:AState)(d:Nat)(p:Place):AState:={s with loans:=fun t=>if t=d then some p else s.loans t}
section
variable (s:AState) (d t:Nat) (p:Place) (x:AV)
@[simp] theorem get_lend:(s.lend d p).get t=s.get t:=rfl
@[simp] theorem n_lend:(s.lend d p).n=s.n:=rfl
@[simp] theorem base_lend:(s.lend d p).base=s.base:=rfl
@[simp] theorem blocks_lend:(s.lend d p).blocks=s.blocks:=rfl
@[simp] theorem loans_lend:(s.lend d p).loans t=if t=d then some p else s.loans t:=rfl
@[simp] theorem putL_none:s.putL d x none=s.put d x:=rfl
@[simp] theorem putL_some:s.putL d x (some p)=if p=.tmp d∨s.n<=d then s.put d x else (s.put d x).lend d p:=rfl
end
def AState.storeK(s:AState)(ρ:List Nat)(bs:List (List AV)):AState:={s with blocks:=bs,loans:=fun t=>zDA ρ (s.loans t)}
section
variable (s:AState) (t:Nat) (ρ:List Nat) (bs:List (List AV))
@[simp] theorem calledK_eq(d:Option Nat)(res:AV):s.calledK ρ d res bs=(s.storeK ρ bs).putO d res:=rfl
@[simp] theorem get_storeK:(s.storeK ρ bs).get t=s.get t:=rfl
@[simp] theorem n_storeK:(s.storeK ρ bs).n=s.n:=rfl
@[simp] theorem base_storeK:(s.storeK ρ bs).base=s.base:=rfl
@[simp] theorem blocks_storeK:(s.storeK ρ bs).blocks=bs:=rfl
@[simp] theorem loans_storeK:(s.storeK ρ bs).loans t=zDA ρ (s.loans t):=rfl
@[simp] theorem keepLoan_none:zDA ρ none=none:=rfl
@[simp] theorem keepLoan_tmp(u:Nat):zDA ρ (some (.tmp u))=some (.tmp u):=rfl
@[simp] theorem keepLoan_cell(b o:Nat):zDA ρ (some (.cell b o))=if ρ.contains b then none else some (.cell b o):=rfl
end
def AState.store'(s:AState)(bs:List (List AV)):AState:={s with blocks:=bs,loans:=fun t=>match s.loans t with|some (.tmp u)=>some (.tmp u)|_=>none}
section
variable (s:AState) (t:Nat) (bs:List (List AV))
@[simp] theorem called_eq(d:Option Nat)(res:AV):s.called d res bs=(s.store' bs).putO d res:=rfl
@[simp] theorem get_store':(s.store' bs).get t=s.get t:=rfl
@[simp] theorem n_store':(s.store' bs).n=s.n:=rfl
@[simp] theorem base_store':(s.store' bs).base=s.base:=rfl
@[simp] theorem blocks_store':(s.store' bs).blocks=bs:=rfl
@[simp] theorem loans_store':(s.store' bs).loans t=match s.loans t with|some (.tmp u)=>some (.tmp u)|_=>none:=rfl
end
@[simp] theorem AOps_nil(P:Program)(ops:Array Oper)(K:AState->Prop)(s:AState):AOps P ops K [] s=K s:=Eq.trans rfl rfl
@[simp] theorem AOps_cons(P:Program)(ops:Array Oper)(K:AState->Prop)(o:Oper)(l:List Oper)(s:AState):AOps P ops K (o::l) s=match o.guard with
 |none=>AStep P o s (AOps P ops K l)
 |some (j,want)=>zFW ((ops[j]?).bind (·.dst)) fun d=>zGo (s.get d) want (AStep P o s (AOps P ops K l)) (AOps P ops K l (s.putO o.dst (.tup []))):=Eq.trans rfl rfl
@[simp] theorem AOpsD_nil(P:Program)(B:List Nat)(ops:Array Oper)(K:AState->Prop)(s:AState):AOpsD P B ops K [] s=K s:=Eq.trans rfl rfl
@[simp] theorem AOpsD_cons(P:Program)(B:List Nat)(ops:Array Oper)(K:AState->Prop)(o:Oper)(l:List Oper)(s:AState):AOpsD P B ops K (o::l) s=match o.guard with
 |none=>AStepD P B o s (AOpsD P B ops K l)
 |some (j,want)=>zFW ((ops[j]?).bind (·.dst)) fun d=>zGo (s.get d) want (AStepD P B o s (AOpsD P B ops K l)) (AOpsD P B ops K l (s.putO o.dst (.tup []))):=Eq.trans rfl rfl
attribute [simp] AStep AStepD TailV resTail partV zHm zGZ arrS resIdx resBn zJd zJe nilI resEmp resIx resIxM resLn zJb resMk zHj zIM zGY zGV zJf zKN zIn resApp zGn zD7 zJZ zHM zIm pickV isBool zJM zFh resBox bldT markB zKW loadV zHL zFg zEu elems zEt zGw ExtD ownT zC5 zFK cmpV intV strV binV resBin resUn zJc zHk zHl resFunc zG8 oldElems zFw resMM resM3 resLen zIH zGv zGF fillA zGq zGK zDq zJa isR zBO zDn eqTy eqFs AState.at AState.ev AState.owner AState.takeV AState.takeS AState.putR AState.putO AState.look AState.loanOf AState.setCells AV.ofConst AV.ofConst1 AV.plain AV.inert AV.flat AV.flatL AV.under AV.underL seqK zI7 Ret zJB zFp oneOf lookD endS Gd exL gdA isE0 ownIn isApp asgOk
attribute [simp] mks_nil mvs_nil zGJ zFv zDJ AState.setAt keyD
def notLoop:Code->Bool
 |.loop _=>false
 |_=>true
theorem AW.step(hm:P.follows .mixedOrders=true)(hc:notLoop c=true)(h:AW P c Q s):AWp P c Q s:=AW.sound hm c Q s h
attribute [simp] AW
theorem zCd(I:α->AState)(Inv:α->Prop)(μ:α->Nat)(x0:α)(hi:Inv x0)(h0:s.Le (I x0))
 (round: ∀x,Inv x->AWp P c (seqK (fun s'=> ∃y,s'.Le (I y)∧Inv y∧μ y<μ x) Q) (I x)):AWp P (.loop c) Q s:=by
 refine awp_loop (fun x:{x:α//Inv x}=>I x.1) (fun x=>μ x.1) ⟨x0,hi⟩ h0 ?_
 rintro⟨x,hx⟩
 refine zGU (round x hx) fun e s' h=>?_
 cases e with
 |normal=>obtain⟨y,h1,h2,h3⟩:=h;exact⟨⟨y,h2⟩,h1,h3⟩
 |_=>exact h
def PStep(P:Program)(o:Oper)(s s':AState):Prop:=
 o.guard=none∧((∃c x f first captured res,o.op=.call c∧c.callee=.value x∧s.look x=.fn (.func f) first captured∧res.owns=false∧
  ((∃bs',Raw P f (zBO s first captured c.args) s.blocks res bs'∧s'=s.called o.dst res bs')∨
   (∃bs' ρ,RawK P f (zBO s first captured c.args) s.blocks res bs' (fun b=>b∉ρ)∧s'=s.calledK ρ o.dst res bs')∨
   (Pure P f (zBO s first captured c.args) res∧AV.flatL (zBO s first captured c.args)=true∧s'=s.putO o.dst res)∨
   (Pure P f (zDn s first captured c.args) res∧AV.flatL (zDn s first captured c.args)=true∧s'=s.putO o.dst res)))∨
  (∃r,mapOp P s o.op=some r∧r.side∧s'=s.putR o.dst r)∨(∃r,zGn P s o.op=some r∧r.side∧s'=s.putR o.dst r)∨
  (∃c x f first captured i y ec l r,o.op=.call c∧c.callee=.value x∧s.look x=.fn (.func f) first captured∧c.args.toList[i]? =some y∧(zBO s first captured c.args).length=c.args.toList.length∧
   (s.takeV y=.osl ec l∨(s.takeV y=.nsl∧l=[]))∧PureG P f ((zBO s first captured c.args).set i (.osl ec l)) i ec l r∧AV.flatL (zBO s first captured c.args)=true∧
   s'=(s.takeS y).putO o.dst r))
def pinsOk(ops:Array Oper)(pins:List Nat):Bool:=
 pins.all fun i=>(List.range ops.size).all fun k=>k==i||(if k<i then ((zDQ ops.toList).getD i []).contains k else ((zDQ ops.toList).getD k []).contains i)
theorem zJi(h:pinsOk ops pins=true){i k:Nat}(hi:pins.contains i=true)(hk:k<i)(hs:i<ops.size):k∈(zDQ ops.toList).getD i []:=by
 have:=(zq8 ((zq8 h) i (by simpa using hi))) k (List.mem_range.2 (by omega))
 rw[if_pos hk] at this
 simp only[Bool.or_eq_true,beq_iff_eq,List.contains_iff_mem] at this
 rcases this with h|h
 ·omega
 ·exact h
theorem zIr(h:pinsOk ops pins=true){i k:Nat}(hk:pins.contains k=true)(hlt:k<i)(hs:i<ops.size):k∈(zDQ ops.toList).getD i []:=by
 have:=(zq8 ((zq8 h) k (by simpa using hk))) i (List.mem_range.2 hs)
 rw[if_neg (by omega)] at this
 simp only[Bool.or_eq_true,beq_iff_eq,List.contains_iff_mem] at this
 rcases this with h|h
 ·omega
 ·exact h
def zGp(P:Program)(B:List Nat)(ops:Array Oper)(pins:List Nat):List Nat->AState->AState->Prop
 |[],s,s'=>s'=s
 |i::l,s,s'=> ∃o s1,ops[i]? =some o∧((pins.contains i=false∧GStep P B ops o s s1)∨(pins.contains i=true∧PStep P o s s1))∧zGp P B ops pins l s1 s'
theorem zEP{P:Program}{B:List Nat}{ops:Array Oper}{pins:List Nat}: ∀(l l':List Nat)(s s':AState),zGp P B ops pins (l++l') s s'↔∃m,zGp P B ops pins l s m∧zGp P B ops pins l' m s'
 |[],l',s,s'=>⟨fun h=>⟨s,rfl,h⟩,fun⟨m,h1,h2⟩=>by cases h1;exact h2⟩
 |i::l,l',s,s'=>by
  constructor
  ·rintro⟨o,s1,h1,h2,h3⟩
   obtain⟨m,h4,h5⟩:=(zEP l l' s1 s').1 h3
   exact⟨m,⟨o,s1,h1,h2,h4⟩,h5⟩
  ·rintro⟨m,⟨o,s1,h1,h2,h4⟩,h5⟩
   exact⟨o,s1,h1,h2,(zEP l l' s1 s').2 ⟨m,h4,h5⟩⟩
theorem zG6{P:Program}{B:List Nat}{ops:Array Oper}{pins:List Nat}: ∀{l:List Nat}{s s':AState},(∀k,k∈l->pins.contains k=false)->zGp P B ops pins l s s'->Chain P B ops l s s'
 |[],s,s',_,h=>h
 |i::l,s,s',hp,⟨o,s1,h1,h2,h3⟩=>by
  refine⟨o,s1,h1,?_,zG6 (fun k hk=>hp k (zqc _ hk)) h3⟩
  rcases h2 with ⟨_,h2⟩|⟨h2,_⟩
  ·exact h2
  ·rw[hp i (zq9 ..)] at h2;cases h2
theorem zKg{P:Program}{B:List Nat}{ops:Array Oper}{pins:List Nat}: ∀{l:List Nat}{s s':AState},(∀k,k∈l->pins.contains k=false)->Chain P B ops l s s'->zGp P B ops pins l s s'
 |[],s,s',_,h=>h
 |i::l,s,s',hp,⟨o,s1,h1,h2,h3⟩=>⟨o,s1,h1,.inl ⟨hp i (zq9 ..),h2⟩,zKg (fun k hk=>hp k (zqc _ hk)) h3⟩
theorem PStep.frame{s s':AState}(hp:PStep P o s s'):s'.n=s.n∧∀t u,s'.loans t=some (.tmp u)->s.loans t=some (.tmp u)∨(zDL o.op=true∧u∈zC4 o.op):=by
 have put: ∀(s0:AState)(r:AV),s0.n=s.n->(∀t u,s0.loans t=some (.tmp u)->s.loans t=some (.tmp u))->(s0.putO o.dst r).n=s.n∧∀t u,(s0.putO o.dst r).loans t=some (.tmp u)->s.loans t=some (.tmp u)∨(zDL o.op=true∧u∈zC4 o.op):=fun s0 r hn hl=>by
  cases hd:o.dst with
  |none=>exact⟨hn,fun t u h=>.inl (hl t u h)⟩
  |some d=>
   refine⟨by simpa using hn,fun t u h=>.inl ?_⟩
   simp only[AState.putO,loans_put] at h
   split at h
   ·split at h
    ·cases h
    ·split at h
     ·cases h
     ·exact hl t u h
   ·exact hl t u h
 obtain⟨hg0,⟨c,x,f,first,captured,res,_,_,_,_,⟨bs',_,rfl⟩|⟨bs',ρ,_,rfl⟩|⟨_,_,rfl⟩|⟨_,_,rfl⟩⟩|⟨r,hr,_,rfl⟩|⟨r,hr,hr2,rfl⟩|⟨c,x,f,first,captured,i,y,ec,l,r,_,_,_,_,_,_,_,_,rfl⟩⟩:=hp
 ·rw[called_eq]
  refine put _ _ rfl fun t u h=>?_
  rw[loans_store'] at h
  split at h
  ·rename_i v hv;rw[hv];exact h
  ·cases h
 ·unfold AState.calledK
  refine put _ _ rfl fun t u h=>?_
  simp only at h
  cases hv:s.loans t with
  |none=>rw[hv] at h;cases h
  |some q=>
   rw[hv] at h
   cases q with
   |tmp v=>exact h
   |cell b o=>simp only[zDA] at h;split at h<;>cases h
 ·exact put s res rfl fun t u h=>h
 ·exact put s res rfl fun t u h=>h
 ·obtain⟨h1,h2,h3⟩:=mapOp_frame hr
  have e:s.putR o.dst r=r.st.putO o.dst r.val:=by
   unfold AState.putR AState.putO
   cases o.dst with
   |none=>rfl
   |some d=>simp only[AState.putL,h3]
  rw[e]
  exact put _ _ h1 fun t u h=>by rw[h2] at h;exact h
 ·have hg:GStep P [] #[] o s (s.putR o.dst r):=by
   unfold GStep
   rw[hg0]
   exact .inr (.inl ⟨r,hr,hr2,by cases o.op<;>simp[Gd],rfl⟩)
  obtain⟨f1,f2,f3,f4⟩:=zFM hg
  exact⟨f1,f3⟩
 ·obtain⟨t1,t2,t3⟩:=zDi s y
  exact put _ _ t1 fun t u h=>by rw[t3] at h;exact h
theorem gp_sound{s s':AState}(h:GStep P B ops o s s'∨PStep P o s s')(hs:Sim F g s a w)
 {K:Act->World->Prop} {Q:Exit->Act->World->Prop} (hK: ∀g' a' w',Sim F g' s' a' w'->K a' w'):
 if Region.wanted o (yielded ops a.tmps) then o.wp P a w K Q else K (a.put o.dst undef) w:=by
 rcases h with h|⟨hg,⟨c,x,f,first,captured,res,ho,hc,hx,h2,⟨bs',h1,rfl⟩|⟨bs',ρ,h1,rfl⟩|⟨h1,h3,rfl⟩|⟨h1,h3,rfl⟩⟩|⟨r,h1,h2,rfl⟩|⟨r,h1,h2,rfl⟩|⟨c,x,f,first,captured,i,y,ec,l,r,ho,hc,hx,e1,e2,e3,e4,e5,rfl⟩⟩
 ·exact h.sound hs hK
 ·rw[if_pos (by simp[Region.wanted,hg])]
  exact ok_call ho hc hx h1 h2 F g a w hs K Q hK
 ·rw[if_pos (by simp[Region.wanted,hg])]
  exact ok_callK ho hc hx h1 h2 F g a w hs K Q hK
 ·rw[if_pos (by simp[Region.wanted,hg])]
  exact zGy ho hc hx h1 h3 h2 F g a w hs K Q hK
 ·rw[if_pos (by simp[Region.wanted,hg])]
  exact ok_call_pure0 ho hc hx h1 h3 h2 F g a w hs K Q hK
 ·rw[if_pos (by simp[Region.wanted,hg])]
  exact(mapOp_ok h1 h2).step F g a w hs K Q hK
 ·rw[if_pos (by simp[Region.wanted,hg])]
  exact(absOp_ok h1 h2).step F g a w hs K Q hK
 ·rw[if_pos (by simp[Region.wanted,hg])]
  exact zID ho hc hx e1 e2 e3 e4 e5 F g a w hs K Q hK
theorem any_wpX{Q:Exit->Act->World->Prop}(hok:regOk B ops n=true)(hpin:pinsOk ops pins=true): ∀(fuel:Nat)(listed:Array Bool)(s s':AState)(g:Gh)(a:Act)(w:World),
 listed.size=ops.size->((List.range ops.size).filter fun i=> !listed.getD i true).length<=fuel->
 (∀(j:Nat) o,ops[j]? =some o->listed.getD j true=true->∀e,e∈zDf o->listed.getD e true=true)->
 zGp P B ops pins ((List.range ops.size).filter fun i=> !listed.getD i true) s s'->Sim F g s a w->LFree ops ((List.range ops.size).filter fun i=> !listed.getD i true) s->s.n=n->(∀g a w,Sim F g s' a w->Q .normal a w)->
 wpAny P .any ops Q fuel listed a w:=by
 obtain⟨hedge,hdst,hcomm⟩:=zIq hok
 have hin: ∀(listed:Array Bool),listed.size=ops.size->∀i,i<ops.size->listed.getD i true=listed.getD i false:=fun listed hsz i hi=>by
  rw[zq6,zq6,zqe (by omega)];rfl
 have hleft: ∀(listed:Array Bool),listed.size=ops.size->Region.ready .any ops listed=[]->((List.range ops.size).filter fun i=> !listed.getD i true)=[]:=fun listed hsz hr=>by
  have all: ∀i,i<ops.size->listed.getD i true=true:=by
   intro i
   induction i using Nat.strongRecOn with
   |_ i ih=>
    intro hi
    cases hv:listed.getD i true with
    |true=>rfl
    |false=>
     have hmem:i∈Region.ready .any ops listed:=mem_ready.2 ⟨hv,ops[i],zqe hi,fun e he hb=>by
      have hlt:=hedge i _ (zqe hi) e.on (List.mem_map.2 ⟨e,List.mem_filter.2 ⟨by simpa using he,hb⟩,rfl⟩)
      rw[<-hin listed hsz e.on (by omega)];exact ih e.on hlt (by omega)⟩
     rw[hr] at hmem;cases hmem
  rw[List.filter_eq_nil_iff]
  intro i hi
  rw[List.mem_range] at hi
  simp[all i hi]
 intro fuel
 induction fuel with
 |zero=>
  intro listed s s' g a w hsz hlen hcl hc hs hS hn hQ
  have hnil:((List.range ops.size).filter fun i=> !listed.getD i true)=[]:=List.eq_nil_of_length_eq_zero (by omega)
  rw[hnil] at hc
  have:s'=s:=hc
  subst this
  refine⟨?_,hQ g a w hs⟩
  cases hr:Region.ready .any ops listed with
  |nil=>rfl
  |cons i l=>
   have hi:i∈Region.ready .any ops listed:=by rw[hr];exact zq9 ..
   obtain⟨h1,o,h2,_⟩:=mem_ready.1 hi
   have:i∈((List.range ops.size).filter fun i=> !listed.getD i true):=List.mem_filter.2 ⟨List.mem_range.2 (lt_of_getElem? h2),by simp[h1]⟩
   rw[hnil] at this;cases this
 |succ fuel ih=>
  intro listed s s' g a w hsz hlen hcl hc hs hS hn hQ
  refine⟨fun hr=>?_,fun i hi=>?_⟩
  ·rw[hleft listed hsz hr] at hc
   have:s'=s:=hc
   subst this
   exact hQ g a w hs
  ·obtain⟨h1,o,h2,h3⟩:=mem_ready.1 hi
   have hilt:=lt_of_getElem? h2
   have hready: ∀e,e∈zDf o->listed.getD e true=true:=fun e he=>by
    obtain⟨ed,hed,rfl⟩:=List.mem_map.1 he
    rw[List.mem_filter] at hed
    have:=h3 ed (by simpa using hed.1) hed.2
    have hlt:=hedge i o h2 ed.on he
    rw[hin listed hsz _ (by omega)];exact this
   obtain⟨u1,u2,e1,e2,e3⟩:=zFU (p:=fun i=> !listed.getD i true) hilt (by simp[h1])
   have hcm: ∀k,k∈u1->comm B ops k i=true:=fun k hk=>by
    obtain⟨hlt,hk2⟩:=e2 k hk
    rcases hcomm i hilt k hlt with h|h
    ·exfalso
     have:=zIE (ops:=ops.toList) (L:=fun j=>listed.getD j true=true) (fun j o hj=>hcl j o (by simpa using hj)) i o (by simpa using h2) hready k h
     rw[this] at hk2;simp at hk2
    ·exact h
   have hanc: ∀k,k∈u1->k∉(zDQ ops.toList).getD i []:=fun k hk hm=>by
    have:=zIE (ops:=ops.toList) (L:=fun j=>listed.getD j true=true) (fun j o hj=>hcl j o (by simpa using hj)) i o (by simpa using h2) hready k hm
    have h5:=(e2 k hk).2
    rw[this] at h5;cases h5
   rw[e1] at hc
   have hstep: ∃s1,(GStep P B ops o s s1∨PStep P o s s1)∧zGp P B ops pins (u1++u2) s1 s':=by
    cases hp:pins.contains i with
    |true=>
     have hu:u1=[]:=by
      cases u1 with
      |nil=>rfl
      |cons k u1=>
       exfalso
       have hk:=(e2 k (zq9 ..)).1
       exact hanc k (zq9 ..) (zJi hpin hp hk hilt)
     subst hu
     obtain⟨o',s1,q1,q2,q3⟩:=hc
     rw[h2] at q1;cases q1
     rcases q2 with ⟨q2,_⟩|⟨_,q2⟩
     ·rw[hp] at q2;cases q2
     ·exact⟨s1,.inr q2,q3⟩
    |false=>
     have hnp: ∀k,k∈u1++[i]->pins.contains k=false:=fun k hk=>by
      rcases List.mem_append.1 hk with hk|hk
      ·cases hpk:pins.contains k with
       |false=>rfl
       |true=>exact absurd (zIr hpin hpk (e2 k hk).1 hilt) (hanc k hk)
      ·rw[List.mem_singleton.1 hk];exact hp
     rw[show u1++i::u2=(u1++[i])++u2 by simp] at hc
     obtain⟨m,hc1,hc2⟩:=(zEP _ _ _ _).1 hc
     obtain⟨s1,g1,g2⟩:=front h2 u1 s m (zG6 hnp hc1) hcm (fun q hq=>hS q (by rw[e1];rcases List.mem_append.1 hq with hq|hq;exact List.mem_append_left _ hq;rw[List.mem_singleton.1 hq];exact List.mem_append_right _ (zq9 ..))) (zHp (zHn hok) hedge e1) (by rw[hn];exact hdst) (fun _ t _=>by rw[<-hs.sto.len];exact(hs.tmps t).1.isUnder)
     exact⟨s1,.inl g1,(zEP _ _ _ _).2 ⟨m,zKg (fun k hk=>hnp k (List.mem_append_left _ hk)) g2,hc2⟩⟩
   obtain⟨s1,g1,hc'⟩:=hstep
   have hfr:s1.n=s.n∧∀t u,s1.loans t=some (.tmp u)->s.loans t=some (.tmp u)∨(zDL o.op=true∧u∈zC4 o.op):=by
    rcases g1 with g1|g1
    ·obtain⟨f1,f2,f3,f4⟩:=zFM g1
     exact⟨f1,f3⟩
    ·exact g1.frame
   obtain⟨f1,f3⟩:=hfr
   have hS':LFree ops (u1++u2) s1:=fun q hq oq d hoq hd hqt t hl=>by
    have hq':q∈(List.range ops.size).filter fun i=> !listed.getD i true:=by
     rw[e1]
     rcases List.mem_append.1 hq with hq|hq
     ·exact List.mem_append_left _ hq
     ·exact List.mem_append_right _ (zqc _ hq)
    rcases f3 t d hl with h|⟨hm,h⟩
    ·exact hS q hq' oq d hoq hd hqt t h
    ·have h5:=zIE (ops:=ops.toList) (L:=fun j=>listed.getD j true=true) (fun j o hj=>hcl j o (by simpa using hj)) i o (by simpa using h2) hready q (zIQ (zHn hok) ⟨o,oq,d,h2,hoq,hm,h,hd,hqt⟩)
     rw[List.mem_filter,h5] at hq'
     cases hq'.2
   have hfil:((List.range ops.size).filter fun k=> !(listed.setIfInBounds i true).getD k true)=u1++u2:=by
    rw[<-e3]
    apply List.filter_congr
    intro k hk
    rw[List.mem_range] at hk
    rw[zDS (n:=0) listed i k true (by omega)]
    by_cases e:k=i
    ·simp[e]
    ·simp[e]
   have hgo:=gp_sound g1 hs (K:=wpAny P .any ops Q fuel (listed.setIfInBounds i true)) (Q:=Q) (fun g' a' w' hs'=>
    ih (listed.setIfInBounds i true) s1 s' g' a' w' (by simpa using hsz) (by
     rw[hfil]
     have:=hlen
     rw[e1] at this
     simp only[List.length_append,List.length_cons] at this ⊢
     omega) (fun j oj hj hl e he=>by
     have hjlt:=lt_of_getElem? hj
     have helt:=hedge j oj hj e he
     rw[zDS (n:=0) listed i j true (by omega)] at hl
     rw[zDS (n:=0) listed i e true (by omega)]
     split
     ·rfl
     ·split at hl
      ·rename_i hji
       subst hji
       rw[h2] at hj;cases hj
       exact hready e he
      ·exact hcl j oj hj hl e he) (by rw[hfil];exact hc') hs' (by rw[hfil];exact hS') (by rw[f1];exact hn) hQ)
   unfold wpOp
   simp only[h2]
   split
   ·rename_i hw;rw[if_pos hw] at hgo;exact .inl hgo
   ·rename_i hw;rw[if_neg hw] at hgo;exact hgo
def CallX(P:Program)(f:FuncId)(xs:List Operand)(args:List AV)(s:AState)(dst:Option Nat)(K:AState->Prop):Prop:=
 (∃res bs',Raw P f args s.blocks res bs'∧res.owns=false∧K (s.called dst res bs'))∨CallG P f xs args s dst K
def AStepX(P:Program)(o:Oper)(s:AState)(K:AState->Prop):Prop:=
 match o.guard,o.op with
 |none,.call c=>match c.callee with
  |.value x=>match s.look x with
   |.fn (.func f) first captured=>CallX P f c.args.toList (zBO s first captured c.args) s o.dst K
   |_=>False
  |.builtin b=>ResK s o.dst (zD7 P s c b) K
  |_=>False
 |none,.makeMap t none=>ResK s o.dst (some (zGJ s)) K
 |none,.lookup t x i ok=>ResK s o.dst (zFv P s t x i ok) K
 |none,.mapUpdate t x i v=>ResK s o.dst (zDJ P s t x i v) K
 |none,.insert t x i v=>ResK s o.dst (zDJ P s t x i v) K
 |none,op=>ResK s o.dst (zGn P s op) K
 |_,_=>False
theorem AStepX.ok{P:Program}{o:Oper}{s:AState}{K:AState->Prop}(h:AStepX P o s K): ∃s',PStep P o s s'∧K s':=by
 have mp: ∀x:Option Res,o.guard=none->mapOp P s o.op=x->ResK s o.dst x K->∃s',PStep P o s s'∧K s':=fun x hg hx h=>by
  unfold ResK at h
  split at h
  ·rename_i r
   exact⟨_,⟨hg,.inr (.inl ⟨r,hx,h.1,rfl⟩)⟩,h.2⟩
  ·exact h.elim
 unfold AStepX at h
 split at h
 ·rename_i c hg ho
  split at h
  ·rename_i x hc
   split at h
   ·rename_i f first captured hx
    rcases h with ⟨res,bs',h1,h2,h3⟩|⟨i,y,ec,l,r,e1,e2,e3,e4,e5,e7⟩
    ·exact⟨_,⟨hg,.inl ⟨c,x,f,first,captured,res,ho,hc,hx,h2,.inl ⟨bs',h1,rfl⟩⟩⟩,h3⟩
    ·exact⟨_,⟨hg,.inr (.inr (.inr ⟨c,x,f,first,captured,i,y,ec,l,r,ho,hc,hx,e1,e2,e3,e4,e5,rfl⟩))⟩,e7⟩
   ·exact h.elim
  ·rename_i b hc
   unfold ResK at h
   split at h
   ·rename_i r hr
    exact⟨_,⟨hg,.inr (.inr (.inl ⟨r,by rw[ho];simp only[zGn,hc];exact hr,h.1,rfl⟩))⟩,h.2⟩
   ·exact h.elim
  ·exact h.elim
 ·rename_i t hg ho
  exact mp _ hg (by rw[ho];rfl) h
 ·rename_i t x i ok hg ho
  exact mp _ hg (by rw[ho];rfl) h
 ·rename_i t x i v hg ho
  exact mp _ hg (by rw[ho];rfl) h
 ·rename_i t x i v hg ho
  exact mp _ hg (by rw[ho];rfl) h
 ·rename_i hg _ _ _ _ _
  unfold ResK at h
  split at h
  ·rename_i r hr
   exact⟨_,⟨hg,.inr (.inr (.inl ⟨r,hr,h.1,rfl⟩))⟩,h.2⟩
  ·exact h.elim
 ·exact h.elim
def AOpsX(P:Program)(B:List Nat)(ops:Array Oper)(pins:List Nat)(K:AState->Prop):List Oper->Nat->AState->Prop
 |[],_,s=>K s
 |o::l,k,s=>if pins.contains k then AStepX P o s (AOpsX P B ops pins K l (k+1)) else match o.guard with
  |none=>AStepD P B o s (AOpsX P B ops pins K l (k+1))
  |some (j,want)=>zFW ((ops[j]?).bind (·.dst)) fun d=>zGo (s.get d) want (AStepD P B o s (AOpsX P B ops pins K l (k+1))) (AOpsX P B ops pins K l (k+1) (s.putO o.dst (.tup [])))
@[congr] theorem AOpsX_congr{l:List Oper}{k k':Nat}{s s':AState}(hk:k=k')(h:s=s'):AOpsX P B ops pins K l k s=AOpsX P B ops pins K l k' s':=by rw[h,hk]
theorem AOpsX.chain: ∀(l:List Oper)(k:Nat)(s:AState),(∀j,l[j]? =ops[k+j]?)->AOpsX P B ops pins K l k s->
 ∃s',zGp P B ops pins (List.range' k l.length) s s'∧K s':=by
 intro l
 induction l with
 |nil=>exact fun k s _ h=>⟨s,rfl,h⟩
 |cons o l ih=>
  intro k s hl h
  have h0:ops[k]? =some o:=by simpa using(hl 0).symm
  have hl': ∀j,l[j]? =ops[k+1+j]? :=fun j=>by have:=hl (j+1);simpa[Nat.add_assoc,Nat.add_comm 1 j] using this
  unfold AOpsX at h
  cases hp:pins.contains k with
  |true=>
   rw[if_pos hp] at h
   obtain⟨s1,h1,h2⟩:=h.ok
   obtain⟨s',h3,h4⟩:=ih (k+1) s1 hl' h2
   refine⟨s',?_,h4⟩
   rw[List.length_cons,List.range'_succ]
   exact⟨o,s1,h0,.inr ⟨hp,h1⟩,h3⟩
  |false=>
  rw[if_neg (by rw[hp];simp)] at h
  have go: ∀s1,GStep P B ops o s s1->AOpsX P B ops pins K l (k+1) s1->∃s',zGp P B ops pins (List.range' k (o::l).length) s s'∧K s':=fun s1 h1 h2=>by
   obtain⟨s',h3,h4⟩:=ih (k+1) s1 hl' h2
   refine⟨s',?_,h4⟩
   rw[List.length_cons,List.range'_succ]
   exact⟨o,s1,h0,.inl ⟨hp,h1⟩,h3⟩
  cases hg:o.guard with
  |none=>
   rw[hg] at h
   obtain⟨s1,h1,h2⟩:=AStepD.ok h
   exact go s1 (by unfold GStep;rw[hg];exact h1) h2
  |some q=>
   obtain⟨j,want⟩:=q
   rw[hg] at h
   simp only[zFW] at h
   split at h
   ·rename_i d hd
    unfold zGo at h
    split at h
    ·rename_i b hb
     by_cases hw:b=want
     ·obtain⟨s1,h1,h2⟩:=(h.1 hw).ok
      exact go s1 (by unfold GStep;rw[hg];exact⟨d,hd,.inl ⟨b,hb,.inl ⟨hw,h1⟩⟩⟩) h2
     ·have hw':b= !want:=by clear h;revert hw;cases b<;>cases want<;>decide
      exact go _ (by unfold GStep;rw[hg];exact⟨d,hd,.inl ⟨b,hb,.inr ⟨hw',rfl⟩⟩⟩) (h.2 hw')
    ·rename_i hb
     exact go _ (by unfold GStep;rw[hg];exact⟨d,hd,.inr ⟨hb,rfl⟩⟩) h
    ·exact h.elim
   ·exact h.elim
theorem zI8(B:List Nat)(pins:List Nat)(hm:P.follows .mixedOrders=true){s s':AState}(hn:s.n=n)(hok:regOk B ops n=true)(hpin:pinsOk ops pins=true)
 (h1:zGp P B ops pins (List.range' 0 ops.toList.length) s.fresh s') (h2:Q .normal s'):AWp P (.region id ops true) Q s:=fun F g a w hs=>by
 refine wp_region_any hm (any_wpX (F:=F) (n:=n) hok hpin ops.size _ s.fresh s' g a _ (by simp) ?_ ?_ ?_ hs.fresh.drew (fun _ _ _ _ _ _ _ t hl=>by cases hl) hn (fun g a w hs'=>⟨g,s',hs',h2⟩))
 ·exact Nat.le_trans (List.length_filter_le _ _) (by simp)
 ·intro j o hj hl
  have:(Array.replicate ops.size false).getD j true=false:=by
   have:=lt_of_getElem? hj
   rw[zq6,Array.getElem?_replicate,if_pos this];rfl
  rw[this] at hl;cases hl
 ·have hall:((List.range ops.size).filter fun i=> !(Array.replicate ops.size false).getD i true)=List.range ops.size:=by
   rw[List.filter_eq_self]
   intro i hi
   rw[List.mem_range] at hi
   rw[zq6,Array.getElem?_replicate,if_pos hi];rfl
  rw[hall,List.range_eq_range']
  simpa using h1
theorem zBZ(B:List Nat)(pins:List Nat)(hm:P.follows .mixedOrders=true)(hn:s.n=n)(hok:regOk B ops n=true)(hpin:pinsOk ops pins=true)
 (h:AOpsX P B ops pins (Q .normal) ops.toList 0 s.fresh):AWp P (.region id ops true) Q s:=by
 obtain⟨s',h1,h2⟩:=AOpsX.chain ops.toList 0 s.fresh (fun j=>by simp) h
 exact zI8 B pins hm hn hok hpin h1 h2
@[simp] theorem AOpsX_nil(P:Program)(B:List Nat)(ops:Array Oper)(pins:List Nat)(K:AState->Prop)(k:Nat)(s:AState):AOpsX P B ops pins K [] k s=K s:=Eq.trans rfl rfl
@[simp] theorem AOpsX_cons(P:Program)(B:List Nat)(ops:Array Oper)(pins:List Nat)(K:AState->Prop)(o:Oper)(l:List Oper)(k:Nat)(s:AState):AOpsX P B ops pins K (o::l) k s=if pins.contains k then AStepX P o s (AOpsX P B ops pins K l (k+1)) else match o.guard with
 |none=>AStepD P B o s (AOpsX P B ops pins K l (k+1))
 |some (j,want)=>zFW ((ops[j]?).bind (·.dst)) fun d=>zGo (s.get d) want (AStepD P B o s (AOpsX P B ops pins K l (k+1))) (AOpsX P B ops pins K l (k+1) (s.putO o.dst (.tup []))):=Eq.trans rfl rfl
attribute [simp] AStepX
@[simp] def leTmps(s:AState):List (Nat×AV)->Prop
 |[]=>True
 |(t,x)::l=>leAV (s.get t) x∧leTmps s l
@[simp] def underTmps(m:Nat):List (Nat×AV)->Bool
 |[]=>true
 |(_,x)::l=>x.under m&&underTmps m l
@[simp] def underBlocks(m:Nat):List (List AV)->Bool
 |[]=>true
 |b::l=>AV.underL m b&&underBlocks m l
theorem leTmps.get: ∀{l:List (Nat×AV)},leTmps s l->∀q,q∈l->leAV (s.get q.1) q.2
 |[],_,q,hq=>by cases hq
 |(t,x)::l,h,q,hq=>by
  rcases List.mem_cons.1 hq with rfl|hq
  ·exact h.1
  ·exact leTmps.get h.2 q hq
theorem zH3{m:Nat}: ∀{l:List (Nat×AV)},underTmps m l=true->∀q,q∈l->q.2.under m=true
 |[],_,q,hq=>by cases hq
 |(t,x)::l,h,q,hq=>by
  simp only[underTmps,zq7] at h
  rcases List.mem_cons.1 hq with rfl|hq
  ·exact h.1
  ·exact zH3 h.2 q hq
theorem zE0{m:Nat}: ∀{l:List (List AV)},underBlocks m l=true->∀b,b∈l->AV.underL m b=true
 |[],_,b,hb=>by cases hb
 |x::l,h,b,hb=>by
  simp only[underBlocks,zq7] at h
  rcases List.mem_cons.1 hb with rfl|hb
  ·exact h.1
  ·exact zE0 h.2 b hb
def LeB(s:AState)(n base:Nat)(live:List (Nat×AV))(blocks:List (List AV)):Prop:=
 s.n=n∧s.base=base∧base<=blocks.length∧leTmps s live∧leBlocks s.blocks blocks∧
  (s.blocks.length=blocks.length∨(underTmps blocks.length live=true∧underBlocks blocks.length blocks=true))
attribute [simp] LeB
theorem zBe{n base:Nat}{live:List (Nat×AV)}{blocks:List (List AV)}(h:LeB s n base live blocks):s.Le (mkS n base live blocks):=by
 obtain⟨h1,h2,h3,h4,h5,h6⟩:=h
 refine Le.lit h1 h2 h3 h4.get h5 ?_
 rcases h6 with h6|⟨h6,h7⟩
 ·exact .inl h6
 ·exact .inr ⟨zH3 h6,zE0 h7⟩
def cutK(n base:Nat)(live:List (Nat×AV))(blocks:List (List AV))(Q:Exit->AState->Prop):Exit->AState->Prop
 |.normal,s=>LeB s n base live blocks
 |e,s=>Q e s
attribute [simp] cutK
theorem cut{x y:Code}(n base:Nat)(live:List (Nat×AV))(blocks:List (List AV))(h1:AWp P x (cutK n base live blocks Q) s)(h2:AWp P y Q (mkS n base live blocks)):
 AWp P (.seq x y) Q s:=
 zAF (zGU h1 fun e s' hq=>by
  cases e with
  |normal=>exact awp_le h2 (zBe hq)
  |_=>exact hq)
theorem last{x:Code}(n base:Nat)(live:List (Nat×AV))(blocks:List (List AV))(h1:AWp P x (cutK n base live blocks Q) s)
 (h2: ∀s',s'.Le (mkS n base live blocks)->Q .normal s'):AWp P x Q s:=
 zGU h1 fun e s' hq=>by
  cases e with
  |normal=>exact h2 s' (zBe hq)
  |_=>exact hq
def WL(P:Program)(ops:Array Oper)(Q:Exit->AState->Prop)(l:List Oper)(s:AState):Prop:=
 ∀F g a w,Sim F g s a w->wpList P ops (fun e a w=> ∃g s',Sim F g s' a w∧Q e s') l a w
theorem zH0(h:WL P ops Q ops.toList s.fresh):AWp P (.region id ops false) Q s:=
 fun F g a w hs=>wp_region_list (h F g a w hs.fresh)
theorem WL.cut{l:List Oper}(k:Nat)(n base:Nat)(live:List (Nat×AV))(blocks:List (List AV))
 (h1:AOps P ops (fun s'=>LeB s' n base live blocks) (l.take k) s) (h2:WL P ops Q (l.drop k) (mkS n base live blocks)):WL P ops Q l s:=fun F g a w hs=>by
 have:=AOps.sound_app (F:=F) (l2:=l.drop k) (Q:=fun e a w=> ∃g s',Sim F g s' a w∧Q e s') (fun g s a w hk hs=>by
  obtain⟨g',hs'⟩:=hs.le (zBe hk)
  exact h2 F g' a w hs') (l.take k) s g a w h1 hs
 rwa [List.take_append_drop] at this
theorem WL.last{l:List Oper}(h:AOps P ops (Q .normal) l s):WL P ops Q l s:=
 fun F g a w hs=>AOps.sound (K:=Q .normal) (fun g s a w hk hs=>⟨g,s,hs,hk⟩) _ _ _ _ _ h hs
theorem zBn{c:Operand}{x y:Code}{b:Bool}(hc:s.look c=.bool b)(hb:b=true)(h:AWp P x Q s):AWp P (.cond c x y) Q s:=
 awp_cond hc (fun _=>h) (fun e=>by rw[hb] at e;cases e)
theorem condF{c:Operand}{x y:Code}{b:Bool}(hc:s.look c=.bool b)(hb:b=false)(h:AWp P y Q s):AWp P (.cond c x y) Q s:=
 awp_cond hc (fun e=>by rw[hb] at e;cases e) (fun _=>h)
theorem spc{c:Operand}{x y:Code}{b:Bool}{u v:Option α}{r:α}(h:(if b=true then u else v)=some r)(hc:s.look c=.bool b)(h1:b=true->u=some r->AWp P x Q s)(h2:b=false->v=some r->AWp P y Q s):AWp P (.cond c x y) Q s:=by
 cases b with
 |true=>exact zBn hc rfl (h1 rfl h)
 |false=>exact condF hc rfl (h2 rfl h)
theorem zGm(t:Nat)(ht:elems (s.get t)=some l)(h:l.length<=281474976710656->AWp P c Q s):AWp P c Q s:=fun F g a w hs=>by
 obtain⟨_,_,_,_,hb,_⟩:=zFx (hs.tmps t).1 ht
 exact h hb F g a w hs
theorem rep_short{l:List UInt8}(h:Rep imm σ (.str l) v):l.length<=1152921504606846976:=by cases h;assumption
theorem zGl(t:Nat){l:List UInt8}(ht:s.get t=.str l)(h:l.length<=1152921504606846976->AWp P c Q s):AWp P c Q s:=fun F g a w hs=>by
 have:=(hs.tmps t).1
 rw[show s.tmps t=.str l from ht] at this
 exact h (rep_short this) F g a w hs
theorem Sim.cellRep(h:Sim F g s a w){b o:Nat}{x:AV}(hb:s.blocks[b]? =some blk)(hx:blk[o]? =some x): ∃v,Rep g.imm g.σ x v:=by
 have hlt:b<g.σ.length:=by rw[h.sto.len];exact(zq1 hb).1
 obtain⟨c,ty,_,_,h3⟩:=h.sto.blk b blk _ hb (zq2 hlt)
 exact⟨_,(h3 o x hx).2.1⟩
theorem zGB(b o:Nat){x:AV}(hb:s.blocks[b]? =some blk)(hx:blk[o]? =some x)(hl:elems x=some l)
 (h:l.length<=281474976710656->AWp P c Q s):AWp P c Q s:=fun F g a w hs=>by
 obtain⟨v,hv⟩:=hs.cellRep hb hx
 obtain⟨_,_,_,_,h1,_⟩:=zFx hv hl
 exact h h1 F g a w hs
theorem factCS(b o:Nat){l:List UInt8}(hb:s.blocks[b]? =some blk)(hx:blk[o]? =some (.str l))
 (h:l.length<=1152921504606846976->AWp P c Q s):AWp P c Q s:=fun F g a w hs=>by
 obtain⟨v,hv⟩:=hs.cellRep hb hx
 exact h (rep_short hv) F g a w hs
theorem bs{α β:Type}{x:Option α}{f:α->Option β}{r:β}(h:x.bind f=some r): ∃v,x=some v∧f v=some r:=by
 cases x with
 |none=>cases h
 |some v=>exact⟨v,rfl,h⟩
theorem sp{c:Bool}{x y:Option α}{r:α}(h:(if c=true then x else y)=some r):(c=true∧x=some r)∨(c=false∧y=some r):=by
 cases c with
 |true=>exact .inl ⟨rfl,h⟩
 |false=>exact .inr ⟨rfl,h⟩
theorem tf(c:Bool):c=true∨c=false:=by cases c<;>simp
theorem ltT{a b:Int}(h:ltI a b=true):a<b:=of_decide_eq_true h
theorem ltF{a b:Int}(h:ltI a b=false):b<=a:=by have:=of_decide_eq_false h;omega
theorem leT{a b:Int}(h:leI a b=true):a<=b:=of_decide_eq_true h
theorem leF{a b:Int}(h:leI a b=false):b<a:=by have:=of_decide_eq_false h;omega
theorem eqT{a b:Int}(h:eqI a b=true):a=b:=of_decide_eq_true h
theorem eqF{a b:Int}(h:eqI a b=false):a≠b:=of_decide_eq_false h
theorem notT{b:Bool}(h:(!b)=true):b=false:=by cases b<;>simp_all
theorem notF{b:Bool}(h:(!b)=false):b=true:=by cases b<;>simp_all
theorem andT{a b:Bool}(h:(a&&b)=true):a=true∧b=true:=by cases a<;>simp_all
theorem orF{a b:Bool}(h:(a||b)=false):a=false∧b=false:=by cases a<;>simp_all
@[simp] theorem unU_nil:unU []=[]:=rfl
@[simp] theorem unU_cons(k:IntKind)(n:Int)(l:List (List AV)):unU ([.int k n]::l)=UInt8.ofNat n.toNat::unU l:=rfl
theorem oi{a b:α}(h:some a=some b):a=b:=zqa h
def zKi(l:List UInt8):Option (List UInt8):=if l.length<=281474976710656 then some l else none
theorem bytesC_ok{l r:List UInt8}(h:zKi l=some r):r.length<=281474976710656∧l=r:=by
 unfold zKi at h
 split at h
 ·cases h;exact⟨by assumption,rfl⟩
 ·cases h
def chk(k:IntKind)(n:Int):Option Int:=if inR k n then some n else none
theorem zEi{k:IntKind}{n r:Int}(h:chk k n=some r):Rng k r∧n=r:=by
 unfold chk at h;split at h
 ·cases h;exact⟨‹_›,rfl⟩
 ·cases h
def idx{α:Type}(l:List α)(n:Int):Option α:=if 0<=n then l[n.toNat]? else none
theorem idxp_ok{l:List α}{x:α}(h:idx l ((n:Int)-1)=some x):(1<=(n:Int))∧l[n-1]? =some x:=by
 unfold idx at h
 split at h
 ·rename_i h0
  refine⟨by omega,?_⟩
  rw[show((n:Int)-1).toNat=n-1 by omega] at h
  exact h
 ·cases h
theorem zGj{l:List α}{n:Int}{x:α}(h:idx l n=some x):0<=n∧l[n.toNat]? =some x:=by
 unfold idx at h;split at h
 ·exact⟨‹_›,h⟩
 ·cases h
def app{α:Type}(b:Nat)(x y:List α):Option (List α):=if 0<b∧(x.length+y.length)*b<=140737488355328 then some (x++y) else none
theorem zF7{b:Nat}{x y r:List α}(h:app b x y=some r):Fits b (x.length+y.length)∧r=x++y:=by
 unfold app at h;split at h
 ·cases h;exact⟨‹_›,rfl⟩
 ·cases h
theorem zGg{a v:α}(h:some a=some v):v=a∧True:=⟨(zqa h).symm,trivial⟩
@[simp] theorem nn1(n:Nat):(0:Int)<=(n:Int)+1:=by omega
def cat(x y:List UInt8):Option (List UInt8):=if x.length+y.length<=1152921504606846976 then some (x++y) else none
theorem zDx{x y r:List UInt8}(h:cat x y=some r):Short x y∧x++y=r:=by
 unfold cat at h;split at h
 ·cases h;exact⟨‹_›,rfl⟩
 ·cases h
def subC{α:Type}(l:List α)(a b:Int):Option (List α):=if 0<=a∧a<=b∧b<=l.length then some (sub l a b) else none
theorem zEL{l:List α}{a b:Int}{r:List α}(h:subC l a b=some r):InB a b l.length∧sub l a b=r:=by
 unfold subC at h;split at h
 ·cases h;exact⟨‹_›,rfl⟩
 ·cases h
attribute [simp] inR Value.cells
@[simp] theorem ba_size(a:Array UInt8):(ByteArray.mk a).size=a.size:=rfl
theorem EL_map{f:α->List AV}(hf: ∀x,(f x).length=n)(l:List α):EL n (l.map f):=fun e h=>by
 obtain⟨x,_,rfl⟩:=List.mem_map.1 h;exact hf x
@[simp] theorem okE_nil(n:Nat):zGM n []:=fun e h=>by cases h
@[simp] theorem okE_cons(n:Nat)(e:List AV)(l:List (List AV)):zGM n (e::l)↔(e.length=n∧e.all AV.inert=true)∧zGM n l:=by
 unfold zGM;simp
@[simp] theorem sub_map{α β:Type}(f:α->β)(l:List α)(a b:Int):sub (l.map f) a b=(sub l a b).map f:=by
 unfold sub;simp
@[simp] def cI(k:IntKind)(n:Int):List AV:=[.int k n]
@[simp] def cS(l:List UInt8):List AV:=[.str l]
@[simp] theorem EL_cS(l:List (List UInt8)):EL 1 (l.map cS):=EL_map (fun x=>by simp) l
@[simp] theorem byteElems_map(l:List UInt8):zC1 l=l.map cU:=rfl
theorem zAC(h:Q .normal s):AWp P .skip Q s:=fun F g a w hs=>wp_skip ⟨g,s,hs,h⟩
theorem zBv(h:Q (.exit id) s):AWp P (.exit id) Q s:=fun F g a w hs=>wp_exit ⟨g,s,hs,h⟩
theorem zAA(h:Q .ret s):AWp P .ret Q s:=fun F g a w hs=>wp_ret ⟨g,s,hs,h⟩
theorem zDI{y:Code}{s t:AState}(h:AWp P y Q t)(hs:s.Le t):seqK (AWp P y Q) Q .normal s:=awp_le h hs
theorem zAN{y:Code}(h:AWp P y Q s):seqK (AWp P y Q) Q .normal s:=h
theorem zDb(h:Q .normal s):zI7 id Q .normal s:=h
theorem zAm{N:AState->Prop}(h:Q (.exit id) s):seqK N Q (.exit id) s:=h
theorem zBu(h:Q .normal s):zI7 id Q (.exit id) s:=by
 show(if id=id then Q .normal s else Q (.exit id) s);rw[if_pos rfl];exact h
theorem zHy{i id:Nat}(hn:i≠id)(h:Q (.exit i) s):zI7 id Q (.exit i) s:=by
 show(if i=id then Q .normal s else Q (.exit i) s);rw[if_neg hn];exact h
theorem zAB{N:AState->Prop}(h:Q .ret s):seqK N Q .ret s:=h
theorem zAD(h:Q .ret s):zI7 id Q .ret s:=h
theorem retL{R V A:Type}{a:R}{o:R ⊕ V}{f:R->Option A}{g:V->Option A}{r:A}(l:some (Sum.inl a)=some o)(h:Sum.elim f g o=some r):f a=some r:=by cases l;exact h
theorem zCP{R V A:Type}{v:V}{f:R->Option A}{g:V->Option A}{r:A}(h:Sum.elim f g (.inr v)=some r):g v=some r:=h
theorem zGf{l r:List α}{x:α}(h:l.drop i=x::r):ltI (i:Int) (l.length:Int)=true∧l[i]? =some x∧l.drop (i+1)=r∧(i:Int)<l.length:=by
 have hi:i<l.length:=by
  rcases Nat.lt_or_ge i l.length with h1|h1
  ·exact h1
  ·rw[List.drop_eq_nil_of_le h1] at h;cases h
 rw[List.drop_eq_getElem_cons hi] at h
 simp only[List.cons.injEq] at h
 exact⟨zqb (by omega),by rw[zq2 hi,h.1],h.2,by omega⟩
def EndB(s:AState)(bs:List (List AV)):Prop:=s.base<=bs.length∧leBlocks s.blocks bs∧(s.blocks.length=bs.length∨underBlocks bs.length bs=true)
attribute [simp] EndB
theorem EndB.le{bs:List (List AV)}(h:EndB s bs):s.Le (endS s bs) where
 tmps:=fun t=>by show leAV _ .top;cases s.tmps t<;>simp
 loans:=fun t=>rfl
 n:=rfl
 base:=rfl
 hbase:=h.1
 short:=h.2.1.get.1
 blocks:=fun b blk' hb'=>by
  obtain⟨blk,e1,e2⟩:=h.2.1.get.2 b blk' hb'
  exact⟨blk,e1,e2.get.1,e2.get.2⟩
 below:=by
  rcases h.2.2 with h1|h1
  ·exact .inl h1.symm
  ·exact .inr ⟨fun t=>by simp[endS],zH1 (zE0 h1)⟩
theorem zA9 {bs bs':List (List AV)} (hf:P.funcs[f]? =some fn) (hname:(fn.name== "runtime.NumGoroutine")=false) (hb:fn.body=some c)
 (hn:args.length<=fn.ntmps) (hown:args.all (fun x=> !x.owns)=true)
 (h:AWp P c (Ret P fn fun r s=>r=res∧EndB s bs'∧(bs'.length=s.blocks.length∨res.under bs'.length=true)) (start fn.ntmps bs.length args bs)):Raw P f args bs res bs':=
 raw_of_body hf hname hb hn hown fun _=>zGU h fun e s hq=>by
  cases e with
  |normal=>
   simp only[Ret] at hq ⊢
   split at hq
   ·exact⟨hq.1,hq.2.1,hq.2.2.1.le,hq.2.2.2⟩
   ·exact hq.elim
  |ret=>
   simp only[Ret] at hq ⊢
   split at hq
   ·exact⟨hq.1,hq.2.1,hq.2.2.1.le,hq.2.2.2⟩
   ·exact hq.elim
  |_=>exact hq
mutual
def AV.ren(f:Nat->Nat):AV->AV
 |.mptr b o=>.mptr (f b) o
 |.baddr t b=>.baddr t (f b)
 |.msl b e n=>.msl (f b) e n
 |.fn g fs cs=>.fn g (AV.renL f fs) (AV.renL f cs)
 |.iface t v=>.iface t (v.ren f)
 |.agg cs=>.agg (AV.renL f cs)
 |.tup cs=>.tup (AV.renL f cs)
 |.otup ec l cs=>.otup ec l (AV.renL f cs)
 |x=>x
def AV.renL(f:Nat->Nat):List AV->List AV
 |[]=>[]
 |x::l=>x.ren f::AV.renL f l
end
theorem zEI(f:Nat->Nat): ∀(l:List AV)(i:Nat),(AV.renL f l)[i]? =l[i]?.map (AV.ren f)
 |[],i=>by simp[AV.renL]
 |x::l,0=>by simp[AV.renL]
 |x::l,i+1=>by simp[AV.renL,zEI f l i]
theorem zCQ(f:Nat->Nat): ∀l:List AV,(AV.renL f l).length=l.length
 |[]=>rfl
 |x::l=>by simp[AV.renL,zCQ f l]
theorem ren_one(f:Nat->Nat)(x:AV):(x.ren f).one=x.one:=by cases x<;>simp[AV.ren]
theorem zIp(f:Nat->Nat)(x:AV)(ty:TypeId){e e':Prop}(he:e=e'):(x.ren f).cellOk ty e↔x.cellOk ty e':=by
 subst he
 unfold AV.cellOk
 rw[ren_one]
 constructor
 ·rintro(h|⟨h0,b,h⟩)
  ·exact .inl h
  ·cases x<;>simp[AV.ren] at h
   exact .inr ⟨h0,_,by rw[h.1]⟩
 ·rintro(h|⟨h0,b,h⟩)
  ·exact .inl h
  ·subst h;exact .inr ⟨h0,_,rfl⟩
theorem Rep.ren{σ σ':List Nat}{f:Nat->Nat}(hf: ∀(b k:Nat),σ[b]? =some k->σ'[f b]? =some k){x:AV}(h:Rep imm σ x v):Rep imm σ' (x.ren f) v:=by
 induction h generalizing σ' with
 |int k n hb=>exact .int k n hb
 |bool b=>exact .bool b
 |str s l h hb=>exact .str s l h hb
 |nilp=>exact .nilp
 |mptr b off k h=>exact .mptr _ off k (hf _ _ h)
 |baddr0 t b h=>exact .baddr0 t _ (zq1 (hf b _ (zq2 h))).1
 |baddr t b k h=>exact .baddr t _ k (hf _ _ h)
 |msl b ec n k cap h hc hbd=>exact .msl _ ec n k cap (hf _ _ h) hc hbd
 |e0 b=>exact .e0 b
 |omp ks vs k=>exact .omp ks vs k
 |mpx o=>exact .mpx o
 |cptr cells a vs h r _=>exact .cptr cells a vs h r
 |nsl=>exact .nsl
 |osl0 ec=>exact .osl0 ec
 |osq0 ec=>exact .osq0 ec
 |osl ec l a n cap vs hn hc hbd he h r _=>exact .osl ec l a n cap vs hn hc hbd he h r
 |osq ec l a n cap vs hn hc hbd he h r _=>exact .osq ec l a n cap vs hn hc hbd he h r
 |sl0=>exact .sl0
 |sl ec l a n cap vs hn hc hbd he h r _=>exact .sl ec l a n cap vs hn hc hbd he h r
 |fn g fs cs fv cv hf' hc _ _ ihf ihc=>
  refine .fn g _ _ fv cv (by rw[zCQ];exact hf') (by rw[zCQ];exact hc) (fun i x hx=>?_) (fun i x hx=>?_)
  ·rw[zEI] at hx
   cases hy:fs[i]? with
   |none=>rw[hy] at hx;cases hx
   |some y=>rw[hy] at hx;cases hx;exact ihf i y hy hf
  ·rw[zEI] at hx
   cases hy:cs[i]? with
   |none=>rw[hy] at hx;cases hx
   |some y=>rw[hy] at hx;cases hx;exact ihc i y hy hf
 |nilfn=>exact .nilfn
 |iface t x v _ ih=>exact .iface t _ v (ih hf)
 |nilif=>exact .nilif
 |agg cs vs hs' _ ih=>
  refine .agg _ vs (by rw[zCQ];exact hs') (fun i x hx=>?_)
  rw[zEI] at hx
  cases hy:cs[i]? with
  |none=>rw[hy] at hx;cases hx
  |some y=>rw[hy] at hx;cases hx;exact ih i y hy hf
 |tup cs vs hs' _ ih=>
  refine .tup _ vs (by rw[zCQ];exact hs') (fun i x hx=>?_)
  rw[zEI] at hx
  cases hy:cs[i]? with
  |none=>rw[hy] at hx;cases hx
  |some y=>rw[hy] at hx;cases hx;exact ih i y hy hf
 |otup ec l cs vs hs' _ _ ih0 ih=>
  refine .otup ec l _ vs (by rw[zCQ];exact hs') (ih0 hf) (fun i x hx=>?_)
  rw[zEI] at hx
  cases hy:cs[i]? with
  |none=>rw[hy] at hx;cases hx
  |some y=>rw[hy] at hx;cases hx;exact ih i y hy hf
 |top v=>exact .top v
theorem Rep.unren{σ σ':List Nat}{f:Nat->Nat}{m:Nat}(hf: ∀(b:Nat),b<m->σ'[b]? =σ[f b]?){y:AV}(h:Rep imm σ y v):
 ∀x:AV,y=x.ren f->x.under m=true->m<=σ'.length->Rep imm σ' x v:=by
 induction h generalizing σ' with
 |int k n hb=>intro x e hu hm;cases x<;>simp[AV.ren] at e;obtain⟨rfl,rfl⟩:=e;exact .int _ _ hb
 |bool b=>intro x e hu hm;cases x<;>simp[AV.ren] at e;subst e;exact .bool _
 |str s l h hb=>intro x e hu hm;cases x<;>simp[AV.ren] at e;subst e;exact .str s _ h hb
 |nilp=>intro x e hu hm;cases x<;>simp[AV.ren] at e;exact .nilp
 |mptr b off k h=>
  intro x e hu hm;cases x<;>simp[AV.ren] at e
  rename_i b' off'
  obtain⟨rfl,rfl⟩:=e
  simp only[AV.under,decide_eq_true_eq] at hu
  exact .mptr _ _ k (by rw[hf _ hu];exact h)
 |baddr0 t b h=>
  intro x e hu hm;cases x<;>simp[AV.ren] at e
  rename_i t' b'
  obtain⟨rfl,rfl⟩:=e
  simp only[AV.under,decide_eq_true_eq] at hu
  exact .baddr0 _ _ (by omega)
 |baddr t b k h=>
  intro x e hu hm;cases x<;>simp[AV.ren] at e
  rename_i t' b'
  obtain⟨rfl,rfl⟩:=e
  simp only[AV.under,decide_eq_true_eq] at hu
  exact .baddr _ _ k (by rw[hf _ hu];exact h)
 |msl b ec n k cap h hc hbd=>
  intro x e hu hm;cases x<;>simp[AV.ren] at e
  rename_i b' ec' n'
  obtain⟨rfl,rfl,rfl⟩:=e
  simp only[AV.under,decide_eq_true_eq] at hu
  exact .msl _ _ _ k cap (by rw[hf _ hu];exact h) hc hbd
 |e0 b=>intro x e hu hm;cases x<;>simp[AV.ren] at e;exact .e0 b
 |omp ks vs k=>intro x e hu hm;cases x<;>simp[AV.ren] at e;obtain⟨rfl,rfl⟩:=e;exact .omp _ _ k
 |mpx o=>intro x e hu hm;cases x<;>simp[AV.ren] at e;exact .mpx o
 |cptr cells a vs h r _=>intro x e hu hm;cases x<;>simp[AV.ren] at e;subst e;exact .cptr _ a vs h r
 |nsl=>intro x e hu hm;cases x<;>simp[AV.ren] at e;exact .nsl
 |osl0 ec=>intro x e hu hm;cases x<;>simp[AV.ren] at e;obtain⟨rfl,rfl⟩:=e;exact .osl0 _
 |osq0 ec=>intro x e hu hm;cases x<;>simp[AV.ren] at e;obtain⟨rfl,rfl⟩:=e;exact .osq0 _
 |osl ec l a n cap vs hn hc hbd he h r _=>intro x e hu hm;cases x<;>simp[AV.ren] at e;obtain⟨rfl,rfl⟩:=e;exact .osl _ _ a n cap vs hn hc hbd he h r
 |osq ec l a n cap vs hn hc hbd he h r _=>intro x e hu hm;cases x<;>simp[AV.ren] at e;obtain⟨rfl,rfl⟩:=e;exact .osq _ _ a n cap vs hn hc hbd he h r
 |sl0=>intro x e hu hm;cases x<;>simp[AV.ren] at e;subst e;exact .sl0
 |sl ec l a n cap vs hn hc hbd he h r _=>intro x e hu hm;cases x<;>simp[AV.ren] at e;subst e;exact .sl ec _ a n cap vs hn hc hbd he h r
 |fn g fs cs fv cv hf' hc _ _ ihf ihc=>
  intro x e hu hm;cases x<;>simp[AV.ren] at e
  rename_i g' fs' cs'
  obtain⟨rfl,rfl,rfl⟩:=e
  simp only[AV.under,zq7] at hu
  refine .fn _ _ _ fv cv (by rw[zCQ] at hf';exact hf') (by rw[zCQ] at hc;exact hc) (fun i x hx=>?_) (fun i x hx=>?_)
  ·exact ihf i _ (by rw[zEI,hx];rfl) hf x rfl (zDT hu.1 hx) hm
  ·exact ihc i _ (by rw[zEI,hx];rfl) hf x rfl (zDT hu.2 hx) hm
 |nilfn=>intro x e hu hm;cases x<;>simp[AV.ren] at e;exact .nilfn
 |iface t x v _ ih=>
  intro y e hu hm;cases y<;>simp[AV.ren] at e
  obtain⟨rfl,rfl⟩:=e
  exact .iface _ _ v (ih hf _ rfl (by simpa[AV.under] using hu) hm)
 |nilif=>intro x e hu hm;cases x<;>simp[AV.ren] at e;exact .nilif
 |agg cs vs hs' _ ih=>
  intro x e hu hm;cases x<;>simp[AV.ren] at e
  subst e
  refine .agg _ vs (by rw[zCQ] at hs';exact hs') (fun i x hx=>?_)
  exact ih i _ (by rw[zEI,hx];rfl) hf x rfl (zDT (by simpa[AV.under] using hu) hx) hm
 |tup cs vs hs' _ ih=>
  intro x e hu hm;cases x<;>simp[AV.ren] at e
  subst e
  refine .tup _ vs (by rw[zCQ] at hs';exact hs') (fun i x hx=>?_)
  exact ih i _ (by rw[zEI,hx];rfl) hf x rfl (zDT (by simpa[AV.under] using hu) hx) hm
 |otup ec l cs vs hs' _ _ ih0 ih=>
  intro x e hu hm;cases x<;>simp[AV.ren] at e
  obtain⟨rfl,rfl,rfl⟩:=e
  refine .otup _ _ _ vs (by rw[zCQ] at hs';exact hs') (ih0 hf (.osl _ _) rfl rfl hm) (fun i x hx=>?_)
  exact ih i _ (by rw[zEI,hx];rfl) hf x rfl (zDT (by simpa[AV.under] using hu) hx) hm
 |top v=>intro x e hu hm;cases x<;>simp[AV.ren] at e;exact .top v
theorem OwnsBy.ren{x:AV}(f:Nat->Nat):OwnsBy imm w bo (x.ren f) v↔OwnsBy imm w bo x v:=by
 cases x<;>simp[AV.ren,OwnsBy]
def zE5(ρ:List Nat)(n:Nat)(j:Nat):Nat:=ρ.getD j (n+(j-ρ.length))
def lay(f:Nat->Nat):List Nat->List (List AV)->List (List AV)->List (List AV)
 |[],l,bs=>bs++l.map (AV.renL f)
 |r::ρ,b::l,bs=>lay f ρ l (bs.set r (AV.renL f b))
 |_::_,[],bs=>bs
def Stands(f:Nat->Nat)(bs:List (List AV)):List Nat->List (List AV)->Prop
 |[],[]=>True
 |r::ρ,b::l=>bs[r]? =some (AV.renL f b)∧Stands f bs ρ l
 |_,_=>False
def noDup:List Nat->Bool
 |[]=>true
 |r::l=> !(l.contains r)&&noDup l
theorem noDup_spec: ∀{l:List Nat},noDup l=true->l.Nodup
 |[],_=>List.nodup_nil
 |r::l,h=>by
  simp only[noDup,zq7,Bool.not_eq_true',List.contains_eq_mem,decide_eq_false_iff_not] at h
  exact List.nodup_cons.2 ⟨h.1,noDup_spec h.2⟩
def zJ8(ρ:List Nat)(args:List AV)(bS bs:List (List AV)):Prop:=
 noDup ρ=true∧AV.underL bS.length args=true∧underBlocks bS.length bS=true∧Stands (zE5 ρ bs.length) bs ρ bS
theorem zFY{f:Nat->Nat}{bs:List (List AV)}: ∀{ρ:List Nat}{l:List (List AV)},Stands f bs ρ l->ρ.length=l.length
 |[],[],_=>rfl
 |r::ρ,b::l,h=>by simp[zFY h.2]
 |[],_::_,h=>h.elim
 |_::_,[],h=>h.elim
theorem zHF{f:Nat->Nat}{bs:List (List AV)}: ∀{ρ:List Nat}{l:List (List AV)},Stands f bs ρ l->∀(j r:Nat) b,ρ[j]? =some r->l[j]? =some b->bs[r]? =some (AV.renL f b)
 |[],[],_,j,r,b,h1,h2=>by simp at h1
 |r::ρ,b::l,h,j,r',b',h1,h2=>by
  cases j with
  |zero=>simp at h1 h2;subst h1;subst h2;exact h.1
  |succ j=>exact zHF h.2 j r' b' (by simpa using h1) (by simpa using h2)
 |[],_::_,h,_,_,_,_,_=>h.elim
 |_::_,[],h,_,_,_,_,_=>h.elim
theorem lay_length(f:Nat->Nat): ∀(ρ:List Nat)(l bs:List (List AV)),ρ.length<=l.length->(lay f ρ l bs).length=bs.length+(l.length-ρ.length)
 |[],l,bs,_=>by simp[lay]
 |r::ρ,b::l,bs,h=>by
  simp only[lay]
  rw[lay_length f ρ l _ (by simpa using h)]
  simp
 |_::_,[],bs,h=>by simp at h
theorem zIR(f:Nat->Nat): ∀(ρ:List Nat)(l bs:List (List AV))(b:Nat),b∉ρ->b<bs.length->(lay f ρ l bs)[b]? =bs[b]?
 |[],l,bs,b,_,h=>by simp[lay,List.getElem?_append_left h]
 |r::ρ,x::l,bs,b,h1,h2=>by
  simp only[List.mem_cons,not_or] at h1
  simp only[lay]
  rw[zIR f ρ l _ b h1.2 (by simpa using h2),List.getElem?_set_ne (fun e=>h1.1 e.symm)]
 |_::_,[],bs,b,_,_=>rfl
theorem lay_at(f:Nat->Nat): ∀(ρ:List Nat)(l bs:List (List AV))(j r:Nat),ρ.Nodup->(∀q,q∈ρ->q<bs.length)->ρ.length<=l.length->ρ[j]? =some r->(lay f ρ l bs)[r]? =l[j]?.map (AV.renL f)
 |[],l,bs,j,r,_,_,_,h=>by simp at h
 |q::ρ,x::l,bs,j,r,hn,hq,hl,h=>by
  simp only[lay]
  have hn':=List.nodup_cons.1 hn
  cases j with
  |zero=>
   simp at h;subst h
   rw[zIR f ρ l _ q hn'.1 (by simpa using hq q (zq9 ..))]
   rw[List.getElem?_set_self (hq q (zq9 ..))];rfl
  |succ j=>
   rw[lay_at f ρ l _ j r hn'.2 (fun y hy=>by simpa using hq y (zqc _ hy)) (by simpa using hl) (by simpa using h)]
   simp
 |_::_,[],bs,j,r,_,_,hl,_=>by simp at hl
theorem lay_new(f:Nat->Nat): ∀(ρ:List Nat)(l bs:List (List AV))(j:Nat),ρ.length<=l.length->(lay f ρ l bs)[bs.length+j]? =l[ρ.length+j]?.map (AV.renL f)
 |[],l,bs,j,_=>by simp only[lay];rw[List.getElem?_append_right (by omega)];simp
 |r::ρ,x::l,bs,j,h=>by
  simp only[lay]
  have:=lay_new f ρ l (bs.set r (AV.renL f x)) j (by simpa using h)
  rw[List.length_set] at this
  rw[this,List.length_cons,show ρ.length+1+j=(ρ.length+j)+1 by omega,List.getElem?_cons_succ]
 |_::_,[],bs,j,h=>by simp at h
def Gh.small(g:Gh)(ρ:List Nat):Gh where
 imm:=g.imm
 σ:=ρ.map fun b=>g.σ.getD b 0
 own:=fun p=>match p with
  |.cell j o=>match ρ[j]? with
   |some b=>g.own (.cell b o)
   |none=>none
  |.tmp _=>none
theorem small_σ(hlt: ∀q,q∈ρ->q<g.σ.length)(j:Nat):(g.small ρ).σ[j]? =(ρ[j]?).bind fun b=>g.σ[b]? :=by
 simp only[Gh.small,List.getElem?_map]
 cases h:ρ[j]? with
 |none=>rfl
 |some b=>
  have:=hlt b (zq3 h)
  simp only[Option.map_some,Option.bind_some]
  rw[zCj 0 this]
theorem zJw{l:List α}(h:l.Nodup){i j:Nat}{x:α}(hi:l[i]? =some x)(hj:l[j]? =some x):i=j:=by
 obtain⟨h1,e1⟩:=zq1 hi
 obtain⟨h2,e2⟩:=zq1 hj
 exact(List.getElem_inj h).1 (e1.trans e2.symm)
theorem sto_small{bs bS:List (List AV)}(h:Sto g bs w)(hn:ρ.Nodup)(hs:Stands (zE5 ρ bs.length) bs ρ bS)(hu:underBlocks bS.length bS=true):Sto (g.small ρ) bS w:=by
 have hlen:=zFY hs
 have hget:=fun j r b h1 h2=>zHF hs j r b h1 h2
 have hlt: ∀q,q∈ρ->q<g.σ.length:=fun q hq=>by
  obtain⟨j,hj⟩:=zqd hq
  have hj':j<bS.length:=by rw[<-hlen];exact(zq1 hj).1
  have:=hget j q _ hj (zq2 hj')
  rw[h.len];exact(zq1 this).1
 have hσ:=small_σ (g:=g) hlt
 refine {gok:=h.gok,imm:=h.imm,immσ:=fun x v hx hm=>?_,len:=by simp[Gh.small,hlen],nodup:=?_,blk:=fun j blk k hb hk=>?_,ownσ:=fun p k hp=>?_,ownInj:=fun p q k hp hq=>?_}
 ·obtain⟨j,hj⟩:=zqd hm
  rw[hσ] at hj
  cases hr:ρ[j]? with
  |none=>rw[hr] at hj;cases hj
  |some b=>rw[hr] at hj;exact h.immσ x v hx (zq3 hj)
 ·rw[List.nodup_iff_pairwise_ne,List.pairwise_iff_getElem]
  intro i j hi hj hij e
  have e1:(g.small ρ).σ[i]? =some ((g.small ρ).σ[i]):=zq2 hi
  have e2:(g.small ρ).σ[j]? =some ((g.small ρ).σ[j]):=zq2 hj
  rw[<-e] at e2
  rw[hσ] at e1 e2
  cases h1:ρ[i]? with
  |none=>rw[h1] at e1;cases e1
  |some a=>
   cases h2:ρ[j]? with
   |none=>rw[h2] at e2;cases e2
   |some b=>
    rw[h1] at e1;rw[h2] at e2
    have:=zJw h.nodup e1 e2
    subst this
    have:=zJw hn h1 h2
    omega
 ·rw[hσ] at hk
  cases hr:ρ[j]? with
  |none=>rw[hr] at hk;cases hk
  |some b=>
   rw[hr] at hk
   obtain⟨c,ty,h1,h2,h3⟩:=h.blk b _ k (hget j b blk hr hb) hk
   refine⟨c,ty,h1,by rw[zCQ] at h2;exact h2,fun o x hx=>?_⟩
   obtain⟨p1,p2,p3⟩:=h3 o (x.ren (zE5 ρ bs.length)) (by rw[zEI,hx];rfl)
   refine⟨(zIp _ _ _ (by rw[zCQ])).1 p1,?_,?_⟩
   ·refine p2.unren (m:=bS.length) (fun b' hb'=>?_) x rfl (zDT (zE0 hu blk (zq3 hb)) hx) (by simp[Gh.small,hlen])
    have: ∃r,ρ[b']? =some r:=⟨_,zq2 (by rw[hlen];exact hb')⟩
    obtain⟨r,hr'⟩:=this
    rw[hσ,hr']
    simp only[Option.bind_some,zE5,zq5,hr',Option.getD_some]
   ·have:(g.small ρ).own (.cell j o)=g.own (.cell b o):=by simp[Gh.small,hr]
    rw[this]
    exact(OwnsBy.ren _).1 p3
 ·have: ∃q,g.own q=some k:=by
   cases p with
   |tmp t=>cases hp
   |cell j o=>
    simp only[Gh.small] at hp
    split at hp
    ·exact⟨_,hp⟩
    ·cases hp
  obtain⟨q,hq⟩:=this
  refine⟨fun hm=>?_,(h.ownσ q k hq).2⟩
  obtain⟨j,hj⟩:=zqd hm
  rw[hσ] at hj
  cases hr:ρ[j]? with
  |none=>rw[hr] at hj;cases hj
  |some b=>rw[hr] at hj;exact(h.ownσ q k hq).1 (zq3 hj)
 ·cases p with
  |tmp t=>cases hp
  |cell j o=>
   cases q with
   |tmp t=>cases hq
   |cell j' o'=>
    simp only[Gh.small] at hp hq
    cases h1:ρ[j]? with
    |none=>rw[h1] at hp;cases hp
    |some b=>
     cases h2:ρ[j']? with
     |none=>rw[h2] at hq;cases hq
     |some b'=>
      rw[h1] at hp;rw[h2] at hq
      have:=h.ownInj _ _ k hp hq
      cases this
      rw[zJw hn h1 h2]
def Gh.large(g gS:Gh)(ρ:List Nat):Gh where
 imm:=gS.imm
 σ:=g.σ++gS.σ.drop ρ.length
 own:=fun p=>match p with
  |.cell b o=>if b<g.σ.length then (match ρ.idxOf? b with
   |some j=>gS.own (.cell j o)
   |none=>g.own (.cell b o))
   else gS.own (.cell (b-g.σ.length+ρ.length) o)
  |.tmp _=>none
theorem idxOf_some{b j:Nat}(h:ρ.idxOf? b=some j):ρ[j]? =some b:=by
 obtain⟨hj,h1,_⟩:=List.idxOf?_eq_some_iff.1 h
 rw[zq2 hj,h1]
theorem idxOf_none{b:Nat}(h:ρ.idxOf? b=none):b∉ρ:=List.idxOf?_eq_none_iff.1 h
def RawG(P:Program)(f:FuncId)(args:List AV)(bs:List (List AV))(Rr:Ending->(Addr->Option Value)->List Nat->Prop)(bs':List (List AV))(kept:Nat->Prop):Prop:=
 Enters P f∧∀(g:Gh)(w:World)(vals:Array Value),Sto g bs w->(∀t,g.own (.tmp t)=none)->TG g w->RepL g.imm g.σ args vals->
  Calls P f vals w fun e w'=> ∃g',Rr e g'.imm g'.σ∧Sto g' bs' w'∧Ext ⟨w,g⟩ g' w'∧(∀t,g'.own (.tmp t)=none)∧∀(b k:Nat),kept b->g.σ[b]? =some k->w'.heap[k]? =w.heap[k]?
theorem RawG.frameK{bS bS':List (List AV)}{Rr Rr':Ending->(Addr->Option Value)->List Nat->Prop}(h:RawG P f args bS Rr bS' (fun _=>False))(ρ:List Nat)(bs:List (List AV))(hok:zJ8 ρ args bS bs)
 (hR: ∀e imm (σ σ':List Nat),(∀(b k:Nat),σ[b]? =some k->σ'[zE5 ρ bs.length b]? =some k)->Rr e imm σ->Rr' e imm σ'):
 RawG P f (AV.renL (zE5 ρ bs.length) args) bs Rr' (lay (zE5 ρ bs.length) ρ bS' bs) (fun b=>b∉ρ):=by
 obtain⟨hn0,hua,hub,hs⟩:=hok
 have hn:=noDup_spec hn0
 refine⟨h.1,fun g w vals hst h0 htg ha=>?_⟩
 have hlen:=zFY hs
 have hlt: ∀q,q∈ρ->q<bs.length:=fun q hq=>by
  obtain⟨j,hj⟩:=zqd hq
  have hj':j<bS.length:=by rw[<-hlen];exact(zq1 hj).1
  have:=zHF hs j q _ hj (zq2 hj')
  exact(zq1 this).1
 have hltσ: ∀q,q∈ρ->q<g.σ.length:=fun q hq=>by rw[hst.len];exact hlt q hq
 have hσ:=small_σ (g:=g) hltσ
 have hS:=sto_small hst hn hs hub
 have hplace: ∀(j r:Nat),ρ[j]? =some r->zE5 ρ bs.length j=r:=fun j r hr=>by
  simp only[zE5,zq5,hr,Option.getD_some]
 have haS:RepL (g.small ρ).imm (g.small ρ).σ args vals:=by
  refine⟨by rw[ha.1,zCQ],fun i x hx=>?_⟩
  refine(ha.2 i (x.ren (zE5 ρ bs.length)) (by rw[zEI,hx];rfl)).unren (m:=bS.length) (fun b' hb'=>?_) x rfl (zDT hua hx) (by simp[Gh.small,hlen])
  obtain⟨r,hr⟩: ∃r,ρ[b']? =some r:=⟨_,zq2 (by rw[hlen];exact hb')⟩
  rw[hσ,hr,hplace _ _ hr];rfl
 have htS:TG (g.small ρ) w:=⟨htg.1,fun k hk=>by
  obtain⟨j,hj⟩:=zqd hk
  rw[hσ] at hj
  cases hr:ρ[j]? with
  |none=>rw[hr] at hj;cases hj
  |some b=>rw[hr] at hj;exact htg.2.1 k (zq3 hj),fun p k hk=>by
  cases p with
  |tmp t=>cases hk
  |cell j o=>
   simp only[Gh.small] at hk
   split at hk
   ·exact htg.2.2 _ k hk
   ·cases hk⟩
 refine(h.2 (g.small ρ) w vals hS (fun t=>rfl) htS haS).mono ?_
 rintro e w' ⟨gS,hv,hsto,hext,htmp,_⟩
 have hT: ∀k,Fx.T ⟨w,g.small ρ⟩ k->(k∈(g.small ρ).σ)∨∃(j b o:Nat),ρ[j]? =some b∧g.own (.cell b o)=some k:=by
  rintro k (hk|⟨j,o,hk⟩)
  ·exact .inl hk
  ·simp only[Gh.small] at hk
   split at hk
   ·rename_i b hb;exact .inr ⟨j,b,o,hb,hk⟩
   ·cases hk
 have hsub: ∀k,k∈(g.small ρ).σ->k∈g.σ:=fun k hk=>by
  obtain⟨j,hj⟩:=zqd hk
  rw[hσ] at hj
  cases hr:ρ[j]? with
  |none=>rw[hr] at hj;cases hj
  |some b=>rw[hr] at hj;exact zq3 hj
 have hTg: ∀k,Fx.T ⟨w,g.small ρ⟩ k->Fx.T ⟨w,g⟩ k:=fun k hk=>by
  rcases hT k hk with h1|⟨j,b,o,_,h2⟩
  ·exact .inl (hsub k h1)
  ·exact .inr ⟨b,o,h2⟩
 have hmine: ∀k,Fx.mine ⟨w,g.small ρ⟩ k->Fx.mine ⟨w,g⟩ k:=fun k hk=>hk.imp id (hTg k)
 have hpre: ∀(j k:Nat),(g.small ρ).σ[j]? =some k->gS.σ[j]? =some k:=hext.σ
 have hlenS:(g.small ρ).σ.length=ρ.length:=by simp[Gh.small]
 have hgeS:ρ.length<=gS.σ.length:=by
  rcases Nat.lt_or_ge gS.σ.length ρ.length with h1|h1
  ·have h2:=zq2 (show gS.σ.length<(g.small ρ).σ.length by rw[hlenS];exact h1)
   have h3:=(zq1 (hpre _ _ h2)).1
   omega
  ·exact h1
 have hge:ρ.length<=bS'.length:=by rw[<-hsto.len];exact hgeS
 have hpreρ: ∀(j b:Nat),ρ[j]? =some b->gS.σ[j]? =g.σ[b]? :=fun j b hr=>by
  have h1:=hσ j
  rw[hr] at h1
  have hb:=hltσ b (zq3 hr)
  simp only[Option.bind_some] at h1
  rw[zq2 hb] at h1 ⊢
  exact hpre _ _ h1
 have hfr: ∀(b k:Nat),g.σ[b]? =some k->b∉ρ->¬Fx.T ⟨w,g.small ρ⟩ k:=fun b k hk hb ht=>by
  rcases hT k ht with h1|⟨j,b',o,_,h2⟩
  ·obtain⟨j,hj⟩:=zqd h1
   rw[hσ] at hj
   cases hr:ρ[j]? with
   |none=>rw[hr] at hj;cases hj
   |some b'=>
    rw[hr] at hj
    have:=zJw hst.nodup hk hj
    subst this
    exact hb (zq3 hr)
  ·exact(hst.ownσ _ k h2).1 (zq3 hk)
 have hfo: ∀(b o k:Nat),g.own (.cell b o)=some k->b∉ρ->¬Fx.T ⟨w,g.small ρ⟩ k:=fun b o k hk hb ht=>by
  rcases hT k ht with h1|⟨j,b',o',hr,h2⟩
  ·exact(hst.ownσ _ k hk).1 (hsub k h1)
  ·have:=hst.ownInj _ _ k hk h2
   cases this
   exact hb (zq3 hr)
 have hnewmem: ∀k,k∈gS.σ.drop ρ.length->k∈gS.σ∧k∉(g.small ρ).σ:=fun k hk=>by
  refine⟨List.mem_of_mem_drop hk,fun hm=>?_⟩
  obtain⟨j,hj⟩:=zqd hm
  obtain⟨i,hi⟩:=zqd hk
  rw[List.getElem?_drop] at hi
  have:=zJw hsto.nodup (hpre j k hj) hi
  have hj':=(zq1 hj).1
  rw[hlenS] at hj'
  omega
 have hnewold: ∀k,k∈gS.σ.drop ρ.length->k∉g.σ:=fun k hk hm=>by
  obtain⟨h1,h2⟩:=hnewmem k hk
  rcases hext.mineσ k h1 with h3|h3
  ·exact absurd (hst.σ_lt hm) (Nat.not_lt.2 h3)
  ·rcases hT k h3 with h4|⟨j,b,o,_,h5⟩
   ·exact h2 h4
   ·exact(hst.ownσ _ k h5).1 hm
 have hownNew: ∀(j o k:Nat),gS.own (.cell j o)=some k->k∉g.σ:=fun j o k hk hm=>by
  rcases hext.mineOwn _ k hk with h3|h3
  ·exact absurd (hst.σ_lt hm) (Nat.not_lt.2 h3)
  ·rcases hT k h3 with h4|⟨j',b,o',_,h5⟩
   ·obtain⟨i,hi⟩:=zqd h4
    exact(hsto.ownσ _ k hk).1 (zq3 (hpre i k hi))
   ·exact(hst.ownσ _ k h5).1 hm
 have hnum: ∀(j k:Nat),gS.σ[j]? =some k->(g.large gS ρ).σ[zE5 ρ bs.length j]? =some k:=fun j k hk=>by
  simp only[Gh.large]
  cases hr:ρ[j]? with
  |some b=>
   rw[hplace j b hr,List.getElem?_append_left (hltσ b (zq3 hr)),<-hpreρ j b hr];exact hk
  |none=>
   have hj:ρ.length<=j:=List.getElem?_eq_none_iff.1 hr
   simp only[zE5,zq5,hr,Option.getD_none]
   rw[<-hst.len,List.getElem?_append_right (by omega),List.getElem?_drop,show ρ.length+(g.σ.length+(j-ρ.length)-g.σ.length)=j by omega];exact hk
 have hownρ: ∀(j b o:Nat),ρ[j]? =some b->(g.large gS ρ).own (.cell b o)=gS.own (.cell j o):=fun j b o hr=>by
  simp only[Gh.large]
  rw[if_pos (hltσ b (zq3 hr))]
  cases hi:ρ.idxOf? b with
  |none=>exact absurd (zq3 hr) (idxOf_none hi)
  |some i=>rw[zJw hn (idxOf_some hi) hr]
 have hownF: ∀(b o:Nat),b<g.σ.length->b∉ρ->(g.large gS ρ).own (.cell b o)=g.own (.cell b o):=fun b o hb hr=>by
  simp only[Gh.large]
  rw[if_pos hb]
  cases hi:ρ.idxOf? b with
  |none=>rfl
  |some i=>exact absurd (zq3 (idxOf_some hi)) hr
 have hownN: ∀(b o:Nat),g.σ.length<=b->(g.large gS ρ).own (.cell b o)=gS.own (.cell (b-g.σ.length+ρ.length) o):=fun b o hb=>by
  simp only[Gh.large]
  rw[if_neg (by omega)]
 have hcases: ∀(p:Place)(k:Nat),(g.large gS ρ).own p=some k->(∃b o,p=.cell b o∧b<g.σ.length∧b∉ρ∧g.own p=some k)∨
  (∃b o j,p=.cell b o∧gS.own (.cell j o)=some k∧((ρ[j]? =some b∧b<g.σ.length)∨(g.σ.length<=b∧j=b-g.σ.length+ρ.length))):=fun p k hp=>by
  cases p with
  |tmp t=>cases hp
  |cell b o=>
   rcases Nat.lt_or_ge b g.σ.length with hb|hb
   ·by_cases hr:b∈ρ
    ·obtain⟨j,hj⟩:=zqd hr
     rw[hownρ j b o hj] at hp
     exact .inr ⟨b,o,j,rfl,hp,.inl ⟨hj,hb⟩⟩
    ·rw[hownF b o hb hr] at hp
     exact .inl ⟨b,o,rfl,hb,hr,hp⟩
   ·rw[hownN b o hb] at hp
    exact .inr ⟨b,o,_,rfl,hp,.inr ⟨hb,rfl⟩⟩
 have hσlen:(g.large gS ρ).σ.length=bs.length+(bS'.length-ρ.length):=by
  simp only[Gh.large,List.length_append,List.length_drop,hst.len,hsto.len]
 have hExt:Ext ⟨w,g⟩ (g.large gS ρ) w':={
  gfx:=htg.fx
  imm:=hext.imm
  immNew:=fun x u hx=>(hext.immNew x u hx).imp id (hmine _)
  σ:=fun b k hk=>by
   show(g.σ++gS.σ.drop ρ.length)[b]? =some k
   rw[List.getElem?_append_left (zq1 hk).1];exact hk
  mineσ:=fun k hk=>by
   rcases List.mem_append.1 hk with h1|h1
   ·exact .inr (.inl h1)
   ·exact hmine _ (hext.mineσ k (hnewmem k h1).1)
  mineOwn:=fun p k hp=>by
   rcases hcases p k hp with ⟨b,o,rfl,_,_,h3⟩|⟨b,o,j,rfl,h3,_⟩
   ·exact .inr (.inr ⟨b,o,h3⟩)
   ·exact hmine _ (hext.mineOwn _ k h3)
  keep:=fun k hk hnt=>hext.keep k hk fun ht=>hnt (hTg k ht)
  size:=hext.size
  os:=hext.os
  tape:=hext.tape
  output:=hext.output}
 refine⟨g.large gS ρ,hR e _ _ _ hnum hv,?_,hExt,fun t=>rfl,fun b k hb hk=>hext.keep k (hst.σ_lt (zq3 hk)) (hfr b k hk hb)⟩
 have hspare: ∀(b o k:Nat)(a:Addr) lo hi,g.own (.cell b o)=some k->b∉ρ->a.block=k->Spare g.imm w a lo hi->Spare gS.imm w' a lo hi:=fun b o k a lo hi hk hb hak hsp j h1 h2=>by
  obtain⟨p1,⟨u,p2⟩,p3⟩:=hsp j h1 h2
  have hkl:=(hst.ownσ _ k hk).2
  have hnt:=hfo b o k hk hb
  have hh:=hext.keep k hkl hnt
  have hbl:(a.add j).block=k:=by rw[zFe];exact hak
  refine⟨?_,⟨u,?_⟩,?_⟩
  ·cases hc:gS.imm (a.add j) with
   |none=>rfl
   |some u'=>
    rcases hext.immNew _ _ hc with h3|h3
    ·have h3':g.imm (a.add j)=some u':=h3
     rw[p1] at h3';cases h3'
    ·rw[hbl] at h3
     rcases h3 with h4|h4
     ·exact absurd hkl (Nat.not_lt.2 h4)
     ·exact absurd h4 hnt
  ·rw[<-p2];unfold World.cell?;rw[hbl,hh]
  ·rw[<-p3];unfold World.frozen?;rw[hbl,hh]
 refine {gok:=hsto.gok,imm:=hsto.imm,immσ:=fun x u hx hm=>?_,len:=by rw[hσlen,lay_length _ _ _ _ hge],nodup:=?_,blk:=fun b blk k hb hk=>?_,ownσ:=fun p k hp=>?_,ownInj:=fun p q k hp hq=>?_}
 ·rcases List.mem_append.1 hm with h1|h1
  ·obtain⟨b,hb⟩:=zqd h1
   by_cases hr:b∈ρ
   ·obtain⟨j,hj⟩:=zqd hr
    exact hsto.immσ x u hx (zq3 (i:=j) (by rw[hpreρ j b hj];exact hb))
   ·rcases hext.immNew x u hx with h2|h2
    ·exact hst.immσ x u h2 h1
    ·rcases h2 with h3|h3
     ·exact absurd (hst.σ_lt h1) (Nat.not_lt.2 h3)
     ·exact hfr b _ hb hr h3
  ·exact hsto.immσ x u hx (hnewmem _ h1).1
 ·refine List.nodup_append.2 ⟨hst.nodup,hsto.nodup.sublist (List.drop_sublist _ _),fun a ha b hb e=>?_⟩
  subst e;exact hnewold a hb ha
 ·
  have hS': ∀(j:Nat) blkS,bS'[j]? =some blkS->gS.σ[j]? =some k->(∀o,(g.large gS ρ).own (.cell b o)=gS.own (.cell j o))->blk=AV.renL (zE5 ρ bs.length) blkS->
   ∃c ty,w'.heap[k]? =some (.cells c ty (0,0))∧blk.length<=c.size∧∀(o:Nat) x,blk[o]? =some x->x.cellOk ty (blk.length=c.size)∧Rep (g.large gS ρ).imm (g.large gS ρ).σ x (c.getD o undef)∧OwnsBy (g.large gS ρ).imm w' ((g.large gS ρ).own (.cell b o)) x (c.getD o undef):=by
   intro j blkS h1 h2 h3 h4
   obtain⟨c,ty,q1,q2,q3⟩:=hsto.blk j blkS k h1 h2
   refine⟨c,ty,q1,by rw[h4,zCQ];exact q2,fun o x hx=>?_⟩
   rw[h4,zEI] at hx
   cases hy:blkS[o]? with
   |none=>rw[hy] at hx;cases hx
   |some y=>
    rw[hy] at hx;cases hx
    obtain⟨r1,r2,r3⟩:=q3 o y hy
    exact⟨(zIp _ _ _ (by rw[h4,zCQ])).2 r1,r2.ren hnum,by rw[h3];exact(OwnsBy.ren _).2 r3⟩
  rcases Nat.lt_or_ge b g.σ.length with hbl|hbl
  ·have hk':g.σ[b]? =some k:=by
    have:(g.σ++gS.σ.drop ρ.length)[b]? =some k:=hk
    rwa [List.getElem?_append_left hbl] at this
   by_cases hr:b∈ρ
   ·obtain⟨j,hj⟩:=zqd hr
    rw[lay_at _ _ _ _ j b hn hlt hge hj] at hb
    cases hq:bS'[j]? with
    |none=>rw[hq] at hb;cases hb
    |some blkS=>
     rw[hq] at hb
     exact hS' j blkS hq (by rw[hpreρ j b hj];exact hk') (fun o=>hownρ j b o hj) (by cases hb;rfl)
   ·rw[zIR _ _ _ _ b hr (by rw[<-hst.len];exact hbl)] at hb
    obtain⟨c,ty,q1,q2,q3⟩:=hst.blk b blk k hb hk'
    have hh:=hext.keep k (hst.σ_lt (zq3 hk')) (hfr b k hk' hr)
    refine⟨c,ty,by rw[hh];exact q1,q2,fun o x hx=>?_⟩
    obtain⟨r1,r2,r3⟩:=q3 o x hx
    refine⟨r1,r2.mono hext.imm (fun b' k' hb'=>hExt.σ b' k' hb'),?_⟩
    rw[hownF b o hbl hr]
    cases x<;>try exact trivial
    ·intro base n cap hv'
     rcases r3 base n cap hv' with h1|⟨a,h1,h2,⟨h3,h4,m,h5,h6⟩,h7⟩
     ·exact .inl h1
     ·have hkl:=(hst.ownσ _ _ h2).2
      have hnt:=hfo b o _ h2 hr
      refine .inr ⟨a,h1,h2,⟨h3,h4,m,zFl (hext.keep _ hkl hnt) h5,h6⟩,hspare b o _ a _ _ h2 hr rfl h7⟩
    ·intro base n cap hv'
     rcases r3 base n cap hv' with h1|⟨a,h1,h2,h7⟩
     ·exact .inl h1
     ·exact .inr ⟨a,h1,h2,hspare b o _ a _ _ h2 hr rfl h7⟩
    ·intro k0 hv'
     obtain⟨h1,h2⟩:=r3 k0 hv'
     have hkl:=(hst.ownσ _ _ h1).2
     have hnt:=hfo b o _ h1 hr
     exact⟨h1,h2.mono hext.imm (fun es c hm=>by rw[hext.keep _ hkl hnt];exact hm)⟩
    ·intro vs base n cap hv1 hv2
     rcases r3 vs base n cap hv1 hv2 with h1|⟨a,h1,h2,⟨h3,h4,m,h5,h6⟩,h7⟩
     ·exact .inl h1
     ·have hkl:=(hst.ownσ _ _ h2).2
      have hnt:=hfo b o _ h2 hr
      exact .inr ⟨a,h1,h2,⟨h3,h4,m,zFl (hext.keep _ hkl hnt) h5,h6⟩,hspare b o _ a _ _ h2 hr rfl h7⟩
  ·have hk':gS.σ[b-g.σ.length+ρ.length]? =some k:=by
    have:(g.σ++gS.σ.drop ρ.length)[b]? =some k:=hk
    rw[List.getElem?_append_right hbl,List.getElem?_drop] at this
    rw[Nat.add_comm];exact this
   have hbl':bs.length<=b:=by rw[<-hst.len];exact hbl
   obtain⟨d,rfl⟩: ∃d,b=bs.length+d:=⟨b-bs.length,by omega⟩
   rw[lay_new _ _ _ _ d hge] at hb
   have hidx:bs.length+d-g.σ.length+ρ.length=ρ.length+d:=by rw[hst.len];omega
   cases hq:bS'[ρ.length+d]? with
   |none=>rw[hq] at hb;cases hb
   |some blkS=>
    rw[hq] at hb
    exact hS' (ρ.length+d) blkS hq (by rw[<-hidx];exact hk') (fun o=>by rw[hownN _ o hbl,hidx]) (by cases hb;rfl)
 ·rcases hcases p k hp with ⟨b,o,rfl,hb,hr,h3⟩|⟨b,o,j,rfl,h3,h4⟩
  ·obtain⟨q1,q2⟩:=hst.ownσ _ k h3
   refine⟨fun hm=>?_,Nat.lt_of_lt_of_le q2 hext.size⟩
   rcases List.mem_append.1 hm with h5|h5
   ·exact q1 h5
   ·obtain⟨h6,h7⟩:=hnewmem k h5
    rcases hext.mineσ k h6 with h8|h8
    ·exact absurd q2 (Nat.not_lt.2 h8)
    ·exact hfo b o k h3 hr h8
  ·obtain⟨q1,q2⟩:=hsto.ownσ _ k h3
   refine⟨fun hm=>?_,q2⟩
   rcases List.mem_append.1 hm with h5|h5
   ·exact hownNew j o k h3 h5
   ·exact q1 (hnewmem k h5).1
 ·have hmix: ∀(b o j o':Nat),b∉ρ->g.own (.cell b o)=some k->gS.own (.cell j o')=some k->False:=fun b o j o' hr h1 h2=>by
   rcases hext.mineOwn _ k h2 with h3|h3
   ·exact absurd (hst.ownσ _ k h1).2 (Nat.not_lt.2 h3)
   ·exact hfo b o k h1 hr h3
  rcases hcases p k hp with ⟨b,o,rfl,hb,hr,h3⟩|⟨b,o,j,rfl,h3,h4⟩
  ·rcases hcases q k hq with ⟨b',o',rfl,hb',hr',h3'⟩|⟨b',o',j',rfl,h3',h4'⟩
   ·exact hst.ownInj _ _ k h3 h3'
   ·exact(hmix b o j' o' hr h3 h3').elim
  ·rcases hcases q k hq with ⟨b',o',rfl,hb',hr',h3'⟩|⟨b',o',j',rfl,h3',h4'⟩
   ·exact(hmix b' o' j o hr' h3' h3).elim
   ·have:=hsto.ownInj _ _ k h3 h3'
    cases this
    congr 1
    rcases h4 with ⟨h5,h6⟩|⟨h5,h6⟩<;>rcases h4' with ⟨h5',h6'⟩|⟨h5',h6'⟩
    ·rw[h5] at h5';cases h5';rfl
    ·have:=(zq1 h5).1;omega
    ·have:=(zq1 h5').1;omega
    ·omega
theorem Raw.frameK{bS bS':List (List AV)}(h:Raw P f args bS res bS')(ρ:List Nat)(bs:List (List AV))(hok:zJ8 ρ args bS bs):
 RawK P f (AV.renL (zE5 ρ bs.length) args) bs (res.ren (zE5 ρ bs.length)) (lay (zE5 ρ bs.length) ρ bS' bs) (fun b=>b∉ρ):=by
 have h1:=RawG.frameK (Rr:=fun e imm σ=> ∃v,e=.returned v∧Rep imm σ res v) (Rr':=fun e imm σ=> ∃v,e=.returned v∧Rep imm σ (res.ren (zE5 ρ bs.length)) v) (P:=P) (f:=f) (args:=args) (bS:=bS) (bS':=bS')
  ⟨h.1,fun g w vals h1 h2 h3 h4=>(h.2 g w vals h1 h2 h3 h4).mono fun e w' ⟨g',v,e1,e2,e3,e4,e5⟩=>⟨g',⟨v,e1,e2⟩,e3,e4,e5,fun _ _ h=>h.elim⟩⟩ ρ bs hok (fun e imm σ σ' hn ⟨v,e1,e2⟩=>⟨v,e1,e2.ren hn⟩)
 exact⟨h1.1,fun g w vals h2 h3 h4 h5=>(h1.2 g w vals h2 h3 h4 h5).mono fun e w' ⟨g',⟨v,e1,e2⟩,e3,e4,e5,e6⟩=>⟨g',v,e1,e2,e3,e4,e5,e6⟩⟩
attribute [simp] AV.ren AV.renL zE5 lay Stands noDup zJ8
theorem Raw.frame{bS bS':List (List AV)}(h:Raw P f args bS res bS')(ρ:List Nat)(bs:List (List AV))(hok:zJ8 ρ args bS bs):
 Raw P f (AV.renL (zE5 ρ bs.length) args) bs (res.ren (zE5 ρ bs.length)) (lay (zE5 ρ bs.length) ρ bS' bs):=(h.frameK ρ bs hok).raw
theorem leAV_refl(x:AV):leAV x x:=by
 cases x<;>simp
@[simp] theorem leCells_refl: ∀l:List AV,leCells l l
 |[]=>trivial
 |x::l=>⟨leAV_refl x,.inr rfl,leCells_refl l⟩
def row{α:Type}(c:α->List AV)(l:List α):List AV:=(l.map c).flatten
def modC(k:IntKind)(n d:Int):Option Int:=if d≠0∧inR k n then some n else none
theorem modC_ok{k:IntKind}{n d r:Int}(h:modC k n d=some r):(d≠0∧Rng k r)∧n=r:=by
 unfold modC at h;split at h
 ·cases h;exact⟨⟨‹_∧_›.1,‹_∧_›.2⟩,rfl⟩
 ·cases h
section
variable (s:AState) (t:Nat)
@[simp] theorem get_fz:s.fz.get t=(s.get t).fz s.lb s.lblk:=rfl
@[simp] theorem n_fz:s.fz.n=s.n:=rfl
@[simp] theorem base_fz:s.fz.base=s.base:=rfl
@[simp] theorem blocks_fz:s.fz.blocks=(s.blocks.take s.lb).map (AV.fzL s.lb s.lblk):=rfl
@[simp] theorem loans_fz:s.fz.loans t=none:=rfl
end
attribute [simp] AState.lb AState.lblk AV.fz AV.fzL okFz okFzL okFzB FzOk FzR DropOk underBl AState.dropB
def Ghost(s s':AState):Prop:= ∀F g a w,Sim F g s a w->∃g',Sim F g' s' a w
theorem Ghost.refl(s:AState):Ghost s s:=fun F g a w h=>⟨g,h⟩
def FreeSteps(P:Program)(Inv:(Nat->Bool)->AState->Prop):Nat->List Oper->Prop
 |_,[]=>True
 |k,o::l=>(∀L s,L k=false->(zDf o).all L=true->Inv L s->AStep P o s fun s'=>Inv (fun j=>if j=k then true else L j) s')∧FreeSteps P Inv (k+1) l
theorem FreeSteps.get{Inv:(Nat->Bool)->AState->Prop}: ∀{l:List Oper}{k:Nat},FreeSteps P Inv k l->∀{i:Nat}{o:Oper},l[i]? =some o->
 ∀L s,L (k+i)=false->(zDf o).all L=true->Inv L s->AStep P o s fun s'=>Inv (fun j=>if j=k+i then true else L j) s'
 |[],k,_,i,o,hi=>by simp at hi
 |x::l,k,h,0,o,hi=>by simp at hi;subst hi;exact h.1
 |x::l,k,h,i+1,o,hi=>by
  have:=FreeSteps.get h.2 (i:=i) (o:=o) (by simpa using hi)
  rwa [show k+1+i=k+(i+1) by omega] at this
def freeOk(ops:Array Oper)(r:Nat):Bool:=decide (r<=ops.size)&&(ops.toList.zipIdx.all fun(o,j)=>o.guard.isNone&&(zDf o).all (·<j))&&
 (List.range ops.size).all fun j=>decide (j<r)||(List.range j).all fun k=>((zDQ ops.toList).getD j []).contains k
theorem any_free{Q:Exit->Act->World->Prop}{Inv:(Nat->Bool)->AState->Prop}(hgd: ∀(j:Nat) o,ops[j]? =some o->o.guard=none∧∀e,e∈zDf o->e<j)
 (step: ∀(i:Nat) o L s,ops[i]? =some o->L i=false->(∀e,e∈zDf o->L e=true)->(∀k,k∈(zDQ ops.toList).getD i []->L k=true)->Inv L s->∃s1,Ghost s s1∧AStep P o s1 fun s2=>Inv (fun j=>if j=i then true else L j) s2)
 (fin: ∀L s,(∀i,i<ops.size->L i=true)->Inv L s->∀g a w,Sim F g s a w->Q .normal a w): ∀(fuel:Nat)(listed:Array Bool)(s:AState)(g:Gh)(a:Act)(w:World),
 listed.size=ops.size->((List.range ops.size).filter fun i=> !listed.getD i true).length<=fuel->(∀(j:Nat) o,ops[j]? =some o->listed.getD j false=true->∀e,e∈zDf o->listed.getD e false=true)->
 Inv (fun i=>listed.getD i false) s->Sim F g s a w->wpAny P .any ops Q fuel listed a w:=by
 have hin: ∀(listed:Array Bool),listed.size=ops.size->∀i,i<ops.size->listed.getD i true=listed.getD i false:=fun listed hsz i hi=>by
  rw[zq6,zq6,zqe (by omega)];rfl
 have hall: ∀(listed:Array Bool),listed.size=ops.size->Region.ready .any ops listed=[]->∀i,i<ops.size->listed.getD i false=true:=fun listed hsz hr=>by
  intro i
  induction i using Nat.strongRecOn with
  |_ i ih=>
   intro hi
   cases hv:listed.getD i false with
   |true=>rfl
   |false=>
    have hmem:i∈Region.ready .any ops listed:=mem_ready.2 ⟨by rw[hin listed hsz i hi];exact hv,ops[i],zqe hi,fun e he hb=>by
     have hlt:=(hgd i _ (zqe hi)).2 e.on (List.mem_map.2 ⟨e,List.mem_filter.2 ⟨by simpa using he,hb⟩,rfl⟩)
     exact ih e.on hlt (by omega)⟩
    rw[hr] at hmem;cases hmem
 intro fuel
 induction fuel with
 |zero=>
  intro listed s g a w hsz hlen hcl hI hs
  have hnil:((List.range ops.size).filter fun i=> !listed.getD i true)=[]:=List.eq_nil_of_length_eq_zero (by omega)
  have hr:Region.ready .any ops listed=[]:=by
   cases hr:Region.ready .any ops listed with
   |nil=>rfl
   |cons i l=>
    have hi:i∈Region.ready .any ops listed:=by rw[hr];exact zq9 ..
    obtain⟨h1,o,h2,_⟩:=mem_ready.1 hi
    have:i∈((List.range ops.size).filter fun i=> !listed.getD i true):=List.mem_filter.2 ⟨List.mem_range.2 (lt_of_getElem? h2),by simp[h1]⟩
    rw[hnil] at this;cases this
  exact⟨hr,fin _ s (hall listed hsz hr) hI g a w hs⟩
 |succ fuel ih=>
  intro listed s g a w hsz hlen hcl hI hs
  refine⟨fun hr=>fin _ s (hall listed hsz hr) hI g a w hs,fun i hi=>?_⟩
  obtain⟨h1,o,h2,h3⟩:=mem_ready.1 hi
  have hilt:=lt_of_getElem? h2
  obtain⟨hgn,_⟩:=hgd i o h2
  have hed: ∀e,e∈zDf o->listed.getD e false=true:=fun e he=>by
   obtain⟨ed,hed,rfl⟩:=List.mem_map.1 he
   rw[List.mem_filter] at hed
   exact h3 ed (by simpa using hed.1) hed.2
  have hanc: ∀k,k∈(zDQ ops.toList).getD i []->listed.getD k false=true:=fun k hk=>
   zIE (ops:=ops.toList) (L:=fun j=>listed.getD j false=true) (fun j o hj=>hcl j o (by simpa using hj)) i o (by simpa using h2) hed k hk
  obtain⟨s0,hgh,hstep⟩:=step i o (fun i=>listed.getD i false) s h2 (by rw[<-hin listed hsz i hilt];exact h1) hed hanc hI
  obtain⟨g0,hs0⟩:=hgh F g a w hs
  obtain⟨s1,hs1,hI1⟩:=hstep.ok
  obtain⟨u1,u2,e1,e2,e3⟩:=zFU (p:=fun i=> !listed.getD i true) hilt (by simp[h1])
  have hfil:((List.range ops.size).filter fun k=> !(listed.setIfInBounds i true).getD k true)=u1++u2:=by
   rw[<-e3]
   apply List.filter_congr
   intro k hk
   rw[List.mem_range] at hk
   rw[zDS (n:=0) listed i k true (by omega)]
   by_cases e:k=i
   ·simp[e]
   ·simp[e]
  have hL: ∀k,(listed.setIfInBounds i true).getD k false=if k=i then true else listed.getD k false:=fun k=>by
   rw[zq6,Array.getElem?_setIfInBounds]
   by_cases e:k=i
   ·subst e;simp[hsz,hilt]
   ·simp[e,Ne.symm e,zq6]
  have hgo:=hs1 F g0 a w hs0 (wpAny P .any ops Q fuel (listed.setIfInBounds i true)) Q fun g' a' w' hs'=>
   ih (listed.setIfInBounds i true) s1 g' a' w' (by simpa using hsz) (by
    rw[hfil]
    have:=hlen
    rw[e1] at this
    simp only[List.length_append,List.length_cons] at this ⊢
    omega) (fun j oj hj hl e he=>by
    rw[hL] at hl ⊢
    split
    ·rfl
    ·split at hl
     ·rename_i hji
      subst hji
      rw[h2] at hj;cases hj
      exact hed e he
     ·exact hcl j oj hj hl e he) (by rw[funext hL];exact hI1) hs'
  unfold wpOp
  simp only[h2]
  rw[if_pos (by simp[Region.wanted,hgn])]
  exact .inl hgo
theorem ResK.mono{d:Option Nat}{r:Option Res}{K K':AState->Prop}(hk: ∀s,K s->K' s)(h:ResK s d r K):ResK s d r K':=by
 unfold ResK at h ⊢
 split
 ·exact⟨h.1,hk _ h.2⟩
 ·exact h
theorem CallF.mono{d:Option Nat}{K K':AState->Prop}(hk: ∀s,K s->K' s): ∀(k:Nat)(args args0:List AV)(s:AState),CallF P f k args args0 s d K->CallF P f k args args0 s d K'
 |0,args,args0,s,h=>by
  rcases h with ⟨res,h1,h2,h3,h4⟩|⟨res,bs',h1,h2,h3⟩|⟨ec,l,h1,h2,h3⟩
  ·exact .inl ⟨res,h1,h2,h3,hk _ h4⟩
  ·exact .inr (.inl ⟨res,bs',h1,h2,hk _ h3⟩)
  ·exact .inr (.inr ⟨ec,l,h1,h2,hk _ h3⟩)
 |k+1,args,args0,s,h=>⟨h.1,CallF.mono hk k _ _ _ h.2⟩
theorem AStep.mono{K K':AState->Prop}(h:AStep P o s K)(hk: ∀s,K s->K' s):AStep P o s K':=by
 unfold AStep at h ⊢
 split
 ·rename_i c ho
  rw[ho] at h
  simp only at h
  split
  ·rename_i x hc
   rw[hc] at h
   simp only at h
   split
   ·rename_i f first captured hx
    rw[hx] at h
    rcases h with ⟨k,h⟩|⟨i,y,ec,l,r,h1,h2,h3,h4,h5,h7⟩
    ·exact .inl ⟨k,CallF.mono hk k _ _ _ h⟩
    ·exact .inr ⟨i,y,ec,l,r,h1,h2,h3,h4,h5,hk _ h7⟩
   ·rename_i hn
    split at h
    ·rename_i f first captured hx;exact(hn _ _ _ hx).elim
    ·exact h
  ·rename_i b hc
   rw[hc] at h
   exact ResK.mono hk h
  ·rename_i h1 h2
   split at h
   ·rename_i x hx;exact(h1 x hx).elim
   ·rename_i b hb;exact(h2 b hb).elim
   ·exact h
 ·rename_i t n ps ho
  rw[ho] at h
  rcases h with h|⟨h1,h2,h⟩
  ·exact .inl (ResK.mono hk h)
  ·exact .inr ⟨h1,h2,ResK.mono hk h⟩
 ·rename_i t x lo ho
  rw[ho] at h
  simp only[TailV] at h ⊢
  split
  ·rename_i ec l hx;rw[hx] at h;exact ResK.mono hk h
  ·rename_i hn
   split at h
   ·rename_i ec l hx;exact(hn _ _ hx).elim
   ·exact ResK.mono hk h
 ·rename_i t ho
  rw[ho] at h
  exact ResK.mono hk h
 ·rename_i t x i ok ho
  rw[ho] at h
  exact ResK.mono hk h
 ·rename_i t x i v ho
  rw[ho] at h
  exact ResK.mono hk h
 ·rename_i t x i v ho
  rw[ho] at h
  exact ResK.mono hk h
 ·rename_i x i ho
  rw[ho] at h
  exact ResK.mono hk h
 ·rename_i h1 h2 h3 h4 h5 h6 h7 h8
  split at h
  ·rename_i c hc;exact(h1 _ hc).elim
  ·rename_i t n ps hc;exact(h2 _ _ _ hc).elim
  ·rename_i t x lo hc;exact(h3 _ _ _ hc).elim
  ·rename_i t hc;exact(h4 _ hc).elim
  ·rename_i t x i ok hc;exact(h5 _ _ _ _ hc).elim
  ·rename_i t x i v hc;exact(h6 _ _ _ _ hc).elim
  ·rename_i t x i v hc;exact(h7 _ _ _ _ hc).elim
  ·rename_i x i hc;exact(h8 _ _ hc).elim
  ·exact ResK.mono hk h
theorem zGt(hm:P.follows .mixedOrders=true)(r:Nat)(Inv:(Nat->Bool)->AState->Prop)(hok:freeOk ops r=true)
 (h0:Inv (fun _=>false) s.fresh) (hst:FreeSteps P Inv 0 (ops.toList.take r))
 (fin: ∀L s',(∀i,i<r->L i=true)->Inv L s'->∃s'',Ghost s' s''∧AOps P ops (Q .normal) (ops.toList.drop r) s''):AWp P (.region id ops true) Q s:=fun F g a w hs=>by
 simp only[freeOk,zq7] at hok
 obtain⟨⟨hrs,hok1⟩,hok2⟩:=hok
 have hrs:r<=ops.size:=by simpa using hrs
 have hgd: ∀(j:Nat) o,ops[j]? =some o->o.guard=none∧∀e,e∈zDf o->e<j:=fun j o hj=>by
  have:=(zq8 hok1) (o,j) (zHq hj)
  simp only[zq7,Option.isNone_iff_eq_none,List.all_eq_true,decide_eq_true_eq] at this
  exact this
 have htl: ∀j,j<ops.size->r<=j->∀k,k<j->k∈(zDQ ops.toList).getD j []:=fun j hj hr k hk=>by
  have:=(zq8 hok2) j (List.mem_range.2 hj)
  simp only[Bool.or_eq_true,decide_eq_true_eq] at this
  rcases this with h|h
  ·omega
  ·simpa using(zq8 h) k (List.mem_range.2 hk)
 let Inv':(Nat->Bool)->AState->Prop:=fun L s=>((∀j,r<=j->L j=false)∧Inv L s)∨∃k,r<k∧(∀j,j<k->L j=true)∧(∀j,k<=j->L j=false)∧AOps P ops (Q .normal) (ops.toList.drop k) s
 have hdrop: ∀(i:Nat) o,ops[i]? =some o->ops.toList.drop i=o::ops.toList.drop (i+1):=fun i o h=>by
  have hi:i<ops.toList.length:=by simpa using lt_of_getElem? h
  rw[List.drop_eq_getElem_cons hi]
  congr 1
  have:=zq2 hi
  rw[Array.getElem?_toList,h] at this
  exact(zqa this).symm
 have hops: ∀(i:Nat) o s,ops[i]? =some o->AOps P ops (Q .normal) (ops.toList.drop i) s->AStep P o s fun s2=>AOps P ops (Q .normal) (ops.toList.drop (i+1)) s2:=fun i o s h hA=>by
  rw[hdrop i o h] at hA
  simp only[AOps,(hgd i o h).1] at hA
  exact hA
 have mono: ∀(o:Oper)(s:AState)(K K':AState->Prop),AStep P o s K->(∀s,K s->K' s)->AStep P o s K':=fun o s K K' h hk=>h.mono hk
 refine wp_region_any hm (any_free (F:=F) (Inv:=Inv') hgd ?_ ?_ ops.size _ s.fresh g a _ (by simp) (Nat.le_trans (List.length_filter_le _ _) (by simp)) ?_ ?_ hs.fresh.drew)
 ·intro i o L s hi hLi hed hanc hI
  rcases hI with ⟨hL,hI⟩|⟨k,hk,hk1,hk2,hA⟩
  ·by_cases hir:i<r
   ·refine⟨s,.refl s,?_⟩
    have h1:=FreeSteps.get hst (i:=i) (o:=o) (by rw[List.getElem?_take,if_pos hir];simpa using hi) L s (by simpa using hLi) (List.all_eq_true.2 hed) hI
    simp only[Nat.zero_add] at h1
    exact mono o s _ _ h1 fun s2 h2=>.inl ⟨fun j hj=>by show(if j=i then true else L j)=false;rw[if_neg (by omega)];exact hL j hj,h2⟩
   ·have hlt:=lt_of_getElem? hi
    have hir':i=r:=by
     rcases Nat.lt_or_ge r i with h|h
     ·have:=hanc r (htl i hlt (by omega) r h)
      rw[hL r (Nat.le_refl _)] at this;cases this
     ·omega
    subst hir'
    have hLall: ∀j,j<i->L j=true:=fun j hj=>hanc j (htl i hlt (Nat.le_refl _) j hj)
    obtain⟨s'',hgh,hA⟩:=fin L s hLall hI
    refine⟨s'',hgh,mono o s'' _ _ (hops i o s'' hi hA) fun s2 h2=>.inr ⟨i+1,by omega,fun j hj=>?_,fun j hj=>?_,h2⟩⟩
    ·show(if j=i then true else L j)=true
     split
     ·rfl
     ·exact hLall j (by omega)
    ·show(if j=i then true else L j)=false
     rw[if_neg (by omega)];exact hL j (by omega)
  ·have hlt:=lt_of_getElem? hi
   have hik:k<=i:=by
    rcases Nat.lt_or_ge i k with h|h
    ·rw[hk1 i h] at hLi;cases hLi
    ·exact h
   have hik':i=k:=by
    rcases Nat.lt_or_ge k i with h|h
    ·have:=hanc k (htl i hlt (by omega) k h)
     rw[hk2 k (Nat.le_refl _)] at this;cases this
    ·omega
   subst hik'
   refine⟨s,.refl s,mono o s _ _ (hops i o s hi hA) fun s2 h2=>.inr ⟨i+1,by omega,fun j hj=>?_,fun j hj=>?_,h2⟩⟩
   ·show(if j=i then true else L j)=true
    split
    ·rfl
    ·exact hk1 j (by omega)
   ·show(if j=i then true else L j)=false
    rw[if_neg (by omega)];exact hk2 j (by omega)
 ·intro L s hL hI g a w hs
  rcases hI with ⟨hLr,hI⟩|⟨k,hk,hk1,hk2,hA⟩
  ·have hsz:ops.size<=r:=by
    rcases Nat.lt_or_ge r ops.size with h|h
    ·have:=hL r h
     rw[hLr r (Nat.le_refl _)] at this;cases this
    ·exact h
   obtain⟨s'',hgh,hA⟩:=fin L s (fun i hi=>hL i (by omega)) hI
   rw[List.drop_eq_nil_of_le (by simpa using hsz)] at hA
   obtain⟨g',hs'⟩:=hgh F g a w hs
   exact⟨g',s'',hs',hA⟩
  ·have hsz:ops.size<=k:=by
    rcases Nat.lt_or_ge k ops.size with h|h
    ·have:=hL k h
     rw[hk2 k (Nat.le_refl _)] at this;cases this
    ·exact h
   rw[List.drop_eq_nil_of_le (by simpa using hsz)] at hA
   exact⟨g,s,hs,hA⟩
 ·intro j o hj hl
  rw[zq6,Array.getElem?_replicate] at hl
  split at hl<;>cases hl
 ·refine .inl ⟨fun j _=>?_,?_⟩
  ·show(Array.replicate ops.size false).getD j false=false
   rw[zq6,Array.getElem?_replicate];split<;>rfl
  ·have:(fun i=>(Array.replicate ops.size false).getD i false)=fun _=>false:=by
    funext i
    rw[zq6,Array.getElem?_replicate];split<;>rfl
   show Inv (fun i=>(Array.replicate ops.size false).getD i false) s.fresh
   rw[this];exact h0
structure PermOk (f fi:Nat->Nat) (n base:Nat):Prop where
 lt: ∀b,b<n->f b<n∧fi b<n
 inv: ∀b,b<n->fi (f b)=b∧f (fi b)=b
 fix: ∀b,b<base->f b=b
 hb:base<=n
def AState.perm(f fi:Nat->Nat)(s:AState):AState:=
 {tmps:=fun t=>(s.tmps t).ren f,loans:=fun _=>none,n:=s.n,base:=s.base,blocks:=(List.range s.blocks.length).map fun j=>AV.renL f (s.blocks.getD (fi j) [])}
def Gh.permOwn(g:Gh)(n:Nat)(fi:Nat->Nat):Place->Option Nat
 |.cell b o=>if b<n then g.own (.cell (fi b) o) else none
 |.tmp t=>g.own (.tmp t)
def Place.pre(fi:Nat->Nat):Place->Place
 |.cell b o=>.cell (fi b) o
 |.tmp t=>.tmp t
theorem Sim.perm(h:Sim F g s a w){f fi:Nat->Nat}(hp:PermOk f fi s.blocks.length s.base): ∃g',Sim F g' (s.perm f fi) a w:=by
 have hl:=h.sto.len
 have hσ: ∀(b k:Nat),g.σ[b]? =some k->((List.range s.blocks.length).map fun j=>g.σ.getD (fi j) 0)[f b]? =some k:=fun b k hb=>by
  have hlt:=(zq1 hb).1
  rw[List.getElem?_map,List.getElem?_range (hp.lt b (by omega)).1]
  simp only[Option.map_some,(hp.inv b (by omega)).1]
  rw[zq5,hb];rfl
 have hσ': ∀(i k:Nat),((List.range s.blocks.length).map fun j=>g.σ.getD (fi j) 0)[i]? =some k->i<s.blocks.length∧g.σ[fi i]? =some k:=fun i k hi=>by
  have hlt:=(zq1 hi).1
  simp only[zq4,List.length_range] at hlt
  rw[List.getElem?_map,List.getElem?_range hlt] at hi
  refine⟨hlt,?_⟩
  rw[<-hi]
  exact zCj 0 (by rw[hl];exact(hp.lt i hlt).2)
 have hmem: ∀k,k∈((List.range s.blocks.length).map fun j=>g.σ.getD (fi j) 0)->k∈g.σ:=fun k hk=>by
  obtain⟨i,hi⟩:=zqd hk
  exact zq3 (hσ' i k hi).2
 have hown: ∀p k,g.permOwn s.blocks.length fi p=some k->∃q,g.own q=some k∧(∀p',g.permOwn s.blocks.length fi p'=some k->p'=p):=fun p k hk=>by
  have key: ∀p,g.permOwn s.blocks.length fi p=some k->g.own (p.pre fi)=some k∧(∀b o,p=.cell b o->b<s.blocks.length):=fun p hk=>by
   cases p with
   |tmp t=>exact⟨hk,fun b o e=>by cases e⟩
   |cell b o=>
    simp only[Gh.permOwn] at hk
    split at hk
    ·rename_i hlt;exact⟨hk,fun b' o' e=>by cases e;exact hlt⟩
    ·cases hk
  obtain⟨h1,h2⟩:=key p hk
  refine⟨_,h1,fun p' hk'=>?_⟩
  obtain⟨h3,h4⟩:=key p' hk'
  have:=h.sto.ownInj _ _ k h3 h1
  cases p with
  |tmp t=>
   cases p' with
   |tmp t'=>exact this
   |cell b' o'=>cases this
  |cell b o=>
   cases p' with
   |tmp t'=>cases this
   |cell b' o'=>
    simp only[Place.pre,Place.cell.injEq] at this
    have e1:=(hp.inv b (h2 b o rfl)).2
    have e2:=(hp.inv b' (h4 b' o' rfl)).2
    rw[<-this.1,e2] at e1
    rw[e1,this.2]
 refine⟨{g with σ:=(List.range s.blocks.length).map fun j=>g.σ.getD (fi j) 0,own:=g.permOwn s.blocks.length fi},?_⟩
 exact {
  ext:={h.ext with
   imm:=h.ext.imm
   immNew:=h.ext.immNew
   σ:=fun b k hb=>by
    have h1:=h.ext.σ b k hb
    have h2:=(zq1 hb).1
    have h3:=hσ b k h1
    rw[hp.fix b (by have:=h.base;omega)] at h3
    exact h3
   mineσ:=fun k hk=>h.ext.mineσ k (hmem k hk)
   mineOwn:=fun p k hk=>by obtain⟨q,hq,_⟩:=hown p k hk;exact h.ext.mineOwn q k hq}
  sto:={
   gok:=h.sto.gok
   imm:=h.sto.imm
   immσ:=fun x v hx hm=>h.sto.immσ x v hx (hmem _ hm)
   len:=by simp[AState.perm]
   nodup:=by
    show((List.range s.blocks.length).map fun j=>g.σ.getD (fi j) 0).Nodup
    unfold List.Nodup
    rw[List.pairwise_iff_getElem]
    intro i j hi hj hij
    simp only[zq4,List.length_range] at hi hj
    simp only[List.getElem_map,List.getElem_range]
    intro e
    have a1:fi i<g.σ.length:=by rw[hl];exact(hp.lt i hi).2
    have a2:fi j<g.σ.length:=by rw[hl];exact(hp.lt j hj).2
    have b1:=zCj 0 a1
    have b2:=zCj 0 a2
    rw[e] at b1
    obtain⟨_,c1⟩:=zq1 b1
    obtain⟨_,c2⟩:=zq1 b2
    have e2:=zGd h.sto.nodup a1 a2 (by rw[c1,c2])
    have d1:=(hp.inv i hi).2
    have d2:=(hp.inv j hj).2
    rw[e2,d2] at d1
    omega
   blk:=fun i blk k hb hk=>by
    obtain⟨hlt,hk2⟩:=hσ' i k hk
    simp only[AState.perm,List.getElem?_map,List.getElem?_range hlt,Option.map_some,Option.some.injEq] at hb
    subst hb
    obtain⟨c,ty,e1,e2,e3⟩:=h.sto.blk (fi i) _ k (zCj [] (hp.lt i hlt).2) hk2
    refine⟨c,ty,e1,by rw[zCQ];exact e2,fun j x hx=>?_⟩
    rw[zEI] at hx
    cases hy:(s.blocks.getD (fi i) [])[j]? with
    |none=>rw[hy] at hx;cases hx
    |some y=>
     rw[hy] at hx;cases hx
     obtain⟨q1,q2,q3⟩:=e3 j y hy
     refine⟨(zIp _ _ _ (by rw[zCQ])).2 q1,q2.ren hσ,?_⟩
     show OwnsBy g.imm w (if i<s.blocks.length then g.own (.cell (fi i) j) else none) _ _
     rw[if_pos hlt]
     exact(OwnsBy.ren _).2 q3
   ownσ:=fun p k hk=>by obtain⟨q,hq,_⟩:=hown p k hk;exact⟨fun hm=>(h.sto.ownσ q k hq).1 (hmem _ hm),(h.sto.ownσ q k hq).2⟩
   ownInj:=fun p q k hp' hq=>by obtain⟨_,_,h2⟩:=hown q k hq;exact h2 p hp'}
  size:=h.size
  tmps:=fun t=>⟨(h.tmps t).1.ren hσ,(OwnsBy.ren _).2 (h.tmps t).2⟩
  loans:=fun t p hp=>by cases hp
  defers:=h.defers
  base:=h.base}
theorem zIv: ∀(n:Nat)(P:List Nat),P.Nodup->P.length=n->(∀x,x∈P->x<n)->∀x,x<n->x∈P
 |0,_,_,_,_,x,hx=>by omega
 |n+1,P,h1,h2,h3,x,hx=>by
  by_cases hn:n∈P
  ·by_cases e:x=n
   ·rw[e];exact hn
   ·have:=zIv n (P.erase n) (h1.erase n) (by rw[List.length_erase_of_mem hn];omega) (fun y hy=>by
     have h4:=(h1.mem_erase_iff).1 hy
     have:=h3 y h4.2
     have:=h4.1
     omega) x (by omega)
    exact List.mem_of_mem_erase this
  ·cases P with
   |nil=>simp at h2
   |cons y P=>
    rw[List.nodup_cons] at h1
    have hlt: ∀z,z∈y::P->z<n:=fun z hz=>by
     have:=h3 z hz
     have:z≠n:=fun e=>hn (by rw[<-e];exact hz)
     omega
    have:=zIv n P h1.2 (by simpa using h2) (fun z hz=>hlt z (zqc _ hz)) y (hlt y (zq9 ..))
    exact(h1.1 this).elim
structure NPos (N:List (Nat×List AV)) (L:Nat->Bool) (pos:Nat->Nat) (bl:List (List AV)):Prop where
 len:bl.length=(N.filter fun q=>L q.1).length
 at_: ∀q,q∈N->L q.1=true->bl[pos q.1]? =some q.2
 inj: ∀q q',q∈N->q'∈N->L q.1=true->L q'.1=true->pos q.1=pos q'.1->q.1=q'.1
theorem NPos.start(N:List (Nat×List AV))(pos:Nat->Nat):NPos N (fun _=>false) pos []:=
 ⟨by rw[List.filter_eq_nil_iff.2 (by simp)];rfl,fun _ _ h=>(by cases h),fun _ _ _ _ h=>(by cases h)⟩
theorem filter_upd{L:Nat->Bool}{i:Nat}(hL:L i=false): ∀(N:List (Nat×List AV)),(N.map (·.1)).Nodup->(∀q,q∈N->q.1≠i)->(N.filter fun q=>if q.1=i then true else L q.1)=N.filter fun q=>L q.1
 |[],_,_=>rfl
 |q::N,hnd,hne=>by
  have h1:=hne q (zq9 ..)
  have:=filter_upd hL N (List.nodup_cons.1 hnd).2 (fun q hq=>hne q (zqc _ hq))
  simp only[List.filter_cons,if_neg h1,this]
theorem zJz{L:Nat->Bool}{i:Nat}(hL:L i=false): ∀(N:List (Nat×List AV)),(N.map (·.1)).Nodup->i∈N.map (·.1)->(N.filter fun q=>if q.1=i then true else L q.1).length=(N.filter fun q=>L q.1).length+1
 |[],_,h=>by simp at h
 |q::N,hnd,hm=>by
  rw[List.map_cons,List.nodup_cons] at hnd
  by_cases e:q.1=i
  ·have:=filter_upd (i:=i) hL N hnd.2 (fun q' hq' e'=>hnd.1 (by rw[e,<-e'];exact List.mem_map.2 ⟨q',hq',rfl⟩))
   simp only[List.filter_cons,e,if_true,hL,Bool.false_eq_true,if_false,this,List.length_cons]
  ·have hm':i∈N.map (·.1):=by
    rcases List.mem_cons.1 hm with h|h
    ·exact(e h.symm).elim
    ·exact h
   have:=zJz hL N hnd.2 hm'
   simp only[List.filter_cons,if_neg e]
   split
   ·simp only[List.length_cons,this]
   ·exact this
theorem NPos.push{N:List (Nat×List AV)}{L:Nat->Bool}{pos:Nat->Nat}{bl:List (List AV)}(h:NPos N L pos bl)(hq:(i,blk)∈N)(hnd:(N.map (·.1)).Nodup)(hL:L i=false):
 NPos N (fun j=>if j=i then true else L j) (fun j=>if j=i then bl.length else pos j) (bl++[blk]):=by
 have hlt: ∀q,q∈N->L q.1=true->pos q.1<bl.length:=fun q hq hl=>(zq1 (h.at_ q hq hl)).1
 have huniq: ∀q,q∈N->q.1=i->q.2=blk:=fun q hq' e=>by
  obtain⟨a,ha⟩:=zqd hq
  obtain⟨b,hb⟩:=zqd hq'
  have h1:(N.map (·.1))[a]? =some i:=by rw[List.getElem?_map,ha];rfl
  have h2:(N.map (·.1))[b]? =some i:=by rw[List.getElem?_map,hb];simp[e]
  obtain⟨l1,e1⟩:=zq1 h1
  obtain⟨l2,e2⟩:=zq1 h2
  have:=zGd hnd l1 l2 (by rw[e1,e2])
  subst this
  rw[ha] at hb;cases hb;rfl
 refine⟨?_,fun q hq' hl=>?_,fun q q' hq1 hq2 hl1 hl2 hp=>?_⟩
 ·rw[List.length_append,zJz hL N hnd (List.mem_map.2 ⟨_,hq,rfl⟩),h.len];rfl
 ·by_cases e:q.1=i
  ·simp only[if_pos e]
   rw[huniq q hq' e];simp
  ·simp only[if_neg e] at hl ⊢
   rw[List.getElem?_append_left (hlt q hq' hl)];exact h.at_ q hq' hl
 ·by_cases e1:q.1=i<;>by_cases e2:q'.1=i
  ·rw[e1,e2]
  ·simp only[if_pos e1,if_neg e2] at hp hl2
   have:=hlt q' hq2 hl2;omega
  ·simp only[if_neg e1,if_pos e2] at hp hl1
   have:=hlt q hq1 hl1;omega
  ·simp only[if_neg e1,if_neg e2] at hp hl1 hl2
   exact h.inj q q' hq1 hq2 hl1 hl2 hp
theorem NPos.skip{N:List (Nat×List AV)}{L:Nat->Bool}{pos:Nat->Nat}{bl:List (List AV)}(h:NPos N L pos bl)(hi:N.all (fun q=>q.1 !=i)=true):NPos N (fun j=>if j=i then true else L j) pos bl:=by
 have hne: ∀q,q∈N->q.1≠i:=fun q hq=>by have:=(zq8 hi) q hq;simpa using this
 refine⟨?_,fun q hq hl=>?_,fun q q' hq1 hq2 hl1 hl2 hp=>?_⟩
 ·rw[h.len]
  congr 1
  apply List.filter_congr
  intro q hq
  rw[if_neg (hne q hq)]
 ·simp only[if_neg (hne q hq)] at hl;exact h.at_ q hq hl
 ·simp only[if_neg (hne q hq1)] at hl1
  simp only[if_neg (hne q' hq2)] at hl2
  exact h.inj q q' hq1 hq2 hl1 hl2 hp
def AState.renamed(s:AState)(f:Nat->Nat)(bs:List (List AV)):AState:=⟨fun t=>(s.tmps t).ren f,fun _=>none,s.n,s.base,bs⟩
section
variable (s:AState) (f:Nat->Nat) (bs:List (List AV)) (t:Nat)
@[simp] theorem get_renamed:(s.renamed f bs).get t=(s.get t).ren f:=rfl
@[simp] theorem n_renamed:(s.renamed f bs).n=s.n:=rfl
@[simp] theorem base_renamed:(s.renamed f bs).base=s.base:=rfl
@[simp] theorem blocks_renamed:(s.renamed f bs).blocks=bs:=rfl
@[simp] theorem loans_renamed:(s.renamed f bs).loans t=none:=rfl
end
theorem NPos.ghost{N:List (Nat×List AV)}{L:Nat->Bool}{pos:Nat->Nat}{bl pre:List (List AV)}(h:NPos N L pos bl)(hnd:(N.map (·.1)).Nodup)(hall: ∀q,q∈N->L q.1=true)(hb:s.blocks=pre++bl)(hbase:s.base<=pre.length):
 ∃f:Nat->Nat,(∀b,b<pre.length->f b=b)∧(∀(k:Nat) q,N[k]? =some q->f (pre.length+pos q.1)=pre.length+k)∧
  Ghost s (s.renamed f (pre.map (AV.renL f)++N.map fun q=>AV.renL f q.2)):=by
 have hlen:bl.length=N.length:=by
  rw[h.len,List.filter_eq_self.2 (fun q hq=>hall q hq)]
 generalize hP:N.map (fun q=>pos q.1)=P
 have hPl:P.length=N.length:=by rw[<-hP,zq4]
 have hPget: ∀(k:Nat) q,N[k]? =some q->P[k]? =some (pos q.1):=fun k q hk=>by rw[<-hP,List.getElem?_map,hk];rfl
 have hlt: ∀q,q∈N->pos q.1<N.length:=fun q hq=>by rw[<-hlen];exact(zq1 (h.at_ q hq (hall q hq))).1
 have hPnd:P.Nodup:=by
  unfold List.Nodup
  rw[List.pairwise_iff_getElem]
  intro i j hi hj hij e
  rw[hPl] at hi hj
  have a1:=hPget i _ (zq2 hi)
  have a2:=hPget j _ (zq2 hj)
  obtain⟨_,b1⟩:=zq1 a1
  obtain⟨_,b2⟩:=zq1 a2
  have:=h.inj _ _ (List.getElem_mem hi) (List.getElem_mem hj) (hall _ (List.getElem_mem hi)) (hall _ (List.getElem_mem hj)) (by rw[<-b1,<-b2,e])
  have h5:(N.map (·.1))[i]? =some (N[i].1):=by rw[List.getElem?_map,zq2 hi];rfl
  have h6:(N.map (·.1))[j]? =some (N[j].1):=by rw[List.getElem?_map,zq2 hj];rfl
  obtain⟨l1,e1⟩:=zq1 h5
  obtain⟨l2,e2⟩:=zq1 h6
  have:=zGd hnd l1 l2 (by rw[e1,e2,this])
  omega
 have hfull:=zIv N.length P hPnd hPl (fun x hx=>by
  rw[<-hP] at hx
  obtain⟨q,hq,rfl⟩:=List.mem_map.1 hx
  exact hlt q hq)
 have hfi: ∀k,k<N.length->P.idxOf (P.getD k 0)=k:=fun k hk=>by
  rw[zq5,zq2 (by omega)]
  simp only[Option.getD_some]
  exact hPnd.idxOf_getElem k (by omega)
 have hPlt: ∀k,k<N.length->P.getD k 0<N.length:=fun k hk=>by
  rw[zq5,hPget k _ (zq2 hk)]
  exact hlt _ (List.getElem_mem hk)
 have hidx: ∀x,x<N.length->P.idxOf x<N.length∧P.getD (P.idxOf x) 0=x:=fun x hx=>by
  have hm:=hfull x hx
  have hl:P.idxOf x<P.length:=List.idxOf_lt_length_of_mem hm
  refine⟨by omega,?_⟩
  rw[zq5,zq2 hl]
  simp
 have hp:PermOk (fun b=>if b<pre.length then b else pre.length+P.idxOf (b-pre.length)) (fun j=>if j<pre.length then j else pre.length+P.getD (j-pre.length) 0) s.blocks.length s.base:=by
  have hsl:s.blocks.length=pre.length+N.length:=by rw[hb,List.length_append,hlen]
  refine⟨fun b hb'=>?_,fun b hb'=>?_,fun b hb'=>if_pos (by omega),by omega⟩
  ·constructor
   ·split
    ·omega
    ·have:=(hidx (b-pre.length) (by omega)).1;omega
   ·split
    ·omega
    ·have:=hPlt (b-pre.length) (by omega);omega
  ·constructor
   ·by_cases e:b<pre.length
    ·simp[e]
    ·have:=hidx (b-pre.length) (by omega)
     simp only[if_neg e]
     rw[if_neg (by omega),Nat.add_sub_cancel_left,this.2];omega
   ·by_cases e:b<pre.length
    ·simp[e]
    ·have:=hfi (b-pre.length) (by omega)
     simp only[if_neg e]
     rw[if_neg (by omega),Nat.add_sub_cancel_left,this];omega
 refine⟨fun b=>if b<pre.length then b else pre.length+P.idxOf (b-pre.length),fun b hb'=>if_pos hb',fun k q hk=>?_,fun F g a w hs=>?_⟩
 ·have hk':=(zq1 hk).1
  simp only
  rw[if_neg (by omega),Nat.add_sub_cancel_left]
  have h1:=hPget k q hk
  have h2:=hfi k hk'
  rw[zq5,h1] at h2
  simp only[Option.getD_some] at h2
  rw[h2]
 ·obtain⟨g',hs'⟩:=hs.perm hp
  refine⟨g',?_⟩
  have hbl:(s.perm (fun b=>if b<pre.length then b else pre.length+P.idxOf (b-pre.length)) (fun j=>if j<pre.length then j else pre.length+P.getD (j-pre.length) 0)).blocks=
   pre.map (AV.renL fun b=>if b<pre.length then b else pre.length+P.idxOf (b-pre.length))++N.map fun q=>AV.renL (fun b=>if b<pre.length then b else pre.length+P.idxOf (b-pre.length)) q.2:=by
   apply List.ext_getElem?
   intro j
   have hsl:s.blocks.length=pre.length+N.length:=by rw[hb,List.length_append,hlen]
   simp only[AState.perm,List.getElem?_map]
   by_cases hj:j<pre.length
   ·rw[List.getElem?_range (by omega),List.getElem?_append_left (by simpa using hj),List.getElem?_map]
    simp only[Option.map_some,if_pos hj,hb]
    rw[zq5,List.getElem?_append_left hj,zq2 hj];rfl
   ·by_cases hj2:j<pre.length+N.length
    ·rw[List.getElem?_range (by omega),List.getElem?_append_right (by simpa using hj),List.getElem?_map,zq4,zq2 (by omega)]
     simp only[Option.map_some,if_neg hj,hb]
     have h1:=hPget (j-pre.length) _ (zq2 (by omega))
     rw[zq5,List.getElem?_append_right (by omega),Nat.add_sub_cancel_left,zq5 (l:=P),h1]
     simp only[Option.getD_some]
     rw[h.at_ _ (List.getElem_mem (by omega)) (hall _ (List.getElem_mem (by omega)))];rfl
    ·rw[List.getElem?_eq_none (by simp;omega),List.getElem?_eq_none (by simp;omega)];rfl
  rw[<-hbl]
  exact hs'
theorem lay_snoc(f:Nat->Nat): ∀(ρ:List Nat)(l bs zs:List (List AV)),l.length<=ρ.length->(∀q,q∈ρ->q<bs.length)->lay f ρ l (bs++zs)=lay f ρ l bs++zs
 |[],l,bs,zs,h,_=>by
  have:l=[]:=List.eq_nil_of_length_eq_zero (by simpa using h)
  subst this
  simp[lay]
 |r::ρ,b::l,bs,zs,h,hq=>by
  simp only[lay]
  rw[List.set_append_left _ _ (hq r (zq9 ..))]
  exact lay_snoc f ρ l _ zs (by simpa using h) (fun q h'=>by simpa using hq q (zqc _ h'))
 |_::_,[],bs,zs,_,_=>rfl
theorem lay_congr(f g:Nat->Nat): ∀(ρ:List Nat)(l bs:List (List AV)),(∀b,b∈l->AV.renL f b=AV.renL g b)->lay f ρ l bs=lay g ρ l bs
 |[],l,bs,h=>by
  simp only[lay]
  congr 1
  exact List.map_congr_left h
 |r::ρ,b::l,bs,h=>by
  simp only[lay]
  rw[h b (zq9 ..)]
  exact lay_congr f g ρ l _ fun x hx=>h x (zqc _ hx)
 |_::_,[],bs,_=>rfl
theorem lay_len(f:Nat->Nat): ∀(ρ:List Nat)(l bs:List (List AV)),ρ.length<=l.length->(lay f ρ l bs).length=bs.length+(l.length-ρ.length)
 |[],l,bs,_=>by simp[lay]
 |r::ρ,b::l,bs,h=>by
  simp only[lay]
  rw[lay_len f ρ l _ (by simpa using h)]
  simp
 |_::_,[],bs,h=>by simp at h
theorem place_u{n m b:Nat}(hb:b<ρ.length):zE5 ρ n b=zE5 ρ m b:=by
 simp only[zE5,zq5,zq2 hb,Option.getD_some]
mutual
theorem ren_u{ρ:List Nat}{n m:Nat}: ∀x:AV,x.under ρ.length=true->x.ren (zE5 ρ n)=x.ren (zE5 ρ m)
 |.mptr b o,h=>by simp only[AV.under,decide_eq_true_eq] at h;simp only[AV.ren,place_u (n:=n) (m:=m) h]
 |.msl b ec k,h=>by simp only[AV.under,decide_eq_true_eq] at h;simp only[AV.ren,place_u (n:=n) (m:=m) h]
 |.baddr t b,h=>by simp only[AV.under,decide_eq_true_eq] at h;simp only[AV.ren,place_u (n:=n) (m:=m) h]
 |.fn f fs cs,h=>by
  simp only[AV.under,zq7] at h
  simp only[AV.ren];rw[zKI (n:=n) (m:=m) fs h.1,zKI (n:=n) (m:=m) cs h.2]
 |.iface t v,h=>by simp only[AV.under] at h;simp only[AV.ren];rw[ren_u (n:=n) (m:=m) v h]
 |.agg cs,h=>by simp only[AV.under] at h;simp only[AV.ren];rw[zKI (n:=n) (m:=m) cs h]
 |.tup cs,h=>by simp only[AV.under] at h;simp only[AV.ren];rw[zKI (n:=n) (m:=m) cs h]
 |.otup _ _ cs,h=>by simp only[AV.under] at h;simp only[AV.ren];rw[zKI (n:=n) (m:=m) cs h]
 |.int _ _,_=>rfl
 |.bool _,_=>rfl
 |.str _,_=>rfl
 |.nilp,_=>rfl
 |.cptr _,_=>rfl
 |.nsl,_=>rfl
 |.osl _ _,_=>rfl
 |.osq _ _,_=>rfl
 |.sl _,_=>rfl
 |.nilfn,_=>rfl
 |.nilif,_=>rfl
 |.e0,_=>rfl
 |.omp _ _,_=>rfl
 |.mpx,_=>rfl
 |.top,_=>rfl
theorem zKI{ρ:List Nat}{n m:Nat}: ∀l:List AV,AV.underL ρ.length l=true->AV.renL (zE5 ρ n) l=AV.renL (zE5 ρ m) l
 |[],_=>rfl
 |x::l,h=>by
  simp only[AV.underL,zq7] at h
  simp only[AV.renL,ren_u (n:=n) (m:=m) x h.1,zKI (n:=n) (m:=m) l h.2]
end
theorem zIY{m:Nat}: ∀{l:List (List AV)},underBlocks m l=true->∀b,b∈l->AV.underL m b=true
 |[],_,b,hb=>by cases hb
 |x::l,h,b,hb=>by
  simp only[underBlocks,zq7] at h
  rcases List.mem_cons.1 hb with rfl|hb
  ·exact h.1
  ·exact zIY h.2 b hb
theorem stands_ext{ρ0:List Nat}{n m:Nat}{bs zs:List (List AV)}: ∀{ρ:List Nat}{l:List (List AV)},(∀b,b∈l->AV.underL ρ0.length b=true)->Stands (zE5 ρ0 n) bs ρ l->Stands (zE5 ρ0 m) (bs++zs) ρ l
 |[],[],_,h=>h
 |r::ρ,b::l,hu,h=>by
  obtain⟨h1,h2⟩:=h
  refine⟨?_,stands_ext (fun x hx=>hu x (zqc _ hx)) h2⟩
  rw[List.getElem?_append_left (zq1 h1).1,h1,zKI (n:=n) (m:=m) b (hu b (zq9 ..))]
 |[],_::_,_,h=>h.elim
 |_::_,[],_,h=>h.elim
theorem Raw.frameZ{bS bS':List (List AV)}(h:Raw P f args bS res bS')(ρ:List Nat)(bs:List (List AV))(hok:zJ8 ρ args bS bs)
 (hl:bS'.length=bS.length) (hr:res.under bS.length=true) (hu:underBlocks bS.length bS'=true):
 FrRaw P f ρ (AV.renL (zE5 ρ bs.length) args) bs (res.ren (zE5 ρ bs.length)) (lay (zE5 ρ bs.length) ρ bS' bs):=by
 obtain⟨h1,h2,h3,h4⟩:=hok
 have hlen:=zFY h4
 have hlt: ∀q,q∈ρ->q<bs.length:=fun q hq=>by
  obtain⟨j,hj⟩:=zqd hq
  have hjl:j<bS.length:=by rw[<-hlen];exact(zq1 hj).1
  have:=zHF h4 j q _ hj (zq2 hjl)
  exact(zq1 this).1
 rw[<-hlen] at h2 h3 hr hu hl
 refine⟨fun zs=>?_,?_,fun b hb=>?_⟩
 ·have hk:=h.frameK ρ (bs++zs) ⟨h1,by rw[<-hlen];exact h2,by rw[<-hlen];exact h3,stands_ext (zIY h3) h4⟩
  rw[zKI (n:=(bs++zs).length) (m:=bs.length) args h2,ren_u (n:=(bs++zs).length) (m:=bs.length) res hr,
   lay_congr _ (zE5 ρ bs.length) ρ bS' (bs++zs) (fun b hb=>zKI b (zIY hu b hb)),lay_snoc _ _ _ _ _ (by omega) hlt] at hk
  exact hk
 ·rw[lay_len _ _ _ _ (by omega)];omega
 ·rcases Nat.lt_or_ge b bs.length with hlt'|hge
  ·rw[zq5,zIR _ _ _ _ _ hb hlt',<-zq5]
  ·rw[zq5,zq5,List.getElem?_eq_none (by rw[lay_len _ _ _ _ (by omega)];omega),List.getElem?_eq_none hge]
def AState.withB(s:AState)(bs:List (List AV)):AState:={s with blocks:=bs}
section
variable (s:AState) (t:Nat) (bs:List (List AV))
@[simp] theorem get_withB:(s.withB bs).get t=s.get t:=rfl
@[simp] theorem n_withB:(s.withB bs).n=s.n:=rfl
@[simp] theorem base_withB:(s.withB bs).base=s.base:=rfl
@[simp] theorem blocks_withB:(s.withB bs).blocks=bs:=rfl
@[simp] theorem loans_withB:(s.withB bs).loans t=s.loans t:=rfl
end
theorem zH7{b:Nat}: ∀(cs:List AV)(o:Nat)(s:AState),o+cs.length=(s.blocks.getD b []).length->b<s.blocks.length->(∀t,s.loans t=none)->s.setCells b o cs=s.withB (s.blocks.set b ((s.blocks.getD b []).take o++cs))
 |[],o,s,h,hb,hl=>by
  have e:(s.blocks.getD b []).take o=s.blocks.getD b []:=List.take_of_length_le (by simpa using Nat.le_of_eq h.symm)
  have e2:s.blocks.getD b []=s.blocks[b]:=by rw[zq5,zq2 hb];rfl
  simp only[AState.setCells,List.append_nil,e,AState.withB]
  rw[e2,List.set_getElem_self]
 |x::xs,o,s,h,hb,hl=>by
  have h1:(s.setCell b o x).blocks=s.blocks.set b ((s.blocks.getD b []).set o x):=rfl
  have h2:(s.setCell b o x).blocks.getD b []=(s.blocks.getD b []).set o x:=by
   rw[h1,zq5,List.getElem?_set_self hb];rfl
  have hl': ∀t,(s.setCell b o x).loans t=none:=fun t=>by
   show(if s.loans t=some (.cell b o) then none else s.loans t)=none
   rw[hl t];simp
  have ho:o<(s.blocks.getD b []).length:=by rw[<-h];simp
  show(s.setCell b o x).setCells b (o+1) xs=_
  rw[zH7 xs (o+1) _ (by rw[h2,List.length_set,<-h];simp;omega) (by rw[h1,List.length_set];exact hb) hl',h2,h1]
  have e3:((s.blocks.getD b []).set o x).take (o+1)++xs=(s.blocks.getD b []).take o++x::xs:=by
   rw[List.take_succ_eq_append_getElem (by rw[List.length_set];exact ho),List.getElem_set_self,List.take_set,List.append_assoc]
   congr 1
   rw[List.set_eq_of_length_le (by rw[List.length_take];exact Nat.min_le_left _ _)]
  rw[e3,List.set_set]
  have hf:(s.setCell b o x).loans=s.loans:=funext fun t=>by rw[hl' t,hl t]
  show(⟨_,_,_,_,_⟩:AState)=⟨_,_,_,_,_⟩
  rw[hf]
  rfl
theorem store_all{x y:Operand}(b:Nat)(v:AV)(A:List AV){i:TypeInfo}(ho:o.op=.store t x y)(hd:o.dst=none)(hi:P.info? t=some i)(hx:s.ev x=.mptr b 0)
 (hv:s.takeV y=v) (hS:s.takeS y=s) (h1:v.owns1=false) (h2:v.solid=true) (h3:A.all AV.one=true) (hA:v.cells.map AV.copy=A) (h4:A.length=i.size) (h5:(s.blocks.getD b []).length=i.size)
 (hb:b<s.blocks.length) (hl: ∀t,s.loans t=none) (hK:K (s.withB (s.blocks.set b A))):AStep P o s K:=by
 have hr:zFg P s t x y=some ⟨v.solid=true∧A.all AV.one=true∧v.cells.length=i.size∧0+i.size<=(s.blocks.getD b []).length,.top,none,s.setCells b 0 A⟩:=by
  unfold zFg
  rw[hx,hi]
  simp only[hv,h1,hS,hA,Bool.false_eq_true,if_false]
 have hlen:v.cells.length=i.size:=by rw[<-h4,<-hA,zq4]
 have hst:s.setCells b 0 A=s.withB (s.blocks.set b A):=by
  rw[zH7 A 0 s (by rw[h5,h4];omega) hb hl];simp
 unfold AStep
 rw[ho]
 show ResK s o.dst (zFg P s t x y) K
 rw[hr]
 refine⟨⟨h2,h3,hlen,by rw[h5];omega⟩,?_⟩
 rw[hd]
 show K (s.setCells b 0 A)
 rw[hst];exact hK
theorem NPos.store{N N':List (Nat×List AV)}{L:Nat->Bool}{pos:Nat->Nat}{bl:List (List AV)}(h:NPos N L pos bl){i a:Nat}{A:List AV}(hLa:L a=true)(hi:N.all (fun q=>q.1 !=i)=true)(hm:N'.map (·.1)=N.map (·.1))
 (hq: ∀q',q'∈N'->∃q,q∈N∧q.1=q'.1∧(q.1≠a->q.2=q'.2)∧(q.1=a->q'.2=A)) (ha: ∃q,q∈N∧q.1=a):
 NPos N' (fun j=>if j=i then true else L j) pos (bl.set (pos a) A):=by
 have hs:=h.skip hi
 have hne: ∀q,q∈N->q.1≠i:=fun q hq=>by have:=(zq8 hi) q hq;simpa using this
 have hLq: ∀q',q'∈N'->(if q'.1=i then true else L q'.1)=true->∃q,q∈N∧q.1=q'.1∧(q.1≠a->q.2=q'.2)∧(q.1=a->q'.2=A)∧L q.1=true:=fun q' h1 h2=>by
  obtain⟨q,e1,e2,e3,e4⟩:=hq q' h1
  refine⟨q,e1,e2,e3,e4,?_⟩
  rw[<-e2,if_neg (hne q e1)] at h2;exact h2
 obtain⟨qa,ha1,ha2⟩:=ha
 have hpa:pos a<bl.length:=by
  have:=h.at_ qa ha1 (by rw[ha2];exact hLa)
  rw[ha2] at this
  exact(zq1 this).1
 refine⟨?_,fun q' h1 h2=>?_,fun q1 q2 h1 h2 h3 h4 h5=>?_⟩
 ·rw[List.length_set,h.len]
  have key: ∀(f:Nat->Bool)(M:List (Nat×List AV)),(M.filter fun q=>f q.1).length=((M.map (·.1)).filter f).length:=fun f M=>by
   induction M with
   |nil=>rfl
   |cons q M ih=>simp only[List.filter_cons,List.map_cons];split<;>simp[ih]
  rw[key L N,key (fun j=>if j=i then true else L j) N',hm]
  congr 1
  apply List.filter_congr
  intro j hj
  obtain⟨q,hq1,rfl⟩:=List.mem_map.1 hj
  rw[if_neg (hne q hq1)]
 ·obtain⟨q,e1,e2,e3,e4,e5⟩:=hLq q' h1 h2
  rw[<-e2]
  by_cases e:q.1=a
  ·rw[e,e4 e,List.getElem?_set_self hpa]
  ·rw[List.getElem?_set_ne (fun hp=>e (h.inj q qa e1 ha1 e5 (by rw[ha2];exact hLa) (by rw[ha2];exact hp.symm) ▸ ha2)),h.at_ q e1 e5,e3 e]
 ·obtain⟨p1,e1,e2,_,_,e5⟩:=hLq q1 h1 h3
  obtain⟨p2,f1,f2,_,_,f5⟩:=hLq q2 h2 h4
  rw[<-e2,<-f2]
  exact h.inj p1 p2 e1 f1 e5 f5 (by rw[e2,f2];exact h5)
def pan1(t:TypeId):List PanicEntry:=[{v:=.iface t (.agg #[]),recovered:=false}]
def RawP(P:Program)(f:FuncId)(ch:List PanicEntry)(args:List AV)(bs bs':List (List AV)):Prop:=
 RawG P f args bs (fun e _ _=>e=.panicked ch) bs' (fun _=>False)
theorem RawP.frame{bS bS':List (List AV)}(h:RawP P f ch args bS bS')(ρ:List Nat)(bs:List (List AV))(hok:zJ8 ρ args bS bs):
 RawP P f ch (AV.renL (zE5 ρ bs.length) args) bs (lay (zE5 ρ bs.length) ρ bS' bs):=by
 have h1:=RawG.frameK (Rr':=fun e _ _=>e=.panicked ch) h ρ bs hok (fun e imm σ σ' _ he=>he)
 exact⟨h1.1,fun g w vals h2 h3 h4 h5=>(h1.2 g w vals h2 h3 h4 h5).mono fun e w' ⟨g',e1,e2,e3,e4,_⟩=>⟨g',e1,e2,e3,e4,fun _ _ h=>h.elim⟩⟩
theorem panL{α β:Type}{F:α->Prop}{G:β->Prop}{x:α}(h:Sum.elim F G (.inl x)):F x:=h
theorem panR{α β:Type}{F:α->Prop}{G:β->Prop}{x:β}(h:Sum.elim F G (.inr x)):G x:=h
def CallE(P:Program)(f:FuncId)(args:List AV)(s:AState)(E:List PanicEntry->AState->Prop):Prop:=
 ∃ch bs',RawP P f ch args s.blocks bs'∧s.base<=bs'.length∧E ch (endS s bs')
@[congr] theorem CallE_congr{args args':List AV}(h:args=args'):CallE P f args s E=CallE P f args' s E:=by rw[h]
def PanE(Q:Exit->AState->Prop)(ch:List PanicEntry)(s:AState):Prop:=Q (.panic ch) s
theorem panC{bs bs':List (List AV)}(h:RawP P f ch args bs bs')(h1:s.blocks=bs)(h2:s.base<=bs'.length)(h3:Q (.panic ch) (endS s bs')):CallE P f args s (PanE Q):=
 ⟨ch,bs',by rw[h1];exact h,h2,h3⟩
def PanK(E:List PanicEntry->AState->Prop)(ch:List PanicEntry)(s:AState):Prop:=s.base<=s.blocks.length∧E ch (endS s s.blocks)
theorem panK(h1:s.base<=s.blocks.length)(h2:Q (.panic ch) (endS s s.blocks)):PanK (PanE Q) ch s:=⟨h1,h2⟩
theorem Sim.forget(h:Sim F g s a w)(hb:s.base<=s.blocks.length): ∃g',Sim F g' (endS s s.blocks) a w:=
 h.le
  {tmps:=fun t=>by show leAV _ .top;cases s.tmps t<;>simp
   loans:=fun t=>rfl
   n:=rfl
   base:=rfl
   hbase:=hb
   short:=Nat.le_refl _
   blocks:=fun b blk hb=>⟨blk,hb,rfl,fun o x hx=>⟨x,hx,by cases x<;>simp,.inr rfl⟩⟩
   below:=.inl rfl}
def PanOp(P:Program)(o:Option Oper)(s:AState)(E:List PanicEntry->AState->Prop):Prop:=
 match o with
 |none=>False
 |some o=>match o.guard with
  |some _=>False
  |none=>match o.op with
   |.call c=>match c.callee with
    |.value x=>match s.look x with
     |.fn (.func f) first captured=>CallE P f (zBO s first captured c.args) s E
     |_=>False
    |_=>False
   |.panic x=>match s.look x with
    |.iface t (.agg [])=>PanK E (pan1 t) s
    |_=>False
   |_=>False
theorem PanOp.sound(h:PanOp P (some o) s E)(hs:Sim F g s a w){K:Act->World->Prop}{Q:Exit->Act->World->Prop}
 (hQ: ∀ch g' s' w',E ch s'->Sim F g' s' a w'->Q (.panic ch) a w'):o.guard=none∧o.wp P a w K Q:=by
 simp only[PanOp] at h
 split at h
 ·exact h.elim
 rename_i hg
 refine⟨hg,?_⟩
 split at h
 ·rename_i c ho
  split at h
  ·rename_i x hc
   split at h
   ·rename_i f first captured hx
    obtain⟨ch,bs',h1,h2,h6⟩:=h
    have he:=zAn hs x
    rw[hx] at he
    cases hv:a.eval x with
    |func fn fv cv=>
     rw[hv] at he
     cases he with
     |fn _ _ _ _ _ hf hcv rf rc=>
      have hargs:RepL g.imm g.σ (zBO s first captured c.args) ((fv++c.args.map a.eval)++cv):=RepL.append (RepL.append ⟨hf,rf⟩ (zGa hs c.args)) ⟨hcv,rc⟩
      have hrun:(execOp a.eval o).run P w=.ok (.enter f ((fv++c.args.map a.eval)++cv)) w:=by
       simp only[execOp,ho,Sem.run_bind,resolve,hc,hv,Deferred.ofValue,Sem.run_pure,Result.andThen_ok,invoke,h1.1.run]
      simp only[Oper.wp,hrun,Oper.upon]
      refine(h1.2 _ w _ hs.callee (fun t=>rfl) hs.ext.tg.callee hargs).mono fun e w'=>?_
      rintro⟨g',rfl,h3,h4,h5,_⟩
      obtain⟨g2,hs2⟩:=(hs.after h5 h3 h4).forget h2
      exact hQ ch g2 _ w' h6 hs2
    |_=>rw[hv] at he;cases he
   ·exact h.elim
  ·exact h.elim
 ·rename_i x ho
  split at h
  ·rename_i t hx
   have he:=zAn hs x
   rw[hx] at he
   cases hv:a.eval x with
   |iface t' v=>
    rw[hv] at he
    cases he with
    |iface _ _ _ he=>
     cases he with
     |agg _ vs hsz _=>
      have:vs=#[]:=by simpa using hsz
      subst this
      have hrun:(execOp a.eval o).run P w=.halt (.panic (.iface t (.agg #[]))) w:=by
       simp[execOp,ho,hv,Instr.panic,goPanic,Sem.run_bind,Sem.run]
      simp only[Oper.wp,hrun,Oper.upon]
      obtain⟨g2,hs2⟩:=hs.forget h.1
      exact hQ _ g2 _ w h.2 hs2
   |_=>rw[hv] at he;cases he
  ·exact h.elim
 ·exact h.elim
def panOk(B:List Nat)(ops:Array Oper)(kp:Nat):Bool:=
 match ops[kp]? with
 |none=>false
 |some op=>zEe op.op&&(List.range ops.size).all fun k=>k==kp||(if k<kp then ((zDQ ops.toList).getD kp []).contains k||(match ops[k]? with
  |some o=>(isAB B o.op||zDL o.op||zCZ o.op)&&(match o.dst with|some d=> !(zC4 op.op).contains d|none=>false)
  |none=>true) else ((zDQ ops.toList).getD k []).contains kp)
theorem panOk_spec{kp:Nat}{op:Oper}(h:panOk B ops kp=true)(hop:ops[kp]? =some op):zEe op.op=true∧(∀k,k<kp->k<ops.size->k∈(zDQ ops.toList).getD kp []∨
 ∀o,ops[k]? =some o->(isAB B o.op||zDL o.op||zCZ o.op)=true∧∃d,o.dst=some d∧d∉zC4 op.op)∧∀k,kp<k->k<ops.size->kp∈(zDQ ops.toList).getD k []:=by
 unfold panOk at h
 rw[hop] at h
 simp only[zq7] at h
 refine⟨h.1,fun k h1 h2=>?_,fun k h1 h2=>?_⟩
 ·have:=zq8 h.2 k (List.mem_range.2 h2)
  rw[if_pos h1] at this
  simp only[Bool.or_eq_true,beq_iff_eq,List.contains_iff_mem] at this
  rcases this with h3|h3|h3
  ·omega
  ·exact .inl h3
  ·refine .inr fun o ho=>?_
   rw[ho] at h3
   simp only[zq7] at h3
   refine⟨h3.1,?_⟩
   have h4:=h3.2
   cases hd:o.dst with
   |none=>rw[hd] at h4;cases h4
   |some d=>
    rw[hd] at h4
    exact⟨d,rfl,by simpa using h4⟩
 ·have:=zq8 h.2 k (List.mem_range.2 h2)
  rw[if_neg (by omega)] at this
  simp only[Bool.or_eq_true,beq_iff_eq,List.contains_iff_mem] at this
  rcases this with h3|h3
  ·omega
  ·exact h3
theorem PanOp.back{op:Oper}{s s':AState}(hc:zEe op.op=true)(h:PanOp P (some op) s' E)(hb:s'.blocks=s.blocks)(hn:s'.n=s.n)(hbase:s'.base=s.base)
 (hg: ∀t,t∈zC4 op.op->s'.get t=s.get t):PanOp P (some op) s E:=by
 have hE: ∀bs,endS s' bs=endS s bs:=fun bs=>by unfold endS;rw[hn,hbase]
 simp only[PanOp] at h ⊢
 split at h
 ·exact h.elim
 ·cases ho:op.op<;>rw[ho] at hc<;>simp only[zEe,Bool.false_eq_true] at hc
  rename_i hg0 _ c
  rw[ho] at h hg
  simp only at h ⊢
  cases hce:c.callee with
  |value x=>
   rw[hce] at h
   simp only at h ⊢
   have hl: ∀y,y∈x::c.args.toList->s'.look y=s.look y:=fun y hy=>by
    unfold AState.look
    congr 1
    cases y with
    |tmp t=>exact hg t (by simp only[zC4,hce];exact zEb (by simpa using hy))
    |_=>rfl
   have hx:=hl x (zq9 ..)
   rw[hx] at h
   split at h
   ·rename_i f first captured hf
    have ha:zBO s' first captured c.args=zBO s first captured c.args:=by
     unfold zBO
     congr 2
     exact List.map_congr_left fun y hy=>by rw[hl y (zqc _ hy)]
    obtain⟨ch,bs',h1,h2,h3⟩:=h
    rw[ha,hb] at h1
    rw[hbase] at h2
    rw[hE] at h3
    exact⟨ch,bs',h1,h2,h3⟩
   ·exact h.elim
  |builtin b=>rw[hce] at h;exact h.elim
  |invoke x m=>rw[hce] at h;exact h.elim
theorem putL_frame(s:AState)(d:Nat)(v:AV)(l:Option Place):(s.putL d v l).blocks=s.blocks∧(s.putL d v l).n=s.n∧(s.putL d v l).base=s.base∧∀t,t≠d->(s.putL d v l).get t=s.get t:=by
 have hput:(s.put d v).blocks=s.blocks∧(s.put d v).n=s.n∧(s.put d v).base=s.base∧∀t,t≠d->(s.put d v).get t=s.get t:=by
  unfold AState.put
  split
  ·exact⟨rfl,rfl,rfl,fun t ht=>if_neg ht⟩
  ·exact⟨rfl,rfl,rfl,fun t _=>rfl⟩
 unfold AState.putL
 split
 ·exact hput
 ·split
  ·exact hput
  ·exact hput
theorem zJ3{P:Program}{B:List Nat}{ops:Array Oper}{pins:List Nat}{U:List Nat}: ∀{l:List Nat}{s s':AState},(∀k,k∈l->pins.contains k=false∧∀o,ops[k]? =some o->(isAB B o.op||zDL o.op||zCZ o.op)=true∧∃d,o.dst=some d∧d∉U)->
 zGp P B ops pins l s s'->s'.blocks=s.blocks∧s'.n=s.n∧s'.base=s.base∧∀t,t∈U->s'.get t=s.get t
 |[],s,s',_,h=>by cases h;exact⟨rfl,rfl,rfl,fun _ _=>rfl⟩
 |i::l,s,s',hq,⟨o,s1,h1,h2,h3⟩=>by
  obtain⟨q1,q2⟩:=hq i (zq9 ..)
  obtain⟨q2,d,hd,hu⟩:=q2 o h1
  rcases h2 with ⟨_,h2⟩|⟨h2,_⟩
  ·obtain⟨v,lo,_,_,_,hs1,_⟩:=zG1 hd q2 h2
   subst hs1
   obtain⟨e1,e2,e3,e4⟩:=putL_frame s d v lo
   obtain⟨f1,f2,f3,f4⟩:=zJ3 (fun k hk=>hq k (zqc _ hk)) h3
   exact⟨f1.trans e1,f2.trans e2,f3.trans e3,fun t ht=>(f4 t ht).trans (e4 t fun e=>hu (e ▸ ht))⟩
  ·rw[q1] at h2;cases h2
theorem stP(k:Nat)(h:AOps P ops (fun s'=>PanOp P ops[k]? s' (PanE Q)) (ops.toList.take k) s.fresh):AWp P (.region id ops false) Q s:=fun F g a w hs=>by
 refine wp_region_list ?_
 have:=AOps.sound_app (F:=F) (l2:=ops.toList.drop k) (Q:=fun e a w=> ∃g s',Sim F g s' a w∧Q e s') (fun g s a w hk hs=>by
  cases ho:ops[k]? with
  |none=>rw[ho] at hk;exact hk.elim
  |some o=>
   rw[ho] at hk
   have hlt:k<ops.toList.length:=by simpa using lt_of_getElem? ho
   have hd:ops.toList.drop k=o::ops.toList.drop (k+1):=by
    rw[List.drop_eq_getElem_cons hlt]
    congr 1
    have:ops.toList[k]? =some o:=by rw[Array.getElem?_toList];exact ho
    rw[zq2 hlt] at this
    exact zqa this
   rw[hd]
   obtain⟨hg,hw⟩:=hk.sound hs (K:=wpList P ops (fun e a w=> ∃g s',Sim F g s' a w∧Q e s') (ops.toList.drop (k+1))) (Q:=fun e a w=> ∃g s',Sim F g s' a w∧Q e s') (fun ch g' s' w' h1 h2=>⟨g',s',h2,h1⟩)
   unfold wpList
   rw[if_pos (by simp[Region.wanted,hg])]
   exact .inl hw) (ops.toList.take k) s.fresh g a w h hs.fresh
 rwa [List.take_append_drop] at this
theorem AOpsX.chainT: ∀(l:List Oper)(k:Nat)(s:AState),(∀j,j<l.length->l[j]? =ops[k+j]?)->AOpsX P B ops pins K l k s->
 ∃s',zGp P B ops pins (List.range' k l.length) s s'∧K s':=by
 intro l
 induction l with
 |nil=>exact fun k s _ h=>⟨s,rfl,h⟩
 |cons o l ih=>
  intro k s hl h
  have h0:ops[k]? =some o:=by simpa using(hl 0 (by simp)).symm
  have hl': ∀j,j<l.length->l[j]? =ops[k+1+j]? :=fun j hj=>by have:=hl (j+1) (by simpa using hj);simpa[Nat.add_assoc,Nat.add_comm 1 j] using this
  unfold AOpsX at h
  cases hp:pins.contains k with
  |true=>
   rw[if_pos hp] at h
   obtain⟨s1,h1,h2⟩:=h.ok
   obtain⟨s',h3,h4⟩:=ih (k+1) s1 hl' h2
   refine⟨s',?_,h4⟩
   rw[List.length_cons,List.range'_succ]
   exact⟨o,s1,h0,.inr ⟨hp,h1⟩,h3⟩
  |false=>
  rw[if_neg (by rw[hp];simp)] at h
  have go: ∀s1,GStep P B ops o s s1->AOpsX P B ops pins K l (k+1) s1->∃s',zGp P B ops pins (List.range' k (o::l).length) s s'∧K s':=fun s1 h1 h2=>by
   obtain⟨s',h3,h4⟩:=ih (k+1) s1 hl' h2
   refine⟨s',?_,h4⟩
   rw[List.length_cons,List.range'_succ]
   exact⟨o,s1,h0,.inl ⟨hp,h1⟩,h3⟩
  cases hg:o.guard with
  |none=>
   rw[hg] at h
   obtain⟨s1,h1,h2⟩:=AStepD.ok h
   exact go s1 (by unfold GStep;rw[hg];exact h1) h2
  |some q=>
   obtain⟨j,want⟩:=q
   rw[hg] at h
   simp only[zFW] at h
   split at h
   ·rename_i d hd
    unfold zGo at h
    split at h
    ·rename_i b hb
     by_cases hw:b=want
     ·obtain⟨s1,h1,h2⟩:=(h.1 hw).ok
      exact go s1 (by unfold GStep;rw[hg];exact⟨d,hd,.inl ⟨b,hb,.inl ⟨hw,h1⟩⟩⟩) h2
     ·have hw':b= !want:=by clear h;revert hw;cases b<;>cases want<;>decide
      exact go _ (by unfold GStep;rw[hg];exact⟨d,hd,.inl ⟨b,hb,.inr ⟨hw',rfl⟩⟩⟩) (h.2 hw')
    ·rename_i hb
     exact go _ (by unfold GStep;rw[hg];exact⟨d,hd,.inr ⟨hb,rfl⟩⟩) h
    ·exact h.elim
   ·exact h.elim
theorem any_wpP{Q:Exit->Act->World->Prop}{kp:Nat}{op:Oper}(hok:regOk B ops n=true)(hpin:pinsOk ops pins=true)
 (hkp:panOk B ops kp=true) (hop:ops[kp]? =some op) (hQ: ∀ch g a w s,E ch s->Sim F g s a w->Q (.panic ch) a w): ∀(fuel:Nat)(listed:Array Bool)(s s':AState)(g:Gh)(a:Act)(w:World),
 listed.size=ops.size->((List.range ops.size).filter fun i=> !listed.getD i true).length<=fuel->listed.getD kp true=false->
 (∀(j:Nat) o,ops[j]? =some o->listed.getD j true=true->∀e,e∈zDf o->listed.getD e true=true)->
 zGp P B ops pins ((List.range ops.size).filter fun i=> !listed.getD i true&&decide (i<kp)) s s'->PanOp P (some op) s' E->Sim F g s a w->
 LFree ops ((List.range ops.size).filter fun i=> !listed.getD i true&&decide (i<kp)) s->s.n=n->wpAny P .any ops Q fuel listed a w:=by
 obtain⟨hedge,hdst,hcomm⟩:=zIq hok
 obtain⟨hpc,hpq,hpa⟩:=panOk_spec hkp hop
 have hkl:=lt_of_getElem? hop
 have hin: ∀(listed:Array Bool),listed.size=ops.size->∀i,i<ops.size->listed.getD i true=listed.getD i false:=fun listed hsz i hi=>by
  rw[zq6,zq6,zqe (by omega)];rfl
 intro fuel
 induction fuel with
 |zero=>
  intro listed s s' g a w hsz hlen hk hcl hc hp hs hS hn
  exfalso
  have:kp∈((List.range ops.size).filter fun i=> !listed.getD i true):=List.mem_filter.2 ⟨List.mem_range.2 hkl,by simp[hk]⟩
  have:=List.length_pos_of_mem this
  omega
 |succ fuel ih=>
  intro listed s s' g a w hsz hlen hk hcl hc hp hs hS hn
  refine⟨fun hr=>?_,fun i hi=>?_⟩
  ·exfalso
   have all: ∀i,i<ops.size->listed.getD i true=true:=by
    intro i
    induction i using Nat.strongRecOn with
    |_ i ih=>
     intro hi
     cases hv:listed.getD i true with
     |true=>rfl
     |false=>
      have hmem:i∈Region.ready .any ops listed:=mem_ready.2 ⟨hv,ops[i],zqe hi,fun e he hb=>by
       have hlt:=hedge i _ (zqe hi) e.on (List.mem_map.2 ⟨e,List.mem_filter.2 ⟨by simpa using he,hb⟩,rfl⟩)
       rw[<-hin listed hsz e.on (by omega)];exact ih e.on hlt (by omega)⟩
      rw[hr] at hmem;cases hmem
   rw[all kp hkl] at hk;cases hk
  ·obtain⟨h1,o,h2,h3⟩:=mem_ready.1 hi
   have hilt:=lt_of_getElem? h2
   have hready: ∀e,e∈zDf o->listed.getD e true=true:=fun e he=>by
    obtain⟨ed,hed,rfl⟩:=List.mem_map.1 he
    rw[List.mem_filter] at hed
    have:=h3 ed (by simpa using hed.1) hed.2
    have hlt:=hedge i o h2 ed.on he
    rw[hin listed hsz _ (by omega)];exact this
   have hancl: ∀k,k∈(zDQ ops.toList).getD i []->listed.getD k true=true:=fun k h=>
    zIE (ops:=ops.toList) (L:=fun j=>listed.getD j true=true) (fun j o hj=>hcl j o (by simpa using hj)) i o (by simpa using h2) hready k h
   rcases Nat.lt_trichotomy i kp with hik|rfl|hik
   ·obtain⟨u1,u2,e1,e2,e3⟩:=zFU (p:=fun i=> !listed.getD i true&&decide (i<kp)) hilt (by simp[h1,hik])
    have hun: ∀k,k∈u1->k<i∧listed.getD k true=false:=fun k hk=>by
     obtain⟨hlt,hk2⟩:=e2 k hk
     simp only[zq7,Bool.not_eq_true'] at hk2
     exact⟨hlt,hk2.1⟩
    have hanc: ∀k,k∈u1->k∉(zDQ ops.toList).getD i []:=fun k hk hm=>by
     have h5:=(hun k hk).2
     rw[hancl k hm] at h5;cases h5
    have hcm: ∀k,k∈u1->comm B ops k i=true:=fun k hk=>by
     rcases hcomm i hilt k (hun k hk).1 with h|h
     ·exact absurd h (hanc k hk)
     ·exact h
    rw[e1] at hc
    have hstep: ∃s1,(GStep P B ops o s s1∨PStep P o s s1)∧zGp P B ops pins (u1++u2) s1 s':=by
     cases hpp:pins.contains i with
     |true=>
      have hu:u1=[]:=by
       cases u1 with
       |nil=>rfl
       |cons k u1=>
        exfalso
        exact hanc k (zq9 ..) (zJi hpin hpp (hun k (zq9 ..)).1 hilt)
      subst hu
      obtain⟨o',s1,q1,q2,q3⟩:=hc
      rw[h2] at q1;cases q1
      rcases q2 with ⟨q2,_⟩|⟨_,q2⟩
      ·rw[hpp] at q2;cases q2
      ·exact⟨s1,.inr q2,q3⟩
     |false=>
      have hnp: ∀k,k∈u1++[i]->pins.contains k=false:=fun k hk=>by
       rcases List.mem_append.1 hk with hk|hk
       ·cases hpk:pins.contains k with
        |false=>rfl
        |true=>exact absurd (zIr hpin hpk (hun k hk).1 hilt) (hanc k hk)
       ·rw[List.mem_singleton.1 hk];exact hpp
      rw[show u1++i::u2=(u1++[i])++u2 by simp] at hc
      obtain⟨m,hc1,hc2⟩:=(zEP _ _ _ _).1 hc
      obtain⟨s1,g1,g2⟩:=front h2 u1 s m (zG6 hnp hc1) hcm (fun q hq=>hS q (by rw[e1];rcases List.mem_append.1 hq with hq|hq;exact List.mem_append_left _ hq;rw[List.mem_singleton.1 hq];exact List.mem_append_right _ (zq9 ..))) (zHp (zHn hok) hedge e1) (by rw[hn];exact hdst) (fun _ t _=>by rw[<-hs.sto.len];exact(hs.tmps t).1.isUnder)
      exact⟨s1,.inl g1,(zEP _ _ _ _).2 ⟨m,zKg (fun k hk=>hnp k (List.mem_append_left _ hk)) g2,hc2⟩⟩
    obtain⟨s1,g1,hc'⟩:=hstep
    have hfr:s1.n=s.n∧∀t u,s1.loans t=some (.tmp u)->s.loans t=some (.tmp u)∨(zDL o.op=true∧u∈zC4 o.op):=by
     rcases g1 with g1|g1
     ·obtain⟨f1,f2,f3,f4⟩:=zFM g1
      exact⟨f1,f3⟩
     ·exact g1.frame
    obtain⟨f1,f3⟩:=hfr
    have hS':LFree ops (u1++u2) s1:=fun q hq oq d hoq hd hqt t hl=>by
     have hq':q∈(List.range ops.size).filter fun i=> !listed.getD i true&&decide (i<kp):=by
      rw[e1]
      rcases List.mem_append.1 hq with hq|hq
      ·exact List.mem_append_left _ hq
      ·exact List.mem_append_right _ (zqc _ hq)
     rcases f3 t d hl with h|⟨hm,h⟩
     ·exact hS q hq' oq d hoq hd hqt t h
     ·have h5:=hancl q (zIQ (zHn hok) ⟨o,oq,d,h2,hoq,hm,h,hd,hqt⟩)
      rw[List.mem_filter,h5] at hq'
      simp at hq'
    have hfil:((List.range ops.size).filter fun k=> !(listed.setIfInBounds i true).getD k true&&decide (k<kp))=u1++u2:=by
     rw[<-e3]
     apply List.filter_congr
     intro k hk
     rw[List.mem_range] at hk
     rw[zDS (n:=0) listed i k true (by omega)]
     by_cases e:k=i
     ·simp[e]
     ·simp[e]
    have hgo:=gp_sound g1 hs (K:=wpAny P .any ops Q fuel (listed.setIfInBounds i true)) (Q:=Q) (fun g' a' w' hs'=>
     ih (listed.setIfInBounds i true) s1 s' g' a' w' (by simpa using hsz) (by
      obtain⟨v1,v2,d1,d2,d3⟩:=zFU (p:=fun i=> !listed.getD i true) hilt (by simp[h1])
      have hf2:((List.range ops.size).filter fun k=> !(listed.setIfInBounds i true).getD k true)=v1++v2:=by
       rw[<-d3]
       apply List.filter_congr
       intro k hk
       rw[List.mem_range] at hk
       rw[zDS (n:=0) listed i k true (by omega)]
       by_cases e:k=i
       ·simp[e]
       ·simp[e]
      rw[hf2]
      rw[d1] at hlen
      simp only[List.length_append,List.length_cons] at hlen ⊢
      omega) (by rw[zDS (n:=0) listed i kp true (by omega),if_neg (by omega)];exact hk) (fun j oj hj hl e he=>by
      have hjlt:=lt_of_getElem? hj
      have helt:=hedge j oj hj e he
      rw[zDS (n:=0) listed i j true (by omega)] at hl
      rw[zDS (n:=0) listed i e true (by omega)]
      split
      ·rfl
      ·split at hl
       ·rename_i hji
        subst hji
        rw[h2] at hj;cases hj
        exact hready e he
       ·exact hcl j oj hj hl e he) (by rw[hfil];exact hc') hp hs' (by rw[hfil];exact hS') (by rw[f1];exact hn))
    unfold wpOp
    simp only[h2]
    split
    ·rename_i hw;rw[if_pos hw] at hgo;exact .inl hgo
    ·rename_i hw;rw[if_neg hw] at hgo;exact hgo
   ·have hq: ∀k,k∈((List.range ops.size).filter fun k=> !listed.getD k true&&decide (k<i))->pins.contains k=false∧∀o,ops[k]? =some o->(isAB B o.op||zDL o.op||zCZ o.op)=true∧∃d,o.dst=some d∧d∉zC4 op.op:=fun k hk=>by
     rw[List.mem_filter,List.mem_range] at hk
     simp only[zq7,Bool.not_eq_true',decide_eq_true_eq] at hk
     have hnl:k∉(zDQ ops.toList).getD i []:=fun hm=>by rw[hancl k hm] at hk;exact absurd hk.2.1 (by simp)
     refine⟨?_,(hpq k hk.2.2 hk.1).resolve_left hnl⟩
     cases hpk:pins.contains k with
     |false=>rfl
     |true=>exact absurd (zIr hpin hpk hk.2.2 hilt) hnl
    obtain⟨q1,q2,q3,q4⟩:=zJ3 (U:=zC4 op.op) hq hc
    rw[hop] at h2;cases h2
    obtain⟨hg,hw⟩:=(hp.back hpc q1 q2 q3 q4).sound hs (K:=wpAny P .any ops Q fuel (listed.setIfInBounds i true)) (Q:=Q) (fun ch g' s2 w' h1 h2=>hQ ch g' a w' s2 h1 h2)
    unfold wpOp
    simp only[hop]
    rw[if_pos (by simp[Region.wanted,hg])]
    exact .inl hw
   ·exfalso
    have:=hancl kp (hpa i hik hilt)
    rw[hk] at this;cases this
theorem zBo(B:List Nat)(pins:List Nat)(k:Nat)(hm:P.follows .mixedOrders=true)(hn:s.n=n)(hok:regOk B ops n=true)(hpin:pinsOk ops pins=true)(hk:panOk B ops k=true)
 (h:AOpsX P B ops pins (fun s'=>PanOp P ops[k]? s' (PanE Q)) (ops.toList.take k) 0 s.fresh):AWp P (.region id ops true) Q s:=by
 obtain⟨s',h1,h2⟩:=AOpsX.chainT (ops.toList.take k) 0 s.fresh (fun j hj=>by
  rw[List.length_take] at hj
  rw[List.getElem?_take,if_pos (by omega),Array.getElem?_toList,Nat.zero_add]) h
 cases ho:ops[k]? with
 |none=>rw[ho] at h2;exact h2.elim
 |some op=>
  rw[ho] at h2
  have hkl:=lt_of_getElem? ho
  intro F g a w hs
  have hrep: ∀j,j<ops.size->(Array.replicate ops.size false).getD j true=false:=fun j hj=>by
   rw[zq6,Array.getElem?_replicate,if_pos hj];rfl
  have hall:((List.range ops.size).filter fun i=> !(Array.replicate ops.size false).getD i true&&decide (i<k))=List.range' 0 k:=by
   have:(List.range ops.size).filter (fun i=> !(Array.replicate ops.size false).getD i true&&decide (i<k))=(List.range ops.size).filter (fun i=>decide (i<k)):=by
    apply List.filter_congr
    intro i hi
    rw[List.mem_range] at hi
    rw[hrep i hi];simp
   rw[this]
   obtain⟨q,hq⟩: ∃q,ops.size=k+q:=⟨ops.size-k,by omega⟩
   rw[hq,List.range_eq_range',<-List.range'_append_1,List.filter_append]
   have e1:(List.range' 0 k).filter (fun i=>decide (i<k))=List.range' 0 k:=by
    rw[List.filter_eq_self]
    intro i hi
    rw[List.mem_range'_1] at hi
    simpa using hi.2
   have e2:(List.range' (0+k) q).filter (fun i=>decide (i<k))=[]:=by
    rw[List.filter_eq_nil_iff]
    intro i hi
    rw[List.mem_range'_1] at hi
    simp;omega
   rw[e1,e2,List.append_nil]
  refine wp_region_any hm (any_wpP (F:=F) (n:=n) (kp:=k) (op:=op) (E:=PanE Q) hok hpin hk ho (fun ch g a w s h3 h4=>⟨g,s,h4,h3⟩) ops.size _ s.fresh s' g a _ (by simp) ?_ (hrep k hkl) ?_ ?_ h2 hs.fresh.drew (fun _ _ _ _ _ _ _ t hl=>by cases hl) hn)
  ·exact Nat.le_trans (List.length_filter_le _ _) (by simp)
  ·intro j o hj hl
   rw[hrep j (lt_of_getElem? hj)] at hl;cases hl
  ·rw[hall]
   have:(ops.toList.take k).length=k:=by rw[List.length_take];simp;omega
   rw[this] at h1
   exact h1
theorem zAS{N:AState->Prop}(h:Q (.panic ch) s):seqK N Q (.panic ch) s:=h
theorem zA0(h:Q (.panic ch) s):zI7 id Q (.panic ch) s:=h
theorem zDB{R V A:Type}{v:R}{f:R->Option A}{g:V->Option A}{r:A}(h:Sum.elim f g (.inl v)=some r):f v=some r:=h
def RetZ(P:Program)(fn:Func)(RP:List PanicEntry->AState->Prop)(R:AV->AState->Prop):Exit->AState->Prop
 |.panic ch,s=>RP ch s
 |e,s=>Ret P fn R e s
@[simp] theorem RetZ_panic(P:Program)(fn:Func)(RP:List PanicEntry->AState->Prop)(R:AV->AState->Prop)(ch:List PanicEntry)(s:AState):RetZ P fn RP R (.panic ch) s=RP ch s:=Eq.trans rfl rfl
@[simp] theorem RetZ_normal(P:Program)(fn:Func)(RP:List PanicEntry->AState->Prop)(R:AV->AState->Prop)(s:AState):RetZ P fn RP R .normal s=Ret P fn R .normal s:=Eq.trans rfl rfl
@[simp] theorem RetZ_ret(P:Program)(fn:Func)(RP:List PanicEntry->AState->Prop)(R:AV->AState->Prop)(s:AState):RetZ P fn RP R .ret s=Ret P fn R .ret s:=Eq.trans rfl rfl
theorem rawP_of_body {bs bs':List (List AV)} (hf:P.funcs[f]? =some fn) (hname:(fn.name== "runtime.NumGoroutine")=false) (hb:fn.body=some c)
 (hn:args.length<=fn.ntmps) (hown:args.all (fun x=> !x.owns)=true) (h:AWp P c (fun e s=>e=.panic ch∧EndB s bs') (start fn.ntmps bs.length args bs)):RawP P f ch args bs bs':=by
 refine⟨⟨fn,hf,hname,by rw[hb];rfl⟩,fun g w vals hs h0 htg ha=>?_⟩
 refine calls_of_wp hf hb (wp_mono (h ⟨w,g⟩ g _ w (zIO hs h0 ha hn hown htg)) fun e a' w' ⟨g',s',h1,h2,h3⟩=>?_)
 subst h2
 refine⟨h1.defers,?_⟩
 obtain⟨g2,h5,h6,h7⟩:=h1.le' h3.le
 refine⟨{g2 with own:=fun p=>match p with|.tmp _=>none|q=>g2.own q},rfl,h5.callee,?_,fun t=>rfl,fun _ _ h=>h.elim⟩
 exact {h5.ext with
  imm:=h5.ext.imm
  immNew:=h5.ext.immNew
  mineσ:=h5.ext.mineσ
  mineOwn:=fun p k hk=>by
   cases p with
   |tmp t=>cases hk
   |cell b o=>exact h5.ext.mineOwn _ k hk}
theorem zBz{bs:List (List AV)}{α β:Type}{r:α ⊕ β}{bp:α->List (List AV)}{res:β->AV}{bs':β->List (List AV)}
 (hf:P.funcs[f]? =some fn) (hname:(fn.name== "runtime.NumGoroutine")=false) (hb:fn.body=some c) (hn:args.length≤fn.ntmps) (hown:args.all (fun x=> !x.owns)=true)
 (h:AWp P c (RetZ P fn (fun ch' s=> ∃x,r=.inl x∧ch'=ch∧EndB s (bp x)) (fun v s=> ∃x,r=.inr x∧v=res x∧EndB s (bs' x)∧((bs' x).length=s.blocks.length∨(res x).under (bs' x).length=true))) (start fn.ntmps bs.length args bs)):
 Sum.elim (fun x=>RawP P f ch args bs (bp x)) (fun x=>Raw P f args bs (res x) (bs' x)) r:=by
 cases r with
 |inl x=>
  refine rawP_of_body hf hname hb hn hown (zGU h fun e s hq=>?_)
  have no: ∀e',Ret P fn (fun v s=> ∃y,(Sum.inl x:α ⊕ β)=.inr y∧v=res y∧EndB s (bs' y)∧((bs' y).length=s.blocks.length∨(res y).under (bs' y).length=true)) e' s->False:=fun e' hr=>by
   have hr:=Ret.mono (R':=fun _ _=>False) (fun v s ⟨y,hy,_⟩=>by cases hy) hr
   cases e' with
   |normal=>simp only[Ret] at hr;split at hr;exact hr.2;exact hr
   |ret=>simp only[Ret] at hr;split at hr;exact hr.2;exact hr
   |_=>exact hr
  cases e with
  |panic ch'=>
   obtain⟨y,h1,h2,h3⟩:=hq
   cases h1
   exact⟨by rw[h2],h3⟩
  |normal=>exact(no .normal hq).elim
  |ret=>exact(no .ret hq).elim
  |exit i=>exact(no (.exit i) hq).elim
  |goto l=>exact(no (.goto l) hq).elim
  |outgrown=>exact(no .outgrown hq).elim
 |inr x=>
  refine zA9 hf hname hb hn hown (zGU h fun e s hq=>?_)
  have go: ∀e',Ret P fn (fun v s=> ∃y,(Sum.inr x:α ⊕ β)=.inr y∧v=res y∧EndB s (bs' y)∧((bs' y).length=s.blocks.length∨(res y).under (bs' y).length=true)) e' s->
   Ret P fn (fun r s=>r=res x∧EndB s (bs' x)∧((bs' x).length=s.blocks.length∨(res x).under (bs' x).length=true)) e' s:=fun e' hr=>
   Ret.mono (fun v s ⟨y,h1,h2,h3,h4⟩=>by cases h1;exact⟨h2,h3,h4⟩) hr
  cases e with
  |panic ch'=>
   obtain⟨y,h1,_⟩:=hq
   cases h1
  |normal=>exact go .normal hq
  |ret=>exact go .ret hq
  |exit i=>exact go (.exit i) hq
  |goto l=>exact go (.goto l) hq
  |outgrown=>exact go .outgrown hq
attribute [simp] PanOp
theorem zKc{zE5:Nat->Option (Nat×Nat)}{l:List (Nat×Value)}{c c':Array Value}(h:Instr.fill zE5 c ((i,v)::l)=some c'):
 ∃off sz c1,zE5 i=some (off,sz)∧v.cells.size=sz∧off+sz<=c.size∧Instr.fill zE5 c1 l=some c'∧c1.size=c.size∧∀j,c1.getD j undef=if off<=j∧j<off+sz then v.cells.toList.getD (j-off) undef else c.getD j undef:=by
 simp only[Instr.fill] at h
 split at h
 ·cases h
 ·rename_i off sz hp
  split at h
  ·cases h
  ·rename_i hc
   have hc:v.cells.size=sz∧off+v.cells.size<=c.size:=by
    simp[-Value.cells] at hc;omega
   rw[zG3] at h
   obtain⟨w1,w2⟩:=zHv off v.cells.toList 0 c (by rw[Array.length_toList];omega)
   simp only[Nat.add_zero,Array.length_toList] at w1 w2
   refine⟨off,sz,_,hp,hc.1,by omega,h,w1,fun j=>?_⟩
   rw[w2,hc.1]
theorem fill_keep{zE5:Nat->Option (Nat×Nat)}{j:Nat}: ∀(parts:List (Nat×Value))(c c':Array Value),Instr.fill zE5 c parts=some c'->(∀q,q∈parts->∀off sz,zE5 q.1=some (off,sz)->¬(off<=j∧j<off+sz))->c'.getD j undef=c.getD j undef
 |[],c,c',h,_=>by cases h;rfl
 |(i,v)::l,c,c',h,hn=>by
  obtain⟨off,sz,c1,e1,e2,e3,e4,e5,e6⟩:=zKc h
  rw[fill_keep l c1 c' e4 fun q hq=>hn q (zqc _ hq),e6 j,if_neg (hn (i,v) (zq9 ..) off sz e1)]
theorem fill_get{zE5:Nat->Option (Nat×Nat)}{i j:Nat}{v:Value}{p2:List (Nat×Value)}(hpl:zE5 i=some (j,1))(hv:v.cells=#[v])
 (h2: ∀q,q∈p2->∀off sz,zE5 q.1=some (off,sz)->¬(off<=j∧j<off+sz)): ∀(p1:List (Nat×Value))(c c':Array Value),Instr.fill zE5 c (p1++(i,v)::p2)=some c'->c'.getD j undef=v
 |[],c,c',h=>by
  obtain⟨off,sz,c1,e1,e2,e3,e4,e5,e6⟩:=zKc h
  rw[hpl] at e1;cases e1
  rw[fill_keep p2 c1 c' e4 h2,e6 j,if_pos (by omega),Nat.sub_self,hv]
  rfl
 |q::p1,c,c',h=>by
  obtain⟨i',v'⟩:=q
  obtain⟨_,_,c1,_,_,_,e4,_,_⟩:=zKc h
  exact fill_get hpl hv h2 p1 c1 c' e4
theorem zHE{P:Program}{a:Addr}: ∀(l1 l2:List Value)(i:Nat)(w w1:World),(storeCells a l1 i).run P w=.ok () w1->(storeCells a (l1++l2) i).run P w=(storeCells a l2 (i+l1.length)).run P w1
 |[],l2,i,w,w1,h=>by
  have h:(Result.ok () w:Result Unit)=.ok () w1:=h
  cases h;rfl
 |v::l1,l2,i,w,w1,h=>by
  simp only[List.cons_append,storeCells,Sem.run_bind] at h ⊢
  cases hs:(store (a.add i) v).run P w with
  |ok u w2=>
   rw[hs] at h
   simp only[Result.andThen_ok] at h ⊢
   rw[zHE l1 l2 (i+1) w2 w1 h,List.length_cons,show i+1+l1.length=i+(l1.length+1) by omega]
  |halt e w2=>rw[hs] at h;cases h
def giveS(s:AState)(b j u:Nat)(cells:List AV)(x:AV):AState:=((((s.setCells b 0 (cells.take j)).takeS (.tmp u)).setCell b j x).setCells b (j+1) (cells.drop (j+1)))
def notCov(P:Program)(fields:Array Field)(parts:List (Nat×Operand))(j:Nat):Bool:=
 parts.all fun q=>match zGq P fields q.1 with
  |some (off,sz)=> !(decide (off<=j)&&decide (j<off+sz))
  |none=>true
def GiveC(P:Program)(t:TypeId)(d e u m j:Nat)(parts:Array (Nat×Operand))(s:AState)(K:AState->Prop):Prop:=
 match zGK P s t parts,P.underlying t,P.info? t,s.get u with
 |some ⟨side,.agg cells,_,_⟩,some (.struct fields),some i,.osl ec l=>
  match zFh P (s.put d (.agg cells)) t,parts[m]? with
  |some ra,some (f,.tmp u')=>u'=u∧side∧ra.side∧zGq P fields f=some (j,1)∧notCov P fields (parts.toList.drop (m+1)) j=true∧(d≠e∧d≠u∧e≠u)∧(d<s.n∧e<s.n)∧
   (cells.map AV.copy).all AV.one=true∧cells.length=i.size∧j<cells.length∧cells.length<=(((s.put d (.agg cells)).putR (some e) ra).blocks.getD s.blocks.length []).length∧
   K (giveS ((s.put d (.agg cells)).putR (some e) ra) s.blocks.length j u (cells.map AV.copy) (.osl ec l))
  |_,_=>False
 |_,_,_,_=>False
theorem zH6(b:Nat): ∀(xs:List AV)(o:Nat)(s:AState),(s.setCells b o xs).tmps=s.tmps
 |[],_,_=>rfl
 |x::xs,o,s=>zH6 b xs (o+1) (s.setCell b o x)
theorem zGG(b:Nat): ∀(xs:List AV)(o:Nat)(s:AState),((s.setCells b o xs).blocks.getD b []).length=(s.blocks.getD b []).length
 |[],_,_=>rfl
 |x::xs,o,s=>(zGG b xs (o+1) (s.setCell b o x)).trans (zHg s b o x)
theorem takeV_slot{u:Nat}{ec:EC}(h:s.get u=.osl ec l):s.takeV (.tmp u)=.osl ec l:=by
 have ho:s.owner u=some (.tmp u):=by unfold AState.owner;rw[h];rfl
 simp only[AState.takeV,ho]
 exact h
theorem slice_cell{ec:EC}(h:Rep imm σ (.osl ec l) v):v.cells=#[v]:=zKh (h.oneCell rfl)
theorem giveC_sound{o1 o2 o3:Oper}{rest:List Oper}{Q:Exit->Act->World->Prop}{d e u m j:Nat}{parts:Array (Nat×Operand)}
 (h1:o1.op=.build t parts) (d1:o1.dst=some d) (gd1:o1.guard=none) (h2:o2.op=.alloc t) (d2:o2.dst=some e) (gd2:o2.guard=none) (h3:o3.op=.store t (.tmp e) (.tmp d)) (d3:o3.dst=none) (gd3:o3.guard=none)
 (hc:GiveC P t d e u m j parts s K) {g:Gh} {a:Act} {w:World} (hs:Sim F g s a w) (hK: ∀g s a w,K s->Sim F g s a w->wpList P ops Q rest a w):wpList P ops Q (o1::o2::o3::rest) a w:=by
 unfold GiveC at hc
 split at hc
 case h_2=>exact hc.elim
 rename_i _ _ _ _ side cells ln st fields i ec l hb hu hi hg
 split at hc
 case h_2=>exact hc.elim
 rename_i ra f u' hra hpm
 obtain⟨rfl,hside,hras,hpl,hnc,⟨hde,hdu,heu⟩,⟨hdn,hen⟩,hone,hlen,hj,hbl,hk⟩:=hc
 unfold zGK at hb
 rw[hi,hu] at hb
 simp only at hb
 split at hb
 case h_2=>cases hb
 rename_i z hz
 split at hb
 case h_2=>cases hb
 rename_i cells0 hf
 simp only[Option.some.injEq,Res.mk.injEq,AV.agg.injEq] at hb
 obtain⟨hsd,hce,rfl,rfl⟩:=hb
 rw[hce] at hf
 rw[<-hsd] at hside
 obtain⟨hs1,hs2⟩:=hside
 obtain⟨c',e1,e2⟩:=fill_ok (imm:=g.imm) (σ:=g.σ) _ (parts.map fun(i,x)=>(i,a.eval x)).toList _ _ z.cells hf (zE1 (zEN z) hs1) (by simp) (zKL hs parts)
 have hplaces:(fields.mapM fun f=>(do pure (f.offset,<-sizeOf f.type):Sem (Nat×Nat))).run P w=.ok (fields.map fun f=>(f.offset,P.cellsOf f.type)) w:=by
  refine run_mapM _ _ w fields fun f hf=>?_
  rw[Array.all_eq_true'] at hs2
  have hsome:=hs2 f (by simpa using hf)
  cases hfi:P.info? f.type with
  |none=>rw[hfi] at hsome;simp at hsome
  |some k=>simp[sizeOf,typeInfo,hfi,Program.cellsOf]
 have hfun:(fun q=>(fields.map fun f=>(f.offset,P.cellsOf f.type))[q]?)=zGq P fields:=funext fun q=>by
  rw[Array.getElem?_map]
  unfold zGq
  cases hq:fields[q]? with
  |none=>rfl
  |some f=>
   rw[Array.all_eq_true'] at hs2
   have hsome:=hs2 f (Array.mem_of_getElem? hq)
   cases hfi:P.info? f.type with
   |none=>rw[hfi] at hsome;simp at hsome
   |some k=>simp[Program.cellsOf,hfi]
 have hrun1:(execOp a.eval o1).run P w=.ok (.value (.agg c')) w:=by
  simp only[execOp,h1,Instr.build,zeroValue,typeInfo,underlying,Sem.run_bind,run_program,Result.andThen_ok,hi,hz,Sem.run_pure,hu,hplaces,hfun,e1]
 have hus:Rep g.imm g.σ (.osl ec l) (a.tmps.getD u' undef):=by have:=(hs.tmps u').1;rwa [show s.tmps u'=.osl ec l from hg] at this
 have hcj:c'.getD j undef=a.tmps.getD u' undef:=by
  have hm:m<parts.size:=(Array.getElem?_eq_some_iff.1 hpm).1
  have hsplit:(parts.map fun(i,x)=>(i,a.eval x)).toList=(parts.toList.take m).map (fun q=>(q.1,a.eval q.2))++(f,a.tmps.getD u' undef)::(parts.toList.drop (m+1)).map (fun q=>(q.1,a.eval q.2)):=by
   rw[Array.toList_map]
   have hm':m<parts.toList.length:=by simpa using hm
   have hx:parts.toList[m]=(f,.tmp u'):=by
    have:parts.toList[m]? =some (f,.tmp u'):=by rw[Array.getElem?_toList];exact hpm
    rw[zq2 hm'] at this
    exact zqa this
   have:parts.toList=parts.toList.take m++(f,.tmp u')::parts.toList.drop (m+1):=by
    rw[<-hx,<-List.drop_eq_getElem_cons hm',List.take_append_drop]
   conv=>lhs;rw[this]
   rw[List.map_append,List.map_cons]
   rfl
  rw[hsplit] at e1
  refine fill_get hpl (slice_cell hus) (fun q hq off sz hq2 hcov=>?_) _ _ _ e1
  obtain⟨y,hy,rfl⟩:=List.mem_map.1 hq
  have:=zq8 hnc y hy
  rw[hq2] at this
  simp only[Bool.not_eq_true',Bool.and_eq_false_iff,decide_eq_false_iff_not] at this
  omega
 have sim1:=hs.putTmp d none (x:=.agg cells) (v:=.agg c') (.agg _ _ e2.1 e2.2) trivial Floating.none
 have hn1:(s.put d (.agg cells)).n=s.n:=by unfold AState.put;split<;>rfl
 have hb1:(s.put d (.agg cells)).blocks=s.blocks:=by unfold AState.put;split<;>rfl
 obtain⟨v2,w2,g2',bo2,hrun2,q1,q2,q3,q4,q5⟩:=ok_alloc P o2 _ t h2 ra hra hras F _ _ _ sim1
 have sim2:=q1.putL e bo2 ra.loan q2 q3 q4 q5
 unfold zFh at hra
 rw[hi] at hra
 simp only[hz,Option.some.injEq] at hra
 subst hra
 generalize hS2:((s.put d (.agg cells)).putR (some e) (zJM P t (s.put d (.agg cells)) (AV.ofConst z).cells))=s2 at hk hbl
 simp only[zJM,hb1] at q2 sim2
 generalize hg2:(g2'.give (.tmp e) bo2)=g2 at sim2
 generalize ha2:((a.put (some d) (.agg c')).put (some e) v2)=a2 at sim2
 have hs2e:s2=((s.put d (.agg cells)).push (markB P t s.blocks.length (AV.ofConst z).cells)).putL e (.mptr s.blocks.length 0) none:=by
  rw[<-hS2];simp only[AState.putR,zJM,hb1]
 rw[<-hs2e] at sim2
 have hput: ∀(s:AState)(d:Nat)(x:AV)(t:Nat),d<s.n->(s.put d x).get t=if t=d then x else s.get t:=fun s d x t hd=>by
  unfold AState.put;rw[if_pos hd];rfl
 have hget: ∀t,s2.get t=if t=e then .mptr s.blocks.length 0 else if t=d then .agg cells else s.get t:=fun t=>by
  rw[hs2e]
  show(AState.put _ e _).get t=_
  rw[hput _ e _ t (by show e<(s.put d (.agg cells)).n;rw[hn1];exact hen)]
  split
  ·rfl
  ·exact hput s d _ t hdn
 have hsz:s.n=a.tmps.size:=hs.size
 have hev: ∀t,t≠e->a2.tmps.getD t undef=if t=d then .agg c' else a.tmps.getD t undef:=fun t ht=>by
  rw[<-ha2]
  simp only[Act.put]
  rw[zDR,if_neg (fun h=>ht h.1),zDR]
  by_cases h:t=d
  ·rw[if_pos ⟨h,by omega⟩,if_pos h]
  ·rw[if_neg (fun h'=>h h'.1),if_neg h]
 have hed:a2.eval (.tmp d)=.agg c':=by show a2.tmps.getD d undef=_;rw[hev d hde,if_pos rfl]
 have heu':a2.eval (.tmp u')=a.tmps.getD u' undef:=by show a2.tmps.getD u' undef=_;rw[hev u' (Ne.symm heu),if_neg (Ne.symm hdu)]
 have hpe:=(sim2.tmps e).1
 rw[show s2.tmps e=_ from hget e,if_pos rfl] at hpe
 obtain⟨k,hkk,hpv⟩: ∃k,g2.σ[s.blocks.length]? =some k∧a2.tmps.getD e undef=.pointer (some ⟨k,0,none⟩):=by
  generalize a2.tmps.getD e undef=vv at hpe
  cases hpe with
  |mptr _ _ k hk=>exact⟨k,hk,rfl⟩
 have hcd:=(sim2.tmps d).1
 rw[show s2.tmps d=_ from hget d,if_neg hde,if_pos rfl,hev d hde,if_pos rfl] at hcd
 have hrl:RepL g2.imm g2.σ cells c':=by cases hcd with|agg _ _ h1 h2=>exact⟨h1,h2⟩
 have hrc:=hrl.map_copy
 have hcl:c'.toList.length=cells.length:=by rw[Array.length_toList];exact hrl.1
 have hown: ∀(q:Nat) x,(cells.map AV.copy)[q]? =some x->x.one=true∧x.owns=false:=fun q x hx=>⟨zII hone hx,by obtain⟨z',_,rfl⟩:=getElem?_map_some hx;exact zDw _⟩
 have hrq: ∀(q:Nat) x,(cells.map AV.copy)[q]? =some x->Rep g2.imm g2.σ x (c'.toList.getD q undef):=fun q x hx=>by
  have:=hrc.2 q x hx
  rw[zq6] at this
  rw[zq5,Array.getElem?_toList];exact this
 have hcml:(cells.map AV.copy).length=cells.length:=zq4 ..
 obtain⟨g3',w3,r1,sim3,i3,s3⟩:=zKB (P:=P) s.blocks.length k 0 ((cells.map AV.copy).take j) (c'.toList.take j) 0 s2 g2 _ sim2 hkk (by rw[List.length_take,List.length_take,hcml,hcl])
  (fun q x hx=>by
   rw[List.getElem?_take] at hx
   split at hx
   ·rename_i hq
    refine⟨(hown q x hx).1,(hown q x hx).2,?_⟩
    have:=hrq q x hx
    rwa [zq5,List.getElem?_take,if_pos hq,<-zq5]
   ·cases hx) (by rw[List.length_take,hcml];omega)
 simp only[Nat.zero_add] at sim3
 have htv:(s2.setCells s.blocks.length 0 ((cells.map AV.copy).take j)).takeV (.tmp u')=.osl ec l:=takeV_slot (by
  show(s2.setCells s.blocks.length 0 ((cells.map AV.copy).take j)).tmps u'=_
  rw[zH6]
  have:=hget u'
  rw[if_neg (Ne.symm heu),if_neg (Ne.symm hdu),hg] at this
  exact this)
 obtain⟨g4,bo,sim4,rep4,own4,flo4,i4,s4⟩:=zHB sim3 (.tmp u')
 rw[htv] at rep4 own4
 have hk4:g4.σ[s.blocks.length]? =some k:=by rw[s4,s3];exact hkk
 have hin:j<(((s2.setCells s.blocks.length 0 ((cells.map AV.copy).take j)).takeS (.tmp u')).blocks.getD s.blocks.length []).length:=by
  rw[zIL,zGG];omega
 obtain⟨uu,huu,_,_,hfz⟩:=sim4.cell (zCj AV.top hin) hk4
 have sim5:=sim4.putCell s.blocks.length j k bo rfl hk4 rep4 own4 flo4
 have hst:(store ((⟨k,0,none⟩:Addr).add j) (a2.eval (.tmp u'))).run P w3=.ok () (w3.setCell ⟨k,j,none⟩ (a2.eval (.tmp u'))):=by
  rw[run_store _ _ _ _ _ (rep4.oneCell rfl),add_mk,Nat.zero_add,huu]
  simp[hfz]
 obtain⟨g6,w6,r2,sim6,_,_⟩:=zKB (P:=P) s.blocks.length k 0 ((cells.map AV.copy).drop (j+1)) (c'.toList.drop (j+1)) (j+1) _ _ _ sim5 (by simpa using hk4) (by rw[List.length_drop,List.length_drop,hcml,hcl])
  (fun q x hx=>by
   rw[List.getElem?_drop] at hx
   refine⟨(hown _ x hx).1,(hown _ x hx).2,?_⟩
   have:=hrq _ x hx
   rw[zq5,List.getElem?_drop,<-zq5]
   simp only[Gh.give_imm,Gh.give_σ,i4,s4,i3,s3]
   exact this) (by rw[zHg,zIL,zGG,List.length_drop,hcml];omega)
 simp only[Nat.zero_add] at sim6
 have hall:(storeCells ⟨k,0,none⟩ c'.toList 0).run P w2=.ok () w6:=by
  have hsp:c'.toList=c'.toList.take j++(a2.eval (.tmp u')::c'.toList.drop (j+1)):=by
   have hj':j<c'.toList.length:=by rw[hcl];exact hj
   have he:c'.toList[j]=a2.eval (.tmp u'):=by
    rw[heu',<-hcj,zq6,<-Array.getElem?_toList,zq2 hj'];rfl
   rw[<-he,<-List.drop_eq_getElem_cons hj',List.take_append_drop]
  rw[hsp,zHE _ _ _ _ _ r1]
  have hl:0+(c'.toList.take j).length=j:=by rw[List.length_take,hcl];omega
  rw[hl]
  simp only[storeCells,Sem.run_bind,hst,Result.andThen_ok]
  exact r2
 have hrun3:(execOp a2.eval o3).run P w2=.ok .skip w6:=by
  have hpv':a2.eval (.tmp e)=.pointer (some ⟨k,0,none⟩):=hpv
  have hsz2:c'.size=i.size:=by rw[hrl.1];exact hlen
  have hall':(storeCells ⟨k,0,none⟩ (Value.agg c').cells.toList 0).run P w2=.ok () w6:=hall
  simp[execOp,h3,Instr.storeAt,Instr.sureAddr,hpv',storeVar,sizeOf,typeInfo,hi,hed]
  rw[if_pos hsz2,show Sem.run P (storeCells ⟨k,0,none⟩ c'.toList) w2=_ from hall]
  rfl
 unfold wpList
 rw[if_pos (by simp[Region.wanted,gd1])]
 refine .inl ?_
 simp only[Oper.wp,hrun1,Oper.upon,d1]
 unfold wpList
 rw[if_pos (by simp[Region.wanted,gd2])]
 refine .inl ?_
 have fin:wpList P ops Q (o3::rest) a2 w2:=by
  unfold wpList
  rw[if_pos (by simp[Region.wanted,gd3])]
  refine .inl ?_
  simp only[Oper.wp,hrun3,Oper.upon,d3]
  exact hK _ _ _ _ hk sim6
 rcases hrun2 with hrun2|⟨hrun2,rfl⟩
 ·simp only[Oper.wp,hrun2,Oper.upon,d2]
  rw[ha2];exact fin
 ·simp only[Oper.wp,hrun2,Oper.upon,d2]
  rw[ha2];exact fin
theorem stG(k u m j:Nat){o1 o2 o3:Oper}{d e:Nat}{parts:Array (Nat×Operand)}
 (hd:ops.toList.drop k=[o1,o2,o3]) (h1:o1.op=.build t parts) (d1:o1.dst=some d) (g1:o1.guard=none) (h2:o2.op=.alloc t) (d2:o2.dst=some e) (g2:o2.guard=none) (h3:o3.op=.store t (.tmp e) (.tmp d)) (d3:o3.dst=none) (g3:o3.guard=none)
 (h:AOps P ops (fun s'=>GiveC P t d e u m j parts s' (Q .normal)) (ops.toList.take k) s.fresh):AWp P (.region id ops false) Q s:=fun F g a w hs=>by
 refine wp_region_list ?_
 have:=AOps.sound_app (F:=F) (l2:=ops.toList.drop k) (Q:=fun e a w=> ∃g s',Sim F g s' a w∧Q e s') (fun g s a w hk hs=>by
  rw[hd]
  exact giveC_sound h1 d1 g1 h2 d2 g2 h3 d3 g3 hk hs fun g s a w hq hs=>⟨g,s,hs,hq⟩) (ops.toList.take k) s.fresh g a w h hs.fresh
 rwa [List.take_append_drop] at this
attribute [simp] GiveC giveS notCov zGq
end Go.Abs
