/- For every input the law PatternBack returns true. Part 6 of 23. No condition. -/
import Derived.Test.YtbnahfdbjaohkaaGreatDoorPBe
import Derived.Orders
set_option linter.unusedVariables false
set_option linter.unnecessarySimpa false
set_option linter.unusedSimpArgs false
set_option maxRecDepth 100000
set_option maxHeartbeats 4000000
namespace Go.Abs
open Go
variable {P:Program} {ops:Array Oper} {imm:Addr->Option Value} {w:World} {B:List Nat} {a:Act} {o:Oper} {f:FuncId} {v:Value} {α:Type} {x:Operand} {σ:List Nat} {c:Code} {ρ:List Nat} {t:TypeId} {bo:Option Nat} {n:Nat} {id:Nat} {fn:Func} {ch:List PanicEntry} {i:Nat} {pins:List Nat} {D:List Deferred} {k:IntKind} {args:List AV} {l:List (List AV)} {res:AV} {m:Option Place} {s:AState} {Q:Exit->AState->Prop} {F:Fx} {g:Gh} {K:AState->Prop} {R:AV->AState->Prop} {E:List PanicEntry->AState->Prop} {r:Res}
theorem zH9{ops:List Oper}{L:Nat->Prop}(hcl: ∀(j:Nat) o,ops[j]? =some o->L j->∀e,e∈zDJ o->L e):
 ∀(j:Nat) o,ops[j]? =some o->(∀e,e∈zDJ o->L e)->∀k,k∈(zDl ops).getD j []->L k:=by
 have key: ∀(pre suf:List Oper)(acc:List (List Nat)),ops=pre++suf->acc.length=pre.length->
  (∀(j:Nat) o,pre[j]? =some o->(∀e,e∈zDJ o->L e)->∀k,k∈acc.getD j []->L k)->
  (∀(j:Nat) o,ops[j]? =some o->(∀e,e∈zDJ o->L e)->∀k,k∈(suf.foldl (fun acc o=>acc++[((zDJ o).flatMap fun e=>e::acc.getD e []).eraseDups]) acc).getD j []->L k):=by
  intro pre suf
  induction suf generalizing pre with
  |nil=>
   intro acc he hl h j o hj ho k hk
   rw[List.append_nil] at he
   subst he
   exact h j o hj ho k hk
  |cons x suf ih=>
   intro acc he hl h
   simp only[List.foldl_cons]
   refine ih (pre++[x]) _ (by simp[he]) (by simp[hl]) fun j o hj ho k hk=>?_
   rcases zBz hj with ⟨hlt,hj1⟩|⟨q,rfl,hj1⟩
   ·rw[zDO (by omega)] at hk
    exact h j o hj1 ho k hk
   ·cases q with
    |succ q=>simp at hj1
    |zero=>
     simp only[List.getElem?_cons_zero,Option.some.injEq] at hj1
     subst hj1
     rw[zq5,List.getElem?_append_right (by omega)] at hk
     simp only[Nat.add_zero,hl,Nat.sub_self,List.getElem?_cons_zero,Option.getD_some] at hk
     rw[List.mem_eraseDups] at hk
     obtain⟨e,he1,he2⟩:=List.mem_flatMap.1 hk
     simp only[List.mem_cons] at he2
     rcases he2 with rfl|he2
     ·exact ho _ he1
     ·have hLe:=ho e he1
      by_cases hlt:e<pre.length
      ·have hpe:=zq2 hlt
       have hoe:ops[e]? =some pre[e]:=by rw[he,List.getElem?_append_left hlt];exact hpe
       exact h e _ hpe (fun e' he'=>hcl e _ hoe hLe e' he') k he2
      ·rw[zq5,List.getElem?_eq_none (by omega)] at he2
       cases he2
 exact key [] ops [] rfl rfl (fun j o hj=>by simp at hj)
theorem zJP(h:regOk B ops n=true):mvOk ops=true:=by
 simp only[regOk,zq7] at h;exact h.1.1
theorem regOk_spec(h:regOk B ops n=true):(∀(j:Nat) o,ops[j]? =some o->∀e,e∈zDJ o->e<j)∧dstsIn ops n∧
 ∀j,j<ops.size->∀k,k<j->k∈(zDl ops.toList).getD j []∨comm B ops k j=true:=by
 simp only[regOk,zq7] at h
 replace h:=And.intro h.1.2 h.2
 obtain⟨h1,h2⟩:=h
 have h1': ∀(j:Nat) o,ops[j]? =some o->(zDJ o).all (·<j)=true∧dstOk n o.dst=true:=fun j o hj=>by
  have hz:ops.toList.zipIdx[j]? =some (o,j):=by
   rw[List.getElem?_zipIdx,Array.getElem?_toList,hj];simp
  have:=(zq8 h1) (o,j) (zq3 hz)
  simpa only[zq7] using this
 refine⟨fun j o hj e he=>by simpa using(zq8 (h1' j o hj).1) e he,fun i o d hi hd=>?_,fun j hj k hk=>?_⟩
 ·have:=(h1' i o hi).2
  rw[hd] at this
  simpa[dstOk] using this
 ·have:=(zq8 ((zq8 h2) j (List.mem_range.2 hj))) k (List.mem_range.2 hk)
  simpa using this
theorem zGN{p:Nat->Bool}{n i:Nat}(hi:i<n)(hp:p i=true): ∃u1 u2,(List.range n).filter p=u1++i::u2∧(∀k,k∈u1->k<i∧p k=true)∧
 (List.range n).filter (fun k=>p k&&k !=i)=u1++u2:=by
 obtain⟨q,rfl⟩: ∃q,n=i+(1+q):=⟨n-(i+1),by omega⟩
 have hr:List.range (i+(1+q))=List.range i++i::(List.range' (i+1) q):=by
  rw[List.range_eq_range',List.range_eq_range',<-List.range'_append_1,<-List.range'_append_1]
  simp[List.range'_one]
 refine⟨(List.range i).filter p,(List.range' (i+1) q).filter p,?_,fun k hk=>?_,?_⟩
 ·rw[hr,List.filter_append,List.filter_cons_of_pos hp]
 ·rw[List.mem_filter,List.mem_range] at hk;exact hk
 ·rw[hr,List.filter_append,List.filter_cons_of_neg (by simp)]
  congr 1
  ·apply List.filter_congr
   intro k hk
   rw[List.mem_range] at hk
   have:(k !=i)=true:=by simp;omega
   rw[this,Bool.and_true]
  ·apply List.filter_congr
   intro k hk
   rw[List.mem_range'_1] at hk
   have:(k !=i)=true:=by simp;omega
   rw[this,Bool.and_true]
theorem zEJ{n:Nat}(l:Array Bool)(i j:Nat)(z:Bool)(hj:j<l.size):(l.setIfInBounds i true).getD j z=if j=i then true else l.getD j z:=by
 rw[zq6,Array.getElem?_setIfInBounds]
 by_cases e:i=j
 ·subst e;simp[hj]
 ·simp[e,Ne.symm e,zq6]
theorem anc_lt(hedge: ∀(j:Nat) o,ops[j]? =some o->∀e,e∈zDJ o->e<j){k i:Nat}(hk:k<ops.size)(h:i∈(zDl ops.toList).getD k []):i<k:=
 zH9 (ops:=ops.toList) (L:=fun x=>x<k) (fun j o hj hl e he=>Nat.lt_trans (hedge j o (by simpa using hj) e he) hl) k ops[k] (by simp[zqe hk]) (fun e he=>hedge k ops[k] (zqe hk) e he) i h
theorem zIx(hmv:mvOk ops=true)(hedge: ∀(j:Nat) o,ops[j]? =some o->∀e,e∈zDJ o->e<j){p:Nat->Bool}{u1 u2:List Nat}
 (h:(List.range ops.size).filter p=u1++i::u2):(u1++[i]).Pairwise (fun k i=> ¬mvBad ops k i):=by
 have h1:((List.range ops.size).filter p).Pairwise (·<·):=List.Pairwise.filter p List.pairwise_lt_range
 have h2:(u1++[i]).Pairwise (·<·):=by
  rw[h,show u1++i::u2=(u1++[i])++u2 by simp] at h1
  exact(List.pairwise_append.1 h1).1
 refine h2.imp fun {a b} hab hb=>?_
 have ha:a<ops.size:=by obtain⟨ok,_,_,h3,_⟩:=hb;exact lt_of_getElem? h3
 have:=anc_lt hedge ha (zJY hmv hb)
 omega
theorem any_wp{Q:Exit->Act->World->Prop}(hok:regOk B ops n=true): ∀(fuel:Nat)(listed:Array Bool)(s s':AState)(g:Gh)(a:Act)(w:World),
 listed.size=ops.size->((List.range ops.size).filter fun i=> !listed.getD i true).length<=fuel->
 (∀(j:Nat) o,ops[j]? =some o->listed.getD j true=true->∀e,e∈zDJ o->listed.getD e true=true)->
 Chain P B ops ((List.range ops.size).filter fun i=> !listed.getD i true) s s'->Sim F g s a w->LFree ops ((List.range ops.size).filter fun i=> !listed.getD i true) s->s.n=n->(∀g a w,Sim F g s' a w->Q .normal a w)->
 wpAny P .any ops Q fuel listed a w:=by
 obtain⟨hedge,hdst,hcomm⟩:=regOk_spec hok
 have hin: ∀(listed:Array Bool),listed.size=ops.size->∀i,i<ops.size->listed.getD i true=listed.getD i false:=fun listed hsz i hi=>by
  rw[zq6,zq6,zqe (by omega)];rfl
 have hleft: ∀(listed:Array Bool),listed.size=ops.size->Region.ready .any ops listed=[]->((List.range ops.size).filter fun i=> !listed.getD i true)=[]:=fun listed hsz hr=>by
  have all: ∀i,i<ops.size->listed.getD i true=true:=by
   intro i
   induction i using Nat.strongRecOn with
   |_ i ih=>
    intro hi
    cases hv:listed.getD i true with
    |true=>rfl
    |false=>
     have hmem:i∈Region.ready .any ops listed:=mem_ready.2 ⟨hv,ops[i],zqe hi,fun e he hb=>by
      have hlt:=hedge i _ (zqe hi) e.on (List.mem_map.2 ⟨e,List.mem_filter.2 ⟨by simpa using he,hb⟩,rfl⟩)
      rw[<-hin listed hsz e.on (by omega)];exact ih e.on hlt (by omega)⟩
     rw[hr] at hmem;cases hmem
  rw[List.filter_eq_nil_iff]
  intro i hi
  rw[List.mem_range] at hi
  simp[all i hi]
 intro fuel
 induction fuel with
 |zero=>
  intro listed s s' g a w hsz hlen hcl hc hs hS hn hQ
  have hnil:((List.range ops.size).filter fun i=> !listed.getD i true)=[]:=List.eq_nil_of_length_eq_zero (by omega)
  rw[hnil] at hc
  have:s'=s:=hc
  subst this
  refine⟨?_,hQ g a w hs⟩
  cases hr:Region.ready .any ops listed with
  |nil=>rfl
  |cons i l=>
   have hi:i∈Region.ready .any ops listed:=by rw[hr];exact zq9 ..
   obtain⟨h1,o,h2,_⟩:=mem_ready.1 hi
   have:i∈((List.range ops.size).filter fun i=> !listed.getD i true):=List.mem_filter.2 ⟨List.mem_range.2 (lt_of_getElem? h2),by simp[h1]⟩
   rw[hnil] at this;cases this
 |succ fuel ih=>
  intro listed s s' g a w hsz hlen hcl hc hs hS hn hQ
  refine⟨fun hr=>?_,fun i hi=>?_⟩
  ·rw[hleft listed hsz hr] at hc
   have:s'=s:=hc
   subst this
   exact hQ g a w hs
  ·obtain⟨h1,o,h2,h3⟩:=mem_ready.1 hi
   have hilt:=lt_of_getElem? h2
   have hready: ∀e,e∈zDJ o->listed.getD e true=true:=fun e he=>by
    obtain⟨ed,hed,rfl⟩:=List.mem_map.1 he
    rw[List.mem_filter] at hed
    have:=h3 ed (by simpa using hed.1) hed.2
    have hlt:=hedge i o h2 ed.on he
    rw[hin listed hsz _ (by omega)];exact this
   obtain⟨u1,u2,e1,e2,e3⟩:=zGN (p:=fun i=> !listed.getD i true) hilt (by simp[h1])
   have hcm: ∀k,k∈u1->comm B ops k i=true:=fun k hk=>by
    obtain⟨hlt,hk2⟩:=e2 k hk
    rcases hcomm i hilt k hlt with h|h
    ·exfalso
     have:=zH9 (ops:=ops.toList) (L:=fun j=>listed.getD j true=true) (fun j o hj=>hcl j o (by simpa using hj)) i o (by simpa using h2) hready k h
     rw[this] at hk2;simp at hk2
    ·exact h
   rw[e1,show u1++i::u2=(u1++[i])++u2 by simp] at hc
   obtain⟨m,hc1,hc2⟩:=(zFN _ _ _ _).1 hc
   obtain⟨s1,g1,g2⟩:=front h2 u1 s m hc1 hcm (fun q hq=>hS q (by rw[e1];rcases List.mem_append.1 hq with hq|hq;exact List.mem_append_left _ hq;rw[List.mem_singleton.1 hq];exact List.mem_append_right _ (zq9 ..))) (zIx (zJP hok) hedge e1) (by rw[hn];exact hdst) (fun _ t _=>by rw[<-hs.sto.len];exact(hs.tmps t).1.isUnder)
   have hc':Chain P B ops (u1++u2) s1 s':=(zFN _ _ _ _).2 ⟨m,g2,hc2⟩
   obtain⟨f1,f2,f3,f4⟩:=zE2 g1
   have hS':LFree ops (u1++u2) s1:=fun q hq oq d hoq hd hqt t hl=>by
    have hq':q∈(List.range ops.size).filter fun i=> !listed.getD i true:=by
     rw[e1]
     rcases List.mem_append.1 hq with hq|hq
     ·exact List.mem_append_left _ hq
     ·exact List.mem_append_right _ (zqc _ hq)
    rcases f3 t d hl with h|⟨hm,h⟩
    ·exact hS q hq' oq d hoq hd hqt t h
    ·have h5:=zH9 (ops:=ops.toList) (L:=fun j=>listed.getD j true=true) (fun j o hj=>hcl j o (by simpa using hj)) i o (by simpa using h2) hready q (zJY (zJP hok) ⟨o,oq,d,h2,hoq,hm,h,hd,hqt⟩)
     rw[List.mem_filter,h5] at hq'
     cases hq'.2
   have hfil:((List.range ops.size).filter fun k=> !(listed.setIfInBounds i true).getD k true)=u1++u2:=by
    rw[<-e3]
    apply List.filter_congr
    intro k hk
    rw[List.mem_range] at hk
    rw[zEJ (n:=0) listed i k true (by omega)]
    by_cases e:k=i
    ·simp[e]
    ·simp[e]
   have hgo:=GStep.sound g1 hs (K:=wpAny P .any ops Q fuel (listed.setIfInBounds i true)) (Q:=Q) (fun g' a' w' hs'=>
    ih (listed.setIfInBounds i true) s1 s' g' a' w' (by simpa using hsz) (by
     rw[hfil]
     have:=hlen
     rw[e1] at this
     simp only[List.length_append,List.length_cons] at this ⊢
     omega) (fun j oj hj hl e he=>by
     have hjlt:=lt_of_getElem? hj
     have helt:=hedge j oj hj e he
     rw[zEJ (n:=0) listed i j true (by omega)] at hl
     rw[zEJ (n:=0) listed i e true (by omega)]
     split
     ·rfl
     ·split at hl
      ·rename_i hji
       subst hji
       rw[h2] at hj;cases hj
       exact hready e he
      ·exact hcl j oj hj hl e he) (by rw[hfil];exact hc') hs' (by rw[hfil];exact hS') (by rw[f1];exact hn) hQ)
   unfold wpOp
   simp only[h2]
   split
   ·rename_i hw;rw[if_pos hw] at hgo;exact .inl hgo
   ·rename_i hw;rw[if_neg hw] at hgo;exact hgo
def CallD(P:Program)(B:List Nat)(f:FuncId)(args:List AV)(s:AState)(dst:Option Nat)(K:AState->Prop):Prop:=
 (∃res,Pure P f args res∧AV.flatL args=true∧res.owns=false∧K (s.putO dst res))∨
 (∃res bs' ρ,B≠[]∧FrRaw P f ρ args s.blocks res bs'∧res.owns=false∧(∀b,b∈ρ->b∈B)∧(B.contains 995=true->bs'=s.blocks)∧K (s.calledK ρ dst res bs'))
theorem callD{dst:Option Nat}(h:Pure P f args res)(h1:AV.flatL args=true)(h2:res.owns=false)(h3:K (s.putO dst res)):CallD P B f args s dst K:=
 .inl ⟨res,h,h1,h2,h3⟩
def ResD(B:List Nat)(s:AState)(op:Op)(dst:Option Nat)(r:Option Res)(K:AState->Prop):Prop:=
 match r with
 |some r=>r.side∧Gd B s op∧K (s.putR dst r)
 |none=>False
@[simp ↓] theorem ResD_some(B:List Nat)(s:AState)(op:Op)(dst:Option Nat)(r:Res)(K:AState->Prop):ResD B s op dst (some r) K=(r.side∧Gd B s op∧K (s.putR dst r)):=Eq.trans rfl rfl
def ExtD(B:List Nat)(X Y:Prop):Prop:=if B.contains 997 then X else Y
@[simp] theorem ExtD_nil{X Y:Prop}:ExtD [] X Y=Y:=rfl
def AStepD(P:Program)(B:List Nat)(o:Oper)(s:AState)(K:AState->Prop):Prop:=
 match o.op with
 |.call c=>match c.callee with
  |.value x=>match s.look x with
   |.fn (.func f) first captured=>CallD P B f (zA2 s first captured c.args) s o.dst K
   |_=>False
  |.builtin b=>ResD B s (.call c) o.dst (zDK P s c b) K
  |_=>False
 |.extract x 0=>ExtD B (ResK s o.dst (zGE s x 0) K) (ResK s o.dst (zCN s x 0) K)
 |op=>ResD B s op o.dst (zFQ P s op) K
theorem AStepD.ok(h:AStepD P B o s K): ∃s',StepD P B o s s'∧K s':=by
 have other: ∀r,zFQ P s o.op=some r->r.side->Gd B s o.op->K (s.putR o.dst r)->∃s',StepD P B o s s'∧K s':=fun r h1 h2 hg h3=>⟨_,.inr (.inl ⟨r,h1,h2,hg,rfl⟩),h3⟩
 unfold AStepD at h
 split at h
 ·rename_i c ho
  split at h
  ·rename_i x hc
   split at h
   ·rename_i f first captured hx
    rcases h with ⟨res,h1,h2,h3,h4⟩|⟨res,bs',ρ,h0,⟨h1,h2,h3⟩,h4,h5,h7,h6⟩
    ·exact⟨_,.inl ⟨c,x,f,first,captured,res,ho,hc,hx,h1,h2,h3,rfl⟩,h4⟩
    ·exact⟨_,.inr (.inr (.inl ⟨h0,c,x,f,first,captured,res,bs',ρ,ho,hc,hx,h1,h4,h5,h2,h3,h7,rfl⟩)),h6⟩
   ·exact h.elim
  ·rename_i b hc
   unfold ResD at h
   split at h
   ·rename_i r hr
    exact other r (by rw[ho];simp only[zFQ,hc];exact hr) h.1 (by rw[ho];exact h.2.1) h.2.2
   ·exact h.elim
  ·exact h.elim
 ·rename_i x ho
  unfold ExtD at h
  split at h
  ·rename_i hB
   unfold ResK at h
   split at h
   ·rename_i r hr
    exact⟨_,.inr (.inr (.inr ⟨hB,x,r,ho,hr,rfl⟩)),h.2⟩
   ·exact h.elim
  ·unfold ResK at h
   split at h
   ·rename_i r hr
    exact other r (by rw[ho];exact hr) h.1 (by rw[ho];trivial) h.2
   ·exact h.elim
 ·unfold ResD at h
  split at h
  ·rename_i r hr
   exact other r hr h.1 h.2.1 h.2.2
  ·exact h.elim
def AOpsD(P:Program)(B:List Nat)(ops:Array Oper)(K:AState->Prop):List Oper->AState->Prop
 |[],s=>K s
 |o::l,s=>match o.guard with
  |none=>AStepD P B o s (AOpsD P B ops K l)
  |some (j,want)=>zEv ((ops[j]?).bind (·.dst)) fun d=>zGP (s.get d) want (AStepD P B o s (AOpsD P B ops K l)) (AOpsD P B ops K l (s.putO o.dst (.tup [])))
theorem AOpsD.chain: ∀(l:List Oper)(k:Nat)(s:AState),(∀j,l[j]? =ops[k+j]?)->AOpsD P B ops K l s->
 ∃s',Chain P B ops (List.range' k l.length) s s'∧K s':=by
 intro l
 induction l with
 |nil=>exact fun k s _ h=>⟨s,rfl,h⟩
 |cons o l ih=>
  intro k s hl h
  have h0:ops[k]? =some o:=by simpa using(hl 0).symm
  have hl': ∀j,l[j]? =ops[k+1+j]? :=fun j=>by have:=hl (j+1);simpa[Nat.add_assoc,Nat.add_comm 1 j] using this
  have go: ∀s1,GStep P B ops o s s1->AOpsD P B ops K l s1->∃s',Chain P B ops (List.range' k (o::l).length) s s'∧K s':=fun s1 h1 h2=>by
   obtain⟨s',h3,h4⟩:=ih (k+1) s1 hl' h2
   refine⟨s',?_,h4⟩
   rw[List.length_cons,List.range'_succ]
   exact⟨o,s1,h0,h1,h3⟩
  unfold AOpsD at h
  cases hg:o.guard with
  |none=>
   rw[hg] at h
   obtain⟨s1,h1,h2⟩:=h.ok
   exact go s1 (by unfold GStep;rw[hg];exact h1) h2
  |some q=>
   obtain⟨j,want⟩:=q
   rw[hg] at h
   simp only[zEv] at h
   split at h
   ·rename_i d hd
    unfold zGP at h
    split at h
    ·rename_i b hb
     by_cases hw:b=want
     ·obtain⟨s1,h1,h2⟩:=(h.1 hw).ok
      exact go s1 (by unfold GStep;rw[hg];exact⟨d,hd,.inl ⟨b,hb,.inl ⟨hw,h1⟩⟩⟩) h2
     ·have hw':b= !want:=by cases b<;>cases want<;>simp_all
      exact go _ (by unfold GStep;rw[hg];exact⟨d,hd,.inl ⟨b,hb,.inr ⟨hw',rfl⟩⟩⟩) (h.2 hw')
    ·rename_i hb
     exact go _ (by unfold GStep;rw[hg];exact⟨d,hd,.inr ⟨hb,rfl⟩⟩) h
    ·exact h.elim
   ·exact h.elim
theorem zBS(B:List Nat)(hm:P.follows .mixedOrders=true)(hn:s.n=n)(hok:regOk B ops n=true)
 (h:AOpsD P B ops (Q .normal) ops.toList s.fresh):AWp P (.region id ops true) Q s:=fun F g a w hs=>by
 obtain⟨s',h1,h2⟩:=AOpsD.chain ops.toList 0 s.fresh (fun j=>by simp) h
 refine wp_region_any hm (any_wp (F:=F) (n:=n) hok ops.size _ s.fresh s' g a _ (by simp) ?_ ?_ ?_ hs.fresh.drew (fun _ _ _ _ _ _ _ t hl=>by cases hl) hn (fun g a w hs'=>⟨g,s',hs',h2⟩))
 ·exact Nat.le_trans (List.length_filter_le _ _) (by simp)
 ·intro j o hj hl
  have:(Array.replicate ops.size false).getD j true=false:=by
   have:=lt_of_getElem? hj
   rw[zq6,Array.getElem?_replicate,if_pos this];rfl
  rw[this] at hl;cases hl
 ·have hall:((List.range ops.size).filter fun i=> !(Array.replicate ops.size false).getD i true)=List.range ops.size:=by
   rw[List.filter_eq_self]
   intro i hi
   rw[List.mem_range] at hi
   rw[zq6,Array.getElem?_replicate,if_pos hi];rfl
  rw[hall,List.range_eq_range']
  simpa using h1
def AW(P:Program):Code->(Exit->AState->Prop)->AState->Prop
 |.skip,Q,s=>Q .normal s
 |.label _,Q,s=>Q .normal s
 |.region _ ops false,Q,s=>AOps P ops (Q .normal) ops.toList s.fresh
 |.region _ ops true,Q,s=>regOk [] ops s.n=true∧AOpsD P [] ops (Q .normal) ops.toList s.fresh
 |.seq x y,Q,s=>AW P x (seqK (AWp P y Q) Q) s
 |.cond c x y,Q,s=>match s.look c with
  |.bool b=>(b=true->AW P x Q s)∧(b=false->AW P y Q s)
  |_=>False
 |.block id c,Q,s=>AW P c (zIO id Q) s
 |.exit id,Q,s=>Q (.exit id) s
 |.ret,Q,s=>Q .ret s
 |c,Q,s=>AWp P c Q s
theorem AW.sound(hm:P.follows .mixedOrders=true): ∀(c:Code)(Q:Exit->AState->Prop)(s:AState),AW P c Q s->AWp P c Q s:=by
 intro c
 induction c with
 |skip=>exact fun Q s h F g a w hs=>wp_skip ⟨g,s,hs,h⟩
 |label l=>exact fun Q s h F g a w hs=>wp_label ⟨g,s,hs,h⟩
 |region id ops draw=>
  intro Q s h
  cases draw with
  |false=>exact awp_region h
  |true=>exact zBS [] hm rfl h.1 h.2
 |seq x y ihx ihy=>
  intro Q s h
  exact zAE (ihx _ _ h)
 |cond c x y ihx ihy=>
  intro Q s h
  unfold AW at h
  split at h
  ·rename_i b hb
   exact zIQ hb (fun e=>ihx _ _ (h.1 e)) (fun e=>ihy _ _ (h.2 e))
  ·exact h.elim
 |block id c ih=>exact fun Q s h=>zAH (ih _ _ h)
 |exit id=>exact fun Q s h F g a w hs=>wp_exit ⟨g,s,hs,h⟩
 |ret=>exact fun Q s h F g a w hs=>wp_ret ⟨g,s,hs,h⟩
 |_=>exact fun Q s h=>h
section
variable (s:AState) (d t u b o:Nat) (x:AV) (blk:List AV)
@[simp] theorem get_start(n base:Nat)(args:List AV)(bs:List (List AV)):(start n base args bs).get t=args.getD t (.tup []):=rfl
@[simp] theorem n_start(n base:Nat)(args:List AV)(bs:List (List AV)):(start n base args bs).n=n:=rfl
@[simp] theorem base_start(n base:Nat)(args:List AV)(bs:List (List AV)):(start n base args bs).base=base:=rfl
@[simp] theorem blocks_start(n base:Nat)(args:List AV)(bs:List (List AV)):(start n base args bs).blocks=bs:=rfl
@[simp] theorem loans_start(n base:Nat)(args:List AV)(bs:List (List AV)):(start n base args bs).loans t=none:=rfl
@[simp] theorem get_mkS(n base:Nat)(live:List (Nat×AV))(bs:List (List AV)):(mkS n base live bs).get t=lookD live t:=rfl
@[simp] theorem n_mkS(n base:Nat)(live:List (Nat×AV))(bs:List (List AV)):(mkS n base live bs).n=n:=rfl
@[simp] theorem base_mkS(n base:Nat)(live:List (Nat×AV))(bs:List (List AV)):(mkS n base live bs).base=base:=rfl
@[simp] theorem blocks_mkS(n base:Nat)(live:List (Nat×AV))(bs:List (List AV)):(mkS n base live bs).blocks=bs:=rfl
@[simp] theorem loans_mkS(n base:Nat)(live:List (Nat×AV))(bs:List (List AV)):(mkS n base live bs).loans t=none:=rfl
@[simp] theorem get_fresh:s.fresh.get t=s.get t:=rfl
@[simp] theorem n_fresh:s.fresh.n=s.n:=rfl
@[simp] theorem base_fresh:s.fresh.base=s.base:=rfl
@[simp] theorem blocks_fresh:s.fresh.blocks=s.blocks:=rfl
@[simp] theorem loans_fresh:s.fresh.loans t=none:=rfl
@[simp] theorem get_put:(s.put d x).get t=if t=d then (if d<s.n then x else s.get t) else s.get t:=by
 unfold AState.put;split
 ·rename_i h;simp only[AState.get]
 ·rename_i h;split<;>rfl
@[simp] theorem n_put:(s.put d x).n=s.n:=put_n s d x
@[simp] theorem base_put:(s.put d x).base=s.base:=put_base s d x
@[simp] theorem blocks_put:(s.put d x).blocks=s.blocks:=zBk s d x
@[simp] theorem loans_put:(s.put d x).loans t=if d<s.n then (if t=d then none else if s.loans t=some (.tmp d) then none else s.loans t) else s.loans t:=by
 unfold AState.put;split<;>rfl
@[simp] theorem get_setCell:(s.setCell b o x).get t=s.get t:=rfl
@[simp] theorem n_setCell:(s.setCell b o x).n=s.n:=rfl
@[simp] theorem base_setCell:(s.setCell b o x).base=s.base:=rfl
@[simp] theorem blocks_setCell:(s.setCell b o x).blocks=s.blocks.set b ((s.blocks.getD b []).set o x):=rfl
@[simp] theorem loans_setCell:(s.setCell b o x).loans t=if s.loans t=some (.cell b o) then none else s.loans t:=rfl
@[simp] theorem get_push:(s.push blk).get t=s.get t:=rfl
@[simp] theorem n_push:(s.push blk).n=s.n:=rfl
@[simp] theorem base_push:(s.push blk).base=s.base:=rfl
@[simp] theorem blocks_push:(s.push blk).blocks=s.blocks++[blk]:=rfl
@[simp] theorem loans_push:(s.push blk).loans t=s.loans t:=rfl
@[simp] theorem get_degT:(s.degrade (.tmp u)).get t=if t=u then (s.get u).copy else s.get t:=rfl
@[simp] theorem n_deg(p:Place):(s.degrade p).n=s.n:=by cases p<;>rfl
@[simp] theorem base_deg(p:Place):(s.degrade p).base=s.base:=by cases p<;>rfl
@[simp] theorem blocks_degT:(s.degrade (.tmp u)).blocks=s.blocks:=rfl
@[simp] theorem loans_deg(p:Place):(s.degrade p).loans t=s.loans t:=by cases p<;>rfl
@[simp] theorem get_degC:(s.degrade (.cell b o)).get t=s.get t:=rfl
@[simp] theorem blocks_degC:(s.degrade (.cell b o)).blocks=s.blocks.set b ((s.blocks.getD b []).set o (((s.blocks.getD b []).getD o .top).copy)):=rfl
end
def AState.lend(s:AState)(d:Nat)(p:Place):AState:={s with loans:=fun t=>if t=d then some p else s.loans t}
section
variable (s:AState) (d t:Nat) (p:Place) (x:AV)
@[simp] theorem get_lend:(s.lend d p).get t=s.get t:=rfl
@[simp] theorem n_lend:(s.lend d p).n=s.n:=rfl
@[simp] theorem base_lend:(s.lend d p).base=s.base:=rfl
@[simp] theorem blocks_lend:(s.lend d p).blocks=s.blocks:=rfl
@[simp] theorem loans_lend:(s.lend d p).loans t=if t=d then some p else s.loans t:=rfl
@[simp] theorem putL_none:s.putL d x none=s.put d x:=rfl
@[simp] theorem putL_some:s.putL d x (some p)=if p=.tmp d∨s.n<=d then s.put d x else (s.put d x).lend d p:=rfl
end
section
variable (s:AState) (t:Nat) (ρ:List Nat) (bs:List (List AV))
@[simp] theorem keepLoan_none:zCp ρ none=none:=rfl
@[simp] theorem keepLoan_tmp(u:Nat):zCp ρ (some (.tmp u))=some (.tmp u):=rfl
@[simp] theorem keepLoan_cell(b o:Nat):zCp ρ (some (.cell b o))=if ρ.contains b then none else some (.cell b o):=rfl
end
def AState.store'(s:AState)(bs:List (List AV)):AState:={s with blocks:=bs,loans:=fun t=>match s.loans t with|some (.tmp u)=>some (.tmp u)|_=>none}
section
variable (s:AState) (t:Nat) (bs:List (List AV))
@[simp] theorem called_eq(d:Option Nat)(res:AV):s.called d res bs=(s.store' bs).putO d res:=rfl
@[simp] theorem get_store':(s.store' bs).get t=s.get t:=rfl
@[simp] theorem n_store':(s.store' bs).n=s.n:=rfl
@[simp] theorem base_store':(s.store' bs).base=s.base:=rfl
@[simp] theorem blocks_store':(s.store' bs).blocks=bs:=rfl
@[simp] theorem loans_store':(s.store' bs).loans t=match s.loans t with|some (.tmp u)=>some (.tmp u)|_=>none:=rfl
end
@[simp] theorem AOps_nil(P:Program)(ops:Array Oper)(K:AState->Prop)(s:AState):AOps P ops K [] s=K s:=Eq.trans rfl rfl
@[simp] theorem AOps_cons(P:Program)(ops:Array Oper)(K:AState->Prop)(o:Oper)(l:List Oper)(s:AState):AOps P ops K (o::l) s=match o.guard with
 |none=>AStep P o s (AOps P ops K l)
 |some (j,want)=>zEv ((ops[j]?).bind (·.dst)) fun d=>zGP (s.get d) want (AStep P o s (AOps P ops K l)) (AOps P ops K l (s.putO o.dst (.tup []))):=Eq.trans rfl rfl
@[simp] theorem AOpsD_nil(P:Program)(B:List Nat)(ops:Array Oper)(K:AState->Prop)(s:AState):AOpsD P B ops K [] s=K s:=Eq.trans rfl rfl
@[simp] theorem AOpsD_cons(P:Program)(B:List Nat)(ops:Array Oper)(K:AState->Prop)(o:Oper)(l:List Oper)(s:AState):AOpsD P B ops K (o::l) s=match o.guard with
 |none=>AStepD P B o s (AOpsD P B ops K l)
 |some (j,want)=>zEv ((ops[j]?).bind (·.dst)) fun d=>zGP (s.get d) want (AStepD P B o s (AOpsD P B ops K l)) (AOpsD P B ops K l (s.putO o.dst (.tup []))):=Eq.trans rfl rfl
attribute [simp] AStep AStepD TailV resTail partV zGD zFD arrS resIdx resBn zHw zHx nilI resEmp resIx resIxM resLn zHu resMk zGA zGV zFB zEm zHy zHY zHG zJM zFQ zDK zIu zGZ zHs pickV isBool resNew zFE resBox bldT markB zIE loadV zF6 zFc zDk elems zDj zGE ExtD ownT zCN zEE cmpV intV strV binV resBin resUn zHv zGB zGC resFunc zFO zJT zEX resMM resM3 resLen zF3 zFC zFZ fillA zIw zGF zC0 zHt isR zA2 zCm eqTy eqFs AState.at AState.ev AState.owner AState.takeV AState.takeS AState.putR AState.putO AState.look AState.loanOf AState.setCells AV.ofConst AV.ofConst1 AV.plain AV.inert AV.flat AV.flatL AV.under AV.underL seqK zIO Ret zGk zD5 oneOf lookD endS Gd exL gdA isE0 ownIn isApp asgOk
attribute [simp] mks_nil mvs_nil mks_all lookV_b updM_b zFd zEp zCD AState.setAt keyD
def notLoop:Code->Bool
 |.loop _=>false
 |_=>true
theorem AW.step(hm:P.follows .mixedOrders=true)(hc:notLoop c=true)(h:AW P c Q s):AWp P c Q s:=AW.sound hm c Q s h
attribute [simp] AW
theorem zCI(I:α->AState)(Inv:α->Prop)(μ:α->Nat)(x0:α)(hi:Inv x0)(h0:s.Le (I x0))
 (round: ∀x,Inv x->AWp P c (seqK (fun s'=> ∃y,s'.Le (I y)∧Inv y∧μ y<μ x) Q) (I x)):AWp P (.loop c) Q s:=by
 refine awp_loop (fun x:{x:α//Inv x}=>I x.1) (fun x=>μ x.1) ⟨x0,hi⟩ h0 ?_
 rintro⟨x,hx⟩
 refine zEL (round x hx) fun e s' h=>?_
 cases e with
 |normal=>obtain⟨y,h1,h2,h3⟩:=h;exact⟨⟨y,h2⟩,h1,h3⟩
 |_=>exact h
def PStep(P:Program)(o:Oper)(s s':AState):Prop:=
 o.guard=none∧((∃c x f first captured res,o.op=.call c∧c.callee=.value x∧s.look x=.fn (.func f) first captured∧res.owns=false∧
  ((∃bs',Raw P f (zA2 s first captured c.args) s.blocks res bs'∧s'=s.called o.dst res bs')∨
   (∃bs' ρ,RawK P f (zA2 s first captured c.args) s.blocks res bs' (fun b=>b∉ρ)∧s'=s.calledK ρ o.dst res bs')∨
   (Pure P f (zA2 s first captured c.args) res∧AV.flatL (zA2 s first captured c.args)=true∧s'=s.putO o.dst res)∨
   (Pure P f (zCm s first captured c.args) res∧AV.flatL (zCm s first captured c.args)=true∧s'=s.putO o.dst res)))∨
  (∃r,mapOp P s o.op=some r∧r.side∧s'=s.putR o.dst r)∨(∃r,zFQ P s o.op=some r∧r.side∧s'=s.putR o.dst r)∨
  (∃c x f first captured i y ec l r,o.op=.call c∧c.callee=.value x∧s.look x=.fn (.func f) first captured∧c.args.toList[i]? =some y∧(zA2 s first captured c.args).length=c.args.toList.length∧
   (s.takeV y=.osl ec l∨(s.takeV y=.nsl∧l=[]))∧PureG P f ((zA2 s first captured c.args).set i (.osl ec l)) i ec l r∧AV.flatL (zA2 s first captured c.args)=true∧
   s'=(s.takeS y).putO o.dst r))
def zH2(ops:Array Oper)(pins:List Nat):Bool:=
 pins.all fun i=>(List.range ops.size).all fun k=>k==i||(if k<i then ((zDl ops.toList).getD i []).contains k else ((zDl ops.toList).getD k []).contains i)
theorem pins_before(h:zH2 ops pins=true){i k:Nat}(hi:pins.contains i=true)(hk:k<i)(hs:i<ops.size):k∈(zDl ops.toList).getD i []:=by
 have:=(zq8 ((zq8 h) i (by simpa using hi))) k (List.mem_range.2 (by omega))
 rw[if_pos hk] at this
 simp only[Bool.or_eq_true,beq_iff_eq,List.contains_iff_mem] at this
 rcases this with h|h
 ·omega
 ·exact h
theorem pins_after(h:zH2 ops pins=true){i k:Nat}(hk:pins.contains k=true)(hlt:k<i)(hs:i<ops.size):k∈(zDl ops.toList).getD i []:=by
 have:=(zq8 ((zq8 h) k (by simpa using hk))) i (List.mem_range.2 hs)
 rw[if_neg (by omega)] at this
 simp only[Bool.or_eq_true,beq_iff_eq,List.contains_iff_mem] at this
 rcases this with h|h
 ·omega
 ·exact h
def zHW(P:Program)(B:List Nat)(ops:Array Oper)(pins:List Nat):List Nat->AState->AState->Prop
 |[],s,s'=>s'=s
 |i::l,s,s'=> ∃o s1,ops[i]? =some o∧((pins.contains i=false∧GStep P B ops o s s1)∨(pins.contains i=true∧PStep P o s s1))∧zHW P B ops pins l s1 s'
theorem zEu{P:Program}{B:List Nat}{ops:Array Oper}{pins:List Nat}: ∀(l l':List Nat)(s s':AState),zHW P B ops pins (l++l') s s'↔∃m,zHW P B ops pins l s m∧zHW P B ops pins l' m s'
 |[],l',s,s'=>⟨fun h=>⟨s,rfl,h⟩,fun⟨m,h1,h2⟩=>by cases h1;exact h2⟩
 |i::l,l',s,s'=>by
  constructor
  ·rintro⟨o,s1,h1,h2,h3⟩
   obtain⟨m,h4,h5⟩:=(zEu l l' s1 s').1 h3
   exact⟨m,⟨o,s1,h1,h2,h4⟩,h5⟩
  ·rintro⟨m,⟨o,s1,h1,h2,h4⟩,h5⟩
   exact⟨o,s1,h1,h2,(zEu l l' s1 s').2 ⟨m,h4,h5⟩⟩
theorem zIM{P:Program}{B:List Nat}{ops:Array Oper}{pins:List Nat}: ∀{l:List Nat}{s s':AState},(∀k,k∈l->pins.contains k=false)->zHW P B ops pins l s s'->Chain P B ops l s s'
 |[],s,s',_,h=>h
 |i::l,s,s',hp,⟨o,s1,h1,h2,h3⟩=>by
  refine⟨o,s1,h1,?_,zIM (fun k hk=>hp k (zqc _ hk)) h3⟩
  rcases h2 with ⟨_,h2⟩|⟨h2,_⟩
  ·exact h2
  ·rw[hp i (zq9 ..)] at h2;cases h2
theorem chainX_of{P:Program}{B:List Nat}{ops:Array Oper}{pins:List Nat}: ∀{l:List Nat}{s s':AState},(∀k,k∈l->pins.contains k=false)->Chain P B ops l s s'->zHW P B ops pins l s s'
 |[],s,s',_,h=>h
 |i::l,s,s',hp,⟨o,s1,h1,h2,h3⟩=>⟨o,s1,h1,.inl ⟨hp i (zq9 ..),h2⟩,chainX_of (fun k hk=>hp k (zqc _ hk)) h3⟩
theorem PStep.frame{s s':AState}(hp:PStep P o s s'):s'.n=s.n∧∀t u,s'.loans t=some (.tmp u)->s.loans t=some (.tmp u)∨(zCx o.op=true∧u∈zCv o.op):=by
 have put: ∀(s0:AState)(r:AV),s0.n=s.n->(∀t u,s0.loans t=some (.tmp u)->s.loans t=some (.tmp u))->(s0.putO o.dst r).n=s.n∧∀t u,(s0.putO o.dst r).loans t=some (.tmp u)->s.loans t=some (.tmp u)∨(zCx o.op=true∧u∈zCv o.op):=fun s0 r hn hl=>by
  cases hd:o.dst with
  |none=>exact⟨hn,fun t u h=>.inl (hl t u h)⟩
  |some d=>
   refine⟨by simpa using hn,fun t u h=>.inl ?_⟩
   simp only[AState.putO,loans_put] at h
   split at h
   ·split at h
    ·cases h
    ·split at h
     ·cases h
     ·exact hl t u h
   ·exact hl t u h
 obtain⟨hg0,⟨c,x,f,first,captured,res,_,_,_,_,⟨bs',_,rfl⟩|⟨bs',ρ,_,rfl⟩|⟨_,_,rfl⟩|⟨_,_,rfl⟩⟩|⟨r,hr,_,rfl⟩|⟨r,hr,hr2,rfl⟩|⟨c,x,f,first,captured,i,y,ec,l,r,_,_,_,_,_,_,_,_,rfl⟩⟩:=hp
 ·rw[called_eq]
  refine put _ _ rfl fun t u h=>?_
  rw[loans_store'] at h
  split at h
  ·rename_i v hv;rw[hv];exact h
  ·cases h
 ·unfold AState.calledK
  refine put _ _ rfl fun t u h=>?_
  simp only at h
  cases hv:s.loans t with
  |none=>rw[hv] at h;cases h
  |some q=>
   rw[hv] at h
   cases q with
   |tmp v=>exact h
   |cell b o=>simp only[zCp] at h;split at h<;>cases h
 ·exact put s res rfl fun t u h=>h
 ·exact put s res rfl fun t u h=>h
 ·obtain⟨h1,h2,h3⟩:=mapOp_frame hr
  have e:s.putR o.dst r=r.st.putO o.dst r.val:=by
   unfold AState.putR AState.putO
   cases o.dst with
   |none=>rfl
   |some d=>simp only[AState.putL,h3]
  rw[e]
  exact put _ _ h1 fun t u h=>by rw[h2] at h;exact h
 ·have hg:GStep P [] #[] o s (s.putR o.dst r):=by
   unfold GStep
   rw[hg0]
   exact .inr (.inl ⟨r,hr,hr2,by cases o.op<;>simp[Gd],rfl⟩)
  obtain⟨f1,f2,f3,f4⟩:=zE2 hg
  exact⟨f1,f3⟩
 ·obtain⟨t1,t2,t3⟩:=zC7 s y
  exact put _ _ t1 fun t u h=>by rw[t3] at h;exact h
theorem gp_sound{s s':AState}(h:GStep P B ops o s s'∨PStep P o s s')(hs:Sim F g s a w)
 {K:Act->World->Prop} {Q:Exit->Act->World->Prop} (hK: ∀g' a' w',Sim F g' s' a' w'->K a' w'):
 if Region.wanted o (yielded ops a.tmps) then o.wp P a w K Q else K (a.put o.dst undef) w:=by
 rcases h with h|⟨hg,⟨c,x,f,first,captured,res,ho,hc,hx,h2,⟨bs',h1,rfl⟩|⟨bs',ρ,h1,rfl⟩|⟨h1,h3,rfl⟩|⟨h1,h3,rfl⟩⟩|⟨r,h1,h2,rfl⟩|⟨r,h1,h2,rfl⟩|⟨c,x,f,first,captured,i,y,ec,l,r,ho,hc,hx,e1,e2,e3,e4,e5,rfl⟩⟩
 ·exact h.sound hs hK
 ·rw[if_pos (by simp[Region.wanted,hg])]
  exact ok_call ho hc hx h1 h2 F g a w hs K Q hK
 ·rw[if_pos (by simp[Region.wanted,hg])]
  exact ok_callK ho hc hx h1 h2 F g a w hs K Q hK
 ·rw[if_pos (by simp[Region.wanted,hg])]
  exact zFI ho hc hx h1 h3 h2 F g a w hs K Q hK
 ·rw[if_pos (by simp[Region.wanted,hg])]
  exact zHO ho hc hx h1 h3 h2 F g a w hs K Q hK
 ·rw[if_pos (by simp[Region.wanted,hg])]
  exact(mapOp_ok h1 h2).step F g a w hs K Q hK
 ·rw[if_pos (by simp[Region.wanted,hg])]
  exact(zJn h1 h2).step F g a w hs K Q hK
 ·rw[if_pos (by simp[Region.wanted,hg])]
  exact zHN ho hc hx e1 e2 e3 e4 e5 F g a w hs K Q hK
theorem any_wpX{Q:Exit->Act->World->Prop}(hok:regOk B ops n=true)(hpin:zH2 ops pins=true): ∀(fuel:Nat)(listed:Array Bool)(s s':AState)(g:Gh)(a:Act)(w:World),
 listed.size=ops.size->((List.range ops.size).filter fun i=> !listed.getD i true).length<=fuel->
 (∀(j:Nat) o,ops[j]? =some o->listed.getD j true=true->∀e,e∈zDJ o->listed.getD e true=true)->
 zHW P B ops pins ((List.range ops.size).filter fun i=> !listed.getD i true) s s'->Sim F g s a w->LFree ops ((List.range ops.size).filter fun i=> !listed.getD i true) s->s.n=n->(∀g a w,Sim F g s' a w->Q .normal a w)->
 wpAny P .any ops Q fuel listed a w:=by
 obtain⟨hedge,hdst,hcomm⟩:=regOk_spec hok
 have hin: ∀(listed:Array Bool),listed.size=ops.size->∀i,i<ops.size->listed.getD i true=listed.getD i false:=fun listed hsz i hi=>by
  rw[zq6,zq6,zqe (by omega)];rfl
 have hleft: ∀(listed:Array Bool),listed.size=ops.size->Region.ready .any ops listed=[]->((List.range ops.size).filter fun i=> !listed.getD i true)=[]:=fun listed hsz hr=>by
  have all: ∀i,i<ops.size->listed.getD i true=true:=by
   intro i
   induction i using Nat.strongRecOn with
   |_ i ih=>
    intro hi
    cases hv:listed.getD i true with
    |true=>rfl
    |false=>
     have hmem:i∈Region.ready .any ops listed:=mem_ready.2 ⟨hv,ops[i],zqe hi,fun e he hb=>by
      have hlt:=hedge i _ (zqe hi) e.on (List.mem_map.2 ⟨e,List.mem_filter.2 ⟨by simpa using he,hb⟩,rfl⟩)
      rw[<-hin listed hsz e.on (by omega)];exact ih e.on hlt (by omega)⟩
     rw[hr] at hmem;cases hmem
  rw[List.filter_eq_nil_iff]
  intro i hi
  rw[List.mem_range] at hi
  simp[all i hi]
 intro fuel
 induction fuel with
 |zero=>
  intro listed s s' g a w hsz hlen hcl hc hs hS hn hQ
  have hnil:((List.range ops.size).filter fun i=> !listed.getD i true)=[]:=List.eq_nil_of_length_eq_zero (by omega)
  rw[hnil] at hc
  have:s'=s:=hc
  subst this
  refine⟨?_,hQ g a w hs⟩
  cases hr:Region.ready .any ops listed with
  |nil=>rfl
  |cons i l=>
   have hi:i∈Region.ready .any ops listed:=by rw[hr];exact zq9 ..
   obtain⟨h1,o,h2,_⟩:=mem_ready.1 hi
   have:i∈((List.range ops.size).filter fun i=> !listed.getD i true):=List.mem_filter.2 ⟨List.mem_range.2 (lt_of_getElem? h2),by simp[h1]⟩
   rw[hnil] at this;cases this
 |succ fuel ih=>
  intro listed s s' g a w hsz hlen hcl hc hs hS hn hQ
  refine⟨fun hr=>?_,fun i hi=>?_⟩
  ·rw[hleft listed hsz hr] at hc
   have:s'=s:=hc
   subst this
   exact hQ g a w hs
  ·obtain⟨h1,o,h2,h3⟩:=mem_ready.1 hi
   have hilt:=lt_of_getElem? h2
   have hready: ∀e,e∈zDJ o->listed.getD e true=true:=fun e he=>by
    obtain⟨ed,hed,rfl⟩:=List.mem_map.1 he
    rw[List.mem_filter] at hed
    have:=h3 ed (by simpa using hed.1) hed.2
    have hlt:=hedge i o h2 ed.on he
    rw[hin listed hsz _ (by omega)];exact this
   obtain⟨u1,u2,e1,e2,e3⟩:=zGN (p:=fun i=> !listed.getD i true) hilt (by simp[h1])
   have hcm: ∀k,k∈u1->comm B ops k i=true:=fun k hk=>by
    obtain⟨hlt,hk2⟩:=e2 k hk
    rcases hcomm i hilt k hlt with h|h
    ·exfalso
     have:=zH9 (ops:=ops.toList) (L:=fun j=>listed.getD j true=true) (fun j o hj=>hcl j o (by simpa using hj)) i o (by simpa using h2) hready k h
     rw[this] at hk2;simp at hk2
    ·exact h
   have hanc: ∀k,k∈u1->k∉(zDl ops.toList).getD i []:=fun k hk hm=>by
    have:=zH9 (ops:=ops.toList) (L:=fun j=>listed.getD j true=true) (fun j o hj=>hcl j o (by simpa using hj)) i o (by simpa using h2) hready k hm
    have h5:=(e2 k hk).2
    rw[this] at h5;cases h5
   rw[e1] at hc
   have hstep: ∃s1,(GStep P B ops o s s1∨PStep P o s s1)∧zHW P B ops pins (u1++u2) s1 s':=by
    cases hp:pins.contains i with
    |true=>
     have hu:u1=[]:=by
      cases u1 with
      |nil=>rfl
      |cons k u1=>
       exfalso
       have hk:=(e2 k (zq9 ..)).1
       exact hanc k (zq9 ..) (pins_before hpin hp hk hilt)
     subst hu
     obtain⟨o',s1,q1,q2,q3⟩:=hc
     rw[h2] at q1;cases q1
     rcases q2 with ⟨q2,_⟩|⟨_,q2⟩
     ·rw[hp] at q2;cases q2
     ·exact⟨s1,.inr q2,q3⟩
    |false=>
     have hnp: ∀k,k∈u1++[i]->pins.contains k=false:=fun k hk=>by
      rcases List.mem_append.1 hk with hk|hk
      ·cases hpk:pins.contains k with
       |false=>rfl
       |true=>exact absurd (pins_after hpin hpk (e2 k hk).1 hilt) (hanc k hk)
      ·rw[List.mem_singleton.1 hk];exact hp
     rw[show u1++i::u2=(u1++[i])++u2 by simp] at hc
     obtain⟨m,hc1,hc2⟩:=(zEu _ _ _ _).1 hc
     obtain⟨s1,g1,g2⟩:=front h2 u1 s m (zIM hnp hc1) hcm (fun q hq=>hS q (by rw[e1];rcases List.mem_append.1 hq with hq|hq;exact List.mem_append_left _ hq;rw[List.mem_singleton.1 hq];exact List.mem_append_right _ (zq9 ..))) (zIx (zJP hok) hedge e1) (by rw[hn];exact hdst) (fun _ t _=>by rw[<-hs.sto.len];exact(hs.tmps t).1.isUnder)
     exact⟨s1,.inl g1,(zEu _ _ _ _).2 ⟨m,chainX_of (fun k hk=>hnp k (List.mem_append_left _ hk)) g2,hc2⟩⟩
   obtain⟨s1,g1,hc'⟩:=hstep
   have hfr:s1.n=s.n∧∀t u,s1.loans t=some (.tmp u)->s.loans t=some (.tmp u)∨(zCx o.op=true∧u∈zCv o.op):=by
    rcases g1 with g1|g1
    ·obtain⟨f1,f2,f3,f4⟩:=zE2 g1
     exact⟨f1,f3⟩
    ·exact g1.frame
   obtain⟨f1,f3⟩:=hfr
   have hS':LFree ops (u1++u2) s1:=fun q hq oq d hoq hd hqt t hl=>by
    have hq':q∈(List.range ops.size).filter fun i=> !listed.getD i true:=by
     rw[e1]
     rcases List.mem_append.1 hq with hq|hq
     ·exact List.mem_append_left _ hq
     ·exact List.mem_append_right _ (zqc _ hq)
    rcases f3 t d hl with h|⟨hm,h⟩
    ·exact hS q hq' oq d hoq hd hqt t h
    ·have h5:=zH9 (ops:=ops.toList) (L:=fun j=>listed.getD j true=true) (fun j o hj=>hcl j o (by simpa using hj)) i o (by simpa using h2) hready q (zJY (zJP hok) ⟨o,oq,d,h2,hoq,hm,h,hd,hqt⟩)
     rw[List.mem_filter,h5] at hq'
     cases hq'.2
   have hfil:((List.range ops.size).filter fun k=> !(listed.setIfInBounds i true).getD k true)=u1++u2:=by
    rw[<-e3]
    apply List.filter_congr
    intro k hk
    rw[List.mem_range] at hk
    rw[zEJ (n:=0) listed i k true (by omega)]
    by_cases e:k=i
    ·simp[e]
    ·simp[e]
   have hgo:=gp_sound g1 hs (K:=wpAny P .any ops Q fuel (listed.setIfInBounds i true)) (Q:=Q) (fun g' a' w' hs'=>
    ih (listed.setIfInBounds i true) s1 s' g' a' w' (by simpa using hsz) (by
     rw[hfil]
     have:=hlen
     rw[e1] at this
     simp only[List.length_append,List.length_cons] at this ⊢
     omega) (fun j oj hj hl e he=>by
     have hjlt:=lt_of_getElem? hj
     have helt:=hedge j oj hj e he
     rw[zEJ (n:=0) listed i j true (by omega)] at hl
     rw[zEJ (n:=0) listed i e true (by omega)]
     split
     ·rfl
     ·split at hl
      ·rename_i hji
       subst hji
       rw[h2] at hj;cases hj
       exact hready e he
      ·exact hcl j oj hj hl e he) (by rw[hfil];exact hc') hs' (by rw[hfil];exact hS') (by rw[f1];exact hn) hQ)
   unfold wpOp
   simp only[h2]
   split
   ·rename_i hw;rw[if_pos hw] at hgo;exact .inl hgo
   ·rename_i hw;rw[if_neg hw] at hgo;exact hgo
def CallX(P:Program)(f:FuncId)(xs:List Operand)(args:List AV)(s:AState)(dst:Option Nat)(K:AState->Prop):Prop:=
 (∃res bs',Raw P f args s.blocks res bs'∧res.owns=false∧K (s.called dst res bs'))∨CallG P f xs args s dst K
theorem callX{xs:List Operand}{dst:Option Nat}{bs bs':List (List AV)}(h:Raw P f args bs res bs')(h1:s.blocks=bs)(h2:res.owns=false)(h3:K (s.called dst res bs')):CallX P f xs args s dst K:=
 .inl ⟨res,bs',by rw[h1];exact h,h2,h3⟩
def AStepX(P:Program)(o:Oper)(s:AState)(K:AState->Prop):Prop:=
 match o.guard,o.op with
 |none,.call c=>match c.callee with
  |.value x=>match s.look x with
   |.fn (.func f) first captured=>CallX P f c.args.toList (zA2 s first captured c.args) s o.dst K
   |_=>False
  |.builtin b=>ResK s o.dst (zDK P s c b) K
  |_=>False
 |none,.makeMap t none=>ResK s o.dst (some (zFd s)) K
 |none,.lookup t x i ok=>ResK s o.dst (zEp P s t x i ok) K
 |none,.mapUpdate t x i v=>ResK s o.dst (zCD P s t x i v) K
 |none,.insert t x i v=>ResK s o.dst (zCD P s t x i v) K
 |none,op=>ResK s o.dst (zFQ P s op) K
 |_,_=>False
theorem AStepX.ok{P:Program}{o:Oper}{s:AState}{K:AState->Prop}(h:AStepX P o s K): ∃s',PStep P o s s'∧K s':=by
 have mp: ∀x:Option Res,o.guard=none->mapOp P s o.op=x->ResK s o.dst x K->∃s',PStep P o s s'∧K s':=fun x hg hx h=>by
  unfold ResK at h
  split at h
  ·rename_i r
   exact⟨_,⟨hg,.inr (.inl ⟨r,hx,h.1,rfl⟩)⟩,h.2⟩
  ·exact h.elim
 unfold AStepX at h
 split at h
 ·rename_i c hg ho
  split at h
  ·rename_i x hc
   split at h
   ·rename_i f first captured hx
    rcases h with ⟨res,bs',h1,h2,h3⟩|⟨i,y,ec,l,r,e1,e2,e3,e4,e5,e7⟩
    ·exact⟨_,⟨hg,.inl ⟨c,x,f,first,captured,res,ho,hc,hx,h2,.inl ⟨bs',h1,rfl⟩⟩⟩,h3⟩
    ·exact⟨_,⟨hg,.inr (.inr (.inr ⟨c,x,f,first,captured,i,y,ec,l,r,ho,hc,hx,e1,e2,e3,e4,e5,rfl⟩))⟩,e7⟩
   ·exact h.elim
  ·rename_i b hc
   unfold ResK at h
   split at h
   ·rename_i r hr
    exact⟨_,⟨hg,.inr (.inr (.inl ⟨r,by rw[ho];simp only[zFQ,hc];exact hr,h.1,rfl⟩))⟩,h.2⟩
   ·exact h.elim
  ·exact h.elim
 ·rename_i t hg ho
  exact mp _ hg (by rw[ho];rfl) h
 ·rename_i t x i ok hg ho
  exact mp _ hg (by rw[ho];rfl) h
 ·rename_i t x i v hg ho
  exact mp _ hg (by rw[ho];rfl) h
 ·rename_i t x i v hg ho
  exact mp _ hg (by rw[ho];rfl) h
 ·rename_i hg _ _ _ _ _
  unfold ResK at h
  split at h
  ·rename_i r hr
   exact⟨_,⟨hg,.inr (.inr (.inl ⟨r,hr,h.1,rfl⟩))⟩,h.2⟩
  ·exact h.elim
 ·exact h.elim
def AOpsX(P:Program)(B:List Nat)(ops:Array Oper)(pins:List Nat)(K:AState->Prop):List Oper->Nat->AState->Prop
 |[],_,s=>K s
 |o::l,k,s=>if pins.contains k then AStepX P o s (AOpsX P B ops pins K l (k+1)) else match o.guard with
  |none=>AStepD P B o s (AOpsX P B ops pins K l (k+1))
  |some (j,want)=>zEv ((ops[j]?).bind (·.dst)) fun d=>zGP (s.get d) want (AStepD P B o s (AOpsX P B ops pins K l (k+1))) (AOpsX P B ops pins K l (k+1) (s.putO o.dst (.tup [])))
@[congr] theorem AOpsX_congr{l:List Oper}{k k':Nat}{s s':AState}(hk:k=k')(h:s=s'):AOpsX P B ops pins K l k s=AOpsX P B ops pins K l k' s':=by rw[h,hk]
theorem AOpsX.chain: ∀(l:List Oper)(k:Nat)(s:AState),(∀j,l[j]? =ops[k+j]?)->AOpsX P B ops pins K l k s->
 ∃s',zHW P B ops pins (List.range' k l.length) s s'∧K s':=by
 intro l
 induction l with
 |nil=>exact fun k s _ h=>⟨s,rfl,h⟩
 |cons o l ih=>
  intro k s hl h
  have h0:ops[k]? =some o:=by simpa using(hl 0).symm
  have hl': ∀j,l[j]? =ops[k+1+j]? :=fun j=>by have:=hl (j+1);simpa[Nat.add_assoc,Nat.add_comm 1 j] using this
  unfold AOpsX at h
  cases hp:pins.contains k with
  |true=>
   rw[if_pos hp] at h
   obtain⟨s1,h1,h2⟩:=h.ok
   obtain⟨s',h3,h4⟩:=ih (k+1) s1 hl' h2
   refine⟨s',?_,h4⟩
   rw[List.length_cons,List.range'_succ]
   exact⟨o,s1,h0,.inr ⟨hp,h1⟩,h3⟩
  |false=>
  rw[if_neg (by rw[hp];simp)] at h
  have go: ∀s1,GStep P B ops o s s1->AOpsX P B ops pins K l (k+1) s1->∃s',zHW P B ops pins (List.range' k (o::l).length) s s'∧K s':=fun s1 h1 h2=>by
   obtain⟨s',h3,h4⟩:=ih (k+1) s1 hl' h2
   refine⟨s',?_,h4⟩
   rw[List.length_cons,List.range'_succ]
   exact⟨o,s1,h0,.inl ⟨hp,h1⟩,h3⟩
  cases hg:o.guard with
  |none=>
   rw[hg] at h
   obtain⟨s1,h1,h2⟩:=AStepD.ok h
   exact go s1 (by unfold GStep;rw[hg];exact h1) h2
  |some q=>
   obtain⟨j,want⟩:=q
   rw[hg] at h
   simp only[zEv] at h
   split at h
   ·rename_i d hd
    unfold zGP at h
    split at h
    ·rename_i b hb
     by_cases hw:b=want
     ·obtain⟨s1,h1,h2⟩:=(h.1 hw).ok
      exact go s1 (by unfold GStep;rw[hg];exact⟨d,hd,.inl ⟨b,hb,.inl ⟨hw,h1⟩⟩⟩) h2
     ·have hw':b= !want:=by clear h;revert hw;cases b<;>cases want<;>decide
      exact go _ (by unfold GStep;rw[hg];exact⟨d,hd,.inl ⟨b,hb,.inr ⟨hw',rfl⟩⟩⟩) (h.2 hw')
    ·rename_i hb
     exact go _ (by unfold GStep;rw[hg];exact⟨d,hd,.inr ⟨hb,rfl⟩⟩) h
    ·exact h.elim
   ·exact h.elim
theorem zFo(B:List Nat)(pins:List Nat)(hm:P.follows .mixedOrders=true){s s':AState}(hn:s.n=n)(hok:regOk B ops n=true)(hpin:zH2 ops pins=true)
 (h1:zHW P B ops pins (List.range' 0 ops.toList.length) s.fresh s') (h2:Q .normal s'):AWp P (.region id ops true) Q s:=fun F g a w hs=>by
 refine wp_region_any hm (any_wpX (F:=F) (n:=n) hok hpin ops.size _ s.fresh s' g a _ (by simp) ?_ ?_ ?_ hs.fresh.drew (fun _ _ _ _ _ _ _ t hl=>by cases hl) hn (fun g a w hs'=>⟨g,s',hs',h2⟩))
 ·exact Nat.le_trans (List.length_filter_le _ _) (by simp)
 ·intro j o hj hl
  have:(Array.replicate ops.size false).getD j true=false:=by
   have:=lt_of_getElem? hj
   rw[zq6,Array.getElem?_replicate,if_pos this];rfl
  rw[this] at hl;cases hl
 ·have hall:((List.range ops.size).filter fun i=> !(Array.replicate ops.size false).getD i true)=List.range ops.size:=by
   rw[List.filter_eq_self]
   intro i hi
   rw[List.mem_range] at hi
   rw[zq6,Array.getElem?_replicate,if_pos hi];rfl
  rw[hall,List.range_eq_range']
  simpa using h1
theorem zCc(B:List Nat)(pins:List Nat)(hm:P.follows .mixedOrders=true)(hn:s.n=n)(hok:regOk B ops n=true)(hpin:zH2 ops pins=true)
 (h:AOpsX P B ops pins (Q .normal) ops.toList 0 s.fresh):AWp P (.region id ops true) Q s:=by
 obtain⟨s',h1,h2⟩:=AOpsX.chain ops.toList 0 s.fresh (fun j=>by simp) h
 exact zFo B pins hm hn hok hpin h1 h2
@[simp] theorem AOpsX_nil(P:Program)(B:List Nat)(ops:Array Oper)(pins:List Nat)(K:AState->Prop)(k:Nat)(s:AState):AOpsX P B ops pins K [] k s=K s:=Eq.trans rfl rfl
@[simp] theorem AOpsX_cons(P:Program)(B:List Nat)(ops:Array Oper)(pins:List Nat)(K:AState->Prop)(o:Oper)(l:List Oper)(k:Nat)(s:AState):AOpsX P B ops pins K (o::l) k s=if pins.contains k then AStepX P o s (AOpsX P B ops pins K l (k+1)) else match o.guard with
 |none=>AStepD P B o s (AOpsX P B ops pins K l (k+1))
 |some (j,want)=>zEv ((ops[j]?).bind (·.dst)) fun d=>zGP (s.get d) want (AStepD P B o s (AOpsX P B ops pins K l (k+1))) (AOpsX P B ops pins K l (k+1) (s.putO o.dst (.tup []))):=Eq.trans rfl rfl
attribute [simp] AStepX
@[simp] def leTmps(s:AState):List (Nat×AV)->Prop
 |[]=>True
 |(t,x)::l=>leAV (s.get t) x∧leTmps s l
@[simp] def underTmps(m:Nat):List (Nat×AV)->Bool
 |[]=>true
 |(_,x)::l=>x.under m&&underTmps m l
@[simp] def underBlocks(m:Nat):List (List AV)->Bool
 |[]=>true
 |b::l=>AV.underL m b&&underBlocks m l
theorem leTmps.get: ∀{l:List (Nat×AV)},leTmps s l->∀q,q∈l->leAV (s.get q.1) q.2
 |[],_,q,hq=>by cases hq
 |(t,x)::l,h,q,hq=>by
  rcases List.mem_cons.1 hq with rfl|hq
  ·exact h.1
  ·exact leTmps.get h.2 q hq
theorem zHC{m:Nat}: ∀{l:List (Nat×AV)},underTmps m l=true->∀q,q∈l->q.2.under m=true
 |[],_,q,hq=>by cases hq
 |(t,x)::l,h,q,hq=>by
  simp only[underTmps,zq7] at h
  rcases List.mem_cons.1 hq with rfl|hq
  ·exact h.1
  ·exact zHC h.2 q hq
theorem zEN{m:Nat}: ∀{l:List (List AV)},underBlocks m l=true->∀b,b∈l->AV.underL m b=true
 |[],_,b,hb=>by cases hb
 |x::l,h,b,hb=>by
  simp only[underBlocks,zq7] at h
  rcases List.mem_cons.1 hb with rfl|hb
  ·exact h.1
  ·exact zEN h.2 b hb
def LeB(s:AState)(n base:Nat)(live:List (Nat×AV))(blocks:List (List AV)):Prop:=
 s.n=n∧s.base=base∧base<=blocks.length∧leTmps s live∧leBlocks s.blocks blocks∧
  (s.blocks.length=blocks.length∨(underTmps blocks.length live=true∧underBlocks blocks.length blocks=true))
attribute [simp] LeB
theorem zBO{n base:Nat}{live:List (Nat×AV)}{blocks:List (List AV)}(h:LeB s n base live blocks):s.Le (mkS n base live blocks):=by
 obtain⟨h1,h2,h3,h4,h5,h6⟩:=h
 refine Le.lit h1 h2 h3 h4.get h5 ?_
 rcases h6 with h6|⟨h6,h7⟩
 ·exact .inl h6
 ·exact .inr ⟨zHC h6,zEN h7⟩
def cutK(n base:Nat)(live:List (Nat×AV))(blocks:List (List AV))(Q:Exit->AState->Prop):Exit->AState->Prop
 |.normal,s=>LeB s n base live blocks
 |e,s=>Q e s
attribute [simp] cutK
theorem cut{x y:Code}(n base:Nat)(live:List (Nat×AV))(blocks:List (List AV))(h1:AWp P x (cutK n base live blocks Q) s)(h2:AWp P y Q (mkS n base live blocks)):
 AWp P (.seq x y) Q s:=
 zAE (zEL h1 fun e s' hq=>by
  cases e with
  |normal=>exact awp_le h2 (zBO hq)
  |_=>exact hq)
theorem last{x:Code}(n base:Nat)(live:List (Nat×AV))(blocks:List (List AV))(h1:AWp P x (cutK n base live blocks Q) s)
 (h2: ∀s',s'.Le (mkS n base live blocks)->Q .normal s'):AWp P x Q s:=
 zEL h1 fun e s' hq=>by
  cases e with
  |normal=>exact h2 s' (zBO hq)
  |_=>exact hq
def WL(P:Program)(ops:Array Oper)(Q:Exit->AState->Prop)(l:List Oper)(s:AState):Prop:=
 ∀F g a w,Sim F g s a w->wpList P ops (fun e a w=> ∃g s',Sim F g s' a w∧Q e s') l a w
theorem zG8(h:WL P ops Q ops.toList s.fresh):AWp P (.region id ops false) Q s:=
 fun F g a w hs=>wp_region_list (h F g a w hs.fresh)
theorem WL.cut{l:List Oper}(k:Nat)(n base:Nat)(live:List (Nat×AV))(blocks:List (List AV))
 (h1:AOps P ops (fun s'=>LeB s' n base live blocks) (l.take k) s) (h2:WL P ops Q (l.drop k) (mkS n base live blocks)):WL P ops Q l s:=fun F g a w hs=>by
 have:=AOps.sound_app (F:=F) (l2:=l.drop k) (Q:=fun e a w=> ∃g s',Sim F g s' a w∧Q e s') (fun g s a w hk hs=>by
  obtain⟨g',hs'⟩:=hs.le (zBO hk)
  exact h2 F g' a w hs') (l.take k) s g a w h1 hs
 rwa [List.take_append_drop] at this
theorem WL.last{l:List Oper}(h:AOps P ops (Q .normal) l s):WL P ops Q l s:=
 fun F g a w hs=>AOps.sound (K:=Q .normal) (fun g s a w hk hs=>⟨g,s,hs,hk⟩) _ _ _ _ _ h hs
theorem zBF{c:Operand}{x y:Code}{b:Bool}(hc:s.look c=.bool b)(hb:b=true)(h:AWp P x Q s):AWp P (.cond c x y) Q s:=
 zIQ hc (fun _=>h) (fun e=>by rw[hb] at e;cases e)
theorem zHR{c:Operand}{x y:Code}{b:Bool}(hc:s.look c=.bool b)(hb:b=false)(h:AWp P y Q s):AWp P (.cond c x y) Q s:=
 zIQ hc (fun e=>by rw[hb] at e;cases e) (fun _=>h)
theorem spc{c:Operand}{x y:Code}{b:Bool}{u v:Option α}{r:α}(h:(if b=true then u else v)=some r)(hc:s.look c=.bool b)(h1:b=true->u=some r->AWp P x Q s)(h2:b=false->v=some r->AWp P y Q s):AWp P (.cond c x y) Q s:=by
 cases b with
 |true=>exact zBF hc rfl (h1 rfl h)
 |false=>exact zHR hc rfl (h2 rfl h)
theorem zE4(t:Nat)(ht:elems (s.get t)=some l)(h:l.length<=281474976710656->AWp P c Q s):AWp P c Q s:=fun F g a w hs=>by
 obtain⟨_,_,_,_,hb,_⟩:=zFF (hs.tmps t).1 ht
 exact h hb F g a w hs
theorem rep_short{l:List UInt8}(h:Rep imm σ (.str l) v):l.length<=1152921504606846976:=by cases h;assumption
theorem zGn(t:Nat){l:List UInt8}(ht:s.get t=.str l)(h:l.length<=1152921504606846976->AWp P c Q s):AWp P c Q s:=fun F g a w hs=>by
 have:=(hs.tmps t).1
 rw[show s.tmps t=.str l from ht] at this
 exact h (rep_short this) F g a w hs
theorem Sim.cellRep(h:Sim F g s a w){b o:Nat}{blk:List AV}{x:AV}(hb:s.blocks[b]? =some blk)(hx:blk[o]? =some x): ∃v,Rep g.imm g.σ x v:=by
 have hlt:b<g.σ.length:=by rw[h.sto.len];exact(zq1 hb).1
 obtain⟨c,ty,_,_,h3⟩:=h.sto.blk b blk _ hb (zq2 hlt)
 exact⟨_,(h3 o x hx).2.1⟩
theorem zDt(b o:Nat){blk:List AV}{x:AV}(hb:s.blocks[b]? =some blk)(hx:blk[o]? =some x)(hl:elems x=some l)
 (h:l.length<=281474976710656->AWp P c Q s):AWp P c Q s:=fun F g a w hs=>by
 obtain⟨v,hv⟩:=hs.cellRep hb hx
 obtain⟨_,_,_,_,h1,_⟩:=zFF hv hl
 exact h h1 F g a w hs
theorem factCS(b o:Nat){blk:List AV}{l:List UInt8}(hb:s.blocks[b]? =some blk)(hx:blk[o]? =some (.str l))
 (h:l.length<=1152921504606846976->AWp P c Q s):AWp P c Q s:=fun F g a w hs=>by
 obtain⟨v,hv⟩:=hs.cellRep hb hx
 exact h (rep_short hv) F g a w hs
theorem bs{α β:Type}{x:Option α}{f:α->Option β}{r:β}(h:x.bind f=some r): ∃v,x=some v∧f v=some r:=by
 cases x with
 |none=>cases h
 |some v=>exact⟨v,rfl,h⟩
theorem sp{c:Bool}{x y:Option α}{r:α}(h:(if c=true then x else y)=some r):(c=true∧x=some r)∨(c=false∧y=some r):=by
 cases c with
 |true=>exact .inl ⟨rfl,h⟩
 |false=>exact .inr ⟨rfl,h⟩
theorem tf(c:Bool):c=true∨c=false:=by cases c<;>simp
theorem ltT{a b:Int}(h:ltI a b=true):a<b:=of_decide_eq_true h
theorem ltF{a b:Int}(h:ltI a b=false):b<=a:=by have:=of_decide_eq_false h;omega
theorem leT{a b:Int}(h:leI a b=true):a<=b:=of_decide_eq_true h
theorem leF{a b:Int}(h:leI a b=false):b<a:=by have:=of_decide_eq_false h;omega
theorem eqT{a b:Int}(h:eqI a b=true):a=b:=of_decide_eq_true h
theorem eqF{a b:Int}(h:eqI a b=false):a≠b:=of_decide_eq_false h
theorem notT{b:Bool}(h:(!b)=true):b=false:=by cases b<;>simp_all
theorem notF{b:Bool}(h:(!b)=false):b=true:=by cases b<;>simp_all
theorem andT{a b:Bool}(h:(a&&b)=true):a=true∧b=true:=by cases a<;>simp_all
theorem orF{a b:Bool}(h:(a||b)=false):a=false∧b=false:=by cases a<;>simp_all
@[simp] theorem unU_nil:unU []=[]:=rfl
@[simp] theorem unU_cons(k:IntKind)(n:Int)(l:List (List AV)):unU ([.int k n]::l)=UInt8.ofNat n.toNat::unU l:=rfl
theorem oi{a b:α}(h:some a=some b):a=b:=zqa h
def zHV(l:List UInt8):Option (List UInt8):=if l.length<=281474976710656 then some l else none
theorem bytesC_ok{l r:List UInt8}(h:zHV l=some r):r.length<=281474976710656∧l=r:=by
 unfold zHV at h
 split at h
 ·cases h;exact⟨by assumption,rfl⟩
 ·cases h
def chk(k:IntKind)(n:Int):Option Int:=if inR k n then some n else none
theorem zDu{n r:Int}(h:chk k n=some r):Rng k r∧n=r:=by
 unfold chk at h;split at h
 ·cases h;exact⟨‹_›,rfl⟩
 ·cases h
def idx{α:Type}(l:List α)(n:Int):Option α:=if 0<=n then l[n.toNat]? else none
theorem idxp_ok{l:List α}{x:α}(h:idx l ((n:Int)-1)=some x):(1<=(n:Int))∧l[n-1]? =some x:=by
 unfold idx at h
 split at h
 ·rename_i h0
  refine⟨by omega,?_⟩
  rw[show((n:Int)-1).toNat=n-1 by omega] at h
  exact h
 ·cases h
theorem idx_ok{l:List α}{n:Int}{x:α}(h:idx l n=some x):0<=n∧l[n.toNat]? =some x:=by
 unfold idx at h;split at h
 ·exact⟨‹_›,h⟩
 ·cases h
def app{α:Type}(b:Nat)(x y:List α):Option (List α):=if 0<b∧(x.length+y.length)*b<=140737488355328 then some (x++y) else none
theorem app_ok{b:Nat}{x y r:List α}(h:app b x y=some r):Fits b (x.length+y.length)∧r=x++y:=by
 unfold app at h;split at h
 ·cases h;exact⟨‹_›,rfl⟩
 ·cases h
theorem zG0{a v:α}(h:some a=some v):v=a∧True:=⟨(zqa h).symm,trivial⟩
@[simp] theorem nn1(n:Nat):(0:Int)<=(n:Int)+1:=by omega
def cat(x y:List UInt8):Option (List UInt8):=if x.length+y.length<=1152921504606846976 then some (x++y) else none
theorem zJl{x y r:List UInt8}(h:cat x y=some r):Short x y∧x++y=r:=by
 unfold cat at h;split at h
 ·cases h;exact⟨‹_›,rfl⟩
 ·cases h
def subC{α:Type}(l:List α)(a b:Int):Option (List α):=if 0<=a∧a<=b∧b<=l.length then some (sub l a b) else none
theorem zDn{l:List α}{a b:Int}{r:List α}(h:subC l a b=some r):InB a b l.length∧sub l a b=r:=by
 unfold subC at h;split at h
 ·cases h;exact⟨‹_›,rfl⟩
 ·cases h
attribute [simp] inR Value.cells
@[simp] theorem ba_size(a:Array UInt8):(ByteArray.mk a).size=a.size:=rfl
theorem EL_map{f:α->List AV}(hf: ∀x,(f x).length=n)(l:List α):EL n (l.map f):=fun e h=>by
 obtain⟨x,_,rfl⟩:=List.mem_map.1 h;exact hf x
@[simp] theorem okE_nil(n:Nat):zE0 n []:=fun e h=>by cases h
@[simp] theorem okE_cons(n:Nat)(e:List AV)(l:List (List AV)):zE0 n (e::l)↔(e.length=n∧e.all AV.inert=true)∧zE0 n l:=by
 unfold zE0;simp
@[simp] theorem sub_map{α β:Type}(f:α->β)(l:List α)(a b:Int):sub (l.map f) a b=(sub l a b).map f:=by
 unfold sub;simp
@[simp] def cI(k:IntKind)(n:Int):List AV:=[.int k n]
@[simp] def cS(l:List UInt8):List AV:=[.str l]
@[simp] def cL{α:Type}(f:α->List AV)(l:List α):List AV:=[.sl (l.map f)]
@[simp] theorem EL_cS(l:List (List UInt8)):EL 1 (l.map cS):=EL_map (fun x=>by simp) l
@[simp] theorem byteElems_map(l:List UInt8):zCT l=l.map cU:=rfl
theorem zAC(h:Q .normal s):AWp P .skip Q s:=fun F g a w hs=>wp_skip ⟨g,s,hs,h⟩
theorem zBP(h:Q (.exit id) s):AWp P (.exit id) Q s:=fun F g a w hs=>wp_exit ⟨g,s,hs,h⟩
theorem zAA(h:Q .ret s):AWp P .ret Q s:=fun F g a w hs=>wp_ret ⟨g,s,hs,h⟩
theorem zCh{y:Code}{s t:AState}(h:AWp P y Q t)(hs:s.Le t):seqK (AWp P y Q) Q .normal s:=awp_le h hs
theorem zAF{y:Code}(h:AWp P y Q s):seqK (AWp P y Q) Q .normal s:=h
theorem zDA(h:Q .normal s):zIO id Q .normal s:=h
theorem zAU{N:AState->Prop}(h:Q (.exit id) s):seqK N Q (.exit id) s:=h
theorem zBU(h:Q .normal s):zIO id Q (.exit id) s:=by
 show(if id=id then Q .normal s else Q (.exit id) s);rw[if_pos rfl];exact h
theorem zG7{i id:Nat}(hn:i≠id)(h:Q (.exit i) s):zIO id Q (.exit i) s:=by
 show(if i=id then Q .normal s else Q (.exit i) s);rw[if_neg hn];exact h
theorem zAB{N:AState->Prop}(h:Q .ret s):seqK N Q .ret s:=h
theorem zAD(h:Q .ret s):zIO id Q .ret s:=h
theorem retL{R V A:Type}{a:R}{o:R ⊕ V}{f:R->Option A}{g:V->Option A}{r:A}(l:some (Sum.inl a)=some o)(h:Sum.elim f g o=some r):f a=some r:=by cases l;exact h
theorem zEk{R V A:Type}{v:V}{f:R->Option A}{g:V->Option A}{r:A}(h:Sum.elim f g (.inr v)=some r):g v=some r:=h
theorem zFy{l r:List α}{x:α}(h:l.drop i=x::r):ltI (i:Int) (l.length:Int)=true∧l[i]? =some x∧l.drop (i+1)=r∧(i:Int)<l.length:=by
 have hi:i<l.length:=by
  rcases Nat.lt_or_ge i l.length with h1|h1
  ·exact h1
  ·rw[List.drop_eq_nil_of_le h1] at h;cases h
 rw[List.drop_eq_getElem_cons hi] at h
 simp only[List.cons.injEq] at h
 exact⟨zqb (by omega),by rw[zq2 hi,h.1],h.2,by omega⟩
def EndB(s:AState)(bs:List (List AV)):Prop:=s.base<=bs.length∧leBlocks s.blocks bs∧(s.blocks.length=bs.length∨underBlocks bs.length bs=true)
attribute [simp] EndB
theorem EndB.le{bs:List (List AV)}(h:EndB s bs):s.Le (endS s bs) where
 tmps:=fun t=>by show leAV _ .top;cases s.tmps t<;>simp
 loans:=fun t=>rfl
 n:=rfl
 base:=rfl
 hbase:=h.1
 short:=h.2.1.get.1
 blocks:=fun b blk' hb'=>by
  obtain⟨blk,e1,e2⟩:=h.2.1.get.2 b blk' hb'
  exact⟨blk,e1,e2.get.1,e2.get.2⟩
 below:=by
  rcases h.2.2 with h1|h1
  ·exact .inl h1.symm
  ·exact .inr ⟨fun t=>by simp[endS],zG9 (zEN h1)⟩
theorem zAl {bs bs':List (List AV)} (hf:P.funcs[f]? =some fn) (hname:(fn.name== "runtime.NumGoroutine")=false) (hb:fn.body=some c)
 (hn:args.length<=fn.ntmps) (hown:args.all (fun x=> !x.owns)=true)
 (h:AWp P c (Ret P fn fun r s=>r=res∧EndB s bs'∧(bs'.length=s.blocks.length∨res.under bs'.length=true)) (start fn.ntmps bs.length args bs)):Raw P f args bs res bs':=
 raw_of_body hf hname hb hn hown fun _=>zEL h fun e s hq=>by
  cases e with
  |normal=>
   simp only[Ret] at hq ⊢
   split at hq
   ·exact⟨hq.1,hq.2.1,hq.2.2.1.le,hq.2.2.2⟩
   ·exact hq.elim
  |ret=>
   simp only[Ret] at hq ⊢
   split at hq
   ·exact⟨hq.1,hq.2.1,hq.2.2.1.le,hq.2.2.2⟩
   ·exact hq.elim
  |_=>exact hq
mutual
def AV.ren(f:Nat->Nat):AV->AV
 |.mptr b o=>.mptr (f b) o
 |.baddr t b=>.baddr t (f b)
 |.msl b e n=>.msl (f b) e n
 |.fn g fs cs=>.fn g (AV.renL f fs) (AV.renL f cs)
 |.iface t v=>.iface t (v.ren f)
 |.agg cs=>.agg (AV.renL f cs)
 |.tup cs=>.tup (AV.renL f cs)
 |.otup ec l cs=>.otup ec l (AV.renL f cs)
 |x=>x
def AV.renL(f:Nat->Nat):List AV->List AV
 |[]=>[]
 |x::l=>x.ren f::AV.renL f l
end
theorem zDS(f:Nat->Nat): ∀(l:List AV)(i:Nat),(AV.renL f l)[i]? =l[i]?.map (AV.ren f)
 |[],i=>by simp[AV.renL]
 |x::l,0=>by simp[AV.renL]
 |x::l,i+1=>by simp[AV.renL,zDS f l i]
theorem zBf(f:Nat->Nat): ∀l:List AV,(AV.renL f l).length=l.length
 |[]=>rfl
 |x::l=>by simp[AV.renL,zBf f l]
theorem ren_one(f:Nat->Nat)(x:AV):(x.ren f).one=x.one:=by cases x<;>simp[AV.ren]
theorem ren_owns(f:Nat->Nat)(x:AV):(x.ren f).owns=x.owns:=by cases x<;>simp[AV.ren]
theorem zH0(f:Nat->Nat)(x:AV)(ty:TypeId){e e':Prop}(he:e=e'):(x.ren f).cellOk ty e↔x.cellOk ty e':=by
 subst he
 unfold AV.cellOk
 rw[ren_one]
 constructor
 ·rintro(h|⟨h0,b,h⟩)
  ·exact .inl h
  ·cases x<;>simp[AV.ren] at h
   exact .inr ⟨h0,_,by rw[h.1]⟩
 ·rintro(h|⟨h0,b,h⟩)
  ·exact .inl h
  ·subst h;exact .inr ⟨h0,_,rfl⟩
theorem Rep.ren{σ σ':List Nat}{f:Nat->Nat}(hf: ∀(b k:Nat),σ[b]? =some k->σ'[f b]? =some k){x:AV}(h:Rep imm σ x v):Rep imm σ' (x.ren f) v:=by
 induction h generalizing σ' with
 |int k n hb=>exact .int k n hb
 |bool b=>exact .bool b
 |str s l h hb=>exact .str s l h hb
 |nilp=>exact .nilp
 |mptr b off k h=>exact .mptr _ off k (hf _ _ h)
 |baddr0 t b h=>exact .baddr0 t _ (zq1 (hf b _ (zq2 h))).1
 |baddr t b k h=>exact .baddr t _ k (hf _ _ h)
 |msl b ec n k cap h hc hbd=>exact .msl _ ec n k cap (hf _ _ h) hc hbd
 |e0 b=>exact .e0 b
 |omp ks vs k=>exact .omp ks vs k
 |mpx o=>exact .mpx o
 |cptr cells a vs h r _=>exact .cptr cells a vs h r
 |nsl=>exact .nsl
 |osl0 ec=>exact .osl0 ec
 |osq0 ec=>exact .osq0 ec
 |osl ec l a n cap vs hn hc hbd he h r _=>exact .osl ec l a n cap vs hn hc hbd he h r
 |osq ec l a n cap vs hn hc hbd he h r _=>exact .osq ec l a n cap vs hn hc hbd he h r
 |sl0=>exact .sl0
 |sl ec l a n cap vs hn hc hbd he h r _=>exact .sl ec l a n cap vs hn hc hbd he h r
 |fn g fs cs fv cv hf' hc _ _ ihf ihc=>
  refine .fn g _ _ fv cv (by rw[zBf];exact hf') (by rw[zBf];exact hc) (fun i x hx=>?_) (fun i x hx=>?_)
  ·rw[zDS] at hx
   cases hy:fs[i]? with
   |none=>rw[hy] at hx;cases hx
   |some y=>rw[hy] at hx;cases hx;exact ihf i y hy hf
  ·rw[zDS] at hx
   cases hy:cs[i]? with
   |none=>rw[hy] at hx;cases hx
   |some y=>rw[hy] at hx;cases hx;exact ihc i y hy hf
 |nilfn=>exact .nilfn
 |iface t x v _ ih=>exact .iface t _ v (ih hf)
 |nilif=>exact .nilif
 |agg cs vs hs' _ ih=>
  refine .agg _ vs (by rw[zBf];exact hs') (fun i x hx=>?_)
  rw[zDS] at hx
  cases hy:cs[i]? with
  |none=>rw[hy] at hx;cases hx
  |some y=>rw[hy] at hx;cases hx;exact ih i y hy hf
 |tup cs vs hs' _ ih=>
  refine .tup _ vs (by rw[zBf];exact hs') (fun i x hx=>?_)
  rw[zDS] at hx
  cases hy:cs[i]? with
  |none=>rw[hy] at hx;cases hx
  |some y=>rw[hy] at hx;cases hx;exact ih i y hy hf
 |otup ec l cs vs hs' _ _ ih0 ih=>
  refine .otup ec l _ vs (by rw[zBf];exact hs') (ih0 hf) (fun i x hx=>?_)
  rw[zDS] at hx
  cases hy:cs[i]? with
  |none=>rw[hy] at hx;cases hx
  |some y=>rw[hy] at hx;cases hx;exact ih i y hy hf
 |top v=>exact .top v
theorem Rep.unren{σ σ':List Nat}{f:Nat->Nat}{m:Nat}(hf: ∀(b:Nat),b<m->σ'[b]? =σ[f b]?){y:AV}(h:Rep imm σ y v):
 ∀x:AV,y=x.ren f->x.under m=true->m<=σ'.length->Rep imm σ' x v:=by
 induction h generalizing σ' with
 |int k n hb=>intro x e hu hm;cases x<;>simp[AV.ren] at e;obtain⟨rfl,rfl⟩:=e;exact .int _ _ hb
 |bool b=>intro x e hu hm;cases x<;>simp[AV.ren] at e;subst e;exact .bool _
 |str s l h hb=>intro x e hu hm;cases x<;>simp[AV.ren] at e;subst e;exact .str s _ h hb
 |nilp=>intro x e hu hm;cases x<;>simp[AV.ren] at e;exact .nilp
 |mptr b off k h=>
  intro x e hu hm;cases x<;>simp[AV.ren] at e
  rename_i b' off'
  obtain⟨rfl,rfl⟩:=e
  simp only[AV.under,decide_eq_true_eq] at hu
  exact .mptr _ _ k (by rw[hf _ hu];exact h)
 |baddr0 t b h=>
  intro x e hu hm;cases x<;>simp[AV.ren] at e
  rename_i t' b'
  obtain⟨rfl,rfl⟩:=e
  simp only[AV.under,decide_eq_true_eq] at hu
  exact .baddr0 _ _ (by omega)
 |baddr t b k h=>
  intro x e hu hm;cases x<;>simp[AV.ren] at e
  rename_i t' b'
  obtain⟨rfl,rfl⟩:=e
  simp only[AV.under,decide_eq_true_eq] at hu
  exact .baddr _ _ k (by rw[hf _ hu];exact h)
 |msl b ec n k cap h hc hbd=>
  intro x e hu hm;cases x<;>simp[AV.ren] at e
  rename_i b' ec' n'
  obtain⟨rfl,rfl,rfl⟩:=e
  simp only[AV.under,decide_eq_true_eq] at hu
  exact .msl _ _ _ k cap (by rw[hf _ hu];exact h) hc hbd
 |e0 b=>intro x e hu hm;cases x<;>simp[AV.ren] at e;exact .e0 b
 |omp ks vs k=>intro x e hu hm;cases x<;>simp[AV.ren] at e;obtain⟨rfl,rfl⟩:=e;exact .omp _ _ k
 |mpx o=>intro x e hu hm;cases x<;>simp[AV.ren] at e;exact .mpx o
 |cptr cells a vs h r _=>intro x e hu hm;cases x<;>simp[AV.ren] at e;subst e;exact .cptr _ a vs h r
 |nsl=>intro x e hu hm;cases x<;>simp[AV.ren] at e;exact .nsl
 |osl0 ec=>intro x e hu hm;cases x<;>simp[AV.ren] at e;obtain⟨rfl,rfl⟩:=e;exact .osl0 _
 |osq0 ec=>intro x e hu hm;cases x<;>simp[AV.ren] at e;obtain⟨rfl,rfl⟩:=e;exact .osq0 _
 |osl ec l a n cap vs hn hc hbd he h r _=>intro x e hu hm;cases x<;>simp[AV.ren] at e;obtain⟨rfl,rfl⟩:=e;exact .osl _ _ a n cap vs hn hc hbd he h r
 |osq ec l a n cap vs hn hc hbd he h r _=>intro x e hu hm;cases x<;>simp[AV.ren] at e;obtain⟨rfl,rfl⟩:=e;exact .osq _ _ a n cap vs hn hc hbd he h r
 |sl0=>intro x e hu hm;cases x<;>simp[AV.ren] at e;subst e;exact .sl0
 |sl ec l a n cap vs hn hc hbd he h r _=>intro x e hu hm;cases x<;>simp[AV.ren] at e;subst e;exact .sl ec _ a n cap vs hn hc hbd he h r
 |fn g fs cs fv cv hf' hc _ _ ihf ihc=>
  intro x e hu hm;cases x<;>simp[AV.ren] at e
  rename_i g' fs' cs'
  obtain⟨rfl,rfl,rfl⟩:=e
  simp only[AV.under,zq7] at hu
  refine .fn _ _ _ fv cv (by rw[zBf] at hf';exact hf') (by rw[zBf] at hc;exact hc) (fun i x hx=>?_) (fun i x hx=>?_)
  ·exact ihf i _ (by rw[zDS,hx];rfl) hf x rfl (zCr hu.1 hx) hm
  ·exact ihc i _ (by rw[zDS,hx];rfl) hf x rfl (zCr hu.2 hx) hm
 |nilfn=>intro x e hu hm;cases x<;>simp[AV.ren] at e;exact .nilfn
 |iface t x v _ ih=>
  intro y e hu hm;cases y<;>simp[AV.ren] at e
  obtain⟨rfl,rfl⟩:=e
  exact .iface _ _ v (ih hf _ rfl (by simpa[AV.under] using hu) hm)
 |nilif=>intro x e hu hm;cases x<;>simp[AV.ren] at e;exact .nilif
 |agg cs vs hs' _ ih=>
  intro x e hu hm;cases x<;>simp[AV.ren] at e
  subst e
  refine .agg _ vs (by rw[zBf] at hs';exact hs') (fun i x hx=>?_)
  exact ih i _ (by rw[zDS,hx];rfl) hf x rfl (zCr (by simpa[AV.under] using hu) hx) hm
 |tup cs vs hs' _ ih=>
  intro x e hu hm;cases x<;>simp[AV.ren] at e
  subst e
  refine .tup _ vs (by rw[zBf] at hs';exact hs') (fun i x hx=>?_)
  exact ih i _ (by rw[zDS,hx];rfl) hf x rfl (zCr (by simpa[AV.under] using hu) hx) hm
 |otup ec l cs vs hs' _ _ ih0 ih=>
  intro x e hu hm;cases x<;>simp[AV.ren] at e
  obtain⟨rfl,rfl,rfl⟩:=e
  refine .otup _ _ _ vs (by rw[zBf] at hs';exact hs') (ih0 hf (.osl _ _) rfl rfl hm) (fun i x hx=>?_)
  exact ih i _ (by rw[zDS,hx];rfl) hf x rfl (zCr (by simpa[AV.under] using hu) hx) hm
 |top v=>intro x e hu hm;cases x<;>simp[AV.ren] at e;exact .top v
theorem OwnsBy.ren{x:AV}(f:Nat->Nat):OwnsBy imm w bo (x.ren f) v↔OwnsBy imm w bo x v:=by
 cases x<;>simp[AV.ren,OwnsBy]
def zDq(ρ:List Nat)(n:Nat)(j:Nat):Nat:=ρ.getD j (n+(j-ρ.length))
def lay(f:Nat->Nat):List Nat->List (List AV)->List (List AV)->List (List AV)
 |[],l,bs=>bs++l.map (AV.renL f)
 |r::ρ,b::l,bs=>lay f ρ l (bs.set r (AV.renL f b))
 |_::_,[],bs=>bs
def Stands(f:Nat->Nat)(bs:List (List AV)):List Nat->List (List AV)->Prop
 |[],[]=>True
 |r::ρ,b::l=>bs[r]? =some (AV.renL f b)∧Stands f bs ρ l
 |_,_=>False
def noDup:List Nat->Bool
 |[]=>true
 |r::l=> !(l.contains r)&&noDup l
theorem zH8: ∀{l:List Nat},noDup l=true->l.Nodup
 |[],_=>List.nodup_nil
 |r::l,h=>by
  simp only[noDup,zq7,Bool.not_eq_true',List.contains_eq_mem,decide_eq_false_iff_not] at h
  exact List.nodup_cons.2 ⟨h.1,zH8 h.2⟩
def zJF(ρ:List Nat)(args:List AV)(bS bs:List (List AV)):Prop:=
 noDup ρ=true∧AV.underL bS.length args=true∧underBlocks bS.length bS=true∧Stands (zDq ρ bs.length) bs ρ bS
theorem zFV{f:Nat->Nat}{bs:List (List AV)}: ∀{ρ:List Nat}{l:List (List AV)},Stands f bs ρ l->ρ.length=l.length
 |[],[],_=>rfl
 |r::ρ,b::l,h=>by simp[zFV h.2]
 |[],_::_,h=>h.elim
 |_::_,[],h=>h.elim
theorem zHp{f:Nat->Nat}{bs:List (List AV)}: ∀{ρ:List Nat}{l:List (List AV)},Stands f bs ρ l->∀(j r:Nat) b,ρ[j]? =some r->l[j]? =some b->bs[r]? =some (AV.renL f b)
 |[],[],_,j,r,b,h1,h2=>by simp at h1
 |r::ρ,b::l,h,j,r',b',h1,h2=>by
  cases j with
  |zero=>simp at h1 h2;subst h1;subst h2;exact h.1
  |succ j=>exact zHp h.2 j r' b' (by simpa using h1) (by simpa using h2)
 |[],_::_,h,_,_,_,_,_=>h.elim
 |_::_,[],h,_,_,_,_,_=>h.elim
theorem lay_length(f:Nat->Nat): ∀(ρ:List Nat)(l bs:List (List AV)),ρ.length<=l.length->(lay f ρ l bs).length=bs.length+(l.length-ρ.length)
 |[],l,bs,_=>by simp[lay]
 |r::ρ,b::l,bs,h=>by
  simp only[lay]
  rw[lay_length f ρ l _ (by simpa using h)]
  simp
 |_::_,[],bs,h=>by simp at h
theorem zGe(f:Nat->Nat): ∀(ρ:List Nat)(l bs:List (List AV))(b:Nat),b∉ρ->b<bs.length->(lay f ρ l bs)[b]? =bs[b]?
 |[],l,bs,b,_,h=>by simp[lay,List.getElem?_append_left h]
 |r::ρ,x::l,bs,b,h1,h2=>by
  simp only[List.mem_cons,not_or] at h1
  simp only[lay]
  rw[zGe f ρ l _ b h1.2 (by simpa using h2),List.getElem?_set_ne (fun e=>h1.1 e.symm)]
 |_::_,[],bs,b,_,_=>rfl
theorem lay_at(f:Nat->Nat): ∀(ρ:List Nat)(l bs:List (List AV))(j r:Nat),ρ.Nodup->(∀q,q∈ρ->q<bs.length)->ρ.length<=l.length->ρ[j]? =some r->(lay f ρ l bs)[r]? =l[j]?.map (AV.renL f)
 |[],l,bs,j,r,_,_,_,h=>by simp at h
 |q::ρ,x::l,bs,j,r,hn,hq,hl,h=>by
  simp only[lay]
  have hn':=List.nodup_cons.1 hn
  cases j with
  |zero=>
   simp at h;subst h
   rw[zGe f ρ l _ q hn'.1 (by simpa using hq q (zq9 ..))]
   rw[List.getElem?_set_self (hq q (zq9 ..))];rfl
  |succ j=>
   rw[lay_at f ρ l _ j r hn'.2 (fun y hy=>by simpa using hq y (zqc _ hy)) (by simpa using hl) (by simpa using h)]
   simp
 |_::_,[],bs,j,r,_,_,hl,_=>by simp at hl
theorem lay_new(f:Nat->Nat): ∀(ρ:List Nat)(l bs:List (List AV))(j:Nat),ρ.length<=l.length->(lay f ρ l bs)[bs.length+j]? =l[ρ.length+j]?.map (AV.renL f)
 |[],l,bs,j,_=>by simp only[lay];rw[List.getElem?_append_right (by omega)];simp
 |r::ρ,x::l,bs,j,h=>by
  simp only[lay]
  have:=lay_new f ρ l (bs.set r (AV.renL f x)) j (by simpa using h)
  rw[List.length_set] at this
  rw[this,List.length_cons,show ρ.length+1+j=(ρ.length+j)+1 by omega,List.getElem?_cons_succ]
 |_::_,[],bs,j,h=>by simp at h
def Gh.small(g:Gh)(ρ:List Nat):Gh where
 imm:=g.imm
 σ:=ρ.map fun b=>g.σ.getD b 0
 own:=fun p=>match p with
  |.cell j o=>match ρ[j]? with
   |some b=>g.own (.cell b o)
   |none=>none
  |.tmp _=>none
theorem small_σ(hlt: ∀q,q∈ρ->q<g.σ.length)(j:Nat):(g.small ρ).σ[j]? =(ρ[j]?).bind fun b=>g.σ[b]? :=by
 simp only[Gh.small,List.getElem?_map]
 cases h:ρ[j]? with
 |none=>rfl
 |some b=>
  have:=hlt b (zq3 h)
  simp only[Option.map_some,Option.bind_some]
  rw[zB8 0 this]
theorem zI7{l:List α}(h:l.Nodup){i j:Nat}{x:α}(hi:l[i]? =some x)(hj:l[j]? =some x):i=j:=by
 obtain⟨h1,e1⟩:=zq1 hi
 obtain⟨h2,e2⟩:=zq1 hj
 exact(List.getElem_inj h).1 (e1.trans e2.symm)
theorem sto_small{bs bS:List (List AV)}(h:Sto g bs w)(hn:ρ.Nodup)(hs:Stands (zDq ρ bs.length) bs ρ bS)(hu:underBlocks bS.length bS=true):Sto (g.small ρ) bS w:=by
 have hlen:=zFV hs
 have hget:=fun j r b h1 h2=>zHp hs j r b h1 h2
 have hlt: ∀q,q∈ρ->q<g.σ.length:=fun q hq=>by
  obtain⟨j,hj⟩:=zqd hq
  have hj':j<bS.length:=by rw[<-hlen];exact(zq1 hj).1
  have:=hget j q _ hj (zq2 hj')
  rw[h.len];exact(zq1 this).1
 have hσ:=small_σ (g:=g) hlt
 refine {gok:=h.gok,imm:=h.imm,immσ:=fun x v hx hm=>?_,len:=by simp[Gh.small,hlen],nodup:=?_,blk:=fun j blk k hb hk=>?_,ownσ:=fun p k hp=>?_,ownInj:=fun p q k hp hq=>?_}
 ·obtain⟨j,hj⟩:=zqd hm
  rw[hσ] at hj
  cases hr:ρ[j]? with
  |none=>rw[hr] at hj;cases hj
  |some b=>rw[hr] at hj;exact h.immσ x v hx (zq3 hj)
 ·rw[List.nodup_iff_pairwise_ne,List.pairwise_iff_getElem]
  intro i j hi hj hij e
  have e1:(g.small ρ).σ[i]? =some ((g.small ρ).σ[i]):=zq2 hi
  have e2:(g.small ρ).σ[j]? =some ((g.small ρ).σ[j]):=zq2 hj
  rw[<-e] at e2
  rw[hσ] at e1 e2
  cases h1:ρ[i]? with
  |none=>rw[h1] at e1;cases e1
  |some a=>
   cases h2:ρ[j]? with
   |none=>rw[h2] at e2;cases e2
   |some b=>
    rw[h1] at e1;rw[h2] at e2
    have:=zI7 h.nodup e1 e2
    subst this
    have:=zI7 hn h1 h2
    omega
 ·rw[hσ] at hk
  cases hr:ρ[j]? with
  |none=>rw[hr] at hk;cases hk
  |some b=>
   rw[hr] at hk
   obtain⟨c,ty,h1,h2,h3⟩:=h.blk b _ k (hget j b blk hr hb) hk
   refine⟨c,ty,h1,by rw[zBf] at h2;exact h2,fun o x hx=>?_⟩
   obtain⟨p1,p2,p3⟩:=h3 o (x.ren (zDq ρ bs.length)) (by rw[zDS,hx];rfl)
   refine⟨(zH0 _ _ _ (by rw[zBf])).1 p1,?_,?_⟩
   ·refine p2.unren (m:=bS.length) (fun b' hb'=>?_) x rfl (zCr (zEN hu blk (zq3 hb)) hx) (by simp[Gh.small,hlen])
    have: ∃r,ρ[b']? =some r:=⟨_,zq2 (by rw[hlen];exact hb')⟩
    obtain⟨r,hr'⟩:=this
    rw[hσ,hr']
    simp only[Option.bind_some,zDq,zq5,hr',Option.getD_some]
   ·have:(g.small ρ).own (.cell j o)=g.own (.cell b o):=by simp[Gh.small,hr]
    rw[this]
    exact(OwnsBy.ren _).1 p3
 ·have: ∃q,g.own q=some k:=by
   cases p with
   |tmp t=>cases hp
   |cell j o=>
    simp only[Gh.small] at hp
    split at hp
    ·exact⟨_,hp⟩
    ·cases hp
  obtain⟨q,hq⟩:=this
  refine⟨fun hm=>?_,(h.ownσ q k hq).2⟩
  obtain⟨j,hj⟩:=zqd hm
  rw[hσ] at hj
  cases hr:ρ[j]? with
  |none=>rw[hr] at hj;cases hj
  |some b=>rw[hr] at hj;exact(h.ownσ q k hq).1 (zq3 hj)
 ·cases p with
  |tmp t=>cases hp
  |cell j o=>
   cases q with
   |tmp t=>cases hq
   |cell j' o'=>
    simp only[Gh.small] at hp hq
    cases h1:ρ[j]? with
    |none=>rw[h1] at hp;cases hp
    |some b=>
     cases h2:ρ[j']? with
     |none=>rw[h2] at hq;cases hq
     |some b'=>
      rw[h1] at hp;rw[h2] at hq
      have:=h.ownInj _ _ k hp hq
      cases this
      rw[zI7 hn h1 h2]
def Gh.large(g gS:Gh)(ρ:List Nat):Gh where
 imm:=gS.imm
 σ:=g.σ++gS.σ.drop ρ.length
 own:=fun p=>match p with
  |.cell b o=>if b<g.σ.length then (match ρ.idxOf? b with
   |some j=>gS.own (.cell j o)
   |none=>g.own (.cell b o))
   else gS.own (.cell (b-g.σ.length+ρ.length) o)
  |.tmp _=>none
theorem idxOf_some{b j:Nat}(h:ρ.idxOf? b=some j):ρ[j]? =some b:=by
 obtain⟨hj,h1,_⟩:=List.idxOf?_eq_some_iff.1 h
 rw[zq2 hj,h1]
theorem idxOf_none{b:Nat}(h:ρ.idxOf? b=none):b∉ρ:=List.idxOf?_eq_none_iff.1 h
def RawG(P:Program)(f:FuncId)(args:List AV)(bs:List (List AV))(Rr:Ending->(Addr->Option Value)->List Nat->Prop)(bs':List (List AV))(kept:Nat->Prop):Prop:=
 Enters P f∧∀(g:Gh)(w:World)(vals:Array Value),Sto g bs w->(∀t,g.own (.tmp t)=none)->TG g w->RepL g.imm g.σ args vals->
  Calls P f vals w fun e w'=> ∃g',Rr e g'.imm g'.σ∧Sto g' bs' w'∧Ext ⟨w,g⟩ g' w'∧(∀t,g'.own (.tmp t)=none)∧∀(b k:Nat),kept b->g.σ[b]? =some k->w'.heap[k]? =w.heap[k]?
theorem RawG.frameK{bS bS':List (List AV)}{Rr Rr':Ending->(Addr->Option Value)->List Nat->Prop}(h:RawG P f args bS Rr bS' (fun _=>False))(ρ:List Nat)(bs:List (List AV))(hok:zJF ρ args bS bs)
 (hR: ∀e imm (σ σ':List Nat),(∀(b k:Nat),σ[b]? =some k->σ'[zDq ρ bs.length b]? =some k)->Rr e imm σ->Rr' e imm σ'):
 RawG P f (AV.renL (zDq ρ bs.length) args) bs Rr' (lay (zDq ρ bs.length) ρ bS' bs) (fun b=>b∉ρ):=by
 obtain⟨hn0,hua,hub,hs⟩:=hok
 have hn:=zH8 hn0
 refine⟨h.1,fun g w vals hst h0 htg ha=>?_⟩
 have hlen:=zFV hs
 have hlt: ∀q,q∈ρ->q<bs.length:=fun q hq=>by
  obtain⟨j,hj⟩:=zqd hq
  have hj':j<bS.length:=by rw[<-hlen];exact(zq1 hj).1
  have:=zHp hs j q _ hj (zq2 hj')
  exact(zq1 this).1
 have hltσ: ∀q,q∈ρ->q<g.σ.length:=fun q hq=>by rw[hst.len];exact hlt q hq
 have hσ:=small_σ (g:=g) hltσ
 have hS:=sto_small hst hn hs hub
 have hplace: ∀(j r:Nat),ρ[j]? =some r->zDq ρ bs.length j=r:=fun j r hr=>by
  simp only[zDq,zq5,hr,Option.getD_some]
 have haS:RepL (g.small ρ).imm (g.small ρ).σ args vals:=by
  refine⟨by rw[ha.1,zBf],fun i x hx=>?_⟩
  refine(ha.2 i (x.ren (zDq ρ bs.length)) (by rw[zDS,hx];rfl)).unren (m:=bS.length) (fun b' hb'=>?_) x rfl (zCr hua hx) (by simp[Gh.small,hlen])
  obtain⟨r,hr⟩: ∃r,ρ[b']? =some r:=⟨_,zq2 (by rw[hlen];exact hb')⟩
  rw[hσ,hr,hplace _ _ hr];rfl
 have htS:TG (g.small ρ) w:=⟨htg.1,fun k hk=>by
  obtain⟨j,hj⟩:=zqd hk
  rw[hσ] at hj
  cases hr:ρ[j]? with
  |none=>rw[hr] at hj;cases hj
  |some b=>rw[hr] at hj;exact htg.2.1 k (zq3 hj),fun p k hk=>by
  cases p with
  |tmp t=>cases hk
  |cell j o=>
   simp only[Gh.small] at hk
   split at hk
   ·exact htg.2.2 _ k hk
   ·cases hk⟩
 refine(h.2 (g.small ρ) w vals hS (fun t=>rfl) htS haS).mono ?_
 rintro e w' ⟨gS,hv,hsto,hext,htmp,_⟩
 have hT: ∀k,Fx.T ⟨w,g.small ρ⟩ k->(k∈(g.small ρ).σ)∨∃(j b o:Nat),ρ[j]? =some b∧g.own (.cell b o)=some k:=by
  rintro k (hk|⟨j,o,hk⟩)
  ·exact .inl hk
  ·simp only[Gh.small] at hk
   split at hk
   ·rename_i b hb;exact .inr ⟨j,b,o,hb,hk⟩
   ·cases hk
 have hsub: ∀k,k∈(g.small ρ).σ->k∈g.σ:=fun k hk=>by
  obtain⟨j,hj⟩:=zqd hk
  rw[hσ] at hj
  cases hr:ρ[j]? with
  |none=>rw[hr] at hj;cases hj
  |some b=>rw[hr] at hj;exact zq3 hj
 have hTg: ∀k,Fx.T ⟨w,g.small ρ⟩ k->Fx.T ⟨w,g⟩ k:=fun k hk=>by
  rcases hT k hk with h1|⟨j,b,o,_,h2⟩
  ·exact .inl (hsub k h1)
  ·exact .inr ⟨b,o,h2⟩
 have hmine: ∀k,Fx.mine ⟨w,g.small ρ⟩ k->Fx.mine ⟨w,g⟩ k:=fun k hk=>hk.imp id (hTg k)
 have hpre: ∀(j k:Nat),(g.small ρ).σ[j]? =some k->gS.σ[j]? =some k:=hext.σ
 have hlenS:(g.small ρ).σ.length=ρ.length:=by simp[Gh.small]
 have hgeS:ρ.length<=gS.σ.length:=by
  rcases Nat.lt_or_ge gS.σ.length ρ.length with h1|h1
  ·have h2:=zq2 (show gS.σ.length<(g.small ρ).σ.length by rw[hlenS];exact h1)
   have h3:=(zq1 (hpre _ _ h2)).1
   omega
  ·exact h1
 have hge:ρ.length<=bS'.length:=by rw[<-hsto.len];exact hgeS
 have hpreρ: ∀(j b:Nat),ρ[j]? =some b->gS.σ[j]? =g.σ[b]? :=fun j b hr=>by
  have h1:=hσ j
  rw[hr] at h1
  have hb:=hltσ b (zq3 hr)
  simp only[Option.bind_some] at h1
  rw[zq2 hb] at h1 ⊢
  exact hpre _ _ h1
 have hfr: ∀(b k:Nat),g.σ[b]? =some k->b∉ρ->¬Fx.T ⟨w,g.small ρ⟩ k:=fun b k hk hb ht=>by
  rcases hT k ht with h1|⟨j,b',o,_,h2⟩
  ·obtain⟨j,hj⟩:=zqd h1
   rw[hσ] at hj
   cases hr:ρ[j]? with
   |none=>rw[hr] at hj;cases hj
   |some b'=>
    rw[hr] at hj
    have:=zI7 hst.nodup hk hj
    subst this
    exact hb (zq3 hr)
  ·exact(hst.ownσ _ k h2).1 (zq3 hk)
 have hfo: ∀(b o k:Nat),g.own (.cell b o)=some k->b∉ρ->¬Fx.T ⟨w,g.small ρ⟩ k:=fun b o k hk hb ht=>by
  rcases hT k ht with h1|⟨j,b',o',hr,h2⟩
  ·exact(hst.ownσ _ k hk).1 (hsub k h1)
  ·have:=hst.ownInj _ _ k hk h2
   cases this
   exact hb (zq3 hr)
 have hnewmem: ∀k,k∈gS.σ.drop ρ.length->k∈gS.σ∧k∉(g.small ρ).σ:=fun k hk=>by
  refine⟨List.mem_of_mem_drop hk,fun hm=>?_⟩
  obtain⟨j,hj⟩:=zqd hm
  obtain⟨i,hi⟩:=zqd hk
  rw[List.getElem?_drop] at hi
  have:=zI7 hsto.nodup (hpre j k hj) hi
  have hj':=(zq1 hj).1
  rw[hlenS] at hj'
  omega
 have hnewold: ∀k,k∈gS.σ.drop ρ.length->k∉g.σ:=fun k hk hm=>by
  obtain⟨h1,h2⟩:=hnewmem k hk
  rcases hext.mineσ k h1 with h3|h3
  ·exact absurd (hst.σ_lt hm) (Nat.not_lt.2 h3)
  ·rcases hT k h3 with h4|⟨j,b,o,_,h5⟩
   ·exact h2 h4
   ·exact(hst.ownσ _ k h5).1 hm
 have hownNew: ∀(j o k:Nat),gS.own (.cell j o)=some k->k∉g.σ:=fun j o k hk hm=>by
  rcases hext.mineOwn _ k hk with h3|h3
  ·exact absurd (hst.σ_lt hm) (Nat.not_lt.2 h3)
  ·rcases hT k h3 with h4|⟨j',b,o',_,h5⟩
   ·obtain⟨i,hi⟩:=zqd h4
    exact(hsto.ownσ _ k hk).1 (zq3 (hpre i k hi))
   ·exact(hst.ownσ _ k h5).1 hm
 have hnum: ∀(j k:Nat),gS.σ[j]? =some k->(g.large gS ρ).σ[zDq ρ bs.length j]? =some k:=fun j k hk=>by
  simp only[Gh.large]
  cases hr:ρ[j]? with
  |some b=>
   rw[hplace j b hr,List.getElem?_append_left (hltσ b (zq3 hr)),<-hpreρ j b hr];exact hk
  |none=>
   have hj:ρ.length<=j:=List.getElem?_eq_none_iff.1 hr
   simp only[zDq,zq5,hr,Option.getD_none]
   rw[<-hst.len,List.getElem?_append_right (by omega),List.getElem?_drop,show ρ.length+(g.σ.length+(j-ρ.length)-g.σ.length)=j by omega];exact hk
 have hownρ: ∀(j b o:Nat),ρ[j]? =some b->(g.large gS ρ).own (.cell b o)=gS.own (.cell j o):=fun j b o hr=>by
  simp only[Gh.large]
  rw[if_pos (hltσ b (zq3 hr))]
  cases hi:ρ.idxOf? b with
  |none=>exact absurd (zq3 hr) (idxOf_none hi)
  |some i=>rw[zI7 hn (idxOf_some hi) hr]
 have hownF: ∀(b o:Nat),b<g.σ.length->b∉ρ->(g.large gS ρ).own (.cell b o)=g.own (.cell b o):=fun b o hb hr=>by
  simp only[Gh.large]
  rw[if_pos hb]
  cases hi:ρ.idxOf? b with
  |none=>rfl
  |some i=>exact absurd (zq3 (idxOf_some hi)) hr
 have hownN: ∀(b o:Nat),g.σ.length<=b->(g.large gS ρ).own (.cell b o)=gS.own (.cell (b-g.σ.length+ρ.length) o):=fun b o hb=>by
  simp only[Gh.large]
  rw[if_neg (by omega)]
 have hcases: ∀(p:Place)(k:Nat),(g.large gS ρ).own p=some k->(∃b o,p=.cell b o∧b<g.σ.length∧b∉ρ∧g.own p=some k)∨
  (∃b o j,p=.cell b o∧gS.own (.cell j o)=some k∧((ρ[j]? =some b∧b<g.σ.length)∨(g.σ.length<=b∧j=b-g.σ.length+ρ.length))):=fun p k hp=>by
  cases p with
  |tmp t=>cases hp
  |cell b o=>
   rcases Nat.lt_or_ge b g.σ.length with hb|hb
   ·by_cases hr:b∈ρ
    ·obtain⟨j,hj⟩:=zqd hr
     rw[hownρ j b o hj] at hp
     exact .inr ⟨b,o,j,rfl,hp,.inl ⟨hj,hb⟩⟩
    ·rw[hownF b o hb hr] at hp
     exact .inl ⟨b,o,rfl,hb,hr,hp⟩
   ·rw[hownN b o hb] at hp
    exact .inr ⟨b,o,_,rfl,hp,.inr ⟨hb,rfl⟩⟩
 have hσlen:(g.large gS ρ).σ.length=bs.length+(bS'.length-ρ.length):=by
  simp only[Gh.large,List.length_append,List.length_drop,hst.len,hsto.len]
 have hExt:Ext ⟨w,g⟩ (g.large gS ρ) w':={
  gfx:=htg.fx
  imm:=hext.imm
  immNew:=fun x u hx=>(hext.immNew x u hx).imp id (hmine _)
  σ:=fun b k hk=>by
   show(g.σ++gS.σ.drop ρ.length)[b]? =some k
   rw[List.getElem?_append_left (zq1 hk).1];exact hk
  mineσ:=fun k hk=>by
   rcases List.mem_append.1 hk with h1|h1
   ·exact .inr (.inl h1)
   ·exact hmine _ (hext.mineσ k (hnewmem k h1).1)
  mineOwn:=fun p k hp=>by
   rcases hcases p k hp with ⟨b,o,rfl,_,_,h3⟩|⟨b,o,j,rfl,h3,_⟩
   ·exact .inr (.inr ⟨b,o,h3⟩)
   ·exact hmine _ (hext.mineOwn _ k h3)
  keep:=fun k hk hnt=>hext.keep k hk fun ht=>hnt (hTg k ht)
  size:=hext.size
  os:=hext.os
  tape:=hext.tape
  output:=hext.output}
 refine⟨g.large gS ρ,hR e _ _ _ hnum hv,?_,hExt,fun t=>rfl,fun b k hb hk=>hext.keep k (hst.σ_lt (zq3 hk)) (hfr b k hk hb)⟩
 have hspare: ∀(b o k:Nat)(a:Addr) lo hi,g.own (.cell b o)=some k->b∉ρ->a.block=k->Spare g.imm w a lo hi->Spare gS.imm w' a lo hi:=fun b o k a lo hi hk hb hak hsp j h1 h2=>by
  obtain⟨p1,⟨u,p2⟩,p3⟩:=hsp j h1 h2
  have hkl:=(hst.ownσ _ k hk).2
  have hnt:=hfo b o k hk hb
  have hh:=hext.keep k hkl hnt
  have hbl:(a.add j).block=k:=by rw[zEa];exact hak
  refine⟨?_,⟨u,?_⟩,?_⟩
  ·cases hc:gS.imm (a.add j) with
   |none=>rfl
   |some u'=>
    rcases hext.immNew _ _ hc with h3|h3
    ·have h3':g.imm (a.add j)=some u':=h3
     rw[p1] at h3';cases h3'
    ·rw[hbl] at h3
     rcases h3 with h4|h4
     ·exact absurd hkl (Nat.not_lt.2 h4)
     ·exact absurd h4 hnt
  ·rw[<-p2];unfold World.cell?;rw[hbl,hh]
  ·rw[<-p3];unfold World.frozen?;rw[hbl,hh]
 refine {gok:=hsto.gok,imm:=hsto.imm,immσ:=fun x u hx hm=>?_,len:=by rw[hσlen,lay_length _ _ _ _ hge],nodup:=?_,blk:=fun b blk k hb hk=>?_,ownσ:=fun p k hp=>?_,ownInj:=fun p q k hp hq=>?_}
 ·rcases List.mem_append.1 hm with h1|h1
  ·obtain⟨b,hb⟩:=zqd h1
   by_cases hr:b∈ρ
   ·obtain⟨j,hj⟩:=zqd hr
    exact hsto.immσ x u hx (zq3 (i:=j) (by rw[hpreρ j b hj];exact hb))
   ·rcases hext.immNew x u hx with h2|h2
    ·exact hst.immσ x u h2 h1
    ·rcases h2 with h3|h3
     ·exact absurd (hst.σ_lt h1) (Nat.not_lt.2 h3)
     ·exact hfr b _ hb hr h3
  ·exact hsto.immσ x u hx (hnewmem _ h1).1
 ·refine List.nodup_append.2 ⟨hst.nodup,hsto.nodup.sublist (List.drop_sublist _ _),fun a ha b hb e=>?_⟩
  subst e;exact hnewold a hb ha
 ·
  have hS': ∀(j:Nat) blkS,bS'[j]? =some blkS->gS.σ[j]? =some k->(∀o,(g.large gS ρ).own (.cell b o)=gS.own (.cell j o))->blk=AV.renL (zDq ρ bs.length) blkS->
   ∃c ty,w'.heap[k]? =some (.cells c ty (0,0))∧blk.length<=c.size∧∀(o:Nat) x,blk[o]? =some x->x.cellOk ty (blk.length=c.size)∧Rep (g.large gS ρ).imm (g.large gS ρ).σ x (c.getD o undef)∧OwnsBy (g.large gS ρ).imm w' ((g.large gS ρ).own (.cell b o)) x (c.getD o undef):=by
   intro j blkS h1 h2 h3 h4
   obtain⟨c,ty,q1,q2,q3⟩:=hsto.blk j blkS k h1 h2
   refine⟨c,ty,q1,by rw[h4,zBf];exact q2,fun o x hx=>?_⟩
   rw[h4,zDS] at hx
   cases hy:blkS[o]? with
   |none=>rw[hy] at hx;cases hx
   |some y=>
    rw[hy] at hx;cases hx
    obtain⟨r1,r2,r3⟩:=q3 o y hy
    exact⟨(zH0 _ _ _ (by rw[h4,zBf])).2 r1,r2.ren hnum,by rw[h3];exact(OwnsBy.ren _).2 r3⟩
  rcases Nat.lt_or_ge b g.σ.length with hbl|hbl
  ·have hk':g.σ[b]? =some k:=by
    have:(g.σ++gS.σ.drop ρ.length)[b]? =some k:=hk
    rwa [List.getElem?_append_left hbl] at this
   by_cases hr:b∈ρ
   ·obtain⟨j,hj⟩:=zqd hr
    rw[lay_at _ _ _ _ j b hn hlt hge hj] at hb
    cases hq:bS'[j]? with
    |none=>rw[hq] at hb;cases hb
    |some blkS=>
     rw[hq] at hb
     exact hS' j blkS hq (by rw[hpreρ j b hj];exact hk') (fun o=>hownρ j b o hj) (by cases hb;rfl)
   ·rw[zGe _ _ _ _ b hr (by rw[<-hst.len];exact hbl)] at hb
    obtain⟨c,ty,q1,q2,q3⟩:=hst.blk b blk k hb hk'
    have hh:=hext.keep k (hst.σ_lt (zq3 hk')) (hfr b k hk' hr)
    refine⟨c,ty,by rw[hh];exact q1,q2,fun o x hx=>?_⟩
    obtain⟨r1,r2,r3⟩:=q3 o x hx
    refine⟨r1,r2.mono hext.imm (fun b' k' hb'=>hExt.σ b' k' hb'),?_⟩
    rw[hownF b o hbl hr]
    cases x<;>try exact trivial
    ·intro base n cap hv'
     rcases r3 base n cap hv' with h1|⟨a,h1,h2,⟨h3,h4,m,h5,h6⟩,h7⟩
     ·exact .inl h1
     ·have hkl:=(hst.ownσ _ _ h2).2
      have hnt:=hfo b o _ h2 hr
      refine .inr ⟨a,h1,h2,⟨h3,h4,m,zEz (hext.keep _ hkl hnt) h5,h6⟩,hspare b o _ a _ _ h2 hr rfl h7⟩
    ·intro base n cap hv'
     rcases r3 base n cap hv' with h1|⟨a,h1,h2,h7⟩
     ·exact .inl h1
     ·exact .inr ⟨a,h1,h2,hspare b o _ a _ _ h2 hr rfl h7⟩
    ·intro k0 hv'
     obtain⟨h1,h2⟩:=r3 k0 hv'
     have hkl:=(hst.ownσ _ _ h1).2
     have hnt:=hfo b o _ h1 hr
     exact⟨h1,h2.mono hext.imm (fun es c hm=>by rw[hext.keep _ hkl hnt];exact hm)⟩
    ·intro vs base n cap hv1 hv2
     rcases r3 vs base n cap hv1 hv2 with h1|⟨a,h1,h2,⟨h3,h4,m,h5,h6⟩,h7⟩
     ·exact .inl h1
     ·have hkl:=(hst.ownσ _ _ h2).2
      have hnt:=hfo b o _ h2 hr
      exact .inr ⟨a,h1,h2,⟨h3,h4,m,zEz (hext.keep _ hkl hnt) h5,h6⟩,hspare b o _ a _ _ h2 hr rfl h7⟩
  ·have hk':gS.σ[b-g.σ.length+ρ.length]? =some k:=by
    have:(g.σ++gS.σ.drop ρ.length)[b]? =some k:=hk
    rw[List.getElem?_append_right hbl,List.getElem?_drop] at this
    rw[Nat.add_comm];exact this
   have hbl':bs.length<=b:=by rw[<-hst.len];exact hbl
   obtain⟨d,rfl⟩: ∃d,b=bs.length+d:=⟨b-bs.length,by omega⟩
   rw[lay_new _ _ _ _ d hge] at hb
   have hidx:bs.length+d-g.σ.length+ρ.length=ρ.length+d:=by rw[hst.len];omega
   cases hq:bS'[ρ.length+d]? with
   |none=>rw[hq] at hb;cases hb
   |some blkS=>
    rw[hq] at hb
    exact hS' (ρ.length+d) blkS hq (by rw[<-hidx];exact hk') (fun o=>by rw[hownN _ o hbl,hidx]) (by cases hb;rfl)
 ·rcases hcases p k hp with ⟨b,o,rfl,hb,hr,h3⟩|⟨b,o,j,rfl,h3,h4⟩
  ·obtain⟨q1,q2⟩:=hst.ownσ _ k h3
   refine⟨fun hm=>?_,Nat.lt_of_lt_of_le q2 hext.size⟩
   rcases List.mem_append.1 hm with h5|h5
   ·exact q1 h5
   ·obtain⟨h6,h7⟩:=hnewmem k h5
    rcases hext.mineσ k h6 with h8|h8
    ·exact absurd q2 (Nat.not_lt.2 h8)
    ·exact hfo b o k h3 hr h8
  ·obtain⟨q1,q2⟩:=hsto.ownσ _ k h3
   refine⟨fun hm=>?_,q2⟩
   rcases List.mem_append.1 hm with h5|h5
   ·exact hownNew j o k h3 h5
   ·exact q1 (hnewmem k h5).1
 ·have hmix: ∀(b o j o':Nat),b∉ρ->g.own (.cell b o)=some k->gS.own (.cell j o')=some k->False:=fun b o j o' hr h1 h2=>by
   rcases hext.mineOwn _ k h2 with h3|h3
   ·exact absurd (hst.ownσ _ k h1).2 (Nat.not_lt.2 h3)
   ·exact hfo b o k h1 hr h3
  rcases hcases p k hp with ⟨b,o,rfl,hb,hr,h3⟩|⟨b,o,j,rfl,h3,h4⟩
  ·rcases hcases q k hq with ⟨b',o',rfl,hb',hr',h3'⟩|⟨b',o',j',rfl,h3',h4'⟩
   ·exact hst.ownInj _ _ k h3 h3'
   ·exact(hmix b o j' o' hr h3 h3').elim
  ·rcases hcases q k hq with ⟨b',o',rfl,hb',hr',h3'⟩|⟨b',o',j',rfl,h3',h4'⟩
   ·exact(hmix b' o' j o hr' h3' h3).elim
   ·have:=hsto.ownInj _ _ k h3 h3'
    cases this
    congr 1
    rcases h4 with ⟨h5,h6⟩|⟨h5,h6⟩<;>rcases h4' with ⟨h5',h6'⟩|⟨h5',h6'⟩
    ·rw[h5] at h5';cases h5';rfl
    ·have:=(zq1 h5).1;omega
    ·have:=(zq1 h5').1;omega
    ·omega
theorem Raw.frameK{bS bS':List (List AV)}(h:Raw P f args bS res bS')(ρ:List Nat)(bs:List (List AV))(hok:zJF ρ args bS bs):
 RawK P f (AV.renL (zDq ρ bs.length) args) bs (res.ren (zDq ρ bs.length)) (lay (zDq ρ bs.length) ρ bS' bs) (fun b=>b∉ρ):=by
 have h1:=RawG.frameK (Rr:=fun e imm σ=> ∃v,e=.returned v∧Rep imm σ res v) (Rr':=fun e imm σ=> ∃v,e=.returned v∧Rep imm σ (res.ren (zDq ρ bs.length)) v) (P:=P) (f:=f) (args:=args) (bS:=bS) (bS':=bS')
  ⟨h.1,fun g w vals h1 h2 h3 h4=>(h.2 g w vals h1 h2 h3 h4).mono fun e w' ⟨g',v,e1,e2,e3,e4,e5⟩=>⟨g',⟨v,e1,e2⟩,e3,e4,e5,fun _ _ h=>h.elim⟩⟩ ρ bs hok (fun e imm σ σ' hn ⟨v,e1,e2⟩=>⟨v,e1,e2.ren hn⟩)
 exact⟨h1.1,fun g w vals h2 h3 h4 h5=>(h1.2 g w vals h2 h3 h4 h5).mono fun e w' ⟨g',⟨v,e1,e2⟩,e3,e4,e5,e6⟩=>⟨g',v,e1,e2,e3,e4,e5,e6⟩⟩
attribute [simp] AV.ren AV.renL zDq lay Stands noDup zJF
theorem Raw.frame{bS bS':List (List AV)}(h:Raw P f args bS res bS')(ρ:List Nat)(bs:List (List AV))(hok:zJF ρ args bS bs):
 Raw P f (AV.renL (zDq ρ bs.length) args) bs (res.ren (zDq ρ bs.length)) (lay (zDq ρ bs.length) ρ bS' bs):=(h.frameK ρ bs hok).raw
theorem leAV_refl(x:AV):leAV x x:=by
 cases x<;>simp
@[simp] theorem leCells_refl: ∀l:List AV,leCells l l
 |[]=>trivial
 |x::l=>⟨leAV_refl x,.inr rfl,leCells_refl l⟩
def row{α:Type}(c:α->List AV)(l:List α):List AV:=(l.map c).flatten
section
variable (s:AState) (t:Nat)
@[simp] theorem get_fz:s.fz.get t=(s.get t).fz s.lb s.lblk:=rfl
@[simp] theorem n_fz:s.fz.n=s.n:=rfl
@[simp] theorem base_fz:s.fz.base=s.base:=rfl
@[simp] theorem blocks_fz:s.fz.blocks=(s.blocks.take s.lb).map (AV.fzL s.lb s.lblk):=rfl
@[simp] theorem loans_fz:s.fz.loans t=none:=rfl
end
attribute [simp] AState.lb AState.lblk AV.fz AV.fzL okFz okFzL okFzB FzOk FzR DropOk zIq AState.dropB
def Ghost(s s':AState):Prop:= ∀F g a w,Sim F g s a w->∃g',Sim F g' s' a w
theorem Ghost.refl(s:AState):Ghost s s:=fun F g a w h=>⟨g,h⟩
def FreeSteps(P:Program)(Inv:(Nat->Bool)->AState->Prop):Nat->List Oper->Prop
 |_,[]=>True
 |k,o::l=>(∀L s,L k=false->(zDJ o).all L=true->Inv L s->AStep P o s fun s'=>Inv (fun j=>if j=k then true else L j) s')∧FreeSteps P Inv (k+1) l
theorem FreeSteps.get{Inv:(Nat->Bool)->AState->Prop}: ∀{l:List Oper}{k:Nat},FreeSteps P Inv k l->∀{i:Nat}{o:Oper},l[i]? =some o->
 ∀L s,L (k+i)=false->(zDJ o).all L=true->Inv L s->AStep P o s fun s'=>Inv (fun j=>if j=k+i then true else L j) s'
 |[],k,_,i,o,hi=>by simp at hi
 |x::l,k,h,0,o,hi=>by simp at hi;subst hi;exact h.1
 |x::l,k,h,i+1,o,hi=>by
  have:=FreeSteps.get h.2 (i:=i) (o:=o) (by simpa using hi)
  rwa [show k+1+i=k+(i+1) by omega] at this
def freeOk(ops:Array Oper)(r:Nat):Bool:=decide (r<=ops.size)&&(ops.toList.zipIdx.all fun(o,j)=>o.guard.isNone&&(zDJ o).all (·<j))&&
 (List.range ops.size).all fun j=>decide (j<r)||(List.range j).all fun k=>((zDl ops.toList).getD j []).contains k
theorem any_free{Q:Exit->Act->World->Prop}{Inv:(Nat->Bool)->AState->Prop}(hgd: ∀(j:Nat) o,ops[j]? =some o->o.guard=none∧∀e,e∈zDJ o->e<j)
 (step: ∀(i:Nat) o L s,ops[i]? =some o->L i=false->(∀e,e∈zDJ o->L e=true)->(∀k,k∈(zDl ops.toList).getD i []->L k=true)->Inv L s->∃s1,Ghost s s1∧AStep P o s1 fun s2=>Inv (fun j=>if j=i then true else L j) s2)
 (fin: ∀L s,(∀i,i<ops.size->L i=true)->Inv L s->∀g a w,Sim F g s a w->Q .normal a w): ∀(fuel:Nat)(listed:Array Bool)(s:AState)(g:Gh)(a:Act)(w:World),
 listed.size=ops.size->((List.range ops.size).filter fun i=> !listed.getD i true).length<=fuel->(∀(j:Nat) o,ops[j]? =some o->listed.getD j false=true->∀e,e∈zDJ o->listed.getD e false=true)->
 Inv (fun i=>listed.getD i false) s->Sim F g s a w->wpAny P .any ops Q fuel listed a w:=by
 have hin: ∀(listed:Array Bool),listed.size=ops.size->∀i,i<ops.size->listed.getD i true=listed.getD i false:=fun listed hsz i hi=>by
  rw[zq6,zq6,zqe (by omega)];rfl
 have hall: ∀(listed:Array Bool),listed.size=ops.size->Region.ready .any ops listed=[]->∀i,i<ops.size->listed.getD i false=true:=fun listed hsz hr=>by
  intro i
  induction i using Nat.strongRecOn with
  |_ i ih=>
   intro hi
   cases hv:listed.getD i false with
   |true=>rfl
   |false=>
    have hmem:i∈Region.ready .any ops listed:=mem_ready.2 ⟨by rw[hin listed hsz i hi];exact hv,ops[i],zqe hi,fun e he hb=>by
     have hlt:=(hgd i _ (zqe hi)).2 e.on (List.mem_map.2 ⟨e,List.mem_filter.2 ⟨by simpa using he,hb⟩,rfl⟩)
     exact ih e.on hlt (by omega)⟩
    rw[hr] at hmem;cases hmem
 intro fuel
 induction fuel with
 |zero=>
  intro listed s g a w hsz hlen hcl hI hs
  have hnil:((List.range ops.size).filter fun i=> !listed.getD i true)=[]:=List.eq_nil_of_length_eq_zero (by omega)
  have hr:Region.ready .any ops listed=[]:=by
   cases hr:Region.ready .any ops listed with
   |nil=>rfl
   |cons i l=>
    have hi:i∈Region.ready .any ops listed:=by rw[hr];exact zq9 ..
    obtain⟨h1,o,h2,_⟩:=mem_ready.1 hi
    have:i∈((List.range ops.size).filter fun i=> !listed.getD i true):=List.mem_filter.2 ⟨List.mem_range.2 (lt_of_getElem? h2),by simp[h1]⟩
    rw[hnil] at this;cases this
  exact⟨hr,fin _ s (hall listed hsz hr) hI g a w hs⟩
 |succ fuel ih=>
  intro listed s g a w hsz hlen hcl hI hs
  refine⟨fun hr=>fin _ s (hall listed hsz hr) hI g a w hs,fun i hi=>?_⟩
  obtain⟨h1,o,h2,h3⟩:=mem_ready.1 hi
  have hilt:=lt_of_getElem? h2
  obtain⟨hgn,_⟩:=hgd i o h2
  have hed: ∀e,e∈zDJ o->listed.getD e false=true:=fun e he=>by
   obtain⟨ed,hed,rfl⟩:=List.mem_map.1 he
   rw[List.mem_filter] at hed
   exact h3 ed (by simpa using hed.1) hed.2
  have hanc: ∀k,k∈(zDl ops.toList).getD i []->listed.getD k false=true:=fun k hk=>
   zH9 (ops:=ops.toList) (L:=fun j=>listed.getD j false=true) (fun j o hj=>hcl j o (by simpa using hj)) i o (by simpa using h2) hed k hk
  obtain⟨s0,hgh,hstep⟩:=step i o (fun i=>listed.getD i false) s h2 (by rw[<-hin listed hsz i hilt];exact h1) hed hanc hI
  obtain⟨g0,hs0⟩:=hgh F g a w hs
  obtain⟨s1,hs1,hI1⟩:=hstep.ok
  obtain⟨u1,u2,e1,e2,e3⟩:=zGN (p:=fun i=> !listed.getD i true) hilt (by simp[h1])
  have hfil:((List.range ops.size).filter fun k=> !(listed.setIfInBounds i true).getD k true)=u1++u2:=by
   rw[<-e3]
   apply List.filter_congr
   intro k hk
   rw[List.mem_range] at hk
   rw[zEJ (n:=0) listed i k true (by omega)]
   by_cases e:k=i
   ·simp[e]
   ·simp[e]
  have hL: ∀k,(listed.setIfInBounds i true).getD k false=if k=i then true else listed.getD k false:=fun k=>by
   rw[zq6,Array.getElem?_setIfInBounds]
   by_cases e:k=i
   ·subst e;simp[hsz,hilt]
   ·simp[e,Ne.symm e,zq6]
  have hgo:=hs1 F g0 a w hs0 (wpAny P .any ops Q fuel (listed.setIfInBounds i true)) Q fun g' a' w' hs'=>
   ih (listed.setIfInBounds i true) s1 g' a' w' (by simpa using hsz) (by
    rw[hfil]
    have:=hlen
    rw[e1] at this
    simp only[List.length_append,List.length_cons] at this ⊢
    omega) (fun j oj hj hl e he=>by
    rw[hL] at hl ⊢
    split
    ·rfl
    ·split at hl
     ·rename_i hji
      subst hji
      rw[h2] at hj;cases hj
      exact hed e he
     ·exact hcl j oj hj hl e he) (by rw[funext hL];exact hI1) hs'
  unfold wpOp
  simp only[h2]
  rw[if_pos (by simp[Region.wanted,hgn])]
  exact .inl hgo
theorem ResK.mono{d:Option Nat}{r:Option Res}{K K':AState->Prop}(hk: ∀s,K s->K' s)(h:ResK s d r K):ResK s d r K':=by
 unfold ResK at h ⊢
 split
 ·exact⟨h.1,hk _ h.2⟩
 ·exact h
theorem CallF.mono{d:Option Nat}{K K':AState->Prop}(hk: ∀s,K s->K' s): ∀(k:Nat)(args args0:List AV)(s:AState),CallF P f k args args0 s d K->CallF P f k args args0 s d K'
 |0,args,args0,s,h=>by
  rcases h with ⟨res,h1,h2,h3,h4⟩|⟨res,bs',h1,h2,h3⟩|⟨ec,l,h1,h2,h3⟩
  ·exact .inl ⟨res,h1,h2,h3,hk _ h4⟩
  ·exact .inr (.inl ⟨res,bs',h1,h2,hk _ h3⟩)
  ·exact .inr (.inr ⟨ec,l,h1,h2,hk _ h3⟩)
 |k+1,args,args0,s,h=>⟨h.1,CallF.mono hk k _ _ _ h.2⟩
theorem AStep.mono{K K':AState->Prop}(h:AStep P o s K)(hk: ∀s,K s->K' s):AStep P o s K':=by
 unfold AStep at h ⊢
 split
 ·rename_i c ho
  rw[ho] at h
  simp only at h
  split
  ·rename_i x hc
   rw[hc] at h
   simp only at h
   split
   ·rename_i f first captured hx
    rw[hx] at h
    rcases h with ⟨k,h⟩|⟨i,y,ec,l,r,h1,h2,h3,h4,h5,h7⟩
    ·exact .inl ⟨k,CallF.mono hk k _ _ _ h⟩
    ·exact .inr ⟨i,y,ec,l,r,h1,h2,h3,h4,h5,hk _ h7⟩
   ·rename_i hn
    split at h
    ·rename_i f first captured hx;exact(hn _ _ _ hx).elim
    ·exact h
  ·rename_i b hc
   rw[hc] at h
   exact ResK.mono hk h
  ·rename_i h1 h2
   split at h
   ·rename_i x hx;exact(h1 x hx).elim
   ·rename_i b hb;exact(h2 b hb).elim
   ·exact h
 ·rename_i t n ps ho
  rw[ho] at h
  rcases h with h|⟨h1,h2,h⟩
  ·exact .inl (ResK.mono hk h)
  ·exact .inr ⟨h1,h2,ResK.mono hk h⟩
 ·rename_i t x lo ho
  rw[ho] at h
  simp only[TailV] at h ⊢
  split
  ·rename_i ec l hx;rw[hx] at h;exact ResK.mono hk h
  ·rename_i hn
   split at h
   ·rename_i ec l hx;exact(hn _ _ hx).elim
   ·exact ResK.mono hk h
 ·rename_i t ho
  rw[ho] at h
  exact ResK.mono hk h
 ·rename_i t x i ok ho
  rw[ho] at h
  exact ResK.mono hk h
 ·rename_i t x i v ho
  rw[ho] at h
  exact ResK.mono hk h
 ·rename_i t x i v ho
  rw[ho] at h
  exact ResK.mono hk h
 ·rename_i x i ho
  rw[ho] at h
  exact ResK.mono hk h
 ·rename_i h1 h2 h3 h4 h5 h6 h7 h8
  split at h
  ·rename_i c hc;exact(h1 _ hc).elim
  ·rename_i t n ps hc;exact(h2 _ _ _ hc).elim
  ·rename_i t x lo hc;exact(h3 _ _ _ hc).elim
  ·rename_i t hc;exact(h4 _ hc).elim
  ·rename_i t x i ok hc;exact(h5 _ _ _ _ hc).elim
  ·rename_i t x i v hc;exact(h6 _ _ _ _ hc).elim
  ·rename_i t x i v hc;exact(h7 _ _ _ _ hc).elim
  ·rename_i x i hc;exact(h8 _ _ hc).elim
  ·exact ResK.mono hk h
theorem zIl(hm:P.follows .mixedOrders=true)(r:Nat)(Inv:(Nat->Bool)->AState->Prop)(hok:freeOk ops r=true)
 (h0:Inv (fun _=>false) s.fresh) (hst:FreeSteps P Inv 0 (ops.toList.take r))
 (fin: ∀L s',(∀i,i<r->L i=true)->Inv L s'->∃s'',Ghost s' s''∧AOps P ops (Q .normal) (ops.toList.drop r) s''):AWp P (.region id ops true) Q s:=fun F g a w hs=>by
 simp only[freeOk,zq7] at hok
 obtain⟨⟨hrs,hok1⟩,hok2⟩:=hok
 have hrs:r<=ops.size:=by simpa using hrs
 have hgd: ∀(j:Nat) o,ops[j]? =some o->o.guard=none∧∀e,e∈zDJ o->e<j:=fun j o hj=>by
  have:=(zq8 hok1) (o,j) (zGz hj)
  simp only[zq7,Option.isNone_iff_eq_none,List.all_eq_true,decide_eq_true_eq] at this
  exact this
 have htl: ∀j,j<ops.size->r<=j->∀k,k<j->k∈(zDl ops.toList).getD j []:=fun j hj hr k hk=>by
  have:=(zq8 hok2) j (List.mem_range.2 hj)
  simp only[Bool.or_eq_true,decide_eq_true_eq] at this
  rcases this with h|h
  ·omega
  ·simpa using(zq8 h) k (List.mem_range.2 hk)
 let Inv':(Nat->Bool)->AState->Prop:=fun L s=>((∀j,r<=j->L j=false)∧Inv L s)∨∃k,r<k∧(∀j,j<k->L j=true)∧(∀j,k<=j->L j=false)∧AOps P ops (Q .normal) (ops.toList.drop k) s
 have hdrop: ∀(i:Nat) o,ops[i]? =some o->ops.toList.drop i=o::ops.toList.drop (i+1):=fun i o h=>by
  have hi:i<ops.toList.length:=by simpa using lt_of_getElem? h
  rw[List.drop_eq_getElem_cons hi]
  congr 1
  have:=zq2 hi
  rw[Array.getElem?_toList,h] at this
  exact(zqa this).symm
 have hops: ∀(i:Nat) o s,ops[i]? =some o->AOps P ops (Q .normal) (ops.toList.drop i) s->AStep P o s fun s2=>AOps P ops (Q .normal) (ops.toList.drop (i+1)) s2:=fun i o s h hA=>by
  rw[hdrop i o h] at hA
  simp only[AOps,(hgd i o h).1] at hA
  exact hA
 have mono: ∀(o:Oper)(s:AState)(K K':AState->Prop),AStep P o s K->(∀s,K s->K' s)->AStep P o s K':=fun o s K K' h hk=>h.mono hk
 refine wp_region_any hm (any_free (F:=F) (Inv:=Inv') hgd ?_ ?_ ops.size _ s.fresh g a _ (by simp) (Nat.le_trans (List.length_filter_le _ _) (by simp)) ?_ ?_ hs.fresh.drew)
 ·intro i o L s hi hLi hed hanc hI
  rcases hI with ⟨hL,hI⟩|⟨k,hk,hk1,hk2,hA⟩
  ·by_cases hir:i<r
   ·refine⟨s,.refl s,?_⟩
    have h1:=FreeSteps.get hst (i:=i) (o:=o) (by rw[List.getElem?_take,if_pos hir];simpa using hi) L s (by simpa using hLi) (List.all_eq_true.2 hed) hI
    simp only[Nat.zero_add] at h1
    exact mono o s _ _ h1 fun s2 h2=>.inl ⟨fun j hj=>by show(if j=i then true else L j)=false;rw[if_neg (by omega)];exact hL j hj,h2⟩
   ·have hlt:=lt_of_getElem? hi
    have hir':i=r:=by
     rcases Nat.lt_or_ge r i with h|h
     ·have:=hanc r (htl i hlt (by omega) r h)
      rw[hL r (Nat.le_refl _)] at this;cases this
     ·omega
    subst hir'
    have hLall: ∀j,j<i->L j=true:=fun j hj=>hanc j (htl i hlt (Nat.le_refl _) j hj)
    obtain⟨s'',hgh,hA⟩:=fin L s hLall hI
    refine⟨s'',hgh,mono o s'' _ _ (hops i o s'' hi hA) fun s2 h2=>.inr ⟨i+1,by omega,fun j hj=>?_,fun j hj=>?_,h2⟩⟩
    ·show(if j=i then true else L j)=true
     split
     ·rfl
     ·exact hLall j (by omega)
    ·show(if j=i then true else L j)=false
     rw[if_neg (by omega)];exact hL j (by omega)
  ·have hlt:=lt_of_getElem? hi
   have hik:k<=i:=by
    rcases Nat.lt_or_ge i k with h|h
    ·rw[hk1 i h] at hLi;cases hLi
    ·exact h
   have hik':i=k:=by
    rcases Nat.lt_or_ge k i with h|h
    ·have:=hanc k (htl i hlt (by omega) k h)
     rw[hk2 k (Nat.le_refl _)] at this;cases this
    ·omega
   subst hik'
   refine⟨s,.refl s,mono o s _ _ (hops i o s hi hA) fun s2 h2=>.inr ⟨i+1,by omega,fun j hj=>?_,fun j hj=>?_,h2⟩⟩
   ·show(if j=i then true else L j)=true
    split
    ·rfl
    ·exact hk1 j (by omega)
   ·show(if j=i then true else L j)=false
    rw[if_neg (by omega)];exact hk2 j (by omega)
 ·intro L s hL hI g a w hs
  rcases hI with ⟨hLr,hI⟩|⟨k,hk,hk1,hk2,hA⟩
  ·have hsz:ops.size<=r:=by
    rcases Nat.lt_or_ge r ops.size with h|h
    ·have:=hL r h
     rw[hLr r (Nat.le_refl _)] at this;cases this
    ·exact h
   obtain⟨s'',hgh,hA⟩:=fin L s (fun i hi=>hL i (by omega)) hI
   rw[List.drop_eq_nil_of_le (by simpa using hsz)] at hA
   obtain⟨g',hs'⟩:=hgh F g a w hs
   exact⟨g',s'',hs',hA⟩
  ·have hsz:ops.size<=k:=by
    rcases Nat.lt_or_ge k ops.size with h|h
    ·have:=hL k h
     rw[hk2 k (Nat.le_refl _)] at this;cases this
    ·exact h
   rw[List.drop_eq_nil_of_le (by simpa using hsz)] at hA
   exact⟨g,s,hs,hA⟩
 ·intro j o hj hl
  rw[zq6,Array.getElem?_replicate] at hl
  split at hl<;>cases hl
 ·refine .inl ⟨fun j _=>?_,?_⟩
  ·show(Array.replicate ops.size false).getD j false=false
   rw[zq6,Array.getElem?_replicate];split<;>rfl
  ·have:(fun i=>(Array.replicate ops.size false).getD i false)=fun _=>false:=by
    funext i
    rw[zq6,Array.getElem?_replicate];split<;>rfl
   show Inv (fun i=>(Array.replicate ops.size false).getD i false) s.fresh
   rw[this];exact h0
structure PermOk (f fi:Nat->Nat) (n base:Nat):Prop where
 lt: ∀b,b<n->f b<n∧fi b<n
 inv: ∀b,b<n->fi (f b)=b∧f (fi b)=b
 fix: ∀b,b<base->f b=b
 hb:base<=n
def AState.perm(f fi:Nat->Nat)(s:AState):AState:=
 {tmps:=fun t=>(s.tmps t).ren f,loans:=fun _=>none,n:=s.n,base:=s.base,blocks:=(List.range s.blocks.length).map fun j=>AV.renL f (s.blocks.getD (fi j) [])}
def Gh.permOwn(g:Gh)(n:Nat)(fi:Nat->Nat):Place->Option Nat
 |.cell b o=>if b<n then g.own (.cell (fi b) o) else none
 |.tmp t=>g.own (.tmp t)
def Place.pre(fi:Nat->Nat):Place->Place
 |.cell b o=>.cell (fi b) o
 |.tmp t=>.tmp t
theorem Sim.perm(h:Sim F g s a w){f fi:Nat->Nat}(hp:PermOk f fi s.blocks.length s.base): ∃g',Sim F g' (s.perm f fi) a w:=by
 have hl:=h.sto.len
 have hσ: ∀(b k:Nat),g.σ[b]? =some k->((List.range s.blocks.length).map fun j=>g.σ.getD (fi j) 0)[f b]? =some k:=fun b k hb=>by
  have hlt:=(zq1 hb).1
  rw[List.getElem?_map,List.getElem?_range (hp.lt b (by omega)).1]
  simp only[Option.map_some,(hp.inv b (by omega)).1]
  rw[zq5,hb];rfl
 have hσ': ∀(i k:Nat),((List.range s.blocks.length).map fun j=>g.σ.getD (fi j) 0)[i]? =some k->i<s.blocks.length∧g.σ[fi i]? =some k:=fun i k hi=>by
  have hlt:=(zq1 hi).1
  simp only[zq4,List.length_range] at hlt
  rw[List.getElem?_map,List.getElem?_range hlt] at hi
  refine⟨hlt,?_⟩
  rw[<-hi]
  exact zB8 0 (by rw[hl];exact(hp.lt i hlt).2)
 have hmem: ∀k,k∈((List.range s.blocks.length).map fun j=>g.σ.getD (fi j) 0)->k∈g.σ:=fun k hk=>by
  obtain⟨i,hi⟩:=zqd hk
  exact zq3 (hσ' i k hi).2
 have hown: ∀p k,g.permOwn s.blocks.length fi p=some k->∃q,g.own q=some k∧(∀p',g.permOwn s.blocks.length fi p'=some k->p'=p):=fun p k hk=>by
  have key: ∀p,g.permOwn s.blocks.length fi p=some k->g.own (p.pre fi)=some k∧(∀b o,p=.cell b o->b<s.blocks.length):=fun p hk=>by
   cases p with
   |tmp t=>exact⟨hk,fun b o e=>by cases e⟩
   |cell b o=>
    simp only[Gh.permOwn] at hk
    split at hk
    ·rename_i hlt;exact⟨hk,fun b' o' e=>by cases e;exact hlt⟩
    ·cases hk
  obtain⟨h1,h2⟩:=key p hk
  refine⟨_,h1,fun p' hk'=>?_⟩
  obtain⟨h3,h4⟩:=key p' hk'
  have:=h.sto.ownInj _ _ k h3 h1
  cases p with
  |tmp t=>
   cases p' with
   |tmp t'=>exact this
   |cell b' o'=>cases this
  |cell b o=>
   cases p' with
   |tmp t'=>cases this
   |cell b' o'=>
    simp only[Place.pre,Place.cell.injEq] at this
    have e1:=(hp.inv b (h2 b o rfl)).2
    have e2:=(hp.inv b' (h4 b' o' rfl)).2
    rw[<-this.1,e2] at e1
    rw[e1,this.2]
 refine⟨{g with σ:=(List.range s.blocks.length).map fun j=>g.σ.getD (fi j) 0,own:=g.permOwn s.blocks.length fi},?_⟩
 exact {
  ext:={h.ext with
   imm:=h.ext.imm
   immNew:=h.ext.immNew
   σ:=fun b k hb=>by
    have h1:=h.ext.σ b k hb
    have h2:=(zq1 hb).1
    have h3:=hσ b k h1
    rw[hp.fix b (by have:=h.base;omega)] at h3
    exact h3
   mineσ:=fun k hk=>h.ext.mineσ k (hmem k hk)
   mineOwn:=fun p k hk=>by obtain⟨q,hq,_⟩:=hown p k hk;exact h.ext.mineOwn q k hq}
  sto:={
   gok:=h.sto.gok
   imm:=h.sto.imm
   immσ:=fun x v hx hm=>h.sto.immσ x v hx (hmem _ hm)
   len:=by simp[AState.perm]
   nodup:=by
    show((List.range s.blocks.length).map fun j=>g.σ.getD (fi j) 0).Nodup
    unfold List.Nodup
    rw[List.pairwise_iff_getElem]
    intro i j hi hj hij
    simp only[zq4,List.length_range] at hi hj
    simp only[List.getElem_map,List.getElem_range]
    intro e
    have a1:fi i<g.σ.length:=by rw[hl];exact(hp.lt i hi).2
    have a2:fi j<g.σ.length:=by rw[hl];exact(hp.lt j hj).2
    have b1:=zB8 0 a1
    have b2:=zB8 0 a2
    rw[e] at b1
    obtain⟨_,c1⟩:=zq1 b1
    obtain⟨_,c2⟩:=zq1 b2
    have e2:=zGb h.sto.nodup a1 a2 (by rw[c1,c2])
    have d1:=(hp.inv i hi).2
    have d2:=(hp.inv j hj).2
    rw[e2,d2] at d1
    omega
   blk:=fun i blk k hb hk=>by
    obtain⟨hlt,hk2⟩:=hσ' i k hk
    simp only[AState.perm,List.getElem?_map,List.getElem?_range hlt,Option.map_some,Option.some.injEq] at hb
    subst hb
    obtain⟨c,ty,e1,e2,e3⟩:=h.sto.blk (fi i) _ k (zB8 [] (hp.lt i hlt).2) hk2
    refine⟨c,ty,e1,by rw[zBf];exact e2,fun j x hx=>?_⟩
    rw[zDS] at hx
    cases hy:(s.blocks.getD (fi i) [])[j]? with
    |none=>rw[hy] at hx;cases hx
    |some y=>
     rw[hy] at hx;cases hx
     obtain⟨q1,q2,q3⟩:=e3 j y hy
     refine⟨(zH0 _ _ _ (by rw[zBf])).2 q1,q2.ren hσ,?_⟩
     show OwnsBy g.imm w (if i<s.blocks.length then g.own (.cell (fi i) j) else none) _ _
     rw[if_pos hlt]
     exact(OwnsBy.ren _).2 q3
   ownσ:=fun p k hk=>by obtain⟨q,hq,_⟩:=hown p k hk;exact⟨fun hm=>(h.sto.ownσ q k hq).1 (hmem _ hm),(h.sto.ownσ q k hq).2⟩
   ownInj:=fun p q k hp' hq=>by obtain⟨_,_,h2⟩:=hown q k hq;exact h2 p hp'}
  size:=h.size
  tmps:=fun t=>⟨(h.tmps t).1.ren hσ,(OwnsBy.ren _).2 (h.tmps t).2⟩
  loans:=fun t p hp=>by cases hp
  defers:=h.defers
  base:=h.base}
theorem zH7: ∀(n:Nat)(P:List Nat),P.Nodup->P.length=n->(∀x,x∈P->x<n)->∀x,x<n->x∈P
 |0,_,_,_,_,x,hx=>by omega
 |n+1,P,h1,h2,h3,x,hx=>by
  by_cases hn:n∈P
  ·by_cases e:x=n
   ·rw[e];exact hn
   ·have:=zH7 n (P.erase n) (h1.erase n) (by rw[List.length_erase_of_mem hn];omega) (fun y hy=>by
     have h4:=(h1.mem_erase_iff).1 hy
     have:=h3 y h4.2
     have:=h4.1
     omega) x (by omega)
    exact List.mem_of_mem_erase this
  ·cases P with
   |nil=>simp at h2
   |cons y P=>
    rw[List.nodup_cons] at h1
    have hlt: ∀z,z∈y::P->z<n:=fun z hz=>by
     have:=h3 z hz
     have:z≠n:=fun e=>hn (by rw[<-e];exact hz)
     omega
    have:=zH7 n P h1.2 (by simpa using h2) (fun z hz=>hlt z (zqc _ hz)) y (hlt y (zq9 ..))
    exact(h1.1 this).elim
structure NPos (N:List (Nat×List AV)) (L:Nat->Bool) (pos:Nat->Nat) (bl:List (List AV)):Prop where
 len:bl.length=(N.filter fun q=>L q.1).length
 at_: ∀q,q∈N->L q.1=true->bl[pos q.1]? =some q.2
 inj: ∀q q',q∈N->q'∈N->L q.1=true->L q'.1=true->pos q.1=pos q'.1->q.1=q'.1
theorem NPos.start(N:List (Nat×List AV))(pos:Nat->Nat):NPos N (fun _=>false) pos []:=
 ⟨by rw[List.filter_eq_nil_iff.2 (by simp)];rfl,fun _ _ h=>(by cases h),fun _ _ _ _ h=>(by cases h)⟩
theorem NPos.skip{N:List (Nat×List AV)}{L:Nat->Bool}{pos:Nat->Nat}{bl:List (List AV)}(h:NPos N L pos bl)(hi:N.all (fun q=>q.1 !=i)=true):NPos N (fun j=>if j=i then true else L j) pos bl:=by
 have hne: ∀q,q∈N->q.1≠i:=fun q hq=>by have:=(zq8 hi) q hq;simpa using this
 refine⟨?_,fun q hq hl=>?_,fun q q' hq1 hq2 hl1 hl2 hp=>?_⟩
 ·rw[h.len]
  congr 1
  apply List.filter_congr
  intro q hq
  rw[if_neg (hne q hq)]
 ·simp only[if_neg (hne q hq)] at hl;exact h.at_ q hq hl
 ·simp only[if_neg (hne q hq1)] at hl1
  simp only[if_neg (hne q' hq2)] at hl2
  exact h.inj q q' hq1 hq2 hl1 hl2 hp
def AState.renamed(s:AState)(f:Nat->Nat)(bs:List (List AV)):AState:=⟨fun t=>(s.tmps t).ren f,fun _=>none,s.n,s.base,bs⟩
section
variable (s:AState) (f:Nat->Nat) (bs:List (List AV)) (t:Nat)
@[simp] theorem get_renamed:(s.renamed f bs).get t=(s.get t).ren f:=rfl
@[simp] theorem n_renamed:(s.renamed f bs).n=s.n:=rfl
@[simp] theorem base_renamed:(s.renamed f bs).base=s.base:=rfl
@[simp] theorem blocks_renamed:(s.renamed f bs).blocks=bs:=rfl
@[simp] theorem loans_renamed:(s.renamed f bs).loans t=none:=rfl
end
theorem NPos.ghost{N:List (Nat×List AV)}{L:Nat->Bool}{pos:Nat->Nat}{bl pre:List (List AV)}(h:NPos N L pos bl)(hnd:(N.map (·.1)).Nodup)(hall: ∀q,q∈N->L q.1=true)(hb:s.blocks=pre++bl)(hbase:s.base<=pre.length):
 ∃f:Nat->Nat,(∀b,b<pre.length->f b=b)∧(∀(k:Nat) q,N[k]? =some q->f (pre.length+pos q.1)=pre.length+k)∧
  Ghost s (s.renamed f (pre.map (AV.renL f)++N.map fun q=>AV.renL f q.2)):=by
 have hlen:bl.length=N.length:=by
  rw[h.len,List.filter_eq_self.2 (fun q hq=>hall q hq)]
 generalize hP:N.map (fun q=>pos q.1)=P
 have hPl:P.length=N.length:=by rw[<-hP,zq4]
 have hPget: ∀(k:Nat) q,N[k]? =some q->P[k]? =some (pos q.1):=fun k q hk=>by rw[<-hP,List.getElem?_map,hk];rfl
 have hlt: ∀q,q∈N->pos q.1<N.length:=fun q hq=>by rw[<-hlen];exact(zq1 (h.at_ q hq (hall q hq))).1
 have hPnd:P.Nodup:=by
  unfold List.Nodup
  rw[List.pairwise_iff_getElem]
  intro i j hi hj hij e
  rw[hPl] at hi hj
  have a1:=hPget i _ (zq2 hi)
  have a2:=hPget j _ (zq2 hj)
  obtain⟨_,b1⟩:=zq1 a1
  obtain⟨_,b2⟩:=zq1 a2
  have:=h.inj _ _ (List.getElem_mem hi) (List.getElem_mem hj) (hall _ (List.getElem_mem hi)) (hall _ (List.getElem_mem hj)) (by rw[<-b1,<-b2,e])
  have h5:(N.map (·.1))[i]? =some (N[i].1):=by rw[List.getElem?_map,zq2 hi];rfl
  have h6:(N.map (·.1))[j]? =some (N[j].1):=by rw[List.getElem?_map,zq2 hj];rfl
  obtain⟨l1,e1⟩:=zq1 h5
  obtain⟨l2,e2⟩:=zq1 h6
  have:=zGb hnd l1 l2 (by rw[e1,e2,this])
  omega
 have hfull:=zH7 N.length P hPnd hPl (fun x hx=>by
  rw[<-hP] at hx
  obtain⟨q,hq,rfl⟩:=List.mem_map.1 hx
  exact hlt q hq)
 have hfi: ∀k,k<N.length->P.idxOf (P.getD k 0)=k:=fun k hk=>by
  rw[zq5,zq2 (by omega)]
  simp only[Option.getD_some]
  exact hPnd.idxOf_getElem k (by omega)
 have hPlt: ∀k,k<N.length->P.getD k 0<N.length:=fun k hk=>by
  rw[zq5,hPget k _ (zq2 hk)]
  exact hlt _ (List.getElem_mem hk)
 have hidx: ∀x,x<N.length->P.idxOf x<N.length∧P.getD (P.idxOf x) 0=x:=fun x hx=>by
  have hm:=hfull x hx
  have hl:P.idxOf x<P.length:=List.idxOf_lt_length_of_mem hm
  refine⟨by omega,?_⟩
  rw[zq5,zq2 hl]
  simp
 have hp:PermOk (fun b=>if b<pre.length then b else pre.length+P.idxOf (b-pre.length)) (fun j=>if j<pre.length then j else pre.length+P.getD (j-pre.length) 0) s.blocks.length s.base:=by
  have hsl:s.blocks.length=pre.length+N.length:=by rw[hb,List.length_append,hlen]
  refine⟨fun b hb'=>?_,fun b hb'=>?_,fun b hb'=>if_pos (by omega),by omega⟩
  ·constructor
   ·split
    ·omega
    ·have:=(hidx (b-pre.length) (by omega)).1;omega
   ·split
    ·omega
    ·have:=hPlt (b-pre.length) (by omega);omega
  ·constructor
   ·by_cases e:b<pre.length
    ·simp[e]
    ·have:=hidx (b-pre.length) (by omega)
     simp only[if_neg e]
     rw[if_neg (by omega),Nat.add_sub_cancel_left,this.2];omega
   ·by_cases e:b<pre.length
    ·simp[e]
    ·have:=hfi (b-pre.length) (by omega)
     simp only[if_neg e]
     rw[if_neg (by omega),Nat.add_sub_cancel_left,this];omega
 refine⟨fun b=>if b<pre.length then b else pre.length+P.idxOf (b-pre.length),fun b hb'=>if_pos hb',fun k q hk=>?_,fun F g a w hs=>?_⟩
 ·have hk':=(zq1 hk).1
  simp only
  rw[if_neg (by omega),Nat.add_sub_cancel_left]
  have h1:=hPget k q hk
  have h2:=hfi k hk'
  rw[zq5,h1] at h2
  simp only[Option.getD_some] at h2
  rw[h2]
 ·obtain⟨g',hs'⟩:=hs.perm hp
  refine⟨g',?_⟩
  have hbl:(s.perm (fun b=>if b<pre.length then b else pre.length+P.idxOf (b-pre.length)) (fun j=>if j<pre.length then j else pre.length+P.getD (j-pre.length) 0)).blocks=
   pre.map (AV.renL fun b=>if b<pre.length then b else pre.length+P.idxOf (b-pre.length))++N.map fun q=>AV.renL (fun b=>if b<pre.length then b else pre.length+P.idxOf (b-pre.length)) q.2:=by
   apply List.ext_getElem?
   intro j
   have hsl:s.blocks.length=pre.length+N.length:=by rw[hb,List.length_append,hlen]
   simp only[AState.perm,List.getElem?_map]
   by_cases hj:j<pre.length
   ·rw[List.getElem?_range (by omega),List.getElem?_append_left (by simpa using hj),List.getElem?_map]
    simp only[Option.map_some,if_pos hj,hb]
    rw[zq5,List.getElem?_append_left hj,zq2 hj];rfl
   ·by_cases hj2:j<pre.length+N.length
    ·rw[List.getElem?_range (by omega),List.getElem?_append_right (by simpa using hj),List.getElem?_map,zq4,zq2 (by omega)]
     simp only[Option.map_some,if_neg hj,hb]
     have h1:=hPget (j-pre.length) _ (zq2 (by omega))
     rw[zq5,List.getElem?_append_right (by omega),Nat.add_sub_cancel_left,zq5 (l:=P),h1]
     simp only[Option.getD_some]
     rw[h.at_ _ (List.getElem_mem (by omega)) (hall _ (List.getElem_mem (by omega)))];rfl
    ·rw[List.getElem?_eq_none (by simp;omega),List.getElem?_eq_none (by simp;omega)];rfl
  rw[<-hbl]
  exact hs'
mutual
def AV.refsIn(ρ:List Nat):AV->Bool
 |.mptr b _=>ρ.contains b
 |.msl b _ _=>ρ.contains b
 |.baddr _ b=>ρ.contains b
 |.fn _ fs cs=>AV.refsInL ρ fs&&AV.refsInL ρ cs
 |.iface _ v=>v.refsIn ρ
 |.agg cs=>AV.refsInL ρ cs
 |.tup cs=>AV.refsInL ρ cs
 |.otup _ _ cs=>AV.refsInL ρ cs
 |_=>true
def AV.refsInL(ρ:List Nat):List AV->Bool
 |[]=>true
 |x::l=>x.refsIn ρ&&AV.refsInL ρ l
end
mutual
def AV.refs:AV->List Nat
 |.mptr b _=>[b]
 |.msl b _ _=>[b]
 |.baddr _ b=>[b]
 |.fn _ fs cs=>AV.refsL fs++AV.refsL cs
 |.iface _ v=>v.refs
 |.agg cs=>AV.refsL cs
 |.tup cs=>AV.refsL cs
 |.otup _ _ cs=>AV.refsL cs
 |_=>[]
def AV.refsL:List AV->List Nat
 |[]=>[]
 |x::l=>x.refs++AV.refsL l
end
def zJX:List Nat->Nat->Nat
 |[],_=>0
 |r::ρ,b=>if r=b then 0 else zJX ρ b+1
theorem zJW: ∀{ρ:List Nat}{b:Nat},ρ.contains b=true->ρ[zJX ρ b]? =some b
 |[],b,h=>by simp at h
 |r::ρ,b,h=>by
  unfold zJX
  split
  ·rename_i e;subst e;rfl
  ·rename_i e
   simp only[List.contains_cons,Bool.or_eq_true,beq_iff_eq] at h
   rcases h with h|h
   ·exact absurd h.symm e
   ·simpa using zJW h
theorem zGv{n b:Nat}(h:ρ.contains b=true):zDq ρ n (zJX ρ b)=b:=by
 simp only[zDq,zq5,zJW h,Option.getD_some]
theorem numIn_lt{b:Nat}(h:ρ.contains b=true):zJX ρ b<ρ.length:=(zq1 (zJW h)).1
mutual
theorem ren_numIn{ρ:List Nat}{n:Nat}: ∀x:AV,x.refsIn ρ=true->(x.ren (zJX ρ)).ren (zDq ρ n)=x
 |.mptr b o,h=>by simp only[AV.refsIn] at h;simp only[AV.ren,zGv h]
 |.msl b ec m,h=>by simp only[AV.refsIn] at h;simp only[AV.ren,zGv h]
 |.baddr t b,h=>by simp only[AV.refsIn] at h;simp only[AV.ren,zGv h]
 |.fn f fs cs,h=>by
  simp only[AV.refsIn,zq7] at h
  simp only[AV.ren,zER fs h.1,zER cs h.2]
 |.iface t v,h=>by simp only[AV.refsIn] at h;simp only[AV.ren,ren_numIn v h]
 |.agg cs,h=>by simp only[AV.refsIn] at h;simp only[AV.ren,zER cs h]
 |.tup cs,h=>by simp only[AV.refsIn] at h;simp only[AV.ren,zER cs h]
 |.otup _ _ cs,h=>by simp only[AV.refsIn] at h;simp only[AV.ren,zER cs h]
 |.int _ _,_=>rfl
 |.bool _,_=>rfl
 |.str _,_=>rfl
 |.nilp,_=>rfl
 |.cptr _,_=>rfl
 |.nsl,_=>rfl
 |.osl _ _,_=>rfl
 |.osq _ _,_=>rfl
 |.sl _,_=>rfl
 |.nilfn,_=>rfl
 |.nilif,_=>rfl
 |.e0,_=>rfl
 |.omp _ _,_=>rfl
 |.mpx,_=>rfl
 |.top,_=>rfl
theorem zER{ρ:List Nat}{n:Nat}: ∀l:List AV,AV.refsInL ρ l=true->AV.renL (zDq ρ n) (AV.renL (zJX ρ) l)=l
 |[],_=>rfl
 |x::l,h=>by
  simp only[AV.refsInL,zq7] at h
  simp only[AV.renL,ren_numIn x h.1,zER l h.2]
end
mutual
theorem zIo{ρ:List Nat}: ∀x:AV,x.refsIn ρ=true->(x.ren (zJX ρ)).under ρ.length=true
 |.mptr b o,h=>by simp only[AV.refsIn] at h;simpa only[AV.ren,AV.under,decide_eq_true_eq] using numIn_lt h
 |.msl b ec m,h=>by simp only[AV.refsIn] at h;simpa only[AV.ren,AV.under,decide_eq_true_eq] using numIn_lt h
 |.baddr t b,h=>by simp only[AV.refsIn] at h;simpa only[AV.ren,AV.under,decide_eq_true_eq] using numIn_lt h
 |.fn f fs cs,h=>by
  simp only[AV.refsIn,zq7] at h
  simp only[AV.ren,AV.under,zDH fs h.1,zDH cs h.2,Bool.and_self]
 |.iface t v,h=>by simp only[AV.refsIn] at h;simp only[AV.ren,AV.under,zIo v h]
 |.agg cs,h=>by simp only[AV.refsIn] at h;simp only[AV.ren,AV.under,zDH cs h]
 |.tup cs,h=>by simp only[AV.refsIn] at h;simp only[AV.ren,AV.under,zDH cs h]
 |.otup _ _ cs,h=>by simp only[AV.refsIn] at h;simp only[AV.ren,AV.under,zDH cs h]
 |.int _ _,_=>rfl
 |.bool _,_=>rfl
 |.str _,_=>rfl
 |.nilp,_=>rfl
 |.cptr _,_=>rfl
 |.nsl,_=>rfl
 |.osl _ _,_=>rfl
 |.osq _ _,_=>rfl
 |.sl _,_=>rfl
 |.nilfn,_=>rfl
 |.nilif,_=>rfl
 |.e0,_=>rfl
 |.omp _ _,_=>rfl
 |.mpx,_=>rfl
 |.top,_=>rfl
theorem zDH{ρ:List Nat}: ∀l:List AV,AV.refsInL ρ l=true->AV.underL ρ.length (AV.renL (zJX ρ) l)=true
 |[],_=>rfl
 |x::l,h=>by
  simp only[AV.refsInL,zq7] at h
  simp only[AV.renL,AV.underL,zIo x h.1,zDH l h.2,Bool.and_self]
end
def small(ρ:List Nat)(bs:List (List AV)):List (List AV):=ρ.map fun r=>AV.renL (zJX ρ) (bs.getD r [])
def zE5(ρ:List Nat)(args:List AV)(bs:List (List AV)):Bool:=
 noDup ρ&&AV.refsInL ρ args&&ρ.all fun r=>decide (r<bs.length)&&AV.refsInL ρ (bs.getD r [])
theorem zGQ{m:Nat}: ∀{l:List (List AV)},(∀b,b∈l->AV.underL m b=true)->underBlocks m l=true
 |[],_=>rfl
 |x::l,h=>by
  simp only[underBlocks,zq7]
  exact⟨h x (zq9 ..),zGQ fun b hb=>h b (zqc _ hb)⟩
theorem zHo{f:Nat->Nat}{ρ0:List Nat}{bs:List (List AV)}: ∀(ρ:List Nat),(∀r,r∈ρ->r<bs.length∧AV.renL f (AV.renL (zJX ρ0) (bs.getD r []))=bs.getD r [])->
 Stands f bs ρ (ρ.map fun r=>AV.renL (zJX ρ0) (bs.getD r []))
 |[],_=>by simp[Stands]
 |r::ρ,h=>by
  obtain⟨h1,h2⟩:=h r (zq9 ..)
  refine⟨?_,zHo ρ fun q hq=>h q (zqc _ hq)⟩
  rw[h2];exact zB8 [] h1
theorem zFm{bs:List (List AV)}(h:zE5 ρ args bs=true):zJF ρ (AV.renL (zJX ρ) args) (small ρ bs) bs∧AV.renL (zDq ρ bs.length) (AV.renL (zJX ρ) args)=args:=by
 simp only[zE5,zq7,List.all_eq_true,decide_eq_true_eq] at h
 obtain⟨⟨h1,h2⟩,h3⟩:=h
 have hl:(small ρ bs).length=ρ.length:=by simp[small]
 refine⟨⟨h1,by rw[hl];exact zDH _ h2,?_,zHo ρ fun r hr=>⟨(h3 r hr).1,zER _ (h3 r hr).2⟩⟩,zER _ h2⟩
 rw[hl]
 refine zGQ fun b hb=>?_
 obtain⟨r,hr,rfl⟩:=List.mem_map.1 hb
 exact zDH _ (h3 r hr).2
def reach(bs:List (List AV)):Nat->List Nat->List Nat
 |0,ρ=>ρ
 |n+1,ρ=>let ρ':=(ρ++ρ.flatMap fun r=>AV.refsL (bs.getD r [])).eraseDups;if ρ'.length=ρ.length then ρ else reach bs n ρ'
theorem place_eq{n m b:Nat}(hlt: ∀q,q∈ρ->q<n)(h:ρ.contains (zDq ρ n b)=true):zDq ρ n b=zDq ρ m b:=by
 by_cases hb:b<ρ.length
 ·simp only[zDq,zq5,zq2 hb,Option.getD_some]
 ·have e:zDq ρ n b=n+(b-ρ.length):=by simp only[zDq,zq5,List.getElem?_eq_none (Nat.le_of_not_lt hb),Option.getD_none]
  have h1:zDq ρ n b∈ρ:=by rwa [List.contains_iff_mem] at h
  have:=hlt _ h1
  omega
mutual
theorem zJO{ρ:List Nat}{n m:Nat}(hlt: ∀q,q∈ρ->q<n): ∀x:AV,(x.ren (zDq ρ n)).refsIn ρ=true->x.ren (zDq ρ n)=x.ren (zDq ρ m)
 |.mptr b o,h=>by simp only[AV.ren,AV.refsIn] at h;simp only[AV.ren,place_eq (m:=m) hlt h]
 |.msl b ec k,h=>by simp only[AV.ren,AV.refsIn] at h;simp only[AV.ren,place_eq (m:=m) hlt h]
 |.baddr t b,h=>by simp only[AV.ren,AV.refsIn] at h;simp only[AV.ren,place_eq (m:=m) hlt h]
 |.fn f fs cs,h=>by
  simp only[AV.ren,AV.refsIn,zq7] at h
  simp only[AV.ren];rw[zEh (m:=m) hlt fs h.1,zEh (m:=m) hlt cs h.2]
 |.iface t v,h=>by simp only[AV.ren,AV.refsIn] at h;simp only[AV.ren];rw[zJO (m:=m) hlt v h]
 |.agg cs,h=>by simp only[AV.ren,AV.refsIn] at h;simp only[AV.ren];rw[zEh (m:=m) hlt cs h]
 |.tup cs,h=>by simp only[AV.ren,AV.refsIn] at h;simp only[AV.ren];rw[zEh (m:=m) hlt cs h]
 |.otup _ _ cs,h=>by simp only[AV.ren,AV.refsIn] at h;simp only[AV.ren];rw[zEh (m:=m) hlt cs h]
 |.int _ _,_=>rfl
 |.bool _,_=>rfl
 |.str _,_=>rfl
 |.nilp,_=>rfl
 |.cptr _,_=>rfl
 |.nsl,_=>rfl
 |.osl _ _,_=>rfl
 |.osq _ _,_=>rfl
 |.sl _,_=>rfl
 |.nilfn,_=>rfl
 |.nilif,_=>rfl
 |.e0,_=>rfl
 |.omp _ _,_=>rfl
 |.mpx,_=>rfl
 |.top,_=>rfl
theorem zEh{ρ:List Nat}{n m:Nat}(hlt: ∀q,q∈ρ->q<n): ∀l:List AV,AV.refsInL ρ (AV.renL (zDq ρ n) l)=true->AV.renL (zDq ρ n) l=AV.renL (zDq ρ m) l
 |[],_=>rfl
 |x::l,h=>by
  simp only[AV.renL,AV.refsInL,zq7] at h
  simp only[AV.renL,zJO (m:=m) hlt x h.1,zEh (m:=m) hlt l h.2]
end
theorem lay_snoc(f:Nat->Nat): ∀(ρ:List Nat)(l bs zs:List (List AV)),l.length<=ρ.length->(∀q,q∈ρ->q<bs.length)->lay f ρ l (bs++zs)=lay f ρ l bs++zs
 |[],l,bs,zs,h,_=>by
  have:l=[]:=List.eq_nil_of_length_eq_zero (by simpa using h)
  subst this
  simp[lay]
 |r::ρ,b::l,bs,zs,h,hq=>by
  simp only[lay]
  rw[List.set_append_left _ _ (hq r (zq9 ..))]
  exact lay_snoc f ρ l _ zs (by simpa using h) (fun q h'=>by simpa using hq q (zqc _ h'))
 |_::_,[],bs,zs,_,_=>rfl
theorem lay_congr(f g:Nat->Nat): ∀(ρ:List Nat)(l bs:List (List AV)),(∀b,b∈l->AV.renL f b=AV.renL g b)->lay f ρ l bs=lay g ρ l bs
 |[],l,bs,h=>by
  simp only[lay]
  congr 1
  exact List.map_congr_left h
 |r::ρ,b::l,bs,h=>by
  simp only[lay]
  rw[h b (zq9 ..)]
  exact lay_congr f g ρ l _ fun x hx=>h x (zqc _ hx)
 |_::_,[],bs,_=>rfl
theorem lay_len(f:Nat->Nat): ∀(ρ:List Nat)(l bs:List (List AV)),ρ.length<=l.length->(lay f ρ l bs).length=bs.length+(l.length-ρ.length)
 |[],l,bs,_=>by simp[lay]
 |r::ρ,b::l,bs,h=>by
  simp only[lay]
  rw[lay_len f ρ l _ (by simpa using h)]
  simp
 |_::_,[],bs,h=>by simp at h
theorem framed_ext{bs bs1:List (List AV)}{r:AV}(hraw:Raw P f (AV.renL (zJX ρ) args) (small ρ bs) r bs1)(hcl:zE5 ρ args bs=true)(hge:ρ.length<=bs1.length)
 (hc2:zE5 ρ [r.ren (zDq ρ bs.length)] (lay (zDq ρ bs.length) ρ bs1 bs)=true) (hl:(lay (zDq ρ bs.length) ρ bs1 bs).length=bs.length) (zs:List (List AV)):
 RawK P f args (bs++zs) (r.ren (zDq ρ bs.length)) (lay (zDq ρ bs.length) ρ bs1 bs++zs) (fun b=>b∉ρ):=by
 have hcl0:=hcl
 simp only[zE5,zq7,List.all_eq_true,decide_eq_true_eq] at hcl0 hc2
 obtain⟨⟨h1,h2⟩,h3⟩:=hcl0
 obtain⟨⟨_,h5⟩,h6⟩:=hc2
 have hlt: ∀q,q∈ρ->q<bs.length:=fun q hq=>(h3 q hq).1
 have hcl':zE5 ρ args (bs++zs)=true:=by
  simp only[zE5,zq7,List.all_eq_true,decide_eq_true_eq]
  refine⟨⟨h1,h2⟩,fun q hq=>⟨by have:=hlt q hq;simp;omega,?_⟩⟩
  rw[zDO (hlt q hq)];exact(h3 q hq).2
 have hsm:small ρ (bs++zs)=small ρ bs:=List.map_congr_left fun q hq=>by rw[zDO (hlt q hq)]
 obtain⟨hfr,hargs⟩:=zFm hcl'
 rw[hsm] at hfr
 have hk:=hraw.frameK ρ (bs++zs) hfr
 rw[hargs] at hk
 have hle:bs1.length<=ρ.length:=by
  rw[lay_len _ _ _ _ hge] at hl;omega
 have hres:r.ren (zDq ρ (bs++zs).length)=r.ren (zDq ρ bs.length):=by
  simp only[AV.refsInL,zq7] at h5
  exact(zJO hlt r h5.1).symm
 have hblk: ∀b,b∈bs1->AV.renL (zDq ρ (bs++zs).length) b=AV.renL (zDq ρ bs.length) b:=fun b hb=>by
  obtain⟨j,hj⟩:=zqd hb
  have hjl:j<ρ.length:=by have:=(zq1 hj).1;omega
  have hat:=lay_at (zDq ρ bs.length) ρ bs1 bs j ρ[j] (zH8 h1) hlt hge (zq2 hjl)
  rw[hj] at hat
  have:=(h6 ρ[j] (List.getElem_mem hjl)).2
  rw[zq5,hat] at this
  exact(zEh hlt b this).symm
 rw[hres,lay_congr _ (zDq ρ bs.length) ρ bs1 (bs++zs) hblk,lay_snoc _ _ _ _ _ hle hlt] at hk
 exact hk
def pan1(t:TypeId):List PanicEntry:=[{v:=.iface t (.agg #[]),recovered:=false}]
def RawP(P:Program)(f:FuncId)(ch:List PanicEntry)(args:List AV)(bs bs':List (List AV)):Prop:=
 RawG P f args bs (fun e _ _=>e=.panicked ch) bs' (fun _=>False)
theorem RawP.frame{bS bS':List (List AV)}(h:RawP P f ch args bS bS')(ρ:List Nat)(bs:List (List AV))(hok:zJF ρ args bS bs):
 RawP P f ch (AV.renL (zDq ρ bs.length) args) bs (lay (zDq ρ bs.length) ρ bS' bs):=by
 have h1:=RawG.frameK (Rr':=fun e _ _=>e=.panicked ch) h ρ bs hok (fun e imm σ σ' _ he=>he)
 exact⟨h1.1,fun g w vals h2 h3 h4 h5=>(h1.2 g w vals h2 h3 h4 h5).mono fun e w' ⟨g',e1,e2,e3,e4,_⟩=>⟨g',e1,e2,e3,e4,fun _ _ h=>h.elim⟩⟩
theorem panL{α β:Type}{F:α->Prop}{G:β->Prop}{x:α}(h:Sum.elim F G (.inl x)):F x:=h
theorem panR{α β:Type}{F:α->Prop}{G:β->Prop}{x:β}(h:Sum.elim F G (.inr x)):G x:=h
def CallE(P:Program)(f:FuncId)(args:List AV)(s:AState)(E:List PanicEntry->AState->Prop):Prop:=
 ∃ch bs',RawP P f ch args s.blocks bs'∧s.base<=bs'.length∧E ch (endS s bs')
@[congr] theorem CallE_congr{args args':List AV}(h:args=args'):CallE P f args s E=CallE P f args' s E:=by rw[h]
def PanE(Q:Exit->AState->Prop)(ch:List PanicEntry)(s:AState):Prop:=Q (.panic ch) s
theorem panC{bs bs':List (List AV)}(h:RawP P f ch args bs bs')(h1:s.blocks=bs)(h2:s.base<=bs'.length)(h3:Q (.panic ch) (endS s bs')):CallE P f args s (PanE Q):=
 ⟨ch,bs',by rw[h1];exact h,h2,h3⟩
def PanK(E:List PanicEntry->AState->Prop)(ch:List PanicEntry)(s:AState):Prop:=s.base<=s.blocks.length∧E ch (endS s s.blocks)
theorem panK(h1:s.base<=s.blocks.length)(h2:Q (.panic ch) (endS s s.blocks)):PanK (PanE Q) ch s:=⟨h1,h2⟩
theorem Sim.forget(h:Sim F g s a w)(hb:s.base<=s.blocks.length): ∃g',Sim F g' (endS s s.blocks) a w:=
 h.le
  {tmps:=fun t=>by show leAV _ .top;cases s.tmps t<;>simp
   loans:=fun t=>rfl
   n:=rfl
   base:=rfl
   hbase:=hb
   short:=Nat.le_refl _
   blocks:=fun b blk hb=>⟨blk,hb,rfl,fun o x hx=>⟨x,hx,by cases x<;>simp,.inr rfl⟩⟩
   below:=.inl rfl}
def PanOp(P:Program)(o:Option Oper)(s:AState)(E:List PanicEntry->AState->Prop):Prop:=
 match o with
 |none=>False
 |some o=>match o.guard with
  |some _=>False
  |none=>match o.op with
   |.call c=>match c.callee with
    |.value x=>match s.look x with
     |.fn (.func f) first captured=>CallE P f (zA2 s first captured c.args) s E
     |_=>False
    |_=>False
   |.panic x=>match s.look x with
    |.iface t (.agg [])=>PanK E (pan1 t) s
    |_=>False
   |_=>False
theorem PanOp.sound(h:PanOp P (some o) s E)(hs:Sim F g s a w){K:Act->World->Prop}{Q:Exit->Act->World->Prop}
 (hQ: ∀ch g' s' w',E ch s'->Sim F g' s' a w'->Q (.panic ch) a w'):o.guard=none∧o.wp P a w K Q:=by
 simp only[PanOp] at h
 split at h
 ·exact h.elim
 rename_i hg
 refine⟨hg,?_⟩
 split at h
 ·rename_i c ho
  split at h
  ·rename_i x hc
   split at h
   ·rename_i f first captured hx
    obtain⟨ch,bs',h1,h2,h6⟩:=h
    have he:=zAT hs x
    rw[hx] at he
    cases hv:a.eval x with
    |func fn fv cv=>
     rw[hv] at he
     cases he with
     |fn _ _ _ _ _ hf hcv rf rc=>
      have hargs:RepL g.imm g.σ (zA2 s first captured c.args) ((fv++c.args.map a.eval)++cv):=RepL.append (RepL.append ⟨hf,rf⟩ (zFs hs c.args)) ⟨hcv,rc⟩
      have hrun:(execOp a.eval o).run P w=.ok (.enter f ((fv++c.args.map a.eval)++cv)) w:=by
       simp only[execOp,ho,Sem.run_bind,resolve,hc,hv,Deferred.ofValue,Sem.run_pure,Result.andThen_ok,invoke,h1.1.run]
      simp only[Oper.wp,hrun,Oper.upon]
      refine(h1.2 _ w _ hs.callee (fun t=>rfl) hs.ext.tg.callee hargs).mono fun e w'=>?_
      rintro⟨g',rfl,h3,h4,h5,_⟩
      obtain⟨g2,hs2⟩:=(hs.after h5 h3 h4).forget h2
      exact hQ ch g2 _ w' h6 hs2
    |_=>rw[hv] at he;cases he
   ·exact h.elim
  ·exact h.elim
 ·rename_i x ho
  split at h
  ·rename_i t hx
   have he:=zAT hs x
   rw[hx] at he
   cases hv:a.eval x with
   |iface t' v=>
    rw[hv] at he
    cases he with
    |iface _ _ _ he=>
     cases he with
     |agg _ vs hsz _=>
      have:vs=#[]:=by simpa using hsz
      subst this
      have hrun:(execOp a.eval o).run P w=.halt (.panic (.iface t (.agg #[]))) w:=by
       simp[execOp,ho,hv,Instr.panic,goPanic,Sem.run_bind,Sem.run]
      simp only[Oper.wp,hrun,Oper.upon]
      obtain⟨g2,hs2⟩:=hs.forget h.1
      exact hQ _ g2 _ w h.2 hs2
   |_=>rw[hv] at he;cases he
  ·exact h.elim
 ·exact h.elim
theorem stP(k:Nat)(h:AOps P ops (fun s'=>PanOp P ops[k]? s' (PanE Q)) (ops.toList.take k) s.fresh):AWp P (.region id ops false) Q s:=fun F g a w hs=>by
 refine wp_region_list ?_
 have:=AOps.sound_app (F:=F) (l2:=ops.toList.drop k) (Q:=fun e a w=> ∃g s',Sim F g s' a w∧Q e s') (fun g s a w hk hs=>by
  cases ho:ops[k]? with
  |none=>rw[ho] at hk;exact hk.elim
  |some o=>
   rw[ho] at hk
   have hlt:k<ops.toList.length:=by simpa using lt_of_getElem? ho
   have hd:ops.toList.drop k=o::ops.toList.drop (k+1):=by
    rw[List.drop_eq_getElem_cons hlt]
    congr 1
    have:ops.toList[k]? =some o:=by rw[Array.getElem?_toList];exact ho
    rw[zq2 hlt] at this
    exact zqa this
   rw[hd]
   obtain⟨hg,hw⟩:=hk.sound hs (K:=wpList P ops (fun e a w=> ∃g s',Sim F g s' a w∧Q e s') (ops.toList.drop (k+1))) (Q:=fun e a w=> ∃g s',Sim F g s' a w∧Q e s') (fun ch g' s' w' h1 h2=>⟨g',s',h2,h1⟩)
   unfold wpList
   rw[if_pos (by simp[Region.wanted,hg])]
   exact .inl hw) (ops.toList.take k) s.fresh g a w h hs.fresh
 rwa [List.take_append_drop] at this
theorem zDR{N:AState->Prop}(h:Q (.panic ch) s):seqK N Q (.panic ch) s:=h
theorem zHM(h:Q (.panic ch) s):zIO id Q (.panic ch) s:=h
theorem elimL{R V A:Type}{v:R}{f:R->Option A}{g:V->Option A}{r:A}(h:Sum.elim f g (.inl v)=some r):f v=some r:=h
def RetZ(P:Program)(fn:Func)(RP:List PanicEntry->AState->Prop)(R:AV->AState->Prop):Exit->AState->Prop
 |.panic ch,s=>RP ch s
 |e,s=>Ret P fn R e s
@[simp] theorem RetZ_panic(P:Program)(fn:Func)(RP:List PanicEntry->AState->Prop)(R:AV->AState->Prop)(ch:List PanicEntry)(s:AState):RetZ P fn RP R (.panic ch) s=RP ch s:=Eq.trans rfl rfl
@[simp] theorem RetZ_normal(P:Program)(fn:Func)(RP:List PanicEntry->AState->Prop)(R:AV->AState->Prop)(s:AState):RetZ P fn RP R .normal s=Ret P fn R .normal s:=Eq.trans rfl rfl
@[simp] theorem RetZ_ret(P:Program)(fn:Func)(RP:List PanicEntry->AState->Prop)(R:AV->AState->Prop)(s:AState):RetZ P fn RP R .ret s=Ret P fn R .ret s:=Eq.trans rfl rfl
theorem rawP_of_body {bs bs':List (List AV)} (hf:P.funcs[f]? =some fn) (hname:(fn.name== "runtime.NumGoroutine")=false) (hb:fn.body=some c)
 (hn:args.length<=fn.ntmps) (hown:args.all (fun x=> !x.owns)=true) (h:AWp P c (fun e s=>e=.panic ch∧EndB s bs') (start fn.ntmps bs.length args bs)):RawP P f ch args bs bs':=by
 refine⟨⟨fn,hf,hname,by rw[hb];rfl⟩,fun g w vals hs h0 htg ha=>?_⟩
 refine calls_of_wp hf hb (wp_mono (h ⟨w,g⟩ g _ w (zHX hs h0 ha hn hown htg)) fun e a' w' ⟨g',s',h1,h2,h3⟩=>?_)
 subst h2
 refine⟨h1.defers,?_⟩
 obtain⟨g2,h5,h6,h7⟩:=h1.le' h3.le
 refine⟨{g2 with own:=fun p=>match p with|.tmp _=>none|q=>g2.own q},rfl,h5.callee,?_,fun t=>rfl,fun _ _ h=>h.elim⟩
 exact {h5.ext with
  imm:=h5.ext.imm
  immNew:=h5.ext.immNew
  mineσ:=h5.ext.mineσ
  mineOwn:=fun p k hk=>by
   cases p with
   |tmp t=>cases hk
   |cell b o=>exact h5.ext.mineOwn _ k hk}
theorem zEG{bs:List (List AV)}{α β:Type}{r:α ⊕ β}{bp:α->List (List AV)}{res:β->AV}{bs':β->List (List AV)}
 (hf:P.funcs[f]? =some fn) (hname:(fn.name== "runtime.NumGoroutine")=false) (hb:fn.body=some c) (hn:args.length≤fn.ntmps) (hown:args.all (fun x=> !x.owns)=true)
 (h:AWp P c (RetZ P fn (fun ch' s=> ∃x,r=.inl x∧ch'=ch∧EndB s (bp x)) (fun v s=> ∃x,r=.inr x∧v=res x∧EndB s (bs' x)∧((bs' x).length=s.blocks.length∨(res x).under (bs' x).length=true))) (start fn.ntmps bs.length args bs)):
 Sum.elim (fun x=>RawP P f ch args bs (bp x)) (fun x=>Raw P f args bs (res x) (bs' x)) r:=by
 cases r with
 |inl x=>
  refine rawP_of_body hf hname hb hn hown (zEL h fun e s hq=>?_)
  have no: ∀e',Ret P fn (fun v s=> ∃y,(Sum.inl x:α ⊕ β)=.inr y∧v=res y∧EndB s (bs' y)∧((bs' y).length=s.blocks.length∨(res y).under (bs' y).length=true)) e' s->False:=fun e' hr=>by
   have hr:=Ret.mono (R':=fun _ _=>False) (fun v s ⟨y,hy,_⟩=>by cases hy) hr
   cases e' with
   |normal=>simp only[Ret] at hr;split at hr;exact hr.2;exact hr
   |ret=>simp only[Ret] at hr;split at hr;exact hr.2;exact hr
   |_=>exact hr
  cases e with
  |panic ch'=>
   obtain⟨y,h1,h2,h3⟩:=hq
   cases h1
   exact⟨by rw[h2],h3⟩
  |normal=>exact(no .normal hq).elim
  |ret=>exact(no .ret hq).elim
  |exit i=>exact(no (.exit i) hq).elim
  |goto l=>exact(no (.goto l) hq).elim
  |outgrown=>exact(no .outgrown hq).elim
 |inr x=>
  refine zAl hf hname hb hn hown (zEL h fun e s hq=>?_)
  have go: ∀e',Ret P fn (fun v s=> ∃y,(Sum.inr x:α ⊕ β)=.inr y∧v=res y∧EndB s (bs' y)∧((bs' y).length=s.blocks.length∨(res y).under (bs' y).length=true)) e' s->
   Ret P fn (fun r s=>r=res x∧EndB s (bs' x)∧((bs' x).length=s.blocks.length∨(res x).under (bs' x).length=true)) e' s:=fun e' hr=>
   Ret.mono (fun v s ⟨y,h1,h2,h3,h4⟩=>by cases h1;exact⟨h2,h3,h4⟩) hr
  cases e with
  |panic ch'=>
   obtain⟨y,h1,_⟩:=hq
   cases h1
  |normal=>exact go .normal hq
  |ret=>exact go .ret hq
  |exit i=>exact go (.exit i) hq
  |goto l=>exact go (.goto l) hq
  |outgrown=>exact go .outgrown hq
attribute [simp] PanOp
attribute [simp] zIw
end Go.Abs
