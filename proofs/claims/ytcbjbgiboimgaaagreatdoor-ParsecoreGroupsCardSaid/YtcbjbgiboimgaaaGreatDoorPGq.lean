/- For every input the law ParsecoreGroups returns true. Part 17 of 22. No condition. -/
import Derived.Test.YtcbjbgiboimgaaaGreatDoorPGp
import Derived.ProofKit
import Derived.SizedLaws
set_option linter.unusedVariables false
set_option linter.unnecessarySimpa false
set_option linter.unusedSimpArgs false
set_option maxRecDepth 100000
set_option maxHeartbeats 4000000
namespace Go.Abs
open Go Go.ChangeShapes Go.WideShapes Go.ChangeAt Go.RowKit
variable {P:Program} {ops:Array Oper} {imm:Addr->Option Value} {w:World} {B:List Nat} {a:Act} {v:Value} {o:Oper} {f:FuncId} {σ:List Nat} {x:Operand} {α:Type} {t:TypeId} {c:Code} {bo:Option Nat} {id:Nat} {i:Nat} {pins:List Nat} {D:List Deferred} {ρ:List Nat} {ch:List PanicEntry} {n:Nat} {fn:Func} {args:List AV} {l:List (List AV)} {res:AV} {m:Option Place} {blk:List AV} {s:AState} {Q:Exit->AState->Prop} {F:Fx} {g:Gh} {K:AState->Prop} {E:List PanicEntry->AState->Prop}
def RepCells(imm:Addr->Option Value)(xs:List AV)(cs:List Value):Prop:=xs.length=cs.length∧∀(j:Nat) x,xs[j]? =some x->Rep imm [] x (cs.getD j undef)
theorem RepCells.one{x:AV}(h:Rep imm [] x v):RepCells imm [x] [v]:=
 ⟨rfl,fun j y hy=>by
  cases j with
  |zero=>simp at hy;subst hy;simpa using h
  |succ j=>simp at hy⟩
theorem zJF{H:Type}{P:Program}{e:TypeId}{d:DataW H}{m:Nat}: ∀{ds:List (DataW H)},d∈ds->m∈d.weights P e->m∈DataW.weightsAll P e ds
 |d0::ds,hd,hm=>by
  simp only[DataW.weightsAll,List.mem_append]
  rcases List.mem_cons.1 hd with rfl|hd
  ·exact .inl hm
  ·exact .inr (zJF hd hm)
def OpensAt(P:Program)(n:Nat)(t:TypeId){α:Type}(f:α->List AV)(G:α->Prop):Prop:=
 ∀(H:Type)(enc:TypeId×Value->H)(W:World)(sp:Nat->Bool)(cs:List Value)(d:DataW H)(ps:List MemPlace),DataW.trod enc P W 0 sp true n t cs=some (d,ps)->
  (∀m∈d.weights P t,m<=140737488351232)->∃a:α,RepCells (fun p=>W.cell? p) (f a) cs∧G a
theorem wf_inR{k:IntKind}{n:Int}(h:(Lit.int k n).wf=true):inR k n:=by
 simp only[Lit.wf,zq7,decide_eq_true_eq] at h
 obtain⟨h1,h2⟩:=h
 unfold inR
 cases k<;>simp[IntKind.min,IntKind.max,IntKind.signed,IntKind.bits] at h1 h2<;>exact⟨h1,h2⟩
theorem opensAt_byte(ht:P.underlying t=some (.int .u8))(n:Nat):OpensAt P n t cU (fun _=>True):=fun H enc W sp cs d ps h hw=>by
 obtain⟨b,rfl,_,hb⟩:=DataW.trod_int ht h
 have h1:=wf_inR hb
 have h2:0<=b∧b<=255:=h1
 refine⟨UInt8.ofNat b.toNat,.one ?_,trivial⟩
 have e:((UInt8.ofNat b.toNat).toNat:Int)=b:=by
  rw[UInt8.toNat_ofNat']
  omega
 rw[e]
 exact .int .u8 b h1
theorem opensAt_str(ht:P.underlying t=some .string)(n:Nat):OpensAt P n t cS (fun l=>l.length<=140737488351232):=fun H enc W sp cs d ps h hw=>by
 obtain⟨s,rfl,hx,hs⟩:=DataW.trod_string ht h
 simp only[Prod.mk.injEq] at hx
 obtain⟨rfl,rfl⟩:=hx
 have hl:s.data.toList.length<=140737488351232:=hw _ (by simp[DataW.weights])
 exact⟨s.data.toList,.one (.str s _ rfl (by omega)),hl⟩
def Opens(P:Program)(t:TypeId)(A:AV->Prop):Prop:=
 ∀(H:Type)(enc:TypeId×Value->H)(W:World)(b0:Nat)(v:Value)(d:DataW H)(ps:List MemPlace),Value.okWide P W .any b0 t v->DataW.Trod enc P W 0 (fun _=>true) true t v d ps->
  (∀m∈d.weights P t,m<=140737488351232)->∃a,A a∧Rep (fun x=>W.cell? x) [] a v
theorem opens_cell{S:Type}{f:S->List AV}{g:S->AV}{G:S->Prop}(hv: ∀W b0 v,Value.okWide P W .any b0 t v->v.cells=#[v])(hf: ∀x,f x=[g x])(h: ∀n,OpensAt P n t f G):
 Opens P t (fun a=> ∃x,G x∧a=g x):=fun H enc W b0 v d ps hok hd hw=>by
 obtain⟨n,hn⟩:=hd
 obtain⟨x,x1,x2⟩:=h n H enc W _ _ d ps hn hw
 refine⟨_,⟨x,x2,rfl⟩,?_⟩
 rw[hf,hv W b0 v hok] at x1
 exact x1.2 0 _ rfl
theorem opens_byte(ht:P.underlying t=some (.int .u8)):Opens P t (fun a=> ∃x:UInt8,True∧a=.int .u8 x.toNat):=
 opens_cell (fun W b0 v h=>by obtain⟨n,rfl⟩:=okWide_int ht h;rfl) (fun x=>rfl) (fun n=>opensAt_byte ht n)
theorem zKM(ht:P.underlying t=some .string):Opens P t (fun a=> ∃x:List UInt8,x.length<=140737488351232∧a=.str x):=
 opens_cell (fun W b0 v h=>by obtain⟨n,rfl⟩:=okWide_string ht h;rfl) (fun x=>rfl) (fun n=>opensAt_str ht n)
def All2{α β:Type _}(R:α->β->Prop):List α->List β->Prop
 |[],[]=>True
 |a::l,b::m=>R a b∧All2 R l m
 |_,_=>False
theorem all2_1{α β:Type _}{R:α->β->Prop}{A:α}{l:List β}(h:All2 R [A] l): ∃a,l=[a]∧R A a:=by
 cases l with
 |nil=>exact h.elim
 |cons a l=>cases l with
  |nil=>exact⟨a,rfl,h.1⟩
  |cons b l=>exact h.2.elim
theorem all2_2{α β:Type _}{R:α->β->Prop}{A B:α}{l:List β}(h:All2 R [A,B] l): ∃a b,l=[a,b]∧R A a∧R B b:=by
 cases l with
 |nil=>exact h.elim
 |cons a l=>obtain⟨b,rfl,hb⟩:=all2_1 h.2;exact⟨a,b,rfl,h.1,hb⟩
theorem all2_3{α β:Type _}{R:α->β->Prop}{A B C:α}{l:List β}(h:All2 R [A,B,C] l): ∃a b c,l=[a,b,c]∧R A a∧R B b∧R C c:=by
 cases l with
 |nil=>exact h.elim
 |cons a l=>obtain⟨b,c,rfl,hb⟩:=all2_2 h.2;exact⟨a,b,c,rfl,h.1,hb⟩
theorem all2_4{α β:Type _}{R:α->β->Prop}{A B C D:α}{l:List β}(h:All2 R [A,B,C,D] l): ∃a b c d,l=[a,b,c,d]∧R A a∧R B b∧R C c∧R D d:=by
 cases l with
 |nil=>exact h.elim
 |cons a l=>obtain⟨b,c,d,rfl,hb⟩:=all2_3 h.2;exact⟨a,b,c,d,rfl,h.1,hb⟩
theorem all2_5{α β:Type _}{R:α->β->Prop}{A B C D E:α}{l:List β}(h:All2 R [A,B,C,D,E] l): ∃a b c d e,l=[a,b,c,d,e]∧R A a∧R B b∧R C c∧R D d∧R E e:=by
 cases l with
 |nil=>exact h.elim
 |cons a l=>obtain⟨b,c,d,e,rfl,hb⟩:=all2_4 h.2;exact⟨a,b,c,d,e,rfl,h.1,hb⟩
theorem opensAll{P:Program}{W:World}{H:Type}{enc:TypeId×Value->H}{b0:Nat}: ∀{ts:List TypeId}{As:List (AV->Prop)},All2 (Opens P) ts As->∀{vs:List Value}{ds:List (DataW H)}{p:List MemPlace},
 DataW.TrodAll enc P W 0 (fun _=>true) true ts vs ds p->(∀(j:Nat) t v,ts[j]? =some t->vs[j]? =some v->Value.okWide P W .any b0 t v)->(∀m∈DataW.weightsEach P ts ds,m<=140737488351232)->
 ∃avs,All2 (fun A a=>A a) As avs∧avs.length=vs.length∧∀(i:Nat) x,avs[i]? =some x->Rep (fun x=>W.cell? x) [] x (vs.getD i undef)
 |[],[],_,vs,ds,p,h,_,_=>by
  obtain⟨rfl,rfl,rfl⟩:=trodAll_nil h
  exact⟨[],trivial,rfl,fun i x h=>by simp at h⟩
 |t::ts,A::As,hA,vs,ds,p,h,hok,hw=>by
  obtain⟨v,vs,d,ds,p,q,rfl,rfl,rfl,h1,h2⟩:=trodAll_cons h
  simp only[DataW.weightsEach,List.mem_append] at hw
  obtain⟨a,a1,a2⟩:=hA.1 H enc W b0 v d p (hok 0 t v rfl rfl) h1 fun m hm=>hw m (.inl hm)
  obtain⟨avs,c1,c2,c3⟩:=opensAll hA.2 h2 (fun j t v h3 h4=>hok (j+1) t v (by simpa using h3) (by simpa using h4)) fun m hm=>hw m (.inr hm)
  refine⟨a::avs,⟨a1,c1⟩,by simp[c2],fun i x hx=>?_⟩
  cases i with
  |zero=>simp at hx;subst hx;simpa using a2
  |succ i=>simpa using c3 i x (by simpa using hx)
theorem zH4{P:Program}(laid:laidOutB P=true){W W':World}{H:Type}{enc:TypeId×Value->H}(hb:Below W.heap.size W W'): ∀{ts:List TypeId},(∀t∈ts,P.readableRec t=true∧t<P.types.size)->
 ∀{vs:List Value}{ds:List (DataW H)}{p:List MemPlace},DataW.TrodAll enc P W 0 (fun _=>true) true ts vs ds p->(∀x∈p,x.block<W.heap.size)->
 DataW.TrodAll enc P W' 0 (fun b=>decide (b<W.heap.size)) true ts vs ds p
 |[],_,vs,ds,p,h,_=>by
  obtain⟨rfl,rfl,rfl⟩:=trodAll_nil h
  exact trodAll_mk0
 |t::ts,hr,vs,ds,p,h,hlt=>by
  obtain⟨v,vs,d,ds,p,q,rfl,rfl,rfl,h1,h2⟩:=trodAll_cons h
  exact⟨p,q,Below.trod laid (hr t (by simp)).1 (hr t (by simp)).2 h1 hb (fun x hx=>hlt x (List.mem_append.2 (.inl hx))),
   zH4 laid hb (fun t' ht'=>hr t' (by simp[ht'])) h2 (fun x hx=>hlt x (List.mem_append.2 (.inr hx))),rfl⟩
theorem zHA{P:Program}{W:World}{H:Type}{enc:TypeId×Value->H}{b:Nat}{sp:Nat->Bool}{hd:Bool}: ∀{ts:List TypeId}{vs:List Value}{ds:List (DataW H)}{p:List MemPlace},DataW.TrodAll enc P W b sp hd ts vs ds p->ds.length=ts.length
 |[],vs,ds,p,h=>by obtain⟨rfl,rfl,rfl⟩:=trodAll_nil h;rfl
 |t::ts,vs,ds,p,h=>by
  obtain⟨v,vs,d,ds,p,q,rfl,rfl,rfl,h1,h2⟩:=trodAll_cons h
  simp[zHA h2]
theorem zKT{C:Checked}{N:FuncId}{f:Func}{s:ChangeSpec}{tb:TypeId}{apart:Bool}(own:ownKnob C.prog.godebug=none)(laid:laidOutB C.prog=true)(hf:C.prog.funcs[N]? =some f)(noInit:C.prog.inits.idxOf? N=none)
 (hres:f.resultTypes=#[tb]) (hb:C.prog.underlying tb=some .bool) (hvars:s.vars=[])
 (hfn: ∀(H:Type)(ds:List (DataW H)),ds.length=f.params.size->s.fn H ds={results:=[.lit (.bool true)],args:=ds}) (As:List (AV->Prop)) (hA:All2 (Opens C.prog) f.params.toList As)
 (hread: ∀t∈f.params.toList,C.prog.readableRec t=true∧t<C.prog.types.size) {Q:World->Prop} (hgl: ∀W:World,W.ShapedOpen C.prog->Q W->GOk (fun x=>W.cell? x)∧Tabs W) (hp: ∀avs,All2 (fun A a=>A a) As avs->Pure C.prog N avs (.bool true)) {os:Os} (started:os.Started) {H:Type} {enc:TypeId×Value->H} {conds:List PathCond} {a:Assume}
 {Pre:World->Array Value->Prop} (hPre: ∀w args,Pre w args->s.pre6 enc C.prog f conds apart w args) (hQ: ∀w w' args,w.heap=w'.heap->Pre w args->Q w')
 (witness: ∃(w:World) (tape:Tape) (i:Input),w.os=os∧(w.forCall tape i).Shaped C.prog∧i.vars=[]∧Input.okWide C.prog (w.forCall tape i) .any w.heap.size N i∧
  Pre (w.forCall tape i).memory i.args∧a.holds C.prog (lone (Frame.enter C.prog N i.args .normal) [] (w.forCall tape i))):
 ReturnsInHanded a C os N .any Pre (s.post enc C.prog f apart true false false):=by
 suffices contract: ∀(W:World)(base:Nat)(args:Array Value)(ds gs:List (DataW H))(before:List MemPlace),
  (∀(j:Nat) t v,f.params[j]? =some t->args[j]? =some v->Value.okWide C.prog W .any base t v)->
  DataW.Whole enc C.prog f.params.toList s.vars apart W args.toList ds gs before->
  (DataW.weightsEach C.prog (f.params.toList++s.plain.varTypes C.prog) (ds++gs)).all (·<=reachBytes)=true->
  W.ShapedOpen C.prog->Q W->
  Calls C.prog N args W fun e W'=> ∃v,e=.returned v∧s.post enc C.prog f apart true false false W args v W' by
  refine returnsInHanded_of_calls own started noInit witness ?_
  intro w tape i _ hsh _ hok hpre hholds
  obtain⟨_,_,_,fn',hfn',_,_,_,_,hval⟩:=hok
  have e:fn'=f:=zqa (hfn'.symm.trans hf)
  subst e
  obtain⟨⟨ds,gs,before,hw,hc⟩,hz⟩:=hPre _ _ hpre
  have hw':=DataW.Whole.of_heap (w':=w.forCall tape i) (by rfl) hw
  refine(contract (w.forCall tape i) w.heap.size i.args ds gs before hval hw' (hz.weights hw) hsh (hQ _ _ _ (by rfl) hpre)).mono fun e W' ⟨v,he,hp⟩=>?_
  subst he
  exact ChangeSpec.post_blind hp
 intro W base args ds gs before hval hW hsz hsh hq
 have hW':=hW
 obtain⟨p,q,hA0,hV,rfl,_,_⟩:=hW
 rw[hvars] at hV
 obtain⟨rfl,rfl⟩:=trodVars_none hV
 have hlt: ∀x∈p,x.block<W.heap.size:=fun x hx=>by simpa using hW'.lt x (by simpa using hx)
 obtain⟨avs,c1,c2,c3⟩:=opensAll (b0:=base) hA hA0 (fun j t v h1 h2=>hval j t v (by simpa using h1) (by simpa using h2)) (fun m hm=>by
  have e:s.plain.varTypes C.prog=[]:=by simp[ChangeSpec.plain,DataSpec.varTypes,hvars]
  rw[e,List.append_nil,List.append_nil] at hsz
  exact of_decide_eq_true (zq8 hsz m hm))
 obtain⟨_,hcall⟩:=hp avs c1
 refine(hcall (fun x=>W.cell? x) W args (fun _ _ h=>h) (hgl W hsh hq).1 (hgl W hsh hq).2 ⟨by simpa using c2.symm,fun i x hx=>by have:=c3 i x hx;simpa[zq5,zq6] using this⟩).mono fun e W' he=>?_
 obtain⟨imm',v,rfl,hr,_,_,hbelow,_⟩:=he
 cases hr
 have hl:ds.length=f.params.size:=by simpa using zHA hA0
 have hfn':=hfn H ds hl
 refine⟨_,rfl,ds,[],p++[],[],p,[],hW',?_,?_,?_,hbelow.frame _,fun h=>absurd h (by simp)⟩
 ·rw[List.append_nil,hfn',hres]
  exact trodAll_mk1 (shut_bool hb _)
 ·rw[List.append_nil,hfn']
  exact zH4 laid hbelow hread hA0 hlt
 ·rw[List.append_nil,hfn',hvars]
  exact rfl
end Go.Abs
