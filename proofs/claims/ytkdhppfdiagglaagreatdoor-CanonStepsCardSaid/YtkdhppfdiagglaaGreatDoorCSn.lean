/- CanonSteps holds: for every input the law returns true. No condition. Part 14 of 19. No condition. -/
import Derived.Test.YtkdhppfdiagglaaGreatDoorCSm
import Derived.ProofKit
import Derived.SizedLaws
set_option linter.unusedVariables false
set_option linter.unnecessarySimpa false
set_option linter.unusedSimpArgs false
set_option maxRecDepth 100000
set_option maxHeartbeats 4000000
namespace Go.Abs
open Go Go.ChangeShapes Go.WideShapes Go.ChangeAt Go.RowKit
variable {P:Program} {ops:Array Oper} {imm:Addr->Option Value} {w:World} {B:List Nat} {a:Act} {o:Oper} {v:Value} {f:FuncId} {α:Type} {x:Operand} {σ:List Nat} {ρ:List Nat} {t:TypeId} {c:Code} {bo:Option Nat} {n:Nat} {i:Nat} {pins:List Nat} {fn:Func} {xs:List Operand} {k:IntKind} {id:Nat} {args:List AV} {l:List (List AV)} {res:AV} {m:Option Place} {s:AState} {Q:Exit->AState->Prop} {g:Gh} {F:Fx} {K:AState->Prop} {R:AV->AState->Prop} {r:Res} {ce:Calling}
def RepCells(imm:Addr->Option Value)(xs:List AV)(cs:List Value):Prop:=xs.length=cs.length∧∀(j:Nat) x,xs[j]? =some x->Rep imm [] x (cs.getD j undef)
theorem RepCells.nil:RepCells imm [] []:=⟨rfl,fun j x h=>by simp at h⟩
theorem RepCells.one{x:AV}(h:Rep imm [] x v):RepCells imm [x] [v]:=
 ⟨rfl,fun j y hy=>by
  cases j with
  |zero=>simp at hy;subst hy;simpa using h
  |succ j=>simp at hy⟩
theorem RepCells.append{x y:List AV}{c d:List Value}(h1:RepCells imm x c)(h2:RepCells imm y d):RepCells imm (x++y) (c++d):=by
 refine⟨by simp[h1.1,h2.1],fun j z hz=>?_⟩
 rw[List.getElem?_append] at hz
 rw[zq5,List.getElem?_append]
 split at hz
 ·rename_i hj
  rw[if_pos (by rw[<-h1.1];exact hj),<-zq5]
  exact h1.2 j z hz
 ·rename_i hj
  rw[if_neg (by rw[<-h1.1];exact hj),<-zq5,<-h1.1]
  exact h2.2 _ z hz
theorem zIG{H:Type}{P:Program}{e:TypeId}{d:DataW H}{m:Nat}: ∀{ds:List (DataW H)},d∈ds->m∈d.weights P e->m∈DataW.weightsAll P e ds
 |d0::ds,hd,hm=>by
  simp only[DataW.weightsAll,List.mem_append]
  rcases List.mem_cons.1 hd with rfl|hd
  ·exact .inl hm
  ·exact .inr (zIG hd hm)
def zGo(P:Program)(n:Nat)(t:TypeId){α:Type}(f:α->List AV)(G:α->Prop):Prop:=
 ∀(H:Type)(enc:TypeId×Value->H)(W:World)(sp:Nat->Bool)(cs:List Value)(d:DataW H)(ps:List MemPlace),DataW.trod enc P W 0 sp true n t cs=some (d,ps)->
  (∀m∈d.weights P t,m<=140737488351232)->∃a:α,RepCells (fun p=>W.cell? p) (f a) cs∧G a
theorem wf_inR{n:Int}(h:(Lit.int k n).wf=true):inR k n:=by
 simp only[Lit.wf,zq7,decide_eq_true_eq] at h
 obtain⟨h1,h2⟩:=h
 unfold inR
 cases k<;>simp[IntKind.min,IntKind.max,IntKind.signed,IntKind.bits] at h1 h2<;>exact⟨h1,h2⟩
theorem zH1(ht:P.underlying t=some (.int k))(n:Nat):zGo P n t (cI k) (Rng k):=fun H enc W sp cs d ps h hw=>by
 obtain⟨b,rfl,_,hb⟩:=DataW.trod_int ht h
 exact⟨b,.one (.int k b (wf_inR hb)),wf_inR hb⟩
theorem zJH(ht:P.underlying t=some .string)(n:Nat):zGo P n t cS (fun l=>l.length<=140737488351232):=fun H enc W sp cs d ps h hw=>by
 obtain⟨s,rfl,hx,hs⟩:=DataW.trod_string ht h
 simp only[Prod.mk.injEq] at hx
 obtain⟨rfl,rfl⟩:=hx
 have hl:s.data.toList.length<=140737488351232:=hw _ (by simp[DataW.weights])
 exact⟨s.data.toList,.one (.str s _ rfl (by omega)),hl⟩
theorem buildList{α:Type}{Q:Nat->α->Prop}: ∀k,(∀i,i<k->∃a,Q i a)->∃l:List α,l.length=k∧∀(i:Nat) a,l[i]? =some a->Q i a
 |0,_=>⟨[],rfl,fun i a h=>by simp at h⟩
 |k+1,h=>by
  obtain⟨l,h1,h2⟩:=buildList k fun i hi=>h i (by omega)
  obtain⟨a,ha⟩:=h k (by omega)
  refine⟨l++[a],by simp[h1],fun i b hb=>?_⟩
  rw[List.getElem?_append] at hb
  split at hb
  ·exact h2 i b hb
  ·rename_i hi
   have:i=k:=by
    have:=(zq1 hb).1
    simp at this
    omega
   subst this
   simp[h1] at hb
   rw[<-hb]
   exact ha
theorem add_add'(a:Addr)(x y:Nat):(a.add x).add y=a.add (x+y):=by
 simp only[Addr.add]
 split<;>split<;>simp_all<;>omega
theorem zFa{t e:TypeId}{f:α->List AV}{G:α->Prop}{m b:Nat}(ht:P.underlying t=some (.slice e))(hm:P.cellsOf e=m)(hb:P.bytesOf e=b)(hb0:0<b)(hf: ∀a,(f a).length=m)
 (h: ∀k,k<n->zGo P k e f G):zGo P n t (cL f) (fun l=>l.length*b<=140737488351232∧∀x∈l,G x):=fun H enc W sp cs d ps hd hw=>by
 rcases DataW.trod_slice ht hd with ⟨rfl,hx⟩|⟨a,len,cap,elems,rest,n',hn,rfl,hx,_,hl,_,hlen,hel,_,_⟩
 ·exact⟨[],.one .sl0,by simp,by simp⟩
 simp only[Prod.mk.injEq] at hx
 obtain⟨rfl,rfl⟩:=hx
 have hbig:len*b<=140737488351232:=by
  have:=hw ((elems.length+rest.length)*P.bytesOf e) (by simp[DataW.weights,ht])
  rw[hb,hlen] at this
  exact Nat.le_trans (Nat.mul_le_mul_right _ (by omega)) this
 have hlen':len<=140737488351232:=Nat.le_trans (by have:=Nat.mul_le_mul_left len hb0;omega) hbig
 obtain⟨l,h1,h2⟩:=buildList (Q:=fun i x=>(∃cs',W.cells? 0 (a.add (i*m)) m=some cs'∧RepCells (fun p=>W.cell? p) (f x) cs')∧G x) len fun i hi=>by
  have hi':i<elems.length:=by omega
  have key:=hel i hi
  rw[zq2 hi'] at key
  obtain⟨cs',e1,e2⟩:=Option.bind_eq_some_iff.1 key
  rw[hm] at e1
  obtain⟨x,hx1,hx2⟩:=h n' (by omega) H enc W sp cs' elems[i].1 elems[i].2 e2 fun q hq=>hw q (by
   simp only[DataW.weights,ht,List.mem_cons,List.mem_append]
   exact .inr (.inl (zIG (List.mem_map.2 ⟨elems[i],List.getElem_mem hi',rfl⟩) hq)))
  exact⟨x,⟨cs',e1,hx1⟩,hx2⟩
 refine⟨l,.one (.sl m (l.map f) a len cap (fun i j=>(W.cell? (a.add (i*m+j))).getD undef) (by simp[h1]) hl (by omega) ?_ ?_ ?_),by rw[h1];exact hbig,fun x hx=>?_⟩
 ·intro i e he
  rw[List.getElem?_map] at he
  obtain⟨x,hx,rfl⟩:=Option.map_eq_some_iff.1 he
  exact hf x
 ·intro i e he j x hx
  rw[List.getElem?_map] at he
  obtain⟨y,hy,rfl⟩:=Option.map_eq_some_iff.1 he
  obtain⟨⟨cs',c1,c2⟩,_⟩:=h2 i y hy
  have hj:j<m:=by rw[<-hf y];exact(zq1 hx).1
  obtain⟨_,c3,c4⟩:=World.cells?_some c1
  have c5:=c4 j hj
  rw[add_add',zq2 (by omega)] at c5
  show W.cell? _=some ((W.cell? _).getD undef)
  rw[c5];rfl
 ·intro i e he j x hx
  rw[List.getElem?_map] at he
  obtain⟨y,hy,rfl⟩:=Option.map_eq_some_iff.1 he
  obtain⟨⟨cs',c1,c2⟩,_⟩:=h2 i y hy
  have hj:j<m:=by rw[<-hf y];exact(zq1 hx).1
  obtain⟨_,c3,c4⟩:=World.cells?_some c1
  have c5:=c4 j hj
  rw[add_add'] at c5
  have c6:=c2.2 j x hx
  rw[zq5,<-c5] at c6
  exact c6
 ·obtain⟨i,hi⟩:=zqd hx
  exact(h2 i x hi).2
def zMV(P:Program)(n:Nat)(fs:List Field)(o N:Nat){α:Type}(g:α->List AV)(G:α->Prop):Prop:=
 ∀(H:Type)(enc:TypeId×Value->H)(W:World)(sp:Nat->Bool)(cs:List Value)(xs:List (DataW H×List MemPlace)),cs.length=N->xs.length=fs.length->
  (∀(i:Nat)(f:Field),fs[i]? =some f->DataW.trod enc P W 0 sp true n f.type ((cs.drop f.offset).take (P.cellsOf f.type))=xs[i]?)->
  (∀m∈DataW.weightsEach P (fs.map (·.type)) (xs.map (·.1)),m<=140737488351232)->∃a:α,RepCells (fun p=>W.cell? p) (g a) (cs.drop o)∧G a
theorem zHC{n o N:Nat}(h:N<=o):zMV P n [] o N (fun _:Unit=>[]) (fun _=>True):=fun H enc W sp cs xs h1 h2 h3 h4=>by
 refine⟨(),?_,trivial⟩
 rw[List.drop_eq_nil_of_le (by omega)]
 exact .nil
theorem zA4{n o N k:Nat}{f:Field}{fs:List Field}{α β:Type}{u:α->List AV}{g:β->List AV}{G1:α->Prop}{G2:β->Prop}(ho:f.offset=o)(hk:P.cellsOf f.type=k)
 (h1:zGo P n f.type u G1) (h2:zMV P n fs (o+k) N g G2):zMV P n (f::fs) o N (fun p:α×β=>u p.1++g p.2) (fun p=>G1 p.1∧G2 p.2):=fun H enc W sp cs xs e1 e2 e3 e4=>by
 cases xs with
 |nil=>simp at e2
 |cons x xs=>
  have e5:=e3 0 f rfl
  simp only[List.getElem?_cons_zero,ho,hk] at e5
  simp only[List.map_cons,DataW.weightsEach,List.mem_append] at e4
  obtain⟨a,a1,a2⟩:=h1 H enc W sp _ x.1 x.2 e5 fun m hm=>e4 m (.inl hm)
  obtain⟨b,b1,b2⟩:=h2 H enc W sp cs xs e1 (by simpa using e2) (fun i f' hf'=>by have:=e3 (i+1) f' (by simpa using hf');simpa using this) fun m hm=>e4 m (.inr hm)
  refine⟨(a,b),?_,a2,b2⟩
  have:=a1.append b1
  rwa [<-List.drop_drop,List.take_append_drop] at this
theorem zFw{fs:Array Field}{n N:Nat}{α S:Type}{f:S->List AV}{G':S->Prop}{g:α->List AV}{G:α->Prop}(ht:P.underlying t=some (.struct fs))(hN:P.cellsOf t=N)(mk:α->S)
 (hmk: ∀a,f (mk a)=g a) (hG: ∀a,G a->G' (mk a)) (h: ∀k,k<n->zMV P k fs.toList 0 N g G):zGo P n t f G':=fun H enc W sp cs d ps hd hw=>by
 obtain⟨xs,n',hn,hx,hl,hxl,he⟩:=DataW.trod_struct ht hd
 simp only[Prod.mk.injEq] at hx
 obtain⟨rfl,rfl⟩:=hx
 obtain⟨a,a1,a2⟩:=h n' (by omega) H enc W sp cs xs (by omega) (by simpa using hxl) (fun i f' hf'=>he i f' (by simpa using hf')) fun m hm=>hw m (by simpa[DataW.weights,ht] using hm)
 exact⟨mk a,by rw[hmk];simpa using a1,hG a a2⟩
def Opens(P:Program)(t:TypeId)(A:AV->Prop):Prop:=
 ∀(H:Type)(enc:TypeId×Value->H)(W:World)(b0:Nat)(v:Value)(d:DataW H)(ps:List MemPlace),Value.okWide P W .any b0 t v->DataW.Trod enc P W 0 (fun _=>true) true t v d ps->
  (∀m∈d.weights P t,m<=140737488351232)->∃a,A a∧Rep (fun x=>W.cell? x) [] a v
theorem zKK{fs:Array Field}{S:Type}{f:S->List AV}{G:S->Prop}(ht:P.underlying t=some (.struct fs))(h: ∀n,zGo P n t f G):Opens P t (fun a=> ∃x,G x∧a=.agg (f x)):=
 fun H enc W b0 v d ps hv hd hw=>by
 obtain⟨cs,rfl,_⟩:=okWide_struct ht hv
 obtain⟨n,hn⟩:=hd
 obtain⟨x,x1,x2⟩:=h n H enc W _ _ d ps hn hw
 refine⟨_,⟨x,x2,rfl⟩,.agg _ _ (by simpa[Value.cells] using x1.1.symm) fun i y hy=>?_⟩
 have:=x1.2 i y hy
 simpa[Value.cells,zq5,zq6] using this
def All2{α β:Type _}(R:α->β->Prop):List α->List β->Prop
 |[],[]=>True
 |a::l,b::m=>R a b∧All2 R l m
 |_,_=>False
theorem all2_1{α β:Type _}{R:α->β->Prop}{A:α}{l:List β}(h:All2 R [A] l): ∃a,l=[a]∧R A a:=by
 cases l with
 |nil=>exact h.elim
 |cons a l=>cases l with
  |nil=>exact⟨a,rfl,h.1⟩
  |cons b l=>exact h.2.elim
theorem all2_2{α β:Type _}{R:α->β->Prop}{A B:α}{l:List β}(h:All2 R [A,B] l): ∃a b,l=[a,b]∧R A a∧R B b:=by
 cases l with
 |nil=>exact h.elim
 |cons a l=>obtain⟨b,rfl,hb⟩:=all2_1 h.2;exact⟨a,b,rfl,h.1,hb⟩
theorem opensAll{P:Program}{W:World}{H:Type}{enc:TypeId×Value->H}{b0:Nat}: ∀{ts:List TypeId}{As:List (AV->Prop)},All2 (Opens P) ts As->∀{vs:List Value}{ds:List (DataW H)}{p:List MemPlace},
 DataW.TrodAll enc P W 0 (fun _=>true) true ts vs ds p->(∀(j:Nat) t v,ts[j]? =some t->vs[j]? =some v->Value.okWide P W .any b0 t v)->(∀m∈DataW.weightsEach P ts ds,m<=140737488351232)->
 ∃avs,All2 (fun A a=>A a) As avs∧avs.length=vs.length∧∀(i:Nat) x,avs[i]? =some x->Rep (fun x=>W.cell? x) [] x (vs.getD i undef)
 |[],[],_,vs,ds,p,h,_,_=>by
  obtain⟨rfl,rfl,rfl⟩:=trodAll_nil h
  exact⟨[],trivial,rfl,fun i x h=>by simp at h⟩
 |t::ts,A::As,hA,vs,ds,p,h,hok,hw=>by
  obtain⟨v,vs,d,ds,p,q,rfl,rfl,rfl,h1,h2⟩:=trodAll_cons h
  simp only[DataW.weightsEach,List.mem_append] at hw
  obtain⟨a,a1,a2⟩:=hA.1 H enc W b0 v d p (hok 0 t v rfl rfl) h1 fun m hm=>hw m (.inl hm)
  obtain⟨avs,c1,c2,c3⟩:=opensAll hA.2 h2 (fun j t v h3 h4=>hok (j+1) t v (by simpa using h3) (by simpa using h4)) fun m hm=>hw m (.inr hm)
  refine⟨a::avs,⟨a1,c1⟩,by simp[c2],fun i x hx=>?_⟩
  cases i with
  |zero=>simp at hx;subst hx;simpa using a2
  |succ i=>simpa using c3 i x (by simpa using hx)
theorem zJW{P:Program}(laid:laidOutB P=true){W W':World}{H:Type}{enc:TypeId×Value->H}(hb:Below W.heap.size W W'): ∀{ts:List TypeId},(∀t∈ts,P.readableRec t=true∧t<P.types.size)->
 ∀{vs:List Value}{ds:List (DataW H)}{p:List MemPlace},DataW.TrodAll enc P W 0 (fun _=>true) true ts vs ds p->(∀x∈p,x.block<W.heap.size)->
 DataW.TrodAll enc P W' 0 (fun b=>decide (b<W.heap.size)) true ts vs ds p
 |[],_,vs,ds,p,h,_=>by
  obtain⟨rfl,rfl,rfl⟩:=trodAll_nil h
  exact trodAll_mk0
 |t::ts,hr,vs,ds,p,h,hlt=>by
  obtain⟨v,vs,d,ds,p,q,rfl,rfl,rfl,h1,h2⟩:=trodAll_cons h
  exact⟨p,q,Below.trod laid (hr t (by simp)).1 (hr t (by simp)).2 h1 hb (fun x hx=>hlt x (List.mem_append.2 (.inl hx))),
   zJW laid hb (fun t' ht'=>hr t' (by simp[ht'])) h2 (fun x hx=>hlt x (List.mem_append.2 (.inr hx))),rfl⟩
theorem zIp{P:Program}{W:World}{H:Type}{enc:TypeId×Value->H}{b:Nat}{sp:Nat->Bool}{hd:Bool}: ∀{ts:List TypeId}{vs:List Value}{ds:List (DataW H)}{p:List MemPlace},DataW.TrodAll enc P W b sp hd ts vs ds p->ds.length=ts.length
 |[],vs,ds,p,h=>by obtain⟨rfl,rfl,rfl⟩:=trodAll_nil h;rfl
 |t::ts,vs,ds,p,h=>by
  obtain⟨v,vs,d,ds,p,q,rfl,rfl,rfl,h1,h2⟩:=trodAll_cons h
  simp[zIp h2]
theorem zL7{C:Checked}{N:FuncId}{f:Func}{s:ChangeSpec}{tb:TypeId}{apart:Bool}(own:ownKnob C.prog.godebug=none)(laid:laidOutB C.prog=true)(hf:C.prog.funcs[N]? =some f)(noInit:C.prog.inits.idxOf? N=none)
 (hres:f.resultTypes=#[tb]) (hb:C.prog.underlying tb=some .bool) (hvars:s.vars=[])
 (hfn: ∀(H:Type)(ds:List (DataW H)),ds.length=f.params.size->s.fn H ds={results:=[.lit (.bool true)],args:=ds}) (As:List (AV->Prop)) (hA:All2 (Opens C.prog) f.params.toList As)
 (hread: ∀t∈f.params.toList,C.prog.readableRec t=true∧t<C.prog.types.size) {Q:World->Prop} (hgl: ∀W:World,W.ShapedOpen C.prog->Q W->GOk (fun x=>W.cell? x)∧Tabs W) (hp: ∀avs,All2 (fun A a=>A a) As avs->Pure C.prog N avs (.bool true)) {os:Os} (started:os.Started) {H:Type} {enc:TypeId×Value->H} {conds:List PathCond} {a:Assume}
 {Pre:World->Array Value->Prop} (hPre: ∀w args,Pre w args->s.pre6 enc C.prog f conds apart w args) (hQ: ∀w w' args,w.heap=w'.heap->Pre w args->Q w')
 (witness: ∃(w:World) (tape:Tape) (i:Input),w.os=os∧(w.forCall tape i).Shaped C.prog∧i.vars=[]∧Input.okWide C.prog (w.forCall tape i) .any w.heap.size N i∧
  Pre (w.forCall tape i).memory i.args∧a.holds C.prog (lone (Frame.enter C.prog N i.args .normal) [] (w.forCall tape i))):
 ReturnsInHanded a C os N .any Pre (s.post enc C.prog f apart true false false):=by
 suffices contract: ∀(W:World)(base:Nat)(args:Array Value)(ds gs:List (DataW H))(before:List MemPlace),
  (∀(j:Nat) t v,f.params[j]? =some t->args[j]? =some v->Value.okWide C.prog W .any base t v)->
  DataW.Whole enc C.prog f.params.toList s.vars apart W args.toList ds gs before->
  (DataW.weightsEach C.prog (f.params.toList++s.plain.varTypes C.prog) (ds++gs)).all (·<=reachBytes)=true->
  W.ShapedOpen C.prog->Q W->
  Calls C.prog N args W fun e W'=> ∃v,e=.returned v∧s.post enc C.prog f apart true false false W args v W' by
  refine returnsInHanded_of_calls own started noInit witness ?_
  intro w tape i _ hsh _ hok hpre hholds
  obtain⟨_,_,_,fn',hfn',_,_,_,_,hval⟩:=hok
  have e:fn'=f:=zqa (hfn'.symm.trans hf)
  subst e
  obtain⟨⟨ds,gs,before,hw,hc⟩,hz⟩:=hPre _ _ hpre
  have hw':=DataW.Whole.of_heap (w':=w.forCall tape i) (by rfl) hw
  refine(contract (w.forCall tape i) w.heap.size i.args ds gs before hval hw' (hz.weights hw) hsh (hQ _ _ _ (by rfl) hpre)).mono fun e W' ⟨v,he,hp⟩=>?_
  subst he
  exact ChangeSpec.post_blind hp
 intro W base args ds gs before hval hW hsz hsh hq
 have hW':=hW
 obtain⟨p,q,hA0,hV,rfl,_,_⟩:=hW
 rw[hvars] at hV
 obtain⟨rfl,rfl⟩:=trodVars_none hV
 have hlt: ∀x∈p,x.block<W.heap.size:=fun x hx=>by simpa using hW'.lt x (by simpa using hx)
 obtain⟨avs,c1,c2,c3⟩:=opensAll (b0:=base) hA hA0 (fun j t v h1 h2=>hval j t v (by simpa using h1) (by simpa using h2)) (fun m hm=>by
  have e:s.plain.varTypes C.prog=[]:=by simp[ChangeSpec.plain,DataSpec.varTypes,hvars]
  rw[e,List.append_nil,List.append_nil] at hsz
  exact of_decide_eq_true (zq8 hsz m hm))
 obtain⟨_,hcall⟩:=hp avs c1
 refine(hcall (fun x=>W.cell? x) W args (fun _ _ h=>h) (hgl W hsh hq).1 (hgl W hsh hq).2 ⟨by simpa using c2.symm,fun i x hx=>by have:=c3 i x hx;simpa[zq5,zq6] using this⟩).mono fun e W' he=>?_
 obtain⟨imm',v,rfl,hr,_,_,hbelow,_⟩:=he
 cases hr
 have hl:ds.length=f.params.size:=by simpa using zIp hA0
 have hfn':=hfn H ds hl
 refine⟨_,rfl,ds,[],p++[],[],p,[],hW',?_,?_,?_,hbelow.frame _,fun h=>absurd h (by simp)⟩
 ·rw[List.append_nil,hfn',hres]
  exact trodAll_mk1 (shut_bool hb _)
 ·rw[List.append_nil,hfn']
  exact zJW laid hbelow hread hA0 hlt
 ·rw[List.append_nil,hfn',hvars]
  exact rfl
end Go.Abs
