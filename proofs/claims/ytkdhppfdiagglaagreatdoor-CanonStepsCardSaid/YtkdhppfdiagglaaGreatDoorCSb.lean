/- CanonSteps holds: for every input the law returns true. No condition. Part 2 of 19. No condition. -/
import Derived.Test.YtkdhppfdiagglaaGreatDoorCSa
import Derived.Laws.StructEq
import Derived.Laws.IdiomStrings
set_option linter.unusedVariables false
set_option linter.unnecessarySimpa false
set_option linter.unusedSimpArgs false
set_option maxRecDepth 100000
set_option maxHeartbeats 4000000
namespace Go.Abs
open Go
variable {P:Program} {ops:Array Oper} {imm:Addr->Option Value} {w:World} {B:List Nat} {a:Act} {o:Oper} {v:Value} {f:FuncId} {α:Type} {x:Operand} {σ:List Nat} {ρ:List Nat} {t:TypeId} {c:Code} {bo:Option Nat} {n:Nat} {i:Nat} {pins:List Nat} {fn:Func} {xs:List Operand} {k:IntKind} {id:Nat} {args:List AV} {l:List (List AV)} {res:AV} {m:Option Place} {s:AState} {Q:Exit->AState->Prop} {g:Gh} {F:Fx} {K:AState->Prop} {R:AV->AState->Prop} {r:Res}
theorem zJB{n:Int}(h:inR k n):k.wrap n=n:=by
 cases k<;>simp[IntKind.wrap,IntKind.bits,IntKind.signed,inR] at h ⊢<;>first|omega|(split<;>omega)
def cmpV(op:BinOp)(a b:Int):Option AV:=
 match op with
 |.eql=>some (.bool (eqI a b))
 |.neq=>some (.bool (!eqI a b))
 |.lss=>some (.bool (ltI a b))
 |.leq=>some (.bool (leI a b))
 |.gtr=>some (.bool (ltI b a))
 |.geq=>some (.bool (leI b a))
 |_=>none
def andI(k:IntKind)(a b:Int):Int:=k.wrap ((BitVec.ofInt k.bits a&&&BitVec.ofInt k.bits b).toNat)
theorem inR_wrap(k:IntKind)(n:Int):inR k (k.wrap n):=by
 cases k<;>simp[IntKind.wrap,IntKind.bits,IntKind.signed,inR]<;>(try split)<;>omega
def intV(op:BinOp)(k:IntKind)(a b:Int):Option (Prop×AV):=
 match op with
 |.add=>some (Rng k (a+b),.int k (a+b))
 |.sub=>some (Rng k (a-b),.int k (a-b))
 |.mul=>some (Rng k (a*b),.int k (a*b))
 |.quo=>some (b≠0∧Rng k (a.tdiv b),.int k (a.tdiv b))
 |.rem=>some (b≠0∧Rng k (a.tmod b),.int k (a.tmod b))
 |.and=>some (True,.int k (andI k a b))
 |.eql|.neq|.lss|.leq|.gtr|.geq=>(cmpV op a b).map fun v=>(True,v)
 |_=>none
def Short(a b:List UInt8):Prop:=a.length+b.length<=1152921504606846976
def strV(op:BinOp)(a b:List UInt8):Option (Prop×AV):=
 match op with
 |.add=>some (Short a b,.str (a++b))
 |.eql=>some (True,.bool (eqS a b))
 |.neq=>some (True,.bool (!eqS a b))
 |.lss=>some (True,.bool (ltS a b))
 |.leq=>some (True,.bool (ltS a b||eqS a b))
 |.gtr=>some (True,.bool (!(ltS a b||eqS a b)))
 |.geq=>some (True,.bool (!ltS a b))
 |_=>none
def eqFs(e:Field->Option Bool):List Field->Option Bool
 |[]=>some true
 |[f]=>if f.name= "_" then none else e f
 |f::g::l=>if f.name= "_" then none else match e f,eqFs e (g::l) with
  |some a,some b=>some (a&&b)
  |_,_=>none
def eqTy(P:Program):Nat->TypeId->List AV->List AV->Option Bool
 |0,_,_,_=>none
 |d+1,t,xs,ys=>match P.underlying t with
  |some (.int _)=>match xs,ys with
   |[.int k a],[.int k' b]=>if k=k' then some (eqI a b) else none
   |_,_=>none
  |some .bool=>match xs,ys with
   |[.bool a],[.bool b]=>some (eqB a b)
   |_,_=>none
  |some .string=>match xs,ys with
   |[.str a],[.str b]=>some (eqS a b)
   |_,_=>none
  |some (.struct fs)=>if P.stoodInHeld t=true then none else eqFs (fun f=>eqTy P d f.type ((xs.drop f.offset).take (P.cellsOf f.type)) ((ys.drop f.offset).take (P.cellsOf f.type))) fs.toList
  |_=>none
def binV(P:Program)(op:BinOp)(t:TypeId)(x y:AV):Option (Prop×AV):=
 match x,y with
 |.int k a,.int k' b=>if k=k' then intV op k a b else none
 |.str a,.str b=>strV op a b
 |.bool a,.bool b=>match op,P.underlying t with
  |.eql,some .bool=>some (True,.bool (eqB a b))
  |.neq,some .bool=>some (True,.bool (!eqB a b))
  |_,_=>none
 |.agg xs,.agg ys=>if P.eqGuardType P.depth t=true then none else match op,P.underlying t,eqTy P 10 t xs ys with
  |.eql,some (.struct _),some b=>some (True,.bool b)
  |.neq,some (.struct _),some b=>some (True,.bool (!b))
  |_,_,_=>none
 |_,_=>none
def IsV(P:Program)(imm:Addr->Option Value)(σ:List Nat)(t:TypeId)(xs:List AV)(u:Value):Prop:=
 match P.underlying t with
 |some (.struct _)|some (.array _ _)=> ∃cs,u=.agg cs∧cs.size=xs.length∧∀(i:Nat) x,xs[i]? =some x->Rep imm σ x (cs.getD i undef)
 |_=> ∃x,xs=[x]∧Rep imm σ x u
theorem zJF{xs:List AV}{cs:Array Value}{off:Nat}{fs:Array Field}(hs:cs.size=xs.length)(hr: ∀(i:Nat) x,xs[i]? =some x->Rep imm σ x (cs.getD i undef))
 (ht:P.underlying t=some (.struct fs)) (w:World): ∃u,(part t cs off).run P w=.ok u w∧IsV P imm σ t ((xs.drop off).take (P.cellsOf t)) u:=by
 have hi: ∃i,P.info? t=some i:=by
  cases h:P.info? t with
  |none=>unfold Program.underlying at ht;simp[h] at ht
  |some i=>exact⟨i,rfl⟩
 obtain⟨i,hi⟩:=hi
 have hc:P.cellsOf t=i.size:=by simp[Program.cellsOf,hi]
 refine⟨.agg (cs.extract off (off+i.size)),?_,?_⟩
 ·simp[part,isAgg,underlying,ht,sizeOf,typeInfo,hi]
 ·unfold IsV
  rw[ht]
  refine⟨_,rfl,by simp[hc,hs];omega,fun j x hx=>?_⟩
  rw[hc,List.getElem?_take] at hx
  split at hx
  ·rename_i hj
   rw[List.getElem?_drop] at hx
   have:=hr _ x hx
   have hlt:=(zq1 hx).1
   rw[zq6] at this ⊢
   rw[Array.getElem?_extract,if_pos (by omega)]
   exact this
  ·cases hx
theorem zG0{xs:List AV}{cs:Array Value}{off:Nat}{x:AV}(hs:cs.size=xs.length)(hr: ∀(i:Nat) x,xs[i]? =some x->Rep imm σ x (cs.getD i undef))
 (ht:(isAgg t).run P w=.ok false w) (hx:(xs.drop off).take (P.cellsOf t)=[x]): ∃u,(part t cs off).run P w=.ok u w∧Rep imm σ x u:=by
 have h0:xs[off]? =some x:=by
  have:=congrArg (fun l=>l[0]?) hx
  simp only[List.getElem?_take,List.getElem?_drop] at this
  split at this
  ·simpa using this
  ·simp at this
 have hlt:off<cs.size:=by rw[hs];exact(zq1 h0).1
 refine⟨cs[off],?_,?_⟩
 ·simp[part,ht,zqe hlt]
 ·have:=hr off x h0
  rw[zq6,zqe hlt] at this
  exact this
theorem eqFs_ok{P:Program}{e:Field->Option Bool}{D:Nat}{us vs:Array Value}{w:World}(he: ∀f b,e f=some b->∃u v,(part f.type us f.offset).run P w=.ok u w∧(part f.type vs f.offset).run P w=.ok v w∧(Op.equalIn D f.type u v).run P w=.ok b w):
 ∀(fs:List Field)(b:Bool),eqFs e fs=some b->(Op.eqFields D us vs fs).run P w=.ok b w
 |[],b,h=>by cases h;rfl
 |[f],b,h=>by
  unfold eqFs at h
  split at h
  ·cases h
  ·rename_i hn
   obtain⟨u,v,h1,h2,h3⟩:=he f b h
   unfold Op.eqFields
   rw[if_pos hn]
   simp only[Sem.run_bind,h1,h2,h3,Result.andThen_ok]
   cases b<;>simp[Op.eqFields]
 |f::g::l,b,h=>by
  unfold eqFs at h
  split at h
  ·cases h
  ·rename_i hn
   split at h
   ·rename_i a c ha hc
    cases h
    obtain⟨u,v,h1,h2,h3⟩:=he f a ha
    have h4:=eqFs_ok he (g::l) c hc
    unfold Op.eqFields
    rw[if_pos hn]
    simp only[Sem.run_bind,h1,h2,h3,Result.andThen_ok]
    cases a
    ·simp
    ·simpa using h4
   ·cases h
theorem eqTy_ok: ∀(d:Nat)(t:TypeId)(xs ys:List AV)(b:Bool),eqTy P d t xs ys=some b->∀(D:Nat)(u v:Value),d<=D->IsV P imm σ t xs u->IsV P imm σ t ys v->(Op.equalIn D t u v).run P w=.ok b w:=by
 intro d
 induction d with
 |zero=>intro t xs ys b h;cases h
 |succ d ih=>
  intro t xs ys b h D u v hD hu hv
  obtain⟨D,rfl⟩: ∃n,D=n+1:=⟨D-1,by omega⟩
  unfold eqTy at h
  unfold IsV at hu hv
  split at h
  ·rename_i k ht
   simp only[ht] at hu hv
   split at h
   ·split at h
    ·rename_i hk
     cases h
     subst hk
     obtain⟨x,hx,h1⟩:=hu
     obtain⟨y,hy,h2⟩:=hv
     simp only[List.cons.injEq,and_true] at hx hy
     subst hx;subst hy
     cases h1;cases h2
     rw[run_equalIn_int w D t _ k _ _ ht]
     simp[eqI,BEq.beq]
    ·cases h
   ·cases h
  ·rename_i ht
   simp only[ht] at hu hv
   split at h
   ·cases h
    obtain⟨x,hx,h1⟩:=hu
    obtain⟨y,hy,h2⟩:=hv
    simp only[List.cons.injEq,and_true] at hx hy
    subst hx;subst hy
    cases h1;cases h2
    rw[run_equalIn_bool' w D t _ _ ht]
    rfl
   ·cases h
  ·rename_i ht
   simp only[ht] at hu hv
   split at h
   ·cases h
    obtain⟨x,hx,h1⟩:=hu
    obtain⟨y,hy,h2⟩:=hv
    simp only[List.cons.injEq,and_true] at hx hy
    subst hx;subst hy
    cases h1 with|str s _ e1 _=>
    cases h2 with|str s' _ e2 _=>
    rw[run_equalIn_string w D t _ _ ht]
    subst e1;subst e2
    simp only[eqS,ByteArray.toList_eq]
    rw[Result.ok.injEq]
    refine⟨?_,rfl⟩
    rw[Bool.eq_iff_iff];simp
   ·cases h
  ·rename_i fs ht
   split at h
   ·cases h
   ·rename_i hst
    simp only[ht] at hu hv
    obtain⟨us,rfl,s1,r1⟩:=hu
    obtain⟨vs,rfl,s2,r2⟩:=hv
    have hfo:P.fieldsOf t=fs:=by simp[Program.fieldsOf,ht]
    rw[run_equalIn_struct w D t us vs (by rw[hfo];exact ht) (by simpa using hst),hfo]
    refine eqFs_ok (fun f c hc=>?_) fs.toList b h
    have scalar: ∀x y:AV,(isAgg f.type).run P w=.ok false w->(∀xs u,IsV P imm σ f.type xs u↔∃x,xs=[x]∧Rep imm σ x u)->(xs.drop f.offset).take (P.cellsOf f.type)=[x]->(ys.drop f.offset).take (P.cellsOf f.type)=[y]->
     ∃u v,(part f.type us f.offset).run P w=.ok u w∧(part f.type vs f.offset).run P w=.ok v w∧(Op.equalIn D f.type u v).run P w=.ok c w:=fun x y ha hiv hx hy=>by
     obtain⟨u,u1,u2⟩:=zG0 s1 r1 ha hx
     obtain⟨v,v1,v2⟩:=zG0 s2 r2 ha hy
     exact⟨u,v,u1,v1,ih f.type _ _ c hc D u v (by omega) ((hiv _ _).2 ⟨x,hx,u2⟩) ((hiv _ _).2 ⟨y,hy,v2⟩)⟩
    cases d with
    |zero=>cases hc
    |succ d=>
     have hc':=hc
     unfold eqTy at hc'
     split at hc'
     ·rename_i k hft
      split at hc'
      ·rename_i hx hy
       exact scalar _ _ (by simp[isAgg,underlying,hft]) (fun xs u=>by simp[IsV,hft]) hx hy
      ·cases hc'
     ·rename_i hft
      split at hc'
      ·rename_i hx hy
       exact scalar _ _ (by simp[isAgg,underlying,hft]) (fun xs u=>by simp[IsV,hft]) hx hy
      ·cases hc'
     ·rename_i hft
      split at hc'
      ·rename_i hx hy
       exact scalar _ _ (by simp[isAgg,underlying,hft]) (fun xs u=>by simp[IsV,hft]) hx hy
      ·cases hc'
     ·rename_i gs hft
      obtain⟨u,u1,u2⟩:=zJF s1 r1 hft w (off:=f.offset)
      obtain⟨v,v1,v2⟩:=zJF s2 r2 hft w (off:=f.offset)
      exact⟨u,v,u1,v1,ih f.type _ _ c hc D u v (by omega) u2 v2⟩
     ·cases hc'
  ·cases h
theorem zHZ(hu:P.underlying t=some .bool)(d:Nat)(a b:Bool)(w:World):
 (Op.equalIn (d+1) t (.bool a) (.bool b)).run P w=.ok (a==b) w:=by
 simp[Op.equalIn,underlying,hu]
theorem zKv(P:Program)(op:BinOp)(t:TypeId)(p q:Operand)(k k':IntKind)(a b:Int)(w:World):(eqGuard op t p q (.int k a) (.int k' b)).run P w=.ok () w:=by
 unfold eqGuard;split<;>simp
theorem zKu(P:Program)(op:BinOp)(t:TypeId)(p q:Operand)(a b:ByteArray)(w:World):(eqGuard op t p q (.string a) (.string b)).run P w=.ok () w:=by
 unfold eqGuard;split<;>simp
theorem zHa(P:Program)(op:BinOp)(t:TypeId)(p q:Operand)(a b:Bool)(w:World):(eqGuard op t p q (.bool a) (.bool b)).run P w=.ok () w:=by
 unfold eqGuard;split<;>simp
theorem run_bin_int{op:BinOp}{a b:Int}{z:AV}{side:Prop}(h:intV op k a b=some (side,z))(hs:side)(w:World):
 ∃r,(binOp op t (.int k a) (.int k b)).run P w=.ok r w∧(∀imm σ,Rep imm σ z r)∧z.owns=false:=by
 cases op<;>simp only[intV,cmpV,Option.map_some,Option.some.injEq,Prod.mk.injEq,reduceCtorEq] at h
 all_goals obtain⟨rfl,rfl⟩:=h
 case add=>exact⟨.int k (a+b),by simp[binOp,Op.intArith,zJB hs],fun _ _=>.int _ _ hs,rfl⟩
 case sub=>exact⟨.int k (a-b),by simp[binOp,Op.intArith,zJB hs],fun _ _=>.int _ _ hs,rfl⟩
 case mul=>exact⟨.int k (a*b),by simp[binOp,Op.intArith,zJB hs],fun _ _=>.int _ _ hs,rfl⟩
 case quo=>exact⟨.int k (a.tdiv b),by simp[binOp,Op.intDiv,hs.1,zJB hs.2],fun _ _=>.int _ _ hs.2,rfl⟩
 case rem=>exact⟨.int k (a.tmod b),by simp[binOp,Op.intDiv,hs.1],fun _ _=>.int _ _ hs.2,rfl⟩
 case and=>exact⟨.int k (andI k a b),by simp[binOp,Op.intBits,andI],fun _ _=>.int _ _ (inR_wrap _ _),rfl⟩
 case eql=>exact⟨.bool (eqI a b),by simp[eqI,ltI,leI,binOp,Op.intCmp,BEq.beq],fun _ _=>.bool _,rfl⟩
 case neq=>exact⟨.bool (!eqI a b),by simp[eqI,ltI,leI,binOp,Op.intCmp,bne,BEq.beq],fun _ _=>.bool _,rfl⟩
 case lss=>exact⟨.bool (ltI a b),by simp[eqI,ltI,leI,binOp,Op.intCmp],fun _ _=>.bool _,rfl⟩
 case leq=>exact⟨.bool (leI a b),by simp[eqI,ltI,leI,binOp,Op.intCmp],fun _ _=>.bool _,rfl⟩
 case gtr=>exact⟨.bool (ltI b a),by simp[eqI,ltI,leI,binOp,Op.intCmp],fun _ _=>.bool _,rfl⟩
 case geq=>exact⟨.bool (leI b a),by simp[eqI,ltI,leI,binOp,Op.intCmp],fun _ _=>.bool _,rfl⟩
theorem zDs(s:ByteArray):s.size=s.data.toList.length:=by
 show s.data.size=_;simp
theorem beq_dec(a b:List UInt8):(a==b)=decide (a=b):=by rw[Bool.eq_iff_iff];simp
theorem run_bin_str{op:BinOp}{a b:ByteArray}{z:AV}{side:Prop}(h:strV op a.data.toList b.data.toList=some (side,z))(hs:side)(w:World):
 ∃r,(binOp op t (.string a) (.string b)).run P w=.ok r w∧(∀imm σ,Rep imm σ z r)∧z.owns=false:=by
 cases op<;>simp only[strV,Option.some.injEq,Prod.mk.injEq,reduceCtorEq] at h
 all_goals obtain⟨rfl,rfl⟩:=h
 case add=>
  unfold Short at hs
  have h1: ¬((a.size+b.size:Nat):Int)>IntKind.i64.max:=by
   have:IntKind.i64.max=9223372036854775807:=rfl
   rw[this,zDs,zDs];omega
  exact⟨.string (a++b),by simp only[binOp,Op.stringOp,if_neg h1,Sem.run_pure],fun _ _=>.str _ _ (by simp) (by rw[List.length_append];exact hs),rfl⟩
 case eql=>exact⟨.bool (eqS a.data.toList b.data.toList),by simp only[eqS,binOp,Op.stringOp,Sem.run_pure,ByteArray.toList_eq,beq_dec],fun _ _=>.bool _,rfl⟩
 case neq=>exact⟨.bool (!eqS a.data.toList b.data.toList),by simp only[eqS,binOp,Op.stringOp,Sem.run_pure,ByteArray.toList_eq,beq_dec],fun _ _=>.bool _,rfl⟩
 case lss=>exact⟨.bool (ltS a.data.toList b.data.toList),by simp only[ltS,binOp,Op.stringOp,Sem.run_pure,ByteArray.toList_eq],fun _ _=>.bool _,rfl⟩
 case leq=>exact⟨.bool (ltS a.data.toList b.data.toList||eqS a.data.toList b.data.toList),by simp only[eqS,ltS,binOp,Op.stringOp,Sem.run_pure,ByteArray.toList_eq,beq_dec],fun _ _=>.bool _,rfl⟩
 case gtr=>exact⟨.bool (!(ltS a.data.toList b.data.toList||eqS a.data.toList b.data.toList)),by simp only[eqS,ltS,binOp,Op.stringOp,Sem.run_pure,ByteArray.toList_eq,beq_dec],fun _ _=>.bool _,rfl⟩
 case geq=>exact⟨.bool (!ltS a.data.toList b.data.toList),by simp only[ltS,binOp,Op.stringOp,Sem.run_pure,ByteArray.toList_eq],fun _ _=>.bool _,rfl⟩
theorem run_binV{op:BinOp}{x y z:AV}{side:Prop}(h:binV P op t x y=some (side,z))(hs:side)
 {u v:Value} (hx:Rep imm σ x u) (hy:Rep imm σ y v) (p q:Operand) (w:World):
 ∃r,(do eqGuard op t p q u v;binOp op t u v:Sem Value).run P w=.ok r w∧Rep imm σ z r∧z.owns=false:=by
 unfold binV at h
 split at h
 ·rename_i k a k' b
  cases hx;cases hy
  split at h
  ·rename_i hk;subst hk
   obtain⟨r,h1,h2,h3⟩:=run_bin_int (P:=P) (t:=t) h hs w
   exact⟨r,by simp only[Sem.run_bind,zKv,Result.andThen_ok,h1],h2 _ _,h3⟩
  ·cases h
 ·rename_i a b
  cases hx with|str s _ h1 _=>
  cases hy with|str s' _ h2 _=>
  subst h1;subst h2
  obtain⟨r,h1,h2,h3⟩:=run_bin_str (P:=P) (t:=t) h hs w
  exact⟨r,by simp only[Sem.run_bind,zKu,Result.andThen_ok,h1],h2 _ _,h3⟩
 ·rename_i a b
  cases hx;cases hy
  split at h
  ·rename_i hu
   cases h
   exact⟨.bool (eqB a b),by unfold eqB;simp only[Sem.run_bind,zHa,Result.andThen_ok,binOp];simp[Op.equal,Op.maxDepth,zHZ hu 9999 a b w],.bool _,rfl⟩
  ·rename_i hu
   cases h
   exact⟨.bool (!eqB a b),by unfold eqB;simp only[Sem.run_bind,zHa,Result.andThen_ok,binOp];simp[Op.equal,Op.maxDepth,zHZ hu 9999 a b w],.bool _,rfl⟩
  ·cases h
 ·rename_i xs ys
  split at h
  ·cases h
  ·rename_i hg
   have hg':P.eqGuardType P.depth t=false:=by simpa using hg
   cases hx with|agg _ us s1 r1=>
   cases hy with|agg _ vs s2 r2=>
   have key: ∀b fs,P.underlying t=some (.struct fs)->eqTy P 10 t xs ys=some b->(Op.equalIn 10000 t (.agg us) (.agg vs)).run P w=.ok b w:=fun b fs hst hb=>by
    refine eqTy_ok (imm:=imm) (σ:=σ) 10 t xs ys b hb 10000 _ _ (by omega) ?_ ?_
    ·unfold IsV;rw[hst];exact⟨us,rfl,s1,r1⟩
    ·unfold IsV;rw[hst];exact⟨vs,rfl,s2,r2⟩
   split at h
   ·rename_i fs b hst hb
    cases h
    exact⟨.bool b,by simp only[Sem.run_bind,run_eqGuard_agg w .eql t p q us vs hg',Result.andThen_ok,run_eql_struct,key b fs hst hb],.bool _,rfl⟩
   ·rename_i fs b hst hb
    cases h
    exact⟨.bool (!b),by simp only[Sem.run_bind,run_eqGuard_agg w .neq t p q us vs hg',Result.andThen_ok,run_neq_struct,key b fs hst hb],.bool _,rfl⟩
   ·cases h
 ·cases h
def resBin(P:Program)(s:AState)(op:BinOp)(t:TypeId)(x y:Operand):Option Res:=
 match binV P op t (s.look x) (s.look y) with
 |some (side,v)=>some ⟨side,v,none,s⟩
 |none=>none
theorem ok_bin(P:Program)(o:Oper)(s:AState)(op:BinOp)(t t':TypeId)(x y:Operand)(ho:o.op=.binOp op t x y t')(r:Res)(hr:resBin P s op t x y=some r)(hs:r.side):OpOk P o s r:=by
 unfold resBin at hr
 split at hr
 case h_2=>cases hr
 rename_i side v hv
 cases hr
 intro F g a w h
 obtain⟨u,h1,h2,h3⟩:=run_binV hv hs (zAT h x) (zAT h y) x y w
 refine⟨u,w,g,none,.inl ?_,h,h2,OwnsBy.of_not h3,Floating.none,fun p hp=>by cases hp⟩
 simp only[execOp,ho,Sem.run_bind] at h1 ⊢
 simp only[h1,Result.andThen_ok,Sem.run_pure]
def resUn(s:AState)(op:UnOp)(x:Operand):Option Res:=
 match op,s.look x with
 |.not,.bool b=>some ⟨True,.bool !b,none,s⟩
 |.neg,.int k n=>some ⟨Rng k (-n),.int k (-n),none,s⟩
 |_,_=>none
theorem zFK(h:Sim F g s a w){n:Int}(hx:s.look x=.int k n):a.eval x=.int k n:=by
 have:=zAT h x;rw[hx] at this;cases hv:a.eval x<;>rw[hv] at this<;>cases this;rfl
theorem eval_bool(h:Sim F g s a w){b:Bool}(hx:s.look x=.bool b):a.eval x=.bool b:=by
 have:=zAT h x;rw[hx] at this;cases hv:a.eval x<;>rw[hv] at this<;>cases this;rfl
theorem zIj(h:Sim F g s a w){l:List UInt8}(hx:s.look x=.str l): ∃b:ByteArray,a.eval x=.string b∧b.data.toList=l∧l.length<=1152921504606846976:=by
 have:=zAT h x;rw[hx] at this
 cases hv:a.eval x<;>rw[hv] at this<;>cases this
 exact⟨_,rfl,by assumption,by assumption⟩
theorem zLJ{n:Int}(h:Rep imm σ (.int k n) v):inR k n:=by cases h;assumption
theorem ok_un(P:Program)(o:Oper)(s:AState)(op:UnOp)(t:TypeId)(x:Operand)(ho:o.op=.unOp op t x)(r:Res)(hr:resUn s op x=some r)(hs:r.side):OpOk P o s r:=by
 unfold resUn at hr
 split at hr
 ·rename_i b hx
  cases hr
  exact .same rfl fun F g a w h=>⟨.bool !b,by simp[execOp,ho,eval_bool h hx,Op.unary],.bool _,fun p hp=>by cases hp⟩
 ·rename_i k n hx
  cases hr
  have h0:(0:Int)-n= -n:=by omega
  exact .same rfl fun F g a w h=>⟨.int k (-n),by simp[execOp,ho,zFK h hx,Op.unary,Op.intArith,h0,zJB hs],.int _ _ hs,fun p hp=>by cases hp⟩
 ·cases hr
theorem shape_lt{k:Nat}{sh:TypeId×Nat}(h:zI0 w k=some sh):k<w.heap.size:=by
 rcases Nat.lt_or_ge k w.heap.size with h'|h'
 ·exact h'
 ·unfold zI0 at h;simp[Array.getElem?_eq_none h'] at h
theorem zGg{w w':World}{k:Nat}{sh:TypeId×Nat}(h:w'.heap[k]? =w.heap[k]?)(hs:zI0 w k=some sh):zI0 w' k=some sh:=by
 unfold zI0 at hs ⊢;rw[h];exact hs
theorem Sim.grow{w w':World}(h:Sim F g s a w){imm':Addr->Option Value}(h2: ∀x v,g.imm x=some v->imm' x=some v)
 (h3: ∀x v,imm' x=some v->w'.cell? x=some v) (h4:RowKit.Below w.heap.size w w') (h5: ∀x v,imm' x=some v->g.imm x=some v∨w.heap.size<=x.block):
 Sim F {g with imm:=imm'} s a w':=by
 have hkeep: ∀k,k<w.heap.size->w'.heap[k]? =w.heap[k]? :=h4.block
 have hsp: ∀(y:Addr) lo hi,Spare g.imm w y lo hi->Spare imm' w' y lo hi:=fun y lo hi hsp j hj1 hj2=>by
  obtain⟨p1,⟨u,hu⟩,p3⟩:=hsp j hj1 hj2
  have hlt:=World.block_lt_of_cell? _ _ hu
  have hk2:=hkeep _ hlt
  refine⟨?_,⟨u,by rw[World.cell?_of_block hk2];exact hu⟩,by rw[World.frozen?_of_block hk2];exact p3⟩
  cases hn:imm' (y.add j) with
  |none=>rfl
  |some z=>
   rcases h5 _ z hn with h6|h6
   ·rw[p1] at h6;cases h6
   ·omega
 exact {
  ext:={
   gfx:=h.ext.gfx
   imm:=fun x v hx=>h2 x v (h.ext.imm x v hx)
   immNew:=fun x v hx=>by
    rcases h5 x v hx with h6|h6
    ·exact h.ext.immNew x v h6
    ·exact .inr (.inl (Nat.le_trans h.ext.size h6))
   σ:=h.ext.σ
   mineσ:=h.ext.mineσ
   mineOwn:=h.ext.mineOwn
   keep:=fun k hk hT=>by
    have:=h.ext.size
    rw[hkeep k (by omega)];exact h.ext.keep k hk hT
   size:=Nat.le_trans h.ext.size h4.size
   os:=h4.os.trans h.ext.os
   tape:=h4.tape.trans h.ext.tape
   output:=h4.output.trans h.ext.output}
  sto:={
   gok:=h.sto.gok.mono h2
   imm:=h3
   immσ:=fun x v hx hm=>by
    rcases h5 x v hx with h6|h6
    ·exact h.sto.immσ x v h6 hm
    ·have:=h.sto.σ_lt hm;omega
   len:=h.sto.len
   nodup:=h.sto.nodup
   blk:=fun i b k hb hk=>by
    obtain⟨c,ty,e1,e2,e3⟩:=h.sto.blk i b k hb hk
    exact⟨c,ty,by rw[hkeep k (h.sto.σ_lt (zq3 hk))];exact e1,e2,fun j x hx=>⟨(e3 j x hx).1,(e3 j x hx).2.1.mono h2 (fun _ _ h=>h),(e3 j x hx).2.2.world (fun y lo hi _ hs=>hsp y lo hi hs) (fun k sh _ hsh=>zGg (hkeep k (shape_lt hsh)) hsh) h2 (fun k es c _ hk=>by rw[hkeep k (lt_of_getElem? hk)];exact hk)⟩⟩
   ownσ:=fun p k hk=>⟨(h.sto.ownσ p k hk).1,Nat.lt_of_lt_of_le (h.sto.ownσ p k hk).2 h4.size⟩
   ownInj:=h.sto.ownInj}
  size:=h.size
  tmps:=fun t=>⟨(h.tmps t).1.mono h2 (fun _ _ h=>h),(h.tmps t).2.world (fun y lo hi _ hs=>hsp y lo hi hs) (fun k sh _ hsh=>zGg (hkeep k (shape_lt hsh)) hsh) h2 (fun k es c _ hk=>by rw[hkeep k (lt_of_getElem? hk)];exact hk)⟩
  loans:=fun t p hp=>by
   have:=h.loans t p hp
   cases p with
   |tmp u=>exact this
   |cell b o=>
    obtain⟨k,hk,hv⟩:=this
    exact⟨k,hk,by rw[World.cell?_of_block (w:=w) (hkeep k (h.sto.σ_lt (zq3 hk)))];exact hv⟩
  defers:=h.defers
  base:=h.base}
@[simp] def cU(c:UInt8):List AV:=[.int .u8 c.toNat]
def unU(l:List (List AV)):List UInt8:=l.map fun e=>match e with|[.int _ n]=>UInt8.ofNat n.toNat|_=>0
def zKB(P:Program)(s:AState)(src dst:TypeId)(x:Operand):Option Res:=
 match P.underlying src,P.underlying dst,s.look x with
 |some _,some (.int k),.int k' n=>some ⟨k=k'∨Rng k n,.int k n,none,s⟩
 |some _,some .string,.str l=>some ⟨True,.str l,none,s⟩
 |some .string,some (.slice e),.str l=>match P.underlying e with
  |some (.int .u8)=>some ⟨l.length<=281474976710656,.sl (l.map cU),none,s⟩
  |_=>none
 |some (.slice e),some .string,v=>match P.underlying e,elems v with
  |some (.int .u8),some l=>some ⟨l=(unU l).map cU,.str (unU l),none,s⟩
  |_,_=>none
 |_,_,_=>none
theorem ok_conv(P:Program)(o:Oper)(s:AState)(src dst:TypeId)(x:Operand)(ho:o.op=.convert src dst x)(r:Res)(hr:zKB P s src dst x=some r)(hs:r.side):OpOk P o s r:=by
 unfold zKB at hr
 split at hr
 ·rename_i d k k' n h1 h2 hx
  cases hr
  refine .same rfl fun F g a w h=>?_
  have hk:inR k n:=by
   rcases hs with e|hs
   ·subst e;exact zLJ (by have:=zAT h x;rwa [hx] at this)
   ·exact hs
  exact⟨.int k n,by simp[execOp,ho,zFK h hx,convert,underlying,h1,h2,Conv.intToInt,zJB hk],.int _ _ hk,fun p hp=>by cases hp⟩
 ·rename_i d l h1 h2 hx
  cases hr
  refine .same rfl fun F g a w h=>?_
  obtain⟨b,hb,hl,hl2⟩:=zIj h hx
  exact⟨.string b,by simp[execOp,ho,hb,convert,underlying,h1,h2],.str _ _ hl hl2,fun p hp=>by cases hp⟩
 ·rename_i e l h1 h2 hx
  split at hr
  case h_2=>cases hr
  rename_i he
  cases hr
  intro F g a w h
  obtain⟨b,hb,hl,hl2⟩:=zIj h hx
  have hrun:=run_bytes_of_string (P:=P) w src dst e b h1 h2 he
  have hbs:b.size=l.length:=by rw[zDs,hl]
  have hge:b.size<=grownCap w b.size 0 e:=(grownCap_ge w b.size 0 e)
  generalize grownCap w b.size 0 e=cp at hrun hge
  generalize hC:bytesRow b cp=C at hrun
  have hCj: ∀j,j<b.size->C[j]? =some (.int .u8 ((l[j]?).getD 0).toNat):=fun j hj=>by
   rw[<-hC,bytesRow,Array.getElem?_append_left (by rw[Array.size_map];exact hj),Array.getElem?_map,<-Array.getElem?_toList,hl]
   rw[zq2 (by omega)]
   rfl
  have hCs:b.size<=C.size:=by rw[<-hC,bytesRow,Array.size_append,Array.size_map];exact Nat.le_add_right _ _
  let imm':Addr->Option Value:=fun q=>if q.block=w.heap.size then (if q.spot=none∧q.off<b.size then C[q.off]? else none) else g.imm q
  have hold: ∀q v,g.imm q=some v->imm' q=some v:=fun q v hq=>by
   have:=h.sto.imm_lt hq
   show(if q.block=w.heap.size then _ else g.imm q)=some v
   rw[if_neg (by omega)];exact hq
  have hnew: ∀q v,imm' q=some v->g.imm q=some v∨(q.block=w.heap.size∧q.spot=none∧C[q.off]? =some v):=fun q v hq=>by
   dsimp only[imm'] at hq
   split at hq
   ·split at hq
    ·rename_i q1 q2;exact .inr ⟨q1,q2.1,hq⟩
    ·cases hq
   ·exact .inl hq
  have hbel:RowKit.Below w.heap.size w (w.drew.alloc (.cells C e (C.size,C.size+1))):=(RowKit.Below.alloc (RowKit.Below.drew (RowKit.Below.refl _ _)) (Nat.le_refl _) _)
  have hsim:=h.grow (w':=w.drew.alloc (.cells C e (C.size,C.size+1))) (imm':=imm') hold (fun q v hq=>by
   rcases hnew q v hq with hq|⟨q1,q2,q3⟩
   ·have:=h.sto.imm_lt hq
    rw[World.cell?_alloc_lt _ _ _ (show q.block<w.drew.heap.size from this)]
    exact h.sto.imm q v hq
   ·obtain⟨bk,of,sp⟩:=q
    simp only at q1 q2 q3
    subst q1;subst q2
    rw[<-q3]
    exact World.cell?_alloc_mark w.drew C e _ of) hbel (fun q v hq=>by
   rcases hnew q v hq with hq|⟨q1,_⟩
   ·exact .inl hq
   ·exact .inr (by omega))
  refine⟨.slice (some ⟨w.heap.size,0,none⟩) b.size cp,_,_,none,.inl ?_,hsim,?_,OwnsBy.of_not rfl,Floating.none,fun p hp=>by cases hp⟩
  ·simp only[execOp,ho,hb,Sem.run_bind,hrun,Result.andThen_ok,Sem.run_pure]
  ·refine .sl 1 _ _ _ _ (fun i _=>.int .u8 ((l[i]?).getD 0).toNat) (by simp[hbs]) hge (by rw[hbs];exact hs) ?_ ?_ ?_
   ·intro i el hel
    obtain⟨z,_,rfl⟩:=getElem?_map_some hel
    rfl
   ·intro i el hel j y hy
    obtain⟨z,hz,rfl⟩:=getElem?_map_some hel
    have hj:j=0:=by
     rcases j with _|j
     ·rfl
     ·simp at hy
    subst hj
    have hi:i<b.size:=by rw[hbs];exact(zq1 hz).1
    rw[zI8]
    show(if w.heap.size=w.heap.size then (if (none:Option _)=none∧i*1+0<b.size then C[i*1+0]? else none) else _)=_
    rw[if_pos rfl,if_pos ⟨rfl,by omega⟩,show i*1+0=i by omega,hCj i hi]
   ·intro i el hel j y hy
    obtain⟨z,hz,rfl⟩:=getElem?_map_some hel
    have hy':y=.int .u8 z.toNat:=by
     rcases j with _|j
     ·simpa using hy.symm
     ·simp at hy
    subst hy'
    simp only[hz,Option.getD_some]
    exact .int _ _ (by have:=z.toNat_lt;simp only[inR];omega)
 ·rename_i e h1 h2 hno
  split at hr
  case h_2=>cases hr
  rename_i l he hl
  cases hr
  refine .same rfl fun F g a w h=>?_
  obtain⟨base,cap,hv,hcap,hbd,hels⟩:=zG5 (zAT h x) hl
  generalize hu:unU l=u at hs
  have hs':l=u.map cU:=hs
  have hul:u.length=l.length:=by rw[hs'];simp
  refine⟨.string ⟨u.toArray⟩,?_,.str _ _ (by simp) (by omega),fun p hp=>by cases hp⟩
  cases base with
  |none=>
   have hnil:l=[]:=by
    cases hc:l with
    |nil=>rfl
    |cons y ys=>
     obtain⟨_,_,_,h5,_⟩:=hels 0 y (by rw[hc];rfl)
     cases h5
   have hu0:u=[]:=List.length_eq_zero_iff.1 (by rw[hul,hnil];rfl)
   subst hu0
   have hrun:(convert src dst (.slice none l.length cap)).run P w=.ok (.string ⟨#[]⟩) w:=by
    rw[run_convert_bytes_string w src dst e none _ _ h1 he h2];rfl
   simp only[execOp,ho,hv,Sem.run_bind,hrun,Result.andThen_ok,Sem.run_pure]
  |some b=>
   have hrun:=run_convert_bytes_back (P:=P) w src dst e b cap u h1 he h2 (fun j hj=>by
    have hlj:l[j]? =some (cU u[j]):=by rw[hs',List.getElem?_map,zq2 hj];rfl
    obtain⟨b',ec,vs,h5,h6,h7⟩:=hels _ _ hlj
    cases h5
    have h8:=h7 0 (.int .u8 (u[j]).toNat) (show(cU u[j])[0]? =some (.int .u8 (u[j]).toNat) from rfl)
    have hec:ec=1:=h6.symm
    rw[hec,Nat.mul_one,Nat.add_zero] at h8
    have h9:=h.sto.imm _ _ h8.1
    rw[h9]
    have h10:=h8.2
    generalize vs 0=q at h10
    cases h10;rfl)
   rw[hul] at hrun
   simp only[execOp,ho,hv,Sem.run_bind,hrun,Result.andThen_ok,Sem.run_pure]
 ·cases hr
def zIR(P:Program)(s:AState)(t:TypeId)(x ix:Operand):Option Res:=
 match P.underlying t,s.look x,s.look ix with
 |some .string,.str l,.int _ n=>match l[n.toNat]? with
  |some c=>some ⟨0<=n,.int .u8 c.toNat,none,s⟩
  |none=>none
 |some (.array m e),.agg cs,.int _ n=>match zKa P e,P.info? e,cs[n.toNat]? with
  |some false,some j,some c=>some ⟨0<=n∧cs.length=m∧j.size=1∧c.owns=false,c,none,s⟩
  |_,_,_=>none
 |_,_,_=>none
theorem getElem?_bytes(s:ByteArray)(n:Nat):s[n]? =s.data.toList[n]? :=by
 by_cases h:n<s.size
 ·rw[ByteArray.getElem?_lt' s n h,zq2 (by rw[<-zDs];exact h)];rfl
 ·rw[ByteArray.getElem?_ge' s n h,List.getElem?_eq_none (by rw[<-zDs];omega)]
theorem ok_index(P:Program)(o:Oper)(s:AState)(t:TypeId)(x ix:Operand)(ho:o.op=.index t x ix)(r:Res)(hr:zIR P s t x ix=some r)(hs:r.side):OpOk P o s r:=by
 unfold zIR at hr
 split at hr
 ·rename_i l k n hu hx hi
  split at hr
  case h_2=>cases hr
  rename_i c hc
  cases hr
  refine .same rfl fun F g a w h=>?_
  obtain⟨b,hb,hl,_⟩:=zIj h hx
  have hs':0<=n:=hs
  refine⟨.int .u8 c.toNat,?_,.int _ _ (by unfold inR;have:=c.toNat_lt;simp only;omega),fun p hp=>by cases hp⟩
  have hg:b[n.toNat]? =some c:=by rw[getElem?_bytes,hl];exact hc
  simp[execOp,ho,hb,zFK h hi,Instr.index,asIntOf,underlying,hu,hs',hg]
 ·rename_i m e cs k n hu hx hi
  split at hr
  case h_2=>cases hr
  rename_i j c hb hj hc
  cases hr
  obtain⟨h0,hm,hsz,how⟩:=hs
  refine .same how fun F g a w h=>?_
  obtain⟨vs,hv,hvs,hvr⟩: ∃vs,a.eval x=.agg vs∧vs.size=cs.length∧∀(i:Nat)(y:AV),cs[i]? =some y->Rep g.imm g.σ y (vs.getD i undef):=by
   have hr:=zAT h x
   rw[hx] at hr
   generalize a.eval x=u at hr
   cases hr with
   |agg _ vs h1 h2=>exact⟨vs,rfl,h1,h2⟩
  have hlt:n.toNat<vs.size:=by rw[hvs];exact(zq1 hc).1
  have hn:n<(m:Int):=by rw[<-hm];omega
  refine⟨vs.getD n.toNat undef,?_,hvr _ _ hc,fun p hp=>by cases hp⟩
  have hpart:(part e vs (n.toNat*j.size)).run P w=.ok (vs.getD n.toNat undef) w:=by
   rw[hsz,Nat.mul_one]
   simp only[part,Sem.run_bind,zIz hb,Result.andThen_ok,Bool.false_eq_true,if_false,zqe hlt,Sem.run_pure,zq6,Option.getD_some,Sem.run_ite]
  simp only[execOp,ho,hv,zFK h hi,Instr.index,asIntOf,underlying,Sem.run_bind,run_program,Result.andThen_ok,Sem.run_pure,hu,sizeOf,typeInfo,hj]
  rw[Sem.run_ite,if_pos ⟨h0,hn⟩]
  simp only[Sem.run_bind,run_program,Result.andThen_ok,hj,Sem.run_pure,hpart]
 ·cases hr
def zIS(P:Program)(s:AState)(t:TypeId)(x:Operand):Option Res:=
 match P.underlying t with
 |some (.interface _)=>none
 |some _=>some ⟨True,.iface t (s.look x).norm,none,s⟩
 |none=>none
theorem ok_iface(P:Program)(o:Oper)(s:AState)(t:TypeId)(x:Operand)(ho:o.op=.makeInterface t x)(r:Res)(hr:zIS P s t x=some r)(hs:r.side):OpOk P o s r:=by
 unfold zIS at hr
 split at hr
 ·cases hr
 ·rename_i d hu hd
  cases hr
  refine .same rfl fun F g a w h=>⟨.iface t (a.eval x),?_,.iface _ _ _ (zAT h x).norm,fun p hp=>by cases hp⟩
  simp only[execOp,ho,Instr.makeInterface,Sem.run_bind,underlying,run_program,Result.andThen_ok,hd,Sem.run_pure]
  all_goals (cases d<;>first|rfl|exact(hu _ rfl).elim)
 ·cases hr
def resFunc(s:AState)(f:Fn)(first captured:Array Operand):Res:=
 ⟨True,.fn f (first.toList.map s.look) (captured.toList.map s.look),none,s⟩
theorem zLl(h:Sim F g s a w)(xs:Array Operand):RepL g.imm g.σ (xs.toList.map s.look) (xs.map a.eval):=by
 refine⟨by simp,fun i x hx=>?_⟩
 obtain⟨y,hy,rfl⟩:=getElem?_map_some hx
 rw[Array.getElem?_toList] at hy
 rw[zq6,Array.getElem?_map,hy]
 exact zAT h y
theorem ok_func(P:Program)(o:Oper)(s:AState)(f:Fn)(first captured:Array Operand)(ho:o.op=.makeFunc f first captured):OpOk P o s (resFunc s f first captured):=
 .same rfl fun F g a w h=>⟨.func f (first.map a.eval) (captured.map a.eval),by simp[execOp,ho,Instr.makeFunc],
  .fn _ _ _ _ _ (zLl h first).1 (zLl h captured).1 (zLl h first).2 (zLl h captured).2,fun p hp=>by cases hp⟩
end Go.Abs
