/- CanonSteps holds: for every input the law returns true. No condition. Part 4 of 19. No condition. -/
import Derived.Test.YtkdhppfdiagglaaGreatDoorCSc
import Derived.Laws.MakeOwn
set_option linter.unusedVariables false
set_option linter.unnecessarySimpa false
set_option linter.unusedSimpArgs false
set_option maxRecDepth 100000
set_option maxHeartbeats 4000000
namespace Go.Abs
open Go
variable {P:Program} {ops:Array Oper} {imm:Addr->Option Value} {w:World} {B:List Nat} {a:Act} {o:Oper} {v:Value} {f:FuncId} {α:Type} {x:Operand} {σ:List Nat} {ρ:List Nat} {t:TypeId} {c:Code} {bo:Option Nat} {n:Nat} {i:Nat} {pins:List Nat} {fn:Func} {xs:List Operand} {k:IntKind} {id:Nat} {args:List AV} {l:List (List AV)} {res:AV} {m:Option Place} {s:AState} {Q:Exit->AState->Prop} {g:Gh} {F:Fx} {K:AState->Prop} {R:AV->AState->Prop} {r:Res}
def resLen(P:Program)(s:AState)(ts:Array TypeId)(x:Operand):Option Res:=
 match ts[0]? with
 |some t=>match P.underlying t,s.look x with
  |some .string,.str l=>some ⟨True,.int .i64 l.length,none,s⟩
  |some (.slice _),v=>match elems v with
   |some l=>some ⟨True,.int .i64 l.length,none,s⟩
   |none=>none
  |_,_=>none
 |none=>none
theorem ok_len(P:Program)(o:Oper)(s:AState)(ts:Array TypeId)(x:Operand)(ho:o.op=.call {callee:=.builtin .len,args:=#[x],argTypes:=ts})(r:Res)
 (hr:resLen P s ts x=some r) (hs:r.side):OpOk P o s r:=by
 unfold resLen at hr
 split at hr
 case h_2=>cases hr
 rename_i t h0
 split at hr
 ·rename_i l hu hx
  cases hr
  refine .same rfl fun F g a w h=>?_
  obtain⟨b,hb,hl,hbd⟩:=zIj h hx
  have hsz:b.size=l.length:=by rw[zDs,hl]
  exact⟨.int .i64 l.length,by simp[execOp,ho,resolve,invoke,builtin,Builtin.len_,h0,hb,underlying,hu,goInt,hsz],.int _ _ (by simp only[inR];omega),fun p hp=>by cases hp⟩
 ·rename_i e hu
  split at hr
  case h_2=>cases hr
  rename_i l hl
  cases hr
  refine .same rfl fun F g a w h=>?_
  obtain⟨base,cap,hv,_,hbd,_⟩:=zG5 (zAT h x) hl
  exact⟨.int .i64 l.length,by simp[execOp,ho,resolve,invoke,builtin,Builtin.len_,h0,hv,underlying,hu,goInt],.int _ _ (by simp only[inR];omega),fun p hp=>by cases hp⟩
 ·cases hr
def zIF(s:AState)(d:Int):Option Operand->Option Int
 |none=>some d
 |some x=>match s.look x with
  |.int _ n=>some n
  |_=>none
theorem run_bound(h:Sim F g s a w){n:Int}(hx:s.look x=.int k n){y:Nat}(code:BoundsCode)(h0:0<=n)(h1:n<=y):
 (Instr.sliceBound (a.eval x) y code).run P w=.ok n.toNat w:=by
 rw[zFK h hx];exact run_sliceBound w k n y code h0 h1
def InB(a b:Int)(n:Nat):Prop:=0<=a∧a<=b∧b<=n
def sub{α:Type}(l:List α)(a b:Int):List α:=(l.drop a.toNat).take (b.toNat-a.toNat)
def EL(n:Nat)(l:List (List AV)):Prop:= ∀e,e∈l->e.length=n
def zG2(P:Program)(s:AState)(t:TypeId)(x:Operand)(lo hi:Option Operand):Option Res:=
 match P.underlying t with
 |some .string=>match s.look x with
  |.str l=>match zIF s 0 lo,zIF s l.length hi with
   |some a,some b=>some ⟨InB a b l.length,.str (sub l a b),none,s⟩
   |_,_=>none
  |_=>none
 |some (.slice e)=>match elems (s.look x),P.info? e with
  |some l,some i=>match zIF s 0 lo,zIF s l.length hi with
   |some a,some b=>some ⟨InB a b l.length∧EL i.size l,.sl (sub l a b),none,s⟩
   |_,_=>none
  |_,_=>none
 |_=>none
theorem run_hi(h:Sim F g s a w){hi:Option Operand}{n m:Nat}{q:Int}(hq:zIF s n hi=some q)(h0:0<=q)(hm:q<=m)(code:BoundsCode):
 ((match hi.map a.eval with|some v=>Instr.sliceBound v m code|none=>pure n:Sem Nat)).run P w=.ok q.toNat w:=by
 cases hi with
 |none=>simp only[zIF,Option.some.injEq] at hq;subst hq;simp
 |some y=>
  simp only[zIF] at hq
  split at hq
  ·rename_i k n hn
   cases hq
   exact run_bound h hn code (by omega) (by omega)
  ·cases hq
theorem ok_slice(P:Program)(o:Oper)(s:AState)(t:TypeId)(x:Operand)(lo hi:Option Operand)(ho:o.op=.slice t x lo hi none)(r:Res)(hr:zG2 P s t x lo hi=some r)(hs:r.side):
 OpOk P o s r:=by
 unfold zG2 at hr
 split at hr
 ·rename_i hu
  split at hr
  case h_2=>cases hr
  rename_i l hx
  split at hr
  case h_2=>cases hr
  rename_i p q hp hq
  cases hr
  obtain⟨h0,h1,h2⟩:=hs
  refine .same rfl fun F g a w h=>?_
  obtain⟨b,hb,hl,hbd⟩:=zIj h hx
  have hsz:b.size=l.length:=by rw[zDs,hl]
  refine⟨.string (b.extract p.toNat q.toNat),?_,.str _ _ ?_ (by unfold sub;rw[List.length_take,List.length_drop];omega),fun p hp=>by cases hp⟩
  ·have hh:=fun code=>run_hi h (P:=P) hq (by omega) (m:=b.size) (by omega) code
   have hlo:=fun code=>run_hi h (P:=P) (n:=0) hp h0 (m:=q.toNat) (by omega) code
   rw[<-hsz] at hh
   simp only[execOp,ho,Instr.sliceAt,underlying,Sem.run_bind,run_program,Result.andThen_ok,hu,Sem.run_pure,Option.map_none,Instr.slice,hb,Instr.sliceBounds,Option.isSome_none,Bool.false_eq_true,if_false]
   cases hi with
   |none=>
    have:=hh .sliceAlen
    cases lo with
    |none=>have h3:=hlo .sliceB;simp_all
    |some y=>have h3:=hlo .sliceB;simp_all
   |some z=>
    have:=hh .sliceAlen
    cases lo with
    |none=>have h3:=hlo .sliceB;simp_all
    |some y=>have h3:=hlo .sliceB;simp_all
  ·rw[Lib.extract_data,hl];rfl
 ·rename_i e hu
  split at hr
  case h_2=>cases hr
  rename_i l i hl hi'
  split at hr
  case h_2=>cases hr
  rename_i p q hp hq
  cases hr
  obtain⟨⟨h0,h1,h2⟩,hel⟩:=hs
  refine .same rfl fun F g a w h=>?_
  obtain⟨base,cap,hv,hcap,hbd,hels⟩:=zG5 (zAT h x) hl
  refine⟨.slice (if cap=p.toNat then base else base.map (·.add (p.toNat*i.size))) (q.toNat-p.toNat) (cap-p.toNat),?_,?_,fun p hp=>by cases hp⟩
  ·have hh:=fun code=>run_hi h (P:=P) hq (by omega) (m:=cap) (by omega) code
   have hlo:=fun code=>run_hi h (P:=P) (n:=0) hp h0 (m:=q.toNat) (by omega) code
   simp only[execOp,ho,Instr.sliceAt,underlying,Sem.run_bind,run_program,Result.andThen_ok,hu,Sem.run_pure,Option.map_none,Instr.slice,hv,Instr.sliceBounds,Option.isSome_none,Bool.false_eq_true,if_false,sizeOf,typeInfo,hi',if_true]
   cases hi with
   |none=>
    have:=hh .sliceAcap
    cases lo with
    |none=>have h3:=hlo .sliceB;simp_all
    |some y=>have h3:=hlo .sliceB;simp_all
   |some z=>
    have:=hh .sliceAcap
    cases lo with
    |none=>have h3:=hlo .sliceB;simp_all
    |some y=>have h3:=hlo .sliceB;simp_all
  ·have hlen:(sub l p q).length=q.toNat-p.toNat:=by unfold sub;rw[List.length_take,List.length_drop];omega
   have hget: ∀(k:Nat) e,(sub l p q)[k]? =some e->k<q.toNat-p.toNat∧l[p.toNat+k]? =some e:=fun k e hk=>by
    have h3:=(zq1 hk).1
    rw[hlen] at h3
    unfold sub at hk
    rw[List.getElem?_take,if_pos h3,List.getElem?_drop] at hk
    exact⟨h3,hk⟩
   by_cases hcp:cap=p.toNat
   ·have hnil:sub l p q=[]:=List.length_eq_zero_iff.1 (by rw[hlen];omega)
    rw[if_pos hcp,hnil,show q.toNat-p.toNat=0 by omega,show cap-p.toNat=0 by omega]
    cases base with
    |none=>exact .sl0
    |some b=>exact .sl 0 [] b 0 0 (fun _ _=>undef) rfl (Nat.le_refl _) (Nat.zero_le _) (fun k e hk=>by simp at hk) (fun k e hk=>by simp at hk) (fun k e hk=>by simp at hk)
   ·rw[if_neg hcp]
    cases base with
    |none=>
     have hnil:sub l p q=[]:=by
      cases hc:sub l p q with
      |nil=>rfl
      |cons y ys=>
       obtain⟨_,h4⟩:=hget 0 y (by rw[hc];rfl)
       obtain⟨_,_,_,h5,_⟩:=hels _ _ h4
       cases h5
     have h6:cap=0:=by
      have:=zAT h x
      rw[hv] at this
      generalize s.look x=z at this hl
      generalize l.length=m at this
      cases this<;>first|rfl|cases hl
     omega
    |some b=>
     have hvs: ∃vs:Nat->Nat->Value,∀(k:Nat) e,(sub l p q)[k]? =some e->∀(j:Nat) y,e[j]? =some y->g.imm ((b.add (p.toNat*i.size)).add (k*i.size+j))=some (vs k j)∧Rep g.imm [] y (vs k j):=by
      refine⟨fun k j=>(g.imm (b.add ((p.toNat+k)*i.size+j))).getD undef,fun k e hk j y hy=>?_⟩
      obtain⟨h3,h4⟩:=hget k e hk
      obtain⟨b',ec,vs,h5,h6,h7⟩:=hels _ _ h4
      cases h5
      have h8:=hel e (zq3 h4)
      have h9:=h7 j y hy
      rw[<-h6,h8] at h9
      rw[zKp,show p.toNat*i.size+(k*i.size+j)=(p.toNat+k)*i.size+j by rw[Nat.add_mul];omega]
      refine⟨by simp only[h9.1,Option.getD_some],?_⟩
      simp only[h9.1,Option.getD_some]
      exact h9.2
     obtain⟨vs,hvs⟩:=hvs
     exact .sl i.size _ _ _ _ vs hlen.symm (by omega) (by omega) (fun k e hk=>hel e (zq3 (hget k e hk).2)) (fun k e hk j y hy=>(hvs k e hk j y hy).1) (fun k e hk j y hy=>(hvs k e hk j y hy).2)
 ·cases hr
theorem zLS(off:Nat): ∀(l:List Value)(n:Nat)(c:Array Value),off+n+l.length<=c.size->
 let c':=(l.zipIdx n).foldl (fun cs (q:Value×Nat)=>cs.setIfInBounds (off+q.2) q.1) c
 c'.size=c.size∧∀i,c'.getD i undef=if off+n<=i∧i<off+n+l.length then l.getD (i-(off+n)) undef else c.getD i undef:=by
 intro l
 induction l with
 |nil=>intro n c h;refine⟨rfl,fun i=>?_⟩;rw[if_neg (by simp only[List.length_nil];omega)];rfl
 |cons v l ih=>
  intro n c h
  simp only[List.length_cons] at h
  simp only[List.zipIdx_cons,List.foldl_cons]
  obtain⟨h1,h2⟩:=ih (n+1) (c.setIfInBounds (off+n) v) (by simp;omega)
  refine⟨by rw[h1];simp,fun i=>?_⟩
  rw[h2,zFI]
  simp only[List.length_cons]
  by_cases e:i=off+n
  ·subst e
   rw[if_neg (by omega),if_pos ⟨rfl,by omega⟩,if_pos (by omega)]
   simp
  ·by_cases h3:off+(n+1)<=i∧i<off+(n+1)+l.length
   ·rw[if_pos h3,if_pos (by omega),show i-(off+n)=(i-(off+(n+1)))+1 by omega];rfl
   ·rw[if_neg h3,if_neg (by omega),if_neg (by omega)]
theorem zKi(c v:Array Value)(off:Nat):v.zipIdx.foldl (fun cs (q:Value×Nat)=>cs.setIfInBounds (off+q.2) q.1) c=(v.toList.zipIdx 0).foldl (fun cs (q:Value×Nat)=>cs.setIfInBounds (off+q.2) q.1) c:=by
 rw[<-Array.foldl_toList,Array.toList_zipIdx]
def zHX(cells:List AV)(off:Nat):List AV->List AV
 |[]=>cells
 |x::xs=>zHX (cells.set off x) (off+1) xs
theorem setRange_spec: ∀(xs cells:List AV)(off:Nat),(zHX cells off xs).length=cells.length∧
 ∀(i:Nat) y,(zHX cells off xs)[i]? =some y->(off<=i∧xs[i-off]? =some y)∨(¬(off<=i∧i<off+xs.length)∧cells[i]? =some y):=by
 intro xs
 induction xs with
 |nil=>intro cells off;exact⟨rfl,fun i y hy=>.inr ⟨by simp only[List.length_nil];omega,hy⟩⟩
 |cons x xs ih=>
  intro cells off
  obtain⟨h1,h2⟩:=ih (cells.set off x) (off+1)
  refine⟨by simp only[zHX];rw[h1];simp,fun i y hy=>?_⟩
  simp only[zHX] at hy
  rcases h2 i y hy with ⟨h3,h4⟩|⟨h3,h4⟩
  ·exact .inl ⟨by omega,by rw[show i-off=(i-(off+1))+1 by omega];simpa using h4⟩
  ·rcases getElem?_set_cases h4 with ⟨rfl,h5,rfl⟩|⟨h5,h6⟩
   ·exact .inl ⟨Nat.le_refl _,by simp⟩
   ·exact .inr ⟨by simp only[List.length_cons];omega,h6⟩
def fillA(zDy:Nat->Option (Nat×Nat))(cells:List AV):List (Nat×AV)->Option (List AV)
 |[]=>some cells
 |(i,v)::rest=>match zDy i with
  |none=>none
  |some (off,size)=>if v.solid=true∧v.cells.length=size∧off+size<=cells.length then fillA zDy (zHX cells off (v.cells.map AV.copy)) rest else none
theorem fill_ok{zDy:Nat->Option (Nat×Nat)}: ∀(parts:List (Nat×AV))(vparts:List (Nat×Value))(cells cells':List AV)(c:Array Value),
 fillA zDy cells parts=some cells'->RepL imm σ cells c->vparts.length=parts.length->
 (∀(j:Nat) q,parts[j]? =some q->∃v,vparts[j]? =some (q.1,v)∧Rep imm σ q.2 v)->∃c',Instr.fill zDy c vparts=some c'∧RepL imm σ cells' c':=by
 intro parts
 induction parts with
 |nil=>
  intro vparts cells cells' c hf hr hl hp
  have:vparts=[]:=by simpa using hl
  subst this
  simp only[fillA,Option.some.injEq] at hf;subst hf
  exact⟨c,rfl,hr⟩
 |cons q parts ih=>
  intro vparts cells cells' c hf hr hl hp
  obtain⟨i,x⟩:=q
  cases vparts with
  |nil=>simp at hl
  |cons u vparts=>
   obtain⟨v,hv,hx⟩:=hp 0 _ rfl
   simp only[List.getElem?_cons_zero,Option.some.injEq] at hv
   subst hv
   simp only[fillA] at hf
   split at hf
   ·cases hf
   ·rename_i off size hpl
    split at hf
    ·rename_i hc
     obtain⟨h1,h2,h3⟩:=hc
     have hcs:=(zFu hx h1).map_copy
     have hvs:v.cells.size=size:=by rw[hcs.1];simp;exact h2
     obtain⟨w1,w2⟩:=zLS off v.cells.toList 0 c (by rw[Array.length_toList,hr.1];omega)
     simp only[Array.length_toList,Nat.add_zero] at w1 w2
     have hrep:RepL imm σ (zHX cells off (x.cells.map AV.copy)) ((v.cells.toList.zipIdx 0).foldl (fun cs (q:Value×Nat)=>cs.setIfInBounds (off+q.2) q.1) c):=by
      obtain⟨e1,e2⟩:=setRange_spec (x.cells.map AV.copy) cells off
      refine⟨by rw[w1,e1,hr.1],fun k y hy=>?_⟩
      rw[w2]
      rcases e2 k y hy with ⟨hk,hy'⟩|⟨hk,hy'⟩
      ·have hk2:=(zq1 hy').1
       rw[zq4] at hk2
       rw[if_pos (by rw[hvs];omega)]
       have:=hcs.2 _ _ hy'
       rwa [zq6,<-Array.getElem?_toList,<-zq5] at this
      ·rw[if_neg (by rw[hvs];rw[zq4,h2] at hk;omega)]
       exact hr.2 k y hy'
     obtain⟨c',hc1,hc2⟩:=ih vparts _ cells' _ hf hrep (by simpa using hl) (fun j q hq=>by simpa using hp (j+1) q (by simpa using hq))
     refine⟨c',?_,hc2⟩
     simp only[Instr.fill,hpl]
     rw[if_neg (by simp[hvs,hr.1];omega),zKi]
     exact hc1
    ·cases hf
def placeOf(P:Program)(fields:Array Field)(i:Nat):Option (Nat×Nat):=
 match fields[i]? with
 |some f=>match P.info? f.type with
  |some j=>some (f.offset,j.size)
  |none=>none
 |none=>none
def zIV(P:Program)(s:AState)(t:TypeId)(parts:Array (Nat×Operand)):Option Res:=
 match P.info? t,P.underlying t with
 |some i,some (.struct fields)=>match i.zero with
  |some z=>match fillA (placeOf P fields) (AV.ofConst z).cells (parts.toList.map fun q=>(q.1,s.look q.2)) with
   |some cells=>some ⟨(AV.ofConst z).solid=true∧fields.all (fun f=>(P.info? f.type).isSome)=true,.agg cells,none,s⟩
   |none=>none
  |none=>none
 |some i,some (.array _ e)=>match i.zero,P.info? e with
  |some z,some j=>match fillA (fun k=>some (k*j.size,j.size)) (AV.ofConst z).cells (parts.toList.map fun q=>(q.1,s.look q.2)) with
   |some cells=>some ⟨(AV.ofConst z).solid=true,.agg cells,none,s⟩
   |none=>none
  |_,_=>none
 |_,_=>none
theorem run_mapM_list{α β:Type}(f:α->Sem β)(g:α->β)(w:World): ∀(l:List α),(∀x,x∈l->(f x).run P w=.ok (g x) w)->(l.mapM f).run P w=.ok (l.map g) w:=by
 intro l
 induction l with
 |nil=>intro _;simp
 |cons x l ih=>
  intro h
  simp only[List.mapM_cons,Sem.run_bind,h x (zq9 ..),Result.andThen_ok,ih (fun y hy=>h y (zqc _ hy)),Sem.run_pure,List.map_cons]
theorem run_mapM{α β:Type}(f:α->Sem β)(g:α->β)(w:World)(l:Array α)(h: ∀x,x∈l.toList->(f x).run P w=.ok (g x) w):(l.mapM f).run P w=.ok (l.map g) w:=by
 rw[Array.mapM_eq_mapM_toList]
 simp only[Sem.run_map,run_mapM_list f g w l.toList h,Result.andThen_ok]
 congr 1
 apply Array.ext'
 simp
theorem parts_get(h:Sim F g s a w)(parts:Array (Nat×Operand)): ∀(j:Nat) q,(parts.toList.map fun q=>(q.1,s.look q.2))[j]? =some q->
 ∃v,(parts.map fun(i,x)=>(i,a.eval x)).toList[j]? =some (q.1,v)∧Rep g.imm g.σ q.2 v:=fun j q hq=>by
 obtain⟨y,hy,rfl⟩:=getElem?_map_some hq
 refine⟨a.eval y.2,?_,zAT h y.2⟩
 rw[Array.toList_map,List.getElem?_map,hy];rfl
theorem ok_build(P:Program)(o:Oper)(s:AState)(t:TypeId)(parts:Array (Nat×Operand))(ho:o.op=.build t parts)(r:Res)(hr:zIV P s t parts=some r)(hs:r.side):OpOk P o s r:=by
 unfold zIV at hr
 split at hr
 ·rename_i i fields hi hu
  split at hr
  case h_2=>cases hr
  rename_i z hz
  split at hr
  case h_2=>cases hr
  rename_i cells hf
  cases hr
  obtain⟨hs1,hs2⟩:=hs
  refine .same rfl fun F g a w h=>?_
  obtain⟨c',e1,e2⟩:=fill_ok (imm:=g.imm) (σ:=g.σ) _ (parts.map fun(i,x)=>(i,a.eval x)).toList _ _ z.cells hf (zFu (zFD z) hs1) (by simp) (parts_get h parts)
  have hplaces:(fields.mapM fun f=>(do pure (f.offset,<-sizeOf f.type):Sem (Nat×Nat))).run P w=.ok (fields.map fun f=>(f.offset,P.cellsOf f.type)) w:=by
   refine run_mapM _ _ w fields fun f hf=>?_
   rw[Array.all_eq_true'] at hs2
   have hsome:=hs2 f (by simpa using hf)
   cases hfi:P.info? f.type with
   |none=>rw[hfi] at hsome;simp at hsome
   |some k=>simp[sizeOf,typeInfo,hfi,Program.cellsOf]
  have hpl: ∀(q:Nat),(fields.map fun f=>(f.offset,P.cellsOf f.type))[q]? =placeOf P fields q:=fun q=>by
   rw[Array.getElem?_map]
   unfold placeOf
   cases hq:fields[q]? with
   |none=>rfl
   |some f=>
    rw[Array.all_eq_true'] at hs2
    have hsome:=hs2 f (Array.mem_of_getElem? hq)
    cases hfi:P.info? f.type with
    |none=>rw[hfi] at hsome;simp at hsome
    |some k=>simp[Program.cellsOf,hfi]
  have hfun:(fun q=>(fields.map fun f=>(f.offset,P.cellsOf f.type))[q]?)=placeOf P fields:=funext hpl
  refine⟨.agg c',?_,.agg _ _ e2.1 e2.2,fun p hp=>by cases hp⟩
  simp only[execOp,ho,Instr.build,zeroValue,typeInfo,underlying,Sem.run_bind,run_program,Result.andThen_ok,hi,hz,Sem.run_pure,hu,hplaces,hfun,e1]
 ·rename_i i m e hi hu
  split at hr
  case h_2=>cases hr
  rename_i z j hz hj
  split at hr
  case h_2=>cases hr
  rename_i cells hf
  cases hr
  have hs1:(AV.ofConst z).solid=true:=hs
  refine .same rfl fun F g a w h=>?_
  obtain⟨c',e1,e2⟩:=fill_ok (imm:=g.imm) (σ:=g.σ) _ (parts.map fun(i,x)=>(i,a.eval x)).toList _ _ z.cells hf (zFu (zFD z) hs1) (by simp) (parts_get h parts)
  refine⟨.agg c',?_,.agg _ _ e2.1 e2.2,fun p hp=>by cases hp⟩
  simp only[execOp,ho,Instr.build,zeroValue,typeInfo,underlying,sizeOf,Sem.run_bind,run_program,Result.andThen_ok,hi,hz,hj,Sem.run_pure,hu,e1]
 ·cases hr
def isR:List Nat->Nat->Bool
 |[],_=>true
 |x::l,k=>x==k&&isR l (k+1)
theorem isR_spec: ∀(l:List Nat)(k:Nat),isR l k=true->l=List.range' k l.length
 |[],k,_=>rfl
 |x::l,k,h=>by
  simp only[isR,zq7,beq_iff_eq] at h
  have:=isR_spec l (k+1) h.2
  rw[List.length_cons,List.range'_succ,<-this,h.1]
def zDc(P:Program)(s:AState)(t:TypeId)(n:Nat)(parts:Array (Nat×Operand)):Option Res:=
 match P.underlying t with
 |some (.slice e)=>match P.info? e with
  |some i=>match i.zero with
   |some z=>some ⟨zFr i.size (parts.toList.map fun q=>(s.look q.2).norm.cells)∧(isR (parts.toList.map (·.1)) 0=true∧parts.toList.length=n)∧(parts.toList.all fun q=>(s.look q.2).solid)=true∧n*i.size<=16777216∧n<=16777216,
    .osl ⟨i.size,e⟩ (parts.toList.map fun q=>(s.look q.2).norm.cells),none,s⟩
   |none=>none
  |none=>none
 |_=>none
theorem solid_norm{x:AV}(h:x.solid=true):x.norm.solid=true:=by cases x<;>first|rfl|simp at h
theorem fill_row(size:Nat): ∀(vs:List Value)(k:Nat)(c:Array Value),(∀v,v∈vs->v.cells.size=size)->(k+vs.length)*size<=c.size->
 ∃c',Instr.fill (fun i=>some (i*size,size)) c ((vs.zipIdx k).map fun q=>(q.2,q.1))=some c'∧c'.size=c.size∧
  (∀(i:Nat) v,vs[i]? =some v->∀j,j<size->c'.getD ((k+i)*size+j) undef=v.cells.getD j undef)∧(∀m,m<k*size->c'.getD m undef=c.getD m undef):=by
 intro vs
 induction vs with
 |nil=>intro k c _ _;exact⟨c,rfl,rfl,fun i v hv=>by simp at hv,fun _ _=>rfl⟩
 |cons v vs ih=>
  intro k c hsz hle
  simp only[List.length_cons] at hle
  have hv:=hsz v (zq9 ..)
  have hk:(k+1)*size<=c.size:=Nat.le_trans (Nat.mul_le_mul_right _ (by omega)) hle
  rw[Nat.add_mul] at hk
  obtain⟨w1,w2⟩:=zLS (k*size) v.cells.toList 0 c (by rw[Array.length_toList];omega)
  simp only[Array.length_toList,Nat.add_zero] at w1 w2
  obtain⟨c',h1,h2,h3,h4⟩:=ih (k+1) _ (fun u hu=>hsz u (zqc _ hu)) (by rw[w1,show k+1+vs.length=k+(vs.length+1) by omega];exact hle)
  refine⟨c',?_,by rw[h2,w1],fun i u hu j hj=>?_,fun m hm=>?_⟩
  ·simp only[List.zipIdx_cons,List.map_cons,Instr.fill]
   rw[if_neg (by simp[hv];omega),zKi]
   exact h1
  ·cases i with
   |zero=>
    simp at hu;subst hu
    rw[h4 _ (by rw[Nat.add_mul k 1];simp only[Nat.add_zero];omega),w2,if_pos (by simp only[Nat.add_zero];omega)]
    simp only[Nat.add_zero,Nat.add_sub_cancel_left]
    rw[zq5,Array.getElem?_toList,zq6]
   |succ i=>
    have:=h3 i u (by simpa using hu) j hj
    rwa [show k+1+i=k+(i+1) by omega] at this
  ·rw[h4 m (by rw[Nat.add_mul];omega),w2,if_neg (by omega)]
theorem zip_of_range{α β:Type}(f:α->β): ∀(l:List (Nat×α))(k n:Nat),l.map (·.1)=List.range' k n->l.map (fun q=>(q.1,f q.2))=((l.map fun q=>f q.2).zipIdx k).map fun q=>(q.2,q.1):=by
 intro l
 induction l with
 |nil=>intro k n _;rfl
 |cons q l ih=>
  intro k n h
  cases n with
  |zero=>simp at h
  |succ n=>
   simp only[List.map_cons,List.range'_succ,List.cons.injEq] at h
   simp only[List.map_cons,List.zipIdx_cons,List.cons.injEq]
   exact⟨by rw[h.1],ih (k+1) n h.2⟩
theorem ok_buildSlice(P:Program)(o:Oper)(s:AState)(t:TypeId)(n:Nat)(parts:Array (Nat×Operand))(ho:o.op=.buildSlice t n parts)(r:Res)(hr:zDc P s t n parts=some r)(hs:r.side):
 OpOk P o s r:=by
 unfold zDc at hr
 split at hr
 case h_2=>cases hr
 rename_i e hu
 split at hr
 case h_2=>cases hr
 rename_i i hi
 split at hr
 case h_2=>cases hr
 rename_i z hz
 cases hr
 obtain⟨hok,hrange',hsolid,hbig⟩:=hs
 have hrange:(parts.toList.map (·.1))=List.range n:=by
  have:=isR_spec _ _ hrange'.1
  rw[zq4,hrange'.2] at this
  rw[this,List.range_eq_range']
 intro F g a w h
 have hlen:parts.toList.length=n:=by have:=congrArg List.length hrange;simpa using this
 have hvals: ∀v,v∈(parts.toList.map fun q=>a.eval q.2)->v.cells.size=i.size:=fun v hv=>by
  obtain⟨q,hq,rfl⟩:=List.mem_map.1 hv
  have h1:=zFu (zAT h q.2).norm (solid_norm ((zq8 hsolid) q hq))
  rw[h1.1]
  exact(hok _ (List.mem_map.2 ⟨q,hq,rfl⟩)).1
 generalize hz':(if n*i.size=0 then #[] else z.cells)=zc
 generalize hc0:(Array.range (n*i.size)).map (fun k=>zc[k%zc.size]!)=c0
 have hc0s:c0.size=n*i.size:=by rw[<-hc0];simp
 obtain⟨c,f1,f2,f3,_⟩:=fill_row i.size (parts.toList.map fun q=>a.eval q.2) 0 c0 hvals (by rw[zq4,hlen,hc0s];simp)
 have hparts:(parts.map fun(i,x)=>(i,a.eval x)).toList=((parts.toList.map fun q=>a.eval q.2).zipIdx 0).map fun q=>(q.2,q.1):=by
  rw[Array.toList_map]
  exact zip_of_range a.eval parts.toList 0 n (by rw[hrange,List.range_eq_range'])
 have hrun:(Instr.buildSlice t n (parts.map fun(i,x)=>(i,a.eval x))).run P w=.ok (.slice (some ⟨w.heap.size,0,none⟩) n n) (w.alloc (.cells c e (0,0))):=by
  by_cases h0:n*i.size=0
  ·have hzc:zc=#[]:=by rw[<-hz',if_pos h0]
   subst hzc
   simp only[Instr.buildSlice,underlying,Sem.run_bind,run_program,Result.andThen_ok,hu,Sem.run_pure,sizeOf,typeInfo,hi]
   rw[Sem.run_ite,if_neg (by omega),Sem.run_ite,if_pos h0]
   simp only[Sem.run_bind,Sem.run_pure,Result.andThen_ok,hc0,hparts,f1,newRow,run_newObj,World.alloc_eq]
  ·have hzc:zc=z.cells:=by rw[<-hz',if_neg h0]
   subst hzc
   simp only[Instr.buildSlice,underlying,Sem.run_bind,run_program,Result.andThen_ok,hu,Sem.run_pure,sizeOf,typeInfo,hi]
   rw[Sem.run_ite,if_neg (by omega),Sem.run_ite,if_neg h0]
   simp only[Sem.run_bind,Sem.run_pure,Result.andThen_ok,zeroValue,typeInfo,run_program,hi,hz,hc0,hparts,f1,newRow,run_newObj,World.alloc_eq]
 obtain⟨r1,r2,r3,r4⟩:=h.row c e (n*i.size)
 refine⟨.slice (some ⟨w.heap.size,0,none⟩) n n,w.alloc (.cells c e (0,0)),_,some w.heap.size,.inl (by simp only[execOp,ho,Sem.run_bind,hrun,Result.andThen_ok,Sem.run_pure]),r1,?_,fun base m cap hv=>?_,r2,fun p hp=>by cases hp⟩
 rotate_left
 ·cases hv
  refine .inr ⟨_,rfl,rfl,⟨rfl,rfl,c.size,?_,by rw[f2,hc0s];exact Nat.le_refl _⟩,fun j hj1 hj2=>(Nat.lt_irrefl _ (Nat.lt_of_le_of_lt hj1 hj2)).elim⟩
  unfold zI0
  rw[zEF];exact if_pos (.inl rfl)
 refine .osl ⟨i.size,e⟩ _ _ _ _ (fun k j=>c.getD (k*i.size+j) undef) (by simp[<-hlen]) (Nat.le_refl _) (by omega) (fun k el hel=>(hok el (zq3 hel)).1) (fun k el hel j y hy=>?_) (fun k el hel j y hy=>?_)
 ·rw[zI8]
  have hk:k<n:=by have:=(zq1 hel).1;simpa[hlen] using this
  have hj:j<i.size:=by have:=(zq1 hy).1;rwa [(hok el (zq3 hel)).1] at this
  refine Gh.row_imm_new _ _ _ _ _ ?_ (by rw[f2,hc0s];exact Nat.le_refl _)
  show k*i.size+j<n*i.size
  have:=Nat.mul_le_mul_right i.size (show k+1<=n by omega)
  rw[Nat.add_mul] at this;omega
 ·have hj:j<i.size:=by have:=(zq1 hy).1;rwa [(hok el (zq3 hel)).1] at this
  obtain⟨q,hq,rfl⟩:=getElem?_map_some hel
  have h1:=zFu (zAT h q.2).norm (solid_norm ((zq8 hsolid) q (zq3 hq)))
  have h3:=f3 k (a.eval q.2) (by rw[List.getElem?_map,hq];rfl) j hj
  simp only[Nat.zero_add] at h3
  rw[h3]
  exact((h1.2 j y hy).flat (zH2 hok hel hy).2.2).monoI r4
def zJ9(P:Program)(s:AState)(t:TypeId)(l c:Operand):Option Res:=
 match s.look l,s.look c with
 |.int _ n0,.int _ n=>match P.underlying t with
  |some (.slice e)=>match P.info? e with
   |some i=>match i.zero with
    |some z=>some ⟨n0=0∧0<=n∧(i.bytes:Int)*n<=281474976710656∧n<=9223372036854775807,.osl ⟨i.size,e⟩ [],none,s⟩
    |none=>none
   |none=>none
  |_=>none
 |_,_=>none
theorem ok_make(P:Program)(o:Oper)(s:AState)(t:TypeId)(l c:Operand)(ho:o.op=.makeSlice t l c)(r:Res)(hr:zJ9 P s t l c=some r)(hs:r.side):OpOk P o s r:=by
 unfold zJ9 at hr
 split at hr
 case h_2=>cases hr
 rename_i k0 n0 k n hl hc
 split at hr
 case h_2=>cases hr
 rename_i e hu
 split at hr
 case h_2=>cases hr
 rename_i i hi
 split at hr
 case h_2=>cases hr
 rename_i z hz
 cases hr
 obtain⟨h0,hn,hby,h63⟩:=hs
 subst h0
 intro F g a w h
 have el:=zAT h l
 have ec:=zAT h c
 rw[hl] at el;rw[hc] at ec
 have vl:a.eval l=.int k0 0:=by generalize a.eval l=v at el;cases el;rfl
 have vc:a.eval c=.int k n:=by generalize a.eval c=v at ec;cases ec;rfl
 have hrun:=run_make (P:=P) w t e i z hu hi hz k0 k 0 n (Int.le_refl _) hn hby h63
 have hsz:=size_madeCells z.cells (n.toNat*i.size)
 generalize hcs:madeCells z.cells (n.toNat*i.size)=cs at hrun hsz
 obtain⟨r1,r2,r3,r4⟩:=h.row cs e 0
 refine⟨.slice (some ⟨w.heap.size,0,none⟩) 0 n.toNat,w.alloc (.cells cs e (0,0)),_,some w.heap.size,.inl ?_,r1,?_,fun base m cap hv=>?_,r2,fun p hp=>by cases hp⟩
 ·simp only[execOp,ho,Sem.run_bind,vl,vc,hrun,Result.andThen_ok,Sem.run_pure];rfl
 ·exact .osl ⟨i.size,e⟩ [] _ _ _ (fun _ _=>undef) rfl (Nat.zero_le _) (Nat.zero_le _) (fun k el hel=>by simp at hel) (fun k el hel=>by simp at hel) (fun k el hel=>by simp at hel)
 ·cases hv
  refine .inr ⟨_,rfl,rfl,⟨rfl,rfl,cs.size,?_,by rw[hsz];exact Nat.le_refl _⟩,fun j hj1 hj2=>?_⟩
  ·unfold zI0
   rw[zEF];exact if_pos (.inl rfl)
  ·exact r3 j (Nat.zero_le _) (by rw[hsz];exact hj2)
def minI(a b:Int):Int:=if b<a then b else a
def maxI(a b:Int):Int:=if b>a then b else a
def resMM(s:AState)(mx:Bool)(x y:Operand):Option Res:=
 match s.look x,s.look y with
 |.int k a,.int k' b=>if k=k' then some ⟨True,.int k (if mx=true then maxI a b else minI a b),none,s⟩ else none
 |_,_=>none
theorem ok_mm(P:Program)(o:Oper)(s:AState)(ts:Array TypeId)(mx:Bool)(x y:Operand)(ho:o.op=.call {callee:=.builtin (if mx=true then .max else .min),args:=#[x,y],argTypes:=ts})(r:Res)
 (hr:resMM s mx x y=some r) (hs:r.side):OpOk P o s r:=by
 unfold resMM at hr
 split at hr
 case h_2=>cases hr
 rename_i k a k' b hx hy
 split at hr
 case isFalse=>cases hr
 rename_i hk
 subst hk
 cases hr
 refine .same rfl fun F g a' w h=>?_
 have hxa:=zFK h hx
 have hyb:=zFK h hy
 have ra:=zLJ (by have:=zAT h x;rwa [hx] at this)
 have rb:=zLJ (by have:=zAT h y;rwa [hy] at this)
 refine⟨.int k (if mx=true then maxI a b else minI a b),?_,.int _ _ ?_,fun p hp=>by cases hp⟩
 ·cases mx
  ·simp[execOp,ho,resolve,invoke,builtin,Builtin.min_,Builtin.min2,hxa,hyb,minI]
  ·simp[execOp,ho,resolve,invoke,builtin,Builtin.max_,Builtin.max2,hxa,hyb,maxI]
 ·cases mx
  ·show inR k (minI a b);unfold minI;split<;>assumption
  ·show inR k (maxI a b);unfold maxI;split<;>assumption
def resM3(s:AState)(x y z:Operand):Option Res:=
 match s.look x,s.look y,s.look z with
 |.int k a,.int k' b,.int k2 c=>if k=k'∧k=k2 then some ⟨True,.int k (maxI (maxI a b) c),none,s⟩ else none
 |_,_,_=>none
theorem ok_m3(P:Program)(o:Oper)(s:AState)(ts:Array TypeId)(x y z:Operand)(ho:o.op=.call {callee:=.builtin .max,args:=#[x,y,z],argTypes:=ts})(r:Res)
 (hr:resM3 s x y z=some r) (hs:r.side):OpOk P o s r:=by
 unfold resM3 at hr
 split at hr
 case h_2=>cases hr
 rename_i k a k' b k2 c hx hy hz
 split at hr
 case isFalse=>cases hr
 rename_i hk
 obtain⟨rfl,rfl⟩:=hk
 cases hr
 refine .same rfl fun F g a' w h=>?_
 have hxa:=zFK h hx
 have hyb:=zFK h hy
 have hzc:=zFK h hz
 have ra:=zLJ (by have:=zAT h x;rwa [hx] at this)
 have rb:=zLJ (by have:=zAT h y;rwa [hy] at this)
 have rc:=zLJ (by have:=zAT h z;rwa [hz] at this)
 refine⟨.int k (maxI (maxI a b) c),?_,.int _ _ ?_,fun p hp=>by cases hp⟩
 ·simp[execOp,ho,resolve,invoke,builtin,Builtin.max_,Builtin.max2,hxa,hyb,hzc,maxI]
 ·have h1:inR k (maxI a b):=by unfold maxI;split<;>assumption
  show inR k (maxI (maxI a b) c)
  generalize maxI a b=m at h1
  unfold maxI;split<;>assumption
def resIxM(P:Program)(s:AState)(t:TypeId)(x ix:Operand):Option Res:=
 match P.underlying t,s.look x,s.look ix with
 |some (.slice el),.msl b ec n,.int _ i=>match P.info? el with
  |some inf=>some ⟨0<=i∧i<n∧ec=inf.size,.mptr b (i.toNat*ec),none,s⟩
  |none=>none
 |_,_,_=>none
theorem ok_ixM(P:Program)(o:Oper)(s:AState)(t:TypeId)(x ix:Operand)(ho:o.op=.indexAddr t x ix)(r:Res)(hr:resIxM P s t x ix=some r)(hs:r.side):OpOk P o s r:=by
 unfold resIxM at hr
 split at hr
 case h_2=>cases hr
 rename_i el b ec n k i hu hx hn
 split at hr
 case h_2=>cases hr
 rename_i inf hi
 cases hr
 obtain⟨h0,h1,h2⟩:=hs
 refine .same rfl fun F g a w h=>?_
 have he:=zAT h x
 rw[hx] at he
 have hix:=zAT h ix
 rw[hn] at hix
 have vi:a.eval ix=.int k i:=by generalize a.eval ix=v at hix;cases hix;rfl
 generalize hvx:a.eval x=vx at he
 cases he with
 |msl _ _ _ kb cap hk hc hbd=>
  refine⟨.pointer (some ⟨kb,i.toNat*ec,none⟩),?_,.mptr _ _ _ hk,fun p hp=>by cases hp⟩
  simp[execOp,ho,Instr.indexAt,vi,hvx,asIntOf,underlying,hu,h0,h1,sizeOf,typeInfo,hi,add_mk,h2]
def resIx(P:Program)(s:AState)(t:TypeId)(x ix:Operand):Option Res:=
 match s.look x with
 |.msl _ _ _=>resIxM P s t x ix
 |_=>zEg P s t x ix
theorem ok_ix(P:Program)(o:Oper)(s:AState)(t:TypeId)(x ix:Operand)(ho:o.op=.indexAddr t x ix)(r:Res)(hr:resIx P s t x ix=some r)(hs:r.side):OpOk P o s r:=by
 unfold resIx at hr
 split at hr
 ·exact ok_ixM P o s t x ix ho r hr hs
 ·exact ok_indexAddr P o s t x ix ho r hr hs
def zKA(P:Program)(s:AState)(ts:Array TypeId)(x:Operand):Option Res:=
 match ts[0]? with
 |some t=>match P.underlying t,s.look x with
  |some (.slice _),.msl _ _ n=>some ⟨True,.int .i64 n,none,s⟩
  |_,_=>none
 |none=>none
theorem ok_lenM(P:Program)(o:Oper)(s:AState)(ts:Array TypeId)(x:Operand)(ho:o.op=.call {callee:=.builtin .len,args:=#[x],argTypes:=ts})(r:Res)
 (hr:zKA P s ts x=some r) (hs:r.side):OpOk P o s r:=by
 unfold zKA at hr
 split at hr
 case h_2=>cases hr
 rename_i t h0
 split at hr
 ·rename_i e b ec n hu hx
  cases hr
  refine .same rfl fun F g a w h=>?_
  have he:=zAT h x
  rw[hx] at he
  generalize hvx:a.eval x=vx at he
  cases he with
  |msl _ _ _ kb cap hk hc hbd=>
   exact⟨.int .i64 n,by simp[execOp,ho,resolve,invoke,builtin,Builtin.len_,h0,hvx,underlying,hu,goInt],.int _ _ (by simp only[inR];omega),fun p hp=>by cases hp⟩
 ·cases hr
def resLn(P:Program)(s:AState)(ts:Array TypeId)(x:Operand):Option Res:=
 match s.look x with
 |.msl _ _ _=>zKA P s ts x
 |_=>resLen P s ts x
theorem ok_ln(P:Program)(o:Oper)(s:AState)(ts:Array TypeId)(x:Operand)(ho:o.op=.call {callee:=.builtin .len,args:=#[x],argTypes:=ts})(r:Res)
 (hr:resLn P s ts x=some r) (hs:r.side):OpOk P o s r:=by
 unfold resLn at hr
 split at hr
 ·exact ok_lenM P o s ts x ho r hr hs
 ·exact ok_len P o s ts x ho r hr hs
theorem zJO{size:Nat}: ∀(l:List (List AV))(h: ∀e,e∈l->e.length=size)(j:Nat)(x:AV),l.flatten[j]? =some x->∃e,l[j/size]? =some e∧e[j%size]? =some x∧j<l.length*size
 |[],_,j,x,hx=>by simp at hx
 |e::l,h,j,x,hx=>by
  have he:=h e (zq9 ..)
  rw[List.flatten_cons] at hx
  by_cases hj:j<size
  ·rw[List.getElem?_append_left (by omega)] at hx
   refine⟨e,by rw[Nat.div_eq_of_lt hj];rfl,by rw[Nat.mod_eq_of_lt hj];exact hx,?_⟩
   rw[List.length_cons,Nat.add_mul];omega
  ·rw[List.getElem?_append_right (by omega),he] at hx
   obtain⟨e',h1,h2,h3⟩:=zJO l (fun e' he'=>h e' (zqc _ he')) (j-size) x hx
   have hs:0<size:=by
    rcases Nat.eq_zero_or_pos size with h0|h0
    ·subst h0;simp at h3
    ·exact h0
   have hd:j/size=(j-size)/size+1:=Nat.div_eq_sub_div hs (by omega)
   have hm:j%size=(j-size)%size:=Nat.mod_eq_sub_mod (by omega)
   refine⟨e',by rw[hd];exact h1,by rw[hm];exact h2,?_⟩
   rw[List.length_cons,Nat.add_mul];omega
theorem zH8{size:Nat}: ∀(l:List (List AV))(h: ∀e,e∈l->e.length=size),l.flatten.length=l.length*size
 |[],_=>by simp
 |e::l,h=>by
  rw[List.flatten_cons,List.length_append,h e (zq9 ..),zH8 l (fun e' he'=>h e' (zqc _ he')),List.length_cons,Nat.add_mul];omega
def zIQ(P:Program)(s:AState)(t:TypeId)(l c:Operand):Option Res:=
 match s.look l,s.look c with
 |.int _ n0,.int _ n=>match P.underlying t with
  |some (.slice e)=>match P.info? e with
   |some i=>match i.zero with
    |some z=>some ⟨(0<=n0∧n0<=n∧0<i.bytes∧(i.bytes:Int)*n<=281474976710656∧n<=9223372036854775807)∧(AV.ofConst z).solid=true∧(AV.ofConst z).cells.all AV.plain=true∧(AV.ofConst z).cells.length=i.size,
     .msl s.blocks.length i.size n0.toNat,none,s.push (List.replicate n0.toNat (AV.ofConst z).cells).flatten⟩
    |none=>none
   |none=>none
  |_=>none
 |_,_=>none
theorem ok_makeM(P:Program)(o:Oper)(s:AState)(t:TypeId)(l c:Operand)(ho:o.op=.makeSlice t l c)(r:Res)(hr:zIQ P s t l c=some r)(hs:r.side):OpOk P o s r:=by
 unfold zIQ at hr
 split at hr
 case h_2=>cases hr
 rename_i k0 n0 k n hl hc
 split at hr
 case h_2=>cases hr
 rename_i e hu
 split at hr
 case h_2=>cases hr
 rename_i i hi
 split at hr
 case h_2=>cases hr
 rename_i z hz
 cases hr
 obtain⟨⟨h0,hle,hpos,hby,h63⟩,hso,hpl,hln⟩:=hs
 intro F g a w h
 have el:=zAT h l
 have ec:=zAT h c
 rw[hl] at el;rw[hc] at ec
 have vl:a.eval l=.int k0 n0:=by generalize a.eval l=v at el;cases el;rfl
 have vc:a.eval c=.int k n:=by generalize a.eval c=v at ec;cases ec;rfl
 have hrun:=run_make (P:=P) w t e i z hu hi hz k0 k n0 n h0 hle hby h63
 have hn48:n<=281474976710656:=by
  have h1:(1:Int)<=i.bytes:=by omega
  have h2:=Int.mul_le_mul_of_nonneg_right h1 (show 0<=n by omega)
  omega
 have hrz:RepL g.imm g.σ (AV.ofConst z).cells z.cells:=zFu (zFD z) hso
 have hzs:z.cells.size=i.size:=by rw[hrz.1,hln]
 have hel: ∀e,e∈List.replicate n0.toNat (AV.ofConst z).cells->e.length=i.size:=fun e he=>by rw[(List.mem_replicate.1 he).2];exact hln
 have hfl:=zH8 _ hel
 rw[List.length_replicate] at hfl
 have hmono:n0.toNat*i.size<=n.toNat*i.size:=Nat.mul_le_mul_right _ (by omega)
 have hsim:=h.alloc (List.replicate n0.toNat (AV.ofConst z).cells).flatten (madeCells z.cells (n.toNat*i.size)) e (by rw[hfl,size_madeCells];exact hmono) fun j x hx=>by
  obtain⟨e',h1,h2,h3⟩:=zJO _ hel j x hx
  rw[List.length_replicate] at h3
  have he':e'=(AV.ofConst z).cells:=(List.mem_replicate.1 (zq3 h1)).2
  subst he'
  have hp:=zKo hpl h2
  simp only[AV.plain,zq7,Bool.not_eq_true'] at hp
  refine .inl ⟨hp.1,hp.2,?_⟩
  have hg:(madeCells z.cells (n.toNat*i.size)).getD j undef=z.cells.getD (j%i.size) undef:=by
   have hj:j<n.toNat*i.size:=by omega
   have hm:j%i.size<z.cells.size:=by rw[hzs];exact Nat.mod_lt _ (Nat.pos_of_ne_zero fun h0=>by rw[h0] at hj;simp at hj)
   simp[madeCells,zq6,hj,hzs]
   simp[hm]
  rw[hg]
  exact hrz.2 _ _ h2
 refine⟨.slice (some ⟨w.heap.size,0,none⟩) n0.toNat n.toNat,_,_,none,.inl ?_,hsim,?_,trivial,Floating.none,fun p hp=>by cases hp⟩
 ·simp only[execOp,ho,Sem.run_bind,vl,vc,hrun,Result.andThen_ok,Sem.run_pure]
 ·refine .msl _ _ _ w.heap.size _ ?_ (by omega) (by omega)
  show(g.σ++[w.heap.size])[s.blocks.length]? =_
  rw[<-h.sto.len];simp
def resMk(P:Program)(s:AState)(t:TypeId)(l c:Operand):Option Res:=
 match l with
 |.const _=>zJ9 P s t l c
 |_=>zIQ P s t l c
theorem ok_mk(P:Program)(o:Oper)(s:AState)(t:TypeId)(l c:Operand)(ho:o.op=.makeSlice t l c)(r:Res)(hr:resMk P s t l c=some r)(hs:r.side):OpOk P o s r:=by
 unfold resMk at hr
 split at hr
 ·exact ok_make P o s t _ c ho r hr hs
 ·exact ok_makeM P o s t l c ho r hr hs
def zIu:AV->Bool
 |.nsl|.sl _|.osl _ _|.osq _ _|.msl _ _ _|.e0=>true
 |_=>false
theorem sliceLike_rep{x:AV}(h:Rep imm σ x v)(hx:zIu x=true): ∃base n cap,v=.slice base n cap:=by
 cases h<;>first|exact⟨_,_,_,rfl⟩|simp[zIu] at hx
def zG1(P:Program)(s:AState)(t:TypeId)(x:Operand)(lo hi:Option Operand)(m:Operand):Option Res:=
 match P.underlying t with
 |some (.slice e)=>match P.info? e with
  |some _=>match zIF s 0 lo,zIF s 1 hi,zIF s 1 (some m) with
   |some a,some b,some c=>some ⟨zIu (s.look x)=true∧a=0∧b=0∧c=0,.e0,none,s⟩
   |_,_,_=>none
  |none=>none
 |_=>none
theorem zMQ(h:Sim F g s a w){y:Operand}{d n:Int}(hq:zIF s d (some y)=some n): ∃k,a.eval y=.int k n:=by
 simp only[zIF] at hq
 split at hq
 ·rename_i k n' hn
  cases hq
  exact⟨k,zFK h hn⟩
 ·cases hq
theorem ok_slice3(P:Program)(o:Oper)(s:AState)(t:TypeId)(x:Operand)(lo hi:Option Operand)(m:Operand)(ho:o.op=.slice t x lo hi (some m))(r:Res)(hr:zG1 P s t x lo hi m=some r)(hs:r.side):
 OpOk P o s r:=by
 unfold zG1 at hr
 split at hr
 case h_2=>cases hr
 rename_i e hu
 split at hr
 case h_2=>cases hr
 rename_i i hi'
 split at hr
 case h_2=>cases hr
 rename_i p q u hp hq hm
 cases hr
 obtain⟨hx,rfl,rfl,rfl⟩:=hs
 refine .same rfl fun F g a w h=>?_
 obtain⟨base,n,cap,hv⟩:=sliceLike_rep (zAT h x) hx
 cases hi with
 |none=>simp[zIF] at hq
 |some z=>
  obtain⟨kz,ez⟩:=zMQ h hq
  obtain⟨km,em⟩:=zMQ h hm
  refine⟨.slice base 0 0,?_,.e0 _,fun p hp=>by cases hp⟩
  have hm':base.map (fun b=>b)=base:=by cases base<;>rfl
  cases lo with
  |none=>
   simp[execOp,ho,Instr.sliceAt,underlying,hu,Instr.slice,hv,Instr.sliceBounds,Instr.sliceBound,asIntOf,ez,em,sizeOf,typeInfo,hi']
  |some y=>
   obtain⟨ky,ey⟩:=zMQ h hp
   simp[execOp,ho,Instr.sliceAt,underlying,hu,Instr.slice,hv,Instr.sliceBounds,Instr.sliceBound,asIntOf,ez,em,ey,sizeOf,typeInfo,hi']
def zGB(s:AState)(d:TypeDesc)(size:Nat)(y:AV):Option (Prop×Nat×List AV):=
 match d,y with
 |.slice _,.msl b ec n=>some (b<s.blocks.length∧ec=size∧n*ec<=(s.blocks.getD b []).length∧((s.blocks.getD b []).take (n*ec)).all AV.inert=true,n,(s.blocks.getD b []).take (n*ec))
 |.slice _,y=>match elems y with
  |some l=>some (zFr size l,l.length,l.flatten)
  |none=>none
 |_,_=>none
theorem appCells_ok(h:Sim F g s a w){d:TypeDesc}{size:Nat}{y:AV}(hr:Rep g.imm g.σ y v){side:Prop}{cells:List AV}
 (hc:zGB s d size y=some (side,n,cells)) (hs:side): ∃vals:List Value,(∀w,(Builtin.lenOf v).run P w=.ok n w)∧(Builtin.firstCells size n v).run P w.drew=.ok vals.toArray w.drew∧vals.length=n*size∧cells.length=n*size∧
  ∀(j:Nat) x,cells[j]? =some x->x.one=true∧x.owns=false∧Rep g.imm g.σ x (vals.getD j undef):=by
 unfold zGB at hc
 split at hc
 ·rename_i e b ec n0
  simp only[Option.some.injEq,Prod.mk.injEq] at hc
  obtain⟨rfl,rfl,rfl⟩:=hc
  obtain⟨hb,rfl,hle,hin⟩:=hs
  cases hr with
  |msl _ _ _ k cap hk hcap hbd=>
   obtain⟨c,ty,h3,h4,h5⟩:=h.sto.blk b _ k (zB7 [] hb) hk
   refine⟨(List.range (n0*ec)).map fun j=>c.getD j undef,fun w=>by simp[Builtin.lenOf],?_,by simp,by rw[List.length_take];exact Nat.min_eq_left hle,fun j x hx=>?_⟩
   ·refine run_firstCells_some w.drew ec n0 ⟨k,0,none⟩ n0 cap _ (by simp) fun j u hu=>?_
    rw[List.getElem?_map] at hu
    by_cases hj:j<n0*ec
    ·rw[List.getElem?_range hj] at hu
     simp at hu
     subst hu
     rw[zI8]
     have:=zDe h3 j (by omega)
     simpa using this
    ·rw[List.getElem?_eq_none (by simpa using hj)] at hu;simp at hu
   ·have hj:j<n0*ec:=by have:=(zq1 hx).1;rw[List.length_take] at this;omega
    have h1:=zKo hin hx
    simp only[AV.inert,zq7,Bool.not_eq_true'] at h1
    rw[List.getElem?_take,if_pos hj] at hx
    have h2:=(h5 j x hx).2.1
    refine⟨h1.1.1,h1.1.2,?_⟩
    have:((List.range (n0*ec)).map fun j=>c.getD j undef).getD j undef=c.getD j undef:=by
     rw[zq5,List.getElem?_map,List.getElem?_range hj];rfl
    rw[this];exact h2
 ·split at hc
  ·rename_i l hl
   simp only[Option.some.injEq,Prod.mk.injEq] at hc
   obtain⟨rfl,rfl,rfl⟩:=hc
   obtain⟨vs,hn⟩:=zHg (P:=P) (w:=w) hr hl (fun e he=>(hs e he).1)
   refine⟨zIE size l.length vs,hn.len,hn.cells w.drew (fun b u hb=>by simpa using h.sto.imm b u hb),zB9 ..,zH8 _ (fun e he=>(hs e he).1),fun j x hx=>?_⟩
   obtain⟨e,h1,h2,h3⟩:=zJO l (fun e he=>(hs e he).1) j x hx
   obtain⟨q1,q2,q3⟩:=zH2 hs h1 h2
   refine⟨q1,q2,?_⟩
   have hjl:j<(zIE size l.length vs).length:=by rw[zB9];exact h3
   have:(zIE size l.length vs).getD j undef=vs (j/size) (j%size):=by
    rw[zq5,zq2 hjl]
    exact(zJu (zq2 hjl)).2
   rw[this]
   exact(hn.rep _ _ h1 _ _ h2).monoS (fun _ _ h=>by simp at h)
  ·cases hc
 ·cases hc
def zKE(P:Program)(s:AState)(ts:Array TypeId)(x y:Operand):Option Res:=
 match ts[0]?,ts[1]? with
 |some t,some t2=>match P.underlying t,P.underlying t2 with
  |some (.slice e),some d=>match P.info? e with
   |some i=>match i.zero,zGB s d i.size (s.look y),s.look x with
    |some z,some (side,n,cells),.e0=>some ⟨side∧0<n∧z.cells.size=i.size∧Fits i.bytes n,.msl s.blocks.length i.size n,none,s.push cells⟩
    |_,_,_=>none
   |none=>none
  |_,_=>none
 |_,_=>none
theorem ok_appE(P:Program)(o:Oper)(s:AState)(ts:Array TypeId)(x y:Operand)(ho:o.op=.call {callee:=.builtin .append,args:=#[x,y],argTypes:=ts})(r:Res)
 (hr:zKE P s ts x y=some r) (hs:r.side):OpOk P o s r:=by
 unfold zKE at hr
 split at hr
 case h_2=>cases hr
 rename_i t t2 h0 h1
 split at hr
 case h_2=>cases hr
 rename_i e d ht hu2
 split at hr
 case h_2=>cases hr
 rename_i i hi
 split at hr
 case h_2=>cases hr
 rename_i z side n cells hz hc hx
 cases hr
 obtain⟨hsd,hn,hzs,hby,hfit⟩:=hs
 have hd: ∀k,d≠.int k:=fun k hk=>by subst hk;simp[zGB] at hc
 intro F g a w h
 have he:=zAT h x
 rw[hx] at he
 obtain⟨vals,g1,g2,g3,g4,g5⟩:=appCells_ok (P:=P) h (zAT h y) hc hsd
 generalize hvx:a.eval x=vx at he
 cases he with
 |e0 base=>
  have h63:((0+n:Nat):Int)<=9223372036854775807:=by
   have:n<=n*i.bytes:=Nat.le_mul_of_pos_right _ hby
   omega
  have hrun:=zF3 (P:=P) (w:=w) (ty:=o.type) h0 h1 hu2 hd ht hi hz base 0 0 n (a.eval y) g1 [] vals (by cases base<;>simp[Builtin.firstCells,loadCells,loadCellsFrom]) g2 (by omega) h63 (by simpa using hfit)
  have hge:=grownCap_ge w (0+n) 0 e
  generalize grownCap w (0+n) 0 e=cap' at hrun hge
  simp only[List.append_nil,Nat.zero_add] at hrun
  generalize hcs:#[]++vals.toArray++Builtin.zeroCells z.cells (cap'-n)=c at hrun
  have hsim:=h.drew.alloc cells c e (by rw[<-hcs];simp[g3,g4]) fun j x hx=>by
   obtain⟨p1,p2,p3⟩:=g5 j x hx
   refine .inl ⟨p1,p2,?_⟩
   have hj:j<vals.length:=by have:=(zq1 hx).1;omega
   have:c.getD j undef=vals.getD j undef:=by
    rw[<-hcs,zq6,Array.getElem?_append_left (by simpa using hj)]
    simp[zq5]
   rw[this];exact p3
  refine⟨.slice (some ⟨w.heap.size,0,none⟩) n cap',_,_,none,.inl ?_,hsim,?_,trivial,Floating.none,fun p hp=>by cases hp⟩
  ·simp[execOp,ho,resolve,invoke,builtin,hvx,hrun]
  ·refine .msl _ _ _ w.heap.size cap' ?_ (by omega) ?_
   ·show(g.σ++[w.drew.heap.size])[s.blocks.length]? =_
    rw[<-h.sto.len];simp
   ·have:n<=n*i.bytes:=Nat.le_mul_of_pos_right _ hby
    omega
def zJs(size:EC):AV->Option (List (List AV))
 |.osq ec l=>if ec=size then some l else none
 |_=>none
def zJa(P:Program)(s:AState)(ts:Array TypeId)(x y:Operand):Option Res:=
 match ts[0]?,ts[1]? with
 |some t,some t2=>match P.underlying t,P.underlying t2 with
  |some (.slice e),some d=>match P.info? e with
   |some i=>match i.zero,zHE d (s.look y),zJs ⟨i.size,e⟩ (s.takeV x) with
    |some z,some l2,some l1=>some ⟨zFr i.size l2∧z.cells.size=i.size∧Fits i.bytes (l1.length+l2.length),.osq ⟨i.size,e⟩ (l1++l2),none,s.takeS x⟩
    |_,_,_=>none
   |none=>none
  |_,_=>none
 |_,_=>none
theorem append_coreQ(h:Sim F g s a w){ec0:EC}{l1 l2:List (List AV)}{v x:Value}
 (hr:Rep g.imm g.σ (.osq ec0 l1) v) (ho:OwnsBy g.imm w bo (.osq ec0 l1) v) (hf:Floating F g w bo) {vs2:Nat->Nat->Value} (hn:News P g w ec0.size l2 x vs2) (hok:zFr ec0.size l2)
 {argTypes:Array TypeId} {ty t t2 e:TypeId} {d2:TypeDesc} {i:TypeInfo} {z:Value} (h0:argTypes[0]? =some t) (h1:argTypes[1]? =some t2)
 (hu2:P.underlying t2=some d2) (hd2: ∀k,d2≠.int k) (ht:P.underlying t=some (.slice e)) (hi:P.info? e=some i) (hz:i.zero=some z) (hsz:i.size=ec0.size) (hty:ec0.ty=e) (hzs:z.cells.size=ec0.size)
 (h63:((l1.length+l2.length:Nat):Int)<=9223372036854775807) (hfit:(l1.length+l2.length)*i.bytes<=140737488355328) (hbd:l1.length+l2.length<=281474976710656):
 ∃v' w' g' bo',(Builtin.append_ argTypes ty #[v,x]).run P w=.ok v' w'∧Sim F g' s a w'∧Rep g'.imm g'.σ (.osq ec0 (l1++l2)) v'∧OwnsBy g'.imm w' bo' (.osq ec0 (l1++l2)) v'∧Floating F g' w' bo':=by
 obtain⟨size,ty0⟩:=ec0
 simp only at hsz hty hn hok hzs ⊢
 subst hsz;subst hty
 have hl1: ∀e,e∈l1->e.length=i.size:=by
  intro e he
  cases hr with
  |osq0=>simp at he
  |osq ec l a n cap vs hn' hc hbd' he' hi' hr'=>obtain⟨k,hk⟩:=zqd he;exact he' k e hk
 obtain⟨vs1,hn1⟩:=zHg (P:=P) (w:=w) hr rfl hl1
 have hl2: ∀e,e∈l2->e.length=i.size:=fun e he=>(hok e he).1
 have grow: ∀base cap,v=.slice base l1.length cap->cap<l1.length+l2.length->
  ∃v' w' g' bo',(Builtin.append_ argTypes ty #[v,x]).run P w=.ok v' w'∧Sim F g' s a w'∧Rep g'.imm g'.σ (.osq ⟨i.size,ty0⟩ (l1++l2)) v'∧OwnsBy g'.imm w' bo' (.osq ⟨i.size,ty0⟩ (l1++l2)) v'∧Floating F g' w' bo':=by
  intro base cap hv hcap
  have hdrew: ∀b u,g.imm b=some u->w.drew.cell? b=some u:=fun b u hb=>by simpa using h.sto.imm b u hb
  have hfo:=hn1.cells w.drew hdrew
  rw[hv] at hfo
  have hrun:=zF3 (P:=P) (w:=w) (ty:=ty) h0 h1 hu2 hd2 ht hi hz base l1.length cap l2.length x hn.len (zIE i.size l1.length vs1) (zIE i.size l2.length vs2)
   hfo (hn.cells w.drew hdrew) hcap h63 hfit
  rw[<-hv] at hrun
  have hge:=grownCap_ge w (l1.length+l2.length) cap ty0
  generalize grownCap w (l1.length+l2.length) cap ty0=cap' at hrun hge
  generalize hc:(zIE i.size l1.length vs1).toArray++(zIE i.size l2.length vs2).toArray++Builtin.zeroCells z.cells (cap'-(l1.length+l2.length))=c at hrun
  have hcs:c.size=cap'*i.size:=by
   rw[<-hc]
   simp only[Array.size_append,List.size_toArray,zB9,size_zeroCells,hzs,<-Nat.add_mul]
   congr 1;omega
  obtain⟨r1,r2,r3,r4⟩:=h.drew.row c ty0 ((l1.length+l2.length)*i.size)
  have hm:(l1.length+l2.length)*i.size<=c.size:=by rw[hcs];exact Nat.mul_le_mul_right _ hge
  refine⟨_,_,_,_,hrun,r1,?_,?_,r2⟩
  ·refine .osq ⟨i.size,ty0⟩ _ _ _ _ (fun k j=>c.getD (k*i.size+j) undef) (by simp) hge hbd (fun k el hel=>?_) (fun k el hel j y hy=>?_) (fun k el hel j y hy=>?_)
   ·rcases zBs hel with ⟨_,hk⟩|⟨_,_,hk⟩
    ·exact hl1 el (zq3 hk)
    ·exact hl2 el (zq3 hk)
   ·rw[zI8]
    refine Gh.row_imm_new _ _ _ _ _ ?_ hm
    show k*i.size+j<(l1.length+l2.length)*i.size
    have hk:k<(l1++l2).length:=(zq1 hel).1
    have hj:j<i.size:=by
     have:=(zq1 hy).1
     rcases zBs hel with ⟨_,hk⟩|⟨_,_,hk⟩
     ·rwa [hl1 el (zq3 hk)] at this
     ·rwa [hl2 el (zq3 hk)] at this
    rw[List.length_append] at hk
    have:=Nat.mul_le_mul_right i.size (show k+1<=l1.length+l2.length by omega)
    rw[Nat.add_mul] at this;omega
   ·have hj:=(zq1 hy).1
    rcases zBs hel with ⟨hlt,hk⟩|⟨q,rfl,hk⟩
    ·rw[hl1 el (zq3 hk)] at hj
     have hg:=zIh vs1 hlt hj
     have:c.getD (k*i.size+j) undef=vs1 k j:=by
      rw[<-hc,zq6,Array.append_assoc,Array.getElem?_append_left]
      ·rw[List.getElem?_toArray,hg];rfl
      ·rw[List.size_toArray];exact(zq1 hg).1
     rw[this]
     exact(hn1.rep k el hk j y hy).monoI r4
    ·rw[hl2 el (zq3 hk)] at hj
     have hq:q<l2.length:=(zq1 hk).1
     have hg:=zIh vs2 hq hj
     have:c.getD ((l1.length+q)*i.size+j) undef=vs2 q j:=by
      rw[<-hc,zq6,Array.append_assoc,Array.getElem?_append_right (by rw[List.size_toArray,zB9,Nat.add_mul];omega),List.size_toArray,zB9,
       Array.getElem?_append_left]
      ·rw[List.getElem?_toArray,show(l1.length+q)*i.size+j-l1.length*i.size=q*i.size+j by rw[Nat.add_mul];omega,hg];rfl
      ·rw[List.size_toArray,show(l1.length+q)*i.size+j-l1.length*i.size=q*i.size+j by rw[Nat.add_mul];omega];exact(zq1 hg).1
     rw[this]
     exact(hn.rep q el hk j y hy).monoI r4
  ·intro base' n' cap'' hv'
   simp only[Value.slice.injEq] at hv'
   obtain⟨rfl,rfl,rfl⟩:=hv'
   exact .inr ⟨_,rfl,rfl,by rw[<-hcs];exact r3⟩
 cases hr with
 |osq0=>
  by_cases hl:l2=[]
  ·subst hl
   refine⟨.slice none 0 0,w,g,none,?_,h,.osq0 _,fun base n cap hv=>?_,Floating.none⟩
   ·have h3:=hn.cells w h.sto.imm
    simp only[List.length_nil] at h3
    exact zGR h0 h1 hu2 hd2 ht hi x (hn.len w) (by simpa[zIE] using h3)
   ·cases hv;exact .inl rfl
  ·exact grow none 0 rfl (by simpa using List.length_pos_iff.2 hl)
 |osq ec l b n cap vs hnn hcap hbd1 hel himm hrep=>
  subst hnn
  by_cases hroom:l1.length+l2.length<=cap
  ·by_cases hl:l2=[]
   ·subst hl
    refine⟨.slice (some b) l1.length cap,w,g,bo,?_,h,by simpa using Rep.osq ⟨i.size,ty0⟩ l1 b l1.length cap vs rfl hcap hbd1 hel himm hrep,by simpa using ho,hf⟩
    have h3:=hn.cells w h.sto.imm
    have:=zEy (P:=P) (w:=w) (w':=w) (ty:=ty) h0 h1 hu2 hd2 ht hi b l1.length cap 0 x (hn.len w) [] (by simpa[zIE] using h3) (by simpa using hroom) rfl
    simpa using this
   ·have hpos:=List.length_pos_iff.2 hl
    rcases ho _ _ _ rfl with hlc|⟨b',hb',hbo,hsp⟩
    ·cases hlc
    ·cases hb'
     have h1n: ∀u,u∈zIE i.size l2.length vs2->u.oneCell'=true:=fun u hu=>by
      obtain⟨j,hj0⟩:=zqd hu
      obtain⟨hj,rfl⟩:=zJu hj0
      obtain⟨p1,p2,p3⟩:=zMG hj
      have he:=zq2 p1
      have hy:=zq2 (show j%i.size<l2[j/i.size].length by rw[hl2 _ (List.getElem_mem p1)];exact p2)
      exact(hn.rep _ _ he _ _ hy).oneCell (zH2 hok he hy).1
     have hfits:l1.length*i.size+(zIE i.size l2.length vs2).length<=cap*i.size:=by
      rw[zB9,<-Nat.add_mul];exact Nat.mul_le_mul_right _ hroom
     obtain⟨g',w',e1,e2,e3,e4,e5,e6,e7,e8,e9⟩:=fillList (P:=P) b (cap*i.size) (zIE i.size l2.length vs2) (l1.length*i.size) g w h (by rw[<-hbo];exact hf) hsp hfits h1n
     have hst:=e1 (b.add (l1.length*i.size)) 0 rfl (fun j=>by rw[zKp];simp)
     refine⟨.slice (some b) (l1.length+l2.length) cap,w',g',bo,?_,e2,?_,?_,by rw[hbo];exact e7⟩
     ·exact zEy h0 h1 hu2 hd2 ht hi b l1.length cap l2.length x (hn.len w) _ (hn.cells w h.sto.imm) hroom hst
     ·refine .osq ⟨i.size,ty0⟩ _ _ _ _ (fun k j=>if k<l1.length then vs k j else vs2 (k-l1.length) j) (by simp) hroom hbd (fun k el hk=>?_) (fun k el hk j y hy=>?_) (fun k el hk j y hy=>?_)
      ·rcases zBs hk with ⟨_,hk⟩|⟨_,_,hk⟩
       ·exact hl1 el (zq3 hk)
       ·exact hl2 el (zq3 hk)
      ·rcases zBs hk with ⟨hlt,hk1⟩|⟨q,rfl,hk1⟩
       ·simp only[if_pos hlt];exact e5 _ _ (himm k el hk1 j y hy)
       ·have hj:=(zq1 hy).1
        rw[hl2 el (zq3 hk1)] at hj
        have hg:=zIh vs2 (zq1 hk1).1 hj
        have:=e6 _ _ hg
        rw[if_neg (by omega),show l1.length+q-l1.length=q by omega,Nat.add_mul,Nat.add_assoc];exact this
      ·rcases zBs hk with ⟨hlt,hk1⟩|⟨q,rfl,hk1⟩
       ·simp only[if_pos hlt];exact(hrep k el hk1 j y hy).monoI e5
       ·rw[if_neg (by omega),show l1.length+q-l1.length=q by omega]
        exact(hn.rep q el hk1 j y hy).monoI e5
     ·intro base n cap' hv
      simp only[Value.slice.injEq] at hv
      obtain⟨rfl,rfl,rfl⟩:=hv
      refine .inr ⟨b,rfl,hbo,?_⟩
      rw[zB9,<-Nat.add_mul] at e8;exact e8
  ·exact grow (some b) cap rfl (by omega)
theorem ok_appQ(P:Program)(o:Oper)(s:AState)(ts:Array TypeId)(x y:Operand)(ho:o.op=.call {callee:=.builtin .append,args:=#[x,y],argTypes:=ts})(r:Res)
 (hr:zJa P s ts x y=some r) (hs:r.side):OpOk P o s r:=by
 unfold zJa at hr
 split at hr
 case h_2=>cases hr
 rename_i t t2 h0 h1
 split at hr
 case h_2=>cases hr
 rename_i e d ht hu2
 split at hr
 case h_2=>cases hr
 rename_i i hi
 split at hr
 case h_2=>cases hr
 rename_i z l2 l1 hz hl2 hl1
 cases hr
 obtain⟨hok,hzs,hby,hfit⟩:=hs
 intro F g a w h
 obtain⟨g1,bo,s1,s2,s3,s4,s5,s6⟩:=zJX h x
 have hd: ∀k,d≠.int k:=fun k hk=>by rw[hk] at hl2;simp[zHE] at hl2
 have h63:((l1.length+l2.length:Nat):Int)<=9223372036854775807:=by
  have:l1.length+l2.length<=(l1.length+l2.length)*i.bytes:=Nat.le_mul_of_pos_right _ hby
  omega
 have hbd:l1.length+l2.length<=281474976710656:=by
  have:l1.length+l2.length<=(l1.length+l2.length)*i.bytes:=Nat.le_mul_of_pos_right _ hby
  omega
 have hrep:Rep g1.imm g1.σ (.osq ⟨i.size,e⟩ l1) (a.eval x)∧OwnsBy g1.imm w bo (.osq ⟨i.size,e⟩ l1) (a.eval x):=by
  cases hv:s.takeV x<;>rw[hv] at hl1 s2 s3<;>simp only[zJs,reduceCtorEq] at hl1
  split at hl1
  ·rename_i hec;cases hl1;subst hec;exact⟨s2,s3⟩
  ·cases hl1
 have hy:Rep g1.imm g1.σ (s.look y) (a.eval y):=(zAT h y).mono (fun _ _ h=>by rw[s5];exact h) (fun _ _ h=>by rw[s6];exact h)
 have hnews: ∃vs,News P g1 w i.size l2 (a.eval y) vs:=by
  cases d<;>simp only[zHE,reduceCtorEq] at hl2
  ·split at hl2
   ·rename_i b hb
    cases hl2
    obtain⟨bs,hbs,hbl,_⟩:=zIj h hb
    rw[hbs]
    have hsz1:i.size=1∨zCa b=[]:=by
     cases b with
     |nil=>exact .inr rfl
     |cons c b=>exact .inl ((hok _ (zq9 ..)).1).symm
    rcases hsz1 with hsz1|hnil
    ·rw[hsz1];exact⟨_,news_str hbl⟩
    ·have hb0:b=[]:=by simpa[zCa] using hnil
     subst hb0
     refine⟨fun _ _=>undef,fun w=>?_,fun w' _=>?_,fun i e he=>by simp[zCa] at he⟩
     ·have:bs.size=0:=by rw[zDs,hbl];rfl
      simp[Builtin.lenOf,this,zCa]
     ·simp only[Builtin.firstCells,zCa,List.map_nil,List.length_nil,Sem.run_pure]
      congr 1
      apply Array.ext'
      rw[Array.toList_map,Lib.extract_data]
      simp[zIE]
   ·cases hl2
  ·exact zHg hy hl2 (fun e he=>(hok e he).1)
 obtain⟨vs,hn⟩:=hnews
 obtain⟨v',w',g',bo',e1,e2,e3,e4,e5⟩:=append_coreQ s1 hrep.1 hrep.2 s4 hn hok (ty:=o.type) h0 h1 hu2 hd ht hi hz rfl rfl hzs h63 hfit hbd
 refine⟨v',w',g',bo',.inl ?_,e2,e3,e4,e5,fun p hp=>by cases hp⟩
 simp[execOp,ho,resolve,invoke,builtin,e1]
def zLk(P:Program)(s:AState)(ts:Array TypeId)(x y:Operand):Option Res:=
 match s.takeV x with
 |.e0=>zKE P s ts x y
 |.osq _ _=>zJa P s ts x y
 |_=>zFt P s ts x y
theorem ok_app(P:Program)(o:Oper)(s:AState)(ts:Array TypeId)(x y:Operand)(ho:o.op=.call {callee:=.builtin .append,args:=#[x,y],argTypes:=ts})(r:Res)
 (hr:zLk P s ts x y=some r) (hs:r.side):OpOk P o s r:=by
 unfold zLk at hr
 split at hr
 ·exact ok_appE P o s ts x y ho r hr hs
 ·exact ok_appQ P o s ts x y ho r hr hs
 ·exact ok_append P o s ts x y ho r hr hs
def resTail(P:Program)(s:AState)(t:TypeId)(x lo:Operand):Option Res:=
 match P.underlying t,s.takeV x,s.look lo with
 |some (.slice e),.osq ec l,.int _ n=>match P.info? e with
  |some i=>some ⟨0<=n∧n<=l.length∧i.size=ec.size,.osq ec (l.drop n.toNat),none,s.takeS x⟩
  |none=>none
 |_,_,_=>none
theorem ok_tail(P:Program)(o:Oper)(s:AState)(t:TypeId)(x lo:Operand)(ho:o.op=.slice t x (some lo) none none)(r:Res)(hr:resTail P s t x lo=some r)(hs:r.side):OpOk P o s r:=by
 unfold resTail at hr
 split at hr
 case h_2=>cases hr
 rename_i e ec l k n hu hx hn
 split at hr
 case h_2=>cases hr
 rename_i i hi
 cases hr
 obtain⟨h0,h1,h2⟩:=hs
 intro F g a w h
 obtain⟨g1,bo,s1,s2,s3,s4,s5,s6⟩:=zJX h x
 have vl:=zFK h hn
 rw[hx] at s2 s3
 generalize hvx:a.eval x=vx at s2 s3
 cases s2 with
 |osq0 _=>
  have hn0:n=0:=by simp at h1;omega
  subst hn0
  refine⟨.slice none 0 0,w,g1,none,.inl ?_,s1,by simpa using Rep.osq0 ec,fun base n cap hv=>?_,Floating.none,fun p hp=>by cases hp⟩
  ·simp[execOp,ho,Instr.sliceAt,underlying,hu,Instr.slice,hvx,Instr.sliceBounds,Instr.sliceBound,asIntOf,vl,sizeOf,typeInfo,hi]
  ·cases hv;exact .inl rfl
 |osq _ _ b m cap vs hm hc hbd he hi' hr'=>
  subst hm
  have hnn:n.toNat<=l.length:=by omega
  refine⟨.slice (some (if cap=n.toNat then b else b.add (n.toNat*i.size))) (l.length-n.toNat) (cap-n.toNat),w,g1,bo,.inl ?_,s1,?_,fun base m' cap' hv=>?_,s4,fun p hp=>by cases hp⟩
  ·have e1:n<=(l.length:Int):=h1
   by_cases hcn:cap=n.toNat
   ·simp[execOp,ho,Instr.sliceAt,underlying,hu,Instr.slice,hvx,Instr.sliceBounds,Instr.sliceBound,asIntOf,vl,sizeOf,typeInfo,hi,h0,e1,hcn]
   ·simp[execOp,ho,Instr.sliceAt,underlying,hu,Instr.slice,hvx,Instr.sliceBounds,Instr.sliceBound,asIntOf,vl,sizeOf,typeInfo,hi,h0,e1,hcn]
  ·refine .osq ec _ _ _ _ (fun q j=>vs (n.toNat+q) j) (by simp) (by omega) (by omega) (fun q el hel=>?_) (fun q el hel j y hy=>?_) (fun q el hel j y hy=>?_)
   ·rw[List.getElem?_drop] at hel;exact he _ _ hel
   ·rw[List.getElem?_drop] at hel
    have h3:=hi' _ _ hel j y hy
    have h4:n.toNat+q<l.length:=(zq1 hel).1
    rw[if_neg (by omega),zKp,h2,<-Nat.add_assoc,<-Nat.add_mul];exact h3
   ·rw[List.getElem?_drop] at hel;exact hr' _ _ hel j y hy
  ·cases hv
   rcases s3 _ _ _ rfl with h3|⟨b',h3,h4,h5⟩
   ·cases h3
   ·cases h3
    refine .inr ⟨_,rfl,?_,fun j hj1 hj2=>?_⟩
    ·rw[h4];split
     ·rfl
     ·rw[zFV]
    ·by_cases hcn:cap=n.toNat
     ·rw[hcn] at hj2;simp at hj2
     ·rw[if_neg hcn,zKp,h2]
      rw[Nat.sub_mul] at hj1 hj2
      have h6:n.toNat*ec.size<=l.length*ec.size:=Nat.mul_le_mul_right _ hnn
      exact h5 _ (by omega) (by omega)
def zKC(P:Program)(s:AState)(op:BinOp)(t:TypeId)(x:Operand):Option Res:=
 match P.underlying t,s.look x with
 |some (.slice _),.msl b ec n=>(match op with
  |.eql=>some ⟨True,.bool false,none,s⟩
  |.neq=>some ⟨True,.bool true,none,s⟩
  |_=>none)
 |some (.slice _),v=>match elems v with
  |some l=>(match op with
   |.eql=>some ⟨l≠[],.bool false,none,s⟩
   |.neq=>some ⟨l≠[],.bool true,none,s⟩
   |_=>none)
  |none=>none
 |_,_=>none
theorem run_nilcmp{op:BinOp}{t e:TypeId}{z:AV}(hu:P.underlying t=some (.slice e))(hz:(op=.eql∧z=.bool false)∨(op=.neq∧z=.bool true))(b:Addr)(n cap:Nat)(p q:Operand)(w:World):
 ∃u,(do eqGuard op t p q (.slice (some b) n cap) (.slice none 0 0);binOp op t (.slice (some b) n cap) (.slice none 0 0):Sem Value).run P w=.ok u w∧∀imm σ,Rep imm σ z u:=by
 have hg:(eqGuard op t p q (.slice (some b) n cap) (.slice none 0 0)).run P w=.ok () w:=by unfold eqGuard;split<;>simp
 have he:(Op.equal t (.slice (some b) n cap) (.slice none 0 0)).run P w=.ok false w:=by
  show(Op.equalIn 10000 t (.slice (some b) n cap) (.slice none 0 0)).run P w=_
  unfold Op.equalIn
  simp[underlying,hu]
 rcases hz with ⟨rfl,rfl⟩|⟨rfl,rfl⟩
 ·exact⟨.bool false,by simp only[Sem.run_bind,hg,Result.andThen_ok,binOp];simp[he],fun _ _=>.bool _⟩
 ·exact⟨.bool true,by simp only[Sem.run_bind,hg,Result.andThen_ok,binOp];simp[he],fun _ _=>.bool _⟩
theorem ok_binN(P:Program)(o:Oper)(s:AState)(op:BinOp)(t t':TypeId)(x y:Operand)(ho:o.op=.binOp op t x y t')(hy:s.look y=.nsl)(r:Res)(hr:zKC P s op t x=some r)(hs:r.side):OpOk P o s r:=by
 have key: ∀(e:TypeId)(z:AV),P.underlying t=some (.slice e)->((op=.eql∧z=.bool false)∨(op=.neq∧z=.bool true))->∀F g a w,Sim F g s a w->(∃b n cap,a.eval x=.slice (some b) n cap)->
  ∃v,(execOp a.eval o).run P w=.ok (.value v) w∧Rep g.imm g.σ z v∧(∀p,(none:Option Place)=some p->LoanOk g w a.tmps v p):=fun e z hu hz F g a w h ⟨b,n,cap,hv⟩=>by
  have h2:=zAT h y
  rw[hy] at h2
  have hvy:a.eval y=.slice none 0 0:=by generalize a.eval y=v at h2;cases h2;rfl
  obtain⟨u,h3,h4⟩:=run_nilcmp (P:=P) hu hz b n cap x y w
  refine⟨u,?_,h4 _ _,fun p hp=>by cases hp⟩
  simp only[execOp,ho,Sem.run_bind,hv,hvy] at h3 ⊢
  simp only[h3,Result.andThen_ok,Sem.run_pure]
 unfold zKC at hr
 split at hr
 ·rename_i e b ec n hu hx
  have hb: ∀F g a w,Sim F g s a w->∃b n cap,a.eval x=.slice (some b) n cap:=fun F g a w h=>by
   have:=zAT h x
   rw[hx] at this
   generalize a.eval x=v at this
   cases this
   exact⟨_,_,_,rfl⟩
  split at hr
  ·cases hr;exact .same rfl fun F g a w h=>key e _ hu (.inl ⟨rfl,rfl⟩) F g a w h (hb F g a w h)
  ·cases hr;exact .same rfl fun F g a w h=>key e _ hu (.inr ⟨rfl,rfl⟩) F g a w h (hb F g a w h)
  ·cases hr
 ·rename_i e hu _
  split at hr
  case h_2=>cases hr
  rename_i l hl
  have hb:l≠[]->∀F g a w,Sim F g s a w->∃b n cap,a.eval x=.slice (some b) n cap:=fun hne F g a w h=>by
   obtain⟨base,cap,hv,_,_,hel⟩:=zG5 (zAT h x) hl
   cases l with
   |nil=>exact(hne rfl).elim
   |cons e l=>
    obtain⟨b,_,_,hb,_⟩:=hel 0 e rfl
    subst hb
    exact⟨b,_,_,hv⟩
  split at hr
  ·cases hr;exact .same rfl fun F g a w h=>key e _ hu (.inl ⟨rfl,rfl⟩) F g a w h (hb hs F g a w h)
  ·cases hr;exact .same rfl fun F g a w h=>key e _ hu (.inr ⟨rfl,rfl⟩) F g a w h (hb hs F g a w h)
  ·cases hr
 ·cases hr
def nilI(op:BinOp)(y:Operand)(u:Option TypeDesc)(x:AV):Option AV:=
 match y,u,x with
 |.const _,some (.interface _),.nilif=>(match op with
  |.eql=>some (.bool true)
  |.neq=>some (.bool false)
  |_=>none)
 |.const _,some (.interface _),.iface _ _=>(match op with
  |.eql=>some (.bool false)
  |.neq=>some (.bool true)
  |_=>none)
 |_,_,_=>none
def zKD(P:Program)(s:AState)(op:BinOp)(t:TypeId)(x y:Operand):Option Res:=
 match nilI op y (P.underlying t) (s.look x) with
 |some v=>some ⟨True,v,none,s⟩
 |none=>none
theorem ok_binI(P:Program)(o:Oper)(s:AState)(op:BinOp)(t t':TypeId)(x y:Operand)(ho:o.op=.binOp op t x y t')(hy:s.look y=.nilif)(r:Res)(hr:zKD P s op t x y=some r)(hs:r.side):OpOk P o s r:=by
 unfold zKD at hr
 split at hr
 case h_2=>cases hr
 rename_i v hv
 cases hr
 have hvy: ∀F g a w,Sim F g s a w->a.eval y=.nilIface:=fun F g a w h=>by
  have h2:=zAT h y
  rw[hy] at h2
  generalize a.eval y=z at h2
  cases h2;rfl
 have hown:v.owns=false:=by
  unfold nilI at hv
  split at hv
  ·split at hv<;>cases hv<;>rfl
  ·split at hv<;>cases hv<;>rfl
  ·cases hv
 refine .same hown fun F g a w h=>?_
 have hyv:=hvy F g a w h
 have hxr:=zAT h x
 unfold nilI at hv
 split at hv
 ·rename_i c m hu hx
  rw[hx] at hxr
  have hxv:a.eval x=.nilIface:=by generalize a.eval x=z at hxr;cases hxr;rfl
  have he:(Op.equal t .nilIface .nilIface).run P w=.ok true w:=by
   show(Op.equalIn 10000 t .nilIface .nilIface).run P w=_
   unfold Op.equalIn
   simp[underlying,hu]
  split at hv
  ·cases hv
   refine⟨.bool true,?_,.bool _,fun p hp=>by cases hp⟩
   simp[execOp,ho,hxv,hyv,eqGuard,binOp,he]
  ·cases hv
   refine⟨.bool false,?_,.bool _,fun p hp=>by cases hp⟩
   simp[execOp,ho,hxv,hyv,eqGuard,binOp,he]
  ·cases hv
 ·rename_i c m ty x' hu hx
  rw[hx] at hxr
  have hxv: ∃z,a.eval x=.iface ty z:=by generalize a.eval x=z at hxr;cases hxr;exact⟨_,rfl⟩
  obtain⟨z,hxv⟩:=hxv
  have he:(Op.equal t (.iface ty z) .nilIface).run P w=.ok false w:=by
   show(Op.equalIn 10000 t (.iface ty z) .nilIface).run P w=_
   unfold Op.equalIn
   simp[underlying,hu]
  split at hv
  ·cases hv
   refine⟨.bool false,?_,.bool _,fun p hp=>by cases hp⟩
   simp[execOp,ho,hxv,hyv,eqGuard,binOp,he]
  ·cases hv
   refine⟨.bool true,?_,.bool _,fun p hp=>by cases hp⟩
   simp[execOp,ho,hxv,hyv,eqGuard,binOp,he]
  ·cases hv
 ·cases hv
def resBn(P:Program)(s:AState)(op:BinOp)(t:TypeId)(x y:Operand):Option Res:=
 match s.look y with
 |.nsl=>zKC P s op t x
 |.nilif=>zKD P s op t x y
 |_=>resBin P s op t x y
theorem ok_bn(P:Program)(o:Oper)(s:AState)(op:BinOp)(t t':TypeId)(x y:Operand)(ho:o.op=.binOp op t x y t')(r:Res)(hr:resBn P s op t x y=some r)(hs:r.side):OpOk P o s r:=by
 unfold resBn at hr
 split at hr
 ·rename_i hy;exact ok_binN P o s op t t' x y ho hy r hr hs
 ·rename_i hy;exact ok_binI P o s op t t' x y ho hy r hr hs
 ·exact ok_bin P o s op t t' x y ho r hr hs
def resEmp(P:Program)(s:AState)(t:TypeId):Option Res:=
 match P.underlying t with
 |some (.slice e)=>match P.info? e with
  |some i=>match i.zero with
   |some _=>some ⟨True,.e0,none,s⟩
   |none=>none
  |none=>none
 |_=>none
theorem ok_emp(P:Program)(o:Oper)(s:AState)(t:TypeId)(ho:o.op=.buildSlice t 0 #[])(r:Res)(hr:resEmp P s t=some r)(hs:r.side):OpOk P o s r:=by
 unfold resEmp at hr
 split at hr
 case h_2=>cases hr
 rename_i e hu
 split at hr
 case h_2=>cases hr
 rename_i i hi
 split at hr
 case h_2=>cases hr
 rename_i z hz
 cases hr
 intro F g a w h
 have hrun:(Instr.buildSlice t 0 #[]).run P w=.ok (.slice (some ⟨w.heap.size,0,none⟩) 0 0) (w.alloc (.cells #[] e (0,0))):=by
  simp only[Instr.buildSlice,underlying,Sem.run_bind,run_program,Result.andThen_ok,hu,Sem.run_pure,sizeOf,typeInfo,hi]
  rw[Sem.run_ite,if_neg (by omega),Sem.run_ite,if_pos (by simp)]
  have hr0:(Array.map (fun x=>(default:Value)) (Array.range 0))=#[]:=by apply Array.ext';simp
  simp[Instr.fill,newRow,run_newObj,World.alloc_eq,hr0]
 obtain⟨r1,_⟩:=h.row #[] e 0
 exact⟨.slice (some ⟨w.heap.size,0,none⟩) 0 0,_,_,none,.inl (by simp only[execOp,ho,Sem.run_bind,Array.map_empty,hrun,Result.andThen_ok,Sem.run_pure]),r1,.e0 _,trivial,Floating.none,fun p hp=>by cases hp⟩
def partV(P:Program)(t:TypeId)(cs:List AV)(off:Nat):Option (Prop×AV):=
 match zKa P t,P.underlying t with
 |some false,_=>match (cs.drop off).take (P.cellsOf t) with
  |[x]=>some (x.owns=false,x)
  |_=>none
 |some true,some (.struct _)=>some (True,.agg ((cs.drop off).take (P.cellsOf t)))
 |_,_=>none
theorem partV_ok{xs:List AV}{cs:Array Value}{off:Nat}{c:Prop}{z:AV}(h:partV P t xs off=some (c,z))(hc:c)(hs:cs.size=xs.length)
 (hr: ∀(i:Nat) x,xs[i]? =some x->Rep imm σ x (cs.getD i undef)) (w:World): ∃u,(part t cs off).run P w=.ok u w∧Rep imm σ z u∧z.owns=false:=by
 unfold partV at h
 split at h
 ·rename_i hb
  split at h
  ·rename_i x hx
   cases h
   obtain⟨u,h1,h2⟩:=zG0 (imm:=imm) (σ:=σ) hs hr (zIz hb w) hx
   exact⟨u,h1,h2,hc⟩
  ·cases h
 ·rename_i fs hb ht
  cases h
  obtain⟨u,h1,h2⟩:=zJF (imm:=imm) (σ:=σ) (off:=off) hs hr ht w
  unfold IsV at h2
  rw[ht] at h2
  obtain⟨us,rfl,h3,h4⟩:=h2
  exact⟨_,h1,.agg _ _ h3 h4,rfl⟩
 ·cases h
theorem look_agg(h:Sim F g s a w){cs:List AV}(hx:s.look x=.agg cs): ∃vs,a.eval x=.agg vs∧vs.size=cs.length∧∀(i:Nat)(y:AV),cs[i]? =some y->Rep g.imm g.σ y (vs.getD i undef):=by
 have hr:=zAT h x
 rw[hx] at hr
 generalize a.eval x=u at hr
 cases hr with
 |agg _ vs h1 h2=>exact⟨vs,rfl,h1,h2⟩
def zIT(P:Program)(s:AState)(t:TypeId)(x:Operand)(f:Nat):Option Res:=
 match P.underlying t,s.look x with
 |some (.struct fields),.agg cs=>match fields[f]? with
  |some fd=>match partV P fd.type cs fd.offset with
   |some (c,z)=>some ⟨c,z,none,s⟩
   |none=>none
  |none=>none
 |_,_=>none
theorem ok_field(P:Program)(o:Oper)(s:AState)(t:TypeId)(x:Operand)(f:Nat)(ho:o.op=.field t x f)(r:Res)(hr:zIT P s t x f=some r)(hs:r.side):OpOk P o s r:=by
 unfold zIT at hr
 split at hr
 case h_2=>cases hr
 rename_i fields cs hu hx
 split at hr
 case h_2=>cases hr
 rename_i fd hf
 split at hr
 case h_2=>cases hr
 rename_i c z hp
 cases hr
 intro F g a w h
 obtain⟨vs,hv,h1,h2⟩:=look_agg h hx
 obtain⟨u,h3,h4,h5⟩:=partV_ok (imm:=g.imm) (σ:=g.σ) hp hs h1 h2 w
 refine⟨u,w,g,none,.inl ?_,h,h4,OwnsBy.of_not h5,Floating.none,fun p hp=>by cases hp⟩
 simp[execOp,ho,Instr.field,underlying,hu,hf,hv,asAgg,h3]
def zG3(P:Program)(s:AState)(t:TypeId)(x ix:Operand):Option Res:=
 match P.underlying t,s.look x,s.look ix with
 |some (.array m e),.agg cs,.int _ n=>match P.info? e,partV P e cs (n.toNat*P.cellsOf e) with
  |some _,some (c,z)=>some ⟨(0<=n∧n<m)∧c,z,none,s⟩
  |_,_=>none
 |_,_,_=>none
theorem ok_indexA(P:Program)(o:Oper)(s:AState)(t:TypeId)(x ix:Operand)(ho:o.op=.index t x ix)(r:Res)(hr:zG3 P s t x ix=some r)(hs:r.side):OpOk P o s r:=by
 unfold zG3 at hr
 split at hr
 case h_2=>cases hr
 rename_i m e cs k n hu hx hi
 split at hr
 case h_2=>cases hr
 rename_i j c z hj hp
 cases hr
 obtain⟨hn,hc⟩:=hs
 intro F g a w h
 obtain⟨vs,hv,h1,h2⟩:=look_agg h hx
 obtain⟨u,h3,h4,h5⟩:=partV_ok (imm:=g.imm) (σ:=g.σ) hp hc h1 h2 w
 refine⟨u,w,g,none,.inl ?_,h,h4,OwnsBy.of_not h5,Floating.none,fun p hp=>by cases hp⟩
 have hsz:P.cellsOf e=j.size:=by simp[Program.cellsOf,hj]
 rw[hsz] at h3
 simp only[execOp,ho,hv,zFK h hi,Instr.index,asIntOf,underlying,Sem.run_bind,run_program,Result.andThen_ok,Sem.run_pure,hu,sizeOf,typeInfo,hj]
 rw[Sem.run_ite,if_pos hn]
 simp only[Sem.run_bind,run_program,Result.andThen_ok,hj,Sem.run_pure,h3]
def arrS(P:Program)(t:TypeId):Bool:=
 match P.underlying t with
 |some (.array _ e)=>(match P.underlying e with
  |some (.struct _)=>true
  |_=>false)
 |_=>false
def resIdx(P:Program)(s:AState)(t:TypeId)(x ix:Operand):Option Res:=
 match arrS P t with
 |true=>zG3 P s t x ix
 |false=>zIR P s t x ix
theorem ok_idx(P:Program)(o:Oper)(s:AState)(t:TypeId)(x ix:Operand)(ho:o.op=.index t x ix)(r:Res)(hr:resIdx P s t x ix=some r)(hs:r.side):OpOk P o s r:=by
 unfold resIdx at hr
 split at hr
 ·exact ok_indexA P o s t x ix ho r hr hs
 ·exact ok_index P o s t x ix ho r hr hs
def chunk(ec:Nat):Nat->List AV->List (List AV)
 |0,_=>[]
 |n+1,l=>l.take ec::chunk ec n (l.drop ec)
theorem chunk_len(ec:Nat): ∀(n:Nat)(l:List AV),(chunk ec n l).length=n
 |0,_=>rfl
 |n+1,l=>by simp[chunk,chunk_len ec n]
theorem chunk_get(ec:Nat): ∀(n:Nat)(l:List AV)(i:Nat)(e:List AV),(chunk ec n l)[i]? =some e->i<n∧e=(l.drop (i*ec)).take ec
 |0,_,i,e,h=>by simp[chunk] at h
 |n+1,l,0,e,h=>by simp[chunk] at h;simp[h]
 |n+1,l,i+1,e,h=>by
  simp only[chunk,List.getElem?_cons_succ] at h
  obtain⟨h1,h2⟩:=chunk_get ec n _ i e h
  refine⟨by omega,?_⟩
  rw[h2,List.drop_drop,Nat.add_mul,Nat.one_mul,Nat.add_comm]
mutual
def AV.fz(b:Nat)(blk:List AV):AV->AV
 |.mptr b' o=>if b'=b then .cptr (blk.drop o) else .mptr b' o
 |.msl b' ec n=>if b'=b then (if n*ec<=blk.length then .sl (chunk ec n blk) else .top) else .msl b' ec n
 |.baddr t b'=>if b'=b then .top else .baddr t b'
 |.fn f fs cs=>.fn f (AV.fzL b blk fs) (AV.fzL b blk cs)
 |.iface t v=>.iface t (v.fz b blk)
 |.agg cs=>.agg (AV.fzL b blk cs)
 |.tup cs=>.tup (AV.fzL b blk cs)
 |.otup ec l cs=>.otup ec l (AV.fzL b blk cs)
 |x=>x
def AV.fzL(b:Nat)(blk:List AV):List AV->List AV
 |[]=>[]
 |x::l=>x.fz b blk::AV.fzL b blk l
end
theorem zIg(b:Nat)(blk:List AV): ∀l:List AV,AV.fzL b blk l=l.map (AV.fz b blk)
 |[]=>rfl
 |x::l=>by simp[AV.fzL,zIg b blk l]
theorem zKh(b:Nat)(blk:List AV)(l:List AV):(AV.fzL b blk l).length=l.length:=by rw[zIg,zq4]
theorem Rep.fz{imm imm':Addr->Option Value}{b k:Nat}{blk:List AV}{c:Nat->Value}(hb:σ.length=b+1)(hk:σ[b]? =some k)(hi: ∀a v,imm a=some v->imm' a=some v)
 (hc: ∀(j:Nat) y,blk[j]? =some y->imm' ⟨k,j,none⟩=some (c j)∧Rep imm' [] y (c j)) {x:AV} {v:Value} (h:Rep imm σ x v):Rep imm' (σ.take b) (x.fz b blk) v:=by
 have htake: ∀{σ:List Nat},σ.length=b+1->∀(b' k':Nat),σ[b']? =some k'->b'≠b->(σ.take b)[b']? =some k':=fun hb b' k' h hne=>by
  have:=(zq1 h).1
  rw[List.getElem?_take,if_pos (by omega)];exact h
 induction h with
 |int k n h1=>exact .int k n h1
 |bool b=>exact .bool b
 |str s l h h1=>exact .str s l h h1
 |nilp=>exact .nilp
 |mptr b' off k' h=>
  simp only[AV.fz]
  split
  ·rename_i e
   subst e
   rw[hk] at h;cases h
   refine .cptr _ _ (fun j=>c (off+j)) (fun j y hy=>?_) (fun j y hy=>?_)
   ·rw[List.getElem?_drop] at hy;rw[add_mk];exact(hc _ _ hy).1
   ·rw[List.getElem?_drop] at hy;exact(hc _ _ hy).2
  ·rename_i e;exact .mptr _ _ _ (htake hb _ _ h e)
 |baddr0 t b' h=>
  simp only[AV.fz]
  split
  ·exact .top _
  ·exact .baddr0 _ _ (by rw[List.length_take];omega)
 |baddr t b' k' h=>
  simp only[AV.fz]
  split
  ·exact .top _
  ·rename_i e;exact .baddr _ _ _ (htake hb _ _ h e)
 |cptr cells a vs h r _=>exact .cptr cells a vs (fun j x hj=>hi _ _ (h j x hj)) (fun j x hj=>(r j x hj).monoI hi)
 |nsl=>exact .nsl
 |osl0 ec=>exact .osl0 ec
 |osl ec l a n cap vs hn hc hbd he h r _=>exact .osl ec l a n cap vs hn hc hbd he (fun i e hi' j x hj=>hi _ _ (h i e hi' j x hj)) (fun i e hi' j x hj=>(r i e hi' j x hj).monoI hi)
 |osq0 ec=>exact .osq0 ec
 |osq ec l a n cap vs hn hc hbd he h r _=>exact .osq ec l a n cap vs hn hc hbd he (fun i e hi' j x hj=>hi _ _ (h i e hi' j x hj)) (fun i e hi' j x hj=>(r i e hi' j x hj).monoI hi)
 |sl0=>exact .sl0
 |sl ec l a n cap vs hn hc hbd he h r _=>exact .sl ec l a n cap vs hn hc hbd he (fun i e hi' j x hj=>hi _ _ (h i e hi' j x hj)) (fun i e hi' j x hj=>(r i e hi' j x hj).monoI hi)
 |fn f fs cs fv cv hf hc' _ _ ihf ihc=>
  refine .fn f _ _ fv cv (by rw[zKh];exact hf) (by rw[zKh];exact hc') (fun i x hx=>?_) (fun i x hx=>?_)
  ·rw[zIg] at hx;obtain⟨y,hy,rfl⟩:=getElem?_map_some hx;exact ihf i y hy hb hk
  ·rw[zIg] at hx;obtain⟨y,hy,rfl⟩:=getElem?_map_some hx;exact ihc i y hy hb hk
 |nilfn=>exact .nilfn
 |iface t x v _ ih=>exact .iface t _ v (ih hb hk)
 |nilif=>exact .nilif
 |agg cs vs hs' _ ih=>
  refine .agg _ vs (by rw[zKh];exact hs') (fun i x hx=>?_)
  rw[zIg] at hx;obtain⟨y,hy,rfl⟩:=getElem?_map_some hx;exact ih i y hy hb hk
 |tup cs vs hs' _ ih=>
  refine .tup _ vs (by rw[zKh];exact hs') (fun i x hx=>?_)
  rw[zIg] at hx;obtain⟨y,hy,rfl⟩:=getElem?_map_some hx;exact ih i y hy hb hk
 |msl b' ec n k' cap h hcp hbd=>
  simp only[AV.fz]
  split
  ·rename_i e
   subst e
   rw[hk] at h;cases h
   split
   ·rename_i hle
    have hget: ∀(i:Nat)(e:List AV),(chunk ec n blk)[i]? =some e->e.length=ec∧∀(j:Nat) x,e[j]? =some x->blk[i*ec+j]? =some x:=fun i e he=>by
     obtain⟨h1,rfl⟩:=chunk_get ec n blk i e he
     have h2:=Nat.mul_le_mul_right ec (show i+1<=n by omega)
     rw[Nat.add_mul] at h2
     refine⟨by rw[List.length_take,List.length_drop];omega,fun j x hx=>?_⟩
     rw[List.getElem?_take] at hx
     split at hx
     ·rwa [List.getElem?_drop] at hx
     ·cases hx
    refine .sl ec _ _ n cap (fun i j=>c (i*ec+j)) (chunk_len ec n blk).symm hcp hbd (fun i e he=>(hget i e he).1) (fun i e he j x hx=>?_) (fun i e he j x hx=>?_)
    ·rw[zI8];exact(hc _ _ ((hget i e he).2 j x hx)).1
    ·exact(hc _ _ ((hget i e he).2 j x hx)).2
   ·exact .top _
  ·rename_i e;exact .msl _ _ _ _ _ (htake hb _ _ h e) hcp hbd
 |e0 b=>exact .e0 b
 |omp ks vs k=>exact .omp ks vs k
 |mpx o=>exact .mpx o
 |otup ec l cs vs hs' _ _ ih0 ih=>
  refine .otup ec l _ vs (by rw[zKh];exact hs') (ih0 hb hk) (fun i x hx=>?_)
  rw[zIg] at hx;obtain⟨y,hy,rfl⟩:=getElem?_map_some hx;exact ih i y hy hb hk
 |top v=>exact .top v
def AState.lb(s:AState):Nat:=s.blocks.length-1
def AState.lblk(s:AState):List AV:=s.blocks.getD s.lb []
def AState.fz(s:AState):AState:=
 {tmps:=fun t=>(s.tmps t).fz s.lb s.lblk,loans:=fun _=>none,n:=s.n,base:=s.base,blocks:=(s.blocks.take s.lb).map (AV.fzL s.lb s.lblk)}
def okFz(b:Nat)(blk:List AV):AV->Bool
 |.baddr _ b'=>b' !=b
 |x=>(x.fz b blk).one
def okFzL(b:Nat)(blk:List AV):List AV->Bool
 |[]=>true
 |x::l=>okFz b blk x&&okFzL b blk l
def okFzB(b:Nat)(blk:List AV):List (List AV)->Bool
 |[]=>true
 |x::l=>okFzL b blk x&&okFzB b blk l
def FzOk(s:AState):Prop:=s.base<s.blocks.length∧s.lblk.all AV.inert=true∧okFzB s.lb s.lblk (s.blocks.take s.lb)=true
theorem okFzL_get{b:Nat}{blk:List AV}: ∀{l:List AV},okFzL b blk l=true->∀{i:Nat}{x:AV},l[i]? =some x->okFz b blk x=true
 |[],_,i,x,hx=>by simp at hx
 |y::l,h,i,x,hx=>by
  simp only[okFzL,zq7] at h
  cases i with
  |zero=>simp at hx;subst hx;exact h.1
  |succ i=>exact okFzL_get h.2 (by simpa using hx)
theorem okFzB_get{b:Nat}{blk:List AV}: ∀{l:List (List AV)},okFzB b blk l=true->∀{i:Nat}{x:List AV},l[i]? =some x->okFzL b blk x=true
 |[],_,i,x,hx=>by simp at hx
 |y::l,h,i,x,hx=>by
  simp only[okFzB,zq7] at h
  cases i with
  |zero=>simp at hx;subst hx;exact h.1
  |succ i=>exact okFzB_get h.2 (by simpa using hx)
theorem OwnsBy.fz{imm imm':Addr->Option Value}{b:Nat}{blk:List AV}{x:AV}(h:OwnsBy imm w bo x v)
 (hs: ∀a lo hi,bo=some a.block->Spare imm w a lo hi->Spare imm' w a lo hi) (hi: ∀a v,imm a=some v->imm' a=some v):OwnsBy imm' w bo (x.fz b blk) v:=by
 cases x with
 |osl ec l=>exact h.world hs (fun _ _ _ h=>h) hi fun _ _ _ _ h=>h
 |osq ec l=>exact h.world hs (fun _ _ _ h=>h) hi fun _ _ _ _ h=>h
 |mptr b' o=>simp only[AV.fz];split<;>trivial
 |msl b' ec n=>
  simp only[AV.fz]
  split
  ·split<;>trivial
  ·trivial
 |baddr t b'=>simp only[AV.fz];split<;>trivial
 |omp ks vs=>exact h.world hs (fun _ _ _ h=>h) hi fun _ _ _ _ h=>h
 |otup ec l cs=>exact(h.world hs (fun _ _ _ h=>h) hi fun _ _ _ _ h=>h:OwnsBy imm' w bo (.otup ec l cs) v)
 |_=>trivial
theorem Sim.fz(h:Sim F g s a w)(hok:FzOk s):
 ∃g',Sim F g' s.fz a w∧∀x v,Rep g.imm g.σ x v->Rep g'.imm g'.σ (x.fz s.lb s.lblk) v:=by
 obtain⟨h0,h1,h2⟩:=hok
 have hlen:s.blocks.length=s.lb+1:=by unfold AState.lb;omega
 have hσl:g.σ.length=s.lb+1:=by rw[h.sto.len,hlen]
 have hbl:s.blocks[s.lb]? =some s.lblk:=zB7 [] (by omega)
 have hlt:s.lb<g.σ.length:=by omega
 have hk:g.σ[s.lb]? =some g.σ[s.lb]:=zq2 hlt
 generalize g.σ[s.lb]=k at hk
 obtain⟨c,ty,c1,c2,c3⟩:=h.sto.blk s.lb _ k hbl hk
 have hkm:k∈g.σ:=zq3 hk
 have hold: ∀x v,g.imm x=some v->(g.row k c s.lblk.length).imm x=some v:=fun x v hx=>by
  simp only[Gh.row]
  rw[if_neg (fun e=>h.sto.immσ x v hx (by rw[e];exact hkm))];exact hx
 have hin: ∀x v,(g.row k c s.lblk.length).imm x=some v->g.imm x=some v∨(x.block=k∧w.cell? x=some v):=fun x v hx=>by
  simp only[Gh.row] at hx
  split at hx
  ·rename_i e
   split at hx
   ·rename_i e2
    obtain⟨xb,xo,xs⟩:=x
    simp only at e e2 hx
    obtain⟨e3,e4⟩:=e2
    subst e;subst e3
    refine .inr ⟨rfl,?_⟩
    rw[zDe c1 xo (by omega),zq6,hx];rfl
   ·cases hx
  ·exact .inl hx
 have hcells: ∀(j:Nat) y,s.lblk[j]? =some y->(g.row k c s.lblk.length).imm ⟨k,j,none⟩=some (c.getD j undef)∧Rep (g.row k c s.lblk.length).imm [] y (c.getD j undef):=fun j y hy=>by
  refine⟨Gh.row_imm_new g k c _ j (zq1 hy).1 c2,?_⟩
  have h3:=zKo h1 hy
  simp only[AV.inert,zq7,Bool.not_eq_true'] at h3
  exact((c3 j y hy).2.1.flat h3.2).monoI hold
 have hrep: ∀x v,Rep g.imm g.σ x v->Rep (g.row k c s.lblk.length).imm (g.σ.take s.lb) (x.fz s.lb s.lblk) v:=fun x v hx=>hx.fz hσl hk hold hcells
 have hmem: ∀k',k'∈g.σ.take s.lb->k'∈g.σ∧k'≠k:=fun k' hk'=>by
  refine⟨List.mem_of_mem_take hk',fun e=>?_⟩
  subst e
  obtain⟨i,hi⟩:=zqd hk'
  rw[List.getElem?_take] at hi
  split at hi
  ·rename_i hlt'
   have a1:=zq1 hi
   have a2:=zq1 hk
   obtain⟨l1,e1⟩:=a1;obtain⟨l2,e2⟩:=a2
   have:=zH4 h.sto.nodup l1 l2 (by rw[e1,e2])
   omega
  ·cases hi
 have hspare: ∀p (x:Addr) lo hi,g.own p=some x.block->Spare g.imm w x lo hi->Spare (g.row k c s.lblk.length).imm w x lo hi:=fun p x lo hi hp hs j h3 h4=>by
  obtain⟨q1,q2,q3⟩:=hs j h3 h4
  refine⟨?_,q2,q3⟩
  cases hn:(g.row k c s.lblk.length).imm (x.add j) with
  |none=>first|rfl|exact hn
  |some u=>
   rcases hin _ _ hn with h5|⟨h5,_⟩
   ·rw[q1] at h5;cases h5
   ·rw[zFV] at h5
    exact((h.sto.ownσ p _ hp).1 (by rw[h5];exact hkm)).elim
 have hown: ∀p k',(match p with|.cell b o=>if b=s.lb then none else g.own (.cell b o)|p=>g.own p)=some k'->g.own p=some k':=fun p k' hp=>by
  cases p with
  |tmp t=>exact hp
  |cell b o=>
   simp only at hp
   split at hp
   ·cases hp
   ·exact hp
 refine⟨{imm:=(g.row k c s.lblk.length).imm,σ:=g.σ.take s.lb,own:=fun p=>match p with|.cell b o=>if b=s.lb then none else g.own (.cell b o)|p=>g.own p},?_,hrep⟩
 exact {
  ext:={h.ext with
   imm:=fun x v hx=>hold x v (h.ext.imm x v hx)
   immNew:=fun x v hx=>by
    rcases hin x v hx with h3|⟨h3,_⟩
    ·exact h.ext.immNew x v h3
    ·exact .inr (by rw[h3];exact h.ext.mineσ k hkm)
   σ:=fun b' k' hb'=>by
    have h3:=h.ext.σ b' k' hb'
    have h4:=(zq1 hb').1
    have h5:=h.base
    show(g.σ.take s.lb)[b']? =_
    rw[List.getElem?_take,if_pos (by omega)];exact h3
   mineσ:=fun k' hk'=>h.ext.mineσ k' (hmem k' hk').1
   mineOwn:=fun p k' hp=>h.ext.mineOwn p k' (hown p k' hp)}
  sto:={
   gok:=h.sto.gok.mono hold
   imm:=fun x v hx=>by
    rcases hin x v hx with h3|⟨_,h3⟩
    ·exact h.sto.imm x v h3
    ·exact h3
   immσ:=fun x v hx hm=>by
    rcases hin x v hx with h3|⟨h3,_⟩
    ·exact h.sto.immσ x v h3 (hmem _ hm).1
    ·exact(hmem _ hm).2 h3
   len:=by simp[AState.fz,hσl,hlen]
   nodup:=h.sto.nodup.sublist (List.take_sublist _ _)
   blk:=fun i blk' k' hb' hk'=>by
    simp only[AState.fz] at hb'
    obtain⟨bl,hb2,rfl⟩:=getElem?_map_some hb'
    have hok2:=okFzB_get h2 hb2
    rw[List.getElem?_take] at hb2 hk'
    split at hb2
    case isFalse=>cases hb2
    rename_i hi
    rw[if_pos hi] at hk'
    obtain⟨c',ty',d1,d2,d3⟩:=h.sto.blk i bl k' hb2 hk'
    refine⟨c',ty',d1,by rw[zKh];exact d2,fun j x hx=>?_⟩
    rw[zIg] at hx
    obtain⟨y,hy,rfl⟩:=getElem?_map_some hx
    obtain⟨e1,e2,e3⟩:=d3 j y hy
    have hok3:=okFzL_get hok2 hy
    refine⟨?_,hrep _ _ e2,?_⟩
    ·rcases e1 with e1|⟨e0,b',e1⟩
     ·left
      cases y<;>first|exact hok3|simp at e1
     ·subst e1
      right
      simp only[okFz,bne_iff_ne,ne_eq] at hok3
      exact⟨by rw[zKh];exact e0,b',by simp[AV.fz,hok3]⟩
    ·show OwnsBy _ w (if i=s.lb then none else g.own (.cell i j)) _ _
     rw[if_neg (by omega)]
     exact e3.fz (fun x lo hi hx hs=>hspare _ x lo hi hx hs) hold
   ownσ:=fun p k' hp=>⟨fun hm=>(h.sto.ownσ p k' (hown p k' hp)).1 (hmem _ hm).1,(h.sto.ownσ p k' (hown p k' hp)).2⟩
   ownInj:=fun p q k' hp hq=>h.sto.ownInj p q k' (hown p k' hp) (hown q k' hq)}
  size:=h.size
  tmps:=fun t=>⟨hrep _ _ (h.tmps t).1,(h.tmps t).2.fz (fun x lo hi hx hs=>hspare _ x lo hi hx hs) hold⟩
  loans:=fun t p hp=>by cases hp
  defers:=h.defers
  base:=h.base}
end Go.Abs
