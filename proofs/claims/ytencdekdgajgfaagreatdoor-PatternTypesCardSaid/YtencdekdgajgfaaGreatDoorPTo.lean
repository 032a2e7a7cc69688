/- For every input the law PatternTypes returns true. Part 15 of 21. No condition. -/
import Derived.Test.YtencdekdgajgfaaGreatDoorPTn
import Derived.OwnWalk
import Derived.Maps.AppendAt
import Derived.Lib.OwnBridge
set_option linter.unusedVariables false
set_option linter.unnecessarySimpa false
set_option linter.unusedSimpArgs false
set_option maxRecDepth 100000
set_option maxHeartbeats 1000000
namespace Go.Proofs.YtencdekdgajgfaaGreatDoor
open Go Go.Abs Go.RowKit Go.Sort
structure Stop1 (p:Prop):Prop where
 out:p
def RC(imm:Addr->Option Value)(x:zLm)(us:Array Value):Prop:=us.size=6∧∀(i:Nat) y,(zLm.c x)[i]? =some y->Rep imm [] y (us.getD i undef)
theorem RC.mono{imm imm':Addr->Option Value}(h: ∀x v,imm x=some v->imm' x=some v){x:zLm}{us:Array Value}(hr:RC imm x us):RC imm' x us:=⟨hr.1,fun i y hy=>(hr.2 i y hy).monoI h⟩
theorem zJF{w w':World}(h:Tabs w)(hb:Below w.heap.size w w'):Tabs w':=fun t ht=>by
 obtain⟨ty,fr,h1⟩:=h t ht
 have hlt:t.1<w.heap.size:=(Array.getElem?_eq_some_iff.1 h1).1
 exact⟨ty,fr,by rw[hb.block _ hlt];exact h1⟩
theorem valid_calls{fuel:Nat}{c:zLm}{v:Bool}(h:zA8 fuel c=some v){imm:Addr->Option Value}{w:World}{us:Array Value}(him: ∀x v,imm x=some v->w.cell? x=some v)(hgl:GOk imm)(htb:Tabs w)(hr:RC imm c us):
 Calls Tryz.prog 29 #[.agg us] w fun e w'=>e=.returned (.bool v)∧Below w.heap.size w w':=by
 have hp:=zCI fuel c v h
 refine(hp.2 imm w #[.agg us] him hgl htb ⟨rfl,fun i x hx=>?_⟩).mono fun e w' he=>?_
 ·rcases i with _|i
  ·simp only[List.getElem?_cons_zero,Option.some.injEq] at hx
   subst hx
   refine .agg _ _ (by rw[hr.1];simp) fun i y hy=>?_
   exact hr.2 i y (by simpa using hy)
  ·simp at hx
 ·obtain⟨imm',v',rfl,h1,_,_,h2,_⟩:=he
  cases h1
  exact⟨rfl,h2⟩
theorem zJw{fuel:Nat}{c z:zLm}(h:zCk fuel c=some z){imm:Addr->Option Value}{w:World}{us:Array Value}(him: ∀x v,imm x=some v->w.cell? x=some v)(hgl:GOk imm)(htb:Tabs w)(hr:RC imm c us):
 Calls Tryz.prog 184 #[.agg us] w fun e w'=> ∃zs imm',e=.returned (.agg zs)∧RC imm' z zs∧(∀x v,imm x=some v->imm' x=some v)∧(∀x v,imm' x=some v->w'.cell? x=some v)∧Below w.heap.size w w'∧
  (∀x v,imm' x=some v->imm x=some v∨w.heap.size<=x.block):=by
 have hp:=zJ7 fuel c z h
 refine(hp.2 imm w #[.agg us] him hgl htb ⟨rfl,fun i x hx=>?_⟩).mono fun e w' he=>?_
 ·rcases i with _|i
  ·simp only[List.getElem?_cons_zero,Option.some.injEq] at hx
   subst hx
   refine .agg _ _ (by rw[hr.1];simp) fun i y hy=>?_
   exact hr.2 i y (by simpa using hy)
  ·simp at hx
 ·obtain⟨imm',v',rfl,h1,h2,h3,h4,h5⟩:=he
  cases h1 with
  |agg _ vs hs hr'=>
   exact⟨vs,imm',rfl,⟨by simpa using hs,fun i y hy=>hr' i y (by simpa using hy)⟩,h2,h3,h4,h5⟩
theorem six{us:Array Value}(h:us.size=6): ∃v0 v1 v2 v3 v4 v5,us=#[v0,v1,v2,v3,v4,v5]:=by
 obtain⟨l⟩:=us
 match l,h with
 |[v0,v1,v2,v3,v4,v5],_=>exact⟨v0,v1,v2,v3,v4,v5,rfl⟩
def RL(imm:Addr->Option Value)(l:List zLm)(xs:List Value):Prop:= ∀(j:Nat) a,l[j]? =some a->∀(i:Nat) y,(zLm.c a)[i]? =some y->Rep imm [] y (xs.getD (j*6+i) undef)
def ZC:Array Value:=#[.int .i64 0,.int .i64 0,.string ⟨#[]⟩,.slice none 0 0,.slice none 0 0,.slice none 0 0]
def SpRel(fuel:Nat)(imm:Addr->Option Value)(w:World)(o:zLm×List zLm)(k:Nat)(v:Value)(wr:World):Prop:=
 ∃(x:zLm) (l:List zLm) (us:Array Value) (imm1:Addr->Option Value) (xs:List Value),
  zBv fuel k x l=some o∧RC imm x us∧wr.heap[w.heap.size]? =some (.cells us 31 (0,0))∧wr.heap[w.heap.size+1]? =some (.cells ZC 31 (0,0))∧
  wr.ownsRow (w.heap.size+2) 31 6 v l.length xs∧RL imm1 l xs∧(∀a u,imm a=some u->imm1 a=some u)∧(∀a u,imm1 a=some u->wr.cell? a=some u)∧
  (∀a u,imm1 a=some u->imm a=some u∨(w.heap.size+2<=a.block∧some a.block≠v.ownBlock))∧Below w.heap.size w wr∧w.heap.size+2<=wr.heap.size∧l.length*104<=140737488355328
theorem zFQ{w:World}{k:Nat}{c:Array Value}{t:TypeId}(h:w.heap[k]? =some (.cells c t (0,0)))(j:Nat):w.cell? ⟨k,j,none⟩=c[j]? :=by
 unfold World.cell?;simp[h]
theorem frozen_row{w:World}{k:Nat}{c:Array Value}{t:TypeId}(h:w.heap[k]? =some (.cells c t (0,0)))(j:Nat):w.frozen? ⟨k,j,none⟩=false:=by
 unfold World.frozen?;simp[h]
theorem own_below{w w':World}{base size n:Nat}{e:TypeId}{v:Value}{xs:List Value}(h:w.ownsRow base e size v n xs)(hb:Below w.heap.size w w'):w'.ownsRow base e size v n xs:=by
 refine⟨h.1,?_⟩
 rcases h.2 with h2|⟨g,cap,cur,hv,hbg,hg,hr⟩
 ·exact .inl h2
 ·exact .inr ⟨g,cap,cur,hv,hbg,by rw[hb.block g (Array.getElem?_eq_some_iff.1 hg).1];exact hg,hr⟩
theorem info_con:((Tryz.prog.info? 31).bind fun i=>i.zero.map fun z=>(z.cells.size,i.size,i.bytes))=some (6,6,104):=by kernel_rfl
theorem info_con': ∃i z,Tryz.prog.info? 31=some i∧i.zero=some z∧i.size=6∧i.bytes=104∧z.cells.size=6:=by
 have h:=info_con
 cases hi:Tryz.prog.info? 31 with
 |none=>rw[hi] at h;cases h
 |some i=>
  rw[hi] at h
  cases hz:i.zero with
  |none=>simp[hz] at h
  |some z=>simp[hz] at h;exact⟨i,z,rfl,hz,h.2.1,h.2.2,h.1⟩
theorem und_con:Tryz.prog.underlying 29=some (.slice 31):=by kernel_rfl
theorem RC.one{imm:Addr->Option Value}{x:zLm}{us:Array Value}(h:RC imm x us): ∀v∈us.toList,v.oneCell'=true:=fun v hv=>by
 obtain⟨i,hi,rfl⟩:=List.getElem_of_mem hv
 have h6:i<6:=by have:=h.1;simpa[this] using hi
 have hg:us.toList[i]=us.getD i undef:=by simp at hi;simp[Array.getD,hi]
 rw[hg]
 rcases i with _|_|_|_|_|_|i
 ·exact(h.2 0 (.int .i64 x.Op) (by simp)).oneCell rfl
 ·exact(h.2 1 (.int .i64 x.N) (by simp)).oneCell rfl
 ·exact(h.2 2 (.str x.S) (by simp)).oneCell rfl
 ·exact(h.2 3 (.sl (x.Kind.L.map zLl.c)) (by simp)).oneCell rfl
 ·exact(h.2 4 (.sl (x.Names.map cS)) (by simp)).oneCell rfl
 ·exact(h.2 5 (.sl (x.L.map zLm.c)) (by simp)).oneCell rfl
 ·omega
theorem cells_new(w:World)(xs:List Value)(t:TypeId): ∀j u,xs[j]? =some u->(w.alloc (.cells xs.toArray t)).cell? ((⟨w.heap.size,0,none⟩:Addr).add j)=some u:=by
 intro j u hj
 rw[Addr.add_lit,World.cell?_alloc_mark,Nat.zero_add,List.getElem?_toArray]
 exact hj
theorem zGm(P:Program){w:World}{B:Nat}{cur cur':Array Value}{T:TypeId}{i:Nat}{v:Value}(hg:w.heap[B]? =some (.cells cur T (0,0)))(hi:i<cur.size)(h1:v.oneCell'=true)(hc:cur.setIfInBounds i v=cur')(W:World)(hW:w.setRow B cur'=W):
 Sem.run P (store ⟨B,i,none⟩ v) w=.ok () W:=by
 subst hW hc
 rw[run_store P w _ v _ h1,zFQ hg,zqe hi]
 simp[frozen_row hg,setCell_eq_setRow w B i cur T (0,0) v hg]
theorem zKl(x:zLm):(zLm.c x).length=6:=by simp
theorem slice_parts{imm:Addr->Option Value}{L:List zLm}{v:Value}(h:Rep imm [] (.sl (L.map zLm.c)) v)(hL:0<L.length):
 ∃a n cap,v=.slice (some a) n cap∧n=L.length∧∀(i:Nat) y,L[i]? =some y->∃y0 y1 y2 y3 y4 y5,RC imm y #[y0,y1,y2,y3,y4,y5]∧imm (a.add (i*6))=some y0∧imm (a.add (i*6+1))=some y1∧imm (a.add (i*6+2))=some y2∧
  imm (a.add (i*6+3))=some y3∧imm (a.add (i*6+4))=some y4∧imm (a.add (i*6+5))=some y5:=by
 generalize hl:L.map zLm.c=l at h
 cases h with
 |sl0=>
  have h0:L.length=0:=by simpa using congrArg List.length hl
  omega
 |sl ec _ a n cap vs hn hc hbd he hI hr=>
  subst hl
  have hec:ec=6:=by
   have h0:(L.map zLm.c)[0]? =some (zLm.c L[0]):=by rw[List.getElem?_map,zq2 hL];rfl
   have:=he 0 _ h0
   rw[zKl] at this;exact this.symm
  subst hec
  refine⟨a,n,cap,rfl,by simpa using hn,fun i y hy=>?_⟩
  have hi:(L.map zLm.c)[i]? =some (zLm.c y):=by rw[List.getElem?_map,hy];rfl
  have hk: ∀j,j<6->imm (a.add (i*6+j))=some (vs i j):=fun j hj=>by
   have hj':j<(zLm.c y).length:=by rw[zKl];exact hj
   exact hI i _ hi j _ (zq2 hj')
  refine⟨vs i 0,vs i 1,vs i 2,vs i 3,vs i 4,vs i 5,⟨rfl,fun j z hz=>?_⟩,by simpa using hk 0 (by omega),hk 1 (by omega),hk 2 (by omega),hk 3 (by omega),hk 4 (by omega),hk 5 (by omega)⟩
  have hj:j<6:=by have:=(zq1 hz).1;rwa [zKl] at this
  have hrr:=hr i _ hi j z hz
  have:((#[vs i 0,vs i 1,vs i 2,vs i 3,vs i 4,vs i 5]:Array Value).getD j undef)=vs i j:=by
   rcases j with _|_|_|_|_|_|j<;>first|rfl|omega
  rw[this];exact hrr
theorem getD_left{a b:List Value}{i:Nat}(h:i<a.length):(a++b).getD i undef=a.getD i undef:=by
 rw[zq5,zq5,List.getElem?_append_left h]
theorem getD_right{a b:List Value}{i:Nat}(h:a.length<=i):(a++b).getD i undef=b.getD (i-a.length) undef:=by
 rw[zq5,zq5,List.getElem?_append_right h]
def oneV(v:Value):Value:=if v.oneCell' then v else .int .i64 0
theorem oneV_one(v:Value):(oneV v).oneCell'=true:=by unfold oneV;split<;>first|assumption|rfl
def encV(xs:List Value)(j:Nat):List Value:=(List.range 6).map fun i=>oneV (xs.getD (j*6+i) undef)
theorem encV_len(xs:List Value)(j:Nat):(encV xs j).length=6:=by simp[encV]
theorem encV_get(xs:List Value)(j c:Nat)(hc:c<6):(encV xs j)[c]! =oneV (xs.getD (j*6+c) undef):=by
 rw[getElem!_pos _ _ (by rw[encV_len];exact hc)]
 simp[encV]
theorem con_at(x:zLm){i:Nat}(hi:i<6): ∃y,(zLm.c x)[i]? =some y∧y.one=true:=by
 rcases i with _|_|_|_|_|_|i
 ·exact⟨.int .i64 x.Op,by simp,rfl⟩
 ·exact⟨.int .i64 x.N,by simp,rfl⟩
 ·exact⟨.str x.S,by simp,rfl⟩
 ·exact⟨.sl (x.Kind.L.map zLl.c),by simp,rfl⟩
 ·exact⟨.sl (x.Names.map cS),by simp,rfl⟩
 ·exact⟨.sl (x.L.map zLm.c),by simp,rfl⟩
 ·omega
theorem RL.one{imm:Addr->Option Value}{l:List zLm}{xs:List Value}(h:RL imm l xs){j i:Nat}(hj:j<l.length)(hi:i<6):oneV (xs.getD (j*6+i) undef)=xs.getD (j*6+i) undef:=by
 obtain⟨y,hy,h1⟩:=con_at l[j] hi
 have:=(h j l[j] (zq2 hj) i y hy).oneCell h1
 unfold oneV
 rw[if_pos this]
theorem rev_calls{imm1:Addr->Option Value}{wr:World}{base:Nat}{v:Value}{l:List zLm}{xs:List Value}(hown:wr.ownsRow base 31 6 v l.length xs)(hrl:RL imm1 l xs)
 (hi2: ∀a u,imm1 a=some u->wr.cell? a=some u) (hne: ∀a u,imm1 a=some u->some a.block≠v.ownBlock) (h104:l.length*104<=140737488355328):
 Calls Tryz.prog 185 #[v] wr fun e w'=> ∃imm3,e=.returned (.tuple #[])∧Rep imm3 [] (.sl (l.reverse.map zLm.c)) v∧(∀a u,imm1 a=some u->imm3 a=some u)∧(∀a u,imm3 a=some u->w'.cell? a=some u)∧
  (∀a u,imm3 a=some u->imm1 a=some u∨(base<=a.block))∧Below base wr w':=by
 rcases hown.2 with ⟨rfl,hn⟩|⟨g,cap,cur,rfl,hbg,hg,hnc,hcm,hcs,htake⟩
 ·obtain rfl:l=[]:=List.eq_nil_of_length_eq_zero hn
  refine(AnyQ.slices_Reverse_empty Tryz.revCon none 0 wr).mono ?_
  rintro e w' ⟨rfl,rfl⟩
  exact⟨imm1,rfl,.sl0,fun _ _ h=>h,hi2,fun _ _ h=>.inl h,Below.refl _ _⟩
 ·have hxs: ∀t,t<l.length*6->cur[t]? =some (xs.getD t undef):=fun t ht=>by
   have h1:t<xs.length:=by rw[hown.1];exact ht
   have h2:xs[t]? =cur.toList[t]? :=by rw[<-htake,List.getElem?_take,if_pos ht]
   rw[<-Array.getElem?_toList,<-h2,zq2 h1,zq5,zq2 h1];rfl
  have hone: ∀t,t<l.length*6->oneV (xs.getD t undef)=xs.getD t undef:=fun t ht=>by
   have:=hrl.one (j:=t/6) (i:=t%6) (by omega) (by omega)
   rwa [show t/6*6+t%6=t by omega] at this
  have hH:HoldsK (encV xs) 6 wr g 0 (Array.range l.length):=fun t ht=>by
   rw[size_flatK,Array.size_range] at ht
   rw[Nat.zero_add,zFQ hg,hxs t ht,frozen_row hg,get_flatK _ _ _ _ (by simpa using ht)]
   refine⟨?_,rfl⟩
   rw[encV_get _ _ _ (by omega),getElem!_pos (Array.range l.length) (t/6) (by simp;omega),Array.getElem_range,show t/6*6+t%6=t by omega,hone t ht];rfl
  have hc:=AnyQ.slices_Reverse Tryz.revCon 6 Tryz.isAgg31 Tryz.sizeOf31 (encV xs) (encV_len xs) (fun x v hv=>by
   unfold encV at hv
   obtain⟨i,_,rfl⟩:=List.mem_map.1 hv
   exact oneV_one _) g 0 cap (Array.range l.length) wr hH (by simp;omega)
  rw[Array.size_range] at hc
  refine hc.mono ?_
  rintro e w' ⟨rfl,q,rfl⟩
  have hH':HoldsK (encV xs) 6 (putRowK (encV xs) 6 (Sort.ahead wr q) g 0 (Array.range l.length).reverse) g 0 (Array.range l.length).reverse:=holdsK_putRowK _ _ _ _ _ _ _ (holdsK_ahead _ _ _ _ _ _ _ hH) (by simp)
  refine⟨fun a=>if a.block=g then (putRowK (encV xs) 6 (Sort.ahead wr q) g 0 (Array.range l.length).reverse).cell? a else imm1 a,rfl,?_,fun a u ha=>?_,fun a u ha=>?_,fun a u ha=>?_,Lib.below_putRow (Below.refl _ _) hbg⟩
  ·have hget: ∀(i:Nat) e,(l.reverse.map zLm.c)[i]? =some e->∃hi:i<l.length,e=zLm.c l[l.length-1-i]:=fun i e he=>by
    obtain⟨hi,he⟩:=zq1 he
    simp at hi
    refine⟨hi,?_⟩
    rw[<-he]
    simp
   refine .sl 6 _ _ _ _ (fun i j=>xs.getD ((l.length-1-i)*6+j) undef) (by simp) hnc (by omega) (fun i e he=>?_) (fun i e he j x hx=>?_) (fun i e he j x hx=>?_)
   ·obtain⟨hi,rfl⟩:=hget i e he;exact zKl _
   ·obtain⟨hi,rfl⟩:=hget i e he
    have hj:j<6:=by have:=(zq1 hx).1;rwa [zKl] at this
    have hcell:=(hH'.cell (i:=i) (c:=j) (by simpa using hi) hj).1
    rw[Addr.add_lit]
    simp only[if_true]
    rw[Nat.zero_add,<-Nat.zero_add (i*6+j),<-Nat.add_assoc,hcell,encV_get _ _ _ hj,getElem!_pos _ i (by simpa using hi)]
    simp only[Array.getElem_reverse,Array.getElem_range,Array.size_range]
    rw[hrl.one (by omega) hj]
   ·obtain⟨hi,rfl⟩:=hget i e he
    refine(hrl (l.length-1-i) _ (zq2 (by omega)) j x hx).monoI fun a u ha=>?_
    have:=hne a u ha
    simp only[Value.ownBlock,ne_eq,Option.some.injEq] at this
    simp only[if_neg this,ha]
  ·have:=hne a u ha
   simp only[Value.ownBlock,ne_eq,Option.some.injEq] at this
   simp only[if_neg this,ha]
  ·by_cases hb:a.block=g
   ·simp only[if_pos hb] at ha;exact ha
   ·simp only[if_neg hb] at ha
    rw[cell?_putRowK_other _ _ _ _ _ _ _ hb]
    exact hi2 a u ha
  ·by_cases hb:a.block=g
   ·exact .inr (by omega)
   ·simp only[if_neg hb] at ha
    exact .inl ha
theorem own_setRow{w:World}{base size n B:Nat}{e:TypeId}{v:Value}{xs:List Value}(h:w.ownsRow base e size v n xs)(hB:B<base)(cs:Array Value):(w.setRow B cs).ownsRow base e size v n xs:=by
 refine⟨h.1,?_⟩
 rcases h.2 with h2|⟨g,cap,cur,hv,hbg,hg,hr⟩
 ·exact .inl h2
 ·exact .inr ⟨g,cap,cur,hv,hbg,by rw[setRow_other _ _ _ _ (by omega)];exact hg,hr⟩
theorem zJz{B k:Nat}{a w:World}(h:Below B a w)(hk:B<=k)(cs:Array Value):Below B a (w.setRow k cs):=
 ⟨h.os,h.tape,h.output,by simpa[World.setRow] using h.size,fun i hi=>by rw[setRow_other _ _ _ _ (by omega)];exact h.block i hi⟩
theorem load_con{w:World}{B:Nat}{us:Array Value}(h:w.heap[B]? =some (.cells us 31 (0,0)))(h6:us.size=6):(loadVar 31 ⟨B,0,none⟩).run Tryz.prog w=.ok (.agg us) w:=by
 have hc: ∀c v,us.toList[c]? =some v->w.cell? ((⟨B,0,none⟩:Addr).add c)=some v:=fun c v hv=>by
  rw[Addr.add_lit,Nat.zero_add,zFQ h,<-Array.getElem?_toList];exact hv
 have:=run_loadCellsFrom_list Tryz.prog w ⟨B,0,none⟩ us.toList 6 (by simpa using h6) hc
 simp only[loadVar,Sem.run_bind,Tryz.isAgg31,Result.andThen_ok,if_true,Tryz.sizeOf31,loadCells,this,Sem.run_pure]
theorem spine_any(fuel:Nat)(c:zLm)(o:zLm×List zLm)(z:zLm)(hv:zA8 fuel c=some true)(ho:zBv fuel fuel c []=some o)(hz:zCk fuel o.1=some z)
 (imm:Addr->Option Value) (w:World) (u0 u1 u2 u3 u4 u5:Value) (him: ∀x v,imm x=some v->w.cell? x=some v) (hgl:GOk imm) (htb:Tabs w)
 (ha:RC imm c #[u0,u1,u2,u3,u4,u5]):
 Calls Tryz.prog 152 #[.agg #[u0,u1,u2,u3,u4,u5]] w fun e w'=> ∃imm' v,e=.returned v∧Rep imm' [] (.tup [.agg (zLm.c z),.sl (o.2.reverse.map zLm.c),.int .i64 0]) v∧(∀x v,imm x=some v->imm' x=some v)∧(∀x v,imm' x=some v->w'.cell? x=some v)∧
  Below w.heap.size w w'∧(∀x v,imm' x=some v->imm x=some v∨w.heap.size<=x.block):=by
 have hlt: ∀x v,imm x=some v->x.block<w.heap.size:=fun x v hx=>World.block_lt_of_cell? _ _ (him x v hx)
 have hb2: ∀o o':Obj,Below w.heap.size w ((w.alloc o).alloc o'):=fun o o'=>((Below.refl _ _).alloc (Nat.le_refl _) o).alloc (by simp) o'
 have him2: ∀o o':Obj,∀x v,imm x=some v->((w.alloc o).alloc o').cell? x=some v:=fun o o' x v hx=>((hb2 o o').cell (hlt x v hx)).trans (him x v hx)
 have start: ∀W1,Below ((w.alloc (.cells #[u0,u1,u2,u3,u4,u5] 31)).alloc (.cells ZC 31)).heap.size ((w.alloc (.cells #[u0,u1,u2,u3,u4,u5] 31)).alloc (.cells ZC 31)) W1->SpRel fuel imm w o fuel (.slice none 0 0) W1:=fun W1 hW1=>by
  have hs:=hW1.size
  simp at hs
  have hb:=(hb2 (.cells #[u0,u1,u2,u3,u4,u5] 31) (.cells ZC 31)).trans (hW1.mono (by simp;omega))
  refine⟨c,[],_,imm,[],ho,ha,?_,?_,World.ownsRow_nil _ _ _ _,fun j a h=>by simp at h,fun _ _ h=>h,fun a u h=>(hb.cell (hlt a u h)).trans (him a u h),fun _ _ h=>.inl h,hb,by omega,by simp⟩
  ·rw[hW1.block _ (by simp;omega),heap_alloc_old _ _ (by simp),zDi];try rfl
  ·rw[hW1.block _ (by simp),show w.heap.size+1=(w.alloc (.cells #[u0,u1,u2,u3,u4,u5] 31)).heap.size by simp,zDi]
 go_enter Tryz.func152,Tryz.ntmps152
 go_wp2_with fail
 refine(valid_calls hv (him2 _ _) hgl (zJF htb (hb2 _ _)) ha).mono ?_
 rintro e W1 ⟨rfl,hW1⟩
 have hst:=start W1 hW1
 clear start hW1 him2 hb2
 go_wp2
 go_loopg [5] fuel (fun k v wr=>SpRel fuel imm w o k v wr)
 case atStart=>exact hst
 case round=>
  obtain⟨x,l,us,imm1,xs,hm,hrc,hB,hR,hown,hrl,hi1,hi2,hi3,hbel,hsz,hl0⟩:=hrel
  obtain⟨v0,v1,v2,v3,v4,v5,rfl⟩:=six hrc.1
  have q0:=zFQ hB 0
  have q5:=zFQ hB 5
  simp at q0 q5
  have hv0:v0=.int .i64 x.Op:=by
   have:=hrc.2 0 (.int .i64 x.Op) (by simp)
   simp at this
   cases this;rfl
  subst hv0
  cases gk with
  |zero=>rw[zBv] at hm;cases hm
  |succ k=>
  rw[zBv] at hm
  by_cases hop:x.Op=12
  ·rw[if_pos (show eqI x.Op 12=true from zqb hop)] at hm
   obtain⟨y,hy,hm⟩:=bs hm
   obtain⟨cz,hcz,hm⟩:=bs hm
   obtain⟨l1,hl1,hm⟩:=bs hm
   obtain⟨u,hu,hm⟩:=bs hm
   have hsl:=hrc.2 5 (.sl (x.L.map zLm.c)) (by simp)
   simp at hsl
   have hyl:1<x.L.length:=(zq1 hy).1
   obtain⟨a,n,cap,rfl,rfl,hel⟩:=slice_parts hsl (by omega)
   obtain⟨y0,y1,y2,y3,y4,y5,hry,f0,f1,f2,f3,f4,f5⟩:=hel 1 y hy
   obtain⟨t0,t1,t2,t3,t4,t5,hru,g0,g1,g2,g3,g4,g5⟩:=hel 0 u hu
   have hL: ∀p q,imm p=some q->wr.cell? p=some q:=fun p q hp=>hi2 _ _ (hi1 _ _ hp)
   replace f0:=hL _ _ f0;replace f1:=hL _ _ f1;replace f2:=hL _ _ f2;replace f3:=hL _ _ f3;replace f4:=hL _ _ f4;replace f5:=hL _ _ f5
   obtain⟨blk,off,sp⟩:=a
   simp[Addr.add] at f0 f1 f2 f3 f4 f5
   have hn1:(1:Int)<x.L.length:=by omega
   clear hel
   have htr:Tabs wr:=zJF htb hbel
   have hcc:=zJw hcz hi2 (hgl.mono hi1) htr (hry.mono hi1)
   go_wp2_with fail
   refine hcc.mono ?_
   rintro e W2 ⟨zs,imm2,rfl,hrz,him2,hcell2,hb2,hnew2⟩
   obtain⟨z0,z1,z2,z3,z4,z5,rfl⟩:=six hrz.1
   have hsz2:=hb2.size
   obtain⟨il,zl,hil,hiz,his,hib,hizs⟩:=info_con'
   obtain⟨⟨_,hl104⟩,rfl⟩:=zFL hl1
   simp only[List.length_singleton] at hl104
   have hown2:=own_below hown hb2
   have hbB:W2.heap[w.heap.size]? =wr.heap[w.heap.size]? :=hb2.block _ (by omega)
   go_wp2_with (at_builtin;refine wpList_append_own_at _ rfl (.tmp 13) (.tmp 19) 29 rfl (w.heap.size+2) 31 il _ 6 104 und_con hil hiz his hib hizs (by decide) _ _ _ rfl (hown2.alloc _) ⟨W2.heap.size,0,none⟩ 1 1 [z0,z1,z2,z3,z4,z5] rfl rfl (cells_new _ _ _) (fun u hu=>hrz.one u (by simpa using hu)) (by unfold maxLen;omega) hl104 (by simp;omega) ?_;refine Stop1.out ?_)
   refine Stop1.mk ?_
   intro v5 W3 hown3 hgrow3 hnil3 hat3
   have hW3: ∀p q,imm2 p=some q->W3.cell? p=some q:=fun p q hp=>by
    refine hgrow3.cell ((World.cell?_alloc_lt _ _ _ (World.block_lt_of_cell? _ _ (hcell2 _ _ hp))).trans (hcell2 _ _ hp)) fun he=>?_
    have hlo:=hown.lt p.block he.symm
    rcases hnew2 p q hp with h1|h1
    ·rcases hi3 p q h1 with h2|h2
     ·have:=hlt p q h2;omega
     ·exact h2.2 he
    ·omega
   have hB3:W3.heap[w.heap.size]? =wr.heap[w.heap.size]? :=by
    rw[hgrow3.block w.heap.size (by simp;omega) (fun he=>by have:=hown.lt _ he.symm;omega),heap_alloc_old _ _ (by omega),hbB]
   have hR3:W3.heap[w.heap.size+1]? =wr.heap[w.heap.size+1]? :=by
    rw[hgrow3.block (w.heap.size+1) (by simp;omega) (fun he=>by have:=hown.lt _ he.symm;omega),heap_alloc_old _ _ (by omega),hb2.block _ (by omega)]
   rw[hB] at hB3
   rw[hR] at hR3
   have e5:=zFQ hB3 5
   simp at e5
   have ho:=fun i v h=>hru.one v (zq3 (i:=i) h)
   have s0:=zGm Tryz.prog (cur:=#[.int .i64 x.Op,v1,v2,v3,v4,.slice (some ⟨blk,off,sp⟩) x.L.length cap]) (cur':=#[t0,v1,v2,v3,v4,.slice (some ⟨blk,off,sp⟩) x.L.length cap]) hB3 (i:=0) (by simp) (ho 0 t0 rfl) rfl _ rfl
   have s1:=zGm Tryz.prog (cur:=#[t0,v1,v2,v3,v4,.slice (some ⟨blk,off,sp⟩) x.L.length cap]) (cur':=#[t0,t1,v2,v3,v4,.slice (some ⟨blk,off,sp⟩) x.L.length cap]) (setRow_heap _ _ _ _ _ _ hB3) (i:=1) (by simp) (ho 1 t1 rfl) rfl _ (setRow_setRow _ _ _ _)
   have s2:=zGm Tryz.prog (cur:=#[t0,t1,v2,v3,v4,.slice (some ⟨blk,off,sp⟩) x.L.length cap]) (cur':=#[t0,t1,t2,v3,v4,.slice (some ⟨blk,off,sp⟩) x.L.length cap]) (setRow_heap _ _ _ _ _ _ hB3) (i:=2) (by simp) (ho 2 t2 rfl) rfl _ (setRow_setRow _ _ _ _)
   have s3:=zGm Tryz.prog (cur:=#[t0,t1,t2,v3,v4,.slice (some ⟨blk,off,sp⟩) x.L.length cap]) (cur':=#[t0,t1,t2,t3,v4,.slice (some ⟨blk,off,sp⟩) x.L.length cap]) (setRow_heap _ _ _ _ _ _ hB3) (i:=3) (by simp) (ho 3 t3 rfl) rfl _ (setRow_setRow _ _ _ _)
   have s4:=zGm Tryz.prog (cur:=#[t0,t1,t2,t3,v4,.slice (some ⟨blk,off,sp⟩) x.L.length cap]) (cur':=#[t0,t1,t2,t3,t4,.slice (some ⟨blk,off,sp⟩) x.L.length cap]) (setRow_heap _ _ _ _ _ _ hB3) (i:=4) (by simp) (ho 4 t4 rfl) rfl _ (setRow_setRow _ _ _ _)
   have s5:=zGm Tryz.prog (cur:=#[t0,t1,t2,t3,t4,.slice (some ⟨blk,off,sp⟩) x.L.length cap]) (cur':=#[t0,t1,t2,t3,t4,t5]) (setRow_heap _ _ _ _ _ _ hB3) (i:=5) (by simp) (ho 5 t5 rfl) rfl _ (setRow_setRow _ _ _ _)
   clear ho
   have hT: ∀p q,imm p=some q->W3.cell? p=some q:=fun p q hp=>hW3 _ _ (him2 _ _ (hi1 _ _ hp))
   replace g0:=hT _ _ g0;replace g1:=hT _ _ g1;replace g2:=hT _ _ g2;replace g3:=hT _ _ g3;replace g4:=hT _ _ g4;replace g5:=hT _ _ g5
   simp[Addr.add] at g0 g1 g2 g3 g4 g5
   have hn0:(0:Int)<x.L.length:=by omega
   clear hT
   go_wp2
   go_roundg k
   case measure=>omega
   case rel=>
    refine⟨u,l++[cz],_,imm2,xs++[z0,z1,z2,z3,z4,z5],hm,hru,setRow_heap _ _ _ _ _ _ hB3,(setRow_other _ _ _ _ (by omega)).trans hR3,?_,?_,fun p q hp=>him2 _ _ (hi1 _ _ hp),?_,?_,?_,?_,?_⟩
    ·rw[List.length_append];exact own_setRow hown3 (by omega) _
    ·intro j a ha i y hy
     have hi6:i<6:=by have:=(zq1 hy).1;rwa [zKl] at this
     by_cases hj:j<l.length
     ·rw[List.getElem?_append_left hj] at ha
      rw[getD_left (by rw[hown.1];omega)]
      exact(hrl j a ha i y hy).monoI him2
     ·have hjl:j=l.length:=by have:=(zq1 ha).1;simp at this;omega
      subst hjl
      simp at ha
      subst ha
      rw[getD_right (by rw[hown.1];omega),hown.1,show l.length*6+i-l.length*6=i by omega]
      have:=hrz.2 i y hy
      rcases i with _|_|_|_|_|_|i<;>first|exact this|omega
    ·intro p q hp
     rw[cell_setRow_other]
     ·exact hW3 p q hp
     ·rcases hnew2 p q hp with h1|h1
      ·rcases hi3 p q h1 with h2|h2
       ·have:=hlt p q h2;omega
       ·omega
      ·omega
    ·intro p q hp
     have hpl:=World.block_lt_of_cell? _ _ (hcell2 _ _ hp)
     have hno:some p.block≠v5.ownBlock∨imm p=some q:=by
      rcases hat3 with h0|h0
      ·rcases hnew2 p q hp with h1|h1
       ·rcases hi3 p q h1 with h2|h2
        ·exact .inr h2
        ·exact .inl (by rw[h0];exact h2.2)
       ·refine .inl fun he=>?_
        have:=hown.lt p.block (by rw[<-h0,<-he]);omega
      ·refine .inl fun he=>?_
       rw[h0] at he
       simp at he
       omega
     rcases hno with h0|h0
     ·rcases hnew2 p q hp with h1|h1
      ·rcases hi3 p q h1 with h2|h2
       ·exact .inl h2
       ·exact .inr ⟨h2.1,h0⟩
      ·exact .inr ⟨by omega,h0⟩
     ·exact .inl h0
    ·exact zJz (((hbel.trans (hb2.mono (by omega))).alloc (by omega) _).grown hgrow3 (by simp;omega) (fun j hj=>by have:=hown.lt _ hj;omega)) (Nat.le_refl _) _
    ·have:=hgrow3.size
     simp[World.setRow] at this ⊢
     omega
    ·rw[List.length_append];exact hl104
  ·rw[if_neg (show¬eqI x.Op 12=true from fun h=>hop (of_decide_eq_true h))] at hm
   cases hm
   go_wp2_with fail
   refine(rev_calls hown hrl hi2 (fun p q hp he=>?_) hl0).mono ?_
   ·have:=hown.lt p.block he.symm
    rcases hi3 p q hp with h2|h2
    ·have:=hlt p q h2;omega
    ·exact h2.2 he
   rintro e W2 ⟨imm3,rfl,hrep,him3,hcell3,hnew3,hb3⟩
   have hB2:=(hb3.block w.heap.size (by omega)).trans hB
   have hR2:=(hb3.block (w.heap.size+1) (by omega)).trans hR
   have e0:=zFQ hB2 0;have e1:=zFQ hB2 1;have e2:=zFQ hB2 2;have e3:=zFQ hB2 3;have e4:=zFQ hB2 4;have e5:=zFQ hB2 5
   simp at e0 e1 e2 e3 e4 e5
   have hsz3:=hb3.size
   have htr:Tabs W2:=zJF htb (hbel.trans (hb3.mono (by omega)))
   have hcc:=zJw hz hcell3 (hgl.mono fun p q hp=>him3 _ _ (hi1 _ _ hp)) htr (hrc.mono fun p q hp=>him3 _ _ (hi1 _ _ hp))
   go_wp2_with fail
   refine hcc.mono ?_
   rintro e W3 ⟨zs,imm4,rfl,hrz,him4,hcell4,hb4,hnew4⟩
   obtain⟨z0,z1,z2,z3,z4,z5,rfl⟩:=six hrz.1
   have hsz4:=hb4.size
   have hR3:W3.heap[w.heap.size+1]? =some (.cells #[.int .i64 0,.int .i64 0,.string ⟨#[]⟩,.slice none 0 0,.slice none 0 0,.slice none 0 0] 31 (0,0)):=(hb4.block (w.heap.size+1) (by omega)).trans hR2
   have ho:=fun i v h=>hrz.one v (zq3 (i:=i) h)
   have s0:=zGm Tryz.prog (cur:=#[.int .i64 0,.int .i64 0,.string ⟨#[]⟩,.slice none 0 0,.slice none 0 0,.slice none 0 0]) (cur':=#[z0,.int .i64 0,.string ⟨#[]⟩,.slice none 0 0,.slice none 0 0,.slice none 0 0]) hR3 (i:=0) (by simp) (ho 0 z0 rfl) rfl _ rfl
   have s1:=zGm Tryz.prog (cur:=#[z0,.int .i64 0,.string ⟨#[]⟩,.slice none 0 0,.slice none 0 0,.slice none 0 0]) (cur':=#[z0,z1,.string ⟨#[]⟩,.slice none 0 0,.slice none 0 0,.slice none 0 0]) (setRow_heap _ _ _ _ _ _ hR3) (i:=1) (by simp) (ho 1 z1 rfl) rfl _ (setRow_setRow _ _ _ _)
   have s2:=zGm Tryz.prog (cur:=#[z0,z1,.string ⟨#[]⟩,.slice none 0 0,.slice none 0 0,.slice none 0 0]) (cur':=#[z0,z1,z2,.slice none 0 0,.slice none 0 0,.slice none 0 0]) (setRow_heap _ _ _ _ _ _ hR3) (i:=2) (by simp) (ho 2 z2 rfl) rfl _ (setRow_setRow _ _ _ _)
   have s3:=zGm Tryz.prog (cur:=#[z0,z1,z2,.slice none 0 0,.slice none 0 0,.slice none 0 0]) (cur':=#[z0,z1,z2,z3,.slice none 0 0,.slice none 0 0]) (setRow_heap _ _ _ _ _ _ hR3) (i:=3) (by simp) (ho 3 z3 rfl) rfl _ (setRow_setRow _ _ _ _)
   have s4:=zGm Tryz.prog (cur:=#[z0,z1,z2,z3,.slice none 0 0,.slice none 0 0]) (cur':=#[z0,z1,z2,z3,z4,.slice none 0 0]) (setRow_heap _ _ _ _ _ _ hR3) (i:=4) (by simp) (ho 4 z4 rfl) rfl _ (setRow_setRow _ _ _ _)
   have s5:=zGm Tryz.prog (cur:=#[z0,z1,z2,z3,z4,.slice none 0 0]) (cur':=#[z0,z1,z2,z3,z4,z5]) (setRow_heap _ _ _ _ _ _ hR3) (i:=5) (by simp) (ho 5 z5 rfl) rfl _ (setRow_setRow _ _ _ _)
   clear ho
   go_wp2
   have hw6: ∀p q,imm4 p=some q->(W3.setRow (w.heap.size+1) #[z0,z1,z2,z3,z4,z5]).cell? p=some q:=fun p q hp=>by
    rw[cell_setRow_other]
    ·exact hcell4 p q hp
    ·rcases hnew4 p q hp with h1|h1
     ·rcases hnew3 p q h1 with h2|h2
      ·rcases hi3 p q h2 with h4|h4
       ·have:=hlt p q h4;omega
       ·omega
      ·omega
     ·omega
   have hbel4:Below w.heap.size w (W3.setRow (w.heap.size+1) #[z0,z1,z2,z3,z4,z5]):=zJz ((hbel.trans (hb3.mono (by omega))).trans (hb4.mono (by omega))) (by omega) _
   have hld:=load_con (setRow_heap _ _ _ #[z0,z1,z2,z3,z4,z5] _ _ hR3) rfl
   have hres:Tryz.f152.results=#[.cell 2 31,.tmp 3,.tmp 4]:=rfl
   refine⟨rfl,.tuple #[.agg #[z0,z1,z2,z3,z4,z5],u5,.int .i64 0],?_,imm4,_,rfl,?_,fun p q hp=>him4 _ _ (him3 _ _ (hi1 _ _ hp)),hw6,hbel4,fun p q hp=>?_⟩
   ·simp[results,hres,asAddr,hld]
   ·refine .tup _ _ rfl fun i y hy=>?_
    rcases i with _|_|_|i
    ·cases hy
     exact .agg _ _ rfl fun i y hy=>hrz.2 i y (by rw[zLm.c_eq];exact hy)
    ·cases hy
     have:=hrep.monoI him4
     rw[List.map_reverse] at this
     exact this
    ·cases hy
     exact .int _ _ (by decide)
    ·cases hy
   ·rcases hnew4 p q hp with h1|h1
    ·rcases hnew3 p q h1 with h2|h2
     ·rcases hi3 p q h2 with h4|h4
      ·exact .inl h4
      ·exact .inr (by omega)
     ·exact .inr (by omega)
    ·exact .inr (by omega)
theorem spine_not(fuel:Nat)(c1:zLm)(q3:zA8 fuel c1=some false):Pure Tryz.prog 152 [.agg [.int .i64 c1.Op,.int .i64 c1.N,.str c1.S,.sl (c1.Kind.L.map zLl.c),.sl (c1.Names.map cS),.sl (c1.L.map zLm.c)]] (.tup [.agg (zLm.c (zLm.mk 0 0 [] (zLl.mk []) [] [])),.sl (([]:List zLm).map zLm.c),.int .i64 1]):=by
 refine zAD Tryz.func152 (by rfl) (by rfl) (by simp) (by simp) (by simp) ?_
 refine cut 30 0 [(1,.mptr 0 0),(2,.mptr 1 0)] [(zLm.d c1),[.int .i64 0,.int .i64 0,.str ([]:List UInt8),.osl ⟨1,42⟩ (([]:List zLl).map zLl.c),.osl ⟨1,9⟩ (([]:List (List UInt8)).map cS),.osl ⟨6,45⟩ (([]:List zLm).map zLm.c)]] ?_ ?_
 ·refine st ?_
  simp
 refine zAA ?_
 refine cut 30 0 [(1,.mptr 0 0),(2,.mptr 1 0),(8,.bool true)] [(zLm.d c1),[.int .i64 0,.int .i64 0,.str ([]:List UInt8),.osl ⟨1,42⟩ (([]:List zLl).map zLl.c),.osl ⟨1,9⟩ (([]:List (List UInt8)).map cS),.osl ⟨6,45⟩ (([]:List zLm).map zLm.c)]] ?_ ?_
 ·refine st ?_
  simp
  have r46:=zCI fuel c1 false q3
  try simp at r46
  refine callPure r46 (by simp) rfl ?_
  simp
 refine zEj rfl rfl ?_
 refine cut 30 0 [(2,.mptr 1 0),(3,.osl ⟨6,45⟩ (([]:List zLm).map zLm.c)),(4,.int .i64 1)] [(zLm.d c1),[.int .i64 0,.int .i64 0,.str ([]:List UInt8),.osl ⟨1,42⟩ (([]:List zLl).map zLl.c),.osl ⟨1,9⟩ (([]:List (List UInt8)).map cS),.osl ⟨6,45⟩ (([]:List zLm).map zLm.c)]] ?_ ?_
 ·refine st ?_
  simp
 refine zAC ?_
 refine zAE ?_
 simp
theorem zKq(fuel:Nat)(c1:zLm)(r:zLm×(List zLm)×Int)(h:zF2 fuel c1=some r):Pure Tryz.prog 152 [.agg [.int .i64 c1.Op,.int .i64 c1.N,.str c1.S,.sl (c1.Kind.L.map zLl.c),.sl (c1.Names.map cS),.sl (c1.L.map zLm.c)]] (.tup [.agg [.int .i64 r.1.Op,.int .i64 r.1.N,.str r.1.S,.sl (r.1.Kind.L.map zLl.c),.sl (r.1.Names.map cS),.sl (r.1.L.map zLm.c)],.sl (r.2.1.map zLm.c),.int .i64 r.2.2]):=by
 rw[zF2] at h
 obtain⟨v,hv,h⟩:=bs h
 cases v with
 |false=>
  have:=spine_not fuel c1 hv
  cases h
  simpa using this
 |true=>
  simp only[Bool.not_true,Bool.false_eq_true,if_false] at h
  obtain⟨o,ho,h⟩:=bs h
  obtain⟨z,hz,h⟩:=bs h
  obtain rfl:=oi h
  refine⟨⟨Tryz.f152,Tryz.func152,rfl,rfl⟩,fun imm w vals him hgl htb hr=>?_⟩
  have h1:vals.size=1:=by simpa using hr.1
  obtain⟨u,rfl⟩: ∃u,vals=#[u]:=⟨vals[0],by
   refine Array.ext (by simp[h1]) fun i hi1 hi2=>?_
   obtain rfl:i=0:=by omega
   rfl⟩
  have hu:=hr.2 0 _ rfl
  simp at hu
  cases hu with
  |agg _ us hs hu=>
  obtain⟨u0,u1,u2,u3,u4,u5,rfl⟩:=six (by simpa using hs)
  have:=spine_any fuel c1 o z hv ho hz imm w u0 u1 u2 u3 u4 u5 him hgl htb ⟨rfl,fun i y hy=>hu i y (by simpa using hy)⟩
  simpa using this
end Go.Proofs.YtencdekdgajgfaaGreatDoor
namespace Go.Proofs.YtencdekdgajgfaaGreatDoor
open Go Go.Abs
theorem zJf(fuel:Nat)(c1:zLm)(r:zLm×Int)(h:zDw fuel c1=some r):Pure Tryz.prog 104 [.agg (zLm.d c1)] (.tup [.agg (zLm.d r.1),iI r.2]):=by
 rw[zDw] at h
 refine zAD Tryz.func104 (by rfl) (by rfl) (by simp) (by simp) (by simp)<|cutA 67 0 [(1,pT 0),(2,pT 1)] [(zLm.d c1),zz0] ?_
 obtain⟨v2,q3,h⟩:=bs h
 refine cut 67 0 [(1,pT 0),(2,pT 1),(4,iI v2.2)] [(zLm.d v2.1),zz0] ?_ ?_
 ·refine st ?_
  simp
  have r66:=zFf fuel c1 v2 q3
  refine cP r66 ?_
  simp
 refine zAA<|cutA 67 0 [(1,pT 0),(2,pT 1),(4,iI v2.2),(16,.bool (!(eqI v2.2 0)))] [(zLm.d v2.1),zz0]<|spc h rfl (fun g4 h=>?_) fun g4 h=>?_
 ·have g5:=notT g4
  refine cutA 67 0 [(2,pT 1),(3,iI v2.2)] [(zLm.d v2.1),zz0]<|zAC<|zAE ?_
  cases h
  simp
 have g7:=notF g4
 refine zAB<|zAJ ?_
 obtain⟨v9,q10,h⟩:=bs h
 refine cut 67 0 [(2,pT 1),(4,iI v9.2.2),(5,pT 2),(6,.sl (v9.2.1.map zLm.c))] [(zLm.d v2.1),zz0,(zLm.d v9.1)] ?_ ?_
 ·refine st ?_
  simp
  have r65:=zKq fuel v2.1 v9 q10
  refine cP r65 ?_
  simp
 refine zAA<|zAF<|cutA 67 0 [(2,pT 1),(5,pT 2),(6,.sl (v9.2.1.map zLm.c)),(25,.bool (!(eqI v9.2.2 0)))] [(zLm.d v2.1),zz0,(zLm.d v9.1)]<|spc h rfl (fun g11 h=>?_) fun g11 h=>?_
 ·have g12:=notT g11
  refine cutA 67 0 [(2,pT 1),(3,iI 27)] [(zLm.d v2.1),zz0,(zLm.d v9.1)]<|zAC<|zAR<|zAE ?_
  cases h
  simp
 have g14:=notF g11
 refine cutA 67 0 [(2,pT 1),(5,pT 2),(6,.sl (v9.2.1.map zLm.c)),(29,.bool (!(eqI v9.1.Op 13)))] [(zLm.d v2.1),zz0,(zLm.d v9.1)]<|spc h rfl (fun g16 h=>?_) fun g16 h=>?_
 ·have g17:=notT g16
  refine cutA 67 0 [(2,pT 1),(3,iI 12)] [(zLm.d v2.1),zz0,(zLm.d v9.1)]<|zAC<|zAR<|zAE ?_
  cases h
  simp
 have g19:=notF g16
 refine zAB<|zDC<|zAJ ?_
 obtain⟨x21,q22,h⟩:=bs h
 obtain⟨v23,q24,h⟩:=bs h
 refine cut 67 0 [(2,pT 1),(4,iI v23.2),(6,.sl (v9.2.1.map zLm.c)),(7,pT 3)] [(zLm.d v2.1),zz0,(zLm.d v9.1),(zLm.d v23.1)] ?_ ?_
 ·refine zAL [] mixed (n:=67) rfl (by decide) ?_
  simp[q22]
  have r64:=zHv fuel x21 [v9.1] v23 q24
  try simp[q22] at r64
  refine zF9 r64 (by simp) rfl ?_
  simp[q22]
 refine zAA<|cutA 67 0 [(2,pT 1),(6,.sl (v9.2.1.map zLm.c)),(7,pT 3),(45,.bool (!(eqI v23.2 0)))] [(zLm.d v2.1),zz0,(zLm.d v9.1),(zLm.d v23.1)] ?_
 rcases sp h with ⟨g25,h⟩|⟨g25,h⟩
 ·have g26:=notT g25
  refine zEj rfl g25<|cutA 67 0 [(2,pT 1),(3,iI 27)] [(zLm.d v2.1),zz0,(zLm.d v9.1),(zLm.d v23.1)]<|zAC<|zAE ?_
  cases h
  simp
 have g28:=notF g25
 have c29:=eqT g28
 refine zEt rfl g25<|zAB<|zAJ<|zAA<|cutA 67 0 [(2,pT 1),(7,pT 3),(47,.sl (v9.2.1.map zLm.c)),(48,iI v9.2.1.length),(49,iI 0)] [(zLm.d v2.1),zz0,(zLm.d v9.1),(zLm.d v23.1)]<|zAF ?_
 obtain⟨o37,l38,h⟩:=bs h
 refine zAq (fun p:Nat×Int×Int×(List UInt8)×(List zLl)×(List (List UInt8))×(List zLm)×Nat=>mkS 67 0 [(2,pT 1),(7,pT 3),(47,.sl (v9.2.1.map zLm.c)),(48,iI v9.2.1.length),(49,iI p.2.2.2.2.2.2.2)] [(zLm.d v2.1),zz0,(zLm.d v9.1),[iI p.2.1,iI p.2.2.1,.str p.2.2.2.1,.sl (p.2.2.2.2.1.map zLl.c),.sl (p.2.2.2.2.2.1.map cS),.sl (p.2.2.2.2.2.2.1.map zLm.c)]]) (fun p=>zBn v9 p.1 p.2.1 p.2.2.1 p.2.2.2.1 p.2.2.2.2.1 p.2.2.2.2.2.1 p.2.2.2.2.2.2.1 p.2.2.2.2.2.2.2=some o37) (fun p=>p.1) (fuel,v23.1.Op,v23.1.N,v23.1.S,v23.1.Kind.L,v23.1.Names,v23.1.L,0) l38 (zAc (by simp)) ?_
 rintro⟨k39,Op30,N31,S32,Kind33,Names34,L35,i36⟩ l38
 try dsimp only at l38 ⊢
 cases k39 with
 |zero=>
  rw[zBn] at l38;cases l38
 |succ k40=>
  rw[zBn] at l38
  refine cutA 67 0 [(2,pT 1),(7,pT 3),(47,.sl (v9.2.1.map zLm.c)),(48,iI v9.2.1.length),(49,iI i36),(50,.bool (ltI i36 v9.2.1.length))] [(zLm.d v2.1),zz0,(zLm.d v9.1),[iI Op30,iI N31,.str S32,.sl (Kind33.map zLl.c),.sl (Names34.map cS),.sl (L35.map zLm.c)]]<|zAA<|spc l38 rfl (fun g41 l38=>?_) fun g41 l38=>?_
  ·have c42:=ltT g41
   refine zC5 47 rfl fun f43=>?_
   rw[zq4] at f43
   refine zAB<|zAJ<|zAA<|zAF ?_
   obtain⟨x44,q45,l38⟩:=bs l38
   refine cut 67 0 [(2,pT 1),(7,pT 3),(9,pT 4),(47,.sl (v9.2.1.map zLm.c)),(48,iI v9.2.1.length),(49,iI i36)] [(zLm.d v2.1),zz0,(zLm.d v9.1),[iI Op30,iI N31,.str S32,.sl (Kind33.map zLl.c),.sl (Names34.map cS),.sl (L35.map zLm.c)],(zLm.d x44)] (st (by simp[q45]))<|last 67 0 [(2,pT 1),(7,pT 3),(47,.sl (v9.2.1.map zLm.c)),(48,iI v9.2.1.length),(49,iI i36)] [(zLm.d v2.1),zz0,(zLm.d v9.1),[iI 12,iI 0,.str ([]:List UInt8),.osl ⟨1,27⟩ (([]:List zLl).map zLl.c),.osl ⟨1,9⟩ (([]:List (List UInt8)).map cS),.sl ([(zLm.mk Op30 N31 S32 (zLl.mk Kind33) Names34 L35),x44].map zLm.c)],(zLm.d x44)] (st (by simp)) fun zz hs=>?_
   refine zDC<|zAj ?_ hs
   have q46:Rng .i64 (((i36:Nat):Int)+1):=by simp only[Rng,inR];omega
   try simp at q46
   refine last 67 0 [(2,pT 1),(7,pT 3),(47,.sl (v9.2.1.map zLm.c)),(48,iI v9.2.1.length),(49,iI ((i36+1:Nat):Int))] [(zLm.d v2.1),zz0,(zLm.d v9.1),[iI 12,iI 0,.str ([]:List UInt8),.sl (([]:List zLl).map zLl.c),.sl (([]:List (List UInt8)).map cS),.sl ([(zLm.mk Op30 N31 S32 (zLl.mk Kind33) Names34 L35),x44].map zLm.c)]] (st (by simp[q46])) fun zz hs=>?_
   exact⟨(k40,12,0,([]:List UInt8),([]:List zLl),([]:List (List UInt8)),[(zLm.mk Op30 N31 S32 (zLl.mk Kind33) Names34 L35),x44],i36+1),hs,l38,by simp⟩
  have c47:=ltF g41
  refine zC5 47 rfl fun f48=>?_
  rw[zq4] at f48
  refine zAW<|zAH ?_
  have q49:=zqa l38
  have q50:o37.1=Op30:=by rw[<-q49]
  have q51:o37.2.1=N31:=by rw[<-q49]
  have q52:o37.2.2.1=S32:=by rw[<-q49]
  have q53:o37.2.2.2.1=Kind33:=by rw[<-q49]
  have q54:o37.2.2.2.2.1=Names34:=by rw[<-q49]
  have q55:o37.2.2.2.2.2=L35:=by rw[<-q49]
  refine zAH<|zAX<|zAj (t:=mkS 67 0 [(2,pT 1),(7,pT 3)] [(zLm.d v2.1),zz0,(zLm.d v9.1),[iI o37.1,iI o37.2.1,.str o37.2.2.1,.sl (o37.2.2.2.1.map zLl.c),.sl (o37.2.2.2.2.1.map cS),.sl (o37.2.2.2.2.2.map zLm.c)]]) ?_ (zAc (by simp[q50,q51,q52,q53,q54,q55]))
  refine zAA ?_
  obtain⟨v56,q57,h⟩:=bs h
  refine cut 67 0 [(2,pT 1),(4,iI v56.2),(7,pT 3)] [(zLm.d v2.1),zz0,(zLm.d v9.1),(zLm.d v56.1)] ?_ ?_
  ·refine st ?_
   simp
   have r63:=zFf fuel (zLm.mk o37.1 o37.2.1 o37.2.2.1 (zLl.mk o37.2.2.2.1) o37.2.2.2.2.1 o37.2.2.2.2.2) v56 q57
   try simp at r63
   refine cP r63 ?_
   simp
  refine cutA 67 0 [(2,pT 1),(7,pT 3),(64,.bool (!(eqI v56.2 0)))] [(zLm.d v2.1),zz0,(zLm.d v9.1),(zLm.d v56.1)] ?_
  rcases sp h with ⟨g58,h⟩|⟨g58,h⟩
  ·have g59:=notT g58
   have c60:=eqF g59
   refine zEj rfl g58<|cutA 67 0 [(2,pT 1),(3,iI 27)] [(zLm.d v2.1),zz0,(zLm.d v9.1),(zLm.d v56.1)]<|zAC<|zAE ?_
   cases h
   simp
  have g61:=notF g58
  have c62:=eqT g61
  refine zEt rfl g58<|zAB<|zAJ<|cutA 67 0 [(2,pT 1),(3,iI 0)] [(zLm.d v2.1),(zLm.d v56.1),(zLm.d v9.1),(zLm.d v56.1)]<|zAC ?_
  cases h
  simp
theorem ident_Find_ok(fuel:Nat)(l1:(List (List UInt8)))(s2:(List UInt8))(r:Int)(h:zDp fuel l1 s2=some r):Pure Tryz.prog 105 [.sl (l1.map cS),.str s2] (iI r):=by
 rw[zDp] at h
 refine zAD Tryz.func105 (by rfl) (by rfl) (by simp) (by simp) (by simp)<|cutA 19 0 [(0,.sl (l1.map cS)),(1,.str s2)] []<|zAA<|cutA 19 0 [(1,.str s2),(7,.sl (l1.map cS)),(8,iI l1.length),(9,iI 0)] []<|zAF ?_
 obtain⟨o5,l6,h⟩:=bs h
 refine zAq (fun p:Nat×Nat=>mkS 19 0 [(1,.str s2),(7,.sl (l1.map cS)),(8,iI l1.length),(9,iI p.2)] []) (fun p=>zCN l1 s2 p.1 p.2=some o5) (fun p=>p.1) (fuel,0) l6 (zAc (by simp)) ?_
 rintro⟨k7,i3⟩ l6
 try dsimp only at l6 ⊢
 cases k7 with
 |zero=>
  rw[zCN] at l6;cases l6
 |succ k8=>
  rw[zCN] at l6
  refine cutA 19 0 [(1,.str s2),(7,.sl (l1.map cS)),(8,iI l1.length),(9,iI i3),(10,.bool (ltI i3 l1.length))] []<|zAA<|spc l6 rfl (fun g9 l6=>?_) fun g9 l6=>?_
  ·have c10:=ltT g9
   refine zC5 7 rfl fun f11=>?_
   rw[zq4] at f11
   refine zAB<|zAJ<|zAA<|zAF ?_
   obtain⟨x12,q13,l6⟩:=bs l6
   refine cut 19 0 [(1,.str s2),(5,iI i3),(6,.str x12),(7,.sl (l1.map cS)),(8,iI l1.length),(9,iI i3)] [] (st (by simp[q13]))<|cutA 19 0 [(1,.str s2),(5,iI i3),(7,.sl (l1.map cS)),(8,iI l1.length),(9,iI i3),(16,.bool (eqS x12 s2))] []<|spc l6 rfl (fun g14 l6=>?_) fun g14 l6=>?_
   ·refine cutA 19 0 [(4,iI i3)] []<|zAC<|zAR<|zAE ?_
    replace h:=retL l6 h
    refine zAE<|zAR<|zAE ?_
    cases h
    simp
   refine zAB<|zDC<|zAJ ?_
   have q15:Rng .i64 (((i3:Nat):Int)+1):=by simp only[Rng,inR];omega
   try simp at q15
   refine last 19 0 [(1,.str s2),(7,.sl (l1.map cS)),(8,iI l1.length),(9,iI ((i3+1:Nat):Int))] [] (st (by simp[q15])) fun zz hs=>?_
   exact⟨(k8,i3+1),hs,l6,by simp⟩
  have c16:=ltF g9
  refine zC5 7 rfl fun f17=>?_
  rw[zq4] at f17
  refine zAW<|zAH ?_
  rcases o5 with o5|o4
  ·cases l6
  have q18:=Sum.inr.inj (zqa l6)
  replace h:=zHa h
  refine zAH<|zAX<|zAj (t:=mkS 19 0 [] []) ?_ (zAc (by simp))
  refine cutA 19 0 [(4,iI (-1))] []<|zAC ?_
  cases h
  simp
theorem zKE(c1:zLm)(r:Bool)(h:zFX c1=some r):Pure Tryz.prog 106 [.agg (zLm.d c1)] (.bool r):=by
 rw[zFX] at h
 refine zAD Tryz.func106 (by rfl) (by rfl) (by simp) (by simp) (by simp)<|cutA 12 0 [(1,pT 0)] [(zLm.d c1)]<|cut 12 0 [(2,.bool ((eqI c1.Op 7)&&(eqI c1.L.length 0)))] [(zLm.d c1)] ?_ ?_
 ·rcases tf (eqI c1.Op 7) with g2|g2
  ·have c3:=eqT g2
   refine st ?_
   simp[g2]
  have c4:=eqF g2
  refine st ?_
  simp[g2]
 refine zAC ?_
 cases h
 simp
theorem zCs(fuel:Nat):(∀(p1:zLn)(c2:zLm)(w3:zLj)(r:Int×zLj)(_:zAo fuel p1 c2 w3=some r),Raw Tryz.prog 62 [pT 0,.agg (zLn.d p1),.agg (zLm.d c2)] [[.osl ⟨7,64⟩ (w3.binds.map zLk.c)]] (iI r.1) [[.osl ⟨7,64⟩ (r.2.binds.map zLk.c)]])∧(∀(p1:zLn)(c2:zLm)(w3:zLj)(r:Int×zLj)(_:zAY fuel p1 c2 w3=some r),Raw Tryz.prog 31 [pT 0,.agg (zLn.d p1),.agg (zLm.d c2)] [[.osl ⟨7,64⟩ (w3.binds.map zLk.c)]] (iI r.1) [[.osl ⟨7,64⟩ (r.2.binds.map zLk.c)]]):=by
 induction fuel with
 |zero=>
  refine⟨?_,?_⟩
  ·intro p1 c2 w3 r h;rw[zAo] at h;cases h
  ·intro p1 c2 w3 r h;rw[zAY] at h;cases h
 |succ fuel ih=>
  obtain⟨zFU,zEd⟩:=ih
  refine⟨?_,?_⟩
  ·intro p1 c2 w3 r h
   rw[zAo] at h
   refine zBE Tryz.func62 (by rfl) (by rfl) (by simp) (by simp)<|cutA 63 1 [(0,pT 0),(4,pT 1),(5,pT 2)] [[.osl ⟨7,64⟩ (w3.binds.map zLk.c)],(zLn.d p1),(zLm.d c2)] ?_
   obtain⟨v4,q5,h⟩:=bs h
   refine cut 63 1 [(0,pT 0),(4,pT 1),(7,pT 3),(8,iI v4.2)] [[.osl ⟨7,64⟩ (w3.binds.map zLk.c)],(zLn.d p1),(zLm.d c2),(zLm.d v4.1)] ?_ ?_
   ·refine st ?_
    simp
    have r45:=zJf fuel c2 v4 q5
    refine cP r45 ?_
    simp
   refine zAA<|zAF<|cutA 63 1 [(0,pT 0),(4,pT 1),(7,pT 3),(8,iI v4.2),(15,.bool (eqI v4.2 27))] [[.osl ⟨7,64⟩ (w3.binds.map zLk.c)],(zLn.d p1),(zLm.d c2),(zLm.d v4.1)]<|spc h rfl (fun g6 h=>?_) fun g6 h=>?_
   ·refine cutA 63 1 [(6,iI v4.2)] [[.osl ⟨7,64⟩ (w3.binds.map zLk.c)],(zLn.d p1),(zLm.d c2),(zLm.d v4.1)]<|zAC<|zAR<|zAE ?_
    cases h
    simp
   have c8:=eqF g6
   refine cut 63 1 [(0,pT 0),(4,pT 1),(7,pT 3),(19,.bool ((!(eqI v4.2 0))||(!(eqI v4.1.Op 8))))] [[.osl ⟨7,64⟩ (w3.binds.map zLk.c)],(zLn.d p1),(zLm.d c2),(zLm.d v4.1)] ?_ ?_
   ·rcases tf (!(eqI v4.2 0)) with g9|g9
    ·refine st ?_
     simp[g9]
    refine st ?_
    simp[g9]
   rcases sp h with ⟨g14,h⟩|⟨g14,h⟩
   ·refine zEj rfl g14<|cutA 63 1 [(6,iI 12)] [[.osl ⟨7,64⟩ (w3.binds.map zLk.c)],(zLn.d p1),(zLm.d c2),(zLm.d v4.1)]<|zAC<|zAR<|zAE ?_
    cases h
    simp
   obtain⟨g15,g16⟩:=orF g14
   have g17:=notF g15
   have c18:=eqT g17
   have g19:=notF g16
   refine zEt rfl g14<|zAB<|zDC<|zAJ ?_
   obtain⟨v21,q22,h⟩:=bs h
   refine cut 63 1 [(0,pT 0),(4,pT 1),(7,pT 3),(9,iI v21)] [[.osl ⟨7,64⟩ (w3.binds.map zLk.c)],(zLn.d p1),(zLm.d c2),(zLm.d v4.1)] ?_ ?_
   ·refine st ?_
    simp
    have r44:=ident_Find_ok fuel v4.1.Names p1.S v21 q22
    refine cP r44 ?_
    simp
   refine zAA<|zAF<|cutA 63 1 [(0,pT 0),(4,pT 1),(7,pT 3),(9,iI v21),(32,.bool (ltI v21 0))] [[.osl ⟨7,64⟩ (w3.binds.map zLk.c)],(zLn.d p1),(zLm.d c2),(zLm.d v4.1)]<|spc h rfl (fun g23 h=>?_) fun g23 h=>?_
   ·have c24:=ltT g23
    refine cutA 63 1 [(6,iI 10)] [[.osl ⟨7,64⟩ (w3.binds.map zLk.c)],(zLn.d p1),(zLm.d c2),(zLm.d v4.1)]<|zAC<|zAR<|zAE ?_
    cases h
    simp
   obtain⟨x26,q27,h⟩:=bs h
   obtain⟨q28,q29⟩:=idx_ok q27
   obtain⟨v30,q31,h⟩:=bs h
   refine cut 63 1 [(0,pT 0),(4,pT 1),(7,pT 3),(9,iI v21),(35,.bool (!(eqB v30 (eqI p1.L.length 0))))] [[.osl ⟨7,64⟩ (w3.binds.map zLk.c)],(zLn.d p1),(zLm.d c2),(zLm.d v4.1)] ?_ ?_
   ·refine zAL [] mixed (n:=63) rfl (by decide) ?_
    simp[q28,q29]
    have r43:=zKE x26 v30 q31
    refine zF9 r43 (by simp) rfl ?_
    simp[q28,q29]
   refine spc h rfl (fun g32 h=>?_) fun g32 h=>?_
   ·refine cutA 63 1 [(6,iI 12)] [[.osl ⟨7,64⟩ (w3.binds.map zLk.c)],(zLn.d p1),(zLm.d c2),(zLm.d v4.1)]<|zAC<|zAR<|zAE ?_
    cases h
    simp
   refine cutA 63 1 [(0,pT 0),(4,pT 1),(7,pT 3),(9,iI v21),(47,.bool (eqI p1.L.length 0))] [[.osl ⟨7,64⟩ (w3.binds.map zLk.c)],(zLn.d p1),(zLm.d c2),(zLm.d v4.1)]<|spc h rfl (fun g35 h=>?_) fun g35 h=>?_
   ·refine cutA 63 1 [(6,iI 0)] [[.osl ⟨7,64⟩ (w3.binds.map zLk.c)],(zLn.d p1),(zLm.d c2),(zLm.d v4.1)]<|zAC<|zAR<|zAE ?_
    cases h
    simp
   refine zAB<|zDC<|zAJ ?_
   obtain⟨x38,q39,h⟩:=bs h
   obtain⟨v40,q41,h⟩:=bs h
   refine cut 63 1 [(6,iI v40.1)] [[.osl ⟨7,64⟩ (v40.2.binds.map zLk.c)],(zLn.d p1),(zLm.d c2),(zLm.d v4.1)] ?_ ?_
   ·refine zAl [] [10] mixed (n:=63) rfl (by decide) (by decide) ?_
    simp[q39,q28,q29]
    have r42:=(zEd x38 x26 w3 v40 q41).frame [0] [[.osl ⟨7,64⟩ (w3.binds.map zLk.c)],(zLn.d p1),(zLm.d c2),(zLm.d v4.1)] (by simp)
    refine callX r42 (by simp[q39,q28,q29]) rfl ?_
    simp[q39,q28,q29]
   refine zAC ?_
   cases h
   simp
  ·intro p1 c2 w3 r h
   rw[zAY] at h
   refine zBE Tryz.func31 (by rfl) (by rfl) (by simp) (by simp)<|cutA 79 1 [(0,pT 0),(4,pT 1),(5,pT 2)] [[.osl ⟨7,64⟩ (w3.binds.map zLk.c)],(zLn.d p1),(zLm.d c2)]<|zAA<|cutA 79 1 [(0,pT 0),(4,pT 1),(5,pT 2),(13,iI p1.Op)] [[.osl ⟨7,64⟩ (w3.binds.map zLk.c)],(zLn.d p1),(zLm.d c2)]<|zAF<|cutA 79 1 [(0,pT 0),(4,pT 1),(5,pT 2),(13,iI p1.Op),(14,.bool (eqI p1.Op 1))] [[.osl ⟨7,64⟩ (w3.binds.map zLk.c)],(zLn.d p1),(zLm.d c2)]<|spc h rfl (fun g4 h=>?_) fun g4 h=>?_
   ·refine cutA 79 1 [(6,iI 0)] [[.osl ⟨7,64⟩ (w3.binds.map zLk.c)],(zLn.d p1),(zLm.d c2)]<|zAC<|zAR<|zAE ?_
    cases h
    simp
   refine cutA 79 1 [(0,pT 0),(4,pT 1),(5,pT 2),(13,iI p1.Op),(16,.bool (eqI p1.Op 2))] [[.osl ⟨7,64⟩ (w3.binds.map zLk.c)],(zLn.d p1),(zLm.d c2)]<|spc h rfl (fun g7 h=>?_) fun g7 h=>?_
   ·obtain⟨v9,q10,h⟩:=bs h
    refine cut 79 1 [(0,pT 0),(4,pT 1),(7,pT 3)] [[.osl ⟨7,64⟩ (w3.binds.map zLk.c)],(zLn.d p1),(zLm.d c2),(zLm.d v9.1)] ?_ ?_
    ·refine st ?_
     simp
     have r15:=zHw fuel c2 0 0 v9 q10
     refine cP r15 ?_
     simp
    obtain⟨l11,q12,h⟩:=bs h
    obtain⟨q13,q14⟩:=zFL q12
    try simp at q13
    refine cut 79 1 [] [[.osl ⟨7,64⟩ (l11.map zLk.c)],(zLn.d p1),(zLm.d c2),(zLm.d v9.1)] ?_ ?_
    ·refine zAl [994] [13] mixed (n:=79) rfl (by decide) (by decide) ?_
     simp[q13,q14]
    refine cutA 79 1 [(6,iI 0)] [[.osl ⟨7,64⟩ (l11.map zLk.c)],(zLn.d p1),(zLm.d c2),(zLm.d v9.1)]<|zAC<|zAR<|zAE ?_
    cases h
    simp
   refine cutA 79 1 [(0,pT 0),(4,pT 1),(5,pT 2),(13,iI p1.Op),(36,.bool (eqI p1.Op 3))] [[.osl ⟨7,64⟩ (w3.binds.map zLk.c)],(zLn.d p1),(zLm.d c2)]<|spc h rfl (fun g17 h=>?_) fun g17 h=>?_
   ·refine zAA<|cutA 79 1 [(40,.bool (!(eqI c2.Op 4)))] [[.osl ⟨7,64⟩ (w3.binds.map zLk.c)],(zLn.d p1),(zLm.d c2)] ?_
    rcases sp h with ⟨g19,h⟩|⟨g19,h⟩
    ·have g20:=notT g19
     have c21:=eqF g20
     refine zEj rfl g19<|cutA 79 1 [(6,iI 12)] [[.osl ⟨7,64⟩ (w3.binds.map zLk.c)],(zLn.d p1),(zLm.d c2)]<|zAC<|zAE<|zAR<|zAE ?_
     cases h
     simp
    have g22:=notF g19
    have c23:=eqT g22
    refine zEt rfl g19<|zAB<|zAJ<|cutA 79 1 [(6,iI 0)] [[.osl ⟨7,64⟩ (w3.binds.map zLk.c)],(zLn.d p1),(zLm.d c2)]<|zAC<|zAR<|zAE ?_
    cases h
    simp
   refine cutA 79 1 [(0,pT 0),(4,pT 1),(5,pT 2),(41,.bool (eqI p1.Op 5))] [[.osl ⟨7,64⟩ (w3.binds.map zLk.c)],(zLn.d p1),(zLm.d c2)]<|spc h rfl (fun g25 h=>?_) fun g25 h=>?_
   ·refine zAA ?_
    obtain⟨b34,q35,h⟩:=bs h
    refine cut 79 1 [(0,pT 0),(4,pT 1),(5,pT 2),(54,.bool b34)] [[.osl ⟨7,64⟩ (w3.binds.map zLk.c)],(zLn.d p1),(zLm.d c2)] ?_ ?_
    ·rcases sp q35 with ⟨g27,q35⟩|⟨g27,q35⟩
     ·have g28:=notT g27
      have c29:=eqF g28
      obtain rfl:=oi q35
      refine st ?_
      simp[g27]
     have g30:=notF g27
     have c31:=eqT g30
     obtain⟨v32,q33,q35⟩:=bs q35
     obtain rfl:=oi q35
     refine st ?_
     simp[g27]
     have r63:=zIE fuel c2.Names (p1.L.length:Int) v32 q33
     try simp[g27] at r63
     refine cP r63 ?_
     simp[g27]
    refine spc h rfl (fun g36 h=>?_) fun g36 h=>?_
    ·refine cutA 79 1 [(6,iI 12)] [[.osl ⟨7,64⟩ (w3.binds.map zLk.c)],(zLn.d p1),(zLm.d c2)]<|zAC<|zAE<|zAR<|zAE ?_
     cases h
     simp
    refine zAB<|zAJ<|zAA<|cutA 79 1 [(0,pT 0),(5,pT 2),(56,.sl (p1.L.map zLn.c)),(57,iI p1.L.length),(58,iI 0)] [[.osl ⟨7,64⟩ (w3.binds.map zLk.c)],(zLn.d p1),(zLm.d c2)]<|zAF ?_
    obtain⟨o40,l41,h⟩:=bs h
    refine zAq (fun p:Nat×(List zLk)×Nat=>mkS 79 1 [(0,pT 0),(5,pT 2),(56,.sl (p1.L.map zLn.c)),(57,iI p1.L.length),(58,iI p.2.2)] [[.osl ⟨7,64⟩ (p.2.1.map zLk.c)],(zLn.d p1),(zLm.d c2)]) (fun p=>zA5 (zAY fuel) p1 c2 p.1 p.2.1 p.2.2=some o40) (fun p=>p.1) (fuel,w3.binds,0) l41 (zAc (by simp)) ?_
    rintro⟨k42,binds37,i38⟩ l41
    try dsimp only at l41 ⊢
    cases k42 with
    |zero=>
     rw[zA5] at l41;cases l41
    |succ k43=>
     rw[zA5] at l41
     refine cutA 79 1 [(0,pT 0),(5,pT 2),(56,.sl (p1.L.map zLn.c)),(57,iI p1.L.length),(58,iI i38),(59,.bool (ltI i38 p1.L.length))] [[.osl ⟨7,64⟩ (binds37.map zLk.c)],(zLn.d p1),(zLm.d c2)]<|zAA<|spc l41 rfl (fun g44 l41=>?_) fun g44 l41=>?_
     ·have c45:=ltT g44
      refine zC5 56 rfl fun f46=>?_
      rw[zq4] at f46
      refine zAB<|zAJ<|zAA<|zAF ?_
      obtain⟨x47,q48,l41⟩:=bs l41
      refine cut 79 1 [(0,pT 0),(5,pT 2),(9,iI i38),(10,pT 3),(56,.sl (p1.L.map zLn.c)),(57,iI p1.L.length),(58,iI i38)] [[.osl ⟨7,64⟩ (binds37.map zLk.c)],(zLn.d p1),(zLm.d c2),(zLn.d x47)] (st (by simp[q48])) ?_
      obtain⟨x49,q50,l41⟩:=bs l41
      obtain⟨v51,q52,l41⟩:=bs l41
      refine cut 79 1 [(0,pT 0),(5,pT 2),(11,iI v51.1),(56,.sl (p1.L.map zLn.c)),(57,iI p1.L.length),(58,iI i38)] [[.osl ⟨7,64⟩ (v51.2.binds.map zLk.c)],(zLn.d p1),(zLm.d c2),(zLn.d x47)] ?_ ?_
      ·refine zAl [] [7] mixed (n:=79) rfl (by decide) (by decide) ?_
       simp[q50]
       have r59:=(zEd x47 x49 (zLj.mk binds37) v51 q52).frame [0] [[.osl ⟨7,64⟩ (binds37.map zLk.c)],(zLn.d p1),(zLm.d c2),(zLn.d x47)] (by simp)
       try simp[q50] at r59
       refine callX r59 (by simp[q50]) rfl ?_
       simp[q50]
      refine cutA 79 1 [(0,pT 0),(5,pT 2),(11,iI v51.1),(56,.sl (p1.L.map zLn.c)),(57,iI p1.L.length),(58,iI i38),(72,.bool (!(eqI v51.1 0)))] [[.osl ⟨7,64⟩ (v51.2.binds.map zLk.c)],(zLn.d p1),(zLm.d c2),(zLn.d x47)] ?_
      rcases sp l41 with ⟨g53,l41⟩|⟨g53,l41⟩
      ·have g54:=notT g53
       have c55:=eqF g54
       refine zEj rfl g53<|cutA 79 1 [(6,iI v51.1)] [[.osl ⟨7,64⟩ (v51.2.binds.map zLk.c)],(zLn.d p1),(zLm.d c2),(zLn.d x47)]<|zAC<|zAR<|zAE ?_
       replace h:=retL l41 h
       refine zAE<|zAR<|zAE<|zAR<|zAE ?_
       cases h
       simp
      have g56:=notF g53
      have c57:=eqT g56
      refine zEt rfl g53<|zAB<|zDC<|zAJ ?_
      have q58:Rng .i64 (((i38:Nat):Int)+1):=by simp only[Rng,inR];omega
      try simp at q58
      refine last 79 1 [(0,pT 0),(5,pT 2),(56,.sl (p1.L.map zLn.c)),(57,iI p1.L.length),(58,iI ((i38+1:Nat):Int))] [[.osl ⟨7,64⟩ (v51.2.binds.map zLk.c)],(zLn.d p1),(zLm.d c2)] (st (by simp[q58])) fun zz hs=>?_
      exact⟨(k43,v51.2.binds,i38+1),hs,l41,by simp⟩
     have c60:=ltF g44
     refine zC5 56 rfl fun f61=>?_
     rw[zq4] at f61
     refine zAW<|zAH ?_
     rcases o40 with o40|o39
     ·cases l41
     have q62:=Sum.inr.inj (zqa l41)
     replace h:=zHa h
     have q62:=q62.symm
     refine zAH<|zAX<|zAj (t:=mkS 79 1 [] [[.osl ⟨7,64⟩ (o39.map zLk.c)],(zLn.d p1),(zLm.d c2)]) ?_ (zAc (by simp[q62]))
     refine cutA 79 1 [(6,iI 0)] [[.osl ⟨7,64⟩ (o39.map zLk.c)],(zLn.d p1),(zLm.d c2)]<|zAC<|zAR<|zAE ?_
     cases h
     simp
   refine zAB<|zDC<|zAJ ?_
   obtain⟨v65,q66,h⟩:=bs h
   refine cut 79 1 [(6,iI v65.1)] [[.osl ⟨7,64⟩ (v65.2.binds.map zLk.c)],(zLn.d p1),(zLm.d c2)] ?_ ?_
   ·refine st ?_
    simp
    have r67:=(zFU p1 c2 w3 v65 q66).frame [0] [[.osl ⟨7,64⟩ (w3.binds.map zLk.c)],(zLn.d p1),(zLm.d c2)] (by simp)
    try simp at r67
    refine zDX r67 (by simp) rfl ?_
    simp
   refine zAC ?_
   cases h
   simp
theorem zGG(fuel:Nat):(∀(p1:zLn)(c2:zLm)(w3:zLj)(r:Int×zLj)(_:zAY fuel p1 c2 w3=some r),Raw Tryz.prog 31 [pT 0,.agg (zLn.d p1),.agg (zLm.d c2)] [[.osl ⟨7,64⟩ (w3.binds.map zLk.c)]] (iI r.1) [[.osl ⟨7,64⟩ (r.2.binds.map zLk.c)]]):=(zCs fuel).2
theorem zKG(fuel:Nat)(p1:zLn)(c2:zLm)(r:(List zLk)×Int)(h:zDF fuel p1 c2=some r):Pure Tryz.prog 8 [.agg (zLn.d p1),.agg (zLm.d c2)] (.tup [.sl (r.1.map zLk.c),iI r.2]):=by
 rw[zDF] at h
 refine zAD Tryz.func8 (by rfl) (by rfl) (by simp) (by simp) (by simp)<|cutA 39 0 [(2,pT 0),(3,pT 1)] [(zLn.d p1),(zLm.d c2)]<|zAA ?_
 obtain⟨b10,q11,h⟩:=bs h
 refine cut 39 0 [(2,pT 0),(3,pT 1),(17,.bool b10)] [(zLn.d p1),(zLm.d c2)] ?_ ?_
 ·obtain⟨v3,q4,q11⟩:=bs q11
  rcases sp q11 with ⟨g5,q11⟩|⟨g5,q11⟩
  ·have g6:=notT g5
   obtain rfl:=oi q11
   refine st ?_
   simp[g5]
   have r29:=zG3 fuel p1 v3 q4
   try simp[g5] at r29
   refine cP r29 ?_
   simp[g5]
  have g7:=notF g5
  obtain⟨v8,q9,q11⟩:=bs q11
  obtain rfl:=oi q11
  refine st ?_
  simp[g5]
  have r30:=zG3 fuel p1 v3 q4
  try simp[g5] at r30
  refine cP r30 ?_
  simp[g5]
  have r31:=zCI fuel c2 v8 q9
  try simp[g5] at r31
  refine cP r31 ?_
  simp[g5]
 refine spc h rfl (fun g12 h=>?_) fun g12 h=>?_
 ·refine cutA 39 0 [(4,.osl ⟨7,64⟩ (([]:List zLk).map zLk.c)),(5,iI 1)] [(zLn.d p1),(zLm.d c2)]<|zAC<|zAE ?_
  cases h
  simp
 refine zAB<|zAJ ?_
 obtain⟨v13,q14,h⟩:=bs h
 refine cut 39 0 [(2,pT 0),(6,pT 2),(7,iI v13.2)] [(zLn.d p1),(zLm.d c2),(zLm.d v13.1)] ?_ ?_
 ·refine st ?_
  simp
  have r28:=zFf fuel c2 v13 q14
  try simp at r28
  refine cP r28 ?_
  simp
 refine zAA<|cutA 39 0 [(2,pT 0),(6,pT 2),(7,iI v13.2),(24,.bool (!(eqI v13.2 0)))] [(zLn.d p1),(zLm.d c2),(zLm.d v13.1)] ?_
 rcases sp h with ⟨g15,h⟩|⟨g15,h⟩
 ·have g16:=notT g15
  have c17:=eqF g16
  refine zEj rfl g15<|cutA 39 0 [(4,.osl ⟨7,64⟩ (([]:List zLk).map zLk.c)),(5,iI v13.2)] [(zLn.d p1),(zLm.d c2),(zLm.d v13.1)]<|zAC<|zAE ?_
  cases h
  simp
 have g18:=notF g15
 have c19:=eqT g18
 refine zEt rfl g15<|zAB<|zAJ<|cutA 39 0 [(2,pT 0),(6,pT 2),(8,pT 3)] [(zLn.d p1),(zLm.d c2),(zLm.d v13.1),[.osl ⟨7,64⟩ (([]:List zLk).map zLk.c)]]<|zAA ?_
 obtain⟨v20,q21,h⟩:=bs h
 refine cut 39 0 [(8,pT 3),(9,iI v20.1)] [(zLn.d p1),(zLm.d c2),(zLm.d v13.1),[.osl ⟨7,64⟩ (v20.2.binds.map zLk.c)]] ?_ ?_
 ·refine st ?_
  simp
  have r27:=(zGG fuel p1 v13.1 (zLj.mk ([]:List zLk)) v20 q21).frame [3] [(zLn.d p1),(zLm.d c2),(zLm.d v13.1),[.osl ⟨7,64⟩ (([]:List zLk).map zLk.c)]] (by simp)
  try simp at r27
  refine zDX r27 (by simp) rfl ?_
  simp
 refine cutA 39 0 [(8,pT 3),(9,iI v20.1),(33,.bool (!(eqI v20.1 0)))] [(zLn.d p1),(zLm.d c2),(zLm.d v13.1),[.osl ⟨7,64⟩ (v20.2.binds.map zLk.c)]] ?_
 rcases sp h with ⟨g22,h⟩|⟨g22,h⟩
 ·have g23:=notT g22
  have c24:=eqF g23
  refine zEj rfl g22<|cutA 39 0 [(4,.osl ⟨7,64⟩ (([]:List zLk).map zLk.c)),(5,iI v20.1)] [(zLn.d p1),(zLm.d c2),(zLm.d v13.1),[.osl ⟨7,64⟩ (v20.2.binds.map zLk.c)]]<|zAC<|zAE ?_
  cases h
  simp
 have g25:=notF g22
 have c26:=eqT g25
 refine zEt rfl g22<|zAB<|zAJ<|cutA 39 0 [(4,.osl ⟨7,64⟩ (v20.2.binds.map zLk.c)),(5,iI 0)] [(zLn.d p1),(zLm.d c2),(zLm.d v13.1),[.sl (v20.2.binds.map zLk.c)]]<|zAC ?_
 cases h
 simp
theorem zK4(fuel:Nat):(∀(c1:zLm)(left2:Int)(depth3:Int)(r:Int)(_:zCp fuel c1 left2 depth3=some r),Pure Tryz.prog 65 [.agg (zLm.d c1),iI left2,iI depth3] (iI r)):=by
 induction fuel with
 |zero=>intro c1 left2 depth3 r h;rw[zCp] at h;cases h
 |succ fuel zLQ=>
  intro c1 left2 depth3 r h
  rw[zCp] at h
  refine zAD Tryz.func65 (by rfl) (by rfl) (by simp) (by simp) (by simp)<|cutA 38 0 [(1,iI left2),(2,iI depth3),(3,pT 0)] [(zLm.d c1)]<|zAA<|cutA 38 0 [(1,iI left2),(2,iI depth3),(3,pT 0),(10,.bool (ltI 400 depth3))] [(zLm.d c1)]<|spc h rfl (fun g4 h=>?_) fun g4 h=>?_
  ·have c5:=ltT g4
   refine cutA 38 0 [(6,iI left2)] [(zLm.d c1)]<|zAC<|zAE ?_
   cases h
   simp
  have c6:=ltF g4
  refine zAB<|zAJ<|cutA 38 0 [(1,iI left2),(2,iI depth3),(3,pT 0),(7,iI 1)] [(zLm.d c1)]<|zAA<|cutA 38 0 [(1,iI left2),(2,iI depth3),(3,pT 0),(7,iI 1),(8,iI 0)] [(zLm.d c1)]<|zAF ?_
  obtain⟨o9,l10,h⟩:=bs h
  refine zAq (fun p:Nat×Int×Nat=>mkS 38 0 [(1,iI left2),(2,iI depth3),(3,pT 0),(7,iI p.2.1),(8,iI p.2.2)] [(zLm.d c1)]) (fun p=>zC0 (zCp fuel) c1 left2 depth3 p.1 p.2.1 p.2.2=some o9) (fun p=>p.1) (fuel,1,0) l10 (zAc (by simp)) ?_
  rintro⟨k11,n7,i8⟩ l10
  try dsimp only at l10 ⊢
  cases k11 with
  |zero=>
   rw[zC0] at l10;cases l10
  |succ k12=>
   rw[zC0] at l10
   refine zAA<|cut 38 0 [(1,iI left2),(2,iI depth3),(3,pT 0),(7,iI n7),(8,iI i8),(21,.bool ((ltI i8 c1.L.length)&&(ltI n7 left2)))] [(zLm.d c1)] ?_ ?_
   ·rcases tf (ltI i8 c1.L.length) with g13|g13
    ·have c14:=ltT g13
     refine zBk 0 5 rfl rfl rfl fun f15=>?_
     rw[zq4] at f15
     refine st ?_
     simp[g13]
    have c16:=ltF g13
    refine zBk 0 5 rfl rfl rfl fun f17=>?_
    rw[zq4] at f17
    refine st ?_
    simp[g13]
   rcases sp l10 with ⟨g18,l10⟩|⟨g18,l10⟩
   ·obtain⟨g19,g20⟩:=andT g18
    have c21:=ltT g19
    have c23:=ltT g20
    refine zEj rfl g18<|zBk 0 5 rfl rfl rfl fun f22=>?_
    rw[zq4] at f22
    refine zAB<|zAJ<|zAA<|zAF ?_
    obtain⟨x24,q25,l10⟩:=bs l10
    obtain⟨n26,q27,l10⟩:=bs l10
    obtain⟨q28,q29⟩:=zBo q27
    try simp at q28
    try simp at q29
    have c30:=q28;simp only[Rng,inR] at c30
    obtain⟨n31,q32,l10⟩:=bs l10
    obtain⟨q33,q34⟩:=zBo q32
    try simp at q33
    try simp at q34
    have c35:=q33;simp only[Rng,inR] at c35
    obtain⟨v36,q37,l10⟩:=bs l10
    obtain⟨n38,q39,l10⟩:=bs l10
    obtain⟨q40,q41⟩:=zBo q39
    try simp at q40
    try simp at q41
    have c42:=q40;simp only[Rng,inR] at c42
    refine last 38 0 [(1,iI left2),(2,iI depth3),(3,pT 0),(7,iI n38),(8,iI i8)] [(zLm.d c1)] ?_ fun zz hs=>?_
    ·refine st ?_
     simp[q25,q28,q29,q33,q34,q40,q41]
     have r44:=zLQ x24 n26 n31 v36 q37
     try simp[q25,q28,q29,q33,q34,q40,q41] at r44
     refine cP r44 ?_
     simp[q25,q28,q29,q33,q34,q40,q41]
    refine zDC<|zAj ?_ hs
    have q43:Rng .i64 (((i8:Nat):Int)+1):=by simp only[Rng,inR];omega
    try simp at q43
    refine last 38 0 [(1,iI left2),(2,iI depth3),(3,pT 0),(7,iI n38),(8,iI ((i8+1:Nat):Int))] [(zLm.d c1)] (st (by simp[q43])) fun zz hs=>?_
    exact⟨(k12,n38,i8+1),hs,l10,by simp⟩
   refine zEt rfl g18<|zAW<|zAH ?_
   have q45:=zqa l10
   have q45:=q45.symm
   refine zAH<|zAX<|zAj (t:=mkS 38 0 [(7,iI o9)] [(zLm.d c1)]) ?_ (zAc (by simp[q45]))
   refine cutA 38 0 [(6,iI o9)] [(zLm.d c1)]<|zAC ?_
   cases h
   simp
theorem zIA(fuel:Nat)(c1:zLm)(r:Bool)(h:zF3 fuel c1=some r):Pure Tryz.prog 35 [.agg (zLm.d c1)] (.bool r):=by
 rw[zF3] at h
 refine zAD Tryz.func35 (by rfl) (by rfl) (by simp) (by simp) (by simp)<|cutA 6 0 [(1,pT 0)] [(zLm.d c1)] ?_
 obtain⟨v2,q3,h⟩:=bs h
 refine cut 6 0 [(2,.bool (leI v2 20000))] [(zLm.d c1)] ?_ ?_
 ·refine st ?_
  simp
  have r4:=zK4 fuel c1 20001 1 v2 q3
  try simp at r4
  refine cP r4 ?_
  simp
 refine zAC ?_
 cases h
 simp
theorem zFD(op1:Int)(r:Bool)(h:zCl op1=some r):Pure Tryz.prog 112 [iI op1] (.bool r):=by
 rw[zCl] at h
 refine zAD Tryz.func112 (by rfl) (by rfl) (by simp) (by simp) (by simp)<|cutA 17 0 [(0,iI op1)] []<|cut 17 0 [(2,.bool ((eqI op1 9)||((eqI op1 10)||((eqI op1 11)||(eqI op1 13)))))] [] ?_ ?_
 ·rcases tf (eqI op1 9) with g2|g2
  ·have c3:=eqT g2
   refine st ?_
   simp[g2]
  have c4:=eqF g2
  rcases tf (eqI op1 10) with g5|g5
  ·have c6:=eqT g5
   refine st ?_
   simp[g2,g5]
  have c7:=eqF g5
  rcases tf (eqI op1 11) with g8|g8
  ·have c9:=eqT g8
   refine st ?_
   simp[g2,g5,g8]
  have c10:=eqF g8
  refine st ?_
  simp[g2,g5,g8]
 refine zAC ?_
 cases h
 simp
theorem zK2(op1:Int)(r:Int)(h:zFM op1=some r):Pure Tryz.prog 109 [iI op1] (iI r):=by
 rw[zFM] at h
 refine zAD Tryz.func109 (by rfl) (by rfl) (by simp) (by simp) (by simp)<|cutA 17 0 [(0,iI op1)] []<|zAA<|cut 17 0 [(0,iI op1),(8,.bool ((eqI op1 6)||(eqI op1 12)))] [] ?_ ?_
 ·rcases tf (eqI op1 6) with g2|g2
  ·have c3:=eqT g2
   refine st ?_
   simp[g2]
  have c4:=eqF g2
  refine st ?_
  simp[g2]
 rcases sp h with ⟨g5,h⟩|⟨g5,h⟩
 ·refine zEj rfl g5<|cutA 17 0 [(2,iI 2)] []<|zAC<|zAE ?_
  cases h
  simp
 obtain⟨g6,g7⟩:=orF g5
 have c8:=eqF g6
 have c9:=eqF g7
 refine zEt rfl g5<|zAB<|zAJ<|zAA<|cut 17 0 [(0,iI op1),(14,.bool ((eqI op1 7)||(eqI op1 8)))] [] ?_ ?_
 ·rcases tf (eqI op1 7) with g10|g10
  ·have c11:=eqT g10
   refine st ?_
   simp[g10]
  have c12:=eqF g10
  refine st ?_
  simp[g10]
 rcases sp h with ⟨g13,h⟩|⟨g13,h⟩
 ·refine zEj rfl g13<|cutA 17 0 [(2,iI (-1))] []<|zAC<|zAE ?_
  cases h
  simp
 obtain⟨g14,g15⟩:=orF g13
 have c16:=eqF g14
 have c17:=eqF g15
 refine zEt rfl g13<|zAB<|zAJ<|zAA ?_
 obtain⟨v18,q19,h⟩:=bs h
 refine cut 17 0 [(16,.bool v18)] [] ?_ ?_
 ·refine st ?_
  simp
  have r21:=zFD op1 v18 q19
  try simp at r21
  refine cP r21 ?_
  simp
 refine spc h rfl (fun g20 h=>?_) fun g20 h=>?_
 ·refine cutA 17 0 [(2,iI 1)] []<|zAC<|zAE ?_
  cases h
  simp
 refine zAB<|zAJ<|cutA 17 0 [(2,iI 0)] []<|zAC ?_
 cases h
 simp
theorem zJT(fuel:Nat)(s1:(List UInt8))(r:Bool)(h:zDv fuel s1=some r):Pure Tryz.prog 158 [.str s1] (.bool r):=by
 rw[zDv] at h
 refine zAD Tryz.func158 (by rfl) (by rfl) (by simp) (by simp) (by simp)<|cutA 29 0 [(0,.str s1)] []<|zAA<|cutA 29 0 [(0,.str s1),(3,iI 0)] []<|zAF ?_
 obtain⟨o4,l5,h⟩:=bs h
 refine zAq (fun p:Nat×Nat=>mkS 29 0 [(0,.str s1),(3,iI p.2)] []) (fun p=>zCE s1 p.1 p.2=some o4) (fun p=>p.1) (fuel,0) l5 (zAc (by simp)) ?_
 rintro⟨k6,i2⟩ l5
 try dsimp only at l5 ⊢
 cases k6 with
 |zero=>
  rw[zCE] at l5;cases l5
 |succ k7=>
  rw[zCE] at l5
  refine zAA<|cutA 29 0 [(0,.str s1),(3,iI i2),(7,.bool (ltI i2 s1.length))] []<|spc l5 rfl (fun g8 l5=>?_) fun g8 l5=>?_
  ·have c9:=ltT g8
   refine zKP 0 rfl fun f10=>?_
   refine zAB<|zAJ<|zAA<|zAF ?_
   obtain⟨b18,q19,l5⟩:=bs l5
   refine cut 29 0 [(0,.str s1),(3,iI i2),(20,.bool b18)] [] ?_ ?_
   ·obtain⟨c11,q12,q19⟩:=bs q19
    obtain⟨v13,q14,q19⟩:=bs q19
    rcases sp q19 with ⟨g15,q19⟩|⟨g15,q19⟩
    ·have g16:=notT g15
     obtain rfl:=oi q19
     refine st ?_
     simp[q12,g15]
     have r22:=zGX c11 v13 q14
     try simp[q12,g15] at r22
     refine cP r22 ?_
     simp[q12,g15]
    have g17:=notF g15
    obtain rfl:=oi q19
    refine st ?_
    simp[q12,g15]
    have r23:=zGX c11 v13 q14
    try simp[q12,g15] at r23
    refine cP r23 ?_
    simp[q12,g15]
   refine spc l5 rfl (fun g20 l5=>?_) fun g20 l5=>?_
   ·refine cutA 29 0 [(2,.bool false)] []<|zAC<|zAR<|zAE ?_
    replace h:=retL l5 h
    refine zAE<|zAR<|zAE ?_
    cases h
    simp
   refine zAB<|zDC<|zAJ ?_
   have q21:Rng .i64 (((i2:Nat):Int)+1):=by simp only[Rng,inR];omega
   try simp at q21
   refine last 29 0 [(0,.str s1),(3,iI ((i2+1:Nat):Int))] [] (st (by simp[q21])) fun zz hs=>?_
   exact⟨(k7,i2+1),hs,l5,by simp⟩
  have c24:=ltF g8
  refine zKP 0 rfl fun f25=>?_
  refine zAW<|zAH ?_
  rcases o4 with o4|o3
  ·cases l5
  have q26:=Sum.inr.inj (zqa l5)
  replace h:=zHa h
  refine zAH<|zAX<|zAj (t:=mkS 29 0 [(0,.str s1)] []) ?_ (zAc (by simp))
  refine cut 29 0 [(2,.bool ((leI 1 s1.length)&&(leI s1.length 48)))] [] ?_ ?_
  ·rcases tf (leI 1 s1.length) with g27|g27
   ·have c28:=leT g27
    refine zKP 0 rfl fun f29=>?_
    refine st ?_
    simp[g27]
   have c30:=leF g27
   refine zKP 0 rfl fun f31=>?_
   refine st ?_
   simp[g27]
  refine zAC ?_
  cases h
  simp
theorem zIU(fuel:Nat)(l1:(List (List UInt8)))(r:Bool)(h:zDr fuel l1=some r):Pure Tryz.prog 159 [.sl (l1.map cS)] (.bool r):=by
 rw[zDr] at h
 refine zAD Tryz.func159 (by rfl) (by rfl) (by simp) (by simp) (by simp)<|cutA 20 0 [(0,.sl (l1.map cS))] []<|zAA<|cutA 20 0 [(0,.sl (l1.map cS)),(3,iI 1)] []<|zAF ?_
 obtain⟨o4,l5,h⟩:=bs h
 refine zAq (fun p:Nat×Nat=>mkS 20 0 [(0,.sl (l1.map cS)),(3,iI p.2)] []) (fun p=>zBi l1 p.1 p.2=some o4) (fun p=>p.1) (fuel,1) l5 (zAc (by simp)) ?_
 rintro⟨k6,i2⟩ l5
 try dsimp only at l5 ⊢
 cases k6 with
 |zero=>
  rw[zBi] at l5;cases l5
 |succ k7=>
  rw[zBi] at l5
  refine zAA<|cutA 20 0 [(0,.sl (l1.map cS)),(3,iI i2),(7,.bool (ltI i2 l1.length))] []<|spc l5 rfl (fun g8 l5=>?_) fun g8 l5=>?_
  ·have c9:=ltT g8
   refine zC5 0 rfl fun f10=>?_
   rw[zq4] at f10
   refine zAB<|zAJ<|zAA<|zAF ?_
   have q11:Rng .i64 (((i2:Nat):Int)-1):=by simp only[Rng,inR];omega
   try simp at q11
   obtain⟨x12,q13,l5⟩:=bs l5
   obtain⟨q14,q15⟩:=idx_ok q13
   try simp at q14
   try simp at q15
   obtain⟨x16,q17,l5⟩:=bs l5
   refine cut 20 0 [(0,.sl (l1.map cS)),(3,iI i2),(19,.bool (!(ltS x12 x16)))] [] ?_ ?_
   ·refine zAL [] mixed (n:=20) rfl (by decide) ?_
    simp[q11,q14,q15,q17]
   refine spc l5 rfl (fun g18 l5=>?_) fun g18 l5=>?_
   ·have g19:=notT g18
    refine cutA 20 0 [(2,.bool false)] []<|zAC<|zAR<|zAE ?_
    replace h:=retL l5 h
    refine zAE<|zAR<|zAE ?_
    cases h
    simp
   have g20:=notF g18
   refine zAB<|zDC<|zAJ ?_
   have q21:Rng .i64 (((i2:Nat):Int)+1):=by simp only[Rng,inR];omega
   try simp at q21
   refine last 20 0 [(0,.sl (l1.map cS)),(3,iI ((i2+1:Nat):Int))] [] (st (by simp[q21])) fun zz hs=>?_
   exact⟨(k7,i2+1),hs,l5,by simp⟩
  have c22:=ltF g8
  refine zC5 0 rfl fun f23=>?_
  rw[zq4] at f23
  refine zAW<|zAH ?_
  rcases o4 with o4|o3
  ·cases l5
  have q24:=Sum.inr.inj (zqa l5)
  replace h:=zHa h
  refine zAH<|zAX<|zAj (t:=mkS 20 0 [] []) ?_ (zAc (by simp))
  refine cutA 20 0 [(2,.bool true)] []<|zAC ?_
  cases h
  simp
theorem zHX(fuel:Nat)(l1:(List (List UInt8)))(r:Bool)(h:zED fuel l1=some r):Pure Tryz.prog 110 [.sl (l1.map cS)] (.bool r):=by
 rw[zED] at h
 refine zAD Tryz.func110 (by rfl) (by rfl) (by simp) (by simp) (by simp)<|cutA 23 0 [(0,.sl (l1.map cS))] []<|zAA<|cutA 23 0 [(0,.sl (l1.map cS)),(3,iI 0)] []<|zAF ?_
 obtain⟨o4,l5,h⟩:=bs h
 refine zAq (fun p:Nat×Nat=>mkS 23 0 [(0,.sl (l1.map cS)),(3,iI p.2)] []) (fun p=>zCa fuel l1 p.1 p.2=some o4) (fun p=>p.1) (fuel,0) l5 (zAc (by simp)) ?_
 rintro⟨k6,i2⟩ l5
 try dsimp only at l5 ⊢
 cases k6 with
 |zero=>
  rw[zCa] at l5;cases l5
 |succ k7=>
  rw[zCa] at l5
  refine zAA<|cutA 23 0 [(0,.sl (l1.map cS)),(3,iI i2),(7,.bool (ltI i2 l1.length))] []<|spc l5 rfl (fun g8 l5=>?_) fun g8 l5=>?_
  ·have c9:=ltT g8
   refine zC5 0 rfl fun f10=>?_
   rw[zq4] at f10
   refine zAB<|zAJ<|zAA<|zAF ?_
   obtain⟨x11,q12,l5⟩:=bs l5
   obtain⟨v13,q14,l5⟩:=bs l5
   refine cut 23 0 [(0,.sl (l1.map cS)),(3,iI i2),(15,.bool (!v13))] [] ?_ ?_
   ·refine st ?_
    simp[q12]
    have r19:=zJT fuel x11 v13 q14
    try simp[q12] at r19
    refine cP r19 ?_
    simp[q12]
   refine spc l5 rfl (fun g15 l5=>?_) fun g15 l5=>?_
   ·have g16:=notT g15
    refine cutA 23 0 [(2,.bool false)] []<|zAC<|zAR<|zAE ?_
    replace h:=retL l5 h
    refine zAE<|zAR<|zAE ?_
    cases h
    simp
   have g17:=notF g15
   refine zAB<|zDC<|zAJ ?_
   have q18:Rng .i64 (((i2:Nat):Int)+1):=by simp only[Rng,inR];omega
   try simp at q18
   refine last 23 0 [(0,.sl (l1.map cS)),(3,iI ((i2+1:Nat):Int))] [] (st (by simp[q18])) fun zz hs=>?_
   exact⟨(k7,i2+1),hs,l5,by simp⟩
  have c20:=ltF g8
  refine zC5 0 rfl fun f21=>?_
  rw[zq4] at f21
  refine zAW<|zAH ?_
  rcases o4 with o4|o3
  ·cases l5
  have q22:=Sum.inr.inj (zqa l5)
  replace h:=zHa h
  refine zAH<|zAX<|zAj (t:=mkS 23 0 [(0,.sl (l1.map cS))] []) ?_ (zAc (by simp))
  obtain⟨b30,q31,h⟩:=bs h
  refine cut 23 0 [(2,.bool b30)] [] ?_ ?_
  ·rcases sp q31 with ⟨g23,q31⟩|⟨g23,q31⟩
   ·have c24:=leT g23
    refine zC5 0 rfl fun f25=>?_
    rw[zq4] at f25
    obtain⟨v26,q27,q31⟩:=bs q31
    obtain rfl:=oi q31
    refine st ?_
    simp[g23]
    have r32:=zIU fuel l1 v26 q27
    try simp[g23] at r32
    refine cP r32 ?_
    simp[g23]
   have c28:=leF g23
   refine zC5 0 rfl fun f29=>?_
   rw[zq4] at f29
   obtain rfl:=oi q31
   refine st ?_
   simp[g23]
  refine zAC ?_
  cases h
  simp
theorem zKD(fuel:Nat)(s1:(List UInt8))(r:Int×Int)(h:zEE fuel s1=some r):Pure Tryz.prog 160 [.str s1] (.tup [iI r.1,iI r.2]):=by
 rw[zEE] at h
 refine zAD Tryz.func160 (by rfl) (by rfl) (by simp) (by simp) (by simp)<|cutA 42 0 [(0,.str s1)] []<|zAA ?_
 obtain⟨b12,q13,h⟩:=bs h
 refine cut 42 0 [(0,.str s1),(18,.bool b12)] [] ?_ ?_
 ·rcases sp q13 with ⟨g2,q13⟩|⟨g2,q13⟩
  ·obtain rfl:=oi q13
   refine st ?_
   simp[g2]
  rcases sp q13 with ⟨g5,q13⟩|⟨g5,q13⟩
  ·refine zKP 0 rfl fun f7=>?_
   obtain⟨c8,q9,q13⟩:=bs q13
   obtain rfl:=oi q13
   refine st ?_
   simp[g2,g5,q9]
  refine zKP 0 rfl fun f11=>?_
  obtain rfl:=oi q13
  refine st ?_
  simp[g2,g5]
 refine spc h rfl (fun g14 h=>?_) fun g14 h=>?_
 ·refine cutA 42 0 [(2,iI 0),(3,iI 3)] []<|zAC<|zAE ?_
  cases h
  simp
 refine zAB<|zAJ<|cutA 42 0 [(0,.str s1),(4,iI 0)] []<|zAA<|cutA 42 0 [(0,.str s1),(4,iI 0),(5,iI 0)] []<|zAF ?_
 obtain⟨o18,l19,h⟩:=bs h
 refine zAq (fun p:Nat×Int×Nat=>mkS 42 0 [(0,.str s1),(4,iI p.2.1),(5,iI p.2.2)] []) (fun p=>zCd s1 p.1 p.2.1 p.2.2=some o18) (fun p=>p.1) (fuel,0,0) l19 (zAc (by simp)) ?_
 rintro⟨k20,n15,i16⟩ l19
 try dsimp only at l19 ⊢
 cases k20 with
 |zero=>
  rw[zCd] at l19;cases l19
 |succ k21=>
  rw[zCd] at l19
  refine zAA<|cutA 42 0 [(0,.str s1),(4,iI n15),(5,iI i16),(22,.bool (ltI i16 s1.length))] []<|spc l19 rfl (fun g22 l19=>?_) fun g22 l19=>?_
  ·have c23:=ltT g22
   refine zKP 0 rfl fun f24=>?_
   refine zAB<|zAJ<|zAA<|zAF<|zAA ?_
   obtain⟨c25,q26,l19⟩:=bs l19
   obtain⟨v27,q28,l19⟩:=bs l19
   refine cut 42 0 [(0,.str s1),(4,iI n15),(5,iI i16),(29,.bool (!v27))] [] ?_ ?_
   ·refine st ?_
    simp[q26]
    have r49:=zGY c25 v27 q28
    refine cP r49 ?_
    simp[q26]
   refine spc l19 rfl (fun g29 l19=>?_) fun g29 l19=>?_
   ·refine cutA 42 0 [(2,iI 0),(3,iI 3)] []<|zAC<|zAE<|zAR<|zAE ?_
    replace h:=retL l19 h
    refine zAE<|zAR<|zAE ?_
    cases h
    simp
   refine zAB<|zAJ ?_
   obtain⟨n32,q33,l19⟩:=bs l19
   obtain⟨q34,q35⟩:=zBo q33
   have c36:=q34;simp only[Rng,inR] at c36
   obtain⟨n37,q38,l19⟩:=bs l19
   obtain⟨q39,q40⟩:=zBo q38
   have c41:=q39;simp only[Rng,inR] at c41
   have q42:Rng .i64 (n37):=by simp only[Rng,inR];omega
   obtain⟨n43,q44,l19⟩:=bs l19
   obtain⟨q45,q46⟩:=zBo q44
   have c47:=q45;simp only[Rng,inR] at c47
   refine last 42 0 [(0,.str s1),(4,iI (minI 4503599627370497 n43)),(5,iI i16)] [] (st (by simp[q34,q35,q26,q39,q40,q42,q45,q46])) fun zz hs=>?_
   refine zDC<|zAj ?_ hs
   have q48:Rng .i64 (((i16:Nat):Int)+1):=by simp only[Rng,inR];omega
   refine last 42 0 [(0,.str s1),(4,iI (minI 4503599627370497 n43)),(5,iI ((i16+1:Nat):Int))] [] (st (by simp[q48])) fun zz hs=>?_
   exact⟨(k21,minI 4503599627370497 n43,i16+1),hs,l19,by simp⟩
  refine zKP 0 rfl fun f51=>?_
  refine zAW<|zAH ?_
  rcases o18 with o18|o17
  ·cases l19
  have q52:=Sum.inr.inj (zqa l19)
  replace h:=zHa h
  have q52:=q52.symm
  refine zAH<|zAX<|zAj (t:=mkS 42 0 [(4,iI o17)] []) ?_ (zAc (by simp[q52]))
  refine zAA<|cutA 42 0 [(4,iI o17),(40,.bool (ltI 4503599627370496 o17))] []<|spc h rfl (fun g53 h=>?_) fun g53 h=>?_
  ·refine cutA 42 0 [(2,iI 0),(3,iI 6)] []<|zAC<|zAE ?_
   cases h
   simp
  refine zAB<|zAJ<|cutA 42 0 [(2,iI o17),(3,iI 0)] []<|zAC ?_
  cases h
  simp
theorem zD9(fuel:Nat)(s1:(List UInt8))(r:Bool)(h:zCc fuel s1=some r):Pure Tryz.prog 111 [.str s1] (.bool r):=by
 rw[zCc] at h
 refine zAD Tryz.func111 (by rfl) (by rfl) (by simp) (by simp) (by simp)<|cutA 35 0 [(0,.str s1)] []<|zAA<|cutA 35 0 [(0,.str s1),(8,.bool (ltI 48 s1.length))] []<|spc h rfl (fun g2 h=>?_) fun g2 h=>?_
 ·have c3:=ltT g2
  refine zKP 0 rfl fun f4=>?_
  refine cutA 35 0 [(2,.bool false)] []<|zAC<|zAE ?_
  cases h
  simp
 have c5:=ltF g2
 refine zKP 0 rfl fun f6=>?_
 refine zAB<|zAJ<|zAA<|cutA 35 0 [(0,.str s1),(3,iI 0)] []<|zAF ?_
 obtain⟨o9,l10,h⟩:=bs h
 refine zAq (fun p:Nat×Nat=>mkS 35 0 [(0,.str s1),(3,iI p.2)] []) (fun p=>zBh fuel s1 p.1 p.2=some o9) (fun p=>p.1) (fuel,0) l10 (zAc (by simp)) ?_
 rintro⟨k11,i7⟩ l10
 try dsimp only at l10 ⊢
 cases k11 with
 |zero=>
  rw[zBh] at l10;cases l10
 |succ k12=>
  rw[zBh] at l10
  refine zAA<|cutA 35 0 [(0,.str s1),(3,iI i7),(12,.bool (ltI i7 s1.length))] []<|spc l10 rfl (fun g13 l10=>?_) fun g13 l10=>?_
  ·have c14:=ltT g13
   refine zAB<|zAJ<|zAA<|zAF ?_
   obtain⟨c15,q16,l10⟩:=bs l10
   refine cut 35 0 [(0,.str s1),(3,iI i7),(18,.bool (eqI c15.toNat 46))] [] (st (by simp[q16]))<|spc l10 rfl (fun g17 l10=>?_) fun g17 l10=>?_
   ·have c18:=eqT g17
    have q19:Rng .i64 (((i7:Nat):Int)+1):=by simp only[Rng,inR];omega
    try simp at q19
    obtain⟨s20,q21,l10⟩:=bs l10
    obtain⟨q22,q23⟩:=subC_ok q21
    try simp at q22
    try simp at q23
    obtain⟨v24,q25,l10⟩:=bs l10
    refine cut 35 0 [(0,.str s1),(3,iI i7),(5,iI v24.2)] [] ?_ ?_
    ·refine st ?_
     simp[q19,q22,q23]
     have r37:=zKD fuel s20 v24 q25
     try simp[q19,q22,q23] at r37
     refine cP r37 ?_
     simp[q19,q22,q23]
    obtain⟨b33,q34,l10⟩:=bs l10
    refine cut 35 0 [(2,.bool b33)] [] ?_ ?_
    ·obtain⟨s26,q27,q34⟩:=bs q34
     obtain⟨q28,q29⟩:=subC_ok q27
     try simp at q28
     try simp at q29
     obtain⟨v30,q31,q34⟩:=bs q34
     rcases sp q34 with ⟨g32,q34⟩|⟨g32,q34⟩
     ·obtain rfl:=oi q34
      refine st ?_
      simp[q28,q29,g32]
      have r35:=zEn fuel s26 v30 q31
      try simp[q28,q29,g32] at r35
      refine cP r35 ?_
      simp[q28,q29,g32]
     obtain rfl:=oi q34
     refine st ?_
     simp[q28,q29,g32]
     have r36:=zEn fuel s26 v30 q31
     try simp[q28,q29,g32] at r36
     refine cP r36 ?_
     simp[q28,q29,g32]
    refine zAC<|zAR<|zAE ?_
    replace h:=retL l10 h
    refine zAE<|zAR<|zAE ?_
    cases h
    simp
   have c38:=eqF g17
   refine zAB<|zDC<|zAJ ?_
   have q39:Rng .i64 (((i7:Nat):Int)+1):=by simp only[Rng,inR];omega
   try simp at q39
   refine last 35 0 [(0,.str s1),(3,iI ((i7+1:Nat):Int))] [] (st (by simp[q39])) fun zz hs=>?_
   exact⟨(k12,i7+1),hs,l10,by simp⟩
  have c40:=ltF g13
  refine zAW<|zAH ?_
  rcases o9 with o9|o8
  ·cases l10
  have q41:=Sum.inr.inj (zqa l10)
  replace h:=zHa h
  refine zAH<|zAX<|zAj (t:=mkS 35 0 [] []) ?_ (zAc (by simp))
  refine cutA 35 0 [(2,.bool false)] []<|zAC ?_
  cases h
  simp
theorem zK6(fuel:Nat):(∀(k1:zLl)(left2:Int)(depth3:Int)(r:Int)(_:zDg fuel k1 left2 depth3=some r),Pure Tryz.prog 161 [.agg [.sl (k1.L.map zLl.c)],iI left2,iI depth3] (iI r)):=by
 induction fuel with
 |zero=>intro k1 left2 depth3 r h;rw[zDg] at h;cases h
 |succ fuel zLT=>
  intro k1 left2 depth3 r h
  rw[zDg] at h
  refine zAD Tryz.func161 (by rfl) (by rfl) (by simp) (by simp) (by simp)<|cutA 49 0 [(1,iI left2),(2,iI depth3),(3,pT 0)] [[.sl (k1.L.map zLl.c)]]<|zAA<|cut 49 0 [(1,iI left2),(2,iI depth3),(3,pT 0),(25,.bool ((ltI left2 1)||((ltI depth3 1)||((!(eqI k1.L.length 0))&&(!(eqI k1.L.length 2))))))] [[.sl (k1.L.map zLl.c)]] ?_ ?_
  ·rcases tf (ltI left2 1) with g4|g4
   ·refine st ?_
    simp[g4]
   rcases tf (ltI depth3 1) with g7|g7
   ·refine st ?_
    simp[g4,g7]
   rcases tf (!(eqI k1.L.length 0)) with g10|g10
   ·have g11:=notT g10
    refine st ?_
    simp[g4,g7,g10]
   have g13:=notF g10
   refine st ?_
   simp[g4,g7,g10]
  rcases sp h with ⟨g15,h⟩|⟨g15,h⟩
  ·refine zEj rfl g15<|cutA 49 0 [(6,iI (-1))] [[.sl (k1.L.map zLl.c)]]<|zAC<|zAE ?_
   cases h
   simp
  obtain⟨g16,g17⟩:=orF g15
  obtain⟨g19,g20⟩:=orF g17
  refine zEt rfl g15<|zAB<|zAJ ?_
  obtain⟨n22,q23,h⟩:=bs h
  obtain⟨q24,q25⟩:=zBo q23
  have c26:=q24;simp only[Rng,inR] at c26
  refine cut 49 0 [(1,iI n22),(2,iI depth3),(3,pT 0)] [[.sl (k1.L.map zLl.c)]] (st (by simp[q24,q25]))<|zAA<|cutA 49 0 [(1,iI n22),(2,iI depth3),(3,pT 0),(7,iI 0)] [[.sl (k1.L.map zLl.c)]]<|zAF ?_
  obtain⟨o29,l30,h⟩:=bs h
  refine zAq (fun p:Nat×Int×Nat=>mkS 49 0 [(1,iI p.2.1),(2,iI depth3),(3,pT 0),(7,iI p.2.2)] [[.sl (k1.L.map zLl.c)]]) (fun p=>zB0 (zDg fuel) k1 depth3 p.1 p.2.1 p.2.2=some o29) (fun p=>p.1) (fuel,n22,0) l30 (zAc (by simp)) ?_
  rintro⟨k31,left27,i28⟩ l30
  try dsimp only at l30 ⊢
  cases k31 with
  |zero=>
   rw[zB0] at l30;cases l30
  |succ k32=>
   rw[zB0] at l30
   refine zAA<|cut 49 0 [(1,iI left27),(2,iI depth3),(3,pT 0),(7,iI i28),(36,.bool ((ltI i28 k1.L.length)&&(leI 0 left27)))] [[.sl (k1.L.map zLl.c)]] ?_ ?_
   ·rcases tf (ltI i28 k1.L.length) with g33|g33
    ·refine zBk 0 0 rfl rfl rfl fun f35=>?_
     rw[zq4] at f35
     refine st ?_
     simp[g33]
    refine zBk 0 0 rfl rfl rfl fun f37=>?_
    rw[zq4] at f37
    refine st ?_
    simp[g33]
   rcases sp l30 with ⟨g38,l30⟩|⟨g38,l30⟩
   ·obtain⟨g39,g40⟩:=andT g38
    have c41:=ltT g39
    refine zEj rfl g38<|zBk 0 0 rfl rfl rfl fun f42=>?_
    rw[zq4] at f42
    refine zAB<|zAJ<|zAA<|zAF ?_
    obtain⟨x44,q45,l30⟩:=bs l30
    obtain⟨n46,q47,l30⟩:=bs l30
    obtain⟨q48,q49⟩:=zBo q47
    have c50:=q48;simp only[Rng,inR] at c50
    obtain⟨v51,q52,l30⟩:=bs l30
    refine last 49 0 [(1,iI v51),(2,iI depth3),(3,pT 0),(7,iI i28)] [[.sl (k1.L.map zLl.c)]] ?_ fun zz hs=>?_
    ·refine st ?_
     simp[q45,q48,q49]
     have r54:=zLT x44 left27 n46 v51 q52
     refine cP r54 ?_
     simp[q45,q48,q49]
    refine zDC<|zAj ?_ hs
    have q53:Rng .i64 (((i28:Nat):Int)+1):=by simp only[Rng,inR];omega
    refine last 49 0 [(1,iI v51),(2,iI depth3),(3,pT 0),(7,iI ((i28+1:Nat):Int))] [[.sl (k1.L.map zLl.c)]] (st (by simp[q53])) fun zz hs=>?_
    exact⟨(k32,v51,i28+1),hs,l30,by simp⟩
   refine zEt rfl g38<|zAW<|zAH ?_
   have q55:=zqa l30
   have q55:=q55.symm
   refine zAH<|zAX<|zAj (t:=mkS 49 0 [(1,iI o29)] [[.sl (k1.L.map zLl.c)]]) ?_ (zAc (by simp[q55]))
   refine cutA 49 0 [(6,iI o29)] [[.sl (k1.L.map zLl.c)]]<|zAC ?_
   cases h
   simp
theorem zID(fuel:Nat)(k1:zLl)(r:Bool)(h:zDh fuel k1=some r):Pure Tryz.prog 113 [.agg [.sl (k1.L.map zLl.c)]] (.bool r):=by
 rw[zDh] at h
 refine zAD Tryz.func113 (by rfl) (by rfl) (by simp) (by simp) (by simp)<|cutA 6 0 [(1,pT 0)] [[.sl (k1.L.map zLl.c)]] ?_
 obtain⟨v2,q3,h⟩:=bs h
 refine cut 6 0 [(2,.bool (leI 0 v2))] [[.sl (k1.L.map zLl.c)]] ?_ ?_
 ·refine st ?_
  simp
  have r4:=zK6 fuel k1 20000 400 v2 q3
  try simp at r4
  refine cP r4 ?_
  simp
 refine zAC ?_
 cases h
 simp
theorem ref09_node_ok(fuel:Nat)(c1:zLm)(r:Bool)(h:zFo fuel c1=some r):Pure Tryz.prog 66 [.agg (zLm.d c1)] (.bool r):=by
 rw[zFo] at h
 refine zAD Tryz.func66 (by rfl) (by rfl) (by simp) (by simp) (by simp)<|cutA 103 0 [(1,pT 0)] [(zLm.d c1)]<|zAA<|cut 103 0 [(1,pT 0),(11,.bool ((ltI c1.Op 1)||(ltI 13 c1.Op)))] [(zLm.d c1)] ?_ ?_
 ·rcases tf (ltI c1.Op 1) with g2|g2
  ·refine st ?_
   simp[g2]
  refine st ?_
  simp[g2]
 rcases sp h with ⟨g5,h⟩|⟨g5,h⟩
 ·refine zEj rfl g5<|cutA 103 0 [(2,.bool false)] [(zLm.d c1)]<|zAC<|zAE ?_
  cases h
  simp
 obtain⟨g6,g7⟩:=orF g5
 refine zEt rfl g5<|zAB<|zAJ ?_
 obtain⟨v10,q11,h⟩:=bs h
 refine cut 103 0 [(1,pT 0),(3,iI v10)] [(zLm.d c1)] ?_ ?_
 ·refine st ?_
  simp
  have r121:=zK2 c1.Op v10 q11
  refine cP r121 ?_
  simp
 refine zAA ?_
 obtain⟨b45,q46,h⟩:=bs h
 refine cut 103 0 [(1,pT 0),(48,.bool b45)] [(zLm.d c1)] ?_ ?_
 ·rcases sp q46 with ⟨g12,q46⟩|⟨g12,q46⟩
  ·rcases sp q46 with ⟨g14,q46⟩|⟨g14,q46⟩
   ·have g15:=notT g14
    obtain rfl:=oi q46
    refine st ?_
    simp[g12,g14]
   have g17:=notF g14
   rcases sp q46 with ⟨g19,q46⟩|⟨g19,q46⟩
   ·have g20:=notT g19
    obtain rfl:=oi q46
    refine st ?_
    simp[g12,g14,g19]
   have g22:=notF g19
   rcases sp q46 with ⟨g24,q46⟩|⟨g24,q46⟩
   ·rcases sp q46 with ⟨g26,q46⟩|⟨g26,q46⟩
    ·have g27:=notT g26
     obtain rfl:=oi q46
     refine st ?_
     simp[g12,g14,g19,g24,g26]
    have g29:=notF g26
    obtain⟨v31,q32,q46⟩:=bs q46
    obtain rfl:=oi q46
    have g12x:=g12
    have g14x:=g14
    have g19x:=g19
    have g24x:=g24
    have g26x:=g26
    refine zAy<|WL.cut 30 103 0 [(1,pT 0),(30,.bool (!(eqI c1.Names.length 0))),(33,.bool (ltI v10 0)),(41,.bool (!(eqI c1.L.length c1.Names.length))),(44,.bool v31)] [(zLm.d c1)] ?_ ?_
    ·simp[g12,g14,g19,g24,g26,g12x,g14x,g19x,g24x,g26x]
     have r119:=zHX fuel c1.Names v31 q32
     refine cP r119 ?_
     simp[g12,g14,g19,g24,g26,g12x,g14x,g19x,g24x,g26x]
    refine WL.last ?_
    simp[g12,g14,g19,g24,g26,g12x,g14x,g19x,g24x,g26x]
   obtain rfl:=oi q46
   refine st ?_
   simp[g12,g14,g19,g24]
  rcases sp q46 with ⟨g35,q46⟩|⟨g35,q46⟩
  ·rcases sp q46 with ⟨g37,q46⟩|⟨g37,q46⟩
   ·have g38:=notT g37
    obtain rfl:=oi q46
    refine st ?_
    simp[g12,g35,g37]
   have g40:=notF g37
   obtain⟨v42,q43,q46⟩:=bs q46
   obtain rfl:=oi q46
   have g12x:=g12
   have g35x:=g35
   have g37x:=g37
   refine zAy<|WL.cut 30 103 0 [(1,pT 0),(30,.bool false),(33,.bool (ltI v10 0)),(41,.bool (!(eqI c1.L.length c1.Names.length))),(44,.bool v42)] [(zLm.d c1)] ?_ ?_
   ·simp[g12,g35,g37,g12x,g35x,g37x]
    have r120:=zHX fuel c1.Names v42 q43
    refine cP r120 ?_
    simp[g12,g35,g37,g12x,g35x,g37x]
   refine WL.last ?_
   simp[g12,g35,g37,g12x,g35x,g37x]
  obtain rfl:=oi q46
  refine st ?_
  simp[g12,g35]
 refine spc h rfl (fun g47 h=>?_) fun g47 h=>?_
 ·refine cutA 103 0 [(2,.bool false)] [(zLm.d c1)]<|zAC<|zAE ?_
  cases h
  simp
 refine zAB<|zAJ<|zAA<|cut 103 0 [(1,pT 0),(56,.bool ((eqI c1.Op 1)||(eqI c1.Op 3)))] [(zLm.d c1)] ?_ ?_
 ·rcases tf (eqI c1.Op 1) with g48|g48
  ·refine st ?_
   simp[g48]
  refine st ?_
  simp[g48]
 rcases sp h with ⟨g51,h⟩|⟨g51,h⟩
 ·refine zEj rfl g51<|cut 103 0 [(1,pT 0),(64,.bool ((ltI c1.N 0)||(ltI 20000 c1.N)))] [(zLm.d c1)] ?_ ?_
  ·rcases tf (ltI c1.N 0) with g52|g52
   ·refine st ?_
    simp[g52]
   refine st ?_
   simp[g52]
  rcases sp h with ⟨g55,h⟩|⟨g55,h⟩
  ·refine zEj rfl g55<|cutA 103 0 [(2,.bool false)] [(zLm.d c1)]<|zAC<|zAE ?_
   cases h
   simp
  obtain⟨g56,g57⟩:=orF g55
  refine zEt rfl g55<|zAB<|zAJ<|zAA ?_
  obtain⟨b68,q69,h⟩:=bs h
  refine cut 103 0 [(1,pT 0),(86,.bool b68)] [(zLm.d c1)] ?_ ?_
  ·rcases sp q69 with ⟨g60,q69⟩|⟨g60,q69⟩
   ·obtain⟨v62,q63,q69⟩:=bs q69
    rcases sp q69 with ⟨g64,q69⟩|⟨g64,q69⟩
    ·obtain rfl:=oi q69
     refine st ?_
     simp[g60,g64]
     have r83:=zD9 fuel c1.S v62 q63
     refine cP r83 ?_
     simp[g60,g64]
    obtain rfl:=oi q69
    refine st ?_
    simp[g60,g64]
    have r84:=zD9 fuel c1.S v62 q63
    refine cP r84 ?_
    simp[g60,g64]
   obtain rfl:=oi q69
   refine st ?_
   simp[g60]
  refine spc h rfl (fun g70 h=>?_) fun g70 h=>?_
  ·refine cutA 103 0 [(2,.bool false)] [(zLm.d c1)]<|zAC<|zAE ?_
   cases h
   simp
  refine zAB<|zAJ<|zAA ?_
  obtain⟨b76,q77,h⟩:=bs h
  refine cut 103 0 [(1,pT 0),(94,.bool b76)] [(zLm.d c1)] ?_ ?_
  ·rcases sp q77 with ⟨g71,q77⟩|⟨g71,q77⟩
   ·obtain rfl:=oi q77
    refine st ?_
    simp[g71]
   obtain⟨v74,q75,q77⟩:=bs q77
   obtain rfl:=oi q77
   refine st ?_
   simp[g71]
   have r82:=zFD c1.Op v74 q75
   refine cP r82 ?_
   simp[g71]
  refine spc h rfl (fun g78 h=>?_) fun g78 h=>?_
  ·obtain⟨v79,q80,h⟩:=bs h
   refine cut 103 0 [(2,.bool v79)] [(zLm.d c1)] ?_ ?_
   ·refine st ?_
    simp
    have r81:=zID fuel c1.Kind v79 q80
    refine cP r81 ?_
    simp
   refine zAC<|zAE ?_
   cases h
   simp
  refine zAB<|zAJ<|cutA 103 0 [(2,.bool (eqI c1.Kind.L.length 0))] [(zLm.d c1)]<|zAC ?_
  cases h
  simp
 obtain⟨g85,g86⟩:=orF g51
 refine zEt rfl g51<|cutA 103 0 [(1,pT 0),(67,.bool (!(eqI c1.N 0)))] [(zLm.d c1)]<|spc h rfl (fun g89 h=>?_) fun g89 h=>?_
 ·have g90:=notT g89
  refine cutA 103 0 [(2,.bool false)] [(zLm.d c1)]<|zAC<|zAE ?_
  cases h
  simp
 have g92:=notF g89
 refine zAB<|zAJ<|zAA ?_
 obtain⟨b102,q103,h⟩:=bs h
 refine cut 103 0 [(1,pT 0),(86,.bool b102)] [(zLm.d c1)] ?_ ?_
 ·rcases sp q103 with ⟨g94,q103⟩|⟨g94,q103⟩
  ·obtain⟨v96,q97,q103⟩:=bs q103
   rcases sp q103 with ⟨g98,q103⟩|⟨g98,q103⟩
   ·obtain rfl:=oi q103
    refine st ?_
    simp[g94,g98]
    have r117:=zD9 fuel c1.S v96 q97
    refine cP r117 ?_
    simp[g94,g98]
   obtain rfl:=oi q103
   refine st ?_
   simp[g94,g98]
   have r118:=zD9 fuel c1.S v96 q97
   refine cP r118 ?_
   simp[g94,g98]
  obtain rfl:=oi q103
  refine st ?_
  simp[g94]
 refine spc h rfl (fun g104 h=>?_) fun g104 h=>?_
 ·refine cutA 103 0 [(2,.bool false)] [(zLm.d c1)]<|zAC<|zAE ?_
  cases h
  simp
 refine zAB<|zAJ<|zAA ?_
 obtain⟨b110,q111,h⟩:=bs h
 refine cut 103 0 [(1,pT 0),(94,.bool b110)] [(zLm.d c1)] ?_ ?_
 ·rcases sp q111 with ⟨g105,q111⟩|⟨g105,q111⟩
  ·obtain rfl:=oi q111
   refine st ?_
   simp[g105]
  obtain⟨v108,q109,q111⟩:=bs q111
  obtain rfl:=oi q111
  refine st ?_
  simp[g105]
  have r116:=zFD c1.Op v108 q109
  refine cP r116 ?_
  simp[g105]
 refine spc h rfl (fun g112 h=>?_) fun g112 h=>?_
 ·obtain⟨v113,q114,h⟩:=bs h
  refine cut 103 0 [(2,.bool v113)] [(zLm.d c1)] ?_ ?_
  ·refine st ?_
   simp
   have r115:=zID fuel c1.Kind v113 q114
   refine cP r115 ?_
   simp
  refine zAC<|zAE ?_
  cases h
  simp
 refine zAB<|zAJ<|cutA 103 0 [(2,.bool (eqI c1.Kind.L.length 0))] [(zLm.d c1)]<|zAC ?_
 cases h
 simp
theorem ref09_all_ok(fuel:Nat):(∀(c1:zLm)(r:Bool)(_:zDu fuel c1=some r),Pure Tryz.prog 36 [.agg (zLm.d c1)] (.bool r)):=by
 induction fuel with
 |zero=>intro c1 r h;rw[zDu] at h;cases h
 |succ fuel ih_ref09_all=>
  intro c1 r h
  rw[zDu] at h
  refine zAD Tryz.func36 (by rfl) (by rfl) (by simp) (by simp) (by simp)<|cutA 21 0 [(1,pT 0)] [(zLm.d c1)]<|zAA ?_
  obtain⟨v2,q3,h⟩:=bs h
  refine cut 21 0 [(1,pT 0),(6,.bool (!v2))] [(zLm.d c1)] ?_ ?_
  ·refine st ?_
   simp
   have r28:=ref09_node_ok fuel c1 v2 q3
   try simp at r28
   refine cP r28 ?_
   simp
  refine spc h rfl (fun g4 h=>?_) fun g4 h=>?_
  ·have g5:=notT g4
   refine cutA 21 0 [(2,.bool false)] [(zLm.d c1)]<|zAC<|zAE ?_
   cases h
   simp
  have g6:=notF g4
  refine zAB<|zAJ<|zAA<|cutA 21 0 [(1,pT 0),(3,iI 0)] [(zLm.d c1)]<|zAF ?_
  obtain⟨o9,l10,h⟩:=bs h
  refine zAq (fun p:Nat×Nat=>mkS 21 0 [(1,pT 0),(3,iI p.2)] [(zLm.d c1)]) (fun p=>zDn (zDu fuel) c1 p.1 p.2=some o9) (fun p=>p.1) (fuel,0) l10 (zAc (by simp)) ?_
  rintro⟨k11,i7⟩ l10
  try dsimp only at l10 ⊢
  cases k11 with
  |zero=>
   rw[zDn] at l10;cases l10
  |succ k12=>
   rw[zDn] at l10
   refine zAA<|cutA 21 0 [(1,pT 0),(3,iI i7),(11,.bool (ltI i7 c1.L.length))] [(zLm.d c1)]<|spc l10 rfl (fun g13 l10=>?_) fun g13 l10=>?_
   ·have c14:=ltT g13
    refine zBk 0 5 rfl rfl rfl fun f15=>?_
    rw[zq4] at f15
    refine zAB<|zAJ<|zAA<|zAF ?_
    obtain⟨x16,q17,l10⟩:=bs l10
    obtain⟨v18,q19,l10⟩:=bs l10
    refine cut 21 0 [(1,pT 0),(3,iI i7),(20,.bool (!v18))] [(zLm.d c1)] ?_ ?_
    ·refine st ?_
     simp[q17]
     have r24:=ih_ref09_all x16 v18 q19
     try simp[q17] at r24
     refine cP r24 ?_
     simp[q17]
    refine spc l10 rfl (fun g20 l10=>?_) fun g20 l10=>?_
    ·have g21:=notT g20
     refine cutA 21 0 [(2,.bool false)] [(zLm.d c1)]<|zAC<|zAR<|zAE ?_
     replace h:=retL l10 h
     refine zAE<|zAR<|zAE ?_
     cases h
     simp
    have g22:=notF g20
    refine zAB<|zDC<|zAJ ?_
    have q23:Rng .i64 (((i7:Nat):Int)+1):=by simp only[Rng,inR];omega
    try simp at q23
    refine last 21 0 [(1,pT 0),(3,iI ((i7+1:Nat):Int))] [(zLm.d c1)] (st (by simp[q23])) fun zz hs=>?_
    exact⟨(k12,i7+1),hs,l10,by simp⟩
   have c25:=ltF g13
   refine zBk 0 5 rfl rfl rfl fun f26=>?_
   rw[zq4] at f26
   refine zAW<|zAH ?_
   rcases o9 with o9|o8
   ·cases l10
   have q27:=Sum.inr.inj (zqa l10)
   replace h:=zHa h
   refine zAH<|zAX<|zAj (t:=mkS 21 0 [] [(zLm.d c1)]) ?_ (zAc (by simp))
   refine cutA 21 0 [(2,.bool true)] [(zLm.d c1)]<|zAC ?_
   cases h
   simp
theorem zEm(fuel:Nat)(c1:zLm)(r:Bool)(h:zCR fuel c1=some r):Pure Tryz.prog 10 [.agg (zLm.d c1)] (.bool r):=by
 rw[zCR] at h
 refine zAD Tryz.func10 (by rfl) (by rfl) (by simp) (by simp) (by simp)<|cutA 9 0 [(1,pT 0)] [(zLm.d c1)] ?_
 obtain⟨b7,q8,h⟩:=bs h
 refine cut 9 0 [(2,.bool b7)] [(zLm.d c1)] ?_ ?_
 ·obtain⟨v2,q3,q8⟩:=bs q8
  rcases sp q8 with ⟨g4,q8⟩|⟨g4,q8⟩
  ·obtain⟨v5,q6,q8⟩:=bs q8
   obtain rfl:=oi q8
   refine st ?_
   simp[g4]
   have r9:=zIA fuel c1 v2 q3
   try simp[g4] at r9
   refine cP r9 ?_
   simp[g4]
   have r10:=ref09_all_ok fuel c1 v5 q6
   try simp[g4] at r10
   refine cP r10 ?_
   simp[g4]
  obtain rfl:=oi q8
  refine st ?_
  simp[g4]
  have r11:=zIA fuel c1 v2 q3
  try simp[g4] at r11
  refine cP r11 ?_
  simp[g4]
 refine zAC ?_
 cases h
 simp
theorem ref09_Size_ok(fuel:Nat):(∀(c1:zLm)(r:Int)(_:zC1 fuel c1=some r),Pure Tryz.prog 162 [.agg (zLm.d c1)] (iI r)):=by
 induction fuel with
 |zero=>intro c1 r h;rw[zC1] at h;cases h
 |succ fuel ih_ref09_Size=>
  intro c1 r h
  rw[zC1] at h
  refine zAD Tryz.func162 (by rfl) (by rfl) (by simp) (by simp) (by simp)<|cutA 21 0 [(1,pT 0)] [(zLm.d c1)]<|cutA 21 0 [(1,pT 0),(3,iI 1)] [(zLm.d c1)]<|zAA<|cutA 21 0 [(1,pT 0),(3,iI 1),(4,iI 0)] [(zLm.d c1)]<|zAF ?_
  obtain⟨o4,l5,h⟩:=bs h
  refine zAq (fun p:Nat×Int×Nat=>mkS 21 0 [(1,pT 0),(3,iI p.2.1),(4,iI p.2.2)] [(zLm.d c1)]) (fun p=>zDM (zC1 fuel) c1 p.1 p.2.1 p.2.2=some o4) (fun p=>p.1) (fuel,1,0) l5 (zAc (by simp)) ?_
  rintro⟨k6,n2,i3⟩ l5
  try dsimp only at l5 ⊢
  cases k6 with
  |zero=>
   rw[zDM] at l5;cases l5
  |succ k7=>
   rw[zDM] at l5
   refine zAA<|cutA 21 0 [(1,pT 0),(3,iI n2),(4,iI i3),(9,.bool (ltI i3 c1.L.length))] [(zLm.d c1)]<|spc l5 rfl (fun g8 l5=>?_) fun g8 l5=>?_
   ·have c9:=ltT g8
    refine zBk 0 5 rfl rfl rfl fun f10=>?_
    rw[zq4] at f10
    refine zAB<|zAJ<|zAA<|zAF ?_
    obtain⟨x11,q12,l5⟩:=bs l5
    obtain⟨v13,q14,l5⟩:=bs l5
    obtain⟨n15,q16,l5⟩:=bs l5
    obtain⟨q17,q18⟩:=zBo q16
    try simp at q17
    try simp at q18
    have c19:=q17;simp only[Rng,inR] at c19
    refine last 21 0 [(1,pT 0),(3,iI n15),(4,iI i3)] [(zLm.d c1)] ?_ fun zz hs=>?_
    ·refine st ?_
     simp[q12,q17,q18]
     have r21:=ih_ref09_Size x11 v13 q14
     try simp[q12,q17,q18] at r21
     refine cP r21 ?_
     simp[q12,q17,q18]
    refine zDC<|zAj ?_ hs
    have q20:Rng .i64 (((i3:Nat):Int)+1):=by simp only[Rng,inR];omega
    try simp at q20
    refine last 21 0 [(1,pT 0),(3,iI n15),(4,iI ((i3+1:Nat):Int))] [(zLm.d c1)] (st (by simp[q20])) fun zz hs=>?_
    exact⟨(k7,n15,i3+1),hs,l5,by simp⟩
   have c22:=ltF g8
   refine zBk 0 5 rfl rfl rfl fun f23=>?_
   rw[zq4] at f23
   refine zAW<|zAH ?_
   have q24:=zqa l5
   have q24:=q24.symm
   refine zAH<|zAX<|zAj (t:=mkS 21 0 [(3,iI o4)] [(zLm.d c1)]) ?_ (zAc (by simp[q24]))
   refine cutA 21 0 [(2,iI o4)] [(zLm.d c1)]<|zAC ?_
   cases h
   simp
theorem zFx(c1:zLm)(depth2:Int)(r:Int)(h:zCb c1 depth2=some r):Pure Tryz.prog 166 [.agg (zLm.d c1),iI depth2] (iI r):=by
 rw[zCb] at h
 refine zAD Tryz.func166 (by rfl) (by rfl) (by simp) (by simp) (by simp)<|cutA 11 0 [(1,iI depth2),(2,pT 0)] [(zLm.d c1)]<|zAA ?_
 obtain⟨v3,q4,h⟩:=bs h
 refine cut 11 0 [(1,iI depth2),(7,.bool v3)] [(zLm.d c1)] ?_ ?_
 ·refine st ?_
  simp
  have r11:=zFD c1.Op v3 q4
  try simp at r11
  refine cP r11 ?_
  simp
 refine spc h rfl (fun g5 h=>?_) fun g5 h=>?_
 ·obtain⟨n6,q7,h⟩:=bs h
  obtain⟨q8,q9⟩:=zBo q7
  try simp at q8
  try simp at q9
  have c10:=q8;simp only[Rng,inR] at c10
  refine cut 11 0 [(4,iI n6)] [(zLm.d c1)] (st (by simp[q8,q9]))<|zAC<|zAE ?_
  cases h
  simp
 refine zAB<|zAJ<|cutA 11 0 [(4,iI depth2)] [(zLm.d c1)]<|zAC ?_
 cases h
 simp
theorem zK3(fuel:Nat):(∀(c1:zLm)(sizes2:(List Int))(depth3:Int)(r:Int)(_:zB5 fuel c1 sizes2 depth3=some r),Pure Tryz.prog 163 [.agg (zLm.d c1),.sl (sizes2.map (cI .i64)),iI depth3] (iI r)):=by
 induction fuel with
 |zero=>intro c1 sizes2 depth3 r h;rw[zB5] at h;cases h
 |succ fuel zLP=>
  intro c1 sizes2 depth3 r h
  rw[zB5] at h
  refine zAD Tryz.func163 (by rfl) (by rfl) (by simp) (by simp) (by simp)<|cutA 54 0 [(1,.sl (sizes2.map (cI .i64))),(2,iI depth3),(3,pT 0)] [(zLm.d c1)]<|zAA ?_
  obtain⟨b15,q16,h⟩:=bs h
  refine cut 54 0 [(1,.sl (sizes2.map (cI .i64))),(2,iI depth3),(3,pT 0),(26,.bool b15)] [(zLm.d c1)] ?_ ?_
  ·rcases sp q16 with ⟨g4,q16⟩|⟨g4,q16⟩
   ·rcases sp q16 with ⟨g6,q16⟩|⟨g6,q16⟩
    ·obtain⟨n8,q9,q16⟩:=bs q16
     obtain⟨q10,q11⟩:=zBo q9
     have c12:=q10;simp only[Rng,inR] at c12
     obtain rfl:=oi q16
     refine st ?_
     simp[g4,g6,q10,q11]
    obtain rfl:=oi q16
    refine st ?_
    simp[g4,g6]
   obtain rfl:=oi q16
   refine st ?_
   simp[g4]
  refine spc h rfl (fun g17 h=>?_) fun g17 h=>?_
  ·obtain⟨n18,q19,h⟩:=bs h
   obtain⟨q20,q21⟩:=zBo q19
   have c22:=q20;simp only[Rng,inR] at c22
   obtain⟨x23,q24,h⟩:=bs h
   obtain⟨q25,q26⟩:=idx_ok q24
   refine cut 54 0 [(6,iI x23)] [(zLm.d c1)] (st (by simp[q20,q21,q25,q26]))<|zAC<|zAE ?_
   cases h
   simp
  refine zAB<|zAJ<|cutA 54 0 [(1,.sl (sizes2.map (cI .i64))),(2,iI depth3),(3,pT 0),(7,iI 1)] [(zLm.d c1)]<|zAA<|cutA 54 0 [(1,.sl (sizes2.map (cI .i64))),(2,iI depth3),(3,pT 0),(7,iI 1),(8,iI 0)] [(zLm.d c1)]<|zAF ?_
  obtain⟨o29,l30,h⟩:=bs h
  refine zAq (fun p:Nat×Int×Nat=>mkS 54 0 [(1,.sl (sizes2.map (cI .i64))),(2,iI depth3),(3,pT 0),(7,iI p.2.1),(8,iI p.2.2)] [(zLm.d c1)]) (fun p=>zBe (zB5 fuel) c1 sizes2 depth3 p.1 p.2.1 p.2.2=some o29) (fun p=>p.1) (fuel,1,0) l30 (zAc (by simp)) ?_
  rintro⟨k31,n27,i28⟩ l30
  try dsimp only at l30 ⊢
  cases k31 with
  |zero=>
   rw[zBe] at l30;cases l30
  |succ k32=>
   rw[zBe] at l30
   refine zAA<|cutA 54 0 [(1,.sl (sizes2.map (cI .i64))),(2,iI depth3),(3,pT 0),(7,iI n27),(8,iI i28),(38,.bool (ltI i28 c1.L.length))] [(zLm.d c1)]<|spc l30 rfl (fun g33 l30=>?_) fun g33 l30=>?_
   ·have c34:=ltT g33
    refine zBk 0 5 rfl rfl rfl fun f35=>?_
    rw[zq4] at f35
    refine zAB<|zAJ<|zAA<|zAF ?_
    obtain⟨x36,q37,l30⟩:=bs l30
    obtain⟨v38,q39,l30⟩:=bs l30
    obtain⟨v40,q41,l30⟩:=bs l30
    obtain⟨n42,q43,l30⟩:=bs l30
    obtain⟨q44,q45⟩:=zBo q43
    have c46:=q44;simp only[Rng,inR] at c46
    refine last 54 0 [(1,.sl (sizes2.map (cI .i64))),(2,iI depth3),(3,pT 0),(7,iI n42),(8,iI i28)] [(zLm.d c1)] ?_ fun zz hs=>?_
    ·refine zAL [] mixed (n:=54) rfl (by decide) ?_
     simp[q37,q44,q45]
     have r48:=zFx c1 depth3 v38 q39
     refine zF9 r48 (by simp) rfl ?_
     simp[q37,q44,q45]
     have r49:=zLP x36 sizes2 v38 v40 q41
     refine zF9 r49 (by simp) rfl ?_
     simp[q37,q44,q45]
    refine zDC<|zAj ?_ hs
    have q47:Rng .i64 (((i28:Nat):Int)+1):=by simp only[Rng,inR];omega
    refine last 54 0 [(1,.sl (sizes2.map (cI .i64))),(2,iI depth3),(3,pT 0),(7,iI n42),(8,iI ((i28+1:Nat):Int))] [(zLm.d c1)] (st (by simp[q47])) fun zz hs=>?_
    exact⟨(k32,n42,i28+1),hs,l30,by simp⟩
   refine zBk 0 5 rfl rfl rfl fun f51=>?_
   rw[zq4] at f51
   refine zAW<|zAH ?_
   have q52:=zqa l30
   have q52:=q52.symm
   refine zAH<|zAX<|zAj (t:=mkS 54 0 [(7,iI o29)] [(zLm.d c1)]) ?_ (zAc (by simp[q52]))
   refine cutA 54 0 [(6,iI o29)] [(zLm.d c1)]<|zAC ?_
   cases h
   simp
theorem zIC(fuel:Nat)(c1:zLm)(l2:(List zLm))(r:Int)(h:zEg fuel c1 l2=some r):Pure Tryz.prog 114 [.agg (zLm.d c1),.sl (l2.map zLm.c)] (iI r):=by
 rw[zEg] at h
 refine zAD Tryz.func114 (by rfl) (by rfl) (by simp) (by simp) (by simp)<|cutA 24 0 [(1,.sl (l2.map zLm.c)),(2,pT 0)] [(zLm.d c1)]<|cutA 24 0 [(1,.sl (l2.map zLm.c)),(2,pT 0),(5,.osl ⟨1,3⟩ (([]:List Int).map (cI .i64)))] [(zLm.d c1)]<|zAA<|cutA 24 0 [(1,.sl (l2.map zLm.c)),(2,pT 0),(5,.osl ⟨1,3⟩ (([]:List Int).map (cI .i64))),(6,iI 0)] [(zLm.d c1)]<|zAF ?_
 obtain⟨o5,l6,h⟩:=bs h
 refine zAq (fun p:Nat×(List Int)×Nat=>mkS 24 0 [(1,.sl (l2.map zLm.c)),(2,pT 0),(5,.osl ⟨1,3⟩ (p.2.1.map (cI .i64))),(6,iI p.2.2)] [(zLm.d c1)]) (fun p=>zC4 fuel l2 p.1 p.2.1 p.2.2=some o5) (fun p=>p.1) (fuel,([]:List Int),0) l6 (zAc (by simp)) ?_
 rintro⟨k7,sizes3,i4⟩ l6
 try dsimp only at l6 ⊢
 cases k7 with
 |zero=>
  rw[zC4] at l6;cases l6
 |succ k8=>
  rw[zC4] at l6
  refine zAA<|cutA 24 0 [(1,.sl (l2.map zLm.c)),(2,pT 0),(5,.osl ⟨1,3⟩ (sizes3.map (cI .i64))),(6,iI i4),(10,.bool (ltI i4 l2.length))] [(zLm.d c1)]<|spc l6 rfl (fun g9 l6=>?_) fun g9 l6=>?_
  ·have c10:=ltT g9
   refine zC5 1 rfl fun f11=>?_
   rw[zq4] at f11
   refine zAB<|zAJ<|zAA<|zAF ?_
   obtain⟨x12,q13,l6⟩:=bs l6
   obtain⟨v14,q15,l6⟩:=bs l6
   obtain⟨l16,q17,l6⟩:=bs l6
   obtain⟨q18,q19⟩:=zFL q17
   try simp at q18
   refine last 24 0 [(1,.sl (l2.map zLm.c)),(2,pT 0),(5,.osl ⟨1,3⟩ (l16.map (cI .i64))),(6,iI i4)] [(zLm.d c1)] ?_ fun zz hs=>?_
   ·refine st ?_
    simp[q13,q18,q19]
    have r21:=ref09_Size_ok fuel x12 v14 q15
    try simp[q13,q18,q19] at r21
    refine cP r21 ?_
    simp[q13,q18,q19]
   refine zDC<|zAj ?_ hs
   have q20:Rng .i64 (((i4:Nat):Int)+1):=by simp only[Rng,inR];omega
   try simp at q20
   refine last 24 0 [(1,.sl (l2.map zLm.c)),(2,pT 0),(5,.osl ⟨1,3⟩ (l16.map (cI .i64))),(6,iI ((i4+1:Nat):Int))] [(zLm.d c1)] (st (by simp[q20])) fun zz hs=>?_
   exact⟨(k8,l16,i4+1),hs,l6,by simp⟩
  have c22:=ltF g9
  refine zC5 1 rfl fun f23=>?_
  rw[zq4] at f23
  refine zAW<|zAH ?_
  have q24:=zqa l6
  have q24:=q24.symm
  refine zAH<|zAX<|zAj (t:=mkS 24 0 [(2,pT 0),(5,.osl ⟨1,3⟩ (o5.map (cI .i64)))] [(zLm.d c1)]) ?_ (zAc (by simp[q24]))
  obtain⟨v25,q26,h⟩:=bs h
  refine cut 24 0 [(4,iI v25)] [(zLm.d c1)] ?_ ?_
  ·refine st ?_
   simp
   have r27:=zK3 fuel c1 o5 0 v25 q26
   try simp at r27
   refine cP r27 ?_
   simp
  refine zAC ?_
  cases h
  simp
theorem zHY(c1:zLm)(l2:(List zLm))(r:zLm)(h:zFW c1 l2=some r):Pure Tryz.prog 167 [.agg (zLm.d c1),.sl (l2.map zLm.c)] (.agg (zLm.d r)):=by
 rw[zFW] at h
 refine zAD Tryz.func167 (by rfl) (by rfl) (by simp) (by simp) (by simp)<|cutA 17 0 [(1,.sl (l2.map zLm.c)),(2,pT 0),(4,pT 1)] [(zLm.d c1),zz0]<|cutA 17 0 [(4,pT 1)] [(zLm.d c1),[iI c1.Op,iI c1.N,.str c1.S,.sl (c1.Kind.L.map zLl.c),.sl (c1.Names.map cS),.sl (l2.map zLm.c)]]<|zAC ?_
 cases h
 simp
theorem zIB(fuel:Nat):(∀(c1:zLm)(by2:Int)(from3:Int)(r:zLm)(_:zB6 fuel c1 by2 from3=some r),Pure Tryz.prog 117 [.agg (zLm.d c1),iI by2,iI from3] (.agg (zLm.d r))):=by
 induction fuel with
 |zero=>intro c1 by2 from3 r h;rw[zB6] at h;cases h
 |succ fuel zLS=>
  intro c1 by2 from3 r h
  rw[zB6] at h
  refine zAD Tryz.func117 (by rfl) (by rfl) (by simp) (by simp) (by simp)<|cutA 47 0 [(1,iI by2),(2,iI from3),(3,pT 0),(6,pT 1)] [(zLm.d c1),zz0]<|cutA 47 0 [(1,iI by2),(2,iI (minI from3 20001)),(3,pT 0),(6,pT 1)] [(zLm.d c1),zz0]<|zAA<|cutA 47 0 [(1,iI by2),(2,iI (minI from3 20001)),(3,pT 0),(6,pT 1),(13,.bool (eqI c1.Op 1))] [(zLm.d c1),zz0]<|spc h rfl (fun g4 h=>?_) fun g4 h=>?_
  ·refine zAA<|cutA 47 0 [(1,iI by2),(3,pT 0),(6,pT 1),(17,.bool (leI (minI from3 20001) c1.N))] [(zLm.d c1),zz0]<|spc h rfl (fun g6 h=>?_) fun g6 h=>?_
   ·obtain⟨n8,q9,h⟩:=bs h
    obtain⟨q10,q11⟩:=zBo q9
    have c12:=q10;simp only[Rng,inR] at c12
    refine cut 47 0 [(6,pT 1)] [(zLm.d c1),[iI 1,iI n8,.str ([]:List UInt8),.osl ⟨1,27⟩ (([]:List zLl).map zLl.c),.osl ⟨1,9⟩ (([]:List (List UInt8)).map cS),.osl ⟨6,31⟩ (([]:List zLm).map zLm.c)]] (st (by simp[q10,q11]))<|zAC<|zAE<|zAE ?_
    cases h
    simp
   refine zAB<|zAJ<|cutA 47 0 [(6,pT 1)] [(zLm.d c1),(zLm.d c1)]<|zAC<|zAE ?_
   cases h
   simp
  refine zAB<|zAJ<|cutA 47 0 [(1,iI by2),(2,iI (minI from3 20001)),(3,pT 0),(6,pT 1),(7,.osl ⟨6,31⟩ (([]:List zLm).map zLm.c))] [(zLm.d c1),zz0]<|zAA<|cutA 47 0 [(1,iI by2),(2,iI (minI from3 20001)),(3,pT 0),(6,pT 1),(7,.osl ⟨6,31⟩ (([]:List zLm).map zLm.c)),(8,iI 0)] [(zLm.d c1),zz0]<|zAF ?_
  obtain⟨o17,l18,h⟩:=bs h
  refine zAq (fun p:Nat×(List zLm)×Nat=>mkS 47 0 [(1,iI by2),(2,iI (minI from3 20001)),(3,pT 0),(6,pT 1),(7,.osl ⟨6,31⟩ (p.2.1.map zLm.c)),(8,iI p.2.2)] [(zLm.d c1),zz0]) (fun p=>zC2 (zB6 fuel) c1 by2 from3 p.1 p.2.1 p.2.2=some o17) (fun p=>p.1) (fuel,([]:List zLm),0) l18 (zAc (by simp)) ?_
  rintro⟨k19,l15,i16⟩ l18
  try dsimp only at l18 ⊢
  cases k19 with
  |zero=>
   rw[zC2] at l18;cases l18
  |succ k20=>
   rw[zC2] at l18
   refine zAA<|cutA 47 0 [(1,iI by2),(2,iI (minI from3 20001)),(3,pT 0),(6,pT 1),(7,.osl ⟨6,31⟩ (l15.map zLm.c)),(8,iI i16),(28,.bool (ltI i16 c1.L.length))] [(zLm.d c1),zz0]<|spc l18 rfl (fun g21 l18=>?_) fun g21 l18=>?_
   ·have c22:=ltT g21
    refine zBk 0 5 rfl rfl rfl fun f23=>?_
    rw[zq4] at f23
    refine zAB<|zAJ<|zAA<|zAF ?_
    obtain⟨x24,q25,l18⟩:=bs l18
    obtain⟨v26,q27,l18⟩:=bs l18
    obtain⟨v28,q29,l18⟩:=bs l18
    obtain⟨l30,q31,l18⟩:=bs l18
    obtain⟨q32,q33⟩:=zFL q31
    try simp at q32
    refine last 47 0 [(1,iI by2),(2,iI (minI from3 20001)),(3,pT 0),(6,pT 1),(7,.osl ⟨6,31⟩ (l30.map zLm.c)),(8,iI i16)] [(zLm.d c1),zz0] ?_ fun zz hs=>?_
    ·refine zAL [] mixed (n:=47) rfl (by decide) ?_
     simp[q25,q32,q33]
     have r35:=zFx c1 (minI from3 20001) v26 q27
     refine zF9 r35 (by simp) rfl ?_
     simp[q25,q32,q33]
     have r36:=zLS x24 by2 v26 v28 q29
     refine zF9 r36 (by simp) rfl ?_
     simp[q25,q32,q33]
    refine zDC<|zAj ?_ hs
    have q34:Rng .i64 (((i16:Nat):Int)+1):=by simp only[Rng,inR];omega
    refine last 47 0 [(1,iI by2),(2,iI (minI from3 20001)),(3,pT 0),(6,pT 1),(7,.osl ⟨6,31⟩ (l30.map zLm.c)),(8,iI ((i16+1:Nat):Int))] [(zLm.d c1),zz0] (st (by simp[q34])) fun zz hs=>?_
    exact⟨(k20,l30,i16+1),hs,l18,by simp⟩
   refine zBk 0 5 rfl rfl rfl fun f38=>?_
   rw[zq4] at f38
   refine zAW<|zAH ?_
   have q39:=zqa l18
   have q39:=q39.symm
   refine zAH<|zAX<|zAj (t:=mkS 47 0 [(3,pT 0),(6,pT 1),(7,.osl ⟨6,31⟩ (o17.map zLm.c))] [(zLm.d c1),zz0]) ?_ (zAc (by simp[q39]))
   obtain⟨v40,q41,h⟩:=bs h
   refine cut 47 0 [(6,pT 1)] [(zLm.d c1),(zLm.d v40)] ?_ ?_
   ·refine st ?_
    simp
    have r42:=zHY c1 o17 v40 q41
    refine cP r42 ?_
    simp
   refine zAC ?_
   cases h
   simp
theorem zK1(fuel:Nat):(∀(c1:zLm)(l2:(List zLm))(depth3:Int)(r:zLm)(_:zCo fuel c1 l2 depth3=some r),Pure Tryz.prog 164 [.agg (zLm.d c1),.sl (l2.map zLm.c),iI depth3] (.agg (zLm.d r))):=by
 induction fuel with
 |zero=>intro c1 l2 depth3 r h;rw[zCo] at h;cases h
 |succ fuel zLO=>
  intro c1 l2 depth3 r h
  rw[zCo] at h
  refine zAD Tryz.func164 (by rfl) (by rfl) (by simp) (by simp) (by simp)<|cutA 62 0 [(1,.sl (l2.map zLm.c)),(2,iI depth3),(3,pT 0),(6,pT 1)] [(zLm.d c1),zz0]<|zAA<|cutA 62 0 [(1,.sl (l2.map zLm.c)),(2,iI depth3),(3,pT 0),(6,pT 1),(11,.bool (eqI c1.Op 1))] [(zLm.d c1),zz0]<|spc h rfl (fun g4 h=>?_) fun g4 h=>?_
  ·refine zAA<|cutA 62 0 [(1,.sl (l2.map zLm.c)),(2,iI depth3),(3,pT 0),(6,pT 1),(15,.bool (ltI c1.N depth3))] [(zLm.d c1),zz0]<|spc h rfl (fun g6 h=>?_) fun g6 h=>?_
   ·refine cutA 62 0 [(6,pT 1)] [(zLm.d c1),(zLm.d c1)]<|zAC<|zAE<|zAE ?_
    cases h
    simp
   refine zAB<|zAJ<|zAA ?_
   obtain⟨n9,q10,h⟩:=bs h
   obtain⟨q11,q12⟩:=zBo q10
   have c13:=q11;simp only[Rng,inR] at c13
   refine cut 62 0 [(1,.sl (l2.map zLm.c)),(2,iI depth3),(3,pT 0),(6,pT 1),(23,.bool (ltI n9 l2.length))] [(zLm.d c1),zz0] (st (by simp[q11,q12]))<|spc h rfl (fun g14 h=>?_) fun g14 h=>?_
   ·refine zC5 1 rfl fun f16=>?_
    rw[zq4] at f16
    have c17:=q11;simp only[Rng,inR] at c17
    obtain⟨x18,q19,h⟩:=bs h
    obtain⟨q20,q21⟩:=idx_ok q19
    obtain⟨v22,q23,h⟩:=bs h
    refine cut 62 0 [(6,pT 1)] [(zLm.d c1),(zLm.d v22)] ?_ ?_
    ·refine st ?_
     simp[q11,q12,q20,q21]
     have r24:=zIB fuel x18 depth3 0 v22 q23
     refine cP r24 ?_
     simp[q11,q12,q20,q21]
    refine zAC<|zAE<|zAE ?_
    cases h
    simp
   refine zC5 1 rfl fun f26=>?_
   rw[zq4] at f26
   refine zAB<|zAJ ?_
   obtain⟨n27,q28,h⟩:=bs h
   obtain⟨q29,q30⟩:=zBo q28
   have c31:=q29;simp only[Rng,inR] at c31
   refine cut 62 0 [(6,pT 1)] [(zLm.d c1),[iI 1,iI n27,.str ([]:List UInt8),.osl ⟨1,27⟩ (([]:List zLl).map zLl.c),.osl ⟨1,9⟩ (([]:List (List UInt8)).map cS),.osl ⟨6,31⟩ (([]:List zLm).map zLm.c)]] (st (by simp[q29,q30]))<|zAC<|zAE ?_
   cases h
   simp
  refine zAB<|zAJ<|cutA 62 0 [(1,.sl (l2.map zLm.c)),(2,iI depth3),(3,pT 0),(6,pT 1),(7,.osl ⟨6,31⟩ (([]:List zLm).map zLm.c))] [(zLm.d c1),zz0]<|zAA<|cutA 62 0 [(1,.sl (l2.map zLm.c)),(2,iI depth3),(3,pT 0),(6,pT 1),(7,.osl ⟨6,31⟩ (([]:List zLm).map zLm.c)),(8,iI 0)] [(zLm.d c1),zz0]<|zAF ?_
  obtain⟨o35,l36,h⟩:=bs h
  refine zAq (fun p:Nat×(List zLm)×Nat=>mkS 62 0 [(1,.sl (l2.map zLm.c)),(2,iI depth3),(3,pT 0),(6,pT 1),(7,.osl ⟨6,31⟩ (p.2.1.map zLm.c)),(8,iI p.2.2)] [(zLm.d c1),zz0]) (fun p=>zCz (zCo fuel) c1 l2 depth3 p.1 p.2.1 p.2.2=some o35) (fun p=>p.1) (fuel,([]:List zLm),0) l36 (zAc (by simp)) ?_
  rintro⟨k37,parts33,i34⟩ l36
  try dsimp only at l36 ⊢
  cases k37 with
  |zero=>
   rw[zCz] at l36;cases l36
  |succ k38=>
   rw[zCz] at l36
   refine zAA<|cutA 62 0 [(1,.sl (l2.map zLm.c)),(2,iI depth3),(3,pT 0),(6,pT 1),(7,.osl ⟨6,31⟩ (parts33.map zLm.c)),(8,iI i34),(43,.bool (ltI i34 c1.L.length))] [(zLm.d c1),zz0]<|spc l36 rfl (fun g39 l36=>?_) fun g39 l36=>?_
   ·have c40:=ltT g39
    refine zBk 0 5 rfl rfl rfl fun f41=>?_
    rw[zq4] at f41
    refine zAB<|zAJ<|zAA<|zAF ?_
    obtain⟨x42,q43,l36⟩:=bs l36
    obtain⟨v44,q45,l36⟩:=bs l36
    obtain⟨v46,q47,l36⟩:=bs l36
    obtain⟨l48,q49,l36⟩:=bs l36
    obtain⟨q50,q51⟩:=zFL q49
    try simp at q50
    refine last 62 0 [(1,.sl (l2.map zLm.c)),(2,iI depth3),(3,pT 0),(6,pT 1),(7,.osl ⟨6,31⟩ (l48.map zLm.c)),(8,iI i34)] [(zLm.d c1),zz0] ?_ fun zz hs=>?_
    ·refine zAL [] mixed (n:=62) rfl (by decide) ?_
     simp[q43,q50,q51]
     have r53:=zFx c1 depth3 v44 q45
     refine zF9 r53 (by simp) rfl ?_
     simp[q43,q50,q51]
     have r54:=zLO x42 l2 v44 v46 q47
     refine zF9 r54 (by simp) rfl ?_
     simp[q43,q50,q51]
    refine zDC<|zAj ?_ hs
    have q52:Rng .i64 (((i34:Nat):Int)+1):=by simp only[Rng,inR];omega
    refine last 62 0 [(1,.sl (l2.map zLm.c)),(2,iI depth3),(3,pT 0),(6,pT 1),(7,.osl ⟨6,31⟩ (l48.map zLm.c)),(8,iI ((i34+1:Nat):Int))] [(zLm.d c1),zz0] (st (by simp[q52])) fun zz hs=>?_
    exact⟨(k38,l48,i34+1),hs,l36,by simp⟩
   refine zBk 0 5 rfl rfl rfl fun f56=>?_
   rw[zq4] at f56
   refine zAW<|zAH ?_
   have q57:=zqa l36
   have q57:=q57.symm
   refine zAH<|zAX<|zAj (t:=mkS 62 0 [(3,pT 0),(6,pT 1),(7,.osl ⟨6,31⟩ (o35.map zLm.c))] [(zLm.d c1),zz0]) ?_ (zAc (by simp[q57]))
   obtain⟨v58,q59,h⟩:=bs h
   refine cut 62 0 [(6,pT 1)] [(zLm.d c1),(zLm.d v58)] ?_ ?_
   ·refine st ?_
    simp
    have r60:=zHY c1 o35 v58 q59
    refine cP r60 ?_
    simp
   refine zAC ?_
   cases h
   simp
theorem zH9(fuel:Nat)(c1:zLm)(l2:(List zLm))(r:zLm)(h:zDf fuel c1 l2=some r):Pure Tryz.prog 115 [.agg (zLm.d c1),.sl (l2.map zLm.c)] (.agg (zLm.d r)):=by
 rw[zDf] at h
 refine zAD Tryz.func115 (by rfl) (by rfl) (by simp) (by simp) (by simp)<|cutA 8 0 [(1,.sl (l2.map zLm.c)),(2,pT 0),(4,pT 1)] [(zLm.d c1),zz0] ?_
 obtain⟨v3,q4,h⟩:=bs h
 refine cut 8 0 [(4,pT 1)] [(zLm.d c1),(zLm.d v3)] ?_ ?_
 ·refine st ?_
  simp
  have r5:=zK1 fuel c1 l2 0 v3 q4
  try simp at r5
  refine cP r5 ?_
  simp
 refine zAC ?_
 cases h
 simp
theorem ref09_add_ok(fuel:Nat)(l1:(List Int))(n2:Int)(r:(List Int))(h:zGL fuel l1 n2=some r):Pure Tryz.prog 231 [.sl (l1.map (cI .i64)),iI n2] (.sl (r.map (cI .i64))):=by
 rw[zGL] at h
 refine zAD Tryz.func231 (by rfl) (by rfl) (by simp) (by simp) (by simp)<|cutA 48 0 [(0,.sl (l1.map (cI .i64))),(1,iI n2)] []<|cutA 48 0 [(0,.sl (l1.map (cI .i64))),(1,iI n2),(5,.osl ⟨1,3⟩ (([]:List Int).map (cI .i64)))] []<|cutA 48 0 [(0,.sl (l1.map (cI .i64))),(1,iI n2),(5,.osl ⟨1,3⟩ (([]:List Int).map (cI .i64))),(6,.bool false)] []<|zAA<|cutA 48 0 [(0,.sl (l1.map (cI .i64))),(1,iI n2),(5,.osl ⟨1,3⟩ (([]:List Int).map (cI .i64))),(6,.bool false),(7,iI 0)] []<|zAF ?_
 obtain⟨o6,l7,h⟩:=bs h
 refine zAq (fun p:Nat×(List Int)×Bool×Nat=>mkS 48 0 [(0,.sl (l1.map (cI .i64))),(1,iI n2),(5,.osl ⟨1,3⟩ (p.2.1.map (cI .i64))),(6,.bool p.2.2.1),(7,iI p.2.2.2)] []) (fun p=>zCK l1 n2 p.1 p.2.1 p.2.2.1 p.2.2.2=some o6) (fun p=>p.1) (fuel,([]:List Int),false,0) l7 (zAc (by simp)) ?_
 rintro⟨k8,out3,done4,i5⟩ l7
 try dsimp only at l7 ⊢
 cases k8 with
 |zero=>
  rw[zCK] at l7;cases l7
 |succ k9=>
  rw[zCK] at l7
  refine zAA<|cutA 48 0 [(0,.sl (l1.map (cI .i64))),(1,iI n2),(5,.osl ⟨1,3⟩ (out3.map (cI .i64))),(6,.bool done4),(7,iI i5),(11,.bool (ltI i5 l1.length))] []<|spc l7 rfl (fun g10 l7=>?_) fun g10 l7=>?_
  ·have c11:=ltT g10
   refine zC5 0 rfl fun f12=>?_
   rw[zq4] at f12
   refine zAB<|zAJ<|zAA<|zAF<|zAA ?_
   obtain⟨b18,q19,l7⟩:=bs l7
   refine cut 48 0 [(0,.sl (l1.map (cI .i64))),(1,iI n2),(5,.osl ⟨1,3⟩ (out3.map (cI .i64))),(6,.bool done4),(7,iI i5),(23,.bool b18)] [] ?_ ?_
   ·rcases sp q19 with ⟨g13,q19⟩|⟨g13,q19⟩
    ·obtain⟨x15,q16,q19⟩:=bs q19
     obtain rfl:=oi q19
     refine st ?_
     simp[g13,q16]
    obtain rfl:=oi q19
    refine st ?_
    simp[g13]
   refine spc l7 rfl (fun g20 l7=>?_) fun g20 l7=>?_
   ·obtain⟨l21,q22,l7⟩:=bs l7
    obtain⟨q23,q24⟩:=zFL q22
    try simp at q23
    refine cut 48 0 [(0,.sl (l1.map (cI .i64))),(1,iI n2),(5,.osl ⟨1,3⟩ (l21.map (cI .i64))),(7,iI i5)] [] (st (by simp[q23,q24]))<|lastA 48 0 [(0,.sl (l1.map (cI .i64))),(1,iI n2),(5,.osl ⟨1,3⟩ (l21.map (cI .i64))),(6,.bool true),(7,iI i5)] [] ?_
    obtain⟨x25,q26,l7⟩:=bs l7
    refine cut 48 0 [(0,.sl (l1.map (cI .i64))),(1,iI n2),(5,.osl ⟨1,3⟩ (l21.map (cI .i64))),(6,.bool true),(7,iI i5),(33,.bool (!(eqI x25 n2)))] [] (st (by simp[q26])) ?_
    rcases sp l7 with ⟨g27,l7⟩|⟨g27,l7⟩
    ·have g28:=notT g27
     have c29:=eqF g28
     refine zEj rfl g27 ?_
     obtain⟨l30,q31,l7⟩:=bs l7
     obtain⟨q32,q33⟩:=zFL q31
     have q34:=q32
     try simp at q34
     try simp[q24] at q32
     refine last 48 0 [(0,.sl (l1.map (cI .i64))),(1,iI n2),(5,.osl ⟨1,3⟩ (l30.map (cI .i64))),(6,.bool true),(7,iI i5)] [] (st (by simp[q26,q32,q34,q33])) fun zz hs=>?_
     refine zDC<|zAj ?_ hs
     have q35:Rng .i64 (((i5:Nat):Int)+1):=by simp only[Rng,inR];omega
     try simp at q35
     refine last 48 0 [(0,.sl (l1.map (cI .i64))),(1,iI n2),(5,.osl ⟨1,3⟩ (l30.map (cI .i64))),(6,.bool true),(7,iI ((i5+1:Nat):Int))] [] (st (by simp[q35])) fun zz hs=>?_
     exact⟨(k9,l30,true,i5+1),hs,l7,by simp⟩
    have g36:=notF g27
    have c37:=eqT g36
    refine zEt rfl g27<|zAB<|zDC<|zAJ ?_
    have q38:Rng .i64 (((i5:Nat):Int)+1):=by simp only[Rng,inR];omega
    try simp at q38
    refine last 48 0 [(0,.sl (l1.map (cI .i64))),(1,iI n2),(5,.osl ⟨1,3⟩ (l21.map (cI .i64))),(6,.bool true),(7,iI ((i5+1:Nat):Int))] [] (st (by simp[q38])) fun zz hs=>?_
    exact⟨(k9,l21,true,i5+1),hs,l7,by simp⟩
   refine zAB<|zAJ ?_
   obtain⟨x39,q40,l7⟩:=bs l7
   refine cut 48 0 [(0,.sl (l1.map (cI .i64))),(1,iI n2),(5,.osl ⟨1,3⟩ (out3.map (cI .i64))),(6,.bool done4),(7,iI i5),(33,.bool (!(eqI x39 n2)))] [] (st (by simp[q40])) ?_
   rcases sp l7 with ⟨g41,l7⟩|⟨g41,l7⟩
   ·have g42:=notT g41
    have c43:=eqF g42
    refine zEj rfl g41 ?_
    obtain⟨l44,q45,l7⟩:=bs l7
    obtain⟨q46,q47⟩:=zFL q45
    try simp at q46
    refine last 48 0 [(0,.sl (l1.map (cI .i64))),(1,iI n2),(5,.osl ⟨1,3⟩ (l44.map (cI .i64))),(6,.bool done4),(7,iI i5)] [] (st (by simp[q40,q46,q47])) fun zz hs=>?_
    refine zDC<|zAj ?_ hs
    have q48:Rng .i64 (((i5:Nat):Int)+1):=by simp only[Rng,inR];omega
    try simp at q48
    refine last 48 0 [(0,.sl (l1.map (cI .i64))),(1,iI n2),(5,.osl ⟨1,3⟩ (l44.map (cI .i64))),(6,.bool done4),(7,iI ((i5+1:Nat):Int))] [] (st (by simp[q48])) fun zz hs=>?_
    exact⟨(k9,l44,done4,i5+1),hs,l7,by simp⟩
   have g49:=notF g41
   have c50:=eqT g49
   refine zEt rfl g41<|zAB<|zDC<|zAJ ?_
   have q51:Rng .i64 (((i5:Nat):Int)+1):=by simp only[Rng,inR];omega
   try simp at q51
   refine last 48 0 [(0,.sl (l1.map (cI .i64))),(1,iI n2),(5,.osl ⟨1,3⟩ (out3.map (cI .i64))),(6,.bool done4),(7,iI ((i5+1:Nat):Int))] [] (st (by simp[q51])) fun zz hs=>?_
   exact⟨(k9,out3,done4,i5+1),hs,l7,by simp⟩
  have c52:=ltF g10
  refine zC5 0 rfl fun f53=>?_
  rw[zq4] at f53
  refine zAW<|zAH ?_
  have q54:=zqa l7
  have q55:o6.1=out3:=by rw[<-q54]
  have q56:o6.2=done4:=by rw[<-q54]
  refine zAH<|zAX<|zAj (t:=mkS 48 0 [(1,iI n2),(5,.osl ⟨1,3⟩ (o6.1.map (cI .i64))),(6,.bool o6.2)] []) ?_ (zAc (by simp[q55,q56]))
  refine zAA<|cutA 48 0 [(1,iI n2),(5,.osl ⟨1,3⟩ (o6.1.map (cI .i64))),(42,.bool (!o6.2))] []<|spc h rfl (fun g57 h=>?_) fun g57 h=>?_
  ·have g58:=notT g57
   obtain⟨l59,q60,h⟩:=bs h
   obtain⟨q61,q62⟩:=zFL q60
   try simp at q61
   refine last 48 0 [(5,.osl ⟨1,3⟩ (l59.map (cI .i64)))] [] (st (by simp[q61,q62])) fun zz hs=>?_
   refine zAj ?_ hs
   refine cutA 48 0 [(4,.osl ⟨1,3⟩ (l59.map (cI .i64)))] []<|zAC ?_
   cases h
   simp
  have g63:=notF g57
  refine zAB<|zAJ<|cutA 48 0 [(4,.osl ⟨1,3⟩ (o6.1.map (cI .i64)))] []<|zAC ?_
  cases h
  simp
theorem ref09_free_ok(fuel:Nat):(∀(l1:(List Int))(c2:zLm)(depth3:Int)(r:(List Int))(_:zDL fuel l1 c2 depth3=some r),Pure Tryz.prog 217 [.sl (l1.map (cI .i64)),.agg (zLm.d c2),iI depth3] (.sl (r.map (cI .i64)))):=by
 induction fuel with
 |zero=>intro l1 c2 depth3 r h;rw[zDL] at h;cases h
 |succ fuel ih_ref09_free=>
  intro l1 c2 depth3 r h
  rw[zDL] at h
  refine zAD Tryz.func217 (by rfl) (by rfl) (by simp) (by simp) (by simp)<|cutA 41 0 [(0,.sl (l1.map (cI .i64))),(2,iI depth3),(4,pT 0)] [(zLm.d c2)]<|zAA<|cut 41 0 [(0,.sl (l1.map (cI .i64))),(2,iI depth3),(4,pT 0),(16,.bool ((eqI c2.Op 1)&&(leI depth3 c2.N)))] [(zLm.d c2)] ?_ ?_
  ·rcases tf (eqI c2.Op 1) with g4|g4
   ·have c5:=eqT g4
    refine st ?_
    simp[g4]
   have c6:=eqF g4
   refine st ?_
   simp[g4]
  rcases sp h with ⟨g7,h⟩|⟨g7,h⟩
  ·obtain⟨g8,g9⟩:=andT g7
   have c10:=eqT g8
   have c11:=leT g9
   refine zEj rfl g7 ?_
   obtain⟨n12,q13,h⟩:=bs h
   obtain⟨q14,q15⟩:=zBo q13
   try simp at q14
   try simp at q15
   have c16:=q14;simp only[Rng,inR] at c16
   obtain⟨v17,q18,h⟩:=bs h
   refine cut 41 0 [(6,.sl (v17.map (cI .i64)))] [(zLm.d c2)] ?_ ?_
   ·refine st ?_
    simp[q14,q15]
    have r19:=ref09_add_ok fuel l1 n12 v17 q18
    try simp[q14,q15] at r19
    refine cP r19 ?_
    simp[q14,q15]
   refine zAC<|zAE ?_
   cases h
   simp
  refine zEt rfl g7<|zAB<|zAJ<|zAA<|cutA 41 0 [(0,.sl (l1.map (cI .i64))),(2,iI depth3),(4,pT 0),(7,iI 0)] [(zLm.d c2)]<|zAF ?_
  obtain⟨o22,l23,h⟩:=bs h
  refine zAq (fun p:Nat×(List Int)×Nat=>mkS 41 0 [(0,.sl (p.2.1.map (cI .i64))),(2,iI depth3),(4,pT 0),(7,iI p.2.2)] [(zLm.d c2)]) (fun p=>zDK (zDL fuel) c2 depth3 p.1 p.2.1 p.2.2=some o22) (fun p=>p.1) (fuel,l1,0) l23 (zAc (by simp)) ?_
  rintro⟨k24,l20,i21⟩ l23
  try dsimp only at l23 ⊢
  cases k24 with
  |zero=>
   rw[zDK] at l23;cases l23
  |succ k25=>
   rw[zDK] at l23
   refine zAA<|cutA 41 0 [(0,.sl (l20.map (cI .i64))),(2,iI depth3),(4,pT 0),(7,iI i21),(27,.bool (ltI i21 c2.L.length))] [(zLm.d c2)]<|spc l23 rfl (fun g26 l23=>?_) fun g26 l23=>?_
   ·have c27:=ltT g26
    refine zBk 0 5 rfl rfl rfl fun f28=>?_
    rw[zq4] at f28
    refine zAB<|zAJ<|zAA<|zAF ?_
    obtain⟨x29,q30,l23⟩:=bs l23
    obtain⟨v31,q32,l23⟩:=bs l23
    obtain⟨v33,q34,l23⟩:=bs l23
    refine last 41 0 [(0,.sl (v33.map (cI .i64))),(2,iI depth3),(4,pT 0),(7,iI i21)] [(zLm.d c2)] ?_ fun zz hs=>?_
    ·refine zAL [] mixed (n:=41) rfl (by decide) ?_
     simp[q30]
     have r36:=zFx c2 depth3 v31 q32
     try simp[q30] at r36
     refine zF9 r36 (by simp) rfl ?_
     simp[q30]
     have r37:=ih_ref09_free l20 x29 v31 v33 q34
     try simp[q30] at r37
     refine zF9 r37 (by simp) rfl ?_
     simp[q30]
    refine zDC<|zAj ?_ hs
    have q35:Rng .i64 (((i21:Nat):Int)+1):=by simp only[Rng,inR];omega
    try simp at q35
    refine last 41 0 [(0,.sl (v33.map (cI .i64))),(2,iI depth3),(4,pT 0),(7,iI ((i21+1:Nat):Int))] [(zLm.d c2)] (st (by simp[q35])) fun zz hs=>?_
    exact⟨(k25,v33,i21+1),hs,l23,by simp⟩
   have c38:=ltF g26
   refine zBk 0 5 rfl rfl rfl fun f39=>?_
   rw[zq4] at f39
   refine zAW<|zAH ?_
   have q40:=zqa l23
   have q40:=q40.symm
   refine zAH<|zAX<|zAj (t:=mkS 41 0 [(0,.sl (o22.map (cI .i64)))] [(zLm.d c2)]) ?_ (zAc (by simp[q40]))
   refine cutA 41 0 [(6,.sl (o22.map (cI .i64)))] [(zLm.d c2)]<|zAC ?_
   cases h
   simp
theorem ref09_Free_ok(fuel:Nat)(c1:zLm)(r:(List Int))(h:zGj fuel c1=some r):Pure Tryz.prog 191 [.agg (zLm.d c1)] (.sl (r.map (cI .i64))):=by
 rw[zGj] at h
 refine zAD Tryz.func191 (by rfl) (by rfl) (by simp) (by simp) (by simp)<|cutA 5 0 [(1,pT 0)] [(zLm.d c1)] ?_
 obtain⟨v2,q3,h⟩:=bs h
 refine cut 5 0 [(2,.sl (v2.map (cI .i64)))] [(zLm.d c1)] ?_ ?_
 ·refine st ?_
  simp
  have r4:=ref09_free_ok fuel ([]:List Int) c1 0 v2 q3
  try simp at r4
  refine cP r4 ?_
  simp
 refine zAC ?_
 cases h
 simp
theorem zKB(fuel:Nat)(c1:zLm)(n2:Int)(r:Bool)(h:zEr fuel c1 n2=some r):Pure Tryz.prog 165 [.agg (zLm.d c1),iI n2] (.bool r):=by
 rw[zEr] at h
 refine zAD Tryz.func165 (by rfl) (by rfl) (by simp) (by simp) (by simp)<|cutA 21 0 [(1,iI n2),(2,pT 0)] [(zLm.d c1)] ?_
 obtain⟨v3,q4,h⟩:=bs h
 refine cut 21 0 [(1,iI n2),(5,.sl (v3.map (cI .i64)))] [(zLm.d c1)] ?_ ?_
 ·refine st ?_
  simp
  have r23:=ref09_Free_ok fuel c1 v3 q4
  try simp at r23
  refine cP r23 ?_
  simp
 refine zAA<|cutA 21 0 [(1,iI n2),(5,.sl (v3.map (cI .i64))),(6,iI 0)] [(zLm.d c1)]<|zAF ?_
 obtain⟨o7,l8,h⟩:=bs h
 refine zAq (fun p:Nat×Nat=>mkS 21 0 [(1,iI n2),(5,.sl (v3.map (cI .i64))),(6,iI p.2)] [(zLm.d c1)]) (fun p=>zCZ n2 v3 p.1 p.2=some o7) (fun p=>p.1) (fuel,0) l8 (zAc (by simp)) ?_
 rintro⟨k9,i5⟩ l8
 try dsimp only at l8 ⊢
 cases k9 with
 |zero=>
  rw[zCZ] at l8;cases l8
 |succ k10=>
  rw[zCZ] at l8
  refine zAA<|cutA 21 0 [(1,iI n2),(5,.sl (v3.map (cI .i64))),(6,iI i5),(12,.bool (ltI i5 v3.length))] [(zLm.d c1)]<|spc l8 rfl (fun g11 l8=>?_) fun g11 l8=>?_
  ·have c12:=ltT g11
   refine zC5 5 rfl fun f13=>?_
   rw[zq4] at f13
   refine zAB<|zAJ<|zAA<|zAF ?_
   obtain⟨x14,q15,l8⟩:=bs l8
   refine cut 21 0 [(1,iI n2),(5,.sl (v3.map (cI .i64))),(6,iI i5),(20,.bool (eqI x14 n2))] [(zLm.d c1)] (st (by simp[q15]))<|spc l8 rfl (fun g16 l8=>?_) fun g16 l8=>?_
   ·have c17:=eqT g16
    refine cutA 21 0 [(4,.bool true)] [(zLm.d c1)]<|zAC<|zAR<|zAE ?_
    replace h:=retL l8 h
    refine zAE<|zAR<|zAE ?_
    cases h
    simp
   have c18:=eqF g16
   refine zAB<|zDC<|zAJ ?_
   have q19:Rng .i64 (((i5:Nat):Int)+1):=by simp only[Rng,inR];omega
   try simp at q19
   refine last 21 0 [(1,iI n2),(5,.sl (v3.map (cI .i64))),(6,iI ((i5+1:Nat):Int))] [(zLm.d c1)] (st (by simp[q19])) fun zz hs=>?_
   exact⟨(k10,i5+1),hs,l8,by simp⟩
  have c20:=ltF g11
  refine zC5 5 rfl fun f21=>?_
  rw[zq4] at f21
  refine zAW<|zAH ?_
  rcases o7 with o7|o6
  ·cases l8
  have q22:=Sum.inr.inj (zqa l8)
  replace h:=zHa h
  refine zAH<|zAX<|zAj (t:=mkS 21 0 [] [(zLm.d c1)]) ?_ (zAc (by simp))
  refine cutA 21 0 [(4,.bool false)] [(zLm.d c1)]<|zAC ?_
  cases h
  simp
theorem ref11_eta_ok(fuel:Nat)(c1:zLm)(r:Bool)(h:zFa fuel c1=some r):Pure Tryz.prog 116 [.agg (zLm.d c1)] (.bool r):=by
 rw[zFa] at h
 refine zAD Tryz.func116 (by rfl) (by rfl) (by simp) (by simp) (by simp)<|cutA 41 0 [(1,pT 0)] [(zLm.d c1)]<|zAA ?_
 obtain⟨b9,q10,h⟩:=bs h
 refine cut 41 0 [(1,pT 0),(14,.bool b9)] [(zLm.d c1)] ?_ ?_
 ·rcases sp q10 with ⟨g2,q10⟩|⟨g2,q10⟩
  ·have g3:=notT g2
   have c4:=eqF g3
   obtain rfl:=oi q10
   refine st ?_
   simp[g2]
  have g5:=notF g2
  have c6:=eqT g5
  obtain⟨x7,q8,q10⟩:=bs q10
  obtain rfl:=oi q10
  refine st ?_
  simp[g2,q8]
 refine spc h rfl (fun g11 h=>?_) fun g11 h=>?_
 ·refine cutA 41 0 [(2,.bool false)] [(zLm.d c1)]<|zAC<|zAE ?_
  cases h
  simp
 refine zAB<|zAJ ?_
 obtain⟨x12,q13,h⟩:=bs h
 obtain⟨x14,q15,h⟩:=bs h
 refine cut 41 0 [(1,pT 0),(3,pT 1)] [(zLm.d c1),(zLm.d x14)] (st (by simp[q13,q15])) ?_
 obtain⟨b26,q27,h⟩:=bs h
 refine cut 41 0 [(2,.bool b26)] [(zLm.d c1),(zLm.d x14)] ?_ ?_
 ·rcases sp q27 with ⟨g16,q27⟩|⟨g16,q27⟩
  ·have c17:=eqT g16
   rcases sp q27 with ⟨g18,q27⟩|⟨g18,q27⟩
   ·have c19:=eqT g18
    obtain⟨x20,q21,q27⟩:=bs q27
    obtain⟨v22,q23,q27⟩:=bs q27
    obtain rfl:=oi q27
    refine st ?_
    simp[g16,g18,q13,q21]
    have r28:=zKB fuel x20 0 v22 q23
    try simp[g16,g18,q13,q21] at r28
    refine cP r28 ?_
    simp[g16,g18,q13,q21]
   have c24:=eqF g18
   obtain rfl:=oi q27
   refine st ?_
   simp[g16,g18]
  have c25:=eqF g16
  obtain rfl:=oi q27
  refine st ?_
  simp[g16]
 refine zAC ?_
 cases h
 simp
theorem zIT(fuel:Nat):(∀(c1:zLm)(left2:Int)(r:zLm×Int)(_:zAs fuel c1 left2=some r),Pure Tryz.prog 67 [.agg (zLm.d c1),iI left2] (.tup [.agg (zLm.d r.1),iI r.2])):=by
 induction fuel with
 |zero=>intro c1 left2 r h;rw[zAs] at h;cases h
 |succ fuel zGI=>
  intro c1 left2 r h
  rw[zAs] at h
  refine zAD Tryz.func67 (by rfl) (by rfl) (by simp) (by simp) (by simp)<|cutA 118 0 [(1,iI left2),(2,pT 0),(4,pT 1)] [(zLm.d c1),zz0]<|cutA 118 0 [(1,iI left2),(2,pT 0),(4,pT 1),(6,pT 2)] [(zLm.d c1),zz0,[iI c1.Op,iI c1.N,.str c1.S,.sl (c1.Kind.L.map zLl.c),.sl (c1.Names.map cS),.osl ⟨6,31⟩ (([]:List zLm).map zLm.c)]]<|zAA<|cutA 118 0 [(1,iI left2),(2,pT 0),(4,pT 1),(6,pT 2),(7,iI 0)] [(zLm.d c1),zz0,[iI c1.Op,iI c1.N,.str c1.S,.sl (c1.Kind.L.map zLl.c),.sl (c1.Names.map cS),.osl ⟨6,31⟩ (([]:List zLm).map zLm.c)]]<|zAF ?_
  obtain⟨o7,l8,h⟩:=bs h
  refine zAq (fun p:Nat×(List zLm)×Int×Nat=>mkS 118 0 [(1,iI p.2.2.1),(2,pT 0),(4,pT 1),(6,pT 2),(7,iI p.2.2.2)] [(zLm.d c1),zz0,[iI c1.Op,iI c1.N,.str c1.S,.sl (c1.Kind.L.map zLl.c),.sl (c1.Names.map cS),.osl ⟨6,31⟩ (p.2.1.map zLm.c)]]) (fun p=>zBC (zAs fuel) c1 p.1 p.2.1 p.2.2.1 p.2.2.2=some o7) (fun p=>p.1) (fuel,([]:List zLm),left2,0) l8 (zAc (by simp)) ?_
  rintro⟨k9,L3,left4,i5⟩ l8
  try dsimp only at l8 ⊢
  cases k9 with
  |zero=>
   rw[zBC] at l8;cases l8
  |succ k10=>
   rw[zBC] at l8
   refine zAA<|cutA 118 0 [(1,iI left4),(2,pT 0),(4,pT 1),(6,pT 2),(7,iI i5),(26,.bool (ltI i5 c1.L.length))] [(zLm.d c1),zz0,[iI c1.Op,iI c1.N,.str c1.S,.sl (c1.Kind.L.map zLl.c),.sl (c1.Names.map cS),.osl ⟨6,31⟩ (L3.map zLm.c)]]<|spc l8 rfl (fun g11 l8=>?_) fun g11 l8=>?_
   ·have c12:=ltT g11
    refine zBk 0 5 rfl rfl rfl fun f13=>?_
    rw[zq4] at f13
    refine zAB<|zAJ<|zAA<|zAF ?_
    obtain⟨x14,q15,l8⟩:=bs l8
    obtain⟨v16,q17,l8⟩:=bs l8
    refine cut 118 0 [(2,pT 0),(4,pT 1),(6,pT 2),(7,iI i5),(8,pT 3),(9,iI v16.2)] [(zLm.d c1),zz0,[iI c1.Op,iI c1.N,.str c1.S,.sl (c1.Kind.L.map zLl.c),.sl (c1.Names.map cS),.osl ⟨6,31⟩ (L3.map zLm.c)],(zLm.d v16.1)] ?_ ?_
    ·refine st ?_
     simp[q15]
     have r26:=zGI x14 left4 v16 q17
     refine cP r26 ?_
     simp[q15]
    refine zAA<|cutA 118 0 [(2,pT 0),(4,pT 1),(6,pT 2),(7,iI i5),(8,pT 3),(9,iI v16.2),(40,.bool (ltI v16.2 0))] [(zLm.d c1),zz0,[iI c1.Op,iI c1.N,.str c1.S,.sl (c1.Kind.L.map zLl.c),.sl (c1.Names.map cS),.osl ⟨6,31⟩ (L3.map zLm.c)],(zLm.d v16.1)]<|spc l8 rfl (fun g18 l8=>?_) fun g18 l8=>?_
    ·refine cutA 118 0 [(4,pT 1),(5,iI (-1))] [(zLm.d c1),zz0,[iI c1.Op,iI c1.N,.str c1.S,.sl (c1.Kind.L.map zLl.c),.sl (c1.Names.map cS),.osl ⟨6,31⟩ (L3.map zLm.c)],(zLm.d v16.1)]<|zAC<|zAE<|zAR<|zAE ?_
     replace h:=retL l8 h
     refine zAE<|zAR<|zAE ?_
     cases h
     simp
    have c20:=ltF g18
    refine zAB<|zAJ ?_
    obtain⟨l21,q22,l8⟩:=bs l8
    obtain⟨q23,q24⟩:=zFL q22
    try simp at q23
    refine cut 118 0 [(2,pT 0),(4,pT 1),(6,pT 2),(7,iI i5),(9,iI v16.2)] [(zLm.d c1),zz0,[iI c1.Op,iI c1.N,.str c1.S,.sl (c1.Kind.L.map zLl.c),.sl (c1.Names.map cS),.osl ⟨6,31⟩ (l21.map zLm.c)],(zLm.d v16.1)] (st (by simp[q23,q24]))<|last 118 0 [(1,iI v16.2),(2,pT 0),(4,pT 1),(6,pT 2),(7,iI i5)] [(zLm.d c1),zz0,[iI c1.Op,iI c1.N,.str c1.S,.sl (c1.Kind.L.map zLl.c),.sl (c1.Names.map cS),.osl ⟨6,31⟩ (l21.map zLm.c)],(zLm.d v16.1)] (st (by simp)) fun zz hs=>?_
    refine zDC<|zAj ?_ hs
    have q25:Rng .i64 (((i5:Nat):Int)+1):=by simp only[Rng,inR];omega
    try simp at q25
    refine last 118 0 [(1,iI v16.2),(2,pT 0),(4,pT 1),(6,pT 2),(7,iI ((i5+1:Nat):Int))] [(zLm.d c1),zz0,[iI c1.Op,iI c1.N,.str c1.S,.sl (c1.Kind.L.map zLl.c),.sl (c1.Names.map cS),.osl ⟨6,31⟩ (l21.map zLm.c)]] (st (by simp[q25])) fun zz hs=>?_
    exact⟨(k10,l21,v16.2,i5+1),hs,l8,by simp⟩
   have c27:=ltF g11
   refine zBk 0 5 rfl rfl rfl fun f28=>?_
   rw[zq4] at f28
   refine zAW<|zAH ?_
   rcases o7 with o7|o6
   ·cases l8
   have q29:=Sum.inr.inj (zqa l8)
   replace h:=zHa h
   have q30:o6.1=left4:=by rw[<-q29]
   have q31:o6.2=L3:=by rw[<-q29]
   refine zAH<|zAX<|zAj (t:=mkS 118 0 [(1,iI o6.1),(4,pT 1),(6,pT 2)] [(zLm.d c1),zz0,[iI c1.Op,iI c1.N,.str c1.S,.sl (c1.Kind.L.map zLl.c),.sl (c1.Names.map cS),.osl ⟨6,31⟩ (o6.2.map zLm.c)]]) ?_ (zAc (by simp[q30,q31]))
   refine zAA ?_
   obtain⟨v32,q33,h⟩:=bs h
   refine cut 118 0 [(1,iI o6.1),(4,pT 1),(6,pT 2),(51,.bool (!v32))] [(zLm.d c1),zz0,[iI c1.Op,iI c1.N,.str c1.S,.sl (c1.Kind.L.map zLl.c),.sl (c1.Names.map cS),.osl ⟨6,31⟩ (o6.2.map zLm.c)]] ?_ ?_
   ·refine st ?_
    simp
    have r88:=zEm fuel (zLm.mk c1.Op c1.N c1.S c1.Kind c1.Names o6.2) v32 q33
    try simp at r88
    refine cP r88 ?_
    simp
   refine spc h rfl (fun g34 h=>?_) fun g34 h=>?_
   ·have g35:=notT g34
    refine cutA 118 0 [(4,pT 1),(5,iI (-1))] [(zLm.d c1),zz0,[iI c1.Op,iI c1.N,.str c1.S,.sl (c1.Kind.L.map zLl.c),.sl (c1.Names.map cS),.osl ⟨6,31⟩ (o6.2.map zLm.c)]]<|zAC<|zAE ?_
    cases h
    simp
   have g36:=notF g34
   refine zAB<|zAJ<|zAA ?_
   obtain⟨b42,q43,h⟩:=bs h
   refine cut 118 0 [(1,iI o6.1),(4,pT 1),(6,pT 2),(63,.bool b42)] [(zLm.d c1),zz0,[iI c1.Op,iI c1.N,.str c1.S,.sl (c1.Kind.L.map zLl.c),.sl (c1.Names.map cS),.osl ⟨6,31⟩ (o6.2.map zLm.c)]] ?_ ?_
   ·rcases sp q43 with ⟨g37,q43⟩|⟨g37,q43⟩
    ·have c38:=eqT g37
     obtain⟨x39,q40,q43⟩:=bs q43
     obtain rfl:=oi q43
     refine st ?_
     simp[g37,q40]
    have c41:=eqF g37
    obtain rfl:=oi q43
    refine st ?_
    simp[g37]
   refine spc h rfl (fun g44 h=>?_) fun g44 h=>?_
   ·refine zAA<|cutA 118 0 [(1,iI o6.1),(4,pT 1),(6,pT 2),(65,.bool (eqI o6.1 0))] [(zLm.d c1),zz0,[iI c1.Op,iI c1.N,.str c1.S,.sl (c1.Kind.L.map zLl.c),.sl (c1.Names.map cS),.osl ⟨6,31⟩ (o6.2.map zLm.c)]]<|spc h rfl (fun g45 h=>?_) fun g45 h=>?_
    ·have c46:=eqT g45
     refine cutA 118 0 [(4,pT 1),(5,iI (-1))] [(zLm.d c1),zz0,[iI c1.Op,iI c1.N,.str c1.S,.sl (c1.Kind.L.map zLl.c),.sl (c1.Names.map cS),.osl ⟨6,31⟩ (o6.2.map zLm.c)]]<|zAC<|zAE<|zAE ?_
     cases h
     simp
    have c47:=eqF g45
    refine zAB<|zAJ<|zAA ?_
    obtain⟨x48,q49,h⟩:=bs h
    obtain⟨x50,q51,h⟩:=bs h
    obtain⟨x52,q53,h⟩:=bs h
    obtain⟨v54,q55,h⟩:=bs h
    refine cut 118 0 [(1,iI o6.1),(4,pT 1),(6,pT 2),(80,.bool (ltI 20000 v54))] [(zLm.d c1),zz0,[iI c1.Op,iI c1.N,.str c1.S,.sl (c1.Kind.L.map zLl.c),.sl (c1.Names.map cS),.osl ⟨6,31⟩ (o6.2.map zLm.c)]] ?_ ?_
    ·refine zAL [] mixed (n:=118) rfl (by decide) ?_
     simp[q49,q51,q53]
     have r76:=zIC fuel x50 [x52] v54 q55
     try simp[q49,q51,q53] at r76
     refine zF9 r76 (by simp) rfl ?_
     simp[q49,q51,q53]
    refine spc h rfl (fun g56 h=>?_) fun g56 h=>?_
    ·have c57:=ltT g56
     refine cutA 118 0 [(4,pT 1),(5,iI (-1))] [(zLm.d c1),zz0,[iI c1.Op,iI c1.N,.str c1.S,.sl (c1.Kind.L.map zLl.c),.sl (c1.Names.map cS),.osl ⟨6,31⟩ (o6.2.map zLm.c)]]<|zAC<|zAE<|zAE ?_
     cases h
     simp
    have c58:=ltF g56
    refine zAB<|zAJ ?_
    obtain⟨v59,q60,h⟩:=bs h
    refine cut 118 0 [(1,iI o6.1),(4,pT 1),(10,pT 3)] [(zLm.d c1),zz0,[iI c1.Op,iI c1.N,.str c1.S,.sl (c1.Kind.L.map zLl.c),.sl (c1.Names.map cS),.osl ⟨6,31⟩ (o6.2.map zLm.c)],(zLm.d v59)] ?_ ?_
    ·refine zAL [] mixed (n:=118) rfl (by decide) ?_
     simp[q49,q51,q53]
     have r75:=zH9 fuel x50 [x52] v59 q60
     try simp[q49,q51,q53] at r75
     refine zF9 r75 (by simp) rfl ?_
     simp[q49,q51,q53]
    refine zAA ?_
    obtain⟨v61,q62,h⟩:=bs h
    refine cut 118 0 [(1,iI o6.1),(4,pT 1),(10,pT 3),(97,.bool (!v61))] [(zLm.d c1),zz0,[iI c1.Op,iI c1.N,.str c1.S,.sl (c1.Kind.L.map zLl.c),.sl (c1.Names.map cS),.osl ⟨6,31⟩ (o6.2.map zLm.c)],(zLm.d v59)] ?_ ?_
    ·refine st ?_
     simp
     have r74:=zEm fuel v59 v61 q62
     try simp at r74
     refine cP r74 ?_
     simp
    refine spc h rfl (fun g63 h=>?_) fun g63 h=>?_
    ·have g64:=notT g63
     refine cutA 118 0 [(4,pT 1),(5,iI (-1))] [(zLm.d c1),zz0,[iI c1.Op,iI c1.N,.str c1.S,.sl (c1.Kind.L.map zLl.c),.sl (c1.Names.map cS),.osl ⟨6,31⟩ (o6.2.map zLm.c)],(zLm.d v59)]<|zAC<|zAE<|zAE ?_
     cases h
     simp
    have g65:=notF g63
    refine zAB<|zAJ ?_
    obtain⟨n66,q67,h⟩:=bs h
    obtain⟨q68,q69⟩:=zBo q67
    try simp at q68
    try simp at q69
    have c70:=q68;simp only[Rng,inR] at c70
    obtain⟨v71,q72,h⟩:=bs h
    refine cut 118 0 [(4,pT 1),(5,iI v71.2)] [(zLm.d c1),(zLm.d v71.1),[iI c1.Op,iI c1.N,.str c1.S,.sl (c1.Kind.L.map zLl.c),.sl (c1.Names.map cS),.osl ⟨6,31⟩ (o6.2.map zLm.c)],(zLm.d v59)] ?_ ?_
    ·refine st ?_
     simp[q68,q69]
     have r73:=zGI v59 n66 v71 q72
     try simp[q68,q69] at r73
     refine cP r73 ?_
     simp[q68,q69]
    refine zAC<|zAE ?_
    cases h
    simp
   refine zAB<|zAJ<|zAA ?_
   obtain⟨v77,q78,h⟩:=bs h
   refine cut 118 0 [(1,iI o6.1),(4,pT 1),(6,pT 2),(106,.bool v77)] [(zLm.d c1),zz0,[iI c1.Op,iI c1.N,.str c1.S,.sl (c1.Kind.L.map zLl.c),.sl (c1.Names.map cS),.osl ⟨6,31⟩ (o6.2.map zLm.c)]] ?_ ?_
   ·refine st ?_
    simp
    have r87:=ref11_eta_ok fuel (zLm.mk c1.Op c1.N c1.S c1.Kind c1.Names o6.2) v77 q78
    try simp at r87
    refine cP r87 ?_
    simp
   refine spc h rfl (fun g79 h=>?_) fun g79 h=>?_
   ·obtain⟨x80,q81,h⟩:=bs h
    obtain⟨x82,q83,h⟩:=bs h
    obtain⟨v84,q85,h⟩:=bs h
    refine cut 118 0 [(4,pT 1),(5,iI o6.1)] [(zLm.d c1),(zLm.d v84),[iI c1.Op,iI c1.N,.str c1.S,.sl (c1.Kind.L.map zLl.c),.sl (c1.Names.map cS),.osl ⟨6,31⟩ (o6.2.map zLm.c)]] ?_ ?_
    ·refine st ?_
     simp[q81,q83]
     have r86:=zIB fuel x82 (-1) 0 v84 q85
     try simp[q81,q83] at r86
     refine cP r86 ?_
     simp[q81,q83]
    refine zAC<|zAE ?_
    cases h
    simp
   refine zAB<|zAJ<|cutA 118 0 [(4,pT 1),(5,iI o6.1)] [(zLm.d c1),[iI c1.Op,iI c1.N,.str c1.S,.sl (c1.Kind.L.map zLl.c),.sl (c1.Names.map cS),.sl (o6.2.map zLm.c)],[iI c1.Op,iI c1.N,.str c1.S,.sl (c1.Kind.L.map zLl.c),.sl (c1.Names.map cS),.osl ⟨6,31⟩ (o6.2.map zLm.c)]]<|zAC ?_
   cases h
   simp
theorem zGx(fuel:Nat)(c1:zLm)(r:zLm×Bool)(h:zEV fuel c1=some r):Pure Tryz.prog 37 [.agg (zLm.d c1)] (.tup [.agg (zLm.d r.1),.bool r.2]):=by
 rw[zEV] at h
 refine zAD Tryz.func37 (by rfl) (by rfl) (by simp) (by simp) (by simp)<|cutA 18 0 [(1,pT 0),(2,pT 1)] [(zLm.d c1),zz0]<|zAA ?_
 obtain⟨v2,q3,h⟩:=bs h
 refine cut 18 0 [(1,pT 0),(2,pT 1),(8,.bool (!v2))] [(zLm.d c1),zz0] ?_ ?_
 ·refine st ?_
  simp
  have r10:=zEm fuel c1 v2 q3
  try simp at r10
  refine cP r10 ?_
  simp
 refine spc h rfl (fun g4 h=>?_) fun g4 h=>?_
 ·have g5:=notT g4
  refine cutA 18 0 [(2,pT 1),(3,.bool false)] [(zLm.d c1),zz0]<|zAC<|zAE ?_
  cases h
  simp
 have g6:=notF g4
 refine zAB<|zAJ ?_
 obtain⟨v7,q8,h⟩:=bs h
 refine cut 18 0 [(2,pT 1),(4,pT 2),(5,iI v7.2)] [(zLm.d c1),zz0,(zLm.d v7.1)] ?_ ?_
 ·refine st ?_
  simp
  have r9:=zIT fuel c1 10000 v7 q8
  try simp at r9
  refine cP r9 ?_
  simp
 refine cutA 18 0 [(2,pT 1),(3,.bool (leI 0 v7.2))] [(zLm.d c1),(zLm.d v7.1),(zLm.d v7.1)]<|zAC ?_
 cases h
 simp
theorem zJU(fuel:Nat):(∀(n1:Int)(r:(List UInt8))(_:zCL fuel n1=some r),Pure Tryz.prog 118 [iI n1] (.str r)):=by
 induction fuel with
 |zero=>intro n1 r h;rw[zCL] at h;cases h
 |succ fuel zG8=>
  intro n1 r h
  rw[zCL] at h
  refine zAD Tryz.func118 (by rfl) (by rfl) (by simp) (by simp) (by simp)<|cutA 26 0 [(0,iI n1)] []<|zAA<|cutA 26 0 [(0,iI n1),(4,.bool (ltI n1 0))] []<|spc h rfl (fun g2 h=>?_) fun g2 h=>?_
  ·have c3:=ltT g2
   obtain⟨n4,q5,h⟩:=bs h
   obtain⟨q6,q7⟩:=zBo q5
   try simp at q6
   try simp at q7
   have c8:=q6;simp only[Rng,inR] at c8
   obtain⟨v9,q10,h⟩:=bs h
   obtain⟨s11,q12,h⟩:=bs h
   obtain⟨q13,q14⟩:=cat_ok q12
   try simp at q13
   try simp at q14
   refine cut 26 0 [(2,.str s11)] [] ?_ ?_
   ·refine st ?_
    simp[q6,q7,q13,q14]
    have r15:=zG8 n4 v9 q10
    try simp[q6,q7,q13,q14] at r15
    refine cP r15 ?_
    simp[q6,q7,q13,q14]
   refine zAC<|zAE ?_
   cases h
   simp
  have c16:=ltF g2
  refine zAB<|zAJ<|zAA<|cutA 26 0 [(0,iI n1),(10,.bool (ltI n1 10))] []<|spc h rfl (fun g17 h=>?_) fun g17 h=>?_
  ·have c18:=ltT g17
   have q19:Rng .i64 (48+n1):=by simp only[Rng,inR];omega
   try simp at q19
   have q20:Rng .u8 (48+n1):=by simp only[Rng,inR];omega
   refine cut 26 0 [(2,.str [(UInt8.ofNat (Int.toNat (48+n1)))])] [] (st (by simp[q19,q20]))<|zAC<|zAE ?_
   cases h
   simp
  have c21:=ltF g17
  refine zAB<|zAJ ?_
  obtain⟨n22,q23,h⟩:=bs h
  obtain⟨q24,q25⟩:=zBo q23
  try simp at q24
  try simp at q25
  obtain⟨v26,q27,h⟩:=bs h
  have q28:Rng .i64 (Int.tmod n1 10):=by rw[Int.tmod_eq_emod_of_nonneg (by omega)];simp only[Rng,inR];omega
  have q29:0<=Int.tmod n1 10∧Int.tmod n1 10<=9:=by rw[Int.tmod_eq_emod_of_nonneg (by omega)];omega
  have q30:Rng .i64 (48+(Int.tmod n1 10)):=by simp only[Rng,inR];omega
  try simp at q30
  have q31:Rng .u8 (48+(Int.tmod n1 10)):=by simp only[Rng,inR];omega
  obtain⟨s32,q33,h⟩:=bs h
  obtain⟨q34,q35⟩:=cat_ok q33
  try simp at q34
  try simp at q35
  refine cut 26 0 [(2,.str s32)] [] ?_ ?_
  ·refine zAL [] mixed (n:=26) rfl (by decide) ?_
   simp[q24,q25,q28,q30,q31,q34,q35]
   have r36:=zG8 n22 v26 q27
   try simp[q24,q25,q28,q30,q31,q34,q35] at r36
   refine zF9 r36 (by simp) rfl ?_
   simp[q24,q25,q28,q30,q31,q34,q35]
  refine zAC ?_
  cases h
  simp
theorem zIw(fuel:Nat)(l1:(List (List UInt8)))(n2:Int)(r:Bool)(h:zDZ fuel l1 n2=some r):Pure Tryz.prog 68 [.sl (l1.map cS),iI n2] (.bool r):=by
 rw[zDZ] at h
 refine zAD Tryz.func68 (by rfl) (by rfl) (by simp) (by simp) (by simp)<|cutA 23 0 [(0,.sl (l1.map cS)),(1,iI n2)] []<|zAA<|cutA 23 0 [(0,.sl (l1.map cS)),(1,iI n2),(9,.bool (!(eqI l1.length n2)))] [] ?_
 rcases sp h with ⟨g3,h⟩|⟨g3,h⟩
 ·have g4:=notT g3
  have c5:=eqF g4
  refine zEj rfl g3<|cutA 23 0 [(4,.bool false)] []<|zAC<|zAE ?_
  cases h
  simp
 have g6:=notF g3
 have c7:=eqT g6
 refine zEt rfl g3<|zAB<|zAJ<|zAA<|cutA 23 0 [(0,.sl (l1.map cS)),(1,iI n2),(5,iI 0)] []<|zAF ?_
 obtain⟨o10,l11,h⟩:=bs h
 refine zAq (fun p:Nat×Int=>mkS 23 0 [(0,.sl (l1.map cS)),(1,iI n2),(5,iI p.2)] []) (fun p=>zBy fuel l1 n2 p.1 p.2=some o10∧0<=p.2) (fun p=>p.1) (fuel,0) ⟨l11,by(try dsimp only);omega⟩ (zAc (by simp)) ?_
 rintro⟨k13,i8⟩ ⟨l11,c12⟩
 try dsimp only at l11 c12 ⊢
 cases k13 with
 |zero=>
  rw[zBy] at l11;cases l11
 |succ k14=>
  rw[zBy] at l11
  refine zAA<|cutA 23 0 [(0,.sl (l1.map cS)),(1,iI n2),(5,iI i8),(12,.bool (ltI i8 n2))] []<|spc l11 rfl (fun g15 l11=>?_) fun g15 l11=>?_
  ·have c16:=ltT g15
   refine zAB<|zAJ<|zAA<|zAF ?_
   obtain⟨x17,q18,l11⟩:=bs l11
   obtain⟨q19,q20⟩:=idx_ok q18
   obtain⟨n21,q22,l11⟩:=bs l11
   obtain⟨q23,q24⟩:=zBo q22
   try simp at q23
   try simp at q24
   have c25:=q23;simp only[Rng,inR] at c25
   obtain⟨v26,q27,l11⟩:=bs l11
   refine cut 23 0 [(0,.sl (l1.map cS)),(1,iI n2),(5,iI i8),(22,.bool (!(eqS x17 v26)))] [] ?_ ?_
   ·refine zAL [] mixed (n:=23) rfl (by decide) ?_
    simp[q19,q20,q23,q24]
    have r32:=zJU fuel n21 v26 q27
    try simp[q19,q20,q23,q24] at r32
    refine zF9 r32 (by simp) rfl ?_
    simp[q19,q20,q23,q24]
   refine spc l11 rfl (fun g28 l11=>?_) fun g28 l11=>?_
   ·have g29:=notT g28
    refine cutA 23 0 [(4,.bool false)] []<|zAC<|zAR<|zAE ?_
    replace h:=retL l11 h
    refine zAE<|zAR<|zAE ?_
    cases h
    simp
   have g30:=notF g28
   refine zAB<|zDC<|zAJ ?_
   have c31:=q23;simp only[Rng,inR] at c31
   refine last 23 0 [(0,.sl (l1.map cS)),(1,iI n2),(5,iI n21)] [] (st (by simp[q23,q24])) fun zz hs=>?_
   exact⟨(k14,n21),hs,⟨l11,by(try dsimp only);(try unfold maxI);(first|omega|(split<;>omega))⟩,by simp⟩
  have c33:=ltF g15
  refine zAW<|zAH ?_
  rcases o10 with o10|o9
  ·cases l11
  have q34:=Sum.inr.inj (zqa l11)
  replace h:=zHa h
  refine zAH<|zAX<|zAj (t:=mkS 23 0 [] []) ?_ (zAc (by simp))
  refine cutA 23 0 [(4,.bool true)] []<|zAC ?_
  cases h
  simp
theorem zK5(fuel:Nat):(∀(c1:zLm)(r:zLm×(List zLm))(_:zCS fuel c1=some r),Pure Tryz.prog 119 [.agg (zLm.d c1)] (.tup [.agg (zLm.d r.1),.sl (r.2.map zLm.c)])):=by
 induction fuel with
 |zero=>intro c1 r h;rw[zCS] at h;cases h
 |succ fuel zLR=>
  intro c1 r h
  rw[zCS] at h
  refine zAD Tryz.func119 (by rfl) (by rfl) (by simp) (by simp) (by simp)<|cutA 28 0 [(1,pT 0),(2,pT 1)] [(zLm.d c1),zz0]<|zAA<|cutA 28 0 [(1,pT 0),(2,pT 1),(8,.bool (!(eqI c1.Op 12)))] [(zLm.d c1),zz0] ?_
  rcases sp h with ⟨g2,h⟩|⟨g2,h⟩
  ·have g3:=notT g2
   have c4:=eqF g3
   refine zEj rfl g2<|cutA 28 0 [(2,pT 1),(3,.osl ⟨6,31⟩ (([]:List zLm).map zLm.c))] [(zLm.d c1),(zLm.d c1)]<|zAC<|zAE ?_
   cases h
   simp
  have g5:=notF g2
  have c6:=eqT g5
  refine zEt rfl g2<|zAB<|zAJ ?_
  obtain⟨x7,q8,h⟩:=bs h
  obtain⟨v9,q10,h⟩:=bs h
  refine cut 28 0 [(1,pT 0),(2,pT 1),(4,pT 2),(5,.sl (v9.2.map zLm.c))] [(zLm.d c1),zz0,(zLm.d v9.1)] ?_ ?_
  ·refine st ?_
   simp[q8]
   have r23:=zLR x7 v9 q10
   try simp[q8] at r23
   refine cP r23 ?_
   simp[q8]
  obtain⟨l11,q12,h⟩:=bs h
  obtain⟨q13,q14⟩:=zFL q12
  try simp at q13
  obtain⟨x15,q16,h⟩:=bs h
  obtain⟨l17,q18,h⟩:=bs h
  obtain⟨q19,q20⟩:=zFL q18
  have q21:=q19
  try simp at q21
  try simp[q14] at q19
  refine cut 28 0 [(2,pT 1),(3,.osl ⟨6,31⟩ (l17.map zLm.c))] [(zLm.d c1),(zLm.d v9.1),(zLm.d v9.1)] ?_ ?_
  ·refine zAl [999] [10,11] mixed (n:=28) rfl (by decide) (by decide) ?_
   simp[q13,q14,q16,q19,q21,q20]
  refine zAC ?_
  cases h
  simp
theorem zKC(fuel:Nat)(c1:zLm)(r:zLm×Int)(h:zDm fuel c1=some r):Pure Tryz.prog 69 [.agg (zLm.d c1)] (.tup [.agg (zLm.d r.1),iI r.2]):=by
 rw[zDm] at h
 refine zAD Tryz.func69 (by rfl) (by rfl) (by simp) (by simp) (by simp)<|cutA 71 0 [(1,pT 0),(2,pT 1)] [(zLm.d c1),zz0]<|zAA ?_
 obtain⟨v2,q3,h⟩:=bs h
 refine cut 71 0 [(1,pT 0),(2,pT 1),(14,.bool (!v2))] [(zLm.d c1),zz0] ?_ ?_
 ·refine st ?_
  simp
  have r64:=zEm fuel c1 v2 q3
  refine cP r64 ?_
  simp
 refine spc h rfl (fun g4 h=>?_) fun g4 h=>?_
 ·refine cutA 71 0 [(2,pT 1),(3,iI 1)] [(zLm.d c1),zz0]<|zAC<|zAE ?_
  cases h
  simp
 refine zAB<|zAJ ?_
 obtain⟨v7,q8,h⟩:=bs h
 refine cut 71 0 [(2,pT 1),(4,pT 2),(5,.bool v7.2)] [(zLm.d c1),zz0,(zLm.d v7.1)] ?_ ?_
 ·refine st ?_
  simp
  have r63:=zGx fuel c1 v7 q8
  refine cP r63 ?_
  simp
 refine zAA<|cutA 71 0 [(2,pT 1),(4,pT 2),(22,.bool (!v7.2))] [(zLm.d c1),zz0,(zLm.d v7.1)]<|spc h rfl (fun g9 h=>?_) fun g9 h=>?_
 ·refine cutA 71 0 [(2,pT 1),(3,iI 27)] [(zLm.d c1),zz0,(zLm.d v7.1)]<|zAC<|zAE ?_
  cases h
  simp
 refine zAB<|zAJ ?_
 obtain⟨v12,q13,h⟩:=bs h
 refine cut 71 0 [(2,pT 1),(6,pT 3),(7,.sl (v12.2.map zLm.c))] [(zLm.d c1),zz0,(zLm.d v7.1),(zLm.d v12.1)] ?_ ?_
 ·refine st ?_
  simp
  have r62:=zK5 fuel v7.1 v12 q13
  refine cP r62 ?_
  simp
 refine zAA<|cutA 71 0 [(2,pT 1),(6,pT 3),(7,.sl (v12.2.map zLm.c)),(31,.bool (!(eqI v12.1.Op 13)))] [(zLm.d c1),zz0,(zLm.d v7.1),(zLm.d v12.1)]<|spc h rfl (fun g14 h=>?_) fun g14 h=>?_
 ·have g15:=notT g14
  refine cutA 71 0 [(2,pT 1),(3,iI 12)] [(zLm.d c1),zz0,(zLm.d v7.1),(zLm.d v12.1)]<|zAC<|zAE ?_
  cases h
  simp
 have g17:=notF g14
 refine zAB<|zAJ<|zAA ?_
 obtain⟨x19,q20,h⟩:=bs h
 obtain⟨v21,q22,h⟩:=bs h
 refine cut 71 0 [(2,pT 1),(6,pT 3),(7,.sl (v12.2.map zLm.c)),(40,.bool (ltI 20000 v21))] [(zLm.d c1),zz0,(zLm.d v7.1),(zLm.d v12.1)] ?_ ?_
 ·refine zAL [] mixed (n:=71) rfl (by decide) ?_
  simp[q20]
  have r61:=zIC fuel x19 [v12.1] v21 q22
  try simp[q20] at r61
  refine zF9 r61 (by simp) rfl ?_
  simp[q20]
 refine spc h rfl (fun g23 h=>?_) fun g23 h=>?_
 ·refine cutA 71 0 [(2,pT 1),(3,iI 27)] [(zLm.d c1),zz0,(zLm.d v7.1),(zLm.d v12.1)]<|zAC<|zAE ?_
  cases h
  simp
 have c25:=ltF g23
 refine zAB<|zAJ ?_
 obtain⟨v26,q27,h⟩:=bs h
 refine cut 71 0 [(2,pT 1),(7,.sl (v12.2.map zLm.c)),(8,pT 4)] [(zLm.d c1),zz0,(zLm.d v7.1),(zLm.d v12.1),(zLm.d v26)] ?_ ?_
 ·refine zAL [] mixed (n:=71) rfl (by decide) ?_
  simp[q20]
  have r60:=zH9 fuel x19 [v12.1] v26 q27
  try simp[q20] at r60
  refine zF9 r60 (by simp) rfl ?_
  simp[q20]
 refine zAA<|cutA 71 0 [(2,pT 1),(7,.sl (v12.2.map zLm.c)),(8,pT 4),(9,iI 0)] [(zLm.d c1),zz0,(zLm.d v7.1),(zLm.d v12.1),(zLm.d v26)]<|zAF ?_
 obtain⟨o35,l36,h⟩:=bs h
 refine zAq (fun p:Nat×Int×Int×(List UInt8)×(List zLl)×(List (List UInt8))×(List zLm)×Nat=>mkS 71 0 [(2,pT 1),(7,.sl (v12.2.map zLm.c)),(8,pT 4),(9,iI p.2.2.2.2.2.2.2)] [(zLm.d c1),zz0,(zLm.d v7.1),(zLm.d v12.1),[iI p.2.1,iI p.2.2.1,.str p.2.2.2.1,.sl (p.2.2.2.2.1.map zLl.c),.sl (p.2.2.2.2.2.1.map cS),.sl (p.2.2.2.2.2.2.1.map zLm.c)]]) (fun p=>zBT v12 p.1 p.2.1 p.2.2.1 p.2.2.2.1 p.2.2.2.2.1 p.2.2.2.2.2.1 p.2.2.2.2.2.2.1 p.2.2.2.2.2.2.2=some o35) (fun p=>p.1) (fuel,v26.Op,v26.N,v26.S,v26.Kind.L,v26.Names,v26.L,0) l36 (zAc (by simp)) ?_
 rintro⟨k37,Op28,N29,S30,Kind31,Names32,L33,i34⟩ l36
 try dsimp only at l36 ⊢
 cases k37 with
 |zero=>
  rw[zBT] at l36;cases l36
 |succ k38=>
  rw[zBT] at l36
  refine zAA<|cutA 71 0 [(2,pT 1),(7,.sl (v12.2.map zLm.c)),(8,pT 4),(9,iI i34),(52,.bool (ltI i34 v12.2.length))] [(zLm.d c1),zz0,(zLm.d v7.1),(zLm.d v12.1),[iI Op28,iI N29,.str S30,.sl (Kind31.map zLl.c),.sl (Names32.map cS),.sl (L33.map zLm.c)]]<|spc l36 rfl (fun g39 l36=>?_) fun g39 l36=>?_
  ·have c40:=ltT g39
   refine zC5 7 rfl fun f41=>?_
   rw[zq4] at f41
   refine zAB<|zAJ<|zAA<|zAF ?_
   obtain⟨x42,q43,l36⟩:=bs l36
   refine last 71 0 [(2,pT 1),(7,.sl (v12.2.map zLm.c)),(8,pT 4),(9,iI i34)] [(zLm.d c1),zz0,(zLm.d v7.1),(zLm.d v12.1),[iI 12,iI 0,.str ([]:List UInt8),.osl ⟨1,27⟩ (([]:List zLl).map zLl.c),.osl ⟨1,9⟩ (([]:List (List UInt8)).map cS),.sl ([(zLm.mk Op28 N29 S30 (zLl.mk Kind31) Names32 L33),x42].map zLm.c)]] ?_ fun zz hs=>?_
   ·refine zAL [] mixed (n:=71) rfl (by decide) ?_
    simp[q43]
   refine zDC<|zAj ?_ hs
   have q44:Rng .i64 (((i34:Nat):Int)+1):=by simp only[Rng,inR];omega
   try simp at q44
   refine last 71 0 [(2,pT 1),(7,.sl (v12.2.map zLm.c)),(8,pT 4),(9,iI ((i34+1:Nat):Int))] [(zLm.d c1),zz0,(zLm.d v7.1),(zLm.d v12.1),[iI 12,iI 0,.str ([]:List UInt8),.sl (([]:List zLl).map zLl.c),.sl (([]:List (List UInt8)).map cS),.sl ([(zLm.mk Op28 N29 S30 (zLl.mk Kind31) Names32 L33),x42].map zLm.c)]] (st (by simp[q44])) fun zz hs=>?_
   exact⟨(k38,12,0,([]:List UInt8),([]:List zLl),([]:List (List UInt8)),[(zLm.mk Op28 N29 S30 (zLl.mk Kind31) Names32 L33),x42],i34+1),hs,l36,by simp⟩
  have c45:=ltF g39
  refine zC5 7 rfl fun f46=>?_
  rw[zq4] at f46
  refine zAW<|zAH ?_
  have q47:=zqa l36
  have q48:o35.1=Op28:=by rw[<-q47]
  have q49:o35.2.1=N29:=by rw[<-q47]
  have q50:o35.2.2.1=S30:=by rw[<-q47]
  have q51:o35.2.2.2.1=Kind31:=by rw[<-q47]
  have q52:o35.2.2.2.2.1=Names32:=by rw[<-q47]
  have q53:o35.2.2.2.2.2=L33:=by rw[<-q47]
  refine zAH<|zAX<|zAj (t:=mkS 71 0 [(2,pT 1),(8,pT 4)] [(zLm.d c1),zz0,(zLm.d v7.1),(zLm.d v12.1),[iI o35.1,iI o35.2.1,.str o35.2.2.1,.sl (o35.2.2.2.1.map zLl.c),.sl (o35.2.2.2.2.1.map cS),.sl (o35.2.2.2.2.2.map zLm.c)]]) ?_ (zAc (by simp[q48,q49,q50,q51,q52,q53]))
  obtain⟨v54,q55,h⟩:=bs h
  refine cut 71 0 [(2,pT 1),(10,pT 5),(11,.bool v54.2)] [(zLm.d c1),zz0,(zLm.d v7.1),(zLm.d v12.1),[iI o35.1,iI o35.2.1,.str o35.2.2.1,.sl (o35.2.2.2.1.map zLl.c),.sl (o35.2.2.2.2.1.map cS),.sl (o35.2.2.2.2.2.map zLm.c)],(zLm.d v54.1)] ?_ ?_
  ·refine st ?_
   simp
   have r59:=zGx fuel (zLm.mk o35.1 o35.2.1 o35.2.2.1 (zLl.mk o35.2.2.2.1) o35.2.2.2.2.1 o35.2.2.2.2.2) v54 q55
   try simp at r59
   refine cP r59 ?_
   simp
  refine zAA<|cutA 71 0 [(2,pT 1),(10,pT 5),(68,.bool (!v54.2))] [(zLm.d c1),zz0,(zLm.d v7.1),(zLm.d v12.1),[iI o35.1,iI o35.2.1,.str o35.2.2.1,.sl (o35.2.2.2.1.map zLl.c),.sl (o35.2.2.2.2.1.map cS),.sl (o35.2.2.2.2.2.map zLm.c)],(zLm.d v54.1)]<|spc h rfl (fun g56 h=>?_) fun g56 h=>?_
  ·have g57:=notT g56
   refine cutA 71 0 [(2,pT 1),(3,iI 27)] [(zLm.d c1),zz0,(zLm.d v7.1),(zLm.d v12.1),[iI o35.1,iI o35.2.1,.str o35.2.2.1,.sl (o35.2.2.2.1.map zLl.c),.sl (o35.2.2.2.2.1.map cS),.sl (o35.2.2.2.2.2.map zLm.c)],(zLm.d v54.1)]<|zAC<|zAE ?_
   cases h
   simp
  have g58:=notF g56
  refine zAB<|zAJ<|cutA 71 0 [(2,pT 1),(3,iI 0)] [(zLm.d c1),(zLm.d v54.1),(zLm.d v7.1),(zLm.d v12.1),[iI o35.1,iI o35.2.1,.str o35.2.2.1,.sl (o35.2.2.2.1.map zLl.c),.sl (o35.2.2.2.2.1.map cS),.sl (o35.2.2.2.2.2.map zLm.c)],(zLm.d v54.1)]<|zAC ?_
  cases h
  simp
theorem ref20_Unit_ok(c1:zLm)(r:Bool)(h:zFn c1=some r):Pure Tryz.prog 70 [.agg (zLm.d c1)] (.bool r):=by
 rw[zFn] at h
 refine zAD Tryz.func70 (by rfl) (by rfl) (by simp) (by simp) (by simp)<|cutA 12 0 [(1,pT 0)] [(zLm.d c1)]<|cut 12 0 [(2,.bool ((eqI c1.Op 7)&&(eqI c1.L.length 0)))] [(zLm.d c1)] ?_ ?_
 ·rcases tf (eqI c1.Op 7) with g2|g2
  ·have c3:=eqT g2
   refine st ?_
   simp[g2]
  have c4:=eqF g2
  refine st ?_
  simp[g2]
 refine zAC ?_
 cases h
 simp
theorem zKz(fuel:Nat):(∀(l1:(List zLk))(p2:zLn)(c3:zLm)(r:(List zLk)×Int)(_:zBl fuel l1 p2 c3=some r),Pure Tryz.prog 38 [.sl (l1.map zLk.c),.agg (zLn.d p2),.agg (zLm.d c3)] (.tup [.sl (r.1.map zLk.c),iI r.2])):=by
 induction fuel with
 |zero=>intro l1 p2 c3 r h;rw[zBl] at h;cases h
 |succ fuel zIG=>
  intro l1 p2 c3 r h
  rw[zBl] at h
  refine zAD Tryz.func38 (by rfl) (by rfl) (by simp) (by simp) (by simp)<|cutA 121 0 [(0,.sl (l1.map zLk.c)),(4,pT 0),(5,pT 1)] [(zLn.d p2),(zLm.d c3)]<|zAA<|cutA 121 0 [(0,.sl (l1.map zLk.c)),(4,pT 0),(5,pT 1),(15,iI p2.Op)] [(zLn.d p2),(zLm.d c3)]<|zAF<|cutA 121 0 [(0,.sl (l1.map zLk.c)),(4,pT 0),(5,pT 1),(15,iI p2.Op),(16,.bool (eqI p2.Op 2))] [(zLn.d p2),(zLm.d c3)]<|spc h rfl (fun g4 h=>?_) fun g4 h=>?_
  ·obtain⟨l6,q7,h⟩:=bs h
   obtain⟨q8,q9⟩:=zFL q7
   try simp at q8
   obtain⟨l10,q11,h⟩:=bs h
   obtain⟨q12,q13⟩:=zFL q11
   have q14:=q12
   try simp at q14
   try simp[q9] at q12
   refine cut 121 0 [(6,.osl ⟨7,64⟩ (l10.map zLk.c)),(7,iI 0)] [(zLn.d p2),(zLm.d c3)] ?_ ?_
   ·refine zAl [999] [8,9,10] mixed (n:=121) rfl (by decide) (by decide) ?_
    simp[q8,q9,q12,q14,q13]
   refine zAC<|zAR<|zAE ?_
   cases h
   simp
  have c16:=eqF g4
  refine cutA 121 0 [(0,.sl (l1.map zLk.c)),(4,pT 0),(5,pT 1),(15,iI p2.Op),(27,.bool (eqI p2.Op 3))] [(zLn.d p2),(zLm.d c3)]<|spc h rfl (fun g17 h=>?_) fun g17 h=>?_
  ·refine cutA 121 0 [(0,.sl (l1.map zLk.c)),(31,.bool (!(eqI c3.Op 4)))] [(zLn.d p2),(zLm.d c3)] ?_
   rcases sp h with ⟨g19,h⟩|⟨g19,h⟩
   ·have g20:=notT g19
    have c21:=eqF g20
    refine zEj rfl g19<|cutA 121 0 [(6,.osl ⟨7,64⟩ (([]:List zLk).map zLk.c)),(7,iI 12)] [(zLn.d p2),(zLm.d c3)]<|zAC<|zAR<|zAE ?_
    cases h
    simp
   have g22:=notF g19
   have c23:=eqT g22
   refine zEt rfl g19<|zAB<|zDC<|zAJ<|cutA 121 0 [(6,.sl (l1.map zLk.c)),(7,iI 0)] [(zLn.d p2),(zLm.d c3)]<|zAC ?_
   cases h
   simp
  refine cutA 121 0 [(0,.sl (l1.map zLk.c)),(4,pT 0),(5,pT 1),(15,iI p2.Op),(32,.bool (eqI p2.Op 5))] [(zLn.d p2),(zLm.d c3)]<|spc h rfl (fun g25 h=>?_) fun g25 h=>?_
  ·refine zAA ?_
   obtain⟨b34,q35,h⟩:=bs h
   refine cut 121 0 [(0,.sl (l1.map zLk.c)),(4,pT 0),(5,pT 1),(45,.bool b34)] [(zLn.d p2),(zLm.d c3)] ?_ ?_
   ·rcases sp q35 with ⟨g27,q35⟩|⟨g27,q35⟩
    ·have g28:=notT g27
     have c29:=eqF g28
     obtain rfl:=oi q35
     refine st ?_
     simp[g27]
    have g30:=notF g27
    have c31:=eqT g30
    obtain⟨v32,q33,q35⟩:=bs q35
    obtain rfl:=oi q35
    refine st ?_
    simp[g27]
    have r63:=zIw fuel c3.Names (p2.L.length:Int) v32 q33
    try simp[g27] at r63
    refine cP r63 ?_
    simp[g27]
   refine spc h rfl (fun g36 h=>?_) fun g36 h=>?_
   ·refine cutA 121 0 [(6,.osl ⟨7,64⟩ (([]:List zLk).map zLk.c)),(7,iI 12)] [(zLn.d p2),(zLm.d c3)]<|zAC<|zAE<|zAR<|zAE ?_
    cases h
    simp
   refine zAB<|zAJ<|cutA 121 0 [(0,.sl (l1.map zLk.c)),(4,pT 0),(5,pT 1),(8,iI 0)] [(zLn.d p2),(zLm.d c3)]<|zAF ?_
   obtain⟨o40,l41,h⟩:=bs h
   refine zAq (fun p:Nat×(List zLk)×Nat=>mkS 121 0 [(0,.sl (p.2.1.map zLk.c)),(4,pT 0),(5,pT 1),(8,iI p.2.2)] [(zLn.d p2),(zLm.d c3)]) (fun p=>zCy (zBl fuel) p2 c3 p.1 p.2.1 p.2.2=some o40) (fun p=>p.1) (fuel,l1,0) l41 (zAc (by simp)) ?_
   rintro⟨k42,l37,i38⟩ l41
   try dsimp only at l41 ⊢
   cases k42 with
   |zero=>
    rw[zCy] at l41;cases l41
   |succ k43=>
    rw[zCy] at l41
    refine zAA<|cutA 121 0 [(0,.sl (l37.map zLk.c)),(4,pT 0),(5,pT 1),(8,iI i38),(50,.bool (ltI i38 p2.L.length))] [(zLn.d p2),(zLm.d c3)]<|spc l41 rfl (fun g44 l41=>?_) fun g44 l41=>?_
    ·have c45:=ltT g44
     refine zBk 0 3 rfl rfl rfl fun f46=>?_
     rw[zq4] at f46
     refine zAB<|zAJ<|zAA<|zAF ?_
     obtain⟨x47,q48,l41⟩:=bs l41
     obtain⟨x49,q50,l41⟩:=bs l41
     obtain⟨v51,q52,l41⟩:=bs l41
     refine cut 121 0 [(4,pT 0),(5,pT 1),(8,iI i38),(9,.sl (v51.1.map zLk.c)),(10,iI v51.2)] [(zLn.d p2),(zLm.d c3)] ?_ ?_
     ·refine zAL [] mixed (n:=121) rfl (by decide) ?_
      simp[q48,q50]
      have r59:=zIG l37 x47 x49 v51 q52
      try simp[q48,q50] at r59
      refine zF9 r59 (by simp) rfl ?_
      simp[q48,q50]
     refine zAA<|cutA 121 0 [(4,pT 0),(5,pT 1),(8,iI i38),(9,.sl (v51.1.map zLk.c)),(10,iI v51.2),(69,.bool (!(eqI v51.2 0)))] [(zLn.d p2),(zLm.d c3)] ?_
     rcases sp l41 with ⟨g53,l41⟩|⟨g53,l41⟩
     ·have g54:=notT g53
      have c55:=eqF g54
      refine zEj rfl g53<|cutA 121 0 [(6,.osl ⟨7,64⟩ (([]:List zLk).map zLk.c)),(7,iI v51.2)] [(zLn.d p2),(zLm.d c3)]<|zAC<|zAE<|zAR<|zAE ?_
      replace h:=retL l41 h
      refine zAE<|zAR<|zAR<|zAE ?_
      cases h
      simp
     have g56:=notF g53
     have c57:=eqT g56
     refine zEt rfl g53<|zAB<|zAJ<|last 121 0 [(0,.sl (v51.1.map zLk.c)),(4,pT 0),(5,pT 1),(8,iI i38)] [(zLn.d p2),(zLm.d c3)] (st (by simp)) fun zz hs=>?_
     refine zDC<|zAj ?_ hs
     have q58:Rng .i64 (((i38:Nat):Int)+1):=by simp only[Rng,inR];omega
     try simp at q58
     refine last 121 0 [(0,.sl (v51.1.map zLk.c)),(4,pT 0),(5,pT 1),(8,iI ((i38+1:Nat):Int))] [(zLn.d p2),(zLm.d c3)] (st (by simp[q58])) fun zz hs=>?_
     exact⟨(k43,v51.1,i38+1),hs,l41,by simp⟩
    have c60:=ltF g44
    refine zBk 0 3 rfl rfl rfl fun f61=>?_
    rw[zq4] at f61
    refine zAW<|zAH ?_
    rcases o40 with o40|o39
    ·cases l41
    have q62:=Sum.inr.inj (zqa l41)
    replace h:=zHa h
    have q62:=q62.symm
    refine zAH<|zAX<|zDC<|zAj (t:=mkS 121 0 [(0,.sl (o39.map zLk.c))] [(zLn.d p2),(zLm.d c3)]) ?_ (zAc (by simp[q62]))
    refine cutA 121 0 [(6,.sl (o39.map zLk.c)),(7,iI 0)] [(zLn.d p2),(zLm.d c3)]<|zAC ?_
    cases h
    simp
  refine cutA 121 0 [(0,.sl (l1.map zLk.c)),(4,pT 0),(5,pT 1),(72,.bool (eqI p2.Op 4))] [(zLn.d p2),(zLm.d c3)]<|spc h rfl (fun g65 h=>?_) fun g65 h=>?_
  ·obtain⟨v67,q68,h⟩:=bs h
   refine cut 121 0 [(0,.sl (l1.map zLk.c)),(4,pT 0),(11,pT 2),(12,iI v67.2)] [(zLn.d p2),(zLm.d c3),(zLm.d v67.1)] ?_ ?_
   ·refine st ?_
    simp
    have r103:=zKC fuel c3 v67 q68
    try simp at r103
    refine cP r103 ?_
    simp
   refine zAA<|cutA 121 0 [(0,.sl (l1.map zLk.c)),(4,pT 0),(11,pT 2),(12,iI v67.2),(80,.bool (!(eqI v67.2 0)))] [(zLn.d p2),(zLm.d c3),(zLm.d v67.1)] ?_
   rcases sp h with ⟨g69,h⟩|⟨g69,h⟩
   ·have g70:=notT g69
    have c71:=eqF g70
    refine zEj rfl g69<|cutA 121 0 [(6,.osl ⟨7,64⟩ (([]:List zLk).map zLk.c)),(7,iI v67.2)] [(zLn.d p2),(zLm.d c3),(zLm.d v67.1)]<|zAC<|zAE<|zAR<|zAE ?_
    cases h
    simp
   have g72:=notF g69
   have c73:=eqT g72
   refine zEt rfl g69<|zAB<|zAJ<|zAA<|cutA 121 0 [(0,.sl (l1.map zLk.c)),(4,pT 0),(11,pT 2),(84,.bool (!(eqI v67.1.Op 8)))] [(zLn.d p2),(zLm.d c3),(zLm.d v67.1)] ?_
   rcases sp h with ⟨g74,h⟩|⟨g74,h⟩
   ·have g75:=notT g74
    have c76:=eqF g75
    refine zEj rfl g74<|cutA 121 0 [(6,.osl ⟨7,64⟩ (([]:List zLk).map zLk.c)),(7,iI 12)] [(zLn.d p2),(zLm.d c3),(zLm.d v67.1)]<|zAC<|zAE<|zAR<|zAE ?_
    cases h
    simp
   have g77:=notF g74
   have c78:=eqT g77
   refine zEt rfl g74<|zAB<|zAJ ?_
   obtain⟨v79,q80,h⟩:=bs h
   refine cut 121 0 [(0,.sl (l1.map zLk.c)),(4,pT 0),(11,pT 2),(13,iI v79)] [(zLn.d p2),(zLm.d c3),(zLm.d v67.1)] ?_ ?_
   ·refine st ?_
    simp
    have r102:=zGz fuel v67.1.Names p2.S v79 q80
    try simp at r102
    refine cP r102 ?_
    simp
   refine zAA<|cutA 121 0 [(0,.sl (l1.map zLk.c)),(4,pT 0),(11,pT 2),(13,iI v79),(91,.bool (ltI v79 0))] [(zLn.d p2),(zLm.d c3),(zLm.d v67.1)]<|spc h rfl (fun g81 h=>?_) fun g81 h=>?_
   ·have c82:=ltT g81
    refine cutA 121 0 [(6,.osl ⟨7,64⟩ (([]:List zLk).map zLk.c)),(7,iI 10)] [(zLn.d p2),(zLm.d c3),(zLm.d v67.1)]<|zAC<|zAE<|zAR<|zAE ?_
    cases h
    simp
   have c83:=ltF g81
   refine zAB<|zAJ<|zAA ?_
   obtain⟨x84,q85,h⟩:=bs h
   obtain⟨q86,q87⟩:=idx_ok q85
   obtain⟨v88,q89,h⟩:=bs h
   refine cut 121 0 [(0,.sl (l1.map zLk.c)),(4,pT 0),(11,pT 2),(13,iI v79),(102,.bool (!(eqB v88 (eqI p2.L.length 0))))] [(zLn.d p2),(zLm.d c3),(zLm.d v67.1)] ?_ ?_
   ·refine zAL [] mixed (n:=121) rfl (by decide) ?_
    simp[q86,q87]
    have r101:=ref20_Unit_ok x84 v88 q89
    try simp[q86,q87] at r101
    refine zF9 r101 (by simp) rfl ?_
    simp[q86,q87]
   refine spc h rfl (fun g90 h=>?_) fun g90 h=>?_
   ·have g91:=notT g90
    refine cutA 121 0 [(6,.osl ⟨7,64⟩ (([]:List zLk).map zLk.c)),(7,iI 12)] [(zLn.d p2),(zLm.d c3),(zLm.d v67.1)]<|zAC<|zAE<|zAR<|zAE ?_
    cases h
    simp
   have g92:=notF g90
   refine zAB<|zAJ<|cutA 121 0 [(0,.sl (l1.map zLk.c)),(4,pT 0),(11,pT 2),(13,iI v79),(106,.bool (eqI p2.L.length 1))] [(zLn.d p2),(zLm.d c3),(zLm.d v67.1)]<|spc h rfl (fun g93 h=>?_) fun g93 h=>?_
   ·have c94:=eqT g93
    obtain⟨x95,q96,h⟩:=bs h
    obtain⟨v97,q98,h⟩:=bs h
    refine cut 121 0 [(6,.sl (v97.1.map zLk.c)),(7,iI v97.2)] [(zLn.d p2),(zLm.d c3),(zLm.d v67.1)] ?_ ?_
    ·refine zAL [] mixed (n:=121) rfl (by decide) ?_
     simp[q96,q86,q87]
     have r99:=zIG l1 x95 x84 v97 q98
     try simp[q96,q86,q87] at r99
     refine zF9 r99 (by simp) rfl ?_
     simp[q96,q86,q87]
    refine zAC<|zAR<|zAE ?_
    cases h
    simp
   have c100:=eqF g93
   refine zAB<|zDC<|zAJ<|cutA 121 0 [(6,.sl (l1.map zLk.c)),(7,iI 0)] [(zLn.d p2),(zLm.d c3),(zLm.d v67.1)]<|zAC ?_
   cases h
   simp
  refine zAB<|zDC<|zAJ<|cutA 121 0 [(6,.sl (l1.map zLk.c)),(7,iI 0)] [(zLn.d p2),(zLm.d c3)]<|zAC ?_
  cases h
  simp
theorem ref20_Type_ok(fuel:Nat)(p1:zLn)(c2:zLm)(r:(List zLk)×Int)(h:zE7 fuel p1 c2=some r):Pure Tryz.prog 11 [.agg (zLn.d p1),.agg (zLm.d c2)] (.tup [.sl (r.1.map zLk.c),iI r.2]):=by
 rw[zE7] at h
 refine zAD Tryz.func11 (by rfl) (by rfl) (by simp) (by simp) (by simp)<|cutA 19 0 [(2,pT 0),(3,pT 1)] [(zLn.d p1),(zLm.d c2)] ?_
 obtain⟨v3,q4,h⟩:=bs h
 refine cut 19 0 [(2,pT 0),(3,pT 1),(6,.bool v3.2)] [(zLn.d p1),(zLm.d v3.1)] ?_ ?_
 ·refine st ?_
  simp
  have r11:=zGx fuel c2 v3 q4
  try simp at r11
  refine cP r11 ?_
  simp
 refine zAA<|cutA 19 0 [(2,pT 0),(3,pT 1),(13,.bool (!v3.2))] [(zLn.d p1),(zLm.d v3.1)]<|spc h rfl (fun g5 h=>?_) fun g5 h=>?_
 ·have g6:=notT g5
  refine cutA 19 0 [(4,.osl ⟨7,64⟩ (([]:List zLk).map zLk.c)),(5,iI 27)] [(zLn.d p1),(zLm.d v3.1)]<|zAC<|zAE ?_
  cases h
  simp
 have g7:=notF g5
 refine zAB<|zAJ ?_
 obtain⟨v8,q9,h⟩:=bs h
 refine cut 19 0 [(4,.sl (v8.1.map zLk.c)),(5,iI v8.2)] [(zLn.d p1),(zLm.d v3.1)] ?_ ?_
 ·refine st ?_
  simp
  have r10:=zKz fuel ([]:List zLk) p1 v3.1 v8 q9
  try simp at r10
  refine cP r10 ?_
  simp
 refine zAC ?_
 cases h
 simp
theorem zGn(fuel:Nat):(∀(a1:zLl)(b2:zLl)(r:Bool)(_:zBf fuel a1 b2=some r),Pure Tryz.prog 71 [.agg [.sl (a1.L.map zLl.c)],.agg [.sl (b2.L.map zLl.c)]] (.bool r)):=by
 induction fuel with
 |zero=>intro a1 b2 r h;rw[zBf] at h;cases h
 |succ fuel zI0=>
  intro a1 b2 r h
  rw[zBf] at h
  refine zAD Tryz.func71 (by rfl) (by rfl) (by simp) (by simp) (by simp)<|cutA 32 0 [(2,pT 0),(3,pT 1)] [[.sl (a1.L.map zLl.c)],[.sl (b2.L.map zLl.c)]]<|zAA<|cutA 32 0 [(2,pT 0),(3,pT 1),(12,.bool (!(eqI a1.L.length b2.L.length)))] [[.sl (a1.L.map zLl.c)],[.sl (b2.L.map zLl.c)]] ?_
  rcases sp h with ⟨g3,h⟩|⟨g3,h⟩
  ·have g4:=notT g3
   have c5:=eqF g4
   refine zEj rfl g3<|cutA 32 0 [(4,.bool false)] [[.sl (a1.L.map zLl.c)],[.sl (b2.L.map zLl.c)]]<|zAC<|zAE ?_
   cases h
   simp
  have g6:=notF g3
  have c7:=eqT g6
  refine zEt rfl g3<|zAB<|zAJ<|zAA<|cutA 32 0 [(2,pT 0),(3,pT 1),(5,iI 0)] [[.sl (a1.L.map zLl.c)],[.sl (b2.L.map zLl.c)]]<|zAF ?_
  obtain⟨o10,l11,h⟩:=bs h
  refine zAq (fun p:Nat×Nat=>mkS 32 0 [(2,pT 0),(3,pT 1),(5,iI p.2)] [[.sl (a1.L.map zLl.c)],[.sl (b2.L.map zLl.c)]]) (fun p=>zBz (zBf fuel) a1 b2 p.1 p.2=some o10) (fun p=>p.1) (fuel,0) l11 (zAc (by simp)) ?_
  rintro⟨k12,i8⟩ l11
  try dsimp only at l11 ⊢
  cases k12 with
  |zero=>
   rw[zBz] at l11;cases l11
  |succ k13=>
   rw[zBz] at l11
   refine zAA<|cutA 32 0 [(2,pT 0),(3,pT 1),(5,iI i8),(17,.bool (ltI i8 a1.L.length))] [[.sl (a1.L.map zLl.c)],[.sl (b2.L.map zLl.c)]]<|spc l11 rfl (fun g14 l11=>?_) fun g14 l11=>?_
   ·have c15:=ltT g14
    refine zBk 0 0 rfl rfl rfl fun f16=>?_
    rw[zq4] at f16
    refine zAB<|zAJ<|zAA<|zAF ?_
    obtain⟨x17,q18,l11⟩:=bs l11
    obtain⟨x19,q20,l11⟩:=bs l11
    obtain⟨v21,q22,l11⟩:=bs l11
    refine cut 32 0 [(2,pT 0),(3,pT 1),(5,iI i8),(31,.bool (!v21))] [[.sl (a1.L.map zLl.c)],[.sl (b2.L.map zLl.c)]] ?_ ?_
    ·refine zAL [] mixed (n:=32) rfl (by decide) ?_
     simp[q18,q20]
     have r27:=zI0 x17 x19 v21 q22
     try simp[q18,q20] at r27
     refine zF9 r27 (by simp) rfl ?_
     simp[q18,q20]
    refine spc l11 rfl (fun g23 l11=>?_) fun g23 l11=>?_
    ·have g24:=notT g23
     refine cutA 32 0 [(4,.bool false)] [[.sl (a1.L.map zLl.c)],[.sl (b2.L.map zLl.c)]]<|zAC<|zAR<|zAE ?_
     replace h:=retL l11 h
     refine zAE<|zAR<|zAE ?_
     cases h
     simp
    have g25:=notF g23
    refine zAB<|zDC<|zAJ ?_
    have q26:Rng .i64 (((i8:Nat):Int)+1):=by simp only[Rng,inR];omega
    try simp at q26
    refine last 32 0 [(2,pT 0),(3,pT 1),(5,iI ((i8+1:Nat):Int))] [[.sl (a1.L.map zLl.c)],[.sl (b2.L.map zLl.c)]] (st (by simp[q26])) fun zz hs=>?_
    exact⟨(k13,i8+1),hs,l11,by simp⟩
   have c28:=ltF g14
   refine zBk 0 0 rfl rfl rfl fun f29=>?_
   rw[zq4] at f29
   refine zAW<|zAH ?_
   rcases o10 with o10|o9
   ·cases l11
   have q30:=Sum.inr.inj (zqa l11)
   replace h:=zHa h
   refine zAH<|zAX<|zAj (t:=mkS 32 0 [] [[.sl (a1.L.map zLl.c)],[.sl (b2.L.map zLl.c)]]) ?_ (zAc (by simp))
   refine cutA 32 0 [(4,.bool true)] [[.sl (a1.L.map zLl.c)],[.sl (b2.L.map zLl.c)]]<|zAC ?_
   cases h
   simp
theorem ref01_Same_ok(fuel:Nat)(a1:(List (List UInt8)))(b2:(List (List UInt8)))(r:Bool)(h:zFp fuel a1 b2=some r):Pure Tryz.prog 72 [.sl (a1.map cS),.sl (b2.map cS)] (.bool r):=by
 rw[zFp] at h
 refine zAD Tryz.func72 (by rfl) (by rfl) (by simp) (by simp) (by simp)<|cutA 26 0 [(0,.sl (a1.map cS)),(1,.sl (b2.map cS))] []<|zAA<|cutA 26 0 [(0,.sl (a1.map cS)),(1,.sl (b2.map cS)),(10,.bool (!(eqI a1.length b2.length)))] [] ?_
 rcases sp h with ⟨g3,h⟩|⟨g3,h⟩
 ·have g4:=notT g3
  have c5:=eqF g4
  refine zEj rfl g3<|cutA 26 0 [(4,.bool false)] []<|zAC<|zAE ?_
  cases h
  simp
 have g6:=notF g3
 have c7:=eqT g6
 refine zEt rfl g3<|zAB<|zAJ<|zAA<|cutA 26 0 [(0,.sl (a1.map cS)),(1,.sl (b2.map cS)),(5,iI 0)] []<|zAF ?_
 obtain⟨o10,l11,h⟩:=bs h
 refine zAq (fun p:Nat×Nat=>mkS 26 0 [(0,.sl (a1.map cS)),(1,.sl (b2.map cS)),(5,iI p.2)] []) (fun p=>zDO a1 b2 p.1 p.2=some o10) (fun p=>p.1) (fuel,0) l11 (zAc (by simp)) ?_
 rintro⟨k12,i8⟩ l11
 try dsimp only at l11 ⊢
 cases k12 with
 |zero=>
  rw[zDO] at l11;cases l11
 |succ k13=>
  rw[zDO] at l11
  refine zAA<|cutA 26 0 [(0,.sl (a1.map cS)),(1,.sl (b2.map cS)),(5,iI i8),(14,.bool (ltI i8 a1.length))] []<|spc l11 rfl (fun g14 l11=>?_) fun g14 l11=>?_
  ·have c15:=ltT g14
   refine zC5 0 rfl fun f16=>?_
   rw[zq4] at f16
   refine zAB<|zAJ<|zAA<|zAF ?_
   obtain⟨x17,q18,l11⟩:=bs l11
   obtain⟨x19,q20,l11⟩:=bs l11
   refine cut 26 0 [(0,.sl (a1.map cS)),(1,.sl (b2.map cS)),(5,iI i8),(25,.bool (!(eqS x17 x19)))] [] ?_ ?_
   ·refine zAL [] mixed (n:=26) rfl (by decide) ?_
    simp[q18,q20]
   refine spc l11 rfl (fun g21 l11=>?_) fun g21 l11=>?_
   ·have g22:=notT g21
    refine cutA 26 0 [(4,.bool false)] []<|zAC<|zAR<|zAE ?_
    replace h:=retL l11 h
    refine zAE<|zAR<|zAE ?_
    cases h
    simp
   have g23:=notF g21
   refine zAB<|zDC<|zAJ ?_
   have q24:Rng .i64 (((i8:Nat):Int)+1):=by simp only[Rng,inR];omega
   try simp at q24
   refine last 26 0 [(0,.sl (a1.map cS)),(1,.sl (b2.map cS)),(5,iI ((i8+1:Nat):Int))] [] (st (by simp[q24])) fun zz hs=>?_
   exact⟨(k13,i8+1),hs,l11,by simp⟩
  have c25:=ltF g14
  refine zC5 0 rfl fun f26=>?_
  rw[zq4] at f26
  refine zAW<|zAH ?_
  rcases o10 with o10|o9
  ·cases l11
  have q27:=Sum.inr.inj (zqa l11)
  replace h:=zHa h
  refine zAH<|zAX<|zAj (t:=mkS 26 0 [] []) ?_ (zAc (by simp))
  refine cutA 26 0 [(4,.bool true)] []<|zAC ?_
  cases h
  simp
theorem ref09_Same_ok(fuel:Nat):(∀(a1:zLm)(b2:zLm)(r:Bool)(_:zC3 fuel a1 b2=some r),Pure Tryz.prog 39 [.agg (zLm.d a1),.agg (zLm.d b2)] (.bool r)):=by
 induction fuel with
 |zero=>intro a1 b2 r h;rw[zC3] at h;cases h
 |succ fuel ih_ref09_Same=>
  intro a1 b2 r h
  rw[zC3] at h
  refine zAD Tryz.func39 (by rfl) (by rfl) (by simp) (by simp) (by simp)<|cutA 69 0 [(2,pT 0),(3,pT 1)] [(zLm.d a1),(zLm.d b2)]<|zAA ?_
  obtain⟨b28,q29,h⟩:=bs h
  refine cut 69 0 [(2,pT 0),(3,pT 1),(49,.bool b28)] [(zLm.d a1),(zLm.d b2)] ?_ ?_
  ·rcases sp q29 with ⟨g3,q29⟩|⟨g3,q29⟩
   ·have g4:=notT g3
    obtain rfl:=oi q29
    refine st ?_
    simp[g3]
   have g6:=notF g3
   rcases sp q29 with ⟨g8,q29⟩|⟨g8,q29⟩
   ·have g9:=notT g8
    obtain rfl:=oi q29
    refine st ?_
    simp[g3,g8]
   have g11:=notF g8
   rcases sp q29 with ⟨g13,q29⟩|⟨g13,q29⟩
   ·obtain rfl:=oi q29
    refine st ?_
    simp[g3,g8,g13]
   rcases sp q29 with ⟨g16,q29⟩|⟨g16,q29⟩
   ·have g17:=notT g16
    obtain rfl:=oi q29
    refine st ?_
    simp[g3,g8,g13,g16]
   have g19:=notF g16
   obtain⟨v21,q22,q29⟩:=bs q29
   rcases sp q29 with ⟨g23,q29⟩|⟨g23,q29⟩
   ·obtain rfl:=oi q29
    have g3x:=g3
    have g8x:=g8
    have g13x:=g13
    have g16x:=g16
    have g23x:=g23
    refine zAy<|WL.cut 34 69 0 [(2,pT 0),(3,pT 1),(34,.bool (!(eqI a1.L.length b2.L.length))),(39,.bool v21)] [(zLm.d a1),(zLm.d b2)] ?_ ?_
    ·simp[g3,g8,g13,g16,g23,g3x,g8x,g13x,g16x,g23x]
     have r54:=zGn fuel a1.Kind b2.Kind v21 q22
     refine cP r54 ?_
     simp[g3,g8,g13,g16,g23,g3x,g8x,g13x,g16x,g23x]
    refine WL.last ?_
    simp[g3,g8,g13,g16,g23,g3x,g8x,g13x,g16x,g23x]
   obtain⟨v26,q27,q29⟩:=bs q29
   obtain rfl:=oi q29
   have g3x:=g3
   have g8x:=g8
   have g13x:=g13
   have g16x:=g16
   have g23x:=g23
   refine zAy<|WL.cut 34 69 0 [(2,pT 0),(3,pT 1),(34,.bool (!(eqI a1.L.length b2.L.length))),(39,.bool v21)] [(zLm.d a1),(zLm.d b2)] ?_ ?_
   ·simp[g3,g8,g13,g16,g23,g3x,g8x,g13x,g16x,g23x]
    have r55:=zGn fuel a1.Kind b2.Kind v21 q22
    refine cP r55 ?_
    simp[g3,g8,g13,g16,g23,g3x,g8x,g13x,g16x,g23x]
   refine WL.cut 8 69 0 [(2,pT 0),(3,pT 1),(42,.bool (!v21)),(47,.bool v26)] [(zLm.d a1),(zLm.d b2)] ?_ ?_
   ·simp[g3,g8,g13,g16,g23,g3x,g8x,g13x,g16x,g23x]
    have r56:=ref01_Same_ok fuel a1.Names b2.Names v26 q27
    refine cP r56 ?_
    simp[g3,g8,g13,g16,g23,g3x,g8x,g13x,g16x,g23x]
   refine WL.last ?_
   simp[g3,g8,g13,g16,g23,g3x,g8x,g13x,g16x,g23x]
  refine spc h rfl (fun g30 h=>?_) fun g30 h=>?_
  ·refine cutA 69 0 [(4,.bool false)] [(zLm.d a1),(zLm.d b2)]<|zAC<|zAE ?_
   cases h
   simp
  refine zAB<|zAJ<|zAA<|cutA 69 0 [(2,pT 0),(3,pT 1),(5,iI 0)] [(zLm.d a1),(zLm.d b2)]<|zAF ?_
  obtain⟨o33,l34,h⟩:=bs h
  refine zAq (fun p:Nat×Nat=>mkS 69 0 [(2,pT 0),(3,pT 1),(5,iI p.2)] [(zLm.d a1),(zLm.d b2)]) (fun p=>zDN (zC3 fuel) a1 b2 p.1 p.2=some o33) (fun p=>p.1) (fuel,0) l34 (zAc (by simp)) ?_
  rintro⟨k35,i31⟩ l34
  try dsimp only at l34 ⊢
  cases k35 with
  |zero=>
   rw[zDN] at l34;cases l34
  |succ k36=>
   rw[zDN] at l34
   refine zAA<|cutA 69 0 [(2,pT 0),(3,pT 1),(5,iI i31),(54,.bool (ltI i31 a1.L.length))] [(zLm.d a1),(zLm.d b2)]<|spc l34 rfl (fun g37 l34=>?_) fun g37 l34=>?_
   ·have c38:=ltT g37
    refine zBk 0 5 rfl rfl rfl fun f39=>?_
    rw[zq4] at f39
    refine zAB<|zAJ<|zAA<|zAF ?_
    obtain⟨x40,q41,l34⟩:=bs l34
    obtain⟨x42,q43,l34⟩:=bs l34
    obtain⟨v44,q45,l34⟩:=bs l34
    refine cut 69 0 [(2,pT 0),(3,pT 1),(5,iI i31),(68,.bool (!v44))] [(zLm.d a1),(zLm.d b2)] ?_ ?_
    ·refine zAL [] mixed (n:=69) rfl (by decide) ?_
     simp[q41,q43]
     have r50:=ih_ref09_Same x40 x42 v44 q45
     try simp[q41,q43] at r50
     refine zF9 r50 (by simp) rfl ?_
     simp[q41,q43]
    refine spc l34 rfl (fun g46 l34=>?_) fun g46 l34=>?_
    ·have g47:=notT g46
     refine cutA 69 0 [(4,.bool false)] [(zLm.d a1),(zLm.d b2)]<|zAC<|zAR<|zAE ?_
     replace h:=retL l34 h
     refine zAE<|zAR<|zAE ?_
     cases h
     simp
    have g48:=notF g46
    refine zAB<|zDC<|zAJ ?_
    have q49:Rng .i64 (((i31:Nat):Int)+1):=by simp only[Rng,inR];omega
    try simp at q49
    refine last 69 0 [(2,pT 0),(3,pT 1),(5,iI ((i31+1:Nat):Int))] [(zLm.d a1),(zLm.d b2)] (st (by simp[q49])) fun zz hs=>?_
    exact⟨(k36,i31+1),hs,l34,by simp⟩
   have c51:=ltF g37
   refine zBk 0 5 rfl rfl rfl fun f52=>?_
   rw[zq4] at f52
   refine zAW<|zAH ?_
   rcases o33 with o33|o32
   ·cases l34
   have q53:=Sum.inr.inj (zqa l34)
   replace h:=zHa h
   refine zAH<|zAX<|zAj (t:=mkS 69 0 [] [(zLm.d a1),(zLm.d b2)]) ?_ (zAc (by simp))
   refine cutA 69 0 [(4,.bool true)] [(zLm.d a1),(zLm.d b2)]<|zAC ?_
   cases h
   simp
theorem zIS(fuel:Nat)(a1:(List zLk))(b2:(List zLk))(r:Bool)(h:zC8 fuel a1 b2=some r):Pure Tryz.prog 12 [.sl (a1.map zLk.c),.sl (b2.map zLk.c)] (.bool r):=by
 rw[zC8] at h
 refine zAD Tryz.func12 (by rfl) (by rfl) (by simp) (by simp) (by simp)<|cutA 42 0 [(0,.sl (a1.map zLk.c)),(1,.sl (b2.map zLk.c))] []<|zAA<|cutA 42 0 [(0,.sl (a1.map zLk.c)),(1,.sl (b2.map zLk.c)),(10,.bool (!(eqI a1.length b2.length)))] [] ?_
 rcases sp h with ⟨g3,h⟩|⟨g3,h⟩
 ·have g4:=notT g3
  have c5:=eqF g4
  refine zEj rfl g3<|cutA 42 0 [(4,.bool false)] []<|zAC<|zAE ?_
  cases h
  simp
 have g6:=notF g3
 have c7:=eqT g6
 refine zEt rfl g3<|zAB<|zAJ<|zAA<|cutA 42 0 [(0,.sl (a1.map zLk.c)),(1,.sl (b2.map zLk.c)),(5,iI 0)] []<|zAF ?_
 obtain⟨o10,l11,h⟩:=bs h
 refine zAq (fun p:Nat×Nat=>mkS 42 0 [(0,.sl (a1.map zLk.c)),(1,.sl (b2.map zLk.c)),(5,iI p.2)] []) (fun p=>zBg fuel a1 b2 p.1 p.2=some o10) (fun p=>p.1) (fuel,0) l11 (zAc (by simp)) ?_
 rintro⟨k12,i8⟩ l11
 try dsimp only at l11 ⊢
 cases k12 with
 |zero=>
  rw[zBg] at l11;cases l11
 |succ k13=>
  rw[zBg] at l11
  refine zAA<|cutA 42 0 [(0,.sl (a1.map zLk.c)),(1,.sl (b2.map zLk.c)),(5,iI i8),(14,.bool (ltI i8 a1.length))] []<|spc l11 rfl (fun g14 l11=>?_) fun g14 l11=>?_
  ·have c15:=ltT g14
   refine zC5 0 rfl fun f16=>?_
   rw[zq4] at f16
   refine zAB<|zAJ<|zAA<|zAF ?_
   obtain⟨b26,q27,l11⟩:=bs l11
   refine cut 42 0 [(0,.sl (a1.map zLk.c)),(1,.sl (b2.map zLk.c)),(5,iI i8),(41,.bool b26)] [] ?_ ?_
   ·obtain⟨x17,q18,q27⟩:=bs q27
    obtain⟨x19,q20,q27⟩:=bs q27
    rcases sp q27 with ⟨g21,q27⟩|⟨g21,q27⟩
    ·have g22:=notT g21
     obtain rfl:=oi q27
     refine zAL [] mixed (n:=42) rfl (by decide) ?_
     simp[q18,q20,g21]
    have g23:=notF g21
    obtain⟨v24,q25,q27⟩:=bs q27
    obtain rfl:=oi q27
    refine zAL [] mixed (n:=42) rfl (by decide) ?_
    simp[q18,q20,g21]
    have r30:=ref09_Same_ok fuel x17.Con x19.Con v24 q25
    try simp[q18,q20,g21] at r30
    refine zF9 r30 (by simp) rfl ?_
    simp[q18,q20,g21]
   refine spc l11 rfl (fun g28 l11=>?_) fun g28 l11=>?_
   ·refine cutA 42 0 [(4,.bool false)] []<|zAC<|zAR<|zAE ?_
    replace h:=retL l11 h
    refine zAE<|zAR<|zAE ?_
    cases h
    simp
   refine zAB<|zDC<|zAJ ?_
   have q29:Rng .i64 (((i8:Nat):Int)+1):=by simp only[Rng,inR];omega
   try simp at q29
   refine last 42 0 [(0,.sl (a1.map zLk.c)),(1,.sl (b2.map zLk.c)),(5,iI ((i8+1:Nat):Int))] [] (st (by simp[q29])) fun zz hs=>?_
   exact⟨(k13,i8+1),hs,l11,by simp⟩
  have c31:=ltF g14
  refine zC5 0 rfl fun f32=>?_
  rw[zq4] at f32
  refine zAW<|zAH ?_
  rcases o10 with o10|o9
  ·cases l11
  have q33:=Sum.inr.inj (zqa l11)
  replace h:=zHa h
  refine zAH<|zAX<|zAj (t:=mkS 42 0 [] []) ?_ (zAc (by simp))
  refine cutA 42 0 [(4,.bool true)] []<|zAC ?_
  cases h
  simp
theorem zHR(fuel:Nat)(p1:zLn)(c2:zLm)(r:Bool)(h:zCG fuel p1 c2=some r):Pure Tryz.prog 3 [.agg (zLn.d p1),.agg (zLm.d c2)] (.bool r):=by
 rw[zCG] at h
 refine zAD Tryz.func3 (by rfl) (by rfl) (by simp) (by simp) (by simp)<|cutA 52 0 [(2,pT 0),(3,pT 1)] [(zLn.d p1),(zLm.d c2)]<|zAA ?_
 obtain⟨v3,q4,h⟩:=bs h
 refine cut 52 0 [(2,pT 0),(3,pT 1),(10,.bool (!v3))] [(zLn.d p1),(zLm.d c2)] ?_ ?_
 ·refine st ?_
  simp
  have r49:=zLK v3 q4
  refine cP r49 ?_
  simp
 refine spc h rfl (fun g5 h=>?_) fun g5 h=>?_
 ·refine cutA 52 0 [(4,.bool false)] [(zLn.d p1),(zLm.d c2)]<|zAC<|zAE ?_
  cases h
  simp
 refine zAB<|zAJ<|zAA ?_
 obtain⟨b13,q14,h⟩:=bs h
 refine cut 52 0 [(2,pT 0),(3,pT 1),(16,.bool b13)] [(zLn.d p1),(zLm.d c2)] ?_ ?_
 ·obtain⟨v8,q9,q14⟩:=bs q14
  rcases sp q14 with ⟨g10,q14⟩|⟨g10,q14⟩
  ·obtain rfl:=oi q14
   refine st ?_
   simp[g10]
   have r46:=zJk fuel p1 v8 q9
   refine cP r46 ?_
   simp[g10]
  obtain⟨v11,q12,q14⟩:=bs q14
  obtain rfl:=oi q14
  refine st ?_
  simp[g10]
  have r47:=zJk fuel p1 v8 q9
  refine cP r47 ?_
  simp[g10]
  have r48:=law20_wide_ok fuel c2 v11 q12
  refine cP r48 ?_
  simp[g10]
 refine spc h rfl (fun g15 h=>?_) fun g15 h=>?_
 ·refine cutA 52 0 [(4,.bool true)] [(zLn.d p1),(zLm.d c2)]<|zAC<|zAE ?_
  cases h
  simp
 refine zAB<|zAJ ?_
 obtain⟨v16,q17,h⟩:=bs h
 refine cut 52 0 [(2,pT 0),(3,pT 1),(5,.sl (v16.1.map zLk.c)),(6,iI v16.2)] [(zLn.d p1),(zLm.d c2)] ?_ ?_
 ·refine st ?_
  simp
  have r45:=zKG fuel p1 c2 v16 q17
  refine cP r45 ?_
  simp
 refine zAA ?_
 obtain⟨b25,q26,h⟩:=bs h
 refine cut 52 0 [(2,pT 0),(3,pT 1),(5,.sl (v16.1.map zLk.c)),(6,iI v16.2),(30,.bool b25)] [(zLn.d p1),(zLm.d c2)] ?_ ?_
 ·obtain⟨v18,q19,q26⟩:=bs q26
  rcases sp q26 with ⟨g20,q26⟩|⟨g20,q26⟩
  ·obtain rfl:=oi q26
   refine st ?_
   simp[g20]
   have r42:=zH8 fuel p1 v18 q19
   refine cP r42 ?_
   simp[g20]
  obtain⟨v23,q24,q26⟩:=bs q26
  obtain rfl:=oi q26
  refine st ?_
  simp[g20]
  have r43:=zH8 fuel p1 v18 q19
  refine cP r43 ?_
  simp[g20]
  have r44:=zEm fuel c2 v23 q24
  refine cP r44 ?_
  simp[g20]
 refine spc h rfl (fun g27 h=>?_) fun g27 h=>?_
 ·refine cut 52 0 [(4,.bool ((eqI v16.2 1)&&(eqI v16.1.length 0)))] [(zLn.d p1),(zLm.d c2)] ?_ ?_
  ·rcases tf (eqI v16.2 1) with g28|g28
   ·refine st ?_
    simp[g28]
   refine st ?_
   simp[g28]
  refine zAC<|zAE ?_
  cases h
  simp
 refine zAB<|zAJ ?_
 obtain⟨v31,q32,h⟩:=bs h
 refine cut 52 0 [(5,.sl (v16.1.map zLk.c)),(6,iI v16.2),(7,.sl (v31.1.map zLk.c)),(8,iI v31.2)] [(zLn.d p1),(zLm.d c2)] ?_ ?_
 ·refine st ?_
  simp
  have r41:=ref20_Type_ok fuel p1 c2 v31 q32
  refine cP r41 ?_
  simp
 obtain⟨b38,q39,h⟩:=bs h
 refine cut 52 0 [(4,.bool b38)] [(zLn.d p1),(zLm.d c2)] ?_ ?_
 ·rcases sp q39 with ⟨g33,q39⟩|⟨g33,q39⟩
  ·obtain⟨v35,q36,q39⟩:=bs q39
   obtain rfl:=oi q39
   refine st ?_
   simp[g33]
   have r40:=zIS fuel v16.1 v31.1 v35 q36
   refine cP r40 ?_
   simp[g33]
  obtain rfl:=oi q39
  refine st ?_
  simp[g33]
 refine zAC ?_
 cases h
 simp
theorem zBH{α β:Type}(a:α)(f:α->Option β):(some a).bind f=f a:=Eq.trans (Option.bind_some a f) rfl
theorem zIN{n:Int}(h1: -9223372036854775808<=n)(h2:n<=9223372036854775807):chk .i64 n=some n:=by rw[chk,if_pos];exact⟨h1,h2⟩
theorem zDH{α:Type}{b:Nat}{x y:List α}(h:0<b)(h2:(x.length+y.length)*b<=140737488355328):app b x y=some (x++y):=by rw[app,if_pos ⟨h,h2⟩]
theorem cat1{x y:List UInt8}(h:x.length+y.length<=1152921504606846976):cat x y=some (x++y):=by rw[cat,if_pos h]
theorem idxN{α:Type}(l:List α)(i:Nat):idx l (i:Int)=l[i]? :=by rw[idx,if_pos (by omega)];simp
theorem subD{α:Type}(s:List α)(i:Nat)(h:i<=s.length):subC s (i:Int) (s.length:Int)=some (s.drop i):=by
 rw[subC,if_pos ⟨by omega,by omega,by omega⟩]
 unfold sub
 rw[List.take_of_length_le (by simp)]
 simp
theorem subT{α:Type}(s:List α)(n:Nat)(h:n<=s.length):subC s 0 (n:Int)=some (s.take n):=by
 rw[subC,if_pos ⟨by omega,by omega,by omega⟩]
 simp[sub]
theorem ltN{i n:Nat}(h: ¬i<n): ¬ltI (i:Int) (n:Int)=true:=fun h'=>by have:=ltT h';omega
theorem ltP{i n:Nat}(h:i<n):ltI (i:Int) (n:Int)=true:=zqb (by omega)
theorem zIJ(P:UInt8->Bool)(h:(List.range 256).all (fun n=>P (UInt8.ofNat n))=true)(c:UInt8):P c=true:=by
 have:=zq8 h c.toNat (List.mem_range.2 c.toNat_lt)
 simpa using this
def smB(c:UInt8):Bool:=decide (97<=c.toNat)&&decide (c.toNat<=122)
def caB(c:UInt8):Bool:=decide (65<=c.toNat)&&decide (c.toNat<=90)
def inU(c:UInt8):Bool:=smB c||caB c||(decide (48<=c.toNat)&&decide (c.toNat<=57))||decide (c.toNat=95)
def nm(p:UInt8->Bool):List UInt8->Bool
 |[]=>false
 |c::s=>decide ((c::s).length<=24)&&(p c&&(c::s).all inU)
theorem nm_cons(p:UInt8->Bool)(c:UInt8)(s:List UInt8):nm p (c::s)=(decide ((c::s).length<=24)&&(p c&&(c::s).all inU)):=rfl
theorem of_M(c:UInt8): ∃k,zCV c=some k∧((eqI k 0||eqI k 5)= !inU c)∧(eqI k 2=caB c)∧(eqI k 1=smB c):=by
 have h:=zIJ (fun c=>match zCV c with|some k=>((eqI k 0||eqI k 5)== !inU c)&&((eqI k 2==caB c)&&(eqI k 1==smB c))|none=>false) (by kernel_rfl) c
 cases hk:zCV c with
 |none=>rw[hk] at h;cases h
 |some k=>
  rw[hk] at h
  simp only[zq7,beq_iff_eq] at h
  exact⟨k,rfl,h.1,h.2.1,h.2.2⟩
theorem Inner_M(c:UInt8):zDE c=some (inU c):=by
 have h:=zIJ (fun c=>match zDE c with|some b=>b==inU c|none=>false) (by kernel_rfl) c
 cases hk:zDE c with
 |none=>rw[hk] at h;cases h
 |some k=>rw[hk] at h;rw[beq_iff_eq] at h;rw[h]
theorem Capital_M(c:UInt8):zDQ c=some (caB c):=by
 have h:=zIJ (fun c=>match zDQ c with|some b=>b==caB c|none=>false) (by kernel_rfl) c
 cases hk:zDQ c with
 |none=>rw[hk] at h;cases h
 |some k=>rw[hk] at h;rw[beq_iff_eq] at h;rw[h]
theorem Small_M(c:UInt8):zD4 c=some (smB c):=by
 have h:=zIJ (fun c=>match zD4 c with|some b=>b==smB c|none=>false) (by kernel_rfl) c
 cases hk:zD4 c with
 |none=>rw[hk] at h;cases h
 |some k=>rw[hk] at h;rw[beq_iff_eq] at h;rw[h]
theorem name_loop(l:List UInt8): ∀(n i k:Nat),i+n=l.length->n+1<=k->zCr l k i=some (if (l.drop i).all inU=true then .inr () else .inl false):=by
 intro n
 induction n with
 |zero=>
  intro i k hi hk
  obtain⟨g,rfl⟩: ∃g,k=g+1:=⟨k-1,by omega⟩
  rw[zCr,if_neg (ltN (by omega)),List.drop_eq_nil_of_le (by omega)]
  rfl
 |succ n ih=>
  intro i k hi hk
  obtain⟨g,rfl⟩: ∃g,k=g+1:=⟨k-1,by omega⟩
  have hx:l[i]? =some l[i]:=zq2 (by omega)
  rw[zCr,if_pos (ltP (by omega)),hx,List.drop_eq_getElem_cons (by omega),List.all_cons]
  generalize l[i]=c
  obtain⟨z,z1,z2,_⟩:=of_M c
  simp only[zBH,z1,z2]
  cases inU c
  ·rfl
  ·simp only[Bool.not_true,Bool.false_eq_true,if_false,Bool.true_and]
   exact ih (i+1) g (by omega) (by omega)
theorem name_M(s:List UInt8)(f:Int)(p:UInt8->Bool)(hp: ∀c k,zCV c=some k->eqI k f=p c){fuel:Nat}(hf:30<=fuel):zD7 fuel s f=some (nm p s):=by
 rw[zD7]
 match s with
 |[]=>rfl
 |c::s=>
  rw[show eqS (c::s) []=false from decide_eq_false (by simp)]
  simp only[Bool.false_eq_true,if_false]
  by_cases hl:(c::s).length<=24
  ·rw[show ltI 24 ((c::s).length:Int)=false from decide_eq_false (by omega)]
   obtain⟨z,z1,_⟩:=of_M c
   simp only[Bool.false_eq_true,if_false,List.getElem?_cons_zero,zBH,z1,hp c z z1]
   have hu:nm p (c::s)=(p c&&(c::s).all inU):=by rw[nm_cons,zqb hl,Bool.true_and]
   rw[hu]
   cases p c
   ·rfl
   ·simp only[Bool.not_true,Bool.false_eq_true,if_false,Bool.true_and]
    rw[zKR,if_pos (by omega)]
    simp only[zBH]
    rw[name_loop (c::s) (c::s).length 0 fuel (by omega) (by omega),List.drop_zero]
    cases(c::s).all inU<;>rfl
  ·rw[show ltI 24 ((c::s).length:Int)=true from zqb (by omega)]
   have hu:nm p (c::s)=false:=by rw[nm_cons,decide_eq_false hl,Bool.false_and]
   rw[hu];rfl
theorem name1(s:List UInt8){fuel:Nat}(hf:30<=fuel):zD7 fuel s 1=some (nm smB s):=name_M s 1 smB (fun c k h=>by
 obtain⟨z,z1,_,_,z4⟩:=of_M c
 rw[z1] at h;cases h;exact z4) hf
theorem name2(s:List UInt8){fuel:Nat}(hf:30<=fuel):zD7 fuel s 2=some (nm caB s):=name_M s 2 caB (fun c k h=>by
 obtain⟨z,z1,_,z3,_⟩:=of_M c
 rw[z1] at h;cases h;exact z3) hf
theorem inner_loop(l:List UInt8): ∀(n i k:Nat),i+n=l.length->n+1<=k->zCT l k i=some (if (l.drop i).all inU=true then .inr () else .inl false):=by
 intro n
 induction n with
 |zero=>
  intro i k hi hk
  obtain⟨g,rfl⟩: ∃g,k=g+1:=⟨k-1,by omega⟩
  rw[zCT,if_neg (ltN (by omega)),List.drop_eq_nil_of_le (by omega)]
  rfl
 |succ n ih=>
  intro i k hi hk
  obtain⟨g,rfl⟩: ∃g,k=g+1:=⟨k-1,by omega⟩
  have hx:l[i]? =some l[i]:=zq2 (by omega)
  rw[zCT,if_pos (ltP (by omega)),hx,List.drop_eq_getElem_cons (by omega),List.all_cons]
  generalize l[i]=c
  simp only[zBH,Inner_M]
  cases inU c
  ·rfl
  ·simp only[Bool.not_true,Bool.false_eq_true,if_false,Bool.true_and]
   exact ih (i+1) g (by omega) (by omega)
theorem inner_M(l:List UInt8){fuel:Nat}(hf:l.length+1<=fuel):zFN fuel l=some (l.all inU):=by
 rw[zFN,inner_loop l l.length 0 fuel (by omega) hf,List.drop_zero]
 cases l.all inU<;>rfl
theorem Word_M(s:List UInt8){fuel:Nat}(hf:30<=fuel):zE8 fuel s=some (decide (1<=s.length)&&(decide (s.length<=24)&&s.all inU)):=by
 rw[zE8]
 by_cases h1:1<=s.length
 ·rw[show leI 1 (s.length:Int)=true from zqb (by omega),zqb h1]
  by_cases h2:s.length<=24
  ·rw[show leI (s.length:Int) 24=true from zqb (by omega),zqb h2,inner_M s (by omega)];rfl
  ·rw[show leI (s.length:Int) 24=false from decide_eq_false (by omega),decide_eq_false h2];rfl
 ·rw[show leI 1 (s.length:Int)=false from decide_eq_false (by omega),decide_eq_false h1];rfl
theorem nm_word(p:UInt8->Bool)(c:UInt8)(s:List UInt8):nm p (c::s)=((decide (1<=(c::s).length)&&(decide ((c::s).length<=24)&&(c::s).all inU))&&p c):=by
 rw[nm_cons,zqb (show 1<=(c::s).length by simp)]
 cases decide ((c::s).length<=24)<;>cases p c<;>cases(c::s).all inU<;>rfl
theorem zLf(s:List UInt8){fuel:Nat}(hf:30<=fuel):zDx fuel s=some (nm caB s):=by rw[zDx,name2 s hf];rfl
theorem Upper_M(s:List UInt8){fuel:Nat}(hf:30<=fuel):zDP fuel s=some (nm caB s):=by
 rw[zDP,Word_M s hf]
 match s with
 |[]=>rfl
 |c::s=>
  rw[nm_word]
  simp only[zBH]
  cases(decide (1<=(c::s).length)&&(decide ((c::s).length<=24)&&(c::s).all inU))
  ·rfl
  ·simp only[if_true,List.getElem?_cons_zero,zBH,Capital_M,Bool.true_and]
def KEYS:List (List UInt8):=(zFq).getD []
theorem KEYS_M:zFq=some KEYS:=by kernel_rfl
theorem KEYS_len:KEYS.length=31:=by kernel_rfl
def kw(s:List UInt8):Bool:=KEYS.any (fun w=>decide (w=s))
theorem index_loop(l:List (List UInt8))(v:List UInt8): ∀(n i k:Nat),i+n=l.length->n+1<=k->∃o,zA9 l v k i=some o∧(((l.drop i).any (fun w=>decide (w=v))=true∧∃j:Nat,o=.inl (j:Int))∨((l.drop i).any (fun w=>decide (w=v))=false∧o=.inr ())):=by
 intro n
 induction n with
 |zero=>
  intro i k hi hk
  obtain⟨g,rfl⟩: ∃g,k=g+1:=⟨k-1,by omega⟩
  rw[zA9,if_neg (ltN (by omega)),List.drop_eq_nil_of_le (by omega)]
  exact⟨_,rfl,.inr ⟨rfl,rfl⟩⟩
 |succ n ih=>
  intro i k hi hk
  obtain⟨g,rfl⟩: ∃g,k=g+1:=⟨k-1,by omega⟩
  have hx:l[i]? =some l[i]:=zq2 (by omega)
  rw[zA9,if_pos (ltP (by omega)),hx,List.drop_eq_getElem_cons (by omega),List.any_cons]
  generalize l[i]=c
  simp only[zBH]
  by_cases h:c=v
  ·rw[if_pos (show eqS v c=true from zqb h.symm),zqb h]
   exact⟨_,rfl,.inl ⟨rfl,i,rfl⟩⟩
  ·rw[if_neg (show¬eqS v c=true from fun e=>h (of_decide_eq_true e).symm),decide_eq_false h,Bool.false_or]
   exact ih (i+1) g (by omega) (by omega)
theorem contains_M(l:List (List UInt8))(v:List UInt8){fuel:Nat}(hf:l.length+1<=fuel):zBZ fuel l v=some (l.any (fun w=>decide (w=v))):=by
 obtain⟨o,o1,o2⟩:=index_loop l v l.length 0 fuel (by omega) hf
 rw[zBZ,zDV,o1]
 rw[List.drop_zero] at o2
 rcases o2 with ⟨h,j,rfl⟩|⟨h,rfl⟩
 ·rw[h]
  simp only[zBH,Sum.elim_inl]
  rw[show leI 0 (j:Int)=true from zqb (by omega)]
 ·rw[h];rfl
theorem word_M(s:List UInt8){fuel:Nat}(hf:40<=fuel):zFr fuel s=some (kw s):=by
 have hF: ∀t,zDY t=some KEYS->((zDY t).bind fun v2=>(zBZ fuel v2 s).bind fun v4=>some v4)=some (kw s):=fun t ht=>by
  rw[ht]
  simp only[zBH]
  rw[contains_M KEYS s (by rw[KEYS_len];omega)];rfl
 rw[zFr]
 exact hF _ (by kernel_rfl)
def loS(s:List UInt8):Bool:=nm smB s&& !kw s
theorem IsLower_M(s:List UInt8){fuel:Nat}(hf:40<=fuel):zEM fuel s=some (loS s):=by
 rw[zEM,name1 s (by omega)]
 unfold loS
 simp only[zBH]
 cases nm smB s
 ·rfl
 ·rw[if_pos rfl,word_M s hf];rfl
theorem find_loop(l:List (List UInt8))(v:List UInt8): ∀(n i k:Nat),i+n=l.length->n+1<=k->∃o,zBp l v k i=some o∧(((l.drop i).any (fun w=>decide (w=v))=true∧∃j:Nat,o=.inl (j:Int))∨((l.drop i).any (fun w=>decide (w=v))=false∧o=.inr ())):=by
 intro n
 induction n with
 |zero=>
  intro i k hi hk
  obtain⟨g,rfl⟩: ∃g,k=g+1:=⟨k-1,by omega⟩
  rw[zBp,if_neg (ltN (by omega)),List.drop_eq_nil_of_le (by omega)]
  exact⟨_,rfl,.inr ⟨rfl,rfl⟩⟩
 |succ n ih=>
  intro i k hi hk
  obtain⟨g,rfl⟩: ∃g,k=g+1:=⟨k-1,by omega⟩
  have hx:l[i]? =some l[i]:=zq2 (by omega)
  rw[zBp,if_pos (ltP (by omega)),hx,List.drop_eq_getElem_cons (by omega),List.any_cons]
  generalize l[i]=c
  simp only[zBH]
  by_cases h:c=v
  ·rw[if_pos (show eqS c v=true from zqb h),zqb h]
   exact⟨_,rfl,.inl ⟨rfl,i,rfl⟩⟩
  ·rw[if_neg (show¬eqS c v=true from fun e=>h (of_decide_eq_true e)),decide_eq_false h,Bool.false_or]
   exact ih (i+1) g (by omega) (by omega)
theorem Lower_M(s:List UInt8){fuel:Nat}(hf:40<=fuel):zEK fuel s=some (loS s):=by
 rw[zEK,Word_M s (by omega)]
 unfold loS
 match s with
 |[]=>rfl
 |c::s=>
  rw[nm_word]
  simp only[zBH]
  cases(decide (1<=(c::s).length)&&(decide ((c::s).length<=24)&&(c::s).all inU))
  ·rfl
  ·simp only[if_true,List.getElem?_cons_zero,zBH,Small_M,Bool.true_and]
   cases smB c
   ·rfl
   ·rw[if_pos rfl,KEYS_M]
    simp only[zBH,Bool.true_and]
    obtain⟨o,o1,o2⟩:=find_loop KEYS (c::s) KEYS.length 0 fuel (by omega) (by rw[KEYS_len];omega)
    rw[zCe,o1]
    rw[List.drop_zero] at o2
    rcases o2 with ⟨h,j,rfl⟩|⟨h,rfl⟩
    ·have:kw (c::s)=true:=h
     rw[this]
     simp only[zBH,Sum.elim_inl]
     rw[show ltI (j:Int) 0=false from decide_eq_false (by omega)];rfl
    ·have:kw (c::s)=false:=h
     rw[this];rfl
theorem dec_len(m:Nat)(hm:m<10000000000000000):(Lib.decDigits m).length<=16:=by
 rw[Lib.decDigits_length]
 have h3: ∀j u,u<10^(j+1)->Lib.nDigits u<=j+1:=by
  intro j
  induction j with
  |zero=>intro u hu;rw[Lib.nDigits_small (by simpa using hu)];omega
  |succ j ihj=>
   intro u hu
   by_cases hu2:u<10
   ·rw[Lib.nDigits_small hu2];omega
   ·have:=ihj (u/10) (by have:10^(j+1+1)=10^(j+1)*10:=Nat.pow_succ ..;omega)
    rw[Lib.nDigits_big hu2];omega
 exact h3 15 m (by omega)
theorem itoa_M(n:Nat)(h:n<10000000000000000):zDl (n:Int)=some (Lib.decDigits n):=by
 have:=dec_len n h
 have e:Lib.itoa (n:Int)=Lib.decDigits n:=by unfold Lib.itoa;rw[if_neg (by omega)];rfl
 rw[zDl,e,if_pos (by omega)]
theorem Decimal_M: ∀(k n:Nat),n<10^(k+1)->n<10000000000000000->∀fuel,k+1<=fuel->zCL fuel (n:Int)=some (Lib.decDigits n):=by
 intro k
 induction k with
 |zero=>
  intro n h h2 fuel hf
  obtain⟨g,rfl⟩: ∃g,fuel=g+1:=⟨fuel-1,by omega⟩
  rw[zCL,if_neg (show¬ltI (n:Int) 0=true from fun h'=>by have:=ltT h';omega),if_pos (show ltI (n:Int) 10=true from zqb (by omega)),Lib.decDigits,dif_pos (by omega),show(48+(n:Int)).toNat=48+n by omega]
 |succ k ih=>
  intro n h h2 fuel hf
  obtain⟨g,rfl⟩: ∃g,fuel=g+1:=⟨fuel-1,by omega⟩
  rw[zCL,if_neg (show¬ltI (n:Int) 0=true from fun h'=>by have:=ltT h';omega)]
  by_cases h9:n<10
  ·rw[if_pos (show ltI (n:Int) 10=true from zqb (by omega)),Lib.decDigits,dif_pos h9,show(48+(n:Int)).toNat=48+n by omega]
  ·have e1:Int.tdiv (n:Int) 10=((n/10:Nat):Int):=by rw[Int.tdiv_eq_ediv_of_nonneg (by omega)];omega
   have e2:Int.tmod (n:Int) 10=((n%10:Nat):Int):=by rw[Int.tmod_eq_emod_of_nonneg (by omega)];omega
   have hp:10^(k+1+1)=10^(k+1)*10:=Nat.pow_succ ..
   rw[if_neg (show¬ltI (n:Int) 10=true from fun h'=>h9 (by have:=ltT h';omega)),e1,e2,zIN (by omega) (by omega),zBH,ih (n/10) (by omega) (by omega) g (by omega),zBH,
    show(48+((n%10:Nat):Int)).toNat=48+n%10 by omega,cat1 (by have:=dec_len (n/10) (by omega);simp;omega),zBH]
   conv=>rhs;rw[Lib.decDigits,dif_neg (by omega)]
def nds(p:zLn):Nat:=1+(p.L.map nds).sum
decreasing_by all_goals (cases p;simp only[zLn.mk.sizeOf_spec];have:=List.sizeOf_lt_of_mem ‹_›;simp only at this;omega)
theorem zKH(p:zLn):nds p=1+(p.L.map nds).sum:=by rw[nds]
def wt(p:zLn):Nat:=100+p.S.length+p.L.length+(p.L.map wt).sum
decreasing_by all_goals (cases p;simp only[zLn.mk.sizeOf_spec];have:=List.sizeOf_lt_of_mem ‹_›;simp only at this;omega)
theorem wt_eq(p:zLn):wt p=100+p.S.length+p.L.length+(p.L.map wt).sum:=by rw[wt]
theorem le_sum{α:Type}(f:α->Nat): ∀{l:List α}{x:α},x∈l->f x<=(l.map f).sum
 |y::l,x,h=>by
  rw[List.map_cons,List.sum_cons]
  rcases List.mem_cons.1 h with rfl|h
  ·omega
  ·have:=le_sum f h;omega
theorem sum_drop{α:Type}(f:α->Nat)(l:List α)(i:Nat)(h:i<l.length):((l.drop i).map f).sum=f l[i]+((l.drop (i+1)).map f).sum:=by
 rw[List.drop_eq_getElem_cons h,List.map_cons,List.sum_cons]
theorem sum_le{α:Type}{f g:α->Nat}: ∀{l:List α},(∀x,x∈l->f x<=g x)->(l.map f).sum<=(l.map g).sum
 |[],_=>by simp
 |y::l,h=>by
  simp only[List.map_cons,List.sum_cons]
  have h1:=h y (zq9 ..)
  have h2:=sum_le (l:=l) fun x hx=>h x (zqc _ hx)
  omega
theorem wt_mem{p x:zLn}(h:x∈p.L):wt x+100+p.S.length+p.L.length<=wt p:=by
 rw[wt_eq p]
 have:=le_sum wt h
 omega
theorem nds_mem{p x:zLn}(h:x∈p.L):nds x+1<=nds p:=by
 rw[zKH p]
 have:=le_sum nds h
 omega
theorem wt_own(p:zLn):100+p.S.length+p.L.length<=wt p:=by rw[wt_eq];omega
theorem nds_pos(p:zLn):1<=nds p:=by rw[zKH];omega
theorem zIp{T:zLn->Prop}(h: ∀p,(∀x,x∈p.L->T x)->T p): ∀p,T p:=by
 have key: ∀n p,wt p<=n->T p:=by
  intro n
  induction n with
  |zero=>intro p hp;have:=wt_own p;omega
  |succ n ih=>exact fun p hp=>h p fun x hx=>ih x (by have:=wt_mem hx;omega)
 exact fun p=>key (wt p) p (Nat.le_refl _)
theorem nds_wt(p:zLn):nds p<=wt p:=by
 induction p using zIp with
 |h p ih=>
  rw[zKH,wt_eq]
  have:=sum_le (f:=nds) (g:=wt) ih
  omega
theorem big_loop(p:zLn)(d:Int)(g:Nat)(hd:0<=d)(hd2:d<=50)(ih: ∀x,x∈p.L->∀c:Int,0<=c->c<=200->∃v:Int,zB8 g x (d+1) c=some v∧0<=v∧(v<=200->v=c+nds x)):
 ∀(n i k:Nat)(a:Int),i+n=p.L.length->n+1<=k->0<=a->∃v:Int,zCU (zB8 g) p d k a i=some v∧0<=v∧(v<=200->v=a+((p.L.drop i).map nds).sum):=by
 intro n
 induction n with
 |zero=>
  intro i k a hi hk ha
  obtain⟨k,rfl⟩: ∃q,k=q+1:=⟨k-1,by omega⟩
  rw[zCU,show ltI (i:Int) (p.L.length:Int)=false from decide_eq_false (by omega),List.drop_eq_nil_of_le (by omega)]
  exact⟨a,rfl,ha,fun _=>by simp⟩
 |succ n ihn=>
  intro i k a hi hk ha
  obtain⟨k,rfl⟩: ∃q,k=q+1:=⟨k-1,by omega⟩
  have hx:p.L[i]? =some p.L[i]:=zq2 (by omega)
  rw[zCU,show ltI (i:Int) (p.L.length:Int)=true from zqb (by omega),sum_drop nds p.L i (by omega)]
  by_cases h2:a<=200
  ·rw[show leI a 200=true from zqb h2,Bool.and_self,if_pos rfl,hx,zBH,zIN (by omega) (by omega),zBH]
   obtain⟨v,h3,h4,h5⟩:=ih p.L[i] (List.getElem_mem _) a ha h2
   rw[h3,zBH]
   obtain⟨u,h6,h7,h8⟩:=ihn (i+1) k v (by omega) (by omega) h4
   refine⟨u,h6,h7,fun hu=>?_⟩
   have h9:=h8 hu
   have:v<=200:=by omega
   rw[h9,h5 this];omega
  ·rw[show leI a 200=false from decide_eq_false h2]
   exact⟨a,rfl,ha,fun h=>absurd h h2⟩
theorem big_M(p:zLn): ∀(fuel:Nat)(d c:Int),wt p<=fuel->0<=d->d<=51->0<=c->c<=200->∃v:Int,zB8 fuel p d c=some v∧0<=v∧(v<=200->v=c+nds p):=by
 induction p using zIp with
 |h p ih=>
  intro fuel d c hf hd hd2 hc hc2
  have hw:=wt_own p
  obtain⟨g,rfl⟩: ∃g,fuel=g+1:=⟨fuel-1,by omega⟩
  rw[zB8,zIN (by omega) (by omega),zBH]
  split
  ·obtain⟨k,rfl⟩: ∃k,g=k+1:=⟨g-1,by omega⟩
   rw[zDa,show leI (1000:Int) 200=false from rfl,Bool.and_false]
   exact⟨1000,rfl,by omega,fun h=>by omega⟩
  ·rename_i hn
   have hd3:d<=50:=by
    rw[Bool.or_eq_true] at hn
    have: ¬ltI 50 d=true:=fun h=>hn (.inl h)
    have:=ltF (by simpa using this:ltI 50 d=false)
    omega
   obtain⟨v,h1,h2,h3⟩:=big_loop p d g hd hd3 (fun x hx c hc hc2=>ih x hx g (d+1) c (by have:=wt_mem hx;omega) (by omega) (by omega) hc hc2) p.L.length 0 g (c+1) (by omega) (by omega) (by omega)
   rw[h1,zBH]
   refine⟨v,rfl,h2,fun hv=>?_⟩
   rw[h3 hv,zKH,List.drop_zero];omega
theorem Big_M(p:zLn){fuel:Nat}(hf:wt p<=fuel): ∃b,zGM fuel p=some b∧(b=false->nds p<=200):=by
 obtain⟨v,h1,h2,h3⟩:=big_M p fuel 1 0 hf (by omega) (by omega) (by omega) (by omega)
 rw[zGM,h1,zBH]
 refine⟨_,rfl,fun h=>?_⟩
 have:=ltF h
 have:=h3 this
 omega
def nodeB(p:zLn):Bool:=
 if p.Op=1 then decide (p.L.length=0)&&(decide (p.N=0)&&decide (p.S=[]))
 else if p.Op=2 then decide (p.L.length=0)&&(decide (p.N=0)&&loS p.S)
 else if p.Op=3 then decide (p.L.length=0)&&(decide (p.S=[])&&(decide (-4503599627370496<=p.N)&&decide (p.N<=4503599627370496)))
 else if p.Op=4 then decide (p.L.length<=1)&&(decide (p.N=0)&&nm caB p.S)
 else if p.Op=5 then !decide (p.L.length=1)&&(decide (p.L.length<=9)&&(decide (p.N=0)&&decide (p.S=[])))
 else false
theorem lenI(l:List zLn)(k:Nat):eqI (l.length:Int) (k:Int)=decide (l.length=k):=by
 unfold eqI
 by_cases h:l.length=k
 ·rw[zqb h,zqb (by omega)]
 ·rw[decide_eq_false h,decide_eq_false (by omega)]
theorem lenL(l:List zLn)(k:Nat):leI (l.length:Int) (k:Int)=decide (l.length<=k):=by
 unfold leI
 by_cases h:l.length<=k
 ·rw[zqb h,zqb (by omega)]
 ·rw[decide_eq_false h,decide_eq_false (by omega)]
theorem node_M(p:zLn){fuel:Nat}(hf:40<=fuel):zEs fuel p=some (nodeB p):=by
 have e0:=lenI p.L 0
 have e1:=lenI p.L 1
 have l1:=lenL p.L 1
 have l9:=lenL p.L 9
 rw[zEs]
 unfold nodeB
 rw[IsLower_M p.S hf,zLf p.S (by omega)]
 rw[show eqI (p.L.length:Int) 0=decide (p.L.length=0) from e0,show eqI (p.L.length:Int) 1=decide (p.L.length=1) from e1,show leI (p.L.length:Int) 1=decide (p.L.length<=1) from l1,show leI (p.L.length:Int) 9=decide (p.L.length<=9) from l9]
 by_cases h1:p.Op=1
 ·rw[if_pos (show eqI p.Op 1=true from zqb h1),if_pos h1];rfl
 rw[if_neg (show¬eqI p.Op 1=true from fun h=>h1 (eqT h)),if_neg h1]
 by_cases h2:p.Op=2
 ·rw[if_pos (show eqI p.Op 2=true from zqb h2),if_pos h2]
  by_cases hl:p.L.length=0
  ·by_cases hN:p.N=0
   ·simp only[zqb hl,if_true,show eqI p.N 0=true from zqb hN,zBH,zqb hN,Bool.true_and]
   ·simp only[zqb hl,if_true,show eqI p.N 0=false from decide_eq_false hN,zBH,decide_eq_false hN,Bool.true_and,Bool.false_and,Bool.false_eq_true,if_false]
  ·simp only[decide_eq_false hl,zBH,Bool.false_and,Bool.false_eq_true,if_false]
 rw[if_neg (show¬eqI p.Op 2=true from fun h=>h2 (eqT h)),if_neg h2]
 by_cases h3:p.Op=3
 ·rw[if_pos (show eqI p.Op 3=true from zqb h3),if_pos h3];rfl
 rw[if_neg (show¬eqI p.Op 3=true from fun h=>h3 (eqT h)),if_neg h3]
 by_cases h4:p.Op=4
 ·rw[if_pos (show eqI p.Op 4=true from zqb h4),if_pos h4]
  by_cases hl:p.L.length<=1
  ·by_cases hN:p.N=0
   ·simp only[zqb hl,if_true,show eqI p.N 0=true from zqb hN,zBH,zqb hN,Bool.true_and]
   ·simp only[zqb hl,if_true,show eqI p.N 0=false from decide_eq_false hN,zBH,decide_eq_false hN,Bool.true_and,Bool.false_and,Bool.false_eq_true,if_false]
  ·simp only[decide_eq_false hl,zBH,Bool.false_and,Bool.false_eq_true,if_false]
 rw[if_neg (show¬eqI p.Op 4=true from fun h=>h4 (eqT h)),if_neg h4]
 by_cases h5:p.Op=5
 ·rw[if_pos (show eqI p.Op 5=true from zqb h5),if_pos h5];rfl
 rw[if_neg (show¬eqI p.Op 5=true from fun h=>h5 (eqT h)),if_neg h5]
theorem rnode_M(p:zLn){fuel:Nat}(hf:40<=fuel):zFl fuel p=some (nodeB p):=by
 have e0:=lenI p.L 0
 have e1:=lenI p.L 1
 have l1:=lenL p.L 1
 have l9:=lenL p.L 9
 rw[zFl]
 unfold nodeB
 rw[Lower_M p.S hf,Upper_M p.S (by omega)]
 rw[show eqI (p.L.length:Int) 0=decide (p.L.length=0) from e0,show eqI (p.L.length:Int) 1=decide (p.L.length=1) from e1,show leI (p.L.length:Int) 1=decide (p.L.length<=1) from l1,show leI (p.L.length:Int) 9=decide (p.L.length<=9) from l9]
 have hnil:nm caB []=false:=rfl
 have hnil2:loS []=false:=rfl
 by_cases h1:p.Op=1
 ·by_cases hN:p.N=0<;>by_cases hS:p.S=[]<;>simp[eqI,eqS,leI,h1,hN,hS]
 by_cases h2:p.Op=2
 ·by_cases hN:p.N=0<;>cases loS p.S<;>simp[eqI,eqS,leI,h1,h2,hN]
 by_cases h3:p.Op=3
 ·by_cases hS:p.S=[]
  ·by_cases hN:p.N=0<;>by_cases q1: -4503599627370496<=p.N<;>by_cases q2:p.N<=4503599627370496<;>simp[eqI,eqS,leI,h1,h2,h3,hN,hS,q1,q2]
  ·by_cases hN:p.N=0<;>simp[eqI,eqS,leI,h1,h2,h3,hN,hS]
 by_cases h4:p.Op=4
 ·by_cases hN:p.N=0<;>cases nm caB p.S<;>simp[eqI,eqS,leI,h1,h2,h3,h4,hN]
 by_cases h5:p.Op=5
 ·by_cases hN:p.N=0<;>by_cases hS:p.S=[]<;>simp[eqI,eqS,leI,h1,h2,h3,h4,h5,hN,hS]
 ·by_cases hN:p.N=0<;>by_cases hS:p.S=[]<;>simp[eqI,eqS,leI,h1,h2,h3,h4,h5,hN,hS]
def nok(p:zLn):Bool:=nodeB p&&(p.L.map nok).all id
decreasing_by all_goals (cases p;simp only[zLn.mk.sizeOf_spec];have:=List.sizeOf_lt_of_mem ‹_›;simp only at this;omega)
theorem nok_eq(p:zLn):nok p=(nodeB p&&(p.L.map nok).all id):=by rw[nok]
theorem nok_iff{p:zLn}:nok p=true↔nodeB p=true∧∀x,x∈p.L->nok x=true:=by
 rw[nok_eq,zq7,List.all_eq_true]
 exact and_congr_right fun _=>⟨fun h x hx=>h _ (List.mem_map.2 ⟨x,hx,rfl⟩),fun h y hy=>by obtain⟨x,hx,rfl⟩:=List.mem_map.1 hy;exact h x hx⟩
theorem measure_loop(p:zLn)(left d:Int)(g:Nat)(hp:(nds p:Int)<=left)(hl:left<=20000)(hd0:0<=d)(hd:d+nds p<=401)
 (ih: ∀x,x∈p.L->∀(l e:Int),(nds x:Int)<=l->l<=20000->0<=e->e+nds x<=401->zBU g x l e=some (if nok x=true then ((nds x:Int),true) else (0,false))):
 ∀(n i k m:Nat),i+n=p.L.length->n+1<=k->m+((p.L.drop i).map nds).sum=nds p->
  zBP (zBU g) p left d k (m:Int) i=some (if ((p.L.drop i).map nok).all id=true then .inr ((nds p:Nat):Int) else .inl (0,false)):=by
 intro n
 induction n with
 |zero=>
  intro i k m hi hk hm
  obtain⟨k,rfl⟩: ∃q,k=q+1:=⟨k-1,by omega⟩
  rw[List.drop_eq_nil_of_le (by omega)] at hm ⊢
  rw[zBP,if_neg (ltN (by omega))]
  simp only[List.map_nil,List.sum_nil,Nat.add_zero] at hm
  rw[hm];rfl
 |succ n ihn=>
  intro i k m hi hk hm
  obtain⟨k,rfl⟩: ∃q,k=q+1:=⟨k-1,by omega⟩
  have hx:p.L[i]? =some p.L[i]:=zq2 (by omega)
  rw[sum_drop nds p.L i (by omega)] at hm
  have hmem:p.L[i]∈p.L:=List.getElem_mem _
  have h1:=nds_mem hmem
  rw[zBP,if_pos (ltP (by omega)),hx,zBH,zIN (by omega) (by omega),zBH,zIN (by omega) (by omega),zBH,ih p.L[i] hmem _ _ (by omega) (by omega) (by omega) (by omega),zBH]
  rw[List.drop_eq_getElem_cons (by omega),List.map_cons,List.all_cons]
  cases hn:nok p.L[i] with
  |false=>rfl
  |true=>
   simp only[if_true,Bool.not_true,Bool.false_eq_true,if_false,id,Bool.true_and]
   rw[zIN (by omega) (by omega),zBH]
   have:=ihn (i+1) k (m+nds p.L[i]) (by omega) (by omega) (by omega)
   rw[show(m:Int)+(nds p.L[i]:Int)=((m+nds p.L[i]:Nat):Int) by omega,this]
theorem measure_M(p:zLn): ∀(fuel:Nat)(left d:Int),wt p<=fuel->(nds p:Int)<=left->left<=20000->0<=d->d+nds p<=401->zBU fuel p left d=some (if nok p=true then ((nds p:Int),true) else (0,false)):=by
 induction p using zIp with
 |h p ih=>
  intro fuel left d hf h1 h2 h3 h4
  have hw:=wt_own p
  have hp:=nds_pos p
  obtain⟨g,rfl⟩: ∃g,fuel=g+1:=⟨fuel-1,by omega⟩
  rw[zBU,if_neg (show¬leI left 0=true from fun h=>by have:=leT h;omega),if_neg (show¬ltI 400 d=true from fun h=>by have:=ltT h;omega),node_M p (by omega),zBH,zBH,nok_eq]
  cases hn:nodeB p with
  |false=>rfl
  |true=>
   have:=measure_loop p left d g h1 h2 h3 h4 (fun x hx l e q1 q2 q3 q4=>ih x hx g l e (by have:=wt_mem hx;omega) q1 q2 q3 q4) p.L.length 0 g 1 (by omega) (by omega) (by rw[List.drop_zero,zKH])
   rw[List.drop_zero] at this
   simp only[Bool.not_true,Bool.false_eq_true,if_false,Bool.true_and]
   rw[show(1:Int)=((1:Nat):Int) from rfl,this,zBH]
   cases(p.L.map nok).all id<;>rfl
theorem count_loop(p:zLn)(d:Int)(g:Nat)(hd:(nds p:Int)<=d)(hd2:d<=400)
 (ih: ∀x,x∈p.L->∀(l e:Int),(nds x:Int)<=l->l<=20000->(nds x:Int)<=e->e<=400->zCn g x l e=some (if nok x=true then l-nds x else -1)):
 ∀(n i k:Nat)(l:Int),i+n=p.L.length->n+1<=k->(((p.L.drop i).map nds).sum:Int)<=l->l<=20000->
  zBx (zCn g) p d k l i=some (if ((p.L.drop i).map nok).all id=true then l-((p.L.drop i).map nds).sum else -1):=by
 intro n
 induction n with
 |zero=>
  intro i k l hi hk hl hl2
  obtain⟨k,rfl⟩: ∃q,k=q+1:=⟨k-1,by omega⟩
  rw[List.drop_eq_nil_of_le (by omega)]
  rw[zBx,show ltI (i:Int) (p.L.length:Int)=false from decide_eq_false (by omega)]
  simp
 |succ n ihn=>
  intro i k l hi hk hl hl2
  obtain⟨k,rfl⟩: ∃q,k=q+1:=⟨k-1,by omega⟩
  have hx:p.L[i]? =some p.L[i]:=zq2 (by omega)
  rw[sum_drop nds p.L i (by omega)] at hl ⊢
  have hmem:p.L[i]∈p.L:=List.getElem_mem _
  have h1:=nds_mem hmem
  rw[zBx,show ltI (i:Int) (p.L.length:Int)=true from zqb (by omega),show leI 0 l=true from zqb (by omega),Bool.and_self,if_pos rfl,hx,zBH,zIN (by omega) (by omega),zBH,
   ih p.L[i] hmem _ _ (by omega) hl2 (by omega) (by omega),zBH]
  rw[List.drop_eq_getElem_cons (by omega),List.map_cons,List.all_cons]
  cases hn:nok p.L[i] with
  |false=>
   simp only[Bool.false_eq_true,if_false,id,Bool.false_and]
   obtain⟨k,rfl⟩: ∃q,k=q+1:=⟨k-1,by omega⟩
   rw[zBx,show leI 0 (-1)=false from rfl,Bool.and_false]
   rfl
  |true=>
   simp only[if_true,id,Bool.true_and]
   rw[ihn (i+1) k _ (by omega) (by omega) (by omega) (by omega)]
   congr 1
   split
   ·omega
   ·rfl
theorem count_M(p:zLn): ∀(fuel:Nat)(l e:Int),wt p<=fuel->(nds p:Int)<=l->l<=20000->(nds p:Int)<=e->e<=400->zCn fuel p l e=some (if nok p=true then l-nds p else -1):=by
 induction p using zIp with
 |h p ih=>
  intro fuel l e hf h1 h2 h3 h4
  have hw:=wt_own p
  have hp:=nds_pos p
  obtain⟨g,rfl⟩: ∃g,fuel=g+1:=⟨fuel-1,by omega⟩
  rw[zCn,if_neg (show¬ltI l 1=true from fun h=>by have:=ltT h;omega),if_neg (show¬ltI e 1=true from fun h=>by have:=ltT h;omega),rnode_M p (by omega),zBH,zBH,nok_eq]
  cases hn:nodeB p with
  |false=>rfl
  |true=>
   have hs:nds p=1+(p.L.map nds).sum:=zKH p
   have:=count_loop p e g h3 h4 (fun x hx l e q1 q2 q3 q4=>ih x hx g l e (by have:=wt_mem hx;omega) q1 q2 q3 q4) p.L.length 0 g (l-1) (by omega) (by omega) (by rw[List.drop_zero];omega) (by omega)
   rw[List.drop_zero] at this
   simp only[Bool.not_true,Bool.false_eq_true,if_false,Bool.true_and]
   rw[zIN (by omega) (by omega),zBH,this,zBH]
   congr 1
   split
   ·omega
   ·rfl
def vrs(p:zLn):List (List UInt8):=(if p.Op=2 then [p.S] else [])++(p.L.map vrs).flatten
decreasing_by all_goals (cases p;simp only[zLn.mk.sizeOf_spec];have:=List.sizeOf_lt_of_mem ‹_›;simp only at this;omega)
theorem vrs_eq(p:zLn):vrs p=(if p.Op=2 then [p.S] else [])++(p.L.map vrs).flatten:=by rw[vrs]
theorem flat_len{α β:Type}(f:α->List β): ∀l:List α,((l.map f).flatten).length=(l.map fun x=>(f x).length).sum
 |[]=>rfl
 |x::l=>by simp only[List.map_cons,List.flatten_cons,List.length_append,List.sum_cons,flat_len f l]
theorem vrs_len(p:zLn):(vrs p).length<=nds p:=by
 induction p using zIp with
 |h p ih=>
  rw[vrs_eq,zKH,List.length_append,flat_len]
  have:=sum_le (f:=fun x=>(vrs x).length) (g:=nds) ih
  split<;>simp<;>omega
theorem zI7{β:Type}(f:zLn->List β)(l:List zLn)(i:Nat)(h:i<l.length):((l.drop i).map f).flatten=f l[i]++((l.drop (i+1)).map f).flatten:=by
 rw[List.drop_eq_getElem_cons h,List.map_cons,List.flatten_cons]
theorem nok_var{p:zLn}(h:nok p=true)(h2:p.Op=2):p.L=[]:=by
 have:=(nok_iff.1 h).1
 unfold nodeB at this
 rw[if_neg (by omega),if_pos h2,zq7] at this
 exact List.eq_nil_of_length_eq_zero (of_decide_eq_true this.1)
def stp(q:Bool×List (List UInt8×Bool))(s:List UInt8):Bool×List (List UInt8×Bool):=(q.1&& !(mgetD q.2 s false),mput q.2 s true)
theorem vv_loop1(p:zLn)(g:Nat)(ih: ∀x,x∈p.L->∀(q:Bool×List (List UInt8×Bool)),zAO g x q.1 q.2=some ((vrs x).foldl stp q)):
 ∀(n i k:Nat)(q:Bool×List (List UInt8×Bool)),i+n=p.L.length->n+1<=k->zAe (zAO g) p k q.1 q.2 i=some (((p.L.drop i).map vrs).flatten.foldl stp q):=by
 intro n
 induction n with
 |zero=>
  intro i k q hi hk
  obtain⟨k,rfl⟩: ∃q,k=q+1:=⟨k-1,by omega⟩
  rw[List.drop_eq_nil_of_le (by omega),zAe,if_neg (ltN (by omega))];rfl
 |succ n ihn=>
  intro i k q hi hk
  obtain⟨k,rfl⟩: ∃q,k=q+1:=⟨k-1,by omega⟩
  have hx:p.L[i]? =some p.L[i]:=zq2 (by omega)
  rw[zAe,if_pos (ltP (by omega)),hx,zBH,ih _ (List.getElem_mem _) q,zBH,ihn (i+1) k _ (by omega) (by omega),zI7 vrs p.L i (by omega),List.foldl_append]
theorem vv_loop2(p:zLn)(g:Nat)(ih: ∀x,x∈p.L->∀(q:Bool×List (List UInt8×Bool)),zAO g x q.1 q.2=some ((vrs x).foldl stp q)):
 ∀(n i k:Nat)(q:Bool×List (List UInt8×Bool)),i+n=p.L.length->n+1<=k->zAi (zAO g) p k q.1 q.2 i=some (((p.L.drop i).map vrs).flatten.foldl stp q):=by
 intro n
 induction n with
 |zero=>
  intro i k q hi hk
  obtain⟨k,rfl⟩: ∃q,k=q+1:=⟨k-1,by omega⟩
  rw[List.drop_eq_nil_of_le (by omega),zAi,if_neg (ltN (by omega))];rfl
 |succ n ihn=>
  intro i k q hi hk
  obtain⟨k,rfl⟩: ∃q,k=q+1:=⟨k-1,by omega⟩
  have hx:p.L[i]? =some p.L[i]:=zq2 (by omega)
  rw[zAi,if_pos (ltP (by omega)),hx,zBH,ih _ (List.getElem_mem _) q,zBH,ihn (i+1) k _ (by omega) (by omega),zI7 vrs p.L i (by omega),List.foldl_append]
theorem vv_M(p:zLn): ∀(fuel:Nat)(q:Bool×List (List UInt8×Bool)),wt p<=fuel->zAO fuel p q.1 q.2=some ((vrs p).foldl stp q):=by
 induction p using zIp with
 |h p ih=>
  intro fuel q hf
  have hw:=wt_own p
  obtain⟨g,rfl⟩: ∃g,fuel=g+1:=⟨fuel-1,by omega⟩
  have ih': ∀x,x∈p.L->∀(q:Bool×List (List UInt8×Bool)),zAO g x q.1 q.2=some ((vrs x).foldl stp q):=fun x hx q=>ih x hx g q (by have:=wt_mem hx;omega)
  rw[zAO,vrs_eq]
  by_cases h2:p.Op=2
  ·have:=vv_loop1 p g ih' p.L.length 0 g (stp q p.S) (by omega) (by omega)
   rw[List.drop_zero] at this
   rw[if_pos (show eqI p.Op 2=true from zqb h2),if_pos h2,zEO,zBH]
   show(zAe (zAO g) p g (stp q p.S).1 (stp q p.S).2 0).bind _=_
   rw[this,zBH];rfl
  ·have:=vv_loop2 p g ih' p.L.length 0 g q (by omega) (by omega)
   rw[List.drop_zero] at this
   rw[if_neg (show¬eqI p.Op 2=true from fun h=>h2 (eqT h)),if_neg h2,this,zBH];rfl
theorem mget_put(m:List (List UInt8×Bool))(k k':List UInt8):mgetD (mput m k true) k' false=if k'=k then true else mgetD m k' false:=by
 induction m with
 |nil=>
  simp only[mput,mgetD]
  by_cases h:k'=k<;>simp[h]
 |cons q m ih=>
  simp only[mput]
  by_cases h1:k=q.1
  ·rw[if_pos (by simpa using h1)]
   simp only[mgetD]
   by_cases h2:k'=q.1
   ·rw[if_pos (by simpa using h2),if_pos (by rw[h2,h1])]
   ·rw[if_neg (by simpa using h2),if_neg (by rw[h1];exact h2),if_neg (by simpa using h2)]
  ·rw[if_neg (by simpa using h1)]
   simp only[mgetD]
   by_cases h2:k'=q.1
   ·rw[if_pos (by simpa using h2),if_neg (by rw[h2];exact fun e=>h1 e.symm),if_pos (by simpa using h2)]
   ·have hb: ¬(k'==q.1)=true:=by simpa using h2
    simp only[if_neg hb]
    exact ih
theorem fold_iff: ∀(l:List (List UInt8))(c:Bool)(m:List (List UInt8×Bool))(K:List (List UInt8)),(∀k,mgetD m k false=decide (k∈K))->((l.foldl stp (c,m)).1=true↔c=true∧l.Nodup∧∀s,s∈l->s∉K)
 |[],c,m,K,h=>by simp
 |s::l,c,m,K,h=>by
  have hK: ∀k,mgetD (mput m s true) k false=decide (k∈s::K):=fun k=>by
   rw[mget_put,h k]
   by_cases hk:k=s
   ·rw[if_pos hk,zqb (by rw[hk];exact zq9 ..)]
   ·rw[if_neg hk]
    by_cases hm:k∈K
    ·rw[zqb hm,zqb (zqc _ hm)]
    ·rw[decide_eq_false hm,decide_eq_false (fun e=>(List.mem_cons.1 e).elim hk hm)]
  have ih:=fold_iff l (c&& !(mgetD m s false)) (mput m s true) (s::K) hK
  rw[List.foldl_cons]
  show(l.foldl stp (c&& !(mgetD m s false),mput m s true)).1=true↔_
  rw[ih,h s,List.nodup_cons]
  simp only[zq7,Bool.not_eq_true',decide_eq_false_iff_not,List.mem_cons,not_or]
  constructor
  ·rintro⟨⟨h1,h2⟩,h3,h4⟩
   refine⟨h1,⟨fun hm=>(h4 s hm).1 rfl,h3⟩,fun t ht=>?_⟩
   rcases ht with rfl|ht
   ·exact h2
   ·exact(h4 t ht).2
  ·rintro⟨h1,⟨h2,h3⟩,h4⟩
   exact⟨⟨h1,h4 s (.inl rfl)⟩,h3,fun t ht=>⟨fun e=>h2 (by rw[<-e];exact ht),h4 t (.inr ht)⟩⟩
def vld(p:zLn):Bool:=nok p&&decide (vrs p).Nodup
theorem Valid_M(p:zLn){fuel:Nat}(hf:wt p<=fuel)(hs:nds p<=200):zEL fuel p=some (vld p):=by
 rw[zEL,measure_M p fuel 20000 1 hf (by omega) (by omega) (by omega) (by omega),zBH]
 unfold vld
 cases hn:nok p with
 |false=>rfl
 |true=>
  simp only[if_true,Bool.not_true,Bool.false_eq_true,if_false,Bool.true_and]
  have h1:=vv_M p fuel (true,[]) hf
  have h2:=fold_iff (vrs p) true [] [] (fun k=>by simp[mgetD])
  simp only at h1
  rw[h1,zBH]
  congr 1
  rw[Bool.eq_iff_iff,h2,decide_eq_true_iff]
  exact⟨fun h=>h.2.1,fun h=>⟨rfl,h,fun _ _ e=>by cases e⟩⟩
theorem rv_loop(p:zLn)(g:Nat)(ih: ∀x,x∈p.L->∀c:List (List UInt8),c.length+(vrs x).length<=1000->zCx g c x=some (c++vrs x)):
 ∀(n i k:Nat)(c:List (List UInt8)),i+n=p.L.length->n+1<=k->c.length+(((p.L.drop i).map vrs).flatten).length<=1000->zCm (zCx g) p k c i=some (c++((p.L.drop i).map vrs).flatten):=by
 intro n
 induction n with
 |zero=>
  intro i k c hi hk hc
  obtain⟨k,rfl⟩: ∃q,k=q+1:=⟨k-1,by omega⟩
  rw[List.drop_eq_nil_of_le (by omega),zCm,if_neg (ltN (by omega))];simp
 |succ n ihn=>
  intro i k c hi hk hc
  obtain⟨k,rfl⟩: ∃q,k=q+1:=⟨k-1,by omega⟩
  have hx:p.L[i]? =some p.L[i]:=zq2 (by omega)
  rw[zI7 vrs p.L i (by omega),List.length_append] at hc
  rw[zCm,if_pos (ltP (by omega)),hx,zBH,ih _ (List.getElem_mem _) c (by omega),zBH,ihn (i+1) k _ (by omega) (by omega) (by rw[List.length_append];omega),zI7 vrs p.L i (by omega),List.append_assoc]
theorem rv_M(p:zLn): ∀(fuel:Nat)(c:List (List UInt8)),wt p<=fuel->nok p=true->c.length+(vrs p).length<=1000->zCx fuel c p=some (c++vrs p):=by
 induction p using zIp with
 |h p ih=>
  intro fuel c hf hn hc
  have hw:=wt_own p
  obtain⟨g,rfl⟩: ∃g,fuel=g+1:=⟨fuel-1,by omega⟩
  have ih': ∀x,x∈p.L->∀c:List (List UInt8),c.length+(vrs x).length<=1000->zCx g c x=some (c++vrs x):=fun x hx c h=>ih x hx g c (by have:=wt_mem hx;omega) ((nok_iff.1 hn).2 x hx) h
  rw[vrs_eq] at hc ⊢
  rw[zCx]
  by_cases h2:p.Op=2
  ·have hl:=nok_var hn h2
   rw[if_pos h2,hl] at hc ⊢
   simp only[List.map_nil,List.flatten_nil,List.append_nil,List.length_cons,List.length_nil] at hc ⊢
   rw[if_pos (show eqI p.Op 2=true from zqb h2),zDH (by decide) (by simp;omega),zBH,List.nil_append,zDH (by decide) (by simp;omega),zBH]
  ·rw[if_neg h2] at hc ⊢
   have:=rv_loop p g ih' p.L.length 0 g c (by omega) (by omega) (by rw[List.drop_zero];simpa using hc)
   rw[List.drop_zero] at this
   rw[if_neg (show¬eqI p.Op 2=true from fun h=>h2 (eqT h)),this,zBH];rfl
theorem RVars_M(p:zLn){fuel:Nat}(hf:wt p<=fuel)(hs:nds p<=200)(hn:nok p=true):zFm fuel p=some (vrs p):=by
 have:=vrs_len p
 rw[zFm,rv_M p fuel [] hf hn (by simp;omega),zBH];rfl
theorem dup_loop(v:List (List UInt8))(fuel:Nat)(hf:v.length+1<=fuel): ∀(n i k:Nat),i+n=v.length->n+1<=k->∃o,zCQ fuel v k i=some o∧
 ((o=.inr ()∧∀(j:Nat)(h:j<v.length),i<=j->v[j]∉v.take j)∨(o=.inl false∧∃(j:Nat) (h:j<v.length),v[j]∈v.take j)):=by
 intro n
 induction n with
 |zero=>
  intro i k hi hk
  obtain⟨k,rfl⟩: ∃q,k=q+1:=⟨k-1,by omega⟩
  rw[zCQ,if_neg (ltN (by omega))]
  exact⟨_,rfl,.inl ⟨rfl,fun j h hj=>by omega⟩⟩
 |succ n ihn=>
  intro i k hi hk
  obtain⟨k,rfl⟩: ∃q,k=q+1:=⟨k-1,by omega⟩
  have hx:v[i]? =some v[i]:=zq2 (by omega)
  obtain⟨o,o1,o2⟩:=find_loop (v.take i) v[i] (v.take i).length 0 fuel (by omega) (by simp;omega)
  rw[zCQ,if_pos (ltP (by omega)),subT v i (by omega),zBH,hx,zBH,zCe,o1]
  rw[List.drop_zero] at o2
  rcases o2 with ⟨h,j,rfl⟩|⟨h,rfl⟩
  ·simp only[zBH,Sum.elim_inl]
   rw[if_pos (show leI 0 (j:Int)=true from zqb (by omega))]
   rw[List.any_eq_true] at h
   obtain⟨w,hw,he⟩:=h
   exact⟨_,rfl,.inr ⟨rfl,i,by omega,by rw[<-of_decide_eq_true he];exact hw⟩⟩
  ·simp only[zBH,Sum.elim_inr]
   rw[if_neg (show¬leI 0 (-1)=true by decide)]
   obtain⟨o,o3,o4⟩:=ihn (i+1) k (by omega) (by omega)
   refine⟨o,o3,?_⟩
   rcases o4 with ⟨q1,q2⟩|⟨q1,q2⟩
   ·refine .inl ⟨q1,fun j hj hij=>?_⟩
    by_cases e:j=i
    ·subst e
     intro hm
     have:(v.take j).any (fun w=>decide (w=v[j]))=true:=List.any_eq_true.2 ⟨_,hm,zqb rfl⟩
     rw[h] at this;cases this
    ·exact q2 j hj (by omega)
   ·exact .inr ⟨q1,q2⟩
theorem nodup_take(v:List (List UInt8)):v.Nodup↔∀(j:Nat)(h:j<v.length),v[j]∉v.take j:=by
 unfold List.Nodup
 rw[List.pairwise_iff_getElem]
 constructor
 ·intro h j hj hm
  obtain⟨i,hi,e⟩:=List.getElem_of_mem hm
  have hij:i<j:=by simp at hi;omega
  rw[List.getElem_take] at e
  exact h i j (by omega) hj hij e
 ·intro h i j hi hj hij e
  refine h j hj ?_
  rw[<-e,List.mem_take_iff_getElem]
  exact⟨i,by omega,rfl⟩
theorem RValid_M(p:zLn){fuel:Nat}(hf:wt p<=fuel)(hs:nds p<=200):zD3 fuel p=some (vld p):=by
 have hp:=nds_pos p
 have hw:=nds_wt p
 have hl:=vrs_len p
 have ho:=wt_own p
 rw[zD3,count_M p fuel 20000 400 hf (by omega) (by omega) (by omega) (by omega),zBH]
 unfold vld
 cases hn:nok p with
 |false=>rfl
 |true=>
  simp only[if_true,Bool.true_and]
  rw[if_neg (show¬ltI (20000-(nds p:Int)) 0=true from fun h=>by have:=ltT h;omega),RVars_M p hf hs hn,zBH]
  have hlen:(vrs p).length+1<=wt p:=by
   have:=vrs_len p
   have h1:nds p+1<=wt p:=by
    rw[zKH,wt_eq]
    have:=sum_le (f:=nds) (g:=wt) (l:=p.L) (fun x _=>nds_wt x)
    omega
   omega
  obtain⟨o,o1,o2⟩:=dup_loop (vrs p) fuel (by omega) (vrs p).length 0 fuel (by omega) (by omega)
  rw[o1,zBH]
  rcases o2 with ⟨rfl,h⟩|⟨rfl,j,hj,h⟩
  ·rw[zqb ((nodup_take _).2 fun j hj=>h j hj (by omega))];rfl
  ·rw[decide_eq_false (fun e=>(nodup_take _).1 e j hj h)];rfl
end Go.Proofs.YtencdekdgajgfaaGreatDoor
