/- For every input the law PatternWider returns true. Part 16 of 22. No condition. -/
import Derived.Test.YtencdekdgajgfaaGreatDoorPXo
import Derived.OwnWalk
import Derived.Maps.AppendAt
import Derived.Lib.OwnBridge
set_option linter.unusedVariables false
set_option linter.unnecessarySimpa false
set_option linter.unusedSimpArgs false
set_option maxRecDepth 100000
set_option maxHeartbeats 1000000
namespace Go.Proofs.YtencdekdgajgfaaGreatDoor
open Go Go.Abs Go.RowKit Go.Sort
structure Stop1 (p:Prop):Prop where
 out:p
def RC(imm:Addr->Option Value)(x:zLd)(us:Array Value):Prop:=us.size=6∧∀(i:Nat) y,(zLd.c x)[i]? =some y->Rep imm [] y (us.getD i undef)
theorem RC.mono{imm imm':Addr->Option Value}(h: ∀x v,imm x=some v->imm' x=some v){x:zLd}{us:Array Value}(hr:RC imm x us):RC imm' x us:=⟨hr.1,fun i y hy=>(hr.2 i y hy).monoI h⟩
theorem zJH{w w':World}(h:Tabs w)(hb:Below w.heap.size w w'):Tabs w':=fun t ht=>by
 obtain⟨ty,fr,h1⟩:=h t ht
 have hlt:t.1<w.heap.size:=(Array.getElem?_eq_some_iff.1 h1).1
 exact⟨ty,fr,by rw[hb.block _ hlt];exact h1⟩
theorem valid_calls{fuel:Nat}{c:zLd}{v:Bool}(h:zBZ fuel c=some v){imm:Addr->Option Value}{w:World}{us:Array Value}(him: ∀x v,imm x=some v->w.cell? x=some v)(hgl:GOk imm)(htb:Tabs w)(hr:RC imm c us):
 Calls Tryz.prog 29 #[.agg us] w fun e w'=>e=.returned (.bool v)∧Below w.heap.size w w':=by
 have hp:=zCR fuel c v h
 refine(hp.2 imm w #[.agg us] him hgl htb ⟨rfl,fun i x hx=>?_⟩).mono fun e w' he=>?_
 ·rcases i with _|i
  ·simp only[List.getElem?_cons_zero,Option.some.injEq] at hx
   subst hx
   refine .agg _ _ (by rw[hr.1];simp) fun i y hy=>?_
   exact hr.2 i y (by simpa using hy)
  ·simp at hx
 ·obtain⟨imm',v',rfl,h1,_,_,h2,_⟩:=he
  cases h1
  exact⟨rfl,h2⟩
theorem zJs{fuel:Nat}{c z:zLd}(h:zCq fuel c=some z){imm:Addr->Option Value}{w:World}{us:Array Value}(him: ∀x v,imm x=some v->w.cell? x=some v)(hgl:GOk imm)(htb:Tabs w)(hr:RC imm c us):
 Calls Tryz.prog 184 #[.agg us] w fun e w'=> ∃zs imm',e=.returned (.agg zs)∧RC imm' z zs∧(∀x v,imm x=some v->imm' x=some v)∧(∀x v,imm' x=some v->w'.cell? x=some v)∧Below w.heap.size w w'∧
  (∀x v,imm' x=some v->imm x=some v∨w.heap.size<=x.block):=by
 have hp:=zJ5 fuel c z h
 refine(hp.2 imm w #[.agg us] him hgl htb ⟨rfl,fun i x hx=>?_⟩).mono fun e w' he=>?_
 ·rcases i with _|i
  ·simp only[List.getElem?_cons_zero,Option.some.injEq] at hx
   subst hx
   refine .agg _ _ (by rw[hr.1];simp) fun i y hy=>?_
   exact hr.2 i y (by simpa using hy)
  ·simp at hx
 ·obtain⟨imm',v',rfl,h1,h2,h3,h4,h5⟩:=he
  cases h1 with
  |agg _ vs hs hr'=>
   exact⟨vs,imm',rfl,⟨by simpa using hs,fun i y hy=>hr' i y (by simpa using hy)⟩,h2,h3,h4,h5⟩
theorem six{us:Array Value}(h:us.size=6): ∃v0 v1 v2 v3 v4 v5,us=#[v0,v1,v2,v3,v4,v5]:=by
 obtain⟨l⟩:=us
 match l,h with
 |[v0,v1,v2,v3,v4,v5],_=>exact⟨v0,v1,v2,v3,v4,v5,rfl⟩
def RL(imm:Addr->Option Value)(l:List zLd)(xs:List Value):Prop:= ∀(j:Nat) a,l[j]? =some a->∀(i:Nat) y,(zLd.c a)[i]? =some y->Rep imm [] y (xs.getD (j*6+i) undef)
def ZC:Array Value:=#[.int .i64 0,.int .i64 0,.string ⟨#[]⟩,.slice none 0 0,.slice none 0 0,.slice none 0 0]
def SpRel(fuel:Nat)(imm:Addr->Option Value)(w:World)(o:zLd×List zLd)(k:Nat)(v:Value)(wr:World):Prop:=
 ∃(x:zLd) (l:List zLd) (us:Array Value) (imm1:Addr->Option Value) (xs:List Value),
  zCC fuel k x l=some o∧RC imm x us∧wr.heap[w.heap.size]? =some (.cells us 31 (0,0))∧wr.heap[w.heap.size+1]? =some (.cells ZC 31 (0,0))∧
  wr.ownsRow (w.heap.size+2) 31 6 v l.length xs∧RL imm1 l xs∧(∀a u,imm a=some u->imm1 a=some u)∧(∀a u,imm1 a=some u->wr.cell? a=some u)∧
  (∀a u,imm1 a=some u->imm a=some u∨(w.heap.size+2<=a.block∧some a.block≠v.ownBlock))∧Below w.heap.size w wr∧w.heap.size+2<=wr.heap.size∧l.length*104<=140737488355328
theorem zFN{w:World}{k:Nat}{c:Array Value}{t:TypeId}(h:w.heap[k]? =some (.cells c t (0,0)))(j:Nat):w.cell? ⟨k,j,none⟩=c[j]? :=by
 unfold World.cell?;simp[h]
theorem frozen_row{w:World}{k:Nat}{c:Array Value}{t:TypeId}(h:w.heap[k]? =some (.cells c t (0,0)))(j:Nat):w.frozen? ⟨k,j,none⟩=false:=by
 unfold World.frozen?;simp[h]
theorem own_below{w w':World}{base size n:Nat}{e:TypeId}{v:Value}{xs:List Value}(h:w.ownsRow base e size v n xs)(hb:Below w.heap.size w w'):w'.ownsRow base e size v n xs:=by
 refine⟨h.1,?_⟩
 rcases h.2 with h2|⟨g,cap,cur,hv,hbg,hg,hr⟩
 ·exact .inl h2
 ·exact .inr ⟨g,cap,cur,hv,hbg,by rw[hb.block g (Array.getElem?_eq_some_iff.1 hg).1];exact hg,hr⟩
theorem info_con:((Tryz.prog.info? 31).bind fun i=>i.zero.map fun z=>(z.cells.size,i.size,i.bytes))=some (6,6,104):=by kernel_rfl
theorem info_con': ∃i z,Tryz.prog.info? 31=some i∧i.zero=some z∧i.size=6∧i.bytes=104∧z.cells.size=6:=by
 have h:=info_con
 cases hi:Tryz.prog.info? 31 with
 |none=>rw[hi] at h;cases h
 |some i=>
  rw[hi] at h
  cases hz:i.zero with
  |none=>simp[hz] at h
  |some z=>simp[hz] at h;exact⟨i,z,rfl,hz,h.2.1,h.2.2,h.1⟩
theorem und_con:Tryz.prog.underlying 29=some (.slice 31):=by kernel_rfl
theorem RC.one{imm:Addr->Option Value}{x:zLd}{us:Array Value}(h:RC imm x us): ∀v∈us.toList,v.oneCell'=true:=fun v hv=>by
 obtain⟨i,hi,rfl⟩:=List.getElem_of_mem hv
 have h6:i<6:=by have:=h.1;simpa[this] using hi
 have hg:us.toList[i]=us.getD i undef:=by simp at hi;simp[Array.getD,hi]
 rw[hg]
 rcases i with _|_|_|_|_|_|i
 ·exact(h.2 0 (.int .i64 x.Op) (by simp)).oneCell rfl
 ·exact(h.2 1 (.int .i64 x.N) (by simp)).oneCell rfl
 ·exact(h.2 2 (.str x.S) (by simp)).oneCell rfl
 ·exact(h.2 3 (.sl (x.Kind.L.map zLb.c)) (by simp)).oneCell rfl
 ·exact(h.2 4 (.sl (x.Names.map cS)) (by simp)).oneCell rfl
 ·exact(h.2 5 (.sl (x.L.map zLd.c)) (by simp)).oneCell rfl
 ·omega
theorem cells_new(w:World)(xs:List Value)(t:TypeId): ∀j u,xs[j]? =some u->(w.alloc (.cells xs.toArray t)).cell? ((⟨w.heap.size,0,none⟩:Addr).add j)=some u:=by
 intro j u hj
 rw[Addr.add_lit,World.cell?_alloc_mark,Nat.zero_add,List.getElem?_toArray]
 exact hj
theorem zGj(P:Program){w:World}{B:Nat}{cur cur':Array Value}{T:TypeId}{i:Nat}{v:Value}(hg:w.heap[B]? =some (.cells cur T (0,0)))(hi:i<cur.size)(h1:v.oneCell'=true)(hc:cur.setIfInBounds i v=cur')(W:World)(hW:w.setRow B cur'=W):
 Sem.run P (store ⟨B,i,none⟩ v) w=.ok () W:=by
 subst hW hc
 rw[run_store P w _ v _ h1,zFN hg,zqe hi]
 simp[frozen_row hg,setCell_eq_setRow w B i cur T (0,0) v hg]
theorem zKh(x:zLd):(zLd.c x).length=6:=by simp
theorem slice_parts{imm:Addr->Option Value}{L:List zLd}{v:Value}(h:Rep imm [] (.sl (L.map zLd.c)) v)(hL:0<L.length):
 ∃a n cap,v=.slice (some a) n cap∧n=L.length∧∀(i:Nat) y,L[i]? =some y->∃y0 y1 y2 y3 y4 y5,RC imm y #[y0,y1,y2,y3,y4,y5]∧imm (a.add (i*6))=some y0∧imm (a.add (i*6+1))=some y1∧imm (a.add (i*6+2))=some y2∧
  imm (a.add (i*6+3))=some y3∧imm (a.add (i*6+4))=some y4∧imm (a.add (i*6+5))=some y5:=by
 generalize hl:L.map zLd.c=l at h
 cases h with
 |sl0=>
  have h0:L.length=0:=by simpa using congrArg List.length hl
  omega
 |sl ec _ a n cap vs hn hc hbd he hI hr=>
  subst hl
  have hec:ec=6:=by
   have h0:(L.map zLd.c)[0]? =some (zLd.c L[0]):=by rw[List.getElem?_map,zq2 hL];rfl
   have:=he 0 _ h0
   rw[zKh] at this;exact this.symm
  subst hec
  refine⟨a,n,cap,rfl,by simpa using hn,fun i y hy=>?_⟩
  have hi:(L.map zLd.c)[i]? =some (zLd.c y):=by rw[List.getElem?_map,hy];rfl
  have hk: ∀j,j<6->imm (a.add (i*6+j))=some (vs i j):=fun j hj=>by
   have hj':j<(zLd.c y).length:=by rw[zKh];exact hj
   exact hI i _ hi j _ (zq2 hj')
  refine⟨vs i 0,vs i 1,vs i 2,vs i 3,vs i 4,vs i 5,⟨rfl,fun j z hz=>?_⟩,by simpa using hk 0 (by omega),hk 1 (by omega),hk 2 (by omega),hk 3 (by omega),hk 4 (by omega),hk 5 (by omega)⟩
  have hj:j<6:=by have:=(zq1 hz).1;rwa [zKh] at this
  have hrr:=hr i _ hi j z hz
  have:((#[vs i 0,vs i 1,vs i 2,vs i 3,vs i 4,vs i 5]:Array Value).getD j undef)=vs i j:=by
   rcases j with _|_|_|_|_|_|j<;>first|rfl|omega
  rw[this];exact hrr
theorem getD_left{a b:List Value}{i:Nat}(h:i<a.length):(a++b).getD i undef=a.getD i undef:=by
 rw[zq5,zq5,List.getElem?_append_left h]
theorem getD_right{a b:List Value}{i:Nat}(h:a.length<=i):(a++b).getD i undef=b.getD (i-a.length) undef:=by
 rw[zq5,zq5,List.getElem?_append_right h]
def oneV(v:Value):Value:=if v.oneCell' then v else .int .i64 0
theorem oneV_one(v:Value):(oneV v).oneCell'=true:=by unfold oneV;split<;>first|assumption|rfl
def encV(xs:List Value)(j:Nat):List Value:=(List.range 6).map fun i=>oneV (xs.getD (j*6+i) undef)
theorem encV_len(xs:List Value)(j:Nat):(encV xs j).length=6:=by simp[encV]
theorem encV_get(xs:List Value)(j c:Nat)(hc:c<6):(encV xs j)[c]! =oneV (xs.getD (j*6+c) undef):=by
 rw[getElem!_pos _ _ (by rw[encV_len];exact hc)]
 simp[encV]
theorem con_at(x:zLd){i:Nat}(hi:i<6): ∃y,(zLd.c x)[i]? =some y∧y.one=true:=by
 rcases i with _|_|_|_|_|_|i
 ·exact⟨.int .i64 x.Op,by simp,rfl⟩
 ·exact⟨.int .i64 x.N,by simp,rfl⟩
 ·exact⟨.str x.S,by simp,rfl⟩
 ·exact⟨.sl (x.Kind.L.map zLb.c),by simp,rfl⟩
 ·exact⟨.sl (x.Names.map cS),by simp,rfl⟩
 ·exact⟨.sl (x.L.map zLd.c),by simp,rfl⟩
 ·omega
theorem RL.one{imm:Addr->Option Value}{l:List zLd}{xs:List Value}(h:RL imm l xs){j i:Nat}(hj:j<l.length)(hi:i<6):oneV (xs.getD (j*6+i) undef)=xs.getD (j*6+i) undef:=by
 obtain⟨y,hy,h1⟩:=con_at l[j] hi
 have:=(h j l[j] (zq2 hj) i y hy).oneCell h1
 unfold oneV
 rw[if_pos this]
theorem rev_calls{imm1:Addr->Option Value}{wr:World}{base:Nat}{v:Value}{l:List zLd}{xs:List Value}(hown:wr.ownsRow base 31 6 v l.length xs)(hrl:RL imm1 l xs)
 (hi2: ∀a u,imm1 a=some u->wr.cell? a=some u) (hne: ∀a u,imm1 a=some u->some a.block≠v.ownBlock) (h104:l.length*104<=140737488355328):
 Calls Tryz.prog 185 #[v] wr fun e w'=> ∃imm3,e=.returned (.tuple #[])∧Rep imm3 [] (.sl (l.reverse.map zLd.c)) v∧(∀a u,imm1 a=some u->imm3 a=some u)∧(∀a u,imm3 a=some u->w'.cell? a=some u)∧
  (∀a u,imm3 a=some u->imm1 a=some u∨(base<=a.block))∧Below base wr w':=by
 rcases hown.2 with ⟨rfl,hn⟩|⟨g,cap,cur,rfl,hbg,hg,hnc,hcm,hcs,htake⟩
 ·obtain rfl:l=[]:=List.eq_nil_of_length_eq_zero hn
  refine(AnyQ.slices_Reverse_empty Tryz.revCon none 0 wr).mono ?_
  rintro e w' ⟨rfl,rfl⟩
  exact⟨imm1,rfl,.sl0,fun _ _ h=>h,hi2,fun _ _ h=>.inl h,Below.refl _ _⟩
 ·have hxs: ∀t,t<l.length*6->cur[t]? =some (xs.getD t undef):=fun t ht=>by
   have h1:t<xs.length:=by rw[hown.1];exact ht
   have h2:xs[t]? =cur.toList[t]? :=by rw[<-htake,List.getElem?_take,if_pos ht]
   rw[<-Array.getElem?_toList,<-h2,zq2 h1,zq5,zq2 h1];rfl
  have hone: ∀t,t<l.length*6->oneV (xs.getD t undef)=xs.getD t undef:=fun t ht=>by
   have:=hrl.one (j:=t/6) (i:=t%6) (by omega) (by omega)
   rwa [show t/6*6+t%6=t by omega] at this
  have hH:HoldsK (encV xs) 6 wr g 0 (Array.range l.length):=fun t ht=>by
   rw[size_flatK,Array.size_range] at ht
   rw[Nat.zero_add,zFN hg,hxs t ht,frozen_row hg,get_flatK _ _ _ _ (by simpa using ht)]
   refine⟨?_,rfl⟩
   rw[encV_get _ _ _ (by omega),getElem!_pos (Array.range l.length) (t/6) (by simp;omega),Array.getElem_range,show t/6*6+t%6=t by omega,hone t ht];rfl
  have hc:=AnyQ.slices_Reverse Tryz.revCon 6 Tryz.isAgg31 Tryz.sizeOf31 (encV xs) (encV_len xs) (fun x v hv=>by
   unfold encV at hv
   obtain⟨i,_,rfl⟩:=List.mem_map.1 hv
   exact oneV_one _) g 0 cap (Array.range l.length) wr hH (by simp;omega)
  rw[Array.size_range] at hc
  refine hc.mono ?_
  rintro e w' ⟨rfl,q,rfl⟩
  have hH':HoldsK (encV xs) 6 (putRowK (encV xs) 6 (Sort.ahead wr q) g 0 (Array.range l.length).reverse) g 0 (Array.range l.length).reverse:=holdsK_putRowK _ _ _ _ _ _ _ (holdsK_ahead _ _ _ _ _ _ _ hH) (by simp)
  refine⟨fun a=>if a.block=g then (putRowK (encV xs) 6 (Sort.ahead wr q) g 0 (Array.range l.length).reverse).cell? a else imm1 a,rfl,?_,fun a u ha=>?_,fun a u ha=>?_,fun a u ha=>?_,Lib.below_putRow (Below.refl _ _) hbg⟩
  ·have hget: ∀(i:Nat) e,(l.reverse.map zLd.c)[i]? =some e->∃hi:i<l.length,e=zLd.c l[l.length-1-i]:=fun i e he=>by
    obtain⟨hi,he⟩:=zq1 he
    simp at hi
    refine⟨hi,?_⟩
    rw[<-he]
    simp
   refine .sl 6 _ _ _ _ (fun i j=>xs.getD ((l.length-1-i)*6+j) undef) (by simp) hnc (by omega) (fun i e he=>?_) (fun i e he j x hx=>?_) (fun i e he j x hx=>?_)
   ·obtain⟨hi,rfl⟩:=hget i e he;exact zKh _
   ·obtain⟨hi,rfl⟩:=hget i e he
    have hj:j<6:=by have:=(zq1 hx).1;rwa [zKh] at this
    have hcell:=(hH'.cell (i:=i) (c:=j) (by simpa using hi) hj).1
    rw[Addr.add_lit]
    simp only[if_true]
    rw[Nat.zero_add,<-Nat.zero_add (i*6+j),<-Nat.add_assoc,hcell,encV_get _ _ _ hj,getElem!_pos _ i (by simpa using hi)]
    simp only[Array.getElem_reverse,Array.getElem_range,Array.size_range]
    rw[hrl.one (by omega) hj]
   ·obtain⟨hi,rfl⟩:=hget i e he
    refine(hrl (l.length-1-i) _ (zq2 (by omega)) j x hx).monoI fun a u ha=>?_
    have:=hne a u ha
    simp only[Value.ownBlock,ne_eq,Option.some.injEq] at this
    simp only[if_neg this,ha]
  ·have:=hne a u ha
   simp only[Value.ownBlock,ne_eq,Option.some.injEq] at this
   simp only[if_neg this,ha]
  ·by_cases hb:a.block=g
   ·simp only[if_pos hb] at ha;exact ha
   ·simp only[if_neg hb] at ha
    rw[cell?_putRowK_other _ _ _ _ _ _ _ hb]
    exact hi2 a u ha
  ·by_cases hb:a.block=g
   ·exact .inr (by omega)
   ·simp only[if_neg hb] at ha
    exact .inl ha
theorem own_setRow{w:World}{base size n B:Nat}{e:TypeId}{v:Value}{xs:List Value}(h:w.ownsRow base e size v n xs)(hB:B<base)(cs:Array Value):(w.setRow B cs).ownsRow base e size v n xs:=by
 refine⟨h.1,?_⟩
 rcases h.2 with h2|⟨g,cap,cur,hv,hbg,hg,hr⟩
 ·exact .inl h2
 ·exact .inr ⟨g,cap,cur,hv,hbg,by rw[setRow_other _ _ _ _ (by omega)];exact hg,hr⟩
theorem zJw{B k:Nat}{a w:World}(h:Below B a w)(hk:B<=k)(cs:Array Value):Below B a (w.setRow k cs):=
 ⟨h.os,h.tape,h.output,by simpa[World.setRow] using h.size,fun i hi=>by rw[setRow_other _ _ _ _ (by omega)];exact h.block i hi⟩
theorem load_con{w:World}{B:Nat}{us:Array Value}(h:w.heap[B]? =some (.cells us 31 (0,0)))(h6:us.size=6):(loadVar 31 ⟨B,0,none⟩).run Tryz.prog w=.ok (.agg us) w:=by
 have hc: ∀c v,us.toList[c]? =some v->w.cell? ((⟨B,0,none⟩:Addr).add c)=some v:=fun c v hv=>by
  rw[Addr.add_lit,Nat.zero_add,zFN h,<-Array.getElem?_toList];exact hv
 have:=run_loadCellsFrom_list Tryz.prog w ⟨B,0,none⟩ us.toList 6 (by simpa using h6) hc
 simp only[loadVar,Sem.run_bind,Tryz.isAgg31,Result.andThen_ok,if_true,Tryz.sizeOf31,loadCells,this,Sem.run_pure]
theorem spine_any(fuel:Nat)(c:zLd)(o:zLd×List zLd)(z:zLd)(hv:zBZ fuel c=some true)(ho:zCC fuel fuel c []=some o)(hz:zCq fuel o.1=some z)
 (imm:Addr->Option Value) (w:World) (u0 u1 u2 u3 u4 u5:Value) (him: ∀x v,imm x=some v->w.cell? x=some v) (hgl:GOk imm) (htb:Tabs w)
 (ha:RC imm c #[u0,u1,u2,u3,u4,u5]):
 Calls Tryz.prog 152 #[.agg #[u0,u1,u2,u3,u4,u5]] w fun e w'=> ∃imm' v,e=.returned v∧Rep imm' [] (.tup [.agg (zLd.c z),.sl (o.2.reverse.map zLd.c),.int .i64 0]) v∧(∀x v,imm x=some v->imm' x=some v)∧(∀x v,imm' x=some v->w'.cell? x=some v)∧
  Below w.heap.size w w'∧(∀x v,imm' x=some v->imm x=some v∨w.heap.size<=x.block):=by
 have hlt: ∀x v,imm x=some v->x.block<w.heap.size:=fun x v hx=>World.block_lt_of_cell? _ _ (him x v hx)
 have hb2: ∀o o':Obj,Below w.heap.size w ((w.alloc o).alloc o'):=fun o o'=>((Below.refl _ _).alloc (Nat.le_refl _) o).alloc (by simp) o'
 have him2: ∀o o':Obj,∀x v,imm x=some v->((w.alloc o).alloc o').cell? x=some v:=fun o o' x v hx=>((hb2 o o').cell (hlt x v hx)).trans (him x v hx)
 have start: ∀W1,Below ((w.alloc (.cells #[u0,u1,u2,u3,u4,u5] 31)).alloc (.cells ZC 31)).heap.size ((w.alloc (.cells #[u0,u1,u2,u3,u4,u5] 31)).alloc (.cells ZC 31)) W1->SpRel fuel imm w o fuel (.slice none 0 0) W1:=fun W1 hW1=>by
  have hs:=hW1.size
  simp at hs
  have hb:=(hb2 (.cells #[u0,u1,u2,u3,u4,u5] 31) (.cells ZC 31)).trans (hW1.mono (by simp;omega))
  refine⟨c,[],_,imm,[],ho,ha,?_,?_,World.ownsRow_nil _ _ _ _,fun j a h=>by simp at h,fun _ _ h=>h,fun a u h=>(hb.cell (hlt a u h)).trans (him a u h),fun _ _ h=>.inl h,hb,by omega,by simp⟩
  ·rw[hW1.block _ (by simp;omega),heap_alloc_old _ _ (by simp),zDD];try rfl
  ·rw[hW1.block _ (by simp),show w.heap.size+1=(w.alloc (.cells #[u0,u1,u2,u3,u4,u5] 31)).heap.size by simp,zDD]
 go_enter Tryz.func152,Tryz.ntmps152
 go_wp2_with fail
 refine(valid_calls hv (him2 _ _) hgl (zJH htb (hb2 _ _)) ha).mono ?_
 rintro e W1 ⟨rfl,hW1⟩
 have hst:=start W1 hW1
 clear start hW1 him2 hb2
 go_wp2
 go_loopg [5] fuel (fun k v wr=>SpRel fuel imm w o k v wr)
 case atStart=>exact hst
 case round=>
  obtain⟨x,l,us,imm1,xs,hm,hrc,hB,hR,hown,hrl,hi1,hi2,hi3,hbel,hsz,hl0⟩:=hrel
  obtain⟨v0,v1,v2,v3,v4,v5,rfl⟩:=six hrc.1
  have q0:=zFN hB 0
  have q5:=zFN hB 5
  simp at q0 q5
  have hv0:v0=.int .i64 x.Op:=by
   have:=hrc.2 0 (.int .i64 x.Op) (by simp)
   simp at this
   cases this;rfl
  subst hv0
  cases gk with
  |zero=>rw[zCC] at hm;cases hm
  |succ k=>
  rw[zCC] at hm
  by_cases hop:x.Op=12
  ·rw[if_pos (show eqI x.Op 12=true from zqb hop)] at hm
   obtain⟨y,hy,hm⟩:=bs hm
   obtain⟨cz,hcz,hm⟩:=bs hm
   obtain⟨l1,hl1,hm⟩:=bs hm
   obtain⟨u,hu,hm⟩:=bs hm
   have hsl:=hrc.2 5 (.sl (x.L.map zLd.c)) (by simp)
   simp at hsl
   have hyl:1<x.L.length:=(zq1 hy).1
   obtain⟨a,n,cap,rfl,rfl,hel⟩:=slice_parts hsl (by omega)
   obtain⟨y0,y1,y2,y3,y4,y5,hry,f0,f1,f2,f3,f4,f5⟩:=hel 1 y hy
   obtain⟨t0,t1,t2,t3,t4,t5,hru,g0,g1,g2,g3,g4,g5⟩:=hel 0 u hu
   have hL: ∀p q,imm p=some q->wr.cell? p=some q:=fun p q hp=>hi2 _ _ (hi1 _ _ hp)
   replace f0:=hL _ _ f0;replace f1:=hL _ _ f1;replace f2:=hL _ _ f2;replace f3:=hL _ _ f3;replace f4:=hL _ _ f4;replace f5:=hL _ _ f5
   obtain⟨blk,off,sp⟩:=a
   simp[Addr.add] at f0 f1 f2 f3 f4 f5
   have hn1:(1:Int)<x.L.length:=by omega
   clear hel
   have htr:Tabs wr:=zJH htb hbel
   have hcc:=zJs hcz hi2 (hgl.mono hi1) htr (hry.mono hi1)
   go_wp2_with fail
   refine hcc.mono ?_
   rintro e W2 ⟨zs,imm2,rfl,hrz,him2,hcell2,hb2,hnew2⟩
   obtain⟨z0,z1,z2,z3,z4,z5,rfl⟩:=six hrz.1
   have hsz2:=hb2.size
   obtain⟨il,zl,hil,hiz,his,hib,hizs⟩:=info_con'
   obtain⟨⟨_,hl104⟩,rfl⟩:=zHG hl1
   simp only[List.length_singleton] at hl104
   have hown2:=own_below hown hb2
   have hbB:W2.heap[w.heap.size]? =wr.heap[w.heap.size]? :=hb2.block _ (by omega)
   go_wp2_with (at_builtin;refine wpList_append_own_at _ rfl (.tmp 13) (.tmp 19) 29 rfl (w.heap.size+2) 31 il _ 6 104 und_con hil hiz his hib hizs (by decide) _ _ _ rfl (hown2.alloc _) ⟨W2.heap.size,0,none⟩ 1 1 [z0,z1,z2,z3,z4,z5] rfl rfl (cells_new _ _ _) (fun u hu=>hrz.one u (by simpa using hu)) (by unfold maxLen;omega) hl104 (by simp;omega) ?_;refine Stop1.out ?_)
   refine Stop1.mk ?_
   intro v5 W3 hown3 hgrow3 hnil3 hat3
   have hW3: ∀p q,imm2 p=some q->W3.cell? p=some q:=fun p q hp=>by
    refine hgrow3.cell ((World.cell?_alloc_lt _ _ _ (World.block_lt_of_cell? _ _ (hcell2 _ _ hp))).trans (hcell2 _ _ hp)) fun he=>?_
    have hlo:=hown.lt p.block he.symm
    rcases hnew2 p q hp with h1|h1
    ·rcases hi3 p q h1 with h2|h2
     ·have:=hlt p q h2;omega
     ·exact h2.2 he
    ·omega
   have hB3:W3.heap[w.heap.size]? =wr.heap[w.heap.size]? :=by
    rw[hgrow3.block w.heap.size (by simp;omega) (fun he=>by have:=hown.lt _ he.symm;omega),heap_alloc_old _ _ (by omega),hbB]
   have hR3:W3.heap[w.heap.size+1]? =wr.heap[w.heap.size+1]? :=by
    rw[hgrow3.block (w.heap.size+1) (by simp;omega) (fun he=>by have:=hown.lt _ he.symm;omega),heap_alloc_old _ _ (by omega),hb2.block _ (by omega)]
   rw[hB] at hB3
   rw[hR] at hR3
   have e5:=zFN hB3 5
   simp at e5
   have ho:=fun i v h=>hru.one v (zq3 (i:=i) h)
   have s0:=zGj Tryz.prog (cur:=#[.int .i64 x.Op,v1,v2,v3,v4,.slice (some ⟨blk,off,sp⟩) x.L.length cap]) (cur':=#[t0,v1,v2,v3,v4,.slice (some ⟨blk,off,sp⟩) x.L.length cap]) hB3 (i:=0) (by simp) (ho 0 t0 rfl) rfl _ rfl
   have s1:=zGj Tryz.prog (cur:=#[t0,v1,v2,v3,v4,.slice (some ⟨blk,off,sp⟩) x.L.length cap]) (cur':=#[t0,t1,v2,v3,v4,.slice (some ⟨blk,off,sp⟩) x.L.length cap]) (setRow_heap _ _ _ _ _ _ hB3) (i:=1) (by simp) (ho 1 t1 rfl) rfl _ (setRow_setRow _ _ _ _)
   have s2:=zGj Tryz.prog (cur:=#[t0,t1,v2,v3,v4,.slice (some ⟨blk,off,sp⟩) x.L.length cap]) (cur':=#[t0,t1,t2,v3,v4,.slice (some ⟨blk,off,sp⟩) x.L.length cap]) (setRow_heap _ _ _ _ _ _ hB3) (i:=2) (by simp) (ho 2 t2 rfl) rfl _ (setRow_setRow _ _ _ _)
   have s3:=zGj Tryz.prog (cur:=#[t0,t1,t2,v3,v4,.slice (some ⟨blk,off,sp⟩) x.L.length cap]) (cur':=#[t0,t1,t2,t3,v4,.slice (some ⟨blk,off,sp⟩) x.L.length cap]) (setRow_heap _ _ _ _ _ _ hB3) (i:=3) (by simp) (ho 3 t3 rfl) rfl _ (setRow_setRow _ _ _ _)
   have s4:=zGj Tryz.prog (cur:=#[t0,t1,t2,t3,v4,.slice (some ⟨blk,off,sp⟩) x.L.length cap]) (cur':=#[t0,t1,t2,t3,t4,.slice (some ⟨blk,off,sp⟩) x.L.length cap]) (setRow_heap _ _ _ _ _ _ hB3) (i:=4) (by simp) (ho 4 t4 rfl) rfl _ (setRow_setRow _ _ _ _)
   have s5:=zGj Tryz.prog (cur:=#[t0,t1,t2,t3,t4,.slice (some ⟨blk,off,sp⟩) x.L.length cap]) (cur':=#[t0,t1,t2,t3,t4,t5]) (setRow_heap _ _ _ _ _ _ hB3) (i:=5) (by simp) (ho 5 t5 rfl) rfl _ (setRow_setRow _ _ _ _)
   clear ho
   have hT: ∀p q,imm p=some q->W3.cell? p=some q:=fun p q hp=>hW3 _ _ (him2 _ _ (hi1 _ _ hp))
   replace g0:=hT _ _ g0;replace g1:=hT _ _ g1;replace g2:=hT _ _ g2;replace g3:=hT _ _ g3;replace g4:=hT _ _ g4;replace g5:=hT _ _ g5
   simp[Addr.add] at g0 g1 g2 g3 g4 g5
   have hn0:(0:Int)<x.L.length:=by omega
   clear hT
   go_wp2
   go_roundg k
   case measure=>omega
   case rel=>
    refine⟨u,l++[cz],_,imm2,xs++[z0,z1,z2,z3,z4,z5],hm,hru,setRow_heap _ _ _ _ _ _ hB3,(setRow_other _ _ _ _ (by omega)).trans hR3,?_,?_,fun p q hp=>him2 _ _ (hi1 _ _ hp),?_,?_,?_,?_,?_⟩
    ·rw[List.length_append];exact own_setRow hown3 (by omega) _
    ·intro j a ha i y hy
     have hi6:i<6:=by have:=(zq1 hy).1;rwa [zKh] at this
     by_cases hj:j<l.length
     ·rw[List.getElem?_append_left hj] at ha
      rw[getD_left (by rw[hown.1];omega)]
      exact(hrl j a ha i y hy).monoI him2
     ·have hjl:j=l.length:=by have:=(zq1 ha).1;simp at this;omega
      subst hjl
      simp at ha
      subst ha
      rw[getD_right (by rw[hown.1];omega),hown.1,show l.length*6+i-l.length*6=i by omega]
      have:=hrz.2 i y hy
      rcases i with _|_|_|_|_|_|i<;>first|exact this|omega
    ·intro p q hp
     rw[cell_setRow_other]
     ·exact hW3 p q hp
     ·rcases hnew2 p q hp with h1|h1
      ·rcases hi3 p q h1 with h2|h2
       ·have:=hlt p q h2;omega
       ·omega
      ·omega
    ·intro p q hp
     have hpl:=World.block_lt_of_cell? _ _ (hcell2 _ _ hp)
     have hno:some p.block≠v5.ownBlock∨imm p=some q:=by
      rcases hat3 with h0|h0
      ·rcases hnew2 p q hp with h1|h1
       ·rcases hi3 p q h1 with h2|h2
        ·exact .inr h2
        ·exact .inl (by rw[h0];exact h2.2)
       ·refine .inl fun he=>?_
        have:=hown.lt p.block (by rw[<-h0,<-he]);omega
      ·refine .inl fun he=>?_
       rw[h0] at he
       simp at he
       omega
     rcases hno with h0|h0
     ·rcases hnew2 p q hp with h1|h1
      ·rcases hi3 p q h1 with h2|h2
       ·exact .inl h2
       ·exact .inr ⟨h2.1,h0⟩
      ·exact .inr ⟨by omega,h0⟩
     ·exact .inl h0
    ·exact zJw (((hbel.trans (hb2.mono (by omega))).alloc (by omega) _).grown hgrow3 (by simp;omega) (fun j hj=>by have:=hown.lt _ hj;omega)) (Nat.le_refl _) _
    ·have:=hgrow3.size
     simp[World.setRow] at this ⊢
     omega
    ·rw[List.length_append];exact hl104
  ·rw[if_neg (show¬eqI x.Op 12=true from fun h=>hop (of_decide_eq_true h))] at hm
   cases hm
   go_wp2_with fail
   refine(rev_calls hown hrl hi2 (fun p q hp he=>?_) hl0).mono ?_
   ·have:=hown.lt p.block he.symm
    rcases hi3 p q hp with h2|h2
    ·have:=hlt p q h2;omega
    ·exact h2.2 he
   rintro e W2 ⟨imm3,rfl,hrep,him3,hcell3,hnew3,hb3⟩
   have hB2:=(hb3.block w.heap.size (by omega)).trans hB
   have hR2:=(hb3.block (w.heap.size+1) (by omega)).trans hR
   have e0:=zFN hB2 0;have e1:=zFN hB2 1;have e2:=zFN hB2 2;have e3:=zFN hB2 3;have e4:=zFN hB2 4;have e5:=zFN hB2 5
   simp at e0 e1 e2 e3 e4 e5
   have hsz3:=hb3.size
   have htr:Tabs W2:=zJH htb (hbel.trans (hb3.mono (by omega)))
   have hcc:=zJs hz hcell3 (hgl.mono fun p q hp=>him3 _ _ (hi1 _ _ hp)) htr (hrc.mono fun p q hp=>him3 _ _ (hi1 _ _ hp))
   go_wp2_with fail
   refine hcc.mono ?_
   rintro e W3 ⟨zs,imm4,rfl,hrz,him4,hcell4,hb4,hnew4⟩
   obtain⟨z0,z1,z2,z3,z4,z5,rfl⟩:=six hrz.1
   have hsz4:=hb4.size
   have hR3:W3.heap[w.heap.size+1]? =some (.cells #[.int .i64 0,.int .i64 0,.string ⟨#[]⟩,.slice none 0 0,.slice none 0 0,.slice none 0 0] 31 (0,0)):=(hb4.block (w.heap.size+1) (by omega)).trans hR2
   have ho:=fun i v h=>hrz.one v (zq3 (i:=i) h)
   have s0:=zGj Tryz.prog (cur:=#[.int .i64 0,.int .i64 0,.string ⟨#[]⟩,.slice none 0 0,.slice none 0 0,.slice none 0 0]) (cur':=#[z0,.int .i64 0,.string ⟨#[]⟩,.slice none 0 0,.slice none 0 0,.slice none 0 0]) hR3 (i:=0) (by simp) (ho 0 z0 rfl) rfl _ rfl
   have s1:=zGj Tryz.prog (cur:=#[z0,.int .i64 0,.string ⟨#[]⟩,.slice none 0 0,.slice none 0 0,.slice none 0 0]) (cur':=#[z0,z1,.string ⟨#[]⟩,.slice none 0 0,.slice none 0 0,.slice none 0 0]) (setRow_heap _ _ _ _ _ _ hR3) (i:=1) (by simp) (ho 1 z1 rfl) rfl _ (setRow_setRow _ _ _ _)
   have s2:=zGj Tryz.prog (cur:=#[z0,z1,.string ⟨#[]⟩,.slice none 0 0,.slice none 0 0,.slice none 0 0]) (cur':=#[z0,z1,z2,.slice none 0 0,.slice none 0 0,.slice none 0 0]) (setRow_heap _ _ _ _ _ _ hR3) (i:=2) (by simp) (ho 2 z2 rfl) rfl _ (setRow_setRow _ _ _ _)
   have s3:=zGj Tryz.prog (cur:=#[z0,z1,z2,.slice none 0 0,.slice none 0 0,.slice none 0 0]) (cur':=#[z0,z1,z2,z3,.slice none 0 0,.slice none 0 0]) (setRow_heap _ _ _ _ _ _ hR3) (i:=3) (by simp) (ho 3 z3 rfl) rfl _ (setRow_setRow _ _ _ _)
   have s4:=zGj Tryz.prog (cur:=#[z0,z1,z2,z3,.slice none 0 0,.slice none 0 0]) (cur':=#[z0,z1,z2,z3,z4,.slice none 0 0]) (setRow_heap _ _ _ _ _ _ hR3) (i:=4) (by simp) (ho 4 z4 rfl) rfl _ (setRow_setRow _ _ _ _)
   have s5:=zGj Tryz.prog (cur:=#[z0,z1,z2,z3,z4,.slice none 0 0]) (cur':=#[z0,z1,z2,z3,z4,z5]) (setRow_heap _ _ _ _ _ _ hR3) (i:=5) (by simp) (ho 5 z5 rfl) rfl _ (setRow_setRow _ _ _ _)
   clear ho
   go_wp2
   have hw6: ∀p q,imm4 p=some q->(W3.setRow (w.heap.size+1) #[z0,z1,z2,z3,z4,z5]).cell? p=some q:=fun p q hp=>by
    rw[cell_setRow_other]
    ·exact hcell4 p q hp
    ·rcases hnew4 p q hp with h1|h1
     ·rcases hnew3 p q h1 with h2|h2
      ·rcases hi3 p q h2 with h4|h4
       ·have:=hlt p q h4;omega
       ·omega
      ·omega
     ·omega
   have hbel4:Below w.heap.size w (W3.setRow (w.heap.size+1) #[z0,z1,z2,z3,z4,z5]):=zJw ((hbel.trans (hb3.mono (by omega))).trans (hb4.mono (by omega))) (by omega) _
   have hld:=load_con (setRow_heap _ _ _ #[z0,z1,z2,z3,z4,z5] _ _ hR3) rfl
   have hres:Tryz.f152.results=#[.cell 2 31,.tmp 3,.tmp 4]:=rfl
   refine⟨rfl,.tuple #[.agg #[z0,z1,z2,z3,z4,z5],u5,.int .i64 0],?_,imm4,_,rfl,?_,fun p q hp=>him4 _ _ (him3 _ _ (hi1 _ _ hp)),hw6,hbel4,fun p q hp=>?_⟩
   ·simp[results,hres,asAddr,hld]
   ·refine .tup _ _ rfl fun i y hy=>?_
    rcases i with _|_|_|i
    ·cases hy
     exact .agg _ _ rfl fun i y hy=>hrz.2 i y (by rw[zLd.c_eq];exact hy)
    ·cases hy
     have:=hrep.monoI him4
     rw[List.map_reverse] at this
     exact this
    ·cases hy
     exact .int _ _ (by decide)
    ·cases hy
   ·rcases hnew4 p q hp with h1|h1
    ·rcases hnew3 p q h1 with h2|h2
     ·rcases hi3 p q h2 with h4|h4
      ·exact .inl h4
      ·exact .inr (by omega)
     ·exact .inr (by omega)
    ·exact .inr (by omega)
theorem spine_not(fuel:Nat)(c1:zLd)(q3:zBZ fuel c1=some false):Pure Tryz.prog 152 [.agg [.int .i64 c1.Op,.int .i64 c1.N,.str c1.S,.sl (c1.Kind.L.map zLb.c),.sl (c1.Names.map cS),.sl (c1.L.map zLd.c)]] (.tup [.agg (zLd.c (zLd.mk 0 0 [] (zLb.mk []) [] [])),.sl (([]:List zLd).map zLd.c),.int .i64 1]):=by
 refine zAE Tryz.func152 (by rfl) (by rfl) (by simp) (by simp) (by simp) ?_
 refine cut 30 0 [(1,.mptr 0 0),(2,.mptr 1 0)] [(zLd.d c1),[.int .i64 0,.int .i64 0,.str ([]:List UInt8),.osl ⟨1,42⟩ (([]:List zLb).map zLb.c),.osl ⟨1,9⟩ (([]:List (List UInt8)).map cS),.osl ⟨6,45⟩ (([]:List zLd).map zLd.c)]] ?_ ?_
 ·refine st ?_
  simp
 refine zAC ?_
 refine cut 30 0 [(1,.mptr 0 0),(2,.mptr 1 0),(8,.bool true)] [(zLd.d c1),[.int .i64 0,.int .i64 0,.str ([]:List UInt8),.osl ⟨1,42⟩ (([]:List zLb).map zLb.c),.osl ⟨1,9⟩ (([]:List (List UInt8)).map cS),.osl ⟨6,45⟩ (([]:List zLd).map zLd.c)]] ?_ ?_
 ·refine st ?_
  simp
  have r46:=zCR fuel c1 false q3
  try simp at r46
  refine zAA r46 (by simp) rfl ?_
  simp
 refine zD5 rfl rfl ?_
 refine cut 30 0 [(2,.mptr 1 0),(3,.osl ⟨6,45⟩ (([]:List zLd).map zLd.c)),(4,.int .i64 1)] [(zLd.d c1),[.int .i64 0,.int .i64 0,.str ([]:List UInt8),.osl ⟨1,42⟩ (([]:List zLb).map zLb.c),.osl ⟨1,9⟩ (([]:List (List UInt8)).map cS),.osl ⟨6,45⟩ (([]:List zLd).map zLd.c)]] ?_ ?_
 ·refine st ?_
  simp
 refine zAB ?_
 refine zAF ?_
 simp
theorem zKo(fuel:Nat)(c1:zLd)(r:zLd×(List zLd)×Int)(h:zFI fuel c1=some r):Pure Tryz.prog 152 [.agg [.int .i64 c1.Op,.int .i64 c1.N,.str c1.S,.sl (c1.Kind.L.map zLb.c),.sl (c1.Names.map cS),.sl (c1.L.map zLd.c)]] (.tup [.agg [.int .i64 r.1.Op,.int .i64 r.1.N,.str r.1.S,.sl (r.1.Kind.L.map zLb.c),.sl (r.1.Names.map cS),.sl (r.1.L.map zLd.c)],.sl (r.2.1.map zLd.c),.int .i64 r.2.2]):=by
 rw[zFI] at h
 obtain⟨v,hv,h⟩:=bs h
 cases v with
 |false=>
  have:=spine_not fuel c1 hv
  cases h
  simpa using this
 |true=>
  simp only[Bool.not_true,Bool.false_eq_true,if_false] at h
  obtain⟨o,ho,h⟩:=bs h
  obtain⟨z,hz,h⟩:=bs h
  obtain rfl:=oi h
  refine⟨⟨Tryz.f152,Tryz.func152,rfl,rfl⟩,fun imm w vals him hgl htb hr=>?_⟩
  have h1:vals.size=1:=by simpa using hr.1
  obtain⟨u,rfl⟩: ∃u,vals=#[u]:=⟨vals[0],by
   refine Array.ext (by simp[h1]) fun i hi1 hi2=>?_
   obtain rfl:i=0:=by omega
   rfl⟩
  have hu:=hr.2 0 _ rfl
  simp at hu
  cases hu with
  |agg _ us hs hu=>
  obtain⟨u0,u1,u2,u3,u4,u5,rfl⟩:=six (by simpa using hs)
  have:=spine_any fuel c1 o z hv ho hz imm w u0 u1 u2 u3 u4 u5 him hgl htb ⟨rfl,fun i y hy=>hu i y (by simpa using hy)⟩
  simpa using this
end Go.Proofs.YtencdekdgajgfaaGreatDoor
namespace Go.Proofs.YtencdekdgajgfaaGreatDoor
open Go Go.Abs
theorem zJd(fuel:Nat)(c1:zLd)(r:zLd×Int)(h:zEB fuel c1=some r):Pure Tryz.prog 104 [.agg (zLd.d c1)] (.tup [.agg (zLd.d r.1),iI r.2]):=by
 rw[zEB] at h
 refine zAE Tryz.func104 (by rfl) (by rfl) (by simp) (by simp) (by simp)<|cutA 67 0 [(1,pT 0),(2,pT 1)] [(zLd.d c1),zz0] ?_
 obtain⟨v2,q3,h⟩:=bs h
 refine cut 67 0 [(1,pT 0),(2,pT 1),(4,iI v2.2)] [(zLd.d v2.1),zz0] ?_ ?_
 ·refine st ?_
  simp
  have r66:=zFc fuel c1 v2 q3
  try simp at r66
  refine zAA r66 (by simp) rfl ?_
  simp
 refine zAC<|cutA 67 0 [(1,pT 0),(2,pT 1),(4,iI v2.2),(16,.bool (!(eqI v2.2 0)))] [(zLd.d v2.1),zz0] ?_
 rcases sp h with ⟨g4,h⟩|⟨g4,h⟩
 ·have g5:=notT g4
  have c6:=eqF g5
  refine zD5 rfl g4<|cutA 67 0 [(2,pT 1),(3,iI v2.2)] [(zLd.d v2.1),zz0]<|zAB<|zAF ?_
  cases h
  simp
 have g7:=notF g4
 have c8:=eqT g7
 refine zEK rfl g4<|zAD<|zAK ?_
 obtain⟨v9,q10,h⟩:=bs h
 refine cut 67 0 [(2,pT 1),(4,iI v9.2.2),(5,pT 2),(6,.sl (v9.2.1.map zLd.c))] [(zLd.d v2.1),zz0,(zLd.d v9.1)] ?_ ?_
 ·refine st ?_
  simp
  have r65:=zKo fuel v2.1 v9 q10
  try simp at r65
  refine zAA r65 (by simp) rfl ?_
  simp
 refine zAC<|zAG<|cutA 67 0 [(2,pT 1),(5,pT 2),(6,.sl (v9.2.1.map zLd.c)),(25,.bool (!(eqI v9.2.2 0)))] [(zLd.d v2.1),zz0,(zLd.d v9.1)] ?_
 rcases sp h with ⟨g11,h⟩|⟨g11,h⟩
 ·have g12:=notT g11
  have c13:=eqF g12
  refine zD5 rfl g11<|cutA 67 0 [(2,pT 1),(3,iI 27)] [(zLd.d v2.1),zz0,(zLd.d v9.1)]<|zAB<|zAQ<|zAF ?_
  cases h
  simp
 have g14:=notF g11
 have c15:=eqT g14
 refine zEK rfl g11<|cutA 67 0 [(2,pT 1),(5,pT 2),(6,.sl (v9.2.1.map zLd.c)),(29,.bool (!(eqI v9.1.Op 13)))] [(zLd.d v2.1),zz0,(zLd.d v9.1)] ?_
 rcases sp h with ⟨g16,h⟩|⟨g16,h⟩
 ·have g17:=notT g16
  have c18:=eqF g17
  refine zD5 rfl g16<|cutA 67 0 [(2,pT 1),(3,iI 12)] [(zLd.d v2.1),zz0,(zLd.d v9.1)]<|zAB<|zAQ<|zAF ?_
  cases h
  simp
 have g19:=notF g16
 have c20:=eqT g19
 refine zEK rfl g16<|zAD<|zDg<|zAK ?_
 obtain⟨x21,q22,h⟩:=bs h
 obtain⟨v23,q24,h⟩:=bs h
 refine cut 67 0 [(2,pT 1),(4,iI v23.2),(6,.sl (v9.2.1.map zLd.c)),(7,pT 3)] [(zLd.d v2.1),zz0,(zLd.d v9.1),(zLd.d v23.1)] ?_ ?_
 ·refine zAN [] mixed (n:=67) rfl (by decide) ?_
  simp[q22]
  have r64:=zH0 fuel x21 [v9.1] v23 q24
  try simp[q22] at r64
  refine zGc r64 (by simp) rfl ?_
  simp[q22]
 refine zAC<|cutA 67 0 [(2,pT 1),(6,.sl (v9.2.1.map zLd.c)),(7,pT 3),(45,.bool (!(eqI v23.2 0)))] [(zLd.d v2.1),zz0,(zLd.d v9.1),(zLd.d v23.1)] ?_
 rcases sp h with ⟨g25,h⟩|⟨g25,h⟩
 ·have g26:=notT g25
  have c27:=eqF g26
  refine zD5 rfl g25<|cutA 67 0 [(2,pT 1),(3,iI 27)] [(zLd.d v2.1),zz0,(zLd.d v9.1),(zLd.d v23.1)]<|zAB<|zAF ?_
  cases h
  simp
 have g28:=notF g25
 have c29:=eqT g28
 refine zEK rfl g25<|zAD<|zAK<|zAC<|cutA 67 0 [(2,pT 1),(7,pT 3),(47,.sl (v9.2.1.map zLd.c)),(48,iI v9.2.1.length),(49,iI 0)] [(zLd.d v2.1),zz0,(zLd.d v9.1),(zLd.d v23.1)]<|zAG ?_
 obtain⟨o37,l38,h⟩:=bs h
 refine zBR (fun p:Nat×Int×Int×(List UInt8)×(List zLb)×(List (List UInt8))×(List zLd)×Nat=>mkS 67 0 [(2,pT 1),(7,pT 3),(47,.sl (v9.2.1.map zLd.c)),(48,iI v9.2.1.length),(49,iI p.2.2.2.2.2.2.2)] [(zLd.d v2.1),zz0,(zLd.d v9.1),[iI p.2.1,iI p.2.2.1,.str p.2.2.2.1,.sl (p.2.2.2.2.1.map zLb.c),.sl (p.2.2.2.2.2.1.map cS),.sl (p.2.2.2.2.2.2.1.map zLd.c)]]) (fun p=>zCP v9 p.1 p.2.1 p.2.2.1 p.2.2.2.1 p.2.2.2.2.1 p.2.2.2.2.2.1 p.2.2.2.2.2.2.1 p.2.2.2.2.2.2.2=some o37) (fun p=>p.1) (fuel,v23.1.Op,v23.1.N,v23.1.S,v23.1.Kind.L,v23.1.Names,v23.1.L,0) l38 (zA1 (by simp)) ?_
 rintro⟨k39,Op30,N31,S32,Kind33,Names34,L35,i36⟩ l38
 try dsimp only at l38 ⊢
 cases k39 with
 |zero=>
  rw[zCP] at l38;cases l38
 |succ k40=>
  rw[zCP] at l38
  refine cutA 67 0 [(2,pT 1),(7,pT 3),(47,.sl (v9.2.1.map zLd.c)),(48,iI v9.2.1.length),(49,iI i36),(50,.bool (ltI ((i36:Nat):Int) (v9.2.1.length:Int)))] [(zLd.d v2.1),zz0,(zLd.d v9.1),[iI Op30,iI N31,.str S32,.sl (Kind33.map zLb.c),.sl (Names34.map cS),.sl (L35.map zLd.c)]]<|zAC<|spc l38 rfl (fun g41 l38=>?_) fun g41 l38=>?_
  ·have c42:=ltT g41
   refine zCe 47 rfl fun f43=>?_
   rw[zq4] at f43
   refine zAD<|zAK<|zAC<|zAG ?_
   obtain⟨x44,q45,l38⟩:=bs l38
   refine cut 67 0 [(2,pT 1),(7,pT 3),(9,pT 4),(47,.sl (v9.2.1.map zLd.c)),(48,iI v9.2.1.length),(49,iI i36)] [(zLd.d v2.1),zz0,(zLd.d v9.1),[iI Op30,iI N31,.str S32,.sl (Kind33.map zLb.c),.sl (Names34.map cS),.sl (L35.map zLd.c)],(zLd.d x44)] (st (by simp[q45]))<|last 67 0 [(2,pT 1),(7,pT 3),(47,.sl (v9.2.1.map zLd.c)),(48,iI v9.2.1.length),(49,iI i36)] [(zLd.d v2.1),zz0,(zLd.d v9.1),[iI 12,iI 0,.str ([]:List UInt8),.osl ⟨1,27⟩ (([]:List zLb).map zLb.c),.osl ⟨1,9⟩ (([]:List (List UInt8)).map cS),.sl ([(zLd.mk Op30 N31 S32 (zLb.mk Kind33) Names34 L35),x44].map zLd.c)],(zLd.d x44)] (st (by simp)) fun zz hs=>?_
   refine zDg<|zBS ?_ hs
   have q46:Rng .i64 (((i36:Nat):Int)+1):=by simp only[Rng,inR];omega
   try simp at q46
   refine last 67 0 [(2,pT 1),(7,pT 3),(47,.sl (v9.2.1.map zLd.c)),(48,iI v9.2.1.length),(49,iI ((i36+1:Nat):Int))] [(zLd.d v2.1),zz0,(zLd.d v9.1),[iI 12,iI 0,.str ([]:List UInt8),.sl (([]:List zLb).map zLb.c),.sl (([]:List (List UInt8)).map cS),.sl ([(zLd.mk Op30 N31 S32 (zLb.mk Kind33) Names34 L35),x44].map zLd.c)]] (st (by simp[q46])) fun zz hs=>?_
   exact⟨(k40,12,0,([]:List UInt8),([]:List zLb),([]:List (List UInt8)),[(zLd.mk Op30 N31 S32 (zLb.mk Kind33) Names34 L35),x44],i36+1),hs,l38,by simp⟩
  have c47:=ltF g41
  refine zCe 47 rfl fun f48=>?_
  rw[zq4] at f48
  refine zAp<|zAH ?_
  have q49:=zqa l38
  have q50:o37.1=Op30:=by rw[<-q49]
  have q51:o37.2.1=N31:=by rw[<-q49]
  have q52:o37.2.2.1=S32:=by rw[<-q49]
  have q53:o37.2.2.2.1=Kind33:=by rw[<-q49]
  have q54:o37.2.2.2.2.1=Names34:=by rw[<-q49]
  have q55:o37.2.2.2.2.2=L35:=by rw[<-q49]
  refine zAH<|zAt<|zBS (t:=mkS 67 0 [(2,pT 1),(7,pT 3)] [(zLd.d v2.1),zz0,(zLd.d v9.1),[iI o37.1,iI o37.2.1,.str o37.2.2.1,.sl (o37.2.2.2.1.map zLb.c),.sl (o37.2.2.2.2.1.map cS),.sl (o37.2.2.2.2.2.map zLd.c)]]) ?_ (zA1 (by simp[q50,q51,q52,q53,q54,q55]))
  refine zAC ?_
  obtain⟨v56,q57,h⟩:=bs h
  refine cut 67 0 [(2,pT 1),(4,iI v56.2),(7,pT 3)] [(zLd.d v2.1),zz0,(zLd.d v9.1),(zLd.d v56.1)] ?_ ?_
  ·refine st ?_
   simp
   have r63:=zFc fuel (zLd.mk o37.1 o37.2.1 o37.2.2.1 (zLb.mk o37.2.2.2.1) o37.2.2.2.2.1 o37.2.2.2.2.2) v56 q57
   try simp at r63
   refine zAA r63 (by simp) rfl ?_
   simp
  refine cutA 67 0 [(2,pT 1),(7,pT 3),(64,.bool (!(eqI v56.2 0)))] [(zLd.d v2.1),zz0,(zLd.d v9.1),(zLd.d v56.1)] ?_
  rcases sp h with ⟨g58,h⟩|⟨g58,h⟩
  ·have g59:=notT g58
   have c60:=eqF g59
   refine zD5 rfl g58<|cutA 67 0 [(2,pT 1),(3,iI 27)] [(zLd.d v2.1),zz0,(zLd.d v9.1),(zLd.d v56.1)]<|zAB<|zAF ?_
   cases h
   simp
  have g61:=notF g58
  have c62:=eqT g61
  refine zEK rfl g58<|zAD<|zAK<|cutA 67 0 [(2,pT 1),(3,iI 0)] [(zLd.d v2.1),(zLd.d v56.1),(zLd.d v9.1),(zLd.d v56.1)]<|zAB ?_
  cases h
  simp
theorem ident_Find_ok(fuel:Nat)(l1:(List (List UInt8)))(s2:(List UInt8))(r:Int)(h:zFo fuel l1 s2=some r):Pure Tryz.prog 105 [.sl (l1.map cS),.str s2] (iI r):=by
 rw[zFo] at h
 refine zAE Tryz.func105 (by rfl) (by rfl) (by simp) (by simp) (by simp)<|cutA 19 0 [(0,.sl (l1.map cS)),(1,.str s2)] []<|zAC<|cutA 19 0 [(1,.str s2),(7,.sl (l1.map cS)),(8,iI l1.length),(9,iI 0)] []<|zAG ?_
 obtain⟨o5,l6,h⟩:=bs h
 refine zBR (fun p:Nat×Nat=>mkS 19 0 [(1,.str s2),(7,.sl (l1.map cS)),(8,iI l1.length),(9,iI p.2)] []) (fun p=>zDK l1 s2 p.1 p.2=some o5) (fun p=>p.1) (fuel,0) l6 (zA1 (by simp)) ?_
 rintro⟨k7,i3⟩ l6
 try dsimp only at l6 ⊢
 cases k7 with
 |zero=>
  rw[zDK] at l6;cases l6
 |succ k8=>
  rw[zDK] at l6
  refine cutA 19 0 [(1,.str s2),(7,.sl (l1.map cS)),(8,iI l1.length),(9,iI i3),(10,.bool (ltI ((i3:Nat):Int) (l1.length:Int)))] []<|zAC<|spc l6 rfl (fun g9 l6=>?_) fun g9 l6=>?_
  ·have c10:=ltT g9
   refine zCe 7 rfl fun f11=>?_
   rw[zq4] at f11
   refine zAD<|zAK<|zAC<|zAG ?_
   obtain⟨x12,q13,l6⟩:=bs l6
   refine cut 19 0 [(1,.str s2),(5,iI i3),(6,.str x12),(7,.sl (l1.map cS)),(8,iI l1.length),(9,iI i3)] [] (st (by simp[q13]))<|cutA 19 0 [(1,.str s2),(5,iI i3),(7,.sl (l1.map cS)),(8,iI l1.length),(9,iI i3),(16,.bool (eqS x12 s2))] []<|spc l6 rfl (fun g14 l6=>?_) fun g14 l6=>?_
   ·refine cutA 19 0 [(4,iI i3)] []<|zAB<|zAQ<|zAF ?_
    replace h:=retL l6 h
    refine zAF<|zAQ<|zAF ?_
    cases h
    simp
   refine zAD<|zDg<|zAK ?_
   have q15:Rng .i64 (((i3:Nat):Int)+1):=by simp only[Rng,inR];omega
   try simp at q15
   refine last 19 0 [(1,.str s2),(7,.sl (l1.map cS)),(8,iI l1.length),(9,iI ((i3+1:Nat):Int))] [] (st (by simp[q15])) fun zz hs=>?_
   exact⟨(k8,i3+1),hs,l6,by simp⟩
  have c16:=ltF g9
  refine zCe 7 rfl fun f17=>?_
  rw[zq4] at f17
  refine zAp<|zAH ?_
  rcases o5 with o5|o4
  ·cases l6
  have q18:=Sum.inr.inj (zqa l6)
  replace h:=zIl h
  refine zAH<|zAt<|zBS (t:=mkS 19 0 [] []) ?_ (zA1 (by simp))
  refine cutA 19 0 [(4,iI (-1))] []<|zAB ?_
  cases h
  simp
theorem zJ9(c1:zLd)(r:Bool)(h:zGg c1=some r):Pure Tryz.prog 106 [.agg (zLd.d c1)] (.bool r):=by
 rw[zGg] at h
 refine zAE Tryz.func106 (by rfl) (by rfl) (by simp) (by simp) (by simp)<|cutA 12 0 [(1,pT 0)] [(zLd.d c1)]<|cut 12 0 [(2,.bool ((eqI c1.Op 7)&&(eqI (c1.L.length:Int) 0)))] [(zLd.d c1)] ?_ ?_
 ·rcases tf (eqI c1.Op 7) with g2|g2
  ·have c3:=eqT g2
   refine st ?_
   simp[g2]
  have c4:=eqF g2
  refine st ?_
  simp[g2]
 refine zAB ?_
 cases h
 simp
theorem zCz(fuel:Nat):(∀(p1:zLc)(c2:zLd)(w3:zLX)(r:Int×zLX)(_:zAq fuel p1 c2 w3=some r),Raw Tryz.prog 62 [pT 0,.agg (zLc.d p1),.agg (zLd.d c2)] [[.osl ⟨7,64⟩ (w3.binds.map zLa.c)]] (iI r.1) [[.osl ⟨7,64⟩ (r.2.binds.map zLa.c)]])∧(∀(p1:zLc)(c2:zLd)(w3:zLX)(r:Int×zLX)(_:zAO fuel p1 c2 w3=some r),Raw Tryz.prog 31 [pT 0,.agg (zLc.d p1),.agg (zLd.d c2)] [[.osl ⟨7,64⟩ (w3.binds.map zLa.c)]] (iI r.1) [[.osl ⟨7,64⟩ (r.2.binds.map zLa.c)]]):=by
 induction fuel with
 |zero=>
  refine⟨?_,?_⟩
  ·intro p1 c2 w3 r h;rw[zAq] at h;cases h
  ·intro p1 c2 w3 r h;rw[zAO] at h;cases h
 |succ fuel ih=>
  obtain⟨zFT,zES⟩:=ih
  refine⟨?_,?_⟩
  ·intro p1 c2 w3 r h
   rw[zAq] at h
   refine zAw Tryz.func62 (by rfl) (by rfl) (by simp) (by simp)<|cutA 63 1 [(0,pT 0),(4,pT 1),(5,pT 2)] [[.osl ⟨7,64⟩ (w3.binds.map zLa.c)],(zLc.d p1),(zLd.d c2)] ?_
   obtain⟨v4,q5,h⟩:=bs h
   refine cut 63 1 [(0,pT 0),(4,pT 1),(7,pT 3),(8,iI v4.2)] [[.osl ⟨7,64⟩ (w3.binds.map zLa.c)],(zLc.d p1),(zLd.d c2),(zLd.d v4.1)] ?_ ?_
   ·refine st ?_
    simp
    have r45:=zJd fuel c2 v4 q5
    refine zAA r45 (by simp) rfl ?_
    simp
   refine zAC<|zAG<|cutA 63 1 [(0,pT 0),(4,pT 1),(7,pT 3),(8,iI v4.2),(15,.bool (eqI v4.2 27))] [[.osl ⟨7,64⟩ (w3.binds.map zLa.c)],(zLc.d p1),(zLd.d c2),(zLd.d v4.1)]<|spc h rfl (fun g6 h=>?_) fun g6 h=>?_
   ·refine cutA 63 1 [(6,iI v4.2)] [[.osl ⟨7,64⟩ (w3.binds.map zLa.c)],(zLc.d p1),(zLd.d c2),(zLd.d v4.1)]<|zAB<|zAQ<|zAF ?_
    cases h
    simp
   have c8:=eqF g6
   refine cut 63 1 [(0,pT 0),(4,pT 1),(7,pT 3),(19,.bool ((!(eqI v4.2 0))||(!(eqI v4.1.Op 8))))] [[.osl ⟨7,64⟩ (w3.binds.map zLa.c)],(zLc.d p1),(zLd.d c2),(zLd.d v4.1)] ?_ ?_
   ·rcases tf (!(eqI v4.2 0)) with g9|g9
    ·have g10:=notT g9
     refine st ?_
     simp[g9]
    have g12:=notF g9
    refine st ?_
    simp[g9]
   rcases sp h with ⟨g14,h⟩|⟨g14,h⟩
   ·refine zD5 rfl g14<|cutA 63 1 [(6,iI 12)] [[.osl ⟨7,64⟩ (w3.binds.map zLa.c)],(zLc.d p1),(zLd.d c2),(zLd.d v4.1)]<|zAB<|zAQ<|zAF ?_
    cases h
    simp
   obtain⟨g15,g16⟩:=orF g14
   have g17:=notF g15
   have c18:=eqT g17
   have g19:=notF g16
   refine zEK rfl g14<|zAD<|zDg<|zAK ?_
   obtain⟨v21,q22,h⟩:=bs h
   refine cut 63 1 [(0,pT 0),(4,pT 1),(7,pT 3),(9,iI v21)] [[.osl ⟨7,64⟩ (w3.binds.map zLa.c)],(zLc.d p1),(zLd.d c2),(zLd.d v4.1)] ?_ ?_
   ·refine st ?_
    simp
    have r44:=ident_Find_ok fuel v4.1.Names p1.S v21 q22
    refine zAA r44 (by simp) rfl ?_
    simp
   refine zAC<|zAG<|cutA 63 1 [(0,pT 0),(4,pT 1),(7,pT 3),(9,iI v21),(32,.bool (ltI v21 0))] [[.osl ⟨7,64⟩ (w3.binds.map zLa.c)],(zLc.d p1),(zLd.d c2),(zLd.d v4.1)]<|spc h rfl (fun g23 h=>?_) fun g23 h=>?_
   ·have c24:=ltT g23
    refine cutA 63 1 [(6,iI 10)] [[.osl ⟨7,64⟩ (w3.binds.map zLa.c)],(zLc.d p1),(zLd.d c2),(zLd.d v4.1)]<|zAB<|zAQ<|zAF ?_
    cases h
    simp
   obtain⟨x26,q27,h⟩:=bs h
   obtain⟨q28,q29⟩:=idx_ok q27
   obtain⟨v30,q31,h⟩:=bs h
   refine cut 63 1 [(0,pT 0),(4,pT 1),(7,pT 3),(9,iI v21),(35,.bool (!(eqB v30 (eqI (p1.L.length:Int) 0))))] [[.osl ⟨7,64⟩ (w3.binds.map zLa.c)],(zLc.d p1),(zLd.d c2),(zLd.d v4.1)] ?_ ?_
   ·refine zAN [] mixed (n:=63) rfl (by decide) ?_
    simp[q28,q29]
    have r43:=zJ9 x26 v30 q31
    refine zGc r43 (by simp) rfl ?_
    simp[q28,q29]
   refine spc h rfl (fun g32 h=>?_) fun g32 h=>?_
   ·refine cutA 63 1 [(6,iI 12)] [[.osl ⟨7,64⟩ (w3.binds.map zLa.c)],(zLc.d p1),(zLd.d c2),(zLd.d v4.1)]<|zAB<|zAQ<|zAF ?_
    cases h
    simp
   refine cutA 63 1 [(0,pT 0),(4,pT 1),(7,pT 3),(9,iI v21),(47,.bool (eqI (p1.L.length:Int) 0))] [[.osl ⟨7,64⟩ (w3.binds.map zLa.c)],(zLc.d p1),(zLd.d c2),(zLd.d v4.1)]<|spc h rfl (fun g35 h=>?_) fun g35 h=>?_
   ·refine cutA 63 1 [(6,iI 0)] [[.osl ⟨7,64⟩ (w3.binds.map zLa.c)],(zLc.d p1),(zLd.d c2),(zLd.d v4.1)]<|zAB<|zAQ<|zAF ?_
    cases h
    simp
   refine zAD<|zDg<|zAK ?_
   obtain⟨x38,q39,h⟩:=bs h
   obtain⟨v40,q41,h⟩:=bs h
   refine cut 63 1 [(6,iI v40.1)] [[.osl ⟨7,64⟩ (v40.2.binds.map zLa.c)],(zLc.d p1),(zLd.d c2),(zLd.d v4.1)] ?_ ?_
   ·refine zAc [] [10] mixed (n:=63) rfl (by decide) (by decide) ?_
    simp[q39,q28,q29]
    have r42:=(zES x38 x26 w3 v40 q41).frame [0] [[.osl ⟨7,64⟩ (w3.binds.map zLa.c)],(zLc.d p1),(zLd.d c2),(zLd.d v4.1)] (by simp)
    refine callX r42 (by simp[q39,q28,q29]) rfl ?_
    simp[q39,q28,q29]
   refine zAB ?_
   cases h
   simp
  ·intro p1 c2 w3 r h
   rw[zAO] at h
   refine zAw Tryz.func31 (by rfl) (by rfl) (by simp) (by simp)<|cutA 79 1 [(0,pT 0),(4,pT 1),(5,pT 2)] [[.osl ⟨7,64⟩ (w3.binds.map zLa.c)],(zLc.d p1),(zLd.d c2)]<|zAC<|cutA 79 1 [(0,pT 0),(4,pT 1),(5,pT 2),(13,iI p1.Op)] [[.osl ⟨7,64⟩ (w3.binds.map zLa.c)],(zLc.d p1),(zLd.d c2)]<|zAG<|cutA 79 1 [(0,pT 0),(4,pT 1),(5,pT 2),(13,iI p1.Op),(14,.bool (eqI p1.Op 1))] [[.osl ⟨7,64⟩ (w3.binds.map zLa.c)],(zLc.d p1),(zLd.d c2)]<|spc h rfl (fun g4 h=>?_) fun g4 h=>?_
   ·refine cutA 79 1 [(6,iI 0)] [[.osl ⟨7,64⟩ (w3.binds.map zLa.c)],(zLc.d p1),(zLd.d c2)]<|zAB<|zAQ<|zAF ?_
    cases h
    simp
   refine cutA 79 1 [(0,pT 0),(4,pT 1),(5,pT 2),(13,iI p1.Op),(16,.bool (eqI p1.Op 2))] [[.osl ⟨7,64⟩ (w3.binds.map zLa.c)],(zLc.d p1),(zLd.d c2)]<|spc h rfl (fun g7 h=>?_) fun g7 h=>?_
   ·obtain⟨v9,q10,h⟩:=bs h
    refine cut 79 1 [(0,pT 0),(4,pT 1),(7,pT 3)] [[.osl ⟨7,64⟩ (w3.binds.map zLa.c)],(zLc.d p1),(zLd.d c2),(zLd.d v9.1)] ?_ ?_
    ·refine st ?_
     simp
     have r15:=zH1 fuel c2 0 0 v9 q10
     refine zAA r15 (by simp) rfl ?_
     simp
    obtain⟨l11,q12,h⟩:=bs h
    obtain⟨q13,q14⟩:=zHG q12
    try simp at q13
    refine cut 79 1 [] [[.osl ⟨7,64⟩ (l11.map zLa.c)],(zLc.d p1),(zLd.d c2),(zLd.d v9.1)] ?_ ?_
    ·refine zAc [994] [13] mixed (n:=79) rfl (by decide) (by decide) ?_
     simp[q13,q14]
    refine cutA 79 1 [(6,iI 0)] [[.osl ⟨7,64⟩ (l11.map zLa.c)],(zLc.d p1),(zLd.d c2),(zLd.d v9.1)]<|zAB<|zAQ<|zAF ?_
    cases h
    simp
   refine cutA 79 1 [(0,pT 0),(4,pT 1),(5,pT 2),(13,iI p1.Op),(36,.bool (eqI p1.Op 3))] [[.osl ⟨7,64⟩ (w3.binds.map zLa.c)],(zLc.d p1),(zLd.d c2)]<|spc h rfl (fun g17 h=>?_) fun g17 h=>?_
   ·refine zAC<|cutA 79 1 [(40,.bool (!(eqI c2.Op 4)))] [[.osl ⟨7,64⟩ (w3.binds.map zLa.c)],(zLc.d p1),(zLd.d c2)] ?_
    rcases sp h with ⟨g19,h⟩|⟨g19,h⟩
    ·have g20:=notT g19
     have c21:=eqF g20
     refine zD5 rfl g19<|cutA 79 1 [(6,iI 12)] [[.osl ⟨7,64⟩ (w3.binds.map zLa.c)],(zLc.d p1),(zLd.d c2)]<|zAB<|zAF<|zAQ<|zAF ?_
     cases h
     simp
    have g22:=notF g19
    have c23:=eqT g22
    refine zEK rfl g19<|zAD<|zAK<|cutA 79 1 [(6,iI 0)] [[.osl ⟨7,64⟩ (w3.binds.map zLa.c)],(zLc.d p1),(zLd.d c2)]<|zAB<|zAQ<|zAF ?_
    cases h
    simp
   refine cutA 79 1 [(0,pT 0),(4,pT 1),(5,pT 2),(41,.bool (eqI p1.Op 5))] [[.osl ⟨7,64⟩ (w3.binds.map zLa.c)],(zLc.d p1),(zLd.d c2)]<|spc h rfl (fun g25 h=>?_) fun g25 h=>?_
   ·refine zAC ?_
    obtain⟨b34,q35,h⟩:=bs h
    refine cut 79 1 [(0,pT 0),(4,pT 1),(5,pT 2),(54,.bool b34)] [[.osl ⟨7,64⟩ (w3.binds.map zLa.c)],(zLc.d p1),(zLd.d c2)] ?_ ?_
    ·rcases sp q35 with ⟨g27,q35⟩|⟨g27,q35⟩
     ·have g28:=notT g27
      have c29:=eqF g28
      obtain rfl:=oi q35
      refine st ?_
      simp[g27]
     have g30:=notF g27
     have c31:=eqT g30
     obtain⟨v32,q33,q35⟩:=bs q35
     obtain rfl:=oi q35
     refine st ?_
     simp[g27]
     have r63:=zFu fuel c2.Names (p1.L.length:Int) v32 q33
     try simp[g27] at r63
     refine zAA r63 (by simp) rfl ?_
     simp[g27]
    refine spc h rfl (fun g36 h=>?_) fun g36 h=>?_
    ·refine cutA 79 1 [(6,iI 12)] [[.osl ⟨7,64⟩ (w3.binds.map zLa.c)],(zLc.d p1),(zLd.d c2)]<|zAB<|zAF<|zAQ<|zAF ?_
     cases h
     simp
    refine zAD<|zAK<|zAC<|cutA 79 1 [(0,pT 0),(5,pT 2),(56,.sl (p1.L.map zLc.c)),(57,iI p1.L.length),(58,iI 0)] [[.osl ⟨7,64⟩ (w3.binds.map zLa.c)],(zLc.d p1),(zLd.d c2)]<|zAG ?_
    obtain⟨o40,l41,h⟩:=bs h
    refine zBR (fun p:Nat×(List zLa)×Nat=>mkS 79 1 [(0,pT 0),(5,pT 2),(56,.sl (p1.L.map zLc.c)),(57,iI p1.L.length),(58,iI p.2.2)] [[.osl ⟨7,64⟩ (p.2.1.map zLa.c)],(zLc.d p1),(zLd.d c2)]) (fun p=>zAR (zAO fuel) p1 c2 p.1 p.2.1 p.2.2=some o40) (fun p=>p.1) (fuel,w3.binds,0) l41 (zA1 (by simp)) ?_
    rintro⟨k42,binds37,i38⟩ l41
    try dsimp only at l41 ⊢
    cases k42 with
    |zero=>
     rw[zAR] at l41;cases l41
    |succ k43=>
     rw[zAR] at l41
     refine cutA 79 1 [(0,pT 0),(5,pT 2),(56,.sl (p1.L.map zLc.c)),(57,iI p1.L.length),(58,iI i38),(59,.bool (ltI ((i38:Nat):Int) (p1.L.length:Int)))] [[.osl ⟨7,64⟩ (binds37.map zLa.c)],(zLc.d p1),(zLd.d c2)]<|zAC<|spc l41 rfl (fun g44 l41=>?_) fun g44 l41=>?_
     ·have c45:=ltT g44
      refine zCe 56 rfl fun f46=>?_
      rw[zq4] at f46
      refine zAD<|zAK<|zAC<|zAG ?_
      obtain⟨x47,q48,l41⟩:=bs l41
      refine cut 79 1 [(0,pT 0),(5,pT 2),(9,iI i38),(10,pT 3),(56,.sl (p1.L.map zLc.c)),(57,iI p1.L.length),(58,iI i38)] [[.osl ⟨7,64⟩ (binds37.map zLa.c)],(zLc.d p1),(zLd.d c2),(zLc.d x47)] (st (by simp[q48])) ?_
      obtain⟨x49,q50,l41⟩:=bs l41
      obtain⟨v51,q52,l41⟩:=bs l41
      refine cut 79 1 [(0,pT 0),(5,pT 2),(11,iI v51.1),(56,.sl (p1.L.map zLc.c)),(57,iI p1.L.length),(58,iI i38)] [[.osl ⟨7,64⟩ (v51.2.binds.map zLa.c)],(zLc.d p1),(zLd.d c2),(zLc.d x47)] ?_ ?_
      ·refine zAc [] [7] mixed (n:=79) rfl (by decide) (by decide) ?_
       simp[q50]
       have r59:=(zES x47 x49 (zLX.mk binds37) v51 q52).frame [0] [[.osl ⟨7,64⟩ (binds37.map zLa.c)],(zLc.d p1),(zLd.d c2),(zLc.d x47)] (by simp)
       try simp[q50] at r59
       refine callX r59 (by simp[q50]) rfl ?_
       simp[q50]
      refine cutA 79 1 [(0,pT 0),(5,pT 2),(11,iI v51.1),(56,.sl (p1.L.map zLc.c)),(57,iI p1.L.length),(58,iI i38),(72,.bool (!(eqI v51.1 0)))] [[.osl ⟨7,64⟩ (v51.2.binds.map zLa.c)],(zLc.d p1),(zLd.d c2),(zLc.d x47)] ?_
      rcases sp l41 with ⟨g53,l41⟩|⟨g53,l41⟩
      ·have g54:=notT g53
       have c55:=eqF g54
       refine zD5 rfl g53<|cutA 79 1 [(6,iI v51.1)] [[.osl ⟨7,64⟩ (v51.2.binds.map zLa.c)],(zLc.d p1),(zLd.d c2),(zLc.d x47)]<|zAB<|zAQ<|zAF ?_
       replace h:=retL l41 h
       refine zAF<|zAQ<|zAF<|zAQ<|zAF ?_
       cases h
       simp
      have g56:=notF g53
      have c57:=eqT g56
      refine zEK rfl g53<|zAD<|zDg<|zAK ?_
      have q58:Rng .i64 (((i38:Nat):Int)+1):=by simp only[Rng,inR];omega
      try simp at q58
      refine last 79 1 [(0,pT 0),(5,pT 2),(56,.sl (p1.L.map zLc.c)),(57,iI p1.L.length),(58,iI ((i38+1:Nat):Int))] [[.osl ⟨7,64⟩ (v51.2.binds.map zLa.c)],(zLc.d p1),(zLd.d c2)] (st (by simp[q58])) fun zz hs=>?_
      exact⟨(k43,v51.2.binds,i38+1),hs,l41,by simp⟩
     have c60:=ltF g44
     refine zCe 56 rfl fun f61=>?_
     rw[zq4] at f61
     refine zAp<|zAH ?_
     rcases o40 with o40|o39
     ·cases l41
     have q62:=Sum.inr.inj (zqa l41)
     replace h:=zIl h
     have q62:=q62.symm
     refine zAH<|zAt<|zBS (t:=mkS 79 1 [] [[.osl ⟨7,64⟩ (o39.map zLa.c)],(zLc.d p1),(zLd.d c2)]) ?_ (zA1 (by simp[q62]))
     refine cutA 79 1 [(6,iI 0)] [[.osl ⟨7,64⟩ (o39.map zLa.c)],(zLc.d p1),(zLd.d c2)]<|zAB<|zAQ<|zAF ?_
     cases h
     simp
   refine zAD<|zDg<|zAK ?_
   obtain⟨v65,q66,h⟩:=bs h
   refine cut 79 1 [(6,iI v65.1)] [[.osl ⟨7,64⟩ (v65.2.binds.map zLa.c)],(zLc.d p1),(zLd.d c2)] ?_ ?_
   ·refine st ?_
    simp
    have r67:=(zFT p1 c2 w3 v65 q66).frame [0] [[.osl ⟨7,64⟩ (w3.binds.map zLa.c)],(zLc.d p1),(zLd.d c2)] (by simp)
    try simp at r67
    refine zBK r67 (by simp) rfl ?_
    simp
   refine zAB ?_
   cases h
   simp
theorem zGD(fuel:Nat):(∀(p1:zLc)(c2:zLd)(w3:zLX)(r:Int×zLX)(_:zAO fuel p1 c2 w3=some r),Raw Tryz.prog 31 [pT 0,.agg (zLc.d p1),.agg (zLd.d c2)] [[.osl ⟨7,64⟩ (w3.binds.map zLa.c)]] (iI r.1) [[.osl ⟨7,64⟩ (r.2.binds.map zLa.c)]]):=(zCz fuel).2
theorem zHc(fuel:Nat)(p1:zLc)(c2:zLd)(r:(List zLa)×Int)(h:zB1 fuel p1 c2=some r):Pure Tryz.prog 8 [.agg (zLc.d p1),.agg (zLd.d c2)] (.tup [.sl (r.1.map zLa.c),iI r.2]):=by
 rw[zB1] at h
 refine zAE Tryz.func8 (by rfl) (by rfl) (by simp) (by simp) (by simp)<|cutA 39 0 [(2,pT 0),(3,pT 1)] [(zLc.d p1),(zLd.d c2)]<|zAC ?_
 obtain⟨b10,q11,h⟩:=bs h
 refine cut 39 0 [(2,pT 0),(3,pT 1),(17,.bool b10)] [(zLc.d p1),(zLd.d c2)] ?_ ?_
 ·obtain⟨v3,q4,q11⟩:=bs q11
  rcases sp q11 with ⟨g5,q11⟩|⟨g5,q11⟩
  ·have g6:=notT g5
   obtain rfl:=oi q11
   refine st ?_
   simp[g5]
   have r29:=zCX fuel p1 v3 q4
   try simp[g5] at r29
   refine zAA r29 (by simp) rfl ?_
   simp[g5]
  have g7:=notF g5
  obtain⟨v8,q9,q11⟩:=bs q11
  obtain rfl:=oi q11
  refine st ?_
  simp[g5]
  have r30:=zCX fuel p1 v3 q4
  try simp[g5] at r30
  refine zAA r30 (by simp) rfl ?_
  simp[g5]
  have r31:=zCR fuel c2 v8 q9
  try simp[g5] at r31
  refine zAA r31 (by simp) rfl ?_
  simp[g5]
 refine spc h rfl (fun g12 h=>?_) fun g12 h=>?_
 ·refine cutA 39 0 [(4,.osl ⟨7,64⟩ (([]:List zLa).map zLa.c)),(5,iI 1)] [(zLc.d p1),(zLd.d c2)]<|zAB<|zAF ?_
  cases h
  simp
 refine zAD<|zAK ?_
 obtain⟨v13,q14,h⟩:=bs h
 refine cut 39 0 [(2,pT 0),(6,pT 2),(7,iI v13.2)] [(zLc.d p1),(zLd.d c2),(zLd.d v13.1)] ?_ ?_
 ·refine st ?_
  simp
  have r28:=zFc fuel c2 v13 q14
  try simp at r28
  refine zAA r28 (by simp) rfl ?_
  simp
 refine zAC<|cutA 39 0 [(2,pT 0),(6,pT 2),(7,iI v13.2),(24,.bool (!(eqI v13.2 0)))] [(zLc.d p1),(zLd.d c2),(zLd.d v13.1)] ?_
 rcases sp h with ⟨g15,h⟩|⟨g15,h⟩
 ·have g16:=notT g15
  have c17:=eqF g16
  refine zD5 rfl g15<|cutA 39 0 [(4,.osl ⟨7,64⟩ (([]:List zLa).map zLa.c)),(5,iI v13.2)] [(zLc.d p1),(zLd.d c2),(zLd.d v13.1)]<|zAB<|zAF ?_
  cases h
  simp
 have g18:=notF g15
 have c19:=eqT g18
 refine zEK rfl g15<|zAD<|zAK<|cutA 39 0 [(2,pT 0),(6,pT 2),(8,pT 3)] [(zLc.d p1),(zLd.d c2),(zLd.d v13.1),[.osl ⟨7,64⟩ (([]:List zLa).map zLa.c)]]<|zAC ?_
 obtain⟨v20,q21,h⟩:=bs h
 refine cut 39 0 [(8,pT 3),(9,iI v20.1)] [(zLc.d p1),(zLd.d c2),(zLd.d v13.1),[.osl ⟨7,64⟩ (v20.2.binds.map zLa.c)]] ?_ ?_
 ·refine st ?_
  simp
  have r27:=(zGD fuel p1 v13.1 (zLX.mk ([]:List zLa)) v20 q21).frame [3] [(zLc.d p1),(zLd.d c2),(zLd.d v13.1),[.osl ⟨7,64⟩ (([]:List zLa).map zLa.c)]] (by simp)
  try simp at r27
  refine zBK r27 (by simp) rfl ?_
  simp
 refine cutA 39 0 [(8,pT 3),(9,iI v20.1),(33,.bool (!(eqI v20.1 0)))] [(zLc.d p1),(zLd.d c2),(zLd.d v13.1),[.osl ⟨7,64⟩ (v20.2.binds.map zLa.c)]] ?_
 rcases sp h with ⟨g22,h⟩|⟨g22,h⟩
 ·have g23:=notT g22
  have c24:=eqF g23
  refine zD5 rfl g22<|cutA 39 0 [(4,.osl ⟨7,64⟩ (([]:List zLa).map zLa.c)),(5,iI v20.1)] [(zLc.d p1),(zLd.d c2),(zLd.d v13.1),[.osl ⟨7,64⟩ (v20.2.binds.map zLa.c)]]<|zAB<|zAF ?_
  cases h
  simp
 have g25:=notF g22
 have c26:=eqT g25
 refine zEK rfl g22<|zAD<|zAK<|cutA 39 0 [(4,.osl ⟨7,64⟩ (v20.2.binds.map zLa.c)),(5,iI 0)] [(zLc.d p1),(zLd.d c2),(zLd.d v13.1),[.sl (v20.2.binds.map zLa.c)]]<|zAB ?_
 cases h
 simp
theorem zAa(n1:Bool)(s2:Bool)(names3:Bool)(w4:zLZ)(r:Bool)(h:zBx n1 s2 names3 w4=some r):Raw Tryz.prog 168 [.bool n1,.bool s2,.bool names3,pT 0] [(zLZ.d w4)] (.bool r) [(zLZ.d w4)]:=by
 rw[zBx] at h
 refine zAw Tryz.func168 (by rfl) (by rfl) (by simp) (by simp)<|cutA 31 1 [(0,.bool n1),(1,.bool s2),(2,.bool names3),(3,pT 0)] [(zLZ.d w4)]<|cut 31 1 [(7,.bool (if n1 then if s2 then names3||(eqI (w4.Names.length:Int) 0) else (eqS w4.S ([]:List UInt8))&&(names3||(eqI (w4.Names.length:Int) 0)) else (eqI w4.N 0)&&(if s2 then names3||(eqI (w4.Names.length:Int) 0) else (eqS w4.S ([]:List UInt8))&&(names3||(eqI (w4.Names.length:Int) 0)))))] [(zLZ.d w4)] ?_ ?_
 ·rcases tf (n1) with g5|g5
  ·rcases tf (s2) with g6|g6
   ·rcases tf (names3) with g7|g7
    ·refine st ?_
     simp[g5,g6,g7]
    refine st ?_
    simp[g5,g6,g7]
   rcases tf (eqS w4.S ([]:List UInt8)) with g8|g8
   ·rcases tf (names3) with g9|g9
    ·refine st ?_
     simp[g5,g6,g8,g9]
    refine st ?_
    simp[g5,g6,g8,g9]
   refine st ?_
   simp[g5,g6,g8]
  rcases tf (eqI w4.N 0) with g10|g10
  ·have c11:=eqT g10
   rcases tf (s2) with g12|g12
   ·rcases tf (names3) with g13|g13
    ·refine st ?_
     simp[g5,g10,g12,g13]
    refine st ?_
    simp[g5,g10,g12,g13]
   rcases tf (eqS w4.S ([]:List UInt8)) with g14|g14
   ·rcases tf (names3) with g15|g15
    ·refine st ?_
     simp[g5,g10,g12,g14,g15]
    refine st ?_
    simp[g5,g10,g12,g14,g15]
   refine st ?_
   simp[g5,g10,g12,g14]
  have c16:=eqF g10
  refine st ?_
  simp[g5,g10]
 refine zAB ?_
 cases h
 simp
theorem zKl(v1:zLZ)(r:Bool)(h:zF1 v1=some r):Pure Tryz.prog 137 [.agg (zLZ.d v1)] (.bool r):=by
 rw[zF1] at h
 refine zAE Tryz.func137 (by rfl) (by rfl) (by simp) (by simp) (by simp)<|cutA 18 0 [(1,pT 0)] [(zLZ.d v1)]<|cut 18 0 [(2,.bool ((eqI v1.Op 3)&&((eqI (v1.Names.length:Int) 0)&&(ltI 0 (v1.L.length:Int)))))] [(zLZ.d v1)] ?_ ?_
 ·rcases tf (eqI v1.Op 3) with g2|g2
  ·have c3:=eqT g2
   rcases tf (eqI (v1.Names.length:Int) 0) with g4|g4
   ·have c5:=eqT g4
    refine st ?_
    simp[g2,g4]
   have c6:=eqF g4
   refine st ?_
   simp[g2,g4]
  have c7:=eqF g2
  refine st ?_
  simp[g2]
 refine zAB ?_
 cases h
 simp
theorem zIn(fuel:Nat)(s1:(List UInt8))(r:Bool)(h:zEi fuel s1=some r):Pure Tryz.prog 192 [.str s1] (.bool r):=by
 rw[zEi] at h
 refine zAE Tryz.func192 (by rfl) (by rfl) (by simp) (by simp) (by simp)<|cutA 6 0 [(0,.str s1)] [] ?_
 obtain⟨v2,q3,h⟩:=bs h
 refine cut 6 0 [(2,.bool (!v2))] [] ?_ ?_
 ·refine st ?_
  simp
  have r4:=zFe fuel s1 v2 q3
  try simp at r4
  refine zAA r4 (by simp) rfl ?_
  simp
 refine zAB ?_
 cases h
 simp
theorem zEY(fuel:Nat)(s1:(List (List UInt8)))(r:Int)(h:zBk fuel s1=some r):Pure Tryz.prog 51 [.sl (s1.map cS),.fn (.func 192) [] []] (iI r):=by
 rw[zBk] at h
 refine zAE Tryz.func51 (by rfl) (by rfl) (by simp) (by simp) (by simp)<|cutA 19 0 [(0,.sl (s1.map cS)),(1,.fn (.func 192) [] [])] []<|zAC<|cutA 19 0 [(0,.sl (s1.map cS)),(1,.fn (.func 192) [] []),(7,iI s1.length),(8,iI 0)] []<|zAG ?_
 obtain⟨o4,l5,h⟩:=bs h
 refine zBR (fun p:Nat×Nat=>mkS 19 0 [(0,.sl (s1.map cS)),(1,.fn (.func 192) [] []),(7,iI s1.length),(8,iI p.2)] []) (fun p=>zAW fuel s1 p.1 p.2=some o4) (fun p=>p.1) (fuel,0) l5 (zA1 (by simp)) ?_
 rintro⟨k6,i2⟩ l5
 try dsimp only at l5 ⊢
 cases k6 with
 |zero=>
  rw[zAW] at l5;cases l5
 |succ k7=>
  rw[zAW] at l5
  refine cutA 19 0 [(0,.sl (s1.map cS)),(1,.fn (.func 192) [] []),(7,iI s1.length),(8,iI i2),(9,.bool (ltI ((i2:Nat):Int) (s1.length:Int)))] []<|zAC<|spc l5 rfl (fun g8 l5=>?_) fun g8 l5=>?_
  ·have c9:=ltT g8
   refine zCe 0 rfl fun f10=>?_
   rw[zq4] at f10
   refine zAD<|zAK<|zAC<|zAG<|cutA 19 0 [(0,.sl (s1.map cS)),(1,.fn (.func 192) [] []),(5,iI i2),(7,iI s1.length),(8,iI i2)] [] ?_
   obtain⟨x11,q12,l5⟩:=bs l5
   obtain⟨v13,q14,l5⟩:=bs l5
   refine cut 19 0 [(0,.sl (s1.map cS)),(1,.fn (.func 192) [] []),(5,iI i2),(7,iI s1.length),(8,iI i2),(16,.bool v13)] [] ?_ ?_
   ·refine st ?_
    simp[q12]
    have r17:=zIn fuel x11 v13 q14
    try simp[q12] at r17
    refine zAA r17 (by simp) rfl ?_
    simp[q12]
   refine spc l5 rfl (fun g15 l5=>?_) fun g15 l5=>?_
   ·refine cutA 19 0 [(4,iI i2)] []<|zAB<|zAQ<|zAF ?_
    replace h:=retL l5 h
    refine zAF<|zAQ<|zAF ?_
    cases h
    simp
   refine zAD<|zDg<|zAK ?_
   have q16:Rng .i64 (((i2:Nat):Int)+1):=by simp only[Rng,inR];omega
   try simp at q16
   refine last 19 0 [(0,.sl (s1.map cS)),(1,.fn (.func 192) [] []),(7,iI s1.length),(8,iI ((i2+1:Nat):Int))] [] (st (by simp[q16])) fun zz hs=>?_
   exact⟨(k7,i2+1),hs,l5,by simp⟩
  have c18:=ltF g8
  refine zCe 0 rfl fun f19=>?_
  rw[zq4] at f19
  refine zAp<|zAH ?_
  rcases o4 with o4|o3
  ·cases l5
  have q20:=Sum.inr.inj (zqa l5)
  replace h:=zIl h
  refine zAH<|zAt<|zBS (t:=mkS 19 0 [] []) ?_ (zA1 (by simp))
  refine cutA 19 0 [(4,iI (-1))] []<|zAB ?_
  cases h
  simp
theorem zD1(fuel:Nat)(s1:(List (List UInt8)))(r:Bool)(h:zA8 fuel s1=some r):Pure Tryz.prog 26 [.sl (s1.map cS),.fn (.func 192) [] []] (.bool r):=by
 rw[zA8] at h
 refine zAE Tryz.func26 (by rfl) (by rfl) (by simp) (by simp) (by simp)<|cutA 9 0 [(0,.sl (s1.map cS)),(1,.fn (.func 192) [] [])] [] ?_
 obtain⟨v2,q3,h⟩:=bs h
 refine cut 9 0 [(4,.bool (leI 0 v2))] [] ?_ ?_
 ·refine st ?_
  simp
  have r4:=zEY fuel s1 v2 q3
  try simp at r4
  refine zAA r4 (by simp) rfl ?_
  simp
 refine zAB ?_
 cases h
 simp
theorem zHZ(fuel:Nat)(l1:(List (List UInt8)))(r:Bool)(h:zEj fuel l1=some r):Pure Tryz.prog 169 [.sl (l1.map cS)] (.bool r):=by
 rw[zEj] at h
 refine zAE Tryz.func169 (by rfl) (by rfl) (by simp) (by simp) (by simp)<|cutA 15 0 [(0,.sl (l1.map cS))] [] ?_
 obtain⟨b12,q13,h⟩:=bs h
 refine cut 15 0 [(2,.bool b12)] [] ?_ ?_
 ·rcases sp q13 with ⟨g2,q13⟩|⟨g2,q13⟩
  ·have c3:=leT g2
   refine zCe 0 rfl fun f4=>?_
   rw[zq4] at f4
   obtain⟨v5,q6,q13⟩:=bs q13
   rcases sp q13 with ⟨g7,q13⟩|⟨g7,q13⟩
   ·obtain⟨v8,q9,q13⟩:=bs q13
    obtain rfl:=oi q13
    refine st ?_
    simp[g2,g7]
    have r14:=zA3 fuel l1 v5 q6
    try simp[g2,g7] at r14
    refine zAA r14 (by simp) rfl ?_
    simp[g2,g7]
    have r15:=zD1 fuel l1 v8 q9
    try simp[g2,g7] at r15
    refine zAA r15 (by simp) rfl ?_
    simp[g2,g7]
   obtain rfl:=oi q13
   refine st ?_
   simp[g2,g7]
   have r16:=zA3 fuel l1 v5 q6
   try simp[g2,g7] at r16
   refine zAA r16 (by simp) rfl ?_
   simp[g2,g7]
  have c10:=leF g2
  refine zCe 0 rfl fun f11=>?_
  rw[zq4] at f11
  obtain rfl:=oi q13
  refine st ?_
  simp[g2]
 refine zAB ?_
 cases h
 simp
theorem zJ3(v1:zLZ)(r:Bool)(h:zFU v1=some r):Pure Tryz.prog 138 [.agg (zLZ.d v1)] (.bool r):=by
 rw[zFU] at h
 refine zAE Tryz.func138 (by rfl) (by rfl) (by simp) (by simp) (by simp)<|cutA 11 0 [(1,pT 0)] [(zLZ.d v1)]<|cut 11 0 [(2,.bool ((eqI v1.Op 4)&&(eqS v1.S ([]:List UInt8))))] [(zLZ.d v1)] ?_ ?_
 ·rcases tf (eqI v1.Op 4) with g2|g2
  ·have c3:=eqT g2
   refine st ?_
   simp[g2]
  have c4:=eqF g2
  refine st ?_
  simp[g2]
 refine zAB ?_
 cases h
 simp
theorem value_node_ok(fuel:Nat)(v1:zLZ)(r:Bool)(h:zFh fuel v1=some r):Pure Tryz.prog 120 [.agg (zLZ.d v1)] (.bool r):=by
 rw[zFh] at h
 refine zAE Tryz.func120 (by rfl) (by rfl) (by simp) (by simp) (by simp)<|cutA 127 0 [(1,pT 0)] [(zLZ.d v1)]<|cutA 127 0 [(1,pT 0),(3,.fn (.func 168) [] [pT 0])] [(zLZ.d v1)]<|zAC<|cutA 127 0 [(1,pT 0),(3,.fn (.func 168) [] [pT 0]),(6,iI v1.Op)] [(zLZ.d v1)]<|zAG<|cutA 127 0 [(1,pT 0),(3,.fn (.func 168) [] [pT 0]),(6,iI v1.Op),(7,.bool (eqI v1.Op 1))] [(zLZ.d v1)] ?_
 refine spc h rfl (fun g2 h=>?_) fun g2 h=>?_
 ·obtain⟨b13,q14,h⟩:=bs h
  refine cut 127 0 [(2,.bool b13)] [(zLZ.d v1)] ?_ ?_
  ·obtain⟨v4,q5,q14⟩:=bs q14
   rcases sp q14 with ⟨g6,q14⟩|⟨g6,q14⟩
   ·rcases sp q14 with ⟨g7,q14⟩|⟨g7,q14⟩
    ·rcases sp q14 with ⟨g9,q14⟩|⟨g9,q14⟩
     ·obtain rfl:=oi q14
      refine st ?_
      simp[g6,g7,g9]
      have r15:=(zAa true false false v1 v4 q5).frame [0] [(zLZ.d v1)] (by simp)
      refine zBK r15 (by simp[g6,g7,g9]) rfl ?_
      simp[g6,g7,g9]
     obtain rfl:=oi q14
     refine st ?_
     simp[g6,g7,g9]
     have r16:=(zAa true false false v1 v4 q5).frame [0] [(zLZ.d v1)] (by simp)
     refine zBK r16 (by simp[g6,g7,g9]) rfl ?_
     simp[g6,g7,g9]
    obtain rfl:=oi q14
    refine st ?_
    simp[g6,g7]
    have r17:=(zAa true false false v1 v4 q5).frame [0] [(zLZ.d v1)] (by simp)
    refine zBK r17 (by simp[g6,g7]) rfl ?_
    simp[g6,g7]
   obtain rfl:=oi q14
   refine st ?_
   simp[g6]
   have r18:=(zAa true false false v1 v4 q5).frame [0] [(zLZ.d v1)] (by simp)
   refine zBK r18 (by simp[g6]) rfl ?_
   simp[g6]
  refine zAB<|zAQ<|zAF ?_
  cases h
  simp
 refine cutA 127 0 [(1,pT 0),(3,.fn (.func 168) [] [pT 0]),(6,iI v1.Op),(27,.bool (eqI v1.Op 2))] [(zLZ.d v1)]<|spc h rfl (fun g20 h=>?_) fun g20 h=>?_
 ·obtain⟨b28,q29,h⟩:=bs h
  refine cut 127 0 [(2,.bool b28)] [(zLZ.d v1)] ?_ ?_
  ·obtain⟨v22,q23,q29⟩:=bs q29
   rcases sp q29 with ⟨g24,q29⟩|⟨g24,q29⟩
   ·rcases sp q29 with ⟨g25,q29⟩|⟨g25,q29⟩
    ·obtain rfl:=oi q29
     refine st ?_
     simp[g24,g25]
     have r30:=(zAa false true false v1 v22 q23).frame [0] [(zLZ.d v1)] (by simp)
     refine zBK r30 (by simp[g24,g25]) rfl ?_
     simp[g24,g25]
    obtain rfl:=oi q29
    refine st ?_
    simp[g24,g25]
    have r31:=(zAa false true false v1 v22 q23).frame [0] [(zLZ.d v1)] (by simp)
    refine zBK r31 (by simp[g24,g25]) rfl ?_
    simp[g24,g25]
   obtain rfl:=oi q29
   refine st ?_
   simp[g24]
   have r32:=(zAa false true false v1 v22 q23).frame [0] [(zLZ.d v1)] (by simp)
   refine zBK r32 (by simp[g24]) rfl ?_
   simp[g24]
  refine zAB<|zAQ<|zAF ?_
  cases h
  simp
 refine cutA 127 0 [(1,pT 0),(3,.fn (.func 168) [] [pT 0]),(6,iI v1.Op),(43,.bool (eqI v1.Op 3))] [(zLZ.d v1)]<|spc h rfl (fun g34 h=>?_) fun g34 h=>?_
 ·refine zAC ?_
  obtain⟨v36,q37,h⟩:=bs h
  refine cut 127 0 [(1,pT 0),(3,.fn (.func 168) [] [pT 0]),(46,.bool v36)] [(zLZ.d v1)] ?_ ?_
  ·refine st ?_
   simp
   have r59:=zKl v1 v36 q37
   refine zAA r59 (by simp) rfl ?_
   simp
  refine spc h rfl (fun g38 h=>?_) fun g38 h=>?_
  ·obtain⟨b42,q43,h⟩:=bs h
   refine cut 127 0 [(2,.bool b42)] [(zLZ.d v1)] ?_ ?_
   ·obtain⟨v39,q40,q43⟩:=bs q43
    rcases sp q43 with ⟨g41,q43⟩|⟨g41,q43⟩
    ·obtain rfl:=oi q43
     refine st ?_
     simp[g41]
     have r44:=(zAa false false false v1 v39 q40).frame [0] [(zLZ.d v1)] (by simp)
     refine zBK r44 (by simp[g41]) rfl ?_
     simp[g41]
    obtain rfl:=oi q43
    refine st ?_
    simp[g41]
    have r45:=(zAa false false false v1 v39 q40).frame [0] [(zLZ.d v1)] (by simp)
    refine zBK r45 (by simp[g41]) rfl ?_
    simp[g41]
   refine zAB<|zAF<|zAQ<|zAF ?_
   cases h
   simp
  refine zAD<|zAK ?_
  obtain⟨b52,q53,h⟩:=bs h
  refine cut 127 0 [(2,.bool b52)] [(zLZ.d v1)] ?_ ?_
  ·obtain⟨v46,q47,q53⟩:=bs q53
   rcases sp q53 with ⟨g48,q53⟩|⟨g48,q53⟩
   ·obtain⟨v49,q50,q53⟩:=bs q53
    rcases sp q53 with ⟨g51,q53⟩|⟨g51,q53⟩
    ·obtain rfl:=oi q53
     refine st ?_
     simp[g48,g51]
     have r54:=(zAa false false true v1 v46 q47).frame [0] [(zLZ.d v1)] (by simp)
     refine zBK r54 (by simp[g48,g51]) rfl ?_
     simp[g48,g51]
     have r55:=zHZ fuel v1.Names v49 q50
     refine zAA r55 (by simp) rfl ?_
     simp[g48,g51]
    obtain rfl:=oi q53
    refine st ?_
    simp[g48,g51]
    have r56:=(zAa false false true v1 v46 q47).frame [0] [(zLZ.d v1)] (by simp)
    refine zBK r56 (by simp[g48,g51]) rfl ?_
    simp[g48,g51]
    have r57:=zHZ fuel v1.Names v49 q50
    refine zAA r57 (by simp) rfl ?_
    simp[g48,g51]
   obtain rfl:=oi q53
   refine st ?_
   simp[g48]
   have r58:=(zAa false false true v1 v46 q47).frame [0] [(zLZ.d v1)] (by simp)
   refine zBK r58 (by simp[g48]) rfl ?_
   simp[g48]
  refine zAB<|zAQ<|zAF ?_
  cases h
  simp
 refine cutA 127 0 [(1,pT 0),(3,.fn (.func 168) [] [pT 0]),(6,iI v1.Op),(71,.bool (eqI v1.Op 4))] [(zLZ.d v1)]<|spc h rfl (fun g61 h=>?_) fun g61 h=>?_
 ·refine zAC ?_
  obtain⟨v63,q64,h⟩:=bs h
  refine cut 127 0 [(1,pT 0),(3,.fn (.func 168) [] [pT 0]),(74,.bool v63)] [(zLZ.d v1)] ?_ ?_
  ·refine st ?_
   simp
   have r95:=zJ3 v1 v63 q64
   refine zAA r95 (by simp) rfl ?_
   simp
  refine spc h rfl (fun g65 h=>?_) fun g65 h=>?_
  ·obtain⟨b75,q76,h⟩:=bs h
   refine cut 127 0 [(2,.bool b75)] [(zLZ.d v1)] ?_ ?_
   ·obtain⟨v66,q67,q76⟩:=bs q76
    rcases sp q76 with ⟨g68,q76⟩|⟨g68,q76⟩
    ·rcases sp q76 with ⟨g69,q76⟩|⟨g69,q76⟩
     ·rcases sp q76 with ⟨g71,q76⟩|⟨g71,q76⟩
      ·obtain rfl:=oi q76
       refine st ?_
       simp[g68,g69,g71]
       have r77:=(zAa true false false v1 v66 q67).frame [0] [(zLZ.d v1)] (by simp)
       refine zBK r77 (by simp[g68,g69,g71]) rfl ?_
       simp[g68,g69,g71]
      obtain rfl:=oi q76
      refine st ?_
      simp[g68,g69,g71]
      have r78:=(zAa true false false v1 v66 q67).frame [0] [(zLZ.d v1)] (by simp)
      refine zBK r78 (by simp[g68,g69,g71]) rfl ?_
      simp[g68,g69,g71]
     obtain rfl:=oi q76
     refine st ?_
     simp[g68,g69]
     have r79:=(zAa true false false v1 v66 q67).frame [0] [(zLZ.d v1)] (by simp)
     refine zBK r79 (by simp[g68,g69]) rfl ?_
     simp[g68,g69]
    obtain rfl:=oi q76
    refine st ?_
    simp[g68]
    have r80:=(zAa true false false v1 v66 q67).frame [0] [(zLZ.d v1)] (by simp)
    refine zBK r80 (by simp[g68]) rfl ?_
    simp[g68]
   refine zAB<|zAF<|zAQ<|zAF ?_
   cases h
   simp
  refine zAD<|zAK ?_
  obtain⟨b89,q90,h⟩:=bs h
  refine cut 127 0 [(2,.bool b89)] [(zLZ.d v1)] ?_ ?_
  ·obtain⟨v81,q82,q90⟩:=bs q90
   rcases sp q90 with ⟨g83,q90⟩|⟨g83,q90⟩
   ·rcases sp q90 with ⟨g84,q90⟩|⟨g84,q90⟩
    ·obtain⟨v86,q87,q90⟩:=bs q90
     obtain rfl:=oi q90
     refine st ?_
     simp[g83,g84]
     have r91:=(zAa false true false v1 v81 q82).frame [0] [(zLZ.d v1)] (by simp)
     refine zBK r91 (by simp[g83,g84]) rfl ?_
     simp[g83,g84]
     have r92:=zFe fuel v1.S v86 q87
     refine zAA r92 (by simp) rfl ?_
     simp[g83,g84]
    obtain rfl:=oi q90
    refine st ?_
    simp[g83,g84]
    have r93:=(zAa false true false v1 v81 q82).frame [0] [(zLZ.d v1)] (by simp)
    refine zBK r93 (by simp[g83,g84]) rfl ?_
    simp[g83,g84]
   obtain rfl:=oi q90
   refine st ?_
   simp[g83]
   have r94:=(zAa false true false v1 v81 q82).frame [0] [(zLZ.d v1)] (by simp)
   refine zBK r94 (by simp[g83]) rfl ?_
   simp[g83]
  refine zAB<|zAQ<|zAF ?_
  cases h
  simp
 refine zAC<|cutA 127 0 [(1,pT 0),(3,.fn (.func 168) [] [pT 0]),(6,iI v1.Op),(106,.bool (eqI v1.Op 5))] [(zLZ.d v1)]<|spc h rfl (fun g97 h=>?_) fun g97 h=>?_
 ·refine zAD<|zAK<|zD5 rfl (by simp[g97]) ?_
  obtain⟨b102,q103,h⟩:=bs h
  refine cut 127 0 [(2,.bool b102)] [(zLZ.d v1)] ?_ ?_
  ·obtain⟨v99,q100,q103⟩:=bs q103
   rcases sp q103 with ⟨g101,q103⟩|⟨g101,q103⟩
   ·obtain rfl:=oi q103
    refine st ?_
    simp[g101]
    have r104:=(zAa false false false v1 v99 q100).frame [0] [(zLZ.d v1)] (by simp)
    refine zBK r104 (by simp[g101]) rfl ?_
    simp[g101]
   obtain rfl:=oi q103
   refine st ?_
   simp[g101]
   have r105:=(zAa false false false v1 v99 q100).frame [0] [(zLZ.d v1)] (by simp)
   refine zBK r105 (by simp[g101]) rfl ?_
   simp[g101]
  refine zAB<|zAQ<|zAF ?_
  cases h
  simp
 refine lastA 127 0 [(1,pT 0),(3,.fn (.func 168) [] [pT 0]),(6,iI v1.Op),(106,.bool (eqI v1.Op 6))] [(zLZ.d v1)]<|spc h rfl (fun g107 h=>?_) fun g107 h=>?_
 ·obtain⟨b112,q113,h⟩:=bs h
  refine cut 127 0 [(2,.bool b112)] [(zLZ.d v1)] ?_ ?_
  ·obtain⟨v109,q110,q113⟩:=bs q113
   rcases sp q113 with ⟨g111,q113⟩|⟨g111,q113⟩
   ·obtain rfl:=oi q113
    refine st ?_
    simp[g111]
    have r114:=(zAa false false false v1 v109 q110).frame [0] [(zLZ.d v1)] (by simp)
    refine zBK r114 (by simp[g111]) rfl ?_
    simp[g111]
   obtain rfl:=oi q113
   refine st ?_
   simp[g111]
   have r115:=(zAa false false false v1 v109 q110).frame [0] [(zLZ.d v1)] (by simp)
   refine zBK r115 (by simp[g111]) rfl ?_
   simp[g111]
  refine zAB<|zAQ<|zAF ?_
  cases h
  simp
 refine cutA 127 0 [(1,pT 0),(3,.fn (.func 168) [] [pT 0]),(117,.bool (eqI v1.Op 7))] [(zLZ.d v1)]<|spc h rfl (fun g117 h=>?_) fun g117 h=>?_
 ·obtain⟨b122,q123,h⟩:=bs h
  refine cut 127 0 [(2,.bool b122)] [(zLZ.d v1)] ?_ ?_
  ·obtain⟨v119,q120,q123⟩:=bs q123
   rcases sp q123 with ⟨g121,q123⟩|⟨g121,q123⟩
   ·obtain rfl:=oi q123
    refine st ?_
    simp[g121]
    have r124:=(zAa false false false v1 v119 q120).frame [0] [(zLZ.d v1)] (by simp)
    refine zBK r124 (by simp[g121]) rfl ?_
    simp[g121]
   obtain rfl:=oi q123
   refine st ?_
   simp[g121]
   have r125:=(zAa false false false v1 v119 q120).frame [0] [(zLZ.d v1)] (by simp)
   refine zBK r125 (by simp[g121]) rfl ?_
   simp[g121]
  refine zAB<|zAQ<|zAF ?_
  cases h
  simp
 refine zAD<|zDg<|zAK<|cutA 127 0 [(2,.bool false)] [(zLZ.d v1)]<|zAB ?_
 cases h
 simp
theorem zC1(fuel:Nat):(∀(x1:zLZ)(c2:Int)(c3:Int)(r:Bool×Int)(_:zDG fuel x1 c2 c3=some r),Raw Tryz.prog 122 [.agg (zLZ.d x1),pT 0,pT 1] [[pT 2],[iI c2],[iI c3]] (.bool r.1) [[pT 2],[iI c2],[iI r.2]])∧(∀(s1:(List zLZ))(c2:Int)(c3:Int)(r:Int×Int)(_:zBB fuel s1 c2 c3=some r),Raw Tryz.prog 170 [.sl (s1.map zLZ.c),.fn (.func 122) [] [pT 0,pT 1]] [[pT 2],[iI c2],[iI c3]] (iI r.1) [[pT 2],[iI c2],[iI r.2]])∧(∀(s1:(List zLZ))(c2:Int)(c3:Int)(r:Bool×Int)(_:zA4 fuel s1 c2 c3=some r),Raw Tryz.prog 121 [.sl (s1.map zLZ.c),.fn (.func 122) [] [pT 0,pT 1]] [[pT 2],[iI c2],[iI c3]] (.bool r.1) [[pT 2],[iI c2],[iI r.2]])∧(∀(v1:zLZ)(depth2:Int)(c3:Int)(r:Bool×Int)(_:zDV fuel v1 depth2 c3=some r),Raw Tryz.prog 74 [.agg (zLZ.d v1),pT 0,iI depth2] [[iI c3]] (.bool r.1) [[iI r.2]]):=by
 induction fuel with
 |zero=>
  refine⟨?_,?_,?_,?_⟩
  ·intro x1 c2 c3 r h;rw[zDG] at h;cases h
  ·intro s1 c2 c3 r h;rw[zBB] at h;cases h
  ·intro s1 c2 c3 r h;rw[zA4] at h;cases h
  ·intro v1 depth2 c3 r h;rw[zDV] at h;cases h
 |succ fuel ih=>
  obtain⟨zJl,zD6,zDm,zLG⟩:=ih
  refine⟨?_,?_,?_,?_⟩
  ·intro x1 c2 c3 r h
   rw[zDG] at h
   refine zAw Tryz.func122 (by rfl) (by rfl) (by simp) (by simp)<|cutA 11 3 [(1,pT 0),(2,pT 1),(3,pT 3)] [[pT 2],[iI c2],[iI c3],(zLZ.d x1)] ?_
   obtain⟨n4,q5,h⟩:=bs h
   obtain⟨q6,q7⟩:=zC9 q5
   try simp at q6
   try simp at q7
   have c8:=q6;simp only[Rng,inR] at c8
   obtain⟨v9,q10,h⟩:=bs h
   refine cut 11 3 [(4,.bool (!v9.1))] [[pT 2],[iI c2],[iI v9.2],(zLZ.d x1)] ?_ ?_
   ·refine st ?_
    simp[q6,q7]
    have r11:=(zLG x1 n4 c3 v9 q10).frame [2] [[pT 2],[iI c2],[iI c3],(zLZ.d x1)] (by simp)
    try simp[q6,q7] at r11
    refine zBK r11 (by simp[q6,q7]) rfl ?_
    simp[q6,q7]
   refine zAB ?_
   cases h
   simp
  ·intro s1 c2 c3 r h
   rw[zBB] at h
   refine zAw Tryz.func170 (by rfl) (by rfl) (by simp) (by simp)<|cutA 19 3 [(0,.sl (s1.map zLZ.c)),(1,.fn (.func 122) [] [pT 0,pT 1])] [[pT 2],[iI c2],[iI c3]]<|zAC<|cutA 19 3 [(0,.sl (s1.map zLZ.c)),(1,.fn (.func 122) [] [pT 0,pT 1]),(7,iI s1.length),(8,iI 0)] [[pT 2],[iI c2],[iI c3]]<|zAG ?_
   obtain⟨o7,l8,h⟩:=bs h
   refine zBR (fun p:Nat×Int×Nat=>mkS 19 3 [(0,.sl (s1.map zLZ.c)),(1,.fn (.func 122) [] [pT 0,pT 1]),(7,iI s1.length),(8,iI p.2.2)] [[pT 2],[iI c2],[iI p.2.1]]) (fun p=>zAU (zDG fuel) s1 c2 p.1 p.2.1 p.2.2=some o7) (fun p=>p.1) (fuel,c3,0) l8 (zA1 (by simp)) ?_
   rintro⟨k9,a4,i5⟩ l8
   try dsimp only at l8 ⊢
   cases k9 with
   |zero=>
    rw[zAU] at l8;cases l8
   |succ k10=>
    rw[zAU] at l8
    refine cutA 19 3 [(0,.sl (s1.map zLZ.c)),(1,.fn (.func 122) [] [pT 0,pT 1]),(7,iI s1.length),(8,iI i5),(9,.bool (ltI ((i5:Nat):Int) (s1.length:Int)))] [[pT 2],[iI c2],[iI a4]]<|zAC<|spc l8 rfl (fun g11 l8=>?_) fun g11 l8=>?_
    ·have c12:=ltT g11
     refine zCe 0 rfl fun f13=>?_
     rw[zq4] at f13
     refine zAD<|zAK<|zAC<|zAG<|cutA 19 3 [(0,.sl (s1.map zLZ.c)),(1,.fn (.func 122) [] [pT 0,pT 1]),(5,iI i5),(7,iI s1.length),(8,iI i5)] [[pT 2],[iI c2],[iI a4]] ?_
     obtain⟨x14,q15,l8⟩:=bs l8
     obtain⟨v16,q17,l8⟩:=bs l8
     refine cut 19 3 [(0,.sl (s1.map zLZ.c)),(1,.fn (.func 122) [] [pT 0,pT 1]),(5,iI i5),(7,iI s1.length),(8,iI i5),(16,.bool v16.1)] [[pT 2],[iI c2],[iI v16.2]] ?_ ?_
     ·refine st ?_
      simp[q15]
      have r20:=(zJl x14 c2 a4 v16 q17).frame [0,1,2] [[pT 2],[iI c2],[iI a4]] (by simp)
      try simp[q15] at r20
      refine zBK r20 (by simp[q15]) rfl ?_
      simp[q15]
     refine spc l8 rfl (fun g18 l8=>?_) fun g18 l8=>?_
     ·refine cutA 19 3 [(4,iI i5)] [[pT 2],[iI c2],[iI v16.2]]<|zAB<|zAQ<|zAF ?_
      replace h:=retL l8 h
      refine zAF<|zAQ<|zAF ?_
      cases h
      simp
     refine zAD<|zDg<|zAK ?_
     have q19:Rng .i64 (((i5:Nat):Int)+1):=by simp only[Rng,inR];omega
     try simp at q19
     refine last 19 3 [(0,.sl (s1.map zLZ.c)),(1,.fn (.func 122) [] [pT 0,pT 1]),(7,iI s1.length),(8,iI ((i5+1:Nat):Int))] [[pT 2],[iI c2],[iI v16.2]] (st (by simp[q19])) fun zz hs=>?_
     exact⟨(k10,v16.2,i5+1),hs,l8,by simp⟩
    have c21:=ltF g11
    refine zCe 0 rfl fun f22=>?_
    rw[zq4] at f22
    refine zAp<|zAH ?_
    rcases o7 with o7|o6
    ·cases l8
    have q23:=Sum.inr.inj (zqa l8)
    replace h:=zIl h
    have q23:=q23.symm
    refine zAH<|zAt<|zBS (t:=mkS 19 3 [] [[pT 2],[iI c2],[iI o6]]) ?_ (zA1 (by simp[q23]))
    refine cutA 19 3 [(4,iI (-1))] [[pT 2],[iI c2],[iI o6]]<|zAB ?_
    cases h
    simp
  ·intro s1 c2 c3 r h
   rw[zA4] at h
   refine zAw Tryz.func121 (by rfl) (by rfl) (by simp) (by simp)<|cutA 9 3 [(0,.sl (s1.map zLZ.c)),(1,.fn (.func 122) [] [pT 0,pT 1])] [[pT 2],[iI c2],[iI c3]] ?_
   obtain⟨v4,q5,h⟩:=bs h
   refine cut 9 3 [(4,.bool (leI 0 v4.1))] [[pT 2],[iI c2],[iI v4.2]] ?_ ?_
   ·refine st ?_
    simp
    have r6:=(zD6 s1 c2 c3 v4 q5).frame [0,1,2] [[pT 2],[iI c2],[iI c3]] (by simp)
    try simp at r6
    refine zBK r6 (by simp) rfl ?_
    simp
   refine zAB ?_
   cases h
   simp
  ·intro v1 depth2 c3 r h
   rw[zDV] at h
   refine zAw Tryz.func74 (by rfl) (by rfl) (by simp) (by simp)<|cutA 30 1 [(3,pT 1),(4,pT 2),(5,pT 3)] [[iI c3],(zLZ.d v1),[pT 0],[iI depth2]] ?_
   obtain⟨n4,q5,h⟩:=bs h
   obtain⟨q6,q7⟩:=zC9 q5
   try simp at q6
   try simp at q7
   have c8:=q6;simp only[Rng,inR] at c8
   refine cut 30 1 [(3,pT 1),(4,pT 2),(5,pT 3)] [[iI n4],(zLZ.d v1),[pT 0],[iI depth2]] (st (by simp[q6,q7]))<|zAC ?_
   obtain⟨b17,q18,h⟩:=bs h
   refine cut 30 1 [(3,pT 1),(4,pT 2),(5,pT 3),(24,.bool b17)] [[iI n4],(zLZ.d v1),[pT 0],[iI depth2]] ?_ ?_
   ·rcases sp q18 with ⟨g9,q18⟩|⟨g9,q18⟩
    ·have c10:=ltT g9
     obtain rfl:=oi q18
     refine st ?_
     simp[g9]
    have c11:=ltF g9
    rcases sp q18 with ⟨g12,q18⟩|⟨g12,q18⟩
    ·have c13:=eqT g12
     obtain rfl:=oi q18
     refine st ?_
     simp[g9,g12]
    have c14:=eqF g12
    obtain⟨v15,q16,q18⟩:=bs q18
    obtain rfl:=oi q18
    refine st ?_
    simp[g9,g12]
    have r23:=value_node_ok fuel v1 v15 q16
    try simp[g9,g12] at r23
    refine zAA r23 (by simp) rfl ?_
    simp[g9,g12]
   refine spc h rfl (fun g19 h=>?_) fun g19 h=>?_
   ·refine cutA 30 1 [(6,.bool false)] [[iI n4],(zLZ.d v1),[pT 0],[iI depth2]]<|zAB<|zAF ?_
    cases h
    simp
   refine zAD<|zAK ?_
   obtain⟨v20,q21,h⟩:=bs h
   refine cut 30 1 [(6,.bool (!v20.1))] [[iI v20.2],(zLZ.d v1),[pT 0],[iI depth2]] ?_ ?_
   ·refine st ?_
    simp
    have r22:=(zDm v1.L depth2 n4 v20 q21).frame [2,3,0] [[iI n4],(zLZ.d v1),[pT 0],[iI depth2]] (by simp)
    try simp at r22
    refine zBK r22 (by simp) rfl ?_
    simp
   refine zAB ?_
   cases h
   simp
theorem zKk(fuel:Nat):(∀(v1:zLZ)(depth2:Int)(c3:Int)(r:Bool×Int)(_:zDV fuel v1 depth2 c3=some r),Raw Tryz.prog 74 [.agg (zLZ.d v1),pT 0,iI depth2] [[iI c3]] (.bool r.1) [[iI r.2]]):=(zC1 fuel).2.2.2
theorem zGL(fuel:Nat)(v1:zLZ)(r:Bool)(h:zCF fuel v1=some r):Pure Tryz.prog 44 [.agg (zLZ.d v1)] (.bool r):=by
 rw[zCF] at h
 refine zAE Tryz.func44 (by rfl) (by rfl) (by simp) (by simp) (by simp)<|cutA 6 0 [(1,pT 0)] [(zLZ.d v1)]<|cutA 6 0 [(1,pT 0),(3,pT 1)] [(zLZ.d v1),[iI 20000]] ?_
 obtain⟨v2,q3,h⟩:=bs h
 refine cut 6 0 [(2,.bool v2.1)] [(zLZ.d v1),[iI v2.2]] ?_ ?_
 ·refine st ?_
  simp
  have r4:=(zKk fuel v1 400 20000 v2 q3).frame [1] [(zLZ.d v1),[iI 20000]] (by simp)
  try simp at r4
  refine zBK r4 (by simp) rfl ?_
  simp
 refine zAB ?_
 cases h
 simp
theorem zIr(fuel:Nat):(∀(v1:zLZ)(r:zLZ)(_:zB4 fuel v1=some r),Pure Tryz.prog 75 [.agg (zLZ.d v1)] (.agg (zLZ.d r))):=by
 induction fuel with
 |zero=>intro v1 r h;rw[zB4] at h;cases h
 |succ fuel zIy=>
  intro v1 r h
  rw[zB4] at h
  refine zAE Tryz.func75 (by rfl) (by rfl) (by simp) (by simp) (by simp)<|cutA 28 0 [(1,pT 0),(2,pT 1)] [(zLZ.d v1),zz2]<|cutA 28 0 [(1,pT 0),(2,pT 1),(3,pT 2)] [(zLZ.d v1),zz2,(zLZ.d v1)] ?_
  obtain⟨v2,q3,h⟩:=bs h
  refine cut 28 0 [(1,pT 0),(2,pT 1),(3,pT 2)] [(zLZ.d v1),zz2,[iI v1.Op,iI v1.N,.str v1.S,.sl (v2.map cS),.osl ⟨5,46⟩ (([]:List zLZ).map zLZ.c)]] ?_ ?_
  ·refine st ?_
   simp
   have r26:=zCV v1.Names v2 q3
   try simp at r26
   refine zAA r26 (by simp) rfl ?_
   simp
  refine zAC<|cutA 28 0 [(2,pT 1),(3,pT 2),(13,.sl (v1.L.map zLZ.c)),(14,iI v1.L.length),(15,iI 0)] [(zLZ.d v1),zz2,[iI v1.Op,iI v1.N,.str v1.S,.sl (v2.map cS),.osl ⟨5,46⟩ (([]:List zLZ).map zLZ.c)]]<|zAG ?_
  obtain⟨o6,l7,h⟩:=bs h
  refine zBR (fun p:Nat×(List zLZ)×Nat=>mkS 28 0 [(2,pT 1),(3,pT 2),(13,.sl (v1.L.map zLZ.c)),(14,iI v1.L.length),(15,iI p.2.2)] [(zLZ.d v1),zz2,[iI v1.Op,iI v1.N,.str v1.S,.sl (v2.map cS),.osl ⟨5,46⟩ (p.2.1.map zLZ.c)]]) (fun p=>zB2 (zB4 fuel) v1 p.1 p.2.1 p.2.2=some o6) (fun p=>p.1) (fuel,([]:List zLZ),0) l7 (zA1 (by simp)) ?_
  rintro⟨k8,L4,i5⟩ l7
  try dsimp only at l7 ⊢
  cases k8 with
  |zero=>
   rw[zB2] at l7;cases l7
  |succ k9=>
   rw[zB2] at l7
   refine cutA 28 0 [(2,pT 1),(3,pT 2),(13,.sl (v1.L.map zLZ.c)),(14,iI v1.L.length),(15,iI i5),(16,.bool (ltI ((i5:Nat):Int) (v1.L.length:Int)))] [(zLZ.d v1),zz2,[iI v1.Op,iI v1.N,.str v1.S,.sl (v2.map cS),.osl ⟨5,46⟩ (L4.map zLZ.c)]]<|zAC<|spc l7 rfl (fun g10 l7=>?_) fun g10 l7=>?_
   ·have c11:=ltT g10
    refine zCe 13 rfl fun f12=>?_
    rw[zq4] at f12
    refine zAD<|zAK<|zAC<|zAG ?_
    obtain⟨x13,q14,l7⟩:=bs l7
    refine cut 28 0 [(2,pT 1),(3,pT 2),(5,pT 3),(13,.sl (v1.L.map zLZ.c)),(14,iI v1.L.length),(15,iI i5)] [(zLZ.d v1),zz2,[iI v1.Op,iI v1.N,.str v1.S,.sl (v2.map cS),.osl ⟨5,46⟩ (L4.map zLZ.c)],(zLZ.d x13)] (st (by simp[q14])) ?_
    obtain⟨v15,q16,l7⟩:=bs l7
    obtain⟨l17,q18,l7⟩:=bs l7
    obtain⟨q19,q20⟩:=zHG q18
    try simp at q19
    refine last 28 0 [(2,pT 1),(3,pT 2),(13,.sl (v1.L.map zLZ.c)),(14,iI v1.L.length),(15,iI i5)] [(zLZ.d v1),zz2,[iI v1.Op,iI v1.N,.str v1.S,.sl (v2.map cS),.osl ⟨5,46⟩ (l17.map zLZ.c)],(zLZ.d x13)] ?_ fun zz hs=>?_
    ·refine zAN [] mixed (n:=28) rfl (by decide) ?_
     simp[q19,q20]
     have r22:=zIy x13 v15 q16
     try simp[q19,q20] at r22
     refine zGc r22 (by simp) rfl ?_
     simp[q19,q20]
    refine zDg<|zBS ?_ hs
    have q21:Rng .i64 (((i5:Nat):Int)+1):=by simp only[Rng,inR];omega
    try simp at q21
    refine last 28 0 [(2,pT 1),(3,pT 2),(13,.sl (v1.L.map zLZ.c)),(14,iI v1.L.length),(15,iI ((i5+1:Nat):Int))] [(zLZ.d v1),zz2,[iI v1.Op,iI v1.N,.str v1.S,.sl (v2.map cS),.osl ⟨5,46⟩ (l17.map zLZ.c)]] (st (by simp[q21])) fun zz hs=>?_
    exact⟨(k9,l17,i5+1),hs,l7,by simp⟩
   have c23:=ltF g10
   refine zCe 13 rfl fun f24=>?_
   rw[zq4] at f24
   refine zAp<|zAH ?_
   have q25:=zqa l7
   have q25:=q25.symm
   refine zAH<|zAt<|zBS (t:=mkS 28 0 [(2,pT 1),(3,pT 2)] [(zLZ.d v1),zz2,[iI v1.Op,iI v1.N,.str v1.S,.sl (v2.map cS),.osl ⟨5,46⟩ (o6.map zLZ.c)]]) ?_ (zA1 (by simp[q25]))
   refine cutA 28 0 [(2,pT 1)] [(zLZ.d v1),[iI v1.Op,iI v1.N,.str v1.S,.sl (v2.map cS),.sl (o6.map zLZ.c)],[iI v1.Op,iI v1.N,.str v1.S,.sl (v2.map cS),.osl ⟨5,46⟩ (o6.map zLZ.c)]]<|zAB ?_
   cases h
   simp
theorem zG3(fuel:Nat):(∀(p1:zLc)(v2:zLZ)(l3:(List zLZ))(r:(List zLZ)×Bool×Bool)(_:zAP fuel p1 v2 l3=some r),PureG Tryz.prog 45 [.agg (zLc.d p1),.agg (zLZ.d v2),.osl ⟨5,46⟩ (l3.map zLZ.c)] 2 ⟨5,46⟩ (l3.map zLZ.c) (.otup ⟨5,46⟩ (r.1.map zLZ.c) [.bool r.2.1,.bool r.2.2])):=by
 induction fuel with
 |zero=>intro p1 v2 l3 r h;rw[zAP] at h;cases h
 |succ fuel zG9=>
  intro p1 v2 l3 r h
  rw[zAP] at h
  refine pureG_of_body Tryz.func45 (by rfl) (by rfl) (by simp) rfl (by simp) (by simp)<|cutA 154 0 [(2,.osl ⟨5,46⟩ (l3.map zLZ.c)),(3,pT 0),(4,pT 1)] [(zLc.d p1),(zLZ.d v2)]<|zAC<|cutA 154 0 [(2,.osl ⟨5,46⟩ (l3.map zLZ.c)),(3,pT 0),(4,pT 1),(15,iI p1.Op)] [(zLc.d p1),(zLZ.d v2)]<|zAG<|cutA 154 0 [(2,.osl ⟨5,46⟩ (l3.map zLZ.c)),(3,pT 0),(4,pT 1),(15,iI p1.Op),(16,.bool (eqI p1.Op 1))] [(zLc.d p1),(zLZ.d v2)]<|spc h rfl (fun g4 h=>?_) fun g4 h=>?_
  ·refine cutA 154 0 [(6,.osl ⟨5,46⟩ (l3.map zLZ.c)),(7,.bool true),(8,.bool false)] [(zLc.d p1),(zLZ.d v2)]<|zAB<|zAQ<|zAF ?_
   cases h
   simp
  refine cutA 154 0 [(2,.osl ⟨5,46⟩ (l3.map zLZ.c)),(3,pT 0),(4,pT 1),(15,iI p1.Op),(19,.bool (eqI p1.Op 2))] [(zLc.d p1),(zLZ.d v2)]<|spc h rfl (fun g7 h=>?_) fun g7 h=>?_
  ·obtain⟨v9,q10,h⟩:=bs h
   obtain⟨l11,q12,h⟩:=bs h
   obtain⟨q13,q14⟩:=zHG q12
   try simp at q13
   refine cut 154 0 [(6,.osl ⟨5,46⟩ (l11.map zLZ.c)),(7,.bool true),(8,.bool false)] [(zLc.d p1),(zLZ.d v2)] ?_ ?_
   ·refine st ?_
    simp[q13,q14]
    have r15:=zIr fuel v2 v9 q10
    try simp[q13,q14] at r15
    refine zAA r15 (by simp) rfl ?_
    simp[q13,q14]
   refine zAB<|zAQ<|zAF ?_
   cases h
   simp
  refine cutA 154 0 [(2,.osl ⟨5,46⟩ (l3.map zLZ.c)),(3,pT 0),(4,pT 1),(15,iI p1.Op),(26,.bool (eqI p1.Op 3))] [(zLc.d p1),(zLZ.d v2)]<|spc h rfl (fun g17 h=>?_) fun g17 h=>?_
  ·refine cut 154 0 [(6,.osl ⟨5,46⟩ (l3.map zLZ.c)),(7,.bool ((eqI v2.Op 1)&&(eqI v2.N p1.N))),(8,.bool (!(eqI v2.Op 1)))] [(zLc.d p1),(zLZ.d v2)] ?_ ?_
   ·rcases tf (eqI v2.Op 1) with g19|g19
    ·have c20:=eqT g19
     refine zAc [998] [16] mixed (n:=154) rfl (by decide) (by decide) ?_
     simp[g19]
    have c21:=eqF g19
    refine zAc [998] [16] mixed (n:=154) rfl (by decide) (by decide) ?_
    simp[g19]
   refine zAB<|zAQ<|zAF ?_
   cases h
   simp
  refine cutA 154 0 [(2,.osl ⟨5,46⟩ (l3.map zLZ.c)),(3,pT 0),(4,pT 1),(42,.bool (eqI p1.Op 5))] [(zLc.d p1),(zLZ.d v2)]<|spc h rfl (fun g23 h=>?_) fun g23 h=>?_
  ·refine zAC ?_
   obtain⟨b37,q38,h⟩:=bs h
   refine cut 154 0 [(2,.osl ⟨5,46⟩ (l3.map zLZ.c)),(3,pT 0),(4,pT 1),(64,.bool b37)] [(zLc.d p1),(zLZ.d v2)] ?_ ?_
   ·rcases sp q38 with ⟨g25,q38⟩|⟨g25,q38⟩
    ·have g26:=notT g25
     have c27:=eqF g26
     obtain rfl:=oi q38
     refine st ?_
     simp[g25]
    have g28:=notF g25
    have c29:=eqT g28
    rcases sp q38 with ⟨g30,q38⟩|⟨g30,q38⟩
    ·have g31:=notT g30
     have c32:=eqF g31
     obtain rfl:=oi q38
     refine st ?_
     simp[g25,g30]
    have g33:=notF g30
    have c34:=eqT g33
    obtain⟨v35,q36,q38⟩:=bs q38
    obtain rfl:=oi q38
    refine st ?_
    simp[g25,g30]
    have r64:=zFu fuel v2.Names (p1.L.length:Int) v35 q36
    try simp[g25,g30] at r64
    refine zAA r64 (by simp) rfl ?_
    simp[g25,g30]
   refine spc h rfl (fun g39 h=>?_) fun g39 h=>?_
   ·refine cutA 154 0 [(6,.osl ⟨5,46⟩ (([]:List zLZ).map zLZ.c)),(7,.bool false),(8,.bool true)] [(zLc.d p1),(zLZ.d v2)]<|zAB<|zAF<|zAQ<|zAF ?_
    cases h
    simp
   refine zAD<|zAK<|zAC<|cutA 154 0 [(2,.osl ⟨5,46⟩ (l3.map zLZ.c)),(4,pT 1),(66,.sl (p1.L.map zLc.c)),(67,iI p1.L.length),(68,iI 0)] [(zLc.d p1),(zLZ.d v2)]<|zAG ?_
   obtain⟨o43,l44,h⟩:=bs h
   refine zBR (fun p:Nat×(List zLZ)×Nat=>mkS 154 0 [(2,.osl ⟨5,46⟩ (p.2.1.map zLZ.c)),(4,pT 1),(66,.sl (p1.L.map zLc.c)),(67,iI p1.L.length),(68,iI p.2.2)] [(zLc.d p1),(zLZ.d v2)]) (fun p=>zAg (zAP fuel) p1 v2 p.1 p.2.1 p.2.2=some o43) (fun p=>p.1) (fuel,l3,0) l44 (zA1 (by simp)) ?_
   rintro⟨k45,l40,i41⟩ l44
   try dsimp only at l44 ⊢
   cases k45 with
   |zero=>
    rw[zAg] at l44;cases l44
   |succ k46=>
    rw[zAg] at l44
    refine cutA 154 0 [(2,.osl ⟨5,46⟩ (l40.map zLZ.c)),(4,pT 1),(66,.sl (p1.L.map zLc.c)),(67,iI p1.L.length),(68,iI i41),(69,.bool (ltI ((i41:Nat):Int) (p1.L.length:Int)))] [(zLc.d p1),(zLZ.d v2)]<|zAC<|spc l44 rfl (fun g47 l44=>?_) fun g47 l44=>?_
    ·have c48:=ltT g47
     refine zCe 66 rfl fun f49=>?_
     rw[zq4] at f49
     refine zAD<|zAK<|zAC<|zAG ?_
     obtain⟨x50,q51,l44⟩:=bs l44
     refine cut 154 0 [(2,.osl ⟨5,46⟩ (l40.map zLZ.c)),(4,pT 1),(9,iI i41),(10,pT 2),(66,.sl (p1.L.map zLc.c)),(67,iI p1.L.length),(68,iI i41)] [(zLc.d p1),(zLZ.d v2),(zLc.d x50)] (st (by simp[q51])) ?_
     obtain⟨x52,q53,l44⟩:=bs l44
     obtain⟨v54,q55,l44⟩:=bs l44
     refine cut 154 0 [(2,.osl ⟨5,46⟩ (v54.1.map zLZ.c)),(4,pT 1),(7,.bool v54.2.1),(8,.bool v54.2.2),(66,.sl (p1.L.map zLc.c)),(67,iI p1.L.length),(68,iI i41)] [(zLc.d p1),(zLZ.d v2),(zLc.d x50)] ?_ ?_
     ·refine zAc [997,998] [7,14] mixed (n:=154) rfl (by decide) (by decide) ?_
      simp[q53]
      have r60:=zG9 x50 x52 l40 v54 q55
      try simp[q53] at r60
      refine callXG 2 (.tmp 80) r60 (by first|rfl|simp) rfl rfl (by simp) (by simp) ?_
      simp[q53]
     refine cutA 154 0 [(2,.osl ⟨5,46⟩ (v54.1.map zLZ.c)),(4,pT 1),(8,.bool v54.2.2),(66,.sl (p1.L.map zLc.c)),(67,iI p1.L.length),(68,iI i41),(86,.bool (!v54.2.1))] [(zLc.d p1),(zLZ.d v2),(zLc.d x50)]<|spc l44 rfl (fun g56 l44=>?_) fun g56 l44=>?_
     ·have g57:=notT g56
      refine cutA 154 0 [(6,.osl ⟨5,46⟩ (([]:List zLZ).map zLZ.c)),(7,.bool false),(8,.bool v54.2.2)] [(zLc.d p1),(zLZ.d v2),(zLc.d x50)]<|zAB<|zAQ<|zAF ?_
      replace h:=retL l44 h
      refine zAF<|zAQ<|zAF<|zAQ<|zAF ?_
      cases h
      simp
     have g58:=notF g56
     refine zAD<|zDg<|zAK ?_
     have q59:Rng .i64 (((i41:Nat):Int)+1):=by simp only[Rng,inR];omega
     try simp at q59
     refine last 154 0 [(2,.osl ⟨5,46⟩ (v54.1.map zLZ.c)),(4,pT 1),(66,.sl (p1.L.map zLc.c)),(67,iI p1.L.length),(68,iI ((i41+1:Nat):Int))] [(zLc.d p1),(zLZ.d v2)] (st (by simp[q59])) fun zz hs=>?_
     exact⟨(k46,v54.1,i41+1),hs,l44,by simp⟩
    have c61:=ltF g47
    refine zCe 66 rfl fun f62=>?_
    rw[zq4] at f62
    refine zAp<|zAH ?_
    rcases o43 with o43|o42
    ·cases l44
    have q63:=Sum.inr.inj (zqa l44)
    replace h:=zIl h
    have q63:=q63.symm
    refine zAH<|zAt<|zBS (t:=mkS 154 0 [(2,.osl ⟨5,46⟩ (o42.map zLZ.c))] [(zLc.d p1),(zLZ.d v2)]) ?_ (zA1 (by simp[q63]))
    refine cutA 154 0 [(6,.osl ⟨5,46⟩ (o42.map zLZ.c)),(7,.bool true),(8,.bool false)] [(zLc.d p1),(zLZ.d v2)]<|zAB<|zAQ<|zAF ?_
    cases h
    simp
  refine zAD<|zDg<|zAK<|zAC ?_
  obtain⟨b78,q79,h⟩:=bs h
  refine cut 154 0 [(2,.osl ⟨5,46⟩ (l3.map zLZ.c)),(3,pT 0),(4,pT 1),(108,.bool b78)] [(zLc.d p1),(zLZ.d v2)] ?_ ?_
  ·rcases sp q79 with ⟨g66,q79⟩|⟨g66,q79⟩
   ·have g67:=notT g66
    have c68:=eqF g67
    obtain rfl:=oi q79
    refine st ?_
    simp[g66]
   have g69:=notF g66
   have c70:=eqT g69
   obtain⟨x71,q72,q79⟩:=bs q79
   rcases sp q79 with ⟨g73,q79⟩|⟨g73,q79⟩
   ·have g74:=notT g73
    have c75:=eqF g74
    obtain rfl:=oi q79
    refine st ?_
    simp[g66,q72,g73]
   have g76:=notF g73
   have c77:=eqT g76
   obtain rfl:=oi q79
   refine st ?_
   simp[g66,q72,g73]
  refine spc h rfl (fun g80 h=>?_) fun g80 h=>?_
  ·refine cutA 154 0 [(6,.osl ⟨5,46⟩ (([]:List zLZ).map zLZ.c)),(7,.bool false),(8,.bool true)] [(zLc.d p1),(zLZ.d v2)]<|zAB<|zAF ?_
   cases h
   simp
  refine zAD<|zAK ?_
  obtain⟨x81,q82,h⟩:=bs h
  obtain⟨x83,q84,h⟩:=bs h
  refine cut 154 0 [(2,.osl ⟨5,46⟩ (l3.map zLZ.c)),(3,pT 0),(11,.str x81.S),(12,pT 2)] [(zLc.d p1),(zLZ.d v2),(zLZ.d x83)] ?_ ?_
  ·refine zAc [999] [14] mixed (n:=154) rfl (by decide) (by decide) ?_
   simp[q82,q84]
  refine zAC<|zAG<|cutA 154 0 [(2,.osl ⟨5,46⟩ (l3.map zLZ.c)),(3,pT 0),(12,pT 2),(121,.bool (!(eqS x81.S p1.S)))] [(zLc.d p1),(zLZ.d v2),(zLZ.d x83)]<|spc h rfl (fun g85 h=>?_) fun g85 h=>?_
  ·have g86:=notT g85
   refine cutA 154 0 [(6,.osl ⟨5,46⟩ (([]:List zLZ).map zLZ.c)),(7,.bool false),(8,.bool false)] [(zLc.d p1),(zLZ.d v2),(zLZ.d x83)]<|zAB<|zAQ<|zAF ?_
   cases h
   simp
  have g87:=notF g85
  refine cutA 154 0 [(2,.osl ⟨5,46⟩ (l3.map zLZ.c)),(3,pT 0),(12,pT 2),(126,.bool (eqI (p1.L.length:Int) 0))] [(zLc.d p1),(zLZ.d v2),(zLZ.d x83)]<|spc h rfl (fun g88 h=>?_) fun g88 h=>?_
  ·have c89:=eqT g88
   refine cut 154 0 [(2,.osl ⟨5,46⟩ (l3.map zLZ.c)),(13,.bool ((eqI x83.Op 3)&&(eqI (x83.L.length:Int) 0)))] [(zLc.d p1),(zLZ.d v2),(zLZ.d x83)] ?_ ?_
   ·rcases tf (eqI x83.Op 3) with g90|g90
    ·have c91:=eqT g90
     refine st ?_
     simp[g90]
    have c92:=eqF g90
    refine st ?_
    simp[g90]
   refine cutA 154 0 [(6,.osl ⟨5,46⟩ (l3.map zLZ.c)),(7,.bool ((eqI x83.Op 3)&&(eqI (x83.L.length:Int) 0))),(8,.bool (!((eqI x83.Op 3)&&(eqI (x83.L.length:Int) 0))))] [(zLc.d p1),(zLZ.d v2),(zLZ.d x83)]<|zAB<|zAQ<|zAF ?_
   cases h
   simp
  have c93:=eqF g88
  refine zAD<|zDg<|zAK ?_
  obtain⟨x94,q95,h⟩:=bs h
  obtain⟨v96,q97,h⟩:=bs h
  refine cut 154 0 [(6,.osl ⟨5,46⟩ (v96.1.map zLZ.c)),(7,.bool v96.2.1),(8,.bool v96.2.2)] [(zLc.d p1),(zLZ.d v2),(zLZ.d x83)] ?_ ?_
  ·refine zAc [997] [6,10,11,12] mixed (n:=154) rfl (by decide) (by decide) ?_
   simp[q95]
   have r98:=zG9 x94 x83 l3 v96 q97
   try simp[q95] at r98
   refine callXG 2 (.tmp 149) r98 (by first|rfl|simp) rfl rfl (by simp) (by simp) ?_
   simp[q95]
  refine zAB ?_
  cases h
  simp
theorem zEf(fuel:Nat)(p1:zLc)(v2:zLZ)(r:(List zLZ)×Bool×Int)(h:zBX fuel p1 v2=some r):Pure Tryz.prog 18 [.agg (zLc.d p1),.agg (zLZ.d v2)] (.tup [.sl (r.1.map zLZ.c),.bool r.2.1,iI r.2.2]):=by
 rw[zBX] at h
 refine zAE Tryz.func18 (by rfl) (by rfl) (by simp) (by simp) (by simp)<|cutA 31 0 [(2,pT 0),(3,pT 1)] [(zLc.d p1),(zLZ.d v2)]<|zAC ?_
 obtain⟨b10,q11,h⟩:=bs h
 refine cut 31 0 [(2,pT 0),(3,pT 1),(17,.bool b10)] [(zLc.d p1),(zLZ.d v2)] ?_ ?_
 ·obtain⟨v3,q4,q11⟩:=bs q11
  rcases sp q11 with ⟨g5,q11⟩|⟨g5,q11⟩
  ·have g6:=notT g5
   obtain rfl:=oi q11
   refine st ?_
   simp[g5]
   have r20:=zCX fuel p1 v3 q4
   try simp[g5] at r20
   refine zAA r20 (by simp) rfl ?_
   simp[g5]
  have g7:=notF g5
  obtain⟨v8,q9,q11⟩:=bs q11
  obtain rfl:=oi q11
  refine st ?_
  simp[g5]
  have r21:=zCX fuel p1 v3 q4
  try simp[g5] at r21
  refine zAA r21 (by simp) rfl ?_
  simp[g5]
  have r22:=zGL fuel v2 v8 q9
  try simp[g5] at r22
  refine zAA r22 (by simp) rfl ?_
  simp[g5]
 refine spc h rfl (fun g12 h=>?_) fun g12 h=>?_
 ·refine cutA 31 0 [(4,.osl ⟨5,46⟩ (([]:List zLZ).map zLZ.c)),(5,.bool false),(6,iI 1)] [(zLc.d p1),(zLZ.d v2)]<|zAB<|zAF ?_
  cases h
  simp
 refine zAD<|zAK ?_
 obtain⟨v13,q14,h⟩:=bs h
 refine cut 31 0 [(7,.osl ⟨5,46⟩ (v13.1.map zLZ.c)),(8,.bool v13.2.1),(9,.bool v13.2.2)] [(zLc.d p1),(zLZ.d v2)] ?_ ?_
 ·refine st ?_
  simp
  have r19:=zG3 fuel p1 v2 ([]:List zLZ) v13 q14
  try simp at r19
  refine callG 2 (.const (.slice none 0 0)) r19 (by first|rfl|simp) rfl rfl (by simp) (by simp) ?_
  simp
 refine zAC<|zAG<|cutA 31 0 [(7,.osl ⟨5,46⟩ (v13.1.map zLZ.c)),(8,.bool v13.2.1),(25,.bool v13.2.2)] [(zLc.d p1),(zLZ.d v2)]<|spc h rfl (fun g15 h=>?_) fun g15 h=>?_
 ·refine cutA 31 0 [(4,.osl ⟨5,46⟩ (([]:List zLZ).map zLZ.c)),(5,.bool false),(6,iI 12)] [(zLc.d p1),(zLZ.d v2)]<|zAB<|zAQ<|zAF ?_
  cases h
  simp
 refine cutA 31 0 [(7,.osl ⟨5,46⟩ (v13.1.map zLZ.c)),(27,.bool (!v13.2.1))] [(zLc.d p1),(zLZ.d v2)]<|spc h rfl (fun g16 h=>?_) fun g16 h=>?_
 ·have g17:=notT g16
  refine cutA 31 0 [(4,.osl ⟨5,46⟩ (([]:List zLZ).map zLZ.c)),(5,.bool false),(6,iI 0)] [(zLc.d p1),(zLZ.d v2)]<|zAB<|zAQ<|zAF ?_
  cases h
  simp
 have g18:=notF g16
 refine zAD<|zDg<|zAK<|cutA 31 0 [(4,.osl ⟨5,46⟩ (v13.1.map zLZ.c)),(5,.bool true),(6,iI 0)] [(zLc.d p1),(zLZ.d v2)]<|zAB ?_
 cases h
 simp
theorem zBu(fuel:Nat)(slices1:(List (List zLc)))(r:(List zLc))(h:zAo fuel slices1=some r):Pure Tryz.prog 20 [.sl (slices1.map (cL zLc.c))] (.sl (r.map zLc.c)):=by
 rw[zAo] at h
 refine zAE Tryz.func20 (by rfl) (by rfl) (by simp) (by simp) (by simp)<|cutA 36 0 [(0,.sl (slices1.map (cL zLc.c)))] []<|cutA 36 0 [(0,.sl (slices1.map (cL zLc.c))),(3,iI 0)] []<|zAC<|cutA 36 0 [(0,.sl (slices1.map (cL zLc.c))),(3,iI 0),(9,.sl (slices1.map (cL zLc.c))),(10,iI slices1.length),(11,iI 0)] []<|zAG ?_
 obtain⟨o4,l5,h⟩:=bs h
 refine zBR (fun p:Nat×Int×Nat=>mkS 36 0 [(0,.sl (slices1.map (cL zLc.c))),(3,iI p.2.1),(9,.sl (slices1.map (cL zLc.c))),(10,iI slices1.length),(11,iI p.2.2)] []) (fun p=>zAz slices1 p.1 p.2.1 p.2.2=some o4∧0<=p.2.1) (fun p=>p.1) (fuel,0,0) ⟨l5,by(try dsimp only);omega⟩ (zA1 (by simp)) ?_
 rintro⟨k7,size2,i3⟩ ⟨l5,c6⟩
 try dsimp only at l5 c6 ⊢
 cases k7 with
 |zero=>
  rw[zAz] at l5;cases l5
 |succ k8=>
  rw[zAz] at l5
  refine cutA 36 0 [(0,.sl (slices1.map (cL zLc.c))),(3,iI size2),(9,.sl (slices1.map (cL zLc.c))),(10,iI slices1.length),(11,iI i3),(12,.bool (ltI ((i3:Nat):Int) (slices1.length:Int)))] []<|zAC<|spc l5 rfl (fun g9 l5=>?_) fun g9 l5=>?_
  ·have c10:=ltT g9
   refine zCe 0 rfl fun f11=>?_
   rw[zq4] at f11
   refine zAD<|zAK<|zAC<|zAG ?_
   obtain⟨x12,q13,l5⟩:=bs l5
   refine cut 36 0 [(0,.sl (slices1.map (cL zLc.c))),(3,iI size2),(5,.sl (x12.map zLc.c)),(9,.sl (slices1.map (cL zLc.c))),(10,iI slices1.length),(11,iI i3)] [] (st (by simp[q13])) ?_
   obtain⟨n14,q15,l5⟩:=bs l5
   obtain⟨q16,q17⟩:=zC9 q15
   try simp at q16
   try simp at q17
   have c18:=q16;simp only[Rng,inR] at c18
   refine cut 36 0 [(0,.sl (slices1.map (cL zLc.c))),(3,iI n14),(9,.sl (slices1.map (cL zLc.c))),(10,iI slices1.length),(11,iI i3)] [] (st (by simp[q16,q17]))<|cutA 36 0 [(0,.sl (slices1.map (cL zLc.c))),(3,iI n14),(9,.sl (slices1.map (cL zLc.c))),(10,iI slices1.length),(11,iI i3),(20,.bool (ltI n14 0))] []<|spc l5 rfl (fun g19 l5=>?_) fun g19 l5=>?_
   ·have c20:=ltT g19
    cases l5
   have c21:=ltF g19
   refine zAD<|zDg<|zAK ?_
   have q22:Rng .i64 (((i3:Nat):Int)+1):=by simp only[Rng,inR];omega
   try simp at q22
   refine last 36 0 [(0,.sl (slices1.map (cL zLc.c))),(3,iI n14),(9,.sl (slices1.map (cL zLc.c))),(10,iI slices1.length),(11,iI ((i3+1:Nat):Int))] [] (st (by simp[q22])) fun zz hs=>?_
   exact⟨(k8,n14,i3+1),hs,⟨l5,by(try dsimp only);(try unfold maxI);(first|omega|(split<;>omega))⟩,by simp⟩
  have c23:=ltF g9
  refine zCe 0 rfl fun f24=>?_
  rw[zq4] at f24
  refine zAp<|zAH ?_
  have q25:=zqa l5
  have q25:=q25.symm
  refine zAH<|zAt<|zBS (t:=mkS 36 0 [(0,.sl (slices1.map (cL zLc.c))),(3,iI o4)] []) ?_ (zA1 (by simp[q25]))
  obtain⟨u26,q27,h⟩:=bs h
  obtain⟨q28,q29⟩:=growC_ok q27
  refine cut 36 0 [(0,.sl (slices1.map (cL zLc.c))),(6,.osl ⟨4,24⟩ (([]:List zLc).map zLc.c))] [] ?_ ?_
  ·refine st ?_
   simp
   have r49:=grow_O o4 q28 q29
   try simp at r49
   refine callOwn r49 (by simp) ?_
   simp
  refine zAC<|cutA 36 0 [(6,.osl ⟨4,24⟩ (([]:List zLc).map zLc.c)),(25,.sl (slices1.map (cL zLc.c))),(26,iI slices1.length),(27,iI 0)] []<|zAG ?_
  obtain⟨o32,l33,h⟩:=bs h
  refine zBR (fun p:Nat×(List zLc)×Nat=>mkS 36 0 [(6,.osl ⟨4,24⟩ (p.2.1.map zLc.c)),(25,.sl (slices1.map (cL zLc.c))),(26,iI slices1.length),(27,iI p.2.2)] []) (fun p=>zAy slices1 p.1 p.2.1 p.2.2=some o32) (fun p=>p.1) (fuel,([]:List zLc),0) l33 (zA1 (by simp)) ?_
  rintro⟨k34,newslice30,i31⟩ l33
  try dsimp only at l33 ⊢
  cases k34 with
  |zero=>
   rw[zAy] at l33;cases l33
  |succ k35=>
   rw[zAy] at l33
   refine cutA 36 0 [(6,.osl ⟨4,24⟩ (newslice30.map zLc.c)),(25,.sl (slices1.map (cL zLc.c))),(26,iI slices1.length),(27,iI i31),(28,.bool (ltI ((i31:Nat):Int) (slices1.length:Int)))] []<|zAC<|spc l33 rfl (fun g36 l33=>?_) fun g36 l33=>?_
   ·have c37:=ltT g36
    refine zCe 25 rfl fun f38=>?_
    rw[zq4] at f38
    refine zAD<|zAK<|zAC<|zAG ?_
    obtain⟨x39,q40,l33⟩:=bs l33
    refine cut 36 0 [(6,.osl ⟨4,24⟩ (newslice30.map zLc.c)),(8,.sl (x39.map zLc.c)),(25,.sl (slices1.map (cL zLc.c))),(26,iI slices1.length),(27,iI i31)] [] (st (by simp[q40])) ?_
    obtain⟨l41,q42,l33⟩:=bs l33
    obtain⟨q43,q44⟩:=zHG q42
    try simp at q43
    refine last 36 0 [(6,.osl ⟨4,24⟩ (l41.map zLc.c)),(25,.sl (slices1.map (cL zLc.c))),(26,iI slices1.length),(27,iI i31)] [] (st (by simp[q43,q44])) fun zz hs=>?_
    refine zDg<|zBS ?_ hs
    have q45:Rng .i64 (((i31:Nat):Int)+1):=by simp only[Rng,inR];omega
    try simp at q45
    refine last 36 0 [(6,.osl ⟨4,24⟩ (l41.map zLc.c)),(25,.sl (slices1.map (cL zLc.c))),(26,iI slices1.length),(27,iI ((i31+1:Nat):Int))] [] (st (by simp[q45])) fun zz hs=>?_
    exact⟨(k35,l41,i31+1),hs,l33,by simp⟩
   have c46:=ltF g36
   refine zCe 25 rfl fun f47=>?_
   rw[zq4] at f47
   refine zAp<|zAH ?_
   have q48:=zqa l33
   have q48:=q48.symm
   refine zAH<|zAt<|zBS (t:=mkS 36 0 [(6,.osl ⟨4,24⟩ (o32.map zLc.c))] []) ?_ (zA1 (by simp[q48]))
   refine cutA 36 0 [(2,.osl ⟨4,24⟩ (o32.map zLc.c))] []<|zAB ?_
   cases h
   simp
theorem zIP(fuel:Nat)(p1:zLc)(r:Bool)(h:zDc fuel p1=some r):Pure Tryz.prog 46 [.agg (zLc.d p1)] (.bool r):=by
 rw[zDc] at h
 refine zAE Tryz.func46 (by rfl) (by rfl) (by simp) (by simp) (by simp)<|cutA 6 0 [(1,pT 0)] [(zLc.d p1)] ?_
 obtain⟨v2,q3,h⟩:=bs h
 refine cut 6 0 [(2,.bool (!v2))] [(zLc.d p1)] ?_ ?_
 ·refine st ?_
  simp
  have r4:=zCX fuel p1 v2 q3
  try simp at r4
  refine zAA r4 (by simp) rfl ?_
  simp
 refine zAB ?_
 cases h
 simp
theorem zEb(fuel:Nat)(s1:(List zLc))(r:Int)(h:zBn fuel s1=some r):Pure Tryz.prog 42 [.sl (s1.map zLc.c),.fn (.func 46) [] []] (iI r):=by
 rw[zBn] at h
 refine zAE Tryz.func42 (by rfl) (by rfl) (by simp) (by simp) (by simp)<|cutA 19 0 [(0,.sl (s1.map zLc.c)),(1,.fn (.func 46) [] [])] []<|zAC<|cutA 19 0 [(0,.sl (s1.map zLc.c)),(1,.fn (.func 46) [] []),(7,iI s1.length),(8,iI 0)] []<|zAG ?_
 obtain⟨o4,l5,h⟩:=bs h
 refine zBR (fun p:Nat×Nat=>mkS 19 0 [(0,.sl (s1.map zLc.c)),(1,.fn (.func 46) [] []),(7,iI s1.length),(8,iI p.2)] []) (fun p=>zAj fuel s1 p.1 p.2=some o4) (fun p=>p.1) (fuel,0) l5 (zA1 (by simp)) ?_
 rintro⟨k6,i2⟩ l5
 try dsimp only at l5 ⊢
 cases k6 with
 |zero=>
  rw[zAj] at l5;cases l5
 |succ k7=>
  rw[zAj] at l5
  refine cutA 19 0 [(0,.sl (s1.map zLc.c)),(1,.fn (.func 46) [] []),(7,iI s1.length),(8,iI i2),(9,.bool (ltI ((i2:Nat):Int) (s1.length:Int)))] []<|zAC<|spc l5 rfl (fun g8 l5=>?_) fun g8 l5=>?_
  ·have c9:=ltT g8
   refine zCe 0 rfl fun f10=>?_
   rw[zq4] at f10
   refine zAD<|zAK<|zAC<|zAG<|cutA 19 0 [(0,.sl (s1.map zLc.c)),(1,.fn (.func 46) [] []),(5,iI i2),(7,iI s1.length),(8,iI i2)] [] ?_
   obtain⟨x11,q12,l5⟩:=bs l5
   obtain⟨v13,q14,l5⟩:=bs l5
   refine cut 19 0 [(0,.sl (s1.map zLc.c)),(1,.fn (.func 46) [] []),(5,iI i2),(7,iI s1.length),(8,iI i2),(16,.bool v13)] [] ?_ ?_
   ·refine st ?_
    simp[q12]
    have r17:=zIP fuel x11 v13 q14
    try simp[q12] at r17
    refine zAA r17 (by simp) rfl ?_
    simp[q12]
   refine spc l5 rfl (fun g15 l5=>?_) fun g15 l5=>?_
   ·refine cutA 19 0 [(4,iI i2)] []<|zAB<|zAQ<|zAF ?_
    replace h:=retL l5 h
    refine zAF<|zAQ<|zAF ?_
    cases h
    simp
   refine zAD<|zDg<|zAK ?_
   have q16:Rng .i64 (((i2:Nat):Int)+1):=by simp only[Rng,inR];omega
   try simp at q16
   refine last 19 0 [(0,.sl (s1.map zLc.c)),(1,.fn (.func 46) [] []),(7,iI s1.length),(8,iI ((i2+1:Nat):Int))] [] (st (by simp[q16])) fun zz hs=>?_
   exact⟨(k7,i2+1),hs,l5,by simp⟩
  have c18:=ltF g8
  refine zCe 0 rfl fun f19=>?_
  rw[zq4] at f19
  refine zAp<|zAH ?_
  rcases o4 with o4|o3
  ·cases l5
  have q20:=Sum.inr.inj (zqa l5)
  replace h:=zIl h
  refine zAH<|zAt<|zBS (t:=mkS 19 0 [] []) ?_ (zA1 (by simp))
  refine cutA 19 0 [(4,iI (-1))] []<|zAB ?_
  cases h
  simp
theorem zD3(fuel:Nat)(s1:(List zLc))(r:Bool)(h:zBA fuel s1=some r):Pure Tryz.prog 14 [.sl (s1.map zLc.c),.fn (.func 46) [] []] (.bool r):=by
 rw[zBA] at h
 refine zAE Tryz.func14 (by rfl) (by rfl) (by simp) (by simp) (by simp)<|cutA 9 0 [(0,.sl (s1.map zLc.c)),(1,.fn (.func 46) [] [])] [] ?_
 obtain⟨v2,q3,h⟩:=bs h
 refine cut 9 0 [(4,.bool (leI 0 v2))] [] ?_ ?_
 ·refine st ?_
  simp
  have r4:=zEb fuel s1 v2 q3
  try simp at r4
  refine zAA r4 (by simp) rfl ?_
  simp
 refine zAB ?_
 cases h
 simp
theorem zBM(fuel:Nat)(l1:(List zLc))(v2:zLZ)(r:Int×Int)(h:zAY fuel l1 v2=some r):Pure Tryz.prog 19 [.sl (l1.map zLc.c),.agg (zLZ.d v2)] (.tup [iI r.1,iI r.2]):=by
 rw[zAY] at h
 refine zAE Tryz.func19 (by rfl) (by rfl) (by simp) (by simp) (by simp)<|cutA 41 0 [(0,.sl (l1.map zLc.c)),(3,pT 0)] [(zLZ.d v2)]<|zAC ?_
 obtain⟨b10,q11,h⟩:=bs h
 refine cut 41 0 [(0,.sl (l1.map zLc.c)),(3,pT 0),(17,.bool b10)] [(zLZ.d v2)] ?_ ?_
 ·obtain⟨v3,q4,q11⟩:=bs q11
  rcases sp q11 with ⟨g5,q11⟩|⟨g5,q11⟩
  ·have g6:=notT g5
   obtain rfl:=oi q11
   refine st ?_
   simp[g5]
   have r36:=zGL fuel v2 v3 q4
   try simp[g5] at r36
   refine zAA r36 (by simp) rfl ?_
   simp[g5]
  have g7:=notF g5
  obtain⟨v8,q9,q11⟩:=bs q11
  obtain rfl:=oi q11
  refine st ?_
  simp[g5]
  have r37:=zGL fuel v2 v3 q4
  try simp[g5] at r37
  refine zAA r37 (by simp) rfl ?_
  simp[g5]
  have r38:=zD3 fuel l1 v8 q9
  try simp[g5] at r38
  refine zAA r38 (by simp) rfl ?_
  simp[g5]
 refine spc h rfl (fun g12 h=>?_) fun g12 h=>?_
 ·refine cutA 41 0 [(4,iI 0),(5,iI 1)] [(zLZ.d v2)]<|zAB<|zAF ?_
  cases h
  simp
 refine zAD<|zAK<|zAC<|cutA 41 0 [(0,.sl (l1.map zLc.c)),(3,pT 0),(20,.bool (ltI 1000 (l1.length:Int)))] [(zLZ.d v2)]<|spc h rfl (fun g13 h=>?_) fun g13 h=>?_
 ·have c14:=ltT g13
  refine zCe 0 rfl fun f15=>?_
  rw[zq4] at f15
  refine cutA 41 0 [(4,iI 0),(5,iI 5)] [(zLZ.d v2)]<|zAB<|zAF ?_
  cases h
  simp
 have c16:=ltF g13
 refine zCe 0 rfl fun f17=>?_
 rw[zq4] at f17
 refine zAD<|zAK<|zAC<|cutA 41 0 [(3,pT 0),(21,.sl (l1.map zLc.c)),(22,iI l1.length),(23,iI 0)] [(zLZ.d v2)]<|zAG ?_
 obtain⟨o20,l21,h⟩:=bs h
 refine zBR (fun p:Nat×Nat=>mkS 41 0 [(3,pT 0),(21,.sl (l1.map zLc.c)),(22,iI l1.length),(23,iI p.2)] [(zLZ.d v2)]) (fun p=>zBW fuel l1 v2 p.1 p.2=some o20) (fun p=>p.1) (fuel,0) l21 (zA1 (by simp)) ?_
 rintro⟨k22,i18⟩ l21
 try dsimp only at l21 ⊢
 cases k22 with
 |zero=>
  rw[zBW] at l21;cases l21
 |succ k23=>
  rw[zBW] at l21
  refine cutA 41 0 [(3,pT 0),(21,.sl (l1.map zLc.c)),(22,iI l1.length),(23,iI i18),(24,.bool (ltI ((i18:Nat):Int) (l1.length:Int)))] [(zLZ.d v2)]<|zAC<|spc l21 rfl (fun g24 l21=>?_) fun g24 l21=>?_
  ·have c25:=ltT g24
   refine zAD<|zAK<|zAC<|zAG ?_
   obtain⟨x26,q27,l21⟩:=bs l21
   refine cut 41 0 [(3,pT 0),(6,iI i18),(7,pT 1),(21,.sl (l1.map zLc.c)),(22,iI l1.length),(23,iI i18)] [(zLZ.d v2),(zLc.d x26)] (st (by simp[q27])) ?_
   obtain⟨v28,q29,l21⟩:=bs l21
   refine cut 41 0 [(3,pT 0),(6,iI i18),(9,.bool v28.2.1),(10,.bool v28.2.2),(21,.sl (l1.map zLc.c)),(22,iI l1.length),(23,iI i18)] [(zLZ.d v2),(zLc.d x26)] ?_ ?_
   ·refine st ?_
    simp
    have r33:=zG3 fuel x26 v2 ([]:List zLZ) v28 q29
    try simp at r33
    refine callG 2 (.const (.slice none 0 0)) r33 (by first|rfl|simp) rfl rfl (by simp) (by simp) ?_
    simp
   refine zAG<|cutA 41 0 [(3,pT 0),(6,iI i18),(9,.bool v28.2.1),(21,.sl (l1.map zLc.c)),(22,iI l1.length),(23,iI i18),(35,.bool v28.2.2)] [(zLZ.d v2),(zLc.d x26)]<|spc l21 rfl (fun g30 l21=>?_) fun g30 l21=>?_
   ·refine cutA 41 0 [(4,iI 0),(5,iI 12)] [(zLZ.d v2),(zLc.d x26)]<|zAB<|zAQ<|zAQ<|zAF ?_
    replace h:=retL l21 h
    refine zAF<|zAQ<|zAF ?_
    cases h
    simp
   refine cutA 41 0 [(3,pT 0),(6,iI i18),(21,.sl (l1.map zLc.c)),(22,iI l1.length),(23,iI i18),(37,.bool v28.2.1)] [(zLZ.d v2),(zLc.d x26)]<|spc l21 rfl (fun g31 l21=>?_) fun g31 l21=>?_
   ·refine cutA 41 0 [(4,iI i18),(5,iI 0)] [(zLZ.d v2),(zLc.d x26)]<|zAB<|zAQ<|zAQ<|zAF ?_
    replace h:=retL l21 h
    refine zAF<|zAQ<|zAF ?_
    cases h
    simp
   refine zAD<|zDg<|zDg<|zAK ?_
   have q32:Rng .i64 (((i18:Nat):Int)+1):=by simp only[Rng,inR];omega
   try simp at q32
   refine last 41 0 [(3,pT 0),(21,.sl (l1.map zLc.c)),(22,iI l1.length),(23,iI ((i18+1:Nat):Int))] [(zLZ.d v2)] (st (by simp[q32])) fun zz hs=>?_
   exact⟨(k23,i18+1),hs,l21,by simp⟩
  have c34:=ltF g24
  refine zAp<|zAH ?_
  rcases o20 with o20|o19
  ·cases l21
  have q35:=Sum.inr.inj (zqa l21)
  replace h:=zIl h
  refine zAH<|zAt<|zBS (t:=mkS 41 0 [] [(zLZ.d v2)]) ?_ (zA1 (by simp))
  refine cutA 41 0 [(4,iI 0),(5,iI 8)] [(zLZ.d v2)]<|zAB ?_
  cases h
  simp
theorem zHU(fuel:Nat)(p1:zLc)(at2:(List UInt8))(c3:zLd)(v4:zLZ)(l5:(List zLc))(r:Bool)(h:zCQ fuel p1 at2 c3 v4 l5=some r):Pure Tryz.prog 4 [.agg (zLc.d p1),.sl (at2.map cU),.agg (zLd.d c3),.agg (zLZ.d v4),.sl (l5.map zLc.c)] (.bool r):=by
 rw[zCQ] at h
 refine zAE Tryz.func4 (by rfl) (by rfl) (by simp) (by simp) (by simp)<|cutA 206 0 [(1,.sl (at2.map cU)),(4,.sl (l5.map zLc.c)),(5,pT 0),(7,pT 1),(8,pT 2)] [(zLc.d p1),(zLd.d c3),(zLZ.d v4)]<|zAC ?_
 obtain⟨v6,q7,h⟩:=bs h
 refine cut 206 0 [(1,.sl (at2.map cU)),(4,.sl (l5.map zLc.c)),(5,pT 0),(7,pT 1),(8,pT 2),(34,.bool (!v6))] [(zLc.d p1),(zLd.d c3),(zLZ.d v4)] ?_ ?_
 ·refine st ?_
  simp
  have r342:=zLD v6 q7
  try simp at r342
  refine zAA r342 (by simp) rfl ?_
  simp
 refine spc h rfl (fun g8 h=>?_) fun g8 h=>?_
 ·have g9:=notT g8
  refine cutA 206 0 [(10,.bool false)] [(zLc.d p1),(zLd.d c3),(zLZ.d v4)]<|zAB<|zAF ?_
  cases h
  simp
 have g10:=notF g8
 refine zAD<|zAK<|zAC ?_
 obtain⟨b35,q36,h⟩:=bs h
 refine cut 206 0 [(1,.sl (at2.map cU)),(4,.sl (l5.map zLc.c)),(5,pT 0),(7,pT 1),(8,pT 2),(63,.bool b35)] [(zLc.d p1),(zLd.d c3),(zLZ.d v4)] ?_ ?_
 ·obtain⟨v11,q12,q36⟩:=bs q36
  rcases sp q36 with ⟨g13,q36⟩|⟨g13,q36⟩
  ·obtain rfl:=oi q36
   refine zA0<|WL.cut 2 206 0 [(1,.sl (at2.map cU)),(4,.sl (l5.map zLc.c)),(5,pT 0),(7,pT 1),(8,pT 2),(36,.bool v11)] [(zLc.d p1),(zLd.d c3),(zLZ.d v4)] ?_ ?_
   ·simp[g13]
    have r323:=zDl fuel p1 v11 q12
    try simp[g13] at r323
    refine zAA r323 (by simp) rfl ?_
    simp[g13]
   refine WL.last ?_
   simp[g13]
  rcases sp q36 with ⟨g14,q36⟩|⟨g14,q36⟩
  ·have c15:=ltT g14
   refine zCe 1 rfl fun f16=>?_
   rw[zq4] at f16
   obtain rfl:=oi q36
   have g13x:=g13
   try simp only[g14] at g13x
   have g14x:=g14
   try simp only[g13] at g14x
   refine zA0<|WL.cut 2 206 0 [(1,.sl (at2.map cU)),(4,.sl (l5.map zLc.c)),(5,pT 0),(7,pT 1),(8,pT 2),(36,.bool v11)] [(zLc.d p1),(zLd.d c3),(zLZ.d v4)] ?_ ?_
   ·simp[g13,g14,g13x,g14x]
    have r324:=zDl fuel p1 v11 q12
    try simp[g13,g14,g13x,g14x] at r324
    refine zAA r324 (by simp) rfl ?_
    simp[g13,g14,g13x,g14x]
   refine WL.last ?_
   simp[g13,g14,g13x,g14x]
  have c17:=ltF g14
  refine zCe 1 rfl fun f18=>?_
  rw[zq4] at f18
  obtain⟨v19,q20,q36⟩:=bs q36
  rcases sp q36 with ⟨g21,q36⟩|⟨g21,q36⟩
  ·obtain rfl:=oi q36
   have g13x:=g13
   try simp only[g14,g21] at g13x
   have g14x:=g14
   try simp only[g13,g21] at g14x
   have g21x:=g21
   try simp only[g13,g14] at g21x
   refine zA0<|WL.cut 2 206 0 [(1,.sl (at2.map cU)),(4,.sl (l5.map zLc.c)),(5,pT 0),(7,pT 1),(8,pT 2),(36,.bool v11)] [(zLc.d p1),(zLd.d c3),(zLZ.d v4)] ?_ ?_
   ·simp[g13,g14,g21,g13x,g14x,g21x]
    have r325:=zDl fuel p1 v11 q12
    try simp[g13,g14,g21,g13x,g14x,g21x] at r325
    refine zAA r325 (by simp) rfl ?_
    simp[g13,g14,g21,g13x,g14x,g21x]
   refine WL.cut 8 206 0 [(1,.sl (at2.map cU)),(4,.sl (l5.map zLc.c)),(5,pT 0),(7,pT 1),(8,pT 2),(42,.bool (ltI 50 (at2.length:Int))),(44,.bool v19)] [(zLc.d p1),(zLd.d c3),(zLZ.d v4)] ?_ ?_
   ·simp[g13,g14,g21,g13x,g14x,g21x]
    have r326:=zFF fuel c3 v19 q20
    try simp[g13,g14,g21,g13x,g14x,g21x] at r326
    refine zAA r326 (by simp) rfl ?_
    simp[g13,g14,g21,g13x,g14x,g21x]
   refine WL.last ?_
   simp[g13,g14,g21,g13x,g14x,g21x]
  obtain⟨v22,q23,q36⟩:=bs q36
  rcases sp q36 with ⟨g24,q36⟩|⟨g24,q36⟩
  ·obtain rfl:=oi q36
   have g13x:=g13
   try simp only[g14,g21,g24] at g13x
   have g14x:=g14
   try simp only[g13,g21,g24] at g14x
   have g21x:=g21
   try simp only[g13,g14,g24] at g21x
   have g24x:=g24
   try simp only[g13,g14,g21] at g24x
   refine zA0<|WL.cut 2 206 0 [(1,.sl (at2.map cU)),(4,.sl (l5.map zLc.c)),(5,pT 0),(7,pT 1),(8,pT 2),(36,.bool v11)] [(zLc.d p1),(zLd.d c3),(zLZ.d v4)] ?_ ?_
   ·simp[g13,g14,g21,g24,g13x,g14x,g21x,g24x]
    have r327:=zDl fuel p1 v11 q12
    try simp[g13,g14,g21,g24,g13x,g14x,g21x,g24x] at r327
    refine zAA r327 (by simp) rfl ?_
    simp[g13,g14,g21,g24,g13x,g14x,g21x,g24x]
   refine WL.cut 8 206 0 [(1,.sl (at2.map cU)),(4,.sl (l5.map zLc.c)),(5,pT 0),(7,pT 1),(8,pT 2),(42,.bool (ltI 50 (at2.length:Int))),(44,.bool v19)] [(zLc.d p1),(zLd.d c3),(zLZ.d v4)] ?_ ?_
   ·simp[g13,g14,g21,g24,g13x,g14x,g21x,g24x]
    have r328:=zFF fuel c3 v19 q20
    try simp[g13,g14,g21,g24,g13x,g14x,g21x,g24x] at r328
    refine zAA r328 (by simp) rfl ?_
    simp[g13,g14,g21,g24,g13x,g14x,g21x,g24x]
   refine WL.cut 4 206 0 [(1,.sl (at2.map cU)),(4,.sl (l5.map zLc.c)),(5,pT 0),(7,pT 1),(8,pT 2),(46,.bool v19),(48,.bool v22)] [(zLc.d p1),(zLd.d c3),(zLZ.d v4)] ?_ ?_
   ·simp[g13,g14,g21,g24,g13x,g14x,g21x,g24x]
    have r329:=zFv fuel v4 v22 q23
    try simp[g13,g14,g21,g24,g13x,g14x,g21x,g24x] at r329
    refine zAA r329 (by simp) rfl ?_
    simp[g13,g14,g21,g24,g13x,g14x,g21x,g24x]
   refine WL.last ?_
   simp[g13,g14,g21,g24,g13x,g14x,g21x,g24x]
  rcases sp q36 with ⟨g25,q36⟩|⟨g25,q36⟩
  ·have c26:=ltT g25
   refine zCe 4 rfl fun f27=>?_
   rw[zq4] at f27
   obtain rfl:=oi q36
   have g13x:=g13
   try simp only[g14,g21,g24,g25] at g13x
   have g14x:=g14
   try simp only[g13,g21,g24,g25] at g14x
   have g21x:=g21
   try simp only[g13,g14,g24,g25] at g21x
   have g24x:=g24
   try simp only[g13,g14,g21,g25] at g24x
   have g25x:=g25
   try simp only[g13,g14,g21,g24] at g25x
   refine zA0<|WL.cut 2 206 0 [(1,.sl (at2.map cU)),(4,.sl (l5.map zLc.c)),(5,pT 0),(7,pT 1),(8,pT 2),(36,.bool v11)] [(zLc.d p1),(zLd.d c3),(zLZ.d v4)] ?_ ?_
   ·simp[g13,g14,g21,g24,g25,g13x,g14x,g21x,g24x,g25x]
    have r330:=zDl fuel p1 v11 q12
    try simp[g13,g14,g21,g24,g25,g13x,g14x,g21x,g24x,g25x] at r330
    refine zAA r330 (by simp) rfl ?_
    simp[g13,g14,g21,g24,g25,g13x,g14x,g21x,g24x,g25x]
   refine WL.cut 8 206 0 [(1,.sl (at2.map cU)),(4,.sl (l5.map zLc.c)),(5,pT 0),(7,pT 1),(8,pT 2),(42,.bool (ltI 50 (at2.length:Int))),(44,.bool v19)] [(zLc.d p1),(zLd.d c3),(zLZ.d v4)] ?_ ?_
   ·simp[g13,g14,g21,g24,g25,g13x,g14x,g21x,g24x,g25x]
    have r331:=zFF fuel c3 v19 q20
    try simp[g13,g14,g21,g24,g25,g13x,g14x,g21x,g24x,g25x] at r331
    refine zAA r331 (by simp) rfl ?_
    simp[g13,g14,g21,g24,g25,g13x,g14x,g21x,g24x,g25x]
   refine WL.cut 4 206 0 [(1,.sl (at2.map cU)),(4,.sl (l5.map zLc.c)),(5,pT 0),(7,pT 1),(8,pT 2),(46,.bool v19),(48,.bool v22)] [(zLc.d p1),(zLd.d c3),(zLZ.d v4)] ?_ ?_
   ·simp[g13,g14,g21,g24,g25,g13x,g14x,g21x,g24x,g25x]
    have r332:=zFv fuel v4 v22 q23
    try simp[g13,g14,g21,g24,g25,g13x,g14x,g21x,g24x,g25x] at r332
    refine zAA r332 (by simp) rfl ?_
    simp[g13,g14,g21,g24,g25,g13x,g14x,g21x,g24x,g25x]
   refine WL.last ?_
   simp[g13,g14,g21,g24,g25,g13x,g14x,g21x,g24x,g25x]
  have c28:=ltF g25
  refine zCe 4 rfl fun f29=>?_
  rw[zq4] at f29
  obtain⟨v30,q31,q36⟩:=bs q36
  rcases sp q36 with ⟨g32,q36⟩|⟨g32,q36⟩
  ·obtain rfl:=oi q36
   have g13x:=g13
   try simp only[g14,g21,g24,g25,g32] at g13x
   have g14x:=g14
   try simp only[g13,g21,g24,g25,g32] at g14x
   have g21x:=g21
   try simp only[g13,g14,g24,g25,g32] at g21x
   have g24x:=g24
   try simp only[g13,g14,g21,g25,g32] at g24x
   have g25x:=g25
   try simp only[g13,g14,g21,g24,g32] at g25x
   have g32x:=g32
   try simp only[g13,g14,g21,g24,g25] at g32x
   refine zA0<|WL.cut 2 206 0 [(1,.sl (at2.map cU)),(4,.sl (l5.map zLc.c)),(5,pT 0),(7,pT 1),(8,pT 2),(36,.bool v11)] [(zLc.d p1),(zLd.d c3),(zLZ.d v4)] ?_ ?_
   ·simp[g13,g14,g21,g24,g25,g32,g13x,g14x,g21x,g24x,g25x,g32x]
    have r333:=zDl fuel p1 v11 q12
    try simp[g13,g14,g21,g24,g25,g32,g13x,g14x,g21x,g24x,g25x,g32x] at r333
    refine zAA r333 (by simp) rfl ?_
    simp[g13,g14,g21,g24,g25,g32,g13x,g14x,g21x,g24x,g25x,g32x]
   refine WL.cut 8 206 0 [(1,.sl (at2.map cU)),(4,.sl (l5.map zLc.c)),(5,pT 0),(7,pT 1),(8,pT 2),(42,.bool (ltI 50 (at2.length:Int))),(44,.bool v19)] [(zLc.d p1),(zLd.d c3),(zLZ.d v4)] ?_ ?_
   ·simp[g13,g14,g21,g24,g25,g32,g13x,g14x,g21x,g24x,g25x,g32x]
    have r334:=zFF fuel c3 v19 q20
    try simp[g13,g14,g21,g24,g25,g32,g13x,g14x,g21x,g24x,g25x,g32x] at r334
    refine zAA r334 (by simp) rfl ?_
    simp[g13,g14,g21,g24,g25,g32,g13x,g14x,g21x,g24x,g25x,g32x]
   refine WL.cut 4 206 0 [(1,.sl (at2.map cU)),(4,.sl (l5.map zLc.c)),(5,pT 0),(7,pT 1),(8,pT 2),(46,.bool v19),(48,.bool v22)] [(zLc.d p1),(zLd.d c3),(zLZ.d v4)] ?_ ?_
   ·simp[g13,g14,g21,g24,g25,g32,g13x,g14x,g21x,g24x,g25x,g32x]
    have r335:=zFv fuel v4 v22 q23
    try simp[g13,g14,g21,g24,g25,g32,g13x,g14x,g21x,g24x,g25x,g32x] at r335
    refine zAA r335 (by simp) rfl ?_
    simp[g13,g14,g21,g24,g25,g32,g13x,g14x,g21x,g24x,g25x,g32x]
   refine WL.cut 9 206 0 [(1,.sl (at2.map cU)),(4,.sl (l5.map zLc.c)),(5,pT 0),(7,pT 1),(8,pT 2),(55,.bool (ltI 20 (l5.length:Int))),(57,.bool v30)] [(zLc.d p1),(zLd.d c3),(zLZ.d v4)] ?_ ?_
   ·simp[g13,g14,g21,g24,g25,g32,g13x,g14x,g21x,g24x,g25x,g32x]
    have r336:=zDC fuel l5 v30 q31
    try simp[g13,g14,g21,g24,g25,g32,g13x,g14x,g21x,g24x,g25x,g32x] at r336
    refine zAA r336 (by simp) rfl ?_
    simp[g13,g14,g21,g24,g25,g32,g13x,g14x,g21x,g24x,g25x,g32x]
   refine WL.last ?_
   simp[g13,g14,g21,g24,g25,g32,g13x,g14x,g21x,g24x,g25x,g32x]
  obtain⟨v33,q34,q36⟩:=bs q36
  obtain rfl:=oi q36
  have g13x:=g13
  try simp only[g14,g21,g24,g25,g32] at g13x
  have g14x:=g14
  try simp only[g13,g21,g24,g25,g32] at g14x
  have g21x:=g21
  try simp only[g13,g14,g24,g25,g32] at g21x
  have g24x:=g24
  try simp only[g13,g14,g21,g25,g32] at g24x
  have g25x:=g25
  try simp only[g13,g14,g21,g24,g32] at g25x
  have g32x:=g32
  try simp only[g13,g14,g21,g24,g25] at g32x
  refine zA0<|WL.cut 2 206 0 [(1,.sl (at2.map cU)),(4,.sl (l5.map zLc.c)),(5,pT 0),(7,pT 1),(8,pT 2),(36,.bool v11)] [(zLc.d p1),(zLd.d c3),(zLZ.d v4)] ?_ ?_
  ·simp[g13,g14,g21,g24,g25,g32,g13x,g14x,g21x,g24x,g25x,g32x]
   have r337:=zDl fuel p1 v11 q12
   try simp[g13,g14,g21,g24,g25,g32,g13x,g14x,g21x,g24x,g25x,g32x] at r337
   refine zAA r337 (by simp) rfl ?_
   simp[g13,g14,g21,g24,g25,g32,g13x,g14x,g21x,g24x,g25x,g32x]
  refine WL.cut 8 206 0 [(1,.sl (at2.map cU)),(4,.sl (l5.map zLc.c)),(5,pT 0),(7,pT 1),(8,pT 2),(42,.bool (ltI 50 (at2.length:Int))),(44,.bool v19)] [(zLc.d p1),(zLd.d c3),(zLZ.d v4)] ?_ ?_
  ·simp[g13,g14,g21,g24,g25,g32,g13x,g14x,g21x,g24x,g25x,g32x]
   have r338:=zFF fuel c3 v19 q20
   try simp[g13,g14,g21,g24,g25,g32,g13x,g14x,g21x,g24x,g25x,g32x] at r338
   refine zAA r338 (by simp) rfl ?_
   simp[g13,g14,g21,g24,g25,g32,g13x,g14x,g21x,g24x,g25x,g32x]
  refine WL.cut 4 206 0 [(1,.sl (at2.map cU)),(4,.sl (l5.map zLc.c)),(5,pT 0),(7,pT 1),(8,pT 2),(46,.bool v19),(48,.bool v22)] [(zLc.d p1),(zLd.d c3),(zLZ.d v4)] ?_ ?_
  ·simp[g13,g14,g21,g24,g25,g32,g13x,g14x,g21x,g24x,g25x,g32x]
   have r339:=zFv fuel v4 v22 q23
   try simp[g13,g14,g21,g24,g25,g32,g13x,g14x,g21x,g24x,g25x,g32x] at r339
   refine zAA r339 (by simp) rfl ?_
   simp[g13,g14,g21,g24,g25,g32,g13x,g14x,g21x,g24x,g25x,g32x]
  refine WL.cut 9 206 0 [(1,.sl (at2.map cU)),(4,.sl (l5.map zLc.c)),(5,pT 0),(7,pT 1),(8,pT 2),(55,.bool (ltI 20 (l5.length:Int))),(57,.bool v30)] [(zLc.d p1),(zLd.d c3),(zLZ.d v4)] ?_ ?_
  ·simp[g13,g14,g21,g24,g25,g32,g13x,g14x,g21x,g24x,g25x,g32x]
   have r340:=zDC fuel l5 v30 q31
   try simp[g13,g14,g21,g24,g25,g32,g13x,g14x,g21x,g24x,g25x,g32x] at r340
   refine zAA r340 (by simp) rfl ?_
   simp[g13,g14,g21,g24,g25,g32,g13x,g14x,g21x,g24x,g25x,g32x]
  refine WL.cut 4 206 0 [(1,.sl (at2.map cU)),(4,.sl (l5.map zLc.c)),(5,pT 0),(7,pT 1),(8,pT 2),(59,.bool v30),(61,.bool v33)] [(zLc.d p1),(zLd.d c3),(zLZ.d v4)] ?_ ?_
  ·simp[g13,g14,g21,g24,g25,g32,g13x,g14x,g21x,g24x,g25x,g32x]
   have r341:=zKz fuel p1 v33 q34
   try simp[g13,g14,g21,g24,g25,g32,g13x,g14x,g21x,g24x,g25x,g32x] at r341
   refine zAA r341 (by simp) rfl ?_
   simp[g13,g14,g21,g24,g25,g32,g13x,g14x,g21x,g24x,g25x,g32x]
  refine WL.last ?_
  simp[g13,g14,g21,g24,g25,g32,g13x,g14x,g21x,g24x,g25x,g32x]
 refine spc h rfl (fun g37 h=>?_) fun g37 h=>?_
 ·refine cutA 206 0 [(10,.bool true)] [(zLc.d p1),(zLd.d c3),(zLZ.d v4)]<|zAB<|zAF ?_
  cases h
  simp
 refine zAD<|zAK<|cutA 206 0 [(1,.sl (at2.map cU)),(4,.sl (l5.map zLc.c)),(5,pT 0),(7,pT 1),(8,pT 2),(11,pT 3)] [(zLc.d p1),(zLd.d c3),(zLZ.d v4),[.nilfn]]<|cutA 206 0 [(1,.sl (at2.map cU)),(4,.sl (l5.map zLc.c)),(5,pT 0),(7,pT 1),(8,pT 2),(11,pT 3)] [(zLc.d p1),(zLd.d c3),(zLZ.d v4),[.fn (.func 15) [] [pT 3]]] ?_
 obtain⟨v38,q39,h⟩:=bs h
 refine cut 206 0 [(4,.sl (l5.map zLc.c)),(5,pT 0),(7,pT 1),(8,pT 2),(12,pT 4)] [(zLc.d p1),(zLd.d c3),(zLZ.d v4),[.fn (.func 15) [] [pT 3]],(zLc.d v38)] ?_ ?_
 ·refine st ?_
  simp
  have r322:=(zGo fuel p1 at2 v38 q39).frame [3] [(zLc.d p1),(zLd.d c3),(zLZ.d v4),[.fn (.func 15) [] [pT 3]]] (by simp)
  try simp at r322
  refine zBK r322 (by simp) rfl ?_
  simp
 obtain⟨v40,q41,h⟩:=bs h
 refine cut 206 0 [(4,.sl (l5.map zLc.c)),(5,pT 0),(7,pT 1),(8,pT 2),(12,pT 4),(13,.bool v40.1),(14,iI v40.2)] [(zLc.d p1),(zLd.d c3),(zLZ.d v4),[.fn (.func 15) [] [pT 3]],(zLc.d v38)] ?_ ?_
 ·refine st ?_
  simp
  have r321:=zIs fuel v38 p1 v40 q41
  try simp at r321
  refine zAA r321 (by simp) rfl ?_
  simp
 refine zAC<|cut 206 0 [(4,.sl (l5.map zLc.c)),(5,pT 0),(7,pT 1),(8,pT 2),(12,pT 4),(80,.bool ((!(eqI v40.2 0))||(!v40.1)))] [(zLc.d p1),(zLd.d c3),(zLZ.d v4),[.fn (.func 15) [] [pT 3]],(zLc.d v38)] ?_ ?_
 ·rcases tf (!(eqI v40.2 0)) with g42|g42
  ·have g43:=notT g42
   have c44:=eqF g43
   refine st ?_
   simp[g42]
  have g45:=notF g42
  have c46:=eqT g45
  refine st ?_
  simp[g42]
 rcases sp h with ⟨g47,h⟩|⟨g47,h⟩
 ·refine zD5 rfl g47<|cutA 206 0 [(10,.bool false)] [(zLc.d p1),(zLd.d c3),(zLZ.d v4),[.fn (.func 15) [] [pT 3]],(zLc.d v38)]<|zAB<|zAF ?_
  cases h
  simp
 obtain⟨g48,g49⟩:=orF g47
 have g50:=notF g48
 have c51:=eqT g50
 have g52:=notF g49
 refine zEK rfl g47<|zAD<|zAK<|zAC ?_
 obtain⟨v53,q54,h⟩:=bs h
 refine cut 206 0 [(4,.sl (l5.map zLc.c)),(5,pT 0),(7,pT 1),(8,pT 2),(12,pT 4),(16,iI v53.2)] [(zLc.d p1),(zLd.d c3),(zLZ.d v4),[.fn (.func 15) [] [pT 3]],(zLc.d v38)] ?_ ?_
 ·refine st ?_
  simp
  have r320:=zHc fuel p1 c3 v53 q54
  try simp at r320
  refine zAA r320 (by simp) rfl ?_
  simp
 refine cutA 206 0 [(4,.sl (l5.map zLc.c)),(5,pT 0),(7,pT 1),(8,pT 2),(12,pT 4),(88,.bool (eqI v53.2 0))] [(zLc.d p1),(zLd.d c3),(zLZ.d v4),[.fn (.func 15) [] [pT 3]],(zLc.d v38)]<|spc h rfl (fun g55 h=>?_) fun g55 h=>?_
 ·have c56:=eqT g55
  obtain⟨v57,q58,h⟩:=bs h
  refine cut 206 0 [(4,.sl (l5.map zLc.c)),(5,pT 0),(8,pT 2),(12,pT 4),(18,iI v57.2)] [(zLc.d p1),(zLd.d c3),(zLZ.d v4),[.fn (.func 15) [] [pT 3]],(zLc.d v38)] ?_ ?_
  ·refine st ?_
   simp
   have r191:=zHc fuel v38 c3 v57 q58
   try simp at r191
   refine zAA r191 (by simp) rfl ?_
   simp
  refine cutA 206 0 [(4,.sl (l5.map zLc.c)),(5,pT 0),(8,pT 2),(12,pT 4),(96,.bool (!(eqI v57.2 0)))] [(zLc.d p1),(zLd.d c3),(zLZ.d v4),[.fn (.func 15) [] [pT 3]],(zLc.d v38)] ?_
  rcases sp h with ⟨g59,h⟩|⟨g59,h⟩
  ·have g60:=notT g59
   have c61:=eqF g60
   refine zD5 rfl g59<|cutA 206 0 [(10,.bool false)] [(zLc.d p1),(zLd.d c3),(zLZ.d v4),[.fn (.func 15) [] [pT 3]],(zLc.d v38)]<|zAB<|zAF ?_
   cases h
   simp
  have g62:=notF g59
  have c63:=eqT g62
  refine zEK rfl g59<|zAD<|zAK ?_
  obtain⟨v64,q65,h⟩:=bs h
  refine cut 206 0 [(4,.sl (l5.map zLc.c)),(8,pT 2),(12,pT 4),(19,.sl (v64.1.map zLZ.c)),(20,.bool v64.2.1),(21,iI v64.2.2)] [(zLc.d p1),(zLd.d c3),(zLZ.d v4),[.fn (.func 15) [] [pT 3]],(zLc.d v38)] ?_ ?_
  ·refine st ?_
   simp
   have r190:=zEf fuel p1 v4 v64 q65
   try simp at r190
   refine zAA r190 (by simp) rfl ?_
   simp
  refine zAC<|cut 206 0 [(4,.sl (l5.map zLc.c)),(8,pT 2),(12,pT 4),(19,.sl (v64.1.map zLZ.c)),(108,.bool ((eqI v64.2.2 0)&&v64.2.1))] [(zLc.d p1),(zLd.d c3),(zLZ.d v4),[.fn (.func 15) [] [pT 3]],(zLc.d v38)] ?_ ?_
  ·rcases tf (eqI v64.2.2 0) with g66|g66
   ·have c67:=eqT g66
    refine st ?_
    simp[g66]
   have c68:=eqF g66
   refine st ?_
   simp[g66]
  rcases sp h with ⟨g69,h⟩|⟨g69,h⟩
  ·obtain⟨g70,g71⟩:=andT g69
   have c72:=eqT g70
   refine zD5 rfl g69 ?_
   obtain⟨v73,q74,h⟩:=bs h
   refine cut 206 0 [(4,.sl (l5.map zLc.c)),(8,pT 2),(12,pT 4),(19,.sl (v64.1.map zLZ.c)),(22,.sl (v73.1.map zLZ.c)),(23,.bool v73.2.1),(24,iI v73.2.2)] [(zLc.d p1),(zLd.d c3),(zLZ.d v4),[.fn (.func 15) [] [pT 3]],(zLc.d v38)] ?_ ?_
   ·refine st ?_
    simp
    have r149:=zEf fuel v38 v4 v73 q74
    try simp at r149
    refine zAA r149 (by simp) rfl ?_
    simp
   refine zAC<|cut 206 0 [(4,.sl (l5.map zLc.c)),(8,pT 2),(12,pT 4),(128,.bool ((!(eqI v73.2.2 0))||((!v73.2.1)||(ltI (v64.1.length:Int) (v73.1.length:Int)))))] [(zLc.d p1),(zLd.d c3),(zLZ.d v4),[.fn (.func 15) [] [pT 3]],(zLc.d v38)] ?_ ?_
   ·rcases tf (!(eqI v73.2.2 0)) with g75|g75
    ·have g76:=notT g75
     have c77:=eqF g76
     refine st ?_
     simp[g75]
    have g78:=notF g75
    have c79:=eqT g78
    rcases tf (!v73.2.1) with g80|g80
    ·have g81:=notT g80
     refine st ?_
     simp[g75,g80]
    have g82:=notF g80
    refine st ?_
    simp[g75,g80]
   rcases sp h with ⟨g83,h⟩|⟨g83,h⟩
   ·refine zD5 rfl g83<|cutA 206 0 [(10,.bool false)] [(zLc.d p1),(zLd.d c3),(zLZ.d v4),[.fn (.func 15) [] [pT 3]],(zLc.d v38)]<|zAB<|zAF<|zAF ?_
    cases h
    simp
   obtain⟨g84,g85⟩:=orF g83
   have g86:=notF g84
   have c87:=eqT g86
   obtain⟨g88,g89⟩:=orF g85
   have g90:=notF g88
   have c91:=ltF g89
   refine zEK rfl g83<|zAD<|zAK ?_
   obtain⟨v94,q95,h⟩:=bs h
   obtain⟨v96,q97,h⟩:=bs h
   refine cut 206 0 [(4,.sl (l5.map zLc.c)),(8,pT 2),(12,pT 4),(25,iI v96.1),(26,iI v96.2)] [(zLc.d p1),(zLd.d c3),(zLZ.d v4),[.fn (.func 15) [] [pT 3]],(zLc.d v38)] ?_ ?_
   ·refine zAN [] mixed (n:=206) rfl (by decide) ?_
    simp
    have r147:=zBu fuel [[v38],l5] v94 q95
    try simp at r147
    refine zGc r147 (by simp) rfl ?_
    simp
    have r148:=zBM fuel v94 v4 v96 q97
    try simp at r148
    refine zGc r148 (by simp) rfl ?_
    simp
   refine cut 206 0 [(4,.sl (l5.map zLc.c)),(8,pT 2),(12,pT 4),(152,.bool (if eqI v96.2 0 then (!(eqI v96.1 0))||false else !(eqI v96.2 1)))] [(zLc.d p1),(zLd.d c3),(zLZ.d v4),[.fn (.func 15) [] [pT 3]],(zLc.d v38)] ?_ ?_
   ·rcases tf (eqI v96.2 0) with g98|g98
    ·have c99:=eqT g98
     rcases tf (!(eqI v96.1 0)) with g100|g100
     ·have g101:=notT g100
      have c102:=eqF g101
      refine st ?_
      simp[g98,g100]
     have g103:=notF g100
     have c104:=eqT g103
     refine st ?_
     simp[g98,g100]
    have c105:=eqF g98
    refine st ?_
    simp[g98]
   refine spc h rfl (fun g106 h=>?_) fun g106 h=>?_
   ·refine cutA 206 0 [(10,.bool false)] [(zLc.d p1),(zLd.d c3),(zLZ.d v4),[.fn (.func 15) [] [pT 3]],(zLc.d v38)]<|zAB<|zAF ?_
    cases h
    simp
   refine zAD<|zAK ?_
   obtain⟨v107,q108,h⟩:=bs h
   refine cut 206 0 [(4,.sl (l5.map zLc.c)),(8,pT 2),(12,pT 4),(27,iI v107.1),(28,iI v107.2)] [(zLc.d p1),(zLd.d c3),(zLZ.d v4),[.fn (.func 15) [] [pT 3]],(zLc.d v38)] ?_ ?_
   ·refine st ?_
    simp
    have r146:=zBM fuel l5 v4 v107 q108
    try simp at r146
    refine zAA r146 (by simp) rfl ?_
    simp
   refine zAC<|cutA 206 0 [(4,.sl (l5.map zLc.c)),(8,pT 2),(12,pT 4),(27,iI v107.1),(160,.bool (!(eqI v107.2 0)))] [(zLc.d p1),(zLd.d c3),(zLZ.d v4),[.fn (.func 15) [] [pT 3]],(zLc.d v38)] ?_
   rcases sp h with ⟨g109,h⟩|⟨g109,h⟩
   ·have g110:=notT g109
    have c111:=eqF g110
    refine zD5 rfl g109<|cutA 206 0 [(10,.bool (eqI v107.1 0))] [(zLc.d p1),(zLd.d c3),(zLZ.d v4),[.fn (.func 15) [] [pT 3]],(zLc.d v38)]<|zAB<|zAF ?_
    cases h
    simp
   have g112:=notF g109
   have c113:=eqT g112
   refine zEK rfl g109<|zAD<|zAK<|zAC<|cut 206 0 [(4,.sl (l5.map zLc.c)),(8,pT 2),(12,pT 4),(27,iI v107.1),(170,.bool ((ltI v107.1 0)||(leI (l5.length:Int) v107.1)))] [(zLc.d p1),(zLd.d c3),(zLZ.d v4),[.fn (.func 15) [] [pT 3]],(zLc.d v38)] ?_ ?_
   ·rcases tf (ltI v107.1 0) with g114|g114
    ·have c115:=ltT g114
     refine st ?_
     simp[g114]
    have c116:=ltF g114
    refine st ?_
    simp[g114]
   rcases sp h with ⟨g117,h⟩|⟨g117,h⟩
   ·refine zD5 rfl g117<|cutA 206 0 [(10,.bool false)] [(zLc.d p1),(zLd.d c3),(zLZ.d v4),[.fn (.func 15) [] [pT 3]],(zLc.d v38)]<|zAB<|zAF ?_
    cases h
    simp
   obtain⟨g118,g119⟩:=orF g117
   have c120:=ltF g118
   have c121:=leF g119
   refine zEK rfl g117<|zCe 4 rfl fun f122=>?_
   rw[zq4] at f122
   refine zAD<|zAK ?_
   have q123:Rng .i64 (v107.1+1):=by simp only[Rng,inR];omega
   try simp at q123
   obtain⟨l124,q125,h⟩:=bs h
   obtain⟨q126,q127⟩:=zKS q125
   try simp at q126
   try simp at q127
   obtain⟨v128,q129,h⟩:=bs h
   refine cut 206 0 [(4,.sl (l5.map zLc.c)),(8,pT 2),(12,pT 4),(27,iI v107.1),(29,iI v128.1),(30,iI v128.2)] [(zLc.d p1),(zLd.d c3),(zLZ.d v4),[.fn (.func 15) [] [pT 3]],(zLc.d v38)] ?_ ?_
   ·refine zAN [] mixed (n:=206) rfl (by decide) ?_
    simp[q123,q126,q127]
    have r145:=zBM fuel l124 v4 v128 q129
    try simp[q123,q126,q127] at r145
    refine zGc r145 (by simp) rfl ?_
    simp[q123,q126,q127]
   obtain⟨v130,q131,h⟩:=bs h
   obtain⟨v132,q133,h⟩:=bs h
   refine cut 206 0 [(27,iI v107.1),(29,iI v128.1),(30,iI v128.2),(31,iI v132.1),(32,iI v132.2)] [(zLc.d p1),(zLd.d c3),(zLZ.d v4),[.fn (.func 15) [] [pT 3]],(zLc.d v38)] ?_ ?_
   ·refine zAN [] mixed (n:=206) rfl (by decide) ?_
    simp
    have r143:=zBu fuel [l5,[v38]] v130 q131
    try simp at r143
    refine zGc r143 (by simp) rfl ?_
    simp
    have r144:=zBM fuel v130 v4 v132 q133
    try simp at r144
    refine zGc r144 (by simp) rfl ?_
    simp
   refine cut 206 0 [(10,.bool ((eqI v128.2 0)&&((eqI v128.1 v107.1)&&((eqI v132.2 0)&&(eqI v132.1 v107.1)))))] [(zLc.d p1),(zLd.d c3),(zLZ.d v4),[.fn (.func 15) [] [pT 3]],(zLc.d v38)] ?_ ?_
   ·rcases tf (eqI v128.2 0) with g134|g134
    ·have c135:=eqT g134
     rcases tf (eqI v128.1 v107.1) with g136|g136
     ·have c137:=eqT g136
      rcases tf (eqI v132.2 0) with g138|g138
      ·have c139:=eqT g138
       refine st ?_
       simp[g134,g136,g138]
      have c140:=eqF g138
      refine st ?_
      simp[g134,g136,g138]
     have c141:=eqF g136
     refine st ?_
     simp[g134,g136]
    have c142:=eqF g134
    refine st ?_
    simp[g134]
   refine zAB ?_
   cases h
   simp
  refine zEK rfl g69<|zAD<|zAK ?_
  obtain⟨v150,q151,h⟩:=bs h
  refine cut 206 0 [(4,.sl (l5.map zLc.c)),(8,pT 2),(12,pT 4),(27,iI v150.1),(28,iI v150.2)] [(zLc.d p1),(zLd.d c3),(zLZ.d v4),[.fn (.func 15) [] [pT 3]],(zLc.d v38)] ?_ ?_
  ·refine st ?_
   simp
   have r189:=zBM fuel l5 v4 v150 q151
   try simp at r189
   refine zAA r189 (by simp) rfl ?_
   simp
  refine zAC<|cutA 206 0 [(4,.sl (l5.map zLc.c)),(8,pT 2),(12,pT 4),(27,iI v150.1),(160,.bool (!(eqI v150.2 0)))] [(zLc.d p1),(zLd.d c3),(zLZ.d v4),[.fn (.func 15) [] [pT 3]],(zLc.d v38)] ?_
  rcases sp h with ⟨g152,h⟩|⟨g152,h⟩
  ·have g153:=notT g152
   have c154:=eqF g153
   refine zD5 rfl g152<|cutA 206 0 [(10,.bool (eqI v150.1 0))] [(zLc.d p1),(zLd.d c3),(zLZ.d v4),[.fn (.func 15) [] [pT 3]],(zLc.d v38)]<|zAB<|zAF ?_
   cases h
   simp
  have g155:=notF g152
  have c156:=eqT g155
  refine zEK rfl g152<|zAD<|zAK<|zAC<|cut 206 0 [(4,.sl (l5.map zLc.c)),(8,pT 2),(12,pT 4),(27,iI v150.1),(170,.bool ((ltI v150.1 0)||(leI (l5.length:Int) v150.1)))] [(zLc.d p1),(zLd.d c3),(zLZ.d v4),[.fn (.func 15) [] [pT 3]],(zLc.d v38)] ?_ ?_
  ·rcases tf (ltI v150.1 0) with g157|g157
   ·have c158:=ltT g157
    refine st ?_
    simp[g157]
   have c159:=ltF g157
   refine st ?_
   simp[g157]
  rcases sp h with ⟨g160,h⟩|⟨g160,h⟩
  ·refine zD5 rfl g160<|cutA 206 0 [(10,.bool false)] [(zLc.d p1),(zLd.d c3),(zLZ.d v4),[.fn (.func 15) [] [pT 3]],(zLc.d v38)]<|zAB<|zAF ?_
   cases h
   simp
  obtain⟨g161,g162⟩:=orF g160
  have c163:=ltF g161
  have c164:=leF g162
  refine zEK rfl g160<|zCe 4 rfl fun f165=>?_
  rw[zq4] at f165
  refine zAD<|zAK ?_
  have q166:Rng .i64 (v150.1+1):=by simp only[Rng,inR];omega
  try simp at q166
  obtain⟨l167,q168,h⟩:=bs h
  obtain⟨q169,q170⟩:=zKS q168
  try simp at q169
  try simp at q170
  obtain⟨v171,q172,h⟩:=bs h
  refine cut 206 0 [(4,.sl (l5.map zLc.c)),(8,pT 2),(12,pT 4),(27,iI v150.1),(29,iI v171.1),(30,iI v171.2)] [(zLc.d p1),(zLd.d c3),(zLZ.d v4),[.fn (.func 15) [] [pT 3]],(zLc.d v38)] ?_ ?_
  ·refine zAN [] mixed (n:=206) rfl (by decide) ?_
   simp[q166,q169,q170]
   have r188:=zBM fuel l167 v4 v171 q172
   try simp[q166,q169,q170] at r188
   refine zGc r188 (by simp) rfl ?_
   simp[q166,q169,q170]
  obtain⟨v173,q174,h⟩:=bs h
  obtain⟨v175,q176,h⟩:=bs h
  refine cut 206 0 [(27,iI v150.1),(29,iI v171.1),(30,iI v171.2),(31,iI v175.1),(32,iI v175.2)] [(zLc.d p1),(zLd.d c3),(zLZ.d v4),[.fn (.func 15) [] [pT 3]],(zLc.d v38)] ?_ ?_
  ·refine zAN [] mixed (n:=206) rfl (by decide) ?_
   simp
   have r186:=zBu fuel [l5,[v38]] v173 q174
   try simp at r186
   refine zGc r186 (by simp) rfl ?_
   simp
   have r187:=zBM fuel v173 v4 v175 q176
   try simp at r187
   refine zGc r187 (by simp) rfl ?_
   simp
  refine cut 206 0 [(10,.bool ((eqI v171.2 0)&&((eqI v171.1 v150.1)&&((eqI v175.2 0)&&(eqI v175.1 v150.1)))))] [(zLc.d p1),(zLd.d c3),(zLZ.d v4),[.fn (.func 15) [] [pT 3]],(zLc.d v38)] ?_ ?_
  ·rcases tf (eqI v171.2 0) with g177|g177
   ·have c178:=eqT g177
    rcases tf (eqI v171.1 v150.1) with g179|g179
    ·have c180:=eqT g179
     rcases tf (eqI v175.2 0) with g181|g181
     ·have c182:=eqT g181
      refine st ?_
      simp[g177,g179,g181]
     have c183:=eqF g181
     refine st ?_
     simp[g177,g179,g181]
    have c184:=eqF g179
    refine st ?_
    simp[g177,g179]
   have c185:=eqF g177
   refine st ?_
   simp[g177]
  refine zAB ?_
  cases h
  simp
 have c192:=eqF g55
 refine zAD<|zAK ?_
 obtain⟨v193,q194,h⟩:=bs h
 refine cut 206 0 [(4,.sl (l5.map zLc.c)),(8,pT 2),(12,pT 4),(19,.sl (v193.1.map zLZ.c)),(20,.bool v193.2.1),(21,iI v193.2.2)] [(zLc.d p1),(zLd.d c3),(zLZ.d v4),[.fn (.func 15) [] [pT 3]],(zLc.d v38)] ?_ ?_
 ·refine st ?_
  simp
  have r319:=zEf fuel p1 v4 v193 q194
  try simp at r319
  refine zAA r319 (by simp) rfl ?_
  simp
 refine zAC<|cut 206 0 [(4,.sl (l5.map zLc.c)),(8,pT 2),(12,pT 4),(19,.sl (v193.1.map zLZ.c)),(108,.bool ((eqI v193.2.2 0)&&v193.2.1))] [(zLc.d p1),(zLd.d c3),(zLZ.d v4),[.fn (.func 15) [] [pT 3]],(zLc.d v38)] ?_ ?_
 ·rcases tf (eqI v193.2.2 0) with g195|g195
  ·have c196:=eqT g195
   refine st ?_
   simp[g195]
  have c197:=eqF g195
  refine st ?_
  simp[g195]
 rcases sp h with ⟨g198,h⟩|⟨g198,h⟩
 ·obtain⟨g199,g200⟩:=andT g198
  have c201:=eqT g199
  refine zD5 rfl g198 ?_
  obtain⟨v202,q203,h⟩:=bs h
  refine cut 206 0 [(4,.sl (l5.map zLc.c)),(8,pT 2),(12,pT 4),(19,.sl (v193.1.map zLZ.c)),(22,.sl (v202.1.map zLZ.c)),(23,.bool v202.2.1),(24,iI v202.2.2)] [(zLc.d p1),(zLd.d c3),(zLZ.d v4),[.fn (.func 15) [] [pT 3]],(zLc.d v38)] ?_ ?_
  ·refine st ?_
   simp
   have r278:=zEf fuel v38 v4 v202 q203
   try simp at r278
   refine zAA r278 (by simp) rfl ?_
   simp
  refine zAC<|cut 206 0 [(4,.sl (l5.map zLc.c)),(8,pT 2),(12,pT 4),(128,.bool ((!(eqI v202.2.2 0))||((!v202.2.1)||(ltI (v193.1.length:Int) (v202.1.length:Int)))))] [(zLc.d p1),(zLd.d c3),(zLZ.d v4),[.fn (.func 15) [] [pT 3]],(zLc.d v38)] ?_ ?_
  ·rcases tf (!(eqI v202.2.2 0)) with g204|g204
   ·have g205:=notT g204
    have c206:=eqF g205
    refine st ?_
    simp[g204]
   have g207:=notF g204
   have c208:=eqT g207
   rcases tf (!v202.2.1) with g209|g209
   ·have g210:=notT g209
    refine st ?_
    simp[g204,g209]
   have g211:=notF g209
   refine st ?_
   simp[g204,g209]
  rcases sp h with ⟨g212,h⟩|⟨g212,h⟩
  ·refine zD5 rfl g212<|cutA 206 0 [(10,.bool false)] [(zLc.d p1),(zLd.d c3),(zLZ.d v4),[.fn (.func 15) [] [pT 3]],(zLc.d v38)]<|zAB<|zAF<|zAF ?_
   cases h
   simp
  obtain⟨g213,g214⟩:=orF g212
  have g215:=notF g213
  have c216:=eqT g215
  obtain⟨g217,g218⟩:=orF g214
  have g219:=notF g217
  have c220:=ltF g218
  refine zEK rfl g212<|zAD<|zAK ?_
  obtain⟨v223,q224,h⟩:=bs h
  obtain⟨v225,q226,h⟩:=bs h
  refine cut 206 0 [(4,.sl (l5.map zLc.c)),(8,pT 2),(12,pT 4),(25,iI v225.1),(26,iI v225.2)] [(zLc.d p1),(zLd.d c3),(zLZ.d v4),[.fn (.func 15) [] [pT 3]],(zLc.d v38)] ?_ ?_
  ·refine zAN [] mixed (n:=206) rfl (by decide) ?_
   simp
   have r276:=zBu fuel [[v38],l5] v223 q224
   try simp at r276
   refine zGc r276 (by simp) rfl ?_
   simp
   have r277:=zBM fuel v223 v4 v225 q226
   try simp at r277
   refine zGc r277 (by simp) rfl ?_
   simp
  refine cut 206 0 [(4,.sl (l5.map zLc.c)),(8,pT 2),(12,pT 4),(152,.bool (if eqI v225.2 0 then (!(eqI v225.1 0))||false else !(eqI v225.2 1)))] [(zLc.d p1),(zLd.d c3),(zLZ.d v4),[.fn (.func 15) [] [pT 3]],(zLc.d v38)] ?_ ?_
  ·rcases tf (eqI v225.2 0) with g227|g227
   ·have c228:=eqT g227
    rcases tf (!(eqI v225.1 0)) with g229|g229
    ·have g230:=notT g229
     have c231:=eqF g230
     refine st ?_
     simp[g227,g229]
    have g232:=notF g229
    have c233:=eqT g232
    refine st ?_
    simp[g227,g229]
   have c234:=eqF g227
   refine st ?_
   simp[g227]
  refine spc h rfl (fun g235 h=>?_) fun g235 h=>?_
  ·refine cutA 206 0 [(10,.bool false)] [(zLc.d p1),(zLd.d c3),(zLZ.d v4),[.fn (.func 15) [] [pT 3]],(zLc.d v38)]<|zAB<|zAF ?_
   cases h
   simp
  refine zAD<|zAK ?_
  obtain⟨v236,q237,h⟩:=bs h
  refine cut 206 0 [(4,.sl (l5.map zLc.c)),(8,pT 2),(12,pT 4),(27,iI v236.1),(28,iI v236.2)] [(zLc.d p1),(zLd.d c3),(zLZ.d v4),[.fn (.func 15) [] [pT 3]],(zLc.d v38)] ?_ ?_
  ·refine st ?_
   simp
   have r275:=zBM fuel l5 v4 v236 q237
   try simp at r275
   refine zAA r275 (by simp) rfl ?_
   simp
  refine zAC<|cutA 206 0 [(4,.sl (l5.map zLc.c)),(8,pT 2),(12,pT 4),(27,iI v236.1),(160,.bool (!(eqI v236.2 0)))] [(zLc.d p1),(zLd.d c3),(zLZ.d v4),[.fn (.func 15) [] [pT 3]],(zLc.d v38)] ?_
  rcases sp h with ⟨g238,h⟩|⟨g238,h⟩
  ·have g239:=notT g238
   have c240:=eqF g239
   refine zD5 rfl g238<|cutA 206 0 [(10,.bool (eqI v236.1 0))] [(zLc.d p1),(zLd.d c3),(zLZ.d v4),[.fn (.func 15) [] [pT 3]],(zLc.d v38)]<|zAB<|zAF ?_
   cases h
   simp
  have g241:=notF g238
  have c242:=eqT g241
  refine zEK rfl g238<|zAD<|zAK<|zAC<|cut 206 0 [(4,.sl (l5.map zLc.c)),(8,pT 2),(12,pT 4),(27,iI v236.1),(170,.bool ((ltI v236.1 0)||(leI (l5.length:Int) v236.1)))] [(zLc.d p1),(zLd.d c3),(zLZ.d v4),[.fn (.func 15) [] [pT 3]],(zLc.d v38)] ?_ ?_
  ·rcases tf (ltI v236.1 0) with g243|g243
   ·have c244:=ltT g243
    refine st ?_
    simp[g243]
   have c245:=ltF g243
   refine st ?_
   simp[g243]
  rcases sp h with ⟨g246,h⟩|⟨g246,h⟩
  ·refine zD5 rfl g246<|cutA 206 0 [(10,.bool false)] [(zLc.d p1),(zLd.d c3),(zLZ.d v4),[.fn (.func 15) [] [pT 3]],(zLc.d v38)]<|zAB<|zAF ?_
   cases h
   simp
  obtain⟨g247,g248⟩:=orF g246
  have c249:=ltF g247
  have c250:=leF g248
  refine zEK rfl g246<|zCe 4 rfl fun f251=>?_
  rw[zq4] at f251
  refine zAD<|zAK ?_
  have q252:Rng .i64 (v236.1+1):=by simp only[Rng,inR];omega
  try simp at q252
  obtain⟨l253,q254,h⟩:=bs h
  obtain⟨q255,q256⟩:=zKS q254
  try simp at q255
  try simp at q256
  obtain⟨v257,q258,h⟩:=bs h
  refine cut 206 0 [(4,.sl (l5.map zLc.c)),(8,pT 2),(12,pT 4),(27,iI v236.1),(29,iI v257.1),(30,iI v257.2)] [(zLc.d p1),(zLd.d c3),(zLZ.d v4),[.fn (.func 15) [] [pT 3]],(zLc.d v38)] ?_ ?_
  ·refine zAN [] mixed (n:=206) rfl (by decide) ?_
   simp[q252,q255,q256]
   have r274:=zBM fuel l253 v4 v257 q258
   try simp[q252,q255,q256] at r274
   refine zGc r274 (by simp) rfl ?_
   simp[q252,q255,q256]
  obtain⟨v259,q260,h⟩:=bs h
  obtain⟨v261,q262,h⟩:=bs h
  refine cut 206 0 [(27,iI v236.1),(29,iI v257.1),(30,iI v257.2),(31,iI v261.1),(32,iI v261.2)] [(zLc.d p1),(zLd.d c3),(zLZ.d v4),[.fn (.func 15) [] [pT 3]],(zLc.d v38)] ?_ ?_
  ·refine zAN [] mixed (n:=206) rfl (by decide) ?_
   simp
   have r272:=zBu fuel [l5,[v38]] v259 q260
   try simp at r272
   refine zGc r272 (by simp) rfl ?_
   simp
   have r273:=zBM fuel v259 v4 v261 q262
   try simp at r273
   refine zGc r273 (by simp) rfl ?_
   simp
  refine cut 206 0 [(10,.bool ((eqI v257.2 0)&&((eqI v257.1 v236.1)&&((eqI v261.2 0)&&(eqI v261.1 v236.1)))))] [(zLc.d p1),(zLd.d c3),(zLZ.d v4),[.fn (.func 15) [] [pT 3]],(zLc.d v38)] ?_ ?_
  ·rcases tf (eqI v257.2 0) with g263|g263
   ·have c264:=eqT g263
    rcases tf (eqI v257.1 v236.1) with g265|g265
    ·have c266:=eqT g265
     rcases tf (eqI v261.2 0) with g267|g267
     ·have c268:=eqT g267
      refine st ?_
      simp[g263,g265,g267]
     have c269:=eqF g267
     refine st ?_
     simp[g263,g265,g267]
    have c270:=eqF g265
    refine st ?_
    simp[g263,g265]
   have c271:=eqF g263
   refine st ?_
   simp[g263]
  refine zAB ?_
  cases h
  simp
 refine zEK rfl g198<|zAD<|zAK ?_
 obtain⟨v279,q280,h⟩:=bs h
 refine cut 206 0 [(4,.sl (l5.map zLc.c)),(8,pT 2),(12,pT 4),(27,iI v279.1),(28,iI v279.2)] [(zLc.d p1),(zLd.d c3),(zLZ.d v4),[.fn (.func 15) [] [pT 3]],(zLc.d v38)] ?_ ?_
 ·refine st ?_
  simp
  have r318:=zBM fuel l5 v4 v279 q280
  try simp at r318
  refine zAA r318 (by simp) rfl ?_
  simp
 refine zAC<|cutA 206 0 [(4,.sl (l5.map zLc.c)),(8,pT 2),(12,pT 4),(27,iI v279.1),(160,.bool (!(eqI v279.2 0)))] [(zLc.d p1),(zLd.d c3),(zLZ.d v4),[.fn (.func 15) [] [pT 3]],(zLc.d v38)] ?_
 rcases sp h with ⟨g281,h⟩|⟨g281,h⟩
 ·have g282:=notT g281
  have c283:=eqF g282
  refine zD5 rfl g281<|cutA 206 0 [(10,.bool (eqI v279.1 0))] [(zLc.d p1),(zLd.d c3),(zLZ.d v4),[.fn (.func 15) [] [pT 3]],(zLc.d v38)]<|zAB<|zAF ?_
  cases h
  simp
 have g284:=notF g281
 have c285:=eqT g284
 refine zEK rfl g281<|zAD<|zAK<|zAC<|cut 206 0 [(4,.sl (l5.map zLc.c)),(8,pT 2),(12,pT 4),(27,iI v279.1),(170,.bool ((ltI v279.1 0)||(leI (l5.length:Int) v279.1)))] [(zLc.d p1),(zLd.d c3),(zLZ.d v4),[.fn (.func 15) [] [pT 3]],(zLc.d v38)] ?_ ?_
 ·rcases tf (ltI v279.1 0) with g286|g286
  ·have c287:=ltT g286
   refine st ?_
   simp[g286]
  have c288:=ltF g286
  refine st ?_
  simp[g286]
 rcases sp h with ⟨g289,h⟩|⟨g289,h⟩
 ·refine zD5 rfl g289<|cutA 206 0 [(10,.bool false)] [(zLc.d p1),(zLd.d c3),(zLZ.d v4),[.fn (.func 15) [] [pT 3]],(zLc.d v38)]<|zAB<|zAF ?_
  cases h
  simp
 obtain⟨g290,g291⟩:=orF g289
 have c292:=ltF g290
 have c293:=leF g291
 refine zEK rfl g289<|zCe 4 rfl fun f294=>?_
 rw[zq4] at f294
 refine zAD<|zAK ?_
 have q295:Rng .i64 (v279.1+1):=by simp only[Rng,inR];omega
 try simp at q295
 obtain⟨l296,q297,h⟩:=bs h
 obtain⟨q298,q299⟩:=zKS q297
 try simp at q298
 try simp at q299
 obtain⟨v300,q301,h⟩:=bs h
 refine cut 206 0 [(4,.sl (l5.map zLc.c)),(8,pT 2),(12,pT 4),(27,iI v279.1),(29,iI v300.1),(30,iI v300.2)] [(zLc.d p1),(zLd.d c3),(zLZ.d v4),[.fn (.func 15) [] [pT 3]],(zLc.d v38)] ?_ ?_
 ·refine zAN [] mixed (n:=206) rfl (by decide) ?_
  simp[q295,q298,q299]
  have r317:=zBM fuel l296 v4 v300 q301
  try simp[q295,q298,q299] at r317
  refine zGc r317 (by simp) rfl ?_
  simp[q295,q298,q299]
 obtain⟨v302,q303,h⟩:=bs h
 obtain⟨v304,q305,h⟩:=bs h
 refine cut 206 0 [(27,iI v279.1),(29,iI v300.1),(30,iI v300.2),(31,iI v304.1),(32,iI v304.2)] [(zLc.d p1),(zLd.d c3),(zLZ.d v4),[.fn (.func 15) [] [pT 3]],(zLc.d v38)] ?_ ?_
 ·refine zAN [] mixed (n:=206) rfl (by decide) ?_
  simp
  have r315:=zBu fuel [l5,[v38]] v302 q303
  try simp at r315
  refine zGc r315 (by simp) rfl ?_
  simp
  have r316:=zBM fuel v302 v4 v304 q305
  try simp at r316
  refine zGc r316 (by simp) rfl ?_
  simp
 refine cut 206 0 [(10,.bool ((eqI v300.2 0)&&((eqI v300.1 v279.1)&&((eqI v304.2 0)&&(eqI v304.1 v279.1)))))] [(zLc.d p1),(zLd.d c3),(zLZ.d v4),[.fn (.func 15) [] [pT 3]],(zLc.d v38)] ?_ ?_
 ·rcases tf (eqI v300.2 0) with g306|g306
  ·have c307:=eqT g306
   rcases tf (eqI v300.1 v279.1) with g308|g308
   ·have c309:=eqT g308
    rcases tf (eqI v304.2 0) with g310|g310
    ·have c311:=eqT g310
     refine st ?_
     simp[g306,g308,g310]
    have c312:=eqF g310
    refine st ?_
    simp[g306,g308,g310]
   have c313:=eqF g308
   refine st ?_
   simp[g306,g308]
  have c314:=eqF g306
  refine st ?_
  simp[g306]
 refine zAB ?_
 cases h
 simp
theorem zAs{α β:Type}(a:α)(f:α->Option β):(some a).bind f=f a:=Eq.trans (Option.bind_some a f) rfl
theorem chk64{n:Int}(h1: -9223372036854775808<=n)(h2:n<=9223372036854775807):chk .i64 n=some n:=by rw[chk,if_pos];exact⟨h1,h2⟩
theorem zE1{α:Type}{b:Nat}{x y:List α}(h:0<b)(h2:(x.length+y.length)*b<=140737488355328):app b x y=some (x++y):=by rw[app,if_pos ⟨h,h2⟩]
theorem idxN{α:Type}(l:List α)(i:Nat):idx l (i:Int)=l[i]? :=by rw[idx,if_pos (by omega)];simp
theorem subD{α:Type}(s:List α)(i:Nat)(h:i<=s.length):subC s (i:Int) (s.length:Int)=some (s.drop i):=by
 rw[subC,if_pos ⟨by omega,by omega,by omega⟩]
 unfold sub
 rw[List.take_of_length_le (by simp)]
 simp
theorem subT{α:Type}(s:List α)(n:Nat)(h:n<=s.length):subC s 0 (n:Int)=some (s.take n):=by
 rw[subC,if_pos ⟨by omega,by omega,by omega⟩]
 simp[sub]
theorem ltN{i n:Nat}(h: ¬i<n): ¬ltI (i:Int) (n:Int)=true:=fun h'=>by have:=ltT h';omega
theorem ltP{i n:Nat}(h:i<n):ltI (i:Int) (n:Int)=true:=zqb (by omega)
theorem zI8(P:UInt8->Bool)(h:(List.range 256).all (fun n=>P (UInt8.ofNat n))=true)(c:UInt8):P c=true:=by
 have:=zq8 h c.toNat (List.mem_range.2 c.toNat_lt)
 simpa using this
def smB(c:UInt8):Bool:=decide (97<=c.toNat)&&decide (c.toNat<=122)
def caB(c:UInt8):Bool:=decide (65<=c.toNat)&&decide (c.toNat<=90)
def inU(c:UInt8):Bool:=smB c||caB c||(decide (48<=c.toNat)&&decide (c.toNat<=57))||decide (c.toNat=95)
def nm(p:UInt8->Bool):List UInt8->Bool
 |[]=>false
 |c::s=>decide ((c::s).length<=24)&&(p c&&(c::s).all inU)
theorem nm_cons(p:UInt8->Bool)(c:UInt8)(s:List UInt8):nm p (c::s)=(decide ((c::s).length<=24)&&(p c&&(c::s).all inU)):=rfl
theorem of_M(c:UInt8): ∃k,zDd c=some k∧((eqI k 0||eqI k 5)= !inU c)∧(eqI k 2=caB c)∧(eqI k 1=smB c):=by
 have h:=zI8 (fun c=>match zDd c with|some k=>((eqI k 0||eqI k 5)== !inU c)&&((eqI k 2==caB c)&&(eqI k 1==smB c))|none=>false) (by kernel_rfl) c
 cases hk:zDd c with
 |none=>rw[hk] at h;cases h
 |some k=>
  rw[hk] at h
  simp only[zq7,beq_iff_eq] at h
  exact⟨k,rfl,h.1,h.2.1,h.2.2⟩
theorem Inner_M(c:UInt8):zEV c=some (inU c):=by
 have h:=zI8 (fun c=>match zEV c with|some b=>b==inU c|none=>false) (by kernel_rfl) c
 cases hk:zEV c with
 |none=>rw[hk] at h;cases h
 |some k=>rw[hk] at h;rw[beq_iff_eq] at h;rw[h]
theorem Capital_M(c:UInt8):zDI c=some (caB c):=by
 have h:=zI8 (fun c=>match zDI c with|some b=>b==caB c|none=>false) (by kernel_rfl) c
 cases hk:zDI c with
 |none=>rw[hk] at h;cases h
 |some k=>rw[hk] at h;rw[beq_iff_eq] at h;rw[h]
theorem Small_M(c:UInt8):zDr c=some (smB c):=by
 have h:=zI8 (fun c=>match zDr c with|some b=>b==smB c|none=>false) (by kernel_rfl) c
 cases hk:zDr c with
 |none=>rw[hk] at h;cases h
 |some k=>rw[hk] at h;rw[beq_iff_eq] at h;rw[h]
theorem name_loop(l:List UInt8): ∀(n i k:Nat),i+n=l.length->n+1<=k->zCy l k i=some (if (l.drop i).all inU=true then .inr () else .inl false):=by
 intro n
 induction n with
 |zero=>
  intro i k hi hk
  obtain⟨g,rfl⟩: ∃g,k=g+1:=⟨k-1,by omega⟩
  rw[zCy,if_neg (ltN (by omega)),List.drop_eq_nil_of_le (by omega)]
  rfl
 |succ n ih=>
  intro i k hi hk
  obtain⟨g,rfl⟩: ∃g,k=g+1:=⟨k-1,by omega⟩
  have hx:l[i]? =some l[i]:=zq2 (by omega)
  rw[zCy,if_pos (ltP (by omega)),hx,List.drop_eq_getElem_cons (by omega),List.all_cons]
  generalize l[i]=c
  obtain⟨z,z1,z2,_⟩:=of_M c
  simp only[zAs,z1,z2]
  cases inU c
  ·rfl
  ·simp only[Bool.not_true,Bool.false_eq_true,if_false,Bool.true_and]
   exact ih (i+1) g (by omega) (by omega)
theorem name_M(s:List UInt8)(f:Int)(p:UInt8->Bool)(hp: ∀c k,zDd c=some k->eqI k f=p c){fuel:Nat}(hf:30<=fuel):zDv fuel s f=some (nm p s):=by
 rw[zDv]
 match s with
 |[]=>rfl
 |c::s=>
  rw[show eqS (c::s) []=false from decide_eq_false (by simp)]
  simp only[Bool.false_eq_true,if_false]
  by_cases hl:(c::s).length<=24
  ·rw[show ltI 24 ((c::s).length:Int)=false from decide_eq_false (by omega)]
   obtain⟨z,z1,_⟩:=of_M c
   simp only[Bool.false_eq_true,if_false,List.getElem?_cons_zero,zAs,z1,hp c z z1]
   have hu:nm p (c::s)=(p c&&(c::s).all inU):=by rw[nm_cons,zqb hl,Bool.true_and]
   rw[hu]
   cases p c
   ·rfl
   ·simp only[Bool.not_true,Bool.false_eq_true,if_false,Bool.true_and]
    rw[zLQ,if_pos (by omega)]
    simp only[zAs]
    rw[name_loop (c::s) (c::s).length 0 fuel (by omega) (by omega),List.drop_zero]
    cases(c::s).all inU<;>rfl
  ·rw[show ltI 24 ((c::s).length:Int)=true from zqb (by omega)]
   have hu:nm p (c::s)=false:=by rw[nm_cons,decide_eq_false hl,Bool.false_and]
   rw[hu];rfl
theorem name1(s:List UInt8){fuel:Nat}(hf:30<=fuel):zDv fuel s 1=some (nm smB s):=name_M s 1 smB (fun c k h=>by
 obtain⟨z,z1,_,_,z4⟩:=of_M c
 rw[z1] at h;cases h;exact z4) hf
theorem name2(s:List UInt8){fuel:Nat}(hf:30<=fuel):zDv fuel s 2=some (nm caB s):=name_M s 2 caB (fun c k h=>by
 obtain⟨z,z1,_,z3,_⟩:=of_M c
 rw[z1] at h;cases h;exact z3) hf
theorem inner_loop(l:List UInt8): ∀(n i k:Nat),i+n=l.length->n+1<=k->zCc l k i=some (if (l.drop i).all inU=true then .inr () else .inl false):=by
 intro n
 induction n with
 |zero=>
  intro i k hi hk
  obtain⟨g,rfl⟩: ∃g,k=g+1:=⟨k-1,by omega⟩
  rw[zCc,if_neg (ltN (by omega)),List.drop_eq_nil_of_le (by omega)]
  rfl
 |succ n ih=>
  intro i k hi hk
  obtain⟨g,rfl⟩: ∃g,k=g+1:=⟨k-1,by omega⟩
  have hx:l[i]? =some l[i]:=zq2 (by omega)
  rw[zCc,if_pos (ltP (by omega)),hx,List.drop_eq_getElem_cons (by omega),List.all_cons]
  generalize l[i]=c
  simp only[zAs,Inner_M]
  cases inU c
  ·rfl
  ·simp only[Bool.not_true,Bool.false_eq_true,if_false,Bool.true_and]
   exact ih (i+1) g (by omega) (by omega)
theorem inner_M(l:List UInt8){fuel:Nat}(hf:l.length+1<=fuel):zFL fuel l=some (l.all inU):=by
 rw[zFL,inner_loop l l.length 0 fuel (by omega) hf,List.drop_zero]
 cases l.all inU<;>rfl
theorem Word_M(s:List UInt8){fuel:Nat}(hf:30<=fuel):zE2 fuel s=some (decide (1<=s.length)&&(decide (s.length<=24)&&s.all inU)):=by
 rw[zE2]
 by_cases h1:1<=s.length
 ·rw[show leI 1 (s.length:Int)=true from zqb (by omega),zqb h1]
  by_cases h2:s.length<=24
  ·rw[show leI (s.length:Int) 24=true from zqb (by omega),zqb h2,inner_M s (by omega)];rfl
  ·rw[show leI (s.length:Int) 24=false from decide_eq_false (by omega),decide_eq_false h2];rfl
 ·rw[show leI 1 (s.length:Int)=false from decide_eq_false (by omega),decide_eq_false h1];rfl
theorem nm_word(p:UInt8->Bool)(c:UInt8)(s:List UInt8):nm p (c::s)=((decide (1<=(c::s).length)&&(decide ((c::s).length<=24)&&(c::s).all inU))&&p c):=by
 rw[nm_cons,zqb (show 1<=(c::s).length by simp)]
 cases decide ((c::s).length<=24)<;>cases p c<;>cases(c::s).all inU<;>rfl
theorem IsUpper_M(s:List UInt8){fuel:Nat}(hf:30<=fuel):zDi fuel s=some (nm caB s):=by rw[zDi,name2 s hf];rfl
theorem Upper_M(s:List UInt8){fuel:Nat}(hf:30<=fuel):zD9 fuel s=some (nm caB s):=by
 rw[zD9,Word_M s hf]
 match s with
 |[]=>rfl
 |c::s=>
  rw[nm_word]
  simp only[zAs]
  cases(decide (1<=(c::s).length)&&(decide ((c::s).length<=24)&&(c::s).all inU))
  ·rfl
  ·simp only[if_true,List.getElem?_cons_zero,zAs,Capital_M,Bool.true_and]
def KEYS:List (List UInt8):=(zFk).getD []
theorem KEYS_M:zFk=some KEYS:=by kernel_rfl
theorem KEYS_len:KEYS.length=31:=by kernel_rfl
def kw(s:List UInt8):Bool:=KEYS.any (fun w=>decide (w=s))
theorem index_loop(l:List (List UInt8))(v:List UInt8): ∀(n i k:Nat),i+n=l.length->n+1<=k->∃o,zBP l v k i=some o∧(((l.drop i).any (fun w=>decide (w=v))=true∧∃j:Nat,o=.inl (j:Int))∨((l.drop i).any (fun w=>decide (w=v))=false∧o=.inr ())):=by
 intro n
 induction n with
 |zero=>
  intro i k hi hk
  obtain⟨g,rfl⟩: ∃g,k=g+1:=⟨k-1,by omega⟩
  rw[zBP,if_neg (ltN (by omega)),List.drop_eq_nil_of_le (by omega)]
  exact⟨_,rfl,.inr ⟨rfl,rfl⟩⟩
 |succ n ih=>
  intro i k hi hk
  obtain⟨g,rfl⟩: ∃g,k=g+1:=⟨k-1,by omega⟩
  have hx:l[i]? =some l[i]:=zq2 (by omega)
  rw[zBP,if_pos (ltP (by omega)),hx,List.drop_eq_getElem_cons (by omega),List.any_cons]
  generalize l[i]=c
  simp only[zAs]
  by_cases h:c=v
  ·rw[if_pos (show eqS v c=true from zqb h.symm),zqb h]
   exact⟨_,rfl,.inl ⟨rfl,i,rfl⟩⟩
  ·rw[if_neg (show¬eqS v c=true from fun e=>h (of_decide_eq_true e).symm),decide_eq_false h,Bool.false_or]
   exact ih (i+1) g (by omega) (by omega)
theorem contains_M(l:List (List UInt8))(v:List UInt8){fuel:Nat}(hf:l.length+1<=fuel):zB0 fuel l v=some (l.any (fun w=>decide (w=v))):=by
 obtain⟨o,o1,o2⟩:=index_loop l v l.length 0 fuel (by omega) hf
 rw[zB0,zDN,o1]
 rw[List.drop_zero] at o2
 rcases o2 with ⟨h,j,rfl⟩|⟨h,rfl⟩
 ·rw[h]
  simp only[zAs,Sum.elim_inl]
  rw[show leI 0 (j:Int)=true from zqb (by omega)]
 ·rw[h];rfl
theorem word_M(s:List UInt8){fuel:Nat}(hf:40<=fuel):zFn fuel s=some (kw s):=by
 have hF: ∀t,zDP t=some KEYS->((zDP t).bind fun v2=>(zB0 fuel v2 s).bind fun v4=>some v4)=some (kw s):=fun t ht=>by
  rw[ht]
  simp only[zAs]
  rw[contains_M KEYS s (by rw[KEYS_len];omega)];rfl
 rw[zFn]
 exact hF _ (by kernel_rfl)
def loS(s:List UInt8):Bool:=nm smB s&& !kw s
theorem IsLower_M(s:List UInt8){fuel:Nat}(hf:40<=fuel):zEC fuel s=some (loS s):=by
 rw[zEC,name1 s (by omega)]
 unfold loS
 simp only[zAs]
 cases nm smB s
 ·rfl
 ·rw[if_pos rfl,word_M s hf];rfl
theorem find_loop(l:List (List UInt8))(v:List UInt8): ∀(n i k:Nat),i+n=l.length->n+1<=k->∃o,zCv l v k i=some o∧(((l.drop i).any (fun w=>decide (w=v))=true∧∃j:Nat,o=.inl (j:Int))∨((l.drop i).any (fun w=>decide (w=v))=false∧o=.inr ())):=by
 intro n
 induction n with
 |zero=>
  intro i k hi hk
  obtain⟨g,rfl⟩: ∃g,k=g+1:=⟨k-1,by omega⟩
  rw[zCv,if_neg (ltN (by omega)),List.drop_eq_nil_of_le (by omega)]
  exact⟨_,rfl,.inr ⟨rfl,rfl⟩⟩
 |succ n ih=>
  intro i k hi hk
  obtain⟨g,rfl⟩: ∃g,k=g+1:=⟨k-1,by omega⟩
  have hx:l[i]? =some l[i]:=zq2 (by omega)
  rw[zCv,if_pos (ltP (by omega)),hx,List.drop_eq_getElem_cons (by omega),List.any_cons]
  generalize l[i]=c
  simp only[zAs]
  by_cases h:c=v
  ·rw[if_pos (show eqS c v=true from zqb h),zqb h]
   exact⟨_,rfl,.inl ⟨rfl,i,rfl⟩⟩
  ·rw[if_neg (show¬eqS c v=true from fun e=>h (of_decide_eq_true e)),decide_eq_false h,Bool.false_or]
   exact ih (i+1) g (by omega) (by omega)
theorem Lower_M(s:List UInt8){fuel:Nat}(hf:40<=fuel):zEA fuel s=some (loS s):=by
 rw[zEA,Word_M s (by omega)]
 unfold loS
 match s with
 |[]=>rfl
 |c::s=>
  rw[nm_word]
  simp only[zAs]
  cases(decide (1<=(c::s).length)&&(decide ((c::s).length<=24)&&(c::s).all inU))
  ·rfl
  ·simp only[if_true,List.getElem?_cons_zero,zAs,Small_M,Bool.true_and]
   cases smB c
   ·rfl
   ·rw[if_pos rfl,KEYS_M]
    simp only[zAs,Bool.true_and]
    obtain⟨o,o1,o2⟩:=find_loop KEYS (c::s) KEYS.length 0 fuel (by omega) (by rw[KEYS_len];omega)
    rw[zE3,o1]
    rw[List.drop_zero] at o2
    rcases o2 with ⟨h,j,rfl⟩|⟨h,rfl⟩
    ·have:kw (c::s)=true:=h
     rw[this]
     simp only[zAs,Sum.elim_inl]
     rw[show ltI (j:Int) 0=false from decide_eq_false (by omega)];rfl
    ·have:kw (c::s)=false:=h
     rw[this];rfl
theorem dec_len(m:Nat)(hm:m<10000000000000000):(Lib.decDigits m).length<=16:=by
 rw[Lib.decDigits_length]
 have h3: ∀j u,u<10^(j+1)->Lib.nDigits u<=j+1:=by
  intro j
  induction j with
  |zero=>intro u hu;rw[Lib.nDigits_small (by simpa using hu)];omega
  |succ j ihj=>
   intro u hu
   by_cases hu2:u<10
   ·rw[Lib.nDigits_small hu2];omega
   ·have:=ihj (u/10) (by have:10^(j+1+1)=10^(j+1)*10:=Nat.pow_succ ..;omega)
    rw[Lib.nDigits_big hu2];omega
 exact h3 15 m (by omega)
theorem itoa_M(n:Nat)(h:n<10000000000000000):zDY (n:Int)=some (Lib.decDigits n):=by
 have:=dec_len n h
 have e:Lib.itoa (n:Int)=Lib.decDigits n:=by unfold Lib.itoa;rw[if_neg (by omega)];rfl
 rw[zDY,e,if_pos (by omega)]
def nds(p:zLc):Nat:=1+(p.L.map nds).sum
decreasing_by all_goals (cases p;simp only[zLc.mk.sizeOf_spec];have:=List.sizeOf_lt_of_mem ‹_›;simp only at this;omega)
theorem zG7(p:zLc):nds p=1+(p.L.map nds).sum:=by rw[nds]
def wt(p:zLc):Nat:=100+p.S.length+p.L.length+(p.L.map wt).sum
decreasing_by all_goals (cases p;simp only[zLc.mk.sizeOf_spec];have:=List.sizeOf_lt_of_mem ‹_›;simp only at this;omega)
theorem wt_eq(p:zLc):wt p=100+p.S.length+p.L.length+(p.L.map wt).sum:=by rw[wt]
theorem le_sum{α:Type}(f:α->Nat): ∀{l:List α}{x:α},x∈l->f x<=(l.map f).sum
 |y::l,x,h=>by
  rw[List.map_cons,List.sum_cons]
  rcases List.mem_cons.1 h with rfl|h
  ·omega
  ·have:=le_sum f h;omega
theorem zHg{α:Type}(f:α->Nat)(l:List α)(i:Nat)(h:i<l.length):((l.drop i).map f).sum=f l[i]+((l.drop (i+1)).map f).sum:=by
 rw[List.drop_eq_getElem_cons h,List.map_cons,List.sum_cons]
theorem sum_le{α:Type}{f g:α->Nat}: ∀{l:List α},(∀x,x∈l->f x<=g x)->(l.map f).sum<=(l.map g).sum
 |[],_=>by simp
 |y::l,h=>by
  simp only[List.map_cons,List.sum_cons]
  have h1:=h y (zq9 ..)
  have h2:=sum_le (l:=l) fun x hx=>h x (zqc _ hx)
  omega
theorem zJA{p x:zLc}(h:x∈p.L):wt x+100+p.S.length+p.L.length<=wt p:=by
 rw[wt_eq p]
 have:=le_sum wt h
 omega
theorem zG6{p x:zLc}(h:x∈p.L):nds x+1<=nds p:=by
 rw[zG7 p]
 have:=le_sum nds h
 omega
theorem zI9(p:zLc):100+p.S.length+p.L.length<=wt p:=by rw[wt_eq];omega
theorem zIk(p:zLc):1<=nds p:=by rw[zG7];omega
theorem zGk{T:zLc->Prop}(h: ∀p,(∀x,x∈p.L->T x)->T p): ∀p,T p:=by
 have key: ∀n p,wt p<=n->T p:=by
  intro n
  induction n with
  |zero=>intro p hp;have:=zI9 p;omega
  |succ n ih=>exact fun p hp=>h p fun x hx=>ih x (by have:=zJA hx;omega)
 exact fun p=>key (wt p) p (Nat.le_refl _)
theorem nds_wt(p:zLc):nds p<=wt p:=by
 induction p using zGk with
 |h p ih=>
  rw[zG7,wt_eq]
  have:=sum_le (f:=nds) (g:=wt) ih
  omega
theorem len_nds(p:zLc):p.L.length+1<=nds p:=by
 rw[zG7]
 have:p.L.length<=(p.L.map nds).sum:=by
  induction p.L with
  |nil=>simp
  |cons x l ih=>simp only[List.length_cons,List.map_cons,List.sum_cons];have:=zIk x;omega
 omega
theorem big_loop(p:zLc)(d:Int)(g:Nat)(hd:0<=d)(hd2:d<=50)(ih: ∀x,x∈p.L->∀c:Int,0<=c->c<=200->∃v:Int,zCH g x (d+1) c=some v∧0<=v∧(v<=200->v=c+nds x)):
 ∀(n i k:Nat)(a:Int),i+n=p.L.length->n+1<=k->0<=a->∃v:Int,zCd (zCH g) p d k a i=some v∧0<=v∧(v<=200->v=a+((p.L.drop i).map nds).sum):=by
 intro n
 induction n with
 |zero=>
  intro i k a hi hk ha
  obtain⟨k,rfl⟩: ∃q,k=q+1:=⟨k-1,by omega⟩
  rw[zCd,show ltI (i:Int) (p.L.length:Int)=false from decide_eq_false (by omega),List.drop_eq_nil_of_le (by omega)]
  exact⟨a,rfl,ha,fun _=>by simp⟩
 |succ n ihn=>
  intro i k a hi hk ha
  obtain⟨k,rfl⟩: ∃q,k=q+1:=⟨k-1,by omega⟩
  have hx:p.L[i]? =some p.L[i]:=zq2 (by omega)
  rw[zCd,show ltI (i:Int) (p.L.length:Int)=true from zqb (by omega),zHg nds p.L i (by omega)]
  by_cases h2:a<=200
  ·rw[show leI a 200=true from zqb h2,Bool.and_self,if_pos rfl,hx,zAs,chk64 (by omega) (by omega),zAs]
   obtain⟨v,h3,h4,h5⟩:=ih p.L[i] (List.getElem_mem _) a ha h2
   rw[h3,zAs]
   obtain⟨u,h6,h7,h8⟩:=ihn (i+1) k v (by omega) (by omega) h4
   refine⟨u,h6,h7,fun hu=>?_⟩
   have h9:=h8 hu
   have:v<=200:=by omega
   rw[h9,h5 this];omega
  ·rw[show leI a 200=false from decide_eq_false h2]
   exact⟨a,rfl,ha,fun h=>absurd h h2⟩
theorem big_M(p:zLc): ∀(fuel:Nat)(d c:Int),wt p<=fuel->0<=d->d<=51->0<=c->c<=200->∃v:Int,zCH fuel p d c=some v∧0<=v∧(v<=200->v=c+nds p):=by
 induction p using zGk with
 |h p ih=>
  intro fuel d c hf hd hd2 hc hc2
  have hw:=zI9 p
  obtain⟨g,rfl⟩: ∃g,fuel=g+1:=⟨fuel-1,by omega⟩
  rw[zCH,chk64 (by omega) (by omega),zAs]
  split
  ·obtain⟨k,rfl⟩: ∃k,g=k+1:=⟨g-1,by omega⟩
   rw[zDQ,show leI (1000:Int) 200=false from rfl,Bool.and_false]
   exact⟨1000,rfl,by omega,fun h=>by omega⟩
  ·rename_i hn
   have hd3:d<=50:=by
    rw[Bool.or_eq_true] at hn
    have: ¬ltI 50 d=true:=fun h=>hn (.inl h)
    have:=ltF (by simpa using this:ltI 50 d=false)
    omega
   obtain⟨v,h1,h2,h3⟩:=big_loop p d g hd hd3 (fun x hx c hc hc2=>ih x hx g (d+1) c (by have:=zJA hx;omega) (by omega) (by omega) hc hc2) p.L.length 0 g (c+1) (by omega) (by omega) (by omega)
   rw[h1,zAs]
   refine⟨v,rfl,h2,fun hv=>?_⟩
   rw[h3 hv,zG7,List.drop_zero];omega
theorem Big_M(p:zLc){fuel:Nat}(hf:wt p<=fuel): ∃b,zEW fuel p=some b∧(b=false->nds p<=200):=by
 obtain⟨v,h1,h2,h3⟩:=big_M p fuel 1 0 hf (by omega) (by omega) (by omega) (by omega)
 rw[zEW,h1,zAs]
 refine⟨_,rfl,fun h=>?_⟩
 have:=ltF h
 have:=h3 this
 omega
def nodeB(p:zLc):Bool:=
 if p.Op=1 then decide (p.L.length=0)&&(decide (p.N=0)&&decide (p.S=[]))
 else if p.Op=2 then decide (p.L.length=0)&&(decide (p.N=0)&&loS p.S)
 else if p.Op=3 then decide (p.L.length=0)&&(decide (p.S=[])&&(decide (-4503599627370496<=p.N)&&decide (p.N<=4503599627370496)))
 else if p.Op=4 then decide (p.L.length<=1)&&(decide (p.N=0)&&nm caB p.S)
 else if p.Op=5 then !decide (p.L.length=1)&&(decide (p.L.length<=9)&&(decide (p.N=0)&&decide (p.S=[])))
 else false
theorem lenI(l:List zLc)(k:Nat):eqI (l.length:Int) (k:Int)=decide (l.length=k):=by
 unfold eqI
 by_cases h:l.length=k
 ·rw[zqb h,zqb (by omega)]
 ·rw[decide_eq_false h,decide_eq_false (by omega)]
theorem lenL(l:List zLc)(k:Nat):leI (l.length:Int) (k:Int)=decide (l.length<=k):=by
 unfold leI
 by_cases h:l.length<=k
 ·rw[zqb h,zqb (by omega)]
 ·rw[decide_eq_false h,decide_eq_false (by omega)]
theorem node_M(p:zLc){fuel:Nat}(hf:40<=fuel):zEn fuel p=some (nodeB p):=by
 have e0:=lenI p.L 0
 have e1:=lenI p.L 1
 have l1:=lenL p.L 1
 have l9:=lenL p.L 9
 rw[zEn]
 unfold nodeB
 rw[IsLower_M p.S hf,IsUpper_M p.S (by omega)]
 rw[show eqI (p.L.length:Int) 0=decide (p.L.length=0) from e0,show eqI (p.L.length:Int) 1=decide (p.L.length=1) from e1,show leI (p.L.length:Int) 1=decide (p.L.length<=1) from l1,show leI (p.L.length:Int) 9=decide (p.L.length<=9) from l9]
 by_cases h1:p.Op=1
 ·rw[if_pos (show eqI p.Op 1=true from zqb h1),if_pos h1];rfl
 rw[if_neg (show¬eqI p.Op 1=true from fun h=>h1 (eqT h)),if_neg h1]
 by_cases h2:p.Op=2
 ·rw[if_pos (show eqI p.Op 2=true from zqb h2),if_pos h2]
  by_cases hl:p.L.length=0
  ·by_cases hN:p.N=0
   ·simp only[zqb hl,if_true,show eqI p.N 0=true from zqb hN,zAs,zqb hN,Bool.true_and]
   ·simp only[zqb hl,if_true,show eqI p.N 0=false from decide_eq_false hN,zAs,decide_eq_false hN,Bool.true_and,Bool.false_and,Bool.false_eq_true,if_false]
  ·simp only[decide_eq_false hl,zAs,Bool.false_and,Bool.false_eq_true,if_false]
 rw[if_neg (show¬eqI p.Op 2=true from fun h=>h2 (eqT h)),if_neg h2]
 by_cases h3:p.Op=3
 ·rw[if_pos (show eqI p.Op 3=true from zqb h3),if_pos h3];rfl
 rw[if_neg (show¬eqI p.Op 3=true from fun h=>h3 (eqT h)),if_neg h3]
 by_cases h4:p.Op=4
 ·rw[if_pos (show eqI p.Op 4=true from zqb h4),if_pos h4]
  by_cases hl:p.L.length<=1
  ·by_cases hN:p.N=0
   ·simp only[zqb hl,if_true,show eqI p.N 0=true from zqb hN,zAs,zqb hN,Bool.true_and]
   ·simp only[zqb hl,if_true,show eqI p.N 0=false from decide_eq_false hN,zAs,decide_eq_false hN,Bool.true_and,Bool.false_and,Bool.false_eq_true,if_false]
  ·simp only[decide_eq_false hl,zAs,Bool.false_and,Bool.false_eq_true,if_false]
 rw[if_neg (show¬eqI p.Op 4=true from fun h=>h4 (eqT h)),if_neg h4]
 by_cases h5:p.Op=5
 ·rw[if_pos (show eqI p.Op 5=true from zqb h5),if_pos h5];rfl
 rw[if_neg (show¬eqI p.Op 5=true from fun h=>h5 (eqT h)),if_neg h5]
theorem rnode_M(p:zLc){fuel:Nat}(hf:40<=fuel):zFi fuel p=some (nodeB p):=by
 have e0:=lenI p.L 0
 have e1:=lenI p.L 1
 have l1:=lenL p.L 1
 have l9:=lenL p.L 9
 rw[zFi]
 unfold nodeB
 rw[Lower_M p.S hf,Upper_M p.S (by omega)]
 rw[show eqI (p.L.length:Int) 0=decide (p.L.length=0) from e0,show eqI (p.L.length:Int) 1=decide (p.L.length=1) from e1,show leI (p.L.length:Int) 1=decide (p.L.length<=1) from l1,show leI (p.L.length:Int) 9=decide (p.L.length<=9) from l9]
 have hnil:nm caB []=false:=rfl
 have hnil2:loS []=false:=rfl
 by_cases h1:p.Op=1
 ·by_cases hN:p.N=0<;>by_cases hS:p.S=[]<;>simp[eqI,eqS,leI,h1,hN,hS]
 by_cases h2:p.Op=2
 ·by_cases hN:p.N=0<;>cases loS p.S<;>simp[eqI,eqS,leI,h1,h2,hN]
 by_cases h3:p.Op=3
 ·by_cases hS:p.S=[]
  ·by_cases hN:p.N=0<;>by_cases q1: -4503599627370496<=p.N<;>by_cases q2:p.N<=4503599627370496<;>simp[eqI,eqS,leI,h1,h2,h3,hN,hS,q1,q2]
  ·by_cases hN:p.N=0<;>simp[eqI,eqS,leI,h1,h2,h3,hN,hS]
 by_cases h4:p.Op=4
 ·by_cases hN:p.N=0<;>cases nm caB p.S<;>simp[eqI,eqS,leI,h1,h2,h3,h4,hN]
 by_cases h5:p.Op=5
 ·by_cases hN:p.N=0<;>by_cases hS:p.S=[]<;>simp[eqI,eqS,leI,h1,h2,h3,h4,h5,hN,hS]
 ·by_cases hN:p.N=0<;>by_cases hS:p.S=[]<;>simp[eqI,eqS,leI,h1,h2,h3,h4,h5,hN,hS]
def nok(p:zLc):Bool:=nodeB p&&(p.L.map nok).all id
decreasing_by all_goals (cases p;simp only[zLc.mk.sizeOf_spec];have:=List.sizeOf_lt_of_mem ‹_›;simp only at this;omega)
theorem nok_eq(p:zLc):nok p=(nodeB p&&(p.L.map nok).all id):=by rw[nok]
theorem nok_iff{p:zLc}:nok p=true↔nodeB p=true∧∀x,x∈p.L->nok x=true:=by
 rw[nok_eq,zq7,List.all_eq_true]
 exact and_congr_right fun _=>⟨fun h x hx=>h _ (List.mem_map.2 ⟨x,hx,rfl⟩),fun h y hy=>by obtain⟨x,hx,rfl⟩:=List.mem_map.1 hy;exact h x hx⟩
theorem measure_loop(p:zLc)(left d:Int)(g:Nat)(hp:(nds p:Int)<=left)(hl:left<=20000)(hd0:0<=d)(hd:d+nds p<=401)
 (ih: ∀x,x∈p.L->∀(l e:Int),(nds x:Int)<=l->l<=20000->0<=e->e+nds x<=401->zBt g x l e=some (if nok x=true then ((nds x:Int),true) else (0,false))):
 ∀(n i k m:Nat),i+n=p.L.length->n+1<=k->m+((p.L.drop i).map nds).sum=nds p->
  zBq (zBt g) p left d k (m:Int) i=some (if ((p.L.drop i).map nok).all id=true then .inr ((nds p:Nat):Int) else .inl (0,false)):=by
 intro n
 induction n with
 |zero=>
  intro i k m hi hk hm
  obtain⟨k,rfl⟩: ∃q,k=q+1:=⟨k-1,by omega⟩
  rw[List.drop_eq_nil_of_le (by omega)] at hm ⊢
  rw[zBq,if_neg (ltN (by omega))]
  simp only[List.map_nil,List.sum_nil,Nat.add_zero] at hm
  rw[hm];rfl
 |succ n ihn=>
  intro i k m hi hk hm
  obtain⟨k,rfl⟩: ∃q,k=q+1:=⟨k-1,by omega⟩
  have hx:p.L[i]? =some p.L[i]:=zq2 (by omega)
  rw[zHg nds p.L i (by omega)] at hm
  have hmem:p.L[i]∈p.L:=List.getElem_mem _
  have h1:=zG6 hmem
  rw[zBq,if_pos (ltP (by omega)),hx,zAs,chk64 (by omega) (by omega),zAs,chk64 (by omega) (by omega),zAs,ih p.L[i] hmem _ _ (by omega) (by omega) (by omega) (by omega),zAs]
  rw[List.drop_eq_getElem_cons (by omega),List.map_cons,List.all_cons]
  cases hn:nok p.L[i] with
  |false=>rfl
  |true=>
   simp only[if_true,Bool.not_true,Bool.false_eq_true,if_false,id,Bool.true_and]
   rw[chk64 (by omega) (by omega),zAs]
   have:=ihn (i+1) k (m+nds p.L[i]) (by omega) (by omega) (by omega)
   rw[show(m:Int)+(nds p.L[i]:Int)=((m+nds p.L[i]:Nat):Int) by omega,this]
theorem measure_M(p:zLc): ∀(fuel:Nat)(left d:Int),wt p<=fuel->(nds p:Int)<=left->left<=20000->0<=d->d+nds p<=401->zBt fuel p left d=some (if nok p=true then ((nds p:Int),true) else (0,false)):=by
 induction p using zGk with
 |h p ih=>
  intro fuel left d hf h1 h2 h3 h4
  have hw:=zI9 p
  have hp:=zIk p
  obtain⟨g,rfl⟩: ∃g,fuel=g+1:=⟨fuel-1,by omega⟩
  rw[zBt,if_neg (show¬leI left 0=true from fun h=>by have:=leT h;omega),if_neg (show¬ltI 400 d=true from fun h=>by have:=ltT h;omega),node_M p (by omega),zAs,zAs,nok_eq]
  cases hn:nodeB p with
  |false=>rfl
  |true=>
   have:=measure_loop p left d g h1 h2 h3 h4 (fun x hx l e q1 q2 q3 q4=>ih x hx g l e (by have:=zJA hx;omega) q1 q2 q3 q4) p.L.length 0 g 1 (by omega) (by omega) (by rw[List.drop_zero,zG7])
   rw[List.drop_zero] at this
   simp only[Bool.not_true,Bool.false_eq_true,if_false,Bool.true_and]
   rw[show(1:Int)=((1:Nat):Int) from rfl,this,zAs]
   cases(p.L.map nok).all id<;>rfl
theorem count_loop(p:zLc)(d:Int)(g:Nat)(hd:(nds p:Int)<=d)(hd2:d<=400)
 (ih: ∀x,x∈p.L->∀(l e:Int),(nds x:Int)<=l->l<=20000->(nds x:Int)<=e->e<=400->zCu g x l e=some (if nok x=true then l-nds x else -1)):
 ∀(n i k:Nat)(l:Int),i+n=p.L.length->n+1<=k->(((p.L.drop i).map nds).sum:Int)<=l->l<=20000->
  zCD (zCu g) p d k l i=some (if ((p.L.drop i).map nok).all id=true then l-((p.L.drop i).map nds).sum else -1):=by
 intro n
 induction n with
 |zero=>
  intro i k l hi hk hl hl2
  obtain⟨k,rfl⟩: ∃q,k=q+1:=⟨k-1,by omega⟩
  rw[List.drop_eq_nil_of_le (by omega)]
  rw[zCD,show ltI (i:Int) (p.L.length:Int)=false from decide_eq_false (by omega)]
  simp
 |succ n ihn=>
  intro i k l hi hk hl hl2
  obtain⟨k,rfl⟩: ∃q,k=q+1:=⟨k-1,by omega⟩
  have hx:p.L[i]? =some p.L[i]:=zq2 (by omega)
  rw[zHg nds p.L i (by omega)] at hl ⊢
  have hmem:p.L[i]∈p.L:=List.getElem_mem _
  have h1:=zG6 hmem
  rw[zCD,show ltI (i:Int) (p.L.length:Int)=true from zqb (by omega),show leI 0 l=true from zqb (by omega),Bool.and_self,if_pos rfl,hx,zAs,chk64 (by omega) (by omega),zAs,
   ih p.L[i] hmem _ _ (by omega) hl2 (by omega) (by omega),zAs]
  rw[List.drop_eq_getElem_cons (by omega),List.map_cons,List.all_cons]
  cases hn:nok p.L[i] with
  |false=>
   simp only[Bool.false_eq_true,if_false,id,Bool.false_and]
   obtain⟨k,rfl⟩: ∃q,k=q+1:=⟨k-1,by omega⟩
   rw[zCD,show leI 0 (-1)=false from rfl,Bool.and_false]
   rfl
  |true=>
   simp only[if_true,id,Bool.true_and]
   rw[ihn (i+1) k _ (by omega) (by omega) (by omega) (by omega)]
   congr 1
   split
   ·omega
   ·rfl
theorem count_M(p:zLc): ∀(fuel:Nat)(l e:Int),wt p<=fuel->(nds p:Int)<=l->l<=20000->(nds p:Int)<=e->e<=400->zCu fuel p l e=some (if nok p=true then l-nds p else -1):=by
 induction p using zGk with
 |h p ih=>
  intro fuel l e hf h1 h2 h3 h4
  have hw:=zI9 p
  have hp:=zIk p
  obtain⟨g,rfl⟩: ∃g,fuel=g+1:=⟨fuel-1,by omega⟩
  rw[zCu,if_neg (show¬ltI l 1=true from fun h=>by have:=ltT h;omega),if_neg (show¬ltI e 1=true from fun h=>by have:=ltT h;omega),rnode_M p (by omega),zAs,zAs,nok_eq]
  cases hn:nodeB p with
  |false=>rfl
  |true=>
   have hs:nds p=1+(p.L.map nds).sum:=zG7 p
   have:=count_loop p e g h3 h4 (fun x hx l e q1 q2 q3 q4=>ih x hx g l e (by have:=zJA hx;omega) q1 q2 q3 q4) p.L.length 0 g (l-1) (by omega) (by omega) (by rw[List.drop_zero];omega) (by omega)
   rw[List.drop_zero] at this
   simp only[Bool.not_true,Bool.false_eq_true,if_false,Bool.true_and]
   rw[chk64 (by omega) (by omega),zAs,this,zAs]
   congr 1
   split
   ·omega
   ·rfl
def vrs(p:zLc):List (List UInt8):=(if p.Op=2 then [p.S] else [])++(p.L.map vrs).flatten
decreasing_by all_goals (cases p;simp only[zLc.mk.sizeOf_spec];have:=List.sizeOf_lt_of_mem ‹_›;simp only at this;omega)
theorem zIm(p:zLc):vrs p=(if p.Op=2 then [p.S] else [])++(p.L.map vrs).flatten:=by rw[vrs]
theorem flat_len{α β:Type}(f:α->List β): ∀l:List α,((l.map f).flatten).length=(l.map fun x=>(f x).length).sum
 |[]=>rfl
 |x::l=>by simp only[List.map_cons,List.flatten_cons,List.length_append,List.sum_cons,flat_len f l]
theorem vrs_len(p:zLc):(vrs p).length<=nds p:=by
 induction p using zGk with
 |h p ih=>
  rw[zIm,zG7,List.length_append,flat_len]
  have:=sum_le (f:=fun x=>(vrs x).length) (g:=nds) ih
  split<;>simp<;>omega
theorem zI5{β:Type}(f:zLc->List β)(l:List zLc)(i:Nat)(h:i<l.length):((l.drop i).map f).flatten=f l[i]++((l.drop (i+1)).map f).flatten:=by
 rw[List.drop_eq_getElem_cons h,List.map_cons,List.flatten_cons]
theorem nok_var{p:zLc}(h:nok p=true)(h2:p.Op=2):p.L=[]:=by
 have:=(nok_iff.1 h).1
 unfold nodeB at this
 rw[if_neg (by omega),if_pos h2,zq7] at this
 exact List.eq_nil_of_length_eq_zero (of_decide_eq_true this.1)
def stp(q:Bool×List (List UInt8×Bool))(s:List UInt8):Bool×List (List UInt8×Bool):=(q.1&& !(mgetD q.2 s false),mput q.2 s true)
theorem vv_loop1(p:zLc)(g:Nat)(ih: ∀x,x∈p.L->∀(q:Bool×List (List UInt8×Bool)),zAL g x q.1 q.2=some ((vrs x).foldl stp q)):
 ∀(n i k:Nat)(q:Bool×List (List UInt8×Bool)),i+n=p.L.length->n+1<=k->zAl (zAL g) p k q.1 q.2 i=some (((p.L.drop i).map vrs).flatten.foldl stp q):=by
 intro n
 induction n with
 |zero=>
  intro i k q hi hk
  obtain⟨k,rfl⟩: ∃q,k=q+1:=⟨k-1,by omega⟩
  rw[List.drop_eq_nil_of_le (by omega),zAl,if_neg (ltN (by omega))];rfl
 |succ n ihn=>
  intro i k q hi hk
  obtain⟨k,rfl⟩: ∃q,k=q+1:=⟨k-1,by omega⟩
  have hx:p.L[i]? =some p.L[i]:=zq2 (by omega)
  rw[zAl,if_pos (ltP (by omega)),hx,zAs,ih _ (List.getElem_mem _) q,zAs,ihn (i+1) k _ (by omega) (by omega),zI5 vrs p.L i (by omega),List.foldl_append]
theorem vv_loop2(p:zLc)(g:Nat)(ih: ∀x,x∈p.L->∀(q:Bool×List (List UInt8×Bool)),zAL g x q.1 q.2=some ((vrs x).foldl stp q)):
 ∀(n i k:Nat)(q:Bool×List (List UInt8×Bool)),i+n=p.L.length->n+1<=k->zAu (zAL g) p k q.1 q.2 i=some (((p.L.drop i).map vrs).flatten.foldl stp q):=by
 intro n
 induction n with
 |zero=>
  intro i k q hi hk
  obtain⟨k,rfl⟩: ∃q,k=q+1:=⟨k-1,by omega⟩
  rw[List.drop_eq_nil_of_le (by omega),zAu,if_neg (ltN (by omega))];rfl
 |succ n ihn=>
  intro i k q hi hk
  obtain⟨k,rfl⟩: ∃q,k=q+1:=⟨k-1,by omega⟩
  have hx:p.L[i]? =some p.L[i]:=zq2 (by omega)
  rw[zAu,if_pos (ltP (by omega)),hx,zAs,ih _ (List.getElem_mem _) q,zAs,ihn (i+1) k _ (by omega) (by omega),zI5 vrs p.L i (by omega),List.foldl_append]
theorem vv_M(p:zLc): ∀(fuel:Nat)(q:Bool×List (List UInt8×Bool)),wt p<=fuel->zAL fuel p q.1 q.2=some ((vrs p).foldl stp q):=by
 induction p using zGk with
 |h p ih=>
  intro fuel q hf
  have hw:=zI9 p
  obtain⟨g,rfl⟩: ∃g,fuel=g+1:=⟨fuel-1,by omega⟩
  have ih': ∀x,x∈p.L->∀(q:Bool×List (List UInt8×Bool)),zAL g x q.1 q.2=some ((vrs x).foldl stp q):=fun x hx q=>ih x hx g q (by have:=zJA hx;omega)
  rw[zAL,zIm]
  by_cases h2:p.Op=2
  ·have:=vv_loop1 p g ih' p.L.length 0 g (stp q p.S) (by omega) (by omega)
   rw[List.drop_zero] at this
   rw[if_pos (show eqI p.Op 2=true from zqb h2),if_pos h2,zEE,zAs]
   show(zAl (zAL g) p g (stp q p.S).1 (stp q p.S).2 0).bind _=_
   rw[this,zAs];rfl
  ·have:=vv_loop2 p g ih' p.L.length 0 g q (by omega) (by omega)
   rw[List.drop_zero] at this
   rw[if_neg (show¬eqI p.Op 2=true from fun h=>h2 (eqT h)),if_neg h2,this,zAs];rfl
theorem mget_put(m:List (List UInt8×Bool))(k k':List UInt8):mgetD (mput m k true) k' false=if k'=k then true else mgetD m k' false:=by
 induction m with
 |nil=>
  simp only[mput,mgetD]
  by_cases h:k'=k<;>simp[h]
 |cons q m ih=>
  simp only[mput]
  by_cases h1:k=q.1
  ·rw[if_pos (by simpa using h1)]
   simp only[mgetD]
   by_cases h2:k'=q.1
   ·rw[if_pos (by simpa using h2),if_pos (by rw[h2,h1])]
   ·rw[if_neg (by simpa using h2),if_neg (by rw[h1];exact h2),if_neg (by simpa using h2)]
  ·rw[if_neg (by simpa using h1)]
   simp only[mgetD]
   by_cases h2:k'=q.1
   ·rw[if_pos (by simpa using h2),if_neg (by rw[h2];exact fun e=>h1 e.symm),if_pos (by simpa using h2)]
   ·have hb: ¬(k'==q.1)=true:=by simpa using h2
    simp only[if_neg hb]
    exact ih
theorem fold_iff: ∀(l:List (List UInt8))(c:Bool)(m:List (List UInt8×Bool))(K:List (List UInt8)),(∀k,mgetD m k false=decide (k∈K))->((l.foldl stp (c,m)).1=true↔c=true∧l.Nodup∧∀s,s∈l->s∉K)
 |[],c,m,K,h=>by simp
 |s::l,c,m,K,h=>by
  have hK: ∀k,mgetD (mput m s true) k false=decide (k∈s::K):=fun k=>by
   rw[mget_put,h k]
   by_cases hk:k=s
   ·rw[if_pos hk,zqb (by rw[hk];exact zq9 ..)]
   ·rw[if_neg hk]
    by_cases hm:k∈K
    ·rw[zqb hm,zqb (zqc _ hm)]
    ·rw[decide_eq_false hm,decide_eq_false (fun e=>(List.mem_cons.1 e).elim hk hm)]
  have ih:=fold_iff l (c&& !(mgetD m s false)) (mput m s true) (s::K) hK
  rw[List.foldl_cons]
  show(l.foldl stp (c&& !(mgetD m s false),mput m s true)).1=true↔_
  rw[ih,h s,List.nodup_cons]
  simp only[zq7,Bool.not_eq_true',decide_eq_false_iff_not,List.mem_cons,not_or]
  constructor
  ·rintro⟨⟨h1,h2⟩,h3,h4⟩
   refine⟨h1,⟨fun hm=>(h4 s hm).1 rfl,h3⟩,fun t ht=>?_⟩
   rcases ht with rfl|ht
   ·exact h2
   ·exact(h4 t ht).2
  ·rintro⟨h1,⟨h2,h3⟩,h4⟩
   exact⟨⟨h1,h4 s (.inl rfl)⟩,h3,fun t ht=>⟨fun e=>h2 (by rw[<-e];exact ht),h4 t (.inr ht)⟩⟩
def vld(p:zLc):Bool:=nok p&&decide (vrs p).Nodup
theorem zJ1(p:zLc){fuel:Nat}(hf:wt p<=fuel)(hs:nds p<=200):zB8 fuel p=some (vld p):=by
 rw[zB8,measure_M p fuel 20000 1 hf (by omega) (by omega) (by omega) (by omega),zAs]
 unfold vld
 cases hn:nok p with
 |false=>rfl
 |true=>
  simp only[if_true,Bool.not_true,Bool.false_eq_true,if_false,Bool.true_and]
  have h1:=vv_M p fuel (true,[]) hf
  have h2:=fold_iff (vrs p) true [] [] (fun k=>by simp[mgetD])
  simp only at h1
  rw[h1,zAs]
  congr 1
  rw[Bool.eq_iff_iff,h2,decide_eq_true_iff]
  exact⟨fun h=>h.2.1,fun h=>⟨rfl,h,fun _ _ e=>by cases e⟩⟩
theorem rv_loop(p:zLc)(g:Nat)(ih: ∀x,x∈p.L->∀c:List (List UInt8),c.length+(vrs x).length<=1000->zC4 g c x=some (c++vrs x)):
 ∀(n i k:Nat)(c:List (List UInt8)),i+n=p.L.length->n+1<=k->c.length+(((p.L.drop i).map vrs).flatten).length<=1000->zCt (zC4 g) p k c i=some (c++((p.L.drop i).map vrs).flatten):=by
 intro n
 induction n with
 |zero=>
  intro i k c hi hk hc
  obtain⟨k,rfl⟩: ∃q,k=q+1:=⟨k-1,by omega⟩
  rw[List.drop_eq_nil_of_le (by omega),zCt,if_neg (ltN (by omega))];simp
 |succ n ihn=>
  intro i k c hi hk hc
  obtain⟨k,rfl⟩: ∃q,k=q+1:=⟨k-1,by omega⟩
  have hx:p.L[i]? =some p.L[i]:=zq2 (by omega)
  rw[zI5 vrs p.L i (by omega),List.length_append] at hc
  rw[zCt,if_pos (ltP (by omega)),hx,zAs,ih _ (List.getElem_mem _) c (by omega),zAs,ihn (i+1) k _ (by omega) (by omega) (by rw[List.length_append];omega),zI5 vrs p.L i (by omega),List.append_assoc]
theorem rv_M(p:zLc): ∀(fuel:Nat)(c:List (List UInt8)),wt p<=fuel->nok p=true->c.length+(vrs p).length<=1000->zC4 fuel c p=some (c++vrs p):=by
 induction p using zGk with
 |h p ih=>
  intro fuel c hf hn hc
  have hw:=zI9 p
  obtain⟨g,rfl⟩: ∃g,fuel=g+1:=⟨fuel-1,by omega⟩
  have ih': ∀x,x∈p.L->∀c:List (List UInt8),c.length+(vrs x).length<=1000->zC4 g c x=some (c++vrs x):=fun x hx c h=>ih x hx g c (by have:=zJA hx;omega) ((nok_iff.1 hn).2 x hx) h
  rw[zIm] at hc ⊢
  rw[zC4]
  by_cases h2:p.Op=2
  ·have hl:=nok_var hn h2
   rw[if_pos h2,hl] at hc ⊢
   simp only[List.map_nil,List.flatten_nil,List.append_nil,List.length_cons,List.length_nil] at hc ⊢
   rw[if_pos (show eqI p.Op 2=true from zqb h2),zE1 (by decide) (by simp;omega),zAs,List.nil_append,zE1 (by decide) (by simp;omega),zAs]
  ·rw[if_neg h2] at hc ⊢
   have:=rv_loop p g ih' p.L.length 0 g c (by omega) (by omega) (by rw[List.drop_zero];simpa using hc)
   rw[List.drop_zero] at this
   rw[if_neg (show¬eqI p.Op 2=true from fun h=>h2 (eqT h)),this,zAs];rfl
theorem RVars_M(p:zLc){fuel:Nat}(hf:wt p<=fuel)(hs:nds p<=200)(hn:nok p=true):zFj fuel p=some (vrs p):=by
 have:=vrs_len p
 rw[zFj,rv_M p fuel [] hf hn (by simp;omega),zAs];rfl
theorem dup_loop(v:List (List UInt8))(fuel:Nat)(hf:v.length+1<=fuel): ∀(n i k:Nat),i+n=v.length->n+1<=k->∃o,zCb fuel v k i=some o∧
 ((o=.inr ()∧∀(j:Nat)(h:j<v.length),i<=j->v[j]∉v.take j)∨(o=.inl false∧∃(j:Nat) (h:j<v.length),v[j]∈v.take j)):=by
 intro n
 induction n with
 |zero=>
  intro i k hi hk
  obtain⟨k,rfl⟩: ∃q,k=q+1:=⟨k-1,by omega⟩
  rw[zCb,if_neg (ltN (by omega))]
  exact⟨_,rfl,.inl ⟨rfl,fun j h hj=>by omega⟩⟩
 |succ n ihn=>
  intro i k hi hk
  obtain⟨k,rfl⟩: ∃q,k=q+1:=⟨k-1,by omega⟩
  have hx:v[i]? =some v[i]:=zq2 (by omega)
  obtain⟨o,o1,o2⟩:=find_loop (v.take i) v[i] (v.take i).length 0 fuel (by omega) (by simp;omega)
  rw[zCb,if_pos (ltP (by omega)),subT v i (by omega),zAs,hx,zAs,zE3,o1]
  rw[List.drop_zero] at o2
  rcases o2 with ⟨h,j,rfl⟩|⟨h,rfl⟩
  ·simp only[zAs,Sum.elim_inl]
   rw[if_pos (show leI 0 (j:Int)=true from zqb (by omega))]
   rw[List.any_eq_true] at h
   obtain⟨w,hw,he⟩:=h
   exact⟨_,rfl,.inr ⟨rfl,i,by omega,by rw[<-of_decide_eq_true he];exact hw⟩⟩
  ·simp only[zAs,Sum.elim_inr]
   rw[if_neg (show¬leI 0 (-1)=true by decide)]
   obtain⟨o,o3,o4⟩:=ihn (i+1) k (by omega) (by omega)
   refine⟨o,o3,?_⟩
   rcases o4 with ⟨q1,q2⟩|⟨q1,q2⟩
   ·refine .inl ⟨q1,fun j hj hij=>?_⟩
    by_cases e:j=i
    ·subst e
     intro hm
     have:(v.take j).any (fun w=>decide (w=v[j]))=true:=List.any_eq_true.2 ⟨_,hm,zqb rfl⟩
     rw[h] at this;cases this
    ·exact q2 j hj (by omega)
   ·exact .inr ⟨q1,q2⟩
theorem nodup_take(v:List (List UInt8)):v.Nodup↔∀(j:Nat)(h:j<v.length),v[j]∉v.take j:=by
 unfold List.Nodup
 rw[List.pairwise_iff_getElem]
 constructor
 ·intro h j hj hm
  obtain⟨i,hi,e⟩:=List.getElem_of_mem hm
  have hij:i<j:=by simp at hi;omega
  rw[List.getElem_take] at e
  exact h i j (by omega) hj hij e
 ·intro h i j hi hj hij e
  refine h j hj ?_
  rw[<-e,List.mem_take_iff_getElem]
  exact⟨i,by omega,rfl⟩
theorem RValid_M(p:zLc){fuel:Nat}(hf:wt p<=fuel)(hs:nds p<=200):zFK fuel p=some (vld p):=by
 have hp:=zIk p
 have hw:=nds_wt p
 have hl:=vrs_len p
 have ho:=zI9 p
 rw[zFK,count_M p fuel 20000 400 hf (by omega) (by omega) (by omega) (by omega),zAs]
 unfold vld
 cases hn:nok p with
 |false=>rfl
 |true=>
  simp only[if_true,Bool.true_and]
  rw[if_neg (show¬ltI (20000-(nds p:Int)) 0=true from fun h=>by have:=ltT h;omega),RVars_M p hf hs hn,zAs]
  have hlen:(vrs p).length+1<=wt p:=by
   have:=vrs_len p
   have h1:nds p+1<=wt p:=by
    rw[zG7,wt_eq]
    have:=sum_le (f:=nds) (g:=wt) (l:=p.L) (fun x _=>nds_wt x)
    omega
   omega
  obtain⟨o,o1,o2⟩:=dup_loop (vrs p) fuel (by omega) (vrs p).length 0 fuel (by omega) (by omega)
  rw[o1,zAs]
  rcases o2 with ⟨rfl,h⟩|⟨rfl,j,hj,h⟩
  ·rw[zqb ((nodup_take _).2 fun j hj=>h j hj (by omega))];rfl
  ·rw[decide_eq_false (fun e=>(nodup_take _).1 e j hj h)];rfl
end Go.Proofs.YtencdekdgajgfaaGreatDoor
