/- For every input the law ParsecoreGroups returns true. Part 7 of 22. No condition. -/
import Derived.Test.YtcbjbgiboimgaaaGreatDoorPGf
import Derived.Recover
set_option linter.unusedVariables false
set_option linter.unnecessarySimpa false
set_option linter.unusedSimpArgs false
set_option maxRecDepth 100000
set_option maxHeartbeats 4000000
namespace Go.Abs
open Go
variable {P:Program} {ops:Array Oper} {imm:Addr->Option Value} {w:World} {B:List Nat} {a:Act} {v:Value} {o:Oper} {f:FuncId} {σ:List Nat} {x:Operand} {α:Type} {t:TypeId} {c:Code} {bo:Option Nat} {id:Nat} {i:Nat} {pins:List Nat} {D:List Deferred} {ρ:List Nat} {ch:List PanicEntry} {n:Nat} {fn:Func} {args:List AV} {l:List (List AV)} {res:AV} {m:Option Place} {blk:List AV} {s:AState} {Q:Exit->AState->Prop} {F:Fx} {g:Gh} {K:AState->Prop} {E:List PanicEntry->AState->Prop}
theorem put_dfr(a:Act)(d:Option Nat)(v:Value)(D:List Deferred):({({a with defers:=D}:Act).put d v with defers:=a.defers}:Act)=a.put d v:=by cases d<;>rfl
theorem dfr_id(h:a.defers=[]):({a with defers:=[]}:Act)=a:=by cases a;simp only at h;subst h;rfl
theorem wp_dfr{w:World}{K0 K:Act->World->Prop}{Q0 Q:Exit->Act->World->Prop}(h:o.wp P {a with defers:=[]} w K0 Q0)
 (hK: ∀a' w',K0 a' w'->a'.defers=[]∧K {a' with defers:=a.defers} w') (hQ: ∀ch a' w',Q0 (.panic ch) a' w'->Q (.panic ch) {a' with defers:=a.defers} w') (hO:LetsOut Q0->LetsOut Q):o.wp P a w K Q:=by
 have hev:({a with defers:=[]}:Act).eval=a.eval:=by funext x;cases x<;>rfl
 unfold Oper.wp at h ⊢
 rw[hev] at h
 have go: ∀v w',K0 (({a with defers:=[]}:Act).put o.dst v) w'->K (a.put o.dst v) w':=fun v w' h=>by
  have:=(hK _ _ h).2
  rwa [put_dfr] at this
 cases hr:(execOp a.eval o).run P w with
 |ok n w'=>
  rw[hr] at h
  cases n with
  |value v=>exact go _ _ h
  |skip=>exact go _ _ h
  |defer d=>
   exfalso
   have:=(hK _ _ h).1
   cases ho:o.dst<;>simp[Act.put,ho] at this
  |enter f args=>
   refine Calls.mono h fun e w'' he=>?_
   cases e with
   |returned v=>exact go _ _ he
   |panicked ch=>exact hQ ch {a with defers:=[]} _ he
   |outgrown=>exact hO he
  |row r args=>exact Rows.mono h fun v w'' hv=>go _ _ hv
  |_=>exact h
 |halt x w'=>
  rw[hr] at h
  cases x with
  |panic v=>exact hQ _ {a with defers:=[]} _ h
  |_=>exact h
theorem AOps.soundD{P:Program}{ops:Array Oper}{Q:Exit->Act->World->Prop}{D:List Deferred}{l2:List Oper}(hK: ∀g s a w,K s->Sim F g s {a with defers:=[]} w->a.defers=D->wpList P ops Q l2 a w):
 ∀(l:List Oper)(s:AState)(g:Gh)(a:Act)(w:World),AOps P ops K l s->Sim F g s {a with defers:=[]} w->a.defers=D->wpList P ops Q (l++l2) a w:=by
 intro l
 induction l with
 |nil=>exact fun s g a w h hs hd=>hK g s a w h hs hd
 |cons o l ih=>
  intro s g a w h hs hd
  have step:AStep P o s (AOps P ops K l)->o.wp P a w (wpList P ops Q (l++l2)) Q:=fun h=>by
   obtain⟨s',h1,h2⟩:=h.ok
   refine wp_dfr (h1 F g _ w hs (fun a' w'=> ∃g',Sim F g' s' a' w') (fun _ _ _=>False) fun g' a' w' hs'=>⟨g',hs'⟩) (fun a' w' ⟨g',hs'⟩=>⟨hs'.defers,?_⟩) (fun _ _ _ h=>h.elim) (fun⟨_,_,h⟩=>h.elim)
   exact ih s' g' _ w' h2 (by
    have:=dfr_id hs'.defers
    show Sim F g' s' {a' with defers:=[]} w'
    rw[this];exact hs') hd
  have skip:AOps P ops K l (s.putO o.dst (.tup []))->wpList P ops Q (l++l2) (a.put o.dst undef) w:=fun h=>by
   obtain⟨g',hs'⟩:=hs.putUndef o.dst
   refine ih _ g' _ w h ?_ (by cases ho:o.dst<;>exact hd)
   have:({(a.put o.dst undef) with defers:=[]}:Act)=({a with defers:=[]}:Act).put o.dst undef:=by cases o.dst<;>rfl
   rw[this];exact hs'
  unfold AOps at h
  rw[List.cons_append]
  unfold wpList
  cases hg:o.guard with
  |none=>
   rw[hg] at h
   rw[if_pos (by simp[Region.wanted,hg])]
   exact .inl (step h)
  |some q=>
   obtain⟨j,want⟩:=q
   rw[hg] at h
   simp only[zFW] at h
   split at h
   ·rename_i d hd'
    have hr:=(hs.tmps d).1
    unfold zGo at h
    split at h
    ·rename_i b hb
     have hb':s.tmps d=.bool b:=hb
     rw[hb'] at hr
     have hv:a.tmps.getD d undef=.bool b:=by
      generalize hh:a.tmps.getD d undef=v at hr ⊢
      have hr:Rep g.imm g.σ (.bool b) v:=hr
      cases hr;rfl
     have hy:=zEz hd' hv
     by_cases hbw:b=want
     ·rw[if_pos (by simp[Region.wanted,hg,hy,hbw])]
      exact .inl (step (h.1 hbw))
     ·rw[if_neg (by simp[Region.wanted,hg,hy,hbw])]
      have hw':b= !want:=by clear h skip step ih hy hv;revert hbw;cases b<;>cases want<;>decide
      exact skip (h.2 hw')
    ·rename_i hb
     have hb':s.tmps d=.tup []:=hb
     rw[hb'] at hr
     have hv:a.tmps.getD d undef=undef:=by
      generalize hh:a.tmps.getD d undef=v at hr ⊢
      have hr:Rep g.imm g.σ (.tup []) v:=hr
      cases hr
      rename_i vs hsz _
      have:vs=#[]:=by simpa using hsz
      subst this;rfl
     have hy:=zES hd' hv
     rw[if_neg (by simp[Region.wanted,hg,hy])]
     exact skip h
    ·exact h.elim
   ·exact h.elim
def DWp(P:Program)(D:List Deferred)(c:Code)(Q:Exit->AState->Prop)(s:AState):Prop:=
 ∀F g a w,Sim F g s {a with defers:=[]} w->a.defers=D->c.wp P (fun e a' w'=> ∃g' s',Sim F g' s' {a' with defers:=[]} w'∧a'.defers=D∧Q e s') a w
theorem dwp_le{s s':AState}(h:DWp P D c Q s')(hl:s.Le s'):DWp P D c Q s:=fun F g a w hs hd=>by
 obtain⟨g',hs'⟩:=hs.le hl
 exact h F g' a w hs' hd
theorem zJ0{x y:Code}(h:DWp P D x (seqK (DWp P D y Q) Q) s):DWp P D (.seq x y) Q s:=fun F g a w hs hd=>by
 refine wp_seq (wp_mono (h F g a w hs hd) fun e a' w' ⟨g',s',h1,h2,h3⟩=>?_)
 cases e with
 |normal=>exact h3 F g' a' w' h1 h2
 |_=>exact⟨g',s',h1,h2,h3⟩
theorem zHz{c:Operand}{x y:Code}{b:Bool}(hc:s.look c=.bool b)(h1:b=true->DWp P D x Q s)(h2:b=false->DWp P D y Q s):
 DWp P D (.cond c x y) Q s:=fun F g a w hs hd=>
 wp_cond_split (t:=b) (by have:=zKe hs hc;cases c<;>exact this) (fun hb=>h1 hb F g a w hs hd) (fun hb=>h2 hb F g a w hs hd)
theorem dwp_block(h:DWp P D c (zI7 id Q) s):DWp P D (.block id c) Q s:=fun F g a w hs hd=>by
 refine wp_block (wp_mono (h F g a w hs hd) fun e a' w' ⟨g',s',h1,h2,h3⟩=>?_)
 cases e with
 |exit id'=>
  simp only[Exit.inBlock,zI7] at h3 ⊢
  split
  ·rename_i e;rw[if_pos e] at h3;exact⟨g',s',h1,h2,h3⟩
  ·rename_i e;rw[if_neg e] at h3;exact⟨g',s',h1,h2,h3⟩
 |_=>exact⟨g',s',h1,h2,h3⟩
theorem dwp_ret(h:Q .ret s):DWp P D .ret Q s:=fun F g a w hs hd=>wp_ret ⟨g,s,hs,hd,h⟩
theorem dwp_skip(h:Q .normal s):DWp P D .skip Q s:=fun F g a w hs hd=>wp_skip ⟨g,s,hs,hd,h⟩
theorem zE7(h:AOps P ops (Q .normal) ops.toList s.fresh):DWp P D (.region id ops false) Q s:=fun F g a w hs hd=>by
 have:=AOps.soundD (P:=P) (ops:=ops) (K:=Q .normal) (F:=F) (D:=D) (l2:=[]) (Q:=fun e a' w'=> ∃g' s',Sim F g' s' {a' with defers:=[]} w'∧a'.defers=D∧Q e s') (fun g s a w hk hs hd=>⟨g,s,hs,hd,hk⟩) ops.toList s.fresh g a w h hs.fresh hd
 rw[List.append_nil] at this
 exact wp_region_list this
def PanT(P:Program)(o:Option Oper)(s:AState)(E:List PanicEntry->AState->Prop):Prop:=
 match o with
 |none=>False
 |some o=>match o.guard with
  |some _=>False
  |none=>match o.op with
   |.call c=>match c.callee with
    |.value x=>match s.look x with
     |.fn (.func f) first captured=> ∃ch bs',RawP P f ch (zBO s first captured c.args) s.blocks bs'∧E ch (s.called none .top bs')
     |_=>False
    |_=>False
   |_=>False
theorem PanT.sound(h:PanT P (some o) s E)(hs:Sim F g s a w){K:Act->World->Prop}{Q:Exit->Act->World->Prop}
 (hQ: ∀ch g' s' w',E ch s'->Sim F g' s' a w'->Q (.panic ch) a w'):o.guard=none∧o.wp P a w K Q:=by
 simp only[PanT] at h
 split at h
 ·exact h.elim
 rename_i hg
 refine⟨hg,?_⟩
 split at h
 ·rename_i c ho
  split at h
  ·rename_i x hc
   split at h
   ·rename_i f first captured hx
    obtain⟨ch,bs',h1,h2⟩:=h
    have he:=zAn hs x
    rw[hx] at he
    cases hv:a.eval x with
    |func fn fv cv=>
     rw[hv] at he
     cases he with
     |fn _ _ _ _ _ hf hcv rf rc=>
      have hargs:RepL g.imm g.σ (zBO s first captured c.args) ((fv++c.args.map a.eval)++cv):=RepL.append (RepL.append ⟨hf,rf⟩ (zGa hs c.args)) ⟨hcv,rc⟩
      have hrun:(execOp a.eval o).run P w=.ok (.enter f ((fv++c.args.map a.eval)++cv)) w:=by
       simp only[execOp,ho,Sem.run_bind,resolve,hc,hv,Deferred.ofValue,Sem.run_pure,Result.andThen_ok,invoke,h1.1.run]
      simp only[Oper.wp,hrun,Oper.upon]
      refine(h1.2 _ w _ hs.callee (fun t=>rfl) hs.ext.tg.callee hargs).mono fun e w'=>?_
      rintro⟨g',rfl,h3,h4,h5,_⟩
      exact hQ ch _ _ w' h2 (hs.after h5 h3 h4)
    |_=>rw[hv] at he;cases he
   ·exact h.elim
  ·exact h.elim
 ·exact h.elim
theorem zFH(k:Nat)(h:AOps P ops (fun s'=>PanT P ops[k]? s' fun ch s2=>Q (.panic ch) s2) (ops.toList.take k) s.fresh):DWp P D (.region id ops false) Q s:=fun F g a w hs hd=>by
 refine wp_region_list ?_
 have:=AOps.soundD (F:=F) (D:=D) (l2:=ops.toList.drop k) (Q:=fun e a' w'=> ∃g' s',Sim F g' s' {a' with defers:=[]} w'∧a'.defers=D∧Q e s') (fun g s a w hk hs hd=>by
  cases ho:ops[k]? with
  |none=>rw[ho] at hk;exact hk.elim
  |some o=>
   rw[ho] at hk
   have hlt:k<ops.toList.length:=by simpa using lt_of_getElem? ho
   have hdr:ops.toList.drop k=o::ops.toList.drop (k+1):=by
    rw[List.drop_eq_getElem_cons hlt]
    congr 1
    have:ops.toList[k]? =some o:=by rw[Array.getElem?_toList];exact ho
    rw[zq2 hlt] at this
    exact zqa this
   rw[hdr]
   obtain⟨hg,hw⟩:=hk.sound hs (K:=fun _ _=>False) (Q:=fun e a' w'=>a'={a with defers:=[]}∧∃ch g' s',e=.panic ch∧Sim F g' s' a' w'∧Q e s') (fun ch g' s' w' h1 h2=>⟨rfl,ch,g',s',rfl,h2,h1⟩)
   unfold wpList
   rw[if_pos (by simp[Region.wanted,hg])]
   refine .inl (wp_dfr hw (fun _ _ h=>h.elim) (fun ch a' w' ⟨ha,_,g',s',_,h1,h2⟩=>?_) (fun⟨a',w',_,ch,_,_,h,_⟩=>by cases h))
   subst ha
   exact⟨g',s',h1,hd,h2⟩) (ops.toList.take k) s.fresh g a w h hs.fresh hd
 rwa [List.take_append_drop] at this
theorem WL.assert{l:List Oper}{xt t d:Nat}{v:AV}{fields:Array Field}(hg:o.guard=none)(ho:o.op=.typeAssert x xt t true)(hd:o.dst=some d)
 (hu:P.underlying t=some (.struct fields)) (hx:s.look x=.iface t v) (h:WL P ops Q l (s.put d (.tup [v,.bool true]))):WL P ops Q (o::l) s:=fun F g a w hs=>by
 have he:=zAn hs x
 rw[hx] at he
 cases hv:a.eval x with
 |iface t' u=>
  rw[hv] at he
  cases he with
  |iface _ _ _ he=>
   have hrun:(execOp a.eval o).run P w=.ok (.value (.tuple #[u,.bool true])) w:=by
    simp[execOp,ho,hv,Instr.typeAssert,underlying,hu,Sem.run_bind]
   unfold wpList
   rw[if_pos (by simp[Region.wanted,hg])]
   refine .inl ?_
   simp only[Oper.wp,hrun,Oper.upon,hd]
   refine h F _ _ w (hs.putTmp d none (.tup _ _ rfl fun i y hy=>?_) trivial Floating.none)
   match i,hy with
   |0,hy=>simp at hy;subst hy;exact he
   |1,hy=>simp at hy;subst hy;exact .bool _
 |_=>rw[hv] at he;cases he
attribute [simp] PanT
end Go.Abs
namespace Go.Proofs.YtcbjbgiboimgaaaGreatDoor
open Go Go.Abs
structure zKr where
 Op:Int
 N:Int
 S:(List UInt8)
 Names:(List (List UInt8))
 L:(List zKr)
def zKr.c(x:zKr):List AV:=[.int .i64 x.Op,.int .i64 x.N,.str x.S,.sl (x.Names.map cS),.sl (x.L.map zKr.c)]
termination_by SizeOf.sizeOf x
decreasing_by all_goals (cases x;simp only[zKr.mk.sizeOf_spec];have:=List.sizeOf_lt_of_mem ‹_›;simp only at this;omega)
@[simp] theorem zKr.c_eq(x:zKr):zKr.c x=[.int .i64 x.Op,.int .i64 x.N,.str x.S,.sl (x.Names.map cS),.sl (x.L.map zKr.c)]:=by rw[zKr.c]
@[simp] def zKr.d(x:zKr):List AV:=[.int .i64 x.Op,.int .i64 x.N,.str x.S,.sl (x.Names.map cS),.sl (x.L.map zKr.c)]
@[simp] theorem EL_Api_Syn(l:List zKr):EL 5 (l.map zKr.c):=EL_map (fun x=>by simp) l
structure zKq where
 Line:Int
 Column:Int
 deriving DecidableEq
structure zKp where
 Kind:Int
 Text:(List UInt8)
 At:zKq
 deriving DecidableEq
@[simp] def zKp.c(x:zKp):List AV:=[.int .i64 x.Kind,.str x.Text,.int .i64 x.At.Line,.int .i64 x.At.Column]
structure zKn where
 s:(List UInt8)
 at_:Int
 deriving DecidableEq
structure zKm where
 l:(List zKp)
 at_:Int
 deriving DecidableEq
structure zKo where
 n:Bool
 s:Bool
 names:Bool
 deriving DecidableEq
@[simp] def zKo.c(x:zKo):List AV:=[.bool x.n,.bool x.s,.bool x.names]
end Go.Proofs.YtcbjbgiboimgaaaGreatDoor
