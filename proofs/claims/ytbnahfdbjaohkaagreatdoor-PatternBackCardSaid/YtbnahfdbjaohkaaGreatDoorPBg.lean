/- For every input the law PatternBack returns true. Part 7 of 23. No condition. -/
import Derived.Test.YtbnahfdbjaohkaaGreatDoorPBf
import Derived.Recover
set_option linter.unusedVariables false
set_option linter.unnecessarySimpa false
set_option linter.unusedSimpArgs false
set_option maxRecDepth 100000
set_option maxHeartbeats 4000000
namespace Go.Abs
open Go
variable {P:Program} {ops:Array Oper} {imm:Addr->Option Value} {w:World} {B:List Nat} {a:Act} {o:Oper} {f:FuncId} {v:Value} {α:Type} {x:Operand} {σ:List Nat} {c:Code} {ρ:List Nat} {t:TypeId} {bo:Option Nat} {n:Nat} {id:Nat} {fn:Func} {ch:List PanicEntry} {i:Nat} {pins:List Nat} {D:List Deferred} {k:IntKind} {args:List AV} {l:List (List AV)} {res:AV} {m:Option Place} {s:AState} {Q:Exit->AState->Prop} {F:Fx} {g:Gh} {K:AState->Prop} {R:AV->AState->Prop} {E:List PanicEntry->AState->Prop} {r:Res}
theorem put_dfr(a:Act)(d:Option Nat)(v:Value)(D:List Deferred):({({a with defers:=D}:Act).put d v with defers:=a.defers}:Act)=a.put d v:=by cases d<;>rfl
theorem dfr_id(h:a.defers=[]):({a with defers:=[]}:Act)=a:=by cases a;simp only at h;subst h;rfl
theorem wp_dfr{w:World}{K0 K:Act->World->Prop}{Q0 Q:Exit->Act->World->Prop}(h:o.wp P {a with defers:=[]} w K0 Q0)
 (hK: ∀a' w',K0 a' w'->a'.defers=[]∧K {a' with defers:=a.defers} w') (hQ: ∀ch a' w',Q0 (.panic ch) a' w'->Q (.panic ch) {a' with defers:=a.defers} w') (hO:LetsOut Q0->LetsOut Q):o.wp P a w K Q:=by
 have hev:({a with defers:=[]}:Act).eval=a.eval:=by funext x;cases x<;>rfl
 unfold Oper.wp at h ⊢
 rw[hev] at h
 have go: ∀v w',K0 (({a with defers:=[]}:Act).put o.dst v) w'->K (a.put o.dst v) w':=fun v w' h=>by
  have:=(hK _ _ h).2
  rwa [put_dfr] at this
 cases hr:(execOp a.eval o).run P w with
 |ok n w'=>
  rw[hr] at h
  cases n with
  |value v=>exact go _ _ h
  |skip=>exact go _ _ h
  |defer d=>
   exfalso
   have:=(hK _ _ h).1
   cases ho:o.dst<;>simp[Act.put,ho] at this
  |enter f args=>
   refine Calls.mono h fun e w'' he=>?_
   cases e with
   |returned v=>exact go _ _ he
   |panicked ch=>exact hQ ch {a with defers:=[]} _ he
   |outgrown=>exact hO he
  |row r args=>exact Rows.mono h fun v w'' hv=>go _ _ hv
  |_=>exact h
 |halt x w'=>
  rw[hr] at h
  cases x with
  |panic v=>exact hQ _ {a with defers:=[]} _ h
  |_=>exact h
theorem AOps.soundD{P:Program}{ops:Array Oper}{Q:Exit->Act->World->Prop}{D:List Deferred}{l2:List Oper}(hK: ∀g s a w,K s->Sim F g s {a with defers:=[]} w->a.defers=D->wpList P ops Q l2 a w):
 ∀(l:List Oper)(s:AState)(g:Gh)(a:Act)(w:World),AOps P ops K l s->Sim F g s {a with defers:=[]} w->a.defers=D->wpList P ops Q (l++l2) a w:=by
 intro l
 induction l with
 |nil=>exact fun s g a w h hs hd=>hK g s a w h hs hd
 |cons o l ih=>
  intro s g a w h hs hd
  have step:AStep P o s (AOps P ops K l)->o.wp P a w (wpList P ops Q (l++l2)) Q:=fun h=>by
   obtain⟨s',h1,h2⟩:=h.ok
   refine wp_dfr (h1 F g _ w hs (fun a' w'=> ∃g',Sim F g' s' a' w') (fun _ _ _=>False) fun g' a' w' hs'=>⟨g',hs'⟩) (fun a' w' ⟨g',hs'⟩=>⟨hs'.defers,?_⟩) (fun _ _ _ h=>h.elim) (fun⟨_,_,h⟩=>h.elim)
   exact ih s' g' _ w' h2 (by
    have:=dfr_id hs'.defers
    show Sim F g' s' {a' with defers:=[]} w'
    rw[this];exact hs') hd
  have skip:AOps P ops K l (s.putO o.dst (.tup []))->wpList P ops Q (l++l2) (a.put o.dst undef) w:=fun h=>by
   obtain⟨g',hs'⟩:=hs.putUndef o.dst
   refine ih _ g' _ w h ?_ (by cases ho:o.dst<;>exact hd)
   have:({(a.put o.dst undef) with defers:=[]}:Act)=({a with defers:=[]}:Act).put o.dst undef:=by cases o.dst<;>rfl
   rw[this];exact hs'
  unfold AOps at h
  rw[List.cons_append]
  unfold wpList
  cases hg:o.guard with
  |none=>
   rw[hg] at h
   rw[if_pos (by simp[Region.wanted,hg])]
   exact .inl (step h)
  |some q=>
   obtain⟨j,want⟩:=q
   rw[hg] at h
   simp only[zEv] at h
   split at h
   ·rename_i d hd'
    have hr:=(hs.tmps d).1
    unfold zGP at h
    split at h
    ·rename_i b hb
     have hb':s.tmps d=.bool b:=hb
     rw[hb'] at hr
     have hv:a.tmps.getD d undef=.bool b:=by
      generalize hh:a.tmps.getD d undef=v at hr ⊢
      have hr:Rep g.imm g.σ (.bool b) v:=hr
      cases hr;rfl
     have hy:=zDU hd' hv
     by_cases hbw:b=want
     ·rw[if_pos (by simp[Region.wanted,hg,hy,hbw])]
      exact .inl (step (h.1 hbw))
     ·rw[if_neg (by simp[Region.wanted,hg,hy,hbw])]
      have hw':b= !want:=by clear h skip step ih hy hv;revert hbw;cases b<;>cases want<;>decide
      exact skip (h.2 hw')
    ·rename_i hb
     have hb':s.tmps d=.tup []:=hb
     rw[hb'] at hr
     have hv:a.tmps.getD d undef=undef:=by
      generalize hh:a.tmps.getD d undef=v at hr ⊢
      have hr:Rep g.imm g.σ (.tup []) v:=hr
      cases hr
      rename_i vs hsz _
      have:vs=#[]:=by simpa using hsz
      subst this;rfl
     have hy:=zDG hd' hv
     rw[if_neg (by simp[Region.wanted,hg,hy])]
     exact skip h
    ·exact h.elim
   ·exact h.elim
def DWp(P:Program)(D:List Deferred)(c:Code)(Q:Exit->AState->Prop)(s:AState):Prop:=
 ∀F g a w,Sim F g s {a with defers:=[]} w->a.defers=D->c.wp P (fun e a' w'=> ∃g' s',Sim F g' s' {a' with defers:=[]} w'∧a'.defers=D∧Q e s') a w
theorem dwp_le{s s':AState}(h:DWp P D c Q s')(hl:s.Le s'):DWp P D c Q s:=fun F g a w hs hd=>by
 obtain⟨g',hs'⟩:=hs.le hl
 exact h F g' a w hs' hd
theorem dwp_seq{x y:Code}(h:DWp P D x (seqK (DWp P D y Q) Q) s):DWp P D (.seq x y) Q s:=fun F g a w hs hd=>by
 refine wp_seq (wp_mono (h F g a w hs hd) fun e a' w' ⟨g',s',h1,h2,h3⟩=>?_)
 cases e with
 |normal=>exact h3 F g' a' w' h1 h2
 |_=>exact⟨g',s',h1,h2,h3⟩
theorem dwp_cond{c:Operand}{x y:Code}{b:Bool}(hc:s.look c=.bool b)(h1:b=true->DWp P D x Q s)(h2:b=false->DWp P D y Q s):
 DWp P D (.cond c x y) Q s:=fun F g a w hs hd=>
 wp_cond_split (t:=b) (by have:=zJh hs hc;cases c<;>exact this) (fun hb=>h1 hb F g a w hs hd) (fun hb=>h2 hb F g a w hs hd)
theorem dwp_block(h:DWp P D c (zIO id Q) s):DWp P D (.block id c) Q s:=fun F g a w hs hd=>by
 refine wp_block (wp_mono (h F g a w hs hd) fun e a' w' ⟨g',s',h1,h2,h3⟩=>?_)
 cases e with
 |exit id'=>
  simp only[Exit.inBlock,zIO] at h3 ⊢
  split
  ·rename_i e;rw[if_pos e] at h3;exact⟨g',s',h1,h2,h3⟩
  ·rename_i e;rw[if_neg e] at h3;exact⟨g',s',h1,h2,h3⟩
 |_=>exact⟨g',s',h1,h2,h3⟩
theorem dwp_ret(h:Q .ret s):DWp P D .ret Q s:=fun F g a w hs hd=>wp_ret ⟨g,s,hs,hd,h⟩
theorem zGi(h:AOps P ops (Q .normal) ops.toList s.fresh):DWp P D (.region id ops false) Q s:=fun F g a w hs hd=>by
 have:=AOps.soundD (P:=P) (ops:=ops) (K:=Q .normal) (F:=F) (D:=D) (l2:=[]) (Q:=fun e a' w'=> ∃g' s',Sim F g' s' {a' with defers:=[]} w'∧a'.defers=D∧Q e s') (fun g s a w hk hs hd=>⟨g,s,hs,hd,hk⟩) ops.toList s.fresh g a w h hs.fresh hd
 rw[List.append_nil] at this
 exact wp_region_list this
def PanT(P:Program)(o:Option Oper)(s:AState)(E:List PanicEntry->AState->Prop):Prop:=
 match o with
 |none=>False
 |some o=>match o.guard with
  |some _=>False
  |none=>match o.op with
   |.call c=>match c.callee with
    |.value x=>match s.look x with
     |.fn (.func f) first captured=> ∃ch bs',RawP P f ch (zA2 s first captured c.args) s.blocks bs'∧E ch (s.called none .top bs')
     |_=>False
    |_=>False
   |_=>False
theorem PanT.sound(h:PanT P (some o) s E)(hs:Sim F g s a w){K:Act->World->Prop}{Q:Exit->Act->World->Prop}
 (hQ: ∀ch g' s' w',E ch s'->Sim F g' s' a w'->Q (.panic ch) a w'):o.guard=none∧o.wp P a w K Q:=by
 simp only[PanT] at h
 split at h
 ·exact h.elim
 rename_i hg
 refine⟨hg,?_⟩
 split at h
 ·rename_i c ho
  split at h
  ·rename_i x hc
   split at h
   ·rename_i f first captured hx
    obtain⟨ch,bs',h1,h2⟩:=h
    have he:=zAT hs x
    rw[hx] at he
    cases hv:a.eval x with
    |func fn fv cv=>
     rw[hv] at he
     cases he with
     |fn _ _ _ _ _ hf hcv rf rc=>
      have hargs:RepL g.imm g.σ (zA2 s first captured c.args) ((fv++c.args.map a.eval)++cv):=RepL.append (RepL.append ⟨hf,rf⟩ (zFs hs c.args)) ⟨hcv,rc⟩
      have hrun:(execOp a.eval o).run P w=.ok (.enter f ((fv++c.args.map a.eval)++cv)) w:=by
       simp only[execOp,ho,Sem.run_bind,resolve,hc,hv,Deferred.ofValue,Sem.run_pure,Result.andThen_ok,invoke,h1.1.run]
      simp only[Oper.wp,hrun,Oper.upon]
      refine(h1.2 _ w _ hs.callee (fun t=>rfl) hs.ext.tg.callee hargs).mono fun e w'=>?_
      rintro⟨g',rfl,h3,h4,h5,_⟩
      exact hQ ch _ _ w' h2 (hs.after h5 h3 h4)
    |_=>rw[hv] at he;cases he
   ·exact h.elim
  ·exact h.elim
 ·exact h.elim
theorem zJj(k:Nat)(h:AOps P ops (fun s'=>PanT P ops[k]? s' fun ch s2=>Q (.panic ch) s2) (ops.toList.take k) s.fresh):DWp P D (.region id ops false) Q s:=fun F g a w hs hd=>by
 refine wp_region_list ?_
 have:=AOps.soundD (F:=F) (D:=D) (l2:=ops.toList.drop k) (Q:=fun e a' w'=> ∃g' s',Sim F g' s' {a' with defers:=[]} w'∧a'.defers=D∧Q e s') (fun g s a w hk hs hd=>by
  cases ho:ops[k]? with
  |none=>rw[ho] at hk;exact hk.elim
  |some o=>
   rw[ho] at hk
   have hlt:k<ops.toList.length:=by simpa using lt_of_getElem? ho
   have hdr:ops.toList.drop k=o::ops.toList.drop (k+1):=by
    rw[List.drop_eq_getElem_cons hlt]
    congr 1
    have:ops.toList[k]? =some o:=by rw[Array.getElem?_toList];exact ho
    rw[zq2 hlt] at this
    exact zqa this
   rw[hdr]
   obtain⟨hg,hw⟩:=hk.sound hs (K:=fun _ _=>False) (Q:=fun e a' w'=>a'={a with defers:=[]}∧∃ch g' s',e=.panic ch∧Sim F g' s' a' w'∧Q e s') (fun ch g' s' w' h1 h2=>⟨rfl,ch,g',s',rfl,h2,h1⟩)
   unfold wpList
   rw[if_pos (by simp[Region.wanted,hg])]
   refine .inl (wp_dfr hw (fun _ _ h=>h.elim) (fun ch a' w' ⟨ha,_,g',s',_,h1,h2⟩=>?_) (fun⟨a',w',_,ch,_,_,h,_⟩=>by cases h))
   subst ha
   exact⟨g',s',h1,hd,h2⟩) (ops.toList.take k) s.fresh g a w h hs.fresh hd
 rwa [List.take_append_drop] at this
theorem WL.assert{l:List Oper}{xt t d:Nat}{v:AV}{fields:Array Field}(hg:o.guard=none)(ho:o.op=.typeAssert x xt t true)(hd:o.dst=some d)
 (hu:P.underlying t=some (.struct fields)) (hx:s.look x=.iface t v) (h:WL P ops Q l (s.put d (.tup [v,.bool true]))):WL P ops Q (o::l) s:=fun F g a w hs=>by
 have he:=zAT hs x
 rw[hx] at he
 cases hv:a.eval x with
 |iface t' u=>
  rw[hv] at he
  cases he with
  |iface _ _ _ he=>
   have hrun:(execOp a.eval o).run P w=.ok (.value (.tuple #[u,.bool true])) w:=by
    simp[execOp,ho,hv,Instr.typeAssert,underlying,hu,Sem.run_bind]
   unfold wpList
   rw[if_pos (by simp[Region.wanted,hg])]
   refine .inl ?_
   simp only[Oper.wp,hrun,Oper.upon,hd]
   refine h F _ _ w (hs.putTmp d none (.tup _ _ rfl fun i y hy=>?_) trivial Floating.none)
   match i,hy with
   |0,hy=>simp at hy;subst hy;exact he
   |1,hy=>simp at hy;subst hy;exact .bool _
 |_=>rw[hv] at he;cases he
attribute [simp] PanT
def inRB(k:IntKind)(n:Int):Bool:=decide (inR k n)
theorem inRB_ok{n:Int}(h:inRB k n=true):Rng k n:=of_decide_eq_true (p:=inR k n) h
def zH6(size:Nat)(l:List (List AV)):Bool:=l.all fun e=>(e.length==size)&&e.all AV.inert
theorem zFv{size:Nat}(h:zH6 size l=true):zE0 size l:=fun e he=>by
 have:=zq8 h e he
 simpa[zq7] using this
def ELB(n:Nat)(l:List (List AV)):Bool:=l.all fun e=>e.length==n
theorem ELB_ok(h:ELB n l=true):EL n l:=fun e he=>by
 have:=zq8 h e he
 simpa using this
def FitsB(b n:Nat):Bool:=decide (0<b)&&decide (n*b<=140737488355328)
theorem zJp{b n:Nat}(h:FitsB b n=true):Fits b n:=by simpa[FitsB,Fits] using h
def InBB(a b:Int)(n:Nat):Bool:=decide (0<=a)&&decide (a<=b)&&decide (b<=n)
theorem InBB_ok{a b:Int}(h:InBB a b n=true):InB a b n:=by simpa[InBB,InB,and_assoc] using h
def sdLoadV(P:Program)(t:TypeId)(cells:List AV):Bool:=
 match zIE P t,P.info? t with
 |some true,some i=>decide (i.size<=cells.length)
 |_,_=>true
theorem zHr{cells:List AV}{c:Prop}{v:AV}(h:loadV P t cells=some (c,v))(hs:sdLoadV P t cells=true):c:=by
 unfold loadV at h;unfold sdLoadV at hs
 split at h
 ·rename_i i h1 h2
  simp only[h1,h2,decide_eq_true_eq] at hs
  simp only[Option.some.injEq,Prod.mk.injEq] at h
  rw[<-h.1];exact hs
 ·split at h
  ·simp only[Option.some.injEq,Prod.mk.injEq] at h
   rw[<-h.1];trivial
  ·cases h
 ·cases h
def sdPart(P:Program)(t:TypeId)(cs:List AV)(off:Nat):Bool:=
 match zIE P t with
 |some false=>match (cs.drop off).take (P.cellsOf t) with
  |[x]=> !x.owns
  |_=>true
 |_=>true
theorem sdPart_ok{cs:List AV}{off:Nat}{c:Prop}{v:AV}(h:partV P t cs off=some (c,v))(hs:sdPart P t cs off=true):c:=by
 unfold partV at h;unfold sdPart at hs
 split at h
 ·rename_i h1
  simp only[h1] at hs
  split at h
  ·rename_i x h2
   simp only[h2,Bool.not_eq_true'] at hs
   simp only[Option.some.injEq,Prod.mk.injEq] at h
   rw[<-h.1];exact hs
  ·cases h
 ·simp only[Option.some.injEq,Prod.mk.injEq] at h
  rw[<-h.1];trivial
 ·cases h
def sdApp(P:Program)(s:AState)(t:TypeId)(t2:TypeId)(x y:Operand):Bool:=
 match P.underlying t,P.underlying t2 with
 |some (.slice e),some d=>match P.info? e with
  |some i=>match i.zero with
   |some z=>match s.takeV x with
    |.e0=>match d,s.look y with
     |.slice _,.msl b ec n=>decide (b<s.blocks.length)&&(ec==i.size)&&decide (n*ec<=(s.blocks.getD b []).length)&&((s.blocks.getD b []).take (n*ec)).all AV.inert&&decide (0<n)&&(z.cells.size==i.size)&&FitsB i.bytes n
     |.slice _,y=>match elems y with
      |some l=>zH6 i.size l&&decide (0<l.length)&&(z.cells.size==i.size)&&FitsB i.bytes l.length
      |none=>false
     |_,_=>false
    |.osq ec l=>match zFO d (s.look y) with
     |some l2=>zH6 i.size l2&&(z.cells.size==i.size)&&FitsB i.bytes (l.length+l2.length)
     |none=>false
    |v=>match zFO d (s.look y),zJT ⟨i.size,e⟩ v with
     |some l2,some l1=>zH6 i.size l2&&(z.cells.size==i.size)&&FitsB i.bytes (l1.length+l2.length)
     |_,_=>false
   |none=>false
  |none=>false
 |_,_=>false
theorem sdApp_ok{ts:Array TypeId}{x y:Operand}{t t2:TypeId}(h0:ts[0]? =some t)(h1:ts[1]? =some t2)(h:zJM P s ts x y=some r)(hs:sdApp P s t t2 x y=true):r.side:=by
 unfold sdApp at hs
 split at hs
 ·rename_i e d hu1 hu2
  split at hs
  ·rename_i i hi
   split at hs
   ·rename_i z hz
    unfold zJM at h
    split at hs
    ·rename_i hx
     simp only[hx,zHy,h0,h1,hu1,hu2,hi,hz] at h
     split at hs
     ·rename_i e' b ec n hy
      simp only[hy,zEm] at h
      split at h
      ·rename_i z' side n' cells hz' hc hl
       simp only[Option.some.injEq] at hz' hc
       subst hz'
       simp only[Prod.mk.injEq] at hc
       obtain⟨rfl,rfl,rfl⟩:=hc
       simp only[Option.some.injEq] at h
       rw[<-h]
       simp only[zq7,decide_eq_true_eq,beq_iff_eq] at hs
       obtain⟨⟨⟨⟨⟨⟨a1,a2⟩,a3⟩,a4⟩,a5⟩,a6⟩,a7⟩:=hs
       exact⟨⟨a1,a2,a3,a4⟩,a5,a6,zJp a7⟩
      ·cases h
     ·rename_i e' y' hy
      split at hs
      ·rename_i l hl
       have hc:zEm s (.slice y') i.size (s.look y)=some (zE0 i.size l,l.length,l.flatten):=by
        unfold zEm
        cases hyv:s.look y with
        |msl b ec n=>exact(hy b ec n hyv).elim
        |_=>rw[hyv] at hl;simp only[hl]
       rw[hc] at h
       split at h
       ·rename_i z' side n' cells hz' hc hl
        simp only[Option.some.injEq] at hz' hc
        subst hz'
        simp only[Prod.mk.injEq] at hc
        obtain⟨rfl,rfl,rfl⟩:=hc
        simp only[Option.some.injEq] at h
        rw[<-h]
        simp only[zq7,decide_eq_true_eq,beq_iff_eq] at hs
        exact⟨zFv hs.1.1.1,hs.1.1.2,hs.1.2,zJp hs.2⟩
       ·cases h
      ·cases hs
     ·cases hs
    ·rename_i ec l hx
     simp only[hx,zHG,h0,h1,hu1,hu2,hi,hz] at h
     split at hs
     ·rename_i l2 hl2
      simp only[hl2,zHY] at h
      split at h
      ·rename_i z' l2' l1 hz' hl2' hl1
       simp only[Option.some.injEq] at hz' hl2' h
       subst hz' hl2'
       split at hl1
       ·simp only[Option.some.injEq] at hl1
        subst hl1
        rw[<-h]
        simp only[zq7,beq_iff_eq] at hs
        exact⟨zFv hs.1.1,hs.1.2,zJp hs.2⟩
       ·cases hl1
      ·cases h
     ·cases hs
    ·rename_i hx1 hx2
     have h':zEX P s ts x y=some r:=by
      split at h
      ·rename_i hx;exact(hx1 hx).elim
      ·rename_i hx;exact(hx2 _ _ hx).elim
      ·exact h
     split at hs
     ·rename_i l2 l1 hl2 hl1
      simp only[zEX,h0,h1,hu1,hu2,hi,hz,hl2,hl1,Option.some.injEq] at h'
      rw[<-h']
      simp only[zq7,beq_iff_eq] at hs
      exact⟨zFv hs.1.1,hs.1.2,zJp hs.2⟩
     ·cases hs
   ·cases hs
  ·cases hs
 ·cases hs
def sdInt(op:BinOp)(k:IntKind)(a b:Int):Bool:=
 match op with
 |.add=>inRB k (a+b)
 |.sub=>inRB k (a-b)
 |.mul=>inRB k (a*b)
 |.quo=> !(b==0)&&inRB k (a.tdiv b)
 |.rem=> !(b==0)&&inRB k (a.tmod b)
 |_=>true
theorem sdInt_ok{op:BinOp}{a b:Int}{c:Prop}{v:AV}(h:intV op k a b=some (c,v))(hs:sdInt op k a b=true):c:=by
 cases op<;>simp[intV,sdInt,cmpV] at h hs<;>(try rw[<-h.1])<;>(try exact inRB_ok hs)<;>(try exact⟨hs.1,inRB_ok hs.2⟩)<;>(try exact h.1)<;>trivial
def sdBn(P:Program)(s:AState)(op:BinOp)(t:TypeId)(x y:Operand):Bool:=
 match s.look y with
 |.nsl=>match elems (s.look x) with
  |some l=> !l.isEmpty
  |none=>true
 |vy=>match s.look x,vy with
  |.int k a,.int _ b=>sdInt op k a b
  |.str a,.str b=>(match op with|.add=>decide (a.length+b.length<=1152921504606846976)|_=>true)
  |_,_=>true
theorem sdBn_ok{op:BinOp}{x y:Operand}(h:resBn P s op t x y=some r)(hs:sdBn P s op t x y=true):r.side:=by
 unfold resBn at h;unfold sdBn at hs
 split at h
 ·rename_i hy
  simp only[hy] at hs
  unfold zHw at h
  split at h
  ·split at h
   ·cases h;trivial
   ·cases h;trivial
   ·cases h
  ·split at h
   ·rename_i l hl
    rw[hl] at hs
    have:l≠[]:=by simpa using hs
    split at h
    ·cases h;exact this
    ·cases h;exact this
    ·cases h
   ·cases h
  ·cases h
 ·unfold zHx at h
  split at h
  ·cases h;trivial
  ·cases h
 ·rename_i hy
  unfold resBin at h
  split at h
  ·rename_i c v hb
   simp only[Option.some.injEq] at h
   rw[<-h]
   unfold binV at hb
   split at hb
   ·rename_i k a k' b hx hy'
    simp only[hx,hy'] at hs
    split at hb
    ·exact sdInt_ok hb hs
    ·cases hb
   ·rename_i a b hx hy'
    simp only[hx,hy'] at hs
    cases op<;>simp[strV] at hb hs<;>(try rw[<-hb.1])<;>(try exact hb.1)<;>(try trivial)<;>exact hs
   ·split at hb<;>simp at hb<;>first|exact hb.1|(rw[<-hb.1];trivial)
   ·split at hb
    ·cases hb
    ·split at hb<;>simp at hb<;>first|exact hb.1|(rw[<-hb.1];trivial)
   ·cases hb
  ·cases h
def sdSlice(P:Program)(s:AState)(t:TypeId)(x:Operand)(lo hi:Option Operand):Bool:=
 match P.underlying t with
 |some .string=>match s.look x with
  |.str l=>match zF3 s 0 lo,zF3 s l.length hi with
   |some a,some b=>InBB a b l.length
   |_,_=>true
  |_=>true
 |some (.slice e)=>match elems (s.look x),P.info? e with
  |some l,some i=>match zF3 s 0 lo,zF3 s l.length hi with
   |some a,some b=>InBB a b l.length&&ELB i.size l
   |_,_=>true
  |_,_=>true
 |_=>true
theorem sdSlice_ok{lo hi:Option Operand}(h:zFC P s t x lo hi=some r)(hs:sdSlice P s t x lo hi=true):r.side:=by
 unfold zFC at h;unfold sdSlice at hs
 split at h
 ·rename_i hu
  simp only[hu] at hs
  split at h
  ·rename_i l hl
   simp only[hl] at hs
   split at h
   ·rename_i a b ha hb
    simp only[ha,hb] at hs
    cases h;exact InBB_ok hs
   ·cases h
  ·cases h
 ·rename_i e hu
  simp only[hu] at hs
  split at h
  ·rename_i l i hl hi'
   simp only[hl,hi'] at hs
   split at h
   ·rename_i a b ha hb
    simp only[ha,hb,zq7] at hs
    cases h;exact⟨InBB_ok hs.1,ELB_ok hs.2⟩
   ·cases h
  ·cases h
 ·cases h
def sdOp(P:Program)(s:AState):Op->Bool
 |.move _|.assign _|.extract _ _|.nilCheck _|.makeInterface _ _|.makeFunc _ _ _=>true
 |.pick c _ _=>isBool (s.look c)
 |.alloc t=>match P.info? t with
  |some i=>match i.zero with
   |some z=>(AV.ofConst z).cells.all AV.plain
   |none=>true
  |none=>true
 |.box _ x=>(s.look x).solid&&((s.look x).cells.map AV.copy).all AV.plain
 |.build t _=>match P.info? t,P.underlying t with
  |some i,some (.struct fields)=>match i.zero with
   |some z=>(AV.ofConst z).solid&&fields.all (fun f=>(P.info? f.type).isSome)
   |none=>true
  |some i,some (.array _ _)=>match i.zero with
   |some z=>(AV.ofConst z).solid
   |none=>true
  |_,_=>true
 |.buildSlice t n parts=>match P.underlying t with
  |some (.slice e)=>match P.info? e with
   |some i=>zH6 i.size (parts.toList.map fun q=>(s.look q.2).norm.cells)&&isR (parts.toList.map (·.1)) 0&&(parts.toList.length==n)&&(parts.toList.all fun q=>(s.look q.2).solid)&&decide (n*i.size<=16777216)&&decide (n<=16777216)
   |none=>true
  |_=>true
 |.makeSlice t l c=>match s.look l,s.look c with
  |.int _ n0,.int _ n=>match P.underlying t with
   |some (.slice e)=>match P.info? e with
    |some i=>match i.zero with
     |some z=>(match l with
      |.const _=>decide (n0=0)&&decide (0<=n)&&decide ((i.bytes:Int)*n<=281474976710656)&&decide (n<=9223372036854775807)
      |_=>decide (0<=n0)&&decide (n0<=n)&&decide (0<i.bytes)&&decide ((i.bytes:Int)*n<=281474976710656)&&decide (n<=9223372036854775807)&&(AV.ofConst z).solid&&(AV.ofConst z).cells.all AV.plain&&((AV.ofConst z).cells.length==i.size))
     |none=>true
    |none=>true
   |_=>true
  |_,_=>true
 |.load t x=>match s.look x with
  |.mptr b o=>decide (b<s.blocks.length)&&sdLoadV P t ((s.blocks.getD b []).drop o)
  |.cptr cells=>sdLoadV P t cells
  |_=>true
 |.store t x y=>match s.ev x,P.info? t with
  |.mptr b o,some i=>
   if (s.takeV y).owns1 then (i.size==1)&&decide (o<(s.blocks.getD b []).length)
   else (s.takeV y).solid&&((s.takeV y).cells.map AV.copy).all AV.one&&((s.takeV y).cells.length==i.size)&&decide (o+i.size<=(s.blocks.getD b []).length)
  |_,_=>true
 |.binOp op t x y _=>sdBn P s op t x y
 |.unOp op _ x=>match op,s.look x with
  |.neg,.int k n=>inRB k (-n)
  |_,_=>true
 |.convert src dst x=>match P.underlying src,P.underlying dst,s.look x with
  |some _,some (.int k),.int k' n=>decide (k=k')||inRB k n
  |some .string,some (.slice _),.str l=>decide (l.length<=281474976710656)
  |some (.slice _),some .string,v=>match elems v with
   |some l=>l.all fun e=>match e with
    |[.int .u8 n]=>decide (0<=n)&&decide (n<=255)
    |_=>false
   |none=>true
  |_,_,_=>true
 |.slice t x lo hi none=>sdSlice P s t x lo hi
 |.slice _ x lo hi (some m)=>zGV (s.look x)&&(match zF3 s 0 lo,zF3 s 1 hi,zF3 s 1 (some m) with
  |some a,some b,some c=>(a==0)&&(b==0)&&(c==0)
  |_,_,_=>true)
 |.fieldAddr t _ f=>match P.underlying t with
  |some (.struct fields)=>match fields[f]? with
   |some fd=>match P.info? fd.type with
    |some i=> !(i.size==0)
    |none=>true
   |none=>true
  |_=>true
 |.indexAddr t x ix=>match P.underlying t,s.look x,s.look ix with
  |some (.slice el),.msl _ ec n,.int _ i=>match P.info? el with
   |some inf=>decide (0<=i)&&decide (i<n)&&(ec==inf.size)
   |none=>true
  |some (.slice el),v,.int _ n=>match elems v,P.info? el with
   |some l,some i=>match l[n.toNat]? with
    |some e=>decide (0<=n)&&(e.length==i.size)
    |none=>true
   |_,_=>true
  |_,_,_=>true
 |.index t x ix=>match s.look x,s.look ix with
  |.agg cs,.int _ n=>match P.underlying t with
   |some (.array m e)=>if arrS P t then decide (0<=n)&&decide (n<m)&&sdPart P e cs (n.toNat*P.cellsOf e)
    else match P.info? e,cs[n.toNat]? with
     |some j,some c=>decide (0<=n)&&(cs.length==m)&&(j.size==1)&& !c.owns
     |_,_=>true
   |_=>true
  |_,.int _ n=>decide (0<=n)
  |_,_=>true
 |.field t x f=>match P.underlying t,s.look x with
  |some (.struct fields),.agg cs=>match fields[f]? with
   |some fd=>sdPart P fd.type cs fd.offset
   |none=>true
  |_,_=>true
 |.call c=>match c.callee,c.args.toList with
  |.builtin .append,[x,y]=>match c.argTypes[0]?,c.argTypes[1]? with
   |some t,some t2=>sdApp P s t t2 x y
   |_,_=>false
  |_,_=>true
 |_=>false
theorem unU_ok(h:(l.all fun e=>match e with|[.int .u8 n]=>decide (0<=n)&&decide (n<=255)|_=>false)=true):l=(unU l).map cU:=by
 induction l with
 |nil=>rfl
 |cons e l ih=>
  simp only[List.all_cons,zq7] at h
  obtain⟨h1,h2⟩:=h
  simp only[unU,List.map_cons] at ih ⊢
  rw[<-ih h2]
  congr 1
  split at h1
  ·rename_i n
   simp only[zq7,decide_eq_true_eq] at h1
   simp only[cU]
   congr 2
   rw[UInt8.toNat_ofNat']
   omega
  ·cases h1
theorem sdOp_ok{op:Op}(h:zFQ P s op=some r)(hs:sdOp P s op=true):r.side:=by
 cases op<;>simp only[zFQ,reduceCtorEq] at h
 case move x=>cases h;trivial
 case assign x=>cases h;trivial
 case pick c x y=>cases h;exact hs
 case alloc t=>
  unfold zFE at h;simp only[sdOp] at hs
  split at h
  ·rename_i i hi
   split at h
   ·rename_i z hz
    simp only[hi,hz] at hs
    cases h;exact hs
   ·cases h
  ·cases h
 case box t x=>
  cases h
  simp only[sdOp,zq7] at hs
  exact hs
 case build t parts=>
  unfold zGF at h;simp only[sdOp] at hs
  split at h
  ·rename_i i fields hi hu
   simp only[hi,hu] at hs
   split at h
   ·rename_i z hz
    simp only[hz,zq7] at hs
    split at h
    ·cases h;exact hs
    ·cases h
   ·cases h
  ·rename_i i m e hi hu
   simp only[hi,hu] at hs
   split at h
   ·rename_i z j hz hj
    simp only[hz] at hs
    split at h
    ·cases h;exact hs
    ·cases h
   ·cases h
  ·cases h
 case buildSlice t n parts=>
  unfold zC0 at h;simp only[sdOp] at hs
  split at h
  ·rename_i e hu
   simp only[hu] at hs
   split at h
   ·rename_i i hi
    simp only[hi,zq7,decide_eq_true_eq,beq_iff_eq] at hs
    split at h
    ·rename_i z hz
     cases h
     obtain⟨⟨⟨⟨⟨h1,h2⟩,h3⟩,h4⟩,h5⟩,h6⟩:=hs
     exact⟨zFv h1,⟨h2,h3⟩,h4,h5,h6⟩
    ·cases h
   ·cases h
  ·cases h
 case makeSlice t l c=>
  unfold resMk at h;simp only[sdOp] at hs
  split at h
  ·rename_i v
   unfold zHt at h
   split at h
   ·rename_i k0 n0 k n hl hc
    simp only[hl,hc] at hs
    split at h
    ·rename_i e hu
     simp only[hu] at hs
     split at h
     ·rename_i i hi
      simp only[hi] at hs
      split at h
      ·rename_i z hz
       simp only[hz,zq7,decide_eq_true_eq] at hs
       cases h
       exact⟨hs.1.1.1,hs.1.1.2,hs.1.2,hs.2⟩
      ·cases h
     ·cases h
    ·cases h
   ·cases h
  ·rename_i hl0
   unfold zGA at h
   split at h
   ·rename_i k0 n0 k n hl hc
    simp only[hl,hc] at hs
    split at h
    ·rename_i e hu
     simp only[hu] at hs
     split at h
     ·rename_i i hi
      simp only[hi] at hs
      split at h
      ·rename_i z hz
       simp only[hz] at hs
       cases h
       cases l with
       |const v=>exact(hl0 v rfl).elim
       |_=>
        simp only[zq7,decide_eq_true_eq,beq_iff_eq] at hs
        obtain⟨⟨⟨⟨⟨⟨⟨h1,h2⟩,h3⟩,h4⟩,h5⟩,h6⟩,h7⟩,h8⟩:=hs
        exact⟨⟨h1,h2,h3,h4,h5⟩,h6,h7,h8⟩
      ·cases h
     ·cases h
    ·cases h
   ·cases h
 case load t x=>
  unfold zF6 at h;simp only[sdOp] at hs
  split at h
  ·rename_i b o hx
   simp only[hx,zq7,decide_eq_true_eq] at hs
   split at h
   ·rename_i c v hv
    cases h;exact⟨hs.1,zHr hv hs.2⟩
   ·cases h
  ·rename_i cells hx
   simp only[hx] at hs
   split at h
   ·rename_i c v hv
    cases h;exact zHr hv hs
   ·cases h
  ·cases h
 case store t x y=>
  unfold zFc at h;simp only[sdOp] at hs
  split at h
  ·rename_i b o i hx hi
   simp only[hx,hi] at hs
   split at h
   ·rename_i ho
    rw[if_pos ho] at hs
    simp only[zq7,decide_eq_true_eq,beq_iff_eq] at hs
    cases h;exact hs
   ·rename_i ho
    rw[if_neg ho] at hs
    simp only[zq7,decide_eq_true_eq,beq_iff_eq] at hs
    cases h;exact⟨hs.1.1.1,hs.1.1.2,hs.1.2,hs.2⟩
  ·cases h
 case nilCheck x=>
  unfold zEE at h
  split at h<;>first|(cases h;trivial)|cases h
 case binOp op t x y t'=>exact sdBn_ok h hs
 case unOp op t x=>
  unfold resUn at h;simp only[sdOp] at hs
  split at h
  ·cases h;trivial
  ·rename_i k n hx
   simp only[hx] at hs
   cases h;exact inRB_ok hs
  ·cases h
 case convert src dst x=>
  unfold zHv at h;simp only[sdOp] at hs
  split at h
  ·rename_i d k k' n hu1 hu2 hx
   simp only[hu1,hu2,hx,Bool.or_eq_true,decide_eq_true_eq] at hs
   cases h
   rcases hs with hs|hs
   ·exact .inl hs
   ·exact .inr (inRB_ok hs)
  ·cases h;trivial
  ·rename_i e l hu1 hu2 hx
   simp only[hu1,hu2,hx,decide_eq_true_eq] at hs
   split at h
   ·cases h;exact hs
   ·cases h
  ·rename_i e v hu1 hu2 _
   split at h
   ·rename_i l _ hl
    simp only[hu1,hu2,hl] at hs
    cases h;exact unU_ok hs
   ·cases h
  ·cases h
 case makeInterface t x=>
  unfold zGC at h
  split at h<;>first|(cases h;trivial)|cases h
 case makeFunc f first captured=>cases h;trivial
 case slice t x lo hi mx=>
  cases mx with
  |none=>exact sdSlice_ok h hs
  |some m=>
   simp only[zFQ] at h
   unfold zFB at h;simp only[sdOp] at hs
   split at h
   ·split at h
    ·split at h
     ·rename_i a b c ha hb hc
      simp only[ha,hb,hc,zq7,beq_iff_eq] at hs
      cases h;exact⟨hs.1,hs.2.1.1,hs.2.1.2,hs.2.2⟩
     ·cases h
    ·cases h
   ·cases h
 case fieldAddr t x f=>
  unfold zDk at h;simp only[sdOp] at hs
  split at h
  ·rename_i fields hu
   simp only[hu] at hs
   split at h
   ·rename_i fd hf
    simp only[hf] at hs
    split at h
    ·rename_i i b o hi hx
     simp only[hi,Bool.not_eq_true',beq_eq_false_iff_ne] at hs
     cases h;exact hs
    ·rename_i i cells hi hx
     simp only[hi,Bool.not_eq_true',beq_eq_false_iff_ne] at hs
     cases h;exact hs
    ·cases h
   ·cases h
  ·cases h
 case indexAddr t x ix=>
  unfold resIx at h;simp only[sdOp] at hs
  split at h
  ·rename_i b ec n hx
   unfold resIxM at h
   split at h
   ·rename_i el b' ec' n' k i hu hx' hix
    simp only[hu,hx',hix] at hs
    split at h
    ·rename_i inf hinf
     simp only[hinf,zq7,decide_eq_true_eq,beq_iff_eq] at hs
     cases h;exact⟨hs.1.1,hs.1.2,hs.2⟩
    ·cases h
   ·cases h
  ·rename_i hne
   unfold zDj at h
   split at h
   ·rename_i el l k n hu hl hix
    split at h
    ·rename_i i e hi he
     have hs':(decide (0<=n)&&(e.length==i.size))=true:=by
      revert hs
      rw[hu,hix]
      cases hx:s.look x<;>simp only[hx,elems,reduceCtorEq,Option.some.injEq] at hl<;>first
       |(subst hl;simp only[elems,hi,he];exact id)
       |(exact(hne _ _ _ hx).elim)
     simp only[zq7,decide_eq_true_eq,beq_iff_eq] at hs'
     cases h;exact hs'
    ·cases h
   ·cases h
 case index t x ix=>
  unfold resIdx at h;simp only[sdOp] at hs
  split at h
  ·rename_i ha
   unfold zFD at h
   split at h
   ·rename_i m e cs k n hu hx hix
    simp only[hu,hx,hix,ha,if_true] at hs
    split at h
    ·rename_i j c z hj hz
     simp only[zq7,decide_eq_true_eq] at hs
     cases h;exact⟨⟨hs.1.1,hs.1.2⟩,sdPart_ok hz hs.2⟩
    ·cases h
   ·cases h
  ·rename_i ha
   unfold zGB at h
   split at h
   ·rename_i l k n hu hx hix
    simp only[hx,hix,decide_eq_true_eq] at hs
    split at h
    ·cases h;exact hs
    ·cases h
   ·rename_i m e cs k n hu hx hix
    simp only[hu,hx,hix,ha,Bool.false_eq_true,if_false] at hs
    split at h
    ·rename_i j c hb hj hc
     simp only[hj,hc,zq7,decide_eq_true_eq,beq_iff_eq,Bool.not_eq_true'] at hs
     cases h;exact⟨hs.1.1.1,hs.1.1.2,hs.1.2,hs.2⟩
    ·cases h
   ·cases h
 case field t x f=>
  unfold zGD at h;simp only[sdOp] at hs
  split at h
  ·rename_i fields cs hu hx
   simp only[hu,hx] at hs
   split at h
   ·rename_i fd hf
    simp only[hf] at hs
    split at h
    ·rename_i c z hz
     cases h;exact sdPart_ok hz hs
    ·cases h
   ·cases h
  ·cases h
 case extract x i=>
  unfold zCN at h
  split at h
  ·split at h
   ·cases h;trivial
   ·cases h
  ·cases h
 case call c=>
  obtain⟨callee,args,argTypes⟩:=c
  cases callee with
  |builtin b=>
   simp only[zDK] at h
   split at h
   ·rename_i x hx
    unfold resLn at h
    split at h
    ·unfold zHu at h
     split at h
     ·split at h<;>first|(cases h;trivial)|cases h
     ·cases h
    ·unfold resLen at h
     split at h
     ·split at h
      ·cases h;trivial
      ·split at h<;>first|(cases h;trivial)|cases h
      ·cases h
     ·cases h
   ·rename_i x y hx
    simp only[sdOp,hx] at hs
    split at hs
    ·rename_i t t2 h0 h1
     exact sdApp_ok h0 h1 h hs
    ·cases hs
   ·rename_i x y hx
    unfold resMM at h
    split at h
    ·split at h<;>first|(cases h;trivial)|cases h
    ·cases h
   ·rename_i x y hx
    unfold resMM at h
    split at h
    ·split at h<;>first|(cases h;trivial)|cases h
    ·cases h
   ·rename_i x y z hx
    unfold resM3 at h
    split at h
    ·split at h<;>first|(cases h;trivial)|cases h
    ·cases h
   ·cases h
  |value x=>simp at h
  |invoke x m=>simp at h
def ckOp(P:Program)(s:AState)(op:Op):Option Res:=if sdOp P s op then zFQ P s op else none
theorem ckOp_ok{op:Op}(h:ckOp P s op=some r):zFQ P s op=some r∧r.side:=by
 unfold ckOp at h
 split at h
 ·rename_i hs
  exact⟨h,sdOp_ok h hs⟩
 ·cases h
def sdKeys(P:Program)(key:TypeId)(k:AV)(ks:List AV):Bool:=match P.underlying key with
 |some d=>keyD d k&&ks.all (keyD d)
 |none=>false
def sdMap(P:Program)(s:AState):Op->Bool
 |.makeMap _ _=>true
 |.lookup t x i _=>match P.underlying t,s.takeV x with
  |some (.map key _),.omp ks _=>sdKeys P key (s.look i) ks
  |_,_=>false
 |.mapUpdate t x i v|.insert t x i v=>match P.underlying t,x with
  |some (.map key _),.tmp tx=>match s.owner tx with
   |some p=>match s.at p with
    |.omp ks _=>sdKeys P key (s.look i) ks&&(s.look v).flat
    |_=>false
   |none=>false
  |_,_=>false
 |_=>false
theorem sdMap_up{x i v:Operand}(h:zCD P s t x i v=some r)(hs:sdMap P s (.mapUpdate t x i v)=true):r.side:=by
 unfold zCD at h
 split at h
 ·rename_i key elem tx hu
  split at h
  ·rename_i p hp
   split at h
   ·rename_i ks vs d hat hd
    cases h
    simp only[sdMap,hu,hp,hat,sdKeys,hd,zq7] at hs
    exact⟨hs.1.1,hs.1.2,hs.2⟩
   ·cases h
  ·cases h
 ·cases h
theorem sdMap_ok{op:Op}(h:mapOp P s op=some r)(hs:sdMap P s op=true):r.side:=by
 unfold mapOp at h
 split at h
 ·cases h;trivial
 ·unfold zEp at h
  split at h
  ·rename_i key elem ks vs hu htake
   split at h
   ·rename_i d inf hd hinf
    split at h
    ·rename_i z hz
     cases h
     simp only[sdMap,hu,htake,sdKeys,hd,zq7] at hs
     exact hs
    ·cases h
   ·cases h
  ·cases h
 ·exact sdMap_up h hs
 ·exact sdMap_up h hs
 ·cases h
def ckMap(P:Program)(s:AState)(op:Op):Option Res:=if sdMap P s op then mapOp P s op else none
theorem ckMap_ok{op:Op}(h:ckMap P s op=some r):mapOp P s op=some r∧r.side:=by
 unfold ckMap at h
 split at h
 ·rename_i hh;exact⟨h,sdMap_ok h hh⟩
 ·cases h
def isMap:Op->Bool
 |.makeMap ..|.lookup ..|.mapUpdate ..|.insert ..=>true
 |_=>false
inductive CR where
 |pure (res:AV)
 |raw (res:AV) (bs:List (List AV)) (ρ:List Nat)
mutual
def AV.same:AV->AV->Bool
 |.int k a,.int k' b=>decide (k=k')&&a==b
 |.bool a,.bool b=>a==b
 |.str a,.str b=>a==b
 |.nilp,.nilp=>true
 |.mptr b o,.mptr b' o'=>b==b'&&o==o'
 |.baddr t b,.baddr t' b'=>t==t'&&b==b'
 |.cptr l,.cptr l'=>AV.sameL l l'
 |.nsl,.nsl=>true
 |.osl ⟨n,t⟩ l,.osl ⟨n',t'⟩ l'=>n==n'&&(t==t'&&AV.sameLL l l')
 |.sl l,.sl l'=>AV.sameLL l l'
 |.nilfn,.nilfn=>true
 |.iface t v,.iface t' v'=>t==t'&&v.same v'
 |.nilif,.nilif=>true
 |.agg l,.agg l'=>AV.sameL l l'
 |.tup l,.tup l'=>AV.sameL l l'
 |_,_=>false
def AV.sameL:List AV->List AV->Bool
 |[],[]=>true
 |x::l,y::l'=>x.same y&&AV.sameL l l'
 |_,_=>false
def AV.sameLL:List (List AV)->List (List AV)->Bool
 |[],[]=>true
 |x::l,y::l'=>AV.sameL x y&&AV.sameLL l l'
 |_,_=>false
end
mutual
theorem AV.same_ok: ∀x y:AV,x.same y=true->x=y
 |.int k a,y,h=>by cases y<;>simp_all [AV.same]
 |.bool a,y,h=>by cases y<;>simp_all [AV.same]
 |.str a,y,h=>by cases y<;>simp_all [AV.same]
 |.nilp,y,h=>by cases y<;>simp_all [AV.same]
 |.mptr b o,y,h=>by cases y<;>simp_all [AV.same]
 |.baddr t b,y,h=>by cases y<;>simp_all [AV.same]
 |.cptr l,y,h=>by cases y<;>simp[AV.same] at h;rw[AV.sameL_ok _ _ h]
 |.nsl,y,h=>by cases y<;>simp_all [AV.same]
 |.osl ⟨n,t⟩ l,y,h=>by
  cases y<;>simp[AV.same] at h
  rename_i e l'
  obtain⟨n',t'⟩:=e
  simp[AV.same] at h
  rw[h.1,h.2.1,AV.sameLL_ok _ _ h.2.2]
 |.sl l,y,h=>by cases y<;>simp[AV.same] at h;rw[AV.sameLL_ok _ _ h]
 |.nilfn,y,h=>by cases y<;>simp_all [AV.same]
 |.iface t v,y,h=>by
  cases y<;>simp[AV.same] at h
  rw[h.1,AV.same_ok _ _ h.2]
 |.nilif,y,h=>by cases y<;>simp_all [AV.same]
 |.agg l,y,h=>by cases y<;>simp[AV.same] at h;rw[AV.sameL_ok _ _ h]
 |.tup l,y,h=>by cases y<;>simp[AV.same] at h;rw[AV.sameL_ok _ _ h]
 |.osq _ _,y,h=>by cases y<;>simp[AV.same] at h
 |.fn _ _ _,y,h=>by cases y<;>simp[AV.same] at h
 |.msl _ _ _,y,h=>by cases y<;>simp[AV.same] at h
 |.e0,y,h=>by cases y<;>simp[AV.same] at h
 |.omp _ _,y,h=>by cases y<;>simp[AV.same] at h
 |.mpx,y,h=>by cases y<;>simp[AV.same] at h
 |.otup _ _ _,y,h=>by cases y<;>simp[AV.same] at h
 |.top,y,h=>by cases y<;>simp[AV.same] at h
theorem AV.sameL_ok: ∀x y:List AV,AV.sameL x y=true->x=y
 |[],y,h=>by cases y<;>simp_all [AV.sameL]
 |x::l,y,h=>by
  cases y<;>simp[AV.sameL] at h
  rw[AV.same_ok _ _ h.1,AV.sameL_ok _ _ h.2]
theorem AV.sameLL_ok: ∀x y:List (List AV),AV.sameLL x y=true->x=y
 |[],y,h=>by cases y<;>simp_all [AV.sameLL]
 |x::l,y,h=>by
  cases y<;>simp[AV.sameLL] at h
  rw[AV.sameL_ok _ _ h.1,AV.sameLL_ok _ _ h.2]
end
def bothC(x y:Option CR):Option CR:=
 match x,y with
 |some (.pure r),some (.pure r')=>if r.same r' then some (.pure r) else none
 |some (.raw r bs ρ),some (.raw r' bs' ρ')=>if r.same r'&&(AV.sameLL bs bs'&&ρ==ρ') then some (.raw r bs ρ) else none
 |_,_=>none
theorem bothC_ok{x y:Option CR}{z:CR}(h:bothC x y=some z):x=some z∧y=some z:=by
 unfold bothC at h
 split at h
 ·split at h
  ·rename_i hs
   cases h
   exact⟨rfl,by rw[AV.same_ok _ _ hs]⟩
  ·cases h
 ·split at h
  ·rename_i hs
   simp only[zq7,beq_iff_eq] at hs
   cases h
   exact⟨rfl,by rw[AV.same_ok _ _ hs.1,AV.sameLL_ok _ _ hs.2.1,hs.2.2]⟩
  ·cases h
 ·cases h
abbrev Calling:=FuncId->List AV->List (List AV)->Option CR
def zC5(P:Program)(ce:Calling):Prop:=
 (∀f args bs res,ce f args bs=some (.pure res)->Pure P f args res∧AV.flatL args=true∧res.owns=false)∧
 (∀f args bs res bs' ρ,ce f args bs=some (.raw res bs' ρ)->RawK P f args bs res bs' (fun b=>b∉ρ)∧res.owns=false∧(∀b,b∉ρ->b<bs.length->bs'[b]? =bs[b]?)∧(zE5 ρ [res] bs'=true->bs'.length=bs.length->∀zs,RawK P f args (bs++zs) res (bs'++zs) (fun b=>b∉ρ)))
def hasNil(args:List AV):Bool:=args.any fun x=>match x with
 |.nsl=>true
 |_=>false
def call0(ce:Calling)(f:FuncId)(s:AState)(first captured:List AV)(args:Array Operand):Option AV:=
 if hasNil (zCm s first captured args) then match ce f (zCm s first captured args) s.blocks with
  |some (.pure r)=>some r
  |_=>none
 else none
theorem call0_ok{ce:Calling}(hce:zC5 P ce){first captured:List AV}{args:Array Operand}{r:AV}(h:call0 ce f s first captured args=some r):
 Pure P f (zCm s first captured args) r∧AV.flatL (zCm s first captured args)=true∧r.owns=false:=by
 unfold call0 at h
 split at h
 ·split at h
  ·rename_i hr
   cases h
   exact hce.1 _ _ _ _ hr
  ·cases h
 ·cases h
def stepE(P:Program)(ce:Calling)(o:Oper)(s:AState):Option AState:=
 match o.op with
 |.call c=>match c.callee with
  |.value x=>match s.look x with
   |.fn (.func f) first captured=>match call0 ce f s first captured c.args with
    |some r=>some (s.putO o.dst r)
    |none=>match ce f (zA2 s first captured c.args) s.blocks with
     |some (.pure r)=>some (s.putO o.dst r)
     |some (.raw r bs' ρ)=>some (s.calledK ρ o.dst r bs')
     |none=>none
   |_=>none
  |.builtin _=>match ckOp P s o.op with
   |some r=>some (s.putR o.dst r)
   |none=>none
  |_=>none
 |.slice _ x (some _) none none=>match s.takeV x with
  |.osq _ _=>none
  |_=>match ckOp P s o.op with
   |some r=>some (s.putR o.dst r)
   |none=>none
 |op=>if isMap op then match ckMap P s o.op with
  |some r=>some (s.putR o.dst r)
  |none=>none
  else match ckOp P s o.op with
   |some r=>some (s.putR o.dst r)
   |none=>none
theorem stepE_ok{ce:Calling}(hce:zC5 P ce){s s':AState}(h:stepE P ce o s=some s'):zHA P o s s':=by
 have ck: ∀{x:Option AState},(match ckOp P s o.op with|some r=>some (s.putR o.dst r)|none=>none)=some s'->zHA P o s s':=fun {x} h=>by
  split at h
  ·rename_i r hr
   obtain⟨h1,h2⟩:=ckOp_ok hr
   simp only[Option.some.injEq] at h
   rw[<-h];exact(zJn h1 h2).step
  ·cases h
 unfold stepE at h
 split at h
 ·rename_i c ho
  split at h
  ·rename_i x hc
   split at h
   ·rename_i f first captured hx
    split at h
    ·rename_i r hr
     simp only[Option.some.injEq] at h
     obtain⟨h1,h2,h3⟩:=call0_ok hce hr
     rw[<-h];exact zHO ho hc hx h1 h2 h3
    split at h
    ·rename_i r hr
     simp only[Option.some.injEq] at h
     obtain⟨h1,h2,h3⟩:=hce.1 _ _ _ _ hr
     rw[<-h];exact zFI ho hc hx h1 h2 h3
    ·rename_i r bs' ρ hr
     simp only[Option.some.injEq] at h
     obtain⟨h1,h2,_⟩:=hce.2 _ _ _ _ _ _ hr
     rw[<-h];exact ok_callK ho hc hx h1 h2
    ·cases h
   ·cases h
  ·exact ck (x:=none) h
  ·cases h
 ·split at h
  ·cases h
  ·exact ck (x:=none) h
 ·split at h
  ·split at h
   ·rename_i r hr
    obtain⟨h1,h2⟩:=ckMap_ok hr
    simp only[Option.some.injEq] at h
    rw[<-h];exact(mapOp_ok h1 h2).step
   ·cases h
  ·exact ck (x:=none) h
def guardE(ops:Array Oper)(s:AState):Option (Nat×Bool)->Option Bool
 |none=>some true
 |some (j,want)=>match (ops[j]?).bind (·.dst) with
  |some d=>match s.get d with
   |.bool b=>some (b==want)
   |.tup []=>some false
   |_=>none
  |none=>none
def AState.re{α:Type}(s:AState)(n b:Nat)(K:AState->Option α):Option α:=if s.n=n∧s.base=b then K ⟨s.tmps,s.loans,n,b,s.blocks⟩ else none
theorem re_ok{n b:Nat}{K:AState->Option α}{x:α}(h:s.re n b K=some x):K s=some x:=by
 unfold AState.re at h
 split at h
 ·rename_i hh
  obtain⟨rfl,rfl⟩:=hh
  exact h
 ·cases h
def isAsk(P:Program)(s:AState):Op->Bool
 |.binOp op t x y _=>(match op with
  |.eql|.neq=>true
  |_=>false)&&(match P.underlying t,s.look x,s.look y with
  |some (.slice _),.sl [],.nsl=>true
  |some (.slice _),.nsl,.nsl=>true
  |_,_,_=>false)
 |_=>false
def goE(P:Program)(ce:Calling)(n b:Nat)(o:Oper)(s:AState)(K:AState->Option CR):Option CR:=
 match stepE P ce o s with
 |some s1=>s1.re n b K
 |none=>if isAsk P s o.op then bothC ((s.putO o.dst (.bool true)).re n b K) ((s.putO o.dst (.bool false)).re n b K) else none
def opsE(P:Program)(ce:Calling)(n b:Nat)(ops:Array Oper):List Oper->AState->(AState->Option CR)->Option CR
 |[],s,K=>K s
 |o::l,s,K=>match guardE ops s o.guard with
  |some true=>goE P ce n b o s fun s2=>opsE P ce n b ops l s2 K
  |some false=>(s.putO o.dst (.tup [])).re n b fun s2=>opsE P ce n b ops l s2 K
  |none=>none
theorem ask_ok(h:isAsk P s o.op=true)(hs:Sim F g s a w): ∃b,(execOp a.eval o).run P w=.ok (.value (.bool b)) w:=by
 unfold isAsk at h
 split at h
 ·rename_i op t x y t' ho
  rw[zq7] at h
  obtain⟨h1,h2⟩:=h
  have hp: ∃e base cap,P.underlying t=some (.slice e)∧a.eval x=.slice base 0 cap∧a.eval y=.slice none 0 0:=by
   have hxr:=zAT hs x
   have hyr:=zAT hs y
   split at h2
   ·rename_i e hu hx hy
    rw[hx] at hxr;rw[hy] at hyr
    have hyv:a.eval y=.slice none 0 0:=by generalize a.eval y=z at hyr;cases hyr;rfl
    have hxv: ∃base cap,a.eval x=.slice base 0 cap:=by
     generalize a.eval x=z at hxr
     cases hxr with
     |sl0=>exact⟨none,0,rfl⟩
     |sl ec l a' n cap vs hn _ _ _ _ _=>
      simp only[List.length_nil] at hn
      subst hn
      exact⟨some a',cap,rfl⟩
    obtain⟨base,cap,hxv⟩:=hxv
    exact⟨e,base,cap,hu,hxv,hyv⟩
   ·rename_i e hu hx hy
    rw[hx] at hxr;rw[hy] at hyr
    exact⟨e,none,0,hu,by generalize a.eval x=z at hxr;cases hxr;rfl,by generalize a.eval y=z at hyr;cases hyr;rfl⟩
   ·cases h2
  obtain⟨e,base,cap,hu,hxv,hyv⟩:=hp
  ·clear h2
   have hg:(eqGuard op t x y (.slice base 0 cap) (.slice none 0 0)).run P w=.ok () w:=by unfold eqGuard;split<;>simp
   have he: ∃b,(Op.equal t (.slice base 0 cap) (.slice none 0 0)).run P w=.ok b w:=by
    show∃b,(Op.equalIn 10000 t (.slice base 0 cap) (.slice none 0 0)).run P w=_
    unfold Op.equalIn
    cases base<;>simp[underlying,hu]
   obtain⟨b,he⟩:=he
   cases op<;>simp only[Bool.false_eq_true] at h1
   ·exact⟨b,by simp[execOp,ho,hxv,hyv,hg,binOp,he]⟩
   ·exact⟨!b,by simp[execOp,ho,hxv,hyv,hg,binOp,he]⟩
 ·cases h
theorem goE_ok{ce:Calling}(hce:zC5 P ce){n b:Nat}{K:AState->Option CR}{x:CR}(h:goE P ce n b o s K=some x)(hs:Sim F g s a w)
 {K':Act->World->Prop} {Q:Exit->Act->World->Prop} (hK: ∀s1 g a w,K s1=some x->Sim F g s1 a w->K' a w):o.wp P a w K' Q:=by
 unfold goE at h
 split at h
 ·rename_i s1 h1
  exact stepE_ok hce h1 F g a w hs _ Q fun g' a' w' hs'=>hK s1 g' a' w' (re_ok h) hs'
 ·split at h
  ·rename_i hask
   obtain⟨h1,h2⟩:=bothC_ok h
   obtain⟨v,hrun⟩:=ask_ok hask hs
   simp only[Oper.wp,hrun,Oper.upon]
   have hput: ∃g',Sim F g' (s.putO o.dst (.bool v)) (a.put o.dst (.bool v)) w:=by
    cases hd:o.dst with
    |none=>exact⟨g,by simpa[AState.putO,Act.put] using hs⟩
    |some d=>exact⟨_,hs.putTmp d none (x:=.bool v) (v:=.bool v) (.bool v) trivial Floating.none⟩
   obtain⟨g',hs'⟩:=hput
   cases v with
   |true=>exact hK _ g' _ w (re_ok h1) hs'
   |false=>exact hK _ g' _ w (re_ok h2) hs'
  ·cases h
theorem opsE_ok{ce:Calling}(hce:zC5 P ce){n b:Nat}{Q:Exit->Act->World->Prop}{K:AState->Option CR}{x:CR}(hK: ∀s' g a w,K s'=some x->Sim F g s' a w->Q .normal a w):
 ∀(l:List Oper)(s:AState)(g:Gh)(a:Act)(w:World),opsE P ce n b ops l s K=some x->Sim F g s a w->wpList P ops Q l a w:=by
 intro l
 induction l with
 |nil=>intro s g a w h hs;exact hK s g a w h hs
 |cons o l ih=>
  intro s g a w h hs
  have step:(goE P ce n b o s fun s2=>opsE P ce n b ops l s2 K)=some x->o.wp P a w (wpList P ops Q l) Q:=fun h=>goE_ok hce h hs fun s1 g' a' w' h1 hs'=>ih s1 g' a' w' h1 hs'
  have skip:((s.putO o.dst (.tup [])).re n b fun s2=>opsE P ce n b ops l s2 K)=some x->wpList P ops Q l (a.put o.dst undef) w:=fun h=>by
   obtain⟨g',hs'⟩:=hs.putUndef o.dst
   exact ih _ g' _ w (re_ok h) hs'
  unfold opsE at h
  unfold wpList
  cases hg:o.guard with
  |none=>
   rw[hg] at h;simp only[guardE] at h
   rw[if_pos (by simp[Region.wanted,hg])]
   exact .inl (step h)
  |some q=>
   obtain⟨j,want⟩:=q
   rw[hg] at h
   cases hge:guardE ops s (some (j,want)) with
   |none=>rw[hge] at h;cases h
   |some way=>
    rw[hge] at h
    simp only[guardE] at hge
    split at hge
    ·rename_i d hd
     have hr:=(hs.tmps d).1
     split at hge
     ·rename_i c hc
      have hc':s.tmps d=.bool c:=hc
      rw[hc'] at hr
      have hv:a.tmps.getD d undef=.bool c:=by cases hh:a.tmps.getD d undef<;>rw[hh] at hr<;>cases hr;rfl
      have hy:=zDU hd hv
      simp only[Option.some.injEq] at hge
      subst hge
      by_cases hcw:c=want
      ·rw[if_pos (by simp[Region.wanted,hg,hy,hcw])]
       have e:(c==want)=true:=by simp[hcw]
       rw[e] at h
       exact .inl (step h)
      ·rw[if_neg (by simp[Region.wanted,hg,hy,hcw])]
       have e:(c==want)=false:=by simp[hcw]
       rw[e] at h
       exact skip h
     ·rename_i hc
      have hc':s.tmps d=.tup []:=hc
      rw[hc'] at hr
      have hv:a.tmps.getD d undef=undef:=by
       cases hh:a.tmps.getD d undef<;>rw[hh] at hr<;>cases hr
       rename_i vs hsz _
       have:vs=#[]:=by simpa using hsz
       subst this;rfl
      have hy:=zDG hd hv
      simp only[Option.some.injEq] at hge
      subst hge
      rw[if_neg (by simp[Region.wanted,hg,hy])]
      exact skip h
     ·cases hge
    ·cases hge
structure Acc where
 tg:List Nat
 ld:List Nat
 bad:Bool
 raw:Bool
def tgs(s:AState):Op->List Nat
 |.store _ x _=>match s.ev x with
  |.mptr b _=>[b]
  |_=>[]
 |.call c=>match c.args.toList with
  |[.tmp t,_]=>match s.owner t with
   |some (.cell b _)=>[b]
   |_=>[]
  |_=>[]
 |_=>[]
def lds(s:AState):Op->List Nat
 |.load _ x=>match s.look x with
  |.mptr b _=>[b]
  |_=>[]
 |_=>[]
def badOp(s:AState):Op->Bool
 |.store _ x y=>(match s.ev x with
  |.mptr _ _=>false
  |_=>true)||(match y with
  |.tmp t=> !(s.owner t).isNone
  |_=>false)
 |.assign x=>match x with
  |.tmp t=> !(s.owner t).isNone
  |_=>false
 |.call c=>match c.args.toList with
  |[x,_]=>isE0 (s.takeV x)||(match x with
   |.tmp t=>(match s.owner t with
    |some (.tmp u)=> !(u==t)
    |_=>false)
   |_=>false)
  |_=>false
 |_=>false
def Acc.add(s:AState)(op:Op)(a:Acc):Acc:=⟨tgs s op++a.tg,lds s op++a.ld,badOp s op||a.bad,a.raw⟩
def Acc.addK(ρ:List Nat)(a:Acc):Acc:=⟨ρ++a.tg,a.ld,a.bad,true⟩
def Acc.Ok(B:List Nat)(a:Acc):Prop:=(B=[]∧a.raw=false)∨(B≠[]∧(a.bad=false∧B.contains 995=false)∧(∀b,b∈a.tg->b∈B)∧∀b,b∈a.ld->b∉B)
theorem Acc.add_ok{op:Op}{a:Acc}(h:(a.add s op).Ok B):Gd B s op∧a.Ok B:=by
 rcases h with ⟨rfl,h⟩|⟨hB,⟨hbad,h995⟩,htg,hld⟩
 ·exact⟨by cases op<;>simp[Gd],.inl ⟨rfl,h⟩⟩
 ·simp only[Acc.add,Bool.or_eq_false_iff] at hbad
  refine⟨?_,.inr ⟨hB,⟨hbad.2,h995⟩,fun b hb=>htg b (List.mem_append_right _ hb),fun b hb=>hld b (List.mem_append_right _ hb)⟩⟩
  cases op<;>simp only[Gd]
  case store t x y=>
   obtain⟨h1,_⟩:=hbad
   simp only[badOp,Bool.or_eq_false_iff] at h1
   refine .inr ⟨?_,fun t ht=>?_⟩
   ·have h2:=h1.1
    split at h2
    ·rename_i b off hx
     exact⟨b,off,hx,htg b (List.mem_append_left _ (by simp only[tgs,hx,List.mem_singleton]))⟩
    ·cases h2
   ·have h2:=h1.2
    subst ht
    simp only[Bool.not_eq_false'] at h2
    exact Option.isNone_iff_eq_none.1 h2
  case load t x=>
   refine .inr (.inl fun b off hx=>hld b (List.mem_append_left _ (by simp only[lds,hx,List.mem_singleton])))
  case call c=>
   obtain⟨h1,_⟩:=hbad
   refine .inr (.inr ?_)
   unfold gdA
   split
   ·rename_i x y hl
    simp only[badOp,hl,Bool.or_eq_false_iff] at h1
    rw[h1.1]
    have h2:=h1.2
    cases x with
    |tmp t=>
     simp only[ownIn]
     simp only at h2
     split
     ·rename_i b o' how
      have:=htg b (List.mem_append_left _ (by simp only[tgs,hl,how,List.mem_singleton]))
      simp[this]
     ·rename_i u how
      rw[how] at h2
      simpa using h2
     ·rfl
    |_=>rfl
   ·rfl
  case assign x=>
   obtain⟨h1,_⟩:=hbad
   refine .inr ?_
   cases x with
   |tmp t=>
    simp only[badOp,Bool.not_eq_false'] at h1
    simp only[asgOk,Option.isNone_iff_eq_none.1 h1]
   |_=>rfl
theorem Acc.addK_ok{B ρ:List Nat}{a:Acc}(h:(a.addK ρ).Ok B):B≠[]∧B.contains 995=false∧(∀b,b∈ρ->b∈B)∧a.Ok B:=by
 rcases h with ⟨_,h⟩|⟨hB,hbad,htg,hld⟩
 ·cases h
 ·exact⟨hB,hbad.2,fun b hb=>htg b (List.mem_append_left _ hb),.inr ⟨hB,hbad,fun b hb=>htg b (List.mem_append_right _ hb),hld⟩⟩
def stepY(P:Program)(ce:Calling)(o:Oper)(s:AState)(a:Acc):Option (AState×Acc):=
 match o.op with
 |.call c=>match c.callee with
  |.value x=>match s.look x with
   |.fn (.func f) first captured=>match ce f (zA2 s first captured c.args) s.blocks with
    |some (.pure r)=>some (s.putO o.dst r,a)
    |some (.raw r bs' ρ)=>if bs'.length==s.blocks.length&&zE5 ρ [r] bs' then some (s.calledK ρ o.dst r bs',a.addK ρ) else none
    |none=>none
   |_=>none
  |.builtin _=>match ckOp P s o.op with
   |some r=>some (s.putR o.dst r,a.add s o.op)
   |none=>none
  |_=>none
 |_=>match ckOp P s o.op with
  |some r=>some (s.putR o.dst r,a.add s o.op)
  |none=>none
theorem stepY_ok{ce:Calling}(hce:zC5 P ce){s s':AState}{a a':Acc}(h:stepY P ce o s a=some (s',a'))(hB:a'.Ok B):StepD P B o s s'∧a.Ok B:=by
 have ck:(match ckOp P s o.op with|some r=>some (s.putR o.dst r,a.add s o.op)|none=>none)=some (s',a')->StepD P B o s s'∧a.Ok B:=fun h=>by
  split at h
  ·rename_i r hr
   obtain⟨h1,h2⟩:=ckOp_ok hr
   simp only[Option.some.injEq,Prod.mk.injEq] at h
   obtain⟨rfl,rfl⟩:=h
   obtain⟨h3,h4⟩:=Acc.add_ok hB
   exact⟨.inr (.inl ⟨r,h1,h2,h3,rfl⟩),h4⟩
  ·cases h
 unfold stepY at h
 split at h
 ·rename_i c ho
  split at h
  ·rename_i x hc
   split at h
   ·rename_i f first captured hx
    split at h
    ·rename_i r hr
     simp only[Option.some.injEq,Prod.mk.injEq] at h
     obtain⟨rfl,rfl⟩:=h
     obtain⟨h1,h2,h3⟩:=hce.1 _ _ _ _ hr
     exact⟨.inl ⟨c,x,f,first,captured,r,ho,hc,hx,h1,h2,h3,rfl⟩,hB⟩
    ·rename_i r bs' ρ hr
     split at h
     ·rename_i hl
      simp only[zq7,beq_iff_eq] at hl
      obtain⟨hl,hcl⟩:=hl
      simp only[Option.some.injEq,Prod.mk.injEq] at h
      obtain⟨rfl,rfl⟩:=h
      obtain⟨hne,h995,hρ,ha⟩:=Acc.addK_ok hB
      obtain⟨h1,h2,h3,h4⟩:=hce.2 _ _ _ _ _ _ hr
      refine⟨.inr (.inr (.inl ⟨hne,c,x,f,first,captured,r,bs',ρ,ho,hc,hx,h4 hcl hl,h2,hρ,hl,fun b hb=>?_,fun h=>absurd h (by rw[h995];decide),rfl⟩)),ha⟩
      rcases Nat.lt_or_ge b s.blocks.length with hlt|hge
      ·rw[zq5,h3 b hb hlt,<-zq5]
      ·rw[zq5,zq5,List.getElem?_eq_none (by omega),List.getElem?_eq_none hge]
     ·cases h
    ·cases h
   ·cases h
  ·exact ck h
  ·cases h
 ·exact ck h
def stepX(P:Program)(ce:Calling)(o:Oper)(s:AState):Option AState:=
 match o.guard with
 |none=>match o.op with
  |.call c=>match c.callee with
   |.value x=>match s.look x with
    |.fn (.func f) first captured=>match call0 ce f s first captured c.args with
     |some r=>some (s.putO o.dst r)
     |none=>match ce f (zA2 s first captured c.args) s.blocks with
      |some (.pure r)=>some (s.putO o.dst r)
      |some (.raw r bs' ρ)=>some (s.calledK ρ o.dst r bs')
      |none=>none
    |_=>none
   |.builtin _=>match ckOp P s o.op with
    |some r=>some (s.putR o.dst r)
    |none=>none
   |_=>none
  |op=>if isMap op then match ckMap P s o.op with
   |some r=>some (s.putR o.dst r)
   |none=>none
   else match ckOp P s o.op with
    |some r=>some (s.putR o.dst r)
    |none=>none
 |some _=>none
theorem stepX_ok{ce:Calling}(hce:zC5 P ce){s s':AState}(h:stepX P ce o s=some s'):PStep P o s s':=by
 unfold stepX at h
 split at h
 ·rename_i hg
  split at h
  ·rename_i c ho
   split at h
   ·rename_i x hc
    split at h
    ·rename_i f first captured hx
     split at h
     ·rename_i r hr
      simp only[Option.some.injEq] at h
      obtain⟨h1,h2,h3⟩:=call0_ok hce hr
      exact⟨hg,.inl ⟨c,x,f,first,captured,r,ho,hc,hx,h3,.inr (.inr (.inr ⟨h1,h2,h.symm⟩))⟩⟩
     split at h
     ·rename_i r hr
      simp only[Option.some.injEq] at h
      obtain⟨h1,h2,h3⟩:=hce.1 _ _ _ _ hr
      exact⟨hg,.inl ⟨c,x,f,first,captured,r,ho,hc,hx,h3,.inr (.inr (.inl ⟨h1,h2,h.symm⟩))⟩⟩
     ·rename_i r bs' ρ hr
      simp only[Option.some.injEq] at h
      obtain⟨h1,h2,_⟩:=hce.2 _ _ _ _ _ _ hr
      exact⟨hg,.inl ⟨c,x,f,first,captured,r,ho,hc,hx,h2,.inr (.inl ⟨bs',ρ,h1,h.symm⟩)⟩⟩
     ·cases h
    ·cases h
   ·split at h
    ·rename_i r hr
     obtain⟨h1,h2⟩:=ckOp_ok hr
     simp only[Option.some.injEq] at h
     exact⟨hg,.inr (.inr (.inl ⟨r,h1,h2,h.symm⟩))⟩
    ·cases h
   ·cases h
  ·split at h
   ·split at h
    ·rename_i r hr
     obtain⟨h1,h2⟩:=ckMap_ok hr
     simp only[Option.some.injEq] at h
     exact⟨hg,.inr (.inl ⟨r,h1,h2,h.symm⟩)⟩
    ·cases h
   ·split at h
    ·rename_i r hr
     obtain⟨h1,h2⟩:=ckOp_ok hr
     simp only[Option.some.injEq] at h
     exact⟨hg,.inr (.inr (.inl ⟨r,h1,h2,h.symm⟩))⟩
    ·cases h
 ·cases h
theorem gstep_of{s s1:AState}{way:Bool}(h:guardE ops s o.guard=some way)(h1:way=true->StepD P B o s s1)(h2:way=false->s1=s.putO o.dst (.tup [])):GStep P B ops o s s1:=by
 unfold GStep
 cases hg:o.guard with
 |none=>
  rw[hg] at h;simp only[guardE,Option.some.injEq] at h
  exact h1 h.symm
 |some q=>
  obtain⟨j,want⟩:=q
  rw[hg] at h
  simp only[guardE] at h ⊢
  split at h
  ·rename_i d hd
   split at h
   ·rename_i c hc
    simp only[Option.some.injEq] at h
    refine⟨d,hd,.inl ⟨c,hc,?_⟩⟩
    by_cases hw:c=want
    ·exact .inl ⟨hw,h1 (by rw[<-h];simp[hw])⟩
    ·refine .inr ⟨?_,h2 (by rw[<-h];simp[hw])⟩
     revert hw;cases c<;>cases want<;>decide
   ·rename_i hc
    simp only[Option.some.injEq] at h
    exact⟨d,hd,.inr ⟨hc,h2 h.symm⟩⟩
   ·cases h
  ·cases h
def opsX(P:Program)(ce:Calling)(n b:Nat)(ops:Array Oper)(pins:List Nat):List Oper->Nat->AState->Acc->Option (AState×Acc)
 |[],_,s,a=>some (s,a)
 |o::l,k,s,a=>if pins.contains k then match stepX P ce o s with
  |some s1=>s1.re n b fun s2=>opsX P ce n b ops pins l (k+1) s2 a
  |none=>none
  else match guardE ops s o.guard with
  |some true=>match stepY P ce o s a with
   |some (s1,a1)=>s1.re n b fun s2=>opsX P ce n b ops pins l (k+1) s2 a1
   |none=>none
  |some false=>(s.putO o.dst (.tup [])).re n b fun s2=>opsX P ce n b ops pins l (k+1) s2 a
  |none=>none
theorem opsX_ok{ce:Calling}(hce:zC5 P ce){n b:Nat}: ∀(l:List Oper)(k:Nat)(s:AState)(a:Acc)(s':AState)(a':Acc),(∀j,l[j]? =ops[k+j]?)->opsX P ce n b ops pins l k s a=some (s',a')->a'.Ok B->
 zHW P B ops pins (List.range' k l.length) s s'∧a.Ok B:=by
 intro l
 induction l with
 |nil=>intro k s a s' a' _ h hB;cases h;exact⟨rfl,hB⟩
 |cons o l ih=>
  intro k s a s' a' hl h hB
  have h0:ops[k]? =some o:=by simpa using(hl 0).symm
  have hl': ∀j,l[j]? =ops[k+1+j]? :=fun j=>by have:=hl (j+1);simpa[Nat.add_assoc,Nat.add_comm 1 j] using this
  rw[List.length_cons,List.range'_succ]
  unfold opsX at h
  split at h
  ·rename_i hp
   split at h
   ·rename_i s1 h1
    obtain⟨h2,h3⟩:=ih _ _ _ _ _ hl' (re_ok h) hB
    exact⟨⟨o,s1,h0,.inr ⟨hp,stepX_ok hce h1⟩,h2⟩,h3⟩
   ·cases h
  ·rename_i hp
   have hp':pins.contains k=false:=by simpa using hp
   split at h
   ·rename_i hb
    split at h
    ·rename_i s1 a1 h1
     obtain⟨h2,h3⟩:=ih _ _ _ _ _ hl' (re_ok h) hB
     obtain⟨h4,h5⟩:=stepY_ok hce h1 h3
     exact⟨⟨o,s1,h0,.inl ⟨hp',gstep_of hb (fun _=>h4) (fun e=>by cases e)⟩,h2⟩,h5⟩
    ·cases h
   ·rename_i hb
    obtain⟨h2,h3⟩:=ih _ _ _ _ _ hl' (re_ok h) hB
    exact⟨⟨o,_,h0,.inl ⟨hp',gstep_of hb (fun e=>by cases e) (fun _=>rfl)⟩,h2⟩,h3⟩
   ·cases h
def pinsOf(ops:Array Oper):List Nat:=(List.range ops.size).filter fun i=>match ops[i]? with
 |some o=>(match o.guard with
  |none=>(match o.op with
   |.call c=>(match c.callee with
    |.value _=>zH2 ops [i]
    |.builtin .append=>zH2 ops [i]
    |_=>false)
   |.store ..=>zH2 ops [i]
   |.assign _=>zH2 ops [i]
   |op=>isMap op&&zH2 ops [i])
  |some _=>false)
 |none=>false
def pickB(ops:Array Oper)(n:Nat)(a:Acc):Option (List Nat):=
 if !a.raw&&regOk [] ops n then some [] else
 if !a.bad&&(!(1000000::a.tg).eraseDups.contains 995&&a.ld.all (fun b=> !(1000000::a.tg).eraseDups.contains b)&&regOk (1000000::a.tg).eraseDups ops n) then some (1000000::a.tg).eraseDups else none
theorem pickB_ok{a:Acc}(h:pickB ops n a=some B):a.Ok B∧regOk B ops n=true:=by
 unfold pickB at h
 split at h
 ·rename_i hh
  simp only[zq7,Bool.not_eq_true'] at hh
  cases h
  exact⟨.inl ⟨rfl,hh.1⟩,hh.2⟩
 ·split at h
  ·rename_i hh
   simp only[zq7,Bool.not_eq_true',List.all_eq_true] at hh
   cases h
   have hmem:1000000∈(1000000::a.tg).eraseDups:=List.mem_eraseDups.2 (zq9 ..)
   refine⟨.inr ⟨fun e=>(by rw[e] at hmem;cases hmem),⟨hh.1,hh.2.1.1⟩,fun b hb=>List.mem_eraseDups.2 (zqc _ hb),fun b hb hm=>?_⟩,hh.2.2⟩
   have:=hh.2.1.2 b hb
   rw[<-List.contains_iff_mem] at hm
   rw[hm] at this;cases this
  ·cases h
def regionX(P:Program)(ce:Calling)(n b:Nat)(ops:Array Oper)(s:AState):Option AState:=
 if zH2 ops (pinsOf ops)&&s.n==n then
  match s.fresh.re n b fun s=>opsX P ce n b ops (pinsOf ops) ops.toList 0 s ⟨[],[],false,false⟩ with
   |some (s',a)=>match pickB ops n a with
    |some _=>some s'
    |none=>none
   |none=>none
 else none
theorem regionX_ok{ce:Calling}(hce:zC5 P ce)(hm:P.follows .mixedOrders=true){n b:Nat}{s s':AState}(h:regionX P ce n b ops s=some s')(hQ:Q .normal s'):
 AWp P (.region id ops true) Q s:=by
 unfold regionX at h
 split at h
 ·rename_i hp
  simp only[zq7,beq_iff_eq] at hp
  obtain⟨hp,hsn⟩:=hp
  split at h
  ·rename_i s1 a h1
   split at h
   ·rename_i B hpick
    cases h
    obtain⟨ha,hr⟩:=pickB_ok hpick
    exact zFo B (pinsOf ops) hm hsn hr hp (opsX_ok hce _ _ _ _ _ _ (fun j=>by simp) (re_ok h1) ha).1 hQ
   ·cases h
  ·cases h
 ·cases h
def AState.compact(s:AState):AState:=if s.base<=s.blocks.length then (let l:=(List.range s.n).map s.tmps;⟨fun t=>l.getD t .top,fun _=>none,s.n,s.base,s.blocks⟩) else s
theorem leAV_rfl(x:AV):leAV x x:=by cases x<;>simp
theorem leSame{s s':AState}(ht: ∀t,leAV (s.tmps t) (s'.tmps t))(hl: ∀t,s'.loans t=none)(hn:s'.n=s.n)(hb:s'.base=s.base)(hbl:s'.blocks=s.blocks)(hbb:s.base<=s.blocks.length):s.Le s' where
 tmps:=ht
 loans:=hl
 n:=hn
 base:=hb
 hbase:=by rw[hbl];exact hbb
 short:=by rw[hbl];exact Nat.le_refl _
 blocks:=fun b blk' h=>⟨blk',by rw[<-hbl];exact h,rfl,fun o x' hx=>⟨x',hx,leAV_rfl x',.inr rfl⟩⟩
 below:=.inl (by rw[hbl])
theorem compact_le(h:s.base<=s.blocks.length):s.Le s.compact:=by
 unfold AState.compact
 rw[if_pos h]
 refine leSame (fun t=>?_) (fun t=>rfl) rfl rfl rfl h
 simp only
 by_cases ht:t<s.n
 ·rw[zq5,List.getElem?_map,List.getElem?_range ht];exact leAV_rfl _
 ·rw[zq5,List.getElem?_eq_none (by simpa using ht)]
  cases s.tmps t<;>simp
noncomputable def evC (P:Program) (ce:Calling) (nt nb:Nat) (n:Nat):Code->AState->(Exit->AState->Option CR)->Option CR:=
 Nat.rec (fun _ _ _=>none) (fun _ ih c s K=>match c with
  |.skip=>K .normal s
  |.region _ ops false=>s.fresh.re nt nb fun s1=>opsE P ce nt nb ops ops.toList s1 (K .normal)
  |.region _ ops true=>match regionX P ce nt nb ops s with
   |some s'=>K .normal s'
   |none=>none
  |.seq x y=>ih x s fun e s1=>match e with
   |.normal=>ih y s1 K
   |e=>K e s1
  |.cond c x y=>match s.look c with
   |.bool true=>ih x s K
   |.bool false=>ih y s K
   |_=>none
  |.block id c=>ih c s fun e s1=>match e with
   |.exit id'=>if id'=id then K .normal s1 else K (.exit id') s1
   |e=>K e s1
  |.loop c=>ih c s fun e s1=>match e with
   |.normal=>ih (.loop c) s1.compact K
   |e=>K e s1
  |.exit id=>K (.exit id) s
  |.ret=>K .ret s
  |_=>none) n
def LoopAt(P:Program)(c:Code)(Q:Exit->AState->Prop)(s:AState):Prop:=
 ∀F g a w,Sim F g s a w->∀b k cs,∃e a' w',(∃g' s',Sim F g' s' a' w'∧Q e s')∧Arrives P (lone (b.at a (.code c::.inLoop c::k)) cs w) b k cs e a' w'
theorem loopAt_le(h:LoopAt P c Q s.compact):LoopAt P c Q s:=fun F g a w hs=>by
 by_cases hb:s.base<=s.blocks.length
 ·obtain⟨g',hs'⟩:=hs.le (compact_le hb)
  exact h F g' a w hs'
 ·have e:s.compact=s:=by unfold AState.compact;rw[if_neg hb]
  rw[e] at h
  exact h F g a w hs
theorem loopAt_round(h:AWp P c (seqK (LoopAt P c Q) Q) s):LoopAt P c Q s:=fun F g a w hs b k cs=>by
 obtain⟨e,a₁,w₁,⟨g1,s1,h1,h2⟩,harr⟩:=h F g a w hs b (.inLoop c::k) cs
 cases e with
 |normal=>
  obtain⟨e₂,a₂,w₂,hq₂,harr₂⟩:=h2 F g1 a₁ w₁ h1 b k cs
  exact⟨e₂,a₂,w₂,hq₂,.of_steps (Steps.trans harr (.one step_inLoop)) harr₂⟩
 |exit id=>exact⟨_,a₁,w₁,⟨g1,s1,h1,h2⟩,.pass (x:=.inLoop c) rfl (fun _ _=>.inl (by simp)) harr⟩
 |goto l=>exact⟨_,a₁,w₁,⟨g1,s1,h1,h2⟩,.pass (x:=.inLoop c) rfl (fun _ _=>.inl (by simp)) harr⟩
 |ret=>exact⟨_,a₁,w₁,⟨g1,s1,h1,h2⟩,.pass (x:=.inLoop c) rfl (fun _ _=>.inl (by simp)) harr⟩
 |panic ch=>exact⟨_,a₁,w₁,⟨g1,s1,h1,h2⟩,.pass (x:=.inLoop c) rfl (fun _ _=>.inl (by simp)) harr⟩
 |outgrown=>exact⟨_,a₁,w₁,⟨g1,s1,h1,h2⟩,.pass (x:=.inLoop c) rfl (fun _ _=>.inl (by simp)) harr⟩
theorem awp_loopAt(h:LoopAt P c Q s):AWp P (.loop c) Q s:=fun F g a w hs b k cs=>by
 obtain⟨e,a',w',hq,harr⟩:=h F g a w hs b k cs
 exact⟨e,a',w',hq,.of_steps (.one step_loop) harr⟩
theorem evC_ok{ce:Calling}(hce:zC5 P ce)(hm:P.follows .mixedOrders=true)(nt nb:Nat){x:CR}: ∀(n:Nat),
 (∀(c:Code)(s:AState)(K:Exit->AState->Option CR),evC P ce nt nb n c s K=some x->AWp P c (fun e s'=>K e s'=some x) s)∧
 (∀(c:Code)(s:AState)(K:Exit->AState->Option CR),evC P ce nt nb n (.loop c) s K=some x->LoopAt P c (fun e s'=>K e s'=some x) s):=by
 intro n
 induction n with
 |zero=>exact⟨fun c s K h=>(by cases h),fun c s K h=>(by cases h)⟩
 |succ n ih=>
  have hloop: ∀(c:Code)(s:AState)(K:Exit->AState->Option CR),evC P ce nt nb (n+1) (.loop c) s K=some x->LoopAt P c (fun e s'=>K e s'=some x) s:=fun c s K h=>by
   have h':(evC P ce nt nb n c s fun e s1=>match e with
    |.normal=>evC P ce nt nb n (.loop c) s1.compact K
    |e=>K e s1)=some x:=h
   apply loopAt_round
   refine zEL (ih.1 c s _ h') fun e s1 h1=>?_
   cases e with
   |normal=>exact loopAt_le (ih.2 c _ _ h1)
   |_=>exact h1
  refine⟨fun c s K h=>?_,hloop⟩
  cases c with
  |skip=>exact zAC h
  |region id ops draw=>
   cases draw with
   |false=>
    have h':(s.fresh.re nt nb fun s1=>opsE P ce nt nb ops ops.toList s1 (K .normal))=some x:=h
    exact fun F g a w hs=>wp_region_list (opsE_ok hce (fun s' g a w hK hs'=>⟨g,s',hs',hK⟩) _ _ _ _ _ (re_ok h') hs.fresh)
   |true=>
    have h':(match regionX P ce nt nb ops s with|some s'=>K .normal s'|none=>none)=some x:=h
    split at h'
    ·rename_i s1 h1
     exact regionX_ok hce hm h1 h'
    ·cases h'
  |seq c y=>
   have h':(evC P ce nt nb n c s fun e s1=>match e with
    |.normal=>evC P ce nt nb n y s1 K
    |e=>K e s1)=some x:=h
   apply zAE
   refine zEL (ih.1 c s _ h') fun e s1 h1=>?_
   cases e with
   |normal=>exact ih.1 y s1 _ h1
   |_=>exact h1
  |cond c y z=>
   have h':(match s.look c with|.bool true=>evC P ce nt nb n y s K|.bool false=>evC P ce nt nb n z s K|_=>none)=some x:=h
   split at h'
   ·rename_i hc
    exact zIQ hc (fun _=>ih.1 y s _ h') (fun hb=>by cases hb)
   ·rename_i hc
    exact zIQ hc (fun hb=>by cases hb) (fun _=>ih.1 z s _ h')
   ·cases h'
  |block id c=>
   have h':(evC P ce nt nb n c s fun e s1=>match e with
    |.exit id'=>if id'=id then K .normal s1 else K (.exit id') s1
    |e=>K e s1)=some x:=h
   apply zAH
   refine zEL (ih.1 c s _ h') fun e s1 h1=>?_
   cases e with
   |exit id'=>
    show if id'=id then _ else _
    have h2:(if id'=id then K .normal s1 else K (.exit id') s1)=some x:=h1
    split at h2
    ·rename_i hid;rw[if_pos hid];exact h2
    ·rename_i hid;rw[if_neg hid];exact h2
   |_=>exact h1
  |loop c=>exact awp_loopAt (hloop c s K h)
  |exit id=>exact zBP h
  |ret=>exact zAA h
  |_=>cases h
def sdRes(P:Program)(s:AState):ResultVar->Bool
 |.tmp _=>true
 |.cell a t=>match s.get a with
  |.mptr b o=>sdLoadV P t ((s.blocks.getD b []).drop o)
  |_=>true
theorem sdRes_ok{P:Program}{s:AState}: ∀{l:List ResultVar}{c:Prop}{xs:List AV},zD5 P s l=some (c,xs)->l.all (sdRes P s)=true->c
 |[],c,xs,h,_=>by
  simp only[zD5,Option.some.injEq,Prod.mk.injEq] at h
  rw[<-h.1];trivial
 |r::l,c,xs,h,hs=>by
  simp only[List.all_cons,zq7] at hs
  simp only[zD5] at h
  split at h
  ·rename_i c1 x c2 xs' h1 h2
   simp only[Option.some.injEq,Prod.mk.injEq] at h
   rw[<-h.1]
   refine⟨?_,sdRes_ok h2 hs.2⟩
   cases r with
   |tmp t=>
    simp only[zGk,Option.some.injEq,Prod.mk.injEq] at h1
    rw[<-h1.1];trivial
   |cell a t=>
    simp only[zGk] at h1
    have h3:=hs.1
    simp only[sdRes] at h3
    split at h1
    ·rename_i b o ha
     simp only[ha] at h3
     exact zHr h1 h3
    ·cases h1
  ·cases h
def dropE(s:AState)(r:AV):Bool:=decide (s.base<s.blocks.length)&&(r.under (s.blocks.length-1)&&zIq (s.blocks.length-1) (s.blocks.take (s.blocks.length-1)))
theorem dropE_ok{r:AV}(h:dropE s r=true):DropOk s r:=by
 simp only[dropE,zq7,decide_eq_true_eq] at h
 exact h
def fzE(s:AState):Bool:=decide (s.base<s.blocks.length)&&(s.lblk.all AV.inert&&okFzB s.lb s.lblk (s.blocks.take s.lb))
theorem fzE_ok(h:fzE s=true):FzOk s:=by
 simp only[fzE,zq7,decide_eq_true_eq] at h
 exact h
def finK:Nat->AState->AV->Option (AState×AV)
 |0,s,r=>some (s,r)
 |k+1,s,r=>if dropE s r then finK k s.dropB r else if fzE s then finK k s.fz (r.fz s.lb s.lblk) else none
theorem finK_ok{R:AV->AState->Prop}: ∀(k:Nat)(s:AState)(r:AV)(s':AState)(r':AV),finK k s r=some (s',r')->R r' s'->∃l,FzR l R r s
 |0,s,r,s',r',h,hR=>by cases h;exact⟨[],hR⟩
 |k+1,s,r,s',r',h,hR=>by
  unfold finK at h
  split at h
  ·rename_i hd
   obtain⟨l,hl⟩:=finK_ok k _ _ _ _ h hR
   exact⟨false::l,dropE_ok hd,hl⟩
  ·split at h
   ·rename_i hf
    obtain⟨l,hl⟩:=finK_ok k _ _ _ _ h hR
    exact⟨true::l,fzE_ok hf,hl⟩
   ·cases h
def finD:Nat->AState->AV->AState
 |0,s,r=>s
 |k+1,s,r=>if dropE s r then finD k s.dropB r else s
theorem finD_ok{R:AV->AState->Prop}: ∀(k:Nat)(s:AState)(r:AV),R r (finD k s r)->∃l,FzR l R r s
 |0,s,r,hR=>⟨[],hR⟩
 |k+1,s,r,hR=>by
  unfold finD at hR
  split at hR
  ·rename_i hd
   obtain⟨l,hl⟩:=finD_ok k _ _ hR
   exact⟨false::l,dropE_ok hd,hl⟩
  ·exact⟨[],hR⟩
def endE(P:Program)(fn:Func):Option (Exit×AState)->Option (AState×AV)
 |some (.normal,s)|some (.ret,s)=>match zD5 P s fn.results.toList with
  |some (_,xs)=>if fn.results.toList.all (sdRes P s) then some (s,(oneOf xs).normR) else none
  |none=>none
 |_=>none
theorem endE_ok{e:Exit}{s s':AState}{r:AV}(h:endE P fn (some (e,s))=some (s',r)):s'=s∧∀R:AV->AState->Prop,R r s->Ret P fn R e s:=by
 have key:(match zD5 P s fn.results.toList with|some (_,xs)=>if fn.results.toList.all (sdRes P s) then some (s,(oneOf xs).normR) else none|none=>none)=some (s',r)->
  s'=s∧∀R:AV->AState->Prop,R r s->match zD5 P s fn.results.toList with|some (c,xs)=>c∧R (oneOf xs).normR s|none=>False:=fun h=>by
  split at h
  ·rename_i c xs hr
   split at h
   ·rename_i hs
    simp only[Option.some.injEq,Prod.mk.injEq] at h
    obtain⟨rfl,rfl⟩:=h
    refine⟨rfl,fun R hR=>?_⟩
    exact⟨sdRes_ok hr hs,hR⟩
   ·cases h
  ·cases h
 cases e with
 |normal=>exact key h
 |ret=>exact key h
 |_=>cases h
def forceN{α:Type}(n:Nat)(K:Nat->α):α:=match n with
 |0=>K 0
 |p+1=>K (p+1)
theorem zHZ(n:Nat)(K:Nat->α):forceN n K=K n:=by cases n<;>rfl
def forceI{α:Type}(n:Int)(K:Int->α):α:=match n with
 |.ofNat m=>forceN m fun m=>K (.ofNat m)
 |.negSucc m=>forceN m fun m=>K (.negSucc m)
theorem forceI_eq(n:Int)(K:Int->α):forceI n K=K n:=by cases n<;>simp only[forceI,zHZ]
def forceB{α:Type}:List UInt8->(List UInt8->α)->α
 |[],K=>K []
 |c::l,K=>forceN c.toNat fun n=>forceB l fun l=>K (UInt8.ofNat n::l)
theorem forceB_eq{α:Type}: ∀(l:List UInt8)(K:List UInt8->α),forceB l K=K l
 |[],K=>rfl
 |c::l,K=>by simp only[forceB,zHZ,forceB_eq l,UInt8.ofNat_toNat]
mutual
def AV.force{α:Type}:AV->(AV->α)->α
 |.int k n,K=>forceI n fun n=>K (.int k n)
 |.bool b,K=>match b with
  |true=>K (.bool true)
  |false=>K (.bool false)
 |.str s,K=>forceB s fun s=>K (.str s)
 |.mptr b o,K=>forceN b fun b=>forceN o fun o=>K (.mptr b o)
 |.baddr t b,K=>forceN b fun b=>K (.baddr t b)
 |.cptr l,K=>AV.forceL l fun l=>K (.cptr l)
 |.osl e l,K=>AV.forceLL l fun l=>K (.osl e l)
 |.sl l,K=>AV.forceLL l fun l=>K (.sl l)
 |.fn f a b,K=>AV.forceL a fun a=>AV.forceL b fun b=>K (.fn f a b)
 |.iface t v,K=>v.force fun v=>K (.iface t v)
 |.agg l,K=>AV.forceL l fun l=>K (.agg l)
 |.tup l,K=>AV.forceL l fun l=>K (.tup l)
 |.omp a b,K=>AV.forceL a fun a=>AV.forceL b fun b=>K (.omp a b)
 |.nilp,K=>K .nilp
 |.nsl,K=>K .nsl
 |.nilfn,K=>K .nilfn
 |.nilif,K=>K .nilif
 |.osq e l,K=>K (.osq e l)
 |.msl b e n,K=>K (.msl b e n)
 |.e0,K=>K .e0
 |.mpx,K=>K .mpx
 |.otup e l cs,K=>K (.otup e l cs)
 |.top,K=>K .top
def AV.forceL{α:Type}:List AV->(List AV->α)->α
 |[],K=>K []
 |x::l,K=>x.force fun x=>AV.forceL l fun l=>K (x::l)
def AV.forceLL{α:Type}:List (List AV)->(List (List AV)->α)->α
 |[],K=>K []
 |x::l,K=>AV.forceL x fun x=>AV.forceLL l fun l=>K (x::l)
end
mutual
theorem AV.force_eq: ∀(x:AV)(K:AV->α),x.force K=K x
 |.int k n,K=>by simp only[AV.force,forceI_eq]
 |.bool b,K=>by cases b<;>rfl
 |.str s,K=>by simp only[AV.force,forceB_eq]
 |.mptr b o,K=>by simp only[AV.force,zHZ]
 |.baddr t b,K=>by simp only[AV.force,zHZ]
 |.cptr l,K=>by simp only[AV.force,AV.forceL_eq l]
 |.osl e l,K=>by simp only[AV.force,AV.forceLL_eq l]
 |.sl l,K=>by simp only[AV.force,AV.forceLL_eq l]
 |.fn f a b,K=>by simp only[AV.force,AV.forceL_eq a,AV.forceL_eq b]
 |.iface t v,K=>by simp only[AV.force,AV.force_eq v]
 |.agg l,K=>by simp only[AV.force,AV.forceL_eq l]
 |.tup l,K=>by simp only[AV.force,AV.forceL_eq l]
 |.omp a b,K=>by simp only[AV.force,AV.forceL_eq a,AV.forceL_eq b]
 |.nilp,K=>rfl
 |.nsl,K=>rfl
 |.nilfn,K=>rfl
 |.nilif,K=>rfl
 |.osq e l,K=>rfl
 |.msl b e n,K=>rfl
 |.e0,K=>rfl
 |.mpx,K=>rfl
 |.otup e l cs,K=>rfl
 |.top,K=>rfl
theorem AV.forceL_eq: ∀(l:List AV)(K:List AV->α),AV.forceL l K=K l
 |[],K=>rfl
 |x::l,K=>by simp only[AV.forceL,AV.force_eq x,AV.forceL_eq l]
theorem AV.forceLL_eq: ∀(l:List (List AV))(K:List (List AV)->α),AV.forceLL l K=K l
 |[],K=>rfl
 |x::l,K=>by simp only[AV.forceLL,AV.forceL_eq x,AV.forceLL_eq l]
end
def zFS(args:List AV)(bs:List (List AV)):List Nat:=reach bs bs.length (AV.refsL args).eraseDups
def finPure:Option (AState×AV)->Option CR
 |some (s,r)=>match finK s.blocks.length s r with
  |some (_,r')=>if r'.flat&& !r'.owns then some (.pure r') else none
  |none=>none
 |none=>none
def finRaw:Option (AState×AV)->Option CR
 |some (s,r)=>if !r.owns&&decide ((finD s.blocks.length s r).base<=(finD s.blocks.length s r).blocks.length) then some (.raw r (finD s.blocks.length s r).blocks []) else none
 |none=>none
noncomputable def bodyP (P:Program) (ce:Calling) (fu:Nat) (fn:Func) (c:Code) (args:List AV):Option CR:=
 match evC P ce fn.ntmps 0 fu c (start fn.ntmps 0 args []) fun e s=>finPure (endE P fn (some (e,s))) with
 |some (.pure r)=>r.force fun r=>if r.flat&& !r.owns then some (.pure r) else none
 |_=>none
noncomputable def bodyR (P:Program) (ce:Calling) (fu:Nat) (fn:Func) (c:Code) (args:List AV) (bs:List (List AV)):Option CR:=
 match evC P ce fn.ntmps bs.length fu c (start fn.ntmps bs.length args bs) fun e s=>finRaw (endE P fn (some (e,s))) with
 |some (.raw r bs' _)=>r.force fun r=>AV.forceLL bs' fun bs'=>some (.raw r bs' [])
 |_=>none
noncomputable def bodyE (P:Program) (ce:Calling) (fu:Nat) (fn:Func) (c:Code) (args:List AV) (bs:List (List AV)):Option CR:=
 AV.forceL args fun args=>
 if AV.flatL args then bodyP P ce fu fn c args
 else if zE5 (zFS args bs) args bs then
  match AV.forceL (AV.renL (zJX (zFS args bs)) args) fun args'=>AV.forceLL (small (zFS args bs) bs) fun sm=>bodyR P ce fu fn c args' sm with
  |some (.raw r bs' _)=>if !r.owns&&decide ((zFS args bs).length<=bs'.length) then some (.raw (r.ren (zDq (zFS args bs) bs.length)) (lay (zDq (zFS args bs) bs.length) (zFS args bs) bs' bs) (zFS args bs)) else none
  |_=>none
 else none
noncomputable def callN (P:Program) (lib:Calling) (fu:Nat) (n:Nat):Calling:=
 Nat.rec (fun f args bs=>lib f args bs) (fun _ ih f args bs=>match lib f args bs with
  |some r=>some r
  |none=>match P.funcs[f]? with
   |some fn=>match fn.body with
    |some c=>if !(fn.name== "runtime.NumGoroutine")&&(decide (args.length≤fn.ntmps)&&args.all (fun x=> !x.owns)) then bodyE P ih fu fn c args bs else none
    |none=>none
   |none=>none) n
theorem bodyE_ok {ce:Calling} (hce:zC5 P ce) (hm:P.follows .mixedOrders=true) {fu:Nat} {bs:List (List AV)} {x:CR} (hf:P.funcs[f]? =some fn) (hname:(fn.name== "runtime.NumGoroutine")=false) (hb:fn.body=some c)
 (hn:args.length<=fn.ntmps) (hown:args.all (fun x=> !x.owns)=true) (h:bodyE P ce fu fn c args bs=some x):
 (∃res,x=.pure res∧Pure P f args res∧AV.flatL args=true∧res.owns=false)∨(∃res bs' ρ,x=.raw res bs' ρ∧RawK P f args bs res bs' (fun b=>b∉ρ)∧res.owns=false∧(∀b,b∉ρ->b<bs.length->bs'[b]? =bs[b]?)∧(zE5 ρ [res] bs'=true->bs'.length=bs.length->∀zs,RawK P f args (bs++zs) res (bs'++zs) (fun b=>b∉ρ))):=by
 unfold bodyE bodyP bodyR at h
 simp only[AV.forceL_eq,AV.forceLL_eq,AV.force_eq] at h
 split at h
 ·rename_i hfl
  split at h
  ·rename_i r hev
   split at h
   ·rename_i hr
    simp only[zq7,Bool.not_eq_true'] at hr
    cases h
    refine .inl ⟨r,rfl,zHJ hf hname hb hn hown hr.1 (zEL ((evC_ok hce hm _ _ fu).1 _ _ _ hev) fun e s hK=>?_),hfl,hr.2⟩
    cases hend:endE P fn (some (e,s)) with
    |none=>rw[hend] at hK;cases hK
    |some q=>
     obtain⟨s1,r1⟩:=q
     rw[hend] at hK
     obtain⟨rfl,hret⟩:=endE_ok hend
     simp only[finPure] at hK
     split at hK
     ·rename_i s2 r' hk
      split at hK
      ·cases hK
       obtain⟨l,hl⟩:=finK_ok (R:=fun r0 _=>r0=r) _ _ _ _ _ hk rfl
       exact hret _ ⟨l,hl⟩
      ·cases hK
     ·cases hK
   ·cases h
  ·cases h
 ·split at h
  ·rename_i hcl
   generalize zFS args bs=ρ at h hcl
   obtain⟨hfr,hargs⟩:=zFm hcl
   split at h
   ·rename_i r bs1 ρ1 hev0
    have hev: ∃ρ2,evC P ce fn.ntmps (small ρ bs).length fu c (start fn.ntmps (small ρ bs).length (AV.renL (zJX ρ) args) (small ρ bs)) (fun e s=>finRaw (endE P fn (some (e,s))))=some (.raw r bs1 ρ2):=by
     split at hev0
     ·rename_i r2 bs2 ρ2 h2
      cases hev0
      exact⟨_,h2⟩
     ·cases hev0
    obtain⟨ρ2,hev⟩:=hev
    split at h
    ·rename_i hr
     simp only[zq7,Bool.not_eq_true',decide_eq_true_eq] at hr
     obtain⟨hr,hge⟩:=hr
     cases h
     have hraw:Raw P f (AV.renL (zJX ρ) args) (small ρ bs) r bs1:=
      zH1 hf hname hb (by rw[zBf];exact hn) (by
       rw[List.all_eq_true] at hown ⊢
       intro y hy
       obtain⟨i,hi⟩:=zqd hy
       rw[zDS] at hi
       cases hz:args[i]? with
       |none=>rw[hz] at hi;cases hi
       |some z=>
        rw[hz] at hi;cases hi
        rw[ren_owns];exact hown z (zq3 hz)) fun _=>zEL ((evC_ok hce hm _ _ fu).1 _ _ _ hev) fun e s hK=>by
      cases hend:endE P fn (some (e,s)) with
      |none=>rw[hend] at hK;cases hK
      |some q=>
       obtain⟨s1,r1⟩:=q
       rw[hend] at hK
       obtain⟨rfl,hret⟩:=endE_ok hend
       simp only[finRaw] at hK
       split at hK
       ·rename_i hr1
        simp only[zq7,Bool.not_eq_true',decide_eq_true_eq] at hr1
        cases hK
        obtain⟨l,hl⟩:=finD_ok (R:=fun r' s'=>r'=r∧s'=finD s1.blocks.length s1 r) s1.blocks.length s1 r ⟨rfl,rfl⟩
        refine hret _ ⟨l,FzR.imp (fun r' s' hh=>?_) l _ _ hl⟩
        obtain⟨rfl,rfl⟩:=hh
        exact⟨rfl,leSame (fun t=>by show leAV _ .top;generalize AState.tmps _ t=z;cases z<;>simp) (fun t=>rfl) rfl rfl rfl hr1.2,.inl rfl⟩
       ·cases hK
     have hk:=hraw.frameK ρ bs hfr
     rw[hargs] at hk
     exact .inr ⟨_,_,ρ,rfl,hk,by rw[ren_owns];exact hr,fun b h1 h2=>zGe _ _ _ _ _ h1 h2,fun h1 h2 zs=>framed_ext hraw hcl hge h1 h2 zs⟩
    ·cases h
   ·cases h
  ·cases h
theorem callN_ok{lib:Calling}(hlib:zC5 P lib)(hm:P.follows .mixedOrders=true)(fu:Nat): ∀n,zC5 P (callN P lib fu n):=by
 intro n
 induction n with
 |zero=>exact hlib
 |succ n ih=>
  have key: ∀f args bs x,callN P lib fu (n+1) f args bs=some x->(∃res,x=.pure res∧Pure P f args res∧AV.flatL args=true∧res.owns=false)∨(∃res bs' ρ,x=.raw res bs' ρ∧RawK P f args bs res bs' (fun b=>b∉ρ)∧res.owns=false∧(∀b,b∉ρ->b<bs.length->bs'[b]? =bs[b]?)∧(zE5 ρ [res] bs'=true->bs'.length=bs.length->∀zs,RawK P f args (bs++zs) res (bs'++zs) (fun b=>b∉ρ))):=fun f args bs x h=>by
   have h':(match lib f args bs with
    |some r=>some r
    |none=>match P.funcs[f]? with
     |some fn=>match fn.body with
      |some c=>if !(fn.name== "runtime.NumGoroutine")&&(decide (args.length≤fn.ntmps)&&args.all (fun x=> !x.owns)) then bodyE P (callN P lib fu n) fu fn c args bs else none
      |none=>none
     |none=>none)=some x:=h
   split at h'
   ·rename_i r hr
    cases h'
    cases x with
    |pure res=>exact .inl ⟨res,rfl,hlib.1 _ _ _ _ hr⟩
    |raw res bs' ρ=>exact .inr ⟨res,bs',ρ,rfl,hlib.2 _ _ _ _ _ _ hr⟩
   ·split at h'
    ·rename_i fn hf
     split at h'
     ·rename_i c hb
      split at h'
      ·rename_i hg
       simp only[zq7,Bool.not_eq_true',decide_eq_true_eq] at hg
       obtain⟨hname,hn,hown⟩:=hg
       exact bodyE_ok ih hm hf hname hb hn hown h'
      ·cases h'
     ·cases h'
    ·cases h'
  constructor
  ·intro f args bs res h
   rcases key f args bs _ h with ⟨r,e,h1⟩|⟨r,bs',ρ,e,h1⟩
   ·cases e;exact h1
   ·cases e
  ·intro f args bs res bs' ρ h
   rcases key f args bs _ h with ⟨r,e,h1⟩|⟨r,bs',ρ,e,h1⟩
   ·cases e
   ·cases e;exact h1
def yes:Option CR->Bool
 |some (.pure (.bool b))=>b
 |_=>false
theorem yes_ok{ce:Calling}(h:zC5 P ce)(hy:yes (ce f args [])=true):Pure P f args (.bool true):=by
 unfold yes at hy
 split at hy
 ·rename_i b hb
  subst hy
  exact(h.1 _ _ _ _ hb).1
 ·cases hy
variable {ce:Calling}
def TabOk(P:Program)(tab:Calling):Prop:=
 (∀f args bs res,tab f args bs=some (.pure res)->Pure P f args res∧res.owns=false)∧
 (∀f args bs res bs' ρ,tab f args bs=some (.raw res bs' ρ)->Raw P f args bs res bs'∧res.owns=false)
def libC(has:FuncId->Bool)(tab:Calling):Calling:=fun f args bs=>
 if has f then
  if AV.flatL args then match tab f args [] with
   |some (.pure r)=>some (.pure r)
   |_=>none
  else if zE5 (zFS args bs) args bs then match tab f (AV.renL (zJX (zFS args bs)) args) (small (zFS args bs) bs) with
   |some (.raw r bs' _)=>if (zFS args bs).length<=bs'.length then some (.raw (r.ren (zDq (zFS args bs) bs.length)) (lay (zDq (zFS args bs) bs.length) (zFS args bs) bs' bs) (zFS args bs)) else none
   |_=>none
  else none
 else none
theorem libC_ok{has:FuncId->Bool}{tab:Calling}(h:TabOk P tab):zC5 P (libC has tab):=by
 constructor
 ·intro f args bs res hr
  unfold libC at hr
  split at hr
  ·split at hr
   ·rename_i hfl
    split at hr
    ·rename_i r ht
     cases hr
     obtain⟨h1,h2⟩:=h.1 _ _ _ _ ht
     exact⟨h1,hfl,h2⟩
    ·cases hr
   ·split at hr
    ·split at hr
     ·split at hr<;>cases hr
     ·cases hr
    ·cases hr
  ·cases hr
 ·intro f args bs res bs' ρ hr
  unfold libC at hr
  split at hr
  ·split at hr
   ·split at hr<;>cases hr
   ·split at hr
    ·rename_i hcl
     split at hr
     ·rename_i r bs1 ρ1 ht
      obtain⟨hraw,hown⟩:=h.2 _ _ _ _ _ _ ht
      obtain⟨hfr,hargs⟩:=zFm hcl
      have hk:=hraw.frameK (zFS args bs) bs hfr
      rw[hargs] at hk
      split at hr
      ·rename_i hge
       cases hr
       exact⟨hk,by rw[ren_owns];exact hown,fun b h1 h2=>zGe _ _ _ _ _ h1 h2,fun h1 h2 zs=>framed_ext hraw hcl hge h1 h2 zs⟩
      ·cases hr
     ·cases hr
    ·cases hr
  ·cases hr
def ubytes:List (List AV)->Option (List UInt8)
 |[]=>some []
 |[.int .u8 n]::l=>if 0<=n∧n<=255 then (ubytes l).map (UInt8.ofNat n.toNat::·) else none
 |_::_=>none
theorem u8_back{n:Int}(h:0<=n∧n<=255):((UInt8.ofNat n.toNat).toNat:Int)=n:=by
 have:(UInt8.ofNat n.toNat).toNat=n.toNat:=by
  simp only[UInt8.toNat_ofNat']
  omega
 rw[this];omega
theorem ubytes_ok: ∀{l:List (List AV)}{b:List UInt8},ubytes l=some b->l=b.map cU
 |[],b,h=>by cases h;rfl
 |x::l,b,h=>by
  unfold ubytes at h
  split at h
  ·cases ‹_::_=[]›
  ·rename_i n l' heq
   cases heq
   split at h
   ·rename_i hn
    cases hu:ubytes l with
    |none=>rw[hu] at h;cases h
    |some b'=>
     rw[hu] at h
     simp only[Option.map_some,Option.some.injEq] at h
     subst h
     rw[List.map_cons,<-ubytes_ok hu]
     simp only[cU,u8_back hn]
   ·cases h
  ·cases h
def strsOf:List (List AV)->Option (List (List UInt8))
 |[]=>some []
 |[.str s]::l=>(strsOf l).map (s::·)
 |_::_=>none
theorem strsOf_ok: ∀{l:List (List AV)}{b:List (List UInt8)},strsOf l=some b->l=b.map cS
 |[],b,h=>by cases h;rfl
 |x::l,b,h=>by
  unfold strsOf at h
  split at h
  ·cases ‹_::_=[]›
  ·rename_i s l' heq
   cases heq
   cases hu:strsOf l with
   |none=>rw[hu] at h;cases h
   |some b'=>
    rw[hu] at h
    simp only[Option.map_some,Option.some.injEq] at h
    subst h
    rw[List.map_cons,<-strsOf_ok hu]
    rfl
  ·cases h
end Go.Abs
namespace Go.Proofs.YtbnahfdbjaohkaaGreatDoor
open Go Go.Abs
structure zJx where
 Op:Int
 N:Int
 S:(List UInt8)
 L:(List zJx)
def zJx.c(x:zJx):List AV:=[.int .i64 x.Op,.int .i64 x.N,.str x.S,.sl (x.L.map zJx.c)]
termination_by SizeOf.sizeOf x
decreasing_by all_goals (cases x;simp only[zJx.mk.sizeOf_spec];have:=List.sizeOf_lt_of_mem ‹_›;simp only at this;omega)
@[simp] theorem zJx.c_eq(x:zJx):zJx.c x=[.int .i64 x.Op,.int .i64 x.N,.str x.S,.sl (x.L.map zJx.c)]:=by rw[zJx.c]
@[simp] def zJx.d(x:zJx):List AV:=[.int .i64 x.Op,.int .i64 x.N,.str x.S,.sl (x.L.map zJx.c)]
structure zJv where
 Op:Int
 N:Int
 S:(List UInt8)
 Names:(List (List UInt8))
 L:(List zJv)
def zJv.c(x:zJv):List AV:=[.int .i64 x.Op,.int .i64 x.N,.str x.S,.sl (x.Names.map cS),.sl (x.L.map zJv.c)]
termination_by SizeOf.sizeOf x
decreasing_by all_goals (cases x;simp only[zJv.mk.sizeOf_spec];have:=List.sizeOf_lt_of_mem ‹_›;simp only at this;omega)
@[simp] theorem zJv.c_eq(x:zJv):zJv.c x=[.int .i64 x.Op,.int .i64 x.N,.str x.S,.sl (x.Names.map cS),.sl (x.L.map zJv.c)]:=by rw[zJv.c]
@[simp] def zJv.d(x:zJv):List AV:=[.int .i64 x.Op,.int .i64 x.N,.str x.S,.sl (x.Names.map cS),.sl (x.L.map zJv.c)]
@[simp] theorem EL_Api_Syn(l:List zJv):EL 5 (l.map zJv.c):=EL_map (fun x=>by simp) l
structure zJw where
 Line:Int
 Column:Int
 deriving DecidableEq
structure zJu where
 Kind:Int
 Text:(List UInt8)
 At:zJw
 deriving DecidableEq
@[simp] def zJu.c(x:zJu):List AV:=[.int .i64 x.Kind,.str x.Text,.int .i64 x.At.Line,.int .i64 x.At.Column]
structure zJs where
 s:(List UInt8)
 at_:Int
 deriving DecidableEq
structure zJr where
 l:(List zJu)
 at_:Int
 deriving DecidableEq
structure zJt where
 n:Bool
 s:Bool
 names:Bool
 deriving DecidableEq
@[simp] def zJt.c(x:zJt):List AV:=[.bool x.n,.bool x.s,.bool x.names]
end Go.Proofs.YtbnahfdbjaohkaaGreatDoor
