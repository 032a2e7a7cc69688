/- For every input the law PatternBack returns true. Part 15 of 23. No condition. -/
import Derived.Test.YtbnahfdbjaohkaaGreatDoorPBn
import Derived.Lib.AtoiAllCases
set_option linter.unusedVariables false
set_option linter.unnecessarySimpa false
set_option linter.unusedSimpArgs false
set_option maxRecDepth 100000
set_option maxHeartbeats 4000000
namespace Go.Proofs.YtbnahfdbjaohkaaGreatDoor
open Go Go.Abs Go.RowKit
theorem atoi_err{imm:Addr->Option Value}{w w':World}{s:ByteArray}{n:Int}{N:Nat}{ev:Value}{T:TypeId}{fr:Nat×Nat}{E:TypeId}(hn:inR .i64 n)(hlen:s.data.toList.length<=1152921504606846976)
 (him: ∀x v,imm x=some v->w.cell? x=some v) (hN:w.heap.size<=N) (hc:w'.heap[N]? =some (.cells #[.string ⟨#[65,116,111,105]⟩,.string s,ev] T fr)) (hb:Below w.heap.size w w'):
 ∃imm' v,Ending.returned (.tuple #[.int .i64 n,.iface E (.pointer (some ⟨N,0,none⟩))])=.returned v∧Rep imm' [] (.tup [.int .i64 n,.iface E (.cptr [.str [65,116,111,105],.str s.data.toList,.top])]) v∧(∀x v,imm x=some v->imm' x=some v)∧(∀x v,imm' x=some v->w'.cell? x=some v)∧
  Below w.heap.size w w'∧(∀x v,imm' x=some v->imm x=some v∨w.heap.size<=x.block):=by
 have hlt: ∀x v,imm x=some v->x.block<w.heap.size:=fun x v hx=>World.block_lt_of_cell? _ _ (him x v hx)
 have hadd: ∀j,((⟨N,0,none⟩:Addr).add j)=⟨N,j,none⟩:=fun j=>by
  unfold Addr.add
  split
  ·rename_i h0;subst h0;rfl
  ·simp
 have hcell: ∀j,w'.cell? ⟨N,j,none⟩=(#[Value.string ⟨#[65,116,111,105]⟩,.string s,ev]:Array Value)[j]? :=fun j=>by
  unfold World.cell?
  simp[hc]
 refine⟨fun x=>if x.block=N then w'.cell? x else imm x,_,rfl,?_,fun x v hx=>?_,fun x v hx=>?_,hb,fun x v hx=>?_⟩
 ·refine .tup _ _ rfl fun i x hi=>?_
  rcases i with _|_|i
  ·simp at hi;subst hi;exact .int .i64 n hn
  ·simp at hi;subst hi
   refine .iface _ _ _ (.cptr _ ⟨N,0,none⟩ (fun j=>(#[Value.string ⟨#[65,116,111,105]⟩,.string s,ev]:Array Value).getD j default) (fun j y hj=>?_) fun j y hj=>?_)
   ·rw[hadd j]
    simp only[if_true]
    rw[hcell j]
    have hj3:j<3:=by have:=(zq1 hj).1;simpa using this
    rcases j with _|_|_|j
    ·rfl
    ·rfl
    ·rfl
    ·omega
   ·rcases j with _|_|_|j
    ·simp at hj;subst hj;exact .str _ _ rfl (by decide)
    ·simp at hj;subst hj;exact .str _ _ rfl hlen
    ·simp at hj;subst hj;exact .top _
    ·simp at hj
  ·simp at hi
 ·show(if x.block=N then w'.cell? x else imm x)=some v
  rw[if_neg (by have:=hlt x v hx;omega)];exact hx
 ·have hx:(if x.block=N then w'.cell? x else imm x)=some v:=hx
  split at hx
  ·exact hx
  ·have hc':=him x v hx
   have hbl:=World.block_lt_of_cell? _ _ hc'
   unfold World.cell? at hc' ⊢
   rw[hb.block _ hbl];exact hc'
 ·have hx:(if x.block=N then w'.cell? x else imm x)=some v:=hx
  split at hx
  ·rename_i e;exact .inr (by omega)
  ·exact .inl hx
theorem strconv_Atoi_ok(s0:List UInt8)(r:Int×Bool)(h:zC3 s0=some r):Pure Tryz.prog 148 [.str s0] (.tup [.int .i64 r.1,if r.2 then .iface 217 (.cptr [.str [65,116,111,105],.str s0,.top]) else .nilif]):=by
 unfold zC3 at h
 split at h
 case isFalse=>cases h
 rename_i hlen
 refine⟨⟨Tryz.f148,Tryz.func148,by rfl,by rfl⟩,fun imm w vals him hgl htb ha=>?_⟩
 obtain⟨a,rfl,h1⟩:=vals1 ha
 cases h1 with
 |str s _ hs hb=>
  subst hs
  have hsz:s.size<=1000000:=by
   have:s.data.toList.length=s.size:=Array.length_toList
   omega
  split at h
  ·rename_i v hv
   cases h
   obtain⟨b1,b2⟩:=Lib.atoiAll_bounds hv
   refine(Tryz.strconv_Atoi_ok s (by omega) v hv w).mono fun e w' he=>?_
   obtain⟨rfl,hw⟩:=he
   have hbel:Below w.heap.size w w':=by
    rcases hw with rfl|⟨t,rfl⟩
    ·exact Below.refl _ _
    ·exact Lib.bytesWorld_below _ _ _
   refine⟨imm,_,rfl,?_,fun _ _ h=>h,fun x u hx=>?_,hbel,fun _ _ h=>.inl h⟩
   ·refine .tup _ _ rfl fun i x hi=>?_
    rcases i with _|_|i
    ·simp at hi;subst hi;exact .int .i64 _ (by simp only[inR];omega)
    ·simp at hi;subst hi;exact .nilif
    ·simp at hi
   ·have hc:=him x u hx
    have hbl:=World.block_lt_of_cell? _ _ hc
    unfold World.cell? at hc ⊢
    rw[hbel.block _ hbl];exact hc
  ·rename_i hv
   cases h
   obtain⟨b1,b2⟩:=Lib.atoiSat_bounds s.data.toList
   obtain⟨te,pe,hg⟩:=hgl.2 3 (by simp[ge])
   refine(Tryz.strconv_Atoi_range s (by omega) hv (.iface te pe) w (him _ _ hg) (.inr ⟨te,pe,rfl⟩)).mono fun e w' he=>?_
   obtain⟨N,rfl,hN,hc,hbel⟩:=he
   exact atoi_err (by simp only[inR];omega) hb him hN hc hbel
  ·rename_i q1 q2
   have hv:Lib.atoiAll s.data.toList=Lib.atoiAll []:=Lib.NumEnd.casesOn (motive:=fun z=>(∀v,z=.ok v->False)->(z=.range->False)->z=Lib.atoiAll []) (Lib.atoiAll s.data.toList) (fun v a _=>(a v rfl).elim) (fun _ _=>rfl) (fun _ b=>(b rfl).elim) q1 q2
   cases h
   obtain⟨te,pe,hg⟩:=hgl.2 2 (by simp[ge])
   refine(Tryz.strconv_Atoi_syntax s (by omega) hv (.iface te pe) w (him _ _ hg) (.inr ⟨te,pe,rfl⟩)).mono fun e w' he=>?_
   obtain⟨N,rfl,hN,hc,hbel⟩:=he
   exact atoi_err (by simp only[inR];omega) hb him hN hc hbel
theorem zJG(s0 t0:List UInt8)(r:List UInt8×List UInt8×Bool)(h:zFp s0 t0=some r):Pure Tryz.prog 33 [.str s0,.str t0] (.tup [.str r.1,.str r.2.1,.bool r.2.2]):=by
 refine zFf ⟨Tryz.f33,Tryz.func33,by rfl,by rfl⟩ fun imm w vals him hgl htb ha=>?_
 obtain⟨a,b,rfl,h1,h2⟩:=vals2 ha
 unfold zFp at h
 split at h
 case isFalse=>cases h
 rename_i hlen
 cases h
 cases h1 with
 |str s l hs hb=>
  cases h2 with
  |str t l2 ht hb2=>
   obtain⟨m,hm⟩:=hgl.1 0 (by simp[gl])
   have z1:s.size=s0.length:=by rw[<-hs];exact Array.length_toList.symm
   refine(Tryz.strings_Cut s t m w (by omega) (him _ _ hm)).mono fun e w' he=>?_
   obtain⟨rfl,n,rfl⟩:=he
   have hc:(Lib.cut s0 t0).1.length<=s0.length∧(Lib.cut s0 t0).2.1.length<=s0.length:=by
    unfold Lib.cut
    split
    ·refine⟨?_,?_⟩
     ·show(s0.take _).length<=_;rw[List.length_take];omega
     ·show(s0.drop _).length<=_;rw[List.length_drop];omega
    ·exact⟨Nat.le_refl _,Nat.zero_le _⟩
   rw[hs,ht]
   refine⟨_,rfl,.tup _ _ (by rfl) fun i x hx=>?_,⟨rfl,rfl,rfl,Nat.le_refl _,fun _ _=>rfl⟩⟩
   match i,hx with
   |0,hx=>cases hx;exact .str _ _ rfl (by omega)
   |1,hx=>cases hx;exact .str _ _ rfl (by omega)
   |2,hx=>cases hx;exact .bool _
   |(n+3),hx=>simp at hx
end Go.Proofs.YtbnahfdbjaohkaaGreatDoor
namespace Go.Proofs.YtbnahfdbjaohkaaGreatDoor
open Go Go.Abs
def libHas(f:FuncId):Bool:=
 f==107
 ||f==42
 ||f==26
 ||f==214
 ||f==33
 ||f==172
 ||f==111
 ||f==27
def libTab:Calling:=fun f args bs=>
 if f=107 then match args,bs with
  |[.mptr 0 0],[[.baddr t 0,x]]=>if t=107 then some (.raw (.tup []) [[.baddr t 0,x]] []) else none
  |_,_=>none
 else if f=42 then match args,bs with
  |[.mptr 0 0],[[.baddr t 0,.osl ⟨1,u⟩ l]]=>if t=107∧u=5 then (match ubytes l with
   |some b=>some (.raw (.str b) [[.baddr t 0,.osl ⟨1,u⟩ l]] [])
   |none=>none) else none
  |_,_=>none
 else if f=26 then match args with
  |[.int .i64 n]=>(zCu n).map fun r=>.pure (.str r)
  |_=>none
 else if f=214 then match args with
  |[.str s]=>(zCi s).map fun r=>.pure (.sl (r.map cS))
  |_=>none
 else if f=33 then match args with
  |[.str s,.str t]=>(zFp s t).map fun r=>.pure (.tup [.str r.1,.str r.2.1,.bool r.2.2])
  |_=>none
 else if f=172 then match args with
  |[.str s,.int .u8 n]=>if 0<=n∧n<=255 then (zDC s (UInt8.ofNat n.toNat)).map fun r=>.pure (.int .i64 r) else none
  |_=>none
 else if f=111 then match args with
  |[.str s,.str t]=>(zDB s t).map fun r=>.pure (.int .i64 r)
  |_=>none
 else if f=27 then match args with
  |[.sl l,.str s]=>(match strsOf l with
   |some l'=>(zD7 l' s).map fun r=>.pure (.str r)
   |none=>none)
  |_=>none
 else none
theorem mapR{α:Type}{o:Option α}{g:α->AV}{x:CR}(h:(o.map fun r=>CR.pure (g r))=some x): ∃r,o=some r∧x=.pure (g r):=by
 cases o with
 |none=>cases h
 |some r=>exact⟨r,rfl,(zqa h).symm⟩
theorem libTab_ok:TabOk Tryz.prog libTab:=by
 have key: ∀f args bs x,libTab f args bs=some x->(∃r,x=.pure r∧Pure Tryz.prog f args r∧r.owns=false)∨∃r bs' ρ,x=.raw r bs' ρ∧Raw Tryz.prog f args bs r bs'∧r.owns=false:=by
  intro f args bs x h
  unfold libTab at h
  split at h
  ·rename_i hf;subst hf
   split at h
   ·split at h
    ·rename_i ht;subst ht
     cases h
     exact .inr ⟨_,_,_,rfl,zHQ _,rfl⟩
    ·cases h
   ·cases h
  split at h
  ·rename_i hf;subst hf
   split at h
   ·split at h
    ·rename_i ht;obtain⟨rfl,rfl⟩:=ht
     split at h
     ·rename_i b hb
      cases h
      obtain rfl:=ubytes_ok hb
      exact .inr ⟨_,_,_,rfl,zDo b b rfl,rfl⟩
     ·cases h
    ·cases h
   ·cases h
  split at h
  ·rename_i hf;subst hf
   split at h
   ·obtain⟨r,h1,rfl⟩:=mapR h
    exact .inl ⟨_,rfl,zEw _ _ h1,rfl⟩
   ·cases h
  split at h
  ·rename_i hf;subst hf
   split at h
   ·obtain⟨r,h1,rfl⟩:=mapR h
    exact .inl ⟨_,rfl,zFP _ _ h1,rfl⟩
   ·cases h
  split at h
  ·rename_i hf;subst hf
   split at h
   ·obtain⟨r,h1,rfl⟩:=mapR h
    exact .inl ⟨_,rfl,zJG _ _ _ h1,rfl⟩
   ·cases h
  split at h
  ·rename_i hf;subst hf
   split at h
   ·split at h
    ·rename_i hn
     obtain⟨r,h1,rfl⟩:=mapR h
     have:=zDw _ _ _ h1
     rw[u8_back hn] at this
     exact .inl ⟨_,rfl,this,rfl⟩
    ·cases h
   ·cases h
  split at h
  ·rename_i hf;subst hf
   split at h
   ·obtain⟨r,h1,rfl⟩:=mapR h
    exact .inl ⟨_,rfl,zFU _ _ _ h1,rfl⟩
   ·cases h
  split at h
  ·rename_i hf;subst hf
   split at h
   ·split at h
    ·rename_i l' hl
     obtain⟨r,h1,rfl⟩:=mapR h
     obtain rfl:=strsOf_ok hl
     exact .inl ⟨_,rfl,zF5 _ _ _ h1,rfl⟩
    ·cases h
   ·cases h
  cases h
 constructor
 ·intro f args bs res h
  rcases key f args bs _ h with ⟨r,e,h1⟩|⟨r,bs',ρ,e,h1⟩
  ·cases e;exact h1
  ·cases e
 ·intro f args bs res bs' ρ h
  rcases key f args bs _ h with ⟨r,e,h1⟩|⟨r,bs1,ρ1,e,h1⟩
  ·cases e
  ·cases e;exact h1
theorem lib_ok:zC5 Tryz.prog (libC libHas libTab):=libC_ok libTab_ok
theorem zIi:yes (callN Tryz.prog (libC libHas libTab) 100000 100 4 [] [])=true:=by decide +kernel
theorem zJc(r:Bool)(h:zFq=some r):Pure Tryz.prog 4 [] (.bool r):=by
 cases h
 exact yes_ok (callN_ok lib_ok mixed 100000 100) zIi
theorem zJb(fuel:Nat):(∀(p1:zJx)(depth2:Int)(c3:Int)(r:Int)(_:zB6 fuel p1 depth2 c3=some r),Raw Tryz.prog 12 [.agg (zJx.d p1),iI depth2,pT 0,pT 1] [[iI c3],[.fn (.func 12) [] [pT 0,pT 1]]] (.tup []) [[iI r],[.fn (.func 12) [] [pT 0,pT 1]]]):=by
 induction fuel with
 |zero=>intro p1 depth2 c3 r h;rw[zB6] at h;cases h
 |succ fuel zGf=>
  intro p1 depth2 c3 r h
  rw[zB6] at h
  refine zAl Tryz.func12 (by rfl) (by rfl) (by simp) (by simp)<|cutA 43 2 [(1,iI depth2),(2,pT 0),(3,pT 1),(4,pT 2)] [[iI c3],[.fn (.func 12) [] [pT 0,pT 1]],(zJx.d p1)] ?_
  obtain⟨n4,q5,h⟩:=bs h
  obtain⟨q6,q7⟩:=zDu q5
  try simp at q6
  try simp at q7
  have c8:=q6;simp only[Rng,inR] at c8
  refine cut 43 2 [(1,iI depth2),(2,pT 0),(3,pT 1),(4,pT 2)] [[iI n4],[.fn (.func 12) [] [pT 0,pT 1]],(zJx.d p1)] (st (by simp[q6,q7]))<|zAE<|cut 43 2 [(1,iI depth2),(2,pT 0),(3,pT 1),(4,pT 2),(22,.bool ((ltI 50 depth2)||((ltI 20 p1.L.length)||(ltI 200 p1.S.length))))] [[iI n4],[.fn (.func 12) [] [pT 0,pT 1]],(zJx.d p1)] ?_ ?_
  ·rcases tf (ltI 50 depth2) with g9|g9
   ·have c10:=ltT g9
    refine st ?_
    simp[g9]
   have c11:=ltF g9
   rcases tf (ltI 20 p1.L.length) with g12|g12
   ·have c13:=ltT g12
    refine zDt 2 3 rfl rfl rfl fun f14=>?_
    rw[zq4] at f14
    refine st ?_
    simp[g9,g12]
   have c15:=ltF g12
   refine zDt 2 3 rfl rfl rfl fun f16=>?_
   rw[zq4] at f16
   refine st ?_
   simp[g9,g12]
  rcases sp h with ⟨g17,h⟩|⟨g17,h⟩
  ·refine zBF rfl g17<|zG1 43 2 [(1,iI depth2),(2,pT 0),(3,pT 1),(4,pT 2)] [[iI 1000],[.fn (.func 12) [] [pT 0,pT 1]],(zJx.d p1)]<|cutA 43 2 [(1,iI depth2),(2,pT 0),(3,pT 1),(4,pT 2),(6,iI 0)] [[iI 1000],[.fn (.func 12) [] [pT 0,pT 1]],(zJx.d p1)]<|zAH ?_
   obtain⟨o20,l21,h⟩:=bs h
   refine zCI (fun p:Nat×Int×Nat=>mkS 43 2 [(1,iI depth2),(2,pT 0),(3,pT 1),(4,pT 2),(6,iI p.2.2)] [[iI p.2.1],[.fn (.func 12) [] [pT 0,pT 1]],(zJx.d p1)]) (fun p=>zCy (zB6 fuel) p1 depth2 p.1 p.2.1 p.2.2=some o20) (fun p=>p.1) (fuel,1000,0) l21 (zBO (by simp)) ?_
   rintro⟨k22,a18,i19⟩ l21
   try dsimp only at l21 ⊢
   cases k22 with
   |zero=>
    rw[zCy] at l21;cases l21
   |succ k23=>
    rw[zCy] at l21
    refine zAE<|cut 43 2 [(1,iI depth2),(2,pT 0),(3,pT 1),(4,pT 2),(6,iI i19),(31,.bool ((ltI i19 p1.L.length)&&(leI a18 200)))] [[iI a18],[.fn (.func 12) [] [pT 0,pT 1]],(zJx.d p1)] ?_ ?_
    ·rcases tf (ltI i19 p1.L.length) with g24|g24
     ·have c25:=ltT g24
      refine zDt 2 3 rfl rfl rfl fun f26=>?_
      rw[zq4] at f26
      refine st ?_
      simp[g24]
     have c27:=ltF g24
     refine zDt 2 3 rfl rfl rfl fun f28=>?_
     rw[zq4] at f28
     refine st ?_
     simp[g24]
    rcases sp l21 with ⟨g29,l21⟩|⟨g29,l21⟩
    ·obtain⟨g30,g31⟩:=andT g29
     have c32:=ltT g30
     have c34:=leT g31
     refine zBF rfl g29<|zDt 2 3 rfl rfl rfl fun f33=>?_
     rw[zq4] at f33
     refine zAC<|zAF<|zAE<|zAH ?_
     obtain⟨x35,q36,l21⟩:=bs l21
     obtain⟨n37,q38,l21⟩:=bs l21
     obtain⟨q39,q40⟩:=zDu q38
     try simp at q39
     try simp at q40
     have c41:=q39;simp only[Rng,inR] at c41
     obtain⟨v42,q43,l21⟩:=bs l21
     refine last 43 2 [(1,iI depth2),(2,pT 0),(3,pT 1),(4,pT 2),(6,iI i19)] [[iI v42],[.fn (.func 12) [] [pT 0,pT 1]],(zJx.d p1)] ?_ fun zz hs=>?_
     ·refine zCc [] [8] mixed (n:=43) rfl (by decide) (by decide) ?_
      simp[q36,q39,q40]
      have r45:=(zGf x35 n37 a18 v42 q43).frame [0,1] [[iI a18],[.fn (.func 12) [] [pT 0,pT 1]],(zJx.d p1)] (by simp)
      try simp[q36,q39,q40] at r45
      refine callX r45 (by simp[q36,q39,q40]) rfl ?_
      simp[q36,q39,q40]
     refine zDA<|zCh ?_ hs
     have q44:Rng .i64 (((i19:Nat):Int)+1):=by simp only[Rng,inR];omega
     try simp at q44
     refine last 43 2 [(1,iI depth2),(2,pT 0),(3,pT 1),(4,pT 2),(6,iI ((i19+1:Nat):Int))] [[iI v42],[.fn (.func 12) [] [pT 0,pT 1]],(zJx.d p1)] (st (by simp[q44])) fun zz hs=>?_
     exact⟨(k23,v42,i19+1),hs,l21,by simp⟩
    refine zHR rfl g29<|zBP<|zAU ?_
    have q46:=zqa l21
    have q46:=q46.symm
    refine zAU<|zBU ?_
    cases h
    simp[q46]
  obtain⟨g47,g48⟩:=orF g17
  have c49:=ltF g47
  obtain⟨g50,g51⟩:=orF g48
  have c52:=ltF g50
  have c54:=ltF g51
  refine zHR rfl g17<|zDt 2 3 rfl rfl rfl fun f53=>?_
  rw[zq4] at f53
  refine factCS 2 2 rfl rfl fun f55=>?_
  refine zAC<|zAF<|cutA 43 2 [(1,iI depth2),(2,pT 0),(3,pT 1),(4,pT 2),(6,iI 0)] [[iI n4],[.fn (.func 12) [] [pT 0,pT 1]],(zJx.d p1)]<|zAH ?_
  obtain⟨o58,l59,h⟩:=bs h
  refine zCI (fun p:Nat×Int×Nat=>mkS 43 2 [(1,iI depth2),(2,pT 0),(3,pT 1),(4,pT 2),(6,iI p.2.2)] [[iI p.2.1],[.fn (.func 12) [] [pT 0,pT 1]],(zJx.d p1)]) (fun p=>zCR (zB6 fuel) p1 depth2 p.1 p.2.1 p.2.2=some o58) (fun p=>p.1) (fuel,n4,0) l59 (zBO (by simp)) ?_
  rintro⟨k60,a56,i57⟩ l59
  try dsimp only at l59 ⊢
  cases k60 with
  |zero=>
   rw[zCR] at l59;cases l59
  |succ k61=>
   rw[zCR] at l59
   refine zAE<|cut 43 2 [(1,iI depth2),(2,pT 0),(3,pT 1),(4,pT 2),(6,iI i57),(31,.bool ((ltI i57 p1.L.length)&&(leI a56 200)))] [[iI a56],[.fn (.func 12) [] [pT 0,pT 1]],(zJx.d p1)] ?_ ?_
   ·rcases tf (ltI i57 p1.L.length) with g62|g62
    ·have c63:=ltT g62
     refine st ?_
     simp[g62]
    have c64:=ltF g62
    refine st ?_
    simp[g62]
   rcases sp l59 with ⟨g65,l59⟩|⟨g65,l59⟩
   ·obtain⟨g66,g67⟩:=andT g65
    have c68:=ltT g66
    have c69:=leT g67
    refine zBF rfl g65<|zAC<|zAF<|zAE<|zAH ?_
    obtain⟨x70,q71,l59⟩:=bs l59
    obtain⟨n72,q73,l59⟩:=bs l59
    obtain⟨q74,q75⟩:=zDu q73
    try simp at q74
    try simp at q75
    have c76:=q74;simp only[Rng,inR] at c76
    obtain⟨v77,q78,l59⟩:=bs l59
    refine last 43 2 [(1,iI depth2),(2,pT 0),(3,pT 1),(4,pT 2),(6,iI i57)] [[iI v77],[.fn (.func 12) [] [pT 0,pT 1]],(zJx.d p1)] ?_ fun zz hs=>?_
    ·refine zCc [] [8] mixed (n:=43) rfl (by decide) (by decide) ?_
     simp[q71,q74,q75]
     have r80:=(zGf x70 n72 a56 v77 q78).frame [0,1] [[iI a56],[.fn (.func 12) [] [pT 0,pT 1]],(zJx.d p1)] (by simp)
     try simp[q71,q74,q75] at r80
     refine callX r80 (by simp[q71,q74,q75]) rfl ?_
     simp[q71,q74,q75]
    refine zDA<|zCh ?_ hs
    have q79:Rng .i64 (((i57:Nat):Int)+1):=by simp only[Rng,inR];omega
    try simp at q79
    refine last 43 2 [(1,iI depth2),(2,pT 0),(3,pT 1),(4,pT 2),(6,iI ((i57+1:Nat):Int))] [[iI v77],[.fn (.func 12) [] [pT 0,pT 1]],(zJx.d p1)] (st (by simp[q79])) fun zz hs=>?_
    exact⟨(k61,v77,i57+1),hs,l59,by simp⟩
   refine zHR rfl g65<|zBP<|zAU ?_
   have q81:=zqa l59
   have q81:=q81.symm
   refine zAU<|zBU ?_
   cases h
   simp[q81]
theorem law20_big_ok(fuel:Nat)(p1:zJx)(r:Bool)(h:zE6 fuel p1=some r):Pure Tryz.prog 5 [.agg (zJx.d p1)] (.bool r):=by
 rw[zE6] at h
 refine zAG Tryz.func5 (by rfl) (by rfl) (by simp) (by simp) (by simp)<|cutA 11 0 [(1,pT 0)] [(zJx.d p1)]<|cutA 11 0 [(1,pT 0),(3,pT 1)] [(zJx.d p1),[iI 0]]<|cutA 11 0 [(1,pT 0),(3,pT 1),(4,pT 2)] [(zJx.d p1),[iI 0],[.nilfn]]<|cutA 11 0 [(1,pT 0),(3,pT 1),(4,pT 2)] [(zJx.d p1),[iI 0],[.fn (.func 12) [] [pT 1,pT 2]]] ?_
 obtain⟨v2,q3,h⟩:=bs h
 refine cut 11 0 [(3,pT 1)] [(zJx.d p1),[iI v2],[.fn (.func 12) [] [pT 1,pT 2]]] ?_ ?_
 ·refine st ?_
  simp
  have r4:=(zJb fuel p1 1 0 v2 q3).frame [1,2] [(zJx.d p1),[iI 0],[.fn (.func 12) [] [pT 1,pT 2]]] (by simp)
  try simp at r4
  refine zAW r4 (by simp) rfl ?_
  simp
 refine cutA 11 0 [(2,.bool (ltI 200 v2))] [(zJx.d p1),[iI v2],[.fn (.func 12) [] [pT 1,pT 2]]]<|zAA ?_
 cases h
 simp
theorem zG4(c1:UInt8)(r:Int)(h:zCC c1=some r):Pure Tryz.prog 75 [.int .u8 c1.toNat] (iI r):=by
 rw[zCC] at h
 refine zAG Tryz.func75 (by rfl) (by rfl) (by simp) (by simp) (by simp)<|cutA 30 0 [(0,.int .u8 c1.toNat)] []<|zAE<|zAH<|cut 30 0 [(0,.int .u8 c1.toNat),(3,.bool ((leI 97 c1.toNat)&&(leI c1.toNat 122)))] [] ?_ ?_
 ·rcases tf (leI 97 c1.toNat) with g2|g2
  ·have c3:=leT g2
   refine st ?_
   simp[g2]
  have c4:=leF g2
  refine st ?_
  simp[g2]
 rcases sp h with ⟨g5,h⟩|⟨g5,h⟩
 ·obtain⟨g6,g7⟩:=andT g5
  have c8:=leT g6
  have c9:=leT g7
  refine zBF rfl g5<|cutA 30 0 [(2,iI 1)] []<|zAA<|zAD<|zAB ?_
  cases h
  simp
 refine zHR rfl g5<|cut 30 0 [(0,.int .u8 c1.toNat),(10,.bool ((leI 65 c1.toNat)&&(leI c1.toNat 90)))] [] ?_ ?_
 ·rcases tf (leI 65 c1.toNat) with g10|g10
  ·have c11:=leT g10
   refine st ?_
   simp[g10]
  have c12:=leF g10
  refine st ?_
  simp[g10]
 rcases sp h with ⟨g13,h⟩|⟨g13,h⟩
 ·obtain⟨g14,g15⟩:=andT g13
  have c16:=leT g14
  have c17:=leT g15
  refine zBF rfl g13<|cutA 30 0 [(2,iI 2)] []<|zAA<|zAD<|zAB ?_
  cases h
  simp
 refine zHR rfl g13<|cut 30 0 [(0,.int .u8 c1.toNat),(17,.bool ((leI 48 c1.toNat)&&(leI c1.toNat 57)))] [] ?_ ?_
 ·rcases tf (leI 48 c1.toNat) with g18|g18
  ·have c19:=leT g18
   refine st ?_
   simp[g18]
  have c20:=leF g18
  refine st ?_
  simp[g18]
 rcases sp h with ⟨g21,h⟩|⟨g21,h⟩
 ·obtain⟨g22,g23⟩:=andT g21
  have c24:=leT g22
  have c25:=leT g23
  refine zBF rfl g21<|cutA 30 0 [(2,iI 3)] []<|zAA<|zAD<|zAB ?_
  cases h
  simp
 refine zHR rfl g21<|cutA 30 0 [(0,.int .u8 c1.toNat),(24,.bool (eqI c1.toNat 95))] []<|spc h rfl (fun g26 h=>?_) fun g26 h=>?_
 ·have c27:=eqT g26
  refine cutA 30 0 [(2,iI 4)] []<|zAA<|zAD<|zAB ?_
  cases h
  simp
 have c28:=eqF g26
 refine cutA 30 0 [(27,.bool (eqI c1.toNat 46))] []<|spc h rfl (fun g29 h=>?_) fun g29 h=>?_
 ·have c30:=eqT g29
  refine cutA 30 0 [(2,iI 5)] []<|zAA<|zAD<|zAB ?_
  cases h
  simp
 have c31:=eqF g29
 refine zAC<|zDA<|zAF<|cutA 30 0 [(2,iI 0)] []<|zAA ?_
 cases h
 simp
theorem zEr(fuel:Nat)(s1:(List UInt8))(first2:Int)(r:Bool)(h:zCk fuel s1 first2=some r):Pure Tryz.prog 164 [.str s1,iI first2] (.bool r):=by
 rw[zCk] at h
 refine zAG Tryz.func164 (by rfl) (by rfl) (by simp) (by simp) (by simp)<|cutA 38 0 [(0,.str s1),(1,iI first2)] []<|zAE ?_
 obtain⟨b13,q14,h⟩:=bs h
 refine cut 38 0 [(0,.str s1),(21,.bool b13)] [] ?_ ?_
 ·rcases sp q14 with ⟨g3,q14⟩|⟨g3,q14⟩
  ·obtain rfl:=oi q14
   refine st ?_
   simp[g3]
  rcases sp q14 with ⟨g4,q14⟩|⟨g4,q14⟩
  ·have c5:=ltT g4
   refine zGn 0 rfl fun f6=>?_
   obtain rfl:=oi q14
   refine st ?_
   simp[g3,g4]
  have c7:=ltF g4
  refine zGn 0 rfl fun f8=>?_
  obtain⟨c9,q10,q14⟩:=bs q14
  obtain⟨v11,q12,q14⟩:=bs q14
  obtain rfl:=oi q14
  refine st ?_
  simp[g3,g4,q10]
  have r46:=zG4 c9 v11 q12
  try simp[g3,g4,q10] at r46
  refine cP r46 ?_
  simp[g3,g4,q10]
 refine spc h rfl (fun g15 h=>?_) fun g15 h=>?_
 ·refine cutA 38 0 [(4,.bool false)] []<|zAA<|zAB ?_
  cases h
  simp
 refine zAC<|zAF<|zAE ?_
 obtain⟨l16,q17,h⟩:=bs h
 obtain⟨q18,q19⟩:=bytesC_ok q17
 refine cut 38 0 [(23,.sl (l16.map cU)),(24,iI l16.length),(25,iI 0)] [] (st (by simp[q18,q19]))<|zAH ?_
 obtain⟨o22,l23,h⟩:=bs h
 refine zCI (fun p:Nat×Nat=>mkS 38 0 [(23,.sl (l16.map cU)),(24,iI l16.length),(25,iI p.2)] []) (fun p=>zBw l16 p.1 p.2=some o22) (fun p=>p.1) (fuel,0) l23 (zBO (by simp)) ?_
 rintro⟨k24,i20⟩ l23
 try dsimp only at l23 ⊢
 cases k24 with
 |zero=>
  rw[zBw] at l23;cases l23
 |succ k25=>
  rw[zBw] at l23
  refine cutA 38 0 [(23,.sl (l16.map cU)),(24,iI l16.length),(25,iI i20),(26,.bool (ltI i20 l16.length))] []<|zAE<|spc l23 rfl (fun g26 l23=>?_) fun g26 l23=>?_
  ·have c27:=ltT g26
   refine zE4 23 rfl fun f28=>?_
   rw[zq4] at f28
   refine zAC<|zAF<|zAE<|zAH ?_
   obtain⟨x29,q30,l23⟩:=bs l23
   refine cut 38 0 [(6,.int .u8 x29.toNat),(23,.sl (l16.map cU)),(24,iI l16.length),(25,iI i20)] [] (st (by simp[q30])) ?_
   obtain⟨v31,q32,l23⟩:=bs l23
   refine cut 38 0 [(7,iI v31),(23,.sl (l16.map cU)),(24,iI l16.length),(25,iI i20)] [] ?_ ?_
   ·refine st ?_
    simp
    have r42:=zG4 x29 v31 q32
    try simp at r42
    refine cP r42 ?_
    simp
   refine cut 38 0 [(23,.sl (l16.map cU)),(24,iI l16.length),(25,iI i20),(36,.bool ((eqI v31 0)||(eqI v31 5)))] [] ?_ ?_
   ·rcases tf (eqI v31 0) with g33|g33
    ·have c34:=eqT g33
     refine st ?_
     simp[g33]
    have c35:=eqF g33
    refine st ?_
    simp[g33]
   rcases sp l23 with ⟨g36,l23⟩|⟨g36,l23⟩
   ·refine zBF rfl g36<|cutA 38 0 [(4,.bool false)] []<|zAA<|zAD<|zAB ?_
    replace h:=retL l23 h
    refine zAB<|zAD<|zAB ?_
    cases h
    simp
   obtain⟨g37,g38⟩:=orF g36
   have c39:=eqF g37
   have c40:=eqF g38
   refine zHR rfl g36<|zAC<|zDA<|zAF ?_
   have q41:Rng .i64 (((i20:Nat):Int)+1):=by simp only[Rng,inR];omega
   try simp at q41
   refine last 38 0 [(23,.sl (l16.map cU)),(24,iI l16.length),(25,iI ((i20+1:Nat):Int))] [] (st (by simp[q41])) fun zz hs=>?_
   exact⟨(k25,i20+1),hs,l23,by simp⟩
  have c43:=ltF g26
  refine zE4 23 rfl fun f44=>?_
  rw[zq4] at f44
  refine zBP<|zAU ?_
  rcases o22 with o22|o21
  ·cases l23
  have q45:=Sum.inr.inj (zqa l23)
  replace h:=zEk h
  refine zAU<|zBU<|zCh (t:=mkS 38 0 [] []) ?_ (zBO (by simp))
  refine cutA 38 0 [(4,.bool true)] []<|zAA ?_
  cases h
  simp
theorem zFW(fuel:Nat)(s1:(List (List UInt8)))(v2:(List UInt8))(r:Int)(h:zCX fuel s1 v2=some r):Pure Tryz.prog 237 [.sl (s1.map cS),.str v2] (iI r):=by
 rw[zCX] at h
 refine zAG Tryz.func237 (by rfl) (by rfl) (by simp) (by simp) (by simp)<|cutA 19 0 [(0,.sl (s1.map cS)),(1,.str v2)] []<|zAE<|cutA 19 0 [(0,.sl (s1.map cS)),(1,.str v2),(7,iI s1.length),(8,iI 0)] []<|zAH ?_
 obtain⟨o5,l6,h⟩:=bs h
 refine zCI (fun p:Nat×Nat=>mkS 19 0 [(0,.sl (s1.map cS)),(1,.str v2),(7,iI s1.length),(8,iI p.2)] []) (fun p=>zAs s1 v2 p.1 p.2=some o5) (fun p=>p.1) (fuel,0) l6 (zBO (by simp)) ?_
 rintro⟨k7,i3⟩ l6
 try dsimp only at l6 ⊢
 cases k7 with
 |zero=>
  rw[zAs] at l6;cases l6
 |succ k8=>
  rw[zAs] at l6
  refine cutA 19 0 [(0,.sl (s1.map cS)),(1,.str v2),(7,iI s1.length),(8,iI i3),(9,.bool (ltI i3 s1.length))] []<|zAE<|spc l6 rfl (fun g9 l6=>?_) fun g9 l6=>?_
  ·have c10:=ltT g9
   refine zE4 0 rfl fun f11=>?_
   rw[zq4] at f11
   refine zAC<|zAF<|zAE<|zAH<|cutA 19 0 [(0,.sl (s1.map cS)),(1,.str v2),(5,iI i3),(7,iI s1.length),(8,iI i3)] [] ?_
   obtain⟨x12,q13,l6⟩:=bs l6
   refine cut 19 0 [(0,.sl (s1.map cS)),(1,.str v2),(5,iI i3),(7,iI s1.length),(8,iI i3),(16,.bool (eqS v2 x12))] [] (st (by simp[q13]))<|spc l6 rfl (fun g14 l6=>?_) fun g14 l6=>?_
   ·refine cutA 19 0 [(4,iI i3)] []<|zAA<|zAD<|zAB ?_
    replace h:=retL l6 h
    refine zAB<|zAD<|zAB ?_
    cases h
    simp
   refine zAC<|zDA<|zAF ?_
   have q15:Rng .i64 (((i3:Nat):Int)+1):=by simp only[Rng,inR];omega
   try simp at q15
   refine last 19 0 [(0,.sl (s1.map cS)),(1,.str v2),(7,iI s1.length),(8,iI ((i3+1:Nat):Int))] [] (st (by simp[q15])) fun zz hs=>?_
   exact⟨(k8,i3+1),hs,l6,by simp⟩
  have c16:=ltF g9
  refine zE4 0 rfl fun f17=>?_
  rw[zq4] at f17
  refine zBP<|zAU ?_
  rcases o5 with o5|o4
  ·cases l6
  have q18:=Sum.inr.inj (zqa l6)
  replace h:=zEk h
  refine zAU<|zBU<|zCh (t:=mkS 19 0 [] []) ?_ (zBO (by simp))
  refine cutA 19 0 [(4,iI (-1))] []<|zAA ?_
  cases h
  simp
theorem zDp(fuel:Nat)(s1:(List (List UInt8)))(v2:(List UInt8))(r:Bool)(h:zAi fuel s1 v2=some r):Pure Tryz.prog 213 [.sl (s1.map cS),.str v2] (.bool r):=by
 rw[zAi] at h
 refine zAG Tryz.func213 (by rfl) (by rfl) (by simp) (by simp) (by simp)<|cutA 9 0 [(0,.sl (s1.map cS)),(1,.str v2)] [] ?_
 obtain⟨v3,q4,h⟩:=bs h
 refine cut 9 0 [(4,.bool (leI 0 v3))] [] ?_ ?_
 ·refine st ?_
  simp
  have r5:=zFW fuel s1 v2 v3 q4
  try simp at r5
  refine cP r5 ?_
  simp
 refine zAA ?_
 cases h
 simp
theorem ident_word_ok(fuel:Nat)(s1:(List UInt8))(r:Bool)(h:zEM fuel s1=some r):Pure Tryz.prog 165 [.str s1] (.bool r):=by
 rw[zEM] at h
 refine zAG Tryz.func165 (by rfl) (by rfl) (by simp) (by simp) (by simp)<|cutA 6 0 [(0,.str s1)] [] ?_
 obtain⟨v2,q3,h⟩:=bs h
 obtain⟨v4,q5,h⟩:=bs h
 refine cut 6 0 [(2,.bool v4)] [] ?_ ?_
 ·refine st ?_
  simp
  have r6:=zFP [97,110,100,97,108,115,111,32,99,97,115,101,32,100,97,116,97,32,100,105,118,32,101,108,115,101,32,101,110,100,32,102,110,32,102,117,110,32,102,117,110,99,116,111,114,32,103,101,110,101,114,97,116,105,118,101,32,105,102,32,105,109,112,111,114,116,32,105,110,32,105,110,99,108,117,100,101,32,108,101,116,32,109,111,100,32,109,111,100,117,108,101,32,111,102,32,111,112,101,110,32,111,114,101,108,115,101,32,112,97,99,107,32,115,104,97,114,105,110,103,32,115,105,103,32,115,105,103,110,97,116,117,114,101,32,115,116,114,117,99,116,32,115,116,114,117,99,116,117,114,101,32,116,104,101,110,32,116,121,112,101,32,117,110,112,97,99,107,32,118,97,108,32,119,105,116,104] v2 q3
  try simp at r6
  refine cP r6 ?_
  simp
  have r7:=zDp fuel v2 s1 v4 q5
  try simp at r7
  refine cP r7 ?_
  simp
 refine zAA ?_
 cases h
 simp
theorem zAt(fuel:Nat)(s1:(List UInt8))(r:Bool)(h:zAw fuel s1=some r):Pure Tryz.prog 104 [.str s1] (.bool r):=by
 rw[zAw] at h
 refine zAG Tryz.func104 (by rfl) (by rfl) (by simp) (by simp) (by simp)<|cutA 10 0 [(0,.str s1)] [] ?_
 obtain⟨b7,q8,h⟩:=bs h
 refine cut 10 0 [(2,.bool b7)] [] ?_ ?_
 ·obtain⟨v2,q3,q8⟩:=bs q8
  rcases sp q8 with ⟨g4,q8⟩|⟨g4,q8⟩
  ·obtain⟨v5,q6,q8⟩:=bs q8
   obtain rfl:=oi q8
   refine st ?_
   simp[g4]
   have r9:=zEr fuel s1 1 v2 q3
   try simp[g4] at r9
   refine cP r9 ?_
   simp[g4]
   have r10:=ident_word_ok fuel s1 v5 q6
   try simp[g4] at r10
   refine cP r10 ?_
   simp[g4]
  obtain rfl:=oi q8
  refine st ?_
  simp[g4]
  have r11:=zEr fuel s1 1 v2 q3
  try simp[g4] at r11
  refine cP r11 ?_
  simp[g4]
 refine zAA ?_
 cases h
 simp
theorem zA1(fuel:Nat)(s1:(List UInt8))(r:Bool)(h:zA0 fuel s1=some r):Pure Tryz.prog 105 [.str s1] (.bool r):=by
 rw[zA0] at h
 refine zAG Tryz.func105 (by rfl) (by rfl) (by simp) (by simp) (by simp)<|cutA 5 0 [(0,.str s1)] [] ?_
 obtain⟨v2,q3,h⟩:=bs h
 refine cut 5 0 [(2,.bool v2)] [] ?_ ?_
 ·refine st ?_
  simp
  have r4:=zEr fuel s1 2 v2 q3
  try simp at r4
  refine cP r4 ?_
  simp
 refine zAA ?_
 cases h
 simp
theorem zId(fuel:Nat)(p1:zJx)(r:Bool)(h:zD8 fuel p1=some r):Pure Tryz.prog 52 [.agg (zJx.d p1)] (.bool r):=by
 rw[zD8] at h
 refine zAG Tryz.func52 (by rfl) (by rfl) (by simp) (by simp) (by simp)<|cutA 88 0 [(1,pT 0)] [(zJx.d p1)]<|cutA 88 0 [(1,pT 0),(3,iI p1.L.length)] [(zJx.d p1)]<|zAE<|cutA 88 0 [(1,pT 0),(3,iI p1.L.length),(8,iI p1.Op)] [(zJx.d p1)]<|zAH<|cutA 88 0 [(1,pT 0),(3,iI p1.L.length),(8,iI p1.Op),(9,.bool (eqI p1.Op 1))] [(zJx.d p1)] ?_
 refine spc h rfl (fun g2 h=>?_) fun g2 h=>?_
 ·refine cut 88 0 [(2,.bool ((eqI p1.L.length 0)&&((eqI p1.N 0)&&(eqS p1.S ([]:List UInt8)))))] [(zJx.d p1)] ?_ ?_
  ·rcases tf (eqI p1.L.length 0) with g4|g4
   ·have c5:=eqT g4
    rcases tf (eqI p1.N 0) with g6|g6
    ·have c7:=eqT g6
     refine st ?_
     simp[g4,g6]
    have c8:=eqF g6
    refine st ?_
    simp[g4,g6]
   have c9:=eqF g4
   refine st ?_
   simp[g4]
  refine zAA<|zAD<|zAB ?_
  cases h
  simp
 refine cutA 88 0 [(1,pT 0),(3,iI p1.L.length),(8,iI p1.Op),(23,.bool (eqI p1.Op 2))] [(zJx.d p1)]<|spc h rfl (fun g11 h=>?_) fun g11 h=>?_
 ·obtain⟨b21,q22,h⟩:=bs h
  refine cut 88 0 [(2,.bool b21)] [(zJx.d p1)] ?_ ?_
  ·rcases sp q22 with ⟨g13,q22⟩|⟨g13,q22⟩
   ·have c14:=eqT g13
    rcases sp q22 with ⟨g15,q22⟩|⟨g15,q22⟩
    ·have c16:=eqT g15
     obtain⟨v17,q18,q22⟩:=bs q22
     obtain rfl:=oi q22
     refine st ?_
     simp[g13,g15]
     have r23:=zAt fuel p1.S v17 q18
     try simp[g13,g15] at r23
     refine cP r23 ?_
     simp[g13,g15]
    have c19:=eqF g15
    obtain rfl:=oi q22
    refine st ?_
    simp[g13,g15]
   have c20:=eqF g13
   obtain rfl:=oi q22
   refine st ?_
   simp[g13]
  refine zAA<|zAD<|zAB ?_
  cases h
  simp
 refine cutA 88 0 [(1,pT 0),(3,iI p1.L.length),(8,iI p1.Op),(37,.bool (eqI p1.Op 3))] [(zJx.d p1)]<|spc h rfl (fun g25 h=>?_) fun g25 h=>?_
 ·refine cut 88 0 [(2,.bool ((eqI p1.L.length 0)&&((eqS p1.S ([]:List UInt8))&&((leI (-4503599627370496) p1.N)&&(leI p1.N 4503599627370496)))))] [(zJx.d p1)] ?_ ?_
  ·rcases tf (eqI p1.L.length 0) with g27|g27
   ·have c28:=eqT g27
    rcases tf (eqS p1.S ([]:List UInt8)) with g29|g29
    ·rcases tf (leI (-4503599627370496) p1.N) with g30|g30
     ·have c31:=leT g30
      refine st ?_
      simp[g27,g29,g30]
     have c32:=leF g30
     refine st ?_
     simp[g27,g29,g30]
    refine st ?_
    simp[g27,g29]
   have c33:=eqF g27
   refine st ?_
   simp[g27]
  refine zAA<|zAD<|zAB ?_
  cases h
  simp
 refine cutA 88 0 [(1,pT 0),(3,iI p1.L.length),(8,iI p1.Op),(56,.bool (eqI p1.Op 4))] [(zJx.d p1)]<|spc h rfl (fun g35 h=>?_) fun g35 h=>?_
 ·obtain⟨b47,q48,h⟩:=bs h
  refine cut 88 0 [(2,.bool b47)] [(zJx.d p1)] ?_ ?_
  ·rcases sp q48 with ⟨g37,q48⟩|⟨g37,q48⟩
   ·have c38:=leT g37
    refine zDt 0 3 rfl rfl rfl fun f39=>?_
    rw[zq4] at f39
    rcases sp q48 with ⟨g40,q48⟩|⟨g40,q48⟩
    ·have c41:=eqT g40
     obtain⟨v42,q43,q48⟩:=bs q48
     obtain rfl:=oi q48
     refine st ?_
     simp[g37,g40]
     have r49:=zA1 fuel p1.S v42 q43
     try simp[g37,g40] at r49
     refine cP r49 ?_
     simp[g37,g40]
    have c44:=eqF g40
    obtain rfl:=oi q48
    refine st ?_
    simp[g37,g40]
   have c45:=leF g37
   refine zDt 0 3 rfl rfl rfl fun f46=>?_
   rw[zq4] at f46
   obtain rfl:=oi q48
   refine st ?_
   simp[g37]
  refine zAA<|zAD<|zAB ?_
  cases h
  simp
 refine cutA 88 0 [(1,pT 0),(3,iI p1.L.length),(70,.bool (eqI p1.Op 5))] [(zJx.d p1)]<|spc h rfl (fun g51 h=>?_) fun g51 h=>?_
 ·refine cut 88 0 [(2,.bool ((!(eqI p1.L.length 1))&&((leI p1.L.length 9)&&((eqI p1.N 0)&&(eqS p1.S ([]:List UInt8))))))] [(zJx.d p1)] ?_ ?_
  ·rcases tf (!(eqI p1.L.length 1)) with g53|g53
   ·have g54:=notT g53
    have c55:=eqF g54
    rcases tf (leI p1.L.length 9) with g56|g56
    ·have c57:=leT g56
     refine zDt 0 3 rfl rfl rfl fun f58=>?_
     rw[zq4] at f58
     rcases tf (eqI p1.N 0) with g59|g59
     ·have c60:=eqT g59
      refine st ?_
      simp[g53,g56,g59]
     have c61:=eqF g59
     refine st ?_
     simp[g53,g56,g59]
    have c62:=leF g56
    refine zDt 0 3 rfl rfl rfl fun f63=>?_
    rw[zq4] at f63
    refine st ?_
    simp[g53,g56]
   have g64:=notF g53
   have c65:=eqT g64
   refine st ?_
   simp[g53]
  refine zAA<|zAD<|zAB ?_
  cases h
  simp
 refine zAC<|zDA<|zAF<|cutA 88 0 [(2,.bool false)] [(zJx.d p1)]<|zAA ?_
 cases h
 simp
theorem zGw(fuel:Nat):(∀(p1:zJx)(left2:Int)(depth3:Int)(r:Int×Bool)(_:zBe fuel p1 left2 depth3=some r),Pure Tryz.prog 23 [.agg (zJx.d p1),iI left2,iI depth3] (.tup [iI r.1,.bool r.2])):=by
 induction fuel with
 |zero=>intro p1 left2 depth3 r h;rw[zBe] at h;cases h
 |succ fuel zG3=>
  intro p1 left2 depth3 r h
  rw[zBe] at h
  refine zAG Tryz.func23 (by rfl) (by rfl) (by simp) (by simp) (by simp)<|cutA 48 0 [(1,iI left2),(2,iI depth3),(3,pT 0)] [(zJx.d p1)]<|zAE ?_
  obtain⟨b12,q13,h⟩:=bs h
  refine cut 48 0 [(1,iI left2),(2,iI depth3),(3,pT 0),(23,.bool b12)] [(zJx.d p1)] ?_ ?_
  ·rcases sp q13 with ⟨g4,q13⟩|⟨g4,q13⟩
   ·have c5:=leT g4
    obtain rfl:=oi q13
    refine st ?_
    simp[g4]
   have c6:=leF g4
   rcases sp q13 with ⟨g7,q13⟩|⟨g7,q13⟩
   ·have c8:=ltT g7
    obtain rfl:=oi q13
    refine st ?_
    simp[g4,g7]
   have c9:=ltF g7
   obtain⟨v10,q11,q13⟩:=bs q13
   obtain rfl:=oi q13
   refine st ?_
   simp[g4,g7]
   have r52:=zId fuel p1 v10 q11
   try simp[g4,g7] at r52
   refine cP r52 ?_
   simp[g4,g7]
  refine spc h rfl (fun g14 h=>?_) fun g14 h=>?_
  ·refine cutA 48 0 [(6,iI 0),(7,.bool false)] [(zJx.d p1)]<|zAA<|zAB ?_
   cases h
   simp
  refine zAC<|zAF<|cutA 48 0 [(1,iI left2),(2,iI depth3),(3,pT 0),(8,iI 1)] [(zJx.d p1)]<|zAE<|cutA 48 0 [(1,iI left2),(2,iI depth3),(8,iI 1),(25,.sl (p1.L.map zJx.c)),(26,iI p1.L.length),(27,iI 0)] [(zJx.d p1)]<|zAH ?_
  obtain⟨o18,l19,h⟩:=bs h
  refine zCI (fun p:Nat×Int×Nat=>mkS 48 0 [(1,iI left2),(2,iI depth3),(8,iI p.2.1),(25,.sl (p1.L.map zJx.c)),(26,iI p1.L.length),(27,iI p.2.2)] [(zJx.d p1)]) (fun p=>zBd (zBe fuel) p1 left2 depth3 p.1 p.2.1 p.2.2=some o18) (fun p=>p.1) (fuel,1,0) l19 (zBO (by simp)) ?_
  rintro⟨k20,n15,i16⟩ l19
  try dsimp only at l19 ⊢
  cases k20 with
  |zero=>
   rw[zBd] at l19;cases l19
  |succ k21=>
   rw[zBd] at l19
   refine cutA 48 0 [(1,iI left2),(2,iI depth3),(8,iI n15),(25,.sl (p1.L.map zJx.c)),(26,iI p1.L.length),(27,iI i16),(28,.bool (ltI i16 p1.L.length))] [(zJx.d p1)]<|zAE<|spc l19 rfl (fun g22 l19=>?_) fun g22 l19=>?_
   ·have c23:=ltT g22
    refine zE4 25 rfl fun f24=>?_
    rw[zq4] at f24
    refine zAC<|zAF<|zAE<|zAH ?_
    obtain⟨x25,q26,l19⟩:=bs l19
    refine cut 48 0 [(1,iI left2),(2,iI depth3),(8,iI n15),(10,pT 1),(25,.sl (p1.L.map zJx.c)),(26,iI p1.L.length),(27,iI i16)] [(zJx.d p1),(zJx.d x25)] (st (by simp[q26])) ?_
    obtain⟨n27,q28,l19⟩:=bs l19
    obtain⟨q29,q30⟩:=zDu q28
    try simp at q29
    try simp at q30
    have c31:=q29;simp only[Rng,inR] at c31
    obtain⟨n32,q33,l19⟩:=bs l19
    obtain⟨q34,q35⟩:=zDu q33
    try simp at q34
    try simp at q35
    have c36:=q34;simp only[Rng,inR] at c36
    obtain⟨v37,q38,l19⟩:=bs l19
    refine cut 48 0 [(1,iI left2),(2,iI depth3),(8,iI n15),(11,iI v37.1),(12,.bool v37.2),(25,.sl (p1.L.map zJx.c)),(26,iI p1.L.length),(27,iI i16)] [(zJx.d p1),(zJx.d x25)] ?_ ?_
    ·refine st ?_
     simp[q29,q30,q34,q35]
     have r48:=zG3 x25 n27 n32 v37 q38
     try simp[q29,q30,q34,q35] at r48
     refine cP r48 ?_
     simp[q29,q30,q34,q35]
    refine zAE<|cutA 48 0 [(1,iI left2),(2,iI depth3),(8,iI n15),(11,iI v37.1),(25,.sl (p1.L.map zJx.c)),(26,iI p1.L.length),(27,iI i16),(42,.bool (!v37.2))] [(zJx.d p1),(zJx.d x25)]<|spc l19 rfl (fun g39 l19=>?_) fun g39 l19=>?_
    ·have g40:=notT g39
     refine cutA 48 0 [(6,iI 0),(7,.bool false)] [(zJx.d p1),(zJx.d x25)]<|zAA<|zAB<|zAD<|zAB ?_
     replace h:=retL l19 h
     refine zAB<|zAD<|zAB ?_
     cases h
     simp
    have g41:=notF g39
    refine zAC<|zAF ?_
    obtain⟨n42,q43,l19⟩:=bs l19
    obtain⟨q44,q45⟩:=zDu q43
    try simp at q44
    try simp at q45
    have c46:=q44;simp only[Rng,inR] at c46
    refine last 48 0 [(1,iI left2),(2,iI depth3),(8,iI n42),(25,.sl (p1.L.map zJx.c)),(26,iI p1.L.length),(27,iI i16)] [(zJx.d p1),(zJx.d x25)] (st (by simp[q44,q45])) fun zz hs=>?_
    refine zDA<|zCh ?_ hs
    have q47:Rng .i64 (((i16:Nat):Int)+1):=by simp only[Rng,inR];omega
    try simp at q47
    refine last 48 0 [(1,iI left2),(2,iI depth3),(8,iI n42),(25,.sl (p1.L.map zJx.c)),(26,iI p1.L.length),(27,iI ((i16+1:Nat):Int))] [(zJx.d p1)] (st (by simp[q47])) fun zz hs=>?_
    exact⟨(k21,n42,i16+1),hs,l19,by simp⟩
   have c49:=ltF g22
   refine zE4 25 rfl fun f50=>?_
   rw[zq4] at f50
   refine zBP<|zAU ?_
   rcases o18 with o18|o17
   ·cases l19
   have q51:=Sum.inr.inj (zqa l19)
   replace h:=zEk h
   have q51:=q51.symm
   refine zAU<|zBU<|zCh (t:=mkS 48 0 [(8,iI o17)] [(zJx.d p1)]) ?_ (zBO (by simp[q51]))
   refine cutA 48 0 [(6,iI o17),(7,.bool true)] [(zJx.d p1)]<|zAA ?_
   cases h
   simp
theorem zGx(name1:(List UInt8))(c2:Bool)(c3:(List (List UInt8×Bool)))(r:Bool×(List (List UInt8×Bool)))(h:zDg name1 c2 c3=some r):Raw Tryz.prog 25 [.str name1,pT 0,pT 1] [[.bool c2],[.omp (mks c3) (mvs AV.bool c3)]] (.tup []) [[.bool r.1],[.omp (mks r.2) (mvs AV.bool r.2)]]:=by
 rw[zDg] at h
 refine zAl Tryz.func25 (by rfl) (by rfl) (by simp) (by simp)<|cut 13 2 [(0,.str name1),(2,pT 1)] [[.bool (c2&&(!(mgetD c3 name1 false)))],[.omp (mks c3) (mvs AV.bool c3)]] ?_ ?_
 ·rcases tf (c2) with g4|g4
  ·refine st ?_
   simp[g4]
  refine st ?_
  simp[g4]
 cases h
 refine st ?_
 simp
theorem zEi(fuel:Nat):(∀(p1:zJx)(c2:Bool)(c3:(List (List UInt8×Bool)))(r:Bool×(List (List UInt8×Bool)))(_:zAL fuel p1 c2 c3=some r),Raw Tryz.prog 24 [.agg (zJx.d p1),.fn (.func 25) [] [pT 0,pT 1]] [[.bool c2],[.omp (mks c3) (mvs AV.bool c3)]] (.tup []) [[.bool r.1],[.omp (mks r.2) (mvs AV.bool r.2)]]):=by
 induction fuel with
 |zero=>intro p1 c2 c3 r h;rw[zAL] at h;cases h
 |succ fuel zDI=>
  intro p1 c2 c3 r h
  rw[zAL] at h
  refine zAl Tryz.func24 (by rfl) (by rfl) (by simp) (by simp)<|cutA 24 2 [(1,.fn (.func 25) [] [pT 0,pT 1]),(2,pT 2)] [[.bool c2],[.omp (mks c3) (mvs AV.bool c3)],(zJx.d p1)]<|zAE<|cutA 24 2 [(1,.fn (.func 25) [] [pT 0,pT 1]),(2,pT 2),(8,.bool (eqI p1.Op 2))] [[.bool c2],[.omp (mks c3) (mvs AV.bool c3)],(zJx.d p1)]<|spc h rfl (fun g4 h=>?_) fun g4 h=>?_
  ·obtain⟨v6,q7,h⟩:=bs h
   refine last 24 2 [(1,.fn (.func 25) [] [pT 0,pT 1]),(2,pT 2)] [[.bool v6.1],[.omp (mks v6.2) (mvs AV.bool v6.2)],(zJx.d p1)] ?_ fun zz hs=>?_
   ·refine st ?_
    simp
    have r29:=(zGx p1.S c2 c3 v6 q7).frame [0,1] [[.bool c2],[.omp (mks c3) (mvs AV.bool c3)],(zJx.d p1)] (by simp)
    try simp at r29
    refine zAW r29 (by simp) rfl ?_
    simp
   refine zCh ?_ hs
   refine cutA 24 2 [(1,.fn (.func 25) [] [pT 0,pT 1]),(14,.sl (p1.L.map zJx.c)),(15,iI p1.L.length),(16,iI 0)] [[.bool v6.1],[.omp (mks v6.2) (mvs AV.bool v6.2)],(zJx.d p1)]<|zAH ?_
   obtain⟨o11,l12,h⟩:=bs h
   refine zCI (fun p:Nat×Bool×(List (List UInt8×Bool))×Nat=>mkS 24 2 [(1,.fn (.func 25) [] [pT 0,pT 1]),(14,.sl (p1.L.map zJx.c)),(15,iI p1.L.length),(16,iI p.2.2.2)] [[.bool p.2.1],[.omp (mks p.2.2.1) (mvs AV.bool p.2.2.1)],(zJx.d p1)]) (fun p=>zAa (zAL fuel) p1 p.1 p.2.1 p.2.2.1 p.2.2.2=some o11) (fun p=>p.1) (fuel,v6.1,v6.2,0) l12 (zBO (by simp)) ?_
   rintro⟨k13,a8,a9,i10⟩ l12
   try dsimp only at l12 ⊢
   cases k13 with
   |zero=>
    rw[zAa] at l12;cases l12
   |succ k14=>
    rw[zAa] at l12
    refine cutA 24 2 [(1,.fn (.func 25) [] [pT 0,pT 1]),(14,.sl (p1.L.map zJx.c)),(15,iI p1.L.length),(16,iI i10),(17,.bool (ltI i10 p1.L.length))] [[.bool a8],[.omp (mks a9) (mvs AV.bool a9)],(zJx.d p1)]<|zAE<|spc l12 rfl (fun g15 l12=>?_) fun g15 l12=>?_
    ·have c16:=ltT g15
     refine zE4 14 rfl fun f17=>?_
     rw[zq4] at f17
     refine zAC<|zAF<|zAE<|zAH ?_
     obtain⟨x18,q19,l12⟩:=bs l12
     refine cut 24 2 [(1,.fn (.func 25) [] [pT 0,pT 1]),(5,pT 3),(14,.sl (p1.L.map zJx.c)),(15,iI p1.L.length),(16,iI i10)] [[.bool a8],[.omp (mks a9) (mvs AV.bool a9)],(zJx.d p1),(zJx.d x18)] (st (by simp[q19])) ?_
     obtain⟨v20,q21,l12⟩:=bs l12
     refine last 24 2 [(1,.fn (.func 25) [] [pT 0,pT 1]),(14,.sl (p1.L.map zJx.c)),(15,iI p1.L.length),(16,iI i10)] [[.bool v20.1],[.omp (mks v20.2) (mvs AV.bool v20.2)],(zJx.d p1),(zJx.d x18)] ?_ fun zz hs=>?_
     ·refine st ?_
      simp
      have r23:=(zDI x18 a8 a9 v20 q21).frame [0,1] [[.bool a8],[.omp (mks a9) (mvs AV.bool a9)],(zJx.d p1),(zJx.d x18)] (by simp)
      try simp at r23
      refine zAW r23 (by simp) rfl ?_
      simp
     refine zDA<|zCh ?_ hs
     have q22:Rng .i64 (((i10:Nat):Int)+1):=by simp only[Rng,inR];omega
     try simp at q22
     refine last 24 2 [(1,.fn (.func 25) [] [pT 0,pT 1]),(14,.sl (p1.L.map zJx.c)),(15,iI p1.L.length),(16,iI ((i10+1:Nat):Int))] [[.bool v20.1],[.omp (mks v20.2) (mvs AV.bool v20.2)],(zJx.d p1)] (st (by simp[q22])) fun zz hs=>?_
     exact⟨(k14,v20.1,v20.2,i10+1),hs,l12,by simp⟩
    have c24:=ltF g15
    refine zE4 14 rfl fun f25=>?_
    rw[zq4] at f25
    refine zBP<|zAU ?_
    have q26:=zqa l12
    have q27:o11.1=a8:=by rw[<-q26]
    have q28:o11.2=a9:=by rw[<-q26]
    refine zAU<|zBU ?_
    cases h
    simp[q27,q28]
  refine zAC<|zAF<|cutA 24 2 [(1,.fn (.func 25) [] [pT 0,pT 1]),(14,.sl (p1.L.map zJx.c)),(15,iI p1.L.length),(16,iI 0)] [[.bool c2],[.omp (mks c3) (mvs AV.bool c3)],(zJx.d p1)]<|zAH ?_
  obtain⟨o34,l35,h⟩:=bs h
  refine zCI (fun p:Nat×Bool×(List (List UInt8×Bool))×Nat=>mkS 24 2 [(1,.fn (.func 25) [] [pT 0,pT 1]),(14,.sl (p1.L.map zJx.c)),(15,iI p1.L.length),(16,iI p.2.2.2)] [[.bool p.2.1],[.omp (mks p.2.2.1) (mvs AV.bool p.2.2.1)],(zJx.d p1)]) (fun p=>zAj (zAL fuel) p1 p.1 p.2.1 p.2.2.1 p.2.2.2=some o34) (fun p=>p.1) (fuel,c2,c3,0) l35 (zBO (by simp)) ?_
  rintro⟨k36,a31,a32,i33⟩ l35
  try dsimp only at l35 ⊢
  cases k36 with
  |zero=>
   rw[zAj] at l35;cases l35
  |succ k37=>
   rw[zAj] at l35
   refine cutA 24 2 [(1,.fn (.func 25) [] [pT 0,pT 1]),(14,.sl (p1.L.map zJx.c)),(15,iI p1.L.length),(16,iI i33),(17,.bool (ltI i33 p1.L.length))] [[.bool a31],[.omp (mks a32) (mvs AV.bool a32)],(zJx.d p1)]<|zAE<|spc l35 rfl (fun g38 l35=>?_) fun g38 l35=>?_
   ·have c39:=ltT g38
    refine zE4 14 rfl fun f40=>?_
    rw[zq4] at f40
    refine zAC<|zAF<|zAE<|zAH ?_
    obtain⟨x41,q42,l35⟩:=bs l35
    refine cut 24 2 [(1,.fn (.func 25) [] [pT 0,pT 1]),(5,pT 3),(14,.sl (p1.L.map zJx.c)),(15,iI p1.L.length),(16,iI i33)] [[.bool a31],[.omp (mks a32) (mvs AV.bool a32)],(zJx.d p1),(zJx.d x41)] (st (by simp[q42])) ?_
    obtain⟨v43,q44,l35⟩:=bs l35
    refine last 24 2 [(1,.fn (.func 25) [] [pT 0,pT 1]),(14,.sl (p1.L.map zJx.c)),(15,iI p1.L.length),(16,iI i33)] [[.bool v43.1],[.omp (mks v43.2) (mvs AV.bool v43.2)],(zJx.d p1),(zJx.d x41)] ?_ fun zz hs=>?_
    ·refine st ?_
     simp
     have r46:=(zDI x41 a31 a32 v43 q44).frame [0,1] [[.bool a31],[.omp (mks a32) (mvs AV.bool a32)],(zJx.d p1),(zJx.d x41)] (by simp)
     try simp at r46
     refine zAW r46 (by simp) rfl ?_
     simp
    refine zDA<|zCh ?_ hs
    have q45:Rng .i64 (((i33:Nat):Int)+1):=by simp only[Rng,inR];omega
    try simp at q45
    refine last 24 2 [(1,.fn (.func 25) [] [pT 0,pT 1]),(14,.sl (p1.L.map zJx.c)),(15,iI p1.L.length),(16,iI ((i33+1:Nat):Int))] [[.bool v43.1],[.omp (mks v43.2) (mvs AV.bool v43.2)],(zJx.d p1)] (st (by simp[q45])) fun zz hs=>?_
    exact⟨(k37,v43.1,v43.2,i33+1),hs,l35,by simp⟩
   have c47:=ltF g38
   refine zE4 14 rfl fun f48=>?_
   rw[zq4] at f48
   refine zBP<|zAU ?_
   have q49:=zqa l35
   have q50:o34.1=a31:=by rw[<-q49]
   have q51:o34.2=a32:=by rw[<-q49]
   refine zAU<|zBU ?_
   cases h
   simp[q50,q51]
theorem zH3(fuel:Nat)(p1:zJx)(r:Bool)(h:zDa fuel p1=some r):Pure Tryz.prog 13 [.agg (zJx.d p1)] (.bool r):=by
 rw[zDa] at h
 refine zAG Tryz.func13 (by rfl) (by rfl) (by simp) (by simp) (by simp)<|cutA 19 0 [(1,pT 0)] [(zJx.d p1)]<|zAE ?_
 obtain⟨v2,q3,h⟩:=bs h
 refine cut 19 0 [(1,pT 0),(4,.bool v2.2)] [(zJx.d p1)] ?_ ?_
 ·refine st ?_
  simp
  have r10:=zGw fuel p1 20000 1 v2 q3
  try simp at r10
  refine cP r10 ?_
  simp
 refine cutA 19 0 [(1,pT 0),(13,.bool (!v2.2))] [(zJx.d p1)]<|spc h rfl (fun g4 h=>?_) fun g4 h=>?_
 ·have g5:=notT g4
  refine cutA 19 0 [(2,.bool false)] [(zJx.d p1)]<|zAA<|zAB ?_
  cases h
  simp
 have g6:=notF g4
 refine zAC<|zAF<|cutA 19 0 [(1,pT 0),(5,pT 1)] [(zJx.d p1),[.omp (mks ([]:List (List UInt8×Bool))) (mvs AV.bool ([]:List (List UInt8×Bool)))]]<|cutA 19 0 [(1,pT 0),(5,pT 1),(6,pT 2)] [(zJx.d p1),[.omp (mks ([]:List (List UInt8×Bool))) (mvs AV.bool ([]:List (List UInt8×Bool)))],[.bool true]] ?_
 obtain⟨v7,q8,h⟩:=bs h
 refine cut 19 0 [(6,pT 2)] [(zJx.d p1),[.omp (mks v7.2) (mvs AV.bool v7.2)],[.bool v7.1]] ?_ ?_
 ·refine st ?_
  simp
  have r9:=(zEi fuel p1 true ([]:List (List UInt8×Bool)) v7 q8).frame [2,1] [(zJx.d p1),[.omp (mks ([]:List (List UInt8×Bool))) (mvs AV.bool ([]:List (List UInt8×Bool)))],[.bool true]] (by simp)
  try simp at r9
  refine zAW r9 (by simp) rfl ?_
  simp
 refine cutA 19 0 [(2,.bool v7.1)] [(zJx.d p1),[.omp (mks v7.2) (mvs AV.bool v7.2)],[.bool v7.1]]<|zAA ?_
 cases h
 simp
theorem zIc(fuel:Nat):(∀(p1:zJx)(r:(List UInt8))(_:zBr fuel p1=some r),Pure Tryz.prog 14 [.agg (zJx.d p1)] (.str r)):=by
 induction fuel with
 |zero=>intro p1 r h;rw[zBr] at h;cases h
 |succ fuel zF7=>
  intro p1 r h
  rw[zBr] at h
  refine zAG Tryz.func14 (by rfl) (by rfl) (by simp) (by simp) (by simp)<|cutA 81 0 [(1,pT 0)] [(zJx.d p1)]<|zAE<|cutA 81 0 [(1,pT 0),(8,iI p1.Op)] [(zJx.d p1)]<|zAH<|cutA 81 0 [(1,pT 0),(8,iI p1.Op),(9,.bool (eqI p1.Op 1))] [(zJx.d p1)]<|spc h rfl (fun g2 h=>?_) fun g2 h=>?_
  ·refine cutA 81 0 [(2,.str [95])] [(zJx.d p1)]<|zAA<|zAD<|zAB ?_
   cases h
   simp
  refine cutA 81 0 [(1,pT 0),(8,iI p1.Op),(11,.bool (eqI p1.Op 2))] [(zJx.d p1)]<|spc h rfl (fun g5 h=>?_) fun g5 h=>?_
  ·refine cutA 81 0 [(2,.str p1.S)] [(zJx.d p1)]<|zAA<|zAD<|zAB ?_
   cases h
   simp
  refine cutA 81 0 [(1,pT 0),(8,iI p1.Op),(15,.bool (eqI p1.Op 3))] [(zJx.d p1)]<|spc h rfl (fun g8 h=>?_) fun g8 h=>?_
  ·refine zAE<|cutA 81 0 [(1,pT 0),(19,.bool (ltI p1.N 0))] [(zJx.d p1)]<|spc h rfl (fun g10 h=>?_) fun g10 h=>?_
   ·have c11:=ltT g10
    obtain⟨n12,q13,h⟩:=bs h
    obtain⟨q14,q15⟩:=zDu q13
    try simp at q14
    try simp at q15
    obtain⟨v16,q17,h⟩:=bs h
    obtain⟨s18,q19,h⟩:=bs h
    obtain⟨q20,q21⟩:=zJl q19
    try simp at q20
    try simp at q21
    refine cut 81 0 [(2,.str s18)] [(zJx.d p1)] ?_ ?_
    ·refine st ?_
     simp[q14,q15,q20,q21]
     have r22:=zEw n12 v16 q17
     try simp[q14,q15,q20,q21] at r22
     refine cP r22 ?_
     simp[q14,q15,q20,q21]
    refine zAA<|zAB<|zAD<|zAB ?_
    cases h
    simp
   have c23:=ltF g10
   refine zAC<|zAF ?_
   obtain⟨v24,q25,h⟩:=bs h
   refine cut 81 0 [(2,.str v24)] [(zJx.d p1)] ?_ ?_
   ·refine st ?_
    simp
    have r26:=zEw p1.N v24 q25
    try simp at r26
    refine cP r26 ?_
    simp
   refine zAA<|zAD<|zAB ?_
   cases h
   simp
  refine cutA 81 0 [(1,pT 0),(28,.bool (eqI p1.Op 4))] [(zJx.d p1)]<|spc h rfl (fun g28 h=>?_) fun g28 h=>?_
  ·refine zAE<|cutA 81 0 [(1,pT 0),(33,.bool (eqI p1.L.length 0))] [(zJx.d p1)]<|spc h rfl (fun g30 h=>?_) fun g30 h=>?_
   ·have c31:=eqT g30
    refine cutA 81 0 [(2,.str p1.S)] [(zJx.d p1)]<|zAA<|zAB<|zAD<|zAB ?_
    cases h
    simp
   have c32:=eqF g30
   refine zAC<|zAF ?_
   obtain⟨x33,q34,h⟩:=bs h
   obtain⟨v35,q36,h⟩:=bs h
   refine cut 81 0 [(1,pT 0),(3,.str v35)] [(zJx.d p1)] ?_ ?_
   ·refine st ?_
    simp[q34]
    have r70:=zF7 x33 v35 q36
    try simp[q34] at r70
    refine cP r70 ?_
    simp[q34]
   refine zAE<|cut 81 0 [(1,pT 0),(3,.str v35),(55,.bool ((eqI x33.Op 4)&&(ltI 0 x33.L.length)))] [(zJx.d p1)] ?_ ?_
   ·rcases tf (eqI x33.Op 4) with g37|g37
    ·have c38:=eqT g37
     refine st ?_
     simp[q34,g37]
    have c39:=eqF g37
    refine st ?_
    simp[q34,g37]
   rcases sp h with ⟨g40,h⟩|⟨g40,h⟩
   ·obtain⟨g41,g42⟩:=andT g40
    have c43:=eqT g41
    have c44:=ltT g42
    refine zBF rfl g40 ?_
    obtain⟨s46,q47,h⟩:=bs h
    obtain⟨q48,q49⟩:=zJl q47
    try simp at q48
    try simp at q49
    obtain⟨s50,q51,h⟩:=bs h
    obtain⟨q52,q53⟩:=zJl q51
    try simp at q52
    try simp at q53
    refine last 81 0 [(1,pT 0),(3,.str s50)] [(zJx.d p1)] (st (by simp[q48,q49,q52,q53])) fun zz hs=>?_
    refine zCh ?_ hs
    obtain⟨s54,q55,h⟩:=bs h
    obtain⟨q56,q57⟩:=zJl q55
    try simp at q56
    try simp at q57
    obtain⟨s58,q59,h⟩:=bs h
    obtain⟨q60,q61⟩:=zJl q59
    try simp at q60
    try simp at q61
    refine cut 81 0 [(2,.str s58)] [(zJx.d p1)] (st (by simp[q56,q57,q60,q61]))<|zAA<|zAD<|zAB ?_
    cases h
    simp
   refine zHR rfl g40<|zAC<|zAF ?_
   obtain⟨s62,q63,h⟩:=bs h
   obtain⟨q64,q65⟩:=zJl q63
   try simp at q64
   try simp at q65
   obtain⟨s66,q67,h⟩:=bs h
   obtain⟨q68,q69⟩:=zJl q67
   try simp at q68
   try simp at q69
   refine cut 81 0 [(2,.str s66)] [(zJx.d p1)] (st (by simp[q64,q65,q68,q69]))<|zAA<|zAD<|zAB ?_
   cases h
   simp
  refine zAC<|zDA<|zAF<|cutA 81 0 [(1,pT 0),(4,.osl ⟨1,9⟩ (([]:List (List UInt8)).map cS))] [(zJx.d p1)]<|zAE<|cutA 81 0 [(4,.osl ⟨1,9⟩ (([]:List (List UInt8)).map cS)),(65,.sl (p1.L.map zJx.c)),(66,iI p1.L.length),(67,iI 0)] [(zJx.d p1)]<|zAH ?_
  obtain⟨o74,l75,h⟩:=bs h
  refine zCI (fun p:Nat×(List (List UInt8))×Nat=>mkS 81 0 [(4,.osl ⟨1,9⟩ (p.2.1.map cS)),(65,.sl (p1.L.map zJx.c)),(66,iI p1.L.length),(67,iI p.2.2)] [(zJx.d p1)]) (fun p=>zB5 (zBr fuel) p1 p.1 p.2.1 p.2.2=some o74) (fun p=>p.1) (fuel,([]:List (List UInt8)),0) l75 (zBO (by simp)) ?_
  rintro⟨k76,l72,i73⟩ l75
  try dsimp only at l75 ⊢
  cases k76 with
  |zero=>
   rw[zB5] at l75;cases l75
  |succ k77=>
   rw[zB5] at l75
   refine cutA 81 0 [(4,.osl ⟨1,9⟩ (l72.map cS)),(65,.sl (p1.L.map zJx.c)),(66,iI p1.L.length),(67,iI i73),(68,.bool (ltI i73 p1.L.length))] [(zJx.d p1)]<|zAE<|spc l75 rfl (fun g78 l75=>?_) fun g78 l75=>?_
   ·have c79:=ltT g78
    refine zE4 65 rfl fun f80=>?_
    rw[zq4] at f80
    refine zAC<|zAF<|zAE<|zAH ?_
    obtain⟨x81,q82,l75⟩:=bs l75
    refine cut 81 0 [(4,.osl ⟨1,9⟩ (l72.map cS)),(6,pT 1),(65,.sl (p1.L.map zJx.c)),(66,iI p1.L.length),(67,iI i73)] [(zJx.d p1),(zJx.d x81)] (st (by simp[q82])) ?_
    obtain⟨v83,q84,l75⟩:=bs l75
    obtain⟨l85,q86,l75⟩:=bs l75
    obtain⟨q87,q88⟩:=app_ok q86
    try simp at q87
    refine last 81 0 [(4,.osl ⟨1,9⟩ (l85.map cS)),(65,.sl (p1.L.map zJx.c)),(66,iI p1.L.length),(67,iI i73)] [(zJx.d p1),(zJx.d x81)] ?_ fun zz hs=>?_
    ·refine st ?_
     simp[q87,q88]
     have r90:=zF7 x81 v83 q84
     try simp[q87,q88] at r90
     refine cP r90 ?_
     simp[q87,q88]
    refine zDA<|zCh ?_ hs
    have q89:Rng .i64 (((i73:Nat):Int)+1):=by simp only[Rng,inR];omega
    try simp at q89
    refine last 81 0 [(4,.osl ⟨1,9⟩ (l85.map cS)),(65,.sl (p1.L.map zJx.c)),(66,iI p1.L.length),(67,iI ((i73+1:Nat):Int))] [(zJx.d p1)] (st (by simp[q89])) fun zz hs=>?_
    exact⟨(k77,l85,i73+1),hs,l75,by simp⟩
   have c91:=ltF g78
   refine zE4 65 rfl fun f92=>?_
   rw[zq4] at f92
   refine zBP<|zAU ?_
   have q93:=zqa l75
   have q93:=q93.symm
   refine zAU<|zBU<|zCh (t:=mkS 81 0 [(4,.osl ⟨1,9⟩ (o74.map cS))] [(zJx.d p1)]) ?_ (zBO (by simp[q93]))
   obtain⟨v94,q95,h⟩:=bs h
   obtain⟨s96,q97,h⟩:=bs h
   obtain⟨q98,q99⟩:=zJl q97
   try simp at q98
   try simp at q99
   obtain⟨s100,q101,h⟩:=bs h
   obtain⟨q102,q103⟩:=zJl q101
   try simp at q102
   try simp at q103
   refine cut 81 0 [(2,.str s100)] [(zJx.d p1)] ?_ ?_
   ·refine st ?_
    simp[q98,q99,q102,q103]
    have r104:=zF5 o74 [44,32] v94 q95
    try simp[q98,q99,q102,q103] at r104
    refine cP r104 ?_
    simp[q98,q99,q102,q103]
   refine zAA ?_
   cases h
   simp
theorem zIe(fuel:Nat)(p1:zJx)(r:(List UInt8)×Int)(h:zD9 fuel p1=some r):Pure Tryz.prog 6 [.agg (zJx.d p1)] (.tup [.str r.1,iI r.2]):=by
 rw[zD9] at h
 refine zAG Tryz.func6 (by rfl) (by rfl) (by simp) (by simp) (by simp)<|cutA 14 0 [(1,pT 0)] [(zJx.d p1)]<|zAE ?_
 obtain⟨v2,q3,h⟩:=bs h
 refine cut 14 0 [(1,pT 0),(7,.bool (!v2))] [(zJx.d p1)] ?_ ?_
 ·refine st ?_
  simp
  have r15:=zH3 fuel p1 v2 q3
  try simp at r15
  refine cP r15 ?_
  simp
 refine spc h rfl (fun g4 h=>?_) fun g4 h=>?_
 ·have g5:=notT g4
  refine cutA 14 0 [(2,.str ([]:List UInt8)),(3,iI 1)] [(zJx.d p1)]<|zAA<|zAB ?_
  cases h
  simp
 have g6:=notF g4
 refine zAC<|zAF ?_
 obtain⟨v7,q8,h⟩:=bs h
 refine cut 14 0 [(4,.str v7)] [(zJx.d p1)] ?_ ?_
 ·refine st ?_
  simp
  have r14:=zIc fuel p1 v7 q8
  try simp at r14
  refine cP r14 ?_
  simp
 refine zAE<|cutA 14 0 [(4,.str v7),(12,.bool (ltI 16384 v7.length))] [(zJx.d p1)]<|spc h rfl (fun g9 h=>?_) fun g9 h=>?_
 ·have c10:=ltT g9
  refine zGn 4 rfl fun f11=>?_
  refine cutA 14 0 [(2,.str ([]:List UInt8)),(3,iI 5)] [(zJx.d p1)]<|zAA<|zAB ?_
  cases h
  simp
 have c12:=ltF g9
 refine zGn 4 rfl fun f13=>?_
 refine zAC<|zAF<|cutA 14 0 [(2,.str v7),(3,iI 0)] [(zJx.d p1)]<|zAA ?_
 cases h
 simp
theorem zEe(s1:(List UInt8))(c2:UInt8)(r:Int)(h:zB1 s1 c2=some r):Pure Tryz.prog 109 [.str s1,.int .u8 c2.toNat] (iI r):=by
 rw[zB1] at h
 refine zAG Tryz.func109 (by rfl) (by rfl) (by simp) (by simp) (by simp)<|cutA 8 0 [(0,.str s1),(1,.int .u8 c2.toNat)] [] ?_
 obtain⟨v3,q4,h⟩:=bs h
 refine cut 8 0 [(4,iI v3)] [] ?_ ?_
 ·refine st ?_
  simp
  have r5:=zDw s1 c2 v3 q4
  try simp at r5
  refine cP r5 ?_
  simp
 refine zAA ?_
 cases h
 simp
theorem zDx(s1:(List UInt8))(prefix2:(List UInt8))(r:Bool)(h:zBC s1 prefix2=some r):Pure Tryz.prog 173 [.str s1,.str prefix2] (.bool r):=by
 rw[zBC] at h
 refine zAG Tryz.func173 (by rfl) (by rfl) (by simp) (by simp) (by simp)<|cutA 18 0 [(0,.str s1),(1,.str prefix2)] [] ?_
 obtain⟨b14,q15,h⟩:=bs h
 refine cut 18 0 [(4,.bool b14)] [] ?_ ?_
 ·rcases sp q15 with ⟨g3,q15⟩|⟨g3,q15⟩
  ·have c4:=leT g3
   refine zGn 1 rfl fun f5=>?_
   refine zGn 0 rfl fun f6=>?_
   obtain⟨s7,q8,q15⟩:=bs q15
   obtain⟨q9,q10⟩:=zDn q8
   try simp at q9
   try simp at q10
   obtain rfl:=oi q15
   refine st ?_
   simp[g3,q9,q10]
  have c11:=leF g3
  refine zGn 1 rfl fun f12=>?_
  refine zGn 0 rfl fun f13=>?_
  obtain rfl:=oi q15
  refine st ?_
  simp[g3]
 refine zAA ?_
 cases h
 simp
theorem zCg(s1:(List UInt8))(prefix2:(List UInt8))(r:Bool)(h:zA8 s1 prefix2=some r):Pure Tryz.prog 110 [.str s1,.str prefix2] (.bool r):=by
 rw[zA8] at h
 refine zAG Tryz.func110 (by rfl) (by rfl) (by simp) (by simp) (by simp)<|cutA 8 0 [(0,.str s1),(1,.str prefix2)] [] ?_
 obtain⟨v3,q4,h⟩:=bs h
 refine cut 8 0 [(4,.bool v3)] [] ?_ ?_
 ·refine st ?_
  simp
  have r5:=zDx s1 prefix2 v3 q4
  try simp at r5
  refine cP r5 ?_
  simp
 refine zAA ?_
 cases h
 simp
theorem zF0(fuel:Nat)(w1:zJs)(r:Int×zJs)(h:zBt fuel w1=some r):Raw Tryz.prog 56 [pT 0] [[.str w1.s,iI w1.at_]] (iI r.1) [[.str r.2.s,iI r.2.at_]]:=by
 rw[zBt] at h
 refine zAl Tryz.func56 (by rfl) (by rfl) (by simp) (by simp)<|cutA 105 1 [(0,pT 0)] [[.str w1.s,iI w1.at_]]<|zAE<|zAH ?_
 obtain⟨o4,l5,h⟩:=bs h
 refine zCI (fun p:Nat×Int=>mkS 105 1 [(0,pT 0)] [[.str w1.s,iI p.2]]) (fun p=>zA5 fuel w1 p.1 p.2=some o4) (fun p=>p.1) (fuel,w1.at_) l5 (zBO (by simp)) ?_
 rintro⟨k6,at2⟩ l5
 try dsimp only at l5 ⊢
 cases k6 with
 |zero=>
  rw[zA5] at l5;cases l5
 |succ k7=>
  rw[zA5] at l5
  refine zAE<|cut 105 1 [(0,pT 0),(15,.bool (ltI at2 w1.s.length))] [[.str w1.s,iI at2]] ?_ ?_
  ·refine zBS [] mixed (n:=105) rfl (by decide) ?_
   simp
  refine spc l5 rfl (fun g8 l5=>?_) fun g8 l5=>?_
  ·have c9:=ltT g8
   refine factCS 0 0 rfl rfl fun f10=>?_
   refine zAC<|zAF<|zAH ?_
   obtain⟨s11,q12,l5⟩:=bs l5
   obtain⟨q13,q14⟩:=zDn q12
   try simp at q13
   try simp at q14
   refine cut 105 1 [(0,pT 0),(3,.str s11)] [[.str w1.s,iI at2]] ?_ ?_
   ·refine zBS [] mixed (n:=105) rfl (by decide) ?_
    simp[q13,q14]
   refine zAH ?_
   obtain⟨c15,q16,l5⟩:=bs l5
   obtain⟨v17,q18,l5⟩:=bs l5
   refine cut 105 1 [(0,pT 0),(3,.str s11),(25,.bool (leI 0 v17))] [[.str w1.s,iI at2]] ?_ ?_
   ·refine st ?_
    simp[q16]
    have r90:=zEe [32,9,10] c15 v17 q18
    try simp[q16] at r90
    refine cP r90 ?_
    simp[q16]
   refine spc l5 rfl (fun g19 l5=>?_) fun g19 l5=>?_
   ·have c20:=leT g19
    obtain⟨n21,q22,l5⟩:=bs l5
    obtain⟨q23,q24⟩:=zDu q22
    try simp at q23
    try simp at q24
    have c25:=q23;simp only[Rng,inR] at c25
    refine last 105 1 [(0,pT 0)] [[.str w1.s,iI n21]] (st (by simp[q23,q24])) fun zz hs=>?_
    refine zDA<|zDA ?_
    exact⟨(k7,n21),hs,l5,by simp⟩
   have c26:=leF g19
   obtain⟨v27,q28,l5⟩:=bs l5
   refine cut 105 1 [(0,pT 0),(37,.bool v27)] [[.str w1.s,iI at2]] ?_ ?_
   ·refine st ?_
    simp
    have r89:=zCg s11 [40,42] v27 q28
    try simp at r89
    refine cP r89 ?_
    simp
   refine spc l5 rfl (fun g29 l5=>?_) fun g29 l5=>?_
   ·refine cutA 105 1 [(0,pT 0),(4,iI at2),(5,iI 0)] [[.str w1.s,iI at2]]<|zAH ?_
    obtain⟨o33,l34,l5⟩:=bs l5
    refine zCI (fun p:Nat×Int×Int=>mkS 105 1 [(0,pT 0),(4,iI at2),(5,iI p.2.2)] [[.str w1.s,iI p.2.1]]) (fun p=>zAN w1 at2 p.1 p.2.1 p.2.2=some o33) (fun p=>p.1) (fuel,at2,0) l34 (zBO (by simp)) ?_
    rintro⟨k35,at30,depth31⟩ l34
    try dsimp only at l34 ⊢
    cases k35 with
    |zero=>
     rw[zAN] at l34;cases l34
    |succ k36=>
     rw[zAN] at l34
     refine zAH<|zAE<|zAH<|cut 105 1 [(0,pT 0),(4,iI at2),(5,iI depth31),(51,.bool (leI w1.s.length at30))] [[.str w1.s,iI at30]] ?_ ?_
     ·refine zBS [] mixed (n:=105) rfl (by decide) ?_
      simp
     refine spc l34 rfl (fun g37 l34=>?_) fun g37 l34=>?_
     ·have c38:=leT g37
      refine cutA 105 1 [(2,iI at2)] [[.str w1.s,iI at30]]<|zAA<|zAD<|zAB<|zAD ?_
      replace l5:=retL l34 l5
      refine zAB<|zAD<|zAD<|zAD ?_
      replace h:=retL l5 h
      refine zAB<|zAD<|zAB ?_
      cases h
      simp
     have c39:=leF g37
     obtain⟨s40,q41,l34⟩:=bs l34
     obtain⟨q42,q43⟩:=zDn q41
     try simp at q42
     try simp at q43
     obtain⟨v44,q45,l34⟩:=bs l34
     refine cut 105 1 [(0,pT 0),(4,iI at2),(5,iI depth31),(63,.bool v44)] [[.str w1.s,iI at30]] ?_ ?_
     ·refine zBS [] mixed (n:=105) rfl (by decide) ?_
      simp[q42,q43]
      have r88:=zCg s40 [40,42] v44 q45
      try simp[q42,q43] at r88
      refine callD r88 (by simp) rfl ?_
      simp[q42,q43]
     refine spc l34 rfl (fun g46 l34=>?_) fun g46 l34=>?_
     ·obtain⟨n47,q48,l34⟩:=bs l34
      obtain⟨q49,q50⟩:=zDu q48
      try simp at q49
      try simp at q50
      have c51:=q49;simp only[Rng,inR] at c51
      refine cut 105 1 [(0,pT 0),(4,iI at2),(5,iI n47)] [[.str w1.s,iI at30]] (st (by simp[q49,q50])) ?_
      obtain⟨n52,q53,l34⟩:=bs l34
      obtain⟨q54,q55⟩:=zDu q53
      try simp at q54
      try simp at q55
      have c56:=q54;simp only[Rng,inR] at c56
      refine last 105 1 [(0,pT 0),(4,iI at2),(5,iI n47)] [[.str w1.s,iI n52]] (st (by simp[q54,q55])) fun zz hs=>?_
      refine zDA<|zCh ?_ hs
      refine cutA 105 1 [(0,pT 0),(4,iI at2),(5,iI n47),(104,.bool (eqI n47 0))] [[.str w1.s,iI n52]]<|spc l34 rfl (fun g57 l34=>?_) fun g57 l34=>?_
      ·have c58:=eqT g57
       refine zBP<|zG7 (by decide) ?_
       rcases o33 with o33|o32
       ·cases l34
       have q59:=Sum.inr.inj (zqa l34)
       replace l5:=zEk l5
       have q59:=q59.symm
       refine zAU<|zBU<|zDA<|zDA ?_
       exact⟨(k7,o32),zBO (by simp[q59]),l5,by simp⟩
      have c60:=eqF g57
      refine zAC<|zDA ?_
      exact⟨(k36,n52,n47),zBO (by simp),l34,by simp⟩
     obtain⟨v61,q62,l34⟩:=bs l34
     refine cut 105 1 [(0,pT 0),(4,iI at2),(5,iI depth31),(83,.bool v61)] [[.str w1.s,iI at30]] ?_ ?_
     ·refine zBS [] mixed (n:=105) rfl (by decide) ?_
      simp[q42,q43]
      have r87:=zCg s40 [42,41] v61 q62
      try simp[q42,q43] at r87
      refine callD r87 (by simp) rfl ?_
      simp[q42,q43]
     refine spc l34 rfl (fun g63 l34=>?_) fun g63 l34=>?_
     ·obtain⟨n64,q65,l34⟩:=bs l34
      obtain⟨q66,q67⟩:=zDu q65
      try simp at q66
      try simp at q67
      have c68:=q66;simp only[Rng,inR] at c68
      refine cut 105 1 [(0,pT 0),(4,iI at2),(5,iI n64)] [[.str w1.s,iI at30]] (st (by simp[q66,q67])) ?_
      obtain⟨n69,q70,l34⟩:=bs l34
      obtain⟨q71,q72⟩:=zDu q70
      try simp at q71
      try simp at q72
      have c73:=q71;simp only[Rng,inR] at c73
      refine last 105 1 [(0,pT 0),(4,iI at2),(5,iI n64)] [[.str w1.s,iI n69]] (st (by simp[q71,q72])) fun zz hs=>?_
      refine zDA<|zCh ?_ hs
      refine cutA 105 1 [(0,pT 0),(4,iI at2),(5,iI n64),(104,.bool (eqI n64 0))] [[.str w1.s,iI n69]]<|spc l34 rfl (fun g74 l34=>?_) fun g74 l34=>?_
      ·have c75:=eqT g74
       refine zBP<|zG7 (by decide) ?_
       rcases o33 with o33|o32
       ·cases l34
       have q76:=Sum.inr.inj (zqa l34)
       replace l5:=zEk l5
       have q76:=q76.symm
       refine zAU<|zBU<|zDA<|zDA ?_
       exact⟨(k7,o32),zBO (by simp[q76]),l5,by simp⟩
      have c77:=eqF g74
      refine zAC<|zDA ?_
      exact⟨(k36,n69,n64),zBO (by simp),l34,by simp⟩
     obtain⟨n78,q79,l34⟩:=bs l34
     obtain⟨q80,q81⟩:=zDu q79
     try simp at q80
     try simp at q81
     have c82:=q80;simp only[Rng,inR] at c82
     refine last 105 1 [(0,pT 0),(4,iI at2),(5,iI depth31)] [[.str w1.s,iI n78]] (st (by simp[q80,q81])) fun zz hs=>?_
     refine zDA<|zCh ?_ hs
     refine cutA 105 1 [(0,pT 0),(4,iI at2),(5,iI depth31),(104,.bool (eqI depth31 0))] [[.str w1.s,iI n78]]<|spc l34 rfl (fun g83 l34=>?_) fun g83 l34=>?_
     ·have c84:=eqT g83
      refine zBP<|zG7 (by decide) ?_
      rcases o33 with o33|o32
      ·cases l34
      have q85:=Sum.inr.inj (zqa l34)
      replace l5:=zEk l5
      have q85:=q85.symm
      refine zAU<|zBU<|zDA<|zDA ?_
      exact⟨(k7,o32),zBO (by simp[q85]),l5,by simp⟩
     have c86:=eqF g83
     refine zAC<|zDA ?_
     exact⟨(k36,n78,depth31),zBO (by simp),l34,by simp⟩
   refine cutA 105 1 [(2,iI (-1))] [[.str w1.s,iI at2]]<|zAA<|zAD<|zAD ?_
   replace h:=retL l5 h
   refine zAB<|zAD<|zAB ?_
   cases h
   simp
  have c91:=ltF g8
  refine factCS 0 0 rfl rfl fun f92=>?_
  refine zBP<|zAU ?_
  rcases o4 with o4|o3
  ·cases l5
  have q93:=Sum.inr.inj (zqa l5)
  replace h:=zEk h
  have q93:=q93.symm
  refine zAU<|zBU<|zCh (t:=mkS 105 1 [] [[.str w1.s,iI o3]]) ?_ (zBO (by simp[q93]))
  refine cutA 105 1 [(2,iI (-1))] [[.str w1.s,iI o3]]<|zAA ?_
  cases h
  simp
theorem zEV(fuel:Nat)(s1:(List UInt8))(c2:UInt8)(r:Int)(h:zBX fuel s1 c2=some r):Pure Tryz.prog 177 [.str s1,.int .u8 c2.toNat] (iI r):=by
 rw[zBX] at h
 refine zAG Tryz.func177 (by rfl) (by rfl) (by simp) (by simp) (by simp)<|cutA 19 0 [(0,.str s1),(1,.int .u8 c2.toNat)] []<|zAE ?_
 obtain⟨n3,q4,h⟩:=bs h
 obtain⟨q5,q6⟩:=zDu q4
 try simp at q5
 try simp at q6
 have c7:=q5;simp only[Rng,inR] at c7
 refine cut 19 0 [(0,.str s1),(1,.int .u8 c2.toNat),(5,iI n3)] [] (st (by simp[q5,q6]))<|zAH ?_
 obtain⟨o10,l11,h⟩:=bs h
 refine zCI (fun p:Nat×Int=>mkS 19 0 [(0,.str s1),(1,.int .u8 c2.toNat),(5,iI p.2)] []) (fun p=>zAM s1 c2 p.1 p.2=some o10∧(-1)<=p.2∧p.2<=9223372036854775807) (fun p=>p.1) (fuel,n3) ⟨l11,by(try dsimp only);omega,by(try dsimp only);omega⟩ (zBO (by simp)) ?_
 rintro⟨k14,i8⟩ ⟨l11,c12,c13⟩
 try dsimp only at l11 c12 c13 ⊢
 cases k14 with
 |zero=>
  rw[zAM] at l11;cases l11
 |succ k15=>
  rw[zAM] at l11
  refine zAE<|cutA 19 0 [(0,.str s1),(1,.int .u8 c2.toNat),(5,iI i8),(10,.bool (leI 0 i8))] []<|spc l11 rfl (fun g16 l11=>?_) fun g16 l11=>?_
  ·have c17:=leT g16
   refine zAC<|zAF<|zAE<|zAH ?_
   obtain⟨c18,q19,l11⟩:=bs l11
   obtain⟨q20,q21⟩:=idx_ok q19
   refine cut 19 0 [(0,.str s1),(1,.int .u8 c2.toNat),(5,iI i8),(17,.bool (eqI c18.toNat c2.toNat))] [] (st (by simp[q20,q21]))<|spc l11 rfl (fun g22 l11=>?_) fun g22 l11=>?_
   ·have c23:=eqT g22
    refine cutA 19 0 [(4,iI i8)] []<|zAA<|zAD<|zAB ?_
    replace h:=retL l11 h
    refine zAB<|zAD<|zAB ?_
    cases h
    simp
   have c24:=eqF g22
   refine zAC<|zDA<|zAF ?_
   have q25:Rng .i64 (i8-1):=by simp only[Rng,inR];omega
   try simp at q25
   refine last 19 0 [(0,.str s1),(1,.int .u8 c2.toNat),(5,iI (i8-1))] [] (st (by simp[q25])) fun zz hs=>?_
   exact⟨(k15,i8-1),hs,⟨l11,by(try dsimp only);(try unfold maxI);(first|omega|(split<;>omega)),by(try dsimp only);(try unfold maxI);(first|omega|(split<;>omega))⟩,by simp⟩
  have c26:=leF g16
  refine zBP<|zAU ?_
  rcases o10 with o10|o9
  ·cases l11
  have q27:=Sum.inr.inj (zqa l11)
  replace h:=zEk h
  refine zAU<|zBU<|zCh (t:=mkS 19 0 [] []) ?_ (zBO (by simp))
  refine cutA 19 0 [(4,iI (-1))] []<|zAA ?_
  cases h
  simp
theorem zE9(fuel:Nat)(s1:(List UInt8))(c2:UInt8)(r:Int)(h:zCB fuel s1 c2=some r):Pure Tryz.prog 112 [.str s1,.int .u8 c2.toNat] (iI r):=by
 rw[zCB] at h
 refine zAG Tryz.func112 (by rfl) (by rfl) (by simp) (by simp) (by simp)<|cutA 8 0 [(0,.str s1),(1,.int .u8 c2.toNat)] [] ?_
 obtain⟨v3,q4,h⟩:=bs h
 refine cut 8 0 [(4,iI v3)] [] ?_ ?_
 ·refine st ?_
  simp
  have r5:=zEV fuel s1 c2 v3 q4
  try simp at r5
  refine cP r5 ?_
  simp
 refine zAA ?_
 cases h
 simp
theorem zD2(fuel:Nat)(s1:(List UInt8))(at2:Int)(r:zJw)(h:zCQ fuel s1 at2=some r):Pure Tryz.prog 57 [.str s1,iI at2] (.agg [iI r.Line,iI r.Column]):=by
 rw[zCQ] at h
 refine zAG Tryz.func57 (by rfl) (by rfl) (by simp) (by simp) (by simp)<|cutA 17 0 [(0,.str s1),(1,iI at2),(4,pT 0)] [zz3] ?_
 obtain⟨s3,q4,h⟩:=bs h
 obtain⟨q5,q6⟩:=zDn q4
 try simp at q5
 try simp at q6
 refine cut 17 0 [(1,iI at2),(4,pT 0),(5,.str s3)] [zz3] (st (by simp[q5,q6])) ?_
 obtain⟨v7,q8,h⟩:=bs h
 obtain⟨n9,q10,h⟩:=bs h
 obtain⟨q11,q12⟩:=zDu q10
 try simp at q11
 try simp at q12
 have c13:=q11;simp only[Rng,inR] at c13
 obtain⟨v14,q15,h⟩:=bs h
 obtain⟨n16,q17,h⟩:=bs h
 obtain⟨q18,q19⟩:=zDu q17
 try simp at q18
 try simp at q19
 have c20:=q18;simp only[Rng,inR] at c20
 refine cut 17 0 [(4,pT 0)] [[iI n9,iI n16]] ?_ ?_
 ·refine st ?_
  simp[q11,q12,q18,q19]
  have r21:=zFU s3 [10] v7 q8
  try simp[q11,q12,q18,q19] at r21
  refine cP r21 ?_
  simp[q11,q12,q18,q19]
  have r22:=zE9 fuel s3 (10:UInt8) v14 q15
  try simp[q11,q12,q18,q19] at r22
  refine cP r22 ?_
  simp[q11,q12,q18,q19]
 refine zAA ?_
 cases h
 simp
theorem zCs(c1:UInt8)(r:Bool)(h:zDL c1=some r):Pure Tryz.prog 115 [.int .u8 c1.toNat] (.bool r):=by
 rw[zDL] at h
 refine zAG Tryz.func115 (by rfl) (by rfl) (by simp) (by simp) (by simp)<|cutA 9 0 [(0,.int .u8 c1.toNat)] []<|cut 9 0 [(2,.bool ((leI 97 c1.toNat)&&(leI c1.toNat 122)))] [] ?_ ?_
 ·rcases tf (leI 97 c1.toNat) with g2|g2
  ·have c3:=leT g2
   refine st ?_
   simp[g2]
  have c4:=leF g2
  refine st ?_
  simp[g2]
 refine zAA ?_
 cases h
 simp
theorem zD3(c1:UInt8)(r:Bool)(h:zDc c1=some r):Pure Tryz.prog 116 [.int .u8 c1.toNat] (.bool r):=by
 rw[zDc] at h
 refine zAG Tryz.func116 (by rfl) (by rfl) (by simp) (by simp) (by simp)<|cutA 9 0 [(0,.int .u8 c1.toNat)] []<|cut 9 0 [(2,.bool ((leI 65 c1.toNat)&&(leI c1.toNat 90)))] [] ?_ ?_
 ·rcases tf (leI 65 c1.toNat) with g2|g2
  ·have c3:=leT g2
   refine st ?_
   simp[g2]
  have c4:=leF g2
  refine st ?_
  simp[g2]
 refine zAA ?_
 cases h
 simp
theorem zEZ(c1:UInt8)(r:Bool)(h:zDr c1=some r):Pure Tryz.prog 120 [.int .u8 c1.toNat] (.bool r):=by
 rw[zDr] at h
 refine zAG Tryz.func120 (by rfl) (by rfl) (by simp) (by simp) (by simp)<|cutA 9 0 [(0,.int .u8 c1.toNat)] []<|cut 9 0 [(2,.bool ((leI 48 c1.toNat)&&(leI c1.toNat 57)))] [] ?_ ?_
 ·rcases tf (leI 48 c1.toNat) with g2|g2
  ·have c3:=leT g2
   refine st ?_
   simp[g2]
  have c4:=leF g2
  refine st ?_
  simp[g2]
 refine zAA ?_
 cases h
 simp
theorem zJZ(c1:UInt8)(r:Bool)(h:zET c1=some r):Pure Tryz.prog 118 [.int .u8 c1.toNat] (.bool r):=by
 rw[zET] at h
 refine zAG Tryz.func118 (by rfl) (by rfl) (by simp) (by simp) (by simp)<|cutA 17 0 [(0,.int .u8 c1.toNat)] [] ?_
 obtain⟨b11,q12,h⟩:=bs h
 refine cut 17 0 [(2,.bool b11)] [] ?_ ?_
 ·obtain⟨v2,q3,q12⟩:=bs q12
  rcases sp q12 with ⟨g4,q12⟩|⟨g4,q12⟩
  ·obtain rfl:=oi q12
   refine st ?_
   simp[g4]
   have r13:=zCs c1 v2 q3
   try simp[g4] at r13
   refine cP r13 ?_
   simp[g4]
  obtain⟨v5,q6,q12⟩:=bs q12
  rcases sp q12 with ⟨g7,q12⟩|⟨g7,q12⟩
  ·obtain rfl:=oi q12
   refine st ?_
   simp[g4,g7]
   have r14:=zCs c1 v2 q3
   try simp[g4,g7] at r14
   refine cP r14 ?_
   simp[g4,g7]
   have r15:=zD3 c1 v5 q6
   try simp[g4,g7] at r15
   refine cP r15 ?_
   simp[g4,g7]
  obtain⟨v8,q9,q12⟩:=bs q12
  rcases sp q12 with ⟨g10,q12⟩|⟨g10,q12⟩
  ·obtain rfl:=oi q12
   have g4x:=g4
   try simp only[g7,g10] at g4x
   have g7x:=g7
   try simp only[g4,g10] at g7x
   have g10x:=g10
   try simp only[g4,g7] at g10x
   refine zG8<|WL.cut 2 17 0 [(0,.int .u8 c1.toNat),(4,.bool v2)] [] ?_ ?_
   ·simp[g4,g7,g10,g4x,g7x,g10x]
    have r16:=zCs c1 v2 q3
    try simp[g4,g7,g10,g4x,g7x,g10x] at r16
    refine cP r16 ?_
    simp[g4,g7,g10,g4x,g7x,g10x]
   refine WL.cut 3 17 0 [(0,.int .u8 c1.toNat),(5,.bool v2),(7,.bool v5)] [] ?_ ?_
   ·simp[g4,g7,g10,g4x,g7x,g10x]
    have r17:=zD3 c1 v5 q6
    try simp[g4,g7,g10,g4x,g7x,g10x] at r17
    refine cP r17 ?_
    simp[g4,g7,g10,g4x,g7x,g10x]
   refine WL.cut 4 17 0 [(0,.int .u8 c1.toNat),(9,.bool v5),(11,.bool v8)] [] ?_ ?_
   ·simp[g4,g7,g10,g4x,g7x,g10x]
    have r18:=zEZ c1 v8 q9
    try simp[g4,g7,g10,g4x,g7x,g10x] at r18
    refine cP r18 ?_
    simp[g4,g7,g10,g4x,g7x,g10x]
   refine WL.last ?_
   simp[g4,g7,g10,g4x,g7x,g10x]
  obtain rfl:=oi q12
  have g4x:=g4
  try simp only[g7,g10] at g4x
  have g7x:=g7
  try simp only[g4,g10] at g7x
  have g10x:=g10
  try simp only[g4,g7] at g10x
  refine zG8<|WL.cut 2 17 0 [(0,.int .u8 c1.toNat),(4,.bool v2)] [] ?_ ?_
  ·simp[g4,g7,g10,g4x,g7x,g10x]
   have r19:=zCs c1 v2 q3
   try simp[g4,g7,g10,g4x,g7x,g10x] at r19
   refine cP r19 ?_
   simp[g4,g7,g10,g4x,g7x,g10x]
  refine WL.cut 3 17 0 [(0,.int .u8 c1.toNat),(5,.bool v2),(7,.bool v5)] [] ?_ ?_
  ·simp[g4,g7,g10,g4x,g7x,g10x]
   have r20:=zD3 c1 v5 q6
   try simp[g4,g7,g10,g4x,g7x,g10x] at r20
   refine cP r20 ?_
   simp[g4,g7,g10,g4x,g7x,g10x]
  refine WL.cut 4 17 0 [(0,.int .u8 c1.toNat),(9,.bool v5),(11,.bool v8)] [] ?_ ?_
  ·simp[g4,g7,g10,g4x,g7x,g10x]
   have r21:=zEZ c1 v8 q9
   try simp[g4,g7,g10,g4x,g7x,g10x] at r21
   refine cP r21 ?_
   simp[g4,g7,g10,g4x,g7x,g10x]
  refine WL.last ?_
  simp[g4,g7,g10,g4x,g7x,g10x]
 refine zAA ?_
 cases h
 simp
theorem zEW(fuel:Nat)(s1:(List UInt8))(r:Int)(h:zCH fuel s1=some r):Pure Tryz.prog 117 [.str s1,.fn (.func 118) [] []] (iI r):=by
 rw[zCH] at h
 refine zAG Tryz.func117 (by rfl) (by rfl) (by simp) (by simp) (by simp)<|cutA 20 0 [(0,.str s1),(1,.fn (.func 118) [] [])] []<|cutA 20 0 [(0,.str s1),(1,.fn (.func 118) [] []),(5,iI 0)] []<|zAE<|zAH ?_
 obtain⟨o3,l4,h⟩:=bs h
 refine zCI (fun p:Nat×Int=>mkS 20 0 [(0,.str s1),(1,.fn (.func 118) [] []),(5,iI p.2)] []) (fun p=>zBD s1 p.1 p.2=some o3∧0<=p.2) (fun p=>p.1) (fuel,0) ⟨l4,by(try dsimp only);omega⟩ (zBO (by simp)) ?_
 rintro⟨k6,n2⟩ ⟨l4,c5⟩
 try dsimp only at l4 c5 ⊢
 cases k6 with
 |zero=>
  rw[zBD] at l4;cases l4
 |succ k7=>
  rw[zBD] at l4
  refine zAE ?_
  obtain⟨b19,q20,l4⟩:=bs l4
  refine cut 20 0 [(0,.str s1),(1,.fn (.func 118) [] []),(5,iI n2),(16,.bool b19)] [] ?_ ?_
  ·rcases sp q20 with ⟨g8,q20⟩|⟨g8,q20⟩
   ·have c9:=ltT g8
    refine zGn 0 rfl fun f10=>?_
    obtain⟨c11,q12,q20⟩:=bs q20
    obtain⟨q13,q14⟩:=idx_ok q12
    obtain⟨v15,q16,q20⟩:=bs q20
    obtain rfl:=oi q20
    refine st ?_
    simp[g8,q13,q14]
    have r28:=zJZ c11 v15 q16
    try simp[g8,q13,q14] at r28
    refine cP r28 ?_
    simp[g8,q13,q14]
   have c17:=ltF g8
   refine zGn 0 rfl fun f18=>?_
   obtain rfl:=oi q20
   refine st ?_
   simp[g8]
  refine spc l4 rfl (fun g21 l4=>?_) fun g21 l4=>?_
  ·refine zAC<|zAF<|zAH ?_
   obtain⟨n22,q23,l4⟩:=bs l4
   obtain⟨q24,q25⟩:=zDu q23
   try simp at q24
   try simp at q25
   have c26:=q24;simp only[Rng,inR] at c26
   refine last 20 0 [(0,.str s1),(1,.fn (.func 118) [] []),(5,iI n22)] [] (st (by simp[q24,q25])) fun zz hs=>?_
   refine zDA ?_
   exact⟨(k7,n22),hs,⟨l4,by(try dsimp only);(try unfold maxI);(first|omega|(split<;>omega))⟩,by simp⟩
  refine zBP<|zAU ?_
  have q27:=zqa l4
  have q27:=q27.symm
  refine zAU<|zBU<|zCh (t:=mkS 20 0 [(5,iI o3)] []) ?_ (zBO (by simp[q27]))
  refine cutA 20 0 [(4,iI o3)] []<|zAA ?_
  cases h
  simp
theorem zID(s1:(List UInt8))(r:Bool)(h:zDd s1=some r):Pure Tryz.prog 119 [.str s1] (.bool r):=by
 rw[zDd] at h
 refine zAG Tryz.func119 (by rfl) (by rfl) (by simp) (by simp) (by simp)<|cutA 36 0 [(0,.str s1)] []<|zAE<|cutA 36 0 [(3,.str s1)] []<|zAH<|zAE<|cutA 36 0 [(3,.str s1),(4,.bool (eqS s1 [97,110,100,97,108,115,111]))] [] ?_
 refine spc h rfl (fun g2 h=>?_) fun g2 h=>?_
 ·refine zAC<|zAF<|zBF rfl (by simp[g2])<|cutA 36 0 [(2,.bool true)] []<|zAA<|zAD<|zAB ?_
  cases h
  simp
 refine cutA 36 0 [(3,.str s1),(4,.bool (eqS s1 [99,97,115,101]))] []<|spc h rfl (fun g3 h=>?_) fun g3 h=>?_
 ·refine zAC<|zAF<|zBF rfl (by simp[g3])<|cutA 36 0 [(2,.bool true)] []<|zAA<|zAD<|zAB ?_
  cases h
  simp
 refine cutA 36 0 [(3,.str s1),(4,.bool (eqS s1 [100,97,116,97]))] []<|spc h rfl (fun g4 h=>?_) fun g4 h=>?_
 ·refine zAC<|zAF<|zBF rfl (by simp[g4])<|cutA 36 0 [(2,.bool true)] []<|zAA<|zAD<|zAB ?_
  cases h
  simp
 refine cutA 36 0 [(3,.str s1),(4,.bool (eqS s1 [100,105,118]))] []<|spc h rfl (fun g5 h=>?_) fun g5 h=>?_
 ·refine zAC<|zAF<|zBF rfl (by simp[g5])<|cutA 36 0 [(2,.bool true)] []<|zAA<|zAD<|zAB ?_
  cases h
  simp
 refine cutA 36 0 [(3,.str s1),(4,.bool (eqS s1 [101,108,115,101]))] []<|spc h rfl (fun g6 h=>?_) fun g6 h=>?_
 ·refine zAC<|zAF<|zBF rfl (by simp[g6])<|cutA 36 0 [(2,.bool true)] []<|zAA<|zAD<|zAB ?_
  cases h
  simp
 refine cutA 36 0 [(3,.str s1),(4,.bool (eqS s1 [101,110,100]))] []<|spc h rfl (fun g7 h=>?_) fun g7 h=>?_
 ·refine zAC<|zAF<|zBF rfl (by simp[g7])<|cutA 36 0 [(2,.bool true)] []<|zAA<|zAD<|zAB ?_
  cases h
  simp
 refine cutA 36 0 [(3,.str s1),(4,.bool (eqS s1 [102,110]))] []<|spc h rfl (fun g8 h=>?_) fun g8 h=>?_
 ·refine zAC<|zAF<|zBF rfl (by simp[g8])<|cutA 36 0 [(2,.bool true)] []<|zAA<|zAD<|zAB ?_
  cases h
  simp
 refine cutA 36 0 [(3,.str s1),(4,.bool (eqS s1 [102,117,110]))] []<|spc h rfl (fun g9 h=>?_) fun g9 h=>?_
 ·refine zAC<|zAF<|zBF rfl (by simp[g9])<|cutA 36 0 [(2,.bool true)] []<|zAA<|zAD<|zAB ?_
  cases h
  simp
 refine cutA 36 0 [(3,.str s1),(4,.bool (eqS s1 [102,117,110,99,116,111,114]))] []<|spc h rfl (fun g10 h=>?_) fun g10 h=>?_
 ·refine zAC<|zAF<|zBF rfl (by simp[g10])<|cutA 36 0 [(2,.bool true)] []<|zAA<|zAD<|zAB ?_
  cases h
  simp
 refine cutA 36 0 [(3,.str s1),(4,.bool (eqS s1 [103,101,110,101,114,97,116,105,118,101]))] []<|spc h rfl (fun g11 h=>?_) fun g11 h=>?_
 ·refine zAC<|zAF<|zBF rfl (by simp[g11])<|cutA 36 0 [(2,.bool true)] []<|zAA<|zAD<|zAB ?_
  cases h
  simp
 refine cutA 36 0 [(3,.str s1),(4,.bool (eqS s1 [105,102]))] []<|spc h rfl (fun g12 h=>?_) fun g12 h=>?_
 ·refine zAC<|zAF<|zBF rfl (by simp[g12])<|cutA 36 0 [(2,.bool true)] []<|zAA<|zAD<|zAB ?_
  cases h
  simp
 refine cutA 36 0 [(3,.str s1),(4,.bool (eqS s1 [105,109,112,111,114,116]))] []<|spc h rfl (fun g13 h=>?_) fun g13 h=>?_
 ·refine zAC<|zAF<|zBF rfl (by simp[g13])<|cutA 36 0 [(2,.bool true)] []<|zAA<|zAD<|zAB ?_
  cases h
  simp
 refine cutA 36 0 [(3,.str s1),(4,.bool (eqS s1 [105,110]))] []<|spc h rfl (fun g14 h=>?_) fun g14 h=>?_
 ·refine zAC<|zAF<|zBF rfl (by simp[g14])<|cutA 36 0 [(2,.bool true)] []<|zAA<|zAD<|zAB ?_
  cases h
  simp
 refine cutA 36 0 [(3,.str s1),(4,.bool (eqS s1 [105,110,99,108,117,100,101]))] []<|spc h rfl (fun g15 h=>?_) fun g15 h=>?_
 ·refine zAC<|zAF<|zBF rfl (by simp[g15])<|cutA 36 0 [(2,.bool true)] []<|zAA<|zAD<|zAB ?_
  cases h
  simp
 refine cutA 36 0 [(3,.str s1),(4,.bool (eqS s1 [108,101,116]))] []<|spc h rfl (fun g16 h=>?_) fun g16 h=>?_
 ·refine zAC<|zAF<|zBF rfl (by simp[g16])<|cutA 36 0 [(2,.bool true)] []<|zAA<|zAD<|zAB ?_
  cases h
  simp
 refine cutA 36 0 [(3,.str s1),(4,.bool (eqS s1 [109,111,100]))] []<|spc h rfl (fun g17 h=>?_) fun g17 h=>?_
 ·refine zAC<|zAF<|zBF rfl (by simp[g17])<|cutA 36 0 [(2,.bool true)] []<|zAA<|zAD<|zAB ?_
  cases h
  simp
 refine cutA 36 0 [(3,.str s1),(4,.bool (eqS s1 [109,111,100,117,108,101]))] []<|spc h rfl (fun g18 h=>?_) fun g18 h=>?_
 ·refine zAC<|zAF<|zBF rfl (by simp[g18])<|cutA 36 0 [(2,.bool true)] []<|zAA<|zAD<|zAB ?_
  cases h
  simp
 refine cutA 36 0 [(3,.str s1),(4,.bool (eqS s1 [111,102]))] []<|spc h rfl (fun g19 h=>?_) fun g19 h=>?_
 ·refine zAC<|zAF<|zBF rfl (by simp[g19])<|cutA 36 0 [(2,.bool true)] []<|zAA<|zAD<|zAB ?_
  cases h
  simp
 refine cutA 36 0 [(3,.str s1),(4,.bool (eqS s1 [111,112,101,110]))] []<|spc h rfl (fun g20 h=>?_) fun g20 h=>?_
 ·refine zAC<|zAF<|zBF rfl (by simp[g20])<|cutA 36 0 [(2,.bool true)] []<|zAA<|zAD<|zAB ?_
  cases h
  simp
 refine cutA 36 0 [(3,.str s1),(4,.bool (eqS s1 [111,114,101,108,115,101]))] []<|spc h rfl (fun g21 h=>?_) fun g21 h=>?_
 ·refine zAC<|zAF<|zBF rfl (by simp[g21])<|cutA 36 0 [(2,.bool true)] []<|zAA<|zAD<|zAB ?_
  cases h
  simp
 refine cutA 36 0 [(3,.str s1),(4,.bool (eqS s1 [112,97,99,107]))] []<|spc h rfl (fun g22 h=>?_) fun g22 h=>?_
 ·refine zAC<|zAF<|zBF rfl (by simp[g22])<|cutA 36 0 [(2,.bool true)] []<|zAA<|zAD<|zAB ?_
  cases h
  simp
 refine cutA 36 0 [(3,.str s1),(4,.bool (eqS s1 [115,104,97,114,105,110,103]))] []<|spc h rfl (fun g23 h=>?_) fun g23 h=>?_
 ·refine zAC<|zAF<|zBF rfl (by simp[g23])<|cutA 36 0 [(2,.bool true)] []<|zAA<|zAD<|zAB ?_
  cases h
  simp
 refine cutA 36 0 [(3,.str s1),(4,.bool (eqS s1 [115,105,103]))] []<|spc h rfl (fun g24 h=>?_) fun g24 h=>?_
 ·refine zAC<|zAF<|zBF rfl (by simp[g24])<|cutA 36 0 [(2,.bool true)] []<|zAA<|zAD<|zAB ?_
  cases h
  simp
 refine cutA 36 0 [(3,.str s1),(4,.bool (eqS s1 [115,105,103,110,97,116,117,114,101]))] []<|spc h rfl (fun g25 h=>?_) fun g25 h=>?_
 ·refine zAC<|zAF<|zBF rfl (by simp[g25])<|cutA 36 0 [(2,.bool true)] []<|zAA<|zAD<|zAB ?_
  cases h
  simp
 refine cutA 36 0 [(3,.str s1),(4,.bool (eqS s1 [115,116,114,117,99,116]))] []<|spc h rfl (fun g26 h=>?_) fun g26 h=>?_
 ·refine zAC<|zAF<|zBF rfl (by simp[g26])<|cutA 36 0 [(2,.bool true)] []<|zAA<|zAD<|zAB ?_
  cases h
  simp
 refine cutA 36 0 [(3,.str s1),(4,.bool (eqS s1 [115,116,114,117,99,116,117,114,101]))] []<|spc h rfl (fun g27 h=>?_) fun g27 h=>?_
 ·refine zAC<|zAF<|zBF rfl (by simp[g27])<|cutA 36 0 [(2,.bool true)] []<|zAA<|zAD<|zAB ?_
  cases h
  simp
 refine cutA 36 0 [(3,.str s1),(4,.bool (eqS s1 [116,104,101,110]))] []<|spc h rfl (fun g28 h=>?_) fun g28 h=>?_
 ·refine zAC<|zAF<|zBF rfl (by simp[g28])<|cutA 36 0 [(2,.bool true)] []<|zAA<|zAD<|zAB ?_
  cases h
  simp
 refine cutA 36 0 [(3,.str s1),(4,.bool (eqS s1 [116,121,112,101]))] []<|spc h rfl (fun g29 h=>?_) fun g29 h=>?_
 ·refine zAC<|zAF<|zBF rfl (by simp[g29])<|cutA 36 0 [(2,.bool true)] []<|zAA<|zAD<|zAB ?_
  cases h
  simp
 refine cutA 36 0 [(3,.str s1),(4,.bool (eqS s1 [117,110,112,97,99,107]))] []<|spc h rfl (fun g30 h=>?_) fun g30 h=>?_
 ·refine zAC<|zAF<|zBF rfl (by simp[g30])<|cutA 36 0 [(2,.bool true)] []<|zAA<|zAD<|zAB ?_
  cases h
  simp
 refine cutA 36 0 [(3,.str s1),(4,.bool (eqS s1 [118,97,108]))] []<|spc h rfl (fun g31 h=>?_) fun g31 h=>?_
 ·refine zAC<|zAF<|zBF rfl (by simp[g31])<|cutA 36 0 [(2,.bool true)] []<|zAA<|zAD<|zAB ?_
  cases h
  simp
 refine zG1 36 0 [(4,.bool (eqS s1 [119,105,116,104]))] []<|spc h rfl (fun g32 h=>?_) fun g32 h=>?_
 ·refine cutA 36 0 [(2,.bool true)] []<|zAA<|zAD<|zAB ?_
  cases h
  simp
 refine zAC<|zDA<|zAF<|cutA 36 0 [(2,.bool false)] []<|zAA ?_
 cases h
 simp
theorem zBH(kind1:Int)(n2:Int)(text3:(List UInt8))(w4:zJs)(r:zJu×Int×Int×zJs)(h:zAo kind1 n2 text3 w4=some r):Raw Tryz.prog 113 [iI kind1,iI n2,.str text3,pT 0] [[pT 1],[.str w4.s,iI w4.at_]] (.tup [.agg [iI r.1.Kind,.str r.1.Text,iI r.1.At.Line,iI r.1.At.Column],iI r.2.1,iI r.2.2.1]) [[pT 1],[.str r.2.2.2.s,iI r.2.2.2.at_]]:=by
 rw[zAo] at h
 refine zAl Tryz.func113 (by rfl) (by rfl) (by simp) (by simp)<|cutA 21 2 [(0,iI kind1),(1,iI n2),(2,.str text3),(3,pT 0),(7,pT 2)] [[pT 1],[.str w4.s,iI w4.at_],zz1] ?_
 obtain⟨n5,q6,h⟩:=bs h
 obtain⟨q7,q8⟩:=zDu q6
 try simp at q7
 try simp at q8
 have c9:=q7;simp only[Rng,inR] at c9
 refine cut 21 2 [(0,iI kind1),(2,.str text3),(7,pT 2)] [[pT 1],[.str w4.s,iI n5],zz1] (st (by simp[q7,q8]))<|cutA 21 2 [(7,pT 2),(8,iI 0),(9,iI 0)] [[pT 1],[.str w4.s,iI n5],[iI kind1,.str text3,iI 0,iI 0]]<|zAA ?_
 cases h
 simp
theorem zBh(by1:Int)(e2:Int)(w3:zJs)(r:zJu×Int×Int)(h:zAv by1 e2 w3=some r):Raw Tryz.prog 114 [iI by1,iI e2,pT 0] [[pT 1],[.str w3.s,iI w3.at_]] (.tup [.agg [iI r.1.Kind,.str r.1.Text,iI r.1.At.Line,iI r.1.At.Column],iI r.2.1,iI r.2.2]) [[pT 1],[.str w3.s,iI w3.at_]]:=by
 rw[zAv] at h
 refine zAl Tryz.func114 (by rfl) (by rfl) (by simp) (by simp)<|cutA 16 2 [(0,iI by1),(1,iI e2),(2,pT 0),(5,pT 2)] [[pT 1],[.str w3.s,iI w3.at_],zz1] ?_
 obtain⟨n4,q5,h⟩:=bs h
 obtain⟨q6,q7⟩:=zDu q5
 try simp at q6
 try simp at q7
 have c8:=q6;simp only[Rng,inR] at c8
 refine cut 16 2 [(5,pT 2),(6,iI n4),(7,iI e2)] [[pT 1],[.str w3.s,iI w3.at_],zz1] ?_ ?_
 ·refine zCc [2] [10] mixed (n:=16) rfl (by decide) (by decide) ?_
  simp[q6,q7]
 refine zAA ?_
 cases h
 simp
theorem zF1(fuel:Nat)(s1:(List UInt8))(r:Int)(h:zCj fuel s1=some r):Pure Tryz.prog 117 [.str s1,.fn (.func 120) [] []] (iI r):=by
 rw[zCj] at h
 refine zAG Tryz.func117 (by rfl) (by rfl) (by simp) (by simp) (by simp)<|cutA 20 0 [(0,.str s1),(1,.fn (.func 120) [] [])] []<|cutA 20 0 [(0,.str s1),(1,.fn (.func 120) [] []),(5,iI 0)] []<|zAE<|zAH ?_
 obtain⟨o3,l4,h⟩:=bs h
 refine zCI (fun p:Nat×Int=>mkS 20 0 [(0,.str s1),(1,.fn (.func 120) [] []),(5,iI p.2)] []) (fun p=>zBE s1 p.1 p.2=some o3∧0<=p.2) (fun p=>p.1) (fuel,0) ⟨l4,by(try dsimp only);omega⟩ (zBO (by simp)) ?_
 rintro⟨k6,n2⟩ ⟨l4,c5⟩
 try dsimp only at l4 c5 ⊢
 cases k6 with
 |zero=>
  rw[zBE] at l4;cases l4
 |succ k7=>
  rw[zBE] at l4
  refine zAE ?_
  obtain⟨b19,q20,l4⟩:=bs l4
  refine cut 20 0 [(0,.str s1),(1,.fn (.func 120) [] []),(5,iI n2),(16,.bool b19)] [] ?_ ?_
  ·rcases sp q20 with ⟨g8,q20⟩|⟨g8,q20⟩
   ·have c9:=ltT g8
    refine zGn 0 rfl fun f10=>?_
    obtain⟨c11,q12,q20⟩:=bs q20
    obtain⟨q13,q14⟩:=idx_ok q12
    obtain⟨v15,q16,q20⟩:=bs q20
    obtain rfl:=oi q20
    refine st ?_
    simp[g8,q13,q14]
    have r28:=zEZ c11 v15 q16
    try simp[g8,q13,q14] at r28
    refine cP r28 ?_
    simp[g8,q13,q14]
   have c17:=ltF g8
   refine zGn 0 rfl fun f18=>?_
   obtain rfl:=oi q20
   refine st ?_
   simp[g8]
  refine spc l4 rfl (fun g21 l4=>?_) fun g21 l4=>?_
  ·refine zAC<|zAF<|zAH ?_
   obtain⟨n22,q23,l4⟩:=bs l4
   obtain⟨q24,q25⟩:=zDu q23
   try simp at q24
   try simp at q25
   have c26:=q24;simp only[Rng,inR] at c26
   refine last 20 0 [(0,.str s1),(1,.fn (.func 120) [] []),(5,iI n22)] [] (st (by simp[q24,q25])) fun zz hs=>?_
   refine zDA ?_
   exact⟨(k7,n22),hs,⟨l4,by(try dsimp only);(try unfold maxI);(first|omega|(split<;>omega))⟩,by simp⟩
  refine zBP<|zAU ?_
  have q27:=zqa l4
  have q27:=q27.symm
  refine zAU<|zBU<|zCh (t:=mkS 20 0 [(5,iI o3)] []) ?_ (zBO (by simp[q27]))
  refine cutA 20 0 [(4,iI o3)] []<|zAA ?_
  cases h
  simp
theorem zIf(fuel:Nat)(s1:(List UInt8))(r:Int)(h:zCM fuel s1=some r):Pure Tryz.prog 121 [.str s1] (iI r):=by
 rw[zCM] at h
 refine zAG Tryz.func121 (by rfl) (by rfl) (by simp) (by simp) (by simp)<|cutA 29 0 [(0,.str s1)] []<|zAE ?_
 obtain⟨b9,q10,h⟩:=bs h
 refine cut 29 0 [(0,.str s1),(12,.bool b9)] [] ?_ ?_
 ·rcases sp q10 with ⟨g2,q10⟩|⟨g2,q10⟩
  ·have c3:=ltT g2
   refine zGn 0 rfl fun f4=>?_
   obtain⟨c5,q6,q10⟩:=bs q10
   obtain rfl:=oi q10
   refine st ?_
   simp[g2,q6]
  have c7:=ltF g2
  refine zGn 0 rfl fun f8=>?_
  obtain rfl:=oi q10
  refine st ?_
  simp[g2]
 refine spc h rfl (fun g11 h=>?_) fun g11 h=>?_
 ·refine cutA 29 0 [(2,iI 3)] []<|zAA<|zAB ?_
  cases h
  simp
 refine zAC<|zAF<|cutA 29 0 [(0,.str s1),(3,iI 0)] []<|zAE<|cutA 29 0 [(0,.str s1),(3,iI 0),(14,iI s1.length),(15,iI 0)] []<|zAH ?_
 obtain⟨o15,l16,h⟩:=bs h
 refine zCI (fun p:Nat×Int×Nat=>mkS 29 0 [(0,.str s1),(3,iI p.2.1),(14,iI s1.length),(15,iI p.2.2)] []) (fun p=>zAb s1 p.1 p.2.1 p.2.2=some o15) (fun p=>p.1) (fuel,0,0) l16 (zBO (by simp)) ?_
 rintro⟨k17,n12,i13⟩ l16
 try dsimp only at l16 ⊢
 cases k17 with
 |zero=>
  rw[zAb] at l16;cases l16
 |succ k18=>
  rw[zAb] at l16
  refine cutA 29 0 [(0,.str s1),(3,iI n12),(14,iI s1.length),(15,iI i13),(16,.bool (ltI i13 s1.length))] []<|zAE<|spc l16 rfl (fun g19 l16=>?_) fun g19 l16=>?_
  ·have c20:=ltT g19
   refine zGn 0 rfl fun f21=>?_
   refine zAC<|zAF<|zAE<|zAH<|cutA 29 0 [(0,.str s1),(3,iI n12),(4,iI i13),(14,iI s1.length),(15,iI i13)] [] ?_
   obtain⟨n22,q23,l16⟩:=bs l16
   obtain⟨q24,q25⟩:=zDu q23
   try simp at q24
   try simp at q25
   have c26:=q24;simp only[Rng,inR] at c26
   obtain⟨c27,q28,l16⟩:=bs l16
   obtain⟨n29,q30,l16⟩:=bs l16
   obtain⟨q31,q32⟩:=zDu q30
   try simp at q31
   try simp at q32
   have c33:=q31;simp only[Rng,inR] at c33
   have q34:Rng .i64 (n29):=by simp only[Rng,inR];omega
   obtain⟨n35,q36,l16⟩:=bs l16
   obtain⟨q37,q38⟩:=zDu q36
   try simp at q37
   try simp at q38
   have c39:=q37;simp only[Rng,inR] at c39
   refine cut 29 0 [(0,.str s1),(3,iI n35),(14,iI s1.length),(15,iI i13)] [] (st (by simp[q24,q25,q28,q31,q32,q34,q37,q38]))<|cutA 29 0 [(0,.str s1),(3,iI n35),(14,iI s1.length),(15,iI i13),(27,.bool (ltI 4503599627370496 n35))] []<|spc l16 rfl (fun g40 l16=>?_) fun g40 l16=>?_
   ·have c41:=ltT g40
    refine cutA 29 0 [(2,iI 6)] []<|zAA<|zAD<|zAB ?_
    replace h:=retL l16 h
    refine zAB<|zAD<|zAB ?_
    cases h
    simp
   have c42:=ltF g40
   refine zAC<|zDA<|zAF ?_
   have q43:Rng .i64 (((i13:Nat):Int)+1):=by simp only[Rng,inR];omega
   try simp at q43
   refine last 29 0 [(0,.str s1),(3,iI n35),(14,iI s1.length),(15,iI ((i13+1:Nat):Int))] [] (st (by simp[q43])) fun zz hs=>?_
   exact⟨(k18,n35,i13+1),hs,l16,by simp⟩
  have c44:=ltF g19
  refine zGn 0 rfl fun f45=>?_
  refine zBP<|zAU ?_
  rcases o15 with o15|o14
  ·cases l16
  have q46:=Sum.inr.inj (zqa l16)
  replace h:=zEk h
  refine zAU<|zBU<|zCh (t:=mkS 29 0 [] []) ?_ (zBO (by simp))
  refine cutA 29 0 [(2,iI 0)] []<|zAA ?_
  cases h
  simp
theorem zBx(c1:UInt8)(b2:(List UInt8))(r:(List UInt8))(h:zAm c1 b2=some r):Raw Tryz.prog 69 [pT 0,.int .u8 c1.toNat] [[.baddr 107 0,.osl ⟨1,5⟩ (b2.map cU)]] (.nilif) [[.baddr 107 0,.osl ⟨1,5⟩ (r.map cU)]]:=by
 rw[zAm] at h
 refine zAl Tryz.func69 (by rfl) (by rfl) (by simp) (by simp)<|cutA 17 1 [(0,pT 0),(1,.int .u8 c1.toNat)] [[.baddr 107 0,.osl ⟨1,5⟩ (b2.map cU)]] ?_
 obtain⟨v3,q4,h⟩:=bs h
 refine cut 17 1 [(0,pT 0),(1,.int .u8 c1.toNat)] [[.baddr 107 0,.osl ⟨1,5⟩ (b2.map cU)]] ?_ ?_
 ·refine st ?_
  simp
  have r9:=(zEf b2 v3 q4).frame [0] [[.baddr 107 0,.osl ⟨1,5⟩ (b2.map cU)]] (by simp)
  try simp at r9
  refine zAW r9 (by simp) rfl ?_
  simp
 obtain⟨l5,q6,h⟩:=bs h
 obtain⟨q7,q8⟩:=app_ok q6
 try simp at q7
 refine cut 17 1 [] [[.baddr 107 0,.osl ⟨1,5⟩ (l5.map cU)]] (st (by simp[q7,q8]))<|cutA 17 1 [(4,.nilif)] [[.baddr 107 0,.osl ⟨1,5⟩ (l5.map cU)]]<|zAA ?_
 cases h
 simp
theorem zIB(c1:UInt8)(r:Bool)(h:zDb c1=some r):Pure Tryz.prog 178 [.int .u8 c1.toNat] (.bool r):=by
 rw[zDb] at h
 refine zAG Tryz.func178 (by rfl) (by rfl) (by simp) (by simp) (by simp)<|cutA 9 0 [(0,.int .u8 c1.toNat)] []<|cut 9 0 [(2,.bool ((leI 32 c1.toNat)&&(leI c1.toNat 126)))] [] ?_ ?_
 ·rcases tf (leI 32 c1.toNat) with g2|g2
  ·have c3:=leT g2
   refine st ?_
   simp[g2]
  have c4:=leF g2
  refine st ?_
  simp[g2]
 refine zAA ?_
 cases h
 simp
theorem zIC(fuel:Nat)(s1:(List UInt8))(r:(List UInt8)×Int×Int×Int)(h:zCw fuel s1=some r):Pure Tryz.prog 122 [.str s1] (.tup [.str r.1,iI r.2.1,iI r.2.2.1,iI r.2.2.2]):=by
 rw[zCw] at h
 refine zAG Tryz.func122 (by rfl) (by rfl) (by simp) (by simp) (by simp)<|cutA 61 0 [(0,.str s1)] []<|cutA 61 0 [(0,.str s1),(6,pT 0)] [[.baddr 107 0,.osl ⟨1,5⟩ (([]:List UInt8).map cU)]]<|zAE<|cutA 61 0 [(0,.str s1),(6,pT 0),(7,iI 1)] [[.baddr 107 0,.osl ⟨1,5⟩ (([]:List UInt8).map cU)]]<|zAH ?_
 obtain⟨o5,l6,h⟩:=bs h
 refine zCI (fun p:Nat×(List UInt8)×Nat=>mkS 61 0 [(0,.str s1),(6,pT 0),(7,iI p.2.2)] [[.baddr 107 0,.osl ⟨1,5⟩ (p.2.1.map cU)]]) (fun p=>zAP s1 p.1 p.2.1 p.2.2=some o5) (fun p=>p.1) (fuel,([]:List UInt8),1) l6 (zBO (by simp)) ?_
 rintro⟨k7,buf2,i3⟩ l6
 try dsimp only at l6 ⊢
 cases k7 with
 |zero=>
  rw[zAP] at l6;cases l6
 |succ k8=>
  rw[zAP] at l6
  refine zAE<|cutA 61 0 [(0,.str s1),(6,pT 0),(7,iI i3),(12,.bool (ltI i3 s1.length))] [[.baddr 107 0,.osl ⟨1,5⟩ (buf2.map cU)]]<|spc l6 rfl (fun g9 l6=>?_) fun g9 l6=>?_
  ·have c10:=ltT g9
   refine zGn 0 rfl fun f11=>?_
   refine zAC<|zAF<|zAE<|zAH ?_
   obtain⟨c12,q13,l6⟩:=bs l6
   refine cut 61 0 [(0,.str s1),(6,pT 0),(7,iI i3),(8,.int .u8 c12.toNat)] [[.baddr 107 0,.osl ⟨1,5⟩ (buf2.map cU)]] (st (by simp[q13]))<|zAH<|cutA 61 0 [(0,.str s1),(6,pT 0),(7,iI i3),(8,.int .u8 c12.toNat),(20,.bool (eqI c12.toNat 34))] [[.baddr 107 0,.osl ⟨1,5⟩ (buf2.map cU)]]<|spc l6 rfl (fun g14 l6=>?_) fun g14 l6=>?_
   ·have c15:=eqT g14
    obtain⟨v16,q17,l6⟩:=bs l6
    have q18:Rng .i64 (((i3:Nat):Int)+1):=by simp only[Rng,inR];omega
    try simp at q18
    refine cut 61 0 [(2,.str v16),(3,iI ((i3+1:Nat):Int)),(4,iI 0),(5,iI 0)] [[.baddr 107 0,.osl ⟨1,5⟩ (buf2.map cU)]] ?_ ?_
    ·refine st ?_
     simp[q18]
     have r19:=(zDo buf2 v16 q17).frame [0] [[.baddr 107 0,.osl ⟨1,5⟩ (buf2.map cU)]] (by simp)
     try simp[q18] at r19
     refine zAW r19 (by simp[q18]) rfl ?_
     simp[q18]
    refine zAA<|zAD<|zAD<|zAB ?_
    replace h:=retL l6 h
    refine zAB<|zAD<|zAB ?_
    cases h
    simp
   have c20:=eqF g14
   refine cut 61 0 [(0,.str s1),(6,pT 0),(7,iI i3),(8,.int .u8 c12.toNat),(26,.bool ((eqI c12.toNat 92)&&(ltI ((i3+1:Nat):Int) (s1.length:Int))))] [[.baddr 107 0,.osl ⟨1,5⟩ (buf2.map cU)]] ?_ ?_
   ·rcases tf (eqI c12.toNat 92) with g21|g21
    ·have c22:=eqT g21
     have q23:Rng .i64 (((i3:Nat):Int)+1):=by simp only[Rng,inR];omega
     try simp at q23
     refine st ?_
     simp[g21,q23]
    have c24:=eqF g21
    refine st ?_
    simp[g21]
   rcases sp l6 with ⟨g25,l6⟩|⟨g25,l6⟩
   ·obtain⟨g26,g27⟩:=andT g25
    have c28:=eqT g26
    have c29:=ltT g27
    refine zBF rfl g25 ?_
    have q30:Rng .i64 (((i3:Nat):Int)+1):=by simp only[Rng,inR];omega
    try simp at q30
    refine cut 61 0 [(0,.str s1),(6,pT 0),(7,iI ((i3+1:Nat):Int))] [[.baddr 107 0,.osl ⟨1,5⟩ (buf2.map cU)]] (st (by simp[q30])) ?_
    obtain⟨c31,q32,l6⟩:=bs l6
    refine cut 61 0 [(0,.str s1),(6,pT 0),(7,iI ((i3+1:Nat):Int)),(40,.int .u8 c31.toNat)] [[.baddr 107 0,.osl ⟨1,5⟩ (buf2.map cU)]] (st (by simp[q32]))<|zAH<|zAE<|cutA 61 0 [(0,.str s1),(6,pT 0),(7,iI ((i3+1:Nat):Int)),(40,.int .u8 c31.toNat),(43,.bool (eqI c31.toNat 34))] [[.baddr 107 0,.osl ⟨1,5⟩ (buf2.map cU)]]<|spc l6 rfl (fun g33 l6=>?_) fun g33 l6=>?_
    ·have c34:=eqT g33
     refine zAC<|zAF<|zBF rfl (by simp[g33]) ?_
     obtain⟨v35,q36,l6⟩:=bs l6
     refine last 61 0 [(0,.str s1),(6,pT 0),(7,iI ((i3+1:Nat):Int))] [[.baddr 107 0,.osl ⟨1,5⟩ (v35.map cU)]] ?_ fun zz hs=>?_
     ·refine st ?_
      simp[q32]
      have r38:=(zBx c31 buf2 v35 q36).frame [0] [[.baddr 107 0,.osl ⟨1,5⟩ (buf2.map cU)]] (by simp)
      try simp[q32] at r38
      refine zAW r38 (by simp[q32]) rfl ?_
      simp[q32]
     refine zDA<|zDA<|zDA<|zCh ?_ hs
     have q37:Rng .i64 (((i3+1:Nat):Int)+1):=by simp only[Rng,inR];omega
     try simp at q37
     refine last 61 0 [(0,.str s1),(6,pT 0),(7,iI (((i3+1)+1:Nat):Int))] [[.baddr 107 0,.osl ⟨1,5⟩ (v35.map cU)]] (st (by simp[q37])) fun zz hs=>?_
     exact⟨(k8,v35,(i3+1)+1),hs,l6,by simp⟩
    have c39:=eqF g33
    refine zG1 61 0 [(0,.str s1),(6,pT 0),(7,iI ((i3+1:Nat):Int)),(40,.int .u8 c31.toNat),(43,.bool (eqI c31.toNat 92))] [[.baddr 107 0,.osl ⟨1,5⟩ (buf2.map cU)]]<|spc l6 rfl (fun g40 l6=>?_) fun g40 l6=>?_
    ·have c41:=eqT g40
     obtain⟨v42,q43,l6⟩:=bs l6
     refine last 61 0 [(0,.str s1),(6,pT 0),(7,iI ((i3+1:Nat):Int))] [[.baddr 107 0,.osl ⟨1,5⟩ (v42.map cU)]] ?_ fun zz hs=>?_
     ·refine st ?_
      simp[q32]
      have r45:=(zBx c31 buf2 v42 q43).frame [0] [[.baddr 107 0,.osl ⟨1,5⟩ (buf2.map cU)]] (by simp)
      try simp[q32] at r45
      refine zAW r45 (by simp[q32]) rfl ?_
      simp[q32]
     refine zDA<|zDA<|zDA<|zCh ?_ hs
     have q44:Rng .i64 (((i3+1:Nat):Int)+1):=by simp only[Rng,inR];omega
     try simp at q44
     refine last 61 0 [(0,.str s1),(6,pT 0),(7,iI (((i3+1)+1:Nat):Int))] [[.baddr 107 0,.osl ⟨1,5⟩ (v42.map cU)]] (st (by simp[q44])) fun zz hs=>?_
     exact⟨(k8,v42,(i3+1)+1),hs,l6,by simp⟩
    have c46:=eqF g40
    refine cutA 61 0 [(0,.str s1),(6,pT 0),(7,iI ((i3+1:Nat):Int)),(50,.bool (eqI c31.toNat 110))] [[.baddr 107 0,.osl ⟨1,5⟩ (buf2.map cU)]]<|spc l6 rfl (fun g47 l6=>?_) fun g47 l6=>?_
    ·have c48:=eqT g47
     obtain⟨v49,q50,l6⟩:=bs l6
     refine last 61 0 [(0,.str s1),(6,pT 0),(7,iI ((i3+1:Nat):Int))] [[.baddr 107 0,.osl ⟨1,5⟩ (v49.map cU)]] ?_ fun zz hs=>?_
     ·refine st ?_
      simp
      have r52:=(zBx (10:UInt8) buf2 v49 q50).frame [0] [[.baddr 107 0,.osl ⟨1,5⟩ (buf2.map cU)]] (by simp)
      try simp at r52
      refine zAW r52 (by simp) rfl ?_
      simp
     refine zDA<|zDA<|zDA<|zCh ?_ hs
     have q51:Rng .i64 (((i3+1:Nat):Int)+1):=by simp only[Rng,inR];omega
     try simp at q51
     refine last 61 0 [(0,.str s1),(6,pT 0),(7,iI (((i3+1)+1:Nat):Int))] [[.baddr 107 0,.osl ⟨1,5⟩ (v49.map cU)]] (st (by simp[q51])) fun zz hs=>?_
     exact⟨(k8,v49,(i3+1)+1),hs,l6,by simp⟩
    have c53:=eqF g47
    have q54:Rng .i64 (((i3+1:Nat):Int)-1):=by simp only[Rng,inR];omega
    try simp at q54
    refine cut 61 0 [(2,.str ([]:List UInt8)),(3,iI 0),(4,iI (((i3+1:Nat):Int)-1)),(5,iI 3)] [[.baddr 107 0,.osl ⟨1,5⟩ (buf2.map cU)]] (st (by simp[q54]))<|zAA<|zAD<|zAD<|zAD<|zAB ?_
    replace h:=retL l6 h
    refine zAB<|zAD<|zAB ?_
    cases h
    simp
   refine zHR rfl g25<|cutA 61 0 [(0,.str s1),(6,pT 0),(7,iI i3),(8,.int .u8 c12.toNat),(53,.bool (eqI c12.toNat 92))] [[.baddr 107 0,.osl ⟨1,5⟩ (buf2.map cU)]]<|spc l6 rfl (fun g55 l6=>?_) fun g55 l6=>?_
   ·have c56:=eqT g55
    refine cutA 61 0 [(2,.str ([]:List UInt8)),(3,iI 0),(4,iI 0),(5,iI 4)] [[.baddr 107 0,.osl ⟨1,5⟩ (buf2.map cU)]]<|zAA<|zAD<|zAD<|zAB ?_
    replace h:=retL l6 h
    refine zAB<|zAD<|zAB ?_
    cases h
    simp
   have c57:=eqF g55
   obtain⟨v58,q59,l6⟩:=bs l6
   refine cut 61 0 [(0,.str s1),(6,pT 0),(7,iI i3),(8,.int .u8 c12.toNat),(56,.bool (!v58))] [[.baddr 107 0,.osl ⟨1,5⟩ (buf2.map cU)]] ?_ ?_
   ·refine st ?_
    simp
    have r67:=zIB c12 v58 q59
    try simp at r67
    refine cP r67 ?_
    simp
   refine spc l6 rfl (fun g60 l6=>?_) fun g60 l6=>?_
   ·have g61:=notT g60
    refine cutA 61 0 [(2,.str ([]:List UInt8)),(3,iI 0),(4,iI i3),(5,iI 3)] [[.baddr 107 0,.osl ⟨1,5⟩ (buf2.map cU)]]<|zAA<|zAD<|zAD<|zAB ?_
    replace h:=retL l6 h
    refine zAB<|zAD<|zAB ?_
    cases h
    simp
   have g62:=notF g60
   obtain⟨v63,q64,l6⟩:=bs l6
   refine last 61 0 [(0,.str s1),(6,pT 0),(7,iI i3)] [[.baddr 107 0,.osl ⟨1,5⟩ (v63.map cU)]] ?_ fun zz hs=>?_
   ·refine st ?_
    simp
    have r66:=(zBx c12 buf2 v63 q64).frame [0] [[.baddr 107 0,.osl ⟨1,5⟩ (buf2.map cU)]] (by simp)
    try simp at r66
    refine zAW r66 (by simp) rfl ?_
    simp
   refine zDA<|zDA<|zCh ?_ hs
   have q65:Rng .i64 (((i3:Nat):Int)+1):=by simp only[Rng,inR];omega
   try simp at q65
   refine last 61 0 [(0,.str s1),(6,pT 0),(7,iI ((i3+1:Nat):Int))] [[.baddr 107 0,.osl ⟨1,5⟩ (v63.map cU)]] (st (by simp[q65])) fun zz hs=>?_
   exact⟨(k8,v63,i3+1),hs,l6,by simp⟩
  have c68:=ltF g9
  refine zGn 0 rfl fun f69=>?_
  refine zBP<|zAU ?_
  rcases o5 with o5|o4
  ·cases l6
  have q70:=Sum.inr.inj (zqa l6)
  replace h:=zEk h
  have q70:=q70.symm
  refine zAU<|zBU<|zCh (t:=mkS 61 0 [] [[.baddr 107 0,.osl ⟨1,5⟩ (o4.map cU)]]) ?_ (zBO (by simp[q70]))
  refine cutA 61 0 [(2,.str ([]:List UInt8)),(3,iI 0),(4,iI 0),(5,iI 4)] [[.baddr 107 0,.osl ⟨1,5⟩ (o4.map cU)]]<|zAA ?_
  cases h
  simp
theorem zIh(fuel:Nat)(s1:(List UInt8))(r:(List UInt8)×Bool)(h:zEA fuel s1=some r):Pure Tryz.prog 123 [.str s1] (.tup [.str r.1,.bool r.2]):=by
 rw[zEA] at h
 refine zAG Tryz.func123 (by rfl) (by rfl) (by simp) (by simp) (by simp)<|cutA 29 0 [(0,.str s1)] []<|zAE ?_
 obtain⟨v2,q3,h⟩:=bs h
 refine cut 29 0 [(0,.str s1),(7,.bool v2)] [] ?_ ?_
 ·refine st ?_
  simp
  have r43:=zCg s1 [40,42] v2 q3
  try simp at r43
  refine cP r43 ?_
  simp
 refine spc h rfl (fun g4 h=>?_) fun g4 h=>?_
 ·refine cutA 29 0 [(2,.str ([]:List UInt8)),(3,.bool false)] []<|zAA<|zAB ?_
  cases h
  simp
 refine zAC<|zAF<|zAE ?_
 obtain⟨l5,q6,h⟩:=bs h
 obtain⟨q7,q8⟩:=zG0 q6
 refine cut 29 0 [(0,.str s1),(8,.osl ⟨1,9⟩ (l5.map cS)),(9,iI l5.length),(10,iI 0)] [] (st (by simp[q7,q8]))<|zAH ?_
 obtain⟨o11,l12,h⟩:=bs h
 refine zCI (fun p:Nat×Nat=>mkS 29 0 [(0,.str s1),(8,.osl ⟨1,9⟩ (l5.map cS)),(9,iI l5.length),(10,iI p.2)] []) (fun p=>zBs s1 l5 p.1 p.2=some o11) (fun p=>p.1) (fuel,0) l12 (zBO (by simp)) ?_
 rintro⟨k13,i9⟩ l12
 try dsimp only at l12 ⊢
 cases k13 with
 |zero=>
  rw[zBs] at l12;cases l12
 |succ k14=>
  rw[zBs] at l12
  refine cutA 29 0 [(0,.str s1),(8,.osl ⟨1,9⟩ (l5.map cS)),(9,iI l5.length),(10,iI i9),(11,.bool (ltI i9 l5.length))] []<|zAE<|spc l12 rfl (fun g15 l12=>?_) fun g15 l12=>?_
  ·have c16:=ltT g15
   refine zE4 8 rfl fun f17=>?_
   rw[zq4] at f17
   refine zAC<|zAF<|zAE<|zAH ?_
   obtain⟨x18,q19,l12⟩:=bs l12
   refine cut 29 0 [(0,.str s1),(5,.str x18),(8,.osl ⟨1,9⟩ (l5.map cS)),(9,iI l5.length),(10,iI i9)] [] (st (by simp[q19])) ?_
   obtain⟨v20,q21,l12⟩:=bs l12
   refine cut 29 0 [(0,.str s1),(5,.str x18),(8,.osl ⟨1,9⟩ (l5.map cS)),(9,iI l5.length),(10,iI i9),(16,.bool v20)] [] ?_ ?_
   ·refine st ?_
    simp
    have r24:=zCg s1 x18 v20 q21
    try simp at r24
    refine cP r24 ?_
    simp
   refine spc l12 rfl (fun g22 l12=>?_) fun g22 l12=>?_
   ·refine cutA 29 0 [(2,.str x18),(3,.bool true)] []<|zAA<|zAD<|zAB ?_
    replace h:=retL l12 h
    refine zAB<|zAD<|zAB ?_
    cases h
    simp
   refine zAC<|zDA<|zAF ?_
   have q23:Rng .i64 (((i9:Nat):Int)+1):=by simp only[Rng,inR];omega
   try simp at q23
   refine last 29 0 [(0,.str s1),(8,.osl ⟨1,9⟩ (l5.map cS)),(9,iI l5.length),(10,iI ((i9+1:Nat):Int))] [] (st (by simp[q23])) fun zz hs=>?_
   exact⟨(k14,i9+1),hs,l12,by simp⟩
  have c25:=ltF g15
  refine zE4 8 rfl fun f26=>?_
  rw[zq4] at f26
  refine zBP<|zAU ?_
  rcases o11 with o11|o10
  ·cases l12
  have q27:=Sum.inr.inj (zqa l12)
  replace h:=zEk h
  refine zAU<|zBU<|zCh (t:=mkS 29 0 [(0,.str s1)] []) ?_ (zBO (by simp))
  refine zAE ?_
  obtain⟨b35,q36,h⟩:=bs h
  refine cut 29 0 [(0,.str s1),(26,.bool b35)] [] ?_ ?_
  ·rcases sp q36 with ⟨g28,q36⟩|⟨g28,q36⟩
   ·have g29:=notT g28
    obtain⟨c30,q31,q36⟩:=bs q36
    obtain⟨v32,q33,q36⟩:=bs q36
    obtain rfl:=oi q36
    refine st ?_
    simp[g28,q31]
    have r42:=zEe [40,41,44,59,58,61,124,95,46,42,43,45,60,94,126] c30 v32 q33
    try simp[g28,q31] at r42
    refine cP r42 ?_
    simp[g28,q31]
   have g34:=notF g28
   obtain rfl:=oi q36
   refine st ?_
   simp[g28]
  refine spc h rfl (fun g37 h=>?_) fun g37 h=>?_
  ·obtain⟨s38,q39,h⟩:=bs h
   obtain⟨q40,q41⟩:=zDn q39
   try simp at q40
   try simp at q41
   refine cut 29 0 [(2,.str s38),(3,.bool true)] [] (st (by simp[q40,q41]))<|zAA<|zAB ?_
   cases h
   simp
  refine zAC<|zAF<|cutA 29 0 [(2,.str ([]:List UInt8)),(3,.bool false)] []<|zAA ?_
  cases h
  simp
theorem zFh(fuel:Nat)(w1:zJs)(r:zJu×Int×Int×zJs)(h:zCY fuel w1=some r):Raw Tryz.prog 58 [pT 0] [[.str w1.s,iI w1.at_]] (.tup [.agg [iI r.1.Kind,.str r.1.Text,iI r.1.At.Line,iI r.1.At.Column],iI r.2.1,iI r.2.2.1]) [[.str r.2.2.2.s,iI r.2.2.2.at_]]:=by
 rw[zCY] at h
 refine zAl Tryz.func58 (by rfl) (by rfl) (by simp) (by simp)<|cutA 188 1 [(1,pT 1),(2,pT 2)] [[.str w1.s,iI w1.at_],[pT 0],zz1] ?_
 obtain⟨s2,q3,h⟩:=bs h
 obtain⟨q4,q5⟩:=zDn q3
 try simp at q4
 try simp at q5
 refine cut 188 1 [(1,pT 1),(2,pT 2),(5,.str s2)] [[.str w1.s,iI w1.at_],[pT 0],zz1] ?_ ?_
 ·refine zBS [] mixed (n:=188) rfl (by decide) ?_
  simp[q4,q5]
 refine cutA 188 1 [(1,pT 1),(2,pT 2),(5,.str s2),(6,.fn (.func 113) [] [pT 1])] [[.str w1.s,iI w1.at_],[pT 0],zz1]<|cutA 188 1 [(2,pT 2),(5,.str s2),(6,.fn (.func 113) [] [pT 1]),(7,.fn (.func 114) [] [pT 1])] [[.str w1.s,iI w1.at_],[pT 0],zz1] ?_
 obtain⟨c6,q7,h⟩:=bs h
 refine cut 188 1 [(2,pT 2),(5,.str s2),(6,.fn (.func 113) [] [pT 1]),(7,.fn (.func 114) [] [pT 1]),(8,.int .u8 c6.toNat)] [[.str w1.s,iI w1.at_],[pT 0],zz1] (st (by simp[q7]))<|zAE<|zAH ?_
 obtain⟨b13,q14,h⟩:=bs h
 refine cut 188 1 [(2,pT 2),(5,.str s2),(6,.fn (.func 113) [] [pT 1]),(7,.fn (.func 114) [] [pT 1]),(8,.int .u8 c6.toNat),(33,.bool b13)] [[.str w1.s,iI w1.at_],[pT 0],zz1] ?_ ?_
 ·obtain⟨v8,q9,q14⟩:=bs q14
  rcases sp q14 with ⟨g10,q14⟩|⟨g10,q14⟩
  ·obtain rfl:=oi q14
   refine st ?_
   simp[g10]
   have r142:=zCs c6 v8 q9
   try simp[g10] at r142
   refine cP r142 ?_
   simp[g10]
  obtain⟨v11,q12,q14⟩:=bs q14
  obtain rfl:=oi q14
  refine st ?_
  simp[g10]
  have r143:=zCs c6 v8 q9
  try simp[g10] at r143
  refine cP r143 ?_
  simp[g10]
  have r144:=zD3 c6 v11 q12
  try simp[g10] at r144
  refine cP r144 ?_
  simp[g10]
 refine spc h rfl (fun g15 h=>?_) fun g15 h=>?_
 ·obtain⟨v16,q17,h⟩:=bs h
  refine cut 188 1 [(2,pT 2),(5,.str s2),(6,.fn (.func 113) [] [pT 1]),(7,.fn (.func 114) [] [pT 1]),(8,.int .u8 c6.toNat),(9,iI v16)] [[.str w1.s,iI w1.at_],[pT 0],zz1] ?_ ?_
  ·refine st ?_
   simp
   have r45:=zEW fuel s2 v16 q17
   try simp at r45
   refine cP r45 ?_
   simp
  obtain⟨s18,q19,h⟩:=bs h
  obtain⟨q20,q21⟩:=zDn q19
  try simp at q20
  try simp at q21
  refine cut 188 1 [(2,pT 2),(6,.fn (.func 113) [] [pT 1]),(7,.fn (.func 114) [] [pT 1]),(8,.int .u8 c6.toNat),(9,iI v16),(10,.str s18)] [[.str w1.s,iI w1.at_],[pT 0],zz1] (st (by simp[q20,q21]))<|zAE<|zAH ?_
  obtain⟨v22,q23,h⟩:=bs h
  refine cut 188 1 [(2,pT 2),(6,.fn (.func 113) [] [pT 1]),(7,.fn (.func 114) [] [pT 1]),(8,.int .u8 c6.toNat),(9,iI v16),(10,.str s18),(45,.bool v22)] [[.str w1.s,iI w1.at_],[pT 0],zz1] ?_ ?_
  ·refine st ?_
   simp
   have r44:=zID s18 v22 q23
   try simp at r44
   refine cP r44 ?_
   simp
  refine spc h rfl (fun g24 h=>?_) fun g24 h=>?_
  ·obtain⟨v25,q26,h⟩:=bs h
   refine cut 188 1 [(2,pT 2),(3,iI v25.2.1),(4,iI v25.2.2.1)] [[.str v25.2.2.2.s,iI v25.2.2.2.at_],[pT 0],(zJu.c v25.1)] ?_ ?_
   ·refine st ?_
    simp
    have r27:=(zBH 6 v16 s18 w1 v25 q26).frame [1,0] [[.str w1.s,iI w1.at_],[pT 0],zz1] (by simp)
    try simp at r27
    refine zAW r27 (by simp) rfl ?_
    simp
   refine zAA<|zAD<|zAB<|zAD<|zAB ?_
   cases h
   simp
  refine cutA 188 1 [(2,pT 2),(6,.fn (.func 113) [] [pT 1]),(7,.fn (.func 114) [] [pT 1]),(8,.int .u8 c6.toNat),(9,iI v16),(10,.str s18),(55,.bool (ltI 24 v16))] [[.str w1.s,iI w1.at_],[pT 0],zz1]<|spc h rfl (fun g28 h=>?_) fun g28 h=>?_
  ·have c29:=ltT g28
   obtain⟨v30,q31,h⟩:=bs h
   refine cut 188 1 [(2,pT 2),(3,iI v30.2.1),(4,iI v30.2.2)] [[.str w1.s,iI w1.at_],[pT 0],(zJu.c v30.1)] ?_ ?_
   ·refine st ?_
    simp
    have r32:=(zBh 0 5 w1 v30 q31).frame [1,0] [[.str w1.s,iI w1.at_],[pT 0],zz1] (by simp)
    try simp at r32
    refine zAW r32 (by simp) rfl ?_
    simp
   refine zAA<|zAD<|zAB<|zAD<|zAB ?_
   cases h
   simp
  have c33:=ltF g28
  obtain⟨v34,q35,h⟩:=bs h
  refine cut 188 1 [(2,pT 2),(6,.fn (.func 113) [] [pT 1]),(9,iI v16),(10,.str s18),(63,.bool v34)] [[.str w1.s,iI w1.at_],[pT 0],zz1] ?_ ?_
  ·refine st ?_
   simp
   have r43:=zCs c6 v34 q35
   try simp at r43
   refine cP r43 ?_
   simp
  refine spc h rfl (fun g36 h=>?_) fun g36 h=>?_
  ·obtain⟨v37,q38,h⟩:=bs h
   refine cut 188 1 [(2,pT 2),(3,iI v37.2.1),(4,iI v37.2.2.1)] [[.str v37.2.2.2.s,iI v37.2.2.2.at_],[pT 0],(zJu.c v37.1)] ?_ ?_
   ·refine st ?_
    simp
    have r39:=(zBH 1 v16 s18 w1 v37 q38).frame [1,0] [[.str w1.s,iI w1.at_],[pT 0],zz1] (by simp)
    try simp at r39
    refine zAW r39 (by simp) rfl ?_
    simp
   refine zAA<|zAD<|zAB<|zAD<|zAB ?_
   cases h
   simp
  refine zAC<|zDA<|zAF ?_
  obtain⟨v40,q41,h⟩:=bs h
  refine cut 188 1 [(2,pT 2),(3,iI v40.2.1),(4,iI v40.2.2.1)] [[.str v40.2.2.2.s,iI v40.2.2.2.at_],[pT 0],(zJu.c v40.1)] ?_ ?_
  ·refine st ?_
   simp
   have r42:=(zBH 2 v16 s18 w1 v40 q41).frame [1,0] [[.str w1.s,iI w1.at_],[pT 0],zz1] (by simp)
   try simp at r42
   refine zAW r42 (by simp) rfl ?_
   simp
  refine zAA<|zAD<|zAB ?_
  cases h
  simp
 refine cutA 188 1 [(2,pT 2),(5,.str s2),(6,.fn (.func 113) [] [pT 1]),(7,.fn (.func 114) [] [pT 1]),(8,.int .u8 c6.toNat),(80,.bool (eqI c6.toNat 39))] [[.str w1.s,iI w1.at_],[pT 0],zz1]<|spc h rfl (fun g46 h=>?_) fun g46 h=>?_
 ·have c47:=eqT g46
  refine zAE ?_
  obtain⟨b57,q58,h⟩:=bs h
  refine cut 188 1 [(2,pT 2),(5,.str s2),(6,.fn (.func 113) [] [pT 1]),(7,.fn (.func 114) [] [pT 1]),(91,.bool b57)] [[.str w1.s,iI w1.at_],[pT 0],zz1] ?_ ?_
  ·rcases sp q58 with ⟨g48,q58⟩|⟨g48,q58⟩
   ·have c49:=ltT g48
    refine zGn 5 rfl fun f50=>?_
    obtain rfl:=oi q58
    refine st ?_
    simp[g48]
   have c51:=ltF g48
   refine zGn 5 rfl fun f52=>?_
   obtain⟨c53,q54,q58⟩:=bs q58
   obtain⟨v55,q56,q58⟩:=bs q58
   obtain rfl:=oi q58
   refine st ?_
   simp[g48,q54]
   have r88:=zCs c53 v55 q56
   try simp[g48,q54] at r88
   refine cP r88 ?_
   simp[g48,q54]
  refine spc h rfl (fun g59 h=>?_) fun g59 h=>?_
  ·obtain⟨v60,q61,h⟩:=bs h
   refine cut 188 1 [(2,pT 2),(3,iI v60.2.1),(4,iI v60.2.2)] [[.str w1.s,iI w1.at_],[pT 0],(zJu.c v60.1)] ?_ ?_
   ·refine st ?_
    simp
    have r62:=(zBh 0 3 w1 v60 q61).frame [1,0] [[.str w1.s,iI w1.at_],[pT 0],zz1] (by simp)
    try simp at r62
    refine zAW r62 (by simp) rfl ?_
    simp
   refine zAA<|zAB<|zAD<|zAB ?_
   cases h
   simp
  refine zAC<|zAF ?_
  obtain⟨s63,q64,h⟩:=bs h
  obtain⟨q65,q66⟩:=zDn q64
  try simp at q65
  try simp at q66
  obtain⟨v67,q68,h⟩:=bs h
  obtain⟨n69,q70,h⟩:=bs h
  obtain⟨q71,q72⟩:=zDu q70
  try simp at q71
  try simp at q72
  have c73:=q71;simp only[Rng,inR] at c73
  refine cut 188 1 [(2,pT 2),(5,.str s2),(6,.fn (.func 113) [] [pT 1]),(7,.fn (.func 114) [] [pT 1]),(11,iI n69)] [[.str w1.s,iI w1.at_],[pT 0],zz1] ?_ ?_
  ·refine st ?_
   simp[q65,q66,q71,q72]
   have r87:=zEW fuel s63 v67 q68
   try simp[q65,q66,q71,q72] at r87
   refine cP r87 ?_
   simp[q65,q66,q71,q72]
  refine zAE<|cutA 188 1 [(2,pT 2),(5,.str s2),(6,.fn (.func 113) [] [pT 1]),(7,.fn (.func 114) [] [pT 1]),(11,iI n69),(102,.bool (ltI 24 n69))] [[.str w1.s,iI w1.at_],[pT 0],zz1]<|spc h rfl (fun g74 h=>?_) fun g74 h=>?_
  ·have c75:=ltT g74
   obtain⟨v76,q77,h⟩:=bs h
   refine cut 188 1 [(2,pT 2),(3,iI v76.2.1),(4,iI v76.2.2)] [[.str w1.s,iI w1.at_],[pT 0],(zJu.c v76.1)] ?_ ?_
   ·refine st ?_
    simp
    have r78:=(zBh 0 5 w1 v76 q77).frame [1,0] [[.str w1.s,iI w1.at_],[pT 0],zz1] (by simp)
    try simp at r78
    refine zAW r78 (by simp) rfl ?_
    simp
   refine zAA<|zAB<|zAD<|zAB ?_
   cases h
   simp
  have c79:=ltF g74
  refine zAC<|zAF ?_
  obtain⟨s80,q81,h⟩:=bs h
  obtain⟨q82,q83⟩:=zDn q81
  try simp at q82
  try simp at q83
  obtain⟨v84,q85,h⟩:=bs h
  refine cut 188 1 [(2,pT 2),(3,iI v84.2.1),(4,iI v84.2.2.1)] [[.str v84.2.2.2.s,iI v84.2.2.2.at_],[pT 0],(zJu.c v84.1)] ?_ ?_
  ·refine st ?_
   simp[q82,q83]
   have r86:=(zBH 3 n69 s80 w1 v84 q85).frame [1,0] [[.str w1.s,iI w1.at_],[pT 0],zz1] (by simp)
   try simp[q82,q83] at r86
   refine zAW r86 (by simp[q82,q83]) rfl ?_
   simp[q82,q83]
  refine zAA<|zAD<|zAB ?_
  cases h
  simp
 have c89:=eqF g46
 obtain⟨v90,q91,h⟩:=bs h
 refine cut 188 1 [(2,pT 2),(5,.str s2),(6,.fn (.func 113) [] [pT 1]),(7,.fn (.func 114) [] [pT 1]),(8,.int .u8 c6.toNat),(117,.bool v90)] [[.str w1.s,iI w1.at_],[pT 0],zz1] ?_ ?_
 ·refine st ?_
  simp
  have r141:=zEZ c6 v90 q91
  try simp at r141
  refine cP r141 ?_
  simp
 refine spc h rfl (fun g92 h=>?_) fun g92 h=>?_
 ·obtain⟨v93,q94,h⟩:=bs h
  refine cut 188 1 [(2,pT 2),(5,.str s2),(6,.fn (.func 113) [] [pT 1]),(7,.fn (.func 114) [] [pT 1]),(12,iI v93)] [[.str w1.s,iI w1.at_],[pT 0],zz1] ?_ ?_
  ·refine st ?_
   simp
   have r113:=zF1 fuel s2 v93 q94
   try simp at r113
   refine cP r113 ?_
   simp
  refine zAE ?_
  obtain⟨s95,q96,h⟩:=bs h
  obtain⟨q97,q98⟩:=zDn q96
  try simp at q97
  try simp at q98
  obtain⟨v99,q100,h⟩:=bs h
  refine cut 188 1 [(2,pT 2),(5,.str s2),(6,.fn (.func 113) [] [pT 1]),(7,.fn (.func 114) [] [pT 1]),(12,iI v93),(13,iI v99)] [[.str w1.s,iI w1.at_],[pT 0],zz1] ?_ ?_
  ·refine st ?_
   simp[q97,q98]
   have r112:=zIf fuel s95 v99 q100
   try simp[q97,q98] at r112
   refine cP r112 ?_
   simp[q97,q98]
  refine cutA 188 1 [(2,pT 2),(5,.str s2),(6,.fn (.func 113) [] [pT 1]),(7,.fn (.func 114) [] [pT 1]),(12,iI v93),(13,iI v99),(127,.bool (!(eqI v99 0)))] [[.str w1.s,iI w1.at_],[pT 0],zz1] ?_
  rcases sp h with ⟨g101,h⟩|⟨g101,h⟩
  ·have g102:=notT g101
   have c103:=eqF g102
   refine zBF rfl g101 ?_
   obtain⟨v104,q105,h⟩:=bs h
   refine cut 188 1 [(2,pT 2),(3,iI v104.2.1),(4,iI v104.2.2)] [[.str w1.s,iI w1.at_],[pT 0],(zJu.c v104.1)] ?_ ?_
   ·refine st ?_
    simp
    have r106:=(zBh 0 v99 w1 v104 q105).frame [1,0] [[.str w1.s,iI w1.at_],[pT 0],zz1] (by simp)
    try simp at r106
    refine zAW r106 (by simp) rfl ?_
    simp
   refine zAA<|zAB<|zAD<|zAB ?_
   cases h
   simp
  have g107:=notF g101
  have c108:=eqT g107
  refine zHR rfl g101<|zAC<|zAF ?_
  obtain⟨v109,q110,h⟩:=bs h
  refine cut 188 1 [(2,pT 2),(3,iI v109.2.1),(4,iI v109.2.2.1)] [[.str v109.2.2.2.s,iI v109.2.2.2.at_],[pT 0],(zJu.c v109.1)] ?_ ?_
  ·refine st ?_
   simp[q97,q98]
   have r111:=(zBH 4 v93 s95 w1 v109 q110).frame [1,0] [[.str w1.s,iI w1.at_],[pT 0],zz1] (by simp)
   try simp[q97,q98] at r111
   refine zAW r111 (by simp[q97,q98]) rfl ?_
   simp[q97,q98]
  refine zAA<|zAD<|zAB ?_
  cases h
  simp
 refine cutA 188 1 [(2,pT 2),(5,.str s2),(6,.fn (.func 113) [] [pT 1]),(7,.fn (.func 114) [] [pT 1]),(143,.bool (eqI c6.toNat 34))] [[.str w1.s,iI w1.at_],[pT 0],zz1]<|spc h rfl (fun g114 h=>?_) fun g114 h=>?_
 ·have c115:=eqT g114
  obtain⟨v116,q117,h⟩:=bs h
  refine cut 188 1 [(2,pT 2),(6,.fn (.func 113) [] [pT 1]),(7,.fn (.func 114) [] [pT 1]),(14,.str v116.1),(15,iI v116.2.1),(16,iI v116.2.2.1),(17,iI v116.2.2.2)] [[.str w1.s,iI w1.at_],[pT 0],zz1] ?_ ?_
  ·refine st ?_
   simp
   have r129:=zIC fuel s2 v116 q117
   try simp at r129
   refine cP r129 ?_
   simp
  refine zAE<|cutA 188 1 [(2,pT 2),(6,.fn (.func 113) [] [pT 1]),(7,.fn (.func 114) [] [pT 1]),(14,.str v116.1),(15,iI v116.2.1),(16,iI v116.2.2.1),(17,iI v116.2.2.2),(154,.bool (!(eqI v116.2.2.2 0)))] [[.str w1.s,iI w1.at_],[pT 0],zz1] ?_
  rcases sp h with ⟨g118,h⟩|⟨g118,h⟩
  ·have g119:=notT g118
   have c120:=eqF g119
   refine zBF rfl g118 ?_
   obtain⟨v121,q122,h⟩:=bs h
   refine cut 188 1 [(2,pT 2),(3,iI v121.2.1),(4,iI v121.2.2)] [[.str w1.s,iI w1.at_],[pT 0],(zJu.c v121.1)] ?_ ?_
   ·refine st ?_
    simp
    have r123:=(zBh v116.2.2.1 v116.2.2.2 w1 v121 q122).frame [1,0] [[.str w1.s,iI w1.at_],[pT 0],zz1] (by simp)
    try simp at r123
    refine zAW r123 (by simp) rfl ?_
    simp
   refine zAA<|zAB<|zAD<|zAB ?_
   cases h
   simp
  have g124:=notF g118
  have c125:=eqT g124
  refine zHR rfl g118<|zAC<|zAF ?_
  obtain⟨v126,q127,h⟩:=bs h
  refine cut 188 1 [(2,pT 2),(3,iI v126.2.1),(4,iI v126.2.2.1)] [[.str v126.2.2.2.s,iI v126.2.2.2.at_],[pT 0],(zJu.c v126.1)] ?_ ?_
  ·refine st ?_
   simp
   have r128:=(zBH 5 v116.2.1 v116.1 w1 v126 q127).frame [1,0] [[.str w1.s,iI w1.at_],[pT 0],zz1] (by simp)
   try simp at r128
   refine zAW r128 (by simp) rfl ?_
   simp
  refine zAA<|zAD<|zAB ?_
  cases h
  simp
 have c130:=eqF g114
 refine zAC<|zDA<|zAF<|zAE ?_
 obtain⟨v131,q132,h⟩:=bs h
 refine cut 188 1 [(2,pT 2),(6,.fn (.func 113) [] [pT 1]),(7,.fn (.func 114) [] [pT 1]),(18,.str v131.1),(19,.bool v131.2)] [[.str w1.s,iI w1.at_],[pT 0],zz1] ?_ ?_
 ·refine st ?_
  simp
  have r140:=zIh fuel s2 v131 q132
  try simp at r140
  refine cP r140 ?_
  simp
 refine cutA 188 1 [(2,pT 2),(6,.fn (.func 113) [] [pT 1]),(7,.fn (.func 114) [] [pT 1]),(18,.str v131.1),(174,.bool v131.2)] [[.str w1.s,iI w1.at_],[pT 0],zz1]<|spc h rfl (fun g133 h=>?_) fun g133 h=>?_
 ·obtain⟨v134,q135,h⟩:=bs h
  refine cut 188 1 [(2,pT 2),(3,iI v134.2.1),(4,iI v134.2.2.1)] [[.str v134.2.2.2.s,iI v134.2.2.2.at_],[pT 0],(zJu.c v134.1)] ?_ ?_
  ·refine st ?_
   simp
   have r136:=(zBH 7 (v131.1.length:Int) v131.1 w1 v134 q135).frame [1,0] [[.str w1.s,iI w1.at_],[pT 0],zz1] (by simp)
   try simp at r136
   refine zAW r136 (by simp) rfl ?_
   simp
  refine zAA<|zAB ?_
  cases h
  simp
 refine zAC<|zAF ?_
 obtain⟨v137,q138,h⟩:=bs h
 refine cut 188 1 [(2,pT 2),(3,iI v137.2.1),(4,iI v137.2.2)] [[.str w1.s,iI w1.at_],[pT 0],(zJu.c v137.1)] ?_ ?_
 ·refine st ?_
  simp
  have r139:=(zBh 0 3 w1 v137 q138).frame [1,0] [[.str w1.s,iI w1.at_],[pT 0],zz1] (by simp)
  try simp at r139
  refine zAW r139 (by simp) rfl ?_
  simp
 refine zAA ?_
 cases h
 simp
theorem zIg(fuel:Nat)(s1:(List UInt8))(r:(List zJu)×zJw×Int)(h:zC4 fuel s1=some r):Pure Tryz.prog 28 [.str s1] (.tup [.sl (r.1.map zJu.c),.agg [iI r.2.1.Line,iI r.2.1.Column],iI r.2.2]):=by
 rw[zC4] at h
 refine zAG Tryz.func28 (by rfl) (by rfl) (by simp) (by simp) (by simp)<|cutA 71 0 [(0,.str s1),(3,pT 0)] [zz3]<|zAE<|cutA 71 0 [(0,.str s1),(3,pT 0),(14,.bool (ltI 16384 s1.length))] [zz3]<|spc h rfl (fun g2 h=>?_) fun g2 h=>?_
 ·have c3:=ltT g2
  refine zGn 0 rfl fun f4=>?_
  refine cutA 71 0 [(2,.osl ⟨4,92⟩ (([]:List zJu).map zJu.c)),(3,pT 0),(4,iI 5)] [zz3]<|zAA<|zAB ?_
  cases h
  simp
 have c5:=ltF g2
 refine zGn 0 rfl fun f6=>?_
 refine zAC<|zAF<|cutA 71 0 [(0,.str s1),(3,pT 0),(5,pT 1)] [zz3,[.str s1,iI 0]]<|cutA 71 0 [(0,.str s1),(3,pT 0),(5,pT 1),(6,.osl ⟨4,92⟩ (([]:List zJu).map zJu.c))] [zz3,[.str s1,iI 0]]<|zAH<|zCI (fun p:Nat×(List UInt8)×Int×(List zJu)=>mkS 71 0 [(0,.str s1),(3,pT 0),(5,pT 1),(6,.osl ⟨4,92⟩ (p.2.2.2.map zJu.c))] [zz3,[.str p.2.1,iI p.2.2.1]]) (fun p=>zCW fuel s1 p.1 p.2.1 p.2.2.1 p.2.2.2=some r) (fun p=>p.1) (fuel,s1,0,([]:List zJu)) h (zBO (by simp)) ?_
 rintro⟨k11,s7,at8,out9⟩ h
 try dsimp only at h ⊢
 cases k11 with
 |zero=>
  rw[zCW] at h;cases h
 |succ k12=>
  rw[zCW] at h
  refine zAH<|zAE ?_
  obtain⟨v13,q14,h⟩:=bs h
  refine cut 71 0 [(0,.str s1),(3,pT 0),(5,pT 1),(6,.osl ⟨4,92⟩ (out9.map zJu.c)),(7,iI v13.1)] [zz3,[.str v13.2.s,iI v13.2.at_]] ?_ ?_
  ·refine st ?_
   simp
   have r55:=(zF0 fuel (zJs.mk s7 at8) v13 q14).frame [1] [zz3,[.str s7,iI at8]] (by simp)
   try simp at r55
   refine zAW r55 (by simp) rfl ?_
   simp
  refine cutA 71 0 [(0,.str s1),(3,pT 0),(5,pT 1),(6,.osl ⟨4,92⟩ (out9.map zJu.c)),(7,iI v13.1),(22,.bool (leI 0 v13.1))] [zz3,[.str v13.2.s,iI v13.2.at_]]<|spc h rfl (fun g15 h=>?_) fun g15 h=>?_
  ·have c16:=leT g15
   obtain⟨v17,q18,h⟩:=bs h
   refine cut 71 0 [(2,.osl ⟨4,92⟩ (([]:List zJu).map zJu.c)),(3,pT 0),(4,iI 4)] [[iI v17.Line,iI v17.Column],[.str v13.2.s,iI v13.2.at_]] ?_ ?_
   ·refine st ?_
    simp
    have r19:=zD2 fuel s1 v13.1 v17 q18
    try simp at r19
    refine cP r19 ?_
    simp
   refine zAA<|zAB<|zAD<|zAB<|zAD ?_
   cases h
   simp
  have c20:=leF g15
  refine zAC<|zAF<|cutA 71 0 [(0,.str s1),(3,pT 0),(5,pT 1),(6,.osl ⟨4,92⟩ (out9.map zJu.c)),(8,iI v13.2.at_)] [zz3,[.str v13.2.s,iI v13.2.at_]]<|zAE<|zAH<|cutA 71 0 [(0,.str s1),(3,pT 0),(5,pT 1),(6,.osl ⟨4,92⟩ (out9.map zJu.c)),(8,iI v13.2.at_),(30,.bool (leI s1.length v13.2.at_))] [zz3,[.str v13.2.s,iI v13.2.at_]]<|spc h rfl (fun g21 h=>?_) fun g21 h=>?_
  ·have c22:=leT g21
   obtain⟨v23,q24,h⟩:=bs h
   obtain⟨l25,q26,h⟩:=bs h
   obtain⟨q27,q28⟩:=app_ok q26
   try simp at q27
   refine cut 71 0 [(2,.osl ⟨4,92⟩ (l25.map zJu.c)),(3,pT 0),(4,iI 0)] [zz3,[.str v13.2.s,iI v13.2.at_]] ?_ ?_
   ·refine st ?_
    simp[q27,q28]
    have r29:=zD2 fuel s1 (s1.length:Int) v23 q24
    try simp[q27,q28] at r29
    refine cP r29 ?_
    simp[q27,q28]
   refine zAA<|zAD<|zAB<|zAD<|zAB<|zAD ?_
   cases h
   simp
  have c30:=leF g21
  refine cutA 71 0 [(0,.str s1),(3,pT 0),(5,pT 1),(6,.osl ⟨4,92⟩ (out9.map zJu.c)),(8,iI v13.2.at_),(44,.bool (eqI out9.length 20000))] [zz3,[.str v13.2.s,iI v13.2.at_]]<|spc h rfl (fun g31 h=>?_) fun g31 h=>?_
  ·have c32:=eqT g31
   obtain⟨v33,q34,h⟩:=bs h
   refine cut 71 0 [(2,.osl ⟨4,92⟩ (([]:List zJu).map zJu.c)),(3,pT 0),(4,iI 5)] [[iI v33.Line,iI v33.Column],[.str v13.2.s,iI v13.2.at_]] ?_ ?_
   ·refine st ?_
    simp
    have r35:=zD2 fuel s1 v13.2.at_ v33 q34
    try simp at r35
    refine cP r35 ?_
    simp
   refine zAA<|zAD<|zAB<|zAD<|zAB<|zAD ?_
   cases h
   simp
  have c36:=eqF g31
  refine zAC<|zDA<|zAF ?_
  obtain⟨v37,q38,h⟩:=bs h
  refine cut 71 0 [(0,.str s1),(3,pT 0),(5,pT 1),(6,.osl ⟨4,92⟩ (out9.map zJu.c)),(8,iI v13.2.at_),(9,pT 2),(10,iI v37.2.1),(11,iI v37.2.2.1)] [zz3,[.str v37.2.2.2.s,iI v37.2.2.2.at_],(zJu.c v37.1)] ?_ ?_
  ·refine st ?_
   simp
   have r54:=(zFh fuel v13.2 v37 q38).frame [1] [zz3,[.str v13.2.s,iI v13.2.at_]] (by simp)
   try simp at r54
   refine zAW r54 (by simp) rfl ?_
   simp
  refine zAE<|cutA 71 0 [(0,.str s1),(3,pT 0),(5,pT 1),(6,.osl ⟨4,92⟩ (out9.map zJu.c)),(8,iI v13.2.at_),(9,pT 2),(10,iI v37.2.1),(11,iI v37.2.2.1),(58,.bool (!(eqI v37.2.2.1 0)))] [zz3,[.str v37.2.2.2.s,iI v37.2.2.2.at_],(zJu.c v37.1)] ?_
  rcases sp h with ⟨g39,h⟩|⟨g39,h⟩
  ·have g40:=notT g39
   have c41:=eqF g40
   refine zBF rfl g39 ?_
   obtain⟨v42,q43,h⟩:=bs h
   refine cut 71 0 [(2,.osl ⟨4,92⟩ (([]:List zJu).map zJu.c)),(3,pT 0),(4,iI v37.2.2.1)] [[iI v42.Line,iI v42.Column],[.str v37.2.2.2.s,iI v37.2.2.2.at_],(zJu.c v37.1)] ?_ ?_
   ·refine st ?_
    simp
    have r44:=zD2 fuel s1 v37.2.1 v42 q43
    try simp at r44
    refine cP r44 ?_
    simp
   refine zAA<|zAB<|zAD<|zAB<|zAD ?_
   cases h
   simp
  have g45:=notF g39
  have c46:=eqT g45
  refine zHR rfl g39<|zAC<|zAF ?_
  obtain⟨v47,q48,h⟩:=bs h
  refine cut 71 0 [(0,.str s1),(3,pT 0),(5,pT 1),(6,.osl ⟨4,92⟩ (out9.map zJu.c)),(9,pT 2)] [zz3,[.str v37.2.2.2.s,iI v37.2.2.2.at_],[iI v37.1.Kind,.str v37.1.Text,iI v47.Line,iI v47.Column]] ?_ ?_
  ·refine st ?_
   simp
   have r53:=zD2 fuel s1 v13.2.at_ v47 q48
   try simp at r53
   refine cP r53 ?_
   simp
  obtain⟨l49,q50,h⟩:=bs h
  obtain⟨q51,q52⟩:=app_ok q50
  try simp at q51
  refine last 71 0 [(0,.str s1),(3,pT 0),(5,pT 1),(6,.osl ⟨4,92⟩ (l49.map zJu.c))] [zz3,[.str v37.2.2.2.s,iI v37.2.2.2.at_]] (st (by simp[q51,q52])) fun zz hs=>?_
  refine zDA ?_
  exact⟨(k12,v37.2.2.2.s,v37.2.2.2.at_,l49),hs,h,by simp⟩
theorem zAQ(k1:Int)(w2:zJr)(r:Bool)(h:zAJ k1 w2=some r):Raw Tryz.prog 30 [pT 0,iI k1] [[.sl (w2.l.map zJu.c),iI w2.at_]] (.bool r) [[.sl (w2.l.map zJu.c),iI w2.at_]]:=by
 rw[zAJ] at h
 refine zAl Tryz.func30 (by rfl) (by rfl) (by simp) (by simp)<|cutA 18 1 [(0,pT 0),(1,iI k1)] [[.sl (w2.l.map zJu.c),iI w2.at_]] ?_
 obtain⟨x3,q4,h⟩:=bs h
 obtain⟨q5,q6⟩:=idx_ok q4
 refine cut 18 1 [(4,.bool (eqI x3.Kind k1))] [[.sl (w2.l.map zJu.c),iI w2.at_]] ?_ ?_
 ·refine zBS [] mixed (n:=18) rfl (by decide) ?_
  simp[q5,q6]
 refine zAA ?_
 cases h
 simp
theorem zEn(w1:zJr)(r:Int)(h:zBT w1=some r):Raw Tryz.prog 31 [pT 0] [[.sl (w1.l.map zJu.c),iI w1.at_]] (iI r) [[.sl (w1.l.map zJu.c),iI w1.at_]]:=by
 rw[zBT] at h
 refine zAl Tryz.func31 (by rfl) (by rfl) (by simp) (by simp)<|cutA 5 1 [(0,pT 0)] [[.sl (w1.l.map zJu.c),iI w1.at_]]<|zAE ?_
 obtain⟨v2,q3,h⟩:=bs h
 refine cut 5 1 [(4,.bool v2)] [[.sl (w1.l.map zJu.c),iI w1.at_]] ?_ ?_
 ·refine st ?_
  simp
  have r5:=(zAQ 8 w1 v2 q3).frame [0] [[.sl (w1.l.map zJu.c),iI w1.at_]] (by simp)
  try simp at r5
  refine zAW r5 (by simp) rfl ?_
  simp
 refine spc h rfl (fun g4 h=>?_) fun g4 h=>?_
 ·refine cutA 5 1 [(2,iI 4)] [[.sl (w1.l.map zJu.c),iI w1.at_]]<|zAA<|zAB ?_
  cases h
  simp
 refine zAC<|zAF<|cutA 5 1 [(2,iI 3)] [[.sl (w1.l.map zJu.c),iI w1.at_]]<|zAA ?_
 cases h
 simp
theorem zGs(op1:Int)(r:Int)(h:zC6 op1=some r):Pure Tryz.prog 138 [iI op1] (iI r):=by
 rw[zC6] at h
 refine zAG Tryz.func138 (by rfl) (by rfl) (by simp) (by simp) (by simp)<|cutA 61 0 [(0,iI op1)] []<|zAE<|cutA 61 0 [(3,iI op1)] []<|zAH<|zAE<|cutA 61 0 [(3,iI op1),(4,.bool (eqI op1 1))] [] ?_
 refine spc h rfl (fun g2 h=>?_) fun g2 h=>?_
 ·refine zAC<|zAF<|zBF rfl (by simp[g2])<|cutA 61 0 [(2,iI 1)] []<|zAA<|zAD<|zAB ?_
  cases h
  simp
 refine cutA 61 0 [(3,iI op1),(4,.bool (eqI op1 2))] []<|spc h rfl (fun g5 h=>?_) fun g5 h=>?_
 ·refine zAC<|zAF<|zBF rfl (by simp[g5])<|cutA 61 0 [(2,iI 1)] []<|zAA<|zAD<|zAB ?_
  cases h
  simp
 refine cutA 61 0 [(3,iI op1),(4,.bool (eqI op1 3))] []<|spc h rfl (fun g8 h=>?_) fun g8 h=>?_
 ·refine zAC<|zAF<|zBF rfl (by simp[g8])<|cutA 61 0 [(2,iI 1)] []<|zAA<|zAD<|zAB ?_
  cases h
  simp
 refine cutA 61 0 [(3,iI op1),(4,.bool (eqI op1 4))] []<|spc h rfl (fun g11 h=>?_) fun g11 h=>?_
 ·refine zAC<|zAF<|zBF rfl (by simp[g11])<|cutA 61 0 [(2,iI 1)] []<|zAA<|zAD<|zAB ?_
  cases h
  simp
 refine zG1 61 0 [(3,iI op1),(4,.bool (eqI op1 5))] []<|spc h rfl (fun g14 h=>?_) fun g14 h=>?_
 ·have c15:=eqT g14
  refine cutA 61 0 [(2,iI 1)] []<|zAA<|zAD<|zAB ?_
  cases h
  simp
 have c16:=eqF g14
 refine zAE<|cutA 61 0 [(3,iI op1),(10,.bool (eqI op1 11))] []<|spc h rfl (fun g17 h=>?_) fun g17 h=>?_
 ·refine zAC<|zAF<|zBF rfl (by simp[g17])<|cutA 61 0 [(2,iI 2)] []<|zAA<|zAD<|zAB ?_
  cases h
  simp
 refine cutA 61 0 [(3,iI op1),(10,.bool (eqI op1 12))] []<|spc h rfl (fun g20 h=>?_) fun g20 h=>?_
 ·refine zAC<|zAF<|zBF rfl (by simp[g20])<|cutA 61 0 [(2,iI 2)] []<|zAA<|zAD<|zAB ?_
  cases h
  simp
 refine cutA 61 0 [(3,iI op1),(10,.bool (eqI op1 13))] []<|spc h rfl (fun g23 h=>?_) fun g23 h=>?_
 ·refine zAC<|zAF<|zBF rfl (by simp[g23])<|cutA 61 0 [(2,iI 2)] []<|zAA<|zAD<|zAB ?_
  cases h
  simp
 refine cutA 61 0 [(3,iI op1),(10,.bool (eqI op1 14))] []<|spc h rfl (fun g26 h=>?_) fun g26 h=>?_
 ·refine zAC<|zAF<|zBF rfl (by simp[g26])<|cutA 61 0 [(2,iI 2)] []<|zAA<|zAD<|zAB ?_
  cases h
  simp
 refine zG1 61 0 [(3,iI op1),(10,.bool (eqI op1 15))] []<|spc h rfl (fun g29 h=>?_) fun g29 h=>?_
 ·have c30:=eqT g29
  refine cutA 61 0 [(2,iI 2)] []<|zAA<|zAD<|zAB ?_
  cases h
  simp
 have c31:=eqF g29
 refine zAE<|cutA 61 0 [(3,iI op1),(16,.bool (eqI op1 21))] []<|spc h rfl (fun g32 h=>?_) fun g32 h=>?_
 ·refine zAC<|zAF<|zBF rfl (by simp[g32])<|cutA 61 0 [(2,iI 3)] []<|zAA<|zAD<|zAB ?_
  cases h
  simp
 refine cutA 61 0 [(3,iI op1),(16,.bool (eqI op1 22))] []<|spc h rfl (fun g35 h=>?_) fun g35 h=>?_
 ·refine zAC<|zAF<|zBF rfl (by simp[g35])<|cutA 61 0 [(2,iI 3)] []<|zAA<|zAD<|zAB ?_
  cases h
  simp
 refine cutA 61 0 [(3,iI op1),(16,.bool (eqI op1 23))] []<|spc h rfl (fun g38 h=>?_) fun g38 h=>?_
 ·refine zAC<|zAF<|zBF rfl (by simp[g38])<|cutA 61 0 [(2,iI 3)] []<|zAA<|zAD<|zAB ?_
  cases h
  simp
 refine cutA 61 0 [(3,iI op1),(16,.bool (eqI op1 24))] []<|spc h rfl (fun g41 h=>?_) fun g41 h=>?_
 ·refine zAC<|zAF<|zBF rfl (by simp[g41])<|cutA 61 0 [(2,iI 3)] []<|zAA<|zAD<|zAB ?_
  cases h
  simp
 refine cutA 61 0 [(3,iI op1),(16,.bool (eqI op1 25))] []<|spc h rfl (fun g44 h=>?_) fun g44 h=>?_
 ·refine zAC<|zAF<|zBF rfl (by simp[g44])<|cutA 61 0 [(2,iI 3)] []<|zAA<|zAD<|zAB ?_
  cases h
  simp
 refine cutA 61 0 [(3,iI op1),(16,.bool (eqI op1 26))] []<|spc h rfl (fun g47 h=>?_) fun g47 h=>?_
 ·refine zAC<|zAF<|zBF rfl (by simp[g47])<|cutA 61 0 [(2,iI 3)] []<|zAA<|zAD<|zAB ?_
  cases h
  simp
 refine cutA 61 0 [(3,iI op1),(16,.bool (eqI op1 27))] []<|spc h rfl (fun g50 h=>?_) fun g50 h=>?_
 ·refine zAC<|zAF<|zBF rfl (by simp[g50])<|cutA 61 0 [(2,iI 3)] []<|zAA<|zAD<|zAB ?_
  cases h
  simp
 refine cutA 61 0 [(3,iI op1),(16,.bool (eqI op1 28))] []<|spc h rfl (fun g53 h=>?_) fun g53 h=>?_
 ·refine zAC<|zAF<|zBF rfl (by simp[g53])<|cutA 61 0 [(2,iI 3)] []<|zAA<|zAD<|zAB ?_
  cases h
  simp
 refine cutA 61 0 [(3,iI op1),(16,.bool (eqI op1 29))] []<|spc h rfl (fun g56 h=>?_) fun g56 h=>?_
 ·refine zAC<|zAF<|zBF rfl (by simp[g56])<|cutA 61 0 [(2,iI 3)] []<|zAA<|zAD<|zAB ?_
  cases h
  simp
 refine cutA 61 0 [(3,iI op1),(16,.bool (eqI op1 31))] []<|spc h rfl (fun g59 h=>?_) fun g59 h=>?_
 ·refine zAC<|zAF<|zBF rfl (by simp[g59])<|cutA 61 0 [(2,iI 3)] []<|zAA<|zAD<|zAB ?_
  cases h
  simp
 refine cutA 61 0 [(3,iI op1),(16,.bool (eqI op1 32))] []<|spc h rfl (fun g62 h=>?_) fun g62 h=>?_
 ·refine zAC<|zAF<|zBF rfl (by simp[g62])<|cutA 61 0 [(2,iI 3)] []<|zAA<|zAD<|zAB ?_
  cases h
  simp
 refine cutA 61 0 [(3,iI op1),(16,.bool (eqI op1 33))] []<|spc h rfl (fun g65 h=>?_) fun g65 h=>?_
 ·refine zAC<|zAF<|zBF rfl (by simp[g65])<|cutA 61 0 [(2,iI 3)] []<|zAA<|zAD<|zAB ?_
  cases h
  simp
 refine zG1 61 0 [(3,iI op1),(16,.bool (eqI op1 34))] []<|spc h rfl (fun g68 h=>?_) fun g68 h=>?_
 ·have c69:=eqT g68
  refine cutA 61 0 [(2,iI 3)] []<|zAA<|zAD<|zAB ?_
  cases h
  simp
 have c70:=eqF g68
 refine zAE<|cutA 61 0 [(3,iI op1),(30,.bool (eqI op1 41))] []<|spc h rfl (fun g71 h=>?_) fun g71 h=>?_
 ·refine zAC<|zAF<|zBF rfl (by simp[g71])<|cutA 61 0 [(2,iI 4)] []<|zAA<|zAD<|zAB ?_
  cases h
  simp
 refine cutA 61 0 [(3,iI op1),(30,.bool (eqI op1 42))] []<|spc h rfl (fun g74 h=>?_) fun g74 h=>?_
 ·refine zAC<|zAF<|zBF rfl (by simp[g74])<|cutA 61 0 [(2,iI 4)] []<|zAA<|zAD<|zAB ?_
  cases h
  simp
 refine cutA 61 0 [(3,iI op1),(30,.bool (eqI op1 43))] []<|spc h rfl (fun g77 h=>?_) fun g77 h=>?_
 ·refine zAC<|zAF<|zBF rfl (by simp[g77])<|cutA 61 0 [(2,iI 4)] []<|zAA<|zAD<|zAB ?_
  cases h
  simp
 refine cutA 61 0 [(3,iI op1),(30,.bool (eqI op1 44))] []<|spc h rfl (fun g80 h=>?_) fun g80 h=>?_
 ·refine zAC<|zAF<|zBF rfl (by simp[g80])<|cutA 61 0 [(2,iI 4)] []<|zAA<|zAD<|zAB ?_
  cases h
  simp
 refine cutA 61 0 [(3,iI op1),(30,.bool (eqI op1 46))] []<|spc h rfl (fun g83 h=>?_) fun g83 h=>?_
 ·refine zAC<|zAF<|zBF rfl (by simp[g83])<|cutA 61 0 [(2,iI 4)] []<|zAA<|zAD<|zAB ?_
  cases h
  simp
 refine cutA 61 0 [(3,iI op1),(30,.bool (eqI op1 47))] []<|spc h rfl (fun g86 h=>?_) fun g86 h=>?_
 ·refine zAC<|zAF<|zBF rfl (by simp[g86])<|cutA 61 0 [(2,iI 4)] []<|zAA<|zAD<|zAB ?_
  cases h
  simp
 refine cutA 61 0 [(3,iI op1),(30,.bool (eqI op1 48))] []<|spc h rfl (fun g89 h=>?_) fun g89 h=>?_
 ·refine zAC<|zAF<|zBF rfl (by simp[g89])<|cutA 61 0 [(2,iI 4)] []<|zAA<|zAD<|zAB ?_
  cases h
  simp
 refine cutA 61 0 [(3,iI op1),(30,.bool (eqI op1 49))] []<|spc h rfl (fun g92 h=>?_) fun g92 h=>?_
 ·refine zAC<|zAF<|zBF rfl (by simp[g92])<|cutA 61 0 [(2,iI 4)] []<|zAA<|zAD<|zAB ?_
  cases h
  simp
 refine zG1 61 0 [(3,iI op1),(30,.bool (eqI op1 50))] []<|spc h rfl (fun g95 h=>?_) fun g95 h=>?_
 ·have c96:=eqT g95
  refine cutA 61 0 [(2,iI 4)] []<|zAA<|zAD<|zAB ?_
  cases h
  simp
 have c97:=eqF g95
 refine zAE<|cutA 61 0 [(3,iI op1),(40,.bool (eqI op1 61))] []<|spc h rfl (fun g98 h=>?_) fun g98 h=>?_
 ·refine zAC<|zAF<|zBF rfl (by simp[g98])<|cutA 61 0 [(2,iI 5)] []<|zAA<|zAD<|zAB ?_
  cases h
  simp
 refine cutA 61 0 [(3,iI op1),(40,.bool (eqI op1 62))] []<|spc h rfl (fun g101 h=>?_) fun g101 h=>?_
 ·refine zAC<|zAF<|zBF rfl (by simp[g101])<|cutA 61 0 [(2,iI 5)] []<|zAA<|zAD<|zAB ?_
  cases h
  simp
 refine cutA 61 0 [(3,iI op1),(40,.bool (eqI op1 63))] []<|spc h rfl (fun g104 h=>?_) fun g104 h=>?_
 ·refine zAC<|zAF<|zBF rfl (by simp[g104])<|cutA 61 0 [(2,iI 5)] []<|zAA<|zAD<|zAB ?_
  cases h
  simp
 refine cutA 61 0 [(3,iI op1),(40,.bool (eqI op1 64))] []<|spc h rfl (fun g107 h=>?_) fun g107 h=>?_
 ·refine zAC<|zAF<|zBF rfl (by simp[g107])<|cutA 61 0 [(2,iI 5)] []<|zAA<|zAD<|zAB ?_
  cases h
  simp
 refine cutA 61 0 [(3,iI op1),(40,.bool (eqI op1 65))] []<|spc h rfl (fun g110 h=>?_) fun g110 h=>?_
 ·refine zAC<|zAF<|zBF rfl (by simp[g110])<|cutA 61 0 [(2,iI 5)] []<|zAA<|zAD<|zAB ?_
  cases h
  simp
 refine zG1 61 0 [(3,iI op1),(40,.bool (eqI op1 66))] []<|spc h rfl (fun g113 h=>?_) fun g113 h=>?_
 ·have c114:=eqT g113
  refine cutA 61 0 [(2,iI 5)] []<|zAA<|zAD<|zAB ?_
  cases h
  simp
 have c115:=eqF g113
 refine zAE<|cutA 61 0 [(3,iI op1),(47,.bool (eqI op1 71))] []<|spc h rfl (fun g116 h=>?_) fun g116 h=>?_
 ·refine zAC<|zAF<|zBF rfl (by simp[g116])<|cutA 61 0 [(2,iI 6)] []<|zAA<|zAD<|zAB ?_
  cases h
  simp
 refine cutA 61 0 [(3,iI op1),(47,.bool (eqI op1 72))] []<|spc h rfl (fun g119 h=>?_) fun g119 h=>?_
 ·refine zAC<|zAF<|zBF rfl (by simp[g119])<|cutA 61 0 [(2,iI 6)] []<|zAA<|zAD<|zAB ?_
  cases h
  simp
 refine cutA 61 0 [(3,iI op1),(47,.bool (eqI op1 73))] []<|spc h rfl (fun g122 h=>?_) fun g122 h=>?_
 ·refine zAC<|zAF<|zBF rfl (by simp[g122])<|cutA 61 0 [(2,iI 6)] []<|zAA<|zAD<|zAB ?_
  cases h
  simp
 refine zG1 61 0 [(3,iI op1),(47,.bool (eqI op1 74))] []<|spc h rfl (fun g125 h=>?_) fun g125 h=>?_
 ·have c126:=eqT g125
  refine cutA 61 0 [(2,iI 6)] []<|zAA<|zAD<|zAB ?_
  cases h
  simp
 have c127:=eqF g125
 refine zAE<|cutA 61 0 [(3,iI op1),(52,.bool (eqI op1 81))] []<|spc h rfl (fun g128 h=>?_) fun g128 h=>?_
 ·refine zAC<|zAF<|zBF rfl (by simp[g128])<|cutA 61 0 [(2,iI 7)] []<|zAA<|zAD<|zAB ?_
  cases h
  simp
 refine cutA 61 0 [(3,iI op1),(52,.bool (eqI op1 82))] []<|spc h rfl (fun g131 h=>?_) fun g131 h=>?_
 ·refine zAC<|zAF<|zBF rfl (by simp[g131])<|cutA 61 0 [(2,iI 7)] []<|zAA<|zAD<|zAB ?_
  cases h
  simp
 refine cutA 61 0 [(3,iI op1),(52,.bool (eqI op1 83))] []<|spc h rfl (fun g134 h=>?_) fun g134 h=>?_
 ·refine zAC<|zAF<|zBF rfl (by simp[g134])<|cutA 61 0 [(2,iI 7)] []<|zAA<|zAD<|zAB ?_
  cases h
  simp
 refine cutA 61 0 [(3,iI op1),(52,.bool (eqI op1 84))] []<|spc h rfl (fun g137 h=>?_) fun g137 h=>?_
 ·refine zAC<|zAF<|zBF rfl (by simp[g137])<|cutA 61 0 [(2,iI 7)] []<|zAA<|zAD<|zAB ?_
  cases h
  simp
 refine cutA 61 0 [(3,iI op1),(52,.bool (eqI op1 85))] []<|spc h rfl (fun g140 h=>?_) fun g140 h=>?_
 ·refine zAC<|zAF<|zBF rfl (by simp[g140])<|cutA 61 0 [(2,iI 7)] []<|zAA<|zAD<|zAB ?_
  cases h
  simp
 refine cutA 61 0 [(3,iI op1),(52,.bool (eqI op1 86))] []<|spc h rfl (fun g143 h=>?_) fun g143 h=>?_
 ·refine zAC<|zAF<|zBF rfl (by simp[g143])<|cutA 61 0 [(2,iI 7)] []<|zAA<|zAD<|zAB ?_
  cases h
  simp
 refine cutA 61 0 [(3,iI op1),(52,.bool (eqI op1 87))] []<|spc h rfl (fun g146 h=>?_) fun g146 h=>?_
 ·refine zAC<|zAF<|zBF rfl (by simp[g146])<|cutA 61 0 [(2,iI 7)] []<|zAA<|zAD<|zAB ?_
  cases h
  simp
 refine zG1 61 0 [(52,.bool (eqI op1 88))] []<|spc h rfl (fun g149 h=>?_) fun g149 h=>?_
 ·have c150:=eqT g149
  refine cutA 61 0 [(2,iI 7)] []<|zAA<|zAD<|zAB ?_
  cases h
  simp
 have c151:=eqF g149
 refine zAC<|zDA<|zAF<|cutA 61 0 [(2,iI 0)] []<|zAA ?_
 cases h
 simp
theorem zAr(cat1:Int)(t2:zJv)(r:Bool)(h:zA3 cat1 t2=some r):Pure Tryz.prog 64 [iI cat1,.agg t2.d] (.bool r):=by
 rw[zA3] at h
 refine zAG Tryz.func64 (by rfl) (by rfl) (by simp) (by simp) (by simp)<|cutA 26 0 [(0,iI cat1),(3,pT 0)] [t2.d]<|zAE<|cut 26 0 [(0,iI cat1),(3,pT 0),(16,.bool ((eqI cat1 5)&&((eqI t2.Op 43)||(eqI t2.Op 44))))] [t2.d] ?_ ?_
 ·rcases tf (eqI cat1 5) with g3|g3
  ·have c4:=eqT g3
   rcases tf (eqI t2.Op 43) with g5|g5
   ·have c6:=eqT g5
    refine st ?_
    simp[g3,g5]
   have c7:=eqF g5
   refine st ?_
   simp[g3,g5]
  have c8:=eqF g3
  refine st ?_
  simp[g3]
 rcases sp h with ⟨g9,h⟩|⟨g9,h⟩
 ·obtain⟨g10,g11⟩:=andT g9
  have c12:=eqT g10
  refine zBF rfl g9<|cutA 26 0 [(4,.bool true)] [t2.d]<|zAA<|zAB ?_
  cases h
  simp
 refine zHR rfl g9<|zAC<|zAF ?_
 obtain⟨b20,q21,h⟩:=bs h
 refine cut 26 0 [(4,.bool b20)] [t2.d] ?_ ?_
 ·rcases sp q21 with ⟨g13,q21⟩|⟨g13,q21⟩
  ·have g14:=notT g13
   have c15:=eqF g14
   obtain⟨v16,q17,q21⟩:=bs q21
   obtain rfl:=oi q21
   refine st ?_
   simp[g13]
   have r22:=zGs t2.Op v16 q17
   try simp[g13] at r22
   refine cP r22 ?_
   simp[g13]
  have g18:=notF g13
  have c19:=eqT g18
  obtain rfl:=oi q21
  refine st ?_
  simp[g13]
 refine zAA ?_
 cases h
 simp
theorem zHl(op1:Int)(r:zJt)(h:zDY op1=some r):Pure Tryz.prog 184 [iI op1] (.agg [.bool r.n,.bool r.s,.bool r.names]):=by
 rw[zDY] at h
 refine zAG Tryz.func184 (by rfl) (by rfl) (by simp) (by simp) (by simp)<|cutA 48 0 [(0,iI op1),(2,pT 0)] [zz2]<|zAE<|cutA 48 0 [(2,pT 0),(3,iI op1)] [zz2]<|zAH<|zAE<|cutA 48 0 [(2,pT 0),(3,iI op1),(4,.bool (eqI op1 13))] [zz2] ?_
 refine spc h rfl (fun g2 h=>?_) fun g2 h=>?_
 ·refine zAC<|zAF<|zBF rfl (by simp[g2])<|cutA 48 0 [(2,pT 0)] [[.bool true,.bool false,.bool false]]<|zAA<|zAD<|zAB ?_
  cases h
  simp
 refine cutA 48 0 [(2,pT 0),(3,iI op1),(4,.bool (eqI op1 21))] [zz2]<|spc h rfl (fun g5 h=>?_) fun g5 h=>?_
 ·refine zAC<|zAF<|zBF rfl (by simp[g5])<|cutA 48 0 [(2,pT 0)] [[.bool true,.bool false,.bool false]]<|zAA<|zAD<|zAB ?_
  cases h
  simp
 refine zG1 48 0 [(2,pT 0),(3,iI op1),(4,.bool (eqI op1 32))] [zz2]<|spc h rfl (fun g8 h=>?_) fun g8 h=>?_
 ·have c9:=eqT g8
  refine cutA 48 0 [(2,pT 0)] [[.bool true,.bool false,.bool false]]<|zAA<|zAD<|zAB ?_
  cases h
  simp
 have c10:=eqF g8
 refine zAE<|cutA 48 0 [(2,pT 0),(3,iI op1),(9,.bool (eqI op1 1))] [zz2]<|spc h rfl (fun g11 h=>?_) fun g11 h=>?_
 ·refine zAC<|zAF<|zBF rfl (by simp[g11])<|cutA 48 0 [(2,pT 0)] [[.bool false,.bool true,.bool false]]<|zAA<|zAD<|zAB ?_
  cases h
  simp
 refine cutA 48 0 [(2,pT 0),(3,iI op1),(9,.bool (eqI op1 12))] [zz2]<|spc h rfl (fun g14 h=>?_) fun g14 h=>?_
 ·refine zAC<|zAF<|zBF rfl (by simp[g14])<|cutA 48 0 [(2,pT 0)] [[.bool false,.bool true,.bool false]]<|zAA<|zAD<|zAB ?_
  cases h
  simp
 refine cutA 48 0 [(2,pT 0),(3,iI op1),(9,.bool (eqI op1 22))] [zz2]<|spc h rfl (fun g17 h=>?_) fun g17 h=>?_
 ·refine zAC<|zAF<|zBF rfl (by simp[g17])<|cutA 48 0 [(2,pT 0)] [[.bool false,.bool true,.bool false]]<|zAA<|zAD<|zAB ?_
  cases h
  simp
 refine cutA 48 0 [(2,pT 0),(3,iI op1),(9,.bool (eqI op1 25))] [zz2]<|spc h rfl (fun g20 h=>?_) fun g20 h=>?_
 ·refine zAC<|zAF<|zBF rfl (by simp[g20])<|cutA 48 0 [(2,pT 0)] [[.bool false,.bool true,.bool false]]<|zAA<|zAD<|zAB ?_
  cases h
  simp
 refine cutA 48 0 [(2,pT 0),(3,iI op1),(9,.bool (eqI op1 41))] [zz2]<|spc h rfl (fun g23 h=>?_) fun g23 h=>?_
 ·refine zAC<|zAF<|zBF rfl (by simp[g23])<|cutA 48 0 [(2,pT 0)] [[.bool false,.bool true,.bool false]]<|zAA<|zAD<|zAB ?_
  cases h
  simp
 refine cutA 48 0 [(2,pT 0),(3,iI op1),(9,.bool (eqI op1 45))] [zz2]<|spc h rfl (fun g26 h=>?_) fun g26 h=>?_
 ·refine zAC<|zAF<|zBF rfl (by simp[g26])<|cutA 48 0 [(2,pT 0)] [[.bool false,.bool true,.bool false]]<|zAA<|zAD<|zAB ?_
  cases h
  simp
 refine cutA 48 0 [(2,pT 0),(3,iI op1),(9,.bool (eqI op1 46))] [zz2]<|spc h rfl (fun g29 h=>?_) fun g29 h=>?_
 ·refine zAC<|zAF<|zBF rfl (by simp[g29])<|cutA 48 0 [(2,pT 0)] [[.bool false,.bool true,.bool false]]<|zAA<|zAD<|zAB ?_
  cases h
  simp
 refine cutA 48 0 [(2,pT 0),(3,iI op1),(9,.bool (eqI op1 47))] [zz2]<|spc h rfl (fun g32 h=>?_) fun g32 h=>?_
 ·refine zAC<|zAF<|zBF rfl (by simp[g32])<|cutA 48 0 [(2,pT 0)] [[.bool false,.bool true,.bool false]]<|zAA<|zAD<|zAB ?_
  cases h
  simp
 refine cutA 48 0 [(2,pT 0),(3,iI op1),(9,.bool (eqI op1 50))] [zz2]<|spc h rfl (fun g35 h=>?_) fun g35 h=>?_
 ·refine zAC<|zAF<|zBF rfl (by simp[g35])<|cutA 48 0 [(2,pT 0)] [[.bool false,.bool true,.bool false]]<|zAA<|zAD<|zAB ?_
  cases h
  simp
 refine cutA 48 0 [(2,pT 0),(3,iI op1),(9,.bool (eqI op1 61))] [zz2]<|spc h rfl (fun g38 h=>?_) fun g38 h=>?_
 ·refine zAC<|zAF<|zBF rfl (by simp[g38])<|cutA 48 0 [(2,pT 0)] [[.bool false,.bool true,.bool false]]<|zAA<|zAD<|zAB ?_
  cases h
  simp
 refine cutA 48 0 [(2,pT 0),(3,iI op1),(9,.bool (eqI op1 63))] [zz2]<|spc h rfl (fun g41 h=>?_) fun g41 h=>?_
 ·refine zAC<|zAF<|zBF rfl (by simp[g41])<|cutA 48 0 [(2,pT 0)] [[.bool false,.bool true,.bool false]]<|zAA<|zAD<|zAB ?_
  cases h
  simp
 refine zG1 48 0 [(2,pT 0),(3,iI op1),(9,.bool (eqI op1 64))] [zz2]<|spc h rfl (fun g44 h=>?_) fun g44 h=>?_
 ·have c45:=eqT g44
  refine cutA 48 0 [(2,pT 0)] [[.bool false,.bool true,.bool false]]<|zAA<|zAD<|zAB ?_
  cases h
  simp
 have c46:=eqF g44
 refine zAE<|cutA 48 0 [(2,pT 0),(3,iI op1),(23,.bool (eqI op1 2))] [zz2]<|spc h rfl (fun g47 h=>?_) fun g47 h=>?_
 ·refine zAC<|zAF<|zBF rfl (by simp[g47])<|cutA 48 0 [(2,pT 0)] [[.bool false,.bool false,.bool true]]<|zAA<|zAD<|zAB ?_
  cases h
  simp
 refine cutA 48 0 [(2,pT 0),(3,iI op1),(23,.bool (eqI op1 5))] [zz2]<|spc h rfl (fun g50 h=>?_) fun g50 h=>?_
 ·refine zAC<|zAF<|zBF rfl (by simp[g50])<|cutA 48 0 [(2,pT 0)] [[.bool false,.bool false,.bool true]]<|zAA<|zAD<|zAB ?_
  cases h
  simp
 refine cutA 48 0 [(2,pT 0),(3,iI op1),(23,.bool (eqI op1 14))] [zz2]<|spc h rfl (fun g53 h=>?_) fun g53 h=>?_
 ·refine zAC<|zAF<|zBF rfl (by simp[g53])<|cutA 48 0 [(2,pT 0)] [[.bool false,.bool false,.bool true]]<|zAA<|zAD<|zAB ?_
  cases h
  simp
 refine cutA 48 0 [(2,pT 0),(3,iI op1),(23,.bool (eqI op1 23))] [zz2]<|spc h rfl (fun g56 h=>?_) fun g56 h=>?_
 ·refine zAC<|zAF<|zBF rfl (by simp[g56])<|cutA 48 0 [(2,pT 0)] [[.bool false,.bool false,.bool true]]<|zAA<|zAD<|zAB ?_
  cases h
  simp
 refine cutA 48 0 [(2,pT 0),(3,iI op1),(23,.bool (eqI op1 24))] [zz2]<|spc h rfl (fun g59 h=>?_) fun g59 h=>?_
 ·refine zAC<|zAF<|zBF rfl (by simp[g59])<|cutA 48 0 [(2,pT 0)] [[.bool false,.bool false,.bool true]]<|zAA<|zAD<|zAB ?_
  cases h
  simp
 refine cutA 48 0 [(2,pT 0),(3,iI op1),(23,.bool (eqI op1 34))] [zz2]<|spc h rfl (fun g62 h=>?_) fun g62 h=>?_
 ·refine zAC<|zAF<|zBF rfl (by simp[g62])<|cutA 48 0 [(2,pT 0)] [[.bool false,.bool false,.bool true]]<|zAA<|zAD<|zAB ?_
  cases h
  simp
 refine cutA 48 0 [(2,pT 0),(3,iI op1),(23,.bool (eqI op1 48))] [zz2]<|spc h rfl (fun g65 h=>?_) fun g65 h=>?_
 ·refine zAC<|zAF<|zBF rfl (by simp[g65])<|cutA 48 0 [(2,pT 0)] [[.bool false,.bool false,.bool true]]<|zAA<|zAD<|zAB ?_
  cases h
  simp
 refine cutA 48 0 [(2,pT 0),(3,iI op1),(23,.bool (eqI op1 49))] [zz2]<|spc h rfl (fun g68 h=>?_) fun g68 h=>?_
 ·refine zAC<|zAF<|zBF rfl (by simp[g68])<|cutA 48 0 [(2,pT 0)] [[.bool false,.bool false,.bool true]]<|zAA<|zAD<|zAB ?_
  cases h
  simp
 refine cutA 48 0 [(2,pT 0),(3,iI op1),(23,.bool (eqI op1 66))] [zz2]<|spc h rfl (fun g71 h=>?_) fun g71 h=>?_
 ·refine zAC<|zAF<|zBF rfl (by simp[g71])<|cutA 48 0 [(2,pT 0)] [[.bool false,.bool false,.bool true]]<|zAA<|zAD<|zAB ?_
  cases h
  simp
 refine cutA 48 0 [(2,pT 0),(3,iI op1),(23,.bool (eqI op1 72))] [zz2]<|spc h rfl (fun g74 h=>?_) fun g74 h=>?_
 ·refine zAC<|zAF<|zBF rfl (by simp[g74])<|cutA 48 0 [(2,pT 0)] [[.bool false,.bool false,.bool true]]<|zAA<|zAD<|zAB ?_
  cases h
  simp
 refine cutA 48 0 [(2,pT 0),(3,iI op1),(23,.bool (eqI op1 74))] [zz2]<|spc h rfl (fun g77 h=>?_) fun g77 h=>?_
 ·refine zAC<|zAF<|zBF rfl (by simp[g77])<|cutA 48 0 [(2,pT 0)] [[.bool false,.bool false,.bool true]]<|zAA<|zAD<|zAB ?_
  cases h
  simp
 refine zG1 48 0 [(2,pT 0),(3,iI op1),(23,.bool (eqI op1 82))] [zz2]<|spc h rfl (fun g80 h=>?_) fun g80 h=>?_
 ·have c81:=eqT g80
  refine cutA 48 0 [(2,pT 0)] [[.bool false,.bool false,.bool true]]<|zAA<|zAD<|zAB ?_
  cases h
  simp
 have c82:=eqF g80
 refine zAE<|cutA 48 0 [(2,pT 0),(3,iI op1),(37,.bool (eqI op1 42))] [zz2]<|spc h rfl (fun g83 h=>?_) fun g83 h=>?_
 ·refine zAC<|zAF<|zBF rfl (by simp[g83])<|cutA 48 0 [(2,pT 0)] [[.bool false,.bool true,.bool true]]<|zAA<|zAD<|zAB ?_
  cases h
  simp
 refine cutA 48 0 [(2,pT 0),(3,iI op1),(37,.bool (eqI op1 43))] [zz2]<|spc h rfl (fun g86 h=>?_) fun g86 h=>?_
 ·refine zAC<|zAF<|zBF rfl (by simp[g86])<|cutA 48 0 [(2,pT 0)] [[.bool false,.bool true,.bool true]]<|zAA<|zAD<|zAB ?_
  cases h
  simp
 refine cutA 48 0 [(2,pT 0),(3,iI op1),(37,.bool (eqI op1 44))] [zz2]<|spc h rfl (fun g89 h=>?_) fun g89 h=>?_
 ·refine zAC<|zAF<|zBF rfl (by simp[g89])<|cutA 48 0 [(2,pT 0)] [[.bool false,.bool true,.bool true]]<|zAA<|zAD<|zAB ?_
  cases h
  simp
 refine zG1 48 0 [(2,pT 0),(3,iI op1),(37,.bool (eqI op1 62))] [zz2]<|spc h rfl (fun g92 h=>?_) fun g92 h=>?_
 ·have c93:=eqT g92
  refine cutA 48 0 [(2,pT 0)] [[.bool false,.bool true,.bool true]]<|zAA<|zAD<|zAB ?_
  cases h
  simp
 have c94:=eqF g92
 refine zAE<|cutA 48 0 [(2,pT 0),(3,iI op1),(43,.bool (eqI op1 73))] [zz2]<|spc h rfl (fun g95 h=>?_) fun g95 h=>?_
 ·refine zAC<|zAF<|zBF rfl (by simp[g95])<|cutA 48 0 [(2,pT 0)] [[.bool true,.bool true,.bool false]]<|zAA<|zAD<|zAB ?_
  cases h
  simp
 refine zG1 48 0 [(2,pT 0),(43,.bool (eqI op1 83))] [zz2]<|spc h rfl (fun g98 h=>?_) fun g98 h=>?_
 ·have c99:=eqT g98
  refine cutA 48 0 [(2,pT 0)] [[.bool true,.bool true,.bool false]]<|zAA<|zAD<|zAB ?_
  cases h
  simp
 have c100:=eqF g98
 refine zAC<|zDA<|zAF<|cutA 48 0 [(2,pT 0)] [zz2]<|zAA ?_
 cases h
 simp
theorem zE8(s1:(List UInt8))(prefix2:(List UInt8))(r:(List UInt8)×Bool)(h:zCn s1 prefix2=some r):Pure Tryz.prog 145 [.str s1,.str prefix2] (.tup [.str r.1,.bool r.2]):=by
 rw[zCn] at h
 refine zAG Tryz.func145 (by rfl) (by rfl) (by simp) (by simp) (by simp)<|cutA 15 0 [(0,.str s1),(1,.str prefix2)] []<|zAE ?_
 obtain⟨v3,q4,h⟩:=bs h
 refine cut 15 0 [(0,.str s1),(1,.str prefix2),(9,.bool (!v3))] [] ?_ ?_
 ·refine st ?_
  simp
  have r12:=zDx s1 prefix2 v3 q4
  try simp at r12
  refine cP r12 ?_
  simp
 refine spc h rfl (fun g5 h=>?_) fun g5 h=>?_
 ·have g6:=notT g5
  refine cutA 15 0 [(4,.str s1),(5,.bool false)] []<|zAA<|zAB ?_
  cases h
  simp
 have g7:=notF g5
 refine zAC<|zAF ?_
 obtain⟨s8,q9,h⟩:=bs h
 obtain⟨q10,q11⟩:=zDn q9
 try simp at q10
 try simp at q11
 refine cut 15 0 [(4,.str s8),(5,.bool true)] [] (st (by simp[q10,q11]))<|zAA ?_
 cases h
 simp
theorem zF9(s1:(List UInt8))(prefix2:(List UInt8))(r:(List UInt8)×Bool)(h:zDE s1 prefix2=some r):Pure Tryz.prog 67 [.str s1,.str prefix2] (.tup [.str r.1,.bool r.2]):=by
 rw[zDE] at h
 refine zAG Tryz.func67 (by rfl) (by rfl) (by simp) (by simp) (by simp)<|cutA 11 0 [(0,.str s1),(1,.str prefix2)] [] ?_
 obtain⟨v3,q4,h⟩:=bs h
 refine cut 11 0 [(4,.str v3.1),(5,.bool v3.2)] [] ?_ ?_
 ·refine st ?_
  simp
  have r5:=zE8 s1 prefix2 v3 q4
  try simp at r5
  refine cP r5 ?_
  simp
 refine zAA ?_
 cases h
 simp
theorem zFL(fuel:Nat)(s1:(List UInt8))(r:Bool)(h:zDM fuel s1=some r):Pure Tryz.prog 185 [.str s1] (.bool r):=by
 rw[zDM] at h
 refine zAG Tryz.func185 (by rfl) (by rfl) (by simp) (by simp) (by simp)<|cutA 20 0 [(0,.str s1)] [] ?_
 obtain⟨v2,q3,h⟩:=bs h
 refine cut 20 0 [(0,.str s1),(3,.str v2.1),(4,.bool v2.2)] [] ?_ ?_
 ·refine st ?_
  simp
  have r15:=zF9 s1 [39] v2 q3
  try simp at r15
  refine cP r15 ?_
  simp
 obtain⟨b12,q13,h⟩:=bs h
 refine cut 20 0 [(2,.bool b12)] [] ?_ ?_
 ·rcases sp q13 with ⟨g4,q13⟩|⟨g4,q13⟩
  ·rcases sp q13 with ⟨g5,q13⟩|⟨g5,q13⟩
   ·have c6:=leT g5
    refine zGn 0 rfl fun f7=>?_
    obtain⟨v8,q9,q13⟩:=bs q13
    obtain rfl:=oi q13
    refine st ?_
    simp[g4,g5]
    have r14:=zEr fuel v2.1 1 v8 q9
    try simp[g4,g5] at r14
    refine cP r14 ?_
    simp[g4,g5]
   have c10:=leF g5
   refine zGn 0 rfl fun f11=>?_
   obtain rfl:=oi q13
   refine st ?_
   simp[g4,g5]
  obtain rfl:=oi q13
  refine st ?_
  simp[g4]
 refine zAA ?_
 cases h
 simp
theorem zHh(fuel:Nat)(s1:(List UInt8))(r:Bool)(h:zEO fuel s1=some r):Pure Tryz.prog 224 [.str s1] (.bool r):=by
 rw[zEO] at h
 refine zAG Tryz.func224 (by rfl) (by rfl) (by simp) (by simp) (by simp)<|cutA 6 0 [(0,.str s1)] [] ?_
 obtain⟨v2,q3,h⟩:=bs h
 refine cut 6 0 [(2,.bool (!v2))] [] ?_ ?_
 ·refine st ?_
  simp
  have r4:=zA1 fuel s1 v2 q3
  try simp at r4
  refine cP r4 ?_
  simp
 refine zAA ?_
 cases h
 simp
theorem zEB(fuel:Nat)(s1:(List (List UInt8)))(r:Int)(h:zBi fuel s1=some r):Pure Tryz.prog 153 [.sl (s1.map cS),.fn (.func 224) [] []] (iI r):=by
 rw[zBi] at h
 refine zAG Tryz.func153 (by rfl) (by rfl) (by simp) (by simp) (by simp)<|cutA 19 0 [(0,.sl (s1.map cS)),(1,.fn (.func 224) [] [])] []<|zAE<|cutA 19 0 [(0,.sl (s1.map cS)),(1,.fn (.func 224) [] []),(7,iI s1.length),(8,iI 0)] []<|zAH ?_
 obtain⟨o4,l5,h⟩:=bs h
 refine zCI (fun p:Nat×Nat=>mkS 19 0 [(0,.sl (s1.map cS)),(1,.fn (.func 224) [] []),(7,iI s1.length),(8,iI p.2)] []) (fun p=>zAg fuel s1 p.1 p.2=some o4) (fun p=>p.1) (fuel,0) l5 (zBO (by simp)) ?_
 rintro⟨k6,i2⟩ l5
 try dsimp only at l5 ⊢
 cases k6 with
 |zero=>
  rw[zAg] at l5;cases l5
 |succ k7=>
  rw[zAg] at l5
  refine cutA 19 0 [(0,.sl (s1.map cS)),(1,.fn (.func 224) [] []),(7,iI s1.length),(8,iI i2),(9,.bool (ltI i2 s1.length))] []<|zAE<|spc l5 rfl (fun g8 l5=>?_) fun g8 l5=>?_
  ·have c9:=ltT g8
   refine zE4 0 rfl fun f10=>?_
   rw[zq4] at f10
   refine zAC<|zAF<|zAE<|zAH<|cutA 19 0 [(0,.sl (s1.map cS)),(1,.fn (.func 224) [] []),(5,iI i2),(7,iI s1.length),(8,iI i2)] [] ?_
   obtain⟨x11,q12,l5⟩:=bs l5
   obtain⟨v13,q14,l5⟩:=bs l5
   refine cut 19 0 [(0,.sl (s1.map cS)),(1,.fn (.func 224) [] []),(5,iI i2),(7,iI s1.length),(8,iI i2),(16,.bool v13)] [] ?_ ?_
   ·refine st ?_
    simp[q12]
    have r17:=zHh fuel x11 v13 q14
    try simp[q12] at r17
    refine cP r17 ?_
    simp[q12]
   refine spc l5 rfl (fun g15 l5=>?_) fun g15 l5=>?_
   ·refine cutA 19 0 [(4,iI i2)] []<|zAA<|zAD<|zAB ?_
    replace h:=retL l5 h
    refine zAB<|zAD<|zAB ?_
    cases h
    simp
   refine zAC<|zDA<|zAF ?_
   have q16:Rng .i64 (((i2:Nat):Int)+1):=by simp only[Rng,inR];omega
   try simp at q16
   refine last 19 0 [(0,.sl (s1.map cS)),(1,.fn (.func 224) [] []),(7,iI s1.length),(8,iI ((i2+1:Nat):Int))] [] (st (by simp[q16])) fun zz hs=>?_
   exact⟨(k7,i2+1),hs,l5,by simp⟩
  have c18:=ltF g8
  refine zE4 0 rfl fun f19=>?_
  rw[zq4] at f19
  refine zBP<|zAU ?_
  rcases o4 with o4|o3
  ·cases l5
  have q20:=Sum.inr.inj (zqa l5)
  replace h:=zEk h
  refine zAU<|zBU<|zCh (t:=mkS 19 0 [] []) ?_ (zBO (by simp))
  refine cutA 19 0 [(4,iI (-1))] []<|zAA ?_
  cases h
  simp
theorem zDi(fuel:Nat)(s1:(List (List UInt8)))(r:Bool)(h:zBR fuel s1=some r):Pure Tryz.prog 90 [.sl (s1.map cS),.fn (.func 224) [] []] (.bool r):=by
 rw[zBR] at h
 refine zAG Tryz.func90 (by rfl) (by rfl) (by simp) (by simp) (by simp)<|cutA 9 0 [(0,.sl (s1.map cS)),(1,.fn (.func 224) [] [])] [] ?_
 obtain⟨v2,q3,h⟩:=bs h
 refine cut 9 0 [(4,.bool (leI 0 v2))] [] ?_ ?_
 ·refine st ?_
  simp
  have r4:=zEB fuel s1 v2 q3
  try simp at r4
  refine cP r4 ?_
  simp
 refine zAA ?_
 cases h
 simp
theorem zBp(fuel:Nat)(l1:(List (List UInt8)))(lower2:Bool)(r:Bool)(h:zBB fuel l1 lower2=some r):Pure Tryz.prog 186 [.sl (l1.map cS),.bool lower2] (.bool r):=by
 rw[zBB] at h
 refine zAG Tryz.func186 (by rfl) (by rfl) (by simp) (by simp) (by simp)<|cutA 32 0 [(0,.sl (l1.map cS)),(1,.bool lower2)] []<|zAE<|cut 32 0 [(0,.sl (l1.map cS)),(1,.bool lower2),(13,.bool ((ltI l1.length 1)||(ltI 8 l1.length)))] [] ?_ ?_
 ·rcases tf (ltI l1.length 1) with g3|g3
  ·have c4:=ltT g3
   refine zE4 0 rfl fun f5=>?_
   rw[zq4] at f5
   refine st ?_
   simp[g3]
  have c6:=ltF g3
  refine zE4 0 rfl fun f7=>?_
  rw[zq4] at f7
  refine st ?_
  simp[g3]
 rcases sp h with ⟨g8,h⟩|⟨g8,h⟩
 ·refine zBF rfl g8<|cutA 32 0 [(4,.bool false)] []<|zAA<|zAB ?_
  cases h
  simp
 obtain⟨g9,g10⟩:=orF g8
 have c11:=ltF g9
 have c13:=ltF g10
 refine zHR rfl g8<|zE4 0 rfl fun f12=>?_
 rw[zq4] at f12
 refine zAC<|zAF ?_
 have q14:Rng .i64 ((l1.length:Int)-1):=by simp only[Rng,inR];omega
 try simp at q14
 refine cut 32 0 [(0,.sl (l1.map cS)),(1,.bool lower2),(5,iI ((l1.length:Int)-1))] [] (st (by simp[q14]))<|zAE ?_
 obtain⟨l15,q16,h⟩:=bs h
 obtain⟨q17,q18⟩:=zDn q16
 try simp at q17
 try simp at q18
 obtain⟨v19,q20,h⟩:=bs h
 refine cut 32 0 [(0,.sl (l1.map cS)),(1,.bool lower2),(5,iI ((l1.length:Int)-1)),(20,.bool v19)] [] ?_ ?_
 ·refine st ?_
  simp[q17,q18]
  have r37:=zDi fuel l15 v19 q20
  try simp[q17,q18] at r37
  refine cP r37 ?_
  simp[q17,q18]
 refine spc h rfl (fun g21 h=>?_) fun g21 h=>?_
 ·refine cutA 32 0 [(4,.bool false)] []<|zAA<|zAB ?_
  cases h
  simp
 refine zAC<|zAF<|zAE<|cutA 32 0 [(0,.sl (l1.map cS)),(5,iI ((l1.length:Int)-1)),(21,.bool lower2)] []<|spc h rfl (fun g22 h=>?_) fun g22 h=>?_
 ·obtain⟨x23,q24,h⟩:=bs h
  obtain⟨q25,q26⟩:=idxp_ok q24
  obtain⟨v27,q28,h⟩:=bs h
  refine cut 32 0 [(4,.bool v27)] [] ?_ ?_
  ·refine st ?_
   simp[q25,q26]
   have r29:=zAt fuel x23 v27 q28
   try simp[q25,q26] at r29
   refine cP r29 ?_
   simp[q25,q26]
  refine zAA<|zAB ?_
  cases h
  simp
 refine zAC<|zAF ?_
 obtain⟨x30,q31,h⟩:=bs h
 obtain⟨q32,q33⟩:=idxp_ok q31
 obtain⟨v34,q35,h⟩:=bs h
 refine cut 32 0 [(4,.bool v34)] [] ?_ ?_
 ·refine st ?_
  simp[q32,q33]
  have r36:=zA1 fuel x30 v34 q35
  try simp[q32,q33] at r36
  refine cP r36 ?_
  simp[q32,q33]
 refine zAA ?_
 cases h
 simp
theorem zIX(fuel:Nat)(s1:(List UInt8))(r:Bool)(h:zD6 fuel s1=some r):Pure Tryz.prog 187 [.str s1] (.bool r):=by
 rw[zD6] at h
 refine zAG Tryz.func187 (by rfl) (by rfl) (by simp) (by simp) (by simp)<|cutA 29 0 [(0,.str s1)] []<|zAE<|cutA 29 0 [(0,.str s1),(5,iI s1.length),(6,iI 0)] []<|zAH ?_
 obtain⟨o4,l5,h⟩:=bs h
 refine zCI (fun p:Nat×Nat=>mkS 29 0 [(0,.str s1),(5,iI s1.length),(6,iI p.2)] []) (fun p=>zB3 s1 p.1 p.2=some o4) (fun p=>p.1) (fuel,0) l5 (zBO (by simp)) ?_
 rintro⟨k6,i2⟩ l5
 try dsimp only at l5 ⊢
 cases k6 with
 |zero=>
  rw[zB3] at l5;cases l5
 |succ k7=>
  rw[zB3] at l5
  refine cutA 29 0 [(0,.str s1),(5,iI s1.length),(6,iI i2),(7,.bool (ltI i2 s1.length))] []<|zAE<|spc l5 rfl (fun g8 l5=>?_) fun g8 l5=>?_
  ·have c9:=ltT g8
   refine zGn 0 rfl fun f10=>?_
   refine zAC<|zAF<|zAE<|zAH<|cutA 29 0 [(0,.str s1),(3,iI i2),(5,iI s1.length),(6,iI i2)] [] ?_
   obtain⟨b21,q22,l5⟩:=bs l5
   refine cut 29 0 [(0,.str s1),(5,iI s1.length),(6,iI i2),(24,.bool b21)] [] ?_ ?_
   ·obtain⟨c11,q12,q22⟩:=bs q22
    rcases sp q22 with ⟨g13,q22⟩|⟨g13,q22⟩
    ·have g14:=notT g13
     have c15:=eqF g14
     rcases sp q22 with ⟨g16,q22⟩|⟨g16,q22⟩
     ·have c17:=ltT g16
      obtain rfl:=oi q22
      refine st ?_
      simp[q12,g13,g16]
     have c18:=ltF g16
     obtain rfl:=oi q22
     refine st ?_
     simp[q12,g13,g16]
    have g19:=notF g13
    have c20:=eqT g19
    obtain rfl:=oi q22
    refine st ?_
    simp[q12,g13]
   refine spc l5 rfl (fun g23 l5=>?_) fun g23 l5=>?_
   ·refine cutA 29 0 [(2,.bool false)] []<|zAA<|zAD<|zAB ?_
    replace h:=retL l5 h
    refine zAB<|zAD<|zAB ?_
    cases h
    simp
   refine zAC<|zDA<|zAF ?_
   have q24:Rng .i64 (((i2:Nat):Int)+1):=by simp only[Rng,inR];omega
   try simp at q24
   refine last 29 0 [(0,.str s1),(5,iI s1.length),(6,iI ((i2+1:Nat):Int))] [] (st (by simp[q24])) fun zz hs=>?_
   exact⟨(k7,i2+1),hs,l5,by simp⟩
  have c25:=ltF g8
  refine zGn 0 rfl fun f26=>?_
  refine zBP<|zAU ?_
  rcases o4 with o4|o3
  ·cases l5
  have q27:=Sum.inr.inj (zqa l5)
  replace h:=zEk h
  refine zAU<|zBU<|zCh (t:=mkS 29 0 [(0,.str s1)] []) ?_ (zBO (by simp))
  refine cutA 29 0 [(2,.bool (leI s1.length 16384))] []<|zAA ?_
  cases h
  simp
theorem zIY(fuel:Nat)(s1:(List UInt8))(r:Bool)(h:zEb fuel s1=some r):Pure Tryz.prog 188 [.str s1] (.bool r):=by
 rw[zEb] at h
 refine zAG Tryz.func188 (by rfl) (by rfl) (by simp) (by simp) (by simp)<|cutA 6 0 [(0,.str s1)] [] ?_
 obtain⟨v2,q3,h⟩:=bs h
 refine cut 6 0 [(2,.bool (!v2))] [] ?_ ?_
 ·refine st ?_
  simp
  have r4:=zAt fuel s1 v2 q3
  try simp at r4
  refine cP r4 ?_
  simp
 refine zAA ?_
 cases h
 simp
theorem zEC(fuel:Nat)(s1:(List (List UInt8)))(r:Int)(h:zBn fuel s1=some r):Pure Tryz.prog 153 [.sl (s1.map cS),.fn (.func 188) [] []] (iI r):=by
 rw[zBn] at h
 refine zAG Tryz.func153 (by rfl) (by rfl) (by simp) (by simp) (by simp)<|cutA 19 0 [(0,.sl (s1.map cS)),(1,.fn (.func 188) [] [])] []<|zAE<|cutA 19 0 [(0,.sl (s1.map cS)),(1,.fn (.func 188) [] []),(7,iI s1.length),(8,iI 0)] []<|zAH ?_
 obtain⟨o4,l5,h⟩:=bs h
 refine zCI (fun p:Nat×Nat=>mkS 19 0 [(0,.sl (s1.map cS)),(1,.fn (.func 188) [] []),(7,iI s1.length),(8,iI p.2)] []) (fun p=>zAh fuel s1 p.1 p.2=some o4) (fun p=>p.1) (fuel,0) l5 (zBO (by simp)) ?_
 rintro⟨k6,i2⟩ l5
 try dsimp only at l5 ⊢
 cases k6 with
 |zero=>
  rw[zAh] at l5;cases l5
 |succ k7=>
  rw[zAh] at l5
  refine cutA 19 0 [(0,.sl (s1.map cS)),(1,.fn (.func 188) [] []),(7,iI s1.length),(8,iI i2),(9,.bool (ltI i2 s1.length))] []<|zAE<|spc l5 rfl (fun g8 l5=>?_) fun g8 l5=>?_
  ·have c9:=ltT g8
   refine zE4 0 rfl fun f10=>?_
   rw[zq4] at f10
   refine zAC<|zAF<|zAE<|zAH<|cutA 19 0 [(0,.sl (s1.map cS)),(1,.fn (.func 188) [] []),(5,iI i2),(7,iI s1.length),(8,iI i2)] [] ?_
   obtain⟨x11,q12,l5⟩:=bs l5
   obtain⟨v13,q14,l5⟩:=bs l5
   refine cut 19 0 [(0,.sl (s1.map cS)),(1,.fn (.func 188) [] []),(5,iI i2),(7,iI s1.length),(8,iI i2),(16,.bool v13)] [] ?_ ?_
   ·refine st ?_
    simp[q12]
    have r17:=zIY fuel x11 v13 q14
    try simp[q12] at r17
    refine cP r17 ?_
    simp[q12]
   refine spc l5 rfl (fun g15 l5=>?_) fun g15 l5=>?_
   ·refine cutA 19 0 [(4,iI i2)] []<|zAA<|zAD<|zAB ?_
    replace h:=retL l5 h
    refine zAB<|zAD<|zAB ?_
    cases h
    simp
   refine zAC<|zDA<|zAF ?_
   have q16:Rng .i64 (((i2:Nat):Int)+1):=by simp only[Rng,inR];omega
   try simp at q16
   refine last 19 0 [(0,.sl (s1.map cS)),(1,.fn (.func 188) [] []),(7,iI s1.length),(8,iI ((i2+1:Nat):Int))] [] (st (by simp[q16])) fun zz hs=>?_
   exact⟨(k7,i2+1),hs,l5,by simp⟩
  have c18:=ltF g8
  refine zE4 0 rfl fun f19=>?_
  rw[zq4] at f19
  refine zBP<|zAU ?_
  rcases o4 with o4|o3
  ·cases l5
  have q20:=Sum.inr.inj (zqa l5)
  replace h:=zEk h
  refine zAU<|zBU<|zCh (t:=mkS 19 0 [] []) ?_ (zBO (by simp))
  refine cutA 19 0 [(4,iI (-1))] []<|zAA ?_
  cases h
  simp
theorem zDs(fuel:Nat)(s1:(List (List UInt8)))(r:Bool)(h:zA9 fuel s1=some r):Pure Tryz.prog 90 [.sl (s1.map cS),.fn (.func 188) [] []] (.bool r):=by
 rw[zA9] at h
 refine zAG Tryz.func90 (by rfl) (by rfl) (by simp) (by simp) (by simp)<|cutA 9 0 [(0,.sl (s1.map cS)),(1,.fn (.func 188) [] [])] [] ?_
 obtain⟨v2,q3,h⟩:=bs h
 refine cut 9 0 [(4,.bool (leI 0 v2))] [] ?_ ?_
 ·refine st ?_
  simp
  have r4:=zEC fuel s1 v2 q3
  try simp at r4
  refine cP r4 ?_
  simp
 refine zAA ?_
 cases h
 simp
theorem zDv(fuel:Nat)(l1:(List (List UInt8)))(r:Bool)(h:zCe fuel l1=some r):Pure Tryz.prog 189 [.sl (l1.map cS)] (.bool r):=by
 rw[zCe] at h
 refine zAG Tryz.func189 (by rfl) (by rfl) (by simp) (by simp) (by simp)<|cutA 26 0 [(0,.sl (l1.map cS))] []<|zAE<|cutA 26 0 [(0,.sl (l1.map cS)),(5,.sl (l1.map cS)),(6,iI l1.length),(7,iI 0)] []<|zAH ?_
 obtain⟨o4,l5,h⟩:=bs h
 refine zCI (fun p:Nat×Nat=>mkS 26 0 [(0,.sl (l1.map cS)),(5,.sl (l1.map cS)),(6,iI l1.length),(7,iI p.2)] []) (fun p=>zCF fuel l1 p.1 p.2=some o4) (fun p=>p.1) (fuel,0) l5 (zBO (by simp)) ?_
 rintro⟨k6,i2⟩ l5
 try dsimp only at l5 ⊢
 cases k6 with
 |zero=>
  rw[zCF] at l5;cases l5
 |succ k7=>
  rw[zCF] at l5
  refine cutA 26 0 [(0,.sl (l1.map cS)),(5,.sl (l1.map cS)),(6,iI l1.length),(7,iI i2),(8,.bool (ltI i2 l1.length))] []<|zAE<|spc l5 rfl (fun g8 l5=>?_) fun g8 l5=>?_
  ·have c9:=ltT g8
   refine zE4 0 rfl fun f10=>?_
   rw[zq4] at f10
   refine zAC<|zAF<|zAE<|zAH ?_
   obtain⟨x11,q12,l5⟩:=bs l5
   refine cut 26 0 [(0,.sl (l1.map cS)),(3,iI i2),(4,.str x11),(5,.sl (l1.map cS)),(6,iI l1.length),(7,iI i2)] [] (st (by simp[q12])) ?_
   obtain⟨b24,q25,l5⟩:=bs l5
   refine cut 26 0 [(0,.sl (l1.map cS)),(5,.sl (l1.map cS)),(6,iI l1.length),(7,iI i2),(21,.bool b24)] [] ?_ ?_
   ·obtain⟨v13,q14,q25⟩:=bs q25
    rcases sp q25 with ⟨g15,q25⟩|⟨g15,q25⟩
    ·have g16:=notT g15
     obtain rfl:=oi q25
     refine st ?_
     simp[g15]
     have r28:=zFL fuel x11 v13 q14
     try simp[g15] at r28
     refine cP r28 ?_
     simp[g15]
    have g17:=notF g15
    obtain⟨l18,q19,q25⟩:=bs q25
    obtain⟨q20,q21⟩:=zDn q19
    try simp at q20
    try simp at q21
    obtain⟨v22,q23,q25⟩:=bs q25
    obtain rfl:=oi q25
    refine st ?_
    simp[g15,q20,q21]
    have r29:=zFL fuel x11 v13 q14
    try simp[g15,q20,q21] at r29
    refine cP r29 ?_
    simp[g15,q20,q21]
    have r30:=zDp fuel l18 x11 v22 q23
    try simp[g15,q20,q21] at r30
    refine cP r30 ?_
    simp[g15,q20,q21]
   refine spc l5 rfl (fun g26 l5=>?_) fun g26 l5=>?_
   ·refine cutA 26 0 [(2,.bool false)] []<|zAA<|zAD<|zAB ?_
    replace h:=retL l5 h
    refine zAB<|zAD<|zAB ?_
    cases h
    simp
   refine zAC<|zDA<|zAF ?_
   have q27:Rng .i64 (((i2:Nat):Int)+1):=by simp only[Rng,inR];omega
   try simp at q27
   refine last 26 0 [(0,.sl (l1.map cS)),(5,.sl (l1.map cS)),(6,iI l1.length),(7,iI ((i2+1:Nat):Int))] [] (st (by simp[q27])) fun zz hs=>?_
   exact⟨(k7,i2+1),hs,l5,by simp⟩
  have c31:=ltF g8
  refine zE4 0 rfl fun f32=>?_
  rw[zq4] at f32
  refine zBP<|zAU ?_
  rcases o4 with o4|o3
  ·cases l5
  have q33:=Sum.inr.inj (zqa l5)
  replace h:=zEk h
  refine zAU<|zBU<|zCh (t:=mkS 26 0 [(0,.sl (l1.map cS))] []) ?_ (zBO (by simp))
  refine cutA 26 0 [(2,.bool (leI l1.length 4))] []<|zAA ?_
  cases h
  simp
theorem zHF(fuel:Nat)(t1:zJv)(inWith2:Bool)(r:Bool)(h:zBl fuel t1 inWith2=some r):Pure Tryz.prog 140 [.agg t1.d,.bool inWith2] (.bool r):=by
 rw[zBl] at h
 refine zAG Tryz.func140 (by rfl) (by rfl) (by simp) (by simp) (by simp)<|cutA 199 0 [(1,.bool inWith2),(2,pT 0)] [t1.d] ?_
 obtain⟨v3,q4,h⟩:=bs h
 refine cut 199 0 [(1,.bool inWith2),(2,pT 0),(5,pT 1)] [t1.d,(zJt.c v3)] ?_ ?_
 ·refine st ?_
  simp
  have r298:=zHl t1.Op v3 q4
  try simp at r298
  refine cP r298 ?_
  simp
 refine zAE<|cut 199 0 [(1,.bool inWith2),(2,pT 0),(37,.bool (if !v3.n then (!(eqI t1.N 0))||(if !v3.s then (!(eqS t1.S ([]:List UInt8)))||((!v3.names)&&(ltI 0 t1.Names.length)) else (!v3.names)&&(ltI 0 t1.Names.length)) else if !v3.s then (!(eqS t1.S ([]:List UInt8)))||((!v3.names)&&(ltI 0 t1.Names.length)) else (!v3.names)&&(ltI 0 t1.Names.length)))] [t1.d,(zJt.c v3)] ?_ ?_
 ·rcases tf (!v3.n) with g5|g5
  ·have g6:=notT g5
   rcases tf (!(eqI t1.N 0)) with g7|g7
   ·have g8:=notT g7
    have c9:=eqF g8
    refine st ?_
    simp[g5,g7]
   have g10:=notF g7
   have c11:=eqT g10
   rcases tf (!v3.s) with g12|g12
   ·have g13:=notT g12
    rcases tf (!(eqS t1.S ([]:List UInt8))) with g14|g14
    ·have g15:=notT g14
     refine st ?_
     simp[g5,g7,g12,g14]
    have g16:=notF g14
    rcases tf (!v3.names) with g17|g17
    ·have g18:=notT g17
     refine st ?_
     simp[g5,g7,g12,g14,g17]
    have g19:=notF g17
    refine st ?_
    simp[g5,g7,g12,g14,g17]
   have g20:=notF g12
   rcases tf (!v3.names) with g21|g21
   ·have g22:=notT g21
    refine st ?_
    simp[g5,g7,g12,g21]
   have g23:=notF g21
   refine st ?_
   simp[g5,g7,g12,g21]
  have g24:=notF g5
  rcases tf (!v3.s) with g25|g25
  ·have g26:=notT g25
   rcases tf (!(eqS t1.S ([]:List UInt8))) with g27|g27
   ·have g28:=notT g27
    refine st ?_
    simp[g5,g25,g27]
   have g29:=notF g27
   rcases tf (!v3.names) with g30|g30
   ·have g31:=notT g30
    refine st ?_
    simp[g5,g25,g27,g30]
   have g32:=notF g30
   refine st ?_
   simp[g5,g25,g27,g30]
  have g33:=notF g25
  rcases tf (!v3.names) with g34|g34
  ·have g35:=notT g34
   refine st ?_
   simp[g5,g25,g34]
  have g36:=notF g34
  refine st ?_
  simp[g5,g25,g34]
 refine spc h rfl (fun g37 h=>?_) fun g37 h=>?_
 ·refine cutA 199 0 [(4,.bool false)] [t1.d,(zJt.c v3)]<|zAA<|zAB ?_
  cases h
  simp
 refine zAC<|zAF<|zAE<|cutA 199 0 [(1,.bool inWith2),(2,pT 0),(39,iI t1.Op)] [t1.d,(zJt.c v3)]<|zAH<|cutA 199 0 [(1,.bool inWith2),(2,pT 0),(39,iI t1.Op),(40,.bool (eqI t1.Op 1))] [t1.d,(zJt.c v3)]<|spc h rfl (fun g38 h=>?_) fun g38 h=>?_
 ·obtain⟨v40,q41,h⟩:=bs h
  refine cut 199 0 [(4,.bool v40)] [t1.d,(zJt.c v3)] ?_ ?_
  ·refine st ?_
   simp
   have r42:=zFL fuel t1.S v40 q41
   try simp at r42
   refine cP r42 ?_
   simp
  refine zAA<|zAD<|zAB ?_
  cases h
  simp
 refine zAE<|cutA 199 0 [(1,.bool inWith2),(2,pT 0),(39,iI t1.Op),(45,.bool (eqI t1.Op 2))] [t1.d,(zJt.c v3)]<|spc h rfl (fun g44 h=>?_) fun g44 h=>?_
 ·refine zAC<|zAF<|zBF rfl (by simp[g44]) ?_
  obtain⟨v46,q47,h⟩:=bs h
  refine cut 199 0 [(4,.bool v46)] [t1.d,(zJt.c v3)] ?_ ?_
  ·refine st ?_
   simp
   have r48:=zBp fuel t1.Names true v46 q47
   try simp at r48
   refine cP r48 ?_
   simp
  refine zAA<|zAD<|zAB ?_
  cases h
  simp
 refine cutA 199 0 [(1,.bool inWith2),(2,pT 0),(39,iI t1.Op),(45,.bool (eqI t1.Op 23))] [t1.d,(zJt.c v3)]<|spc h rfl (fun g50 h=>?_) fun g50 h=>?_
 ·refine zAC<|zAF<|zBF rfl (by simp[g50]) ?_
  obtain⟨v52,q53,h⟩:=bs h
  refine cut 199 0 [(4,.bool v52)] [t1.d,(zJt.c v3)] ?_ ?_
  ·refine st ?_
   simp
   have r54:=zBp fuel t1.Names true v52 q53
   try simp at r54
   refine cP r54 ?_
   simp
  refine zAA<|zAD<|zAB ?_
  cases h
  simp
 refine cutA 199 0 [(1,.bool inWith2),(2,pT 0),(39,iI t1.Op),(45,.bool (eqI t1.Op 66))] [t1.d,(zJt.c v3)]<|spc h rfl (fun g56 h=>?_) fun g56 h=>?_
 ·refine zAC<|zAF<|zBF rfl (by simp[g56]) ?_
  obtain⟨v58,q59,h⟩:=bs h
  refine cut 199 0 [(4,.bool v58)] [t1.d,(zJt.c v3)] ?_ ?_
  ·refine st ?_
   simp
   have r60:=zBp fuel t1.Names true v58 q59
   try simp at r60
   refine cP r60 ?_
   simp
  refine zAA<|zAD<|zAB ?_
  cases h
  simp
 refine zG1 199 0 [(1,.bool inWith2),(2,pT 0),(39,iI t1.Op),(45,.bool (eqI t1.Op 74))] [t1.d,(zJt.c v3)]<|spc h rfl (fun g62 h=>?_) fun g62 h=>?_
 ·have c63:=eqT g62
  obtain⟨v64,q65,h⟩:=bs h
  refine cut 199 0 [(4,.bool v64)] [t1.d,(zJt.c v3)] ?_ ?_
  ·refine st ?_
   simp
   have r66:=zBp fuel t1.Names true v64 q65
   try simp at r66
   refine cP r66 ?_
   simp
  refine zAA<|zAD<|zAB ?_
  cases h
  simp
 have c67:=eqF g62
 refine zAE<|cutA 199 0 [(1,.bool inWith2),(2,pT 0),(39,iI t1.Op),(53,.bool (eqI t1.Op 5))] [t1.d,(zJt.c v3)]<|spc h rfl (fun g68 h=>?_) fun g68 h=>?_
 ·refine zAC<|zAF<|zBF rfl (by simp[g68]) ?_
  obtain⟨v70,q71,h⟩:=bs h
  refine cut 199 0 [(4,.bool v70)] [t1.d,(zJt.c v3)] ?_ ?_
  ·refine st ?_
   simp
   have r72:=zBp fuel t1.Names false v70 q71
   try simp at r72
   refine cP r72 ?_
   simp
  refine zAA<|zAD<|zAB ?_
  cases h
  simp
 refine cutA 199 0 [(1,.bool inWith2),(2,pT 0),(39,iI t1.Op),(53,.bool (eqI t1.Op 14))] [t1.d,(zJt.c v3)]<|spc h rfl (fun g74 h=>?_) fun g74 h=>?_
 ·refine zAC<|zAF<|zBF rfl (by simp[g74]) ?_
  obtain⟨v76,q77,h⟩:=bs h
  refine cut 199 0 [(4,.bool v76)] [t1.d,(zJt.c v3)] ?_ ?_
  ·refine st ?_
   simp
   have r78:=zBp fuel t1.Names false v76 q77
   try simp at r78
   refine cP r78 ?_
   simp
  refine zAA<|zAD<|zAB ?_
  cases h
  simp
 refine cutA 199 0 [(1,.bool inWith2),(2,pT 0),(39,iI t1.Op),(53,.bool (eqI t1.Op 24))] [t1.d,(zJt.c v3)]<|spc h rfl (fun g80 h=>?_) fun g80 h=>?_
 ·refine zAC<|zAF<|zBF rfl (by simp[g80]) ?_
  obtain⟨v82,q83,h⟩:=bs h
  refine cut 199 0 [(4,.bool v82)] [t1.d,(zJt.c v3)] ?_ ?_
  ·refine st ?_
   simp
   have r84:=zBp fuel t1.Names false v82 q83
   try simp at r84
   refine cP r84 ?_
   simp
  refine zAA<|zAD<|zAB ?_
  cases h
  simp
 refine cutA 199 0 [(1,.bool inWith2),(2,pT 0),(39,iI t1.Op),(53,.bool (eqI t1.Op 34))] [t1.d,(zJt.c v3)]<|spc h rfl (fun g86 h=>?_) fun g86 h=>?_
 ·refine zAC<|zAF<|zBF rfl (by simp[g86]) ?_
  obtain⟨v88,q89,h⟩:=bs h
  refine cut 199 0 [(4,.bool v88)] [t1.d,(zJt.c v3)] ?_ ?_
  ·refine st ?_
   simp
   have r90:=zBp fuel t1.Names false v88 q89
   try simp at r90
   refine cP r90 ?_
   simp
  refine zAA<|zAD<|zAB ?_
  cases h
  simp
 refine cutA 199 0 [(1,.bool inWith2),(2,pT 0),(39,iI t1.Op),(53,.bool (eqI t1.Op 48))] [t1.d,(zJt.c v3)]<|spc h rfl (fun g92 h=>?_) fun g92 h=>?_
 ·refine zAC<|zAF<|zBF rfl (by simp[g92]) ?_
  obtain⟨v94,q95,h⟩:=bs h
  refine cut 199 0 [(4,.bool v94)] [t1.d,(zJt.c v3)] ?_ ?_
  ·refine st ?_
   simp
   have r96:=zBp fuel t1.Names false v94 q95
   try simp at r96
   refine cP r96 ?_
   simp
  refine zAA<|zAD<|zAB ?_
  cases h
  simp
 refine cutA 199 0 [(1,.bool inWith2),(2,pT 0),(39,iI t1.Op),(53,.bool (eqI t1.Op 49))] [t1.d,(zJt.c v3)]<|spc h rfl (fun g98 h=>?_) fun g98 h=>?_
 ·refine zAC<|zAF<|zBF rfl (by simp[g98]) ?_
  obtain⟨v100,q101,h⟩:=bs h
  refine cut 199 0 [(4,.bool v100)] [t1.d,(zJt.c v3)] ?_ ?_
  ·refine st ?_
   simp
   have r102:=zBp fuel t1.Names false v100 q101
   try simp at r102
   refine cP r102 ?_
   simp
  refine zAA<|zAD<|zAB ?_
  cases h
  simp
 refine cutA 199 0 [(1,.bool inWith2),(2,pT 0),(39,iI t1.Op),(53,.bool (eqI t1.Op 72))] [t1.d,(zJt.c v3)]<|spc h rfl (fun g104 h=>?_) fun g104 h=>?_
 ·refine zAC<|zAF<|zBF rfl (by simp[g104]) ?_
  obtain⟨v106,q107,h⟩:=bs h
  refine cut 199 0 [(4,.bool v106)] [t1.d,(zJt.c v3)] ?_ ?_
  ·refine st ?_
   simp
   have r108:=zBp fuel t1.Names false v106 q107
   try simp at r108
   refine cP r108 ?_
   simp
  refine zAA<|zAD<|zAB ?_
  cases h
  simp
 refine zG1 199 0 [(1,.bool inWith2),(2,pT 0),(39,iI t1.Op),(53,.bool (eqI t1.Op 82))] [t1.d,(zJt.c v3)]<|spc h rfl (fun g110 h=>?_) fun g110 h=>?_
 ·have c111:=eqT g110
  obtain⟨v112,q113,h⟩:=bs h
  refine cut 199 0 [(4,.bool v112)] [t1.d,(zJt.c v3)] ?_ ?_
  ·refine st ?_
   simp
   have r114:=zBp fuel t1.Names false v112 q113
   try simp at r114
   refine cP r114 ?_
   simp
  refine zAA<|zAD<|zAB ?_
  cases h
  simp
 have c115:=eqF g110
 refine zAE<|cutA 199 0 [(1,.bool inWith2),(2,pT 0),(39,iI t1.Op),(65,.bool (eqI t1.Op 12))] [t1.d,(zJt.c v3)]<|spc h rfl (fun g116 h=>?_) fun g116 h=>?_
 ·refine zAC<|zAF<|zBF rfl (by simp[g116]) ?_
  obtain⟨v118,q119,h⟩:=bs h
  refine cut 199 0 [(4,.bool v118)] [t1.d,(zJt.c v3)] ?_ ?_
  ·refine st ?_
   simp
   have r120:=zAt fuel t1.S v118 q119
   try simp at r120
   refine cP r120 ?_
   simp
  refine zAA<|zAD<|zAB ?_
  cases h
  simp
 refine cutA 199 0 [(1,.bool inWith2),(2,pT 0),(39,iI t1.Op),(65,.bool (eqI t1.Op 41))] [t1.d,(zJt.c v3)]<|spc h rfl (fun g122 h=>?_) fun g122 h=>?_
 ·refine zAC<|zAF<|zBF rfl (by simp[g122]) ?_
  obtain⟨v124,q125,h⟩:=bs h
  refine cut 199 0 [(4,.bool v124)] [t1.d,(zJt.c v3)] ?_ ?_
  ·refine st ?_
   simp
   have r126:=zAt fuel t1.S v124 q125
   try simp at r126
   refine cP r126 ?_
   simp
  refine zAA<|zAD<|zAB ?_
  cases h
  simp
 refine zG1 199 0 [(1,.bool inWith2),(2,pT 0),(39,iI t1.Op),(65,.bool (eqI t1.Op 61))] [t1.d,(zJt.c v3)]<|spc h rfl (fun g128 h=>?_) fun g128 h=>?_
 ·have c129:=eqT g128
  obtain⟨v130,q131,h⟩:=bs h
  refine cut 199 0 [(4,.bool v130)] [t1.d,(zJt.c v3)] ?_ ?_
  ·refine st ?_
   simp
   have r132:=zAt fuel t1.S v130 q131
   try simp at r132
   refine cP r132 ?_
   simp
  refine zAA<|zAD<|zAB ?_
  cases h
  simp
 have c133:=eqF g128
 refine cutA 199 0 [(1,.bool inWith2),(2,pT 0),(39,iI t1.Op),(72,.bool (eqI t1.Op 13))] [t1.d,(zJt.c v3)]<|spc h rfl (fun g134 h=>?_) fun g134 h=>?_
 ·refine cut 199 0 [(4,.bool ((leI (-4503599627370496) t1.N)&&(leI t1.N 4503599627370496)))] [t1.d,(zJt.c v3)] ?_ ?_
  ·rcases tf (leI (-4503599627370496) t1.N) with g136|g136
   ·have c137:=leT g136
    refine st ?_
    simp[g136]
   have c138:=leF g136
   refine st ?_
   simp[g136]
  refine zAA<|zAD<|zAB ?_
  cases h
  simp
 refine cutA 199 0 [(1,.bool inWith2),(2,pT 0),(39,iI t1.Op),(82,.bool (eqI t1.Op 21))] [t1.d,(zJt.c v3)]<|spc h rfl (fun g140 h=>?_) fun g140 h=>?_
 ·refine cut 199 0 [(4,.bool ((leI 0 t1.N)&&(leI t1.N 4503599627370496)))] [t1.d,(zJt.c v3)] ?_ ?_
  ·rcases tf (leI 0 t1.N) with g142|g142
   ·have c143:=leT g142
    refine st ?_
    simp[g142]
   have c144:=leF g142
   refine st ?_
   simp[g142]
  refine zAA<|zAD<|zAB ?_
  cases h
  simp
 refine cutA 199 0 [(1,.bool inWith2),(2,pT 0),(39,iI t1.Op),(92,.bool (eqI t1.Op 22))] [t1.d,(zJt.c v3)]<|spc h rfl (fun g146 h=>?_) fun g146 h=>?_
 ·obtain⟨v148,q149,h⟩:=bs h
  refine cut 199 0 [(4,.bool v148)] [t1.d,(zJt.c v3)] ?_ ?_
  ·refine st ?_
   simp
   have r150:=zIX fuel t1.S v148 q149
   try simp at r150
   refine cP r150 ?_
   simp
  refine zAA<|zAD<|zAB ?_
  cases h
  simp
 refine cutA 199 0 [(1,.bool inWith2),(2,pT 0),(39,iI t1.Op),(97,.bool (eqI t1.Op 25))] [t1.d,(zJt.c v3)]<|spc h rfl (fun g152 h=>?_) fun g152 h=>?_
 ·obtain⟨b157,q158,h⟩:=bs h
  refine cut 199 0 [(4,.bool b157)] [t1.d,(zJt.c v3)] ?_ ?_
  ·rcases sp q158 with ⟨g154,q158⟩|⟨g154,q158⟩
   ·obtain rfl:=oi q158
    refine st ?_
    simp[g154]
   obtain⟨v155,q156,q158⟩:=bs q158
   obtain rfl:=oi q158
   refine st ?_
   simp[g154]
   have r159:=zAt fuel t1.S v155 q156
   try simp[g154] at r159
   refine cP r159 ?_
   simp[g154]
  refine zAA<|zAD<|zAB ?_
  cases h
  simp
 refine cutA 199 0 [(1,.bool inWith2),(2,pT 0),(39,iI t1.Op),(107,.bool (eqI t1.Op 32))] [t1.d,(zJt.c v3)]<|spc h rfl (fun g161 h=>?_) fun g161 h=>?_
 ·refine cut 199 0 [(4,.bool ((leI 1 t1.N)&&(leI t1.N 12)))] [t1.d,(zJt.c v3)] ?_ ?_
  ·rcases tf (leI 1 t1.N) with g163|g163
   ·have c164:=leT g163
    refine st ?_
    simp[g163]
   have c165:=leF g163
   refine st ?_
   simp[g163]
  refine zAA<|zAD<|zAB ?_
  cases h
  simp
 refine cutA 199 0 [(1,.bool inWith2),(2,pT 0),(39,iI t1.Op),(117,.bool (eqI t1.Op 42))] [t1.d,(zJt.c v3)]<|spc h rfl (fun g167 h=>?_) fun g167 h=>?_
 ·obtain⟨b182,q183,h⟩:=bs h
  refine cut 199 0 [(4,.bool b182)] [t1.d,(zJt.c v3)] ?_ ?_
  ·obtain⟨v169,q170,q183⟩:=bs q183
   rcases sp q183 with ⟨g171,q183⟩|⟨g171,q183⟩
   ·rcases sp q183 with ⟨g172,q183⟩|⟨g172,q183⟩
    ·have c173:=leT g172
     refine zDt 0 3 rfl rfl rfl fun f174=>?_
     rw[zq4] at f174
     rcases sp q183 with ⟨g175,q183⟩|⟨g175,q183⟩
     ·have c176:=leT g175
      obtain⟨v177,q178,q183⟩:=bs q183
      obtain rfl:=oi q183
      refine st ?_
      simp[g171,g172,g175]
      have r184:=zAt fuel t1.S v169 q170
      try simp[g171,g172,g175] at r184
      refine cP r184 ?_
      simp[g171,g172,g175]
      have r185:=zDs fuel t1.Names v177 q178
      try simp[g171,g172,g175] at r185
      refine cP r185 ?_
      simp[g171,g172,g175]
     have c179:=leF g175
     obtain rfl:=oi q183
     refine st ?_
     simp[g171,g172,g175]
     have r186:=zAt fuel t1.S v169 q170
     try simp[g171,g172,g175] at r186
     refine cP r186 ?_
     simp[g171,g172,g175]
    have c180:=leF g172
    refine zDt 0 3 rfl rfl rfl fun f181=>?_
    rw[zq4] at f181
    obtain rfl:=oi q183
    refine st ?_
    simp[g171,g172]
    have r187:=zAt fuel t1.S v169 q170
    try simp[g171,g172] at r187
    refine cP r187 ?_
    simp[g171,g172]
   obtain rfl:=oi q183
   refine st ?_
   simp[g171]
   have r188:=zAt fuel t1.S v169 q170
   try simp[g171] at r188
   refine cP r188 ?_
   simp[g171]
  refine zAA<|zAD<|zAB ?_
  cases h
  simp
 refine cutA 199 0 [(1,.bool inWith2),(2,pT 0),(39,iI t1.Op),(140,.bool (eqI t1.Op 43))] [t1.d,(zJt.c v3)]<|spc h rfl (fun g190 h=>?_) fun g190 h=>?_
 ·obtain⟨b201,q202,h⟩:=bs h
  refine cut 199 0 [(4,.bool b201)] [t1.d,(zJt.c v3)] ?_ ?_
  ·rcases sp q202 with ⟨g192,q202⟩|⟨g192,q202⟩
   ·rcases sp q202 with ⟨g193,q202⟩|⟨g193,q202⟩
    ·obtain⟨v194,q195,q202⟩:=bs q202
     obtain rfl:=oi q202
     refine st ?_
     simp[g192,g193]
     have r203:=zDv fuel t1.Names v194 q195
     try simp[g192,g193] at r203
     refine cP r203 ?_
     simp[g192,g193]
    obtain rfl:=oi q202
    refine st ?_
    simp[g192,g193]
   obtain⟨v196,q197,q202⟩:=bs q202
   rcases sp q202 with ⟨g198,q202⟩|⟨g198,q202⟩
   ·obtain⟨v199,q200,q202⟩:=bs q202
    obtain rfl:=oi q202
    refine st ?_
    simp[g192,g198]
    have r204:=zAt fuel t1.S v196 q197
    try simp[g192,g198] at r204
    refine cP r204 ?_
    simp[g192,g198]
    have r205:=zDv fuel t1.Names v199 q200
    try simp[g192,g198] at r205
    refine cP r205 ?_
    simp[g192,g198]
   obtain rfl:=oi q202
   refine st ?_
   simp[g192,g198]
   have r206:=zAt fuel t1.S v196 q197
   try simp[g192,g198] at r206
   refine cP r206 ?_
   simp[g192,g198]
  refine zAA<|zAD<|zAB ?_
  cases h
  simp
 refine zAE<|cutA 199 0 [(2,pT 0),(39,iI t1.Op),(162,.bool (eqI t1.Op 44))] [t1.d,(zJt.c v3)]<|spc h rfl (fun g208 h=>?_) fun g208 h=>?_
 ·refine zAC<|zAF<|zBF rfl (by simp[g208]) ?_
  obtain⟨b215,q216,h⟩:=bs h
  refine cut 199 0 [(4,.bool b215)] [t1.d,(zJt.c v3)] ?_ ?_
  ·obtain⟨v210,q211,q216⟩:=bs q216
   rcases sp q216 with ⟨g212,q216⟩|⟨g212,q216⟩
   ·obtain⟨v213,q214,q216⟩:=bs q216
    obtain rfl:=oi q216
    refine st ?_
    simp[g212]
    have r217:=zAt fuel t1.S v210 q211
    try simp[g212] at r217
    refine cP r217 ?_
    simp[g212]
    have r218:=zDv fuel t1.Names v213 q214
    try simp[g212] at r218
    refine cP r218 ?_
    simp[g212]
   obtain rfl:=oi q216
   refine st ?_
   simp[g212]
   have r219:=zAt fuel t1.S v210 q211
   try simp[g212] at r219
   refine cP r219 ?_
   simp[g212]
  refine zAA<|zAD<|zAB ?_
  cases h
  simp
 refine zG1 199 0 [(2,pT 0),(39,iI t1.Op),(162,.bool (eqI t1.Op 62))] [t1.d,(zJt.c v3)]<|spc h rfl (fun g221 h=>?_) fun g221 h=>?_
 ·have c222:=eqT g221
  obtain⟨b228,q229,h⟩:=bs h
  refine cut 199 0 [(4,.bool b228)] [t1.d,(zJt.c v3)] ?_ ?_
  ·obtain⟨v223,q224,q229⟩:=bs q229
   rcases sp q229 with ⟨g225,q229⟩|⟨g225,q229⟩
   ·obtain⟨v226,q227,q229⟩:=bs q229
    obtain rfl:=oi q229
    refine st ?_
    simp[g225]
    have r230:=zAt fuel t1.S v223 q224
    try simp[g225] at r230
    refine cP r230 ?_
    simp[g225]
    have r231:=zDv fuel t1.Names v226 q227
    try simp[g225] at r231
    refine cP r231 ?_
    simp[g225]
   obtain rfl:=oi q229
   refine st ?_
   simp[g225]
   have r232:=zAt fuel t1.S v223 q224
   try simp[g225] at r232
   refine cP r232 ?_
   simp[g225]
  refine zAA<|zAD<|zAB ?_
  cases h
  simp
 have c233:=eqF g221
 refine zAE<|cutA 199 0 [(2,pT 0),(39,iI t1.Op),(173,.bool (eqI t1.Op 45))] [t1.d,(zJt.c v3)]<|spc h rfl (fun g234 h=>?_) fun g234 h=>?_
 ·refine zAC<|zAF<|zBF rfl (by simp[g234]) ?_
  obtain⟨v236,q237,h⟩:=bs h
  refine cut 199 0 [(4,.bool v236)] [t1.d,(zJt.c v3)] ?_ ?_
  ·refine st ?_
   simp
   have r238:=zA1 fuel t1.S v236 q237
   try simp at r238
   refine cP r238 ?_
   simp
  refine zAA<|zAD<|zAB ?_
  cases h
  simp
 refine cutA 199 0 [(2,pT 0),(39,iI t1.Op),(173,.bool (eqI t1.Op 46))] [t1.d,(zJt.c v3)]<|spc h rfl (fun g240 h=>?_) fun g240 h=>?_
 ·refine zAC<|zAF<|zBF rfl (by simp[g240]) ?_
  obtain⟨v242,q243,h⟩:=bs h
  refine cut 199 0 [(4,.bool v242)] [t1.d,(zJt.c v3)] ?_ ?_
  ·refine st ?_
   simp
   have r244:=zA1 fuel t1.S v242 q243
   try simp at r244
   refine cP r244 ?_
   simp
  refine zAA<|zAD<|zAB ?_
  cases h
  simp
 refine cutA 199 0 [(2,pT 0),(39,iI t1.Op),(173,.bool (eqI t1.Op 47))] [t1.d,(zJt.c v3)]<|spc h rfl (fun g246 h=>?_) fun g246 h=>?_
 ·refine zAC<|zAF<|zBF rfl (by simp[g246]) ?_
  obtain⟨v248,q249,h⟩:=bs h
  refine cut 199 0 [(4,.bool v248)] [t1.d,(zJt.c v3)] ?_ ?_
  ·refine st ?_
   simp
   have r250:=zA1 fuel t1.S v248 q249
   try simp at r250
   refine cP r250 ?_
   simp
  refine zAA<|zAD<|zAB ?_
  cases h
  simp
 refine cutA 199 0 [(2,pT 0),(39,iI t1.Op),(173,.bool (eqI t1.Op 50))] [t1.d,(zJt.c v3)]<|spc h rfl (fun g252 h=>?_) fun g252 h=>?_
 ·refine zAC<|zAF<|zBF rfl (by simp[g252]) ?_
  obtain⟨v254,q255,h⟩:=bs h
  refine cut 199 0 [(4,.bool v254)] [t1.d,(zJt.c v3)] ?_ ?_
  ·refine st ?_
   simp
   have r256:=zA1 fuel t1.S v254 q255
   try simp at r256
   refine cP r256 ?_
   simp
  refine zAA<|zAD<|zAB ?_
  cases h
  simp
 refine cutA 199 0 [(2,pT 0),(39,iI t1.Op),(173,.bool (eqI t1.Op 63))] [t1.d,(zJt.c v3)]<|spc h rfl (fun g258 h=>?_) fun g258 h=>?_
 ·refine zAC<|zAF<|zBF rfl (by simp[g258]) ?_
  obtain⟨v260,q261,h⟩:=bs h
  refine cut 199 0 [(4,.bool v260)] [t1.d,(zJt.c v3)] ?_ ?_
  ·refine st ?_
   simp
   have r262:=zA1 fuel t1.S v260 q261
   try simp at r262
   refine cP r262 ?_
   simp
  refine zAA<|zAD<|zAB ?_
  cases h
  simp
 refine zG1 199 0 [(2,pT 0),(39,iI t1.Op),(173,.bool (eqI t1.Op 64))] [t1.d,(zJt.c v3)]<|spc h rfl (fun g264 h=>?_) fun g264 h=>?_
 ·have c265:=eqT g264
  obtain⟨v266,q267,h⟩:=bs h
  refine cut 199 0 [(4,.bool v266)] [t1.d,(zJt.c v3)] ?_ ?_
  ·refine st ?_
   simp
   have r268:=zA1 fuel t1.S v266 q267
   try simp at r268
   refine cP r268 ?_
   simp
  refine zAA<|zAD<|zAB ?_
  cases h
  simp
 have c269:=eqF g264
 refine zAE<|cutA 199 0 [(2,pT 0),(39,iI t1.Op),(183,.bool (eqI t1.Op 73))] [t1.d,(zJt.c v3)]<|spc h rfl (fun g270 h=>?_) fun g270 h=>?_
 ·refine zAC<|zAF<|zBF rfl (by simp[g270]) ?_
  obtain⟨b278,q279,h⟩:=bs h
  refine cut 199 0 [(4,.bool b278)] [t1.d,(zJt.c v3)] ?_ ?_
  ·obtain⟨v272,q273,q279⟩:=bs q279
   rcases sp q279 with ⟨g274,q279⟩|⟨g274,q279⟩
   ·rcases sp q279 with ⟨g275,q279⟩|⟨g275,q279⟩
    ·have c276:=eqT g275
     obtain rfl:=oi q279
     refine st ?_
     simp[g274,g275]
     have r280:=zA1 fuel t1.S v272 q273
     try simp[g274,g275] at r280
     refine cP r280 ?_
     simp[g274,g275]
    have c277:=eqF g275
    obtain rfl:=oi q279
    refine st ?_
    simp[g274,g275]
    have r281:=zA1 fuel t1.S v272 q273
    try simp[g274,g275] at r281
    refine cP r281 ?_
    simp[g274,g275]
   obtain rfl:=oi q279
   refine st ?_
   simp[g274]
   have r282:=zA1 fuel t1.S v272 q273
   try simp[g274] at r282
   refine cP r282 ?_
   simp[g274]
  refine zAA<|zAD<|zAB ?_
  cases h
  simp
 refine zG1 199 0 [(2,pT 0),(183,.bool (eqI t1.Op 83))] [t1.d,(zJt.c v3)]<|spc h rfl (fun g284 h=>?_) fun g284 h=>?_
 ·have c285:=eqT g284
  obtain⟨b292,q293,h⟩:=bs h
  refine cut 199 0 [(4,.bool b292)] [t1.d,(zJt.c v3)] ?_ ?_
  ·obtain⟨v286,q287,q293⟩:=bs q293
   rcases sp q293 with ⟨g288,q293⟩|⟨g288,q293⟩
   ·rcases sp q293 with ⟨g289,q293⟩|⟨g289,q293⟩
    ·have c290:=eqT g289
     obtain rfl:=oi q293
     refine st ?_
     simp[g288,g289]
     have r294:=zA1 fuel t1.S v286 q287
     try simp[g288,g289] at r294
     refine cP r294 ?_
     simp[g288,g289]
    have c291:=eqF g289
    obtain rfl:=oi q293
    refine st ?_
    simp[g288,g289]
    have r295:=zA1 fuel t1.S v286 q287
    try simp[g288,g289] at r295
    refine cP r295 ?_
    simp[g288,g289]
   obtain rfl:=oi q293
   refine st ?_
   simp[g288]
   have r296:=zA1 fuel t1.S v286 q287
   try simp[g288] at r296
   refine cP r296 ?_
   simp[g288]
  refine zAA<|zAD<|zAB ?_
  cases h
  simp
 have c297:=eqF g284
 refine zAC<|zDA<|zAF<|cutA 199 0 [(4,.bool true)] [t1.d,(zJt.c v3)]<|zAA ?_
 cases h
 simp
theorem zHj(x1:zJv)(c2:Int)(r:Bool)(h:zEP x1 c2=some r):Raw Tryz.prog 225 [.agg x1.d,pT 0] [[iI c2]] (.bool r) [[iI c2]]:=by
 rw[zEP] at h
 refine zAl Tryz.func225 (by rfl) (by rfl) (by simp) (by simp)<|cutA 8 1 [(1,pT 0),(2,pT 1)] [[iI c2],x1.d] ?_
 obtain⟨v3,q4,h⟩:=bs h
 refine cut 8 1 [(3,.bool (!v3))] [[iI c2],x1.d] ?_ ?_
 ·refine st ?_
  simp
  have r5:=zAr c2 x1 v3 q4
  try simp at r5
  refine cP r5 ?_
  simp
 refine zAA ?_
 cases h
 simp
theorem zDz(fuel:Nat)(s1:(List zJv))(c2:Int)(r:Int)(h:zBa fuel s1 c2=some r):Raw Tryz.prog 194 [.sl (s1.map zJv.c),.fn (.func 225) [] [pT 0]] [[iI c2]] (iI r) [[iI c2]]:=by
 rw[zBa] at h
 refine zAl Tryz.func194 (by rfl) (by rfl) (by simp) (by simp)<|cutA 19 1 [(0,.sl (s1.map zJv.c)),(1,.fn (.func 225) [] [pT 0])] [[iI c2]]<|zAE<|cutA 19 1 [(0,.sl (s1.map zJv.c)),(1,.fn (.func 225) [] [pT 0]),(7,iI s1.length),(8,iI 0)] [[iI c2]]<|zAH ?_
 obtain⟨o5,l6,h⟩:=bs h
 refine zCI (fun p:Nat×Nat=>mkS 19 1 [(0,.sl (s1.map zJv.c)),(1,.fn (.func 225) [] [pT 0]),(7,iI s1.length),(8,iI p.2)] [[iI c2]]) (fun p=>zAd s1 c2 p.1 p.2=some o5) (fun p=>p.1) (fuel,0) l6 (zBO (by simp)) ?_
 rintro⟨k7,i3⟩ l6
 try dsimp only at l6 ⊢
 cases k7 with
 |zero=>
  rw[zAd] at l6;cases l6
 |succ k8=>
  rw[zAd] at l6
  refine cutA 19 1 [(0,.sl (s1.map zJv.c)),(1,.fn (.func 225) [] [pT 0]),(7,iI s1.length),(8,iI i3),(9,.bool (ltI i3 s1.length))] [[iI c2]]<|zAE<|spc l6 rfl (fun g9 l6=>?_) fun g9 l6=>?_
  ·have c10:=ltT g9
   refine zE4 0 rfl fun f11=>?_
   rw[zq4] at f11
   refine zAC<|zAF<|zAE<|zAH<|cutA 19 1 [(0,.sl (s1.map zJv.c)),(1,.fn (.func 225) [] [pT 0]),(5,iI i3),(7,iI s1.length),(8,iI i3)] [[iI c2]] ?_
   obtain⟨x12,q13,l6⟩:=bs l6
   obtain⟨v14,q15,l6⟩:=bs l6
   refine cut 19 1 [(0,.sl (s1.map zJv.c)),(1,.fn (.func 225) [] [pT 0]),(5,iI i3),(7,iI s1.length),(8,iI i3),(16,.bool v14)] [[iI c2]] ?_ ?_
   ·refine st ?_
    simp[q13]
    have r18:=(zHj x12 c2 v14 q15).frame [0] [[iI c2]] (by simp)
    try simp[q13] at r18
    refine zAW r18 (by simp[q13]) rfl ?_
    simp[q13]
   refine spc l6 rfl (fun g16 l6=>?_) fun g16 l6=>?_
   ·refine cutA 19 1 [(4,iI i3)] [[iI c2]]<|zAA<|zAD<|zAB ?_
    replace h:=retL l6 h
    refine zAB<|zAD<|zAB ?_
    cases h
    simp
   refine zAC<|zDA<|zAF ?_
   have q17:Rng .i64 (((i3:Nat):Int)+1):=by simp only[Rng,inR];omega
   try simp at q17
   refine last 19 1 [(0,.sl (s1.map zJv.c)),(1,.fn (.func 225) [] [pT 0]),(7,iI s1.length),(8,iI ((i3+1:Nat):Int))] [[iI c2]] (st (by simp[q17])) fun zz hs=>?_
   exact⟨(k8,i3+1),hs,l6,by simp⟩
  have c19:=ltF g9
  refine zE4 0 rfl fun f20=>?_
  rw[zq4] at f20
  refine zBP<|zAU ?_
  rcases o5 with o5|o4
  ·cases l6
  have q21:=Sum.inr.inj (zqa l6)
  replace h:=zEk h
  refine zAU<|zBU<|zCh (t:=mkS 19 1 [] [[iI c2]]) ?_ (zBO (by simp))
  refine cutA 19 1 [(4,iI (-1))] [[iI c2]]<|zAA ?_
  cases h
  simp
theorem zDW(fuel:Nat)(s1:(List zJv))(c2:Int)(r:Bool)(h:zAq fuel s1 c2=some r):Raw Tryz.prog 142 [.sl (s1.map zJv.c),.fn (.func 225) [] [pT 0]] [[iI c2]] (.bool r) [[iI c2]]:=by
 rw[zAq] at h
 refine zAl Tryz.func142 (by rfl) (by rfl) (by simp) (by simp)<|cutA 9 1 [(0,.sl (s1.map zJv.c)),(1,.fn (.func 225) [] [pT 0])] [[iI c2]] ?_
 obtain⟨v3,q4,h⟩:=bs h
 refine cut 9 1 [(4,.bool (leI 0 v3))] [[iI c2]] ?_ ?_
 ·refine st ?_
  simp
  have r5:=(zDz fuel s1 c2 v3 q4).frame [0] [[iI c2]] (by simp)
  try simp at r5
  refine zAW r5 (by simp) rfl ?_
  simp
 refine zAA ?_
 cases h
 simp
theorem zCZ(fuel:Nat)(l1:(List zJv))(cat2:Int)(least3:Int)(most4:Int)(r:Bool)(h:zBc fuel l1 cat2 least3 most4=some r):Pure Tryz.prog 190 [.sl (l1.map zJv.c),iI cat2,iI least3,iI most4] (.bool r):=by
 rw[zBc] at h
 refine zAG Tryz.func190 (by rfl) (by rfl) (by simp) (by simp) (by simp)<|cutA 25 0 [(0,.sl (l1.map zJv.c)),(2,iI least3),(3,iI most4),(5,pT 0)] [[iI cat2]] ?_
 obtain⟨b15,q16,h⟩:=bs h
 refine cut 25 0 [(8,.bool b15)] [[iI cat2]] ?_ ?_
 ·rcases sp q16 with ⟨g5,q16⟩|⟨g5,q16⟩
  ·have c6:=leT g5
   refine zE4 0 rfl fun f7=>?_
   rw[zq4] at f7
   rcases sp q16 with ⟨g8,q16⟩|⟨g8,q16⟩
   ·have c9:=leT g8
    obtain⟨v10,q11,q16⟩:=bs q16
    obtain rfl:=oi q16
    refine st ?_
    simp[g5,g8]
    have r17:=(zDW fuel l1 cat2 v10 q11).frame [0] [[iI cat2]] (by simp)
    try simp[g5,g8] at r17
    refine zAW r17 (by simp[g5,g8]) rfl ?_
    simp[g5,g8]
   have c12:=leF g8
   obtain rfl:=oi q16
   refine st ?_
   simp[g5,g8]
  have c13:=leF g5
  refine zE4 0 rfl fun f14=>?_
  rw[zq4] at f14
  obtain rfl:=oi q16
  refine st ?_
  simp[g5]
 refine zAA ?_
 cases h
 simp
theorem zAe(fuel:Nat)(t1:zJv)(cats2:(List Int))(r:Bool)(h:zAR fuel t1 cats2=some r):Pure Tryz.prog 191 [.agg t1.d,.sl (cats2.map (cI .i64))] (.bool r):=by
 rw[zAR] at h
 refine zAG Tryz.func191 (by rfl) (by rfl) (by simp) (by simp) (by simp)<|cutA 29 0 [(1,.sl (cats2.map (cI .i64))),(2,pT 0)] [t1.d]<|zAE<|cutA 29 0 [(1,.sl (cats2.map (cI .i64))),(2,pT 0),(12,.bool (!(eqI t1.L.length cats2.length)))] [t1.d] ?_
 rcases sp h with ⟨g3,h⟩|⟨g3,h⟩
 ·have g4:=notT g3
  have c5:=eqF g4
  refine zBF rfl g3<|cutA 29 0 [(4,.bool false)] [t1.d]<|zAA<|zAB ?_
  cases h
  simp
 have g6:=notF g3
 have c7:=eqT g6
 refine zHR rfl g3<|zAC<|zAF<|zAE<|cutA 29 0 [(2,pT 0),(13,.sl (cats2.map (cI .i64))),(14,iI cats2.length),(15,iI 0)] [t1.d]<|zAH ?_
 obtain⟨o10,l11,h⟩:=bs h
 refine zCI (fun p:Nat×Nat=>mkS 29 0 [(2,pT 0),(13,.sl (cats2.map (cI .i64))),(14,iI cats2.length),(15,iI p.2)] [t1.d]) (fun p=>zB4 t1 cats2 p.1 p.2=some o10) (fun p=>p.1) (fuel,0) l11 (zBO (by simp)) ?_
 rintro⟨k12,i8⟩ l11
 try dsimp only at l11 ⊢
 cases k12 with
 |zero=>
  rw[zB4] at l11;cases l11
 |succ k13=>
  rw[zB4] at l11
  refine cutA 29 0 [(2,pT 0),(13,.sl (cats2.map (cI .i64))),(14,iI cats2.length),(15,iI i8),(16,.bool (ltI i8 cats2.length))] [t1.d]<|zAE<|spc l11 rfl (fun g14 l11=>?_) fun g14 l11=>?_
  ·have c15:=ltT g14
   refine zE4 13 rfl fun f16=>?_
   rw[zq4] at f16
   refine zAC<|zAF<|zAE<|zAH ?_
   obtain⟨x17,q18,l11⟩:=bs l11
   refine cut 29 0 [(2,pT 0),(5,iI i8),(6,iI x17),(13,.sl (cats2.map (cI .i64))),(14,iI cats2.length),(15,iI i8)] [t1.d] (st (by simp[q18])) ?_
   obtain⟨x19,q20,l11⟩:=bs l11
   obtain⟨v21,q22,l11⟩:=bs l11
   refine cut 29 0 [(2,pT 0),(13,.sl (cats2.map (cI .i64))),(14,iI cats2.length),(15,iI i8),(27,.bool (!v21))] [t1.d] ?_ ?_
   ·refine st ?_
    simp[q20]
    have r27:=zAr x17 x19 v21 q22
    try simp[q20] at r27
    refine cP r27 ?_
    simp[q20]
   refine spc l11 rfl (fun g23 l11=>?_) fun g23 l11=>?_
   ·have g24:=notT g23
    refine cutA 29 0 [(4,.bool false)] [t1.d]<|zAA<|zAD<|zAB ?_
    replace h:=retL l11 h
    refine zAB<|zAD<|zAB ?_
    cases h
    simp
   have g25:=notF g23
   refine zAC<|zDA<|zAF ?_
   have q26:Rng .i64 (((i8:Nat):Int)+1):=by simp only[Rng,inR];omega
   try simp at q26
   refine last 29 0 [(2,pT 0),(13,.sl (cats2.map (cI .i64))),(14,iI cats2.length),(15,iI ((i8+1:Nat):Int))] [t1.d] (st (by simp[q26])) fun zz hs=>?_
   exact⟨(k13,i8+1),hs,l11,by simp⟩
  have c28:=ltF g14
  refine zE4 13 rfl fun f29=>?_
  rw[zq4] at f29
  refine zBP<|zAU ?_
  rcases o10 with o10|o9
  ·cases l11
  have q30:=Sum.inr.inj (zqa l11)
  replace h:=zEk h
  refine zAU<|zBU<|zCh (t:=mkS 29 0 [] [t1.d]) ?_ (zBO (by simp))
  refine cutA 29 0 [(4,.bool true)] [t1.d]<|zAA ?_
  cases h
  simp
theorem zGU(fuel:Nat)(s1:(List Int))(v2:Int)(r:Int)(h:zDP fuel s1 v2=some r):Pure Tryz.prog 242 [.sl (s1.map (cI .i64)),iI v2] (iI r):=by
 rw[zDP] at h
 refine zAG Tryz.func242 (by rfl) (by rfl) (by simp) (by simp) (by simp)<|cutA 19 0 [(0,.sl (s1.map (cI .i64))),(1,iI v2)] []<|zAE<|cutA 19 0 [(0,.sl (s1.map (cI .i64))),(1,iI v2),(7,iI s1.length),(8,iI 0)] []<|zAH ?_
 obtain⟨o5,l6,h⟩:=bs h
 refine zCI (fun p:Nat×Nat=>mkS 19 0 [(0,.sl (s1.map (cI .i64))),(1,iI v2),(7,iI s1.length),(8,iI p.2)] []) (fun p=>zBm s1 v2 p.1 p.2=some o5) (fun p=>p.1) (fuel,0) l6 (zBO (by simp)) ?_
 rintro⟨k7,i3⟩ l6
 try dsimp only at l6 ⊢
 cases k7 with
 |zero=>
  rw[zBm] at l6;cases l6
 |succ k8=>
  rw[zBm] at l6
  refine cutA 19 0 [(0,.sl (s1.map (cI .i64))),(1,iI v2),(7,iI s1.length),(8,iI i3),(9,.bool (ltI i3 s1.length))] []<|zAE<|spc l6 rfl (fun g9 l6=>?_) fun g9 l6=>?_
  ·have c10:=ltT g9
   refine zE4 0 rfl fun f11=>?_
   rw[zq4] at f11
   refine zAC<|zAF<|zAE<|zAH<|cutA 19 0 [(0,.sl (s1.map (cI .i64))),(1,iI v2),(5,iI i3),(7,iI s1.length),(8,iI i3)] [] ?_
   obtain⟨x12,q13,l6⟩:=bs l6
   refine cut 19 0 [(0,.sl (s1.map (cI .i64))),(1,iI v2),(5,iI i3),(7,iI s1.length),(8,iI i3),(16,.bool (eqI v2 x12))] [] (st (by simp[q13]))<|spc l6 rfl (fun g14 l6=>?_) fun g14 l6=>?_
   ·have c15:=eqT g14
    refine cutA 19 0 [(4,iI i3)] []<|zAA<|zAD<|zAB ?_
    replace h:=retL l6 h
    refine zAB<|zAD<|zAB ?_
    cases h
    simp
   have c16:=eqF g14
   refine zAC<|zDA<|zAF ?_
   have q17:Rng .i64 (((i3:Nat):Int)+1):=by simp only[Rng,inR];omega
   try simp at q17
   refine last 19 0 [(0,.sl (s1.map (cI .i64))),(1,iI v2),(7,iI s1.length),(8,iI ((i3+1:Nat):Int))] [] (st (by simp[q17])) fun zz hs=>?_
   exact⟨(k8,i3+1),hs,l6,by simp⟩
  have c18:=ltF g9
  refine zE4 0 rfl fun f19=>?_
  rw[zq4] at f19
  refine zBP<|zAU ?_
  rcases o5 with o5|o4
  ·cases l6
  have q20:=Sum.inr.inj (zqa l6)
  replace h:=zEk h
  refine zAU<|zBU<|zCh (t:=mkS 19 0 [] []) ?_ (zBO (by simp))
  refine cutA 19 0 [(4,iI (-1))] []<|zAA ?_
  cases h
  simp
theorem zFX(fuel:Nat)(s1:(List Int))(v2:Int)(r:Bool)(h:zB2 fuel s1 v2=some r):Pure Tryz.prog 227 [.sl (s1.map (cI .i64)),iI v2] (.bool r):=by
 rw[zB2] at h
 refine zAG Tryz.func227 (by rfl) (by rfl) (by simp) (by simp) (by simp)<|cutA 9 0 [(0,.sl (s1.map (cI .i64))),(1,iI v2)] [] ?_
 obtain⟨v3,q4,h⟩:=bs h
 refine cut 9 0 [(4,.bool (leI 0 v3))] [] ?_ ?_
 ·refine st ?_
  simp
  have r5:=zGU fuel s1 v2 v3 q4
  try simp at r5
  refine cP r5 ?_
  simp
 refine zAA ?_
 cases h
 simp
theorem zHi(fuel:Nat)(x1:zJv)(c2:(List Int))(r:Bool)(h:zDX fuel x1 c2=some r):Raw Tryz.prog 226 [.agg x1.d,pT 0] [[.sl (c2.map (cI .i64))]] (.bool r) [[.sl (c2.map (cI .i64))]]:=by
 rw[zDX] at h
 refine zAl Tryz.func226 (by rfl) (by rfl) (by simp) (by simp)<|cutA 9 1 [(1,pT 0),(2,pT 1)] [[.sl (c2.map (cI .i64))],x1.d] ?_
 obtain⟨v3,q4,h⟩:=bs h
 refine cut 9 1 [(3,.bool (!v3))] [[.sl (c2.map (cI .i64))],x1.d] ?_ ?_
 ·refine st ?_
  simp
  have r5:=zFX fuel c2 x1.Op v3 q4
  try simp at r5
  refine cP r5 ?_
  simp
 refine zAA ?_
 cases h
 simp
theorem zDy(fuel:Nat)(s1:(List zJv))(c2:(List Int))(r:Int)(h:zBZ fuel s1 c2=some r):Raw Tryz.prog 194 [.sl (s1.map zJv.c),.fn (.func 226) [] [pT 0]] [[.sl (c2.map (cI .i64))]] (iI r) [[.sl (c2.map (cI .i64))]]:=by
 rw[zBZ] at h
 refine zAl Tryz.func194 (by rfl) (by rfl) (by simp) (by simp)<|cutA 19 1 [(0,.sl (s1.map zJv.c)),(1,.fn (.func 226) [] [pT 0])] [[.sl (c2.map (cI .i64))]]<|zAE<|cutA 19 1 [(0,.sl (s1.map zJv.c)),(1,.fn (.func 226) [] [pT 0]),(7,iI s1.length),(8,iI 0)] [[.sl (c2.map (cI .i64))]]<|zAH ?_
 obtain⟨o5,l6,h⟩:=bs h
 refine zCI (fun p:Nat×Nat=>mkS 19 1 [(0,.sl (s1.map zJv.c)),(1,.fn (.func 226) [] [pT 0]),(7,iI s1.length),(8,iI p.2)] [[.sl (c2.map (cI .i64))]]) (fun p=>zAc fuel s1 c2 p.1 p.2=some o5) (fun p=>p.1) (fuel,0) l6 (zBO (by simp)) ?_
 rintro⟨k7,i3⟩ l6
 try dsimp only at l6 ⊢
 cases k7 with
 |zero=>
  rw[zAc] at l6;cases l6
 |succ k8=>
  rw[zAc] at l6
  refine cutA 19 1 [(0,.sl (s1.map zJv.c)),(1,.fn (.func 226) [] [pT 0]),(7,iI s1.length),(8,iI i3),(9,.bool (ltI i3 s1.length))] [[.sl (c2.map (cI .i64))]]<|zAE<|spc l6 rfl (fun g9 l6=>?_) fun g9 l6=>?_
  ·have c10:=ltT g9
   refine zE4 0 rfl fun f11=>?_
   rw[zq4] at f11
   refine zAC<|zAF<|zAE<|zAH<|cutA 19 1 [(0,.sl (s1.map zJv.c)),(1,.fn (.func 226) [] [pT 0]),(5,iI i3),(7,iI s1.length),(8,iI i3)] [[.sl (c2.map (cI .i64))]] ?_
   obtain⟨x12,q13,l6⟩:=bs l6
   obtain⟨v14,q15,l6⟩:=bs l6
   refine cut 19 1 [(0,.sl (s1.map zJv.c)),(1,.fn (.func 226) [] [pT 0]),(5,iI i3),(7,iI s1.length),(8,iI i3),(16,.bool v14)] [[.sl (c2.map (cI .i64))]] ?_ ?_
   ·refine st ?_
    simp[q13]
    have r18:=(zHi fuel x12 c2 v14 q15).frame [0] [[.sl (c2.map (cI .i64))]] (by simp)
    try simp[q13] at r18
    refine zAW r18 (by simp[q13]) rfl ?_
    simp[q13]
   refine spc l6 rfl (fun g16 l6=>?_) fun g16 l6=>?_
   ·refine cutA 19 1 [(4,iI i3)] [[.sl (c2.map (cI .i64))]]<|zAA<|zAD<|zAB ?_
    replace h:=retL l6 h
    refine zAB<|zAD<|zAB ?_
    cases h
    simp
   refine zAC<|zDA<|zAF ?_
   have q17:Rng .i64 (((i3:Nat):Int)+1):=by simp only[Rng,inR];omega
   try simp at q17
   refine last 19 1 [(0,.sl (s1.map zJv.c)),(1,.fn (.func 226) [] [pT 0]),(7,iI s1.length),(8,iI ((i3+1:Nat):Int))] [[.sl (c2.map (cI .i64))]] (st (by simp[q17])) fun zz hs=>?_
   exact⟨(k8,i3+1),hs,l6,by simp⟩
  have c19:=ltF g9
  refine zE4 0 rfl fun f20=>?_
  rw[zq4] at f20
  refine zBP<|zAU ?_
  rcases o5 with o5|o4
  ·cases l6
  have q21:=Sum.inr.inj (zqa l6)
  replace h:=zEk h
  refine zAU<|zBU<|zCh (t:=mkS 19 1 [] [[.sl (c2.map (cI .i64))]]) ?_ (zBO (by simp))
  refine cutA 19 1 [(4,iI (-1))] [[.sl (c2.map (cI .i64))]]<|zAA ?_
  cases h
  simp
theorem zDV(fuel:Nat)(s1:(List zJv))(c2:(List Int))(r:Bool)(h:zA4 fuel s1 c2=some r):Raw Tryz.prog 142 [.sl (s1.map zJv.c),.fn (.func 226) [] [pT 0]] [[.sl (c2.map (cI .i64))]] (.bool r) [[.sl (c2.map (cI .i64))]]:=by
 rw[zA4] at h
 refine zAl Tryz.func142 (by rfl) (by rfl) (by simp) (by simp)<|cutA 9 1 [(0,.sl (s1.map zJv.c)),(1,.fn (.func 226) [] [pT 0])] [[.sl (c2.map (cI .i64))]] ?_
 obtain⟨v3,q4,h⟩:=bs h
 refine cut 9 1 [(4,.bool (leI 0 v3))] [[.sl (c2.map (cI .i64))]] ?_ ?_
 ·refine st ?_
  simp
  have r5:=(zDy fuel s1 c2 v3 q4).frame [0] [[.sl (c2.map (cI .i64))]] (by simp)
  try simp at r5
  refine zAW r5 (by simp) rfl ?_
  simp
 refine zAA ?_
 cases h
 simp
theorem zCJ(fuel:Nat)(l1:(List zJv))(ops2:(List Int))(r:Bool)(h:zBv fuel l1 ops2=some r):Pure Tryz.prog 192 [.sl (l1.map zJv.c),.sl (ops2.map (cI .i64))] (.bool r):=by
 rw[zBv] at h
 refine zAG Tryz.func192 (by rfl) (by rfl) (by simp) (by simp) (by simp)<|cutA 9 0 [(0,.sl (l1.map zJv.c)),(3,pT 0)] [[.sl (ops2.map (cI .i64))]] ?_
 obtain⟨v3,q4,h⟩:=bs h
 refine cut 9 0 [(4,.bool (!v3))] [[.sl (ops2.map (cI .i64))]] ?_ ?_
 ·refine st ?_
  simp
  have r5:=(zDV fuel l1 ops2 v3 q4).frame [0] [[.sl (ops2.map (cI .i64))]] (by simp)
  try simp at r5
  refine zAW r5 (by simp) rfl ?_
  simp
 refine zAA ?_
 cases h
 simp
theorem zGr(y1:zJv)(w2:zJv)(r:Bool)(h:zDf y1 w2=some r):Raw Tryz.prog 228 [.agg y1.d,pT 0] [w2.d] (.bool r) [w2.d]:=by
 rw[zDf] at h
 refine zAl Tryz.func228 (by rfl) (by rfl) (by simp) (by simp)<|cutA 9 1 [(1,pT 0),(2,pT 1)] [w2.d,y1.d]<|cutA 9 1 [(3,.bool (eqS w2.S y1.S))] [w2.d,y1.d]<|zAA ?_
 cases h
 simp
theorem zDh(fuel:Nat)(s1:(List zJv))(w2:zJv)(r:Int)(h:zBQ fuel s1 w2=some r):Raw Tryz.prog 194 [.sl (s1.map zJv.c),.fn (.func 228) [] [pT 0]] [w2.d] (iI r) [w2.d]:=by
 rw[zBQ] at h
 refine zAl Tryz.func194 (by rfl) (by rfl) (by simp) (by simp)<|cutA 19 1 [(0,.sl (s1.map zJv.c)),(1,.fn (.func 228) [] [pT 0])] [w2.d]<|zAE<|cutA 19 1 [(0,.sl (s1.map zJv.c)),(1,.fn (.func 228) [] [pT 0]),(7,iI s1.length),(8,iI 0)] [w2.d]<|zAH ?_
 obtain⟨o5,l6,h⟩:=bs h
 refine zCI (fun p:Nat×Nat=>mkS 19 1 [(0,.sl (s1.map zJv.c)),(1,.fn (.func 228) [] [pT 0]),(7,iI s1.length),(8,iI p.2)] [w2.d]) (fun p=>zAX s1 w2 p.1 p.2=some o5) (fun p=>p.1) (fuel,0) l6 (zBO (by simp)) ?_
 rintro⟨k7,i3⟩ l6
 try dsimp only at l6 ⊢
 cases k7 with
 |zero=>
  rw[zAX] at l6;cases l6
 |succ k8=>
  rw[zAX] at l6
  refine cutA 19 1 [(0,.sl (s1.map zJv.c)),(1,.fn (.func 228) [] [pT 0]),(7,iI s1.length),(8,iI i3),(9,.bool (ltI i3 s1.length))] [w2.d]<|zAE<|spc l6 rfl (fun g9 l6=>?_) fun g9 l6=>?_
  ·have c10:=ltT g9
   refine zE4 0 rfl fun f11=>?_
   rw[zq4] at f11
   refine zAC<|zAF<|zAE<|zAH<|cutA 19 1 [(0,.sl (s1.map zJv.c)),(1,.fn (.func 228) [] [pT 0]),(5,iI i3),(7,iI s1.length),(8,iI i3)] [w2.d] ?_
   obtain⟨x12,q13,l6⟩:=bs l6
   obtain⟨v14,q15,l6⟩:=bs l6
   refine cut 19 1 [(0,.sl (s1.map zJv.c)),(1,.fn (.func 228) [] [pT 0]),(5,iI i3),(7,iI s1.length),(8,iI i3),(16,.bool v14)] [w2.d] ?_ ?_
   ·refine st ?_
    simp[q13]
    have r18:=(zGr x12 w2 v14 q15).frame [0] [w2.d] (by simp)
    try simp[q13] at r18
    refine zAW r18 (by simp[q13]) rfl ?_
    simp[q13]
   refine spc l6 rfl (fun g16 l6=>?_) fun g16 l6=>?_
   ·refine cutA 19 1 [(4,iI i3)] [w2.d]<|zAA<|zAD<|zAB ?_
    replace h:=retL l6 h
    refine zAB<|zAD<|zAB ?_
    cases h
    simp
   refine zAC<|zDA<|zAF ?_
   have q17:Rng .i64 (((i3:Nat):Int)+1):=by simp only[Rng,inR];omega
   try simp at q17
   refine last 19 1 [(0,.sl (s1.map zJv.c)),(1,.fn (.func 228) [] [pT 0]),(7,iI s1.length),(8,iI ((i3+1:Nat):Int))] [w2.d] (st (by simp[q17])) fun zz hs=>?_
   exact⟨(k8,i3+1),hs,l6,by simp⟩
  have c19:=ltF g9
  refine zE4 0 rfl fun f20=>?_
  rw[zq4] at f20
  refine zBP<|zAU ?_
  rcases o5 with o5|o4
  ·cases l6
  have q21:=Sum.inr.inj (zqa l6)
  replace h:=zEk h
  refine zAU<|zBU<|zCh (t:=mkS 19 1 [] [w2.d]) ?_ (zBO (by simp))
  refine cutA 19 1 [(4,iI (-1))] [w2.d]<|zAA ?_
  cases h
  simp
theorem zDN(fuel:Nat)(s1:(List zJv))(w2:zJv)(r:Bool)(h:zAY fuel s1 w2=some r):Raw Tryz.prog 142 [.sl (s1.map zJv.c),.fn (.func 228) [] [pT 0]] [w2.d] (.bool r) [w2.d]:=by
 rw[zAY] at h
 refine zAl Tryz.func142 (by rfl) (by rfl) (by simp) (by simp)<|cutA 9 1 [(0,.sl (s1.map zJv.c)),(1,.fn (.func 228) [] [pT 0])] [w2.d] ?_
 obtain⟨v3,q4,h⟩:=bs h
 refine cut 9 1 [(4,.bool (leI 0 v3))] [w2.d] ?_ ?_
 ·refine st ?_
  simp
  have r5:=(zDh fuel s1 w2 v3 q4).frame [0] [w2.d] (by simp)
  try simp at r5
  refine zAW r5 (by simp) rfl ?_
  simp
 refine zAA ?_
 cases h
 simp
theorem zHm(fuel:Nat)(l1:(List zJv))(r:Bool)(h:zDZ fuel l1=some r):Pure Tryz.prog 193 [.sl (l1.map zJv.c)] (.bool r):=by
 rw[zDZ] at h
 refine zAG Tryz.func193 (by rfl) (by rfl) (by simp) (by simp) (by simp)<|cutA 18 0 [(0,.sl (l1.map zJv.c))] []<|zAE<|cutA 18 0 [(0,.sl (l1.map zJv.c)),(5,.sl (l1.map zJv.c)),(6,iI l1.length),(7,iI 0)] []<|zAH ?_
 obtain⟨o4,l5,h⟩:=bs h
 refine zCI (fun p:Nat×Nat=>mkS 18 0 [(0,.sl (l1.map zJv.c)),(5,.sl (l1.map zJv.c)),(6,iI l1.length),(7,iI p.2)] []) (fun p=>zCG fuel l1 p.1 p.2=some o4) (fun p=>p.1) (fuel,0) l5 (zBO (by simp)) ?_
 rintro⟨k6,i2⟩ l5
 try dsimp only at l5 ⊢
 cases k6 with
 |zero=>
  rw[zCG] at l5;cases l5
 |succ k7=>
  rw[zCG] at l5
  refine cutA 18 0 [(0,.sl (l1.map zJv.c)),(5,.sl (l1.map zJv.c)),(6,iI l1.length),(7,iI i2),(8,.bool (ltI i2 l1.length))] []<|zAE<|spc l5 rfl (fun g8 l5=>?_) fun g8 l5=>?_
  ·have c9:=ltT g8
   refine zE4 0 rfl fun f10=>?_
   rw[zq4] at f10
   refine zAC<|zAF<|zAE<|zAH ?_
   obtain⟨x11,q12,l5⟩:=bs l5
   refine cut 18 0 [(0,.sl (l1.map zJv.c)),(3,iI i2),(4,pT 0),(5,.sl (l1.map zJv.c)),(6,iI l1.length),(7,iI i2)] [x11.d] (st (by simp[q12])) ?_
   obtain⟨l13,q14,l5⟩:=bs l5
   obtain⟨q15,q16⟩:=zDn q14
   try simp at q15
   try simp at q16
   obtain⟨v17,q18,l5⟩:=bs l5
   refine cut 18 0 [(0,.sl (l1.map zJv.c)),(5,.sl (l1.map zJv.c)),(6,iI l1.length),(7,iI i2),(16,.bool v17)] [x11.d] ?_ ?_
   ·refine st ?_
    simp[q15,q16]
    have r21:=(zDN fuel l13 x11 v17 q18).frame [0] [x11.d] (by simp)
    try simp[q15,q16] at r21
    refine zAW r21 (by simp[q15,q16]) rfl ?_
    simp[q15,q16]
   refine spc l5 rfl (fun g19 l5=>?_) fun g19 l5=>?_
   ·refine cutA 18 0 [(2,.bool false)] [x11.d]<|zAA<|zAD<|zAB ?_
    replace h:=retL l5 h
    refine zAB<|zAD<|zAB ?_
    cases h
    simp
   refine zAC<|zDA<|zAF ?_
   have q20:Rng .i64 (((i2:Nat):Int)+1):=by simp only[Rng,inR];omega
   try simp at q20
   refine last 18 0 [(0,.sl (l1.map zJv.c)),(5,.sl (l1.map zJv.c)),(6,iI l1.length),(7,iI ((i2+1:Nat):Int))] [] (st (by simp[q20])) fun zz hs=>?_
   exact⟨(k7,i2+1),hs,l5,by simp⟩
  have c22:=ltF g8
  refine zE4 0 rfl fun f23=>?_
  rw[zq4] at f23
  refine zBP<|zAU ?_
  rcases o4 with o4|o3
  ·cases l5
  have q24:=Sum.inr.inj (zqa l5)
  replace h:=zEk h
  refine zAU<|zBU<|zCh (t:=mkS 18 0 [] []) ?_ (zBO (by simp))
  refine cutA 18 0 [(2,.bool true)] []<|zAA ?_
  cases h
  simp
theorem zIW(fuel:Nat)(t1:zJv)(r:Bool)(h:zB0 fuel t1=some r):Pure Tryz.prog 141 [.agg t1.d] (.bool r):=by
 rw[zB0] at h
 refine zAG Tryz.func141 (by rfl) (by rfl) (by simp) (by simp) (by simp)<|cutA 302 0 [(1,pT 0)] [t1.d]<|cutA 302 0 [(1,pT 0),(3,iI t1.L.length)] [t1.d]<|zAE<|cutA 302 0 [(1,pT 0),(3,iI t1.L.length),(8,iI t1.Op)] [t1.d]<|zAH<|zAE ?_
 refine cutA 302 0 [(1,pT 0),(3,iI t1.L.length),(8,iI t1.Op),(9,.bool (eqI t1.Op 1))] [t1.d]<|spc h rfl (fun g2 h=>?_) fun g2 h=>?_
 ·refine zAC<|zAF<|zBF rfl (by simp[g2])<|cutA 302 0 [(2,.bool (eqI t1.L.length 0))] [t1.d]<|zAA<|zAD<|zAB ?_
  cases h
  simp
 refine cutA 302 0 [(1,pT 0),(3,iI t1.L.length),(8,iI t1.Op),(9,.bool (eqI t1.Op 5))] [t1.d]<|spc h rfl (fun g5 h=>?_) fun g5 h=>?_
 ·refine zAC<|zAF<|zBF rfl (by simp[g5])<|cutA 302 0 [(2,.bool (eqI t1.L.length 0))] [t1.d]<|zAA<|zAD<|zAB ?_
  cases h
  simp
 refine cutA 302 0 [(1,pT 0),(3,iI t1.L.length),(8,iI t1.Op),(9,.bool (eqI t1.Op 11))] [t1.d]<|spc h rfl (fun g8 h=>?_) fun g8 h=>?_
 ·refine zAC<|zAF<|zBF rfl (by simp[g8])<|cutA 302 0 [(2,.bool (eqI t1.L.length 0))] [t1.d]<|zAA<|zAD<|zAB ?_
  cases h
  simp
 refine cutA 302 0 [(1,pT 0),(3,iI t1.L.length),(8,iI t1.Op),(9,.bool (eqI t1.Op 12))] [t1.d]<|spc h rfl (fun g11 h=>?_) fun g11 h=>?_
 ·refine zAC<|zAF<|zBF rfl (by simp[g11])<|cutA 302 0 [(2,.bool (eqI t1.L.length 0))] [t1.d]<|zAA<|zAD<|zAB ?_
  cases h
  simp
 refine cutA 302 0 [(1,pT 0),(3,iI t1.L.length),(8,iI t1.Op),(9,.bool (eqI t1.Op 13))] [t1.d]<|spc h rfl (fun g14 h=>?_) fun g14 h=>?_
 ·refine zAC<|zAF<|zBF rfl (by simp[g14])<|cutA 302 0 [(2,.bool (eqI t1.L.length 0))] [t1.d]<|zAA<|zAD<|zAB ?_
  cases h
  simp
 refine cutA 302 0 [(1,pT 0),(3,iI t1.L.length),(8,iI t1.Op),(9,.bool (eqI t1.Op 21))] [t1.d]<|spc h rfl (fun g17 h=>?_) fun g17 h=>?_
 ·refine zAC<|zAF<|zBF rfl (by simp[g17])<|cutA 302 0 [(2,.bool (eqI t1.L.length 0))] [t1.d]<|zAA<|zAD<|zAB ?_
  cases h
  simp
 refine cutA 302 0 [(1,pT 0),(3,iI t1.L.length),(8,iI t1.Op),(9,.bool (eqI t1.Op 22))] [t1.d]<|spc h rfl (fun g20 h=>?_) fun g20 h=>?_
 ·refine zAC<|zAF<|zBF rfl (by simp[g20])<|cutA 302 0 [(2,.bool (eqI t1.L.length 0))] [t1.d]<|zAA<|zAD<|zAB ?_
  cases h
  simp
 refine cutA 302 0 [(1,pT 0),(3,iI t1.L.length),(8,iI t1.Op),(9,.bool (eqI t1.Op 23))] [t1.d]<|spc h rfl (fun g23 h=>?_) fun g23 h=>?_
 ·refine zAC<|zAF<|zBF rfl (by simp[g23])<|cutA 302 0 [(2,.bool (eqI t1.L.length 0))] [t1.d]<|zAA<|zAD<|zAB ?_
  cases h
  simp
 refine cutA 302 0 [(1,pT 0),(3,iI t1.L.length),(8,iI t1.Op),(9,.bool (eqI t1.Op 24))] [t1.d]<|spc h rfl (fun g26 h=>?_) fun g26 h=>?_
 ·refine zAC<|zAF<|zBF rfl (by simp[g26])<|cutA 302 0 [(2,.bool (eqI t1.L.length 0))] [t1.d]<|zAA<|zAD<|zAB ?_
  cases h
  simp
 refine cutA 302 0 [(1,pT 0),(3,iI t1.L.length),(8,iI t1.Op),(9,.bool (eqI t1.Op 48))] [t1.d]<|spc h rfl (fun g29 h=>?_) fun g29 h=>?_
 ·refine zAC<|zAF<|zBF rfl (by simp[g29])<|cutA 302 0 [(2,.bool (eqI t1.L.length 0))] [t1.d]<|zAA<|zAD<|zAB ?_
  cases h
  simp
 refine cutA 302 0 [(1,pT 0),(3,iI t1.L.length),(8,iI t1.Op),(9,.bool (eqI t1.Op 49))] [t1.d]<|spc h rfl (fun g32 h=>?_) fun g32 h=>?_
 ·refine zAC<|zAF<|zBF rfl (by simp[g32])<|cutA 302 0 [(2,.bool (eqI t1.L.length 0))] [t1.d]<|zAA<|zAD<|zAB ?_
  cases h
  simp
 refine cutA 302 0 [(1,pT 0),(3,iI t1.L.length),(8,iI t1.Op),(9,.bool (eqI t1.Op 62))] [t1.d]<|spc h rfl (fun g35 h=>?_) fun g35 h=>?_
 ·refine zAC<|zAF<|zBF rfl (by simp[g35])<|cutA 302 0 [(2,.bool (eqI t1.L.length 0))] [t1.d]<|zAA<|zAD<|zAB ?_
  cases h
  simp
 refine cutA 302 0 [(1,pT 0),(3,iI t1.L.length),(8,iI t1.Op),(9,.bool (eqI t1.Op 72))] [t1.d]<|spc h rfl (fun g38 h=>?_) fun g38 h=>?_
 ·refine zAC<|zAF<|zBF rfl (by simp[g38])<|cutA 302 0 [(2,.bool (eqI t1.L.length 0))] [t1.d]<|zAA<|zAD<|zAB ?_
  cases h
  simp
 refine zG1 302 0 [(1,pT 0),(3,iI t1.L.length),(8,iI t1.Op),(9,.bool (eqI t1.Op 82))] [t1.d]<|spc h rfl (fun g41 h=>?_) fun g41 h=>?_
 ·have c42:=eqT g41
  refine cutA 302 0 [(2,.bool (eqI t1.L.length 0))] [t1.d]<|zAA<|zAD<|zAB ?_
  cases h
  simp
 have c43:=eqF g41
 refine cutA 302 0 [(1,pT 0),(3,iI t1.L.length),(8,iI t1.Op),(26,.bool (eqI t1.Op 2))] [t1.d]<|spc h rfl (fun g44 h=>?_) fun g44 h=>?_
 ·obtain⟨v46,q47,h⟩:=bs h
  refine cut 302 0 [(2,.bool v46)] [t1.d] ?_ ?_
  ·refine st ?_
   simp
   have r48:=zCZ fuel t1.L 1 0 4 v46 q47
   try simp at r48
   refine cP r48 ?_
   simp
  refine zAA<|zAD<|zAB ?_
  cases h
  simp
 refine cutA 302 0 [(1,pT 0),(3,iI t1.L.length),(8,iI t1.Op),(31,.bool (eqI t1.Op 3))] [t1.d]<|spc h rfl (fun g50 h=>?_) fun g50 h=>?_
 ·obtain⟨l52,q53,h⟩:=bs h
  obtain⟨q54,q55⟩:=zG0 q53
  obtain⟨v56,q57,h⟩:=bs h
  refine cut 302 0 [(2,.bool v56)] [t1.d] ?_ ?_
  ·refine st ?_
   simp[q54,q55]
   have r58:=zAe fuel t1 l52 v56 q57
   try simp[q54,q55] at r58
   refine cP r58 ?_
   simp[q54,q55]
  refine zAA<|zAD<|zAB ?_
  cases h
  simp
 refine cutA 302 0 [(1,pT 0),(3,iI t1.L.length),(8,iI t1.Op),(36,.bool (eqI t1.Op 4))] [t1.d]<|spc h rfl (fun g60 h=>?_) fun g60 h=>?_
 ·obtain⟨v62,q63,h⟩:=bs h
  refine cut 302 0 [(2,.bool v62)] [t1.d] ?_ ?_
  ·refine st ?_
   simp
   have r64:=zCZ fuel t1.L 1 2 9 v62 q63
   try simp at r64
   refine cP r64 ?_
   simp
  refine zAA<|zAD<|zAB ?_
  cases h
  simp
 refine cutA 302 0 [(1,pT 0),(3,iI t1.L.length),(8,iI t1.Op),(41,.bool (eqI t1.Op 14))] [t1.d]<|spc h rfl (fun g66 h=>?_) fun g66 h=>?_
 ·obtain⟨v68,q69,h⟩:=bs h
  refine cut 302 0 [(2,.bool v68)] [t1.d] ?_ ?_
  ·refine st ?_
   simp
   have r70:=zCZ fuel t1.L 2 0 1 v68 q69
   try simp at r70
   refine cP r70 ?_
   simp
  refine zAA<|zAD<|zAB ?_
  cases h
  simp
 refine cutA 302 0 [(1,pT 0),(3,iI t1.L.length),(8,iI t1.Op),(46,.bool (eqI t1.Op 15))] [t1.d]<|spc h rfl (fun g72 h=>?_) fun g72 h=>?_
 ·obtain⟨b81,q82,h⟩:=bs h
  refine cut 302 0 [(2,.bool b81)] [t1.d] ?_ ?_
  ·rcases sp q82 with ⟨g74,q82⟩|⟨g74,q82⟩
   ·have g75:=notT g74
    have c76:=eqF g75
    obtain⟨v77,q78,q82⟩:=bs q82
    obtain rfl:=oi q82
    refine st ?_
    simp[g74]
    have r83:=zCZ fuel t1.L 2 0 9 v77 q78
    try simp[g74] at r83
    refine cP r83 ?_
    simp[g74]
   have g79:=notF g74
   have c80:=eqT g79
   obtain rfl:=oi q82
   refine st ?_
   simp[g74]
  refine zAA<|zAD<|zAB ?_
  cases h
  simp
 refine zAE<|cutA 302 0 [(1,pT 0),(3,iI t1.L.length),(8,iI t1.Op),(55,.bool (eqI t1.Op 25))] [t1.d]<|spc h rfl (fun g85 h=>?_) fun g85 h=>?_
 ·refine zAC<|zAF<|zBF rfl (by simp[g85]) ?_
  obtain⟨v87,q88,h⟩:=bs h
  refine cut 302 0 [(2,.bool v87)] [t1.d] ?_ ?_
  ·refine st ?_
   simp
   have r89:=zAe fuel t1 [3] v87 q88
   try simp at r89
   refine cP r89 ?_
   simp
  refine zAA<|zAD<|zAB ?_
  cases h
  simp
 refine cutA 302 0 [(1,pT 0),(3,iI t1.L.length),(8,iI t1.Op),(55,.bool (eqI t1.Op 41))] [t1.d]<|spc h rfl (fun g91 h=>?_) fun g91 h=>?_
 ·refine zAC<|zAF<|zBF rfl (by simp[g91]) ?_
  obtain⟨v93,q94,h⟩:=bs h
  refine cut 302 0 [(2,.bool v93)] [t1.d] ?_ ?_
  ·refine st ?_
   simp
   have r95:=zAe fuel t1 [3] v93 q94
   try simp at r95
   refine cP r95 ?_
   simp
  refine zAA<|zAD<|zAB ?_
  cases h
  simp
 refine zG1 302 0 [(1,pT 0),(3,iI t1.L.length),(8,iI t1.Op),(55,.bool (eqI t1.Op 42))] [t1.d]<|spc h rfl (fun g97 h=>?_) fun g97 h=>?_
 ·have c98:=eqT g97
  obtain⟨v99,q100,h⟩:=bs h
  refine cut 302 0 [(2,.bool v99)] [t1.d] ?_ ?_
  ·refine st ?_
   simp
   have r101:=zAe fuel t1 [3] v99 q100
   try simp at r101
   refine cP r101 ?_
   simp
  refine zAA<|zAD<|zAB ?_
  cases h
  simp
 have c102:=eqF g97
 refine cutA 302 0 [(1,pT 0),(3,iI t1.L.length),(8,iI t1.Op),(62,.bool (eqI t1.Op 26))] [t1.d]<|spc h rfl (fun g103 h=>?_) fun g103 h=>?_
 ·obtain⟨l105,q106,h⟩:=bs h
  obtain⟨q107,q108⟩:=zG0 q106
  obtain⟨v109,q110,h⟩:=bs h
  refine cut 302 0 [(2,.bool v109)] [t1.d] ?_ ?_
  ·refine st ?_
   simp[q107,q108]
   have r111:=zAe fuel t1 l105 v109 q110
   try simp[q107,q108] at r111
   refine cP r111 ?_
   simp[q107,q108]
  refine zAA<|zAD<|zAB ?_
  cases h
  simp
 refine cutA 302 0 [(1,pT 0),(3,iI t1.L.length),(8,iI t1.Op),(67,.bool (eqI t1.Op 27))] [t1.d]<|spc h rfl (fun g113 h=>?_) fun g113 h=>?_
 ·obtain⟨b122,q123,h⟩:=bs h
  refine cut 302 0 [(2,.bool b122)] [t1.d] ?_ ?_
  ·rcases sp q123 with ⟨g115,q123⟩|⟨g115,q123⟩
   ·have g116:=notT g115
    have c117:=eqF g116
    obtain⟨v118,q119,q123⟩:=bs q123
    obtain rfl:=oi q123
    refine st ?_
    simp[g115]
    have r124:=zCZ fuel t1.L 3 0 9 v118 q119
    try simp[g115] at r124
    refine cP r124 ?_
    simp[g115]
   have g120:=notF g115
   have c121:=eqT g120
   obtain rfl:=oi q123
   refine st ?_
   simp[g115]
  refine zAA<|zAD<|zAB ?_
  cases h
  simp
 refine cutA 302 0 [(1,pT 0),(3,iI t1.L.length),(8,iI t1.Op),(76,.bool (eqI t1.Op 28))] [t1.d]<|spc h rfl (fun g126 h=>?_) fun g126 h=>?_
 ·obtain⟨l128,q129,h⟩:=bs h
  obtain⟨q130,q131⟩:=zG0 q129
  obtain⟨v132,q133,h⟩:=bs h
  refine cut 302 0 [(2,.bool v132)] [t1.d] ?_ ?_
  ·refine st ?_
   simp[q130,q131]
   have r134:=zAe fuel t1 l128 v132 q133
   try simp[q130,q131] at r134
   refine cP r134 ?_
   simp[q130,q131]
  refine zAA<|zAD<|zAB ?_
  cases h
  simp
 refine cutA 302 0 [(1,pT 0),(3,iI t1.L.length),(8,iI t1.Op),(81,.bool (eqI t1.Op 29))] [t1.d]<|spc h rfl (fun g136 h=>?_) fun g136 h=>?_
 ·obtain⟨b154,q155,h⟩:=bs h
  refine cut 302 0 [(2,.bool b154)] [t1.d] ?_ ?_
  ·rcases sp q155 with ⟨g138,q155⟩|⟨g138,q155⟩
   ·have c139:=leT g138
    refine zDt 0 4 rfl rfl rfl fun f140=>?_
    rw[zq4] at f140
    obtain⟨x141,q142,q155⟩:=bs q155
    obtain⟨v143,q144,q155⟩:=bs q155
    rcases sp q155 with ⟨g145,q155⟩|⟨g145,q155⟩
    ·obtain⟨l146,q147,q155⟩:=bs q155
     obtain⟨q148,q149⟩:=zDn q147
     try simp at q148
     try simp at q149
     obtain⟨v150,q151,q155⟩:=bs q155
     obtain rfl:=oi q155
     refine st ?_
     simp[g138,q142,g145,q148,q149]
     have r156:=zAr 3 x141 v143 q144
     try simp[g138,q142,g145,q148,q149] at r156
     refine cP r156 ?_
     simp[g138,q142,g145,q148,q149]
     have r157:=zCJ fuel l146 [30] v150 q151
     try simp[g138,q142,g145,q148,q149] at r157
     refine cP r157 ?_
     simp[g138,q142,g145,q148,q149]
    obtain rfl:=oi q155
    refine st ?_
    simp[g138,q142,g145]
    have r158:=zAr 3 x141 v143 q144
    try simp[g138,q142,g145] at r158
    refine cP r158 ?_
    simp[g138,q142,g145]
   have c152:=leF g138
   refine zDt 0 4 rfl rfl rfl fun f153=>?_
   rw[zq4] at f153
   obtain rfl:=oi q155
   refine st ?_
   simp[g138]
  refine zAA<|zAD<|zAB ?_
  cases h
  simp
 refine cutA 302 0 [(1,pT 0),(3,iI t1.L.length),(8,iI t1.Op),(99,.bool (eqI t1.Op 30))] [t1.d]<|spc h rfl (fun g160 h=>?_) fun g160 h=>?_
 ·obtain⟨l162,q163,h⟩:=bs h
  obtain⟨q164,q165⟩:=zG0 q163
  obtain⟨v166,q167,h⟩:=bs h
  refine cut 302 0 [(2,.bool v166)] [t1.d] ?_ ?_
  ·refine st ?_
   simp[q164,q165]
   have r168:=zAe fuel t1 l162 v166 q167
   try simp[q164,q165] at r168
   refine cP r168 ?_
   simp[q164,q165]
  refine zAA<|zAD<|zAB ?_
  cases h
  simp
 refine cutA 302 0 [(1,pT 0),(3,iI t1.L.length),(8,iI t1.Op),(104,.bool (eqI t1.Op 31))] [t1.d]<|spc h rfl (fun g170 h=>?_) fun g170 h=>?_
 ·obtain⟨b196,q197,h⟩:=bs h
  refine cut 302 0 [(2,.bool b196)] [t1.d] ?_ ?_
  ·rcases sp q197 with ⟨g172,q197⟩|⟨g172,q197⟩
   ·have c173:=leT g172
    refine zDt 0 4 rfl rfl rfl fun f174=>?_
    rw[zq4] at f174
    have q175:Rng .i64 ((t1.L.length:Int)-1):=by simp only[Rng,inR];omega
    try simp at q175
    obtain⟨x176,q177,q197⟩:=bs q197
    obtain⟨q178,q179⟩:=idxp_ok q177
    obtain⟨v180,q181,q197⟩:=bs q197
    rcases sp q197 with ⟨g182,q197⟩|⟨g182,q197⟩
    ·have q183:Rng .i64 ((t1.L.length:Int)-1):=by simp only[Rng,inR];omega
     try simp at q183
     obtain⟨l184,q185,q197⟩:=bs q197
     obtain⟨q186,q187⟩:=zDn q185
     try simp at q186
     try simp at q187
     obtain⟨l188,q189,q197⟩:=bs q197
     obtain⟨q190,q191⟩:=zG0 q189
     obtain⟨v192,q193,q197⟩:=bs q197
     obtain rfl:=oi q197
     refine st ?_
     simp[g172,q175,q178,q179,g182,q183,q186,q187,q190,q191]
     have r198:=zAr 3 x176 v180 q181
     try simp[g172,q175,q178,q179,g182,q183,q186,q187,q190,q191] at r198
     refine cP r198 ?_
     simp[g172,q175,q178,q179,g182,q183,q186,q187,q190,q191]
     have r199:=zCJ fuel l184 l188 v192 q193
     try simp[g172,q175,q178,q179,g182,q183,q186,q187,q190,q191] at r199
     refine cP r199 ?_
     simp[g172,q175,q178,q179,g182,q183,q186,q187,q190,q191]
    obtain rfl:=oi q197
    refine st ?_
    simp[g172,q175,q178,q179,g182]
    have r200:=zAr 3 x176 v180 q181
    try simp[g172,q175,q178,q179,g182] at r200
    refine cP r200 ?_
    simp[g172,q175,q178,q179,g182]
   have c194:=leF g172
   refine zDt 0 4 rfl rfl rfl fun f195=>?_
   rw[zq4] at f195
   obtain rfl:=oi q197
   refine st ?_
   simp[g172]
  refine zAA<|zAD<|zAB ?_
  cases h
  simp
 refine cutA 302 0 [(1,pT 0),(3,iI t1.L.length),(8,iI t1.Op),(126,.bool (eqI t1.Op 32))] [t1.d]<|spc h rfl (fun g202 h=>?_) fun g202 h=>?_
 ·refine zAE<|cutA 302 0 [(1,pT 0),(130,.bool (eqI t1.N 12))] [t1.d]<|spc h rfl (fun g204 h=>?_) fun g204 h=>?_
  ·obtain⟨v206,q207,h⟩:=bs h
   refine cut 302 0 [(2,.bool v206)] [t1.d] ?_ ?_
   ·refine st ?_
    simp
    have r208:=zAe fuel t1 [3] v206 q207
    try simp at r208
    refine cP r208 ?_
    simp
   refine zAA<|zAB<|zAD<|zAB ?_
   cases h
   simp
  refine zAC<|zAF ?_
  obtain⟨l210,q211,h⟩:=bs h
  obtain⟨q212,q213⟩:=zG0 q211
  obtain⟨v214,q215,h⟩:=bs h
  refine cut 302 0 [(2,.bool v214)] [t1.d] ?_ ?_
  ·refine st ?_
   simp[q212,q213]
   have r216:=zAe fuel t1 l210 v214 q215
   try simp[q212,q213] at r216
   refine cP r216 ?_
   simp[q212,q213]
  refine zAA<|zAD<|zAB ?_
  cases h
  simp
 refine cutA 302 0 [(1,pT 0),(3,iI t1.L.length),(8,iI t1.Op),(137,.bool (eqI t1.Op 33))] [t1.d]<|spc h rfl (fun g218 h=>?_) fun g218 h=>?_
 ·obtain⟨l220,q221,h⟩:=bs h
  obtain⟨q222,q223⟩:=zG0 q221
  obtain⟨v224,q225,h⟩:=bs h
  refine cut 302 0 [(2,.bool v224)] [t1.d] ?_ ?_
  ·refine st ?_
   simp[q222,q223]
   have r226:=zAe fuel t1 l220 v224 q225
   try simp[q222,q223] at r226
   refine cP r226 ?_
   simp[q222,q223]
  refine zAA<|zAD<|zAB ?_
  cases h
  simp
 refine cutA 302 0 [(1,pT 0),(3,iI t1.L.length),(8,iI t1.Op),(142,.bool (eqI t1.Op 34))] [t1.d]<|spc h rfl (fun g228 h=>?_) fun g228 h=>?_
 ·obtain⟨b235,q236,h⟩:=bs h
  refine cut 302 0 [(2,.bool b235)] [t1.d] ?_ ?_
  ·rcases sp q236 with ⟨g230,q236⟩|⟨g230,q236⟩
   ·have c231:=eqT g230
    obtain⟨v232,q233,q236⟩:=bs q236
    obtain rfl:=oi q236
    refine st ?_
    simp[g230]
    have r237:=zCJ fuel t1.L [72] v232 q233
    try simp[g230] at r237
    refine cP r237 ?_
    simp[g230]
   have c234:=eqF g230
   obtain rfl:=oi q236
   refine st ?_
   simp[g230]
  refine zAA<|zAD<|zAB ?_
  cases h
  simp
 refine zAE<|cutA 302 0 [(1,pT 0),(3,iI t1.L.length),(8,iI t1.Op),(152,.bool (eqI t1.Op 43))] [t1.d]<|spc h rfl (fun g239 h=>?_) fun g239 h=>?_
 ·refine zAC<|zAF<|zBF rfl (by simp[g239]) ?_
  obtain⟨v241,q242,h⟩:=bs h
  refine cut 302 0 [(2,.bool v241)] [t1.d] ?_ ?_
  ·refine st ?_
   simp
   have r243:=zAe fuel t1 [1] v241 q242
   try simp at r243
   refine cP r243 ?_
   simp
  refine zAA<|zAD<|zAB ?_
  cases h
  simp
 refine zG1 302 0 [(1,pT 0),(3,iI t1.L.length),(8,iI t1.Op),(152,.bool (eqI t1.Op 61))] [t1.d]<|spc h rfl (fun g245 h=>?_) fun g245 h=>?_
 ·have c246:=eqT g245
  obtain⟨v247,q248,h⟩:=bs h
  refine cut 302 0 [(2,.bool v247)] [t1.d] ?_ ?_
  ·refine st ?_
   simp
   have r249:=zAe fuel t1 [1] v247 q248
   try simp at r249
   refine cP r249 ?_
   simp
  refine zAA<|zAD<|zAB ?_
  cases h
  simp
 have c250:=eqF g245
 refine cutA 302 0 [(1,pT 0),(3,iI t1.L.length),(8,iI t1.Op),(158,.bool (eqI t1.Op 44))] [t1.d]<|spc h rfl (fun g251 h=>?_) fun g251 h=>?_
 ·obtain⟨b263,q264,h⟩:=bs h
  refine cut 302 0 [(2,.bool b263)] [t1.d] ?_ ?_
  ·rcases sp q264 with ⟨g253,q264⟩|⟨g253,q264⟩
   ·have c254:=leT g253
    refine zDt 0 4 rfl rfl rfl fun f255=>?_
    rw[zq4] at f255
    obtain⟨v256,q257,q264⟩:=bs q264
    rcases sp q264 with ⟨g258,q264⟩|⟨g258,q264⟩
    ·obtain⟨v259,q260,q264⟩:=bs q264
     obtain rfl:=oi q264
     refine st ?_
     simp[g253,g258]
     have r265:=zCJ fuel t1.L [45] v256 q257
     try simp[g253,g258] at r265
     refine cP r265 ?_
     simp[g253,g258]
     have r266:=zHm fuel t1.L v259 q260
     try simp[g253,g258] at r266
     refine cP r266 ?_
     simp[g253,g258]
    obtain rfl:=oi q264
    refine st ?_
    simp[g253,g258]
    have r267:=zCJ fuel t1.L [45] v256 q257
    try simp[g253,g258] at r267
    refine cP r267 ?_
    simp[g253,g258]
   have c261:=leF g253
   refine zDt 0 4 rfl rfl rfl fun f262=>?_
   rw[zq4] at f262
   obtain rfl:=oi q264
   refine st ?_
   simp[g253]
  refine zAA<|zAD<|zAB ?_
  cases h
  simp
 refine cutA 302 0 [(1,pT 0),(3,iI t1.L.length),(8,iI t1.Op),(173,.bool (eqI t1.Op 45))] [t1.d]<|spc h rfl (fun g269 h=>?_) fun g269 h=>?_
 ·obtain⟨v271,q272,h⟩:=bs h
  refine cut 302 0 [(2,.bool v271)] [t1.d] ?_ ?_
  ·refine st ?_
   simp
   have r273:=zCZ fuel t1.L 1 0 1 v271 q272
   try simp at r273
   refine cP r273 ?_
   simp
  refine zAA<|zAD<|zAB ?_
  cases h
  simp
 refine cutA 302 0 [(1,pT 0),(3,iI t1.L.length),(8,iI t1.Op),(178,.bool (eqI t1.Op 46))] [t1.d]<|spc h rfl (fun g275 h=>?_) fun g275 h=>?_
 ·obtain⟨v277,q278,h⟩:=bs h
  refine cut 302 0 [(2,.bool v277)] [t1.d] ?_ ?_
  ·refine st ?_
   simp
   have r279:=zAe fuel t1 [7] v277 q278
   try simp at r279
   refine cP r279 ?_
   simp
  refine zAA<|zAD<|zAB ?_
  cases h
  simp
 refine zAE<|cutA 302 0 [(1,pT 0),(3,iI t1.L.length),(8,iI t1.Op),(183,.bool (eqI t1.Op 47))] [t1.d]<|spc h rfl (fun g281 h=>?_) fun g281 h=>?_
 ·refine zAC<|zAF<|zBF rfl (by simp[g281]) ?_
  obtain⟨v283,q284,h⟩:=bs h
  refine cut 302 0 [(2,.bool v283)] [t1.d] ?_ ?_
  ·refine st ?_
   simp
   have r285:=zAe fuel t1 [6] v283 q284
   try simp at r285
   refine cP r285 ?_
   simp
  refine zAA<|zAD<|zAB ?_
  cases h
  simp
 refine cutA 302 0 [(1,pT 0),(3,iI t1.L.length),(8,iI t1.Op),(183,.bool (eqI t1.Op 63))] [t1.d]<|spc h rfl (fun g287 h=>?_) fun g287 h=>?_
 ·refine zAC<|zAF<|zBF rfl (by simp[g287]) ?_
  obtain⟨v289,q290,h⟩:=bs h
  refine cut 302 0 [(2,.bool v289)] [t1.d] ?_ ?_
  ·refine st ?_
   simp
   have r291:=zAe fuel t1 [6] v289 q290
   try simp at r291
   refine cP r291 ?_
   simp
  refine zAA<|zAD<|zAB ?_
  cases h
  simp
 refine cutA 302 0 [(1,pT 0),(3,iI t1.L.length),(8,iI t1.Op),(183,.bool (eqI t1.Op 64))] [t1.d]<|spc h rfl (fun g293 h=>?_) fun g293 h=>?_
 ·refine zAC<|zAF<|zBF rfl (by simp[g293]) ?_
  obtain⟨v295,q296,h⟩:=bs h
  refine cut 302 0 [(2,.bool v295)] [t1.d] ?_ ?_
  ·refine st ?_
   simp
   have r297:=zAe fuel t1 [6] v295 q296
   try simp at r297
   refine cP r297 ?_
   simp
  refine zAA<|zAD<|zAB ?_
  cases h
  simp
 refine zG1 302 0 [(1,pT 0),(3,iI t1.L.length),(8,iI t1.Op),(183,.bool (eqI t1.Op 65))] [t1.d]<|spc h rfl (fun g299 h=>?_) fun g299 h=>?_
 ·have c300:=eqT g299
  obtain⟨v301,q302,h⟩:=bs h
  refine cut 302 0 [(2,.bool v301)] [t1.d] ?_ ?_
  ·refine st ?_
   simp
   have r303:=zAe fuel t1 [6] v301 q302
   try simp at r303
   refine cP r303 ?_
   simp
  refine zAA<|zAD<|zAB ?_
  cases h
  simp
 have c304:=eqF g299
 refine zAE<|cutA 302 0 [(1,pT 0),(3,iI t1.L.length),(8,iI t1.Op),(191,.bool (eqI t1.Op 50))] [t1.d]<|spc h rfl (fun g305 h=>?_) fun g305 h=>?_
 ·refine zAC<|zAF<|zBF rfl (by simp[g305]) ?_
  obtain⟨b321,q322,h⟩:=bs h
  refine cut 302 0 [(2,.bool b321)] [t1.d] ?_ ?_
  ·rcases sp q322 with ⟨g307,q322⟩|⟨g307,q322⟩
   ·have c308:=eqT g307
    obtain⟨x309,q310,q322⟩:=bs q322
    obtain⟨v311,q312,q322⟩:=bs q322
    rcases sp q322 with ⟨g313,q322⟩|⟨g313,q322⟩
    ·obtain⟨l314,q315,q322⟩:=bs q322
     obtain⟨q316,q317⟩:=zDn q315
     try simp at q316
     try simp at q317
     obtain⟨v318,q319,q322⟩:=bs q322
     obtain rfl:=oi q322
     refine st ?_
     simp[g307,q310,g313,q316,q317]
     have r323:=zAr 3 x309 v311 q312
     try simp[g307,q310,g313,q316,q317] at r323
     refine cP r323 ?_
     simp[g307,q310,g313,q316,q317]
     have r324:=zCJ fuel l314 [72] v318 q319
     try simp[g307,q310,g313,q316,q317] at r324
     refine cP r324 ?_
     simp[g307,q310,g313,q316,q317]
    obtain rfl:=oi q322
    refine st ?_
    simp[g307,q310,g313]
    have r325:=zAr 3 x309 v311 q312
    try simp[g307,q310,g313] at r325
    refine cP r325 ?_
    simp[g307,q310,g313]
   have c320:=eqF g307
   obtain rfl:=oi q322
   refine st ?_
   simp[g307]
  refine zAA<|zAD<|zAB ?_
  cases h
  simp
 refine zG1 302 0 [(1,pT 0),(3,iI t1.L.length),(8,iI t1.Op),(191,.bool (eqI t1.Op 88))] [t1.d]<|spc h rfl (fun g327 h=>?_) fun g327 h=>?_
 ·have c328:=eqT g327
  obtain⟨b343,q344,h⟩:=bs h
  refine cut 302 0 [(2,.bool b343)] [t1.d] ?_ ?_
  ·rcases sp q344 with ⟨g329,q344⟩|⟨g329,q344⟩
   ·have c330:=eqT g329
    obtain⟨x331,q332,q344⟩:=bs q344
    obtain⟨v333,q334,q344⟩:=bs q344
    rcases sp q344 with ⟨g335,q344⟩|⟨g335,q344⟩
    ·obtain⟨l336,q337,q344⟩:=bs q344
     obtain⟨q338,q339⟩:=zDn q337
     try simp at q338
     try simp at q339
     obtain⟨v340,q341,q344⟩:=bs q344
     obtain rfl:=oi q344
     refine st ?_
     simp[g329,q332,g335,q338,q339]
     have r345:=zAr 3 x331 v333 q334
     try simp[g329,q332,g335,q338,q339] at r345
     refine cP r345 ?_
     simp[g329,q332,g335,q338,q339]
     have r346:=zCJ fuel l336 [72] v340 q341
     try simp[g329,q332,g335,q338,q339] at r346
     refine cP r346 ?_
     simp[g329,q332,g335,q338,q339]
    obtain rfl:=oi q344
    refine st ?_
    simp[g329,q332,g335]
    have r347:=zAr 3 x331 v333 q334
    try simp[g329,q332,g335] at r347
    refine cP r347 ?_
    simp[g329,q332,g335]
   have c342:=eqF g329
   obtain rfl:=oi q344
   refine st ?_
   simp[g329]
  refine zAA<|zAD<|zAB ?_
  cases h
  simp
 have c348:=eqF g327
 refine cutA 302 0 [(1,pT 0),(3,iI t1.L.length),(8,iI t1.Op),(210,.bool (eqI t1.Op 66))] [t1.d]<|spc h rfl (fun g349 h=>?_) fun g349 h=>?_
 ·obtain⟨b359,q360,h⟩:=bs h
  refine cut 302 0 [(2,.bool b359)] [t1.d] ?_ ?_
  ·rcases sp q360 with ⟨g351,q360⟩|⟨g351,q360⟩
   ·have c352:=eqT g351
    obtain⟨v353,q354,q360⟩:=bs q360
    rcases sp q360 with ⟨g355,q360⟩|⟨g355,q360⟩
    ·obtain⟨x356,q357,q360⟩:=bs q360
     obtain rfl:=oi q360
     refine st ?_
     simp[g351,g355,q357]
     have r361:=zCJ fuel t1.L [2] v353 q354
     try simp[g351,g355,q357] at r361
     refine cP r361 ?_
     simp[g351,g355,q357]
    obtain rfl:=oi q360
    refine st ?_
    simp[g351,g355]
    have r362:=zCJ fuel t1.L [2] v353 q354
    try simp[g351,g355] at r362
    refine cP r362 ?_
    simp[g351,g355]
   have c358:=eqF g351
   obtain rfl:=oi q360
   refine st ?_
   simp[g351]
  refine zAA<|zAD<|zAB ?_
  cases h
  simp
 refine cutA 302 0 [(1,pT 0),(3,iI t1.L.length),(8,iI t1.Op),(229,.bool (eqI t1.Op 71))] [t1.d]<|spc h rfl (fun g364 h=>?_) fun g364 h=>?_
 ·obtain⟨v366,q367,h⟩:=bs h
  refine cut 302 0 [(2,.bool v366)] [t1.d] ?_ ?_
  ·refine st ?_
   simp
   have r368:=zCZ fuel t1.L 5 0 (t1.L.length:Int) v366 q367
   try simp at r368
   refine cP r368 ?_
   simp
  refine zAA<|zAD<|zAB ?_
  cases h
  simp
 refine cutA 302 0 [(1,pT 0),(3,iI t1.L.length),(8,iI t1.Op),(235,.bool (eqI t1.Op 73))] [t1.d]<|spc h rfl (fun g370 h=>?_) fun g370 h=>?_
 ·obtain⟨l372,q373,h⟩:=bs h
  obtain⟨q374,q375⟩:=zG0 q373
  obtain⟨v376,q377,h⟩:=bs h
  refine cut 302 0 [(2,.bool v376)] [t1.d] ?_ ?_
  ·refine st ?_
   simp[q374,q375]
   have r378:=zAe fuel t1 l372 v376 q377
   try simp[q374,q375] at r378
   refine cP r378 ?_
   simp[q374,q375]
  refine zAA<|zAD<|zAB ?_
  cases h
  simp
 refine cutA 302 0 [(1,pT 0),(3,iI t1.L.length),(8,iI t1.Op),(240,.bool (eqI t1.Op 74))] [t1.d]<|spc h rfl (fun g380 h=>?_) fun g380 h=>?_
 ·obtain⟨b396,q397,h⟩:=bs h
  refine cut 302 0 [(2,.bool b396)] [t1.d] ?_ ?_
  ·rcases sp q397 with ⟨g382,q397⟩|⟨g382,q397⟩
   ·have c383:=eqT g382
    obtain⟨x384,q385,q397⟩:=bs q397
    obtain⟨v386,q387,q397⟩:=bs q397
    rcases sp q397 with ⟨g388,q397⟩|⟨g388,q397⟩
    ·obtain⟨l389,q390,q397⟩:=bs q397
     obtain⟨q391,q392⟩:=zDn q390
     try simp at q391
     try simp at q392
     obtain⟨v393,q394,q397⟩:=bs q397
     obtain rfl:=oi q397
     refine st ?_
     simp[g382,q385,g388,q391,q392]
     have r398:=zAr 6 x384 v386 q387
     try simp[g382,q385,g388,q391,q392] at r398
     refine cP r398 ?_
     simp[g382,q385,g388,q391,q392]
     have r399:=zCJ fuel l389 [43] v393 q394
     try simp[g382,q385,g388,q391,q392] at r399
     refine cP r399 ?_
     simp[g382,q385,g388,q391,q392]
    obtain rfl:=oi q397
    refine st ?_
    simp[g382,q385,g388]
    have r400:=zAr 6 x384 v386 q387
    try simp[g382,q385,g388] at r400
    refine cP r400 ?_
    simp[g382,q385,g388]
   have c395:=eqF g382
   obtain rfl:=oi q397
   refine st ?_
   simp[g382]
  refine zAA<|zAD<|zAB ?_
  cases h
  simp
 refine cutA 302 0 [(1,pT 0),(3,iI t1.L.length),(8,iI t1.Op),(258,.bool (eqI t1.Op 81))] [t1.d]<|spc h rfl (fun g402 h=>?_) fun g402 h=>?_
 ·obtain⟨v404,q405,h⟩:=bs h
  refine cut 302 0 [(2,.bool v404)] [t1.d] ?_ ?_
  ·refine st ?_
   simp
   have r406:=zCZ fuel t1.L 4 0 (t1.L.length:Int) v404 q405
   try simp at r406
   refine cP r406 ?_
   simp
  refine zAA<|zAD<|zAB ?_
  cases h
  simp
 refine cutA 302 0 [(1,pT 0),(3,iI t1.L.length),(8,iI t1.Op),(264,.bool (eqI t1.Op 83))] [t1.d]<|spc h rfl (fun g408 h=>?_) fun g408 h=>?_
 ·obtain⟨l410,q411,h⟩:=bs h
  obtain⟨q412,q413⟩:=zG0 q411
  obtain⟨v414,q415,h⟩:=bs h
  refine cut 302 0 [(2,.bool v414)] [t1.d] ?_ ?_
  ·refine st ?_
   simp[q412,q413]
   have r416:=zAe fuel t1 l410 v414 q415
   try simp[q412,q413] at r416
   refine cP r416 ?_
   simp[q412,q413]
  refine zAA<|zAD<|zAB ?_
  cases h
  simp
 refine cutA 302 0 [(1,pT 0),(3,iI t1.L.length),(8,iI t1.Op),(269,.bool (eqI t1.Op 84))] [t1.d]<|spc h rfl (fun g418 h=>?_) fun g418 h=>?_
 ·obtain⟨l420,q421,h⟩:=bs h
  obtain⟨q422,q423⟩:=zG0 q421
  obtain⟨v424,q425,h⟩:=bs h
  refine cut 302 0 [(2,.bool v424)] [t1.d] ?_ ?_
  ·refine st ?_
   simp[q422,q423]
   have r426:=zAe fuel t1 l420 v424 q425
   try simp[q422,q423] at r426
   refine cP r426 ?_
   simp[q422,q423]
  refine zAA<|zAD<|zAB ?_
  cases h
  simp
 refine zAE<|cutA 302 0 [(1,pT 0),(3,iI t1.L.length),(8,iI t1.Op),(274,.bool (eqI t1.Op 85))] [t1.d]<|spc h rfl (fun g428 h=>?_) fun g428 h=>?_
 ·refine zAC<|zAF<|zBF rfl (by simp[g428]) ?_
  obtain⟨l430,q431,h⟩:=bs h
  obtain⟨q432,q433⟩:=zG0 q431
  obtain⟨v434,q435,h⟩:=bs h
  refine cut 302 0 [(2,.bool v434)] [t1.d] ?_ ?_
  ·refine st ?_
   simp[q432,q433]
   have r436:=zAe fuel t1 l430 v434 q435
   try simp[q432,q433] at r436
   refine cP r436 ?_
   simp[q432,q433]
  refine zAA<|zAD<|zAB ?_
  cases h
  simp
 refine zG1 302 0 [(1,pT 0),(3,iI t1.L.length),(8,iI t1.Op),(274,.bool (eqI t1.Op 86))] [t1.d]<|spc h rfl (fun g438 h=>?_) fun g438 h=>?_
 ·have c439:=eqT g438
  obtain⟨l440,q441,h⟩:=bs h
  obtain⟨q442,q443⟩:=zG0 q441
  obtain⟨v444,q445,h⟩:=bs h
  refine cut 302 0 [(2,.bool v444)] [t1.d] ?_ ?_
  ·refine st ?_
   simp[q442,q443]
   have r446:=zAe fuel t1 l440 v444 q445
   try simp[q442,q443] at r446
   refine cP r446 ?_
   simp[q442,q443]
  refine zAA<|zAD<|zAB ?_
  cases h
  simp
 have c447:=eqF g438
 refine cutA 302 0 [(1,pT 0),(3,iI t1.L.length),(280,.bool (eqI t1.Op 87))] [t1.d]<|spc h rfl (fun g448 h=>?_) fun g448 h=>?_
 ·obtain⟨b470,q471,h⟩:=bs h
  refine cut 302 0 [(2,.bool b470)] [t1.d] ?_ ?_
  ·rcases sp q471 with ⟨g450,q471⟩|⟨g450,q471⟩
   ·have c451:=leT g450
    refine zDt 0 4 rfl rfl rfl fun f452=>?_
    rw[zq4] at f452
    have q453:Rng .i64 ((t1.L.length:Int)-1):=by simp only[Rng,inR];omega
    try simp at q453
    obtain⟨x454,q455,q471⟩:=bs q471
    obtain⟨q456,q457⟩:=idxp_ok q455
    obtain⟨v458,q459,q471⟩:=bs q471
    rcases sp q471 with ⟨g460,q471⟩|⟨g460,q471⟩
    ·have q461:Rng .i64 ((t1.L.length:Int)-1):=by simp only[Rng,inR];omega
     try simp at q461
     obtain⟨l462,q463,q471⟩:=bs q471
     obtain⟨q464,q465⟩:=zDn q463
     try simp at q464
     try simp at q465
     obtain⟨v466,q467,q471⟩:=bs q471
     obtain rfl:=oi q471
     refine st ?_
     simp[g450,q453,q456,q457,g460,q461,q464,q465]
     have r472:=zAr 7 x454 v458 q459
     try simp[g450,q453,q456,q457,g460,q461,q464,q465] at r472
     refine cP r472 ?_
     simp[g450,q453,q456,q457,g460,q461,q464,q465]
     have r473:=zCZ fuel l462 4 0 (t1.L.length:Int) v466 q467
     try simp[g450,q453,q456,q457,g460,q461,q464,q465] at r473
     refine cP r473 ?_
     simp[g450,q453,q456,q457,g460,q461,q464,q465]
    obtain rfl:=oi q471
    refine st ?_
    simp[g450,q453,q456,q457,g460]
    have r474:=zAr 7 x454 v458 q459
    try simp[g450,q453,q456,q457,g460] at r474
    refine cP r474 ?_
    simp[g450,q453,q456,q457,g460]
   have c468:=leF g450
   refine zDt 0 4 rfl rfl rfl fun f469=>?_
   rw[zq4] at f469
   obtain rfl:=oi q471
   refine st ?_
   simp[g450]
  refine zAA<|zAD<|zAB ?_
  cases h
  simp
 refine zAC<|zDA<|zAF<|cutA 302 0 [(2,.bool false)] [t1.d]<|zAA ?_
 cases h
 simp
theorem zCS(fuel:Nat):(∀(x1:zJv)(c2:Int)(w3:zJv)(c4:Int)(r:Bool×Int)(_:zBW fuel x1 c2 w3 c4=some r),Raw Tryz.prog 143 [.agg x1.d,pT 0,pT 1,pT 2] [[.fn (.func 139) [] [pT 3,pT 0]],[iI c2],w3.d,[iI c4]] (.bool r.1) [[.fn (.func 139) [] [pT 3,pT 0]],[iI c2],w3.d,[iI r.2]])∧(∀(s1:(List zJv))(c2:Int)(w3:zJv)(c4:Int)(r:Int×Int)(_:zAz fuel s1 c2 w3 c4=some r),Raw Tryz.prog 194 [.sl (s1.map zJv.c),.fn (.func 143) [] [pT 0,pT 1,pT 2]] [[.fn (.func 139) [] [pT 3,pT 0]],[iI c2],w3.d,[iI c4]] (iI r.1) [[.fn (.func 139) [] [pT 3,pT 0]],[iI c2],w3.d,[iI r.2]])∧(∀(s1:(List zJv))(c2:Int)(w3:zJv)(c4:Int)(r:Bool×Int)(_:zAu fuel s1 c2 w3 c4=some r),Raw Tryz.prog 142 [.sl (s1.map zJv.c),.fn (.func 143) [] [pT 0,pT 1,pT 2]] [[.fn (.func 139) [] [pT 3,pT 0]],[iI c2],w3.d,[iI c4]] (.bool r.1) [[.fn (.func 139) [] [pT 3,pT 0]],[iI c2],w3.d,[iI r.2]])∧(∀(t1:zJv)(depth2:Int)(inWith3:Bool)(c4:Int)(r:Bool×Int)(_:zBG fuel t1 depth2 inWith3 c4=some r),Raw Tryz.prog 139 [.agg t1.d,iI depth2,.bool inWith3,pT 0,pT 1] [[iI c4],[.fn (.func 139) [] [pT 0,pT 1]]] (.bool r.1) [[iI r.2],[.fn (.func 139) [] [pT 0,pT 1]]]):=by
 induction fuel with
 |zero=>
  refine⟨?_,?_,?_,?_⟩
  ·intro x1 c2 w3 c4 r h;rw[zBW] at h;cases h
  ·intro s1 c2 w3 c4 r h;rw[zAz] at h;cases h
  ·intro s1 c2 w3 c4 r h;rw[zAu] at h;cases h
  ·intro t1 depth2 inWith3 c4 r h;rw[zBG] at h;cases h
 |succ fuel ih=>
  obtain⟨zGK,zDT,zDF,zG2⟩:=ih
  refine⟨?_,?_,?_,?_⟩
  ·intro x1 c2 w3 c4 r h
   rw[zBW] at h
   refine zAl Tryz.func143 (by rfl) (by rfl) (by simp) (by simp)<|cutA 15 4 [(1,pT 0),(2,pT 1),(3,pT 2),(4,pT 4)] [[.fn (.func 139) [] [pT 3,pT 0]],[iI c2],w3.d,[iI c4],x1.d] ?_
   obtain⟨n5,q6,h⟩:=bs h
   obtain⟨q7,q8⟩:=zDu q6
   try simp at q7
   try simp at q8
   have c9:=q7;simp only[Rng,inR] at c9
   obtain⟨v10,q11,h⟩:=bs h
   refine cut 15 4 [(5,.bool (!v10.1))] [[.fn (.func 139) [] [pT 3,pT 0]],[iI c2],w3.d,[iI v10.2],x1.d] ?_ ?_
   ·refine st ?_
    simp[q7,q8]
    have r12:=(zG2 x1 n5 (eqI w3.Op 74) c4 v10 q11).frame [3,0] [[.fn (.func 139) [] [pT 3,pT 0]],[iI c2],w3.d,[iI c4],x1.d] (by simp)
    try simp[q7,q8] at r12
    refine zAW r12 (by simp[q7,q8]) rfl ?_
    simp[q7,q8]
   refine zAA ?_
   cases h
   simp
  ·intro s1 c2 w3 c4 r h
   rw[zAz] at h
   refine zAl Tryz.func194 (by rfl) (by rfl) (by simp) (by simp)<|cutA 19 4 [(0,.sl (s1.map zJv.c)),(1,.fn (.func 143) [] [pT 0,pT 1,pT 2])] [[.fn (.func 139) [] [pT 3,pT 0]],[iI c2],w3.d,[iI c4]]<|zAE<|cutA 19 4 [(0,.sl (s1.map zJv.c)),(1,.fn (.func 143) [] [pT 0,pT 1,pT 2]),(7,iI s1.length),(8,iI 0)] [[.fn (.func 139) [] [pT 3,pT 0]],[iI c2],w3.d,[iI c4]]<|zAH ?_
   obtain⟨o8,l9,h⟩:=bs h
   refine zCI (fun p:Nat×Int×Nat=>mkS 19 4 [(0,.sl (s1.map zJv.c)),(1,.fn (.func 143) [] [pT 0,pT 1,pT 2]),(7,iI s1.length),(8,iI p.2.2)] [[.fn (.func 139) [] [pT 3,pT 0]],[iI c2],w3.d,[iI p.2.1]]) (fun p=>zAK (zBW fuel) s1 c2 w3 p.1 p.2.1 p.2.2=some o8) (fun p=>p.1) (fuel,c4,0) l9 (zBO (by simp)) ?_
   rintro⟨k10,a5,i6⟩ l9
   try dsimp only at l9 ⊢
   cases k10 with
   |zero=>
    rw[zAK] at l9;cases l9
   |succ k11=>
    rw[zAK] at l9
    refine cutA 19 4 [(0,.sl (s1.map zJv.c)),(1,.fn (.func 143) [] [pT 0,pT 1,pT 2]),(7,iI s1.length),(8,iI i6),(9,.bool (ltI i6 s1.length))] [[.fn (.func 139) [] [pT 3,pT 0]],[iI c2],w3.d,[iI a5]]<|zAE<|spc l9 rfl (fun g12 l9=>?_) fun g12 l9=>?_
    ·have c13:=ltT g12
     refine zE4 0 rfl fun f14=>?_
     rw[zq4] at f14
     refine zAC<|zAF<|zAE<|zAH<|cutA 19 4 [(0,.sl (s1.map zJv.c)),(1,.fn (.func 143) [] [pT 0,pT 1,pT 2]),(5,iI i6),(7,iI s1.length),(8,iI i6)] [[.fn (.func 139) [] [pT 3,pT 0]],[iI c2],w3.d,[iI a5]] ?_
     obtain⟨x15,q16,l9⟩:=bs l9
     obtain⟨v17,q18,l9⟩:=bs l9
     refine cut 19 4 [(0,.sl (s1.map zJv.c)),(1,.fn (.func 143) [] [pT 0,pT 1,pT 2]),(5,iI i6),(7,iI s1.length),(8,iI i6),(16,.bool v17.1)] [[.fn (.func 139) [] [pT 3,pT 0]],[iI c2],w3.d,[iI v17.2]] ?_ ?_
     ·refine st ?_
      simp[q16]
      have r21:=(zGK x15 c2 w3 a5 v17 q18).frame [0,1,2,3] [[.fn (.func 139) [] [pT 3,pT 0]],[iI c2],w3.d,[iI a5]] (by simp)
      try simp[q16] at r21
      refine zAW r21 (by simp[q16]) rfl ?_
      simp[q16]
     refine spc l9 rfl (fun g19 l9=>?_) fun g19 l9=>?_
     ·refine cutA 19 4 [(4,iI i6)] [[.fn (.func 139) [] [pT 3,pT 0]],[iI c2],w3.d,[iI v17.2]]<|zAA<|zAD<|zAB ?_
      replace h:=retL l9 h
      refine zAB<|zAD<|zAB ?_
      cases h
      simp
     refine zAC<|zDA<|zAF ?_
     have q20:Rng .i64 (((i6:Nat):Int)+1):=by simp only[Rng,inR];omega
     try simp at q20
     refine last 19 4 [(0,.sl (s1.map zJv.c)),(1,.fn (.func 143) [] [pT 0,pT 1,pT 2]),(7,iI s1.length),(8,iI ((i6+1:Nat):Int))] [[.fn (.func 139) [] [pT 3,pT 0]],[iI c2],w3.d,[iI v17.2]] (st (by simp[q20])) fun zz hs=>?_
     exact⟨(k11,v17.2,i6+1),hs,l9,by simp⟩
    have c22:=ltF g12
    refine zE4 0 rfl fun f23=>?_
    rw[zq4] at f23
    refine zBP<|zAU ?_
    rcases o8 with o8|o7
    ·cases l9
    have q24:=Sum.inr.inj (zqa l9)
    replace h:=zEk h
    have q24:=q24.symm
    refine zAU<|zBU<|zCh (t:=mkS 19 4 [] [[.fn (.func 139) [] [pT 3,pT 0]],[iI c2],w3.d,[iI o7]]) ?_ (zBO (by simp[q24]))
    refine cutA 19 4 [(4,iI (-1))] [[.fn (.func 139) [] [pT 3,pT 0]],[iI c2],w3.d,[iI o7]]<|zAA ?_
    cases h
    simp
  ·intro s1 c2 w3 c4 r h
   rw[zAu] at h
   refine zAl Tryz.func142 (by rfl) (by rfl) (by simp) (by simp)<|cutA 9 4 [(0,.sl (s1.map zJv.c)),(1,.fn (.func 143) [] [pT 0,pT 1,pT 2])] [[.fn (.func 139) [] [pT 3,pT 0]],[iI c2],w3.d,[iI c4]] ?_
   obtain⟨v5,q6,h⟩:=bs h
   refine cut 9 4 [(4,.bool (leI 0 v5.1))] [[.fn (.func 139) [] [pT 3,pT 0]],[iI c2],w3.d,[iI v5.2]] ?_ ?_
   ·refine st ?_
    simp
    have r7:=(zDT s1 c2 w3 c4 v5 q6).frame [0,1,2,3] [[.fn (.func 139) [] [pT 3,pT 0]],[iI c2],w3.d,[iI c4]] (by simp)
    try simp at r7
    refine zAW r7 (by simp) rfl ?_
    simp
   refine zAA ?_
   cases h
   simp
  ·intro t1 depth2 inWith3 c4 r h
   rw[zBG] at h
   refine zAl Tryz.func139 (by rfl) (by rfl) (by simp) (by simp)<|cutA 33 2 [(2,.bool inWith3),(3,pT 0),(4,pT 1),(5,pT 2),(6,pT 3)] [[iI c4],[.fn (.func 139) [] [pT 0,pT 1]],t1.d,[iI depth2]] ?_
   obtain⟨n5,q6,h⟩:=bs h
   obtain⟨q7,q8⟩:=zDu q6
   try simp at q7
   try simp at q8
   have c9:=q7;simp only[Rng,inR] at c9
   refine cut 33 2 [(2,.bool inWith3),(3,pT 0),(4,pT 1),(5,pT 2),(6,pT 3)] [[iI n5],[.fn (.func 139) [] [pT 0,pT 1]],t1.d,[iI depth2]] (st (by simp[q7,q8]))<|zAE ?_
   obtain⟨b23,q24,h⟩:=bs h
   refine cut 33 2 [(4,pT 1),(5,pT 2),(6,pT 3),(27,.bool b23)] [[iI n5],[.fn (.func 139) [] [pT 0,pT 1]],t1.d,[iI depth2]] ?_ ?_
   ·rcases sp q24 with ⟨g10,q24⟩|⟨g10,q24⟩
    ·have c11:=ltT g10
     obtain rfl:=oi q24
     refine st ?_
     simp[g10]
    have c12:=ltF g10
    rcases sp q24 with ⟨g13,q24⟩|⟨g13,q24⟩
    ·have c14:=ltT g13
     obtain rfl:=oi q24
     refine st ?_
     simp[g10,g13]
    have c15:=ltF g13
    obtain⟨v16,q17,q24⟩:=bs q24
    rcases sp q24 with ⟨g18,q24⟩|⟨g18,q24⟩
    ·have g19:=notT g18
     obtain rfl:=oi q24
     refine st ?_
     simp[g10,g13,g18]
     have r29:=zHF fuel t1 inWith3 v16 q17
     try simp[g10,g13,g18] at r29
     refine cP r29 ?_
     simp[g10,g13,g18]
    have g20:=notF g18
    obtain⟨v21,q22,q24⟩:=bs q24
    obtain rfl:=oi q24
    refine st ?_
    simp[g10,g13,g18]
    have r30:=zHF fuel t1 inWith3 v16 q17
    try simp[g10,g13,g18] at r30
    refine cP r30 ?_
    simp[g10,g13,g18]
    have r31:=zIW fuel t1 v21 q22
    try simp[g10,g13,g18] at r31
    refine cP r31 ?_
    simp[g10,g13,g18]
   refine spc h rfl (fun g25 h=>?_) fun g25 h=>?_
   ·refine cutA 33 2 [(8,.bool false)] [[iI n5],[.fn (.func 139) [] [pT 0,pT 1]],t1.d,[iI depth2]]<|zAA<|zAB ?_
    cases h
    simp
   refine zAC<|zAF ?_
   obtain⟨v26,q27,h⟩:=bs h
   refine cut 33 2 [(8,.bool (!v26.1))] [[iI v26.2],[.fn (.func 139) [] [pT 0,pT 1]],t1.d,[iI depth2]] ?_ ?_
   ·refine st ?_
    simp
    have r28:=(zDF t1.L depth2 t1 n5 v26 q27).frame [1,3,2,0] [[iI n5],[.fn (.func 139) [] [pT 0,pT 1]],t1.d,[iI depth2]] (by simp)
    try simp at r28
    refine zAW r28 (by simp) rfl ?_
    simp
   refine zAA ?_
   cases h
   simp
theorem zGq(fuel:Nat):(∀(t1:zJv)(depth2:Int)(inWith3:Bool)(c4:Int)(r:Bool×Int)(_:zBG fuel t1 depth2 inWith3 c4=some r),Raw Tryz.prog 139 [.agg t1.d,iI depth2,.bool inWith3,pT 0,pT 1] [[iI c4],[.fn (.func 139) [] [pT 0,pT 1]]] (.bool r.1) [[iI r.2],[.fn (.func 139) [] [pT 0,pT 1]]]):=(zCS fuel).2.2.2
theorem zHk(fuel:Nat)(t1:zJv)(r:Bool)(h:zEQ fuel t1=some r):Pure Tryz.prog 65 [.agg t1.d] (.bool r):=by
 rw[zEQ] at h
 refine zAG Tryz.func65 (by rfl) (by rfl) (by simp) (by simp) (by simp)<|cutA 9 0 [(1,pT 0)] [t1.d]<|cutA 9 0 [(1,pT 0),(3,pT 1)] [t1.d,[iI 0]]<|cutA 9 0 [(1,pT 0),(3,pT 1),(4,pT 2)] [t1.d,[iI 0],[.nilfn]]<|cutA 9 0 [(1,pT 0),(4,pT 2)] [t1.d,[iI 0],[.fn (.func 139) [] [pT 1,pT 2]]] ?_
 obtain⟨v2,q3,h⟩:=bs h
 refine cut 9 0 [(2,.bool v2.1)] [t1.d,[iI v2.2],[.fn (.func 139) [] [pT 1,pT 2]]] ?_ ?_
 ·refine st ?_
  simp
  have r4:=(zGq fuel t1 1 false 0 v2 q3).frame [1,2] [t1.d,[iI 0],[.fn (.func 139) [] [pT 1,pT 2]]] (by simp)
  try simp at r4
  refine zAW r4 (by simp) rfl ?_
  simp
 refine zAA ?_
 cases h
 simp
theorem zIZ(fuel:Nat)(cat1:Int)(t2:zJv)(r:Bool)(h:zCL fuel cat1 t2=some r):Pure Tryz.prog 32 [iI cat1,.agg t2.d] (.bool r):=by
 rw[zCL] at h
 refine zAG Tryz.func32 (by rfl) (by rfl) (by simp) (by simp) (by simp)<|cutA 12 0 [(0,iI cat1),(3,pT 0)] [t2.d] ?_
 obtain⟨b8,q9,h⟩:=bs h
 refine cut 12 0 [(4,.bool b8)] [t2.d] ?_ ?_
 ·obtain⟨v3,q4,q9⟩:=bs q9
  rcases sp q9 with ⟨g5,q9⟩|⟨g5,q9⟩
  ·obtain⟨v6,q7,q9⟩:=bs q9
   obtain rfl:=oi q9
   refine st ?_
   simp[g5]
   have r10:=zAr cat1 t2 v3 q4
   try simp[g5] at r10
   refine cP r10 ?_
   simp[g5]
   have r11:=zHk fuel t2 v6 q7
   try simp[g5] at r11
   refine cP r11 ?_
   simp[g5]
  obtain rfl:=oi q9
  refine st ?_
  simp[g5]
  have r12:=zAr cat1 t2 v3 q4
  try simp[g5] at r12
  refine cP r12 ?_
  simp[g5]
 refine zAA ?_
 cases h
 simp
theorem zBb(s1:(List UInt8))(w2:zJr)(r:Bool)(h:zAS s1 w2=some r):Raw Tryz.prog 129 [pT 0,.str s1] [[.sl (w2.l.map zJu.c),iI w2.at_]] (.bool r) [[.sl (w2.l.map zJu.c),iI w2.at_]]:=by
 rw[zAS] at h
 refine zAl Tryz.func129 (by rfl) (by rfl) (by simp) (by simp)<|cutA 30 1 [(0,pT 0),(1,.str s1)] [[.sl (w2.l.map zJu.c),iI w2.at_]] ?_
 obtain⟨x3,q4,h⟩:=bs h
 obtain⟨q5,q6⟩:=idx_ok q4
 refine cut 30 1 [(1,.str s1),(5,pT 1)] [[.sl (w2.l.map zJu.c),iI w2.at_],(zJu.c x3)] ?_ ?_
 ·refine zBS [] mixed (n:=30) rfl (by decide) ?_
  simp[q5,q6]
 refine cut 30 1 [(4,.bool (if eqI x3.Kind 6 then eqS x3.Text s1 else (eqI x3.Kind 7)&&(eqS x3.Text s1)))] [[.sl (w2.l.map zJu.c),iI w2.at_],(zJu.c x3)] ?_ ?_
 ·rcases tf (eqI x3.Kind 6) with g7|g7
  ·have c8:=eqT g7
   refine st ?_
   simp[g7]
  have c9:=eqF g7
  rcases tf (eqI x3.Kind 7) with g10|g10
  ·have c11:=eqT g10
   refine st ?_
   simp[g7,g10]
  have c12:=eqF g10
  refine st ?_
  simp[g7,g10]
 refine zAA ?_
 cases h
 simp
theorem zBg(s1:(List UInt8))(w2:zJr)(r:Bool×zJr)(h:zAV s1 w2=some r):Raw Tryz.prog 125 [pT 0,.str s1] [[.sl (w2.l.map zJu.c),iI w2.at_]] (.bool r.1) [[.sl (r.2.l.map zJu.c),iI r.2.at_]]:=by
 rw[zAV] at h
 refine zAl Tryz.func125 (by rfl) (by rfl) (by simp) (by simp)<|cutA 16 1 [(0,pT 0),(1,.str s1)] [[.sl (w2.l.map zJu.c),iI w2.at_]]<|zAE ?_
 obtain⟨v3,q4,h⟩:=bs h
 refine cut 16 1 [(0,pT 0),(8,.bool (!v3))] [[.sl (w2.l.map zJu.c),iI w2.at_]] ?_ ?_
 ·refine st ?_
  simp
  have r13:=(zBb s1 w2 v3 q4).frame [0] [[.sl (w2.l.map zJu.c),iI w2.at_]] (by simp)
  try simp at r13
  refine zAW r13 (by simp) rfl ?_
  simp
 refine spc h rfl (fun g5 h=>?_) fun g5 h=>?_
 ·have g6:=notT g5
  refine cutA 16 1 [(4,.bool false)] [[.sl (w2.l.map zJu.c),iI w2.at_]]<|zAA<|zAB ?_
  cases h
  simp
 have g7:=notF g5
 refine zAC<|zAF ?_
 obtain⟨n8,q9,h⟩:=bs h
 obtain⟨q10,q11⟩:=zDu q9
 try simp at q10
 try simp at q11
 have c12:=q10;simp only[Rng,inR] at c12
 refine cut 16 1 [] [[.sl (w2.l.map zJu.c),iI n8]] (st (by simp[q10,q11]))<|cutA 16 1 [(4,.bool true)] [[.sl (w2.l.map zJu.c),iI n8]]<|zAA ?_
 cases h
 simp
theorem zD1(w1:zJr)(r:(Unit) ⊕ (Empty))(h:zCo w1=some r):Sum.elim (fun r=>RawP Tryz.prog 180 (pan1 127) [pT 0] [[.sl (w1.l.map zJu.c),iI w1.at_]] [[.sl (w1.l.map zJu.c),iI w1.at_]]) (fun r=>Raw Tryz.prog 180 [pT 0] [[.sl (w1.l.map zJu.c),iI w1.at_]] (.tup []) [[.sl (w1.l.map zJu.c),iI w1.at_]]) r:=by
 rw[zCo] at h
 refine zEG Tryz.func180 (by rfl) (by rfl) (by simp) (by simp)<|stP 2 ?_
 simp
 refine panK (by simp) ?_
 cases h
 simp
theorem zA7(k1:Int)(w2:zJr)(r:(Unit) ⊕ ((List UInt8)×zJr))(h:zAn k1 w2=some r):Sum.elim (fun r=>RawP Tryz.prog 131 (pan1 127) [pT 0,iI k1] [[.sl (w2.l.map zJu.c),iI w2.at_]] [[.sl (w2.l.map zJu.c),iI w2.at_]]) (fun r=>Raw Tryz.prog 131 [pT 0,iI k1] [[.sl (w2.l.map zJu.c),iI w2.at_]] (.str r.1) [[.sl (r.2.l.map zJu.c),iI r.2.at_]]) r:=by
 rw[zAn] at h
 refine zEG Tryz.func131 (by rfl) (by rfl) (by simp) (by simp)<|cutA 30 1 [(0,pT 0),(1,iI k1)] [[.sl (w2.l.map zJu.c),iI w2.at_]]<|zAE ?_
 obtain⟨v3,q4,h⟩:=bs h
 refine cut 30 1 [(0,pT 0),(8,.bool (!v3))] [[.sl (w2.l.map zJu.c),iI w2.at_]] ?_ ?_
 ·refine st ?_
  simp
  have r27:=(zAQ k1 w2 v3 q4).frame [0] [[.sl (w2.l.map zJu.c),iI w2.at_]] (by simp)
  try simp at r27
  refine zAW r27 (by simp) rfl ?_
  simp
 refine spc h rfl (fun g5 h=>?_) fun g5 h=>?_
 ·have g6:=notT g5
  obtain⟨v7,q8,h⟩:=bs h
  rcases v7 with e9|v10
  ·replace h:=elimL h
   refine stP 1 ?_
   simp
   have r11:=(panL (zD1 w2 (.inl e9) q8)).frame [0] [[.sl (w2.l.map zJu.c),iI w2.at_]] (by simp)
   try simp at r11
   refine panC r11 (by simp) (by simp)<|zDR ?_
   cases h
   simp
  replace h:=zEk h
  cases v10
 have g12:=notF g5
 refine zAC<|zAF ?_
 obtain⟨n13,q14,h⟩:=bs h
 obtain⟨q15,q16⟩:=zDu q14
 try simp at q15
 try simp at q16
 have c17:=q15;simp only[Rng,inR] at c17
 refine cut 30 1 [(0,pT 0)] [[.sl (w2.l.map zJu.c),iI n13]] (st (by simp[q15,q16])) ?_
 obtain⟨n18,q19,h⟩:=bs h
 obtain⟨q20,q21⟩:=zDu q19
 try simp at q20
 try simp at q21
 have c22:=q20;simp only[Rng,inR] at c22
 obtain⟨x23,q24,h⟩:=bs h
 obtain⟨q25,q26⟩:=idx_ok q24
 refine cut 30 1 [(4,.str x23.Text)] [[.sl (w2.l.map zJu.c),iI n13]] ?_ ?_
 ·refine zBS [] mixed (n:=30) rfl (by decide) ?_
  simp[q20,q21,q25,q26]
 refine zAA ?_
 cases h
 simp
theorem zIj(fuel:Nat)(s1:(List UInt8))(r:Int×Int)(h:zBN fuel s1=some r):Pure Tryz.prog 74 [.str s1] (.tup [iI r.1,iI r.2]):=by
 rw[zBN] at h
 refine zAG Tryz.func74 (by rfl) (by rfl) (by simp) (by simp) (by simp)<|cutA 43 0 [(0,.str s1)] []<|zAE ?_
 obtain⟨b10,q11,h⟩:=bs h
 refine cut 43 0 [(0,.str s1),(19,.bool b10)] [] ?_ ?_
 ·rcases sp q11 with ⟨g2,q11⟩|⟨g2,q11⟩
  ·obtain rfl:=oi q11
   refine st ?_
   simp[g2]
  rcases sp q11 with ⟨g3,q11⟩|⟨g3,q11⟩
  ·have c4:=ltT g3
   refine zGn 0 rfl fun f5=>?_
   obtain⟨c6,q7,q11⟩:=bs q11
   obtain rfl:=oi q11
   refine st ?_
   simp[g2,g3,q7]
  have c8:=ltF g3
  refine zGn 0 rfl fun f9=>?_
  obtain rfl:=oi q11
  refine st ?_
  simp[g2,g3]
 refine spc h rfl (fun g12 h=>?_) fun g12 h=>?_
 ·refine cutA 43 0 [(2,iI 0),(3,iI 3)] []<|zAA<|zAB ?_
  cases h
  simp
 refine zAC<|zAF<|zAE ?_
 obtain⟨l13,q14,h⟩:=bs h
 obtain⟨q15,q16⟩:=bytesC_ok q14
 refine cut 43 0 [(0,.str s1),(21,.sl (l13.map cU)),(22,iI l13.length),(23,iI 0)] [] (st (by simp[q15,q16]))<|zAH ?_
 obtain⟨o19,l20,h⟩:=bs h
 refine zCI (fun p:Nat×Nat=>mkS 43 0 [(0,.str s1),(21,.sl (l13.map cU)),(22,iI l13.length),(23,iI p.2)] []) (fun p=>zAy l13 p.1 p.2=some o19) (fun p=>p.1) (fuel,0) l20 (zBO (by simp)) ?_
 rintro⟨k21,i17⟩ l20
 try dsimp only at l20 ⊢
 cases k21 with
 |zero=>
  rw[zAy] at l20;cases l20
 |succ k22=>
  rw[zAy] at l20
  refine cutA 43 0 [(0,.str s1),(21,.sl (l13.map cU)),(22,iI l13.length),(23,iI i17),(24,.bool (ltI i17 l13.length))] []<|zAE<|spc l20 rfl (fun g23 l20=>?_) fun g23 l20=>?_
  ·have c24:=ltT g23
   refine zE4 21 rfl fun f25=>?_
   rw[zq4] at f25
   refine zAC<|zAF<|zAE<|zAH ?_
   obtain⟨x26,q27,l20⟩:=bs l20
   refine cut 43 0 [(0,.str s1),(5,.int .u8 x26.toNat),(21,.sl (l13.map cU)),(22,iI l13.length),(23,iI i17)] [] (st (by simp[q27])) ?_
   obtain⟨v28,q29,l20⟩:=bs l20
   refine cut 43 0 [(0,.str s1),(21,.sl (l13.map cU)),(22,iI l13.length),(23,iI i17),(29,.bool (!(eqI v28 3)))] [] ?_ ?_
   ·refine st ?_
    simp
    have r36:=zG4 x26 v28 q29
    try simp at r36
    refine cP r36 ?_
    simp
   rcases sp l20 with ⟨g30,l20⟩|⟨g30,l20⟩
   ·have g31:=notT g30
    have c32:=eqF g31
    refine zBF rfl g30<|cutA 43 0 [(2,iI 0),(3,iI 3)] []<|zAA<|zAD<|zAB ?_
    replace h:=retL l20 h
    refine zAB<|zAD<|zAB ?_
    cases h
    simp
   have g33:=notF g30
   have c34:=eqT g33
   refine zHR rfl g30<|zAC<|zDA<|zAF ?_
   have q35:Rng .i64 (((i17:Nat):Int)+1):=by simp only[Rng,inR];omega
   try simp at q35
   refine last 43 0 [(0,.str s1),(21,.sl (l13.map cU)),(22,iI l13.length),(23,iI ((i17+1:Nat):Int))] [] (st (by simp[q35])) fun zz hs=>?_
   exact⟨(k22,i17+1),hs,l20,by simp⟩
  have c37:=ltF g23
  refine zE4 21 rfl fun f38=>?_
  rw[zq4] at f38
  refine zBP<|zAU ?_
  rcases o19 with o19|o18
  ·cases l20
  have q39:=Sum.inr.inj (zqa l20)
  replace h:=zEk h
  refine zAU<|zBU<|zCh (t:=mkS 43 0 [(0,.str s1)] []) ?_ (zBO (by simp))
  obtain⟨v40,q41,h⟩:=bs h
  rcases sp h with ⟨g42,h⟩|⟨g42,h⟩
  ·refine cut 43 0 [(6,iI v40.1),(7,.iface 217 (.cptr [.str [65,116,111,105],.str s1,.top]))] [] ?_ ?_
   ·refine st ?_
    simp[g42]
    have r46:=strconv_Atoi_ok s1 v40 q41
    try simp[g42] at r46
    refine cP r46 ?_
    simp[g42]
   refine zAE<|cutA 43 0 [(6,iI v40.1),(41,.bool true)] []<|zBF rfl rfl<|cutA 43 0 [(2,iI 0),(3,iI 6)] []<|zAA<|zAB ?_
   cases h
   simp
  refine cut 43 0 [(6,iI v40.1),(7,.nilif)] [] ?_ ?_
  ·refine st ?_
   simp[g42]
   have r47:=strconv_Atoi_ok s1 v40 q41
   try simp[g42] at r47
   refine cP r47 ?_
   simp[g42]
  refine zAE<|cutA 43 0 [(6,iI v40.1),(41,.bool (ltI 4503599627370496 v40.1))] []<|spc h rfl (fun g43 h=>?_) fun g43 h=>?_
  ·have c44:=ltT g43
   refine cutA 43 0 [(2,iI 0),(3,iI 6)] []<|zAA<|zAB ?_
   cases h
   simp
  have c45:=ltF g43
  refine zAC<|zAF<|cutA 43 0 [(2,iI v40.1),(3,iI 0)] []<|zAA ?_
  cases h
  simp
theorem zCK(fuel:Nat)(w1:zJr)(r:(Unit) ⊕ (Int×zJr))(h:zBY fuel w1=some r):Sum.elim (fun r=>RawP Tryz.prog 130 (pan1 127) [pT 0] [[.sl (w1.l.map zJu.c),iI w1.at_]] [[.sl (w1.l.map zJu.c),iI w1.at_]]) (fun r=>Raw Tryz.prog 130 [pT 0] [[.sl (w1.l.map zJu.c),iI w1.at_]] (iI r.1) [[.sl (r.2.l.map zJu.c),iI r.2.at_]]) r:=by
 rw[zBY] at h
 refine zEG Tryz.func130 (by rfl) (by rfl) (by simp) (by simp)<|cutA 12 1 [(0,pT 0)] [[.sl (w1.l.map zJu.c),iI w1.at_]] ?_
 obtain⟨v2,q3,h⟩:=bs h
 rcases v2 with e4|v5
 ·replace h:=elimL h
  refine zAE<|stP 1 ?_
  simp
  have r8:=(panL (zA7 4 w1 (.inl e4) q3)).frame [0] [[.sl (w1.l.map zJu.c),iI w1.at_]] (by simp)
  try simp at r8
  refine panC r8 (by simp) (by simp)<|zDR ?_
  cases h
  simp
 replace h:=zEk h
 obtain⟨v6,q7,h⟩:=bs h
 refine cut 12 1 [(3,iI v6.1)] [[.sl (v5.2.l.map zJu.c),iI v5.2.at_]] ?_ ?_
 ·refine st ?_
  simp
  have r9:=(panR (zA7 4 w1 (.inr v5) q3)).frame [0] [[.sl (w1.l.map zJu.c),iI w1.at_]] (by simp)
  try simp at r9
  refine zAW r9 (by simp) rfl ?_
  simp
  have r10:=zIj fuel v5.1 v6 q7
  try simp at r10
  refine cP r10 ?_
  simp
 refine cutA 12 1 [(2,iI v6.1)] [[.sl (v5.2.l.map zJu.c),iI v5.2.at_]]<|zAA ?_
 cases h
 simp
theorem zBq(fuel:Nat)(w1:zJr)(r:(zJr) ⊕ ((List (List UInt8))×zJr))(h:zBA fuel w1=some r):Sum.elim (fun r=>RawP Tryz.prog 127 (pan1 127) [pT 0] [[.sl (w1.l.map zJu.c),iI w1.at_]] [[.sl (r.l.map zJu.c),iI r.at_]]) (fun r=>Raw Tryz.prog 127 [pT 0] [[.sl (w1.l.map zJu.c),iI w1.at_]] (.sl (r.1.map cS)) [[.sl (r.2.l.map zJu.c),iI r.2.at_]]) r:=by
 rw[zBA] at h
 refine zEG Tryz.func127 (by rfl) (by rfl) (by simp) (by simp)<|cutA 15 1 [(0,pT 0)] [[.sl (w1.l.map zJu.c),iI w1.at_]] ?_
 obtain⟨v2,q3,h⟩:=bs h
 rcases v2 with e4|v5
 ·replace h:=elimL h
  refine zAE<|stP 1 ?_
  simp
  have r32:=(panL (zA7 2 w1 (.inl e4) q3)).frame [0] [[.sl (w1.l.map zJu.c),iI w1.at_]] (by simp)
  try simp at r32
  refine panC r32 (by simp) (by simp)<|zDR ?_
  cases h
  simp
 replace h:=zEk h
 refine cut 15 1 [(0,pT 0),(3,.osl ⟨1,9⟩ ([v5.1].map cS))] [[.sl (v5.2.l.map zJu.c),iI v5.2.at_]] ?_ ?_
 ·refine st ?_
  simp
  have r33:=(panR (zA7 2 w1 (.inr v5) q3)).frame [0] [[.sl (w1.l.map zJu.c),iI w1.at_]] (by simp)
  try simp at r33
  refine zAW r33 (by simp) rfl ?_
  simp
 refine zAE<|zAH ?_
 obtain⟨o10,l11,h⟩:=bs h
 refine zCI (fun p:Nat×(List zJu)×Int×(List (List UInt8))=>mkS 15 1 [(0,pT 0),(3,.osl ⟨1,9⟩ (p.2.2.2.map cS))] [[.sl (p.2.1.map zJu.c),iI p.2.2.1]]) (fun p=>zAf p.1 p.2.1 p.2.2.1 p.2.2.2=some o10) (fun p=>p.1) (fuel,v5.2.l,v5.2.at_,[v5.1]) l11 (zBO (by simp)) ?_
 rintro⟨k12,l6,at7,out8⟩ l11
 try dsimp only at l11 ⊢
 cases k12 with
 |zero=>
  rw[zAf] at l11;cases l11
 |succ k13=>
  rw[zAf] at l11
  refine zAE ?_
  obtain⟨v14,q15,l11⟩:=bs l11
  refine cut 15 1 [(0,pT 0),(3,.osl ⟨1,9⟩ (out8.map cS)),(8,.bool v14.1)] [[.sl (v14.2.l.map zJu.c),iI v14.2.at_]] ?_ ?_
  ·refine st ?_
   simp
   have r31:=(zBg [46] (zJr.mk l6 at7) v14 q15).frame [0] [[.sl (l6.map zJu.c),iI at7]] (by simp)
   try simp at r31
   refine zAW r31 (by simp) rfl ?_
   simp
  refine spc l11 rfl (fun g16 l11=>?_) fun g16 l11=>?_
  ·refine zAC<|zAF<|zAH ?_
   obtain⟨v17,q18,l11⟩:=bs l11
   rcases v17 with e19|v20
   ·replace l11:=elimL l11
    refine stP 2 ?_
    simp
    have r25:=(panL (zA7 2 v14.2 (.inl e19) q18)).frame [0] [[.sl (v14.2.l.map zJu.c),iI v14.2.at_]] (by simp)
    try simp at r25
    refine panC r25 (by simp) (by simp)<|zHM ?_
    replace h:=retL l11 h
    refine zDR<|zHM<|zDR ?_
    cases h
    simp
   replace l11:=zEk l11
   obtain⟨l21,q22,l11⟩:=bs l11
   obtain⟨q23,q24⟩:=app_ok q22
   try simp at q23
   refine last 15 1 [(0,pT 0),(3,.osl ⟨1,9⟩ (l21.map cS))] [[.sl (v20.2.l.map zJu.c),iI v20.2.at_]] ?_ fun zz hs=>?_
   ·refine st ?_
    simp[q23,q24]
    have r26:=(panR (zA7 2 v14.2 (.inr v20) q18)).frame [0] [[.sl (v14.2.l.map zJu.c),iI v14.2.at_]] (by simp)
    try simp[q23,q24] at r26
    refine zAW r26 (by simp[q23,q24]) rfl ?_
    simp[q23,q24]
   refine zDA ?_
   exact⟨(k13,v20.2.l,v20.2.at_,l21),hs,l11,by simp⟩
  refine zBP<|zAU ?_
  rcases o10 with o10|o9
  ·cases l11
  have q27:=Sum.inr.inj (zqa l11)
  replace h:=zEk h
  have q28:o9.1=out8:=by rw[<-q27]
  have q29:o9.2.1=v14.2.l:=by rw[<-q27]
  have q30:o9.2.2=v14.2.at_:=by rw[<-q27]
  refine zAU<|zBU<|zCh (t:=mkS 15 1 [(3,.osl ⟨1,9⟩ (o9.1.map cS))] [[.sl (o9.2.1.map zJu.c),iI o9.2.2]]) ?_ (zBO (by simp[q28,q29,q30]))
  refine cutA 15 1 [(2,.osl ⟨1,9⟩ (o9.1.map cS))] [[.sl (o9.2.1.map zJu.c),iI o9.2.2]]<|zAA ?_
  cases h
  simp
theorem zCa(s1:(List UInt8))(w2:zJr)(r:(zJr) ⊕ (zJr))(h:zBo s1 w2=some r):Sum.elim (fun r=>RawP Tryz.prog 135 (pan1 127) [pT 0,.str s1] [[.sl (w2.l.map zJu.c),iI w2.at_]] [[.sl (r.l.map zJu.c),iI r.at_]]) (fun r=>Raw Tryz.prog 135 [pT 0,.str s1] [[.sl (w2.l.map zJu.c),iI w2.at_]] (.tup []) [[.sl (r.l.map zJu.c),iI r.at_]]) r:=by
 rw[zBo] at h
 refine zEG Tryz.func135 (by rfl) (by rfl) (by simp) (by simp) ?_
 obtain⟨v3,q4,h⟩:=bs h
 refine cut 10 1 [(0,pT 0),(7,.bool (!v3.1))] [[.sl (v3.2.l.map zJu.c),iI v3.2.at_]] ?_ ?_
 ·refine st ?_
  simp
  have r13:=(zBg s1 w2 v3 q4).frame [0] [[.sl (w2.l.map zJu.c),iI w2.at_]] (by simp)
  try simp at r13
  refine zAW r13 (by simp) rfl ?_
  simp
 refine spc h rfl (fun g5 h=>?_) fun g5 h=>?_
 ·have g6:=notT g5
  obtain⟨v7,q8,h⟩:=bs h
  rcases v7 with e9|v10
  ·replace h:=elimL h
   refine stP 1 ?_
   simp
   have r11:=(panL (zD1 v3.2 (.inl e9) q8)).frame [0] [[.sl (v3.2.l.map zJu.c),iI v3.2.at_]] (by simp)
   try simp at r11
   refine panC r11 (by simp) (by simp) ?_
   cases h
   simp
  replace h:=zEk h
  cases v10
 have g12:=notF g5
 refine zAC ?_
 cases h
 simp
theorem zBu(w1:zJr)(r:Bool)(h:zBj w1=some r):Raw Tryz.prog 128 [pT 0] [[.sl (w1.l.map zJu.c),iI w1.at_]] (.bool r) [[.sl (w1.l.map zJu.c),iI w1.at_]]:=by
 rw[zBj] at h
 refine zAl Tryz.func128 (by rfl) (by rfl) (by simp) (by simp)<|cutA 9 1 [(0,pT 0)] [[.sl (w1.l.map zJu.c),iI w1.at_]] ?_
 obtain⟨b7,q8,h⟩:=bs h
 refine cut 9 1 [(2,.bool b7)] [[.sl (w1.l.map zJu.c),iI w1.at_]] ?_ ?_
 ·obtain⟨v2,q3,q8⟩:=bs q8
  rcases sp q8 with ⟨g4,q8⟩|⟨g4,q8⟩
  ·obtain rfl:=oi q8
   refine st ?_
   simp[g4]
   have r9:=(zAQ 2 w1 v2 q3).frame [0] [[.sl (w1.l.map zJu.c),iI w1.at_]] (by simp)
   try simp[g4] at r9
   refine zAW r9 (by simp[g4]) rfl ?_
   simp[g4]
  obtain⟨v5,q6,q8⟩:=bs q8
  obtain rfl:=oi q8
  refine st ?_
  simp[g4]
  have r10:=(zAQ 2 w1 v2 q3).frame [0] [[.sl (w1.l.map zJu.c),iI w1.at_]] (by simp)
  try simp[g4] at r10
  refine zAW r10 (by simp[g4]) rfl ?_
  simp[g4]
  have r11:=(zAQ 1 w1 v5 q6).frame [0] [[.sl (w1.l.map zJu.c),iI w1.at_]] (by simp)
  try simp[g4] at r11
  refine zAW r11 (by simp[g4]) rfl ?_
  simp[g4]
 refine zAA ?_
 cases h
 simp
end Go.Proofs.YtbnahfdbjaohkaaGreatDoor
