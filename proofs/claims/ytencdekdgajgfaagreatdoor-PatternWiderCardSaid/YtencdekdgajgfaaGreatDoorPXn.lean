/- For every input the law PatternWider returns true. Part 14 of 22. No condition. -/
import Derived.Test.YtencdekdgajgfaaGreatDoorPXm
import Derived.Shelf.SlGeneric
import Derived.Shelf.SlicesQ.Reverse
import Derived.Ground.SlgnProg
set_option linter.unusedVariables false
set_option linter.unnecessarySimpa false
set_option linter.unusedSimpArgs false
set_option maxRecDepth 100000
set_option maxHeartbeats 1000000
namespace Go.Proofs
open Go.Shelf
def Tryz.revCon_ren:Go.Shelf.Ren:=⟨fun|35=>185|n=>n,fun|22=>29|23=>31|3=>3|4=>4|0=>0|n=>n,fun|n=>n⟩
theorem Tryz.revCon:Go.Proofs.SlLaysE0.n35 Tryz.prog Tryz.revCon_ren:={
 mixed:=by kernel_rfl
 f35:=⟨Tryz.f185.name,by decide,Tryz.func185.trans (congrArg some (by kernel_rfl))⟩
 t0:=Tryz.underlying0
 a0:=Tryz.isAgg0
 z0:=Tryz.sizeOf0
 v0:=Tryz.zeroValue0
 t3:=Tryz.underlying3
 a3:=Tryz.isAgg3
 z3:=Tryz.sizeOf3
 v3:=Tryz.zeroValue3
 t4:=Tryz.underlying4
 a4:=Tryz.isAgg4
 z4:=Tryz.sizeOf4
 v4:=Tryz.zeroValue4
 t22:=Tryz.underlying29
 a22:=Tryz.isAgg29
 z22:=Tryz.sizeOf29
 v22:=Tryz.zeroValue29}
end Go.Proofs
namespace Go.Proofs.YtencdekdgajgfaaGreatDoor
open Go Go.Abs Go.RowKit
theorem growPost{imm:Addr->Option Value}{w:World}{ec:EC}{cells:Array Value}{cap:Nat}(hc:cells.size=cap*ec.size)(him: ∀x v,imm x=some v->w.cell? x=some v):
 ∃imm' v bo,Ending.returned (.slice (some ⟨w.heap.size,0,none⟩) 0 cap)=.returned v∧Rep imm' [] (.osl ec []) v∧OwnsBy imm' (w.alloc (.cells cells ec.ty)).drew bo (.osl ec []) v∧
  (∀k,bo=some k->w.heap.size<=k∧k<(w.alloc (.cells cells ec.ty)).drew.heap.size)∧
  (∀x v,imm x=some v->imm' x=some v)∧(∀x v,imm' x=some v->(w.alloc (.cells cells ec.ty)).drew.cell? x=some v)∧Below w.heap.size w (w.alloc (.cells cells ec.ty)).drew∧
  (∀x v,imm' x=some v->imm x=some v∨w.heap.size<=x.block):=by
 have hnew:=zDD w (.cells cells ec.ty (0,0))
 have hlt: ∀x v,imm x=some v->x.block<w.heap.size:=fun x v h=>World.block_lt_of_cell? _ _ (him x v h)
 refine⟨imm,_,some w.heap.size,rfl,.osl ec [] _ 0 cap (fun _ _=>undef) rfl (Nat.zero_le _) (Nat.zero_le _) (fun i e h=>by simp at h) (fun i e h=>by simp at h) (fun i e h=>by simp at h),?_,?_,fun _ _ h=>h,?_,?_,fun x v h=>.inl h⟩
 ·intro base n cap' hv
  simp only[Value.slice.injEq] at hv
  obtain⟨rfl,rfl,rfl⟩:=hv
  refine .inr ⟨_,rfl,rfl,⟨rfl,rfl,cells.size,?_,by rw[hc];exact Nat.le_refl _⟩,?_⟩
  ·show zIB (w.alloc (.cells cells ec.ty (0,0))) w.heap.size=_
   unfold zIB
   rw[hnew]
   exact if_pos (.inl rfl)
  ·intro j hj1 hj2
   have hb:((⟨w.heap.size,0,none⟩:Addr).add j).block=w.heap.size:=zE8 _ _
   refine⟨?_,?_,?_⟩
   ·cases h:imm ((⟨w.heap.size,0,none⟩:Addr).add j) with
    |none=>rfl
    |some v=>have:=hlt _ v h;omega
   ·have hj:j<cells.size:=by rw[hc];exact hj2
    refine⟨cells[j],?_⟩
    show(w.alloc (.cells cells ec.ty (0,0))).cell? _=_
    rw[zIG]
    simp only[World.cell?,hnew]
    simp[hj]
   ·show(w.alloc (.cells cells ec.ty (0,0))).frozen? _=_
    rw[zIG]
    simp only[World.frozen?,hnew]
    simp
 ·intro k hk
  cases hk
  simp
 ·intro x v h
  show(w.alloc (.cells cells ec.ty (0,0))).cell? x=some v
  rw[World.cell?_alloc_lt _ _ _ (hlt x v h)]
  exact him x v h
 ·exact((Below.refl w.heap.size w).alloc (Nat.le_refl _) _).drew
theorem grow_zero(w:World):Calls Tryz.prog 47 #[.slice none 0 0,.int .i64 0] w fun e w'=>e=.returned (.slice none 0 0)∧w'=w:=by
 go_enter Tryz.func47,Tryz.ntmps47
 go_wp2
 go_ret
 exact⟨rfl,rfl⟩
theorem grow_some(n:Nat)(hn:0<n)(hfit:n*56<=140737488355328)(w:World):
 Calls Tryz.prog 47 #[.slice none 0 0,.int .i64 n] w fun e w'=> ∃(cells:Array Value) (cap:Nat),cells.size=cap*4∧e=.returned (.slice (some ⟨w.heap.size,0,none⟩) 0 cap)∧w'=(w.alloc (.cells cells 24)).drew:=by
 have h1: ¬((n:Int)<0):=by omega
 have h2:(0:Int)<n:=by omega
 have hnn: ¬n=0:=by omega
 have h48:=growslice_fits (old:=0) hn hfit
 have h48': ¬(281474976710656<Builtin.nextslicecap n 0*56):=by omega
 have h49: ¬(281474976710656<(n:Int)*56):=by omega
 have h63: ¬(9223372036854775807<(n:Int)):=by omega
 have hge:=grownCap_ge w n 0 24
 unfold grownCap at hge
 go_enter Tryz.func47,Tryz.ntmps47
 go_wp2
 go_ret
 refine⟨_,(Question.appendCap n 0 24).cut (w.tape w.drawn (Question.appendCap n 0 24)),?_,rfl,rfl⟩
 simp only[Array.size_append,size_zeroCells,List.size_toArray,List.length_cons,List.length_nil]
 omega
theorem grow_O(n:Int)(h0:0<=n)(hfit:n*56<=140737488355328):PureO Tryz.prog 47 [.nsl,.int .i64 n] ⟨4,24⟩ []:=by
 refine⟨⟨Tryz.f47,Tryz.func47,by rfl,by rfl⟩,fun imm w vals him _ _ ha=>?_⟩
 obtain⟨a1,a2⟩:=ha
 have e0:=a2 0 _ rfl
 have e1:=a2 1 _ rfl
 have hv:vals=#[.slice none 0 0,.int .i64 n]:=by
  have s2:vals.size=2:=a1
  have c0:vals.getD 0 undef=.slice none 0 0:=by cases h:vals.getD 0 undef<;>rw[h] at e0<;>cases e0;rfl
  have c1:vals.getD 1 undef=.int .i64 n:=by cases h:vals.getD 1 undef<;>rw[h] at e1<;>cases e1;rfl
  apply Array.ext
  ·simpa using s2
  ·intro i h1 h2
   have:i=0∨i=1:=by omega
   rcases this with rfl|rfl
   ·simpa[zq6,h1] using c0
   ·simpa[zq6,h1] using c1
 subst hv
 obtain⟨m,rfl⟩: ∃m:Nat,n=m:=⟨n.toNat,by omega⟩
 by_cases hm:m=0
 ·subst hm
  refine(grow_zero w).mono fun e w' h=>?_
  obtain⟨rfl,rfl⟩:=h
  exact⟨imm,_,none,rfl,.osl0 _,fun base n cap hv=>by cases hv;exact .inl rfl,fun k hk=>(by cases hk),fun _ _ h=>h,him,Below.refl _ _,fun x v h=>.inl h⟩
 ·refine(grow_some m (by omega) (by omega) w).mono fun e w' h=>?_
  obtain⟨cells,cap,hc,rfl,rfl⟩:=h
  exact growPost (ec:=⟨4,24⟩) hc him
end Go.Proofs.YtencdekdgajgfaaGreatDoor
namespace Go.Proofs.YtencdekdgajgfaaGreatDoor
open Go Go.Abs
theorem zKE:yes (callN Tryz.prog (libC libHas libTab) 100000 100 5 [] [])=true:=by decide +kernel
theorem zLD(r:Bool)(h:zF3=some r):Pure Tryz.prog 5 [] (.bool r):=by
 cases h
 exact yes_ok (callN_ok lib_ok mixed 100000 100) zKE
theorem zLC(fuel:Nat):(∀(p1:zLc)(depth2:Int)(c3:Int)(r:Int)(_:zCH fuel p1 depth2 c3=some r),Raw Tryz.prog 23 [.agg (zLc.d p1),iI depth2,pT 0,pT 1] [[iI c3],[.fn (.func 23) [] [pT 0,pT 1]]] (.tup []) [[iI r],[.fn (.func 23) [] [pT 0,pT 1]]]):=by
 induction fuel with
 |zero=>intro p1 depth2 c3 r h;rw[zCH] at h;cases h
 |succ fuel zIF=>
  intro p1 depth2 c3 r h
  rw[zCH] at h
  refine zAw Tryz.func23 (by rfl) (by rfl) (by simp) (by simp)<|cutA 43 2 [(1,iI depth2),(2,pT 0),(3,pT 1),(4,pT 2)] [[iI c3],[.fn (.func 23) [] [pT 0,pT 1]],(zLc.d p1)] ?_
  obtain⟨n4,q5,h⟩:=bs h
  obtain⟨q6,q7⟩:=zC9 q5
  try simp at q6
  try simp at q7
  have c8:=q6;simp only[Rng,inR] at c8
  refine cut 43 2 [(1,iI depth2),(2,pT 0),(3,pT 1),(4,pT 2)] [[iI n4],[.fn (.func 23) [] [pT 0,pT 1]],(zLc.d p1)] (st (by simp[q6,q7]))<|zAC<|cut 43 2 [(1,iI depth2),(2,pT 0),(3,pT 1),(4,pT 2),(22,.bool ((ltI 50 depth2)||((ltI 20 (p1.L.length:Int))||(ltI 200 (p1.S.length:Int)))))] [[iI n4],[.fn (.func 23) [] [pT 0,pT 1]],(zLc.d p1)] ?_ ?_
  ·rcases tf (ltI 50 depth2) with g9|g9
   ·have c10:=ltT g9
    refine st ?_
    simp[g9]
   have c11:=ltF g9
   rcases tf (ltI 20 (p1.L.length:Int)) with g12|g12
   ·have c13:=ltT g12
    refine zC7 2 3 rfl rfl rfl fun f14=>?_
    rw[zq4] at f14
    refine st ?_
    simp[g9,g12]
   have c15:=ltF g12
   refine zC7 2 3 rfl rfl rfl fun f16=>?_
   rw[zq4] at f16
   refine st ?_
   simp[g9,g12]
  rcases sp h with ⟨g17,h⟩|⟨g17,h⟩
  ·refine zD5 rfl g17<|lastA 43 2 [(1,iI depth2),(2,pT 0),(3,pT 1),(4,pT 2)] [[iI 1000],[.fn (.func 23) [] [pT 0,pT 1]],(zLc.d p1)]<|cutA 43 2 [(1,iI depth2),(2,pT 0),(3,pT 1),(4,pT 2),(6,iI 0)] [[iI 1000],[.fn (.func 23) [] [pT 0,pT 1]],(zLc.d p1)]<|zAG ?_
   obtain⟨o20,l21,h⟩:=bs h
   refine zBR (fun p:Nat×Int×Nat=>mkS 43 2 [(1,iI depth2),(2,pT 0),(3,pT 1),(4,pT 2),(6,iI p.2.2)] [[iI p.2.1],[.fn (.func 23) [] [pT 0,pT 1]],(zLc.d p1)]) (fun p=>zDQ (zCH fuel) p1 depth2 p.1 p.2.1 p.2.2=some o20) (fun p=>p.1) (fuel,1000,0) l21 (zA1 (by simp)) ?_
   rintro⟨k22,a18,i19⟩ l21
   try dsimp only at l21 ⊢
   cases k22 with
   |zero=>
    rw[zDQ] at l21;cases l21
   |succ k23=>
    rw[zDQ] at l21
    refine zAC<|cut 43 2 [(1,iI depth2),(2,pT 0),(3,pT 1),(4,pT 2),(6,iI i19),(31,.bool ((ltI ((i19:Nat):Int) (p1.L.length:Int))&&(leI a18 200)))] [[iI a18],[.fn (.func 23) [] [pT 0,pT 1]],(zLc.d p1)] ?_ ?_
    ·rcases tf (ltI ((i19:Nat):Int) (p1.L.length:Int)) with g24|g24
     ·have c25:=ltT g24
      refine zC7 2 3 rfl rfl rfl fun f26=>?_
      rw[zq4] at f26
      refine st ?_
      simp[g24]
     have c27:=ltF g24
     refine zC7 2 3 rfl rfl rfl fun f28=>?_
     rw[zq4] at f28
     refine st ?_
     simp[g24]
    rcases sp l21 with ⟨g29,l21⟩|⟨g29,l21⟩
    ·obtain⟨g30,g31⟩:=andT g29
     have c32:=ltT g30
     have c34:=leT g31
     refine zD5 rfl g29<|zC7 2 3 rfl rfl rfl fun f33=>?_
     rw[zq4] at f33
     refine zAD<|zAK<|zAC<|zAG ?_
     obtain⟨x35,q36,l21⟩:=bs l21
     obtain⟨n37,q38,l21⟩:=bs l21
     obtain⟨q39,q40⟩:=zC9 q38
     try simp at q39
     try simp at q40
     have c41:=q39;simp only[Rng,inR] at c41
     obtain⟨v42,q43,l21⟩:=bs l21
     refine last 43 2 [(1,iI depth2),(2,pT 0),(3,pT 1),(4,pT 2),(6,iI i19)] [[iI v42],[.fn (.func 23) [] [pT 0,pT 1]],(zLc.d p1)] ?_ fun zz hs=>?_
     ·refine zAc [] [8] mixed (n:=43) rfl (by decide) (by decide) ?_
      simp[q36,q39,q40]
      have r45:=(zIF x35 n37 a18 v42 q43).frame [0,1] [[iI a18],[.fn (.func 23) [] [pT 0,pT 1]],(zLc.d p1)] (by simp)
      try simp[q36,q39,q40] at r45
      refine callX r45 (by simp[q36,q39,q40]) rfl ?_
      simp[q36,q39,q40]
     refine zDg<|zBS ?_ hs
     have q44:Rng .i64 (((i19:Nat):Int)+1):=by simp only[Rng,inR];omega
     try simp at q44
     refine last 43 2 [(1,iI depth2),(2,pT 0),(3,pT 1),(4,pT 2),(6,iI ((i19+1:Nat):Int))] [[iI v42],[.fn (.func 23) [] [pT 0,pT 1]],(zLc.d p1)] (st (by simp[q44])) fun zz hs=>?_
     exact⟨(k23,v42,i19+1),hs,l21,by simp⟩
    refine zEK rfl g29<|zAp<|zAH ?_
    have q46:=zqa l21
    have q46:=q46.symm
    refine zAH<|zAt ?_
    cases h
    simp[q46]
  obtain⟨g47,g48⟩:=orF g17
  have c49:=ltF g47
  obtain⟨g50,g51⟩:=orF g48
  have c52:=ltF g50
  have c54:=ltF g51
  refine zEK rfl g17<|zC7 2 3 rfl rfl rfl fun f53=>?_
  rw[zq4] at f53
  refine factCS 2 2 rfl rfl fun f55=>?_
  refine zAD<|zAK<|cutA 43 2 [(1,iI depth2),(2,pT 0),(3,pT 1),(4,pT 2),(6,iI 0)] [[iI n4],[.fn (.func 23) [] [pT 0,pT 1]],(zLc.d p1)]<|zAG ?_
  obtain⟨o58,l59,h⟩:=bs h
  refine zBR (fun p:Nat×Int×Nat=>mkS 43 2 [(1,iI depth2),(2,pT 0),(3,pT 1),(4,pT 2),(6,iI p.2.2)] [[iI p.2.1],[.fn (.func 23) [] [pT 0,pT 1]],(zLc.d p1)]) (fun p=>zCd (zCH fuel) p1 depth2 p.1 p.2.1 p.2.2=some o58) (fun p=>p.1) (fuel,n4,0) l59 (zA1 (by simp)) ?_
  rintro⟨k60,a56,i57⟩ l59
  try dsimp only at l59 ⊢
  cases k60 with
  |zero=>
   rw[zCd] at l59;cases l59
  |succ k61=>
   rw[zCd] at l59
   refine zAC<|cut 43 2 [(1,iI depth2),(2,pT 0),(3,pT 1),(4,pT 2),(6,iI i57),(31,.bool ((ltI ((i57:Nat):Int) (p1.L.length:Int))&&(leI a56 200)))] [[iI a56],[.fn (.func 23) [] [pT 0,pT 1]],(zLc.d p1)] ?_ ?_
   ·rcases tf (ltI ((i57:Nat):Int) (p1.L.length:Int)) with g62|g62
    ·have c63:=ltT g62
     refine st ?_
     simp[g62]
    have c64:=ltF g62
    refine st ?_
    simp[g62]
   rcases sp l59 with ⟨g65,l59⟩|⟨g65,l59⟩
   ·obtain⟨g66,g67⟩:=andT g65
    have c68:=ltT g66
    have c69:=leT g67
    refine zD5 rfl g65<|zAD<|zAK<|zAC<|zAG ?_
    obtain⟨x70,q71,l59⟩:=bs l59
    obtain⟨n72,q73,l59⟩:=bs l59
    obtain⟨q74,q75⟩:=zC9 q73
    try simp at q74
    try simp at q75
    have c76:=q74;simp only[Rng,inR] at c76
    obtain⟨v77,q78,l59⟩:=bs l59
    refine last 43 2 [(1,iI depth2),(2,pT 0),(3,pT 1),(4,pT 2),(6,iI i57)] [[iI v77],[.fn (.func 23) [] [pT 0,pT 1]],(zLc.d p1)] ?_ fun zz hs=>?_
    ·refine zAc [] [8] mixed (n:=43) rfl (by decide) (by decide) ?_
     simp[q71,q74,q75]
     have r80:=(zIF x70 n72 a56 v77 q78).frame [0,1] [[iI a56],[.fn (.func 23) [] [pT 0,pT 1]],(zLc.d p1)] (by simp)
     try simp[q71,q74,q75] at r80
     refine callX r80 (by simp[q71,q74,q75]) rfl ?_
     simp[q71,q74,q75]
    refine zDg<|zBS ?_ hs
    have q79:Rng .i64 (((i57:Nat):Int)+1):=by simp only[Rng,inR];omega
    try simp at q79
    refine last 43 2 [(1,iI depth2),(2,pT 0),(3,pT 1),(4,pT 2),(6,iI ((i57+1:Nat):Int))] [[iI v77],[.fn (.func 23) [] [pT 0,pT 1]],(zLc.d p1)] (st (by simp[q79])) fun zz hs=>?_
    exact⟨(k61,v77,i57+1),hs,l59,by simp⟩
   refine zEK rfl g65<|zAp<|zAH ?_
   have q81:=zqa l59
   have q81:=q81.symm
   refine zAH<|zAt ?_
   cases h
   simp[q81]
theorem zDl(fuel:Nat)(p1:zLc)(r:Bool)(h:zEW fuel p1=some r):Pure Tryz.prog 6 [.agg (zLc.d p1)] (.bool r):=by
 rw[zEW] at h
 refine zAE Tryz.func6 (by rfl) (by rfl) (by simp) (by simp) (by simp)<|cutA 11 0 [(1,pT 0)] [(zLc.d p1)]<|cutA 11 0 [(1,pT 0),(3,pT 1)] [(zLc.d p1),[iI 0]]<|cutA 11 0 [(1,pT 0),(3,pT 1),(4,pT 2)] [(zLc.d p1),[iI 0],[.nilfn]]<|cutA 11 0 [(1,pT 0),(3,pT 1),(4,pT 2)] [(zLc.d p1),[iI 0],[.fn (.func 23) [] [pT 1,pT 2]]] ?_
 obtain⟨v2,q3,h⟩:=bs h
 refine cut 11 0 [(3,pT 1)] [(zLc.d p1),[iI v2],[.fn (.func 23) [] [pT 1,pT 2]]] ?_ ?_
 ·refine st ?_
  simp
  have r4:=(zLC fuel p1 1 0 v2 q3).frame [1,2] [(zLc.d p1),[iI 0],[.fn (.func 23) [] [pT 1,pT 2]]] (by simp)
  try simp at r4
  refine zBK r4 (by simp) rfl ?_
  simp
 refine cutA 11 0 [(2,.bool (ltI 200 v2))] [(zLc.d p1),[iI v2],[.fn (.func 23) [] [pT 1,pT 2]]]<|zAB ?_
 cases h
 simp
theorem zIt(s1:(List UInt8))(r:Bool)(h:zDt s1=some r):Pure Tryz.prog 27 [.str s1] (.bool r):=by
 rw[zDt] at h
 refine zAE Tryz.func27 (by rfl) (by rfl) (by simp) (by simp) (by simp)<|cutA 6 0 [(0,.str s1)] []<|cutA 6 0 [(2,.bool (ltI 100 (s1.length:Int)))] []<|zAB ?_
 cases h
 simp
theorem zEX(fuel:Nat)(s1:(List (List UInt8)))(r:Int)(h:zBj fuel s1=some r):Pure Tryz.prog 51 [.sl (s1.map cS),.fn (.func 27) [] []] (iI r):=by
 rw[zBj] at h
 refine zAE Tryz.func51 (by rfl) (by rfl) (by simp) (by simp) (by simp)<|cutA 19 0 [(0,.sl (s1.map cS)),(1,.fn (.func 27) [] [])] []<|zAC<|cutA 19 0 [(0,.sl (s1.map cS)),(1,.fn (.func 27) [] []),(7,iI s1.length),(8,iI 0)] []<|zAG ?_
 obtain⟨o4,l5,h⟩:=bs h
 refine zBR (fun p:Nat×Nat=>mkS 19 0 [(0,.sl (s1.map cS)),(1,.fn (.func 27) [] []),(7,iI s1.length),(8,iI p.2)] []) (fun p=>zAh s1 p.1 p.2=some o4) (fun p=>p.1) (fuel,0) l5 (zA1 (by simp)) ?_
 rintro⟨k6,i2⟩ l5
 try dsimp only at l5 ⊢
 cases k6 with
 |zero=>
  rw[zAh] at l5;cases l5
 |succ k7=>
  rw[zAh] at l5
  refine cutA 19 0 [(0,.sl (s1.map cS)),(1,.fn (.func 27) [] []),(7,iI s1.length),(8,iI i2),(9,.bool (ltI ((i2:Nat):Int) (s1.length:Int)))] []<|zAC<|spc l5 rfl (fun g8 l5=>?_) fun g8 l5=>?_
  ·have c9:=ltT g8
   refine zCe 0 rfl fun f10=>?_
   rw[zq4] at f10
   refine zAD<|zAK<|zAC<|zAG<|cutA 19 0 [(0,.sl (s1.map cS)),(1,.fn (.func 27) [] []),(5,iI i2),(7,iI s1.length),(8,iI i2)] [] ?_
   obtain⟨x11,q12,l5⟩:=bs l5
   obtain⟨v13,q14,l5⟩:=bs l5
   refine cut 19 0 [(0,.sl (s1.map cS)),(1,.fn (.func 27) [] []),(5,iI i2),(7,iI s1.length),(8,iI i2),(16,.bool v13)] [] ?_ ?_
   ·refine st ?_
    simp[q12]
    have r17:=zIt x11 v13 q14
    try simp[q12] at r17
    refine zAA r17 (by simp) rfl ?_
    simp[q12]
   refine spc l5 rfl (fun g15 l5=>?_) fun g15 l5=>?_
   ·refine cutA 19 0 [(4,iI i2)] []<|zAB<|zAQ<|zAF ?_
    replace h:=retL l5 h
    refine zAF<|zAQ<|zAF ?_
    cases h
    simp
   refine zAD<|zDg<|zAK ?_
   have q16:Rng .i64 (((i2:Nat):Int)+1):=by simp only[Rng,inR];omega
   try simp at q16
   refine last 19 0 [(0,.sl (s1.map cS)),(1,.fn (.func 27) [] []),(7,iI s1.length),(8,iI ((i2+1:Nat):Int))] [] (st (by simp[q16])) fun zz hs=>?_
   exact⟨(k7,i2+1),hs,l5,by simp⟩
  have c18:=ltF g8
  refine zCe 0 rfl fun f19=>?_
  rw[zq4] at f19
  refine zAp<|zAH ?_
  rcases o4 with o4|o3
  ·cases l5
  have q20:=Sum.inr.inj (zqa l5)
  replace h:=zIl h
  refine zAH<|zAt<|zBS (t:=mkS 19 0 [] []) ?_ (zA1 (by simp))
  refine cutA 19 0 [(4,iI (-1))] []<|zAB ?_
  cases h
  simp
theorem zD0(fuel:Nat)(s1:(List (List UInt8)))(r:Bool)(h:zA7 fuel s1=some r):Pure Tryz.prog 26 [.sl (s1.map cS),.fn (.func 27) [] []] (.bool r):=by
 rw[zA7] at h
 refine zAE Tryz.func26 (by rfl) (by rfl) (by simp) (by simp) (by simp)<|cutA 9 0 [(0,.sl (s1.map cS)),(1,.fn (.func 27) [] [])] [] ?_
 obtain⟨v2,q3,h⟩:=bs h
 refine cut 9 0 [(4,.bool (leI 0 v2))] [] ?_ ?_
 ·refine st ?_
  simp
  have r4:=zEX fuel s1 v2 q3
  try simp at r4
  refine zAA r4 (by simp) rfl ?_
  simp
 refine zAB ?_
 cases h
 simp
theorem zKC(fuel:Nat):(∀(k1:zLb)(depth2:Int)(c3:Int)(r:Int)(_:zBo fuel k1 depth2 c3=some r),Raw Tryz.prog 24 [.agg [.sl (k1.L.map zLb.c)],iI depth2,pT 0,pT 1] [[iI c3],[.fn (.func 24) [] [pT 0,pT 1]]] (.tup []) [[iI r],[.fn (.func 24) [] [pT 0,pT 1]]]):=by
 induction fuel with
 |zero=>intro k1 depth2 c3 r h;rw[zBo] at h;cases h
 |succ fuel zHd=>
  intro k1 depth2 c3 r h
  rw[zBo] at h
  refine zAw Tryz.func24 (by rfl) (by rfl) (by simp) (by simp)<|cutA 37 2 [(1,iI depth2),(2,pT 0),(3,pT 1),(4,pT 2)] [[iI c3],[.fn (.func 24) [] [pT 0,pT 1]],[.sl (k1.L.map zLb.c)]] ?_
  obtain⟨n4,q5,h⟩:=bs h
  obtain⟨q6,q7⟩:=zC9 q5
  try simp at q6
  try simp at q7
  have c8:=q6;simp only[Rng,inR] at c8
  refine cut 37 2 [(1,iI depth2),(2,pT 0),(3,pT 1),(4,pT 2)] [[iI n4],[.fn (.func 24) [] [pT 0,pT 1]],[.sl (k1.L.map zLb.c)]] (st (by simp[q6,q7]))<|zAC<|cut 37 2 [(1,iI depth2),(2,pT 0),(3,pT 1),(4,pT 2),(16,.bool ((ltI 20 depth2)||(ltI 10 (k1.L.length:Int))))] [[iI n4],[.fn (.func 24) [] [pT 0,pT 1]],[.sl (k1.L.map zLb.c)]] ?_ ?_
  ·rcases tf (ltI 20 depth2) with g9|g9
   ·have c10:=ltT g9
    refine st ?_
    simp[g9]
   have c11:=ltF g9
   refine st ?_
   simp[g9]
  rcases sp h with ⟨g12,h⟩|⟨g12,h⟩
  ·refine zD5 rfl g12<|lastA 37 2 [(1,iI depth2),(2,pT 0),(3,pT 1),(4,pT 2)] [[iI 1000],[.fn (.func 24) [] [pT 0,pT 1]],[.sl (k1.L.map zLb.c)]]<|cutA 37 2 [(1,iI depth2),(2,pT 0),(3,pT 1),(4,pT 2),(6,iI 0)] [[iI 1000],[.fn (.func 24) [] [pT 0,pT 1]],[.sl (k1.L.map zLb.c)]]<|zAG ?_
   obtain⟨o15,l16,h⟩:=bs h
   refine zBR (fun p:Nat×Int×Nat=>mkS 37 2 [(1,iI depth2),(2,pT 0),(3,pT 1),(4,pT 2),(6,iI p.2.2)] [[iI p.2.1],[.fn (.func 24) [] [pT 0,pT 1]],[.sl (k1.L.map zLb.c)]]) (fun p=>zCk (zBo fuel) k1 depth2 p.1 p.2.1 p.2.2=some o15) (fun p=>p.1) (fuel,1000,0) l16 (zA1 (by simp)) ?_
   rintro⟨k17,a13,i14⟩ l16
   try dsimp only at l16 ⊢
   cases k17 with
   |zero=>
    rw[zCk] at l16;cases l16
   |succ k18=>
    rw[zCk] at l16
    refine zAC<|cut 37 2 [(1,iI depth2),(2,pT 0),(3,pT 1),(4,pT 2),(6,iI i14),(25,.bool ((ltI ((i14:Nat):Int) (k1.L.length:Int))&&(leI a13 400)))] [[iI a13],[.fn (.func 24) [] [pT 0,pT 1]],[.sl (k1.L.map zLb.c)]] ?_ ?_
    ·rcases tf (ltI ((i14:Nat):Int) (k1.L.length:Int)) with g19|g19
     ·have c20:=ltT g19
      refine zC7 2 0 rfl rfl rfl fun f21=>?_
      rw[zq4] at f21
      refine st ?_
      simp[g19]
     have c22:=ltF g19
     refine zC7 2 0 rfl rfl rfl fun f23=>?_
     rw[zq4] at f23
     refine st ?_
     simp[g19]
    rcases sp l16 with ⟨g24,l16⟩|⟨g24,l16⟩
    ·obtain⟨g25,g26⟩:=andT g24
     have c27:=ltT g25
     have c29:=leT g26
     refine zD5 rfl g24<|zC7 2 0 rfl rfl rfl fun f28=>?_
     rw[zq4] at f28
     refine zAD<|zAK<|zAC<|zAG ?_
     obtain⟨x30,q31,l16⟩:=bs l16
     obtain⟨n32,q33,l16⟩:=bs l16
     obtain⟨q34,q35⟩:=zC9 q33
     try simp at q34
     try simp at q35
     have c36:=q34;simp only[Rng,inR] at c36
     obtain⟨v37,q38,l16⟩:=bs l16
     refine last 37 2 [(1,iI depth2),(2,pT 0),(3,pT 1),(4,pT 2),(6,iI i14)] [[iI v37],[.fn (.func 24) [] [pT 0,pT 1]],[.sl (k1.L.map zLb.c)]] ?_ fun zz hs=>?_
     ·refine zAc [] [8] mixed (n:=37) rfl (by decide) (by decide) ?_
      simp[q31,q34,q35]
      have r40:=(zHd x30 n32 a13 v37 q38).frame [0,1] [[iI a13],[.fn (.func 24) [] [pT 0,pT 1]],[.sl (k1.L.map zLb.c)]] (by simp)
      try simp[q31,q34,q35] at r40
      refine callX r40 (by simp[q31,q34,q35]) rfl ?_
      simp[q31,q34,q35]
     refine zDg<|zBS ?_ hs
     have q39:Rng .i64 (((i14:Nat):Int)+1):=by simp only[Rng,inR];omega
     try simp at q39
     refine last 37 2 [(1,iI depth2),(2,pT 0),(3,pT 1),(4,pT 2),(6,iI ((i14+1:Nat):Int))] [[iI v37],[.fn (.func 24) [] [pT 0,pT 1]],[.sl (k1.L.map zLb.c)]] (st (by simp[q39])) fun zz hs=>?_
     exact⟨(k18,v37,i14+1),hs,l16,by simp⟩
    refine zEK rfl g24<|zAp<|zAH ?_
    have q41:=zqa l16
    have q41:=q41.symm
    refine zAH<|zAt ?_
    cases h
    simp[q41]
  obtain⟨g42,g43⟩:=orF g12
  have c44:=ltF g42
  have c45:=ltF g43
  refine zEK rfl g12<|zC7 2 0 rfl rfl rfl fun f46=>?_
  rw[zq4] at f46
  refine zAD<|zAK<|cutA 37 2 [(1,iI depth2),(2,pT 0),(3,pT 1),(4,pT 2),(6,iI 0)] [[iI n4],[.fn (.func 24) [] [pT 0,pT 1]],[.sl (k1.L.map zLb.c)]]<|zAG ?_
  obtain⟨o49,l50,h⟩:=bs h
  refine zBR (fun p:Nat×Int×Nat=>mkS 37 2 [(1,iI depth2),(2,pT 0),(3,pT 1),(4,pT 2),(6,iI p.2.2)] [[iI p.2.1],[.fn (.func 24) [] [pT 0,pT 1]],[.sl (k1.L.map zLb.c)]]) (fun p=>zCj (zBo fuel) k1 depth2 p.1 p.2.1 p.2.2=some o49) (fun p=>p.1) (fuel,n4,0) l50 (zA1 (by simp)) ?_
  rintro⟨k51,a47,i48⟩ l50
  try dsimp only at l50 ⊢
  cases k51 with
  |zero=>
   rw[zCj] at l50;cases l50
  |succ k52=>
   rw[zCj] at l50
   refine zAC<|cut 37 2 [(1,iI depth2),(2,pT 0),(3,pT 1),(4,pT 2),(6,iI i48),(25,.bool ((ltI ((i48:Nat):Int) (k1.L.length:Int))&&(leI a47 400)))] [[iI a47],[.fn (.func 24) [] [pT 0,pT 1]],[.sl (k1.L.map zLb.c)]] ?_ ?_
   ·rcases tf (ltI ((i48:Nat):Int) (k1.L.length:Int)) with g53|g53
    ·have c54:=ltT g53
     refine st ?_
     simp[g53]
    have c55:=ltF g53
    refine st ?_
    simp[g53]
   rcases sp l50 with ⟨g56,l50⟩|⟨g56,l50⟩
   ·obtain⟨g57,g58⟩:=andT g56
    have c59:=ltT g57
    have c60:=leT g58
    refine zD5 rfl g56<|zAD<|zAK<|zAC<|zAG ?_
    obtain⟨x61,q62,l50⟩:=bs l50
    obtain⟨n63,q64,l50⟩:=bs l50
    obtain⟨q65,q66⟩:=zC9 q64
    try simp at q65
    try simp at q66
    have c67:=q65;simp only[Rng,inR] at c67
    obtain⟨v68,q69,l50⟩:=bs l50
    refine last 37 2 [(1,iI depth2),(2,pT 0),(3,pT 1),(4,pT 2),(6,iI i48)] [[iI v68],[.fn (.func 24) [] [pT 0,pT 1]],[.sl (k1.L.map zLb.c)]] ?_ fun zz hs=>?_
    ·refine zAc [] [8] mixed (n:=37) rfl (by decide) (by decide) ?_
     simp[q62,q65,q66]
     have r71:=(zHd x61 n63 a47 v68 q69).frame [0,1] [[iI a47],[.fn (.func 24) [] [pT 0,pT 1]],[.sl (k1.L.map zLb.c)]] (by simp)
     try simp[q62,q65,q66] at r71
     refine callX r71 (by simp[q62,q65,q66]) rfl ?_
     simp[q62,q65,q66]
    refine zDg<|zBS ?_ hs
    have q70:Rng .i64 (((i48:Nat):Int)+1):=by simp only[Rng,inR];omega
    try simp at q70
    refine last 37 2 [(1,iI depth2),(2,pT 0),(3,pT 1),(4,pT 2),(6,iI ((i48+1:Nat):Int))] [[iI v68],[.fn (.func 24) [] [pT 0,pT 1]],[.sl (k1.L.map zLb.c)]] (st (by simp[q70])) fun zz hs=>?_
    exact⟨(k52,v68,i48+1),hs,l50,by simp⟩
   refine zEK rfl g56<|zAp<|zAH ?_
   have q72:=zqa l50
   have q72:=q72.symm
   refine zAH<|zAt ?_
   cases h
   simp[q72]
theorem zKB(fuel:Nat):(∀(c1:zLd)(depth2:Int)(c3:Int)(r:Int)(_:zCT fuel c1 depth2 c3=some r),Raw Tryz.prog 25 [.agg (zLd.d c1),iI depth2,pT 0,pT 1,pT 2] [[iI c3],[.fn (.func 24) [] [pT 0,pT 1]],[.fn (.func 25) [] [pT 0,pT 1,pT 2]]] (.tup []) [[iI r],[.fn (.func 24) [] [pT 0,pT 1]],[.fn (.func 25) [] [pT 0,pT 1,pT 2]]]):=by
 induction fuel with
 |zero=>intro c1 depth2 c3 r h;rw[zCT] at h;cases h
 |succ fuel zKH=>
  intro c1 depth2 c3 r h
  rw[zCT] at h
  refine zAw Tryz.func25 (by rfl) (by rfl) (by simp) (by simp)<|cutA 59 3 [(1,iI depth2),(2,pT 0),(3,pT 1),(4,pT 2),(5,pT 3)] [[iI c3],[.fn (.func 24) [] [pT 0,pT 1]],[.fn (.func 25) [] [pT 0,pT 1,pT 2]],(zLd.d c1)] ?_
  obtain⟨n4,q5,h⟩:=bs h
  obtain⟨q6,q7⟩:=zC9 q5
  try simp at q6
  try simp at q7
  have c8:=q6;simp only[Rng,inR] at c8
  refine cut 59 3 [(1,iI depth2),(2,pT 0),(3,pT 1),(4,pT 2),(5,pT 3)] [[iI n4],[.fn (.func 24) [] [pT 0,pT 1]],[.fn (.func 25) [] [pT 0,pT 1,pT 2]],(zLd.d c1)] (st (by simp[q6,q7]))<|zAC ?_
  obtain⟨b29,q30,h⟩:=bs h
  refine cut 59 3 [(1,iI depth2),(2,pT 0),(3,pT 1),(4,pT 2),(5,pT 3),(34,.bool b29)] [[iI n4],[.fn (.func 24) [] [pT 0,pT 1]],[.fn (.func 25) [] [pT 0,pT 1,pT 2]],(zLd.d c1)] ?_ ?_
  ·rcases sp q30 with ⟨g9,q30⟩|⟨g9,q30⟩
   ·have c10:=ltT g9
    obtain rfl:=oi q30
    refine st ?_
    simp[g9]
   have c11:=ltF g9
   rcases sp q30 with ⟨g12,q30⟩|⟨g12,q30⟩
   ·have c13:=ltT g12
    refine zC7 3 5 rfl rfl rfl fun f14=>?_
    rw[zq4] at f14
    obtain rfl:=oi q30
    refine st ?_
    simp[g9,g12]
   have c15:=ltF g12
   refine zC7 3 5 rfl rfl rfl fun f16=>?_
   rw[zq4] at f16
   rcases sp q30 with ⟨g17,q30⟩|⟨g17,q30⟩
   ·have c18:=ltT g17
    refine zC7 3 4 rfl rfl rfl fun f19=>?_
    rw[zq4] at f19
    obtain rfl:=oi q30
    refine st ?_
    simp[g9,g12,g17]
   have c20:=ltF g17
   refine zC7 3 4 rfl rfl rfl fun f21=>?_
   rw[zq4] at f21
   rcases sp q30 with ⟨g22,q30⟩|⟨g22,q30⟩
   ·have c23:=ltT g22
    refine factCS 3 2 rfl rfl fun f24=>?_
    obtain rfl:=oi q30
    refine st ?_
    simp[g9,g12,g17,g22]
   have c25:=ltF g22
   refine factCS 3 2 rfl rfl fun f26=>?_
   obtain⟨v27,q28,q30⟩:=bs q30
   obtain rfl:=oi q30
   refine st ?_
   simp[g9,g12,g17,g22]
   have r64:=zD0 fuel c1.Names v27 q28
   try simp[g9,g12,g17,g22] at r64
   refine zAA r64 (by simp) rfl ?_
   simp[g9,g12,g17,g22]
  refine spc h rfl (fun g31 h=>?_) fun g31 h=>?_
  ·refine cutA 59 3 [] [[iI 1000],[.fn (.func 24) [] [pT 0,pT 1]],[.fn (.func 25) [] [pT 0,pT 1,pT 2]],(zLd.d c1)]<|zAB<|zAF ?_
   cases h
   simp
  refine zAD<|zAK ?_
  obtain⟨v32,q33,h⟩:=bs h
  refine cut 59 3 [(1,iI depth2),(2,pT 0),(4,pT 2),(5,pT 3)] [[iI v32],[.fn (.func 24) [] [pT 0,pT 1]],[.fn (.func 25) [] [pT 0,pT 1,pT 2]],(zLd.d c1)] ?_ ?_
  ·refine st ?_
   simp
   have r63:=(zKC fuel c1.Kind 1 n4 v32 q33).frame [0,1] [[iI n4],[.fn (.func 24) [] [pT 0,pT 1]],[.fn (.func 25) [] [pT 0,pT 1,pT 2]],(zLd.d c1)] (by simp)
   try simp at r63
   refine zBK r63 (by simp) rfl ?_
   simp
  refine cutA 59 3 [(1,iI depth2),(2,pT 0),(4,pT 2),(5,pT 3),(7,iI 0)] [[iI v32],[.fn (.func 24) [] [pT 0,pT 1]],[.fn (.func 25) [] [pT 0,pT 1,pT 2]],(zLd.d c1)]<|zAG ?_
  obtain⟨o36,l37,h⟩:=bs h
  refine zBR (fun p:Nat×Int×Nat=>mkS 59 3 [(1,iI depth2),(2,pT 0),(4,pT 2),(5,pT 3),(7,iI p.2.2)] [[iI p.2.1],[.fn (.func 24) [] [pT 0,pT 1]],[.fn (.func 25) [] [pT 0,pT 1,pT 2]],(zLd.d c1)]) (fun p=>zCi (zCT fuel) c1 depth2 p.1 p.2.1 p.2.2=some o36) (fun p=>p.1) (fuel,v32,0) l37 (zA1 (by simp)) ?_
  rintro⟨k38,a34,i35⟩ l37
  try dsimp only at l37 ⊢
  cases k38 with
  |zero=>
   rw[zCi] at l37;cases l37
  |succ k39=>
   rw[zCi] at l37
   refine zAC<|cut 59 3 [(1,iI depth2),(2,pT 0),(4,pT 2),(5,pT 3),(7,iI i35),(47,.bool ((ltI ((i35:Nat):Int) (c1.L.length:Int))&&(leI a34 400)))] [[iI a34],[.fn (.func 24) [] [pT 0,pT 1]],[.fn (.func 25) [] [pT 0,pT 1,pT 2]],(zLd.d c1)] ?_ ?_
   ·rcases tf (ltI ((i35:Nat):Int) (c1.L.length:Int)) with g40|g40
    ·have c41:=ltT g40
     refine zC7 3 5 rfl rfl rfl fun f42=>?_
     rw[zq4] at f42
     refine st ?_
     simp[g40]
    have c43:=ltF g40
    refine zC7 3 5 rfl rfl rfl fun f44=>?_
    rw[zq4] at f44
    refine st ?_
    simp[g40]
   rcases sp l37 with ⟨g45,l37⟩|⟨g45,l37⟩
   ·obtain⟨g46,g47⟩:=andT g45
    have c48:=ltT g46
    have c50:=leT g47
    refine zD5 rfl g45<|zC7 3 5 rfl rfl rfl fun f49=>?_
    rw[zq4] at f49
    refine zAD<|zAK<|zAC<|zAG ?_
    obtain⟨x51,q52,l37⟩:=bs l37
    obtain⟨n53,q54,l37⟩:=bs l37
    obtain⟨q55,q56⟩:=zC9 q54
    try simp at q55
    try simp at q56
    have c57:=q55;simp only[Rng,inR] at c57
    obtain⟨v58,q59,l37⟩:=bs l37
    refine last 59 3 [(1,iI depth2),(2,pT 0),(4,pT 2),(5,pT 3),(7,iI i35)] [[iI v58],[.fn (.func 24) [] [pT 0,pT 1]],[.fn (.func 25) [] [pT 0,pT 1,pT 2]],(zLd.d c1)] ?_ fun zz hs=>?_
    ·refine zAc [] [8] mixed (n:=59) rfl (by decide) (by decide) ?_
     simp[q52,q55,q56]
     have r61:=(zKH x51 n53 a34 v58 q59).frame [0,1,2] [[iI a34],[.fn (.func 24) [] [pT 0,pT 1]],[.fn (.func 25) [] [pT 0,pT 1,pT 2]],(zLd.d c1)] (by simp)
     try simp[q52,q55,q56] at r61
     refine callX r61 (by simp[q52,q55,q56]) rfl ?_
     simp[q52,q55,q56]
    refine zDg<|zBS ?_ hs
    have q60:Rng .i64 (((i35:Nat):Int)+1):=by simp only[Rng,inR];omega
    try simp at q60
    refine last 59 3 [(1,iI depth2),(2,pT 0),(4,pT 2),(5,pT 3),(7,iI ((i35+1:Nat):Int))] [[iI v58],[.fn (.func 24) [] [pT 0,pT 1]],[.fn (.func 25) [] [pT 0,pT 1,pT 2]],(zLd.d c1)] (st (by simp[q60])) fun zz hs=>?_
    exact⟨(k39,v58,i35+1),hs,l37,by simp⟩
   refine zEK rfl g45<|zAp<|zAH ?_
   have q62:=zqa l37
   have q62:=q62.symm
   refine zAH<|zAt ?_
   cases h
   simp[q62]
theorem zFF(fuel:Nat)(c1:zLd)(r:Bool)(h:zE4 fuel c1=some r):Pure Tryz.prog 7 [.agg (zLd.d c1)] (.bool r):=by
 rw[zE4] at h
 refine zAE Tryz.func7 (by rfl) (by rfl) (by simp) (by simp) (by simp)<|cutA 13 0 [(1,pT 0)] [(zLd.d c1)]<|cutA 13 0 [(1,pT 0),(3,pT 1)] [(zLd.d c1),[iI 0]]<|cutA 13 0 [(1,pT 0),(3,pT 1),(4,pT 2)] [(zLd.d c1),[iI 0],[.nilfn]]<|cutA 13 0 [(1,pT 0),(3,pT 1),(4,pT 2)] [(zLd.d c1),[iI 0],[.fn (.func 24) [] [pT 1,pT 2]]]<|cutA 13 0 [(1,pT 0),(3,pT 1),(4,pT 2),(5,pT 3)] [(zLd.d c1),[iI 0],[.fn (.func 24) [] [pT 1,pT 2]],[.nilfn]]<|cutA 13 0 [(1,pT 0),(3,pT 1),(5,pT 3)] [(zLd.d c1),[iI 0],[.fn (.func 24) [] [pT 1,pT 2]],[.fn (.func 25) [] [pT 1,pT 2,pT 3]]] ?_
 obtain⟨v2,q3,h⟩:=bs h
 refine cut 13 0 [(3,pT 1)] [(zLd.d c1),[iI v2],[.fn (.func 24) [] [pT 1,pT 2]],[.fn (.func 25) [] [pT 1,pT 2,pT 3]]] ?_ ?_
 ·refine st ?_
  simp
  have r4:=(zKB fuel c1 1 0 v2 q3).frame [1,2,3] [(zLd.d c1),[iI 0],[.fn (.func 24) [] [pT 1,pT 2]],[.fn (.func 25) [] [pT 1,pT 2,pT 3]]] (by simp)
  try simp at r4
  refine zBK r4 (by simp) rfl ?_
  simp
 refine cutA 13 0 [(2,.bool (ltI 400 v2))] [(zLd.d c1),[iI v2],[.fn (.func 24) [] [pT 1,pT 2]],[.fn (.func 25) [] [pT 1,pT 2,pT 3]]]<|zAB ?_
 cases h
 simp
theorem zIu(s1:(List UInt8))(r:Bool)(h:zEo s1=some r):Pure Tryz.prog 41 [.str s1] (.bool r):=by
 rw[zEo] at h
 refine zAE Tryz.func41 (by rfl) (by rfl) (by simp) (by simp) (by simp)<|cutA 6 0 [(0,.str s1)] []<|cutA 6 0 [(2,.bool (ltI 100 (s1.length:Int)))] []<|zAB ?_
 cases h
 simp
theorem zEZ(fuel:Nat)(s1:(List (List UInt8)))(r:Int)(h:zBl fuel s1=some r):Pure Tryz.prog 51 [.sl (s1.map cS),.fn (.func 41) [] []] (iI r):=by
 rw[zBl] at h
 refine zAE Tryz.func51 (by rfl) (by rfl) (by simp) (by simp) (by simp)<|cutA 19 0 [(0,.sl (s1.map cS)),(1,.fn (.func 41) [] [])] []<|zAC<|cutA 19 0 [(0,.sl (s1.map cS)),(1,.fn (.func 41) [] []),(7,iI s1.length),(8,iI 0)] []<|zAG ?_
 obtain⟨o4,l5,h⟩:=bs h
 refine zBR (fun p:Nat×Nat=>mkS 19 0 [(0,.sl (s1.map cS)),(1,.fn (.func 41) [] []),(7,iI s1.length),(8,iI p.2)] []) (fun p=>zAX s1 p.1 p.2=some o4) (fun p=>p.1) (fuel,0) l5 (zA1 (by simp)) ?_
 rintro⟨k6,i2⟩ l5
 try dsimp only at l5 ⊢
 cases k6 with
 |zero=>
  rw[zAX] at l5;cases l5
 |succ k7=>
  rw[zAX] at l5
  refine cutA 19 0 [(0,.sl (s1.map cS)),(1,.fn (.func 41) [] []),(7,iI s1.length),(8,iI i2),(9,.bool (ltI ((i2:Nat):Int) (s1.length:Int)))] []<|zAC<|spc l5 rfl (fun g8 l5=>?_) fun g8 l5=>?_
  ·have c9:=ltT g8
   refine zCe 0 rfl fun f10=>?_
   rw[zq4] at f10
   refine zAD<|zAK<|zAC<|zAG<|cutA 19 0 [(0,.sl (s1.map cS)),(1,.fn (.func 41) [] []),(5,iI i2),(7,iI s1.length),(8,iI i2)] [] ?_
   obtain⟨x11,q12,l5⟩:=bs l5
   obtain⟨v13,q14,l5⟩:=bs l5
   refine cut 19 0 [(0,.sl (s1.map cS)),(1,.fn (.func 41) [] []),(5,iI i2),(7,iI s1.length),(8,iI i2),(16,.bool v13)] [] ?_ ?_
   ·refine st ?_
    simp[q12]
    have r17:=zIu x11 v13 q14
    try simp[q12] at r17
    refine zAA r17 (by simp) rfl ?_
    simp[q12]
   refine spc l5 rfl (fun g15 l5=>?_) fun g15 l5=>?_
   ·refine cutA 19 0 [(4,iI i2)] []<|zAB<|zAQ<|zAF ?_
    replace h:=retL l5 h
    refine zAF<|zAQ<|zAF ?_
    cases h
    simp
   refine zAD<|zDg<|zAK ?_
   have q16:Rng .i64 (((i2:Nat):Int)+1):=by simp only[Rng,inR];omega
   try simp at q16
   refine last 19 0 [(0,.sl (s1.map cS)),(1,.fn (.func 41) [] []),(7,iI s1.length),(8,iI ((i2+1:Nat):Int))] [] (st (by simp[q16])) fun zz hs=>?_
   exact⟨(k7,i2+1),hs,l5,by simp⟩
  have c18:=ltF g8
  refine zCe 0 rfl fun f19=>?_
  rw[zq4] at f19
  refine zAp<|zAH ?_
  rcases o4 with o4|o3
  ·cases l5
  have q20:=Sum.inr.inj (zqa l5)
  replace h:=zIl h
  refine zAH<|zAt<|zBS (t:=mkS 19 0 [] []) ?_ (zA1 (by simp))
  refine cutA 19 0 [(4,iI (-1))] []<|zAB ?_
  cases h
  simp
theorem zD2(fuel:Nat)(s1:(List (List UInt8)))(r:Bool)(h:zA9 fuel s1=some r):Pure Tryz.prog 26 [.sl (s1.map cS),.fn (.func 41) [] []] (.bool r):=by
 rw[zA9] at h
 refine zAE Tryz.func26 (by rfl) (by rfl) (by simp) (by simp) (by simp)<|cutA 9 0 [(0,.sl (s1.map cS)),(1,.fn (.func 41) [] [])] [] ?_
 obtain⟨v2,q3,h⟩:=bs h
 refine cut 9 0 [(4,.bool (leI 0 v2))] [] ?_ ?_
 ·refine st ?_
  simp
  have r4:=zEZ fuel s1 v2 q3
  try simp at r4
  refine zAA r4 (by simp) rfl ?_
  simp
 refine zAB ?_
 cases h
 simp
theorem zKD(fuel:Nat):(∀(v1:zLZ)(depth2:Int)(c3:Int)(r:Int)(_:zBp fuel v1 depth2 c3=some r),Raw Tryz.prog 40 [.agg (zLZ.d v1),iI depth2,pT 0,pT 1] [[iI c3],[.fn (.func 40) [] [pT 0,pT 1]]] (.tup []) [[iI r],[.fn (.func 40) [] [pT 0,pT 1]]]):=by
 induction fuel with
 |zero=>intro v1 depth2 c3 r h;rw[zBp] at h;cases h
 |succ fuel zHe=>
  intro v1 depth2 c3 r h
  rw[zBp] at h
  refine zAw Tryz.func40 (by rfl) (by rfl) (by simp) (by simp)<|cutA 54 2 [(1,iI depth2),(2,pT 0),(3,pT 1),(4,pT 2)] [[iI c3],[.fn (.func 40) [] [pT 0,pT 1]],(zLZ.d v1)] ?_
  obtain⟨n4,q5,h⟩:=bs h
  obtain⟨q6,q7⟩:=zC9 q5
  try simp at q6
  try simp at q7
  have c8:=q6;simp only[Rng,inR] at c8
  refine cut 54 2 [(1,iI depth2),(2,pT 0),(3,pT 1),(4,pT 2)] [[iI n4],[.fn (.func 40) [] [pT 0,pT 1]],(zLZ.d v1)] (st (by simp[q6,q7]))<|zAC ?_
  obtain⟨b29,q30,h⟩:=bs h
  refine cut 54 2 [(1,iI depth2),(2,pT 0),(3,pT 1),(4,pT 2),(33,.bool b29)] [[iI n4],[.fn (.func 40) [] [pT 0,pT 1]],(zLZ.d v1)] ?_ ?_
  ·rcases sp q30 with ⟨g9,q30⟩|⟨g9,q30⟩
   ·have c10:=ltT g9
    obtain rfl:=oi q30
    refine st ?_
    simp[g9]
   have c11:=ltF g9
   rcases sp q30 with ⟨g12,q30⟩|⟨g12,q30⟩
   ·have c13:=ltT g12
    refine zC7 2 4 rfl rfl rfl fun f14=>?_
    rw[zq4] at f14
    obtain rfl:=oi q30
    refine st ?_
    simp[g9,g12]
   have c15:=ltF g12
   refine zC7 2 4 rfl rfl rfl fun f16=>?_
   rw[zq4] at f16
   rcases sp q30 with ⟨g17,q30⟩|⟨g17,q30⟩
   ·have c18:=ltT g17
    refine zC7 2 3 rfl rfl rfl fun f19=>?_
    rw[zq4] at f19
    obtain rfl:=oi q30
    refine st ?_
    simp[g9,g12,g17]
   have c20:=ltF g17
   refine zC7 2 3 rfl rfl rfl fun f21=>?_
   rw[zq4] at f21
   rcases sp q30 with ⟨g22,q30⟩|⟨g22,q30⟩
   ·have c23:=ltT g22
    refine factCS 2 2 rfl rfl fun f24=>?_
    obtain rfl:=oi q30
    refine st ?_
    simp[g9,g12,g17,g22]
   have c25:=ltF g22
   refine factCS 2 2 rfl rfl fun f26=>?_
   obtain⟨v27,q28,q30⟩:=bs q30
   obtain rfl:=oi q30
   refine st ?_
   simp[g9,g12,g17,g22]
   have r90:=zD2 fuel v1.Names v27 q28
   try simp[g9,g12,g17,g22] at r90
   refine zAA r90 (by simp) rfl ?_
   simp[g9,g12,g17,g22]
  refine spc h rfl (fun g31 h=>?_) fun g31 h=>?_
  ·refine lastA 54 2 [(1,iI depth2),(2,pT 0),(3,pT 1),(4,pT 2)] [[iI 1000],[.fn (.func 40) [] [pT 0,pT 1]],(zLZ.d v1)]<|cutA 54 2 [(1,iI depth2),(2,pT 0),(3,pT 1),(4,pT 2),(6,iI 0)] [[iI 1000],[.fn (.func 40) [] [pT 0,pT 1]],(zLZ.d v1)]<|zAG ?_
   obtain⟨o34,l35,h⟩:=bs h
   refine zBR (fun p:Nat×Int×Nat=>mkS 54 2 [(1,iI depth2),(2,pT 0),(3,pT 1),(4,pT 2),(6,iI p.2.2)] [[iI p.2.1],[.fn (.func 40) [] [pT 0,pT 1]],(zLZ.d v1)]) (fun p=>zCl (zBp fuel) v1 depth2 p.1 p.2.1 p.2.2=some o34) (fun p=>p.1) (fuel,1000,0) l35 (zA1 (by simp)) ?_
   rintro⟨k36,a32,i33⟩ l35
   try dsimp only at l35 ⊢
   cases k36 with
   |zero=>
    rw[zCl] at l35;cases l35
   |succ k37=>
    rw[zCl] at l35
    refine zAC<|cut 54 2 [(1,iI depth2),(2,pT 0),(3,pT 1),(4,pT 2),(6,iI i33),(42,.bool ((ltI ((i33:Nat):Int) (v1.L.length:Int))&&(leI a32 400)))] [[iI a32],[.fn (.func 40) [] [pT 0,pT 1]],(zLZ.d v1)] ?_ ?_
    ·rcases tf (ltI ((i33:Nat):Int) (v1.L.length:Int)) with g38|g38
     ·have c39:=ltT g38
      refine zC7 2 4 rfl rfl rfl fun f40=>?_
      rw[zq4] at f40
      refine st ?_
      simp[g38]
     have c41:=ltF g38
     refine zC7 2 4 rfl rfl rfl fun f42=>?_
     rw[zq4] at f42
     refine st ?_
     simp[g38]
    rcases sp l35 with ⟨g43,l35⟩|⟨g43,l35⟩
    ·obtain⟨g44,g45⟩:=andT g43
     have c46:=ltT g44
     have c48:=leT g45
     refine zD5 rfl g43<|zC7 2 4 rfl rfl rfl fun f47=>?_
     rw[zq4] at f47
     refine zAD<|zAK<|zAC<|zAG ?_
     obtain⟨x49,q50,l35⟩:=bs l35
     obtain⟨n51,q52,l35⟩:=bs l35
     obtain⟨q53,q54⟩:=zC9 q52
     try simp at q53
     try simp at q54
     have c55:=q53;simp only[Rng,inR] at c55
     obtain⟨v56,q57,l35⟩:=bs l35
     refine last 54 2 [(1,iI depth2),(2,pT 0),(3,pT 1),(4,pT 2),(6,iI i33)] [[iI v56],[.fn (.func 40) [] [pT 0,pT 1]],(zLZ.d v1)] ?_ fun zz hs=>?_
     ·refine zAc [] [8] mixed (n:=54) rfl (by decide) (by decide) ?_
      simp[q50,q53,q54]
      have r59:=(zHe x49 n51 a32 v56 q57).frame [0,1] [[iI a32],[.fn (.func 40) [] [pT 0,pT 1]],(zLZ.d v1)] (by simp)
      try simp[q50,q53,q54] at r59
      refine callX r59 (by simp[q50,q53,q54]) rfl ?_
      simp[q50,q53,q54]
     refine zDg<|zBS ?_ hs
     have q58:Rng .i64 (((i33:Nat):Int)+1):=by simp only[Rng,inR];omega
     try simp at q58
     refine last 54 2 [(1,iI depth2),(2,pT 0),(3,pT 1),(4,pT 2),(6,iI ((i33+1:Nat):Int))] [[iI v56],[.fn (.func 40) [] [pT 0,pT 1]],(zLZ.d v1)] (st (by simp[q58])) fun zz hs=>?_
     exact⟨(k37,v56,i33+1),hs,l35,by simp⟩
    refine zEK rfl g43<|zAp<|zAH ?_
    have q60:=zqa l35
    have q60:=q60.symm
    refine zAH<|zAt ?_
    cases h
    simp[q60]
  refine zAD<|zAK<|cutA 54 2 [(1,iI depth2),(2,pT 0),(3,pT 1),(4,pT 2),(6,iI 0)] [[iI n4],[.fn (.func 40) [] [pT 0,pT 1]],(zLZ.d v1)]<|zAG ?_
  obtain⟨o63,l64,h⟩:=bs h
  refine zBR (fun p:Nat×Int×Nat=>mkS 54 2 [(1,iI depth2),(2,pT 0),(3,pT 1),(4,pT 2),(6,iI p.2.2)] [[iI p.2.1],[.fn (.func 40) [] [pT 0,pT 1]],(zLZ.d v1)]) (fun p=>zB6 (zBp fuel) v1 depth2 p.1 p.2.1 p.2.2=some o63) (fun p=>p.1) (fuel,n4,0) l64 (zA1 (by simp)) ?_
  rintro⟨k65,a61,i62⟩ l64
  try dsimp only at l64 ⊢
  cases k65 with
  |zero=>
   rw[zB6] at l64;cases l64
  |succ k66=>
   rw[zB6] at l64
   refine zAC<|cut 54 2 [(1,iI depth2),(2,pT 0),(3,pT 1),(4,pT 2),(6,iI i62),(42,.bool ((ltI ((i62:Nat):Int) (v1.L.length:Int))&&(leI a61 400)))] [[iI a61],[.fn (.func 40) [] [pT 0,pT 1]],(zLZ.d v1)] ?_ ?_
   ·rcases tf (ltI ((i62:Nat):Int) (v1.L.length:Int)) with g67|g67
    ·have c68:=ltT g67
     refine zC7 2 4 rfl rfl rfl fun f69=>?_
     rw[zq4] at f69
     refine st ?_
     simp[g67]
    have c70:=ltF g67
    refine zC7 2 4 rfl rfl rfl fun f71=>?_
    rw[zq4] at f71
    refine st ?_
    simp[g67]
   rcases sp l64 with ⟨g72,l64⟩|⟨g72,l64⟩
   ·obtain⟨g73,g74⟩:=andT g72
    have c75:=ltT g73
    have c77:=leT g74
    refine zD5 rfl g72<|zC7 2 4 rfl rfl rfl fun f76=>?_
    rw[zq4] at f76
    refine zAD<|zAK<|zAC<|zAG ?_
    obtain⟨x78,q79,l64⟩:=bs l64
    obtain⟨n80,q81,l64⟩:=bs l64
    obtain⟨q82,q83⟩:=zC9 q81
    try simp at q82
    try simp at q83
    have c84:=q82;simp only[Rng,inR] at c84
    obtain⟨v85,q86,l64⟩:=bs l64
    refine last 54 2 [(1,iI depth2),(2,pT 0),(3,pT 1),(4,pT 2),(6,iI i62)] [[iI v85],[.fn (.func 40) [] [pT 0,pT 1]],(zLZ.d v1)] ?_ fun zz hs=>?_
    ·refine zAc [] [8] mixed (n:=54) rfl (by decide) (by decide) ?_
     simp[q79,q82,q83]
     have r88:=(zHe x78 n80 a61 v85 q86).frame [0,1] [[iI a61],[.fn (.func 40) [] [pT 0,pT 1]],(zLZ.d v1)] (by simp)
     try simp[q79,q82,q83] at r88
     refine callX r88 (by simp[q79,q82,q83]) rfl ?_
     simp[q79,q82,q83]
    refine zDg<|zBS ?_ hs
    have q87:Rng .i64 (((i62:Nat):Int)+1):=by simp only[Rng,inR];omega
    try simp at q87
    refine last 54 2 [(1,iI depth2),(2,pT 0),(3,pT 1),(4,pT 2),(6,iI ((i62+1:Nat):Int))] [[iI v85],[.fn (.func 40) [] [pT 0,pT 1]],(zLZ.d v1)] (st (by simp[q87])) fun zz hs=>?_
    exact⟨(k66,v85,i62+1),hs,l64,by simp⟩
   refine zEK rfl g72<|zAp<|zAH ?_
   have q89:=zqa l64
   have q89:=q89.symm
   refine zAH<|zAt ?_
   cases h
   simp[q89]
theorem zFv(fuel:Nat)(v1:zLZ)(r:Bool)(h:zFm fuel v1=some r):Pure Tryz.prog 13 [.agg (zLZ.d v1)] (.bool r):=by
 rw[zFm] at h
 refine zAE Tryz.func13 (by rfl) (by rfl) (by simp) (by simp) (by simp)<|cutA 11 0 [(1,pT 0)] [(zLZ.d v1)]<|cutA 11 0 [(1,pT 0),(3,pT 1)] [(zLZ.d v1),[iI 0]]<|cutA 11 0 [(1,pT 0),(3,pT 1),(4,pT 2)] [(zLZ.d v1),[iI 0],[.nilfn]]<|cutA 11 0 [(1,pT 0),(3,pT 1),(4,pT 2)] [(zLZ.d v1),[iI 0],[.fn (.func 40) [] [pT 1,pT 2]]] ?_
 obtain⟨v2,q3,h⟩:=bs h
 refine cut 11 0 [(3,pT 1)] [(zLZ.d v1),[iI v2],[.fn (.func 40) [] [pT 1,pT 2]]] ?_ ?_
 ·refine st ?_
  simp
  have r4:=(zKD fuel v1 1 0 v2 q3).frame [1,2] [(zLZ.d v1),[iI 0],[.fn (.func 40) [] [pT 1,pT 2]]] (by simp)
  try simp at r4
  refine zBK r4 (by simp) rfl ?_
  simp
 refine cutA 11 0 [(2,.bool (ltI 400 v2))] [(zLZ.d v1),[iI v2],[.fn (.func 40) [] [pT 1,pT 2]]]<|zAB ?_
 cases h
 simp
theorem zFA(fuel:Nat)(s1:(List zLc))(r:Int)(h:zB5 fuel s1=some r):Pure Tryz.prog 42 [.sl (s1.map zLc.c),.fn (.func 6) [] []] (iI r):=by
 rw[zB5] at h
 refine zAE Tryz.func42 (by rfl) (by rfl) (by simp) (by simp) (by simp)<|cutA 19 0 [(0,.sl (s1.map zLc.c)),(1,.fn (.func 6) [] [])] []<|zAC<|cutA 19 0 [(0,.sl (s1.map zLc.c)),(1,.fn (.func 6) [] []),(7,iI s1.length),(8,iI 0)] []<|zAG ?_
 obtain⟨o4,l5,h⟩:=bs h
 refine zBR (fun p:Nat×Nat=>mkS 19 0 [(0,.sl (s1.map zLc.c)),(1,.fn (.func 6) [] []),(7,iI s1.length),(8,iI p.2)] []) (fun p=>zAv fuel s1 p.1 p.2=some o4) (fun p=>p.1) (fuel,0) l5 (zA1 (by simp)) ?_
 rintro⟨k6,i2⟩ l5
 try dsimp only at l5 ⊢
 cases k6 with
 |zero=>
  rw[zAv] at l5;cases l5
 |succ k7=>
  rw[zAv] at l5
  refine cutA 19 0 [(0,.sl (s1.map zLc.c)),(1,.fn (.func 6) [] []),(7,iI s1.length),(8,iI i2),(9,.bool (ltI ((i2:Nat):Int) (s1.length:Int)))] []<|zAC<|spc l5 rfl (fun g8 l5=>?_) fun g8 l5=>?_
  ·have c9:=ltT g8
   refine zCe 0 rfl fun f10=>?_
   rw[zq4] at f10
   refine zAD<|zAK<|zAC<|zAG<|cutA 19 0 [(0,.sl (s1.map zLc.c)),(1,.fn (.func 6) [] []),(5,iI i2),(7,iI s1.length),(8,iI i2)] [] ?_
   obtain⟨x11,q12,l5⟩:=bs l5
   obtain⟨v13,q14,l5⟩:=bs l5
   refine cut 19 0 [(0,.sl (s1.map zLc.c)),(1,.fn (.func 6) [] []),(5,iI i2),(7,iI s1.length),(8,iI i2),(16,.bool v13)] [] ?_ ?_
   ·refine st ?_
    simp[q12]
    have r17:=zDl fuel x11 v13 q14
    try simp[q12] at r17
    refine zAA r17 (by simp) rfl ?_
    simp[q12]
   refine spc l5 rfl (fun g15 l5=>?_) fun g15 l5=>?_
   ·refine cutA 19 0 [(4,iI i2)] []<|zAB<|zAQ<|zAF ?_
    replace h:=retL l5 h
    refine zAF<|zAQ<|zAF ?_
    cases h
    simp
   refine zAD<|zDg<|zAK ?_
   have q16:Rng .i64 (((i2:Nat):Int)+1):=by simp only[Rng,inR];omega
   try simp at q16
   refine last 19 0 [(0,.sl (s1.map zLc.c)),(1,.fn (.func 6) [] []),(7,iI s1.length),(8,iI ((i2+1:Nat):Int))] [] (st (by simp[q16])) fun zz hs=>?_
   exact⟨(k7,i2+1),hs,l5,by simp⟩
  have c18:=ltF g8
  refine zCe 0 rfl fun f19=>?_
  rw[zq4] at f19
  refine zAp<|zAH ?_
  rcases o4 with o4|o3
  ·cases l5
  have q20:=Sum.inr.inj (zqa l5)
  replace h:=zIl h
  refine zAH<|zAt<|zBS (t:=mkS 19 0 [] []) ?_ (zA1 (by simp))
  refine cutA 19 0 [(4,iI (-1))] []<|zAB ?_
  cases h
  simp
theorem zDC(fuel:Nat)(s1:(List zLc))(r:Bool)(h:zBV fuel s1=some r):Pure Tryz.prog 14 [.sl (s1.map zLc.c),.fn (.func 6) [] []] (.bool r):=by
 rw[zBV] at h
 refine zAE Tryz.func14 (by rfl) (by rfl) (by simp) (by simp) (by simp)<|cutA 9 0 [(0,.sl (s1.map zLc.c)),(1,.fn (.func 6) [] [])] [] ?_
 obtain⟨v2,q3,h⟩:=bs h
 refine cut 9 0 [(4,.bool (leI 0 v2))] [] ?_ ?_
 ·refine st ?_
  simp
  have r4:=zFA fuel s1 v2 q3
  try simp at r4
  refine zAA r4 (by simp) rfl ?_
  simp
 refine zAB ?_
 cases h
 simp
theorem zIf(fuel:Nat)(l1:(List (List UInt8)))(s2:(List UInt8))(r:Int)(h:zE3 fuel l1 s2=some r):Pure Tryz.prog 34 [.sl (l1.map cS),.str s2] (iI r):=by
 rw[zE3] at h
 refine zAE Tryz.func34 (by rfl) (by rfl) (by simp) (by simp) (by simp)<|cutA 19 0 [(0,.sl (l1.map cS)),(1,.str s2)] []<|zAC<|cutA 19 0 [(0,.sl (l1.map cS)),(1,.str s2),(5,iI 0)] []<|zAG ?_
 obtain⟨o5,l6,h⟩:=bs h
 refine zBR (fun p:Nat×Nat=>mkS 19 0 [(0,.sl (l1.map cS)),(1,.str s2),(5,iI p.2)] []) (fun p=>zCv l1 s2 p.1 p.2=some o5) (fun p=>p.1) (fuel,0) l6 (zA1 (by simp)) ?_
 rintro⟨k7,i3⟩ l6
 try dsimp only at l6 ⊢
 cases k7 with
 |zero=>
  rw[zCv] at l6;cases l6
 |succ k8=>
  rw[zCv] at l6
  refine zAC<|cutA 19 0 [(0,.sl (l1.map cS)),(1,.str s2),(5,iI i3),(9,.bool (ltI ((i3:Nat):Int) (l1.length:Int)))] []<|spc l6 rfl (fun g9 l6=>?_) fun g9 l6=>?_
  ·have c10:=ltT g9
   refine zCe 0 rfl fun f11=>?_
   rw[zq4] at f11
   refine zAD<|zAK<|zAC<|zAG ?_
   obtain⟨x12,q13,l6⟩:=bs l6
   refine cut 19 0 [(0,.sl (l1.map cS)),(1,.str s2),(5,iI i3),(17,.bool (eqS x12 s2))] [] (st (by simp[q13]))<|spc l6 rfl (fun g14 l6=>?_) fun g14 l6=>?_
   ·refine cutA 19 0 [(4,iI i3)] []<|zAB<|zAQ<|zAF ?_
    replace h:=retL l6 h
    refine zAF<|zAQ<|zAF ?_
    cases h
    simp
   refine zAD<|zDg<|zAK ?_
   have q15:Rng .i64 (((i3:Nat):Int)+1):=by simp only[Rng,inR];omega
   try simp at q15
   refine last 19 0 [(0,.sl (l1.map cS)),(1,.str s2),(5,iI ((i3+1:Nat):Int))] [] (st (by simp[q15])) fun zz hs=>?_
   exact⟨(k8,i3+1),hs,l6,by simp⟩
  have c16:=ltF g9
  refine zCe 0 rfl fun f17=>?_
  rw[zq4] at f17
  refine zAp<|zAH ?_
  rcases o5 with o5|o4
  ·cases l6
  have q18:=Sum.inr.inj (zqa l6)
  replace h:=zIl h
  refine zAH<|zAt<|zBS (t:=mkS 19 0 [] []) ?_ (zA1 (by simp))
  refine cutA 19 0 [(4,iI (-1))] []<|zAB ?_
  cases h
  simp
theorem zDw(c1:UInt8)(r:Bool)(h:zDr c1=some r):Pure Tryz.prog 155 [.int .u8 c1.toNat] (.bool r):=by
 rw[zDr] at h
 refine zAE Tryz.func155 (by rfl) (by rfl) (by simp) (by simp) (by simp)<|cutA 9 0 [(0,.int .u8 c1.toNat)] []<|cut 9 0 [(2,.bool ((leI 97 (c1.toNat:Int))&&(leI (c1.toNat:Int) 122)))] [] ?_ ?_
 ·rcases tf (leI 97 (c1.toNat:Int)) with g2|g2
  ·have c3:=leT g2
   refine st ?_
   simp[g2]
  have c4:=leF g2
  refine st ?_
  simp[g2]
 refine zAB ?_
 cases h
 simp
theorem zEe(c1:UInt8)(r:Bool)(h:zDI c1=some r):Pure Tryz.prog 157 [.int .u8 c1.toNat] (.bool r):=by
 rw[zDI] at h
 refine zAE Tryz.func157 (by rfl) (by rfl) (by simp) (by simp) (by simp)<|cutA 9 0 [(0,.int .u8 c1.toNat)] []<|cut 9 0 [(2,.bool ((leI 65 (c1.toNat:Int))&&(leI (c1.toNat:Int) 90)))] [] ?_ ?_
 ·rcases tf (leI 65 (c1.toNat:Int)) with g2|g2
  ·have c3:=leT g2
   refine st ?_
   simp[g2]
  have c4:=leF g2
  refine st ?_
  simp[g2]
 refine zAB ?_
 cases h
 simp
theorem zID(c1:UInt8)(r:Bool)(h:zHH c1=some r):Pure Tryz.prog 190 [.int .u8 c1.toNat] (.bool r):=by
 rw[zHH] at h
 refine zAE Tryz.func190 (by rfl) (by rfl) (by simp) (by simp) (by simp)<|cutA 9 0 [(0,.int .u8 c1.toNat)] []<|cut 9 0 [(2,.bool ((leI 48 (c1.toNat:Int))&&(leI (c1.toNat:Int) 57)))] [] ?_ ?_
 ·rcases tf (leI 48 (c1.toNat:Int)) with g2|g2
  ·have c3:=leT g2
   refine st ?_
   simp[g2]
  have c4:=leF g2
  refine st ?_
  simp[g2]
 refine zAB ?_
 cases h
 simp
theorem zK1(c1:UInt8)(r:Bool)(h:zEV c1=some r):Pure Tryz.prog 189 [.int .u8 c1.toNat] (.bool r):=by
 rw[zEV] at h
 refine zAE Tryz.func189 (by rfl) (by rfl) (by simp) (by simp) (by simp)<|cutA 17 0 [(0,.int .u8 c1.toNat)] [] ?_
 obtain⟨b11,q12,h⟩:=bs h
 refine cut 17 0 [(2,.bool b11)] [] ?_ ?_
 ·obtain⟨v2,q3,q12⟩:=bs q12
  rcases sp q12 with ⟨g4,q12⟩|⟨g4,q12⟩
  ·obtain rfl:=oi q12
   refine st ?_
   simp[g4]
   have r13:=zDw c1 v2 q3
   try simp[g4] at r13
   refine zAA r13 (by simp) rfl ?_
   simp[g4]
  obtain⟨v5,q6,q12⟩:=bs q12
  rcases sp q12 with ⟨g7,q12⟩|⟨g7,q12⟩
  ·obtain rfl:=oi q12
   refine st ?_
   simp[g4,g7]
   have r14:=zDw c1 v2 q3
   try simp[g4,g7] at r14
   refine zAA r14 (by simp) rfl ?_
   simp[g4,g7]
   have r15:=zEe c1 v5 q6
   try simp[g4,g7] at r15
   refine zAA r15 (by simp) rfl ?_
   simp[g4,g7]
  obtain⟨v8,q9,q12⟩:=bs q12
  rcases sp q12 with ⟨g10,q12⟩|⟨g10,q12⟩
  ·obtain rfl:=oi q12
   have g4x:=g4
   try simp only[g7,g10] at g4x
   have g7x:=g7
   try simp only[g4,g10] at g7x
   have g10x:=g10
   try simp only[g4,g7] at g10x
   refine zA0<|WL.cut 2 17 0 [(0,.int .u8 c1.toNat),(4,.bool v2)] [] ?_ ?_
   ·simp[g4,g7,g10,g4x,g7x,g10x]
    have r16:=zDw c1 v2 q3
    try simp[g4,g7,g10,g4x,g7x,g10x] at r16
    refine zAA r16 (by simp) rfl ?_
    simp[g4,g7,g10,g4x,g7x,g10x]
   refine WL.cut 3 17 0 [(0,.int .u8 c1.toNat),(5,.bool v2),(7,.bool v5)] [] ?_ ?_
   ·simp[g4,g7,g10,g4x,g7x,g10x]
    have r17:=zEe c1 v5 q6
    try simp[g4,g7,g10,g4x,g7x,g10x] at r17
    refine zAA r17 (by simp) rfl ?_
    simp[g4,g7,g10,g4x,g7x,g10x]
   refine WL.cut 4 17 0 [(0,.int .u8 c1.toNat),(9,.bool v5),(11,.bool v8)] [] ?_ ?_
   ·simp[g4,g7,g10,g4x,g7x,g10x]
    have r18:=zID c1 v8 q9
    try simp[g4,g7,g10,g4x,g7x,g10x] at r18
    refine zAA r18 (by simp) rfl ?_
    simp[g4,g7,g10,g4x,g7x,g10x]
   refine WL.last ?_
   simp[g4,g7,g10,g4x,g7x,g10x]
  obtain rfl:=oi q12
  have g4x:=g4
  try simp only[g7,g10] at g4x
  have g7x:=g7
  try simp only[g4,g10] at g7x
  have g10x:=g10
  try simp only[g4,g7] at g10x
  refine zA0<|WL.cut 2 17 0 [(0,.int .u8 c1.toNat),(4,.bool v2)] [] ?_ ?_
  ·simp[g4,g7,g10,g4x,g7x,g10x]
   have r19:=zDw c1 v2 q3
   try simp[g4,g7,g10,g4x,g7x,g10x] at r19
   refine zAA r19 (by simp) rfl ?_
   simp[g4,g7,g10,g4x,g7x,g10x]
  refine WL.cut 3 17 0 [(0,.int .u8 c1.toNat),(5,.bool v2),(7,.bool v5)] [] ?_ ?_
  ·simp[g4,g7,g10,g4x,g7x,g10x]
   have r20:=zEe c1 v5 q6
   try simp[g4,g7,g10,g4x,g7x,g10x] at r20
   refine zAA r20 (by simp) rfl ?_
   simp[g4,g7,g10,g4x,g7x,g10x]
  refine WL.cut 4 17 0 [(0,.int .u8 c1.toNat),(9,.bool v5),(11,.bool v8)] [] ?_ ?_
  ·simp[g4,g7,g10,g4x,g7x,g10x]
   have r21:=zID c1 v8 q9
   try simp[g4,g7,g10,g4x,g7x,g10x] at r21
   refine zAA r21 (by simp) rfl ?_
   simp[g4,g7,g10,g4x,g7x,g10x]
  refine WL.last ?_
  simp[g4,g7,g10,g4x,g7x,g10x]
 refine zAB ?_
 cases h
 simp
theorem zK0(fuel:Nat)(s1:(List UInt8))(r:Bool)(h:zFL fuel s1=some r):Pure Tryz.prog 188 [.str s1] (.bool r):=by
 rw[zFL] at h
 refine zAE Tryz.func188 (by rfl) (by rfl) (by simp) (by simp) (by simp)<|cutA 15 0 [(0,.str s1)] []<|zAC<|cutA 15 0 [(0,.str s1),(3,iI 0)] []<|zAG ?_
 obtain⟨o4,l5,h⟩:=bs h
 refine zBR (fun p:Nat×Nat=>mkS 15 0 [(0,.str s1),(3,iI p.2)] []) (fun p=>zCc s1 p.1 p.2=some o4) (fun p=>p.1) (fuel,0) l5 (zA1 (by simp)) ?_
 rintro⟨k6,i2⟩ l5
 try dsimp only at l5 ⊢
 cases k6 with
 |zero=>
  rw[zCc] at l5;cases l5
 |succ k7=>
  rw[zCc] at l5
  refine zAC<|cutA 15 0 [(0,.str s1),(3,iI i2),(7,.bool (ltI ((i2:Nat):Int) (s1.length:Int)))] []<|spc l5 rfl (fun g8 l5=>?_) fun g8 l5=>?_
  ·have c9:=ltT g8
   refine factS 0 rfl fun f10=>?_
   refine zAD<|zAK<|zAC<|zAG ?_
   obtain⟨c11,q12,l5⟩:=bs l5
   obtain⟨v13,q14,l5⟩:=bs l5
   refine cut 15 0 [(0,.str s1),(3,iI i2),(14,.bool (!v13))] [] ?_ ?_
   ·refine st ?_
    simp[q12]
    have r19:=zK1 c11 v13 q14
    try simp[q12] at r19
    refine zAA r19 (by simp) rfl ?_
    simp[q12]
   refine spc l5 rfl (fun g15 l5=>?_) fun g15 l5=>?_
   ·have g16:=notT g15
    refine cutA 15 0 [(2,.bool false)] []<|zAB<|zAQ<|zAF ?_
    replace h:=retL l5 h
    refine zAF<|zAQ<|zAF ?_
    cases h
    simp
   have g17:=notF g15
   refine zAD<|zDg<|zAK ?_
   have q18:Rng .i64 (((i2:Nat):Int)+1):=by simp only[Rng,inR];omega
   try simp at q18
   refine last 15 0 [(0,.str s1),(3,iI ((i2+1:Nat):Int))] [] (st (by simp[q18])) fun zz hs=>?_
   exact⟨(k7,i2+1),hs,l5,by simp⟩
  have c20:=ltF g8
  refine factS 0 rfl fun f21=>?_
  refine zAp<|zAH ?_
  rcases o4 with o4|o3
  ·cases l5
  have q22:=Sum.inr.inj (zqa l5)
  replace h:=zIl h
  refine zAH<|zAt<|zBS (t:=mkS 15 0 [] []) ?_ (zA1 (by simp))
  refine cutA 15 0 [(2,.bool true)] []<|zAB ?_
  cases h
  simp
theorem zFC(fuel:Nat)(s1:(List UInt8))(r:Bool)(h:zE2 fuel s1=some r):Pure Tryz.prog 154 [.str s1] (.bool r):=by
 rw[zE2] at h
 refine zAE Tryz.func154 (by rfl) (by rfl) (by simp) (by simp) (by simp)<|cutA 15 0 [(0,.str s1)] [] ?_
 obtain⟨b12,q13,h⟩:=bs h
 refine cut 15 0 [(2,.bool b12)] [] ?_ ?_
 ·rcases sp q13 with ⟨g2,q13⟩|⟨g2,q13⟩
  ·have c3:=leT g2
   refine factS 0 rfl fun f4=>?_
   rcases sp q13 with ⟨g5,q13⟩|⟨g5,q13⟩
   ·have c6:=leT g5
    obtain⟨v7,q8,q13⟩:=bs q13
    obtain rfl:=oi q13
    refine st ?_
    simp[g2,g5]
    have r14:=zK0 fuel s1 v7 q8
    try simp[g2,g5] at r14
    refine zAA r14 (by simp) rfl ?_
    simp[g2,g5]
   have c9:=leF g5
   obtain rfl:=oi q13
   refine st ?_
   simp[g2,g5]
  have c10:=leF g2
  refine factS 0 rfl fun f11=>?_
  obtain rfl:=oi q13
  refine st ?_
  simp[g2]
 refine zAB ?_
 cases h
 simp
theorem ref01_Keys_ok(r:(List (List UInt8)))(h:zFk=some r):Pure Tryz.prog 156 [] (.sl (r.map cS)):=by
 rw[zFk] at h
 refine zAE Tryz.func156 (by rfl) (by rfl) (by simp) (by simp) (by simp)<|cutA 2 0 [] [] ?_
 obtain⟨l1,q2,h⟩:=bs h
 obtain⟨q3,q4⟩:=lit_ok q2
 refine cut 2 0 [(0,.osl ⟨1,9⟩ (l1.map cS))] [] (st (by simp[q3,q4]))<|zAB ?_
 cases h
 simp
theorem zGz(fuel:Nat)(s1:(List UInt8))(r:Bool)(h:zEA fuel s1=some r):Pure Tryz.prog 107 [.str s1] (.bool r):=by
 rw[zEA] at h
 refine zAE Tryz.func107 (by rfl) (by rfl) (by simp) (by simp) (by simp)<|cutA 16 0 [(0,.str s1)] [] ?_
 obtain⟨b14,q15,h⟩:=bs h
 refine cut 16 0 [(2,.bool b14)] [] ?_ ?_
 ·obtain⟨v2,q3,q15⟩:=bs q15
  rcases sp q15 with ⟨g4,q15⟩|⟨g4,q15⟩
  ·obtain⟨c5,q6,q15⟩:=bs q15
   obtain⟨v7,q8,q15⟩:=bs q15
   rcases sp q15 with ⟨g9,q15⟩|⟨g9,q15⟩
   ·obtain⟨v10,q11,q15⟩:=bs q15
    obtain⟨v12,q13,q15⟩:=bs q15
    obtain rfl:=oi q15
    have g4x:=g4
    try simp only[g9] at g4x
    have g9x:=g9
    try simp only[g4] at g9x
    refine zA0<|WL.cut 2 16 0 [(0,.str s1),(4,.bool v2)] [] ?_ ?_
    ·simp[g4,q6,g9,g4x,g9x]
     have r16:=zFC fuel s1 v2 q3
     try simp[g4,q6,g9,g4x,g9x] at r16
     refine zAA r16 (by simp) rfl ?_
     simp[g4,q6,g9,g4x,g9x]
    refine WL.cut 4 16 0 [(0,.str s1),(5,.bool v2),(8,.bool v7)] [] ?_ ?_
    ·simp[g4,q6,g9,g4x,g9x]
     have r17:=zDw c5 v7 q8
     try simp[g4,q6,g9,g4x,g9x] at r17
     refine zAA r17 (by simp) rfl ?_
     simp[g4,q6,g9,g4x,g9x]
    refine WL.cut 3 16 0 [(0,.str s1),(10,.bool v7),(11,.sl (v10.map cS))] [] ?_ ?_
    ·simp[g4,q6,g9,g4x,g9x]
     have r18:=ref01_Keys_ok v10 q11
     try simp[g4,q6,g9,g4x,g9x] at r18
     refine zAA r18 (by simp) rfl ?_
     simp[g4,q6,g9,g4x,g9x]
    refine WL.cut 2 16 0 [(10,.bool v7),(13,iI v12)] [] ?_ ?_
    ·simp[g4,q6,g9,g4x,g9x]
     have r19:=zIf fuel v10 s1 v12 q13
     try simp[g4,q6,g9,g4x,g9x] at r19
     refine zAA r19 (by simp) rfl ?_
     simp[g4,q6,g9,g4x,g9x]
    refine WL.last ?_
    simp[g4,q6,g9,g4x,g9x]
   obtain rfl:=oi q15
   refine st ?_
   simp[g4,q6,g9]
   have r20:=zFC fuel s1 v2 q3
   try simp[g4,q6,g9] at r20
   refine zAA r20 (by simp) rfl ?_
   simp[g4,q6,g9]
   have r21:=zDw c5 v7 q8
   try simp[g4,q6,g9] at r21
   refine zAA r21 (by simp) rfl ?_
   simp[g4,q6,g9]
  obtain rfl:=oi q15
  refine st ?_
  simp[g4]
  have r22:=zFC fuel s1 v2 q3
  try simp[g4] at r22
  refine zAA r22 (by simp) rfl ?_
  simp[g4]
 refine zAB ?_
 cases h
 simp
theorem zGy(fuel:Nat)(s1:(List UInt8))(r:Bool)(h:zD9 fuel s1=some r):Pure Tryz.prog 108 [.str s1] (.bool r):=by
 rw[zD9] at h
 refine zAE Tryz.func108 (by rfl) (by rfl) (by simp) (by simp) (by simp)<|cutA 10 0 [(0,.str s1)] [] ?_
 obtain⟨b9,q10,h⟩:=bs h
 refine cut 10 0 [(2,.bool b9)] [] ?_ ?_
 ·obtain⟨v2,q3,q10⟩:=bs q10
  rcases sp q10 with ⟨g4,q10⟩|⟨g4,q10⟩
  ·obtain⟨c5,q6,q10⟩:=bs q10
   obtain⟨v7,q8,q10⟩:=bs q10
   obtain rfl:=oi q10
   refine st ?_
   simp[g4,q6]
   have r11:=zFC fuel s1 v2 q3
   try simp[g4,q6] at r11
   refine zAA r11 (by simp) rfl ?_
   simp[g4,q6]
   have r12:=zEe c5 v7 q8
   try simp[g4,q6] at r12
   refine zAA r12 (by simp) rfl ?_
   simp[g4,q6]
  obtain rfl:=oi q10
  refine st ?_
  simp[g4]
  have r13:=zFC fuel s1 v2 q3
  try simp[g4] at r13
  refine zAA r13 (by simp) rfl ?_
  simp[g4]
 refine zAB ?_
 cases h
 simp
theorem ref20_node_ok(fuel:Nat)(p1:zLc)(r:Bool)(h:zFi fuel p1=some r):Pure Tryz.prog 63 [.agg (zLc.d p1)] (.bool r):=by
 rw[zFi] at h
 refine zAE Tryz.func63 (by rfl) (by rfl) (by simp) (by simp) (by simp)<|cutA 84 0 [(1,pT 0)] [(zLc.d p1)]<|zAC<|cut 84 0 [(1,pT 0),(25,.bool (if !(eqI p1.N 0) then (!(eqI p1.Op 3))||((!(eqS p1.S ([]:List UInt8)))&&((!(eqI p1.Op 2))&&(!(eqI p1.Op 4)))) else (!(eqS p1.S ([]:List UInt8)))&&((!(eqI p1.Op 2))&&(!(eqI p1.Op 4)))))] [(zLc.d p1)] ?_ ?_
 ·rcases tf (!(eqI p1.N 0)) with g2|g2
  ·have g3:=notT g2
   have c4:=eqF g3
   rcases tf (!(eqI p1.Op 3)) with g5|g5
   ·have g6:=notT g5
    have c7:=eqF g6
    refine st ?_
    simp[g2,g5]
   have g8:=notF g5
   have c9:=eqT g8
   rcases tf (!(eqS p1.S ([]:List UInt8))) with g10|g10
   ·have g11:=notT g10
    rcases tf (!(eqI p1.Op 2)) with g12|g12
    ·have g13:=notT g12
     have c14:=eqF g13
     refine st ?_
     simp[g2,g5,g10,g12]
    have g15:=notF g12
    have c16:=eqT g15
    refine st ?_
    simp[g2,g5,g10,g12]
   have g17:=notF g10
   refine st ?_
   simp[g2,g5,g10]
  have g18:=notF g2
  have c19:=eqT g18
  rcases tf (!(eqS p1.S ([]:List UInt8))) with g20|g20
  ·have g21:=notT g20
   rcases tf (!(eqI p1.Op 2)) with g22|g22
   ·have g23:=notT g22
    have c24:=eqF g23
    refine st ?_
    simp[g2,g20,g22]
   have g25:=notF g22
   have c26:=eqT g25
   refine st ?_
   simp[g2,g20,g22]
  have g27:=notF g20
  refine st ?_
  simp[g2,g20]
 refine spc h rfl (fun g28 h=>?_) fun g28 h=>?_
 ·refine cutA 84 0 [(2,.bool false)] [(zLc.d p1)]<|zAB<|zAF ?_
  cases h
  simp
 refine zAD<|zAK<|zAC<|cutA 84 0 [(1,pT 0),(27,iI p1.Op)] [(zLc.d p1)]<|zAG<|cutA 84 0 [(1,pT 0),(27,iI p1.Op),(28,.bool (eqI p1.Op 1))] [(zLc.d p1)]<|spc h rfl (fun g29 h=>?_) fun g29 h=>?_
 ·refine cutA 84 0 [(2,.bool (eqI (p1.L.length:Int) 0))] [(zLc.d p1)]<|zAB<|zAQ<|zAF ?_
  cases h
  simp
 refine cutA 84 0 [(1,pT 0),(27,iI p1.Op),(34,.bool (eqI p1.Op 2))] [(zLc.d p1)]<|spc h rfl (fun g32 h=>?_) fun g32 h=>?_
 ·obtain⟨b37,q38,h⟩:=bs h
  refine cut 84 0 [(2,.bool b37)] [(zLc.d p1)] ?_ ?_
  ·obtain⟨v34,q35,q38⟩:=bs q38
   rcases sp q38 with ⟨g36,q38⟩|⟨g36,q38⟩
   ·obtain rfl:=oi q38
    refine st ?_
    simp[g36]
    have r39:=zGz fuel p1.S v34 q35
    try simp[g36] at r39
    refine zAA r39 (by simp) rfl ?_
    simp[g36]
   obtain rfl:=oi q38
   refine st ?_
   simp[g36]
   have r40:=zGz fuel p1.S v34 q35
   try simp[g36] at r40
   refine zAA r40 (by simp) rfl ?_
   simp[g36]
  refine zAB<|zAQ<|zAF ?_
  cases h
  simp
 refine cutA 84 0 [(1,pT 0),(27,iI p1.Op),(45,.bool (eqI p1.Op 3))] [(zLc.d p1)]<|spc h rfl (fun g42 h=>?_) fun g42 h=>?_
 ·refine cut 84 0 [(2,.bool ((leI (-4503599627370496) p1.N)&&((leI p1.N 4503599627370496)&&(eqI (p1.L.length:Int) 0))))] [(zLc.d p1)] ?_ ?_
  ·rcases tf (leI (-4503599627370496) p1.N) with g44|g44
   ·have c45:=leT g44
    rcases tf (leI p1.N 4503599627370496) with g46|g46
    ·have c47:=leT g46
     refine st ?_
     simp[g44,g46]
    have c48:=leF g46
    refine st ?_
    simp[g44,g46]
   have c49:=leF g44
   refine st ?_
   simp[g44]
  refine zAB<|zAQ<|zAF ?_
  cases h
  simp
 refine cutA 84 0 [(1,pT 0),(27,iI p1.Op),(61,.bool (eqI p1.Op 4))] [(zLc.d p1)]<|spc h rfl (fun g51 h=>?_) fun g51 h=>?_
 ·obtain⟨b56,q57,h⟩:=bs h
  refine cut 84 0 [(2,.bool b56)] [(zLc.d p1)] ?_ ?_
  ·obtain⟨v53,q54,q57⟩:=bs q57
   rcases sp q57 with ⟨g55,q57⟩|⟨g55,q57⟩
   ·obtain rfl:=oi q57
    refine st ?_
    simp[g55]
    have r58:=zGy fuel p1.S v53 q54
    try simp[g55] at r58
    refine zAA r58 (by simp) rfl ?_
    simp[g55]
   obtain rfl:=oi q57
   refine st ?_
   simp[g55]
   have r59:=zGy fuel p1.S v53 q54
   try simp[g55] at r59
   refine zAA r59 (by simp) rfl ?_
   simp[g55]
  refine zAB<|zAQ<|zAF ?_
  cases h
  simp
 refine cutA 84 0 [(1,pT 0),(72,.bool (eqI p1.Op 5))] [(zLc.d p1)]<|spc h rfl (fun g61 h=>?_) fun g61 h=>?_
 ·refine cut 84 0 [(2,.bool ((!(eqI (p1.L.length:Int) 1))&&(leI (p1.L.length:Int) 9)))] [(zLc.d p1)] ?_ ?_
  ·rcases tf (!(eqI (p1.L.length:Int) 1)) with g63|g63
   ·have g64:=notT g63
    have c65:=eqF g64
    refine st ?_
    simp[g63]
   have g66:=notF g63
   have c67:=eqT g66
   refine st ?_
   simp[g63]
  refine zAB<|zAQ<|zAF ?_
  cases h
  simp
 refine zAD<|zDg<|zAK<|cutA 84 0 [(2,.bool false)] [(zLc.d p1)]<|zAB ?_
 cases h
 simp
theorem zKy(fuel:Nat):(∀(p1:zLc)(left2:Int)(depth3:Int)(r:Int)(_:zCu fuel p1 left2 depth3=some r),Pure Tryz.prog 32 [.agg (zLc.d p1),iI left2,iI depth3] (iI r)):=by
 induction fuel with
 |zero=>intro p1 left2 depth3 r h;rw[zCu] at h;cases h
 |succ fuel zLI=>
  intro p1 left2 depth3 r h
  rw[zCu] at h
  refine zAE Tryz.func32 (by rfl) (by rfl) (by simp) (by simp) (by simp)<|cutA 42 0 [(1,iI left2),(2,iI depth3),(3,pT 0)] [(zLc.d p1)]<|zAC ?_
  obtain⟨b12,q13,h⟩:=bs h
  refine cut 42 0 [(1,iI left2),(2,iI depth3),(3,pT 0),(18,.bool b12)] [(zLc.d p1)] ?_ ?_
  ·rcases sp q13 with ⟨g4,q13⟩|⟨g4,q13⟩
   ·have c5:=ltT g4
    obtain rfl:=oi q13
    refine st ?_
    simp[g4]
   have c6:=ltF g4
   rcases sp q13 with ⟨g7,q13⟩|⟨g7,q13⟩
   ·have c8:=ltT g7
    obtain rfl:=oi q13
    refine st ?_
    simp[g4,g7]
   have c9:=ltF g7
   obtain⟨v10,q11,q13⟩:=bs q13
   obtain rfl:=oi q13
   refine st ?_
   simp[g4,g7]
   have r49:=ref20_node_ok fuel p1 v10 q11
   try simp[g4,g7] at r49
   refine zAA r49 (by simp) rfl ?_
   simp[g4,g7]
  refine spc h rfl (fun g14 h=>?_) fun g14 h=>?_
  ·refine cutA 42 0 [(6,iI (-1))] [(zLc.d p1)]<|zAB<|zAF ?_
   cases h
   simp
  refine zAD<|zAK ?_
  obtain⟨n15,q16,h⟩:=bs h
  obtain⟨q17,q18⟩:=zC9 q16
  try simp at q17
  try simp at q18
  have c19:=q17;simp only[Rng,inR] at c19
  refine cut 42 0 [(1,iI n15),(2,iI depth3),(3,pT 0)] [(zLc.d p1)] (st (by simp[q17,q18]))<|zAC<|cutA 42 0 [(1,iI n15),(2,iI depth3),(3,pT 0),(7,iI 0)] [(zLc.d p1)]<|zAG ?_
  obtain⟨o22,l23,h⟩:=bs h
  refine zBR (fun p:Nat×Int×Nat=>mkS 42 0 [(1,iI p.2.1),(2,iI depth3),(3,pT 0),(7,iI p.2.2)] [(zLc.d p1)]) (fun p=>zCD (zCu fuel) p1 depth3 p.1 p.2.1 p.2.2=some o22) (fun p=>p.1) (fuel,n15,0) l23 (zA1 (by simp)) ?_
  rintro⟨k24,left20,i21⟩ l23
  try dsimp only at l23 ⊢
  cases k24 with
  |zero=>
   rw[zCD] at l23;cases l23
  |succ k25=>
   rw[zCD] at l23
   refine zAC<|cut 42 0 [(1,iI left20),(2,iI depth3),(3,pT 0),(7,iI i21),(29,.bool ((ltI ((i21:Nat):Int) (p1.L.length:Int))&&(leI 0 left20)))] [(zLc.d p1)] ?_ ?_
   ·rcases tf (ltI ((i21:Nat):Int) (p1.L.length:Int)) with g26|g26
    ·have c27:=ltT g26
     refine zC7 0 3 rfl rfl rfl fun f28=>?_
     rw[zq4] at f28
     refine st ?_
     simp[g26]
    have c29:=ltF g26
    refine zC7 0 3 rfl rfl rfl fun f30=>?_
    rw[zq4] at f30
    refine st ?_
    simp[g26]
   rcases sp l23 with ⟨g31,l23⟩|⟨g31,l23⟩
   ·obtain⟨g32,g33⟩:=andT g31
    have c34:=ltT g32
    have c36:=leT g33
    refine zD5 rfl g31<|zC7 0 3 rfl rfl rfl fun f35=>?_
    rw[zq4] at f35
    refine zAD<|zAK<|zAC<|zAG ?_
    obtain⟨x37,q38,l23⟩:=bs l23
    obtain⟨n39,q40,l23⟩:=bs l23
    obtain⟨q41,q42⟩:=zC9 q40
    try simp at q41
    try simp at q42
    have c43:=q41;simp only[Rng,inR] at c43
    obtain⟨v44,q45,l23⟩:=bs l23
    refine last 42 0 [(1,iI v44),(2,iI depth3),(3,pT 0),(7,iI i21)] [(zLc.d p1)] ?_ fun zz hs=>?_
    ·refine st ?_
     simp[q38,q41,q42]
     have r47:=zLI x37 left20 n39 v44 q45
     try simp[q38,q41,q42] at r47
     refine zAA r47 (by simp) rfl ?_
     simp[q38,q41,q42]
    refine zDg<|zBS ?_ hs
    have q46:Rng .i64 (((i21:Nat):Int)+1):=by simp only[Rng,inR];omega
    try simp at q46
    refine last 42 0 [(1,iI v44),(2,iI depth3),(3,pT 0),(7,iI ((i21+1:Nat):Int))] [(zLc.d p1)] (st (by simp[q46])) fun zz hs=>?_
    exact⟨(k25,v44,i21+1),hs,l23,by simp⟩
   refine zEK rfl g31<|zAp<|zAH ?_
   have q48:=zqa l23
   have q48:=q48.symm
   refine zAH<|zAt<|zBS (t:=mkS 42 0 [(1,iI o22)] [(zLc.d p1)]) ?_ (zA1 (by simp[q48]))
   refine cutA 42 0 [(6,iI o22)] [(zLc.d p1)]<|zAB ?_
   cases h
   simp
theorem ref20_vars_ok(fuel:Nat):(∀(l1:(List (List UInt8)))(p2:zLc)(r:(List (List UInt8)))(_:zC4 fuel l1 p2=some r),Pure Tryz.prog 64 [.sl (l1.map cS),.agg (zLc.d p2)] (.sl (r.map cS))):=by
 induction fuel with
 |zero=>intro l1 p2 r h;rw[zC4] at h;cases h
 |succ fuel ih_ref20_vars=>
  intro l1 p2 r h
  rw[zC4] at h
  refine zAE Tryz.func64 (by rfl) (by rfl) (by simp) (by simp) (by simp)<|cutA 31 0 [(0,.sl (l1.map cS)),(3,pT 0)] [(zLc.d p2)]<|zAC<|cutA 31 0 [(0,.sl (l1.map cS)),(3,pT 0),(8,.bool (eqI p2.Op 2))] [(zLc.d p2)]<|spc h rfl (fun g3 h=>?_) fun g3 h=>?_
  ·obtain⟨l5,q6,h⟩:=bs h
   obtain⟨q7,q8⟩:=zHG q6
   try simp at q7
   obtain⟨l9,q10,h⟩:=bs h
   obtain⟨q11,q12⟩:=zHG q10
   have q13:=q11
   try simp at q13
   try simp[q8] at q11
   refine cut 31 0 [(4,.osl ⟨1,9⟩ (l9.map cS))] [(zLc.d p2)] ?_ ?_
   ·refine zAc [999] [6,7] mixed (n:=31) rfl (by decide) (by decide) ?_
    simp[q7,q8,q11,q13,q12]
   refine zAB<|zAF ?_
   cases h
   simp
  refine zAD<|zAK<|zAC<|cutA 31 0 [(0,.sl (l1.map cS)),(3,pT 0),(5,iI 0)] [(zLc.d p2)]<|zAG ?_
  obtain⟨o18,l19,h⟩:=bs h
  refine zBR (fun p:Nat×(List (List UInt8))×Nat=>mkS 31 0 [(0,.sl (p.2.1.map cS)),(3,pT 0),(5,iI p.2.2)] [(zLc.d p2)]) (fun p=>zCt (zC4 fuel) p2 p.1 p.2.1 p.2.2=some o18) (fun p=>p.1) (fuel,l1,0) l19 (zA1 (by simp)) ?_
  rintro⟨k20,l16,i17⟩ l19
  try dsimp only at l19 ⊢
  cases k20 with
  |zero=>
   rw[zCt] at l19;cases l19
  |succ k21=>
   rw[zCt] at l19
   refine zAC<|cutA 31 0 [(0,.sl (l16.map cS)),(3,pT 0),(5,iI i17),(20,.bool (ltI ((i17:Nat):Int) (p2.L.length:Int)))] [(zLc.d p2)]<|spc l19 rfl (fun g22 l19=>?_) fun g22 l19=>?_
   ·have c23:=ltT g22
    refine zC7 0 3 rfl rfl rfl fun f24=>?_
    rw[zq4] at f24
    refine zAD<|zAK<|zAC<|zAG ?_
    obtain⟨x25,q26,l19⟩:=bs l19
    obtain⟨v27,q28,l19⟩:=bs l19
    refine last 31 0 [(0,.sl (v27.map cS)),(3,pT 0),(5,iI i17)] [(zLc.d p2)] ?_ fun zz hs=>?_
    ·refine st ?_
     simp[q26]
     have r30:=ih_ref20_vars l16 x25 v27 q28
     try simp[q26] at r30
     refine zAA r30 (by simp) rfl ?_
     simp[q26]
    refine zDg<|zBS ?_ hs
    have q29:Rng .i64 (((i17:Nat):Int)+1):=by simp only[Rng,inR];omega
    try simp at q29
    refine last 31 0 [(0,.sl (v27.map cS)),(3,pT 0),(5,iI ((i17+1:Nat):Int))] [(zLc.d p2)] (st (by simp[q29])) fun zz hs=>?_
    exact⟨(k21,v27,i17+1),hs,l19,by simp⟩
   have c31:=ltF g22
   refine zC7 0 3 rfl rfl rfl fun f32=>?_
   rw[zq4] at f32
   refine zAp<|zAH ?_
   have q33:=zqa l19
   have q33:=q33.symm
   refine zAH<|zAt<|zBS (t:=mkS 31 0 [(0,.sl (o18.map cS))] [(zLc.d p2)]) ?_ (zA1 (by simp[q33]))
   refine cutA 31 0 [(4,.sl (o18.map cS))] [(zLc.d p2)]<|zAB ?_
   cases h
   simp
theorem ref20_Vars_ok(fuel:Nat)(p1:zLc)(r:(List (List UInt8)))(h:zFj fuel p1=some r):Pure Tryz.prog 33 [.agg (zLc.d p1)] (.sl (r.map cS)):=by
 rw[zFj] at h
 refine zAE Tryz.func33 (by rfl) (by rfl) (by simp) (by simp) (by simp)<|cutA 5 0 [(1,pT 0)] [(zLc.d p1)] ?_
 obtain⟨v2,q3,h⟩:=bs h
 refine cut 5 0 [(2,.sl (v2.map cS))] [(zLc.d p1)] ?_ ?_
 ·refine st ?_
  simp
  have r4:=ref20_vars_ok fuel ([]:List (List UInt8)) p1 v2 q3
  try simp at r4
  refine zAA r4 (by simp) rfl ?_
  simp
 refine zAB ?_
 cases h
 simp
theorem zKz(fuel:Nat)(p1:zLc)(r:Bool)(h:zFK fuel p1=some r):Pure Tryz.prog 9 [.agg (zLc.d p1)] (.bool r):=by
 rw[zFK] at h
 refine zAE Tryz.func9 (by rfl) (by rfl) (by simp) (by simp) (by simp)<|cutA 25 0 [(1,pT 0)] [(zLc.d p1)]<|zAC ?_
 obtain⟨v2,q3,h⟩:=bs h
 refine cut 25 0 [(1,pT 0),(7,.bool (ltI v2 0))] [(zLc.d p1)] ?_ ?_
 ·refine st ?_
  simp
  have r35:=zKy fuel p1 20000 400 v2 q3
  try simp at r35
  refine zAA r35 (by simp) rfl ?_
  simp
 refine spc h rfl (fun g4 h=>?_) fun g4 h=>?_
 ·have c5:=ltT g4
  refine cutA 25 0 [(2,.bool false)] [(zLc.d p1)]<|zAB<|zAF ?_
  cases h
  simp
 have c6:=ltF g4
 refine zAD<|zAK ?_
 obtain⟨v7,q8,h⟩:=bs h
 refine cut 25 0 [(3,.sl (v7.map cS))] [(zLc.d p1)] ?_ ?_
 ·refine st ?_
  simp
  have r34:=ref20_Vars_ok fuel p1 v7 q8
  try simp at r34
  refine zAA r34 (by simp) rfl ?_
  simp
 refine zAC<|cutA 25 0 [(3,.sl (v7.map cS)),(4,iI 0)] [(zLc.d p1)]<|zAG ?_
 obtain⟨o11,l12,h⟩:=bs h
 refine zBR (fun p:Nat×Nat=>mkS 25 0 [(3,.sl (v7.map cS)),(4,iI p.2)] [(zLc.d p1)]) (fun p=>zCb fuel v7 p.1 p.2=some o11) (fun p=>p.1) (fuel,0) l12 (zA1 (by simp)) ?_
 rintro⟨k13,i9⟩ l12
 try dsimp only at l12 ⊢
 cases k13 with
 |zero=>
  rw[zCb] at l12;cases l12
 |succ k14=>
  rw[zCb] at l12
  refine zAC<|cutA 25 0 [(3,.sl (v7.map cS)),(4,iI i9),(13,.bool (ltI ((i9:Nat):Int) (v7.length:Int)))] [(zLc.d p1)]<|spc l12 rfl (fun g15 l12=>?_) fun g15 l12=>?_
  ·have c16:=ltT g15
   refine zCe 3 rfl fun f17=>?_
   rw[zq4] at f17
   refine zAD<|zAK<|zAC<|zAG ?_
   obtain⟨l18,q19,l12⟩:=bs l12
   obtain⟨q20,q21⟩:=zKS q19
   try simp at q20
   try simp at q21
   obtain⟨x22,q23,l12⟩:=bs l12
   obtain⟨v24,q25,l12⟩:=bs l12
   refine cut 25 0 [(3,.sl (v7.map cS)),(4,iI i9),(24,.bool (leI 0 v24))] [(zLc.d p1)] ?_ ?_
   ·refine zAN [] mixed (n:=25) rfl (by decide) ?_
    simp[q20,q21,q23]
    have r30:=zIf fuel l18 x22 v24 q25
    try simp[q20,q21,q23] at r30
    refine zGc r30 (by simp) rfl ?_
    simp[q20,q21,q23]
   refine spc l12 rfl (fun g26 l12=>?_) fun g26 l12=>?_
   ·have c27:=leT g26
    refine cutA 25 0 [(2,.bool false)] [(zLc.d p1)]<|zAB<|zAQ<|zAF ?_
    replace h:=retL l12 h
    refine zAF<|zAQ<|zAF ?_
    cases h
    simp
   have c28:=leF g26
   refine zAD<|zDg<|zAK ?_
   have q29:Rng .i64 (((i9:Nat):Int)+1):=by simp only[Rng,inR];omega
   try simp at q29
   refine last 25 0 [(3,.sl (v7.map cS)),(4,iI ((i9+1:Nat):Int))] [(zLc.d p1)] (st (by simp[q29])) fun zz hs=>?_
   exact⟨(k14,i9+1),hs,l12,by simp⟩
  have c31:=ltF g15
  refine zCe 3 rfl fun f32=>?_
  rw[zq4] at f32
  refine zAp<|zAH ?_
  rcases o11 with o11|o10
  ·cases l12
  have q33:=Sum.inr.inj (zqa l12)
  replace h:=zIl h
  refine zAH<|zAt<|zBS (t:=mkS 25 0 [] [(zLc.d p1)]) ?_ (zA1 (by simp))
  refine cutA 25 0 [(2,.bool true)] [(zLc.d p1)]<|zAB ?_
  cases h
  simp
theorem zGm(s1:(List zLc))(r:(List zLc))(h:zCa s1=some r):Raw Tryz.prog 16 [.sl (s1.map zLc.c)] [] (.msl 0 4 r.length) [row zLc.c r]:=by
 rw[zCa] at h
 refine zAw Tryz.func16 (by rfl) (by rfl) (by simp) (by simp)<|cutA 8 0 [(0,.sl (s1.map zLc.c))] []<|zAC ?_
 obtain⟨u2,q3,h⟩:=bs h
 have q4:=neC_ok q3
 refine cut 8 0 [(0,.sl (s1.map zLc.c)),(4,.bool false)] [] (st (by simp[q4]))<|zEK rfl rfl<|zAD<|zAK ?_
 obtain⟨l5,q6,h⟩:=bs h
 obtain⟨q7,q8⟩:=clC_ok q6
 have q9:=clC_row (zLc.c) l5
 try simp at q9
 refine cut 8 0 [(2,.msl 0 4 l5.length)] [row zLc.c l5] ?_ ?_
 ·refine st ?_
  simp[q7,q8,q9]
  refine empR ?_
  simp[q7,q8,q9]
 refine zAB ?_
 cases h
 simp
theorem zGo(fuel:Nat):(∀(p1:zLc)(at2:(List UInt8))(r:zLc)(_:zBQ fuel p1 at2=some r),Raw Tryz.prog 15 [.agg (zLc.d p1),.sl (at2.map cU),pT 0] [[.fn (.func 15) [] [pT 0]]] (.agg (zLc.d r)) [[.fn (.func 15) [] [pT 0]]]):=by
 induction fuel with
 |zero=>intro p1 at2 r h;rw[zBQ] at h;cases h
 |succ fuel zGp=>
  intro p1 at2 r h
  rw[zBQ] at h
  refine raw_of_bodyBE Tryz.func15 (by rfl) (by rfl) (by simp) (by simp)<|cutA 43 1 [(1,.sl (at2.map cU)),(2,pT 0),(3,pT 1),(5,pT 2)] [[.fn (.func 15) [] [pT 0]],(zLc.d p1),zz3]<|zAC<|cut 43 1 [(1,.sl (at2.map cU)),(2,pT 0),(3,pT 1),(5,pT 2),(15,.bool ((eqI (at2.length:Int) 0)||(eqI (p1.L.length:Int) 0)))] [[.fn (.func 15) [] [pT 0]],(zLc.d p1),zz3] ?_ ?_
  ·rcases tf (eqI (at2.length:Int) 0) with g3|g3
   ·have c4:=eqT g3
    refine st ?_
    simp[g3]
   have c5:=eqF g3
   refine st ?_
   simp[g3]
  rcases sp h with ⟨g6,h⟩|⟨g6,h⟩
  ·refine zD5 rfl g6<|cutA 43 1 [(5,pT 2)] [[.fn (.func 15) [] [pT 0]],(zLc.d p1),[iI 1,iI 0,.str ([]:List UInt8),.osl ⟨4,24⟩ (([]:List zLc).map zLc.c)]]<|zAB<|zAF<|retE [] ?_
   cases h
   simp
  obtain⟨g7,g8⟩:=orF g6
  have c9:=eqF g7
  have c10:=eqF g8
  refine zEK rfl g6<|zAD<|zAK ?_
  obtain⟨x11,q12,h⟩:=bs h
  have q13:Rng .i64 ((x11.toNat:Int)):=by have:=(x11).toNat_lt;simp only[Rng,inR];omega
  obtain⟨n14,q15,h⟩:=bs h
  obtain⟨q16,q17⟩:=modC_ok q15
  try simp at q16
  try simp at q17
  refine cut 43 1 [(1,.sl (at2.map cU)),(2,pT 0),(3,pT 1),(5,pT 2),(6,iI n14)] [[.fn (.func 15) [] [pT 0]],(zLc.d p1),zz3] ?_ ?_
  ·refine zAN [] mixed (n:=43) rfl (by decide) ?_
   simp[q12,q13,q16,q17]
  obtain⟨v18,q19,h⟩:=bs h
  refine cut 43 1 [(1,.sl (at2.map cU)),(2,pT 0),(3,pT 1),(5,pT 2),(6,iI n14)] [[.fn (.func 15) [] [pT 0]],[iI p1.Op,iI p1.N,.str p1.S,.msl 3 4 v18.length],zz3,row zLc.c v18] ?_ ?_
  ·refine st ?_
   simp
   have r48:=(zGm p1.L v18 q19).frame [] [[.fn (.func 15) [] [pT 0]],(zLc.d p1),zz3] (by simp)
   try simp at r48
   refine zBK r48 (by simp) rfl ?_
   simp
  obtain⟨u20,q21,h⟩:=bs h
  have q22:=ixC_ok q21
  have q23:=ixC_nat q21
  try simp at q22
  try simp at q23
  obtain⟨x24,q25,h⟩:=bs h
  have q26:=row_drop zDa q25
  have q27:=row_get zDa q25 (j:=0) (by decide)
  have q28:=row_getE zDa q25 (j:=0) (by decide)
  try simp at q26
  try simp at q27
  try simp at q28
  obtain⟨l29,q30,h⟩:=bs h
  obtain⟨q31,q32⟩:=zKS q30
  try simp at q31
  try simp at q32
  obtain⟨v33,q34,h⟩:=bs h
  obtain⟨u35,q36,h⟩:=bs h
  have q37:=ixC_ok q36
  have q38:=ixC_nat q36
  try simp at q37
  try simp at q38
  obtain⟨x39,q40,h⟩:=bs h
  have q41:=(zq1 q40).1
  have q42:=row_set zDa (l:=v18) (i:=(Int.toNat n14)) (x':=(zLc.mk v33.Op x39.N x39.S x39.L)) (y:=iI v33.Op) (j:=0) q40 (by simp) (by decide)
  try simp at q42
  have q43:=row_set zDa (l:=(v18.set (Int.toNat n14) (zLc.mk v33.Op x39.N x39.S x39.L))) (i:=(Int.toNat n14)) (x':=(zLc.mk v33.Op v33.N x39.S x39.L)) (y:=iI v33.N) (j:=1) (List.getElem?_set_self q41) (by simp) (by decide)
  try simp at q43
  have q44:=row_set zDa (l:=(v18.set (Int.toNat n14) (zLc.mk v33.Op v33.N x39.S x39.L))) (i:=(Int.toNat n14)) (x':=(zLc.mk v33.Op v33.N v33.S x39.L)) (y:=.str v33.S) (j:=2) (List.getElem?_set_self q41) (by simp) (by decide)
  try simp at q44
  have q45:=row_set zDa (l:=(v18.set (Int.toNat n14) (zLc.mk v33.Op v33.N v33.S x39.L))) (i:=(Int.toNat n14)) (x':=v33) (y:=.sl (v33.L.map zLc.c)) (j:=3) (List.getElem?_set_self q41) (by simp) (by decide)
  try simp at q45
  have q46:(Int.toNat n14)*4+4<=v18.length*4:=by omega
  refine cut 43 1 [(3,pT 1),(5,pT 2)] [[.fn (.func 15) [] [pT 0]],[iI p1.Op,iI p1.N,.str p1.S,.msl 3 4 ((v18.set (Int.toNat n14) v33).length)],zz3,row zLc.c (v18.set (Int.toNat n14) v33)] ?_ ?_
  ·refine zAc [0,996,2000002] [13] mixed (n:=43) rfl (by decide) (by decide) ?_
   simp[q22,q23,q25,q26,q27,q28,q31,q32,q37,q38,q40,q42,q43,q44,q45,q46]
   have r47:=(zGp x24 l29 v33 q34).frameZ [0] [[.fn (.func 15) [] [pT 0]],[iI p1.Op,iI p1.N,.str p1.S,.msl 3 4 v18.length],zz3,row zLc.c v18] (by simp) rfl (by simp) (by simp)
   try simp[q22,q23,q25,q26,q27,q28,q31,q32,q37,q38,q40,q42,q43,q44,q45,q46] at r47
   refine zKK r47 (by simp[q22,q23,q25,q26,q27,q28,q31,q32,q37,q38,q40,q42,q43,q44,q45,q46]) rfl (by decide) ?_
   simp[q22,q23,q25,q26,q27,q28,q31,q32,q37,q38,q40,q42,q43,q44,q45,q46]
  refine cutA 43 1 [(5,pT 2)] [[.fn (.func 15) [] [pT 0]],[iI p1.Op,iI p1.N,.str p1.S,.msl 3 4 ((v18.set (Int.toNat n14) v33).length)],[iI p1.Op,iI p1.N,.str p1.S,.msl 3 4 ((v18.set (Int.toNat n14) v33).length)],row zLc.c (v18.set (Int.toNat n14) v33)]<|zAB<|retE [true] ?_
  cases h
  simp
theorem zHP(c1:UInt8)(r:Int)(h:zDd c1=some r):Pure Tryz.prog 132 [.int .u8 c1.toNat] (iI r):=by
 rw[zDd] at h
 refine zAE Tryz.func132 (by rfl) (by rfl) (by simp) (by simp) (by simp)<|cutA 30 0 [(0,.int .u8 c1.toNat)] []<|zAC<|zAG<|cut 30 0 [(0,.int .u8 c1.toNat),(3,.bool ((leI 97 (c1.toNat:Int))&&(leI (c1.toNat:Int) 122)))] [] ?_ ?_
 ·rcases tf (leI 97 (c1.toNat:Int)) with g2|g2
  ·have c3:=leT g2
   refine st ?_
   simp[g2]
  have c4:=leF g2
  refine st ?_
  simp[g2]
 rcases sp h with ⟨g5,h⟩|⟨g5,h⟩
 ·obtain⟨g6,g7⟩:=andT g5
  have c8:=leT g6
  have c9:=leT g7
  refine zD5 rfl g5<|cutA 30 0 [(2,iI 1)] []<|zAB<|zAQ<|zAF ?_
  cases h
  simp
 refine zEK rfl g5<|cut 30 0 [(0,.int .u8 c1.toNat),(10,.bool ((leI 65 (c1.toNat:Int))&&(leI (c1.toNat:Int) 90)))] [] ?_ ?_
 ·rcases tf (leI 65 (c1.toNat:Int)) with g10|g10
  ·have c11:=leT g10
   refine st ?_
   simp[g10]
  have c12:=leF g10
  refine st ?_
  simp[g10]
 rcases sp h with ⟨g13,h⟩|⟨g13,h⟩
 ·obtain⟨g14,g15⟩:=andT g13
  have c16:=leT g14
  have c17:=leT g15
  refine zD5 rfl g13<|cutA 30 0 [(2,iI 2)] []<|zAB<|zAQ<|zAF ?_
  cases h
  simp
 refine zEK rfl g13<|cut 30 0 [(0,.int .u8 c1.toNat),(17,.bool ((leI 48 (c1.toNat:Int))&&(leI (c1.toNat:Int) 57)))] [] ?_ ?_
 ·rcases tf (leI 48 (c1.toNat:Int)) with g18|g18
  ·have c19:=leT g18
   refine st ?_
   simp[g18]
  have c20:=leF g18
  refine st ?_
  simp[g18]
 rcases sp h with ⟨g21,h⟩|⟨g21,h⟩
 ·obtain⟨g22,g23⟩:=andT g21
  have c24:=leT g22
  have c25:=leT g23
  refine zD5 rfl g21<|cutA 30 0 [(2,iI 3)] []<|zAB<|zAQ<|zAF ?_
  cases h
  simp
 refine zEK rfl g21<|cutA 30 0 [(0,.int .u8 c1.toNat),(24,.bool (eqI (c1.toNat:Int) 95))] []<|spc h rfl (fun g26 h=>?_) fun g26 h=>?_
 ·have c27:=eqT g26
  refine cutA 30 0 [(2,iI 4)] []<|zAB<|zAQ<|zAF ?_
  cases h
  simp
 have c28:=eqF g26
 refine cutA 30 0 [(27,.bool (eqI (c1.toNat:Int) 46))] []<|spc h rfl (fun g29 h=>?_) fun g29 h=>?_
 ·have c30:=eqT g29
  refine cutA 30 0 [(2,iI 5)] []<|zAB<|zAQ<|zAF ?_
  cases h
  simp
 have c31:=eqF g29
 refine zAD<|zDg<|zAK<|cutA 30 0 [(2,iI 0)] []<|zAB ?_
 cases h
 simp
theorem zHA(fuel:Nat)(s1:(List UInt8))(first2:Int)(r:Bool)(h:zDv fuel s1 first2=some r):Pure Tryz.prog 179 [.str s1,iI first2] (.bool r):=by
 rw[zDv] at h
 refine zAE Tryz.func179 (by rfl) (by rfl) (by simp) (by simp) (by simp)<|cutA 38 0 [(0,.str s1),(1,iI first2)] []<|zAC ?_
 obtain⟨b13,q14,h⟩:=bs h
 refine cut 38 0 [(0,.str s1),(21,.bool b13)] [] ?_ ?_
 ·rcases sp q14 with ⟨g3,q14⟩|⟨g3,q14⟩
  ·obtain rfl:=oi q14
   refine st ?_
   simp[g3]
  rcases sp q14 with ⟨g4,q14⟩|⟨g4,q14⟩
  ·have c5:=ltT g4
   refine factS 0 rfl fun f6=>?_
   obtain rfl:=oi q14
   refine st ?_
   simp[g3,g4]
  have c7:=ltF g4
  refine factS 0 rfl fun f8=>?_
  obtain⟨c9,q10,q14⟩:=bs q14
  obtain⟨v11,q12,q14⟩:=bs q14
  obtain rfl:=oi q14
  refine st ?_
  simp[g3,g4,q10]
  have r46:=zHP c9 v11 q12
  try simp[g3,g4,q10] at r46
  refine zAA r46 (by simp) rfl ?_
  simp[g3,g4,q10]
 refine spc h rfl (fun g15 h=>?_) fun g15 h=>?_
 ·refine cutA 38 0 [(4,.bool false)] []<|zAB<|zAF ?_
  cases h
  simp
 refine zAD<|zAK<|zAC ?_
 obtain⟨l16,q17,h⟩:=bs h
 obtain⟨q18,q19⟩:=zLP q17
 refine cut 38 0 [(23,.sl (l16.map cU)),(24,iI l16.length),(25,iI 0)] [] (st (by simp[q18,q19]))<|zAG ?_
 obtain⟨o22,l23,h⟩:=bs h
 refine zBR (fun p:Nat×Nat=>mkS 38 0 [(23,.sl (l16.map cU)),(24,iI l16.length),(25,iI p.2)] []) (fun p=>zCy l16 p.1 p.2=some o22) (fun p=>p.1) (fuel,0) l23 (zA1 (by simp)) ?_
 rintro⟨k24,i20⟩ l23
 try dsimp only at l23 ⊢
 cases k24 with
 |zero=>
  rw[zCy] at l23;cases l23
 |succ k25=>
  rw[zCy] at l23
  refine cutA 38 0 [(23,.sl (l16.map cU)),(24,iI l16.length),(25,iI i20),(26,.bool (ltI ((i20:Nat):Int) (l16.length:Int)))] []<|zAC<|spc l23 rfl (fun g26 l23=>?_) fun g26 l23=>?_
  ·have c27:=ltT g26
   refine zCe 23 rfl fun f28=>?_
   rw[zq4] at f28
   refine zAD<|zAK<|zAC<|zAG ?_
   obtain⟨x29,q30,l23⟩:=bs l23
   refine cut 38 0 [(6,.int .u8 x29.toNat),(23,.sl (l16.map cU)),(24,iI l16.length),(25,iI i20)] [] (st (by simp[q30])) ?_
   obtain⟨v31,q32,l23⟩:=bs l23
   refine cut 38 0 [(7,iI v31),(23,.sl (l16.map cU)),(24,iI l16.length),(25,iI i20)] [] ?_ ?_
   ·refine st ?_
    simp
    have r42:=zHP x29 v31 q32
    try simp at r42
    refine zAA r42 (by simp) rfl ?_
    simp
   refine cut 38 0 [(23,.sl (l16.map cU)),(24,iI l16.length),(25,iI i20),(36,.bool ((eqI v31 0)||(eqI v31 5)))] [] ?_ ?_
   ·rcases tf (eqI v31 0) with g33|g33
    ·have c34:=eqT g33
     refine st ?_
     simp[g33]
    have c35:=eqF g33
    refine st ?_
    simp[g33]
   rcases sp l23 with ⟨g36,l23⟩|⟨g36,l23⟩
   ·refine zD5 rfl g36<|cutA 38 0 [(4,.bool false)] []<|zAB<|zAQ<|zAF ?_
    replace h:=retL l23 h
    refine zAF<|zAQ<|zAF ?_
    cases h
    simp
   obtain⟨g37,g38⟩:=orF g36
   have c39:=eqF g37
   have c40:=eqF g38
   refine zEK rfl g36<|zAD<|zDg<|zAK ?_
   have q41:Rng .i64 (((i20:Nat):Int)+1):=by simp only[Rng,inR];omega
   try simp at q41
   refine last 38 0 [(23,.sl (l16.map cU)),(24,iI l16.length),(25,iI ((i20+1:Nat):Int))] [] (st (by simp[q41])) fun zz hs=>?_
   exact⟨(k25,i20+1),hs,l23,by simp⟩
  have c43:=ltF g26
  refine zCe 23 rfl fun f44=>?_
  rw[zq4] at f44
  refine zAp<|zAH ?_
  rcases o22 with o22|o21
  ·cases l23
  have q45:=Sum.inr.inj (zqa l23)
  replace h:=zIl h
  refine zAH<|zAt<|zBS (t:=mkS 38 0 [] []) ?_ (zA1 (by simp))
  refine cutA 38 0 [(4,.bool true)] []<|zAB ?_
  cases h
  simp
theorem zGt(fuel:Nat)(s1:(List (List UInt8)))(v2:(List UInt8))(r:Int)(h:zDN fuel s1 v2=some r):Pure Tryz.prog 228 [.sl (s1.map cS),.str v2] (iI r):=by
 rw[zDN] at h
 refine zAE Tryz.func228 (by rfl) (by rfl) (by simp) (by simp) (by simp)<|cutA 19 0 [(0,.sl (s1.map cS)),(1,.str v2)] []<|zAC<|cutA 19 0 [(0,.sl (s1.map cS)),(1,.str v2),(7,iI s1.length),(8,iI 0)] []<|zAG ?_
 obtain⟨o5,l6,h⟩:=bs h
 refine zBR (fun p:Nat×Nat=>mkS 19 0 [(0,.sl (s1.map cS)),(1,.str v2),(7,iI s1.length),(8,iI p.2)] []) (fun p=>zBP s1 v2 p.1 p.2=some o5) (fun p=>p.1) (fuel,0) l6 (zA1 (by simp)) ?_
 rintro⟨k7,i3⟩ l6
 try dsimp only at l6 ⊢
 cases k7 with
 |zero=>
  rw[zBP] at l6;cases l6
 |succ k8=>
  rw[zBP] at l6
  refine cutA 19 0 [(0,.sl (s1.map cS)),(1,.str v2),(7,iI s1.length),(8,iI i3),(9,.bool (ltI ((i3:Nat):Int) (s1.length:Int)))] []<|zAC<|spc l6 rfl (fun g9 l6=>?_) fun g9 l6=>?_
  ·have c10:=ltT g9
   refine zCe 0 rfl fun f11=>?_
   rw[zq4] at f11
   refine zAD<|zAK<|zAC<|zAG<|cutA 19 0 [(0,.sl (s1.map cS)),(1,.str v2),(5,iI i3),(7,iI s1.length),(8,iI i3)] [] ?_
   obtain⟨x12,q13,l6⟩:=bs l6
   refine cut 19 0 [(0,.sl (s1.map cS)),(1,.str v2),(5,iI i3),(7,iI s1.length),(8,iI i3),(16,.bool (eqS v2 x12))] [] (st (by simp[q13]))<|spc l6 rfl (fun g14 l6=>?_) fun g14 l6=>?_
   ·refine cutA 19 0 [(4,iI i3)] []<|zAB<|zAQ<|zAF ?_
    replace h:=retL l6 h
    refine zAF<|zAQ<|zAF ?_
    cases h
    simp
   refine zAD<|zDg<|zAK ?_
   have q15:Rng .i64 (((i3:Nat):Int)+1):=by simp only[Rng,inR];omega
   try simp at q15
   refine last 19 0 [(0,.sl (s1.map cS)),(1,.str v2),(7,iI s1.length),(8,iI ((i3+1:Nat):Int))] [] (st (by simp[q15])) fun zz hs=>?_
   exact⟨(k8,i3+1),hs,l6,by simp⟩
  have c16:=ltF g9
  refine zCe 0 rfl fun f17=>?_
  rw[zq4] at f17
  refine zAp<|zAH ?_
  rcases o5 with o5|o4
  ·cases l6
  have q18:=Sum.inr.inj (zqa l6)
  replace h:=zIl h
  refine zAH<|zAt<|zBS (t:=mkS 19 0 [] []) ?_ (zA1 (by simp))
  refine cutA 19 0 [(4,iI (-1))] []<|zAB ?_
  cases h
  simp
theorem zGB(fuel:Nat)(s1:(List (List UInt8)))(v2:(List UInt8))(r:Bool)(h:zB0 fuel s1 v2=some r):Pure Tryz.prog 211 [.sl (s1.map cS),.str v2] (.bool r):=by
 rw[zB0] at h
 refine zAE Tryz.func211 (by rfl) (by rfl) (by simp) (by simp) (by simp)<|cutA 9 0 [(0,.sl (s1.map cS)),(1,.str v2)] [] ?_
 obtain⟨v3,q4,h⟩:=bs h
 refine cut 9 0 [(4,.bool (leI 0 v3))] [] ?_ ?_
 ·refine st ?_
  simp
  have r5:=zGt fuel s1 v2 v3 q4
  try simp at r5
  refine zAA r5 (by simp) rfl ?_
  simp
 refine zAB ?_
 cases h
 simp
theorem ident_word_ok(fuel:Nat)(s1:(List UInt8))(r:Bool)(h:zFn fuel s1=some r):Pure Tryz.prog 180 [.str s1] (.bool r):=by
 rw[zFn] at h
 refine zAE Tryz.func180 (by rfl) (by rfl) (by simp) (by simp) (by simp)<|cutA 6 0 [(0,.str s1)] [] ?_
 obtain⟨v2,q3,h⟩:=bs h
 obtain⟨v4,q5,h⟩:=bs h
 refine cut 6 0 [(2,.bool v4)] [] ?_ ?_
 ·refine st ?_
  simp
  have r6:=zGi [97,110,100,97,108,115,111,32,99,97,115,101,32,100,97,116,97,32,100,105,118,32,101,108,115,101,32,101,110,100,32,102,110,32,102,117,110,32,102,117,110,99,116,111,114,32,103,101,110,101,114,97,116,105,118,101,32,105,102,32,105,109,112,111,114,116,32,105,110,32,105,110,99,108,117,100,101,32,108,101,116,32,109,111,100,32,109,111,100,117,108,101,32,111,102,32,111,112,101,110,32,111,114,101,108,115,101,32,112,97,99,107,32,115,104,97,114,105,110,103,32,115,105,103,32,115,105,103,110,97,116,117,114,101,32,115,116,114,117,99,116,32,115,116,114,117,99,116,117,114,101,32,116,104,101,110,32,116,121,112,101,32,117,110,112,97,99,107,32,118,97,108,32,119,105,116,104] v2 q3
  try simp at r6
  refine zAA r6 (by simp) rfl ?_
  simp
  have r7:=zGB fuel v2 s1 v4 q5
  try simp at r7
  refine zAA r7 (by simp) rfl ?_
  simp
 refine zAB ?_
 cases h
 simp
theorem zJo(fuel:Nat)(s1:(List UInt8))(r:Bool)(h:zEC fuel s1=some r):Pure Tryz.prog 141 [.str s1] (.bool r):=by
 rw[zEC] at h
 refine zAE Tryz.func141 (by rfl) (by rfl) (by simp) (by simp) (by simp)<|cutA 10 0 [(0,.str s1)] [] ?_
 obtain⟨b7,q8,h⟩:=bs h
 refine cut 10 0 [(2,.bool b7)] [] ?_ ?_
 ·obtain⟨v2,q3,q8⟩:=bs q8
  rcases sp q8 with ⟨g4,q8⟩|⟨g4,q8⟩
  ·obtain⟨v5,q6,q8⟩:=bs q8
   obtain rfl:=oi q8
   refine st ?_
   simp[g4]
   have r9:=zHA fuel s1 1 v2 q3
   try simp[g4] at r9
   refine zAA r9 (by simp) rfl ?_
   simp[g4]
   have r10:=ident_word_ok fuel s1 v5 q6
   try simp[g4] at r10
   refine zAA r10 (by simp) rfl ?_
   simp[g4]
  obtain rfl:=oi q8
  refine st ?_
  simp[g4]
  have r11:=zHA fuel s1 1 v2 q3
  try simp[g4] at r11
  refine zAA r11 (by simp) rfl ?_
  simp[g4]
 refine zAB ?_
 cases h
 simp
theorem zFd(fuel:Nat)(s1:(List UInt8))(r:Bool)(h:zDi fuel s1=some r):Pure Tryz.prog 142 [.str s1] (.bool r):=by
 rw[zDi] at h
 refine zAE Tryz.func142 (by rfl) (by rfl) (by simp) (by simp) (by simp)<|cutA 5 0 [(0,.str s1)] [] ?_
 obtain⟨v2,q3,h⟩:=bs h
 refine cut 5 0 [(2,.bool v2)] [] ?_ ?_
 ·refine st ?_
  simp
  have r4:=zHA fuel s1 2 v2 q3
  try simp at r4
  refine zAA r4 (by simp) rfl ?_
  simp
 refine zAB ?_
 cases h
 simp
theorem zKA(fuel:Nat)(p1:zLc)(r:Bool)(h:zEn fuel p1=some r):Pure Tryz.prog 87 [.agg (zLc.d p1)] (.bool r):=by
 rw[zEn] at h
 refine zAE Tryz.func87 (by rfl) (by rfl) (by simp) (by simp) (by simp)<|cutA 88 0 [(1,pT 0)] [(zLc.d p1)]<|cutA 88 0 [(1,pT 0),(3,iI p1.L.length)] [(zLc.d p1)]<|zAC<|cutA 88 0 [(1,pT 0),(3,iI p1.L.length),(8,iI p1.Op)] [(zLc.d p1)]<|zAG<|cutA 88 0 [(1,pT 0),(3,iI p1.L.length),(8,iI p1.Op),(9,.bool (eqI p1.Op 1))] [(zLc.d p1)] ?_
 refine spc h rfl (fun g2 h=>?_) fun g2 h=>?_
 ·refine cut 88 0 [(2,.bool ((eqI (p1.L.length:Int) 0)&&((eqI p1.N 0)&&(eqS p1.S ([]:List UInt8)))))] [(zLc.d p1)] ?_ ?_
  ·rcases tf (eqI (p1.L.length:Int) 0) with g4|g4
   ·have c5:=eqT g4
    rcases tf (eqI p1.N 0) with g6|g6
    ·have c7:=eqT g6
     refine st ?_
     simp[g4,g6]
    have c8:=eqF g6
    refine st ?_
    simp[g4,g6]
   have c9:=eqF g4
   refine st ?_
   simp[g4]
  refine zAB<|zAQ<|zAF ?_
  cases h
  simp
 refine cutA 88 0 [(1,pT 0),(3,iI p1.L.length),(8,iI p1.Op),(23,.bool (eqI p1.Op 2))] [(zLc.d p1)]<|spc h rfl (fun g11 h=>?_) fun g11 h=>?_
 ·obtain⟨b21,q22,h⟩:=bs h
  refine cut 88 0 [(2,.bool b21)] [(zLc.d p1)] ?_ ?_
  ·rcases sp q22 with ⟨g13,q22⟩|⟨g13,q22⟩
   ·have c14:=eqT g13
    rcases sp q22 with ⟨g15,q22⟩|⟨g15,q22⟩
    ·have c16:=eqT g15
     obtain⟨v17,q18,q22⟩:=bs q22
     obtain rfl:=oi q22
     refine st ?_
     simp[g13,g15]
     have r23:=zJo fuel p1.S v17 q18
     try simp[g13,g15] at r23
     refine zAA r23 (by simp) rfl ?_
     simp[g13,g15]
    have c19:=eqF g15
    obtain rfl:=oi q22
    refine st ?_
    simp[g13,g15]
   have c20:=eqF g13
   obtain rfl:=oi q22
   refine st ?_
   simp[g13]
  refine zAB<|zAQ<|zAF ?_
  cases h
  simp
 refine cutA 88 0 [(1,pT 0),(3,iI p1.L.length),(8,iI p1.Op),(37,.bool (eqI p1.Op 3))] [(zLc.d p1)]<|spc h rfl (fun g25 h=>?_) fun g25 h=>?_
 ·refine cut 88 0 [(2,.bool ((eqI (p1.L.length:Int) 0)&&((eqS p1.S ([]:List UInt8))&&((leI (-4503599627370496) p1.N)&&(leI p1.N 4503599627370496)))))] [(zLc.d p1)] ?_ ?_
  ·rcases tf (eqI (p1.L.length:Int) 0) with g27|g27
   ·have c28:=eqT g27
    rcases tf (eqS p1.S ([]:List UInt8)) with g29|g29
    ·rcases tf (leI (-4503599627370496) p1.N) with g30|g30
     ·have c31:=leT g30
      refine st ?_
      simp[g27,g29,g30]
     have c32:=leF g30
     refine st ?_
     simp[g27,g29,g30]
    refine st ?_
    simp[g27,g29]
   have c33:=eqF g27
   refine st ?_
   simp[g27]
  refine zAB<|zAQ<|zAF ?_
  cases h
  simp
 refine cutA 88 0 [(1,pT 0),(3,iI p1.L.length),(8,iI p1.Op),(56,.bool (eqI p1.Op 4))] [(zLc.d p1)]<|spc h rfl (fun g35 h=>?_) fun g35 h=>?_
 ·obtain⟨b47,q48,h⟩:=bs h
  refine cut 88 0 [(2,.bool b47)] [(zLc.d p1)] ?_ ?_
  ·rcases sp q48 with ⟨g37,q48⟩|⟨g37,q48⟩
   ·have c38:=leT g37
    refine zC7 0 3 rfl rfl rfl fun f39=>?_
    rw[zq4] at f39
    rcases sp q48 with ⟨g40,q48⟩|⟨g40,q48⟩
    ·have c41:=eqT g40
     obtain⟨v42,q43,q48⟩:=bs q48
     obtain rfl:=oi q48
     refine st ?_
     simp[g37,g40]
     have r49:=zFd fuel p1.S v42 q43
     try simp[g37,g40] at r49
     refine zAA r49 (by simp) rfl ?_
     simp[g37,g40]
    have c44:=eqF g40
    obtain rfl:=oi q48
    refine st ?_
    simp[g37,g40]
   have c45:=leF g37
   refine zC7 0 3 rfl rfl rfl fun f46=>?_
   rw[zq4] at f46
   obtain rfl:=oi q48
   refine st ?_
   simp[g37]
  refine zAB<|zAQ<|zAF ?_
  cases h
  simp
 refine cutA 88 0 [(1,pT 0),(3,iI p1.L.length),(70,.bool (eqI p1.Op 5))] [(zLc.d p1)]<|spc h rfl (fun g51 h=>?_) fun g51 h=>?_
 ·refine cut 88 0 [(2,.bool ((!(eqI (p1.L.length:Int) 1))&&((leI (p1.L.length:Int) 9)&&((eqI p1.N 0)&&(eqS p1.S ([]:List UInt8))))))] [(zLc.d p1)] ?_ ?_
  ·rcases tf (!(eqI (p1.L.length:Int) 1)) with g53|g53
   ·have g54:=notT g53
    have c55:=eqF g54
    rcases tf (leI (p1.L.length:Int) 9) with g56|g56
    ·have c57:=leT g56
     refine zC7 0 3 rfl rfl rfl fun f58=>?_
     rw[zq4] at f58
     rcases tf (eqI p1.N 0) with g59|g59
     ·have c60:=eqT g59
      refine st ?_
      simp[g53,g56,g59]
     have c61:=eqF g59
     refine st ?_
     simp[g53,g56,g59]
    have c62:=leF g56
    refine zC7 0 3 rfl rfl rfl fun f63=>?_
    rw[zq4] at f63
    refine st ?_
    simp[g53,g56]
   have g64:=notF g53
   have c65:=eqT g64
   refine st ?_
   simp[g53]
  refine zAB<|zAQ<|zAF ?_
  cases h
  simp
 refine zAD<|zDg<|zAK<|cutA 88 0 [(2,.bool false)] [(zLc.d p1)]<|zAB ?_
 cases h
 simp
theorem zIN(fuel:Nat):(∀(p1:zLc)(left2:Int)(depth3:Int)(r:Int×Bool)(_:zBt fuel p1 left2 depth3=some r),Pure Tryz.prog 52 [.agg (zLc.d p1),iI left2,iI depth3] (.tup [iI r.1,.bool r.2])):=by
 induction fuel with
 |zero=>intro p1 left2 depth3 r h;rw[zBt] at h;cases h
 |succ fuel zIR=>
  intro p1 left2 depth3 r h
  rw[zBt] at h
  refine zAE Tryz.func52 (by rfl) (by rfl) (by simp) (by simp) (by simp)<|cutA 48 0 [(1,iI left2),(2,iI depth3),(3,pT 0)] [(zLc.d p1)]<|zAC ?_
  obtain⟨b12,q13,h⟩:=bs h
  refine cut 48 0 [(1,iI left2),(2,iI depth3),(3,pT 0),(23,.bool b12)] [(zLc.d p1)] ?_ ?_
  ·rcases sp q13 with ⟨g4,q13⟩|⟨g4,q13⟩
   ·have c5:=leT g4
    obtain rfl:=oi q13
    refine st ?_
    simp[g4]
   have c6:=leF g4
   rcases sp q13 with ⟨g7,q13⟩|⟨g7,q13⟩
   ·have c8:=ltT g7
    obtain rfl:=oi q13
    refine st ?_
    simp[g4,g7]
   have c9:=ltF g7
   obtain⟨v10,q11,q13⟩:=bs q13
   obtain rfl:=oi q13
   refine st ?_
   simp[g4,g7]
   have r52:=zKA fuel p1 v10 q11
   try simp[g4,g7] at r52
   refine zAA r52 (by simp) rfl ?_
   simp[g4,g7]
  refine spc h rfl (fun g14 h=>?_) fun g14 h=>?_
  ·refine cutA 48 0 [(6,iI 0),(7,.bool false)] [(zLc.d p1)]<|zAB<|zAF ?_
   cases h
   simp
  refine zAD<|zAK<|cutA 48 0 [(1,iI left2),(2,iI depth3),(3,pT 0),(8,iI 1)] [(zLc.d p1)]<|zAC<|cutA 48 0 [(1,iI left2),(2,iI depth3),(8,iI 1),(25,.sl (p1.L.map zLc.c)),(26,iI p1.L.length),(27,iI 0)] [(zLc.d p1)]<|zAG ?_
  obtain⟨o18,l19,h⟩:=bs h
  refine zBR (fun p:Nat×Int×Nat=>mkS 48 0 [(1,iI left2),(2,iI depth3),(8,iI p.2.1),(25,.sl (p1.L.map zLc.c)),(26,iI p1.L.length),(27,iI p.2.2)] [(zLc.d p1)]) (fun p=>zBq (zBt fuel) p1 left2 depth3 p.1 p.2.1 p.2.2=some o18) (fun p=>p.1) (fuel,1,0) l19 (zA1 (by simp)) ?_
  rintro⟨k20,n15,i16⟩ l19
  try dsimp only at l19 ⊢
  cases k20 with
  |zero=>
   rw[zBq] at l19;cases l19
  |succ k21=>
   rw[zBq] at l19
   refine cutA 48 0 [(1,iI left2),(2,iI depth3),(8,iI n15),(25,.sl (p1.L.map zLc.c)),(26,iI p1.L.length),(27,iI i16),(28,.bool (ltI ((i16:Nat):Int) (p1.L.length:Int)))] [(zLc.d p1)]<|zAC<|spc l19 rfl (fun g22 l19=>?_) fun g22 l19=>?_
   ·have c23:=ltT g22
    refine zCe 25 rfl fun f24=>?_
    rw[zq4] at f24
    refine zAD<|zAK<|zAC<|zAG ?_
    obtain⟨x25,q26,l19⟩:=bs l19
    refine cut 48 0 [(1,iI left2),(2,iI depth3),(8,iI n15),(10,pT 1),(25,.sl (p1.L.map zLc.c)),(26,iI p1.L.length),(27,iI i16)] [(zLc.d p1),(zLc.d x25)] (st (by simp[q26])) ?_
    obtain⟨n27,q28,l19⟩:=bs l19
    obtain⟨q29,q30⟩:=zC9 q28
    try simp at q29
    try simp at q30
    have c31:=q29;simp only[Rng,inR] at c31
    obtain⟨n32,q33,l19⟩:=bs l19
    obtain⟨q34,q35⟩:=zC9 q33
    try simp at q34
    try simp at q35
    have c36:=q34;simp only[Rng,inR] at c36
    obtain⟨v37,q38,l19⟩:=bs l19
    refine cut 48 0 [(1,iI left2),(2,iI depth3),(8,iI n15),(11,iI v37.1),(12,.bool v37.2),(25,.sl (p1.L.map zLc.c)),(26,iI p1.L.length),(27,iI i16)] [(zLc.d p1),(zLc.d x25)] ?_ ?_
    ·refine st ?_
     simp[q29,q30,q34,q35]
     have r48:=zIR x25 n27 n32 v37 q38
     try simp[q29,q30,q34,q35] at r48
     refine zAA r48 (by simp) rfl ?_
     simp[q29,q30,q34,q35]
    refine zAC<|cutA 48 0 [(1,iI left2),(2,iI depth3),(8,iI n15),(11,iI v37.1),(25,.sl (p1.L.map zLc.c)),(26,iI p1.L.length),(27,iI i16),(42,.bool (!v37.2))] [(zLc.d p1),(zLc.d x25)]<|spc l19 rfl (fun g39 l19=>?_) fun g39 l19=>?_
    ·have g40:=notT g39
     refine cutA 48 0 [(6,iI 0),(7,.bool false)] [(zLc.d p1),(zLc.d x25)]<|zAB<|zAF<|zAQ<|zAF ?_
     replace h:=retL l19 h
     refine zAF<|zAQ<|zAF ?_
     cases h
     simp
    have g41:=notF g39
    refine zAD<|zAK ?_
    obtain⟨n42,q43,l19⟩:=bs l19
    obtain⟨q44,q45⟩:=zC9 q43
    try simp at q44
    try simp at q45
    have c46:=q44;simp only[Rng,inR] at c46
    refine last 48 0 [(1,iI left2),(2,iI depth3),(8,iI n42),(25,.sl (p1.L.map zLc.c)),(26,iI p1.L.length),(27,iI i16)] [(zLc.d p1),(zLc.d x25)] (st (by simp[q44,q45])) fun zz hs=>?_
    refine zDg<|zBS ?_ hs
    have q47:Rng .i64 (((i16:Nat):Int)+1):=by simp only[Rng,inR];omega
    try simp at q47
    refine last 48 0 [(1,iI left2),(2,iI depth3),(8,iI n42),(25,.sl (p1.L.map zLc.c)),(26,iI p1.L.length),(27,iI ((i16+1:Nat):Int))] [(zLc.d p1)] (st (by simp[q47])) fun zz hs=>?_
    exact⟨(k21,n42,i16+1),hs,l19,by simp⟩
   have c49:=ltF g22
   refine zCe 25 rfl fun f50=>?_
   rw[zq4] at f50
   refine zAp<|zAH ?_
   rcases o18 with o18|o17
   ·cases l19
   have q51:=Sum.inr.inj (zqa l19)
   replace h:=zIl h
   have q51:=q51.symm
   refine zAH<|zAt<|zBS (t:=mkS 48 0 [(8,iI o17)] [(zLc.d p1)]) ?_ (zA1 (by simp[q51]))
   refine cutA 48 0 [(6,iI o17),(7,.bool true)] [(zLc.d p1)]<|zAB ?_
   cases h
   simp
theorem zIO(name1:(List UInt8))(c2:Bool)(c3:(List (List UInt8×Bool)))(r:Bool×(List (List UInt8×Bool)))(h:zEE name1 c2 c3=some r):Raw Tryz.prog 54 [.str name1,pT 0,pT 1] [[.bool c2],[.omp (mks c3) (mvs AV.bool c3)]] (.tup []) [[.bool r.1],[.omp (mks r.2) (mvs AV.bool r.2)]]:=by
 rw[zEE] at h
 refine zAw Tryz.func54 (by rfl) (by rfl) (by simp) (by simp)<|cut 13 2 [(0,.str name1),(2,pT 1)] [[.bool (c2&&(!(mgetD c3 name1 false)))],[.omp (mks c3) (mvs AV.bool c3)]] ?_ ?_
 ·rcases tf (c2) with g4|g4
  ·refine st ?_
   simp[g4]
  refine st ?_
  simp[g4]
 cases h
 refine st ?_
 simp
theorem zFb(fuel:Nat):(∀(p1:zLc)(c2:Bool)(c3:(List (List UInt8×Bool)))(r:Bool×(List (List UInt8×Bool)))(_:zAL fuel p1 c2 c3=some r),Raw Tryz.prog 53 [.agg (zLc.d p1),.fn (.func 54) [] [pT 0,pT 1]] [[.bool c2],[.omp (mks c3) (mvs AV.bool c3)]] (.tup []) [[.bool r.1],[.omp (mks r.2) (mvs AV.bool r.2)]]):=by
 induction fuel with
 |zero=>intro p1 c2 c3 r h;rw[zAL] at h;cases h
 |succ fuel zDn=>
  intro p1 c2 c3 r h
  rw[zAL] at h
  refine zAw Tryz.func53 (by rfl) (by rfl) (by simp) (by simp)<|cutA 24 2 [(1,.fn (.func 54) [] [pT 0,pT 1]),(2,pT 2)] [[.bool c2],[.omp (mks c3) (mvs AV.bool c3)],(zLc.d p1)]<|zAC<|cutA 24 2 [(1,.fn (.func 54) [] [pT 0,pT 1]),(2,pT 2),(8,.bool (eqI p1.Op 2))] [[.bool c2],[.omp (mks c3) (mvs AV.bool c3)],(zLc.d p1)]<|spc h rfl (fun g4 h=>?_) fun g4 h=>?_
  ·obtain⟨v6,q7,h⟩:=bs h
   refine last 24 2 [(1,.fn (.func 54) [] [pT 0,pT 1]),(2,pT 2)] [[.bool v6.1],[.omp (mks v6.2) (mvs AV.bool v6.2)],(zLc.d p1)] ?_ fun zz hs=>?_
   ·refine st ?_
    simp
    have r29:=(zIO p1.S c2 c3 v6 q7).frame [0,1] [[.bool c2],[.omp (mks c3) (mvs AV.bool c3)],(zLc.d p1)] (by simp)
    try simp at r29
    refine zBK r29 (by simp) rfl ?_
    simp
   refine zBS ?_ hs
   refine cutA 24 2 [(1,.fn (.func 54) [] [pT 0,pT 1]),(14,.sl (p1.L.map zLc.c)),(15,iI p1.L.length),(16,iI 0)] [[.bool v6.1],[.omp (mks v6.2) (mvs AV.bool v6.2)],(zLc.d p1)]<|zAG ?_
   obtain⟨o11,l12,h⟩:=bs h
   refine zBR (fun p:Nat×Bool×(List (List UInt8×Bool))×Nat=>mkS 24 2 [(1,.fn (.func 54) [] [pT 0,pT 1]),(14,.sl (p1.L.map zLc.c)),(15,iI p1.L.length),(16,iI p.2.2.2)] [[.bool p.2.1],[.omp (mks p.2.2.1) (mvs AV.bool p.2.2.1)],(zLc.d p1)]) (fun p=>zAl (zAL fuel) p1 p.1 p.2.1 p.2.2.1 p.2.2.2=some o11) (fun p=>p.1) (fuel,v6.1,v6.2,0) l12 (zA1 (by simp)) ?_
   rintro⟨k13,a8,a9,i10⟩ l12
   try dsimp only at l12 ⊢
   cases k13 with
   |zero=>
    rw[zAl] at l12;cases l12
   |succ k14=>
    rw[zAl] at l12
    refine cutA 24 2 [(1,.fn (.func 54) [] [pT 0,pT 1]),(14,.sl (p1.L.map zLc.c)),(15,iI p1.L.length),(16,iI i10),(17,.bool (ltI ((i10:Nat):Int) (p1.L.length:Int)))] [[.bool a8],[.omp (mks a9) (mvs AV.bool a9)],(zLc.d p1)]<|zAC<|spc l12 rfl (fun g15 l12=>?_) fun g15 l12=>?_
    ·have c16:=ltT g15
     refine zCe 14 rfl fun f17=>?_
     rw[zq4] at f17
     refine zAD<|zAK<|zAC<|zAG ?_
     obtain⟨x18,q19,l12⟩:=bs l12
     refine cut 24 2 [(1,.fn (.func 54) [] [pT 0,pT 1]),(5,pT 3),(14,.sl (p1.L.map zLc.c)),(15,iI p1.L.length),(16,iI i10)] [[.bool a8],[.omp (mks a9) (mvs AV.bool a9)],(zLc.d p1),(zLc.d x18)] (st (by simp[q19])) ?_
     obtain⟨v20,q21,l12⟩:=bs l12
     refine last 24 2 [(1,.fn (.func 54) [] [pT 0,pT 1]),(14,.sl (p1.L.map zLc.c)),(15,iI p1.L.length),(16,iI i10)] [[.bool v20.1],[.omp (mks v20.2) (mvs AV.bool v20.2)],(zLc.d p1),(zLc.d x18)] ?_ fun zz hs=>?_
     ·refine st ?_
      simp
      have r23:=(zDn x18 a8 a9 v20 q21).frame [0,1] [[.bool a8],[.omp (mks a9) (mvs AV.bool a9)],(zLc.d p1),(zLc.d x18)] (by simp)
      try simp at r23
      refine zBK r23 (by simp) rfl ?_
      simp
     refine zDg<|zBS ?_ hs
     have q22:Rng .i64 (((i10:Nat):Int)+1):=by simp only[Rng,inR];omega
     try simp at q22
     refine last 24 2 [(1,.fn (.func 54) [] [pT 0,pT 1]),(14,.sl (p1.L.map zLc.c)),(15,iI p1.L.length),(16,iI ((i10+1:Nat):Int))] [[.bool v20.1],[.omp (mks v20.2) (mvs AV.bool v20.2)],(zLc.d p1)] (st (by simp[q22])) fun zz hs=>?_
     exact⟨(k14,v20.1,v20.2,i10+1),hs,l12,by simp⟩
    have c24:=ltF g15
    refine zCe 14 rfl fun f25=>?_
    rw[zq4] at f25
    refine zAp<|zAH ?_
    have q26:=zqa l12
    have q27:o11.1=a8:=by rw[<-q26]
    have q28:o11.2=a9:=by rw[<-q26]
    refine zAH<|zAt ?_
    cases h
    simp[q27,q28]
  refine zAD<|zAK<|cutA 24 2 [(1,.fn (.func 54) [] [pT 0,pT 1]),(14,.sl (p1.L.map zLc.c)),(15,iI p1.L.length),(16,iI 0)] [[.bool c2],[.omp (mks c3) (mvs AV.bool c3)],(zLc.d p1)]<|zAG ?_
  obtain⟨o34,l35,h⟩:=bs h
  refine zBR (fun p:Nat×Bool×(List (List UInt8×Bool))×Nat=>mkS 24 2 [(1,.fn (.func 54) [] [pT 0,pT 1]),(14,.sl (p1.L.map zLc.c)),(15,iI p1.L.length),(16,iI p.2.2.2)] [[.bool p.2.1],[.omp (mks p.2.2.1) (mvs AV.bool p.2.2.1)],(zLc.d p1)]) (fun p=>zAu (zAL fuel) p1 p.1 p.2.1 p.2.2.1 p.2.2.2=some o34) (fun p=>p.1) (fuel,c2,c3,0) l35 (zA1 (by simp)) ?_
  rintro⟨k36,a31,a32,i33⟩ l35
  try dsimp only at l35 ⊢
  cases k36 with
  |zero=>
   rw[zAu] at l35;cases l35
  |succ k37=>
   rw[zAu] at l35
   refine cutA 24 2 [(1,.fn (.func 54) [] [pT 0,pT 1]),(14,.sl (p1.L.map zLc.c)),(15,iI p1.L.length),(16,iI i33),(17,.bool (ltI ((i33:Nat):Int) (p1.L.length:Int)))] [[.bool a31],[.omp (mks a32) (mvs AV.bool a32)],(zLc.d p1)]<|zAC<|spc l35 rfl (fun g38 l35=>?_) fun g38 l35=>?_
   ·have c39:=ltT g38
    refine zCe 14 rfl fun f40=>?_
    rw[zq4] at f40
    refine zAD<|zAK<|zAC<|zAG ?_
    obtain⟨x41,q42,l35⟩:=bs l35
    refine cut 24 2 [(1,.fn (.func 54) [] [pT 0,pT 1]),(5,pT 3),(14,.sl (p1.L.map zLc.c)),(15,iI p1.L.length),(16,iI i33)] [[.bool a31],[.omp (mks a32) (mvs AV.bool a32)],(zLc.d p1),(zLc.d x41)] (st (by simp[q42])) ?_
    obtain⟨v43,q44,l35⟩:=bs l35
    refine last 24 2 [(1,.fn (.func 54) [] [pT 0,pT 1]),(14,.sl (p1.L.map zLc.c)),(15,iI p1.L.length),(16,iI i33)] [[.bool v43.1],[.omp (mks v43.2) (mvs AV.bool v43.2)],(zLc.d p1),(zLc.d x41)] ?_ fun zz hs=>?_
    ·refine st ?_
     simp
     have r46:=(zDn x41 a31 a32 v43 q44).frame [0,1] [[.bool a31],[.omp (mks a32) (mvs AV.bool a32)],(zLc.d p1),(zLc.d x41)] (by simp)
     try simp at r46
     refine zBK r46 (by simp) rfl ?_
     simp
    refine zDg<|zBS ?_ hs
    have q45:Rng .i64 (((i33:Nat):Int)+1):=by simp only[Rng,inR];omega
    try simp at q45
    refine last 24 2 [(1,.fn (.func 54) [] [pT 0,pT 1]),(14,.sl (p1.L.map zLc.c)),(15,iI p1.L.length),(16,iI ((i33+1:Nat):Int))] [[.bool v43.1],[.omp (mks v43.2) (mvs AV.bool v43.2)],(zLc.d p1)] (st (by simp[q45])) fun zz hs=>?_
    exact⟨(k37,v43.1,v43.2,i33+1),hs,l35,by simp⟩
   have c47:=ltF g38
   refine zCe 14 rfl fun f48=>?_
   rw[zq4] at f48
   refine zAp<|zAH ?_
   have q49:=zqa l35
   have q50:o34.1=a31:=by rw[<-q49]
   have q51:o34.2=a32:=by rw[<-q49]
   refine zAH<|zAt ?_
   cases h
   simp[q50,q51]
theorem zCX(fuel:Nat)(p1:zLc)(r:Bool)(h:zB8 fuel p1=some r):Pure Tryz.prog 28 [.agg (zLc.d p1)] (.bool r):=by
 rw[zB8] at h
 refine zAE Tryz.func28 (by rfl) (by rfl) (by simp) (by simp) (by simp)<|cutA 19 0 [(1,pT 0)] [(zLc.d p1)]<|zAC ?_
 obtain⟨v2,q3,h⟩:=bs h
 refine cut 19 0 [(1,pT 0),(4,.bool v2.2)] [(zLc.d p1)] ?_ ?_
 ·refine st ?_
  simp
  have r10:=zIN fuel p1 20000 1 v2 q3
  try simp at r10
  refine zAA r10 (by simp) rfl ?_
  simp
 refine cutA 19 0 [(1,pT 0),(13,.bool (!v2.2))] [(zLc.d p1)]<|spc h rfl (fun g4 h=>?_) fun g4 h=>?_
 ·have g5:=notT g4
  refine cutA 19 0 [(2,.bool false)] [(zLc.d p1)]<|zAB<|zAF ?_
  cases h
  simp
 have g6:=notF g4
 refine zAD<|zAK<|cutA 19 0 [(1,pT 0),(5,pT 1)] [(zLc.d p1),[.omp (mks ([]:List (List UInt8×Bool))) (mvs AV.bool ([]:List (List UInt8×Bool)))]]<|cutA 19 0 [(1,pT 0),(5,pT 1),(6,pT 2)] [(zLc.d p1),[.omp (mks ([]:List (List UInt8×Bool))) (mvs AV.bool ([]:List (List UInt8×Bool)))],[.bool true]] ?_
 obtain⟨v7,q8,h⟩:=bs h
 refine cut 19 0 [(6,pT 2)] [(zLc.d p1),[.omp (mks v7.2) (mvs AV.bool v7.2)],[.bool v7.1]] ?_ ?_
 ·refine st ?_
  simp
  have r9:=(zFb fuel p1 true ([]:List (List UInt8×Bool)) v7 q8).frame [2,1] [(zLc.d p1),[.omp (mks ([]:List (List UInt8×Bool))) (mvs AV.bool ([]:List (List UInt8×Bool)))],[.bool true]] (by simp)
  try simp at r9
  refine zBK r9 (by simp) rfl ?_
  simp
 refine cutA 19 0 [(2,.bool v7.1)] [(zLc.d p1),[.omp (mks v7.2) (mvs AV.bool v7.2)],[.bool v7.1]]<|zAB ?_
 cases h
 simp
theorem zC8(fuel:Nat):(∀(s11:(List zLc))(s22:(List zLc))(r:Bool)(_:zBU fuel s11 s22=some r),Pure Tryz.prog 73 [.sl (s11.map zLc.c),.sl (s22.map zLc.c),.fn (.func 43) [] []] (.bool r))∧(∀(p1:zLc)(q2:zLc)(r:Bool)(_:zB3 fuel p1 q2=some r),Pure Tryz.prog 43 [.agg (zLc.d p1),.agg (zLc.d q2)] (.bool r)):=by
 induction fuel with
 |zero=>
  refine⟨?_,?_⟩
  ·intro s11 s22 r h;rw[zBU] at h;cases h
  ·intro p1 q2 r h;rw[zB3] at h;cases h
 |succ fuel ih=>
  obtain⟨zEg,zIx⟩:=ih
  refine⟨?_,?_⟩
  ·intro s11 s22 r h
   rw[zBU] at h
   refine zAE Tryz.func73 (by rfl) (by rfl) (by simp) (by simp) (by simp)<|cutA 32 0 [(0,.sl (s11.map zLc.c)),(1,.sl (s22.map zLc.c)),(2,.fn (.func 43) [] [])] []<|zAC<|cutA 32 0 [(0,.sl (s11.map zLc.c)),(1,.sl (s22.map zLc.c)),(2,.fn (.func 43) [] []),(14,.bool (!(eqI (s11.length:Int) (s22.length:Int))))] [] ?_
   rcases sp h with ⟨g3,h⟩|⟨g3,h⟩
   ·have g4:=notT g3
    have c5:=eqF g4
    refine zD5 rfl g3<|cutA 32 0 [(6,.bool false)] []<|zAB<|zAF ?_
    cases h
    simp
   have g6:=notF g3
   have c7:=eqT g6
   refine zEK rfl g3<|zAD<|zAK<|zAC<|cutA 32 0 [(1,.sl (s22.map zLc.c)),(2,.fn (.func 43) [] []),(15,.sl (s11.map zLc.c)),(16,iI s11.length),(17,iI 0)] []<|zAG ?_
   obtain⟨o10,l11,h⟩:=bs h
   refine zBR (fun p:Nat×Nat=>mkS 32 0 [(1,.sl (s22.map zLc.c)),(2,.fn (.func 43) [] []),(15,.sl (s11.map zLc.c)),(16,iI s11.length),(17,iI p.2)] []) (fun p=>zAZ (zB3 fuel) s11 s22 p.1 p.2=some o10) (fun p=>p.1) (fuel,0) l11 (zA1 (by simp)) ?_
   rintro⟨k12,i8⟩ l11
   try dsimp only at l11 ⊢
   cases k12 with
   |zero=>
    rw[zAZ] at l11;cases l11
   |succ k13=>
    rw[zAZ] at l11
    refine cutA 32 0 [(1,.sl (s22.map zLc.c)),(2,.fn (.func 43) [] []),(15,.sl (s11.map zLc.c)),(16,iI s11.length),(17,iI i8),(18,.bool (ltI ((i8:Nat):Int) (s11.length:Int)))] []<|zAC<|spc l11 rfl (fun g14 l11=>?_) fun g14 l11=>?_
    ·have c15:=ltT g14
     refine zCe 15 rfl fun f16=>?_
     rw[zq4] at f16
     refine zAD<|zAK<|zAC<|zAG ?_
     obtain⟨x17,q18,l11⟩:=bs l11
     refine cut 32 0 [(1,.sl (s22.map zLc.c)),(2,.fn (.func 43) [] []),(7,iI i8),(8,pT 0),(15,.sl (s11.map zLc.c)),(16,iI s11.length),(17,iI i8)] [(zLc.d x17)] (st (by simp[q18])) ?_
     obtain⟨x19,q20,l11⟩:=bs l11
     refine cut 32 0 [(1,.sl (s22.map zLc.c)),(2,.fn (.func 43) [] []),(8,pT 0),(9,pT 1),(15,.sl (s11.map zLc.c)),(16,iI s11.length),(17,iI i8)] [(zLc.d x17),(zLc.d x19)] (st (by simp[q20])) ?_
     obtain⟨v21,q22,l11⟩:=bs l11
     refine cut 32 0 [(1,.sl (s22.map zLc.c)),(2,.fn (.func 43) [] []),(15,.sl (s11.map zLc.c)),(16,iI s11.length),(17,iI i8),(30,.bool (!v21))] [(zLc.d x17),(zLc.d x19)] ?_ ?_
     ·refine st ?_
      simp
      have r27:=zIx x17 x19 v21 q22
      try simp at r27
      refine zAA r27 (by simp) rfl ?_
      simp
     refine spc l11 rfl (fun g23 l11=>?_) fun g23 l11=>?_
     ·have g24:=notT g23
      refine cutA 32 0 [(6,.bool false)] [(zLc.d x17),(zLc.d x19)]<|zAB<|zAQ<|zAF ?_
      replace h:=retL l11 h
      refine zAF<|zAQ<|zAF ?_
      cases h
      simp
     have g25:=notF g23
     refine zAD<|zDg<|zAK ?_
     have q26:Rng .i64 (((i8:Nat):Int)+1):=by simp only[Rng,inR];omega
     try simp at q26
     refine last 32 0 [(1,.sl (s22.map zLc.c)),(2,.fn (.func 43) [] []),(15,.sl (s11.map zLc.c)),(16,iI s11.length),(17,iI ((i8+1:Nat):Int))] [] (st (by simp[q26])) fun zz hs=>?_
     exact⟨(k13,i8+1),hs,l11,by simp⟩
    have c28:=ltF g14
    refine zCe 15 rfl fun f29=>?_
    rw[zq4] at f29
    refine zAp<|zAH ?_
    rcases o10 with o10|o9
    ·cases l11
    have q30:=Sum.inr.inj (zqa l11)
    replace h:=zIl h
    refine zAH<|zAt<|zBS (t:=mkS 32 0 [] []) ?_ (zA1 (by simp))
    refine cutA 32 0 [(6,.bool true)] []<|zAB ?_
    cases h
    simp
  ·intro p1 q2 r h
   rw[zB3] at h
   refine zAE Tryz.func43 (by rfl) (by rfl) (by simp) (by simp) (by simp)<|cutA 39 0 [(2,pT 0),(3,pT 1)] [(zLc.d p1),(zLc.d q2)]<|zAC<|cut 39 0 [(2,pT 0),(3,pT 1),(12,.bool ((eqI p1.Op 1)||(eqI p1.Op 2)))] [(zLc.d p1),(zLc.d q2)] ?_ ?_
   ·rcases tf (eqI p1.Op 1) with g3|g3
    ·have c4:=eqT g3
     refine st ?_
     simp[g3]
    have c5:=eqF g3
    refine st ?_
    simp[g3]
   rcases sp h with ⟨g6,h⟩|⟨g6,h⟩
   ·refine zD5 rfl g6<|cutA 39 0 [(4,.bool true)] [(zLc.d p1),(zLc.d q2)]<|zAB<|zAF ?_
    cases h
    simp
   obtain⟨g7,g8⟩:=orF g6
   have c9:=eqF g7
   have c10:=eqF g8
   refine zEK rfl g6<|zAD<|zAK ?_
   obtain⟨b20,q21,h⟩:=bs h
   refine cut 39 0 [(4,.bool b20)] [(zLc.d p1),(zLc.d q2)] ?_ ?_
   ·rcases sp q21 with ⟨g11,q21⟩|⟨g11,q21⟩
    ·have c12:=eqT g11
     rcases sp q21 with ⟨g13,q21⟩|⟨g13,q21⟩
     ·have c14:=eqT g13
      rcases sp q21 with ⟨g15,q21⟩|⟨g15,q21⟩
      ·obtain⟨v16,q17,q21⟩:=bs q21
       obtain rfl:=oi q21
       have g11x:=g11
       try simp only[g13,g15] at g11x
       have g13x:=g13
       try simp only[g11,g15] at g13x
       have g15x:=g15
       try simp only[g11,g13] at g15x
       refine zA0<|WL.cut 25 39 0 [(32,.bool (eqS p1.S q2.S)),(37,.bool v16)] [(zLc.d p1),(zLc.d q2)] ?_ ?_
       ·simp[g11,g13,g15,g11x,g13x,g15x]
        have r22:=zEg p1.L q2.L v16 q17
        try simp[g11,g13,g15,g11x,g13x,g15x] at r22
        refine zAA r22 (by simp) rfl ?_
        simp[g11,g13,g15,g11x,g13x,g15x]
       refine WL.last ?_
       simp[g11,g13,g15,g11x,g13x,g15x]
      obtain rfl:=oi q21
      refine st ?_
      simp[g11,g13,g15]
     have c18:=eqF g13
     obtain rfl:=oi q21
     refine st ?_
     simp[g11,g13]
    have c19:=eqF g11
    obtain rfl:=oi q21
    refine st ?_
    simp[g11]
   refine zAB ?_
   cases h
   simp
theorem zIq(fuel:Nat):(∀(p1:zLc)(q2:zLc)(r:Bool)(_:zB3 fuel p1 q2=some r),Pure Tryz.prog 43 [.agg (zLc.d p1),.agg (zLc.d q2)] (.bool r)):=(zC8 fuel).2
theorem zIs(fuel:Nat)(p1:zLc)(q2:zLc)(r:Bool×Int)(h:zDs fuel p1 q2=some r):Pure Tryz.prog 17 [.agg (zLc.d p1),.agg (zLc.d q2)] (.tup [.bool r.1,iI r.2]):=by
 rw[zDs] at h
 refine zAE Tryz.func17 (by rfl) (by rfl) (by simp) (by simp) (by simp)<|cutA 17 0 [(2,pT 0),(3,pT 1)] [(zLc.d p1),(zLc.d q2)]<|zAC ?_
 obtain⟨b10,q11,h⟩:=bs h
 refine cut 17 0 [(2,pT 0),(3,pT 1),(13,.bool b10)] [(zLc.d p1),(zLc.d q2)] ?_ ?_
 ·obtain⟨v3,q4,q11⟩:=bs q11
  rcases sp q11 with ⟨g5,q11⟩|⟨g5,q11⟩
  ·have g6:=notT g5
   obtain rfl:=oi q11
   refine st ?_
   simp[g5]
   have r16:=zCX fuel p1 v3 q4
   try simp[g5] at r16
   refine zAA r16 (by simp) rfl ?_
   simp[g5]
  have g7:=notF g5
  obtain⟨v8,q9,q11⟩:=bs q11
  obtain rfl:=oi q11
  refine st ?_
  simp[g5]
  have r17:=zCX fuel p1 v3 q4
  try simp[g5] at r17
  refine zAA r17 (by simp) rfl ?_
  simp[g5]
  have r18:=zCX fuel q2 v8 q9
  try simp[g5] at r18
  refine zAA r18 (by simp) rfl ?_
  simp[g5]
 refine spc h rfl (fun g12 h=>?_) fun g12 h=>?_
 ·refine cutA 17 0 [(4,.bool false),(5,iI 1)] [(zLc.d p1),(zLc.d q2)]<|zAB<|zAF ?_
  cases h
  simp
 refine zAD<|zAK ?_
 obtain⟨v13,q14,h⟩:=bs h
 refine cut 17 0 [(4,.bool v13),(5,iI 0)] [(zLc.d p1),(zLc.d q2)] ?_ ?_
 ·refine st ?_
  simp
  have r15:=zIq fuel p1 q2 v13 q14
  try simp at r15
  refine zAA r15 (by simp) rfl ?_
  simp
 refine zAB ?_
 cases h
 simp
theorem zEO(fuel:Nat):(∀(c1:zLd)(r:Int)(_:zCN fuel c1=some r),Pure Tryz.prog 55 [.agg (zLd.d c1)] (iI r)):=by
 induction fuel with
 |zero=>intro c1 r h;rw[zCN] at h;cases h
 |succ fuel ih_tycon_Size=>
  intro c1 r h
  rw[zCN] at h
  refine zAE Tryz.func55 (by rfl) (by rfl) (by simp) (by simp) (by simp)<|cutA 19 0 [(1,pT 0)] [(zLd.d c1)]<|cutA 19 0 [(1,pT 0),(3,iI 1)] [(zLd.d c1)]<|zAC<|cutA 19 0 [(3,iI 1),(7,.sl (c1.L.map zLd.c)),(8,iI c1.L.length),(9,iI 0)] [(zLd.d c1)]<|zAG ?_
  obtain⟨o4,l5,h⟩:=bs h
  refine zBR (fun p:Nat×Int×Nat=>mkS 19 0 [(3,iI p.2.1),(7,.sl (c1.L.map zLd.c)),(8,iI c1.L.length),(9,iI p.2.2)] [(zLd.d c1)]) (fun p=>zDH (zCN fuel) c1 p.1 p.2.1 p.2.2=some o4) (fun p=>p.1) (fuel,1,0) l5 (zA1 (by simp)) ?_
  rintro⟨k6,n2,i3⟩ l5
  try dsimp only at l5 ⊢
  cases k6 with
  |zero=>
   rw[zDH] at l5;cases l5
  |succ k7=>
   rw[zDH] at l5
   refine cutA 19 0 [(3,iI n2),(7,.sl (c1.L.map zLd.c)),(8,iI c1.L.length),(9,iI i3),(10,.bool (ltI ((i3:Nat):Int) (c1.L.length:Int)))] [(zLd.d c1)]<|zAC<|spc l5 rfl (fun g8 l5=>?_) fun g8 l5=>?_
   ·have c9:=ltT g8
    refine zCe 7 rfl fun f10=>?_
    rw[zq4] at f10
    refine zAD<|zAK<|zAC<|zAG ?_
    obtain⟨x11,q12,l5⟩:=bs l5
    refine cut 19 0 [(3,iI n2),(5,pT 1),(7,.sl (c1.L.map zLd.c)),(8,iI c1.L.length),(9,iI i3)] [(zLd.d c1),(zLd.d x11)] (st (by simp[q12])) ?_
    obtain⟨v13,q14,l5⟩:=bs l5
    obtain⟨n15,q16,l5⟩:=bs l5
    obtain⟨q17,q18⟩:=zC9 q16
    try simp at q17
    try simp at q18
    have c19:=q17;simp only[Rng,inR] at c19
    refine last 19 0 [(3,iI n15),(7,.sl (c1.L.map zLd.c)),(8,iI c1.L.length),(9,iI i3)] [(zLd.d c1),(zLd.d x11)] ?_ fun zz hs=>?_
    ·refine st ?_
     simp[q17,q18]
     have r21:=ih_tycon_Size x11 v13 q14
     try simp[q17,q18] at r21
     refine zAA r21 (by simp) rfl ?_
     simp[q17,q18]
    refine zDg<|zBS ?_ hs
    have q20:Rng .i64 (((i3:Nat):Int)+1):=by simp only[Rng,inR];omega
    try simp at q20
    refine last 19 0 [(3,iI n15),(7,.sl (c1.L.map zLd.c)),(8,iI c1.L.length),(9,iI ((i3+1:Nat):Int))] [(zLd.d c1)] (st (by simp[q20])) fun zz hs=>?_
    exact⟨(k7,n15,i3+1),hs,l5,by simp⟩
   have c22:=ltF g8
   refine zCe 7 rfl fun f23=>?_
   rw[zq4] at f23
   refine zAp<|zAH ?_
   have q24:=zqa l5
   have q24:=q24.symm
   refine zAH<|zAt<|zBS (t:=mkS 19 0 [(3,iI o4)] [(zLd.d c1)]) ?_ (zA1 (by simp[q24]))
   refine cutA 19 0 [(2,iI o4)] [(zLd.d c1)]<|zAB ?_
   cases h
   simp
theorem zHz(fuel:Nat):(∀(c1:zLd)(r:Int)(_:zCs fuel c1=some r),Pure Tryz.prog 56 [.agg (zLd.d c1)] (iI r)):=by
 induction fuel with
 |zero=>intro c1 r h;rw[zCs] at h;cases h
 |succ fuel zLH=>
  intro c1 r h
  rw[zCs] at h
  refine zAE Tryz.func56 (by rfl) (by rfl) (by simp) (by simp) (by simp)<|cutA 20 0 [(1,pT 0)] [(zLd.d c1)]<|cutA 20 0 [(1,pT 0),(3,iI 0)] [(zLd.d c1)]<|zAC<|cutA 20 0 [(3,iI 0),(7,.sl (c1.L.map zLd.c)),(8,iI c1.L.length),(9,iI 0)] [(zLd.d c1)]<|zAG ?_
  obtain⟨o4,l5,h⟩:=bs h
  refine zBR (fun p:Nat×Int×Nat=>mkS 20 0 [(3,iI p.2.1),(7,.sl (c1.L.map zLd.c)),(8,iI c1.L.length),(9,iI p.2.2)] [(zLd.d c1)]) (fun p=>zC3 (zCs fuel) c1 p.1 p.2.1 p.2.2=some o4) (fun p=>p.1) (fuel,0,0) l5 (zA1 (by simp)) ?_
  rintro⟨k6,n2,i3⟩ l5
  try dsimp only at l5 ⊢
  cases k6 with
  |zero=>
   rw[zC3] at l5;cases l5
  |succ k7=>
   rw[zC3] at l5
   refine cutA 20 0 [(3,iI n2),(7,.sl (c1.L.map zLd.c)),(8,iI c1.L.length),(9,iI i3),(10,.bool (ltI ((i3:Nat):Int) (c1.L.length:Int)))] [(zLd.d c1)]<|zAC<|spc l5 rfl (fun g8 l5=>?_) fun g8 l5=>?_
   ·have c9:=ltT g8
    refine zCe 7 rfl fun f10=>?_
    rw[zq4] at f10
    refine zAD<|zAK<|zAC<|zAG ?_
    obtain⟨x11,q12,l5⟩:=bs l5
    refine cut 20 0 [(3,iI n2),(5,pT 1),(7,.sl (c1.L.map zLd.c)),(8,iI c1.L.length),(9,iI i3)] [(zLd.d c1),(zLd.d x11)] (st (by simp[q12])) ?_
    obtain⟨v13,q14,l5⟩:=bs l5
    refine last 20 0 [(3,iI (maxI n2 v13)),(7,.sl (c1.L.map zLd.c)),(8,iI c1.L.length),(9,iI i3)] [(zLd.d c1),(zLd.d x11)] ?_ fun zz hs=>?_
    ·refine st ?_
     simp
     have r16:=zLH x11 v13 q14
     try simp at r16
     refine zAA r16 (by simp) rfl ?_
     simp
    refine zDg<|zBS ?_ hs
    have q15:Rng .i64 (((i3:Nat):Int)+1):=by simp only[Rng,inR];omega
    try simp at q15
    refine last 20 0 [(3,iI (maxI n2 v13)),(7,.sl (c1.L.map zLd.c)),(8,iI c1.L.length),(9,iI ((i3+1:Nat):Int))] [(zLd.d c1)] (st (by simp[q15])) fun zz hs=>?_
    exact⟨(k7,maxI n2 v13,i3+1),hs,l5,by simp⟩
   have c17:=ltF g8
   refine zCe 7 rfl fun f18=>?_
   rw[zq4] at f18
   refine zAp<|zAH ?_
   have q19:=zqa l5
   have q19:=q19.symm
   refine zAH<|zAt<|zBS (t:=mkS 20 0 [(3,iI o4)] [(zLd.d c1)]) ?_ (zA1 (by simp[q19]))
   obtain⟨n20,q21,h⟩:=bs h
   obtain⟨q22,q23⟩:=zC9 q21
   try simp at q22
   try simp at q23
   have c24:=q22;simp only[Rng,inR] at c24
   refine cut 20 0 [(2,iI n20)] [(zLd.d c1)] (st (by simp[q22,q23]))<|zAB ?_
   cases h
   simp
theorem zBL(c1:zLd)(r:Bool)(h:zBN c1=some r):Pure Tryz.prog 92 [.agg (zLd.d c1)] (.bool r):=by
 rw[zBN] at h
 refine zAE Tryz.func92 (by rfl) (by rfl) (by simp) (by simp) (by simp)<|cutA 11 0 [(1,pT 0)] [(zLd.d c1)]<|cut 11 0 [(2,.bool ((eqI c1.Op 7)||(eqI c1.Op 8)))] [(zLd.d c1)] ?_ ?_
 ·rcases tf (eqI c1.Op 7) with g2|g2
  ·have c3:=eqT g2
   refine st ?_
   simp[g2]
  have c4:=eqF g2
  refine st ?_
  simp[g2]
 refine zAB ?_
 cases h
 simp
theorem zBs(c1:zLd)(r:Bool)(h:zBO c1=some r):Pure Tryz.prog 90 [.agg (zLd.d c1)] (.bool r):=by
 rw[zBO] at h
 refine zAE Tryz.func90 (by rfl) (by rfl) (by simp) (by simp) (by simp)<|cutA 21 0 [(1,pT 0)] [(zLd.d c1)]<|cut 21 0 [(2,.bool ((eqI c1.Op 9)||((eqI c1.Op 10)||((eqI c1.Op 11)||(eqI c1.Op 13)))))] [(zLd.d c1)] ?_ ?_
 ·rcases tf (eqI c1.Op 9) with g2|g2
  ·have c3:=eqT g2
   refine st ?_
   simp[g2]
  have c4:=eqF g2
  rcases tf (eqI c1.Op 10) with g5|g5
  ·have c6:=eqT g5
   refine st ?_
   simp[g2,g5]
  have c7:=eqF g5
  rcases tf (eqI c1.Op 11) with g8|g8
  ·have c9:=eqT g8
   refine st ?_
   simp[g2,g5,g8]
  have c10:=eqF g8
  refine st ?_
  simp[g2,g5,g8]
 refine zAB ?_
 cases h
 simp
theorem zKm(c1:zLd)(r:Int)(h:zCr c1=some r):Pure Tryz.prog 88 [.agg (zLd.d c1)] (iI r):=by
 rw[zCr] at h
 refine zAE Tryz.func88 (by rfl) (by rfl) (by simp) (by simp) (by simp)<|cutA 30 0 [(1,pT 0)] [(zLd.d c1)]<|zAC<|zAG<|cut 30 0 [(1,pT 0),(3,.bool ((ltI c1.Op 1)||(ltI 13 c1.Op)))] [(zLd.d c1)] ?_ ?_
 ·rcases tf (ltI c1.Op 1) with g2|g2
  ·have c3:=ltT g2
   refine st ?_
   simp[g2]
  have c4:=ltF g2
  refine st ?_
  simp[g2]
 rcases sp h with ⟨g5,h⟩|⟨g5,h⟩
 ·refine zD5 rfl g5<|cutA 30 0 [(2,iI (-1))] [(zLd.d c1)]<|zAB<|zAQ<|zAF ?_
  cases h
  simp
 obtain⟨g6,g7⟩:=orF g5
 have c8:=ltF g6
 have c9:=ltF g7
 refine zEK rfl g5 ?_
 obtain⟨v10,q11,h⟩:=bs h
 refine cut 30 0 [(1,pT 0),(12,.bool v10)] [(zLd.d c1)] ?_ ?_
 ·refine st ?_
  simp
  have r25:=zBL c1 v10 q11
  try simp at r25
  refine zAA r25 (by simp) rfl ?_
  simp
 refine spc h rfl (fun g12 h=>?_) fun g12 h=>?_
 ·refine cutA 30 0 [(2,iI c1.Names.length)] [(zLd.d c1)]<|zAB<|zAQ<|zAF ?_
  cases h
  simp
 obtain⟨v13,q14,h⟩:=bs h
 refine cut 30 0 [(1,pT 0),(18,.bool v13)] [(zLd.d c1)] ?_ ?_
 ·refine st ?_
  simp
  have r24:=zBs c1 v13 q14
  try simp at r24
  refine zAA r24 (by simp) rfl ?_
  simp
 refine spc h rfl (fun g15 h=>?_) fun g15 h=>?_
 ·refine cutA 30 0 [(2,iI 1)] [(zLd.d c1)]<|zAB<|zAQ<|zAF ?_
  cases h
  simp
 refine cut 30 0 [(21,.bool ((eqI c1.Op 6)||(eqI c1.Op 12)))] [(zLd.d c1)] ?_ ?_
 ·rcases tf (eqI c1.Op 6) with g16|g16
  ·have c17:=eqT g16
   refine st ?_
   simp[g16]
  have c18:=eqF g16
  refine st ?_
  simp[g16]
 rcases sp h with ⟨g19,h⟩|⟨g19,h⟩
 ·refine zD5 rfl g19<|cutA 30 0 [(2,iI 2)] [(zLd.d c1)]<|zAB<|zAQ<|zAF ?_
  cases h
  simp
 obtain⟨g20,g21⟩:=orF g19
 have c22:=eqF g20
 have c23:=eqF g21
 refine zEK rfl g19<|zAD<|zDg<|zAK<|cutA 30 0 [(2,iI 0)] [(zLd.d c1)]<|zAB ?_
 cases h
 simp
theorem zKI(fuel:Nat)(s1:(List UInt8))(r:Int×Int)(h:zEp fuel s1=some r):Pure Tryz.prog 131 [.str s1] (.tup [iI r.1,iI r.2]):=by
 rw[zEp] at h
 refine zAE Tryz.func131 (by rfl) (by rfl) (by simp) (by simp) (by simp)<|cutA 43 0 [(0,.str s1)] []<|zAC ?_
 obtain⟨b10,q11,h⟩:=bs h
 refine cut 43 0 [(0,.str s1),(19,.bool b10)] [] ?_ ?_
 ·rcases sp q11 with ⟨g2,q11⟩|⟨g2,q11⟩
  ·obtain rfl:=oi q11
   refine st ?_
   simp[g2]
  rcases sp q11 with ⟨g3,q11⟩|⟨g3,q11⟩
  ·have c4:=ltT g3
   refine factS 0 rfl fun f5=>?_
   obtain⟨c6,q7,q11⟩:=bs q11
   obtain rfl:=oi q11
   refine st ?_
   simp[g2,g3,q7]
  have c8:=ltF g3
  refine factS 0 rfl fun f9=>?_
  obtain rfl:=oi q11
  refine st ?_
  simp[g2,g3]
 refine spc h rfl (fun g12 h=>?_) fun g12 h=>?_
 ·refine cutA 43 0 [(2,iI 0),(3,iI 3)] []<|zAB<|zAF ?_
  cases h
  simp
 refine zAD<|zAK<|zAC ?_
 obtain⟨l13,q14,h⟩:=bs h
 obtain⟨q15,q16⟩:=zLP q14
 refine cut 43 0 [(0,.str s1),(21,.sl (l13.map cU)),(22,iI l13.length),(23,iI 0)] [] (st (by simp[q15,q16]))<|zAG ?_
 obtain⟨o19,l20,h⟩:=bs h
 refine zBR (fun p:Nat×Nat=>mkS 43 0 [(0,.str s1),(21,.sl (l13.map cU)),(22,iI l13.length),(23,iI p.2)] []) (fun p=>zCI l13 p.1 p.2=some o19) (fun p=>p.1) (fuel,0) l20 (zA1 (by simp)) ?_
 rintro⟨k21,i17⟩ l20
 try dsimp only at l20 ⊢
 cases k21 with
 |zero=>
  rw[zCI] at l20;cases l20
 |succ k22=>
  rw[zCI] at l20
  refine cutA 43 0 [(0,.str s1),(21,.sl (l13.map cU)),(22,iI l13.length),(23,iI i17),(24,.bool (ltI ((i17:Nat):Int) (l13.length:Int)))] []<|zAC<|spc l20 rfl (fun g23 l20=>?_) fun g23 l20=>?_
  ·have c24:=ltT g23
   refine zCe 21 rfl fun f25=>?_
   rw[zq4] at f25
   refine zAD<|zAK<|zAC<|zAG ?_
   obtain⟨x26,q27,l20⟩:=bs l20
   refine cut 43 0 [(0,.str s1),(5,.int .u8 x26.toNat),(21,.sl (l13.map cU)),(22,iI l13.length),(23,iI i17)] [] (st (by simp[q27])) ?_
   obtain⟨v28,q29,l20⟩:=bs l20
   refine cut 43 0 [(0,.str s1),(21,.sl (l13.map cU)),(22,iI l13.length),(23,iI i17),(29,.bool (!(eqI v28 3)))] [] ?_ ?_
   ·refine st ?_
    simp
    have r36:=zHP x26 v28 q29
    try simp at r36
    refine zAA r36 (by simp) rfl ?_
    simp
   rcases sp l20 with ⟨g30,l20⟩|⟨g30,l20⟩
   ·have g31:=notT g30
    have c32:=eqF g31
    refine zD5 rfl g30<|cutA 43 0 [(2,iI 0),(3,iI 3)] []<|zAB<|zAQ<|zAF ?_
    replace h:=retL l20 h
    refine zAF<|zAQ<|zAF ?_
    cases h
    simp
   have g33:=notF g30
   have c34:=eqT g33
   refine zEK rfl g30<|zAD<|zDg<|zAK ?_
   have q35:Rng .i64 (((i17:Nat):Int)+1):=by simp only[Rng,inR];omega
   try simp at q35
   refine last 43 0 [(0,.str s1),(21,.sl (l13.map cU)),(22,iI l13.length),(23,iI ((i17+1:Nat):Int))] [] (st (by simp[q35])) fun zz hs=>?_
   exact⟨(k22,i17+1),hs,l20,by simp⟩
  have c37:=ltF g23
  refine zCe 21 rfl fun f38=>?_
  rw[zq4] at f38
  refine zAp<|zAH ?_
  rcases o19 with o19|o18
  ·cases l20
  have q39:=Sum.inr.inj (zqa l20)
  replace h:=zIl h
  refine zAH<|zAt<|zBS (t:=mkS 43 0 [(0,.str s1)] []) ?_ (zA1 (by simp))
  obtain⟨v40,q41,h⟩:=bs h
  rcases sp h with ⟨g42,h⟩|⟨g42,h⟩
  ·refine cut 43 0 [(6,iI v40.1),(7,.iface 200 (.cptr [.str [65,116,111,105],.str s1,.top]))] [] ?_ ?_
   ·refine st ?_
    simp[g42]
    have r46:=strconv_Atoi_ok s1 v40 q41
    try simp[g42] at r46
    refine zAA r46 (by simp) rfl ?_
    simp[g42]
   refine zAC<|cutA 43 0 [(6,iI v40.1),(41,.bool true)] []<|zD5 rfl rfl<|cutA 43 0 [(2,iI 0),(3,iI 6)] []<|zAB<|zAF ?_
   cases h
   simp
  refine cut 43 0 [(6,iI v40.1),(7,.nilif)] [] ?_ ?_
  ·refine st ?_
   simp[g42]
   have r47:=strconv_Atoi_ok s1 v40 q41
   try simp[g42] at r47
   refine zAA r47 (by simp) rfl ?_
   simp[g42]
  refine zAC<|cutA 43 0 [(6,iI v40.1),(41,.bool (ltI 4503599627370496 v40.1))] []<|spc h rfl (fun g43 h=>?_) fun g43 h=>?_
  ·have c44:=ltT g43
   refine cutA 43 0 [(2,iI 0),(3,iI 6)] []<|zAB<|zAF ?_
   cases h
   simp
  have c45:=ltF g43
  refine zAD<|zAK<|cutA 43 0 [(2,iI v40.1),(3,iI 0)] []<|zAB ?_
  cases h
  simp
theorem zDA(fuel:Nat)(s1:(List UInt8))(r:Bool)(h:zCZ fuel s1=some r):Pure Tryz.prog 89 [.str s1] (.bool r):=by
 rw[zCZ] at h
 refine zAE Tryz.func89 (by rfl) (by rfl) (by simp) (by simp) (by simp)<|cutA 33 0 [(0,.str s1)] [] ?_
 obtain⟨v2,q3,h⟩:=bs h
 refine cut 33 0 [(0,.str s1),(3,.str v2.1),(4,.str v2.2.1),(5,.bool v2.2.2)] [] ?_ ?_
 ·refine st ?_
  simp
  have r20:=zH5 s1 [46] v2 q3
  try simp at r20
  refine zAA r20 (by simp) rfl ?_
  simp
 obtain⟨v4,q5,h⟩:=bs h
 refine cut 33 0 [(0,.str s1),(3,.str v2.1),(5,.bool v2.2.2),(7,iI v4.2)] [] ?_ ?_
 ·refine st ?_
  simp
  have r19:=zKI fuel v2.2.1 v4 q5
  try simp at r19
  refine zAA r19 (by simp) rfl ?_
  simp
 obtain⟨b15,q16,h⟩:=bs h
 refine cut 33 0 [(2,.bool b15)] [] ?_ ?_
 ·rcases sp q16 with ⟨g6,q16⟩|⟨g6,q16⟩
  ·rcases sp q16 with ⟨g7,q16⟩|⟨g7,q16⟩
   ·have c8:=leT g7
    refine factS 0 rfl fun f9=>?_
    obtain⟨v10,q11,q16⟩:=bs q16
    rcases sp q16 with ⟨g12,q16⟩|⟨g12,q16⟩
    ·obtain rfl:=oi q16
     refine st ?_
     simp[g6,g7,g12]
     have r17:=zFd fuel v2.1 v10 q11
     try simp[g6,g7,g12] at r17
     refine zAA r17 (by simp) rfl ?_
     simp[g6,g7,g12]
    obtain rfl:=oi q16
    refine st ?_
    simp[g6,g7,g12]
    have r18:=zFd fuel v2.1 v10 q11
    try simp[g6,g7,g12] at r18
    refine zAA r18 (by simp) rfl ?_
    simp[g6,g7,g12]
   have c13:=leF g7
   refine factS 0 rfl fun f14=>?_
   obtain rfl:=oi q16
   refine st ?_
   simp[g6,g7]
  obtain rfl:=oi q16
  refine st ?_
  simp[g6]
 refine zAB ?_
 cases h
 simp
theorem kind_size_ok(fuel:Nat):(∀(k1:zLb)(left2:Int)(depth3:Int)(r:Int×Bool)(_:zDh fuel k1 left2 depth3=some r),Pure Tryz.prog 143 [.agg [.sl (k1.L.map zLb.c)],iI left2,iI depth3] (.tup [iI r.1,.bool r.2])):=by
 induction fuel with
 |zero=>intro k1 left2 depth3 r h;rw[zDh] at h;cases h
 |succ fuel ih_kind_size=>
  intro k1 left2 depth3 r h
  rw[zDh] at h
  refine zAE Tryz.func143 (by rfl) (by rfl) (by simp) (by simp) (by simp)<|cutA 55 0 [(1,iI left2),(2,iI depth3),(3,pT 0)] [[.sl (k1.L.map zLb.c)]]<|zAC<|cut 55 0 [(1,iI left2),(2,iI depth3),(3,pT 0),(30,.bool ((leI left2 0)||((ltI 400 depth3)||((!(eqI (k1.L.length:Int) 0))&&(!(eqI (k1.L.length:Int) 2))))))] [[.sl (k1.L.map zLb.c)]] ?_ ?_
  ·rcases tf (leI left2 0) with g4|g4
   ·have c5:=leT g4
    refine st ?_
    simp[g4]
   have c6:=leF g4
   rcases tf (ltI 400 depth3) with g7|g7
   ·have c8:=ltT g7
    refine st ?_
    simp[g4,g7]
   have c9:=ltF g7
   rcases tf (!(eqI (k1.L.length:Int) 0)) with g10|g10
   ·have g11:=notT g10
    have c12:=eqF g11
    refine st ?_
    simp[g4,g7,g10]
   have g13:=notF g10
   have c14:=eqT g13
   refine st ?_
   simp[g4,g7,g10]
  rcases sp h with ⟨g15,h⟩|⟨g15,h⟩
  ·refine zD5 rfl g15<|cutA 55 0 [(6,iI 0),(7,.bool false)] [[.sl (k1.L.map zLb.c)]]<|zAB<|zAF ?_
   cases h
   simp
  obtain⟨g16,g17⟩:=orF g15
  have c18:=leF g16
  obtain⟨g19,g20⟩:=orF g17
  have c21:=ltF g19
  refine zEK rfl g15<|zAD<|zAK<|cutA 55 0 [(1,iI left2),(2,iI depth3),(3,pT 0),(8,iI 1)] [[.sl (k1.L.map zLb.c)]]<|zAC<|cutA 55 0 [(1,iI left2),(2,iI depth3),(8,iI 1),(32,.sl (k1.L.map zLb.c)),(33,iI k1.L.length),(34,iI 0)] [[.sl (k1.L.map zLb.c)]]<|zAG ?_
  obtain⟨o25,l26,h⟩:=bs h
  refine zBR (fun p:Nat×Int×Nat=>mkS 55 0 [(1,iI left2),(2,iI depth3),(8,iI p.2.1),(32,.sl (k1.L.map zLb.c)),(33,iI k1.L.length),(34,iI p.2.2)] [[.sl (k1.L.map zLb.c)]]) (fun p=>zDZ (zDh fuel) k1 left2 depth3 p.1 p.2.1 p.2.2=some o25) (fun p=>p.1) (fuel,1,0) l26 (zA1 (by simp)) ?_
  rintro⟨k27,n22,i23⟩ l26
  try dsimp only at l26 ⊢
  cases k27 with
  |zero=>
   rw[zDZ] at l26;cases l26
  |succ k28=>
   rw[zDZ] at l26
   refine cutA 55 0 [(1,iI left2),(2,iI depth3),(8,iI n22),(32,.sl (k1.L.map zLb.c)),(33,iI k1.L.length),(34,iI i23),(35,.bool (ltI ((i23:Nat):Int) (k1.L.length:Int)))] [[.sl (k1.L.map zLb.c)]]<|zAC<|spc l26 rfl (fun g29 l26=>?_) fun g29 l26=>?_
   ·have c30:=ltT g29
    refine zCe 32 rfl fun f31=>?_
    rw[zq4] at f31
    refine zAD<|zAK<|zAC<|zAG ?_
    obtain⟨x32,q33,l26⟩:=bs l26
    refine cut 55 0 [(1,iI left2),(2,iI depth3),(8,iI n22),(10,pT 1),(32,.sl (k1.L.map zLb.c)),(33,iI k1.L.length),(34,iI i23)] [[.sl (k1.L.map zLb.c)],[.sl (x32.L.map zLb.c)]] (st (by simp[q33])) ?_
    obtain⟨n34,q35,l26⟩:=bs l26
    obtain⟨q36,q37⟩:=zC9 q35
    try simp at q36
    try simp at q37
    have c38:=q36;simp only[Rng,inR] at c38
    obtain⟨n39,q40,l26⟩:=bs l26
    obtain⟨q41,q42⟩:=zC9 q40
    try simp at q41
    try simp at q42
    have c43:=q41;simp only[Rng,inR] at c43
    obtain⟨v44,q45,l26⟩:=bs l26
    refine cut 55 0 [(1,iI left2),(2,iI depth3),(8,iI n22),(11,iI v44.1),(12,.bool v44.2),(32,.sl (k1.L.map zLb.c)),(33,iI k1.L.length),(34,iI i23)] [[.sl (k1.L.map zLb.c)],[.sl (x32.L.map zLb.c)]] ?_ ?_
    ·refine st ?_
     simp[q36,q37,q41,q42]
     have r55:=ih_kind_size x32 n34 n39 v44 q45
     try simp[q36,q37,q41,q42] at r55
     refine zAA r55 (by simp) rfl ?_
     simp[q36,q37,q41,q42]
    refine zAC<|cutA 55 0 [(1,iI left2),(2,iI depth3),(8,iI n22),(11,iI v44.1),(32,.sl (k1.L.map zLb.c)),(33,iI k1.L.length),(34,iI i23),(49,.bool (!v44.2))] [[.sl (k1.L.map zLb.c)],[.sl (x32.L.map zLb.c)]]<|spc l26 rfl (fun g46 l26=>?_) fun g46 l26=>?_
    ·have g47:=notT g46
     refine cutA 55 0 [(6,iI 0),(7,.bool false)] [[.sl (k1.L.map zLb.c)],[.sl (x32.L.map zLb.c)]]<|zAB<|zAF<|zAQ<|zAF ?_
     replace h:=retL l26 h
     refine zAF<|zAQ<|zAF ?_
     cases h
     simp
    have g48:=notF g46
    refine zAD<|zAK ?_
    obtain⟨n49,q50,l26⟩:=bs l26
    obtain⟨q51,q52⟩:=zC9 q50
    try simp at q51
    try simp at q52
    have c53:=q51;simp only[Rng,inR] at c53
    refine last 55 0 [(1,iI left2),(2,iI depth3),(8,iI n49),(32,.sl (k1.L.map zLb.c)),(33,iI k1.L.length),(34,iI i23)] [[.sl (k1.L.map zLb.c)],[.sl (x32.L.map zLb.c)]] (st (by simp[q51,q52])) fun zz hs=>?_
    refine zDg<|zBS ?_ hs
    have q54:Rng .i64 (((i23:Nat):Int)+1):=by simp only[Rng,inR];omega
    try simp at q54
    refine last 55 0 [(1,iI left2),(2,iI depth3),(8,iI n49),(32,.sl (k1.L.map zLb.c)),(33,iI k1.L.length),(34,iI ((i23+1:Nat):Int))] [[.sl (k1.L.map zLb.c)]] (st (by simp[q54])) fun zz hs=>?_
    exact⟨(k28,n49,i23+1),hs,l26,by simp⟩
   have c56:=ltF g29
   refine zCe 32 rfl fun f57=>?_
   rw[zq4] at f57
   refine zAp<|zAH ?_
   rcases o25 with o25|o24
   ·cases l26
   have q58:=Sum.inr.inj (zqa l26)
   replace h:=zIl h
   have q58:=q58.symm
   refine zAH<|zAt<|zBS (t:=mkS 55 0 [(8,iI o24)] [[.sl (k1.L.map zLb.c)]]) ?_ (zA1 (by simp[q58]))
   refine cutA 55 0 [(6,iI o24),(7,.bool true)] [[.sl (k1.L.map zLb.c)]]<|zAB ?_
   cases h
   simp
theorem zEP(fuel:Nat)(k1:zLb)(r:Bool)(h:zDu fuel k1=some r):Pure Tryz.prog 91 [.agg [.sl (k1.L.map zLb.c)]] (.bool r):=by
 rw[zDu] at h
 refine zAE Tryz.func91 (by rfl) (by rfl) (by simp) (by simp) (by simp)<|cutA 11 0 [(1,pT 0)] [[.sl (k1.L.map zLb.c)]] ?_
 obtain⟨v2,q3,h⟩:=bs h
 refine cut 11 0 [(4,.bool v2.2)] [[.sl (k1.L.map zLb.c)]] ?_ ?_
 ·refine st ?_
  simp
  have r4:=kind_size_ok fuel k1 20000 1 v2 q3
  try simp at r4
  refine zAA r4 (by simp) rfl ?_
  simp
 refine cutA 11 0 [(2,.bool v2.2)] [[.sl (k1.L.map zLb.c)]]<|zAB ?_
 cases h
 simp
theorem zA3(fuel:Nat)(l1:(List (List UInt8)))(r:Bool)(h:zA5 fuel l1=some r):Pure Tryz.prog 93 [.sl (l1.map cS)] (.bool r):=by
 rw[zA5] at h
 refine zAE Tryz.func93 (by rfl) (by rfl) (by simp) (by simp) (by simp)<|cutA 20 0 [(0,.sl (l1.map cS))] []<|zAC<|cutA 20 0 [(0,.sl (l1.map cS)),(3,iI 1)] []<|zAG ?_
 obtain⟨o4,l5,h⟩:=bs h
 refine zBR (fun p:Nat×Nat=>mkS 20 0 [(0,.sl (l1.map cS)),(3,iI p.2)] []) (fun p=>zAx l1 p.1 p.2=some o4) (fun p=>p.1) (fuel,1) l5 (zA1 (by simp)) ?_
 rintro⟨k6,i2⟩ l5
 try dsimp only at l5 ⊢
 cases k6 with
 |zero=>
  rw[zAx] at l5;cases l5
 |succ k7=>
  rw[zAx] at l5
  refine zAC<|cutA 20 0 [(0,.sl (l1.map cS)),(3,iI i2),(7,.bool (ltI ((i2:Nat):Int) (l1.length:Int)))] []<|spc l5 rfl (fun g8 l5=>?_) fun g8 l5=>?_
  ·have c9:=ltT g8
   refine zCe 0 rfl fun f10=>?_
   rw[zq4] at f10
   refine zAD<|zAK<|zAC<|zAG ?_
   have q11:Rng .i64 (((i2:Nat):Int)-1):=by simp only[Rng,inR];omega
   try simp at q11
   obtain⟨x12,q13,l5⟩:=bs l5
   obtain⟨q14,q15⟩:=idx_ok q13
   try simp at q14
   try simp at q15
   obtain⟨x16,q17,l5⟩:=bs l5
   refine cut 20 0 [(0,.sl (l1.map cS)),(3,iI i2),(19,.bool (!(ltS x12 x16)))] [] ?_ ?_
   ·refine zAN [] mixed (n:=20) rfl (by decide) ?_
    simp[q11,q14,q15,q17]
   refine spc l5 rfl (fun g18 l5=>?_) fun g18 l5=>?_
   ·have g19:=notT g18
    refine cutA 20 0 [(2,.bool false)] []<|zAB<|zAQ<|zAF ?_
    replace h:=retL l5 h
    refine zAF<|zAQ<|zAF ?_
    cases h
    simp
   have g20:=notF g18
   refine zAD<|zDg<|zAK ?_
   have q21:Rng .i64 (((i2:Nat):Int)+1):=by simp only[Rng,inR];omega
   try simp at q21
   refine last 20 0 [(0,.sl (l1.map cS)),(3,iI ((i2+1:Nat):Int))] [] (st (by simp[q21])) fun zz hs=>?_
   exact⟨(k7,i2+1),hs,l5,by simp⟩
  have c22:=ltF g8
  refine zCe 0 rfl fun f23=>?_
  rw[zq4] at f23
  refine zAp<|zAH ?_
  rcases o4 with o4|o3
  ·cases l5
  have q24:=Sum.inr.inj (zqa l5)
  replace h:=zIl h
  refine zAH<|zAt<|zBS (t:=mkS 20 0 [] []) ?_ (zA1 (by simp))
  refine cutA 20 0 [(2,.bool true)] []<|zAB ?_
  cases h
  simp
theorem zFe(fuel:Nat)(s1:(List UInt8))(r:Bool)(h:zCU fuel s1=some r):Pure Tryz.prog 82 [.str s1] (.bool r):=by
 rw[zCU] at h
 refine zAE Tryz.func82 (by rfl) (by rfl) (by simp) (by simp) (by simp)<|cutA 23 0 [(0,.str s1)] []<|zAC<|cut 23 0 [(0,.str s1),(11,.bool ((eqS s1 ([]:List UInt8))||(ltI 48 (s1.length:Int))))] [] ?_ ?_
 ·rcases tf (eqS s1 ([]:List UInt8)) with g2|g2
  ·refine st ?_
   simp[g2]
  refine st ?_
  simp[g2]
 rcases sp h with ⟨g3,h⟩|⟨g3,h⟩
 ·refine zD5 rfl g3<|cutA 23 0 [(2,.bool false)] []<|zAB<|zAF ?_
  cases h
  simp
 obtain⟨g4,g5⟩:=orF g3
 have c6:=ltF g5
 refine zEK rfl g3<|factS 0 rfl fun f7=>?_
 refine zAD<|zAK<|zAC ?_
 obtain⟨l8,q9,h⟩:=bs h
 obtain⟨q10,q11⟩:=zLP q9
 refine cut 23 0 [(13,.sl (l8.map cU)),(14,iI l8.length),(15,iI 0)] [] (st (by simp[q10,q11]))<|zAG ?_
 obtain⟨o14,l15,h⟩:=bs h
 refine zBR (fun p:Nat×Nat=>mkS 23 0 [(13,.sl (l8.map cU)),(14,iI l8.length),(15,iI p.2)] []) (fun p=>zBd l8 p.1 p.2=some o14) (fun p=>p.1) (fuel,0) l15 (zA1 (by simp)) ?_
 rintro⟨k16,i12⟩ l15
 try dsimp only at l15 ⊢
 cases k16 with
 |zero=>
  rw[zBd] at l15;cases l15
 |succ k17=>
  rw[zBd] at l15
  refine cutA 23 0 [(13,.sl (l8.map cU)),(14,iI l8.length),(15,iI i12),(16,.bool (ltI ((i12:Nat):Int) (l8.length:Int)))] []<|zAC<|spc l15 rfl (fun g18 l15=>?_) fun g18 l15=>?_
  ·have c19:=ltT g18
   refine zCe 13 rfl fun f20=>?_
   rw[zq4] at f20
   refine zAD<|zAK<|zAC<|zAG ?_
   obtain⟨x21,q22,l15⟩:=bs l15
   refine cut 23 0 [(4,.int .u8 x21.toNat),(13,.sl (l8.map cU)),(14,iI l8.length),(15,iI i12)] [] (st (by simp[q22])) ?_
   obtain⟨v23,q24,l15⟩:=bs l15
   refine cut 23 0 [(13,.sl (l8.map cU)),(14,iI l8.length),(15,iI i12),(21,.bool (eqI v23 0))] [] ?_ ?_
   ·refine st ?_
    simp
    have r29:=zHP x21 v23 q24
    try simp at r29
    refine zAA r29 (by simp) rfl ?_
    simp
   refine spc l15 rfl (fun g25 l15=>?_) fun g25 l15=>?_
   ·have c26:=eqT g25
    refine cutA 23 0 [(2,.bool false)] []<|zAB<|zAQ<|zAF ?_
    replace h:=retL l15 h
    refine zAF<|zAQ<|zAF ?_
    cases h
    simp
   have c27:=eqF g25
   refine zAD<|zDg<|zAK ?_
   have q28:Rng .i64 (((i12:Nat):Int)+1):=by simp only[Rng,inR];omega
   try simp at q28
   refine last 23 0 [(13,.sl (l8.map cU)),(14,iI l8.length),(15,iI ((i12+1:Nat):Int))] [] (st (by simp[q28])) fun zz hs=>?_
   exact⟨(k17,i12+1),hs,l15,by simp⟩
  have c30:=ltF g18
  refine zCe 13 rfl fun f31=>?_
  rw[zq4] at f31
  refine zAp<|zAH ?_
  rcases o14 with o14|o13
  ·cases l15
  have q32:=Sum.inr.inj (zqa l15)
  replace h:=zIl h
  refine zAH<|zAt<|zBS (t:=mkS 23 0 [] []) ?_ (zA1 (by simp))
  refine cutA 23 0 [(2,.bool true)] []<|zAB ?_
  cases h
  simp
theorem zIo(fuel:Nat)(s1:(List UInt8))(r:Bool)(h:zDq fuel s1=some r):Pure Tryz.prog 94 [.str s1] (.bool r):=by
 rw[zDq] at h
 refine zAE Tryz.func94 (by rfl) (by rfl) (by simp) (by simp) (by simp)<|cutA 6 0 [(0,.str s1)] [] ?_
 obtain⟨v2,q3,h⟩:=bs h
 refine cut 6 0 [(2,.bool (!v2))] [] ?_ ?_
 ·refine st ?_
  simp
  have r4:=zFe fuel s1 v2 q3
  try simp at r4
  refine zAA r4 (by simp) rfl ?_
  simp
 refine zAB ?_
 cases h
 simp
theorem zEa(fuel:Nat)(s1:(List (List UInt8)))(r:Int)(h:zBm fuel s1=some r):Pure Tryz.prog 51 [.sl (s1.map cS),.fn (.func 94) [] []] (iI r):=by
 rw[zBm] at h
 refine zAE Tryz.func51 (by rfl) (by rfl) (by simp) (by simp) (by simp)<|cutA 19 0 [(0,.sl (s1.map cS)),(1,.fn (.func 94) [] [])] []<|zAC<|cutA 19 0 [(0,.sl (s1.map cS)),(1,.fn (.func 94) [] []),(7,iI s1.length),(8,iI 0)] []<|zAG ?_
 obtain⟨o4,l5,h⟩:=bs h
 refine zBR (fun p:Nat×Nat=>mkS 19 0 [(0,.sl (s1.map cS)),(1,.fn (.func 94) [] []),(7,iI s1.length),(8,iI p.2)] []) (fun p=>zAi fuel s1 p.1 p.2=some o4) (fun p=>p.1) (fuel,0) l5 (zA1 (by simp)) ?_
 rintro⟨k6,i2⟩ l5
 try dsimp only at l5 ⊢
 cases k6 with
 |zero=>
  rw[zAi] at l5;cases l5
 |succ k7=>
  rw[zAi] at l5
  refine cutA 19 0 [(0,.sl (s1.map cS)),(1,.fn (.func 94) [] []),(7,iI s1.length),(8,iI i2),(9,.bool (ltI ((i2:Nat):Int) (s1.length:Int)))] []<|zAC<|spc l5 rfl (fun g8 l5=>?_) fun g8 l5=>?_
  ·have c9:=ltT g8
   refine zCe 0 rfl fun f10=>?_
   rw[zq4] at f10
   refine zAD<|zAK<|zAC<|zAG<|cutA 19 0 [(0,.sl (s1.map cS)),(1,.fn (.func 94) [] []),(5,iI i2),(7,iI s1.length),(8,iI i2)] [] ?_
   obtain⟨x11,q12,l5⟩:=bs l5
   obtain⟨v13,q14,l5⟩:=bs l5
   refine cut 19 0 [(0,.sl (s1.map cS)),(1,.fn (.func 94) [] []),(5,iI i2),(7,iI s1.length),(8,iI i2),(16,.bool v13)] [] ?_ ?_
   ·refine st ?_
    simp[q12]
    have r17:=zIo fuel x11 v13 q14
    try simp[q12] at r17
    refine zAA r17 (by simp) rfl ?_
    simp[q12]
   refine spc l5 rfl (fun g15 l5=>?_) fun g15 l5=>?_
   ·refine cutA 19 0 [(4,iI i2)] []<|zAB<|zAQ<|zAF ?_
    replace h:=retL l5 h
    refine zAF<|zAQ<|zAF ?_
    cases h
    simp
   refine zAD<|zDg<|zAK ?_
   have q16:Rng .i64 (((i2:Nat):Int)+1):=by simp only[Rng,inR];omega
   try simp at q16
   refine last 19 0 [(0,.sl (s1.map cS)),(1,.fn (.func 94) [] []),(7,iI s1.length),(8,iI ((i2+1:Nat):Int))] [] (st (by simp[q16])) fun zz hs=>?_
   exact⟨(k7,i2+1),hs,l5,by simp⟩
  have c18:=ltF g8
  refine zCe 0 rfl fun f19=>?_
  rw[zq4] at f19
  refine zAp<|zAH ?_
  rcases o4 with o4|o3
  ·cases l5
  have q20:=Sum.inr.inj (zqa l5)
  replace h:=zIl h
  refine zAH<|zAt<|zBS (t:=mkS 19 0 [] []) ?_ (zA1 (by simp))
  refine cutA 19 0 [(4,iI (-1))] []<|zAB ?_
  cases h
  simp
theorem zAr(fuel:Nat)(s1:(List (List UInt8)))(r:Bool)(h:zAI fuel s1=some r):Pure Tryz.prog 26 [.sl (s1.map cS),.fn (.func 94) [] []] (.bool r):=by
 rw[zAI] at h
 refine zAE Tryz.func26 (by rfl) (by rfl) (by simp) (by simp) (by simp)<|cutA 9 0 [(0,.sl (s1.map cS)),(1,.fn (.func 94) [] [])] [] ?_
 obtain⟨v2,q3,h⟩:=bs h
 refine cut 9 0 [(4,.bool (leI 0 v2))] [] ?_ ?_
 ·refine st ?_
  simp
  have r4:=zEa fuel s1 v2 q3
  try simp at r4
  refine zAA r4 (by simp) rfl ?_
  simp
 refine zAB ?_
 cases h
 simp
theorem zC2(fuel:Nat):(∀(x1:zLd)(r:Bool)(_:zCY fuel x1=some r),Pure Tryz.prog 96 [.agg (zLd.d x1)] (.bool r))∧(∀(s1:(List zLd))(r:Int)(_:zBF fuel s1=some r),Pure Tryz.prog 144 [.sl (s1.map zLd.c),.fn (.func 96) [] []] (iI r))∧(∀(s1:(List zLd))(r:Bool)(_:zAM fuel s1=some r),Pure Tryz.prog 95 [.sl (s1.map zLd.c),.fn (.func 96) [] []] (.bool r))∧(∀(c1:zLd)(r:Bool)(_:zDE fuel c1=some r),Pure Tryz.prog 57 [.agg (zLd.d c1)] (.bool r)):=by
 induction fuel with
 |zero=>
  refine⟨?_,?_,?_,?_⟩
  ·intro x1 r h;rw[zCY] at h;cases h
  ·intro s1 r h;rw[zBF] at h;cases h
  ·intro s1 r h;rw[zAM] at h;cases h
  ·intro c1 r h;rw[zDE] at h;cases h
 |succ fuel ih=>
  obtain⟨zIw,zEJ,zBw,zKG⟩:=ih
  refine⟨?_,?_,?_,?_⟩
  ·intro x1 r h
   rw[zCY] at h
   refine zAE Tryz.func96 (by rfl) (by rfl) (by simp) (by simp) (by simp)<|cutA 6 0 [(1,pT 0)] [(zLd.d x1)] ?_
   obtain⟨v2,q3,h⟩:=bs h
   refine cut 6 0 [(2,.bool (!v2))] [(zLd.d x1)] ?_ ?_
   ·refine st ?_
    simp
    have r4:=zKG x1 v2 q3
    try simp at r4
    refine zAA r4 (by simp) rfl ?_
    simp
   refine zAB ?_
   cases h
   simp
  ·intro s1 r h
   rw[zBF] at h
   refine zAE Tryz.func144 (by rfl) (by rfl) (by simp) (by simp) (by simp)<|cutA 19 0 [(0,.sl (s1.map zLd.c)),(1,.fn (.func 96) [] [])] []<|zAC<|cutA 19 0 [(0,.sl (s1.map zLd.c)),(1,.fn (.func 96) [] []),(7,iI s1.length),(8,iI 0)] []<|zAG ?_
   obtain⟨o4,l5,h⟩:=bs h
   refine zBR (fun p:Nat×Nat=>mkS 19 0 [(0,.sl (s1.map zLd.c)),(1,.fn (.func 96) [] []),(7,iI s1.length),(8,iI p.2)] []) (fun p=>zAe (zCY fuel) s1 p.1 p.2=some o4) (fun p=>p.1) (fuel,0) l5 (zA1 (by simp)) ?_
   rintro⟨k6,i2⟩ l5
   try dsimp only at l5 ⊢
   cases k6 with
   |zero=>
    rw[zAe] at l5;cases l5
   |succ k7=>
    rw[zAe] at l5
    refine cutA 19 0 [(0,.sl (s1.map zLd.c)),(1,.fn (.func 96) [] []),(7,iI s1.length),(8,iI i2),(9,.bool (ltI ((i2:Nat):Int) (s1.length:Int)))] []<|zAC<|spc l5 rfl (fun g8 l5=>?_) fun g8 l5=>?_
    ·have c9:=ltT g8
     refine zCe 0 rfl fun f10=>?_
     rw[zq4] at f10
     refine zAD<|zAK<|zAC<|zAG<|cutA 19 0 [(0,.sl (s1.map zLd.c)),(1,.fn (.func 96) [] []),(5,iI i2),(7,iI s1.length),(8,iI i2)] [] ?_
     obtain⟨x11,q12,l5⟩:=bs l5
     obtain⟨v13,q14,l5⟩:=bs l5
     refine cut 19 0 [(0,.sl (s1.map zLd.c)),(1,.fn (.func 96) [] []),(5,iI i2),(7,iI s1.length),(8,iI i2),(16,.bool v13)] [] ?_ ?_
     ·refine st ?_
      simp[q12]
      have r17:=zIw x11 v13 q14
      try simp[q12] at r17
      refine zAA r17 (by simp) rfl ?_
      simp[q12]
     refine spc l5 rfl (fun g15 l5=>?_) fun g15 l5=>?_
     ·refine cutA 19 0 [(4,iI i2)] []<|zAB<|zAQ<|zAF ?_
      replace h:=retL l5 h
      refine zAF<|zAQ<|zAF ?_
      cases h
      simp
     refine zAD<|zDg<|zAK ?_
     have q16:Rng .i64 (((i2:Nat):Int)+1):=by simp only[Rng,inR];omega
     try simp at q16
     refine last 19 0 [(0,.sl (s1.map zLd.c)),(1,.fn (.func 96) [] []),(7,iI s1.length),(8,iI ((i2+1:Nat):Int))] [] (st (by simp[q16])) fun zz hs=>?_
     exact⟨(k7,i2+1),hs,l5,by simp⟩
    have c18:=ltF g8
    refine zCe 0 rfl fun f19=>?_
    rw[zq4] at f19
    refine zAp<|zAH ?_
    rcases o4 with o4|o3
    ·cases l5
    have q20:=Sum.inr.inj (zqa l5)
    replace h:=zIl h
    refine zAH<|zAt<|zBS (t:=mkS 19 0 [] []) ?_ (zA1 (by simp))
    refine cutA 19 0 [(4,iI (-1))] []<|zAB ?_
    cases h
    simp
  ·intro s1 r h
   rw[zAM] at h
   refine zAE Tryz.func95 (by rfl) (by rfl) (by simp) (by simp) (by simp)<|cutA 9 0 [(0,.sl (s1.map zLd.c)),(1,.fn (.func 96) [] [])] [] ?_
   obtain⟨v2,q3,h⟩:=bs h
   refine cut 9 0 [(4,.bool (leI 0 v2))] [] ?_ ?_
   ·refine st ?_
    simp
    have r4:=zEJ s1 v2 q3
    try simp at r4
    refine zAA r4 (by simp) rfl ?_
    simp
   refine zAB ?_
   cases h
   simp
  ·intro c1 r h
   rw[zDE] at h
   refine zAE Tryz.func57 (by rfl) (by rfl) (by simp) (by simp) (by simp)<|cutA 100 0 [(1,pT 0)] [(zLd.d c1)]<|zAC ?_
   obtain⟨v2,q3,h⟩:=bs h
   refine cut 100 0 [(1,pT 0),(9,.bool (!(eqI (c1.L.length:Int) v2)))] [(zLd.d c1)] ?_ ?_
   ·refine zAN [] mixed (n:=100) rfl (by decide) ?_
    simp
    have r267:=zKm c1 v2 q3
    try simp at r267
    refine zGc r267 (by simp) rfl ?_
    simp
   rcases sp h with ⟨g4,h⟩|⟨g4,h⟩
   ·have g5:=notT g4
    have c6:=eqF g5
    refine zD5 rfl g4<|cutA 100 0 [(2,.bool false)] [(zLd.d c1)]<|zAB<|zAF ?_
    cases h
    simp
   have g7:=notF g4
   have c8:=eqT g7
   refine zEK rfl g4<|zAD<|zAK<|zAC<|cutA 100 0 [(1,pT 0),(11,iI c1.Op)] [(zLd.d c1)]<|zAG<|zAC ?_
   refine cutA 100 0 [(1,pT 0),(11,iI c1.Op),(15,.bool (eqI c1.Op 1))] [(zLd.d c1)]<|spc h rfl (fun g9 h=>?_) fun g9 h=>?_
   ·refine zAD<|zAK<|zD5 rfl (by simp[g9])<|cut 100 0 [(1,pT 0),(25,.bool ((ltI c1.N 0)||(ltI 20000 c1.N)))] [(zLd.d c1)] ?_ ?_
    ·rcases tf (ltI c1.N 0) with g11|g11
     ·have c12:=ltT g11
      refine st ?_
      simp[g11]
     have c13:=ltF g11
     refine st ?_
     simp[g11]
    rcases sp h with ⟨g14,h⟩|⟨g14,h⟩
    ·refine zD5 rfl g14<|cutA 100 0 [(2,.bool false)] [(zLd.d c1)]<|zAB<|zAQ<|zAF ?_
     cases h
     simp
    obtain⟨g15,g16⟩:=orF g14
    have c17:=ltF g15
    have c18:=ltF g16
    refine zEK rfl g14<|zAD<|zDg<|zAK<|zAC ?_
    obtain⟨b27,q28,h⟩:=bs h
    refine cut 100 0 [(1,pT 0),(44,.bool b27)] [(zLd.d c1)] ?_ ?_
    ·rcases sp q28 with ⟨g19,q28⟩|⟨g19,q28⟩
     ·have c20:=eqT g19
      obtain⟨v21,q22,q28⟩:=bs q28
      rcases sp q28 with ⟨g23,q28⟩|⟨g23,q28⟩
      ·have g24:=notT g23
       obtain rfl:=oi q28
       refine st ?_
       simp[g19,g23]
       have r94:=zDA fuel c1.S v21 q22
       try simp[g19,g23] at r94
       refine zAA r94 (by simp) rfl ?_
       simp[g19,g23]
      have g25:=notF g23
      obtain rfl:=oi q28
      refine st ?_
      simp[g19,g23]
      have r95:=zDA fuel c1.S v21 q22
      try simp[g19,g23] at r95
      refine zAA r95 (by simp) rfl ?_
      simp[g19,g23]
     have c26:=eqF g19
     obtain rfl:=oi q28
     refine st ?_
     simp[g19]
    refine spc h rfl (fun g29 h=>?_) fun g29 h=>?_
    ·refine cutA 100 0 [(2,.bool false)] [(zLd.d c1)]<|zAB<|zAF ?_
     cases h
     simp
    refine zAD<|zAK<|zAC ?_
    obtain⟨b33,q34,h⟩:=bs h
    refine cut 100 0 [(1,pT 0),(3,.bool b33)] [(zLd.d c1)] ?_ ?_
    ·obtain⟨v30,q31,q34⟩:=bs q34
     rcases sp q34 with ⟨g32,q34⟩|⟨g32,q34⟩
     ·obtain rfl:=oi q34
      refine st ?_
      simp[g32]
      have r92:=zBs c1 v30 q31
      try simp[g32] at r92
      refine zAA r92 (by simp) rfl ?_
      simp[g32]
     obtain rfl:=oi q34
     refine st ?_
     simp[g32]
     have r93:=zBs c1 v30 q31
     try simp[g32] at r93
     refine zAA r93 (by simp) rfl ?_
     simp[g32]
    obtain⟨b41,q42,h⟩:=bs h
    refine cut 100 0 [(1,pT 0),(69,.bool b41)] [(zLd.d c1)] ?_ ?_
    ·rcases sp q42 with ⟨g35,q42⟩|⟨g35,q42⟩
     ·obtain⟨v36,q37,q42⟩:=bs q42
      rcases sp q42 with ⟨g38,q42⟩|⟨g38,q42⟩
      ·have g39:=notT g38
       obtain rfl:=oi q42
       refine st ?_
       simp[g35,g38]
       have r90:=zEP fuel c1.Kind v36 q37
       try simp[g35,g38] at r90
       refine zAA r90 (by simp) rfl ?_
       simp[g35,g38]
      have g40:=notF g38
      obtain rfl:=oi q42
      refine st ?_
      simp[g35,g38]
      have r91:=zEP fuel c1.Kind v36 q37
      try simp[g35,g38] at r91
      refine zAA r91 (by simp) rfl ?_
      simp[g35,g38]
     obtain rfl:=oi q42
     refine st ?_
     simp[g35]
    refine spc h rfl (fun g43 h=>?_) fun g43 h=>?_
    ·refine cutA 100 0 [(2,.bool false)] [(zLd.d c1)]<|zAB<|zAF ?_
     cases h
     simp
    refine zAD<|zAK<|zAC ?_
    obtain⟨b74,q75,h⟩:=bs h
    refine cut 100 0 [(1,pT 0),(95,.bool b74)] [(zLd.d c1)] ?_ ?_
    ·rcases sp q75 with ⟨g44,q75⟩|⟨g44,q75⟩
     ·have c45:=ltT g44
      refine zC7 0 4 rfl rfl rfl fun f46=>?_
      rw[zq4] at f46
      obtain⟨v47,q48,q75⟩:=bs q75
      rcases sp q75 with ⟨g49,q75⟩|⟨g49,q75⟩
      ·have g50:=notT g49
       obtain rfl:=oi q75
       have g44x:=g44
       try simp only[g49] at g44x
       have g49x:=g49
       try simp only[g44] at g49x
       refine zA0<|WL.cut 7 100 0 [(1,pT 0),(74,.bool (ltI 0 (c1.Names.length:Int))),(76,.bool v47)] [(zLd.d c1)] ?_ ?_
       ·simp[g44,g49,g44x,g49x]
        have r80:=zBL c1 v47 q48
        try simp[g44,g49,g44x,g49x] at r80
        refine zAA r80 (by simp) rfl ?_
        simp[g44,g49,g44x,g49x]
       refine WL.last ?_
       simp[g44,g49,g44x,g49x]
      have g51:=notF g49
      rcases sp q75 with ⟨g52,q75⟩|⟨g52,q75⟩
      ·have c53:=ltT g52
       obtain rfl:=oi q75
       have g44x:=g44
       try simp only[g49,g52] at g44x
       have g49x:=g49
       try simp only[g44,g52] at g49x
       have g52x:=g52
       try simp only[g44,g49] at g52x
       refine zA0<|WL.cut 7 100 0 [(1,pT 0),(74,.bool (ltI 0 (c1.Names.length:Int))),(76,.bool v47)] [(zLd.d c1)] ?_ ?_
       ·simp[g44,g49,g52,g44x,g49x,g52x]
        have r81:=zBL c1 v47 q48
        try simp[g44,g49,g52,g44x,g49x,g52x] at r81
        refine zAA r81 (by simp) rfl ?_
        simp[g44,g49,g52,g44x,g49x,g52x]
       refine WL.last ?_
       simp[g44,g49,g52,g44x,g49x,g52x]
      have c54:=ltF g52
      obtain⟨v55,q56,q75⟩:=bs q75
      rcases sp q75 with ⟨g57,q75⟩|⟨g57,q75⟩
      ·have g58:=notT g57
       obtain rfl:=oi q75
       have g44x:=g44
       try simp only[g49,g52,g57] at g44x
       have g49x:=g49
       try simp only[g44,g52,g57] at g49x
       have g52x:=g52
       try simp only[g44,g49,g57] at g52x
       have g57x:=g57
       try simp only[g44,g49,g52] at g57x
       refine zA0<|WL.cut 7 100 0 [(1,pT 0),(74,.bool (ltI 0 (c1.Names.length:Int))),(76,.bool v47)] [(zLd.d c1)] ?_ ?_
       ·simp[g44,g49,g52,g57,g44x,g49x,g52x,g57x]
        have r82:=zBL c1 v47 q48
        try simp[g44,g49,g52,g57,g44x,g49x,g52x,g57x] at r82
        refine zAA r82 (by simp) rfl ?_
        simp[g44,g49,g52,g57,g44x,g49x,g52x,g57x]
       refine WL.cut 12 100 0 [(1,pT 0),(85,.bool (ltI 1000 (c1.Names.length:Int))),(88,.bool v55)] [(zLd.d c1)] ?_ ?_
       ·simp[g44,g49,g52,g57,g44x,g49x,g52x,g57x]
        have r83:=zA3 fuel c1.Names v55 q56
        try simp[g44,g49,g52,g57,g44x,g49x,g52x,g57x] at r83
        refine zAA r83 (by simp) rfl ?_
        simp[g44,g49,g52,g57,g44x,g49x,g52x,g57x]
       refine WL.last ?_
       simp[g44,g49,g52,g57,g44x,g49x,g52x,g57x]
      have g59:=notF g57
      obtain⟨v60,q61,q75⟩:=bs q75
      obtain rfl:=oi q75
      have g44x:=g44
      try simp only[g49,g52,g57] at g44x
      have g49x:=g49
      try simp only[g44,g52,g57] at g49x
      have g52x:=g52
      try simp only[g44,g49,g57] at g52x
      have g57x:=g57
      try simp only[g44,g49,g52] at g57x
      refine zA0<|WL.cut 7 100 0 [(1,pT 0),(74,.bool (ltI 0 (c1.Names.length:Int))),(76,.bool v47)] [(zLd.d c1)] ?_ ?_
      ·simp[g44,g49,g52,g57,g44x,g49x,g52x,g57x]
       have r84:=zBL c1 v47 q48
       try simp[g44,g49,g52,g57,g44x,g49x,g52x,g57x] at r84
       refine zAA r84 (by simp) rfl ?_
       simp[g44,g49,g52,g57,g44x,g49x,g52x,g57x]
      refine WL.cut 12 100 0 [(1,pT 0),(85,.bool (ltI 1000 (c1.Names.length:Int))),(88,.bool v55)] [(zLd.d c1)] ?_ ?_
      ·simp[g44,g49,g52,g57,g44x,g49x,g52x,g57x]
       have r85:=zA3 fuel c1.Names v55 q56
       try simp[g44,g49,g52,g57,g44x,g49x,g52x,g57x] at r85
       refine zAA r85 (by simp) rfl ?_
       simp[g44,g49,g52,g57,g44x,g49x,g52x,g57x]
      refine WL.cut 6 100 0 [(1,pT 0),(91,.bool (!v55)),(94,.bool v60)] [(zLd.d c1)] ?_ ?_
      ·simp[g44,g49,g52,g57,g44x,g49x,g52x,g57x]
       have r86:=zAr fuel c1.Names v60 q61
       try simp[g44,g49,g52,g57,g44x,g49x,g52x,g57x] at r86
       refine zAA r86 (by simp) rfl ?_
       simp[g44,g49,g52,g57,g44x,g49x,g52x,g57x]
      refine WL.last ?_
      simp[g44,g49,g52,g57,g44x,g49x,g52x,g57x]
     have c62:=ltF g44
     refine zC7 0 4 rfl rfl rfl fun f63=>?_
     rw[zq4] at f63
     rcases sp q75 with ⟨g64,q75⟩|⟨g64,q75⟩
     ·have c65:=ltT g64
      obtain rfl:=oi q75
      refine st ?_
      simp[g44,g64]
     have c66:=ltF g64
     obtain⟨v67,q68,q75⟩:=bs q75
     rcases sp q75 with ⟨g69,q75⟩|⟨g69,q75⟩
     ·have g70:=notT g69
      obtain rfl:=oi q75
      have g44x:=g44
      try simp only[g64,g69] at g44x
      have g64x:=g64
      try simp only[g44,g69] at g64x
      have g69x:=g69
      try simp only[g44,g64] at g69x
      refine zA0<|WL.cut 19 100 0 [(1,pT 0),(85,.bool (ltI 1000 (c1.Names.length:Int))),(88,.bool v67)] [(zLd.d c1)] ?_ ?_
      ·simp[g44,g64,g69,g44x,g64x,g69x]
       have r87:=zA3 fuel c1.Names v67 q68
       try simp[g44,g64,g69,g44x,g64x,g69x] at r87
       refine zAA r87 (by simp) rfl ?_
       simp[g44,g64,g69,g44x,g64x,g69x]
      refine WL.last ?_
      simp[g44,g64,g69,g44x,g64x,g69x]
     have g71:=notF g69
     obtain⟨v72,q73,q75⟩:=bs q75
     obtain rfl:=oi q75
     have g44x:=g44
     try simp only[g64,g69] at g44x
     have g64x:=g64
     try simp only[g44,g69] at g64x
     have g69x:=g69
     try simp only[g44,g64] at g69x
     refine zA0<|WL.cut 19 100 0 [(1,pT 0),(85,.bool (ltI 1000 (c1.Names.length:Int))),(88,.bool v67)] [(zLd.d c1)] ?_ ?_
     ·simp[g44,g64,g69,g44x,g64x,g69x]
      have r88:=zA3 fuel c1.Names v67 q68
      try simp[g44,g64,g69,g44x,g64x,g69x] at r88
      refine zAA r88 (by simp) rfl ?_
      simp[g44,g64,g69,g44x,g64x,g69x]
     refine WL.cut 6 100 0 [(1,pT 0),(91,.bool (!v67)),(94,.bool v72)] [(zLd.d c1)] ?_ ?_
     ·simp[g44,g64,g69,g44x,g64x,g69x]
      have r89:=zAr fuel c1.Names v72 q73
      try simp[g44,g64,g69,g44x,g64x,g69x] at r89
      refine zAA r89 (by simp) rfl ?_
      simp[g44,g64,g69,g44x,g64x,g69x]
     refine WL.last ?_
     simp[g44,g64,g69,g44x,g64x,g69x]
    refine spc h rfl (fun g76 h=>?_) fun g76 h=>?_
    ·refine cutA 100 0 [(2,.bool false)] [(zLd.d c1)]<|zAB<|zAF ?_
     cases h
     simp
    refine zAD<|zAK ?_
    obtain⟨v77,q78,h⟩:=bs h
    refine cut 100 0 [(2,.bool (!v77))] [(zLd.d c1)] ?_ ?_
    ·refine st ?_
     simp
     have r79:=zBw c1.L v77 q78
     try simp at r79
     refine zAA r79 (by simp) rfl ?_
     simp
    refine zAB ?_
    cases h
    simp
   refine lastA 100 0 [(1,pT 0),(15,.bool (eqI c1.Op 3))] [(zLd.d c1)]<|spc h rfl (fun g97 h=>?_) fun g97 h=>?_
   ·have c98:=eqT g97
    refine cut 100 0 [(1,pT 0),(25,.bool ((ltI c1.N 0)||(ltI 20000 c1.N)))] [(zLd.d c1)] ?_ ?_
    ·rcases tf (ltI c1.N 0) with g99|g99
     ·have c100:=ltT g99
      refine st ?_
      simp[g99]
     have c101:=ltF g99
     refine st ?_
     simp[g99]
    rcases sp h with ⟨g102,h⟩|⟨g102,h⟩
    ·refine zD5 rfl g102<|cutA 100 0 [(2,.bool false)] [(zLd.d c1)]<|zAB<|zAQ<|zAF ?_
     cases h
     simp
    obtain⟨g103,g104⟩:=orF g102
    have c105:=ltF g103
    have c106:=ltF g104
    refine zEK rfl g102<|zAD<|zDg<|zAK<|zAC ?_
    obtain⟨b115,q116,h⟩:=bs h
    refine cut 100 0 [(1,pT 0),(44,.bool b115)] [(zLd.d c1)] ?_ ?_
    ·rcases sp q116 with ⟨g107,q116⟩|⟨g107,q116⟩
     ·have c108:=eqT g107
      obtain⟨v109,q110,q116⟩:=bs q116
      rcases sp q116 with ⟨g111,q116⟩|⟨g111,q116⟩
      ·have g112:=notT g111
       obtain rfl:=oi q116
       refine st ?_
       simp[g107,g111]
       have r182:=zDA fuel c1.S v109 q110
       try simp[g107,g111] at r182
       refine zAA r182 (by simp) rfl ?_
       simp[g107,g111]
      have g113:=notF g111
      obtain rfl:=oi q116
      refine st ?_
      simp[g107,g111]
      have r183:=zDA fuel c1.S v109 q110
      try simp[g107,g111] at r183
      refine zAA r183 (by simp) rfl ?_
      simp[g107,g111]
     have c114:=eqF g107
     obtain rfl:=oi q116
     refine st ?_
     simp[g107]
    refine spc h rfl (fun g117 h=>?_) fun g117 h=>?_
    ·refine cutA 100 0 [(2,.bool false)] [(zLd.d c1)]<|zAB<|zAF ?_
     cases h
     simp
    refine zAD<|zAK<|zAC ?_
    obtain⟨b121,q122,h⟩:=bs h
    refine cut 100 0 [(1,pT 0),(3,.bool b121)] [(zLd.d c1)] ?_ ?_
    ·obtain⟨v118,q119,q122⟩:=bs q122
     rcases sp q122 with ⟨g120,q122⟩|⟨g120,q122⟩
     ·obtain rfl:=oi q122
      refine st ?_
      simp[g120]
      have r180:=zBs c1 v118 q119
      try simp[g120] at r180
      refine zAA r180 (by simp) rfl ?_
      simp[g120]
     obtain rfl:=oi q122
     refine st ?_
     simp[g120]
     have r181:=zBs c1 v118 q119
     try simp[g120] at r181
     refine zAA r181 (by simp) rfl ?_
     simp[g120]
    obtain⟨b129,q130,h⟩:=bs h
    refine cut 100 0 [(1,pT 0),(69,.bool b129)] [(zLd.d c1)] ?_ ?_
    ·rcases sp q130 with ⟨g123,q130⟩|⟨g123,q130⟩
     ·obtain⟨v124,q125,q130⟩:=bs q130
      rcases sp q130 with ⟨g126,q130⟩|⟨g126,q130⟩
      ·have g127:=notT g126
       obtain rfl:=oi q130
       refine st ?_
       simp[g123,g126]
       have r178:=zEP fuel c1.Kind v124 q125
       try simp[g123,g126] at r178
       refine zAA r178 (by simp) rfl ?_
       simp[g123,g126]
      have g128:=notF g126
      obtain rfl:=oi q130
      refine st ?_
      simp[g123,g126]
      have r179:=zEP fuel c1.Kind v124 q125
      try simp[g123,g126] at r179
      refine zAA r179 (by simp) rfl ?_
      simp[g123,g126]
     obtain rfl:=oi q130
     refine st ?_
     simp[g123]
    refine spc h rfl (fun g131 h=>?_) fun g131 h=>?_
    ·refine cutA 100 0 [(2,.bool false)] [(zLd.d c1)]<|zAB<|zAF ?_
     cases h
     simp
    refine zAD<|zAK<|zAC ?_
    obtain⟨b162,q163,h⟩:=bs h
    refine cut 100 0 [(1,pT 0),(95,.bool b162)] [(zLd.d c1)] ?_ ?_
    ·rcases sp q163 with ⟨g132,q163⟩|⟨g132,q163⟩
     ·have c133:=ltT g132
      refine zC7 0 4 rfl rfl rfl fun f134=>?_
      rw[zq4] at f134
      obtain⟨v135,q136,q163⟩:=bs q163
      rcases sp q163 with ⟨g137,q163⟩|⟨g137,q163⟩
      ·have g138:=notT g137
       obtain rfl:=oi q163
       have g132x:=g132
       try simp only[g137] at g132x
       have g137x:=g137
       try simp only[g132] at g137x
       refine zA0<|WL.cut 7 100 0 [(1,pT 0),(74,.bool (ltI 0 (c1.Names.length:Int))),(76,.bool v135)] [(zLd.d c1)] ?_ ?_
       ·simp[g132,g137,g132x,g137x]
        have r168:=zBL c1 v135 q136
        try simp[g132,g137,g132x,g137x] at r168
        refine zAA r168 (by simp) rfl ?_
        simp[g132,g137,g132x,g137x]
       refine WL.last ?_
       simp[g132,g137,g132x,g137x]
      have g139:=notF g137
      rcases sp q163 with ⟨g140,q163⟩|⟨g140,q163⟩
      ·have c141:=ltT g140
       obtain rfl:=oi q163
       have g132x:=g132
       try simp only[g137,g140] at g132x
       have g137x:=g137
       try simp only[g132,g140] at g137x
       have g140x:=g140
       try simp only[g132,g137] at g140x
       refine zA0<|WL.cut 7 100 0 [(1,pT 0),(74,.bool (ltI 0 (c1.Names.length:Int))),(76,.bool v135)] [(zLd.d c1)] ?_ ?_
       ·simp[g132,g137,g140,g132x,g137x,g140x]
        have r169:=zBL c1 v135 q136
        try simp[g132,g137,g140,g132x,g137x,g140x] at r169
        refine zAA r169 (by simp) rfl ?_
        simp[g132,g137,g140,g132x,g137x,g140x]
       refine WL.last ?_
       simp[g132,g137,g140,g132x,g137x,g140x]
      have c142:=ltF g140
      obtain⟨v143,q144,q163⟩:=bs q163
      rcases sp q163 with ⟨g145,q163⟩|⟨g145,q163⟩
      ·have g146:=notT g145
       obtain rfl:=oi q163
       have g132x:=g132
       try simp only[g137,g140,g145] at g132x
       have g137x:=g137
       try simp only[g132,g140,g145] at g137x
       have g140x:=g140
       try simp only[g132,g137,g145] at g140x
       have g145x:=g145
       try simp only[g132,g137,g140] at g145x
       refine zA0<|WL.cut 7 100 0 [(1,pT 0),(74,.bool (ltI 0 (c1.Names.length:Int))),(76,.bool v135)] [(zLd.d c1)] ?_ ?_
       ·simp[g132,g137,g140,g145,g132x,g137x,g140x,g145x]
        have r170:=zBL c1 v135 q136
        try simp[g132,g137,g140,g145,g132x,g137x,g140x,g145x] at r170
        refine zAA r170 (by simp) rfl ?_
        simp[g132,g137,g140,g145,g132x,g137x,g140x,g145x]
       refine WL.cut 12 100 0 [(1,pT 0),(85,.bool (ltI 1000 (c1.Names.length:Int))),(88,.bool v143)] [(zLd.d c1)] ?_ ?_
       ·simp[g132,g137,g140,g145,g132x,g137x,g140x,g145x]
        have r171:=zA3 fuel c1.Names v143 q144
        try simp[g132,g137,g140,g145,g132x,g137x,g140x,g145x] at r171
        refine zAA r171 (by simp) rfl ?_
        simp[g132,g137,g140,g145,g132x,g137x,g140x,g145x]
       refine WL.last ?_
       simp[g132,g137,g140,g145,g132x,g137x,g140x,g145x]
      have g147:=notF g145
      obtain⟨v148,q149,q163⟩:=bs q163
      obtain rfl:=oi q163
      have g132x:=g132
      try simp only[g137,g140,g145] at g132x
      have g137x:=g137
      try simp only[g132,g140,g145] at g137x
      have g140x:=g140
      try simp only[g132,g137,g145] at g140x
      have g145x:=g145
      try simp only[g132,g137,g140] at g145x
      refine zA0<|WL.cut 7 100 0 [(1,pT 0),(74,.bool (ltI 0 (c1.Names.length:Int))),(76,.bool v135)] [(zLd.d c1)] ?_ ?_
      ·simp[g132,g137,g140,g145,g132x,g137x,g140x,g145x]
       have r172:=zBL c1 v135 q136
       try simp[g132,g137,g140,g145,g132x,g137x,g140x,g145x] at r172
       refine zAA r172 (by simp) rfl ?_
       simp[g132,g137,g140,g145,g132x,g137x,g140x,g145x]
      refine WL.cut 12 100 0 [(1,pT 0),(85,.bool (ltI 1000 (c1.Names.length:Int))),(88,.bool v143)] [(zLd.d c1)] ?_ ?_
      ·simp[g132,g137,g140,g145,g132x,g137x,g140x,g145x]
       have r173:=zA3 fuel c1.Names v143 q144
       try simp[g132,g137,g140,g145,g132x,g137x,g140x,g145x] at r173
       refine zAA r173 (by simp) rfl ?_
       simp[g132,g137,g140,g145,g132x,g137x,g140x,g145x]
      refine WL.cut 6 100 0 [(1,pT 0),(91,.bool (!v143)),(94,.bool v148)] [(zLd.d c1)] ?_ ?_
      ·simp[g132,g137,g140,g145,g132x,g137x,g140x,g145x]
       have r174:=zAr fuel c1.Names v148 q149
       try simp[g132,g137,g140,g145,g132x,g137x,g140x,g145x] at r174
       refine zAA r174 (by simp) rfl ?_
       simp[g132,g137,g140,g145,g132x,g137x,g140x,g145x]
      refine WL.last ?_
      simp[g132,g137,g140,g145,g132x,g137x,g140x,g145x]
     have c150:=ltF g132
     refine zC7 0 4 rfl rfl rfl fun f151=>?_
     rw[zq4] at f151
     rcases sp q163 with ⟨g152,q163⟩|⟨g152,q163⟩
     ·have c153:=ltT g152
      obtain rfl:=oi q163
      refine st ?_
      simp[g132,g152]
     have c154:=ltF g152
     obtain⟨v155,q156,q163⟩:=bs q163
     rcases sp q163 with ⟨g157,q163⟩|⟨g157,q163⟩
     ·have g158:=notT g157
      obtain rfl:=oi q163
      have g132x:=g132
      try simp only[g152,g157] at g132x
      have g152x:=g152
      try simp only[g132,g157] at g152x
      have g157x:=g157
      try simp only[g132,g152] at g157x
      refine zA0<|WL.cut 19 100 0 [(1,pT 0),(85,.bool (ltI 1000 (c1.Names.length:Int))),(88,.bool v155)] [(zLd.d c1)] ?_ ?_
      ·simp[g132,g152,g157,g132x,g152x,g157x]
       have r175:=zA3 fuel c1.Names v155 q156
       try simp[g132,g152,g157,g132x,g152x,g157x] at r175
       refine zAA r175 (by simp) rfl ?_
       simp[g132,g152,g157,g132x,g152x,g157x]
      refine WL.last ?_
      simp[g132,g152,g157,g132x,g152x,g157x]
     have g159:=notF g157
     obtain⟨v160,q161,q163⟩:=bs q163
     obtain rfl:=oi q163
     have g132x:=g132
     try simp only[g152,g157] at g132x
     have g152x:=g152
     try simp only[g132,g157] at g152x
     have g157x:=g157
     try simp only[g132,g152] at g157x
     refine zA0<|WL.cut 19 100 0 [(1,pT 0),(85,.bool (ltI 1000 (c1.Names.length:Int))),(88,.bool v155)] [(zLd.d c1)] ?_ ?_
     ·simp[g132,g152,g157,g132x,g152x,g157x]
      have r176:=zA3 fuel c1.Names v155 q156
      try simp[g132,g152,g157,g132x,g152x,g157x] at r176
      refine zAA r176 (by simp) rfl ?_
      simp[g132,g152,g157,g132x,g152x,g157x]
     refine WL.cut 6 100 0 [(1,pT 0),(91,.bool (!v155)),(94,.bool v160)] [(zLd.d c1)] ?_ ?_
     ·simp[g132,g152,g157,g132x,g152x,g157x]
      have r177:=zAr fuel c1.Names v160 q161
      try simp[g132,g152,g157,g132x,g152x,g157x] at r177
      refine zAA r177 (by simp) rfl ?_
      simp[g132,g152,g157,g132x,g152x,g157x]
     refine WL.last ?_
     simp[g132,g152,g157,g132x,g152x,g157x]
    refine spc h rfl (fun g164 h=>?_) fun g164 h=>?_
    ·refine cutA 100 0 [(2,.bool false)] [(zLd.d c1)]<|zAB<|zAF ?_
     cases h
     simp
    refine zAD<|zAK ?_
    obtain⟨v165,q166,h⟩:=bs h
    refine cut 100 0 [(2,.bool (!v165))] [(zLd.d c1)] ?_ ?_
    ·refine st ?_
     simp
     have r167:=zBw c1.L v165 q166
     try simp at r167
     refine zAA r167 (by simp) rfl ?_
     simp
    refine zAB ?_
    cases h
    simp
   have c184:=eqF g97
   refine cutA 100 0 [(1,pT 0),(14,.bool (!(eqI c1.N 0)))] [(zLd.d c1)] ?_
   rcases sp h with ⟨g185,h⟩|⟨g185,h⟩
   ·have g186:=notT g185
    have c187:=eqF g186
    refine zD5 rfl g185<|cutA 100 0 [(2,.bool false)] [(zLd.d c1)]<|zAB<|zAQ<|zAF ?_
    cases h
    simp
   have g188:=notF g185
   have c189:=eqT g188
   refine zEK rfl g185<|zAD<|zDg<|zAK<|zAC ?_
   obtain⟨b198,q199,h⟩:=bs h
   refine cut 100 0 [(1,pT 0),(44,.bool b198)] [(zLd.d c1)] ?_ ?_
   ·rcases sp q199 with ⟨g190,q199⟩|⟨g190,q199⟩
    ·have c191:=eqT g190
     obtain⟨v192,q193,q199⟩:=bs q199
     rcases sp q199 with ⟨g194,q199⟩|⟨g194,q199⟩
     ·have g195:=notT g194
      obtain rfl:=oi q199
      refine st ?_
      simp[g190,g194]
      have r265:=zDA fuel c1.S v192 q193
      try simp[g190,g194] at r265
      refine zAA r265 (by simp) rfl ?_
      simp[g190,g194]
     have g196:=notF g194
     obtain rfl:=oi q199
     refine st ?_
     simp[g190,g194]
     have r266:=zDA fuel c1.S v192 q193
     try simp[g190,g194] at r266
     refine zAA r266 (by simp) rfl ?_
     simp[g190,g194]
    have c197:=eqF g190
    obtain rfl:=oi q199
    refine st ?_
    simp[g190]
   refine spc h rfl (fun g200 h=>?_) fun g200 h=>?_
   ·refine cutA 100 0 [(2,.bool false)] [(zLd.d c1)]<|zAB<|zAF ?_
    cases h
    simp
   refine zAD<|zAK<|zAC ?_
   obtain⟨b204,q205,h⟩:=bs h
   refine cut 100 0 [(1,pT 0),(3,.bool b204)] [(zLd.d c1)] ?_ ?_
   ·obtain⟨v201,q202,q205⟩:=bs q205
    rcases sp q205 with ⟨g203,q205⟩|⟨g203,q205⟩
    ·obtain rfl:=oi q205
     refine st ?_
     simp[g203]
     have r263:=zBs c1 v201 q202
     try simp[g203] at r263
     refine zAA r263 (by simp) rfl ?_
     simp[g203]
    obtain rfl:=oi q205
    refine st ?_
    simp[g203]
    have r264:=zBs c1 v201 q202
    try simp[g203] at r264
    refine zAA r264 (by simp) rfl ?_
    simp[g203]
   obtain⟨b212,q213,h⟩:=bs h
   refine cut 100 0 [(1,pT 0),(69,.bool b212)] [(zLd.d c1)] ?_ ?_
   ·rcases sp q213 with ⟨g206,q213⟩|⟨g206,q213⟩
    ·obtain⟨v207,q208,q213⟩:=bs q213
     rcases sp q213 with ⟨g209,q213⟩|⟨g209,q213⟩
     ·have g210:=notT g209
      obtain rfl:=oi q213
      refine st ?_
      simp[g206,g209]
      have r261:=zEP fuel c1.Kind v207 q208
      try simp[g206,g209] at r261
      refine zAA r261 (by simp) rfl ?_
      simp[g206,g209]
     have g211:=notF g209
     obtain rfl:=oi q213
     refine st ?_
     simp[g206,g209]
     have r262:=zEP fuel c1.Kind v207 q208
     try simp[g206,g209] at r262
     refine zAA r262 (by simp) rfl ?_
     simp[g206,g209]
    obtain rfl:=oi q213
    refine st ?_
    simp[g206]
   refine spc h rfl (fun g214 h=>?_) fun g214 h=>?_
   ·refine cutA 100 0 [(2,.bool false)] [(zLd.d c1)]<|zAB<|zAF ?_
    cases h
    simp
   refine zAD<|zAK<|zAC ?_
   obtain⟨b245,q246,h⟩:=bs h
   refine cut 100 0 [(1,pT 0),(95,.bool b245)] [(zLd.d c1)] ?_ ?_
   ·rcases sp q246 with ⟨g215,q246⟩|⟨g215,q246⟩
    ·have c216:=ltT g215
     refine zC7 0 4 rfl rfl rfl fun f217=>?_
     rw[zq4] at f217
     obtain⟨v218,q219,q246⟩:=bs q246
     rcases sp q246 with ⟨g220,q246⟩|⟨g220,q246⟩
     ·have g221:=notT g220
      obtain rfl:=oi q246
      have g215x:=g215
      try simp only[g220] at g215x
      have g220x:=g220
      try simp only[g215] at g220x
      refine zA0<|WL.cut 7 100 0 [(1,pT 0),(74,.bool (ltI 0 (c1.Names.length:Int))),(76,.bool v218)] [(zLd.d c1)] ?_ ?_
      ·simp[g215,g220,g215x,g220x]
       have r251:=zBL c1 v218 q219
       try simp[g215,g220,g215x,g220x] at r251
       refine zAA r251 (by simp) rfl ?_
       simp[g215,g220,g215x,g220x]
      refine WL.last ?_
      simp[g215,g220,g215x,g220x]
     have g222:=notF g220
     rcases sp q246 with ⟨g223,q246⟩|⟨g223,q246⟩
     ·have c224:=ltT g223
      obtain rfl:=oi q246
      have g215x:=g215
      try simp only[g220,g223] at g215x
      have g220x:=g220
      try simp only[g215,g223] at g220x
      have g223x:=g223
      try simp only[g215,g220] at g223x
      refine zA0<|WL.cut 7 100 0 [(1,pT 0),(74,.bool (ltI 0 (c1.Names.length:Int))),(76,.bool v218)] [(zLd.d c1)] ?_ ?_
      ·simp[g215,g220,g223,g215x,g220x,g223x]
       have r252:=zBL c1 v218 q219
       try simp[g215,g220,g223,g215x,g220x,g223x] at r252
       refine zAA r252 (by simp) rfl ?_
       simp[g215,g220,g223,g215x,g220x,g223x]
      refine WL.last ?_
      simp[g215,g220,g223,g215x,g220x,g223x]
     have c225:=ltF g223
     obtain⟨v226,q227,q246⟩:=bs q246
     rcases sp q246 with ⟨g228,q246⟩|⟨g228,q246⟩
     ·have g229:=notT g228
      obtain rfl:=oi q246
      have g215x:=g215
      try simp only[g220,g223,g228] at g215x
      have g220x:=g220
      try simp only[g215,g223,g228] at g220x
      have g223x:=g223
      try simp only[g215,g220,g228] at g223x
      have g228x:=g228
      try simp only[g215,g220,g223] at g228x
      refine zA0<|WL.cut 7 100 0 [(1,pT 0),(74,.bool (ltI 0 (c1.Names.length:Int))),(76,.bool v218)] [(zLd.d c1)] ?_ ?_
      ·simp[g215,g220,g223,g228,g215x,g220x,g223x,g228x]
       have r253:=zBL c1 v218 q219
       try simp[g215,g220,g223,g228,g215x,g220x,g223x,g228x] at r253
       refine zAA r253 (by simp) rfl ?_
       simp[g215,g220,g223,g228,g215x,g220x,g223x,g228x]
      refine WL.cut 12 100 0 [(1,pT 0),(85,.bool (ltI 1000 (c1.Names.length:Int))),(88,.bool v226)] [(zLd.d c1)] ?_ ?_
      ·simp[g215,g220,g223,g228,g215x,g220x,g223x,g228x]
       have r254:=zA3 fuel c1.Names v226 q227
       try simp[g215,g220,g223,g228,g215x,g220x,g223x,g228x] at r254
       refine zAA r254 (by simp) rfl ?_
       simp[g215,g220,g223,g228,g215x,g220x,g223x,g228x]
      refine WL.last ?_
      simp[g215,g220,g223,g228,g215x,g220x,g223x,g228x]
     have g230:=notF g228
     obtain⟨v231,q232,q246⟩:=bs q246
     obtain rfl:=oi q246
     have g215x:=g215
     try simp only[g220,g223,g228] at g215x
     have g220x:=g220
     try simp only[g215,g223,g228] at g220x
     have g223x:=g223
     try simp only[g215,g220,g228] at g223x
     have g228x:=g228
     try simp only[g215,g220,g223] at g228x
     refine zA0<|WL.cut 7 100 0 [(1,pT 0),(74,.bool (ltI 0 (c1.Names.length:Int))),(76,.bool v218)] [(zLd.d c1)] ?_ ?_
     ·simp[g215,g220,g223,g228,g215x,g220x,g223x,g228x]
      have r255:=zBL c1 v218 q219
      try simp[g215,g220,g223,g228,g215x,g220x,g223x,g228x] at r255
      refine zAA r255 (by simp) rfl ?_
      simp[g215,g220,g223,g228,g215x,g220x,g223x,g228x]
     refine WL.cut 12 100 0 [(1,pT 0),(85,.bool (ltI 1000 (c1.Names.length:Int))),(88,.bool v226)] [(zLd.d c1)] ?_ ?_
     ·simp[g215,g220,g223,g228,g215x,g220x,g223x,g228x]
      have r256:=zA3 fuel c1.Names v226 q227
      try simp[g215,g220,g223,g228,g215x,g220x,g223x,g228x] at r256
      refine zAA r256 (by simp) rfl ?_
      simp[g215,g220,g223,g228,g215x,g220x,g223x,g228x]
     refine WL.cut 6 100 0 [(1,pT 0),(91,.bool (!v226)),(94,.bool v231)] [(zLd.d c1)] ?_ ?_
     ·simp[g215,g220,g223,g228,g215x,g220x,g223x,g228x]
      have r257:=zAr fuel c1.Names v231 q232
      try simp[g215,g220,g223,g228,g215x,g220x,g223x,g228x] at r257
      refine zAA r257 (by simp) rfl ?_
      simp[g215,g220,g223,g228,g215x,g220x,g223x,g228x]
     refine WL.last ?_
     simp[g215,g220,g223,g228,g215x,g220x,g223x,g228x]
    have c233:=ltF g215
    refine zC7 0 4 rfl rfl rfl fun f234=>?_
    rw[zq4] at f234
    rcases sp q246 with ⟨g235,q246⟩|⟨g235,q246⟩
    ·have c236:=ltT g235
     obtain rfl:=oi q246
     refine st ?_
     simp[g215,g235]
    have c237:=ltF g235
    obtain⟨v238,q239,q246⟩:=bs q246
    rcases sp q246 with ⟨g240,q246⟩|⟨g240,q246⟩
    ·have g241:=notT g240
     obtain rfl:=oi q246
     have g215x:=g215
     try simp only[g235,g240] at g215x
     have g235x:=g235
     try simp only[g215,g240] at g235x
     have g240x:=g240
     try simp only[g215,g235] at g240x
     refine zA0<|WL.cut 19 100 0 [(1,pT 0),(85,.bool (ltI 1000 (c1.Names.length:Int))),(88,.bool v238)] [(zLd.d c1)] ?_ ?_
     ·simp[g215,g235,g240,g215x,g235x,g240x]
      have r258:=zA3 fuel c1.Names v238 q239
      try simp[g215,g235,g240,g215x,g235x,g240x] at r258
      refine zAA r258 (by simp) rfl ?_
      simp[g215,g235,g240,g215x,g235x,g240x]
     refine WL.last ?_
     simp[g215,g235,g240,g215x,g235x,g240x]
    have g242:=notF g240
    obtain⟨v243,q244,q246⟩:=bs q246
    obtain rfl:=oi q246
    have g215x:=g215
    try simp only[g235,g240] at g215x
    have g235x:=g235
    try simp only[g215,g240] at g235x
    have g240x:=g240
    try simp only[g215,g235] at g240x
    refine zA0<|WL.cut 19 100 0 [(1,pT 0),(85,.bool (ltI 1000 (c1.Names.length:Int))),(88,.bool v238)] [(zLd.d c1)] ?_ ?_
    ·simp[g215,g235,g240,g215x,g235x,g240x]
     have r259:=zA3 fuel c1.Names v238 q239
     try simp[g215,g235,g240,g215x,g235x,g240x] at r259
     refine zAA r259 (by simp) rfl ?_
     simp[g215,g235,g240,g215x,g235x,g240x]
    refine WL.cut 6 100 0 [(1,pT 0),(91,.bool (!v238)),(94,.bool v243)] [(zLd.d c1)] ?_ ?_
    ·simp[g215,g235,g240,g215x,g235x,g240x]
     have r260:=zAr fuel c1.Names v243 q244
     try simp[g215,g235,g240,g215x,g235x,g240x] at r260
     refine zAA r260 (by simp) rfl ?_
     simp[g215,g235,g240,g215x,g235x,g240x]
    refine WL.last ?_
    simp[g215,g235,g240,g215x,g235x,g240x]
   refine spc h rfl (fun g247 h=>?_) fun g247 h=>?_
   ·refine cutA 100 0 [(2,.bool false)] [(zLd.d c1)]<|zAB<|zAF ?_
    cases h
    simp
   refine zAD<|zAK ?_
   obtain⟨v248,q249,h⟩:=bs h
   refine cut 100 0 [(2,.bool (!v248))] [(zLd.d c1)] ?_ ?_
   ·refine st ?_
    simp
    have r250:=zBw c1.L v248 q249
    try simp at r250
    refine zAA r250 (by simp) rfl ?_
    simp
   refine zAB ?_
   cases h
   simp
theorem zJ4(fuel:Nat):(∀(c1:zLd)(r:Bool)(_:zDE fuel c1=some r),Pure Tryz.prog 57 [.agg (zLd.d c1)] (.bool r)):=(zC2 fuel).2.2.2
theorem zCR(fuel:Nat)(c1:zLd)(r:Bool)(h:zBZ fuel c1=some r):Pure Tryz.prog 29 [.agg (zLd.d c1)] (.bool r):=by
 rw[zBZ] at h
 refine zAE Tryz.func29 (by rfl) (by rfl) (by simp) (by simp) (by simp)<|cutA 15 0 [(1,pT 0)] [(zLd.d c1)] ?_
 obtain⟨b14,q15,h⟩:=bs h
 refine cut 15 0 [(2,.bool b14)] [(zLd.d c1)] ?_ ?_
 ·obtain⟨v2,q3,q15⟩:=bs q15
  rcases sp q15 with ⟨g4,q15⟩|⟨g4,q15⟩
  ·have c5:=leT g4
   obtain⟨v6,q7,q15⟩:=bs q15
   rcases sp q15 with ⟨g8,q15⟩|⟨g8,q15⟩
   ·have c9:=leT g8
    obtain⟨v10,q11,q15⟩:=bs q15
    obtain rfl:=oi q15
    have g4x:=g4
    try simp only[g8] at g4x
    have g8x:=g8
    try simp only[g4] at g8x
    refine zA0<|WL.cut 2 15 0 [(1,pT 0),(4,iI v2)] [(zLd.d c1)] ?_ ?_
    ·simp[g4,g8,g4x,g8x]
     have r16:=zEO fuel c1 v2 q3
     try simp[g4,g8,g4x,g8x] at r16
     refine zAA r16 (by simp) rfl ?_
     simp[g4,g8,g4x,g8x]
    refine WL.cut 4 15 0 [(1,pT 0),(6,.bool (leI v2 20000)),(8,iI v6)] [(zLd.d c1)] ?_ ?_
    ·simp[g4,g8,g4x,g8x]
     have r17:=zHz fuel c1 v6 q7
     try simp[g4,g8,g4x,g8x] at r17
     refine zAA r17 (by simp) rfl ?_
     simp[g4,g8,g4x,g8x]
    refine WL.cut 5 15 0 [(11,.bool (leI v6 400)),(13,.bool v10)] [(zLd.d c1)] ?_ ?_
    ·simp[g4,g8,g4x,g8x]
     have r18:=zJ4 fuel c1 v10 q11
     try simp[g4,g8,g4x,g8x] at r18
     refine zAA r18 (by simp) rfl ?_
     simp[g4,g8,g4x,g8x]
    refine WL.last ?_
    simp[g4,g8,g4x,g8x]
   have c12:=leF g8
   obtain rfl:=oi q15
   refine st ?_
   simp[g4,g8]
   have r19:=zEO fuel c1 v2 q3
   try simp[g4,g8] at r19
   refine zAA r19 (by simp) rfl ?_
   simp[g4,g8]
   have r20:=zHz fuel c1 v6 q7
   try simp[g4,g8] at r20
   refine zAA r20 (by simp) rfl ?_
   simp[g4,g8]
  have c13:=leF g4
  obtain rfl:=oi q15
  refine st ?_
  simp[g4]
  have r21:=zEO fuel c1 v2 q3
  try simp[g4] at r21
  refine zAA r21 (by simp) rfl ?_
  simp[g4]
 refine zAB ?_
 cases h
 simp
theorem zK8(fuel:Nat):(∀(c1:zLd)(r:Int×Int)(_:zCw fuel c1=some r),Pure Tryz.prog 181 [.agg (zLd.d c1)] (.tup [iI r.1,iI r.2])):=by
 induction fuel with
 |zero=>intro c1 r h;rw[zCw] at h;cases h
 |succ fuel zLJ=>
  intro c1 r h
  rw[zCw] at h
  refine zAE Tryz.func181 (by rfl) (by rfl) (by simp) (by simp) (by simp)<|cutA 30 0 [(1,pT 0),(3,iI 0)] [(zLd.d c1)]<|cutA 30 0 [(1,pT 0),(2,iI 1),(3,iI 0)] [(zLd.d c1)]<|zAC<|cutA 30 0 [(2,iI 1),(3,iI 0),(9,.sl (c1.L.map zLd.c)),(10,iI c1.L.length),(11,iI 0)] [(zLd.d c1)]<|zAG ?_
  obtain⟨o5,l6,h⟩:=bs h
  refine zBR (fun p:Nat×Int×Int×Nat=>mkS 30 0 [(2,iI p.2.1),(3,iI p.2.2.1),(9,.sl (c1.L.map zLd.c)),(10,iI c1.L.length),(11,iI p.2.2.2)] [(zLd.d c1)]) (fun p=>zC5 (zCw fuel) c1 p.1 p.2.1 p.2.2.1 p.2.2.2=some o5) (fun p=>p.1) (fuel,1,0,0) l6 (zA1 (by simp)) ?_
  rintro⟨k7,nodes2,depth3,i4⟩ l6
  try dsimp only at l6 ⊢
  cases k7 with
  |zero=>
   rw[zC5] at l6;cases l6
  |succ k8=>
   rw[zC5] at l6
   refine cutA 30 0 [(2,iI nodes2),(3,iI depth3),(9,.sl (c1.L.map zLd.c)),(10,iI c1.L.length),(11,iI i4),(12,.bool (ltI ((i4:Nat):Int) (c1.L.length:Int)))] [(zLd.d c1)]<|zAC<|spc l6 rfl (fun g9 l6=>?_) fun g9 l6=>?_
   ·have c10:=ltT g9
    refine zCe 9 rfl fun f11=>?_
    rw[zq4] at f11
    refine zAD<|zAK<|zAC<|zAG ?_
    obtain⟨x12,q13,l6⟩:=bs l6
    refine cut 30 0 [(2,iI nodes2),(3,iI depth3),(5,pT 1),(9,.sl (c1.L.map zLd.c)),(10,iI c1.L.length),(11,iI i4)] [(zLd.d c1),(zLd.d x12)] (st (by simp[q13])) ?_
    obtain⟨v14,q15,l6⟩:=bs l6
    refine cut 30 0 [(2,iI nodes2),(3,iI depth3),(6,iI v14.1),(7,iI v14.2),(9,.sl (c1.L.map zLd.c)),(10,iI c1.L.length),(11,iI i4)] [(zLd.d c1),(zLd.d x12)] ?_ ?_
    ·refine st ?_
     simp
     have r22:=zLJ x12 v14 q15
     try simp at r22
     refine zAA r22 (by simp) rfl ?_
     simp
    obtain⟨n16,q17,l6⟩:=bs l6
    obtain⟨q18,q19⟩:=zC9 q17
    try simp at q18
    try simp at q19
    have c20:=q18;simp only[Rng,inR] at c20
    refine last 30 0 [(2,iI n16),(3,iI (maxI depth3 v14.2)),(9,.sl (c1.L.map zLd.c)),(10,iI c1.L.length),(11,iI i4)] [(zLd.d c1),(zLd.d x12)] (st (by simp[q18,q19])) fun zz hs=>?_
    refine zDg<|zBS ?_ hs
    have q21:Rng .i64 (((i4:Nat):Int)+1):=by simp only[Rng,inR];omega
    try simp at q21
    refine last 30 0 [(2,iI n16),(3,iI (maxI depth3 v14.2)),(9,.sl (c1.L.map zLd.c)),(10,iI c1.L.length),(11,iI ((i4+1:Nat):Int))] [(zLd.d c1)] (st (by simp[q21])) fun zz hs=>?_
    exact⟨(k8,n16,maxI depth3 v14.2,i4+1),hs,l6,by simp⟩
   have c23:=ltF g9
   refine zCe 9 rfl fun f24=>?_
   rw[zq4] at f24
   refine zAp<|zAH ?_
   have q25:=zqa l6
   have q26:o5.1=depth3:=by rw[<-q25]
   have q27:o5.2=nodes2:=by rw[<-q25]
   refine zAH<|zAt<|zBS (t:=mkS 30 0 [(2,iI o5.2),(3,iI o5.1)] [(zLd.d c1)]) ?_ (zA1 (by simp[q26,q27]))
   obtain⟨n28,q29,h⟩:=bs h
   obtain⟨q30,q31⟩:=zC9 q29
   try simp at q30
   try simp at q31
   have c32:=q30;simp only[Rng,inR] at c32
   refine cut 30 0 [(2,iI o5.2),(3,iI n28)] [(zLd.d c1)] (st (by simp[q30,q31]))<|zAB ?_
   cases h
   simp
theorem zFD(fuel:Nat)(c1:zLd)(w2:zLY)(r:zLd×zLY)(h:zCE fuel c1 w2=some r):Raw Tryz.prog 145 [pT 0,.agg (zLd.d c1)] [[iI w2.steps,.bool w2.over]] (.agg (zLd.d r.1)) [[iI r.2.steps,.bool r.2.over]]:=by
 rw[zCE] at h
 refine zAw Tryz.func145 (by rfl) (by rfl) (by simp) (by simp)<|cutA 28 1 [(0,pT 0),(3,pT 1),(4,pT 2)] [[iI w2.steps,.bool w2.over],(zLd.d c1),zz0]<|zAC<|cutA 28 1 [(0,pT 0),(3,pT 1),(4,pT 2),(10,.bool w2.over)] [[iI w2.steps,.bool w2.over],(zLd.d c1),zz0]<|spc h rfl (fun g3 h=>?_) fun g3 h=>?_
 ·refine cutA 28 1 [(4,pT 2)] [[iI w2.steps,.bool w2.over],(zLd.d c1),zz0]<|zAB<|zAF ?_
  cases h
  simp
 refine zAD<|zAK<|zAC ?_
 obtain⟨v4,q5,h⟩:=bs h
 refine cut 28 1 [(0,pT 0),(3,pT 1),(4,pT 2),(5,iI v4.1),(6,iI v4.2)] [[iI w2.steps,.bool w2.over],(zLd.d c1),zz0] ?_ ?_
 ·refine st ?_
  simp
  have r14:=zK8 fuel c1 v4 q5
  try simp at r14
  refine zAA r14 (by simp) rfl ?_
  simp
 refine cut 28 1 [(0,pT 0),(3,pT 1),(4,pT 2),(22,.bool ((ltI 20000 v4.1)||(ltI 400 v4.2)))] [[iI w2.steps,.bool w2.over],(zLd.d c1),zz0] ?_ ?_
 ·rcases tf (ltI 20000 v4.1) with g6|g6
  ·have c7:=ltT g6
   refine st ?_
   simp[g6]
  have c8:=ltF g6
  refine st ?_
  simp[g6]
 rcases sp h with ⟨g9,h⟩|⟨g9,h⟩
 ·refine zD5 rfl g9<|cutA 28 1 [(4,pT 2)] [[iI w2.steps,.bool true],(zLd.d c1),zz0]<|cutA 28 1 [(4,pT 2)] [[iI w2.steps,.bool true],(zLd.d c1),zz0]<|zAB<|zAF ?_
  cases h
  simp
 obtain⟨g10,g11⟩:=orF g9
 have c12:=ltF g10
 have c13:=ltF g11
 refine zEK rfl g9<|zAD<|zAK<|cutA 28 1 [(4,pT 2)] [[iI w2.steps,.bool w2.over],(zLd.d c1),(zLd.d c1)]<|zAB ?_
 cases h
 simp
theorem zKn(fuel:Nat)(c1:zLd)(r:Bool)(h:zFH fuel c1=some r):Pure Tryz.prog 216 [.agg (zLd.d c1)] (.bool r):=by
 rw[zFH] at h
 refine zAE Tryz.func216 (by rfl) (by rfl) (by simp) (by simp) (by simp)<|cutA 6 0 [(1,pT 0)] [(zLd.d c1)] ?_
 obtain⟨v2,q3,h⟩:=bs h
 refine cut 6 0 [(2,.bool (!v2))] [(zLd.d c1)] ?_ ?_
 ·refine st ?_
  simp
  have r4:=zCR fuel c1 v2 q3
  try simp at r4
  refine zAA r4 (by simp) rfl ?_
  simp
 refine zAB ?_
 cases h
 simp
theorem zEq(fuel:Nat)(s1:(List zLd))(r:Int)(h:zBz fuel s1=some r):Pure Tryz.prog 144 [.sl (s1.map zLd.c),.fn (.func 216) [] []] (iI r):=by
 rw[zBz] at h
 refine zAE Tryz.func144 (by rfl) (by rfl) (by simp) (by simp) (by simp)<|cutA 19 0 [(0,.sl (s1.map zLd.c)),(1,.fn (.func 216) [] [])] []<|zAC<|cutA 19 0 [(0,.sl (s1.map zLd.c)),(1,.fn (.func 216) [] []),(7,iI s1.length),(8,iI 0)] []<|zAG ?_
 obtain⟨o4,l5,h⟩:=bs h
 refine zBR (fun p:Nat×Nat=>mkS 19 0 [(0,.sl (s1.map zLd.c)),(1,.fn (.func 216) [] []),(7,iI s1.length),(8,iI p.2)] []) (fun p=>zAn fuel s1 p.1 p.2=some o4) (fun p=>p.1) (fuel,0) l5 (zA1 (by simp)) ?_
 rintro⟨k6,i2⟩ l5
 try dsimp only at l5 ⊢
 cases k6 with
 |zero=>
  rw[zAn] at l5;cases l5
 |succ k7=>
  rw[zAn] at l5
  refine cutA 19 0 [(0,.sl (s1.map zLd.c)),(1,.fn (.func 216) [] []),(7,iI s1.length),(8,iI i2),(9,.bool (ltI ((i2:Nat):Int) (s1.length:Int)))] []<|zAC<|spc l5 rfl (fun g8 l5=>?_) fun g8 l5=>?_
  ·have c9:=ltT g8
   refine zCe 0 rfl fun f10=>?_
   rw[zq4] at f10
   refine zAD<|zAK<|zAC<|zAG<|cutA 19 0 [(0,.sl (s1.map zLd.c)),(1,.fn (.func 216) [] []),(5,iI i2),(7,iI s1.length),(8,iI i2)] [] ?_
   obtain⟨x11,q12,l5⟩:=bs l5
   obtain⟨v13,q14,l5⟩:=bs l5
   refine cut 19 0 [(0,.sl (s1.map zLd.c)),(1,.fn (.func 216) [] []),(5,iI i2),(7,iI s1.length),(8,iI i2),(16,.bool v13)] [] ?_ ?_
   ·refine st ?_
    simp[q12]
    have r17:=zKn fuel x11 v13 q14
    try simp[q12] at r17
    refine zAA r17 (by simp) rfl ?_
    simp[q12]
   refine spc l5 rfl (fun g15 l5=>?_) fun g15 l5=>?_
   ·refine cutA 19 0 [(4,iI i2)] []<|zAB<|zAQ<|zAF ?_
    replace h:=retL l5 h
    refine zAF<|zAQ<|zAF ?_
    cases h
    simp
   refine zAD<|zDg<|zAK ?_
   have q16:Rng .i64 (((i2:Nat):Int)+1):=by simp only[Rng,inR];omega
   try simp at q16
   refine last 19 0 [(0,.sl (s1.map zLd.c)),(1,.fn (.func 216) [] []),(7,iI s1.length),(8,iI ((i2+1:Nat):Int))] [] (st (by simp[q16])) fun zz hs=>?_
   exact⟨(k7,i2+1),hs,l5,by simp⟩
  have c18:=ltF g8
  refine zCe 0 rfl fun f19=>?_
  rw[zq4] at f19
  refine zAp<|zAH ?_
  rcases o4 with o4|o3
  ·cases l5
  have q20:=Sum.inr.inj (zqa l5)
  replace h:=zIl h
  refine zAH<|zAt<|zBS (t:=mkS 19 0 [] []) ?_ (zA1 (by simp))
  refine cutA 19 0 [(4,iI (-1))] []<|zAB ?_
  cases h
  simp
theorem zEF(fuel:Nat)(s1:(List zLd))(r:Bool)(h:zBc fuel s1=some r):Pure Tryz.prog 95 [.sl (s1.map zLd.c),.fn (.func 216) [] []] (.bool r):=by
 rw[zBc] at h
 refine zAE Tryz.func95 (by rfl) (by rfl) (by simp) (by simp) (by simp)<|cutA 9 0 [(0,.sl (s1.map zLd.c)),(1,.fn (.func 216) [] [])] [] ?_
 obtain⟨v2,q3,h⟩:=bs h
 refine cut 9 0 [(4,.bool (leI 0 v2))] [] ?_ ?_
 ·refine st ?_
  simp
  have r4:=zEq fuel s1 v2 q3
  try simp at r4
  refine zAA r4 (by simp) rfl ?_
  simp
 refine zAB ?_
 cases h
 simp
theorem tycon_all_ok(fuel:Nat)(l1:(List zLd))(r:Bool)(h:zGJ fuel l1=some r):Pure Tryz.prog 186 [.sl (l1.map zLd.c)] (.bool r):=by
 rw[zGJ] at h
 refine zAE Tryz.func186 (by rfl) (by rfl) (by simp) (by simp) (by simp)<|cutA 6 0 [(0,.sl (l1.map zLd.c))] [] ?_
 obtain⟨v2,q3,h⟩:=bs h
 refine cut 6 0 [(2,.bool (!v2))] [] ?_ ?_
 ·refine st ?_
  simp
  have r4:=zEF fuel l1 v2 q3
  try simp at r4
  refine zAA r4 (by simp) rfl ?_
  simp
 refine zAB ?_
 cases h
 simp
theorem zE7(fuel:Nat):(∀(k1:zLb)(r:zLb)(_:zBy fuel k1=some r),Pure Tryz.prog 183 [.agg [.sl (k1.L.map zLb.c)]] (.agg [.sl (r.L.map zLb.c)])):=by
 induction fuel with
 |zero=>intro k1 r h;rw[zBy] at h;cases h
 |succ fuel zKF=>
  intro k1 r h
  rw[zBy] at h
  refine zAE Tryz.func183 (by rfl) (by rfl) (by simp) (by simp) (by simp)<|cutA 22 0 [(1,pT 0),(2,pT 1)] [[.sl (k1.L.map zLb.c)],zz1]<|cutA 22 0 [(1,pT 0),(2,pT 1),(3,pT 2)] [[.sl (k1.L.map zLb.c)],zz1,zz1]<|zAC<|cutA 22 0 [(2,pT 1),(3,pT 2),(7,.sl (k1.L.map zLb.c)),(8,iI k1.L.length),(9,iI 0)] [[.sl (k1.L.map zLb.c)],zz1,zz1]<|zAG ?_
  obtain⟨o4,l5,h⟩:=bs h
  refine zBR (fun p:Nat×(List zLb)×Nat=>mkS 22 0 [(2,pT 1),(3,pT 2),(7,.sl (k1.L.map zLb.c)),(8,iI k1.L.length),(9,iI p.2.2)] [[.sl (k1.L.map zLb.c)],zz1,[.osl ⟨1,27⟩ (p.2.1.map zLb.c)]]) (fun p=>zCh (zBy fuel) k1 p.1 p.2.1 p.2.2=some o4) (fun p=>p.1) (fuel,([]:List zLb),0) l5 (zA1 (by simp)) ?_
  rintro⟨k6,L2,i3⟩ l5
  try dsimp only at l5 ⊢
  cases k6 with
  |zero=>
   rw[zCh] at l5;cases l5
  |succ k7=>
   rw[zCh] at l5
   refine cutA 22 0 [(2,pT 1),(3,pT 2),(7,.sl (k1.L.map zLb.c)),(8,iI k1.L.length),(9,iI i3),(10,.bool (ltI ((i3:Nat):Int) (k1.L.length:Int)))] [[.sl (k1.L.map zLb.c)],zz1,[.osl ⟨1,27⟩ (L2.map zLb.c)]]<|zAC<|spc l5 rfl (fun g8 l5=>?_) fun g8 l5=>?_
   ·have c9:=ltT g8
    refine zCe 7 rfl fun f10=>?_
    rw[zq4] at f10
    refine zAD<|zAK<|zAC<|zAG ?_
    obtain⟨x11,q12,l5⟩:=bs l5
    refine cut 22 0 [(2,pT 1),(3,pT 2),(5,pT 3),(7,.sl (k1.L.map zLb.c)),(8,iI k1.L.length),(9,iI i3)] [[.sl (k1.L.map zLb.c)],zz1,[.osl ⟨1,27⟩ (L2.map zLb.c)],[.sl (x11.L.map zLb.c)]] (st (by simp[q12])) ?_
    obtain⟨v13,q14,l5⟩:=bs l5
    obtain⟨l15,q16,l5⟩:=bs l5
    obtain⟨q17,q18⟩:=zHG q16
    try simp at q17
    refine last 22 0 [(2,pT 1),(3,pT 2),(7,.sl (k1.L.map zLb.c)),(8,iI k1.L.length),(9,iI i3)] [[.sl (k1.L.map zLb.c)],zz1,[.osl ⟨1,27⟩ (l15.map zLb.c)],[.sl (x11.L.map zLb.c)]] ?_ fun zz hs=>?_
    ·refine zAN [] mixed (n:=22) rfl (by decide) ?_
     simp[q17,q18]
     have r20:=zKF x11 v13 q14
     try simp[q17,q18] at r20
     refine zGc r20 (by simp) rfl ?_
     simp[q17,q18]
    refine zDg<|zBS ?_ hs
    have q19:Rng .i64 (((i3:Nat):Int)+1):=by simp only[Rng,inR];omega
    try simp at q19
    refine last 22 0 [(2,pT 1),(3,pT 2),(7,.sl (k1.L.map zLb.c)),(8,iI k1.L.length),(9,iI ((i3+1:Nat):Int))] [[.sl (k1.L.map zLb.c)],zz1,[.osl ⟨1,27⟩ (l15.map zLb.c)]] (st (by simp[q19])) fun zz hs=>?_
    exact⟨(k7,l15,i3+1),hs,l5,by simp⟩
   have c21:=ltF g8
   refine zCe 7 rfl fun f22=>?_
   rw[zq4] at f22
   refine zAp<|zAH ?_
   have q23:=zqa l5
   have q23:=q23.symm
   refine zAH<|zAt<|zBS (t:=mkS 22 0 [(2,pT 1),(3,pT 2)] [[.sl (k1.L.map zLb.c)],zz1,[.osl ⟨1,27⟩ (o4.map zLb.c)]]) ?_ (zA1 (by simp[q23]))
   refine cutA 22 0 [(2,pT 1)] [[.sl (k1.L.map zLb.c)],[.sl (o4.map zLb.c)],[.osl ⟨1,27⟩ (o4.map zLb.c)]]<|zAB ?_
   cases h
   simp
theorem zF4(fuel:Nat)(c1:zLd)(r:zLd)(h:zDX fuel c1=some r):Pure Tryz.prog 151 [.agg (zLd.d c1)] (.agg (zLd.d r)):=by
 rw[zDX] at h
 refine zAE Tryz.func151 (by rfl) (by rfl) (by simp) (by simp) (by simp)<|cutA 13 0 [(1,pT 0),(2,pT 1)] [(zLd.d c1),zz0] ?_
 obtain⟨v2,q3,h⟩:=bs h
 refine cut 13 0 [(2,pT 1)] [(zLd.d c1),[iI c1.Op,iI c1.N,.str c1.S,.sl (v2.L.map zLb.c),.osl ⟨1,9⟩ (([]:List (List UInt8)).map cS),.osl ⟨6,31⟩ (([]:List zLd).map zLd.c)]] ?_ ?_
 ·refine zAN [] mixed (n:=13) rfl (by decide) ?_
  simp
  have r4:=zE7 fuel c1.Kind v2 q3
  try simp at r4
  refine zGc r4 (by simp) rfl ?_
  simp
 refine zAB ?_
 cases h
 simp
theorem zGh(n1:Int)(r:zLd)(h:zEk n1=some r):Pure Tryz.prog 150 [iI n1] (.agg (zLd.d r)):=by
 rw[zEk] at h
 refine zAE Tryz.func150 (by rfl) (by rfl) (by simp) (by simp) (by simp)<|cutA 5 0 [(0,iI n1),(2,pT 0)] [zz0]<|cutA 5 0 [(2,pT 0)] [[iI 1,iI n1,.str ([]:List UInt8),.osl ⟨1,27⟩ (([]:List zLb).map zLb.c),.osl ⟨1,9⟩ (([]:List (List UInt8)).map cS),.osl ⟨6,31⟩ (([]:List zLd).map zLd.c)]]<|zAB ?_
 cases h
 simp
theorem zGr(by1:Int)(from2:Int)(r:Int×Int)(h:zE9 by1 from2=some r):Pure Tryz.prog 103 [iI by1,iI from2] (.fn (.func 149) [] [.cptr [iI r.1],.cptr [iI r.2]]):=by
 rw[zE9] at h
 refine zG1 [true,true] Tryz.func103 (by rfl) (by rfl) (by simp) (by simp) (by simp)<|cutA 6 0 [(2,pT 0),(3,pT 1)] [[iI by1],[iI from2]]<|cutA 6 0 [(4,.fn (.func 149) [] [pT 1,pT 0])] [[iI by1],[iI from2]]<|zAB ?_
 cases h
 simp
theorem zIK(fuel:Nat)(c1:zLd)(binders2:Int)(a3:Int)(a4:Int)(r:zLd)(h:zDb fuel c1 binders2 a3 a4=some r):Pure Tryz.prog 149 [.agg (zLd.d c1),iI binders2,.cptr [iI a3],.cptr [iI a4]] (.agg (zLd.d r)):=by
 rw[zDb] at h
 refine zAE Tryz.func149 (by rfl) (by rfl) (by simp) (by simp) (by simp)<|cutA 25 0 [(1,iI binders2),(2,.cptr [iI a3]),(3,.cptr [iI a4]),(4,pT 0),(6,pT 1)] [(zLd.d c1),zz0]<|zAC ?_
 obtain⟨b13,q14,h⟩:=bs h
 refine cut 25 0 [(3,.cptr [iI a4]),(4,pT 0),(6,pT 1),(17,.bool b13)] [(zLd.d c1),zz0] ?_ ?_
 ·rcases sp q14 with ⟨g5,q14⟩|⟨g5,q14⟩
  ·have c6:=eqT g5
   obtain⟨n7,q8,q14⟩:=bs q14
   obtain⟨q9,q10⟩:=zC9 q8
   try simp at q9
   try simp at q10
   have c11:=q9;simp only[Rng,inR] at c11
   obtain rfl:=oi q14
   refine st ?_
   simp[g5,q9,q10]
  have c12:=eqF g5
  obtain rfl:=oi q14
  refine st ?_
  simp[g5]
 refine spc h rfl (fun g15 h=>?_) fun g15 h=>?_
 ·obtain⟨n16,q17,h⟩:=bs h
  obtain⟨q18,q19⟩:=zC9 q17
  try simp at q18
  try simp at q19
  have c20:=q18;simp only[Rng,inR] at c20
  obtain⟨v21,q22,h⟩:=bs h
  refine cut 25 0 [(6,pT 1)] [(zLd.d c1),(zLd.d v21)] ?_ ?_
  ·refine st ?_
   simp[q18,q19]
   have r23:=zGh n16 v21 q22
   try simp[q18,q19] at r23
   refine zAA r23 (by simp) rfl ?_
   simp[q18,q19]
  refine zAB<|zAF ?_
  cases h
  simp
 refine zAD<|zAK ?_
 obtain⟨v24,q25,h⟩:=bs h
 refine cut 25 0 [(6,pT 1)] [(zLd.d c1),(zLd.d v24)] ?_ ?_
 ·refine st ?_
  simp
  have r26:=zF4 fuel c1 v24 q25
  try simp at r26
  refine zAA r26 (by simp) rfl ?_
  simp
 refine zAB ?_
 cases h
 simp
theorem zEN(fuel:Nat):(∀(c1:zLd)(binders2:Int)(c3:Int)(c4:Int)(c5:Int)(r:zLd×Int)(_:zAT fuel c1 binders2 c3 c4 c5=some r),Raw Tryz.prog 148 [pT 0,.agg (zLd.d c1),iI binders2] [[.fn (.func 149) [] [.cptr [iI c3],.cptr [iI c4]],iI c5]] (.agg (zLd.d r.1)) [[.fn (.func 149) [] [.cptr [iI c3],.cptr [iI c4]],iI r.2]]):=by
 induction fuel with
 |zero=>intro c1 binders2 c3 c4 c5 r h;rw[zAT] at h;cases h
 |succ fuel zER=>
  intro c1 binders2 c3 c4 c5 r h
  rw[zAT] at h
  refine zAw Tryz.func148 (by rfl) (by rfl) (by simp) (by simp)<|cutA 87 1 [(0,pT 0),(2,iI binders2),(4,pT 1),(6,pT 2)] [[.fn (.func 149) [] [.cptr [iI c3],.cptr [iI c4]],iI c5],(zLd.d c1),zz0]<|zAC<|cutA 87 1 [(0,pT 0),(2,iI binders2),(4,pT 1),(6,pT 2),(15,.bool (leI c5 0))] [[.fn (.func 149) [] [.cptr [iI c3],.cptr [iI c4]],iI c5],(zLd.d c1),zz0]<|spc h rfl (fun g6 h=>?_) fun g6 h=>?_
  ·refine cutA 87 1 [(6,pT 2)] [[.fn (.func 149) [] [.cptr [iI c3],.cptr [iI c4]],iI (-1)],(zLd.d c1),zz0]<|cutA 87 1 [(6,pT 2)] [[.fn (.func 149) [] [.cptr [iI c3],.cptr [iI c4]],iI (-1)],(zLd.d c1),zz0]<|zAB<|zAF ?_
   cases h
   simp
  refine zAD<|zAK<|zAC<|cut 87 1 [(0,pT 0),(2,iI binders2),(4,pT 1),(6,pT 2),(27,.bool ((eqI c1.Op 1)||(eqI c1.Op 2)))] [[.fn (.func 149) [] [.cptr [iI c3],.cptr [iI c4]],iI c5],(zLd.d c1),zz0] ?_ ?_
  ·rcases tf (eqI c1.Op 1) with g9|g9
   ·refine st ?_
    simp[g9]
   refine st ?_
   simp[g9]
  rcases sp h with ⟨g12,h⟩|⟨g12,h⟩
  ·refine zD5 rfl g12 ?_
   obtain⟨v13,q14,h⟩:=bs h
   refine cut 87 1 [(0,pT 0),(6,pT 2),(7,pT 3)] [[.fn (.func 149) [] [.cptr [iI c3],.cptr [iI c4]],iI c5],(zLd.d c1),zz0,(zLd.d v13)] ?_ ?_
   ·refine zAN [] mixed (n:=87) rfl (by decide) ?_
    simp
    have r23:=zIK fuel c1 binders2 c3 c4 v13 q14
    refine zGc r23 (by simp) rfl ?_
    simp
   obtain⟨v15,q16,h⟩:=bs h
   obtain⟨n17,q18,h⟩:=bs h
   obtain⟨q19,q20⟩:=zC9 q18
   have c21:=q19;simp only[Rng,inR] at c21
   refine cut 87 1 [(6,pT 2),(7,pT 3)] [[.fn (.func 149) [] [.cptr [iI c3],.cptr [iI c4]],iI n17],(zLd.d c1),zz0,(zLd.d v13)] ?_ ?_
   ·refine zAN [] mixed (n:=87) rfl (by decide) ?_
    simp[q19,q20]
    have r22:=zEO fuel v13 v15 q16
    refine zGc r22 (by simp) rfl ?_
    simp[q19,q20]
   refine cutA 87 1 [(6,pT 2)] [[.fn (.func 149) [] [.cptr [iI c3],.cptr [iI c4]],iI n17],(zLd.d c1),(zLd.d v13),(zLd.d v13)]<|zAB<|zAF ?_
   cases h
   simp
  obtain⟨g24,g25⟩:=orF g12
  refine zEK rfl g12<|zAD<|zAK ?_
  obtain⟨n28,q29,h⟩:=bs h
  obtain⟨q30,q31⟩:=zC9 q29
  have c32:=q30;simp only[Rng,inR] at c32
  refine cut 87 1 [(0,pT 0),(2,iI binders2),(4,pT 1),(6,pT 2)] [[.fn (.func 149) [] [.cptr [iI c3],.cptr [iI c4]],iI n28],(zLd.d c1),zz0] (st (by simp[q30,q31])) ?_
  obtain⟨v33,q34,h⟩:=bs h
  obtain⟨v35,q36,h⟩:=bs h
  refine cut 87 1 [(0,pT 0),(2,iI binders2),(4,pT 1),(6,pT 2),(8,pT 3)] [[.fn (.func 149) [] [.cptr [iI c3],.cptr [iI c4]],iI n28],(zLd.d c1),zz0,[iI c1.Op,iI c1.N,.str c1.S,.sl (v33.L.map zLb.c),.sl (v35.map cS),.osl ⟨6,31⟩ (([]:List zLd).map zLd.c)]] ?_ ?_
  ·refine zAN [] mixed (n:=87) rfl (by decide) ?_
   simp
   have r96:=zE7 fuel c1.Kind v33 q34
   refine zGc r96 (by simp) rfl ?_
   simp
   have r97:=zCV c1.Names v35 q36
   refine zGc r97 (by simp) rfl ?_
   simp
  refine zAC ?_
  obtain⟨v37,q38,h⟩:=bs h
  refine cut 87 1 [(0,pT 0),(2,iI binders2),(4,pT 1),(6,pT 2),(8,pT 3),(66,.bool v37)] [[.fn (.func 149) [] [.cptr [iI c3],.cptr [iI c4]],iI n28],(zLd.d c1),zz0,[iI c1.Op,iI c1.N,.str c1.S,.sl (v33.L.map zLb.c),.sl (v35.map cS),.osl ⟨6,31⟩ (([]:List zLd).map zLd.c)]] ?_ ?_
  ·refine st ?_
   simp
   have r95:=zBs c1 v37 q38
   refine zAA r95 (by simp) rfl ?_
   simp
  refine spc h rfl (fun g39 h=>?_) fun g39 h=>?_
  ·obtain⟨n40,q41,h⟩:=bs h
   obtain⟨q42,q43⟩:=zC9 q41
   try simp at q43
   have c44:=q42;simp only[Rng,inR] at c44
   refine last 87 1 [(0,pT 0),(2,iI n40),(4,pT 1),(6,pT 2),(8,pT 3)] [[.fn (.func 149) [] [.cptr [iI c3],.cptr [iI c4]],iI n28],(zLd.d c1),zz0,[iI c1.Op,iI c1.N,.str c1.S,.sl (v33.L.map zLb.c),.sl (v35.map cS),.osl ⟨6,31⟩ (([]:List zLd).map zLd.c)]] (st (by simp[q42,q43])) fun zz hs=>?_
   refine zBS ?_ hs
   refine zAC<|cutA 87 1 [(0,pT 0),(2,iI n40),(6,pT 2),(8,pT 3),(70,.sl (c1.L.map zLd.c)),(71,iI c1.L.length),(72,iI 0)] [[.fn (.func 149) [] [.cptr [iI c3],.cptr [iI c4]],iI n28],(zLd.d c1),zz0,[iI c1.Op,iI c1.N,.str c1.S,.sl (v33.L.map zLb.c),.sl (v35.map cS),.osl ⟨6,31⟩ (([]:List zLd).map zLd.c)]]<|zAG ?_
   obtain⟨o48,l49,h⟩:=bs h
   refine zBR (fun p:Nat×Int×(List zLd)×Nat=>mkS 87 1 [(0,pT 0),(2,iI n40),(6,pT 2),(8,pT 3),(70,.sl (c1.L.map zLd.c)),(71,iI c1.L.length),(72,iI p.2.2.2)] [[.fn (.func 149) [] [.cptr [iI c3],.cptr [iI c4]],iI p.2.1],(zLd.d c1),zz0,[iI c1.Op,iI c1.N,.str c1.S,.sl (v33.L.map zLb.c),.sl (v35.map cS),.osl ⟨6,31⟩ (p.2.2.1.map zLd.c)]]) (fun p=>zBJ (zAT fuel) c1 c3 c4 n40 p.1 p.2.1 p.2.2.1 p.2.2.2=some o48) (fun p=>p.1) (fuel,n28,([]:List zLd),0) l49 (zA1 (by simp)) ?_
   rintro⟨k50,left45,L46,i47⟩ l49
   try dsimp only at l49 ⊢
   cases k50 with
   |zero=>
    rw[zBJ] at l49;cases l49
   |succ k51=>
    rw[zBJ] at l49
    refine cutA 87 1 [(0,pT 0),(2,iI n40),(6,pT 2),(8,pT 3),(70,.sl (c1.L.map zLd.c)),(71,iI c1.L.length),(72,iI i47),(73,.bool (ltI ((i47:Nat):Int) (c1.L.length:Int)))] [[.fn (.func 149) [] [.cptr [iI c3],.cptr [iI c4]],iI left45],(zLd.d c1),zz0,[iI c1.Op,iI c1.N,.str c1.S,.sl (v33.L.map zLb.c),.sl (v35.map cS),.osl ⟨6,31⟩ (L46.map zLd.c)]]<|zAC<|spc l49 rfl (fun g52 l49=>?_) fun g52 l49=>?_
    ·have c53:=ltT g52
     refine zCe 70 rfl fun f54=>?_
     rw[zq4] at f54
     refine zAD<|zAK<|zAC<|zAG ?_
     obtain⟨x55,q56,l49⟩:=bs l49
     refine cut 87 1 [(0,pT 0),(2,iI n40),(6,pT 2),(8,pT 3),(10,pT 4),(70,.sl (c1.L.map zLd.c)),(71,iI c1.L.length),(72,iI i47)] [[.fn (.func 149) [] [.cptr [iI c3],.cptr [iI c4]],iI left45],(zLd.d c1),zz0,[iI c1.Op,iI c1.N,.str c1.S,.sl (v33.L.map zLb.c),.sl (v35.map cS),.osl ⟨6,31⟩ (L46.map zLd.c)],(zLd.d x55)] (st (by simp[q56])) ?_
     obtain⟨v57,q58,l49⟩:=bs l49
     obtain⟨l59,q60,l49⟩:=bs l49
     obtain⟨q61,q62⟩:=zHG q60
     try simp at q61
     refine last 87 1 [(0,pT 0),(2,iI n40),(6,pT 2),(8,pT 3),(70,.sl (c1.L.map zLd.c)),(71,iI c1.L.length),(72,iI i47)] [[.fn (.func 149) [] [.cptr [iI c3],.cptr [iI c4]],iI v57.2],(zLd.d c1),zz0,[iI c1.Op,iI c1.N,.str c1.S,.sl (v33.L.map zLb.c),.sl (v35.map cS),.osl ⟨6,31⟩ (l59.map zLd.c)],(zLd.d x55)] ?_ fun zz hs=>?_
     ·refine zAc [0,996] [7,9] mixed (n:=87) rfl (by decide) (by decide) ?_
      simp[q61,q62]
      have r64:=(zER x55 n40 c3 c4 left45 v57 q58).frameZ [0] [[.fn (.func 149) [] [.cptr [iI c3],.cptr [iI c4]],iI left45],(zLd.d c1),zz0,[iI c1.Op,iI c1.N,.str c1.S,.sl (v33.L.map zLb.c),.sl (v35.map cS),.osl ⟨6,31⟩ (L46.map zLd.c)],(zLd.d x55)] (by simp) rfl (by simp) (by simp)
      try simp[q61,q62] at r64
      refine zKK r64 (by simp[q61,q62]) rfl (by decide) ?_
      simp[q61,q62]
     refine zDg<|zBS ?_ hs
     have q63:Rng .i64 (((i47:Nat):Int)+1):=by simp only[Rng,inR];omega
     try simp at q63
     refine last 87 1 [(0,pT 0),(2,iI n40),(6,pT 2),(8,pT 3),(70,.sl (c1.L.map zLd.c)),(71,iI c1.L.length),(72,iI ((i47+1:Nat):Int))] [[.fn (.func 149) [] [.cptr [iI c3],.cptr [iI c4]],iI v57.2],(zLd.d c1),zz0,[iI c1.Op,iI c1.N,.str c1.S,.sl (v33.L.map zLb.c),.sl (v35.map cS),.osl ⟨6,31⟩ (l59.map zLd.c)]] (st (by simp[q63])) fun zz hs=>?_
     exact⟨(k51,v57.2,l59,i47+1),hs,l49,by simp⟩
    have c65:=ltF g52
    refine zCe 70 rfl fun f66=>?_
    rw[zq4] at f66
    refine zAp<|zAH ?_
    have q67:=zqa l49
    have q68:o48.1=left45:=by rw[<-q67]
    have q69:o48.2=L46:=by rw[<-q67]
    refine zAH<|zAt<|zBS (t:=mkS 87 1 [(6,pT 2),(8,pT 3)] [[.fn (.func 149) [] [.cptr [iI c3],.cptr [iI c4]],iI o48.1],(zLd.d c1),zz0,[iI c1.Op,iI c1.N,.str c1.S,.sl (v33.L.map zLb.c),.sl (v35.map cS),.osl ⟨6,31⟩ (o48.2.map zLd.c)]]) ?_ (zA1 (by simp[q68,q69]))
    refine cutA 87 1 [(6,pT 2)] [[.fn (.func 149) [] [.cptr [iI c3],.cptr [iI c4]],iI o48.1],(zLd.d c1),[iI c1.Op,iI c1.N,.str c1.S,.sl (v33.L.map zLb.c),.sl (v35.map cS),.sl (o48.2.map zLd.c)],[iI c1.Op,iI c1.N,.str c1.S,.sl (v33.L.map zLb.c),.sl (v35.map cS),.osl ⟨6,31⟩ (o48.2.map zLd.c)]]<|zAB ?_
    cases h
    simp
  refine zAD<|zAK<|zAC<|cutA 87 1 [(0,pT 0),(2,iI binders2),(6,pT 2),(8,pT 3),(70,.sl (c1.L.map zLd.c)),(71,iI c1.L.length),(72,iI 0)] [[.fn (.func 149) [] [.cptr [iI c3],.cptr [iI c4]],iI n28],(zLd.d c1),zz0,[iI c1.Op,iI c1.N,.str c1.S,.sl (v33.L.map zLb.c),.sl (v35.map cS),.osl ⟨6,31⟩ (([]:List zLd).map zLd.c)]]<|zAG ?_
  obtain⟨o73,l74,h⟩:=bs h
  refine zBR (fun p:Nat×Int×(List zLd)×Nat=>mkS 87 1 [(0,pT 0),(2,iI binders2),(6,pT 2),(8,pT 3),(70,.sl (c1.L.map zLd.c)),(71,iI c1.L.length),(72,iI p.2.2.2)] [[.fn (.func 149) [] [.cptr [iI c3],.cptr [iI c4]],iI p.2.1],(zLd.d c1),zz0,[iI c1.Op,iI c1.N,.str c1.S,.sl (v33.L.map zLb.c),.sl (v35.map cS),.osl ⟨6,31⟩ (p.2.2.1.map zLd.c)]]) (fun p=>zBI (zAT fuel) c1 binders2 c3 c4 p.1 p.2.1 p.2.2.1 p.2.2.2=some o73) (fun p=>p.1) (fuel,n28,([]:List zLd),0) l74 (zA1 (by simp)) ?_
  rintro⟨k75,left70,L71,i72⟩ l74
  try dsimp only at l74 ⊢
  cases k75 with
  |zero=>
   rw[zBI] at l74;cases l74
  |succ k76=>
   rw[zBI] at l74
   refine cutA 87 1 [(0,pT 0),(2,iI binders2),(6,pT 2),(8,pT 3),(70,.sl (c1.L.map zLd.c)),(71,iI c1.L.length),(72,iI i72),(73,.bool (ltI ((i72:Nat):Int) (c1.L.length:Int)))] [[.fn (.func 149) [] [.cptr [iI c3],.cptr [iI c4]],iI left70],(zLd.d c1),zz0,[iI c1.Op,iI c1.N,.str c1.S,.sl (v33.L.map zLb.c),.sl (v35.map cS),.osl ⟨6,31⟩ (L71.map zLd.c)]]<|zAC<|spc l74 rfl (fun g77 l74=>?_) fun g77 l74=>?_
   ·have c78:=ltT g77
    refine zCe 70 rfl fun f79=>?_
    rw[zq4] at f79
    refine zAD<|zAK<|zAC<|zAG ?_
    obtain⟨x80,q81,l74⟩:=bs l74
    refine cut 87 1 [(0,pT 0),(2,iI binders2),(6,pT 2),(8,pT 3),(10,pT 4),(70,.sl (c1.L.map zLd.c)),(71,iI c1.L.length),(72,iI i72)] [[.fn (.func 149) [] [.cptr [iI c3],.cptr [iI c4]],iI left70],(zLd.d c1),zz0,[iI c1.Op,iI c1.N,.str c1.S,.sl (v33.L.map zLb.c),.sl (v35.map cS),.osl ⟨6,31⟩ (L71.map zLd.c)],(zLd.d x80)] (st (by simp[q81])) ?_
    obtain⟨v82,q83,l74⟩:=bs l74
    obtain⟨l84,q85,l74⟩:=bs l74
    obtain⟨q86,q87⟩:=zHG q85
    try simp at q86
    refine last 87 1 [(0,pT 0),(2,iI binders2),(6,pT 2),(8,pT 3),(70,.sl (c1.L.map zLd.c)),(71,iI c1.L.length),(72,iI i72)] [[.fn (.func 149) [] [.cptr [iI c3],.cptr [iI c4]],iI v82.2],(zLd.d c1),zz0,[iI c1.Op,iI c1.N,.str c1.S,.sl (v33.L.map zLb.c),.sl (v35.map cS),.osl ⟨6,31⟩ (l84.map zLd.c)],(zLd.d x80)] ?_ fun zz hs=>?_
    ·refine zAc [0,996] [7,9] mixed (n:=87) rfl (by decide) (by decide) ?_
     simp[q86,q87]
     have r89:=(zER x80 binders2 c3 c4 left70 v82 q83).frameZ [0] [[.fn (.func 149) [] [.cptr [iI c3],.cptr [iI c4]],iI left70],(zLd.d c1),zz0,[iI c1.Op,iI c1.N,.str c1.S,.sl (v33.L.map zLb.c),.sl (v35.map cS),.osl ⟨6,31⟩ (L71.map zLd.c)],(zLd.d x80)] (by simp) rfl (by simp) (by simp)
     try simp[q86,q87] at r89
     refine zKK r89 (by simp[q86,q87]) rfl (by decide) ?_
     simp[q86,q87]
    refine zDg<|zBS ?_ hs
    have q88:Rng .i64 (((i72:Nat):Int)+1):=by simp only[Rng,inR];omega
    try simp at q88
    refine last 87 1 [(0,pT 0),(2,iI binders2),(6,pT 2),(8,pT 3),(70,.sl (c1.L.map zLd.c)),(71,iI c1.L.length),(72,iI ((i72+1:Nat):Int))] [[.fn (.func 149) [] [.cptr [iI c3],.cptr [iI c4]],iI v82.2],(zLd.d c1),zz0,[iI c1.Op,iI c1.N,.str c1.S,.sl (v33.L.map zLb.c),.sl (v35.map cS),.osl ⟨6,31⟩ (l84.map zLd.c)]] (st (by simp[q88])) fun zz hs=>?_
    exact⟨(k76,v82.2,l84,i72+1),hs,l74,by simp⟩
   have c90:=ltF g77
   refine zCe 70 rfl fun f91=>?_
   rw[zq4] at f91
   refine zAp<|zAH ?_
   have q92:=zqa l74
   have q93:o73.1=left70:=by rw[<-q92]
   have q94:o73.2=L71:=by rw[<-q92]
   refine zAH<|zAt<|zBS (t:=mkS 87 1 [(6,pT 2),(8,pT 3)] [[.fn (.func 149) [] [.cptr [iI c3],.cptr [iI c4]],iI o73.1],(zLd.d c1),zz0,[iI c1.Op,iI c1.N,.str c1.S,.sl (v33.L.map zLb.c),.sl (v35.map cS),.osl ⟨6,31⟩ (o73.2.map zLd.c)]]) ?_ (zA1 (by simp[q93,q94]))
   refine cutA 87 1 [(6,pT 2)] [[.fn (.func 149) [] [.cptr [iI c3],.cptr [iI c4]],iI o73.1],(zLd.d c1),[iI c1.Op,iI c1.N,.str c1.S,.sl (v33.L.map zLb.c),.sl (v35.map cS),.sl (o73.2.map zLd.c)],[iI c1.Op,iI c1.N,.str c1.S,.sl (v33.L.map zLb.c),.sl (v35.map cS),.osl ⟨6,31⟩ (o73.2.map zLd.c)]]<|zAB ?_
   cases h
   simp
theorem zJE(fuel:Nat)(c1:zLd)(binders2:Int)(c3:(List zLd))(r:zLd)(h:zD7 fuel c1 binders2 c3=some r):Raw Tryz.prog 187 [.agg (zLd.d c1),iI binders2,pT 0] [[.sl (c3.map zLd.c)]] (.agg (zLd.d r)) [[.sl (c3.map zLd.c)]]:=by
 rw[zD7] at h
 refine zAw Tryz.func187 (by rfl) (by rfl) (by simp) (by simp)<|cutA 43 1 [(1,iI binders2),(2,pT 0),(3,pT 1),(5,pT 2)] [[.sl (c3.map zLd.c)],(zLd.d c1),zz0] ?_
 obtain⟨n4,q5,h⟩:=bs h
 obtain⟨q6,q7⟩:=zC9 q5
 try simp at q6
 try simp at q7
 have c8:=q6;simp only[Rng,inR] at c8
 refine cut 43 1 [(1,iI binders2),(2,pT 0),(3,pT 1),(5,pT 2),(6,iI n4)] [[.sl (c3.map zLd.c)],(zLd.d c1),zz0] (st (by simp[q6,q7]))<|zAC<|zAG<|cut 43 1 [(1,iI binders2),(2,pT 0),(3,pT 1),(5,pT 2),(6,iI n4),(12,.bool ((!(eqI c1.Op 1))||(ltI n4 0)))] [[.sl (c3.map zLd.c)],(zLd.d c1),zz0] ?_ ?_
 ·rcases tf (!(eqI c1.Op 1)) with g9|g9
  ·have g10:=notT g9
   have c11:=eqF g10
   refine st ?_
   simp[g9]
  have g12:=notF g9
  have c13:=eqT g12
  refine st ?_
  simp[g9]
 rcases sp h with ⟨g14,h⟩|⟨g14,h⟩
 ·refine zD5 rfl g14 ?_
  obtain⟨v15,q16,h⟩:=bs h
  refine cut 43 1 [(5,pT 2)] [[.sl (c3.map zLd.c)],(zLd.d c1),(zLd.d v15)] ?_ ?_
  ·refine st ?_
   simp
   have r17:=zF4 fuel c1 v15 q16
   try simp at r17
   refine zAA r17 (by simp) rfl ?_
   simp
  refine zAB<|zAQ<|zAF ?_
  cases h
  simp
 obtain⟨g18,g19⟩:=orF g14
 have g20:=notF g18
 have c21:=eqT g20
 have c22:=ltF g19
 refine zEK rfl g14<|cutA 43 1 [(1,iI binders2),(2,pT 0),(3,pT 1),(5,pT 2),(6,iI n4),(22,.bool (leI (c3.length:Int) n4))] [[.sl (c3.map zLd.c)],(zLd.d c1),zz0]<|spc h rfl (fun g23 h=>?_) fun g23 h=>?_
 ·have c24:=leT g23
  refine zC7 0 0 rfl rfl rfl fun f25=>?_
  rw[zq4] at f25
  obtain⟨n26,q27,h⟩:=bs h
  obtain⟨q28,q29⟩:=zC9 q27
  try simp at q28
  try simp at q29
  have c30:=q28;simp only[Rng,inR] at c30
  obtain⟨v31,q32,h⟩:=bs h
  refine cut 43 1 [(5,pT 2)] [[.sl (c3.map zLd.c)],(zLd.d c1),(zLd.d v31)] ?_ ?_
  ·refine st ?_
   simp[q28,q29]
   have r33:=zGh n26 v31 q32
   try simp[q28,q29] at r33
   refine zAA r33 (by simp) rfl ?_
   simp[q28,q29]
  refine zAB<|zAQ<|zAF ?_
  cases h
  simp
 have c34:=leF g23
 refine zC7 0 0 rfl rfl rfl fun f35=>?_
 rw[zq4] at f35
 refine zAD<|zDg<|zAK ?_
 obtain⟨v36,q37,h⟩:=bs h
 refine cut 43 1 [(2,pT 0),(5,pT 2),(6,iI n4),(7,pT 3)] [[.sl (c3.map zLd.c)],(zLd.d c1),zz0,[.fn (.func 149) [] [.cptr [iI v36.1],.cptr [iI v36.2]],iI 20000]] ?_ ?_
 ·refine st ?_
  simp
  have r45:=zGr binders2 0 v36 q37
  try simp at r45
  refine zAA r45 (by simp) rfl ?_
  simp
 obtain⟨x38,q39,h⟩:=bs h
 obtain⟨q40,q41⟩:=idx_ok q39
 obtain⟨v42,q43,h⟩:=bs h
 refine cut 43 1 [(5,pT 2)] [[.sl (c3.map zLd.c)],(zLd.d c1),(zLd.d v42.1),[.fn (.func 149) [] [.cptr [iI v36.1],.cptr [iI v36.2]],iI v42.2]] ?_ ?_
 ·refine st ?_
  simp[q40,q41]
  have r44:=(zEN fuel x38 0 v36.1 v36.2 20000 v42 q43).frame [3] [[.sl (c3.map zLd.c)],(zLd.d c1),zz0,[.fn (.func 149) [] [.cptr [iI v36.1],.cptr [iI v36.2]],iI 20000]] (by simp)
  try simp[q40,q41] at r44
  refine zBK r44 (by simp[q40,q41]) rfl ?_
  simp[q40,q41]
 refine zAB ?_
 cases h
 simp
theorem zGs(fuel:Nat):(∀(c1:zLd)(binders2:Int)(c3:Int)(c4:(List zLd))(r:zLd×Int)(_:zAm fuel c1 binders2 c3 c4=some r),Raw Tryz.prog 148 [pT 0,.agg (zLd.d c1),iI binders2] [[.fn (.func 187) [] [pT 1],iI c3],[.sl (c4.map zLd.c)]] (.agg (zLd.d r.1)) [[.fn (.func 187) [] [pT 1],iI r.2],[.sl (c4.map zLd.c)]]):=by
 induction fuel with
 |zero=>intro c1 binders2 c3 c4 r h;rw[zAm] at h;cases h
 |succ fuel zFG=>
  intro c1 binders2 c3 c4 r h
  rw[zAm] at h
  refine zAw Tryz.func148 (by rfl) (by rfl) (by simp) (by simp)<|cutA 87 2 [(0,pT 0),(2,iI binders2),(4,pT 2),(6,pT 3)] [[.fn (.func 187) [] [pT 1],iI c3],[.sl (c4.map zLd.c)],(zLd.d c1),zz0]<|zAC<|cutA 87 2 [(0,pT 0),(2,iI binders2),(4,pT 2),(6,pT 3),(15,.bool (leI c3 0))] [[.fn (.func 187) [] [pT 1],iI c3],[.sl (c4.map zLd.c)],(zLd.d c1),zz0]<|spc h rfl (fun g5 h=>?_) fun g5 h=>?_
  ·refine cutA 87 2 [(6,pT 3)] [[.fn (.func 187) [] [pT 1],iI (-1)],[.sl (c4.map zLd.c)],(zLd.d c1),zz0]<|cutA 87 2 [(6,pT 3)] [[.fn (.func 187) [] [pT 1],iI (-1)],[.sl (c4.map zLd.c)],(zLd.d c1),zz0]<|zAB<|zAF ?_
   cases h
   simp
  refine zAD<|zAK<|zAC<|cut 87 2 [(0,pT 0),(2,iI binders2),(4,pT 2),(6,pT 3),(27,.bool ((eqI c1.Op 1)||(eqI c1.Op 2)))] [[.fn (.func 187) [] [pT 1],iI c3],[.sl (c4.map zLd.c)],(zLd.d c1),zz0] ?_ ?_
  ·rcases tf (eqI c1.Op 1) with g8|g8
   ·refine st ?_
    simp[g8]
   refine st ?_
   simp[g8]
  rcases sp h with ⟨g11,h⟩|⟨g11,h⟩
  ·refine zD5 rfl g11 ?_
   obtain⟨v12,q13,h⟩:=bs h
   refine cut 87 2 [(0,pT 0),(6,pT 3),(7,pT 4)] [[.fn (.func 187) [] [pT 1],iI c3],[.sl (c4.map zLd.c)],(zLd.d c1),zz0,(zLd.d v12)] ?_ ?_
   ·refine zAc [1,996] [8] mixed (n:=87) rfl (by decide) (by decide) ?_
    simp
    have r22:=(zJE fuel c1 binders2 c4 v12 q13).frameZ [1] [[.fn (.func 187) [] [pT 1],iI c3],[.sl (c4.map zLd.c)],(zLd.d c1),zz0] (by simp) rfl (by simp) (by simp)
    refine zKK r22 (by simp) rfl (by decide) ?_
    simp
   obtain⟨v14,q15,h⟩:=bs h
   obtain⟨n16,q17,h⟩:=bs h
   obtain⟨q18,q19⟩:=zC9 q17
   have c20:=q18;simp only[Rng,inR] at c20
   refine cut 87 2 [(6,pT 3),(7,pT 4)] [[.fn (.func 187) [] [pT 1],iI n16],[.sl (c4.map zLd.c)],(zLd.d c1),zz0,(zLd.d v12)] ?_ ?_
   ·refine zAN [] mixed (n:=87) rfl (by decide) ?_
    simp[q18,q19]
    have r21:=zEO fuel v12 v14 q15
    refine zGc r21 (by simp) rfl ?_
    simp[q18,q19]
   refine cutA 87 2 [(6,pT 3)] [[.fn (.func 187) [] [pT 1],iI n16],[.sl (c4.map zLd.c)],(zLd.d c1),(zLd.d v12),(zLd.d v12)]<|zAB<|zAF ?_
   cases h
   simp
  obtain⟨g23,g24⟩:=orF g11
  refine zEK rfl g11<|zAD<|zAK ?_
  obtain⟨n27,q28,h⟩:=bs h
  obtain⟨q29,q30⟩:=zC9 q28
  have c31:=q29;simp only[Rng,inR] at c31
  refine cut 87 2 [(0,pT 0),(2,iI binders2),(4,pT 2),(6,pT 3)] [[.fn (.func 187) [] [pT 1],iI n27],[.sl (c4.map zLd.c)],(zLd.d c1),zz0] (st (by simp[q29,q30])) ?_
  obtain⟨v32,q33,h⟩:=bs h
  obtain⟨v34,q35,h⟩:=bs h
  refine cut 87 2 [(0,pT 0),(2,iI binders2),(4,pT 2),(6,pT 3),(8,pT 4)] [[.fn (.func 187) [] [pT 1],iI n27],[.sl (c4.map zLd.c)],(zLd.d c1),zz0,[iI c1.Op,iI c1.N,.str c1.S,.sl (v32.L.map zLb.c),.sl (v34.map cS),.osl ⟨6,31⟩ (([]:List zLd).map zLd.c)]] ?_ ?_
  ·refine zAN [] mixed (n:=87) rfl (by decide) ?_
   simp
   have r95:=zE7 fuel c1.Kind v32 q33
   refine zGc r95 (by simp) rfl ?_
   simp
   have r96:=zCV c1.Names v34 q35
   refine zGc r96 (by simp) rfl ?_
   simp
  refine zAC ?_
  obtain⟨v36,q37,h⟩:=bs h
  refine cut 87 2 [(0,pT 0),(2,iI binders2),(4,pT 2),(6,pT 3),(8,pT 4),(66,.bool v36)] [[.fn (.func 187) [] [pT 1],iI n27],[.sl (c4.map zLd.c)],(zLd.d c1),zz0,[iI c1.Op,iI c1.N,.str c1.S,.sl (v32.L.map zLb.c),.sl (v34.map cS),.osl ⟨6,31⟩ (([]:List zLd).map zLd.c)]] ?_ ?_
  ·refine st ?_
   simp
   have r94:=zBs c1 v36 q37
   refine zAA r94 (by simp) rfl ?_
   simp
  refine spc h rfl (fun g38 h=>?_) fun g38 h=>?_
  ·obtain⟨n39,q40,h⟩:=bs h
   obtain⟨q41,q42⟩:=zC9 q40
   try simp at q42
   have c43:=q41;simp only[Rng,inR] at c43
   refine last 87 2 [(0,pT 0),(2,iI n39),(4,pT 2),(6,pT 3),(8,pT 4)] [[.fn (.func 187) [] [pT 1],iI n27],[.sl (c4.map zLd.c)],(zLd.d c1),zz0,[iI c1.Op,iI c1.N,.str c1.S,.sl (v32.L.map zLb.c),.sl (v34.map cS),.osl ⟨6,31⟩ (([]:List zLd).map zLd.c)]] (st (by simp[q41,q42])) fun zz hs=>?_
   refine zBS ?_ hs
   refine zAC<|cutA 87 2 [(0,pT 0),(2,iI n39),(6,pT 3),(8,pT 4),(70,.sl (c1.L.map zLd.c)),(71,iI c1.L.length),(72,iI 0)] [[.fn (.func 187) [] [pT 1],iI n27],[.sl (c4.map zLd.c)],(zLd.d c1),zz0,[iI c1.Op,iI c1.N,.str c1.S,.sl (v32.L.map zLb.c),.sl (v34.map cS),.osl ⟨6,31⟩ (([]:List zLd).map zLd.c)]]<|zAG ?_
   obtain⟨o47,l48,h⟩:=bs h
   refine zBR (fun p:Nat×Int×(List zLd)×Nat=>mkS 87 2 [(0,pT 0),(2,iI n39),(6,pT 3),(8,pT 4),(70,.sl (c1.L.map zLd.c)),(71,iI c1.L.length),(72,iI p.2.2.2)] [[.fn (.func 187) [] [pT 1],iI p.2.1],[.sl (c4.map zLd.c)],(zLd.d c1),zz0,[iI c1.Op,iI c1.N,.str c1.S,.sl (v32.L.map zLb.c),.sl (v34.map cS),.osl ⟨6,31⟩ (p.2.2.1.map zLd.c)]]) (fun p=>zBb (zAm fuel) c1 c4 n39 p.1 p.2.1 p.2.2.1 p.2.2.2=some o47) (fun p=>p.1) (fuel,n27,([]:List zLd),0) l48 (zA1 (by simp)) ?_
   rintro⟨k49,left44,L45,i46⟩ l48
   try dsimp only at l48 ⊢
   cases k49 with
   |zero=>
    rw[zBb] at l48;cases l48
   |succ k50=>
    rw[zBb] at l48
    refine cutA 87 2 [(0,pT 0),(2,iI n39),(6,pT 3),(8,pT 4),(70,.sl (c1.L.map zLd.c)),(71,iI c1.L.length),(72,iI i46),(73,.bool (ltI ((i46:Nat):Int) (c1.L.length:Int)))] [[.fn (.func 187) [] [pT 1],iI left44],[.sl (c4.map zLd.c)],(zLd.d c1),zz0,[iI c1.Op,iI c1.N,.str c1.S,.sl (v32.L.map zLb.c),.sl (v34.map cS),.osl ⟨6,31⟩ (L45.map zLd.c)]]<|zAC<|spc l48 rfl (fun g51 l48=>?_) fun g51 l48=>?_
    ·have c52:=ltT g51
     refine zCe 70 rfl fun f53=>?_
     rw[zq4] at f53
     refine zAD<|zAK<|zAC<|zAG ?_
     obtain⟨x54,q55,l48⟩:=bs l48
     refine cut 87 2 [(0,pT 0),(2,iI n39),(6,pT 3),(8,pT 4),(10,pT 5),(70,.sl (c1.L.map zLd.c)),(71,iI c1.L.length),(72,iI i46)] [[.fn (.func 187) [] [pT 1],iI left44],[.sl (c4.map zLd.c)],(zLd.d c1),zz0,[iI c1.Op,iI c1.N,.str c1.S,.sl (v32.L.map zLb.c),.sl (v34.map cS),.osl ⟨6,31⟩ (L45.map zLd.c)],(zLd.d x54)] (st (by simp[q55])) ?_
     obtain⟨v56,q57,l48⟩:=bs l48
     obtain⟨l58,q59,l48⟩:=bs l48
     obtain⟨q60,q61⟩:=zHG q59
     try simp at q60
     refine last 87 2 [(0,pT 0),(2,iI n39),(6,pT 3),(8,pT 4),(70,.sl (c1.L.map zLd.c)),(71,iI c1.L.length),(72,iI i46)] [[.fn (.func 187) [] [pT 1],iI v56.2],[.sl (c4.map zLd.c)],(zLd.d c1),zz0,[iI c1.Op,iI c1.N,.str c1.S,.sl (v32.L.map zLb.c),.sl (v34.map cS),.osl ⟨6,31⟩ (l58.map zLd.c)],(zLd.d x54)] ?_ fun zz hs=>?_
     ·refine zAc [0,1,996] [7,9] mixed (n:=87) rfl (by decide) (by decide) ?_
      simp[q60,q61]
      have r63:=(zFG x54 n39 left44 c4 v56 q57).frameZ [0,1] [[.fn (.func 187) [] [pT 1],iI left44],[.sl (c4.map zLd.c)],(zLd.d c1),zz0,[iI c1.Op,iI c1.N,.str c1.S,.sl (v32.L.map zLb.c),.sl (v34.map cS),.osl ⟨6,31⟩ (L45.map zLd.c)],(zLd.d x54)] (by simp) rfl (by simp) (by simp)
      try simp[q60,q61] at r63
      refine zKK r63 (by simp[q60,q61]) rfl (by decide) ?_
      simp[q60,q61]
     refine zDg<|zBS ?_ hs
     have q62:Rng .i64 (((i46:Nat):Int)+1):=by simp only[Rng,inR];omega
     try simp at q62
     refine last 87 2 [(0,pT 0),(2,iI n39),(6,pT 3),(8,pT 4),(70,.sl (c1.L.map zLd.c)),(71,iI c1.L.length),(72,iI ((i46+1:Nat):Int))] [[.fn (.func 187) [] [pT 1],iI v56.2],[.sl (c4.map zLd.c)],(zLd.d c1),zz0,[iI c1.Op,iI c1.N,.str c1.S,.sl (v32.L.map zLb.c),.sl (v34.map cS),.osl ⟨6,31⟩ (l58.map zLd.c)]] (st (by simp[q62])) fun zz hs=>?_
     exact⟨(k50,v56.2,l58,i46+1),hs,l48,by simp⟩
    have c64:=ltF g51
    refine zCe 70 rfl fun f65=>?_
    rw[zq4] at f65
    refine zAp<|zAH ?_
    have q66:=zqa l48
    have q67:o47.1=left44:=by rw[<-q66]
    have q68:o47.2=L45:=by rw[<-q66]
    refine zAH<|zAt<|zBS (t:=mkS 87 2 [(6,pT 3),(8,pT 4)] [[.fn (.func 187) [] [pT 1],iI o47.1],[.sl (c4.map zLd.c)],(zLd.d c1),zz0,[iI c1.Op,iI c1.N,.str c1.S,.sl (v32.L.map zLb.c),.sl (v34.map cS),.osl ⟨6,31⟩ (o47.2.map zLd.c)]]) ?_ (zA1 (by simp[q67,q68]))
    refine cutA 87 2 [(6,pT 3)] [[.fn (.func 187) [] [pT 1],iI o47.1],[.sl (c4.map zLd.c)],(zLd.d c1),[iI c1.Op,iI c1.N,.str c1.S,.sl (v32.L.map zLb.c),.sl (v34.map cS),.sl (o47.2.map zLd.c)],[iI c1.Op,iI c1.N,.str c1.S,.sl (v32.L.map zLb.c),.sl (v34.map cS),.osl ⟨6,31⟩ (o47.2.map zLd.c)]]<|zAB ?_
    cases h
    simp
  refine zAD<|zAK<|zAC<|cutA 87 2 [(0,pT 0),(2,iI binders2),(6,pT 3),(8,pT 4),(70,.sl (c1.L.map zLd.c)),(71,iI c1.L.length),(72,iI 0)] [[.fn (.func 187) [] [pT 1],iI n27],[.sl (c4.map zLd.c)],(zLd.d c1),zz0,[iI c1.Op,iI c1.N,.str c1.S,.sl (v32.L.map zLb.c),.sl (v34.map cS),.osl ⟨6,31⟩ (([]:List zLd).map zLd.c)]]<|zAG ?_
  obtain⟨o72,l73,h⟩:=bs h
  refine zBR (fun p:Nat×Int×(List zLd)×Nat=>mkS 87 2 [(0,pT 0),(2,iI binders2),(6,pT 3),(8,pT 4),(70,.sl (c1.L.map zLd.c)),(71,iI c1.L.length),(72,iI p.2.2.2)] [[.fn (.func 187) [] [pT 1],iI p.2.1],[.sl (c4.map zLd.c)],(zLd.d c1),zz0,[iI c1.Op,iI c1.N,.str c1.S,.sl (v32.L.map zLb.c),.sl (v34.map cS),.osl ⟨6,31⟩ (p.2.2.1.map zLd.c)]]) (fun p=>zBa (zAm fuel) c1 binders2 c4 p.1 p.2.1 p.2.2.1 p.2.2.2=some o72) (fun p=>p.1) (fuel,n27,([]:List zLd),0) l73 (zA1 (by simp)) ?_
  rintro⟨k74,left69,L70,i71⟩ l73
  try dsimp only at l73 ⊢
  cases k74 with
  |zero=>
   rw[zBa] at l73;cases l73
  |succ k75=>
   rw[zBa] at l73
   refine cutA 87 2 [(0,pT 0),(2,iI binders2),(6,pT 3),(8,pT 4),(70,.sl (c1.L.map zLd.c)),(71,iI c1.L.length),(72,iI i71),(73,.bool (ltI ((i71:Nat):Int) (c1.L.length:Int)))] [[.fn (.func 187) [] [pT 1],iI left69],[.sl (c4.map zLd.c)],(zLd.d c1),zz0,[iI c1.Op,iI c1.N,.str c1.S,.sl (v32.L.map zLb.c),.sl (v34.map cS),.osl ⟨6,31⟩ (L70.map zLd.c)]]<|zAC<|spc l73 rfl (fun g76 l73=>?_) fun g76 l73=>?_
   ·have c77:=ltT g76
    refine zCe 70 rfl fun f78=>?_
    rw[zq4] at f78
    refine zAD<|zAK<|zAC<|zAG ?_
    obtain⟨x79,q80,l73⟩:=bs l73
    refine cut 87 2 [(0,pT 0),(2,iI binders2),(6,pT 3),(8,pT 4),(10,pT 5),(70,.sl (c1.L.map zLd.c)),(71,iI c1.L.length),(72,iI i71)] [[.fn (.func 187) [] [pT 1],iI left69],[.sl (c4.map zLd.c)],(zLd.d c1),zz0,[iI c1.Op,iI c1.N,.str c1.S,.sl (v32.L.map zLb.c),.sl (v34.map cS),.osl ⟨6,31⟩ (L70.map zLd.c)],(zLd.d x79)] (st (by simp[q80])) ?_
    obtain⟨v81,q82,l73⟩:=bs l73
    obtain⟨l83,q84,l73⟩:=bs l73
    obtain⟨q85,q86⟩:=zHG q84
    try simp at q85
    refine last 87 2 [(0,pT 0),(2,iI binders2),(6,pT 3),(8,pT 4),(70,.sl (c1.L.map zLd.c)),(71,iI c1.L.length),(72,iI i71)] [[.fn (.func 187) [] [pT 1],iI v81.2],[.sl (c4.map zLd.c)],(zLd.d c1),zz0,[iI c1.Op,iI c1.N,.str c1.S,.sl (v32.L.map zLb.c),.sl (v34.map cS),.osl ⟨6,31⟩ (l83.map zLd.c)],(zLd.d x79)] ?_ fun zz hs=>?_
    ·refine zAc [0,1,996] [7,9] mixed (n:=87) rfl (by decide) (by decide) ?_
     simp[q85,q86]
     have r88:=(zFG x79 binders2 left69 c4 v81 q82).frameZ [0,1] [[.fn (.func 187) [] [pT 1],iI left69],[.sl (c4.map zLd.c)],(zLd.d c1),zz0,[iI c1.Op,iI c1.N,.str c1.S,.sl (v32.L.map zLb.c),.sl (v34.map cS),.osl ⟨6,31⟩ (L70.map zLd.c)],(zLd.d x79)] (by simp) rfl (by simp) (by simp)
     try simp[q85,q86] at r88
     refine zKK r88 (by simp[q85,q86]) rfl (by decide) ?_
     simp[q85,q86]
    refine zDg<|zBS ?_ hs
    have q87:Rng .i64 (((i71:Nat):Int)+1):=by simp only[Rng,inR];omega
    try simp at q87
    refine last 87 2 [(0,pT 0),(2,iI binders2),(6,pT 3),(8,pT 4),(70,.sl (c1.L.map zLd.c)),(71,iI c1.L.length),(72,iI ((i71+1:Nat):Int))] [[.fn (.func 187) [] [pT 1],iI v81.2],[.sl (c4.map zLd.c)],(zLd.d c1),zz0,[iI c1.Op,iI c1.N,.str c1.S,.sl (v32.L.map zLb.c),.sl (v34.map cS),.osl ⟨6,31⟩ (l83.map zLd.c)]] (st (by simp[q87])) fun zz hs=>?_
    exact⟨(k75,v81.2,l83,i71+1),hs,l73,by simp⟩
   have c89:=ltF g76
   refine zCe 70 rfl fun f90=>?_
   rw[zq4] at f90
   refine zAp<|zAH ?_
   have q91:=zqa l73
   have q92:o72.1=left69:=by rw[<-q91]
   have q93:o72.2=L70:=by rw[<-q91]
   refine zAH<|zAt<|zBS (t:=mkS 87 2 [(6,pT 3),(8,pT 4)] [[.fn (.func 187) [] [pT 1],iI o72.1],[.sl (c4.map zLd.c)],(zLd.d c1),zz0,[iI c1.Op,iI c1.N,.str c1.S,.sl (v32.L.map zLb.c),.sl (v34.map cS),.osl ⟨6,31⟩ (o72.2.map zLd.c)]]) ?_ (zA1 (by simp[q92,q93]))
   refine cutA 87 2 [(6,pT 3)] [[.fn (.func 187) [] [pT 1],iI o72.1],[.sl (c4.map zLd.c)],(zLd.d c1),[iI c1.Op,iI c1.N,.str c1.S,.sl (v32.L.map zLb.c),.sl (v34.map cS),.sl (o72.2.map zLd.c)],[iI c1.Op,iI c1.N,.str c1.S,.sl (v32.L.map zLb.c),.sl (v34.map cS),.osl ⟨6,31⟩ (o72.2.map zLd.c)]]<|zAB ?_
   cases h
   simp
theorem zF8(fuel:Nat)(c1:zLd)(c2:(List zLd))(r:zLd×Int)(h:zCp fuel c1 c2=some r):Raw Tryz.prog 102 [.agg (zLd.d c1),.fn (.func 187) [] [pT 0]] [[.sl (c2.map zLd.c)]] (.tup [.agg (zLd.d r.1),iI r.2]) [[.sl (c2.map zLd.c)]]:=by
 rw[zCp] at h
 refine zAw Tryz.func102 (by rfl) (by rfl) (by simp) (by simp)<|cutA 26 1 [(1,.fn (.func 187) [] [pT 0]),(2,pT 1),(4,pT 2)] [[.sl (c2.map zLd.c)],(zLd.d c1),zz0]<|cutA 26 1 [(2,pT 1),(4,pT 2),(6,pT 3)] [[.sl (c2.map zLd.c)],(zLd.d c1),zz0,[.fn (.func 187) [] [pT 0],iI 20000]] ?_
 obtain⟨v3,q4,h⟩:=bs h
 refine cut 26 1 [(4,pT 2),(6,pT 3),(7,pT 4)] [[.sl (c2.map zLd.c)],(zLd.d c1),zz0,[.fn (.func 187) [] [pT 0],iI v3.2],(zLd.d v3.1)] ?_ ?_
 ·refine st ?_
  simp
  have r14:=(zGs fuel c1 0 20000 c2 v3 q4).frame [3,0] [[.sl (c2.map zLd.c)],(zLd.d c1),zz0,[.fn (.func 187) [] [pT 0],iI 20000]] (by simp)
  try simp at r14
  refine zBK r14 (by simp) rfl ?_
  simp
 refine zAC ?_
 obtain⟨b10,q11,h⟩:=bs h
 refine cut 26 1 [(4,pT 2),(7,pT 4),(23,.bool b10)] [[.sl (c2.map zLd.c)],(zLd.d c1),zz0,[.fn (.func 187) [] [pT 0],iI v3.2],(zLd.d v3.1)] ?_ ?_
 ·rcases sp q11 with ⟨g5,q11⟩|⟨g5,q11⟩
  ·have c6:=ltT g5
   obtain rfl:=oi q11
   refine st ?_
   simp[g5]
  have c7:=ltF g5
  obtain⟨v8,q9,q11⟩:=bs q11
  obtain rfl:=oi q11
  refine st ?_
  simp[g5]
  have r13:=zCR fuel v3.1 v8 q9
  try simp[g5] at r13
  refine zAA r13 (by simp) rfl ?_
  simp[g5]
 refine spc h rfl (fun g12 h=>?_) fun g12 h=>?_
 ·refine cutA 26 1 [(4,pT 2),(5,iI 6)] [[.sl (c2.map zLd.c)],(zLd.d c1),zz0,[.fn (.func 187) [] [pT 0],iI v3.2],(zLd.d v3.1)]<|zAB<|zAF ?_
  cases h
  simp
 refine zAD<|zAK<|cutA 26 1 [(4,pT 2),(5,iI 0)] [[.sl (c2.map zLd.c)],(zLd.d c1),(zLd.d v3.1),[.fn (.func 187) [] [pT 0],iI v3.2],(zLd.d v3.1)]<|zAB ?_
 cases h
 simp
theorem zH0(fuel:Nat)(c1:zLd)(l2:(List zLd))(r:zLd×Int)(h:zET fuel c1 l2=some r):Pure Tryz.prog 153 [.agg (zLd.d c1),.sl (l2.map zLd.c)] (.tup [.agg (zLd.d r.1),iI r.2]):=by
 rw[zET] at h
 refine zAE Tryz.func153 (by rfl) (by rfl) (by simp) (by simp) (by simp)<|cutA 24 0 [(2,pT 0),(3,pT 1),(4,pT 2)] [(zLd.d c1),[.sl (l2.map zLd.c)],zz0]<|zAC ?_
 obtain⟨b10,q11,h⟩:=bs h
 refine cut 24 0 [(2,pT 0),(3,pT 1),(4,pT 2),(13,.bool b10)] [(zLd.d c1),[.sl (l2.map zLd.c)],zz0] ?_ ?_
 ·obtain⟨v3,q4,q11⟩:=bs q11
  rcases sp q11 with ⟨g5,q11⟩|⟨g5,q11⟩
  ·have g6:=notT g5
   obtain rfl:=oi q11
   refine st ?_
   simp[g5]
   have r21:=zCR fuel c1 v3 q4
   try simp[g5] at r21
   refine zAA r21 (by simp) rfl ?_
   simp[g5]
  have g7:=notF g5
  obtain⟨v8,q9,q11⟩:=bs q11
  obtain rfl:=oi q11
  refine st ?_
  simp[g5]
  have r22:=zCR fuel c1 v3 q4
  try simp[g5] at r22
  refine zAA r22 (by simp) rfl ?_
  simp[g5]
  have r23:=tycon_all_ok fuel l2 v8 q9
  try simp[g5] at r23
  refine zAA r23 (by simp) rfl ?_
  simp[g5]
 refine spc h rfl (fun g12 h=>?_) fun g12 h=>?_
 ·refine cutA 24 0 [(4,pT 2),(5,iI 1)] [(zLd.d c1),[.sl (l2.map zLd.c)],zz0]<|zAB<|zAF ?_
  cases h
  simp
 refine zAD<|zAK<|zAC<|cutA 24 0 [(2,pT 0),(3,pT 1),(4,pT 2),(17,.bool (ltI 1000 (l2.length:Int)))] [(zLd.d c1),[.sl (l2.map zLd.c)],zz0]<|spc h rfl (fun g13 h=>?_) fun g13 h=>?_
 ·have c14:=ltT g13
  refine zC7 1 0 rfl rfl rfl fun f15=>?_
  rw[zq4] at f15
  refine cutA 24 0 [(4,pT 2),(5,iI 5)] [(zLd.d c1),[.sl (l2.map zLd.c)],zz0]<|zAB<|zAF ?_
  cases h
  simp
 have c16:=ltF g13
 refine zC7 1 0 rfl rfl rfl fun f17=>?_
 rw[zq4] at f17
 refine zAD<|zAK ?_
 obtain⟨v18,q19,h⟩:=bs h
 refine cut 24 0 [(4,pT 2),(5,iI v18.2)] [(zLd.d c1),[.sl (l2.map zLd.c)],(zLd.d v18.1)] ?_ ?_
 ·refine st ?_
  simp
  have r20:=(zF8 fuel c1 l2 v18 q19).frame [1] [(zLd.d c1),[.sl (l2.map zLd.c)],zz0] (by simp)
  try simp at r20
  refine zBK r20 (by simp) rfl ?_
  simp
 refine zAB ?_
 cases h
 simp
theorem zG4(fuel:Nat)(f1:zLd)(a2:zLd)(w3:zLY)(r:zLd×zLY)(h:zCn fuel f1 a2 w3=some r):Raw Tryz.prog 146 [pT 0,.agg (zLd.d f1),.agg (zLd.d a2)] [[iI w3.steps,.bool w3.over]] (.agg (zLd.d r.1)) [[iI r.2.steps,.bool r.2.over]]:=by
 rw[zCn] at h
 refine zAw Tryz.func146 (by rfl) (by rfl) (by simp) (by simp)<|cutA 48 1 [(0,pT 0),(4,pT 1),(5,pT 2),(6,pT 3)] [[iI w3.steps,.bool w3.over],(zLd.d f1),(zLd.d a2),zz0] ?_
 obtain⟨n4,q5,h⟩:=bs h
 obtain⟨q6,q7⟩:=zC9 q5
 try simp at q6
 try simp at q7
 have c8:=q6;simp only[Rng,inR] at c8
 refine cut 48 1 [(0,pT 0),(4,pT 1),(5,pT 2),(6,pT 3)] [[iI n4,.bool w3.over],(zLd.d f1),(zLd.d a2),zz0] (st (by simp[q6,q7]))<|zAC<|cutA 48 1 [(0,pT 0),(4,pT 1),(5,pT 2),(6,pT 3),(20,.bool (ltI 10000 n4))] [[iI n4,.bool w3.over],(zLd.d f1),(zLd.d a2),zz0]<|spc h rfl (fun g9 h=>?_) fun g9 h=>?_
 ·have c10:=ltT g9
  refine lastA 48 1 [(0,pT 0),(4,pT 1),(5,pT 2),(6,pT 3)] [[iI n4,.bool true],(zLd.d f1),(zLd.d a2),zz0]<|zAC<|cutA 48 1 [(0,pT 0),(4,pT 1),(5,pT 2),(6,pT 3),(27,.bool true)] [[iI n4,.bool true],(zLd.d f1),(zLd.d a2),zz0]<|zD5 rfl rfl<|cutA 48 1 [(6,pT 3)] [[iI n4,.bool true],(zLd.d f1),(zLd.d a2),zz0]<|zAB<|zAF ?_
  cases h
  simp
 have c11:=ltF g9
 refine zAD<|zAK<|zAC<|cutA 48 1 [(0,pT 0),(4,pT 1),(5,pT 2),(6,pT 3),(27,.bool w3.over)] [[iI n4,.bool w3.over],(zLd.d f1),(zLd.d a2),zz0]<|spc h rfl (fun g12 h=>?_) fun g12 h=>?_
 ·refine cutA 48 1 [(6,pT 3)] [[iI n4,.bool w3.over],(zLd.d f1),(zLd.d a2),zz0]<|zAB<|zAF ?_
  cases h
  simp
 refine zAD<|zAK ?_
 obtain⟨x13,q14,h⟩:=bs h
 obtain⟨v15,q16,h⟩:=bs h
 refine cut 48 1 [(0,pT 0),(6,pT 3),(7,pT 4),(8,iI v15.2)] [[iI n4,.bool w3.over],(zLd.d f1),(zLd.d a2),zz0,(zLd.d v15.1)] ?_ ?_
 ·refine zAN [] mixed (n:=48) rfl (by decide) ?_
  simp[q14]
  have r25:=zH0 fuel x13 [a2] v15 q16
  try simp[q14] at r25
  refine zGc r25 (by simp) rfl ?_
  simp[q14]
 refine zAC<|cutA 48 1 [(0,pT 0),(6,pT 3),(7,pT 4),(40,.bool (!(eqI v15.2 0)))] [[iI n4,.bool w3.over],(zLd.d f1),(zLd.d a2),zz0,(zLd.d v15.1)] ?_
 rcases sp h with ⟨g17,h⟩|⟨g17,h⟩
 ·have g18:=notT g17
  have c19:=eqF g18
  refine zD5 rfl g17<|cutA 48 1 [(6,pT 3)] [[iI n4,.bool true],(zLd.d f1),(zLd.d a2),zz0,(zLd.d v15.1)]<|cutA 48 1 [(6,pT 3)] [[iI n4,.bool true],(zLd.d f1),(zLd.d a2),zz0,(zLd.d v15.1)]<|zAB<|zAF ?_
  cases h
  simp
 have g20:=notF g17
 have c21:=eqT g20
 refine zEK rfl g17<|zAD<|zAK ?_
 obtain⟨v22,q23,h⟩:=bs h
 refine cut 48 1 [(6,pT 3)] [[iI v22.2.steps,.bool v22.2.over],(zLd.d f1),(zLd.d a2),(zLd.d v22.1),(zLd.d v15.1)] ?_ ?_
 ·refine st ?_
  simp
  have r24:=(zFD fuel v15.1 (zLY.mk n4 w3.over) v22 q23).frame [0] [[iI n4,.bool w3.over],(zLd.d f1),(zLd.d a2),zz0,(zLd.d v15.1)] (by simp)
  try simp at r24
  refine zBK r24 (by simp) rfl ?_
  simp
 refine zAB ?_
 cases h
 simp
theorem zJc(op1:Int)(r:Bool)(h:zF6 op1=some r):Pure Tryz.prog 213 [iI op1] (.bool r):=by
 rw[zF6] at h
 refine zAE Tryz.func213 (by rfl) (by rfl) (by simp) (by simp) (by simp)<|cutA 17 0 [(0,iI op1)] []<|cut 17 0 [(2,.bool ((eqI op1 9)||((eqI op1 10)||((eqI op1 11)||(eqI op1 13)))))] [] ?_ ?_
 ·rcases tf (eqI op1 9) with g2|g2
  ·have c3:=eqT g2
   refine st ?_
   simp[g2]
  have c4:=eqF g2
  rcases tf (eqI op1 10) with g5|g5
  ·have c6:=eqT g5
   refine st ?_
   simp[g2,g5]
  have c7:=eqF g5
  rcases tf (eqI op1 11) with g8|g8
  ·have c9:=eqT g8
   refine st ?_
   simp[g2,g5,g8]
  have c10:=eqF g8
  refine st ?_
  simp[g2,g5,g8]
 refine zAB ?_
 cases h
 simp
theorem zC0(fuel:Nat):(∀(x1:zLd)(c2:Int)(r:Bool)(_:zCG fuel x1 c2=some r),Raw Tryz.prog 214 [.agg (zLd.d x1),pT 0] [[iI c2]] (.bool r) [[iI c2]])∧(∀(s1:(List zLd))(c2:Int)(r:Int)(_:zBE fuel s1 c2=some r),Raw Tryz.prog 144 [.sl (s1.map zLd.c),.fn (.func 214) [] [pT 0]] [[iI c2]] (iI r) [[iI c2]])∧(∀(s1:(List zLd))(c2:Int)(r:Bool)(_:zAf fuel s1 c2=some r),Raw Tryz.prog 95 [.sl (s1.map zLd.c),.fn (.func 214) [] [pT 0]] [[iI c2]] (.bool r) [[iI c2]])∧(∀(c1:zLd)(n2:Int)(r:Bool)(_:zCx fuel c1 n2=some r),Pure Tryz.prog 182 [.agg (zLd.d c1),iI n2] (.bool r)):=by
 induction fuel with
 |zero=>
  refine⟨?_,?_,?_,?_⟩
  ·intro x1 c2 r h;rw[zCG] at h;cases h
  ·intro s1 c2 r h;rw[zBE] at h;cases h
  ·intro s1 c2 r h;rw[zAf] at h;cases h
  ·intro c1 n2 r h;rw[zCx] at h;cases h
 |succ fuel ih=>
  obtain⟨zIS,zEI,zCf,zJm⟩:=ih
  refine⟨?_,?_,?_,?_⟩
  ·intro x1 c2 r h
   rw[zCG] at h
   refine zAw Tryz.func214 (by rfl) (by rfl) (by simp) (by simp)<|cutA 7 1 [(1,pT 0),(2,pT 1)] [[iI c2],(zLd.d x1)] ?_
   obtain⟨v3,q4,h⟩:=bs h
   refine cut 7 1 [(3,.bool v3)] [[iI c2],(zLd.d x1)] ?_ ?_
   ·refine st ?_
    simp
    have r5:=zJm x1 c2 v3 q4
    try simp at r5
    refine zAA r5 (by simp) rfl ?_
    simp
   refine zAB ?_
   cases h
   simp
  ·intro s1 c2 r h
   rw[zBE] at h
   refine zAw Tryz.func144 (by rfl) (by rfl) (by simp) (by simp)<|cutA 19 1 [(0,.sl (s1.map zLd.c)),(1,.fn (.func 214) [] [pT 0])] [[iI c2]]<|zAC<|cutA 19 1 [(0,.sl (s1.map zLd.c)),(1,.fn (.func 214) [] [pT 0]),(7,iI s1.length),(8,iI 0)] [[iI c2]]<|zAG ?_
   obtain⟨o5,l6,h⟩:=bs h
   refine zBR (fun p:Nat×Nat=>mkS 19 1 [(0,.sl (s1.map zLd.c)),(1,.fn (.func 214) [] [pT 0]),(7,iI s1.length),(8,iI p.2)] [[iI c2]]) (fun p=>zAd (zCG fuel) s1 c2 p.1 p.2=some o5) (fun p=>p.1) (fuel,0) l6 (zA1 (by simp)) ?_
   rintro⟨k7,i3⟩ l6
   try dsimp only at l6 ⊢
   cases k7 with
   |zero=>
    rw[zAd] at l6;cases l6
   |succ k8=>
    rw[zAd] at l6
    refine cutA 19 1 [(0,.sl (s1.map zLd.c)),(1,.fn (.func 214) [] [pT 0]),(7,iI s1.length),(8,iI i3),(9,.bool (ltI ((i3:Nat):Int) (s1.length:Int)))] [[iI c2]]<|zAC<|spc l6 rfl (fun g9 l6=>?_) fun g9 l6=>?_
    ·have c10:=ltT g9
     refine zCe 0 rfl fun f11=>?_
     rw[zq4] at f11
     refine zAD<|zAK<|zAC<|zAG<|cutA 19 1 [(0,.sl (s1.map zLd.c)),(1,.fn (.func 214) [] [pT 0]),(5,iI i3),(7,iI s1.length),(8,iI i3)] [[iI c2]] ?_
     obtain⟨x12,q13,l6⟩:=bs l6
     obtain⟨v14,q15,l6⟩:=bs l6
     refine cut 19 1 [(0,.sl (s1.map zLd.c)),(1,.fn (.func 214) [] [pT 0]),(5,iI i3),(7,iI s1.length),(8,iI i3),(16,.bool v14)] [[iI c2]] ?_ ?_
     ·refine st ?_
      simp[q13]
      have r18:=(zIS x12 c2 v14 q15).frame [0] [[iI c2]] (by simp)
      try simp[q13] at r18
      refine zBK r18 (by simp[q13]) rfl ?_
      simp[q13]
     refine spc l6 rfl (fun g16 l6=>?_) fun g16 l6=>?_
     ·refine cutA 19 1 [(4,iI i3)] [[iI c2]]<|zAB<|zAQ<|zAF ?_
      replace h:=retL l6 h
      refine zAF<|zAQ<|zAF ?_
      cases h
      simp
     refine zAD<|zDg<|zAK ?_
     have q17:Rng .i64 (((i3:Nat):Int)+1):=by simp only[Rng,inR];omega
     try simp at q17
     refine last 19 1 [(0,.sl (s1.map zLd.c)),(1,.fn (.func 214) [] [pT 0]),(7,iI s1.length),(8,iI ((i3+1:Nat):Int))] [[iI c2]] (st (by simp[q17])) fun zz hs=>?_
     exact⟨(k8,i3+1),hs,l6,by simp⟩
    have c19:=ltF g9
    refine zCe 0 rfl fun f20=>?_
    rw[zq4] at f20
    refine zAp<|zAH ?_
    rcases o5 with o5|o4
    ·cases l6
    have q21:=Sum.inr.inj (zqa l6)
    replace h:=zIl h
    refine zAH<|zAt<|zBS (t:=mkS 19 1 [] [[iI c2]]) ?_ (zA1 (by simp))
    refine cutA 19 1 [(4,iI (-1))] [[iI c2]]<|zAB ?_
    cases h
    simp
  ·intro s1 c2 r h
   rw[zAf] at h
   refine zAw Tryz.func95 (by rfl) (by rfl) (by simp) (by simp)<|cutA 9 1 [(0,.sl (s1.map zLd.c)),(1,.fn (.func 214) [] [pT 0])] [[iI c2]] ?_
   obtain⟨v3,q4,h⟩:=bs h
   refine cut 9 1 [(4,.bool (leI 0 v3))] [[iI c2]] ?_ ?_
   ·refine st ?_
    simp
    have r5:=(zEI s1 c2 v3 q4).frame [0] [[iI c2]] (by simp)
    try simp at r5
    refine zBK r5 (by simp) rfl ?_
    simp
   refine zAB ?_
   cases h
   simp
  ·intro c1 n2 r h
   rw[zCx] at h
   refine zAE Tryz.func182 (by rfl) (by rfl) (by simp) (by simp) (by simp)<|cutA 21 0 [(2,pT 0),(3,pT 1)] [(zLd.d c1),[iI n2]]<|zAC<|cutA 21 0 [(2,pT 0),(3,pT 1),(7,.bool (eqI c1.Op 1))] [(zLd.d c1),[iI n2]]<|spc h rfl (fun g3 h=>?_) fun g3 h=>?_
   ·refine cutA 21 0 [(4,.bool (eqI c1.N n2))] [(zLd.d c1),[iI n2]]<|zAB<|zAF ?_
    cases h
    simp
   refine zAD<|zAK<|zAC ?_
   obtain⟨v6,q7,h⟩:=bs h
   refine cut 21 0 [(2,pT 0),(3,pT 1),(14,.bool v6)] [(zLd.d c1),[iI n2]] ?_ ?_
   ·refine st ?_
    simp
    have r20:=zJc c1.Op v6 q7
    try simp at r20
    refine zAA r20 (by simp) rfl ?_
    simp
   refine spc h rfl (fun g8 h=>?_) fun g8 h=>?_
   ·obtain⟨n9,q10,h⟩:=bs h
    obtain⟨q11,q12⟩:=zC9 q10
    try simp at q11
    try simp at q12
    have c13:=q11;simp only[Rng,inR] at c13
    refine last 21 0 [(2,pT 0),(3,pT 1)] [(zLd.d c1),[iI n9]] (st (by simp[q11,q12])) fun zz hs=>?_
    refine zBS ?_ hs
    obtain⟨v14,q15,h⟩:=bs h
    refine cut 21 0 [(4,.bool v14)] [(zLd.d c1),[iI n9]] ?_ ?_
    ·refine st ?_
     simp
     have r16:=(zCf c1.L n9 v14 q15).frame [1] [(zLd.d c1),[iI n9]] (by simp)
     try simp at r16
     refine zBK r16 (by simp) rfl ?_
     simp
    refine zAB ?_
    cases h
    simp
   refine zAD<|zAK ?_
   obtain⟨v17,q18,h⟩:=bs h
   refine cut 21 0 [(4,.bool v17)] [(zLd.d c1),[iI n2]] ?_ ?_
   ·refine st ?_
    simp
    have r19:=(zCf c1.L n2 v17 q18).frame [1] [(zLd.d c1),[iI n2]] (by simp)
    try simp at r19
    refine zBK r19 (by simp) rfl ?_
    simp
   refine zAB ?_
   cases h
   simp
theorem zJa(fuel:Nat):(∀(c1:zLd)(n2:Int)(r:Bool)(_:zCx fuel c1 n2=some r),Pure Tryz.prog 182 [.agg (zLd.d c1),iI n2] (.bool r)):=(zC0 fuel).2.2.2
theorem normal_eta_ok(fuel:Nat)(c1:zLd)(r:Bool)(h:zFl fuel c1=some r):Pure Tryz.prog 147 [.agg (zLd.d c1)] (.bool r):=by
 rw[zFl] at h
 refine zAE Tryz.func147 (by rfl) (by rfl) (by simp) (by simp) (by simp)<|cutA 43 0 [(1,pT 0)] [(zLd.d c1)]<|zAC ?_
 obtain⟨b9,q10,h⟩:=bs h
 refine cut 43 0 [(1,pT 0),(15,.bool b9)] [(zLd.d c1)] ?_ ?_
 ·rcases sp q10 with ⟨g2,q10⟩|⟨g2,q10⟩
  ·have g3:=notT g2
   obtain rfl:=oi q10
   refine st ?_
   simp[g2]
  have g5:=notF g2
  obtain⟨x7,q8,q10⟩:=bs q10
  obtain rfl:=oi q10
  refine st ?_
  simp[g2,q8]
 refine spc h rfl (fun g11 h=>?_) fun g11 h=>?_
 ·refine cutA 43 0 [(2,.bool false)] [(zLd.d c1)]<|zAB<|zAF ?_
  cases h
  simp
 refine zAD<|zAK ?_
 obtain⟨x12,q13,h⟩:=bs h
 obtain⟨x14,q15,h⟩:=bs h
 obtain⟨x16,q17,h⟩:=bs h
 refine cut 43 0 [(3,pT 1),(4,pT 2)] [(zLd.d c1),(zLd.d x14),(zLd.d x16)] ?_ ?_
 ·refine zKL mixed 17 (fun L s=> ∃(pos:Nat->Nat) (bl:List (List AV)),NPos [(14,(if L 16=true then (zLd.d x14) else [iI 0,iI 0,.str ([]:List UInt8),.nsl,.nsl,.nsl])),(15,[iI 0,iI 0,.str ([]:List UInt8),.nsl,.nsl,.nsl])] L pos bl∧s.n=43∧s.base=0∧(∀t,s.loans t=none)∧s.blocks=[(zLd.d c1)]++bl∧s.get 1=pT 0∧s.get 15=.bool b9∧(L 0=true->s.get 16=.mptr 0 5)∧(L 1=true->s.get 17=.sl (c1.L.map zLd.c))∧(L 2=true->s.get 18=.cptr (zLd.d x12))∧(L 3=true->s.get 19=.cptr [.sl (x12.L.map zLd.c)])∧(L 4=true->s.get 20=.sl (x12.L.map zLd.c))∧(L 5=true->s.get 21=.cptr (zLd.d x14))∧(L 6=true->s.get 22=.agg (zLd.d x14))∧(L 7=true->s.get 23=.mptr 0 5)∧(L 8=true->s.get 24=.sl (c1.L.map zLd.c))∧(L 9=true->s.get 25=.cptr (zLd.d x12))∧(L 10=true->s.get 26=.cptr [.sl (x12.L.map zLd.c)])∧(L 11=true->s.get 27=.sl (x12.L.map zLd.c))∧(L 12=true->s.get 28=.cptr (zLd.d x16))∧(L 13=true->s.get 29=.agg (zLd.d x16))∧(L 14=true->s.get 3=.mptr (pos 14+1) 0)∧(L 15=true->s.get 4=.mptr (pos 15+1) 0)∧(L 16=true->L 14=true)) (by decide) ⟨fun _=>0,[],NPos.start _ _,by simp⟩ ?_ ?_
  ·refine⟨?_,?_,?_,?_,?_,?_,?_,?_,?_,?_,?_,?_,?_,?_,?_,?_,?_,trivial⟩
   ·intro L s hL he hI
    obtain⟨pos,bl,hN,n1,n2,n3,n4,w1,w15,v0,v1,v2,v3,v4,v5,v6,v7,v8,v9,v10,v11,v12,v13,v14,v15,c16⟩:=hI
    try simp[q13,q15,q17] at v0 v1 v2 v3 v4 v5 v6 v7 v8 v9 v10 v11 v12 v13 v14 v15
    refine AStep.mono ?_ fun s' h=>⟨_,_,hN.skip (by simp),h⟩
    simp[n1,n2,n3,n4,w1,w15,v0,v1,v2,v3,v4,v5,v6,v7,v8,v9,v10,v11,v12,v13,v14,v15,q13,q15,q17]
    repeat' (first|exact v0|exact v1|exact v2|exact v3|exact v4|exact v5|exact v6|exact v7|exact v8|exact v9|exact v10|exact v11|exact v12|exact v13|exact v14|exact v15|exact c16|exact fun h=>absurd (c16 h) (by simp[hL])|refine⟨?_,?_⟩)
   ·intro L s hL he hI
    obtain⟨pos,bl,hN,n1,n2,n3,n4,w1,w15,v0,v1,v2,v3,v4,v5,v6,v7,v8,v9,v10,v11,v12,v13,v14,v15,c16⟩:=hI
    try simp[q13,q15,q17] at v0 v1 v2 v3 v4 v5 v6 v7 v8 v9 v10 v11 v12 v13 v14 v15
    replace v0:=v0 ((zq8 he) 0 (by decide))
    refine AStep.mono ?_ fun s' h=>⟨_,_,hN.skip (by simp),h⟩
    simp[n1,n2,n3,n4,w1,w15,v0,v1,v2,v3,v4,v5,v6,v7,v8,v9,v10,v11,v12,v13,v14,v15,q13,q15,q17]
    repeat' (first|exact v0|exact v1|exact v2|exact v3|exact v4|exact v5|exact v6|exact v7|exact v8|exact v9|exact v10|exact v11|exact v12|exact v13|exact v14|exact v15|exact c16|exact fun h=>absurd (c16 h) (by simp[hL])|exact(zq8 he) 0 (by decide)|refine⟨?_,?_⟩)
   ·intro L s hL he hI
    obtain⟨pos,bl,hN,n1,n2,n3,n4,w1,w15,v0,v1,v2,v3,v4,v5,v6,v7,v8,v9,v10,v11,v12,v13,v14,v15,c16⟩:=hI
    try simp[q13,q15,q17] at v0 v1 v2 v3 v4 v5 v6 v7 v8 v9 v10 v11 v12 v13 v14 v15
    replace v1:=v1 ((zq8 he) 1 (by decide))
    refine AStep.mono ?_ fun s' h=>⟨_,_,hN.skip (by simp),h⟩
    simp[n1,n2,n3,n4,w1,w15,v0,v1,v2,v3,v4,v5,v6,v7,v8,v9,v10,v11,v12,v13,v14,v15,q13,q15,q17]
    repeat' (first|exact v0|exact v1|exact v2|exact v3|exact v4|exact v5|exact v6|exact v7|exact v8|exact v9|exact v10|exact v11|exact v12|exact v13|exact v14|exact v15|exact c16|exact fun h=>absurd (c16 h) (by simp[hL])|exact(zq8 he) 1 (by decide)|refine⟨?_,?_⟩)
   ·intro L s hL he hI
    obtain⟨pos,bl,hN,n1,n2,n3,n4,w1,w15,v0,v1,v2,v3,v4,v5,v6,v7,v8,v9,v10,v11,v12,v13,v14,v15,c16⟩:=hI
    try simp[q13,q15,q17] at v0 v1 v2 v3 v4 v5 v6 v7 v8 v9 v10 v11 v12 v13 v14 v15
    replace v2:=v2 ((zq8 he) 2 (by decide))
    refine AStep.mono ?_ fun s' h=>⟨_,_,hN.skip (by simp),h⟩
    simp[n1,n2,n3,n4,w1,w15,v0,v1,v2,v3,v4,v5,v6,v7,v8,v9,v10,v11,v12,v13,v14,v15,q13,q15,q17]
    repeat' (first|exact v0|exact v1|exact v2|exact v3|exact v4|exact v5|exact v6|exact v7|exact v8|exact v9|exact v10|exact v11|exact v12|exact v13|exact v14|exact v15|exact c16|exact fun h=>absurd (c16 h) (by simp[hL])|exact(zq8 he) 2 (by decide)|refine⟨?_,?_⟩)
   ·intro L s hL he hI
    obtain⟨pos,bl,hN,n1,n2,n3,n4,w1,w15,v0,v1,v2,v3,v4,v5,v6,v7,v8,v9,v10,v11,v12,v13,v14,v15,c16⟩:=hI
    try simp[q13,q15,q17] at v0 v1 v2 v3 v4 v5 v6 v7 v8 v9 v10 v11 v12 v13 v14 v15
    replace v3:=v3 ((zq8 he) 3 (by decide))
    refine AStep.mono ?_ fun s' h=>⟨_,_,hN.skip (by simp),h⟩
    simp[n1,n2,n3,n4,w1,w15,v0,v1,v2,v3,v4,v5,v6,v7,v8,v9,v10,v11,v12,v13,v14,v15,q13,q15,q17]
    repeat' (first|exact v0|exact v1|exact v2|exact v3|exact v4|exact v5|exact v6|exact v7|exact v8|exact v9|exact v10|exact v11|exact v12|exact v13|exact v14|exact v15|exact c16|exact fun h=>absurd (c16 h) (by simp[hL])|exact(zq8 he) 3 (by decide)|refine⟨?_,?_⟩)
   ·intro L s hL he hI
    obtain⟨pos,bl,hN,n1,n2,n3,n4,w1,w15,v0,v1,v2,v3,v4,v5,v6,v7,v8,v9,v10,v11,v12,v13,v14,v15,c16⟩:=hI
    try simp[q13,q15,q17] at v0 v1 v2 v3 v4 v5 v6 v7 v8 v9 v10 v11 v12 v13 v14 v15
    replace v4:=v4 ((zq8 he) 4 (by decide))
    refine AStep.mono ?_ fun s' h=>⟨_,_,hN.skip (by simp),h⟩
    simp[n1,n2,n3,n4,w1,w15,v0,v1,v2,v3,v4,v5,v6,v7,v8,v9,v10,v11,v12,v13,v14,v15,q13,q15,q17]
    repeat' (first|exact v0|exact v1|exact v2|exact v3|exact v4|exact v5|exact v6|exact v7|exact v8|exact v9|exact v10|exact v11|exact v12|exact v13|exact v14|exact v15|exact c16|exact fun h=>absurd (c16 h) (by simp[hL])|exact(zq8 he) 4 (by decide)|refine⟨?_,?_⟩)
   ·intro L s hL he hI
    obtain⟨pos,bl,hN,n1,n2,n3,n4,w1,w15,v0,v1,v2,v3,v4,v5,v6,v7,v8,v9,v10,v11,v12,v13,v14,v15,c16⟩:=hI
    try simp[q13,q15,q17] at v0 v1 v2 v3 v4 v5 v6 v7 v8 v9 v10 v11 v12 v13 v14 v15
    replace v5:=v5 ((zq8 he) 5 (by decide))
    refine AStep.mono ?_ fun s' h=>⟨_,_,hN.skip (by simp),h⟩
    simp[n1,n2,n3,n4,w1,w15,v0,v1,v2,v3,v4,v5,v6,v7,v8,v9,v10,v11,v12,v13,v14,v15,q13,q15,q17]
    repeat' (first|exact v0|exact v1|exact v2|exact v3|exact v4|exact v5|exact v6|exact v7|exact v8|exact v9|exact v10|exact v11|exact v12|exact v13|exact v14|exact v15|exact c16|exact fun h=>absurd (c16 h) (by simp[hL])|exact(zq8 he) 5 (by decide)|refine⟨?_,?_⟩)
   ·intro L s hL he hI
    obtain⟨pos,bl,hN,n1,n2,n3,n4,w1,w15,v0,v1,v2,v3,v4,v5,v6,v7,v8,v9,v10,v11,v12,v13,v14,v15,c16⟩:=hI
    try simp[q13,q15,q17] at v0 v1 v2 v3 v4 v5 v6 v7 v8 v9 v10 v11 v12 v13 v14 v15
    refine AStep.mono ?_ fun s' h=>⟨_,_,hN.skip (by simp),h⟩
    simp[n1,n2,n3,n4,w1,w15,v0,v1,v2,v3,v4,v5,v6,v7,v8,v9,v10,v11,v12,v13,v14,v15,q13,q15,q17]
    repeat' (first|exact v0|exact v1|exact v2|exact v3|exact v4|exact v5|exact v6|exact v7|exact v8|exact v9|exact v10|exact v11|exact v12|exact v13|exact v14|exact v15|exact c16|exact fun h=>absurd (c16 h) (by simp[hL])|refine⟨?_,?_⟩)
   ·intro L s hL he hI
    obtain⟨pos,bl,hN,n1,n2,n3,n4,w1,w15,v0,v1,v2,v3,v4,v5,v6,v7,v8,v9,v10,v11,v12,v13,v14,v15,c16⟩:=hI
    try simp[q13,q15,q17] at v0 v1 v2 v3 v4 v5 v6 v7 v8 v9 v10 v11 v12 v13 v14 v15
    replace v7:=v7 ((zq8 he) 7 (by decide))
    refine AStep.mono ?_ fun s' h=>⟨_,_,hN.skip (by simp),h⟩
    simp[n1,n2,n3,n4,w1,w15,v0,v1,v2,v3,v4,v5,v6,v7,v8,v9,v10,v11,v12,v13,v14,v15,q13,q15,q17]
    repeat' (first|exact v0|exact v1|exact v2|exact v3|exact v4|exact v5|exact v6|exact v7|exact v8|exact v9|exact v10|exact v11|exact v12|exact v13|exact v14|exact v15|exact c16|exact fun h=>absurd (c16 h) (by simp[hL])|exact(zq8 he) 7 (by decide)|refine⟨?_,?_⟩)
   ·intro L s hL he hI
    obtain⟨pos,bl,hN,n1,n2,n3,n4,w1,w15,v0,v1,v2,v3,v4,v5,v6,v7,v8,v9,v10,v11,v12,v13,v14,v15,c16⟩:=hI
    try simp[q13,q15,q17] at v0 v1 v2 v3 v4 v5 v6 v7 v8 v9 v10 v11 v12 v13 v14 v15
    replace v8:=v8 ((zq8 he) 8 (by decide))
    refine AStep.mono ?_ fun s' h=>⟨_,_,hN.skip (by simp),h⟩
    simp[n1,n2,n3,n4,w1,w15,v0,v1,v2,v3,v4,v5,v6,v7,v8,v9,v10,v11,v12,v13,v14,v15,q13,q15,q17]
    repeat' (first|exact v0|exact v1|exact v2|exact v3|exact v4|exact v5|exact v6|exact v7|exact v8|exact v9|exact v10|exact v11|exact v12|exact v13|exact v14|exact v15|exact c16|exact fun h=>absurd (c16 h) (by simp[hL])|exact(zq8 he) 8 (by decide)|refine⟨?_,?_⟩)
   ·intro L s hL he hI
    obtain⟨pos,bl,hN,n1,n2,n3,n4,w1,w15,v0,v1,v2,v3,v4,v5,v6,v7,v8,v9,v10,v11,v12,v13,v14,v15,c16⟩:=hI
    try simp[q13,q15,q17] at v0 v1 v2 v3 v4 v5 v6 v7 v8 v9 v10 v11 v12 v13 v14 v15
    replace v9:=v9 ((zq8 he) 9 (by decide))
    refine AStep.mono ?_ fun s' h=>⟨_,_,hN.skip (by simp),h⟩
    simp[n1,n2,n3,n4,w1,w15,v0,v1,v2,v3,v4,v5,v6,v7,v8,v9,v10,v11,v12,v13,v14,v15,q13,q15,q17]
    repeat' (first|exact v0|exact v1|exact v2|exact v3|exact v4|exact v5|exact v6|exact v7|exact v8|exact v9|exact v10|exact v11|exact v12|exact v13|exact v14|exact v15|exact c16|exact fun h=>absurd (c16 h) (by simp[hL])|exact(zq8 he) 9 (by decide)|refine⟨?_,?_⟩)
   ·intro L s hL he hI
    obtain⟨pos,bl,hN,n1,n2,n3,n4,w1,w15,v0,v1,v2,v3,v4,v5,v6,v7,v8,v9,v10,v11,v12,v13,v14,v15,c16⟩:=hI
    try simp[q13,q15,q17] at v0 v1 v2 v3 v4 v5 v6 v7 v8 v9 v10 v11 v12 v13 v14 v15
    replace v10:=v10 ((zq8 he) 10 (by decide))
    refine AStep.mono ?_ fun s' h=>⟨_,_,hN.skip (by simp),h⟩
    simp[n1,n2,n3,n4,w1,w15,v0,v1,v2,v3,v4,v5,v6,v7,v8,v9,v10,v11,v12,v13,v14,v15,q13,q15,q17]
    repeat' (first|exact v0|exact v1|exact v2|exact v3|exact v4|exact v5|exact v6|exact v7|exact v8|exact v9|exact v10|exact v11|exact v12|exact v13|exact v14|exact v15|exact c16|exact fun h=>absurd (c16 h) (by simp[hL])|exact(zq8 he) 10 (by decide)|refine⟨?_,?_⟩)
   ·intro L s hL he hI
    obtain⟨pos,bl,hN,n1,n2,n3,n4,w1,w15,v0,v1,v2,v3,v4,v5,v6,v7,v8,v9,v10,v11,v12,v13,v14,v15,c16⟩:=hI
    try simp[q13,q15,q17] at v0 v1 v2 v3 v4 v5 v6 v7 v8 v9 v10 v11 v12 v13 v14 v15
    replace v11:=v11 ((zq8 he) 11 (by decide))
    refine AStep.mono ?_ fun s' h=>⟨_,_,hN.skip (by simp),h⟩
    simp[n1,n2,n3,n4,w1,w15,v0,v1,v2,v3,v4,v5,v6,v7,v8,v9,v10,v11,v12,v13,v14,v15,q13,q15,q17]
    repeat' (first|exact v0|exact v1|exact v2|exact v3|exact v4|exact v5|exact v6|exact v7|exact v8|exact v9|exact v10|exact v11|exact v12|exact v13|exact v14|exact v15|exact c16|exact fun h=>absurd (c16 h) (by simp[hL])|exact(zq8 he) 11 (by decide)|refine⟨?_,?_⟩)
   ·intro L s hL he hI
    obtain⟨pos,bl,hN,n1,n2,n3,n4,w1,w15,v0,v1,v2,v3,v4,v5,v6,v7,v8,v9,v10,v11,v12,v13,v14,v15,c16⟩:=hI
    try simp[q13,q15,q17] at v0 v1 v2 v3 v4 v5 v6 v7 v8 v9 v10 v11 v12 v13 v14 v15
    replace v12:=v12 ((zq8 he) 12 (by decide))
    refine AStep.mono ?_ fun s' h=>⟨_,_,hN.skip (by simp),h⟩
    simp[n1,n2,n3,n4,w1,w15,v0,v1,v2,v3,v4,v5,v6,v7,v8,v9,v10,v11,v12,v13,v14,v15,q13,q15,q17]
    repeat' (first|exact v0|exact v1|exact v2|exact v3|exact v4|exact v5|exact v6|exact v7|exact v8|exact v9|exact v10|exact v11|exact v12|exact v13|exact v14|exact v15|exact c16|exact fun h=>absurd (c16 h) (by simp[hL])|exact(zq8 he) 12 (by decide)|refine⟨?_,?_⟩)
   ·intro L s hL he hI
    obtain⟨pos,bl,hN,n1,n2,n3,n4,w1,w15,v0,v1,v2,v3,v4,v5,v6,v7,v8,v9,v10,v11,v12,v13,v14,v15,c16⟩:=hI
    try simp[q13,q15,q17] at v0 v1 v2 v3 v4 v5 v6 v7 v8 v9 v10 v11 v12 v13 v14 v15
    have hL:L 14=false:=hL
    have h16:L 16=false:=by cases hh:L 16 with|false=>rfl|true=>have:=c16 hh;rw[hL] at this;cases this
    have hN2:=hN.push (i:=14) (blk:=[iI 0,iI 0,.str ([]:List UInt8),.nsl,.nsl,.nsl]) (by simp[h16]) (by simp) hL
    refine AStep.mono ?_ fun s' h=>⟨_,_,hN2,h⟩
    simp[n1,n2,n3,n4,w1,w15,v0,v1,v2,v3,v4,v5,v6,v7,v8,v9,v10,v11,v12,v13,v14,v15,q13,q15,q17]
    repeat' (first|exact v0|exact v1|exact v2|exact v3|exact v4|exact v5|exact v6|exact v7|exact v8|exact v9|exact v10|exact v11|exact v12|exact v13|exact v14|exact v15|exact c16|exact fun h=>absurd (c16 h) (by simp[hL])|refine⟨?_,?_⟩)
   ·intro L s hL he hI
    obtain⟨pos,bl,hN,n1,n2,n3,n4,w1,w15,v0,v1,v2,v3,v4,v5,v6,v7,v8,v9,v10,v11,v12,v13,v14,v15,c16⟩:=hI
    try simp[q13,q15,q17] at v0 v1 v2 v3 v4 v5 v6 v7 v8 v9 v10 v11 v12 v13 v14 v15
    refine AStep.mono ?_ fun s' h=>⟨_,_,hN.push (i:=15) (blk:=[iI 0,iI 0,.str ([]:List UInt8),.nsl,.nsl,.nsl]) (by simp) (by simp) hL,h⟩
    simp[n1,n2,n3,n4,w1,w15,v0,v1,v2,v3,v4,v5,v6,v7,v8,v9,v10,v11,v12,v13,v14,v15,q13,q15,q17]
    repeat' (first|exact v0|exact v1|exact v2|exact v3|exact v4|exact v5|exact v6|exact v7|exact v8|exact v9|exact v10|exact v11|exact v12|exact v13|exact v14|exact v15|exact c16|exact fun h=>absurd (c16 h) (by simp[hL])|refine⟨?_,?_⟩)
   ·intro L s hL he hI
    obtain⟨pos,bl,hN,n1,n2,n3,n4,w1,w15,v0,v1,v2,v3,v4,v5,v6,v7,v8,v9,v10,v11,v12,v13,v14,v15,c16⟩:=hI
    try simp[q13,q15,q17] at v0 v1 v2 v3 v4 v5 v6 v7 v8 v9 v10 v11 v12 v13 v14 v15
    replace v0:=v0 ((zq8 he) 0 (by decide))
    replace v1:=v1 ((zq8 he) 1 (by decide))
    replace v2:=v2 ((zq8 he) 2 (by decide))
    replace v3:=v3 ((zq8 he) 3 (by decide))
    replace v4:=v4 ((zq8 he) 4 (by decide))
    replace v5:=v5 ((zq8 he) 5 (by decide))
    replace v6:=v6 ((zq8 he) 6 (by decide))
    replace v14:=v14 ((zq8 he) 14 (by decide))
    replace v15:=v15 ((zq8 he) 15 (by decide))
    have hA:L 14=true:=(zq8 he) 14 (by decide)
    have hL:L 16=false:=hL
    have e1:=hN.at_ (14,if L 16=true then (zLd.d x14) else [iI 0,iI 0,.str ([]:List UInt8),.nsl,.nsl,.nsl]) (by simp) hA
    simp[hL] at e1
    have e2:pos 14<bl.length:=(zq1 e1).1
    refine store_all (pos 14+1) (.agg (zLd.d x14)) (zLd.d x14) rfl rfl ti31 (by simp[v14]) (by simp[n1,n2,n3,n4,w1,w15,v0,v1,v2,v3,v4,v5,v6,v7,v8,v9,v10,v11,v12,v13,v14,v15,q13,q15,q17]) (by simp[n1,n2,n3,n4,w1,w15,v0,v1,v2,v3,v4,v5,v6,v7,v8,v9,v10,v11,v12,v13,v14,v15,q13,q15,q17]) (by rfl) (by simp) (by simp) (by simp) (by simp) (by simp[n1,n2,n3,n4,w1,w15,v0,v1,v2,v3,v4,v5,v6,v7,v8,v9,v10,v11,v12,v13,v14,v15,q13,q15,q17,e1]) (by simp[n4];omega) n3<|⟨pos,bl.set (pos 14) (zLd.d x14),hN.store (N':=[(14,(if true=true then (zLd.d x14) else [iI 0,iI 0,.str ([]:List UInt8),.nsl,.nsl,.nsl])),(15,[iI 0,iI 0,.str ([]:List UInt8),.nsl,.nsl,.nsl])]) (A:=(zLd.d x14)) (i:=16) (a:=14) hA (by simp) rfl (by simp[hL]) ⟨_,zq9 ..,rfl⟩,?_⟩
    simp[n1,n2,n3,n4,w1,w15,v0,v1,v2,v3,v4,v5,v6,v7,v8,v9,v10,v11,v12,v13,v14,v15,q13,q15,q17]
    repeat' (first|exact v0|exact v1|exact v2|exact v3|exact v4|exact v5|exact v6|exact v7|exact v8|exact v9|exact v10|exact v11|exact v12|exact v13|exact v14|exact v15|exact c16|exact fun h=>absurd (c16 h) (by simp[hL])|exact(zq8 he) 0 (by decide)|exact(zq8 he) 1 (by decide)|exact(zq8 he) 2 (by decide)|exact(zq8 he) 3 (by decide)|exact(zq8 he) 4 (by decide)|exact(zq8 he) 5 (by decide)|exact(zq8 he) 6 (by decide)|exact(zq8 he) 14 (by decide)|exact(zq8 he) 15 (by decide)|refine⟨?_,?_⟩)
  ·rintro L s hall ⟨pos,bl,hN,n1,n2,n3,n4,w1,w15,v0,v1,v2,v3,v4,v5,v6,v7,v8,v9,v10,v11,v12,v13,v14,v15,c16⟩
   try simp[q13,q15,q17] at v0 v1 v2 v3 v4 v5 v6 v7 v8 v9 v10 v11 v12 v13 v14 v15
   replace v0:=v0 (hall 0 (by decide))
   replace v1:=v1 (hall 1 (by decide))
   replace v2:=v2 (hall 2 (by decide))
   replace v3:=v3 (hall 3 (by decide))
   replace v4:=v4 (hall 4 (by decide))
   replace v5:=v5 (hall 5 (by decide))
   replace v6:=v6 (hall 6 (by decide))
   replace v7:=v7 (hall 7 (by decide))
   replace v8:=v8 (hall 8 (by decide))
   replace v9:=v9 (hall 9 (by decide))
   replace v10:=v10 (hall 10 (by decide))
   replace v11:=v11 (hall 11 (by decide))
   replace v12:=v12 (hall 12 (by decide))
   replace v13:=v13 (hall 13 (by decide))
   replace v14:=v14 (hall 14 (by decide))
   replace v15:=v15 (hall 15 (by decide))
   simp only[hall 16 (by decide),if_true] at hN
   obtain⟨f,hf,hk,hg⟩:=hN.ghost (by simp) (by simp[hall 14 (by decide),hall 15 (by decide)]) n4 (by simp[n2])
   have k0:f (pos 14+1)=1:=by have:=hk 0 _ rfl;simpa[Nat.add_comm] using this
   have k1:f (pos 15+1)=2:=by have:=hk 1 _ rfl;simpa[Nat.add_comm] using this
   simp at hf
   refine⟨_,hg,?_⟩
   simp[AV.ren,AV.renL,hf,k0,k1,n1,n2,n3,n4,w1,w15,v0,v1,v2,v3,v4,v5,v6,v7,v8,v9,v10,v11,v12,v13,v14,v15,q13,q15,q17]
 obtain⟨b26,q27,h⟩:=bs h
 refine cut 43 0 [(2,.bool b26)] [(zLd.d c1),(zLd.d x14),(zLd.d x16)] ?_ ?_
 ·rcases sp q27 with ⟨g18,q27⟩|⟨g18,q27⟩
  ·rcases sp q27 with ⟨g20,q27⟩|⟨g20,q27⟩
   ·obtain⟨v22,q23,q27⟩:=bs q27
    obtain rfl:=oi q27
    refine st ?_
    simp[g18,g20]
    have r28:=zJa fuel x14 0 v22 q23
    refine zAA r28 (by simp) rfl ?_
    simp[g18,g20]
   obtain rfl:=oi q27
   refine st ?_
   simp[g18,g20]
  obtain rfl:=oi q27
  refine st ?_
  simp[g18]
 refine zAB ?_
 cases h
 simp
theorem zJF(c1:zLd)(binders2:Int)(c3:Int)(c4:Int)(c5:Bool)(r:Bool)(h:zD8 c1 binders2 c3 c4 c5=some r):Raw Tryz.prog 101 [.agg (zLd.d c1),iI binders2,pT 0,pT 1,pT 2] [[iI c3],[iI c4],[.bool c5]] (.tup []) [[iI c3],[iI c4],[.bool r]]:=by
 rw[zD8] at h
 refine zAw Tryz.func101 (by rfl) (by rfl) (by simp) (by simp)<|cutA 27 3 [(1,iI binders2),(2,pT 0),(3,pT 1),(4,pT 2),(5,pT 3)] [[iI c3],[iI c4],[.bool c5],(zLd.d c1)] ?_
 obtain⟨n6,q7,h⟩:=bs h
 obtain⟨q8,q9⟩:=zC9 q7
 try simp at q8
 try simp at q9
 have c10:=q8;simp only[Rng,inR] at c10
 refine cut 27 3 [(2,pT 0),(3,pT 1),(4,pT 2),(5,pT 3),(7,iI n6)] [[iI c3],[iI c4],[.bool c5],(zLd.d c1)] (st (by simp[q8,q9])) ?_
 obtain⟨b22,q23,h⟩:=bs h
 refine cut 27 3 [(4,pT 2),(26,.bool b22)] [[iI c3],[iI c4],[.bool c5],(zLd.d c1)] ?_ ?_
 ·rcases sp q23 with ⟨g11,q23⟩|⟨g11,q23⟩
  ·have c12:=eqT g11
   rcases sp q23 with ⟨g13,q23⟩|⟨g13,q23⟩
   ·have c14:=leT g13
    obtain⟨n15,q16,q23⟩:=bs q23
    obtain⟨q17,q18⟩:=zC9 q16
    try simp at q17
    try simp at q18
    have c19:=q17;simp only[Rng,inR] at c19
    obtain rfl:=oi q23
    refine st ?_
    simp[g11,g13,q17,q18]
   have c20:=leF g13
   obtain rfl:=oi q23
   refine st ?_
   simp[g11,g13]
  have c21:=eqF g11
  obtain rfl:=oi q23
  refine st ?_
  simp[g11]
 refine spc h rfl (fun g24 h=>?_) fun g24 h=>?_
 ·cases h
  refine st ?_
  simp
 refine zAD ?_
 cases h
 simp
theorem zHT(fuel:Nat):(∀(c1:zLd)(binders2:Int)(c3:Int)(c4:Int)(c5:Bool)(r:Bool)(_:zAS fuel c1 binders2 c3 c4 c5=some r),Raw Tryz.prog 100 [.agg (zLd.d c1),iI binders2,.fn (.func 101) [] [pT 0,pT 1,pT 2]] [[iI c3],[iI c4],[.bool c5]] (.tup []) [[iI c3],[iI c4],[.bool r]]):=by
 induction fuel with
 |zero=>intro c1 binders2 c3 c4 c5 r h;rw[zAS] at h;cases h
 |succ fuel zDM=>
  intro c1 binders2 c3 c4 c5 r h
  rw[zAS] at h
  refine zAw Tryz.func100 (by rfl) (by rfl) (by simp) (by simp)<|cutA 36 3 [(1,iI binders2),(2,.fn (.func 101) [] [pT 0,pT 1,pT 2]),(3,pT 3)] [[iI c3],[iI c4],[.bool c5],(zLd.d c1)]<|zAC<|cut 36 3 [(1,iI binders2),(2,.fn (.func 101) [] [pT 0,pT 1,pT 2]),(3,pT 3),(15,.bool ((eqI c1.Op 1)||(eqI c1.Op 2)))] [[iI c3],[iI c4],[.bool c5],(zLd.d c1)] ?_ ?_
  ·rcases tf (eqI c1.Op 1) with g6|g6
   ·refine st ?_
    simp[g6]
   refine st ?_
   simp[g6]
  rcases sp h with ⟨g9,h⟩|⟨g9,h⟩
  ·refine zD5 rfl g9 ?_
   obtain⟨v10,q11,h⟩:=bs h
   refine last 36 3 [(1,iI binders2),(2,.fn (.func 101) [] [pT 0,pT 1,pT 2]),(3,pT 3)] [[iI c3],[iI c4],[.bool v10],(zLd.d c1)] ?_ fun zz hs=>?_
   ·refine st ?_
    simp
    have r57:=(zJF c1 binders2 c3 c4 c5 v10 q11).frame [0,1,2] [[iI c3],[iI c4],[.bool c5],(zLd.d c1)] (by simp)
    refine zBK r57 (by simp) rfl ?_
    simp
   refine zBS ?_ hs
   refine zAC ?_
   obtain⟨v12,q13,h⟩:=bs h
   refine cut 36 3 [(1,iI binders2),(2,.fn (.func 101) [] [pT 0,pT 1,pT 2]),(3,pT 3),(21,.bool v12)] [[iI c3],[iI c4],[.bool v10],(zLd.d c1)] ?_ ?_
   ·refine st ?_
    simp
    have r56:=zBs c1 v12 q13
    refine zAA r56 (by simp) rfl ?_
    simp
   refine spc h rfl (fun g14 h=>?_) fun g14 h=>?_
   ·obtain⟨n15,q16,h⟩:=bs h
    obtain⟨q17,q18⟩:=zC9 q16
    have c19:=q17;simp only[Rng,inR] at c19
    refine last 36 3 [(1,iI n15),(2,.fn (.func 101) [] [pT 0,pT 1,pT 2]),(3,pT 3)] [[iI c3],[iI c4],[.bool v10],(zLd.d c1)] (st (by simp[q17,q18])) fun zz hs=>?_
    refine zBS ?_ hs
    refine cutA 36 3 [(1,iI n15),(2,.fn (.func 101) [] [pT 0,pT 1,pT 2]),(25,.sl (c1.L.map zLd.c)),(26,iI c1.L.length),(27,iI 0)] [[iI c3],[iI c4],[.bool v10],(zLd.d c1)]<|zAG ?_
    obtain⟨o22,l23,h⟩:=bs h
    refine zBR (fun p:Nat×Bool×Nat=>mkS 36 3 [(1,iI n15),(2,.fn (.func 101) [] [pT 0,pT 1,pT 2]),(25,.sl (c1.L.map zLd.c)),(26,iI c1.L.length),(27,iI p.2.2)] [[iI c3],[iI c4],[.bool p.2.1],(zLd.d c1)]) (fun p=>zBi (zAS fuel) c1 c3 c4 n15 p.1 p.2.1 p.2.2=some o22) (fun p=>p.1) (fuel,v10,0) l23 (zA1 (by simp)) ?_
    rintro⟨k24,a20,i21⟩ l23
    try dsimp only at l23 ⊢
    cases k24 with
    |zero=>
     rw[zBi] at l23;cases l23
    |succ k25=>
     rw[zBi] at l23
     refine cutA 36 3 [(1,iI n15),(2,.fn (.func 101) [] [pT 0,pT 1,pT 2]),(25,.sl (c1.L.map zLd.c)),(26,iI c1.L.length),(27,iI i21),(28,.bool (ltI ((i21:Nat):Int) (c1.L.length:Int)))] [[iI c3],[iI c4],[.bool a20],(zLd.d c1)]<|zAC<|spc l23 rfl (fun g26 l23=>?_) fun g26 l23=>?_
     ·have c27:=ltT g26
      refine zCe 25 rfl fun f28=>?_
      rw[zq4] at f28
      refine zAD<|zAK<|zAC<|zAG ?_
      obtain⟨x29,q30,l23⟩:=bs l23
      refine cut 36 3 [(1,iI n15),(2,.fn (.func 101) [] [pT 0,pT 1,pT 2]),(7,pT 4),(25,.sl (c1.L.map zLd.c)),(26,iI c1.L.length),(27,iI i21)] [[iI c3],[iI c4],[.bool a20],(zLd.d c1),(zLd.d x29)] (st (by simp[q30])) ?_
      obtain⟨v31,q32,l23⟩:=bs l23
      refine last 36 3 [(1,iI n15),(2,.fn (.func 101) [] [pT 0,pT 1,pT 2]),(25,.sl (c1.L.map zLd.c)),(26,iI c1.L.length),(27,iI i21)] [[iI c3],[iI c4],[.bool v31],(zLd.d c1),(zLd.d x29)] ?_ fun zz hs=>?_
      ·refine st ?_
       simp
       have r34:=(zDM x29 n15 c3 c4 a20 v31 q32).frame [0,1,2] [[iI c3],[iI c4],[.bool a20],(zLd.d c1),(zLd.d x29)] (by simp)
       refine zBK r34 (by simp) rfl ?_
       simp
      refine zDg<|zBS ?_ hs
      have q33:Rng .i64 (((i21:Nat):Int)+1):=by simp only[Rng,inR];omega
      refine last 36 3 [(1,iI n15),(2,.fn (.func 101) [] [pT 0,pT 1,pT 2]),(25,.sl (c1.L.map zLd.c)),(26,iI c1.L.length),(27,iI ((i21+1:Nat):Int))] [[iI c3],[iI c4],[.bool v31],(zLd.d c1)] (st (by simp[q33])) fun zz hs=>?_
      exact⟨(k25,v31,i21+1),hs,l23,by simp⟩
     have c35:=ltF g26
     refine zCe 25 rfl fun f36=>?_
     rw[zq4] at f36
     refine zAp<|zAH ?_
     have q37:=zqa l23
     have q37:=q37.symm
     refine zAH<|zAt ?_
     cases h
     simp[q37]
   refine zAD<|zAK<|cutA 36 3 [(1,iI binders2),(2,.fn (.func 101) [] [pT 0,pT 1,pT 2]),(25,.sl (c1.L.map zLd.c)),(26,iI c1.L.length),(27,iI 0)] [[iI c3],[iI c4],[.bool v10],(zLd.d c1)]<|zAG ?_
   obtain⟨o40,l41,h⟩:=bs h
   refine zBR (fun p:Nat×Bool×Nat=>mkS 36 3 [(1,iI binders2),(2,.fn (.func 101) [] [pT 0,pT 1,pT 2]),(25,.sl (c1.L.map zLd.c)),(26,iI c1.L.length),(27,iI p.2.2)] [[iI c3],[iI c4],[.bool p.2.1],(zLd.d c1)]) (fun p=>zBh (zAS fuel) c1 binders2 c3 c4 p.1 p.2.1 p.2.2=some o40) (fun p=>p.1) (fuel,v10,0) l41 (zA1 (by simp)) ?_
   rintro⟨k42,a38,i39⟩ l41
   try dsimp only at l41 ⊢
   cases k42 with
   |zero=>
    rw[zBh] at l41;cases l41
   |succ k43=>
    rw[zBh] at l41
    refine cutA 36 3 [(1,iI binders2),(2,.fn (.func 101) [] [pT 0,pT 1,pT 2]),(25,.sl (c1.L.map zLd.c)),(26,iI c1.L.length),(27,iI i39),(28,.bool (ltI ((i39:Nat):Int) (c1.L.length:Int)))] [[iI c3],[iI c4],[.bool a38],(zLd.d c1)]<|zAC<|spc l41 rfl (fun g44 l41=>?_) fun g44 l41=>?_
    ·have c45:=ltT g44
     refine zCe 25 rfl fun f46=>?_
     rw[zq4] at f46
     refine zAD<|zAK<|zAC<|zAG ?_
     obtain⟨x47,q48,l41⟩:=bs l41
     refine cut 36 3 [(1,iI binders2),(2,.fn (.func 101) [] [pT 0,pT 1,pT 2]),(7,pT 4),(25,.sl (c1.L.map zLd.c)),(26,iI c1.L.length),(27,iI i39)] [[iI c3],[iI c4],[.bool a38],(zLd.d c1),(zLd.d x47)] (st (by simp[q48])) ?_
     obtain⟨v49,q50,l41⟩:=bs l41
     refine last 36 3 [(1,iI binders2),(2,.fn (.func 101) [] [pT 0,pT 1,pT 2]),(25,.sl (c1.L.map zLd.c)),(26,iI c1.L.length),(27,iI i39)] [[iI c3],[iI c4],[.bool v49],(zLd.d c1),(zLd.d x47)] ?_ fun zz hs=>?_
     ·refine st ?_
      simp
      have r52:=(zDM x47 binders2 c3 c4 a38 v49 q50).frame [0,1,2] [[iI c3],[iI c4],[.bool a38],(zLd.d c1),(zLd.d x47)] (by simp)
      try simp at r52
      refine zBK r52 (by simp) rfl ?_
      simp
     refine zDg<|zBS ?_ hs
     have q51:Rng .i64 (((i39:Nat):Int)+1):=by simp only[Rng,inR];omega
     try simp at q51
     refine last 36 3 [(1,iI binders2),(2,.fn (.func 101) [] [pT 0,pT 1,pT 2]),(25,.sl (c1.L.map zLd.c)),(26,iI c1.L.length),(27,iI ((i39+1:Nat):Int))] [[iI c3],[iI c4],[.bool v49],(zLd.d c1)] (st (by simp[q51])) fun zz hs=>?_
     exact⟨(k43,v49,i39+1),hs,l41,by simp⟩
    have c53:=ltF g44
    refine zCe 25 rfl fun f54=>?_
    rw[zq4] at f54
    refine zAp<|zAH ?_
    have q55:=zqa l41
    have q55:=q55.symm
    refine zAH<|zAt ?_
    cases h
    simp[q55]
  obtain⟨g58,g59⟩:=orF g9
  have c60:=eqF g58
  have c61:=eqF g59
  refine zEK rfl g9<|zAD<|zAK<|zAC ?_
  obtain⟨v62,q63,h⟩:=bs h
  refine cut 36 3 [(1,iI binders2),(2,.fn (.func 101) [] [pT 0,pT 1,pT 2]),(3,pT 3),(21,.bool v62)] [[iI c3],[iI c4],[.bool c5],(zLd.d c1)] ?_ ?_
  ·refine st ?_
   simp
   have r106:=zBs c1 v62 q63
   try simp at r106
   refine zAA r106 (by simp) rfl ?_
   simp
  refine spc h rfl (fun g64 h=>?_) fun g64 h=>?_
  ·obtain⟨n65,q66,h⟩:=bs h
   obtain⟨q67,q68⟩:=zC9 q66
   try simp at q67
   try simp at q68
   have c69:=q67;simp only[Rng,inR] at c69
   refine last 36 3 [(1,iI n65),(2,.fn (.func 101) [] [pT 0,pT 1,pT 2]),(3,pT 3)] [[iI c3],[iI c4],[.bool c5],(zLd.d c1)] (st (by simp[q67,q68])) fun zz hs=>?_
   refine zBS ?_ hs
   refine cutA 36 3 [(1,iI n65),(2,.fn (.func 101) [] [pT 0,pT 1,pT 2]),(25,.sl (c1.L.map zLd.c)),(26,iI c1.L.length),(27,iI 0)] [[iI c3],[iI c4],[.bool c5],(zLd.d c1)]<|zAG ?_
   obtain⟨o72,l73,h⟩:=bs h
   refine zBR (fun p:Nat×Bool×Nat=>mkS 36 3 [(1,iI n65),(2,.fn (.func 101) [] [pT 0,pT 1,pT 2]),(25,.sl (c1.L.map zLd.c)),(26,iI c1.L.length),(27,iI p.2.2)] [[iI c3],[iI c4],[.bool p.2.1],(zLd.d c1)]) (fun p=>zBg (zAS fuel) c1 c3 c4 n65 p.1 p.2.1 p.2.2=some o72) (fun p=>p.1) (fuel,c5,0) l73 (zA1 (by simp)) ?_
   rintro⟨k74,a70,i71⟩ l73
   try dsimp only at l73 ⊢
   cases k74 with
   |zero=>
    rw[zBg] at l73;cases l73
   |succ k75=>
    rw[zBg] at l73
    refine cutA 36 3 [(1,iI n65),(2,.fn (.func 101) [] [pT 0,pT 1,pT 2]),(25,.sl (c1.L.map zLd.c)),(26,iI c1.L.length),(27,iI i71),(28,.bool (ltI ((i71:Nat):Int) (c1.L.length:Int)))] [[iI c3],[iI c4],[.bool a70],(zLd.d c1)]<|zAC<|spc l73 rfl (fun g76 l73=>?_) fun g76 l73=>?_
    ·have c77:=ltT g76
     refine zCe 25 rfl fun f78=>?_
     rw[zq4] at f78
     refine zAD<|zAK<|zAC<|zAG ?_
     obtain⟨x79,q80,l73⟩:=bs l73
     refine cut 36 3 [(1,iI n65),(2,.fn (.func 101) [] [pT 0,pT 1,pT 2]),(7,pT 4),(25,.sl (c1.L.map zLd.c)),(26,iI c1.L.length),(27,iI i71)] [[iI c3],[iI c4],[.bool a70],(zLd.d c1),(zLd.d x79)] (st (by simp[q80])) ?_
     obtain⟨v81,q82,l73⟩:=bs l73
     refine last 36 3 [(1,iI n65),(2,.fn (.func 101) [] [pT 0,pT 1,pT 2]),(25,.sl (c1.L.map zLd.c)),(26,iI c1.L.length),(27,iI i71)] [[iI c3],[iI c4],[.bool v81],(zLd.d c1),(zLd.d x79)] ?_ fun zz hs=>?_
     ·refine st ?_
      simp
      have r84:=(zDM x79 n65 c3 c4 a70 v81 q82).frame [0,1,2] [[iI c3],[iI c4],[.bool a70],(zLd.d c1),(zLd.d x79)] (by simp)
      try simp at r84
      refine zBK r84 (by simp) rfl ?_
      simp
     refine zDg<|zBS ?_ hs
     have q83:Rng .i64 (((i71:Nat):Int)+1):=by simp only[Rng,inR];omega
     try simp at q83
     refine last 36 3 [(1,iI n65),(2,.fn (.func 101) [] [pT 0,pT 1,pT 2]),(25,.sl (c1.L.map zLd.c)),(26,iI c1.L.length),(27,iI ((i71+1:Nat):Int))] [[iI c3],[iI c4],[.bool v81],(zLd.d c1)] (st (by simp[q83])) fun zz hs=>?_
     exact⟨(k75,v81,i71+1),hs,l73,by simp⟩
    have c85:=ltF g76
    refine zCe 25 rfl fun f86=>?_
    rw[zq4] at f86
    refine zAp<|zAH ?_
    have q87:=zqa l73
    have q87:=q87.symm
    refine zAH<|zAt ?_
    cases h
    simp[q87]
  refine zAD<|zAK<|cutA 36 3 [(1,iI binders2),(2,.fn (.func 101) [] [pT 0,pT 1,pT 2]),(25,.sl (c1.L.map zLd.c)),(26,iI c1.L.length),(27,iI 0)] [[iI c3],[iI c4],[.bool c5],(zLd.d c1)]<|zAG ?_
  obtain⟨o90,l91,h⟩:=bs h
  refine zBR (fun p:Nat×Bool×Nat=>mkS 36 3 [(1,iI binders2),(2,.fn (.func 101) [] [pT 0,pT 1,pT 2]),(25,.sl (c1.L.map zLd.c)),(26,iI c1.L.length),(27,iI p.2.2)] [[iI c3],[iI c4],[.bool p.2.1],(zLd.d c1)]) (fun p=>zBf (zAS fuel) c1 binders2 c3 c4 p.1 p.2.1 p.2.2=some o90) (fun p=>p.1) (fuel,c5,0) l91 (zA1 (by simp)) ?_
  rintro⟨k92,a88,i89⟩ l91
  try dsimp only at l91 ⊢
  cases k92 with
  |zero=>
   rw[zBf] at l91;cases l91
  |succ k93=>
   rw[zBf] at l91
   refine cutA 36 3 [(1,iI binders2),(2,.fn (.func 101) [] [pT 0,pT 1,pT 2]),(25,.sl (c1.L.map zLd.c)),(26,iI c1.L.length),(27,iI i89),(28,.bool (ltI ((i89:Nat):Int) (c1.L.length:Int)))] [[iI c3],[iI c4],[.bool a88],(zLd.d c1)]<|zAC<|spc l91 rfl (fun g94 l91=>?_) fun g94 l91=>?_
   ·have c95:=ltT g94
    refine zCe 25 rfl fun f96=>?_
    rw[zq4] at f96
    refine zAD<|zAK<|zAC<|zAG ?_
    obtain⟨x97,q98,l91⟩:=bs l91
    refine cut 36 3 [(1,iI binders2),(2,.fn (.func 101) [] [pT 0,pT 1,pT 2]),(7,pT 4),(25,.sl (c1.L.map zLd.c)),(26,iI c1.L.length),(27,iI i89)] [[iI c3],[iI c4],[.bool a88],(zLd.d c1),(zLd.d x97)] (st (by simp[q98])) ?_
    obtain⟨v99,q100,l91⟩:=bs l91
    refine last 36 3 [(1,iI binders2),(2,.fn (.func 101) [] [pT 0,pT 1,pT 2]),(25,.sl (c1.L.map zLd.c)),(26,iI c1.L.length),(27,iI i89)] [[iI c3],[iI c4],[.bool v99],(zLd.d c1),(zLd.d x97)] ?_ fun zz hs=>?_
    ·refine st ?_
     simp
     have r102:=(zDM x97 binders2 c3 c4 a88 v99 q100).frame [0,1,2] [[iI c3],[iI c4],[.bool a88],(zLd.d c1),(zLd.d x97)] (by simp)
     try simp at r102
     refine zBK r102 (by simp) rfl ?_
     simp
    refine zDg<|zBS ?_ hs
    have q101:Rng .i64 (((i89:Nat):Int)+1):=by simp only[Rng,inR];omega
    try simp at q101
    refine last 36 3 [(1,iI binders2),(2,.fn (.func 101) [] [pT 0,pT 1,pT 2]),(25,.sl (c1.L.map zLd.c)),(26,iI c1.L.length),(27,iI ((i89+1:Nat):Int))] [[iI c3],[iI c4],[.bool v99],(zLd.d c1)] (st (by simp[q101])) fun zz hs=>?_
    exact⟨(k93,v99,i89+1),hs,l91,by simp⟩
   have c103:=ltF g94
   refine zCe 25 rfl fun f104=>?_
   rw[zq4] at f104
   refine zAp<|zAH ?_
   have q105:=zqa l91
   have q105:=q105.symm
   refine zAH<|zAt ?_
   cases h
   simp[q105]
theorem zFp(fuel:Nat)(c1:zLd)(leaf2:Int)(leaf3:Int)(r:zLd×Int)(h:zCS fuel c1 leaf2 leaf3=some r):Pure Tryz.prog 102 [.agg (zLd.d c1),.fn (.func 149) [] [.cptr [iI leaf2],.cptr [iI leaf3]]] (.tup [.agg (zLd.d r.1),iI r.2]):=by
 rw[zCS] at h
 refine zAE Tryz.func102 (by rfl) (by rfl) (by simp) (by simp) (by simp)<|cutA 26 0 [(1,.fn (.func 149) [] [.cptr [iI leaf2],.cptr [iI leaf3]]),(2,pT 0),(4,pT 1)] [(zLd.d c1),zz0]<|cutA 26 0 [(2,pT 0),(4,pT 1),(6,pT 2)] [(zLd.d c1),zz0,[.fn (.func 149) [] [.cptr [iI leaf2],.cptr [iI leaf3]],iI 20000]] ?_
 obtain⟨v4,q5,h⟩:=bs h
 refine cut 26 0 [(4,pT 1),(6,pT 2),(7,pT 3)] [(zLd.d c1),zz0,[.fn (.func 149) [] [.cptr [iI leaf2],.cptr [iI leaf3]],iI v4.2],(zLd.d v4.1)] ?_ ?_
 ·refine st ?_
  simp
  have r15:=(zEN fuel c1 0 leaf2 leaf3 20000 v4 q5).frame [2] [(zLd.d c1),zz0,[.fn (.func 149) [] [.cptr [iI leaf2],.cptr [iI leaf3]],iI 20000]] (by simp)
  try simp at r15
  refine zBK r15 (by simp) rfl ?_
  simp
 refine zAC ?_
 obtain⟨b11,q12,h⟩:=bs h
 refine cut 26 0 [(4,pT 1),(7,pT 3),(23,.bool b11)] [(zLd.d c1),zz0,[.fn (.func 149) [] [.cptr [iI leaf2],.cptr [iI leaf3]],iI v4.2],(zLd.d v4.1)] ?_ ?_
 ·rcases sp q12 with ⟨g6,q12⟩|⟨g6,q12⟩
  ·have c7:=ltT g6
   obtain rfl:=oi q12
   refine st ?_
   simp[g6]
  have c8:=ltF g6
  obtain⟨v9,q10,q12⟩:=bs q12
  obtain rfl:=oi q12
  refine st ?_
  simp[g6]
  have r14:=zCR fuel v4.1 v9 q10
  try simp[g6] at r14
  refine zAA r14 (by simp) rfl ?_
  simp[g6]
 refine spc h rfl (fun g13 h=>?_) fun g13 h=>?_
 ·refine cutA 26 0 [(4,pT 1),(5,iI 6)] [(zLd.d c1),zz0,[.fn (.func 149) [] [.cptr [iI leaf2],.cptr [iI leaf3]],iI v4.2],(zLd.d v4.1)]<|zAB<|zAF ?_
  cases h
  simp
 refine zAD<|zAK<|cutA 26 0 [(4,pT 1),(5,iI 0)] [(zLd.d c1),(zLd.d v4.1),[.fn (.func 149) [] [.cptr [iI leaf2],.cptr [iI leaf3]],iI v4.2],(zLd.d v4.1)]<|zAB ?_
 cases h
 simp
theorem zH1(fuel:Nat)(c1:zLd)(by2:Int)(from3:Int)(r:zLd×Int)(h:zEU fuel c1 by2 from3=some r):Pure Tryz.prog 60 [.agg (zLd.d c1),iI by2,iI from3] (.tup [.agg (zLd.d r.1),iI r.2]):=by
 rw[zEU] at h
 refine zAE Tryz.func60 (by rfl) (by rfl) (by simp) (by simp) (by simp)<|cutA 36 0 [(3,pT 0),(4,pT 1),(5,pT 2),(6,pT 3)] [(zLd.d c1),[iI by2],[iI from3],zz0]<|zAC ?_
 obtain⟨v4,q5,h⟩:=bs h
 refine cut 36 0 [(3,pT 0),(4,pT 1),(5,pT 2),(6,pT 3),(11,.bool (!v4))] [(zLd.d c1),[iI by2],[iI from3],zz0] ?_ ?_
 ·refine st ?_
  simp
  have r33:=zCR fuel c1 v4 q5
  try simp at r33
  refine zAA r33 (by simp) rfl ?_
  simp
 refine spc h rfl (fun g6 h=>?_) fun g6 h=>?_
 ·have g7:=notT g6
  refine cutA 36 0 [(6,pT 3),(7,iI 1)] [(zLd.d c1),[iI by2],[iI from3],zz0]<|zAB<|zAF ?_
  cases h
  simp
 have g8:=notF g6
 refine zAD<|zAK<|zAC<|cut 36 0 [(3,pT 0),(4,pT 1),(5,pT 2),(6,pT 3),(22,.bool ((ltI from3 0)||((ltI by2 (-20000))||(ltI 20000 by2))))] [(zLd.d c1),[iI by2],[iI from3],zz0] ?_ ?_
 ·rcases tf (ltI from3 0) with g9|g9
  ·have c10:=ltT g9
   refine st ?_
   simp[g9]
  have c11:=ltF g9
  rcases tf (ltI by2 (-20000)) with g12|g12
  ·have c13:=ltT g12
   refine st ?_
   simp[g9,g12]
  have c14:=ltF g12
  refine st ?_
  simp[g9,g12]
 rcases sp h with ⟨g15,h⟩|⟨g15,h⟩
 ·refine zD5 rfl g15<|cutA 36 0 [(6,pT 3),(7,iI 2)] [(zLd.d c1),[iI by2],[iI from3],zz0]<|zAB<|zAF ?_
  cases h
  simp
 obtain⟨g16,g17⟩:=orF g15
 have c18:=ltF g16
 obtain⟨g19,g20⟩:=orF g17
 have c21:=ltF g19
 have c22:=ltF g20
 refine zEK rfl g15<|zAD<|zAK<|cutA 36 0 [(3,pT 0),(4,pT 1),(5,pT 2),(6,pT 3),(8,pT 4)] [(zLd.d c1),[iI by2],[iI from3],zz0,[.bool false]] ?_
 obtain⟨v23,q24,h⟩:=bs h
 refine cut 36 0 [(3,pT 0),(4,pT 1),(5,pT 2),(6,pT 3),(8,pT 4)] [(zLd.d c1),[iI by2],[iI from3],zz0,[.bool v23]] ?_ ?_
 ·refine st ?_
  simp
  have r32:=(zHT fuel c1 0 from3 by2 false v23 q24).frame [2,1,4] [(zLd.d c1),[iI by2],[iI from3],zz0,[.bool false]] (by simp)
  try simp at r32
  refine zBK r32 (by simp) rfl ?_
  simp
 refine zAC<|cutA 36 0 [(3,pT 0),(4,pT 1),(5,pT 2),(6,pT 3),(27,.bool v23)] [(zLd.d c1),[iI by2],[iI from3],zz0,[.bool v23]]<|spc h rfl (fun g25 h=>?_) fun g25 h=>?_
 ·refine cutA 36 0 [(6,pT 3),(7,iI 2)] [(zLd.d c1),[iI by2],[iI from3],zz0,[.bool v23]]<|zAB<|zAF ?_
  cases h
  simp
 refine zAD<|zAK ?_
 obtain⟨v26,q27,h⟩:=bs h
 obtain⟨v28,q29,h⟩:=bs h
 refine cut 36 0 [(6,pT 3),(7,iI v28.2)] [(zLd.d c1),[iI by2],[iI from3],(zLd.d v28.1),[.bool v23]] ?_ ?_
 ·refine zAN [] mixed (n:=36) rfl (by decide) ?_
  simp
  have r30:=zGr by2 from3 v26 q27
  try simp at r30
  refine zGc r30 (by simp) rfl ?_
  simp
  have r31:=zFp fuel c1 v26.1 v26.2 v28 q29
  try simp at r31
  refine zGc r31 (by simp) rfl ?_
  simp
 refine zAB ?_
 cases h
 simp
end Go.Proofs.YtencdekdgajgfaaGreatDoor
