/- For every input the law PatternTypes returns true. Part 14 of 21. No condition. -/
import Derived.Test.YtencdekdgajgfaaGreatDoorPTm
import Derived.Shelf.SlGeneric
import Derived.Shelf.SlicesQ.Reverse
import Derived.Ground.SlgnProg
set_option linter.unusedVariables false
set_option linter.unnecessarySimpa false
set_option linter.unusedSimpArgs false
set_option maxRecDepth 100000
set_option maxHeartbeats 1000000
namespace Go.Proofs
open Go.Shelf
def Tryz.revCon_ren:Go.Shelf.Ren:=⟨fun|35=>185|n=>n,fun|22=>29|23=>31|3=>3|4=>4|0=>0|n=>n,fun|n=>n⟩
theorem Tryz.revCon:Go.Proofs.SlLaysE0.n35 Tryz.prog Tryz.revCon_ren:={
 mixed:=by kernel_rfl
 f35:=⟨Tryz.f185.name,by decide,Tryz.func185.trans (congrArg some (by kernel_rfl))⟩
 t0:=Tryz.underlying0
 a0:=Tryz.isAgg0
 z0:=Tryz.sizeOf0
 v0:=Tryz.zeroValue0
 t3:=Tryz.underlying3
 a3:=Tryz.isAgg3
 z3:=Tryz.sizeOf3
 v3:=Tryz.zeroValue3
 t4:=Tryz.underlying4
 a4:=Tryz.isAgg4
 z4:=Tryz.sizeOf4
 v4:=Tryz.zeroValue4
 t22:=Tryz.underlying29
 a22:=Tryz.isAgg29
 z22:=Tryz.sizeOf29
 v22:=Tryz.zeroValue29}
end Go.Proofs
namespace Go.Proofs.YtencdekdgajgfaaGreatDoor
open Go Go.Abs
theorem zKK:yes (callN Tryz.prog (libC libHas libTab) 100000 100 5 [] [])=true:=by decide +kernel
theorem zLK(r:Bool)(h:zFO=some r):Pure Tryz.prog 5 [] (.bool r):=by
 cases h
 exact yes_ok (callN_ok lib_ok mixed 100000 100) zKK
theorem zLJ(fuel:Nat):(∀(p1:zLn)(depth2:Int)(c3:Int)(r:Int)(_:zB8 fuel p1 depth2 c3=some r),Raw Tryz.prog 23 [.agg (zLn.d p1),iI depth2,pT 0,pT 1] [[iI c3],[.fn (.func 23) [] [pT 0,pT 1]]] (.tup []) [[iI r],[.fn (.func 23) [] [pT 0,pT 1]]]):=by
 induction fuel with
 |zero=>intro p1 depth2 c3 r h;rw[zB8] at h;cases h
 |succ fuel zIH=>
  intro p1 depth2 c3 r h
  rw[zB8] at h
  refine zBE Tryz.func23 (by rfl) (by rfl) (by simp) (by simp)<|cutA 43 2 [(1,iI depth2),(2,pT 0),(3,pT 1),(4,pT 2)] [[iI c3],[.fn (.func 23) [] [pT 0,pT 1]],(zLn.d p1)] ?_
  obtain⟨n4,q5,h⟩:=bs h
  obtain⟨q6,q7⟩:=zBo q5
  have c8:=q6;simp only[Rng,inR] at c8
  refine cut 43 2 [(1,iI depth2),(2,pT 0),(3,pT 1),(4,pT 2)] [[iI n4],[.fn (.func 23) [] [pT 0,pT 1]],(zLn.d p1)] (st (by simp[q6,q7]))<|zAA<|cut 43 2 [(1,iI depth2),(2,pT 0),(3,pT 1),(4,pT 2),(22,.bool ((ltI 50 depth2)||((ltI 20 p1.L.length)||(ltI 200 p1.S.length))))] [[iI n4],[.fn (.func 23) [] [pT 0,pT 1]],(zLn.d p1)] ?_ ?_
  ·rcases tf (ltI 50 depth2) with g9|g9
   ·refine st ?_
    simp[g9]
   rcases tf (ltI 20 p1.L.length) with g12|g12
   ·refine zBk 2 3 rfl rfl rfl fun f14=>?_
    rw[zq4] at f14
    refine st ?_
    simp[g9,g12]
   refine zBk 2 3 rfl rfl rfl fun f16=>?_
   rw[zq4] at f16
   refine st ?_
   simp[g9,g12]
  rcases sp h with ⟨g17,h⟩|⟨g17,h⟩
  ·refine zEj rfl g17<|lastA 43 2 [(1,iI depth2),(2,pT 0),(3,pT 1),(4,pT 2)] [[iI 1000],[.fn (.func 23) [] [pT 0,pT 1]],(zLn.d p1)]<|cutA 43 2 [(1,iI depth2),(2,pT 0),(3,pT 1),(4,pT 2),(6,iI 0)] [[iI 1000],[.fn (.func 23) [] [pT 0,pT 1]],(zLn.d p1)]<|zAF ?_
   obtain⟨o20,l21,h⟩:=bs h
   refine zAq (fun p:Nat×Int×Nat=>mkS 43 2 [(1,iI depth2),(2,pT 0),(3,pT 1),(4,pT 2),(6,iI p.2.2)] [[iI p.2.1],[.fn (.func 23) [] [pT 0,pT 1]],(zLn.d p1)]) (fun p=>zDa (zB8 fuel) p1 depth2 p.1 p.2.1 p.2.2=some o20) (fun p=>p.1) (fuel,1000,0) l21 (zAc (by simp)) ?_
   rintro⟨k22,a18,i19⟩ l21
   try dsimp only at l21 ⊢
   cases k22 with
   |zero=>
    rw[zDa] at l21;cases l21
   |succ k23=>
    rw[zDa] at l21
    refine zAA<|cut 43 2 [(1,iI depth2),(2,pT 0),(3,pT 1),(4,pT 2),(6,iI i19),(31,.bool ((ltI i19 p1.L.length)&&(leI a18 200)))] [[iI a18],[.fn (.func 23) [] [pT 0,pT 1]],(zLn.d p1)] ?_ ?_
    ·rcases tf (ltI i19 p1.L.length) with g24|g24
     ·refine zBk 2 3 rfl rfl rfl fun f26=>?_
      rw[zq4] at f26
      refine st ?_
      simp[g24]
     refine zBk 2 3 rfl rfl rfl fun f28=>?_
     rw[zq4] at f28
     refine st ?_
     simp[g24]
    rcases sp l21 with ⟨g29,l21⟩|⟨g29,l21⟩
    ·obtain⟨g30,g31⟩:=andT g29
     have c32:=ltT g30
     refine zEj rfl g29<|zBk 2 3 rfl rfl rfl fun f33=>?_
     rw[zq4] at f33
     refine zAB<|zAJ<|zAA<|zAF ?_
     obtain⟨x35,q36,l21⟩:=bs l21
     obtain⟨n37,q38,l21⟩:=bs l21
     obtain⟨q39,q40⟩:=zBo q38
     have c41:=q39;simp only[Rng,inR] at c41
     obtain⟨v42,q43,l21⟩:=bs l21
     refine last 43 2 [(1,iI depth2),(2,pT 0),(3,pT 1),(4,pT 2),(6,iI i19)] [[iI v42],[.fn (.func 23) [] [pT 0,pT 1]],(zLn.d p1)] ?_ fun zz hs=>?_
     ·refine zAl [] [8] mixed (n:=43) rfl (by decide) (by decide) ?_
      simp[q36,q39,q40]
      have r45:=(zIH x35 n37 a18 v42 q43).frame [0,1] [[iI a18],[.fn (.func 23) [] [pT 0,pT 1]],(zLn.d p1)] (by simp)
      try simp[q36,q39,q40] at r45
      refine callX r45 (by simp[q36,q39,q40]) rfl ?_
      simp[q36,q39,q40]
     refine zDC<|zAj ?_ hs
     have q44:Rng .i64 (((i19:Nat):Int)+1):=by simp only[Rng,inR];omega
     try simp at q44
     refine last 43 2 [(1,iI depth2),(2,pT 0),(3,pT 1),(4,pT 2),(6,iI ((i19+1:Nat):Int))] [[iI v42],[.fn (.func 23) [] [pT 0,pT 1]],(zLn.d p1)] (st (by simp[q44])) fun zz hs=>?_
     exact⟨(k23,v42,i19+1),hs,l21,by simp⟩
    refine zEt rfl g29<|zAW<|zAH ?_
    have q46:=zqa l21
    have q46:=q46.symm
    refine zAH<|zAX ?_
    cases h
    simp[q46]
  obtain⟨g47,g48⟩:=orF g17
  have c49:=ltF g47
  obtain⟨g50,g51⟩:=orF g48
  have c52:=ltF g50
  have c54:=ltF g51
  refine zEt rfl g17<|zBk 2 3 rfl rfl rfl fun f53=>?_
  rw[zq4] at f53
  refine factCS 2 2 rfl rfl fun f55=>?_
  refine zAB<|zAJ<|cutA 43 2 [(1,iI depth2),(2,pT 0),(3,pT 1),(4,pT 2),(6,iI 0)] [[iI n4],[.fn (.func 23) [] [pT 0,pT 1]],(zLn.d p1)]<|zAF ?_
  obtain⟨o58,l59,h⟩:=bs h
  refine zAq (fun p:Nat×Int×Nat=>mkS 43 2 [(1,iI depth2),(2,pT 0),(3,pT 1),(4,pT 2),(6,iI p.2.2)] [[iI p.2.1],[.fn (.func 23) [] [pT 0,pT 1]],(zLn.d p1)]) (fun p=>zCU (zB8 fuel) p1 depth2 p.1 p.2.1 p.2.2=some o58) (fun p=>p.1) (fuel,n4,0) l59 (zAc (by simp)) ?_
  rintro⟨k60,a56,i57⟩ l59
  try dsimp only at l59 ⊢
  cases k60 with
  |zero=>
   rw[zCU] at l59;cases l59
  |succ k61=>
   rw[zCU] at l59
   refine zAA<|cut 43 2 [(1,iI depth2),(2,pT 0),(3,pT 1),(4,pT 2),(6,iI i57),(31,.bool ((ltI i57 p1.L.length)&&(leI a56 200)))] [[iI a56],[.fn (.func 23) [] [pT 0,pT 1]],(zLn.d p1)] ?_ ?_
   ·rcases tf (ltI i57 p1.L.length) with g62|g62
    ·have c63:=ltT g62
     refine st ?_
     simp[g62]
    have c64:=ltF g62
    refine st ?_
    simp[g62]
   rcases sp l59 with ⟨g65,l59⟩|⟨g65,l59⟩
   ·obtain⟨g66,g67⟩:=andT g65
    have c68:=ltT g66
    have c69:=leT g67
    refine zEj rfl g65<|zAB<|zAJ<|zAA<|zAF ?_
    obtain⟨x70,q71,l59⟩:=bs l59
    obtain⟨n72,q73,l59⟩:=bs l59
    obtain⟨q74,q75⟩:=zBo q73
    try simp at q74
    try simp at q75
    have c76:=q74;simp only[Rng,inR] at c76
    obtain⟨v77,q78,l59⟩:=bs l59
    refine last 43 2 [(1,iI depth2),(2,pT 0),(3,pT 1),(4,pT 2),(6,iI i57)] [[iI v77],[.fn (.func 23) [] [pT 0,pT 1]],(zLn.d p1)] ?_ fun zz hs=>?_
    ·refine zAl [] [8] mixed (n:=43) rfl (by decide) (by decide) ?_
     simp[q71,q74,q75]
     have r80:=(zIH x70 n72 a56 v77 q78).frame [0,1] [[iI a56],[.fn (.func 23) [] [pT 0,pT 1]],(zLn.d p1)] (by simp)
     try simp[q71,q74,q75] at r80
     refine callX r80 (by simp[q71,q74,q75]) rfl ?_
     simp[q71,q74,q75]
    refine zDC<|zAj ?_ hs
    have q79:Rng .i64 (((i57:Nat):Int)+1):=by simp only[Rng,inR];omega
    try simp at q79
    refine last 43 2 [(1,iI depth2),(2,pT 0),(3,pT 1),(4,pT 2),(6,iI ((i57+1:Nat):Int))] [[iI v77],[.fn (.func 23) [] [pT 0,pT 1]],(zLn.d p1)] (st (by simp[q79])) fun zz hs=>?_
    exact⟨(k61,v77,i57+1),hs,l59,by simp⟩
   refine zEt rfl g65<|zAW<|zAH ?_
   have q81:=zqa l59
   have q81:=q81.symm
   refine zAH<|zAX ?_
   cases h
   simp[q81]
theorem zJk(fuel:Nat)(p1:zLn)(r:Bool)(h:zGM fuel p1=some r):Pure Tryz.prog 6 [.agg (zLn.d p1)] (.bool r):=by
 rw[zGM] at h
 refine zAD Tryz.func6 (by rfl) (by rfl) (by simp) (by simp) (by simp)<|cutA 11 0 [(1,pT 0)] [(zLn.d p1)]<|cutA 11 0 [(1,pT 0),(3,pT 1)] [(zLn.d p1),[iI 0]]<|cutA 11 0 [(1,pT 0),(3,pT 1),(4,pT 2)] [(zLn.d p1),[iI 0],[.nilfn]]<|cutA 11 0 [(1,pT 0),(3,pT 1),(4,pT 2)] [(zLn.d p1),[iI 0],[.fn (.func 23) [] [pT 1,pT 2]]] ?_
 obtain⟨v2,q3,h⟩:=bs h
 refine cut 11 0 [(3,pT 1)] [(zLn.d p1),[iI v2],[.fn (.func 23) [] [pT 1,pT 2]]] ?_ ?_
 ·refine st ?_
  simp
  have r4:=(zLJ fuel p1 1 0 v2 q3).frame [1,2] [(zLn.d p1),[iI 0],[.fn (.func 23) [] [pT 1,pT 2]]] (by simp)
  try simp at r4
  refine zDX r4 (by simp) rfl ?_
  simp
 refine cutA 11 0 [(2,.bool (ltI 200 v2))] [(zLn.d p1),[iI v2],[.fn (.func 23) [] [pT 1,pT 2]]]<|zAC ?_
 cases h
 simp
theorem zIx(s1:(List UInt8))(r:Bool)(h:zD6 s1=some r):Pure Tryz.prog 27 [.str s1] (.bool r):=by
 rw[zD6] at h
 refine zAD Tryz.func27 (by rfl) (by rfl) (by simp) (by simp) (by simp)<|cutA 6 0 [(0,.str s1)] []<|cutA 6 0 [(2,.bool (ltI 100 s1.length))] []<|zAC ?_
 cases h
 simp
theorem zEh(fuel:Nat)(s1:(List (List UInt8)))(r:Int)(h:zBL fuel s1=some r):Pure Tryz.prog 51 [.sl (s1.map cS),.fn (.func 27) [] []] (iI r):=by
 rw[zBL] at h
 refine zAD Tryz.func51 (by rfl) (by rfl) (by simp) (by simp) (by simp)<|cutA 19 0 [(0,.sl (s1.map cS)),(1,.fn (.func 27) [] [])] []<|zAA<|cutA 19 0 [(0,.sl (s1.map cS)),(1,.fn (.func 27) [] []),(7,iI s1.length),(8,iI 0)] []<|zAF ?_
 obtain⟨o4,l5,h⟩:=bs h
 refine zAq (fun p:Nat×Nat=>mkS 19 0 [(0,.sl (s1.map cS)),(1,.fn (.func 27) [] []),(7,iI s1.length),(8,iI p.2)] []) (fun p=>zAb s1 p.1 p.2=some o4) (fun p=>p.1) (fuel,0) l5 (zAc (by simp)) ?_
 rintro⟨k6,i2⟩ l5
 try dsimp only at l5 ⊢
 cases k6 with
 |zero=>
  rw[zAb] at l5;cases l5
 |succ k7=>
  rw[zAb] at l5
  refine cutA 19 0 [(0,.sl (s1.map cS)),(1,.fn (.func 27) [] []),(7,iI s1.length),(8,iI i2),(9,.bool (ltI i2 s1.length))] []<|zAA<|spc l5 rfl (fun g8 l5=>?_) fun g8 l5=>?_
  ·have c9:=ltT g8
   refine zC5 0 rfl fun f10=>?_
   rw[zq4] at f10
   refine zAB<|zAJ<|zAA<|zAF<|cutA 19 0 [(0,.sl (s1.map cS)),(1,.fn (.func 27) [] []),(5,iI i2),(7,iI s1.length),(8,iI i2)] [] ?_
   obtain⟨x11,q12,l5⟩:=bs l5
   obtain⟨v13,q14,l5⟩:=bs l5
   refine cut 19 0 [(0,.sl (s1.map cS)),(1,.fn (.func 27) [] []),(5,iI i2),(7,iI s1.length),(8,iI i2),(16,.bool v13)] [] ?_ ?_
   ·refine st ?_
    simp[q12]
    have r17:=zIx x11 v13 q14
    try simp[q12] at r17
    refine cP r17 ?_
    simp[q12]
   refine spc l5 rfl (fun g15 l5=>?_) fun g15 l5=>?_
   ·refine cutA 19 0 [(4,iI i2)] []<|zAC<|zAR<|zAE ?_
    replace h:=retL l5 h
    refine zAE<|zAR<|zAE ?_
    cases h
    simp
   refine zAB<|zDC<|zAJ ?_
   have q16:Rng .i64 (((i2:Nat):Int)+1):=by simp only[Rng,inR];omega
   try simp at q16
   refine last 19 0 [(0,.sl (s1.map cS)),(1,.fn (.func 27) [] []),(7,iI s1.length),(8,iI ((i2+1:Nat):Int))] [] (st (by simp[q16])) fun zz hs=>?_
   exact⟨(k7,i2+1),hs,l5,by simp⟩
  have c18:=ltF g8
  refine zC5 0 rfl fun f19=>?_
  rw[zq4] at f19
  refine zAW<|zAH ?_
  rcases o4 with o4|o3
  ·cases l5
  have q20:=Sum.inr.inj (zqa l5)
  replace h:=zHa h
  refine zAH<|zAX<|zAj (t:=mkS 19 0 [] []) ?_ (zAc (by simp))
  refine cutA 19 0 [(4,iI (-1))] []<|zAC ?_
  cases h
  simp
theorem zEG(fuel:Nat)(s1:(List (List UInt8)))(r:Bool)(h:zAr fuel s1=some r):Pure Tryz.prog 26 [.sl (s1.map cS),.fn (.func 27) [] []] (.bool r):=by
 rw[zAr] at h
 refine zAD Tryz.func26 (by rfl) (by rfl) (by simp) (by simp) (by simp)<|cutA 9 0 [(0,.sl (s1.map cS)),(1,.fn (.func 27) [] [])] [] ?_
 obtain⟨v2,q3,h⟩:=bs h
 refine cut 9 0 [(4,.bool (leI 0 v2))] [] ?_ ?_
 ·refine st ?_
  simp
  have r4:=zEh fuel s1 v2 q3
  try simp at r4
  refine cP r4 ?_
  simp
 refine zAC ?_
 cases h
 simp
theorem zKJ(fuel:Nat):(∀(k1:zLl)(depth2:Int)(c3:Int)(r:Int)(_:zBM fuel k1 depth2 c3=some r),Raw Tryz.prog 24 [.agg [.sl (k1.L.map zLl.c)],iI depth2,pT 0,pT 1] [[iI c3],[.fn (.func 24) [] [pT 0,pT 1]]] (.tup []) [[iI r],[.fn (.func 24) [] [pT 0,pT 1]]]):=by
 induction fuel with
 |zero=>intro k1 depth2 c3 r h;rw[zBM] at h;cases h
 |succ fuel zHZ=>
  intro k1 depth2 c3 r h
  rw[zBM] at h
  refine zBE Tryz.func24 (by rfl) (by rfl) (by simp) (by simp)<|cutA 37 2 [(1,iI depth2),(2,pT 0),(3,pT 1),(4,pT 2)] [[iI c3],[.fn (.func 24) [] [pT 0,pT 1]],[.sl (k1.L.map zLl.c)]] ?_
  obtain⟨n4,q5,h⟩:=bs h
  obtain⟨q6,q7⟩:=zBo q5
  have c8:=q6;simp only[Rng,inR] at c8
  refine cut 37 2 [(1,iI depth2),(2,pT 0),(3,pT 1),(4,pT 2)] [[iI n4],[.fn (.func 24) [] [pT 0,pT 1]],[.sl (k1.L.map zLl.c)]] (st (by simp[q6,q7]))<|zAA<|cut 37 2 [(1,iI depth2),(2,pT 0),(3,pT 1),(4,pT 2),(16,.bool ((ltI 20 depth2)||(ltI 10 k1.L.length)))] [[iI n4],[.fn (.func 24) [] [pT 0,pT 1]],[.sl (k1.L.map zLl.c)]] ?_ ?_
  ·rcases tf (ltI 20 depth2) with g9|g9
   ·refine st ?_
    simp[g9]
   refine st ?_
   simp[g9]
  rcases sp h with ⟨g12,h⟩|⟨g12,h⟩
  ·refine zEj rfl g12<|lastA 37 2 [(1,iI depth2),(2,pT 0),(3,pT 1),(4,pT 2)] [[iI 1000],[.fn (.func 24) [] [pT 0,pT 1]],[.sl (k1.L.map zLl.c)]]<|cutA 37 2 [(1,iI depth2),(2,pT 0),(3,pT 1),(4,pT 2),(6,iI 0)] [[iI 1000],[.fn (.func 24) [] [pT 0,pT 1]],[.sl (k1.L.map zLl.c)]]<|zAF ?_
   obtain⟨o15,l16,h⟩:=bs h
   refine zAq (fun p:Nat×Int×Nat=>mkS 37 2 [(1,iI depth2),(2,pT 0),(3,pT 1),(4,pT 2),(6,iI p.2.2)] [[iI p.2.1],[.fn (.func 24) [] [pT 0,pT 1]],[.sl (k1.L.map zLl.c)]]) (fun p=>zCh (zBM fuel) k1 depth2 p.1 p.2.1 p.2.2=some o15) (fun p=>p.1) (fuel,1000,0) l16 (zAc (by simp)) ?_
   rintro⟨k17,a13,i14⟩ l16
   try dsimp only at l16 ⊢
   cases k17 with
   |zero=>
    rw[zCh] at l16;cases l16
   |succ k18=>
    rw[zCh] at l16
    refine zAA<|cut 37 2 [(1,iI depth2),(2,pT 0),(3,pT 1),(4,pT 2),(6,iI i14),(25,.bool ((ltI i14 k1.L.length)&&(leI a13 400)))] [[iI a13],[.fn (.func 24) [] [pT 0,pT 1]],[.sl (k1.L.map zLl.c)]] ?_ ?_
    ·rcases tf (ltI i14 k1.L.length) with g19|g19
     ·refine zBk 2 0 rfl rfl rfl fun f21=>?_
      rw[zq4] at f21
      refine st ?_
      simp[g19]
     refine zBk 2 0 rfl rfl rfl fun f23=>?_
     rw[zq4] at f23
     refine st ?_
     simp[g19]
    rcases sp l16 with ⟨g24,l16⟩|⟨g24,l16⟩
    ·obtain⟨g25,g26⟩:=andT g24
     have c27:=ltT g25
     refine zEj rfl g24<|zBk 2 0 rfl rfl rfl fun f28=>?_
     rw[zq4] at f28
     refine zAB<|zAJ<|zAA<|zAF ?_
     obtain⟨x30,q31,l16⟩:=bs l16
     obtain⟨n32,q33,l16⟩:=bs l16
     obtain⟨q34,q35⟩:=zBo q33
     have c36:=q34;simp only[Rng,inR] at c36
     obtain⟨v37,q38,l16⟩:=bs l16
     refine last 37 2 [(1,iI depth2),(2,pT 0),(3,pT 1),(4,pT 2),(6,iI i14)] [[iI v37],[.fn (.func 24) [] [pT 0,pT 1]],[.sl (k1.L.map zLl.c)]] ?_ fun zz hs=>?_
     ·refine zAl [] [8] mixed (n:=37) rfl (by decide) (by decide) ?_
      simp[q31,q34,q35]
      have r40:=(zHZ x30 n32 a13 v37 q38).frame [0,1] [[iI a13],[.fn (.func 24) [] [pT 0,pT 1]],[.sl (k1.L.map zLl.c)]] (by simp)
      refine callX r40 (by simp[q31,q34,q35]) rfl ?_
      simp[q31,q34,q35]
     refine zDC<|zAj ?_ hs
     have q39:Rng .i64 (((i14:Nat):Int)+1):=by simp only[Rng,inR];omega
     try simp at q39
     refine last 37 2 [(1,iI depth2),(2,pT 0),(3,pT 1),(4,pT 2),(6,iI ((i14+1:Nat):Int))] [[iI v37],[.fn (.func 24) [] [pT 0,pT 1]],[.sl (k1.L.map zLl.c)]] (st (by simp[q39])) fun zz hs=>?_
     exact⟨(k18,v37,i14+1),hs,l16,by simp⟩
    refine zEt rfl g24<|zAW<|zAH ?_
    have q41:=zqa l16
    have q41:=q41.symm
    refine zAH<|zAX ?_
    cases h
    simp[q41]
  obtain⟨g42,g43⟩:=orF g12
  have c44:=ltF g42
  have c45:=ltF g43
  refine zEt rfl g12<|zBk 2 0 rfl rfl rfl fun f46=>?_
  rw[zq4] at f46
  refine zAB<|zAJ<|cutA 37 2 [(1,iI depth2),(2,pT 0),(3,pT 1),(4,pT 2),(6,iI 0)] [[iI n4],[.fn (.func 24) [] [pT 0,pT 1]],[.sl (k1.L.map zLl.c)]]<|zAF ?_
  obtain⟨o49,l50,h⟩:=bs h
  refine zAq (fun p:Nat×Int×Nat=>mkS 37 2 [(1,iI depth2),(2,pT 0),(3,pT 1),(4,pT 2),(6,iI p.2.2)] [[iI p.2.1],[.fn (.func 24) [] [pT 0,pT 1]],[.sl (k1.L.map zLl.c)]]) (fun p=>zCg (zBM fuel) k1 depth2 p.1 p.2.1 p.2.2=some o49) (fun p=>p.1) (fuel,n4,0) l50 (zAc (by simp)) ?_
  rintro⟨k51,a47,i48⟩ l50
  try dsimp only at l50 ⊢
  cases k51 with
  |zero=>
   rw[zCg] at l50;cases l50
  |succ k52=>
   rw[zCg] at l50
   refine zAA<|cut 37 2 [(1,iI depth2),(2,pT 0),(3,pT 1),(4,pT 2),(6,iI i48),(25,.bool ((ltI i48 k1.L.length)&&(leI a47 400)))] [[iI a47],[.fn (.func 24) [] [pT 0,pT 1]],[.sl (k1.L.map zLl.c)]] ?_ ?_
   ·rcases tf (ltI i48 k1.L.length) with g53|g53
    ·have c54:=ltT g53
     refine st ?_
     simp[g53]
    have c55:=ltF g53
    refine st ?_
    simp[g53]
   rcases sp l50 with ⟨g56,l50⟩|⟨g56,l50⟩
   ·obtain⟨g57,g58⟩:=andT g56
    have c59:=ltT g57
    have c60:=leT g58
    refine zEj rfl g56<|zAB<|zAJ<|zAA<|zAF ?_
    obtain⟨x61,q62,l50⟩:=bs l50
    obtain⟨n63,q64,l50⟩:=bs l50
    obtain⟨q65,q66⟩:=zBo q64
    try simp at q65
    try simp at q66
    have c67:=q65;simp only[Rng,inR] at c67
    obtain⟨v68,q69,l50⟩:=bs l50
    refine last 37 2 [(1,iI depth2),(2,pT 0),(3,pT 1),(4,pT 2),(6,iI i48)] [[iI v68],[.fn (.func 24) [] [pT 0,pT 1]],[.sl (k1.L.map zLl.c)]] ?_ fun zz hs=>?_
    ·refine zAl [] [8] mixed (n:=37) rfl (by decide) (by decide) ?_
     simp[q62,q65,q66]
     have r71:=(zHZ x61 n63 a47 v68 q69).frame [0,1] [[iI a47],[.fn (.func 24) [] [pT 0,pT 1]],[.sl (k1.L.map zLl.c)]] (by simp)
     try simp[q62,q65,q66] at r71
     refine callX r71 (by simp[q62,q65,q66]) rfl ?_
     simp[q62,q65,q66]
    refine zDC<|zAj ?_ hs
    have q70:Rng .i64 (((i48:Nat):Int)+1):=by simp only[Rng,inR];omega
    try simp at q70
    refine last 37 2 [(1,iI depth2),(2,pT 0),(3,pT 1),(4,pT 2),(6,iI ((i48+1:Nat):Int))] [[iI v68],[.fn (.func 24) [] [pT 0,pT 1]],[.sl (k1.L.map zLl.c)]] (st (by simp[q70])) fun zz hs=>?_
    exact⟨(k52,v68,i48+1),hs,l50,by simp⟩
   refine zEt rfl g56<|zAW<|zAH ?_
   have q72:=zqa l50
   have q72:=q72.symm
   refine zAH<|zAX ?_
   cases h
   simp[q72]
theorem zKI(fuel:Nat):(∀(c1:zLm)(depth2:Int)(c3:Int)(r:Int)(_:zCM fuel c1 depth2 c3=some r),Raw Tryz.prog 25 [.agg (zLm.d c1),iI depth2,pT 0,pT 1,pT 2] [[iI c3],[.fn (.func 24) [] [pT 0,pT 1]],[.fn (.func 25) [] [pT 0,pT 1,pT 2]]] (.tup []) [[iI r],[.fn (.func 24) [] [pT 0,pT 1]],[.fn (.func 25) [] [pT 0,pT 1,pT 2]]]):=by
 induction fuel with
 |zero=>intro c1 depth2 c3 r h;rw[zCM] at h;cases h
 |succ fuel zKN=>
  intro c1 depth2 c3 r h
  rw[zCM] at h
  refine zBE Tryz.func25 (by rfl) (by rfl) (by simp) (by simp)<|cutA 59 3 [(1,iI depth2),(2,pT 0),(3,pT 1),(4,pT 2),(5,pT 3)] [[iI c3],[.fn (.func 24) [] [pT 0,pT 1]],[.fn (.func 25) [] [pT 0,pT 1,pT 2]],(zLm.d c1)] ?_
  obtain⟨n4,q5,h⟩:=bs h
  obtain⟨q6,q7⟩:=zBo q5
  have c8:=q6;simp only[Rng,inR] at c8
  refine cut 59 3 [(1,iI depth2),(2,pT 0),(3,pT 1),(4,pT 2),(5,pT 3)] [[iI n4],[.fn (.func 24) [] [pT 0,pT 1]],[.fn (.func 25) [] [pT 0,pT 1,pT 2]],(zLm.d c1)] (st (by simp[q6,q7]))<|zAA ?_
  obtain⟨b29,q30,h⟩:=bs h
  refine cut 59 3 [(1,iI depth2),(2,pT 0),(3,pT 1),(4,pT 2),(5,pT 3),(34,.bool b29)] [[iI n4],[.fn (.func 24) [] [pT 0,pT 1]],[.fn (.func 25) [] [pT 0,pT 1,pT 2]],(zLm.d c1)] ?_ ?_
  ·rcases sp q30 with ⟨g9,q30⟩|⟨g9,q30⟩
   ·obtain rfl:=oi q30
    refine st ?_
    simp[g9]
   rcases sp q30 with ⟨g12,q30⟩|⟨g12,q30⟩
   ·refine zBk 3 5 rfl rfl rfl fun f14=>?_
    rw[zq4] at f14
    obtain rfl:=oi q30
    refine st ?_
    simp[g9,g12]
   refine zBk 3 5 rfl rfl rfl fun f16=>?_
   rw[zq4] at f16
   rcases sp q30 with ⟨g17,q30⟩|⟨g17,q30⟩
   ·refine zBk 3 4 rfl rfl rfl fun f19=>?_
    rw[zq4] at f19
    obtain rfl:=oi q30
    refine st ?_
    simp[g9,g12,g17]
   refine zBk 3 4 rfl rfl rfl fun f21=>?_
   rw[zq4] at f21
   rcases sp q30 with ⟨g22,q30⟩|⟨g22,q30⟩
   ·refine factCS 3 2 rfl rfl fun f24=>?_
    obtain rfl:=oi q30
    refine st ?_
    simp[g9,g12,g17,g22]
   refine factCS 3 2 rfl rfl fun f26=>?_
   obtain⟨v27,q28,q30⟩:=bs q30
   obtain rfl:=oi q30
   refine st ?_
   simp[g9,g12,g17,g22]
   have r64:=zEG fuel c1.Names v27 q28
   refine cP r64 ?_
   simp[g9,g12,g17,g22]
  refine spc h rfl (fun g31 h=>?_) fun g31 h=>?_
  ·refine cutA 59 3 [] [[iI 1000],[.fn (.func 24) [] [pT 0,pT 1]],[.fn (.func 25) [] [pT 0,pT 1,pT 2]],(zLm.d c1)]<|zAC<|zAE ?_
   cases h
   simp
  refine zAB<|zAJ ?_
  obtain⟨v32,q33,h⟩:=bs h
  refine cut 59 3 [(1,iI depth2),(2,pT 0),(4,pT 2),(5,pT 3)] [[iI v32],[.fn (.func 24) [] [pT 0,pT 1]],[.fn (.func 25) [] [pT 0,pT 1,pT 2]],(zLm.d c1)] ?_ ?_
  ·refine st ?_
   simp
   have r63:=(zKJ fuel c1.Kind 1 n4 v32 q33).frame [0,1] [[iI n4],[.fn (.func 24) [] [pT 0,pT 1]],[.fn (.func 25) [] [pT 0,pT 1,pT 2]],(zLm.d c1)] (by simp)
   refine zDX r63 (by simp) rfl ?_
   simp
  refine cutA 59 3 [(1,iI depth2),(2,pT 0),(4,pT 2),(5,pT 3),(7,iI 0)] [[iI v32],[.fn (.func 24) [] [pT 0,pT 1]],[.fn (.func 25) [] [pT 0,pT 1,pT 2]],(zLm.d c1)]<|zAF ?_
  obtain⟨o36,l37,h⟩:=bs h
  refine zAq (fun p:Nat×Int×Nat=>mkS 59 3 [(1,iI depth2),(2,pT 0),(4,pT 2),(5,pT 3),(7,iI p.2.2)] [[iI p.2.1],[.fn (.func 24) [] [pT 0,pT 1]],[.fn (.func 25) [] [pT 0,pT 1,pT 2]],(zLm.d c1)]) (fun p=>zCf (zCM fuel) c1 depth2 p.1 p.2.1 p.2.2=some o36) (fun p=>p.1) (fuel,v32,0) l37 (zAc (by simp)) ?_
  rintro⟨k38,a34,i35⟩ l37
  try dsimp only at l37 ⊢
  cases k38 with
  |zero=>
   rw[zCf] at l37;cases l37
  |succ k39=>
   rw[zCf] at l37
   refine zAA<|cut 59 3 [(1,iI depth2),(2,pT 0),(4,pT 2),(5,pT 3),(7,iI i35),(47,.bool ((ltI i35 c1.L.length)&&(leI a34 400)))] [[iI a34],[.fn (.func 24) [] [pT 0,pT 1]],[.fn (.func 25) [] [pT 0,pT 1,pT 2]],(zLm.d c1)] ?_ ?_
   ·rcases tf (ltI i35 c1.L.length) with g40|g40
    ·refine zBk 3 5 rfl rfl rfl fun f42=>?_
     rw[zq4] at f42
     refine st ?_
     simp[g40]
    have c43:=ltF g40
    refine zBk 3 5 rfl rfl rfl fun f44=>?_
    rw[zq4] at f44
    refine st ?_
    simp[g40]
   rcases sp l37 with ⟨g45,l37⟩|⟨g45,l37⟩
   ·obtain⟨g46,g47⟩:=andT g45
    have c48:=ltT g46
    have c50:=leT g47
    refine zEj rfl g45<|zBk 3 5 rfl rfl rfl fun f49=>?_
    rw[zq4] at f49
    refine zAB<|zAJ<|zAA<|zAF ?_
    obtain⟨x51,q52,l37⟩:=bs l37
    obtain⟨n53,q54,l37⟩:=bs l37
    obtain⟨q55,q56⟩:=zBo q54
    try simp at q55
    try simp at q56
    have c57:=q55;simp only[Rng,inR] at c57
    obtain⟨v58,q59,l37⟩:=bs l37
    refine last 59 3 [(1,iI depth2),(2,pT 0),(4,pT 2),(5,pT 3),(7,iI i35)] [[iI v58],[.fn (.func 24) [] [pT 0,pT 1]],[.fn (.func 25) [] [pT 0,pT 1,pT 2]],(zLm.d c1)] ?_ fun zz hs=>?_
    ·refine zAl [] [8] mixed (n:=59) rfl (by decide) (by decide) ?_
     simp[q52,q55,q56]
     have r61:=(zKN x51 n53 a34 v58 q59).frame [0,1,2] [[iI a34],[.fn (.func 24) [] [pT 0,pT 1]],[.fn (.func 25) [] [pT 0,pT 1,pT 2]],(zLm.d c1)] (by simp)
     try simp[q52,q55,q56] at r61
     refine callX r61 (by simp[q52,q55,q56]) rfl ?_
     simp[q52,q55,q56]
    refine zDC<|zAj ?_ hs
    have q60:Rng .i64 (((i35:Nat):Int)+1):=by simp only[Rng,inR];omega
    try simp at q60
    refine last 59 3 [(1,iI depth2),(2,pT 0),(4,pT 2),(5,pT 3),(7,iI ((i35+1:Nat):Int))] [[iI v58],[.fn (.func 24) [] [pT 0,pT 1]],[.fn (.func 25) [] [pT 0,pT 1,pT 2]],(zLm.d c1)] (st (by simp[q60])) fun zz hs=>?_
    exact⟨(k39,v58,i35+1),hs,l37,by simp⟩
   refine zEt rfl g45<|zAW<|zAH ?_
   have q62:=zqa l37
   have q62:=q62.symm
   refine zAH<|zAX ?_
   cases h
   simp[q62]
theorem law20_wide_ok(fuel:Nat)(c1:zLm)(r:Bool)(h:zEW fuel c1=some r):Pure Tryz.prog 7 [.agg (zLm.d c1)] (.bool r):=by
 rw[zEW] at h
 refine zAD Tryz.func7 (by rfl) (by rfl) (by simp) (by simp) (by simp)<|cutA 13 0 [(1,pT 0)] [(zLm.d c1)]<|cutA 13 0 [(1,pT 0),(3,pT 1)] [(zLm.d c1),[iI 0]]<|cutA 13 0 [(1,pT 0),(3,pT 1),(4,pT 2)] [(zLm.d c1),[iI 0],[.nilfn]]<|cutA 13 0 [(1,pT 0),(3,pT 1),(4,pT 2)] [(zLm.d c1),[iI 0],[.fn (.func 24) [] [pT 1,pT 2]]]<|cutA 13 0 [(1,pT 0),(3,pT 1),(4,pT 2),(5,pT 3)] [(zLm.d c1),[iI 0],[.fn (.func 24) [] [pT 1,pT 2]],[.nilfn]]<|cutA 13 0 [(1,pT 0),(3,pT 1),(5,pT 3)] [(zLm.d c1),[iI 0],[.fn (.func 24) [] [pT 1,pT 2]],[.fn (.func 25) [] [pT 1,pT 2,pT 3]]] ?_
 obtain⟨v2,q3,h⟩:=bs h
 refine cut 13 0 [(3,pT 1)] [(zLm.d c1),[iI v2],[.fn (.func 24) [] [pT 1,pT 2]],[.fn (.func 25) [] [pT 1,pT 2,pT 3]]] ?_ ?_
 ·refine st ?_
  simp
  have r4:=(zKI fuel c1 1 0 v2 q3).frame [1,2,3] [(zLm.d c1),[iI 0],[.fn (.func 24) [] [pT 1,pT 2]],[.fn (.func 25) [] [pT 1,pT 2,pT 3]]] (by simp)
  try simp at r4
  refine zDX r4 (by simp) rfl ?_
  simp
 refine cutA 13 0 [(2,.bool (ltI 400 v2))] [(zLm.d c1),[iI v2],[.fn (.func 24) [] [pT 1,pT 2]],[.fn (.func 25) [] [pT 1,pT 2,pT 3]]]<|zAC ?_
 cases h
 simp
theorem zGz(fuel:Nat)(l1:(List (List UInt8)))(s2:(List UInt8))(r:Int)(h:zCe fuel l1 s2=some r):Pure Tryz.prog 34 [.sl (l1.map cS),.str s2] (iI r):=by
 rw[zCe] at h
 refine zAD Tryz.func34 (by rfl) (by rfl) (by simp) (by simp) (by simp)<|cutA 19 0 [(0,.sl (l1.map cS)),(1,.str s2)] []<|zAA<|cutA 19 0 [(0,.sl (l1.map cS)),(1,.str s2),(5,iI 0)] []<|zAF ?_
 obtain⟨o5,l6,h⟩:=bs h
 refine zAq (fun p:Nat×Nat=>mkS 19 0 [(0,.sl (l1.map cS)),(1,.str s2),(5,iI p.2)] []) (fun p=>zBp l1 s2 p.1 p.2=some o5) (fun p=>p.1) (fuel,0) l6 (zAc (by simp)) ?_
 rintro⟨k7,i3⟩ l6
 try dsimp only at l6 ⊢
 cases k7 with
 |zero=>
  rw[zBp] at l6;cases l6
 |succ k8=>
  rw[zBp] at l6
  refine zAA<|cutA 19 0 [(0,.sl (l1.map cS)),(1,.str s2),(5,iI i3),(9,.bool (ltI i3 l1.length))] []<|spc l6 rfl (fun g9 l6=>?_) fun g9 l6=>?_
  ·have c10:=ltT g9
   refine zC5 0 rfl fun f11=>?_
   rw[zq4] at f11
   refine zAB<|zAJ<|zAA<|zAF ?_
   obtain⟨x12,q13,l6⟩:=bs l6
   refine cut 19 0 [(0,.sl (l1.map cS)),(1,.str s2),(5,iI i3),(17,.bool (eqS x12 s2))] [] (st (by simp[q13]))<|spc l6 rfl (fun g14 l6=>?_) fun g14 l6=>?_
   ·refine cutA 19 0 [(4,iI i3)] []<|zAC<|zAR<|zAE ?_
    replace h:=retL l6 h
    refine zAE<|zAR<|zAE ?_
    cases h
    simp
   refine zAB<|zDC<|zAJ ?_
   have q15:Rng .i64 (((i3:Nat):Int)+1):=by simp only[Rng,inR];omega
   try simp at q15
   refine last 19 0 [(0,.sl (l1.map cS)),(1,.str s2),(5,iI ((i3+1:Nat):Int))] [] (st (by simp[q15])) fun zz hs=>?_
   exact⟨(k8,i3+1),hs,l6,by simp⟩
  have c16:=ltF g9
  refine zC5 0 rfl fun f17=>?_
  rw[zq4] at f17
  refine zAW<|zAH ?_
  rcases o5 with o5|o4
  ·cases l6
  have q18:=Sum.inr.inj (zqa l6)
  replace h:=zHa h
  refine zAH<|zAX<|zAj (t:=mkS 19 0 [] []) ?_ (zAc (by simp))
  refine cutA 19 0 [(4,iI (-1))] []<|zAC ?_
  cases h
  simp
theorem zEA(c1:UInt8)(r:Bool)(h:zD4 c1=some r):Pure Tryz.prog 155 [.int .u8 c1.toNat] (.bool r):=by
 rw[zD4] at h
 refine zAD Tryz.func155 (by rfl) (by rfl) (by simp) (by simp) (by simp)<|cutA 9 0 [(0,.int .u8 c1.toNat)] []<|cut 9 0 [(2,.bool ((leI 97 c1.toNat)&&(leI c1.toNat 122)))] [] ?_ ?_
 ·rcases tf (leI 97 c1.toNat) with g2|g2
  ·have c3:=leT g2
   refine st ?_
   simp[g2]
  have c4:=leF g2
  refine st ?_
  simp[g2]
 refine zAC ?_
 cases h
 simp
theorem zEo(c1:UInt8)(r:Bool)(h:zDQ c1=some r):Pure Tryz.prog 157 [.int .u8 c1.toNat] (.bool r):=by
 rw[zDQ] at h
 refine zAD Tryz.func157 (by rfl) (by rfl) (by simp) (by simp) (by simp)<|cutA 9 0 [(0,.int .u8 c1.toNat)] []<|cut 9 0 [(2,.bool ((leI 65 c1.toNat)&&(leI c1.toNat 90)))] [] ?_ ?_
 ·rcases tf (leI 65 c1.toNat) with g2|g2
  ·have c3:=leT g2
   refine st ?_
   simp[g2]
  have c4:=leF g2
  refine st ?_
  simp[g2]
 refine zAC ?_
 cases h
 simp
theorem zGY(c1:UInt8)(r:Bool)(h:zD5 c1=some r):Pure Tryz.prog 190 [.int .u8 c1.toNat] (.bool r):=by
 rw[zD5] at h
 refine zAD Tryz.func190 (by rfl) (by rfl) (by simp) (by simp) (by simp)<|cutA 9 0 [(0,.int .u8 c1.toNat)] []<|cut 9 0 [(2,.bool ((leI 48 c1.toNat)&&(leI c1.toNat 57)))] [] ?_ ?_
 ·rcases tf (leI 48 c1.toNat) with g2|g2
  ·have c3:=leT g2
   refine st ?_
   simp[g2]
  have c4:=leF g2
  refine st ?_
  simp[g2]
 refine zAC ?_
 cases h
 simp
theorem zGX(c1:UInt8)(r:Bool)(h:zDE c1=some r):Pure Tryz.prog 189 [.int .u8 c1.toNat] (.bool r):=by
 rw[zDE] at h
 refine zAD Tryz.func189 (by rfl) (by rfl) (by simp) (by simp) (by simp)<|cutA 17 0 [(0,.int .u8 c1.toNat)] [] ?_
 obtain⟨b11,q12,h⟩:=bs h
 refine cut 17 0 [(2,.bool b11)] [] ?_ ?_
 ·obtain⟨v2,q3,q12⟩:=bs q12
  rcases sp q12 with ⟨g4,q12⟩|⟨g4,q12⟩
  ·obtain rfl:=oi q12
   refine st ?_
   simp[g4]
   have r13:=zEA c1 v2 q3
   try simp[g4] at r13
   refine cP r13 ?_
   simp[g4]
  obtain⟨v5,q6,q12⟩:=bs q12
  rcases sp q12 with ⟨g7,q12⟩|⟨g7,q12⟩
  ·obtain rfl:=oi q12
   refine st ?_
   simp[g4,g7]
   have r14:=zEA c1 v2 q3
   try simp[g4,g7] at r14
   refine cP r14 ?_
   simp[g4,g7]
   have r15:=zEo c1 v5 q6
   try simp[g4,g7] at r15
   refine cP r15 ?_
   simp[g4,g7]
  obtain⟨v8,q9,q12⟩:=bs q12
  rcases sp q12 with ⟨g10,q12⟩|⟨g10,q12⟩
  ·obtain rfl:=oi q12
   have g4x:=g4
   try simp only[g7,g10] at g4x
   have g7x:=g7
   try simp only[g4,g10] at g7x
   have g10x:=g10
   try simp only[g4,g7] at g10x
   refine zAy<|WL.cut 2 17 0 [(0,.int .u8 c1.toNat),(4,.bool v2)] [] ?_ ?_
   ·simp[g4,g7,g10,g4x,g7x,g10x]
    have r16:=zEA c1 v2 q3
    try simp[g4,g7,g10,g4x,g7x,g10x] at r16
    refine cP r16 ?_
    simp[g4,g7,g10,g4x,g7x,g10x]
   refine WL.cut 3 17 0 [(0,.int .u8 c1.toNat),(5,.bool v2),(7,.bool v5)] [] ?_ ?_
   ·simp[g4,g7,g10,g4x,g7x,g10x]
    have r17:=zEo c1 v5 q6
    try simp[g4,g7,g10,g4x,g7x,g10x] at r17
    refine cP r17 ?_
    simp[g4,g7,g10,g4x,g7x,g10x]
   refine WL.cut 4 17 0 [(0,.int .u8 c1.toNat),(9,.bool v5),(11,.bool v8)] [] ?_ ?_
   ·simp[g4,g7,g10,g4x,g7x,g10x]
    have r18:=zGY c1 v8 q9
    try simp[g4,g7,g10,g4x,g7x,g10x] at r18
    refine cP r18 ?_
    simp[g4,g7,g10,g4x,g7x,g10x]
   refine WL.last ?_
   simp[g4,g7,g10,g4x,g7x,g10x]
  obtain rfl:=oi q12
  have g4x:=g4
  try simp only[g7,g10] at g4x
  have g7x:=g7
  try simp only[g4,g10] at g7x
  have g10x:=g10
  try simp only[g4,g7] at g10x
  refine zAy<|WL.cut 2 17 0 [(0,.int .u8 c1.toNat),(4,.bool v2)] [] ?_ ?_
  ·simp[g4,g7,g10,g4x,g7x,g10x]
   have r19:=zEA c1 v2 q3
   try simp[g4,g7,g10,g4x,g7x,g10x] at r19
   refine cP r19 ?_
   simp[g4,g7,g10,g4x,g7x,g10x]
  refine WL.cut 3 17 0 [(0,.int .u8 c1.toNat),(5,.bool v2),(7,.bool v5)] [] ?_ ?_
  ·simp[g4,g7,g10,g4x,g7x,g10x]
   have r20:=zEo c1 v5 q6
   try simp[g4,g7,g10,g4x,g7x,g10x] at r20
   refine cP r20 ?_
   simp[g4,g7,g10,g4x,g7x,g10x]
  refine WL.cut 4 17 0 [(0,.int .u8 c1.toNat),(9,.bool v5),(11,.bool v8)] [] ?_ ?_
  ·simp[g4,g7,g10,g4x,g7x,g10x]
   have r21:=zGY c1 v8 q9
   try simp[g4,g7,g10,g4x,g7x,g10x] at r21
   refine cP r21 ?_
   simp[g4,g7,g10,g4x,g7x,g10x]
  refine WL.last ?_
  simp[g4,g7,g10,g4x,g7x,g10x]
 refine zAC ?_
 cases h
 simp
theorem zK7(fuel:Nat)(s1:(List UInt8))(r:Bool)(h:zFN fuel s1=some r):Pure Tryz.prog 188 [.str s1] (.bool r):=by
 rw[zFN] at h
 refine zAD Tryz.func188 (by rfl) (by rfl) (by simp) (by simp) (by simp)<|cutA 15 0 [(0,.str s1)] []<|zAA<|cutA 15 0 [(0,.str s1),(3,iI 0)] []<|zAF ?_
 obtain⟨o4,l5,h⟩:=bs h
 refine zAq (fun p:Nat×Nat=>mkS 15 0 [(0,.str s1),(3,iI p.2)] []) (fun p=>zCT s1 p.1 p.2=some o4) (fun p=>p.1) (fuel,0) l5 (zAc (by simp)) ?_
 rintro⟨k6,i2⟩ l5
 try dsimp only at l5 ⊢
 cases k6 with
 |zero=>
  rw[zCT] at l5;cases l5
 |succ k7=>
  rw[zCT] at l5
  refine zAA<|cutA 15 0 [(0,.str s1),(3,iI i2),(7,.bool (ltI i2 s1.length))] []<|spc l5 rfl (fun g8 l5=>?_) fun g8 l5=>?_
  ·have c9:=ltT g8
   refine zKP 0 rfl fun f10=>?_
   refine zAB<|zAJ<|zAA<|zAF ?_
   obtain⟨c11,q12,l5⟩:=bs l5
   obtain⟨v13,q14,l5⟩:=bs l5
   refine cut 15 0 [(0,.str s1),(3,iI i2),(14,.bool (!v13))] [] ?_ ?_
   ·refine st ?_
    simp[q12]
    have r19:=zGX c11 v13 q14
    try simp[q12] at r19
    refine cP r19 ?_
    simp[q12]
   refine spc l5 rfl (fun g15 l5=>?_) fun g15 l5=>?_
   ·have g16:=notT g15
    refine cutA 15 0 [(2,.bool false)] []<|zAC<|zAR<|zAE ?_
    replace h:=retL l5 h
    refine zAE<|zAR<|zAE ?_
    cases h
    simp
   have g17:=notF g15
   refine zAB<|zDC<|zAJ ?_
   have q18:Rng .i64 (((i2:Nat):Int)+1):=by simp only[Rng,inR];omega
   try simp at q18
   refine last 15 0 [(0,.str s1),(3,iI ((i2+1:Nat):Int))] [] (st (by simp[q18])) fun zz hs=>?_
   exact⟨(k7,i2+1),hs,l5,by simp⟩
  have c20:=ltF g8
  refine zKP 0 rfl fun f21=>?_
  refine zAW<|zAH ?_
  rcases o4 with o4|o3
  ·cases l5
  have q22:=Sum.inr.inj (zqa l5)
  replace h:=zHa h
  refine zAH<|zAX<|zAj (t:=mkS 15 0 [] []) ?_ (zAc (by simp))
  refine cutA 15 0 [(2,.bool true)] []<|zAC ?_
  cases h
  simp
theorem zFG(fuel:Nat)(s1:(List UInt8))(r:Bool)(h:zE8 fuel s1=some r):Pure Tryz.prog 154 [.str s1] (.bool r):=by
 rw[zE8] at h
 refine zAD Tryz.func154 (by rfl) (by rfl) (by simp) (by simp) (by simp)<|cutA 15 0 [(0,.str s1)] [] ?_
 obtain⟨b12,q13,h⟩:=bs h
 refine cut 15 0 [(2,.bool b12)] [] ?_ ?_
 ·rcases sp q13 with ⟨g2,q13⟩|⟨g2,q13⟩
  ·have c3:=leT g2
   refine zKP 0 rfl fun f4=>?_
   rcases sp q13 with ⟨g5,q13⟩|⟨g5,q13⟩
   ·have c6:=leT g5
    obtain⟨v7,q8,q13⟩:=bs q13
    obtain rfl:=oi q13
    refine st ?_
    simp[g2,g5]
    have r14:=zK7 fuel s1 v7 q8
    try simp[g2,g5] at r14
    refine cP r14 ?_
    simp[g2,g5]
   have c9:=leF g5
   obtain rfl:=oi q13
   refine st ?_
   simp[g2,g5]
  have c10:=leF g2
  refine zKP 0 rfl fun f11=>?_
  obtain rfl:=oi q13
  refine st ?_
  simp[g2]
 refine zAC ?_
 cases h
 simp
theorem ref01_Keys_ok(r:(List (List UInt8)))(h:zFq=some r):Pure Tryz.prog 156 [] (.sl (r.map cS)):=by
 rw[zFq] at h
 refine zAD Tryz.func156 (by rfl) (by rfl) (by simp) (by simp) (by simp)<|cutA 2 0 [] [] ?_
 obtain⟨l1,q2,h⟩:=bs h
 obtain⟨q3,q4⟩:=lit_ok q2
 refine cut 2 0 [(0,.osl ⟨1,9⟩ (l1.map cS))] [] (st (by simp[q3,q4]))<|zAC ?_
 cases h
 simp
theorem zGy(fuel:Nat)(s1:(List UInt8))(r:Bool)(h:zEK fuel s1=some r):Pure Tryz.prog 107 [.str s1] (.bool r):=by
 rw[zEK] at h
 refine zAD Tryz.func107 (by rfl) (by rfl) (by simp) (by simp) (by simp)<|cutA 16 0 [(0,.str s1)] [] ?_
 obtain⟨b14,q15,h⟩:=bs h
 refine cut 16 0 [(2,.bool b14)] [] ?_ ?_
 ·obtain⟨v2,q3,q15⟩:=bs q15
  rcases sp q15 with ⟨g4,q15⟩|⟨g4,q15⟩
  ·obtain⟨c5,q6,q15⟩:=bs q15
   obtain⟨v7,q8,q15⟩:=bs q15
   rcases sp q15 with ⟨g9,q15⟩|⟨g9,q15⟩
   ·obtain⟨v10,q11,q15⟩:=bs q15
    obtain⟨v12,q13,q15⟩:=bs q15
    obtain rfl:=oi q15
    have g4x:=g4
    try simp only[g9] at g4x
    have g9x:=g9
    try simp only[g4] at g9x
    refine zAy<|WL.cut 2 16 0 [(0,.str s1),(4,.bool v2)] [] ?_ ?_
    ·simp[g4,q6,g9,g4x,g9x]
     have r16:=zFG fuel s1 v2 q3
     try simp[g4,q6,g9,g4x,g9x] at r16
     refine cP r16 ?_
     simp[g4,q6,g9,g4x,g9x]
    refine WL.cut 4 16 0 [(0,.str s1),(5,.bool v2),(8,.bool v7)] [] ?_ ?_
    ·simp[g4,q6,g9,g4x,g9x]
     have r17:=zEA c5 v7 q8
     try simp[g4,q6,g9,g4x,g9x] at r17
     refine cP r17 ?_
     simp[g4,q6,g9,g4x,g9x]
    refine WL.cut 3 16 0 [(0,.str s1),(10,.bool v7),(11,.sl (v10.map cS))] [] ?_ ?_
    ·simp[g4,q6,g9,g4x,g9x]
     have r18:=ref01_Keys_ok v10 q11
     try simp[g4,q6,g9,g4x,g9x] at r18
     refine cP r18 ?_
     simp[g4,q6,g9,g4x,g9x]
    refine WL.cut 2 16 0 [(10,.bool v7),(13,iI v12)] [] ?_ ?_
    ·simp[g4,q6,g9,g4x,g9x]
     have r19:=zGz fuel v10 s1 v12 q13
     try simp[g4,q6,g9,g4x,g9x] at r19
     refine cP r19 ?_
     simp[g4,q6,g9,g4x,g9x]
    refine WL.last ?_
    simp[g4,q6,g9,g4x,g9x]
   obtain rfl:=oi q15
   refine st ?_
   simp[g4,q6,g9]
   have r20:=zFG fuel s1 v2 q3
   try simp[g4,q6,g9] at r20
   refine cP r20 ?_
   simp[g4,q6,g9]
   have r21:=zEA c5 v7 q8
   try simp[g4,q6,g9] at r21
   refine cP r21 ?_
   simp[g4,q6,g9]
  obtain rfl:=oi q15
  refine st ?_
  simp[g4]
  have r22:=zFG fuel s1 v2 q3
  try simp[g4] at r22
  refine cP r22 ?_
  simp[g4]
 refine zAC ?_
 cases h
 simp
theorem zEn(fuel:Nat)(s1:(List UInt8))(r:Bool)(h:zDP fuel s1=some r):Pure Tryz.prog 108 [.str s1] (.bool r):=by
 rw[zDP] at h
 refine zAD Tryz.func108 (by rfl) (by rfl) (by simp) (by simp) (by simp)<|cutA 10 0 [(0,.str s1)] [] ?_
 obtain⟨b9,q10,h⟩:=bs h
 refine cut 10 0 [(2,.bool b9)] [] ?_ ?_
 ·obtain⟨v2,q3,q10⟩:=bs q10
  rcases sp q10 with ⟨g4,q10⟩|⟨g4,q10⟩
  ·obtain⟨c5,q6,q10⟩:=bs q10
   obtain⟨v7,q8,q10⟩:=bs q10
   obtain rfl:=oi q10
   refine st ?_
   simp[g4,q6]
   have r11:=zFG fuel s1 v2 q3
   try simp[g4,q6] at r11
   refine cP r11 ?_
   simp[g4,q6]
   have r12:=zEo c5 v7 q8
   try simp[g4,q6] at r12
   refine cP r12 ?_
   simp[g4,q6]
  obtain rfl:=oi q10
  refine st ?_
  simp[g4]
  have r13:=zFG fuel s1 v2 q3
  try simp[g4] at r13
  refine cP r13 ?_
  simp[g4]
 refine zAC ?_
 cases h
 simp
theorem ref20_node_ok(fuel:Nat)(p1:zLn)(r:Bool)(h:zFl fuel p1=some r):Pure Tryz.prog 63 [.agg (zLn.d p1)] (.bool r):=by
 rw[zFl] at h
 refine zAD Tryz.func63 (by rfl) (by rfl) (by simp) (by simp) (by simp)<|cutA 84 0 [(1,pT 0)] [(zLn.d p1)]<|zAA<|cut 84 0 [(1,pT 0),(25,.bool (if !(eqI p1.N 0) then (!(eqI p1.Op 3))||((!(eqS p1.S ([]:List UInt8)))&&((!(eqI p1.Op 2))&&(!(eqI p1.Op 4)))) else (!(eqS p1.S ([]:List UInt8)))&&((!(eqI p1.Op 2))&&(!(eqI p1.Op 4)))))] [(zLn.d p1)] ?_ ?_
 ·rcases tf (!(eqI p1.N 0)) with g2|g2
  ·have g3:=notT g2
   rcases tf (!(eqI p1.Op 3)) with g5|g5
   ·have g6:=notT g5
    refine st ?_
    simp[g2,g5]
   have g8:=notF g5
   rcases tf (!(eqS p1.S ([]:List UInt8))) with g10|g10
   ·rcases tf (!(eqI p1.Op 2)) with g12|g12
    ·have g13:=notT g12
     refine st ?_
     simp[g2,g5,g10,g12]
    have g15:=notF g12
    refine st ?_
    simp[g2,g5,g10,g12]
   refine st ?_
   simp[g2,g5,g10]
  have g18:=notF g2
  rcases tf (!(eqS p1.S ([]:List UInt8))) with g20|g20
  ·rcases tf (!(eqI p1.Op 2)) with g22|g22
   ·have g23:=notT g22
    refine st ?_
    simp[g2,g20,g22]
   have g25:=notF g22
   refine st ?_
   simp[g2,g20,g22]
  refine st ?_
  simp[g2,g20]
 refine spc h rfl (fun g28 h=>?_) fun g28 h=>?_
 ·refine cutA 84 0 [(2,.bool false)] [(zLn.d p1)]<|zAC<|zAE ?_
  cases h
  simp
 refine zAB<|zAJ<|zAA<|cutA 84 0 [(1,pT 0),(27,iI p1.Op)] [(zLn.d p1)]<|zAF<|cutA 84 0 [(1,pT 0),(27,iI p1.Op),(28,.bool (eqI p1.Op 1))] [(zLn.d p1)]<|spc h rfl (fun g29 h=>?_) fun g29 h=>?_
 ·refine cutA 84 0 [(2,.bool (eqI p1.L.length 0))] [(zLn.d p1)]<|zAC<|zAR<|zAE ?_
  cases h
  simp
 refine cutA 84 0 [(1,pT 0),(27,iI p1.Op),(34,.bool (eqI p1.Op 2))] [(zLn.d p1)]<|spc h rfl (fun g32 h=>?_) fun g32 h=>?_
 ·obtain⟨b37,q38,h⟩:=bs h
  refine cut 84 0 [(2,.bool b37)] [(zLn.d p1)] ?_ ?_
  ·obtain⟨v34,q35,q38⟩:=bs q38
   rcases sp q38 with ⟨g36,q38⟩|⟨g36,q38⟩
   ·obtain rfl:=oi q38
    refine st ?_
    simp[g36]
    have r39:=zGy fuel p1.S v34 q35
    refine cP r39 ?_
    simp[g36]
   obtain rfl:=oi q38
   refine st ?_
   simp[g36]
   have r40:=zGy fuel p1.S v34 q35
   refine cP r40 ?_
   simp[g36]
  refine zAC<|zAR<|zAE ?_
  cases h
  simp
 refine cutA 84 0 [(1,pT 0),(27,iI p1.Op),(45,.bool (eqI p1.Op 3))] [(zLn.d p1)]<|spc h rfl (fun g42 h=>?_) fun g42 h=>?_
 ·refine cut 84 0 [(2,.bool ((leI (-4503599627370496) p1.N)&&((leI p1.N 4503599627370496)&&(eqI p1.L.length 0))))] [(zLn.d p1)] ?_ ?_
  ·rcases tf (leI (-4503599627370496) p1.N) with g44|g44
   ·rcases tf (leI p1.N 4503599627370496) with g46|g46
    ·refine st ?_
     simp[g44,g46]
    refine st ?_
    simp[g44,g46]
   refine st ?_
   simp[g44]
  refine zAC<|zAR<|zAE ?_
  cases h
  simp
 refine cutA 84 0 [(1,pT 0),(27,iI p1.Op),(61,.bool (eqI p1.Op 4))] [(zLn.d p1)]<|spc h rfl (fun g51 h=>?_) fun g51 h=>?_
 ·obtain⟨b56,q57,h⟩:=bs h
  refine cut 84 0 [(2,.bool b56)] [(zLn.d p1)] ?_ ?_
  ·obtain⟨v53,q54,q57⟩:=bs q57
   rcases sp q57 with ⟨g55,q57⟩|⟨g55,q57⟩
   ·obtain rfl:=oi q57
    refine st ?_
    simp[g55]
    have r58:=zEn fuel p1.S v53 q54
    refine cP r58 ?_
    simp[g55]
   obtain rfl:=oi q57
   refine st ?_
   simp[g55]
   have r59:=zEn fuel p1.S v53 q54
   refine cP r59 ?_
   simp[g55]
  refine zAC<|zAR<|zAE ?_
  cases h
  simp
 refine cutA 84 0 [(1,pT 0),(72,.bool (eqI p1.Op 5))] [(zLn.d p1)]<|spc h rfl (fun g61 h=>?_) fun g61 h=>?_
 ·refine cut 84 0 [(2,.bool ((!(eqI p1.L.length 1))&&(leI p1.L.length 9)))] [(zLn.d p1)] ?_ ?_
  ·rcases tf (!(eqI p1.L.length 1)) with g63|g63
   ·have g64:=notT g63
    refine st ?_
    simp[g63]
   have g66:=notF g63
   refine st ?_
   simp[g63]
  refine zAC<|zAR<|zAE ?_
  cases h
  simp
 refine zAB<|zDC<|zAJ<|cutA 84 0 [(2,.bool false)] [(zLn.d p1)]<|zAC ?_
 cases h
 simp
theorem zK0(fuel:Nat):(∀(p1:zLn)(left2:Int)(depth3:Int)(r:Int)(_:zCn fuel p1 left2 depth3=some r),Pure Tryz.prog 32 [.agg (zLn.d p1),iI left2,iI depth3] (iI r)):=by
 induction fuel with
 |zero=>intro p1 left2 depth3 r h;rw[zCn] at h;cases h
 |succ fuel zLN=>
  intro p1 left2 depth3 r h
  rw[zCn] at h
  refine zAD Tryz.func32 (by rfl) (by rfl) (by simp) (by simp) (by simp)<|cutA 42 0 [(1,iI left2),(2,iI depth3),(3,pT 0)] [(zLn.d p1)]<|zAA ?_
  obtain⟨b12,q13,h⟩:=bs h
  refine cut 42 0 [(1,iI left2),(2,iI depth3),(3,pT 0),(18,.bool b12)] [(zLn.d p1)] ?_ ?_
  ·rcases sp q13 with ⟨g4,q13⟩|⟨g4,q13⟩
   ·have c5:=ltT g4
    obtain rfl:=oi q13
    refine st ?_
    simp[g4]
   have c6:=ltF g4
   rcases sp q13 with ⟨g7,q13⟩|⟨g7,q13⟩
   ·have c8:=ltT g7
    obtain rfl:=oi q13
    refine st ?_
    simp[g4,g7]
   have c9:=ltF g7
   obtain⟨v10,q11,q13⟩:=bs q13
   obtain rfl:=oi q13
   refine st ?_
   simp[g4,g7]
   have r49:=ref20_node_ok fuel p1 v10 q11
   try simp[g4,g7] at r49
   refine cP r49 ?_
   simp[g4,g7]
  refine spc h rfl (fun g14 h=>?_) fun g14 h=>?_
  ·refine cutA 42 0 [(6,iI (-1))] [(zLn.d p1)]<|zAC<|zAE ?_
   cases h
   simp
  refine zAB<|zAJ ?_
  obtain⟨n15,q16,h⟩:=bs h
  obtain⟨q17,q18⟩:=zBo q16
  try simp at q17
  try simp at q18
  have c19:=q17;simp only[Rng,inR] at c19
  refine cut 42 0 [(1,iI n15),(2,iI depth3),(3,pT 0)] [(zLn.d p1)] (st (by simp[q17,q18]))<|zAA<|cutA 42 0 [(1,iI n15),(2,iI depth3),(3,pT 0),(7,iI 0)] [(zLn.d p1)]<|zAF ?_
  obtain⟨o22,l23,h⟩:=bs h
  refine zAq (fun p:Nat×Int×Nat=>mkS 42 0 [(1,iI p.2.1),(2,iI depth3),(3,pT 0),(7,iI p.2.2)] [(zLn.d p1)]) (fun p=>zBx (zCn fuel) p1 depth3 p.1 p.2.1 p.2.2=some o22) (fun p=>p.1) (fuel,n15,0) l23 (zAc (by simp)) ?_
  rintro⟨k24,left20,i21⟩ l23
  try dsimp only at l23 ⊢
  cases k24 with
  |zero=>
   rw[zBx] at l23;cases l23
  |succ k25=>
   rw[zBx] at l23
   refine zAA<|cut 42 0 [(1,iI left20),(2,iI depth3),(3,pT 0),(7,iI i21),(29,.bool ((ltI i21 p1.L.length)&&(leI 0 left20)))] [(zLn.d p1)] ?_ ?_
   ·rcases tf (ltI i21 p1.L.length) with g26|g26
    ·have c27:=ltT g26
     refine zBk 0 3 rfl rfl rfl fun f28=>?_
     rw[zq4] at f28
     refine st ?_
     simp[g26]
    have c29:=ltF g26
    refine zBk 0 3 rfl rfl rfl fun f30=>?_
    rw[zq4] at f30
    refine st ?_
    simp[g26]
   rcases sp l23 with ⟨g31,l23⟩|⟨g31,l23⟩
   ·obtain⟨g32,g33⟩:=andT g31
    have c34:=ltT g32
    have c36:=leT g33
    refine zEj rfl g31<|zBk 0 3 rfl rfl rfl fun f35=>?_
    rw[zq4] at f35
    refine zAB<|zAJ<|zAA<|zAF ?_
    obtain⟨x37,q38,l23⟩:=bs l23
    obtain⟨n39,q40,l23⟩:=bs l23
    obtain⟨q41,q42⟩:=zBo q40
    try simp at q41
    try simp at q42
    have c43:=q41;simp only[Rng,inR] at c43
    obtain⟨v44,q45,l23⟩:=bs l23
    refine last 42 0 [(1,iI v44),(2,iI depth3),(3,pT 0),(7,iI i21)] [(zLn.d p1)] ?_ fun zz hs=>?_
    ·refine st ?_
     simp[q38,q41,q42]
     have r47:=zLN x37 left20 n39 v44 q45
     try simp[q38,q41,q42] at r47
     refine cP r47 ?_
     simp[q38,q41,q42]
    refine zDC<|zAj ?_ hs
    have q46:Rng .i64 (((i21:Nat):Int)+1):=by simp only[Rng,inR];omega
    try simp at q46
    refine last 42 0 [(1,iI v44),(2,iI depth3),(3,pT 0),(7,iI ((i21+1:Nat):Int))] [(zLn.d p1)] (st (by simp[q46])) fun zz hs=>?_
    exact⟨(k25,v44,i21+1),hs,l23,by simp⟩
   refine zEt rfl g31<|zAW<|zAH ?_
   have q48:=zqa l23
   have q48:=q48.symm
   refine zAH<|zAX<|zAj (t:=mkS 42 0 [(1,iI o22)] [(zLn.d p1)]) ?_ (zAc (by simp[q48]))
   refine cutA 42 0 [(6,iI o22)] [(zLn.d p1)]<|zAC ?_
   cases h
   simp
theorem ref20_vars_ok(fuel:Nat):(∀(l1:(List (List UInt8)))(p2:zLn)(r:(List (List UInt8)))(_:zCx fuel l1 p2=some r),Pure Tryz.prog 64 [.sl (l1.map cS),.agg (zLn.d p2)] (.sl (r.map cS))):=by
 induction fuel with
 |zero=>intro l1 p2 r h;rw[zCx] at h;cases h
 |succ fuel ih_ref20_vars=>
  intro l1 p2 r h
  rw[zCx] at h
  refine zAD Tryz.func64 (by rfl) (by rfl) (by simp) (by simp) (by simp)<|cutA 31 0 [(0,.sl (l1.map cS)),(3,pT 0)] [(zLn.d p2)]<|zAA<|cutA 31 0 [(0,.sl (l1.map cS)),(3,pT 0),(8,.bool (eqI p2.Op 2))] [(zLn.d p2)]<|spc h rfl (fun g3 h=>?_) fun g3 h=>?_
  ·obtain⟨l5,q6,h⟩:=bs h
   obtain⟨q7,q8⟩:=zFL q6
   try simp at q7
   obtain⟨l9,q10,h⟩:=bs h
   obtain⟨q11,q12⟩:=zFL q10
   have q13:=q11
   try simp at q13
   try simp[q8] at q11
   refine cut 31 0 [(4,.osl ⟨1,9⟩ (l9.map cS))] [(zLn.d p2)] ?_ ?_
   ·refine zAl [999] [6,7] mixed (n:=31) rfl (by decide) (by decide) ?_
    simp[q7,q8,q11,q13,q12]
   refine zAC<|zAE ?_
   cases h
   simp
  refine zAB<|zAJ<|zAA<|cutA 31 0 [(0,.sl (l1.map cS)),(3,pT 0),(5,iI 0)] [(zLn.d p2)]<|zAF ?_
  obtain⟨o18,l19,h⟩:=bs h
  refine zAq (fun p:Nat×(List (List UInt8))×Nat=>mkS 31 0 [(0,.sl (p.2.1.map cS)),(3,pT 0),(5,iI p.2.2)] [(zLn.d p2)]) (fun p=>zCm (zCx fuel) p2 p.1 p.2.1 p.2.2=some o18) (fun p=>p.1) (fuel,l1,0) l19 (zAc (by simp)) ?_
  rintro⟨k20,l16,i17⟩ l19
  try dsimp only at l19 ⊢
  cases k20 with
  |zero=>
   rw[zCm] at l19;cases l19
  |succ k21=>
   rw[zCm] at l19
   refine zAA<|cutA 31 0 [(0,.sl (l16.map cS)),(3,pT 0),(5,iI i17),(20,.bool (ltI i17 p2.L.length))] [(zLn.d p2)]<|spc l19 rfl (fun g22 l19=>?_) fun g22 l19=>?_
   ·have c23:=ltT g22
    refine zBk 0 3 rfl rfl rfl fun f24=>?_
    rw[zq4] at f24
    refine zAB<|zAJ<|zAA<|zAF ?_
    obtain⟨x25,q26,l19⟩:=bs l19
    obtain⟨v27,q28,l19⟩:=bs l19
    refine last 31 0 [(0,.sl (v27.map cS)),(3,pT 0),(5,iI i17)] [(zLn.d p2)] ?_ fun zz hs=>?_
    ·refine st ?_
     simp[q26]
     have r30:=ih_ref20_vars l16 x25 v27 q28
     try simp[q26] at r30
     refine cP r30 ?_
     simp[q26]
    refine zDC<|zAj ?_ hs
    have q29:Rng .i64 (((i17:Nat):Int)+1):=by simp only[Rng,inR];omega
    try simp at q29
    refine last 31 0 [(0,.sl (v27.map cS)),(3,pT 0),(5,iI ((i17+1:Nat):Int))] [(zLn.d p2)] (st (by simp[q29])) fun zz hs=>?_
    exact⟨(k21,v27,i17+1),hs,l19,by simp⟩
   have c31:=ltF g22
   refine zBk 0 3 rfl rfl rfl fun f32=>?_
   rw[zq4] at f32
   refine zAW<|zAH ?_
   have q33:=zqa l19
   have q33:=q33.symm
   refine zAH<|zAX<|zAj (t:=mkS 31 0 [(0,.sl (o18.map cS))] [(zLn.d p2)]) ?_ (zAc (by simp[q33]))
   refine cutA 31 0 [(4,.sl (o18.map cS))] [(zLn.d p2)]<|zAC ?_
   cases h
   simp
theorem ref20_Vars_ok(fuel:Nat)(p1:zLn)(r:(List (List UInt8)))(h:zFm fuel p1=some r):Pure Tryz.prog 33 [.agg (zLn.d p1)] (.sl (r.map cS)):=by
 rw[zFm] at h
 refine zAD Tryz.func33 (by rfl) (by rfl) (by simp) (by simp) (by simp)<|cutA 5 0 [(1,pT 0)] [(zLn.d p1)] ?_
 obtain⟨v2,q3,h⟩:=bs h
 refine cut 5 0 [(2,.sl (v2.map cS))] [(zLn.d p1)] ?_ ?_
 ·refine st ?_
  simp
  have r4:=ref20_vars_ok fuel ([]:List (List UInt8)) p1 v2 q3
  try simp at r4
  refine cP r4 ?_
  simp
 refine zAC ?_
 cases h
 simp
theorem zH8(fuel:Nat)(p1:zLn)(r:Bool)(h:zD3 fuel p1=some r):Pure Tryz.prog 9 [.agg (zLn.d p1)] (.bool r):=by
 rw[zD3] at h
 refine zAD Tryz.func9 (by rfl) (by rfl) (by simp) (by simp) (by simp)<|cutA 25 0 [(1,pT 0)] [(zLn.d p1)]<|zAA ?_
 obtain⟨v2,q3,h⟩:=bs h
 refine cut 25 0 [(1,pT 0),(7,.bool (ltI v2 0))] [(zLn.d p1)] ?_ ?_
 ·refine st ?_
  simp
  have r35:=zK0 fuel p1 20000 400 v2 q3
  try simp at r35
  refine cP r35 ?_
  simp
 refine spc h rfl (fun g4 h=>?_) fun g4 h=>?_
 ·have c5:=ltT g4
  refine cutA 25 0 [(2,.bool false)] [(zLn.d p1)]<|zAC<|zAE ?_
  cases h
  simp
 have c6:=ltF g4
 refine zAB<|zAJ ?_
 obtain⟨v7,q8,h⟩:=bs h
 refine cut 25 0 [(3,.sl (v7.map cS))] [(zLn.d p1)] ?_ ?_
 ·refine st ?_
  simp
  have r34:=ref20_Vars_ok fuel p1 v7 q8
  try simp at r34
  refine cP r34 ?_
  simp
 refine zAA<|cutA 25 0 [(3,.sl (v7.map cS)),(4,iI 0)] [(zLn.d p1)]<|zAF ?_
 obtain⟨o11,l12,h⟩:=bs h
 refine zAq (fun p:Nat×Nat=>mkS 25 0 [(3,.sl (v7.map cS)),(4,iI p.2)] [(zLn.d p1)]) (fun p=>zCQ fuel v7 p.1 p.2=some o11) (fun p=>p.1) (fuel,0) l12 (zAc (by simp)) ?_
 rintro⟨k13,i9⟩ l12
 try dsimp only at l12 ⊢
 cases k13 with
 |zero=>
  rw[zCQ] at l12;cases l12
 |succ k14=>
  rw[zCQ] at l12
  refine zAA<|cutA 25 0 [(3,.sl (v7.map cS)),(4,iI i9),(13,.bool (ltI i9 v7.length))] [(zLn.d p1)]<|spc l12 rfl (fun g15 l12=>?_) fun g15 l12=>?_
  ·have c16:=ltT g15
   refine zC5 3 rfl fun f17=>?_
   rw[zq4] at f17
   refine zAB<|zAJ<|zAA<|zAF ?_
   obtain⟨l18,q19,l12⟩:=bs l12
   obtain⟨q20,q21⟩:=subC_ok q19
   try simp at q20
   try simp at q21
   obtain⟨x22,q23,l12⟩:=bs l12
   obtain⟨v24,q25,l12⟩:=bs l12
   refine cut 25 0 [(3,.sl (v7.map cS)),(4,iI i9),(24,.bool (leI 0 v24))] [(zLn.d p1)] ?_ ?_
   ·refine zAL [] mixed (n:=25) rfl (by decide) ?_
    simp[q20,q21,q23]
    have r30:=zGz fuel l18 x22 v24 q25
    try simp[q20,q21,q23] at r30
    refine zF9 r30 (by simp) rfl ?_
    simp[q20,q21,q23]
   refine spc l12 rfl (fun g26 l12=>?_) fun g26 l12=>?_
   ·have c27:=leT g26
    refine cutA 25 0 [(2,.bool false)] [(zLn.d p1)]<|zAC<|zAR<|zAE ?_
    replace h:=retL l12 h
    refine zAE<|zAR<|zAE ?_
    cases h
    simp
   have c28:=leF g26
   refine zAB<|zDC<|zAJ ?_
   have q29:Rng .i64 (((i9:Nat):Int)+1):=by simp only[Rng,inR];omega
   try simp at q29
   refine last 25 0 [(3,.sl (v7.map cS)),(4,iI ((i9+1:Nat):Int))] [(zLn.d p1)] (st (by simp[q29])) fun zz hs=>?_
   exact⟨(k14,i9+1),hs,l12,by simp⟩
  have c31:=ltF g15
  refine zC5 3 rfl fun f32=>?_
  rw[zq4] at f32
  refine zAW<|zAH ?_
  rcases o11 with o11|o10
  ·cases l12
  have q33:=Sum.inr.inj (zqa l12)
  replace h:=zHa h
  refine zAH<|zAX<|zAj (t:=mkS 25 0 [] [(zLn.d p1)]) ?_ (zAc (by simp))
  refine cutA 25 0 [(2,.bool true)] [(zLn.d p1)]<|zAC ?_
  cases h
  simp
theorem zHM(c1:UInt8)(r:Int)(h:zCV c1=some r):Pure Tryz.prog 132 [.int .u8 c1.toNat] (iI r):=by
 rw[zCV] at h
 refine zAD Tryz.func132 (by rfl) (by rfl) (by simp) (by simp) (by simp)<|cutA 30 0 [(0,.int .u8 c1.toNat)] []<|zAA<|zAF<|cut 30 0 [(0,.int .u8 c1.toNat),(3,.bool ((leI 97 c1.toNat)&&(leI c1.toNat 122)))] [] ?_ ?_
 ·rcases tf (leI 97 c1.toNat) with g2|g2
  ·have c3:=leT g2
   refine st ?_
   simp[g2]
  have c4:=leF g2
  refine st ?_
  simp[g2]
 rcases sp h with ⟨g5,h⟩|⟨g5,h⟩
 ·obtain⟨g6,g7⟩:=andT g5
  have c8:=leT g6
  have c9:=leT g7
  refine zEj rfl g5<|cutA 30 0 [(2,iI 1)] []<|zAC<|zAR<|zAE ?_
  cases h
  simp
 refine zEt rfl g5<|cut 30 0 [(0,.int .u8 c1.toNat),(10,.bool ((leI 65 c1.toNat)&&(leI c1.toNat 90)))] [] ?_ ?_
 ·rcases tf (leI 65 c1.toNat) with g10|g10
  ·have c11:=leT g10
   refine st ?_
   simp[g10]
  have c12:=leF g10
  refine st ?_
  simp[g10]
 rcases sp h with ⟨g13,h⟩|⟨g13,h⟩
 ·obtain⟨g14,g15⟩:=andT g13
  have c16:=leT g14
  have c17:=leT g15
  refine zEj rfl g13<|cutA 30 0 [(2,iI 2)] []<|zAC<|zAR<|zAE ?_
  cases h
  simp
 refine zEt rfl g13<|cut 30 0 [(0,.int .u8 c1.toNat),(17,.bool ((leI 48 c1.toNat)&&(leI c1.toNat 57)))] [] ?_ ?_
 ·rcases tf (leI 48 c1.toNat) with g18|g18
  ·have c19:=leT g18
   refine st ?_
   simp[g18]
  have c20:=leF g18
  refine st ?_
  simp[g18]
 rcases sp h with ⟨g21,h⟩|⟨g21,h⟩
 ·obtain⟨g22,g23⟩:=andT g21
  have c24:=leT g22
  have c25:=leT g23
  refine zEj rfl g21<|cutA 30 0 [(2,iI 3)] []<|zAC<|zAR<|zAE ?_
  cases h
  simp
 refine zEt rfl g21<|cutA 30 0 [(0,.int .u8 c1.toNat),(24,.bool (eqI c1.toNat 95))] []<|spc h rfl (fun g26 h=>?_) fun g26 h=>?_
 ·have c27:=eqT g26
  refine cutA 30 0 [(2,iI 4)] []<|zAC<|zAR<|zAE ?_
  cases h
  simp
 have c28:=eqF g26
 refine cutA 30 0 [(27,.bool (eqI c1.toNat 46))] []<|spc h rfl (fun g29 h=>?_) fun g29 h=>?_
 ·have c30:=eqT g29
  refine cutA 30 0 [(2,iI 5)] []<|zAC<|zAR<|zAE ?_
  cases h
  simp
 have c31:=eqF g29
 refine zAB<|zDC<|zAJ<|cutA 30 0 [(2,iI 0)] []<|zAC ?_
 cases h
 simp
theorem zG9(fuel:Nat)(s1:(List UInt8))(first2:Int)(r:Bool)(h:zD7 fuel s1 first2=some r):Pure Tryz.prog 179 [.str s1,iI first2] (.bool r):=by
 rw[zD7] at h
 refine zAD Tryz.func179 (by rfl) (by rfl) (by simp) (by simp) (by simp)<|cutA 38 0 [(0,.str s1),(1,iI first2)] []<|zAA ?_
 obtain⟨b13,q14,h⟩:=bs h
 refine cut 38 0 [(0,.str s1),(21,.bool b13)] [] ?_ ?_
 ·rcases sp q14 with ⟨g3,q14⟩|⟨g3,q14⟩
  ·obtain rfl:=oi q14
   refine st ?_
   simp[g3]
  rcases sp q14 with ⟨g4,q14⟩|⟨g4,q14⟩
  ·have c5:=ltT g4
   refine zKP 0 rfl fun f6=>?_
   obtain rfl:=oi q14
   refine st ?_
   simp[g3,g4]
  have c7:=ltF g4
  refine zKP 0 rfl fun f8=>?_
  obtain⟨c9,q10,q14⟩:=bs q14
  obtain⟨v11,q12,q14⟩:=bs q14
  obtain rfl:=oi q14
  refine st ?_
  simp[g3,g4,q10]
  have r46:=zHM c9 v11 q12
  try simp[g3,g4,q10] at r46
  refine cP r46 ?_
  simp[g3,g4,q10]
 refine spc h rfl (fun g15 h=>?_) fun g15 h=>?_
 ·refine cutA 38 0 [(4,.bool false)] []<|zAC<|zAE ?_
  cases h
  simp
 refine zAB<|zAJ<|zAA ?_
 obtain⟨l16,q17,h⟩:=bs h
 obtain⟨q18,q19⟩:=zLb q17
 refine cut 38 0 [(23,.sl (l16.map cU)),(24,iI l16.length),(25,iI 0)] [] (st (by simp[q18,q19]))<|zAF ?_
 obtain⟨o22,l23,h⟩:=bs h
 refine zAq (fun p:Nat×Nat=>mkS 38 0 [(23,.sl (l16.map cU)),(24,iI l16.length),(25,iI p.2)] []) (fun p=>zCr l16 p.1 p.2=some o22) (fun p=>p.1) (fuel,0) l23 (zAc (by simp)) ?_
 rintro⟨k24,i20⟩ l23
 try dsimp only at l23 ⊢
 cases k24 with
 |zero=>
  rw[zCr] at l23;cases l23
 |succ k25=>
  rw[zCr] at l23
  refine cutA 38 0 [(23,.sl (l16.map cU)),(24,iI l16.length),(25,iI i20),(26,.bool (ltI i20 l16.length))] []<|zAA<|spc l23 rfl (fun g26 l23=>?_) fun g26 l23=>?_
  ·have c27:=ltT g26
   refine zC5 23 rfl fun f28=>?_
   rw[zq4] at f28
   refine zAB<|zAJ<|zAA<|zAF ?_
   obtain⟨x29,q30,l23⟩:=bs l23
   refine cut 38 0 [(6,.int .u8 x29.toNat),(23,.sl (l16.map cU)),(24,iI l16.length),(25,iI i20)] [] (st (by simp[q30])) ?_
   obtain⟨v31,q32,l23⟩:=bs l23
   refine cut 38 0 [(7,iI v31),(23,.sl (l16.map cU)),(24,iI l16.length),(25,iI i20)] [] ?_ ?_
   ·refine st ?_
    simp
    have r42:=zHM x29 v31 q32
    try simp at r42
    refine cP r42 ?_
    simp
   refine cut 38 0 [(23,.sl (l16.map cU)),(24,iI l16.length),(25,iI i20),(36,.bool ((eqI v31 0)||(eqI v31 5)))] [] ?_ ?_
   ·rcases tf (eqI v31 0) with g33|g33
    ·have c34:=eqT g33
     refine st ?_
     simp[g33]
    have c35:=eqF g33
    refine st ?_
    simp[g33]
   rcases sp l23 with ⟨g36,l23⟩|⟨g36,l23⟩
   ·refine zEj rfl g36<|cutA 38 0 [(4,.bool false)] []<|zAC<|zAR<|zAE ?_
    replace h:=retL l23 h
    refine zAE<|zAR<|zAE ?_
    cases h
    simp
   obtain⟨g37,g38⟩:=orF g36
   have c39:=eqF g37
   have c40:=eqF g38
   refine zEt rfl g36<|zAB<|zDC<|zAJ ?_
   have q41:Rng .i64 (((i20:Nat):Int)+1):=by simp only[Rng,inR];omega
   try simp at q41
   refine last 38 0 [(23,.sl (l16.map cU)),(24,iI l16.length),(25,iI ((i20+1:Nat):Int))] [] (st (by simp[q41])) fun zz hs=>?_
   exact⟨(k25,i20+1),hs,l23,by simp⟩
  have c43:=ltF g26
  refine zC5 23 rfl fun f44=>?_
  rw[zq4] at f44
  refine zAW<|zAH ?_
  rcases o22 with o22|o21
  ·cases l23
  have q45:=Sum.inr.inj (zqa l23)
  replace h:=zHa h
  refine zAH<|zAX<|zAj (t:=mkS 38 0 [] []) ?_ (zAc (by simp))
  refine cutA 38 0 [(4,.bool true)] []<|zAC ?_
  cases h
  simp
theorem zGs(fuel:Nat)(s1:(List (List UInt8)))(v2:(List UInt8))(r:Int)(h:zDV fuel s1 v2=some r):Pure Tryz.prog 228 [.sl (s1.map cS),.str v2] (iI r):=by
 rw[zDV] at h
 refine zAD Tryz.func228 (by rfl) (by rfl) (by simp) (by simp) (by simp)<|cutA 19 0 [(0,.sl (s1.map cS)),(1,.str v2)] []<|zAA<|cutA 19 0 [(0,.sl (s1.map cS)),(1,.str v2),(7,iI s1.length),(8,iI 0)] []<|zAF ?_
 obtain⟨o5,l6,h⟩:=bs h
 refine zAq (fun p:Nat×Nat=>mkS 19 0 [(0,.sl (s1.map cS)),(1,.str v2),(7,iI s1.length),(8,iI p.2)] []) (fun p=>zA9 s1 v2 p.1 p.2=some o5) (fun p=>p.1) (fuel,0) l6 (zAc (by simp)) ?_
 rintro⟨k7,i3⟩ l6
 try dsimp only at l6 ⊢
 cases k7 with
 |zero=>
  rw[zA9] at l6;cases l6
 |succ k8=>
  rw[zA9] at l6
  refine cutA 19 0 [(0,.sl (s1.map cS)),(1,.str v2),(7,iI s1.length),(8,iI i3),(9,.bool (ltI i3 s1.length))] []<|zAA<|spc l6 rfl (fun g9 l6=>?_) fun g9 l6=>?_
  ·have c10:=ltT g9
   refine zC5 0 rfl fun f11=>?_
   rw[zq4] at f11
   refine zAB<|zAJ<|zAA<|zAF<|cutA 19 0 [(0,.sl (s1.map cS)),(1,.str v2),(5,iI i3),(7,iI s1.length),(8,iI i3)] [] ?_
   obtain⟨x12,q13,l6⟩:=bs l6
   refine cut 19 0 [(0,.sl (s1.map cS)),(1,.str v2),(5,iI i3),(7,iI s1.length),(8,iI i3),(16,.bool (eqS v2 x12))] [] (st (by simp[q13]))<|spc l6 rfl (fun g14 l6=>?_) fun g14 l6=>?_
   ·refine cutA 19 0 [(4,iI i3)] []<|zAC<|zAR<|zAE ?_
    replace h:=retL l6 h
    refine zAE<|zAR<|zAE ?_
    cases h
    simp
   refine zAB<|zDC<|zAJ ?_
   have q15:Rng .i64 (((i3:Nat):Int)+1):=by simp only[Rng,inR];omega
   try simp at q15
   refine last 19 0 [(0,.sl (s1.map cS)),(1,.str v2),(7,iI s1.length),(8,iI ((i3+1:Nat):Int))] [] (st (by simp[q15])) fun zz hs=>?_
   exact⟨(k8,i3+1),hs,l6,by simp⟩
  have c16:=ltF g9
  refine zC5 0 rfl fun f17=>?_
  rw[zq4] at f17
  refine zAW<|zAH ?_
  rcases o5 with o5|o4
  ·cases l6
  have q18:=Sum.inr.inj (zqa l6)
  replace h:=zHa h
  refine zAH<|zAX<|zAj (t:=mkS 19 0 [] []) ?_ (zAc (by simp))
  refine cutA 19 0 [(4,iI (-1))] []<|zAC ?_
  cases h
  simp
theorem zGE(fuel:Nat)(s1:(List (List UInt8)))(v2:(List UInt8))(r:Bool)(h:zBZ fuel s1 v2=some r):Pure Tryz.prog 211 [.sl (s1.map cS),.str v2] (.bool r):=by
 rw[zBZ] at h
 refine zAD Tryz.func211 (by rfl) (by rfl) (by simp) (by simp) (by simp)<|cutA 9 0 [(0,.sl (s1.map cS)),(1,.str v2)] [] ?_
 obtain⟨v3,q4,h⟩:=bs h
 refine cut 9 0 [(4,.bool (leI 0 v3))] [] ?_ ?_
 ·refine st ?_
  simp
  have r5:=zGs fuel s1 v2 v3 q4
  try simp at r5
  refine cP r5 ?_
  simp
 refine zAC ?_
 cases h
 simp
theorem ident_word_ok(fuel:Nat)(s1:(List UInt8))(r:Bool)(h:zFr fuel s1=some r):Pure Tryz.prog 180 [.str s1] (.bool r):=by
 rw[zFr] at h
 refine zAD Tryz.func180 (by rfl) (by rfl) (by simp) (by simp) (by simp)<|cutA 6 0 [(0,.str s1)] [] ?_
 obtain⟨v2,q3,h⟩:=bs h
 obtain⟨v4,q5,h⟩:=bs h
 refine cut 6 0 [(2,.bool v4)] [] ?_ ?_
 ·refine st ?_
  simp
  have r6:=zGl [97,110,100,97,108,115,111,32,99,97,115,101,32,100,97,116,97,32,100,105,118,32,101,108,115,101,32,101,110,100,32,102,110,32,102,117,110,32,102,117,110,99,116,111,114,32,103,101,110,101,114,97,116,105,118,101,32,105,102,32,105,109,112,111,114,116,32,105,110,32,105,110,99,108,117,100,101,32,108,101,116,32,109,111,100,32,109,111,100,117,108,101,32,111,102,32,111,112,101,110,32,111,114,101,108,115,101,32,112,97,99,107,32,115,104,97,114,105,110,103,32,115,105,103,32,115,105,103,110,97,116,117,114,101,32,115,116,114,117,99,116,32,115,116,114,117,99,116,117,114,101,32,116,104,101,110,32,116,121,112,101,32,117,110,112,97,99,107,32,118,97,108,32,119,105,116,104] v2 q3
  try simp at r6
  refine cP r6 ?_
  simp
  have r7:=zGE fuel v2 s1 v4 q5
  try simp at r7
  refine cP r7 ?_
  simp
 refine zAC ?_
 cases h
 simp
theorem zJq(fuel:Nat)(s1:(List UInt8))(r:Bool)(h:zEM fuel s1=some r):Pure Tryz.prog 141 [.str s1] (.bool r):=by
 rw[zEM] at h
 refine zAD Tryz.func141 (by rfl) (by rfl) (by simp) (by simp) (by simp)<|cutA 10 0 [(0,.str s1)] [] ?_
 obtain⟨b7,q8,h⟩:=bs h
 refine cut 10 0 [(2,.bool b7)] [] ?_ ?_
 ·obtain⟨v2,q3,q8⟩:=bs q8
  rcases sp q8 with ⟨g4,q8⟩|⟨g4,q8⟩
  ·obtain⟨v5,q6,q8⟩:=bs q8
   obtain rfl:=oi q8
   refine st ?_
   simp[g4]
   have r9:=zG9 fuel s1 1 v2 q3
   try simp[g4] at r9
   refine cP r9 ?_
   simp[g4]
   have r10:=ident_word_ok fuel s1 v5 q6
   try simp[g4] at r10
   refine cP r10 ?_
   simp[g4]
  obtain rfl:=oi q8
  refine st ?_
  simp[g4]
  have r11:=zG9 fuel s1 1 v2 q3
  try simp[g4] at r11
  refine cP r11 ?_
  simp[g4]
 refine zAC ?_
 cases h
 simp
theorem zFg(fuel:Nat)(s1:(List UInt8))(r:Bool)(h:zDx fuel s1=some r):Pure Tryz.prog 142 [.str s1] (.bool r):=by
 rw[zDx] at h
 refine zAD Tryz.func142 (by rfl) (by rfl) (by simp) (by simp) (by simp)<|cutA 5 0 [(0,.str s1)] [] ?_
 obtain⟨v2,q3,h⟩:=bs h
 refine cut 5 0 [(2,.bool v2)] [] ?_ ?_
 ·refine st ?_
  simp
  have r4:=zG9 fuel s1 2 v2 q3
  try simp at r4
  refine cP r4 ?_
  simp
 refine zAC ?_
 cases h
 simp
theorem zKF(fuel:Nat)(p1:zLn)(r:Bool)(h:zEs fuel p1=some r):Pure Tryz.prog 87 [.agg (zLn.d p1)] (.bool r):=by
 rw[zEs] at h
 refine zAD Tryz.func87 (by rfl) (by rfl) (by simp) (by simp) (by simp)<|cutA 88 0 [(1,pT 0)] [(zLn.d p1)]<|cutA 88 0 [(1,pT 0),(3,iI p1.L.length)] [(zLn.d p1)]<|zAA<|cutA 88 0 [(1,pT 0),(3,iI p1.L.length),(8,iI p1.Op)] [(zLn.d p1)]<|zAF<|cutA 88 0 [(1,pT 0),(3,iI p1.L.length),(8,iI p1.Op),(9,.bool (eqI p1.Op 1))] [(zLn.d p1)] ?_
 refine spc h rfl (fun g2 h=>?_) fun g2 h=>?_
 ·refine cut 88 0 [(2,.bool ((eqI p1.L.length 0)&&((eqI p1.N 0)&&(eqS p1.S ([]:List UInt8)))))] [(zLn.d p1)] ?_ ?_
  ·rcases tf (eqI p1.L.length 0) with g4|g4
   ·rcases tf (eqI p1.N 0) with g6|g6
    ·refine st ?_
     simp[g4,g6]
    refine st ?_
    simp[g4,g6]
   refine st ?_
   simp[g4]
  refine zAC<|zAR<|zAE ?_
  cases h
  simp
 refine cutA 88 0 [(1,pT 0),(3,iI p1.L.length),(8,iI p1.Op),(23,.bool (eqI p1.Op 2))] [(zLn.d p1)]<|spc h rfl (fun g11 h=>?_) fun g11 h=>?_
 ·obtain⟨b21,q22,h⟩:=bs h
  refine cut 88 0 [(2,.bool b21)] [(zLn.d p1)] ?_ ?_
  ·rcases sp q22 with ⟨g13,q22⟩|⟨g13,q22⟩
   ·rcases sp q22 with ⟨g15,q22⟩|⟨g15,q22⟩
    ·obtain⟨v17,q18,q22⟩:=bs q22
     obtain rfl:=oi q22
     refine st ?_
     simp[g13,g15]
     have r23:=zJq fuel p1.S v17 q18
     refine cP r23 ?_
     simp[g13,g15]
    obtain rfl:=oi q22
    refine st ?_
    simp[g13,g15]
   obtain rfl:=oi q22
   refine st ?_
   simp[g13]
  refine zAC<|zAR<|zAE ?_
  cases h
  simp
 refine cutA 88 0 [(1,pT 0),(3,iI p1.L.length),(8,iI p1.Op),(37,.bool (eqI p1.Op 3))] [(zLn.d p1)]<|spc h rfl (fun g25 h=>?_) fun g25 h=>?_
 ·refine cut 88 0 [(2,.bool ((eqI p1.L.length 0)&&((eqS p1.S ([]:List UInt8))&&((leI (-4503599627370496) p1.N)&&(leI p1.N 4503599627370496)))))] [(zLn.d p1)] ?_ ?_
  ·rcases tf (eqI p1.L.length 0) with g27|g27
   ·rcases tf (eqS p1.S ([]:List UInt8)) with g29|g29
    ·rcases tf (leI (-4503599627370496) p1.N) with g30|g30
     ·refine st ?_
      simp[g27,g29,g30]
     refine st ?_
     simp[g27,g29,g30]
    refine st ?_
    simp[g27,g29]
   refine st ?_
   simp[g27]
  refine zAC<|zAR<|zAE ?_
  cases h
  simp
 refine cutA 88 0 [(1,pT 0),(3,iI p1.L.length),(8,iI p1.Op),(56,.bool (eqI p1.Op 4))] [(zLn.d p1)]<|spc h rfl (fun g35 h=>?_) fun g35 h=>?_
 ·obtain⟨b47,q48,h⟩:=bs h
  refine cut 88 0 [(2,.bool b47)] [(zLn.d p1)] ?_ ?_
  ·rcases sp q48 with ⟨g37,q48⟩|⟨g37,q48⟩
   ·refine zBk 0 3 rfl rfl rfl fun f39=>?_
    rw[zq4] at f39
    rcases sp q48 with ⟨g40,q48⟩|⟨g40,q48⟩
    ·obtain⟨v42,q43,q48⟩:=bs q48
     obtain rfl:=oi q48
     refine st ?_
     simp[g37,g40]
     have r49:=zFg fuel p1.S v42 q43
     refine cP r49 ?_
     simp[g37,g40]
    obtain rfl:=oi q48
    refine st ?_
    simp[g37,g40]
   refine zBk 0 3 rfl rfl rfl fun f46=>?_
   rw[zq4] at f46
   obtain rfl:=oi q48
   refine st ?_
   simp[g37]
  refine zAC<|zAR<|zAE ?_
  cases h
  simp
 refine cutA 88 0 [(1,pT 0),(3,iI p1.L.length),(70,.bool (eqI p1.Op 5))] [(zLn.d p1)]<|spc h rfl (fun g51 h=>?_) fun g51 h=>?_
 ·refine cut 88 0 [(2,.bool ((!(eqI p1.L.length 1))&&((leI p1.L.length 9)&&((eqI p1.N 0)&&(eqS p1.S ([]:List UInt8))))))] [(zLn.d p1)] ?_ ?_
  ·rcases tf (!(eqI p1.L.length 1)) with g53|g53
   ·have g54:=notT g53
    rcases tf (leI p1.L.length 9) with g56|g56
    ·refine zBk 0 3 rfl rfl rfl fun f58=>?_
     rw[zq4] at f58
     rcases tf (eqI p1.N 0) with g59|g59
     ·refine st ?_
      simp[g53,g56,g59]
     refine st ?_
     simp[g53,g56,g59]
    refine zBk 0 3 rfl rfl rfl fun f63=>?_
    rw[zq4] at f63
    refine st ?_
    simp[g53,g56]
   have g64:=notF g53
   refine st ?_
   simp[g53]
  refine zAC<|zAR<|zAE ?_
  cases h
  simp
 refine zAB<|zDC<|zAJ<|cutA 88 0 [(2,.bool false)] [(zLn.d p1)]<|zAC ?_
 cases h
 simp
theorem zIW(fuel:Nat):(∀(p1:zLn)(left2:Int)(depth3:Int)(r:Int×Bool)(_:zBU fuel p1 left2 depth3=some r),Pure Tryz.prog 52 [.agg (zLn.d p1),iI left2,iI depth3] (.tup [iI r.1,.bool r.2])):=by
 induction fuel with
 |zero=>intro p1 left2 depth3 r h;rw[zBU] at h;cases h
 |succ fuel zIa=>
  intro p1 left2 depth3 r h
  rw[zBU] at h
  refine zAD Tryz.func52 (by rfl) (by rfl) (by simp) (by simp) (by simp)<|cutA 48 0 [(1,iI left2),(2,iI depth3),(3,pT 0)] [(zLn.d p1)]<|zAA ?_
  obtain⟨b12,q13,h⟩:=bs h
  refine cut 48 0 [(1,iI left2),(2,iI depth3),(3,pT 0),(23,.bool b12)] [(zLn.d p1)] ?_ ?_
  ·rcases sp q13 with ⟨g4,q13⟩|⟨g4,q13⟩
   ·obtain rfl:=oi q13
    refine st ?_
    simp[g4]
   rcases sp q13 with ⟨g7,q13⟩|⟨g7,q13⟩
   ·obtain rfl:=oi q13
    refine st ?_
    simp[g4,g7]
   obtain⟨v10,q11,q13⟩:=bs q13
   obtain rfl:=oi q13
   refine st ?_
   simp[g4,g7]
   have r52:=zKF fuel p1 v10 q11
   refine cP r52 ?_
   simp[g4,g7]
  refine spc h rfl (fun g14 h=>?_) fun g14 h=>?_
  ·refine cutA 48 0 [(6,iI 0),(7,.bool false)] [(zLn.d p1)]<|zAC<|zAE ?_
   cases h
   simp
  refine zAB<|zAJ<|cutA 48 0 [(1,iI left2),(2,iI depth3),(3,pT 0),(8,iI 1)] [(zLn.d p1)]<|zAA<|cutA 48 0 [(1,iI left2),(2,iI depth3),(8,iI 1),(25,.sl (p1.L.map zLn.c)),(26,iI p1.L.length),(27,iI 0)] [(zLn.d p1)]<|zAF ?_
  obtain⟨o18,l19,h⟩:=bs h
  refine zAq (fun p:Nat×Int×Nat=>mkS 48 0 [(1,iI left2),(2,iI depth3),(8,iI p.2.1),(25,.sl (p1.L.map zLn.c)),(26,iI p1.L.length),(27,iI p.2.2)] [(zLn.d p1)]) (fun p=>zBP (zBU fuel) p1 left2 depth3 p.1 p.2.1 p.2.2=some o18) (fun p=>p.1) (fuel,1,0) l19 (zAc (by simp)) ?_
  rintro⟨k20,n15,i16⟩ l19
  try dsimp only at l19 ⊢
  cases k20 with
  |zero=>
   rw[zBP] at l19;cases l19
  |succ k21=>
   rw[zBP] at l19
   refine cutA 48 0 [(1,iI left2),(2,iI depth3),(8,iI n15),(25,.sl (p1.L.map zLn.c)),(26,iI p1.L.length),(27,iI i16),(28,.bool (ltI i16 p1.L.length))] [(zLn.d p1)]<|zAA<|spc l19 rfl (fun g22 l19=>?_) fun g22 l19=>?_
   ·have c23:=ltT g22
    refine zC5 25 rfl fun f24=>?_
    rw[zq4] at f24
    refine zAB<|zAJ<|zAA<|zAF ?_
    obtain⟨x25,q26,l19⟩:=bs l19
    refine cut 48 0 [(1,iI left2),(2,iI depth3),(8,iI n15),(10,pT 1),(25,.sl (p1.L.map zLn.c)),(26,iI p1.L.length),(27,iI i16)] [(zLn.d p1),(zLn.d x25)] (st (by simp[q26])) ?_
    obtain⟨n27,q28,l19⟩:=bs l19
    obtain⟨q29,q30⟩:=zBo q28
    have c31:=q29;simp only[Rng,inR] at c31
    obtain⟨n32,q33,l19⟩:=bs l19
    obtain⟨q34,q35⟩:=zBo q33
    have c36:=q34;simp only[Rng,inR] at c36
    obtain⟨v37,q38,l19⟩:=bs l19
    refine cut 48 0 [(1,iI left2),(2,iI depth3),(8,iI n15),(11,iI v37.1),(12,.bool v37.2),(25,.sl (p1.L.map zLn.c)),(26,iI p1.L.length),(27,iI i16)] [(zLn.d p1),(zLn.d x25)] ?_ ?_
    ·refine st ?_
     simp[q29,q30,q34,q35]
     have r48:=zIa x25 n27 n32 v37 q38
     refine cP r48 ?_
     simp[q29,q30,q34,q35]
    refine zAA<|cutA 48 0 [(1,iI left2),(2,iI depth3),(8,iI n15),(11,iI v37.1),(25,.sl (p1.L.map zLn.c)),(26,iI p1.L.length),(27,iI i16),(42,.bool (!v37.2))] [(zLn.d p1),(zLn.d x25)]<|spc l19 rfl (fun g39 l19=>?_) fun g39 l19=>?_
    ·refine cutA 48 0 [(6,iI 0),(7,.bool false)] [(zLn.d p1),(zLn.d x25)]<|zAC<|zAE<|zAR<|zAE ?_
     replace h:=retL l19 h
     refine zAE<|zAR<|zAE ?_
     cases h
     simp
    refine zAB<|zAJ ?_
    obtain⟨n42,q43,l19⟩:=bs l19
    obtain⟨q44,q45⟩:=zBo q43
    have c46:=q44;simp only[Rng,inR] at c46
    refine last 48 0 [(1,iI left2),(2,iI depth3),(8,iI n42),(25,.sl (p1.L.map zLn.c)),(26,iI p1.L.length),(27,iI i16)] [(zLn.d p1),(zLn.d x25)] (st (by simp[q44,q45])) fun zz hs=>?_
    refine zDC<|zAj ?_ hs
    have q47:Rng .i64 (((i16:Nat):Int)+1):=by simp only[Rng,inR];omega
    refine last 48 0 [(1,iI left2),(2,iI depth3),(8,iI n42),(25,.sl (p1.L.map zLn.c)),(26,iI p1.L.length),(27,iI ((i16+1:Nat):Int))] [(zLn.d p1)] (st (by simp[q47])) fun zz hs=>?_
    exact⟨(k21,n42,i16+1),hs,l19,by simp⟩
   refine zC5 25 rfl fun f50=>?_
   rw[zq4] at f50
   refine zAW<|zAH ?_
   rcases o18 with o18|o17
   ·cases l19
   have q51:=Sum.inr.inj (zqa l19)
   replace h:=zHa h
   have q51:=q51.symm
   refine zAH<|zAX<|zAj (t:=mkS 48 0 [(8,iI o17)] [(zLn.d p1)]) ?_ (zAc (by simp[q51]))
   refine cutA 48 0 [(6,iI o17),(7,.bool true)] [(zLn.d p1)]<|zAC ?_
   cases h
   simp
theorem zIX(name1:(List UInt8))(c2:Bool)(c3:(List (List UInt8×Bool)))(r:Bool×(List (List UInt8×Bool)))(h:zEO name1 c2 c3=some r):Raw Tryz.prog 54 [.str name1,pT 0,pT 1] [[.bool c2],[.omp (mks c3) (mvs AV.bool c3)]] (.tup []) [[.bool r.1],[.omp (mks r.2) (mvs AV.bool r.2)]]:=by
 rw[zEO] at h
 refine zBE Tryz.func54 (by rfl) (by rfl) (by simp) (by simp)<|cut 13 2 [(0,.str name1),(2,pT 1)] [[.bool (c2&&(!(mgetD c3 name1 false)))],[.omp (mks c3) (mvs AV.bool c3)]] ?_ ?_
 ·rcases tf (c2) with g4|g4
  ·refine st ?_
   simp[g4]
  refine st ?_
  simp[g4]
 cases h
 refine st ?_
 simp
theorem zFe(fuel:Nat):(∀(p1:zLn)(c2:Bool)(c3:(List (List UInt8×Bool)))(r:Bool×(List (List UInt8×Bool)))(_:zAO fuel p1 c2 c3=some r),Raw Tryz.prog 53 [.agg (zLn.d p1),.fn (.func 54) [] [pT 0,pT 1]] [[.bool c2],[.omp (mks c3) (mvs AV.bool c3)]] (.tup []) [[.bool r.1],[.omp (mks r.2) (mvs AV.bool r.2)]]):=by
 induction fuel with
 |zero=>intro p1 c2 c3 r h;rw[zAO] at h;cases h
 |succ fuel zDz=>
  intro p1 c2 c3 r h
  rw[zAO] at h
  refine zBE Tryz.func53 (by rfl) (by rfl) (by simp) (by simp)<|cutA 24 2 [(1,.fn (.func 54) [] [pT 0,pT 1]),(2,pT 2)] [[.bool c2],[.omp (mks c3) (mvs AV.bool c3)],(zLn.d p1)]<|zAA<|cutA 24 2 [(1,.fn (.func 54) [] [pT 0,pT 1]),(2,pT 2),(8,.bool (eqI p1.Op 2))] [[.bool c2],[.omp (mks c3) (mvs AV.bool c3)],(zLn.d p1)]<|spc h rfl (fun g4 h=>?_) fun g4 h=>?_
  ·obtain⟨v6,q7,h⟩:=bs h
   refine last 24 2 [(1,.fn (.func 54) [] [pT 0,pT 1]),(2,pT 2)] [[.bool v6.1],[.omp (mks v6.2) (mvs AV.bool v6.2)],(zLn.d p1)] ?_ fun zz hs=>?_
   ·refine st ?_
    simp
    have r29:=(zIX p1.S c2 c3 v6 q7).frame [0,1] [[.bool c2],[.omp (mks c3) (mvs AV.bool c3)],(zLn.d p1)] (by simp)
    refine zDX r29 (by simp) rfl ?_
    simp
   refine zAj ?_ hs
   refine cutA 24 2 [(1,.fn (.func 54) [] [pT 0,pT 1]),(14,.sl (p1.L.map zLn.c)),(15,iI p1.L.length),(16,iI 0)] [[.bool v6.1],[.omp (mks v6.2) (mvs AV.bool v6.2)],(zLn.d p1)]<|zAF ?_
   obtain⟨o11,l12,h⟩:=bs h
   refine zAq (fun p:Nat×Bool×(List (List UInt8×Bool))×Nat=>mkS 24 2 [(1,.fn (.func 54) [] [pT 0,pT 1]),(14,.sl (p1.L.map zLn.c)),(15,iI p1.L.length),(16,iI p.2.2.2)] [[.bool p.2.1],[.omp (mks p.2.2.1) (mvs AV.bool p.2.2.1)],(zLn.d p1)]) (fun p=>zAe (zAO fuel) p1 p.1 p.2.1 p.2.2.1 p.2.2.2=some o11) (fun p=>p.1) (fuel,v6.1,v6.2,0) l12 (zAc (by simp)) ?_
   rintro⟨k13,a8,a9,i10⟩ l12
   try dsimp only at l12 ⊢
   cases k13 with
   |zero=>
    rw[zAe] at l12;cases l12
   |succ k14=>
    rw[zAe] at l12
    refine cutA 24 2 [(1,.fn (.func 54) [] [pT 0,pT 1]),(14,.sl (p1.L.map zLn.c)),(15,iI p1.L.length),(16,iI i10),(17,.bool (ltI i10 p1.L.length))] [[.bool a8],[.omp (mks a9) (mvs AV.bool a9)],(zLn.d p1)]<|zAA<|spc l12 rfl (fun g15 l12=>?_) fun g15 l12=>?_
    ·have c16:=ltT g15
     refine zC5 14 rfl fun f17=>?_
     rw[zq4] at f17
     refine zAB<|zAJ<|zAA<|zAF ?_
     obtain⟨x18,q19,l12⟩:=bs l12
     refine cut 24 2 [(1,.fn (.func 54) [] [pT 0,pT 1]),(5,pT 3),(14,.sl (p1.L.map zLn.c)),(15,iI p1.L.length),(16,iI i10)] [[.bool a8],[.omp (mks a9) (mvs AV.bool a9)],(zLn.d p1),(zLn.d x18)] (st (by simp[q19])) ?_
     obtain⟨v20,q21,l12⟩:=bs l12
     refine last 24 2 [(1,.fn (.func 54) [] [pT 0,pT 1]),(14,.sl (p1.L.map zLn.c)),(15,iI p1.L.length),(16,iI i10)] [[.bool v20.1],[.omp (mks v20.2) (mvs AV.bool v20.2)],(zLn.d p1),(zLn.d x18)] ?_ fun zz hs=>?_
     ·refine st ?_
      simp
      have r23:=(zDz x18 a8 a9 v20 q21).frame [0,1] [[.bool a8],[.omp (mks a9) (mvs AV.bool a9)],(zLn.d p1),(zLn.d x18)] (by simp)
      refine zDX r23 (by simp) rfl ?_
      simp
     refine zDC<|zAj ?_ hs
     have q22:Rng .i64 (((i10:Nat):Int)+1):=by simp only[Rng,inR];omega
     refine last 24 2 [(1,.fn (.func 54) [] [pT 0,pT 1]),(14,.sl (p1.L.map zLn.c)),(15,iI p1.L.length),(16,iI ((i10+1:Nat):Int))] [[.bool v20.1],[.omp (mks v20.2) (mvs AV.bool v20.2)],(zLn.d p1)] (st (by simp[q22])) fun zz hs=>?_
     exact⟨(k14,v20.1,v20.2,i10+1),hs,l12,by simp⟩
    refine zC5 14 rfl fun f25=>?_
    rw[zq4] at f25
    refine zAW<|zAH ?_
    have q26:=zqa l12
    have q27:o11.1=a8:=by rw[<-q26]
    have q28:o11.2=a9:=by rw[<-q26]
    refine zAH<|zAX ?_
    cases h
    simp[q27,q28]
  refine zAB<|zAJ<|cutA 24 2 [(1,.fn (.func 54) [] [pT 0,pT 1]),(14,.sl (p1.L.map zLn.c)),(15,iI p1.L.length),(16,iI 0)] [[.bool c2],[.omp (mks c3) (mvs AV.bool c3)],(zLn.d p1)]<|zAF ?_
  obtain⟨o34,l35,h⟩:=bs h
  refine zAq (fun p:Nat×Bool×(List (List UInt8×Bool))×Nat=>mkS 24 2 [(1,.fn (.func 54) [] [pT 0,pT 1]),(14,.sl (p1.L.map zLn.c)),(15,iI p1.L.length),(16,iI p.2.2.2)] [[.bool p.2.1],[.omp (mks p.2.2.1) (mvs AV.bool p.2.2.1)],(zLn.d p1)]) (fun p=>zAi (zAO fuel) p1 p.1 p.2.1 p.2.2.1 p.2.2.2=some o34) (fun p=>p.1) (fuel,c2,c3,0) l35 (zAc (by simp)) ?_
  rintro⟨k36,a31,a32,i33⟩ l35
  try dsimp only at l35 ⊢
  cases k36 with
  |zero=>
   rw[zAi] at l35;cases l35
  |succ k37=>
   rw[zAi] at l35
   refine cutA 24 2 [(1,.fn (.func 54) [] [pT 0,pT 1]),(14,.sl (p1.L.map zLn.c)),(15,iI p1.L.length),(16,iI i33),(17,.bool (ltI i33 p1.L.length))] [[.bool a31],[.omp (mks a32) (mvs AV.bool a32)],(zLn.d p1)]<|zAA<|spc l35 rfl (fun g38 l35=>?_) fun g38 l35=>?_
   ·have c39:=ltT g38
    refine zC5 14 rfl fun f40=>?_
    rw[zq4] at f40
    refine zAB<|zAJ<|zAA<|zAF ?_
    obtain⟨x41,q42,l35⟩:=bs l35
    refine cut 24 2 [(1,.fn (.func 54) [] [pT 0,pT 1]),(5,pT 3),(14,.sl (p1.L.map zLn.c)),(15,iI p1.L.length),(16,iI i33)] [[.bool a31],[.omp (mks a32) (mvs AV.bool a32)],(zLn.d p1),(zLn.d x41)] (st (by simp[q42])) ?_
    obtain⟨v43,q44,l35⟩:=bs l35
    refine last 24 2 [(1,.fn (.func 54) [] [pT 0,pT 1]),(14,.sl (p1.L.map zLn.c)),(15,iI p1.L.length),(16,iI i33)] [[.bool v43.1],[.omp (mks v43.2) (mvs AV.bool v43.2)],(zLn.d p1),(zLn.d x41)] ?_ fun zz hs=>?_
    ·refine st ?_
     simp
     have r46:=(zDz x41 a31 a32 v43 q44).frame [0,1] [[.bool a31],[.omp (mks a32) (mvs AV.bool a32)],(zLn.d p1),(zLn.d x41)] (by simp)
     try simp at r46
     refine zDX r46 (by simp) rfl ?_
     simp
    refine zDC<|zAj ?_ hs
    have q45:Rng .i64 (((i33:Nat):Int)+1):=by simp only[Rng,inR];omega
    try simp at q45
    refine last 24 2 [(1,.fn (.func 54) [] [pT 0,pT 1]),(14,.sl (p1.L.map zLn.c)),(15,iI p1.L.length),(16,iI ((i33+1:Nat):Int))] [[.bool v43.1],[.omp (mks v43.2) (mvs AV.bool v43.2)],(zLn.d p1)] (st (by simp[q45])) fun zz hs=>?_
    exact⟨(k37,v43.1,v43.2,i33+1),hs,l35,by simp⟩
   have c47:=ltF g38
   refine zC5 14 rfl fun f48=>?_
   rw[zq4] at f48
   refine zAW<|zAH ?_
   have q49:=zqa l35
   have q50:o34.1=a31:=by rw[<-q49]
   have q51:o34.2=a32:=by rw[<-q49]
   refine zAH<|zAX ?_
   cases h
   simp[q50,q51]
theorem zG3(fuel:Nat)(p1:zLn)(r:Bool)(h:zEL fuel p1=some r):Pure Tryz.prog 28 [.agg (zLn.d p1)] (.bool r):=by
 rw[zEL] at h
 refine zAD Tryz.func28 (by rfl) (by rfl) (by simp) (by simp) (by simp)<|cutA 19 0 [(1,pT 0)] [(zLn.d p1)]<|zAA ?_
 obtain⟨v2,q3,h⟩:=bs h
 refine cut 19 0 [(1,pT 0),(4,.bool v2.2)] [(zLn.d p1)] ?_ ?_
 ·refine st ?_
  simp
  have r10:=zIW fuel p1 20000 1 v2 q3
  try simp at r10
  refine cP r10 ?_
  simp
 refine cutA 19 0 [(1,pT 0),(13,.bool (!v2.2))] [(zLn.d p1)]<|spc h rfl (fun g4 h=>?_) fun g4 h=>?_
 ·have g5:=notT g4
  refine cutA 19 0 [(2,.bool false)] [(zLn.d p1)]<|zAC<|zAE ?_
  cases h
  simp
 have g6:=notF g4
 refine zAB<|zAJ<|cutA 19 0 [(1,pT 0),(5,pT 1)] [(zLn.d p1),[.omp (mks ([]:List (List UInt8×Bool))) (mvs AV.bool ([]:List (List UInt8×Bool)))]]<|cutA 19 0 [(1,pT 0),(5,pT 1),(6,pT 2)] [(zLn.d p1),[.omp (mks ([]:List (List UInt8×Bool))) (mvs AV.bool ([]:List (List UInt8×Bool)))],[.bool true]] ?_
 obtain⟨v7,q8,h⟩:=bs h
 refine cut 19 0 [(6,pT 2)] [(zLn.d p1),[.omp (mks v7.2) (mvs AV.bool v7.2)],[.bool v7.1]] ?_ ?_
 ·refine st ?_
  simp
  have r9:=(zFe fuel p1 true ([]:List (List UInt8×Bool)) v7 q8).frame [2,1] [(zLn.d p1),[.omp (mks ([]:List (List UInt8×Bool))) (mvs AV.bool ([]:List (List UInt8×Bool)))],[.bool true]] (by simp)
  try simp at r9
  refine zDX r9 (by simp) rfl ?_
  simp
 refine cutA 19 0 [(2,.bool v7.1)] [(zLn.d p1),[.omp (mks v7.2) (mvs AV.bool v7.2)],[.bool v7.1]]<|zAC ?_
 cases h
 simp
theorem zEZ(fuel:Nat):(∀(c1:zLm)(r:Int)(_:zCD fuel c1=some r),Pure Tryz.prog 55 [.agg (zLm.d c1)] (iI r)):=by
 induction fuel with
 |zero=>intro c1 r h;rw[zCD] at h;cases h
 |succ fuel ih_tycon_Size=>
  intro c1 r h
  rw[zCD] at h
  refine zAD Tryz.func55 (by rfl) (by rfl) (by simp) (by simp) (by simp)<|cutA 19 0 [(1,pT 0)] [(zLm.d c1)]<|cutA 19 0 [(1,pT 0),(3,iI 1)] [(zLm.d c1)]<|zAA<|cutA 19 0 [(3,iI 1),(7,.sl (c1.L.map zLm.c)),(8,iI c1.L.length),(9,iI 0)] [(zLm.d c1)]<|zAF ?_
  obtain⟨o4,l5,h⟩:=bs h
  refine zAq (fun p:Nat×Int×Nat=>mkS 19 0 [(3,iI p.2.1),(7,.sl (c1.L.map zLm.c)),(8,iI c1.L.length),(9,iI p.2.2)] [(zLm.d c1)]) (fun p=>zDI (zCD fuel) c1 p.1 p.2.1 p.2.2=some o4) (fun p=>p.1) (fuel,1,0) l5 (zAc (by simp)) ?_
  rintro⟨k6,n2,i3⟩ l5
  try dsimp only at l5 ⊢
  cases k6 with
  |zero=>
   rw[zDI] at l5;cases l5
  |succ k7=>
   rw[zDI] at l5
   refine cutA 19 0 [(3,iI n2),(7,.sl (c1.L.map zLm.c)),(8,iI c1.L.length),(9,iI i3),(10,.bool (ltI i3 c1.L.length))] [(zLm.d c1)]<|zAA<|spc l5 rfl (fun g8 l5=>?_) fun g8 l5=>?_
   ·have c9:=ltT g8
    refine zC5 7 rfl fun f10=>?_
    rw[zq4] at f10
    refine zAB<|zAJ<|zAA<|zAF ?_
    obtain⟨x11,q12,l5⟩:=bs l5
    refine cut 19 0 [(3,iI n2),(5,pT 1),(7,.sl (c1.L.map zLm.c)),(8,iI c1.L.length),(9,iI i3)] [(zLm.d c1),(zLm.d x11)] (st (by simp[q12])) ?_
    obtain⟨v13,q14,l5⟩:=bs l5
    obtain⟨n15,q16,l5⟩:=bs l5
    obtain⟨q17,q18⟩:=zBo q16
    try simp at q17
    try simp at q18
    have c19:=q17;simp only[Rng,inR] at c19
    refine last 19 0 [(3,iI n15),(7,.sl (c1.L.map zLm.c)),(8,iI c1.L.length),(9,iI i3)] [(zLm.d c1),(zLm.d x11)] ?_ fun zz hs=>?_
    ·refine st ?_
     simp[q17,q18]
     have r21:=ih_tycon_Size x11 v13 q14
     try simp[q17,q18] at r21
     refine cP r21 ?_
     simp[q17,q18]
    refine zDC<|zAj ?_ hs
    have q20:Rng .i64 (((i3:Nat):Int)+1):=by simp only[Rng,inR];omega
    try simp at q20
    refine last 19 0 [(3,iI n15),(7,.sl (c1.L.map zLm.c)),(8,iI c1.L.length),(9,iI ((i3+1:Nat):Int))] [(zLm.d c1)] (st (by simp[q20])) fun zz hs=>?_
    exact⟨(k7,n15,i3+1),hs,l5,by simp⟩
   have c22:=ltF g8
   refine zC5 7 rfl fun f23=>?_
   rw[zq4] at f23
   refine zAW<|zAH ?_
   have q24:=zqa l5
   have q24:=q24.symm
   refine zAH<|zAX<|zAj (t:=mkS 19 0 [(3,iI o4)] [(zLm.d c1)]) ?_ (zAc (by simp[q24]))
   refine cutA 19 0 [(2,iI o4)] [(zLm.d c1)]<|zAC ?_
   cases h
   simp
theorem zHu(fuel:Nat):(∀(c1:zLm)(r:Int)(_:zBc fuel c1=some r),Pure Tryz.prog 56 [.agg (zLm.d c1)] (iI r)):=by
 induction fuel with
 |zero=>intro c1 r h;rw[zBc] at h;cases h
 |succ fuel zLM=>
  intro c1 r h
  rw[zBc] at h
  refine zAD Tryz.func56 (by rfl) (by rfl) (by simp) (by simp) (by simp)<|cutA 20 0 [(1,pT 0)] [(zLm.d c1)]<|cutA 20 0 [(1,pT 0),(3,iI 0)] [(zLm.d c1)]<|zAA<|cutA 20 0 [(3,iI 0),(7,.sl (c1.L.map zLm.c)),(8,iI c1.L.length),(9,iI 0)] [(zLm.d c1)]<|zAF ?_
  obtain⟨o4,l5,h⟩:=bs h
  refine zAq (fun p:Nat×Int×Nat=>mkS 20 0 [(3,iI p.2.1),(7,.sl (c1.L.map zLm.c)),(8,iI c1.L.length),(9,iI p.2.2)] [(zLm.d c1)]) (fun p=>zBu (zBc fuel) c1 p.1 p.2.1 p.2.2=some o4) (fun p=>p.1) (fuel,0,0) l5 (zAc (by simp)) ?_
  rintro⟨k6,n2,i3⟩ l5
  try dsimp only at l5 ⊢
  cases k6 with
  |zero=>
   rw[zBu] at l5;cases l5
  |succ k7=>
   rw[zBu] at l5
   refine cutA 20 0 [(3,iI n2),(7,.sl (c1.L.map zLm.c)),(8,iI c1.L.length),(9,iI i3),(10,.bool (ltI i3 c1.L.length))] [(zLm.d c1)]<|zAA<|spc l5 rfl (fun g8 l5=>?_) fun g8 l5=>?_
   ·have c9:=ltT g8
    refine zC5 7 rfl fun f10=>?_
    rw[zq4] at f10
    refine zAB<|zAJ<|zAA<|zAF ?_
    obtain⟨x11,q12,l5⟩:=bs l5
    refine cut 20 0 [(3,iI n2),(5,pT 1),(7,.sl (c1.L.map zLm.c)),(8,iI c1.L.length),(9,iI i3)] [(zLm.d c1),(zLm.d x11)] (st (by simp[q12])) ?_
    obtain⟨v13,q14,l5⟩:=bs l5
    refine last 20 0 [(3,iI (maxI n2 v13)),(7,.sl (c1.L.map zLm.c)),(8,iI c1.L.length),(9,iI i3)] [(zLm.d c1),(zLm.d x11)] ?_ fun zz hs=>?_
    ·refine st ?_
     simp
     have r16:=zLM x11 v13 q14
     try simp at r16
     refine cP r16 ?_
     simp
    refine zDC<|zAj ?_ hs
    have q15:Rng .i64 (((i3:Nat):Int)+1):=by simp only[Rng,inR];omega
    try simp at q15
    refine last 20 0 [(3,iI (maxI n2 v13)),(7,.sl (c1.L.map zLm.c)),(8,iI c1.L.length),(9,iI ((i3+1:Nat):Int))] [(zLm.d c1)] (st (by simp[q15])) fun zz hs=>?_
    exact⟨(k7,maxI n2 v13,i3+1),hs,l5,by simp⟩
   have c17:=ltF g8
   refine zC5 7 rfl fun f18=>?_
   rw[zq4] at f18
   refine zAW<|zAH ?_
   have q19:=zqa l5
   have q19:=q19.symm
   refine zAH<|zAX<|zAj (t:=mkS 20 0 [(3,iI o4)] [(zLm.d c1)]) ?_ (zAc (by simp[q19]))
   obtain⟨n20,q21,h⟩:=bs h
   obtain⟨q22,q23⟩:=zBo q21
   try simp at q22
   try simp at q23
   have c24:=q22;simp only[Rng,inR] at c24
   refine cut 20 0 [(2,iI n20)] [(zLm.d c1)] (st (by simp[q22,q23]))<|zAC ?_
   cases h
   simp
theorem zA6(c1:zLm)(r:Bool)(h:zAn c1=some r):Pure Tryz.prog 92 [.agg (zLm.d c1)] (.bool r):=by
 rw[zAn] at h
 refine zAD Tryz.func92 (by rfl) (by rfl) (by simp) (by simp) (by simp)<|cutA 11 0 [(1,pT 0)] [(zLm.d c1)]<|cut 11 0 [(2,.bool ((eqI c1.Op 7)||(eqI c1.Op 8)))] [(zLm.d c1)] ?_ ?_
 ·rcases tf (eqI c1.Op 7) with g2|g2
  ·have c3:=eqT g2
   refine st ?_
   simp[g2]
  have c4:=eqF g2
  refine st ?_
  simp[g2]
 refine zAC ?_
 cases h
 simp
theorem zBS(c1:zLm)(r:Bool)(h:zAx c1=some r):Pure Tryz.prog 90 [.agg (zLm.d c1)] (.bool r):=by
 rw[zAx] at h
 refine zAD Tryz.func90 (by rfl) (by rfl) (by simp) (by simp) (by simp)<|cutA 21 0 [(1,pT 0)] [(zLm.d c1)]<|cut 21 0 [(2,.bool ((eqI c1.Op 9)||((eqI c1.Op 10)||((eqI c1.Op 11)||(eqI c1.Op 13)))))] [(zLm.d c1)] ?_ ?_
 ·rcases tf (eqI c1.Op 9) with g2|g2
  ·have c3:=eqT g2
   refine st ?_
   simp[g2]
  have c4:=eqF g2
  rcases tf (eqI c1.Op 10) with g5|g5
  ·have c6:=eqT g5
   refine st ?_
   simp[g2,g5]
  have c7:=eqF g5
  rcases tf (eqI c1.Op 11) with g8|g8
  ·have c9:=eqT g8
   refine st ?_
   simp[g2,g5,g8]
  have c10:=eqF g8
  refine st ?_
  simp[g2,g5,g8]
 refine zAC ?_
 cases h
 simp
theorem zKo(c1:zLm)(r:Int)(h:zB4 c1=some r):Pure Tryz.prog 88 [.agg (zLm.d c1)] (iI r):=by
 rw[zB4] at h
 refine zAD Tryz.func88 (by rfl) (by rfl) (by simp) (by simp) (by simp)<|cutA 30 0 [(1,pT 0)] [(zLm.d c1)]<|zAA<|zAF<|cut 30 0 [(1,pT 0),(3,.bool ((ltI c1.Op 1)||(ltI 13 c1.Op)))] [(zLm.d c1)] ?_ ?_
 ·rcases tf (ltI c1.Op 1) with g2|g2
  ·have c3:=ltT g2
   refine st ?_
   simp[g2]
  have c4:=ltF g2
  refine st ?_
  simp[g2]
 rcases sp h with ⟨g5,h⟩|⟨g5,h⟩
 ·refine zEj rfl g5<|cutA 30 0 [(2,iI (-1))] [(zLm.d c1)]<|zAC<|zAR<|zAE ?_
  cases h
  simp
 obtain⟨g6,g7⟩:=orF g5
 have c8:=ltF g6
 have c9:=ltF g7
 refine zEt rfl g5 ?_
 obtain⟨v10,q11,h⟩:=bs h
 refine cut 30 0 [(1,pT 0),(12,.bool v10)] [(zLm.d c1)] ?_ ?_
 ·refine st ?_
  simp
  have r25:=zA6 c1 v10 q11
  try simp at r25
  refine cP r25 ?_
  simp
 refine spc h rfl (fun g12 h=>?_) fun g12 h=>?_
 ·refine cutA 30 0 [(2,iI c1.Names.length)] [(zLm.d c1)]<|zAC<|zAR<|zAE ?_
  cases h
  simp
 obtain⟨v13,q14,h⟩:=bs h
 refine cut 30 0 [(1,pT 0),(18,.bool v13)] [(zLm.d c1)] ?_ ?_
 ·refine st ?_
  simp
  have r24:=zBS c1 v13 q14
  try simp at r24
  refine cP r24 ?_
  simp
 refine spc h rfl (fun g15 h=>?_) fun g15 h=>?_
 ·refine cutA 30 0 [(2,iI 1)] [(zLm.d c1)]<|zAC<|zAR<|zAE ?_
  cases h
  simp
 refine cut 30 0 [(21,.bool ((eqI c1.Op 6)||(eqI c1.Op 12)))] [(zLm.d c1)] ?_ ?_
 ·rcases tf (eqI c1.Op 6) with g16|g16
  ·have c17:=eqT g16
   refine st ?_
   simp[g16]
  have c18:=eqF g16
  refine st ?_
  simp[g16]
 rcases sp h with ⟨g19,h⟩|⟨g19,h⟩
 ·refine zEj rfl g19<|cutA 30 0 [(2,iI 2)] [(zLm.d c1)]<|zAC<|zAR<|zAE ?_
  cases h
  simp
 obtain⟨g20,g21⟩:=orF g19
 have c22:=eqF g20
 have c23:=eqF g21
 refine zEt rfl g19<|zAB<|zDC<|zAJ<|cutA 30 0 [(2,iI 0)] [(zLm.d c1)]<|zAC ?_
 cases h
 simp
theorem zKO(fuel:Nat)(s1:(List UInt8))(r:Int×Int)(h:zDo fuel s1=some r):Pure Tryz.prog 131 [.str s1] (.tup [iI r.1,iI r.2]):=by
 rw[zDo] at h
 refine zAD Tryz.func131 (by rfl) (by rfl) (by simp) (by simp) (by simp)<|cutA 43 0 [(0,.str s1)] []<|zAA ?_
 obtain⟨b10,q11,h⟩:=bs h
 refine cut 43 0 [(0,.str s1),(19,.bool b10)] [] ?_ ?_
 ·rcases sp q11 with ⟨g2,q11⟩|⟨g2,q11⟩
  ·obtain rfl:=oi q11
   refine st ?_
   simp[g2]
  rcases sp q11 with ⟨g3,q11⟩|⟨g3,q11⟩
  ·refine zKP 0 rfl fun f5=>?_
   obtain⟨c6,q7,q11⟩:=bs q11
   obtain rfl:=oi q11
   refine st ?_
   simp[g2,g3,q7]
  refine zKP 0 rfl fun f9=>?_
  obtain rfl:=oi q11
  refine st ?_
  simp[g2,g3]
 refine spc h rfl (fun g12 h=>?_) fun g12 h=>?_
 ·refine cutA 43 0 [(2,iI 0),(3,iI 3)] []<|zAC<|zAE ?_
  cases h
  simp
 refine zAB<|zAJ<|zAA ?_
 obtain⟨l13,q14,h⟩:=bs h
 obtain⟨q15,q16⟩:=zLb q14
 refine cut 43 0 [(0,.str s1),(21,.sl (l13.map cU)),(22,iI l13.length),(23,iI 0)] [] (st (by simp[q15,q16]))<|zAF ?_
 obtain⟨o19,l20,h⟩:=bs h
 refine zAq (fun p:Nat×Nat=>mkS 43 0 [(0,.str s1),(21,.sl (l13.map cU)),(22,iI l13.length),(23,iI p.2)] []) (fun p=>zBV l13 p.1 p.2=some o19) (fun p=>p.1) (fuel,0) l20 (zAc (by simp)) ?_
 rintro⟨k21,i17⟩ l20
 try dsimp only at l20 ⊢
 cases k21 with
 |zero=>
  rw[zBV] at l20;cases l20
 |succ k22=>
  rw[zBV] at l20
  refine cutA 43 0 [(0,.str s1),(21,.sl (l13.map cU)),(22,iI l13.length),(23,iI i17),(24,.bool (ltI i17 l13.length))] []<|zAA<|spc l20 rfl (fun g23 l20=>?_) fun g23 l20=>?_
  ·have c24:=ltT g23
   refine zC5 21 rfl fun f25=>?_
   rw[zq4] at f25
   refine zAB<|zAJ<|zAA<|zAF ?_
   obtain⟨x26,q27,l20⟩:=bs l20
   refine cut 43 0 [(0,.str s1),(5,.int .u8 x26.toNat),(21,.sl (l13.map cU)),(22,iI l13.length),(23,iI i17)] [] (st (by simp[q27])) ?_
   obtain⟨v28,q29,l20⟩:=bs l20
   refine cut 43 0 [(0,.str s1),(21,.sl (l13.map cU)),(22,iI l13.length),(23,iI i17),(29,.bool (!(eqI v28 3)))] [] ?_ ?_
   ·refine st ?_
    simp
    have r36:=zHM x26 v28 q29
    refine cP r36 ?_
    simp
   refine spc l20 rfl (fun g30 l20=>?_) fun g30 l20=>?_
   ·have g31:=notT g30
    refine cutA 43 0 [(2,iI 0),(3,iI 3)] []<|zAC<|zAR<|zAE ?_
    replace h:=retL l20 h
    refine zAE<|zAR<|zAE ?_
    cases h
    simp
   have g33:=notF g30
   refine zAB<|zDC<|zAJ ?_
   have q35:Rng .i64 (((i17:Nat):Int)+1):=by simp only[Rng,inR];omega
   refine last 43 0 [(0,.str s1),(21,.sl (l13.map cU)),(22,iI l13.length),(23,iI ((i17+1:Nat):Int))] [] (st (by simp[q35])) fun zz hs=>?_
   exact⟨(k22,i17+1),hs,l20,by simp⟩
  refine zC5 21 rfl fun f38=>?_
  rw[zq4] at f38
  refine zAW<|zAH ?_
  rcases o19 with o19|o18
  ·cases l20
  have q39:=Sum.inr.inj (zqa l20)
  replace h:=zHa h
  refine zAH<|zAX<|zAj (t:=mkS 43 0 [(0,.str s1)] []) ?_ (zAc (by simp))
  obtain⟨v40,q41,h⟩:=bs h
  rcases sp h with ⟨g42,h⟩|⟨g42,h⟩
  ·refine cut 43 0 [(6,iI v40.1),(7,.iface 200 (.cptr [.str [65,116,111,105],.str s1,.top]))] [] ?_ ?_
   ·refine st ?_
    simp[g42]
    have r46:=strconv_Atoi_ok s1 v40 q41
    refine cP r46 ?_
    simp[g42]
   refine zAA<|cutA 43 0 [(6,iI v40.1),(41,.bool true)] []<|zEj rfl rfl<|cutA 43 0 [(2,iI 0),(3,iI 6)] []<|zAC<|zAE ?_
   cases h
   simp
  refine cut 43 0 [(6,iI v40.1),(7,.nilif)] [] ?_ ?_
  ·refine st ?_
   simp[g42]
   have r47:=strconv_Atoi_ok s1 v40 q41
   refine cP r47 ?_
   simp[g42]
  refine zAA<|cutA 43 0 [(6,iI v40.1),(41,.bool (ltI 4503599627370496 v40.1))] []<|spc h rfl (fun g43 h=>?_) fun g43 h=>?_
  ·refine cutA 43 0 [(2,iI 0),(3,iI 6)] []<|zAC<|zAE ?_
   cases h
   simp
  refine zAB<|zAJ<|cutA 43 0 [(2,iI v40.1),(3,iI 0)] []<|zAC ?_
  cases h
  simp
theorem zC7(fuel:Nat)(s1:(List UInt8))(r:Bool)(h:zBO fuel s1=some r):Pure Tryz.prog 89 [.str s1] (.bool r):=by
 rw[zBO] at h
 refine zAD Tryz.func89 (by rfl) (by rfl) (by simp) (by simp) (by simp)<|cutA 33 0 [(0,.str s1)] [] ?_
 obtain⟨v2,q3,h⟩:=bs h
 refine cut 33 0 [(0,.str s1),(3,.str v2.1),(4,.str v2.2.1),(5,.bool v2.2.2)] [] ?_ ?_
 ·refine st ?_
  simp
  have r20:=zH0 s1 [46] v2 q3
  try simp at r20
  refine cP r20 ?_
  simp
 obtain⟨v4,q5,h⟩:=bs h
 refine cut 33 0 [(0,.str s1),(3,.str v2.1),(5,.bool v2.2.2),(7,iI v4.2)] [] ?_ ?_
 ·refine st ?_
  simp
  have r19:=zKO fuel v2.2.1 v4 q5
  try simp at r19
  refine cP r19 ?_
  simp
 obtain⟨b15,q16,h⟩:=bs h
 refine cut 33 0 [(2,.bool b15)] [] ?_ ?_
 ·rcases sp q16 with ⟨g6,q16⟩|⟨g6,q16⟩
  ·rcases sp q16 with ⟨g7,q16⟩|⟨g7,q16⟩
   ·have c8:=leT g7
    refine zKP 0 rfl fun f9=>?_
    obtain⟨v10,q11,q16⟩:=bs q16
    rcases sp q16 with ⟨g12,q16⟩|⟨g12,q16⟩
    ·obtain rfl:=oi q16
     refine st ?_
     simp[g6,g7,g12]
     have r17:=zFg fuel v2.1 v10 q11
     try simp[g6,g7,g12] at r17
     refine cP r17 ?_
     simp[g6,g7,g12]
    obtain rfl:=oi q16
    refine st ?_
    simp[g6,g7,g12]
    have r18:=zFg fuel v2.1 v10 q11
    try simp[g6,g7,g12] at r18
    refine cP r18 ?_
    simp[g6,g7,g12]
   have c13:=leF g7
   refine zKP 0 rfl fun f14=>?_
   obtain rfl:=oi q16
   refine st ?_
   simp[g6,g7]
  obtain rfl:=oi q16
  refine st ?_
  simp[g6]
 refine zAC ?_
 cases h
 simp
theorem kind_size_ok(fuel:Nat):(∀(k1:zLl)(left2:Int)(depth3:Int)(r:Int×Bool)(_:zC9 fuel k1 left2 depth3=some r),Pure Tryz.prog 143 [.agg [.sl (k1.L.map zLl.c)],iI left2,iI depth3] (.tup [iI r.1,.bool r.2])):=by
 induction fuel with
 |zero=>intro k1 left2 depth3 r h;rw[zC9] at h;cases h
 |succ fuel ih_kind_size=>
  intro k1 left2 depth3 r h
  rw[zC9] at h
  refine zAD Tryz.func143 (by rfl) (by rfl) (by simp) (by simp) (by simp)<|cutA 55 0 [(1,iI left2),(2,iI depth3),(3,pT 0)] [[.sl (k1.L.map zLl.c)]]<|zAA<|cut 55 0 [(1,iI left2),(2,iI depth3),(3,pT 0),(30,.bool ((leI left2 0)||((ltI 400 depth3)||((!(eqI k1.L.length 0))&&(!(eqI k1.L.length 2))))))] [[.sl (k1.L.map zLl.c)]] ?_ ?_
  ·rcases tf (leI left2 0) with g4|g4
   ·refine st ?_
    simp[g4]
   rcases tf (ltI 400 depth3) with g7|g7
   ·refine st ?_
    simp[g4,g7]
   rcases tf (!(eqI k1.L.length 0)) with g10|g10
   ·have g11:=notT g10
    refine st ?_
    simp[g4,g7,g10]
   have g13:=notF g10
   refine st ?_
   simp[g4,g7,g10]
  rcases sp h with ⟨g15,h⟩|⟨g15,h⟩
  ·refine zEj rfl g15<|cutA 55 0 [(6,iI 0),(7,.bool false)] [[.sl (k1.L.map zLl.c)]]<|zAC<|zAE ?_
   cases h
   simp
  obtain⟨g16,g17⟩:=orF g15
  obtain⟨g19,g20⟩:=orF g17
  refine zEt rfl g15<|zAB<|zAJ<|cutA 55 0 [(1,iI left2),(2,iI depth3),(3,pT 0),(8,iI 1)] [[.sl (k1.L.map zLl.c)]]<|zAA<|cutA 55 0 [(1,iI left2),(2,iI depth3),(8,iI 1),(32,.sl (k1.L.map zLl.c)),(33,iI k1.L.length),(34,iI 0)] [[.sl (k1.L.map zLl.c)]]<|zAF ?_
  obtain⟨o25,l26,h⟩:=bs h
  refine zAq (fun p:Nat×Int×Nat=>mkS 55 0 [(1,iI left2),(2,iI depth3),(8,iI p.2.1),(32,.sl (k1.L.map zLl.c)),(33,iI k1.L.length),(34,iI p.2.2)] [[.sl (k1.L.map zLl.c)]]) (fun p=>zB2 (zC9 fuel) k1 left2 depth3 p.1 p.2.1 p.2.2=some o25) (fun p=>p.1) (fuel,1,0) l26 (zAc (by simp)) ?_
  rintro⟨k27,n22,i23⟩ l26
  try dsimp only at l26 ⊢
  cases k27 with
  |zero=>
   rw[zB2] at l26;cases l26
  |succ k28=>
   rw[zB2] at l26
   refine cutA 55 0 [(1,iI left2),(2,iI depth3),(8,iI n22),(32,.sl (k1.L.map zLl.c)),(33,iI k1.L.length),(34,iI i23),(35,.bool (ltI i23 k1.L.length))] [[.sl (k1.L.map zLl.c)]]<|zAA<|spc l26 rfl (fun g29 l26=>?_) fun g29 l26=>?_
   ·have c30:=ltT g29
    refine zC5 32 rfl fun f31=>?_
    rw[zq4] at f31
    refine zAB<|zAJ<|zAA<|zAF ?_
    obtain⟨x32,q33,l26⟩:=bs l26
    refine cut 55 0 [(1,iI left2),(2,iI depth3),(8,iI n22),(10,pT 1),(32,.sl (k1.L.map zLl.c)),(33,iI k1.L.length),(34,iI i23)] [[.sl (k1.L.map zLl.c)],[.sl (x32.L.map zLl.c)]] (st (by simp[q33])) ?_
    obtain⟨n34,q35,l26⟩:=bs l26
    obtain⟨q36,q37⟩:=zBo q35
    have c38:=q36;simp only[Rng,inR] at c38
    obtain⟨n39,q40,l26⟩:=bs l26
    obtain⟨q41,q42⟩:=zBo q40
    have c43:=q41;simp only[Rng,inR] at c43
    obtain⟨v44,q45,l26⟩:=bs l26
    refine cut 55 0 [(1,iI left2),(2,iI depth3),(8,iI n22),(11,iI v44.1),(12,.bool v44.2),(32,.sl (k1.L.map zLl.c)),(33,iI k1.L.length),(34,iI i23)] [[.sl (k1.L.map zLl.c)],[.sl (x32.L.map zLl.c)]] ?_ ?_
    ·refine st ?_
     simp[q36,q37,q41,q42]
     have r55:=ih_kind_size x32 n34 n39 v44 q45
     refine cP r55 ?_
     simp[q36,q37,q41,q42]
    refine zAA<|cutA 55 0 [(1,iI left2),(2,iI depth3),(8,iI n22),(11,iI v44.1),(32,.sl (k1.L.map zLl.c)),(33,iI k1.L.length),(34,iI i23),(49,.bool (!v44.2))] [[.sl (k1.L.map zLl.c)],[.sl (x32.L.map zLl.c)]]<|spc l26 rfl (fun g46 l26=>?_) fun g46 l26=>?_
    ·refine cutA 55 0 [(6,iI 0),(7,.bool false)] [[.sl (k1.L.map zLl.c)],[.sl (x32.L.map zLl.c)]]<|zAC<|zAE<|zAR<|zAE ?_
     replace h:=retL l26 h
     refine zAE<|zAR<|zAE ?_
     cases h
     simp
    refine zAB<|zAJ ?_
    obtain⟨n49,q50,l26⟩:=bs l26
    obtain⟨q51,q52⟩:=zBo q50
    have c53:=q51;simp only[Rng,inR] at c53
    refine last 55 0 [(1,iI left2),(2,iI depth3),(8,iI n49),(32,.sl (k1.L.map zLl.c)),(33,iI k1.L.length),(34,iI i23)] [[.sl (k1.L.map zLl.c)],[.sl (x32.L.map zLl.c)]] (st (by simp[q51,q52])) fun zz hs=>?_
    refine zDC<|zAj ?_ hs
    have q54:Rng .i64 (((i23:Nat):Int)+1):=by simp only[Rng,inR];omega
    refine last 55 0 [(1,iI left2),(2,iI depth3),(8,iI n49),(32,.sl (k1.L.map zLl.c)),(33,iI k1.L.length),(34,iI ((i23+1:Nat):Int))] [[.sl (k1.L.map zLl.c)]] (st (by simp[q54])) fun zz hs=>?_
    exact⟨(k28,n49,i23+1),hs,l26,by simp⟩
   refine zC5 32 rfl fun f57=>?_
   rw[zq4] at f57
   refine zAW<|zAH ?_
   rcases o25 with o25|o24
   ·cases l26
   have q58:=Sum.inr.inj (zqa l26)
   replace h:=zHa h
   have q58:=q58.symm
   refine zAH<|zAX<|zAj (t:=mkS 55 0 [(8,iI o24)] [[.sl (k1.L.map zLl.c)]]) ?_ (zAc (by simp[q58]))
   refine cutA 55 0 [(6,iI o24),(7,.bool true)] [[.sl (k1.L.map zLl.c)]]<|zAC ?_
   cases h
   simp
theorem zEa(fuel:Nat)(k1:zLl)(r:Bool)(h:zCi fuel k1=some r):Pure Tryz.prog 91 [.agg [.sl (k1.L.map zLl.c)]] (.bool r):=by
 rw[zCi] at h
 refine zAD Tryz.func91 (by rfl) (by rfl) (by simp) (by simp) (by simp)<|cutA 11 0 [(1,pT 0)] [[.sl (k1.L.map zLl.c)]] ?_
 obtain⟨v2,q3,h⟩:=bs h
 refine cut 11 0 [(4,.bool v2.2)] [[.sl (k1.L.map zLl.c)]] ?_ ?_
 ·refine st ?_
  simp
  have r4:=kind_size_ok fuel k1 20000 1 v2 q3
  try simp at r4
  refine cP r4 ?_
  simp
 refine cutA 11 0 [(2,.bool v2.2)] [[.sl (k1.L.map zLl.c)]]<|zAC ?_
 cases h
 simp
theorem zA7(fuel:Nat)(l1:(List (List UInt8)))(r:Bool)(h:zAf fuel l1=some r):Pure Tryz.prog 93 [.sl (l1.map cS)] (.bool r):=by
 rw[zAf] at h
 refine zAD Tryz.func93 (by rfl) (by rfl) (by simp) (by simp) (by simp)<|cutA 20 0 [(0,.sl (l1.map cS))] []<|zAA<|cutA 20 0 [(0,.sl (l1.map cS)),(3,iI 1)] []<|zAF ?_
 obtain⟨o4,l5,h⟩:=bs h
 refine zAq (fun p:Nat×Nat=>mkS 20 0 [(0,.sl (l1.map cS)),(3,iI p.2)] []) (fun p=>zAk l1 p.1 p.2=some o4) (fun p=>p.1) (fuel,1) l5 (zAc (by simp)) ?_
 rintro⟨k6,i2⟩ l5
 try dsimp only at l5 ⊢
 cases k6 with
 |zero=>
  rw[zAk] at l5;cases l5
 |succ k7=>
  rw[zAk] at l5
  refine zAA<|cutA 20 0 [(0,.sl (l1.map cS)),(3,iI i2),(7,.bool (ltI i2 l1.length))] []<|spc l5 rfl (fun g8 l5=>?_) fun g8 l5=>?_
  ·have c9:=ltT g8
   refine zC5 0 rfl fun f10=>?_
   rw[zq4] at f10
   refine zAB<|zAJ<|zAA<|zAF ?_
   have q11:Rng .i64 (((i2:Nat):Int)-1):=by simp only[Rng,inR];omega
   try simp at q11
   obtain⟨x12,q13,l5⟩:=bs l5
   obtain⟨q14,q15⟩:=idx_ok q13
   try simp at q14
   try simp at q15
   obtain⟨x16,q17,l5⟩:=bs l5
   refine cut 20 0 [(0,.sl (l1.map cS)),(3,iI i2),(19,.bool (!(ltS x12 x16)))] [] ?_ ?_
   ·refine zAL [] mixed (n:=20) rfl (by decide) ?_
    simp[q11,q14,q15,q17]
   refine spc l5 rfl (fun g18 l5=>?_) fun g18 l5=>?_
   ·have g19:=notT g18
    refine cutA 20 0 [(2,.bool false)] []<|zAC<|zAR<|zAE ?_
    replace h:=retL l5 h
    refine zAE<|zAR<|zAE ?_
    cases h
    simp
   have g20:=notF g18
   refine zAB<|zDC<|zAJ ?_
   have q21:Rng .i64 (((i2:Nat):Int)+1):=by simp only[Rng,inR];omega
   try simp at q21
   refine last 20 0 [(0,.sl (l1.map cS)),(3,iI ((i2+1:Nat):Int))] [] (st (by simp[q21])) fun zz hs=>?_
   exact⟨(k7,i2+1),hs,l5,by simp⟩
  have c22:=ltF g8
  refine zC5 0 rfl fun f23=>?_
  rw[zq4] at f23
  refine zAW<|zAH ?_
  rcases o4 with o4|o3
  ·cases l5
  have q24:=Sum.inr.inj (zqa l5)
  replace h:=zHa h
  refine zAH<|zAX<|zAj (t:=mkS 20 0 [] []) ?_ (zAc (by simp))
  refine cutA 20 0 [(2,.bool true)] []<|zAC ?_
  cases h
  simp
theorem zJr(fuel:Nat)(s1:(List UInt8))(r:Bool)(h:zDS fuel s1=some r):Pure Tryz.prog 82 [.str s1] (.bool r):=by
 rw[zDS] at h
 refine zAD Tryz.func82 (by rfl) (by rfl) (by simp) (by simp) (by simp)<|cutA 23 0 [(0,.str s1)] []<|zAA<|cut 23 0 [(0,.str s1),(11,.bool ((eqS s1 ([]:List UInt8))||(ltI 48 s1.length)))] [] ?_ ?_
 ·rcases tf (eqS s1 ([]:List UInt8)) with g2|g2
  ·refine st ?_
   simp[g2]
  refine st ?_
  simp[g2]
 rcases sp h with ⟨g3,h⟩|⟨g3,h⟩
 ·refine zEj rfl g3<|cutA 23 0 [(2,.bool false)] []<|zAC<|zAE ?_
  cases h
  simp
 obtain⟨g4,g5⟩:=orF g3
 have c6:=ltF g5
 refine zEt rfl g3<|zKP 0 rfl fun f7=>?_
 refine zAB<|zAJ<|zAA ?_
 obtain⟨l8,q9,h⟩:=bs h
 obtain⟨q10,q11⟩:=zLb q9
 refine cut 23 0 [(13,.sl (l8.map cU)),(14,iI l8.length),(15,iI 0)] [] (st (by simp[q10,q11]))<|zAF ?_
 obtain⟨o14,l15,h⟩:=bs h
 refine zAq (fun p:Nat×Nat=>mkS 23 0 [(13,.sl (l8.map cU)),(14,iI l8.length),(15,iI p.2)] []) (fun p=>zBa l8 p.1 p.2=some o14) (fun p=>p.1) (fuel,0) l15 (zAc (by simp)) ?_
 rintro⟨k16,i12⟩ l15
 try dsimp only at l15 ⊢
 cases k16 with
 |zero=>
  rw[zBa] at l15;cases l15
 |succ k17=>
  rw[zBa] at l15
  refine cutA 23 0 [(13,.sl (l8.map cU)),(14,iI l8.length),(15,iI i12),(16,.bool (ltI i12 l8.length))] []<|zAA<|spc l15 rfl (fun g18 l15=>?_) fun g18 l15=>?_
  ·have c19:=ltT g18
   refine zC5 13 rfl fun f20=>?_
   rw[zq4] at f20
   refine zAB<|zAJ<|zAA<|zAF ?_
   obtain⟨x21,q22,l15⟩:=bs l15
   refine cut 23 0 [(4,.int .u8 x21.toNat),(13,.sl (l8.map cU)),(14,iI l8.length),(15,iI i12)] [] (st (by simp[q22])) ?_
   obtain⟨v23,q24,l15⟩:=bs l15
   refine cut 23 0 [(13,.sl (l8.map cU)),(14,iI l8.length),(15,iI i12),(21,.bool (eqI v23 0))] [] ?_ ?_
   ·refine st ?_
    simp
    have r29:=zHM x21 v23 q24
    try simp at r29
    refine cP r29 ?_
    simp
   refine spc l15 rfl (fun g25 l15=>?_) fun g25 l15=>?_
   ·have c26:=eqT g25
    refine cutA 23 0 [(2,.bool false)] []<|zAC<|zAR<|zAE ?_
    replace h:=retL l15 h
    refine zAE<|zAR<|zAE ?_
    cases h
    simp
   have c27:=eqF g25
   refine zAB<|zDC<|zAJ ?_
   have q28:Rng .i64 (((i12:Nat):Int)+1):=by simp only[Rng,inR];omega
   try simp at q28
   refine last 23 0 [(13,.sl (l8.map cU)),(14,iI l8.length),(15,iI ((i12+1:Nat):Int))] [] (st (by simp[q28])) fun zz hs=>?_
   exact⟨(k17,i12+1),hs,l15,by simp⟩
  have c30:=ltF g18
  refine zC5 13 rfl fun f31=>?_
  rw[zq4] at f31
  refine zAW<|zAH ?_
  rcases o14 with o14|o13
  ·cases l15
  have q32:=Sum.inr.inj (zqa l15)
  replace h:=zHa h
  refine zAH<|zAX<|zAj (t:=mkS 23 0 [] []) ?_ (zAc (by simp))
  refine cutA 23 0 [(2,.bool true)] []<|zAC ?_
  cases h
  simp
theorem zIu(fuel:Nat)(s1:(List UInt8))(r:Bool)(h:zCw fuel s1=some r):Pure Tryz.prog 94 [.str s1] (.bool r):=by
 rw[zCw] at h
 refine zAD Tryz.func94 (by rfl) (by rfl) (by simp) (by simp) (by simp)<|cutA 6 0 [(0,.str s1)] [] ?_
 obtain⟨v2,q3,h⟩:=bs h
 refine cut 6 0 [(2,.bool (!v2))] [] ?_ ?_
 ·refine st ?_
  simp
  have r4:=zJr fuel s1 v2 q3
  try simp at r4
  refine cP r4 ?_
  simp
 refine zAC ?_
 cases h
 simp
theorem zEi(fuel:Nat)(s1:(List (List UInt8)))(r:Int)(h:zBA fuel s1=some r):Pure Tryz.prog 51 [.sl (s1.map cS),.fn (.func 94) [] []] (iI r):=by
 rw[zBA] at h
 refine zAD Tryz.func51 (by rfl) (by rfl) (by simp) (by simp) (by simp)<|cutA 19 0 [(0,.sl (s1.map cS)),(1,.fn (.func 94) [] [])] []<|zAA<|cutA 19 0 [(0,.sl (s1.map cS)),(1,.fn (.func 94) [] []),(7,iI s1.length),(8,iI 0)] []<|zAF ?_
 obtain⟨o4,l5,h⟩:=bs h
 refine zAq (fun p:Nat×Nat=>mkS 19 0 [(0,.sl (s1.map cS)),(1,.fn (.func 94) [] []),(7,iI s1.length),(8,iI p.2)] []) (fun p=>zAP fuel s1 p.1 p.2=some o4) (fun p=>p.1) (fuel,0) l5 (zAc (by simp)) ?_
 rintro⟨k6,i2⟩ l5
 try dsimp only at l5 ⊢
 cases k6 with
 |zero=>
  rw[zAP] at l5;cases l5
 |succ k7=>
  rw[zAP] at l5
  refine cutA 19 0 [(0,.sl (s1.map cS)),(1,.fn (.func 94) [] []),(7,iI s1.length),(8,iI i2),(9,.bool (ltI i2 s1.length))] []<|zAA<|spc l5 rfl (fun g8 l5=>?_) fun g8 l5=>?_
  ·have c9:=ltT g8
   refine zC5 0 rfl fun f10=>?_
   rw[zq4] at f10
   refine zAB<|zAJ<|zAA<|zAF<|cutA 19 0 [(0,.sl (s1.map cS)),(1,.fn (.func 94) [] []),(5,iI i2),(7,iI s1.length),(8,iI i2)] [] ?_
   obtain⟨x11,q12,l5⟩:=bs l5
   obtain⟨v13,q14,l5⟩:=bs l5
   refine cut 19 0 [(0,.sl (s1.map cS)),(1,.fn (.func 94) [] []),(5,iI i2),(7,iI s1.length),(8,iI i2),(16,.bool v13)] [] ?_ ?_
   ·refine st ?_
    simp[q12]
    have r17:=zIu fuel x11 v13 q14
    try simp[q12] at r17
    refine cP r17 ?_
    simp[q12]
   refine spc l5 rfl (fun g15 l5=>?_) fun g15 l5=>?_
   ·refine cutA 19 0 [(4,iI i2)] []<|zAC<|zAR<|zAE ?_
    replace h:=retL l5 h
    refine zAE<|zAR<|zAE ?_
    cases h
    simp
   refine zAB<|zDC<|zAJ ?_
   have q16:Rng .i64 (((i2:Nat):Int)+1):=by simp only[Rng,inR];omega
   try simp at q16
   refine last 19 0 [(0,.sl (s1.map cS)),(1,.fn (.func 94) [] []),(7,iI s1.length),(8,iI ((i2+1:Nat):Int))] [] (st (by simp[q16])) fun zz hs=>?_
   exact⟨(k7,i2+1),hs,l5,by simp⟩
  have c18:=ltF g8
  refine zC5 0 rfl fun f19=>?_
  rw[zq4] at f19
  refine zAW<|zAH ?_
  rcases o4 with o4|o3
  ·cases l5
  have q20:=Sum.inr.inj (zqa l5)
  replace h:=zHa h
  refine zAH<|zAX<|zAj (t:=mkS 19 0 [] []) ?_ (zAc (by simp))
  refine cutA 19 0 [(4,iI (-1))] []<|zAC ?_
  cases h
  simp
theorem zAh(fuel:Nat)(s1:(List (List UInt8)))(r:Bool)(h:zAG fuel s1=some r):Pure Tryz.prog 26 [.sl (s1.map cS),.fn (.func 94) [] []] (.bool r):=by
 rw[zAG] at h
 refine zAD Tryz.func26 (by rfl) (by rfl) (by simp) (by simp) (by simp)<|cutA 9 0 [(0,.sl (s1.map cS)),(1,.fn (.func 94) [] [])] [] ?_
 obtain⟨v2,q3,h⟩:=bs h
 refine cut 9 0 [(4,.bool (leI 0 v2))] [] ?_ ?_
 ·refine st ?_
  simp
  have r4:=zEi fuel s1 v2 q3
  try simp at r4
  refine cP r4 ?_
  simp
 refine zAC ?_
 cases h
 simp
theorem zCu(fuel:Nat):(∀(x1:zLm)(r:Bool)(_:zBN fuel x1=some r),Pure Tryz.prog 96 [.agg (zLm.d x1)] (.bool r))∧(∀(s1:(List zLm))(r:Int)(_:zAm fuel s1=some r),Pure Tryz.prog 144 [.sl (s1.map zLm.c),.fn (.func 96) [] []] (iI r))∧(∀(s1:(List zLm))(r:Bool)(_:zAI fuel s1=some r),Pure Tryz.prog 95 [.sl (s1.map zLm.c),.fn (.func 96) [] []] (.bool r))∧(∀(c1:zLm)(r:Bool)(_:zCJ fuel c1=some r),Pure Tryz.prog 57 [.agg (zLm.d c1)] (.bool r)):=by
 induction fuel with
 |zero=>
  refine⟨?_,?_,?_,?_⟩
  ·intro x1 r h;rw[zBN] at h;cases h
  ·intro s1 r h;rw[zAm] at h;cases h
  ·intro s1 r h;rw[zAI] at h;cases h
  ·intro c1 r h;rw[zCJ] at h;cases h
 |succ fuel ih=>
  obtain⟨zIz,zET,zBX,zKM⟩:=ih
  refine⟨?_,?_,?_,?_⟩
  ·intro x1 r h
   rw[zBN] at h
   refine zAD Tryz.func96 (by rfl) (by rfl) (by simp) (by simp) (by simp)<|cutA 6 0 [(1,pT 0)] [(zLm.d x1)] ?_
   obtain⟨v2,q3,h⟩:=bs h
   refine cut 6 0 [(2,.bool (!v2))] [(zLm.d x1)] ?_ ?_
   ·refine st ?_
    simp
    have r4:=zKM x1 v2 q3
    try simp at r4
    refine cP r4 ?_
    simp
   refine zAC ?_
   cases h
   simp
  ·intro s1 r h
   rw[zAm] at h
   refine zAD Tryz.func144 (by rfl) (by rfl) (by simp) (by simp) (by simp)<|cutA 19 0 [(0,.sl (s1.map zLm.c)),(1,.fn (.func 96) [] [])] []<|zAA<|cutA 19 0 [(0,.sl (s1.map zLm.c)),(1,.fn (.func 96) [] []),(7,iI s1.length),(8,iI 0)] []<|zAF ?_
   obtain⟨o4,l5,h⟩:=bs h
   refine zAq (fun p:Nat×Nat=>mkS 19 0 [(0,.sl (s1.map zLm.c)),(1,.fn (.func 96) [] []),(7,iI s1.length),(8,iI p.2)] []) (fun p=>zAS (zBN fuel) s1 p.1 p.2=some o4) (fun p=>p.1) (fuel,0) l5 (zAc (by simp)) ?_
   rintro⟨k6,i2⟩ l5
   try dsimp only at l5 ⊢
   cases k6 with
   |zero=>
    rw[zAS] at l5;cases l5
   |succ k7=>
    rw[zAS] at l5
    refine cutA 19 0 [(0,.sl (s1.map zLm.c)),(1,.fn (.func 96) [] []),(7,iI s1.length),(8,iI i2),(9,.bool (ltI i2 s1.length))] []<|zAA<|spc l5 rfl (fun g8 l5=>?_) fun g8 l5=>?_
    ·have c9:=ltT g8
     refine zC5 0 rfl fun f10=>?_
     rw[zq4] at f10
     refine zAB<|zAJ<|zAA<|zAF<|cutA 19 0 [(0,.sl (s1.map zLm.c)),(1,.fn (.func 96) [] []),(5,iI i2),(7,iI s1.length),(8,iI i2)] [] ?_
     obtain⟨x11,q12,l5⟩:=bs l5
     obtain⟨v13,q14,l5⟩:=bs l5
     refine cut 19 0 [(0,.sl (s1.map zLm.c)),(1,.fn (.func 96) [] []),(5,iI i2),(7,iI s1.length),(8,iI i2),(16,.bool v13)] [] ?_ ?_
     ·refine st ?_
      simp[q12]
      have r17:=zIz x11 v13 q14
      try simp[q12] at r17
      refine cP r17 ?_
      simp[q12]
     refine spc l5 rfl (fun g15 l5=>?_) fun g15 l5=>?_
     ·refine cutA 19 0 [(4,iI i2)] []<|zAC<|zAR<|zAE ?_
      replace h:=retL l5 h
      refine zAE<|zAR<|zAE ?_
      cases h
      simp
     refine zAB<|zDC<|zAJ ?_
     have q16:Rng .i64 (((i2:Nat):Int)+1):=by simp only[Rng,inR];omega
     try simp at q16
     refine last 19 0 [(0,.sl (s1.map zLm.c)),(1,.fn (.func 96) [] []),(7,iI s1.length),(8,iI ((i2+1:Nat):Int))] [] (st (by simp[q16])) fun zz hs=>?_
     exact⟨(k7,i2+1),hs,l5,by simp⟩
    have c18:=ltF g8
    refine zC5 0 rfl fun f19=>?_
    rw[zq4] at f19
    refine zAW<|zAH ?_
    rcases o4 with o4|o3
    ·cases l5
    have q20:=Sum.inr.inj (zqa l5)
    replace h:=zHa h
    refine zAH<|zAX<|zAj (t:=mkS 19 0 [] []) ?_ (zAc (by simp))
    refine cutA 19 0 [(4,iI (-1))] []<|zAC ?_
    cases h
    simp
  ·intro s1 r h
   rw[zAI] at h
   refine zAD Tryz.func95 (by rfl) (by rfl) (by simp) (by simp) (by simp)<|cutA 9 0 [(0,.sl (s1.map zLm.c)),(1,.fn (.func 96) [] [])] [] ?_
   obtain⟨v2,q3,h⟩:=bs h
   refine cut 9 0 [(4,.bool (leI 0 v2))] [] ?_ ?_
   ·refine st ?_
    simp
    have r4:=zET s1 v2 q3
    try simp at r4
    refine cP r4 ?_
    simp
   refine zAC ?_
   cases h
   simp
  ·intro c1 r h
   rw[zCJ] at h
   refine zAD Tryz.func57 (by rfl) (by rfl) (by simp) (by simp) (by simp)<|cutA 100 0 [(1,pT 0)] [(zLm.d c1)]<|zAA ?_
   obtain⟨v2,q3,h⟩:=bs h
   refine cut 100 0 [(1,pT 0),(9,.bool (!(eqI c1.L.length v2)))] [(zLm.d c1)] ?_ ?_
   ·refine zAL [] mixed (n:=100) rfl (by decide) ?_
    simp
    have r267:=zKo c1 v2 q3
    try simp at r267
    refine zF9 r267 (by simp) rfl ?_
    simp
   rcases sp h with ⟨g4,h⟩|⟨g4,h⟩
   ·have g5:=notT g4
    have c6:=eqF g5
    refine zEj rfl g4<|cutA 100 0 [(2,.bool false)] [(zLm.d c1)]<|zAC<|zAE ?_
    cases h
    simp
   have g7:=notF g4
   have c8:=eqT g7
   refine zEt rfl g4<|zAB<|zAJ<|zAA<|cutA 100 0 [(1,pT 0),(11,iI c1.Op)] [(zLm.d c1)]<|zAF<|zAA ?_
   refine cutA 100 0 [(1,pT 0),(11,iI c1.Op),(15,.bool (eqI c1.Op 1))] [(zLm.d c1)]<|spc h rfl (fun g9 h=>?_) fun g9 h=>?_
   ·refine zAB<|zAJ<|zEj rfl (by simp[g9])<|cut 100 0 [(1,pT 0),(25,.bool ((ltI c1.N 0)||(ltI 20000 c1.N)))] [(zLm.d c1)] ?_ ?_
    ·rcases tf (ltI c1.N 0) with g11|g11
     ·have c12:=ltT g11
      refine st ?_
      simp[g11]
     have c13:=ltF g11
     refine st ?_
     simp[g11]
    rcases sp h with ⟨g14,h⟩|⟨g14,h⟩
    ·refine zEj rfl g14<|cutA 100 0 [(2,.bool false)] [(zLm.d c1)]<|zAC<|zAR<|zAE ?_
     cases h
     simp
    obtain⟨g15,g16⟩:=orF g14
    have c17:=ltF g15
    have c18:=ltF g16
    refine zEt rfl g14<|zAB<|zDC<|zAJ<|zAA ?_
    obtain⟨b27,q28,h⟩:=bs h
    refine cut 100 0 [(1,pT 0),(44,.bool b27)] [(zLm.d c1)] ?_ ?_
    ·rcases sp q28 with ⟨g19,q28⟩|⟨g19,q28⟩
     ·have c20:=eqT g19
      obtain⟨v21,q22,q28⟩:=bs q28
      rcases sp q28 with ⟨g23,q28⟩|⟨g23,q28⟩
      ·have g24:=notT g23
       obtain rfl:=oi q28
       refine st ?_
       simp[g19,g23]
       have r94:=zC7 fuel c1.S v21 q22
       try simp[g19,g23] at r94
       refine cP r94 ?_
       simp[g19,g23]
      have g25:=notF g23
      obtain rfl:=oi q28
      refine st ?_
      simp[g19,g23]
      have r95:=zC7 fuel c1.S v21 q22
      try simp[g19,g23] at r95
      refine cP r95 ?_
      simp[g19,g23]
     have c26:=eqF g19
     obtain rfl:=oi q28
     refine st ?_
     simp[g19]
    refine spc h rfl (fun g29 h=>?_) fun g29 h=>?_
    ·refine cutA 100 0 [(2,.bool false)] [(zLm.d c1)]<|zAC<|zAE ?_
     cases h
     simp
    refine zAB<|zAJ<|zAA ?_
    obtain⟨b33,q34,h⟩:=bs h
    refine cut 100 0 [(1,pT 0),(3,.bool b33)] [(zLm.d c1)] ?_ ?_
    ·obtain⟨v30,q31,q34⟩:=bs q34
     rcases sp q34 with ⟨g32,q34⟩|⟨g32,q34⟩
     ·obtain rfl:=oi q34
      refine st ?_
      simp[g32]
      have r92:=zBS c1 v30 q31
      try simp[g32] at r92
      refine cP r92 ?_
      simp[g32]
     obtain rfl:=oi q34
     refine st ?_
     simp[g32]
     have r93:=zBS c1 v30 q31
     try simp[g32] at r93
     refine cP r93 ?_
     simp[g32]
    obtain⟨b41,q42,h⟩:=bs h
    refine cut 100 0 [(1,pT 0),(69,.bool b41)] [(zLm.d c1)] ?_ ?_
    ·rcases sp q42 with ⟨g35,q42⟩|⟨g35,q42⟩
     ·obtain⟨v36,q37,q42⟩:=bs q42
      rcases sp q42 with ⟨g38,q42⟩|⟨g38,q42⟩
      ·have g39:=notT g38
       obtain rfl:=oi q42
       refine st ?_
       simp[g35,g38]
       have r90:=zEa fuel c1.Kind v36 q37
       try simp[g35,g38] at r90
       refine cP r90 ?_
       simp[g35,g38]
      have g40:=notF g38
      obtain rfl:=oi q42
      refine st ?_
      simp[g35,g38]
      have r91:=zEa fuel c1.Kind v36 q37
      try simp[g35,g38] at r91
      refine cP r91 ?_
      simp[g35,g38]
     obtain rfl:=oi q42
     refine st ?_
     simp[g35]
    refine spc h rfl (fun g43 h=>?_) fun g43 h=>?_
    ·refine cutA 100 0 [(2,.bool false)] [(zLm.d c1)]<|zAC<|zAE ?_
     cases h
     simp
    refine zAB<|zAJ<|zAA ?_
    obtain⟨b74,q75,h⟩:=bs h
    refine cut 100 0 [(1,pT 0),(95,.bool b74)] [(zLm.d c1)] ?_ ?_
    ·rcases sp q75 with ⟨g44,q75⟩|⟨g44,q75⟩
     ·have c45:=ltT g44
      refine zBk 0 4 rfl rfl rfl fun f46=>?_
      rw[zq4] at f46
      obtain⟨v47,q48,q75⟩:=bs q75
      rcases sp q75 with ⟨g49,q75⟩|⟨g49,q75⟩
      ·have g50:=notT g49
       obtain rfl:=oi q75
       have g44x:=g44
       try simp only[g49] at g44x
       have g49x:=g49
       try simp only[g44] at g49x
       refine zAy<|WL.cut 7 100 0 [(1,pT 0),(74,.bool (ltI 0 c1.Names.length)),(76,.bool v47)] [(zLm.d c1)] ?_ ?_
       ·simp[g44,g49,g44x,g49x]
        have r80:=zA6 c1 v47 q48
        try simp[g44,g49,g44x,g49x] at r80
        refine cP r80 ?_
        simp[g44,g49,g44x,g49x]
       refine WL.last ?_
       simp[g44,g49,g44x,g49x]
      have g51:=notF g49
      rcases sp q75 with ⟨g52,q75⟩|⟨g52,q75⟩
      ·have c53:=ltT g52
       obtain rfl:=oi q75
       have g44x:=g44
       try simp only[g49,g52] at g44x
       have g49x:=g49
       try simp only[g44,g52] at g49x
       have g52x:=g52
       try simp only[g44,g49] at g52x
       refine zAy<|WL.cut 7 100 0 [(1,pT 0),(74,.bool (ltI 0 c1.Names.length)),(76,.bool v47)] [(zLm.d c1)] ?_ ?_
       ·simp[g44,g49,g52,g44x,g49x,g52x]
        have r81:=zA6 c1 v47 q48
        try simp[g44,g49,g52,g44x,g49x,g52x] at r81
        refine cP r81 ?_
        simp[g44,g49,g52,g44x,g49x,g52x]
       refine WL.last ?_
       simp[g44,g49,g52,g44x,g49x,g52x]
      have c54:=ltF g52
      obtain⟨v55,q56,q75⟩:=bs q75
      rcases sp q75 with ⟨g57,q75⟩|⟨g57,q75⟩
      ·have g58:=notT g57
       obtain rfl:=oi q75
       have g44x:=g44
       try simp only[g49,g52,g57] at g44x
       have g49x:=g49
       try simp only[g44,g52,g57] at g49x
       have g52x:=g52
       try simp only[g44,g49,g57] at g52x
       have g57x:=g57
       try simp only[g44,g49,g52] at g57x
       refine zAy<|WL.cut 7 100 0 [(1,pT 0),(74,.bool (ltI 0 c1.Names.length)),(76,.bool v47)] [(zLm.d c1)] ?_ ?_
       ·simp[g44,g49,g52,g57,g44x,g49x,g52x,g57x]
        have r82:=zA6 c1 v47 q48
        try simp[g44,g49,g52,g57,g44x,g49x,g52x,g57x] at r82
        refine cP r82 ?_
        simp[g44,g49,g52,g57,g44x,g49x,g52x,g57x]
       refine WL.cut 12 100 0 [(1,pT 0),(85,.bool (ltI 1000 c1.Names.length)),(88,.bool v55)] [(zLm.d c1)] ?_ ?_
       ·simp[g44,g49,g52,g57,g44x,g49x,g52x,g57x]
        have r83:=zA7 fuel c1.Names v55 q56
        try simp[g44,g49,g52,g57,g44x,g49x,g52x,g57x] at r83
        refine cP r83 ?_
        simp[g44,g49,g52,g57,g44x,g49x,g52x,g57x]
       refine WL.last ?_
       simp[g44,g49,g52,g57,g44x,g49x,g52x,g57x]
      have g59:=notF g57
      obtain⟨v60,q61,q75⟩:=bs q75
      obtain rfl:=oi q75
      have g44x:=g44
      try simp only[g49,g52,g57] at g44x
      have g49x:=g49
      try simp only[g44,g52,g57] at g49x
      have g52x:=g52
      try simp only[g44,g49,g57] at g52x
      have g57x:=g57
      try simp only[g44,g49,g52] at g57x
      refine zAy<|WL.cut 7 100 0 [(1,pT 0),(74,.bool (ltI 0 c1.Names.length)),(76,.bool v47)] [(zLm.d c1)] ?_ ?_
      ·simp[g44,g49,g52,g57,g44x,g49x,g52x,g57x]
       have r84:=zA6 c1 v47 q48
       try simp[g44,g49,g52,g57,g44x,g49x,g52x,g57x] at r84
       refine cP r84 ?_
       simp[g44,g49,g52,g57,g44x,g49x,g52x,g57x]
      refine WL.cut 12 100 0 [(1,pT 0),(85,.bool (ltI 1000 c1.Names.length)),(88,.bool v55)] [(zLm.d c1)] ?_ ?_
      ·simp[g44,g49,g52,g57,g44x,g49x,g52x,g57x]
       have r85:=zA7 fuel c1.Names v55 q56
       try simp[g44,g49,g52,g57,g44x,g49x,g52x,g57x] at r85
       refine cP r85 ?_
       simp[g44,g49,g52,g57,g44x,g49x,g52x,g57x]
      refine WL.cut 6 100 0 [(1,pT 0),(91,.bool (!v55)),(94,.bool v60)] [(zLm.d c1)] ?_ ?_
      ·simp[g44,g49,g52,g57,g44x,g49x,g52x,g57x]
       have r86:=zAh fuel c1.Names v60 q61
       try simp[g44,g49,g52,g57,g44x,g49x,g52x,g57x] at r86
       refine cP r86 ?_
       simp[g44,g49,g52,g57,g44x,g49x,g52x,g57x]
      refine WL.last ?_
      simp[g44,g49,g52,g57,g44x,g49x,g52x,g57x]
     have c62:=ltF g44
     refine zBk 0 4 rfl rfl rfl fun f63=>?_
     rw[zq4] at f63
     rcases sp q75 with ⟨g64,q75⟩|⟨g64,q75⟩
     ·have c65:=ltT g64
      obtain rfl:=oi q75
      refine st ?_
      simp[g44,g64]
     have c66:=ltF g64
     obtain⟨v67,q68,q75⟩:=bs q75
     rcases sp q75 with ⟨g69,q75⟩|⟨g69,q75⟩
     ·have g70:=notT g69
      obtain rfl:=oi q75
      have g44x:=g44
      try simp only[g64,g69] at g44x
      have g64x:=g64
      try simp only[g44,g69] at g64x
      have g69x:=g69
      try simp only[g44,g64] at g69x
      refine zAy<|WL.cut 19 100 0 [(1,pT 0),(85,.bool (ltI 1000 c1.Names.length)),(88,.bool v67)] [(zLm.d c1)] ?_ ?_
      ·simp[g44,g64,g69,g44x,g64x,g69x]
       have r87:=zA7 fuel c1.Names v67 q68
       try simp[g44,g64,g69,g44x,g64x,g69x] at r87
       refine cP r87 ?_
       simp[g44,g64,g69,g44x,g64x,g69x]
      refine WL.last ?_
      simp[g44,g64,g69,g44x,g64x,g69x]
     have g71:=notF g69
     obtain⟨v72,q73,q75⟩:=bs q75
     obtain rfl:=oi q75
     have g44x:=g44
     try simp only[g64,g69] at g44x
     have g64x:=g64
     try simp only[g44,g69] at g64x
     have g69x:=g69
     try simp only[g44,g64] at g69x
     refine zAy<|WL.cut 19 100 0 [(1,pT 0),(85,.bool (ltI 1000 c1.Names.length)),(88,.bool v67)] [(zLm.d c1)] ?_ ?_
     ·simp[g44,g64,g69,g44x,g64x,g69x]
      have r88:=zA7 fuel c1.Names v67 q68
      try simp[g44,g64,g69,g44x,g64x,g69x] at r88
      refine cP r88 ?_
      simp[g44,g64,g69,g44x,g64x,g69x]
     refine WL.cut 6 100 0 [(1,pT 0),(91,.bool (!v67)),(94,.bool v72)] [(zLm.d c1)] ?_ ?_
     ·simp[g44,g64,g69,g44x,g64x,g69x]
      have r89:=zAh fuel c1.Names v72 q73
      try simp[g44,g64,g69,g44x,g64x,g69x] at r89
      refine cP r89 ?_
      simp[g44,g64,g69,g44x,g64x,g69x]
     refine WL.last ?_
     simp[g44,g64,g69,g44x,g64x,g69x]
    refine spc h rfl (fun g76 h=>?_) fun g76 h=>?_
    ·refine cutA 100 0 [(2,.bool false)] [(zLm.d c1)]<|zAC<|zAE ?_
     cases h
     simp
    refine zAB<|zAJ ?_
    obtain⟨v77,q78,h⟩:=bs h
    refine cut 100 0 [(2,.bool (!v77))] [(zLm.d c1)] ?_ ?_
    ·refine st ?_
     simp
     have r79:=zBX c1.L v77 q78
     try simp at r79
     refine cP r79 ?_
     simp
    refine zAC ?_
    cases h
    simp
   refine lastA 100 0 [(1,pT 0),(15,.bool (eqI c1.Op 3))] [(zLm.d c1)]<|spc h rfl (fun g97 h=>?_) fun g97 h=>?_
   ·have c98:=eqT g97
    refine cut 100 0 [(1,pT 0),(25,.bool ((ltI c1.N 0)||(ltI 20000 c1.N)))] [(zLm.d c1)] ?_ ?_
    ·rcases tf (ltI c1.N 0) with g99|g99
     ·have c100:=ltT g99
      refine st ?_
      simp[g99]
     have c101:=ltF g99
     refine st ?_
     simp[g99]
    rcases sp h with ⟨g102,h⟩|⟨g102,h⟩
    ·refine zEj rfl g102<|cutA 100 0 [(2,.bool false)] [(zLm.d c1)]<|zAC<|zAR<|zAE ?_
     cases h
     simp
    obtain⟨g103,g104⟩:=orF g102
    have c105:=ltF g103
    have c106:=ltF g104
    refine zEt rfl g102<|zAB<|zDC<|zAJ<|zAA ?_
    obtain⟨b115,q116,h⟩:=bs h
    refine cut 100 0 [(1,pT 0),(44,.bool b115)] [(zLm.d c1)] ?_ ?_
    ·rcases sp q116 with ⟨g107,q116⟩|⟨g107,q116⟩
     ·have c108:=eqT g107
      obtain⟨v109,q110,q116⟩:=bs q116
      rcases sp q116 with ⟨g111,q116⟩|⟨g111,q116⟩
      ·have g112:=notT g111
       obtain rfl:=oi q116
       refine st ?_
       simp[g107,g111]
       have r182:=zC7 fuel c1.S v109 q110
       try simp[g107,g111] at r182
       refine cP r182 ?_
       simp[g107,g111]
      have g113:=notF g111
      obtain rfl:=oi q116
      refine st ?_
      simp[g107,g111]
      have r183:=zC7 fuel c1.S v109 q110
      try simp[g107,g111] at r183
      refine cP r183 ?_
      simp[g107,g111]
     have c114:=eqF g107
     obtain rfl:=oi q116
     refine st ?_
     simp[g107]
    refine spc h rfl (fun g117 h=>?_) fun g117 h=>?_
    ·refine cutA 100 0 [(2,.bool false)] [(zLm.d c1)]<|zAC<|zAE ?_
     cases h
     simp
    refine zAB<|zAJ<|zAA ?_
    obtain⟨b121,q122,h⟩:=bs h
    refine cut 100 0 [(1,pT 0),(3,.bool b121)] [(zLm.d c1)] ?_ ?_
    ·obtain⟨v118,q119,q122⟩:=bs q122
     rcases sp q122 with ⟨g120,q122⟩|⟨g120,q122⟩
     ·obtain rfl:=oi q122
      refine st ?_
      simp[g120]
      have r180:=zBS c1 v118 q119
      try simp[g120] at r180
      refine cP r180 ?_
      simp[g120]
     obtain rfl:=oi q122
     refine st ?_
     simp[g120]
     have r181:=zBS c1 v118 q119
     try simp[g120] at r181
     refine cP r181 ?_
     simp[g120]
    obtain⟨b129,q130,h⟩:=bs h
    refine cut 100 0 [(1,pT 0),(69,.bool b129)] [(zLm.d c1)] ?_ ?_
    ·rcases sp q130 with ⟨g123,q130⟩|⟨g123,q130⟩
     ·obtain⟨v124,q125,q130⟩:=bs q130
      rcases sp q130 with ⟨g126,q130⟩|⟨g126,q130⟩
      ·have g127:=notT g126
       obtain rfl:=oi q130
       refine st ?_
       simp[g123,g126]
       have r178:=zEa fuel c1.Kind v124 q125
       try simp[g123,g126] at r178
       refine cP r178 ?_
       simp[g123,g126]
      have g128:=notF g126
      obtain rfl:=oi q130
      refine st ?_
      simp[g123,g126]
      have r179:=zEa fuel c1.Kind v124 q125
      try simp[g123,g126] at r179
      refine cP r179 ?_
      simp[g123,g126]
     obtain rfl:=oi q130
     refine st ?_
     simp[g123]
    refine spc h rfl (fun g131 h=>?_) fun g131 h=>?_
    ·refine cutA 100 0 [(2,.bool false)] [(zLm.d c1)]<|zAC<|zAE ?_
     cases h
     simp
    refine zAB<|zAJ<|zAA ?_
    obtain⟨b162,q163,h⟩:=bs h
    refine cut 100 0 [(1,pT 0),(95,.bool b162)] [(zLm.d c1)] ?_ ?_
    ·rcases sp q163 with ⟨g132,q163⟩|⟨g132,q163⟩
     ·have c133:=ltT g132
      refine zBk 0 4 rfl rfl rfl fun f134=>?_
      rw[zq4] at f134
      obtain⟨v135,q136,q163⟩:=bs q163
      rcases sp q163 with ⟨g137,q163⟩|⟨g137,q163⟩
      ·have g138:=notT g137
       obtain rfl:=oi q163
       have g132x:=g132
       try simp only[g137] at g132x
       have g137x:=g137
       try simp only[g132] at g137x
       refine zAy<|WL.cut 7 100 0 [(1,pT 0),(74,.bool (ltI 0 c1.Names.length)),(76,.bool v135)] [(zLm.d c1)] ?_ ?_
       ·simp[g132,g137,g132x,g137x]
        have r168:=zA6 c1 v135 q136
        try simp[g132,g137,g132x,g137x] at r168
        refine cP r168 ?_
        simp[g132,g137,g132x,g137x]
       refine WL.last ?_
       simp[g132,g137,g132x,g137x]
      have g139:=notF g137
      rcases sp q163 with ⟨g140,q163⟩|⟨g140,q163⟩
      ·have c141:=ltT g140
       obtain rfl:=oi q163
       have g132x:=g132
       try simp only[g137,g140] at g132x
       have g137x:=g137
       try simp only[g132,g140] at g137x
       have g140x:=g140
       try simp only[g132,g137] at g140x
       refine zAy<|WL.cut 7 100 0 [(1,pT 0),(74,.bool (ltI 0 c1.Names.length)),(76,.bool v135)] [(zLm.d c1)] ?_ ?_
       ·simp[g132,g137,g140,g132x,g137x,g140x]
        have r169:=zA6 c1 v135 q136
        try simp[g132,g137,g140,g132x,g137x,g140x] at r169
        refine cP r169 ?_
        simp[g132,g137,g140,g132x,g137x,g140x]
       refine WL.last ?_
       simp[g132,g137,g140,g132x,g137x,g140x]
      have c142:=ltF g140
      obtain⟨v143,q144,q163⟩:=bs q163
      rcases sp q163 with ⟨g145,q163⟩|⟨g145,q163⟩
      ·have g146:=notT g145
       obtain rfl:=oi q163
       have g132x:=g132
       try simp only[g137,g140,g145] at g132x
       have g137x:=g137
       try simp only[g132,g140,g145] at g137x
       have g140x:=g140
       try simp only[g132,g137,g145] at g140x
       have g145x:=g145
       try simp only[g132,g137,g140] at g145x
       refine zAy<|WL.cut 7 100 0 [(1,pT 0),(74,.bool (ltI 0 c1.Names.length)),(76,.bool v135)] [(zLm.d c1)] ?_ ?_
       ·simp[g132,g137,g140,g145,g132x,g137x,g140x,g145x]
        have r170:=zA6 c1 v135 q136
        try simp[g132,g137,g140,g145,g132x,g137x,g140x,g145x] at r170
        refine cP r170 ?_
        simp[g132,g137,g140,g145,g132x,g137x,g140x,g145x]
       refine WL.cut 12 100 0 [(1,pT 0),(85,.bool (ltI 1000 c1.Names.length)),(88,.bool v143)] [(zLm.d c1)] ?_ ?_
       ·simp[g132,g137,g140,g145,g132x,g137x,g140x,g145x]
        have r171:=zA7 fuel c1.Names v143 q144
        try simp[g132,g137,g140,g145,g132x,g137x,g140x,g145x] at r171
        refine cP r171 ?_
        simp[g132,g137,g140,g145,g132x,g137x,g140x,g145x]
       refine WL.last ?_
       simp[g132,g137,g140,g145,g132x,g137x,g140x,g145x]
      have g147:=notF g145
      obtain⟨v148,q149,q163⟩:=bs q163
      obtain rfl:=oi q163
      have g132x:=g132
      try simp only[g137,g140,g145] at g132x
      have g137x:=g137
      try simp only[g132,g140,g145] at g137x
      have g140x:=g140
      try simp only[g132,g137,g145] at g140x
      have g145x:=g145
      try simp only[g132,g137,g140] at g145x
      refine zAy<|WL.cut 7 100 0 [(1,pT 0),(74,.bool (ltI 0 c1.Names.length)),(76,.bool v135)] [(zLm.d c1)] ?_ ?_
      ·simp[g132,g137,g140,g145,g132x,g137x,g140x,g145x]
       have r172:=zA6 c1 v135 q136
       try simp[g132,g137,g140,g145,g132x,g137x,g140x,g145x] at r172
       refine cP r172 ?_
       simp[g132,g137,g140,g145,g132x,g137x,g140x,g145x]
      refine WL.cut 12 100 0 [(1,pT 0),(85,.bool (ltI 1000 c1.Names.length)),(88,.bool v143)] [(zLm.d c1)] ?_ ?_
      ·simp[g132,g137,g140,g145,g132x,g137x,g140x,g145x]
       have r173:=zA7 fuel c1.Names v143 q144
       try simp[g132,g137,g140,g145,g132x,g137x,g140x,g145x] at r173
       refine cP r173 ?_
       simp[g132,g137,g140,g145,g132x,g137x,g140x,g145x]
      refine WL.cut 6 100 0 [(1,pT 0),(91,.bool (!v143)),(94,.bool v148)] [(zLm.d c1)] ?_ ?_
      ·simp[g132,g137,g140,g145,g132x,g137x,g140x,g145x]
       have r174:=zAh fuel c1.Names v148 q149
       try simp[g132,g137,g140,g145,g132x,g137x,g140x,g145x] at r174
       refine cP r174 ?_
       simp[g132,g137,g140,g145,g132x,g137x,g140x,g145x]
      refine WL.last ?_
      simp[g132,g137,g140,g145,g132x,g137x,g140x,g145x]
     have c150:=ltF g132
     refine zBk 0 4 rfl rfl rfl fun f151=>?_
     rw[zq4] at f151
     rcases sp q163 with ⟨g152,q163⟩|⟨g152,q163⟩
     ·have c153:=ltT g152
      obtain rfl:=oi q163
      refine st ?_
      simp[g132,g152]
     have c154:=ltF g152
     obtain⟨v155,q156,q163⟩:=bs q163
     rcases sp q163 with ⟨g157,q163⟩|⟨g157,q163⟩
     ·have g158:=notT g157
      obtain rfl:=oi q163
      have g132x:=g132
      try simp only[g152,g157] at g132x
      have g152x:=g152
      try simp only[g132,g157] at g152x
      have g157x:=g157
      try simp only[g132,g152] at g157x
      refine zAy<|WL.cut 19 100 0 [(1,pT 0),(85,.bool (ltI 1000 c1.Names.length)),(88,.bool v155)] [(zLm.d c1)] ?_ ?_
      ·simp[g132,g152,g157,g132x,g152x,g157x]
       have r175:=zA7 fuel c1.Names v155 q156
       try simp[g132,g152,g157,g132x,g152x,g157x] at r175
       refine cP r175 ?_
       simp[g132,g152,g157,g132x,g152x,g157x]
      refine WL.last ?_
      simp[g132,g152,g157,g132x,g152x,g157x]
     have g159:=notF g157
     obtain⟨v160,q161,q163⟩:=bs q163
     obtain rfl:=oi q163
     have g132x:=g132
     try simp only[g152,g157] at g132x
     have g152x:=g152
     try simp only[g132,g157] at g152x
     have g157x:=g157
     try simp only[g132,g152] at g157x
     refine zAy<|WL.cut 19 100 0 [(1,pT 0),(85,.bool (ltI 1000 c1.Names.length)),(88,.bool v155)] [(zLm.d c1)] ?_ ?_
     ·simp[g132,g152,g157,g132x,g152x,g157x]
      have r176:=zA7 fuel c1.Names v155 q156
      try simp[g132,g152,g157,g132x,g152x,g157x] at r176
      refine cP r176 ?_
      simp[g132,g152,g157,g132x,g152x,g157x]
     refine WL.cut 6 100 0 [(1,pT 0),(91,.bool (!v155)),(94,.bool v160)] [(zLm.d c1)] ?_ ?_
     ·simp[g132,g152,g157,g132x,g152x,g157x]
      have r177:=zAh fuel c1.Names v160 q161
      try simp[g132,g152,g157,g132x,g152x,g157x] at r177
      refine cP r177 ?_
      simp[g132,g152,g157,g132x,g152x,g157x]
     refine WL.last ?_
     simp[g132,g152,g157,g132x,g152x,g157x]
    refine spc h rfl (fun g164 h=>?_) fun g164 h=>?_
    ·refine cutA 100 0 [(2,.bool false)] [(zLm.d c1)]<|zAC<|zAE ?_
     cases h
     simp
    refine zAB<|zAJ ?_
    obtain⟨v165,q166,h⟩:=bs h
    refine cut 100 0 [(2,.bool (!v165))] [(zLm.d c1)] ?_ ?_
    ·refine st ?_
     simp
     have r167:=zBX c1.L v165 q166
     try simp at r167
     refine cP r167 ?_
     simp
    refine zAC ?_
    cases h
    simp
   have c184:=eqF g97
   refine cutA 100 0 [(1,pT 0),(14,.bool (!(eqI c1.N 0)))] [(zLm.d c1)] ?_
   rcases sp h with ⟨g185,h⟩|⟨g185,h⟩
   ·have g186:=notT g185
    have c187:=eqF g186
    refine zEj rfl g185<|cutA 100 0 [(2,.bool false)] [(zLm.d c1)]<|zAC<|zAR<|zAE ?_
    cases h
    simp
   have g188:=notF g185
   have c189:=eqT g188
   refine zEt rfl g185<|zAB<|zDC<|zAJ<|zAA ?_
   obtain⟨b198,q199,h⟩:=bs h
   refine cut 100 0 [(1,pT 0),(44,.bool b198)] [(zLm.d c1)] ?_ ?_
   ·rcases sp q199 with ⟨g190,q199⟩|⟨g190,q199⟩
    ·have c191:=eqT g190
     obtain⟨v192,q193,q199⟩:=bs q199
     rcases sp q199 with ⟨g194,q199⟩|⟨g194,q199⟩
     ·have g195:=notT g194
      obtain rfl:=oi q199
      refine st ?_
      simp[g190,g194]
      have r265:=zC7 fuel c1.S v192 q193
      try simp[g190,g194] at r265
      refine cP r265 ?_
      simp[g190,g194]
     have g196:=notF g194
     obtain rfl:=oi q199
     refine st ?_
     simp[g190,g194]
     have r266:=zC7 fuel c1.S v192 q193
     try simp[g190,g194] at r266
     refine cP r266 ?_
     simp[g190,g194]
    have c197:=eqF g190
    obtain rfl:=oi q199
    refine st ?_
    simp[g190]
   refine spc h rfl (fun g200 h=>?_) fun g200 h=>?_
   ·refine cutA 100 0 [(2,.bool false)] [(zLm.d c1)]<|zAC<|zAE ?_
    cases h
    simp
   refine zAB<|zAJ<|zAA ?_
   obtain⟨b204,q205,h⟩:=bs h
   refine cut 100 0 [(1,pT 0),(3,.bool b204)] [(zLm.d c1)] ?_ ?_
   ·obtain⟨v201,q202,q205⟩:=bs q205
    rcases sp q205 with ⟨g203,q205⟩|⟨g203,q205⟩
    ·obtain rfl:=oi q205
     refine st ?_
     simp[g203]
     have r263:=zBS c1 v201 q202
     try simp[g203] at r263
     refine cP r263 ?_
     simp[g203]
    obtain rfl:=oi q205
    refine st ?_
    simp[g203]
    have r264:=zBS c1 v201 q202
    try simp[g203] at r264
    refine cP r264 ?_
    simp[g203]
   obtain⟨b212,q213,h⟩:=bs h
   refine cut 100 0 [(1,pT 0),(69,.bool b212)] [(zLm.d c1)] ?_ ?_
   ·rcases sp q213 with ⟨g206,q213⟩|⟨g206,q213⟩
    ·obtain⟨v207,q208,q213⟩:=bs q213
     rcases sp q213 with ⟨g209,q213⟩|⟨g209,q213⟩
     ·have g210:=notT g209
      obtain rfl:=oi q213
      refine st ?_
      simp[g206,g209]
      have r261:=zEa fuel c1.Kind v207 q208
      try simp[g206,g209] at r261
      refine cP r261 ?_
      simp[g206,g209]
     have g211:=notF g209
     obtain rfl:=oi q213
     refine st ?_
     simp[g206,g209]
     have r262:=zEa fuel c1.Kind v207 q208
     try simp[g206,g209] at r262
     refine cP r262 ?_
     simp[g206,g209]
    obtain rfl:=oi q213
    refine st ?_
    simp[g206]
   refine spc h rfl (fun g214 h=>?_) fun g214 h=>?_
   ·refine cutA 100 0 [(2,.bool false)] [(zLm.d c1)]<|zAC<|zAE ?_
    cases h
    simp
   refine zAB<|zAJ<|zAA ?_
   obtain⟨b245,q246,h⟩:=bs h
   refine cut 100 0 [(1,pT 0),(95,.bool b245)] [(zLm.d c1)] ?_ ?_
   ·rcases sp q246 with ⟨g215,q246⟩|⟨g215,q246⟩
    ·have c216:=ltT g215
     refine zBk 0 4 rfl rfl rfl fun f217=>?_
     rw[zq4] at f217
     obtain⟨v218,q219,q246⟩:=bs q246
     rcases sp q246 with ⟨g220,q246⟩|⟨g220,q246⟩
     ·have g221:=notT g220
      obtain rfl:=oi q246
      have g215x:=g215
      try simp only[g220] at g215x
      have g220x:=g220
      try simp only[g215] at g220x
      refine zAy<|WL.cut 7 100 0 [(1,pT 0),(74,.bool (ltI 0 c1.Names.length)),(76,.bool v218)] [(zLm.d c1)] ?_ ?_
      ·simp[g215,g220,g215x,g220x]
       have r251:=zA6 c1 v218 q219
       try simp[g215,g220,g215x,g220x] at r251
       refine cP r251 ?_
       simp[g215,g220,g215x,g220x]
      refine WL.last ?_
      simp[g215,g220,g215x,g220x]
     have g222:=notF g220
     rcases sp q246 with ⟨g223,q246⟩|⟨g223,q246⟩
     ·have c224:=ltT g223
      obtain rfl:=oi q246
      have g215x:=g215
      try simp only[g220,g223] at g215x
      have g220x:=g220
      try simp only[g215,g223] at g220x
      have g223x:=g223
      try simp only[g215,g220] at g223x
      refine zAy<|WL.cut 7 100 0 [(1,pT 0),(74,.bool (ltI 0 c1.Names.length)),(76,.bool v218)] [(zLm.d c1)] ?_ ?_
      ·simp[g215,g220,g223,g215x,g220x,g223x]
       have r252:=zA6 c1 v218 q219
       try simp[g215,g220,g223,g215x,g220x,g223x] at r252
       refine cP r252 ?_
       simp[g215,g220,g223,g215x,g220x,g223x]
      refine WL.last ?_
      simp[g215,g220,g223,g215x,g220x,g223x]
     have c225:=ltF g223
     obtain⟨v226,q227,q246⟩:=bs q246
     rcases sp q246 with ⟨g228,q246⟩|⟨g228,q246⟩
     ·have g229:=notT g228
      obtain rfl:=oi q246
      have g215x:=g215
      try simp only[g220,g223,g228] at g215x
      have g220x:=g220
      try simp only[g215,g223,g228] at g220x
      have g223x:=g223
      try simp only[g215,g220,g228] at g223x
      have g228x:=g228
      try simp only[g215,g220,g223] at g228x
      refine zAy<|WL.cut 7 100 0 [(1,pT 0),(74,.bool (ltI 0 c1.Names.length)),(76,.bool v218)] [(zLm.d c1)] ?_ ?_
      ·simp[g215,g220,g223,g228,g215x,g220x,g223x,g228x]
       have r253:=zA6 c1 v218 q219
       try simp[g215,g220,g223,g228,g215x,g220x,g223x,g228x] at r253
       refine cP r253 ?_
       simp[g215,g220,g223,g228,g215x,g220x,g223x,g228x]
      refine WL.cut 12 100 0 [(1,pT 0),(85,.bool (ltI 1000 c1.Names.length)),(88,.bool v226)] [(zLm.d c1)] ?_ ?_
      ·simp[g215,g220,g223,g228,g215x,g220x,g223x,g228x]
       have r254:=zA7 fuel c1.Names v226 q227
       try simp[g215,g220,g223,g228,g215x,g220x,g223x,g228x] at r254
       refine cP r254 ?_
       simp[g215,g220,g223,g228,g215x,g220x,g223x,g228x]
      refine WL.last ?_
      simp[g215,g220,g223,g228,g215x,g220x,g223x,g228x]
     have g230:=notF g228
     obtain⟨v231,q232,q246⟩:=bs q246
     obtain rfl:=oi q246
     have g215x:=g215
     try simp only[g220,g223,g228] at g215x
     have g220x:=g220
     try simp only[g215,g223,g228] at g220x
     have g223x:=g223
     try simp only[g215,g220,g228] at g223x
     have g228x:=g228
     try simp only[g215,g220,g223] at g228x
     refine zAy<|WL.cut 7 100 0 [(1,pT 0),(74,.bool (ltI 0 c1.Names.length)),(76,.bool v218)] [(zLm.d c1)] ?_ ?_
     ·simp[g215,g220,g223,g228,g215x,g220x,g223x,g228x]
      have r255:=zA6 c1 v218 q219
      try simp[g215,g220,g223,g228,g215x,g220x,g223x,g228x] at r255
      refine cP r255 ?_
      simp[g215,g220,g223,g228,g215x,g220x,g223x,g228x]
     refine WL.cut 12 100 0 [(1,pT 0),(85,.bool (ltI 1000 c1.Names.length)),(88,.bool v226)] [(zLm.d c1)] ?_ ?_
     ·simp[g215,g220,g223,g228,g215x,g220x,g223x,g228x]
      have r256:=zA7 fuel c1.Names v226 q227
      try simp[g215,g220,g223,g228,g215x,g220x,g223x,g228x] at r256
      refine cP r256 ?_
      simp[g215,g220,g223,g228,g215x,g220x,g223x,g228x]
     refine WL.cut 6 100 0 [(1,pT 0),(91,.bool (!v226)),(94,.bool v231)] [(zLm.d c1)] ?_ ?_
     ·simp[g215,g220,g223,g228,g215x,g220x,g223x,g228x]
      have r257:=zAh fuel c1.Names v231 q232
      try simp[g215,g220,g223,g228,g215x,g220x,g223x,g228x] at r257
      refine cP r257 ?_
      simp[g215,g220,g223,g228,g215x,g220x,g223x,g228x]
     refine WL.last ?_
     simp[g215,g220,g223,g228,g215x,g220x,g223x,g228x]
    have c233:=ltF g215
    refine zBk 0 4 rfl rfl rfl fun f234=>?_
    rw[zq4] at f234
    rcases sp q246 with ⟨g235,q246⟩|⟨g235,q246⟩
    ·have c236:=ltT g235
     obtain rfl:=oi q246
     refine st ?_
     simp[g215,g235]
    have c237:=ltF g235
    obtain⟨v238,q239,q246⟩:=bs q246
    rcases sp q246 with ⟨g240,q246⟩|⟨g240,q246⟩
    ·have g241:=notT g240
     obtain rfl:=oi q246
     have g215x:=g215
     try simp only[g235,g240] at g215x
     have g235x:=g235
     try simp only[g215,g240] at g235x
     have g240x:=g240
     try simp only[g215,g235] at g240x
     refine zAy<|WL.cut 19 100 0 [(1,pT 0),(85,.bool (ltI 1000 c1.Names.length)),(88,.bool v238)] [(zLm.d c1)] ?_ ?_
     ·simp[g215,g235,g240,g215x,g235x,g240x]
      have r258:=zA7 fuel c1.Names v238 q239
      try simp[g215,g235,g240,g215x,g235x,g240x] at r258
      refine cP r258 ?_
      simp[g215,g235,g240,g215x,g235x,g240x]
     refine WL.last ?_
     simp[g215,g235,g240,g215x,g235x,g240x]
    have g242:=notF g240
    obtain⟨v243,q244,q246⟩:=bs q246
    obtain rfl:=oi q246
    have g215x:=g215
    try simp only[g235,g240] at g215x
    have g235x:=g235
    try simp only[g215,g240] at g235x
    have g240x:=g240
    try simp only[g215,g235] at g240x
    refine zAy<|WL.cut 19 100 0 [(1,pT 0),(85,.bool (ltI 1000 c1.Names.length)),(88,.bool v238)] [(zLm.d c1)] ?_ ?_
    ·simp[g215,g235,g240,g215x,g235x,g240x]
     have r259:=zA7 fuel c1.Names v238 q239
     try simp[g215,g235,g240,g215x,g235x,g240x] at r259
     refine cP r259 ?_
     simp[g215,g235,g240,g215x,g235x,g240x]
    refine WL.cut 6 100 0 [(1,pT 0),(91,.bool (!v238)),(94,.bool v243)] [(zLm.d c1)] ?_ ?_
    ·simp[g215,g235,g240,g215x,g235x,g240x]
     have r260:=zAh fuel c1.Names v243 q244
     try simp[g215,g235,g240,g215x,g235x,g240x] at r260
     refine cP r260 ?_
     simp[g215,g235,g240,g215x,g235x,g240x]
    refine WL.last ?_
    simp[g215,g235,g240,g215x,g235x,g240x]
   refine spc h rfl (fun g247 h=>?_) fun g247 h=>?_
   ·refine cutA 100 0 [(2,.bool false)] [(zLm.d c1)]<|zAC<|zAE ?_
    cases h
    simp
   refine zAB<|zAJ ?_
   obtain⟨v248,q249,h⟩:=bs h
   refine cut 100 0 [(2,.bool (!v248))] [(zLm.d c1)] ?_ ?_
   ·refine st ?_
    simp
    have r250:=zBX c1.L v248 q249
    try simp at r250
    refine cP r250 ?_
    simp
   refine zAC ?_
   cases h
   simp
theorem zJ6(fuel:Nat):(∀(c1:zLm)(r:Bool)(_:zCJ fuel c1=some r),Pure Tryz.prog 57 [.agg (zLm.d c1)] (.bool r)):=(zCu fuel).2.2.2
theorem zCI(fuel:Nat)(c1:zLm)(r:Bool)(h:zA8 fuel c1=some r):Pure Tryz.prog 29 [.agg (zLm.d c1)] (.bool r):=by
 rw[zA8] at h
 refine zAD Tryz.func29 (by rfl) (by rfl) (by simp) (by simp) (by simp)<|cutA 15 0 [(1,pT 0)] [(zLm.d c1)] ?_
 obtain⟨b14,q15,h⟩:=bs h
 refine cut 15 0 [(2,.bool b14)] [(zLm.d c1)] ?_ ?_
 ·obtain⟨v2,q3,q15⟩:=bs q15
  rcases sp q15 with ⟨g4,q15⟩|⟨g4,q15⟩
  ·have c5:=leT g4
   obtain⟨v6,q7,q15⟩:=bs q15
   rcases sp q15 with ⟨g8,q15⟩|⟨g8,q15⟩
   ·have c9:=leT g8
    obtain⟨v10,q11,q15⟩:=bs q15
    obtain rfl:=oi q15
    have g4x:=g4
    try simp only[g8] at g4x
    have g8x:=g8
    try simp only[g4] at g8x
    refine zAy<|WL.cut 2 15 0 [(1,pT 0),(4,iI v2)] [(zLm.d c1)] ?_ ?_
    ·simp[g4,g8,g4x,g8x]
     have r16:=zEZ fuel c1 v2 q3
     try simp[g4,g8,g4x,g8x] at r16
     refine cP r16 ?_
     simp[g4,g8,g4x,g8x]
    refine WL.cut 4 15 0 [(1,pT 0),(6,.bool (leI v2 20000)),(8,iI v6)] [(zLm.d c1)] ?_ ?_
    ·simp[g4,g8,g4x,g8x]
     have r17:=zHu fuel c1 v6 q7
     try simp[g4,g8,g4x,g8x] at r17
     refine cP r17 ?_
     simp[g4,g8,g4x,g8x]
    refine WL.cut 5 15 0 [(11,.bool (leI v6 400)),(13,.bool v10)] [(zLm.d c1)] ?_ ?_
    ·simp[g4,g8,g4x,g8x]
     have r18:=zJ6 fuel c1 v10 q11
     try simp[g4,g8,g4x,g8x] at r18
     refine cP r18 ?_
     simp[g4,g8,g4x,g8x]
    refine WL.last ?_
    simp[g4,g8,g4x,g8x]
   have c12:=leF g8
   obtain rfl:=oi q15
   refine st ?_
   simp[g4,g8]
   have r19:=zEZ fuel c1 v2 q3
   try simp[g4,g8] at r19
   refine cP r19 ?_
   simp[g4,g8]
   have r20:=zHu fuel c1 v6 q7
   try simp[g4,g8] at r20
   refine cP r20 ?_
   simp[g4,g8]
  have c13:=leF g4
  obtain rfl:=oi q15
  refine st ?_
  simp[g4]
  have r21:=zEZ fuel c1 v2 q3
  try simp[g4] at r21
  refine cP r21 ?_
  simp[g4]
 refine zAC ?_
 cases h
 simp
theorem zLF(fuel:Nat):(∀(c1:zLm)(r:Int×Int)(_:zBQ fuel c1=some r),Pure Tryz.prog 181 [.agg (zLm.d c1)] (.tup [iI r.1,iI r.2])):=by
 induction fuel with
 |zero=>intro c1 r h;rw[zBQ] at h;cases h
 |succ fuel zLU=>
  intro c1 r h
  rw[zBQ] at h
  refine zAD Tryz.func181 (by rfl) (by rfl) (by simp) (by simp) (by simp)<|cutA 30 0 [(1,pT 0),(3,iI 0)] [(zLm.d c1)]<|cutA 30 0 [(1,pT 0),(2,iI 1),(3,iI 0)] [(zLm.d c1)]<|zAA<|cutA 30 0 [(2,iI 1),(3,iI 0),(9,.sl (c1.L.map zLm.c)),(10,iI c1.L.length),(11,iI 0)] [(zLm.d c1)]<|zAF ?_
  obtain⟨o5,l6,h⟩:=bs h
  refine zAq (fun p:Nat×Int×Int×Nat=>mkS 30 0 [(2,iI p.2.1),(3,iI p.2.2.1),(9,.sl (c1.L.map zLm.c)),(10,iI c1.L.length),(11,iI p.2.2.2)] [(zLm.d c1)]) (fun p=>zB1 (zBQ fuel) c1 p.1 p.2.1 p.2.2.1 p.2.2.2=some o5) (fun p=>p.1) (fuel,1,0,0) l6 (zAc (by simp)) ?_
  rintro⟨k7,nodes2,depth3,i4⟩ l6
  try dsimp only at l6 ⊢
  cases k7 with
  |zero=>
   rw[zB1] at l6;cases l6
  |succ k8=>
   rw[zB1] at l6
   refine cutA 30 0 [(2,iI nodes2),(3,iI depth3),(9,.sl (c1.L.map zLm.c)),(10,iI c1.L.length),(11,iI i4),(12,.bool (ltI i4 c1.L.length))] [(zLm.d c1)]<|zAA<|spc l6 rfl (fun g9 l6=>?_) fun g9 l6=>?_
   ·have c10:=ltT g9
    refine zC5 9 rfl fun f11=>?_
    rw[zq4] at f11
    refine zAB<|zAJ<|zAA<|zAF ?_
    obtain⟨x12,q13,l6⟩:=bs l6
    refine cut 30 0 [(2,iI nodes2),(3,iI depth3),(5,pT 1),(9,.sl (c1.L.map zLm.c)),(10,iI c1.L.length),(11,iI i4)] [(zLm.d c1),(zLm.d x12)] (st (by simp[q13])) ?_
    obtain⟨v14,q15,l6⟩:=bs l6
    refine cut 30 0 [(2,iI nodes2),(3,iI depth3),(6,iI v14.1),(7,iI v14.2),(9,.sl (c1.L.map zLm.c)),(10,iI c1.L.length),(11,iI i4)] [(zLm.d c1),(zLm.d x12)] ?_ ?_
    ·refine st ?_
     simp
     have r22:=zLU x12 v14 q15
     try simp at r22
     refine cP r22 ?_
     simp
    obtain⟨n16,q17,l6⟩:=bs l6
    obtain⟨q18,q19⟩:=zBo q17
    try simp at q18
    try simp at q19
    have c20:=q18;simp only[Rng,inR] at c20
    refine last 30 0 [(2,iI n16),(3,iI (maxI depth3 v14.2)),(9,.sl (c1.L.map zLm.c)),(10,iI c1.L.length),(11,iI i4)] [(zLm.d c1),(zLm.d x12)] (st (by simp[q18,q19])) fun zz hs=>?_
    refine zDC<|zAj ?_ hs
    have q21:Rng .i64 (((i4:Nat):Int)+1):=by simp only[Rng,inR];omega
    try simp at q21
    refine last 30 0 [(2,iI n16),(3,iI (maxI depth3 v14.2)),(9,.sl (c1.L.map zLm.c)),(10,iI c1.L.length),(11,iI ((i4+1:Nat):Int))] [(zLm.d c1)] (st (by simp[q21])) fun zz hs=>?_
    exact⟨(k8,n16,maxI depth3 v14.2,i4+1),hs,l6,by simp⟩
   have c23:=ltF g9
   refine zC5 9 rfl fun f24=>?_
   rw[zq4] at f24
   refine zAW<|zAH ?_
   have q25:=zqa l6
   have q26:o5.1=depth3:=by rw[<-q25]
   have q27:o5.2=nodes2:=by rw[<-q25]
   refine zAH<|zAX<|zAj (t:=mkS 30 0 [(2,iI o5.2),(3,iI o5.1)] [(zLm.d c1)]) ?_ (zAc (by simp[q26,q27]))
   obtain⟨n28,q29,h⟩:=bs h
   obtain⟨q30,q31⟩:=zBo q29
   try simp at q30
   try simp at q31
   have c32:=q30;simp only[Rng,inR] at c32
   refine cut 30 0 [(2,iI o5.2),(3,iI n28)] [(zLm.d c1)] (st (by simp[q30,q31]))<|zAC ?_
   cases h
   simp
theorem zFI(fuel:Nat)(c1:zLm)(w2:zLi)(r:zLm×zLi)(h:zBb fuel c1 w2=some r):Raw Tryz.prog 145 [pT 0,.agg (zLm.d c1)] [[iI w2.steps,.bool w2.over]] (.agg (zLm.d r.1)) [[iI r.2.steps,.bool r.2.over]]:=by
 rw[zBb] at h
 refine zBE Tryz.func145 (by rfl) (by rfl) (by simp) (by simp)<|cutA 28 1 [(0,pT 0),(3,pT 1),(4,pT 2)] [[iI w2.steps,.bool w2.over],(zLm.d c1),zz0]<|zAA<|cutA 28 1 [(0,pT 0),(3,pT 1),(4,pT 2),(10,.bool w2.over)] [[iI w2.steps,.bool w2.over],(zLm.d c1),zz0]<|spc h rfl (fun g3 h=>?_) fun g3 h=>?_
 ·refine cutA 28 1 [(4,pT 2)] [[iI w2.steps,.bool w2.over],(zLm.d c1),zz0]<|zAC<|zAE ?_
  cases h
  simp
 refine zAB<|zAJ<|zAA ?_
 obtain⟨v4,q5,h⟩:=bs h
 refine cut 28 1 [(0,pT 0),(3,pT 1),(4,pT 2),(5,iI v4.1),(6,iI v4.2)] [[iI w2.steps,.bool w2.over],(zLm.d c1),zz0] ?_ ?_
 ·refine st ?_
  simp
  have r14:=zLF fuel c1 v4 q5
  try simp at r14
  refine cP r14 ?_
  simp
 refine cut 28 1 [(0,pT 0),(3,pT 1),(4,pT 2),(22,.bool ((ltI 20000 v4.1)||(ltI 400 v4.2)))] [[iI w2.steps,.bool w2.over],(zLm.d c1),zz0] ?_ ?_
 ·rcases tf (ltI 20000 v4.1) with g6|g6
  ·have c7:=ltT g6
   refine st ?_
   simp[g6]
  have c8:=ltF g6
  refine st ?_
  simp[g6]
 rcases sp h with ⟨g9,h⟩|⟨g9,h⟩
 ·refine zEj rfl g9<|cutA 28 1 [(4,pT 2)] [[iI w2.steps,.bool true],(zLm.d c1),zz0]<|cutA 28 1 [(4,pT 2)] [[iI w2.steps,.bool true],(zLm.d c1),zz0]<|zAC<|zAE ?_
  cases h
  simp
 obtain⟨g10,g11⟩:=orF g9
 have c12:=ltF g10
 have c13:=ltF g11
 refine zEt rfl g9<|zAB<|zAJ<|cutA 28 1 [(4,pT 2)] [[iI w2.steps,.bool w2.over],(zLm.d c1),(zLm.d c1)]<|zAC ?_
 cases h
 simp
theorem zKp(fuel:Nat)(c1:zLm)(r:Bool)(h:zD2 fuel c1=some r):Pure Tryz.prog 216 [.agg (zLm.d c1)] (.bool r):=by
 rw[zD2] at h
 refine zAD Tryz.func216 (by rfl) (by rfl) (by simp) (by simp) (by simp)<|cutA 6 0 [(1,pT 0)] [(zLm.d c1)] ?_
 obtain⟨v2,q3,h⟩:=bs h
 refine cut 6 0 [(2,.bool (!v2))] [(zLm.d c1)] ?_ ?_
 ·refine st ?_
  simp
  have r4:=zCI fuel c1 v2 q3
  try simp at r4
  refine cP r4 ?_
  simp
 refine zAC ?_
 cases h
 simp
theorem zEu(fuel:Nat)(s1:(List zLm))(r:Int)(h:zBF fuel s1=some r):Pure Tryz.prog 144 [.sl (s1.map zLm.c),.fn (.func 216) [] []] (iI r):=by
 rw[zBF] at h
 refine zAD Tryz.func144 (by rfl) (by rfl) (by simp) (by simp) (by simp)<|cutA 19 0 [(0,.sl (s1.map zLm.c)),(1,.fn (.func 216) [] [])] []<|zAA<|cutA 19 0 [(0,.sl (s1.map zLm.c)),(1,.fn (.func 216) [] []),(7,iI s1.length),(8,iI 0)] []<|zAF ?_
 obtain⟨o4,l5,h⟩:=bs h
 refine zAq (fun p:Nat×Nat=>mkS 19 0 [(0,.sl (s1.map zLm.c)),(1,.fn (.func 216) [] []),(7,iI s1.length),(8,iI p.2)] []) (fun p=>zAU fuel s1 p.1 p.2=some o4) (fun p=>p.1) (fuel,0) l5 (zAc (by simp)) ?_
 rintro⟨k6,i2⟩ l5
 try dsimp only at l5 ⊢
 cases k6 with
 |zero=>
  rw[zAU] at l5;cases l5
 |succ k7=>
  rw[zAU] at l5
  refine cutA 19 0 [(0,.sl (s1.map zLm.c)),(1,.fn (.func 216) [] []),(7,iI s1.length),(8,iI i2),(9,.bool (ltI i2 s1.length))] []<|zAA<|spc l5 rfl (fun g8 l5=>?_) fun g8 l5=>?_
  ·have c9:=ltT g8
   refine zC5 0 rfl fun f10=>?_
   rw[zq4] at f10
   refine zAB<|zAJ<|zAA<|zAF<|cutA 19 0 [(0,.sl (s1.map zLm.c)),(1,.fn (.func 216) [] []),(5,iI i2),(7,iI s1.length),(8,iI i2)] [] ?_
   obtain⟨x11,q12,l5⟩:=bs l5
   obtain⟨v13,q14,l5⟩:=bs l5
   refine cut 19 0 [(0,.sl (s1.map zLm.c)),(1,.fn (.func 216) [] []),(5,iI i2),(7,iI s1.length),(8,iI i2),(16,.bool v13)] [] ?_ ?_
   ·refine st ?_
    simp[q12]
    have r17:=zKp fuel x11 v13 q14
    try simp[q12] at r17
    refine cP r17 ?_
    simp[q12]
   refine spc l5 rfl (fun g15 l5=>?_) fun g15 l5=>?_
   ·refine cutA 19 0 [(4,iI i2)] []<|zAC<|zAR<|zAE ?_
    replace h:=retL l5 h
    refine zAE<|zAR<|zAE ?_
    cases h
    simp
   refine zAB<|zDC<|zAJ ?_
   have q16:Rng .i64 (((i2:Nat):Int)+1):=by simp only[Rng,inR];omega
   try simp at q16
   refine last 19 0 [(0,.sl (s1.map zLm.c)),(1,.fn (.func 216) [] []),(7,iI s1.length),(8,iI ((i2+1:Nat):Int))] [] (st (by simp[q16])) fun zz hs=>?_
   exact⟨(k7,i2+1),hs,l5,by simp⟩
  have c18:=ltF g8
  refine zC5 0 rfl fun f19=>?_
  rw[zq4] at f19
  refine zAW<|zAH ?_
  rcases o4 with o4|o3
  ·cases l5
  have q20:=Sum.inr.inj (zqa l5)
  replace h:=zHa h
  refine zAH<|zAX<|zAj (t:=mkS 19 0 [] []) ?_ (zAc (by simp))
  refine cutA 19 0 [(4,iI (-1))] []<|zAC ?_
  cases h
  simp
theorem zEP(fuel:Nat)(s1:(List zLm))(r:Bool)(h:zA0 fuel s1=some r):Pure Tryz.prog 95 [.sl (s1.map zLm.c),.fn (.func 216) [] []] (.bool r):=by
 rw[zA0] at h
 refine zAD Tryz.func95 (by rfl) (by rfl) (by simp) (by simp) (by simp)<|cutA 9 0 [(0,.sl (s1.map zLm.c)),(1,.fn (.func 216) [] [])] [] ?_
 obtain⟨v2,q3,h⟩:=bs h
 refine cut 9 0 [(4,.bool (leI 0 v2))] [] ?_ ?_
 ·refine st ?_
  simp
  have r4:=zEu fuel s1 v2 q3
  try simp at r4
  refine cP r4 ?_
  simp
 refine zAC ?_
 cases h
 simp
theorem tycon_all_ok(fuel:Nat)(l1:(List zLm))(r:Bool)(h:zE6 fuel l1=some r):Pure Tryz.prog 186 [.sl (l1.map zLm.c)] (.bool r):=by
 rw[zE6] at h
 refine zAD Tryz.func186 (by rfl) (by rfl) (by simp) (by simp) (by simp)<|cutA 6 0 [(0,.sl (l1.map zLm.c))] [] ?_
 obtain⟨v2,q3,h⟩:=bs h
 refine cut 6 0 [(2,.bool (!v2))] [] ?_ ?_
 ·refine st ?_
  simp
  have r4:=zEP fuel l1 v2 q3
  try simp at r4
  refine cP r4 ?_
  simp
 refine zAC ?_
 cases h
 simp
theorem zFC(fuel:Nat):(∀(k1:zLl)(r:zLl)(_:zBY fuel k1=some r),Pure Tryz.prog 183 [.agg [.sl (k1.L.map zLl.c)]] (.agg [.sl (r.L.map zLl.c)])):=by
 induction fuel with
 |zero=>intro k1 r h;rw[zBY] at h;cases h
 |succ fuel zKL=>
  intro k1 r h
  rw[zBY] at h
  refine zAD Tryz.func183 (by rfl) (by rfl) (by simp) (by simp) (by simp)<|cutA 22 0 [(1,pT 0),(2,pT 1)] [[.sl (k1.L.map zLl.c)],zz1]<|cutA 22 0 [(1,pT 0),(2,pT 1),(3,pT 2)] [[.sl (k1.L.map zLl.c)],zz1,zz1]<|zAA<|cutA 22 0 [(2,pT 1),(3,pT 2),(7,.sl (k1.L.map zLl.c)),(8,iI k1.L.length),(9,iI 0)] [[.sl (k1.L.map zLl.c)],zz1,zz1]<|zAF ?_
  obtain⟨o4,l5,h⟩:=bs h
  refine zAq (fun p:Nat×(List zLl)×Nat=>mkS 22 0 [(2,pT 1),(3,pT 2),(7,.sl (k1.L.map zLl.c)),(8,iI k1.L.length),(9,iI p.2.2)] [[.sl (k1.L.map zLl.c)],zz1,[.osl ⟨1,27⟩ (p.2.1.map zLl.c)]]) (fun p=>zCY (zBY fuel) k1 p.1 p.2.1 p.2.2=some o4) (fun p=>p.1) (fuel,([]:List zLl),0) l5 (zAc (by simp)) ?_
  rintro⟨k6,L2,i3⟩ l5
  try dsimp only at l5 ⊢
  cases k6 with
  |zero=>
   rw[zCY] at l5;cases l5
  |succ k7=>
   rw[zCY] at l5
   refine cutA 22 0 [(2,pT 1),(3,pT 2),(7,.sl (k1.L.map zLl.c)),(8,iI k1.L.length),(9,iI i3),(10,.bool (ltI i3 k1.L.length))] [[.sl (k1.L.map zLl.c)],zz1,[.osl ⟨1,27⟩ (L2.map zLl.c)]]<|zAA<|spc l5 rfl (fun g8 l5=>?_) fun g8 l5=>?_
   ·have c9:=ltT g8
    refine zC5 7 rfl fun f10=>?_
    rw[zq4] at f10
    refine zAB<|zAJ<|zAA<|zAF ?_
    obtain⟨x11,q12,l5⟩:=bs l5
    refine cut 22 0 [(2,pT 1),(3,pT 2),(5,pT 3),(7,.sl (k1.L.map zLl.c)),(8,iI k1.L.length),(9,iI i3)] [[.sl (k1.L.map zLl.c)],zz1,[.osl ⟨1,27⟩ (L2.map zLl.c)],[.sl (x11.L.map zLl.c)]] (st (by simp[q12])) ?_
    obtain⟨v13,q14,l5⟩:=bs l5
    obtain⟨l15,q16,l5⟩:=bs l5
    obtain⟨q17,q18⟩:=zFL q16
    try simp at q17
    refine last 22 0 [(2,pT 1),(3,pT 2),(7,.sl (k1.L.map zLl.c)),(8,iI k1.L.length),(9,iI i3)] [[.sl (k1.L.map zLl.c)],zz1,[.osl ⟨1,27⟩ (l15.map zLl.c)],[.sl (x11.L.map zLl.c)]] ?_ fun zz hs=>?_
    ·refine zAL [] mixed (n:=22) rfl (by decide) ?_
     simp[q17,q18]
     have r20:=zKL x11 v13 q14
     try simp[q17,q18] at r20
     refine zF9 r20 (by simp) rfl ?_
     simp[q17,q18]
    refine zDC<|zAj ?_ hs
    have q19:Rng .i64 (((i3:Nat):Int)+1):=by simp only[Rng,inR];omega
    try simp at q19
    refine last 22 0 [(2,pT 1),(3,pT 2),(7,.sl (k1.L.map zLl.c)),(8,iI k1.L.length),(9,iI ((i3+1:Nat):Int))] [[.sl (k1.L.map zLl.c)],zz1,[.osl ⟨1,27⟩ (l15.map zLl.c)]] (st (by simp[q19])) fun zz hs=>?_
    exact⟨(k7,l15,i3+1),hs,l5,by simp⟩
   have c21:=ltF g8
   refine zC5 7 rfl fun f22=>?_
   rw[zq4] at f22
   refine zAW<|zAH ?_
   have q23:=zqa l5
   have q23:=q23.symm
   refine zAH<|zAX<|zAj (t:=mkS 22 0 [(2,pT 1),(3,pT 2)] [[.sl (k1.L.map zLl.c)],zz1,[.osl ⟨1,27⟩ (o4.map zLl.c)]]) ?_ (zAc (by simp[q23]))
   refine cutA 22 0 [(2,pT 1)] [[.sl (k1.L.map zLl.c)],[.sl (o4.map zLl.c)],[.osl ⟨1,27⟩ (o4.map zLl.c)]]<|zAC ?_
   cases h
   simp
theorem zF6(fuel:Nat)(c1:zLm)(r:zLm)(h:zDk fuel c1=some r):Pure Tryz.prog 151 [.agg (zLm.d c1)] (.agg (zLm.d r)):=by
 rw[zDk] at h
 refine zAD Tryz.func151 (by rfl) (by rfl) (by simp) (by simp) (by simp)<|cutA 13 0 [(1,pT 0),(2,pT 1)] [(zLm.d c1),zz0] ?_
 obtain⟨v2,q3,h⟩:=bs h
 refine cut 13 0 [(2,pT 1)] [(zLm.d c1),[iI c1.Op,iI c1.N,.str c1.S,.sl (v2.L.map zLl.c),.osl ⟨1,9⟩ (([]:List (List UInt8)).map cS),.osl ⟨6,31⟩ (([]:List zLm).map zLm.c)]] ?_ ?_
 ·refine zAL [] mixed (n:=13) rfl (by decide) ?_
  simp
  have r4:=zFC fuel c1.Kind v2 q3
  try simp at r4
  refine zF9 r4 (by simp) rfl ?_
  simp
 refine zAC ?_
 cases h
 simp
theorem zGk(n1:Int)(r:zLm)(h:zEp n1=some r):Pure Tryz.prog 150 [iI n1] (.agg (zLm.d r)):=by
 rw[zEp] at h
 refine zAD Tryz.func150 (by rfl) (by rfl) (by simp) (by simp) (by simp)<|cutA 5 0 [(0,iI n1),(2,pT 0)] [zz0]<|cutA 5 0 [(2,pT 0)] [[iI 1,iI n1,.str ([]:List UInt8),.osl ⟨1,27⟩ (([]:List zLl).map zLl.c),.osl ⟨1,9⟩ (([]:List (List UInt8)).map cS),.osl ⟨6,31⟩ (([]:List zLm).map zLm.c)]]<|zAC ?_
 cases h
 simp
theorem zGq(by1:Int)(from2:Int)(r:Int×Int)(h:zFE by1 from2=some r):Pure Tryz.prog 103 [iI by1,iI from2] (.fn (.func 149) [] [.cptr [iI r.1],.cptr [iI r.2]]):=by
 rw[zFE] at h
 refine zG1 [true,true] Tryz.func103 (by rfl) (by rfl) (by simp) (by simp) (by simp)<|cutA 6 0 [(2,pT 0),(3,pT 1)] [[iI by1],[iI from2]]<|cutA 6 0 [(4,.fn (.func 149) [] [pT 1,pT 0])] [[iI by1],[iI from2]]<|zAC ?_
 cases h
 simp
theorem zIP(fuel:Nat)(c1:zLm)(binders2:Int)(a3:Int)(a4:Int)(r:zLm)(h:zDq fuel c1 binders2 a3 a4=some r):Pure Tryz.prog 149 [.agg (zLm.d c1),iI binders2,.cptr [iI a3],.cptr [iI a4]] (.agg (zLm.d r)):=by
 rw[zDq] at h
 refine zAD Tryz.func149 (by rfl) (by rfl) (by simp) (by simp) (by simp)<|cutA 25 0 [(1,iI binders2),(2,.cptr [iI a3]),(3,.cptr [iI a4]),(4,pT 0),(6,pT 1)] [(zLm.d c1),zz0]<|zAA ?_
 obtain⟨b13,q14,h⟩:=bs h
 refine cut 25 0 [(3,.cptr [iI a4]),(4,pT 0),(6,pT 1),(17,.bool b13)] [(zLm.d c1),zz0] ?_ ?_
 ·rcases sp q14 with ⟨g5,q14⟩|⟨g5,q14⟩
  ·have c6:=eqT g5
   obtain⟨n7,q8,q14⟩:=bs q14
   obtain⟨q9,q10⟩:=zBo q8
   try simp at q9
   try simp at q10
   have c11:=q9;simp only[Rng,inR] at c11
   obtain rfl:=oi q14
   refine st ?_
   simp[g5,q9,q10]
  have c12:=eqF g5
  obtain rfl:=oi q14
  refine st ?_
  simp[g5]
 refine spc h rfl (fun g15 h=>?_) fun g15 h=>?_
 ·obtain⟨n16,q17,h⟩:=bs h
  obtain⟨q18,q19⟩:=zBo q17
  try simp at q18
  try simp at q19
  have c20:=q18;simp only[Rng,inR] at c20
  obtain⟨v21,q22,h⟩:=bs h
  refine cut 25 0 [(6,pT 1)] [(zLm.d c1),(zLm.d v21)] ?_ ?_
  ·refine st ?_
   simp[q18,q19]
   have r23:=zGk n16 v21 q22
   try simp[q18,q19] at r23
   refine cP r23 ?_
   simp[q18,q19]
  refine zAC<|zAE ?_
  cases h
  simp
 refine zAB<|zAJ ?_
 obtain⟨v24,q25,h⟩:=bs h
 refine cut 25 0 [(6,pT 1)] [(zLm.d c1),(zLm.d v24)] ?_ ?_
 ·refine st ?_
  simp
  have r26:=zF6 fuel c1 v24 q25
  try simp at r26
  refine cP r26 ?_
  simp
 refine zAC ?_
 cases h
 simp
theorem zEY(fuel:Nat):(∀(c1:zLm)(binders2:Int)(c3:Int)(c4:Int)(c5:Int)(r:zLm×Int)(_:zAT fuel c1 binders2 c3 c4 c5=some r),Raw Tryz.prog 148 [pT 0,.agg (zLm.d c1),iI binders2] [[.fn (.func 149) [] [.cptr [iI c3],.cptr [iI c4]],iI c5]] (.agg (zLm.d r.1)) [[.fn (.func 149) [] [.cptr [iI c3],.cptr [iI c4]],iI r.2]]):=by
 induction fuel with
 |zero=>intro c1 binders2 c3 c4 c5 r h;rw[zAT] at h;cases h
 |succ fuel zEc=>
  intro c1 binders2 c3 c4 c5 r h
  rw[zAT] at h
  refine zBE Tryz.func148 (by rfl) (by rfl) (by simp) (by simp)<|cutA 87 1 [(0,pT 0),(2,iI binders2),(4,pT 1),(6,pT 2)] [[.fn (.func 149) [] [.cptr [iI c3],.cptr [iI c4]],iI c5],(zLm.d c1),zz0]<|zAA<|cutA 87 1 [(0,pT 0),(2,iI binders2),(4,pT 1),(6,pT 2),(15,.bool (leI c5 0))] [[.fn (.func 149) [] [.cptr [iI c3],.cptr [iI c4]],iI c5],(zLm.d c1),zz0]<|spc h rfl (fun g6 h=>?_) fun g6 h=>?_
  ·refine cutA 87 1 [(6,pT 2)] [[.fn (.func 149) [] [.cptr [iI c3],.cptr [iI c4]],iI (-1)],(zLm.d c1),zz0]<|cutA 87 1 [(6,pT 2)] [[.fn (.func 149) [] [.cptr [iI c3],.cptr [iI c4]],iI (-1)],(zLm.d c1),zz0]<|zAC<|zAE ?_
   cases h
   simp
  refine zAB<|zAJ<|zAA<|cut 87 1 [(0,pT 0),(2,iI binders2),(4,pT 1),(6,pT 2),(27,.bool ((eqI c1.Op 1)||(eqI c1.Op 2)))] [[.fn (.func 149) [] [.cptr [iI c3],.cptr [iI c4]],iI c5],(zLm.d c1),zz0] ?_ ?_
  ·rcases tf (eqI c1.Op 1) with g9|g9
   ·refine st ?_
    simp[g9]
   refine st ?_
   simp[g9]
  rcases sp h with ⟨g12,h⟩|⟨g12,h⟩
  ·refine zEj rfl g12 ?_
   obtain⟨v13,q14,h⟩:=bs h
   refine cut 87 1 [(0,pT 0),(6,pT 2),(7,pT 3)] [[.fn (.func 149) [] [.cptr [iI c3],.cptr [iI c4]],iI c5],(zLm.d c1),zz0,(zLm.d v13)] ?_ ?_
   ·refine zAL [] mixed (n:=87) rfl (by decide) ?_
    simp
    have r23:=zIP fuel c1 binders2 c3 c4 v13 q14
    refine zF9 r23 (by simp) rfl ?_
    simp
   obtain⟨v15,q16,h⟩:=bs h
   obtain⟨n17,q18,h⟩:=bs h
   obtain⟨q19,q20⟩:=zBo q18
   have c21:=q19;simp only[Rng,inR] at c21
   refine cut 87 1 [(6,pT 2),(7,pT 3)] [[.fn (.func 149) [] [.cptr [iI c3],.cptr [iI c4]],iI n17],(zLm.d c1),zz0,(zLm.d v13)] ?_ ?_
   ·refine zAL [] mixed (n:=87) rfl (by decide) ?_
    simp[q19,q20]
    have r22:=zEZ fuel v13 v15 q16
    refine zF9 r22 (by simp) rfl ?_
    simp[q19,q20]
   refine cutA 87 1 [(6,pT 2)] [[.fn (.func 149) [] [.cptr [iI c3],.cptr [iI c4]],iI n17],(zLm.d c1),(zLm.d v13),(zLm.d v13)]<|zAC<|zAE ?_
   cases h
   simp
  obtain⟨g24,g25⟩:=orF g12
  refine zEt rfl g12<|zAB<|zAJ ?_
  obtain⟨n28,q29,h⟩:=bs h
  obtain⟨q30,q31⟩:=zBo q29
  have c32:=q30;simp only[Rng,inR] at c32
  refine cut 87 1 [(0,pT 0),(2,iI binders2),(4,pT 1),(6,pT 2)] [[.fn (.func 149) [] [.cptr [iI c3],.cptr [iI c4]],iI n28],(zLm.d c1),zz0] (st (by simp[q30,q31])) ?_
  obtain⟨v33,q34,h⟩:=bs h
  obtain⟨v35,q36,h⟩:=bs h
  refine cut 87 1 [(0,pT 0),(2,iI binders2),(4,pT 1),(6,pT 2),(8,pT 3)] [[.fn (.func 149) [] [.cptr [iI c3],.cptr [iI c4]],iI n28],(zLm.d c1),zz0,[iI c1.Op,iI c1.N,.str c1.S,.sl (v33.L.map zLl.c),.sl (v35.map cS),.osl ⟨6,31⟩ (([]:List zLm).map zLm.c)]] ?_ ?_
  ·refine zAL [] mixed (n:=87) rfl (by decide) ?_
   simp
   have r96:=zFC fuel c1.Kind v33 q34
   refine zF9 r96 (by simp) rfl ?_
   simp
   have r97:=zDB c1.Names v35 q36
   refine zF9 r97 (by simp) rfl ?_
   simp
  refine zAA ?_
  obtain⟨v37,q38,h⟩:=bs h
  refine cut 87 1 [(0,pT 0),(2,iI binders2),(4,pT 1),(6,pT 2),(8,pT 3),(66,.bool v37)] [[.fn (.func 149) [] [.cptr [iI c3],.cptr [iI c4]],iI n28],(zLm.d c1),zz0,[iI c1.Op,iI c1.N,.str c1.S,.sl (v33.L.map zLl.c),.sl (v35.map cS),.osl ⟨6,31⟩ (([]:List zLm).map zLm.c)]] ?_ ?_
  ·refine st ?_
   simp
   have r95:=zBS c1 v37 q38
   refine cP r95 ?_
   simp
  refine spc h rfl (fun g39 h=>?_) fun g39 h=>?_
  ·obtain⟨n40,q41,h⟩:=bs h
   obtain⟨q42,q43⟩:=zBo q41
   have c44:=q42;simp only[Rng,inR] at c44
   refine last 87 1 [(0,pT 0),(2,iI n40),(4,pT 1),(6,pT 2),(8,pT 3)] [[.fn (.func 149) [] [.cptr [iI c3],.cptr [iI c4]],iI n28],(zLm.d c1),zz0,[iI c1.Op,iI c1.N,.str c1.S,.sl (v33.L.map zLl.c),.sl (v35.map cS),.osl ⟨6,31⟩ (([]:List zLm).map zLm.c)]] (st (by simp[q42,q43])) fun zz hs=>?_
   refine zAj ?_ hs
   refine zAA<|cutA 87 1 [(0,pT 0),(2,iI n40),(6,pT 2),(8,pT 3),(70,.sl (c1.L.map zLm.c)),(71,iI c1.L.length),(72,iI 0)] [[.fn (.func 149) [] [.cptr [iI c3],.cptr [iI c4]],iI n28],(zLm.d c1),zz0,[iI c1.Op,iI c1.N,.str c1.S,.sl (v33.L.map zLl.c),.sl (v35.map cS),.osl ⟨6,31⟩ (([]:List zLm).map zLm.c)]]<|zAF ?_
   obtain⟨o48,l49,h⟩:=bs h
   refine zAq (fun p:Nat×Int×(List zLm)×Nat=>mkS 87 1 [(0,pT 0),(2,iI n40),(6,pT 2),(8,pT 3),(70,.sl (c1.L.map zLm.c)),(71,iI c1.L.length),(72,iI p.2.2.2)] [[.fn (.func 149) [] [.cptr [iI c3],.cptr [iI c4]],iI p.2.1],(zLm.d c1),zz0,[iI c1.Op,iI c1.N,.str c1.S,.sl (v33.L.map zLl.c),.sl (v35.map cS),.osl ⟨6,31⟩ (p.2.2.1.map zLm.c)]]) (fun p=>zA4 (zAT fuel) c1 c3 c4 n40 p.1 p.2.1 p.2.2.1 p.2.2.2=some o48) (fun p=>p.1) (fuel,n28,([]:List zLm),0) l49 (zAc (by simp)) ?_
   rintro⟨k50,left45,L46,i47⟩ l49
   try dsimp only at l49 ⊢
   cases k50 with
   |zero=>
    rw[zA4] at l49;cases l49
   |succ k51=>
    rw[zA4] at l49
    refine cutA 87 1 [(0,pT 0),(2,iI n40),(6,pT 2),(8,pT 3),(70,.sl (c1.L.map zLm.c)),(71,iI c1.L.length),(72,iI i47),(73,.bool (ltI i47 c1.L.length))] [[.fn (.func 149) [] [.cptr [iI c3],.cptr [iI c4]],iI left45],(zLm.d c1),zz0,[iI c1.Op,iI c1.N,.str c1.S,.sl (v33.L.map zLl.c),.sl (v35.map cS),.osl ⟨6,31⟩ (L46.map zLm.c)]]<|zAA<|spc l49 rfl (fun g52 l49=>?_) fun g52 l49=>?_
    ·have c53:=ltT g52
     refine zC5 70 rfl fun f54=>?_
     rw[zq4] at f54
     refine zAB<|zAJ<|zAA<|zAF ?_
     obtain⟨x55,q56,l49⟩:=bs l49
     refine cut 87 1 [(0,pT 0),(2,iI n40),(6,pT 2),(8,pT 3),(10,pT 4),(70,.sl (c1.L.map zLm.c)),(71,iI c1.L.length),(72,iI i47)] [[.fn (.func 149) [] [.cptr [iI c3],.cptr [iI c4]],iI left45],(zLm.d c1),zz0,[iI c1.Op,iI c1.N,.str c1.S,.sl (v33.L.map zLl.c),.sl (v35.map cS),.osl ⟨6,31⟩ (L46.map zLm.c)],(zLm.d x55)] (st (by simp[q56])) ?_
     obtain⟨v57,q58,l49⟩:=bs l49
     obtain⟨l59,q60,l49⟩:=bs l49
     obtain⟨q61,q62⟩:=zFL q60
     try simp at q61
     refine last 87 1 [(0,pT 0),(2,iI n40),(6,pT 2),(8,pT 3),(70,.sl (c1.L.map zLm.c)),(71,iI c1.L.length),(72,iI i47)] [[.fn (.func 149) [] [.cptr [iI c3],.cptr [iI c4]],iI v57.2],(zLm.d c1),zz0,[iI c1.Op,iI c1.N,.str c1.S,.sl (v33.L.map zLl.c),.sl (v35.map cS),.osl ⟨6,31⟩ (l59.map zLm.c)],(zLm.d x55)] ?_ fun zz hs=>?_
     ·refine zAl [0,996] [7,9] mixed (n:=87) rfl (by decide) (by decide) ?_
      simp[q61,q62]
      have r64:=(zEc x55 n40 c3 c4 left45 v57 q58).frameZ [0] [[.fn (.func 149) [] [.cptr [iI c3],.cptr [iI c4]],iI left45],(zLm.d c1),zz0,[iI c1.Op,iI c1.N,.str c1.S,.sl (v33.L.map zLl.c),.sl (v35.map cS),.osl ⟨6,31⟩ (L46.map zLm.c)],(zLm.d x55)] (by simp) rfl (by simp) (by simp)
      try simp[q61,q62] at r64
      refine zLa r64 (by simp[q61,q62]) rfl (by decide) ?_
      simp[q61,q62]
     refine zDC<|zAj ?_ hs
     have q63:Rng .i64 (((i47:Nat):Int)+1):=by simp only[Rng,inR];omega
     try simp at q63
     refine last 87 1 [(0,pT 0),(2,iI n40),(6,pT 2),(8,pT 3),(70,.sl (c1.L.map zLm.c)),(71,iI c1.L.length),(72,iI ((i47+1:Nat):Int))] [[.fn (.func 149) [] [.cptr [iI c3],.cptr [iI c4]],iI v57.2],(zLm.d c1),zz0,[iI c1.Op,iI c1.N,.str c1.S,.sl (v33.L.map zLl.c),.sl (v35.map cS),.osl ⟨6,31⟩ (l59.map zLm.c)]] (st (by simp[q63])) fun zz hs=>?_
     exact⟨(k51,v57.2,l59,i47+1),hs,l49,by simp⟩
    have c65:=ltF g52
    refine zC5 70 rfl fun f66=>?_
    rw[zq4] at f66
    refine zAW<|zAH ?_
    have q67:=zqa l49
    have q68:o48.1=left45:=by rw[<-q67]
    have q69:o48.2=L46:=by rw[<-q67]
    refine zAH<|zAX<|zAj (t:=mkS 87 1 [(6,pT 2),(8,pT 3)] [[.fn (.func 149) [] [.cptr [iI c3],.cptr [iI c4]],iI o48.1],(zLm.d c1),zz0,[iI c1.Op,iI c1.N,.str c1.S,.sl (v33.L.map zLl.c),.sl (v35.map cS),.osl ⟨6,31⟩ (o48.2.map zLm.c)]]) ?_ (zAc (by simp[q68,q69]))
    refine cutA 87 1 [(6,pT 2)] [[.fn (.func 149) [] [.cptr [iI c3],.cptr [iI c4]],iI o48.1],(zLm.d c1),[iI c1.Op,iI c1.N,.str c1.S,.sl (v33.L.map zLl.c),.sl (v35.map cS),.sl (o48.2.map zLm.c)],[iI c1.Op,iI c1.N,.str c1.S,.sl (v33.L.map zLl.c),.sl (v35.map cS),.osl ⟨6,31⟩ (o48.2.map zLm.c)]]<|zAC ?_
    cases h
    simp
  refine zAB<|zAJ<|zAA<|cutA 87 1 [(0,pT 0),(2,iI binders2),(6,pT 2),(8,pT 3),(70,.sl (c1.L.map zLm.c)),(71,iI c1.L.length),(72,iI 0)] [[.fn (.func 149) [] [.cptr [iI c3],.cptr [iI c4]],iI n28],(zLm.d c1),zz0,[iI c1.Op,iI c1.N,.str c1.S,.sl (v33.L.map zLl.c),.sl (v35.map cS),.osl ⟨6,31⟩ (([]:List zLm).map zLm.c)]]<|zAF ?_
  obtain⟨o73,l74,h⟩:=bs h
  refine zAq (fun p:Nat×Int×(List zLm)×Nat=>mkS 87 1 [(0,pT 0),(2,iI binders2),(6,pT 2),(8,pT 3),(70,.sl (c1.L.map zLm.c)),(71,iI c1.L.length),(72,iI p.2.2.2)] [[.fn (.func 149) [] [.cptr [iI c3],.cptr [iI c4]],iI p.2.1],(zLm.d c1),zz0,[iI c1.Op,iI c1.N,.str c1.S,.sl (v33.L.map zLl.c),.sl (v35.map cS),.osl ⟨6,31⟩ (p.2.2.1.map zLm.c)]]) (fun p=>zA3 (zAT fuel) c1 binders2 c3 c4 p.1 p.2.1 p.2.2.1 p.2.2.2=some o73) (fun p=>p.1) (fuel,n28,([]:List zLm),0) l74 (zAc (by simp)) ?_
  rintro⟨k75,left70,L71,i72⟩ l74
  try dsimp only at l74 ⊢
  cases k75 with
  |zero=>
   rw[zA3] at l74;cases l74
  |succ k76=>
   rw[zA3] at l74
   refine cutA 87 1 [(0,pT 0),(2,iI binders2),(6,pT 2),(8,pT 3),(70,.sl (c1.L.map zLm.c)),(71,iI c1.L.length),(72,iI i72),(73,.bool (ltI i72 c1.L.length))] [[.fn (.func 149) [] [.cptr [iI c3],.cptr [iI c4]],iI left70],(zLm.d c1),zz0,[iI c1.Op,iI c1.N,.str c1.S,.sl (v33.L.map zLl.c),.sl (v35.map cS),.osl ⟨6,31⟩ (L71.map zLm.c)]]<|zAA<|spc l74 rfl (fun g77 l74=>?_) fun g77 l74=>?_
   ·have c78:=ltT g77
    refine zC5 70 rfl fun f79=>?_
    rw[zq4] at f79
    refine zAB<|zAJ<|zAA<|zAF ?_
    obtain⟨x80,q81,l74⟩:=bs l74
    refine cut 87 1 [(0,pT 0),(2,iI binders2),(6,pT 2),(8,pT 3),(10,pT 4),(70,.sl (c1.L.map zLm.c)),(71,iI c1.L.length),(72,iI i72)] [[.fn (.func 149) [] [.cptr [iI c3],.cptr [iI c4]],iI left70],(zLm.d c1),zz0,[iI c1.Op,iI c1.N,.str c1.S,.sl (v33.L.map zLl.c),.sl (v35.map cS),.osl ⟨6,31⟩ (L71.map zLm.c)],(zLm.d x80)] (st (by simp[q81])) ?_
    obtain⟨v82,q83,l74⟩:=bs l74
    obtain⟨l84,q85,l74⟩:=bs l74
    obtain⟨q86,q87⟩:=zFL q85
    try simp at q86
    refine last 87 1 [(0,pT 0),(2,iI binders2),(6,pT 2),(8,pT 3),(70,.sl (c1.L.map zLm.c)),(71,iI c1.L.length),(72,iI i72)] [[.fn (.func 149) [] [.cptr [iI c3],.cptr [iI c4]],iI v82.2],(zLm.d c1),zz0,[iI c1.Op,iI c1.N,.str c1.S,.sl (v33.L.map zLl.c),.sl (v35.map cS),.osl ⟨6,31⟩ (l84.map zLm.c)],(zLm.d x80)] ?_ fun zz hs=>?_
    ·refine zAl [0,996] [7,9] mixed (n:=87) rfl (by decide) (by decide) ?_
     simp[q86,q87]
     have r89:=(zEc x80 binders2 c3 c4 left70 v82 q83).frameZ [0] [[.fn (.func 149) [] [.cptr [iI c3],.cptr [iI c4]],iI left70],(zLm.d c1),zz0,[iI c1.Op,iI c1.N,.str c1.S,.sl (v33.L.map zLl.c),.sl (v35.map cS),.osl ⟨6,31⟩ (L71.map zLm.c)],(zLm.d x80)] (by simp) rfl (by simp) (by simp)
     try simp[q86,q87] at r89
     refine zLa r89 (by simp[q86,q87]) rfl (by decide) ?_
     simp[q86,q87]
    refine zDC<|zAj ?_ hs
    have q88:Rng .i64 (((i72:Nat):Int)+1):=by simp only[Rng,inR];omega
    try simp at q88
    refine last 87 1 [(0,pT 0),(2,iI binders2),(6,pT 2),(8,pT 3),(70,.sl (c1.L.map zLm.c)),(71,iI c1.L.length),(72,iI ((i72+1:Nat):Int))] [[.fn (.func 149) [] [.cptr [iI c3],.cptr [iI c4]],iI v82.2],(zLm.d c1),zz0,[iI c1.Op,iI c1.N,.str c1.S,.sl (v33.L.map zLl.c),.sl (v35.map cS),.osl ⟨6,31⟩ (l84.map zLm.c)]] (st (by simp[q88])) fun zz hs=>?_
    exact⟨(k76,v82.2,l84,i72+1),hs,l74,by simp⟩
   have c90:=ltF g77
   refine zC5 70 rfl fun f91=>?_
   rw[zq4] at f91
   refine zAW<|zAH ?_
   have q92:=zqa l74
   have q93:o73.1=left70:=by rw[<-q92]
   have q94:o73.2=L71:=by rw[<-q92]
   refine zAH<|zAX<|zAj (t:=mkS 87 1 [(6,pT 2),(8,pT 3)] [[.fn (.func 149) [] [.cptr [iI c3],.cptr [iI c4]],iI o73.1],(zLm.d c1),zz0,[iI c1.Op,iI c1.N,.str c1.S,.sl (v33.L.map zLl.c),.sl (v35.map cS),.osl ⟨6,31⟩ (o73.2.map zLm.c)]]) ?_ (zAc (by simp[q93,q94]))
   refine cutA 87 1 [(6,pT 2)] [[.fn (.func 149) [] [.cptr [iI c3],.cptr [iI c4]],iI o73.1],(zLm.d c1),[iI c1.Op,iI c1.N,.str c1.S,.sl (v33.L.map zLl.c),.sl (v35.map cS),.sl (o73.2.map zLm.c)],[iI c1.Op,iI c1.N,.str c1.S,.sl (v33.L.map zLl.c),.sl (v35.map cS),.osl ⟨6,31⟩ (o73.2.map zLm.c)]]<|zAC ?_
   cases h
   simp
theorem zJC(fuel:Nat)(c1:zLm)(binders2:Int)(c3:(List zLm))(r:zLm)(h:zEJ fuel c1 binders2 c3=some r):Raw Tryz.prog 187 [.agg (zLm.d c1),iI binders2,pT 0] [[.sl (c3.map zLm.c)]] (.agg (zLm.d r)) [[.sl (c3.map zLm.c)]]:=by
 rw[zEJ] at h
 refine zBE Tryz.func187 (by rfl) (by rfl) (by simp) (by simp)<|cutA 43 1 [(1,iI binders2),(2,pT 0),(3,pT 1),(5,pT 2)] [[.sl (c3.map zLm.c)],(zLm.d c1),zz0] ?_
 obtain⟨n4,q5,h⟩:=bs h
 obtain⟨q6,q7⟩:=zBo q5
 have c8:=q6;simp only[Rng,inR] at c8
 refine cut 43 1 [(1,iI binders2),(2,pT 0),(3,pT 1),(5,pT 2),(6,iI n4)] [[.sl (c3.map zLm.c)],(zLm.d c1),zz0] (st (by simp[q6,q7]))<|zAA<|zAF<|cut 43 1 [(1,iI binders2),(2,pT 0),(3,pT 1),(5,pT 2),(6,iI n4),(12,.bool ((!(eqI c1.Op 1))||(ltI n4 0)))] [[.sl (c3.map zLm.c)],(zLm.d c1),zz0] ?_ ?_
 ·rcases tf (!(eqI c1.Op 1)) with g9|g9
  ·have g10:=notT g9
   refine st ?_
   simp[g9]
  have g12:=notF g9
  refine st ?_
  simp[g9]
 rcases sp h with ⟨g14,h⟩|⟨g14,h⟩
 ·refine zEj rfl g14 ?_
  obtain⟨v15,q16,h⟩:=bs h
  refine cut 43 1 [(5,pT 2)] [[.sl (c3.map zLm.c)],(zLm.d c1),(zLm.d v15)] ?_ ?_
  ·refine st ?_
   simp
   have r17:=zF6 fuel c1 v15 q16
   refine cP r17 ?_
   simp
  refine zAC<|zAR<|zAE ?_
  cases h
  simp
 obtain⟨g18,g19⟩:=orF g14
 have g20:=notF g18
 refine zEt rfl g14<|cutA 43 1 [(1,iI binders2),(2,pT 0),(3,pT 1),(5,pT 2),(6,iI n4),(22,.bool (leI c3.length n4))] [[.sl (c3.map zLm.c)],(zLm.d c1),zz0]<|spc h rfl (fun g23 h=>?_) fun g23 h=>?_
 ·refine zBk 0 0 rfl rfl rfl fun f25=>?_
  rw[zq4] at f25
  obtain⟨n26,q27,h⟩:=bs h
  obtain⟨q28,q29⟩:=zBo q27
  have c30:=q28;simp only[Rng,inR] at c30
  obtain⟨v31,q32,h⟩:=bs h
  refine cut 43 1 [(5,pT 2)] [[.sl (c3.map zLm.c)],(zLm.d c1),(zLm.d v31)] ?_ ?_
  ·refine st ?_
   simp[q28,q29]
   have r33:=zGk n26 v31 q32
   refine cP r33 ?_
   simp[q28,q29]
  refine zAC<|zAR<|zAE ?_
  cases h
  simp
 refine zBk 0 0 rfl rfl rfl fun f35=>?_
 rw[zq4] at f35
 refine zAB<|zDC<|zAJ ?_
 obtain⟨v36,q37,h⟩:=bs h
 refine cut 43 1 [(2,pT 0),(5,pT 2),(6,iI n4),(7,pT 3)] [[.sl (c3.map zLm.c)],(zLm.d c1),zz0,[.fn (.func 149) [] [.cptr [iI v36.1],.cptr [iI v36.2]],iI 20000]] ?_ ?_
 ·refine st ?_
  simp
  have r45:=zGq binders2 0 v36 q37
  refine cP r45 ?_
  simp
 obtain⟨x38,q39,h⟩:=bs h
 obtain⟨q40,q41⟩:=idx_ok q39
 obtain⟨v42,q43,h⟩:=bs h
 refine cut 43 1 [(5,pT 2)] [[.sl (c3.map zLm.c)],(zLm.d c1),(zLm.d v42.1),[.fn (.func 149) [] [.cptr [iI v36.1],.cptr [iI v36.2]],iI v42.2]] ?_ ?_
 ·refine st ?_
  simp[q40,q41]
  have r44:=(zEY fuel x38 0 v36.1 v36.2 20000 v42 q43).frame [3] [[.sl (c3.map zLm.c)],(zLm.d c1),zz0,[.fn (.func 149) [] [.cptr [iI v36.1],.cptr [iI v36.2]],iI 20000]] (by simp)
  refine zDX r44 (by simp[q40,q41]) rfl ?_
  simp[q40,q41]
 refine zAC ?_
 cases h
 simp
theorem zGr(fuel:Nat):(∀(c1:zLm)(binders2:Int)(c3:Int)(c4:(List zLm))(r:zLm×Int)(_:zAg fuel c1 binders2 c3 c4=some r),Raw Tryz.prog 148 [pT 0,.agg (zLm.d c1),iI binders2] [[.fn (.func 187) [] [pT 1],iI c3],[.sl (c4.map zLm.c)]] (.agg (zLm.d r.1)) [[.fn (.func 187) [] [pT 1],iI r.2],[.sl (c4.map zLm.c)]]):=by
 induction fuel with
 |zero=>intro c1 binders2 c3 c4 r h;rw[zAg] at h;cases h
 |succ fuel zFK=>
  intro c1 binders2 c3 c4 r h
  rw[zAg] at h
  refine zBE Tryz.func148 (by rfl) (by rfl) (by simp) (by simp)<|cutA 87 2 [(0,pT 0),(2,iI binders2),(4,pT 2),(6,pT 3)] [[.fn (.func 187) [] [pT 1],iI c3],[.sl (c4.map zLm.c)],(zLm.d c1),zz0]<|zAA<|cutA 87 2 [(0,pT 0),(2,iI binders2),(4,pT 2),(6,pT 3),(15,.bool (leI c3 0))] [[.fn (.func 187) [] [pT 1],iI c3],[.sl (c4.map zLm.c)],(zLm.d c1),zz0]<|spc h rfl (fun g5 h=>?_) fun g5 h=>?_
  ·refine cutA 87 2 [(6,pT 3)] [[.fn (.func 187) [] [pT 1],iI (-1)],[.sl (c4.map zLm.c)],(zLm.d c1),zz0]<|cutA 87 2 [(6,pT 3)] [[.fn (.func 187) [] [pT 1],iI (-1)],[.sl (c4.map zLm.c)],(zLm.d c1),zz0]<|zAC<|zAE ?_
   cases h
   simp
  refine zAB<|zAJ<|zAA<|cut 87 2 [(0,pT 0),(2,iI binders2),(4,pT 2),(6,pT 3),(27,.bool ((eqI c1.Op 1)||(eqI c1.Op 2)))] [[.fn (.func 187) [] [pT 1],iI c3],[.sl (c4.map zLm.c)],(zLm.d c1),zz0] ?_ ?_
  ·rcases tf (eqI c1.Op 1) with g8|g8
   ·refine st ?_
    simp[g8]
   refine st ?_
   simp[g8]
  rcases sp h with ⟨g11,h⟩|⟨g11,h⟩
  ·refine zEj rfl g11 ?_
   obtain⟨v12,q13,h⟩:=bs h
   refine cut 87 2 [(0,pT 0),(6,pT 3),(7,pT 4)] [[.fn (.func 187) [] [pT 1],iI c3],[.sl (c4.map zLm.c)],(zLm.d c1),zz0,(zLm.d v12)] ?_ ?_
   ·refine zAl [1,996] [8] mixed (n:=87) rfl (by decide) (by decide) ?_
    simp
    have r22:=(zJC fuel c1 binders2 c4 v12 q13).frameZ [1] [[.fn (.func 187) [] [pT 1],iI c3],[.sl (c4.map zLm.c)],(zLm.d c1),zz0] (by simp) rfl (by simp) (by simp)
    refine zLa r22 (by simp) rfl (by decide) ?_
    simp
   obtain⟨v14,q15,h⟩:=bs h
   obtain⟨n16,q17,h⟩:=bs h
   obtain⟨q18,q19⟩:=zBo q17
   have c20:=q18;simp only[Rng,inR] at c20
   refine cut 87 2 [(6,pT 3),(7,pT 4)] [[.fn (.func 187) [] [pT 1],iI n16],[.sl (c4.map zLm.c)],(zLm.d c1),zz0,(zLm.d v12)] ?_ ?_
   ·refine zAL [] mixed (n:=87) rfl (by decide) ?_
    simp[q18,q19]
    have r21:=zEZ fuel v12 v14 q15
    refine zF9 r21 (by simp) rfl ?_
    simp[q18,q19]
   refine cutA 87 2 [(6,pT 3)] [[.fn (.func 187) [] [pT 1],iI n16],[.sl (c4.map zLm.c)],(zLm.d c1),(zLm.d v12),(zLm.d v12)]<|zAC<|zAE ?_
   cases h
   simp
  obtain⟨g23,g24⟩:=orF g11
  refine zEt rfl g11<|zAB<|zAJ ?_
  obtain⟨n27,q28,h⟩:=bs h
  obtain⟨q29,q30⟩:=zBo q28
  have c31:=q29;simp only[Rng,inR] at c31
  refine cut 87 2 [(0,pT 0),(2,iI binders2),(4,pT 2),(6,pT 3)] [[.fn (.func 187) [] [pT 1],iI n27],[.sl (c4.map zLm.c)],(zLm.d c1),zz0] (st (by simp[q29,q30])) ?_
  obtain⟨v32,q33,h⟩:=bs h
  obtain⟨v34,q35,h⟩:=bs h
  refine cut 87 2 [(0,pT 0),(2,iI binders2),(4,pT 2),(6,pT 3),(8,pT 4)] [[.fn (.func 187) [] [pT 1],iI n27],[.sl (c4.map zLm.c)],(zLm.d c1),zz0,[iI c1.Op,iI c1.N,.str c1.S,.sl (v32.L.map zLl.c),.sl (v34.map cS),.osl ⟨6,31⟩ (([]:List zLm).map zLm.c)]] ?_ ?_
  ·refine zAL [] mixed (n:=87) rfl (by decide) ?_
   simp
   have r95:=zFC fuel c1.Kind v32 q33
   refine zF9 r95 (by simp) rfl ?_
   simp
   have r96:=zDB c1.Names v34 q35
   refine zF9 r96 (by simp) rfl ?_
   simp
  refine zAA ?_
  obtain⟨v36,q37,h⟩:=bs h
  refine cut 87 2 [(0,pT 0),(2,iI binders2),(4,pT 2),(6,pT 3),(8,pT 4),(66,.bool v36)] [[.fn (.func 187) [] [pT 1],iI n27],[.sl (c4.map zLm.c)],(zLm.d c1),zz0,[iI c1.Op,iI c1.N,.str c1.S,.sl (v32.L.map zLl.c),.sl (v34.map cS),.osl ⟨6,31⟩ (([]:List zLm).map zLm.c)]] ?_ ?_
  ·refine st ?_
   simp
   have r94:=zBS c1 v36 q37
   refine cP r94 ?_
   simp
  refine spc h rfl (fun g38 h=>?_) fun g38 h=>?_
  ·obtain⟨n39,q40,h⟩:=bs h
   obtain⟨q41,q42⟩:=zBo q40
   have c43:=q41;simp only[Rng,inR] at c43
   refine last 87 2 [(0,pT 0),(2,iI n39),(4,pT 2),(6,pT 3),(8,pT 4)] [[.fn (.func 187) [] [pT 1],iI n27],[.sl (c4.map zLm.c)],(zLm.d c1),zz0,[iI c1.Op,iI c1.N,.str c1.S,.sl (v32.L.map zLl.c),.sl (v34.map cS),.osl ⟨6,31⟩ (([]:List zLm).map zLm.c)]] (st (by simp[q41,q42])) fun zz hs=>?_
   refine zAj ?_ hs
   refine zAA<|cutA 87 2 [(0,pT 0),(2,iI n39),(6,pT 3),(8,pT 4),(70,.sl (c1.L.map zLm.c)),(71,iI c1.L.length),(72,iI 0)] [[.fn (.func 187) [] [pT 1],iI n27],[.sl (c4.map zLm.c)],(zLm.d c1),zz0,[iI c1.Op,iI c1.N,.str c1.S,.sl (v32.L.map zLl.c),.sl (v34.map cS),.osl ⟨6,31⟩ (([]:List zLm).map zLm.c)]]<|zAF ?_
   obtain⟨o47,l48,h⟩:=bs h
   refine zAq (fun p:Nat×Int×(List zLm)×Nat=>mkS 87 2 [(0,pT 0),(2,iI n39),(6,pT 3),(8,pT 4),(70,.sl (c1.L.map zLm.c)),(71,iI c1.L.length),(72,iI p.2.2.2)] [[.fn (.func 187) [] [pT 1],iI p.2.1],[.sl (c4.map zLm.c)],(zLm.d c1),zz0,[iI c1.Op,iI c1.N,.str c1.S,.sl (v32.L.map zLl.c),.sl (v34.map cS),.osl ⟨6,31⟩ (p.2.2.1.map zLm.c)]]) (fun p=>zBJ (zAg fuel) c1 c4 n39 p.1 p.2.1 p.2.2.1 p.2.2.2=some o47) (fun p=>p.1) (fuel,n27,([]:List zLm),0) l48 (zAc (by simp)) ?_
   rintro⟨k49,left44,L45,i46⟩ l48
   try dsimp only at l48 ⊢
   cases k49 with
   |zero=>
    rw[zBJ] at l48;cases l48
   |succ k50=>
    rw[zBJ] at l48
    refine cutA 87 2 [(0,pT 0),(2,iI n39),(6,pT 3),(8,pT 4),(70,.sl (c1.L.map zLm.c)),(71,iI c1.L.length),(72,iI i46),(73,.bool (ltI i46 c1.L.length))] [[.fn (.func 187) [] [pT 1],iI left44],[.sl (c4.map zLm.c)],(zLm.d c1),zz0,[iI c1.Op,iI c1.N,.str c1.S,.sl (v32.L.map zLl.c),.sl (v34.map cS),.osl ⟨6,31⟩ (L45.map zLm.c)]]<|zAA<|spc l48 rfl (fun g51 l48=>?_) fun g51 l48=>?_
    ·have c52:=ltT g51
     refine zC5 70 rfl fun f53=>?_
     rw[zq4] at f53
     refine zAB<|zAJ<|zAA<|zAF ?_
     obtain⟨x54,q55,l48⟩:=bs l48
     refine cut 87 2 [(0,pT 0),(2,iI n39),(6,pT 3),(8,pT 4),(10,pT 5),(70,.sl (c1.L.map zLm.c)),(71,iI c1.L.length),(72,iI i46)] [[.fn (.func 187) [] [pT 1],iI left44],[.sl (c4.map zLm.c)],(zLm.d c1),zz0,[iI c1.Op,iI c1.N,.str c1.S,.sl (v32.L.map zLl.c),.sl (v34.map cS),.osl ⟨6,31⟩ (L45.map zLm.c)],(zLm.d x54)] (st (by simp[q55])) ?_
     obtain⟨v56,q57,l48⟩:=bs l48
     obtain⟨l58,q59,l48⟩:=bs l48
     obtain⟨q60,q61⟩:=zFL q59
     try simp at q60
     refine last 87 2 [(0,pT 0),(2,iI n39),(6,pT 3),(8,pT 4),(70,.sl (c1.L.map zLm.c)),(71,iI c1.L.length),(72,iI i46)] [[.fn (.func 187) [] [pT 1],iI v56.2],[.sl (c4.map zLm.c)],(zLm.d c1),zz0,[iI c1.Op,iI c1.N,.str c1.S,.sl (v32.L.map zLl.c),.sl (v34.map cS),.osl ⟨6,31⟩ (l58.map zLm.c)],(zLm.d x54)] ?_ fun zz hs=>?_
     ·refine zAl [0,1,996] [7,9] mixed (n:=87) rfl (by decide) (by decide) ?_
      simp[q60,q61]
      have r63:=(zFK x54 n39 left44 c4 v56 q57).frameZ [0,1] [[.fn (.func 187) [] [pT 1],iI left44],[.sl (c4.map zLm.c)],(zLm.d c1),zz0,[iI c1.Op,iI c1.N,.str c1.S,.sl (v32.L.map zLl.c),.sl (v34.map cS),.osl ⟨6,31⟩ (L45.map zLm.c)],(zLm.d x54)] (by simp) rfl (by simp) (by simp)
      try simp[q60,q61] at r63
      refine zLa r63 (by simp[q60,q61]) rfl (by decide) ?_
      simp[q60,q61]
     refine zDC<|zAj ?_ hs
     have q62:Rng .i64 (((i46:Nat):Int)+1):=by simp only[Rng,inR];omega
     try simp at q62
     refine last 87 2 [(0,pT 0),(2,iI n39),(6,pT 3),(8,pT 4),(70,.sl (c1.L.map zLm.c)),(71,iI c1.L.length),(72,iI ((i46+1:Nat):Int))] [[.fn (.func 187) [] [pT 1],iI v56.2],[.sl (c4.map zLm.c)],(zLm.d c1),zz0,[iI c1.Op,iI c1.N,.str c1.S,.sl (v32.L.map zLl.c),.sl (v34.map cS),.osl ⟨6,31⟩ (l58.map zLm.c)]] (st (by simp[q62])) fun zz hs=>?_
     exact⟨(k50,v56.2,l58,i46+1),hs,l48,by simp⟩
    have c64:=ltF g51
    refine zC5 70 rfl fun f65=>?_
    rw[zq4] at f65
    refine zAW<|zAH ?_
    have q66:=zqa l48
    have q67:o47.1=left44:=by rw[<-q66]
    have q68:o47.2=L45:=by rw[<-q66]
    refine zAH<|zAX<|zAj (t:=mkS 87 2 [(6,pT 3),(8,pT 4)] [[.fn (.func 187) [] [pT 1],iI o47.1],[.sl (c4.map zLm.c)],(zLm.d c1),zz0,[iI c1.Op,iI c1.N,.str c1.S,.sl (v32.L.map zLl.c),.sl (v34.map cS),.osl ⟨6,31⟩ (o47.2.map zLm.c)]]) ?_ (zAc (by simp[q67,q68]))
    refine cutA 87 2 [(6,pT 3)] [[.fn (.func 187) [] [pT 1],iI o47.1],[.sl (c4.map zLm.c)],(zLm.d c1),[iI c1.Op,iI c1.N,.str c1.S,.sl (v32.L.map zLl.c),.sl (v34.map cS),.sl (o47.2.map zLm.c)],[iI c1.Op,iI c1.N,.str c1.S,.sl (v32.L.map zLl.c),.sl (v34.map cS),.osl ⟨6,31⟩ (o47.2.map zLm.c)]]<|zAC ?_
    cases h
    simp
  refine zAB<|zAJ<|zAA<|cutA 87 2 [(0,pT 0),(2,iI binders2),(6,pT 3),(8,pT 4),(70,.sl (c1.L.map zLm.c)),(71,iI c1.L.length),(72,iI 0)] [[.fn (.func 187) [] [pT 1],iI n27],[.sl (c4.map zLm.c)],(zLm.d c1),zz0,[iI c1.Op,iI c1.N,.str c1.S,.sl (v32.L.map zLl.c),.sl (v34.map cS),.osl ⟨6,31⟩ (([]:List zLm).map zLm.c)]]<|zAF ?_
  obtain⟨o72,l73,h⟩:=bs h
  refine zAq (fun p:Nat×Int×(List zLm)×Nat=>mkS 87 2 [(0,pT 0),(2,iI binders2),(6,pT 3),(8,pT 4),(70,.sl (c1.L.map zLm.c)),(71,iI c1.L.length),(72,iI p.2.2.2)] [[.fn (.func 187) [] [pT 1],iI p.2.1],[.sl (c4.map zLm.c)],(zLm.d c1),zz0,[iI c1.Op,iI c1.N,.str c1.S,.sl (v32.L.map zLl.c),.sl (v34.map cS),.osl ⟨6,31⟩ (p.2.2.1.map zLm.c)]]) (fun p=>zBI (zAg fuel) c1 binders2 c4 p.1 p.2.1 p.2.2.1 p.2.2.2=some o72) (fun p=>p.1) (fuel,n27,([]:List zLm),0) l73 (zAc (by simp)) ?_
  rintro⟨k74,left69,L70,i71⟩ l73
  try dsimp only at l73 ⊢
  cases k74 with
  |zero=>
   rw[zBI] at l73;cases l73
  |succ k75=>
   rw[zBI] at l73
   refine cutA 87 2 [(0,pT 0),(2,iI binders2),(6,pT 3),(8,pT 4),(70,.sl (c1.L.map zLm.c)),(71,iI c1.L.length),(72,iI i71),(73,.bool (ltI i71 c1.L.length))] [[.fn (.func 187) [] [pT 1],iI left69],[.sl (c4.map zLm.c)],(zLm.d c1),zz0,[iI c1.Op,iI c1.N,.str c1.S,.sl (v32.L.map zLl.c),.sl (v34.map cS),.osl ⟨6,31⟩ (L70.map zLm.c)]]<|zAA<|spc l73 rfl (fun g76 l73=>?_) fun g76 l73=>?_
   ·have c77:=ltT g76
    refine zC5 70 rfl fun f78=>?_
    rw[zq4] at f78
    refine zAB<|zAJ<|zAA<|zAF ?_
    obtain⟨x79,q80,l73⟩:=bs l73
    refine cut 87 2 [(0,pT 0),(2,iI binders2),(6,pT 3),(8,pT 4),(10,pT 5),(70,.sl (c1.L.map zLm.c)),(71,iI c1.L.length),(72,iI i71)] [[.fn (.func 187) [] [pT 1],iI left69],[.sl (c4.map zLm.c)],(zLm.d c1),zz0,[iI c1.Op,iI c1.N,.str c1.S,.sl (v32.L.map zLl.c),.sl (v34.map cS),.osl ⟨6,31⟩ (L70.map zLm.c)],(zLm.d x79)] (st (by simp[q80])) ?_
    obtain⟨v81,q82,l73⟩:=bs l73
    obtain⟨l83,q84,l73⟩:=bs l73
    obtain⟨q85,q86⟩:=zFL q84
    try simp at q85
    refine last 87 2 [(0,pT 0),(2,iI binders2),(6,pT 3),(8,pT 4),(70,.sl (c1.L.map zLm.c)),(71,iI c1.L.length),(72,iI i71)] [[.fn (.func 187) [] [pT 1],iI v81.2],[.sl (c4.map zLm.c)],(zLm.d c1),zz0,[iI c1.Op,iI c1.N,.str c1.S,.sl (v32.L.map zLl.c),.sl (v34.map cS),.osl ⟨6,31⟩ (l83.map zLm.c)],(zLm.d x79)] ?_ fun zz hs=>?_
    ·refine zAl [0,1,996] [7,9] mixed (n:=87) rfl (by decide) (by decide) ?_
     simp[q85,q86]
     have r88:=(zFK x79 binders2 left69 c4 v81 q82).frameZ [0,1] [[.fn (.func 187) [] [pT 1],iI left69],[.sl (c4.map zLm.c)],(zLm.d c1),zz0,[iI c1.Op,iI c1.N,.str c1.S,.sl (v32.L.map zLl.c),.sl (v34.map cS),.osl ⟨6,31⟩ (L70.map zLm.c)],(zLm.d x79)] (by simp) rfl (by simp) (by simp)
     try simp[q85,q86] at r88
     refine zLa r88 (by simp[q85,q86]) rfl (by decide) ?_
     simp[q85,q86]
    refine zDC<|zAj ?_ hs
    have q87:Rng .i64 (((i71:Nat):Int)+1):=by simp only[Rng,inR];omega
    try simp at q87
    refine last 87 2 [(0,pT 0),(2,iI binders2),(6,pT 3),(8,pT 4),(70,.sl (c1.L.map zLm.c)),(71,iI c1.L.length),(72,iI ((i71+1:Nat):Int))] [[.fn (.func 187) [] [pT 1],iI v81.2],[.sl (c4.map zLm.c)],(zLm.d c1),zz0,[iI c1.Op,iI c1.N,.str c1.S,.sl (v32.L.map zLl.c),.sl (v34.map cS),.osl ⟨6,31⟩ (l83.map zLm.c)]] (st (by simp[q87])) fun zz hs=>?_
    exact⟨(k75,v81.2,l83,i71+1),hs,l73,by simp⟩
   have c89:=ltF g76
   refine zC5 70 rfl fun f90=>?_
   rw[zq4] at f90
   refine zAW<|zAH ?_
   have q91:=zqa l73
   have q92:o72.1=left69:=by rw[<-q91]
   have q93:o72.2=L70:=by rw[<-q91]
   refine zAH<|zAX<|zAj (t:=mkS 87 2 [(6,pT 3),(8,pT 4)] [[.fn (.func 187) [] [pT 1],iI o72.1],[.sl (c4.map zLm.c)],(zLm.d c1),zz0,[iI c1.Op,iI c1.N,.str c1.S,.sl (v32.L.map zLl.c),.sl (v34.map cS),.osl ⟨6,31⟩ (o72.2.map zLm.c)]]) ?_ (zAc (by simp[q92,q93]))
   refine cutA 87 2 [(6,pT 3)] [[.fn (.func 187) [] [pT 1],iI o72.1],[.sl (c4.map zLm.c)],(zLm.d c1),[iI c1.Op,iI c1.N,.str c1.S,.sl (v32.L.map zLl.c),.sl (v34.map cS),.sl (o72.2.map zLm.c)],[iI c1.Op,iI c1.N,.str c1.S,.sl (v32.L.map zLl.c),.sl (v34.map cS),.osl ⟨6,31⟩ (o72.2.map zLm.c)]]<|zAC ?_
   cases h
   simp
theorem zGB(fuel:Nat)(c1:zLm)(c2:(List zLm))(r:zLm×Int)(h:zBt fuel c1 c2=some r):Raw Tryz.prog 102 [.agg (zLm.d c1),.fn (.func 187) [] [pT 0]] [[.sl (c2.map zLm.c)]] (.tup [.agg (zLm.d r.1),iI r.2]) [[.sl (c2.map zLm.c)]]:=by
 rw[zBt] at h
 refine zBE Tryz.func102 (by rfl) (by rfl) (by simp) (by simp)<|cutA 26 1 [(1,.fn (.func 187) [] [pT 0]),(2,pT 1),(4,pT 2)] [[.sl (c2.map zLm.c)],(zLm.d c1),zz0]<|cutA 26 1 [(2,pT 1),(4,pT 2),(6,pT 3)] [[.sl (c2.map zLm.c)],(zLm.d c1),zz0,[.fn (.func 187) [] [pT 0],iI 20000]] ?_
 obtain⟨v3,q4,h⟩:=bs h
 refine cut 26 1 [(4,pT 2),(6,pT 3),(7,pT 4)] [[.sl (c2.map zLm.c)],(zLm.d c1),zz0,[.fn (.func 187) [] [pT 0],iI v3.2],(zLm.d v3.1)] ?_ ?_
 ·refine st ?_
  simp
  have r14:=(zGr fuel c1 0 20000 c2 v3 q4).frame [3,0] [[.sl (c2.map zLm.c)],(zLm.d c1),zz0,[.fn (.func 187) [] [pT 0],iI 20000]] (by simp)
  try simp at r14
  refine zDX r14 (by simp) rfl ?_
  simp
 refine zAA ?_
 obtain⟨b10,q11,h⟩:=bs h
 refine cut 26 1 [(4,pT 2),(7,pT 4),(23,.bool b10)] [[.sl (c2.map zLm.c)],(zLm.d c1),zz0,[.fn (.func 187) [] [pT 0],iI v3.2],(zLm.d v3.1)] ?_ ?_
 ·rcases sp q11 with ⟨g5,q11⟩|⟨g5,q11⟩
  ·have c6:=ltT g5
   obtain rfl:=oi q11
   refine st ?_
   simp[g5]
  have c7:=ltF g5
  obtain⟨v8,q9,q11⟩:=bs q11
  obtain rfl:=oi q11
  refine st ?_
  simp[g5]
  have r13:=zCI fuel v3.1 v8 q9
  try simp[g5] at r13
  refine cP r13 ?_
  simp[g5]
 refine spc h rfl (fun g12 h=>?_) fun g12 h=>?_
 ·refine cutA 26 1 [(4,pT 2),(5,iI 6)] [[.sl (c2.map zLm.c)],(zLm.d c1),zz0,[.fn (.func 187) [] [pT 0],iI v3.2],(zLm.d v3.1)]<|zAC<|zAE ?_
  cases h
  simp
 refine zAB<|zAJ<|cutA 26 1 [(4,pT 2),(5,iI 0)] [[.sl (c2.map zLm.c)],(zLm.d c1),(zLm.d v3.1),[.fn (.func 187) [] [pT 0],iI v3.2],(zLm.d v3.1)]<|zAC ?_
 cases h
 simp
theorem zHv(fuel:Nat)(c1:zLm)(l2:(List zLm))(r:zLm×Int)(h:zDe fuel c1 l2=some r):Pure Tryz.prog 153 [.agg (zLm.d c1),.sl (l2.map zLm.c)] (.tup [.agg (zLm.d r.1),iI r.2]):=by
 rw[zDe] at h
 refine zAD Tryz.func153 (by rfl) (by rfl) (by simp) (by simp) (by simp)<|cutA 24 0 [(2,pT 0),(3,pT 1),(4,pT 2)] [(zLm.d c1),[.sl (l2.map zLm.c)],zz0]<|zAA ?_
 obtain⟨b10,q11,h⟩:=bs h
 refine cut 24 0 [(2,pT 0),(3,pT 1),(4,pT 2),(13,.bool b10)] [(zLm.d c1),[.sl (l2.map zLm.c)],zz0] ?_ ?_
 ·obtain⟨v3,q4,q11⟩:=bs q11
  rcases sp q11 with ⟨g5,q11⟩|⟨g5,q11⟩
  ·have g6:=notT g5
   obtain rfl:=oi q11
   refine st ?_
   simp[g5]
   have r21:=zCI fuel c1 v3 q4
   try simp[g5] at r21
   refine cP r21 ?_
   simp[g5]
  have g7:=notF g5
  obtain⟨v8,q9,q11⟩:=bs q11
  obtain rfl:=oi q11
  refine st ?_
  simp[g5]
  have r22:=zCI fuel c1 v3 q4
  try simp[g5] at r22
  refine cP r22 ?_
  simp[g5]
  have r23:=tycon_all_ok fuel l2 v8 q9
  try simp[g5] at r23
  refine cP r23 ?_
  simp[g5]
 refine spc h rfl (fun g12 h=>?_) fun g12 h=>?_
 ·refine cutA 24 0 [(4,pT 2),(5,iI 1)] [(zLm.d c1),[.sl (l2.map zLm.c)],zz0]<|zAC<|zAE ?_
  cases h
  simp
 refine zAB<|zAJ<|zAA<|cutA 24 0 [(2,pT 0),(3,pT 1),(4,pT 2),(17,.bool (ltI 1000 l2.length))] [(zLm.d c1),[.sl (l2.map zLm.c)],zz0]<|spc h rfl (fun g13 h=>?_) fun g13 h=>?_
 ·have c14:=ltT g13
  refine zBk 1 0 rfl rfl rfl fun f15=>?_
  rw[zq4] at f15
  refine cutA 24 0 [(4,pT 2),(5,iI 5)] [(zLm.d c1),[.sl (l2.map zLm.c)],zz0]<|zAC<|zAE ?_
  cases h
  simp
 have c16:=ltF g13
 refine zBk 1 0 rfl rfl rfl fun f17=>?_
 rw[zq4] at f17
 refine zAB<|zAJ ?_
 obtain⟨v18,q19,h⟩:=bs h
 refine cut 24 0 [(4,pT 2),(5,iI v18.2)] [(zLm.d c1),[.sl (l2.map zLm.c)],(zLm.d v18.1)] ?_ ?_
 ·refine st ?_
  simp
  have r20:=(zGB fuel c1 l2 v18 q19).frame [1] [(zLm.d c1),[.sl (l2.map zLm.c)],zz0] (by simp)
  try simp at r20
  refine zDX r20 (by simp) rfl ?_
  simp
 refine zAC ?_
 cases h
 simp
theorem zG4(fuel:Nat)(f1:zLm)(a2:zLm)(w3:zLi)(r:zLm×zLi)(h:zB3 fuel f1 a2 w3=some r):Raw Tryz.prog 146 [pT 0,.agg (zLm.d f1),.agg (zLm.d a2)] [[iI w3.steps,.bool w3.over]] (.agg (zLm.d r.1)) [[iI r.2.steps,.bool r.2.over]]:=by
 rw[zB3] at h
 refine zBE Tryz.func146 (by rfl) (by rfl) (by simp) (by simp)<|cutA 48 1 [(0,pT 0),(4,pT 1),(5,pT 2),(6,pT 3)] [[iI w3.steps,.bool w3.over],(zLm.d f1),(zLm.d a2),zz0] ?_
 obtain⟨n4,q5,h⟩:=bs h
 obtain⟨q6,q7⟩:=zBo q5
 have c8:=q6;simp only[Rng,inR] at c8
 refine cut 48 1 [(0,pT 0),(4,pT 1),(5,pT 2),(6,pT 3)] [[iI n4,.bool w3.over],(zLm.d f1),(zLm.d a2),zz0] (st (by simp[q6,q7]))<|zAA<|cutA 48 1 [(0,pT 0),(4,pT 1),(5,pT 2),(6,pT 3),(20,.bool (ltI 10000 n4))] [[iI n4,.bool w3.over],(zLm.d f1),(zLm.d a2),zz0]<|spc h rfl (fun g9 h=>?_) fun g9 h=>?_
 ·refine lastA 48 1 [(0,pT 0),(4,pT 1),(5,pT 2),(6,pT 3)] [[iI n4,.bool true],(zLm.d f1),(zLm.d a2),zz0]<|zAA<|cutA 48 1 [(0,pT 0),(4,pT 1),(5,pT 2),(6,pT 3),(27,.bool true)] [[iI n4,.bool true],(zLm.d f1),(zLm.d a2),zz0]<|zEj rfl rfl<|cutA 48 1 [(6,pT 3)] [[iI n4,.bool true],(zLm.d f1),(zLm.d a2),zz0]<|zAC<|zAE ?_
  cases h
  simp
 refine zAB<|zAJ<|zAA<|cutA 48 1 [(0,pT 0),(4,pT 1),(5,pT 2),(6,pT 3),(27,.bool w3.over)] [[iI n4,.bool w3.over],(zLm.d f1),(zLm.d a2),zz0]<|spc h rfl (fun g12 h=>?_) fun g12 h=>?_
 ·refine cutA 48 1 [(6,pT 3)] [[iI n4,.bool w3.over],(zLm.d f1),(zLm.d a2),zz0]<|zAC<|zAE ?_
  cases h
  simp
 refine zAB<|zAJ ?_
 obtain⟨x13,q14,h⟩:=bs h
 obtain⟨v15,q16,h⟩:=bs h
 refine cut 48 1 [(0,pT 0),(6,pT 3),(7,pT 4),(8,iI v15.2)] [[iI n4,.bool w3.over],(zLm.d f1),(zLm.d a2),zz0,(zLm.d v15.1)] ?_ ?_
 ·refine zAL [] mixed (n:=48) rfl (by decide) ?_
  simp[q14]
  have r25:=zHv fuel x13 [a2] v15 q16
  try simp[q14] at r25
  refine zF9 r25 (by simp) rfl ?_
  simp[q14]
 refine zAA<|cutA 48 1 [(0,pT 0),(6,pT 3),(7,pT 4),(40,.bool (!(eqI v15.2 0)))] [[iI n4,.bool w3.over],(zLm.d f1),(zLm.d a2),zz0,(zLm.d v15.1)]<|spc h rfl (fun g17 h=>?_) fun g17 h=>?_
 ·have g18:=notT g17
  refine cutA 48 1 [(6,pT 3)] [[iI n4,.bool true],(zLm.d f1),(zLm.d a2),zz0,(zLm.d v15.1)]<|cutA 48 1 [(6,pT 3)] [[iI n4,.bool true],(zLm.d f1),(zLm.d a2),zz0,(zLm.d v15.1)]<|zAC<|zAE ?_
  cases h
  simp
 have g20:=notF g17
 refine zAB<|zAJ ?_
 obtain⟨v22,q23,h⟩:=bs h
 refine cut 48 1 [(6,pT 3)] [[iI v22.2.steps,.bool v22.2.over],(zLm.d f1),(zLm.d a2),(zLm.d v22.1),(zLm.d v15.1)] ?_ ?_
 ·refine st ?_
  simp
  have r24:=(zFI fuel v15.1 (zLi.mk n4 w3.over) v22 q23).frame [0] [[iI n4,.bool w3.over],(zLm.d f1),(zLm.d a2),zz0,(zLm.d v15.1)] (by simp)
  refine zDX r24 (by simp) rfl ?_
  simp
 refine zAC ?_
 cases h
 simp
theorem zJe(op1:Int)(r:Bool)(h:zF8 op1=some r):Pure Tryz.prog 213 [iI op1] (.bool r):=by
 rw[zF8] at h
 refine zAD Tryz.func213 (by rfl) (by rfl) (by simp) (by simp) (by simp)<|cutA 17 0 [(0,iI op1)] []<|cut 17 0 [(2,.bool ((eqI op1 9)||((eqI op1 10)||((eqI op1 11)||(eqI op1 13)))))] [] ?_ ?_
 ·rcases tf (eqI op1 9) with g2|g2
  ·have c3:=eqT g2
   refine st ?_
   simp[g2]
  have c4:=eqF g2
  rcases tf (eqI op1 10) with g5|g5
  ·have c6:=eqT g5
   refine st ?_
   simp[g2,g5]
  have c7:=eqF g5
  rcases tf (eqI op1 11) with g8|g8
  ·have c9:=eqT g8
   refine st ?_
   simp[g2,g5,g8]
  have c10:=eqF g8
  refine st ?_
  simp[g2,g5,g8]
 refine zAC ?_
 cases h
 simp
theorem zCt(fuel:Nat):(∀(x1:zLm)(c2:Int)(r:Bool)(_:zB7 fuel x1 c2=some r),Raw Tryz.prog 214 [.agg (zLm.d x1),pT 0] [[iI c2]] (.bool r) [[iI c2]])∧(∀(s1:(List zLm))(c2:Int)(r:Int)(_:zAz fuel s1 c2=some r),Raw Tryz.prog 144 [.sl (s1.map zLm.c),.fn (.func 214) [] [pT 0]] [[iI c2]] (iI r) [[iI c2]])∧(∀(s1:(List zLm))(c2:Int)(r:Bool)(_:zAa fuel s1 c2=some r),Raw Tryz.prog 95 [.sl (s1.map zLm.c),.fn (.func 214) [] [pT 0]] [[iI c2]] (.bool r) [[iI c2]])∧(∀(c1:zLm)(n2:Int)(r:Bool)(_:zCq fuel c1 n2=some r),Pure Tryz.prog 182 [.agg (zLm.d c1),iI n2] (.bool r)):=by
 induction fuel with
 |zero=>
  refine⟨?_,?_,?_,?_⟩
  ·intro x1 c2 r h;rw[zB7] at h;cases h
  ·intro s1 c2 r h;rw[zAz] at h;cases h
  ·intro s1 c2 r h;rw[zAa] at h;cases h
  ·intro c1 n2 r h;rw[zCq] at h;cases h
 |succ fuel ih=>
  obtain⟨zIb,zES,zCW,zJo⟩:=ih
  refine⟨?_,?_,?_,?_⟩
  ·intro x1 c2 r h
   rw[zB7] at h
   refine zBE Tryz.func214 (by rfl) (by rfl) (by simp) (by simp)<|cutA 7 1 [(1,pT 0),(2,pT 1)] [[iI c2],(zLm.d x1)] ?_
   obtain⟨v3,q4,h⟩:=bs h
   refine cut 7 1 [(3,.bool v3)] [[iI c2],(zLm.d x1)] ?_ ?_
   ·refine st ?_
    simp
    have r5:=zJo x1 c2 v3 q4
    refine cP r5 ?_
    simp
   refine zAC ?_
   cases h
   simp
  ·intro s1 c2 r h
   rw[zAz] at h
   refine zBE Tryz.func144 (by rfl) (by rfl) (by simp) (by simp)<|cutA 19 1 [(0,.sl (s1.map zLm.c)),(1,.fn (.func 214) [] [pT 0])] [[iI c2]]<|zAA<|cutA 19 1 [(0,.sl (s1.map zLm.c)),(1,.fn (.func 214) [] [pT 0]),(7,iI s1.length),(8,iI 0)] [[iI c2]]<|zAF ?_
   obtain⟨o5,l6,h⟩:=bs h
   refine zAq (fun p:Nat×Nat=>mkS 19 1 [(0,.sl (s1.map zLm.c)),(1,.fn (.func 214) [] [pT 0]),(7,iI s1.length),(8,iI p.2)] [[iI c2]]) (fun p=>zAZ (zB7 fuel) s1 c2 p.1 p.2=some o5) (fun p=>p.1) (fuel,0) l6 (zAc (by simp)) ?_
   rintro⟨k7,i3⟩ l6
   try dsimp only at l6 ⊢
   cases k7 with
   |zero=>
    rw[zAZ] at l6;cases l6
   |succ k8=>
    rw[zAZ] at l6
    refine cutA 19 1 [(0,.sl (s1.map zLm.c)),(1,.fn (.func 214) [] [pT 0]),(7,iI s1.length),(8,iI i3),(9,.bool (ltI i3 s1.length))] [[iI c2]]<|zAA<|spc l6 rfl (fun g9 l6=>?_) fun g9 l6=>?_
    ·have c10:=ltT g9
     refine zC5 0 rfl fun f11=>?_
     rw[zq4] at f11
     refine zAB<|zAJ<|zAA<|zAF<|cutA 19 1 [(0,.sl (s1.map zLm.c)),(1,.fn (.func 214) [] [pT 0]),(5,iI i3),(7,iI s1.length),(8,iI i3)] [[iI c2]] ?_
     obtain⟨x12,q13,l6⟩:=bs l6
     obtain⟨v14,q15,l6⟩:=bs l6
     refine cut 19 1 [(0,.sl (s1.map zLm.c)),(1,.fn (.func 214) [] [pT 0]),(5,iI i3),(7,iI s1.length),(8,iI i3),(16,.bool v14)] [[iI c2]] ?_ ?_
     ·refine st ?_
      simp[q13]
      have r18:=(zIb x12 c2 v14 q15).frame [0] [[iI c2]] (by simp)
      refine zDX r18 (by simp[q13]) rfl ?_
      simp[q13]
     refine spc l6 rfl (fun g16 l6=>?_) fun g16 l6=>?_
     ·refine cutA 19 1 [(4,iI i3)] [[iI c2]]<|zAC<|zAR<|zAE ?_
      replace h:=retL l6 h
      refine zAE<|zAR<|zAE ?_
      cases h
      simp
     refine zAB<|zDC<|zAJ ?_
     have q17:Rng .i64 (((i3:Nat):Int)+1):=by simp only[Rng,inR];omega
     refine last 19 1 [(0,.sl (s1.map zLm.c)),(1,.fn (.func 214) [] [pT 0]),(7,iI s1.length),(8,iI ((i3+1:Nat):Int))] [[iI c2]] (st (by simp[q17])) fun zz hs=>?_
     exact⟨(k8,i3+1),hs,l6,by simp⟩
    refine zC5 0 rfl fun f20=>?_
    rw[zq4] at f20
    refine zAW<|zAH ?_
    rcases o5 with o5|o4
    ·cases l6
    have q21:=Sum.inr.inj (zqa l6)
    replace h:=zHa h
    refine zAH<|zAX<|zAj (t:=mkS 19 1 [] [[iI c2]]) ?_ (zAc (by simp))
    refine cutA 19 1 [(4,iI (-1))] [[iI c2]]<|zAC ?_
    cases h
    simp
  ·intro s1 c2 r h
   rw[zAa] at h
   refine zBE Tryz.func95 (by rfl) (by rfl) (by simp) (by simp)<|cutA 9 1 [(0,.sl (s1.map zLm.c)),(1,.fn (.func 214) [] [pT 0])] [[iI c2]] ?_
   obtain⟨v3,q4,h⟩:=bs h
   refine cut 9 1 [(4,.bool (leI 0 v3))] [[iI c2]] ?_ ?_
   ·refine st ?_
    simp
    have r5:=(zES s1 c2 v3 q4).frame [0] [[iI c2]] (by simp)
    refine zDX r5 (by simp) rfl ?_
    simp
   refine zAC ?_
   cases h
   simp
  ·intro c1 n2 r h
   rw[zCq] at h
   refine zAD Tryz.func182 (by rfl) (by rfl) (by simp) (by simp) (by simp)<|cutA 21 0 [(2,pT 0),(3,pT 1)] [(zLm.d c1),[iI n2]]<|zAA<|cutA 21 0 [(2,pT 0),(3,pT 1),(7,.bool (eqI c1.Op 1))] [(zLm.d c1),[iI n2]]<|spc h rfl (fun g3 h=>?_) fun g3 h=>?_
   ·refine cutA 21 0 [(4,.bool (eqI c1.N n2))] [(zLm.d c1),[iI n2]]<|zAC<|zAE ?_
    cases h
    simp
   refine zAB<|zAJ<|zAA ?_
   obtain⟨v6,q7,h⟩:=bs h
   refine cut 21 0 [(2,pT 0),(3,pT 1),(14,.bool v6)] [(zLm.d c1),[iI n2]] ?_ ?_
   ·refine st ?_
    simp
    have r20:=zJe c1.Op v6 q7
    refine cP r20 ?_
    simp
   refine spc h rfl (fun g8 h=>?_) fun g8 h=>?_
   ·obtain⟨n9,q10,h⟩:=bs h
    obtain⟨q11,q12⟩:=zBo q10
    have c13:=q11;simp only[Rng,inR] at c13
    refine last 21 0 [(2,pT 0),(3,pT 1)] [(zLm.d c1),[iI n9]] (st (by simp[q11,q12])) fun zz hs=>?_
    refine zAj ?_ hs
    obtain⟨v14,q15,h⟩:=bs h
    refine cut 21 0 [(4,.bool v14)] [(zLm.d c1),[iI n9]] ?_ ?_
    ·refine st ?_
     simp
     have r16:=(zCW c1.L n9 v14 q15).frame [1] [(zLm.d c1),[iI n9]] (by simp)
     refine zDX r16 (by simp) rfl ?_
     simp
    refine zAC ?_
    cases h
    simp
   refine zAB<|zAJ ?_
   obtain⟨v17,q18,h⟩:=bs h
   refine cut 21 0 [(4,.bool v17)] [(zLm.d c1),[iI n2]] ?_ ?_
   ·refine st ?_
    simp
    have r19:=(zCW c1.L n2 v17 q18).frame [1] [(zLm.d c1),[iI n2]] (by simp)
    refine zDX r19 (by simp) rfl ?_
    simp
   refine zAC ?_
   cases h
   simp
theorem zJc(fuel:Nat):(∀(c1:zLm)(n2:Int)(r:Bool)(_:zCq fuel c1 n2=some r),Pure Tryz.prog 182 [.agg (zLm.d c1),iI n2] (.bool r)):=(zCt fuel).2.2.2
theorem normal_eta_ok(fuel:Nat)(c1:zLm)(r:Bool)(h:zE9 fuel c1=some r):Pure Tryz.prog 147 [.agg (zLm.d c1)] (.bool r):=by
 rw[zE9] at h
 refine zAD Tryz.func147 (by rfl) (by rfl) (by simp) (by simp) (by simp)<|cutA 43 0 [(1,pT 0)] [(zLm.d c1)]<|zAA ?_
 obtain⟨b9,q10,h⟩:=bs h
 refine cut 43 0 [(1,pT 0),(15,.bool b9)] [(zLm.d c1)] ?_ ?_
 ·rcases sp q10 with ⟨g2,q10⟩|⟨g2,q10⟩
  ·obtain rfl:=oi q10
   refine st ?_
   simp[g2]
  obtain⟨x7,q8,q10⟩:=bs q10
  obtain rfl:=oi q10
  refine st ?_
  simp[g2,q8]
 refine spc h rfl (fun g11 h=>?_) fun g11 h=>?_
 ·refine cutA 43 0 [(2,.bool false)] [(zLm.d c1)]<|zAC<|zAE ?_
  cases h
  simp
 refine zAB<|zAJ ?_
 obtain⟨x12,q13,h⟩:=bs h
 obtain⟨x14,q15,h⟩:=bs h
 obtain⟨x16,q17,h⟩:=bs h
 refine cut 43 0 [(3,pT 1),(4,pT 2)] [(zLm.d c1),(zLm.d x14),(zLm.d x16)] ?_ ?_
 ·refine zKS mixed 17 (fun L s=> ∃(pos:Nat->Nat) (bl:List (List AV)),NPos [(14,(if L 16=true then (zLm.d x14) else [iI 0,iI 0,.str ([]:List UInt8),.nsl,.nsl,.nsl])),(15,[iI 0,iI 0,.str ([]:List UInt8),.nsl,.nsl,.nsl])] L pos bl∧s.n=43∧s.base=0∧(∀t,s.loans t=none)∧s.blocks=[(zLm.d c1)]++bl∧s.get 1=pT 0∧s.get 15=.bool b9∧(L 0=true->s.get 16=.mptr 0 5)∧(L 1=true->s.get 17=.sl (c1.L.map zLm.c))∧(L 2=true->s.get 18=.cptr (zLm.d x12))∧(L 3=true->s.get 19=.cptr [.sl (x12.L.map zLm.c)])∧(L 4=true->s.get 20=.sl (x12.L.map zLm.c))∧(L 5=true->s.get 21=.cptr (zLm.d x14))∧(L 6=true->s.get 22=.agg (zLm.d x14))∧(L 7=true->s.get 23=.mptr 0 5)∧(L 8=true->s.get 24=.sl (c1.L.map zLm.c))∧(L 9=true->s.get 25=.cptr (zLm.d x12))∧(L 10=true->s.get 26=.cptr [.sl (x12.L.map zLm.c)])∧(L 11=true->s.get 27=.sl (x12.L.map zLm.c))∧(L 12=true->s.get 28=.cptr (zLm.d x16))∧(L 13=true->s.get 29=.agg (zLm.d x16))∧(L 14=true->s.get 3=.mptr (pos 14+1) 0)∧(L 15=true->s.get 4=.mptr (pos 15+1) 0)∧(L 16=true->L 14=true)) (by decide) ⟨fun _=>0,[],NPos.start _ _,by simp⟩ ?_ ?_
  ·refine⟨?_,?_,?_,?_,?_,?_,?_,?_,?_,?_,?_,?_,?_,?_,?_,?_,?_,trivial⟩
   ·intro L s hL he hI
    obtain⟨pos,bl,hN,n1,n2,n3,n4,w1,w15,v0,v1,v2,v3,v4,v5,v6,v7,v8,v9,v10,v11,v12,v13,v14,v15,c16⟩:=hI
    try simp[q13,q15,q17] at v0 v1 v2 v3 v4 v5 v6 v7 v8 v9 v10 v11 v12 v13 v14 v15
    refine AStep.mono ?_ fun s' h=>⟨_,_,hN.skip (by simp),h⟩
    simp[n1,n2,n3,n4,w1,w15,v0,v1,v2,v3,v4,v5,v6,v7,v8,v9,v10,v11,v12,v13,v14,v15,q13,q15,q17]
    repeat' (first|exact v0|exact v1|exact v2|exact v3|exact v4|exact v5|exact v6|exact v7|exact v8|exact v9|exact v10|exact v11|exact v12|exact v13|exact v14|exact v15|exact c16|exact fun h=>absurd (c16 h) (by simp[hL])|refine⟨?_,?_⟩)
   ·intro L s hL he hI
    obtain⟨pos,bl,hN,n1,n2,n3,n4,w1,w15,v0,v1,v2,v3,v4,v5,v6,v7,v8,v9,v10,v11,v12,v13,v14,v15,c16⟩:=hI
    try simp[q13,q15,q17] at v0 v1 v2 v3 v4 v5 v6 v7 v8 v9 v10 v11 v12 v13 v14 v15
    replace v0:=v0 ((zq8 he) 0 (by decide))
    refine AStep.mono ?_ fun s' h=>⟨_,_,hN.skip (by simp),h⟩
    simp[n1,n2,n3,n4,w1,w15,v0,v1,v2,v3,v4,v5,v6,v7,v8,v9,v10,v11,v12,v13,v14,v15,q13,q15,q17]
    repeat' (first|exact v0|exact v1|exact v2|exact v3|exact v4|exact v5|exact v6|exact v7|exact v8|exact v9|exact v10|exact v11|exact v12|exact v13|exact v14|exact v15|exact c16|exact fun h=>absurd (c16 h) (by simp[hL])|exact(zq8 he) 0 (by decide)|refine⟨?_,?_⟩)
   ·intro L s hL he hI
    obtain⟨pos,bl,hN,n1,n2,n3,n4,w1,w15,v0,v1,v2,v3,v4,v5,v6,v7,v8,v9,v10,v11,v12,v13,v14,v15,c16⟩:=hI
    try simp[q13,q15,q17] at v0 v1 v2 v3 v4 v5 v6 v7 v8 v9 v10 v11 v12 v13 v14 v15
    replace v1:=v1 ((zq8 he) 1 (by decide))
    refine AStep.mono ?_ fun s' h=>⟨_,_,hN.skip (by simp),h⟩
    simp[n1,n2,n3,n4,w1,w15,v0,v1,v2,v3,v4,v5,v6,v7,v8,v9,v10,v11,v12,v13,v14,v15,q13,q15,q17]
    repeat' (first|exact v0|exact v1|exact v2|exact v3|exact v4|exact v5|exact v6|exact v7|exact v8|exact v9|exact v10|exact v11|exact v12|exact v13|exact v14|exact v15|exact c16|exact fun h=>absurd (c16 h) (by simp[hL])|exact(zq8 he) 1 (by decide)|refine⟨?_,?_⟩)
   ·intro L s hL he hI
    obtain⟨pos,bl,hN,n1,n2,n3,n4,w1,w15,v0,v1,v2,v3,v4,v5,v6,v7,v8,v9,v10,v11,v12,v13,v14,v15,c16⟩:=hI
    try simp[q13,q15,q17] at v0 v1 v2 v3 v4 v5 v6 v7 v8 v9 v10 v11 v12 v13 v14 v15
    replace v2:=v2 ((zq8 he) 2 (by decide))
    refine AStep.mono ?_ fun s' h=>⟨_,_,hN.skip (by simp),h⟩
    simp[n1,n2,n3,n4,w1,w15,v0,v1,v2,v3,v4,v5,v6,v7,v8,v9,v10,v11,v12,v13,v14,v15,q13,q15,q17]
    repeat' (first|exact v0|exact v1|exact v2|exact v3|exact v4|exact v5|exact v6|exact v7|exact v8|exact v9|exact v10|exact v11|exact v12|exact v13|exact v14|exact v15|exact c16|exact fun h=>absurd (c16 h) (by simp[hL])|exact(zq8 he) 2 (by decide)|refine⟨?_,?_⟩)
   ·intro L s hL he hI
    obtain⟨pos,bl,hN,n1,n2,n3,n4,w1,w15,v0,v1,v2,v3,v4,v5,v6,v7,v8,v9,v10,v11,v12,v13,v14,v15,c16⟩:=hI
    try simp[q13,q15,q17] at v0 v1 v2 v3 v4 v5 v6 v7 v8 v9 v10 v11 v12 v13 v14 v15
    replace v3:=v3 ((zq8 he) 3 (by decide))
    refine AStep.mono ?_ fun s' h=>⟨_,_,hN.skip (by simp),h⟩
    simp[n1,n2,n3,n4,w1,w15,v0,v1,v2,v3,v4,v5,v6,v7,v8,v9,v10,v11,v12,v13,v14,v15,q13,q15,q17]
    repeat' (first|exact v0|exact v1|exact v2|exact v3|exact v4|exact v5|exact v6|exact v7|exact v8|exact v9|exact v10|exact v11|exact v12|exact v13|exact v14|exact v15|exact c16|exact fun h=>absurd (c16 h) (by simp[hL])|exact(zq8 he) 3 (by decide)|refine⟨?_,?_⟩)
   ·intro L s hL he hI
    obtain⟨pos,bl,hN,n1,n2,n3,n4,w1,w15,v0,v1,v2,v3,v4,v5,v6,v7,v8,v9,v10,v11,v12,v13,v14,v15,c16⟩:=hI
    try simp[q13,q15,q17] at v0 v1 v2 v3 v4 v5 v6 v7 v8 v9 v10 v11 v12 v13 v14 v15
    replace v4:=v4 ((zq8 he) 4 (by decide))
    refine AStep.mono ?_ fun s' h=>⟨_,_,hN.skip (by simp),h⟩
    simp[n1,n2,n3,n4,w1,w15,v0,v1,v2,v3,v4,v5,v6,v7,v8,v9,v10,v11,v12,v13,v14,v15,q13,q15,q17]
    repeat' (first|exact v0|exact v1|exact v2|exact v3|exact v4|exact v5|exact v6|exact v7|exact v8|exact v9|exact v10|exact v11|exact v12|exact v13|exact v14|exact v15|exact c16|exact fun h=>absurd (c16 h) (by simp[hL])|exact(zq8 he) 4 (by decide)|refine⟨?_,?_⟩)
   ·intro L s hL he hI
    obtain⟨pos,bl,hN,n1,n2,n3,n4,w1,w15,v0,v1,v2,v3,v4,v5,v6,v7,v8,v9,v10,v11,v12,v13,v14,v15,c16⟩:=hI
    try simp[q13,q15,q17] at v0 v1 v2 v3 v4 v5 v6 v7 v8 v9 v10 v11 v12 v13 v14 v15
    replace v5:=v5 ((zq8 he) 5 (by decide))
    refine AStep.mono ?_ fun s' h=>⟨_,_,hN.skip (by simp),h⟩
    simp[n1,n2,n3,n4,w1,w15,v0,v1,v2,v3,v4,v5,v6,v7,v8,v9,v10,v11,v12,v13,v14,v15,q13,q15,q17]
    repeat' (first|exact v0|exact v1|exact v2|exact v3|exact v4|exact v5|exact v6|exact v7|exact v8|exact v9|exact v10|exact v11|exact v12|exact v13|exact v14|exact v15|exact c16|exact fun h=>absurd (c16 h) (by simp[hL])|exact(zq8 he) 5 (by decide)|refine⟨?_,?_⟩)
   ·intro L s hL he hI
    obtain⟨pos,bl,hN,n1,n2,n3,n4,w1,w15,v0,v1,v2,v3,v4,v5,v6,v7,v8,v9,v10,v11,v12,v13,v14,v15,c16⟩:=hI
    try simp[q13,q15,q17] at v0 v1 v2 v3 v4 v5 v6 v7 v8 v9 v10 v11 v12 v13 v14 v15
    refine AStep.mono ?_ fun s' h=>⟨_,_,hN.skip (by simp),h⟩
    simp[n1,n2,n3,n4,w1,w15,v0,v1,v2,v3,v4,v5,v6,v7,v8,v9,v10,v11,v12,v13,v14,v15,q13,q15,q17]
    repeat' (first|exact v0|exact v1|exact v2|exact v3|exact v4|exact v5|exact v6|exact v7|exact v8|exact v9|exact v10|exact v11|exact v12|exact v13|exact v14|exact v15|exact c16|exact fun h=>absurd (c16 h) (by simp[hL])|refine⟨?_,?_⟩)
   ·intro L s hL he hI
    obtain⟨pos,bl,hN,n1,n2,n3,n4,w1,w15,v0,v1,v2,v3,v4,v5,v6,v7,v8,v9,v10,v11,v12,v13,v14,v15,c16⟩:=hI
    try simp[q13,q15,q17] at v0 v1 v2 v3 v4 v5 v6 v7 v8 v9 v10 v11 v12 v13 v14 v15
    replace v7:=v7 ((zq8 he) 7 (by decide))
    refine AStep.mono ?_ fun s' h=>⟨_,_,hN.skip (by simp),h⟩
    simp[n1,n2,n3,n4,w1,w15,v0,v1,v2,v3,v4,v5,v6,v7,v8,v9,v10,v11,v12,v13,v14,v15,q13,q15,q17]
    repeat' (first|exact v0|exact v1|exact v2|exact v3|exact v4|exact v5|exact v6|exact v7|exact v8|exact v9|exact v10|exact v11|exact v12|exact v13|exact v14|exact v15|exact c16|exact fun h=>absurd (c16 h) (by simp[hL])|exact(zq8 he) 7 (by decide)|refine⟨?_,?_⟩)
   ·intro L s hL he hI
    obtain⟨pos,bl,hN,n1,n2,n3,n4,w1,w15,v0,v1,v2,v3,v4,v5,v6,v7,v8,v9,v10,v11,v12,v13,v14,v15,c16⟩:=hI
    try simp[q13,q15,q17] at v0 v1 v2 v3 v4 v5 v6 v7 v8 v9 v10 v11 v12 v13 v14 v15
    replace v8:=v8 ((zq8 he) 8 (by decide))
    refine AStep.mono ?_ fun s' h=>⟨_,_,hN.skip (by simp),h⟩
    simp[n1,n2,n3,n4,w1,w15,v0,v1,v2,v3,v4,v5,v6,v7,v8,v9,v10,v11,v12,v13,v14,v15,q13,q15,q17]
    repeat' (first|exact v0|exact v1|exact v2|exact v3|exact v4|exact v5|exact v6|exact v7|exact v8|exact v9|exact v10|exact v11|exact v12|exact v13|exact v14|exact v15|exact c16|exact fun h=>absurd (c16 h) (by simp[hL])|exact(zq8 he) 8 (by decide)|refine⟨?_,?_⟩)
   ·intro L s hL he hI
    obtain⟨pos,bl,hN,n1,n2,n3,n4,w1,w15,v0,v1,v2,v3,v4,v5,v6,v7,v8,v9,v10,v11,v12,v13,v14,v15,c16⟩:=hI
    try simp[q13,q15,q17] at v0 v1 v2 v3 v4 v5 v6 v7 v8 v9 v10 v11 v12 v13 v14 v15
    replace v9:=v9 ((zq8 he) 9 (by decide))
    refine AStep.mono ?_ fun s' h=>⟨_,_,hN.skip (by simp),h⟩
    simp[n1,n2,n3,n4,w1,w15,v0,v1,v2,v3,v4,v5,v6,v7,v8,v9,v10,v11,v12,v13,v14,v15,q13,q15,q17]
    repeat' (first|exact v0|exact v1|exact v2|exact v3|exact v4|exact v5|exact v6|exact v7|exact v8|exact v9|exact v10|exact v11|exact v12|exact v13|exact v14|exact v15|exact c16|exact fun h=>absurd (c16 h) (by simp[hL])|exact(zq8 he) 9 (by decide)|refine⟨?_,?_⟩)
   ·intro L s hL he hI
    obtain⟨pos,bl,hN,n1,n2,n3,n4,w1,w15,v0,v1,v2,v3,v4,v5,v6,v7,v8,v9,v10,v11,v12,v13,v14,v15,c16⟩:=hI
    try simp[q13,q15,q17] at v0 v1 v2 v3 v4 v5 v6 v7 v8 v9 v10 v11 v12 v13 v14 v15
    replace v10:=v10 ((zq8 he) 10 (by decide))
    refine AStep.mono ?_ fun s' h=>⟨_,_,hN.skip (by simp),h⟩
    simp[n1,n2,n3,n4,w1,w15,v0,v1,v2,v3,v4,v5,v6,v7,v8,v9,v10,v11,v12,v13,v14,v15,q13,q15,q17]
    repeat' (first|exact v0|exact v1|exact v2|exact v3|exact v4|exact v5|exact v6|exact v7|exact v8|exact v9|exact v10|exact v11|exact v12|exact v13|exact v14|exact v15|exact c16|exact fun h=>absurd (c16 h) (by simp[hL])|exact(zq8 he) 10 (by decide)|refine⟨?_,?_⟩)
   ·intro L s hL he hI
    obtain⟨pos,bl,hN,n1,n2,n3,n4,w1,w15,v0,v1,v2,v3,v4,v5,v6,v7,v8,v9,v10,v11,v12,v13,v14,v15,c16⟩:=hI
    try simp[q13,q15,q17] at v0 v1 v2 v3 v4 v5 v6 v7 v8 v9 v10 v11 v12 v13 v14 v15
    replace v11:=v11 ((zq8 he) 11 (by decide))
    refine AStep.mono ?_ fun s' h=>⟨_,_,hN.skip (by simp),h⟩
    simp[n1,n2,n3,n4,w1,w15,v0,v1,v2,v3,v4,v5,v6,v7,v8,v9,v10,v11,v12,v13,v14,v15,q13,q15,q17]
    repeat' (first|exact v0|exact v1|exact v2|exact v3|exact v4|exact v5|exact v6|exact v7|exact v8|exact v9|exact v10|exact v11|exact v12|exact v13|exact v14|exact v15|exact c16|exact fun h=>absurd (c16 h) (by simp[hL])|exact(zq8 he) 11 (by decide)|refine⟨?_,?_⟩)
   ·intro L s hL he hI
    obtain⟨pos,bl,hN,n1,n2,n3,n4,w1,w15,v0,v1,v2,v3,v4,v5,v6,v7,v8,v9,v10,v11,v12,v13,v14,v15,c16⟩:=hI
    try simp[q13,q15,q17] at v0 v1 v2 v3 v4 v5 v6 v7 v8 v9 v10 v11 v12 v13 v14 v15
    replace v12:=v12 ((zq8 he) 12 (by decide))
    refine AStep.mono ?_ fun s' h=>⟨_,_,hN.skip (by simp),h⟩
    simp[n1,n2,n3,n4,w1,w15,v0,v1,v2,v3,v4,v5,v6,v7,v8,v9,v10,v11,v12,v13,v14,v15,q13,q15,q17]
    repeat' (first|exact v0|exact v1|exact v2|exact v3|exact v4|exact v5|exact v6|exact v7|exact v8|exact v9|exact v10|exact v11|exact v12|exact v13|exact v14|exact v15|exact c16|exact fun h=>absurd (c16 h) (by simp[hL])|exact(zq8 he) 12 (by decide)|refine⟨?_,?_⟩)
   ·intro L s hL he hI
    obtain⟨pos,bl,hN,n1,n2,n3,n4,w1,w15,v0,v1,v2,v3,v4,v5,v6,v7,v8,v9,v10,v11,v12,v13,v14,v15,c16⟩:=hI
    try simp[q13,q15,q17] at v0 v1 v2 v3 v4 v5 v6 v7 v8 v9 v10 v11 v12 v13 v14 v15
    have hL:L 14=false:=hL
    have h16:L 16=false:=by cases hh:L 16 with|false=>rfl|true=>have:=c16 hh;rw[hL] at this;cases this
    have hN2:=hN.push (i:=14) (blk:=[iI 0,iI 0,.str ([]:List UInt8),.nsl,.nsl,.nsl]) (by simp[h16]) (by simp) hL
    refine AStep.mono ?_ fun s' h=>⟨_,_,hN2,h⟩
    simp[n1,n2,n3,n4,w1,w15,v0,v1,v2,v3,v4,v5,v6,v7,v8,v9,v10,v11,v12,v13,v14,v15,q13,q15,q17]
    repeat' (first|exact v0|exact v1|exact v2|exact v3|exact v4|exact v5|exact v6|exact v7|exact v8|exact v9|exact v10|exact v11|exact v12|exact v13|exact v14|exact v15|exact c16|exact fun h=>absurd (c16 h) (by simp[hL])|refine⟨?_,?_⟩)
   ·intro L s hL he hI
    obtain⟨pos,bl,hN,n1,n2,n3,n4,w1,w15,v0,v1,v2,v3,v4,v5,v6,v7,v8,v9,v10,v11,v12,v13,v14,v15,c16⟩:=hI
    try simp[q13,q15,q17] at v0 v1 v2 v3 v4 v5 v6 v7 v8 v9 v10 v11 v12 v13 v14 v15
    refine AStep.mono ?_ fun s' h=>⟨_,_,hN.push (i:=15) (blk:=[iI 0,iI 0,.str ([]:List UInt8),.nsl,.nsl,.nsl]) (by simp) (by simp) hL,h⟩
    simp[n1,n2,n3,n4,w1,w15,v0,v1,v2,v3,v4,v5,v6,v7,v8,v9,v10,v11,v12,v13,v14,v15,q13,q15,q17]
    repeat' (first|exact v0|exact v1|exact v2|exact v3|exact v4|exact v5|exact v6|exact v7|exact v8|exact v9|exact v10|exact v11|exact v12|exact v13|exact v14|exact v15|exact c16|exact fun h=>absurd (c16 h) (by simp[hL])|refine⟨?_,?_⟩)
   ·intro L s hL he hI
    obtain⟨pos,bl,hN,n1,n2,n3,n4,w1,w15,v0,v1,v2,v3,v4,v5,v6,v7,v8,v9,v10,v11,v12,v13,v14,v15,c16⟩:=hI
    try simp[q13,q15,q17] at v0 v1 v2 v3 v4 v5 v6 v7 v8 v9 v10 v11 v12 v13 v14 v15
    replace v0:=v0 ((zq8 he) 0 (by decide))
    replace v1:=v1 ((zq8 he) 1 (by decide))
    replace v2:=v2 ((zq8 he) 2 (by decide))
    replace v3:=v3 ((zq8 he) 3 (by decide))
    replace v4:=v4 ((zq8 he) 4 (by decide))
    replace v5:=v5 ((zq8 he) 5 (by decide))
    replace v6:=v6 ((zq8 he) 6 (by decide))
    replace v14:=v14 ((zq8 he) 14 (by decide))
    replace v15:=v15 ((zq8 he) 15 (by decide))
    have hA:L 14=true:=(zq8 he) 14 (by decide)
    have hL:L 16=false:=hL
    have e1:=hN.at_ (14,if L 16=true then (zLm.d x14) else [iI 0,iI 0,.str ([]:List UInt8),.nsl,.nsl,.nsl]) (by simp) hA
    simp[hL] at e1
    have e2:pos 14<bl.length:=(zq1 e1).1
    refine store_all (pos 14+1) (.agg (zLm.d x14)) (zLm.d x14) rfl rfl ti31 (by simp[v14]) (by simp[n1,n2,n3,n4,w1,w15,v0,v1,v2,v3,v4,v5,v6,v7,v8,v9,v10,v11,v12,v13,v14,v15,q13,q15,q17]) (by simp[n1,n2,n3,n4,w1,w15,v0,v1,v2,v3,v4,v5,v6,v7,v8,v9,v10,v11,v12,v13,v14,v15,q13,q15,q17]) (by rfl) (by simp) (by simp) (by simp) (by simp) (by simp[n1,n2,n3,n4,w1,w15,v0,v1,v2,v3,v4,v5,v6,v7,v8,v9,v10,v11,v12,v13,v14,v15,q13,q15,q17,e1]) (by simp[n4];omega) n3<|⟨pos,bl.set (pos 14) (zLm.d x14),hN.store (N':=[(14,(if true=true then (zLm.d x14) else [iI 0,iI 0,.str ([]:List UInt8),.nsl,.nsl,.nsl])),(15,[iI 0,iI 0,.str ([]:List UInt8),.nsl,.nsl,.nsl])]) (A:=(zLm.d x14)) (i:=16) (a:=14) hA (by simp) rfl (by simp[hL]) ⟨_,zq9 ..,rfl⟩,?_⟩
    simp[n1,n2,n3,n4,w1,w15,v0,v1,v2,v3,v4,v5,v6,v7,v8,v9,v10,v11,v12,v13,v14,v15,q13,q15,q17]
    repeat' (first|exact v0|exact v1|exact v2|exact v3|exact v4|exact v5|exact v6|exact v7|exact v8|exact v9|exact v10|exact v11|exact v12|exact v13|exact v14|exact v15|exact c16|exact fun h=>absurd (c16 h) (by simp[hL])|exact(zq8 he) 0 (by decide)|exact(zq8 he) 1 (by decide)|exact(zq8 he) 2 (by decide)|exact(zq8 he) 3 (by decide)|exact(zq8 he) 4 (by decide)|exact(zq8 he) 5 (by decide)|exact(zq8 he) 6 (by decide)|exact(zq8 he) 14 (by decide)|exact(zq8 he) 15 (by decide)|refine⟨?_,?_⟩)
  ·rintro L s hall ⟨pos,bl,hN,n1,n2,n3,n4,w1,w15,v0,v1,v2,v3,v4,v5,v6,v7,v8,v9,v10,v11,v12,v13,v14,v15,c16⟩
   try simp[q13,q15,q17] at v0 v1 v2 v3 v4 v5 v6 v7 v8 v9 v10 v11 v12 v13 v14 v15
   replace v0:=v0 (hall 0 (by decide))
   replace v1:=v1 (hall 1 (by decide))
   replace v2:=v2 (hall 2 (by decide))
   replace v3:=v3 (hall 3 (by decide))
   replace v4:=v4 (hall 4 (by decide))
   replace v5:=v5 (hall 5 (by decide))
   replace v6:=v6 (hall 6 (by decide))
   replace v7:=v7 (hall 7 (by decide))
   replace v8:=v8 (hall 8 (by decide))
   replace v9:=v9 (hall 9 (by decide))
   replace v10:=v10 (hall 10 (by decide))
   replace v11:=v11 (hall 11 (by decide))
   replace v12:=v12 (hall 12 (by decide))
   replace v13:=v13 (hall 13 (by decide))
   replace v14:=v14 (hall 14 (by decide))
   replace v15:=v15 (hall 15 (by decide))
   simp only[hall 16 (by decide),if_true] at hN
   obtain⟨f,hf,hk,hg⟩:=hN.ghost (by simp) (by simp[hall 14 (by decide),hall 15 (by decide)]) n4 (by simp[n2])
   have k0:f (pos 14+1)=1:=by have:=hk 0 _ rfl;simpa[Nat.add_comm] using this
   have k1:f (pos 15+1)=2:=by have:=hk 1 _ rfl;simpa[Nat.add_comm] using this
   simp at hf
   refine⟨_,hg,?_⟩
   simp[AV.ren,AV.renL,hf,k0,k1,n1,n2,n3,n4,w1,w15,v0,v1,v2,v3,v4,v5,v6,v7,v8,v9,v10,v11,v12,v13,v14,v15,q13,q15,q17]
 obtain⟨b26,q27,h⟩:=bs h
 refine cut 43 0 [(2,.bool b26)] [(zLm.d c1),(zLm.d x14),(zLm.d x16)] ?_ ?_
 ·rcases sp q27 with ⟨g18,q27⟩|⟨g18,q27⟩
  ·rcases sp q27 with ⟨g20,q27⟩|⟨g20,q27⟩
   ·obtain⟨v22,q23,q27⟩:=bs q27
    obtain rfl:=oi q27
    refine st ?_
    simp[g18,g20]
    have r28:=zJc fuel x14 0 v22 q23
    refine cP r28 ?_
    simp[g18,g20]
   obtain rfl:=oi q27
   refine st ?_
   simp[g18,g20]
  obtain rfl:=oi q27
  refine st ?_
  simp[g18]
 refine zAC ?_
 cases h
 simp
theorem zJD(c1:zLm)(binders2:Int)(c3:Int)(c4:Int)(c5:Bool)(r:Bool)(h:zDJ c1 binders2 c3 c4 c5=some r):Raw Tryz.prog 101 [.agg (zLm.d c1),iI binders2,pT 0,pT 1,pT 2] [[iI c3],[iI c4],[.bool c5]] (.tup []) [[iI c3],[iI c4],[.bool r]]:=by
 rw[zDJ] at h
 refine zBE Tryz.func101 (by rfl) (by rfl) (by simp) (by simp)<|cutA 27 3 [(1,iI binders2),(2,pT 0),(3,pT 1),(4,pT 2),(5,pT 3)] [[iI c3],[iI c4],[.bool c5],(zLm.d c1)] ?_
 obtain⟨n6,q7,h⟩:=bs h
 obtain⟨q8,q9⟩:=zBo q7
 try simp at q8
 try simp at q9
 have c10:=q8;simp only[Rng,inR] at c10
 refine cut 27 3 [(2,pT 0),(3,pT 1),(4,pT 2),(5,pT 3),(7,iI n6)] [[iI c3],[iI c4],[.bool c5],(zLm.d c1)] (st (by simp[q8,q9])) ?_
 obtain⟨b22,q23,h⟩:=bs h
 refine cut 27 3 [(4,pT 2),(26,.bool b22)] [[iI c3],[iI c4],[.bool c5],(zLm.d c1)] ?_ ?_
 ·rcases sp q23 with ⟨g11,q23⟩|⟨g11,q23⟩
  ·have c12:=eqT g11
   rcases sp q23 with ⟨g13,q23⟩|⟨g13,q23⟩
   ·have c14:=leT g13
    obtain⟨n15,q16,q23⟩:=bs q23
    obtain⟨q17,q18⟩:=zBo q16
    try simp at q17
    try simp at q18
    have c19:=q17;simp only[Rng,inR] at c19
    obtain rfl:=oi q23
    refine st ?_
    simp[g11,g13,q17,q18]
   have c20:=leF g13
   obtain rfl:=oi q23
   refine st ?_
   simp[g11,g13]
  have c21:=eqF g11
  obtain rfl:=oi q23
  refine st ?_
  simp[g11]
 refine spc h rfl (fun g24 h=>?_) fun g24 h=>?_
 ·cases h
  refine st ?_
  simp
 refine zAB ?_
 cases h
 simp
theorem zHQ(fuel:Nat):(∀(c1:zLm)(binders2:Int)(c3:Int)(c4:Int)(c5:Bool)(r:Bool)(_:zAM fuel c1 binders2 c3 c4 c5=some r),Raw Tryz.prog 100 [.agg (zLm.d c1),iI binders2,.fn (.func 101) [] [pT 0,pT 1,pT 2]] [[iI c3],[iI c4],[.bool c5]] (.tup []) [[iI c3],[iI c4],[.bool r]]):=by
 induction fuel with
 |zero=>intro c1 binders2 c3 c4 c5 r h;rw[zAM] at h;cases h
 |succ fuel zDU=>
  intro c1 binders2 c3 c4 c5 r h
  rw[zAM] at h
  refine zBE Tryz.func100 (by rfl) (by rfl) (by simp) (by simp)<|cutA 36 3 [(1,iI binders2),(2,.fn (.func 101) [] [pT 0,pT 1,pT 2]),(3,pT 3)] [[iI c3],[iI c4],[.bool c5],(zLm.d c1)]<|zAA<|cut 36 3 [(1,iI binders2),(2,.fn (.func 101) [] [pT 0,pT 1,pT 2]),(3,pT 3),(15,.bool ((eqI c1.Op 1)||(eqI c1.Op 2)))] [[iI c3],[iI c4],[.bool c5],(zLm.d c1)] ?_ ?_
  ·rcases tf (eqI c1.Op 1) with g6|g6
   ·refine st ?_
    simp[g6]
   refine st ?_
   simp[g6]
  rcases sp h with ⟨g9,h⟩|⟨g9,h⟩
  ·refine zEj rfl g9 ?_
   obtain⟨v10,q11,h⟩:=bs h
   refine last 36 3 [(1,iI binders2),(2,.fn (.func 101) [] [pT 0,pT 1,pT 2]),(3,pT 3)] [[iI c3],[iI c4],[.bool v10],(zLm.d c1)] ?_ fun zz hs=>?_
   ·refine st ?_
    simp
    have r57:=(zJD c1 binders2 c3 c4 c5 v10 q11).frame [0,1,2] [[iI c3],[iI c4],[.bool c5],(zLm.d c1)] (by simp)
    refine zDX r57 (by simp) rfl ?_
    simp
   refine zAj ?_ hs
   refine zAA ?_
   obtain⟨v12,q13,h⟩:=bs h
   refine cut 36 3 [(1,iI binders2),(2,.fn (.func 101) [] [pT 0,pT 1,pT 2]),(3,pT 3),(21,.bool v12)] [[iI c3],[iI c4],[.bool v10],(zLm.d c1)] ?_ ?_
   ·refine st ?_
    simp
    have r56:=zBS c1 v12 q13
    refine cP r56 ?_
    simp
   refine spc h rfl (fun g14 h=>?_) fun g14 h=>?_
   ·obtain⟨n15,q16,h⟩:=bs h
    obtain⟨q17,q18⟩:=zBo q16
    have c19:=q17;simp only[Rng,inR] at c19
    refine last 36 3 [(1,iI n15),(2,.fn (.func 101) [] [pT 0,pT 1,pT 2]),(3,pT 3)] [[iI c3],[iI c4],[.bool v10],(zLm.d c1)] (st (by simp[q17,q18])) fun zz hs=>?_
    refine zAj ?_ hs
    refine cutA 36 3 [(1,iI n15),(2,.fn (.func 101) [] [pT 0,pT 1,pT 2]),(25,.sl (c1.L.map zLm.c)),(26,iI c1.L.length),(27,iI 0)] [[iI c3],[iI c4],[.bool v10],(zLm.d c1)]<|zAF ?_
    obtain⟨o22,l23,h⟩:=bs h
    refine zAq (fun p:Nat×Bool×Nat=>mkS 36 3 [(1,iI n15),(2,.fn (.func 101) [] [pT 0,pT 1,pT 2]),(25,.sl (c1.L.map zLm.c)),(26,iI c1.L.length),(27,iI p.2.2)] [[iI c3],[iI c4],[.bool p.2.1],(zLm.d c1)]) (fun p=>zAw (zAM fuel) c1 c3 c4 n15 p.1 p.2.1 p.2.2=some o22) (fun p=>p.1) (fuel,v10,0) l23 (zAc (by simp)) ?_
    rintro⟨k24,a20,i21⟩ l23
    try dsimp only at l23 ⊢
    cases k24 with
    |zero=>
     rw[zAw] at l23;cases l23
    |succ k25=>
     rw[zAw] at l23
     refine cutA 36 3 [(1,iI n15),(2,.fn (.func 101) [] [pT 0,pT 1,pT 2]),(25,.sl (c1.L.map zLm.c)),(26,iI c1.L.length),(27,iI i21),(28,.bool (ltI i21 c1.L.length))] [[iI c3],[iI c4],[.bool a20],(zLm.d c1)]<|zAA<|spc l23 rfl (fun g26 l23=>?_) fun g26 l23=>?_
     ·have c27:=ltT g26
      refine zC5 25 rfl fun f28=>?_
      rw[zq4] at f28
      refine zAB<|zAJ<|zAA<|zAF ?_
      obtain⟨x29,q30,l23⟩:=bs l23
      refine cut 36 3 [(1,iI n15),(2,.fn (.func 101) [] [pT 0,pT 1,pT 2]),(7,pT 4),(25,.sl (c1.L.map zLm.c)),(26,iI c1.L.length),(27,iI i21)] [[iI c3],[iI c4],[.bool a20],(zLm.d c1),(zLm.d x29)] (st (by simp[q30])) ?_
      obtain⟨v31,q32,l23⟩:=bs l23
      refine last 36 3 [(1,iI n15),(2,.fn (.func 101) [] [pT 0,pT 1,pT 2]),(25,.sl (c1.L.map zLm.c)),(26,iI c1.L.length),(27,iI i21)] [[iI c3],[iI c4],[.bool v31],(zLm.d c1),(zLm.d x29)] ?_ fun zz hs=>?_
      ·refine st ?_
       simp
       have r34:=(zDU x29 n15 c3 c4 a20 v31 q32).frame [0,1,2] [[iI c3],[iI c4],[.bool a20],(zLm.d c1),(zLm.d x29)] (by simp)
       refine zDX r34 (by simp) rfl ?_
       simp
      refine zDC<|zAj ?_ hs
      have q33:Rng .i64 (((i21:Nat):Int)+1):=by simp only[Rng,inR];omega
      refine last 36 3 [(1,iI n15),(2,.fn (.func 101) [] [pT 0,pT 1,pT 2]),(25,.sl (c1.L.map zLm.c)),(26,iI c1.L.length),(27,iI ((i21+1:Nat):Int))] [[iI c3],[iI c4],[.bool v31],(zLm.d c1)] (st (by simp[q33])) fun zz hs=>?_
      exact⟨(k25,v31,i21+1),hs,l23,by simp⟩
     refine zC5 25 rfl fun f36=>?_
     rw[zq4] at f36
     refine zAW<|zAH ?_
     have q37:=zqa l23
     have q37:=q37.symm
     refine zAH<|zAX ?_
     cases h
     simp[q37]
   refine zAB<|zAJ<|cutA 36 3 [(1,iI binders2),(2,.fn (.func 101) [] [pT 0,pT 1,pT 2]),(25,.sl (c1.L.map zLm.c)),(26,iI c1.L.length),(27,iI 0)] [[iI c3],[iI c4],[.bool v10],(zLm.d c1)]<|zAF ?_
   obtain⟨o40,l41,h⟩:=bs h
   refine zAq (fun p:Nat×Bool×Nat=>mkS 36 3 [(1,iI binders2),(2,.fn (.func 101) [] [pT 0,pT 1,pT 2]),(25,.sl (c1.L.map zLm.c)),(26,iI c1.L.length),(27,iI p.2.2)] [[iI c3],[iI c4],[.bool p.2.1],(zLm.d c1)]) (fun p=>zAv (zAM fuel) c1 binders2 c3 c4 p.1 p.2.1 p.2.2=some o40) (fun p=>p.1) (fuel,v10,0) l41 (zAc (by simp)) ?_
   rintro⟨k42,a38,i39⟩ l41
   try dsimp only at l41 ⊢
   cases k42 with
   |zero=>
    rw[zAv] at l41;cases l41
   |succ k43=>
    rw[zAv] at l41
    refine cutA 36 3 [(1,iI binders2),(2,.fn (.func 101) [] [pT 0,pT 1,pT 2]),(25,.sl (c1.L.map zLm.c)),(26,iI c1.L.length),(27,iI i39),(28,.bool (ltI i39 c1.L.length))] [[iI c3],[iI c4],[.bool a38],(zLm.d c1)]<|zAA<|spc l41 rfl (fun g44 l41=>?_) fun g44 l41=>?_
    ·have c45:=ltT g44
     refine zC5 25 rfl fun f46=>?_
     rw[zq4] at f46
     refine zAB<|zAJ<|zAA<|zAF ?_
     obtain⟨x47,q48,l41⟩:=bs l41
     refine cut 36 3 [(1,iI binders2),(2,.fn (.func 101) [] [pT 0,pT 1,pT 2]),(7,pT 4),(25,.sl (c1.L.map zLm.c)),(26,iI c1.L.length),(27,iI i39)] [[iI c3],[iI c4],[.bool a38],(zLm.d c1),(zLm.d x47)] (st (by simp[q48])) ?_
     obtain⟨v49,q50,l41⟩:=bs l41
     refine last 36 3 [(1,iI binders2),(2,.fn (.func 101) [] [pT 0,pT 1,pT 2]),(25,.sl (c1.L.map zLm.c)),(26,iI c1.L.length),(27,iI i39)] [[iI c3],[iI c4],[.bool v49],(zLm.d c1),(zLm.d x47)] ?_ fun zz hs=>?_
     ·refine st ?_
      simp
      have r52:=(zDU x47 binders2 c3 c4 a38 v49 q50).frame [0,1,2] [[iI c3],[iI c4],[.bool a38],(zLm.d c1),(zLm.d x47)] (by simp)
      try simp at r52
      refine zDX r52 (by simp) rfl ?_
      simp
     refine zDC<|zAj ?_ hs
     have q51:Rng .i64 (((i39:Nat):Int)+1):=by simp only[Rng,inR];omega
     try simp at q51
     refine last 36 3 [(1,iI binders2),(2,.fn (.func 101) [] [pT 0,pT 1,pT 2]),(25,.sl (c1.L.map zLm.c)),(26,iI c1.L.length),(27,iI ((i39+1:Nat):Int))] [[iI c3],[iI c4],[.bool v49],(zLm.d c1)] (st (by simp[q51])) fun zz hs=>?_
     exact⟨(k43,v49,i39+1),hs,l41,by simp⟩
    have c53:=ltF g44
    refine zC5 25 rfl fun f54=>?_
    rw[zq4] at f54
    refine zAW<|zAH ?_
    have q55:=zqa l41
    have q55:=q55.symm
    refine zAH<|zAX ?_
    cases h
    simp[q55]
  obtain⟨g58,g59⟩:=orF g9
  have c60:=eqF g58
  have c61:=eqF g59
  refine zEt rfl g9<|zAB<|zAJ<|zAA ?_
  obtain⟨v62,q63,h⟩:=bs h
  refine cut 36 3 [(1,iI binders2),(2,.fn (.func 101) [] [pT 0,pT 1,pT 2]),(3,pT 3),(21,.bool v62)] [[iI c3],[iI c4],[.bool c5],(zLm.d c1)] ?_ ?_
  ·refine st ?_
   simp
   have r106:=zBS c1 v62 q63
   try simp at r106
   refine cP r106 ?_
   simp
  refine spc h rfl (fun g64 h=>?_) fun g64 h=>?_
  ·obtain⟨n65,q66,h⟩:=bs h
   obtain⟨q67,q68⟩:=zBo q66
   try simp at q67
   try simp at q68
   have c69:=q67;simp only[Rng,inR] at c69
   refine last 36 3 [(1,iI n65),(2,.fn (.func 101) [] [pT 0,pT 1,pT 2]),(3,pT 3)] [[iI c3],[iI c4],[.bool c5],(zLm.d c1)] (st (by simp[q67,q68])) fun zz hs=>?_
   refine zAj ?_ hs
   refine cutA 36 3 [(1,iI n65),(2,.fn (.func 101) [] [pT 0,pT 1,pT 2]),(25,.sl (c1.L.map zLm.c)),(26,iI c1.L.length),(27,iI 0)] [[iI c3],[iI c4],[.bool c5],(zLm.d c1)]<|zAF ?_
   obtain⟨o72,l73,h⟩:=bs h
   refine zAq (fun p:Nat×Bool×Nat=>mkS 36 3 [(1,iI n65),(2,.fn (.func 101) [] [pT 0,pT 1,pT 2]),(25,.sl (c1.L.map zLm.c)),(26,iI c1.L.length),(27,iI p.2.2)] [[iI c3],[iI c4],[.bool p.2.1],(zLm.d c1)]) (fun p=>zAu (zAM fuel) c1 c3 c4 n65 p.1 p.2.1 p.2.2=some o72) (fun p=>p.1) (fuel,c5,0) l73 (zAc (by simp)) ?_
   rintro⟨k74,a70,i71⟩ l73
   try dsimp only at l73 ⊢
   cases k74 with
   |zero=>
    rw[zAu] at l73;cases l73
   |succ k75=>
    rw[zAu] at l73
    refine cutA 36 3 [(1,iI n65),(2,.fn (.func 101) [] [pT 0,pT 1,pT 2]),(25,.sl (c1.L.map zLm.c)),(26,iI c1.L.length),(27,iI i71),(28,.bool (ltI i71 c1.L.length))] [[iI c3],[iI c4],[.bool a70],(zLm.d c1)]<|zAA<|spc l73 rfl (fun g76 l73=>?_) fun g76 l73=>?_
    ·have c77:=ltT g76
     refine zC5 25 rfl fun f78=>?_
     rw[zq4] at f78
     refine zAB<|zAJ<|zAA<|zAF ?_
     obtain⟨x79,q80,l73⟩:=bs l73
     refine cut 36 3 [(1,iI n65),(2,.fn (.func 101) [] [pT 0,pT 1,pT 2]),(7,pT 4),(25,.sl (c1.L.map zLm.c)),(26,iI c1.L.length),(27,iI i71)] [[iI c3],[iI c4],[.bool a70],(zLm.d c1),(zLm.d x79)] (st (by simp[q80])) ?_
     obtain⟨v81,q82,l73⟩:=bs l73
     refine last 36 3 [(1,iI n65),(2,.fn (.func 101) [] [pT 0,pT 1,pT 2]),(25,.sl (c1.L.map zLm.c)),(26,iI c1.L.length),(27,iI i71)] [[iI c3],[iI c4],[.bool v81],(zLm.d c1),(zLm.d x79)] ?_ fun zz hs=>?_
     ·refine st ?_
      simp
      have r84:=(zDU x79 n65 c3 c4 a70 v81 q82).frame [0,1,2] [[iI c3],[iI c4],[.bool a70],(zLm.d c1),(zLm.d x79)] (by simp)
      try simp at r84
      refine zDX r84 (by simp) rfl ?_
      simp
     refine zDC<|zAj ?_ hs
     have q83:Rng .i64 (((i71:Nat):Int)+1):=by simp only[Rng,inR];omega
     try simp at q83
     refine last 36 3 [(1,iI n65),(2,.fn (.func 101) [] [pT 0,pT 1,pT 2]),(25,.sl (c1.L.map zLm.c)),(26,iI c1.L.length),(27,iI ((i71+1:Nat):Int))] [[iI c3],[iI c4],[.bool v81],(zLm.d c1)] (st (by simp[q83])) fun zz hs=>?_
     exact⟨(k75,v81,i71+1),hs,l73,by simp⟩
    have c85:=ltF g76
    refine zC5 25 rfl fun f86=>?_
    rw[zq4] at f86
    refine zAW<|zAH ?_
    have q87:=zqa l73
    have q87:=q87.symm
    refine zAH<|zAX ?_
    cases h
    simp[q87]
  refine zAB<|zAJ<|cutA 36 3 [(1,iI binders2),(2,.fn (.func 101) [] [pT 0,pT 1,pT 2]),(25,.sl (c1.L.map zLm.c)),(26,iI c1.L.length),(27,iI 0)] [[iI c3],[iI c4],[.bool c5],(zLm.d c1)]<|zAF ?_
  obtain⟨o90,l91,h⟩:=bs h
  refine zAq (fun p:Nat×Bool×Nat=>mkS 36 3 [(1,iI binders2),(2,.fn (.func 101) [] [pT 0,pT 1,pT 2]),(25,.sl (c1.L.map zLm.c)),(26,iI c1.L.length),(27,iI p.2.2)] [[iI c3],[iI c4],[.bool p.2.1],(zLm.d c1)]) (fun p=>zAt (zAM fuel) c1 binders2 c3 c4 p.1 p.2.1 p.2.2=some o90) (fun p=>p.1) (fuel,c5,0) l91 (zAc (by simp)) ?_
  rintro⟨k92,a88,i89⟩ l91
  try dsimp only at l91 ⊢
  cases k92 with
  |zero=>
   rw[zAt] at l91;cases l91
  |succ k93=>
   rw[zAt] at l91
   refine cutA 36 3 [(1,iI binders2),(2,.fn (.func 101) [] [pT 0,pT 1,pT 2]),(25,.sl (c1.L.map zLm.c)),(26,iI c1.L.length),(27,iI i89),(28,.bool (ltI i89 c1.L.length))] [[iI c3],[iI c4],[.bool a88],(zLm.d c1)]<|zAA<|spc l91 rfl (fun g94 l91=>?_) fun g94 l91=>?_
   ·have c95:=ltT g94
    refine zC5 25 rfl fun f96=>?_
    rw[zq4] at f96
    refine zAB<|zAJ<|zAA<|zAF ?_
    obtain⟨x97,q98,l91⟩:=bs l91
    refine cut 36 3 [(1,iI binders2),(2,.fn (.func 101) [] [pT 0,pT 1,pT 2]),(7,pT 4),(25,.sl (c1.L.map zLm.c)),(26,iI c1.L.length),(27,iI i89)] [[iI c3],[iI c4],[.bool a88],(zLm.d c1),(zLm.d x97)] (st (by simp[q98])) ?_
    obtain⟨v99,q100,l91⟩:=bs l91
    refine last 36 3 [(1,iI binders2),(2,.fn (.func 101) [] [pT 0,pT 1,pT 2]),(25,.sl (c1.L.map zLm.c)),(26,iI c1.L.length),(27,iI i89)] [[iI c3],[iI c4],[.bool v99],(zLm.d c1),(zLm.d x97)] ?_ fun zz hs=>?_
    ·refine st ?_
     simp
     have r102:=(zDU x97 binders2 c3 c4 a88 v99 q100).frame [0,1,2] [[iI c3],[iI c4],[.bool a88],(zLm.d c1),(zLm.d x97)] (by simp)
     try simp at r102
     refine zDX r102 (by simp) rfl ?_
     simp
    refine zDC<|zAj ?_ hs
    have q101:Rng .i64 (((i89:Nat):Int)+1):=by simp only[Rng,inR];omega
    try simp at q101
    refine last 36 3 [(1,iI binders2),(2,.fn (.func 101) [] [pT 0,pT 1,pT 2]),(25,.sl (c1.L.map zLm.c)),(26,iI c1.L.length),(27,iI ((i89+1:Nat):Int))] [[iI c3],[iI c4],[.bool v99],(zLm.d c1)] (st (by simp[q101])) fun zz hs=>?_
    exact⟨(k93,v99,i89+1),hs,l91,by simp⟩
   have c103:=ltF g94
   refine zC5 25 rfl fun f104=>?_
   rw[zq4] at f104
   refine zAW<|zAH ?_
   have q105:=zqa l91
   have q105:=q105.symm
   refine zAH<|zAX ?_
   cases h
   simp[q105]
theorem zFs(fuel:Nat)(c1:zLm)(leaf2:Int)(leaf3:Int)(r:zLm×Int)(h:zBd fuel c1 leaf2 leaf3=some r):Pure Tryz.prog 102 [.agg (zLm.d c1),.fn (.func 149) [] [.cptr [iI leaf2],.cptr [iI leaf3]]] (.tup [.agg (zLm.d r.1),iI r.2]):=by
 rw[zBd] at h
 refine zAD Tryz.func102 (by rfl) (by rfl) (by simp) (by simp) (by simp)<|cutA 26 0 [(1,.fn (.func 149) [] [.cptr [iI leaf2],.cptr [iI leaf3]]),(2,pT 0),(4,pT 1)] [(zLm.d c1),zz0]<|cutA 26 0 [(2,pT 0),(4,pT 1),(6,pT 2)] [(zLm.d c1),zz0,[.fn (.func 149) [] [.cptr [iI leaf2],.cptr [iI leaf3]],iI 20000]] ?_
 obtain⟨v4,q5,h⟩:=bs h
 refine cut 26 0 [(4,pT 1),(6,pT 2),(7,pT 3)] [(zLm.d c1),zz0,[.fn (.func 149) [] [.cptr [iI leaf2],.cptr [iI leaf3]],iI v4.2],(zLm.d v4.1)] ?_ ?_
 ·refine st ?_
  simp
  have r15:=(zEY fuel c1 0 leaf2 leaf3 20000 v4 q5).frame [2] [(zLm.d c1),zz0,[.fn (.func 149) [] [.cptr [iI leaf2],.cptr [iI leaf3]],iI 20000]] (by simp)
  try simp at r15
  refine zDX r15 (by simp) rfl ?_
  simp
 refine zAA ?_
 obtain⟨b11,q12,h⟩:=bs h
 refine cut 26 0 [(4,pT 1),(7,pT 3),(23,.bool b11)] [(zLm.d c1),zz0,[.fn (.func 149) [] [.cptr [iI leaf2],.cptr [iI leaf3]],iI v4.2],(zLm.d v4.1)] ?_ ?_
 ·rcases sp q12 with ⟨g6,q12⟩|⟨g6,q12⟩
  ·have c7:=ltT g6
   obtain rfl:=oi q12
   refine st ?_
   simp[g6]
  have c8:=ltF g6
  obtain⟨v9,q10,q12⟩:=bs q12
  obtain rfl:=oi q12
  refine st ?_
  simp[g6]
  have r14:=zCI fuel v4.1 v9 q10
  try simp[g6] at r14
  refine cP r14 ?_
  simp[g6]
 refine spc h rfl (fun g13 h=>?_) fun g13 h=>?_
 ·refine cutA 26 0 [(4,pT 1),(5,iI 6)] [(zLm.d c1),zz0,[.fn (.func 149) [] [.cptr [iI leaf2],.cptr [iI leaf3]],iI v4.2],(zLm.d v4.1)]<|zAC<|zAE ?_
  cases h
  simp
 refine zAB<|zAJ<|cutA 26 0 [(4,pT 1),(5,iI 0)] [(zLm.d c1),(zLm.d v4.1),[.fn (.func 149) [] [.cptr [iI leaf2],.cptr [iI leaf3]],iI v4.2],(zLm.d v4.1)]<|zAC ?_
 cases h
 simp
theorem zHw(fuel:Nat)(c1:zLm)(by2:Int)(from3:Int)(r:zLm×Int)(h:zDD fuel c1 by2 from3=some r):Pure Tryz.prog 60 [.agg (zLm.d c1),iI by2,iI from3] (.tup [.agg (zLm.d r.1),iI r.2]):=by
 rw[zDD] at h
 refine zAD Tryz.func60 (by rfl) (by rfl) (by simp) (by simp) (by simp)<|cutA 36 0 [(3,pT 0),(4,pT 1),(5,pT 2),(6,pT 3)] [(zLm.d c1),[iI by2],[iI from3],zz0]<|zAA ?_
 obtain⟨v4,q5,h⟩:=bs h
 refine cut 36 0 [(3,pT 0),(4,pT 1),(5,pT 2),(6,pT 3),(11,.bool (!v4))] [(zLm.d c1),[iI by2],[iI from3],zz0] ?_ ?_
 ·refine st ?_
  simp
  have r33:=zCI fuel c1 v4 q5
  refine cP r33 ?_
  simp
 refine spc h rfl (fun g6 h=>?_) fun g6 h=>?_
 ·refine cutA 36 0 [(6,pT 3),(7,iI 1)] [(zLm.d c1),[iI by2],[iI from3],zz0]<|zAC<|zAE ?_
  cases h
  simp
 refine zAB<|zAJ<|zAA<|cut 36 0 [(3,pT 0),(4,pT 1),(5,pT 2),(6,pT 3),(22,.bool ((ltI from3 0)||((ltI by2 (-20000))||(ltI 20000 by2))))] [(zLm.d c1),[iI by2],[iI from3],zz0] ?_ ?_
 ·rcases tf (ltI from3 0) with g9|g9
  ·refine st ?_
   simp[g9]
  rcases tf (ltI by2 (-20000)) with g12|g12
  ·refine st ?_
   simp[g9,g12]
  refine st ?_
  simp[g9,g12]
 rcases sp h with ⟨g15,h⟩|⟨g15,h⟩
 ·refine zEj rfl g15<|cutA 36 0 [(6,pT 3),(7,iI 2)] [(zLm.d c1),[iI by2],[iI from3],zz0]<|zAC<|zAE ?_
  cases h
  simp
 obtain⟨g16,g17⟩:=orF g15
 obtain⟨g19,g20⟩:=orF g17
 refine zEt rfl g15<|zAB<|zAJ<|cutA 36 0 [(3,pT 0),(4,pT 1),(5,pT 2),(6,pT 3),(8,pT 4)] [(zLm.d c1),[iI by2],[iI from3],zz0,[.bool false]] ?_
 obtain⟨v23,q24,h⟩:=bs h
 refine cut 36 0 [(3,pT 0),(4,pT 1),(5,pT 2),(6,pT 3),(8,pT 4)] [(zLm.d c1),[iI by2],[iI from3],zz0,[.bool v23]] ?_ ?_
 ·refine st ?_
  simp
  have r32:=(zHQ fuel c1 0 from3 by2 false v23 q24).frame [2,1,4] [(zLm.d c1),[iI by2],[iI from3],zz0,[.bool false]] (by simp)
  refine zDX r32 (by simp) rfl ?_
  simp
 refine zAA<|cutA 36 0 [(3,pT 0),(4,pT 1),(5,pT 2),(6,pT 3),(27,.bool v23)] [(zLm.d c1),[iI by2],[iI from3],zz0,[.bool v23]]<|spc h rfl (fun g25 h=>?_) fun g25 h=>?_
 ·refine cutA 36 0 [(6,pT 3),(7,iI 2)] [(zLm.d c1),[iI by2],[iI from3],zz0,[.bool v23]]<|zAC<|zAE ?_
  cases h
  simp
 refine zAB<|zAJ ?_
 obtain⟨v26,q27,h⟩:=bs h
 obtain⟨v28,q29,h⟩:=bs h
 refine cut 36 0 [(6,pT 3),(7,iI v28.2)] [(zLm.d c1),[iI by2],[iI from3],(zLm.d v28.1),[.bool v23]] ?_ ?_
 ·refine zAL [] mixed (n:=36) rfl (by decide) ?_
  simp
  have r30:=zGq by2 from3 v26 q27
  refine zF9 r30 (by simp) rfl ?_
  simp
  have r31:=zFs fuel c1 v26.1 v26.2 v28 q29
  refine zF9 r31 (by simp) rfl ?_
  simp
 refine zAC ?_
 cases h
 simp
theorem zFt(fuel:Nat):(∀(c1:zLm)(w2:zLi)(r:zLm×zLi)(_:zAK fuel c1 w2=some r),Raw Tryz.prog 97 [pT 0,.agg (zLm.d c1)] [[iI w2.steps,.bool w2.over]] (.agg (zLm.d r.1)) [[iI r.2.steps,.bool r.2.over]]):=by
 induction fuel with
 |zero=>intro c1 w2 r h;rw[zAK] at h;cases h
 |succ fuel zEF=>
  intro c1 w2 r h
  rw[zAK] at h
  refine zBE Tryz.func97 (by rfl) (by rfl) (by simp) (by simp)<|cutA 87 1 [(0,pT 0),(3,pT 1),(4,pT 2)] [[iI w2.steps,.bool w2.over],(zLm.d c1),zz0]<|zAA<|cutA 87 1 [(0,pT 0),(3,pT 1),(4,pT 2),(13,.bool w2.over)] [[iI w2.steps,.bool w2.over],(zLm.d c1),zz0]<|spc h rfl (fun g3 h=>?_) fun g3 h=>?_
  ·refine cutA 87 1 [(4,pT 2)] [[iI w2.steps,.bool w2.over],(zLm.d c1),zz0]<|zAC<|zAE ?_
   cases h
   simp
  refine zAB<|zAJ<|cutA 87 1 [(0,pT 0),(3,pT 1),(4,pT 2),(5,pT 3)] [[iI w2.steps,.bool w2.over],(zLm.d c1),zz0,(zLm.d c1)]<|cutA 87 1 [(0,pT 0),(3,pT 1),(4,pT 2),(5,pT 3)] [[iI w2.steps,.bool w2.over],(zLm.d c1),zz0,[iI c1.Op,iI c1.N,.str c1.S,.sl (c1.Kind.L.map zLl.c),.sl (c1.Names.map cS),.osl ⟨6,31⟩ (([]:List zLm).map zLm.c)]]<|zAA<|cutA 87 1 [(0,pT 0),(4,pT 2),(5,pT 3),(18,.sl (c1.L.map zLm.c)),(19,iI c1.L.length),(20,iI 0)] [[iI w2.steps,.bool w2.over],(zLm.d c1),zz0,[iI c1.Op,iI c1.N,.str c1.S,.sl (c1.Kind.L.map zLl.c),.sl (c1.Names.map cS),.osl ⟨6,31⟩ (([]:List zLm).map zLm.c)]]<|zAF ?_
  obtain⟨o8,l9,h⟩:=bs h
  refine zAq (fun p:Nat×Int×Bool×(List zLm)×Nat=>mkS 87 1 [(0,pT 0),(4,pT 2),(5,pT 3),(18,.sl (c1.L.map zLm.c)),(19,iI c1.L.length),(20,iI p.2.2.2.2)] [[iI p.2.1,.bool p.2.2.1],(zLm.d c1),zz0,[iI c1.Op,iI c1.N,.str c1.S,.sl (c1.Kind.L.map zLl.c),.sl (c1.Names.map cS),.osl ⟨6,31⟩ (p.2.2.2.1.map zLm.c)]]) (fun p=>zAQ (zAK fuel) c1 p.1 p.2.1 p.2.2.1 p.2.2.2.1 p.2.2.2.2=some o8) (fun p=>p.1) (fuel,w2.steps,w2.over,([]:List zLm),0) l9 (zAc (by simp)) ?_
  rintro⟨k10,steps4,over5,L6,i7⟩ l9
  try dsimp only at l9 ⊢
  cases k10 with
  |zero=>
   rw[zAQ] at l9;cases l9
  |succ k11=>
   rw[zAQ] at l9
   refine cutA 87 1 [(0,pT 0),(4,pT 2),(5,pT 3),(18,.sl (c1.L.map zLm.c)),(19,iI c1.L.length),(20,iI i7),(21,.bool (ltI i7 c1.L.length))] [[iI steps4,.bool over5],(zLm.d c1),zz0,[iI c1.Op,iI c1.N,.str c1.S,.sl (c1.Kind.L.map zLl.c),.sl (c1.Names.map cS),.osl ⟨6,31⟩ (L6.map zLm.c)]]<|zAA<|spc l9 rfl (fun g12 l9=>?_) fun g12 l9=>?_
   ·have c13:=ltT g12
    refine zC5 18 rfl fun f14=>?_
    rw[zq4] at f14
    refine zAB<|zAJ<|zAA<|zAF ?_
    obtain⟨x15,q16,l9⟩:=bs l9
    refine cut 87 1 [(0,pT 0),(4,pT 2),(5,pT 3),(7,pT 4),(18,.sl (c1.L.map zLm.c)),(19,iI c1.L.length),(20,iI i7)] [[iI steps4,.bool over5],(zLm.d c1),zz0,[iI c1.Op,iI c1.N,.str c1.S,.sl (c1.Kind.L.map zLl.c),.sl (c1.Names.map cS),.osl ⟨6,31⟩ (L6.map zLm.c)],(zLm.d x15)] (st (by simp[q16])) ?_
    obtain⟨v17,q18,l9⟩:=bs l9
    obtain⟨l19,q20,l9⟩:=bs l9
    obtain⟨q21,q22⟩:=zFL q20
    try simp at q21
    refine last 87 1 [(0,pT 0),(4,pT 2),(5,pT 3),(18,.sl (c1.L.map zLm.c)),(19,iI c1.L.length),(20,iI i7)] [[iI v17.2.steps,.bool v17.2.over],(zLm.d c1),zz0,[iI c1.Op,iI c1.N,.str c1.S,.sl (c1.Kind.L.map zLl.c),.sl (c1.Names.map cS),.osl ⟨6,31⟩ (l19.map zLm.c)],(zLm.d x15)] ?_ fun zz hs=>?_
    ·refine zAl [0,996] [6,8] mixed (n:=87) rfl (by decide) (by decide) ?_
     simp[q21,q22]
     have r24:=(zEF x15 (zLi.mk steps4 over5) v17 q18).frameZ [0] [[iI steps4,.bool over5],(zLm.d c1),zz0,[iI c1.Op,iI c1.N,.str c1.S,.sl (c1.Kind.L.map zLl.c),.sl (c1.Names.map cS),.osl ⟨6,31⟩ (L6.map zLm.c)],(zLm.d x15)] (by simp) rfl (by simp) (by simp)
     refine zLa r24 (by simp[q21,q22]) rfl (by decide) ?_
     simp[q21,q22]
    refine zDC<|zAj ?_ hs
    have q23:Rng .i64 (((i7:Nat):Int)+1):=by simp only[Rng,inR];omega
    refine last 87 1 [(0,pT 0),(4,pT 2),(5,pT 3),(18,.sl (c1.L.map zLm.c)),(19,iI c1.L.length),(20,iI ((i7+1:Nat):Int))] [[iI v17.2.steps,.bool v17.2.over],(zLm.d c1),zz0,[iI c1.Op,iI c1.N,.str c1.S,.sl (c1.Kind.L.map zLl.c),.sl (c1.Names.map cS),.osl ⟨6,31⟩ (l19.map zLm.c)]] (st (by simp[q23])) fun zz hs=>?_
    exact⟨(k11,v17.2.steps,v17.2.over,l19,i7+1),hs,l9,by simp⟩
   have c25:=ltF g12
   refine zC5 18 rfl fun f26=>?_
   rw[zq4] at f26
   refine zAW<|zAH ?_
   have q27:=zqa l9
   have q28:o8.1=steps4:=by rw[<-q27]
   have q29:o8.2.1=over5:=by rw[<-q27]
   have q30:o8.2.2=L6:=by rw[<-q27]
   refine zAH<|zAX<|zAj (t:=mkS 87 1 [(0,pT 0),(4,pT 2),(5,pT 3)] [[iI o8.1,.bool o8.2.1],(zLm.d c1),zz0,[iI c1.Op,iI c1.N,.str c1.S,.sl (c1.Kind.L.map zLl.c),.sl (c1.Names.map cS),.osl ⟨6,31⟩ (o8.2.2.map zLm.c)]]) ?_ (zAc (by simp[q28,q29,q30]))
   refine zAA ?_
   obtain⟨v31,q32,h⟩:=bs h
   refine cut 87 1 [(0,pT 0),(4,pT 2),(5,pT 3)] [[iI v31.2.steps,.bool v31.2.over],(zLm.d c1),zz0,(zLm.d v31.1)] ?_ ?_
   ·refine st ?_
    simp
    have r68:=(zFI fuel (zLm.mk c1.Op c1.N c1.S c1.Kind c1.Names o8.2.2) (zLi.mk o8.1 o8.2.1) v31 q32).frame [0] [[iI o8.1,.bool o8.2.1],(zLm.d c1),zz0,[iI c1.Op,iI c1.N,.str c1.S,.sl (c1.Kind.L.map zLl.c),.sl (c1.Names.map cS),.osl ⟨6,31⟩ (o8.2.2.map zLm.c)]] (by simp)
    try simp at r68
    refine zDX r68 (by simp) rfl ?_
    simp
   refine cutA 87 1 [(0,pT 0),(4,pT 2),(5,pT 3),(39,.bool v31.2.over)] [[iI v31.2.steps,.bool v31.2.over],(zLm.d c1),zz0,(zLm.d v31.1)]<|spc h rfl (fun g33 h=>?_) fun g33 h=>?_
   ·refine cutA 87 1 [(4,pT 2)] [[iI v31.2.steps,.bool v31.2.over],(zLm.d c1),zz0,(zLm.d v31.1)]<|zAC<|zAE ?_
    cases h
    simp
   refine zAB<|zAJ<|zAA<|zAF ?_
   obtain⟨b39,q40,h⟩:=bs h
   refine cut 87 1 [(0,pT 0),(4,pT 2),(5,pT 3),(41,.bool b39)] [[iI v31.2.steps,.bool v31.2.over],(zLm.d c1),zz0,(zLm.d v31.1)] ?_ ?_
   ·rcases sp q40 with ⟨g34,q40⟩|⟨g34,q40⟩
    ·have c35:=eqT g34
     obtain⟨x36,q37,q40⟩:=bs q40
     obtain rfl:=oi q40
     refine st ?_
     simp[g34,q37]
    have c38:=eqF g34
    obtain rfl:=oi q40
    refine st ?_
    simp[g34]
   refine spc h rfl (fun g41 h=>?_) fun g41 h=>?_
   ·obtain⟨x42,q43,h⟩:=bs h
    obtain⟨x44,q45,h⟩:=bs h
    obtain⟨v46,q47,h⟩:=bs h
    obtain⟨v48,q49,h⟩:=bs h
    refine cut 87 1 [(4,pT 2)] [[iI v48.2.steps,.bool v48.2.over],(zLm.d c1),(zLm.d v48.1),(zLm.d v31.1)] ?_ ?_
    ·refine zAl [0,996] [11,12] mixed (n:=87) rfl (by decide) (by decide) ?_
     simp[q43,q45]
     have r50:=(zG4 fuel x42 x44 v31.2 v46 q47).frameZ [0] [[iI v31.2.steps,.bool v31.2.over],(zLm.d c1),zz0,(zLm.d v31.1)] (by simp) rfl (by simp) (by simp)
     try simp[q43,q45] at r50
     refine zLa r50 (by simp[q43,q45]) rfl (by decide) ?_
     simp[q43,q45]
     have r51:=(zEF v46.1 v46.2 v48 q49).frame [0] [[iI v46.2.steps,.bool v46.2.over],(zLm.d c1),zz0,(zLm.d v31.1)] (by simp)
     try simp[q43,q45] at r51
     refine callX r51 (by simp[q43,q45]) rfl ?_
     simp[q43,q45]
    refine zAC<|zAR<|zAE ?_
    cases h
    simp
   obtain⟨v52,q53,h⟩:=bs h
   refine cut 87 1 [(0,pT 0),(4,pT 2),(5,pT 3),(65,.bool v52)] [[iI v31.2.steps,.bool v31.2.over],(zLm.d c1),zz0,(zLm.d v31.1)] ?_ ?_
   ·refine st ?_
    simp
    have r67:=normal_eta_ok fuel v31.1 v52 q53
    try simp at r67
    refine cP r67 ?_
    simp
   refine spc h rfl (fun g54 h=>?_) fun g54 h=>?_
   ·obtain⟨x55,q56,h⟩:=bs h
    obtain⟨x57,q58,h⟩:=bs h
    obtain⟨v59,q60,h⟩:=bs h
    refine cut 87 1 [(0,pT 0),(4,pT 2),(8,pT 4),(9,iI v59.2)] [[iI v31.2.steps,.bool v31.2.over],(zLm.d c1),zz0,(zLm.d v31.1),(zLm.d v59.1)] ?_ ?_
    ·refine st ?_
     simp[q56,q58]
     have r66:=zHw fuel x57 (-1) 0 v59 q60
     try simp[q56,q58] at r66
     refine cP r66 ?_
     simp[q56,q58]
    refine zAA<|cutA 87 1 [(0,pT 0),(4,pT 2),(8,pT 4),(80,.bool (!(eqI v59.2 0)))] [[iI v31.2.steps,.bool v31.2.over],(zLm.d c1),zz0,(zLm.d v31.1),(zLm.d v59.1)] ?_
    rcases sp h with ⟨g61,h⟩|⟨g61,h⟩
    ·have g62:=notT g61
     have c63:=eqF g62
     refine zEj rfl g61<|cutA 87 1 [(4,pT 2)] [[iI v31.2.steps,.bool true],(zLm.d c1),zz0,(zLm.d v31.1),(zLm.d v59.1)]<|cutA 87 1 [(4,pT 2)] [[iI v31.2.steps,.bool true],(zLm.d c1),zz0,(zLm.d v31.1),(zLm.d v59.1)]<|zAC<|zAE<|zAR<|zAE ?_
     cases h
     simp
    have g64:=notF g61
    have c65:=eqT g64
    refine zEt rfl g61<|zAB<|zAJ<|cutA 87 1 [(4,pT 2)] [[iI v31.2.steps,.bool v31.2.over],(zLm.d c1),(zLm.d v59.1),(zLm.d v31.1),(zLm.d v59.1)]<|zAC<|zAR<|zAE ?_
    cases h
    simp
   refine zAB<|zDC<|zAJ<|cutA 87 1 [(4,pT 2)] [[iI v31.2.steps,.bool v31.2.over],(zLm.d c1),(zLm.d v31.1),(zLm.d v31.1)]<|zAC ?_
   cases h
   simp
theorem zLE(fuel:Nat)(c1:zLm)(r:zLm×Bool)(h:zF4 fuel c1=some r):Pure Tryz.prog 58 [.agg (zLm.d c1)] (.tup [.agg (zLm.d r.1),.bool r.2]):=by
 rw[zF4] at h
 refine zAD Tryz.func58 (by rfl) (by rfl) (by simp) (by simp) (by simp)<|cutA 17 0 [(1,pT 0),(2,pT 1)] [(zLm.d c1),zz0]<|cutA 17 0 [(1,pT 0),(2,pT 1),(4,pT 2)] [(zLm.d c1),zz0,[iI 0,.bool false]] ?_
 obtain⟨v2,q3,h⟩:=bs h
 refine cut 17 0 [(2,pT 1),(4,pT 2),(5,pT 3)] [(zLm.d c1),zz0,[iI v2.2.steps,.bool v2.2.over],(zLm.d v2.1)] ?_ ?_
 ·refine st ?_
  simp
  have r4:=(zFt fuel c1 (zLi.mk 0 false) v2 q3).frame [2] [(zLm.d c1),zz0,[iI 0,.bool false]] (by simp)
  try simp at r4
  refine zDX r4 (by simp) rfl ?_
  simp
 refine cut 17 0 [(2,pT 1),(3,.bool (!v2.2.over))] [(zLm.d c1),(zLm.d v2.1),[iI v2.2.steps,.bool v2.2.over],(zLm.d v2.1)] ?_ ?_
 ·refine zAl [1] [7] mixed (n:=17) rfl (by decide) (by decide) ?_
  simp
 refine zAC ?_
 cases h
 simp
theorem zHk(fuel:Nat):(∀(k1:zLl)(r:zLl)(_:zBG fuel k1=some r),Pure Tryz.prog 98 [.agg [.sl (k1.L.map zLl.c)]] (.agg [.sl (r.L.map zLl.c)])):=by
 induction fuel with
 |zero=>intro k1 r h;rw[zBG] at h;cases h
 |succ fuel zHm=>
  intro k1 r h
  rw[zBG] at h
  refine zAD Tryz.func98 (by rfl) (by rfl) (by simp) (by simp) (by simp)<|cutA 22 0 [(1,pT 0),(2,pT 1)] [[.sl (k1.L.map zLl.c)],zz1]<|cutA 22 0 [(1,pT 0),(2,pT 1),(3,pT 2)] [[.sl (k1.L.map zLl.c)],zz1,zz1]<|zAA<|cutA 22 0 [(2,pT 1),(3,pT 2),(7,.sl (k1.L.map zLl.c)),(8,iI k1.L.length),(9,iI 0)] [[.sl (k1.L.map zLl.c)],zz1,zz1]<|zAF ?_
  obtain⟨o4,l5,h⟩:=bs h
  refine zAq (fun p:Nat×(List zLl)×Nat=>mkS 22 0 [(2,pT 1),(3,pT 2),(7,.sl (k1.L.map zLl.c)),(8,iI k1.L.length),(9,iI p.2.2)] [[.sl (k1.L.map zLl.c)],zz1,[.osl ⟨1,27⟩ (p.2.1.map zLl.c)]]) (fun p=>zBR (zBG fuel) k1 p.1 p.2.1 p.2.2=some o4) (fun p=>p.1) (fuel,([]:List zLl),0) l5 (zAc (by simp)) ?_
  rintro⟨k6,L2,i3⟩ l5
  try dsimp only at l5 ⊢
  cases k6 with
  |zero=>
   rw[zBR] at l5;cases l5
  |succ k7=>
   rw[zBR] at l5
   refine cutA 22 0 [(2,pT 1),(3,pT 2),(7,.sl (k1.L.map zLl.c)),(8,iI k1.L.length),(9,iI i3),(10,.bool (ltI i3 k1.L.length))] [[.sl (k1.L.map zLl.c)],zz1,[.osl ⟨1,27⟩ (L2.map zLl.c)]]<|zAA<|spc l5 rfl (fun g8 l5=>?_) fun g8 l5=>?_
   ·have c9:=ltT g8
    refine zC5 7 rfl fun f10=>?_
    rw[zq4] at f10
    refine zAB<|zAJ<|zAA<|zAF ?_
    obtain⟨x11,q12,l5⟩:=bs l5
    refine cut 22 0 [(2,pT 1),(3,pT 2),(5,pT 3),(7,.sl (k1.L.map zLl.c)),(8,iI k1.L.length),(9,iI i3)] [[.sl (k1.L.map zLl.c)],zz1,[.osl ⟨1,27⟩ (L2.map zLl.c)],[.sl (x11.L.map zLl.c)]] (st (by simp[q12])) ?_
    obtain⟨v13,q14,l5⟩:=bs l5
    obtain⟨l15,q16,l5⟩:=bs l5
    obtain⟨q17,q18⟩:=zFL q16
    try simp at q17
    refine last 22 0 [(2,pT 1),(3,pT 2),(7,.sl (k1.L.map zLl.c)),(8,iI k1.L.length),(9,iI i3)] [[.sl (k1.L.map zLl.c)],zz1,[.osl ⟨1,27⟩ (l15.map zLl.c)],[.sl (x11.L.map zLl.c)]] ?_ fun zz hs=>?_
    ·refine zAL [] mixed (n:=22) rfl (by decide) ?_
     simp[q17,q18]
     have r20:=zHm x11 v13 q14
     try simp[q17,q18] at r20
     refine zF9 r20 (by simp) rfl ?_
     simp[q17,q18]
    refine zDC<|zAj ?_ hs
    have q19:Rng .i64 (((i3:Nat):Int)+1):=by simp only[Rng,inR];omega
    try simp at q19
    refine last 22 0 [(2,pT 1),(3,pT 2),(7,.sl (k1.L.map zLl.c)),(8,iI k1.L.length),(9,iI ((i3+1:Nat):Int))] [[.sl (k1.L.map zLl.c)],zz1,[.osl ⟨1,27⟩ (l15.map zLl.c)]] (st (by simp[q19])) fun zz hs=>?_
    exact⟨(k7,l15,i3+1),hs,l5,by simp⟩
   have c21:=ltF g8
   refine zC5 7 rfl fun f22=>?_
   rw[zq4] at f22
   refine zAW<|zAH ?_
   have q23:=zqa l5
   have q23:=q23.symm
   refine zAH<|zAX<|zAj (t:=mkS 22 0 [(2,pT 1),(3,pT 2)] [[.sl (k1.L.map zLl.c)],zz1,[.osl ⟨1,27⟩ (o4.map zLl.c)]]) ?_ (zAc (by simp[q23]))
   refine cutA 22 0 [(2,pT 1)] [[.sl (k1.L.map zLl.c)],[.sl (o4.map zLl.c)],[.osl ⟨1,27⟩ (o4.map zLl.c)]]<|zAC ?_
   cases h
   simp
theorem zJd(fuel:Nat):(∀(c1:zLm)(r:zLm)(_:zBq fuel c1=some r),Pure Tryz.prog 59 [.agg (zLm.d c1)] (.agg (zLm.d r))):=by
 induction fuel with
 |zero=>intro c1 r h;rw[zBq] at h;cases h
 |succ fuel zJp=>
  intro c1 r h
  rw[zBq] at h
  refine zAD Tryz.func59 (by rfl) (by rfl) (by simp) (by simp) (by simp)<|cutA 32 0 [(1,pT 0),(2,pT 1)] [(zLm.d c1),zz0]<|cutA 32 0 [(1,pT 0),(2,pT 1),(3,pT 2)] [(zLm.d c1),zz0,(zLm.d c1)] ?_
  obtain⟨v2,q3,h⟩:=bs h
  refine cut 32 0 [(1,pT 0),(2,pT 1),(3,pT 2)] [(zLm.d c1),zz0,[iI c1.Op,iI c1.N,.str c1.S,.sl (v2.L.map zLl.c),.sl (c1.Names.map cS),.sl (c1.L.map zLm.c)]] ?_ ?_
  ·refine st ?_
   simp
   have r29:=zHk fuel c1.Kind v2 q3
   refine cP r29 ?_
   simp
  obtain⟨v4,q5,h⟩:=bs h
  refine cut 32 0 [(1,pT 0),(2,pT 1),(3,pT 2)] [(zLm.d c1),zz0,[iI c1.Op,iI c1.N,.str c1.S,.sl (v2.L.map zLl.c),.sl (v4.map cS),.sl (c1.L.map zLm.c)]] ?_ ?_
  ·refine st ?_
   simp
   have r28:=zDB c1.Names v4 q5
   refine cP r28 ?_
   simp
  refine cutA 32 0 [(1,pT 0),(2,pT 1),(3,pT 2)] [(zLm.d c1),zz0,[iI c1.Op,iI c1.N,.str c1.S,.sl (v2.L.map zLl.c),.sl (v4.map cS),.osl ⟨6,31⟩ (([]:List zLm).map zLm.c)]]<|zAA<|cutA 32 0 [(2,pT 1),(3,pT 2),(17,.sl (c1.L.map zLm.c)),(18,iI c1.L.length),(19,iI 0)] [(zLm.d c1),zz0,[iI c1.Op,iI c1.N,.str c1.S,.sl (v2.L.map zLl.c),.sl (v4.map cS),.osl ⟨6,31⟩ (([]:List zLm).map zLm.c)]]<|zAF ?_
  obtain⟨o8,l9,h⟩:=bs h
  refine zAq (fun p:Nat×(List zLm)×Nat=>mkS 32 0 [(2,pT 1),(3,pT 2),(17,.sl (c1.L.map zLm.c)),(18,iI c1.L.length),(19,iI p.2.2)] [(zLm.d c1),zz0,[iI c1.Op,iI c1.N,.str c1.S,.sl (v2.L.map zLl.c),.sl (v4.map cS),.osl ⟨6,31⟩ (p.2.1.map zLm.c)]]) (fun p=>zCF (zBq fuel) c1 p.1 p.2.1 p.2.2=some o8) (fun p=>p.1) (fuel,([]:List zLm),0) l9 (zAc (by simp)) ?_
  rintro⟨k10,L6,i7⟩ l9
  try dsimp only at l9 ⊢
  cases k10 with
  |zero=>
   rw[zCF] at l9;cases l9
  |succ k11=>
   rw[zCF] at l9
   refine cutA 32 0 [(2,pT 1),(3,pT 2),(17,.sl (c1.L.map zLm.c)),(18,iI c1.L.length),(19,iI i7),(20,.bool (ltI i7 c1.L.length))] [(zLm.d c1),zz0,[iI c1.Op,iI c1.N,.str c1.S,.sl (v2.L.map zLl.c),.sl (v4.map cS),.osl ⟨6,31⟩ (L6.map zLm.c)]]<|zAA<|spc l9 rfl (fun g12 l9=>?_) fun g12 l9=>?_
   ·have c13:=ltT g12
    refine zC5 17 rfl fun f14=>?_
    rw[zq4] at f14
    refine zAB<|zAJ<|zAA<|zAF ?_
    obtain⟨x15,q16,l9⟩:=bs l9
    refine cut 32 0 [(2,pT 1),(3,pT 2),(5,pT 3),(17,.sl (c1.L.map zLm.c)),(18,iI c1.L.length),(19,iI i7)] [(zLm.d c1),zz0,[iI c1.Op,iI c1.N,.str c1.S,.sl (v2.L.map zLl.c),.sl (v4.map cS),.osl ⟨6,31⟩ (L6.map zLm.c)],(zLm.d x15)] (st (by simp[q16])) ?_
    obtain⟨v17,q18,l9⟩:=bs l9
    obtain⟨l19,q20,l9⟩:=bs l9
    obtain⟨q21,q22⟩:=zFL q20
    try simp at q21
    refine last 32 0 [(2,pT 1),(3,pT 2),(17,.sl (c1.L.map zLm.c)),(18,iI c1.L.length),(19,iI i7)] [(zLm.d c1),zz0,[iI c1.Op,iI c1.N,.str c1.S,.sl (v2.L.map zLl.c),.sl (v4.map cS),.osl ⟨6,31⟩ (l19.map zLm.c)],(zLm.d x15)] ?_ fun zz hs=>?_
    ·refine zAL [] mixed (n:=32) rfl (by decide) ?_
     simp[q21,q22]
     have r24:=zJp x15 v17 q18
     refine zF9 r24 (by simp) rfl ?_
     simp[q21,q22]
    refine zDC<|zAj ?_ hs
    have q23:Rng .i64 (((i7:Nat):Int)+1):=by simp only[Rng,inR];omega
    refine last 32 0 [(2,pT 1),(3,pT 2),(17,.sl (c1.L.map zLm.c)),(18,iI c1.L.length),(19,iI ((i7+1:Nat):Int))] [(zLm.d c1),zz0,[iI c1.Op,iI c1.N,.str c1.S,.sl (v2.L.map zLl.c),.sl (v4.map cS),.osl ⟨6,31⟩ (l19.map zLm.c)]] (st (by simp[q23])) fun zz hs=>?_
    exact⟨(k11,l19,i7+1),hs,l9,by simp⟩
   refine zC5 17 rfl fun f26=>?_
   rw[zq4] at f26
   refine zAW<|zAH ?_
   have q27:=zqa l9
   have q27:=q27.symm
   refine zAH<|zAX<|zAj (t:=mkS 32 0 [(2,pT 1),(3,pT 2)] [(zLm.d c1),zz0,[iI c1.Op,iI c1.N,.str c1.S,.sl (v2.L.map zLl.c),.sl (v4.map cS),.osl ⟨6,31⟩ (o8.map zLm.c)]]) ?_ (zAc (by simp[q27]))
   refine cutA 32 0 [(2,pT 1)] [(zLm.d c1),[iI c1.Op,iI c1.N,.str c1.S,.sl (v2.L.map zLl.c),.sl (v4.map cS),.sl (o8.map zLm.c)],[iI c1.Op,iI c1.N,.str c1.S,.sl (v2.L.map zLl.c),.sl (v4.map cS),.osl ⟨6,31⟩ (o8.map zLm.c)]]<|zAC ?_
   cases h
   simp
theorem zFf(fuel:Nat)(c1:zLm)(r:zLm×Int)(h:zDR fuel c1=some r):Pure Tryz.prog 30 [.agg (zLm.d c1)] (.tup [.agg (zLm.d r.1),iI r.2]):=by
 rw[zDR] at h
 refine zAD Tryz.func30 (by rfl) (by rfl) (by simp) (by simp) (by simp)<|cutA 20 0 [(1,pT 0),(2,pT 1)] [(zLm.d c1),zz0]<|zAA ?_
 obtain⟨v2,q3,h⟩:=bs h
 refine cut 20 0 [(1,pT 0),(2,pT 1),(8,.bool (!v2))] [(zLm.d c1),zz0] ?_ ?_
 ·refine st ?_
  simp
  have r16:=zCI fuel c1 v2 q3
  try simp at r16
  refine cP r16 ?_
  simp
 refine spc h rfl (fun g4 h=>?_) fun g4 h=>?_
 ·have g5:=notT g4
  refine cutA 20 0 [(2,pT 1),(3,iI 1)] [(zLm.d c1),zz0]<|zAC<|zAE ?_
  cases h
  simp
 have g6:=notF g4
 refine zAB<|zAJ ?_
 obtain⟨v7,q8,h⟩:=bs h
 refine cut 20 0 [(2,pT 1),(4,pT 2),(5,.bool v7.2)] [(zLm.d c1),zz0,(zLm.d v7.1)] ?_ ?_
 ·refine st ?_
  simp
  have r15:=zLE fuel c1 v7 q8
  try simp at r15
  refine cP r15 ?_
  simp
 refine zAA<|cutA 20 0 [(2,pT 1),(4,pT 2),(16,.bool (!v7.2))] [(zLm.d c1),zz0,(zLm.d v7.1)]<|spc h rfl (fun g9 h=>?_) fun g9 h=>?_
 ·have g10:=notT g9
  refine cutA 20 0 [(2,pT 1),(3,iI 27)] [(zLm.d c1),zz0,(zLm.d v7.1)]<|zAC<|zAE ?_
  cases h
  simp
 have g11:=notF g9
 refine zAB<|zAJ ?_
 obtain⟨v12,q13,h⟩:=bs h
 refine cut 20 0 [(2,pT 1),(3,iI 0)] [(zLm.d c1),(zLm.d v12),(zLm.d v7.1)] ?_ ?_
 ·refine st ?_
  simp
  have r14:=zJd fuel v7.1 v12 q13
  try simp at r14
  refine cP r14 ?_
  simp
 refine zAC ?_
 cases h
 simp
theorem zIE(fuel:Nat)(l1:(List (List UInt8)))(n2:Int)(r:Bool)(h:zBm fuel l1 n2=some r):Pure Tryz.prog 61 [.sl (l1.map cS),iI n2] (.bool r):=by
 rw[zBm] at h
 refine zAD Tryz.func61 (by rfl) (by rfl) (by simp) (by simp) (by simp)<|cutA 24 0 [(0,.sl (l1.map cS)),(1,iI n2)] []<|zAA<|cutA 24 0 [(0,.sl (l1.map cS)),(10,.bool (!(eqI l1.length n2)))] [] ?_
 rcases sp h with ⟨g3,h⟩|⟨g3,h⟩
 ·have g4:=notT g3
  have c5:=eqF g4
  refine zEj rfl g3<|cutA 24 0 [(4,.bool false)] []<|zAC<|zAE ?_
  cases h
  simp
 have g6:=notF g3
 have c7:=eqT g6
 refine zEt rfl g3<|zAB<|zAJ<|zAA<|cutA 24 0 [(11,.sl (l1.map cS)),(12,iI l1.length),(13,iI 0)] []<|zAF ?_
 obtain⟨o10,l11,h⟩:=bs h
 refine zAq (fun p:Nat×Nat=>mkS 24 0 [(11,.sl (l1.map cS)),(12,iI l1.length),(13,iI p.2)] []) (fun p=>zBD l1 p.1 p.2=some o10) (fun p=>p.1) (fuel,0) l11 (zAc (by simp)) ?_
 rintro⟨k12,i8⟩ l11
 try dsimp only at l11 ⊢
 cases k12 with
 |zero=>
  rw[zBD] at l11;cases l11
 |succ k13=>
  rw[zBD] at l11
  refine cutA 24 0 [(11,.sl (l1.map cS)),(12,iI l1.length),(13,iI i8),(14,.bool (ltI i8 l1.length))] []<|zAA<|spc l11 rfl (fun g14 l11=>?_) fun g14 l11=>?_
  ·have c15:=ltT g14
   refine zC5 11 rfl fun f16=>?_
   rw[zq4] at f16
   refine zAB<|zAJ<|zAA<|zAF ?_
   obtain⟨x17,q18,l11⟩:=bs l11
   refine cut 24 0 [(5,iI i8),(6,.str x17),(11,.sl (l1.map cS)),(12,iI l1.length),(13,iI i8)] [] (st (by simp[q18])) ?_
   have q19:Rng .i64 (((i8:Nat):Int)+1):=by simp only[Rng,inR];omega
   try simp at q19
   obtain⟨v20,q21,l11⟩:=bs l11
   refine cut 24 0 [(11,.sl (l1.map cS)),(12,iI l1.length),(13,iI i8),(22,.bool (!(eqS x17 v20)))] [] ?_ ?_
   ·refine st ?_
    simp[q19]
    have r26:=zHV ((i8+1:Nat):Int) v20 q21
    try simp[q19] at r26
    refine cP r26 ?_
    simp[q19]
   refine spc l11 rfl (fun g22 l11=>?_) fun g22 l11=>?_
   ·have g23:=notT g22
    refine cutA 24 0 [(4,.bool false)] []<|zAC<|zAR<|zAE ?_
    replace h:=retL l11 h
    refine zAE<|zAR<|zAE ?_
    cases h
    simp
   have g24:=notF g22
   refine zAB<|zDC<|zAJ ?_
   have q25:Rng .i64 (((i8:Nat):Int)+1):=by simp only[Rng,inR];omega
   try simp at q25
   refine last 24 0 [(11,.sl (l1.map cS)),(12,iI l1.length),(13,iI ((i8+1:Nat):Int))] [] (st (by simp[q25])) fun zz hs=>?_
   exact⟨(k13,i8+1),hs,l11,by simp⟩
  have c27:=ltF g14
  refine zC5 11 rfl fun f28=>?_
  rw[zq4] at f28
  refine zAW<|zAH ?_
  rcases o10 with o10|o9
  ·cases l11
  have q29:=Sum.inr.inj (zqa l11)
  replace h:=zHa h
  refine zAH<|zAX<|zAj (t:=mkS 24 0 [] []) ?_ (zAc (by simp))
  refine cutA 24 0 [(4,.bool true)] []<|zAC ?_
  cases h
  simp
theorem zIv(fuel:Nat)(c1:zLm)(binders2:Int)(r:zLm)(h:zEq fuel c1 binders2=some r):Pure Tryz.prog 215 [.agg (zLm.d c1),iI binders2] (.agg (zLm.d r)):=by
 rw[zEq] at h
 refine zAD Tryz.func215 (by rfl) (by rfl) (by simp) (by simp) (by simp)<|cutA 7 0 [(2,pT 0),(4,pT 1)] [(zLm.d c1),zz0] ?_
 obtain⟨v3,q4,h⟩:=bs h
 refine cut 7 0 [(4,pT 1)] [(zLm.d c1),(zLm.d v3)] ?_ ?_
 ·refine st ?_
  simp
  have r5:=zF6 fuel c1 v3 q4
  try simp at r5
  refine cP r5 ?_
  simp
 refine zAC ?_
 cases h
 simp
theorem zGC(fuel:Nat):(∀(c1:zLm)(binders2:Int)(c3:Int)(r:zLm×Int)(_:zAV fuel c1 binders2 c3=some r),Raw Tryz.prog 148 [pT 0,.agg (zLm.d c1),iI binders2] [[.fn (.func 215) [] [],iI c3]] (.agg (zLm.d r.1)) [[.fn (.func 215) [] [],iI r.2]]):=by
 induction fuel with
 |zero=>intro c1 binders2 c3 r h;rw[zAV] at h;cases h
 |succ fuel zEb=>
  intro c1 binders2 c3 r h
  rw[zAV] at h
  refine zBE Tryz.func148 (by rfl) (by rfl) (by simp) (by simp)<|cutA 87 1 [(0,pT 0),(2,iI binders2),(4,pT 1),(6,pT 2)] [[.fn (.func 215) [] [],iI c3],(zLm.d c1),zz0]<|zAA<|cutA 87 1 [(0,pT 0),(2,iI binders2),(4,pT 1),(6,pT 2),(15,.bool (leI c3 0))] [[.fn (.func 215) [] [],iI c3],(zLm.d c1),zz0]<|spc h rfl (fun g4 h=>?_) fun g4 h=>?_
  ·refine cutA 87 1 [(6,pT 2)] [[.fn (.func 215) [] [],iI (-1)],(zLm.d c1),zz0]<|cutA 87 1 [(6,pT 2)] [[.fn (.func 215) [] [],iI (-1)],(zLm.d c1),zz0]<|zAC<|zAE ?_
   cases h
   simp
  refine zAB<|zAJ<|zAA<|cut 87 1 [(0,pT 0),(2,iI binders2),(4,pT 1),(6,pT 2),(27,.bool ((eqI c1.Op 1)||(eqI c1.Op 2)))] [[.fn (.func 215) [] [],iI c3],(zLm.d c1),zz0] ?_ ?_
  ·rcases tf (eqI c1.Op 1) with g7|g7
   ·refine st ?_
    simp[g7]
   refine st ?_
   simp[g7]
  rcases sp h with ⟨g10,h⟩|⟨g10,h⟩
  ·refine zEj rfl g10 ?_
   obtain⟨v11,q12,h⟩:=bs h
   refine cut 87 1 [(0,pT 0),(6,pT 2),(7,pT 3)] [[.fn (.func 215) [] [],iI c3],(zLm.d c1),zz0,(zLm.d v11)] ?_ ?_
   ·refine zAL [] mixed (n:=87) rfl (by decide) ?_
    simp
    have r21:=zIv fuel c1 binders2 v11 q12
    refine zF9 r21 (by simp) rfl ?_
    simp
   obtain⟨v13,q14,h⟩:=bs h
   obtain⟨n15,q16,h⟩:=bs h
   obtain⟨q17,q18⟩:=zBo q16
   have c19:=q17;simp only[Rng,inR] at c19
   refine cut 87 1 [(6,pT 2),(7,pT 3)] [[.fn (.func 215) [] [],iI n15],(zLm.d c1),zz0,(zLm.d v11)] ?_ ?_
   ·refine zAL [] mixed (n:=87) rfl (by decide) ?_
    simp[q17,q18]
    have r20:=zEZ fuel v11 v13 q14
    refine zF9 r20 (by simp) rfl ?_
    simp[q17,q18]
   refine cutA 87 1 [(6,pT 2)] [[.fn (.func 215) [] [],iI n15],(zLm.d c1),(zLm.d v11),(zLm.d v11)]<|zAC<|zAE ?_
   cases h
   simp
  obtain⟨g22,g23⟩:=orF g10
  refine zEt rfl g10<|zAB<|zAJ ?_
  obtain⟨n26,q27,h⟩:=bs h
  obtain⟨q28,q29⟩:=zBo q27
  have c30:=q28;simp only[Rng,inR] at c30
  refine cut 87 1 [(0,pT 0),(2,iI binders2),(4,pT 1),(6,pT 2)] [[.fn (.func 215) [] [],iI n26],(zLm.d c1),zz0] (st (by simp[q28,q29])) ?_
  obtain⟨v31,q32,h⟩:=bs h
  obtain⟨v33,q34,h⟩:=bs h
  refine cut 87 1 [(0,pT 0),(2,iI binders2),(4,pT 1),(6,pT 2),(8,pT 3)] [[.fn (.func 215) [] [],iI n26],(zLm.d c1),zz0,[iI c1.Op,iI c1.N,.str c1.S,.sl (v31.L.map zLl.c),.sl (v33.map cS),.osl ⟨6,31⟩ (([]:List zLm).map zLm.c)]] ?_ ?_
  ·refine zAL [] mixed (n:=87) rfl (by decide) ?_
   simp
   have r94:=zFC fuel c1.Kind v31 q32
   refine zF9 r94 (by simp) rfl ?_
   simp
   have r95:=zDB c1.Names v33 q34
   refine zF9 r95 (by simp) rfl ?_
   simp
  refine zAA ?_
  obtain⟨v35,q36,h⟩:=bs h
  refine cut 87 1 [(0,pT 0),(2,iI binders2),(4,pT 1),(6,pT 2),(8,pT 3),(66,.bool v35)] [[.fn (.func 215) [] [],iI n26],(zLm.d c1),zz0,[iI c1.Op,iI c1.N,.str c1.S,.sl (v31.L.map zLl.c),.sl (v33.map cS),.osl ⟨6,31⟩ (([]:List zLm).map zLm.c)]] ?_ ?_
  ·refine st ?_
   simp
   have r93:=zBS c1 v35 q36
   refine cP r93 ?_
   simp
  refine spc h rfl (fun g37 h=>?_) fun g37 h=>?_
  ·obtain⟨n38,q39,h⟩:=bs h
   obtain⟨q40,q41⟩:=zBo q39
   have c42:=q40;simp only[Rng,inR] at c42
   refine last 87 1 [(0,pT 0),(2,iI n38),(4,pT 1),(6,pT 2),(8,pT 3)] [[.fn (.func 215) [] [],iI n26],(zLm.d c1),zz0,[iI c1.Op,iI c1.N,.str c1.S,.sl (v31.L.map zLl.c),.sl (v33.map cS),.osl ⟨6,31⟩ (([]:List zLm).map zLm.c)]] (st (by simp[q40,q41])) fun zz hs=>?_
   refine zAj ?_ hs
   refine zAA<|cutA 87 1 [(0,pT 0),(2,iI n38),(6,pT 2),(8,pT 3),(70,.sl (c1.L.map zLm.c)),(71,iI c1.L.length),(72,iI 0)] [[.fn (.func 215) [] [],iI n26],(zLm.d c1),zz0,[iI c1.Op,iI c1.N,.str c1.S,.sl (v31.L.map zLl.c),.sl (v33.map cS),.osl ⟨6,31⟩ (([]:List zLm).map zLm.c)]]<|zAF ?_
   obtain⟨o46,l47,h⟩:=bs h
   refine zAq (fun p:Nat×Int×(List zLm)×Nat=>mkS 87 1 [(0,pT 0),(2,iI n38),(6,pT 2),(8,pT 3),(70,.sl (c1.L.map zLm.c)),(71,iI c1.L.length),(72,iI p.2.2.2)] [[.fn (.func 215) [] [],iI p.2.1],(zLm.d c1),zz0,[iI c1.Op,iI c1.N,.str c1.S,.sl (v31.L.map zLl.c),.sl (v33.map cS),.osl ⟨6,31⟩ (p.2.2.1.map zLm.c)]]) (fun p=>zA2 (zAV fuel) c1 n38 p.1 p.2.1 p.2.2.1 p.2.2.2=some o46) (fun p=>p.1) (fuel,n26,([]:List zLm),0) l47 (zAc (by simp)) ?_
   rintro⟨k48,left43,L44,i45⟩ l47
   try dsimp only at l47 ⊢
   cases k48 with
   |zero=>
    rw[zA2] at l47;cases l47
   |succ k49=>
    rw[zA2] at l47
    refine cutA 87 1 [(0,pT 0),(2,iI n38),(6,pT 2),(8,pT 3),(70,.sl (c1.L.map zLm.c)),(71,iI c1.L.length),(72,iI i45),(73,.bool (ltI i45 c1.L.length))] [[.fn (.func 215) [] [],iI left43],(zLm.d c1),zz0,[iI c1.Op,iI c1.N,.str c1.S,.sl (v31.L.map zLl.c),.sl (v33.map cS),.osl ⟨6,31⟩ (L44.map zLm.c)]]<|zAA<|spc l47 rfl (fun g50 l47=>?_) fun g50 l47=>?_
    ·have c51:=ltT g50
     refine zC5 70 rfl fun f52=>?_
     rw[zq4] at f52
     refine zAB<|zAJ<|zAA<|zAF ?_
     obtain⟨x53,q54,l47⟩:=bs l47
     refine cut 87 1 [(0,pT 0),(2,iI n38),(6,pT 2),(8,pT 3),(10,pT 4),(70,.sl (c1.L.map zLm.c)),(71,iI c1.L.length),(72,iI i45)] [[.fn (.func 215) [] [],iI left43],(zLm.d c1),zz0,[iI c1.Op,iI c1.N,.str c1.S,.sl (v31.L.map zLl.c),.sl (v33.map cS),.osl ⟨6,31⟩ (L44.map zLm.c)],(zLm.d x53)] (st (by simp[q54])) ?_
     obtain⟨v55,q56,l47⟩:=bs l47
     obtain⟨l57,q58,l47⟩:=bs l47
     obtain⟨q59,q60⟩:=zFL q58
     try simp at q59
     refine last 87 1 [(0,pT 0),(2,iI n38),(6,pT 2),(8,pT 3),(70,.sl (c1.L.map zLm.c)),(71,iI c1.L.length),(72,iI i45)] [[.fn (.func 215) [] [],iI v55.2],(zLm.d c1),zz0,[iI c1.Op,iI c1.N,.str c1.S,.sl (v31.L.map zLl.c),.sl (v33.map cS),.osl ⟨6,31⟩ (l57.map zLm.c)],(zLm.d x53)] ?_ fun zz hs=>?_
     ·refine zAl [0,996] [7,9] mixed (n:=87) rfl (by decide) (by decide) ?_
      simp[q59,q60]
      have r62:=(zEb x53 n38 left43 v55 q56).frameZ [0] [[.fn (.func 215) [] [],iI left43],(zLm.d c1),zz0,[iI c1.Op,iI c1.N,.str c1.S,.sl (v31.L.map zLl.c),.sl (v33.map cS),.osl ⟨6,31⟩ (L44.map zLm.c)],(zLm.d x53)] (by simp) rfl (by simp) (by simp)
      try simp[q59,q60] at r62
      refine zLa r62 (by simp[q59,q60]) rfl (by decide) ?_
      simp[q59,q60]
     refine zDC<|zAj ?_ hs
     have q61:Rng .i64 (((i45:Nat):Int)+1):=by simp only[Rng,inR];omega
     try simp at q61
     refine last 87 1 [(0,pT 0),(2,iI n38),(6,pT 2),(8,pT 3),(70,.sl (c1.L.map zLm.c)),(71,iI c1.L.length),(72,iI ((i45+1:Nat):Int))] [[.fn (.func 215) [] [],iI v55.2],(zLm.d c1),zz0,[iI c1.Op,iI c1.N,.str c1.S,.sl (v31.L.map zLl.c),.sl (v33.map cS),.osl ⟨6,31⟩ (l57.map zLm.c)]] (st (by simp[q61])) fun zz hs=>?_
     exact⟨(k49,v55.2,l57,i45+1),hs,l47,by simp⟩
    have c63:=ltF g50
    refine zC5 70 rfl fun f64=>?_
    rw[zq4] at f64
    refine zAW<|zAH ?_
    have q65:=zqa l47
    have q66:o46.1=left43:=by rw[<-q65]
    have q67:o46.2=L44:=by rw[<-q65]
    refine zAH<|zAX<|zAj (t:=mkS 87 1 [(6,pT 2),(8,pT 3)] [[.fn (.func 215) [] [],iI o46.1],(zLm.d c1),zz0,[iI c1.Op,iI c1.N,.str c1.S,.sl (v31.L.map zLl.c),.sl (v33.map cS),.osl ⟨6,31⟩ (o46.2.map zLm.c)]]) ?_ (zAc (by simp[q66,q67]))
    refine cutA 87 1 [(6,pT 2)] [[.fn (.func 215) [] [],iI o46.1],(zLm.d c1),[iI c1.Op,iI c1.N,.str c1.S,.sl (v31.L.map zLl.c),.sl (v33.map cS),.sl (o46.2.map zLm.c)],[iI c1.Op,iI c1.N,.str c1.S,.sl (v31.L.map zLl.c),.sl (v33.map cS),.osl ⟨6,31⟩ (o46.2.map zLm.c)]]<|zAC ?_
    cases h
    simp
  refine zAB<|zAJ<|zAA<|cutA 87 1 [(0,pT 0),(2,iI binders2),(6,pT 2),(8,pT 3),(70,.sl (c1.L.map zLm.c)),(71,iI c1.L.length),(72,iI 0)] [[.fn (.func 215) [] [],iI n26],(zLm.d c1),zz0,[iI c1.Op,iI c1.N,.str c1.S,.sl (v31.L.map zLl.c),.sl (v33.map cS),.osl ⟨6,31⟩ (([]:List zLm).map zLm.c)]]<|zAF ?_
  obtain⟨o71,l72,h⟩:=bs h
  refine zAq (fun p:Nat×Int×(List zLm)×Nat=>mkS 87 1 [(0,pT 0),(2,iI binders2),(6,pT 2),(8,pT 3),(70,.sl (c1.L.map zLm.c)),(71,iI c1.L.length),(72,iI p.2.2.2)] [[.fn (.func 215) [] [],iI p.2.1],(zLm.d c1),zz0,[iI c1.Op,iI c1.N,.str c1.S,.sl (v31.L.map zLl.c),.sl (v33.map cS),.osl ⟨6,31⟩ (p.2.2.1.map zLm.c)]]) (fun p=>zA1 (zAV fuel) c1 binders2 p.1 p.2.1 p.2.2.1 p.2.2.2=some o71) (fun p=>p.1) (fuel,n26,([]:List zLm),0) l72 (zAc (by simp)) ?_
  rintro⟨k73,left68,L69,i70⟩ l72
  try dsimp only at l72 ⊢
  cases k73 with
  |zero=>
   rw[zA1] at l72;cases l72
  |succ k74=>
   rw[zA1] at l72
   refine cutA 87 1 [(0,pT 0),(2,iI binders2),(6,pT 2),(8,pT 3),(70,.sl (c1.L.map zLm.c)),(71,iI c1.L.length),(72,iI i70),(73,.bool (ltI i70 c1.L.length))] [[.fn (.func 215) [] [],iI left68],(zLm.d c1),zz0,[iI c1.Op,iI c1.N,.str c1.S,.sl (v31.L.map zLl.c),.sl (v33.map cS),.osl ⟨6,31⟩ (L69.map zLm.c)]]<|zAA<|spc l72 rfl (fun g75 l72=>?_) fun g75 l72=>?_
   ·have c76:=ltT g75
    refine zC5 70 rfl fun f77=>?_
    rw[zq4] at f77
    refine zAB<|zAJ<|zAA<|zAF ?_
    obtain⟨x78,q79,l72⟩:=bs l72
    refine cut 87 1 [(0,pT 0),(2,iI binders2),(6,pT 2),(8,pT 3),(10,pT 4),(70,.sl (c1.L.map zLm.c)),(71,iI c1.L.length),(72,iI i70)] [[.fn (.func 215) [] [],iI left68],(zLm.d c1),zz0,[iI c1.Op,iI c1.N,.str c1.S,.sl (v31.L.map zLl.c),.sl (v33.map cS),.osl ⟨6,31⟩ (L69.map zLm.c)],(zLm.d x78)] (st (by simp[q79])) ?_
    obtain⟨v80,q81,l72⟩:=bs l72
    obtain⟨l82,q83,l72⟩:=bs l72
    obtain⟨q84,q85⟩:=zFL q83
    try simp at q84
    refine last 87 1 [(0,pT 0),(2,iI binders2),(6,pT 2),(8,pT 3),(70,.sl (c1.L.map zLm.c)),(71,iI c1.L.length),(72,iI i70)] [[.fn (.func 215) [] [],iI v80.2],(zLm.d c1),zz0,[iI c1.Op,iI c1.N,.str c1.S,.sl (v31.L.map zLl.c),.sl (v33.map cS),.osl ⟨6,31⟩ (l82.map zLm.c)],(zLm.d x78)] ?_ fun zz hs=>?_
    ·refine zAl [0,996] [7,9] mixed (n:=87) rfl (by decide) (by decide) ?_
     simp[q84,q85]
     have r87:=(zEb x78 binders2 left68 v80 q81).frameZ [0] [[.fn (.func 215) [] [],iI left68],(zLm.d c1),zz0,[iI c1.Op,iI c1.N,.str c1.S,.sl (v31.L.map zLl.c),.sl (v33.map cS),.osl ⟨6,31⟩ (L69.map zLm.c)],(zLm.d x78)] (by simp) rfl (by simp) (by simp)
     try simp[q84,q85] at r87
     refine zLa r87 (by simp[q84,q85]) rfl (by decide) ?_
     simp[q84,q85]
    refine zDC<|zAj ?_ hs
    have q86:Rng .i64 (((i70:Nat):Int)+1):=by simp only[Rng,inR];omega
    try simp at q86
    refine last 87 1 [(0,pT 0),(2,iI binders2),(6,pT 2),(8,pT 3),(70,.sl (c1.L.map zLm.c)),(71,iI c1.L.length),(72,iI ((i70+1:Nat):Int))] [[.fn (.func 215) [] [],iI v80.2],(zLm.d c1),zz0,[iI c1.Op,iI c1.N,.str c1.S,.sl (v31.L.map zLl.c),.sl (v33.map cS),.osl ⟨6,31⟩ (l82.map zLm.c)]] (st (by simp[q86])) fun zz hs=>?_
    exact⟨(k74,v80.2,l82,i70+1),hs,l72,by simp⟩
   have c88:=ltF g75
   refine zC5 70 rfl fun f89=>?_
   rw[zq4] at f89
   refine zAW<|zAH ?_
   have q90:=zqa l72
   have q91:o71.1=left68:=by rw[<-q90]
   have q92:o71.2=L69:=by rw[<-q90]
   refine zAH<|zAX<|zAj (t:=mkS 87 1 [(6,pT 2),(8,pT 3)] [[.fn (.func 215) [] [],iI o71.1],(zLm.d c1),zz0,[iI c1.Op,iI c1.N,.str c1.S,.sl (v31.L.map zLl.c),.sl (v33.map cS),.osl ⟨6,31⟩ (o71.2.map zLm.c)]]) ?_ (zAc (by simp[q91,q92]))
   refine cutA 87 1 [(6,pT 2)] [[.fn (.func 215) [] [],iI o71.1],(zLm.d c1),[iI c1.Op,iI c1.N,.str c1.S,.sl (v31.L.map zLl.c),.sl (v33.map cS),.sl (o71.2.map zLm.c)],[iI c1.Op,iI c1.N,.str c1.S,.sl (v31.L.map zLl.c),.sl (v33.map cS),.osl ⟨6,31⟩ (o71.2.map zLm.c)]]<|zAC ?_
   cases h
   simp
theorem zJ7(fuel:Nat)(c1:zLm)(r:zLm)(h:zCk fuel c1=some r):Pure Tryz.prog 184 [.agg (zLm.d c1)] (.agg (zLm.d r)):=by
 rw[zCk] at h
 refine zAD Tryz.func184 (by rfl) (by rfl) (by simp) (by simp) (by simp)<|cutA 9 0 [(1,pT 0),(2,pT 1)] [(zLm.d c1),zz0]<|cutA 9 0 [(1,pT 0),(2,pT 1),(3,pT 2)] [(zLm.d c1),zz0,[.fn (.func 215) [] [],iI 20000]] ?_
 obtain⟨v2,q3,h⟩:=bs h
 refine cut 9 0 [(2,pT 1)] [(zLm.d c1),(zLm.d v2.1),[.fn (.func 215) [] [],iI v2.2]] ?_ ?_
 ·refine st ?_
  simp
  have r4:=(zGC fuel c1 0 20000 v2 q3).frame [2] [(zLm.d c1),zz0,[.fn (.func 215) [] [],iI 20000]] (by simp)
  try simp at r4
  refine zDX r4 (by simp) rfl ?_
  simp
 refine zAC ?_
 cases h
 simp
end Go.Proofs.YtencdekdgajgfaaGreatDoor

