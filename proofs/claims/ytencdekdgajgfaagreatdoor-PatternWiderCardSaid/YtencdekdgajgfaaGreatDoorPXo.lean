/- For every input the law PatternWider returns true. Part 15 of 22. No condition. -/
import Derived.Test.YtencdekdgajgfaaGreatDoorPXn
set_option linter.unusedVariables false
set_option linter.unnecessarySimpa false
set_option linter.unusedSimpArgs false
set_option maxRecDepth 100000
set_option maxHeartbeats 1000000
namespace Go.Proofs.YtencdekdgajgfaaGreatDoor
open Go Go.Abs
theorem zFq(fuel:Nat):(∀(c1:zLd)(w2:zLY)(r:zLd×zLY)(_:zAb fuel c1 w2=some r),Raw Tryz.prog 97 [pT 0,.agg (zLd.d c1)] [[iI w2.steps,.bool w2.over]] (.agg (zLd.d r.1)) [[iI r.2.steps,.bool r.2.over]]):=by
 induction fuel with
 |zero=>intro c1 w2 r h;rw[zAb] at h;cases h
 |succ fuel zDz=>
  intro c1 w2 r h
  rw[zAb] at h
  refine zAw Tryz.func97 (by rfl) (by rfl) (by simp) (by simp)<|cutA 87 1 [(0,pT 0),(3,pT 1),(4,pT 2)] [[iI w2.steps,.bool w2.over],(zLd.d c1),zz0]<|zAC<|cutA 87 1 [(0,pT 0),(3,pT 1),(4,pT 2),(13,.bool w2.over)] [[iI w2.steps,.bool w2.over],(zLd.d c1),zz0]<|spc h rfl (fun g3 h=>?_) fun g3 h=>?_
  ·refine cutA 87 1 [(4,pT 2)] [[iI w2.steps,.bool w2.over],(zLd.d c1),zz0]<|zAB<|zAF ?_
   cases h
   simp
  refine zAD<|zAK<|cutA 87 1 [(0,pT 0),(3,pT 1),(4,pT 2),(5,pT 3)] [[iI w2.steps,.bool w2.over],(zLd.d c1),zz0,(zLd.d c1)]<|cutA 87 1 [(0,pT 0),(3,pT 1),(4,pT 2),(5,pT 3)] [[iI w2.steps,.bool w2.over],(zLd.d c1),zz0,[iI c1.Op,iI c1.N,.str c1.S,.sl (c1.Kind.L.map zLb.c),.sl (c1.Names.map cS),.osl ⟨6,31⟩ (([]:List zLd).map zLd.c)]]<|zAC<|cutA 87 1 [(0,pT 0),(4,pT 2),(5,pT 3),(18,.sl (c1.L.map zLd.c)),(19,iI c1.L.length),(20,iI 0)] [[iI w2.steps,.bool w2.over],(zLd.d c1),zz0,[iI c1.Op,iI c1.N,.str c1.S,.sl (c1.Kind.L.map zLb.c),.sl (c1.Names.map cS),.osl ⟨6,31⟩ (([]:List zLd).map zLd.c)]]<|zAG ?_
  obtain⟨o8,l9,h⟩:=bs h
  refine zBR (fun p:Nat×Int×Bool×(List zLd)×Nat=>mkS 87 1 [(0,pT 0),(4,pT 2),(5,pT 3),(18,.sl (c1.L.map zLd.c)),(19,iI c1.L.length),(20,iI p.2.2.2.2)] [[iI p.2.1,.bool p.2.2.1],(zLd.d c1),zz0,[iI c1.Op,iI c1.N,.str c1.S,.sl (c1.Kind.L.map zLb.c),.sl (c1.Names.map cS),.osl ⟨6,31⟩ (p.2.2.2.1.map zLd.c)]]) (fun p=>zA6 (zAb fuel) c1 p.1 p.2.1 p.2.2.1 p.2.2.2.1 p.2.2.2.2=some o8) (fun p=>p.1) (fuel,w2.steps,w2.over,([]:List zLd),0) l9 (zA1 (by simp)) ?_
  rintro⟨k10,steps4,over5,L6,i7⟩ l9
  try dsimp only at l9 ⊢
  cases k10 with
  |zero=>
   rw[zA6] at l9;cases l9
  |succ k11=>
   rw[zA6] at l9
   refine cutA 87 1 [(0,pT 0),(4,pT 2),(5,pT 3),(18,.sl (c1.L.map zLd.c)),(19,iI c1.L.length),(20,iI i7),(21,.bool (ltI ((i7:Nat):Int) (c1.L.length:Int)))] [[iI steps4,.bool over5],(zLd.d c1),zz0,[iI c1.Op,iI c1.N,.str c1.S,.sl (c1.Kind.L.map zLb.c),.sl (c1.Names.map cS),.osl ⟨6,31⟩ (L6.map zLd.c)]]<|zAC<|spc l9 rfl (fun g12 l9=>?_) fun g12 l9=>?_
   ·have c13:=ltT g12
    refine zCe 18 rfl fun f14=>?_
    rw[zq4] at f14
    refine zAD<|zAK<|zAC<|zAG ?_
    obtain⟨x15,q16,l9⟩:=bs l9
    refine cut 87 1 [(0,pT 0),(4,pT 2),(5,pT 3),(7,pT 4),(18,.sl (c1.L.map zLd.c)),(19,iI c1.L.length),(20,iI i7)] [[iI steps4,.bool over5],(zLd.d c1),zz0,[iI c1.Op,iI c1.N,.str c1.S,.sl (c1.Kind.L.map zLb.c),.sl (c1.Names.map cS),.osl ⟨6,31⟩ (L6.map zLd.c)],(zLd.d x15)] (st (by simp[q16])) ?_
    obtain⟨v17,q18,l9⟩:=bs l9
    obtain⟨l19,q20,l9⟩:=bs l9
    obtain⟨q21,q22⟩:=zHG q20
    try simp at q21
    refine last 87 1 [(0,pT 0),(4,pT 2),(5,pT 3),(18,.sl (c1.L.map zLd.c)),(19,iI c1.L.length),(20,iI i7)] [[iI v17.2.steps,.bool v17.2.over],(zLd.d c1),zz0,[iI c1.Op,iI c1.N,.str c1.S,.sl (c1.Kind.L.map zLb.c),.sl (c1.Names.map cS),.osl ⟨6,31⟩ (l19.map zLd.c)],(zLd.d x15)] ?_ fun zz hs=>?_
    ·refine zAc [0,996] [6,8] mixed (n:=87) rfl (by decide) (by decide) ?_
     simp[q21,q22]
     have r24:=(zDz x15 (zLY.mk steps4 over5) v17 q18).frameZ [0] [[iI steps4,.bool over5],(zLd.d c1),zz0,[iI c1.Op,iI c1.N,.str c1.S,.sl (c1.Kind.L.map zLb.c),.sl (c1.Names.map cS),.osl ⟨6,31⟩ (L6.map zLd.c)],(zLd.d x15)] (by simp) rfl (by simp) (by simp)
     refine zKK r24 (by simp[q21,q22]) rfl (by decide) ?_
     simp[q21,q22]
    refine zDg<|zBS ?_ hs
    have q23:Rng .i64 (((i7:Nat):Int)+1):=by simp only[Rng,inR];omega
    try simp at q23
    refine last 87 1 [(0,pT 0),(4,pT 2),(5,pT 3),(18,.sl (c1.L.map zLd.c)),(19,iI c1.L.length),(20,iI ((i7+1:Nat):Int))] [[iI v17.2.steps,.bool v17.2.over],(zLd.d c1),zz0,[iI c1.Op,iI c1.N,.str c1.S,.sl (c1.Kind.L.map zLb.c),.sl (c1.Names.map cS),.osl ⟨6,31⟩ (l19.map zLd.c)]] (st (by simp[q23])) fun zz hs=>?_
    exact⟨(k11,v17.2.steps,v17.2.over,l19,i7+1),hs,l9,by simp⟩
   have c25:=ltF g12
   refine zCe 18 rfl fun f26=>?_
   rw[zq4] at f26
   refine zAp<|zAH ?_
   have q27:=zqa l9
   have q28:o8.1=steps4:=by rw[<-q27]
   have q29:o8.2.1=over5:=by rw[<-q27]
   have q30:o8.2.2=L6:=by rw[<-q27]
   refine zAH<|zAt<|zBS (t:=mkS 87 1 [(0,pT 0),(4,pT 2),(5,pT 3)] [[iI o8.1,.bool o8.2.1],(zLd.d c1),zz0,[iI c1.Op,iI c1.N,.str c1.S,.sl (c1.Kind.L.map zLb.c),.sl (c1.Names.map cS),.osl ⟨6,31⟩ (o8.2.2.map zLd.c)]]) ?_ (zA1 (by simp[q28,q29,q30]))
   refine zAC ?_
   obtain⟨v31,q32,h⟩:=bs h
   refine cut 87 1 [(0,pT 0),(4,pT 2),(5,pT 3)] [[iI v31.2.steps,.bool v31.2.over],(zLd.d c1),zz0,(zLd.d v31.1)] ?_ ?_
   ·refine st ?_
    simp
    have r68:=(zFD fuel (zLd.mk c1.Op c1.N c1.S c1.Kind c1.Names o8.2.2) (zLY.mk o8.1 o8.2.1) v31 q32).frame [0] [[iI o8.1,.bool o8.2.1],(zLd.d c1),zz0,[iI c1.Op,iI c1.N,.str c1.S,.sl (c1.Kind.L.map zLb.c),.sl (c1.Names.map cS),.osl ⟨6,31⟩ (o8.2.2.map zLd.c)]] (by simp)
    try simp at r68
    refine zBK r68 (by simp) rfl ?_
    simp
   refine cutA 87 1 [(0,pT 0),(4,pT 2),(5,pT 3),(39,.bool v31.2.over)] [[iI v31.2.steps,.bool v31.2.over],(zLd.d c1),zz0,(zLd.d v31.1)]<|spc h rfl (fun g33 h=>?_) fun g33 h=>?_
   ·refine cutA 87 1 [(4,pT 2)] [[iI v31.2.steps,.bool v31.2.over],(zLd.d c1),zz0,(zLd.d v31.1)]<|zAB<|zAF ?_
    cases h
    simp
   refine zAD<|zAK<|zAC<|zAG ?_
   obtain⟨b39,q40,h⟩:=bs h
   refine cut 87 1 [(0,pT 0),(4,pT 2),(5,pT 3),(41,.bool b39)] [[iI v31.2.steps,.bool v31.2.over],(zLd.d c1),zz0,(zLd.d v31.1)] ?_ ?_
   ·rcases sp q40 with ⟨g34,q40⟩|⟨g34,q40⟩
    ·have c35:=eqT g34
     obtain⟨x36,q37,q40⟩:=bs q40
     obtain rfl:=oi q40
     refine st ?_
     simp[g34,q37]
    have c38:=eqF g34
    obtain rfl:=oi q40
    refine st ?_
    simp[g34]
   refine spc h rfl (fun g41 h=>?_) fun g41 h=>?_
   ·obtain⟨x42,q43,h⟩:=bs h
    obtain⟨x44,q45,h⟩:=bs h
    obtain⟨v46,q47,h⟩:=bs h
    obtain⟨v48,q49,h⟩:=bs h
    refine cut 87 1 [(4,pT 2)] [[iI v48.2.steps,.bool v48.2.over],(zLd.d c1),(zLd.d v48.1),(zLd.d v31.1)] ?_ ?_
    ·refine zAc [0,996] [11,12] mixed (n:=87) rfl (by decide) (by decide) ?_
     simp[q43,q45]
     have r50:=(zG4 fuel x42 x44 v31.2 v46 q47).frameZ [0] [[iI v31.2.steps,.bool v31.2.over],(zLd.d c1),zz0,(zLd.d v31.1)] (by simp) rfl (by simp) (by simp)
     try simp[q43,q45] at r50
     refine zKK r50 (by simp[q43,q45]) rfl (by decide) ?_
     simp[q43,q45]
     have r51:=(zDz v46.1 v46.2 v48 q49).frame [0] [[iI v46.2.steps,.bool v46.2.over],(zLd.d c1),zz0,(zLd.d v31.1)] (by simp)
     try simp[q43,q45] at r51
     refine callX r51 (by simp[q43,q45]) rfl ?_
     simp[q43,q45]
    refine zAB<|zAQ<|zAF ?_
    cases h
    simp
   obtain⟨v52,q53,h⟩:=bs h
   refine cut 87 1 [(0,pT 0),(4,pT 2),(5,pT 3),(65,.bool v52)] [[iI v31.2.steps,.bool v31.2.over],(zLd.d c1),zz0,(zLd.d v31.1)] ?_ ?_
   ·refine st ?_
    simp
    have r67:=normal_eta_ok fuel v31.1 v52 q53
    try simp at r67
    refine zAA r67 (by simp) rfl ?_
    simp
   refine spc h rfl (fun g54 h=>?_) fun g54 h=>?_
   ·obtain⟨x55,q56,h⟩:=bs h
    obtain⟨x57,q58,h⟩:=bs h
    obtain⟨v59,q60,h⟩:=bs h
    refine cut 87 1 [(0,pT 0),(4,pT 2),(8,pT 4),(9,iI v59.2)] [[iI v31.2.steps,.bool v31.2.over],(zLd.d c1),zz0,(zLd.d v31.1),(zLd.d v59.1)] ?_ ?_
    ·refine st ?_
     simp[q56,q58]
     have r66:=zH1 fuel x57 (-1) 0 v59 q60
     try simp[q56,q58] at r66
     refine zAA r66 (by simp) rfl ?_
     simp[q56,q58]
    refine zAC<|cutA 87 1 [(0,pT 0),(4,pT 2),(8,pT 4),(80,.bool (!(eqI v59.2 0)))] [[iI v31.2.steps,.bool v31.2.over],(zLd.d c1),zz0,(zLd.d v31.1),(zLd.d v59.1)] ?_
    rcases sp h with ⟨g61,h⟩|⟨g61,h⟩
    ·have g62:=notT g61
     have c63:=eqF g62
     refine zD5 rfl g61<|cutA 87 1 [(4,pT 2)] [[iI v31.2.steps,.bool true],(zLd.d c1),zz0,(zLd.d v31.1),(zLd.d v59.1)]<|cutA 87 1 [(4,pT 2)] [[iI v31.2.steps,.bool true],(zLd.d c1),zz0,(zLd.d v31.1),(zLd.d v59.1)]<|zAB<|zAF<|zAQ<|zAF ?_
     cases h
     simp
    have g64:=notF g61
    have c65:=eqT g64
    refine zEK rfl g61<|zAD<|zAK<|cutA 87 1 [(4,pT 2)] [[iI v31.2.steps,.bool v31.2.over],(zLd.d c1),(zLd.d v59.1),(zLd.d v31.1),(zLd.d v59.1)]<|zAB<|zAQ<|zAF ?_
    cases h
    simp
   refine zAD<|zDg<|zAK<|cutA 87 1 [(4,pT 2)] [[iI v31.2.steps,.bool v31.2.over],(zLd.d c1),(zLd.d v31.1),(zLd.d v31.1)]<|zAB ?_
   cases h
   simp
theorem zK7(fuel:Nat)(c1:zLd)(r:zLd×Bool)(h:zF2 fuel c1=some r):Pure Tryz.prog 58 [.agg (zLd.d c1)] (.tup [.agg (zLd.d r.1),.bool r.2]):=by
 rw[zF2] at h
 refine zAE Tryz.func58 (by rfl) (by rfl) (by simp) (by simp) (by simp)<|cutA 17 0 [(1,pT 0),(2,pT 1)] [(zLd.d c1),zz0]<|cutA 17 0 [(1,pT 0),(2,pT 1),(4,pT 2)] [(zLd.d c1),zz0,[iI 0,.bool false]] ?_
 obtain⟨v2,q3,h⟩:=bs h
 refine cut 17 0 [(2,pT 1),(4,pT 2),(5,pT 3)] [(zLd.d c1),zz0,[iI v2.2.steps,.bool v2.2.over],(zLd.d v2.1)] ?_ ?_
 ·refine st ?_
  simp
  have r4:=(zFq fuel c1 (zLY.mk 0 false) v2 q3).frame [2] [(zLd.d c1),zz0,[iI 0,.bool false]] (by simp)
  try simp at r4
  refine zBK r4 (by simp) rfl ?_
  simp
 refine cut 17 0 [(2,pT 1),(3,.bool (!v2.2.over))] [(zLd.d c1),(zLd.d v2.1),[iI v2.2.steps,.bool v2.2.over],(zLd.d v2.1)] ?_ ?_
 ·refine zAc [1] [7] mixed (n:=17) rfl (by decide) (by decide) ?_
  simp
 refine zAB ?_
 cases h
 simp
theorem zHq(fuel:Nat):(∀(k1:zLb)(r:zLb)(_:zBY fuel k1=some r),Pure Tryz.prog 98 [.agg [.sl (k1.L.map zLb.c)]] (.agg [.sl (r.L.map zLb.c)])):=by
 induction fuel with
 |zero=>intro k1 r h;rw[zBY] at h;cases h
 |succ fuel zHs=>
  intro k1 r h
  rw[zBY] at h
  refine zAE Tryz.func98 (by rfl) (by rfl) (by simp) (by simp) (by simp)<|cutA 22 0 [(1,pT 0),(2,pT 1)] [[.sl (k1.L.map zLb.c)],zz1]<|cutA 22 0 [(1,pT 0),(2,pT 1),(3,pT 2)] [[.sl (k1.L.map zLb.c)],zz1,zz1]<|zAC<|cutA 22 0 [(2,pT 1),(3,pT 2),(7,.sl (k1.L.map zLb.c)),(8,iI k1.L.length),(9,iI 0)] [[.sl (k1.L.map zLb.c)],zz1,zz1]<|zAG ?_
  obtain⟨o4,l5,h⟩:=bs h
  refine zBR (fun p:Nat×(List zLb)×Nat=>mkS 22 0 [(2,pT 1),(3,pT 2),(7,.sl (k1.L.map zLb.c)),(8,iI k1.L.length),(9,iI p.2.2)] [[.sl (k1.L.map zLb.c)],zz1,[.osl ⟨1,27⟩ (p.2.1.map zLb.c)]]) (fun p=>zBr (zBY fuel) k1 p.1 p.2.1 p.2.2=some o4) (fun p=>p.1) (fuel,([]:List zLb),0) l5 (zA1 (by simp)) ?_
  rintro⟨k6,L2,i3⟩ l5
  try dsimp only at l5 ⊢
  cases k6 with
  |zero=>
   rw[zBr] at l5;cases l5
  |succ k7=>
   rw[zBr] at l5
   refine cutA 22 0 [(2,pT 1),(3,pT 2),(7,.sl (k1.L.map zLb.c)),(8,iI k1.L.length),(9,iI i3),(10,.bool (ltI ((i3:Nat):Int) (k1.L.length:Int)))] [[.sl (k1.L.map zLb.c)],zz1,[.osl ⟨1,27⟩ (L2.map zLb.c)]]<|zAC<|spc l5 rfl (fun g8 l5=>?_) fun g8 l5=>?_
   ·have c9:=ltT g8
    refine zCe 7 rfl fun f10=>?_
    rw[zq4] at f10
    refine zAD<|zAK<|zAC<|zAG ?_
    obtain⟨x11,q12,l5⟩:=bs l5
    refine cut 22 0 [(2,pT 1),(3,pT 2),(5,pT 3),(7,.sl (k1.L.map zLb.c)),(8,iI k1.L.length),(9,iI i3)] [[.sl (k1.L.map zLb.c)],zz1,[.osl ⟨1,27⟩ (L2.map zLb.c)],[.sl (x11.L.map zLb.c)]] (st (by simp[q12])) ?_
    obtain⟨v13,q14,l5⟩:=bs l5
    obtain⟨l15,q16,l5⟩:=bs l5
    obtain⟨q17,q18⟩:=zHG q16
    try simp at q17
    refine last 22 0 [(2,pT 1),(3,pT 2),(7,.sl (k1.L.map zLb.c)),(8,iI k1.L.length),(9,iI i3)] [[.sl (k1.L.map zLb.c)],zz1,[.osl ⟨1,27⟩ (l15.map zLb.c)],[.sl (x11.L.map zLb.c)]] ?_ fun zz hs=>?_
    ·refine zAN [] mixed (n:=22) rfl (by decide) ?_
     simp[q17,q18]
     have r20:=zHs x11 v13 q14
     try simp[q17,q18] at r20
     refine zGc r20 (by simp) rfl ?_
     simp[q17,q18]
    refine zDg<|zBS ?_ hs
    have q19:Rng .i64 (((i3:Nat):Int)+1):=by simp only[Rng,inR];omega
    try simp at q19
    refine last 22 0 [(2,pT 1),(3,pT 2),(7,.sl (k1.L.map zLb.c)),(8,iI k1.L.length),(9,iI ((i3+1:Nat):Int))] [[.sl (k1.L.map zLb.c)],zz1,[.osl ⟨1,27⟩ (l15.map zLb.c)]] (st (by simp[q19])) fun zz hs=>?_
    exact⟨(k7,l15,i3+1),hs,l5,by simp⟩
   have c21:=ltF g8
   refine zCe 7 rfl fun f22=>?_
   rw[zq4] at f22
   refine zAp<|zAH ?_
   have q23:=zqa l5
   have q23:=q23.symm
   refine zAH<|zAt<|zBS (t:=mkS 22 0 [(2,pT 1),(3,pT 2)] [[.sl (k1.L.map zLb.c)],zz1,[.osl ⟨1,27⟩ (o4.map zLb.c)]]) ?_ (zA1 (by simp[q23]))
   refine cutA 22 0 [(2,pT 1)] [[.sl (k1.L.map zLb.c)],[.sl (o4.map zLb.c)],[.osl ⟨1,27⟩ (o4.map zLb.c)]]<|zAB ?_
   cases h
   simp
theorem zJb(fuel:Nat):(∀(c1:zLd)(r:zLd)(_:zB9 fuel c1=some r),Pure Tryz.prog 59 [.agg (zLd.d c1)] (.agg (zLd.d r))):=by
 induction fuel with
 |zero=>intro c1 r h;rw[zB9] at h;cases h
 |succ fuel zJn=>
  intro c1 r h
  rw[zB9] at h
  refine zAE Tryz.func59 (by rfl) (by rfl) (by simp) (by simp) (by simp)<|cutA 32 0 [(1,pT 0),(2,pT 1)] [(zLd.d c1),zz0]<|cutA 32 0 [(1,pT 0),(2,pT 1),(3,pT 2)] [(zLd.d c1),zz0,(zLd.d c1)] ?_
  obtain⟨v2,q3,h⟩:=bs h
  refine cut 32 0 [(1,pT 0),(2,pT 1),(3,pT 2)] [(zLd.d c1),zz0,[iI c1.Op,iI c1.N,.str c1.S,.sl (v2.L.map zLb.c),.sl (c1.Names.map cS),.sl (c1.L.map zLd.c)]] ?_ ?_
  ·refine st ?_
   simp
   have r29:=zHq fuel c1.Kind v2 q3
   try simp at r29
   refine zAA r29 (by simp) rfl ?_
   simp
  obtain⟨v4,q5,h⟩:=bs h
  refine cut 32 0 [(1,pT 0),(2,pT 1),(3,pT 2)] [(zLd.d c1),zz0,[iI c1.Op,iI c1.N,.str c1.S,.sl (v2.L.map zLb.c),.sl (v4.map cS),.sl (c1.L.map zLd.c)]] ?_ ?_
  ·refine st ?_
   simp
   have r28:=zCV c1.Names v4 q5
   try simp at r28
   refine zAA r28 (by simp) rfl ?_
   simp
  refine cutA 32 0 [(1,pT 0),(2,pT 1),(3,pT 2)] [(zLd.d c1),zz0,[iI c1.Op,iI c1.N,.str c1.S,.sl (v2.L.map zLb.c),.sl (v4.map cS),.osl ⟨6,31⟩ (([]:List zLd).map zLd.c)]]<|zAC<|cutA 32 0 [(2,pT 1),(3,pT 2),(17,.sl (c1.L.map zLd.c)),(18,iI c1.L.length),(19,iI 0)] [(zLd.d c1),zz0,[iI c1.Op,iI c1.N,.str c1.S,.sl (v2.L.map zLb.c),.sl (v4.map cS),.osl ⟨6,31⟩ (([]:List zLd).map zLd.c)]]<|zAG ?_
  obtain⟨o8,l9,h⟩:=bs h
  refine zBR (fun p:Nat×(List zLd)×Nat=>mkS 32 0 [(2,pT 1),(3,pT 2),(17,.sl (c1.L.map zLd.c)),(18,iI c1.L.length),(19,iI p.2.2)] [(zLd.d c1),zz0,[iI c1.Op,iI c1.N,.str c1.S,.sl (v2.L.map zLb.c),.sl (v4.map cS),.osl ⟨6,31⟩ (p.2.1.map zLd.c)]]) (fun p=>zCO (zB9 fuel) c1 p.1 p.2.1 p.2.2=some o8) (fun p=>p.1) (fuel,([]:List zLd),0) l9 (zA1 (by simp)) ?_
  rintro⟨k10,L6,i7⟩ l9
  try dsimp only at l9 ⊢
  cases k10 with
  |zero=>
   rw[zCO] at l9;cases l9
  |succ k11=>
   rw[zCO] at l9
   refine cutA 32 0 [(2,pT 1),(3,pT 2),(17,.sl (c1.L.map zLd.c)),(18,iI c1.L.length),(19,iI i7),(20,.bool (ltI ((i7:Nat):Int) (c1.L.length:Int)))] [(zLd.d c1),zz0,[iI c1.Op,iI c1.N,.str c1.S,.sl (v2.L.map zLb.c),.sl (v4.map cS),.osl ⟨6,31⟩ (L6.map zLd.c)]]<|zAC<|spc l9 rfl (fun g12 l9=>?_) fun g12 l9=>?_
   ·have c13:=ltT g12
    refine zCe 17 rfl fun f14=>?_
    rw[zq4] at f14
    refine zAD<|zAK<|zAC<|zAG ?_
    obtain⟨x15,q16,l9⟩:=bs l9
    refine cut 32 0 [(2,pT 1),(3,pT 2),(5,pT 3),(17,.sl (c1.L.map zLd.c)),(18,iI c1.L.length),(19,iI i7)] [(zLd.d c1),zz0,[iI c1.Op,iI c1.N,.str c1.S,.sl (v2.L.map zLb.c),.sl (v4.map cS),.osl ⟨6,31⟩ (L6.map zLd.c)],(zLd.d x15)] (st (by simp[q16])) ?_
    obtain⟨v17,q18,l9⟩:=bs l9
    obtain⟨l19,q20,l9⟩:=bs l9
    obtain⟨q21,q22⟩:=zHG q20
    try simp at q21
    refine last 32 0 [(2,pT 1),(3,pT 2),(17,.sl (c1.L.map zLd.c)),(18,iI c1.L.length),(19,iI i7)] [(zLd.d c1),zz0,[iI c1.Op,iI c1.N,.str c1.S,.sl (v2.L.map zLb.c),.sl (v4.map cS),.osl ⟨6,31⟩ (l19.map zLd.c)],(zLd.d x15)] ?_ fun zz hs=>?_
    ·refine zAN [] mixed (n:=32) rfl (by decide) ?_
     simp[q21,q22]
     have r24:=zJn x15 v17 q18
     try simp[q21,q22] at r24
     refine zGc r24 (by simp) rfl ?_
     simp[q21,q22]
    refine zDg<|zBS ?_ hs
    have q23:Rng .i64 (((i7:Nat):Int)+1):=by simp only[Rng,inR];omega
    try simp at q23
    refine last 32 0 [(2,pT 1),(3,pT 2),(17,.sl (c1.L.map zLd.c)),(18,iI c1.L.length),(19,iI ((i7+1:Nat):Int))] [(zLd.d c1),zz0,[iI c1.Op,iI c1.N,.str c1.S,.sl (v2.L.map zLb.c),.sl (v4.map cS),.osl ⟨6,31⟩ (l19.map zLd.c)]] (st (by simp[q23])) fun zz hs=>?_
    exact⟨(k11,l19,i7+1),hs,l9,by simp⟩
   have c25:=ltF g12
   refine zCe 17 rfl fun f26=>?_
   rw[zq4] at f26
   refine zAp<|zAH ?_
   have q27:=zqa l9
   have q27:=q27.symm
   refine zAH<|zAt<|zBS (t:=mkS 32 0 [(2,pT 1),(3,pT 2)] [(zLd.d c1),zz0,[iI c1.Op,iI c1.N,.str c1.S,.sl (v2.L.map zLb.c),.sl (v4.map cS),.osl ⟨6,31⟩ (o8.map zLd.c)]]) ?_ (zA1 (by simp[q27]))
   refine cutA 32 0 [(2,pT 1)] [(zLd.d c1),[iI c1.Op,iI c1.N,.str c1.S,.sl (v2.L.map zLb.c),.sl (v4.map cS),.sl (o8.map zLd.c)],[iI c1.Op,iI c1.N,.str c1.S,.sl (v2.L.map zLb.c),.sl (v4.map cS),.osl ⟨6,31⟩ (o8.map zLd.c)]]<|zAB ?_
   cases h
   simp
theorem zFc(fuel:Nat)(c1:zLd)(r:zLd×Int)(h:zDJ fuel c1=some r):Pure Tryz.prog 30 [.agg (zLd.d c1)] (.tup [.agg (zLd.d r.1),iI r.2]):=by
 rw[zDJ] at h
 refine zAE Tryz.func30 (by rfl) (by rfl) (by simp) (by simp) (by simp)<|cutA 20 0 [(1,pT 0),(2,pT 1)] [(zLd.d c1),zz0]<|zAC ?_
 obtain⟨v2,q3,h⟩:=bs h
 refine cut 20 0 [(1,pT 0),(2,pT 1),(8,.bool (!v2))] [(zLd.d c1),zz0] ?_ ?_
 ·refine st ?_
  simp
  have r16:=zCR fuel c1 v2 q3
  try simp at r16
  refine zAA r16 (by simp) rfl ?_
  simp
 refine spc h rfl (fun g4 h=>?_) fun g4 h=>?_
 ·have g5:=notT g4
  refine cutA 20 0 [(2,pT 1),(3,iI 1)] [(zLd.d c1),zz0]<|zAB<|zAF ?_
  cases h
  simp
 have g6:=notF g4
 refine zAD<|zAK ?_
 obtain⟨v7,q8,h⟩:=bs h
 refine cut 20 0 [(2,pT 1),(4,pT 2),(5,.bool v7.2)] [(zLd.d c1),zz0,(zLd.d v7.1)] ?_ ?_
 ·refine st ?_
  simp
  have r15:=zK7 fuel c1 v7 q8
  try simp at r15
  refine zAA r15 (by simp) rfl ?_
  simp
 refine zAC<|cutA 20 0 [(2,pT 1),(4,pT 2),(16,.bool (!v7.2))] [(zLd.d c1),zz0,(zLd.d v7.1)]<|spc h rfl (fun g9 h=>?_) fun g9 h=>?_
 ·have g10:=notT g9
  refine cutA 20 0 [(2,pT 1),(3,iI 27)] [(zLd.d c1),zz0,(zLd.d v7.1)]<|zAB<|zAF ?_
  cases h
  simp
 have g11:=notF g9
 refine zAD<|zAK ?_
 obtain⟨v12,q13,h⟩:=bs h
 refine cut 20 0 [(2,pT 1),(3,iI 0)] [(zLd.d c1),(zLd.d v12),(zLd.d v7.1)] ?_ ?_
 ·refine st ?_
  simp
  have r14:=zJb fuel v7.1 v12 q13
  try simp at r14
  refine zAA r14 (by simp) rfl ?_
  simp
 refine zAB ?_
 cases h
 simp
theorem zFu(fuel:Nat)(l1:(List (List UInt8)))(n2:Int)(r:Bool)(h:zB7 fuel l1 n2=some r):Pure Tryz.prog 61 [.sl (l1.map cS),iI n2] (.bool r):=by
 rw[zB7] at h
 refine zAE Tryz.func61 (by rfl) (by rfl) (by simp) (by simp) (by simp)<|cutA 24 0 [(0,.sl (l1.map cS)),(1,iI n2)] []<|zAC<|cutA 24 0 [(0,.sl (l1.map cS)),(10,.bool (!(eqI (l1.length:Int) n2)))] [] ?_
 rcases sp h with ⟨g3,h⟩|⟨g3,h⟩
 ·have g4:=notT g3
  have c5:=eqF g4
  refine zD5 rfl g3<|cutA 24 0 [(4,.bool false)] []<|zAB<|zAF ?_
  cases h
  simp
 have g6:=notF g3
 have c7:=eqT g6
 refine zEK rfl g3<|zAD<|zAK<|zAC<|cutA 24 0 [(11,.sl (l1.map cS)),(12,iI l1.length),(13,iI 0)] []<|zAG ?_
 obtain⟨o10,l11,h⟩:=bs h
 refine zBR (fun p:Nat×Nat=>mkS 24 0 [(11,.sl (l1.map cS)),(12,iI l1.length),(13,iI p.2)] []) (fun p=>zBD l1 p.1 p.2=some o10) (fun p=>p.1) (fuel,0) l11 (zA1 (by simp)) ?_
 rintro⟨k12,i8⟩ l11
 try dsimp only at l11 ⊢
 cases k12 with
 |zero=>
  rw[zBD] at l11;cases l11
 |succ k13=>
  rw[zBD] at l11
  refine cutA 24 0 [(11,.sl (l1.map cS)),(12,iI l1.length),(13,iI i8),(14,.bool (ltI ((i8:Nat):Int) (l1.length:Int)))] []<|zAC<|spc l11 rfl (fun g14 l11=>?_) fun g14 l11=>?_
  ·have c15:=ltT g14
   refine zCe 11 rfl fun f16=>?_
   rw[zq4] at f16
   refine zAD<|zAK<|zAC<|zAG ?_
   obtain⟨x17,q18,l11⟩:=bs l11
   refine cut 24 0 [(5,iI i8),(6,.str x17),(11,.sl (l1.map cS)),(12,iI l1.length),(13,iI i8)] [] (st (by simp[q18])) ?_
   have q19:Rng .i64 (((i8:Nat):Int)+1):=by simp only[Rng,inR];omega
   try simp at q19
   obtain⟨v20,q21,l11⟩:=bs l11
   refine cut 24 0 [(11,.sl (l1.map cS)),(12,iI l1.length),(13,iI i8),(22,.bool (!(eqS x17 v20)))] [] ?_ ?_
   ·refine st ?_
    simp[q19]
    have r26:=zHa ((i8+1:Nat):Int) v20 q21
    try simp[q19] at r26
    refine zAA r26 (by simp) rfl ?_
    simp[q19]
   refine spc l11 rfl (fun g22 l11=>?_) fun g22 l11=>?_
   ·have g23:=notT g22
    refine cutA 24 0 [(4,.bool false)] []<|zAB<|zAQ<|zAF ?_
    replace h:=retL l11 h
    refine zAF<|zAQ<|zAF ?_
    cases h
    simp
   have g24:=notF g22
   refine zAD<|zDg<|zAK ?_
   have q25:Rng .i64 (((i8:Nat):Int)+1):=by simp only[Rng,inR];omega
   try simp at q25
   refine last 24 0 [(11,.sl (l1.map cS)),(12,iI l1.length),(13,iI ((i8+1:Nat):Int))] [] (st (by simp[q25])) fun zz hs=>?_
   exact⟨(k13,i8+1),hs,l11,by simp⟩
  have c27:=ltF g14
  refine zCe 11 rfl fun f28=>?_
  rw[zq4] at f28
  refine zAp<|zAH ?_
  rcases o10 with o10|o9
  ·cases l11
  have q29:=Sum.inr.inj (zqa l11)
  replace h:=zIl h
  refine zAH<|zAt<|zBS (t:=mkS 24 0 [] []) ?_ (zA1 (by simp))
  refine cutA 24 0 [(4,.bool true)] []<|zAB ?_
  cases h
  simp
theorem zIp(fuel:Nat)(c1:zLd)(binders2:Int)(r:zLd)(h:zEl fuel c1 binders2=some r):Pure Tryz.prog 215 [.agg (zLd.d c1),iI binders2] (.agg (zLd.d r)):=by
 rw[zEl] at h
 refine zAE Tryz.func215 (by rfl) (by rfl) (by simp) (by simp) (by simp)<|cutA 7 0 [(2,pT 0),(4,pT 1)] [(zLd.d c1),zz0] ?_
 obtain⟨v3,q4,h⟩:=bs h
 refine cut 7 0 [(4,pT 1)] [(zLd.d c1),(zLd.d v3)] ?_ ?_
 ·refine st ?_
  simp
  have r5:=zF4 fuel c1 v3 q4
  try simp at r5
  refine zAA r5 (by simp) rfl ?_
  simp
 refine zAB ?_
 cases h
 simp
theorem zF9(fuel:Nat):(∀(c1:zLd)(binders2:Int)(c3:Int)(r:zLd×Int)(_:zAV fuel c1 binders2 c3=some r),Raw Tryz.prog 148 [pT 0,.agg (zLd.d c1),iI binders2] [[.fn (.func 215) [] [],iI c3]] (.agg (zLd.d r.1)) [[.fn (.func 215) [] [],iI r.2]]):=by
 induction fuel with
 |zero=>intro c1 binders2 c3 r h;rw[zAV] at h;cases h
 |succ fuel zEQ=>
  intro c1 binders2 c3 r h
  rw[zAV] at h
  refine zAw Tryz.func148 (by rfl) (by rfl) (by simp) (by simp)<|cutA 87 1 [(0,pT 0),(2,iI binders2),(4,pT 1),(6,pT 2)] [[.fn (.func 215) [] [],iI c3],(zLd.d c1),zz0]<|zAC<|cutA 87 1 [(0,pT 0),(2,iI binders2),(4,pT 1),(6,pT 2),(15,.bool (leI c3 0))] [[.fn (.func 215) [] [],iI c3],(zLd.d c1),zz0]<|spc h rfl (fun g4 h=>?_) fun g4 h=>?_
  ·refine cutA 87 1 [(6,pT 2)] [[.fn (.func 215) [] [],iI (-1)],(zLd.d c1),zz0]<|cutA 87 1 [(6,pT 2)] [[.fn (.func 215) [] [],iI (-1)],(zLd.d c1),zz0]<|zAB<|zAF ?_
   cases h
   simp
  refine zAD<|zAK<|zAC<|cut 87 1 [(0,pT 0),(2,iI binders2),(4,pT 1),(6,pT 2),(27,.bool ((eqI c1.Op 1)||(eqI c1.Op 2)))] [[.fn (.func 215) [] [],iI c3],(zLd.d c1),zz0] ?_ ?_
  ·rcases tf (eqI c1.Op 1) with g7|g7
   ·refine st ?_
    simp[g7]
   refine st ?_
   simp[g7]
  rcases sp h with ⟨g10,h⟩|⟨g10,h⟩
  ·refine zD5 rfl g10 ?_
   obtain⟨v11,q12,h⟩:=bs h
   refine cut 87 1 [(0,pT 0),(6,pT 2),(7,pT 3)] [[.fn (.func 215) [] [],iI c3],(zLd.d c1),zz0,(zLd.d v11)] ?_ ?_
   ·refine zAN [] mixed (n:=87) rfl (by decide) ?_
    simp
    have r21:=zIp fuel c1 binders2 v11 q12
    refine zGc r21 (by simp) rfl ?_
    simp
   obtain⟨v13,q14,h⟩:=bs h
   obtain⟨n15,q16,h⟩:=bs h
   obtain⟨q17,q18⟩:=zC9 q16
   have c19:=q17;simp only[Rng,inR] at c19
   refine cut 87 1 [(6,pT 2),(7,pT 3)] [[.fn (.func 215) [] [],iI n15],(zLd.d c1),zz0,(zLd.d v11)] ?_ ?_
   ·refine zAN [] mixed (n:=87) rfl (by decide) ?_
    simp[q17,q18]
    have r20:=zEO fuel v11 v13 q14
    refine zGc r20 (by simp) rfl ?_
    simp[q17,q18]
   refine cutA 87 1 [(6,pT 2)] [[.fn (.func 215) [] [],iI n15],(zLd.d c1),(zLd.d v11),(zLd.d v11)]<|zAB<|zAF ?_
   cases h
   simp
  obtain⟨g22,g23⟩:=orF g10
  refine zEK rfl g10<|zAD<|zAK ?_
  obtain⟨n26,q27,h⟩:=bs h
  obtain⟨q28,q29⟩:=zC9 q27
  have c30:=q28;simp only[Rng,inR] at c30
  refine cut 87 1 [(0,pT 0),(2,iI binders2),(4,pT 1),(6,pT 2)] [[.fn (.func 215) [] [],iI n26],(zLd.d c1),zz0] (st (by simp[q28,q29])) ?_
  obtain⟨v31,q32,h⟩:=bs h
  obtain⟨v33,q34,h⟩:=bs h
  refine cut 87 1 [(0,pT 0),(2,iI binders2),(4,pT 1),(6,pT 2),(8,pT 3)] [[.fn (.func 215) [] [],iI n26],(zLd.d c1),zz0,[iI c1.Op,iI c1.N,.str c1.S,.sl (v31.L.map zLb.c),.sl (v33.map cS),.osl ⟨6,31⟩ (([]:List zLd).map zLd.c)]] ?_ ?_
  ·refine zAN [] mixed (n:=87) rfl (by decide) ?_
   simp
   have r94:=zE7 fuel c1.Kind v31 q32
   refine zGc r94 (by simp) rfl ?_
   simp
   have r95:=zCV c1.Names v33 q34
   refine zGc r95 (by simp) rfl ?_
   simp
  refine zAC ?_
  obtain⟨v35,q36,h⟩:=bs h
  refine cut 87 1 [(0,pT 0),(2,iI binders2),(4,pT 1),(6,pT 2),(8,pT 3),(66,.bool v35)] [[.fn (.func 215) [] [],iI n26],(zLd.d c1),zz0,[iI c1.Op,iI c1.N,.str c1.S,.sl (v31.L.map zLb.c),.sl (v33.map cS),.osl ⟨6,31⟩ (([]:List zLd).map zLd.c)]] ?_ ?_
  ·refine st ?_
   simp
   have r93:=zBs c1 v35 q36
   refine zAA r93 (by simp) rfl ?_
   simp
  refine spc h rfl (fun g37 h=>?_) fun g37 h=>?_
  ·obtain⟨n38,q39,h⟩:=bs h
   obtain⟨q40,q41⟩:=zC9 q39
   try simp at q41
   have c42:=q40;simp only[Rng,inR] at c42
   refine last 87 1 [(0,pT 0),(2,iI n38),(4,pT 1),(6,pT 2),(8,pT 3)] [[.fn (.func 215) [] [],iI n26],(zLd.d c1),zz0,[iI c1.Op,iI c1.N,.str c1.S,.sl (v31.L.map zLb.c),.sl (v33.map cS),.osl ⟨6,31⟩ (([]:List zLd).map zLd.c)]] (st (by simp[q40,q41])) fun zz hs=>?_
   refine zBS ?_ hs
   refine zAC<|cutA 87 1 [(0,pT 0),(2,iI n38),(6,pT 2),(8,pT 3),(70,.sl (c1.L.map zLd.c)),(71,iI c1.L.length),(72,iI 0)] [[.fn (.func 215) [] [],iI n26],(zLd.d c1),zz0,[iI c1.Op,iI c1.N,.str c1.S,.sl (v31.L.map zLb.c),.sl (v33.map cS),.osl ⟨6,31⟩ (([]:List zLd).map zLd.c)]]<|zAG ?_
   obtain⟨o46,l47,h⟩:=bs h
   refine zBR (fun p:Nat×Int×(List zLd)×Nat=>mkS 87 1 [(0,pT 0),(2,iI n38),(6,pT 2),(8,pT 3),(70,.sl (c1.L.map zLd.c)),(71,iI c1.L.length),(72,iI p.2.2.2)] [[.fn (.func 215) [] [],iI p.2.1],(zLd.d c1),zz0,[iI c1.Op,iI c1.N,.str c1.S,.sl (v31.L.map zLb.c),.sl (v33.map cS),.osl ⟨6,31⟩ (p.2.2.1.map zLd.c)]]) (fun p=>zBH (zAV fuel) c1 n38 p.1 p.2.1 p.2.2.1 p.2.2.2=some o46) (fun p=>p.1) (fuel,n26,([]:List zLd),0) l47 (zA1 (by simp)) ?_
   rintro⟨k48,left43,L44,i45⟩ l47
   try dsimp only at l47 ⊢
   cases k48 with
   |zero=>
    rw[zBH] at l47;cases l47
   |succ k49=>
    rw[zBH] at l47
    refine cutA 87 1 [(0,pT 0),(2,iI n38),(6,pT 2),(8,pT 3),(70,.sl (c1.L.map zLd.c)),(71,iI c1.L.length),(72,iI i45),(73,.bool (ltI ((i45:Nat):Int) (c1.L.length:Int)))] [[.fn (.func 215) [] [],iI left43],(zLd.d c1),zz0,[iI c1.Op,iI c1.N,.str c1.S,.sl (v31.L.map zLb.c),.sl (v33.map cS),.osl ⟨6,31⟩ (L44.map zLd.c)]]<|zAC<|spc l47 rfl (fun g50 l47=>?_) fun g50 l47=>?_
    ·have c51:=ltT g50
     refine zCe 70 rfl fun f52=>?_
     rw[zq4] at f52
     refine zAD<|zAK<|zAC<|zAG ?_
     obtain⟨x53,q54,l47⟩:=bs l47
     refine cut 87 1 [(0,pT 0),(2,iI n38),(6,pT 2),(8,pT 3),(10,pT 4),(70,.sl (c1.L.map zLd.c)),(71,iI c1.L.length),(72,iI i45)] [[.fn (.func 215) [] [],iI left43],(zLd.d c1),zz0,[iI c1.Op,iI c1.N,.str c1.S,.sl (v31.L.map zLb.c),.sl (v33.map cS),.osl ⟨6,31⟩ (L44.map zLd.c)],(zLd.d x53)] (st (by simp[q54])) ?_
     obtain⟨v55,q56,l47⟩:=bs l47
     obtain⟨l57,q58,l47⟩:=bs l47
     obtain⟨q59,q60⟩:=zHG q58
     try simp at q59
     refine last 87 1 [(0,pT 0),(2,iI n38),(6,pT 2),(8,pT 3),(70,.sl (c1.L.map zLd.c)),(71,iI c1.L.length),(72,iI i45)] [[.fn (.func 215) [] [],iI v55.2],(zLd.d c1),zz0,[iI c1.Op,iI c1.N,.str c1.S,.sl (v31.L.map zLb.c),.sl (v33.map cS),.osl ⟨6,31⟩ (l57.map zLd.c)],(zLd.d x53)] ?_ fun zz hs=>?_
     ·refine zAc [0,996] [7,9] mixed (n:=87) rfl (by decide) (by decide) ?_
      simp[q59,q60]
      have r62:=(zEQ x53 n38 left43 v55 q56).frameZ [0] [[.fn (.func 215) [] [],iI left43],(zLd.d c1),zz0,[iI c1.Op,iI c1.N,.str c1.S,.sl (v31.L.map zLb.c),.sl (v33.map cS),.osl ⟨6,31⟩ (L44.map zLd.c)],(zLd.d x53)] (by simp) rfl (by simp) (by simp)
      try simp[q59,q60] at r62
      refine zKK r62 (by simp[q59,q60]) rfl (by decide) ?_
      simp[q59,q60]
     refine zDg<|zBS ?_ hs
     have q61:Rng .i64 (((i45:Nat):Int)+1):=by simp only[Rng,inR];omega
     try simp at q61
     refine last 87 1 [(0,pT 0),(2,iI n38),(6,pT 2),(8,pT 3),(70,.sl (c1.L.map zLd.c)),(71,iI c1.L.length),(72,iI ((i45+1:Nat):Int))] [[.fn (.func 215) [] [],iI v55.2],(zLd.d c1),zz0,[iI c1.Op,iI c1.N,.str c1.S,.sl (v31.L.map zLb.c),.sl (v33.map cS),.osl ⟨6,31⟩ (l57.map zLd.c)]] (st (by simp[q61])) fun zz hs=>?_
     exact⟨(k49,v55.2,l57,i45+1),hs,l47,by simp⟩
    have c63:=ltF g50
    refine zCe 70 rfl fun f64=>?_
    rw[zq4] at f64
    refine zAp<|zAH ?_
    have q65:=zqa l47
    have q66:o46.1=left43:=by rw[<-q65]
    have q67:o46.2=L44:=by rw[<-q65]
    refine zAH<|zAt<|zBS (t:=mkS 87 1 [(6,pT 2),(8,pT 3)] [[.fn (.func 215) [] [],iI o46.1],(zLd.d c1),zz0,[iI c1.Op,iI c1.N,.str c1.S,.sl (v31.L.map zLb.c),.sl (v33.map cS),.osl ⟨6,31⟩ (o46.2.map zLd.c)]]) ?_ (zA1 (by simp[q66,q67]))
    refine cutA 87 1 [(6,pT 2)] [[.fn (.func 215) [] [],iI o46.1],(zLd.d c1),[iI c1.Op,iI c1.N,.str c1.S,.sl (v31.L.map zLb.c),.sl (v33.map cS),.sl (o46.2.map zLd.c)],[iI c1.Op,iI c1.N,.str c1.S,.sl (v31.L.map zLb.c),.sl (v33.map cS),.osl ⟨6,31⟩ (o46.2.map zLd.c)]]<|zAB ?_
    cases h
    simp
  refine zAD<|zAK<|zAC<|cutA 87 1 [(0,pT 0),(2,iI binders2),(6,pT 2),(8,pT 3),(70,.sl (c1.L.map zLd.c)),(71,iI c1.L.length),(72,iI 0)] [[.fn (.func 215) [] [],iI n26],(zLd.d c1),zz0,[iI c1.Op,iI c1.N,.str c1.S,.sl (v31.L.map zLb.c),.sl (v33.map cS),.osl ⟨6,31⟩ (([]:List zLd).map zLd.c)]]<|zAG ?_
  obtain⟨o71,l72,h⟩:=bs h
  refine zBR (fun p:Nat×Int×(List zLd)×Nat=>mkS 87 1 [(0,pT 0),(2,iI binders2),(6,pT 2),(8,pT 3),(70,.sl (c1.L.map zLd.c)),(71,iI c1.L.length),(72,iI p.2.2.2)] [[.fn (.func 215) [] [],iI p.2.1],(zLd.d c1),zz0,[iI c1.Op,iI c1.N,.str c1.S,.sl (v31.L.map zLb.c),.sl (v33.map cS),.osl ⟨6,31⟩ (p.2.2.1.map zLd.c)]]) (fun p=>zBG (zAV fuel) c1 binders2 p.1 p.2.1 p.2.2.1 p.2.2.2=some o71) (fun p=>p.1) (fuel,n26,([]:List zLd),0) l72 (zA1 (by simp)) ?_
  rintro⟨k73,left68,L69,i70⟩ l72
  try dsimp only at l72 ⊢
  cases k73 with
  |zero=>
   rw[zBG] at l72;cases l72
  |succ k74=>
   rw[zBG] at l72
   refine cutA 87 1 [(0,pT 0),(2,iI binders2),(6,pT 2),(8,pT 3),(70,.sl (c1.L.map zLd.c)),(71,iI c1.L.length),(72,iI i70),(73,.bool (ltI ((i70:Nat):Int) (c1.L.length:Int)))] [[.fn (.func 215) [] [],iI left68],(zLd.d c1),zz0,[iI c1.Op,iI c1.N,.str c1.S,.sl (v31.L.map zLb.c),.sl (v33.map cS),.osl ⟨6,31⟩ (L69.map zLd.c)]]<|zAC<|spc l72 rfl (fun g75 l72=>?_) fun g75 l72=>?_
   ·have c76:=ltT g75
    refine zCe 70 rfl fun f77=>?_
    rw[zq4] at f77
    refine zAD<|zAK<|zAC<|zAG ?_
    obtain⟨x78,q79,l72⟩:=bs l72
    refine cut 87 1 [(0,pT 0),(2,iI binders2),(6,pT 2),(8,pT 3),(10,pT 4),(70,.sl (c1.L.map zLd.c)),(71,iI c1.L.length),(72,iI i70)] [[.fn (.func 215) [] [],iI left68],(zLd.d c1),zz0,[iI c1.Op,iI c1.N,.str c1.S,.sl (v31.L.map zLb.c),.sl (v33.map cS),.osl ⟨6,31⟩ (L69.map zLd.c)],(zLd.d x78)] (st (by simp[q79])) ?_
    obtain⟨v80,q81,l72⟩:=bs l72
    obtain⟨l82,q83,l72⟩:=bs l72
    obtain⟨q84,q85⟩:=zHG q83
    try simp at q84
    refine last 87 1 [(0,pT 0),(2,iI binders2),(6,pT 2),(8,pT 3),(70,.sl (c1.L.map zLd.c)),(71,iI c1.L.length),(72,iI i70)] [[.fn (.func 215) [] [],iI v80.2],(zLd.d c1),zz0,[iI c1.Op,iI c1.N,.str c1.S,.sl (v31.L.map zLb.c),.sl (v33.map cS),.osl ⟨6,31⟩ (l82.map zLd.c)],(zLd.d x78)] ?_ fun zz hs=>?_
    ·refine zAc [0,996] [7,9] mixed (n:=87) rfl (by decide) (by decide) ?_
     simp[q84,q85]
     have r87:=(zEQ x78 binders2 left68 v80 q81).frameZ [0] [[.fn (.func 215) [] [],iI left68],(zLd.d c1),zz0,[iI c1.Op,iI c1.N,.str c1.S,.sl (v31.L.map zLb.c),.sl (v33.map cS),.osl ⟨6,31⟩ (L69.map zLd.c)],(zLd.d x78)] (by simp) rfl (by simp) (by simp)
     try simp[q84,q85] at r87
     refine zKK r87 (by simp[q84,q85]) rfl (by decide) ?_
     simp[q84,q85]
    refine zDg<|zBS ?_ hs
    have q86:Rng .i64 (((i70:Nat):Int)+1):=by simp only[Rng,inR];omega
    try simp at q86
    refine last 87 1 [(0,pT 0),(2,iI binders2),(6,pT 2),(8,pT 3),(70,.sl (c1.L.map zLd.c)),(71,iI c1.L.length),(72,iI ((i70+1:Nat):Int))] [[.fn (.func 215) [] [],iI v80.2],(zLd.d c1),zz0,[iI c1.Op,iI c1.N,.str c1.S,.sl (v31.L.map zLb.c),.sl (v33.map cS),.osl ⟨6,31⟩ (l82.map zLd.c)]] (st (by simp[q86])) fun zz hs=>?_
    exact⟨(k74,v80.2,l82,i70+1),hs,l72,by simp⟩
   have c88:=ltF g75
   refine zCe 70 rfl fun f89=>?_
   rw[zq4] at f89
   refine zAp<|zAH ?_
   have q90:=zqa l72
   have q91:o71.1=left68:=by rw[<-q90]
   have q92:o71.2=L69:=by rw[<-q90]
   refine zAH<|zAt<|zBS (t:=mkS 87 1 [(6,pT 2),(8,pT 3)] [[.fn (.func 215) [] [],iI o71.1],(zLd.d c1),zz0,[iI c1.Op,iI c1.N,.str c1.S,.sl (v31.L.map zLb.c),.sl (v33.map cS),.osl ⟨6,31⟩ (o71.2.map zLd.c)]]) ?_ (zA1 (by simp[q91,q92]))
   refine cutA 87 1 [(6,pT 2)] [[.fn (.func 215) [] [],iI o71.1],(zLd.d c1),[iI c1.Op,iI c1.N,.str c1.S,.sl (v31.L.map zLb.c),.sl (v33.map cS),.sl (o71.2.map zLd.c)],[iI c1.Op,iI c1.N,.str c1.S,.sl (v31.L.map zLb.c),.sl (v33.map cS),.osl ⟨6,31⟩ (o71.2.map zLd.c)]]<|zAB ?_
   cases h
   simp
theorem zJ5(fuel:Nat)(c1:zLd)(r:zLd)(h:zCq fuel c1=some r):Pure Tryz.prog 184 [.agg (zLd.d c1)] (.agg (zLd.d r)):=by
 rw[zCq] at h
 refine zAE Tryz.func184 (by rfl) (by rfl) (by simp) (by simp) (by simp)<|cutA 9 0 [(1,pT 0),(2,pT 1)] [(zLd.d c1),zz0]<|cutA 9 0 [(1,pT 0),(2,pT 1),(3,pT 2)] [(zLd.d c1),zz0,[.fn (.func 215) [] [],iI 20000]] ?_
 obtain⟨v2,q3,h⟩:=bs h
 refine cut 9 0 [(2,pT 1)] [(zLd.d c1),(zLd.d v2.1),[.fn (.func 215) [] [],iI v2.2]] ?_ ?_
 ·refine st ?_
  simp
  have r4:=(zF9 fuel c1 0 20000 v2 q3).frame [2] [(zLd.d c1),zz0,[.fn (.func 215) [] [],iI 20000]] (by simp)
  try simp at r4
  refine zBK r4 (by simp) rfl ?_
  simp
 refine zAB ?_
 cases h
 simp
end Go.Proofs.YtencdekdgajgfaaGreatDoor

