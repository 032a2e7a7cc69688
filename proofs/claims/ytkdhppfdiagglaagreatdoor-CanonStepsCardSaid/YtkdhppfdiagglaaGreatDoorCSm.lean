/- CanonSteps holds: for every input the law returns true. No condition. Part 13 of 19. No condition. -/
import Derived.Test.YtkdhppfdiagglaaGreatDoorCSl
set_option linter.unusedVariables false
set_option linter.unnecessarySimpa false
set_option linter.unusedSimpArgs false
set_option maxRecDepth 100000
set_option maxHeartbeats 4000000
namespace Go.Proofs.YtkdhppfdiagglaaGreatDoor
open Go Go.Abs
theorem kind_equal_ok(fuel:Nat):(∀(a1:zMY)(b2:zMY)(r:Bool)(_:zDQ fuel a1 b2=some r),Pure Tryz.prog 79 [.agg [.sl (a1.L.map zMY.c)],.agg [.sl (b2.L.map zMY.c)]] (.bool r)):=by
 induction fuel with
 |zero=>intro a1 b2 r h;rw[zDQ] at h;cases h
 |succ fuel ih_kind_equal=>
  intro a1 b2 r h
  rw[zDQ] at h
  refine zAA Tryz.func79 (by rfl) (by rfl) (by simp) (by simp) (by simp)<|cutA 32 0 [(2,pT 0),(3,pT 1)] [[.sl (a1.L.map zMY.c)],[.sl (b2.L.map zMY.c)]]<|zAD<|cutA 32 0 [(2,pT 0),(3,pT 1),(12,.bool (!(eqI a1.L.length b2.L.length)))] [[.sl (a1.L.map zMY.c)],[.sl (b2.L.map zMY.c)]] ?_
  rcases sp h with ⟨g3,h⟩|⟨g3,h⟩
  ·have g4:=notT g3
   have c5:=eqF g4
   refine zEk rfl g3<|cutA 32 0 [(4,.bool false)] [[.sl (a1.L.map zMY.c)],[.sl (b2.L.map zMY.c)]]<|zAB<|zAE ?_
   obtain rfl:=oi h
   simp
  have g6:=notF g3
  have c7:=eqT g6
  refine zEc rfl g3<|zAC<|zAH<|zAD<|cutA 32 0 [(2,pT 0),(3,pT 1),(15,iI a1.L.length),(16,iI 0)] [[.sl (a1.L.map zMY.c)],[.sl (b2.L.map zMY.c)]]<|zAF ?_
  obtain⟨o10,l11,h⟩:=bs h
  refine zAm (fun p:Nat×Nat=>mkS 32 0 [(2,pT 0),(3,pT 1),(15,iI a1.L.length),(16,iI p.2)] [[.sl (a1.L.map zMY.c)],[.sl (b2.L.map zMY.c)]]) (fun p=>zDP (zDQ fuel) a1 b2 p.1 p.2=some o10) (fun p=>p.1) (fuel,0) l11 (zAL (by simp)) ?_
  rintro⟨k12,i8⟩ l11
  try dsimp only at l11 ⊢
  cases k12 with
  |zero=>
   rw[zDP] at l11;cases l11
  |succ k13=>
   rw[zDP] at l11
   refine cutA 32 0 [(2,pT 0),(3,pT 1),(15,iI a1.L.length),(16,iI i8),(17,.bool (ltI i8 a1.L.length))] [[.sl (a1.L.map zMY.c)],[.sl (b2.L.map zMY.c)]]<|zAD<|spc l11 rfl (fun g14 l11=>?_) fun g14 l11=>?_
   ·have c15:=ltT g14
    refine zCB 0 0 rfl rfl rfl fun f16=>?_
    rw[zq4] at f16
    refine zAC<|zAH<|zAD<|zAF<|cutA 32 0 [(2,pT 0),(3,pT 1),(5,iI i8),(15,iI a1.L.length),(16,iI i8)] [[.sl (a1.L.map zMY.c)],[.sl (b2.L.map zMY.c)]] ?_
    obtain⟨x17,q18,l11⟩:=bs l11
    obtain⟨x19,q20,l11⟩:=bs l11
    obtain⟨v21,q22,l11⟩:=bs l11
    refine cut 32 0 [(2,pT 0),(3,pT 1),(15,iI a1.L.length),(16,iI i8),(30,.bool (!v21))] [[.sl (a1.L.map zMY.c)],[.sl (b2.L.map zMY.c)]] ?_ ?_
    ·refine zAJ [] mixed (n:=32) rfl (by decide) ?_
     simp[q18,q20]
     have r27:=ih_kind_equal x17 x19 v21 q22
     try simp[q18,q20] at r27
     refine zGN r27 (by simp) rfl ?_
     simp[q18,q20]
    refine spc l11 rfl (fun g23 l11=>?_) fun g23 l11=>?_
    ·have g24:=notT g23
     refine cutA 32 0 [(4,.bool false)] [[.sl (a1.L.map zMY.c)],[.sl (b2.L.map zMY.c)]]<|zAB<|zAK<|zAE ?_
     replace h:=retL l11 h
     refine zAE<|zAK<|zAE ?_
     obtain rfl:=oi h
     simp
    have g25:=notF g23
    refine zAC<|zC1<|zAH ?_
    have q26:Rng .i64 (((i8:Nat):Int)+1):=by simp only[Rng,inR];omega
    try simp at q26
    refine last 32 0 [(2,pT 0),(3,pT 1),(15,iI a1.L.length),(16,iI ((i8+1:Nat):Int))] [[.sl (a1.L.map zMY.c)],[.sl (b2.L.map zMY.c)]] (st (by simp[q26])) fun zz hs=>?_
    exact⟨(k13,i8+1),hs,l11,by simp⟩
   have c28:=ltF g14
   refine zCB 0 0 rfl rfl rfl fun f29=>?_
   rw[zq4] at f29
   refine zAQ<|zAG ?_
   rcases o10 with o10|o9
   ·cases l11
   have q30:=Sum.inr.inj (zqa l11)
   replace h:=zF0 h
   refine zAG<|zAS<|zAM (t:=mkS 32 0 [] [[.sl (a1.L.map zMY.c)],[.sl (b2.L.map zMY.c)]]) ?_ (zAL (by simp))
   refine cutA 32 0 [(4,.bool true)] [[.sl (a1.L.map zMY.c)],[.sl (b2.L.map zMY.c)]]<|zAB ?_
   obtain rfl:=oi h
   simp
theorem zJh(fuel:Nat)(a1:zMY)(b2:zMY)(r:Bool)(h:zEm fuel a1 b2=some r):Pure Tryz.prog 44 [.agg [.sl (a1.L.map zMY.c)],.agg [.sl (b2.L.map zMY.c)]] (.bool r):=by
 rw[zEm] at h
 refine zAA Tryz.func44 (by rfl) (by rfl) (by simp) (by simp) (by simp)<|cutA 16 0 [(2,pT 0),(3,pT 1)] [[.sl (a1.L.map zMY.c)],[.sl (b2.L.map zMY.c)]] ?_
 obtain⟨b11,q12,h⟩:=bs h
 refine cut 16 0 [(4,.bool b11)] [[.sl (a1.L.map zMY.c)],[.sl (b2.L.map zMY.c)]] ?_ ?_
 ·refine zAw ?_
  obtain⟨v3,q4,q12⟩:=bs q12
  refine WL.cut 2 16 0 [(2,pT 0),(3,pT 1),(6,.bool v3)] [[.sl (a1.L.map zMY.c)],[.sl (b2.L.map zMY.c)]] ?_ ?_
  ·simp
   have r13:=zDd fuel a1 v3 q4
   try simp at r13
   refine cP r13 ?_
   simp
  rcases sp q12 with ⟨g5,q12⟩|⟨g5,q12⟩
  ·obtain⟨v6,q7,q12⟩:=bs q12
   refine WL.cut 3 16 0 [(2,pT 0),(3,pT 1),(7,.bool v3),(9,.bool v6)] [[.sl (a1.L.map zMY.c)],[.sl (b2.L.map zMY.c)]] ?_ ?_
   ·simp[g5]
    have r14:=zDd fuel b2 v6 q7
    try simp[g5] at r14
    refine cP r14 ?_
    simp[g5]
   rcases sp q12 with ⟨g8,q12⟩|⟨g8,q12⟩
   ·obtain⟨v9,q10,q12⟩:=bs q12
    obtain rfl:=oi q12
    have g5x:=g5
    try simp only[g8] at g5x
    have g8x:=g8
    try simp only[g5] at g8x
    refine WL.cut 5 16 0 [(11,.bool v6),(14,.bool v9)] [[.sl (a1.L.map zMY.c)],[.sl (b2.L.map zMY.c)]] ?_ ?_
    ·simp[g5,g8,g5x,g8x]
     have r15:=kind_equal_ok fuel a1 b2 v9 q10
     try simp[g5,g8,g5x,g8x] at r15
     refine cP r15 ?_
     simp[g5,g8,g5x,g8x]
    refine WL.last ?_
    simp[g5,g8,g5x,g8x]
   obtain rfl:=oi q12
   have g5x:=g5
   try simp only[g8] at g5x
   have g8x:=g8
   try simp only[g5] at g8x
   refine WL.last ?_
   simp[g5,g8,g5x,g8x]
  obtain rfl:=oi q12
  refine WL.last ?_
  simp[g5]
 refine zAB ?_
 obtain rfl:=oi h
 simp
theorem zC8(fuel:Nat)(s11:(List zMY))(s22:(List zMY))(r:Bool)(h:zAn fuel s11 s22=some r):Pure Tryz.prog 46 [.sl (s11.map zMY.c),.sl (s22.map zMY.c),.fn (.func 44) [] []] (.bool r):=by
 rw[zAn] at h
 refine zAA Tryz.func46 (by rfl) (by rfl) (by simp) (by simp) (by simp)<|cutA 32 0 [(0,.sl (s11.map zMY.c)),(1,.sl (s22.map zMY.c)),(2,.fn (.func 44) [] [])] []<|zAD<|cutA 32 0 [(0,.sl (s11.map zMY.c)),(1,.sl (s22.map zMY.c)),(2,.fn (.func 44) [] []),(14,.bool (!(eqI s11.length s22.length)))] [] ?_
 rcases sp h with ⟨g3,h⟩|⟨g3,h⟩
 ·have g4:=notT g3
  have c5:=eqF g4
  refine zEk rfl g3<|cutA 32 0 [(6,.bool false)] []<|zAB<|zAE ?_
  obtain rfl:=oi h
  simp
 have g6:=notF g3
 have c7:=eqT g6
 refine zEc rfl g3<|zAC<|zAH<|zAD<|cutA 32 0 [(1,.sl (s22.map zMY.c)),(2,.fn (.func 44) [] []),(15,.sl (s11.map zMY.c)),(16,iI s11.length),(17,iI 0)] []<|zAF ?_
 obtain⟨o10,l11,h⟩:=bs h
 refine zAm (fun p:Nat×Nat=>mkS 32 0 [(1,.sl (s22.map zMY.c)),(2,.fn (.func 44) [] []),(15,.sl (s11.map zMY.c)),(16,iI s11.length),(17,iI p.2)] []) (fun p=>zAa fuel s11 s22 p.1 p.2=some o10) (fun p=>p.1) (fuel,0) l11 (zAL (by simp)) ?_
 rintro⟨k12,i8⟩ l11
 try dsimp only at l11 ⊢
 cases k12 with
 |zero=>
  rw[zAa] at l11;cases l11
 |succ k13=>
  rw[zAa] at l11
  refine cutA 32 0 [(1,.sl (s22.map zMY.c)),(2,.fn (.func 44) [] []),(15,.sl (s11.map zMY.c)),(16,iI s11.length),(17,iI i8),(18,.bool (ltI i8 s11.length))] []<|zAD<|spc l11 rfl (fun g14 l11=>?_) fun g14 l11=>?_
  ·have c15:=ltT g14
   refine zCA 15 rfl fun f16=>?_
   rw[zq4] at f16
   refine zAC<|zAH<|zAD<|zAF ?_
   obtain⟨x17,q18,l11⟩:=bs l11
   refine cut 32 0 [(1,.sl (s22.map zMY.c)),(2,.fn (.func 44) [] []),(7,iI i8),(8,pT 0),(15,.sl (s11.map zMY.c)),(16,iI s11.length),(17,iI i8)] [[.sl (x17.L.map zMY.c)]] (st (by simp[q18])) ?_
   obtain⟨x19,q20,l11⟩:=bs l11
   refine cut 32 0 [(1,.sl (s22.map zMY.c)),(2,.fn (.func 44) [] []),(8,pT 0),(9,pT 1),(15,.sl (s11.map zMY.c)),(16,iI s11.length),(17,iI i8)] [[.sl (x17.L.map zMY.c)],[.sl (x19.L.map zMY.c)]] (st (by simp[q20])) ?_
   obtain⟨v21,q22,l11⟩:=bs l11
   refine cut 32 0 [(1,.sl (s22.map zMY.c)),(2,.fn (.func 44) [] []),(15,.sl (s11.map zMY.c)),(16,iI s11.length),(17,iI i8),(30,.bool (!v21))] [[.sl (x17.L.map zMY.c)],[.sl (x19.L.map zMY.c)]] ?_ ?_
   ·refine st ?_
    simp
    have r27:=zJh fuel x17 x19 v21 q22
    try simp at r27
    refine cP r27 ?_
    simp
   refine spc l11 rfl (fun g23 l11=>?_) fun g23 l11=>?_
   ·have g24:=notT g23
    refine cutA 32 0 [(6,.bool false)] [[.sl (x17.L.map zMY.c)],[.sl (x19.L.map zMY.c)]]<|zAB<|zAK<|zAE ?_
    replace h:=retL l11 h
    refine zAE<|zAK<|zAE ?_
    obtain rfl:=oi h
    simp
   have g25:=notF g23
   refine zAC<|zC1<|zAH ?_
   have q26:Rng .i64 (((i8:Nat):Int)+1):=by simp only[Rng,inR];omega
   try simp at q26
   refine last 32 0 [(1,.sl (s22.map zMY.c)),(2,.fn (.func 44) [] []),(15,.sl (s11.map zMY.c)),(16,iI s11.length),(17,iI ((i8+1:Nat):Int))] [] (st (by simp[q26])) fun zz hs=>?_
   exact⟨(k13,i8+1),hs,l11,by simp⟩
  have c28:=ltF g14
  refine zCA 15 rfl fun f29=>?_
  rw[zq4] at f29
  refine zAQ<|zAG ?_
  rcases o10 with o10|o9
  ·cases l11
  have q30:=Sum.inr.inj (zqa l11)
  replace h:=zF0 h
  refine zAG<|zAS<|zAM (t:=mkS 32 0 [] []) ?_ (zAL (by simp))
  refine cutA 32 0 [(6,.bool true)] []<|zAB ?_
  obtain rfl:=oi h
  simp
theorem zDw(fuel:Nat):(∀(s11:(List zMa))(s22:(List zMa))(r:Bool)(_:zBI fuel s11 s22=some r),Pure Tryz.prog 47 [.sl (s11.map zMa.c),.sl (s22.map zMa.c),.fn (.func 21) [] []] (.bool r))∧(∀(a1:zMa)(b2:zMa)(r:Bool)(_:zD8 fuel a1 b2=some r),Pure Tryz.prog 21 [.agg (zMa.d a1),.agg (zMa.d b2)] (.bool r)):=by
 induction fuel with
 |zero=>
  refine⟨?_,?_⟩
  ·intro s11 s22 r h;rw[zBI] at h;cases h
  ·intro a1 b2 r h;rw[zD8] at h;cases h
 |succ fuel ih=>
  obtain⟨zFF,ih_sem_same⟩:=ih
  refine⟨?_,?_⟩
  ·intro s11 s22 r h
   rw[zBI] at h
   refine zAA Tryz.func47 (by rfl) (by rfl) (by simp) (by simp) (by simp)<|cutA 32 0 [(0,.sl (s11.map zMa.c)),(1,.sl (s22.map zMa.c)),(2,.fn (.func 21) [] [])] []<|zAD<|cutA 32 0 [(0,.sl (s11.map zMa.c)),(1,.sl (s22.map zMa.c)),(2,.fn (.func 21) [] []),(14,.bool (!(eqI s11.length s22.length)))] [] ?_
   rcases sp h with ⟨g3,h⟩|⟨g3,h⟩
   ·have g4:=notT g3
    have c5:=eqF g4
    refine zEk rfl g3<|cutA 32 0 [(6,.bool false)] []<|zAB<|zAE ?_
    obtain rfl:=oi h
    simp
   have g6:=notF g3
   have c7:=eqT g6
   refine zEc rfl g3<|zAC<|zAH<|zAD<|cutA 32 0 [(1,.sl (s22.map zMa.c)),(2,.fn (.func 21) [] []),(15,.sl (s11.map zMa.c)),(16,iI s11.length),(17,iI 0)] []<|zAF ?_
   obtain⟨o10,l11,h⟩:=bs h
   refine zAm (fun p:Nat×Nat=>mkS 32 0 [(1,.sl (s22.map zMa.c)),(2,.fn (.func 21) [] []),(15,.sl (s11.map zMa.c)),(16,iI s11.length),(17,iI p.2)] []) (fun p=>zAf (zD8 fuel) s11 s22 p.1 p.2=some o10) (fun p=>p.1) (fuel,0) l11 (zAL (by simp)) ?_
   rintro⟨k12,i8⟩ l11
   try dsimp only at l11 ⊢
   cases k12 with
   |zero=>
    rw[zAf] at l11;cases l11
   |succ k13=>
    rw[zAf] at l11
    refine cutA 32 0 [(1,.sl (s22.map zMa.c)),(2,.fn (.func 21) [] []),(15,.sl (s11.map zMa.c)),(16,iI s11.length),(17,iI i8),(18,.bool (ltI i8 s11.length))] []<|zAD<|spc l11 rfl (fun g14 l11=>?_) fun g14 l11=>?_
    ·have c15:=ltT g14
     refine zCA 15 rfl fun f16=>?_
     rw[zq4] at f16
     refine zAC<|zAH<|zAD<|zAF ?_
     obtain⟨x17,q18,l11⟩:=bs l11
     refine cut 32 0 [(1,.sl (s22.map zMa.c)),(2,.fn (.func 21) [] []),(7,iI i8),(8,pT 0),(15,.sl (s11.map zMa.c)),(16,iI s11.length),(17,iI i8)] [(zMa.d x17)] (st (by simp[q18])) ?_
     obtain⟨x19,q20,l11⟩:=bs l11
     refine cut 32 0 [(1,.sl (s22.map zMa.c)),(2,.fn (.func 21) [] []),(8,pT 0),(9,pT 1),(15,.sl (s11.map zMa.c)),(16,iI s11.length),(17,iI i8)] [(zMa.d x17),(zMa.d x19)] (st (by simp[q20])) ?_
     obtain⟨v21,q22,l11⟩:=bs l11
     refine cut 32 0 [(1,.sl (s22.map zMa.c)),(2,.fn (.func 21) [] []),(15,.sl (s11.map zMa.c)),(16,iI s11.length),(17,iI i8),(30,.bool (!v21))] [(zMa.d x17),(zMa.d x19)] ?_ ?_
     ·refine st ?_
      simp
      have r27:=ih_sem_same x17 x19 v21 q22
      try simp at r27
      refine cP r27 ?_
      simp
     refine spc l11 rfl (fun g23 l11=>?_) fun g23 l11=>?_
     ·have g24:=notT g23
      refine cutA 32 0 [(6,.bool false)] [(zMa.d x17),(zMa.d x19)]<|zAB<|zAK<|zAE ?_
      replace h:=retL l11 h
      refine zAE<|zAK<|zAE ?_
      obtain rfl:=oi h
      simp
     have g25:=notF g23
     refine zAC<|zC1<|zAH ?_
     have q26:Rng .i64 (((i8:Nat):Int)+1):=by simp only[Rng,inR];omega
     try simp at q26
     refine last 32 0 [(1,.sl (s22.map zMa.c)),(2,.fn (.func 21) [] []),(15,.sl (s11.map zMa.c)),(16,iI s11.length),(17,iI ((i8+1:Nat):Int))] [] (st (by simp[q26])) fun zz hs=>?_
     exact⟨(k13,i8+1),hs,l11,by simp⟩
    have c28:=ltF g14
    refine zCA 15 rfl fun f29=>?_
    rw[zq4] at f29
    refine zAQ<|zAG ?_
    rcases o10 with o10|o9
    ·cases l11
    have q30:=Sum.inr.inj (zqa l11)
    replace h:=zF0 h
    refine zAG<|zAS<|zAM (t:=mkS 32 0 [] []) ?_ (zAL (by simp))
    refine cutA 32 0 [(6,.bool true)] []<|zAB ?_
    obtain rfl:=oi h
    simp
  ·intro a1 b2 r h
   rw[zD8] at h
   refine zAA Tryz.func21 (by rfl) (by rfl) (by simp) (by simp) (by simp)<|cutA 67 0 [(2,pT 0),(3,pT 1)] [(zMa.d a1),(zMa.d b2)]<|zAD ?_
   obtain⟨b28,q29,h⟩:=bs h
   refine cut 67 0 [(2,pT 0),(3,pT 1),(47,.bool b28)] [(zMa.d a1),(zMa.d b2)] ?_ ?_
   ·refine zAw ?_
    rcases sp q29 with ⟨g3,q29⟩|⟨g3,q29⟩
    ·have g4:=notT g3
     have c5:=eqF g4
     obtain rfl:=oi q29
     refine WL.last ?_
     simp[g3]
    have g6:=notF g3
    have c7:=eqT g6
    rcases sp q29 with ⟨g8,q29⟩|⟨g8,q29⟩
    ·have g9:=notT g8
     have c10:=eqF g9
     obtain rfl:=oi q29
     have g3x:=g3
     try simp only[g8] at g3x
     have g8x:=g8
     try simp only[g3] at g8x
     refine WL.last ?_
     simp[g3,g8,g3x,g8x]
    have g11:=notF g8
    have c12:=eqT g11
    rcases sp q29 with ⟨g13,q29⟩|⟨g13,q29⟩
    ·have g14:=notT g13
     obtain rfl:=oi q29
     have g3x:=g3
     try simp only[g8,g13] at g3x
     have g8x:=g8
     try simp only[g3,g13] at g8x
     have g13x:=g13
     try simp only[g3,g8] at g13x
     refine WL.last ?_
     simp[g3,g8,g13,g3x,g8x,g13x]
    have g15:=notF g13
    obtain⟨v16,q17,q29⟩:=bs q29
    have g3x:=g3
    try simp only[g8,g13] at g3x
    have g8x:=g8
    try simp only[g3,g13] at g8x
    have g13x:=g13
    try simp only[g3,g8] at g13x
    refine WL.cut 25 67 0 [(2,pT 0),(3,pT 1),(24,.bool (!(eqS a1.S b2.S))),(29,.bool v16)] [(zMa.d a1),(zMa.d b2)] ?_ ?_
    ·simp[g3,g8,g13,g3x,g8x,g13x]
     have r44:=zGu fuel a1.Con b2.Con v16 q17
     try simp[g3,g8,g13,g3x,g8x,g13x] at r44
     refine cP r44 ?_
     simp[g3,g8,g13,g3x,g8x,g13x]
    rcases sp q29 with ⟨g18,q29⟩|⟨g18,q29⟩
    ·have g19:=notT g18
     obtain rfl:=oi q29
     have g18x:=g18
     try simp only[g3,g8,g13] at g18x
     refine WL.last ?_
     simp[g3,g8,g13,g18,g3x,g8x,g13x,g18x]
    have g20:=notF g18
    obtain⟨v21,q22,q29⟩:=bs q29
    have g18x:=g18
    try simp only[g3,g8,g13] at g18x
    refine WL.cut 8 67 0 [(2,pT 0),(3,pT 1),(32,.bool (!v16)),(37,.bool v21)] [(zMa.d a1),(zMa.d b2)] ?_ ?_
    ·simp[g3,g8,g13,g18,g3x,g8x,g13x,g18x]
     have r45:=zJh fuel a1.Kind b2.Kind v21 q22
     try simp[g3,g8,g13,g18,g3x,g8x,g13x,g18x] at r45
     refine cP r45 ?_
     simp[g3,g8,g13,g18,g3x,g8x,g13x,g18x]
    rcases sp q29 with ⟨g23,q29⟩|⟨g23,q29⟩
    ·have g24:=notT g23
     obtain rfl:=oi q29
     have g23x:=g23
     try simp only[g3,g8,g13,g18] at g23x
     refine WL.last ?_
     simp[g3,g8,g13,g18,g23,g3x,g8x,g13x,g18x,g23x]
    have g25:=notF g23
    obtain⟨v26,q27,q29⟩:=bs q29
    obtain rfl:=oi q29
    have g23x:=g23
    try simp only[g3,g8,g13,g18] at g23x
    refine WL.cut 8 67 0 [(2,pT 0),(3,pT 1),(40,.bool (!v21)),(45,.bool v26)] [(zMa.d a1),(zMa.d b2)] ?_ ?_
    ·simp[g3,g8,g13,g18,g23,g3x,g8x,g13x,g18x,g23x]
     have r46:=zFX fuel a1.Names b2.Names v26 q27
     try simp[g3,g8,g13,g18,g23,g3x,g8x,g13x,g18x,g23x] at r46
     refine cP r46 ?_
     simp[g3,g8,g13,g18,g23,g3x,g8x,g13x,g18x,g23x]
    refine WL.last ?_
    simp[g3,g8,g13,g18,g23,g3x,g8x,g13x,g18x,g23x]
   refine spc h rfl (fun g30 h=>?_) fun g30 h=>?_
   ·refine cutA 67 0 [(4,.bool false)] [(zMa.d a1),(zMa.d b2)]<|zAB<|zAE ?_
    obtain rfl:=oi h
    simp
   refine zAC<|zAH ?_
   obtain⟨b39,q40,h⟩:=bs h
   refine cut 67 0 [(4,.bool b39)] [(zMa.d a1),(zMa.d b2)] ?_ ?_
   ·refine zAw ?_
    obtain⟨v31,q32,q40⟩:=bs q40
    refine WL.cut 5 67 0 [(2,pT 0),(3,pT 1),(52,.bool v31)] [(zMa.d a1),(zMa.d b2)] ?_ ?_
    ·simp
     have r41:=zC8 fuel a1.Kinds b2.Kinds v31 q32
     try simp at r41
     refine cP r41 ?_
     simp
    rcases sp q40 with ⟨g33,q40⟩|⟨g33,q40⟩
    ·obtain⟨v34,q35,q40⟩:=bs q40
     refine WL.cut 6 67 0 [(2,pT 0),(3,pT 1),(53,.bool v31),(58,.bool v34)] [(zMa.d a1),(zMa.d b2)] ?_ ?_
     ·simp[g33]
      have r42:=zC8 fuel a1.More b2.More v34 q35
      try simp[g33] at r42
      refine cP r42 ?_
      simp[g33]
     rcases sp q40 with ⟨g36,q40⟩|⟨g36,q40⟩
     ·obtain⟨v37,q38,q40⟩:=bs q40
      obtain rfl:=oi q40
      have g33x:=g33
      try simp only[g36] at g33x
      have g36x:=g36
      try simp only[g33] at g36x
      refine WL.cut 7 67 0 [(60,.bool v34),(65,.bool v37)] [(zMa.d a1),(zMa.d b2)] ?_ ?_
      ·simp[g33,g36,g33x,g36x]
       have r43:=zFF a1.L b2.L v37 q38
       try simp[g33,g36,g33x,g36x] at r43
       refine cP r43 ?_
       simp[g33,g36,g33x,g36x]
      refine WL.last ?_
      simp[g33,g36,g33x,g36x]
     obtain rfl:=oi q40
     have g33x:=g33
     try simp only[g36] at g33x
     have g36x:=g36
     try simp only[g33] at g36x
     refine WL.last ?_
     simp[g33,g36,g33x,g36x]
    obtain rfl:=oi q40
    refine WL.last ?_
    simp[g33]
   refine zAB ?_
   obtain rfl:=oi h
   simp
theorem sem_same_ok(fuel:Nat):(∀(a1:zMa)(b2:zMa)(r:Bool)(_:zD8 fuel a1 b2=some r),Pure Tryz.prog 21 [.agg (zMa.d a1),.agg (zMa.d b2)] (.bool r)):=(zDw fuel).2
theorem sem_Equal_ok(fuel:Nat)(a1:zMa)(b2:zMa)(r:Bool×Int)(h:zH9 fuel a1 b2=some r):Pure Tryz.prog 7 [.agg (zMa.d a1),.agg (zMa.d b2)] (.tup [.bool r.1,iI r.2]):=by
 rw[zH9] at h
 refine zAA Tryz.func7 (by rfl) (by rfl) (by simp) (by simp) (by simp)<|cutA 37 0 [(2,pT 0),(3,pT 1)] [(zMa.d a1),(zMa.d b2)]<|zAD ?_
 obtain⟨b10,q11,h⟩:=bs h
 refine cut 37 0 [(2,pT 0),(3,pT 1),(17,.bool b10)] [(zMa.d a1),(zMa.d b2)] ?_ ?_
 ·obtain⟨v3,q4,q11⟩:=bs q11
  rcases sp q11 with ⟨g5,q11⟩|⟨g5,q11⟩
  ·have g6:=notT g5
   obtain rfl:=oi q11
   refine st ?_
   simp[g5]
   have r34:=zEq fuel a1 v3 q4
   try simp[g5] at r34
   refine cP r34 ?_
   simp[g5]
  have g7:=notF g5
  obtain⟨v8,q9,q11⟩:=bs q11
  obtain rfl:=oi q11
  refine st ?_
  simp[g5]
  have r35:=zEq fuel a1 v3 q4
  try simp[g5] at r35
  refine cP r35 ?_
  simp[g5]
  have r36:=zEq fuel b2 v8 q9
  try simp[g5] at r36
  refine cP r36 ?_
  simp[g5]
 refine spc h rfl (fun g12 h=>?_) fun g12 h=>?_
 ·refine cutA 37 0 [(4,.bool false),(5,iI 1)] [(zMa.d a1),(zMa.d b2)]<|zAB<|zAE ?_
  obtain rfl:=oi h
  simp
 refine zAC<|zAH ?_
 obtain⟨v13,q14,h⟩:=bs h
 refine cut 37 0 [(3,pT 1),(6,pT 2),(7,iI v13.2)] [(zMa.d a1),(zMa.d b2),(zMa.d v13.1)] ?_ ?_
 ·refine st ?_
  simp
  have r33:=zJE fuel a1 v13 q14
  try simp at r33
  refine cP r33 ?_
  simp
 obtain⟨v15,q16,h⟩:=bs h
 refine cut 37 0 [(6,pT 2),(7,iI v13.2),(8,pT 3),(9,iI v15.2)] [(zMa.d a1),(zMa.d b2),(zMa.d v13.1),(zMa.d v15.1)] ?_ ?_
 ·refine st ?_
  simp
  have r32:=zJE fuel b2 v15 q16
  try simp at r32
  refine cP r32 ?_
  simp
 refine zAD<|cut 37 0 [(6,pT 2),(8,pT 3),(33,.bool ((!(eqI v13.2 0))||(!(eqI v15.2 0))))] [(zMa.d a1),(zMa.d b2),(zMa.d v13.1),(zMa.d v15.1)] ?_ ?_
 ·rcases tf (!(eqI v13.2 0)) with g17|g17
  ·have g18:=notT g17
   have c19:=eqF g18
   refine st ?_
   simp[g17]
  have g20:=notF g17
  have c21:=eqT g20
  refine st ?_
  simp[g17]
 rcases sp h with ⟨g22,h⟩|⟨g22,h⟩
 ·refine zEk rfl g22<|cutA 37 0 [(4,.bool false),(5,iI 27)] [(zMa.d a1),(zMa.d b2),(zMa.d v13.1),(zMa.d v15.1)]<|zAB<|zAE ?_
  obtain rfl:=oi h
  simp
 obtain⟨g23,g24⟩:=orF g22
 have g25:=notF g23
 have c26:=eqT g25
 have g27:=notF g24
 have c28:=eqT g27
 refine zEc rfl g22<|zAC<|zAH ?_
 obtain⟨v29,q30,h⟩:=bs h
 refine cut 37 0 [(4,.bool v29),(5,iI 0)] [(zMa.d a1),(zMa.d b2),(zMa.d v13.1),(zMa.d v15.1)] ?_ ?_
 ·refine st ?_
  simp
  have r31:=sem_same_ok fuel v13.1 v15.1 v29 q30
  try simp at r31
  refine cP r31 ?_
  simp
 refine zAB ?_
 obtain rfl:=oi h
 simp
theorem zLt(fuel:Nat):(∀(k1:zMY)(left2:Int)(depth3:Int)(r:Int)(_:zDf fuel k1 left2 depth3=some r),Pure Tryz.prog 80 [.agg [.sl (k1.L.map zMY.c)],iI left2,iI depth3] (iI r)):=by
 induction fuel with
 |zero=>intro k1 left2 depth3 r h;rw[zDf] at h;cases h
 |succ fuel zME=>
  intro k1 left2 depth3 r h
  rw[zDf] at h
  refine zAA Tryz.func80 (by rfl) (by rfl) (by simp) (by simp) (by simp)<|cutA 49 0 [(1,iI left2),(2,iI depth3),(3,pT 0)] [[.sl (k1.L.map zMY.c)]]<|zAD<|cut 49 0 [(1,iI left2),(2,iI depth3),(3,pT 0),(25,.bool ((ltI left2 1)||((ltI depth3 1)||((!(eqI k1.L.length 0))&&(!(eqI k1.L.length 2))))))] [[.sl (k1.L.map zMY.c)]] ?_ ?_
  ·rcases tf (ltI left2 1) with g4|g4
   ·have c5:=ltT g4
    refine st ?_
    simp[g4]
   have c6:=ltF g4
   rcases tf (ltI depth3 1) with g7|g7
   ·have c8:=ltT g7
    refine st ?_
    simp[g4,g7]
   have c9:=ltF g7
   rcases tf (!(eqI k1.L.length 0)) with g10|g10
   ·have g11:=notT g10
    have c12:=eqF g11
    refine st ?_
    simp[g4,g7,g10]
   have g13:=notF g10
   have c14:=eqT g13
   refine st ?_
   simp[g4,g7,g10]
  rcases sp h with ⟨g15,h⟩|⟨g15,h⟩
  ·refine zEk rfl g15<|cutA 49 0 [(6,iI (-1))] [[.sl (k1.L.map zMY.c)]]<|zAB<|zAE ?_
   obtain rfl:=oi h
   simp
  obtain⟨g16,g17⟩:=orF g15
  have c18:=ltF g16
  obtain⟨g19,g20⟩:=orF g17
  have c21:=ltF g19
  refine zEc rfl g15<|zAC<|zAH ?_
  obtain⟨n22,q23,h⟩:=bs h
  obtain⟨q24,q25⟩:=zBj q23
  try simp at q24
  try simp at q25
  have c26:=q24;simp only[Rng,inR] at c26
  refine cut 49 0 [(1,iI n22),(2,iI depth3),(3,pT 0)] [[.sl (k1.L.map zMY.c)]] (st (by simp[q24,q25]))<|zAD<|cutA 49 0 [(1,iI n22),(2,iI depth3),(3,pT 0),(7,iI 0)] [[.sl (k1.L.map zMY.c)]]<|zAF ?_
  obtain⟨o29,l30,h⟩:=bs h
  refine zAm (fun p:Nat×Int×Nat=>mkS 49 0 [(1,iI p.2.1),(2,iI depth3),(3,pT 0),(7,iI p.2.2)] [[.sl (k1.L.map zMY.c)]]) (fun p=>zBv (zDf fuel) k1 depth3 p.1 p.2.1 p.2.2=some o29) (fun p=>p.1) (fuel,n22,0) l30 (zAL (by simp)) ?_
  rintro⟨k31,left27,i28⟩ l30
  try dsimp only at l30 ⊢
  cases k31 with
  |zero=>
   rw[zBv] at l30;cases l30
  |succ k32=>
   rw[zBv] at l30
   refine zAD<|cut 49 0 [(1,iI left27),(2,iI depth3),(3,pT 0),(7,iI i28),(36,.bool ((ltI i28 k1.L.length)&&(leI 0 left27)))] [[.sl (k1.L.map zMY.c)]] ?_ ?_
   ·rcases tf (ltI i28 k1.L.length) with g33|g33
    ·have c34:=ltT g33
     refine zCB 0 0 rfl rfl rfl fun f35=>?_
     rw[zq4] at f35
     refine st ?_
     simp[g33]
    have c36:=ltF g33
    refine zCB 0 0 rfl rfl rfl fun f37=>?_
    rw[zq4] at f37
    refine st ?_
    simp[g33]
   rcases sp l30 with ⟨g38,l30⟩|⟨g38,l30⟩
   ·obtain⟨g39,g40⟩:=andT g38
    have c41:=ltT g39
    have c43:=leT g40
    refine zEk rfl g38<|zCB 0 0 rfl rfl rfl fun f42=>?_
    rw[zq4] at f42
    refine zAC<|zAH<|zAD<|zAF ?_
    obtain⟨x44,q45,l30⟩:=bs l30
    obtain⟨n46,q47,l30⟩:=bs l30
    obtain⟨q48,q49⟩:=zBj q47
    try simp at q48
    try simp at q49
    have c50:=q48;simp only[Rng,inR] at c50
    obtain⟨v51,q52,l30⟩:=bs l30
    refine last 49 0 [(1,iI v51),(2,iI depth3),(3,pT 0),(7,iI i28)] [[.sl (k1.L.map zMY.c)]] ?_ fun zz hs=>?_
    ·refine st ?_
     simp[q45,q48,q49]
     have r54:=zME x44 left27 n46 v51 q52
     try simp[q45,q48,q49] at r54
     refine cP r54 ?_
     simp[q45,q48,q49]
    refine zC1<|zAM ?_ hs
    have q53:Rng .i64 (((i28:Nat):Int)+1):=by simp only[Rng,inR];omega
    try simp at q53
    refine last 49 0 [(1,iI v51),(2,iI depth3),(3,pT 0),(7,iI ((i28+1:Nat):Int))] [[.sl (k1.L.map zMY.c)]] (st (by simp[q53])) fun zz hs=>?_
    exact⟨(k32,v51,i28+1),hs,l30,by simp⟩
   refine zEc rfl g38<|zAQ<|zAG ?_
   have q55:=zqa l30
   have q55:=q55.symm
   refine zAG<|zAS<|zAM (t:=mkS 49 0 [(1,iI o29)] [[.sl (k1.L.map zMY.c)]]) ?_ (zAL (by simp[q55]))
   refine cutA 49 0 [(6,iI o29)] [[.sl (k1.L.map zMY.c)]]<|zAB ?_
   obtain rfl:=oi h
   simp
theorem zFv(fuel:Nat)(k1:zMY)(r:Bool)(h:zCg fuel k1=some r):Pure Tryz.prog 48 [.agg [.sl (k1.L.map zMY.c)]] (.bool r):=by
 rw[zCg] at h
 refine zAA Tryz.func48 (by rfl) (by rfl) (by simp) (by simp) (by simp)<|cutA 6 0 [(1,pT 0)] [[.sl (k1.L.map zMY.c)]] ?_
 obtain⟨v2,q3,h⟩:=bs h
 refine cut 6 0 [(2,.bool (leI 0 v2))] [[.sl (k1.L.map zMY.c)]] ?_ ?_
 ·refine st ?_
  simp
  have r4:=zLt fuel k1 20000 400 v2 q3
  try simp at r4
  refine cP r4 ?_
  simp
 refine zAB ?_
 obtain rfl:=oi h
 simp
theorem zIW(fuel:Nat)(l1:(List zMY))(r:Bool)(h:zF1 fuel l1=some r):Pure Tryz.prog 22 [.sl (l1.map zMY.c)] (.bool r):=by
 rw[zF1] at h
 refine zAA Tryz.func22 (by rfl) (by rfl) (by simp) (by simp) (by simp)<|cutA 16 0 [(0,.sl (l1.map zMY.c))] []<|zAD<|cutA 16 0 [(0,.sl (l1.map zMY.c)),(3,iI 0)] []<|zAF ?_
 obtain⟨o4,l5,h⟩:=bs h
 refine zAm (fun p:Nat×Nat=>mkS 16 0 [(0,.sl (l1.map zMY.c)),(3,iI p.2)] []) (fun p=>zDl fuel l1 p.1 p.2=some o4) (fun p=>p.1) (fuel,0) l5 (zAL (by simp)) ?_
 rintro⟨k6,i2⟩ l5
 try dsimp only at l5 ⊢
 cases k6 with
 |zero=>
  rw[zDl] at l5;cases l5
 |succ k7=>
  rw[zDl] at l5
  refine zAD<|cutA 16 0 [(0,.sl (l1.map zMY.c)),(3,iI i2),(7,.bool (ltI i2 l1.length))] []<|spc l5 rfl (fun g8 l5=>?_) fun g8 l5=>?_
  ·have c9:=ltT g8
   refine zCA 0 rfl fun f10=>?_
   rw[zq4] at f10
   refine zAC<|zAH<|zAD<|zAF ?_
   obtain⟨x11,q12,l5⟩:=bs l5
   obtain⟨v13,q14,l5⟩:=bs l5
   refine cut 16 0 [(0,.sl (l1.map zMY.c)),(3,iI i2),(15,.bool (!v13))] [] ?_ ?_
   ·refine st ?_
    simp[q12]
    have r19:=zFv fuel x11 v13 q14
    try simp[q12] at r19
    refine cP r19 ?_
    simp[q12]
   refine spc l5 rfl (fun g15 l5=>?_) fun g15 l5=>?_
   ·have g16:=notT g15
    refine cutA 16 0 [(2,.bool false)] []<|zAB<|zAK<|zAE ?_
    replace h:=retL l5 h
    refine zAE<|zAK<|zAE ?_
    obtain rfl:=oi h
    simp
   have g17:=notF g15
   refine zAC<|zC1<|zAH ?_
   have q18:Rng .i64 (((i2:Nat):Int)+1):=by simp only[Rng,inR];omega
   try simp at q18
   refine last 16 0 [(0,.sl (l1.map zMY.c)),(3,iI ((i2+1:Nat):Int))] [] (st (by simp[q18])) fun zz hs=>?_
   exact⟨(k7,i2+1),hs,l5,by simp⟩
  have c20:=ltF g8
  refine zCA 0 rfl fun f21=>?_
  rw[zq4] at f21
  refine zAQ<|zAG ?_
  rcases o4 with o4|o3
  ·cases l5
  have q22:=Sum.inr.inj (zqa l5)
  replace h:=zF0 h
  refine zAG<|zAS<|zAM (t:=mkS 16 0 [] []) ?_ (zAL (by simp))
  refine cutA 16 0 [(2,.bool true)] []<|zAB ?_
  obtain rfl:=oi h
  simp
theorem zDu(op1:Int)(r:Bool)(h:zE1 op1=some r):Pure Tryz.prog 82 [iI op1] (.bool r):=by
 rw[zE1] at h
 refine zAA Tryz.func82 (by rfl) (by rfl) (by simp) (by simp) (by simp)<|cutA 13 0 [(0,iI op1)] []<|cut 13 0 [(2,.bool ((eqI op1 1)||((eqI op1 2)||(eqI op1 3))))] [] ?_ ?_
 ·rcases tf (eqI op1 1) with g2|g2
  ·have c3:=eqT g2
   refine st ?_
   simp[g2]
  have c4:=eqF g2
  rcases tf (eqI op1 2) with g5|g5
  ·have c6:=eqT g5
   refine st ?_
   simp[g2,g5]
  have c7:=eqF g5
  refine st ?_
  simp[g2,g5]
 refine zAB ?_
 obtain rfl:=oi h
 simp
theorem zG6(c1:zMZ)(r:Bool)(h:zHv c1=some r):Pure Tryz.prog 107 [.agg (zMZ.d c1)] (.bool r):=by
 rw[zHv] at h
 refine zAA Tryz.func107 (by rfl) (by rfl) (by simp) (by simp) (by simp)<|cutA 35 0 [(1,pT 0)] [(zMZ.d c1)]<|cut 35 0 [(2,.bool ((eqI c1.Op 0)&&((eqI c1.N 0)&&((eqS c1.S ([]:List UInt8))&&((eqI c1.Kind.L.length 0)&&((eqI c1.Names.length 0)&&(eqI c1.L.length 0)))))))] [(zMZ.d c1)] ?_ ?_
 ·rcases tf (eqI c1.Op 0) with g2|g2
  ·have c3:=eqT g2
   rcases tf (eqI c1.N 0) with g4|g4
   ·have c5:=eqT g4
    rcases tf (eqS c1.S ([]:List UInt8)) with g6|g6
    ·rcases tf (eqI c1.Kind.L.length 0) with g7|g7
     ·have c8:=eqT g7
      rcases tf (eqI c1.Names.length 0) with g9|g9
      ·have c10:=eqT g9
       refine st ?_
       simp[g2,g4,g6,g7,g9]
      have c11:=eqF g9
      refine st ?_
      simp[g2,g4,g6,g7,g9]
     have c12:=eqF g7
     refine st ?_
     simp[g2,g4,g6,g7]
    refine st ?_
    simp[g2,g4,g6]
   have c13:=eqF g4
   refine st ?_
   simp[g2,g4]
  have c14:=eqF g2
  refine st ?_
  simp[g2]
 refine zAB ?_
 obtain rfl:=oi h
 simp
theorem zI3(c1:UInt8)(r:Bool)(h:zD9 c1=some r):Pure Tryz.prog 181 [.int .u8 c1.toNat] (.bool r):=by
 rw[zD9] at h
 refine zAA Tryz.func181 (by rfl) (by rfl) (by simp) (by simp) (by simp)<|cutA 9 0 [(0,.int .u8 c1.toNat)] []<|cut 9 0 [(2,.bool ((leI 97 c1.toNat)&&(leI c1.toNat 122)))] [] ?_ ?_
 ·rcases tf (leI 97 c1.toNat) with g2|g2
  ·have c3:=leT g2
   refine st ?_
   simp[g2]
  have c4:=leF g2
  refine st ?_
  simp[g2]
 refine zAB ?_
 obtain rfl:=oi h
 simp
theorem zHd(c1:UInt8)(r:Bool)(h:zDO c1=some r):Pure Tryz.prog 150 [.int .u8 c1.toNat] (.bool r):=by
 rw[zDO] at h
 refine zAA Tryz.func150 (by rfl) (by rfl) (by simp) (by simp) (by simp)<|cutA 9 0 [(0,.int .u8 c1.toNat)] []<|cut 9 0 [(2,.bool ((leI 65 c1.toNat)&&(leI c1.toNat 90)))] [] ?_ ?_
 ·rcases tf (leI 65 c1.toNat) with g2|g2
  ·have c3:=leT g2
   refine st ?_
   simp[g2]
  have c4:=leF g2
  refine st ?_
  simp[g2]
 refine zAB ?_
 obtain rfl:=oi h
 simp
theorem zI4(c1:UInt8)(r:Bool)(h:zEA c1=some r):Pure Tryz.prog 182 [.int .u8 c1.toNat] (.bool r):=by
 rw[zEA] at h
 refine zAA Tryz.func182 (by rfl) (by rfl) (by simp) (by simp) (by simp)<|cutA 9 0 [(0,.int .u8 c1.toNat)] []<|cut 9 0 [(2,.bool ((leI 48 c1.toNat)&&(leI c1.toNat 57)))] [] ?_ ?_
 ·rcases tf (leI 48 c1.toNat) with g2|g2
  ·have c3:=leT g2
   refine st ?_
   simp[g2]
  have c4:=leF g2
  refine st ?_
  simp[g2]
 refine zAB ?_
 obtain rfl:=oi h
 simp
theorem zG7(c1:UInt8)(r:Bool)(h:zDg c1=some r):Pure Tryz.prog 151 [.int .u8 c1.toNat] (.bool r):=by
 rw[zDg] at h
 refine zAA Tryz.func151 (by rfl) (by rfl) (by simp) (by simp) (by simp)<|cutA 17 0 [(0,.int .u8 c1.toNat)] [] ?_
 obtain⟨b11,q12,h⟩:=bs h
 refine cut 17 0 [(2,.bool b11)] [] ?_ ?_
 ·refine zAw ?_
  obtain⟨v2,q3,q12⟩:=bs q12
  refine WL.cut 2 17 0 [(0,.int .u8 c1.toNat),(4,.bool v2)] [] ?_ ?_
  ·simp
   have r13:=zI3 c1 v2 q3
   try simp at r13
   refine cP r13 ?_
   simp
  rcases sp q12 with ⟨g4,q12⟩|⟨g4,q12⟩
  ·obtain rfl:=oi q12
   refine WL.last ?_
   simp[g4]
  obtain⟨v5,q6,q12⟩:=bs q12
  refine WL.cut 3 17 0 [(0,.int .u8 c1.toNat),(5,.bool v2),(7,.bool v5)] [] ?_ ?_
  ·simp[g4]
   have r14:=zHd c1 v5 q6
   try simp[g4] at r14
   refine cP r14 ?_
   simp[g4]
  rcases sp q12 with ⟨g7,q12⟩|⟨g7,q12⟩
  ·obtain rfl:=oi q12
   have g4x:=g4
   try simp only[g7] at g4x
   have g7x:=g7
   try simp only[g4] at g7x
   refine WL.last ?_
   simp[g4,g7,g4x,g7x]
  obtain⟨v8,q9,q12⟩:=bs q12
  have g4x:=g4
  try simp only[g7] at g4x
  have g7x:=g7
  try simp only[g4] at g7x
  refine WL.cut 4 17 0 [(0,.int .u8 c1.toNat),(9,.bool v5),(11,.bool v8)] [] ?_ ?_
  ·simp[g4,g7,g4x,g7x]
   have r15:=zI4 c1 v8 q9
   try simp[g4,g7,g4x,g7x] at r15
   refine cP r15 ?_
   simp[g4,g7,g4x,g7x]
  rcases sp q12 with ⟨g10,q12⟩|⟨g10,q12⟩
  ·obtain rfl:=oi q12
   have g10x:=g10
   try simp only[g4,g7] at g10x
   refine WL.last ?_
   simp[g4,g7,g10,g4x,g7x,g10x]
  obtain rfl:=oi q12
  have g10x:=g10
  try simp only[g4,g7] at g10x
  refine WL.last ?_
  simp[g4,g7,g10,g4x,g7x,g10x]
 refine zAB ?_
 obtain rfl:=oi h
 simp
theorem zF6(fuel:Nat)(s1:(List UInt8))(r:Bool)(h:zCh fuel s1=some r):Pure Tryz.prog 113 [.str s1] (.bool r):=by
 rw[zCh] at h
 refine zAA Tryz.func113 (by rfl) (by rfl) (by simp) (by simp) (by simp)<|cutA 29 0 [(0,.str s1)] []<|zAD<|cutA 29 0 [(0,.str s1),(3,iI 0)] []<|zAF ?_
 obtain⟨o4,l5,h⟩:=bs h
 refine zAm (fun p:Nat×Nat=>mkS 29 0 [(0,.str s1),(3,iI p.2)] []) (fun p=>zCp s1 p.1 p.2=some o4) (fun p=>p.1) (fuel,0) l5 (zAL (by simp)) ?_
 rintro⟨k6,i2⟩ l5
 try dsimp only at l5 ⊢
 cases k6 with
 |zero=>
  rw[zCp] at l5;cases l5
 |succ k7=>
  rw[zCp] at l5
  refine zAD<|cutA 29 0 [(0,.str s1),(3,iI i2),(7,.bool (ltI i2 s1.length))] []<|spc l5 rfl (fun g8 l5=>?_) fun g8 l5=>?_
  ·have c9:=ltT g8
   refine zJP 0 rfl fun f10=>?_
   refine zAC<|zAH<|zAD<|zAF ?_
   obtain⟨b18,q19,l5⟩:=bs l5
   refine cut 29 0 [(0,.str s1),(3,iI i2),(20,.bool b18)] [] ?_ ?_
   ·obtain⟨c11,q12,q19⟩:=bs q19
    obtain⟨v13,q14,q19⟩:=bs q19
    rcases sp q19 with ⟨g15,q19⟩|⟨g15,q19⟩
    ·have g16:=notT g15
     obtain rfl:=oi q19
     refine st ?_
     simp[q12,g15]
     have r22:=zG7 c11 v13 q14
     try simp[q12,g15] at r22
     refine cP r22 ?_
     simp[q12,g15]
    have g17:=notF g15
    obtain rfl:=oi q19
    refine st ?_
    simp[q12,g15]
    have r23:=zG7 c11 v13 q14
    try simp[q12,g15] at r23
    refine cP r23 ?_
    simp[q12,g15]
   refine spc l5 rfl (fun g20 l5=>?_) fun g20 l5=>?_
   ·refine cutA 29 0 [(2,.bool false)] []<|zAB<|zAK<|zAE ?_
    replace h:=retL l5 h
    refine zAE<|zAK<|zAE ?_
    obtain rfl:=oi h
    simp
   refine zAC<|zC1<|zAH ?_
   have q21:Rng .i64 (((i2:Nat):Int)+1):=by simp only[Rng,inR];omega
   try simp at q21
   refine last 29 0 [(0,.str s1),(3,iI ((i2+1:Nat):Int))] [] (st (by simp[q21])) fun zz hs=>?_
   exact⟨(k7,i2+1),hs,l5,by simp⟩
  have c24:=ltF g8
  refine zJP 0 rfl fun f25=>?_
  refine zAQ<|zAG ?_
  rcases o4 with o4|o3
  ·cases l5
  have q26:=Sum.inr.inj (zqa l5)
  replace h:=zF0 h
  refine zAG<|zAS<|zAM (t:=mkS 29 0 [(0,.str s1)] []) ?_ (zAL (by simp))
  refine cut 29 0 [(2,.bool ((leI 1 s1.length)&&(leI s1.length 48)))] [] ?_ ?_
  ·rcases tf (leI 1 s1.length) with g27|g27
   ·have c28:=leT g27
    refine zJP 0 rfl fun f29=>?_
    refine st ?_
    simp[g27]
   have c30:=leF g27
   refine zJP 0 rfl fun f31=>?_
   refine st ?_
   simp[g27]
  refine zAB ?_
  obtain rfl:=oi h
  simp
theorem zGi(fuel:Nat)(l1:(List (List UInt8)))(r:Bool)(h:zC3 fuel l1=some r):Pure Tryz.prog 112 [.sl (l1.map cS)] (.bool r):=by
 rw[zC3] at h
 refine zAA Tryz.func112 (by rfl) (by rfl) (by simp) (by simp) (by simp)<|cutA 20 0 [(0,.sl (l1.map cS))] []<|zAD<|cutA 20 0 [(0,.sl (l1.map cS)),(3,iI 1)] []<|zAF ?_
 obtain⟨o4,l5,h⟩:=bs h
 refine zAm (fun p:Nat×Nat=>mkS 20 0 [(0,.sl (l1.map cS)),(3,iI p.2)] []) (fun p=>zBN l1 p.1 p.2=some o4) (fun p=>p.1) (fuel,1) l5 (zAL (by simp)) ?_
 rintro⟨k6,i2⟩ l5
 try dsimp only at l5 ⊢
 cases k6 with
 |zero=>
  rw[zBN] at l5;cases l5
 |succ k7=>
  rw[zBN] at l5
  refine zAD<|cutA 20 0 [(0,.sl (l1.map cS)),(3,iI i2),(7,.bool (ltI i2 l1.length))] []<|spc l5 rfl (fun g8 l5=>?_) fun g8 l5=>?_
  ·have c9:=ltT g8
   refine zCA 0 rfl fun f10=>?_
   rw[zq4] at f10
   refine zAC<|zAH<|zAD<|zAF ?_
   have q11:Rng .i64 (((i2:Nat):Int)-1):=by simp only[Rng,inR];omega
   try simp at q11
   obtain⟨x12,q13,l5⟩:=bs l5
   obtain⟨q14,q15⟩:=idx_ok q13
   try simp at q14
   try simp at q15
   obtain⟨x16,q17,l5⟩:=bs l5
   refine cut 20 0 [(0,.sl (l1.map cS)),(3,iI i2),(19,.bool (!(ltS x12 x16)))] [] ?_ ?_
   ·refine zAJ [] mixed (n:=20) rfl (by decide) ?_
    simp[q11,q14,q15,q17]
   refine spc l5 rfl (fun g18 l5=>?_) fun g18 l5=>?_
   ·have g19:=notT g18
    refine cutA 20 0 [(2,.bool false)] []<|zAB<|zAK<|zAE ?_
    replace h:=retL l5 h
    refine zAE<|zAK<|zAE ?_
    obtain rfl:=oi h
    simp
   have g20:=notF g18
   refine zAC<|zC1<|zAH ?_
   have q21:Rng .i64 (((i2:Nat):Int)+1):=by simp only[Rng,inR];omega
   try simp at q21
   refine last 20 0 [(0,.sl (l1.map cS)),(3,iI ((i2+1:Nat):Int))] [] (st (by simp[q21])) fun zz hs=>?_
   exact⟨(k7,i2+1),hs,l5,by simp⟩
  have c22:=ltF g8
  refine zCA 0 rfl fun f23=>?_
  rw[zq4] at f23
  refine zAQ<|zAG ?_
  rcases o4 with o4|o3
  ·cases l5
  have q24:=Sum.inr.inj (zqa l5)
  replace h:=zF0 h
  refine zAG<|zAS<|zAM (t:=mkS 20 0 [] []) ?_ (zAL (by simp))
  refine cutA 20 0 [(2,.bool true)] []<|zAB ?_
  obtain rfl:=oi h
  simp
theorem zLu(fuel:Nat)(s1:(List UInt8))(r:Bool)(h:zFk fuel s1=some r):Pure Tryz.prog 180 [.str s1] (.bool r):=by
 rw[zFk] at h
 refine zAA Tryz.func180 (by rfl) (by rfl) (by simp) (by simp) (by simp)<|cutA 15 0 [(0,.str s1)] []<|zAD<|cutA 15 0 [(0,.str s1),(3,iI 0)] []<|zAF ?_
 obtain⟨o4,l5,h⟩:=bs h
 refine zAm (fun p:Nat×Nat=>mkS 15 0 [(0,.str s1),(3,iI p.2)] []) (fun p=>zCO s1 p.1 p.2=some o4) (fun p=>p.1) (fuel,0) l5 (zAL (by simp)) ?_
 rintro⟨k6,i2⟩ l5
 try dsimp only at l5 ⊢
 cases k6 with
 |zero=>
  rw[zCO] at l5;cases l5
 |succ k7=>
  rw[zCO] at l5
  refine zAD<|cutA 15 0 [(0,.str s1),(3,iI i2),(7,.bool (ltI i2 s1.length))] []<|spc l5 rfl (fun g8 l5=>?_) fun g8 l5=>?_
  ·have c9:=ltT g8
   refine zJP 0 rfl fun f10=>?_
   refine zAC<|zAH<|zAD<|zAF ?_
   obtain⟨c11,q12,l5⟩:=bs l5
   obtain⟨v13,q14,l5⟩:=bs l5
   refine cut 15 0 [(0,.str s1),(3,iI i2),(14,.bool (!v13))] [] ?_ ?_
   ·refine st ?_
    simp[q12]
    have r19:=zG7 c11 v13 q14
    try simp[q12] at r19
    refine cP r19 ?_
    simp[q12]
   refine spc l5 rfl (fun g15 l5=>?_) fun g15 l5=>?_
   ·have g16:=notT g15
    refine cutA 15 0 [(2,.bool false)] []<|zAB<|zAK<|zAE ?_
    replace h:=retL l5 h
    refine zAE<|zAK<|zAE ?_
    obtain rfl:=oi h
    simp
   have g17:=notF g15
   refine zAC<|zC1<|zAH ?_
   have q18:Rng .i64 (((i2:Nat):Int)+1):=by simp only[Rng,inR];omega
   try simp at q18
   refine last 15 0 [(0,.str s1),(3,iI ((i2+1:Nat):Int))] [] (st (by simp[q18])) fun zz hs=>?_
   exact⟨(k7,i2+1),hs,l5,by simp⟩
  have c20:=ltF g8
  refine zJP 0 rfl fun f21=>?_
  refine zAQ<|zAG ?_
  rcases o4 with o4|o3
  ·cases l5
  have q22:=Sum.inr.inj (zqa l5)
  replace h:=zF0 h
  refine zAG<|zAS<|zAM (t:=mkS 15 0 [] []) ?_ (zAL (by simp))
  refine cutA 15 0 [(2,.bool true)] []<|zAB ?_
  obtain rfl:=oi h
  simp
theorem zHc(fuel:Nat)(s1:(List UInt8))(r:Bool)(h:zFR fuel s1=some r):Pure Tryz.prog 149 [.str s1] (.bool r):=by
 rw[zFR] at h
 refine zAA Tryz.func149 (by rfl) (by rfl) (by simp) (by simp) (by simp)<|cutA 15 0 [(0,.str s1)] [] ?_
 obtain⟨b12,q13,h⟩:=bs h
 refine cut 15 0 [(2,.bool b12)] [] ?_ ?_
 ·rcases sp q13 with ⟨g2,q13⟩|⟨g2,q13⟩
  ·have c3:=leT g2
   refine zJP 0 rfl fun f4=>?_
   rcases sp q13 with ⟨g5,q13⟩|⟨g5,q13⟩
   ·have c6:=leT g5
    obtain⟨v7,q8,q13⟩:=bs q13
    obtain rfl:=oi q13
    refine st ?_
    simp[g2,g5]
    have r14:=zLu fuel s1 v7 q8
    try simp[g2,g5] at r14
    refine cP r14 ?_
    simp[g2,g5]
   have c9:=leF g5
   obtain rfl:=oi q13
   refine st ?_
   simp[g2,g5]
  have c10:=leF g2
  refine zJP 0 rfl fun f11=>?_
  obtain rfl:=oi q13
  refine st ?_
  simp[g2]
 refine zAB ?_
 obtain rfl:=oi h
 simp
theorem zD1(fuel:Nat)(s1:(List UInt8))(r:Bool)(h:zCH fuel s1=some r):Pure Tryz.prog 109 [.str s1] (.bool r):=by
 rw[zCH] at h
 refine zAA Tryz.func109 (by rfl) (by rfl) (by simp) (by simp) (by simp)<|cutA 10 0 [(0,.str s1)] [] ?_
 obtain⟨b9,q10,h⟩:=bs h
 refine cut 10 0 [(2,.bool b9)] [] ?_ ?_
 ·obtain⟨v2,q3,q10⟩:=bs q10
  rcases sp q10 with ⟨g4,q10⟩|⟨g4,q10⟩
  ·obtain⟨c5,q6,q10⟩:=bs q10
   obtain⟨v7,q8,q10⟩:=bs q10
   obtain rfl:=oi q10
   refine st ?_
   simp[g4,q6]
   have r11:=zHc fuel s1 v2 q3
   try simp[g4,q6] at r11
   refine cP r11 ?_
   simp[g4,q6]
   have r12:=zHd c5 v7 q8
   try simp[g4,q6] at r12
   refine cP r12 ?_
   simp[g4,q6]
  obtain rfl:=oi q10
  refine st ?_
  simp[g4]
  have r13:=zHc fuel s1 v2 q3
  try simp[g4] at r13
  refine cP r13 ?_
  simp[g4]
 refine zAB ?_
 obtain rfl:=oi h
 simp
theorem zLr(fuel:Nat):(∀(c1:zMZ)(left2:Int)(depth3:Int)(r:Int)(_:zCf fuel c1 left2 depth3=some r),Pure Tryz.prog 178 [.agg (zMZ.d c1),iI left2,iI depth3] (iI r)):=by
 induction fuel with
 |zero=>intro c1 left2 depth3 r h;rw[zCf] at h;cases h
 |succ fuel zMD=>
  intro c1 left2 depth3 r h
  rw[zCf] at h
  refine zAA Tryz.func178 (by rfl) (by rfl) (by simp) (by simp) (by simp)<|cutA 38 0 [(1,iI left2),(2,iI depth3),(3,pT 0)] [(zMZ.d c1)]<|zAD<|cutA 38 0 [(1,iI left2),(2,iI depth3),(3,pT 0),(10,.bool (ltI 400 depth3))] [(zMZ.d c1)]<|spc h rfl (fun g4 h=>?_) fun g4 h=>?_
  ·have c5:=ltT g4
   refine cutA 38 0 [(6,iI left2)] [(zMZ.d c1)]<|zAB<|zAE ?_
   obtain rfl:=oi h
   simp
  have c6:=ltF g4
  refine zAC<|zAH<|cutA 38 0 [(1,iI left2),(2,iI depth3),(3,pT 0),(7,iI 1)] [(zMZ.d c1)]<|zAD<|cutA 38 0 [(1,iI left2),(2,iI depth3),(3,pT 0),(7,iI 1),(8,iI 0)] [(zMZ.d c1)]<|zAF ?_
  obtain⟨o9,l10,h⟩:=bs h
  refine zAm (fun p:Nat×Int×Nat=>mkS 38 0 [(1,iI left2),(2,iI depth3),(3,pT 0),(7,iI p.2.1),(8,iI p.2.2)] [(zMZ.d c1)]) (fun p=>zCw (zCf fuel) c1 left2 depth3 p.1 p.2.1 p.2.2=some o9) (fun p=>p.1) (fuel,1,0) l10 (zAL (by simp)) ?_
  rintro⟨k11,n7,i8⟩ l10
  try dsimp only at l10 ⊢
  cases k11 with
  |zero=>
   rw[zCw] at l10;cases l10
  |succ k12=>
   rw[zCw] at l10
   refine zAD<|cut 38 0 [(1,iI left2),(2,iI depth3),(3,pT 0),(7,iI n7),(8,iI i8),(21,.bool ((ltI i8 c1.L.length)&&(ltI n7 left2)))] [(zMZ.d c1)] ?_ ?_
   ·rcases tf (ltI i8 c1.L.length) with g13|g13
    ·have c14:=ltT g13
     refine zCB 0 5 rfl rfl rfl fun f15=>?_
     rw[zq4] at f15
     refine st ?_
     simp[g13]
    have c16:=ltF g13
    refine zCB 0 5 rfl rfl rfl fun f17=>?_
    rw[zq4] at f17
    refine st ?_
    simp[g13]
   rcases sp l10 with ⟨g18,l10⟩|⟨g18,l10⟩
   ·obtain⟨g19,g20⟩:=andT g18
    have c21:=ltT g19
    have c23:=ltT g20
    refine zEk rfl g18<|zCB 0 5 rfl rfl rfl fun f22=>?_
    rw[zq4] at f22
    refine zAC<|zAH<|zAD<|zAF ?_
    obtain⟨x24,q25,l10⟩:=bs l10
    obtain⟨n26,q27,l10⟩:=bs l10
    obtain⟨q28,q29⟩:=zBj q27
    try simp at q28
    try simp at q29
    have c30:=q28;simp only[Rng,inR] at c30
    obtain⟨n31,q32,l10⟩:=bs l10
    obtain⟨q33,q34⟩:=zBj q32
    try simp at q33
    try simp at q34
    have c35:=q33;simp only[Rng,inR] at c35
    obtain⟨v36,q37,l10⟩:=bs l10
    obtain⟨n38,q39,l10⟩:=bs l10
    obtain⟨q40,q41⟩:=zBj q39
    try simp at q40
    try simp at q41
    have c42:=q40;simp only[Rng,inR] at c42
    refine last 38 0 [(1,iI left2),(2,iI depth3),(3,pT 0),(7,iI n38),(8,iI i8)] [(zMZ.d c1)] ?_ fun zz hs=>?_
    ·refine st ?_
     simp[q25,q28,q29,q33,q34,q40,q41]
     have r44:=zMD x24 n26 n31 v36 q37
     try simp[q25,q28,q29,q33,q34,q40,q41] at r44
     refine cP r44 ?_
     simp[q25,q28,q29,q33,q34,q40,q41]
    refine zC1<|zAM ?_ hs
    have q43:Rng .i64 (((i8:Nat):Int)+1):=by simp only[Rng,inR];omega
    try simp at q43
    refine last 38 0 [(1,iI left2),(2,iI depth3),(3,pT 0),(7,iI n38),(8,iI ((i8+1:Nat):Int))] [(zMZ.d c1)] (st (by simp[q43])) fun zz hs=>?_
    exact⟨(k12,n38,i8+1),hs,l10,by simp⟩
   refine zEc rfl g18<|zAQ<|zAG ?_
   have q45:=zqa l10
   have q45:=q45.symm
   refine zAG<|zAS<|zAM (t:=mkS 38 0 [(7,iI o9)] [(zMZ.d c1)]) ?_ (zAL (by simp[q45]))
   refine cutA 38 0 [(6,iI o9)] [(zMZ.d c1)]<|zAB ?_
   obtain rfl:=oi h
   simp
theorem zI2(fuel:Nat)(c1:zMZ)(r:Bool)(h:zGW fuel c1=some r):Pure Tryz.prog 147 [.agg (zMZ.d c1)] (.bool r):=by
 rw[zGW] at h
 refine zAA Tryz.func147 (by rfl) (by rfl) (by simp) (by simp) (by simp)<|cutA 6 0 [(1,pT 0)] [(zMZ.d c1)] ?_
 obtain⟨v2,q3,h⟩:=bs h
 refine cut 6 0 [(2,.bool (leI v2 20000))] [(zMZ.d c1)] ?_ ?_
 ·refine st ?_
  simp
  have r4:=zLr fuel c1 20001 1 v2 q3
  try simp at r4
  refine cP r4 ?_
  simp
 refine zAB ?_
 obtain rfl:=oi h
 simp
theorem zIL(op1:Int)(r:Bool)(h:zE2 op1=some r):Pure Tryz.prog 211 [iI op1] (.bool r):=by
 rw[zE2] at h
 refine zAA Tryz.func211 (by rfl) (by rfl) (by simp) (by simp) (by simp)<|cutA 17 0 [(0,iI op1)] []<|cut 17 0 [(2,.bool ((eqI op1 9)||((eqI op1 10)||((eqI op1 11)||(eqI op1 13)))))] [] ?_ ?_
 ·rcases tf (eqI op1 9) with g2|g2
  ·have c3:=eqT g2
   refine st ?_
   simp[g2]
  have c4:=eqF g2
  rcases tf (eqI op1 10) with g5|g5
  ·have c6:=eqT g5
   refine st ?_
   simp[g2,g5]
  have c7:=eqF g5
  rcases tf (eqI op1 11) with g8|g8
  ·have c9:=eqT g8
   refine st ?_
   simp[g2,g5,g8]
  have c10:=eqF g8
  refine st ?_
  simp[g2,g5,g8]
 refine zAB ?_
 obtain rfl:=oi h
 simp
theorem zLq(op1:Int)(r:Int)(h:zFi op1=some r):Pure Tryz.prog 208 [iI op1] (iI r):=by
 rw[zFi] at h
 refine zAA Tryz.func208 (by rfl) (by rfl) (by simp) (by simp) (by simp)<|cutA 17 0 [(0,iI op1)] []<|zAD<|cut 17 0 [(0,iI op1),(8,.bool ((eqI op1 6)||(eqI op1 12)))] [] ?_ ?_
 ·rcases tf (eqI op1 6) with g2|g2
  ·have c3:=eqT g2
   refine st ?_
   simp[g2]
  have c4:=eqF g2
  refine st ?_
  simp[g2]
 rcases sp h with ⟨g5,h⟩|⟨g5,h⟩
 ·refine zEk rfl g5<|cutA 17 0 [(2,iI 2)] []<|zAB<|zAE ?_
  obtain rfl:=oi h
  simp
 obtain⟨g6,g7⟩:=orF g5
 have c8:=eqF g6
 have c9:=eqF g7
 refine zEc rfl g5<|zAC<|zAH<|zAD<|cut 17 0 [(0,iI op1),(14,.bool ((eqI op1 7)||(eqI op1 8)))] [] ?_ ?_
 ·rcases tf (eqI op1 7) with g10|g10
  ·have c11:=eqT g10
   refine st ?_
   simp[g10]
  have c12:=eqF g10
  refine st ?_
  simp[g10]
 rcases sp h with ⟨g13,h⟩|⟨g13,h⟩
 ·refine zEk rfl g13<|cutA 17 0 [(2,iI (-1))] []<|zAB<|zAE ?_
  obtain rfl:=oi h
  simp
 obtain⟨g14,g15⟩:=orF g13
 have c16:=eqF g14
 have c17:=eqF g15
 refine zEc rfl g13<|zAC<|zAH<|zAD ?_
 obtain⟨v18,q19,h⟩:=bs h
 refine cut 17 0 [(16,.bool v18)] [] ?_ ?_
 ·refine st ?_
  simp
  have r21:=zIL op1 v18 q19
  try simp at r21
  refine cP r21 ?_
  simp
 refine spc h rfl (fun g20 h=>?_) fun g20 h=>?_
 ·refine cutA 17 0 [(2,iI 1)] []<|zAB<|zAE ?_
  obtain rfl:=oi h
  simp
 refine zAC<|zAH<|cutA 17 0 [(2,iI 0)] []<|zAB ?_
 obtain rfl:=oi h
 simp
theorem zIK(fuel:Nat)(l1:(List (List UInt8)))(r:Bool)(h:zEJ fuel l1=some r):Pure Tryz.prog 209 [.sl (l1.map cS)] (.bool r):=by
 rw[zEJ] at h
 refine zAA Tryz.func209 (by rfl) (by rfl) (by simp) (by simp) (by simp)<|cutA 23 0 [(0,.sl (l1.map cS))] []<|zAD<|cutA 23 0 [(0,.sl (l1.map cS)),(3,iI 0)] []<|zAF ?_
 obtain⟨o4,l5,h⟩:=bs h
 refine zAm (fun p:Nat×Nat=>mkS 23 0 [(0,.sl (l1.map cS)),(3,iI p.2)] []) (fun p=>zC2 fuel l1 p.1 p.2=some o4) (fun p=>p.1) (fuel,0) l5 (zAL (by simp)) ?_
 rintro⟨k6,i2⟩ l5
 try dsimp only at l5 ⊢
 cases k6 with
 |zero=>
  rw[zC2] at l5;cases l5
 |succ k7=>
  rw[zC2] at l5
  refine zAD<|cutA 23 0 [(0,.sl (l1.map cS)),(3,iI i2),(7,.bool (ltI i2 l1.length))] []<|spc l5 rfl (fun g8 l5=>?_) fun g8 l5=>?_
  ·have c9:=ltT g8
   refine zCA 0 rfl fun f10=>?_
   rw[zq4] at f10
   refine zAC<|zAH<|zAD<|zAF ?_
   obtain⟨x11,q12,l5⟩:=bs l5
   obtain⟨v13,q14,l5⟩:=bs l5
   refine cut 23 0 [(0,.sl (l1.map cS)),(3,iI i2),(15,.bool (!v13))] [] ?_ ?_
   ·refine st ?_
    simp[q12]
    have r19:=zF6 fuel x11 v13 q14
    try simp[q12] at r19
    refine cP r19 ?_
    simp[q12]
   refine spc l5 rfl (fun g15 l5=>?_) fun g15 l5=>?_
   ·have g16:=notT g15
    refine cutA 23 0 [(2,.bool false)] []<|zAB<|zAK<|zAE ?_
    replace h:=retL l5 h
    refine zAE<|zAK<|zAE ?_
    obtain rfl:=oi h
    simp
   have g17:=notF g15
   refine zAC<|zC1<|zAH ?_
   have q18:Rng .i64 (((i2:Nat):Int)+1):=by simp only[Rng,inR];omega
   try simp at q18
   refine last 23 0 [(0,.sl (l1.map cS)),(3,iI ((i2+1:Nat):Int))] [] (st (by simp[q18])) fun zz hs=>?_
   exact⟨(k7,i2+1),hs,l5,by simp⟩
  have c20:=ltF g8
  refine zCA 0 rfl fun f21=>?_
  rw[zq4] at f21
  refine zAQ<|zAG ?_
  rcases o4 with o4|o3
  ·cases l5
  have q22:=Sum.inr.inj (zqa l5)
  replace h:=zF0 h
  refine zAG<|zAS<|zAM (t:=mkS 23 0 [(0,.sl (l1.map cS))] []) ?_ (zAL (by simp))
  obtain⟨b30,q31,h⟩:=bs h
  refine cut 23 0 [(2,.bool b30)] [] ?_ ?_
  ·rcases sp q31 with ⟨g23,q31⟩|⟨g23,q31⟩
   ·have c24:=leT g23
    refine zCA 0 rfl fun f25=>?_
    rw[zq4] at f25
    obtain⟨v26,q27,q31⟩:=bs q31
    obtain rfl:=oi q31
    refine st ?_
    simp[g23]
    have r32:=zGi fuel l1 v26 q27
    try simp[g23] at r32
    refine cP r32 ?_
    simp[g23]
   have c28:=leF g23
   refine zCA 0 rfl fun f29=>?_
   rw[zq4] at f29
   obtain rfl:=oi q31
   refine st ?_
   simp[g23]
  refine zAB ?_
  obtain rfl:=oi h
  simp
theorem zKx(fuel:Nat)(s1:(List UInt8))(r:Int×Int)(h:zEM fuel s1=some r):Pure Tryz.prog 221 [.str s1] (.tup [iI r.1,iI r.2]):=by
 rw[zEM] at h
 refine zAA Tryz.func221 (by rfl) (by rfl) (by simp) (by simp) (by simp)<|cutA 42 0 [(0,.str s1)] []<|zAD ?_
 obtain⟨b12,q13,h⟩:=bs h
 refine cut 42 0 [(0,.str s1),(18,.bool b12)] [] ?_ ?_
 ·rcases sp q13 with ⟨g2,q13⟩|⟨g2,q13⟩
  ·have c3:=eqT g2
   obtain rfl:=oi q13
   refine st ?_
   simp[g2]
  have c4:=eqF g2
  rcases sp q13 with ⟨g5,q13⟩|⟨g5,q13⟩
  ·have c6:=ltT g5
   refine zJP 0 rfl fun f7=>?_
   obtain⟨c8,q9,q13⟩:=bs q13
   obtain rfl:=oi q13
   refine st ?_
   simp[g2,g5,q9]
  have c10:=ltF g5
  refine zJP 0 rfl fun f11=>?_
  obtain rfl:=oi q13
  refine st ?_
  simp[g2,g5]
 refine spc h rfl (fun g14 h=>?_) fun g14 h=>?_
 ·refine cutA 42 0 [(2,iI 0),(3,iI 3)] []<|zAB<|zAE ?_
  obtain rfl:=oi h
  simp
 refine zAC<|zAH<|cutA 42 0 [(0,.str s1),(4,iI 0)] []<|zAD<|cutA 42 0 [(0,.str s1),(4,iI 0),(5,iI 0)] []<|zAF ?_
 obtain⟨o18,l19,h⟩:=bs h
 refine zAm (fun p:Nat×Int×Nat=>mkS 42 0 [(0,.str s1),(4,iI p.2.1),(5,iI p.2.2)] []) (fun p=>zCS s1 p.1 p.2.1 p.2.2=some o18) (fun p=>p.1) (fuel,0,0) l19 (zAL (by simp)) ?_
 rintro⟨k20,n15,i16⟩ l19
 try dsimp only at l19 ⊢
 cases k20 with
 |zero=>
  rw[zCS] at l19;cases l19
 |succ k21=>
  rw[zCS] at l19
  refine zAD<|cutA 42 0 [(0,.str s1),(4,iI n15),(5,iI i16),(22,.bool (ltI i16 s1.length))] []<|spc l19 rfl (fun g22 l19=>?_) fun g22 l19=>?_
  ·have c23:=ltT g22
   refine zJP 0 rfl fun f24=>?_
   refine zAC<|zAH<|zAD<|zAF<|zAD ?_
   obtain⟨c25,q26,l19⟩:=bs l19
   obtain⟨v27,q28,l19⟩:=bs l19
   refine cut 42 0 [(0,.str s1),(4,iI n15),(5,iI i16),(29,.bool (!v27))] [] ?_ ?_
   ·refine st ?_
    simp[q26]
    have r49:=zI4 c25 v27 q28
    try simp[q26] at r49
    refine cP r49 ?_
    simp[q26]
   refine spc l19 rfl (fun g29 l19=>?_) fun g29 l19=>?_
   ·have g30:=notT g29
    refine cutA 42 0 [(2,iI 0),(3,iI 3)] []<|zAB<|zAE<|zAK<|zAE ?_
    replace h:=retL l19 h
    refine zAE<|zAK<|zAE ?_
    obtain rfl:=oi h
    simp
   have g31:=notF g29
   refine zAC<|zAH ?_
   obtain⟨n32,q33,l19⟩:=bs l19
   obtain⟨q34,q35⟩:=zBj q33
   try simp at q34
   try simp at q35
   have c36:=q34;simp only[Rng,inR] at c36
   obtain⟨n37,q38,l19⟩:=bs l19
   obtain⟨q39,q40⟩:=zBj q38
   try simp at q39
   try simp at q40
   have c41:=q39;simp only[Rng,inR] at c41
   have q42:Rng .i64 (n37):=by simp only[Rng,inR];omega
   obtain⟨n43,q44,l19⟩:=bs l19
   obtain⟨q45,q46⟩:=zBj q44
   try simp at q45
   try simp at q46
   have c47:=q45;simp only[Rng,inR] at c47
   refine last 42 0 [(0,.str s1),(4,iI (minI 4503599627370497 n43)),(5,iI i16)] [] (st (by simp[q34,q35,q26,q39,q40,q42,q45,q46])) fun zz hs=>?_
   refine zC1<|zAM ?_ hs
   have q48:Rng .i64 (((i16:Nat):Int)+1):=by simp only[Rng,inR];omega
   try simp at q48
   refine last 42 0 [(0,.str s1),(4,iI (minI 4503599627370497 n43)),(5,iI ((i16+1:Nat):Int))] [] (st (by simp[q48])) fun zz hs=>?_
   exact⟨(k21,minI 4503599627370497 n43,i16+1),hs,l19,by simp⟩
  have c50:=ltF g22
  refine zJP 0 rfl fun f51=>?_
  refine zAQ<|zAG ?_
  rcases o18 with o18|o17
  ·cases l19
  have q52:=Sum.inr.inj (zqa l19)
  replace h:=zF0 h
  have q52:=q52.symm
  refine zAG<|zAS<|zAM (t:=mkS 42 0 [(4,iI o17)] []) ?_ (zAL (by simp[q52]))
  refine zAD<|cutA 42 0 [(4,iI o17),(40,.bool (ltI 4503599627370496 o17))] []<|spc h rfl (fun g53 h=>?_) fun g53 h=>?_
  ·have c54:=ltT g53
   refine cutA 42 0 [(2,iI 0),(3,iI 6)] []<|zAB<|zAE ?_
   obtain rfl:=oi h
   simp
  have c55:=ltF g53
  refine zAC<|zAH<|cutA 42 0 [(2,iI o17),(3,iI 0)] []<|zAB ?_
  obtain rfl:=oi h
  simp
theorem zGh(fuel:Nat)(s1:(List UInt8))(r:Bool)(h:zDo fuel s1=some r):Pure Tryz.prog 210 [.str s1] (.bool r):=by
 rw[zDo] at h
 refine zAA Tryz.func210 (by rfl) (by rfl) (by simp) (by simp) (by simp)<|cutA 35 0 [(0,.str s1)] []<|zAD<|cutA 35 0 [(0,.str s1),(8,.bool (ltI 48 s1.length))] []<|spc h rfl (fun g2 h=>?_) fun g2 h=>?_
 ·have c3:=ltT g2
  refine zJP 0 rfl fun f4=>?_
  refine cutA 35 0 [(2,.bool false)] []<|zAB<|zAE ?_
  obtain rfl:=oi h
  simp
 have c5:=ltF g2
 refine zJP 0 rfl fun f6=>?_
 refine zAC<|zAH<|zAD<|cutA 35 0 [(0,.str s1),(3,iI 0)] []<|zAF ?_
 obtain⟨o9,l10,h⟩:=bs h
 refine zAm (fun p:Nat×Nat=>mkS 35 0 [(0,.str s1),(3,iI p.2)] []) (fun p=>zCD fuel s1 p.1 p.2=some o9) (fun p=>p.1) (fuel,0) l10 (zAL (by simp)) ?_
 rintro⟨k11,i7⟩ l10
 try dsimp only at l10 ⊢
 cases k11 with
 |zero=>
  rw[zCD] at l10;cases l10
 |succ k12=>
  rw[zCD] at l10
  refine zAD<|cutA 35 0 [(0,.str s1),(3,iI i7),(12,.bool (ltI i7 s1.length))] []<|spc l10 rfl (fun g13 l10=>?_) fun g13 l10=>?_
  ·have c14:=ltT g13
   refine zAC<|zAH<|zAD<|zAF ?_
   obtain⟨c15,q16,l10⟩:=bs l10
   refine cut 35 0 [(0,.str s1),(3,iI i7),(18,.bool (eqI c15.toNat 46))] [] (st (by simp[q16]))<|spc l10 rfl (fun g17 l10=>?_) fun g17 l10=>?_
   ·have c18:=eqT g17
    have q19:Rng .i64 (((i7:Nat):Int)+1):=by simp only[Rng,inR];omega
    try simp at q19
    obtain⟨s20,q21,l10⟩:=bs l10
    obtain⟨q22,q23⟩:=zIs q21
    try simp at q22
    try simp at q23
    obtain⟨v24,q25,l10⟩:=bs l10
    refine cut 35 0 [(0,.str s1),(3,iI i7),(5,iI v24.2)] [] ?_ ?_
    ·refine st ?_
     simp[q19,q22,q23]
     have r37:=zKx fuel s20 v24 q25
     try simp[q19,q22,q23] at r37
     refine cP r37 ?_
     simp[q19,q22,q23]
    obtain⟨b33,q34,l10⟩:=bs l10
    refine cut 35 0 [(2,.bool b33)] [] ?_ ?_
    ·obtain⟨s26,q27,q34⟩:=bs q34
     obtain⟨q28,q29⟩:=zIs q27
     try simp at q28
     try simp at q29
     obtain⟨v30,q31,q34⟩:=bs q34
     rcases sp q34 with ⟨g32,q34⟩|⟨g32,q34⟩
     ·obtain rfl:=oi q34
      refine st ?_
      simp[q28,q29,g32]
      have r35:=zD1 fuel s26 v30 q31
      try simp[q28,q29,g32] at r35
      refine cP r35 ?_
      simp[q28,q29,g32]
     obtain rfl:=oi q34
     refine st ?_
     simp[q28,q29,g32]
     have r36:=zD1 fuel s26 v30 q31
     try simp[q28,q29,g32] at r36
     refine cP r36 ?_
     simp[q28,q29,g32]
    refine zAB<|zAK<|zAE ?_
    replace h:=retL l10 h
    refine zAE<|zAK<|zAE ?_
    obtain rfl:=oi h
    simp
   have c38:=eqF g17
   refine zAC<|zC1<|zAH ?_
   have q39:Rng .i64 (((i7:Nat):Int)+1):=by simp only[Rng,inR];omega
   try simp at q39
   refine last 35 0 [(0,.str s1),(3,iI ((i7+1:Nat):Int))] [] (st (by simp[q39])) fun zz hs=>?_
   exact⟨(k12,i7+1),hs,l10,by simp⟩
  have c40:=ltF g13
  refine zAQ<|zAG ?_
  rcases o9 with o9|o8
  ·cases l10
  have q41:=Sum.inr.inj (zqa l10)
  replace h:=zF0 h
  refine zAG<|zAS<|zAM (t:=mkS 35 0 [] []) ?_ (zAL (by simp))
  refine cutA 35 0 [(2,.bool false)] []<|zAB ?_
  obtain rfl:=oi h
  simp
theorem ref09_node_ok(fuel:Nat)(c1:zMZ)(r:Bool)(h:zGE fuel c1=some r):Pure Tryz.prog 179 [.agg (zMZ.d c1)] (.bool r):=by
 rw[zGE] at h
 refine zAA Tryz.func179 (by rfl) (by rfl) (by simp) (by simp) (by simp)<|cutA 103 0 [(1,pT 0)] [(zMZ.d c1)]<|zAD<|cut 103 0 [(1,pT 0),(11,.bool ((ltI c1.Op 1)||(ltI 13 c1.Op)))] [(zMZ.d c1)] ?_ ?_
 ·rcases tf (ltI c1.Op 1) with g2|g2
  ·have c3:=ltT g2
   refine st ?_
   simp[g2]
  have c4:=ltF g2
  refine st ?_
  simp[g2]
 rcases sp h with ⟨g5,h⟩|⟨g5,h⟩
 ·refine zEk rfl g5<|cutA 103 0 [(2,.bool false)] [(zMZ.d c1)]<|zAB<|zAE ?_
  obtain rfl:=oi h
  simp
 obtain⟨g6,g7⟩:=orF g5
 have c8:=ltF g6
 have c9:=ltF g7
 refine zEc rfl g5<|zAC<|zAH ?_
 obtain⟨v10,q11,h⟩:=bs h
 refine cut 103 0 [(1,pT 0),(3,iI v10)] [(zMZ.d c1)] ?_ ?_
 ·refine st ?_
  simp
  have r99:=zLq c1.Op v10 q11
  try simp at r99
  refine cP r99 ?_
  simp
 refine zAD ?_
 obtain⟨b45,q46,h⟩:=bs h
 refine cut 103 0 [(1,pT 0),(48,.bool b45)] [(zMZ.d c1)] ?_ ?_
 ·rcases sp q46 with ⟨g12,q46⟩|⟨g12,q46⟩
  ·have c13:=leT g12
   rcases sp q46 with ⟨g14,q46⟩|⟨g14,q46⟩
   ·have g15:=notT g14
    have c16:=eqF g15
    obtain rfl:=oi q46
    refine st ?_
    simp[g12,g14]
   have g17:=notF g14
   have c18:=eqT g17
   rcases sp q46 with ⟨g19,q46⟩|⟨g19,q46⟩
   ·have g20:=notT g19
    have c21:=eqF g20
    obtain rfl:=oi q46
    refine st ?_
    simp[g12,g14,g19]
   have g22:=notF g19
   have c23:=eqT g22
   rcases sp q46 with ⟨g24,q46⟩|⟨g24,q46⟩
   ·have c25:=ltT g24
    rcases sp q46 with ⟨g26,q46⟩|⟨g26,q46⟩
    ·have g27:=notT g26
     have c28:=eqF g27
     obtain rfl:=oi q46
     refine st ?_
     simp[g12,g14,g19,g24,g26]
    have g29:=notF g26
    have c30:=eqT g29
    obtain⟨v31,q32,q46⟩:=bs q46
    obtain rfl:=oi q46
    have g12x:=g12
    try simp only[g14,g19,g24,g26] at g12x
    have g14x:=g14
    try simp only[g12,g19,g24,g26] at g14x
    have g19x:=g19
    try simp only[g12,g14,g24,g26] at g19x
    have g24x:=g24
    try simp only[g12,g14,g19,g26] at g24x
    have g26x:=g26
    try simp only[g12,g14,g19,g24] at g26x
    refine zAw<|WL.cut 30 103 0 [(1,pT 0),(30,.bool (!(eqI c1.Names.length 0))),(33,.bool (ltI v10 0)),(41,.bool (!(eqI c1.L.length c1.Names.length))),(44,.bool v31)] [(zMZ.d c1)] ?_ ?_
    ·simp[g12,g14,g19,g24,g26,g12x,g14x,g19x,g24x,g26x]
     have r97:=zIK fuel c1.Names v31 q32
     try simp[g12,g14,g19,g24,g26,g12x,g14x,g19x,g24x,g26x] at r97
     refine cP r97 ?_
     simp[g12,g14,g19,g24,g26,g12x,g14x,g19x,g24x,g26x]
    refine WL.last ?_
    simp[g12,g14,g19,g24,g26,g12x,g14x,g19x,g24x,g26x]
   have c33:=ltF g24
   obtain rfl:=oi q46
   refine st ?_
   simp[g12,g14,g19,g24]
  have c34:=leF g12
  rcases sp q46 with ⟨g35,q46⟩|⟨g35,q46⟩
  ·have c36:=ltT g35
   rcases sp q46 with ⟨g37,q46⟩|⟨g37,q46⟩
   ·have g38:=notT g37
    have c39:=eqF g38
    obtain rfl:=oi q46
    refine st ?_
    simp[g12,g35,g37]
   have g40:=notF g37
   have c41:=eqT g40
   obtain⟨v42,q43,q46⟩:=bs q46
   obtain rfl:=oi q46
   have g12x:=g12
   try simp only[g35,g37] at g12x
   have g35x:=g35
   try simp only[g12,g37] at g35x
   have g37x:=g37
   try simp only[g12,g35] at g37x
   refine zAw<|WL.cut 30 103 0 [(1,pT 0),(30,.bool false),(33,.bool (ltI v10 0)),(41,.bool (!(eqI c1.L.length c1.Names.length))),(44,.bool v42)] [(zMZ.d c1)] ?_ ?_
   ·simp[g12,g35,g37,g12x,g35x,g37x]
    have r98:=zIK fuel c1.Names v42 q43
    try simp[g12,g35,g37,g12x,g35x,g37x] at r98
    refine cP r98 ?_
    simp[g12,g35,g37,g12x,g35x,g37x]
   refine WL.last ?_
   simp[g12,g35,g37,g12x,g35x,g37x]
  have c44:=ltF g35
  obtain rfl:=oi q46
  refine st ?_
  simp[g12,g35]
 refine spc h rfl (fun g47 h=>?_) fun g47 h=>?_
 ·refine cutA 103 0 [(2,.bool false)] [(zMZ.d c1)]<|zAB<|zAE ?_
  obtain rfl:=oi h
  simp
 refine zAC<|zAH ?_
 obtain⟨o49,l50,h⟩:=bs h
 refine joinS o49 103 0 (fun j48=>[(1,pT 0)]) (fun j48=>[(zMZ.d c1)]) (fun jj=>?_) ?_
 ·refine cut 103 0 [(1,pT 0),(56,.bool ((eqI c1.Op 1)||(eqI c1.Op 3)))] [(zMZ.d c1)] ?_ ?_
  ·rcases tf (eqI c1.Op 1) with g51|g51
   ·have c52:=eqT g51
    refine st ?_
    simp[g51]
   have c53:=eqF g51
   refine st ?_
   simp[g51]
  rcases sp l50 with ⟨g54,l50⟩|⟨g54,l50⟩
  ·refine zEk rfl g54<|cut 103 0 [(1,pT 0),(64,.bool ((ltI c1.N 0)||(ltI 20000 c1.N)))] [(zMZ.d c1)] ?_ ?_
   ·rcases tf (ltI c1.N 0) with g55|g55
    ·have c56:=ltT g55
     refine st ?_
     simp[g55]
    have c57:=ltF g55
    refine st ?_
    simp[g55]
   rcases sp l50 with ⟨g58,l50⟩|⟨g58,l50⟩
   ·refine zEk rfl g58<|cutA 103 0 [(2,.bool false)] [(zMZ.d c1)]<|zAB ?_
    replace h:=retL l50 h
    refine zAE ?_
    obtain rfl:=oi h
    simp
   obtain⟨g59,g60⟩:=orF g58
   have c61:=ltF g59
   have c62:=ltF g60
   refine zEc rfl g58<|zAC ?_
   obtain rfl:=oi l50
   exact zAM (jj _ rfl) (zAL (by simp))
  obtain⟨g63,g64⟩:=orF g54
  have c65:=eqF g63
  have c66:=eqF g64
  refine zEc rfl g54<|cutA 103 0 [(1,pT 0),(67,.bool (!(eqI c1.N 0)))] [(zMZ.d c1)] ?_
  rcases sp l50 with ⟨g67,l50⟩|⟨g67,l50⟩
  ·have g68:=notT g67
   have c69:=eqF g68
   refine zEk rfl g67<|cutA 103 0 [(2,.bool false)] [(zMZ.d c1)]<|zAB ?_
   replace h:=retL l50 h
   refine zAE ?_
   obtain rfl:=oi h
   simp
  have g70:=notF g67
  have c71:=eqT g70
  refine zEc rfl g67<|zAC ?_
  obtain rfl:=oi l50
  exact zAM (jj _ rfl) (zAL (by simp))
 rintro j48 rfl
 replace h:=zF0 h
 try dsimp only
 refine zAD ?_
 obtain⟨b80,q81,h⟩:=bs h
 refine cut 103 0 [(1,pT 0),(86,.bool b80)] [(zMZ.d c1)] ?_ ?_
 ·rcases sp q81 with ⟨g72,q81⟩|⟨g72,q81⟩
  ·have c73:=eqT g72
   obtain⟨v74,q75,q81⟩:=bs q81
   rcases sp q81 with ⟨g76,q81⟩|⟨g76,q81⟩
   ·have g77:=notT g76
    obtain rfl:=oi q81
    refine st ?_
    simp[g72,g76]
    have r95:=zGh fuel c1.S v74 q75
    try simp[g72,g76] at r95
    refine cP r95 ?_
    simp[g72,g76]
   have g78:=notF g76
   obtain rfl:=oi q81
   refine st ?_
   simp[g72,g76]
   have r96:=zGh fuel c1.S v74 q75
   try simp[g72,g76] at r96
   refine cP r96 ?_
   simp[g72,g76]
  have c79:=eqF g72
  obtain rfl:=oi q81
  refine st ?_
  simp[g72]
 refine spc h rfl (fun g82 h=>?_) fun g82 h=>?_
 ·refine cutA 103 0 [(2,.bool false)] [(zMZ.d c1)]<|zAB<|zAE ?_
  obtain rfl:=oi h
  simp
 refine zAC<|zAH<|zAD ?_
 obtain⟨b88,q89,h⟩:=bs h
 refine cut 103 0 [(1,pT 0),(94,.bool b88)] [(zMZ.d c1)] ?_ ?_
 ·rcases sp q89 with ⟨g83,q89⟩|⟨g83,q89⟩
  ·have c84:=eqT g83
   obtain rfl:=oi q89
   refine st ?_
   simp[g83]
  have c85:=eqF g83
  obtain⟨v86,q87,q89⟩:=bs q89
  obtain rfl:=oi q89
  refine st ?_
  simp[g83]
  have r94:=zIL c1.Op v86 q87
  try simp[g83] at r94
  refine cP r94 ?_
  simp[g83]
 refine spc h rfl (fun g90 h=>?_) fun g90 h=>?_
 ·obtain⟨v91,q92,h⟩:=bs h
  refine cut 103 0 [(2,.bool v91)] [(zMZ.d c1)] ?_ ?_
  ·refine st ?_
   simp
   have r93:=zFv fuel c1.Kind v91 q92
   try simp at r93
   refine cP r93 ?_
   simp
  refine zAB<|zAE ?_
  obtain rfl:=oi h
  simp
 refine zAC<|zAH<|cutA 103 0 [(2,.bool (eqI c1.Kind.L.length 0))] [(zMZ.d c1)]<|zAB ?_
 obtain rfl:=oi h
 simp
theorem ref09_all_ok(fuel:Nat):(∀(c1:zMZ)(r:Bool)(_:zEL fuel c1=some r),Pure Tryz.prog 148 [.agg (zMZ.d c1)] (.bool r)):=by
 induction fuel with
 |zero=>intro c1 r h;rw[zEL] at h;cases h
 |succ fuel ih_ref09_all=>
  intro c1 r h
  rw[zEL] at h
  refine zAA Tryz.func148 (by rfl) (by rfl) (by simp) (by simp) (by simp)<|cutA 21 0 [(1,pT 0)] [(zMZ.d c1)]<|zAD ?_
  obtain⟨v2,q3,h⟩:=bs h
  refine cut 21 0 [(1,pT 0),(6,.bool (!v2))] [(zMZ.d c1)] ?_ ?_
  ·refine st ?_
   simp
   have r28:=ref09_node_ok fuel c1 v2 q3
   try simp at r28
   refine cP r28 ?_
   simp
  refine spc h rfl (fun g4 h=>?_) fun g4 h=>?_
  ·have g5:=notT g4
   refine cutA 21 0 [(2,.bool false)] [(zMZ.d c1)]<|zAB<|zAE ?_
   obtain rfl:=oi h
   simp
  have g6:=notF g4
  refine zAC<|zAH<|zAD<|cutA 21 0 [(1,pT 0),(3,iI 0)] [(zMZ.d c1)]<|zAF ?_
  obtain⟨o9,l10,h⟩:=bs h
  refine zAm (fun p:Nat×Nat=>mkS 21 0 [(1,pT 0),(3,iI p.2)] [(zMZ.d c1)]) (fun p=>zEK (zEL fuel) c1 p.1 p.2=some o9) (fun p=>p.1) (fuel,0) l10 (zAL (by simp)) ?_
  rintro⟨k11,i7⟩ l10
  try dsimp only at l10 ⊢
  cases k11 with
  |zero=>
   rw[zEK] at l10;cases l10
  |succ k12=>
   rw[zEK] at l10
   refine zAD<|cutA 21 0 [(1,pT 0),(3,iI i7),(11,.bool (ltI i7 c1.L.length))] [(zMZ.d c1)]<|spc l10 rfl (fun g13 l10=>?_) fun g13 l10=>?_
   ·have c14:=ltT g13
    refine zCB 0 5 rfl rfl rfl fun f15=>?_
    rw[zq4] at f15
    refine zAC<|zAH<|zAD<|zAF ?_
    obtain⟨x16,q17,l10⟩:=bs l10
    obtain⟨v18,q19,l10⟩:=bs l10
    refine cut 21 0 [(1,pT 0),(3,iI i7),(20,.bool (!v18))] [(zMZ.d c1)] ?_ ?_
    ·refine st ?_
     simp[q17]
     have r24:=ih_ref09_all x16 v18 q19
     try simp[q17] at r24
     refine cP r24 ?_
     simp[q17]
    refine spc l10 rfl (fun g20 l10=>?_) fun g20 l10=>?_
    ·have g21:=notT g20
     refine cutA 21 0 [(2,.bool false)] [(zMZ.d c1)]<|zAB<|zAK<|zAE ?_
     replace h:=retL l10 h
     refine zAE<|zAK<|zAE ?_
     obtain rfl:=oi h
     simp
    have g22:=notF g20
    refine zAC<|zC1<|zAH ?_
    have q23:Rng .i64 (((i7:Nat):Int)+1):=by simp only[Rng,inR];omega
    try simp at q23
    refine last 21 0 [(1,pT 0),(3,iI ((i7+1:Nat):Int))] [(zMZ.d c1)] (st (by simp[q23])) fun zz hs=>?_
    exact⟨(k12,i7+1),hs,l10,by simp⟩
   have c25:=ltF g13
   refine zCB 0 5 rfl rfl rfl fun f26=>?_
   rw[zq4] at f26
   refine zAQ<|zAG ?_
   rcases o9 with o9|o8
   ·cases l10
   have q27:=Sum.inr.inj (zqa l10)
   replace h:=zF0 h
   refine zAG<|zAS<|zAM (t:=mkS 21 0 [] [(zMZ.d c1)]) ?_ (zAL (by simp))
   refine cutA 21 0 [(2,.bool true)] [(zMZ.d c1)]<|zAB ?_
   obtain rfl:=oi h
   simp
theorem zLs(fuel:Nat)(c1:zMZ)(r:Bool)(h:zFj fuel c1=some r):Pure Tryz.prog 108 [.agg (zMZ.d c1)] (.bool r):=by
 rw[zFj] at h
 refine zAA Tryz.func108 (by rfl) (by rfl) (by simp) (by simp) (by simp)<|cutA 9 0 [(1,pT 0)] [(zMZ.d c1)] ?_
 obtain⟨b7,q8,h⟩:=bs h
 refine cut 9 0 [(2,.bool b7)] [(zMZ.d c1)] ?_ ?_
 ·obtain⟨v2,q3,q8⟩:=bs q8
  rcases sp q8 with ⟨g4,q8⟩|⟨g4,q8⟩
  ·obtain⟨v5,q6,q8⟩:=bs q8
   obtain rfl:=oi q8
   refine st ?_
   simp[g4]
   have r9:=zI2 fuel c1 v2 q3
   try simp[g4] at r9
   refine cP r9 ?_
   simp[g4]
   have r10:=ref09_all_ok fuel c1 v5 q6
   try simp[g4] at r10
   refine cP r10 ?_
   simp[g4]
  obtain rfl:=oi q8
  refine st ?_
  simp[g4]
  have r11:=zI2 fuel c1 v2 q3
  try simp[g4] at r11
  refine cP r11 ?_
  simp[g4]
 refine zAB ?_
 obtain rfl:=oi h
 simp
theorem zAl(fuel:Nat)(l1:(List zMY))(r:Bool)(h:zEt fuel l1=some r):Pure Tryz.prog 110 [.sl (l1.map zMY.c)] (.bool r):=by
 rw[zEt] at h
 refine zAA Tryz.func110 (by rfl) (by rfl) (by simp) (by simp) (by simp)<|cutA 10 0 [(0,.sl (l1.map zMY.c))] [] ?_
 obtain⟨b9,q10,h⟩:=bs h
 refine cut 10 0 [(2,.bool b9)] [] ?_ ?_
 ·rcases sp q10 with ⟨g2,q10⟩|⟨g2,q10⟩
  ·have c3:=leT g2
   refine zCA 0 rfl fun f4=>?_
   rw[zq4] at f4
   obtain⟨v5,q6,q10⟩:=bs q10
   obtain rfl:=oi q10
   refine st ?_
   simp[g2]
   have r11:=zIW fuel l1 v5 q6
   try simp[g2] at r11
   refine cP r11 ?_
   simp[g2]
  have c7:=leF g2
  refine zCA 0 rfl fun f8=>?_
  rw[zq4] at f8
  obtain rfl:=oi q10
  refine st ?_
  simp[g2]
 refine zAB ?_
 obtain rfl:=oi h
 simp
theorem zER(s1:zMa)(r:Bool)(h:zEI s1=some r):Pure Tryz.prog 111 [.agg (zMa.d s1)] (.bool r):=by
 rw[zEI] at h
 refine zAA Tryz.func111 (by rfl) (by rfl) (by simp) (by simp) (by simp)<|cutA 11 0 [(1,pT 0)] [(zMa.d s1)]<|cut 11 0 [(2,.bool ((eqI s1.Op 5)||(eqI s1.Op 6)))] [(zMa.d s1)] ?_ ?_
 ·rcases tf (eqI s1.Op 5) with g2|g2
  ·have c3:=eqT g2
   refine st ?_
   simp[g2]
  have c4:=eqF g2
  refine st ?_
  simp[g2]
 refine zAB ?_
 obtain rfl:=oi h
 simp
theorem zLw(r:(List (List UInt8)))(h:zHw=some r):Pure Tryz.prog 183 [] (.sl (r.map cS)):=by
 rw[zHw] at h
 refine zAA Tryz.func183 (by rfl) (by rfl) (by simp) (by simp) (by simp)<|cutA 2 0 [] [] ?_
 obtain⟨l1,q2,h⟩:=bs h
 obtain⟨q3,q4⟩:=lit_ok q2
 refine cut 2 0 [(0,.osl ⟨1,9⟩ (l1.map cS))] [] (st (by simp[q3,q4]))<|zAB ?_
 obtain rfl:=oi h
 simp
theorem ref01_Keys_ok(r:(List (List UInt8)))(h:zGF=some r):Pure Tryz.prog 223 [] (.sl (r.map cS)):=by
 rw[zGF] at h
 refine zAA Tryz.func223 (by rfl) (by rfl) (by simp) (by simp) (by simp)<|cutA 2 0 [] [] ?_
 obtain⟨l1,q2,h⟩:=bs h
 obtain⟨q3,q4⟩:=lit_ok q2
 refine cut 2 0 [(0,.osl ⟨1,9⟩ (l1.map cS))] [] (st (by simp[q3,q4]))<|zAB ?_
 obtain rfl:=oi h
 simp
theorem ref01_Find_ok(fuel:Nat)(l1:(List (List UInt8)))(s2:(List UInt8))(r:Int)(h:zHJ fuel l1 s2=some r):Pure Tryz.prog 222 [.sl (l1.map cS),.str s2] (iI r):=by
 rw[zHJ] at h
 refine zAA Tryz.func222 (by rfl) (by rfl) (by simp) (by simp) (by simp)<|cutA 19 0 [(0,.sl (l1.map cS)),(1,.str s2)] []<|zAD<|cutA 19 0 [(0,.sl (l1.map cS)),(1,.str s2),(5,iI 0)] []<|zAF ?_
 obtain⟨o5,l6,h⟩:=bs h
 refine zAm (fun p:Nat×Nat=>mkS 19 0 [(0,.sl (l1.map cS)),(1,.str s2),(5,iI p.2)] []) (fun p=>zCi l1 s2 p.1 p.2=some o5) (fun p=>p.1) (fuel,0) l6 (zAL (by simp)) ?_
 rintro⟨k7,i3⟩ l6
 try dsimp only at l6 ⊢
 cases k7 with
 |zero=>
  rw[zCi] at l6;cases l6
 |succ k8=>
  rw[zCi] at l6
  refine zAD<|cutA 19 0 [(0,.sl (l1.map cS)),(1,.str s2),(5,iI i3),(9,.bool (ltI i3 l1.length))] []<|spc l6 rfl (fun g9 l6=>?_) fun g9 l6=>?_
  ·have c10:=ltT g9
   refine zCA 0 rfl fun f11=>?_
   rw[zq4] at f11
   refine zAC<|zAH<|zAD<|zAF ?_
   obtain⟨x12,q13,l6⟩:=bs l6
   refine cut 19 0 [(0,.sl (l1.map cS)),(1,.str s2),(5,iI i3),(17,.bool (eqS x12 s2))] [] (st (by simp[q13]))<|spc l6 rfl (fun g14 l6=>?_) fun g14 l6=>?_
   ·refine cutA 19 0 [(4,iI i3)] []<|zAB<|zAK<|zAE ?_
    replace h:=retL l6 h
    refine zAE<|zAK<|zAE ?_
    obtain rfl:=oi h
    simp
   refine zAC<|zC1<|zAH ?_
   have q15:Rng .i64 (((i3:Nat):Int)+1):=by simp only[Rng,inR];omega
   try simp at q15
   refine last 19 0 [(0,.sl (l1.map cS)),(1,.str s2),(5,iI ((i3+1:Nat):Int))] [] (st (by simp[q15])) fun zz hs=>?_
   exact⟨(k8,i3+1),hs,l6,by simp⟩
  have c16:=ltF g9
  refine zCA 0 rfl fun f17=>?_
  rw[zq4] at f17
  refine zAQ<|zAG ?_
  rcases o5 with o5|o4
  ·cases l6
  have q18:=Sum.inr.inj (zqa l6)
  replace h:=zF0 h
  refine zAG<|zAS<|zAM (t:=mkS 19 0 [] []) ?_ (zAL (by simp))
  refine cutA 19 0 [(4,iI (-1))] []<|zAB ?_
  obtain rfl:=oi h
  simp
theorem zKH(fuel:Nat)(s1:(List UInt8))(r:Bool)(h:zEV fuel s1=some r):Pure Tryz.prog 212 [.str s1] (.bool r):=by
 rw[zEV] at h
 refine zAA Tryz.func212 (by rfl) (by rfl) (by simp) (by simp) (by simp)<|cutA 16 0 [(0,.str s1)] [] ?_
 obtain⟨b14,q15,h⟩:=bs h
 refine cut 16 0 [(2,.bool b14)] [] ?_ ?_
 ·refine zAw ?_
  obtain⟨v2,q3,q15⟩:=bs q15
  refine WL.cut 2 16 0 [(0,.str s1),(4,.bool v2)] [] ?_ ?_
  ·simp
   have r16:=zHc fuel s1 v2 q3
   try simp at r16
   refine cP r16 ?_
   simp
  rcases sp q15 with ⟨g4,q15⟩|⟨g4,q15⟩
  ·obtain⟨c5,q6,q15⟩:=bs q15
   obtain⟨v7,q8,q15⟩:=bs q15
   refine WL.cut 4 16 0 [(0,.str s1),(5,.bool v2),(8,.bool v7)] [] ?_ ?_
   ·simp[g4,q6]
    have r17:=zI3 c5 v7 q8
    try simp[g4,q6] at r17
    refine cP r17 ?_
    simp[g4,q6]
   rcases sp q15 with ⟨g9,q15⟩|⟨g9,q15⟩
   ·obtain⟨v10,q11,q15⟩:=bs q15
    obtain⟨v12,q13,q15⟩:=bs q15
    obtain rfl:=oi q15
    have g4x:=g4
    try simp only[g9] at g4x
    have g9x:=g9
    try simp only[g4] at g9x
    refine WL.cut 3 16 0 [(0,.str s1),(10,.bool v7),(11,.sl (v10.map cS))] [] ?_ ?_
    ·simp[g4,q6,g9,g4x,g9x]
     have r18:=ref01_Keys_ok v10 q11
     try simp[g4,q6,g9,g4x,g9x] at r18
     refine cP r18 ?_
     simp[g4,q6,g9,g4x,g9x]
    refine WL.cut 2 16 0 [(10,.bool v7),(13,iI v12)] [] ?_ ?_
    ·simp[g4,q6,g9,g4x,g9x]
     have r19:=ref01_Find_ok fuel v10 s1 v12 q13
     try simp[g4,q6,g9,g4x,g9x] at r19
     refine cP r19 ?_
     simp[g4,q6,g9,g4x,g9x]
    refine WL.last ?_
    simp[g4,q6,g9,g4x,g9x]
   obtain rfl:=oi q15
   have g4x:=g4
   try simp only[g9] at g4x
   have g9x:=g9
   try simp only[g4] at g9x
   refine WL.last ?_
   simp[g4,q6,g9,g4x,g9x]
  obtain rfl:=oi q15
  refine WL.last ?_
  simp[g4]
 refine zAB ?_
 obtain rfl:=oi h
 simp
theorem ref01_Fits_ok(fuel:Nat)(kind1:Int)(zKy:(List UInt8))(r:Bool)(h:zGG fuel kind1 zKy=some r):Pure Tryz.prog 184 [iI kind1,.str zKy] (.bool r):=by
 rw[zGG] at h
 refine zAA Tryz.func184 (by rfl) (by rfl) (by simp) (by simp) (by simp)<|cutA 15 0 [(0,iI kind1),(1,.str zKy)] []<|zAD<|cut 15 0 [(1,.str zKy),(10,.bool ((eqI kind1 1)||(eqI kind1 2)))] [] ?_ ?_
 ·rcases tf (eqI kind1 1) with g3|g3
  ·have c4:=eqT g3
   refine st ?_
   simp[g3]
  have c5:=eqF g3
  refine st ?_
  simp[g3]
 rcases sp h with ⟨g6,h⟩|⟨g6,h⟩
 ·refine zEk rfl g6 ?_
  obtain⟨v7,q8,h⟩:=bs h
  refine cut 15 0 [(4,.bool v7)] [] ?_ ?_
  ·refine st ?_
   simp
   have r9:=zKH fuel zKy v7 q8
   try simp at r9
   refine cP r9 ?_
   simp
  refine zAB<|zAE ?_
  obtain rfl:=oi h
  simp
 obtain⟨g10,g11⟩:=orF g6
 have c12:=eqF g10
 have c13:=eqF g11
 refine zEc rfl g6<|zAC<|zAH ?_
 obtain⟨v14,q15,h⟩:=bs h
 refine cut 15 0 [(4,.bool v14)] [] ?_ ?_
 ·refine st ?_
  simp
  have r16:=zD1 fuel zKy v14 q15
  try simp at r16
  refine cP r16 ?_
  simp
 refine zAB ?_
 obtain rfl:=oi h
 simp
theorem zLv(fuel:Nat)(s1:(List UInt8))(r:Int×(List UInt8))(h:zFl fuel s1=some r):Pure Tryz.prog 152 [.str s1] (.tup [iI r.1,.str r.2]):=by
 rw[zFl] at h
 refine zAA Tryz.func152 (by rfl) (by rfl) (by simp) (by simp) (by simp)<|cutA 44 0 [(0,.str s1)] [] ?_
 obtain⟨v2,q3,h⟩:=bs h
 refine cut 44 0 [(0,.str s1),(4,.sl (v2.map cS))] [] ?_ ?_
 ·refine st ?_
  simp
  have r45:=zLw v2 q3
  try simp at r45
  refine cP r45 ?_
  simp
 refine zAD<|cutA 44 0 [(0,.str s1),(4,.sl (v2.map cS)),(5,iI 1)] []<|zAF ?_
 obtain⟨o6,l7,h⟩:=bs h
 refine zAm (fun p:Nat×Nat=>mkS 44 0 [(0,.str s1),(4,.sl (v2.map cS)),(5,iI p.2)] []) (fun p=>zBw fuel s1 v2 p.1 p.2=some o6) (fun p=>p.1) (fuel,1) l7 (zAL (by simp)) ?_
 rintro⟨k8,k4⟩ l7
 try dsimp only at l7 ⊢
 cases k8 with
 |zero=>
  rw[zBw] at l7;cases l7
 |succ k9=>
  rw[zBw] at l7
  refine zAD<|cutA 44 0 [(0,.str s1),(4,.sl (v2.map cS)),(5,iI k4),(11,.bool (ltI k4 v2.length))] []<|spc l7 rfl (fun g10 l7=>?_) fun g10 l7=>?_
  ·have c11:=ltT g10
   refine zCA 4 rfl fun f12=>?_
   rw[zq4] at f12
   refine zAC<|zAH<|zAD<|zAF ?_
   obtain⟨x13,q14,l7⟩:=bs l7
   refine cut 44 0 [(0,.str s1),(4,.sl (v2.map cS)),(5,iI k4),(6,iI x13.length)] [] (st (by simp[q14])) ?_
   obtain⟨b33,q34,l7⟩:=bs l7
   refine cut 44 0 [(0,.str s1),(4,.sl (v2.map cS)),(5,iI k4),(6,iI x13.length),(39,.bool b33)] [] ?_ ?_
   ·rcases sp q34 with ⟨g15,q34⟩|⟨g15,q34⟩
    ·have c16:=ltT g15
     refine zJP 0 rfl fun f18=>?_
     obtain⟨s19,q20,q34⟩:=bs q34
     obtain⟨q21,q22⟩:=zIs q20
     try simp at q21
     try simp at q22
     rcases sp q34 with ⟨g23,q34⟩|⟨g23,q34⟩
     ·obtain⟨s24,q25,q34⟩:=bs q34
      obtain⟨q26,q27⟩:=zIs q25
      try simp at q26
      try simp at q27
      obtain⟨v28,q29,q34⟩:=bs q34
      obtain rfl:=oi q34
      refine zAJ [] mixed (n:=44) rfl (by decide) ?_
      simp[g15,q21,q22,q14,g23,q26,q27]
      have r41:=ref01_Fits_ok fuel ((k4:Nat):Int) s24 v28 q29
      try simp[g15,q21,q22,q14,g23,q26,q27] at r41
      refine zGN r41 (by simp) rfl ?_
      simp[g15,q21,q22,q14,g23,q26,q27]
     obtain rfl:=oi q34
     refine zAJ [] mixed (n:=44) rfl (by decide) ?_
     simp[g15,q21,q22,q14,g23]
    have c30:=ltF g15
    refine zJP 0 rfl fun f32=>?_
    obtain rfl:=oi q34
    refine zAJ [] mixed (n:=44) rfl (by decide) ?_
    simp[g15]
   refine spc l7 rfl (fun g35 l7=>?_) fun g35 l7=>?_
   ·obtain⟨s36,q37,l7⟩:=bs l7
    obtain⟨q38,q39⟩:=zIs q37
    try simp at q38
    try simp at q39
    refine cut 44 0 [(2,iI k4),(3,.str s36)] [] ?_ ?_
    ·refine zAx [999] [5] mixed (n:=44) rfl (by decide) (by decide) ?_
     simp[q38,q39]
    refine zAB<|zAK<|zAE ?_
    replace h:=retL l7 h
    refine zAE<|zAK<|zAE ?_
    obtain rfl:=oi h
    simp
   refine zAC<|zC1<|zAH ?_
   have q40:Rng .i64 (((k4:Nat):Int)+1):=by simp only[Rng,inR];omega
   try simp at q40
   refine last 44 0 [(0,.str s1),(4,.sl (v2.map cS)),(5,iI ((k4+1:Nat):Int))] [] (st (by simp[q40])) fun zz hs=>?_
   exact⟨(k9,k4+1),hs,l7,by simp⟩
  have c42:=ltF g10
  refine zCA 4 rfl fun f43=>?_
  rw[zq4] at f43
  refine zAQ<|zAG ?_
  rcases o6 with o6|o5
  ·cases l7
  have q44:=Sum.inr.inj (zqa l7)
  replace h:=zF0 h
  refine zAG<|zAS<|zAM (t:=mkS 44 0 [] []) ?_ (zAL (by simp))
  refine cutA 44 0 [(2,iI 0),(3,.str ([]:List UInt8))] []<|zAB ?_
  obtain rfl:=oi h
  simp
theorem ref24_Fits_ok(fuel:Nat)(label1:(List UInt8))(s2:zMa)(r:Bool)(h:zFQ fuel label1 s2=some r):Pure Tryz.prog 114 [.str label1,.agg (zMa.d s2)] (.bool r):=by
 rw[zFQ] at h
 refine zAA Tryz.func114 (by rfl) (by rfl) (by simp) (by simp) (by simp)<|cutA 43 0 [(0,.str label1),(3,pT 0)] [(zMa.d s2)] ?_
 obtain⟨v3,q4,h⟩:=bs h
 refine cut 43 0 [(3,pT 0),(5,iI v3.1),(6,.str v3.2)] [(zMa.d s2)] ?_ ?_
 ·refine st ?_
  simp
  have r26:=zLv fuel label1 v3 q4
  try simp at r26
  refine cP r26 ?_
  simp
 refine zAD<|cutA 43 0 [(3,pT 0),(6,.str v3.2),(12,iI v3.1)] [(zMa.d s2)]<|zAF<|cutA 43 0 [(3,pT 0),(6,.str v3.2),(12,iI v3.1),(13,.bool (eqI v3.1 1))] [(zMa.d s2)]<|spc h rfl (fun g5 h=>?_) fun g5 h=>?_
 ·have c6:=eqT g5
  refine cutA 43 0 [(4,.bool (eqI s2.Op 1))] [(zMa.d s2)]<|zAB<|zAK<|zAE ?_
  obtain rfl:=oi h
  simp
 have c7:=eqF g5
 refine cutA 43 0 [(3,pT 0),(6,.str v3.2),(12,iI v3.1),(18,.bool (eqI v3.1 2))] [(zMa.d s2)]<|spc h rfl (fun g8 h=>?_) fun g8 h=>?_
 ·have c9:=eqT g8
  refine cutA 43 0 [(4,.bool (eqI s2.Op 2))] [(zMa.d s2)]<|zAB<|zAK<|zAE ?_
  obtain rfl:=oi h
  simp
 have c10:=eqF g8
 refine cutA 43 0 [(3,pT 0),(6,.str v3.2),(12,iI v3.1),(23,.bool (eqI v3.1 3))] [(zMa.d s2)]<|spc h rfl (fun g11 h=>?_) fun g11 h=>?_
 ·have c12:=eqT g11
  refine cut 43 0 [(4,.bool ((eqI s2.Op 3)&&(eqS s2.S v3.2)))] [(zMa.d s2)] ?_ ?_
  ·rcases tf (eqI s2.Op 3) with g13|g13
   ·have c14:=eqT g13
    refine st ?_
    simp[g13]
   have c15:=eqF g13
   refine st ?_
   simp[g13]
  refine zAB<|zAK<|zAE ?_
  obtain rfl:=oi h
  simp
 have c16:=eqF g11
 refine cutA 43 0 [(3,pT 0),(12,iI v3.1),(34,.bool (eqI v3.1 4))] [(zMa.d s2)]<|spc h rfl (fun g17 h=>?_) fun g17 h=>?_
 ·have c18:=eqT g17
  obtain⟨v19,q20,h⟩:=bs h
  refine cut 43 0 [(4,.bool v19)] [(zMa.d s2)] ?_ ?_
  ·refine st ?_
   simp
   have r21:=zER s2 v19 q20
   try simp at r21
   refine cP r21 ?_
   simp
  refine zAB<|zAK<|zAE ?_
  obtain rfl:=oi h
  simp
 have c22:=eqF g17
 refine cutA 43 0 [(3,pT 0),(38,.bool (eqI v3.1 5))] [(zMa.d s2)]<|spc h rfl (fun g23 h=>?_) fun g23 h=>?_
 ·have c24:=eqT g23
  refine cutA 43 0 [(4,.bool (eqI s2.Op 4))] [(zMa.d s2)]<|zAB<|zAK<|zAE ?_
  obtain rfl:=oi h
  simp
 have c25:=eqF g23
 refine zAC<|zC1<|zAH<|cutA 43 0 [(4,.bool false)] [(zMa.d s2)]<|zAB ?_
 obtain rfl:=oi h
 simp
theorem ref24_node_ok(fuel:Nat)(s1:zMa)(r:Bool)(h:zGD fuel s1=some r):Pure Tryz.prog 81 [.agg (zMa.d s1)] (.bool r):=by
 rw[zGD] at h
 refine zAA Tryz.func81 (by rfl) (by rfl) (by simp) (by simp) (by simp)<|cutA 225 0 [(1,pT 0)] [(zMa.d s1)]<|zAD<|cut 225 0 [(1,pT 0),(11,.bool ((ltI s1.Op 1)||(ltI 6 s1.Op)))] [(zMa.d s1)] ?_ ?_
 ·rcases tf (ltI s1.Op 1) with g2|g2
  ·have c3:=ltT g2
   refine st ?_
   simp[g2]
  have c4:=ltF g2
  refine st ?_
  simp[g2]
 rcases sp h with ⟨g5,h⟩|⟨g5,h⟩
 ·refine zEk rfl g5<|cutA 225 0 [(2,.bool false)] [(zMa.d s1)]<|zAB<|zAE ?_
  obtain rfl:=oi h
  simp
 obtain⟨g6,g7⟩:=orF g5
 have c8:=ltF g6
 have c9:=ltF g7
 refine zEc rfl g5<|zAC<|zAH<|zAD ?_
 obtain⟨b22,q23,h⟩:=bs h
 refine cut 225 0 [(1,pT 0),(30,.bool b22)] [(zMa.d s1)] ?_ ?_
 ·obtain⟨v10,q11,q23⟩:=bs q23
  obtain⟨v12,q13,q23⟩:=bs q23
  rcases sp q23 with ⟨g14,q23⟩|⟨g14,q23⟩
  ·have g15:=notT g14
   obtain rfl:=oi q23
   refine zAJ [] mixed (n:=225) rfl (by decide) ?_
   simp[g14]
   have r233:=zDu s1.Op v10 q11
   try simp[g14] at r233
   refine zGN r233 (by simp) rfl ?_
   simp[g14]
   have r234:=zG6 s1.Con v12 q13
   try simp[g14] at r234
   refine zGN r234 (by simp) rfl ?_
   simp[g14]
  have g16:=notF g14
  obtain⟨v17,q18,q23⟩:=bs q23
  rcases sp q23 with ⟨g19,q23⟩|⟨g19,q23⟩
  ·obtain⟨v20,q21,q23⟩:=bs q23
   obtain rfl:=oi q23
   refine zAJ [] mixed (n:=225) rfl (by decide) ?_
   simp[g14,g19]
   have r235:=zDu s1.Op v10 q11
   try simp[g14,g19] at r235
   refine zGN r235 (by simp) rfl ?_
   simp[g14,g19]
   have r236:=zG6 s1.Con v12 q13
   try simp[g14,g19] at r236
   refine zGN r236 (by simp) rfl ?_
   simp[g14,g19]
   have r237:=zDu s1.Op v17 q18
   try simp[g14,g19] at r237
   refine zGN r237 (by simp) rfl ?_
   simp[g14,g19]
   have r238:=zLs fuel s1.Con v20 q21
   try simp[g14,g19] at r238
   refine zGN r238 (by simp) rfl ?_
   simp[g14,g19]
  obtain rfl:=oi q23
  refine zAJ [] mixed (n:=225) rfl (by decide) ?_
  simp[g14,g19]
  have r239:=zDu s1.Op v10 q11
  try simp[g14,g19] at r239
  refine zGN r239 (by simp) rfl ?_
  simp[g14,g19]
  have r240:=zG6 s1.Con v12 q13
  try simp[g14,g19] at r240
  refine zGN r240 (by simp) rfl ?_
  simp[g14,g19]
  have r241:=zDu s1.Op v17 q18
  try simp[g14,g19] at r241
  refine zGN r241 (by simp) rfl ?_
  simp[g14,g19]
 refine spc h rfl (fun g24 h=>?_) fun g24 h=>?_
 ·refine cutA 225 0 [(2,.bool false)] [(zMa.d s1)]<|zAB<|zAE ?_
  obtain rfl:=oi h
  simp
 refine zAC<|zAH<|zAD ?_
 obtain⟨b33,q34,h⟩:=bs h
 refine cut 225 0 [(1,pT 0),(51,.bool b33)] [(zMa.d s1)] ?_ ?_
 ·rcases sp q34 with ⟨g25,q34⟩|⟨g25,q34⟩
  ·have c26:=eqT g25
   obtain⟨v27,q28,q34⟩:=bs q34
   rcases sp q34 with ⟨g29,q34⟩|⟨g29,q34⟩
   ·have g30:=notT g29
    obtain rfl:=oi q34
    refine st ?_
    simp[g25,g29]
    have r231:=zFv fuel s1.Kind v27 q28
    try simp[g25,g29] at r231
    refine cP r231 ?_
    simp[g25,g29]
   have g31:=notF g29
   obtain rfl:=oi q34
   refine st ?_
   simp[g25,g29]
   have r232:=zFv fuel s1.Kind v27 q28
   try simp[g25,g29] at r232
   refine cP r232 ?_
   simp[g25,g29]
  have c32:=eqF g25
  obtain rfl:=oi q34
  refine st ?_
  simp[g25]
 refine spc h rfl (fun g35 h=>?_) fun g35 h=>?_
 ·refine cutA 225 0 [(2,.bool false)] [(zMa.d s1)]<|zAB<|zAE ?_
  obtain rfl:=oi h
  simp
 refine zAC<|zAH<|zAD ?_
 obtain⟨b44,q45,h⟩:=bs h
 refine cut 225 0 [(1,pT 0),(70,.bool b44)] [(zMa.d s1)] ?_ ?_
 ·rcases sp q45 with ⟨g36,q45⟩|⟨g36,q45⟩
  ·have c37:=eqT g36
   obtain⟨v38,q39,q45⟩:=bs q45
   rcases sp q45 with ⟨g40,q45⟩|⟨g40,q45⟩
   ·have g41:=notT g40
    obtain rfl:=oi q45
    refine st ?_
    simp[g36,g40]
    have r229:=zD1 fuel s1.S v38 q39
    try simp[g36,g40] at r229
    refine cP r229 ?_
    simp[g36,g40]
   have g42:=notF g40
   obtain rfl:=oi q45
   refine st ?_
   simp[g36,g40]
   have r230:=zD1 fuel s1.S v38 q39
   try simp[g36,g40] at r230
   refine cP r230 ?_
   simp[g36,g40]
  have c43:=eqF g36
  obtain rfl:=oi q45
  refine st ?_
  simp[g36]
 refine spc h rfl (fun g46 h=>?_) fun g46 h=>?_
 ·refine cutA 225 0 [(2,.bool false)] [(zMa.d s1)]<|zAB<|zAE ?_
  obtain rfl:=oi h
  simp
 refine zAC<|zAH<|zAD ?_
 obtain⟨b97,q98,h⟩:=bs h
 refine cut 225 0 [(1,pT 0),(112,.bool b97)] [(zMa.d s1)] ?_ ?_
 ·obtain⟨v47,q48,q98⟩:=bs q98
  rcases sp q98 with ⟨g49,q98⟩|⟨g49,q98⟩
  ·have g50:=notT g49
   obtain rfl:=oi q98
   refine zAw<|WL.cut 3 225 0 [(1,pT 0),(73,.bool v47)] [(zMa.d s1)] ?_ ?_
   ·simp[g49]
    have r208:=zAl fuel s1.Kinds v47 q48
    try simp[g49] at r208
    refine cP r208 ?_
    simp[g49]
   refine WL.last ?_
   simp[g49]
  have g51:=notF g49
  obtain⟨v52,q53,q98⟩:=bs q98
  rcases sp q98 with ⟨g54,q98⟩|⟨g54,q98⟩
  ·have g55:=notT g54
   obtain rfl:=oi q98
   have g49x:=g49
   try simp only[g54] at g49x
   have g54x:=g54
   try simp only[g49] at g54x
   refine zAw<|WL.cut 3 225 0 [(1,pT 0),(73,.bool v47)] [(zMa.d s1)] ?_ ?_
   ·simp[g49,g54,g49x,g54x]
    have r209:=zAl fuel s1.Kinds v47 q48
    try simp[g49,g54,g49x,g54x] at r209
    refine cP r209 ?_
    simp[g49,g54,g49x,g54x]
   refine WL.cut 5 225 0 [(1,pT 0),(75,.bool (!v47)),(78,.bool v52)] [(zMa.d s1)] ?_ ?_
   ·simp[g49,g54,g49x,g54x]
    have r210:=zAl fuel s1.More v52 q53
    try simp[g49,g54,g49x,g54x] at r210
    refine cP r210 ?_
    simp[g49,g54,g49x,g54x]
   refine WL.last ?_
   simp[g49,g54,g49x,g54x]
  have g56:=notF g54
  rcases sp q98 with ⟨g57,q98⟩|⟨g57,q98⟩
  ·have c58:=ltT g57
   refine zCB 0 10 rfl rfl rfl fun f59=>?_
   rw[zq4] at f59
   rcases sp q98 with ⟨g60,q98⟩|⟨g60,q98⟩
   ·have g61:=notT g60
    have c62:=eqF g61
    rcases sp q98 with ⟨g63,q98⟩|⟨g63,q98⟩
    ·have g64:=notT g63
     have c65:=eqF g64
     obtain rfl:=oi q98
     have g49x:=g49
     try simp only[g54,g57,g60,g63] at g49x
     have g54x:=g54
     try simp only[g49,g57,g60,g63] at g54x
     have g57x:=g57
     try simp only[g49,g54,g60,g63] at g57x
     have g60x:=g60
     try simp only[g49,g54,g57,g63] at g60x
     have g63x:=g63
     try simp only[g49,g54,g57,g60] at g63x
     refine zAw<|WL.cut 3 225 0 [(1,pT 0),(73,.bool v47)] [(zMa.d s1)] ?_ ?_
     ·simp[g49,g54,g57,g60,g63,g49x,g54x,g57x,g60x,g63x]
      have r211:=zAl fuel s1.Kinds v47 q48
      try simp[g49,g54,g57,g60,g63,g49x,g54x,g57x,g60x,g63x] at r211
      refine cP r211 ?_
      simp[g49,g54,g57,g60,g63,g49x,g54x,g57x,g60x,g63x]
     refine WL.cut 5 225 0 [(1,pT 0),(75,.bool (!v47)),(78,.bool v52)] [(zMa.d s1)] ?_ ?_
     ·simp[g49,g54,g57,g60,g63,g49x,g54x,g57x,g60x,g63x]
      have r212:=zAl fuel s1.More v52 q53
      try simp[g49,g54,g57,g60,g63,g49x,g54x,g57x,g60x,g63x] at r212
      refine cP r212 ?_
      simp[g49,g54,g57,g60,g63,g49x,g54x,g57x,g60x,g63x]
     refine WL.last ?_
     simp[g49,g54,g57,g60,g63,g49x,g54x,g57x,g60x,g63x]
    have g66:=notF g63
    have c67:=eqT g66
    rcases sp q98 with ⟨g68,q98⟩|⟨g68,q98⟩
    ·have c69:=ltT g68
     refine zCB 0 11 rfl rfl rfl fun f70=>?_
     rw[zq4] at f70
     obtain rfl:=oi q98
     have g49x:=g49
     try simp only[g54,g57,g60,g63,g68] at g49x
     have g54x:=g54
     try simp only[g49,g57,g60,g63,g68] at g54x
     have g57x:=g57
     try simp only[g49,g54,g60,g63,g68] at g57x
     have g60x:=g60
     try simp only[g49,g54,g57,g63,g68] at g60x
     have g63x:=g63
     try simp only[g49,g54,g57,g60,g68] at g63x
     have g68x:=g68
     try simp only[g49,g54,g57,g60,g63] at g68x
     refine zAw<|WL.cut 3 225 0 [(1,pT 0),(73,.bool v47)] [(zMa.d s1)] ?_ ?_
     ·simp[g49,g54,g57,g60,g63,g68,g49x,g54x,g57x,g60x,g63x,g68x]
      have r213:=zAl fuel s1.Kinds v47 q48
      try simp[g49,g54,g57,g60,g63,g68,g49x,g54x,g57x,g60x,g63x,g68x] at r213
      refine cP r213 ?_
      simp[g49,g54,g57,g60,g63,g68,g49x,g54x,g57x,g60x,g63x,g68x]
     refine WL.cut 5 225 0 [(1,pT 0),(75,.bool (!v47)),(78,.bool v52)] [(zMa.d s1)] ?_ ?_
     ·simp[g49,g54,g57,g60,g63,g68,g49x,g54x,g57x,g60x,g63x,g68x]
      have r214:=zAl fuel s1.More v52 q53
      try simp[g49,g54,g57,g60,g63,g68,g49x,g54x,g57x,g60x,g63x,g68x] at r214
      refine cP r214 ?_
      simp[g49,g54,g57,g60,g63,g68,g49x,g54x,g57x,g60x,g63x,g68x]
     refine WL.last ?_
     simp[g49,g54,g57,g60,g63,g68,g49x,g54x,g57x,g60x,g63x,g68x]
    have c71:=ltF g68
    refine zCB 0 11 rfl rfl rfl fun f72=>?_
    rw[zq4] at f72
    obtain rfl:=oi q98
    have g49x:=g49
    try simp only[g54,g57,g60,g63,g68] at g49x
    have g54x:=g54
    try simp only[g49,g57,g60,g63,g68] at g54x
    have g57x:=g57
    try simp only[g49,g54,g60,g63,g68] at g57x
    have g60x:=g60
    try simp only[g49,g54,g57,g63,g68] at g60x
    have g63x:=g63
    try simp only[g49,g54,g57,g60,g68] at g63x
    have g68x:=g68
    try simp only[g49,g54,g57,g60,g63] at g68x
    refine zAw<|WL.cut 3 225 0 [(1,pT 0),(73,.bool v47)] [(zMa.d s1)] ?_ ?_
    ·simp[g49,g54,g57,g60,g63,g68,g49x,g54x,g57x,g60x,g63x,g68x]
     have r215:=zAl fuel s1.Kinds v47 q48
     try simp[g49,g54,g57,g60,g63,g68,g49x,g54x,g57x,g60x,g63x,g68x] at r215
     refine cP r215 ?_
     simp[g49,g54,g57,g60,g63,g68,g49x,g54x,g57x,g60x,g63x,g68x]
    refine WL.cut 5 225 0 [(1,pT 0),(75,.bool (!v47)),(78,.bool v52)] [(zMa.d s1)] ?_ ?_
    ·simp[g49,g54,g57,g60,g63,g68,g49x,g54x,g57x,g60x,g63x,g68x]
     have r216:=zAl fuel s1.More v52 q53
     try simp[g49,g54,g57,g60,g63,g68,g49x,g54x,g57x,g60x,g63x,g68x] at r216
     refine cP r216 ?_
     simp[g49,g54,g57,g60,g63,g68,g49x,g54x,g57x,g60x,g63x,g68x]
    refine WL.last ?_
    simp[g49,g54,g57,g60,g63,g68,g49x,g54x,g57x,g60x,g63x,g68x]
   have g73:=notF g60
   have c74:=eqT g73
   rcases sp q98 with ⟨g75,q98⟩|⟨g75,q98⟩
   ·have c76:=ltT g75
    refine zCB 0 11 rfl rfl rfl fun f77=>?_
    rw[zq4] at f77
    rcases sp q98 with ⟨g78,q98⟩|⟨g78,q98⟩
    ·have g79:=notT g78
     have c80:=eqF g79
     obtain rfl:=oi q98
     have g49x:=g49
     try simp only[g54,g57,g60,g75,g78] at g49x
     have g54x:=g54
     try simp only[g49,g57,g60,g75,g78] at g54x
     have g57x:=g57
     try simp only[g49,g54,g60,g75,g78] at g57x
     have g60x:=g60
     try simp only[g49,g54,g57,g75,g78] at g60x
     have g75x:=g75
     try simp only[g49,g54,g57,g60,g78] at g75x
     have g78x:=g78
     try simp only[g49,g54,g57,g60,g75] at g78x
     refine zAw<|WL.cut 3 225 0 [(1,pT 0),(73,.bool v47)] [(zMa.d s1)] ?_ ?_
     ·simp[g49,g54,g57,g60,g75,g78,g49x,g54x,g57x,g60x,g75x,g78x]
      have r217:=zAl fuel s1.Kinds v47 q48
      try simp[g49,g54,g57,g60,g75,g78,g49x,g54x,g57x,g60x,g75x,g78x] at r217
      refine cP r217 ?_
      simp[g49,g54,g57,g60,g75,g78,g49x,g54x,g57x,g60x,g75x,g78x]
     refine WL.cut 5 225 0 [(1,pT 0),(75,.bool (!v47)),(78,.bool v52)] [(zMa.d s1)] ?_ ?_
     ·simp[g49,g54,g57,g60,g75,g78,g49x,g54x,g57x,g60x,g75x,g78x]
      have r218:=zAl fuel s1.More v52 q53
      try simp[g49,g54,g57,g60,g75,g78,g49x,g54x,g57x,g60x,g75x,g78x] at r218
      refine cP r218 ?_
      simp[g49,g54,g57,g60,g75,g78,g49x,g54x,g57x,g60x,g75x,g78x]
     refine WL.last ?_
     simp[g49,g54,g57,g60,g75,g78,g49x,g54x,g57x,g60x,g75x,g78x]
    have g81:=notF g78
    have c82:=eqT g81
    obtain rfl:=oi q98
    have g49x:=g49
    try simp only[g54,g57,g60,g75,g78] at g49x
    have g54x:=g54
    try simp only[g49,g57,g60,g75,g78] at g54x
    have g57x:=g57
    try simp only[g49,g54,g60,g75,g78] at g57x
    have g60x:=g60
    try simp only[g49,g54,g57,g75,g78] at g60x
    have g75x:=g75
    try simp only[g49,g54,g57,g60,g78] at g75x
    have g78x:=g78
    try simp only[g49,g54,g57,g60,g75] at g78x
    refine zAw<|WL.cut 3 225 0 [(1,pT 0),(73,.bool v47)] [(zMa.d s1)] ?_ ?_
    ·simp[g49,g54,g57,g60,g75,g78,g49x,g54x,g57x,g60x,g75x,g78x]
     have r219:=zAl fuel s1.Kinds v47 q48
     try simp[g49,g54,g57,g60,g75,g78,g49x,g54x,g57x,g60x,g75x,g78x] at r219
     refine cP r219 ?_
     simp[g49,g54,g57,g60,g75,g78,g49x,g54x,g57x,g60x,g75x,g78x]
    refine WL.cut 5 225 0 [(1,pT 0),(75,.bool (!v47)),(78,.bool v52)] [(zMa.d s1)] ?_ ?_
    ·simp[g49,g54,g57,g60,g75,g78,g49x,g54x,g57x,g60x,g75x,g78x]
     have r220:=zAl fuel s1.More v52 q53
     try simp[g49,g54,g57,g60,g75,g78,g49x,g54x,g57x,g60x,g75x,g78x] at r220
     refine cP r220 ?_
     simp[g49,g54,g57,g60,g75,g78,g49x,g54x,g57x,g60x,g75x,g78x]
    refine WL.last ?_
    simp[g49,g54,g57,g60,g75,g78,g49x,g54x,g57x,g60x,g75x,g78x]
   have c83:=ltF g75
   refine zCB 0 11 rfl rfl rfl fun f84=>?_
   rw[zq4] at f84
   obtain rfl:=oi q98
   have g49x:=g49
   try simp only[g54,g57,g60,g75] at g49x
   have g54x:=g54
   try simp only[g49,g57,g60,g75] at g54x
   have g57x:=g57
   try simp only[g49,g54,g60,g75] at g57x
   have g60x:=g60
   try simp only[g49,g54,g57,g75] at g60x
   have g75x:=g75
   try simp only[g49,g54,g57,g60] at g75x
   refine zAw<|WL.cut 3 225 0 [(1,pT 0),(73,.bool v47)] [(zMa.d s1)] ?_ ?_
   ·simp[g49,g54,g57,g60,g75,g49x,g54x,g57x,g60x,g75x]
    have r221:=zAl fuel s1.Kinds v47 q48
    try simp[g49,g54,g57,g60,g75,g49x,g54x,g57x,g60x,g75x] at r221
    refine cP r221 ?_
    simp[g49,g54,g57,g60,g75,g49x,g54x,g57x,g60x,g75x]
   refine WL.cut 5 225 0 [(1,pT 0),(75,.bool (!v47)),(78,.bool v52)] [(zMa.d s1)] ?_ ?_
   ·simp[g49,g54,g57,g60,g75,g49x,g54x,g57x,g60x,g75x]
    have r222:=zAl fuel s1.More v52 q53
    try simp[g49,g54,g57,g60,g75,g49x,g54x,g57x,g60x,g75x] at r222
    refine cP r222 ?_
    simp[g49,g54,g57,g60,g75,g49x,g54x,g57x,g60x,g75x]
   refine WL.last ?_
   simp[g49,g54,g57,g60,g75,g49x,g54x,g57x,g60x,g75x]
  have c85:=ltF g57
  refine zCB 0 10 rfl rfl rfl fun f86=>?_
  rw[zq4] at f86
  rcases sp q98 with ⟨g87,q98⟩|⟨g87,q98⟩
  ·have c88:=ltT g87
   refine zCB 0 11 rfl rfl rfl fun f89=>?_
   rw[zq4] at f89
   rcases sp q98 with ⟨g90,q98⟩|⟨g90,q98⟩
   ·have g91:=notT g90
    have c92:=eqF g91
    obtain rfl:=oi q98
    have g49x:=g49
    try simp only[g54,g57,g87,g90] at g49x
    have g54x:=g54
    try simp only[g49,g57,g87,g90] at g54x
    have g57x:=g57
    try simp only[g49,g54,g87,g90] at g57x
    have g87x:=g87
    try simp only[g49,g54,g57,g90] at g87x
    have g90x:=g90
    try simp only[g49,g54,g57,g87] at g90x
    refine zAw<|WL.cut 3 225 0 [(1,pT 0),(73,.bool v47)] [(zMa.d s1)] ?_ ?_
    ·simp[g49,g54,g57,g87,g90,g49x,g54x,g57x,g87x,g90x]
     have r223:=zAl fuel s1.Kinds v47 q48
     try simp[g49,g54,g57,g87,g90,g49x,g54x,g57x,g87x,g90x] at r223
     refine cP r223 ?_
     simp[g49,g54,g57,g87,g90,g49x,g54x,g57x,g87x,g90x]
    refine WL.cut 5 225 0 [(1,pT 0),(75,.bool (!v47)),(78,.bool v52)] [(zMa.d s1)] ?_ ?_
    ·simp[g49,g54,g57,g87,g90,g49x,g54x,g57x,g87x,g90x]
     have r224:=zAl fuel s1.More v52 q53
     try simp[g49,g54,g57,g87,g90,g49x,g54x,g57x,g87x,g90x] at r224
     refine cP r224 ?_
     simp[g49,g54,g57,g87,g90,g49x,g54x,g57x,g87x,g90x]
    refine WL.last ?_
    simp[g49,g54,g57,g87,g90,g49x,g54x,g57x,g87x,g90x]
   have g93:=notF g90
   have c94:=eqT g93
   obtain rfl:=oi q98
   have g49x:=g49
   try simp only[g54,g57,g87,g90] at g49x
   have g54x:=g54
   try simp only[g49,g57,g87,g90] at g54x
   have g57x:=g57
   try simp only[g49,g54,g87,g90] at g57x
   have g87x:=g87
   try simp only[g49,g54,g57,g90] at g87x
   have g90x:=g90
   try simp only[g49,g54,g57,g87] at g90x
   refine zAw<|WL.cut 3 225 0 [(1,pT 0),(73,.bool v47)] [(zMa.d s1)] ?_ ?_
   ·simp[g49,g54,g57,g87,g90,g49x,g54x,g57x,g87x,g90x]
    have r225:=zAl fuel s1.Kinds v47 q48
    try simp[g49,g54,g57,g87,g90,g49x,g54x,g57x,g87x,g90x] at r225
    refine cP r225 ?_
    simp[g49,g54,g57,g87,g90,g49x,g54x,g57x,g87x,g90x]
   refine WL.cut 5 225 0 [(1,pT 0),(75,.bool (!v47)),(78,.bool v52)] [(zMa.d s1)] ?_ ?_
   ·simp[g49,g54,g57,g87,g90,g49x,g54x,g57x,g87x,g90x]
    have r226:=zAl fuel s1.More v52 q53
    try simp[g49,g54,g57,g87,g90,g49x,g54x,g57x,g87x,g90x] at r226
    refine cP r226 ?_
    simp[g49,g54,g57,g87,g90,g49x,g54x,g57x,g87x,g90x]
   refine WL.last ?_
   simp[g49,g54,g57,g87,g90,g49x,g54x,g57x,g87x,g90x]
  have c95:=ltF g87
  refine zCB 0 11 rfl rfl rfl fun f96=>?_
  rw[zq4] at f96
  obtain rfl:=oi q98
  have g49x:=g49
  try simp only[g54,g57,g87] at g49x
  have g54x:=g54
  try simp only[g49,g57,g87] at g54x
  have g57x:=g57
  try simp only[g49,g54,g87] at g57x
  have g87x:=g87
  try simp only[g49,g54,g57] at g87x
  refine zAw<|WL.cut 3 225 0 [(1,pT 0),(73,.bool v47)] [(zMa.d s1)] ?_ ?_
  ·simp[g49,g54,g57,g87,g49x,g54x,g57x,g87x]
   have r227:=zAl fuel s1.Kinds v47 q48
   try simp[g49,g54,g57,g87,g49x,g54x,g57x,g87x] at r227
   refine cP r227 ?_
   simp[g49,g54,g57,g87,g49x,g54x,g57x,g87x]
  refine WL.cut 5 225 0 [(1,pT 0),(75,.bool (!v47)),(78,.bool v52)] [(zMa.d s1)] ?_ ?_
  ·simp[g49,g54,g57,g87,g49x,g54x,g57x,g87x]
   have r228:=zAl fuel s1.More v52 q53
   try simp[g49,g54,g57,g87,g49x,g54x,g57x,g87x] at r228
   refine cP r228 ?_
   simp[g49,g54,g57,g87,g49x,g54x,g57x,g87x]
  refine WL.last ?_
  simp[g49,g54,g57,g87,g49x,g54x,g57x,g87x]
 refine spc h rfl (fun g99 h=>?_) fun g99 h=>?_
 ·refine cutA 225 0 [(2,.bool false)] [(zMa.d s1)]<|zAB<|zAE ?_
  obtain rfl:=oi h
  simp
 refine zAC<|zAH<|zAD<|cut 225 0 [(1,pT 0),(136,.bool (if !(eqI s1.N 0) then (!(eqI s1.Op 6))||((!(eqI s1.N 1))||((ltI 0 s1.Names.length)&&(!(eqI s1.Op 5)))) else (ltI 0 s1.Names.length)&&(!(eqI s1.Op 5))))] [(zMa.d s1)] ?_ ?_
 ·rcases tf (!(eqI s1.N 0)) with g100|g100
  ·have g101:=notT g100
   have c102:=eqF g101
   rcases tf (!(eqI s1.Op 6)) with g103|g103
   ·have g104:=notT g103
    have c105:=eqF g104
    refine st ?_
    simp[g100,g103]
   have g106:=notF g103
   have c107:=eqT g106
   rcases tf (!(eqI s1.N 1)) with g108|g108
   ·have g109:=notT g108
    have c110:=eqF g109
    refine st ?_
    simp[g100,g103,g108]
   have g111:=notF g108
   have c112:=eqT g111
   rcases tf (ltI 0 s1.Names.length) with g113|g113
   ·have c114:=ltT g113
    refine zCB 0 12 rfl rfl rfl fun f115=>?_
    rw[zq4] at f115
    refine st ?_
    simp[g100,g103,g108,g113]
   have c116:=ltF g113
   refine zCB 0 12 rfl rfl rfl fun f117=>?_
   rw[zq4] at f117
   refine st ?_
   simp[g100,g103,g108,g113]
  have g118:=notF g100
  have c119:=eqT g118
  rcases tf (ltI 0 s1.Names.length) with g120|g120
  ·have c121:=ltT g120
   refine zCB 0 12 rfl rfl rfl fun f122=>?_
   rw[zq4] at f122
   refine st ?_
   simp[g100,g120]
  have c123:=ltF g120
  refine zCB 0 12 rfl rfl rfl fun f124=>?_
  rw[zq4] at f124
  refine st ?_
  simp[g100,g120]
 refine spc h rfl (fun g125 h=>?_) fun g125 h=>?_
 ·refine cutA 225 0 [(2,.bool false)] [(zMa.d s1)]<|zAB<|zAE ?_
  obtain rfl:=oi h
  simp
 refine zAC<|zAH<|zAD<|cutA 225 0 [(1,pT 0),(138,iI s1.Op)] [(zMa.d s1)]<|zAF<|cutA 225 0 [(1,pT 0),(138,iI s1.Op),(139,.bool (eqI s1.Op 4))] [(zMa.d s1)]<|spc h rfl (fun g126 h=>?_) fun g126 h=>?_
 ·obtain⟨b135,q136,h⟩:=bs h
  refine cut 225 0 [(2,.bool b135)] [(zMa.d s1)] ?_ ?_
  ·rcases sp q136 with ⟨g128,q136⟩|⟨g128,q136⟩
   ·have c129:=eqT g128
    obtain⟨x130,q131,q136⟩:=bs q136
    obtain⟨v132,q133,q136⟩:=bs q136
    obtain rfl:=oi q136
    refine st ?_
    simp[g128,q131]
    have r137:=zER x130 v132 q133
    try simp[g128,q131] at r137
    refine cP r137 ?_
    simp[g128,q131]
   have c134:=eqF g128
   obtain rfl:=oi q136
   refine st ?_
   simp[g128]
  refine zAB<|zAK<|zAE ?_
  obtain rfl:=oi h
  simp
 refine cutA 225 0 [(1,pT 0),(138,iI s1.Op),(152,.bool (eqI s1.Op 6))] [(zMa.d s1)]<|spc h rfl (fun g139 h=>?_) fun g139 h=>?_
 ·obtain⟨b153,q154,h⟩:=bs h
  refine cut 225 0 [(2,.bool b153)] [(zMa.d s1)] ?_ ?_
  ·rcases sp q154 with ⟨g141,q154⟩|⟨g141,q154⟩
   ·have c142:=eqT g141
    obtain⟨x143,q144,q154⟩:=bs q154
    obtain⟨v145,q146,q154⟩:=bs q154
    rcases sp q154 with ⟨g147,q154⟩|⟨g147,q154⟩
    ·obtain⟨x148,q149,q154⟩:=bs q154
     obtain⟨v150,q151,q154⟩:=bs q154
     obtain rfl:=oi q154
     refine st ?_
     simp[g141,q144,g147,q149]
     have r155:=zER x143 v145 q146
     try simp[g141,q144,g147,q149] at r155
     refine cP r155 ?_
     simp[g141,q144,g147,q149]
     have r156:=zER x148 v150 q151
     try simp[g141,q144,g147,q149] at r156
     refine cP r156 ?_
     simp[g141,q144,g147,q149]
    obtain rfl:=oi q154
    refine st ?_
    simp[g141,q144,g147]
    have r157:=zER x143 v145 q146
    try simp[g141,q144,g147] at r157
    refine cP r157 ?_
    simp[g141,q144,g147]
   have c152:=eqF g141
   obtain rfl:=oi q154
   refine st ?_
   simp[g141]
  refine zAB<|zAK<|zAE ?_
  obtain rfl:=oi h
  simp
 refine cutA 225 0 [(1,pT 0),(172,.bool (eqI s1.Op 5))] [(zMa.d s1)]<|spc h rfl (fun g159 h=>?_) fun g159 h=>?_
 ·refine zAD ?_
  obtain⟨b173,q174,h⟩:=bs h
  refine cut 225 0 [(1,pT 0),(192,.bool b173)] [(zMa.d s1)] ?_ ?_
  ·rcases sp q174 with ⟨g161,q174⟩|⟨g161,q174⟩
   ·have c162:=ltT g161
    refine zCB 0 12 rfl rfl rfl fun f163=>?_
    rw[zq4] at f163
    obtain rfl:=oi q174
    refine st ?_
    simp[g161]
   have c164:=ltF g161
   refine zCB 0 12 rfl rfl rfl fun f165=>?_
   rw[zq4] at f165
   rcases sp q174 with ⟨g166,q174⟩|⟨g166,q174⟩
   ·have g167:=notT g166
    have c168:=eqF g167
    obtain rfl:=oi q174
    refine st ?_
    simp[g161,g166]
   have g169:=notF g166
   have c170:=eqT g169
   obtain⟨v171,q172,q174⟩:=bs q174
   obtain rfl:=oi q174
   refine st ?_
   simp[g161,g166]
   have r206:=zGi fuel s1.Names v171 q172
   try simp[g161,g166] at r206
   refine cP r206 ?_
   simp[g161,g166]
  refine spc h rfl (fun g175 h=>?_) fun g175 h=>?_
  ·refine cutA 225 0 [(2,.bool false)] [(zMa.d s1)]<|zAB<|zAE<|zAK<|zAE ?_
   obtain rfl:=oi h
   simp
  refine zAC<|zAH<|zAD<|cutA 225 0 [(1,pT 0),(3,iI 0)] [(zMa.d s1)]<|zAF ?_
  obtain⟨o178,l179,h⟩:=bs h
  refine zAm (fun p:Nat×Nat=>mkS 225 0 [(1,pT 0),(3,iI p.2)] [(zMa.d s1)]) (fun p=>zDG fuel s1 p.1 p.2=some o178) (fun p=>p.1) (fuel,0) l179 (zAL (by simp)) ?_
  rintro⟨k180,i176⟩ l179
  try dsimp only at l179 ⊢
  cases k180 with
  |zero=>
   rw[zDG] at l179;cases l179
  |succ k181=>
   rw[zDG] at l179
   refine zAD<|cutA 225 0 [(1,pT 0),(3,iI i176),(197,.bool (ltI i176 s1.L.length))] [(zMa.d s1)]<|spc l179 rfl (fun g182 l179=>?_) fun g182 l179=>?_
   ·have c183:=ltT g182
    refine zCB 0 13 rfl rfl rfl fun f184=>?_
    rw[zq4] at f184
    refine zAC<|zAH<|zAD<|zAF ?_
    obtain⟨b196,q197,l179⟩:=bs l179
    refine cut 225 0 [(1,pT 0),(3,iI i176),(220,.bool b196)] [(zMa.d s1)] ?_ ?_
    ·obtain⟨x185,q186,q197⟩:=bs q197
     obtain⟨v187,q188,q197⟩:=bs q197
     rcases sp q197 with ⟨g189,q197⟩|⟨g189,q197⟩
     ·have g190:=notT g189
      obtain rfl:=oi q197
      refine zAJ [] mixed (n:=225) rfl (by decide) ?_
      simp[q186,g189]
      have r200:=zF6 fuel x185 v187 q188
      try simp[q186,g189] at r200
      refine zGN r200 (by simp) rfl ?_
      simp[q186,g189]
     have g191:=notF g189
     obtain⟨x192,q193,q197⟩:=bs q197
     obtain⟨v194,q195,q197⟩:=bs q197
     obtain rfl:=oi q197
     refine zAJ [] mixed (n:=225) rfl (by decide) ?_
     simp[q186,g189,q193]
     have r201:=zF6 fuel x185 v187 q188
     try simp[q186,g189,q193] at r201
     refine zGN r201 (by simp) rfl ?_
     simp[q186,g189,q193]
     have r202:=ref24_Fits_ok fuel x185 x192 v194 q195
     try simp[q186,g189,q193] at r202
     refine zGN r202 (by simp) rfl ?_
     simp[q186,g189,q193]
    refine spc l179 rfl (fun g198 l179=>?_) fun g198 l179=>?_
    ·refine cutA 225 0 [(2,.bool false)] [(zMa.d s1)]<|zAB<|zAK<|zAE ?_
     replace h:=retL l179 h
     refine zAE<|zAK<|zAE<|zAK<|zAE ?_
     obtain rfl:=oi h
     simp
    refine zAC<|zC1<|zAH ?_
    have q199:Rng .i64 (((i176:Nat):Int)+1):=by simp only[Rng,inR];omega
    try simp at q199
    refine last 225 0 [(1,pT 0),(3,iI ((i176+1:Nat):Int))] [(zMa.d s1)] (st (by simp[q199])) fun zz hs=>?_
    exact⟨(k181,i176+1),hs,l179,by simp⟩
   have c203:=ltF g182
   refine zCB 0 13 rfl rfl rfl fun f204=>?_
   rw[zq4] at f204
   refine zAQ<|zAG ?_
   rcases o178 with o178|o177
   ·cases l179
   have q205:=Sum.inr.inj (zqa l179)
   replace h:=zF0 h
   refine zAG<|zAS<|zAM (t:=mkS 225 0 [] [(zMa.d s1)]) ?_ (zAL (by simp))
   refine cutA 225 0 [(2,.bool true)] [(zMa.d s1)]<|zAB<|zAK<|zAE ?_
   obtain rfl:=oi h
   simp
 refine zAC<|zC1<|zAH<|cutA 225 0 [(2,.bool (eqI s1.L.length 0))] [(zMa.d s1)]<|zAB ?_
 obtain rfl:=oi h
 simp
theorem ref09_Size_ok(fuel:Nat):(∀(c1:zMZ)(r:Int)(_:zDK fuel c1=some r),Pure Tryz.prog 83 [.agg (zMZ.d c1)] (iI r)):=by
 induction fuel with
 |zero=>intro c1 r h;rw[zDK] at h;cases h
 |succ fuel ih_ref09_Size=>
  intro c1 r h
  rw[zDK] at h
  refine zAA Tryz.func83 (by rfl) (by rfl) (by simp) (by simp) (by simp)<|cutA 21 0 [(1,pT 0)] [(zMZ.d c1)]<|cutA 21 0 [(1,pT 0),(3,iI 1)] [(zMZ.d c1)]<|zAD<|cutA 21 0 [(1,pT 0),(3,iI 1),(4,iI 0)] [(zMZ.d c1)]<|zAF ?_
  obtain⟨o4,l5,h⟩:=bs h
  refine zAm (fun p:Nat×Int×Nat=>mkS 21 0 [(1,pT 0),(3,iI p.2.1),(4,iI p.2.2)] [(zMZ.d c1)]) (fun p=>zDJ (zDK fuel) c1 p.1 p.2.1 p.2.2=some o4) (fun p=>p.1) (fuel,1,0) l5 (zAL (by simp)) ?_
  rintro⟨k6,n2,i3⟩ l5
  try dsimp only at l5 ⊢
  cases k6 with
  |zero=>
   rw[zDJ] at l5;cases l5
  |succ k7=>
   rw[zDJ] at l5
   refine zAD<|cutA 21 0 [(1,pT 0),(3,iI n2),(4,iI i3),(9,.bool (ltI i3 c1.L.length))] [(zMZ.d c1)]<|spc l5 rfl (fun g8 l5=>?_) fun g8 l5=>?_
   ·have c9:=ltT g8
    refine zCB 0 5 rfl rfl rfl fun f10=>?_
    rw[zq4] at f10
    refine zAC<|zAH<|zAD<|zAF ?_
    obtain⟨x11,q12,l5⟩:=bs l5
    obtain⟨v13,q14,l5⟩:=bs l5
    obtain⟨n15,q16,l5⟩:=bs l5
    obtain⟨q17,q18⟩:=zBj q16
    try simp at q17
    try simp at q18
    have c19:=q17;simp only[Rng,inR] at c19
    refine last 21 0 [(1,pT 0),(3,iI n15),(4,iI i3)] [(zMZ.d c1)] ?_ fun zz hs=>?_
    ·refine st ?_
     simp[q12,q17,q18]
     have r21:=ih_ref09_Size x11 v13 q14
     try simp[q12,q17,q18] at r21
     refine cP r21 ?_
     simp[q12,q17,q18]
    refine zC1<|zAM ?_ hs
    have q20:Rng .i64 (((i3:Nat):Int)+1):=by simp only[Rng,inR];omega
    try simp at q20
    refine last 21 0 [(1,pT 0),(3,iI n15),(4,iI ((i3+1:Nat):Int))] [(zMZ.d c1)] (st (by simp[q20])) fun zz hs=>?_
    exact⟨(k7,n15,i3+1),hs,l5,by simp⟩
   have c22:=ltF g8
   refine zCB 0 5 rfl rfl rfl fun f23=>?_
   rw[zq4] at f23
   refine zAQ<|zAG ?_
   have q24:=zqa l5
   have q24:=q24.symm
   refine zAG<|zAS<|zAM (t:=mkS 21 0 [(3,iI o4)] [(zMZ.d c1)]) ?_ (zAL (by simp[q24]))
   refine cutA 21 0 [(2,iI o4)] [(zMZ.d c1)]<|zAB ?_
   obtain rfl:=oi h
   simp
theorem zLp(fuel:Nat):(∀(s1:zMa)(left2:Int)(depth3:Int)(r:Int)(_:zCe fuel s1 left2 depth3=some r),Pure Tryz.prog 49 [.agg (zMa.d s1),iI left2,iI depth3] (iI r)):=by
 induction fuel with
 |zero=>intro s1 left2 depth3 r h;rw[zCe] at h;cases h
 |succ fuel zMC=>
  intro s1 left2 depth3 r h
  rw[zCe] at h
  refine zAA Tryz.func49 (by rfl) (by rfl) (by simp) (by simp) (by simp)<|cutA 50 0 [(1,iI left2),(2,iI depth3),(3,pT 0)] [(zMa.d s1)]<|zAD ?_
  obtain⟨b12,q13,h⟩:=bs h
  refine cut 50 0 [(1,iI left2),(2,iI depth3),(3,pT 0),(18,.bool b12)] [(zMa.d s1)] ?_ ?_
  ·rcases sp q13 with ⟨g4,q13⟩|⟨g4,q13⟩
   ·have c5:=ltT g4
    obtain rfl:=oi q13
    refine st ?_
    simp[g4]
   have c6:=ltF g4
   rcases sp q13 with ⟨g7,q13⟩|⟨g7,q13⟩
   ·have c8:=ltT g7
    obtain rfl:=oi q13
    refine st ?_
    simp[g4,g7]
   have c9:=ltF g7
   obtain⟨v10,q11,q13⟩:=bs q13
   obtain rfl:=oi q13
   refine st ?_
   simp[g4,g7]
   have r63:=ref24_node_ok fuel s1 v10 q11
   try simp[g4,g7] at r63
   refine cP r63 ?_
   simp[g4,g7]
  refine spc h rfl (fun g14 h=>?_) fun g14 h=>?_
  ·refine cutA 50 0 [(6,iI (-1))] [(zMa.d s1)]<|zAB<|zAE ?_
   obtain rfl:=oi h
   simp
  refine zAC<|zAH ?_
  obtain⟨n15,q16,h⟩:=bs h
  obtain⟨q17,q18⟩:=zBj q16
  try simp at q17
  try simp at q18
  have c19:=q17;simp only[Rng,inR] at c19
  refine cut 50 0 [(1,iI n15),(2,iI depth3),(3,pT 0)] [(zMa.d s1)] (st (by simp[q17,q18])) ?_
  obtain⟨j20,l21,h⟩:=bs h
  refine zLO 50 0 [(1,iI j20),(2,iI depth3),(3,pT 0)] [(zMa.d s1)] (fun jj=>?_) ?_
  ·obtain⟨v22,q23,l21⟩:=bs l21
   refine cut 50 0 [(1,iI n15),(2,iI depth3),(3,pT 0),(23,.bool v22)] [(zMa.d s1)] ?_ ?_
   ·refine st ?_
    simp
    have r33:=zDu s1.Op v22 q23
    try simp at r33
    refine cP r33 ?_
    simp
   refine spc l21 rfl (fun g24 l21=>?_) fun g24 l21=>?_
   ·obtain⟨v25,q26,l21⟩:=bs l21
    obtain⟨n27,q28,l21⟩:=bs l21
    obtain⟨q29,q30⟩:=zBj q28
    try simp at q29
    try simp at q30
    have c31:=q29;simp only[Rng,inR] at c31
    refine last 50 0 [(1,iI n27),(2,iI depth3),(3,pT 0)] [(zMa.d s1)] ?_ fun zz hs=>?_
    ·refine st ?_
     simp[q29,q30]
     have r32:=ref09_Size_ok fuel s1.Con v25 q26
     try simp[q29,q30] at r32
     refine cP r32 ?_
     simp[q29,q30]
    obtain rfl:=oi l21
    exact zAM jj hs
   refine zAC ?_
   obtain rfl:=oi l21
   exact zAM jj (zAL (by simp))
  refine zAD<|cutA 50 0 [(1,iI j20),(2,iI depth3),(3,pT 0),(7,iI 0)] [(zMa.d s1)]<|zAF ?_
  obtain⟨o36,l37,h⟩:=bs h
  refine zAm (fun p:Nat×Int×Nat=>mkS 50 0 [(1,iI p.2.1),(2,iI depth3),(3,pT 0),(7,iI p.2.2)] [(zMa.d s1)]) (fun p=>zCv (zCe fuel) s1 depth3 p.1 p.2.1 p.2.2=some o36) (fun p=>p.1) (fuel,j20,0) l37 (zAL (by simp)) ?_
  rintro⟨k38,left34,i35⟩ l37
  try dsimp only at l37 ⊢
  cases k38 with
  |zero=>
   rw[zCv] at l37;cases l37
  |succ k39=>
   rw[zCv] at l37
   refine zAD<|cut 50 0 [(1,iI left34),(2,iI depth3),(3,pT 0),(7,iI i35),(37,.bool ((ltI i35 s1.L.length)&&(leI 0 left34)))] [(zMa.d s1)] ?_ ?_
   ·rcases tf (ltI i35 s1.L.length) with g40|g40
    ·have c41:=ltT g40
     refine zCB 0 13 rfl rfl rfl fun f42=>?_
     rw[zq4] at f42
     refine st ?_
     simp[g40]
    have c43:=ltF g40
    refine zCB 0 13 rfl rfl rfl fun f44=>?_
    rw[zq4] at f44
    refine st ?_
    simp[g40]
   rcases sp l37 with ⟨g45,l37⟩|⟨g45,l37⟩
   ·obtain⟨g46,g47⟩:=andT g45
    have c48:=ltT g46
    have c50:=leT g47
    refine zEk rfl g45<|zCB 0 13 rfl rfl rfl fun f49=>?_
    rw[zq4] at f49
    refine zAC<|zAH<|zAD<|zAF ?_
    obtain⟨x51,q52,l37⟩:=bs l37
    obtain⟨n53,q54,l37⟩:=bs l37
    obtain⟨q55,q56⟩:=zBj q54
    try simp at q55
    try simp at q56
    have c57:=q55;simp only[Rng,inR] at c57
    obtain⟨v58,q59,l37⟩:=bs l37
    refine last 50 0 [(1,iI v58),(2,iI depth3),(3,pT 0),(7,iI i35)] [(zMa.d s1)] ?_ fun zz hs=>?_
    ·refine st ?_
     simp[q52,q55,q56]
     have r61:=zMC x51 left34 n53 v58 q59
     try simp[q52,q55,q56] at r61
     refine cP r61 ?_
     simp[q52,q55,q56]
    refine zC1<|zAM ?_ hs
    have q60:Rng .i64 (((i35:Nat):Int)+1):=by simp only[Rng,inR];omega
    try simp at q60
    refine last 50 0 [(1,iI v58),(2,iI depth3),(3,pT 0),(7,iI ((i35+1:Nat):Int))] [(zMa.d s1)] (st (by simp[q60])) fun zz hs=>?_
    exact⟨(k39,v58,i35+1),hs,l37,by simp⟩
   refine zEc rfl g45<|zAQ<|zAG ?_
   have q62:=zqa l37
   have q62:=q62.symm
   refine zAG<|zAS<|zAM (t:=mkS 50 0 [(1,iI o36)] [(zMa.d s1)]) ?_ (zAL (by simp[q62]))
   refine cutA 50 0 [(6,iI o36)] [(zMa.d s1)]<|zAB ?_
   obtain rfl:=oi h
   simp
theorem zKw(fuel:Nat)(s1:zMa)(r:Bool)(h:zFx fuel s1=some r):Pure Tryz.prog 23 [.agg (zMa.d s1)] (.bool r):=by
 rw[zFx] at h
 refine zAA Tryz.func23 (by rfl) (by rfl) (by simp) (by simp) (by simp)<|cutA 6 0 [(1,pT 0)] [(zMa.d s1)] ?_
 obtain⟨v2,q3,h⟩:=bs h
 refine cut 6 0 [(2,.bool (leI 0 v2))] [(zMa.d s1)] ?_ ?_
 ·refine st ?_
  simp
  have r4:=zLp fuel s1 20000 400 v2 q3
  try simp at r4
  refine cP r4 ?_
  simp
 refine zAB ?_
 obtain rfl:=oi h
 simp
theorem zDt(fuel:Nat)(a1:zMb)(r:Bool)(h:zDB fuel a1=some r):Pure Tryz.prog 8 [.agg [.sl (a1.Kinds.map zMY.c),iI a1.S.Op,iI a1.S.N,.str a1.S.S,iI a1.S.Con.Op,iI a1.S.Con.N,.str a1.S.Con.S,.sl (a1.S.Con.Kind.L.map zMY.c),.sl (a1.S.Con.Names.map cS),.sl (a1.S.Con.L.map zMZ.c),.sl (a1.S.Kind.L.map zMY.c),.sl (a1.S.Kinds.map zMY.c),.sl (a1.S.More.map zMY.c),.sl (a1.S.Names.map cS),.sl (a1.S.L.map zMa.c)]] (.bool r):=by
 rw[zDB] at h
 refine zAA Tryz.func8 (by rfl) (by rfl) (by simp) (by simp) (by simp)<|cutA 17 0 [(1,pT 0)] [(zMb.c a1)] ?_
 obtain⟨b12,q13,h⟩:=bs h
 refine cut 17 0 [(2,.bool b12)] [(zMb.c a1)] ?_ ?_
 ·rcases sp q13 with ⟨g2,q13⟩|⟨g2,q13⟩
  ·have c3:=leT g2
   refine zCB 0 0 rfl rfl rfl fun f4=>?_
   rw[zq4] at f4
   obtain⟨v5,q6,q13⟩:=bs q13
   rcases sp q13 with ⟨g7,q13⟩|⟨g7,q13⟩
   ·obtain⟨v8,q9,q13⟩:=bs q13
    obtain rfl:=oi q13
    refine st ?_
    simp[g2,g7]
    have r14:=zIW fuel a1.Kinds v5 q6
    try simp[g2,g7] at r14
    refine cP r14 ?_
    simp[g2,g7]
    have r15:=zKw fuel a1.S v8 q9
    try simp[g2,g7] at r15
    refine cP r15 ?_
    simp[g2,g7]
   obtain rfl:=oi q13
   refine st ?_
   simp[g2,g7]
   have r16:=zIW fuel a1.Kinds v5 q6
   try simp[g2,g7] at r16
   refine cP r16 ?_
   simp[g2,g7]
  have c10:=leF g2
  refine zCB 0 0 rfl rfl rfl fun f11=>?_
  rw[zq4] at f11
  obtain rfl:=oi q13
  refine st ?_
  simp[g2]
 refine zAB ?_
 obtain rfl:=oi h
 simp
theorem zJp(fuel:Nat)(k1:zMY)(r:Bool)(h:zEC fuel k1=some r):Pure Tryz.prog 51 [.agg [.sl (k1.L.map zMY.c)]] (.bool r):=by
 rw[zEC] at h
 refine zAA Tryz.func51 (by rfl) (by rfl) (by simp) (by simp) (by simp)<|cutA 6 0 [(1,pT 0)] [[.sl (k1.L.map zMY.c)]] ?_
 obtain⟨v2,q3,h⟩:=bs h
 refine cut 6 0 [(2,.bool (!v2))] [[.sl (k1.L.map zMY.c)]] ?_ ?_
 ·refine st ?_
  simp
  have r4:=zDd fuel k1 v2 q3
  try simp at r4
  refine cP r4 ?_
  simp
 refine zAB ?_
 obtain rfl:=oi h
 simp
theorem zEQ(fuel:Nat)(s1:(List zMY))(r:Int)(h:zBK fuel s1=some r):Pure Tryz.prog 84 [.sl (s1.map zMY.c),.fn (.func 51) [] []] (iI r):=by
 rw[zBK] at h
 refine zAA Tryz.func84 (by rfl) (by rfl) (by simp) (by simp) (by simp)<|cutA 19 0 [(0,.sl (s1.map zMY.c)),(1,.fn (.func 51) [] [])] []<|zAD<|cutA 19 0 [(0,.sl (s1.map zMY.c)),(1,.fn (.func 51) [] []),(7,iI s1.length),(8,iI 0)] []<|zAF ?_
 obtain⟨o4,l5,h⟩:=bs h
 refine zAm (fun p:Nat×Nat=>mkS 19 0 [(0,.sl (s1.map zMY.c)),(1,.fn (.func 51) [] []),(7,iI s1.length),(8,iI p.2)] []) (fun p=>zAR fuel s1 p.1 p.2=some o4) (fun p=>p.1) (fuel,0) l5 (zAL (by simp)) ?_
 rintro⟨k6,i2⟩ l5
 try dsimp only at l5 ⊢
 cases k6 with
 |zero=>
  rw[zAR] at l5;cases l5
 |succ k7=>
  rw[zAR] at l5
  refine cutA 19 0 [(0,.sl (s1.map zMY.c)),(1,.fn (.func 51) [] []),(7,iI s1.length),(8,iI i2),(9,.bool (ltI i2 s1.length))] []<|zAD<|spc l5 rfl (fun g8 l5=>?_) fun g8 l5=>?_
  ·have c9:=ltT g8
   refine zCA 0 rfl fun f10=>?_
   rw[zq4] at f10
   refine zAC<|zAH<|zAD<|zAF<|cutA 19 0 [(0,.sl (s1.map zMY.c)),(1,.fn (.func 51) [] []),(5,iI i2),(7,iI s1.length),(8,iI i2)] [] ?_
   obtain⟨x11,q12,l5⟩:=bs l5
   obtain⟨v13,q14,l5⟩:=bs l5
   refine cut 19 0 [(0,.sl (s1.map zMY.c)),(1,.fn (.func 51) [] []),(5,iI i2),(7,iI s1.length),(8,iI i2),(16,.bool v13)] [] ?_ ?_
   ·refine st ?_
    simp[q12]
    have r17:=zJp fuel x11 v13 q14
    try simp[q12] at r17
    refine cP r17 ?_
    simp[q12]
   refine spc l5 rfl (fun g15 l5=>?_) fun g15 l5=>?_
   ·refine cutA 19 0 [(4,iI i2)] []<|zAB<|zAK<|zAE ?_
    replace h:=retL l5 h
    refine zAE<|zAK<|zAE ?_
    obtain rfl:=oi h
    simp
   refine zAC<|zC1<|zAH ?_
   have q16:Rng .i64 (((i2:Nat):Int)+1):=by simp only[Rng,inR];omega
   try simp at q16
   refine last 19 0 [(0,.sl (s1.map zMY.c)),(1,.fn (.func 51) [] []),(7,iI s1.length),(8,iI ((i2+1:Nat):Int))] [] (st (by simp[q16])) fun zz hs=>?_
   exact⟨(k7,i2+1),hs,l5,by simp⟩
  have c18:=ltF g8
  refine zCA 0 rfl fun f19=>?_
  rw[zq4] at f19
  refine zAQ<|zAG ?_
  rcases o4 with o4|o3
  ·cases l5
  have q20:=Sum.inr.inj (zqa l5)
  replace h:=zF0 h
  refine zAG<|zAS<|zAM (t:=mkS 19 0 [] []) ?_ (zAL (by simp))
  refine cutA 19 0 [(4,iI (-1))] []<|zAB ?_
  obtain rfl:=oi h
  simp
theorem zCI(fuel:Nat)(s1:(List zMY))(r:Bool)(h:zA3 fuel s1=some r):Pure Tryz.prog 50 [.sl (s1.map zMY.c),.fn (.func 51) [] []] (.bool r):=by
 rw[zA3] at h
 refine zAA Tryz.func50 (by rfl) (by rfl) (by simp) (by simp) (by simp)<|cutA 9 0 [(0,.sl (s1.map zMY.c)),(1,.fn (.func 51) [] [])] [] ?_
 obtain⟨v2,q3,h⟩:=bs h
 refine cut 9 0 [(4,.bool (leI 0 v2))] [] ?_ ?_
 ·refine st ?_
  simp
  have r4:=zEQ fuel s1 v2 q3
  try simp at r4
  refine cP r4 ?_
  simp
 refine zAB ?_
 obtain rfl:=oi h
 simp
theorem sem_Size_ok(fuel:Nat)(s1:zMa)(r:Int)(h:zHu fuel s1=some r):Pure Tryz.prog 53 [.agg (zMa.d s1)] (iI r):=by
 rw[zHu] at h
 refine zAA Tryz.func53 (by rfl) (by rfl) (by simp) (by simp) (by simp)<|cutA 13 0 [(1,pT 0)] [(zMa.d s1)] ?_
 obtain⟨v2,q3,h⟩:=bs h
 refine cut 13 0 [(3,iI v2.1),(4,.bool v2.2)] [(zMa.d s1)] ?_ ?_
 ·refine st ?_
  simp
  have r7:=zIy fuel s1 20000 1 v2 q3
  try simp at r7
  refine cP r7 ?_
  simp
 refine zAD<|cutA 13 0 [(3,iI v2.1),(11,.bool (!v2.2))] [(zMa.d s1)]<|spc h rfl (fun g4 h=>?_) fun g4 h=>?_
 ·have g5:=notT g4
  refine cutA 13 0 [(2,iI 0)] [(zMa.d s1)]<|zAB<|zAE ?_
  obtain rfl:=oi h
  simp
 have g6:=notF g4
 refine zAC<|zAH<|cutA 13 0 [(2,iI v2.1)] [(zMa.d s1)]<|zAB ?_
 obtain rfl:=oi h
 simp
theorem zK7(fuel:Nat)(a1:zMb)(r:Bool)(h:zE5 fuel a1=some r):Pure Tryz.prog 24 [.agg [.sl (a1.Kinds.map zMY.c),iI a1.S.Op,iI a1.S.N,.str a1.S.S,iI a1.S.Con.Op,iI a1.S.Con.N,.str a1.S.Con.S,.sl (a1.S.Con.Kind.L.map zMY.c),.sl (a1.S.Con.Names.map cS),.sl (a1.S.Con.L.map zMZ.c),.sl (a1.S.Kind.L.map zMY.c),.sl (a1.S.Kinds.map zMY.c),.sl (a1.S.More.map zMY.c),.sl (a1.S.Names.map cS),.sl (a1.S.L.map zMa.c)]] (.bool r):=by
 rw[zE5] at h
 refine zAA Tryz.func24 (by rfl) (by rfl) (by simp) (by simp) (by simp)<|cutA 19 0 [(1,pT 0)] [(zMb.c a1)] ?_
 obtain⟨b14,q15,h⟩:=bs h
 refine cut 19 0 [(2,.bool b14)] [(zMb.c a1)] ?_ ?_
 ·rcases sp q15 with ⟨g2,q15⟩|⟨g2,q15⟩
  ·have c3:=leT g2
   refine zCB 0 0 rfl rfl rfl fun f4=>?_
   rw[zq4] at f4
   obtain⟨v5,q6,q15⟩:=bs q15
   rcases sp q15 with ⟨g7,q15⟩|⟨g7,q15⟩
   ·have g8:=notT g7
    obtain⟨v9,q10,q15⟩:=bs q15
    obtain rfl:=oi q15
    refine st ?_
    simp[g2,g7]
    have r16:=zCI fuel a1.Kinds v5 q6
    try simp[g2,g7] at r16
    refine cP r16 ?_
    simp[g2,g7]
    have r17:=sem_Size_ok fuel a1.S v9 q10
    try simp[g2,g7] at r17
    refine cP r17 ?_
    simp[g2,g7]
   have g11:=notF g7
   obtain rfl:=oi q15
   refine st ?_
   simp[g2,g7]
   have r18:=zCI fuel a1.Kinds v5 q6
   try simp[g2,g7] at r18
   refine cP r18 ?_
   simp[g2,g7]
  have c12:=leF g2
  refine zCB 0 0 rfl rfl rfl fun f13=>?_
  rw[zq4] at f13
  obtain rfl:=oi q15
  refine st ?_
  simp[g2]
 refine zAB ?_
 obtain rfl:=oi h
 simp
theorem zJZ(fuel:Nat)(s1:zMa)(e2:Int)(r:zMa×Int)(h:zFP fuel s1 e2=some r):Pure Tryz.prog 54 [.agg (zMa.d s1),iI e2] (.tup [.agg (zMa.d r.1),iI r.2]):=by
 rw[zFP] at h
 refine zAA Tryz.func54 (by rfl) (by rfl) (by simp) (by simp) (by simp)<|cutA 15 0 [(1,iI e2),(2,pT 0),(4,pT 1)] [(zMa.d s1),zz1]<|zAD ?_
 obtain⟨b10,q11,h⟩:=bs h
 refine cut 15 0 [(2,pT 0),(4,pT 1),(12,.bool b10)] [(zMa.d s1),zz1] ?_ ?_
 ·rcases sp q11 with ⟨g3,q11⟩|⟨g3,q11⟩
  ·have g4:=notT g3
   have c5:=eqF g4
   obtain rfl:=oi q11
   refine st ?_
   simp[g3]
  have g6:=notF g3
  have c7:=eqT g6
  obtain⟨v8,q9,q11⟩:=bs q11
  obtain rfl:=oi q11
  refine st ?_
  simp[g3]
  have r13:=zEq fuel s1 v8 q9
  try simp[g3] at r13
  refine cP r13 ?_
  simp[g3]
 refine spc h rfl (fun g12 h=>?_) fun g12 h=>?_
 ·refine cutA 15 0 [(4,pT 1),(5,iI 6)] [(zMa.d s1),zz1]<|zAB<|zAE ?_
  obtain rfl:=oi h
  simp
 refine zAC<|zAH<|cutA 15 0 [(4,pT 1),(5,iI 0)] [(zMa.d s1),(zMa.d s1)]<|zAB ?_
 obtain rfl:=oi h
 simp
theorem sem_Normal_ok(fuel:Nat)(s1:zMa)(r:zMa×Int)(h:zHI fuel s1=some r):Pure Tryz.prog 25 [.agg (zMa.d s1)] (.tup [.agg (zMa.d r.1),iI r.2]):=by
 rw[zHI] at h
 refine zAA Tryz.func25 (by rfl) (by rfl) (by simp) (by simp) (by simp)<|cutA 23 0 [(1,pT 0),(2,pT 1)] [(zMa.d s1),zz1]<|zAD ?_
 obtain⟨v2,q3,h⟩:=bs h
 refine cut 23 0 [(1,pT 0),(2,pT 1),(8,.bool (!v2))] [(zMa.d s1),zz1] ?_ ?_
 ·refine st ?_
  simp
  have r18:=zEq fuel s1 v2 q3
  try simp at r18
  refine cP r18 ?_
  simp
 refine spc h rfl (fun g4 h=>?_) fun g4 h=>?_
 ·have g5:=notT g4
  refine cutA 23 0 [(2,pT 1),(3,iI 1)] [(zMa.d s1),zz1]<|zAB<|zAE ?_
  obtain rfl:=oi h
  simp
 have g6:=notF g4
 refine zAC<|zAH ?_
 obtain⟨v7,q8,h⟩:=bs h
 refine cut 23 0 [(2,pT 1),(4,pT 2),(5,iI v7.2)] [(zMa.d s1),zz1,(zMa.d v7.1)] ?_ ?_
 ·refine st ?_
  simp
  have r17:=zJE fuel s1 v7 q8
  try simp at r17
  refine cP r17 ?_
  simp
 refine zAD<|cutA 23 0 [(2,pT 1),(4,pT 2),(5,iI v7.2),(16,.bool (!(eqI v7.2 0)))] [(zMa.d s1),zz1,(zMa.d v7.1)] ?_
 rcases sp h with ⟨g9,h⟩|⟨g9,h⟩
 ·have g10:=notT g9
  have c11:=eqF g10
  refine zEk rfl g9<|cutA 23 0 [(2,pT 1),(3,iI 27)] [(zMa.d s1),zz1,(zMa.d v7.1)]<|zAB<|zAE ?_
  obtain rfl:=oi h
  simp
 have g12:=notF g9
 have c13:=eqT g12
 refine zEc rfl g9<|zAC<|zAH ?_
 obtain⟨v14,q15,h⟩:=bs h
 refine cut 23 0 [(2,pT 1),(3,iI v14.2)] [(zMa.d s1),(zMa.d v14.1),(zMa.d v7.1)] ?_ ?_
 ·refine st ?_
  simp
  have r16:=zJZ fuel v7.1 v7.2 v14 q15
  try simp at r16
  refine cP r16 ?_
  simp
 refine zAB ?_
 obtain rfl:=oi h
 simp
theorem zGQ(fuel:Nat)(s1:(List Int))(v2:Int)(r:Int)(h:zCn fuel s1 v2=some r):Pure Tryz.prog 31 [.sl (s1.map (cI .i64)),iI v2] (iI r):=by
 rw[zCn] at h
 refine zAA Tryz.func31 (by rfl) (by rfl) (by simp) (by simp) (by simp)<|cutA 19 0 [(0,.sl (s1.map (cI .i64))),(1,iI v2)] []<|zAD<|cutA 19 0 [(0,.sl (s1.map (cI .i64))),(1,iI v2),(7,iI s1.length),(8,iI 0)] []<|zAF ?_
 obtain⟨o5,l6,h⟩:=bs h
 refine zAm (fun p:Nat×Nat=>mkS 19 0 [(0,.sl (s1.map (cI .i64))),(1,iI v2),(7,iI s1.length),(8,iI p.2)] []) (fun p=>zBT s1 v2 p.1 p.2=some o5) (fun p=>p.1) (fuel,0) l6 (zAL (by simp)) ?_
 rintro⟨k7,i3⟩ l6
 try dsimp only at l6 ⊢
 cases k7 with
 |zero=>
  rw[zBT] at l6;cases l6
 |succ k8=>
  rw[zBT] at l6
  refine cutA 19 0 [(0,.sl (s1.map (cI .i64))),(1,iI v2),(7,iI s1.length),(8,iI i3),(9,.bool (ltI i3 s1.length))] []<|zAD<|spc l6 rfl (fun g9 l6=>?_) fun g9 l6=>?_
  ·have c10:=ltT g9
   refine zCA 0 rfl fun f11=>?_
   rw[zq4] at f11
   refine zAC<|zAH<|zAD<|zAF<|cutA 19 0 [(0,.sl (s1.map (cI .i64))),(1,iI v2),(5,iI i3),(7,iI s1.length),(8,iI i3)] [] ?_
   obtain⟨x12,q13,l6⟩:=bs l6
   refine cut 19 0 [(0,.sl (s1.map (cI .i64))),(1,iI v2),(5,iI i3),(7,iI s1.length),(8,iI i3),(16,.bool (eqI v2 x12))] [] (st (by simp[q13]))<|spc l6 rfl (fun g14 l6=>?_) fun g14 l6=>?_
   ·have c15:=eqT g14
    refine cutA 19 0 [(4,iI i3)] []<|zAB<|zAK<|zAE ?_
    replace h:=retL l6 h
    refine zAE<|zAK<|zAE ?_
    obtain rfl:=oi h
    simp
   have c16:=eqF g14
   refine zAC<|zC1<|zAH ?_
   have q17:Rng .i64 (((i3:Nat):Int)+1):=by simp only[Rng,inR];omega
   try simp at q17
   refine last 19 0 [(0,.sl (s1.map (cI .i64))),(1,iI v2),(7,iI s1.length),(8,iI ((i3+1:Nat):Int))] [] (st (by simp[q17])) fun zz hs=>?_
   exact⟨(k8,i3+1),hs,l6,by simp⟩
  have c18:=ltF g9
  refine zCA 0 rfl fun f19=>?_
  rw[zq4] at f19
  refine zAQ<|zAG ?_
  rcases o5 with o5|o4
  ·cases l6
  have q20:=Sum.inr.inj (zqa l6)
  replace h:=zF0 h
  refine zAG<|zAS<|zAM (t:=mkS 19 0 [] []) ?_ (zAL (by simp))
  refine cutA 19 0 [(4,iI (-1))] []<|zAB ?_
  obtain rfl:=oi h
  simp
theorem zHW(fuel:Nat)(s1:(List Int))(v2:Int)(r:Bool)(h:zCW fuel s1 v2=some r):Pure Tryz.prog 28 [.sl (s1.map (cI .i64)),iI v2] (.bool r):=by
 rw[zCW] at h
 refine zAA Tryz.func28 (by rfl) (by rfl) (by simp) (by simp) (by simp)<|cutA 9 0 [(0,.sl (s1.map (cI .i64))),(1,iI v2)] [] ?_
 obtain⟨v3,q4,h⟩:=bs h
 refine cut 9 0 [(4,.bool (leI 0 v3))] [] ?_ ?_
 ·refine st ?_
  simp
  have r5:=zGQ fuel s1 v2 v3 q4
  try simp at r5
  refine cP r5 ?_
  simp
 refine zAB ?_
 obtain rfl:=oi h
 simp
theorem zMN(fuel:Nat)(free1:Int)(c2:Int)(c3:(List Int))(r:(List Int))(h:zFp fuel free1 c2 c3=some r):Raw Tryz.prog 27 [iI free1,pT 0,pT 1] [[iI c2],[.osl ⟨1,3⟩ (c3.map (cI .i64))]] (.tup []) [[iI c2],[.osl ⟨1,3⟩ (r.map (cI .i64))]]:=by
 rw[zFp] at h
 refine zAq Tryz.func27 (by rfl) (by rfl) (by simp) (by simp) ?_
 obtain⟨n4,q5,h⟩:=bs h
 obtain⟨q6,q7⟩:=zBj q5
 try simp at q6
 try simp at q7
 have c8:=q6;simp only[Rng,inR] at c8
 obtain⟨n9,q10,h⟩:=bs h
 obtain⟨q11,q12⟩:=zBj q10
 try simp at q11
 try simp at q12
 have c13:=q11;simp only[Rng,inR] at c13
 refine cut 25 2 [(0,iI free1),(2,pT 1),(4,iI n9)] [[iI c2],[.osl ⟨1,3⟩ (c3.map (cI .i64))]] (st (by simp[q6,q7,q11,q12])) ?_
 obtain⟨b22,q23,h⟩:=bs h
 refine cut 25 2 [(2,pT 1),(4,iI n9),(20,.bool b22)] [[iI c2],[.osl ⟨1,3⟩ (c3.map (cI .i64))]] ?_ ?_
 ·rcases sp q23 with ⟨g14,q23⟩|⟨g14,q23⟩
  ·have c15:=leT g14
   rcases sp q23 with ⟨g16,q23⟩|⟨g16,q23⟩
   ·have c17:=leT g16
    obtain⟨v18,q19,q23⟩:=bs q23
    obtain rfl:=oi q23
    refine st ?_
    simp[g14,g16]
    have r29:=zHW fuel c3 n9 v18 q19
    try simp[g14,g16] at r29
    refine cP r29 ?_
    simp[g14,g16]
   have c20:=leF g16
   obtain rfl:=oi q23
   refine st ?_
   simp[g14,g16]
  have c21:=leF g14
  obtain rfl:=oi q23
  refine st ?_
  simp[g14]
 refine spc h rfl (fun g24 h=>?_) fun g24 h=>?_
 ·obtain⟨l25,q26,h⟩:=bs h
  obtain⟨q27,q28⟩:=zI7 q26
  try simp at q27
  obtain rfl:=oi h
  refine st ?_
  simp[q27,q28]
 refine zAC ?_
 obtain rfl:=oi h
 simp
theorem zIm(fuel:Nat):(∀(c1:zMZ)(depth2:Int)(c3:Int)(c4:(List Int))(r:(List Int))(_:zBH fuel c1 depth2 c3 c4=some r),Raw Tryz.prog 55 [.agg (zMZ.d c1),iI depth2,.fn (.func 27) [] [pT 0,pT 1]] [[iI c3],[.osl ⟨1,3⟩ (c4.map (cI .i64))]] (.tup []) [[iI c3],[.osl ⟨1,3⟩ (r.map (cI .i64))]]):=by
 induction fuel with
 |zero=>intro c1 depth2 c3 c4 r h;rw[zBH] at h;cases h
 |succ fuel zIf=>
  intro c1 depth2 c3 c4 r h
  rw[zBH] at h
  refine zAq Tryz.func55 (by rfl) (by rfl) (by simp) (by simp)<|cutA 37 2 [(1,iI depth2),(2,.fn (.func 27) [] [pT 0,pT 1]),(3,pT 2)] [[iI c3],[.osl ⟨1,3⟩ (c4.map (cI .i64))],(zMZ.d c1)] ?_
  obtain⟨j5,l6,h⟩:=bs h
  refine zLO 37 2 [(1,iI j5.2),(2,.fn (.func 27) [] [pT 0,pT 1]),(3,pT 2)] [[iI c3],[.osl ⟨1,3⟩ (j5.1.map (cI .i64))],(zMZ.d c1)] (fun jj=>?_) ?_
  ·refine cutA 37 2 [(1,iI depth2),(2,.fn (.func 27) [] [pT 0,pT 1]),(3,pT 2),(9,iI c1.Op)] [[iI c3],[.osl ⟨1,3⟩ (c4.map (cI .i64))],(zMZ.d c1)]<|zAF<|cutA 37 2 [(1,iI depth2),(2,.fn (.func 27) [] [pT 0,pT 1]),(3,pT 2),(9,iI c1.Op),(10,.bool (eqI c1.Op 1))] [[iI c3],[.osl ⟨1,3⟩ (c4.map (cI .i64))],(zMZ.d c1)]<|spc l6 rfl (fun g7 l6=>?_) fun g7 l6=>?_
   ·obtain⟨n9,q10,l6⟩:=bs l6
    obtain⟨q11,q12⟩:=zBj q10
    try simp at q11
    try simp at q12
    have c13:=q11;simp only[Rng,inR] at c13
    obtain⟨v14,q15,l6⟩:=bs l6
    refine last 37 2 [(1,iI depth2),(2,.fn (.func 27) [] [pT 0,pT 1]),(3,pT 2)] [[iI c3],[.osl ⟨1,3⟩ (v14.map (cI .i64))],(zMZ.d c1)] ?_ fun zz hs=>?_
    ·refine st ?_
     simp[q11,q12]
     have r16:=(zMN fuel n9 c3 c4 v14 q15).frame [0,1] [[iI c3],[.osl ⟨1,3⟩ (c4.map (cI .i64))],(zMZ.d c1)] (by simp)
     try simp[q11,q12] at r16
     refine zCV r16 (by simp[q11,q12]) rfl ?_
     simp[q11,q12]
    refine zC1 ?_
    obtain rfl:=oi l6
    exact zAM jj hs
   obtain⟨j18,l19,l6⟩:=bs l6
   refine zLO 37 2 [(1,iI depth2),(2,.fn (.func 27) [] [pT 0,pT 1]),(3,pT 2),(18,.bool j18)] [[iI c3],[.osl ⟨1,3⟩ (c4.map (cI .i64))],(zMZ.d c1)] (fun jj=>?_) ?_
   ·refine cutA 37 2 [(1,iI depth2),(2,.fn (.func 27) [] [pT 0,pT 1]),(3,pT 2),(9,iI c1.Op),(18,.bool (eqI c1.Op 9))] [[iI c3],[.osl ⟨1,3⟩ (c4.map (cI .i64))],(zMZ.d c1)]<|spc l19 rfl (fun g20 l19=>?_) fun g20 l19=>?_
    ·refine zAC ?_
     obtain rfl:=oi l19
     exact zAM jj (zAL (by simp))
    refine cutA 37 2 [(1,iI depth2),(2,.fn (.func 27) [] [pT 0,pT 1]),(3,pT 2),(9,iI c1.Op),(18,.bool (eqI c1.Op 10))] [[iI c3],[.osl ⟨1,3⟩ (c4.map (cI .i64))],(zMZ.d c1)]<|spc l19 rfl (fun g23 l19=>?_) fun g23 l19=>?_
    ·refine zAC ?_
     obtain rfl:=oi l19
     exact zAM jj (zAL (by simp))
    refine cutA 37 2 [(1,iI depth2),(2,.fn (.func 27) [] [pT 0,pT 1]),(3,pT 2),(9,iI c1.Op),(18,.bool (eqI c1.Op 11))] [[iI c3],[.osl ⟨1,3⟩ (c4.map (cI .i64))],(zMZ.d c1)]<|spc l19 rfl (fun g26 l19=>?_) fun g26 l19=>?_
    ·refine zAC ?_
     obtain rfl:=oi l19
     exact zAM jj (zAL (by simp))
    refine last 37 2 [(1,iI depth2),(2,.fn (.func 27) [] [pT 0,pT 1]),(3,pT 2),(18,.bool (eqI c1.Op 13))] [[iI c3],[.osl ⟨1,3⟩ (c4.map (cI .i64))],(zMZ.d c1)] (st (by simp)) fun zz hs=>?_
    obtain rfl:=oi l19
    exact zAM jj hs
   refine spc l6 rfl (fun g29 l6=>?_) fun g29 l6=>?_
   ·obtain⟨n30,q31,l6⟩:=bs l6
    obtain⟨q32,q33⟩:=zBj q31
    try simp at q32
    try simp at q33
    have c34:=q32;simp only[Rng,inR] at c34
    refine last 37 2 [(1,iI n30),(2,.fn (.func 27) [] [pT 0,pT 1]),(3,pT 2)] [[iI c3],[.osl ⟨1,3⟩ (c4.map (cI .i64))],(zMZ.d c1)] (st (by simp[q32,q33])) fun zz hs=>?_
    refine zC1 ?_
    obtain rfl:=oi l6
    exact zAM jj hs
   refine zAC<|zC1 ?_
   obtain rfl:=oi l6
   exact zAM jj (zAL (by simp))
  refine cutA 37 2 [(1,iI j5.2),(2,.fn (.func 27) [] [pT 0,pT 1]),(26,.sl (c1.L.map zMZ.c)),(27,iI c1.L.length),(28,iI 0)] [[iI c3],[.osl ⟨1,3⟩ (j5.1.map (cI .i64))],(zMZ.d c1)]<|zAF ?_
  obtain⟨o37,l38,h⟩:=bs h
  refine zAm (fun p:Nat×(List Int)×Nat=>mkS 37 2 [(1,iI j5.2),(2,.fn (.func 27) [] [pT 0,pT 1]),(26,.sl (c1.L.map zMZ.c)),(27,iI c1.L.length),(28,iI p.2.2)] [[iI c3],[.osl ⟨1,3⟩ (p.2.1.map (cI .i64))],(zMZ.d c1)]) (fun p=>zBd (zBH fuel) c1 c3 j5 p.1 p.2.1 p.2.2=some o37) (fun p=>p.1) (fuel,j5.1,0) l38 (zAL (by simp)) ?_
  rintro⟨k39,a35,i36⟩ l38
  try dsimp only at l38 ⊢
  cases k39 with
  |zero=>
   rw[zBd] at l38;cases l38
  |succ k40=>
   rw[zBd] at l38
   refine cutA 37 2 [(1,iI j5.2),(2,.fn (.func 27) [] [pT 0,pT 1]),(26,.sl (c1.L.map zMZ.c)),(27,iI c1.L.length),(28,iI i36),(29,.bool (ltI i36 c1.L.length))] [[iI c3],[.osl ⟨1,3⟩ (a35.map (cI .i64))],(zMZ.d c1)]<|zAD<|spc l38 rfl (fun g41 l38=>?_) fun g41 l38=>?_
   ·have c42:=ltT g41
    refine zCA 26 rfl fun f43=>?_
    rw[zq4] at f43
    refine zAC<|zAH<|zAD<|zAF ?_
    obtain⟨x44,q45,l38⟩:=bs l38
    refine cut 37 2 [(1,iI j5.2),(2,.fn (.func 27) [] [pT 0,pT 1]),(7,pT 3),(26,.sl (c1.L.map zMZ.c)),(27,iI c1.L.length),(28,iI i36)] [[iI c3],[.osl ⟨1,3⟩ (a35.map (cI .i64))],(zMZ.d c1),(zMZ.d x44)] (st (by simp[q45])) ?_
    obtain⟨v46,q47,l38⟩:=bs l38
    refine last 37 2 [(1,iI j5.2),(2,.fn (.func 27) [] [pT 0,pT 1]),(26,.sl (c1.L.map zMZ.c)),(27,iI c1.L.length),(28,iI i36)] [[iI c3],[.osl ⟨1,3⟩ (v46.map (cI .i64))],(zMZ.d c1),(zMZ.d x44)] ?_ fun zz hs=>?_
    ·refine st ?_
     simp
     have r49:=(zIf x44 j5.2 c3 a35 v46 q47).frame [0,1] [[iI c3],[.osl ⟨1,3⟩ (a35.map (cI .i64))],(zMZ.d c1),(zMZ.d x44)] (by simp)
     try simp at r49
     refine zCV r49 (by simp) rfl ?_
     simp
    refine zC1<|zAM ?_ hs
    have q48:Rng .i64 (((i36:Nat):Int)+1):=by simp only[Rng,inR];omega
    try simp at q48
    refine last 37 2 [(1,iI j5.2),(2,.fn (.func 27) [] [pT 0,pT 1]),(26,.sl (c1.L.map zMZ.c)),(27,iI c1.L.length),(28,iI ((i36+1:Nat):Int))] [[iI c3],[.osl ⟨1,3⟩ (v46.map (cI .i64))],(zMZ.d c1)] (st (by simp[q48])) fun zz hs=>?_
    exact⟨(k40,v46,i36+1),hs,l38,by simp⟩
   have c50:=ltF g41
   refine zCA 26 rfl fun f51=>?_
   rw[zq4] at f51
   refine zAQ<|zAG ?_
   have q52:=zqa l38
   have q52:=q52.symm
   refine zAG<|zAS ?_
   obtain rfl:=oi h
   simp[q52]
theorem zIl(fuel:Nat):(∀(s1:zMa)(depth2:Int)(c3:Int)(c4:(List Int))(r:(List Int))(_:zAj fuel s1 depth2 c3 c4=some r),Raw Tryz.prog 26 [.agg (zMa.d s1),iI depth2,.fn (.func 27) [] [pT 0,pT 1]] [[iI c3],[.osl ⟨1,3⟩ (c4.map (cI .i64))]] (.tup []) [[iI c3],[.osl ⟨1,3⟩ (r.map (cI .i64))]]):=by
 induction fuel with
 |zero=>intro s1 depth2 c3 c4 r h;rw[zAj] at h;cases h
 |succ fuel zDi=>
  intro s1 depth2 c3 c4 r h
  rw[zAj] at h
  refine zAq Tryz.func26 (by rfl) (by rfl) (by simp) (by simp)<|cutA 72 2 [(1,iI depth2),(2,.fn (.func 27) [] [pT 0,pT 1]),(3,pT 2)] [[iI c3],[.osl ⟨1,3⟩ (c4.map (cI .i64))],(zMa.d s1)]<|cutA 72 2 [(1,iI depth2),(2,.fn (.func 27) [] [pT 0,pT 1]),(3,pT 2),(9,iI s1.Op)] [[iI c3],[.osl ⟨1,3⟩ (c4.map (cI .i64))],(zMa.d s1)]<|zAF ?_
  obtain⟨j5,l6,h⟩:=bs h
  refine zLO 72 2 [(1,iI depth2),(2,.fn (.func 27) [] [pT 0,pT 1]),(3,pT 2),(9,iI s1.Op),(22,.bool j5)] [[iI c3],[.osl ⟨1,3⟩ (c4.map (cI .i64))],(zMa.d s1)] (fun jj=>?_) ?_
  ·refine cutA 72 2 [(1,iI depth2),(2,.fn (.func 27) [] [pT 0,pT 1]),(3,pT 2),(9,iI s1.Op),(22,.bool (eqI s1.Op 1))] [[iI c3],[.osl ⟨1,3⟩ (c4.map (cI .i64))],(zMa.d s1)]<|spc l6 rfl (fun g7 l6=>?_) fun g7 l6=>?_
   ·refine zAC ?_
    obtain rfl:=oi l6
    exact zAM jj (zAL (by simp))
   refine cutA 72 2 [(1,iI depth2),(2,.fn (.func 27) [] [pT 0,pT 1]),(3,pT 2),(9,iI s1.Op),(22,.bool (eqI s1.Op 2))] [[iI c3],[.osl ⟨1,3⟩ (c4.map (cI .i64))],(zMa.d s1)]<|spc l6 rfl (fun g10 l6=>?_) fun g10 l6=>?_
   ·refine zAC ?_
    obtain rfl:=oi l6
    exact zAM jj (zAL (by simp))
   refine last 72 2 [(1,iI depth2),(2,.fn (.func 27) [] [pT 0,pT 1]),(3,pT 2),(9,iI s1.Op),(22,.bool (eqI s1.Op 3))] [[iI c3],[.osl ⟨1,3⟩ (c4.map (cI .i64))],(zMa.d s1)] (st (by simp)) fun zz hs=>?_
   obtain rfl:=oi l6
   exact zAM jj hs
  refine spc h rfl (fun g13 h=>?_) fun g13 h=>?_
  ·obtain⟨v14,q15,h⟩:=bs h
   obtain rfl:=oi h
   refine st ?_
   simp
   have r16:=(zIm fuel s1.Con depth2 c3 c4 v14 q15).frame [0,1] [[iI c3],[.osl ⟨1,3⟩ (c4.map (cI .i64))],(zMa.d s1)] (by simp)
   try simp at r16
   refine zCV r16 (by simp) rfl ?_
   simp
  refine cutA 72 2 [(1,iI depth2),(2,.fn (.func 27) [] [pT 0,pT 1]),(3,pT 2),(9,iI s1.Op),(31,.bool (eqI s1.Op 4))] [[iI c3],[.osl ⟨1,3⟩ (c4.map (cI .i64))],(zMa.d s1)]<|spc h rfl (fun g17 h=>?_) fun g17 h=>?_
  ·obtain⟨x19,q20,h⟩:=bs h
   obtain⟨n21,q22,h⟩:=bs h
   obtain⟨q23,q24⟩:=zBj q22
   try simp at q23
   try simp at q24
   have c25:=q23;simp only[Rng,inR] at c25
   obtain⟨v26,q27,h⟩:=bs h
   obtain rfl:=oi h
   refine zAx [] [10] mixed (n:=72) rfl (by decide) (by decide) ?_
   simp[q20,q23,q24]
   have r28:=(zDi x19 n21 c3 c4 v26 q27).frame [0,1] [[iI c3],[.osl ⟨1,3⟩ (c4.map (cI .i64))],(zMa.d s1)] (by simp)
   try simp[q20,q23,q24] at r28
   refine callX r28 (by simp[q20,q23,q24]) rfl ?_
   simp[q20,q23,q24]
  refine cutA 72 2 [(1,iI depth2),(2,.fn (.func 27) [] [pT 0,pT 1]),(3,pT 2),(44,.bool (eqI s1.Op 6))] [[iI c3],[.osl ⟨1,3⟩ (c4.map (cI .i64))],(zMa.d s1)]<|spc h rfl (fun g30 h=>?_) fun g30 h=>?_
  ·obtain⟨x32,q33,h⟩:=bs h
   obtain⟨n34,q35,h⟩:=bs h
   obtain⟨q36,q37⟩:=zBj q35
   try simp at q36
   try simp at q37
   have c38:=q36;simp only[Rng,inR] at c38
   obtain⟨v39,q40,h⟩:=bs h
   refine cut 72 2 [(1,iI depth2),(2,.fn (.func 27) [] [pT 0,pT 1]),(3,pT 2)] [[iI c3],[.osl ⟨1,3⟩ (v39.map (cI .i64))],(zMa.d s1)] ?_ ?_
   ·refine zAx [] [10] mixed (n:=72) rfl (by decide) (by decide) ?_
    simp[q33,q36,q37]
    have r52:=(zDi x32 n34 c3 c4 v39 q40).frame [0,1] [[iI c3],[.osl ⟨1,3⟩ (c4.map (cI .i64))],(zMa.d s1)] (by simp)
    try simp[q33,q36,q37] at r52
    refine callX r52 (by simp[q33,q36,q37]) rfl ?_
    simp[q33,q36,q37]
   obtain⟨x41,q42,h⟩:=bs h
   have c43:=q36;simp only[Rng,inR] at c43
   obtain⟨n44,q45,h⟩:=bs h
   obtain⟨q46,q47⟩:=zBj q45
   try simp at q46
   try simp at q47
   have c48:=q46;simp only[Rng,inR] at c48
   obtain⟨v49,q50,h⟩:=bs h
   obtain rfl:=oi h
   refine zAx [] [14] mixed (n:=72) rfl (by decide) (by decide) ?_
   simp[q42,q36,q37,q46,q47]
   have r51:=(zDi x41 n44 c3 v39 v49 q50).frame [0,1] [[iI c3],[.osl ⟨1,3⟩ (v39.map (cI .i64))],(zMa.d s1)] (by simp)
   try simp[q42,q36,q37,q46,q47] at r51
   refine callX r51 (by simp[q42,q36,q37,q46,q47]) rfl ?_
   simp[q42,q36,q37,q46,q47]
  refine cutA 72 2 [(1,iI depth2),(2,.fn (.func 27) [] [pT 0,pT 1]),(11,.sl (s1.L.map zMa.c)),(12,iI s1.L.length),(13,iI 0)] [[iI c3],[.osl ⟨1,3⟩ (c4.map (cI .i64))],(zMa.d s1)]<|zAF ?_
  obtain⟨o56,l57,h⟩:=bs h
  refine zAm (fun p:Nat×(List Int)×Nat=>mkS 72 2 [(1,iI depth2),(2,.fn (.func 27) [] [pT 0,pT 1]),(11,.sl (s1.L.map zMa.c)),(12,iI s1.L.length),(13,iI p.2.2)] [[iI c3],[.osl ⟨1,3⟩ (p.2.1.map (cI .i64))],(zMa.d s1)]) (fun p=>zBc (zAj fuel) s1 depth2 c3 p.1 p.2.1 p.2.2=some o56) (fun p=>p.1) (fuel,c4,0) l57 (zAL (by simp)) ?_
  rintro⟨k58,a54,i55⟩ l57
  try dsimp only at l57 ⊢
  cases k58 with
  |zero=>
   rw[zBc] at l57;cases l57
  |succ k59=>
   rw[zBc] at l57
   refine cutA 72 2 [(1,iI depth2),(2,.fn (.func 27) [] [pT 0,pT 1]),(11,.sl (s1.L.map zMa.c)),(12,iI s1.L.length),(13,iI i55),(14,.bool (ltI i55 s1.L.length))] [[iI c3],[.osl ⟨1,3⟩ (a54.map (cI .i64))],(zMa.d s1)]<|zAD<|spc l57 rfl (fun g60 l57=>?_) fun g60 l57=>?_
   ·have c61:=ltT g60
    refine zCA 11 rfl fun f62=>?_
    rw[zq4] at f62
    refine zAC<|zAH<|zAD<|zAF ?_
    obtain⟨x63,q64,l57⟩:=bs l57
    refine cut 72 2 [(1,iI depth2),(2,.fn (.func 27) [] [pT 0,pT 1]),(7,pT 3),(11,.sl (s1.L.map zMa.c)),(12,iI s1.L.length),(13,iI i55)] [[iI c3],[.osl ⟨1,3⟩ (a54.map (cI .i64))],(zMa.d s1),(zMa.d x63)] (st (by simp[q64])) ?_
    obtain⟨v65,q66,l57⟩:=bs l57
    refine last 72 2 [(1,iI depth2),(2,.fn (.func 27) [] [pT 0,pT 1]),(11,.sl (s1.L.map zMa.c)),(12,iI s1.L.length),(13,iI i55)] [[iI c3],[.osl ⟨1,3⟩ (v65.map (cI .i64))],(zMa.d s1),(zMa.d x63)] ?_ fun zz hs=>?_
    ·refine st ?_
     simp
     have r68:=(zDi x63 depth2 c3 a54 v65 q66).frame [0,1] [[iI c3],[.osl ⟨1,3⟩ (a54.map (cI .i64))],(zMa.d s1),(zMa.d x63)] (by simp)
     try simp at r68
     refine zCV r68 (by simp) rfl ?_
     simp
    refine zC1<|zAM ?_ hs
    have q67:Rng .i64 (((i55:Nat):Int)+1):=by simp only[Rng,inR];omega
    try simp at q67
    refine last 72 2 [(1,iI depth2),(2,.fn (.func 27) [] [pT 0,pT 1]),(11,.sl (s1.L.map zMa.c)),(12,iI s1.L.length),(13,iI ((i55+1:Nat):Int))] [[iI c3],[.osl ⟨1,3⟩ (v65.map (cI .i64))],(zMa.d s1)] (st (by simp[q67])) fun zz hs=>?_
    exact⟨(k59,v65,i55+1),hs,l57,by simp⟩
   have c69:=ltF g60
   refine zCA 11 rfl fun f70=>?_
   rw[zq4] at f70
   refine zAQ<|zAG ?_
   have q71:=zqa l57
   have q71:=q71.symm
   refine zAG<|zAS<|zC1 ?_
   obtain rfl:=oi h
   simp[q71]
theorem zMM(fuel:Nat)(free1:Int)(c2:Int)(c3:Int)(c4:(List Int))(r:Int)(h:zFo fuel free1 c2 c3 c4=some r):Raw Tryz.prog 30 [iI free1,pT 0,pT 1,pT 2] [[iI c2],[iI c3],[.osl ⟨1,3⟩ (c4.map (cI .i64))]] (iI r) [[iI c2],[iI c3],[.osl ⟨1,3⟩ (c4.map (cI .i64))]]:=by
 rw[zFo] at h
 refine zAq Tryz.func30 (by rfl) (by rfl) (by simp) (by simp)<|cutA 23 3 [(0,iI free1),(1,pT 0),(2,pT 1),(3,pT 2)] [[iI c2],[iI c3],[.osl ⟨1,3⟩ (c4.map (cI .i64))]]<|zAD<|cutA 23 3 [(0,iI free1),(1,pT 0),(2,pT 1),(3,pT 2),(8,.bool (leI c2 free1))] [[iI c2],[iI c3],[.osl ⟨1,3⟩ (c4.map (cI .i64))]]<|spc h rfl (fun g5 h=>?_) fun g5 h=>?_
 ·have c6:=leT g5
  obtain⟨n7,q8,h⟩:=bs h
  obtain⟨q9,q10⟩:=zBj q8
  try simp at q9
  try simp at q10
  have c11:=q9;simp only[Rng,inR] at c11
  obtain⟨n12,q13,h⟩:=bs h
  obtain⟨q14,q15⟩:=zBj q13
  try simp at q14
  try simp at q15
  have c16:=q14;simp only[Rng,inR] at c16
  refine cut 23 3 [(5,iI n12)] [[iI c2],[iI c3],[.osl ⟨1,3⟩ (c4.map (cI .i64))]] (st (by simp[q9,q10,q14,q15]))<|zAB<|zAE ?_
  obtain rfl:=oi h
  simp
 have c17:=leF g5
 refine zAC<|zAH ?_
 obtain⟨n18,q19,h⟩:=bs h
 obtain⟨q20,q21⟩:=zBj q19
 try simp at q20
 try simp at q21
 have c22:=q20;simp only[Rng,inR] at c22
 obtain⟨n23,q24,h⟩:=bs h
 obtain⟨q25,q26⟩:=zBj q24
 try simp at q25
 try simp at q26
 have c27:=q25;simp only[Rng,inR] at c27
 obtain⟨n28,q29,h⟩:=bs h
 obtain⟨q30,q31⟩:=zBj q29
 try simp at q30
 try simp at q31
 have c32:=q30;simp only[Rng,inR] at c32
 obtain⟨v33,q34,h⟩:=bs h
 obtain⟨n35,q36,h⟩:=bs h
 obtain⟨q37,q38⟩:=zBj q36
 try simp at q37
 try simp at q38
 have c39:=q37;simp only[Rng,inR] at c39
 refine cut 23 3 [(5,iI n35)] [[iI c2],[iI c3],[.osl ⟨1,3⟩ (c4.map (cI .i64))]] ?_ ?_
 ·refine zAJ [] mixed (n:=23) rfl (by decide) ?_
  simp[q20,q21,q25,q26,q30,q31,q37,q38]
  have r40:=zGQ fuel c4 n28 v33 q34
  try simp[q20,q21,q25,q26,q30,q31,q37,q38] at r40
  refine zGN r40 (by simp) rfl ?_
  simp[q20,q21,q25,q26,q30,q31,q37,q38]
 refine zAB ?_
 obtain rfl:=oi h
 simp
theorem zHR(fuel:Nat):(∀(c1:zMZ)(depth2:Int)(c3:Int)(c4:Int)(c5:(List Int))(r:zMZ)(_:zAp fuel c1 depth2 c3 c4 c5=some r),Raw Tryz.prog 56 [.agg (zMZ.d c1),iI depth2,.fn (.func 30) [] [pT 0,pT 1,pT 2]] [[iI c3],[iI c4],[.osl ⟨1,3⟩ (c5.map (cI .i64))]] (.agg (zMZ.d r)) [[iI c3],[iI c4],[.osl ⟨1,3⟩ (c5.map (cI .i64))]]):=by
 induction fuel with
 |zero=>intro c1 depth2 c3 c4 c5 r h;rw[zAp] at h;cases h
 |succ fuel zHQ=>
  intro c1 depth2 c3 c4 c5 r h
  rw[zAp] at h
  refine zAq Tryz.func56 (by rfl) (by rfl) (by simp) (by simp)<|cutA 55 3 [(1,iI depth2),(2,.fn (.func 30) [] [pT 0,pT 1,pT 2]),(3,pT 3),(6,pT 4)] [[iI c3],[iI c4],[.osl ⟨1,3⟩ (c5.map (cI .i64))],(zMZ.d c1),zz0] ?_
  obtain⟨o7,l8,h⟩:=bs h
  refine joinS o7 55 3 (fun j6=>[(1,iI j6),(2,.fn (.func 30) [] [pT 0,pT 1,pT 2]),(3,pT 3),(6,pT 4)]) (fun j6=>[[iI c3],[iI c4],[.osl ⟨1,3⟩ (c5.map (cI .i64))],(zMZ.d c1),zz0]) (fun jj=>?_) ?_
  ·refine cutA 55 3 [(1,iI depth2),(2,.fn (.func 30) [] [pT 0,pT 1,pT 2]),(3,pT 3),(6,pT 4),(11,iI c1.Op)] [[iI c3],[iI c4],[.osl ⟨1,3⟩ (c5.map (cI .i64))],(zMZ.d c1),zz0]<|zAF<|cutA 55 3 [(1,iI depth2),(2,.fn (.func 30) [] [pT 0,pT 1,pT 2]),(3,pT 3),(6,pT 4),(11,iI c1.Op),(12,.bool (eqI c1.Op 1))] [[iI c3],[iI c4],[.osl ⟨1,3⟩ (c5.map (cI .i64))],(zMZ.d c1),zz0]<|spc l8 rfl (fun g9 l8=>?_) fun g9 l8=>?_
   ·obtain⟨j11,l12,l8⟩:=bs l8
    refine zLO 55 3 [(3,pT 3),(6,pT 4)] [[iI c3],[iI c4],[.osl ⟨1,3⟩ (c5.map (cI .i64))],[iI c1.Op,iI j11,.str c1.S,.sl (c1.Kind.L.map zMY.c),.sl (c1.Names.map cS),.sl (c1.L.map zMZ.c)],zz0] (fun jj=>?_) ?_
    ·refine cutA 55 3 [(1,iI depth2),(2,.fn (.func 30) [] [pT 0,pT 1,pT 2]),(3,pT 3),(6,pT 4),(17,.bool (leI depth2 c1.N))] [[iI c3],[iI c4],[.osl ⟨1,3⟩ (c5.map (cI .i64))],(zMZ.d c1),zz0]<|spc l12 rfl (fun g13 l12=>?_) fun g13 l12=>?_
     ·have c14:=leT g13
      obtain⟨n15,q16,l12⟩:=bs l12
      obtain⟨q17,q18⟩:=zBj q16
      try simp at q17
      try simp at q18
      have c19:=q17;simp only[Rng,inR] at c19
      obtain⟨v20,q21,l12⟩:=bs l12
      obtain⟨n22,q23,l12⟩:=bs l12
      obtain⟨q24,q25⟩:=zBj q23
      try simp at q24
      try simp at q25
      have c26:=q24;simp only[Rng,inR] at c26
      refine last 55 3 [(3,pT 3),(6,pT 4)] [[iI c3],[iI c4],[.osl ⟨1,3⟩ (c5.map (cI .i64))],[iI c1.Op,iI n22,.str c1.S,.sl (c1.Kind.L.map zMY.c),.sl (c1.Names.map cS),.sl (c1.L.map zMZ.c)],zz0] ?_ fun zz hs=>?_
      ·refine st ?_
       simp[q17,q18,q24,q25]
       have r27:=(zMM fuel n15 c3 c4 c5 v20 q21).frame [0,1,2] [[iI c3],[iI c4],[.osl ⟨1,3⟩ (c5.map (cI .i64))],(zMZ.d c1),zz0] (by simp)
       try simp[q17,q18,q24,q25] at r27
       refine zCV r27 (by simp[q17,q18,q24,q25]) rfl ?_
       simp[q17,q18,q24,q25]
      obtain rfl:=oi l12
      exact zAM jj hs
     have c28:=leF g13
     refine zAC ?_
     obtain rfl:=oi l12
     exact zAM jj (zAL (by simp))
    refine cutA 55 3 [(6,pT 4)] [[iI c3],[iI c4],[.osl ⟨1,3⟩ (c5.map (cI .i64))],[iI c1.Op,iI j11,.str c1.S,.sl (c1.Kind.L.map zMY.c),.sl (c1.Names.map cS),.sl (c1.L.map zMZ.c)],[iI c1.Op,iI j11,.str c1.S,.sl (c1.Kind.L.map zMY.c),.sl (c1.Names.map cS),.sl (c1.L.map zMZ.c)]]<|zAB<|zAK ?_
    replace h:=retL l8 h
    refine zAE ?_
    obtain rfl:=oi h
    simp
   obtain⟨j30,l31,l8⟩:=bs l8
   refine zLO 55 3 [(1,iI depth2),(2,.fn (.func 30) [] [pT 0,pT 1,pT 2]),(3,pT 3),(6,pT 4),(28,.bool j30)] [[iI c3],[iI c4],[.osl ⟨1,3⟩ (c5.map (cI .i64))],(zMZ.d c1),zz0] (fun jj=>?_) ?_
   ·refine cutA 55 3 [(1,iI depth2),(2,.fn (.func 30) [] [pT 0,pT 1,pT 2]),(3,pT 3),(6,pT 4),(11,iI c1.Op),(28,.bool (eqI c1.Op 9))] [[iI c3],[iI c4],[.osl ⟨1,3⟩ (c5.map (cI .i64))],(zMZ.d c1),zz0]<|spc l31 rfl (fun g32 l31=>?_) fun g32 l31=>?_
    ·refine zAC ?_
     obtain rfl:=oi l31
     exact zAM jj (zAL (by simp))
    refine cutA 55 3 [(1,iI depth2),(2,.fn (.func 30) [] [pT 0,pT 1,pT 2]),(3,pT 3),(6,pT 4),(11,iI c1.Op),(28,.bool (eqI c1.Op 10))] [[iI c3],[iI c4],[.osl ⟨1,3⟩ (c5.map (cI .i64))],(zMZ.d c1),zz0]<|spc l31 rfl (fun g35 l31=>?_) fun g35 l31=>?_
    ·refine zAC ?_
     obtain rfl:=oi l31
     exact zAM jj (zAL (by simp))
    refine cutA 55 3 [(1,iI depth2),(2,.fn (.func 30) [] [pT 0,pT 1,pT 2]),(3,pT 3),(6,pT 4),(11,iI c1.Op),(28,.bool (eqI c1.Op 11))] [[iI c3],[iI c4],[.osl ⟨1,3⟩ (c5.map (cI .i64))],(zMZ.d c1),zz0]<|spc l31 rfl (fun g38 l31=>?_) fun g38 l31=>?_
    ·refine zAC ?_
     obtain rfl:=oi l31
     exact zAM jj (zAL (by simp))
    refine last 55 3 [(1,iI depth2),(2,.fn (.func 30) [] [pT 0,pT 1,pT 2]),(3,pT 3),(6,pT 4),(28,.bool (eqI c1.Op 13))] [[iI c3],[iI c4],[.osl ⟨1,3⟩ (c5.map (cI .i64))],(zMZ.d c1),zz0] (st (by simp)) fun zz hs=>?_
    obtain rfl:=oi l31
    exact zAM jj hs
   refine spc l8 rfl (fun g41 l8=>?_) fun g41 l8=>?_
   ·obtain⟨n42,q43,l8⟩:=bs l8
    obtain⟨q44,q45⟩:=zBj q43
    try simp at q44
    try simp at q45
    have c46:=q44;simp only[Rng,inR] at c46
    refine last 55 3 [(1,iI n42),(2,.fn (.func 30) [] [pT 0,pT 1,pT 2]),(3,pT 3),(6,pT 4)] [[iI c3],[iI c4],[.osl ⟨1,3⟩ (c5.map (cI .i64))],(zMZ.d c1),zz0] (st (by simp[q44,q45])) fun zz hs=>?_
    refine zC1 ?_
    obtain rfl:=oi l8
    exact zAM (jj _ rfl) hs
   refine zAC<|zC1 ?_
   obtain rfl:=oi l8
   exact zAM (jj _ rfl) (zAL (by simp))
  rintro j6 rfl
  replace h:=zF0 h
  try dsimp only
  refine cutA 55 3 [(1,iI j6),(2,.fn (.func 30) [] [pT 0,pT 1,pT 2]),(3,pT 3),(6,pT 4),(7,.sl (c1.L.map zMZ.c))] [[iI c3],[iI c4],[.osl ⟨1,3⟩ (c5.map (cI .i64))],(zMZ.d c1),zz0]<|cutA 55 3 [(1,iI j6),(2,.fn (.func 30) [] [pT 0,pT 1,pT 2]),(3,pT 3),(6,pT 4),(7,.sl (c1.L.map zMZ.c))] [[iI c3],[iI c4],[.osl ⟨1,3⟩ (c5.map (cI .i64))],[iI c1.Op,iI c1.N,.str c1.S,.sl (c1.Kind.L.map zMY.c),.sl (c1.Names.map cS),.osl ⟨6,28⟩ (([]:List zMZ).map zMZ.c)],zz0]<|zAD<|cutA 55 3 [(1,iI j6),(2,.fn (.func 30) [] [pT 0,pT 1,pT 2]),(3,pT 3),(6,pT 4),(38,.sl (c1.L.map zMZ.c)),(39,iI c1.L.length),(40,iI 0)] [[iI c3],[iI c4],[.osl ⟨1,3⟩ (c5.map (cI .i64))],[iI c1.Op,iI c1.N,.str c1.S,.sl (c1.Kind.L.map zMY.c),.sl (c1.Names.map cS),.osl ⟨6,28⟩ (([]:List zMZ).map zMZ.c)],zz0]<|zAF ?_
  obtain⟨o49,l50,h⟩:=bs h
  refine zAm (fun p:Nat×(List zMZ)×Nat=>mkS 55 3 [(1,iI j6),(2,.fn (.func 30) [] [pT 0,pT 1,pT 2]),(3,pT 3),(6,pT 4),(38,.sl (c1.L.map zMZ.c)),(39,iI c1.L.length),(40,iI p.2.2)] [[iI c3],[iI c4],[.osl ⟨1,3⟩ (c5.map (cI .i64))],[iI c1.Op,iI c1.N,.str c1.S,.sl (c1.Kind.L.map zMY.c),.sl (c1.Names.map cS),.osl ⟨6,28⟩ (p.2.1.map zMZ.c)],zz0]) (fun p=>zBC (zAp fuel) c1 c3 c4 c5 j6 p.1 p.2.1 p.2.2=some o49) (fun p=>p.1) (fuel,([]:List zMZ),0) l50 (zAL (by simp)) ?_
  rintro⟨k51,L47,i48⟩ l50
  try dsimp only at l50 ⊢
  cases k51 with
  |zero=>
   rw[zBC] at l50;cases l50
  |succ k52=>
   rw[zBC] at l50
   refine cutA 55 3 [(1,iI j6),(2,.fn (.func 30) [] [pT 0,pT 1,pT 2]),(3,pT 3),(6,pT 4),(38,.sl (c1.L.map zMZ.c)),(39,iI c1.L.length),(40,iI i48),(41,.bool (ltI i48 c1.L.length))] [[iI c3],[iI c4],[.osl ⟨1,3⟩ (c5.map (cI .i64))],[iI c1.Op,iI c1.N,.str c1.S,.sl (c1.Kind.L.map zMY.c),.sl (c1.Names.map cS),.osl ⟨6,28⟩ (L47.map zMZ.c)],zz0]<|zAD<|spc l50 rfl (fun g53 l50=>?_) fun g53 l50=>?_
   ·have c54:=ltT g53
    refine zCA 38 rfl fun f55=>?_
    rw[zq4] at f55
    refine zAC<|zAH<|zAD<|zAF ?_
    obtain⟨x56,q57,l50⟩:=bs l50
    refine cut 55 3 [(1,iI j6),(2,.fn (.func 30) [] [pT 0,pT 1,pT 2]),(3,pT 3),(6,pT 4),(9,pT 5),(38,.sl (c1.L.map zMZ.c)),(39,iI c1.L.length),(40,iI i48)] [[iI c3],[iI c4],[.osl ⟨1,3⟩ (c5.map (cI .i64))],[iI c1.Op,iI c1.N,.str c1.S,.sl (c1.Kind.L.map zMY.c),.sl (c1.Names.map cS),.osl ⟨6,28⟩ (L47.map zMZ.c)],zz0,(zMZ.d x56)] (st (by simp[q57])) ?_
    obtain⟨v58,q59,l50⟩:=bs l50
    obtain⟨l60,q61,l50⟩:=bs l50
    obtain⟨q62,q63⟩:=zI7 q61
    try simp at q62
    refine last 55 3 [(1,iI j6),(2,.fn (.func 30) [] [pT 0,pT 1,pT 2]),(3,pT 3),(6,pT 4),(38,.sl (c1.L.map zMZ.c)),(39,iI c1.L.length),(40,iI i48)] [[iI c3],[iI c4],[.osl ⟨1,3⟩ (c5.map (cI .i64))],[iI c1.Op,iI c1.N,.str c1.S,.sl (c1.Kind.L.map zMY.c),.sl (c1.Names.map cS),.osl ⟨6,28⟩ (l60.map zMZ.c)],zz0,(zMZ.d x56)] ?_ fun zz hs=>?_
    ·refine zAx [0,1,2,995,996] [7,9] mixed (n:=55) rfl (by decide) (by decide) ?_
     simp[q62,q63]
     have r65:=(zHQ x56 j6 c3 c4 c5 v58 q59).frameZ [0,1,2] [[iI c3],[iI c4],[.osl ⟨1,3⟩ (c5.map (cI .i64))],[iI c1.Op,iI c1.N,.str c1.S,.sl (c1.Kind.L.map zMY.c),.sl (c1.Names.map cS),.osl ⟨6,28⟩ (L47.map zMZ.c)],zz0,(zMZ.d x56)] (by simp) rfl (by simp) (by simp)
     try simp[q62,q63] at r65
     refine zMO r65 (by simp[q62,q63]) rfl (by decide) (by simp) ?_
     simp[q62,q63]
    refine zC1<|zAM ?_ hs
    have q64:Rng .i64 (((i48:Nat):Int)+1):=by simp only[Rng,inR];omega
    try simp at q64
    refine last 55 3 [(1,iI j6),(2,.fn (.func 30) [] [pT 0,pT 1,pT 2]),(3,pT 3),(6,pT 4),(38,.sl (c1.L.map zMZ.c)),(39,iI c1.L.length),(40,iI ((i48+1:Nat):Int))] [[iI c3],[iI c4],[.osl ⟨1,3⟩ (c5.map (cI .i64))],[iI c1.Op,iI c1.N,.str c1.S,.sl (c1.Kind.L.map zMY.c),.sl (c1.Names.map cS),.osl ⟨6,28⟩ (l60.map zMZ.c)],zz0] (st (by simp[q64])) fun zz hs=>?_
    exact⟨(k52,l60,i48+1),hs,l50,by simp⟩
   have c66:=ltF g53
   refine zCA 38 rfl fun f67=>?_
   rw[zq4] at f67
   refine zAQ<|zAG ?_
   have q68:=zqa l50
   have q68:=q68.symm
   refine zAG<|zAS<|zAM (t:=mkS 55 3 [(3,pT 3),(6,pT 4)] [[iI c3],[iI c4],[.osl ⟨1,3⟩ (c5.map (cI .i64))],[iI c1.Op,iI c1.N,.str c1.S,.sl (c1.Kind.L.map zMY.c),.sl (c1.Names.map cS),.osl ⟨6,28⟩ (o49.map zMZ.c)],zz0]) ?_ (zAL (by simp[q68]))
   refine cutA 55 3 [(6,pT 4)] [[iI c3],[iI c4],[.osl ⟨1,3⟩ (c5.map (cI .i64))],[iI c1.Op,iI c1.N,.str c1.S,.sl (c1.Kind.L.map zMY.c),.sl (c1.Names.map cS),.osl ⟨6,28⟩ (o49.map zMZ.c)],[iI c1.Op,iI c1.N,.str c1.S,.sl (c1.Kind.L.map zMY.c),.sl (c1.Names.map cS),.sl (o49.map zMZ.c)]]<|zAB ?_
   obtain rfl:=oi h
   simp
theorem zIk(fuel:Nat):(∀(s1:zMa)(depth2:Int)(c3:Int)(c4:Int)(c5:(List Int))(r:zMa)(_:zAi fuel s1 depth2 c3 c4 c5=some r),Raw Tryz.prog 29 [.agg (zMa.d s1),iI depth2,.fn (.func 30) [] [pT 0,pT 1,pT 2]] [[iI c3],[iI c4],[.osl ⟨1,3⟩ (c5.map (cI .i64))]] (.agg (zMa.d r)) [[iI c3],[iI c4],[.osl ⟨1,3⟩ (c5.map (cI .i64))]]):=by
 induction fuel with
 |zero=>intro s1 depth2 c3 c4 c5 r h;rw[zAi] at h;cases h
 |succ fuel zDh=>
  intro s1 depth2 c3 c4 c5 r h
  rw[zAi] at h
  refine zAq Tryz.func29 (by rfl) (by rfl) (by simp) (by simp)<|cutA 84 3 [(1,iI depth2),(2,.fn (.func 30) [] [pT 0,pT 1,pT 2]),(3,pT 3),(6,pT 4)] [[iI c3],[iI c4],[.osl ⟨1,3⟩ (c5.map (cI .i64))],(zMa.d s1),zz1]<|cutA 84 3 [(1,iI depth2),(2,.fn (.func 30) [] [pT 0,pT 1,pT 2]),(3,pT 3),(6,pT 4),(7,.sl (s1.L.map zMa.c))] [[iI c3],[iI c4],[.osl ⟨1,3⟩ (c5.map (cI .i64))],(zMa.d s1),zz1]<|cutA 84 3 [(1,iI depth2),(2,.fn (.func 30) [] [pT 0,pT 1,pT 2]),(3,pT 3),(6,pT 4),(7,.sl (s1.L.map zMa.c))] [[iI c3],[iI c4],[.osl ⟨1,3⟩ (c5.map (cI .i64))],[iI s1.Op,iI s1.N,.str s1.S,iI s1.Con.Op,iI s1.Con.N,.str s1.Con.S,.sl (s1.Con.Kind.L.map zMY.c),.sl (s1.Con.Names.map cS),.sl (s1.Con.L.map zMZ.c),.sl (s1.Kind.L.map zMY.c),.sl (s1.Kinds.map zMY.c),.sl (s1.More.map zMY.c),.sl (s1.Names.map cS),.osl ⟨14,31⟩ (([]:List zMa).map zMa.c)],zz1] ?_
  obtain⟨j6,l7,h⟩:=bs h
  refine zLO 84 3 [(3,pT 3),(6,pT 4)] [[iI c3],[iI c4],[.osl ⟨1,3⟩ (c5.map (cI .i64))],[iI s1.Op,iI s1.N,.str s1.S,iI j6.1,iI j6.2.1,.str j6.2.2.1,.sl (j6.2.2.2.1.map zMY.c),.sl (j6.2.2.2.2.1.map cS),.sl (j6.2.2.2.2.2.1.map zMZ.c),.sl (s1.Kind.L.map zMY.c),.sl (s1.Kinds.map zMY.c),.sl (s1.More.map zMY.c),.sl (s1.Names.map cS),.osl ⟨14,31⟩ (j6.2.2.2.2.2.2.map zMa.c)],zz1] (fun jj=>?_) ?_
  ·refine cutA 84 3 [(1,iI depth2),(2,.fn (.func 30) [] [pT 0,pT 1,pT 2]),(3,pT 3),(6,pT 4),(7,.sl (s1.L.map zMa.c)),(14,iI s1.Op)] [[iI c3],[iI c4],[.osl ⟨1,3⟩ (c5.map (cI .i64))],[iI s1.Op,iI s1.N,.str s1.S,iI s1.Con.Op,iI s1.Con.N,.str s1.Con.S,.sl (s1.Con.Kind.L.map zMY.c),.sl (s1.Con.Names.map cS),.sl (s1.Con.L.map zMZ.c),.sl (s1.Kind.L.map zMY.c),.sl (s1.Kinds.map zMY.c),.sl (s1.More.map zMY.c),.sl (s1.Names.map cS),.osl ⟨14,31⟩ (([]:List zMa).map zMa.c)],zz1]<|zAF ?_
   obtain⟨j8,l9,l7⟩:=bs l7
   refine zLO 84 3 [(1,iI depth2),(2,.fn (.func 30) [] [pT 0,pT 1,pT 2]),(3,pT 3),(6,pT 4),(7,.sl (s1.L.map zMa.c)),(14,iI s1.Op),(31,.bool j8)] [[iI c3],[iI c4],[.osl ⟨1,3⟩ (c5.map (cI .i64))],[iI s1.Op,iI s1.N,.str s1.S,iI s1.Con.Op,iI s1.Con.N,.str s1.Con.S,.sl (s1.Con.Kind.L.map zMY.c),.sl (s1.Con.Names.map cS),.sl (s1.Con.L.map zMZ.c),.sl (s1.Kind.L.map zMY.c),.sl (s1.Kinds.map zMY.c),.sl (s1.More.map zMY.c),.sl (s1.Names.map cS),.osl ⟨14,31⟩ (([]:List zMa).map zMa.c)],zz1] (fun jj=>?_) ?_
   ·refine cutA 84 3 [(1,iI depth2),(2,.fn (.func 30) [] [pT 0,pT 1,pT 2]),(3,pT 3),(6,pT 4),(7,.sl (s1.L.map zMa.c)),(14,iI s1.Op),(31,.bool (eqI s1.Op 1))] [[iI c3],[iI c4],[.osl ⟨1,3⟩ (c5.map (cI .i64))],[iI s1.Op,iI s1.N,.str s1.S,iI s1.Con.Op,iI s1.Con.N,.str s1.Con.S,.sl (s1.Con.Kind.L.map zMY.c),.sl (s1.Con.Names.map cS),.sl (s1.Con.L.map zMZ.c),.sl (s1.Kind.L.map zMY.c),.sl (s1.Kinds.map zMY.c),.sl (s1.More.map zMY.c),.sl (s1.Names.map cS),.osl ⟨14,31⟩ (([]:List zMa).map zMa.c)],zz1]<|spc l9 rfl (fun g10 l9=>?_) fun g10 l9=>?_
    ·refine zAC ?_
     obtain rfl:=oi l9
     exact zAM jj (zAL (by simp))
    refine cutA 84 3 [(1,iI depth2),(2,.fn (.func 30) [] [pT 0,pT 1,pT 2]),(3,pT 3),(6,pT 4),(7,.sl (s1.L.map zMa.c)),(14,iI s1.Op),(31,.bool (eqI s1.Op 2))] [[iI c3],[iI c4],[.osl ⟨1,3⟩ (c5.map (cI .i64))],[iI s1.Op,iI s1.N,.str s1.S,iI s1.Con.Op,iI s1.Con.N,.str s1.Con.S,.sl (s1.Con.Kind.L.map zMY.c),.sl (s1.Con.Names.map cS),.sl (s1.Con.L.map zMZ.c),.sl (s1.Kind.L.map zMY.c),.sl (s1.Kinds.map zMY.c),.sl (s1.More.map zMY.c),.sl (s1.Names.map cS),.osl ⟨14,31⟩ (([]:List zMa).map zMa.c)],zz1]<|spc l9 rfl (fun g13 l9=>?_) fun g13 l9=>?_
    ·refine zAC ?_
     obtain rfl:=oi l9
     exact zAM jj (zAL (by simp))
    refine last 84 3 [(1,iI depth2),(2,.fn (.func 30) [] [pT 0,pT 1,pT 2]),(3,pT 3),(6,pT 4),(7,.sl (s1.L.map zMa.c)),(14,iI s1.Op),(31,.bool (eqI s1.Op 3))] [[iI c3],[iI c4],[.osl ⟨1,3⟩ (c5.map (cI .i64))],[iI s1.Op,iI s1.N,.str s1.S,iI s1.Con.Op,iI s1.Con.N,.str s1.Con.S,.sl (s1.Con.Kind.L.map zMY.c),.sl (s1.Con.Names.map cS),.sl (s1.Con.L.map zMZ.c),.sl (s1.Kind.L.map zMY.c),.sl (s1.Kinds.map zMY.c),.sl (s1.More.map zMY.c),.sl (s1.Names.map cS),.osl ⟨14,31⟩ (([]:List zMa).map zMa.c)],zz1] (st (by simp)) fun zz hs=>?_
    obtain rfl:=oi l9
    exact zAM jj hs
   refine spc l7 rfl (fun g16 l7=>?_) fun g16 l7=>?_
   ·obtain⟨v17,q18,l7⟩:=bs l7
    refine last 84 3 [(3,pT 3),(6,pT 4)] [[iI c3],[iI c4],[.osl ⟨1,3⟩ (c5.map (cI .i64))],[iI s1.Op,iI s1.N,.str s1.S,iI v17.Op,iI v17.N,.str v17.S,.sl (v17.Kind.L.map zMY.c),.sl (v17.Names.map cS),.sl (v17.L.map zMZ.c),.sl (s1.Kind.L.map zMY.c),.sl (s1.Kinds.map zMY.c),.sl (s1.More.map zMY.c),.sl (s1.Names.map cS),.osl ⟨14,31⟩ (([]:List zMa).map zMa.c)],zz1] ?_ fun zz hs=>?_
    ·refine st ?_
     simp
     have r19:=(zHR fuel s1.Con depth2 c3 c4 c5 v17 q18).frame [0,1,2] [[iI c3],[iI c4],[.osl ⟨1,3⟩ (c5.map (cI .i64))],[iI s1.Op,iI s1.N,.str s1.S,iI s1.Con.Op,iI s1.Con.N,.str s1.Con.S,.sl (s1.Con.Kind.L.map zMY.c),.sl (s1.Con.Names.map cS),.sl (s1.Con.L.map zMZ.c),.sl (s1.Kind.L.map zMY.c),.sl (s1.Kinds.map zMY.c),.sl (s1.More.map zMY.c),.sl (s1.Names.map cS),.osl ⟨14,31⟩ (([]:List zMa).map zMa.c)],zz1] (by simp)
     try simp at r19
     refine zCV r19 (by simp) rfl ?_
     simp
    refine zC1 ?_
    obtain rfl:=oi l7
    exact zAM jj hs
   refine cutA 84 3 [(1,iI depth2),(2,.fn (.func 30) [] [pT 0,pT 1,pT 2]),(3,pT 3),(6,pT 4),(7,.sl (s1.L.map zMa.c)),(14,iI s1.Op),(41,.bool (eqI s1.Op 4))] [[iI c3],[iI c4],[.osl ⟨1,3⟩ (c5.map (cI .i64))],[iI s1.Op,iI s1.N,.str s1.S,iI s1.Con.Op,iI s1.Con.N,.str s1.Con.S,.sl (s1.Con.Kind.L.map zMY.c),.sl (s1.Con.Names.map cS),.sl (s1.Con.L.map zMZ.c),.sl (s1.Kind.L.map zMY.c),.sl (s1.Kinds.map zMY.c),.sl (s1.More.map zMY.c),.sl (s1.Names.map cS),.osl ⟨14,31⟩ (([]:List zMa).map zMa.c)],zz1]<|spc l7 rfl (fun g20 l7=>?_) fun g20 l7=>?_
   ·obtain⟨x22,q23,l7⟩:=bs l7
    obtain⟨n24,q25,l7⟩:=bs l7
    obtain⟨q26,q27⟩:=zBj q25
    try simp at q26
    try simp at q27
    have c28:=q26;simp only[Rng,inR] at c28
    obtain⟨v29,q30,l7⟩:=bs l7
    refine last 84 3 [(3,pT 3),(6,pT 4)] [[iI c3],[iI c4],[.osl ⟨1,3⟩ (c5.map (cI .i64))],[iI s1.Op,iI s1.N,.str s1.S,iI s1.Con.Op,iI s1.Con.N,.str s1.Con.S,.sl (s1.Con.Kind.L.map zMY.c),.sl (s1.Con.Names.map cS),.sl (s1.Con.L.map zMZ.c),.sl (s1.Kind.L.map zMY.c),.sl (s1.Kinds.map zMY.c),.sl (s1.More.map zMY.c),.sl (s1.Names.map cS),.osl ⟨14,31⟩ ([v29].map zMa.c)],zz1] ?_ fun zz hs=>?_
    ·refine zAx [] [9] mixed (n:=84) rfl (by decide) (by decide) ?_
     simp[q23,q26,q27]
     have r31:=(zDh x22 n24 c3 c4 c5 v29 q30).frame [0,1,2] [[iI c3],[iI c4],[.osl ⟨1,3⟩ (c5.map (cI .i64))],[iI s1.Op,iI s1.N,.str s1.S,iI s1.Con.Op,iI s1.Con.N,.str s1.Con.S,.sl (s1.Con.Kind.L.map zMY.c),.sl (s1.Con.Names.map cS),.sl (s1.Con.L.map zMZ.c),.sl (s1.Kind.L.map zMY.c),.sl (s1.Kinds.map zMY.c),.sl (s1.More.map zMY.c),.sl (s1.Names.map cS),.osl ⟨14,31⟩ (([]:List zMa).map zMa.c)],zz1] (by simp)
     try simp[q23,q26,q27] at r31
     refine callX r31 (by simp[q23,q26,q27]) rfl ?_
     simp[q23,q26,q27]
    refine zC1 ?_
    obtain rfl:=oi l7
    exact zAM jj hs
   refine cutA 84 3 [(1,iI depth2),(2,.fn (.func 30) [] [pT 0,pT 1,pT 2]),(3,pT 3),(6,pT 4),(7,.sl (s1.L.map zMa.c)),(55,.bool (eqI s1.Op 6))] [[iI c3],[iI c4],[.osl ⟨1,3⟩ (c5.map (cI .i64))],[iI s1.Op,iI s1.N,.str s1.S,iI s1.Con.Op,iI s1.Con.N,.str s1.Con.S,.sl (s1.Con.Kind.L.map zMY.c),.sl (s1.Con.Names.map cS),.sl (s1.Con.L.map zMZ.c),.sl (s1.Kind.L.map zMY.c),.sl (s1.Kinds.map zMY.c),.sl (s1.More.map zMY.c),.sl (s1.Names.map cS),.osl ⟨14,31⟩ (([]:List zMa).map zMa.c)],zz1]<|spc l7 rfl (fun g33 l7=>?_) fun g33 l7=>?_
   ·obtain⟨x35,q36,l7⟩:=bs l7
    obtain⟨n37,q38,l7⟩:=bs l7
    obtain⟨q39,q40⟩:=zBj q38
    try simp at q39
    try simp at q40
    have c41:=q39;simp only[Rng,inR] at c41
    obtain⟨v42,q43,l7⟩:=bs l7
    obtain⟨x44,q45,l7⟩:=bs l7
    have c46:=q39;simp only[Rng,inR] at c46
    obtain⟨n47,q48,l7⟩:=bs l7
    obtain⟨q49,q50⟩:=zBj q48
    try simp at q49
    try simp at q50
    have c51:=q49;simp only[Rng,inR] at c51
    obtain⟨v52,q53,l7⟩:=bs l7
    refine last 84 3 [(3,pT 3),(6,pT 4)] [[iI c3],[iI c4],[.osl ⟨1,3⟩ (c5.map (cI .i64))],[iI s1.Op,iI s1.N,.str s1.S,iI s1.Con.Op,iI s1.Con.N,.str s1.Con.S,.sl (s1.Con.Kind.L.map zMY.c),.sl (s1.Con.Names.map cS),.sl (s1.Con.L.map zMZ.c),.sl (s1.Kind.L.map zMY.c),.sl (s1.Kinds.map zMY.c),.sl (s1.More.map zMY.c),.sl (s1.Names.map cS),.osl ⟨14,31⟩ ([v42,v52].map zMa.c)],zz1] ?_ fun zz hs=>?_
    ·refine zAx [0,1,2,995,996] [23,26] mixed (n:=84) rfl (by decide) (by decide) ?_
     simp[q36,q39,q40,q45,q49,q50]
     have r54:=(zDh x35 n37 c3 c4 c5 v42 q43).frameZ [0,1,2] [[iI c3],[iI c4],[.osl ⟨1,3⟩ (c5.map (cI .i64))],[iI s1.Op,iI s1.N,.str s1.S,iI s1.Con.Op,iI s1.Con.N,.str s1.Con.S,.sl (s1.Con.Kind.L.map zMY.c),.sl (s1.Con.Names.map cS),.sl (s1.Con.L.map zMZ.c),.sl (s1.Kind.L.map zMY.c),.sl (s1.Kinds.map zMY.c),.sl (s1.More.map zMY.c),.sl (s1.Names.map cS),.osl ⟨14,31⟩ (([]:List zMa).map zMa.c)],zz1] (by simp) rfl (by simp) (by simp)
     try simp[q36,q39,q40,q45,q49,q50] at r54
     refine zMO r54 (by simp[q36,q39,q40,q45,q49,q50]) rfl (by decide) (by simp) ?_
     simp[q36,q39,q40,q45,q49,q50]
     have r55:=(zDh x44 n47 c3 c4 c5 v52 q53).frame [0,1,2] [[iI c3],[iI c4],[.osl ⟨1,3⟩ (c5.map (cI .i64))],[iI s1.Op,iI s1.N,.str s1.S,iI s1.Con.Op,iI s1.Con.N,.str s1.Con.S,.sl (s1.Con.Kind.L.map zMY.c),.sl (s1.Con.Names.map cS),.sl (s1.Con.L.map zMZ.c),.sl (s1.Kind.L.map zMY.c),.sl (s1.Kinds.map zMY.c),.sl (s1.More.map zMY.c),.sl (s1.Names.map cS),.osl ⟨14,31⟩ (([]:List zMa).map zMa.c)],zz1] (by simp)
     try simp[q36,q39,q40,q45,q49,q50] at r55
     refine callX r55 (by simp[q36,q39,q40,q45,q49,q50]) rfl ?_
     simp[q36,q39,q40,q45,q49,q50]
    refine zC1 ?_
    obtain rfl:=oi l7
    exact zAM jj hs
   refine cutA 84 3 [(1,iI depth2),(2,.fn (.func 30) [] [pT 0,pT 1,pT 2]),(3,pT 3),(6,pT 4),(15,.sl (s1.L.map zMa.c)),(16,iI s1.L.length),(17,iI 0)] [[iI c3],[iI c4],[.osl ⟨1,3⟩ (c5.map (cI .i64))],[iI s1.Op,iI s1.N,.str s1.S,iI s1.Con.Op,iI s1.Con.N,.str s1.Con.S,.sl (s1.Con.Kind.L.map zMY.c),.sl (s1.Con.Names.map cS),.sl (s1.Con.L.map zMZ.c),.sl (s1.Kind.L.map zMY.c),.sl (s1.Kinds.map zMY.c),.sl (s1.More.map zMY.c),.sl (s1.Names.map cS),.osl ⟨14,31⟩ (([]:List zMa).map zMa.c)],zz1]<|zAF ?_
   obtain⟨o59,l60,l7⟩:=bs l7
   refine zAm (fun p:Nat×(List zMa)×Nat=>mkS 84 3 [(1,iI depth2),(2,.fn (.func 30) [] [pT 0,pT 1,pT 2]),(3,pT 3),(6,pT 4),(15,.sl (s1.L.map zMa.c)),(16,iI s1.L.length),(17,iI p.2.2)] [[iI c3],[iI c4],[.osl ⟨1,3⟩ (c5.map (cI .i64))],[iI s1.Op,iI s1.N,.str s1.S,iI s1.Con.Op,iI s1.Con.N,.str s1.Con.S,.sl (s1.Con.Kind.L.map zMY.c),.sl (s1.Con.Names.map cS),.sl (s1.Con.L.map zMZ.c),.sl (s1.Kind.L.map zMY.c),.sl (s1.Kinds.map zMY.c),.sl (s1.More.map zMY.c),.sl (s1.Names.map cS),.osl ⟨14,31⟩ (p.2.1.map zMa.c)],zz1]) (fun p=>zBb (zAi fuel) s1 depth2 c3 c4 c5 p.1 p.2.1 p.2.2=some o59) (fun p=>p.1) (fuel,([]:List zMa),0) l60 (zAL (by simp)) ?_
   rintro⟨k61,L57,i58⟩ l60
   try dsimp only at l60 ⊢
   cases k61 with
   |zero=>
    rw[zBb] at l60;cases l60
   |succ k62=>
    rw[zBb] at l60
    refine cutA 84 3 [(1,iI depth2),(2,.fn (.func 30) [] [pT 0,pT 1,pT 2]),(3,pT 3),(6,pT 4),(15,.sl (s1.L.map zMa.c)),(16,iI s1.L.length),(17,iI i58),(18,.bool (ltI i58 s1.L.length))] [[iI c3],[iI c4],[.osl ⟨1,3⟩ (c5.map (cI .i64))],[iI s1.Op,iI s1.N,.str s1.S,iI s1.Con.Op,iI s1.Con.N,.str s1.Con.S,.sl (s1.Con.Kind.L.map zMY.c),.sl (s1.Con.Names.map cS),.sl (s1.Con.L.map zMZ.c),.sl (s1.Kind.L.map zMY.c),.sl (s1.Kinds.map zMY.c),.sl (s1.More.map zMY.c),.sl (s1.Names.map cS),.osl ⟨14,31⟩ (L57.map zMa.c)],zz1]<|zAD<|spc l60 rfl (fun g63 l60=>?_) fun g63 l60=>?_
    ·have c64:=ltT g63
     refine zCA 15 rfl fun f65=>?_
     rw[zq4] at f65
     refine zAC<|zAH<|zAD<|zAF ?_
     obtain⟨x66,q67,l60⟩:=bs l60
     refine cut 84 3 [(1,iI depth2),(2,.fn (.func 30) [] [pT 0,pT 1,pT 2]),(3,pT 3),(6,pT 4),(9,pT 5),(15,.sl (s1.L.map zMa.c)),(16,iI s1.L.length),(17,iI i58)] [[iI c3],[iI c4],[.osl ⟨1,3⟩ (c5.map (cI .i64))],[iI s1.Op,iI s1.N,.str s1.S,iI s1.Con.Op,iI s1.Con.N,.str s1.Con.S,.sl (s1.Con.Kind.L.map zMY.c),.sl (s1.Con.Names.map cS),.sl (s1.Con.L.map zMZ.c),.sl (s1.Kind.L.map zMY.c),.sl (s1.Kinds.map zMY.c),.sl (s1.More.map zMY.c),.sl (s1.Names.map cS),.osl ⟨14,31⟩ (L57.map zMa.c)],zz1,(zMa.d x66)] (st (by simp[q67])) ?_
     obtain⟨v68,q69,l60⟩:=bs l60
     obtain⟨l70,q71,l60⟩:=bs l60
     obtain⟨q72,q73⟩:=zI7 q71
     try simp at q72
     refine last 84 3 [(1,iI depth2),(2,.fn (.func 30) [] [pT 0,pT 1,pT 2]),(3,pT 3),(6,pT 4),(15,.sl (s1.L.map zMa.c)),(16,iI s1.L.length),(17,iI i58)] [[iI c3],[iI c4],[.osl ⟨1,3⟩ (c5.map (cI .i64))],[iI s1.Op,iI s1.N,.str s1.S,iI s1.Con.Op,iI s1.Con.N,.str s1.Con.S,.sl (s1.Con.Kind.L.map zMY.c),.sl (s1.Con.Names.map cS),.sl (s1.Con.L.map zMZ.c),.sl (s1.Kind.L.map zMY.c),.sl (s1.Kinds.map zMY.c),.sl (s1.More.map zMY.c),.sl (s1.Names.map cS),.osl ⟨14,31⟩ (l70.map zMa.c)],zz1,(zMa.d x66)] ?_ fun zz hs=>?_
     ·refine zAx [0,1,2,995,996] [7,9] mixed (n:=84) rfl (by decide) (by decide) ?_
      simp[q72,q73]
      have r75:=(zDh x66 depth2 c3 c4 c5 v68 q69).frameZ [0,1,2] [[iI c3],[iI c4],[.osl ⟨1,3⟩ (c5.map (cI .i64))],[iI s1.Op,iI s1.N,.str s1.S,iI s1.Con.Op,iI s1.Con.N,.str s1.Con.S,.sl (s1.Con.Kind.L.map zMY.c),.sl (s1.Con.Names.map cS),.sl (s1.Con.L.map zMZ.c),.sl (s1.Kind.L.map zMY.c),.sl (s1.Kinds.map zMY.c),.sl (s1.More.map zMY.c),.sl (s1.Names.map cS),.osl ⟨14,31⟩ (L57.map zMa.c)],zz1,(zMa.d x66)] (by simp) rfl (by simp) (by simp)
      try simp[q72,q73] at r75
      refine zMO r75 (by simp[q72,q73]) rfl (by decide) (by simp) ?_
      simp[q72,q73]
     refine zC1<|zAM ?_ hs
     have q74:Rng .i64 (((i58:Nat):Int)+1):=by simp only[Rng,inR];omega
     try simp at q74
     refine last 84 3 [(1,iI depth2),(2,.fn (.func 30) [] [pT 0,pT 1,pT 2]),(3,pT 3),(6,pT 4),(15,.sl (s1.L.map zMa.c)),(16,iI s1.L.length),(17,iI ((i58+1:Nat):Int))] [[iI c3],[iI c4],[.osl ⟨1,3⟩ (c5.map (cI .i64))],[iI s1.Op,iI s1.N,.str s1.S,iI s1.Con.Op,iI s1.Con.N,.str s1.Con.S,.sl (s1.Con.Kind.L.map zMY.c),.sl (s1.Con.Names.map cS),.sl (s1.Con.L.map zMZ.c),.sl (s1.Kind.L.map zMY.c),.sl (s1.Kinds.map zMY.c),.sl (s1.More.map zMY.c),.sl (s1.Names.map cS),.osl ⟨14,31⟩ (l70.map zMa.c)],zz1] (st (by simp[q74])) fun zz hs=>?_
     exact⟨(k62,l70,i58+1),hs,l60,by simp⟩
    have c76:=ltF g63
    refine zCA 15 rfl fun f77=>?_
    rw[zq4] at f77
    refine zAQ<|zAG ?_
    have q78:=zqa l60
    have q78:=q78.symm
    refine zAG<|zAS<|zC1 ?_
    obtain rfl:=oi l7
    exact zAM jj (zAL (by simp[q78]))
  refine cutA 84 3 [(6,pT 4)] [[iI c3],[iI c4],[.osl ⟨1,3⟩ (c5.map (cI .i64))],[iI s1.Op,iI s1.N,.str s1.S,iI j6.1,iI j6.2.1,.str j6.2.2.1,.sl (j6.2.2.2.1.map zMY.c),.sl (j6.2.2.2.2.1.map cS),.sl (j6.2.2.2.2.2.1.map zMZ.c),.sl (s1.Kind.L.map zMY.c),.sl (s1.Kinds.map zMY.c),.sl (s1.More.map zMY.c),.sl (s1.Names.map cS),.osl ⟨14,31⟩ (j6.2.2.2.2.2.2.map zMa.c)],[iI s1.Op,iI s1.N,.str s1.S,iI j6.1,iI j6.2.1,.str j6.2.2.1,.sl (j6.2.2.2.1.map zMY.c),.sl (j6.2.2.2.2.1.map cS),.sl (j6.2.2.2.2.2.1.map zMZ.c),.sl (s1.Kind.L.map zMY.c),.sl (s1.Kinds.map zMY.c),.sl (s1.More.map zMY.c),.sl (s1.Names.map cS),.sl (j6.2.2.2.2.2.2.map zMa.c)]]<|zAB ?_
  obtain rfl:=oi h
  simp
theorem zLh(fuel:Nat)(c1:zMZ)(depth2:Int)(c3:Int)(c4:Int)(r:zMZ×Int)(h:zFh fuel c1 depth2 c3 c4=some r):Raw Tryz.prog 60 [.agg (zMZ.d c1),iI depth2,pT 0,pT 1] [[iI c3],[iI c4]] (.tup [.agg (zMZ.d r.1),iI r.2]) [[iI c3],[iI c4]]:=by
 rw[zFh] at h
 refine zAq Tryz.func60 (by rfl) (by rfl) (by simp) (by simp)<|cutA 16 2 [(1,iI depth2),(2,pT 0),(3,pT 1),(4,pT 2),(6,pT 3)] [[iI c3],[iI c4],(zMZ.d c1),zz0] ?_
 obtain⟨n5,q6,h⟩:=bs h
 obtain⟨q7,q8⟩:=zBj q6
 try simp at q7
 try simp at q8
 have c9:=q7;simp only[Rng,inR] at c9
 obtain⟨v10,q11,h⟩:=bs h
 refine cut 16 2 [(6,pT 3),(7,iI v10.2)] [[iI c3],[iI c4],(zMZ.d c1),(zMZ.d v10.1)] ?_ ?_
 ·refine st ?_
  simp[q7,q8]
  have r12:=zIo fuel c1 c3 n5 v10 q11
  try simp[q7,q8] at r12
  refine cP r12 ?_
  simp[q7,q8]
 refine zAB ?_
 obtain rfl:=oi h
 simp
theorem zHY(fuel:Nat):(∀(s1:zMa)(depth2:Int)(c3:Int)(c4:Int)(r:zMa×Int)(_:zAs fuel s1 depth2 c3 c4=some r),Raw Tryz.prog 40 [.agg (zMa.d s1),iI depth2,.fn (.func 60) [] [pT 0,pT 1]] [[iI c3],[iI c4]] (.tup [.agg (zMa.d r.1),iI r.2]) [[iI c3],[iI c4]]):=by
 induction fuel with
 |zero=>intro s1 depth2 c3 c4 r h;rw[zAs] at h;cases h
 |succ fuel zHl=>
  intro s1 depth2 c3 c4 r h
  rw[zAs] at h
  refine zAq Tryz.func40 (by rfl) (by rfl) (by simp) (by simp)<|cutA 82 2 [(1,iI depth2),(2,.fn (.func 60) [] [pT 0,pT 1]),(3,pT 2),(6,pT 3)] [[iI c3],[iI c4],(zMa.d s1),zz1] ?_
  obtain⟨v5,q6,h⟩:=bs h
  obtain⟨v7,q8,h⟩:=bs h
  obtain⟨v9,q10,h⟩:=bs h
  refine cut 82 2 [(1,iI depth2),(2,.fn (.func 60) [] [pT 0,pT 1]),(3,pT 2),(6,pT 3),(8,pT 4)] [[iI c3],[iI c4],(zMa.d s1),zz1,[iI s1.Op,iI s1.N,.str s1.S,iI 0,iI 0,.str ([]:List UInt8),.osl ⟨1,24⟩ (([]:List zMY).map zMY.c),.osl ⟨1,9⟩ (([]:List (List UInt8)).map cS),.osl ⟨6,28⟩ (([]:List zMZ).map zMZ.c),.sl (s1.Kind.L.map zMY.c),.sl (v5.map zMY.c),.sl (v7.map zMY.c),.sl (v9.map cS),.osl ⟨14,31⟩ (([]:List zMa).map zMa.c)]] ?_ ?_
  ·refine zAJ [] mixed (n:=82) rfl (by decide) ?_
   simp
   have r62:=zCY s1.Kinds v5 q6
   try simp at r62
   refine zGN r62 (by simp) rfl ?_
   simp
   have r63:=zCY s1.More v7 q8
   try simp at r63
   refine zGN r63 (by simp) rfl ?_
   simp
   have r64:=zCJ s1.Names v9 q10
   try simp at r64
   refine zGN r64 (by simp) rfl ?_
   simp
  obtain⟨o12,l13,h⟩:=bs h
  refine joinS o12 82 2 (fun j11=>[(1,iI depth2),(2,.fn (.func 60) [] [pT 0,pT 1]),(3,pT 2),(6,pT 3),(8,pT 4)]) (fun j11=>[[iI c3],[iI c4],(zMa.d s1),zz1,[iI s1.Op,iI s1.N,.str s1.S,iI j11.1,iI j11.2.1,.str j11.2.2.1,.sl (j11.2.2.2.1.map zMY.c),.sl (j11.2.2.2.2.1.map cS),.sl (j11.2.2.2.2.2.map zMZ.c),.sl (s1.Kind.L.map zMY.c),.sl (v5.map zMY.c),.sl (v7.map zMY.c),.sl (v9.map cS),.osl ⟨14,31⟩ (([]:List zMa).map zMa.c)]]) (fun jj=>?_) ?_
  ·obtain⟨v14,q15,l13⟩:=bs l13
   refine cut 82 2 [(1,iI depth2),(2,.fn (.func 60) [] [pT 0,pT 1]),(3,pT 2),(6,pT 3),(8,pT 4),(35,.bool v14)] [[iI c3],[iI c4],(zMa.d s1),zz1,[iI s1.Op,iI s1.N,.str s1.S,iI 0,iI 0,.str ([]:List UInt8),.osl ⟨1,24⟩ (([]:List zMY).map zMY.c),.osl ⟨1,9⟩ (([]:List (List UInt8)).map cS),.osl ⟨6,28⟩ (([]:List zMZ).map zMZ.c),.sl (s1.Kind.L.map zMY.c),.sl (v5.map zMY.c),.sl (v7.map zMY.c),.sl (v9.map cS),.osl ⟨14,31⟩ (([]:List zMa).map zMa.c)]] ?_ ?_
   ·refine st ?_
    simp
    have r25:=zEp s1.Op v14 q15
    try simp at r25
    refine cP r25 ?_
    simp
   refine spc l13 rfl (fun g16 l13=>?_) fun g16 l13=>?_
   ·obtain⟨v17,q18,l13⟩:=bs l13
    refine cut 82 2 [(1,iI depth2),(2,.fn (.func 60) [] [pT 0,pT 1]),(3,pT 2),(6,pT 3),(8,pT 4),(9,pT 5),(10,iI v17.2)] [[iI c3],[iI c4],(zMa.d s1),zz1,[iI s1.Op,iI s1.N,.str s1.S,iI 0,iI 0,.str ([]:List UInt8),.osl ⟨1,24⟩ (([]:List zMY).map zMY.c),.osl ⟨1,9⟩ (([]:List (List UInt8)).map cS),.osl ⟨6,28⟩ (([]:List zMZ).map zMZ.c),.sl (s1.Kind.L.map zMY.c),.sl (v5.map zMY.c),.sl (v7.map zMY.c),.sl (v9.map cS),.osl ⟨14,31⟩ (([]:List zMa).map zMa.c)],(zMZ.d v17.1)] ?_ ?_
    ·refine st ?_
     simp
     have r24:=(zLh fuel s1.Con depth2 c3 c4 v17 q18).frame [0,1] [[iI c3],[iI c4],(zMa.d s1),zz1,[iI s1.Op,iI s1.N,.str s1.S,iI 0,iI 0,.str ([]:List UInt8),.osl ⟨1,24⟩ (([]:List zMY).map zMY.c),.osl ⟨1,9⟩ (([]:List (List UInt8)).map cS),.osl ⟨6,28⟩ (([]:List zMZ).map zMZ.c),.sl (s1.Kind.L.map zMY.c),.sl (v5.map zMY.c),.sl (v7.map zMY.c),.sl (v9.map cS),.osl ⟨14,31⟩ (([]:List zMa).map zMa.c)]] (by simp)
     try simp at r24
     refine zCV r24 (by simp) rfl ?_
     simp
    refine zAD<|cutA 82 2 [(1,iI depth2),(2,.fn (.func 60) [] [pT 0,pT 1]),(3,pT 2),(6,pT 3),(8,pT 4),(9,pT 5),(10,iI v17.2),(45,.bool (!(eqI v17.2 0)))] [[iI c3],[iI c4],(zMa.d s1),zz1,[iI s1.Op,iI s1.N,.str s1.S,iI 0,iI 0,.str ([]:List UInt8),.osl ⟨1,24⟩ (([]:List zMY).map zMY.c),.osl ⟨1,9⟩ (([]:List (List UInt8)).map cS),.osl ⟨6,28⟩ (([]:List zMZ).map zMZ.c),.sl (s1.Kind.L.map zMY.c),.sl (v5.map zMY.c),.sl (v7.map zMY.c),.sl (v9.map cS),.osl ⟨14,31⟩ (([]:List zMa).map zMa.c)],(zMZ.d v17.1)] ?_
    rcases sp l13 with ⟨g19,l13⟩|⟨g19,l13⟩
    ·have g20:=notT g19
     have c21:=eqF g20
     refine zEk rfl g19<|cutA 82 2 [(6,pT 3),(7,iI v17.2)] [[iI c3],[iI c4],(zMa.d s1),zz1,[iI s1.Op,iI s1.N,.str s1.S,iI 0,iI 0,.str ([]:List UInt8),.osl ⟨1,24⟩ (([]:List zMY).map zMY.c),.osl ⟨1,9⟩ (([]:List (List UInt8)).map cS),.osl ⟨6,28⟩ (([]:List zMZ).map zMZ.c),.sl (s1.Kind.L.map zMY.c),.sl (v5.map zMY.c),.sl (v7.map zMY.c),.sl (v9.map cS),.osl ⟨14,31⟩ (([]:List zMa).map zMa.c)],(zMZ.d v17.1)]<|zAB<|zAE ?_
     replace h:=retL l13 h
     refine zAE ?_
     obtain rfl:=oi h
     simp
    have g22:=notF g19
    have c23:=eqT g22
    refine zEc rfl g19<|zAC<|zAH<|last 82 2 [(1,iI depth2),(2,.fn (.func 60) [] [pT 0,pT 1]),(3,pT 2),(6,pT 3),(8,pT 4)] [[iI c3],[iI c4],(zMa.d s1),zz1,[iI s1.Op,iI s1.N,.str s1.S,iI v17.1.Op,iI v17.1.N,.str v17.1.S,.sl (v17.1.Kind.L.map zMY.c),.sl (v17.1.Names.map cS),.sl (v17.1.L.map zMZ.c),.sl (s1.Kind.L.map zMY.c),.sl (v5.map zMY.c),.sl (v7.map zMY.c),.sl (v9.map cS),.osl ⟨14,31⟩ (([]:List zMa).map zMa.c)]] (st (by simp)) fun zz hs=>?_
    obtain rfl:=oi l13
    exact zAM (jj _ rfl) hs
   refine zAC ?_
   obtain rfl:=oi l13
   exact zAM (jj _ rfl) (zAL (by simp))
  rintro j11 rfl
  replace h:=zF0 h
  try dsimp only
  refine zAD<|cutA 82 2 [(1,iI depth2),(2,.fn (.func 60) [] [pT 0,pT 1]),(3,pT 2),(6,pT 3),(8,pT 4),(51,.sl (s1.L.map zMa.c)),(52,iI s1.L.length),(53,iI 0)] [[iI c3],[iI c4],(zMa.d s1),zz1,[iI s1.Op,iI s1.N,.str s1.S,iI j11.1,iI j11.2.1,.str j11.2.2.1,.sl (j11.2.2.2.1.map zMY.c),.sl (j11.2.2.2.2.1.map cS),.sl (j11.2.2.2.2.2.map zMZ.c),.sl (s1.Kind.L.map zMY.c),.sl (v5.map zMY.c),.sl (v7.map zMY.c),.sl (v9.map cS),.osl ⟨14,31⟩ (([]:List zMa).map zMa.c)]]<|zAF ?_
  obtain⟨o29,l30,h⟩:=bs h
  refine zAm (fun p:Nat×(List zMa)×Nat=>mkS 82 2 [(1,iI depth2),(2,.fn (.func 60) [] [pT 0,pT 1]),(3,pT 2),(6,pT 3),(8,pT 4),(51,.sl (s1.L.map zMa.c)),(52,iI s1.L.length),(53,iI p.2.2)] [[iI c3],[iI c4],(zMa.d s1),zz1,[iI s1.Op,iI s1.N,.str s1.S,iI j11.1,iI j11.2.1,.str j11.2.2.1,.sl (j11.2.2.2.1.map zMY.c),.sl (j11.2.2.2.2.1.map cS),.sl (j11.2.2.2.2.2.map zMZ.c),.sl (s1.Kind.L.map zMY.c),.sl (v5.map zMY.c),.sl (v7.map zMY.c),.sl (v9.map cS),.osl ⟨14,31⟩ (p.2.1.map zMa.c)]]) (fun p=>zBM fuel (zAs fuel) s1 depth2 c3 c4 p.1 p.2.1 p.2.2=some o29) (fun p=>p.1) (fuel,([]:List zMa),0) l30 (zAL (by simp)) ?_
  rintro⟨k31,L26,i27⟩ l30
  try dsimp only at l30 ⊢
  cases k31 with
  |zero=>
   rw[zBM] at l30;cases l30
  |succ k32=>
   rw[zBM] at l30
   refine cutA 82 2 [(1,iI depth2),(2,.fn (.func 60) [] [pT 0,pT 1]),(3,pT 2),(6,pT 3),(8,pT 4),(51,.sl (s1.L.map zMa.c)),(52,iI s1.L.length),(53,iI i27),(54,.bool (ltI i27 s1.L.length))] [[iI c3],[iI c4],(zMa.d s1),zz1,[iI s1.Op,iI s1.N,.str s1.S,iI j11.1,iI j11.2.1,.str j11.2.2.1,.sl (j11.2.2.2.1.map zMY.c),.sl (j11.2.2.2.2.1.map cS),.sl (j11.2.2.2.2.2.map zMZ.c),.sl (s1.Kind.L.map zMY.c),.sl (v5.map zMY.c),.sl (v7.map zMY.c),.sl (v9.map cS),.osl ⟨14,31⟩ (L26.map zMa.c)]]<|zAD<|spc l30 rfl (fun g33 l30=>?_) fun g33 l30=>?_
   ·have c34:=ltT g33
    refine zCA 51 rfl fun f35=>?_
    rw[zq4] at f35
    refine zAC<|zAH<|zAD<|zAF ?_
    obtain⟨x36,q37,l30⟩:=bs l30
    refine cut 82 2 [(1,iI depth2),(2,.fn (.func 60) [] [pT 0,pT 1]),(3,pT 2),(6,pT 3),(8,pT 4),(11,iI i27),(12,pT 5),(51,.sl (s1.L.map zMa.c)),(52,iI s1.L.length),(53,iI i27)] [[iI c3],[iI c4],(zMa.d s1),zz1,[iI s1.Op,iI s1.N,.str s1.S,iI j11.1,iI j11.2.1,.str j11.2.2.1,.sl (j11.2.2.2.1.map zMY.c),.sl (j11.2.2.2.2.1.map cS),.sl (j11.2.2.2.2.2.map zMZ.c),.sl (s1.Kind.L.map zMY.c),.sl (v5.map zMY.c),.sl (v7.map zMY.c),.sl (v9.map cS),.osl ⟨14,31⟩ (L26.map zMa.c)],(zMa.d x36)] (st (by simp[q37])) ?_
    obtain⟨v38,q39,l30⟩:=bs l30
    obtain⟨n40,q41,l30⟩:=bs l30
    obtain⟨q42,q43⟩:=zBj q41
    try simp at q42
    try simp at q43
    have c44:=q42;simp only[Rng,inR] at c44
    obtain⟨v45,q46,l30⟩:=bs l30
    refine cut 82 2 [(1,iI depth2),(2,.fn (.func 60) [] [pT 0,pT 1]),(3,pT 2),(6,pT 3),(8,pT 4),(13,pT 6),(14,iI v45.2),(51,.sl (s1.L.map zMa.c)),(52,iI s1.L.length),(53,iI i27)] [[iI c3],[iI c4],(zMa.d s1),zz1,[iI s1.Op,iI s1.N,.str s1.S,iI j11.1,iI j11.2.1,.str j11.2.2.1,.sl (j11.2.2.2.1.map zMY.c),.sl (j11.2.2.2.2.1.map cS),.sl (j11.2.2.2.2.2.map zMZ.c),.sl (s1.Kind.L.map zMY.c),.sl (v5.map zMY.c),.sl (v7.map zMY.c),.sl (v9.map cS),.osl ⟨14,31⟩ (L26.map zMa.c)],(zMa.d x36),(zMa.d v45.1)] ?_ ?_
    ·refine zAx [0,1,6,995,996] [14] mixed (n:=82) rfl (by decide) (by decide) ?_
     simp[q42,q43]
     have r57:=zJ6 fuel s1 ((i27:Nat):Int) v38 q39
     try simp[q42,q43] at r57
     refine zGN r57 (by simp) rfl ?_
     simp[q42,q43]
     have r58:=(zHl x36 n40 c3 c4 v45 q46).frameZ [0,1] [[iI c3],[iI c4],(zMa.d s1),zz1,[iI s1.Op,iI s1.N,.str s1.S,iI j11.1,iI j11.2.1,.str j11.2.2.1,.sl (j11.2.2.2.1.map zMY.c),.sl (j11.2.2.2.2.1.map cS),.sl (j11.2.2.2.2.2.map zMZ.c),.sl (s1.Kind.L.map zMY.c),.sl (v5.map zMY.c),.sl (v7.map zMY.c),.sl (v9.map cS),.osl ⟨14,31⟩ (L26.map zMa.c)],(zMa.d x36)] (by simp) rfl (by simp) (by simp)
     try simp[q42,q43] at r58
     refine zMO r58 (by simp[q42,q43]) rfl (by decide) (by simp) ?_
     simp[q42,q43]
    refine zAD<|cutA 82 2 [(1,iI depth2),(2,.fn (.func 60) [] [pT 0,pT 1]),(3,pT 2),(6,pT 3),(8,pT 4),(13,pT 6),(14,iI v45.2),(51,.sl (s1.L.map zMa.c)),(52,iI s1.L.length),(53,iI i27),(71,.bool (!(eqI v45.2 0)))] [[iI c3],[iI c4],(zMa.d s1),zz1,[iI s1.Op,iI s1.N,.str s1.S,iI j11.1,iI j11.2.1,.str j11.2.2.1,.sl (j11.2.2.2.1.map zMY.c),.sl (j11.2.2.2.2.1.map cS),.sl (j11.2.2.2.2.2.map zMZ.c),.sl (s1.Kind.L.map zMY.c),.sl (v5.map zMY.c),.sl (v7.map zMY.c),.sl (v9.map cS),.osl ⟨14,31⟩ (L26.map zMa.c)],(zMa.d x36),(zMa.d v45.1)] ?_
    rcases sp l30 with ⟨g47,l30⟩|⟨g47,l30⟩
    ·have g48:=notT g47
     have c49:=eqF g48
     refine zEk rfl g47<|cutA 82 2 [(6,pT 3),(7,iI v45.2)] [[iI c3],[iI c4],(zMa.d s1),zz1,[iI s1.Op,iI s1.N,.str s1.S,iI j11.1,iI j11.2.1,.str j11.2.2.1,.sl (j11.2.2.2.1.map zMY.c),.sl (j11.2.2.2.2.1.map cS),.sl (j11.2.2.2.2.2.map zMZ.c),.sl (s1.Kind.L.map zMY.c),.sl (v5.map zMY.c),.sl (v7.map zMY.c),.sl (v9.map cS),.osl ⟨14,31⟩ (L26.map zMa.c)],(zMa.d x36),(zMa.d v45.1)]<|zAB<|zAE<|zAK<|zAE ?_
     replace h:=retL l30 h
     refine zAE<|zAK<|zAE ?_
     obtain rfl:=oi h
     simp
    have g50:=notF g47
    have c51:=eqT g50
    refine zEc rfl g47<|zAC<|zAH ?_
    obtain⟨l52,q53,l30⟩:=bs l30
    obtain⟨q54,q55⟩:=zI7 q53
    try simp at q54
    refine last 82 2 [(1,iI depth2),(2,.fn (.func 60) [] [pT 0,pT 1]),(3,pT 2),(6,pT 3),(8,pT 4),(51,.sl (s1.L.map zMa.c)),(52,iI s1.L.length),(53,iI i27)] [[iI c3],[iI c4],(zMa.d s1),zz1,[iI s1.Op,iI s1.N,.str s1.S,iI j11.1,iI j11.2.1,.str j11.2.2.1,.sl (j11.2.2.2.1.map zMY.c),.sl (j11.2.2.2.2.1.map cS),.sl (j11.2.2.2.2.2.map zMZ.c),.sl (s1.Kind.L.map zMY.c),.sl (v5.map zMY.c),.sl (v7.map zMY.c),.sl (v9.map cS),.osl ⟨14,31⟩ (l52.map zMa.c)],(zMa.d x36),(zMa.d v45.1)] (st (by simp[q54,q55])) fun zz hs=>?_
    refine zC1<|zAM ?_ hs
    have q56:Rng .i64 (((i27:Nat):Int)+1):=by simp only[Rng,inR];omega
    try simp at q56
    refine last 82 2 [(1,iI depth2),(2,.fn (.func 60) [] [pT 0,pT 1]),(3,pT 2),(6,pT 3),(8,pT 4),(51,.sl (s1.L.map zMa.c)),(52,iI s1.L.length),(53,iI ((i27+1:Nat):Int))] [[iI c3],[iI c4],(zMa.d s1),zz1,[iI s1.Op,iI s1.N,.str s1.S,iI j11.1,iI j11.2.1,.str j11.2.2.1,.sl (j11.2.2.2.1.map zMY.c),.sl (j11.2.2.2.2.1.map cS),.sl (j11.2.2.2.2.2.map zMZ.c),.sl (s1.Kind.L.map zMY.c),.sl (v5.map zMY.c),.sl (v7.map zMY.c),.sl (v9.map cS),.osl ⟨14,31⟩ (l52.map zMa.c)]] (st (by simp[q56])) fun zz hs=>?_
    exact⟨(k32,l52,i27+1),hs,l30,by simp⟩
   have c59:=ltF g33
   refine zCA 51 rfl fun f60=>?_
   rw[zq4] at f60
   refine zAQ<|zAG ?_
   rcases o29 with o29|o28
   ·cases l30
   have q61:=Sum.inr.inj (zqa l30)
   replace h:=zF0 h
   have q61:=q61.symm
   refine zAG<|zAS<|zAM (t:=mkS 82 2 [(6,pT 3),(8,pT 4)] [[iI c3],[iI c4],(zMa.d s1),zz1,[iI s1.Op,iI s1.N,.str s1.S,iI j11.1,iI j11.2.1,.str j11.2.2.1,.sl (j11.2.2.2.1.map zMY.c),.sl (j11.2.2.2.2.1.map cS),.sl (j11.2.2.2.2.2.map zMZ.c),.sl (s1.Kind.L.map zMY.c),.sl (v5.map zMY.c),.sl (v7.map zMY.c),.sl (v9.map cS),.osl ⟨14,31⟩ (o28.map zMa.c)]]) ?_ (zAL (by simp[q61]))
   refine cutA 82 2 [(6,pT 3),(7,iI 0)] [[iI c3],[iI c4],(zMa.d s1),[iI s1.Op,iI s1.N,.str s1.S,iI j11.1,iI j11.2.1,.str j11.2.2.1,.sl (j11.2.2.2.1.map zMY.c),.sl (j11.2.2.2.2.1.map cS),.sl (j11.2.2.2.2.2.map zMZ.c),.sl (s1.Kind.L.map zMY.c),.sl (v5.map zMY.c),.sl (v7.map zMY.c),.sl (v9.map cS),.sl (o28.map zMa.c)],[iI s1.Op,iI s1.N,.str s1.S,iI j11.1,iI j11.2.1,.str j11.2.2.1,.sl (j11.2.2.2.1.map zMY.c),.sl (j11.2.2.2.2.1.map cS),.sl (j11.2.2.2.2.2.map zMZ.c),.sl (s1.Kind.L.map zMY.c),.sl (v5.map zMY.c),.sl (v7.map zMY.c),.sl (v9.map cS),.osl ⟨14,31⟩ (o28.map zMa.c)]]<|zAB ?_
   obtain rfl:=oi h
   simp
theorem sem_Shift_ok(fuel:Nat)(s1:zMa)(by2:Int)(from3:Int)(r:zMa×Int)(h:zGs fuel s1 by2 from3=some r):Pure Tryz.prog 32 [.agg (zMa.d s1),iI by2,iI from3] (.tup [.agg (zMa.d r.1),iI r.2]):=by
 rw[zGs] at h
 refine zAA Tryz.func32 (by rfl) (by rfl) (by simp) (by simp) (by simp)<|cutA 45 0 [(3,pT 0),(4,pT 1),(5,pT 2),(6,pT 3)] [(zMa.d s1),[iI by2],[iI from3],zz1]<|zAD<|zAF ?_
 obtain⟨v4,q5,h⟩:=bs h
 refine cut 45 0 [(3,pT 0),(4,pT 1),(5,pT 2),(6,pT 3),(8,.bool (!v4))] [(zMa.d s1),[iI by2],[iI from3],zz1] ?_ ?_
 ·refine st ?_
  simp
  have r34:=zEq fuel s1 v4 q5
  try simp at r34
  refine cP r34 ?_
  simp
 refine spc h rfl (fun g6 h=>?_) fun g6 h=>?_
 ·have g7:=notT g6
  refine cutA 45 0 [(6,pT 3),(7,iI 1)] [(zMa.d s1),[iI by2],[iI from3],zz1]<|zAB<|zAK<|zAE ?_
  obtain rfl:=oi h
  simp
 have g8:=notF g6
 refine cut 45 0 [(3,pT 0),(4,pT 1),(5,pT 2),(6,pT 3),(13,.bool ((ltI from3 0)||((ltI by2 (-20000))||(ltI 20000 by2))))] [(zMa.d s1),[iI by2],[iI from3],zz1] ?_ ?_
 ·rcases tf (ltI from3 0) with g9|g9
  ·have c10:=ltT g9
   refine st ?_
   simp[g9]
  have c11:=ltF g9
  rcases tf (ltI by2 (-20000)) with g12|g12
  ·have c13:=ltT g12
   refine st ?_
   simp[g9,g12]
  have c14:=ltF g12
  refine st ?_
  simp[g9,g12]
 rcases sp h with ⟨g15,h⟩|⟨g15,h⟩
 ·refine zEk rfl g15<|cutA 45 0 [(6,pT 3),(7,iI 2)] [(zMa.d s1),[iI by2],[iI from3],zz1]<|zAB<|zAK<|zAE ?_
  obtain rfl:=oi h
  simp
 obtain⟨g16,g17⟩:=orF g15
 have c18:=ltF g16
 obtain⟨g19,g20⟩:=orF g17
 have c21:=ltF g19
 have c22:=ltF g20
 refine zEc rfl g15 ?_
 obtain⟨v26,q27,h⟩:=bs h
 refine cut 45 0 [(3,pT 0),(4,pT 1),(5,pT 2),(6,pT 3),(25,.bool false)] [(zMa.d s1),[iI by2],[iI from3],zz1] ?_ ?_
 ·rcases sp q27 with ⟨g23,q27⟩|⟨g23,q27⟩
  ·have c24:=ltT g23
   cases q27
  have c25:=ltF g23
  obtain rfl:=oi q27
  refine st ?_
  simp[g23]
 refine zEc rfl rfl<|zAC<|zC1<|zAH<|cutA 45 0 [(3,pT 0),(4,pT 1),(5,pT 2),(6,pT 3)] [(zMa.d s1),[iI by2],[iI (minI from3 20001)],zz1] ?_
 obtain⟨v28,q29,h⟩:=bs h
 obtain⟨v30,q31,h⟩:=bs h
 refine cut 45 0 [(6,pT 3),(7,iI v30.2)] [(zMa.d s1),[iI by2],[iI (minI from3 20001)],(zMa.d v30.1)] ?_ ?_
 ·refine st ?_
  simp
  have r32:=(zHY fuel s1 0 by2 (minI from3 20001) v28 q29).frame [1,2] [(zMa.d s1),[iI by2],[iI (minI from3 20001)],zz1] (by simp)
  try simp at r32
  refine zCV r32 (by simp) rfl ?_
  simp
  have r33:=zJZ fuel v28.1 v28.2 v30 q31
  try simp at r33
  refine cP r33 ?_
  simp
 refine zAB ?_
 obtain rfl:=oi h
 simp
theorem zK8(fuel:Nat):(∀(k1:zMY)(r:zMY)(_:zBz fuel k1=some r),Pure Tryz.prog 33 [.agg [.sl (k1.L.map zMY.c)]] (.agg [.sl (r.L.map zMY.c)])):=by
 induction fuel with
 |zero=>intro k1 r h;rw[zBz] at h;cases h
 |succ fuel zK2=>
  intro k1 r h
  rw[zBz] at h
  refine zAA Tryz.func33 (by rfl) (by rfl) (by simp) (by simp) (by simp)<|cutA 22 0 [(1,pT 0),(2,pT 1)] [[.sl (k1.L.map zMY.c)],zz2]<|cutA 22 0 [(1,pT 0),(2,pT 1),(3,pT 2)] [[.sl (k1.L.map zMY.c)],zz2,zz2]<|zAD<|cutA 22 0 [(2,pT 1),(3,pT 2),(7,.sl (k1.L.map zMY.c)),(8,iI k1.L.length),(9,iI 0)] [[.sl (k1.L.map zMY.c)],zz2,zz2]<|zAF ?_
  obtain⟨o4,l5,h⟩:=bs h
  refine zAm (fun p:Nat×(List zMY)×Nat=>mkS 22 0 [(2,pT 1),(3,pT 2),(7,.sl (k1.L.map zMY.c)),(8,iI k1.L.length),(9,iI p.2.2)] [[.sl (k1.L.map zMY.c)],zz2,[.osl ⟨1,24⟩ (p.2.1.map zMY.c)]]) (fun p=>zCT (zBz fuel) k1 p.1 p.2.1 p.2.2=some o4) (fun p=>p.1) (fuel,([]:List zMY),0) l5 (zAL (by simp)) ?_
  rintro⟨k6,L2,i3⟩ l5
  try dsimp only at l5 ⊢
  cases k6 with
  |zero=>
   rw[zCT] at l5;cases l5
  |succ k7=>
   rw[zCT] at l5
   refine cutA 22 0 [(2,pT 1),(3,pT 2),(7,.sl (k1.L.map zMY.c)),(8,iI k1.L.length),(9,iI i3),(10,.bool (ltI i3 k1.L.length))] [[.sl (k1.L.map zMY.c)],zz2,[.osl ⟨1,24⟩ (L2.map zMY.c)]]<|zAD<|spc l5 rfl (fun g8 l5=>?_) fun g8 l5=>?_
   ·have c9:=ltT g8
    refine zCA 7 rfl fun f10=>?_
    rw[zq4] at f10
    refine zAC<|zAH<|zAD<|zAF ?_
    obtain⟨x11,q12,l5⟩:=bs l5
    refine cut 22 0 [(2,pT 1),(3,pT 2),(5,pT 3),(7,.sl (k1.L.map zMY.c)),(8,iI k1.L.length),(9,iI i3)] [[.sl (k1.L.map zMY.c)],zz2,[.osl ⟨1,24⟩ (L2.map zMY.c)],[.sl (x11.L.map zMY.c)]] (st (by simp[q12])) ?_
    obtain⟨v13,q14,l5⟩:=bs l5
    obtain⟨l15,q16,l5⟩:=bs l5
    obtain⟨q17,q18⟩:=zI7 q16
    try simp at q17
    refine last 22 0 [(2,pT 1),(3,pT 2),(7,.sl (k1.L.map zMY.c)),(8,iI k1.L.length),(9,iI i3)] [[.sl (k1.L.map zMY.c)],zz2,[.osl ⟨1,24⟩ (l15.map zMY.c)],[.sl (x11.L.map zMY.c)]] ?_ fun zz hs=>?_
    ·refine zAJ [] mixed (n:=22) rfl (by decide) ?_
     simp[q17,q18]
     have r20:=zK2 x11 v13 q14
     try simp[q17,q18] at r20
     refine zGN r20 (by simp) rfl ?_
     simp[q17,q18]
    refine zC1<|zAM ?_ hs
    have q19:Rng .i64 (((i3:Nat):Int)+1):=by simp only[Rng,inR];omega
    try simp at q19
    refine last 22 0 [(2,pT 1),(3,pT 2),(7,.sl (k1.L.map zMY.c)),(8,iI k1.L.length),(9,iI ((i3+1:Nat):Int))] [[.sl (k1.L.map zMY.c)],zz2,[.osl ⟨1,24⟩ (l15.map zMY.c)]] (st (by simp[q19])) fun zz hs=>?_
    exact⟨(k7,l15,i3+1),hs,l5,by simp⟩
   have c21:=ltF g8
   refine zCA 7 rfl fun f22=>?_
   rw[zq4] at f22
   refine zAQ<|zAG ?_
   have q23:=zqa l5
   have q23:=q23.symm
   refine zAG<|zAS<|zAM (t:=mkS 22 0 [(2,pT 1),(3,pT 2)] [[.sl (k1.L.map zMY.c)],zz2,[.osl ⟨1,24⟩ (o4.map zMY.c)]]) ?_ (zAL (by simp[q23]))
   refine cutA 22 0 [(2,pT 1)] [[.sl (k1.L.map zMY.c)],[.sl (o4.map zMY.c)],[.osl ⟨1,24⟩ (o4.map zMY.c)]]<|zAB ?_
   obtain rfl:=oi h
   simp
theorem zKl(fuel:Nat)(a1:zMb)(r:zMb×(List Int)×Int)(h:zF2 fuel a1=some r):Pure Tryz.prog 9 [.agg [.sl (a1.Kinds.map zMY.c),iI a1.S.Op,iI a1.S.N,.str a1.S.S,iI a1.S.Con.Op,iI a1.S.Con.N,.str a1.S.Con.S,.sl (a1.S.Con.Kind.L.map zMY.c),.sl (a1.S.Con.Names.map cS),.sl (a1.S.Con.L.map zMZ.c),.sl (a1.S.Kind.L.map zMY.c),.sl (a1.S.Kinds.map zMY.c),.sl (a1.S.More.map zMY.c),.sl (a1.S.Names.map cS),.sl (a1.S.L.map zMa.c)]] (.tup [.agg [.sl (r.1.Kinds.map zMY.c),iI r.1.S.Op,iI r.1.S.N,.str r.1.S.S,iI r.1.S.Con.Op,iI r.1.S.Con.N,.str r.1.S.Con.S,.sl (r.1.S.Con.Kind.L.map zMY.c),.sl (r.1.S.Con.Names.map cS),.sl (r.1.S.Con.L.map zMZ.c),.sl (r.1.S.Kind.L.map zMY.c),.sl (r.1.S.Kinds.map zMY.c),.sl (r.1.S.More.map zMY.c),.sl (r.1.S.Names.map cS),.sl (r.1.S.L.map zMa.c)],.sl (r.2.1.map (cI .i64)),iI r.2.2]):=by
 rw[zF2] at h
 refine zAA Tryz.func9 (by rfl) (by rfl) (by simp) (by simp) (by simp)<|cutA 68 0 [(1,pT 0),(2,pT 1)] [(zMb.c a1),zz3]<|zAD ?_
 obtain⟨v2,q3,h⟩:=bs h
 refine cut 68 0 [(1,pT 0),(2,pT 1),(15,.bool (!v2))] [(zMb.c a1),zz3] ?_ ?_
 ·refine st ?_
  simp
  have r55:=zK7 fuel a1 v2 q3
  try simp at r55
  refine cP r55 ?_
  simp
 refine spc h rfl (fun g4 h=>?_) fun g4 h=>?_
 ·have g5:=notT g4
  refine cutA 68 0 [(2,pT 1),(3,.osl ⟨1,3⟩ (([]:List Int).map (cI .i64))),(4,iI 1)] [(zMb.c a1),zz3]<|zAB<|zAE ?_
  obtain rfl:=oi h
  simp
 have g6:=notF g4
 refine zAC<|zAH ?_
 obtain⟨v7,q8,h⟩:=bs h
 refine cut 68 0 [(1,pT 0),(2,pT 1),(5,pT 2),(6,iI v7.2)] [(zMb.c a1),zz3,(zMa.d v7.1)] ?_ ?_
 ·refine st ?_
  simp
  have r54:=sem_Normal_ok fuel a1.S v7 q8
  try simp at r54
  refine cP r54 ?_
  simp
 refine zAD<|cutA 68 0 [(1,pT 0),(2,pT 1),(5,pT 2),(6,iI v7.2),(24,.bool (!(eqI v7.2 0)))] [(zMb.c a1),zz3,(zMa.d v7.1)] ?_
 rcases sp h with ⟨g9,h⟩|⟨g9,h⟩
 ·have g10:=notT g9
  have c11:=eqF g10
  refine zEk rfl g9<|cutA 68 0 [(2,pT 1),(3,.osl ⟨1,3⟩ (([]:List Int).map (cI .i64))),(4,iI v7.2)] [(zMb.c a1),zz3,(zMa.d v7.1)]<|zAB<|zAE ?_
  obtain rfl:=oi h
  simp
 have g12:=notF g9
 have c13:=eqT g12
 refine zEc rfl g9<|zAC<|zAH<|cutA 68 0 [(1,pT 0),(2,pT 1),(5,pT 2),(7,pT 3)] [(zMb.c a1),zz3,(zMa.d v7.1),[iI a1.Kinds.length]]<|cutA 68 0 [(1,pT 0),(2,pT 1),(5,pT 2),(7,pT 3),(8,pT 4)] [(zMb.c a1),zz3,(zMa.d v7.1),[iI a1.Kinds.length],[.osl ⟨1,3⟩ (([]:List Int).map (cI .i64))]] ?_
 obtain⟨v14,q15,h⟩:=bs h
 refine cut 68 0 [(1,pT 0),(2,pT 1),(5,pT 2),(7,pT 3),(8,pT 4)] [(zMb.c a1),zz3,(zMa.d v7.1),[iI a1.Kinds.length],[.osl ⟨1,3⟩ (v14.map (cI .i64))]] ?_ ?_
 ·refine st ?_
  simp
  have r53:=(zIl fuel v7.1 0 (a1.Kinds.length:Int) ([]:List Int) v14 q15).frame [3,4] [[.sl (a1.Kinds.map zMY.c),iI a1.S.Op,iI a1.S.N,.str a1.S.S,iI a1.S.Con.Op,iI a1.S.Con.N,.str a1.S.Con.S,.sl (a1.S.Con.Kind.L.map zMY.c),.sl (a1.S.Con.Names.map cS),.sl (a1.S.Con.L.map zMZ.c),.sl (a1.S.Kind.L.map zMY.c),.sl (a1.S.Kinds.map zMY.c),.sl (a1.S.More.map zMY.c),.sl (a1.S.Names.map cS),.sl (a1.S.L.map zMa.c)],zz3,(zMa.d v7.1),[iI a1.Kinds.length],[.osl ⟨1,3⟩ (([]:List Int).map (cI .i64))]] (by simp)
  try simp at r53
  refine zCV r53 (by simp) rfl ?_
  simp
 refine cutA 68 0 [(1,pT 0),(2,pT 1),(5,pT 2),(7,pT 3),(8,pT 4),(9,pT 5)] [(zMb.c a1),zz3,(zMa.d v7.1),[iI a1.Kinds.length],[.osl ⟨1,3⟩ (v14.map (cI .i64))],[iI v14.length]] ?_
 obtain⟨v16,q17,h⟩:=bs h
 refine cut 68 0 [(1,pT 0),(2,pT 1),(5,pT 2),(8,pT 4)] [(zMb.c a1),zz3,(zMa.d v16),[iI a1.Kinds.length],[.osl ⟨1,3⟩ (v14.map (cI .i64))],[iI v14.length]] ?_ ?_
 ·refine st ?_
  simp
  have r52:=(zIk fuel v7.1 0 (a1.Kinds.length:Int) (v14.length:Int) v14 v16 q17).frame [3,5,4] [[.sl (a1.Kinds.map zMY.c),iI a1.S.Op,iI a1.S.N,.str a1.S.S,iI a1.S.Con.Op,iI a1.S.Con.N,.str a1.S.Con.S,.sl (a1.S.Con.Kind.L.map zMY.c),.sl (a1.S.Con.Names.map cS),.sl (a1.S.Con.L.map zMZ.c),.sl (a1.S.Kind.L.map zMY.c),.sl (a1.S.Kinds.map zMY.c),.sl (a1.S.More.map zMY.c),.sl (a1.S.Names.map cS),.sl (a1.S.L.map zMa.c)],zz3,(zMa.d v7.1),[iI a1.Kinds.length],[.osl ⟨1,3⟩ (v14.map (cI .i64))],[iI v14.length]] (by simp)
  try simp at r52
  refine zCV r52 (by simp) rfl ?_
  simp
 refine zAD ?_
 obtain⟨v18,q19,h⟩:=bs h
 refine cut 68 0 [(1,pT 0),(2,pT 1),(5,pT 2),(6,iI v18.2),(8,pT 4)] [(zMb.c a1),zz3,(zMa.d v18.1),[iI a1.Kinds.length],[.osl ⟨1,3⟩ (v14.map (cI .i64))],[iI v14.length]] ?_ ?_
 ·refine st ?_
  simp
  have r51:=sem_Shift_ok fuel v16 0 0 v18 q19
  try simp at r51
  refine cP r51 ?_
  simp
 refine cutA 68 0 [(1,pT 0),(2,pT 1),(5,pT 2),(8,pT 4),(44,.bool (!(eqI v18.2 0)))] [(zMb.c a1),zz3,(zMa.d v18.1),[iI a1.Kinds.length],[.osl ⟨1,3⟩ (v14.map (cI .i64))],[iI v14.length]] ?_
 rcases sp h with ⟨g20,h⟩|⟨g20,h⟩
 ·have g21:=notT g20
  have c22:=eqF g21
  refine zEk rfl g20<|cutA 68 0 [(2,pT 1),(3,.osl ⟨1,3⟩ (([]:List Int).map (cI .i64))),(4,iI 6)] [(zMb.c a1),zz3,(zMa.d v18.1),[iI a1.Kinds.length],[.osl ⟨1,3⟩ (v14.map (cI .i64))],[iI v14.length]]<|zAB<|zAE ?_
  obtain rfl:=oi h
  simp
 have g23:=notF g20
 have c24:=eqT g23
 refine zEc rfl g20<|zAC<|zAH<|cutA 68 0 [(1,pT 0),(2,pT 1),(8,pT 4),(10,pT 6)] [(zMb.c a1),zz3,(zMa.d v18.1),[iI a1.Kinds.length],[.osl ⟨1,3⟩ (v14.map (cI .i64))],[iI v14.length],[.osl ⟨1,24⟩ (([]:List zMY).map zMY.c),iI v18.1.Op,iI v18.1.N,.str v18.1.S,iI v18.1.Con.Op,iI v18.1.Con.N,.str v18.1.Con.S,.sl (v18.1.Con.Kind.L.map zMY.c),.sl (v18.1.Con.Names.map cS),.sl (v18.1.Con.L.map zMZ.c),.sl (v18.1.Kind.L.map zMY.c),.sl (v18.1.Kinds.map zMY.c),.sl (v18.1.More.map zMY.c),.sl (v18.1.Names.map cS),.sl (v18.1.L.map zMa.c)]]<|zAD<|cutA 68 0 [(1,pT 0),(2,pT 1),(8,pT 4),(10,pT 6),(48,.sl (v14.map (cI .i64))),(49,iI v14.length),(50,iI 0)] [(zMb.c a1),zz3,(zMa.d v18.1),[iI a1.Kinds.length],[.osl ⟨1,3⟩ (v14.map (cI .i64))],[iI v14.length],[.osl ⟨1,24⟩ (([]:List zMY).map zMY.c),iI v18.1.Op,iI v18.1.N,.str v18.1.S,iI v18.1.Con.Op,iI v18.1.Con.N,.str v18.1.Con.S,.sl (v18.1.Con.Kind.L.map zMY.c),.sl (v18.1.Con.Names.map cS),.sl (v18.1.Con.L.map zMZ.c),.sl (v18.1.Kind.L.map zMY.c),.sl (v18.1.Kinds.map zMY.c),.sl (v18.1.More.map zMY.c),.sl (v18.1.Names.map cS),.sl (v18.1.L.map zMa.c)]]<|zAF ?_
 obtain⟨o27,l28,h⟩:=bs h
 refine zAm (fun p:Nat×(List zMY)×Nat=>mkS 68 0 [(1,pT 0),(2,pT 1),(8,pT 4),(10,pT 6),(48,.sl (v14.map (cI .i64))),(49,iI v14.length),(50,iI p.2.2)] [(zMb.c a1),zz3,(zMa.d v18.1),[iI a1.Kinds.length],[.osl ⟨1,3⟩ (v14.map (cI .i64))],[iI v14.length],[.osl ⟨1,24⟩ (p.2.1.map zMY.c),iI v18.1.Op,iI v18.1.N,.str v18.1.S,iI v18.1.Con.Op,iI v18.1.Con.N,.str v18.1.Con.S,.sl (v18.1.Con.Kind.L.map zMY.c),.sl (v18.1.Con.Names.map cS),.sl (v18.1.Con.L.map zMZ.c),.sl (v18.1.Kind.L.map zMY.c),.sl (v18.1.Kinds.map zMY.c),.sl (v18.1.More.map zMY.c),.sl (v18.1.Names.map cS),.sl (v18.1.L.map zMa.c)]]) (fun p=>zDm fuel a1 v14 p.1 p.2.1 p.2.2=some o27) (fun p=>p.1) (fuel,([]:List zMY),0) l28 (zAL (by simp)) ?_
 rintro⟨k29,Kinds25,i26⟩ l28
 try dsimp only at l28 ⊢
 cases k29 with
 |zero=>
  rw[zDm] at l28;cases l28
 |succ k30=>
  rw[zDm] at l28
  refine cutA 68 0 [(1,pT 0),(2,pT 1),(8,pT 4),(10,pT 6),(48,.sl (v14.map (cI .i64))),(49,iI v14.length),(50,iI i26),(51,.bool (ltI i26 v14.length))] [(zMb.c a1),zz3,(zMa.d v18.1),[iI a1.Kinds.length],[.osl ⟨1,3⟩ (v14.map (cI .i64))],[iI v14.length],[.osl ⟨1,24⟩ (Kinds25.map zMY.c),iI v18.1.Op,iI v18.1.N,.str v18.1.S,iI v18.1.Con.Op,iI v18.1.Con.N,.str v18.1.Con.S,.sl (v18.1.Con.Kind.L.map zMY.c),.sl (v18.1.Con.Names.map cS),.sl (v18.1.Con.L.map zMZ.c),.sl (v18.1.Kind.L.map zMY.c),.sl (v18.1.Kinds.map zMY.c),.sl (v18.1.More.map zMY.c),.sl (v18.1.Names.map cS),.sl (v18.1.L.map zMa.c)]]<|zAD<|spc l28 rfl (fun g31 l28=>?_) fun g31 l28=>?_
  ·have c32:=ltT g31
   refine zCA 48 rfl fun f33=>?_
   rw[zq4] at f33
   refine zAC<|zAH<|zAD<|zAF ?_
   obtain⟨x34,q35,l28⟩:=bs l28
   refine cut 68 0 [(1,pT 0),(2,pT 1),(8,pT 4),(10,pT 6),(12,iI x34),(48,.sl (v14.map (cI .i64))),(49,iI v14.length),(50,iI i26)] [(zMb.c a1),zz3,(zMa.d v18.1),[iI a1.Kinds.length],[.osl ⟨1,3⟩ (v14.map (cI .i64))],[iI v14.length],[.osl ⟨1,24⟩ (Kinds25.map zMY.c),iI v18.1.Op,iI v18.1.N,.str v18.1.S,iI v18.1.Con.Op,iI v18.1.Con.N,.str v18.1.Con.S,.sl (v18.1.Con.Kind.L.map zMY.c),.sl (v18.1.Con.Names.map cS),.sl (v18.1.Con.L.map zMZ.c),.sl (v18.1.Kind.L.map zMY.c),.sl (v18.1.Kinds.map zMY.c),.sl (v18.1.More.map zMY.c),.sl (v18.1.Names.map cS),.sl (v18.1.L.map zMa.c)]] (st (by simp[q35])) ?_
   obtain⟨x36,q37,l28⟩:=bs l28
   obtain⟨q38,q39⟩:=idx_ok q37
   obtain⟨v40,q41,l28⟩:=bs l28
   obtain⟨l42,q43,l28⟩:=bs l28
   obtain⟨q44,q45⟩:=zI7 q43
   try simp at q44
   refine last 68 0 [(1,pT 0),(2,pT 1),(8,pT 4),(10,pT 6),(48,.sl (v14.map (cI .i64))),(49,iI v14.length),(50,iI i26)] [(zMb.c a1),zz3,(zMa.d v18.1),[iI a1.Kinds.length],[.osl ⟨1,3⟩ (v14.map (cI .i64))],[iI v14.length],[.osl ⟨1,24⟩ (l42.map zMY.c),iI v18.1.Op,iI v18.1.N,.str v18.1.S,iI v18.1.Con.Op,iI v18.1.Con.N,.str v18.1.Con.S,.sl (v18.1.Con.Kind.L.map zMY.c),.sl (v18.1.Con.Names.map cS),.sl (v18.1.Con.L.map zMZ.c),.sl (v18.1.Kind.L.map zMY.c),.sl (v18.1.Kinds.map zMY.c),.sl (v18.1.More.map zMY.c),.sl (v18.1.Names.map cS),.sl (v18.1.L.map zMa.c)]] ?_ fun zz hs=>?_
   ·refine zAJ [] mixed (n:=68) rfl (by decide) ?_
    simp[q38,q39,q44,q45]
    have r47:=zK8 fuel x36 v40 q41
    try simp[q38,q39,q44,q45] at r47
    refine zGN r47 (by simp) rfl ?_
    simp[q38,q39,q44,q45]
   refine zC1<|zAM ?_ hs
   have q46:Rng .i64 (((i26:Nat):Int)+1):=by simp only[Rng,inR];omega
   try simp at q46
   refine last 68 0 [(1,pT 0),(2,pT 1),(8,pT 4),(10,pT 6),(48,.sl (v14.map (cI .i64))),(49,iI v14.length),(50,iI ((i26+1:Nat):Int))] [(zMb.c a1),zz3,(zMa.d v18.1),[iI a1.Kinds.length],[.osl ⟨1,3⟩ (v14.map (cI .i64))],[iI v14.length],[.osl ⟨1,24⟩ (l42.map zMY.c),iI v18.1.Op,iI v18.1.N,.str v18.1.S,iI v18.1.Con.Op,iI v18.1.Con.N,.str v18.1.Con.S,.sl (v18.1.Con.Kind.L.map zMY.c),.sl (v18.1.Con.Names.map cS),.sl (v18.1.Con.L.map zMZ.c),.sl (v18.1.Kind.L.map zMY.c),.sl (v18.1.Kinds.map zMY.c),.sl (v18.1.More.map zMY.c),.sl (v18.1.Names.map cS),.sl (v18.1.L.map zMa.c)]] (st (by simp[q46])) fun zz hs=>?_
   exact⟨(k30,l42,i26+1),hs,l28,by simp⟩
  have c48:=ltF g31
  refine zCA 48 rfl fun f49=>?_
  rw[zq4] at f49
  refine zAQ<|zAG ?_
  have q50:=zqa l28
  have q50:=q50.symm
  refine zAG<|zAS<|zAM (t:=mkS 68 0 [(2,pT 1),(8,pT 4),(10,pT 6)] [(zMb.c a1),zz3,(zMa.d v18.1),[iI a1.Kinds.length],[.osl ⟨1,3⟩ (v14.map (cI .i64))],[iI v14.length],[.osl ⟨1,24⟩ (o27.map zMY.c),iI v18.1.Op,iI v18.1.N,.str v18.1.S,iI v18.1.Con.Op,iI v18.1.Con.N,.str v18.1.Con.S,.sl (v18.1.Con.Kind.L.map zMY.c),.sl (v18.1.Con.Names.map cS),.sl (v18.1.Con.L.map zMZ.c),.sl (v18.1.Kind.L.map zMY.c),.sl (v18.1.Kinds.map zMY.c),.sl (v18.1.More.map zMY.c),.sl (v18.1.Names.map cS),.sl (v18.1.L.map zMa.c)]]) ?_ (zAL (by simp[q50]))
  refine cut 68 0 [(2,pT 1),(3,.osl ⟨1,3⟩ (v14.map (cI .i64))),(4,iI 0)] [(zMb.c a1),[.sl (o27.map zMY.c),iI v18.1.Op,iI v18.1.N,.str v18.1.S,iI v18.1.Con.Op,iI v18.1.Con.N,.str v18.1.Con.S,.sl (v18.1.Con.Kind.L.map zMY.c),.sl (v18.1.Con.Names.map cS),.sl (v18.1.Con.L.map zMZ.c),.sl (v18.1.Kind.L.map zMY.c),.sl (v18.1.Kinds.map zMY.c),.sl (v18.1.More.map zMY.c),.sl (v18.1.Names.map cS),.sl (v18.1.L.map zMa.c)],(zMa.d v18.1),[iI a1.Kinds.length],[.sl (v14.map (cI .i64))],[iI v14.length],[.osl ⟨1,24⟩ (o27.map zMY.c),iI v18.1.Op,iI v18.1.N,.str v18.1.S,iI v18.1.Con.Op,iI v18.1.Con.N,.str v18.1.Con.S,.sl (v18.1.Con.Kind.L.map zMY.c),.sl (v18.1.Con.Names.map cS),.sl (v18.1.Con.L.map zMZ.c),.sl (v18.1.Kind.L.map zMY.c),.sl (v18.1.Kinds.map zMY.c),.sl (v18.1.More.map zMY.c),.sl (v18.1.Names.map cS),.sl (v18.1.L.map zMa.c)]] ?_ ?_
  ·refine zAx [1] [3,4] mixed (n:=68) rfl (by decide) (by decide) ?_
   simp
  refine zAB ?_
  obtain rfl:=oi h
  simp
theorem zJb(fuel:Nat)(a1:(List (List UInt8)))(b2:(List (List UInt8)))(r:Bool)(h:zFS fuel a1 b2=some r):Pure Tryz.prog 63 [.sl (a1.map cS),.sl (b2.map cS)] (.bool r):=by
 rw[zFS] at h
 refine zAA Tryz.func63 (by rfl) (by rfl) (by simp) (by simp) (by simp)<|cutA 26 0 [(0,.sl (a1.map cS)),(1,.sl (b2.map cS))] []<|zAD<|cutA 26 0 [(0,.sl (a1.map cS)),(1,.sl (b2.map cS)),(10,.bool (!(eqI a1.length b2.length)))] [] ?_
 rcases sp h with ⟨g3,h⟩|⟨g3,h⟩
 ·have g4:=notT g3
  have c5:=eqF g4
  refine zEk rfl g3<|cutA 26 0 [(4,.bool false)] []<|zAB<|zAE ?_
  obtain rfl:=oi h
  simp
 have g6:=notF g3
 have c7:=eqT g6
 refine zEc rfl g3<|zAC<|zAH<|zAD<|cutA 26 0 [(0,.sl (a1.map cS)),(1,.sl (b2.map cS)),(5,iI 0)] []<|zAF ?_
 obtain⟨o10,l11,h⟩:=bs h
 refine zAm (fun p:Nat×Nat=>mkS 26 0 [(0,.sl (a1.map cS)),(1,.sl (b2.map cS)),(5,iI p.2)] []) (fun p=>zDN a1 b2 p.1 p.2=some o10) (fun p=>p.1) (fuel,0) l11 (zAL (by simp)) ?_
 rintro⟨k12,i8⟩ l11
 try dsimp only at l11 ⊢
 cases k12 with
 |zero=>
  rw[zDN] at l11;cases l11
 |succ k13=>
  rw[zDN] at l11
  refine zAD<|cutA 26 0 [(0,.sl (a1.map cS)),(1,.sl (b2.map cS)),(5,iI i8),(14,.bool (ltI i8 a1.length))] []<|spc l11 rfl (fun g14 l11=>?_) fun g14 l11=>?_
  ·have c15:=ltT g14
   refine zCA 0 rfl fun f16=>?_
   rw[zq4] at f16
   refine zAC<|zAH<|zAD<|zAF ?_
   obtain⟨x17,q18,l11⟩:=bs l11
   obtain⟨x19,q20,l11⟩:=bs l11
   refine cut 26 0 [(0,.sl (a1.map cS)),(1,.sl (b2.map cS)),(5,iI i8),(25,.bool (!(eqS x17 x19)))] [] ?_ ?_
   ·refine zAJ [] mixed (n:=26) rfl (by decide) ?_
    simp[q18,q20]
   refine spc l11 rfl (fun g21 l11=>?_) fun g21 l11=>?_
   ·have g22:=notT g21
    refine cutA 26 0 [(4,.bool false)] []<|zAB<|zAK<|zAE ?_
    replace h:=retL l11 h
    refine zAE<|zAK<|zAE ?_
    obtain rfl:=oi h
    simp
   have g23:=notF g21
   refine zAC<|zC1<|zAH ?_
   have q24:Rng .i64 (((i8:Nat):Int)+1):=by simp only[Rng,inR];omega
   try simp at q24
   refine last 26 0 [(0,.sl (a1.map cS)),(1,.sl (b2.map cS)),(5,iI ((i8+1:Nat):Int))] [] (st (by simp[q24])) fun zz hs=>?_
   exact⟨(k13,i8+1),hs,l11,by simp⟩
  have c25:=ltF g14
  refine zCA 0 rfl fun f26=>?_
  rw[zq4] at f26
  refine zAQ<|zAG ?_
  rcases o10 with o10|o9
  ·cases l11
  have q27:=Sum.inr.inj (zqa l11)
  replace h:=zF0 h
  refine zAG<|zAS<|zAM (t:=mkS 26 0 [] []) ?_ (zAL (by simp))
  refine cutA 26 0 [(4,.bool true)] []<|zAB ?_
  obtain rfl:=oi h
  simp
theorem ref09_Same_ok(fuel:Nat):(∀(a1:zMZ)(b2:zMZ)(r:Bool)(_:zDM fuel a1 b2=some r),Pure Tryz.prog 62 [.agg (zMZ.d a1),.agg (zMZ.d b2)] (.bool r)):=by
 induction fuel with
 |zero=>intro a1 b2 r h;rw[zDM] at h;cases h
 |succ fuel ih_ref09_Same=>
  intro a1 b2 r h
  rw[zDM] at h
  refine zAA Tryz.func62 (by rfl) (by rfl) (by simp) (by simp) (by simp)<|cutA 69 0 [(2,pT 0),(3,pT 1)] [(zMZ.d a1),(zMZ.d b2)]<|zAD ?_
  obtain⟨b28,q29,h⟩:=bs h
  refine cut 69 0 [(2,pT 0),(3,pT 1),(49,.bool b28)] [(zMZ.d a1),(zMZ.d b2)] ?_ ?_
  ·rcases sp q29 with ⟨g3,q29⟩|⟨g3,q29⟩
   ·have g4:=notT g3
    have c5:=eqF g4
    obtain rfl:=oi q29
    refine st ?_
    simp[g3]
   have g6:=notF g3
   have c7:=eqT g6
   rcases sp q29 with ⟨g8,q29⟩|⟨g8,q29⟩
   ·have g9:=notT g8
    have c10:=eqF g9
    obtain rfl:=oi q29
    refine st ?_
    simp[g3,g8]
   have g11:=notF g8
   have c12:=eqT g11
   rcases sp q29 with ⟨g13,q29⟩|⟨g13,q29⟩
   ·have g14:=notT g13
    obtain rfl:=oi q29
    refine st ?_
    simp[g3,g8,g13]
   have g15:=notF g13
   rcases sp q29 with ⟨g16,q29⟩|⟨g16,q29⟩
   ·have g17:=notT g16
    have c18:=eqF g17
    obtain rfl:=oi q29
    refine st ?_
    simp[g3,g8,g13,g16]
   have g19:=notF g16
   have c20:=eqT g19
   obtain⟨v21,q22,q29⟩:=bs q29
   rcases sp q29 with ⟨g23,q29⟩|⟨g23,q29⟩
   ·have g24:=notT g23
    obtain rfl:=oi q29
    have g3x:=g3
    try simp only[g8,g13,g16,g23] at g3x
    have g8x:=g8
    try simp only[g3,g13,g16,g23] at g8x
    have g13x:=g13
    try simp only[g3,g8,g16,g23] at g13x
    have g16x:=g16
    try simp only[g3,g8,g13,g23] at g16x
    have g23x:=g23
    try simp only[g3,g8,g13,g16] at g23x
    refine zAw<|WL.cut 34 69 0 [(2,pT 0),(3,pT 1),(34,.bool (!(eqI a1.L.length b2.L.length))),(39,.bool v21)] [(zMZ.d a1),(zMZ.d b2)] ?_ ?_
    ·simp[g3,g8,g13,g16,g23,g3x,g8x,g13x,g16x,g23x]
     have r54:=zEa fuel a1.Kind b2.Kind v21 q22
     try simp[g3,g8,g13,g16,g23,g3x,g8x,g13x,g16x,g23x] at r54
     refine cP r54 ?_
     simp[g3,g8,g13,g16,g23,g3x,g8x,g13x,g16x,g23x]
    refine WL.last ?_
    simp[g3,g8,g13,g16,g23,g3x,g8x,g13x,g16x,g23x]
   have g25:=notF g23
   obtain⟨v26,q27,q29⟩:=bs q29
   obtain rfl:=oi q29
   have g3x:=g3
   try simp only[g8,g13,g16,g23] at g3x
   have g8x:=g8
   try simp only[g3,g13,g16,g23] at g8x
   have g13x:=g13
   try simp only[g3,g8,g16,g23] at g13x
   have g16x:=g16
   try simp only[g3,g8,g13,g23] at g16x
   have g23x:=g23
   try simp only[g3,g8,g13,g16] at g23x
   refine zAw<|WL.cut 34 69 0 [(2,pT 0),(3,pT 1),(34,.bool (!(eqI a1.L.length b2.L.length))),(39,.bool v21)] [(zMZ.d a1),(zMZ.d b2)] ?_ ?_
   ·simp[g3,g8,g13,g16,g23,g3x,g8x,g13x,g16x,g23x]
    have r55:=zEa fuel a1.Kind b2.Kind v21 q22
    try simp[g3,g8,g13,g16,g23,g3x,g8x,g13x,g16x,g23x] at r55
    refine cP r55 ?_
    simp[g3,g8,g13,g16,g23,g3x,g8x,g13x,g16x,g23x]
   refine WL.cut 8 69 0 [(2,pT 0),(3,pT 1),(42,.bool (!v21)),(47,.bool v26)] [(zMZ.d a1),(zMZ.d b2)] ?_ ?_
   ·simp[g3,g8,g13,g16,g23,g3x,g8x,g13x,g16x,g23x]
    have r56:=zJb fuel a1.Names b2.Names v26 q27
    try simp[g3,g8,g13,g16,g23,g3x,g8x,g13x,g16x,g23x] at r56
    refine cP r56 ?_
    simp[g3,g8,g13,g16,g23,g3x,g8x,g13x,g16x,g23x]
   refine WL.last ?_
   simp[g3,g8,g13,g16,g23,g3x,g8x,g13x,g16x,g23x]
  refine spc h rfl (fun g30 h=>?_) fun g30 h=>?_
  ·refine cutA 69 0 [(4,.bool false)] [(zMZ.d a1),(zMZ.d b2)]<|zAB<|zAE ?_
   obtain rfl:=oi h
   simp
  refine zAC<|zAH<|zAD<|cutA 69 0 [(2,pT 0),(3,pT 1),(5,iI 0)] [(zMZ.d a1),(zMZ.d b2)]<|zAF ?_
  obtain⟨o33,l34,h⟩:=bs h
  refine zAm (fun p:Nat×Nat=>mkS 69 0 [(2,pT 0),(3,pT 1),(5,iI p.2)] [(zMZ.d a1),(zMZ.d b2)]) (fun p=>zDL (zDM fuel) a1 b2 p.1 p.2=some o33) (fun p=>p.1) (fuel,0) l34 (zAL (by simp)) ?_
  rintro⟨k35,i31⟩ l34
  try dsimp only at l34 ⊢
  cases k35 with
  |zero=>
   rw[zDL] at l34;cases l34
  |succ k36=>
   rw[zDL] at l34
   refine zAD<|cutA 69 0 [(2,pT 0),(3,pT 1),(5,iI i31),(54,.bool (ltI i31 a1.L.length))] [(zMZ.d a1),(zMZ.d b2)]<|spc l34 rfl (fun g37 l34=>?_) fun g37 l34=>?_
   ·have c38:=ltT g37
    refine zCB 0 5 rfl rfl rfl fun f39=>?_
    rw[zq4] at f39
    refine zAC<|zAH<|zAD<|zAF ?_
    obtain⟨x40,q41,l34⟩:=bs l34
    obtain⟨x42,q43,l34⟩:=bs l34
    obtain⟨v44,q45,l34⟩:=bs l34
    refine cut 69 0 [(2,pT 0),(3,pT 1),(5,iI i31),(68,.bool (!v44))] [(zMZ.d a1),(zMZ.d b2)] ?_ ?_
    ·refine zAJ [] mixed (n:=69) rfl (by decide) ?_
     simp[q41,q43]
     have r50:=ih_ref09_Same x40 x42 v44 q45
     try simp[q41,q43] at r50
     refine zGN r50 (by simp) rfl ?_
     simp[q41,q43]
    refine spc l34 rfl (fun g46 l34=>?_) fun g46 l34=>?_
    ·have g47:=notT g46
     refine cutA 69 0 [(4,.bool false)] [(zMZ.d a1),(zMZ.d b2)]<|zAB<|zAK<|zAE ?_
     replace h:=retL l34 h
     refine zAE<|zAK<|zAE ?_
     obtain rfl:=oi h
     simp
    have g48:=notF g46
    refine zAC<|zC1<|zAH ?_
    have q49:Rng .i64 (((i31:Nat):Int)+1):=by simp only[Rng,inR];omega
    try simp at q49
    refine last 69 0 [(2,pT 0),(3,pT 1),(5,iI ((i31+1:Nat):Int))] [(zMZ.d a1),(zMZ.d b2)] (st (by simp[q49])) fun zz hs=>?_
    exact⟨(k36,i31+1),hs,l34,by simp⟩
   have c51:=ltF g37
   refine zCB 0 5 rfl rfl rfl fun f52=>?_
   rw[zq4] at f52
   refine zAQ<|zAG ?_
   rcases o33 with o33|o32
   ·cases l34
   have q53:=Sum.inr.inj (zqa l34)
   replace h:=zF0 h
   refine zAG<|zAS<|zAM (t:=mkS 69 0 [] [(zMZ.d a1),(zMZ.d b2)]) ?_ (zAL (by simp))
   refine cutA 69 0 [(4,.bool true)] [(zMZ.d a1),(zMZ.d b2)]<|zAB ?_
   obtain rfl:=oi h
   simp
theorem ref24_Same_ok(fuel:Nat):(∀(a1:zMa)(b2:zMa)(r:Bool)(_:zDI fuel a1 b2=some r),Pure Tryz.prog 34 [.agg (zMa.d a1),.agg (zMa.d b2)] (.bool r)):=by
 induction fuel with
 |zero=>intro a1 b2 r h;rw[zDI] at h;cases h
 |succ fuel ih_ref24_Same=>
  intro a1 b2 r h
  rw[zDI] at h
  refine zAA Tryz.func34 (by rfl) (by rfl) (by simp) (by simp) (by simp)<|cutA 93 0 [(2,pT 0),(3,pT 1)] [(zMa.d a1),(zMa.d b2)]<|zAD ?_
  obtain⟨b41,q42,h⟩:=bs h
  refine cut 93 0 [(2,pT 0),(3,pT 1),(73,.bool b41)] [(zMa.d a1),(zMa.d b2)] ?_ ?_
  ·refine zAw ?_
   rcases sp q42 with ⟨g3,q42⟩|⟨g3,q42⟩
   ·have g4:=notT g3
    have c5:=eqF g4
    obtain rfl:=oi q42
    refine WL.cut 10 93 0 [(2,pT 0),(3,pT 1),(11,.bool (!(eqI a1.Op b2.Op))),(13,.tup []),(15,.tup [])] [(zMa.d a1),(zMa.d b2)] ?_ ?_
    ·simp[g3]
    refine WL.cut 10 93 0 [(2,pT 0),(3,pT 1),(25,.bool true)] [(zMa.d a1),(zMa.d b2)] ?_ ?_
    ·simp[g3]
    refine WL.cut 10 93 0 [(2,pT 0),(3,pT 1),(33,.bool true),(35,.tup [])] [(zMa.d a1),(zMa.d b2)] ?_ ?_
    ·simp[g3]
    refine WL.cut 10 93 0 [(2,pT 0),(3,pT 1),(41,.bool true),(43,.tup []),(45,.tup [])] [(zMa.d a1),(zMa.d b2)] ?_ ?_
    ·simp[g3]
    refine WL.cut 10 93 0 [(2,pT 0),(3,pT 1),(49,.bool true),(55,.tup [])] [(zMa.d a1),(zMa.d b2)] ?_ ?_
    ·simp[g3]
    refine WL.cut 10 93 0 [(2,pT 0),(3,pT 1),(65,.bool true)] [(zMa.d a1),(zMa.d b2)] ?_ ?_
    ·simp[g3]
    refine WL.last ?_
    simp[g3]
   have g6:=notF g3
   have c7:=eqT g6
   refine WL.cut 10 93 0 [(2,pT 0),(3,pT 1),(11,.bool (!(eqI a1.Op b2.Op))),(13,iI a1.N),(15,iI b2.N)] [(zMa.d a1),(zMa.d b2)] ?_ ?_
   ·simp[g3]
   rcases sp q42 with ⟨g8,q42⟩|⟨g8,q42⟩
   ·have g9:=notT g8
    have c10:=eqF g9
    obtain rfl:=oi q42
    have g3x:=g3
    try simp only[g8] at g3x
    have g8x:=g8
    try simp only[g3] at g8x
    refine WL.cut 10 93 0 [(2,pT 0),(3,pT 1),(25,.bool true)] [(zMa.d a1),(zMa.d b2)] ?_ ?_
    ·simp[g3,g8,g3x,g8x]
    refine WL.cut 10 93 0 [(2,pT 0),(3,pT 1),(33,.bool true),(35,.tup [])] [(zMa.d a1),(zMa.d b2)] ?_ ?_
    ·simp[g3,g8,g3x,g8x]
    refine WL.cut 10 93 0 [(2,pT 0),(3,pT 1),(41,.bool true),(43,.tup []),(45,.tup [])] [(zMa.d a1),(zMa.d b2)] ?_ ?_
    ·simp[g3,g8,g3x,g8x]
    refine WL.cut 10 93 0 [(2,pT 0),(3,pT 1),(49,.bool true),(55,.tup [])] [(zMa.d a1),(zMa.d b2)] ?_ ?_
    ·simp[g3,g8,g3x,g8x]
    refine WL.cut 10 93 0 [(2,pT 0),(3,pT 1),(65,.bool true)] [(zMa.d a1),(zMa.d b2)] ?_ ?_
    ·simp[g3,g8,g3x,g8x]
    refine WL.last ?_
    simp[g3,g8,g3x,g8x]
   have g11:=notF g8
   have c12:=eqT g11
   have g3x:=g3
   try simp only[g8] at g3x
   have g8x:=g8
   try simp only[g3] at g8x
   refine WL.cut 10 93 0 [(2,pT 0),(3,pT 1),(25,.bool (!(eqS a1.S b2.S)))] [(zMa.d a1),(zMa.d b2)] ?_ ?_
   ·simp[g3,g8,g3x,g8x]
   rcases sp q42 with ⟨g13,q42⟩|⟨g13,q42⟩
   ·have g14:=notT g13
    obtain rfl:=oi q42
    have g13x:=g13
    try simp only[g3,g8] at g13x
    refine WL.cut 10 93 0 [(2,pT 0),(3,pT 1),(33,.bool true),(35,.tup [])] [(zMa.d a1),(zMa.d b2)] ?_ ?_
    ·simp[g3,g8,g13,g3x,g8x,g13x]
    refine WL.cut 10 93 0 [(2,pT 0),(3,pT 1),(41,.bool true),(43,.tup []),(45,.tup [])] [(zMa.d a1),(zMa.d b2)] ?_ ?_
    ·simp[g3,g8,g13,g3x,g8x,g13x]
    refine WL.cut 10 93 0 [(2,pT 0),(3,pT 1),(49,.bool true),(55,.tup [])] [(zMa.d a1),(zMa.d b2)] ?_ ?_
    ·simp[g3,g8,g13,g3x,g8x,g13x]
    refine WL.cut 10 93 0 [(2,pT 0),(3,pT 1),(65,.bool true)] [(zMa.d a1),(zMa.d b2)] ?_ ?_
    ·simp[g3,g8,g13,g3x,g8x,g13x]
    refine WL.last ?_
    simp[g3,g8,g13,g3x,g8x,g13x]
   have g15:=notF g13
   obtain⟨v16,q17,q42⟩:=bs q42
   have g13x:=g13
   try simp only[g3,g8] at g13x
   refine WL.cut 5 93 0 [(2,pT 0),(3,pT 1),(25,.bool (!(eqS a1.S b2.S))),(30,.bool v16)] [(zMa.d a1),(zMa.d b2)] ?_ ?_
   ·simp[g3,g8,g13,g3x,g8x,g13x]
    have r67:=ref09_Same_ok fuel a1.Con b2.Con v16 q17
    try simp[g3,g8,g13,g3x,g8x,g13x] at r67
    refine cP r67 ?_
    simp[g3,g8,g13,g3x,g8x,g13x]
   rcases sp q42 with ⟨g18,q42⟩|⟨g18,q42⟩
   ·have g19:=notT g18
    obtain rfl:=oi q42
    have g18x:=g18
    try simp only[g3,g8,g13] at g18x
    refine WL.cut 5 93 0 [(2,pT 0),(3,pT 1),(33,.bool (!v16)),(35,.tup [])] [(zMa.d a1),(zMa.d b2)] ?_ ?_
    ·simp[g3,g8,g13,g18,g3x,g8x,g13x,g18x]
    refine WL.cut 10 93 0 [(2,pT 0),(3,pT 1),(41,.bool true),(43,.tup []),(45,.tup [])] [(zMa.d a1),(zMa.d b2)] ?_ ?_
    ·simp[g3,g8,g13,g18,g3x,g8x,g13x,g18x]
    refine WL.cut 10 93 0 [(2,pT 0),(3,pT 1),(49,.bool true),(55,.tup [])] [(zMa.d a1),(zMa.d b2)] ?_ ?_
    ·simp[g3,g8,g13,g18,g3x,g8x,g13x,g18x]
    refine WL.cut 10 93 0 [(2,pT 0),(3,pT 1),(65,.bool true)] [(zMa.d a1),(zMa.d b2)] ?_ ?_
    ·simp[g3,g8,g13,g18,g3x,g8x,g13x,g18x]
    refine WL.last ?_
    simp[g3,g8,g13,g18,g3x,g8x,g13x,g18x]
   have g20:=notF g18
   obtain⟨v21,q22,q42⟩:=bs q42
   have g18x:=g18
   try simp only[g3,g8,g13] at g18x
   refine WL.cut 5 93 0 [(2,pT 0),(3,pT 1),(33,.bool (!v16)),(35,.agg [.sl (a1.Kind.L.map zMY.c)])] [(zMa.d a1),(zMa.d b2)] ?_ ?_
   ·simp[g3,g8,g13,g18,g3x,g8x,g13x,g18x]
   refine WL.cut 3 93 0 [(2,pT 0),(3,pT 1),(33,.bool (!v16)),(38,.bool v21)] [(zMa.d a1),(zMa.d b2)] ?_ ?_
   ·simp[g3,g8,g13,g18,g3x,g8x,g13x,g18x]
    have r68:=zEa fuel a1.Kind b2.Kind v21 q22
    try simp[g3,g8,g13,g18,g3x,g8x,g13x,g18x] at r68
    refine cP r68 ?_
    simp[g3,g8,g13,g18,g3x,g8x,g13x,g18x]
   rcases sp q42 with ⟨g23,q42⟩|⟨g23,q42⟩
   ·have g24:=notT g23
    obtain rfl:=oi q42
    have g23x:=g23
    try simp only[g3,g8,g13,g18] at g23x
    refine WL.cut 7 93 0 [(2,pT 0),(3,pT 1),(41,.bool (!v21)),(43,.tup []),(45,.tup [])] [(zMa.d a1),(zMa.d b2)] ?_ ?_
    ·simp[g3,g8,g13,g18,g23,g3x,g8x,g13x,g18x,g23x]
    refine WL.cut 10 93 0 [(2,pT 0),(3,pT 1),(49,.bool true),(55,.tup [])] [(zMa.d a1),(zMa.d b2)] ?_ ?_
    ·simp[g3,g8,g13,g18,g23,g3x,g8x,g13x,g18x,g23x]
    refine WL.cut 10 93 0 [(2,pT 0),(3,pT 1),(65,.bool true)] [(zMa.d a1),(zMa.d b2)] ?_ ?_
    ·simp[g3,g8,g13,g18,g23,g3x,g8x,g13x,g18x,g23x]
    refine WL.last ?_
    simp[g3,g8,g13,g18,g23,g3x,g8x,g13x,g18x,g23x]
   have g25:=notF g23
   obtain⟨v26,q27,q42⟩:=bs q42
   have g23x:=g23
   try simp only[g3,g8,g13,g18] at g23x
   refine WL.cut 7 93 0 [(2,pT 0),(3,pT 1),(41,.bool (!v21)),(43,.sl (a1.Kinds.map zMY.c)),(45,.sl (b2.Kinds.map zMY.c))] [(zMa.d a1),(zMa.d b2)] ?_ ?_
   ·simp[g3,g8,g13,g18,g23,g3x,g8x,g13x,g18x,g23x]
   refine WL.cut 1 93 0 [(2,pT 0),(3,pT 1),(41,.bool (!v21)),(46,.bool v26)] [(zMa.d a1),(zMa.d b2)] ?_ ?_
   ·simp[g3,g8,g13,g18,g23,g3x,g8x,g13x,g18x,g23x]
    have r69:=zDW fuel a1.Kinds b2.Kinds v26 q27
    try simp[g3,g8,g13,g18,g23,g3x,g8x,g13x,g18x,g23x] at r69
    refine cP r69 ?_
    simp[g3,g8,g13,g18,g23,g3x,g8x,g13x,g18x,g23x]
   rcases sp q42 with ⟨g28,q42⟩|⟨g28,q42⟩
   ·have g29:=notT g28
    obtain rfl:=oi q42
    have g28x:=g28
    try simp only[g3,g8,g13,g18,g23] at g28x
    refine WL.cut 9 93 0 [(2,pT 0),(3,pT 1),(49,.bool (!v26)),(55,.tup [])] [(zMa.d a1),(zMa.d b2)] ?_ ?_
    ·simp[g3,g8,g13,g18,g23,g28,g3x,g8x,g13x,g18x,g23x,g28x]
    refine WL.cut 10 93 0 [(2,pT 0),(3,pT 1),(65,.bool true)] [(zMa.d a1),(zMa.d b2)] ?_ ?_
    ·simp[g3,g8,g13,g18,g23,g28,g3x,g8x,g13x,g18x,g23x,g28x]
    refine WL.last ?_
    simp[g3,g8,g13,g18,g23,g28,g3x,g8x,g13x,g18x,g23x,g28x]
   have g30:=notF g28
   obtain⟨v31,q32,q42⟩:=bs q42
   have g28x:=g28
   try simp only[g3,g8,g13,g18,g23] at g28x
   refine WL.cut 8 93 0 [(2,pT 0),(3,pT 1),(49,.bool (!v26)),(54,.bool v31)] [(zMa.d a1),(zMa.d b2)] ?_ ?_
   ·simp[g3,g8,g13,g18,g23,g28,g3x,g8x,g13x,g18x,g23x,g28x]
    have r70:=zDW fuel a1.More b2.More v31 q32
    try simp[g3,g8,g13,g18,g23,g28,g3x,g8x,g13x,g18x,g23x,g28x] at r70
    refine cP r70 ?_
    simp[g3,g8,g13,g18,g23,g28,g3x,g8x,g13x,g18x,g23x,g28x]
   refine WL.cut 1 93 0 [(2,pT 0),(3,pT 1),(49,.bool (!v26)),(55,.bool (!v31))] [(zMa.d a1),(zMa.d b2)] ?_ ?_
   ·simp[g3,g8,g13,g18,g23,g28,g3x,g8x,g13x,g18x,g23x,g28x]
   rcases sp q42 with ⟨g33,q42⟩|⟨g33,q42⟩
   ·have g34:=notT g33
    obtain rfl:=oi q42
    have g33x:=g33
    try simp only[g3,g8,g13,g18,g23,g28] at g33x
    refine WL.cut 10 93 0 [(2,pT 0),(3,pT 1),(65,.bool true)] [(zMa.d a1),(zMa.d b2)] ?_ ?_
    ·simp[g3,g8,g13,g18,g23,g28,g33,g3x,g8x,g13x,g18x,g23x,g28x,g33x]
    refine WL.last ?_
    simp[g3,g8,g13,g18,g23,g28,g33,g3x,g8x,g13x,g18x,g23x,g28x,g33x]
   have g35:=notF g33
   obtain⟨v36,q37,q42⟩:=bs q42
   have g33x:=g33
   try simp only[g3,g8,g13,g18,g23,g28] at g33x
   refine WL.cut 7 93 0 [(2,pT 0),(3,pT 1),(57,.bool (!v31)),(62,.bool v36)] [(zMa.d a1),(zMa.d b2)] ?_ ?_
   ·simp[g3,g8,g13,g18,g23,g28,g33,g3x,g8x,g13x,g18x,g23x,g28x,g33x]
    have r71:=zJb fuel a1.Names b2.Names v36 q37
    try simp[g3,g8,g13,g18,g23,g28,g33,g3x,g8x,g13x,g18x,g23x,g28x,g33x] at r71
    refine cP r71 ?_
    simp[g3,g8,g13,g18,g23,g28,g33,g3x,g8x,g13x,g18x,g23x,g28x,g33x]
   refine WL.cut 3 93 0 [(2,pT 0),(3,pT 1),(65,.bool (!v36))] [(zMa.d a1),(zMa.d b2)] ?_ ?_
   ·simp[g3,g8,g13,g18,g23,g28,g33,g3x,g8x,g13x,g18x,g23x,g28x,g33x]
   rcases sp q42 with ⟨g38,q42⟩|⟨g38,q42⟩
   ·have g39:=notT g38
    obtain rfl:=oi q42
    have g38x:=g38
    try simp only[g3,g8,g13,g18,g23,g28,g33] at g38x
    refine WL.last ?_
    simp[g3,g8,g13,g18,g23,g28,g33,g38,g3x,g8x,g13x,g18x,g23x,g28x,g33x,g38x]
   have g40:=notF g38
   obtain rfl:=oi q42
   have g38x:=g38
   try simp only[g3,g8,g13,g18,g23,g28,g33] at g38x
   refine WL.last ?_
   simp[g3,g8,g13,g18,g23,g28,g33,g38,g3x,g8x,g13x,g18x,g23x,g28x,g33x,g38x]
  refine spc h rfl (fun g43 h=>?_) fun g43 h=>?_
  ·refine cutA 93 0 [(4,.bool false)] [(zMa.d a1),(zMa.d b2)]<|zAB<|zAE ?_
   obtain rfl:=oi h
   simp
  refine zAC<|zAH<|zAD<|cutA 93 0 [(2,pT 0),(3,pT 1),(5,iI 0)] [(zMa.d a1),(zMa.d b2)]<|zAF ?_
  obtain⟨o46,l47,h⟩:=bs h
  refine zAm (fun p:Nat×Nat=>mkS 93 0 [(2,pT 0),(3,pT 1),(5,iI p.2)] [(zMa.d a1),(zMa.d b2)]) (fun p=>zDH (zDI fuel) a1 b2 p.1 p.2=some o46) (fun p=>p.1) (fuel,0) l47 (zAL (by simp)) ?_
  rintro⟨k48,i44⟩ l47
  try dsimp only at l47 ⊢
  cases k48 with
  |zero=>
   rw[zDH] at l47;cases l47
  |succ k49=>
   rw[zDH] at l47
   refine zAD<|cutA 93 0 [(2,pT 0),(3,pT 1),(5,iI i44),(78,.bool (ltI i44 a1.L.length))] [(zMa.d a1),(zMa.d b2)]<|spc l47 rfl (fun g50 l47=>?_) fun g50 l47=>?_
   ·have c51:=ltT g50
    refine zCB 0 13 rfl rfl rfl fun f52=>?_
    rw[zq4] at f52
    refine zAC<|zAH<|zAD<|zAF ?_
    obtain⟨x53,q54,l47⟩:=bs l47
    obtain⟨x55,q56,l47⟩:=bs l47
    obtain⟨v57,q58,l47⟩:=bs l47
    refine cut 93 0 [(2,pT 0),(3,pT 1),(5,iI i44),(92,.bool (!v57))] [(zMa.d a1),(zMa.d b2)] ?_ ?_
    ·refine zAJ [] mixed (n:=93) rfl (by decide) ?_
     simp[q54,q56]
     have r63:=ih_ref24_Same x53 x55 v57 q58
     try simp[q54,q56] at r63
     refine zGN r63 (by simp) rfl ?_
     simp[q54,q56]
    refine spc l47 rfl (fun g59 l47=>?_) fun g59 l47=>?_
    ·have g60:=notT g59
     refine cutA 93 0 [(4,.bool false)] [(zMa.d a1),(zMa.d b2)]<|zAB<|zAK<|zAE ?_
     replace h:=retL l47 h
     refine zAE<|zAK<|zAE ?_
     obtain rfl:=oi h
     simp
    have g61:=notF g59
    refine zAC<|zC1<|zAH ?_
    have q62:Rng .i64 (((i44:Nat):Int)+1):=by simp only[Rng,inR];omega
    try simp at q62
    refine last 93 0 [(2,pT 0),(3,pT 1),(5,iI ((i44+1:Nat):Int))] [(zMa.d a1),(zMa.d b2)] (st (by simp[q62])) fun zz hs=>?_
    exact⟨(k49,i44+1),hs,l47,by simp⟩
   have c64:=ltF g50
   refine zCB 0 13 rfl rfl rfl fun f65=>?_
   rw[zq4] at f65
   refine zAQ<|zAG ?_
   rcases o46 with o46|o45
   ·cases l47
   have q66:=Sum.inr.inj (zqa l47)
   replace h:=zF0 h
   refine zAG<|zAS<|zAM (t:=mkS 93 0 [] [(zMa.d a1),(zMa.d b2)]) ?_ (zAL (by simp))
   refine cutA 93 0 [(4,.bool true)] [(zMa.d a1),(zMa.d b2)]<|zAB ?_
   obtain rfl:=oi h
   simp
theorem zD0(fuel:Nat)(a1:zMb)(b2:zMb)(r:Bool)(h:zDv fuel a1 b2=some r):Pure Tryz.prog 10 [.agg [.sl (a1.Kinds.map zMY.c),iI a1.S.Op,iI a1.S.N,.str a1.S.S,iI a1.S.Con.Op,iI a1.S.Con.N,.str a1.S.Con.S,.sl (a1.S.Con.Kind.L.map zMY.c),.sl (a1.S.Con.Names.map cS),.sl (a1.S.Con.L.map zMZ.c),.sl (a1.S.Kind.L.map zMY.c),.sl (a1.S.Kinds.map zMY.c),.sl (a1.S.More.map zMY.c),.sl (a1.S.Names.map cS),.sl (a1.S.L.map zMa.c)],.agg [.sl (b2.Kinds.map zMY.c),iI b2.S.Op,iI b2.S.N,.str b2.S.S,iI b2.S.Con.Op,iI b2.S.Con.N,.str b2.S.Con.S,.sl (b2.S.Con.Kind.L.map zMY.c),.sl (b2.S.Con.Names.map cS),.sl (b2.S.Con.L.map zMZ.c),.sl (b2.S.Kind.L.map zMY.c),.sl (b2.S.Kinds.map zMY.c),.sl (b2.S.More.map zMY.c),.sl (b2.S.Names.map cS),.sl (b2.S.L.map zMa.c)]] (.bool r):=by
 rw[zDv] at h
 refine zAA Tryz.func10 (by rfl) (by rfl) (by simp) (by simp) (by simp)<|cutA 17 0 [(2,pT 0),(3,pT 1)] [(zMb.c a1),(zMb.c b2)] ?_
 obtain⟨b8,q9,h⟩:=bs h
 refine cut 17 0 [(4,.bool b8)] [(zMb.c a1),(zMb.c b2)] ?_ ?_
 ·obtain⟨v3,q4,q9⟩:=bs q9
  rcases sp q9 with ⟨g5,q9⟩|⟨g5,q9⟩
  ·obtain⟨v6,q7,q9⟩:=bs q9
   obtain rfl:=oi q9
   refine st ?_
   simp[g5]
   have r10:=zDW fuel a1.Kinds b2.Kinds v3 q4
   try simp[g5] at r10
   refine cP r10 ?_
   simp[g5]
   have r11:=ref24_Same_ok fuel a1.S b2.S v6 q7
   try simp[g5] at r11
   refine cP r11 ?_
   simp[g5]
  obtain rfl:=oi q9
  refine st ?_
  simp[g5]
  have r12:=zDW fuel a1.Kinds b2.Kinds v3 q4
  try simp[g5] at r12
  refine cP r12 ?_
  simp[g5]
 refine zAB ?_
 obtain rfl:=oi h
 simp
theorem zEx(fuel:Nat)(s11:(List Int))(s22:(List Int))(r:Bool)(h:zCo fuel s11 s22=some r):Pure Tryz.prog 11 [.sl (s11.map (cI .i64)),.sl (s22.map (cI .i64))] (.bool r):=by
 rw[zCo] at h
 refine zAA Tryz.func11 (by rfl) (by rfl) (by simp) (by simp) (by simp)<|cutA 26 0 [(0,.sl (s11.map (cI .i64))),(1,.sl (s22.map (cI .i64)))] []<|zAD<|cutA 26 0 [(0,.sl (s11.map (cI .i64))),(1,.sl (s22.map (cI .i64))),(10,.bool (!(eqI s11.length s22.length)))] [] ?_
 rcases sp h with ⟨g3,h⟩|⟨g3,h⟩
 ·have g4:=notT g3
  have c5:=eqF g4
  refine zEk rfl g3<|cutA 26 0 [(4,.bool false)] []<|zAB<|zAE ?_
  obtain rfl:=oi h
  simp
 have g6:=notF g3
 have c7:=eqT g6
 refine zEc rfl g3<|zAC<|zAH<|zAD<|cutA 26 0 [(0,.sl (s11.map (cI .i64))),(1,.sl (s22.map (cI .i64))),(12,iI s11.length),(13,iI 0)] []<|zAF ?_
 obtain⟨o10,l11,h⟩:=bs h
 refine zAm (fun p:Nat×Nat=>mkS 26 0 [(0,.sl (s11.map (cI .i64))),(1,.sl (s22.map (cI .i64))),(12,iI s11.length),(13,iI p.2)] []) (fun p=>zBk s11 s22 p.1 p.2=some o10) (fun p=>p.1) (fuel,0) l11 (zAL (by simp)) ?_
 rintro⟨k12,i8⟩ l11
 try dsimp only at l11 ⊢
 cases k12 with
 |zero=>
  rw[zBk] at l11;cases l11
 |succ k13=>
  rw[zBk] at l11
  refine cutA 26 0 [(0,.sl (s11.map (cI .i64))),(1,.sl (s22.map (cI .i64))),(12,iI s11.length),(13,iI i8),(14,.bool (ltI i8 s11.length))] []<|zAD<|spc l11 rfl (fun g14 l11=>?_) fun g14 l11=>?_
  ·have c15:=ltT g14
   refine zCA 0 rfl fun f16=>?_
   rw[zq4] at f16
   refine zAC<|zAH<|zAD<|zAF<|cutA 26 0 [(0,.sl (s11.map (cI .i64))),(1,.sl (s22.map (cI .i64))),(5,iI i8),(12,iI s11.length),(13,iI i8)] [] ?_
   obtain⟨x17,q18,l11⟩:=bs l11
   obtain⟨x19,q20,l11⟩:=bs l11
   refine cut 26 0 [(0,.sl (s11.map (cI .i64))),(1,.sl (s22.map (cI .i64))),(12,iI s11.length),(13,iI i8),(24,.bool (!(eqI x17 x19)))] [] ?_ ?_
   ·refine zAJ [] mixed (n:=26) rfl (by decide) ?_
    simp[q18,q20]
   rcases sp l11 with ⟨g21,l11⟩|⟨g21,l11⟩
   ·have g22:=notT g21
    have c23:=eqF g22
    refine zEk rfl g21<|cutA 26 0 [(4,.bool false)] []<|zAB<|zAK<|zAE ?_
    replace h:=retL l11 h
    refine zAE<|zAK<|zAE ?_
    obtain rfl:=oi h
    simp
   have g24:=notF g21
   have c25:=eqT g24
   refine zEc rfl g21<|zAC<|zC1<|zAH ?_
   have q26:Rng .i64 (((i8:Nat):Int)+1):=by simp only[Rng,inR];omega
   try simp at q26
   refine last 26 0 [(0,.sl (s11.map (cI .i64))),(1,.sl (s22.map (cI .i64))),(12,iI s11.length),(13,iI ((i8+1:Nat):Int))] [] (st (by simp[q26])) fun zz hs=>?_
   exact⟨(k13,i8+1),hs,l11,by simp⟩
  have c27:=ltF g14
  refine zCA 0 rfl fun f28=>?_
  rw[zq4] at f28
  refine zAQ<|zAG ?_
  rcases o10 with o10|o9
  ·cases l11
  have q29:=Sum.inr.inj (zqa l11)
  replace h:=zF0 h
  refine zAG<|zAS<|zAM (t:=mkS 26 0 [] []) ?_ (zAL (by simp))
  refine cutA 26 0 [(4,.bool true)] []<|zAB ?_
  obtain rfl:=oi h
  simp
theorem zI6(fuel:Nat)(a1:zMb)(b2:zMb)(r:Bool)(h:zDZ fuel a1 b2=some r):Pure Tryz.prog 3 [.agg [.sl (a1.Kinds.map zMY.c),iI a1.S.Op,iI a1.S.N,.str a1.S.S,iI a1.S.Con.Op,iI a1.S.Con.N,.str a1.S.Con.S,.sl (a1.S.Con.Kind.L.map zMY.c),.sl (a1.S.Con.Names.map cS),.sl (a1.S.Con.L.map zMZ.c),.sl (a1.S.Kind.L.map zMY.c),.sl (a1.S.Kinds.map zMY.c),.sl (a1.S.More.map zMY.c),.sl (a1.S.Names.map cS),.sl (a1.S.L.map zMa.c)],.agg [.sl (b2.Kinds.map zMY.c),iI b2.S.Op,iI b2.S.N,.str b2.S.S,iI b2.S.Con.Op,iI b2.S.Con.N,.str b2.S.Con.S,.sl (b2.S.Con.Kind.L.map zMY.c),.sl (b2.S.Con.Names.map cS),.sl (b2.S.Con.L.map zMZ.c),.sl (b2.S.Kind.L.map zMY.c),.sl (b2.S.Kinds.map zMY.c),.sl (b2.S.More.map zMY.c),.sl (b2.S.Names.map cS),.sl (b2.S.L.map zMa.c)]] (.bool r):=by
 rw[zDZ] at h
 refine zAA Tryz.func3 (by rfl) (by rfl) (by simp) (by simp) (by simp)<|cutA 110 0 [(2,pT 0),(3,pT 1)] [(zMb.c a1),(zMb.c b2)]<|zAD ?_
 obtain⟨v3,q4,h⟩:=bs h
 refine cut 110 0 [(2,pT 0),(3,pT 1),(14,.bool (!v3))] [(zMb.c a1),(zMb.c b2)] ?_ ?_
 ·refine st ?_
  simp
  have r109:=zL8 v3 q4
  try simp at r109
  refine cP r109 ?_
  simp
 refine spc h rfl (fun g5 h=>?_) fun g5 h=>?_
 ·have g6:=notT g5
  refine cutA 110 0 [(4,.bool false)] [(zMb.c a1),(zMb.c b2)]<|zAB<|zAE ?_
  obtain rfl:=oi h
  simp
 have g7:=notF g5
 refine zAC<|zAH<|zAD ?_
 obtain⟨b13,q14,h⟩:=bs h
 refine cut 110 0 [(2,pT 0),(3,pT 1),(26,.bool b13)] [(zMb.c a1),(zMb.c b2)] ?_ ?_
 ·obtain⟨v8,q9,q14⟩:=bs q14
  rcases sp q14 with ⟨g10,q14⟩|⟨g10,q14⟩
  ·obtain rfl:=oi q14
   refine st ?_
   simp[g10]
   have r106:=zI5 fuel [a1,b2] v8 q9
   try simp[g10] at r106
   refine cP r106 ?_
   simp[g10]
  obtain⟨v11,q12,q14⟩:=bs q14
  obtain rfl:=oi q14
  refine st ?_
  simp[g10]
  have r107:=zI5 fuel [a1,b2] v8 q9
  try simp[g10] at r107
  refine cP r107 ?_
  simp[g10]
  have r108:=zDW fuel a1.Kinds b2.Kinds v11 q12
  try simp[g10] at r108
  refine cP r108 ?_
  simp[g10]
 refine spc h rfl (fun g15 h=>?_) fun g15 h=>?_
 ·refine cutA 110 0 [(4,.bool true)] [(zMb.c a1),(zMb.c b2)]<|zAB<|zAE ?_
  obtain rfl:=oi h
  simp
 refine zAC<|zAH ?_
 obtain⟨v16,q17,h⟩:=bs h
 refine cut 110 0 [(2,pT 0),(3,pT 1),(5,.bool v16.1),(6,iI v16.2)] [(zMb.c a1),(zMb.c b2)] ?_ ?_
 ·refine st ?_
  simp
  have r105:=sem_Equal_ok fuel a1.S b2.S v16 q17
  try simp at r105
  refine cP r105 ?_
  simp
 refine zAD ?_
 obtain⟨b30,q31,h⟩:=bs h
 refine cut 110 0 [(2,pT 0),(3,pT 1),(5,.bool v16.1),(46,.bool b30)] [(zMb.c a1),(zMb.c b2)] ?_ ?_
 ·rcases sp q31 with ⟨g18,q31⟩|⟨g18,q31⟩
  ·have g19:=notT g18
   have c20:=eqF g19
   obtain rfl:=oi q31
   refine st ?_
   simp[g18]
  have g21:=notF g18
  have c22:=eqT g21
  obtain⟨v23,q24,q31⟩:=bs q31
  rcases sp q31 with ⟨g25,q31⟩|⟨g25,q31⟩
  ·have g26:=notT g25
   obtain rfl:=oi q31
   refine st ?_
   simp[g18,g25]
   have r102:=zDt fuel a1 v23 q24
   try simp[g18,g25] at r102
   refine cP r102 ?_
   simp[g18,g25]
  have g27:=notF g25
  obtain⟨v28,q29,q31⟩:=bs q31
  obtain rfl:=oi q31
  refine st ?_
  simp[g18,g25]
  have r103:=zDt fuel a1 v23 q24
  try simp[g18,g25] at r103
  refine cP r103 ?_
  simp[g18,g25]
  have r104:=zDt fuel b2 v28 q29
  try simp[g18,g25] at r104
  refine cP r104 ?_
  simp[g18,g25]
 refine spc h rfl (fun g32 h=>?_) fun g32 h=>?_
 ·obtain⟨b43,q44,h⟩:=bs h
  refine cut 110 0 [(4,.bool b43)] [(zMb.c a1),(zMb.c b2)] ?_ ?_
  ·rcases sp q44 with ⟨g33,q44⟩|⟨g33,q44⟩
   ·have g34:=notT g33
    obtain rfl:=oi q44
    refine st ?_
    simp[g33]
   have g35:=notF g33
   obtain⟨v36,q37,q44⟩:=bs q44
   rcases sp q44 with ⟨g38,q44⟩|⟨g38,q44⟩
   ·have g39:=notT g38
    obtain rfl:=oi q44
    refine st ?_
    simp[g33,g38]
    have r45:=zDt fuel a1 v36 q37
    try simp[g33,g38] at r45
    refine cP r45 ?_
    simp[g33,g38]
   have g40:=notF g38
   obtain⟨v41,q42,q44⟩:=bs q44
   obtain rfl:=oi q44
   refine st ?_
   simp[g33,g38]
   have r46:=zDt fuel a1 v36 q37
   try simp[g33,g38] at r46
   refine cP r46 ?_
   simp[g33,g38]
   have r47:=zDt fuel b2 v41 q42
   try simp[g33,g38] at r47
   refine cP r47 ?_
   simp[g33,g38]
  refine zAB<|zAE ?_
  obtain rfl:=oi h
  simp
 refine zAC<|zAH ?_
 obtain⟨v48,q49,h⟩:=bs h
 refine cut 110 0 [(2,pT 0),(3,pT 1),(5,.bool v16.1),(7,pT 2),(8,.sl (v48.2.1.map (cI .i64))),(9,iI v48.2.2)] [(zMb.c a1),(zMb.c b2),(zMb.c v48.1)] ?_ ?_
 ·refine st ?_
  simp
  have r101:=zKl fuel a1 v48 q49
  try simp at r101
  refine cP r101 ?_
  simp
 obtain⟨v50,q51,h⟩:=bs h
 refine cut 110 0 [(2,pT 0),(5,.bool v16.1),(7,pT 2),(8,.sl (v48.2.1.map (cI .i64))),(9,iI v48.2.2),(10,pT 3),(11,.sl (v50.2.1.map (cI .i64))),(12,iI v50.2.2)] [(zMb.c a1),(zMb.c b2),(zMb.c v48.1),(zMb.c v50.1)] ?_ ?_
 ·refine st ?_
  simp
  have r100:=zKl fuel b2 v50 q51
  try simp at r100
  refine cP r100 ?_
  simp
 refine zAD<|cut 110 0 [(2,pT 0),(5,.bool v16.1),(7,pT 2),(8,.sl (v48.2.1.map (cI .i64))),(9,iI v48.2.2),(10,pT 3),(11,.sl (v50.2.1.map (cI .i64))),(12,iI v50.2.2),(76,.bool ((eqI v48.2.2 6)||(eqI v50.2.2 6)))] [(zMb.c a1),(zMb.c b2),(zMb.c v48.1),(zMb.c v50.1)] ?_ ?_
 ·rcases tf (eqI v48.2.2 6) with g52|g52
  ·have c53:=eqT g52
   refine st ?_
   simp[g52]
  have c54:=eqF g52
  refine st ?_
  simp[g52]
 rcases sp h with ⟨g55,h⟩|⟨g55,h⟩
 ·refine zEk rfl g55<|cutA 110 0 [(4,.bool true)] [(zMb.c a1),(zMb.c b2),(zMb.c v48.1),(zMb.c v50.1)]<|zAB<|zAE ?_
  obtain rfl:=oi h
  simp
 obtain⟨g56,g57⟩:=orF g55
 have c58:=eqF g56
 have c59:=eqF g57
 refine zEc rfl g55<|zAC<|zAH<|zAD<|cut 110 0 [(2,pT 0),(5,.bool v16.1),(7,pT 2),(8,.sl (v48.2.1.map (cI .i64))),(10,pT 3),(11,.sl (v50.2.1.map (cI .i64))),(82,.bool ((!(eqI v48.2.2 0))||(!(eqI v50.2.2 0))))] [(zMb.c a1),(zMb.c b2),(zMb.c v48.1),(zMb.c v50.1)] ?_ ?_
 ·rcases tf (!(eqI v48.2.2 0)) with g60|g60
  ·have g61:=notT g60
   have c62:=eqF g61
   refine st ?_
   simp[g60]
  have g63:=notF g60
  have c64:=eqT g63
  refine st ?_
  simp[g60]
 rcases sp h with ⟨g65,h⟩|⟨g65,h⟩
 ·refine zEk rfl g65<|cutA 110 0 [(4,.bool false)] [(zMb.c a1),(zMb.c b2),(zMb.c v48.1),(zMb.c v50.1)]<|zAB<|zAE ?_
  obtain rfl:=oi h
  simp
 obtain⟨g66,g67⟩:=orF g65
 have g68:=notF g66
 have c69:=eqT g68
 have g70:=notF g67
 have c71:=eqT g70
 refine zEc rfl g65<|zAC<|zAH<|zAD<|cutA 110 0 [(2,pT 0),(7,pT 2),(8,.sl (v48.2.1.map (cI .i64))),(10,pT 3),(11,.sl (v50.2.1.map (cI .i64))),(83,.bool v16.1)] [(zMb.c a1),(zMb.c b2),(zMb.c v48.1),(zMb.c v50.1)]<|spc h rfl (fun g72 h=>?_) fun g72 h=>?_
 ·obtain⟨b78,q79,h⟩:=bs h
  refine cut 110 0 [(4,.bool b78)] [(zMb.c a1),(zMb.c b2),(zMb.c v48.1),(zMb.c v50.1)] ?_ ?_
  ·obtain⟨v73,q74,q79⟩:=bs q79
   rcases sp q79 with ⟨g75,q79⟩|⟨g75,q79⟩
   ·obtain⟨v76,q77,q79⟩:=bs q79
    obtain rfl:=oi q79
    refine st ?_
    simp[g75]
    have r80:=zD0 fuel v48.1 v50.1 v73 q74
    try simp[g75] at r80
    refine cP r80 ?_
    simp[g75]
    have r81:=zEx fuel v48.2.1 v50.2.1 v76 q77
    try simp[g75] at r81
    refine cP r81 ?_
    simp[g75]
   obtain rfl:=oi q79
   refine st ?_
   simp[g75]
   have r82:=zD0 fuel v48.1 v50.1 v73 q74
   try simp[g75] at r82
   refine cP r82 ?_
   simp[g75]
  refine zAB<|zAE ?_
  obtain rfl:=oi h
  simp
 refine zAC<|zAH ?_
 obtain⟨b93,q94,h⟩:=bs h
 refine cut 110 0 [(4,.bool b93)] [(zMb.c a1),(zMb.c b2),(zMb.c v48.1),(zMb.c v50.1)] ?_ ?_
 ·obtain⟨v83,q84,q94⟩:=bs q94
  rcases sp q94 with ⟨g85,q94⟩|⟨g85,q94⟩
  ·have g86:=notT g85
   obtain rfl:=oi q94
   refine st ?_
   simp[g85]
   have r95:=zD0 fuel v48.1 v50.1 v83 q84
   try simp[g85] at r95
   refine cP r95 ?_
   simp[g85]
  have g87:=notF g85
  obtain⟨v88,q89,q94⟩:=bs q94
  rcases sp q94 with ⟨g90,q94⟩|⟨g90,q94⟩
  ·have g91:=notT g90
   obtain rfl:=oi q94
   refine st ?_
   simp[g85,g90]
   have r96:=zD0 fuel v48.1 v50.1 v83 q84
   try simp[g85,g90] at r96
   refine cP r96 ?_
   simp[g85,g90]
   have r97:=zEx fuel v48.2.1 v50.2.1 v88 q89
   try simp[g85,g90] at r97
   refine cP r97 ?_
   simp[g85,g90]
  have g92:=notF g90
  obtain rfl:=oi q94
  refine st ?_
  simp[g85,g90]
  have r98:=zD0 fuel v48.1 v50.1 v83 q84
  try simp[g85,g90] at r98
  refine cP r98 ?_
  simp[g85,g90]
  have r99:=zEx fuel v48.2.1 v50.2.1 v88 q89
  try simp[g85,g90] at r99
  refine cP r99 ?_
  simp[g85,g90]
 refine zAB ?_
 obtain rfl:=oi h
 simp
theorem zDD{α β:Type}(a:α)(f:α->Option β):(some a).bind f=f a:=Eq.trans (Option.bind_some a f) rfl
theorem chk64{n:Int}(h1: -9223372036854775808<=n)(h2:n<=9223372036854775807):chk .i64 n=some n:=by rw[chk,if_pos];exact⟨h1,h2⟩
theorem zFM{α:Type}{b:Nat}{x y:List α}(h:0<b)(h2:(x.length+y.length)*b<=140737488355328):app b x y=some (x++y):=by rw[app,if_pos ⟨h,h2⟩]
theorem idxN{α:Type}(l:List α)(i:Nat):idx l (i:Int)=l[i]? :=by rw[idx,if_pos (by omega)];simp
theorem subD{α:Type}(s:List α)(i:Nat)(h:i<=s.length):subC s (i:Int) (s.length:Int)=some (s.drop i):=by
 rw[subC,if_pos ⟨by omega,by omega,by omega⟩]
 unfold sub
 rw[List.take_of_length_le (by simp)]
 simp
theorem subT{α:Type}(s:List α)(n:Nat)(h:n<=s.length):subC s 0 (n:Int)=some (s.take n):=by
 rw[subC,if_pos ⟨by omega,by omega,by omega⟩]
 simp[sub]
theorem ltN{i n:Nat}(h: ¬i<n): ¬ltI (i:Int) (n:Int)=true:=fun h'=>by have:=ltT h';omega
theorem ltP{i n:Nat}(h:i<n):ltI (i:Int) (n:Int)=true:=zqb (by omega)
theorem zJw(P:UInt8->Bool)(h:(List.range 256).all (fun n=>P (UInt8.ofNat n))=true)(c:UInt8):P c=true:=by
 have:=zq8 h c.toNat (List.mem_range.2 c.toNat_lt)
 simpa using this
def smB(c:UInt8):Bool:=decide (97<=c.toNat)&&decide (c.toNat<=122)
def caB(c:UInt8):Bool:=decide (65<=c.toNat)&&decide (c.toNat<=90)
def inU(c:UInt8):Bool:=smB c||caB c||(decide (48<=c.toNat)&&decide (c.toNat<=57))||decide (c.toNat=95)
def nm(p:UInt8->Bool):List UInt8->Bool
 |[]=>false
 |c::s=>decide ((c::s).length<=24)&&(p c&&(c::s).all inU)
theorem nm_cons(p:UInt8->Bool)(c:UInt8)(s:List UInt8):nm p (c::s)=(decide ((c::s).length<=24)&&(p c&&(c::s).all inU)):=rfl
theorem of_M(c:UInt8): ∃k,zDp c=some k∧((eqI k 0||eqI k 5)= !inU c)∧(eqI k 2=caB c)∧(eqI k 1=smB c):=by
 have h:=zJw (fun c=>match zDp c with|some k=>((eqI k 0||eqI k 5)== !inU c)&&((eqI k 2==caB c)&&(eqI k 1==smB c))|none=>false) (by kernel_rfl) c
 cases hk:zDp c with
 |none=>rw[hk] at h;cases h
 |some k=>
  rw[hk] at h
  simp only[zq7,beq_iff_eq] at h
  exact⟨k,rfl,h.1,h.2.1,h.2.2⟩
theorem Inner_M(c:UInt8):zDg c=some (inU c):=by
 have h:=zJw (fun c=>match zDg c with|some b=>b==inU c|none=>false) (by kernel_rfl) c
 cases hk:zDg c with
 |none=>rw[hk] at h;cases h
 |some k=>rw[hk] at h;rw[beq_iff_eq] at h;rw[h]
theorem Capital_M(c:UInt8):zDO c=some (caB c):=by
 have h:=zJw (fun c=>match zDO c with|some b=>b==caB c|none=>false) (by kernel_rfl) c
 cases hk:zDO c with
 |none=>rw[hk] at h;cases h
 |some k=>rw[hk] at h;rw[beq_iff_eq] at h;rw[h]
theorem Small_M(c:UInt8):zD9 c=some (smB c):=by
 have h:=zJw (fun c=>match zD9 c with|some b=>b==smB c|none=>false) (by kernel_rfl) c
 cases hk:zD9 c with
 |none=>rw[hk] at h;cases h
 |some k=>rw[hk] at h;rw[beq_iff_eq] at h;rw[h]
theorem name_loop(l:List UInt8): ∀(n i k:Nat),i+n=l.length->n+1<=k->zCl l k i=some (if (l.drop i).all inU=true then .inr () else .inl false):=by
 intro n
 induction n with
 |zero=>
  intro i k hi hk
  obtain⟨g,rfl⟩: ∃g,k=g+1:=⟨k-1,by omega⟩
  rw[zCl,if_neg (ltN (by omega)),List.drop_eq_nil_of_le (by omega)]
  rfl
 |succ n ih=>
  intro i k hi hk
  obtain⟨g,rfl⟩: ∃g,k=g+1:=⟨k-1,by omega⟩
  have hx:l[i]? =some l[i]:=zq2 (by omega)
  rw[zCl,if_pos (ltP (by omega)),hx,List.drop_eq_getElem_cons (by omega),List.all_cons]
  generalize l[i]=c
  obtain⟨z,z1,z2,_⟩:=of_M c
  simp only[zDD,z1,z2]
  cases inU c
  ·rfl
  ·simp only[Bool.not_true,Bool.false_eq_true,if_false,Bool.true_and]
   exact ih (i+1) g (by omega) (by omega)
theorem name_M(s:List UInt8)(f:Int)(p:UInt8->Bool)(hp: ∀c k,zDp c=some k->eqI k f=p c){fuel:Nat}(hf:30<=fuel):zEB fuel s f=some (nm p s):=by
 rw[zEB]
 match s with
 |[]=>rfl
 |c::s=>
  rw[show eqS (c::s) []=false from decide_eq_false (by simp)]
  simp only[Bool.false_eq_true,if_false]
  by_cases hl:(c::s).length<=24
  ·rw[show ltI 24 ((c::s).length:Int)=false from decide_eq_false (by omega)]
   obtain⟨z,z1,_⟩:=of_M c
   simp only[Bool.false_eq_true,if_false,List.getElem?_cons_zero,zDD,z1,hp c z z1]
   have hu:nm p (c::s)=(p c&&(c::s).all inU):=by rw[nm_cons,zqb hl,Bool.true_and]
   rw[hu]
   cases p c
   ·rfl
   ·simp only[Bool.not_true,Bool.false_eq_true,if_false,Bool.true_and]
    rw[bytesC,if_pos (by omega)]
    simp only[zDD]
    rw[name_loop (c::s) (c::s).length 0 fuel (by omega) (by omega),List.drop_zero]
    cases(c::s).all inU<;>rfl
  ·rw[show ltI 24 ((c::s).length:Int)=true from zqb (by omega)]
   have hu:nm p (c::s)=false:=by rw[nm_cons,decide_eq_false hl,Bool.false_and]
   rw[hu];rfl
theorem name1(s:List UInt8){fuel:Nat}(hf:30<=fuel):zEB fuel s 1=some (nm smB s):=name_M s 1 smB (fun c k h=>by
 obtain⟨z,z1,_,_,z4⟩:=of_M c
 rw[z1] at h;cases h;exact z4) hf
theorem zKy(s:List UInt8){fuel:Nat}(hf:30<=fuel):zEB fuel s 2=some (nm caB s):=name_M s 2 caB (fun c k h=>by
 obtain⟨z,z1,_,z3,_⟩:=of_M c
 rw[z1] at h;cases h;exact z3) hf
theorem inner_loop(l:List UInt8): ∀(n i k:Nat),i+n=l.length->n+1<=k->zCO l k i=some (if (l.drop i).all inU=true then .inr () else .inl false):=by
 intro n
 induction n with
 |zero=>
  intro i k hi hk
  obtain⟨g,rfl⟩: ∃g,k=g+1:=⟨k-1,by omega⟩
  rw[zCO,if_neg (ltN (by omega)),List.drop_eq_nil_of_le (by omega)]
  rfl
 |succ n ih=>
  intro i k hi hk
  obtain⟨g,rfl⟩: ∃g,k=g+1:=⟨k-1,by omega⟩
  have hx:l[i]? =some l[i]:=zq2 (by omega)
  rw[zCO,if_pos (ltP (by omega)),hx,List.drop_eq_getElem_cons (by omega),List.all_cons]
  generalize l[i]=c
  simp only[zDD,Inner_M]
  cases inU c
  ·rfl
  ·simp only[Bool.not_true,Bool.false_eq_true,if_false,Bool.true_and]
   exact ih (i+1) g (by omega) (by omega)
theorem inner_M(l:List UInt8){fuel:Nat}(hf:l.length+1<=fuel):zFk fuel l=some (l.all inU):=by
 rw[zFk,inner_loop l l.length 0 fuel (by omega) hf,List.drop_zero]
 cases l.all inU<;>rfl
theorem Word_M(s:List UInt8){fuel:Nat}(hf:30<=fuel):zFR fuel s=some (decide (1<=s.length)&&(decide (s.length<=24)&&s.all inU)):=by
 rw[zFR]
 by_cases h1:1<=s.length
 ·rw[show leI 1 (s.length:Int)=true from zqb (by omega),zqb h1]
  by_cases h2:s.length<=24
  ·rw[show leI (s.length:Int) 24=true from zqb (by omega),zqb h2,inner_M s (by omega)];rfl
  ·rw[show leI (s.length:Int) 24=false from decide_eq_false (by omega),decide_eq_false h2];rfl
 ·rw[show leI 1 (s.length:Int)=false from decide_eq_false (by omega),decide_eq_false h1];rfl
theorem nm_word(p:UInt8->Bool)(c:UInt8)(s:List UInt8):nm p (c::s)=((decide (1<=(c::s).length)&&(decide ((c::s).length<=24)&&(c::s).all inU))&&p c):=by
 rw[nm_cons,zqb (show 1<=(c::s).length by simp)]
 cases decide ((c::s).length<=24)<;>cases p c<;>cases(c::s).all inU<;>rfl
theorem zMT(s:List UInt8){fuel:Nat}(hf:30<=fuel):zDR fuel s=some (nm caB s):=by rw[zDR,zKy s hf];rfl
theorem Upper_M(s:List UInt8){fuel:Nat}(hf:30<=fuel):zCH fuel s=some (nm caB s):=by
 rw[zCH,Word_M s hf]
 match s with
 |[]=>rfl
 |c::s=>
  rw[nm_word]
  simp only[zDD]
  cases(decide (1<=(c::s).length)&&(decide ((c::s).length<=24)&&(c::s).all inU))
  ·rfl
  ·simp only[if_true,List.getElem?_cons_zero,zDD,Capital_M,Bool.true_and]
def KEYS:List (List UInt8):=(zGF).getD []
theorem KEYS_M:zGF=some KEYS:=by kernel_rfl
theorem KEYS_len:KEYS.length=31:=by kernel_rfl
def kw(s:List UInt8):Bool:=KEYS.any (fun w=>decide (w=s))
theorem index_loop(l:List (List UInt8))(v:List UInt8): ∀(n i k:Nat),i+n=l.length->n+1<=k->∃o,zAy l v k i=some o∧(((l.drop i).any (fun w=>decide (w=v))=true∧∃j:Nat,o=.inl (j:Int))∨((l.drop i).any (fun w=>decide (w=v))=false∧o=.inr ())):=by
 intro n
 induction n with
 |zero=>
  intro i k hi hk
  obtain⟨g,rfl⟩: ∃g,k=g+1:=⟨k-1,by omega⟩
  rw[zAy,if_neg (ltN (by omega)),List.drop_eq_nil_of_le (by omega)]
  exact⟨_,rfl,.inr ⟨rfl,rfl⟩⟩
 |succ n ih=>
  intro i k hi hk
  obtain⟨g,rfl⟩: ∃g,k=g+1:=⟨k-1,by omega⟩
  have hx:l[i]? =some l[i]:=zq2 (by omega)
  rw[zAy,if_pos (ltP (by omega)),hx,List.drop_eq_getElem_cons (by omega),List.any_cons]
  generalize l[i]=c
  simp only[zDD]
  by_cases h:c=v
  ·rw[if_pos (show eqS v c=true from zqb h.symm),zqb h]
   exact⟨_,rfl,.inl ⟨rfl,i,rfl⟩⟩
  ·rw[if_neg (show¬eqS v c=true from fun e=>h (of_decide_eq_true e).symm),decide_eq_false h,Bool.false_or]
   exact ih (i+1) g (by omega) (by omega)
theorem contains_M(l:List (List UInt8))(v:List UInt8){fuel:Nat}(hf:l.length+1<=fuel):zBh fuel l v=some (l.any (fun w=>decide (w=v))):=by
 obtain⟨o,o1,o2⟩:=index_loop l v l.length 0 fuel (by omega) hf
 rw[zBh,zDT,o1]
 rw[List.drop_zero] at o2
 rcases o2 with ⟨h,j,rfl⟩|⟨h,rfl⟩
 ·rw[h]
  simp only[zDD,Sum.elim_inl]
  rw[show leI 0 (j:Int)=true from zqb (by omega)]
 ·rw[h];rfl
theorem word_M(s:List UInt8){fuel:Nat}(hf:40<=fuel):zGI fuel s=some (kw s):=by
 have hF: ∀t,zDY t=some KEYS->((zDY t).bind fun v2=>(zBh fuel v2 s).bind fun v4=>some v4)=some (kw s):=fun t ht=>by
  rw[ht]
  simp only[zDD]
  rw[contains_M KEYS s (by rw[KEYS_len];omega)];rfl
 rw[zGI]
 exact hF _ (by kernel_rfl)
def loS(s:List UInt8):Bool:=nm smB s&& !kw s
theorem IsLower_M(s:List UInt8){fuel:Nat}(hf:40<=fuel):zEY fuel s=some (loS s):=by
 rw[zEY,name1 s (by omega)]
 unfold loS
 simp only[zDD]
 cases nm smB s
 ·rfl
 ·rw[if_pos rfl,word_M s hf];rfl
theorem find_loop(l:List (List UInt8))(v:List UInt8): ∀(n i k:Nat),i+n=l.length->n+1<=k->∃o,zCi l v k i=some o∧(((l.drop i).any (fun w=>decide (w=v))=true∧∃j:Nat,o=.inl (j:Int))∨((l.drop i).any (fun w=>decide (w=v))=false∧o=.inr ())):=by
 intro n
 induction n with
 |zero=>
  intro i k hi hk
  obtain⟨g,rfl⟩: ∃g,k=g+1:=⟨k-1,by omega⟩
  rw[zCi,if_neg (ltN (by omega)),List.drop_eq_nil_of_le (by omega)]
  exact⟨_,rfl,.inr ⟨rfl,rfl⟩⟩
 |succ n ih=>
  intro i k hi hk
  obtain⟨g,rfl⟩: ∃g,k=g+1:=⟨k-1,by omega⟩
  have hx:l[i]? =some l[i]:=zq2 (by omega)
  rw[zCi,if_pos (ltP (by omega)),hx,List.drop_eq_getElem_cons (by omega),List.any_cons]
  generalize l[i]=c
  simp only[zDD]
  by_cases h:c=v
  ·rw[if_pos (show eqS c v=true from zqb h),zqb h]
   exact⟨_,rfl,.inl ⟨rfl,i,rfl⟩⟩
  ·rw[if_neg (show¬eqS c v=true from fun e=>h (of_decide_eq_true e)),decide_eq_false h,Bool.false_or]
   exact ih (i+1) g (by omega) (by omega)
theorem Lower_M(s:List UInt8){fuel:Nat}(hf:40<=fuel):zEV fuel s=some (loS s):=by
 rw[zEV,Word_M s (by omega)]
 unfold loS
 match s with
 |[]=>rfl
 |c::s=>
  rw[nm_word]
  simp only[zDD]
  cases(decide (1<=(c::s).length)&&(decide ((c::s).length<=24)&&(c::s).all inU))
  ·rfl
  ·simp only[if_true,List.getElem?_cons_zero,zDD,Small_M,Bool.true_and]
   cases smB c
   ·rfl
   ·rw[if_pos rfl,KEYS_M]
    simp only[zDD,Bool.true_and]
    obtain⟨o,o1,o2⟩:=find_loop KEYS (c::s) KEYS.length 0 fuel (by omega) (by rw[KEYS_len];omega)
    rw[zHJ,o1]
    rw[List.drop_zero] at o2
    rcases o2 with ⟨h,j,rfl⟩|⟨h,rfl⟩
    ·have:kw (c::s)=true:=h
     rw[this]
     simp only[zDD,Sum.elim_inl]
     rw[show ltI (j:Int) 0=false from decide_eq_false (by omega)];rfl
    ·have:kw (c::s)=false:=h
     rw[this];rfl
theorem le_sum{α:Type}(f:α->Nat): ∀{l:List α}{x:α},x∈l->f x<=(l.map f).sum
 |y::l,x,h=>by
  rw[List.map_cons,List.sum_cons]
  rcases List.mem_cons.1 h with rfl|h
  ·omega
  ·have:=le_sum f h;omega

end Go.Proofs.YtkdhppfdiagglaaGreatDoor
