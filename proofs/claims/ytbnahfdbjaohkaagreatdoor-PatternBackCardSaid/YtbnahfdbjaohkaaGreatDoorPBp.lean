/- For every input the law PatternBack returns true. Part 16 of 23. No condition. -/
import Derived.Test.YtbnahfdbjaohkaaGreatDoorPBo
set_option linter.unusedVariables false
set_option linter.unnecessarySimpa false
set_option linter.unusedSimpArgs false
set_option maxRecDepth 100000
set_option maxHeartbeats 4000000
namespace Go.Proofs.YtbnahfdbjaohkaaGreatDoor
open Go Go.Abs
theorem zCb(fuel:Nat):(∀(w1:zJr)(r:(zJr) ⊕ (zJv×zJr))(_:zA6 fuel w1=some r),Sum.elim (fun r=>RawP Tryz.prog 126 (pan1 127) [pT 0] [[.sl (w1.l.map zJu.c),iI w1.at_]] [[.sl (r.l.map zJu.c),iI r.at_]]) (fun r=>Raw Tryz.prog 126 [pT 0] [[.sl (w1.l.map zJu.c),iI w1.at_]] (.agg (zJv.d r.1)) [[.sl (r.2.l.map zJu.c),iI r.2.at_]]) r)∧(∀(w1:zJr)(r:(zJr) ⊕ (zJv×zJr))(_:zAZ fuel w1=some r),Sum.elim (fun r=>RawP Tryz.prog 61 (pan1 127) [pT 0] [[.sl (w1.l.map zJu.c),iI w1.at_]] [[.sl (r.l.map zJu.c),iI r.at_]]) (fun r=>Raw Tryz.prog 61 [pT 0] [[.sl (w1.l.map zJu.c),iI w1.at_]] (.agg (zJv.d r.1)) [[.sl (r.2.l.map zJu.c),iI r.2.at_]]) r):=by
 induction fuel with
 |zero=>
  refine⟨?_,?_⟩
  ·intro w1 r h;rw[zA6] at h;cases h
  ·intro w1 r h;rw[zAZ] at h;cases h
 |succ fuel ih=>
  obtain⟨zBy,zB9⟩:=ih
  refine⟨?_,?_⟩
  ·intro w1 r h
   rw[zA6] at h
   refine zEG Tryz.func126 (by rfl) (by rfl) (by simp) (by simp)<|cutA 58 1 [(0,pT 0),(2,pT 1)] [[.sl (w1.l.map zJu.c),iI w1.at_],zz0]<|zAE<|zAH ?_
   obtain⟨v2,q3,h⟩:=bs h
   refine cut 58 1 [(0,pT 0),(2,pT 1),(4,.bool v2.1)] [[.sl (v2.2.l.map zJu.c),iI v2.2.at_],zz0] ?_ ?_
   ·refine st ?_
    simp
    have r102:=(zBg [95] w1 v2 q3).frame [0] [[.sl (w1.l.map zJu.c),iI w1.at_],zz0] (by simp)
    try simp at r102
    refine zAW r102 (by simp) rfl ?_
    simp
   refine spc h rfl (fun g4 h=>?_) fun g4 h=>?_
   ·refine cutA 58 1 [(2,pT 1)] [[.sl (v2.2.l.map zJu.c),iI v2.2.at_],[iI 11,iI 0,.str ([]:List UInt8),.osl ⟨1,9⟩ (([]:List (List UInt8)).map cS),.osl ⟨5,33⟩ (([]:List zJv).map zJv.c)]]<|zAA<|zAD<|zAB ?_
    cases h
    simp
   obtain⟨v5,q6,h⟩:=bs h
   refine cut 58 1 [(0,pT 0),(2,pT 1),(8,.bool v5.1)] [[.sl (v5.2.l.map zJu.c),iI v5.2.at_],zz0] ?_ ?_
   ·refine st ?_
    simp
    have r101:=(zBg [126] v2.2 v5 q6).frame [0] [[.sl (v2.2.l.map zJu.c),iI v2.2.at_],zz0] (by simp)
    try simp at r101
    refine zAW r101 (by simp) rfl ?_
    simp
   refine spc h rfl (fun g7 h=>?_) fun g7 h=>?_
   ·obtain⟨v8,q9,h⟩:=bs h
    rcases v8 with e10|v11
    ·replace h:=elimL h
     refine zAE<|stP 1 ?_
     simp
     have r16:=(panL (zCK fuel v5.2 (.inl e10) q9)).frame [0] [[.sl (v5.2.l.map zJu.c),iI v5.2.at_],zz0] (by simp)
     try simp at r16
     refine panC r16 (by simp) (by simp)<|zDR<|zHM<|zDR ?_
     cases h
     simp
    replace h:=zEk h
    obtain⟨n12,q13,h⟩:=bs h
    obtain⟨q14,q15⟩:=zDu q13
    try simp at q14
    try simp at q15
    refine cut 58 1 [(2,pT 1)] [[.sl (v11.2.l.map zJu.c),iI v11.2.at_],[iI 13,iI n12,.str ([]:List UInt8),.osl ⟨1,9⟩ (([]:List (List UInt8)).map cS),.osl ⟨5,33⟩ (([]:List zJv).map zJv.c)]] ?_ ?_
    ·refine st ?_
     simp[q14,q15]
     have r17:=(panR (zCK fuel v5.2 (.inr v11) q9)).frame [0] [[.sl (v5.2.l.map zJu.c),iI v5.2.at_],zz0] (by simp)
     try simp[q14,q15] at r17
     refine zAW r17 (by simp[q14,q15]) rfl ?_
     simp[q14,q15]
    refine zAA<|zAD<|zAB ?_
    cases h
    simp
   obtain⟨v18,q19,h⟩:=bs h
   refine cut 58 1 [(0,pT 0),(2,pT 1),(15,.bool v18)] [[.sl (v5.2.l.map zJu.c),iI v5.2.at_],zz0] ?_ ?_
   ·refine st ?_
    simp
    have r100:=(zAQ 4 v5.2 v18 q19).frame [0] [[.sl (v5.2.l.map zJu.c),iI v5.2.at_],zz0] (by simp)
    try simp at r100
    refine zAW r100 (by simp) rfl ?_
    simp
   refine spc h rfl (fun g20 h=>?_) fun g20 h=>?_
   ·obtain⟨v21,q22,h⟩:=bs h
    rcases v21 with e23|v24
    ·replace h:=elimL h
     refine zAE<|stP 1 ?_
     simp
     have r25:=(panL (zCK fuel v5.2 (.inl e23) q22)).frame [0] [[.sl (v5.2.l.map zJu.c),iI v5.2.at_],zz0] (by simp)
     try simp at r25
     refine panC r25 (by simp) (by simp)<|zDR<|zHM<|zDR ?_
     cases h
     simp
    replace h:=zEk h
    refine cut 58 1 [(2,pT 1)] [[.sl (v24.2.l.map zJu.c),iI v24.2.at_],[iI 13,iI v24.1,.str ([]:List UInt8),.osl ⟨1,9⟩ (([]:List (List UInt8)).map cS),.osl ⟨5,33⟩ (([]:List zJv).map zJv.c)]] ?_ ?_
    ·refine st ?_
     simp
     have r26:=(panR (zCK fuel v5.2 (.inr v24) q22)).frame [0] [[.sl (v5.2.l.map zJu.c),iI v5.2.at_],zz0] (by simp)
     try simp at r26
     refine zAW r26 (by simp) rfl ?_
     simp
    refine zAA<|zAD<|zAB ?_
    cases h
    simp
   obtain⟨v27,q28,h⟩:=bs h
   refine cut 58 1 [(0,pT 0),(2,pT 1),(21,.bool v27)] [[.sl (v5.2.l.map zJu.c),iI v5.2.at_],zz0] ?_ ?_
   ·refine st ?_
    simp
    have r99:=(zAQ 1 v5.2 v27 q28).frame [0] [[.sl (v5.2.l.map zJu.c),iI v5.2.at_],zz0] (by simp)
    try simp at r99
    refine zAW r99 (by simp) rfl ?_
    simp
   refine spc h rfl (fun g29 h=>?_) fun g29 h=>?_
   ·obtain⟨v30,q31,h⟩:=bs h
    rcases v30 with e32|v33
    ·replace h:=elimL h
     refine zAE<|stP 1 ?_
     simp
     have r34:=(panL (zA7 1 v5.2 (.inl e32) q31)).frame [0] [[.sl (v5.2.l.map zJu.c),iI v5.2.at_],zz0] (by simp)
     try simp at r34
     refine panC r34 (by simp) (by simp)<|zDR<|zHM<|zDR ?_
     cases h
     simp
    replace h:=zEk h
    refine cut 58 1 [(2,pT 1)] [[.sl (v33.2.l.map zJu.c),iI v33.2.at_],[iI 12,iI 0,.str v33.1,.osl ⟨1,9⟩ (([]:List (List UInt8)).map cS),.osl ⟨5,33⟩ (([]:List zJv).map zJv.c)]] ?_ ?_
    ·refine st ?_
     simp
     have r35:=(panR (zA7 1 v5.2 (.inr v33) q31)).frame [0] [[.sl (v5.2.l.map zJu.c),iI v5.2.at_],zz0] (by simp)
     try simp at r35
     refine zAW r35 (by simp) rfl ?_
     simp
    refine zAA<|zAD<|zAB ?_
    cases h
    simp
   obtain⟨v36,q37,h⟩:=bs h
   refine cut 58 1 [(0,pT 0),(2,pT 1),(27,.bool v36)] [[.sl (v5.2.l.map zJu.c),iI v5.2.at_],zz0] ?_ ?_
   ·refine st ?_
    simp
    have r98:=(zAQ 2 v5.2 v36 q37).frame [0] [[.sl (v5.2.l.map zJu.c),iI v5.2.at_],zz0] (by simp)
    try simp at r98
    refine zAW r98 (by simp) rfl ?_
    simp
   refine spc h rfl (fun g38 h=>?_) fun g38 h=>?_
   ·obtain⟨v39,q40,h⟩:=bs h
    rcases v39 with e41|v42
    ·replace h:=elimL h
     refine zAE<|stP 1 ?_
     simp
     have r43:=(panL (zBq fuel v5.2 (.inl e41) q40)).frame [0] [[.sl (v5.2.l.map zJu.c),iI v5.2.at_],zz0] (by simp)
     try simp at r43
     refine panC r43 (by simp) (by simp)<|zDR<|zHM<|zDR ?_
     cases h
     simp
    replace h:=zEk h
    refine cut 58 1 [(2,pT 1)] [[.sl (v42.2.l.map zJu.c),iI v42.2.at_],[iI 14,iI 0,.str ([]:List UInt8),.sl (v42.1.map cS),.osl ⟨5,33⟩ (([]:List zJv).map zJv.c)]] ?_ ?_
    ·refine st ?_
     simp
     have r44:=(panR (zBq fuel v5.2 (.inr v42) q40)).frame [0] [[.sl (v5.2.l.map zJu.c),iI v5.2.at_],zz0] (by simp)
     try simp at r44
     refine zAW r44 (by simp) rfl ?_
     simp
    refine zAA<|zAD<|zAB ?_
    cases h
    simp
   refine zAC<|zDA<|zAF ?_
   obtain⟨v45,q46,h⟩:=bs h
   rcases v45 with e47|v48
   ·replace h:=elimL h
    refine zAE<|stP 1 ?_
    simp
    have r96:=(panL (zCa [40] v5.2 (.inl e47) q46)).frame [0] [[.sl (v5.2.l.map zJu.c),iI v5.2.at_],zz0] (by simp)
    try simp at r96
    refine panC r96 (by simp) (by simp)<|zDR ?_
    cases h
    simp
   replace h:=zEk h
   refine cut 58 1 [(0,pT 0),(2,pT 1)] [[.sl (v48.l.map zJu.c),iI v48.at_],zz0] ?_ ?_
   ·refine st ?_
    simp
    have r97:=(panR (zCa [40] v5.2 (.inr v48) q46)).frame [0] [[.sl (v5.2.l.map zJu.c),iI v5.2.at_],zz0] (by simp)
    try simp at r97
    refine zAW r97 (by simp) rfl ?_
    simp
   refine zAE ?_
   obtain⟨v49,q50,h⟩:=bs h
   refine cut 58 1 [(0,pT 0),(2,pT 1),(36,.bool v49.1)] [[.sl (v49.2.l.map zJu.c),iI v49.2.at_],zz0] ?_ ?_
   ·refine st ?_
    simp
    have r95:=(zBg [41] v48 v49 q50).frame [0] [[.sl (v48.l.map zJu.c),iI v48.at_],zz0] (by simp)
    try simp at r95
    refine zAW r95 (by simp) rfl ?_
    simp
   refine spc h rfl (fun g51 h=>?_) fun g51 h=>?_
   ·refine cutA 58 1 [(2,pT 1)] [[.sl (v49.2.l.map zJu.c),iI v49.2.at_],[iI 15,iI 0,.str ([]:List UInt8),.osl ⟨1,9⟩ (([]:List (List UInt8)).map cS),.osl ⟨5,33⟩ (([]:List zJv).map zJv.c)]]<|zAA<|zAB ?_
    cases h
    simp
   refine zAC<|zAF ?_
   obtain⟨v52,q53,h⟩:=bs h
   rcases v52 with e54|v55
   ·replace h:=elimL h
    refine zAE<|stP 1 ?_
    simp
    have r93:=(panL (zB9 v49.2 (.inl e54) q53)).frame [0] [[.sl (v49.2.l.map zJu.c),iI v49.2.at_],zz0] (by simp)
    try simp at r93
    refine panC r93 (by simp) (by simp)<|zDR ?_
    cases h
    simp
   replace h:=zEk h
   refine cut 58 1 [(0,pT 0),(2,pT 1),(3,.osl ⟨5,33⟩ ([v55.1].map zJv.c))] [[.sl (v55.2.l.map zJu.c),iI v55.2.at_],zz0] ?_ ?_
   ·refine st ?_
    simp
    have r94:=(panR (zB9 v49.2 (.inr v55) q53)).frame [0] [[.sl (v49.2.l.map zJu.c),iI v49.2.at_],zz0] (by simp)
    try simp at r94
    refine zAW r94 (by simp) rfl ?_
    simp
   refine zAE<|zAH ?_
   obtain⟨o60,l61,h⟩:=bs h
   refine zCI (fun p:Nat×(List zJu)×Int×(List zJv)=>mkS 58 1 [(0,pT 0),(2,pT 1),(3,.osl ⟨5,33⟩ (p.2.2.2.map zJv.c))] [[.sl (p.2.1.map zJu.c),iI p.2.2.1],zz0]) (fun p=>zAx (zAZ fuel) p.1 p.2.1 p.2.2.1 p.2.2.2=some o60) (fun p=>p.1) (fuel,v55.2.l,v55.2.at_,[v55.1]) l61 (zBO (by simp)) ?_
   rintro⟨k62,l56,at57,l58⟩ l61
   try dsimp only at l61 ⊢
   cases k62 with
   |zero=>
    rw[zAx] at l61;cases l61
   |succ k63=>
    rw[zAx] at l61
    refine zAE ?_
    obtain⟨v64,q65,l61⟩:=bs l61
    refine cut 58 1 [(0,pT 0),(2,pT 1),(3,.osl ⟨5,33⟩ (l58.map zJv.c)),(42,.bool v64.1)] [[.sl (v64.2.l.map zJu.c),iI v64.2.at_],zz0] ?_ ?_
    ·refine st ?_
     simp
     have r92:=(zBg [44] (zJr.mk l56 at57) v64 q65).frame [0] [[.sl (l56.map zJu.c),iI at57],zz0] (by simp)
     try simp at r92
     refine zAW r92 (by simp) rfl ?_
     simp
    refine spc l61 rfl (fun g66 l61=>?_) fun g66 l61=>?_
    ·refine zAC<|zAF<|zAH ?_
     obtain⟨v67,q68,l61⟩:=bs l61
     rcases v67 with e69|v70
     ·replace l61:=elimL l61
      refine stP 2 ?_
      simp
      have r75:=(panL (zB9 v64.2 (.inl e69) q68)).frame [0] [[.sl (v64.2.l.map zJu.c),iI v64.2.at_],zz0] (by simp)
      try simp at r75
      refine panC r75 (by simp) (by simp)<|zHM ?_
      replace h:=retL l61 h
      refine zDR<|zHM<|zDR ?_
      cases h
      simp
     replace l61:=zEk l61
     obtain⟨l71,q72,l61⟩:=bs l61
     obtain⟨q73,q74⟩:=app_ok q72
     try simp at q73
     refine last 58 1 [(0,pT 0),(2,pT 1),(3,.osl ⟨5,33⟩ (l71.map zJv.c))] [[.sl (v70.2.l.map zJu.c),iI v70.2.at_],zz0] ?_ fun zz hs=>?_
     ·refine st ?_
      simp[q73,q74]
      have r76:=(panR (zB9 v64.2 (.inr v70) q68)).frame [0] [[.sl (v64.2.l.map zJu.c),iI v64.2.at_],zz0] (by simp)
      try simp[q73,q74] at r76
      refine zAW r76 (by simp[q73,q74]) rfl ?_
      simp[q73,q74]
     refine zDA ?_
     exact⟨(k63,v70.2.l,v70.2.at_,l71),hs,l61,by simp⟩
    refine zBP<|zAU ?_
    rcases o60 with o60|o59
    ·cases l61
    have q77:=Sum.inr.inj (zqa l61)
    replace h:=zEk h
    have q78:o59.1=l58:=by rw[<-q77]
    have q79:o59.2.1=v64.2.l:=by rw[<-q77]
    have q80:o59.2.2=v64.2.at_:=by rw[<-q77]
    refine zAU<|zBU<|zCh (t:=mkS 58 1 [(0,pT 0),(2,pT 1),(3,.osl ⟨5,33⟩ (o59.1.map zJv.c))] [[.sl (o59.2.1.map zJu.c),iI o59.2.2],zz0]) ?_ (zBO (by simp[q78,q79,q80]))
    obtain⟨v81,q82,h⟩:=bs h
    rcases v81 with e83|v84
    ·replace h:=elimL h
     refine zAE<|stP 1 ?_
     simp
     have r90:=(panL (zCa [41] (zJr.mk o59.2.1 o59.2.2) (.inl e83) q82)).frame [0] [[.sl (o59.2.1.map zJu.c),iI o59.2.2],zz0] (by simp)
     try simp at r90
     refine panC r90 (by simp) (by simp)<|zDR ?_
     cases h
     simp
    replace h:=zEk h
    refine cut 58 1 [(2,pT 1),(3,.osl ⟨5,33⟩ (o59.1.map zJv.c))] [[.sl (v84.l.map zJu.c),iI v84.at_],zz0] ?_ ?_
    ·refine st ?_
     simp
     have r91:=(panR (zCa [41] (zJr.mk o59.2.1 o59.2.2) (.inr v84) q82)).frame [0] [[.sl (o59.2.1.map zJu.c),iI o59.2.2],zz0] (by simp)
     try simp at r91
     refine zAW r91 (by simp) rfl ?_
     simp
    refine zAE<|cutA 58 1 [(2,pT 1),(3,.osl ⟨5,33⟩ (o59.1.map zJv.c)),(52,.bool (eqI o59.1.length 1))] [[.sl (v84.l.map zJu.c),iI v84.at_],zz0]<|spc h rfl (fun g85 h=>?_) fun g85 h=>?_
    ·have c86:=eqT g85
     obtain⟨x87,q88,h⟩:=bs h
     refine cut 58 1 [(2,pT 1)] [[.sl (v84.l.map zJu.c),iI v84.at_],x87.d] (st (by simp[q88]))<|zAA<|zAB ?_
     cases h
     simp
    have c89:=eqF g85
    refine zAC<|zAF<|cutA 58 1 [(2,pT 1)] [[.sl (v84.l.map zJu.c),iI v84.at_],[iI 15,iI 0,.str ([]:List UInt8),.osl ⟨1,9⟩ (([]:List (List UInt8)).map cS),.sl (o59.1.map zJv.c)]]<|zAA ?_
    cases h
    simp
  ·intro w1 r h
   rw[zAZ] at h
   refine zEG Tryz.func61 (by rfl) (by rfl) (by simp) (by simp)<|cutA 35 1 [(0,pT 0),(2,pT 1)] [[.sl (w1.l.map zJu.c),iI w1.at_],zz0]<|zAE ?_
   obtain⟨v2,q3,h⟩:=bs h
   refine cut 35 1 [(0,pT 0),(2,pT 1),(6,.bool (!v2))] [[.sl (w1.l.map zJu.c),iI w1.at_],zz0] ?_ ?_
   ·refine st ?_
    simp
    have r57:=(zAQ 2 w1 v2 q3).frame [0] [[.sl (w1.l.map zJu.c),iI w1.at_],zz0] (by simp)
    try simp at r57
    refine zAW r57 (by simp) rfl ?_
    simp
   refine spc h rfl (fun g4 h=>?_) fun g4 h=>?_
   ·have g5:=notT g4
    obtain⟨v6,q7,h⟩:=bs h
    rcases v6 with e8|v9
    ·replace h:=elimL h
     refine zAE<|stP 1 ?_
     simp
     have r10:=(panL (zBy w1 (.inl e8) q7)).frame [0] [[.sl (w1.l.map zJu.c),iI w1.at_],zz0] (by simp)
     try simp at r10
     refine panC r10 (by simp) (by simp)<|zDR<|zDR ?_
     cases h
     simp
    replace h:=zEk h
    refine cut 35 1 [(2,pT 1)] [[.sl (v9.2.l.map zJu.c),iI v9.2.at_],(zJv.d v9.1)] ?_ ?_
    ·refine st ?_
     simp
     have r11:=(panR (zBy w1 (.inr v9) q7)).frame [0] [[.sl (w1.l.map zJu.c),iI w1.at_],zz0] (by simp)
     try simp at r11
     refine zAW r11 (by simp) rfl ?_
     simp
    refine zAA<|zAB ?_
    cases h
    simp
   have g12:=notF g4
   refine zAC<|zAF ?_
   obtain⟨v13,q14,h⟩:=bs h
   rcases v13 with e15|v16
   ·replace h:=elimL h
    refine zAE<|stP 1 ?_
    simp
    have r55:=(panL (zBq fuel w1 (.inl e15) q14)).frame [0] [[.sl (w1.l.map zJu.c),iI w1.at_],zz0] (by simp)
    try simp at r55
    refine panC r55 (by simp) (by simp)<|zDR ?_
    cases h
    simp
   replace h:=zEk h
   refine cut 35 1 [(0,pT 0),(2,pT 1),(3,pT 2)] [[.sl (v16.2.l.map zJu.c),iI v16.2.at_],zz0,[iI 14,iI 0,.str ([]:List UInt8),.sl (v16.1.map cS),.osl ⟨5,33⟩ (([]:List zJv).map zJv.c)]] ?_ ?_
   ·refine st ?_
    simp
    have r56:=(panR (zBq fuel w1 (.inr v16) q14)).frame [0] [[.sl (w1.l.map zJu.c),iI w1.at_],zz0] (by simp)
    try simp at r56
    refine zAW r56 (by simp) rfl ?_
    simp
   refine zAE ?_
   obtain⟨b31,q32,h⟩:=bs h
   refine cut 35 1 [(0,pT 0),(2,pT 1),(3,pT 2),(29,.bool b31)] [[.sl (v16.2.l.map zJu.c),iI v16.2.at_],zz0,[iI 14,iI 0,.str ([]:List UInt8),.sl (v16.1.map cS),.osl ⟨5,33⟩ (([]:List zJv).map zJv.c)]] ?_ ?_
   ·obtain⟨v17,q18,q32⟩:=bs q32
    rcases sp q32 with ⟨g19,q32⟩|⟨g19,q32⟩
    ·obtain rfl:=oi q32
     refine st ?_
     simp[g19]
     have r40:=(zBu v16.2 v17 q18).frame [0] [[.sl (v16.2.l.map zJu.c),iI v16.2.at_],zz0,[iI 14,iI 0,.str ([]:List UInt8),.sl (v16.1.map cS),.osl ⟨5,33⟩ (([]:List zJv).map zJv.c)]] (by simp)
     try simp[g19] at r40
     refine zAW r40 (by simp[g19]) rfl ?_
     simp[g19]
    obtain⟨v20,q21,q32⟩:=bs q32
    rcases sp q32 with ⟨g22,q32⟩|⟨g22,q32⟩
    ·obtain rfl:=oi q32
     refine st ?_
     simp[g19,g22]
     have r41:=(zBu v16.2 v17 q18).frame [0] [[.sl (v16.2.l.map zJu.c),iI v16.2.at_],zz0,[iI 14,iI 0,.str ([]:List UInt8),.sl (v16.1.map cS),.osl ⟨5,33⟩ (([]:List zJv).map zJv.c)]] (by simp)
     try simp[g19,g22] at r41
     refine zAW r41 (by simp[g19,g22]) rfl ?_
     simp[g19,g22]
     have r42:=(zAQ 4 v16.2 v20 q21).frame [0] [[.sl (v16.2.l.map zJu.c),iI v16.2.at_],zz0,[iI 14,iI 0,.str ([]:List UInt8),.sl (v16.1.map cS),.osl ⟨5,33⟩ (([]:List zJv).map zJv.c)]] (by simp)
     try simp[g19,g22] at r42
     refine zAW r42 (by simp[g19,g22]) rfl ?_
     simp[g19,g22]
    obtain⟨v23,q24,q32⟩:=bs q32
    rcases sp q32 with ⟨g25,q32⟩|⟨g25,q32⟩
    ·obtain rfl:=oi q32
     refine st ?_
     simp[g19,g22,g25]
     have r43:=(zBu v16.2 v17 q18).frame [0] [[.sl (v16.2.l.map zJu.c),iI v16.2.at_],zz0,[iI 14,iI 0,.str ([]:List UInt8),.sl (v16.1.map cS),.osl ⟨5,33⟩ (([]:List zJv).map zJv.c)]] (by simp)
     try simp[g19,g22,g25] at r43
     refine zAW r43 (by simp[g19,g22,g25]) rfl ?_
     simp[g19,g22,g25]
     have r44:=(zAQ 4 v16.2 v20 q21).frame [0] [[.sl (v16.2.l.map zJu.c),iI v16.2.at_],zz0,[iI 14,iI 0,.str ([]:List UInt8),.sl (v16.1.map cS),.osl ⟨5,33⟩ (([]:List zJv).map zJv.c)]] (by simp)
     try simp[g19,g22,g25] at r44
     refine zAW r44 (by simp[g19,g22,g25]) rfl ?_
     simp[g19,g22,g25]
     have r45:=(zBb [95] v16.2 v23 q24).frame [0] [[.sl (v16.2.l.map zJu.c),iI v16.2.at_],zz0,[iI 14,iI 0,.str ([]:List UInt8),.sl (v16.1.map cS),.osl ⟨5,33⟩ (([]:List zJv).map zJv.c)]] (by simp)
     try simp[g19,g22,g25] at r45
     refine zAW r45 (by simp[g19,g22,g25]) rfl ?_
     simp[g19,g22,g25]
    obtain⟨v26,q27,q32⟩:=bs q32
    rcases sp q32 with ⟨g28,q32⟩|⟨g28,q32⟩
    ·obtain rfl:=oi q32
     refine st ?_
     simp[g19,g22,g25,g28]
     have r46:=(zBu v16.2 v17 q18).frame [0] [[.sl (v16.2.l.map zJu.c),iI v16.2.at_],zz0,[iI 14,iI 0,.str ([]:List UInt8),.sl (v16.1.map cS),.osl ⟨5,33⟩ (([]:List zJv).map zJv.c)]] (by simp)
     try simp[g19,g22,g25,g28] at r46
     refine zAW r46 (by simp[g19,g22,g25,g28]) rfl ?_
     simp[g19,g22,g25,g28]
     have r47:=(zAQ 4 v16.2 v20 q21).frame [0] [[.sl (v16.2.l.map zJu.c),iI v16.2.at_],zz0,[iI 14,iI 0,.str ([]:List UInt8),.sl (v16.1.map cS),.osl ⟨5,33⟩ (([]:List zJv).map zJv.c)]] (by simp)
     try simp[g19,g22,g25,g28] at r47
     refine zAW r47 (by simp[g19,g22,g25,g28]) rfl ?_
     simp[g19,g22,g25,g28]
     have r48:=(zBb [95] v16.2 v23 q24).frame [0] [[.sl (v16.2.l.map zJu.c),iI v16.2.at_],zz0,[iI 14,iI 0,.str ([]:List UInt8),.sl (v16.1.map cS),.osl ⟨5,33⟩ (([]:List zJv).map zJv.c)]] (by simp)
     try simp[g19,g22,g25,g28] at r48
     refine zAW r48 (by simp[g19,g22,g25,g28]) rfl ?_
     simp[g19,g22,g25,g28]
     have r49:=(zBb [126] v16.2 v26 q27).frame [0] [[.sl (v16.2.l.map zJu.c),iI v16.2.at_],zz0,[iI 14,iI 0,.str ([]:List UInt8),.sl (v16.1.map cS),.osl ⟨5,33⟩ (([]:List zJv).map zJv.c)]] (by simp)
     try simp[g19,g22,g25,g28] at r49
     refine zAW r49 (by simp[g19,g22,g25,g28]) rfl ?_
     simp[g19,g22,g25,g28]
    obtain⟨v29,q30,q32⟩:=bs q32
    obtain rfl:=oi q32
    refine st ?_
    simp[g19,g22,g25,g28]
    have r50:=(zBu v16.2 v17 q18).frame [0] [[.sl (v16.2.l.map zJu.c),iI v16.2.at_],zz0,[iI 14,iI 0,.str ([]:List UInt8),.sl (v16.1.map cS),.osl ⟨5,33⟩ (([]:List zJv).map zJv.c)]] (by simp)
    try simp[g19,g22,g25,g28] at r50
    refine zAW r50 (by simp[g19,g22,g25,g28]) rfl ?_
    simp[g19,g22,g25,g28]
    have r51:=(zAQ 4 v16.2 v20 q21).frame [0] [[.sl (v16.2.l.map zJu.c),iI v16.2.at_],zz0,[iI 14,iI 0,.str ([]:List UInt8),.sl (v16.1.map cS),.osl ⟨5,33⟩ (([]:List zJv).map zJv.c)]] (by simp)
    try simp[g19,g22,g25,g28] at r51
    refine zAW r51 (by simp[g19,g22,g25,g28]) rfl ?_
    simp[g19,g22,g25,g28]
    have r52:=(zBb [95] v16.2 v23 q24).frame [0] [[.sl (v16.2.l.map zJu.c),iI v16.2.at_],zz0,[iI 14,iI 0,.str ([]:List UInt8),.sl (v16.1.map cS),.osl ⟨5,33⟩ (([]:List zJv).map zJv.c)]] (by simp)
    try simp[g19,g22,g25,g28] at r52
    refine zAW r52 (by simp[g19,g22,g25,g28]) rfl ?_
    simp[g19,g22,g25,g28]
    have r53:=(zBb [126] v16.2 v26 q27).frame [0] [[.sl (v16.2.l.map zJu.c),iI v16.2.at_],zz0,[iI 14,iI 0,.str ([]:List UInt8),.sl (v16.1.map cS),.osl ⟨5,33⟩ (([]:List zJv).map zJv.c)]] (by simp)
    try simp[g19,g22,g25,g28] at r53
    refine zAW r53 (by simp[g19,g22,g25,g28]) rfl ?_
    simp[g19,g22,g25,g28]
    have r54:=(zBb [40] v16.2 v29 q30).frame [0] [[.sl (v16.2.l.map zJu.c),iI v16.2.at_],zz0,[iI 14,iI 0,.str ([]:List UInt8),.sl (v16.1.map cS),.osl ⟨5,33⟩ (([]:List zJv).map zJv.c)]] (by simp)
    try simp[g19,g22,g25,g28] at r54
    refine zAW r54 (by simp[g19,g22,g25,g28]) rfl ?_
    simp[g19,g22,g25,g28]
   refine spc h rfl (fun g33 h=>?_) fun g33 h=>?_
   ·obtain⟨v34,q35,h⟩:=bs h
    rcases v34 with e36|v37
    ·replace h:=elimL h
     refine stP 1 ?_
     simp
     have r38:=(panL (zBy v16.2 (.inl e36) q35)).frame [0] [[.sl (v16.2.l.map zJu.c),iI v16.2.at_],zz0,[iI 14,iI 0,.str ([]:List UInt8),.sl (v16.1.map cS),.osl ⟨5,33⟩ (([]:List zJv).map zJv.c)]] (by simp)
     try simp at r38
     refine panC r38 (by simp) (by simp)<|zDR ?_
     cases h
     simp
    replace h:=zEk h
    refine last 35 1 [(2,pT 1),(3,pT 2)] [[.sl (v37.2.l.map zJu.c),iI v37.2.at_],zz0,[iI 14,iI 0,.str ([]:List UInt8),.sl (v16.1.map cS),.osl ⟨5,33⟩ ([v37.1].map zJv.c)]] ?_ fun zz hs=>?_
    ·refine st ?_
     simp
     have r39:=(panR (zBy v16.2 (.inr v37) q35)).frame [0] [[.sl (v16.2.l.map zJu.c),iI v16.2.at_],zz0,[iI 14,iI 0,.str ([]:List UInt8),.sl (v16.1.map cS),.osl ⟨5,33⟩ (([]:List zJv).map zJv.c)]] (by simp)
     try simp at r39
     refine zAW r39 (by simp) rfl ?_
     simp
    refine zCh ?_ hs
    refine cutA 35 1 [(2,pT 1)] [[.sl (v37.2.l.map zJu.c),iI v37.2.at_],[iI 14,iI 0,.str ([]:List UInt8),.sl (v16.1.map cS),.sl ([v37.1].map zJv.c)],[iI 14,iI 0,.str ([]:List UInt8),.sl (v16.1.map cS),.osl ⟨5,33⟩ ([v37.1].map zJv.c)]]<|zAA ?_
    cases h
    simp
   refine zAC<|zAF<|cutA 35 1 [(2,pT 1)] [[.sl (v16.2.l.map zJu.c),iI v16.2.at_],[iI 14,iI 0,.str ([]:List UInt8),.sl (v16.1.map cS),.sl (([]:List zJv).map zJv.c)],[iI 14,iI 0,.str ([]:List UInt8),.sl (v16.1.map cS),.osl ⟨5,33⟩ (([]:List zJv).map zJv.c)]]<|zAA ?_
   cases h
   simp
theorem zDQ(fuel:Nat):(∀(w1:zJr)(r:(zJr) ⊕ (zJv×zJr))(_:zAZ fuel w1=some r),Sum.elim (fun r=>RawP Tryz.prog 61 (pan1 127) [pT 0] [[.sl (w1.l.map zJu.c),iI w1.at_]] [[.sl (r.l.map zJu.c),iI r.at_]]) (fun r=>Raw Tryz.prog 61 [pT 0] [[.sl (w1.l.map zJu.c),iI w1.at_]] (.agg (zJv.d r.1)) [[.sl (r.2.l.map zJu.c),iI r.2.at_]]) r):=(zCb fuel).2
end Go.Proofs.YtbnahfdbjaohkaaGreatDoor

namespace Go.Proofs.YtbnahfdbjaohkaaGreatDoor
open Go Go.Abs
def zSyn:List AV:=[.int .i64 0,.int .i64 0,.str [],.nsl,.nsl]
def Left(g:Gh)(w:World)(bs:List (List AV))(w':World):Prop:= ∃g',Sto g' bs w'∧Ext ⟨w,g⟩ g' w'∧∀t,g'.own (.tmp t)=none
theorem left_of{g:Gh}{s:AState}{a:Act}{w0 w:World}{g0:Gh}{bs:List (List AV)}(h:Sim ⟨w0,g0⟩ g s a w)(he:EndB s bs):Left g0 w0 bs w:=by
 obtain⟨g2,h5,h6,h7⟩:=h.le' he.le
 refine⟨{g2 with own:=fun p=>match p with|.tmp _=>none|q=>g2.own q},h5.callee,?_,fun t=>rfl⟩
 exact {h5.ext with
  imm:=h5.ext.imm
  immNew:=h5.ext.immNew
  mineσ:=h5.ext.mineσ
  mineOwn:=fun p k hk=>by
   cases p with
   |tmp t=>cases hk
   |cell b o=>exact h5.ext.mineOwn _ k hk}
theorem wpS_recover{P:Program}{o0 o1:Oper}{c0:Call}{d0 d1:Nat}(h0:o0.op=.call {callee:=.builtin .recover,args:=#[],argTypes:=#[]})(e0:o0.dst=some d0)(g0:o0.guard=none)(h1:o1.op=.assign (.tmp d0))(e1:o1.dst=some d1)(g1:o1.guard=none)
 {Q:Exit->Act->List Frame->World->Prop} {a:Act} {cs cs':List Frame} {w:World} {xv:Value} (hrec:recoverD cs=some (xv,cs')∨(recoverD cs=none∧xv=.nilIface∧cs'=cs)) (hd:d0<a.tmps.size)
 (hQ:Q .normal ((a.put (some d0) xv).put (some d1) xv) cs' w):wpOpsS P #[o0,o1] Q [0,1] a cs w:=by
 have r0:(execOp a.eval o0).run P w=.ok .recover w:=by simp[execOp,h0,resolve,invoke,builtin]
 have hg:((a.put (some d0) xv).tmps.getD d0 undef)=xv:=by
  simp only[Act.put]
  rw[zC9,if_pos ⟨rfl,hd⟩]
 have r1:(execOp (a.put (some d0) xv).eval o1).run P w=.ok (.value xv) w:=by
  have:(a.put (some d0) xv).eval (.tmp d0)=xv:=hg
  simp[execOp,h1,this]
 have next:wpOpsS P #[o0,o1] Q [1] (a.put (some d0) xv) cs' w:=by
  unfold wpOpsS
  simp only[show(#[o0,o1]:Array Oper)[1]? =some o1 from rfl]
  rw[if_pos (by simp[Region.wanted,g1]),r1]
  simp only[Oper.upon,e1]
  unfold wpOpsS
  exact hQ
 unfold wpOpsS
 simp only[show(#[o0,o1]:Array Oper)[0]? =some o0 from rfl]
 rw[if_pos (by simp[Region.wanted,g0]),r0]
 rcases hrec with h|⟨h,rfl,rfl⟩
 ·simp only[h,e0];exact next
 ·simp only[h,e0];exact next
theorem run1_of{bs bs':List (List AV)}{X:AV}{xv:Value}{u u':FrameMode}(hX:X.owns=false)
 (hrec: ∀c₀:Frame,c₀.mode=u->∀cs,(recoverD (c₀::cs)=some (xv,{c₀ with mode:=u'}::cs))∨(recoverD (c₀::cs)=none∧xv=.nilIface∧u'=u))
 (hxr: ∀imm σ,Rep imm σ X xv)
 (hA: ∀y1 y2:Code,Tryz.f59.body=some (.seq y1 y2)->AWp Tryz.prog y2 (fun e s=>e=.normal∧EndB s bs') (((Go.Abs.start 17 bs.length [.mptr 1 0,.mptr 2 0] bs).put 5 X).put 2 X))
 {g:Gh} {w:World} {vals:Array Value} (hs:Sto g bs w) (h0: ∀t,g.own (.tmp t)=none) (htg:TG g w) (ha:RepL g.imm g.σ [.mptr 1 0,.mptr 2 0] vals):
 CallsD Tryz.prog 59 vals u w fun e u2 w'=> ∃v,e=.returned v∧u2=u'∧Left g w bs' w':=by
 refine callsD_of_wpS Tryz.func59 (by rfl) fun c₀ cs hu=>?_
 have hA:=hA _ _ rfl
 refine wpS_seq (wpS_region ?_)
 have sim0:=zHX (n:=17) hs h0 ha (by simp) (by simp) htg
 have hr:=hrec c₀ hu cs
 have s1:=sim0.putTmp 5 none (x:=X) (v:=xv) (hxr _ _) (OwnsBy.of_not hX) Floating.none
 have s2:=s1.putTmp 2 none (x:=X) (v:=xv) (hxr _ _) (OwnsBy.of_not hX) Floating.none
 refine wpS_recover (c0:=default) (cs':={c₀ with mode:=u'}::cs) rfl rfl rfl rfl rfl rfl (xv:=xv) ?_ ?_ ?_
 ·rcases hr with h|⟨h,h2,h3⟩
  ·exact .inl h
  ·refine .inr ⟨h,h2,?_⟩
   rw[h3,<-hu]
 ·have h17:(17:Nat)=(vals++Array.replicate (17-vals.size) undef).size:=sim0.size
  show 5<(vals++Array.replicate (17-vals.size) undef).size
  omega
 ·show Code.wpS _ _ _ _ _ _
  refine wpS_of_wp (wp_mono (hA _ _ _ _ s2) fun e a' w' ⟨g',s',h1,h2,h3⟩=>?_)
  subst h2
  exact⟨h1.defers,u',rfl,_,results_none rfl _ _ _,_,rfl,rfl,left_of h1 h3⟩
def bP(w:zJr):List AV:=[.sl (w.l.map zJu.c),.int .i64 w.at_]
theorem run1_ret{bs:List (List AV)}{g:Gh}{w:World}{vals:Array Value}(hl:bs.length=3)(hs:Sto g bs w)(h0: ∀t,g.own (.tmp t)=none)(htg:TG g w)(ha:RepL g.imm g.σ [.mptr 1 0,.mptr 2 0] vals):
 CallsD Tryz.prog 59 vals .returning w fun e u2 w'=> ∃v,e=.returned v∧u2=.returning∧Left g w bs w':=by
 match bs,hl with
 |[b0,b1,b2],_=>
 refine run1_of (X:=.nilif) (xv:=.nilIface) (u':=.returning) rfl (fun c₀ hu cs=>.inr ⟨by simp[recoverD,hu],rfl,rfl⟩) (fun _ _=>.nilif) (fun y1 y2 hy=>?_) hs h0 htg ha
 cases hy
 refine cut 17 3 [(7,.bool false)] [b0,b1,b2] ?_ ?_
 ·refine st ?_
  simp
 refine zHR rfl rfl ?_
 refine zAC ?_
 simp
theorem run1_pan{b0 b1:List AV}{b:Bool}{g:Gh}{w:World}{vals:Array Value}(hb:b1.length=5)(hu0:AV.underL 3 b0=true)(hu1:AV.underL 3 b1=true)(hs:Sto g [b0,b1,[.bool b]] w)(h0: ∀t,g.own (.tmp t)=none)(htg:TG g w)(ha:RepL g.imm g.σ [.mptr 1 0,.mptr 2 0] vals):
 CallsD Tryz.prog 59 vals (.panicking (pan1 127)) w fun e u2 w'=> ∃v,e=.returned v∧u2=.panicking [{v:=.iface 127 (.agg #[]),recovered:=true}]∧Left g w [b0,zSyn,[.bool false]] w':=by
 refine run1_of (X:=.iface 127 (.agg [])) (xv:=.iface 127 (.agg #[])) rfl (fun c₀ hu cs=>.inl (by simp[recoverD,hu,pan1])) (fun _ _=>.iface _ _ _ (.agg _ _ rfl (by simp))) (fun y1 y2 hy=>?_) hs h0 htg ha
 cases hy
 refine cut 17 3 [(0,.mptr 1 0),(1,.mptr 2 0),(2,.iface 127 (.agg [])),(7,.bool true)] [b0,b1,[.bool b]] ?_ ?_
 ·refine st ?_
  simp
 refine zBF rfl rfl ?_
 refine zAE ?_
 refine cut 17 3 [(0,.mptr 1 0),(1,.mptr 2 0),(4,.bool true)] [b0,b1,[.bool b]] ?_ ?_
 ·refine zG8 ?_
  refine WL.cut 1 17 3 [(0,.mptr 1 0),(1,.mptr 2 0),(9,.iface 127 (.agg []))] [b0,b1,[.bool b]] ?_ ?_
  ·simp
  refine WL.assert rfl rfl rfl (by simp;rfl) rfl ?_
  refine WL.last ?_
  simp[hu0,hu1]
 refine cut 17 3 [(0,.mptr 1 0),(1,.mptr 2 0),(14,.bool false)] [b0,b1,[.bool b]] ?_ ?_
 ·refine st ?_
  simp
 refine zHR rfl rfl ?_
 refine zAC ?_
 refine zAF ?_
 match b1,hb with
 |[c0,c1,c2,c3,c4],_=>
 refine st ?_
 simp[zSyn]
def EndR(s:AState)(w:zJr)(x:List AV)(b:Bool):Prop:=LeB s 22 3 [(4,.mptr 1 0),(5,.mptr 2 0)] [bP w,x,[.bool b]]
def Qend(r:zJv×Bool×zJr)(e:Exit)(s:AState):Prop:=
 (e=.ret∧r.2.1=true∧EndR s r.2.2 [.int .i64 r.1.Op,.int .i64 r.1.N,.str r.1.S,.sl (r.1.Names.map cS),.sl (r.1.L.map zJv.c)] true)∨
 (e=.panic (pan1 127)∧r.1=⟨0,0,[],[],[]⟩∧r.2.1=false∧EndR s r.2.2 zSyn false)
theorem run_body(fuel:Nat)(cat:Int)(w:zJr)(r:zJv×Bool×zJr)(h:zCP fuel cat w=some r)(D:List Deferred):
 ∀y0 y1 y2:Code,Tryz.f29.body=some (.seq y0 (.seq y1 y2))->
  DWp Tryz.prog D y2 (Qend r) (mkS 22 3 [(0,.mptr 0 0),(1,.int .i64 cat),(4,.mptr 1 0),(5,.mptr 2 0)] [bP w,zSyn,[.bool false]]):=by
 intro y0 y1 y2 hy
 cases hy
 rw[zCP] at h
 have cutD: ∀{x y:Code}{Q:Exit->AState->Prop}{s:AState}(n base:Nat)(live:List (Nat×AV))(blocks:List (List AV)),DWp Tryz.prog D x (cutK n base live blocks Q) s->DWp Tryz.prog D y Q (mkS n base live blocks)->DWp Tryz.prog D (.seq x y) Q s:=
  fun {x y Q s} n base live blocks h1 h2=>dwp_seq fun F g a w hs hd=>wp_mono (h1 F g a w hs hd) fun e a' w' ⟨g',s',q1,q2,q3⟩=>⟨g',s',q1,q2,by
   cases e with
   |normal=>exact dwp_le h2 (zBO q3)
   |_=>exact q3⟩
 refine dwp_seq ?_
 refine cutD 22 3 [(0,.mptr 0 0),(4,.mptr 1 0),(5,.mptr 2 0),(7,.int .i64 cat)] [bP w,zSyn,[.bool false]] ?_ ?_
 ·refine zGi ?_
  simp[bP,zSyn]
 refine dwp_block ?_
 refine cutD 22 3 [(0,.mptr 0 0),(4,.mptr 1 0),(5,.mptr 2 0),(7,.int .i64 cat),(8,.bool (eqI cat 1))] [bP w,zSyn,[.bool false]] ?_ ?_
 ·refine zGi ?_
  simp[bP,zSyn]
 rcases sp h with ⟨c1,h⟩|⟨c1,h⟩
 ·cases h
 refine dwp_cond (b:=eqI cat 1) rfl (fun c=>absurd (c1.symm.trans c) (by simp)) (fun _=>?_)
 refine cutD 22 3 [(0,.mptr 0 0),(4,.mptr 1 0),(5,.mptr 2 0),(7,.int .i64 cat),(12,.bool (eqI cat 2))] [bP w,zSyn,[.bool false]] ?_ ?_
 ·refine zGi ?_
  simp[bP,zSyn]
 rcases sp h with ⟨c2,h⟩|⟨c2,h⟩
 ·refine dwp_cond (b:=eqI cat 2) rfl (fun _=>?_) (fun c=>absurd (c2.symm.trans c) (by simp))
  rw[zCf] at h
  obtain⟨v,q,h⟩:=bs h
  rcases v with e|v
  ·replace h:=elimL h
   obtain rfl:=oi h
   refine dwp_seq (zJj 1 ?_)
   simp
   have r1:=(panL (zDQ fuel w (.inl e) q)).frame [0] [bP w,zSyn,[.bool false]] (by simp[bP,zSyn])
   simp at r1
   refine⟨_,_,r1,?_⟩
   show Qend _ (.panic _) _
   refine .inr ⟨rfl,rfl,rfl,?_⟩
   simp[EndR,bP,zSyn]
  replace h:=zEk h
  obtain rfl:=oi h
  refine cutD 22 3 [(4,.mptr 1 0),(5,.mptr 2 0)] [bP v.2,[.int .i64 v.1.Op,.int .i64 v.1.N,.str v.1.S,.sl (v.1.Names.map cS),.sl (v.1.L.map zJv.c)],[.bool true]] (zGi ?_) (dwp_ret ?_)
  ·simp
   have r1:=(panR (zDQ fuel w (.inr v) q)).frame [0] [bP w,zSyn,[.bool false]] (by simp[bP,zSyn])
   simp at r1
   refine zAW r1 (by simp) rfl ?_
   simp[bP,zSyn]
  show Qend _ .ret _
  refine .inl ⟨rfl,rfl,?_⟩
  simp[EndR,bP]
 cases h
theorem left_of'{g:Gh}{s:AState}{a:Act}{w0 w:World}{g0:Gh}{bs:List (List AV)}(h:Sim ⟨w0,g0⟩ g s a w)(he:EndB s bs): ∃g',Sto g' bs w∧Ext ⟨w0,g0⟩ g' w∧(∀t,g'.own (.tmp t)=none)∧g'.imm=g.imm:=by
 obtain⟨g2,h5,h6,h7⟩:=h.le' he.le
 refine⟨{g2 with own:=fun p=>match p with|.tmp _=>none|q=>g2.own q},h5.callee,?_,fun t=>rfl,h6⟩
 exact {h5.ext with
  imm:=h5.ext.imm
  immNew:=h5.ext.immNew
  mineσ:=h5.ext.mineσ
  mineOwn:=fun p k hk=>by
   cases p with
   |tmp t=>cases hk
   |cell b o=>exact h5.ext.mineOwn _ k hk}
theorem wpList_defer{P:Program}{o0 o1:Oper}{ops:Array Oper}{Q:Exit->Act->World->Prop}{a:Act}{w:World}{d0 f x4 x5:Nat}{ts:Array TypeId}(h0:o0.op=.makeFunc (.func f) #[] #[.tmp x4,.tmp x5])(e0:o0.dst=some d0)(g0:o0.guard=none)
 (h1:o1.op=.defer {callee:=.value (.tmp d0),args:=#[],argTypes:=ts}) (e1:o1.dst=none) (g1:o1.guard=none) (hd:d0<a.tmps.size)
 (hQ:Q .normal {(a.put (some d0) (.func (.func f) #[] #[a.tmps.getD x4 undef,a.tmps.getD x5 undef])) with defers:={target:=.fn (.func f) #[a.tmps.getD x4 undef,a.tmps.getD x5 undef],args:=#[]}::a.defers} w):wpList P ops Q [o0,o1] a w:=by
 generalize hfv:(Value.func (.func f) #[] #[a.tmps.getD x4 undef,a.tmps.getD x5 undef])=fv at hQ
 have r0:(execOp a.eval o0).run P w=.ok (.value fv) w:=by subst hfv;simp[execOp,h0,Act.eval,Instr.makeFunc]
 have hg:((a.put (some d0) fv).tmps.getD d0 undef)=fv:=by
  simp only[Act.put]
  rw[zC9,if_pos ⟨rfl,hd⟩]
 have r1:(execOp (a.put (some d0) fv).eval o1).run P w=.ok (.defer {target:=.fn (.func f) #[a.tmps.getD x4 undef,a.tmps.getD x5 undef],args:=#[]}) w:=by
  have:(a.put (some d0) fv).eval (.tmp d0)=fv:=hg
  subst hfv
  simp only[execOp,h1,Sem.run_bind,resolve,this,Deferred.ofValue,Sem.run_pure,Result.andThen_ok]
  simp
 unfold wpList
 rw[if_pos (by simp[Region.wanted,g0])]
 refine .inl ?_
 simp only[Oper.wp,r0,Oper.upon,e0]
 unfold wpList
 rw[if_pos (by simp[Region.wanted,g1])]
 refine .inl ?_
 simp only[Oper.wp,r1,Oper.upon,e1]
 unfold wpList
 exact hQ
theorem zFT(fuel:Nat)(cat1:Int)(w2:zJr)(r:zJv×Bool×zJr)(h:zCP fuel cat1 w2=some r):
 Raw Tryz.prog 29 [.mptr 0 0,.int .i64 cat1] [[.sl (w2.l.map zJu.c),.int .i64 w2.at_]] (.tup [.agg [.int .i64 r.1.Op,.int .i64 r.1.N,.str r.1.S,.sl (r.1.Names.map cS),.sl (r.1.L.map zJv.c)],.bool r.2.1]) [[.sl (r.2.2.l.map zJu.c),.int .i64 r.2.2.at_]]:=by
 refine⟨⟨Tryz.f29,Tryz.func29,by rfl,by rfl⟩,fun g w0 vals hs h0 htg ha=>calls_of_wp_defers Tryz.func29 (by rfl) ?_⟩
 have sim0:=zHX (n:=22) hs h0 ha (by simp) (by simp) htg
 have hA0: ∀y0 y',Tryz.f29.body=some (.seq y0 y')->AWp Tryz.prog y0 (fun e s=>e=.normal∧LeB s 22 1 [(0,.mptr 0 0),(1,.int .i64 cat1),(4,.mptr 1 0),(5,.mptr 2 0)] [bP w2,zSyn,[.bool false]])
  (Go.Abs.start 22 1 [.mptr 0 0,.int .i64 cat1] [[.sl (w2.l.map zJu.c),.int .i64 w2.at_]]):=by
  intro y0 y' hy
  cases hy
  refine st ?_
  simp[bP,zSyn]
 refine wp_seq (wp_mono (hA0 _ _ rfl _ _ _ _ sim0) fun e a1 w1 ⟨g1,s1,h1,h2,h3⟩=>?_)
 subst h2
 obtain⟨g2,sim1⟩:=h1.le (zBO h3)
 have hz1:(22:Nat)=a1.tmps.size:=sim1.size
 show Code.wp _ _ _ _ _
 refine wp_seq (wp_region_list (wpList_defer rfl rfl rfl rfl rfl rfl (by omega) ?_))
 show Code.wp _ _ _ _ _
 generalize hv4:a1.tmps.getD 4 undef=v4
 generalize hv5:a1.tmps.getD 5 undef=v5
 have had:a1.defers=[]:=sim1.defers
 generalize hgS:({g2 with own:=fun p=>match p with|.tmp _=>none|q=>g2.own q}:Gh)=gS
 have hsto:Sto gS [bP w2,zSyn,[.bool false]] w1:=by rw[<-hgS];exact sim1.callee
 have hTG:TG gS w1:=by rw[<-hgS];exact sim1.ext.tg.callee
 have hown: ∀t,gS.own (.tmp t)=none:=fun t=>by rw[<-hgS]
 have himm:gS.imm=g2.imm:=by rw[<-hgS]
 have hσ:gS.σ=g2.σ:=by rw[<-hgS]
 have hp4:Rep gS.imm gS.σ (.mptr 1 0) v4:=by have:=(sim1.tmps 4).1;rw[hv4] at this;rw[himm,hσ];exact this
 have hp5:Rep gS.imm gS.σ (.mptr 2 0) v5:=by have:=(sim1.tmps 5).1;rw[hv5] at this;rw[himm,hσ];exact this
 have sim2:Sim ⟨w1,gS⟩ gS (mkS 22 3 [(0,.mptr 0 0),(1,.int .i64 cat1),(4,.mptr 1 0),(5,.mptr 2 0)] [bP w2,zSyn,[.bool false]])
  {a1.put (some 6) (.func (.func 59) #[] #[v4,v5]) with defers:=[]} w1:={
  ext:=Ext.refl' w1 gS (fun k hk=>hsto.σ_lt hk) hown hTG
  sto:=hsto
  size:=by show 22=(a1.tmps.setIfInBounds 6 _).size;rw[Array.size_setIfInBounds];exact hz1
  tmps:=fun t=>by
   have hr:Rep gS.imm gS.σ (lookD [(0,.mptr 0 0),(1,.int .i64 cat1),(4,.mptr 1 0),(5,.mptr 2 0)] t) ((a1.tmps.setIfInBounds 6 (.func (.func 59) #[] #[v4,v5])).getD t undef):=by
    rw[zC9]
    split
    ·rename_i ht
     obtain⟨rfl,_⟩:=ht
     exact .top _
    ·rw[himm,hσ];exact(sim1.tmps t).1
   refine⟨hr,OwnsBy.of_not ?_⟩
   show(lookD [(0,.mptr 0 0),(1,.int .i64 cat1),(4,.mptr 1 0),(5,.mptr 2 0)] t).owns=false
   simp only[lookD]
   repeat' split
   all_goals rfl
  loans:=fun t p hp=>by cases hp
  defers:=rfl
  base:=by show gS.σ.length<=3;rw[hsto.len];exact Nat.le_refl _}
 refine wp_mono (run_body fuel cat1 w2 r h _ _ _ _ rfl ⟨w1,gS⟩ gS {a1.put (some 6) (.func (.func 59) #[] #[v4,v5]) with defers:={target:=.fn (.func 59) #[v4,v5],args:=#[]}::a1.defers} w1 sim2 rfl) fun e a4 w4 ⟨g4,s4,sim4,hd4,hq⟩=>?_
 have fin: ∀(u u':FrameMode)(x x':List AV)(b b':Bool),u≠.run->EndR s4 r.2.2 x b->leCells x' x'->
  (∀(g:Gh)(w:World)(vals:Array Value),Sto g [bP r.2.2,x,[.bool b]] w->(∀t,g.own (.tmp t)=none)->TG g w->RepL g.imm g.σ [.mptr 1 0,.mptr 2 0] vals->
   CallsD Tryz.prog 59 vals u w fun e u2 w'=> ∃v,e=.returned v∧u2=u'∧Left g w [bP r.2.2,x',[.bool b']] w')->settle u'=.returning->
  (∀(s:AState),s.get 4=.mptr 1 0->s.get 5=.mptr 2 0->s.blocks=[bP r.2.2,x',[.bool b']]->∃c xs,zD5 Tryz.prog s Tryz.f29.results.toList=some (c,xs)∧c∧(oneOf xs).normR=.tup [.agg [.int .i64 r.1.Op,.int .i64 r.1.N,.str r.1.S,.sl (r.1.Names.map cS),.sl (r.1.L.map zJv.c)],.bool r.2.1])->
  Leaves Tryz.prog Tryz.f29 a4.tmps (fun e w'=> ∃g' v,e=.returned v∧Rep g'.imm g'.σ (.tup [.agg [.int .i64 r.1.Op,.int .i64 r.1.N,.str r.1.S,.sl (r.1.Names.map cS),.sl (r.1.L.map zJv.c)],.bool r.2.1]) v∧Sto g' [[.sl (r.2.2.l.map zJu.c),.int .i64 r.2.2.at_]] w'∧Ext ⟨w0,g⟩ g' w'∧(∀t,g'.own (.tmp t)=none)) a4.defers u w4:=by
  intro u u' x x' b b' hu hend hx5 hcl hset hres
  obtain⟨g5,sim5⟩:=sim4.le (zBO hend)
  have hext:=sim5.ext.σ
  have hk4:Rep g5.imm g5.σ (.mptr 1 0) v4:=by cases hp4 with|mptr _ _ k hk=>exact .mptr _ _ k (hext _ _ hk)
  have hk5:Rep g5.imm g5.σ (.mptr 2 0) v5:=by cases hp5 with|mptr _ _ k hk=>exact .mptr _ _ k (hext _ _ hk)
  have hvals:RepL g5.imm g5.σ [.mptr 1 0,.mptr 2 0] #[v4,v5]:=⟨rfl,fun i y hy=>by
   match i,hy with
   |0,hy=>simp at hy;subst hy;exact hk4
   |1,hy=>simp at hy;subst hy;exact hk5⟩
  rw[hd4,had]
  refine leaves_cons hu (f:=59) (args:=#[v4,v5]) ?_ (CallsD.mono (hcl _ w4 #[v4,v5] sim5.callee (fun _=>rfl) sim5.ext.tg.callee hvals) fun e u2 w5 he=>?_)
  ·have hen:Abs.Enters Tryz.prog 59:=⟨Tryz.f59,Tryz.func59,by rfl,by rfl⟩
   simp[invoke,hen.run]
  obtain⟨v,rfl,rfl,g6,l1,l2,l3⟩:=he
  show Leaves _ _ _ _ [] (settle u2) w5
  rw[hset]
  have sim6:=sim5.after l3 l1 l2
  have key: ∀(S:AState)(gh:Gh),Sim ⟨w1,gS⟩ gh S {a4 with defers:=[]} w5->S.get 4=.mptr 1 0->S.get 5=.mptr 2 0->S.blocks=[bP r.2.2,x',[.bool b']]->
   ∃v',(results Tryz.f29 a4.tmps).run Tryz.prog w5=.ok v' w5∧Rep gh.imm gh.σ (.tup [.agg [.int .i64 r.1.Op,.int .i64 r.1.N,.str r.1.S,.sl (r.1.Names.map cS),.sl (r.1.L.map zJv.c)],.bool r.2.1]) v':=fun S gh hS q1 q2 q3=>by
   obtain⟨cc,xs,t1,t2,t3⟩:=hres S q1 q2 q3
   obtain⟨v',e1,e2⟩:=results_ok hS (fn:=Tryz.f29) t1 t2
   replace e2:=e2.normR
   rw[t3] at e2
   exact⟨v',e1,e2⟩
  obtain⟨v',e1,e2⟩:=key _ _ sim6 rfl rfl rfl
  refine⟨v',e1,?_⟩
  obtain⟨g7,m1,m2,m3,m4⟩:=left_of' sim6 (bs:=[bP r.2.2,x',[.bool b']]) (by simp[bP,hx5])
  have sim7:=sim1.after m3 m1 (by rw[<-hgS] at m2;exact m2)
  obtain⟨g9,n1,n2,n3,n4⟩:=left_of' sim7 (bs:=[[.sl (r.2.2.l.map zJu.c),.int .i64 r.2.2.at_]]) (by simp[bP])
  refine⟨g9,v',rfl,?_,n1,n2,n3⟩
  rw[n4]
  show Rep g7.imm _ _ _
  rw[m4]
  exact e2.flat rfl
 rcases hq with ⟨rfl,hb,hend⟩|⟨rfl,hx,hb,hend⟩
 ·refine fin .returning .returning _ _ true true (by simp) hend (by simp) (fun g w vals q1 q2 q3 q4=>run1_ret rfl q1 q2 q3 q4) rfl ?_
  intro s q1 q2 q3
  refine⟨True,[.agg [.int .i64 r.1.Op,.int .i64 r.1.N,.str r.1.S,.sl (r.1.Names.map cS),.sl (r.1.L.map zJv.c)],.bool true],by simp[zD5,zGk,q1,q2,q3],trivial,by simp[hb,oneOf]⟩
 ·refine fin (.panicking (pan1 127)) _ _ _ false false (by simp) hend (by simp[zSyn]) (fun g w vals q1 q2 q3 q4=>run1_pan rfl (by simp[bP]) (by simp[zSyn]) q1 q2 q3 q4) rfl ?_
  intro s q1 q2 q3
  refine⟨True,[.agg zSyn,.bool false],by simp[zD5,zGk,q1,q2,q3,zSyn],trivial,by simp[hb,hx,oneOf,zSyn]⟩
theorem zGy(fuel:Nat)(cat1:Int)(s2:(List UInt8))(r:zJv×zJw×Int)(h:zAk fuel cat1 s2=some r):Pure Tryz.prog 15 [iI cat1,.str s2] (.tup [.agg (zJv.d r.1),.agg [iI r.2.1.Line,iI r.2.1.Column],iI r.2.2]):=by
 rw[zAk] at h
 refine zAG Tryz.func15 (by rfl) (by rfl) (by simp) (by simp) (by simp)<|cutA 64 0 [(0,iI cat1),(1,.str s2),(4,pT 0),(5,pT 1)] [zz0,zz3] ?_
 obtain⟨v3,q4,h⟩:=bs h
 refine cut 64 0 [(0,iI cat1),(4,pT 0),(5,pT 1),(7,.sl (v3.1.map zJu.c)),(8,pT 2),(9,iI v3.2.2)] [zz0,zz3,[iI v3.2.1.Line,iI v3.2.1.Column]] ?_ ?_
 ·refine st ?_
  simp
  have r35:=zIg fuel s2 v3 q4
  try simp at r35
  refine cP r35 ?_
  simp
 refine zAE<|cutA 64 0 [(0,iI cat1),(4,pT 0),(5,pT 1),(7,.sl (v3.1.map zJu.c)),(8,pT 2),(9,iI v3.2.2),(20,.bool (!(eqI v3.2.2 0)))] [zz0,zz3,[iI v3.2.1.Line,iI v3.2.1.Column]] ?_
 rcases sp h with ⟨g5,h⟩|⟨g5,h⟩
 ·have g6:=notT g5
  have c7:=eqF g6
  refine zBF rfl g5<|cut 64 0 [(4,pT 0),(5,pT 1),(6,iI v3.2.2)] [zz0,[iI v3.2.1.Line,iI v3.2.1.Column],[iI v3.2.1.Line,iI v3.2.1.Column]] ?_ ?_
  ·refine zCc [0,1] [5] mixed (n:=64) rfl (by decide) (by decide) ?_
   simp
  refine zAA<|zAB ?_
  cases h
  simp
 have g8:=notF g5
 have c9:=eqT g8
 refine zHR rfl g5<|zAC<|zAF<|cutA 64 0 [(0,iI cat1),(4,pT 0),(5,pT 1),(10,pT 3)] [zz0,zz3,[iI v3.2.1.Line,iI v3.2.1.Column],[.sl (v3.1.map zJu.c),iI 0]] ?_
 obtain⟨v10,q11,h⟩:=bs h
 refine cut 64 0 [(0,iI cat1),(4,pT 0),(5,pT 1),(10,pT 3),(11,pT 4),(12,.bool v10.2.1)] [zz0,zz3,[iI v3.2.1.Line,iI v3.2.1.Column],[.sl (v10.2.2.l.map zJu.c),iI v10.2.2.at_],(zJv.d v10.1)] ?_ ?_
 ·refine st ?_
  simp
  have r34:=(zFT fuel cat1 (zJr.mk v3.1 0) v10 q11).frame [3] [zz0,zz3,[iI v3.2.1.Line,iI v3.2.1.Column],[.sl (v3.1.map zJu.c),iI 0]] (by simp)
  try simp at r34
  refine zAW r34 (by simp) rfl ?_
  simp
 refine zAE<|zAH ?_
 obtain⟨b17,q18,h⟩:=bs h
 refine cut 64 0 [(0,iI cat1),(4,pT 0),(5,pT 1),(10,pT 3),(11,pT 4),(33,.bool b17)] [zz0,zz3,[iI v3.2.1.Line,iI v3.2.1.Column],[.sl (v10.2.2.l.map zJu.c),iI v10.2.2.at_],(zJv.d v10.1)] ?_ ?_
 ·rcases sp q18 with ⟨g12,q18⟩|⟨g12,q18⟩
  ·have g13:=notT g12
   obtain rfl:=oi q18
   refine st ?_
   simp[g12]
  have g14:=notF g12
  obtain⟨v15,q16,q18⟩:=bs q18
  obtain rfl:=oi q18
  refine st ?_
  simp[g12]
  have r33:=(zAQ 8 v10.2.2 v15 q16).frame [3] [zz0,zz3,[iI v3.2.1.Line,iI v3.2.1.Column],[.sl (v10.2.2.l.map zJu.c),iI v10.2.2.at_],(zJv.d v10.1)] (by simp)
  try simp[g12] at r33
  refine zAW r33 (by simp[g12]) rfl ?_
  simp[g12]
 refine spc h rfl (fun g19 h=>?_) fun g19 h=>?_
 ·obtain⟨x20,q21,h⟩:=bs h
  obtain⟨q22,q23⟩:=idx_ok q21
  obtain⟨v24,q25,h⟩:=bs h
  refine cut 64 0 [(4,pT 0),(5,pT 1),(6,iI v24)] [zz0,[iI x20.At.Line,iI x20.At.Column],[iI v3.2.1.Line,iI v3.2.1.Column],[.sl (v10.2.2.l.map zJu.c),iI v10.2.2.at_],(zJv.d v10.1)] ?_ ?_
  ·refine zIl mixed 15 (fun L s=> ∃(pos:Nat->Nat) (bl:List (List AV)),NPos [] L pos bl∧s.n=64∧s.base=0∧(∀t,s.loans t=none)∧s.blocks=[(if L 14=true then [iI 0,iI 0,.str ([]:List UInt8),.nsl,.nsl] else zz0),zz3,[iI v3.2.1.Line,iI v3.2.1.Column],[.sl (v10.2.2.l.map zJu.c),iI v10.2.2.at_],(zJv.d v10.1)]++bl∧s.get 0=iI cat1∧s.get 4=pT 0∧s.get 5=pT 1∧s.get 10=pT 3∧s.get 11=pT 4∧s.get 33=.bool b17∧(L 0=true->s.get 41=.agg [iI 0,iI 0,.str ([]:List UInt8),.nsl,.nsl])∧(L 1=true->s.get 42=pT 3)∧(L 2=true->s.get 43=pT 3)∧(L 3=true->s.get 44=pT 3)∧(L 4=true->s.get 45=.sl (v10.2.2.l.map zJu.c))∧(L 5=true->s.get 46=pT 3)∧(L 6=true->s.get 47=pT 3)∧(L 7=true->s.get 48=.mptr 3 1)∧(L 8=true->s.get 49=iI v10.2.2.at_)∧(L 9=true->s.get 50=.cptr [iI x20.Kind,.str x20.Text,iI x20.At.Line,iI x20.At.Column])∧(L 10=true->s.get 51=.cptr [iI x20.At.Line,iI x20.At.Column])∧(L 11=true->s.get 52=.agg [iI x20.At.Line,iI x20.At.Column])∧(L 12=true->s.get 53=pT 3)∧(L 13=true->s.get 54=iI v24)∧(L 14=true->L 13=true)) (by decide) ⟨fun _=>0,[],NPos.start _ _,by simp⟩ ?_ ?_
   ·refine⟨?_,?_,?_,?_,?_,?_,?_,?_,?_,?_,?_,?_,?_,?_,?_,trivial⟩
    all_goals
     intro L s hL he hI
     obtain⟨pos,bl,hN,fn1,fn2,fn3,fn4,fw0,fw4,fw5,fw10,fw11,fw33,fv0,fv1,fv2,fv3,fv4,fv5,fv6,fv7,fv8,fv9,fv10,fv11,fv12,fv13,fc14⟩:=hI
     try simp[q22,q23] at fv0 fv1 fv2 fv3 fv4 fv5 fv6 fv7 fv8 fv9 fv10 fv11 fv12 fv13
    refine AStep.mono ?_ fun s' h=>⟨_,_,hN.skip (by simp),h⟩
    rotate_left
    refine AStep.mono ?_ fun s' h=>⟨_,_,hN.skip (by simp),h⟩
    rotate_left
    replace fv1:=fv1 ((zq8 he) 1 (by decide))
    refine AStep.mono ?_ fun s' h=>⟨_,_,hN.skip (by simp),h⟩
    rotate_left
    replace fv2:=fv2 ((zq8 he) 2 (by decide))
    refine AStep.mono ?_ fun s' h=>⟨_,_,hN.skip (by simp),h⟩
    rotate_left
    replace fv3:=fv3 ((zq8 he) 3 (by decide))
    refine AStep.mono ?_ fun s' h=>⟨_,_,hN.skip (by simp),h⟩
    rotate_left
    refine AStep.mono ?_ fun s' h=>⟨_,_,hN.skip (by simp),h⟩
    rotate_left
    replace fv5:=fv5 ((zq8 he) 5 (by decide))
    refine AStep.mono ?_ fun s' h=>⟨_,_,hN.skip (by simp),h⟩
    rotate_left
    replace fv6:=fv6 ((zq8 he) 6 (by decide))
    refine AStep.mono ?_ fun s' h=>⟨_,_,hN.skip (by simp),h⟩
    rotate_left
    replace fv7:=fv7 ((zq8 he) 7 (by decide))
    refine AStep.mono ?_ fun s' h=>⟨_,_,hN.skip (by simp),h⟩
    rotate_left
    replace fv4:=fv4 ((zq8 he) 4 (by decide))
    replace fv8:=fv8 ((zq8 he) 8 (by decide))
    refine AStep.mono ?_ fun s' h=>⟨_,_,hN.skip (by simp),h⟩
    rotate_left
    replace fv9:=fv9 ((zq8 he) 9 (by decide))
    refine AStep.mono ?_ fun s' h=>⟨_,_,hN.skip (by simp),h⟩
    rotate_left
    replace fv10:=fv10 ((zq8 he) 10 (by decide))
    refine AStep.mono ?_ fun s' h=>⟨_,_,hN.skip (by simp),h⟩
    rotate_left
    refine AStep.mono ?_ fun s' h=>⟨_,_,hN.skip (by simp),h⟩
    rotate_left
    replace fv12:=fv12 ((zq8 he) 12 (by decide))
    have hL:L 13=false:=hL
    have fh14:L 14=false:=by cases hh:L 14 with|false=>rfl|true=>have:=fc14 hh;simp[hL] at this
    obtain rfl:bl=[]:=List.eq_nil_of_length_eq_zero (by simpa using hN.len)
    refine AStep.mono ?_ fun s' h=>⟨_,_,hN.skip (by simp),h⟩
    simp[fn1,fn2,fn3,fn4,fw0,fw4,fw5,fw10,fw11,fw33,fv0,fv1,fv2,fv3,fv4,fv5,fv6,fv7,fv8,fv9,fv10,fv11,fv12,fv13,q22,q23,fh14,hL]
    have r26:=(zEn v10.2.2 v24 q25).frame [3] [zz0,zz3,[iI v3.2.1.Line,iI v3.2.1.Column],[.sl (v10.2.2.l.map zJu.c),iI v10.2.2.at_],(zJv.d v10.1)] (by simp)
    try simp[q22,q23] at r26
    refine zAW r26 (by simp[fn1,fn2,fn3,fn4,fw0,fw4,fw5,fw10,fw11,fw33,fv0,fv1,fv2,fv3,fv4,fv5,fv6,fv7,fv8,fv9,fv10,fv11,fv12,fv13,q22,q23,fh14,hL]) rfl ?_
    simp[fn1,fn2,fn3,fn4,fw0,fw4,fw5,fw10,fw11,fw33,fv0,fv1,fv2,fv3,fv4,fv5,fv6,fv7,fv8,fv9,fv10,fv11,fv12,fv13,q22,q23,fh14,hL]
    rotate_left
    replace fv0:=fv0 ((zq8 he) 0 (by decide))
    replace fv13:=fv13 ((zq8 he) 13 (by decide))
    have hL:L 14=false:=hL
    refine AStep.mono ?_ fun s' h=>⟨_,_,hN.skip (by simp),h⟩
    simp[fn1,fn2,fn3,fn4,fw0,fw4,fw5,fw10,fw11,fw33,fv0,fv1,fv2,fv3,fv4,fv5,fv6,fv7,fv8,fv9,fv10,fv11,fv12,fv13,q22,q23,hL]
    rotate_left
    all_goals try simp[fn1,fn2,fn3,fn4,fw0,fw4,fw5,fw10,fw11,fw33,fv0,fv1,fv2,fv3,fv4,fv5,fv6,fv7,fv8,fv9,fv10,fv11,fv12,fv13,q22,q23]
    all_goals repeat' (first|exact fv0|exact fv1|exact fv2|exact fv3|exact fv4|exact fv5|exact fv6|exact fv7|exact fv8|exact fv9|exact fv10|exact fv11|exact fv12|exact fv13|exact fc14|exact fun h=>absurd (fc14 h) (by simp[hL])|exact(zq8 he) 0 (by decide)|exact(zq8 he) 1 (by decide)|exact(zq8 he) 2 (by decide)|exact(zq8 he) 3 (by decide)|exact(zq8 he) 4 (by decide)|exact(zq8 he) 5 (by decide)|exact(zq8 he) 6 (by decide)|exact(zq8 he) 7 (by decide)|exact(zq8 he) 8 (by decide)|exact(zq8 he) 9 (by decide)|exact(zq8 he) 10 (by decide)|exact(zq8 he) 12 (by decide)|exact(zq8 he) 13 (by decide)|refine⟨?_,?_⟩)
   ·rintro L s hall ⟨pos,bl,hN,fn1,fn2,fn3,fn4,fw0,fw4,fw5,fw10,fw11,fw33,fv0,fv1,fv2,fv3,fv4,fv5,fv6,fv7,fv8,fv9,fv10,fv11,fv12,fv13,fc14⟩
    try simp[q22,q23] at fv0 fv1 fv2 fv3 fv4 fv5 fv6 fv7 fv8 fv9 fv10 fv11 fv12 fv13
    replace fv0:=fv0 (hall 0 (by decide))
    replace fv1:=fv1 (hall 1 (by decide))
    replace fv2:=fv2 (hall 2 (by decide))
    replace fv3:=fv3 (hall 3 (by decide))
    replace fv4:=fv4 (hall 4 (by decide))
    replace fv5:=fv5 (hall 5 (by decide))
    replace fv6:=fv6 (hall 6 (by decide))
    replace fv7:=fv7 (hall 7 (by decide))
    replace fv8:=fv8 (hall 8 (by decide))
    replace fv9:=fv9 (hall 9 (by decide))
    replace fv10:=fv10 (hall 10 (by decide))
    replace fv11:=fv11 (hall 11 (by decide))
    replace fv12:=fv12 (hall 12 (by decide))
    replace fv13:=fv13 (hall 13 (by decide))
    simp only[hall 14 (by decide),if_true] at fn4
    obtain⟨f,hf,hk,hg⟩:=hN.ghost (by simp) (by simp) fn4 (by simp[fn2])
    simp at hf
    refine⟨_,hg,?_⟩
    simp[AV.ren,AV.renL,hf,fn1,fn2,fn3,fn4,fw0,fw4,fw5,fw10,fw11,fw33,fv0,fv1,fv2,fv3,fv4,fv5,fv6,fv7,fv8,fv9,fv10,fv11,fv12,fv13,q22,q23]
  refine zAA<|zAD<|zAB ?_
  cases h
  simp
 obtain⟨v27,q28,h⟩:=bs h
 refine cut 64 0 [(4,pT 0),(5,pT 1),(11,pT 4),(55,.bool (!v27))] [zz0,zz3,[iI v3.2.1.Line,iI v3.2.1.Column],[.sl (v10.2.2.l.map zJu.c),iI v10.2.2.at_],(zJv.d v10.1)] ?_ ?_
 ·refine st ?_
  simp
  have r32:=zIZ fuel cat1 v10.1 v27 q28
  try simp at r32
  refine cP r32 ?_
  simp
 refine spc h rfl (fun g29 h=>?_) fun g29 h=>?_
 ·have g30:=notT g29
  refine cutA 64 0 [(4,pT 0),(5,pT 1),(6,iI 5)] [zz0,zz3,[iI v3.2.1.Line,iI v3.2.1.Column],[.sl (v10.2.2.l.map zJu.c),iI v10.2.2.at_],(zJv.d v10.1)]<|zAA<|zAD<|zAB ?_
  cases h
  simp
 have g31:=notF g29
 refine zAC<|zDA<|zAF<|cutA 64 0 [(4,pT 0),(5,pT 1),(6,iI 0)] [(zJv.d v10.1),zz3,[iI v3.2.1.Line,iI v3.2.1.Column],[.sl (v10.2.2.l.map zJu.c),iI v10.2.2.at_],(zJv.d v10.1)]<|zAA ?_
 cases h
 simp
theorem zGG(fuel:Nat)(s1:(List UInt8))(r:zJv×zJw×Int)(h:zCU fuel s1=some r):Pure Tryz.prog 7 [.str s1] (.tup [.agg (zJv.d r.1),.agg [iI r.2.1.Line,iI r.2.1.Column],iI r.2.2]):=by
 rw[zCU] at h
 refine zAG Tryz.func7 (by rfl) (by rfl) (by simp) (by simp) (by simp)<|cutA 10 0 [(0,.str s1),(2,pT 0),(3,pT 1)] [zz0,zz3] ?_
 obtain⟨v2,q3,h⟩:=bs h
 refine cut 10 0 [(2,pT 0),(3,pT 1),(4,iI v2.2.2)] [(zJv.d v2.1),[iI v2.2.1.Line,iI v2.2.1.Column]] ?_ ?_
 ·refine st ?_
  simp
  have r4:=zGy fuel 2 s1 v2 q3
  try simp at r4
  refine cP r4 ?_
  simp
 refine zAA ?_
 cases h
 simp
theorem zFi(fuel:Nat):(∀(p1:zJx)(t2:zJv)(r:Bool)(_:zAO fuel p1 t2=some r),Raw Tryz.prog 8 [.agg (zJx.d p1),.agg t2.d,pT 0] [[.fn (.func 8) [] [pT 0]]] (.bool r) [[.fn (.func 8) [] [pT 0]]]):=by
 induction fuel with
 |zero=>intro p1 t2 r h;rw[zAO] at h;cases h
 |succ fuel zCO=>
  intro p1 t2 r h
  rw[zAO] at h
  refine zAl Tryz.func8 (by rfl) (by rfl) (by simp) (by simp)<|cutA 88 1 [(2,pT 0),(3,pT 1),(4,pT 2)] [[.fn (.func 8) [] [pT 0]],(zJx.d p1),t2.d]<|zAE<|cutA 88 1 [(2,pT 0),(3,pT 1),(4,pT 2),(13,.bool (!(eqI p1.L.length t2.L.length)))] [[.fn (.func 8) [] [pT 0]],(zJx.d p1),t2.d] ?_
  rcases sp h with ⟨g3,h⟩|⟨g3,h⟩
  ·have g4:=notT g3
   have c5:=eqF g4
   refine zBF rfl g3<|cutA 88 1 [(5,.bool false)] [[.fn (.func 8) [] [pT 0]],(zJx.d p1),t2.d]<|zAA<|zAB ?_
   cases h
   simp
  have g6:=notF g3
  have c7:=eqT g6
  refine zHR rfl g3<|zAC<|zAF<|zAE<|cutA 88 1 [(2,pT 0),(3,pT 1),(4,pT 2),(15,iI p1.Op)] [[.fn (.func 8) [] [pT 0]],(zJx.d p1),t2.d]<|zAH<|cutA 88 1 [(2,pT 0),(3,pT 1),(4,pT 2),(15,iI p1.Op),(19,.bool (eqI p1.Op 1))] [[.fn (.func 8) [] [pT 0]],(zJx.d p1),t2.d] ?_
  refine spc h rfl (fun g8 h=>?_) fun g8 h=>?_
  ·refine cutA 88 1 [(2,pT 0),(3,pT 1),(4,pT 2),(23,.bool (!(eqI t2.Op 11)))] [[.fn (.func 8) [] [pT 0]],(zJx.d p1),t2.d] ?_
   rcases sp h with ⟨g10,h⟩|⟨g10,h⟩
   ·have g11:=notT g10
    have c12:=eqF g11
    refine zBF rfl g10<|cutA 88 1 [(5,.bool false)] [[.fn (.func 8) [] [pT 0]],(zJx.d p1),t2.d]<|zAA<|zAD<|zAB ?_
    cases h
    simp
   have g13:=notF g10
   have c14:=eqT g13
   refine zHR rfl g10<|zAC<|zDA<|zAF<|zAE<|cutA 88 1 [(2,pT 0),(3,pT 1),(4,pT 2),(70,iI p1.L.length),(71,iI 0)] [[.fn (.func 8) [] [pT 0]],(zJx.d p1),t2.d]<|zAH ?_
   obtain⟨o17,l18,h⟩:=bs h
   refine zCI (fun p:Nat×Nat=>mkS 88 1 [(2,pT 0),(3,pT 1),(4,pT 2),(70,iI p1.L.length),(71,iI p.2)] [[.fn (.func 8) [] [pT 0]],(zJx.d p1),t2.d]) (fun p=>zBM (zAO fuel) p1 t2 p.1 p.2=some o17) (fun p=>p.1) (fuel,0) l18 (zBO (by simp)) ?_
   rintro⟨k19,i15⟩ l18
   try dsimp only at l18 ⊢
   cases k19 with
   |zero=>
    rw[zBM] at l18;cases l18
   |succ k20=>
    rw[zBM] at l18
    refine cutA 88 1 [(2,pT 0),(3,pT 1),(4,pT 2),(70,iI p1.L.length),(71,iI i15),(72,.bool (ltI i15 p1.L.length))] [[.fn (.func 8) [] [pT 0]],(zJx.d p1),t2.d]<|zAE<|spc l18 rfl (fun g21 l18=>?_) fun g21 l18=>?_
    ·have c22:=ltT g21
     refine zDt 1 3 rfl rfl rfl fun f23=>?_
     rw[zq4] at f23
     refine zAC<|zAF<|zAE<|zAH<|cutA 88 1 [(2,pT 0),(3,pT 1),(4,pT 2),(6,iI i15),(70,iI p1.L.length),(71,iI i15)] [[.fn (.func 8) [] [pT 0]],(zJx.d p1),t2.d] ?_
     obtain⟨x24,q25,l18⟩:=bs l18
     obtain⟨x26,q27,l18⟩:=bs l18
     obtain⟨v28,q29,l18⟩:=bs l18
     refine cut 88 1 [(2,pT 0),(3,pT 1),(4,pT 2),(70,iI p1.L.length),(71,iI i15),(86,.bool (!v28))] [[.fn (.func 8) [] [pT 0]],(zJx.d p1),t2.d] ?_ ?_
     ·refine zCc [] [11] mixed (n:=88) rfl (by decide) (by decide) ?_
      simp[q25,q27]
      have r34:=(zCO x24 x26 v28 q29).frame [0] [[.fn (.func 8) [] [pT 0]],(zJx.d p1),t2.d] (by simp)
      try simp[q25,q27] at r34
      refine callX r34 (by simp[q25,q27]) rfl ?_
      simp[q25,q27]
     refine spc l18 rfl (fun g30 l18=>?_) fun g30 l18=>?_
     ·have g31:=notT g30
      refine cutA 88 1 [(5,.bool false)] [[.fn (.func 8) [] [pT 0]],(zJx.d p1),t2.d]<|zAA<|zAD<|zAB ?_
      replace h:=retL l18 h
      refine zAB<|zAD<|zAB ?_
      cases h
      simp
     have g32:=notF g30
     refine zAC<|zDA<|zAF ?_
     have q33:Rng .i64 (((i15:Nat):Int)+1):=by simp only[Rng,inR];omega
     try simp at q33
     refine last 88 1 [(2,pT 0),(3,pT 1),(4,pT 2),(70,iI p1.L.length),(71,iI ((i15+1:Nat):Int))] [[.fn (.func 8) [] [pT 0]],(zJx.d p1),t2.d] (st (by simp[q33])) fun zz hs=>?_
     exact⟨(k20,i15+1),hs,l18,by simp⟩
    have c35:=ltF g21
    refine zDt 1 3 rfl rfl rfl fun f36=>?_
    rw[zq4] at f36
    refine zBP<|zAU ?_
    rcases o17 with o17|o16
    ·cases l18
    have q37:=Sum.inr.inj (zqa l18)
    replace h:=zEk h
    refine zAU<|zBU<|zCh (t:=mkS 88 1 [] [[.fn (.func 8) [] [pT 0]],(zJx.d p1),t2.d]) ?_ (zBO (by simp))
    refine cutA 88 1 [(5,.bool true)] [[.fn (.func 8) [] [pT 0]],(zJx.d p1),t2.d]<|zAA ?_
    cases h
    simp
  refine cutA 88 1 [(2,pT 0),(3,pT 1),(4,pT 2),(15,iI p1.Op),(24,.bool (eqI p1.Op 2))] [[.fn (.func 8) [] [pT 0]],(zJx.d p1),t2.d]<|spc h rfl (fun g39 h=>?_) fun g39 h=>?_
  ·refine cut 88 1 [(2,pT 0),(3,pT 1),(4,pT 2),(35,.bool ((!(eqI t2.Op 12))||(!(eqS t2.S p1.S))))] [[.fn (.func 8) [] [pT 0]],(zJx.d p1),t2.d] ?_ ?_
   ·rcases tf (!(eqI t2.Op 12)) with g41|g41
    ·have g42:=notT g41
     have c43:=eqF g42
     refine st ?_
     simp[g41]
    have g44:=notF g41
    have c45:=eqT g44
    refine st ?_
    simp[g41]
   rcases sp h with ⟨g46,h⟩|⟨g46,h⟩
   ·refine zBF rfl g46<|cutA 88 1 [(5,.bool false)] [[.fn (.func 8) [] [pT 0]],(zJx.d p1),t2.d]<|zAA<|zAD<|zAB ?_
    cases h
    simp
   obtain⟨g47,g48⟩:=orF g46
   have g49:=notF g47
   have c50:=eqT g49
   have g51:=notF g48
   refine zHR rfl g46<|zAC<|zDA<|zAF<|zAE<|cutA 88 1 [(2,pT 0),(3,pT 1),(4,pT 2),(70,iI p1.L.length),(71,iI 0)] [[.fn (.func 8) [] [pT 0]],(zJx.d p1),t2.d]<|zAH ?_
   obtain⟨o54,l55,h⟩:=bs h
   refine zCI (fun p:Nat×Nat=>mkS 88 1 [(2,pT 0),(3,pT 1),(4,pT 2),(70,iI p1.L.length),(71,iI p.2)] [[.fn (.func 8) [] [pT 0]],(zJx.d p1),t2.d]) (fun p=>zBL (zAO fuel) p1 t2 p.1 p.2=some o54) (fun p=>p.1) (fuel,0) l55 (zBO (by simp)) ?_
   rintro⟨k56,i52⟩ l55
   try dsimp only at l55 ⊢
   cases k56 with
   |zero=>
    rw[zBL] at l55;cases l55
   |succ k57=>
    rw[zBL] at l55
    refine cutA 88 1 [(2,pT 0),(3,pT 1),(4,pT 2),(70,iI p1.L.length),(71,iI i52),(72,.bool (ltI i52 p1.L.length))] [[.fn (.func 8) [] [pT 0]],(zJx.d p1),t2.d]<|zAE<|spc l55 rfl (fun g58 l55=>?_) fun g58 l55=>?_
    ·have c59:=ltT g58
     refine zDt 1 3 rfl rfl rfl fun f60=>?_
     rw[zq4] at f60
     refine zAC<|zAF<|zAE<|zAH<|cutA 88 1 [(2,pT 0),(3,pT 1),(4,pT 2),(6,iI i52),(70,iI p1.L.length),(71,iI i52)] [[.fn (.func 8) [] [pT 0]],(zJx.d p1),t2.d] ?_
     obtain⟨x61,q62,l55⟩:=bs l55
     obtain⟨x63,q64,l55⟩:=bs l55
     obtain⟨v65,q66,l55⟩:=bs l55
     refine cut 88 1 [(2,pT 0),(3,pT 1),(4,pT 2),(70,iI p1.L.length),(71,iI i52),(86,.bool (!v65))] [[.fn (.func 8) [] [pT 0]],(zJx.d p1),t2.d] ?_ ?_
     ·refine zCc [] [11] mixed (n:=88) rfl (by decide) (by decide) ?_
      simp[q62,q64]
      have r71:=(zCO x61 x63 v65 q66).frame [0] [[.fn (.func 8) [] [pT 0]],(zJx.d p1),t2.d] (by simp)
      try simp[q62,q64] at r71
      refine callX r71 (by simp[q62,q64]) rfl ?_
      simp[q62,q64]
     refine spc l55 rfl (fun g67 l55=>?_) fun g67 l55=>?_
     ·have g68:=notT g67
      refine cutA 88 1 [(5,.bool false)] [[.fn (.func 8) [] [pT 0]],(zJx.d p1),t2.d]<|zAA<|zAD<|zAB ?_
      replace h:=retL l55 h
      refine zAB<|zAD<|zAB ?_
      cases h
      simp
     have g69:=notF g67
     refine zAC<|zDA<|zAF ?_
     have q70:Rng .i64 (((i52:Nat):Int)+1):=by simp only[Rng,inR];omega
     try simp at q70
     refine last 88 1 [(2,pT 0),(3,pT 1),(4,pT 2),(70,iI p1.L.length),(71,iI ((i52+1:Nat):Int))] [[.fn (.func 8) [] [pT 0]],(zJx.d p1),t2.d] (st (by simp[q70])) fun zz hs=>?_
     exact⟨(k57,i52+1),hs,l55,by simp⟩
    have c72:=ltF g58
    refine zDt 1 3 rfl rfl rfl fun f73=>?_
    rw[zq4] at f73
    refine zBP<|zAU ?_
    rcases o54 with o54|o53
    ·cases l55
    have q74:=Sum.inr.inj (zqa l55)
    replace h:=zEk h
    refine zAU<|zBU<|zCh (t:=mkS 88 1 [] [[.fn (.func 8) [] [pT 0]],(zJx.d p1),t2.d]) ?_ (zBO (by simp))
    refine cutA 88 1 [(5,.bool true)] [[.fn (.func 8) [] [pT 0]],(zJx.d p1),t2.d]<|zAA ?_
    cases h
    simp
  refine cutA 88 1 [(2,pT 0),(3,pT 1),(4,pT 2),(15,iI p1.Op),(36,.bool (eqI p1.Op 3))] [[.fn (.func 8) [] [pT 0]],(zJx.d p1),t2.d]<|spc h rfl (fun g76 h=>?_) fun g76 h=>?_
  ·refine cut 88 1 [(2,pT 0),(3,pT 1),(4,pT 2),(47,.bool ((!(eqI t2.Op 13))||(!(eqI t2.N p1.N))))] [[.fn (.func 8) [] [pT 0]],(zJx.d p1),t2.d] ?_ ?_
   ·rcases tf (!(eqI t2.Op 13)) with g78|g78
    ·have g79:=notT g78
     have c80:=eqF g79
     refine st ?_
     simp[g78]
    have g81:=notF g78
    have c82:=eqT g81
    refine st ?_
    simp[g78]
   rcases sp h with ⟨g83,h⟩|⟨g83,h⟩
   ·refine zBF rfl g83<|cutA 88 1 [(5,.bool false)] [[.fn (.func 8) [] [pT 0]],(zJx.d p1),t2.d]<|zAA<|zAD<|zAB ?_
    cases h
    simp
   obtain⟨g84,g85⟩:=orF g83
   have g86:=notF g84
   have c87:=eqT g86
   have g88:=notF g85
   have c89:=eqT g88
   refine zHR rfl g83<|zAC<|zDA<|zAF<|zAE<|cutA 88 1 [(2,pT 0),(3,pT 1),(4,pT 2),(70,iI p1.L.length),(71,iI 0)] [[.fn (.func 8) [] [pT 0]],(zJx.d p1),t2.d]<|zAH ?_
   obtain⟨o92,l93,h⟩:=bs h
   refine zCI (fun p:Nat×Nat=>mkS 88 1 [(2,pT 0),(3,pT 1),(4,pT 2),(70,iI p1.L.length),(71,iI p.2)] [[.fn (.func 8) [] [pT 0]],(zJx.d p1),t2.d]) (fun p=>zBK (zAO fuel) p1 t2 p.1 p.2=some o92) (fun p=>p.1) (fuel,0) l93 (zBO (by simp)) ?_
   rintro⟨k94,i90⟩ l93
   try dsimp only at l93 ⊢
   cases k94 with
   |zero=>
    rw[zBK] at l93;cases l93
   |succ k95=>
    rw[zBK] at l93
    refine cutA 88 1 [(2,pT 0),(3,pT 1),(4,pT 2),(70,iI p1.L.length),(71,iI i90),(72,.bool (ltI i90 p1.L.length))] [[.fn (.func 8) [] [pT 0]],(zJx.d p1),t2.d]<|zAE<|spc l93 rfl (fun g96 l93=>?_) fun g96 l93=>?_
    ·have c97:=ltT g96
     refine zDt 1 3 rfl rfl rfl fun f98=>?_
     rw[zq4] at f98
     refine zAC<|zAF<|zAE<|zAH<|cutA 88 1 [(2,pT 0),(3,pT 1),(4,pT 2),(6,iI i90),(70,iI p1.L.length),(71,iI i90)] [[.fn (.func 8) [] [pT 0]],(zJx.d p1),t2.d] ?_
     obtain⟨x99,q100,l93⟩:=bs l93
     obtain⟨x101,q102,l93⟩:=bs l93
     obtain⟨v103,q104,l93⟩:=bs l93
     refine cut 88 1 [(2,pT 0),(3,pT 1),(4,pT 2),(70,iI p1.L.length),(71,iI i90),(86,.bool (!v103))] [[.fn (.func 8) [] [pT 0]],(zJx.d p1),t2.d] ?_ ?_
     ·refine zCc [] [11] mixed (n:=88) rfl (by decide) (by decide) ?_
      simp[q100,q102]
      have r109:=(zCO x99 x101 v103 q104).frame [0] [[.fn (.func 8) [] [pT 0]],(zJx.d p1),t2.d] (by simp)
      try simp[q100,q102] at r109
      refine callX r109 (by simp[q100,q102]) rfl ?_
      simp[q100,q102]
     refine spc l93 rfl (fun g105 l93=>?_) fun g105 l93=>?_
     ·have g106:=notT g105
      refine cutA 88 1 [(5,.bool false)] [[.fn (.func 8) [] [pT 0]],(zJx.d p1),t2.d]<|zAA<|zAD<|zAB ?_
      replace h:=retL l93 h
      refine zAB<|zAD<|zAB ?_
      cases h
      simp
     have g107:=notF g105
     refine zAC<|zDA<|zAF ?_
     have q108:Rng .i64 (((i90:Nat):Int)+1):=by simp only[Rng,inR];omega
     try simp at q108
     refine last 88 1 [(2,pT 0),(3,pT 1),(4,pT 2),(70,iI p1.L.length),(71,iI ((i90+1:Nat):Int))] [[.fn (.func 8) [] [pT 0]],(zJx.d p1),t2.d] (st (by simp[q108])) fun zz hs=>?_
     exact⟨(k95,i90+1),hs,l93,by simp⟩
    have c110:=ltF g96
    refine zDt 1 3 rfl rfl rfl fun f111=>?_
    rw[zq4] at f111
    refine zBP<|zAU ?_
    rcases o92 with o92|o91
    ·cases l93
    have q112:=Sum.inr.inj (zqa l93)
    replace h:=zEk h
    refine zAU<|zBU<|zCh (t:=mkS 88 1 [] [[.fn (.func 8) [] [pT 0]],(zJx.d p1),t2.d]) ?_ (zBO (by simp))
    refine cutA 88 1 [(5,.bool true)] [[.fn (.func 8) [] [pT 0]],(zJx.d p1),t2.d]<|zAA ?_
    cases h
    simp
  refine cutA 88 1 [(2,pT 0),(3,pT 1),(4,pT 2),(48,.bool (eqI p1.Op 4))] [[.fn (.func 8) [] [pT 0]],(zJx.d p1),t2.d]<|spc h rfl (fun g114 h=>?_) fun g114 h=>?_
  ·obtain⟨b128,q129,h⟩:=bs h
   refine cut 88 1 [(2,pT 0),(3,pT 1),(4,pT 2),(67,.bool b128)] [[.fn (.func 8) [] [pT 0]],(zJx.d p1),t2.d] ?_ ?_
   ·rcases sp q129 with ⟨g116,q129⟩|⟨g116,q129⟩
    ·have g117:=notT g116
     have c118:=eqF g117
     obtain rfl:=oi q129
     refine zBS [] mixed (n:=88) rfl (by decide) ?_
     simp[g116]
    have g119:=notF g116
    have c120:=eqT g119
    rcases sp q129 with ⟨g121,q129⟩|⟨g121,q129⟩
    ·have g122:=notT g121
     have c123:=eqF g122
     obtain rfl:=oi q129
     refine zBS [] mixed (n:=88) rfl (by decide) ?_
     simp[g116,g121]
    have g124:=notF g121
    have c125:=eqT g124
    obtain⟨x126,q127,q129⟩:=bs q129
    obtain rfl:=oi q129
    refine zBS [] mixed (n:=88) rfl (by decide) ?_
    simp[g116,g121,q127]
   refine spc h rfl (fun g130 h=>?_) fun g130 h=>?_
   ·refine cutA 88 1 [(5,.bool false)] [[.fn (.func 8) [] [pT 0]],(zJx.d p1),t2.d]<|zAA<|zAD<|zAB ?_
    cases h
    simp
   refine zAC<|zDA<|zAF<|zAE<|cutA 88 1 [(2,pT 0),(3,pT 1),(4,pT 2),(70,iI p1.L.length),(71,iI 0)] [[.fn (.func 8) [] [pT 0]],(zJx.d p1),t2.d]<|zAH ?_
   obtain⟨o133,l134,h⟩:=bs h
   refine zCI (fun p:Nat×Nat=>mkS 88 1 [(2,pT 0),(3,pT 1),(4,pT 2),(70,iI p1.L.length),(71,iI p.2)] [[.fn (.func 8) [] [pT 0]],(zJx.d p1),t2.d]) (fun p=>zBJ (zAO fuel) p1 t2 p.1 p.2=some o133) (fun p=>p.1) (fuel,0) l134 (zBO (by simp)) ?_
   rintro⟨k135,i131⟩ l134
   try dsimp only at l134 ⊢
   cases k135 with
   |zero=>
    rw[zBJ] at l134;cases l134
   |succ k136=>
    rw[zBJ] at l134
    refine cutA 88 1 [(2,pT 0),(3,pT 1),(4,pT 2),(70,iI p1.L.length),(71,iI i131),(72,.bool (ltI i131 p1.L.length))] [[.fn (.func 8) [] [pT 0]],(zJx.d p1),t2.d]<|zAE<|spc l134 rfl (fun g137 l134=>?_) fun g137 l134=>?_
    ·have c138:=ltT g137
     refine zDt 1 3 rfl rfl rfl fun f139=>?_
     rw[zq4] at f139
     refine zAC<|zAF<|zAE<|zAH<|cutA 88 1 [(2,pT 0),(3,pT 1),(4,pT 2),(6,iI i131),(70,iI p1.L.length),(71,iI i131)] [[.fn (.func 8) [] [pT 0]],(zJx.d p1),t2.d] ?_
     obtain⟨x140,q141,l134⟩:=bs l134
     obtain⟨x142,q143,l134⟩:=bs l134
     obtain⟨v144,q145,l134⟩:=bs l134
     refine cut 88 1 [(2,pT 0),(3,pT 1),(4,pT 2),(70,iI p1.L.length),(71,iI i131),(86,.bool (!v144))] [[.fn (.func 8) [] [pT 0]],(zJx.d p1),t2.d] ?_ ?_
     ·refine zCc [] [11] mixed (n:=88) rfl (by decide) (by decide) ?_
      simp[q141,q143]
      have r150:=(zCO x140 x142 v144 q145).frame [0] [[.fn (.func 8) [] [pT 0]],(zJx.d p1),t2.d] (by simp)
      try simp[q141,q143] at r150
      refine callX r150 (by simp[q141,q143]) rfl ?_
      simp[q141,q143]
     refine spc l134 rfl (fun g146 l134=>?_) fun g146 l134=>?_
     ·have g147:=notT g146
      refine cutA 88 1 [(5,.bool false)] [[.fn (.func 8) [] [pT 0]],(zJx.d p1),t2.d]<|zAA<|zAD<|zAB ?_
      replace h:=retL l134 h
      refine zAB<|zAD<|zAB ?_
      cases h
      simp
     have g148:=notF g146
     refine zAC<|zDA<|zAF ?_
     have q149:Rng .i64 (((i131:Nat):Int)+1):=by simp only[Rng,inR];omega
     try simp at q149
     refine last 88 1 [(2,pT 0),(3,pT 1),(4,pT 2),(70,iI p1.L.length),(71,iI ((i131+1:Nat):Int))] [[.fn (.func 8) [] [pT 0]],(zJx.d p1),t2.d] (st (by simp[q149])) fun zz hs=>?_
     exact⟨(k136,i131+1),hs,l134,by simp⟩
    have c151:=ltF g137
    refine zDt 1 3 rfl rfl rfl fun f152=>?_
    rw[zq4] at f152
    refine zBP<|zAU ?_
    rcases o133 with o133|o132
    ·cases l134
    have q153:=Sum.inr.inj (zqa l134)
    replace h:=zEk h
    refine zAU<|zBU<|zCh (t:=mkS 88 1 [] [[.fn (.func 8) [] [pT 0]],(zJx.d p1),t2.d]) ?_ (zBO (by simp))
    refine cutA 88 1 [(5,.bool true)] [[.fn (.func 8) [] [pT 0]],(zJx.d p1),t2.d]<|zAA ?_
    cases h
    simp
  refine cutA 88 1 [(2,pT 0),(3,pT 1),(4,pT 2),(18,.bool (!(eqI t2.Op 15)))] [[.fn (.func 8) [] [pT 0]],(zJx.d p1),t2.d] ?_
  rcases sp h with ⟨g155,h⟩|⟨g155,h⟩
  ·have g156:=notT g155
   have c157:=eqF g156
   refine zBF rfl g155<|cutA 88 1 [(5,.bool false)] [[.fn (.func 8) [] [pT 0]],(zJx.d p1),t2.d]<|zAA<|zAD<|zAB ?_
   cases h
   simp
  have g158:=notF g155
  have c159:=eqT g158
  refine zHR rfl g155<|zAC<|zDA<|zAF<|zAE<|cutA 88 1 [(2,pT 0),(3,pT 1),(4,pT 2),(70,iI p1.L.length),(71,iI 0)] [[.fn (.func 8) [] [pT 0]],(zJx.d p1),t2.d]<|zAH ?_
  obtain⟨o162,l163,h⟩:=bs h
  refine zCI (fun p:Nat×Nat=>mkS 88 1 [(2,pT 0),(3,pT 1),(4,pT 2),(70,iI p1.L.length),(71,iI p.2)] [[.fn (.func 8) [] [pT 0]],(zJx.d p1),t2.d]) (fun p=>zBI (zAO fuel) p1 t2 p.1 p.2=some o162) (fun p=>p.1) (fuel,0) l163 (zBO (by simp)) ?_
  rintro⟨k164,i160⟩ l163
  try dsimp only at l163 ⊢
  cases k164 with
  |zero=>
   rw[zBI] at l163;cases l163
  |succ k165=>
   rw[zBI] at l163
   refine cutA 88 1 [(2,pT 0),(3,pT 1),(4,pT 2),(70,iI p1.L.length),(71,iI i160),(72,.bool (ltI i160 p1.L.length))] [[.fn (.func 8) [] [pT 0]],(zJx.d p1),t2.d]<|zAE<|spc l163 rfl (fun g166 l163=>?_) fun g166 l163=>?_
   ·have c167:=ltT g166
    refine zDt 1 3 rfl rfl rfl fun f168=>?_
    rw[zq4] at f168
    refine zAC<|zAF<|zAE<|zAH<|cutA 88 1 [(2,pT 0),(3,pT 1),(4,pT 2),(6,iI i160),(70,iI p1.L.length),(71,iI i160)] [[.fn (.func 8) [] [pT 0]],(zJx.d p1),t2.d] ?_
    obtain⟨x169,q170,l163⟩:=bs l163
    obtain⟨x171,q172,l163⟩:=bs l163
    obtain⟨v173,q174,l163⟩:=bs l163
    refine cut 88 1 [(2,pT 0),(3,pT 1),(4,pT 2),(70,iI p1.L.length),(71,iI i160),(86,.bool (!v173))] [[.fn (.func 8) [] [pT 0]],(zJx.d p1),t2.d] ?_ ?_
    ·refine zCc [] [11] mixed (n:=88) rfl (by decide) (by decide) ?_
     simp[q170,q172]
     have r179:=(zCO x169 x171 v173 q174).frame [0] [[.fn (.func 8) [] [pT 0]],(zJx.d p1),t2.d] (by simp)
     try simp[q170,q172] at r179
     refine callX r179 (by simp[q170,q172]) rfl ?_
     simp[q170,q172]
    refine spc l163 rfl (fun g175 l163=>?_) fun g175 l163=>?_
    ·have g176:=notT g175
     refine cutA 88 1 [(5,.bool false)] [[.fn (.func 8) [] [pT 0]],(zJx.d p1),t2.d]<|zAA<|zAD<|zAB ?_
     replace h:=retL l163 h
     refine zAB<|zAD<|zAB ?_
     cases h
     simp
    have g177:=notF g175
    refine zAC<|zDA<|zAF ?_
    have q178:Rng .i64 (((i160:Nat):Int)+1):=by simp only[Rng,inR];omega
    try simp at q178
    refine last 88 1 [(2,pT 0),(3,pT 1),(4,pT 2),(70,iI p1.L.length),(71,iI ((i160+1:Nat):Int))] [[.fn (.func 8) [] [pT 0]],(zJx.d p1),t2.d] (st (by simp[q178])) fun zz hs=>?_
    exact⟨(k165,i160+1),hs,l163,by simp⟩
   have c180:=ltF g166
   refine zDt 1 3 rfl rfl rfl fun f181=>?_
   rw[zq4] at f181
   refine zBP<|zAU ?_
   rcases o162 with o162|o161
   ·cases l163
   have q182:=Sum.inr.inj (zqa l163)
   replace h:=zEk h
   refine zAU<|zBU<|zCh (t:=mkS 88 1 [] [[.fn (.func 8) [] [pT 0]],(zJx.d p1),t2.d]) ?_ (zBO (by simp))
   refine cutA 88 1 [(5,.bool true)] [[.fn (.func 8) [] [pT 0]],(zJx.d p1),t2.d]<|zAA ?_
   cases h
   simp
theorem zGJ(fuel:Nat)(p1:zJx)(r:Bool)(h:zCV fuel p1=some r):Pure Tryz.prog 3 [.agg (zJx.d p1)] (.bool r):=by
 rw[zCV] at h
 refine zAG Tryz.func3 (by rfl) (by rfl) (by simp) (by simp) (by simp)<|cutA 37 0 [(1,pT 0)] [(zJx.d p1)]<|zAE ?_
 obtain⟨v2,q3,h⟩:=bs h
 refine cut 37 0 [(1,pT 0),(10,.bool (!v2))] [(zJx.d p1)] ?_ ?_
 ·refine st ?_
  simp
  have r30:=zJc v2 q3
  try simp at r30
  refine cP r30 ?_
  simp
 refine spc h rfl (fun g4 h=>?_) fun g4 h=>?_
 ·have g5:=notT g4
  refine cutA 37 0 [(2,.bool false)] [(zJx.d p1)]<|zAA<|zAB ?_
  cases h
  simp
 have g6:=notF g4
 refine zAC<|zAF<|zAE ?_
 obtain⟨v7,q8,h⟩:=bs h
 refine cut 37 0 [(1,pT 0),(12,.bool v7)] [(zJx.d p1)] ?_ ?_
 ·refine st ?_
  simp
  have r29:=law20_big_ok fuel p1 v7 q8
  try simp at r29
  refine cP r29 ?_
  simp
 refine spc h rfl (fun g9 h=>?_) fun g9 h=>?_
 ·refine cutA 37 0 [(2,.bool true)] [(zJx.d p1)]<|zAA<|zAB ?_
  cases h
  simp
 refine zAC<|zAF ?_
 obtain⟨v10,q11,h⟩:=bs h
 refine cut 37 0 [(1,pT 0),(3,.str v10.1),(4,iI v10.2)] [(zJx.d p1)] ?_ ?_
 ·refine st ?_
  simp
  have r28:=zIe fuel p1 v10 q11
  try simp at r28
  refine cP r28 ?_
  simp
 refine zAE<|cutA 37 0 [(1,pT 0),(3,.str v10.1),(19,.bool (!(eqI v10.2 0)))] [(zJx.d p1)] ?_
 rcases sp h with ⟨g12,h⟩|⟨g12,h⟩
 ·have g13:=notT g12
  have c14:=eqF g13
  refine zBF rfl g12<|cutA 37 0 [(2,.bool (eqS v10.1 ([]:List UInt8)))] [(zJx.d p1)]<|zAA<|zAB ?_
  cases h
  simp
 have g15:=notF g12
 have c16:=eqT g15
 refine zHR rfl g12<|zAC<|zAF ?_
 obtain⟨v17,q18,h⟩:=bs h
 refine cut 37 0 [(1,pT 0),(5,pT 1),(7,iI v17.2.2)] [(zJx.d p1),(zJv.d v17.1),[iI v17.2.1.Line,iI v17.2.1.Column]] ?_ ?_
 ·refine st ?_
  simp
  have r27:=zGG fuel v10.1 v17 q18
  try simp at r27
  refine cP r27 ?_
  simp
 refine cutA 37 0 [(1,pT 0),(5,pT 1),(7,iI v17.2.2),(8,pT 3)] [(zJx.d p1),(zJv.d v17.1),[iI v17.2.1.Line,iI v17.2.1.Column],[.nilfn]]<|cutA 37 0 [(1,pT 0),(5,pT 1),(7,iI v17.2.2),(8,pT 3)] [(zJx.d p1),(zJv.d v17.1),[iI v17.2.1.Line,iI v17.2.1.Column],[.fn (.func 8) [] [pT 3]]] ?_
 obtain⟨b24,q25,h⟩:=bs h
 refine cut 37 0 [(2,.bool b24)] [(zJx.d p1),(zJv.d v17.1),[iI v17.2.1.Line,iI v17.2.1.Column],[.fn (.func 8) [] [pT 3]]] ?_ ?_
 ·rcases sp q25 with ⟨g19,q25⟩|⟨g19,q25⟩
  ·have c20:=eqT g19
   obtain⟨v21,q22,q25⟩:=bs q25
   obtain rfl:=oi q25
   refine st ?_
   simp[g19]
   have r26:=(zFi fuel p1 v17.1 v21 q22).frame [3] [(zJx.d p1),(zJv.d v17.1),[iI v17.2.1.Line,iI v17.2.1.Column],[.fn (.func 8) [] [pT 3]]] (by simp)
   try simp[g19] at r26
   refine zAW r26 (by simp[g19]) rfl ?_
   simp[g19]
  have c23:=eqF g19
  obtain rfl:=oi q25
  refine st ?_
  simp[g19]
 refine zAA ?_
 cases h
 simp
end Go.Proofs.YtbnahfdbjaohkaaGreatDoor
set_option linter.unusedVariables false
set_option linter.unusedSimpArgs false
set_option maxRecDepth 100000
namespace Go.Proofs.YtbnahfdbjaohkaaGreatDoor
open Go Go.Abs
inductive PT (α:Type):Type where
 |out:PT α
 |fail:PT α
 |ret (a:α):PT α
 |is (s:List UInt8) (k:Bool->PT α):PT α
 |kd (n:Int) (k:Bool->PT α):PT α
 |nx (k:List UInt8->PT α):PT α
abbrev Tk:=Int×List UInt8
def isB(t:Tk)(s:List UInt8):Bool:=(eqI t.1 6||eqI t.1 7)&&eqS t.2 s
def ktk(t:zJu):Tk:=(t.Kind,t.Text)
namespace PT
variable {α β γ:Type}
def bind:PT α->(α->PT β)->PT β
 |out,_=>out
 |fail,_=>fail
 |ret a,f=>f a
 |is s k,f=>is s fun b=>(k b).bind f
 |kd n k,f=>kd n fun b=>(k b).bind f
 |nx k,f=>nx fun t=>(k t).bind f
def ofO:Option α->PT α
 |none=>out
 |some a=>ret a
def go:PT α->List Tk->Option (Option α×List Tk)
 |out,_=>none
 |fail,l=>some (none,l)
 |ret a,l=>some (some a,l)
 |is _ _,[]=>none
 |is s k,t::l=>(k (isB t s)).go (t::l)
 |kd _ _,[]=>none
 |kd n k,t::l=>(k (eqI t.1 n)).go (t::l)
 |nx _,[]=>none
 |nx k,t::l=>(k t.2).go l
def goK(f:α->PT β)(r:Option α×List Tk):Option (Option β×List Tk):=
 match r.1 with
 |none=>some (none,r.2)
 |some a=>(f a).go r.2
theorem go_bind(f:α->PT β): ∀(x:PT α)(l:List Tk),(x.bind f).go l=(x.go l).bind (goK f)
 |out,l=>rfl
 |fail,l=>rfl
 |ret a,l=>rfl
 |is s k,[]=>rfl
 |is s k,t::l=>go_bind f (k (isB t s)) (t::l)
 |kd n k,[]=>rfl
 |kd n k,t::l=>go_bind f (k (eqI t.1 n)) (t::l)
 |nx k,[]=>rfl
 |nx k,t::l=>go_bind f (k t.2) l
theorem bind_assoc(f:α->PT β)(g:β->PT γ): ∀x:PT α,(x.bind f).bind g=x.bind fun a=>(f a).bind g
 |out=>rfl
 |fail=>rfl
 |ret a=>rfl
 |is s k=>congrArg (is s) (funext fun b=>bind_assoc f g (k b))
 |kd n k=>congrArg (kd n) (funext fun b=>bind_assoc f g (k b))
 |nx k=>congrArg nx (funext fun b=>bind_assoc f g (k b))
theorem go_drop: ∀(x:PT α)(l:List Tk)(o:Option α)(r:List Tk),x.go l=some (o,r)->∃A,l=A++r
 |fail,l,o,r,h=>⟨[],by cases h;rfl⟩
 |ret a,l,o,r,h=>⟨[],by cases h;rfl⟩
 |is s k,t::l,o,r,h=>go_drop (k (isB t s)) (t::l) o r h
 |kd n k,t::l,o,r,h=>go_drop (k (eqI t.1 n)) (t::l) o r h
 |nx k,t::l,o,r,h=>by
  obtain⟨A,rfl⟩:=go_drop (k t.2) l o r h
  exact⟨t::A,rfl⟩
theorem go_loc(t:Tk)(B B':List Tk): ∀(x:PT α)(A:List Tk)(o:Option α),x.go (A++t::B)=some (o,t::B)->x.go (A++t::B')=some (o,t::B')
 |fail,A,o,h=>by
  have h1:(none,A++t::B)=(o,t::B):=Option.some.inj h
  have h2:=congrArg (fun q=>q.2.length) h1
  have:A=[]:=by cases A with
   |nil=>rfl
   |cons a A=>simp at h2;omega
  subst this;cases h1;rfl
 |ret a,A,o,h=>by
  have h1:(some a,A++t::B)=(o,t::B):=Option.some.inj h
  have h2:=congrArg (fun q=>q.2.length) h1
  have:A=[]:=by cases A with
   |nil=>rfl
   |cons a A=>simp at h2;omega
  subst this;cases h1;rfl
 |is s k,[],o,h=>go_loc t B B' (k (isB t s)) [] o h
 |is s k,a::A,o,h=>go_loc t B B' (k (isB a s)) (a::A) o h
 |kd n k,[],o,h=>go_loc t B B' (k (eqI t.1 n)) [] o h
 |kd n k,a::A,o,h=>go_loc t B B' (k (eqI a.1 n)) (a::A) o h
 |nx k,[],o,h=>by
  obtain⟨A,hA⟩:=go_drop (k t.2) B o (t::B) h
  have:=congrArg List.length hA
  simp at this;omega
 |nx k,a::A,o,h=>go_loc t B B' (k a.2) A o h
def eats:PT α->Prop
 |ret _=>False
 |is _ k=> ∀b,(k b).eats
 |kd _ k=> ∀b,(k b).eats
 |_=>True
theorem zJi(f:α->PT β): ∀x:PT α,x.eats->(x.bind f).eats
 |out,_=>trivial
 |fail,_=>trivial
 |is s k,h=>fun b=>zJi f (k b) (h b)
 |kd n k,h=>fun b=>zJi f (k b) (h b)
 |nx k,_=>trivial
theorem eats_bind2(f:α->PT β)(hf: ∀a,(f a).eats): ∀x:PT α,(x.bind f).eats
 |out=>trivial
 |fail=>trivial
 |ret a=>hf a
 |is s k=>fun b=>eats_bind2 f hf (k b)
 |kd n k=>fun b=>eats_bind2 f hf (k b)
 |nx k=>trivial
theorem eats_go: ∀(x:PT α),x.eats->∀(l:List Tk)(a:α)(r:List Tk),x.go l=some (some a,r)->r.length<l.length
 |fail,_,l,a,r,h=>by cases h
 |is s k,e,t::l,a,r,h=>eats_go (k (isB t s)) (e _) (t::l) a r h
 |kd n k,e,t::l,a,r,h=>eats_go (k (eqI t.1 n)) (e _) (t::l) a r h
 |nx k,_,t::l,a,r,h=>by
  obtain⟨A,rfl⟩:=go_drop (k t.2) l (some a) r h
  simp;omega
def nc:PT α->Prop
 |is s k=>(∀b,(k b).nc)∧(s=[41]->(k false).eats)
 |kd n k=>n≠7∧n≠8∧∀b,(k b).nc
 |nx k=> ∀t,(k t).nc
 |_=>True
theorem nc_bind(f:α->PT β)(hf: ∀a,(f a).nc): ∀x:PT α,x.nc->(x.bind f).nc
 |out,_=>trivial
 |fail,_=>trivial
 |ret a,_=>hf a
 |is s k,h=>⟨fun b=>nc_bind f hf (k b) (h.1 b),fun hs=>zJi f _ (h.2 hs)⟩
 |kd n k,h=>⟨h.1,h.2.1,fun b=>nc_bind f hf (k b) (h.2.2 b)⟩
 |nx k,h=>fun t=>nc_bind f hf (k t) (h t)
theorem isB_end(s:List UInt8):isB (8,[]) s=false:=rfl
theorem isB_close(s:List UInt8)(h:s≠[41]):isB (7,[41]) s=false:=by
 simp only[isB,Bool.and_eq_false_iff];right
 simp only[eqS,decide_eq_false_iff_not];exact fun hh=>h hh.symm
theorem zIH(B B':List Tk): ∀(x:PT α),x.nc->∀(A:List Tk)(a:α),x.go (A++(8,[])::B)=some (some a,(8,[])::B)->x.go (A++(7,[41])::B')=some (some a,(7,[41])::B')
 |fail,_,A,a,h=>by cases h
 |ret v,_,A,a,h=>by
  have h1:(some v,A++((8:Int),([]:List UInt8))::B)=(some a,(8,[])::B):=Option.some.inj h
  have h2:=congrArg (fun q=>q.2.length) h1
  have:A=[]:=by cases A with
   |nil=>rfl
   |cons a A=>simp at h2;omega
  subst this;cases h1;rfl
 |is s k,hn,[],a,h=>by
  have h':(k false).go ([]++(8,[])::B)=some (some a,(8,[])::B):=h
  by_cases hs:s=[41]
  ·have:=eats_go _ (hn.2 hs) _ _ _ h'
   simp at this
  ·have:=zIH B B' (k false) (hn.1 false) [] a h'
   show(k (isB (7,[41]) s)).go _=_
   rw[isB_close s hs];exact this
 |is s k,hn,t::A,a,h=>zIH B B' (k (isB t s)) (hn.1 _) (t::A) a h
 |kd n k,hn,[],a,h=>by
  have e8:eqI (8:Int) n=false:=by simp only[eqI,decide_eq_false_iff_not];exact fun hh=>hn.2.1 hh.symm
  have e7:eqI (7:Int) n=false:=by simp only[eqI,decide_eq_false_iff_not];exact fun hh=>hn.1 hh.symm
  have h':(k (eqI (8:Int) n)).go ([]++(8,[])::B)=some (some a,(8,[])::B):=h
  rw[e8] at h'
  have:=zIH B B' (k false) (hn.2.2 false) [] a h'
  show(k (eqI (7:Int) n)).go _=_
  rw[e7];exact this
 |kd n k,hn,t::A,a,h=>zIH B B' (k (eqI t.1 n)) (hn.2.2 _) (t::A) a h
 |nx k,hn,[],a,h=>by
  obtain⟨A,hA⟩:=go_drop (k []) B (some a) ((8,[])::B) h
  have:=congrArg List.length hA
  simp at this;omega
 |nx k,hn,t::A,a,h=>zIH B B' (k t.2) (hn _) A a h
inductive le:PT α->PT α->Prop where
 |out (y:PT α):le out y
 |fail:le fail fail
 |ret (a:α):le (ret a) (ret a)
 |is (s:List UInt8) {k k':Bool->PT α} (h: ∀b,le (k b) (k' b)):le (.is s k) (.is s k')
 |kd (n:Int) {k k':Bool->PT α} (h: ∀b,le (k b) (k' b)):le (.kd n k) (.kd n k')
 |nx {k k':List UInt8->PT α} (h: ∀t,le (k t) (k' t)):le (.nx k) (.nx k')
theorem le_refl: ∀x:PT α,le x x
 |.out=>.out _
 |.fail=>.fail
 |.ret a=>.ret a
 |.is s k=>.is s fun b=>le_refl (k b)
 |.kd n k=>.kd n fun b=>le_refl (k b)
 |.nx k=>.nx fun b=>le_refl (k b)
theorem le_bind{x y:PT α}{f g:α->PT β}(h:le x y)(hf: ∀a,le (f a) (g a)):le (x.bind f) (y.bind g):=by
 induction h with
 |out y=>exact .out _
 |fail=>exact .fail
 |ret a=>exact hf a
 |is s h ih=>exact .is s ih
 |kd n h ih=>exact .kd n ih
 |nx h ih=>exact .nx ih
theorem le_ofO{x y:Option α}(h: ∀a,x=some a->y=some a):le (ofO x) (ofO y):=by
 cases x with
 |none=>exact .out _
 |some a=>rw[h a rfl];exact le_refl _
theorem le_go{x y:PT α}(h:le x y): ∀(l:List Tk)(r:Option α×List Tk),x.go l=some r->y.go l=some r:=by
 induction h with
 |out y=>intro l r h;cases h
 |fail=>exact fun l r h=>h
 |ret a=>exact fun l r h=>h
 |is s h ih=>exact fun l r h=>match l,h with|t::l,h=>ih _ _ _ h
 |kd n h ih=>exact fun l r h=>match l,h with|t::l,h=>ih _ _ _ h
 |nx h ih=>exact fun l r h=>match l,h with|t::l,h=>ih _ _ _ h
def Fin:List Tk->Prop
 |[]=>False
 |[t]=>t=(8,[])
 |t::l=>t.1≠8∧t.2.length<=20000∧Fin l
def wp:PT α->Nat->(α->Nat->Prop)->Prop
 |out,_,_=>False
 |fail,_,_=>True
 |ret a,r,Q=>Q a r
 |is _ k,r,Q=>(k false).wp r Q∧(2<=r->(k true).wp r Q)
 |kd n k,r,Q=>(k false).wp r Q∧((n≠8->2<=r)->(k true).wp r Q)
 |nx k,r,Q=>2<=r∧∀t:List UInt8,t.length<=20000->(k t).wp (r-1) Q
theorem wp_mono{Q R:α->Nat->Prop}(h: ∀a r,Q a r->R a r): ∀(x:PT α)(r:Nat),x.wp r Q->x.wp r R
 |fail,r,_=>trivial
 |ret a,r,hx=>h a r hx
 |is s k,r,hx=>⟨wp_mono h _ r hx.1,fun g=>wp_mono h _ r (hx.2 g)⟩
 |kd n k,r,hx=>⟨wp_mono h _ r hx.1,fun g=>wp_mono h _ r (hx.2 g)⟩
 |nx k,r,hx=>⟨hx.1,fun t ht=>wp_mono h _ _ (hx.2 t ht)⟩
theorem zIn(f:α->PT β){Q:β->Nat->Prop}: ∀(x:PT α)(r:Nat),x.wp r (fun a r=>(f a).wp r Q)->(x.bind f).wp r Q
 |fail,r,_=>trivial
 |ret a,r,hx=>hx
 |is s k,r,hx=>⟨zIn f _ r hx.1,fun g=>zIn f _ r (hx.2 g)⟩
 |kd n k,r,hx=>⟨zIn f _ r hx.1,fun g=>zIn f _ r (hx.2 g)⟩
 |nx k,r,hx=>⟨hx.1,fun t ht=>zIn f _ _ (hx.2 t ht)⟩
theorem wp_bindQ{f:α->PT β}{Q:β->Nat->Prop}{R:α->Nat->Prop}{x:PT α}{r:Nat}(h:x.wp r R)(hf: ∀a r',R a r'->(f a).wp r' Q):(x.bind f).wp r Q:=
 zIn f x r (wp_mono hf x r h)
theorem Fin.cons_pos{t:Tk}{l:List Tk}(h:Fin (t::l))(ht:t.1≠8):2<=(t::l).length∧Fin l∧t.2.length<=20000:=by
 cases l with
 |nil=>cases h;exact absurd rfl ht
 |cons u l=>exact⟨by simp,h.2.2,h.2.1⟩
theorem Fin.cons_two{t:Tk}{l:List Tk}(h:Fin (t::l))(h2:2<=(t::l).length):Fin l∧t.2.length<=20000∧t.1≠8:=by
 cases l with
 |nil=>simp at h2
 |cons u l=>exact⟨h.2.2,h.2.1,h.1⟩
theorem wp_go{Q:α->Nat->Prop}: ∀(x:PT α)(l:List Tk),Fin l->x.wp l.length Q->∃o r,x.go l=some (o,r)∧Fin r∧∀a,o=some a->Q a r.length
 |out,l,hl,hx=>hx.elim
 |fail,l,hl,hx=>⟨none,l,rfl,hl,fun a h=>by cases h⟩
 |ret a,l,hl,hx=>⟨some a,l,rfl,hl,fun b h=>by cases h;exact hx⟩
 |is s k,[],hl,hx=>hl.elim
 |is s k,t::l,hl,hx=>by
  show∃o r,(k (isB t s)).go (t::l)=some (o,r)∧_
  cases hb:isB t s with
  |false=>exact wp_go (k false) (t::l) hl hx.1
  |true=>
   refine wp_go (k true) (t::l) hl (hx.2 (hl.cons_pos fun h8=>?_).1)
   simp[isB,eqI,h8] at hb
 |kd n k,[],hl,hx=>hl.elim
 |kd n k,t::l,hl,hx=>by
  show∃o r,(k (eqI t.1 n)).go (t::l)=some (o,r)∧_
  cases hb:eqI t.1 n with
  |false=>exact wp_go (k false) (t::l) hl hx.1
  |true=>
   refine wp_go (k true) (t::l) hl (hx.2 fun hn=>(hl.cons_pos fun h8=>?_).1)
   simp[eqI,h8] at hb;exact hn hb.symm
 |nx k,[],hl,hx=>hl.elim
 |nx k,t::l,hl,hx=>by
  obtain⟨h1,h2,h3⟩:=hl.cons_two hx.1
  have:=wp_go (k t.2) l h1 (by simpa using hx.2 t.2 h2)
  exact this
end PT
theorem chkA{n:Int}(h1: -9223372036854775808<=n)(h2:n<=9223372036854775807):chk .i64 n=some n:=by rw[chk,if_pos];exact⟨h1,h2⟩
def PT.run{α:Type}:PT α->zJr->Option (zJr ⊕ (α×zJr))
 |.out,_=>none
 |.fail,w=>some (.inl w)
 |.ret a,w=>some (.inr (a,w))
 |.is s k,w=>(idx w.l w.at_).bind fun t=>(k (isB (ktk t) s)).run w
 |.kd n k,w=>(idx w.l w.at_).bind fun t=>(k (eqI t.Kind n)).run w
 |.nx k,w=>(idx w.l w.at_).bind fun t=>(chk .i64 (w.at_+1)).bind fun a=>(k t.Text).run (zJr.mk w.l a)
namespace PT
variable {α β γ:Type}
def runK(f:α->PT β)(r:zJr ⊕ (α×zJr)):Option (zJr ⊕ (β×zJr)):=
 Sum.elim (fun e=>some (.inl e)) (fun v=>(f v.1).run v.2) r
theorem run_bind(f:α->PT β): ∀(x:PT α)(w:zJr),(x.bind f).run w=(x.run w).bind (runK f)
 |out,w=>rfl
 |fail,w=>rfl
 |ret a,w=>rfl
 |is s k,w=>by
  simp only[bind,run]
  cases idx w.l w.at_ with
  |none=>rfl
  |some t=>exact run_bind f _ w
 |kd n k,w=>by
  simp only[bind,run]
  cases idx w.l w.at_ with
  |none=>rfl
  |some t=>exact run_bind f _ w
 |nx k,w=>by
  simp only[bind,run]
  cases idx w.l w.at_ with
  |none=>rfl
  |some t=>
   show(Option.bind _ _)=_
   simp only[Option.bind_some]
   cases chk .i64 (w.at_+1) with
   |none=>rfl
   |some a=>exact run_bind f _ _
def back(l:List zJu)(r:Option α×List Tk):zJr ⊕ (α×zJr):=
 match r.1 with
 |none=>.inl (zJr.mk l ((l.length-r.2.length:Nat):Int))
 |some a=>.inr (a,zJr.mk l ((l.length-r.2.length:Nat):Int))
theorem run_go(l:List zJu)(hl:l.length<=1000000): ∀(x:PT α)(a:Nat),a<=l.length->x.run (zJr.mk l (a:Int))=(x.go ((l.drop a).map ktk)).map (back l)
 |out,a,ha=>rfl
 |fail,a,ha=>by
  simp only[run,go,Option.map_some,back,List.length_map,List.length_drop]
  rw[show l.length-(l.length-a)=a by omega]
 |ret v,a,ha=>by
  simp only[run,go,Option.map_some,back,List.length_map,List.length_drop]
  rw[show l.length-(l.length-a)=a by omega]
 |is s k,a,ha=>by
  have ih:=fun b=>run_go l hl (k b) a ha
  simp only[run]
  rw[show idx l (a:Int)=l[a]? by rw[idx,if_pos (by omega)];simp]
  rcases Nat.lt_or_ge a l.length with h|h
  ·have hd:l.drop a=l[a]::l.drop (a+1):=(List.drop_eq_getElem_cons h)
   rw[List.getElem?_eq_getElem h]
   show(k _).run _=_
   rw[ih,hd];rfl
  ·rw[List.getElem?_eq_none h,List.drop_eq_nil_of_le h];rfl
 |kd n k,a,ha=>by
  have ih:=fun b=>run_go l hl (k b) a ha
  simp only[run]
  rw[show idx l (a:Int)=l[a]? by rw[idx,if_pos (by omega)];simp]
  rcases Nat.lt_or_ge a l.length with h|h
  ·have hd:l.drop a=l[a]::l.drop (a+1):=(List.drop_eq_getElem_cons h)
   rw[List.getElem?_eq_getElem h]
   show(k _).run _=_
   rw[ih,hd];rfl
  ·rw[List.getElem?_eq_none h,List.drop_eq_nil_of_le h];rfl
 |nx k,a,ha=>by
  simp only[run]
  rw[show idx l (a:Int)=l[a]? by rw[idx,if_pos (by omega)];simp]
  rcases Nat.lt_or_ge a l.length with h|h
  ·have hd:l.drop a=l[a]::l.drop (a+1):=(List.drop_eq_getElem_cons h)
   rw[List.getElem?_eq_getElem h]
   have hc:chk .i64 ((a:Int)+1)=some ((a+1:Nat):Int):=chkA (by omega) (by omega)
   simp only[Option.bind_some,hc]
   rw[run_go l hl (k l[a].Text) (a+1) (by omega),hd];rfl
  ·rw[List.getElem?_eq_none h,List.drop_eq_nil_of_le h];rfl
end PT
end Go.Proofs.YtbnahfdbjaohkaaGreatDoor
namespace Go.Proofs.YtbnahfdbjaohkaaGreatDoor
open Go Go.Abs
abbrev Nms:=List (List UInt8)
abbrev leaf (op:Int):zJv:=zJv.mk op 0 [] [] []
def T.name(k:Int):PT (List UInt8):=.kd k fun b=>if !b then .fail else .nx .ret
def T.skip(s:List UInt8):PT Bool:=.is s fun b=>if !b then .ret false else .nx fun _=>.ret true
def T.want(s:List UInt8):PT Unit:=.is s fun b=>if !b then .fail else .nx fun _=>.ret ()
def T.path_l1(cap:Bool):Nat->Nms->PT ((Nms×Bool) ⊕ Nms)
 |0,_=>.out
 |k+1,l=>.kd 2 fun b=>if b then (T.name 2).bind fun t=>(PT.ofO (app 16 l [t])).bind fun l2=>
  (if cap then .is [46] fun c=>.ret (!c) else .ret false:PT Bool).bind fun c=>if c then .ret (.inl (l2,false)) else (T.want [46]).bind fun _=>T.path_l1 cap k l2
  else .ret (.inr l)
def T.path(fuel:Nat)(cap:Bool):PT (Nms×Bool):=
 (T.path_l1 cap fuel []).bind fun r=>Sum.elim (fun v=>.ret v) (fun l=>(T.name 1).bind fun t=>(PT.ofO (app 16 l [t])).bind fun l=>.ret (l,true)) r
def T.typePath(fuel:Nat)(args:List zJv):PT zJv:=(T.path fuel false).bind fun v=>.ret (zJv.mk 2 0 [] v.1 args)
def T.mods_l1:Nat->Nms->PT Nms
 |0,_=>.out
 |k+1,l=>(T.skip [46]).bind fun b=>if b then (T.name 2).bind fun t=>(PT.ofO (app 16 l [t])).bind fun l2=>T.mods_l1 k l2 else .ret l
def T.mods(fuel:Nat):PT Nms:=(T.name 2).bind fun t=>T.mods_l1 fuel [t]
def T.named:PT Bool:=.kd 2 fun b=>if b then .ret true else .kd 1 .ret
def T.sep(s:List UInt8)(F:PT zJv):Nat->List zJv->PT (List zJv)
 |0,_=>.out
 |k+1,l=>(T.skip s).bind fun b=>if b then F.bind fun v=>(PT.ofO (app 80 l [v])).bind fun l2=>T.sep s F k l2 else .ret l
def T.pfx_l1(fuel:Nat):Nat->zJv->PT zJv
 |0,_=>.out
 |k+1,t=>T.named.bind fun b=>if b then (T.typePath fuel [t]).bind fun u=>T.pfx_l1 fuel k u else .ret t
mutual
def T.simple:Nat->PT zJv
 |0=>.out
 |fuel+1=>.kd 3 fun b=>if b then (T.name 3).bind fun t=>.ret (zJv.mk 1 0 t [] [])
  else (T.skip [40]).bind fun b=>if !b then (T.typePath fuel []).bind .ret
  else (T.skip [109,111,100,117,108,101]).bind fun b=>if b then (T.mods fuel).bind fun l=>(T.want [41]).bind fun _=>.ret (zJv.mk 5 0 [] l [])
  else (T.typ fuel).bind fun t=>(T.sep [44] (T.typ fuel) fuel [t]).bind fun l=>(T.want [41]).bind fun _=>
   if eqI (l.length:Int) 1 then (PT.ofO l[0]?).bind .ret else (T.typePath fuel l).bind .ret
def T.pfx:Nat->PT zJv
 |0=>.out
 |fuel+1=>(T.simple fuel).bind fun t=>(T.pfx_l1 fuel fuel t).bind .ret
def T.product:Nat->PT zJv
 |0=>.out
 |fuel+1=>(T.pfx fuel).bind fun t=>(T.sep [42] (T.pfx fuel) fuel [t]).bind fun l=>
  if eqI (l.length:Int) 1 then (PT.ofO l[0]?).bind .ret else .ret (zJv.mk 4 0 [] [] l)
def T.typ:Nat->PT zJv
 |0=>.out
 |fuel+1=>(T.product fuel).bind fun t=>(T.skip [45,62]).bind fun b=>if b then (T.typ fuel).bind fun u=>.ret (zJv.mk 3 0 [] [] [t,u]) else .ret t
end
def T.number(fuel:Nat):PT Int:=(T.name 4).bind fun t=>(PT.ofO (zBN fuel t)).bind fun v=>.ret v.1
def T.anyOf:List (List UInt8)->PT Bool
 |[]=>.ret false
 |[s]=>.is s .ret
 |s::r=>.is s fun b=>if b then .ret true else T.anyOf r
mutual
def T.argument:Nat->PT zJv
 |0=>.out
 |fuel+1=>(T.skip [95]).bind fun b=>if b then .ret (leaf 11)
  else (T.skip [126]).bind fun b=>if b then (T.number fuel).bind fun n=>(PT.ofO (chk .i64 (-n))).bind fun m=>.ret (zJv.mk 13 m [] [] [])
  else .kd 4 fun b=>if b then (T.number fuel).bind fun n=>.ret (zJv.mk 13 n [] [] [])
  else .kd 1 fun b=>if b then (T.name 1).bind fun t=>.ret (zJv.mk 12 0 t [] [])
  else .kd 2 fun b=>if b then (T.mods fuel).bind fun l=>.ret (zJv.mk 14 0 [] l [])
  else (T.want [40]).bind fun _=>(T.skip [41]).bind fun b=>if b then .ret (leaf 15)
  else (T.pattern fuel).bind fun t=>(T.sep [44] (T.pattern fuel) fuel [t]).bind fun l=>(T.want [41]).bind fun _=>
   if eqI (l.length:Int) 1 then (PT.ofO l[0]?).bind .ret else .ret (zJv.mk 15 0 [] [] l)
def T.pattern:Nat->PT zJv
 |0=>.out
 |fuel+1=>.kd 2 fun b=>if !b then (T.argument fuel).bind .ret
  else (T.mods fuel).bind fun l=>(T.named.bind fun b=>if b then .ret true else .kd 4 fun b=>if b then .ret true else T.anyOf [[95],[126],[40]]).bind fun b=>
   if b then (T.argument fuel).bind fun t=>.ret (zJv.mk 14 0 [] l [t]) else .ret (zJv.mk 14 0 [] l [])
end
def T.begins:PT Bool:=.kd 4 fun b=>if b then .ret true else .kd 5 fun b=>if b then .ret true else .kd 1 fun b=>if b then .ret true else .kd 2 fun b=>if b then .ret true
 else T.anyOf [[40],[108,101,116],[99,97,115,101]]
def OPS:List (Int×List UInt8×Int):=[(1,[111,114,101,108,115,101],1),(2,[97,110,100,97,108,115,111],2),(3,[61],3),(3,[60],4),(3,[60,61],5),(4,[94],6),(5,[43],7),(5,[45],8),(6,[42],9),(6,[100,105,118],10),(6,[109,111,100],11)]
def T.ops(n:Int):List (Int×List UInt8×Int)->PT Int
 |[]=>.ret 0
 |q::r=>if eqI n q.1 then .is q.2.1 fun b=>if b then .ret q.2.2 else T.ops n r else T.ops n r
def T.choice_l1(fuel:Nat)(F:PT zJv):Nat->List zJv->PT zJv
 |0,_=>.out
 |k+1,L=>(T.pattern fuel).bind fun p=>(T.want [61,62]).bind fun _=>F.bind fun x=>(PT.ofO (app 80 [p] [x])).bind fun l=>(PT.ofO (app 80 L [zJv.mk 30 0 [] [] l])).bind fun L2=>
  (T.skip [124]).bind fun b=>if !b then (T.want [101,110,100]).bind fun _=>.ret (zJv.mk 29 0 [] [] L2) else T.choice_l1 fuel F k L2
def T.negation_l1(F:PT zJv):Nat->zJv->PT zJv
 |0,_=>.out
 |k+1,t=>T.begins.bind fun b=>if b then F.bind fun u=>T.negation_l1 F k (zJv.mk 26 0 [] [] [t,u]) else .ret t
def T.level_l1(F:Int->PT zJv)(n n2:Int):Nat->zJv->PT zJv
 |0,_=>.out
 |k+1,t=>(T.ops n OPS).bind fun o=>if eqI o 0 then .ret t else .nx fun _=>
  if eqI n 1 then (F n).bind fun u=>.ret (zJv.mk 32 o [] [] [t,u])
  else if eqI n 2 then (F n).bind fun u=>.ret (zJv.mk 32 o [] [] [t,u])
  else if eqI n 4 then (F n).bind fun u=>.ret (zJv.mk 32 o [] [] [t,u])
  else if eqI n 3 then (F (n+1)).bind fun u=>.ret (zJv.mk 32 o [] [] [t,u])
  else (F n2).bind fun u=>T.level_l1 F n n2 k (zJv.mk 32 o [] [] [t,u])
def T.decl_l1:Nat->Nms->PT Nms
 |0,_=>.out
 |k+1,l=>.kd 1 fun b=>if b then (T.name 1).bind fun t=>(PT.ofO (app 16 l [t])).bind fun l2=>T.decl_l1 k l2 else .ret l
def T.let_l1(F:PT zJv):Nat->List zJv->PT (List zJv)
 |0,_=>.out
 |k+1,l=>(T.skip [105,110]).bind fun b=>if !b then F.bind fun v=>(PT.ofO (app 80 l [v])).bind fun l2=>T.let_l1 F k l2 else .ret l
mutual
def T.inside:Nat->PT zJv
 |0=>.out
 |fuel+1=>(T.skip [41]).bind fun b=>if b then .ret (leaf 27)
  else (T.skip [112,97,99,107]).bind fun b=>if b then (T.mods fuel).bind fun l=>(T.want [58]).bind fun _=>(T.mods fuel).bind fun m=>(T.want [41]).bind fun _=>.ret (zJv.mk 34 0 [] l [zJv.mk 72 0 [] m []])
  else (T.expr fuel).bind fun t=>(T.skip [58]).bind fun b=>if b then (T.typ fuel).bind fun u=>(PT.ofO (app 80 [t] [u])).bind fun l=>(T.want [41]).bind fun _=>.ret (zJv.mk 33 0 [] [] l)
  else (T.sep [44] (T.expr fuel) fuel [t]).bind fun l=>(T.want [41]).bind fun _=>if eqI (l.length:Int) 1 then (PT.ofO l[0]?).bind .ret else .ret (zJv.mk 27 0 [] [] l)
def T.choice:Nat->PT zJv
 |0=>.out
 |fuel+1=>(T.expr fuel).bind fun t=>(T.want [111,102]).bind fun _=>T.choice_l1 fuel (T.expr fuel) fuel [t]
def T.negation:Nat->PT zJv
 |0=>.out
 |fuel+1=>(T.skip [126]).bind fun b=>if b then (T.negation fuel).bind fun t=>.ret (zJv.mk 32 12 [] [] [t])
  else (T.atom fuel).bind fun t=>(T.negation_l1 (T.atom fuel) fuel t).bind .ret
def T.level:Nat->Int->PT zJv
 |0,_=>.out
 |fuel+1,n=>if eqI n 7 then (T.negation fuel).bind .ret
  else (PT.ofO (chk .i64 (n+1))).bind fun m=>(T.level fuel m).bind fun t=>T.level_l1 (T.level fuel) n m fuel t
def T.expr:Nat->PT zJv
 |0=>.out
 |fuel+1=>(T.skip [102,110]).bind fun b=>if b then (T.skip [95]).bind fun b=>if !b then
  (T.name 1).bind fun s=>(T.want [61,62]).bind fun _=>(T.expr fuel).bind fun t=>.ret (zJv.mk 25 0 s [] [t])
  else (T.want [61,62]).bind fun _=>(T.expr fuel).bind fun t=>.ret (zJv.mk 25 0 [] [] [t])
  else (T.skip [105,102]).bind fun b=>if b then (T.expr fuel).bind fun t=>(T.want [116,104,101,110]).bind fun _=>(T.expr fuel).bind fun u=>(PT.ofO (app 80 [t] [u])).bind fun l=>
   (T.want [101,108,115,101]).bind fun _=>(T.expr fuel).bind fun v=>(PT.ofO (app 80 l [v])).bind fun l2=>.ret (zJv.mk 28 0 [] [] l2)
  else (T.level fuel 1).bind .ret
def T.decl:Nat->PT zJv
 |0=>.out
 |fuel+1=>(T.skip [118,97,108]).bind fun b=>if b then (T.name 1).bind fun s=>(T.want [61]).bind fun _=>(T.expr fuel).bind fun t=>.ret (zJv.mk 41 0 s [] [t])
  else (T.skip [102,117,110]).bind fun b=>if b then (T.name 1).bind fun s=>(T.name 1).bind fun x=>(T.decl_l1 fuel [x]).bind fun l=>(T.want [61]).bind fun _=>(T.expr fuel).bind fun t=>.ret (zJv.mk 42 0 s l [t])
  else (T.want [115,116,114,117,99,116,117,114,101]).bind fun _=>(T.name 2).bind fun s=>(T.want [61]).bind fun _=>(T.want [117,110,112,97,99,107]).bind fun _=>(T.atom fuel).bind fun t=>
   (T.want [58]).bind fun _=>(T.mods fuel).bind fun m=>(PT.ofO (app 80 [t] [zJv.mk 72 0 [] m []])).bind fun l=>.ret (zJv.mk 50 0 s [] l)
def T.let:Nat->PT zJv
 |0=>.out
 |fuel+1=>(T.let_l1 (T.decl fuel) fuel []).bind fun L=>(T.expr fuel).bind fun t=>(PT.ofO (app 80 L [t])).bind fun l=>(T.want [101,110,100]).bind fun _=>.ret (zJv.mk 31 0 [] [] l)
def T.atom:Nat->PT zJv
 |0=>.out
 |fuel+1=>.kd 4 fun b=>if b then (T.number fuel).bind fun n=>.ret (zJv.mk 21 n [] [] [])
  else .kd 5 fun b=>if b then (T.name 5).bind fun s=>.ret (zJv.mk 22 0 s [] [])
  else T.named.bind fun b=>if b then (T.path fuel true).bind fun v=>if v.2 then .ret (zJv.mk 23 0 [] v.1 []) else .ret (zJv.mk 24 0 [] v.1 [])
  else (T.skip [108,101,116]).bind fun b=>if b then (T.let fuel).bind .ret
  else (T.skip [99,97,115,101]).bind fun b=>if b then (T.choice fuel).bind .ret
  else (T.want [40]).bind fun _=>(T.inside fuel).bind .ret
end
section
variable {α β:Type}
abbrev St (α:Type):=Option (zJr ⊕ (α×zJr))
theorem run_then(x:PT α)(f:α->PT β)(w:zJr):(x.bind f).run w=(x.run w).bind fun v=>Sum.elim (fun e=>some (.inl e)) (fun v=>(f v.1).run v.2) v:=PT.run_bind f x w
theorem run_ite(c:Prop)[Decidable c](x y:PT α)(w:zJr):(if c then x else y).run w=if c then x.run w else y.run w:=by split<;>rfl
theorem zIP(c:Prop)[Decidable c](x y:PT α)(f:α->PT β):(if c then x else y).bind f=if c then x.bind f else y.bind f:=by split<;>rfl
theorem run_ret(a:α)(w:zJr):(PT.ret a).run w=some (.inr (a,w)):=rfl
theorem run_ofO(x:Option α)(f:α->PT β)(w:zJr):((PT.ofO x).bind f).run w=x.bind fun v=>(f v).run w:=by cases x<;>rfl
theorem run_kd(n:Int)(f:Bool->PT β)(w:zJr):(PT.kd n f).run w=(zAJ n w).bind fun b=>(f b).run w:=by
 simp only[PT.run,zAJ];cases idx w.l w.at_<;>rfl
theorem run_is(s:List UInt8)(f:Bool->PT β)(w:zJr):(PT.is s f).run w=(zAS s w).bind fun b=>(f b).run w:=by
 simp only[PT.run,zAS]
 cases idx w.l w.at_ with
 |none=>rfl
 |some t=>
  show(f (isB (ktk t) s)).run w=(f (if eqI t.Kind 6=true then eqS t.Text s else eqI t.Kind 7&&eqS t.Text s)).run w
  rw[show isB (ktk t) s=if eqI t.Kind 6=true then eqS t.Text s else eqI t.Kind 7&&eqS t.Text s from ?_]
  simp only[isB,ktk]
  cases eqI t.Kind 6<;>simp
theorem zJJ(s:List UInt8)(f:Bool->PT β)(w:zJr):((T.skip s).bind f).run w=(zAV s w).bind fun v=>(f v.1).run v.2:=by
 simp only[T.skip,PT.bind,run_is,zAV]
 cases h:zAS s w with
 |none=>rfl
 |some b=>
  cases b with
  |false=>rfl
  |true=>
   simp only[zAS] at h
   simp only[Option.bind_some,Bool.not_true,Bool.false_eq_true,if_false,PT.bind,PT.run]
   cases hi:idx w.l w.at_ with
   |none=>rw[hi] at h;cases h
   |some t=>
    simp only[Option.bind_some]
    cases chk .i64 (w.at_+1)<;>rfl
theorem run_want(s:List UInt8)(f:Unit->PT β)(w:zJr):((T.want s).bind f).run w=(zBo s w).bind fun v=>Sum.elim (fun e=>some (.inl e)) (fun v=>(f ()).run v) v:=by
 have h1:(T.want s).bind f=(T.skip s).bind fun b=>if !b then .fail else f ():=by
  simp only[T.want,T.skip,PT.bind]
  congr 1
  funext b
  cases b<;>rfl
 rw[h1,zJJ]
 simp only[zBo]
 cases zAV s w with
 |none=>rfl
 |some v=>
  obtain⟨b,w⟩:=v
  cases b<;>rfl
theorem zJK(k:Int)(f:List UInt8->PT β)(w:zJr):((T.name k).bind f).run w=(zAn k w).bind fun v=>Sum.elim (fun e=>some (.inl w)) (fun v=>(f v.1).run v.2) v:=by
 simp only[T.name,PT.bind,run_kd,zAn]
 cases h:zAJ k w with
 |none=>rfl
 |some b=>
  cases b with
  |false=>rfl
  |true=>
   simp only[Option.bind_some,Bool.not_true,Bool.false_eq_true,if_false,PT.bind,PT.run]
   simp only[zAJ] at h
   cases hi:idx w.l w.at_ with
   |none=>rw[hi] at h;cases h
   |some t=>
    simp only[Option.bind_some]
    cases hc:chk .i64 (w.at_+1) with
    |none=>rfl
    |some a=>
     have ha:a=w.at_+1:=by
      rw[chk] at hc;split at hc
      ·cases hc;rfl
      ·cases hc
     subst ha
     rw[idx] at hi
     split at hi
     ·rename_i h0
      have hl:((w.at_.toNat:Nat):Int)=w.at_:=Int.toNat_of_nonneg h0
      have hc2:chk .i64 (w.at_+1-1)=some w.at_:=by
       rw[chk] at hc ⊢
       split at hc
       ·rename_i hr
        rw[if_pos]
        ·congr 1;omega
        ·have:=hr.1;have:=hr.2
         exact⟨by show(-9223372036854775808:Int)<=_;omega,by have h3:w.at_+1<=(9223372036854775807:Int):=hr.2;show _<=(9223372036854775807:Int);omega⟩
       ·cases hc
      simp only[Option.bind_some,hc2]
      rw[show idx w.l w.at_=some t by rw[idx,if_pos h0];exact hi]
      rfl
     ·cases hi
theorem run_named(f:Bool->PT β)(w:zJr):(T.named.bind f).run w=(zBj w).bind fun v=>(f v).run w:=by
 simp only[T.named,PT.bind,zIP,run_kd,run_ite,zBj]
 cases zAJ 2 w with
 |none=>rfl
 |some b=>
  cases b with
  |true=>rfl
  |false=>cases h:zAJ 1 w<;>simp[h]
theorem run_anyOf_one(s:List UInt8)(f:Bool->PT β)(w:zJr):((T.anyOf [s]).bind f).run w=(zAS s w).bind fun b=>(f b).run w:=run_is s f w
theorem zJL(s s':List UInt8)(r:List (List UInt8))(f:Bool->PT β)(w:zJr):((T.anyOf (s::s'::r)).bind f).run w=(zAS s w).bind fun b=>if b then (f true).run w else ((T.anyOf (s'::r)).bind f).run w:=by
 show((PT.is s fun b=>if b then .ret true else T.anyOf (s'::r)).bind f).run w=_
 simp only[PT.bind,run_is]
 cases zAS s w with
 |none=>rfl
 |some b=>cases b<;>rfl
end
abbrev Cps (α:Type) (T:PT α) (X:zJr->St α):Prop:= ∀w,T.run w=X w
theorem Cps.then{α β:Type}{T:PT α}{X:zJr->St α}(h:Cps α T X)(f:α->PT β)(w:zJr):
 (T.bind f).run w=(X w).bind fun v=>Sum.elim (fun e=>some (.inl e)) (fun v=>(f v.1).run v.2) v:=by rw[run_then,h w]
def ML(s:List UInt8)(F:zJr->St zJv):Nat->(List zJu)->Int->(List zJv)->Option (((zJr) ⊕ (zJv×zJr)) ⊕ ((List zJv)×(List zJu)×Int))
 |0,_,_,_=>none
 |k+1,l,a,x=>
  (zAV s (zJr.mk l a)).bind fun v=>
  if v.1 then
   (F v.2).bind fun v52=>
   Sum.elim (fun e54=>
    some (.inl (.inl e54))) (fun v55=>
    (app 80 x [v55.1]).bind fun l56=>
    ML s F k v55.2.l v55.2.at_ l56) v52
  else
   some (.inr (x,v.2.l,v.2.at_))
theorem zJE(F:zJr->St zJv): ∀k l a x,zAx F k l a x=ML [44] F k l a x
 |0,_,_,_=>rfl
 |k+1,l,a,x=>by simp only[zAx,ML,zJE F k]
theorem sep_run(s:List UInt8){FT:PT zJv}{FM:zJr->St zJv}(hF:Cps _ FT FM)(f:List zJv->PT zJv): ∀k l a x,
 ((T.sep s FT k x).bind f).run (zJr.mk l a)=(ML s FM k l a x).bind fun o=>Sum.elim some (fun o=>(f o.1).run (zJr.mk o.2.1 o.2.2)) o
 |0,_,_,_=>rfl
 |k+1,l,a,x=>by
  simp only[T.sep,PT.bind_assoc,zIP,zJJ,run_ite,PT.bind,hF.then,run_ofO,ML]
  cases zAV s (zJr.mk l a) with
  |none=>rfl
  |some v=>
   obtain⟨b,w⟩:=v
   cases b with
   |false=>rfl
   |true=>
    simp only[Option.bind_some,if_true]
    cases FM w with
    |none=>rfl
    |some r=>
     cases r with
     |inl e=>rfl
     |inr v=>
      simp only[Option.bind_some,Sum.elim_inr]
      cases app 80 x [v.1] with
      |none=>rfl
      |some l2=>exact sep_run s hF f k v.2.l v.2.at_ l2
theorem zI1{β:Type}(E:Nms×zJr->St β)(f:Nms->PT β): ∀k l a x,
 ((T.mods_l1 k x).bind f).run (zJr.mk l a)=(zAf k l a x).bind fun o=>
  Sum.elim (Sum.elim (fun e=>some (.inl e)) E) (fun o=>(f o.1).run (zJr.mk o.2.1 o.2.2)) o
 |0,_,_,_=>rfl
 |k+1,l,a,x=>by
  simp only[T.mods_l1,PT.bind_assoc,zIP,zJJ,zJK,run_ite,PT.bind,run_ofO,zAf]
  cases zAV [46] (zJr.mk l a) with
  |none=>rfl
  |some v=>
   obtain⟨b,w⟩:=v
   cases b with
   |false=>rfl
   |true=>
    simp only[Option.bind_some,if_true]
    cases zAn 2 w with
    |none=>rfl
    |some r=>
     cases r with
     |inl e=>rfl
     |inr v=>
      simp only[Option.bind_some,Sum.elim_inr]
      cases app 16 x [v.1] with
      |none=>rfl
      |some l2=>exact zI1 E f k v.2.l v.2.at_ l2
theorem run_mods(fuel:Nat){β:Type}(f:Nms->PT β)(w:zJr):
 ((T.mods fuel).bind f).run w=(zBA fuel w).bind fun v=>Sum.elim (fun e=>some (.inl e)) (fun v=>(f v.1).run v.2) v:=by
 simp only[T.mods,PT.bind_assoc,zBA,zJK]
 cases zAn 2 w with
 |none=>rfl
 |some r=>
  cases r with
  |inl e=>rfl
  |inr v=>
   simp only[Option.bind_some,Sum.elim_inr]
   rw[show v.2=zJr.mk v.2.l v.2.at_ from rfl,zI1 (fun v=>(f v.1).run v.2)]
   cases zAf fuel v.2.l v.2.at_ [v.1] with
   |none=>rfl
   |some o=>
    cases o with
    |inl e=>cases e<;>rfl
    |inr o=>rfl
theorem run_number(fuel:Nat){β:Type}(f:Int->PT β)(w:zJr):
 ((T.number fuel).bind f).run w=(zBY fuel w).bind fun v=>Sum.elim (fun e=>some (.inl w)) (fun v=>(f v.1).run v.2) v:=by
 simp only[T.number,PT.bind_assoc,zBY,zJK,run_ofO,PT.bind]
 cases zAn 4 w with
 |none=>rfl
 |some r=>
  cases r with
  |inl e=>rfl
  |inr v=>
   simp only[Option.bind_some,Sum.elim_inr]
   cases zBN fuel v.1<;>rfl
theorem sep_w(s:List UInt8){FT:PT zJv}{FM:zJr->St zJv}(hF:Cps _ FT FM)(f:List zJv->PT zJv)(k:Nat)(x:List zJv)(w:zJr):
 ((T.sep s FT k x).bind f).run w=(ML s FM k w.l w.at_ x).bind fun o=>Sum.elim some (fun o=>(f o.1).run (zJr.mk o.2.1 o.2.2)) o:=sep_run s hF f k w.l w.at_ x
theorem pats_run: ∀fuel,Cps _ (T.argument fuel) (zA6 fuel)∧Cps _ (T.pattern fuel) (zAZ fuel)
 |0=>⟨fun _=>rfl,fun _=>rfl⟩
 |fuel+1=>by
  obtain⟨h1,h2⟩:=pats_run fuel
  have ss:=sep_w [44] h2
  refine⟨fun w=>?_,fun w=>?_⟩
  ·simp only[T.argument,zA6,zJE,run_kd,run_ite,zJK,run_ret,zJJ,run_number,run_mods,run_want,h2.then,ss,run_ofO]
  ·simp only[T.pattern,zAZ,run_kd,run_ite,h1.then,run_ret,run_mods,PT.bind_assoc,zIP,run_named,PT.bind,zJL,run_anyOf_one]
   congr 1;funext b
   split
   ·rfl
   ·congr 1;funext v
    cases v with
    |inl e=>rfl
    |inr v=>
     simp only[Sum.elim_inr]
     cases zBj v.2 with
     |none=>rfl
     |some b=>
      cases b with
      |true=>rfl
      |false=>
       simp only[Option.bind_some,Bool.false_eq_true,if_false]
       cases zAJ 4 v.2 with
       |none=>rfl
       |some b=>
        cases b with
        |true=>rfl
        |false=>
         simp only[Option.bind_some,Bool.false_eq_true,if_false]
         cases zAS [95] v.2 with
         |none=>rfl
         |some b=>
          cases b with
          |true=>rfl
          |false=>
           simp only[Option.bind_some,Bool.false_eq_true,if_false]
           cases zAS [126] v.2 with
           |none=>rfl
           |some b=>
            cases b with
            |true=>rfl
            |false=>
             simp only[Option.bind_some,Bool.false_eq_true,if_false]
             cases zAS [40] v.2<;>rfl
end Go.Proofs.YtbnahfdbjaohkaaGreatDoor
set_option linter.unusedVariables false
set_option linter.unusedSimpArgs false
set_option maxRecDepth 100000
namespace Go.Proofs.YtbnahfdbjaohkaaGreatDoor
open Go Go.Abs
theorem appA{α:Type}{b:Nat}{x y:List α}(h:0<b)(h2:(x.length+y.length)*b<=140737488355328):app b x y=some (x++y):=by rw[app,if_pos ⟨h,h2⟩]
theorem zFK(c:UInt8): ∃n,zCC c=some n∧(n=3->48<=c.toNat):=by
 unfold zCC
 simp only[leI,eqI,Bool.and_eq_true,decide_eq_true_eq]
 split
 ·exact⟨1,rfl,fun h=>by omega⟩
 ·split
  ·exact⟨2,rfl,fun h=>by omega⟩
  ·split
   ·exact⟨3,rfl,fun _=>by omega⟩
   ·split
    ·exact⟨4,rfl,fun h=>by omega⟩
    ·split
     ·exact⟨5,rfl,fun h=>by omega⟩
     ·exact⟨0,rfl,fun h=>by omega⟩
theorem zFR(s:List UInt8): ∀(n i k:Nat),i+n=s.length->n+1<=k->∃o,zAy s k i=some o∧(o=.inr ()∨o=.inl (0,3))∧(o=.inr ()->∀c,s[i]? =some c->48<=c.toNat)
 |0,i,k+1,h,hk=>by
  have h1:ltI (i:Int) (s.length:Int)=false:=by simp only[ltI,decide_eq_false_iff_not];omega
  refine⟨.inr (),?_,.inl rfl,fun _ c hc=>?_⟩
  ·rw[zAy,h1];rfl
  ·rw[List.getElem?_eq_none (by omega)] at hc;cases hc
 |n+1,i,k+1,h,hk=>by
  have h1:ltI (i:Int) (s.length:Int)=true:=by simp only[ltI,decide_eq_true_eq];omega
  have hi:i<s.length:=by omega
  rw[zAy,h1,if_pos rfl,List.getElem?_eq_getElem hi]
  obtain⟨m,hm,h3⟩:=zFK s[i]
  simp only[Option.bind_some,hm]
  cases he:eqI m 3 with
  |false=>exact⟨.inl (0,3),by simp,.inr rfl,fun h=>by cases h⟩
  |true=>
   obtain⟨o,ho,hoo,hc⟩:=zFR s n (i+1) k (by omega) (by omega)
   refine⟨o,by simpa using ho,hoo,fun _ c hc=>?_⟩
   cases hc
   simp only[eqI,decide_eq_true_eq] at he
   exact h3 he
theorem zJf(s:List UInt8)(hs:s.length<=20000){fuel:Nat}(hf:s.length+1<=fuel): ∃v,zBN fuel s=some v∧-4503599627370496<=-v.1∧-v.1<=0:=by
 simp only[zBN]
 have hb: ∃b,((if eqS s ([]:List UInt8) then some true else if ltI 1 (s.length:Int) then (s[0]?).bind fun c6=>some (eqI (c6.toNat:Int) 48) else some false:Option Bool))=some b∧(s=[]->b=true):=by
  by_cases h:s=[]
  ·exact⟨true,by simp[eqS,h],fun _=>rfl⟩
  ·rw[if_neg (by simp[eqS,h])]
   split
   ·rename_i h1
    simp only[ltI,decide_eq_true_eq] at h1
    rw[List.getElem?_eq_getElem (by omega)]
    exact⟨_,rfl,fun h'=>absurd h' h⟩
   ·exact⟨_,rfl,fun h'=>absurd h' h⟩
 obtain⟨b,hb,hb2⟩:=hb
 rw[hb]
 simp only[Option.bind_some]
 cases b with
 |true=>exact⟨(0,3),rfl,by decide,by decide⟩
 |false=>
  have hne:s≠[]:=fun h=>by cases hb2 h
  rw[show zHV s=some s by rw[zHV,if_pos (by omega)]]
  obtain⟨o,ho,hoo,hc⟩:=zFR s s.length 0 fuel (by omega) (by omega)
  simp only[Bool.false_eq_true,if_false,Option.bind_some,ho]
  rcases hoo with rfl|rfl
  ·have h48:=hc rfl
   simp only[Sum.elim_inr]
   have ha: ∃u b,zC3 s=some (u,b)∧0<=u:=by
    rw[zC3,if_pos (by omega)]
    cases s with
    |nil=>exact absurd rfl hne
    |cons c r=>
     have h48:=h48 c rfl
     unfold Lib.atoiAll Lib.atoiSat
     simp only
     split
     ·rename_i v hv
      refine⟨v,false,rfl,?_⟩
      split at hv
      ·cases hv
      ·cases hv
      ·split at hv
       ·cases hv
       ·split at hv
        ·cases hv
        ·cases hv
         rw[if_neg (by omega)];omega
     ·refine⟨_,true,rfl,?_⟩
      rw[if_neg (by simp;omega)];decide
     ·exact⟨0,true,rfl,by decide⟩
   obtain⟨u,b,hu,h0⟩:=ha
   simp only[hu,Option.bind_some]
   cases b with
   |true=>exact⟨(0,6),rfl,by decide,by decide⟩
   |false=>
    simp only[Bool.false_eq_true,if_false]
    split
    ·exact⟨(0,6),rfl,by decide,by decide⟩
    ·rename_i h
     simp only[ltI,decide_eq_true_eq] at h
     exact⟨(u,0),rfl,by show _<=-u;omega,by show -u<=0;omega⟩
  ·exact⟨(0,3),rfl,by decide,by decide⟩
theorem zGm(s:List UInt8): ∀(k i:Nat) o,zAy s k i=some o->zAy s (k+1) i=some o
 |0,i,o,h=>by cases h
 |k+1,i,o,h=>by
  rw[zAy] at h ⊢
  split
  ·rename_i h1
   rw[if_pos h1] at h
   cases hc:s[i]? with
   |none=>rw[hc] at h;cases h
   |some c=>
    rw[hc] at h
    obtain⟨m,hm,-⟩:=zFK c
    simp only[Option.bind_some,hm] at h ⊢
    split
    ·rename_i h2;rw[if_pos h2] at h;exact h
    ·rename_i h2;rw[if_neg h2] at h;exact zGm s k (i+1) o h
  ·rename_i h1
   rw[if_neg h1] at h;exact h
theorem Number_mono(s:List UInt8)(fuel:Nat): ∀v,zBN fuel s=some v->zBN (fuel+1) s=some v:=by
 intro v h
 simp only[zBN] at h ⊢
 generalize hB:((if eqS s ([]:List UInt8) then some true else if ltI 1 (s.length:Int) then (s[0]?).bind fun c6=>some (eqI (c6.toNat:Int) 48) else some false:Option Bool))=B at h ⊢
 cases B with
 |none=>cases h
 |some b=>
  simp only[Option.bind_some] at h ⊢
  cases b with
  |true=>exact h
  |false=>
   simp only[Bool.false_eq_true,if_false] at h ⊢
   cases hl:zHV s with
   |none=>rw[hl] at h;cases h
   |some l=>
    rw[hl] at h
    simp only[Option.bind_some] at h ⊢
    cases ho:zAy l fuel 0 with
    |none=>rw[ho] at h;cases h
    |some o=>rw[ho] at h;rw[zGm l fuel 0 o ho];exact h
namespace PT
variable {α β:Type}
theorem le_ite(c:Prop)[Decidable c]{x y x' y':PT α}(h:le x x')(h2:le y y'):le (if c then x else y) (if c then x' else y'):=by split<;>assumption
theorem le_elim{γ δ:Type}(r:γ ⊕ δ){f f':γ->PT α}{g g':δ->PT α}(h: ∀a,le (f a) (f' a))(h2: ∀a,le (g a) (g' a)):le (Sum.elim f g r) (Sum.elim f' g' r):=by cases r with
 |inl a=>exact h a
 |inr a=>exact h2 a
end PT
open PT in
theorem path_l1_le(cap:Bool): ∀k x,PT.le (T.path_l1 cap k x) (T.path_l1 cap (k+1) x)
 |0,x=>.out _
 |k+1,x=>by
  have ih:=path_l1_le cap k
  rw[T.path_l1,T.path_l1]
  repeat' first|exact ih _|exact le_refl _|apply le_bind|apply PT.le.kd|apply le_ite|intro _
theorem path_le(fuel:Nat)(cap:Bool):PT.le (T.path fuel cap) (T.path (fuel+1) cap):=
 PT.le_bind (path_l1_le cap fuel []) fun _=>PT.le_refl _
theorem zIr(fuel:Nat)(x:List zJv):PT.le (T.typePath fuel x) (T.typePath (fuel+1) x):=
 PT.le_bind (path_le fuel false) fun _=>PT.le_refl _
open PT in
theorem mods_l1_le: ∀k x,PT.le (T.mods_l1 k x) (T.mods_l1 (k+1) x)
 |0,x=>.out _
 |k+1,x=>by
  have ih:=mods_l1_le k
  rw[T.mods_l1,T.mods_l1]
  repeat' first|exact ih _|exact le_refl _|apply le_ite|apply le_bind|intro _
theorem mods_le(fuel:Nat):PT.le (T.mods fuel) (T.mods (fuel+1)):=
 PT.le_bind (PT.le_refl _) fun _=>mods_l1_le fuel _
theorem number_le(fuel:Nat):PT.le (T.number fuel) (T.number (fuel+1)):=
 PT.le_bind (PT.le_refl _) fun _=>PT.le_bind (PT.le_ofO (Number_mono _ fuel)) fun _=>PT.le_refl _
open PT in
theorem sep_le(s:List UInt8){F F':PT zJv}(hF:PT.le F F'): ∀k x,PT.le (T.sep s F k x) (T.sep s F' (k+1) x)
 |0,x=>.out _
 |k+1,x=>by
  have ih:=sep_le s hF k
  rw[T.sep,T.sep]
  repeat' first|exact ih _|exact hF|exact le_refl _|apply le_ite|apply le_bind|intro _
open PT in
theorem zHL(fuel:Nat): ∀k t,PT.le (T.pfx_l1 fuel k t) (T.pfx_l1 (fuel+1) (k+1) t)
 |0,x=>.out _
 |k+1,x=>by
  have ih:=zHL fuel k
  rw[T.pfx_l1,T.pfx_l1]
  repeat' first|exact ih _|exact zIr _ _|exact le_refl _|apply le_ite|apply le_bind|intro _
open PT in
theorem types_le: ∀fuel,PT.le (T.simple fuel) (T.simple (fuel+1))∧PT.le (T.pfx fuel) (T.pfx (fuel+1))∧PT.le (T.product fuel) (T.product (fuel+1))∧PT.le (T.typ fuel) (T.typ (fuel+1))
 |0=>⟨by rw[T.simple];exact .out _,by rw[T.pfx];exact .out _,by rw[T.product];exact .out _,by rw[T.typ];exact .out _⟩
 |fuel+1=>by
  obtain⟨h1,h2,h3,h4⟩:=types_le fuel
  refine⟨?_,?_,?_,?_⟩
  ·rw[T.simple,T.simple]
   repeat' first|exact h4|exact sep_le _ h4 _ _|exact zIr _ _|exact mods_le _|exact le_refl _|apply le_bind|apply PT.le.kd|apply le_ite|intro _
  ·rw[T.pfx,T.pfx]
   repeat' first|exact h1|exact zHL _ _ _|exact le_refl _|apply le_bind|intro _
  ·rw[T.product,T.product]
   repeat' first|exact h2|exact sep_le _ h2 _ _|exact le_refl _|apply le_ite|apply le_bind|intro _
  ·rw[T.typ,T.typ]
   repeat' first|exact h3|exact h4|exact le_refl _|apply le_ite|apply le_bind|intro _
open PT in
theorem pats_le: ∀fuel,PT.le (T.argument fuel) (T.argument (fuel+1))∧PT.le (T.pattern fuel) (T.pattern (fuel+1))
 |0=>⟨by rw[T.argument];exact .out _,by rw[T.pattern];exact .out _⟩
 |fuel+1=>by
  obtain⟨h1,h2⟩:=pats_le fuel
  refine⟨?_,?_⟩
  ·rw[T.argument,T.argument]
   repeat' first|exact h2|exact sep_le _ h2 _ _|exact number_le _|exact mods_le _|exact le_refl _|apply le_bind|apply PT.le.kd|apply le_ite|intro _
  ·rw[T.pattern,T.pattern]
   repeat' first|exact h1|exact mods_le _|exact le_refl _|apply le_bind|apply PT.le.kd|apply le_ite|intro _
open PT in
theorem zIL(fuel:Nat){F F':PT zJv}(hF:PT.le F F'): ∀k x,PT.le (T.choice_l1 fuel F k x) (T.choice_l1 (fuel+1) F' (k+1) x)
 |0,x=>.out _
 |k+1,x=>by
  have ih:=zIL fuel hF k
  rw[T.choice_l1,T.choice_l1]
  repeat' first|exact ih _|exact hF|exact(pats_le _).2|exact le_refl _|apply le_ite|apply le_bind|intro _
open PT in
theorem zGd{F F':PT zJv}(hF:PT.le F F'): ∀k x,PT.le (T.negation_l1 F k x) (T.negation_l1 F' (k+1) x)
 |0,x=>.out _
 |k+1,x=>by
  have ih:=zGd hF k
  rw[T.negation_l1,T.negation_l1]
  repeat' first|exact ih _|exact hF|exact le_refl _|apply le_ite|apply le_bind|intro _
open PT in
theorem zI5{F F':Int->PT zJv}(hF: ∀n,PT.le (F n) (F' n))(n n2:Int): ∀k x,PT.le (T.level_l1 F n n2 k x) (T.level_l1 F' n n2 (k+1) x)
 |0,x=>.out _
 |k+1,x=>by
  have ih:=zI5 hF n n2 k
  rw[T.level_l1,T.level_l1]
  repeat' first|exact ih _|exact hF _|exact le_refl _|apply le_bind|apply PT.le.nx|apply le_ite|intro _
open PT in
theorem decl_l1_le: ∀k x,PT.le (T.decl_l1 k x) (T.decl_l1 (k+1) x)
 |0,x=>.out _
 |k+1,x=>by
  have ih:=decl_l1_le k
  rw[T.decl_l1,T.decl_l1]
  repeat' first|exact ih _|exact le_refl _|apply le_bind|apply PT.le.kd|apply le_ite|intro _
open PT in
theorem let_l1_le{F F':PT zJv}(hF:PT.le F F'): ∀k x,PT.le (T.let_l1 F k x) (T.let_l1 F' (k+1) x)
 |0,x=>.out _
 |k+1,x=>by
  have ih:=let_l1_le hF k
  rw[T.let_l1,T.let_l1]
  repeat' first|exact ih _|exact hF|exact le_refl _|apply le_ite|apply le_bind|intro _
open PT in
theorem exprs_le: ∀fuel,PT.le (T.inside fuel) (T.inside (fuel+1))∧PT.le (T.choice fuel) (T.choice (fuel+1))∧PT.le (T.negation fuel) (T.negation (fuel+1))∧(∀n,PT.le (T.level fuel n) (T.level (fuel+1) n))∧
 PT.le (T.expr fuel) (T.expr (fuel+1))∧PT.le (T.decl fuel) (T.decl (fuel+1))∧PT.le (T.let fuel) (T.let (fuel+1))∧PT.le (T.atom fuel) (T.atom (fuel+1))
 |0=>⟨by rw[T.inside];exact .out _,by rw[T.choice];exact .out _,by rw[T.negation];exact .out _,fun n=>by rw[T.level];exact .out _,by rw[T.expr];exact .out _,by rw[T.decl];exact .out _,by rw[T.let];exact .out _,by rw[T.atom];exact .out _⟩
 |fuel+1=>by
  obtain⟨h1,h2,h3,h4,h5,h6,h7,h8⟩:=exprs_le fuel
  have ht:=(types_le fuel).2.2.2
  refine⟨?_,?_,?_,fun n=>?_,?_,?_,?_,?_⟩
  ·rw[T.inside,T.inside]
   repeat' first|exact h5|exact ht|exact sep_le _ h5 _ _|exact mods_le _|exact le_refl _|apply le_ite|apply le_bind|intro _
  ·rw[T.choice,T.choice]
   repeat' first|exact h5|exact zIL _ h5 _ _|exact le_refl _|apply le_ite|apply le_bind|intro _
  ·rw[T.negation,T.negation]
   repeat' first|exact h3|exact h8|exact zGd h8 _ _|exact le_refl _|apply le_ite|apply le_bind|intro _
  ·rw[T.level,T.level]
   repeat' first|exact h3|exact h4 _|exact zI5 h4 _ _ _ _|exact le_refl _|apply le_ite|apply le_bind|intro _
  ·rw[T.expr,T.expr]
   repeat' first|exact h5|exact h4 _|exact le_refl _|apply le_ite|apply le_bind|intro _
  ·rw[T.decl,T.decl]
   repeat' first|exact h5|exact h8|exact decl_l1_le _ _|exact mods_le _|exact le_refl _|apply le_ite|apply le_bind|intro _
  ·rw[T.let,T.let]
   repeat' first|exact h5|exact let_l1_le h6 _ _|exact le_refl _|apply le_ite|apply le_bind|intro _
  ·rw[T.atom,T.atom]
   repeat' first|exact h1|exact h2|exact h7|exact number_le _|exact path_le _ _|exact le_refl _|apply le_bind|apply PT.le.kd|apply le_ite|intro _
end Go.Proofs.YtbnahfdbjaohkaaGreatDoor
namespace Go.Proofs.YtbnahfdbjaohkaaGreatDoor
open Go Go.Abs
def Ev{α:Type}(f:Nat->Option α)(a:α):Prop:= ∃N,∀n,N<=n->f n=some a
def Cv{α:Type}(f:Nat->Option α):Prop:= ∃a,Ev f a
section
variable {α β:Type}
theorem Ev.const(a:α):Ev (fun _=>some a) a:=⟨0,fun _ _=>rfl⟩
theorem Ev.bind{f:Nat->Option α}{a:α}{g:Nat->α->Option β}{b:β}(h:Ev f a)(h2:Ev (fun n=>g n a) b):Ev (fun n=>(f n).bind (g n)) b:=by
 obtain⟨N,h⟩:=h;obtain⟨N2,h2⟩:=h2
 exact⟨max N N2,fun n hn=>by simp only[h n (by omega),Option.bind_some,h2 n (by omega)]⟩
theorem Ev.map{f:Nat->Option α}{a:α}(k:α->β)(h:Ev f a):Ev (fun n=>(f n).bind fun v=>some (k v)) (k a):=h.bind (.const (k a))
theorem Ev.unique{f:Nat->Option α}{a b:α}(h:Ev f a)(h2:Ev f b):a=b:=by
 obtain⟨N,h⟩:=h;obtain⟨N2,h2⟩:=h2
 exact zqa ((h (max N N2) (by omega)).symm.trans (h2 _ (by omega)))
theorem Ev.congr{f g:Nat->Option α}{a:α}(h:Ev f a)(e: ∀n,g n=f n):Ev g a:=by
 obtain⟨N,h⟩:=h;exact⟨N,fun n hn=>(e n).trans (h n hn)⟩
theorem Cv.const{a:α}:Cv (fun _=>some a):=⟨a,.const a⟩
theorem Cv.bind{f:Nat->Option α}{g:Nat->α->Option β}(h:Cv f)(h2: ∀a,Cv (fun n=>g n a)):Cv (fun n=>(f n).bind (g n)):=by
 obtain⟨a,h⟩:=h;obtain⟨b,h2⟩:=h2 a
 exact⟨b,h.bind h2⟩
theorem Cv.ite{c:Prop}[Decidable c]{f g:Nat->Option α}(h:c->Cv f)(h2: ¬c->Cv g):Cv (fun n=>if c then f n else g n):=by
 by_cases hc:c
 ·simp only[hc,if_true];exact h hc
 ·simp only[hc,if_false];exact h2 hc
theorem Cv.get{l:List α}{i:Nat}(hi:i<l.length){g:Nat->α->Option β}(h: ∀a∈l,Cv (fun n=>g n a)):Cv (fun n=>(l[i]?).bind (g n)):=by
 simp only[zq2 hi,Option.bind_some]
 exact h _ (List.getElem_mem hi)
theorem Cv.idx{l:List α}{j:Int}(h0:0<=j)(hj:j<l.length){g:Nat->α->Option β}(h: ∀a∈l,Cv (fun n=>g n a)):Cv (fun n=>(Go.Abs.idx l j).bind (g n)):=by
 rw[Go.Abs.idx,if_pos h0]
 exact Cv.get (by omega) h
theorem Cv.sub{l:List α}{a b:Int}(h0:0<=a)(h1:a<=b)(h2:b<=l.length){g:Nat->List α->Option β}(h:Cv (fun n=>g n (sub l a b))):Cv (fun n=>(subC l a b).bind (g n)):=by
 rw[subC,if_pos ⟨h0,h1,h2⟩];exact h
def val(f:Nat->Option Bool):Prop:=Ev f true
theorem Cv.bool{f:Nat->Option Bool}(h:Cv f):Ev f true∨Ev f false:=by
 obtain⟨a,h⟩:=h;cases a<;>simp[h]
def IX(p:Nat->α->Option Bool)(s:List α)(n:Nat):Nat->Nat->Option (Int ⊕ Unit)
 |0,_=>none
 |k+1,i=>if ltI ((i:Nat):Int) (s.length:Int) then (s[i]?).bind fun x=>(p n x).bind fun v=>if v then some (.inl ((i:Nat):Int)) else IX p s n k (i+1) else some (.inr ())
theorem uniform{p:Nat->α->Option Bool}{q:α->Bool}: ∀s:List α,(∀x∈s,Ev (fun n=>p n x) (q x))->∃N,∀n,N<=n->∀x∈s,p n x=some (q x)
 |[],_=>⟨0,fun _ _ x hx=>by cases hx⟩
 |a::s,h=>by
  obtain⟨N,h1⟩:=h a zq9
  obtain⟨N2,h2⟩:=uniform s fun x hx=>h x (zqc _ hx)
  refine⟨max N N2,fun n hn x hx=>?_⟩
  rcases List.mem_cons.1 hx with rfl|hx
  ·exact h1 n (by omega)
  ·exact h2 n (by omega) x hx
theorem IX_val{p:Nat->α->Option Bool}{q:α->Bool}{s:List α}{n:Nat}(h: ∀x∈s,p n x=some (q x)): ∀(m i k:Nat),i+m=s.length->m+1<=k->
 ((IX p s n k i).bind fun o=>Sum.elim some (fun _=>some (-1)) o).bind (fun v=>some (leI 0 v))=some ((s.drop i).any q)
 |0,i,k+1,hi,hk=>by
  have h1:ltI (i:Int) (s.length:Int)=false:=by simp only[ltI,decide_eq_false_iff_not];omega
  rw[IX,h1,List.drop_eq_nil_of_le (by omega)];rfl
 |m+1,i,k+1,hi,hk=>by
  have h1:ltI (i:Int) (s.length:Int)=true:=by simp only[ltI,decide_eq_true_eq];omega
  have hl:i<s.length:=by omega
  rw[IX,h1,if_pos rfl,zq2 hl,Option.bind_some,h _ (List.getElem_mem hl),List.drop_eq_getElem_cons hl,List.any_cons]
  cases q s[i] with
  |true=>
   show some (leI 0 (i:Int))=some (true||_)
   rw[Bool.true_or,show leI 0 (i:Int)=true from zqb (by omega)]
  |false=>
   rw[Bool.false_or]
   exact IX_val h m (i+1) k (by omega) (by omega)
theorem IX_ev{p:Nat->α->Option Bool}{q:α->Bool}{s:List α}(h: ∀x∈s,Ev (fun n=>p n x) (q x)):
 Ev (fun n=>((IX p s n n 0).bind fun o=>Sum.elim some (fun _=>some (-1)) o).bind (fun v=>some (leI 0 v))) (s.any q):=by
 obtain⟨N,h⟩:=uniform s h
 exact⟨max N (s.length+1),fun n hn=>(IX_val (h n (by omega)) s.length 0 n (by omega) (by omega)).trans (by rw[List.drop_zero])⟩
theorem any_cv{p:Nat->α->Option Bool}{s:List α}(h: ∀x∈s,Cv (fun n=>p n x)):
 Cv (fun n=>((IX p s n n 0).bind fun o=>Sum.elim some (fun _=>some (-1)) o).bind (fun v=>some (leI 0 v))):=by
 classical
 refine⟨_,IX_ev (q:=fun x=>decide (Ev (fun n=>p n x) true)) fun x hx=>?_⟩
 rcases(h x hx).bool with h1|h1
 ·rw[zqb h1];exact h1
 ·rw[decide_eq_false fun h2=>by cases h2.unique h1];exact h1
def AL(p:Nat->Nat->Option Bool)(len n:Nat):Nat->Nat->Option (Bool ⊕ Unit)
 |0,_=>none
 |k+1,i=>if ltI ((i:Nat):Int) (len:Int) then (p n i).bind fun v=>if v then some (.inl false) else AL p len n k (i+1) else some (.inr ())
theorem uniformN{p:Nat->Nat->Option Bool}{q:Nat->Bool}: ∀m,(∀i,i<m->Ev (fun n=>p n i) (q i))->∃N,∀n,N<=n->∀i,i<m->p n i=some (q i)
 |0,_=>⟨0,fun _ _ i hi=>by omega⟩
 |m+1,h=>by
  obtain⟨N,h1⟩:=h m (by omega)
  obtain⟨N2,h2⟩:=uniformN m fun i hi=>h i (by omega)
  refine⟨max N N2,fun n hn i hi=>?_⟩
  rcases Nat.lt_or_ge i m with hi2|hi2
  ·exact h2 n (by omega) i hi2
  ·have:i=m:=by omega
   subst this;exact h1 n (by omega)
theorem AL_val{p:Nat->Nat->Option Bool}{q:Nat->Bool}{len n:Nat}(h: ∀i,i<len->p n i=some (q i)): ∀(m i k:Nat),i+m=len->m+1<=k->
 AL p len n k i=some (if (List.range' i m).any q then .inl false else .inr ())
 |0,i,k+1,hi,hk=>by
  have h1:ltI (i:Int) (len:Int)=false:=by simp only[ltI,decide_eq_false_iff_not];omega
  rw[AL,h1];rfl
 |m+1,i,k+1,hi,hk=>by
  have h1:ltI (i:Int) (len:Int)=true:=by simp only[ltI,decide_eq_true_eq];omega
  rw[AL,h1,if_pos rfl,h i (by omega),List.range'_succ,List.any_cons]
  cases q i with
  |true=>rfl
  |false=>rw[Bool.false_or];exact AL_val h m (i+1) k (by omega) (by omega)
theorem AL_ev{p:Nat->Nat->Option Bool}{q:Nat->Bool}{len:Nat}(h: ∀i,i<len->Ev (fun n=>p n i) (q i)):
 Ev (fun n=>AL p len n n 0) (if (List.range' 0 len).any q then .inl false else .inr ()):=by
 obtain⟨N,h⟩:=uniformN len h
 exact⟨max N (len+1),fun n hn=>AL_val (h n (by omega)) len 0 n (by omega) (by omega)⟩
theorem AL_cv{p:Nat->Nat->Option Bool}{len:Nat}(h: ∀i,i<len->Cv (fun n=>p n i)):Cv (fun n=>AL p len n n 0):=by
 classical
 refine⟨_,AL_ev (q:=fun i=>decide (Ev (fun n=>p n i) true)) fun i hi=>?_⟩
 rcases(h i hi).bool with h1|h1
 ·rw[zqb h1];exact h1
 ·rw[decide_eq_false fun h2=>by cases h2.unique h1];exact h1
end
theorem of_cv(c:UInt8): ∃n,zCC c=some n:=by obtain⟨n,h,-⟩:=zFK c;exact⟨n,h⟩
theorem name_AL(l:List UInt8)(n:Nat): ∀k i,zBw l k i=AL (fun _ i=>(l[i]?).bind fun x=>(zCC x).bind fun v=>some ((eqI v 0)||(eqI v 5))) l.length n k i
 |0,_=>rfl
 |k+1,i=>by simp only[zBw,AL,Option.bind_assoc,Option.bind_some,name_AL l n k]
theorem zJd(s:List UInt8)(f:Int):Cv fun n=>zCk n s f:=by
 simp only[zCk]
 by_cases h24:s.length<=24
 ·refine Cv.bind ?_ fun b=>Cv.ite (fun _=>.const) fun _=>?_
  ·by_cases hs:s=[]
   ·subst hs;exact .const
   ·refine Cv.ite (fun _=>.const) fun _=>Cv.ite (fun _=>.const) fun _=>Cv.get (by cases s;exact absurd rfl hs;simp) fun c _=>?_
    obtain⟨m,hm⟩:=of_cv c
    simp only[hm,Option.bind_some];exact .const
  ·rw[show zHV s=some s by rw[zHV,if_pos (by omega)]]
   refine Cv.bind .const fun l=>Cv.bind ?_ fun o=>?_
   ·simp only[name_AL l 0]
    have: ∀k,AL (fun _ i=>(l[i]?).bind fun x=>(zCC x).bind fun v=>some ((eqI v 0)||(eqI v 5))) l.length 0 k 0=AL (fun _ i=>(l[i]?).bind fun x=>(zCC x).bind fun v=>some ((eqI v 0)||(eqI v 5))) l.length k k 0:=fun k=>by rw[<-name_AL,<-name_AL]
    simp only[this]
    refine AL_cv fun i hi=>Cv.get hi fun c _=>?_
    obtain⟨m,hm⟩:=of_cv c
    simp only[hm,Option.bind_some];exact .const
   ·cases o<;>exact .const
 ·have:(if eqS s ([]:List UInt8)=true then some true else if ltI 24 (s.length:Int)=true then some true else (s[0]?).bind fun c9=>(zCC c9).bind fun v11=>some (!eqI v11 f))=some true:=by
   split
   ·rfl
   ·rw[if_pos (show ltI 24 (s.length:Int)=true from zqb (by omega))]
  simp only[this,Option.bind_some,if_true]
  exact .const
theorem upper_cv(s:List UInt8):Cv fun n=>zA0 n s:=Cv.bind (zJd s 2) fun _=>.const
theorem ixs_eq(v:List UInt8)(s:Nms)(n:Nat): ∀k i,zAs s v k i=IX (fun _ x=>some (eqS v x)) s n k i
 |0,_=>rfl
 |k+1,i=>by simp only[zAs,IX,Option.bind_some,ixs_eq v s n k]
theorem zJB(s:Nms)(v:List UInt8):Cv fun n=>zAi n s v:=by
 have e: ∀n,zAi n s v=((IX (fun _ x=>some (eqS v x)) s n n 0).bind fun o=>Sum.elim some (fun _=>some (-1)) o).bind (fun v=>some (leI 0 v)):=fun n=>by
  simp only[zAi,zCX,ixs_eq v s n]
 simp only[e]
 exact any_cv fun x _=>.const
theorem fields_some: ∃l,zCi [97,110,100,97,108,115,111,32,99,97,115,101,32,100,97,116,97,32,100,105,118,32,101,108,115,101,32,101,110,100,32,102,110,32,102,117,110,32,102,117,110,99,116,111,114,32,103,101,110,101,114,97,116,105,118,101,32,105,102,32,105,109,112,111,114,116,32,105,110,32,105,110,99,108,117,100,101,32,108,101,116,32,109,111,100,32,109,111,100,117,108,101,32,111,102,32,111,112,101,110,32,111,114,101,108,115,101,32,112,97,99,107,32,115,104,97,114,105,110,103,32,115,105,103,32,115,105,103,110,97,116,117,114,101,32,115,116,114,117,99,116,32,115,116,114,117,99,116,117,114,101,32,116,104,101,110,32,116,121,112,101,32,117,110,112,97,99,107,32,118,97,108,32,119,105,116,104]=some l:=
 Option.isSome_iff_exists.1 (by decide +kernel)
theorem lower_cv(s:List UInt8):Cv fun n=>zAw n s:=by
 simp only[zAw]
 refine Cv.bind (Cv.bind (zJd s 1) fun b=>Cv.ite (fun _=>?_) fun _=>.const) fun _=>.const
 simp only[zEM]
 obtain⟨l,hl⟩:=fields_some
 rw[hl]
 exact Cv.bind (Cv.bind .const fun l=>Cv.bind (zJB l s) fun _=>.const) fun _=>.const
theorem hasPre(s t:List UInt8): ∃b,zBC s t=some b∧(b=true->t.length<=s.length):=by
 simp only[zBC]
 split
 ·rename_i h
  simp only[leI,decide_eq_true_eq] at h
  rw[subC,if_pos ⟨by omega,by omega,by omega⟩]
  exact⟨_,rfl,fun _=>by omega⟩
 ·exact⟨false,rfl,fun h=>by cases h⟩
theorem var_cv(s:List UInt8):Cv fun n=>zDM n s:=by
 simp only[zDM,zDE,zCn]
 obtain⟨b,hb,hl⟩:=hasPre s [39]
 rw[hb]
 refine Cv.bind ?_ fun v=>Cv.bind (Cv.ite (fun _=>Cv.ite (fun _=>Cv.bind (zJd _ 1) fun _=>.const) fun _=>.const) fun _=>.const) fun _=>.const
 refine Cv.bind ?_ fun _=>.const
 simp only[Option.bind_some]
 cases b with
 |false=>exact .const
 |true=>exact Cv.sub (by decide) (by have:=hl rfl;simp only[List.length_cons,List.length_nil] at *;omega) (by omega) .const
theorem path1_eq(s:Nms)(n:Nat): ∀k i,zAg n s k i=IX (fun n x=>zEO n x) s n k i
 |0,_=>rfl
 |k+1,i=>by simp only[zAg,IX,path1_eq s n k]
theorem path_cv(l:Nms)(b:Bool):Cv fun n=>zBB n l b:=by
 simp only[zBB]
 refine Cv.ite (fun _=>.const) fun h=>?_
 simp only[Bool.or_eq_true,ltI,decide_eq_true_eq,not_or] at h
 refine Cv.sub (by omega) (by omega) (by omega) (Cv.bind ?_ fun c=>Cv.ite (fun _=>.const) fun _=>Cv.ite (fun _=>Cv.idx (by omega) (by omega) fun x _=>Cv.bind (lower_cv x) fun _=>.const) fun _=>Cv.idx (by omega) (by omega) fun x _=>Cv.bind (upper_cv x) fun _=>.const)
 simp only[zBR,zBi,path1_eq]
 exact any_cv fun x _=>Cv.bind (upper_cv x) fun _=>.const
theorem plain_AL(s:List UInt8)(n:Nat): ∀k i,zB3 s k i=AL (fun _ i=>(s[i]?).bind fun c11=>if !(eqI (c11.toNat:Int) 10) then if ltI (c11.toNat:Int) 32 then some true else some (ltI 126 (c11.toNat:Int)) else some false) s.length n k i
 |0,_=>rfl
 |k+1,i=>by simp only[zB3,AL,plain_AL s n k]
theorem plain_cv(s:List UInt8):Cv fun n=>zD6 n s:=by
 simp only[zD6]
 have e: ∀n,zB3 s n 0=AL (fun _ i=>(s[i]?).bind fun c11=>if !(eqI (c11.toNat:Int) 10) then if ltI (c11.toNat:Int) 32 then some true else some (ltI 126 (c11.toNat:Int)) else some false) s.length n n 0:=fun n=>plain_AL s n n 0
 simp only[e]
 refine Cv.bind (AL_cv fun i hi=>Cv.get hi fun c _=>Cv.ite (fun _=>Cv.ite (fun _=>.const) fun _=>.const) fun _=>.const) fun o=>?_
 cases o<;>exact .const
theorem own1_eq(s:Nms)(n:Nat): ∀k i,zAh n s k i=IX (fun n x=>zEb n x) s n k i
 |0,_=>rfl
 |k+1,i=>by simp only[zAh,IX,own1_eq s n k]
theorem own1_cv(l:Nms):Cv fun n=>zA9 n l:=by
 simp only[zA9,zBn,own1_eq]
 exact any_cv fun x _=>Cv.bind (lower_cv x) fun _=>.const
theorem params_AL(l:Nms)(n:Nat): ∀k i,zCF n l k i=AL (fun n i=>(l[i]?).bind fun x11=>(zDM n x11).bind fun v13=>if !v13 then some true else (subC l 0 ((i:Nat):Int)).bind fun l18=>(zAi n l18 x11).bind fun v22=>some v22) l.length n k i
 |0,_=>rfl
 |k+1,i=>by simp only[zCF,AL,Option.bind_assoc,params_AL l n k]
theorem params_cv(l:Nms):Cv fun n=>zCe n l:=by
 simp only[zCe,params_AL]
 refine Cv.bind (AL_cv fun i hi=>Cv.get hi fun c _=>Cv.bind (var_cv c) fun b=>Cv.ite (fun _=>.const) fun _=>Cv.sub (by omega) (by omega) (by omega) (Cv.bind (zJB _ _) fun _=>.const)) fun o=>?_
 cases o<;>exact .const
theorem ex_ite{α:Type}{c:Prop}[Decidable c]{a b:Option α}(h: ∃u,a=some u)(h2: ∃u,b=some u): ∃u,(if c then a else b)=some u:=by split<;>assumption
theorem fields_op(op:Int): ∃u,zDY op=some u:=by
 unfold zDY
 repeat' first
  |exact⟨_,rfl⟩
  |apply ex_ite
theorem own_cv(t:zJv)(w:Bool):Cv fun n=>zBl n t w:=by
 simp only[zBl]
 obtain⟨u,hu⟩:=fields_op t.Op
 rw[hu]
 refine Cv.bind .const fun u=>Cv.ite (fun _=>.const) fun _=>?_
 repeat' first
  |exact .const
  |exact var_cv _
  |exact path_cv _ _
  |exact lower_cv _
  |exact upper_cv _
  |exact plain_cv _
  |exact params_cv _
  |exact own1_cv _
  |refine Cv.ite (fun _=>?_) fun _=>?_
  |refine Cv.bind ?_ fun _=>?_
theorem cat_some(op:Int): ∃c,zC6 op=some c:=by
 unfold zC6
 repeat' first
  |exact⟨_,rfl⟩
  |apply ex_ite
def bl(cat:Int)(t:zJv):Bool:=(zA3 cat t).getD false
theorem bl_eq(cat:Int)(t:zJv):zA3 cat t=some (bl cat t):=by
 have: ∃b,zA3 cat t=some b:=by
  unfold zA3
  obtain⟨c,hc⟩:=cat_some t.Op
  rw[hc]
  split
  ·exact⟨_,rfl⟩
  ·split<;>exact⟨_,rfl⟩
 obtain⟨b,h⟩:=this
 simp only[bl,h,Option.getD_some]
theorem many1_eq(s:List zJv)(c:Int)(n:Nat): ∀k i,zAd s c k i=IX (fun _ x=>some (!bl c x)) s n k i
 |0,_=>rfl
 |k+1,i=>by simp only[zAd,zEP,bl_eq,IX,Option.bind_some,many1_eq s c n k]
theorem many_any(l:List zJv)(c:Int):Ev (fun n=>zAq n l c) (l.any fun x=> !bl c x):=by
 have e: ∀n,zAq n l c=((IX (fun _ x=>some (!bl c x)) l n n 0).bind fun o=>Sum.elim some (fun _=>some (-1)) o).bind (fun v=>some (leI 0 v)):=fun n=>by
  simp only[zAq,zBa,many1_eq l c n]
 exact(IX_ev (fun x _=>Ev.const _)).congr e
theorem many_ev(l:List zJv)(c a b:Int):Ev (fun n=>zBc n l c a b) (leI a (l.length:Int)&&(leI (l.length:Int) b&&l.all fun x=>bl c x)):=by
 simp only[zBc]
 cases h1:leI a (l.length:Int) with
 |false=>exact Ev.const _
 |true=>
  cases h2:leI (l.length:Int) b with
  |false=>exact Ev.const _
  |true=>
   have:(l.all fun x=>bl c x)= !(l.any fun x=> !bl c x):=by simp[List.all_eq_not_any_not]
   simp only[if_true,Bool.true_and,this]
   exact Ev.map (fun v=>v) (Ev.map (fun v=> !v) (many_any l c))
theorem parts_AL(t:zJv)(cs:List Int)(n:Nat): ∀k i,zB4 t cs k i=AL (fun _ i=>(cs[i]?).bind fun x=>(t.L[i]?).bind fun y=>some (!bl x y)) cs.length n k i
 |0,_=>rfl
 |k+1,i=>by simp only[zB4,bl_eq,AL,Option.bind_assoc,Option.bind_some,parts_AL t cs n k]
theorem parts_ev(t:zJv)(cs:List Int)(h:t.L.length=cs.length):Ev (fun n=>zAR n t cs) (!((List.range' 0 cs.length).any fun i=> !bl (cs.getD i 0) (t.L.getD i (zJv.mk 0 0 [] [] [])))):=by
 have h1:(eqI (t.L.length:Int) (cs.length:Int))=true:=zqb (by omega)
 simp only[zAR,h1,Bool.not_true,Bool.false_eq_true,if_false]
 have e: ∀n,zB4 t cs n 0=AL (fun _ i=>(cs[i]?).bind fun x=>(t.L[i]?).bind fun y=>some (!bl x y)) cs.length n n 0:=fun n=>parts_AL t cs n n 0
 simp only[e]
 refine Ev.bind (AL_ev (q:=fun i=> !bl (cs.getD i 0) (t.L.getD i (zJv.mk 0 0 [] [] []))) fun i hi=>?_) ?_
 ·have:(cs[i]?).bind (fun x=>(t.L[i]?).bind fun y=>some (!bl x y))=some (!bl (cs.getD i 0) (t.L.getD i (zJv.mk 0 0 [] [] []))):=by
   rw[zq2 hi,zq2 (by omega:i<t.L.length)]
   simp[zq5,hi,(by omega:i<t.L.length)]
  rw[this];exact Ev.const _
 ·cases(List.range' 0 cs.length).any fun i=> !bl (cs.getD i 0) (t.L.getD i (zJv.mk 0 0 [] [] []))<;>exact Ev.const _
theorem parts_no(t:zJv)(cs:List Int)(h:t.L.length≠cs.length):Ev (fun n=>zAR n t cs) false:=by
 have h1:(eqI (t.L.length:Int) (cs.length:Int))=false:=decide_eq_false (by omega)
 simp only[zAR,h1,Bool.not_false,if_true]
 exact Ev.const _
theorem parts_cv(t:zJv)(cs:List Int):Cv fun n=>zAR n t cs:=by
 by_cases h:t.L.length=cs.length
 ·exact⟨_,parts_ev t cs h⟩
 ·exact⟨_,parts_no t cs h⟩
theorem idxint_eq(s:List Int)(v:Int)(n:Nat): ∀k i,zBm s v k i=IX (fun _ x=>some (eqI v x)) s n k i
 |0,_=>rfl
 |k+1,i=>by simp only[zBm,IX,Option.bind_some,idxint_eq s v n k]
theorem contInt_ev(s:List Int)(v:Int):Ev (fun n=>zB2 n s v) (s.any fun x=>eqI v x):=by
 have e: ∀n,zB2 n s v=((IX (fun _ x=>some (eqI v x)) s n n 0).bind fun o=>Sum.elim some (fun _=>some (-1)) o).bind (fun v=>some (leI 0 v)):=fun n=>by
  simp only[zB2,zDP,idxint_eq s v n]
 exact(IX_ev (fun x _=>Ev.const _)).congr e
theorem only1_eq(s:List zJv)(c:List Int)(n:Nat): ∀k i,zAc n s c k i=IX (fun n x=>zDX n x c) s n k i
 |0,_=>rfl
 |k+1,i=>by simp only[zAc,IX,only1_eq s c n k]
theorem only_ev(l:List zJv)(c:List Int):Ev (fun n=>zBv n l c) (!(l.any fun x=> !(c.any fun o=>eqI x.Op o))):=by
 simp only[zBv]
 refine Ev.map (fun v=> !v) ?_
 have e: ∀n,zA4 n l c=((IX (fun n x=>zDX n x c) l n n 0).bind fun o=>Sum.elim some (fun _=>some (-1)) o).bind (fun v=>some (leI 0 v)):=fun n=>by
  simp only[zA4,zBZ,only1_eq l c n]
 exact(IX_ev (q:=fun x=> !(c.any fun o=>eqI x.Op o)) (fun x _=>Ev.map (fun v=> !v) (contInt_ev c x.Op))).congr e
theorem diff1_eq(s:List zJv)(w:zJv)(n:Nat): ∀k i,zAX s w k i=IX (fun _ x=>some (eqS w.S x.S)) s n k i
 |0,_=>rfl
 |k+1,i=>by simp only[zAX,zDf,IX,Option.bind_some,diff1_eq s w n k]
theorem diff1_cv(l:List zJv)(w:zJv):Cv fun n=>zAY n l w:=by
 have e: ∀n,zAY n l w=((IX (fun _ x=>some (eqS w.S x.S)) l n n 0).bind fun o=>Sum.elim some (fun _=>some (-1)) o).bind (fun v=>some (leI 0 v)):=fun n=>by
  simp only[zAY,zBQ,diff1_eq l w n]
 simp only[e]
 exact any_cv fun x _=>.const
theorem differ_AL(l:List zJv)(n:Nat): ∀k i,zCG n l k i=AL (fun n i=>(l[i]?).bind fun x=>(subC l 0 ((i:Nat):Int)).bind fun l13=>zAY n l13 x) l.length n k i
 |0,_=>rfl
 |k+1,i=>by simp only[zCG,AL,Option.bind_assoc,differ_AL l n k]
theorem differ_cv(l:List zJv):Cv fun n=>zDZ n l:=by
 simp only[zDZ,differ_AL]
 refine Cv.bind (AL_cv fun i hi=>Cv.get hi fun c _=>Cv.sub (by omega) (by omega) (by omega) (diff1_cv _ _)) fun o=>?_
 cases o<;>exact .const
theorem many_cv(l:List zJv)(c a b:Int):Cv fun n=>zBc n l c a b:=⟨_,many_ev l c a b⟩
theorem only_cv(l:List zJv)(c:List Int):Cv fun n=>zBv n l c:=⟨_,only_ev l c⟩
theorem shape_cv(t:zJv):Cv fun n=>zB0 n t:=by
 simp only[zB0,bl_eq]
 repeat' first
  |with_reducible exact .const
  |with_reducible exact parts_cv _ _
  |with_reducible exact many_cv _ _ _ _
  |with_reducible exact only_cv _ _
  |with_reducible exact differ_cv _
  |with_reducible refine Cv.ite (fun _=>?_) fun _=>?_
  |(with_reducible refine Cv.get ?_ fun _ _=>?_;(simp only[leI,eqI,decide_eq_true_eq] at *;omega))
  |(with_reducible refine Cv.idx ?_ ?_ fun _ _=>?_;(simp only[leI,eqI,decide_eq_true_eq] at *;omega);omega)
  |(with_reducible refine Cv.sub ?_ ?_ ?_ ?_;(simp only[leI,eqI,decide_eq_true_eq] at *;omega);(simp only[leI,eqI,decide_eq_true_eq] at *;omega);omega)
  |with_reducible refine Cv.bind ?_ fun _=>?_
inductive WF:zJv->Bool->Prop where
 |mk {t:zJv} {w:Bool} (ho:Ev (fun n=>zBl n t w) true) (hs:Ev (fun n=>zB0 n t) true) (h: ∀x∈t.L,WF x (eqI t.Op 74)):WF t w
mutual
def szT:zJv->Nat
 |⟨_,_,_,_,l⟩=>1+szL l
def szL:List zJv->Nat
 |[]=>0
 |x::l=>szT x+szL l
end
mutual
def dpT:zJv->Nat
 |⟨_,_,_,_,l⟩=>1+dpL l
def dpL:List zJv->Nat
 |[]=>0
 |x::l=>max (dpT x) (dpL l)
end
def FSt(t:zJv):Prop:= ∀(d:Int)(w:Bool)(c:Nat),0<=d->d<=401->c<=20000->∃b c',Ev (fun n=>zBG n t d w (c:Int)) (b,c')∧
 ((b=true∧WF t w∧c'=((c+szT t:Nat):Int)∧c+szT t<=20000∧d+dpT t<=401)∨(b=false∧¬(WF t w∧c+szT t<=20000∧d+dpT t<=401)))
def FL(l:List zJv):Prop:= ∀(s:List zJv)(i:Nat),s.drop i=l->∀(d:Int)(p:zJv)(c:Nat),0<=d->d<=400->c<=20000->
 ∃r N,(∀n k,N<=n->N<=k->zAK (zBW n) s d p k (c:Int) i=some r)∧
  ((r=.inr ((c+szL l:Nat):Int)∧c+szL l<=20000∧d+1+dpL l<=401∧∀x∈l,WF x (eqI p.Op 74))∨
   ((∃(j:Nat) (c':Int),r=.inl ((j:Int),c'))∧¬(c+szL l<=20000∧d+1+dpL l<=401∧∀x∈l,WF x (eqI p.Op 74))))
theorem FL_nil:FL []:=fun s i hs d p c h1 h2 h3=>by
 refine⟨.inr ((c+szL []:Nat):Int),1,fun n k hn hk=>?_,.inl ⟨rfl,by simp only[szL];omega,by simp only[dpL];omega,fun x hx=>by cases hx⟩⟩
 obtain⟨k,rfl⟩: ∃k',k=k'+1:=⟨k-1,by omega⟩
 have hl:s.length<=i:=List.drop_eq_nil_iff.1 hs
 have h1:ltI (i:Int) (s.length:Int)=false:=by simp only[ltI,decide_eq_false_iff_not];omega
 rw[zAK,h1];rfl
theorem FL_cons{x:zJv}{l:List zJv}(hx:FSt x)(hl:FL l):FL (x::l):=fun s i hs d p c h1 h2 h3=>by
 have hi:i<s.length:=by
  rcases Nat.lt_or_ge i s.length with h|h
  ·exact h
  ·rw[List.drop_eq_nil_of_le h] at hs;cases hs
 have hs':=List.drop_eq_getElem_cons hi
 rw[hs] at hs'
 obtain⟨hx1,hl1⟩:=List.cons.inj hs'
 have hlt:ltI (i:Int) (s.length:Int)=true:=by simp only[ltI,decide_eq_true_eq];omega
 obtain⟨b,c',⟨N,hev⟩,hb⟩:=hx (d+1) (eqI p.Op 74) c (by omega) (by omega) h3
 have hc:chk .i64 (d+1)=some (d+1):=chkA (by omega) (by omega)
 have step: ∀n k,N+1<=n->zAK (zBW n) s d p (k+1) (c:Int) i=if !b then some (.inl ((i:Int),c')) else zAK (zBW n) s d p k c' (i+1):=fun n k hn=>by
  obtain⟨m,rfl⟩: ∃m,n=m+1:=⟨n-1,by omega⟩
  rw[zAK,hlt,if_pos rfl,zq2 hi,<-hx1]
  simp only[Option.bind_some]
  rw[zBW]
  simp only[hc,Option.bind_some,hev m (by omega)]
 rcases hb with ⟨rfl,hw,rfl,hsz,hdp⟩|⟨rfl,hno⟩
 ·obtain⟨r,N2,hr,ho⟩:=hl s (i+1) hl1.symm d p (c+szT x) h1 h2 hsz
  refine⟨r,max (N+1) (N2+1),fun n k hn hk=>?_,?_⟩
  ·obtain⟨k,rfl⟩: ∃k',k=k'+1:=⟨k-1,by omega⟩
   rw[step n k (by omega)]
   exact hr n k (by omega) (by omega)
  ·simp only[szL,dpL]
   rcases ho with ⟨rfl,a1,a2,a3⟩|⟨a1,a2⟩
   ·refine .inl ⟨by rw[Nat.add_assoc],by omega,by omega,fun y hy=>?_⟩
    rcases List.mem_cons.1 hy with rfl|hy
    ·exact hw
    ·exact a3 y hy
   ·exact .inr ⟨a1,fun g=>a2 ⟨by have:=g.1;omega,by have:=g.2.1;omega,fun y hy=>g.2.2 y (zqc _ hy)⟩⟩
 ·refine⟨.inl ((i:Int),c'),N+1,fun n k hn hk=>?_,.inr ⟨⟨i,c',rfl⟩,fun g=>hno ⟨g.2.2 x zq9,?_,?_⟩⟩⟩
  ·obtain⟨k,rfl⟩: ∃k',k=k'+1:=⟨k-1,by omega⟩
   rw[step n k (by omega)];rfl
  ·have:=g.1;simp only[szL] at this;omega
  ·have:=g.2.1;simp only[dpL] at this;omega
theorem FS_mk(t:zJv)(hl:FL t.L):FSt t:=fun d w c h1 h2 h3=>by
 have hsz:szT t=1+szL t.L:=by cases t;rfl
 have hdp:dpT t=1+dpL t.L:=by cases t;rfl
 have hc:chk .i64 ((c:Int)+1)=some ((c+1:Nat):Int):=chkA (by omega) (by omega)
 have no: ∀(h:Ev (fun n=>(if ltI 20000 ((c+1:Nat):Int) then some true else if ltI 400 d then some true else (zBl n t w).bind fun v16=>if !v16 then some true else (zB0 n t).bind fun v21=>some (!v21):Option Bool)) true),
  Ev (fun n=>zBG n t d w (c:Int)) (false,((c+1:Nat):Int)):=fun⟨N,h⟩=>⟨N+1,fun n hn=>by
  obtain⟨m,rfl⟩: ∃m,n=m+1:=⟨n-1,by omega⟩
  have:=h m (by omega)
  simp only at this
  show zBG (m+1) t d w (c:Int)=_
  rw[zBG,hc]
  simp only[Option.bind_some]
  rw[this];rfl⟩
 by_cases g1:20000<c+1
 ·refine⟨false,_,no ?_,.inr ⟨rfl,fun g=>by have:=g.2.1;omega⟩⟩
  rw[show ltI 20000 ((c+1:Nat):Int)=true from zqb (by omega)];exact Ev.const _
 have e1:ltI 20000 ((c+1:Nat):Int)=false:=decide_eq_false (by omega)
 by_cases g2:400<d
 ·refine⟨false,_,no ?_,.inr ⟨rfl,fun g=>by have:=g.2.2;omega⟩⟩
  rw[e1,show ltI 400 d=true from zqb (by omega)];exact Ev.const _
 have e2:ltI 400 d=false:=decide_eq_false (by omega)
 simp only[e1,e2,Bool.false_eq_true,if_false] at no
 rcases(own_cv t w).bool with ho|ho
 case inr=>exact⟨false,_,no (ho.bind (Ev.const _)),.inr ⟨rfl,fun g=>by
  cases g.1 with
  |mk a _ _=>cases a.unique ho⟩⟩
 rcases(shape_cv t).bool with hs|hs
 case inr=>exact⟨false,_,no (ho.bind (hs.bind (Ev.const _))),.inr ⟨rfl,fun g=>by
  cases g.1 with
  |mk _ a _=>cases a.unique hs⟩⟩
 obtain⟨r,N,hr,hout⟩:=hl t.L 0 (List.drop_zero) d t (c+1) h1 (by omega) (by omega)
 obtain⟨No,ho'⟩:=ho
 obtain⟨Ns,hs'⟩:=hs
 have main: ∀n,N+No+Ns+10<=n->zBG n t d w (c:Int)=((Sum.elim some (fun o7=>some ((-1:Int),o7)) r:Option (Int×Int)).bind fun v5=>some (leI 0 v5.1,v5.2)).bind fun v26=>some (!v26.1,v26.2):=fun n hn=>by
  obtain⟨m,rfl⟩: ∃m,n=m+3:=⟨n-3,by omega⟩
  rw[zBG,hc]
  simp only[Option.bind_some,e1,e2,Bool.false_eq_true,if_false]
  rw[show zBl (m+2) t w=some true from ho' (m+2) (by omega)]
  simp only[Option.bind_some,Bool.not_true,Bool.false_eq_true,if_false]
  rw[show zB0 (m+2) t=some true from hs' (m+2) (by omega)]
  simp only[Option.bind_some,Bool.not_true,Bool.false_eq_true,if_false]
  rw[zAu,zAz,hr m m (by omega) (by omega)]
  rfl
 rcases hout with ⟨rfl,a1,a2,a3⟩|⟨⟨j,c',rfl⟩,a2⟩
 ·refine⟨true,((c+1+szL t.L:Nat):Int),⟨_,fun n hn=>(main n hn).trans rfl⟩,.inl ⟨rfl,.mk ⟨No,ho'⟩ ⟨Ns,hs'⟩ a3,by rw[hsz,Nat.add_assoc],by omega,by omega⟩⟩
 ·refine⟨false,c',⟨_,fun n hn=>(main n hn).trans ?_⟩,.inr ⟨rfl,fun g=>a2 ⟨by have:=g.2.1;omega,by have:=g.2.2;omega,?_⟩⟩⟩
  ·simp only[Sum.elim_inl,Option.bind_some]
   rw[show leI 0 (j:Int)=true from zqb (by omega)];rfl
  ·cases g.1 with
   |mk _ _ h=>exact h
mutual
theorem FS_all: ∀t,FSt t
 |⟨a,b,c,d,l⟩=>FS_mk ⟨a,b,c,d,l⟩ (FL_all l)
theorem FL_all: ∀l,FL l
 |[]=>FL_nil
 |x::l=>FL_cons (FS_all x) (FL_all l)
end
theorem Valid_ev(cat:Int)(t:zJv): ∃b,Ev (fun n=>zCL n cat t) b∧(b=true↔bl cat t=true∧WF t false∧szT t<=20000∧dpT t<=400):=by
 simp only[zCL,bl_eq,zEQ]
 cases hb:bl cat t with
 |false=>exact⟨false,Ev.const _,by simp⟩
 |true=>
  obtain⟨b,c',hev,ho⟩:=FS_all t 1 false 0 (by decide) (by decide) (by decide)
  refine⟨b,?_,?_⟩
  ·simp only[Option.bind_some,if_true]
   exact((hev.bind (Ev.const b)).bind (Ev.const b)).bind (Ev.const b)
  ·rcases ho with ⟨rfl,a1,a2,a3,a4⟩|⟨rfl,a1⟩
   ·exact⟨fun _=>⟨rfl,a1,by omega,by omega⟩,fun _=>rfl⟩
   ·exact⟨fun h=>(by cases h),fun g=>(a1 ⟨g.2.1,by omega,by omega⟩).elim⟩
def Ate{α:Type}(r:Nat):α->Nat->Prop:=fun _ r'=>r'+1<=r∧1<=r'
section
variable {α β:Type} {r:Nat} {Q:β->Nat->Prop}
theorem zBV{x:PT α}{f:α->PT β}(h:x.wp r (Ate r))(hf: ∀a r',r'+1<=r->1<=r'->(f a).wp r' Q):(x.bind f).wp r Q:=
 PT.wp_bindQ h fun a r' ha=>hf a r' ha.1 ha.2
theorem kd_I{n:Int}{x y:PT β}(h0:y.wp r Q)(h1:(n≠8->2<=r)->x.wp r Q):(PT.kd n fun b=>if b then x else y).wp r Q:=⟨h0,h1⟩
theorem kd_N{n:Int}{x y:PT β}(h0:x.wp r Q)(h1:(n≠8->2<=r)->y.wp r Q):(PT.kd n fun b=>if !b then x else y).wp r Q:=⟨h0,h1⟩
theorem zFY{s:List UInt8}{x y:PT β}(h0:y.wp r Q)(h1:2<=r->x.wp (r-1) Q):((T.skip s).bind fun b=>if b then x else y).wp r Q:=⟨h0,fun h=>⟨h,fun _ _=>h1 h⟩⟩
theorem skip_N{s:List UInt8}{x y:PT β}(h0:x.wp r Q)(h1:2<=r->y.wp (r-1) Q):((T.skip s).bind fun b=>if !b then x else y).wp r Q:=⟨h0,fun h=>⟨h,fun _ _=>h1 h⟩⟩
theorem zDD{s:List UInt8}{f:Unit->PT β}(h1:2<=r->(f ()).wp (r-1) Q):((T.want s).bind f).wp r Q:=⟨trivial,fun h=>⟨h,fun _ _=>h1 h⟩⟩
theorem zEq{n:Int}(hn:n≠8){f:List UInt8->PT β}(h1:2<=r->∀t:List UInt8,t.length<=20000->(f t).wp (r-1) Q):((T.name n).bind f).wp r Q:=⟨trivial,fun h=>⟨h hn,fun t ht=>h1 (h hn) t ht⟩⟩
theorem named_I{x y:PT β}(h0:y.wp r Q)(h1:2<=r->x.wp r Q):(T.named.bind fun b=>if b then x else y).wp r Q:=⟨⟨h0,fun h=>h1 (h (by decide))⟩,fun h=>h1 (h (by decide))⟩
theorem begins_I{x y:PT β}(h0:y.wp r Q)(h1:2<=r->x.wp r Q):(T.begins.bind fun b=>if b then x else y).wp r Q:=
 ⟨⟨⟨⟨⟨⟨⟨h0,h1⟩,h1⟩,h1⟩,fun h=>h1 (h (by decide))⟩,fun h=>h1 (h (by decide))⟩,fun h=>h1 (h (by decide))⟩,fun h=>h1 (h (by decide))⟩
theorem ofO_wp{o:Option α}{a:α}(h:o=some a){f:α->PT β}(hf:(f a).wp r Q):((PT.ofO o).bind f).wp r Q:=by subst h;exact hf
theorem app80{x:List zJv}{v:zJv}(hx:x.length<=100000){f:List zJv->PT β}(hf:(f (x++[v])).wp r Q):((PT.ofO (app 80 x [v])).bind f).wp r Q:=
 ofO_wp (appA (by decide) (by simp only[List.length_cons,List.length_nil];omega)) hf
theorem app16{x:Nms}{v:List UInt8}(hx:x.length<=100000){f:Nms->PT β}(hf:(f (x++[v])).wp r Q):((PT.ofO (app 16 x [v])).bind f).wp r Q:=
 ofO_wp (appA (by decide) (by simp only[List.length_cons,List.length_nil];omega)) hf
theorem ops_wp{n:Int}{f:Int->PT β}(h0:(f 0).wp r Q): ∀L:List (Int×List UInt8×Int),(2<=r->∀q∈L,eqI n q.1=true->(f q.2.2).wp r Q)->((T.ops n L).bind f).wp r Q
 |[],h=>h0
 |q::L,h=>by
  have ih:=ops_wp h0 L fun h2 q hq=>h h2 q (zqc _ hq)
  rw[T.ops]
  split
  ·rename_i hn
   exact⟨ih,fun h2=>h h2 q zq9 hn⟩
  ·exact ih
end
theorem path_l1_wp(cap:Bool): ∀k x r,r<=k->1<=r->x.length+r<=40000->(T.path_l1 cap k x).wp r fun a r'=>Sum.elim (fun _=>r'+1<=r∧1<=r') (fun l=>r'<=r∧1<=r'∧l.length+r'<=40000) a
 |0,x,r,h1,h2,h3=>by omega
 |k+1,x,r,h1,h2,h3=>by
  rw[T.path_l1]
  refine kd_I ⟨by omega,h2,h3⟩ fun h=>zEq (by decide) fun h4 t ht=>app16 (by omega) ?_
  have nx:((T.want [46]).bind fun _=>T.path_l1 cap k (x++[t])).wp (r-1) fun a r'=>Sum.elim (fun _=>r'+1<=r∧1<=r') (fun l=>r'<=r∧1<=r'∧l.length+r'<=40000) a:=by
   refine zDD fun h5=>PT.wp_mono (fun a r' ha=>?_) _ _ (path_l1_wp cap k (x++[t]) (r-1-1) (by omega) (by omega) (by simp only[List.length_append,List.length_cons,List.length_nil];omega))
   cases a with
   |inl a=>exact⟨by have:=ha.1;omega,ha.2⟩
   |inr a=>exact⟨by have:=ha.1;omega,ha.2⟩
  cases cap with
  |false=>exact nx
  |true=>exact⟨⟨by omega,by omega⟩,fun _=>nx⟩
theorem path_wp(fuel:Nat)(cap:Bool){r:Nat}(h:r<=fuel)(h1:1<=r)(h2:r<=20000):(T.path fuel cap).wp r (Ate r):=by
 refine PT.wp_bindQ (path_l1_wp cap fuel [] r h h1 (by simp only[List.length_nil];omega)) fun a r' ha=>?_
 cases a with
 |inl a=>exact ha
 |inr l=>
  obtain⟨h3,h4,h5⟩:=ha
  exact zEq (by decide) fun h6 t ht=>app16 (by omega) ⟨by omega,by omega⟩
theorem zGp(fuel:Nat)(x:List zJv){r:Nat}(h:r<=fuel)(h1:1<=r)(h2:r<=20000):(T.typePath fuel x).wp r (Ate r):=
 zBV (path_wp fuel false h h1 h2) fun a r' h3 h4=>⟨h3,h4⟩
theorem mods_l1_wp: ∀k x r,r<=k->1<=r->x.length+r<=40000->(T.mods_l1 k x).wp r fun _ r'=>r'<=r∧1<=r'
 |0,x,r,h1,h2,h3=>by omega
 |k+1,x,r,h1,h2,h3=>by
  rw[T.mods_l1]
  refine zFY ⟨by omega,h2⟩ fun h=>zEq (by decide) fun h4 t ht=>app16 (by omega) ?_
  exact PT.wp_mono (fun a r' ha=>⟨by have:=ha.1;omega,ha.2⟩) _ _ (mods_l1_wp k (x++[t]) (r-1-1) (by omega) (by omega) (by simp only[List.length_append,List.length_cons,List.length_nil];omega))
theorem zI0(fuel:Nat){r:Nat}(h:r<=fuel)(h1:1<=r)(h2:r<=20000):(T.mods fuel).wp r (Ate r):=by
 refine zEq (by decide) fun h4 t ht=>PT.wp_mono (fun a r' ha=>⟨by have:=ha.1;omega,ha.2⟩) _ _ (mods_l1_wp fuel [t] (r-1) (by omega) (by omega) (by simp only[List.length_cons,List.length_nil];omega))
theorem sep_wp(s:List UInt8){F:PT zJv}(R:Nat)(hF: ∀r,1<=r->r<=R->F.wp r (Ate r)): ∀k x r,r<=k->1<=r->r<=R+1->x.length+r<=40000->(T.sep s F k x).wp r fun l r'=>r'<=r∧1<=r'∧x.length<=l.length∧l.length<=40000
 |0,x,r,h1,h2,h4,h3=>by omega
 |k+1,x,r,h1,h2,h4,h3=>by
  rw[T.sep]
  refine zFY ⟨by omega,h2,by omega,by omega⟩ fun h=>zBV (hF _ (by omega) (by omega)) fun v r' h5 h6=>app80 (by omega) ?_
  refine PT.wp_mono (fun a r' ha=>?_) _ _ (sep_wp s R hF k (x++[v]) r' (by omega) (by omega) (by omega) (by simp only[List.length_append,List.length_cons,List.length_nil];omega))
  obtain⟨a1,a2,a3,a4⟩:=ha
  simp only[List.length_append,List.length_cons,List.length_nil] at a3
  exact⟨by omega,a2,by omega,a4⟩
theorem zGh{α:Type}{l:List α}(h:1<=l.length): ∃a,l[0]? =some a:=⟨_,zq2 h⟩
theorem zHK(fuel:Nat): ∀k t r,r<=k->r<=fuel->1<=r->r<=20000->(T.pfx_l1 fuel k t).wp r fun _ r'=>r'<=r∧1<=r'
 |0,t,r,h1,h2,h3,h4=>by omega
 |k+1,t,r,h1,h2,h3,h4=>by
  rw[T.pfx_l1]
  exact named_I ⟨by omega,h3⟩ fun h5=>zBV (zGp fuel _ h2 h3 h4) fun u r' h6 h7=>PT.wp_mono (fun a r' ha=>⟨by have:=ha.1;omega,ha.2⟩) _ _ (zHK fuel k u r' (by omega) (by omega) h7 (by omega))
theorem types_wp: ∀fuel,(∀r,30*r+1<=fuel->1<=r->r<=20000->(T.simple fuel).wp r (Ate r))∧(∀r,30*r+2<=fuel->1<=r->r<=20000->(T.pfx fuel).wp r (Ate r))∧
 (∀r,30*r+3<=fuel->1<=r->r<=20000->(T.product fuel).wp r (Ate r))∧(∀r,30*r+4<=fuel->1<=r->r<=20000->(T.typ fuel).wp r (Ate r))
 |0=>⟨fun r h=>by omega,fun r h=>by omega,fun r h=>by omega,fun r h=>by omega⟩
 |fuel+1=>by
  obtain⟨h1,h2,h3,h4⟩:=types_wp fuel
  refine⟨fun r hf hr hm=>?_,fun r hf hr hm=>?_,fun r hf hr hm=>?_,fun r hf hr hm=>?_⟩
  ·rw[T.simple]
   refine kd_I ?_ fun h=>zEq (by decide) fun h5 t ht=>⟨by omega,by omega⟩
   refine skip_N (zBV (zGp fuel _ (by omega) hr hm) fun v r' h5 h6=>⟨h5,h6⟩) fun h5=>?_
   refine zFY ?_ fun h6=>zBV (zI0 fuel (by omega) (by omega) (by omega)) fun l r' h7 h8=>zDD fun h9=>⟨by omega,by omega⟩
   refine zBV (h4 _ (by omega) (by omega) (by omega)) fun t r' h7 h8=>?_
   refine PT.wp_bindQ (sep_wp [44] (r-1) (fun q hq hq2=>h4 q (by omega) hq (by omega)) fuel [t] r' (by omega) h8 (by omega) (by simp only[List.length_cons,List.length_nil];omega)) fun l r'' hl=>?_
   obtain⟨l1,l2,l3,l4⟩:=hl
   refine zDD fun h9=>?_
   split
   ·obtain⟨a,ha⟩:=zGh (l:=l) (by simpa using l3)
    exact ofO_wp ha ⟨by omega,by omega⟩
   ·exact zBV (zGp fuel _ (by omega) (by omega) (by omega)) fun v r' h5 h6=>⟨by omega,h6⟩
  ·rw[T.pfx]
   refine zBV (h1 _ (by omega) hr hm) fun t r' h7 h8=>PT.wp_bindQ (zHK fuel fuel t r' (by omega) (by omega) h8 (by omega)) fun a r'' ha=>⟨by have:=ha.1;omega,ha.2⟩
  ·rw[T.product]
   refine zBV (h2 _ (by omega) hr hm) fun t r' h7 h8=>PT.wp_bindQ (sep_wp [42] (r-1) (fun q hq hq2=>h2 q (by omega) hq (by omega)) fuel [t] r' (by omega) h8 (by omega) (by simp only[List.length_cons,List.length_nil];omega)) fun l r'' hl=>?_
   obtain⟨l1,l2,l3,l4⟩:=hl
   split
   ·obtain⟨a,ha⟩:=zGh (l:=l) (by simpa using l3)
    exact ofO_wp ha ⟨by omega,by omega⟩
   ·exact⟨by omega,l2⟩
  ·rw[T.typ]
   refine zBV (h3 _ (by omega) hr hm) fun t r' h7 h8=>zFY ⟨by omega,h8⟩ fun h9=>zBV (h4 _ (by omega) (by omega) (by omega)) fun u r'' h5 h6=>⟨by omega,h6⟩
theorem zJU(fuel:Nat){β:Type}{r:Nat}{Q:β->Nat->Prop}{f:Int->PT β}(h:20001<=fuel)(hf:2<=r->∀n:Int,-4503599627370496<=-n->-n<=0->(f n).wp (r-1) Q):((T.number fuel).bind f).wp r Q:=by
 unfold T.number
 rw[PT.bind_assoc]
 refine zEq (by decide) fun h2 t ht=>?_
 obtain⟨v,hv,h3,h4⟩:=zJf t ht (fuel:=fuel) (by omega)
 rw[PT.bind_assoc]
 exact ofO_wp hv (hf h2 v.1 h3 h4)
theorem pats_wp: ∀fuel,(∀r,30*r+20001<=fuel->1<=r->r<=20000->(T.argument fuel).wp r (Ate r))∧(∀r,30*r+20002<=fuel->1<=r->r<=20000->(T.pattern fuel).wp r (Ate r))
 |0=>⟨fun r h=>by omega,fun r h=>by omega⟩
 |fuel+1=>by
  obtain⟨h1,h2⟩:=pats_wp fuel
  refine⟨fun r hf hr hm=>?_,fun r hf hr hm=>?_⟩
  ·rw[T.argument]
   refine zFY ?_ fun h=>⟨by omega,by omega⟩
   refine zFY ?_ fun h=>zJU fuel (by omega) fun h5 n h6 h7=>ofO_wp (chkA (by omega) (by omega)) ⟨by omega,by omega⟩
   refine kd_I ?_ fun h=>zJU fuel (by omega) fun h5 n h6 h7=>⟨by omega,by omega⟩
   refine kd_I ?_ fun h=>zEq (by decide) fun h5 t ht=>⟨by omega,by omega⟩
   refine kd_I ?_ fun h=>zBV (zI0 fuel (by omega) (by omega) (by omega)) fun l r' h7 h8=>⟨h7,h8⟩
   refine zDD fun h5=>zFY ?_ fun h6=>⟨by omega,by omega⟩
   refine zBV (h2 _ (by omega) (by omega) (by omega)) fun t r' h7 h8=>?_
   refine PT.wp_bindQ (sep_wp [44] (r-1) (fun q hq hq2=>h2 q (by omega) hq (by omega)) fuel [t] r' (by omega) h8 (by omega) (by simp only[List.length_cons,List.length_nil];omega)) fun l r'' hl=>?_
   obtain⟨l1,l2,l3,l4⟩:=hl
   refine zDD fun h9=>?_
   split
   ·obtain⟨a,ha⟩:=zGh (l:=l) (by simpa using l3)
    exact ofO_wp ha ⟨by omega,by omega⟩
   ·exact⟨by omega,by omega⟩
  ·rw[T.pattern]
   refine kd_N (zBV (h1 _ (by omega) hr hm) fun t r' h7 h8=>⟨h7,h8⟩) fun h=>zBV (zI0 fuel (by omega) (by omega) (by omega)) fun l r' h7 h8=>?_
   have no:(PT.ret (zJv.mk 14 0 [] l []):PT zJv).wp r' (Ate r):=⟨h7,h8⟩
   have yes:((T.argument fuel).bind fun t=>PT.ret (zJv.mk 14 0 [] l [t])).wp r' (Ate r):=zBV (h1 _ (by omega) h8 (by omega)) fun t r'' h5 h6=>⟨by omega,h6⟩
   exact⟨⟨⟨⟨⟨⟨no,fun _=>yes⟩,fun _=>yes⟩,fun _=>yes⟩,fun _=>yes⟩,fun _=>yes⟩,fun _=>yes⟩
theorem zIK(fuel:Nat){F:PT zJv}(R:Nat)(hF: ∀r,1<=r->r<=R->F.wp r (Ate r))(hP: ∀r,1<=r->r<=R->(T.pattern fuel).wp r (Ate r)): ∀k x r,r<=k->1<=r->r<=R->x.length+r<=40000->(T.choice_l1 fuel F k x).wp r fun _ r'=>r'<=r∧1<=r'
 |0,x,r,h1,h2,h4,h3=>by omega
 |k+1,x,r,h1,h2,h4,h3=>by
  rw[T.choice_l1]
  refine zBV (hP _ h2 h4) fun p r1 a1 b1=>zDD fun c1=>zBV (hF _ (by omega) (by omega)) fun v r2 a2 b2=>app80 (by simp) (app80 (by omega) (skip_N (zDD fun c2=>⟨by omega,by omega⟩) fun c3=>?_))
  exact PT.wp_mono (fun a r' ha=>⟨by have:=ha.1;omega,ha.2⟩) _ _ (zIK fuel R hF hP k _ (r2-1) (by omega) (by omega) (by omega) (by simp only[List.length_append,List.length_cons,List.length_nil];omega))
theorem zGc{F:PT zJv}(R:Nat)(hF: ∀r,1<=r->r<=R->F.wp r (Ate r)): ∀k x r,r<=k->1<=r->r<=R->(T.negation_l1 F k x).wp r fun _ r'=>r'<=r∧1<=r'
 |0,x,r,h1,h2,h4=>by omega
 |k+1,x,r,h1,h2,h4=>by
  rw[T.negation_l1]
  exact begins_I ⟨by omega,h2⟩ fun h=>zBV (hF _ h2 h4) fun v r1 a1 b1=>PT.wp_mono (fun a r' ha=>⟨by have:=ha.1;omega,ha.2⟩) _ _ (zGc R hF k _ r1 (by omega) b1 (by omega))
theorem decl_l1_wp: ∀k x r,r<=k->1<=r->x.length+r<=40000->(T.decl_l1 k x).wp r fun _ r'=>r'<=r∧1<=r'
 |0,x,r,h1,h2,h3=>by omega
 |k+1,x,r,h1,h2,h3=>by
  rw[T.decl_l1]
  refine kd_I ⟨by omega,h2⟩ fun h=>zEq (by decide) fun h4 t ht=>app16 (by omega) ?_
  exact PT.wp_mono (fun a r' ha=>⟨by have:=ha.1;omega,ha.2⟩) _ _ (decl_l1_wp k (x++[t]) (r-1) (by omega) (by omega) (by simp only[List.length_append,List.length_cons,List.length_nil];omega))
theorem let_l1_wp{F:PT zJv}(R:Nat)(hF: ∀r,1<=r->r<=R->F.wp r (Ate r)): ∀k x r,r<=k->1<=r->r<=R->x.length+r<=40000->(T.let_l1 F k x).wp r fun l r'=>r'<=r∧1<=r'∧l.length<=40000
 |0,x,r,h1,h2,h4,h3=>by omega
 |k+1,x,r,h1,h2,h4,h3=>by
  rw[T.let_l1]
  refine skip_N (zBV (hF _ h2 h4) fun v r1 a1 b1=>app80 (by omega) ?_) fun h=>⟨by omega,by omega,by omega⟩
  exact PT.wp_mono (fun a r' ha=>⟨by have:=ha.1;omega,ha.2⟩) _ _ (let_l1_wp R hF k (x++[v]) r1 (by omega) (by omega) (by omega) (by simp only[List.length_append,List.length_cons,List.length_nil];omega))
theorem zI4{F:Int->PT zJv}(n:Int)(R:Nat)(hF: ∀r m,(m=n∨m=n+1)->1<=r->r<=R->(F m).wp r (Ate r)): ∀k x r,r<=k->1<=r->r<=R+1->(T.level_l1 F n (n+1) k x).wp r fun _ r'=>r'<=r∧1<=r'
 |0,x,r,h1,h2,h4=>by omega
 |k+1,x,r,h1,h2,h4=>by
  rw[T.level_l1]
  refine ops_wp ?_ OPS fun h2 q hq hn=>?_
  ·rw[if_pos (by decide)];exact⟨by omega,h2⟩
  split
  ·exact⟨by omega,by omega⟩
  ·refine⟨h2,fun t ht=>?_⟩
   split
   ·exact zBV (hF _ _ (.inl rfl) (by omega) (by omega)) fun u r1 a1 b1=>⟨by omega,b1⟩
   split
   ·exact zBV (hF _ _ (.inl rfl) (by omega) (by omega)) fun u r1 a1 b1=>⟨by omega,b1⟩
   split
   ·exact zBV (hF _ _ (.inl rfl) (by omega) (by omega)) fun u r1 a1 b1=>⟨by omega,b1⟩
   split
   ·exact zBV (hF _ _ (.inr rfl) (by omega) (by omega)) fun u r1 a1 b1=>⟨by omega,b1⟩
   ·exact zBV (hF _ _ (.inr rfl) (by omega) (by omega)) fun u r1 a1 b1=>PT.wp_mono (fun a r' ha=>⟨by have:=ha.1;omega,ha.2⟩) _ _ (zI4 n R hF k _ r1 (by omega) b1 (by omega))
theorem ofO_bind{α β:Type}(a:α)(f:α->PT β):(PT.ofO (some a)).bind f=f a:=rfl
theorem level_succ(fuel:Nat)(n:Int)(h:eqI n 7=false)(h1: -9223372036854775808<=n+1)(h2:n+1<=9223372036854775807):T.level (fuel+1) n=(T.level fuel (n+1)).bind fun t=>T.level_l1 (T.level fuel) n (n+1) fuel t:=by
 rw[T.level,if_neg (by rw[h];decide),chkA h1 h2,ofO_bind]
theorem level_seven(fuel:Nat):T.level (fuel+1) 7=(T.negation fuel).bind .ret:=by
 rw[T.level,if_pos (by decide)]
theorem level_step(K fuel:Nat)(hK:20001<=K)(h3: ∀r,30*r+K+2<=fuel->1<=r->r<=20000->(T.negation fuel).wp r (Ate r))(h4: ∀r (n:Nat),1<=n->n<=7->30*r+K+10<=fuel+n->1<=r->r<=20000->(T.level fuel n).wp r (Ate r))
 (r n:Nat) (hn1:1<=n) (hn7:n<=7) (hf:30*r+K+10<=fuel+1+n) (hr:1<=r) (hm:r<=20000):(T.level (fuel+1) n).wp r (Ate r):=by
 have hn:((n+1:Nat):Int)=(n:Int)+1:=by omega
 rcases Nat.lt_or_ge n 7 with h|h
 ·have h4': ∀q,30*q+K+10<=fuel+(n+1)->1<=q->q<=20000->(T.level fuel ((n:Int)+1)).wp q (Ate q):=fun q g1 g2 g3=>by
   rw[<-hn];exact h4 q (n+1) (by omega) (by omega) g1 g2 g3
  rw[level_succ fuel n (by simp only[eqI,decide_eq_false_iff_not];omega) (by omega) (by omega)]
  refine zBV (h4' r (by omega) hr hm) fun t r1 a1 b1=>?_
  refine PT.wp_mono (fun a r' ha=>?_) _ _ (zI4 n (r-1) (fun q m hm2 hq hq2=>?_) fuel t r1 (by omega) b1 (by omega))
  ·obtain⟨x1,x2⟩:=ha
   exact⟨by omega,x2⟩
  rcases hm2 with rfl|rfl
  ·exact h4 q n hn1 hn7 (by omega) hq (by omega)
  ·exact h4' q (by omega) hq (by omega)
 ·have:n=7:=by omega
  subst this
  rw[show((7:Nat):Int)=7 from rfl,level_seven]
  exact zBV (h3 _ (by omega) hr hm) fun t r1 a1 b1=>⟨a1,b1⟩
def ExprsWp(K fuel:Nat):Prop:=(∀r,30*r+K+11<=fuel->1<=r->r<=20000->(T.inside fuel).wp r (Ate r))∧(∀r,30*r+K+11<=fuel->1<=r->r<=20000->(T.choice fuel).wp r (Ate r))∧
 (∀r,30*r+K+2<=fuel->1<=r->r<=20000->(T.negation fuel).wp r (Ate r))∧(∀r (n:Nat),1<=n->n<=7->30*r+K+10<=fuel+n->1<=r->r<=20000->(T.level fuel n).wp r (Ate r))∧
 (∀r,30*r+K+10<=fuel->1<=r->r<=20000->(T.expr fuel).wp r (Ate r))∧(∀r,30*r+K+1<=fuel->1<=r->r<=20000->(T.decl fuel).wp r (Ate r))∧
 (∀r,30*r+K+11<=fuel->1<=r->r<=20000->(T.let fuel).wp r (Ate r))∧(∀r,30*r+K+1<=fuel->1<=r->r<=20000->(T.atom fuel).wp r (Ate r))
theorem exprs_step(K fuel:Nat)(hK:20001<=K)(h:ExprsWp K fuel):ExprsWp K (fuel+1):=by
 obtain⟨h1,h2,h3,h4,h5,h6,h7,h8⟩:=h
 have h41: ∀r,30*r+K+10<=fuel+1->1<=r->r<=20000->(T.level fuel 1).wp r (Ate r):=fun r g1 g2 g3=>h4 r 1 (by omega) (by omega) g1 g2 g3
 have ht:=(types_wp fuel).2.2.2
 have hp:=(pats_wp fuel).2
 refine⟨fun r hf hr hm=>?_,fun r hf hr hm=>?_,fun r hf hr hm=>?_,fun r n hn1 hn7 hf hr hm=>?_,fun r hf hr hm=>?_,fun r hf hr hm=>?_,fun r hf hr hm=>?_,fun r hf hr hm=>?_⟩
 ·rw[T.inside]
  refine zFY ?_ fun c1=>⟨by omega,by omega⟩
  refine zFY ?_ fun c1=>zBV (zI0 fuel (by omega) (by omega) (by omega)) fun l r1 a1 b1=>zDD fun c2=>zBV (zI0 fuel (by omega) (by omega) (by omega)) fun l r2 a2 b2=>zDD fun c3=>⟨by omega,by omega⟩
  refine zBV (h5 _ (by omega) hr hm) fun t r1 a1 b1=>?_
  refine zFY ?_ fun c2=>zBV (ht _ (by omega) (by omega) (by omega)) fun u r2 a2 b2=>app80 (by simp) (zDD fun c3=>⟨by omega,by omega⟩)
  refine PT.wp_bindQ (sep_wp [44] (r-1) (fun q hq hq2=>h5 q (by omega) hq (by omega)) fuel [t] r1 (by omega) b1 (by omega) (by simp only[List.length_cons,List.length_nil];omega)) fun l r'' hl=>?_
  obtain⟨l1,l2,l3,l4⟩:=hl
  refine zDD fun h9=>?_
  split
  ·obtain⟨a,ha⟩:=zGh (l:=l) (by simpa using l3)
   exact ofO_wp ha ⟨by omega,by omega⟩
  ·exact⟨by omega,by omega⟩
 ·rw[T.choice]
  refine zBV (h5 _ (by omega) hr hm) fun t r1 a1 b1=>zDD fun c1=>?_
  exact PT.wp_mono (fun a r' ha=>⟨by have:=ha.1;omega,ha.2⟩) _ _ (zIK fuel (r-1) (fun q hq hq2=>h5 q (by omega) hq (by omega)) (fun q hq hq2=>hp q (by omega) hq (by omega)) fuel [t] (r1-1) (by omega) (by omega) (by omega) (by simp only[List.length_cons,List.length_nil];omega))
 ·rw[T.negation]
  refine zFY ?_ fun c1=>zBV (h3 _ (by omega) (by omega) (by omega)) fun t r1 a1 b1=>⟨by omega,b1⟩
  refine zBV (h8 _ (by omega) hr hm) fun t r1 a1 b1=>PT.wp_bindQ (zGc (r-1) (fun q hq hq2=>h8 q (by omega) hq (by omega)) fuel t r1 (by omega) b1 (by omega)) fun a r' ha=>⟨by have:=ha.1;omega,ha.2⟩
 ·exact level_step K fuel hK h3 h4 r n hn1 hn7 hf hr hm
 ·rw[T.expr]
  refine zFY ?_ fun c1=>skip_N (zEq (by decide) fun c2 s hs=>zDD fun c3=>zBV (h5 _ (by omega) (by omega) (by omega)) fun t r1 a1 b1=>⟨by omega,b1⟩) fun c2=>zDD fun c3=>zBV (h5 _ (by omega) (by omega) (by omega)) fun t r1 a1 b1=>⟨by omega,b1⟩
  refine zFY (zBV (h41 r (by omega) hr hm) fun t r1 a1 b1=>⟨a1,b1⟩) fun c1=>?_
  exact zBV (h5 _ (by omega) (by omega) (by omega)) fun t r1 a1 b1=>zDD fun c2=>zBV (h5 _ (by omega) (by omega) (by omega)) fun u r2 a2 b2=>app80 (by simp) (zDD fun c3=>zBV (h5 _ (by omega) (by omega) (by omega)) fun v r3 a3 b3=>app80 (by simp) ⟨by omega,b3⟩)
 ·rw[T.decl]
  refine zFY ?_ fun c1=>zEq (by decide) fun c2 s hs=>zDD fun c3=>zBV (h5 _ (by omega) (by omega) (by omega)) fun t r1 a1 b1=>⟨by omega,b1⟩
  refine zFY ?_ fun c1=>zEq (by decide) fun c2 s hs=>zEq (by decide) fun c3 x hx=>PT.wp_bindQ (decl_l1_wp fuel [x] (r-1-1-1) (by omega) (by omega) (by simp only[List.length_cons,List.length_nil];omega)) fun l r1 hl=>zDD fun c4=>zBV (h5 _ (by have:=hl.1;omega) (by omega) (by have:=hl.1;omega)) fun t r2 a2 b2=>⟨by have:=hl.1;omega,b2⟩
  exact zDD fun c1=>zEq (by decide) fun c2 s hs=>zDD fun c3=>zDD fun c4=>zBV (h8 _ (by omega) (by omega) (by omega)) fun t r1 a1 b1=>zDD fun c5=>zBV (zI0 fuel (by omega) (by omega) (by omega)) fun m r2 a2 b2=>app80 (by simp) ⟨by omega,b2⟩
 ·rw[T.let]
  refine PT.wp_bindQ (let_l1_wp r (fun q hq hq2=>h6 q (by omega) hq (by omega)) fuel [] r (by omega) hr (by omega) (by simp only[List.length_nil];omega)) fun L r1 hL=>?_
  obtain⟨l1,l2,l3⟩:=hL
  exact zBV (h5 _ (by omega) (by omega) (by omega)) fun t r2 a2 b2=>app80 (by omega) (zDD fun c1=>⟨by omega,by omega⟩)
 ·rw[T.atom]
  refine kd_I ?_ fun c1=>zJU fuel (by omega) fun c2 n h6 h7=>⟨by omega,by omega⟩
  refine kd_I ?_ fun c1=>zEq (by decide) fun c2 t ht=>⟨by omega,by omega⟩
  refine named_I ?_ fun c1=>zBV (path_wp fuel true (by omega) hr hm) fun v r1 a1 b1=>?_
  ·refine zFY ?_ fun c1=>zBV (h7 _ (by omega) (by omega) (by omega)) fun t r1 a1 b1=>⟨by omega,b1⟩
   refine zFY ?_ fun c1=>zBV (h2 _ (by omega) (by omega) (by omega)) fun t r1 a1 b1=>⟨by omega,b1⟩
   exact zDD fun c1=>zBV (h1 _ (by omega) (by omega) (by omega)) fun t r1 a1 b1=>⟨by omega,b1⟩
  ·split
   ·exact⟨a1,b1⟩
   ·exact⟨a1,b1⟩
theorem exprs_wp(K:Nat)(hK:20001<=K): ∀fuel,ExprsWp K fuel
 |0=>⟨fun r h=>by omega,fun r h=>by omega,fun r h=>by omega,fun r n h1 h2 h3=>by omega,fun r h=>by omega,fun r h=>by omega,fun r h=>by omega,fun r h=>by omega⟩
 |fuel+1=>exprs_step K fuel hK (exprs_wp K hK fuel)
section
variable {α β:Type}
open PT
end
theorem zCl{α β:Type}(a:α)(f:α->Option β):(some a).bind f=f a:=Eq.trans (Option.bind_some a f) rfl
theorem zIV{n:Int}(h1: -9223372036854775808<=n)(h2:n<=9223372036854775807):chk .i64 n=some n:=by rw[chk,if_pos];exact⟨h1,h2⟩
theorem app_some{α:Type}{b:Nat}{x y:List α}(h:0<b)(h2:(x.length+y.length)*b<=140737488355328):app b x y=some (x++y):=by rw[app,if_pos ⟨h,h2⟩]
theorem app1{x y:List UInt8}(h:x.length+y.length<=140737488355328):app 1 x y=some (x++y):=app_some (by decide) (by omega)
theorem wb_M{c:UInt8}{b:List UInt8}(h:b.length+1<=140737488355328):zAm c b=some (b++[c]):=by
 simp only[zAm,zCq,zCl,app1 (x:=b) (y:=[c]) h]
def okc(c:UInt8):Bool:=c==10||(decide (32<=c.toNat)&&decide (c.toNat<=126))
def esc(c:UInt8):List UInt8:=if c=10 then [92,110] else if c=34∨c=92 then [92,c] else [c]
def qs(s:List UInt8):List UInt8:=s.flatMap esc
theorem eq8(c:UInt8)(n:Nat)(d:UInt8)(hd:d.toNat=n):eqI (c.toNat:Int) (n:Int)=decide (c=d):=by
 unfold eqI
 rw[decide_eq_decide]
 constructor
 ·intro h;apply UInt8.toNat_inj.1;omega
 ·rintro rfl;omega
theorem e10(c:UInt8):eqI (c.toNat:Int) 10=decide (c=10):=eq8 c 10 10 rfl
theorem e34(c:UInt8):eqI (c.toNat:Int) 34=decide (c=34):=eq8 c 34 34 rfl
theorem e92(c:UInt8):eqI (c.toNat:Int) 92=decide (c=92):=eq8 c 92 92 rfl
theorem e110(c:UInt8):eqI (c.toNat:Int) 110=decide (c=110):=eq8 c 110 110 rfl
theorem vis_M(c:UInt8):zDb c=some (decide (32<=c.toNat)&&decide (c.toNat<=126)):=by
 unfold zDb leI
 congr 2
 ·exact decide_eq_decide.2 (by omega)
 ·exact decide_eq_decide.2 (by omega)
theorem qs_ge(s:List UInt8):s.length<=(qs s).length:=by
 induction s with
 |nil=>simp
 |cons c s ih=>
  have:1<=(esc c).length:=by unfold esc;split<;>(try split)<;>simp
  simp only[qs,List.flatMap_cons,List.length_append,List.length_cons] at ih ⊢
  omega
theorem zHH(c:UInt8)(s:List UInt8):qs (c::s)=esc c++qs s:=by simp[qs]
theorem lit_complete(s:List UInt8): ∀(m:List UInt8),m.all okc=true->∀(i k:Nat)(b r:List UInt8),s.drop i=qs m++34::r->m.length+1<=k->b.length+m.length<=1000000->
 zAP s k b i=some (.inl (b++m,((i+(qs m).length+1:Nat):Int),0,0)):=by
 intro m
 induction m with
 |nil=>
  intro _ i k b r hd hk hb
  obtain⟨g,rfl⟩: ∃g,k=g+1:=⟨k-1,by omega⟩
  obtain⟨h1,h2,h3,h4⟩:=zFy (show s.drop i=34::r by simpa[qs] using hd)
  rw[zAP,if_pos h1,h2]
  simp only[zCl,e34,decide_true,if_true,zCd]
  simp[qs]
 |cons c m ih=>
  intro ha i k b r hd hk hb
  obtain⟨g,rfl⟩: ∃g,k=g+1:=⟨k-1,by omega⟩
  rw[List.all_cons,zq7] at ha
  rw[zHH] at hd ⊢
  simp only[List.length_cons] at hk hb
  have fin: ∀(j:Nat),j=i+(esc c).length->s.drop j=qs m++34::r->zAP s g (b++[c]) j=some (.inl (b++c::m,((i+(esc c++qs m).length+1:Nat):Int),0,0)):=fun j hj hd'=>by
   rw[ih ha.2 j g (b++[c]) r hd' (by omega) (by simp;omega),hj]
   simp
   omega
  by_cases c10:c=10
  ·subst c10
   have he:esc 10=[92,110]:=rfl
   rw[he] at hd
   obtain⟨h1,h2,h3,h4⟩:=zFy (show s.drop i=92::(110::(qs m++34::r)) by simpa using hd)
   obtain⟨k1,k2,k3,k4⟩:=zFy h3
   rw[zAP,if_pos h1,h2]
   simp only[zCl,e34,e92,e110]
   rw[if_neg (by decide),if_pos (by simp only[decide_true,Bool.true_and];exact k1),k2]
   simp only[zCl]
   rw[if_neg (by decide),if_neg (by decide),if_pos (by decide),wb_M (by omega)]
   simp only[zCl]
   exact fin (i+1+1) (by rw[he];rfl) k3
  ·by_cases c2:c=34∨c=92
   ·have he:esc c=[92,c]:=by unfold esc;rw[if_neg c10,if_pos c2]
    rw[he] at hd
    obtain⟨h1,h2,h3,h4⟩:=zFy (show s.drop i=92::(c::(qs m++34::r)) by simpa using hd)
    obtain⟨k1,k2,k3,k4⟩:=zFy h3
    rw[zAP,if_pos h1,h2]
    simp only[zCl,e34,e92,e110]
    rw[if_neg (by decide),if_pos (by simp only[decide_true,Bool.true_and];exact k1),k2]
    simp only[zCl]
    rcases c2 with c2|c2
    ·rw[if_pos (by simp[c2]),wb_M (by omega)]
     simp only[zCl]
     exact fin (i+1+1) (by rw[he];rfl) k3
    ·rw[if_neg (by rw[c2];decide),if_pos (by simp[c2]),wb_M (by omega)]
     simp only[zCl]
     exact fin (i+1+1) (by rw[he];rfl) k3
   ·have he:esc c=[c]:=by unfold esc;rw[if_neg c10,if_neg c2]
    rw[he] at hd
    obtain⟨h1,h2,h3,h4⟩:=zFy (show s.drop i=c::(qs m++34::r) by simpa using hd)
    have hv:(decide (32<=c.toNat)&&decide (c.toNat<=126))=true:=by
     have:=ha.1
     unfold okc at this
     simpa[c10] using this
    have n34: ¬c=34:=fun h=>c2 (.inl h)
    have n92: ¬c=92:=fun h=>c2 (.inr h)
    rw[zAP,if_pos h1,h2]
    simp only[zCl,e34,e92,e110]
    rw[if_neg (by simpa using n34),if_neg (by simp[n92]),if_neg (by simpa using n92),vis_M]
    simp only[zCl,hv,Bool.not_true,Bool.false_eq_true,if_false]
    rw[wb_M (by omega)]
    simp only[zCl]
    exact fin (i+1) (by rw[he];rfl) h3
theorem lit_sound(s:List UInt8)(hs:s.length<=100000): ∀(n i k:Nat)(b:List UInt8),s.length-i<=n->n+1<=k->b.length+n<=1000000->
 ∃o,zAP s k b i=some o∧∀t N p e,o=.inl (t,N,p,e)->e=0->∃m r,t=b++m∧m.all okc=true∧s.drop i=qs m++34::r∧N=((i+(qs m).length+1:Nat):Int):=by
 intro n
 induction n with
 |zero=>
  intro i k b hi hk hb
  obtain⟨g,rfl⟩: ∃g,k=g+1:=⟨k-1,by omega⟩
  rw[zAP,if_neg (by simp[ltI];omega)]
  exact⟨_,rfl,fun t N p e h=>by cases h⟩
 |succ n ih=>
  intro i k b hi hk hb
  obtain⟨g,rfl⟩: ∃g,k=g+1:=⟨k-1,by omega⟩
  by_cases hlt:i<s.length
  case neg=>
   rw[zAP,if_neg (by simp[ltI];omega)]
   exact⟨_,rfl,fun t N p e h=>by cases h⟩
  have hx:s[i]? =some s[i]:=zq2 hlt
  have hd:s.drop i=s[i]::s.drop (i+1):=List.drop_eq_getElem_cons hlt
  generalize s[i]=c at hx hd
  rw[zAP,if_pos (by simp[ltI];omega),hx]
  simp only[zCl,e34,e92,e110]
  have step: ∀(j:Nat)(x:UInt8),i<j->okc x=true->s.drop i=esc x++s.drop j->j=i+(esc x).length->∃o,zAP s g (b++[x]) j=some o∧
   ∀t N p e,o=.inl (t,N,p,e)->e=0->∃m r,t=b++m∧m.all okc=true∧s.drop i=qs m++34::r∧N=((i+(qs m).length+1:Nat):Int):=fun j x hj hx' hdx hjl=>by
   obtain⟨o,o1,o2⟩:=ih j g (b++[x]) (by omega) (by omega) (by simp;omega)
   refine⟨o,o1,fun t N p e ho he=>?_⟩
   obtain⟨m,r,m1,m2,m3,m4⟩:=o2 t N p e ho he
   refine⟨x::m,r,by rw[m1];simp,by rw[List.all_cons,hx',m2];rfl,by rw[hdx,m3,zHH];simp,?_⟩
   rw[m4,zHH,hjl]
   simp
   omega
  by_cases c34:c=34
  ·subst c34
   simp only[decide_true,if_true,zCd,zCl]
   refine⟨_,rfl,fun t N p e h he=>?_⟩
   simp only[Sum.inl.injEq,Prod.mk.injEq] at h
   obtain⟨rfl,rfl,_,_⟩:=h
   exact⟨[],s.drop (i+1),by simp,rfl,by simpa[qs] using hd,by simp[qs]⟩
  rw[if_neg (by simpa using c34)]
  by_cases c92:c=92
  ·subst c92
   by_cases hlt2:i+1<s.length
   ·have hx2:s[i+1]? =some s[i+1]:=zq2 hlt2
    have hd2:s.drop (i+1)=s[i+1]::s.drop (i+1+1):=List.drop_eq_getElem_cons hlt2
    generalize s[i+1]=d at hx2 hd2
    rw[if_pos (by simp[ltI];omega),hx2]
    simp only[zCl]
    rw[hd2] at hd
    by_cases d34:d=34
    ·subst d34
     rw[if_pos (by decide),wb_M (by omega)]
     exact step (i+1+1) 34 (by omega) rfl hd rfl
    rw[if_neg (by simpa using d34)]
    by_cases d92:d=92
    ·subst d92
     rw[if_pos (by decide),wb_M (by omega)]
     exact step (i+1+1) 92 (by omega) rfl hd rfl
    rw[if_neg (by simpa using d92)]
    by_cases d110:d=110
    ·subst d110
     rw[if_pos (by decide),wb_M (by omega)]
     exact step (i+1+1) 10 (by omega) rfl hd rfl
    rw[if_neg (by simpa using d110)]
    refine⟨_,rfl,fun t N p e h he=>?_⟩
    simp only[Sum.inl.injEq,Prod.mk.injEq] at h
    omega
   ·rw[if_neg (by simp[ltI];omega),if_pos (by decide)]
    refine⟨_,rfl,fun t N p e h he=>?_⟩
    simp only[Sum.inl.injEq,Prod.mk.injEq] at h
    omega
  ·rw[if_neg (by simp[c92]),if_neg (by simpa using c92),vis_M]
   simp only[zCl]
   cases hv:(decide (32<=c.toNat)&&decide (c.toNat<=126))
   ·refine⟨_,rfl,fun t N p e h he=>?_⟩
    simp only[Sum.inl.injEq,Prod.mk.injEq] at h
    omega
   ·simp only[Bool.not_true,Bool.false_eq_true,if_false]
    rw[wb_M (by omega)]
    have c10: ¬c=10:=fun h=>by subst h;revert hv;decide
    have he:esc c=[c]:=by unfold esc;rw[if_neg c10,if_neg (by simp[c34,c92])]
    exact step (i+1) c (by omega) (by unfold okc;rw[hv];simp) (by rw[he];exact hd) (by rw[he];rfl)
theorem literal_total(s:List UInt8){fuel:Nat}(hs:s.length<=100000)(hf:s.length+1<=fuel): ∃r,zCw fuel s=some r∧
 (r.2.2.2=0->∃m rest,r.1=m∧m.all okc=true∧s.drop 1=qs m++34::rest∧r.2.1=((1+(qs m).length+1:Nat):Int)):=by
 obtain⟨o,o1,o2⟩:=lit_sound s hs s.length 1 fuel [] (by omega) hf (by simp;omega)
 rw[zCw,o1]
 simp only[zCl]
 cases o with
 |inl x=>
  obtain⟨t,N,p,e⟩:=x
  refine⟨_,rfl,fun he=>?_⟩
  obtain⟨m,r,m1,m2,m3,m4⟩:=o2 t N p e rfl he
  exact⟨m,r,by simpa using m1,m2,m3,m4⟩
 |inr x=>exact⟨_,rfl,fun he=>by simp at he⟩
theorem last_loop(s:List UInt8)(c:UInt8)(hs:s.length<=100000): ∀(i k:Nat)(I:Int),I=(i:Int)-1->i<=s.length->i+1<=k->∃o,zAM s c k I=some o∧∀z,o=.inl z->0<=z∧z<=s.length:=by
 intro i
 induction i with
 |zero=>
  intro k I hI hi hk
  obtain⟨g,rfl⟩: ∃g,k=g+1:=⟨k-1,by omega⟩
  rw[zAM,if_neg (by simp[leI];omega)]
  exact⟨_,rfl,fun z h=>by cases h⟩
 |succ i ih=>
  intro k I hI hi hk
  obtain⟨g,rfl⟩: ∃g,k=g+1:=⟨k-1,by omega⟩
  have hI':I=(i:Int):=by omega
  have hx:s[i]? =some s[i]:=zq2 (by omega)
  rw[zAM,if_pos (by simp[leI];omega),hI',idx,if_pos (by omega)]
  simp only[Int.toNat_natCast,hx,zCl]
  cases eqI ((s[i]).toNat:Int) (c.toNat:Int)
  ·simp only[Bool.false_eq_true,if_false]
   exact ih g _ rfl (by omega) (by omega)
  ·exact⟨_,rfl,fun z h=>by simp at h;omega⟩
theorem place_total(s:List UInt8)(at_:Nat){fuel:Nat}(hs:s.length<=100000)(ha:at_<=s.length)(hf:s.length+2<=fuel): ∃p,zCQ fuel s (at_:Int)=some p:=by
 rw[zCQ,subC,if_pos ⟨by omega,by omega,by omega⟩]
 simp only[zCl]
 have hsub:sub s 0 (at_:Int)=s.take at_:=by simp[sub]
 rw[hsub]
 have hl:(s.take at_).length<=at_:=by simp;omega
 have hc:Lib.countByte (s.take at_) 10<=(s.take at_).length:=List.count_le_length
 rw[zDB]
 simp only[zCl]
 rw[zIV (by omega) (by omega)]
 simp only[zCl]
 rw[zCB,zBX,zIV (by omega) (by omega)]
 simp only[zCl]
 obtain⟨o,o1,o2⟩:=last_loop (s.take at_) 10 (by omega) (s.take at_).length fuel _ rfl (by omega) (by omega)
 rw[o1]
 cases o with
 |inl z=>
  obtain⟨z1,z2⟩:=o2 z rfl
  simp only[zCl,Sum.elim_inl]
  rw[zIV (by omega) (by omega)]
  exact⟨_,rfl⟩
 |inr u=>
  simp only[zCl,Sum.elim_inr]
  rw[zIV (by omega) (by omega)]
  exact⟨_,rfl⟩
theorem sub_all(s:List UInt8):sub s 0 (s.length:Int)=s:=by simp[sub]
theorem skip_quote(t:List UInt8){fuel:Nat}(hf:1<=fuel):zBt fuel (zJs.mk (34::t) 0)=some (-1,zJs.mk (34::t) 0):=by
 obtain⟨g,rfl⟩: ∃g,fuel=g+1:=⟨fuel-1,by omega⟩
 rw[zBt,zA5,if_pos (by simp[ltI]),subC,if_pos ⟨by simp,by simp,by simp⟩]
 simp only[zCl]
 rw[sub_all]
 simp only[List.getElem?_cons_zero,zCl]
 have h1:zB1 [32,9,10] 34=some (-1):=by rfl
 rw[h1]
 have h2:leI 0 (-1)=false:=rfl
 simp only[zCl,h2,Bool.false_eq_true,if_false]
 have h3:zA8 (34::t) [40,42]=some false:=by
  rw[zA8,zBC]
  by_cases hl:leI (([40,42]:List UInt8).length:Int) ((34::t:List UInt8).length:Int)=true
  ·rw[if_pos hl]
   have hl':=leT hl
   rw[subC,if_pos ⟨by omega,by simp,hl'⟩]
   simp only[zCl]
   have:eqS (sub (34::t) 0 (([40,42]:List UInt8).length:Int)) [40,42]=false:=decide_eq_false (by simp[sub])
   rw[this]
  ·rw[if_neg hl];rfl
 rw[h3]
 rfl
theorem idxN{α:Type}(l:List α)(i:Nat):idx l (i:Int)=l[i]? :=by rw[idx,if_pos (by omega)];simp
theorem subD(s:List UInt8)(i:Nat)(h:i<=s.length):subC s (i:Int) (s.length:Int)=some (s.drop i):=by
 rw[subC,if_pos ⟨by omega,by omega,by omega⟩]
 unfold sub
 rw[List.take_of_length_le (by simp)]
 simp
theorem subT(s:List UInt8)(n:Nat)(h:n<=s.length):subC s 0 (n:Int)=some (s.take n):=by
 rw[subC,if_pos ⟨by omega,by omega,by omega⟩]
 simp[sub]
def pre(s t:List UInt8):Bool:=decide (s.take t.length=t)
theorem has_M(s t:List UInt8):zA8 s t=some (pre s t):=by
 rw[zA8,zBC]
 by_cases h:t.length<=s.length
 ·rw[if_pos (show leI (t.length:Int) (s.length:Int)=true from zqb (by omega)),subT s t.length h]
  rfl
 ·rw[if_neg (show¬leI (t.length:Int) (s.length:Int)=true from fun h'=>by have:=leT h';omega)]
  have:pre s t=false:=decide_eq_false fun e=>by have:=congrArg List.length e;simp at this;omega
  rw[this];rfl
def smB(c:UInt8):Bool:=(leI 97 (c.toNat:Int))&&(leI (c.toNat:Int) 122)
def caB(c:UInt8):Bool:=(leI 65 (c.toNat:Int))&&(leI (c.toNat:Int) 90)
def diB(c:UInt8):Bool:=(leI 48 (c.toNat:Int))&&(leI (c.toNat:Int) 57)
def inB(c:UInt8):Bool:=smB c||(caB c||(diB c||eqI (c.toNat:Int) 95))
theorem small_M(c:UInt8):zDL c=some (smB c):=rfl
theorem capital_M(c:UInt8):zDc c=some (caB c):=rfl
theorem digit_M(c:UInt8):zDr c=some (diB c):=rfl
theorem inner_M(c:UInt8):zET c=some (inB c):=by
 rw[zET,small_M,capital_M,digit_M]
 unfold inB
 cases smB c<;>cases caB c<;>cases diB c<;>rfl
def cw(p:UInt8->Bool)(s:List UInt8)(i:Nat):Nat:=i+((s.drop i).takeWhile p).length
theorem cw_le(p:UInt8->Bool)(s:List UInt8)(i:Nat)(h:i<=s.length):i<=cw p s i∧cw p s i<=s.length:=by
 unfold cw
 have h1:=(List.takeWhile_prefix p (l:=s.drop i)).length_le
 simp at h1
 omega
theorem cw_end(p:UInt8->Bool)(s:List UInt8)(i:Nat)(h:s.length<=i):cw p s i=i:=by
 unfold cw;rw[List.drop_eq_nil_of_le h];simp
theorem cw_step(p:UInt8->Bool)(s:List UInt8)(i:Nat)(c:UInt8)(h:s[i]? =some c):cw p s i=if p c=true then cw p s (i+1) else i:=by
 obtain⟨hi,rfl⟩:=zq1 h
 unfold cw
 rw[List.drop_eq_getElem_cons hi,List.takeWhile_cons]
 split
 ·simp;omega
 ·simp
theorem inner_loop(s:List UInt8)(hs:s.length<=100000): ∀(n i k:Nat)(I:Int),I=i->s.length-i<=n->n+1<=k->i<=s.length->zBD s k I=some ((cw inB s i:Nat):Int):=by
 intro n
 induction n with
 |zero=>
  intro i k I hI hi hk hl
  obtain⟨g,rfl⟩: ∃g,k=g+1:=⟨k-1,by omega⟩
  rw[zBD,if_neg (show¬ltI I (s.length:Int)=true from fun h=>by have:=ltT h;omega),cw_end _ _ _ (by omega),hI]
  rfl
 |succ n ih=>
  intro i k I hI hi hk hl
  obtain⟨g,rfl⟩: ∃g,k=g+1:=⟨k-1,by omega⟩
  rw[zBD]
  by_cases hlt:i<s.length
  ·have hx:s[i]? =some s[i]:=zq2 hlt
   generalize s[i]=c at hx
   rw[if_pos (show ltI I (s.length:Int)=true from zqb (by omega)),hI,idxN,hx,cw_step _ _ _ _ hx]
   simp only[zCl,inner_M]
   cases inB c
   ·rfl
   ·simp only[if_true]
    rw[zIV (by omega) (by omega)]
    simp only[zCl]
    exact ih (i+1) g _ (by omega) (by omega) (by omega) (by omega)
  ·rw[if_neg (show¬ltI I (s.length:Int)=true from fun h=>by have:=ltT h;omega),cw_end _ _ _ (by omega),hI]
   rfl
theorem digit_loop(s:List UInt8)(hs:s.length<=100000): ∀(n i k:Nat)(I:Int),I=i->s.length-i<=n->n+1<=k->i<=s.length->zBE s k I=some ((cw diB s i:Nat):Int):=by
 intro n
 induction n with
 |zero=>
  intro i k I hI hi hk hl
  obtain⟨g,rfl⟩: ∃g,k=g+1:=⟨k-1,by omega⟩
  rw[zBE,if_neg (show¬ltI I (s.length:Int)=true from fun h=>by have:=ltT h;omega),cw_end _ _ _ (by omega),hI]
  rfl
 |succ n ih=>
  intro i k I hI hi hk hl
  obtain⟨g,rfl⟩: ∃g,k=g+1:=⟨k-1,by omega⟩
  rw[zBE]
  by_cases hlt:i<s.length
  ·have hx:s[i]? =some s[i]:=zq2 hlt
   generalize s[i]=c at hx
   rw[if_pos (show ltI I (s.length:Int)=true from zqb (by omega)),hI,idxN,hx,cw_step _ _ _ _ hx]
   simp only[zCl,digit_M]
   cases diB c
   ·rfl
   ·simp only[if_true]
    rw[zIV (by omega) (by omega)]
    simp only[zCl]
    exact ih (i+1) g _ (by omega) (by omega) (by omega) (by omega)
  ·rw[if_neg (show¬ltI I (s.length:Int)=true from fun h=>by have:=ltT h;omega),cw_end _ _ _ (by omega),hI]
   rfl
theorem inner_len{s:List UInt8}{fuel:Nat}(hs:s.length<=100000)(hf:s.length+1<=fuel):zCH fuel s=some ((cw inB s 0:Nat):Int):=by
 rw[zCH,inner_loop s hs s.length 0 fuel 0 rfl (by omega) hf (by omega)];rfl
theorem digit_len{s:List UInt8}{fuel:Nat}(hs:s.length<=100000)(hf:s.length+1<=fuel):zCj fuel s=some ((cw diB s 0:Nat):Int):=by
 rw[zCj,digit_loop s hs s.length 0 fuel 0 rfl (by omega) hf (by omega)];rfl
def WORDS:List (List UInt8):=[[97,110,100,97,108,115,111],[99,97,115,101],[100,97,116,97],[100,105,118],[101,108,115,101],[101,110,100],[102,110],[102,117,110],[102,117,110,99,116,111,114],[103,101,110,101,114,97,116,105,118,101],[105,102],[105,109,112,111,114,116],[105,110],[105,110,99,108,117,100,101],[108,101,116],[109,111,100],[109,111,100,117,108,101],[111,102],[111,112,101,110],[111,114,101,108,115,101],[112,97,99,107],[115,104,97,114,105,110,103],[115,105,103],[115,105,103,110,97,116,117,114,101],[115,116,114,117,99,116],[115,116,114,117,99,116,117,114,101],[116,104,101,110],[116,121,112,101],[117,110,112,97,99,107],[118,97,108],[119,105,116,104]]
theorem ifs(c y:Bool):(if c=true then some true else some y)=some (c||y):=by cases c<;>rfl
theorem Keyword_M(s:List UInt8):zDd s=some (WORDS.any (fun w=>eqS s w)):=by
 unfold zDd
 simp only[ifs]
 rfl
theorem words_short{s:List UInt8}(h:WORDS.any (fun w=>eqS s w)=true):s.length<=24:=by
 obtain⟨w,hw,he⟩:=List.any_eq_true.1 h
 have e:s=w:=of_decide_eq_true he
 subst e
 have hall: ∀w∈WORDS,w.length<=24:=by decide
 exact hall _ hw
theorem chku8{n:Int}(h1:0<=n)(h2:n<=255):chk .u8 n=some n:=by rw[chk,if_pos];exact⟨h1,h2⟩
theorem number_loop(s:List UInt8)(hd: ∀c∈s,diB c=true): ∀(n i k:Nat)(m:Int),i+n=s.length->n+1<=k->0<=m->m<=4503599627370496->∃o,zAb s k m i=some o:=by
 intro n
 induction n with
 |zero=>
  intro i k m hi hk h0 h1
  obtain⟨g,rfl⟩: ∃g,k=g+1:=⟨k-1,by omega⟩
  rw[zAb,if_neg (show¬ltI (i:Int) (s.length:Int)=true from fun h=>by have:=ltT h;omega)]
  exact⟨_,rfl⟩
 |succ n ih=>
  intro i k m hi hk h0 h1
  obtain⟨g,rfl⟩: ∃g,k=g+1:=⟨k-1,by omega⟩
  have hx:s[i]? =some s[i]:=zq2 (by omega)
  have hc:=hd s[i] (List.getElem_mem _)
  generalize s[i]=c at hx hc
  unfold diB at hc
  rw[zq7] at hc
  have c1:=leT hc.1;have c2:=leT hc.2
  rw[zAb,if_pos (show ltI (i:Int) (s.length:Int)=true from zqb (by omega)),zIV (by omega) (by omega),hx]
  simp only[zCl]
  rw[chku8 (by omega) (by omega)]
  simp only[zCl]
  rw[zIV (by omega) (by omega)]
  simp only[zCl]
  by_cases hb:4503599627370496<10*m+((c.toNat:Int)-48)
  ·rw[if_pos (show ltI 4503599627370496 _=true from zqb hb)]
   exact⟨_,rfl⟩
  ·rw[if_neg (show¬ltI 4503599627370496 _=true from fun h=>hb (ltT h))]
   exact ih (i+1) g _ (by omega) (by omega) (by omega) (by omega)
theorem number_total(s:List UInt8){fuel:Nat}(hd: ∀c∈s,diB c=true)(hf:s.length+1<=fuel): ∃e,zCM fuel s=some e:=by
 obtain⟨o,ho⟩:=number_loop s hd s.length 0 fuel 0 (by simp) hf (by omega) (by omega)
 rw[zCM,ho]
 have fin: ∀b:Bool,∃e,(if b=true then some 3 else (some o).bind fun o=>Sum.elim some (fun o14=>some 0) o)=some e:=fun b=>by
  cases b
  ·cases o<;>exact⟨_,rfl⟩
  ·exact⟨_,rfl⟩
 by_cases h:1<s.length
 ·rw[if_pos (show ltI 1 (s.length:Int)=true from zqb (by omega)),zq2 (by omega:0<s.length)]
  simp only[zCl]
  exact fin _
 ·rw[if_neg (show¬ltI 1 (s.length:Int)=true from fun h'=>by have:=ltT h';omega)]
  simp only[zCl]
  exact fin false
theorem Sym_loop(s:List UInt8)(v:List (List UInt8)): ∀(n i k:Nat),i+n=v.length->n+1<=k->zBs s v k i=some (match (v.drop i).find? (pre s) with|some x=>.inl (x,true)|none=>.inr ()):=by
 intro n
 induction n with
 |zero=>
  intro i k hi hk
  obtain⟨g,rfl⟩: ∃g,k=g+1:=⟨k-1,by omega⟩
  rw[zBs,if_neg (show¬ltI (i:Int) (v.length:Int)=true from fun h=>by have:=ltT h;omega),List.drop_eq_nil_of_le (by omega)]
  rfl
 |succ n ih=>
  intro i k hi hk
  obtain⟨g,rfl⟩: ∃g,k=g+1:=⟨k-1,by omega⟩
  have hx:v[i]? =some v[i]:=zq2 (by omega)
  rw[zBs,if_pos (show ltI (i:Int) (v.length:Int)=true from zqb (by omega)),hx,List.drop_eq_getElem_cons (by omega),List.find?_cons]
  simp only[zCl,has_M]
  cases pre s v[i]
  ·simp only[Bool.false_eq_true,if_false]
   exact ih (i+1) g (by omega) (by omega)
  ·rfl
def SA:List (List UInt8):=[[58,62],[61,62],[45,62],[60,61]]
def SB:List UInt8:=[40,41,44,59,58,61,124,95,46,42,43,45,60,94,126]
def la(c:UInt8)(s:List UInt8):Nat->Int
 |0=> -1
 |i+1=>if s[i]? =some c then (i:Int) else la c s i
theorem la_lt(c:UInt8)(s:List UInt8): ∀i,-1<=la c s i∧la c s i<i
 |0=>by simp[la]
 |i+1=>by
  have:=la_lt c s i
  rw[la]
  split<;>omega
theorem eqB8(c d:UInt8):eqI (c.toNat:Int) (d.toNat:Int)=decide (c=d):=eq8 c d.toNat d rfl
theorem lastM_loop(s:List UInt8)(c:UInt8)(hs:s.length<=100000): ∀(i k:Nat)(I:Int),I=(i:Int)-1->i<=s.length->i+1<=k->∃o,zAM s c k I=some o∧Sum.elim id (fun _=> -1) o=la c s i:=by
 intro i
 induction i with
 |zero=>
  intro k I hI hi hk
  obtain⟨g,rfl⟩: ∃g,k=g+1:=⟨k-1,by omega⟩
  rw[zAM,if_neg (show¬leI 0 I=true from fun h=>by have:=leT h;omega)]
  exact⟨_,rfl,rfl⟩
 |succ i ih=>
  intro k I hI hi hk
  obtain⟨g,rfl⟩: ∃g,k=g+1:=⟨k-1,by omega⟩
  have hI':I=(i:Int):=by omega
  have hx:s[i]? =some s[i]:=zq2 (by omega)
  generalize s[i]=d at hx
  rw[zAM,if_pos (show leI 0 I=true from zqb (by omega)),hI',idxN,hx,la,hx]
  simp only[zCl,eqB8,Option.some.injEq]
  by_cases h:d=c
  ·subst h
   rw[zqb rfl,if_pos rfl,if_pos rfl]
   exact⟨_,rfl,rfl⟩
  ·rw[decide_eq_false h,if_neg (by simp),if_neg h]
   exact ih g _ rfl (by omega) (by omega)
theorem la_take(c:UInt8)(s:List UInt8)(n:Nat): ∀i,i<=n->la c (s.take n) i=la c s i
 |0,_=>rfl
 |i+1,h=>by
  have e:(s.take n)[i]? =s[i]? :=by
   rw[List.getElem?_take,if_pos (by omega)]
  show(if (s.take n)[i]? =some c then (i:Int) else la c (s.take n) i)=(if s[i]? =some c then (i:Int) else la c s i)
  rw[la_take c s n i (by omega),e]
def PL(s:List UInt8)(i:Nat):zJw:=zJw.mk (1+(Lib.countByte (s.take i) 10:Nat)) ((i:Int)-la 10 s i)
theorem place_M(s:List UInt8)(i:Nat){fuel:Nat}(hs:s.length<=100000)(hi:i<=s.length)(hf:s.length+2<=fuel):zCQ fuel s (i:Int)=some (PL s i):=by
 have hl:(s.take i).length=i:=by simp;omega
 have hc:Lib.countByte (s.take i) 10<=(s.take i).length:=List.count_le_length
 have hla:=la_lt 10 s i
 rw[zCQ,subT s i hi]
 simp only[zCl,zDB]
 rw[zIV (by omega) (by omega)]
 simp only[zCl]
 rw[zCB,zBX,hl,zIV (by omega) (by omega)]
 simp only[zCl]
 obtain⟨o,o1,o2⟩:=lastM_loop (s.take i) 10 (by omega) i fuel _ rfl (by omega) (by omega)
 rw[la_take 10 s i i (by omega)] at o2
 rw[o1]
 have fin:(Option.bind (some (Sum.elim id (fun _=>(-1:Int)) o)) fun v14=>(chk .i64 ((i:Int)-v14)).bind fun n16=>some (zJw.mk (1+(Lib.countByte (s.take i) 10:Nat)) n16))=some (PL s i):=by
  rw[o2,zCl,zIV (by omega) (by omega),zCl];rfl
 cases o with
 |inl z=>exact fin
 |inr u=>exact fin
theorem pre2(t:List UInt8)(a b:UInt8):pre t [a,b]=true↔∃r,t=a::b::r:=by
 unfold pre
 rw[decide_eq_true_eq]
 constructor
 ·intro h
  match t,h with
  |[],h=>simp at h
  |[x],h=>simp at h
  |x::y::r,h=>simp at h;exact⟨r,by rw[h.1,h.2]⟩
 ·rintro⟨r,rfl⟩;simp
theorem e41(c:UInt8):eqI (c.toNat:Int) 41=decide (c=41):=eq8 c 41 41 rfl
def blank(c:UInt8):Bool:=decide (c=32)||(decide (c=9)||decide (c=10))
theorem e32(c:UInt8):eqI (c.toNat:Int) 32=decide (c=32):=eq8 c 32 32 rfl
theorem e9(c:UInt8):eqI (c.toNat:Int) 9=decide (c=9):=eq8 c 9 9 rfl
theorem e39(c:UInt8):eqI (c.toNat:Int) 39=decide (c=39):=eq8 c 39 39 rfl
theorem blank_L(c:UInt8):zB1 [32,9,10] c=some (Lib.indexByte [32,9,10] c):=rfl
theorem blank_I(c:UInt8):leI 0 (Lib.indexByte [32,9,10] c)=blank c:=by
 unfold blank
 by_cases h1:c=32
 ·subst h1;rfl
 by_cases h2:c=9
 ·subst h2;rfl
 by_cases h3:c=10
 ·subst h3;rfl
 have n1: ¬32=c:=fun e=>h1 e.symm
 have n2: ¬9=c:=fun e=>h2 e.symm
 have n3: ¬10=c:=fun e=>h3 e.symm
 have:Lib.indexByte [32,9,10] c= -1:=by simp[Lib.indexByte,n1,n2,n3]
 rw[this]
 simp[h1,h2,h3,leI]
theorem vis_N(n:Nat):((ltI (n:Int) 32)||(ltI 126 (n:Int)))= !(decide (32<=n)&&decide (n<=126)):=by
 cases h1:ltI (n:Int) 32
 ·have c1:=ltF h1
  cases h2:ltI 126 (n:Int)
  ·have c2:=ltF h2
   rw[zqb (by omega:32<=n),zqb (by omega:n<=126)];rfl
  ·have c2:=ltT h2
   rw[decide_eq_false (by omega: ¬n<=126)];simp
 ·have c1:=ltT h1
  rw[decide_eq_false (by omega: ¬32<=n)];simp
theorem t1_M(kind n:Int)(text s:List UInt8)(a N:Nat)(hn:n=N)(h:a+N<=1000000):zAo kind n text (zJs.mk s (a:Int))=some (zJu.mk kind text (zJw.mk 0 0),0,0,zJs.mk s ((a+N:Nat):Int)):=by
 have k:chk .i64 ((a:Int)+n)=some ((a+N:Nat):Int):=by rw[zIV (by omega) (by omega)];congr 1;omega
 rw[zAo]
 dsimp only
 rw[k];rfl
theorem t2_M(by_ e:Int)(s:List UInt8)(a P:Nat)(hp:by_=P)(h:a+P<=1000000):zAv by_ e (zJs.mk s (a:Int))=some (zJu.mk 0 [] (zJw.mk 0 0),((a+P:Nat):Int),e):=by
 have k:chk .i64 ((a:Int)+by_)=some ((a+P:Nat):Int):=by rw[zIV (by omega) (by omega)];congr 1;omega
 rw[zAv]
 dsimp only
 rw[k];rfl
theorem cw_pos{p:UInt8->Bool}{c:UInt8}{r:List UInt8}(h:p c=true):1<=cw p (c::r) 0:=by
 rw[cw_step p (c::r) 0 c rfl,if_pos h]
 exact(cw_le p (c::r) 1 (by simp)).1
theorem sm_in{c:UInt8}(h:(smB c||caB c)=true):inB c=true:=by
 unfold inB
 cases h1:smB c
 ·rw[h1] at h;rw[Bool.false_or] at h;rw[h];rfl
 ·rfl
theorem tw_all(p:UInt8->Bool): ∀l:List UInt8,∀c∈l.takeWhile p,p c=true
 |[],c,h=>by cases h
 |x::l,c,h=>by
  rw[List.takeWhile_cons] at h
  split at h
  ·rename_i hx
   rcases List.mem_cons.1 h with rfl|h
   ·exact hx
   ·exact tw_all p l c h
  ·cases h
theorem take_all(p:UInt8->Bool)(t:List UInt8): ∀c∈t.take (cw p t 0),p c=true:=by
 intro c hc
 have e:t.take (cw p t 0)=t.takeWhile p:=by
  unfold cw
  simp only[List.drop_zero,Nat.zero_add]
  exact(List.prefix_iff_eq_take.1 (List.takeWhile_prefix p)).symm
 rw[e] at hc
 exact tw_all p t c hc
theorem lit_one(s:List UInt8)(hs:s.length<=100000): ∀(n i k:Nat)(b:List UInt8),s.length-i<=n->n+1<=k->i<=s.length->b.length+n<=1000000->
 ∃(x:List UInt8) (N p e:Int),(zAP s k b i).bind (fun o=>Sum.elim some (fun o4=>some (([]:List UInt8),(0:Int),(0:Int),(4:Int))) o)=some (x,N,p,e)∧
  (e=0->∃q:Nat,N=q∧i<q∧q<=s.length)∧(∃q:Nat,p=q∧q<=s.length):=by
 intro n
 induction n using Nat.strongRecOn with
 |_ n ih=>
 intro i k b hn hk hi hb
 obtain⟨g,rfl⟩: ∃g,k=g+1:=⟨k-1,by omega⟩
 rw[zAP]
 by_cases hend:s.length<=i
 ·rw[if_neg (show¬ltI (i:Int) (s.length:Int)=true from fun h=>by have:=ltT h;omega)]
  have he:eqI (i:Int) (s.length:Int)=true:=zqb (by omega)
  exact⟨[],0,0,4,rfl,(fun h=>absurd h (by decide)),0,rfl,by omega⟩
 have hx:s[i]? =some s[i]:=zq2 (by omega)
 generalize s[i]=c at hx
 have hidx:idx s (i:Int)=some c:=by rw[idxN];exact hx
 have k1:chk .i64 ((i:Int)+1)=some ((i:Int)+1):=zIV (by omega) (by omega)
 have k2:chk .i64 ((i:Int)+2)=some ((i:Int)+2):=zIV (by omega) (by omega)
 have hlt:ltI (i:Int) (s.length:Int)=true:=zqb (by omega)
 have next: ∀(j:Nat)(z:UInt8),i<j->j<=s.length->∃(x:List UInt8) (N p e:Int),(zAP s g (b++[z]) j).bind (fun o=>Sum.elim some (fun o4=>some (([]:List UInt8),(0:Int),(0:Int),(4:Int))) o)=some (x,N,p,e)∧
  (e=0->∃q:Nat,N=q∧i<q∧q<=s.length)∧(∃q:Nat,p=q∧q<=s.length):=fun j z hj1 hj2=>by
  obtain⟨x,N,p,e,h1,h3,h4⟩:=ih (n-1) (by omega) j g (b++[z]) (by omega) (by omega) hj2 (by simp;omega)
  exact⟨x,N,p,e,h1,fun h=>by obtain⟨q,q1,q2,q3⟩:=h3 h;exact⟨q,q1,by omega,q3⟩,h4⟩
 have hcat: ∀z:UInt8,cat b [z]=some (b++[z]):=fun z=>by rw[cat,if_pos (by simp;omega)]
 have hwb: ∀z:UInt8,zAm z b=some (b++[z]):=fun z=>wb_M (by omega)
 simp only[hlt,if_true,hx,hidx,zCl,e34,e92,e110]
 by_cases c34:c=34
 ·rw[zqb c34]
  have he:eqI (i:Int) (s.length:Int)=false:=decide_eq_false (by omega)
  exact⟨b,(i:Int)+1,0,0,rfl,fun _=>⟨i+1,by omega,by omega,by omega⟩,0,rfl,by omega⟩
 rw[decide_eq_false c34]
 simp only[Bool.false_eq_true,if_false,Bool.not_false,if_true,zCl]
 by_cases c92:c=92
 ·rw[zqb c92]
  simp only[if_true,Bool.true_and,k1,zCl]
  by_cases hlt2:i+1<s.length
  ·have hx2:s[i+1]? =some s[i+1]:=zq2 hlt2
   generalize s[i+1]=z at hx2
   have hidx2:idx s ((i:Int)+1)=some z:=by rw[show((i:Int)+1)=((i+1:Nat):Int) by omega,idxN];exact hx2
   have h1:ltI ((i+1:Nat):Int) (s.length:Int)=true:=zqb (by omega)
   have h2:eqI ((i:Int)+1) (s.length:Int)=false:=decide_eq_false (by omega)
   have e2:((i:Int)+2)=((i+1+1:Nat):Int):=by omega
   simp only[h1,if_true,hx2,zCl,h2,Bool.false_eq_true,if_false,hidx2,e34,e92,e110,hcat,hwb,k2]
   by_cases z34:z=34
   ·subst z34
    simp only[decide_true,if_true,show decide ((34:UInt8)=110)=false from rfl,Bool.false_eq_true,if_false]
    try rw[e2]
    exact next (i+1+1) 34 (by omega) (by omega)
   by_cases z92:z=92
   ·subst z92
    simp only[decide_true,if_true,show decide ((92:UInt8)=110)=false from rfl,show decide ((92:UInt8)=34)=false from rfl,Bool.false_eq_true,if_false]
    try rw[e2]
    exact next (i+1+1) 92 (by omega) (by omega)
   by_cases z110:z=110
   ·subst z110
    simp only[decide_true,if_true,show decide ((110:UInt8)=92)=false from rfl,show decide ((110:UInt8)=34)=false from rfl,Bool.false_eq_true,if_false]
    try rw[e2]
    exact next (i+1+1) 10 (by omega) (by omega)
   simp only[decide_eq_false z34,decide_eq_false z92,decide_eq_false z110,Bool.false_eq_true,if_false,zCl,Sum.elim_inl]
   exact⟨[],0,(i:Int),3,by first|rfl|rw[show(((i+1:Nat):Int)-1)=(i:Int) by omega],(fun h=>absurd h (by decide)),i,rfl,by omega⟩
  ·have h1:ltI ((i+1:Nat):Int) (s.length:Int)=false:=decide_eq_false (by omega)
   have h2:eqI ((i:Int)+1) (s.length:Int)=true:=zqb (by omega)
   simp only[h1,Bool.false_eq_true,if_false,h2,if_true]
   exact⟨[],0,0,4,rfl,(fun h=>absurd h (by decide)),0,rfl,by omega⟩
 ·rw[decide_eq_false c92]
  simp only[Bool.false_and,Bool.false_eq_true,if_false,vis_M,zCl]
  have hv:=vis_N c.toNat
  try rw[hv]
  cases hvv:(decide (32<=c.toNat)&&decide (c.toNat<=126))
  ·exact⟨[],0,(i:Int),3,rfl,(fun h=>absurd h (by decide)),i,rfl,by omega⟩
  ·have hsub:subC s (i:Int) ((i:Int)+1)=some [c]:=by
    rw[subC,if_pos ⟨by omega,by omega,by omega⟩]
    have:s.drop i=c::s.drop (i+1):=by
     obtain⟨hl,he⟩:=zq1 hx
     rw[List.drop_eq_getElem_cons hl,he]
    have e1:((i:Int)+1).toNat-(i:Int).toNat=1:=by omega
    unfold sub
    rw[e1,Int.toNat_natCast,this]
    rfl
   simp only[Bool.not_true,Bool.false_eq_true,if_false,hwb,zCl,k1,hsub,hcat]
   try rw[show((i:Int)+1)=((i+1:Nat):Int) by omega]
   exact next (i+1) c (by omega) (by omega)
theorem literal_one(s:List UInt8){fuel:Nat}(hs:s.length<=100000)(h1:1<=s.length)(hf:s.length+1<=fuel): ∃(x:List UInt8) (N p e:Int),zCw fuel s=some (x,N,p,e)∧
 (e=0->∃q:Nat,N=q∧1<=q∧q<=s.length)∧(∃q:Nat,p=q∧q<=s.length):=by
 obtain⟨x,N,p,e,a1,a3,a4⟩:=lit_one s hs s.length 1 fuel [] (by omega) (by omega) h1 (by simp;omega)
 exact⟨x,N,p,e,a1,fun h=>by obtain⟨q,q1,q2,q3⟩:=a3 h;exact⟨q,q1,by omega,q3⟩,a4⟩
def lt:List UInt8->Option (List UInt8×List UInt8)
 |[]=>none
 |c::s=>
  if c=34 then some ([],s)
  else if c=92 then
   match s with
   |[]=>none
   |d::s'=>if d=34∨d=92∨d=110 then (lt s').map (fun q=>((if d=110 then 10 else d)::q.1,q.2)) else none
  else if 32<=c.toNat∧c.toNat<=126 then (lt s).map (fun q=>(c::q.1,q.2)) else none
theorem lt_cons(c:UInt8)(s:List UInt8):lt (c::s)=if c=34 then some ([],s)
 else if c=92 then
  match s with
  |[]=>none
  |d::s'=>if d=34∨d=92∨d=110 then (lt s').map (fun q=>((if d=110 then 10 else d)::q.1,q.2)) else none
 else if 32<=c.toNat∧c.toNat<=126 then (lt s).map (fun q=>(c::q.1,q.2)) else none:=by rw[lt.eq_def]
theorem lt_qs(r:List UInt8): ∀m:List UInt8,m.all okc=true->lt (qs m++34::r)=some (m,r)
 |[],_=>by show lt (34::r)=_;rw[lt_cons,if_pos rfl]
 |c::m,h=>by
  rw[List.all_cons,zq7] at h
  have ih:=lt_qs r m h.2
  rw[zHH,List.append_assoc]
  by_cases c10:c=10
  ·subst c10
   have he:esc 10=[92,110]:=rfl
   rw[he]
   show lt (92::110::(qs m++34::r))=_
   rw[lt_cons]
   simp[ih]
  ·by_cases c2:c=34∨c=92
   ·have he:esc c=[92,c]:=by unfold esc;rw[if_neg c10,if_pos c2]
    rw[he]
    show lt (92::c::(qs m++34::r))=_
    rw[lt_cons]
    have n110: ¬c=110:=by rcases c2 with rfl|rfl<;>decide
    rcases c2 with c2|c2<;>simp[ih,c2]
   ·have he:esc c=[c]:=by unfold esc;rw[if_neg c10,if_neg c2]
    rw[he]
    show lt (c::(qs m++34::r))=_
    rw[lt_cons]
    have hv:32<=c.toNat∧c.toNat<=126:=by
     have:=h.1
     unfold okc at this
     simpa[c10] using this
    rw[if_neg (fun e=>c2 (.inl e)),if_neg (fun e=>c2 (.inr e)),if_pos hv,ih]
    rfl
theorem lt_sound: ∀(n:Nat)(s m r:List UInt8),s.length<=n->lt s=some (m,r)->m.all okc=true∧s=qs m++34::r:=by
 intro n
 induction n with
 |zero=>
  intro s m r hs h
  have:s=[]:=List.length_eq_zero_iff.1 (by omega)
  subst this
  cases h
 |succ n ih=>
  intro s m r hs h
  match s,hs,h with
  |[],hs,h=>cases h
  |c::s,hs,h=>
   rw[lt_cons] at h
   simp only[List.length_cons] at hs
   by_cases c34:c=34
   ·subst c34
    rw[if_pos rfl] at h
    cases h
    exact⟨rfl,rfl⟩
   rw[if_neg c34] at h
   by_cases c92:c=92
   ·subst c92
    rw[if_pos rfl] at h
    match s,hs,h with
    |[],hs,h=>cases h
    |d::s',hs,h=>
     simp only[List.length_cons] at hs
     by_cases hd:d=34∨d=92∨d=110
     ·simp only[hd,if_true] at h
      cases hl:lt s' with
      |none=>rw[hl] at h;cases h
      |some q=>
       obtain⟨m',r'⟩:=q
       rw[hl] at h
       simp only[Option.map_some,Option.some.injEq,Prod.mk.injEq] at h
       obtain⟨rfl,rfl⟩:=h
       obtain⟨a1,a2⟩:=ih s' m' r' (by omega) hl
       rw[a2]
       rcases hd with rfl|rfl|rfl
       ·exact⟨by rw[List.all_cons,a1];rfl,by rw[zHH];rfl⟩
       ·exact⟨by rw[List.all_cons,a1];rfl,by rw[zHH];rfl⟩
       ·exact⟨by rw[List.all_cons,a1];rfl,by rw[zHH];rfl⟩
     ·simp only[hd,if_false] at h;cases h
   ·rw[if_neg c92] at h
    by_cases hv:32<=c.toNat∧c.toNat<=126
    ·rw[if_pos hv] at h
     cases hl:lt s with
     |none=>rw[hl] at h;cases h
     |some q=>
      obtain⟨m',r'⟩:=q
      rw[hl] at h
      simp only[Option.map_some,Option.some.injEq,Prod.mk.injEq] at h
      obtain⟨rfl,rfl⟩:=h
      obtain⟨a1,a2⟩:=ih s m' r' (by omega) hl
      have c10: ¬c=10:=fun e=>by subst e;revert hv;decide
      have he:esc c=[c]:=by unfold esc;rw[if_neg c10,if_neg (by simp[c34,c92])]
      exact⟨by rw[List.all_cons,a1,okc];simp[hv],by rw[zHH,he,a2];rfl⟩
    ·rw[if_neg hv] at h;cases h
def cmt:Nat->List UInt8->Option (List UInt8)
 |_,[]=>none
 |_,[_]=>none
 |d,x::y::r=>if x=40∧y=42 then cmt (d+1) r else if x=42∧y=41 then (if d<=1 then some r else cmt (d-1) r) else cmt d (y::r)
theorem cmt_len: ∀(n d:Nat)(s r:List UInt8),s.length<=n->cmt d s=some r->r.length+2<=s.length:=by
 intro n
 induction n using Nat.strongRecOn with
 |_ n ih=>
 intro d s r hs h
 match s,hs,h with
 |[],hs,h=>simp[cmt] at h
 |[x],hs,h=>simp[cmt] at h
 |x::y::t,hs,h=>
  rw[cmt] at h
  simp only[List.length_cons] at hs ⊢
  split at h
  ·have:=ih (n-2) (by omega) _ t r (by omega) h;omega
  ·split at h
   ·split at h
    ·cases h;omega
    ·have:=ih (n-2) (by omega) _ t r (by omega) h;omega
   ·have:=ih (n-1) (by omega) _ (y::t) r (by simp;omega) h
    simp only[List.length_cons] at this;omega
def skp(s:List UInt8):Option (List UInt8):=
 match s with
 |[]=>some []
 |c::r=>if blank c=true then skp r else if pre (c::r) [40,42]=true then
  match h:cmt 1 (r.drop 1) with
  |none=>none
  |some r'=>skp r'
  else some (c::r)
termination_by s.length
decreasing_by
 ·simp
 ·have:=cmt_len _ _ _ _ (Nat.le_refl _) h
  simp at this ⊢;omega
theorem skp_nil:skp []=some []:=by rw[skp]
theorem skp_blank{c:UInt8}{r:List UInt8}(h:blank c=true):skp (c::r)=skp r:=by rw[skp,if_pos h]
theorem skp_cmt(r:List UInt8):skp (40::42::r)=(cmt 1 r).bind skp:=by
 rw[skp,if_neg (by decide),if_pos (by rw[pre2];exact⟨r,rfl⟩)]
 split<;>rename_i h<;>rw[show cmt 1 r=_ from h]<;>rfl
theorem skp_else{c:UInt8}{r:List UInt8}(h:blank c=false)(h2:pre (c::r) [40,42]=false):skp (c::r)=some (c::r):=by rw[skp,if_neg (by simp[h]),if_neg (by simp[h2])]
def wd(s:List UInt8):Bool:=WORDS.any (fun w=>eqS s w)
def sy:List UInt8->List UInt8
 |[]=>[]
 |c::r=>if pre (c::r) [40,42]=true then [] else match SA.find? (pre (c::r)) with
  |some x=>x
  |none=>if 0<=Lib.indexByte SB c then [c] else []
def numE(x:List UInt8):Option Int:=zCM (x.length+1) x
theorem zJV(s:List UInt8): ∀(n i k k':Nat)(m:Int),i+n=s.length->n+1<=k->n+1<=k'->zAb s k m i=zAb s k' m i:=by
 intro n
 induction n with
 |zero=>
  intro i k k' m hi hk hk'
  obtain⟨g,rfl⟩: ∃g,k=g+1:=⟨k-1,by omega⟩
  obtain⟨g',rfl⟩: ∃g,k'=g+1:=⟨k'-1,by omega⟩
  rw[zAb,zAb,if_neg (show¬ltI (i:Int) (s.length:Int)=true from fun h=>by have:=ltT h;omega),if_neg (show¬ltI (i:Int) (s.length:Int)=true from fun h=>by have:=ltT h;omega)]
 |succ n ih=>
  intro i k k' m hi hk hk'
  obtain⟨g,rfl⟩: ∃g,k=g+1:=⟨k-1,by omega⟩
  obtain⟨g',rfl⟩: ∃g,k'=g+1:=⟨k'-1,by omega⟩
  rw[zAb,zAb]
  have e: ∀z,zAb s g z (i+1)=zAb s g' z (i+1):=fun z=>ih (i+1) g g' z (by omega) (by omega) (by omega)
  simp only[e]
theorem number_fuel{x:List UInt8}{fuel:Nat}(h:x.length+1<=fuel):zCM fuel x=numE x:=by
 unfold numE
 rw[zCM,zCM,zJV x x.length 0 fuel (x.length+1) 0 (by omega) h (Nat.le_refl _)]
def tk:List UInt8->Option (Int×List UInt8×List UInt8)
 |[]=>none
 |c::r=>
  if (smB c||caB c)=true then
   if 24<cw inB (c::r) 0 then none
   else some (if wd ((c::r).take (cw inB (c::r) 0))=true then 6 else if smB c=true then 1 else 2,(c::r).take (cw inB (c::r) 0),(c::r).drop (cw inB (c::r) 0))
  else if c=39 then
   match r with
   |[]=>none
   |d::r'=>if smB d=true then
    if 24<cw inB (d::r') 0+1 then none else some (3,(c::d::r').take (cw inB (d::r') 0+1),(c::d::r').drop (cw inB (d::r') 0+1))
    else none
  else if diB c=true then
   if numE ((c::r).take (cw diB (c::r) 0))=some 0 then some (4,(c::r).take (cw diB (c::r) 0),(c::r).drop (cw diB (c::r) 0)) else none
  else if c=34 then (lt r).map fun q=>(5,q.1,q.2)
  else if sy (c::r)=[] then none else some (7,sy (c::r),(c::r).drop (sy (c::r)).length)
theorem zHd(c:UInt8)(r:List UInt8){fuel:Nat}(hf:40<=fuel):zEA fuel (c::r)=some (sy (c::r),decide (sy (c::r)≠[]))∧(sy (c::r)).length<=(c::r).length∧(c::r).take (sy (c::r)).length=sy (c::r):=by
 rw[zEA,has_M,sy]
 simp only[zCl]
 cases h0:pre (c::r) [40,42]
 case true=>exact⟨rfl,by simp,rfl⟩
 simp only[Bool.false_eq_true,if_false]
 have hA:=Sym_loop (c::r) SA 4 0 fuel rfl (by omega)
 rw[List.drop_zero] at hA
 change ((zBs (c::r) SA fuel 0).bind _)=_∧_
 rw[hA]
 cases hfa:SA.find? (pre (c::r)) with
 |some x=>
  have hx:=List.find?_some hfa
  have hm:=List.mem_of_find?_eq_some hfa
  have hne:x≠[]:=by
   have: ∀x∈SA,x≠[]:=by decide
   exact this x hm
  have hxe:(c::r).take x.length=x:=of_decide_eq_true hx
  refine⟨by simp[hne],?_,hxe⟩
  have:=congrArg List.length hxe
  simp at this ⊢
  omega
 |none=>
  have hns:eqS (c::r) []=false:=decide_eq_false (by simp)
  simp only[zCl,Sum.elim_inr,hns,Bool.not_false,if_true,List.getElem?_cons_zero]
  have hI:zB1 [40,41,44,59,58,61,124,95,46,42,43,45,60,94,126] c=some (Lib.indexByte SB c):=rfl
  rw[hI]
  simp only[zCl]
  by_cases h:0<=Lib.indexByte SB c
  ·rw[if_pos h,show leI 0 (Lib.indexByte SB c)=true from zqb h]
   have:=subT (c::r) 1 (by simp)
   simp only[if_true]
   rw[show subC (c::r) 0 1=_ from this]
   exact⟨by simp,by simp,rfl⟩
  ·rw[if_neg h,show leI 0 (Lib.indexByte SB c)=false from decide_eq_false h]
   exact⟨by simp,by simp,rfl⟩
def TKS(s:List UInt8)(a:Nat)(L:zJu×Int×Int×zJs):Prop:=
 (L.2.2.1=0∧∃N:Nat,1<=N∧a+N<=s.length∧tk (s.drop a)=some (L.1.Kind,L.1.Text,s.drop (a+N))∧L.2.2.2=zJs.mk s ((a+N:Nat):Int))∨
 (L.2.2.1≠0∧tk (s.drop a)=none∧∃P:Nat,a+P<=s.length∧L.2.1=((a+P:Nat):Int))
theorem zHf(s:List UInt8)(hs:s.length<=100000)(a:Nat)(ha:a<s.length){fuel:Nat}(hf:s.length+100<=fuel):
 ∃L,zCY fuel (zJs.mk s (a:Int))=some L∧TKS s a L:=by
 have n3:(3:Int)≠0:=by decide
 have n5:(5:Int)≠0:=by decide
 have hlen:(s.drop a).length=s.length-a:=by simp
 have hdrop: ∀N,s.drop (a+N)=(s.drop a).drop N:=fun N=>by rw[List.drop_drop]
 unfold TKS
 simp only[hdrop]
 rw[zCY]
 dsimp only
 rw[subD s a (by omega)]
 simp only[zCl]
 have hTb:(s.drop a).length<=100000:=by omega
 have hTf:(s.drop a).length+1<=fuel:=by omega
 have hTp:1<=(s.drop a).length:=by omega
 generalize s.drop a=T at hlen hTb hTf hTp
 match T,hlen,hTb,hTf,hTp with
 |c::r,hlen,hTb,hTf,_=>
 have b13:(if smB c=true then some true else some (caB c))=some (smB c||caB c):=by cases smB c<;>rfl
 simp only[List.getElem?_cons_zero,zCl,small_M,capital_M,digit_M,b13]
 rw[tk.eq_def]
 dsimp only
 cases hsc:(smB c||caB c)
 case true=>
  have hp:=cw_pos (r:=r) (sm_in hsc)
  have hle:=(cw_le inB (c::r) 0 (by simp)).2
  rw[inner_len hTb hTf]
  simp only[if_true,zCl]
  generalize hN:cw inB (c::r) 0=N at hp hle
  rw[subT (c::r) N hle]
  simp only[zCl,Keyword_M]
  have tl:((c::r).take N).length=N:=by rw[List.length_take];omega
  cases hw:WORDS.any (fun w=>eqS ((c::r).take N) w)
  ·have hwd:wd ((c::r).take N)=false:=hw
   by_cases h24:24<N
   ·have h24':ltI 24 (N:Int)=true:=zqb (by omega)
    rw[t2_M 0 5 s a 0 rfl (by omega)]
    simp only[Bool.false_eq_true,if_false,h24',if_true,zCl,h24]
    exact⟨_,rfl,.inr ⟨n5,by first|rfl|trivial,0,by omega,rfl⟩⟩
   ·have h24':ltI 24 (N:Int)=false:=decide_eq_false (by omega)
    rw[t1_M 1 (N:Int) _ s a N rfl (by omega),t1_M 2 (N:Int) _ s a N rfl (by omega)]
    simp only[Bool.false_eq_true,if_false,h24',zCl,h24,hwd]
    cases smB c
    ·exact⟨_,rfl,.inl ⟨rfl,N,hp,by omega,by first|rfl|trivial,rfl⟩⟩
    ·exact⟨_,rfl,.inl ⟨rfl,N,hp,by omega,by first|rfl|trivial,rfl⟩⟩
  ·have hwd:wd ((c::r).take N)=true:=hw
   have hsh:=words_short hw
   rw[tl] at hsh
   have h24: ¬24<N:=by omega
   rw[t1_M 6 (N:Int) _ s a N rfl (by omega)]
   simp only[if_true,Bool.false_eq_true,if_false,zCl,h24,hwd]
   exact⟨_,rfl,.inl ⟨rfl,N,hp,by omega,by first|rfl|trivial,rfl⟩⟩
 simp only[Bool.false_eq_true,if_false,e39]
 by_cases c39:c=39
 ·rw[zqb c39]
  simp only[if_true]
  rw[if_pos c39]
  have hsub:subC (c::r) 1 ((c::r).length:Int)=some r:=by have:=subD (c::r) 1 (by simp);simpa using this
  rw[hsub]
  simp only[zCl]
  simp only[List.length_cons] at hlen hTb hTf
  match r,hlen,hTb,hTf with
  |[],hlen,hTb,hTf=>
   have h2:ltI (([c]:List UInt8).length:Int) 2=true:=zqb (by simp)
   rw[t2_M 0 3 s a 0 rfl (by omega)]
   simp only[h2,if_true,zCl]
   exact⟨_,rfl,.inr ⟨n3,by first|rfl|trivial,0,by omega,rfl⟩⟩
  |d::r',hlen,hTb,hTf=>
   simp only[List.length_cons] at hlen hTb hTf
   have h2:ltI ((c::d::r':List UInt8).length:Int) 2=false:=decide_eq_false (by simp;omega)
   simp only[h2,Bool.false_eq_true,if_false,List.getElem?_cons_succ,List.getElem?_cons_zero,zCl,small_M]
   cases hd:smB d
   ·rw[t2_M 0 3 s a 0 rfl (by omega)]
    simp only[Bool.not_false,if_true,zCl,Bool.false_eq_true,if_false]
    exact⟨_,rfl,.inr ⟨n3,by first|rfl|trivial,0,by omega,rfl⟩⟩
   ·have hin:inB d=true:=by unfold inB;rw[hd];rfl
    have hp:=cw_pos (r:=r') hin
    have hle:=(cw_le inB (d::r') 0 (by simp)).2
    simp only[if_true,Bool.false_eq_true,if_false,Bool.not_true,zCl]
    rw[inner_len (by simp;omega) (by simp;omega)]
    simp only[zCl]
    generalize cw inB (d::r') 0=N at hp hle
    simp only[List.length_cons] at hle
    have k1:chk .i64 (1+(N:Int))=some ((N+1:Nat):Int):=by rw[zIV (by omega) (by omega)];congr 1;omega
    rw[k1]
    simp only[zCl]
    by_cases h24:24<N+1
    ·have h24':ltI 24 ((N+1:Nat):Int)=true:=zqb (by omega)
     rw[t2_M 0 5 s a 0 rfl (by omega)]
     simp only[h24',if_true,zCl,h24]
     exact⟨_,rfl,.inr ⟨n5,by first|rfl|trivial,0,by omega,rfl⟩⟩
    ·have h24':ltI 24 ((N+1:Nat):Int)=false:=decide_eq_false (by omega)
     rw[subT (c::d::r') (N+1) (by simp;omega)]
     simp only[h24',Bool.false_eq_true,if_false,zCl,h24]
     rw[t1_M 3 ((N+1:Nat):Int) _ s a (N+1) rfl (by omega)]
     exact⟨_,rfl,.inl ⟨rfl,N+1,by omega,by omega,by first|rfl|trivial,rfl⟩⟩
 rw[decide_eq_false c39]
 simp only[Bool.false_eq_true,if_false]
 rw[if_neg c39]
 cases hdi:diB c
 case true=>
  have hp:=cw_pos (r:=r) hdi
  have hle:=(cw_le diB (c::r) 0 (by simp)).2
  rw[digit_len hTb hTf]
  have hall:=take_all diB (c::r)
  simp only[if_true,zCl]
  generalize cw diB (c::r) 0=N at hp hle hall
  rw[subT (c::r) N hle]
  simp only[zCl]
  obtain⟨e,he⟩:=number_total ((c::r).take N) (fuel:=fuel) hall (by rw[List.length_take];omega)
  have hE:=he
  rw[number_fuel (by rw[List.length_take];omega)] at hE
  rw[he]
  simp only[zCl]
  by_cases e0:e=0
  ·have h0:eqI e 0=true:=zqb e0
   rw[h0,t1_M 4 (N:Int) _ s a N rfl (by omega),if_pos (show numE ((c::r).take N)=some 0 by rw[hE,e0])]
   exact⟨_,rfl,.inl ⟨rfl,N,hp,by omega,by first|rfl|trivial,rfl⟩⟩
  ·have h0:eqI e 0=false:=decide_eq_false e0
   rw[h0,t2_M 0 e s a 0 rfl (by omega),if_neg (show¬numE ((c::r).take N)=some 0 from fun h=>e0 (by rw[hE] at h;exact zqa h))]
   exact⟨_,rfl,.inr ⟨e0,by first|rfl|trivial,0,by omega,rfl⟩⟩
 simp only[Bool.false_eq_true,if_false,e34]
 by_cases c34:c=34
 ·subst c34
  simp only[decide_true,if_true,zCl]
  obtain⟨x,N,p,e,l1,l3,P,hP,hPl⟩:=literal_one (34::r) (fuel:=fuel) hTb (by simp) hTf
  obtain⟨v,v1,v2⟩:=literal_total (34::r) (fuel:=fuel) hTb hTf
  rw[l1] at v1
  cases v1
  rw[l1]
  simp only[zCl]
  by_cases e0:e=0
  ·obtain⟨m,rest,m1,m2,m3,m4⟩:=v2 e0
   simp only at m1 m4
   subst m1
   have m3':r=qs x++34::rest:=by simpa using m3
   have hlr:=congrArg List.length m3'
   simp only[List.length_append,List.length_cons] at hlr hlen
   have h0:eqI e 0=true:=zqb e0
   clear l3 v2
   rw[h0,t1_M 5 N x s a (1+(qs x).length+1) m4 (by omega)]
   have hlt:lt r=some (x,rest):=by rw[m3'];exact lt_qs rest x m2
   rw[hlt]
   refine⟨_,rfl,.inl ⟨rfl,1+(qs x).length+1,by omega,by omega,?_,rfl⟩⟩
   have hdr:(34::r).drop (1+(qs x).length+1)=rest:=by
    rw[show 1+(qs x).length+1=((qs x).length+1)+1 by omega,List.drop_succ_cons,m3',List.drop_append]
    simp
   rw[hdr]
   rfl
  ·have h0:eqI e 0=false:=decide_eq_false e0
   have hb:a+P<=1000000:=by clear l3 v2;omega
   have hb2:a+P<=s.length:=by clear l3 v2;omega
   rw[h0,t2_M p e s a P hP hb]
   refine⟨_,rfl,.inr ⟨e0,?_,P,hb2,rfl⟩⟩
   cases hl:lt r with
   |none=>rfl
   |some q=>
    obtain⟨m,rest⟩:=q
    obtain⟨a1,a2⟩:=lt_sound _ r m rest (Nat.le_refl _) hl
    have hlr:=congrArg List.length a2
    have hge:=qs_ge m
    simp only[List.length_append,List.length_cons] at hlr hlen hTb hTf
    have:=lit_complete (34::r) m a1 1 fuel [] rest (by simpa using a2) (by clear l3 v2;omega) (by simp;clear l3 v2;omega)
    rw[zCw,this] at l1
    simp only[zCl,Sum.elim_inl,Option.some.injEq,Prod.mk.injEq] at l1
    exact(e0 l1.2.2.2.symm).elim
 rw[decide_eq_false c34,if_neg c34]
 obtain⟨y1,y2,y3⟩:=zHd c r (fuel:=fuel) (by omega)
 rw[y1]
 generalize sy (c::r)=y at y2 y3
 simp only[Bool.false_eq_true,if_false,zCl]
 by_cases hy:y=[]
 ·subst hy
  have h1:decide (([]:List UInt8)≠[])=false:=by simp
  rw[h1,t2_M 0 3 s a 0 rfl (by omega)]
  exact⟨_,rfl,.inr ⟨n3,by first|rfl|trivial,0,by omega,rfl⟩⟩
 ·have h1:decide (y≠[])=true:=zqb hy
  have hyl:1<=y.length:=by
   cases y with
   |nil=>exact(hy rfl).elim
   |cons z y=>simp
  rw[h1,t1_M 7 (y.length:Int) y s a y.length rfl (by omega),if_neg hy]
  exact⟨_,rfl,.inl ⟨rfl,y.length,hyl,by omega,by first|rfl|trivial,rfl⟩⟩
theorem comment_spec(s:List UInt8)(hs:s.length<=100000)(w:zJs)(hw:w.s=s)(A:Int): ∀(n p k d:Nat)(X D:Int),X=p->D=d->s.length-p<=n->n+2<=k->1<=d->d<=p->p<=s.length->
 (zAN w A k X D=some (.inl (A,zJs.mk s s.length))∧cmt d (s.drop p)=none)∨
 (∃q:Nat,zAN w A k X D=some (.inr (q:Int))∧cmt d (s.drop p)=some (s.drop q)∧p<q∧q<=s.length):=by
 intro n
 induction n using Nat.strongRecOn with
 |_ n ih=>
 intro p k d X D hX hD hn hk hd hdp hp
 obtain⟨g,rfl⟩: ∃g,k=g+1:=⟨k-1,by omega⟩
 subst hX;subst hD
 have k3:chk .i64 ((d:Int)+1)=some ((d:Int)+1):=zIV (by omega) (by omega)
 have k4:chk .i64 ((d:Int)-1)=some ((d:Int)-1):=zIV (by omega) (by omega)
 have k5:chk .i64 ((p:Int)+1)=some ((p:Int)+1):=zIV (by omega) (by omega)
 have k6:chk .i64 ((p:Int)+2)=some ((p:Int)+2):=zIV (by omega) (by omega)
 rw[zAN,hw]
 by_cases hend:s.length<=p
 ·rw[if_pos (show leI (s.length:Int) (p:Int)=true from zqb (by omega)),List.drop_eq_nil_of_le hend]
  exact .inl ⟨by rw[show(p:Int)=(s.length:Int) by omega],by simp[cmt]⟩
 rw[if_neg (show¬leI (s.length:Int) (p:Int)=true from fun h=>by have:=leT h;omega),subD s p (by omega)]
 simp only[zCl,has_M]
 have hd1:s.drop (p+1)=(s.drop p).drop 1:=by rw[List.drop_drop]
 have hd2:s.drop (p+2)=(s.drop p).drop 2:=by rw[List.drop_drop]
 have hTl:(s.drop p).length=s.length-p:=by simp
 have go: ∀(b d':Nat),1<=b->b<=2->p+b<=s.length->1<=d'->d'<=p+b->∀(X' D':Int),X'=((p+b:Nat):Int)->D'=d'->
  (zAN w A g X' D'=some (.inl (A,zJs.mk s s.length))∧cmt d' (s.drop (p+b))=none)∨
  (∃q:Nat,zAN w A g X' D'=some (.inr (q:Int))∧cmt d' (s.drop (p+b))=some (s.drop q)∧p<q∧q<=s.length):=fun b d' hb1 hb2 hbl h1 h2 X' D' hX' hD'=>by
  rcases ih (n-b) (by omega) (p+b) g d' X' D' hX' hD' (by omega) (by omega) h1 h2 hbl with h|⟨q,m1,m2,m3,m4⟩
  ·exact .inl h
  ·exact .inr ⟨q,m1,m2,by omega,m4⟩
 generalize hT:s.drop p=T at hTl hd1 hd2
 match T,hTl,hd1,hd2 with
 |[],hTl,_,_=>simp at hTl;omega
 |[x],hTl,hd1,hd2=>
  have h1:pre [x] [40,42]=false:=decide_eq_false (by simp)
  have h2:pre [x] [42,41]=false:=decide_eq_false (by simp)
  rw[h1]
  simp only[Bool.false_eq_true,if_false,h2]
  simp at hTl
  rw[k5]
  simp only[zCl]
  rw[if_neg (show¬eqI (d:Int) 0=true from fun h=>by have:=eqT h;omega)]
  obtain⟨g2,hg2⟩: ∃g2,g=g2+1:=⟨g-1,by omega⟩
  rw[hg2,zAN,hw,if_pos (show leI (s.length:Int) _=true from zqb (by omega))]
  exact .inl ⟨by rw[show((p:Int)+1)=(s.length:Int) by omega],by simp[cmt]⟩
 |x::y::r,hTl,hd1,hd2=>
  simp only[List.length_cons] at hTl
  simp only[List.drop_succ_cons,List.drop_zero] at hd1 hd2
  have q40:pre (x::y::r) [40,42]=(decide (x=40)&&decide (y=42)):=by unfold pre;simp[Bool.decide_and]
  have q42:pre (x::y::r) [42,41]=(decide (x=42)&&decide (y=41)):=by unfold pre;simp[Bool.decide_and]
  simp only[q40,q42]
  rw[cmt]
  by_cases ho:x=40∧y=42
  ·rw[zqb ho.1,zqb ho.2,if_pos ho]
   simp only[Bool.and_self,if_true,zCl,k3,k6]
   rw[if_neg (show¬eqI ((d:Int)+1) 0=true from fun h=>by have:=eqT h;omega)]
   have:=go 2 (d+1) (by omega) (by omega) (by omega) (by omega) (by omega) ((p:Int)+2) ((d:Int)+1) (by omega) (by omega)
   rw[hd2] at this
   exact this
  have hno:(decide (x=40)&&decide (y=42))=false:=by
   cases h:(decide (x=40)&&decide (y=42))
   ·rfl
   ·simp at h;exact(ho h).elim
  rw[hno,if_neg ho]
  simp only[zCl,Bool.false_eq_true,if_false]
  by_cases hc:x=42∧y=41
  ·rw[zqb hc.1,zqb hc.2,if_pos hc]
   simp only[Bool.and_self,if_true,zCl,k4,k6]
   by_cases hz:d=1
   ·have hz':eqI ((d:Int)-1) 0=true:=zqb (by omega)
    rw[hz',if_pos (show d<=1 by omega)]
    simp only[if_true]
    exact .inr ⟨p+2,by rw[show((p:Int)+2)=((p+2:Nat):Int) by omega],by rw[hd2],by omega,by omega⟩
   ·have hz':eqI ((d:Int)-1) 0=false:=decide_eq_false (by omega)
    rw[hz',if_neg (show¬d<=1 by omega)]
    simp only[Bool.false_eq_true,if_false]
    have:=go 2 (d-1) (by omega) (by omega) (by omega) (by omega) (by omega) ((p:Int)+2) ((d:Int)-1) (by omega) (by omega)
    rw[hd2] at this
    exact this
  ·have hnc:(decide (x=42)&&decide (y=41))=false:=by
    cases h:(decide (x=42)&&decide (y=41))
    ·rfl
    ·simp at h;exact(hc h).elim
   rw[hnc,if_neg hc]
   simp only[zCl,Bool.false_eq_true,if_false,k5]
   rw[if_neg (show¬eqI (d:Int) 0=true from fun h=>by have:=eqT h;omega)]
   have:=go 1 d (by omega) (by omega) (by omega) (by omega) (by omega) ((p:Int)+1) (d:Int) (by omega) rfl
   rw[hd1] at this
   exact this
theorem skip_loop(s:List UInt8)(hs:s.length<=100000)(w:zJs)(hw:w.s=s){fuel:Nat}(hf:s.length+10<=fuel): ∀(n i k:Nat)(I:Int),I=i->s.length-i<=n->n+1<=k->i<=s.length->
 ∃v,(zA5 fuel w k I).bind (fun o=>Sum.elim some (fun o3=>some ((-1:Int),(zJs.mk w.s o3))) o)=some v∧
  ((∃m:Nat,i<=m∧m<=s.length∧v=(-1,zJs.mk s (m:Int))∧skp (s.drop i)=some (s.drop m))∨(∃m:Nat,m<=s.length∧v.1=(m:Int)∧skp (s.drop i)=none)):=by
 subst hw
 intro n
 induction n using Nat.strongRecOn with
 |_ n ih=>
 intro i k I hI hn hk hi
 obtain⟨g,rfl⟩: ∃g,k=g+1:=⟨k-1,by omega⟩
 subst hI
 rw[zA5]
 by_cases hend:w.s.length<=i
 ·rw[if_neg (show¬ltI (i:Int) (w.s.length:Int)=true from fun h=>by have:=ltT h;omega)]
  refine⟨_,rfl,.inl ⟨i,Nat.le_refl _,hi,rfl,?_⟩⟩
  rw[List.drop_eq_nil_of_le hend,skp_nil]
 have hx:w.s[i]? =some w.s[i]:=zq2 (by omega)
 have hd:w.s.drop i=w.s[i]::w.s.drop (i+1):=List.drop_eq_getElem_cons (by omega)
 generalize w.s[i]=c at hx hd
 have k1:chk .i64 ((i:Int)+1)=some ((i:Int)+1):=zIV (by omega) (by omega)
 have k2:chk .i64 ((i:Int)+2)=some ((i:Int)+2):=zIV (by omega) (by omega)
 rw[if_pos (show ltI (i:Int) (w.s.length:Int)=true from zqb (by omega)),subD w.s i (by omega)]
 have h0:(w.s.drop i)[0]? =some c:=by rw[hd];rfl
 simp only[zCl,h0,blank_L,blank_I]
 cases hb:blank c
 case true=>
  simp only[if_true,k1,zCl]
  rw[hd,skp_blank hb]
  obtain⟨v,v1,v2⟩:=ih (n-1) (by omega) (i+1) g ((i:Int)+1) (by omega) (by omega) (by omega) (by omega)
  refine⟨v,v1,?_⟩
  rcases v2 with ⟨m,m1,m2,m3,m4⟩|⟨m,m1,m2,m3⟩
  ·exact .inl ⟨m,by omega,m2,m3,m4⟩
  ·exact .inr ⟨m,m1,m2,m3⟩
 simp only[Bool.false_eq_true,if_false,has_M]
 cases hp:pre (w.s.drop i) [40,42]
 ·rw[hd] at hp ⊢
  exact⟨_,rfl,.inl ⟨i,Nat.le_refl _,hi,rfl,by rw[skp_else hb hp,hd]⟩⟩
 simp only[if_true,zCl]
 obtain⟨r,hr⟩:=(pre2 _ _ _).1 hp
 have hrl:=congrArg List.length hr
 simp only[List.length_drop,List.length_cons] at hrl
 have hr2:w.s.drop (i+2)=r:=by rw[<-List.drop_drop,hr];rfl
 obtain⟨f2,rfl⟩: ∃f2,fuel=f2+1:=⟨fuel-1,by omega⟩
 have first:zAN w (i:Int) (f2+1) (i:Int) 0=zAN w (i:Int) f2 ((i:Int)+2) 1:=by
  rw[zAN,if_neg (show¬leI (w.s.length:Int) (i:Int)=true from fun h=>by have:=leT h;omega),subD w.s i (by omega)]
  simp only[zCl,has_M,hp,if_true]
  rw[show chk .i64 (0+1)=some 1 from rfl,k2]
  simp only[zCl]
  rw[if_neg (show¬eqI 1 0=true by decide)]
 rw[first,hr,skp_cmt]
 rcases comment_spec w.s hs w rfl (i:Int) (w.s.length-(i+2)) (i+2) f2 1 ((i:Int)+2) 1 (by omega) rfl (Nat.le_refl _) (by omega) (Nat.le_refl _) (by omega) (by omega) with ⟨l1,l2⟩|⟨q,l1,l2,l3,l4⟩
 ·rw[hr2] at l2
  rw[l1,l2]
  exact⟨_,rfl,.inr ⟨i,hi,rfl,rfl⟩⟩
 ·rw[hr2] at l2
  rw[l1,l2]
  simp only[zCl,Sum.elim_inr]
  obtain⟨v,v1,v2⟩:=ih (n-1) (by omega) q g (q:Int) rfl (by omega) (by omega) (by omega)
  refine⟨v,v1,?_⟩
  rcases v2 with ⟨m,m1,m2,m3,m4⟩|⟨m,m1,m2,m3⟩
  ·exact .inl ⟨m,by omega,m2,m3,m4⟩
  ·exact .inr ⟨m,m1,m2,m3⟩
theorem skip_spec(s:List UInt8)(hs:s.length<=100000)(a:Nat)(ha:a<=s.length){fuel:Nat}(hf:s.length+10<=fuel):
 ∃v,zBt fuel (zJs.mk s (a:Int))=some v∧
  ((∃m:Nat,a<=m∧m<=s.length∧v=(-1,zJs.mk s (m:Int))∧skp (s.drop a)=some (s.drop m))∨(∃m:Nat,m<=s.length∧v.1=(m:Int)∧skp (s.drop a)=none)):=by
 rw[zBt]
 exact skip_loop s hs (zJs.mk s (a:Int)) rfl hf s.length a fuel (a:Int) rfl (by omega) (by omega) ha
inductive Toks:List UInt8->List (Int×List UInt8×List UInt8)->Prop where
 |done {s:List UInt8} (h:skp s=some []):Toks s [(8,[],[])]
 |next {s s' r x:List UInt8} {k:Int} {l:List (Int×List UInt8×List UInt8)} (h:skp s=some s') (h1:s'≠[]) (h2:tk s'=some (k,x,r)) (h3:Toks r l):Toks s ((k,x,s')::l)
theorem Toks.inj{s:List UInt8}{l l':List (Int×List UInt8×List UInt8)}(h:Toks s l):Toks s l'->l=l':=by
 induction h generalizing l' with
 |done h=>
  intro h'
  cases h' with
  |done _=>rfl
  |next g g1 g2 g3=>rw[h] at g;cases g;exact(g1 rfl).elim
 |next h h1 h2 h3 ih=>
  intro h'
  cases h' with
  |done g=>rw[h] at g;cases g;exact(h1 rfl).elim
  |next g g1 g2 g3=>
   rw[h] at g;cases g
   rw[h2] at g2;cases g2
   rw[ih g3]
def tokOf(s:List UInt8)(q:Int×List UInt8×List UInt8):zJu:=zJu.mk q.1 q.2.1 (PL s (s.length-q.2.2.length))
theorem tokens_loop(s:List UInt8)(hs:s.length<=16384){fuel:Nat}(hf:s.length+100<=fuel): ∀(n a k:Nat)(out:List zJu),s.length-a<=n->n+1<=k->a<=s.length->out.length<=a->
 ∃r,zCW fuel s k s (a:Int) out=some r∧
  ((r.2.2=0∧∃l,Toks (s.drop a) l∧r.1=out++l.map (tokOf s))∨(r.2.2≠0∧r.1=[]∧(∀l,¬Toks (s.drop a) l)∧∃i,i<=s.length∧r.2.1=PL s i)):=by
 intro n
 induction n using Nat.strongRecOn with
 |_ n ih=>
 intro a k out hn hk ha ho
 obtain⟨g,rfl⟩: ∃g,k=g+1:=⟨k-1,by omega⟩
 rw[zCW]
 have happ: ∀t:zJu,app 40 out [t]=some (out++[t]):=fun t=>app_some (by decide) (by simp;omega)
 obtain⟨v,s1,hv⟩:=skip_spec s (by omega) a ha (fuel:=fuel) (by omega)
 rw[s1]
 simp only[zCl]
 rcases hv with ⟨m,m1,m2,rfl,m4⟩|⟨m,m1,m2,m3⟩
 ·have hm1:leI 0 (-1)=false:=rfl
  simp only[hm1,Bool.false_eq_true,if_false]
  by_cases hend:s.length<=m
  ·have h1:leI (s.length:Int) (m:Int)=true:=zqb (by omega)
   rw[h1,place_M s s.length (by omega) (by omega) (by omega)]
   simp only[if_true,zCl,happ]
   refine⟨_,rfl,.inl ⟨rfl,[(8,[],[])],.done ?_,?_⟩⟩
   ·rw[m4,List.drop_eq_nil_of_le hend]
   ·simp[tokOf]
  have h1:leI (s.length:Int) (m:Int)=false:=decide_eq_false (by omega)
  rw[h1]
  simp only[Bool.false_eq_true,if_false]
  have h3:eqI (out.length:Int) 20000=false:=decide_eq_false (by omega)
  rw[h3]
  simp only[Bool.false_eq_true,if_false]
  have hne:s.drop m≠[]:=fun e=>by have:=congrArg List.length e;simp at this;omega
  obtain⟨L,l1,ht⟩:=zHf s (by omega) m (by omega) (fuel:=fuel) (by omega)
  rw[l1]
  simp only[zCl]
  rcases ht with ⟨t1,N,t5,t6,t7,t8⟩|⟨t1,t2,P,t4,t5⟩
  ·have h4:eqI L.2.2.1 0=true:=zqb t1
   rw[h4,t8,place_M s m (by omega) (by omega) (by omega)]
   simp only[Bool.not_true,Bool.false_eq_true,if_false,zCl,happ]
   obtain⟨r,r1,r2⟩:=ih (n-1) (by omega) (m+N) g (out++[zJu.mk L.1.Kind L.1.Text (PL s m)]) (by omega) (by omega) (by omega) (by simp;omega)
   refine⟨r,r1,?_⟩
   rcases r2 with ⟨e0,l,q1,q2⟩|⟨e0,q0,q1,q2⟩
   ·refine .inl ⟨e0,(L.1.Kind,L.1.Text,s.drop m)::l,.next m4 hne t7 q1,?_⟩
    rw[q2]
    have:s.length-(s.length-m)=m:=by omega
    simp[tokOf,this]
   ·refine .inr ⟨e0,q0,fun l hl=>?_,q2⟩
    cases hl with
    |done g=>rw[m4] at g;exact hne (zqa g)
    |next g g1 g2 g3=>
     rw[m4] at g;cases g
     rw[t7] at g2;cases g2
     exact q1 _ g3
  ·have h4:eqI L.2.2.1 0=false:=decide_eq_false t1
   rw[h4,t5]
   simp only[Bool.not_false,if_true,zCl]
   rw[place_M s (m+P) (by omega) (by omega) (by omega)]
   refine⟨_,rfl,.inr ⟨t1,rfl,fun l hl=>?_,m+P,t4,rfl⟩⟩
   cases hl with
   |done g=>rw[m4] at g;exact hne (zqa g)
   |next g g1 g2 g3=>
    rw[m4] at g;cases g
    rw[t2] at g2;cases g2
 ·have hm1:leI 0 v.1=true:=zqb (by omega)
  simp only[hm1,if_true]
  rw[m2,place_M s m (by omega) (by omega) (by omega)]
  refine⟨_,rfl,.inr ⟨(show(4:Int)≠0 by decide),rfl,fun l hl=>?_,m,m1,rfl⟩⟩
  cases hl with
  |done g=>rw[m3] at g;cases g
  |next g g1 g2 g3=>rw[m3] at g;cases g
theorem tokens_spec(s:List UInt8)(hs:s.length<=16384){fuel:Nat}(hf:s.length+100<=fuel):
 ∃r,zC4 fuel s=some r∧((r.2.2=0∧∃l,Toks s l∧r.1=l.map (tokOf s))∨(r.2.2≠0∧r.1=[]∧(∀l,¬Toks s l)∧∃i,i<=s.length∧r.2.1=PL s i)):=by
 rw[zC4,if_neg (show¬ltI 16384 (s.length:Int)=true from fun h'=>by have:=ltT h';omega)]
 have:=tokens_loop s hs hf s.length 0 fuel [] (by omega) (by omega) (by omega) (by simp)
 rw[List.drop_zero] at this
 exact this
theorem tk_len{s x r:List UInt8}{k:Int}(hs:s.length<=100000)(h:tk s=some (k,x,r)):r.length+1<=s.length:=by
 cases s with
 |nil=>simp[tk] at h
 |cons c t=>
  obtain⟨L,l1,l2⟩:=zHf (c::t) hs 0 (by simp) (fuel:=(c::t).length+100) (Nat.le_refl _)
  rcases l2 with ⟨_,N,n1,n2,n3,_⟩|⟨_,n1,_⟩
  ·rw[List.drop_zero,h] at n3
   simp only[Option.some.injEq,Prod.mk.injEq] at n3
   rw[n3.2.2,List.length_drop]
   omega
  ·rw[List.drop_zero,h] at n1;cases n1
theorem skp_len{s s':List UInt8}(hs:s.length<=100000)(h:skp s=some s'):s'.length<=s.length:=by
 obtain⟨v,_,hv⟩:=skip_spec s hs 0 (by omega) (fuel:=s.length+10) (Nat.le_refl _)
 rcases hv with ⟨m,m1,m2,_,m4⟩|⟨m,m1,_,m3⟩
 ·rw[List.drop_zero,h] at m4
  rw[zqa m4,List.length_drop]
  omega
 ·rw[List.drop_zero,h] at m3;cases m3
theorem Toks.len{s:List UInt8}{l:List (Int×List UInt8×List UInt8)}(hs:s.length<=100000)(h:Toks s l):l.length<=s.length+1:=by
 induction h with
 |done h=>simp
 |next h h1 h2 h3 ih=>
  have a1:=skp_len hs h
  have a2:=tk_len (by omega) h2
  have:=ih (by omega)
  simp only[List.length_cons]
  omega
def bd:List UInt8->Prop
 |[]=>True
 |c::_=>c=32∨c=9∨c=10∨c=40∨c=41∨c=44
theorem bd_inB{u:List UInt8}(h:bd u): ∀c r,u=c::r->inB c=false∧diB c=false:=by
 rintro c r rfl
 rcases h with rfl|rfl|rfl|rfl|rfl|rfl<;>exact⟨rfl,rfl⟩
theorem cw_ext(p:UInt8->Bool)(s u:List UInt8)(h: ∀c r,u=c::r->p c=false):cw p (s++u) 0=cw p s 0:=by
 unfold cw
 simp only[List.drop_zero,Nat.zero_add]
 induction s with
 |nil=>
  cases u with
  |nil=>rfl
  |cons c r=>simp[h c r rfl]
 |cons c s ih=>
  rw[List.cons_append,List.takeWhile_cons,List.takeWhile_cons]
  split
  ·simp[ih]
  ·rfl
theorem pre_ext(c:UInt8)(r u:List UInt8)(x y:UInt8)(h:bd u)(hy: ¬(y=32∨y=9∨y=10∨y=40∨y=41∨y=44)):pre (c::r++u) [x,y]=pre (c::r) [x,y]:=by
 cases r with
 |cons d r=>unfold pre;simp
 |nil=>
  have h1:pre [c] [x,y]=false:=decide_eq_false (by simp)
  rw[h1]
  cases u with
  |nil=>exact h1
  |cons e u=>
   refine decide_eq_false ?_
   simp
   rintro _ rfl
   exact hy h
theorem sy_ext(c:UInt8)(r u:List UInt8)(h:bd u):sy (c::r++u)=sy (c::r):=by
 show sy (c::(r++u))=_
 rw[sy,sy]
 have e:pre (c::(r++u)) [40,42]=pre (c::r) [40,42]:=pre_ext c r u 40 42 h (by decide)
 have e1:pre (c::(r++u)) [58,62]=pre (c::r) [58,62]:=pre_ext c r u 58 62 h (by decide)
 have e2:pre (c::(r++u)) [61,62]=pre (c::r) [61,62]:=pre_ext c r u 61 62 h (by decide)
 have e3:pre (c::(r++u)) [45,62]=pre (c::r) [45,62]:=pre_ext c r u 45 62 h (by decide)
 have e4:pre (c::(r++u)) [60,61]=pre (c::r) [60,61]:=pre_ext c r u 60 61 h (by decide)
 have e5:SA.find? (pre (c::(r++u)))=SA.find? (pre (c::r)):=by
  simp only[SA,List.find?_cons,e1,e2,e3,e4,List.find?_nil]
 rw[e,e5]
theorem tk_ext{s:List UInt8}{k:Int}{x r:List UInt8}(u:List UInt8)(hu:bd u)(h:tk s=some (k,x,r)):tk (s++u)=some (k,x,r++u):=by
 match s,h with
 |[],h=>simp[tk] at h
 |c::t,h=>
  have fin: ∀(p:UInt8->Bool),(∀c r,u=c::r->p c=false)->cw p (c::(t++u)) 0=cw p (c::t) 0:=fun p hp=>by
   have:=cw_ext p (c::t) u hp
   rwa [List.cons_append] at this
  have tkd: ∀N,N<=(c::t).length->(c::(t++u)).take N=(c::t).take N∧(c::(t++u)).drop N=(c::t).drop N++u:=fun N hN=>by
   rw[<-List.cons_append]
   exact⟨List.take_append_of_le_length hN,List.drop_append_of_le_length hN⟩
  rw[List.cons_append,tk.eq_def]
  rw[tk.eq_def] at h
  dsimp only at h ⊢
  by_cases h1:(smB c||caB c)=true
  ·rw[if_pos h1] at h ⊢
   have hle:=(cw_le inB (c::t) 0 (by simp)).2
   rw[fin inB (fun c r e=>(bd_inB hu c r e).1),(tkd _ hle).1,(tkd _ hle).2]
   by_cases h2:24<cw inB (c::t) 0
   ·rw[if_pos h2] at h;cases h
   ·rw[if_neg h2] at h ⊢;cases h;rfl
  rw[if_neg h1] at h ⊢
  by_cases h2:c=39
  ·rw[if_pos h2] at h ⊢
   match t,h,tkd with
   |[],h,_=>cases h
   |d::t,h,tkd=>
    dsimp only[List.cons_append] at h tkd ⊢
    have fin2:cw inB (d::(t++u)) 0=cw inB (d::t) 0:=by
     have:=cw_ext inB (d::t) u (fun c r e=>(bd_inB hu c r e).1)
     rwa [List.cons_append] at this
    rw[fin2]
    by_cases h3:smB d=true
    ·rw[if_pos h3] at h ⊢
     have hle:=(cw_le inB (d::t) 0 (by simp)).2
     have hle':cw inB (d::t) 0+1<=(c::d::t).length:=by simp at hle ⊢;omega
     rw[(tkd _ hle').1,(tkd _ hle').2]
     by_cases h4:24<cw inB (d::t) 0+1
     ·rw[if_pos h4] at h;cases h
     ·rw[if_neg h4] at h ⊢;cases h;rfl
    ·rw[if_neg h3] at h;cases h
  rw[if_neg h2] at h ⊢
  by_cases h3:diB c=true
  ·rw[if_pos h3] at h ⊢
   have hle:=(cw_le diB (c::t) 0 (by simp)).2
   rw[fin diB (fun c r e=>(bd_inB hu c r e).2),(tkd _ hle).1,(tkd _ hle).2]
   split at h
   ·rename_i h4
    rw[if_pos h4];cases h;rfl
   ·cases h
  rw[if_neg h3] at h ⊢
  by_cases h4:c=34
  ·rw[if_pos h4] at h ⊢
   cases hl:lt t with
   |none=>rw[hl] at h;cases h
   |some q=>
    obtain⟨m,rest⟩:=q
    rw[hl] at h
    cases h
    obtain⟨a1,a2⟩:=lt_sound _ t _ _ (Nat.le_refl _) hl
    have:lt (t++u)=some (m,rest++u):=by
     rw[a2,List.append_assoc]
     exact lt_qs (rest++u) m a1
    rw[this];rfl
  rw[if_neg h4] at h ⊢
  have hsy:=sy_ext c t u hu
  rw[List.cons_append] at hsy
  rw[hsy]
  have hle:=(zHd c t (fuel:=40) (Nat.le_refl _)).2.1
  rw[(tkd _ hle).2]
  split at h
  ·cases h
  ·rename_i h5;rw[if_neg h5];cases h;rfl
theorem Toks.skip{u t:List UInt8}{l:List (Int×List UInt8×List UInt8)}(h:skp u=skp t)(h2:Toks t l):Toks u l:=by
 cases h2 with
 |done g=>exact .done (h.trans g)
 |next g g1 g2 g3=>exact .next (h.trans g) g1 g2 g3
theorem sy_first{c:UInt8}{r:List UInt8}(h:sy (c::r)≠[]):(smB c||caB c)=false∧c≠39∧diB c=false∧c≠34∧blank c=false:=by
 have key: ∀d∈([58,61,45,60]++SB:List UInt8),(smB d||caB d)=false∧d≠39∧diB d=false∧d≠34∧blank d=false:=by decide
 refine key c ?_
 rw[sy] at h
 split at h
 ·exact(h rfl).elim
 split at h
 ·rename_i x hx
  have h1:=List.find?_some hx
  have h2:=List.mem_of_find?_eq_some hx
  simp only[SA,List.mem_cons,List.not_mem_nil,or_false] at h2
  rcases h2 with rfl|rfl|rfl|rfl<;>obtain⟨q,hq⟩:=(pre2 _ _ _).1 h1<;>cases hq<;>simp
 ·split at h
  ·rename_i h3
   have:c∈SB:=by
    refine Classical.byContradiction fun hn=>?_
    have hno: ∀l:List UInt8,c∉l->Lib.indexByte l c= -1:=by
     intro l
     induction l with
     |nil=>intro _;rfl
     |cons b l ih=>
      intro hb
      have hb1: ¬b=c:=fun e=>hb (by rw[e];exact zq9 ..)
      have hb2:c∉l:=fun e=>hb (zqc _ e)
      simp[Lib.indexByte,hb1,ih hb2]
    have:=hno SB hn
    omega
   exact List.mem_append_right _ this
  ·exact(h rfl).elim
theorem tk_cases{s x r:List UInt8}{k:Int}(h:tk s=some (k,x,r)):(k=1∨k=2∨k=3∨k=4∨k=5∨k=6∨k=7)∧(k≠5->s=x++r)∧s≠[]∧skp s=some s∧(k=7->sy s=x):=by
 match s,h with
 |[],h=>simp[tk] at h
 |c::t,h=>
  have hsk:blank c=false->pre (c::t) [40,42]=false->skp (c::t)=some (c::t):=skp_else
  have hp:c≠40->pre (c::t) [40,42]=false:=fun hc=>by
   cases hh:pre (c::t) [40,42]
   ·rfl
   ·obtain⟨q,hq⟩:=(pre2 _ _ _).1 hh
    cases hq;exact(hc rfl).elim
  have bl: ∀c:UInt8,blank c=true->c=32∨c=9∨c=10:=fun c h=>by
   unfold blank at h
   simpa using h
  rw[tk.eq_def] at h
  dsimp only at h
  by_cases h1:(smB c||caB c)=true
  ·rw[if_pos h1] at h
   have n40:c≠40:=fun e=>by subst e;revert h1;decide
   have nb:blank c=false:=by
    cases hb:blank c
    ·rfl
    ·rcases bl c hb with rfl|rfl|rfl<;>(revert h1;decide)
   split at h
   ·cases h
   ·simp only[Option.some.injEq,Prod.mk.injEq] at h
    obtain⟨rfl,rfl,rfl⟩:=h
    refine⟨?_,fun _=>(List.take_append_drop _ _).symm,by simp,hsk nb (hp n40),fun e=>?_⟩
    ·split
     ·simp
     ·split<;>simp
    ·split at e
     ·omega
     ·split at e<;>omega
  rw[if_neg h1] at h
  by_cases h2:c=39
  ·subst h2
   rw[if_pos rfl] at h
   have n40:(39:UInt8)≠40:=by decide
   split at h
   ·cases h
   ·split at h
    ·split at h
     ·cases h
     ·simp only[Option.some.injEq,Prod.mk.injEq] at h
      obtain⟨rfl,rfl,rfl⟩:=h
      exact⟨by simp,fun _=>(List.take_append_drop _ _).symm,by simp,hsk rfl (hp n40),fun e=>by omega⟩
    ·cases h
  rw[if_neg h2] at h
  by_cases h3:diB c=true
  ·rw[if_pos h3] at h
   have n40:c≠40:=fun e=>by subst e;revert h3;decide
   have nb:blank c=false:=by
    cases hb:blank c
    ·rfl
    ·rcases bl c hb with rfl|rfl|rfl<;>(revert h3;decide)
   split at h
   ·simp only[Option.some.injEq,Prod.mk.injEq] at h
    obtain⟨rfl,rfl,rfl⟩:=h
    exact⟨by simp,fun _=>(List.take_append_drop _ _).symm,by simp,hsk nb (hp n40),fun e=>by omega⟩
   ·cases h
  rw[if_neg h3] at h
  by_cases h4:c=34
  ·subst h4
   rw[if_pos rfl] at h
   cases hl:lt t with
   |none=>rw[hl] at h;cases h
   |some q=>
    rw[hl] at h
    simp only[Option.map_some,Option.some.injEq,Prod.mk.injEq] at h
    obtain⟨rfl,rfl,rfl⟩:=h
    exact⟨by simp,fun e=>(e rfl).elim,by simp,hsk rfl (hp (by decide)),fun e=>by omega⟩
  rw[if_neg h4] at h
  obtain⟨_,y2,y3⟩:=zHd c t (fuel:=40) (Nat.le_refl _)
  split at h
  ·cases h
  ·rename_i h5
   have hf:=sy_first h5
   simp only[Option.some.injEq,Prod.mk.injEq] at h
   obtain⟨rfl,rfl,rfl⟩:=h
   refine⟨by simp,fun _=>?_,by simp,hsk hf.2.2.2.2 ?_,fun _=>rfl⟩
   ·have:=(List.take_append_drop (sy (c::t)).length (c::t)).symm
    rw[y3] at this
    exact this
   ·cases hh:pre (c::t) [40,42]
    ·rfl
    ·rw[sy,if_pos hh] at h5;exact(h5 rfl).elim
theorem tk_sy{c:UInt8}{t:List UInt8}(h:sy (c::t)≠[]):tk (c::t)=some (7,sy (c::t),(c::t).drop (sy (c::t)).length):=by
 obtain⟨a1,a2,a3,a4,_⟩:=sy_first h
 rw[tk.eq_def]
 dsimp only
 rw[if_neg (by rw[a1];simp),if_neg a2,if_neg (by rw[a3];simp),if_neg a4,if_neg h]
theorem tk_text{s x r:List UInt8}{k:Int}(hs:s.length<=100000)(h:tk s=some (k,x,r)):x.length<=s.length:=by
 by_cases h5:k=5
 ·subst h5
  match s,h with
  |[],h=>simp[tk] at h
  |c::t,h=>
   obtain⟨L,l1,l2⟩:=zHf (c::t) hs 0 (by simp) (fuel:=(c::t).length+100) (Nat.le_refl _)
   rw[tk.eq_def] at h
   dsimp only at h
   split at h
   ·split at h
    ·cases h
    ·simp only[Option.some.injEq,Prod.mk.injEq] at h;rw[<-h.2.1,List.length_take];omega
   split at h
   ·split at h
    ·cases h
    ·split at h
     ·split at h
      ·cases h
      ·simp only[Option.some.injEq,Prod.mk.injEq] at h;rw[<-h.2.1,List.length_take];omega
     ·cases h
   split at h
   ·split at h
    ·simp only[Option.some.injEq,Prod.mk.injEq] at h;rw[<-h.2.1,List.length_take];omega
    ·cases h
   split at h
   ·cases hl:lt t with
    |none=>rw[hl] at h;cases h
    |some q=>
     obtain⟨m,rest⟩:=q
     rw[hl] at h
     simp only[Option.map_some,Option.some.injEq,Prod.mk.injEq] at h
     obtain⟨_,rfl,rfl⟩:=h
     obtain⟨_,a2⟩:=lt_sound _ t _ _ (Nat.le_refl _) hl
     have:=qs_ge m
     rw[a2]
     simp
     omega
   ·split at h
    ·cases h
    ·simp only[Option.some.injEq,Prod.mk.injEq] at h
     obtain⟨_,y2,_⟩:=zHd c t (fuel:=40) (Nat.le_refl _)
     rw[<-h.2.1];exact y2
 ·have:=(tk_cases h).2.1 h5
  rw[this];simp
theorem cw_all{p:UInt8->Bool}{x:List UInt8}(h: ∀c∈x,p c=true):cw p x 0=x.length:=by
 have e: ∀x:List UInt8,(∀c∈x,p c=true)->x.takeWhile p=x:=fun x=>by
  induction x with
  |nil=>intro _;rfl
  |cons a x ih=>
   intro h
   rw[List.takeWhile_cons,if_pos (h a zq9),ih fun c hc=>h c (zqc _ hc)]
 unfold cw
 rw[List.drop_zero,e x h];omega
abbrev Tq:=Int×List UInt8×List UInt8
def tks(l:List Tq):List Tk:=l.map fun q=>(q.1,q.2.1)
theorem tks_tokOf(s:List UInt8)(l:List Tq):(l.map (tokOf s)).map ktk=tks l:=by rw[List.map_map];rfl
theorem Toks.fin{s:List UInt8}{l:List Tq}(hs:s.length<=16384)(h:Toks s l):PT.Fin (tks l):=by
 induction h with
 |done h=>rfl
 |@next s s' r x k l h h1 h2 h3 ih=>
  have a1:=skp_len (by omega) h
  have a2:=tk_len (by omega) h2
  have a3:=tk_text (by omega) h2
  have a4:=(tk_cases h2).1
  have:=ih (by omega)
  have hl:l≠[]:=by cases h3<;>simp
  cases l with
  |nil=>exact(hl rfl).elim
  |cons q l=>exact⟨by dsimp only;omega,by dsimp only;omega,this⟩
def Tc(cat:Int)(n:Nat):PT zJv:=if eqI cat 1 then T.typ n else if eqI cat 2 then T.pattern n else T.expr n
theorem Tc_wp(cat:Int){n r:Nat}(hn:30*r+20100<=n)(h1:1<=r)(h2:r<=20000):(Tc cat n).wp r (Ate r):=by
 unfold Tc
 split
 ·exact(types_wp n).2.2.2 r (by omega) h1 h2
 ·split
  ·exact(pats_wp n).2 r (by omega) h1 h2
  ·exact(exprs_wp 20001 (by omega) n).2.2.2.2.1 r (by omega) h1 h2
theorem Tc_le(cat:Int)(n:Nat):PT.le (Tc cat n) (Tc cat (n+1)):=by
 unfold Tc
 exact PT.le_ite _ (types_le n).2.2.2 (PT.le_ite _ (pats_le n).2 (exprs_le n).2.2.2.2.1)
theorem Tc_mono(cat:Int){n m:Nat}(h:n<=m){l:List Tk}{r:Option zJv×List Tk}(hr:(Tc cat n).go l=some r):(Tc cat m).go l=some r:=by
 induction h with
 |refl=>exact hr
 |step h ih=>exact PT.le_go (Tc_le cat _) l r ih
theorem Tc_go(cat:Int){l:List Tk}(hl:PT.Fin l)(h2:l.length<=20000): ∃o r,PT.Fin r∧∀n,30*l.length+20100<=n->(Tc cat n).go l=some (o,r):=by
 have h1:1<=l.length:=by cases l;exact hl.elim;simp
 obtain⟨o,r,h,hr,-⟩:=PT.wp_go _ l hl (Tc_wp cat (Nat.le_refl _) h1 h2)
 exact⟨o,r,hr,fun n hn=>Tc_mono cat hn h⟩
def CatOk(cat:Int):Prop:= ∀n w,zCP n cat w=zCf ((Tc cat n).run w)
theorem catOk2:CatOk 2:=fun n w=>by
 show zCf (zAZ n w)=zCf ((T.pattern n).run w)
 rw[(pats_run n).2 w]
def zS:zJv:=zJv.mk 0 0 [] [] []
theorem whole_run{n:Nat}{cat:Int}{s:List UInt8}(hc:CatOk cat){L:List zJu}{p:zJw}(h:zC4 n s=some (L,p,0))(hL:L.length<=100000){o:Option zJv}{A:List Tk}{t:Tk}{B:List Tk}(hA:L.map ktk=A++t::B)
 (hg:(Tc cat n).go (L.map ktk)=some (o,t::B)):
 (∀v,o=some v->t.1=8->zAk n cat s=(zCL n cat v).bind fun b=>if !b then some (zS,zJw.mk 0 0,5) else some (v,zJw.mk 0 0,0))∧
 ((o=none∨t.1≠8)->∃x,L[A.length]? =some x∧zAk n cat s=some (zS,x.At,if t.1=8 then 4 else 3)):=by
 have hlen:=congrArg List.length hA
 simp only[zq4,List.length_append,List.length_cons] at hlen
 have hrun:=PT.run_go L (by omega) (Tc cat n) 0 (by omega)
 rw[List.drop_zero,hg] at hrun
 obtain⟨x,hx⟩: ∃x,L[A.length]? =some x:=⟨_,zq2 (by omega)⟩
 have hk:ktk x=t:=by
  have:(L.map ktk)[A.length]? =some t:=by rw[hA];simp
  rw[List.getElem?_map,hx] at this
  exact zqa this
 have hix:idx L ((L.length-(B.length+1):Nat):Int)=some x:=by
  rw[show L.length-(B.length+1)=A.length by omega,idx,if_pos (by omega)]
  simpa using hx
 have h0:(⟨L,0⟩:zJr)=zJr.mk L ((0:Nat):Int):=rfl
 have hw:zAk n cat s=(zCf ((Tc cat n).run (zJr.mk L ((0:Nat):Int)))).bind fun v10=>
  (if !v10.2.1 then some true else (zAJ 8 v10.2.2).bind fun v15=>some (!v15):Option Bool).bind fun b17=>
  if b17 then (idx v10.2.2.l v10.2.2.at_).bind fun x20=>(zBT v10.2.2).bind fun v24=>some (zS,x20.At,v24)
  else (zCL n cat v10.1).bind fun b=>if !b then some (zS,zJw.mk 0 0,5) else some (v10.1,zJw.mk 0 0,0):=by
  rw[zAk,h,<-hc n];rfl
 rw[hw,hrun]
 have hkind:zAJ 8 (zJr.mk L ((L.length-(B.length+1):Nat):Int))=some (eqI t.1 8):=by
  rw[zAJ]
  simp only[hix,Option.bind_some]
  rw[<-hk];rfl
 have href:zBT (zJr.mk L ((L.length-(B.length+1):Nat):Int))=some (if t.1=8 then 4 else 3):=by
  rw[zBT,hkind]
  simp only[Option.bind_some]
  by_cases h8:t.1=8
  ·rw[show eqI t.1 8=true from zqb h8,if_pos rfl,if_pos h8]
  ·rw[show eqI t.1 8=false from decide_eq_false h8,if_neg (by decide),if_neg h8]
 cases o with
 |none=>
  refine⟨fun v hv=>(by cases hv),fun _=>⟨x,hx,?_⟩⟩
  simp only[Option.map_some,PT.back,zCf,Option.bind_some,Sum.elim_inl,Bool.not_false,if_true,List.length_cons,hix,href]
 |some v=>
  have hb:(zCf (some (PT.back L (some v,t::B))))=some (v,true,zJr.mk L ((L.length-(B.length+1):Nat):Int)):=rfl
  simp only[Option.map_some,hb,Option.bind_some,Bool.not_true,Bool.false_eq_true,if_false,hkind]
  by_cases h8:t.1=8
  ·rw[show eqI t.1 8=true from zqb h8]
   refine⟨fun v' hv _=>?_,fun hh=>?_⟩
   ·cases hv;rfl
   ·rcases hh with hh|hh
    ·cases hh
    ·exact(hh h8).elim
  ·rw[show eqI t.1 8=false from decide_eq_false h8]
   refine⟨fun v' hv hh=>(h8 hh).elim,fun _=>⟨x,hx,?_⟩⟩
   simp only[Bool.not_false,if_true,hix,href,Option.bind_some]
theorem whole_ok{s:List UInt8}(hs:s.length<=16384){l:List Tq}(h:Toks s l){cat:Int}(hc:CatOk cat): ∃o A t B,tks l=A++t::B∧(∃N,∀n,N<=n->(Tc cat n).go (tks l)=some (o,t::B))∧
 ((∃v b,o=some v∧t=(8,[])∧B=[]∧Ev (fun n=>zCL n cat v) b∧Ev (fun n=>zAk n cat s) (if b then (v,zJw.mk 0 0,0) else (zS,zJw.mk 0 0,5)))∨
  (∃q,l[A.length]? =some q∧(q.1,q.2.1)=t∧(o=none∨t.1≠8)∧Ev (fun n=>zAk n cat s) (zS,(tokOf s q).At,if t.1=8 then 4 else 3))):=by
 have hfin:=h.fin hs
 have hlen:=h.len (by omega)
 have htl:(tks l).length=l.length:=zq4 ..
 obtain⟨o,r,hr,hgo⟩:=Tc_go cat hfin (by omega)
 obtain⟨A,hA⟩:=PT.go_drop _ _ _ _ (hgo _ (Nat.le_refl _))
 cases r with
 |nil=>exact hr.elim
 |cons t B=>
 have hT: ∀n,s.length+100<=n->∃p,zC4 n s=some (l.map (tokOf s),p,0):=fun n hn=>by
  obtain⟨v,v1,v2⟩:=tokens_spec s hs hn
  rcases v2 with ⟨e0,l',t1,t2⟩|⟨_,_,t1,_⟩
  ·have:=t1.inj h;subst this
   refine⟨v.2.1,?_⟩
   rw[v1,<-t2,<-e0]
  ·exact(t1 _ h).elim
 have hw: ∀n,s.length+100+(30*(tks l).length+20100)<=n->(∀v,o=some v->t.1=8->zAk n cat s=(zCL n cat v).bind fun b=>if !b then some (zS,zJw.mk 0 0,5) else some (v,zJw.mk 0 0,0))∧
  ((o=none∨t.1≠8)->∃x,(l.map (tokOf s))[A.length]? =some x∧zAk n cat s=some (zS,x.At,if t.1=8 then 4 else 3)):=fun n hn=>by
  obtain⟨p,hp⟩:=hT n (by omega)
  exact whole_run hc hp (by rw[zq4];omega) (A:=A) (t:=t) (B:=B) (o:=o) (by rw[tks_tokOf];exact hA) (by rw[tks_tokOf];exact hgo n (by omega))
 refine⟨o,A,t,B,hA,⟨_,hgo⟩,?_⟩
 by_cases h8:t.1=8∧∃v,o=some v
 ·obtain⟨h8,v,rfl⟩:=h8
  left
  obtain⟨b,hb,-⟩:=Valid_ev cat v
  have ht:t=(8,[])∧B=[]:=by
   cases B with
   |nil=>exact⟨hr,rfl⟩
   |cons u B=>exact(hr.1 h8).elim
  refine⟨v,b,rfl,ht.1,ht.2,hb,?_⟩
  obtain⟨N,hN⟩:=hb
  refine⟨max N (s.length+100+(30*(tks l).length+20100)),fun n hn=>?_⟩
  show zAk n cat s=_
  rw[(hw n (by omega)).1 v rfl h8,show zCL n cat v=some b from hN n (by omega)]
  cases b<;>rfl
 ·right
  have ho:o=none∨t.1≠8:=by
   cases o with
   |none=>exact .inl rfl
   |some v=>exact .inr fun e=>h8 ⟨e,v,rfl⟩
  have hAl:A.length<l.length:=by
   have:=congrArg List.length hA
   simp only[List.length_append,List.length_cons] at this
   omega
  refine⟨l[A.length],zq2 hAl,?_,ho,s.length+100+(30*(tks l).length+20100),fun n hn=>?_⟩
  ·have:(tks l)[A.length]? =some t:=by rw[hA];simp
   rw[tks,List.getElem?_map,zq2 hAl] at this
   exact zqa this
  ·obtain⟨x,hx,hwx⟩:=(hw n hn).2 ho
   rw[List.getElem?_map,zq2 hAl] at hx
   have:=zqa hx
   show zAk n cat s=_
   rw[hwx,<-this]
def EV(f:Nat->PT zJv)(ts:List Tk)(v:zJv)(r:List Tk):Prop:= ∃N,∀n,N<=n->(f n).go ts=some (some v,r)
abbrev lp:Tk:=(7,[40])
abbrev rp:Tk:=(7,[41])
theorem zCt{α:Type}{s:List UInt8}{t:Tk}(h:isB t s=false)(f:Bool->PT α)(r:List Tk):((T.skip s).bind f).go (t::r)=(f false).go (t::r):=by
 simp only[T.skip,PT.bind,PT.go,h];rfl
theorem zFw{α:Type}{s:List UInt8}{t:Tk}(h:isB t s=true)(f:Bool->PT α)(r:List Tk):((T.skip s).bind f).go (t::r)=(f true).go r:=by
 simp only[T.skip,PT.bind,PT.go,h];rfl
theorem go_want{α:Type}{s:List UInt8}{t:Tk}(h:isB t s=true)(f:Unit->PT α)(r:List Tk):((T.want s).bind f).go (t::r)=(f ()).go r:=by
 simp only[T.want,PT.bind,PT.go,h];rfl
theorem go_call{α β:Type}{x:PT α}{f:α->PT β}{ts r:List Tk}{v:α}(h:x.go ts=some (some v,r)):(x.bind f).go ts=(f v).go r:=by
 rw[PT.go_bind,h];rfl
theorem zEx{α:Type}{k:Int}{t:Tk}(h:eqI t.1 k=false)(f:Bool->PT α)(r:List Tk):(PT.kd k f).go (t::r)=(f false).go (t::r):=by simp only[PT.go,h]
theorem zGg{α:Type}{k:Int}{t:Tk}(h:eqI t.1 k=true)(f:Bool->PT α)(r:List Tk):(PT.kd k f).go (t::r)=(f true).go (t::r):=by simp only[PT.go,h]
theorem go_ofO{α β:Type}{o:Option α}{a:α}(h:o=some a)(f:α->PT β)(ts:List Tk):((PT.ofO o).bind f).go ts=(f a).go ts:=by rw[h];rfl
abbrev bin (c:Int) (x y:zJv):zJv:=zJv.mk 32 c [] [] [x,y]
theorem obm{α β:Type}(a:α)(f:α->Option β):(some a).bind f=f a:=Eq.trans (Option.bind_some a f) rfl
abbrev eT:Tk:=(8,[])
def TL(s:List UInt8)(ts:List Tk):Prop:= ∃l,Toks s (l++[(8,[],[])])∧tks l=ts
theorem TL_nil:TL [] []:=⟨[],.done skp_nil,rfl⟩
theorem TL_blank{c:UInt8}(hc:blank c=true){u:List UInt8}{ts:List Tk}(h:TL u ts):TL (c::u) ts:=by
 obtain⟨l,h,e⟩:=h
 exact⟨l,Toks.skip (skp_blank hc) h,e⟩
theorem TL_tk{s x r:List UInt8}{k:Int}(h:tk s=some (k,x,r)){ts:List Tk}(hr:TL r ts):TL s ((k,x)::ts):=by
 obtain⟨l,hr,e⟩:=hr
 obtain⟨_,_,h3,h4,_⟩:=tk_cases h
 exact⟨(k,x,s)::l,.next h4 h3 h hr,by rw[tks,List.map_cons,<-tks,e]⟩
theorem sy_one{c:UInt8}{r:List UInt8}(h1:pre (c::r) [40,42]=false)(h2:c≠58∧c≠61∧c≠45∧c≠60)(h3:0<=Lib.indexByte SB c):sy (c::r)=[c]:=by
 rw[sy,h1]
 have hf:SA.find? (pre (c::r))=none:=by
  obtain⟨a1,a2,a3,a4⟩:=h2
  simp[SA,pre,a1,a2,a3,a4]
 rw[hf,if_neg (by decide)]
 dsimp only
 rw[if_pos h3]
theorem tk_one{c:UInt8}{r:List UInt8}(h1:pre (c::r) [40,42]=false)(h2:c≠58∧c≠61∧c≠45∧c≠60)(h3:0<=Lib.indexByte SB c):tk (c::r)=some (7,[c],r):=by
 have:=sy_one h1 h2 h3
 rw[tk_sy (by rw[this];simp),this];rfl
theorem pre_not{c:UInt8}(h:c≠40)(r:List UInt8):pre (c::r) [40,42]=false:=by
 simp[pre,h]
theorem TL_close{u:List UInt8}{ts:List Tk}(h:TL u ts):TL (41::u) (rp::ts):=TL_tk (tk_one (pre_not (by decide) u) (by decide) (by decide)) h
theorem TL_tilde{u:List UInt8}{ts:List Tk}(h:TL u ts):TL (126::u) ((7,[126])::ts):=TL_tk (tk_one (pre_not (by decide) u) (by decide) (by decide)) h
theorem TL_open{u:List UInt8}(hu: ∀r,u≠42::r){ts:List Tk}(h:TL u ts):TL (40::u) (lp::ts):=by
 refine TL_tk (tk_one ?_ (by decide) (by decide)) h
 cases hp:pre (40::u) [40,42] with
 |false=>rfl
 |true=>
  obtain⟨r,hr⟩:=(pre2 _ _ _).1 hp
  cases hr;exact(hu r rfl).elim
structure Opd (s:List UInt8) (x:zJv) (A:List Tk):Prop where
 tl:TL s A
 ev:EV T.expr (A++[eT]) x [eT]
 wf:WF x false
 b:bl 3 x=true
 sz:szT x<=20000
 dp:dpT x<=400
theorem TL_sp{u:List UInt8}{ts:List Tk}(h:TL u ts):TL (32::u) ts:=TL_blank (by decide) h
abbrev cm:Tk:=(7,[44])
def Stops(t:Tk):Prop:=t=cm∨t=rp∨t=eT
theorem arg_any(r:List Tk):EV T.argument ((7,[95])::r) (leaf 11) r:=⟨1,fun n hn=>by
 obtain⟨m,rfl⟩: ∃m,n=m+1:=⟨n-1,by omega⟩
 rw[T.argument,zFw (by decide),if_pos rfl];rfl⟩
theorem go_number{α:Type}(fuel:Nat){d:List UInt8}{v:Int}(h:zBN fuel d=some (v,0))(f:Int->PT α)(r:List Tk):((T.number fuel).bind f).go ((4,d)::r)=(f v).go r:=by
 have hn: ∀(g:List UInt8->PT α),((T.name 4).bind g).go ((4,d)::r)=(g d).go r:=fun g=>rfl
 rw[T.number,PT.bind_assoc,hn,PT.bind_assoc,go_ofO h];rfl
theorem arg_int{d:List UInt8}{v:Int}(h: ∃N,∀n,N<=n->zBN n d=some (v,0))(r:List Tk):EV T.argument ((4,d)::r) (zJv.mk 13 v [] [] []) r:=by
 obtain⟨N,h⟩:=h
 refine⟨N+1,fun n hn=>?_⟩
 obtain⟨m,rfl⟩: ∃m,n=m+1:=⟨n-1,by omega⟩
 rw[T.argument,zCt (by rfl),if_neg (by decide),zCt (by rfl),if_neg (by decide),zGg (by rfl),if_pos rfl,go_number m (h m (by omega))];rfl
theorem arg_neg{d:List UInt8}{v:Int}(h: ∃N,∀n,N<=n->zBN n d=some (v,0))(h1: -9223372036854775808<=-v)(h2: -v<=9223372036854775807)(r:List Tk):EV T.argument ((7,[126])::(4,d)::r) (zJv.mk 13 (-v) [] [] []) r:=by
 obtain⟨N,h⟩:=h
 refine⟨N+1,fun n hn=>?_⟩
 obtain⟨m,rfl⟩: ∃m,n=m+1:=⟨n-1,by omega⟩
 rw[T.argument,zCt (by decide),if_neg (by decide),zFw (by decide),if_pos rfl,go_number m (h m (by omega)),go_ofO (chkA h1 h2)];rfl
theorem arg_var(s:List UInt8)(r:List Tk):EV T.argument ((1,s)::r) (zJv.mk 12 0 s [] []) r:=⟨1,fun n hn=>by
 obtain⟨m,rfl⟩: ∃m,n=m+1:=⟨n-1,by omega⟩
 have hn: ∀(g:List UInt8->PT zJv),((T.name 1).bind g).go ((1,s)::r)=(g s).go r:=fun g=>rfl
 rw[T.argument,zCt (by rfl),if_neg (by decide),zCt (by rfl),if_neg (by decide),zEx (by rfl),if_neg (by decide),zGg (by rfl),if_pos rfl,hn];rfl⟩
theorem go_mods{α:Type}(fuel:Nat)(s:List UInt8){t:Tk}(ht:isB t [46]=false)(f:Nms->PT α)(r:List Tk):((T.mods (fuel+1)).bind f).go ((2,s)::t::r)=(f [s]).go (t::r):=by
 have hn: ∀(g:List UInt8->PT α),((T.name 2).bind g).go ((2,s)::t::r)=(g s).go (t::r):=fun g=>rfl
 rw[T.mods,PT.bind_assoc,hn,T.mods_l1,PT.bind_assoc,zCt ht,if_neg (by decide)];rfl
theorem arg_ctor(s:List UInt8){t:Tk}(ht:isB t [46]=false)(r:List Tk):EV T.argument ((2,s)::t::r) (zJv.mk 14 0 [] [s] []) (t::r):=⟨2,fun n hn=>by
 obtain⟨m,rfl⟩: ∃m,n=m+2:=⟨n-2,by omega⟩
 rw[T.argument,zCt (by rfl),if_neg (by decide),zCt (by rfl),if_neg (by decide),zEx (by rfl),if_neg (by decide),zEx (by rfl),if_neg (by decide),zGg (by rfl),if_pos rfl,go_mods m s ht];rfl⟩
theorem arg_unit(r:List Tk):EV T.argument (lp::rp::r) (leaf 15) r:=⟨1,fun n hn=>by
 obtain⟨m,rfl⟩: ∃m,n=m+1:=⟨n-1,by omega⟩
 rw[T.argument,zCt (by decide),if_neg (by decide),zCt (by decide),if_neg (by decide),zEx (by decide),if_neg (by decide),zEx (by decide),if_neg (by decide),zEx (by decide),if_neg (by decide),go_want (by decide),zFw (by decide),if_pos rfl];rfl⟩
def SepP(x:List zJv)(ts:List Tk)(l:List zJv)(r:List Tk):Prop:= ∃N,∀n k,N<=n->N<=k->(T.sep [44] (T.pattern n) k x).go ts=some (some l,r)
theorem sep_end(x:List zJv)(r:List Tk):SepP x (rp::r) x (rp::r):=⟨1,fun n k hn hk=>by
 obtain⟨k,rfl⟩: ∃m,k=m+1:=⟨k-1,by omega⟩
 rw[T.sep,zCt (by decide),if_neg (by decide)];rfl⟩
theorem sep_next{x:List zJv}(hx:x.length<=1000){ts:List Tk}{v:zJv}{ts2:List Tk}(h:EV T.pattern ts v ts2){l:List zJv}{r:List Tk}(h2:SepP (x++[v]) ts2 l r):SepP x (cm::ts) l r:=by
 obtain⟨N,h⟩:=h
 obtain⟨N2,h2⟩:=h2
 refine⟨max N N2+1,fun n k hn hk=>?_⟩
 obtain⟨k,rfl⟩: ∃m,k=m+1:=⟨k-1,by omega⟩
 rw[T.sep,zFw (by decide),if_pos rfl,go_call (h n (by omega)),go_ofO (appA (by decide) (by simp only[List.length_cons,List.length_nil];omega))]
 exact h2 n k (by omega) (by omega)
theorem arg_list{t:Tk}{ts:List Tk}(ht:isB t [41]=false){v:zJv}{ts2:List Tk}(h:EV T.pattern (t::ts) v ts2){l:List zJv}{r:List Tk}(h2:SepP [v] ts2 l (rp::r)){w:zJv}(hw:(l=[w])∨(l.length≠1∧w=zJv.mk 15 0 [] [] l)):EV T.argument (lp::t::ts) w r:=by
 obtain⟨N,h⟩:=h
 obtain⟨N2,h2⟩:=h2
 refine⟨max N N2+1,fun n hn=>?_⟩
 obtain⟨m,rfl⟩: ∃m,n=m+1:=⟨n-1,by omega⟩
 rw[T.argument,zCt (by decide),if_neg (by decide),zCt (by decide),if_neg (by decide),zEx (by decide),if_neg (by decide),zEx (by decide),if_neg (by decide),zEx (by decide),if_neg (by decide),go_want (by decide),zCt ht,if_neg (by decide),
  go_call (h m (by omega)),go_call (h2 m m (by omega) (by omega)),go_want (by decide)]
 rcases hw with rfl|⟨h1,rfl⟩
 ·rw[if_pos (by rfl)];rfl
 ·rw[if_neg (by simp only[eqI,decide_eq_true_eq];omega)];rfl
theorem pat_arg{t:Tk}(ht:t.1≠2){ts:List Tk}{v:zJv}{r:List Tk}(h:EV T.argument (t::ts) v r):EV T.pattern (t::ts) v r:=by
 obtain⟨N,h⟩:=h
 refine⟨N+1,fun n hn=>?_⟩
 obtain⟨m,rfl⟩: ∃m,n=m+1:=⟨n-1,by omega⟩
 rw[T.pattern,zEx (decide_eq_false ht),if_pos (by decide),go_call (h m (by omega))];rfl
theorem zHP{α:Type}(f:Bool->PT α)(t:Tk)(r:List Tk)(b:Bool)(h:(eqI t.1 2||(eqI t.1 1||(eqI t.1 4||(isB t [95]||(isB t [126]||isB t [40])))))=b):
 ((T.named.bind fun b=>if b then .ret true else .kd 4 fun b=>if b then .ret true else T.anyOf [[95],[126],[40]]).bind f).go (t::r)=(f b).go (t::r):=by
 rw[PT.bind_assoc]
 simp only[T.named,PT.bind,zIP,PT.go]
 cases h2:eqI t.1 2 with
 |true=>rw[h2] at h;subst h;rfl
 |false=>
  rw[h2] at h
  simp only[Bool.false_eq_true,if_false,PT.bind,PT.go]
  cases h1:eqI t.1 1 with
  |true=>rw[h1] at h;subst h;rfl
  |false=>
   rw[h1] at h
   simp only[Bool.false_eq_true,if_false,PT.bind,PT.go]
   cases h4:eqI t.1 4 with
   |true=>rw[h4] at h;subst h;rfl
   |false=>
    rw[h4] at h
    simp only[Bool.false_eq_true,if_false,T.anyOf,PT.bind,PT.go]
    cases h5:isB t [95] with
    |true=>rw[h5] at h;subst h;rfl
    |false=>
     rw[h5] at h
     simp only[Bool.false_eq_true,if_false,PT.bind,PT.go]
     cases h6:isB t [126] with
     |true=>rw[h6] at h;subst h;rfl
     |false=>
      rw[h6] at h
      simp only[Bool.false_eq_true,if_false,PT.bind,PT.go]
      simp only[Bool.false_or] at h
      rw[h]
theorem pat_ctor(s:List UInt8){t:Tk}(ht:Stops t)(r:List Tk):EV T.pattern ((2,s)::t::r) (zJv.mk 14 0 [] [s] []) (t::r):=⟨2,fun n hn=>by
 obtain⟨m,rfl⟩: ∃m,n=m+2:=⟨n-2,by omega⟩
 have h46:isB t [46]=false:=by rcases ht with rfl|rfl|rfl<;>decide
 have hb:(eqI t.1 2||(eqI t.1 1||(eqI t.1 4||(isB t [95]||(isB t [126]||isB t [40])))))=false:=by rcases ht with rfl|rfl|rfl<;>decide
 rw[T.pattern,zGg (by rfl),if_neg (by decide),go_mods m s h46,zHP _ t r false hb,if_neg (by decide)];rfl⟩
theorem pat_app(s:List UInt8){t:Tk}(h46:isB t [46]=false)(hb:(eqI t.1 2||(eqI t.1 1||(eqI t.1 4||(isB t [95]||(isB t [126]||isB t [40])))))=true){ts:List Tk}{v:zJv}{r:List Tk}(h:EV T.argument (t::ts) v r):
 EV T.pattern ((2,s)::t::ts) (zJv.mk 14 0 [] [s] [v]) r:=by
 obtain⟨N,h⟩:=h
 refine⟨N+2,fun n hn=>?_⟩
 obtain⟨m,rfl⟩: ∃m,n=m+2:=⟨n-2,by omega⟩
 rw[T.pattern,zGg (by rfl),if_neg (by decide),go_mods m s h46,zHP _ t ts true hb,if_pos rfl,go_call (h (m+1) (by omega))];rfl
end Go.Proofs.YtbnahfdbjaohkaaGreatDoor
