/- For every input the law ParsecoreLimits returns true. Part 15 of 22. No condition. -/
import Derived.Test.YtcbjbgiboimgaaaGreatDoorPMn
set_option linter.unusedVariables false
set_option linter.unnecessarySimpa false
set_option linter.unusedSimpArgs false
set_option maxRecDepth 100000
set_option maxHeartbeats 4000000
namespace Go.Proofs.YtcbjbgiboimgaaaGreatDoor
open Go Go.Abs
theorem zFP(level1:Int)(w2:zKU)(r:Int)(h:zBn level1 w2=some r):Raw Tryz.prog 133 [pT 0,iI level1] [[.sl (w2.l.map zKX.c),iI w2.at_]] (iI r) [[.sl (w2.l.map zKX.c),iI w2.at_]]:=by
 rw[zBn] at h
 refine zA4 Tryz.func133 (by rfl) (by rfl) (by simp) (by simp)<|cutA 82 1 [(0,pT 0),(1,iI level1)] [[.sl (w2.l.map zKX.c),iI w2.at_]]<|zAF<|zAP ?_
 obtain⟨b8,q9,h⟩:=bs h
 refine cut 82 1 [(0,pT 0),(1,iI level1),(5,.bool b8)] [[.sl (w2.l.map zKX.c),iI w2.at_]] ?_ ?_
 ·rcases sp q9 with ⟨g3,q9⟩|⟨g3,q9⟩
  ·have c4:=eqT g3
   obtain⟨v5,q6,q9⟩:=bs q9
   obtain rfl:=oi q9
   refine st ?_
   simp[g3]
   have r101:=(zAT [111,114,101,108,115,101] w2 v5 q6).frame [0] [[.sl (w2.l.map zKX.c),iI w2.at_]] (by simp)
   try simp[g3] at r101
   refine zAJ r101 (by simp[g3]) rfl ?_
   simp[g3]
  have c7:=eqF g3
  obtain rfl:=oi q9
  refine st ?_
  simp[g3]
 refine spc h rfl (fun g10 h=>?_) fun g10 h=>?_
 ·refine cutA 82 1 [(4,iI 1)] [[.sl (w2.l.map zKX.c),iI w2.at_]]<|zAA<|zAD<|zAB ?_
  cases h
  simp
 obtain⟨b16,q17,h⟩:=bs h
 refine cut 82 1 [(0,pT 0),(1,iI level1),(12,.bool b16)] [[.sl (w2.l.map zKX.c),iI w2.at_]] ?_ ?_
 ·rcases sp q17 with ⟨g11,q17⟩|⟨g11,q17⟩
  ·have c12:=eqT g11
   obtain⟨v13,q14,q17⟩:=bs q17
   obtain rfl:=oi q17
   refine st ?_
   simp[g11]
   have r100:=(zAT [97,110,100,97,108,115,111] w2 v13 q14).frame [0] [[.sl (w2.l.map zKX.c),iI w2.at_]] (by simp)
   try simp[g11] at r100
   refine zAJ r100 (by simp[g11]) rfl ?_
   simp[g11]
  have c15:=eqF g11
  obtain rfl:=oi q17
  refine st ?_
  simp[g11]
 refine spc h rfl (fun g18 h=>?_) fun g18 h=>?_
 ·refine cutA 82 1 [(4,iI 2)] [[.sl (w2.l.map zKX.c),iI w2.at_]]<|zAA<|zAD<|zAB ?_
  cases h
  simp
 obtain⟨b24,q25,h⟩:=bs h
 refine cut 82 1 [(0,pT 0),(1,iI level1),(19,.bool b24)] [[.sl (w2.l.map zKX.c),iI w2.at_]] ?_ ?_
 ·rcases sp q25 with ⟨g19,q25⟩|⟨g19,q25⟩
  ·have c20:=eqT g19
   obtain⟨v21,q22,q25⟩:=bs q25
   obtain rfl:=oi q25
   refine st ?_
   simp[g19]
   have r99:=(zAT [61] w2 v21 q22).frame [0] [[.sl (w2.l.map zKX.c),iI w2.at_]] (by simp)
   try simp[g19] at r99
   refine zAJ r99 (by simp[g19]) rfl ?_
   simp[g19]
  have c23:=eqF g19
  obtain rfl:=oi q25
  refine st ?_
  simp[g19]
 refine spc h rfl (fun g26 h=>?_) fun g26 h=>?_
 ·refine cutA 82 1 [(4,iI 3)] [[.sl (w2.l.map zKX.c),iI w2.at_]]<|zAA<|zAD<|zAB ?_
  cases h
  simp
 obtain⟨b32,q33,h⟩:=bs h
 refine cut 82 1 [(0,pT 0),(1,iI level1),(26,.bool b32)] [[.sl (w2.l.map zKX.c),iI w2.at_]] ?_ ?_
 ·rcases sp q33 with ⟨g27,q33⟩|⟨g27,q33⟩
  ·have c28:=eqT g27
   obtain⟨v29,q30,q33⟩:=bs q33
   obtain rfl:=oi q33
   refine st ?_
   simp[g27]
   have r98:=(zAT [60] w2 v29 q30).frame [0] [[.sl (w2.l.map zKX.c),iI w2.at_]] (by simp)
   try simp[g27] at r98
   refine zAJ r98 (by simp[g27]) rfl ?_
   simp[g27]
  have c31:=eqF g27
  obtain rfl:=oi q33
  refine st ?_
  simp[g27]
 refine spc h rfl (fun g34 h=>?_) fun g34 h=>?_
 ·refine cutA 82 1 [(4,iI 4)] [[.sl (w2.l.map zKX.c),iI w2.at_]]<|zAA<|zAD<|zAB ?_
  cases h
  simp
 obtain⟨b40,q41,h⟩:=bs h
 refine cut 82 1 [(0,pT 0),(1,iI level1),(33,.bool b40)] [[.sl (w2.l.map zKX.c),iI w2.at_]] ?_ ?_
 ·rcases sp q41 with ⟨g35,q41⟩|⟨g35,q41⟩
  ·have c36:=eqT g35
   obtain⟨v37,q38,q41⟩:=bs q41
   obtain rfl:=oi q41
   refine st ?_
   simp[g35]
   have r97:=(zAT [60,61] w2 v37 q38).frame [0] [[.sl (w2.l.map zKX.c),iI w2.at_]] (by simp)
   try simp[g35] at r97
   refine zAJ r97 (by simp[g35]) rfl ?_
   simp[g35]
  have c39:=eqF g35
  obtain rfl:=oi q41
  refine st ?_
  simp[g35]
 refine spc h rfl (fun g42 h=>?_) fun g42 h=>?_
 ·refine cutA 82 1 [(4,iI 5)] [[.sl (w2.l.map zKX.c),iI w2.at_]]<|zAA<|zAD<|zAB ?_
  cases h
  simp
 obtain⟨b48,q49,h⟩:=bs h
 refine cut 82 1 [(0,pT 0),(1,iI level1),(40,.bool b48)] [[.sl (w2.l.map zKX.c),iI w2.at_]] ?_ ?_
 ·rcases sp q49 with ⟨g43,q49⟩|⟨g43,q49⟩
  ·have c44:=eqT g43
   obtain⟨v45,q46,q49⟩:=bs q49
   obtain rfl:=oi q49
   refine st ?_
   simp[g43]
   have r96:=(zAT [94] w2 v45 q46).frame [0] [[.sl (w2.l.map zKX.c),iI w2.at_]] (by simp)
   try simp[g43] at r96
   refine zAJ r96 (by simp[g43]) rfl ?_
   simp[g43]
  have c47:=eqF g43
  obtain rfl:=oi q49
  refine st ?_
  simp[g43]
 refine spc h rfl (fun g50 h=>?_) fun g50 h=>?_
 ·refine cutA 82 1 [(4,iI 6)] [[.sl (w2.l.map zKX.c),iI w2.at_]]<|zAA<|zAD<|zAB ?_
  cases h
  simp
 obtain⟨b56,q57,h⟩:=bs h
 refine cut 82 1 [(0,pT 0),(1,iI level1),(47,.bool b56)] [[.sl (w2.l.map zKX.c),iI w2.at_]] ?_ ?_
 ·rcases sp q57 with ⟨g51,q57⟩|⟨g51,q57⟩
  ·have c52:=eqT g51
   obtain⟨v53,q54,q57⟩:=bs q57
   obtain rfl:=oi q57
   refine st ?_
   simp[g51]
   have r95:=(zAT [43] w2 v53 q54).frame [0] [[.sl (w2.l.map zKX.c),iI w2.at_]] (by simp)
   try simp[g51] at r95
   refine zAJ r95 (by simp[g51]) rfl ?_
   simp[g51]
  have c55:=eqF g51
  obtain rfl:=oi q57
  refine st ?_
  simp[g51]
 refine spc h rfl (fun g58 h=>?_) fun g58 h=>?_
 ·refine cutA 82 1 [(4,iI 7)] [[.sl (w2.l.map zKX.c),iI w2.at_]]<|zAA<|zAD<|zAB ?_
  cases h
  simp
 obtain⟨b64,q65,h⟩:=bs h
 refine cut 82 1 [(0,pT 0),(1,iI level1),(54,.bool b64)] [[.sl (w2.l.map zKX.c),iI w2.at_]] ?_ ?_
 ·rcases sp q65 with ⟨g59,q65⟩|⟨g59,q65⟩
  ·have c60:=eqT g59
   obtain⟨v61,q62,q65⟩:=bs q65
   obtain rfl:=oi q65
   refine st ?_
   simp[g59]
   have r94:=(zAT [45] w2 v61 q62).frame [0] [[.sl (w2.l.map zKX.c),iI w2.at_]] (by simp)
   try simp[g59] at r94
   refine zAJ r94 (by simp[g59]) rfl ?_
   simp[g59]
  have c63:=eqF g59
  obtain rfl:=oi q65
  refine st ?_
  simp[g59]
 refine spc h rfl (fun g66 h=>?_) fun g66 h=>?_
 ·refine cutA 82 1 [(4,iI 8)] [[.sl (w2.l.map zKX.c),iI w2.at_]]<|zAA<|zAD<|zAB ?_
  cases h
  simp
 obtain⟨b72,q73,h⟩:=bs h
 refine cut 82 1 [(0,pT 0),(1,iI level1),(61,.bool b72)] [[.sl (w2.l.map zKX.c),iI w2.at_]] ?_ ?_
 ·rcases sp q73 with ⟨g67,q73⟩|⟨g67,q73⟩
  ·have c68:=eqT g67
   obtain⟨v69,q70,q73⟩:=bs q73
   obtain rfl:=oi q73
   refine st ?_
   simp[g67]
   have r93:=(zAT [42] w2 v69 q70).frame [0] [[.sl (w2.l.map zKX.c),iI w2.at_]] (by simp)
   try simp[g67] at r93
   refine zAJ r93 (by simp[g67]) rfl ?_
   simp[g67]
  have c71:=eqF g67
  obtain rfl:=oi q73
  refine st ?_
  simp[g67]
 refine spc h rfl (fun g74 h=>?_) fun g74 h=>?_
 ·refine cutA 82 1 [(4,iI 9)] [[.sl (w2.l.map zKX.c),iI w2.at_]]<|zAA<|zAD<|zAB ?_
  cases h
  simp
 obtain⟨b80,q81,h⟩:=bs h
 refine cut 82 1 [(0,pT 0),(1,iI level1),(68,.bool b80)] [[.sl (w2.l.map zKX.c),iI w2.at_]] ?_ ?_
 ·rcases sp q81 with ⟨g75,q81⟩|⟨g75,q81⟩
  ·have c76:=eqT g75
   obtain⟨v77,q78,q81⟩:=bs q81
   obtain rfl:=oi q81
   refine st ?_
   simp[g75]
   have r92:=(zAT [100,105,118] w2 v77 q78).frame [0] [[.sl (w2.l.map zKX.c),iI w2.at_]] (by simp)
   try simp[g75] at r92
   refine zAJ r92 (by simp[g75]) rfl ?_
   simp[g75]
  have c79:=eqF g75
  obtain rfl:=oi q81
  refine st ?_
  simp[g75]
 refine spc h rfl (fun g82 h=>?_) fun g82 h=>?_
 ·refine cutA 82 1 [(4,iI 10)] [[.sl (w2.l.map zKX.c),iI w2.at_]]<|zAA<|zAD<|zAB ?_
  cases h
  simp
 obtain⟨b88,q89,h⟩:=bs h
 refine cut 82 1 [(75,.bool b88)] [[.sl (w2.l.map zKX.c),iI w2.at_]] ?_ ?_
 ·rcases sp q89 with ⟨g83,q89⟩|⟨g83,q89⟩
  ·have c84:=eqT g83
   obtain⟨v85,q86,q89⟩:=bs q89
   obtain rfl:=oi q89
   refine st ?_
   simp[g83]
   have r91:=(zAT [109,111,100] w2 v85 q86).frame [0] [[.sl (w2.l.map zKX.c),iI w2.at_]] (by simp)
   try simp[g83] at r91
   refine zAJ r91 (by simp[g83]) rfl ?_
   simp[g83]
  have c87:=eqF g83
  obtain rfl:=oi q89
  refine st ?_
  simp[g83]
 refine spc h rfl (fun g90 h=>?_) fun g90 h=>?_
 ·refine cutA 82 1 [(4,iI 11)] [[.sl (w2.l.map zKX.c),iI w2.at_]]<|zAA<|zAD<|zAB ?_
  cases h
  simp
 refine zAC<|zDZ<|zAM<|cutA 82 1 [(4,iI 0)] [[.sl (w2.l.map zKX.c),iI w2.at_]]<|zAA ?_
 cases h
 simp
theorem zCD(fuel:Nat):(∀(w1:zKU)(r:(zKU) ⊕ (zKZ×zKU))(_:zB8 fuel w1=some r),Sum.elim (fun r=>RawP Tryz.prog 114 (pan1 112) [pT 0] [[.sl (w1.l.map zKX.c),iI w1.at_]] [[.sl (r.l.map zKX.c),iI r.at_]]) (fun r=>Raw Tryz.prog 114 [pT 0] [[.sl (w1.l.map zKX.c),iI w1.at_]] (.agg (zKZ.d r.1)) [[.sl (r.2.l.map zKX.c),iI r.2.at_]]) r)∧(∀(w1:zKU)(r:(zKU) ⊕ (zKZ×zKU))(_:zB9 fuel w1=some r),Sum.elim (fun r=>RawP Tryz.prog 112 (pan1 112) [pT 0] [[.sl (w1.l.map zKX.c),iI w1.at_]] [[.sl (r.l.map zKX.c),iI r.at_]]) (fun r=>Raw Tryz.prog 112 [pT 0] [[.sl (w1.l.map zKX.c),iI w1.at_]] (.agg (zKZ.d r.1)) [[.sl (r.2.l.map zKX.c),iI r.2.at_]]) r)∧(∀(w1:zKU)(r:(zKU) ⊕ (zKZ×zKU))(_:zBR fuel w1=some r),Sum.elim (fun r=>RawP Tryz.prog 132 (pan1 112) [pT 0] [[.sl (w1.l.map zKX.c),iI w1.at_]] [[.sl (r.l.map zKX.c),iI r.at_]]) (fun r=>Raw Tryz.prog 132 [pT 0] [[.sl (w1.l.map zKX.c),iI w1.at_]] (.agg (zKZ.d r.1)) [[.sl (r.2.l.map zKX.c),iI r.2.at_]]) r)∧(∀(n1:Int)(w2:zKU)(r:(zKU) ⊕ (zKZ×zKU))(_:zBF fuel n1 w2=some r),Sum.elim (fun r=>RawP Tryz.prog 115 (pan1 112) [pT 0,iI n1] [[.sl (w2.l.map zKX.c),iI w2.at_]] [[.sl (r.l.map zKX.c),iI r.at_]]) (fun r=>Raw Tryz.prog 115 [pT 0,iI n1] [[.sl (w2.l.map zKX.c),iI w2.at_]] (.agg (zKZ.d r.1)) [[.sl (r.2.l.map zKX.c),iI r.2.at_]]) r)∧(∀(w1:zKU)(r:(zKU) ⊕ (zKZ×zKU))(_:zAV fuel w1=some r),Sum.elim (fun r=>RawP Tryz.prog 76 (pan1 112) [pT 0] [[.sl (w1.l.map zKX.c),iI w1.at_]] [[.sl (r.l.map zKX.c),iI r.at_]]) (fun r=>Raw Tryz.prog 76 [pT 0] [[.sl (w1.l.map zKX.c),iI w1.at_]] (.agg (zKZ.d r.1)) [[.sl (r.2.l.map zKX.c),iI r.2.at_]]) r)∧(∀(w1:zKU)(r:(zKU) ⊕ (zKZ×zKU))(_:zB1 fuel w1=some r),Sum.elim (fun r=>RawP Tryz.prog 131 (pan1 112) [pT 0] [[.sl (w1.l.map zKX.c),iI w1.at_]] [[.sl (r.l.map zKX.c),iI r.at_]]) (fun r=>Raw Tryz.prog 131 [pT 0] [[.sl (w1.l.map zKX.c),iI w1.at_]] (.agg (zKZ.d r.1)) [[.sl (r.2.l.map zKX.c),iI r.2.at_]]) r)∧(∀(w1:zKU)(r:(zKU) ⊕ (zKZ×zKU))(_:zCV fuel w1=some r),Sum.elim (fun r=>RawP Tryz.prog 111 (pan1 112) [pT 0] [[.sl (w1.l.map zKX.c),iI w1.at_]] [[.sl (r.l.map zKX.c),iI r.at_]]) (fun r=>Raw Tryz.prog 111 [pT 0] [[.sl (w1.l.map zKX.c),iI w1.at_]] (.agg (zKZ.d r.1)) [[.sl (r.2.l.map zKX.c),iI r.2.at_]]) r)∧(∀(w1:zKU)(r:(zKU) ⊕ (zKZ×zKU))(_:zAw fuel w1=some r),Sum.elim (fun r=>RawP Tryz.prog 75 (pan1 112) [pT 0] [[.sl (w1.l.map zKX.c),iI w1.at_]] [[.sl (r.l.map zKX.c),iI r.at_]]) (fun r=>Raw Tryz.prog 75 [pT 0] [[.sl (w1.l.map zKX.c),iI w1.at_]] (.agg (zKZ.d r.1)) [[.sl (r.2.l.map zKX.c),iI r.2.at_]]) r):=by
 induction fuel with
 |zero=>
  refine⟨?_,?_,?_,?_,?_,?_,?_,?_⟩
  ·intro w1 r h;rw[zB8] at h;cases h
  ·intro w1 r h;rw[zB9] at h;cases h
  ·intro w1 r h;rw[zBR] at h;cases h
  ·intro n1 w2 r h;rw[zBF] at h;cases h
  ·intro w1 r h;rw[zAV] at h;cases h
  ·intro w1 r h;rw[zB1] at h;cases h
  ·intro w1 r h;rw[zCV] at h;cases h
  ·intro w1 r h;rw[zAw] at h;cases h
 |succ fuel ih=>
  obtain⟨zD3,zD4,zCY,zAf,zAO,zEd,zEk,zCF⟩:=ih
  refine⟨?_,?_,?_,?_,?_,?_,?_,?_⟩
  ·intro w1 r h
   rw[zB8] at h
   refine zBu Tryz.func114 (by rfl) (by rfl) (by simp) (by simp)<|cutA 57 1 [(0,pT 0),(2,pT 1)] [[.sl (w1.l.map zKX.c),iI w1.at_],zz0]<|zAF<|zAP ?_
   obtain⟨v2,q3,h⟩:=bs h
   refine cut 57 1 [(0,pT 0),(2,pT 1),(6,.bool v2.1)] [[.sl (v2.2.l.map zKX.c),iI v2.2.at_],zz0] ?_ ?_
   ·refine st ?_
    simp
    have r96:=(zAN [41] w1 v2 q3).frame [0] [[.sl (w1.l.map zKX.c),iI w1.at_],zz0] (by simp)
    try simp at r96
    refine zAJ r96 (by simp) rfl ?_
    simp
   refine spc h rfl (fun g4 h=>?_) fun g4 h=>?_
   ·refine cutA 57 1 [(2,pT 1)] [[.sl (v2.2.l.map zKX.c),iI v2.2.at_],[iI 27,iI 0,.str ([]:List UInt8),.osl ⟨1,9⟩ (([]:List (List UInt8)).map cS),.osl ⟨5,26⟩ (([]:List zKZ).map zKZ.c)]]<|zAA<|zAD<|zAB ?_
    cases h
    simp
   obtain⟨v5,q6,h⟩:=bs h
   refine cut 57 1 [(0,pT 0),(2,pT 1),(10,.bool v5.1)] [[.sl (v5.2.l.map zKX.c),iI v5.2.at_],zz0] ?_ ?_
   ·refine st ?_
    simp
    have r95:=(zAN [112,97,99,107] v2.2 v5 q6).frame [0] [[.sl (v2.2.l.map zKX.c),iI v2.2.at_],zz0] (by simp)
    try simp at r95
    refine zAJ r95 (by simp) rfl ?_
    simp
   refine spc h rfl (fun g7 h=>?_) fun g7 h=>?_
   ·obtain⟨v8,q9,h⟩:=bs h
    rcases v8 with e10|v11
    ·replace h:=zDB h
     refine zAF<|stP 1 ?_
     simp
     have r30:=(panL (zAa fuel v5.2 (.inl e10) q9)).frame [0] [[.sl (v5.2.l.map zKX.c),iI v5.2.at_],zz0] (by simp)
     try simp at r30
     refine panC r30 (by simp) (by simp)<|zAQ<|zAv<|zAQ ?_
     cases h
     simp
    replace h:=zCL h
    refine cut 57 1 [(0,pT 0),(2,pT 1),(3,pT 2)] [[.sl (v11.2.l.map zKX.c),iI v11.2.at_],zz0,[iI 34,iI 0,.str ([]:List UInt8),.sl (v11.1.map cS),.osl ⟨5,26⟩ (([]:List zKZ).map zKZ.c)]] ?_ ?_
    ·refine st ?_
     simp
     have r31:=(panR (zAa fuel v5.2 (.inr v11) q9)).frame [0] [[.sl (v5.2.l.map zKX.c),iI v5.2.at_],zz0] (by simp)
     try simp at r31
     refine zAJ r31 (by simp) rfl ?_
     simp
    obtain⟨v12,q13,h⟩:=bs h
    rcases v12 with e14|v15
    ·replace h:=zDB h
     refine zAF<|stP 1 ?_
     simp
     have r28:=(panL (zAE [58] v11.2 (.inl e14) q13)).frame [0] [[.sl (v11.2.l.map zKX.c),iI v11.2.at_],zz0,[iI 34,iI 0,.str ([]:List UInt8),.sl (v11.1.map cS),.osl ⟨5,26⟩ (([]:List zKZ).map zKZ.c)]] (by simp)
     try simp at r28
     refine panC r28 (by simp) (by simp)<|zAQ<|zAv<|zAQ ?_
     cases h
     simp
    replace h:=zCL h
    refine cut 57 1 [(0,pT 0),(2,pT 1),(3,pT 2)] [[.sl (v15.l.map zKX.c),iI v15.at_],zz0,[iI 34,iI 0,.str ([]:List UInt8),.sl (v11.1.map cS),.osl ⟨5,26⟩ (([]:List zKZ).map zKZ.c)]] ?_ ?_
    ·refine st ?_
     simp
     have r29:=(panR (zAE [58] v11.2 (.inr v15) q13)).frame [0] [[.sl (v11.2.l.map zKX.c),iI v11.2.at_],zz0,[iI 34,iI 0,.str ([]:List UInt8),.sl (v11.1.map cS),.osl ⟨5,26⟩ (([]:List zKZ).map zKZ.c)]] (by simp)
     try simp at r29
     refine zAJ r29 (by simp) rfl ?_
     simp
    obtain⟨v16,q17,h⟩:=bs h
    rcases v16 with e18|v19
    ·replace h:=zDB h
     refine zAF<|stP 1 ?_
     simp
     have r26:=(panL (zAa fuel v15 (.inl e18) q17)).frame [0] [[.sl (v15.l.map zKX.c),iI v15.at_],zz0,[iI 34,iI 0,.str ([]:List UInt8),.sl (v11.1.map cS),.osl ⟨5,26⟩ (([]:List zKZ).map zKZ.c)]] (by simp)
     try simp at r26
     refine panC r26 (by simp) (by simp)<|zAQ<|zAv<|zAQ ?_
     cases h
     simp
    replace h:=zCL h
    refine cut 57 1 [(0,pT 0),(2,pT 1),(3,pT 2)] [[.sl (v19.2.l.map zKX.c),iI v19.2.at_],zz0,[iI 34,iI 0,.str ([]:List UInt8),.sl (v11.1.map cS),.osl ⟨5,26⟩ ([(zKZ.mk 72 0 ([]:List UInt8) v19.1 ([]:List zKZ))].map zKZ.c)]] ?_ ?_
    ·refine st ?_
     simp
     have r27:=(panR (zAa fuel v15 (.inr v19) q17)).frame [0] [[.sl (v15.l.map zKX.c),iI v15.at_],zz0,[iI 34,iI 0,.str ([]:List UInt8),.sl (v11.1.map cS),.osl ⟨5,26⟩ (([]:List zKZ).map zKZ.c)]] (by simp)
     try simp at r27
     refine zAJ r27 (by simp) rfl ?_
     simp
    obtain⟨v20,q21,h⟩:=bs h
    rcases v20 with e22|v23
    ·replace h:=zDB h
     refine zAF<|stP 1 ?_
     simp
     have r24:=(panL (zAE [41] v19.2 (.inl e22) q21)).frame [0] [[.sl (v19.2.l.map zKX.c),iI v19.2.at_],zz0,[iI 34,iI 0,.str ([]:List UInt8),.sl (v11.1.map cS),.osl ⟨5,26⟩ ([(zKZ.mk 72 0 ([]:List UInt8) v19.1 ([]:List zKZ))].map zKZ.c)]] (by simp)
     try simp at r24
     refine panC r24 (by simp) (by simp)<|zAQ<|zAv<|zAQ ?_
     cases h
     simp
    replace h:=zCL h
    refine cut 57 1 [(2,pT 1),(3,pT 2)] [[.sl (v23.l.map zKX.c),iI v23.at_],zz0,[iI 34,iI 0,.str ([]:List UInt8),.sl (v11.1.map cS),.osl ⟨5,26⟩ ([(zKZ.mk 72 0 ([]:List UInt8) v19.1 ([]:List zKZ))].map zKZ.c)]] ?_ ?_
    ·refine st ?_
     simp
     have r25:=(panR (zAE [41] v19.2 (.inr v23) q21)).frame [0] [[.sl (v19.2.l.map zKX.c),iI v19.2.at_],zz0,[iI 34,iI 0,.str ([]:List UInt8),.sl (v11.1.map cS),.osl ⟨5,26⟩ ([(zKZ.mk 72 0 ([]:List UInt8) v19.1 ([]:List zKZ))].map zKZ.c)]] (by simp)
     try simp at r25
     refine zAJ r25 (by simp) rfl ?_
     simp
    refine cutA 57 1 [(2,pT 1)] [[.sl (v23.l.map zKX.c),iI v23.at_],[iI 34,iI 0,.str ([]:List UInt8),.sl (v11.1.map cS),.sl ([(zKZ.mk 72 0 ([]:List UInt8) v19.1 ([]:List zKZ))].map zKZ.c)],[iI 34,iI 0,.str ([]:List UInt8),.sl (v11.1.map cS),.osl ⟨5,26⟩ ([(zKZ.mk 72 0 ([]:List UInt8) v19.1 ([]:List zKZ))].map zKZ.c)]]<|zAA<|zAD<|zAB ?_
    cases h
    simp
   refine zAC<|zDZ<|zAM ?_
   obtain⟨v32,q33,h⟩:=bs h
   rcases v32 with e34|v35
   ·replace h:=zDB h
    refine zAF<|stP 1 ?_
    simp
    have r93:=(panL (zAO v5.2 (.inl e34) q33)).frame [0] [[.sl (v5.2.l.map zKX.c),iI v5.2.at_],zz0] (by simp)
    try simp at r93
    refine panC r93 (by simp) (by simp)<|zAQ ?_
    cases h
    simp
   replace h:=zCL h
   refine cut 57 1 [(0,pT 0),(2,pT 1),(4,.osl ⟨5,26⟩ ([v35.1].map zKZ.c))] [[.sl (v35.2.l.map zKX.c),iI v35.2.at_],zz0] ?_ ?_
   ·refine st ?_
    simp
    have r94:=(panR (zAO v5.2 (.inr v35) q33)).frame [0] [[.sl (v5.2.l.map zKX.c),iI v5.2.at_],zz0] (by simp)
    try simp at r94
    refine zAJ r94 (by simp) rfl ?_
    simp
   refine zAF ?_
   obtain⟨v36,q37,h⟩:=bs h
   refine cut 57 1 [(0,pT 0),(2,pT 1),(4,.osl ⟨5,26⟩ ([v35.1].map zKZ.c)),(30,.bool v36.1)] [[.sl (v36.2.l.map zKX.c),iI v36.2.at_],zz0] ?_ ?_
   ·refine st ?_
    simp
    have r92:=(zAN [58] v35.2 v36 q37).frame [0] [[.sl (v35.2.l.map zKX.c),iI v35.2.at_],zz0] (by simp)
    try simp at r92
    refine zAJ r92 (by simp) rfl ?_
    simp
   refine spc h rfl (fun g38 h=>?_) fun g38 h=>?_
   ·obtain⟨v39,q40,h⟩:=bs h
    rcases v39 with e41|v42
    ·replace h:=zDB h
     refine zAF<|stP 2 ?_
     simp
     have r53:=(panL (zDM fuel v36.2 (.inl e41) q40)).frame [0] [[.sl (v36.2.l.map zKX.c),iI v36.2.at_],zz0] (by simp)
     try simp at r53
     refine panC r53 (by simp) (by simp)<|zAQ<|zAQ ?_
     cases h
     simp
    replace h:=zCL h
    obtain⟨l43,q44,h⟩:=bs h
    obtain⟨q45,q46⟩:=zF6 q44
    try simp at q45
    refine cut 57 1 [(0,pT 0),(2,pT 1),(5,pT 2)] [[.sl (v42.2.l.map zKX.c),iI v42.2.at_],zz0,[iI 33,iI 0,.str ([]:List UInt8),.osl ⟨1,9⟩ (([]:List (List UInt8)).map cS),.sl (l43.map zKZ.c)]] ?_ ?_
    ·refine st ?_
     simp[q45,q46]
     have r54:=(panR (zDM fuel v36.2 (.inr v42) q40)).frame [0] [[.sl (v36.2.l.map zKX.c),iI v36.2.at_],zz0] (by simp)
     try simp[q45,q46] at r54
     refine zAJ r54 (by simp[q45,q46]) rfl ?_
     simp[q45,q46]
    obtain⟨v47,q48,h⟩:=bs h
    rcases v47 with e49|v50
    ·replace h:=zDB h
     refine zAF<|stP 1 ?_
     simp
     have r51:=(panL (zAE [41] v42.2 (.inl e49) q48)).frame [0] [[.sl (v42.2.l.map zKX.c),iI v42.2.at_],zz0,[iI 33,iI 0,.str ([]:List UInt8),.osl ⟨1,9⟩ (([]:List (List UInt8)).map cS),.sl (l43.map zKZ.c)]] (by simp)
     try simp at r51
     refine panC r51 (by simp) (by simp)<|zAQ<|zAQ ?_
     cases h
     simp
    replace h:=zCL h
    refine cut 57 1 [(2,pT 1),(5,pT 2)] [[.sl (v50.l.map zKX.c),iI v50.at_],zz0,[iI 33,iI 0,.str ([]:List UInt8),.osl ⟨1,9⟩ (([]:List (List UInt8)).map cS),.sl (l43.map zKZ.c)]] ?_ ?_
    ·refine st ?_
     simp
     have r52:=(panR (zAE [41] v42.2 (.inr v50) q48)).frame [0] [[.sl (v42.2.l.map zKX.c),iI v42.2.at_],zz0,[iI 33,iI 0,.str ([]:List UInt8),.osl ⟨1,9⟩ (([]:List (List UInt8)).map cS),.sl (l43.map zKZ.c)]] (by simp)
     try simp at r52
     refine zAJ r52 (by simp) rfl ?_
     simp
    refine cutA 57 1 [(2,pT 1)] [[.sl (v50.l.map zKX.c),iI v50.at_],[iI 33,iI 0,.str ([]:List UInt8),.sl (([]:List (List UInt8)).map cS),.sl (l43.map zKZ.c)],[iI 33,iI 0,.str ([]:List UInt8),.osl ⟨1,9⟩ (([]:List (List UInt8)).map cS),.sl (l43.map zKZ.c)]]<|zAA<|zAB ?_
    cases h
    simp
   refine zAC<|zAM<|zAF<|zAP ?_
   obtain⟨o59,l60,h⟩:=bs h
   refine zCm (fun p:Nat×(List zKX)×Int×(List zKZ)=>mkS 57 1 [(0,pT 0),(2,pT 1),(4,.osl ⟨5,26⟩ (p.2.2.2.map zKZ.c))] [[.sl (p.2.1.map zKX.c),iI p.2.2.1],zz0]) (fun p=>zBN (zAV fuel) p.1 p.2.1 p.2.2.1 p.2.2.2=some o59) (fun p=>p.1) (fuel,v36.2.l,v36.2.at_,[v35.1]) l60 (zBi (by simp)) ?_
   rintro⟨k61,l55,at56,l57⟩ l60
   try dsimp only at l60 ⊢
   cases k61 with
   |zero=>
    rw[zBN] at l60;cases l60
   |succ k62=>
    rw[zBN] at l60
    refine zAF ?_
    obtain⟨v63,q64,l60⟩:=bs l60
    refine cut 57 1 [(0,pT 0),(2,pT 1),(4,.osl ⟨5,26⟩ (l57.map zKZ.c)),(41,.bool v63.1)] [[.sl (v63.2.l.map zKX.c),iI v63.2.at_],zz0] ?_ ?_
    ·refine st ?_
     simp
     have r91:=(zAN [44] (zKU.mk l55 at56) v63 q64).frame [0] [[.sl (l55.map zKX.c),iI at56],zz0] (by simp)
     try simp at r91
     refine zAJ r91 (by simp) rfl ?_
     simp
    refine spc l60 rfl (fun g65 l60=>?_) fun g65 l60=>?_
    ·refine zAC<|zAM<|zAP ?_
     obtain⟨v66,q67,l60⟩:=bs l60
     rcases v66 with e68|v69
     ·replace l60:=zDB l60
      refine stP 2 ?_
      simp
      have r74:=(panL (zAO v63.2 (.inl e68) q67)).frame [0] [[.sl (v63.2.l.map zKX.c),iI v63.2.at_],zz0] (by simp)
      try simp at r74
      refine panC r74 (by simp) (by simp)<|zAv ?_
      replace h:=retL l60 h
      refine zAQ<|zAv<|zAQ ?_
      cases h
      simp
     replace l60:=zCL l60
     obtain⟨l70,q71,l60⟩:=bs l60
     obtain⟨q72,q73⟩:=zF6 q71
     try simp at q72
     refine last 57 1 [(0,pT 0),(2,pT 1),(4,.osl ⟨5,26⟩ (l70.map zKZ.c))] [[.sl (v69.2.l.map zKX.c),iI v69.2.at_],zz0] ?_ fun zz hs=>?_
     ·refine st ?_
      simp[q72,q73]
      have r75:=(panR (zAO v63.2 (.inr v69) q67)).frame [0] [[.sl (v63.2.l.map zKX.c),iI v63.2.at_],zz0] (by simp)
      try simp[q72,q73] at r75
      refine zAJ r75 (by simp[q72,q73]) rfl ?_
      simp[q72,q73]
     refine zDZ ?_
     exact⟨(k62,v69.2.l,v69.2.at_,l70),hs,l60,by simp⟩
    refine zB6<|zAi ?_
    rcases o59 with o59|o58
    ·cases l60
    have q76:=Sum.inr.inj (zqa l60)
    replace h:=zCL h
    have q77:o58.1=l57:=by rw[<-q76]
    have q78:o58.2.1=v63.2.l:=by rw[<-q76]
    have q79:o58.2.2=v63.2.at_:=by rw[<-q76]
    refine zAi<|zB5<|zDG (t:=mkS 57 1 [(0,pT 0),(2,pT 1),(4,.osl ⟨5,26⟩ (o58.1.map zKZ.c))] [[.sl (o58.2.1.map zKX.c),iI o58.2.2],zz0]) ?_ (zBi (by simp[q77,q78,q79]))
    obtain⟨v80,q81,h⟩:=bs h
    rcases v80 with e82|v83
    ·replace h:=zDB h
     refine zAF<|stP 1 ?_
     simp
     have r89:=(panL (zAE [41] (zKU.mk o58.2.1 o58.2.2) (.inl e82) q81)).frame [0] [[.sl (o58.2.1.map zKX.c),iI o58.2.2],zz0] (by simp)
     try simp at r89
     refine panC r89 (by simp) (by simp)<|zAQ ?_
     cases h
     simp
    replace h:=zCL h
    refine cut 57 1 [(2,pT 1),(4,.osl ⟨5,26⟩ (o58.1.map zKZ.c))] [[.sl (v83.l.map zKX.c),iI v83.at_],zz0] ?_ ?_
    ·refine st ?_
     simp
     have r90:=(panR (zAE [41] (zKU.mk o58.2.1 o58.2.2) (.inr v83) q81)).frame [0] [[.sl (o58.2.1.map zKX.c),iI o58.2.2],zz0] (by simp)
     try simp at r90
     refine zAJ r90 (by simp) rfl ?_
     simp
    refine zAF<|cutA 57 1 [(2,pT 1),(4,.osl ⟨5,26⟩ (o58.1.map zKZ.c)),(51,.bool (eqI o58.1.length 1))] [[.sl (v83.l.map zKX.c),iI v83.at_],zz0]<|spc h rfl (fun g84 h=>?_) fun g84 h=>?_
    ·have c85:=eqT g84
     obtain⟨x86,q87,h⟩:=bs h
     refine cut 57 1 [(2,pT 1)] [[.sl (v83.l.map zKX.c),iI v83.at_],x86.d] (st (by simp[q87]))<|zAA<|zAB ?_
     cases h
     simp
    have c88:=eqF g84
    refine zAC<|zAM<|cutA 57 1 [(2,pT 1)] [[.sl (v83.l.map zKX.c),iI v83.at_],[iI 27,iI 0,.str ([]:List UInt8),.osl ⟨1,9⟩ (([]:List (List UInt8)).map cS),.sl (o58.1.map zKZ.c)]]<|zAA ?_
    cases h
    simp
  ·intro w1 r h
   rw[zB9] at h
   refine zBu Tryz.func112 (by rfl) (by rfl) (by simp) (by simp)<|cutA 36 1 [(0,pT 0),(2,pT 1)] [[.sl (w1.l.map zKX.c),iI w1.at_],zz0] ?_
   obtain⟨v2,q3,h⟩:=bs h
   rcases v2 with e4|v5
   ·replace h:=zDB h
    refine zAF<|stP 1 ?_
    simp
    have r57:=(panL (zAO w1 (.inl e4) q3)).frame [0] [[.sl (w1.l.map zKX.c),iI w1.at_],zz0] (by simp)
    try simp at r57
    refine panC r57 (by simp) (by simp)<|zAQ ?_
    cases h
    simp
   replace h:=zCL h
   refine cut 36 1 [(0,pT 0),(2,pT 1),(3,pT 2)] [[.sl (v5.2.l.map zKX.c),iI v5.2.at_],zz0,[iI 29,iI 0,.str ([]:List UInt8),.osl ⟨1,9⟩ (([]:List (List UInt8)).map cS),.osl ⟨5,26⟩ ([v5.1].map zKZ.c)]] ?_ ?_
   ·refine stG 3 7 1 4 rfl rfl rfl rfl rfl rfl rfl rfl rfl rfl ?_
    simp
    have r58:=(panR (zAO w1 (.inr v5) q3)).frame [0] [[.sl (w1.l.map zKX.c),iI w1.at_],zz0] (by simp)
    try simp at r58
    refine zAJ r58 (by simp) rfl ?_
    simp
   obtain⟨v6,q7,h⟩:=bs h
   rcases v6 with e8|v9
   ·replace h:=zDB h
    refine zAF<|stP 1 ?_
    simp
    have r55:=(panL (zAE [111,102] v5.2 (.inl e8) q7)).frame [0] [[.sl (v5.2.l.map zKX.c),iI v5.2.at_],zz0,[iI 29,iI 0,.str ([]:List UInt8),.osl ⟨1,9⟩ (([]:List (List UInt8)).map cS),.osl ⟨5,26⟩ ([v5.1].map zKZ.c)]] (by simp)
    try simp at r55
    refine panC r55 (by simp) (by simp)<|zAQ ?_
    cases h
    simp
   replace h:=zCL h
   refine cut 36 1 [(0,pT 0),(2,pT 1),(3,pT 2)] [[.sl (v9.l.map zKX.c),iI v9.at_],zz0,[iI 29,iI 0,.str ([]:List UInt8),.osl ⟨1,9⟩ (([]:List (List UInt8)).map cS),.osl ⟨5,26⟩ ([v5.1].map zKZ.c)]] ?_ ?_
   ·refine st ?_
    simp
    have r56:=(panR (zAE [111,102] v5.2 (.inr v9) q7)).frame [0] [[.sl (v5.2.l.map zKX.c),iI v5.2.at_],zz0,[iI 29,iI 0,.str ([]:List UInt8),.osl ⟨1,9⟩ (([]:List (List UInt8)).map cS),.osl ⟨5,26⟩ ([v5.1].map zKZ.c)]] (by simp)
    try simp at r56
    refine zAJ r56 (by simp) rfl ?_
    simp
   refine zAP<|zCm (fun p:Nat×(List zKX)×Int×(List zKZ)=>mkS 36 1 [(0,pT 0),(2,pT 1),(3,pT 2)] [[.sl (p.2.1.map zKX.c),iI p.2.2.1],zz0,[iI 29,iI 0,.str ([]:List UInt8),.osl ⟨1,9⟩ (([]:List (List UInt8)).map cS),.osl ⟨5,26⟩ (p.2.2.2.map zKZ.c)]]) (fun p=>zA6 fuel (zAV fuel) p.1 p.2.1 p.2.2.1 p.2.2.2=some r) (fun p=>p.1) (fuel,v9.l,v9.at_,[v5.1]) h (zBi (by simp)) ?_
   rintro⟨k14,l10,at11,L12⟩ h
   try dsimp only at h ⊢
   cases k14 with
   |zero=>
    rw[zA6] at h;cases h
   |succ k15=>
    rw[zA6] at h
    refine zAP ?_
    obtain⟨v16,q17,h⟩:=bs h
    rcases v16 with e18|v19
    ·replace h:=zDB h
     refine zAF<|stP 1 ?_
     simp
     have r53:=(panL (zCi fuel (zKU.mk l10 at11) (.inl e18) q17)).frame [0] [[.sl (l10.map zKX.c),iI at11],zz0,[iI 29,iI 0,.str ([]:List UInt8),.osl ⟨1,9⟩ (([]:List (List UInt8)).map cS),.osl ⟨5,26⟩ (L12.map zKZ.c)]] (by simp)
     try simp at r53
     refine panC r53 (by simp) (by simp)<|zAQ<|zAv<|zAQ<|zAv ?_
     cases h
     simp
    replace h:=zCL h
    refine cut 36 1 [(0,pT 0),(2,pT 1),(3,pT 2),(4,pT 3)] [[.sl (v19.2.l.map zKX.c),iI v19.2.at_],zz0,[iI 29,iI 0,.str ([]:List UInt8),.osl ⟨1,9⟩ (([]:List (List UInt8)).map cS),.osl ⟨5,26⟩ (L12.map zKZ.c)],[iI 30,iI 0,.str ([]:List UInt8),.osl ⟨1,9⟩ (([]:List (List UInt8)).map cS),.osl ⟨5,26⟩ ([v19.1].map zKZ.c)]] ?_ ?_
    ·refine stG 3 13 1 4 rfl rfl rfl rfl rfl rfl rfl rfl rfl rfl ?_
     simp
     have r54:=(panR (zCi fuel (zKU.mk l10 at11) (.inr v19) q17)).frame [0] [[.sl (l10.map zKX.c),iI at11],zz0,[iI 29,iI 0,.str ([]:List UInt8),.osl ⟨1,9⟩ (([]:List (List UInt8)).map cS),.osl ⟨5,26⟩ (L12.map zKZ.c)]] (by simp)
     try simp at r54
     refine zAJ r54 (by simp) rfl ?_
     simp
    obtain⟨v20,q21,h⟩:=bs h
    rcases v20 with e22|v23
    ·replace h:=zDB h
     refine zAF<|stP 1 ?_
     simp
     have r51:=(panL (zAE [61,62] v19.2 (.inl e22) q21)).frame [0] [[.sl (v19.2.l.map zKX.c),iI v19.2.at_],zz0,[iI 29,iI 0,.str ([]:List UInt8),.osl ⟨1,9⟩ (([]:List (List UInt8)).map cS),.osl ⟨5,26⟩ (L12.map zKZ.c)],[iI 30,iI 0,.str ([]:List UInt8),.osl ⟨1,9⟩ (([]:List (List UInt8)).map cS),.osl ⟨5,26⟩ ([v19.1].map zKZ.c)]] (by simp)
     try simp at r51
     refine panC r51 (by simp) (by simp)<|zAQ<|zAv<|zAQ<|zAv ?_
     cases h
     simp
    replace h:=zCL h
    refine cut 36 1 [(0,pT 0),(2,pT 1),(3,pT 2),(4,pT 3)] [[.sl (v23.l.map zKX.c),iI v23.at_],zz0,[iI 29,iI 0,.str ([]:List UInt8),.osl ⟨1,9⟩ (([]:List (List UInt8)).map cS),.osl ⟨5,26⟩ (L12.map zKZ.c)],[iI 30,iI 0,.str ([]:List UInt8),.osl ⟨1,9⟩ (([]:List (List UInt8)).map cS),.osl ⟨5,26⟩ ([v19.1].map zKZ.c)]] ?_ ?_
    ·refine st ?_
     simp
     have r52:=(panR (zAE [61,62] v19.2 (.inr v23) q21)).frame [0] [[.sl (v19.2.l.map zKX.c),iI v19.2.at_],zz0,[iI 29,iI 0,.str ([]:List UInt8),.osl ⟨1,9⟩ (([]:List (List UInt8)).map cS),.osl ⟨5,26⟩ (L12.map zKZ.c)],[iI 30,iI 0,.str ([]:List UInt8),.osl ⟨1,9⟩ (([]:List (List UInt8)).map cS),.osl ⟨5,26⟩ ([v19.1].map zKZ.c)]] (by simp)
     try simp at r52
     refine zAJ r52 (by simp) rfl ?_
     simp
    obtain⟨v24,q25,h⟩:=bs h
    rcases v24 with e26|v27
    ·replace h:=zDB h
     refine zAF<|zBl [0,996] [5,7] 3 mixed (n:=36) rfl (by decide) (by decide) (by decide) ?_
     simp
     have r49:=(panL (zAO v23 (.inl e26) q25)).frame [0] [[.sl (v23.l.map zKX.c),iI v23.at_],zz0,[iI 29,iI 0,.str ([]:List UInt8),.osl ⟨1,9⟩ (([]:List (List UInt8)).map cS),.osl ⟨5,26⟩ (L12.map zKZ.c)],[iI 30,iI 0,.str ([]:List UInt8),.osl ⟨1,9⟩ (([]:List (List UInt8)).map cS),.osl ⟨5,26⟩ ([v19.1].map zKZ.c)]] (by simp)
     try simp at r49
     refine panC r49 (by simp) (by simp)<|zAQ<|zAv<|zAQ<|zAv ?_
     cases h
     simp
    replace h:=zCL h
    obtain⟨l28,q29,h⟩:=bs h
    obtain⟨q30,q31⟩:=zF6 q29
    try simp at q30
    refine cut 36 1 [(0,pT 0),(2,pT 1),(3,pT 2),(4,pT 3)] [[.sl (v27.2.l.map zKX.c),iI v27.2.at_],zz0,[iI 29,iI 0,.str ([]:List UInt8),.osl ⟨1,9⟩ (([]:List (List UInt8)).map cS),.osl ⟨5,26⟩ (L12.map zKZ.c)],[iI 30,iI 0,.str ([]:List UInt8),.osl ⟨1,9⟩ (([]:List (List UInt8)).map cS),.osl ⟨5,26⟩ (l28.map zKZ.c)]] ?_ ?_
    ·refine zBd [0,996] [5,7] mixed (n:=36) rfl (by decide) (by decide) ?_
     simp[q30,q31]
     have r50:=(panR (zAO v23 (.inr v27) q25)).frameZ [0] [[.sl (v23.l.map zKX.c),iI v23.at_],zz0,[iI 29,iI 0,.str ([]:List UInt8),.osl ⟨1,9⟩ (([]:List (List UInt8)).map cS),.osl ⟨5,26⟩ (L12.map zKZ.c)],[iI 30,iI 0,.str ([]:List UInt8),.osl ⟨1,9⟩ (([]:List (List UInt8)).map cS),.osl ⟨5,26⟩ ([v19.1].map zKZ.c)]] (by simp) rfl (by simp) (by simp)
     try simp[q30,q31] at r50
     refine zHO r50 (by simp[q30,q31]) rfl (by decide) (by simp) ?_
     simp[q30,q31]
    obtain⟨l32,q33,h⟩:=bs h
    obtain⟨q34,q35⟩:=zF6 q33
    have q36:=q34
    try simp at q36
    try simp[q31] at q34
    refine cut 36 1 [(0,pT 0),(2,pT 1),(3,pT 2)] [[.sl (v27.2.l.map zKX.c),iI v27.2.at_],zz0,[iI 29,iI 0,.str ([]:List UInt8),.osl ⟨1,9⟩ (([]:List (List UInt8)).map cS),.osl ⟨5,26⟩ (l32.map zKZ.c)],[iI 30,iI 0,.str ([]:List UInt8),.osl ⟨1,9⟩ (([]:List (List UInt8)).map cS),.osl ⟨5,26⟩ (l28.map zKZ.c)]] (st (by simp[q34,q36,q35])) ?_
    obtain⟨v37,q38,h⟩:=bs h
    refine cut 36 1 [(0,pT 0),(2,pT 1),(3,pT 2),(32,.bool (!v37.1))] [[.sl (v37.2.l.map zKX.c),iI v37.2.at_],zz0,[iI 29,iI 0,.str ([]:List UInt8),.osl ⟨1,9⟩ (([]:List (List UInt8)).map cS),.osl ⟨5,26⟩ (l32.map zKZ.c)],[iI 30,iI 0,.str ([]:List UInt8),.osl ⟨1,9⟩ (([]:List (List UInt8)).map cS),.osl ⟨5,26⟩ (l28.map zKZ.c)]] ?_ ?_
    ·refine st ?_
     simp
     have r48:=(zAN [124] v27.2 v37 q38).frame [0] [[.sl (v27.2.l.map zKX.c),iI v27.2.at_],zz0,[iI 29,iI 0,.str ([]:List UInt8),.osl ⟨1,9⟩ (([]:List (List UInt8)).map cS),.osl ⟨5,26⟩ (l32.map zKZ.c)],[iI 30,iI 0,.str ([]:List UInt8),.osl ⟨1,9⟩ (([]:List (List UInt8)).map cS),.osl ⟨5,26⟩ (l28.map zKZ.c)]] (by simp)
     try simp at r48
     refine zAJ r48 (by simp) rfl ?_
     simp
    refine spc h rfl (fun g39 h=>?_) fun g39 h=>?_
    ·have g40:=notT g39
     obtain⟨v41,q42,h⟩:=bs h
     rcases v41 with e43|v44
     ·replace h:=zDB h
      refine zAF<|stP 1 ?_
      simp
      have r45:=(panL (zAE [101,110,100] v37.2 (.inl e43) q42)).frame [0] [[.sl (v37.2.l.map zKX.c),iI v37.2.at_],zz0,[iI 29,iI 0,.str ([]:List UInt8),.osl ⟨1,9⟩ (([]:List (List UInt8)).map cS),.osl ⟨5,26⟩ (l32.map zKZ.c)],[iI 30,iI 0,.str ([]:List UInt8),.osl ⟨1,9⟩ (([]:List (List UInt8)).map cS),.osl ⟨5,26⟩ (l28.map zKZ.c)]] (by simp)
      try simp at r45
      refine panC r45 (by simp) (by simp)<|zAQ<|zAv<|zAQ<|zAv ?_
      cases h
      simp
     replace h:=zCL h
     refine cut 36 1 [(2,pT 1),(3,pT 2)] [[.sl (v44.l.map zKX.c),iI v44.at_],zz0,[iI 29,iI 0,.str ([]:List UInt8),.osl ⟨1,9⟩ (([]:List (List UInt8)).map cS),.osl ⟨5,26⟩ (l32.map zKZ.c)],[iI 30,iI 0,.str ([]:List UInt8),.osl ⟨1,9⟩ (([]:List (List UInt8)).map cS),.osl ⟨5,26⟩ (l28.map zKZ.c)]] ?_ ?_
     ·refine st ?_
      simp
      have r46:=(panR (zAE [101,110,100] v37.2 (.inr v44) q42)).frame [0] [[.sl (v37.2.l.map zKX.c),iI v37.2.at_],zz0,[iI 29,iI 0,.str ([]:List UInt8),.osl ⟨1,9⟩ (([]:List (List UInt8)).map cS),.osl ⟨5,26⟩ (l32.map zKZ.c)],[iI 30,iI 0,.str ([]:List UInt8),.osl ⟨1,9⟩ (([]:List (List UInt8)).map cS),.osl ⟨5,26⟩ (l28.map zKZ.c)]] (by simp)
      try simp at r46
      refine zAJ r46 (by simp) rfl ?_
      simp
     refine cutA 36 1 [(2,pT 1)] [[.sl (v44.l.map zKX.c),iI v44.at_],[iI 29,iI 0,.str ([]:List UInt8),.sl (([]:List (List UInt8)).map cS),.sl (l32.map zKZ.c)],[iI 29,iI 0,.str ([]:List UInt8),.osl ⟨1,9⟩ (([]:List (List UInt8)).map cS),.osl ⟨5,26⟩ (l32.map zKZ.c)],[iI 30,iI 0,.str ([]:List UInt8),.osl ⟨1,9⟩ (([]:List (List UInt8)).map cS),.osl ⟨5,26⟩ (l28.map zKZ.c)]]<|zAA<|zAD<|zAB<|zAD ?_
     cases h
     simp
    have g47:=notF g39
    refine zAC<|zDZ ?_
    exact⟨(k15,v37.2.l,v37.2.at_,l32),zBi (by simp),h,by simp⟩
  ·intro w1 r h
   rw[zBR] at h
   refine zBu Tryz.func132 (by rfl) (by rfl) (by simp) (by simp)<|cutA 20 1 [(0,pT 0),(2,pT 1)] [[.sl (w1.l.map zKX.c),iI w1.at_],zz0]<|zAF ?_
   obtain⟨v2,q3,h⟩:=bs h
   refine cut 20 1 [(0,pT 0),(2,pT 1),(5,.bool v2.1)] [[.sl (v2.2.l.map zKX.c),iI v2.2.at_],zz0] ?_ ?_
   ·refine st ?_
    simp
    have r47:=(zAN [126] w1 v2 q3).frame [0] [[.sl (w1.l.map zKX.c),iI w1.at_],zz0] (by simp)
    try simp at r47
    refine zAJ r47 (by simp) rfl ?_
    simp
   refine spc h rfl (fun g4 h=>?_) fun g4 h=>?_
   ·obtain⟨v5,q6,h⟩:=bs h
    rcases v5 with e7|v8
    ·replace h:=zDB h
     refine zAF<|stP 1 ?_
     simp
     have r9:=(panL (zCY v2.2 (.inl e7) q6)).frame [0] [[.sl (v2.2.l.map zKX.c),iI v2.2.at_],zz0] (by simp)
     try simp at r9
     refine panC r9 (by simp) (by simp)<|zAQ<|zAQ ?_
     cases h
     simp
    replace h:=zCL h
    refine cut 20 1 [(2,pT 1)] [[.sl (v8.2.l.map zKX.c),iI v8.2.at_],[iI 32,iI 12,.str ([]:List UInt8),.osl ⟨1,9⟩ (([]:List (List UInt8)).map cS),.sl ([v8.1].map zKZ.c)]] ?_ ?_
    ·refine st ?_
     simp
     have r10:=(panR (zCY v2.2 (.inr v8) q6)).frame [0] [[.sl (v2.2.l.map zKX.c),iI v2.2.at_],zz0] (by simp)
     try simp at r10
     refine zAJ r10 (by simp) rfl ?_
     simp
    refine zAA<|zAB ?_
    cases h
    simp
   refine zAC<|zAM ?_
   obtain⟨v11,q12,h⟩:=bs h
   rcases v11 with e13|v14
   ·replace h:=zDB h
    refine zAF<|stP 1 ?_
    simp
    have r45:=(panL (zCF v2.2 (.inl e13) q12)).frame [0] [[.sl (v2.2.l.map zKX.c),iI v2.2.at_],zz0] (by simp)
    try simp at r45
    refine panC r45 (by simp) (by simp)<|zAQ ?_
    cases h
    simp
   replace h:=zCL h
   refine cut 20 1 [(0,pT 0),(2,pT 1),(3,pT 2)] [[.sl (v14.2.l.map zKX.c),iI v14.2.at_],zz0,(zKZ.d v14.1)] ?_ ?_
   ·refine st ?_
    simp
    have r46:=(panR (zCF v2.2 (.inr v14) q12)).frame [0] [[.sl (v2.2.l.map zKX.c),iI v2.2.at_],zz0] (by simp)
    try simp at r46
    refine zAJ r46 (by simp) rfl ?_
    simp
   refine zAF<|zAP ?_
   obtain⟨o23,l24,h⟩:=bs h
   refine zCm (fun p:Nat×(List zKX)×Int×Int×Int×(List UInt8)×(List (List UInt8))×(List zKZ)=>mkS 20 1 [(0,pT 0),(2,pT 1),(3,pT 2)] [[.sl (p.2.1.map zKX.c),iI p.2.2.1],zz0,[iI p.2.2.2.1,iI p.2.2.2.2.1,.str p.2.2.2.2.2.1,.sl (p.2.2.2.2.2.2.1.map cS),.sl (p.2.2.2.2.2.2.2.map zKZ.c)]]) (fun p=>zAu (zAw fuel) p.1 p.2.1 p.2.2.1 p.2.2.2.1 p.2.2.2.2.1 p.2.2.2.2.2.1 p.2.2.2.2.2.2.1 p.2.2.2.2.2.2.2=some o23) (fun p=>p.1) (fuel,v14.2.l,v14.2.at_,v14.1.Op,v14.1.N,v14.1.S,v14.1.Names,v14.1.L) l24 (zBi (by simp)) ?_
   rintro⟨k25,l15,at16,Op17,N18,S19,Names20,L21⟩ l24
   try dsimp only at l24 ⊢
   cases k25 with
   |zero=>
    rw[zAu] at l24;cases l24
   |succ k26=>
    rw[zAu] at l24
    refine zAF ?_
    obtain⟨v27,q28,l24⟩:=bs l24
    refine cut 20 1 [(0,pT 0),(2,pT 1),(3,pT 2),(13,.bool v27)] [[.sl (l15.map zKX.c),iI at16],zz0,[iI Op17,iI N18,.str S19,.sl (Names20.map cS),.sl (L21.map zKZ.c)]] ?_ ?_
    ·refine st ?_
     simp
     have r44:=(zFf (zKU.mk l15 at16) v27 q28).frame [0] [[.sl (l15.map zKX.c),iI at16],zz0,[iI Op17,iI N18,.str S19,.sl (Names20.map cS),.sl (L21.map zKZ.c)]] (by simp)
     try simp at r44
     refine zAJ r44 (by simp) rfl ?_
     simp
    refine spc l24 rfl (fun g29 l24=>?_) fun g29 l24=>?_
    ·refine zAC<|zAM<|zAP ?_
     obtain⟨v30,q31,l24⟩:=bs l24
     rcases v30 with e32|v33
     ·replace l24:=zDB l24
      refine zBl [0,996] [5] 2 mixed (n:=20) rfl (by decide) (by decide) (by decide) ?_
      simp
      have r34:=(panL (zCF (zKU.mk l15 at16) (.inl e32) q31)).frame [0] [[.sl (l15.map zKX.c),iI at16],zz0,[iI Op17,iI N18,.str S19,.sl (Names20.map cS),.sl (L21.map zKZ.c)]] (by simp)
      try simp at r34
      refine panC r34 (by simp) (by simp)<|zAv ?_
      replace h:=retL l24 h
      refine zAQ<|zAv<|zAQ ?_
      cases h
      simp
     replace l24:=zCL l24
     refine last 20 1 [(0,pT 0),(2,pT 1),(3,pT 2)] [[.sl (v33.2.l.map zKX.c),iI v33.2.at_],zz0,[iI 26,iI 0,.str ([]:List UInt8),.sl (([]:List (List UInt8)).map cS),.sl ([(zKZ.mk Op17 N18 S19 Names20 L21),v33.1].map zKZ.c)]] ?_ fun zz hs=>?_
     ·refine zBd [0,996] [5] mixed (n:=20) rfl (by decide) (by decide) ?_
      simp
      have r35:=(panR (zCF (zKU.mk l15 at16) (.inr v33) q31)).frameZ [0] [[.sl (l15.map zKX.c),iI at16],zz0,[iI Op17,iI N18,.str S19,.sl (Names20.map cS),.sl (L21.map zKZ.c)]] (by simp) rfl (by simp) (by simp)
      try simp at r35
      refine zHO r35 (by simp) rfl (by decide) (by simp) ?_
      simp
     refine zDZ ?_
     exact⟨(k26,v33.2.l,v33.2.at_,26,0,([]:List UInt8),([]:List (List UInt8)),[(zKZ.mk Op17 N18 S19 Names20 L21),v33.1]),hs,l24,by simp⟩
    refine zB6<|zAi ?_
    rcases o23 with o23|o22
    ·cases l24
    have q36:=Sum.inr.inj (zqa l24)
    replace h:=zCL h
    have q37:o22.1=l15:=by rw[<-q36]
    have q38:o22.2.1=at16:=by rw[<-q36]
    have q39:o22.2.2.1=Op17:=by rw[<-q36]
    have q40:o22.2.2.2.1=N18:=by rw[<-q36]
    have q41:o22.2.2.2.2.1=S19:=by rw[<-q36]
    have q42:o22.2.2.2.2.2.1=Names20:=by rw[<-q36]
    have q43:o22.2.2.2.2.2.2=L21:=by rw[<-q36]
    refine zAi<|zB5<|zDG (t:=mkS 20 1 [(2,pT 1),(3,pT 2)] [[.sl (o22.1.map zKX.c),iI o22.2.1],zz0,[iI o22.2.2.1,iI o22.2.2.2.1,.str o22.2.2.2.2.1,.sl (o22.2.2.2.2.2.1.map cS),.sl (o22.2.2.2.2.2.2.map zKZ.c)]]) ?_ (zBi (by simp[q37,q38,q39,q40,q41,q42,q43]))
    refine cutA 20 1 [(2,pT 1)] [[.sl (o22.1.map zKX.c),iI o22.2.1],[iI o22.2.2.1,iI o22.2.2.2.1,.str o22.2.2.2.2.1,.sl (o22.2.2.2.2.2.1.map cS),.sl (o22.2.2.2.2.2.2.map zKZ.c)],[iI o22.2.2.1,iI o22.2.2.2.1,.str o22.2.2.2.2.1,.sl (o22.2.2.2.2.2.1.map cS),.sl (o22.2.2.2.2.2.2.map zKZ.c)]]<|zAA ?_
    cases h
    simp
  ·intro n1 w2 r h
   rw[zBF] at h
   refine zBu Tryz.func115 (by rfl) (by rfl) (by simp) (by simp)<|cutA 58 1 [(0,pT 0),(1,iI n1),(4,pT 1)] [[.sl (w2.l.map zKX.c),iI w2.at_],zz0]<|zAF<|cutA 58 1 [(0,pT 0),(1,iI n1),(4,pT 1),(8,.bool (eqI n1 7))] [[.sl (w2.l.map zKX.c),iI w2.at_],zz0]<|spc h rfl (fun g3 h=>?_) fun g3 h=>?_
   ·obtain⟨v5,q6,h⟩:=bs h
    rcases v5 with e7|v8
    ·replace h:=zDB h
     refine zAF<|stP 1 ?_
     simp
     have r9:=(panL (zCY w2 (.inl e7) q6)).frame [0] [[.sl (w2.l.map zKX.c),iI w2.at_],zz0] (by simp)
     try simp at r9
     refine panC r9 (by simp) (by simp)<|zAQ<|zAQ ?_
     cases h
     simp
    replace h:=zCL h
    refine cut 58 1 [(4,pT 1)] [[.sl (v8.2.l.map zKX.c),iI v8.2.at_],(zKZ.d v8.1)] ?_ ?_
    ·refine st ?_
     simp
     have r10:=(panR (zCY w2 (.inr v8) q6)).frame [0] [[.sl (w2.l.map zKX.c),iI w2.at_],zz0] (by simp)
     try simp at r10
     refine zAJ r10 (by simp) rfl ?_
     simp
    refine zAA<|zAB ?_
    cases h
    simp
   refine zAC<|zAM ?_
   obtain⟨n12,q13,h⟩:=bs h
   obtain⟨q14,q15⟩:=zD5 q13
   try simp at q14
   try simp at q15
   have c16:=q14;simp only[Rng,inR] at c16
   obtain⟨v17,q18,h⟩:=bs h
   rcases v17 with e19|v20
   ·replace h:=zDB h
    refine zAF<|stP 3 ?_
    simp[q14,q15]
    have r86:=(panL (zAf n12 w2 (.inl e19) q18)).frame [0] [[.sl (w2.l.map zKX.c),iI w2.at_],zz0] (by simp)
    try simp[q14,q15] at r86
    refine panC r86 (by simp[q14,q15]) (by simp)<|zAQ ?_
    cases h
    simp
   replace h:=zCL h
   refine cut 58 1 [(0,pT 0),(1,iI n1),(4,pT 1),(5,pT 2)] [[.sl (v20.2.l.map zKX.c),iI v20.2.at_],zz0,(zKZ.d v20.1)] ?_ ?_
   ·refine st ?_
    simp[q14,q15]
    have r87:=(panR (zAf n12 w2 (.inr v20) q18)).frame [0] [[.sl (w2.l.map zKX.c),iI w2.at_],zz0] (by simp)
    try simp[q14,q15] at r87
    refine zAJ r87 (by simp[q14,q15]) rfl ?_
    simp[q14,q15]
   refine zAP<|zCm (fun p:Nat×(List zKX)×Int×Int×Int×(List UInt8)×(List (List UInt8))×(List zKZ)=>mkS 58 1 [(0,pT 0),(1,iI n1),(4,pT 1),(5,pT 2)] [[.sl (p.2.1.map zKX.c),iI p.2.2.1],zz0,[iI p.2.2.2.1,iI p.2.2.2.2.1,.str p.2.2.2.2.2.1,.sl (p.2.2.2.2.2.2.1.map cS),.sl (p.2.2.2.2.2.2.2.map zKZ.c)]]) (fun p=>zBB (zBF fuel) n1 n12 p.1 p.2.1 p.2.2.1 p.2.2.2.1 p.2.2.2.2.1 p.2.2.2.2.2.1 p.2.2.2.2.2.2.1 p.2.2.2.2.2.2.2=some r) (fun p=>p.1) (fuel,v20.2.l,v20.2.at_,v20.1.Op,v20.1.N,v20.1.S,v20.1.Names,v20.1.L) h (zBi (by simp)) ?_
   rintro⟨k29,l21,at22,Op23,N24,S25,Names26,L27⟩ h
   try dsimp only at h ⊢
   cases k29 with
   |zero=>
    rw[zBB] at h;cases h
   |succ k30=>
    rw[zBB] at h
    refine zAP ?_
    obtain⟨v31,q32,h⟩:=bs h
    refine cut 58 1 [(0,pT 0),(1,iI n1),(4,pT 1),(5,pT 2),(6,iI v31)] [[.sl (l21.map zKX.c),iI at22],zz0,[iI Op23,iI N24,.str S25,.sl (Names26.map cS),.sl (L27.map zKZ.c)]] ?_ ?_
    ·refine st ?_
     simp
     have r85:=(zFP n1 (zKU.mk l21 at22) v31 q32).frame [0] [[.sl (l21.map zKX.c),iI at22],zz0,[iI Op23,iI N24,.str S25,.sl (Names26.map cS),.sl (L27.map zKZ.c)]] (by simp)
     try simp at r85
     refine zAJ r85 (by simp) rfl ?_
     simp
    refine zAF<|cutA 58 1 [(0,pT 0),(1,iI n1),(4,pT 1),(5,pT 2),(6,iI v31),(19,.bool (eqI v31 0))] [[.sl (l21.map zKX.c),iI at22],zz0,[iI Op23,iI N24,.str S25,.sl (Names26.map cS),.sl (L27.map zKZ.c)]]<|spc h rfl (fun g33 h=>?_) fun g33 h=>?_
    ·have c34:=eqT g33
     refine cutA 58 1 [(4,pT 1)] [[.sl (l21.map zKX.c),iI at22],[iI Op23,iI N24,.str S25,.sl (Names26.map cS),.sl (L27.map zKZ.c)],[iI Op23,iI N24,.str S25,.sl (Names26.map cS),.sl (L27.map zKZ.c)]]<|zAA<|zAB<|zAD<|zAB<|zAD ?_
     cases h
     simp
    have c35:=eqF g33
    refine zAC<|zAM ?_
    obtain⟨n36,q37,h⟩:=bs h
    obtain⟨q38,q39⟩:=zD5 q37
    try simp at q38
    try simp at q39
    have c40:=q38;simp only[Rng,inR] at c40
    refine cut 58 1 [(0,pT 0),(1,iI n1),(4,pT 1),(5,pT 2),(6,iI v31)] [[.sl (l21.map zKX.c),iI n36],zz0,[iI Op23,iI N24,.str S25,.sl (Names26.map cS),.sl (L27.map zKZ.c)]] (st (by simp[q38,q39]))<|zAF<|cutA 58 1 [(0,pT 0),(1,iI n1),(4,pT 1),(5,pT 2),(6,iI v31),(28,iI n1)] [[.sl (l21.map zKX.c),iI n36],zz0,[iI Op23,iI N24,.str S25,.sl (Names26.map cS),.sl (L27.map zKZ.c)]]<|zAP<|zAF<|cutA 58 1 [(0,pT 0),(1,iI n1),(4,pT 1),(5,pT 2),(6,iI v31),(28,iI n1),(29,.bool (eqI n1 1))] [[.sl (l21.map zKX.c),iI n36],zz0,[iI Op23,iI N24,.str S25,.sl (Names26.map cS),.sl (L27.map zKZ.c)]]<|spc h rfl (fun g41 h=>?_) fun g41 h=>?_
    ·refine zAC<|zAM<|zBk rfl (by simp[g41]) ?_
     obtain⟨v43,q44,h⟩:=bs h
     rcases v43 with e45|v46
     ·replace h:=zDB h
      refine zAF<|zBl [0,996] [7] 4 mixed (n:=58) rfl (by decide) (by decide) (by decide) ?_
      simp
      have r47:=(panL (zAf n1 (zKU.mk l21 n36) (.inl e45) q44)).frame [0] [[.sl (l21.map zKX.c),iI n36],zz0,[iI Op23,iI N24,.str S25,.sl (Names26.map cS),.sl (L27.map zKZ.c)]] (by simp)
      try simp at r47
      refine panC r47 (by simp) (by simp)<|zAQ<|zAv<|zAQ<|zAv<|zAQ<|zAv ?_
      cases h
      simp
     replace h:=zCL h
     refine cut 58 1 [(4,pT 1)] [[.sl (v46.2.l.map zKX.c),iI v46.2.at_],[iI 32,iI v31,.str ([]:List UInt8),.osl ⟨1,9⟩ (([]:List (List UInt8)).map cS),.sl ([(zKZ.mk Op23 N24 S25 Names26 L27),v46.1].map zKZ.c)],[iI Op23,iI N24,.str S25,.sl (Names26.map cS),.sl (L27.map zKZ.c)]] ?_ ?_
     ·refine zBd [0,996] [7] mixed (n:=58) rfl (by decide) (by decide) ?_
      simp
      have r48:=(panR (zAf n1 (zKU.mk l21 n36) (.inr v46) q44)).frameZ [0] [[.sl (l21.map zKX.c),iI n36],zz0,[iI Op23,iI N24,.str S25,.sl (Names26.map cS),.sl (L27.map zKZ.c)]] (by simp) rfl (by simp) (by simp)
      try simp at r48
      refine zHO r48 (by simp) rfl (by decide) (by simp) ?_
      simp
     refine zAA<|zAD<|zAB<|zAD<|zAB<|zAD ?_
     cases h
     simp
    refine cutA 58 1 [(0,pT 0),(1,iI n1),(4,pT 1),(5,pT 2),(6,iI v31),(28,iI n1),(29,.bool (eqI n1 2))] [[.sl (l21.map zKX.c),iI n36],zz0,[iI Op23,iI N24,.str S25,.sl (Names26.map cS),.sl (L27.map zKZ.c)]]<|spc h rfl (fun g50 h=>?_) fun g50 h=>?_
    ·refine zAC<|zAM<|zBk rfl (by simp[g50]) ?_
     obtain⟨v52,q53,h⟩:=bs h
     rcases v52 with e54|v55
     ·replace h:=zDB h
      refine zAF<|zBl [0,996] [7] 4 mixed (n:=58) rfl (by decide) (by decide) (by decide) ?_
      simp
      have r56:=(panL (zAf n1 (zKU.mk l21 n36) (.inl e54) q53)).frame [0] [[.sl (l21.map zKX.c),iI n36],zz0,[iI Op23,iI N24,.str S25,.sl (Names26.map cS),.sl (L27.map zKZ.c)]] (by simp)
      try simp at r56
      refine panC r56 (by simp) (by simp)<|zAQ<|zAv<|zAQ<|zAv<|zAQ<|zAv ?_
      cases h
      simp
     replace h:=zCL h
     refine cut 58 1 [(4,pT 1)] [[.sl (v55.2.l.map zKX.c),iI v55.2.at_],[iI 32,iI v31,.str ([]:List UInt8),.osl ⟨1,9⟩ (([]:List (List UInt8)).map cS),.sl ([(zKZ.mk Op23 N24 S25 Names26 L27),v55.1].map zKZ.c)],[iI Op23,iI N24,.str S25,.sl (Names26.map cS),.sl (L27.map zKZ.c)]] ?_ ?_
     ·refine zBd [0,996] [7] mixed (n:=58) rfl (by decide) (by decide) ?_
      simp
      have r57:=(panR (zAf n1 (zKU.mk l21 n36) (.inr v55) q53)).frameZ [0] [[.sl (l21.map zKX.c),iI n36],zz0,[iI Op23,iI N24,.str S25,.sl (Names26.map cS),.sl (L27.map zKZ.c)]] (by simp) rfl (by simp) (by simp)
      try simp at r57
      refine zHO r57 (by simp) rfl (by decide) (by simp) ?_
      simp
     refine zAA<|zAD<|zAB<|zAD<|zAB<|zAD ?_
     cases h
     simp
    refine zHR 58 1 [(0,pT 0),(1,iI n1),(4,pT 1),(5,pT 2),(6,iI v31),(28,iI n1),(29,.bool (eqI n1 4))] [[.sl (l21.map zKX.c),iI n36],zz0,[iI Op23,iI N24,.str S25,.sl (Names26.map cS),.sl (L27.map zKZ.c)]]<|spc h rfl (fun g59 h=>?_) fun g59 h=>?_
    ·have c60:=eqT g59
     obtain⟨v61,q62,h⟩:=bs h
     rcases v61 with e63|v64
     ·replace h:=zDB h
      refine zAF<|zBl [0,996] [7] 4 mixed (n:=58) rfl (by decide) (by decide) (by decide) ?_
      simp
      have r65:=(panL (zAf n1 (zKU.mk l21 n36) (.inl e63) q62)).frame [0] [[.sl (l21.map zKX.c),iI n36],zz0,[iI Op23,iI N24,.str S25,.sl (Names26.map cS),.sl (L27.map zKZ.c)]] (by simp)
      try simp at r65
      refine panC r65 (by simp) (by simp)<|zAQ<|zAv<|zAQ<|zAv<|zAQ<|zAv ?_
      cases h
      simp
     replace h:=zCL h
     refine cut 58 1 [(4,pT 1)] [[.sl (v64.2.l.map zKX.c),iI v64.2.at_],[iI 32,iI v31,.str ([]:List UInt8),.osl ⟨1,9⟩ (([]:List (List UInt8)).map cS),.sl ([(zKZ.mk Op23 N24 S25 Names26 L27),v64.1].map zKZ.c)],[iI Op23,iI N24,.str S25,.sl (Names26.map cS),.sl (L27.map zKZ.c)]] ?_ ?_
     ·refine zBd [0,996] [7] mixed (n:=58) rfl (by decide) (by decide) ?_
      simp
      have r66:=(panR (zAf n1 (zKU.mk l21 n36) (.inr v64) q62)).frameZ [0] [[.sl (l21.map zKX.c),iI n36],zz0,[iI Op23,iI N24,.str S25,.sl (Names26.map cS),.sl (L27.map zKZ.c)]] (by simp) rfl (by simp) (by simp)
      try simp at r66
      refine zHO r66 (by simp) rfl (by decide) (by simp) ?_
      simp
     refine zAA<|zAD<|zAB<|zAD<|zAB<|zAD ?_
     cases h
     simp
    have c67:=eqF g59
    refine cutA 58 1 [(0,pT 0),(1,iI n1),(4,pT 1),(5,pT 2),(6,iI v31),(40,.bool (eqI n1 3))] [[.sl (l21.map zKX.c),iI n36],zz0,[iI Op23,iI N24,.str S25,.sl (Names26.map cS),.sl (L27.map zKZ.c)]]<|spc h rfl (fun g68 h=>?_) fun g68 h=>?_
    ·have q70:Rng .i64 (n1+1):=by simp only[Rng,inR];omega
     try simp at q70
     obtain⟨v71,q72,h⟩:=bs h
     rcases v71 with e73|v74
     ·replace h:=zDB h
      refine zAF<|zBl [0,996] [8] 5 mixed (n:=58) rfl (by decide) (by decide) (by decide) ?_
      simp[q70]
      have r75:=(panL (zAf (n1+1) (zKU.mk l21 n36) (.inl e73) q72)).frame [0] [[.sl (l21.map zKX.c),iI n36],zz0,[iI Op23,iI N24,.str S25,.sl (Names26.map cS),.sl (L27.map zKZ.c)]] (by simp)
      try simp[q70] at r75
      refine panC r75 (by simp[q70]) (by simp)<|zAQ<|zAv<|zAQ<|zAv<|zAQ<|zAv ?_
      cases h
      simp
     replace h:=zCL h
     refine cut 58 1 [(4,pT 1)] [[.sl (v74.2.l.map zKX.c),iI v74.2.at_],[iI 32,iI v31,.str ([]:List UInt8),.osl ⟨1,9⟩ (([]:List (List UInt8)).map cS),.sl ([(zKZ.mk Op23 N24 S25 Names26 L27),v74.1].map zKZ.c)],[iI Op23,iI N24,.str S25,.sl (Names26.map cS),.sl (L27.map zKZ.c)]] ?_ ?_
     ·refine zBd [0,996] [8] mixed (n:=58) rfl (by decide) (by decide) ?_
      simp[q70]
      have r76:=(panR (zAf (n1+1) (zKU.mk l21 n36) (.inr v74) q72)).frameZ [0] [[.sl (l21.map zKX.c),iI n36],zz0,[iI Op23,iI N24,.str S25,.sl (Names26.map cS),.sl (L27.map zKZ.c)]] (by simp) rfl (by simp) (by simp)
      try simp[q70] at r76
      refine zHO r76 (by simp[q70]) rfl (by decide) (by simp) ?_
      simp[q70]
     refine zAA<|zAD<|zAB<|zAD<|zAB<|zAD ?_
     cases h
     simp
    refine zAC<|zDZ<|zAM ?_
    have c78:=q14;simp only[Rng,inR] at c78
    obtain⟨v79,q80,h⟩:=bs h
    rcases v79 with e81|v82
    ·replace h:=zDB h
     refine zBl [0,996] [8] 5 mixed (n:=58) rfl (by decide) (by decide) (by decide) ?_
     simp[q14,q15]
     have r83:=(panL (zAf n12 (zKU.mk l21 n36) (.inl e81) q80)).frame [0] [[.sl (l21.map zKX.c),iI n36],zz0,[iI Op23,iI N24,.str S25,.sl (Names26.map cS),.sl (L27.map zKZ.c)]] (by simp)
     try simp[q14,q15] at r83
     refine panC r83 (by simp[q14,q15]) (by simp)<|zAv<|zAQ<|zAv ?_
     cases h
     simp
    replace h:=zCL h
    refine last 58 1 [(0,pT 0),(1,iI n1),(4,pT 1),(5,pT 2)] [[.sl (v82.2.l.map zKX.c),iI v82.2.at_],zz0,[iI 32,iI v31,.str ([]:List UInt8),.sl (([]:List (List UInt8)).map cS),.sl ([(zKZ.mk Op23 N24 S25 Names26 L27),v82.1].map zKZ.c)]] ?_ fun zz hs=>?_
    ·refine zBd [0,996] [8] mixed (n:=58) rfl (by decide) (by decide) ?_
     simp[q14,q15]
     have r84:=(panR (zAf n12 (zKU.mk l21 n36) (.inr v82) q80)).frameZ [0] [[.sl (l21.map zKX.c),iI n36],zz0,[iI Op23,iI N24,.str S25,.sl (Names26.map cS),.sl (L27.map zKZ.c)]] (by simp) rfl (by simp) (by simp)
     try simp[q14,q15] at r84
     refine zHO r84 (by simp[q14,q15]) rfl (by decide) (by simp) ?_
     simp[q14,q15]
    refine zDZ ?_
    exact⟨(k30,v82.2.l,v82.2.at_,32,v31,([]:List UInt8),([]:List (List UInt8)),[(zKZ.mk Op23 N24 S25 Names26 L27),v82.1]),hs,h,by simp⟩
  ·intro w1 r h
   rw[zAV] at h
   refine zBu Tryz.func76 (by rfl) (by rfl) (by simp) (by simp)<|cutA 50 1 [(0,pT 0),(2,pT 1)] [[.sl (w1.l.map zKX.c),iI w1.at_],zz0]<|zAF<|zAP ?_
   obtain⟨v2,q3,h⟩:=bs h
   refine cut 50 1 [(0,pT 0),(2,pT 1),(5,.bool v2.1)] [[.sl (v2.2.l.map zKX.c),iI v2.2.at_],zz0] ?_ ?_
   ·refine st ?_
    simp
    have r90:=(zAN [102,110] w1 v2 q3).frame [0] [[.sl (w1.l.map zKX.c),iI w1.at_],zz0] (by simp)
    try simp at r90
    refine zAJ r90 (by simp) rfl ?_
    simp
   refine spc h rfl (fun g4 h=>?_) fun g4 h=>?_
   ·refine cutA 50 1 [(0,pT 0),(2,pT 1),(3,pT 2)] [[.sl (v2.2.l.map zKX.c),iI v2.2.at_],zz0,[iI 25,iI 0,.str ([]:List UInt8),.osl ⟨1,9⟩ (([]:List (List UInt8)).map cS),.osl ⟨5,26⟩ (([]:List zKZ).map zKZ.c)]]<|zAF ?_
    obtain⟨v5,q6,h⟩:=bs h
    refine cut 50 1 [(0,pT 0),(2,pT 1),(3,pT 2),(11,.bool (!v5.1))] [[.sl (v5.2.l.map zKX.c),iI v5.2.at_],zz0,[iI 25,iI 0,.str ([]:List UInt8),.osl ⟨1,9⟩ (([]:List (List UInt8)).map cS),.osl ⟨5,26⟩ (([]:List zKZ).map zKZ.c)]] ?_ ?_
    ·refine st ?_
     simp
     have r40:=(zAN [95] v2.2 v5 q6).frame [0] [[.sl (v2.2.l.map zKX.c),iI v2.2.at_],zz0,[iI 25,iI 0,.str ([]:List UInt8),.osl ⟨1,9⟩ (([]:List (List UInt8)).map cS),.osl ⟨5,26⟩ (([]:List zKZ).map zKZ.c)]] (by simp)
     try simp at r40
     refine zAJ r40 (by simp) rfl ?_
     simp
    refine spc h rfl (fun g7 h=>?_) fun g7 h=>?_
    ·have g8:=notT g7
     obtain⟨v9,q10,h⟩:=bs h
     rcases v9 with e11|v12
     ·replace h:=zDB h
      refine stP 1 ?_
      simp
      have r25:=(panL (zAI 1 v5.2 (.inl e11) q10)).frame [0] [[.sl (v5.2.l.map zKX.c),iI v5.2.at_],zz0,[iI 25,iI 0,.str ([]:List UInt8),.osl ⟨1,9⟩ (([]:List (List UInt8)).map cS),.osl ⟨5,26⟩ (([]:List zKZ).map zKZ.c)]] (by simp)
      try simp at r25
      refine panC r25 (by simp) (by simp)<|zAQ<|zAv<|zAQ ?_
      cases h
      simp
     replace h:=zCL h
     refine last 50 1 [(0,pT 0),(2,pT 1),(3,pT 2)] [[.sl (v12.2.l.map zKX.c),iI v12.2.at_],zz0,[iI 25,iI 0,.str v12.1,.osl ⟨1,9⟩ (([]:List (List UInt8)).map cS),.osl ⟨5,26⟩ (([]:List zKZ).map zKZ.c)]] ?_ fun zz hs=>?_
     ·refine st ?_
      simp
      have r26:=(panR (zAI 1 v5.2 (.inr v12) q10)).frame [0] [[.sl (v5.2.l.map zKX.c),iI v5.2.at_],zz0,[iI 25,iI 0,.str ([]:List UInt8),.osl ⟨1,9⟩ (([]:List (List UInt8)).map cS),.osl ⟨5,26⟩ (([]:List zKZ).map zKZ.c)]] (by simp)
      try simp at r26
      refine zAJ r26 (by simp) rfl ?_
      simp
     refine zDG ?_ hs
     obtain⟨v13,q14,h⟩:=bs h
     rcases v13 with e15|v16
     ·replace h:=zDB h
      refine zAF<|stP 1 ?_
      simp
      have r23:=(panL (zAE [61,62] v12.2 (.inl e15) q14)).frame [0] [[.sl (v12.2.l.map zKX.c),iI v12.2.at_],zz0,[iI 25,iI 0,.str v12.1,.osl ⟨1,9⟩ (([]:List (List UInt8)).map cS),.osl ⟨5,26⟩ (([]:List zKZ).map zKZ.c)]] (by simp)
      try simp at r23
      refine panC r23 (by simp) (by simp)<|zAQ<|zAv<|zAQ ?_
      cases h
      simp
     replace h:=zCL h
     refine cut 50 1 [(0,pT 0),(2,pT 1),(3,pT 2)] [[.sl (v16.l.map zKX.c),iI v16.at_],zz0,[iI 25,iI 0,.str v12.1,.osl ⟨1,9⟩ (([]:List (List UInt8)).map cS),.osl ⟨5,26⟩ (([]:List zKZ).map zKZ.c)]] ?_ ?_
     ·refine st ?_
      simp
      have r24:=(panR (zAE [61,62] v12.2 (.inr v16) q14)).frame [0] [[.sl (v12.2.l.map zKX.c),iI v12.2.at_],zz0,[iI 25,iI 0,.str v12.1,.osl ⟨1,9⟩ (([]:List (List UInt8)).map cS),.osl ⟨5,26⟩ (([]:List zKZ).map zKZ.c)]] (by simp)
      try simp at r24
      refine zAJ r24 (by simp) rfl ?_
      simp
     obtain⟨v17,q18,h⟩:=bs h
     rcases v17 with e19|v20
     ·replace h:=zDB h
      refine zAF<|stP 1 ?_
      simp
      have r21:=(panL (zAO v16 (.inl e19) q18)).frame [0] [[.sl (v16.l.map zKX.c),iI v16.at_],zz0,[iI 25,iI 0,.str v12.1,.osl ⟨1,9⟩ (([]:List (List UInt8)).map cS),.osl ⟨5,26⟩ (([]:List zKZ).map zKZ.c)]] (by simp)
      try simp at r21
      refine panC r21 (by simp) (by simp)<|zAQ<|zAv<|zAQ ?_
      cases h
      simp
     replace h:=zCL h
     refine cut 50 1 [(2,pT 1),(3,pT 2)] [[.sl (v20.2.l.map zKX.c),iI v20.2.at_],zz0,[iI 25,iI 0,.str v12.1,.osl ⟨1,9⟩ (([]:List (List UInt8)).map cS),.osl ⟨5,26⟩ ([v20.1].map zKZ.c)]] ?_ ?_
     ·refine st ?_
      simp
      have r22:=(panR (zAO v16 (.inr v20) q18)).frame [0] [[.sl (v16.l.map zKX.c),iI v16.at_],zz0,[iI 25,iI 0,.str v12.1,.osl ⟨1,9⟩ (([]:List (List UInt8)).map cS),.osl ⟨5,26⟩ (([]:List zKZ).map zKZ.c)]] (by simp)
      try simp at r22
      refine zAJ r22 (by simp) rfl ?_
      simp
     refine cutA 50 1 [(2,pT 1)] [[.sl (v20.2.l.map zKX.c),iI v20.2.at_],[iI 25,iI 0,.str v12.1,.sl (([]:List (List UInt8)).map cS),.sl ([v20.1].map zKZ.c)],[iI 25,iI 0,.str v12.1,.osl ⟨1,9⟩ (([]:List (List UInt8)).map cS),.osl ⟨5,26⟩ ([v20.1].map zKZ.c)]]<|zAA<|zAD<|zAB ?_
     cases h
     simp
    have g27:=notF g7
    refine zAC<|zAM ?_
    obtain⟨v28,q29,h⟩:=bs h
    rcases v28 with e30|v31
    ·replace h:=zDB h
     refine zAF<|stP 1 ?_
     simp
     have r38:=(panL (zAE [61,62] v5.2 (.inl e30) q29)).frame [0] [[.sl (v5.2.l.map zKX.c),iI v5.2.at_],zz0,[iI 25,iI 0,.str ([]:List UInt8),.osl ⟨1,9⟩ (([]:List (List UInt8)).map cS),.osl ⟨5,26⟩ (([]:List zKZ).map zKZ.c)]] (by simp)
     try simp at r38
     refine panC r38 (by simp) (by simp)<|zAQ<|zAv<|zAQ ?_
     cases h
     simp
    replace h:=zCL h
    refine cut 50 1 [(0,pT 0),(2,pT 1),(3,pT 2)] [[.sl (v31.l.map zKX.c),iI v31.at_],zz0,[iI 25,iI 0,.str ([]:List UInt8),.osl ⟨1,9⟩ (([]:List (List UInt8)).map cS),.osl ⟨5,26⟩ (([]:List zKZ).map zKZ.c)]] ?_ ?_
    ·refine st ?_
     simp
     have r39:=(panR (zAE [61,62] v5.2 (.inr v31) q29)).frame [0] [[.sl (v5.2.l.map zKX.c),iI v5.2.at_],zz0,[iI 25,iI 0,.str ([]:List UInt8),.osl ⟨1,9⟩ (([]:List (List UInt8)).map cS),.osl ⟨5,26⟩ (([]:List zKZ).map zKZ.c)]] (by simp)
     try simp at r39
     refine zAJ r39 (by simp) rfl ?_
     simp
    obtain⟨v32,q33,h⟩:=bs h
    rcases v32 with e34|v35
    ·replace h:=zDB h
     refine zAF<|stP 1 ?_
     simp
     have r36:=(panL (zAO v31 (.inl e34) q33)).frame [0] [[.sl (v31.l.map zKX.c),iI v31.at_],zz0,[iI 25,iI 0,.str ([]:List UInt8),.osl ⟨1,9⟩ (([]:List (List UInt8)).map cS),.osl ⟨5,26⟩ (([]:List zKZ).map zKZ.c)]] (by simp)
     try simp at r36
     refine panC r36 (by simp) (by simp)<|zAQ<|zAv<|zAQ ?_
     cases h
     simp
    replace h:=zCL h
    refine cut 50 1 [(2,pT 1),(3,pT 2)] [[.sl (v35.2.l.map zKX.c),iI v35.2.at_],zz0,[iI 25,iI 0,.str ([]:List UInt8),.osl ⟨1,9⟩ (([]:List (List UInt8)).map cS),.osl ⟨5,26⟩ ([v35.1].map zKZ.c)]] ?_ ?_
    ·refine st ?_
     simp
     have r37:=(panR (zAO v31 (.inr v35) q33)).frame [0] [[.sl (v31.l.map zKX.c),iI v31.at_],zz0,[iI 25,iI 0,.str ([]:List UInt8),.osl ⟨1,9⟩ (([]:List (List UInt8)).map cS),.osl ⟨5,26⟩ (([]:List zKZ).map zKZ.c)]] (by simp)
     try simp at r37
     refine zAJ r37 (by simp) rfl ?_
     simp
    refine cutA 50 1 [(2,pT 1)] [[.sl (v35.2.l.map zKX.c),iI v35.2.at_],[iI 25,iI 0,.str ([]:List UInt8),.sl (([]:List (List UInt8)).map cS),.sl ([v35.1].map zKZ.c)],[iI 25,iI 0,.str ([]:List UInt8),.osl ⟨1,9⟩ (([]:List (List UInt8)).map cS),.osl ⟨5,26⟩ ([v35.1].map zKZ.c)]]<|zAA<|zAD<|zAB ?_
    cases h
    simp
   obtain⟨v41,q42,h⟩:=bs h
   refine cut 50 1 [(0,pT 0),(2,pT 1),(22,.bool v41.1)] [[.sl (v41.2.l.map zKX.c),iI v41.2.at_],zz0] ?_ ?_
   ·refine st ?_
    simp
    have r89:=(zAN [105,102] v2.2 v41 q42).frame [0] [[.sl (v2.2.l.map zKX.c),iI v2.2.at_],zz0] (by simp)
    try simp at r89
    refine zAJ r89 (by simp) rfl ?_
    simp
   refine spc h rfl (fun g43 h=>?_) fun g43 h=>?_
   ·obtain⟨v44,q45,h⟩:=bs h
    rcases v44 with e46|v47
    ·replace h:=zDB h
     refine zAF<|stP 1 ?_
     simp
     have r81:=(panL (zAO v41.2 (.inl e46) q45)).frame [0] [[.sl (v41.2.l.map zKX.c),iI v41.2.at_],zz0] (by simp)
     try simp at r81
     refine panC r81 (by simp) (by simp)<|zAQ<|zAv<|zAQ ?_
     cases h
     simp
    replace h:=zCL h
    refine cut 50 1 [(0,pT 0),(2,pT 1),(4,pT 2)] [[.sl (v47.2.l.map zKX.c),iI v47.2.at_],zz0,[iI 28,iI 0,.str ([]:List UInt8),.osl ⟨1,9⟩ (([]:List (List UInt8)).map cS),.osl ⟨5,26⟩ ([v47.1].map zKZ.c)]] ?_ ?_
    ·refine stG 3 27 1 4 rfl rfl rfl rfl rfl rfl rfl rfl rfl rfl ?_
     simp
     have r82:=(panR (zAO v41.2 (.inr v47) q45)).frame [0] [[.sl (v41.2.l.map zKX.c),iI v41.2.at_],zz0] (by simp)
     try simp at r82
     refine zAJ r82 (by simp) rfl ?_
     simp
    obtain⟨v48,q49,h⟩:=bs h
    rcases v48 with e50|v51
    ·replace h:=zDB h
     refine zAF<|stP 1 ?_
     simp
     have r79:=(panL (zAE [116,104,101,110] v47.2 (.inl e50) q49)).frame [0] [[.sl (v47.2.l.map zKX.c),iI v47.2.at_],zz0,[iI 28,iI 0,.str ([]:List UInt8),.osl ⟨1,9⟩ (([]:List (List UInt8)).map cS),.osl ⟨5,26⟩ ([v47.1].map zKZ.c)]] (by simp)
     try simp at r79
     refine panC r79 (by simp) (by simp)<|zAQ<|zAv<|zAQ ?_
     cases h
     simp
    replace h:=zCL h
    refine cut 50 1 [(0,pT 0),(2,pT 1),(4,pT 2)] [[.sl (v51.l.map zKX.c),iI v51.at_],zz0,[iI 28,iI 0,.str ([]:List UInt8),.osl ⟨1,9⟩ (([]:List (List UInt8)).map cS),.osl ⟨5,26⟩ ([v47.1].map zKZ.c)]] ?_ ?_
    ·refine st ?_
     simp
     have r80:=(panR (zAE [116,104,101,110] v47.2 (.inr v51) q49)).frame [0] [[.sl (v47.2.l.map zKX.c),iI v47.2.at_],zz0,[iI 28,iI 0,.str ([]:List UInt8),.osl ⟨1,9⟩ (([]:List (List UInt8)).map cS),.osl ⟨5,26⟩ ([v47.1].map zKZ.c)]] (by simp)
     try simp at r80
     refine zAJ r80 (by simp) rfl ?_
     simp
    obtain⟨v52,q53,h⟩:=bs h
    rcases v52 with e54|v55
    ·replace h:=zDB h
     refine zAF<|zBl [0,996] [5,7] 3 mixed (n:=50) rfl (by decide) (by decide) (by decide) ?_
     simp
     have r77:=(panL (zAO v51 (.inl e54) q53)).frame [0] [[.sl (v51.l.map zKX.c),iI v51.at_],zz0,[iI 28,iI 0,.str ([]:List UInt8),.osl ⟨1,9⟩ (([]:List (List UInt8)).map cS),.osl ⟨5,26⟩ ([v47.1].map zKZ.c)]] (by simp)
     try simp at r77
     refine panC r77 (by simp) (by simp)<|zAQ<|zAv<|zAQ ?_
     cases h
     simp
    replace h:=zCL h
    obtain⟨l56,q57,h⟩:=bs h
    obtain⟨q58,q59⟩:=zF6 q57
    try simp at q58
    refine cut 50 1 [(0,pT 0),(2,pT 1),(4,pT 2)] [[.sl (v55.2.l.map zKX.c),iI v55.2.at_],zz0,[iI 28,iI 0,.str ([]:List UInt8),.osl ⟨1,9⟩ (([]:List (List UInt8)).map cS),.osl ⟨5,26⟩ (l56.map zKZ.c)]] ?_ ?_
    ·refine zBd [0,996] [5,7] mixed (n:=50) rfl (by decide) (by decide) ?_
     simp[q58,q59]
     have r78:=(panR (zAO v51 (.inr v55) q53)).frameZ [0] [[.sl (v51.l.map zKX.c),iI v51.at_],zz0,[iI 28,iI 0,.str ([]:List UInt8),.osl ⟨1,9⟩ (([]:List (List UInt8)).map cS),.osl ⟨5,26⟩ ([v47.1].map zKZ.c)]] (by simp) rfl (by simp) (by simp)
     try simp[q58,q59] at r78
     refine zHO r78 (by simp[q58,q59]) rfl (by decide) (by simp) ?_
     simp[q58,q59]
    obtain⟨v60,q61,h⟩:=bs h
    rcases v60 with e62|v63
    ·replace h:=zDB h
     refine zAF<|stP 1 ?_
     simp
     have r75:=(panL (zAE [101,108,115,101] v55.2 (.inl e62) q61)).frame [0] [[.sl (v55.2.l.map zKX.c),iI v55.2.at_],zz0,[iI 28,iI 0,.str ([]:List UInt8),.osl ⟨1,9⟩ (([]:List (List UInt8)).map cS),.osl ⟨5,26⟩ (l56.map zKZ.c)]] (by simp)
     try simp at r75
     refine panC r75 (by simp) (by simp)<|zAQ<|zAv<|zAQ ?_
     cases h
     simp
    replace h:=zCL h
    refine cut 50 1 [(0,pT 0),(2,pT 1),(4,pT 2)] [[.sl (v63.l.map zKX.c),iI v63.at_],zz0,[iI 28,iI 0,.str ([]:List UInt8),.osl ⟨1,9⟩ (([]:List (List UInt8)).map cS),.osl ⟨5,26⟩ (l56.map zKZ.c)]] ?_ ?_
    ·refine st ?_
     simp
     have r76:=(panR (zAE [101,108,115,101] v55.2 (.inr v63) q61)).frame [0] [[.sl (v55.2.l.map zKX.c),iI v55.2.at_],zz0,[iI 28,iI 0,.str ([]:List UInt8),.osl ⟨1,9⟩ (([]:List (List UInt8)).map cS),.osl ⟨5,26⟩ (l56.map zKZ.c)]] (by simp)
     try simp at r76
     refine zAJ r76 (by simp) rfl ?_
     simp
    obtain⟨v64,q65,h⟩:=bs h
    rcases v64 with e66|v67
    ·replace h:=zDB h
     refine zAF<|zBl [0,996] [5,7] 3 mixed (n:=50) rfl (by decide) (by decide) (by decide) ?_
     simp
     have r73:=(panL (zAO v63 (.inl e66) q65)).frame [0] [[.sl (v63.l.map zKX.c),iI v63.at_],zz0,[iI 28,iI 0,.str ([]:List UInt8),.osl ⟨1,9⟩ (([]:List (List UInt8)).map cS),.osl ⟨5,26⟩ (l56.map zKZ.c)]] (by simp)
     try simp at r73
     refine panC r73 (by simp) (by simp)<|zAQ<|zAv<|zAQ ?_
     cases h
     simp
    replace h:=zCL h
    obtain⟨l68,q69,h⟩:=bs h
    obtain⟨q70,q71⟩:=zF6 q69
    have q72:=q70
    try simp at q72
    try simp[q59] at q70
    refine cut 50 1 [(2,pT 1),(4,pT 2)] [[.sl (v67.2.l.map zKX.c),iI v67.2.at_],zz0,[iI 28,iI 0,.str ([]:List UInt8),.osl ⟨1,9⟩ (([]:List (List UInt8)).map cS),.osl ⟨5,26⟩ (l68.map zKZ.c)]] ?_ ?_
    ·refine zBd [0,996] [5,7] mixed (n:=50) rfl (by decide) (by decide) ?_
     simp[q70,q72,q71]
     have r74:=(panR (zAO v63 (.inr v67) q65)).frameZ [0] [[.sl (v63.l.map zKX.c),iI v63.at_],zz0,[iI 28,iI 0,.str ([]:List UInt8),.osl ⟨1,9⟩ (([]:List (List UInt8)).map cS),.osl ⟨5,26⟩ (l56.map zKZ.c)]] (by simp) rfl (by simp) (by simp)
     try simp[q70,q72,q71] at r74
     refine zHO r74 (by simp[q70,q72,q71]) rfl (by decide) (by simp) ?_
     simp[q70,q72,q71]
    refine cutA 50 1 [(2,pT 1)] [[.sl (v67.2.l.map zKX.c),iI v67.2.at_],[iI 28,iI 0,.str ([]:List UInt8),.sl (([]:List (List UInt8)).map cS),.sl (l68.map zKZ.c)],[iI 28,iI 0,.str ([]:List UInt8),.osl ⟨1,9⟩ (([]:List (List UInt8)).map cS),.osl ⟨5,26⟩ (l68.map zKZ.c)]]<|zAA<|zAD<|zAB ?_
    cases h
    simp
   refine zAC<|zDZ<|zAM ?_
   obtain⟨v83,q84,h⟩:=bs h
   rcases v83 with e85|v86
   ·replace h:=zDB h
    refine zAF<|stP 1 ?_
    simp
    have r87:=(panL (zAf 1 v41.2 (.inl e85) q84)).frame [0] [[.sl (v41.2.l.map zKX.c),iI v41.2.at_],zz0] (by simp)
    try simp at r87
    refine panC r87 (by simp) (by simp)<|zAQ ?_
    cases h
    simp
   replace h:=zCL h
   refine cut 50 1 [(2,pT 1)] [[.sl (v86.2.l.map zKX.c),iI v86.2.at_],(zKZ.d v86.1)] ?_ ?_
   ·refine st ?_
    simp
    have r88:=(panR (zAf 1 v41.2 (.inr v86) q84)).frame [0] [[.sl (v41.2.l.map zKX.c),iI v41.2.at_],zz0] (by simp)
    try simp at r88
    refine zAJ r88 (by simp) rfl ?_
    simp
   refine zAA ?_
   cases h
   simp
  ·intro w1 r h
   rw[zB1] at h
   refine zBu Tryz.func131 (by rfl) (by rfl) (by simp) (by simp)<|cutA 68 1 [(0,pT 0),(2,pT 1)] [[.sl (w1.l.map zKX.c),iI w1.at_],zz0]<|zAF<|zAP ?_
   obtain⟨v2,q3,h⟩:=bs h
   refine cut 68 1 [(0,pT 0),(2,pT 1),(6,.bool v2.1)] [[.sl (v2.2.l.map zKX.c),iI v2.2.at_],zz0] ?_ ?_
   ·refine st ?_
    simp
    have r124:=(zAN [118,97,108] w1 v2 q3).frame [0] [[.sl (w1.l.map zKX.c),iI w1.at_],zz0] (by simp)
    try simp at r124
    refine zAJ r124 (by simp) rfl ?_
    simp
   refine spc h rfl (fun g4 h=>?_) fun g4 h=>?_
   ·obtain⟨v5,q6,h⟩:=bs h
    rcases v5 with e7|v8
    ·replace h:=zDB h
     refine zAF<|stP 1 ?_
     simp
     have r21:=(panL (zAI 1 v2.2 (.inl e7) q6)).frame [0] [[.sl (v2.2.l.map zKX.c),iI v2.2.at_],zz0] (by simp)
     try simp at r21
     refine panC r21 (by simp) (by simp)<|zAQ<|zAv<|zAQ ?_
     cases h
     simp
    replace h:=zCL h
    refine cut 68 1 [(0,pT 0),(2,pT 1),(3,pT 2)] [[.sl (v8.2.l.map zKX.c),iI v8.2.at_],zz0,[iI 41,iI 0,.str v8.1,.osl ⟨1,9⟩ (([]:List (List UInt8)).map cS),.osl ⟨5,26⟩ (([]:List zKZ).map zKZ.c)]] ?_ ?_
    ·refine st ?_
     simp
     have r22:=(panR (zAI 1 v2.2 (.inr v8) q6)).frame [0] [[.sl (v2.2.l.map zKX.c),iI v2.2.at_],zz0] (by simp)
     try simp at r22
     refine zAJ r22 (by simp) rfl ?_
     simp
    obtain⟨v9,q10,h⟩:=bs h
    rcases v9 with e11|v12
    ·replace h:=zDB h
     refine zAF<|stP 1 ?_
     simp
     have r19:=(panL (zAE [61] v8.2 (.inl e11) q10)).frame [0] [[.sl (v8.2.l.map zKX.c),iI v8.2.at_],zz0,[iI 41,iI 0,.str v8.1,.osl ⟨1,9⟩ (([]:List (List UInt8)).map cS),.osl ⟨5,26⟩ (([]:List zKZ).map zKZ.c)]] (by simp)
     try simp at r19
     refine panC r19 (by simp) (by simp)<|zAQ<|zAv<|zAQ ?_
     cases h
     simp
    replace h:=zCL h
    refine cut 68 1 [(0,pT 0),(2,pT 1),(3,pT 2)] [[.sl (v12.l.map zKX.c),iI v12.at_],zz0,[iI 41,iI 0,.str v8.1,.osl ⟨1,9⟩ (([]:List (List UInt8)).map cS),.osl ⟨5,26⟩ (([]:List zKZ).map zKZ.c)]] ?_ ?_
    ·refine st ?_
     simp
     have r20:=(panR (zAE [61] v8.2 (.inr v12) q10)).frame [0] [[.sl (v8.2.l.map zKX.c),iI v8.2.at_],zz0,[iI 41,iI 0,.str v8.1,.osl ⟨1,9⟩ (([]:List (List UInt8)).map cS),.osl ⟨5,26⟩ (([]:List zKZ).map zKZ.c)]] (by simp)
     try simp at r20
     refine zAJ r20 (by simp) rfl ?_
     simp
    obtain⟨v13,q14,h⟩:=bs h
    rcases v13 with e15|v16
    ·replace h:=zDB h
     refine zAF<|stP 1 ?_
     simp
     have r17:=(panL (zAO v12 (.inl e15) q14)).frame [0] [[.sl (v12.l.map zKX.c),iI v12.at_],zz0,[iI 41,iI 0,.str v8.1,.osl ⟨1,9⟩ (([]:List (List UInt8)).map cS),.osl ⟨5,26⟩ (([]:List zKZ).map zKZ.c)]] (by simp)
     try simp at r17
     refine panC r17 (by simp) (by simp)<|zAQ<|zAv<|zAQ ?_
     cases h
     simp
    replace h:=zCL h
    refine cut 68 1 [(2,pT 1),(3,pT 2)] [[.sl (v16.2.l.map zKX.c),iI v16.2.at_],zz0,[iI 41,iI 0,.str v8.1,.osl ⟨1,9⟩ (([]:List (List UInt8)).map cS),.osl ⟨5,26⟩ ([v16.1].map zKZ.c)]] ?_ ?_
    ·refine st ?_
     simp
     have r18:=(panR (zAO v12 (.inr v16) q14)).frame [0] [[.sl (v12.l.map zKX.c),iI v12.at_],zz0,[iI 41,iI 0,.str v8.1,.osl ⟨1,9⟩ (([]:List (List UInt8)).map cS),.osl ⟨5,26⟩ (([]:List zKZ).map zKZ.c)]] (by simp)
     try simp at r18
     refine zAJ r18 (by simp) rfl ?_
     simp
    refine cutA 68 1 [(2,pT 1)] [[.sl (v16.2.l.map zKX.c),iI v16.2.at_],[iI 41,iI 0,.str v8.1,.sl (([]:List (List UInt8)).map cS),.sl ([v16.1].map zKZ.c)],[iI 41,iI 0,.str v8.1,.osl ⟨1,9⟩ (([]:List (List UInt8)).map cS),.osl ⟨5,26⟩ ([v16.1].map zKZ.c)]]<|zAA<|zAD<|zAB ?_
    cases h
    simp
   obtain⟨v23,q24,h⟩:=bs h
   refine cut 68 1 [(0,pT 0),(2,pT 1),(19,.bool v23.1)] [[.sl (v23.2.l.map zKX.c),iI v23.2.at_],zz0] ?_ ?_
   ·refine st ?_
    simp
    have r123:=(zAN [102,117,110] v2.2 v23 q24).frame [0] [[.sl (v2.2.l.map zKX.c),iI v2.2.at_],zz0] (by simp)
    try simp at r123
    refine zAJ r123 (by simp) rfl ?_
    simp
   refine spc h rfl (fun g25 h=>?_) fun g25 h=>?_
   ·obtain⟨v26,q27,h⟩:=bs h
    rcases v26 with e28|v29
    ·replace h:=zDB h
     refine zAF<|stP 1 ?_
     simp
     have r72:=(panL (zAI 1 v23.2 (.inl e28) q27)).frame [0] [[.sl (v23.2.l.map zKX.c),iI v23.2.at_],zz0] (by simp)
     try simp at r72
     refine panC r72 (by simp) (by simp)<|zAQ<|zAv<|zAQ ?_
     cases h
     simp
    replace h:=zCL h
    obtain⟨v30,q31,h⟩:=bs h
    rcases v30 with e32|v33
    ·replace h:=zDB h
     refine zAF<|stP 3 ?_
     simp
     have r73:=(panR (zAI 1 v23.2 (.inr v29) q27)).frame [0] [[.sl (v23.2.l.map zKX.c),iI v23.2.at_],zz0] (by simp)
     try simp at r73
     refine zAJ r73 (by simp) rfl ?_
     simp
     have r74:=(panL (zAI 1 v29.2 (.inl e32) q31)).frame [0] [[.sl (v29.2.l.map zKX.c),iI v29.2.at_],zz0] (by simp)
     try simp at r74
     refine panC r74 (by simp) (by simp)<|zAQ<|zAv<|zAQ ?_
     cases h
     simp
    replace h:=zCL h
    refine cut 68 1 [(0,pT 0),(2,pT 1),(4,pT 2)] [[.sl (v33.2.l.map zKX.c),iI v33.2.at_],zz0,[iI 42,iI 0,.str v29.1,.osl ⟨1,9⟩ ([v33.1].map cS),.osl ⟨5,26⟩ (([]:List zKZ).map zKZ.c)]] ?_ ?_
    ·refine stG 5 26 2 3 rfl rfl rfl rfl rfl rfl rfl rfl rfl rfl ?_
     simp
     have r75:=(panR (zAI 1 v23.2 (.inr v29) q27)).frame [0] [[.sl (v23.2.l.map zKX.c),iI v23.2.at_],zz0] (by simp)
     try simp at r75
     refine zAJ r75 (by simp) rfl ?_
     simp
     have r76:=(panR (zAI 1 v29.2 (.inr v33) q31)).frame [0] [[.sl (v29.2.l.map zKX.c),iI v29.2.at_],zz0] (by simp)
     try simp at r76
     refine zAJ r76 (by simp) rfl ?_
     simp
    refine zAF<|zAP ?_
    obtain⟨o38,l39,h⟩:=bs h
    refine zCm (fun p:Nat×(List zKX)×Int×(List (List UInt8))=>mkS 68 1 [(0,pT 0),(2,pT 1),(4,pT 2)] [[.sl (p.2.1.map zKX.c),iI p.2.2.1],zz0,[iI 42,iI 0,.str v29.1,.osl ⟨1,9⟩ (p.2.2.2.map cS),.osl ⟨5,26⟩ (([]:List zKZ).map zKZ.c)]]) (fun p=>zBI p.1 p.2.1 p.2.2.1 p.2.2.2=some o38) (fun p=>p.1) (fuel,v33.2.l,v33.2.at_,[v33.1]) l39 (zBi (by simp)) ?_
    rintro⟨k40,l34,at35,Names36⟩ l39
    try dsimp only at l39 ⊢
    cases k40 with
    |zero=>
     rw[zBI] at l39;cases l39
    |succ k41=>
     rw[zBI] at l39
     refine zAF ?_
     obtain⟨v42,q43,l39⟩:=bs l39
     refine cut 68 1 [(0,pT 0),(2,pT 1),(4,pT 2),(29,.bool v42)] [[.sl (l34.map zKX.c),iI at35],zz0,[iI 42,iI 0,.str v29.1,.osl ⟨1,9⟩ (Names36.map cS),.osl ⟨5,26⟩ (([]:List zKZ).map zKZ.c)]] ?_ ?_
     ·refine st ?_
      simp
      have r71:=(zAW 1 (zKU.mk l34 at35) v42 q43).frame [0] [[.sl (l34.map zKX.c),iI at35],zz0,[iI 42,iI 0,.str v29.1,.osl ⟨1,9⟩ (Names36.map cS),.osl ⟨5,26⟩ (([]:List zKZ).map zKZ.c)]] (by simp)
      try simp at r71
      refine zAJ r71 (by simp) rfl ?_
      simp
     refine spc l39 rfl (fun g44 l39=>?_) fun g44 l39=>?_
     ·refine zAC<|zAM<|zAP ?_
      obtain⟨v45,q46,l39⟩:=bs l39
      rcases v45 with e47|v48
      ·replace l39:=zDB l39
       refine zBl [0,996] [5,7] 3 mixed (n:=68) rfl (by decide) (by decide) (by decide) ?_
       simp
       have r53:=(panL (zAI 1 (zKU.mk l34 at35) (.inl e47) q46)).frame [0] [[.sl (l34.map zKX.c),iI at35],zz0,[iI 42,iI 0,.str v29.1,.osl ⟨1,9⟩ (Names36.map cS),.osl ⟨5,26⟩ (([]:List zKZ).map zKZ.c)]] (by simp)
       try simp at r53
       refine panC r53 (by simp) (by simp)<|zAv ?_
       replace h:=retL l39 h
       refine zAQ<|zAv<|zAQ<|zAv<|zAQ ?_
       cases h
       simp
      replace l39:=zCL l39
      obtain⟨l49,q50,l39⟩:=bs l39
      obtain⟨q51,q52⟩:=zF6 q50
      try simp at q51
      refine last 68 1 [(0,pT 0),(2,pT 1),(4,pT 2)] [[.sl (v48.2.l.map zKX.c),iI v48.2.at_],zz0,[iI 42,iI 0,.str v29.1,.osl ⟨1,9⟩ (l49.map cS),.osl ⟨5,26⟩ (([]:List zKZ).map zKZ.c)]] ?_ fun zz hs=>?_
      ·refine zBd [0,996] [5,7] mixed (n:=68) rfl (by decide) (by decide) ?_
       simp[q51,q52]
       have r54:=(panR (zAI 1 (zKU.mk l34 at35) (.inr v48) q46)).frameZ [0] [[.sl (l34.map zKX.c),iI at35],zz0,[iI 42,iI 0,.str v29.1,.osl ⟨1,9⟩ (Names36.map cS),.osl ⟨5,26⟩ (([]:List zKZ).map zKZ.c)]] (by simp) rfl (by simp) (by simp)
       try simp[q51,q52] at r54
       refine zHO r54 (by simp[q51,q52]) rfl (by decide) (by simp) ?_
       simp[q51,q52]
      refine zDZ ?_
      exact⟨(k41,v48.2.l,v48.2.at_,l49),hs,l39,by simp⟩
     refine zB6<|zAi ?_
     rcases o38 with o38|o37
     ·cases l39
     have q55:=Sum.inr.inj (zqa l39)
     replace h:=zCL h
     have q56:o37.1=l34:=by rw[<-q55]
     have q57:o37.2.1=at35:=by rw[<-q55]
     have q58:o37.2.2=Names36:=by rw[<-q55]
     refine zAi<|zB5<|zDG (t:=mkS 68 1 [(0,pT 0),(2,pT 1),(4,pT 2)] [[.sl (o37.1.map zKX.c),iI o37.2.1],zz0,[iI 42,iI 0,.str v29.1,.osl ⟨1,9⟩ (o37.2.2.map cS),.osl ⟨5,26⟩ (([]:List zKZ).map zKZ.c)]]) ?_ (zBi (by simp[q56,q57,q58]))
     obtain⟨v59,q60,h⟩:=bs h
     rcases v59 with e61|v62
     ·replace h:=zDB h
      refine zAF<|stP 1 ?_
      simp
      have r69:=(panL (zAE [61] (zKU.mk o37.1 o37.2.1) (.inl e61) q60)).frame [0] [[.sl (o37.1.map zKX.c),iI o37.2.1],zz0,[iI 42,iI 0,.str v29.1,.osl ⟨1,9⟩ (o37.2.2.map cS),.osl ⟨5,26⟩ (([]:List zKZ).map zKZ.c)]] (by simp)
      try simp at r69
      refine panC r69 (by simp) (by simp)<|zAQ<|zAv<|zAQ ?_
      cases h
      simp
     replace h:=zCL h
     refine cut 68 1 [(0,pT 0),(2,pT 1),(4,pT 2)] [[.sl (v62.l.map zKX.c),iI v62.at_],zz0,[iI 42,iI 0,.str v29.1,.osl ⟨1,9⟩ (o37.2.2.map cS),.osl ⟨5,26⟩ (([]:List zKZ).map zKZ.c)]] ?_ ?_
     ·refine st ?_
      simp
      have r70:=(panR (zAE [61] (zKU.mk o37.1 o37.2.1) (.inr v62) q60)).frame [0] [[.sl (o37.1.map zKX.c),iI o37.2.1],zz0,[iI 42,iI 0,.str v29.1,.osl ⟨1,9⟩ (o37.2.2.map cS),.osl ⟨5,26⟩ (([]:List zKZ).map zKZ.c)]] (by simp)
      try simp at r70
      refine zAJ r70 (by simp) rfl ?_
      simp
     obtain⟨v63,q64,h⟩:=bs h
     rcases v63 with e65|v66
     ·replace h:=zDB h
      refine zAF<|stP 1 ?_
      simp
      have r67:=(panL (zAO v62 (.inl e65) q64)).frame [0] [[.sl (v62.l.map zKX.c),iI v62.at_],zz0,[iI 42,iI 0,.str v29.1,.osl ⟨1,9⟩ (o37.2.2.map cS),.osl ⟨5,26⟩ (([]:List zKZ).map zKZ.c)]] (by simp)
      try simp at r67
      refine panC r67 (by simp) (by simp)<|zAQ<|zAv<|zAQ ?_
      cases h
      simp
     replace h:=zCL h
     refine cut 68 1 [(2,pT 1),(4,pT 2)] [[.sl (v66.2.l.map zKX.c),iI v66.2.at_],zz0,[iI 42,iI 0,.str v29.1,.osl ⟨1,9⟩ (o37.2.2.map cS),.osl ⟨5,26⟩ ([v66.1].map zKZ.c)]] ?_ ?_
     ·refine st ?_
      simp
      have r68:=(panR (zAO v62 (.inr v66) q64)).frame [0] [[.sl (v62.l.map zKX.c),iI v62.at_],zz0,[iI 42,iI 0,.str v29.1,.osl ⟨1,9⟩ (o37.2.2.map cS),.osl ⟨5,26⟩ (([]:List zKZ).map zKZ.c)]] (by simp)
      try simp at r68
      refine zAJ r68 (by simp) rfl ?_
      simp
     refine cutA 68 1 [(2,pT 1)] [[.sl (v66.2.l.map zKX.c),iI v66.2.at_],[iI 42,iI 0,.str v29.1,.sl (o37.2.2.map cS),.sl ([v66.1].map zKZ.c)],[iI 42,iI 0,.str v29.1,.osl ⟨1,9⟩ (o37.2.2.map cS),.osl ⟨5,26⟩ ([v66.1].map zKZ.c)]]<|zAA<|zAD<|zAB ?_
     cases h
     simp
   refine zAC<|zDZ<|zAM ?_
   obtain⟨v77,q78,h⟩:=bs h
   rcases v77 with e79|v80
   ·replace h:=zDB h
    refine zAF<|stP 1 ?_
    simp
    have r121:=(panL (zAE [115,116,114,117,99,116,117,114,101] v23.2 (.inl e79) q78)).frame [0] [[.sl (v23.2.l.map zKX.c),iI v23.2.at_],zz0] (by simp)
    try simp at r121
    refine panC r121 (by simp) (by simp)<|zAQ ?_
    cases h
    simp
   replace h:=zCL h
   refine cut 68 1 [(0,pT 0),(2,pT 1)] [[.sl (v80.l.map zKX.c),iI v80.at_],zz0] ?_ ?_
   ·refine st ?_
    simp
    have r122:=(panR (zAE [115,116,114,117,99,116,117,114,101] v23.2 (.inr v80) q78)).frame [0] [[.sl (v23.2.l.map zKX.c),iI v23.2.at_],zz0] (by simp)
    try simp at r122
    refine zAJ r122 (by simp) rfl ?_
    simp
   obtain⟨v81,q82,h⟩:=bs h
   rcases v81 with e83|v84
   ·replace h:=zDB h
    refine zAF<|stP 1 ?_
    simp
    have r119:=(panL (zAI 2 v80 (.inl e83) q82)).frame [0] [[.sl (v80.l.map zKX.c),iI v80.at_],zz0] (by simp)
    try simp at r119
    refine panC r119 (by simp) (by simp)<|zAQ ?_
    cases h
    simp
   replace h:=zCL h
   refine cut 68 1 [(0,pT 0),(2,pT 1),(5,pT 2)] [[.sl (v84.2.l.map zKX.c),iI v84.2.at_],zz0,[iI 50,iI 0,.str v84.1,.osl ⟨1,9⟩ (([]:List (List UInt8)).map cS),.osl ⟨5,26⟩ (([]:List zKZ).map zKZ.c)]] ?_ ?_
   ·refine st ?_
    simp
    have r120:=(panR (zAI 2 v80 (.inr v84) q82)).frame [0] [[.sl (v80.l.map zKX.c),iI v80.at_],zz0] (by simp)
    try simp at r120
    refine zAJ r120 (by simp) rfl ?_
    simp
   obtain⟨v85,q86,h⟩:=bs h
   rcases v85 with e87|v88
   ·replace h:=zDB h
    refine zAF<|stP 1 ?_
    simp
    have r117:=(panL (zAE [61] v84.2 (.inl e87) q86)).frame [0] [[.sl (v84.2.l.map zKX.c),iI v84.2.at_],zz0,[iI 50,iI 0,.str v84.1,.osl ⟨1,9⟩ (([]:List (List UInt8)).map cS),.osl ⟨5,26⟩ (([]:List zKZ).map zKZ.c)]] (by simp)
    try simp at r117
    refine panC r117 (by simp) (by simp)<|zAQ ?_
    cases h
    simp
   replace h:=zCL h
   refine cut 68 1 [(0,pT 0),(2,pT 1),(5,pT 2)] [[.sl (v88.l.map zKX.c),iI v88.at_],zz0,[iI 50,iI 0,.str v84.1,.osl ⟨1,9⟩ (([]:List (List UInt8)).map cS),.osl ⟨5,26⟩ (([]:List zKZ).map zKZ.c)]] ?_ ?_
   ·refine st ?_
    simp
    have r118:=(panR (zAE [61] v84.2 (.inr v88) q86)).frame [0] [[.sl (v84.2.l.map zKX.c),iI v84.2.at_],zz0,[iI 50,iI 0,.str v84.1,.osl ⟨1,9⟩ (([]:List (List UInt8)).map cS),.osl ⟨5,26⟩ (([]:List zKZ).map zKZ.c)]] (by simp)
    try simp at r118
    refine zAJ r118 (by simp) rfl ?_
    simp
   obtain⟨v89,q90,h⟩:=bs h
   rcases v89 with e91|v92
   ·replace h:=zDB h
    refine zAF<|stP 1 ?_
    simp
    have r115:=(panL (zAE [117,110,112,97,99,107] v88 (.inl e91) q90)).frame [0] [[.sl (v88.l.map zKX.c),iI v88.at_],zz0,[iI 50,iI 0,.str v84.1,.osl ⟨1,9⟩ (([]:List (List UInt8)).map cS),.osl ⟨5,26⟩ (([]:List zKZ).map zKZ.c)]] (by simp)
    try simp at r115
    refine panC r115 (by simp) (by simp)<|zAQ ?_
    cases h
    simp
   replace h:=zCL h
   refine cut 68 1 [(0,pT 0),(2,pT 1),(5,pT 2)] [[.sl (v92.l.map zKX.c),iI v92.at_],zz0,[iI 50,iI 0,.str v84.1,.osl ⟨1,9⟩ (([]:List (List UInt8)).map cS),.osl ⟨5,26⟩ (([]:List zKZ).map zKZ.c)]] ?_ ?_
   ·refine st ?_
    simp
    have r116:=(panR (zAE [117,110,112,97,99,107] v88 (.inr v92) q90)).frame [0] [[.sl (v88.l.map zKX.c),iI v88.at_],zz0,[iI 50,iI 0,.str v84.1,.osl ⟨1,9⟩ (([]:List (List UInt8)).map cS),.osl ⟨5,26⟩ (([]:List zKZ).map zKZ.c)]] (by simp)
    try simp at r116
    refine zAJ r116 (by simp) rfl ?_
    simp
   obtain⟨v93,q94,h⟩:=bs h
   rcases v93 with e95|v96
   ·replace h:=zDB h
    refine zAF<|stP 1 ?_
    simp
    have r113:=(panL (zCF v92 (.inl e95) q94)).frame [0] [[.sl (v92.l.map zKX.c),iI v92.at_],zz0,[iI 50,iI 0,.str v84.1,.osl ⟨1,9⟩ (([]:List (List UInt8)).map cS),.osl ⟨5,26⟩ (([]:List zKZ).map zKZ.c)]] (by simp)
    try simp at r113
    refine panC r113 (by simp) (by simp)<|zAQ ?_
    cases h
    simp
   replace h:=zCL h
   refine cut 68 1 [(0,pT 0),(2,pT 1),(5,pT 2)] [[.sl (v96.2.l.map zKX.c),iI v96.2.at_],zz0,[iI 50,iI 0,.str v84.1,.osl ⟨1,9⟩ (([]:List (List UInt8)).map cS),.osl ⟨5,26⟩ ([v96.1].map zKZ.c)]] ?_ ?_
   ·refine st ?_
    simp
    have r114:=(panR (zCF v92 (.inr v96) q94)).frame [0] [[.sl (v92.l.map zKX.c),iI v92.at_],zz0,[iI 50,iI 0,.str v84.1,.osl ⟨1,9⟩ (([]:List (List UInt8)).map cS),.osl ⟨5,26⟩ (([]:List zKZ).map zKZ.c)]] (by simp)
    try simp at r114
    refine zAJ r114 (by simp) rfl ?_
    simp
   obtain⟨v97,q98,h⟩:=bs h
   rcases v97 with e99|v100
   ·replace h:=zDB h
    refine zAF<|stP 1 ?_
    simp
    have r111:=(panL (zAE [58] v96.2 (.inl e99) q98)).frame [0] [[.sl (v96.2.l.map zKX.c),iI v96.2.at_],zz0,[iI 50,iI 0,.str v84.1,.osl ⟨1,9⟩ (([]:List (List UInt8)).map cS),.osl ⟨5,26⟩ ([v96.1].map zKZ.c)]] (by simp)
    try simp at r111
    refine panC r111 (by simp) (by simp)<|zAQ ?_
    cases h
    simp
   replace h:=zCL h
   refine cut 68 1 [(0,pT 0),(2,pT 1),(5,pT 2)] [[.sl (v100.l.map zKX.c),iI v100.at_],zz0,[iI 50,iI 0,.str v84.1,.osl ⟨1,9⟩ (([]:List (List UInt8)).map cS),.osl ⟨5,26⟩ ([v96.1].map zKZ.c)]] ?_ ?_
   ·refine st ?_
    simp
    have r112:=(panR (zAE [58] v96.2 (.inr v100) q98)).frame [0] [[.sl (v96.2.l.map zKX.c),iI v96.2.at_],zz0,[iI 50,iI 0,.str v84.1,.osl ⟨1,9⟩ (([]:List (List UInt8)).map cS),.osl ⟨5,26⟩ ([v96.1].map zKZ.c)]] (by simp)
    try simp at r112
    refine zAJ r112 (by simp) rfl ?_
    simp
   obtain⟨v101,q102,h⟩:=bs h
   rcases v101 with e103|v104
   ·replace h:=zDB h
    refine zAF<|zBl [0,996] [6,8] 3 mixed (n:=68) rfl (by decide) (by decide) (by decide) ?_
    simp
    have r109:=(panL (zAa fuel v100 (.inl e103) q102)).frame [0] [[.sl (v100.l.map zKX.c),iI v100.at_],zz0,[iI 50,iI 0,.str v84.1,.osl ⟨1,9⟩ (([]:List (List UInt8)).map cS),.osl ⟨5,26⟩ ([v96.1].map zKZ.c)]] (by simp)
    try simp at r109
    refine panC r109 (by simp) (by simp)<|zAQ ?_
    cases h
    simp
   replace h:=zCL h
   obtain⟨l105,q106,h⟩:=bs h
   obtain⟨q107,q108⟩:=zF6 q106
   try simp at q107
   refine cut 68 1 [(2,pT 1),(5,pT 2)] [[.sl (v104.2.l.map zKX.c),iI v104.2.at_],zz0,[iI 50,iI 0,.str v84.1,.osl ⟨1,9⟩ (([]:List (List UInt8)).map cS),.osl ⟨5,26⟩ (l105.map zKZ.c)]] ?_ ?_
   ·refine zBd [0,996] [6,8] mixed (n:=68) rfl (by decide) (by decide) ?_
    simp[q107,q108]
    have r110:=(panR (zAa fuel v100 (.inr v104) q102)).frameZ [0] [[.sl (v100.l.map zKX.c),iI v100.at_],zz0,[iI 50,iI 0,.str v84.1,.osl ⟨1,9⟩ (([]:List (List UInt8)).map cS),.osl ⟨5,26⟩ ([v96.1].map zKZ.c)]] (by simp) rfl (by simp) (by simp)
    try simp[q107,q108] at r110
    refine zHO r110 (by simp[q107,q108]) rfl (by decide) (by simp) ?_
    simp[q107,q108]
   refine cutA 68 1 [(2,pT 1)] [[.sl (v104.2.l.map zKX.c),iI v104.2.at_],[iI 50,iI 0,.str v84.1,.sl (([]:List (List UInt8)).map cS),.sl (l105.map zKZ.c)],[iI 50,iI 0,.str v84.1,.osl ⟨1,9⟩ (([]:List (List UInt8)).map cS),.osl ⟨5,26⟩ (l105.map zKZ.c)]]<|zAA ?_
   cases h
   simp
  ·intro w1 r h
   rw[zCV] at h
   refine zBu Tryz.func111 (by rfl) (by rfl) (by simp) (by simp)<|cutA 25 1 [(0,pT 0),(2,pT 1)] [[.sl (w1.l.map zKX.c),iI w1.at_],zz0]<|cutA 25 1 [(0,pT 0),(2,pT 1),(3,pT 2)] [[.sl (w1.l.map zKX.c),iI w1.at_],zz0,[iI 31,iI 0,.str ([]:List UInt8),.osl ⟨1,9⟩ (([]:List (List UInt8)).map cS),.osl ⟨5,26⟩ (([]:List zKZ).map zKZ.c)]]<|zAF<|zAP ?_
   obtain⟨o6,l7,h⟩:=bs h
   refine zCm (fun p:Nat×(List zKX)×Int×(List zKZ)=>mkS 25 1 [(0,pT 0),(2,pT 1),(3,pT 2)] [[.sl (p.2.1.map zKX.c),iI p.2.2.1],zz0,[iI 31,iI 0,.str ([]:List UInt8),.osl ⟨1,9⟩ (([]:List (List UInt8)).map cS),.osl ⟨5,26⟩ (p.2.2.2.map zKZ.c)]]) (fun p=>zBQ (zB1 fuel) p.1 p.2.1 p.2.2.1 p.2.2.2=some o6) (fun p=>p.1) (fuel,w1.l,w1.at_,([]:List zKZ)) l7 (zBi (by simp)) ?_
   rintro⟨k8,l2,at3,L4⟩ l7
   try dsimp only at l7 ⊢
   cases k8 with
   |zero=>
    rw[zBQ] at l7;cases l7
   |succ k9=>
    rw[zBQ] at l7
    refine zAF ?_
    obtain⟨v10,q11,l7⟩:=bs l7
    refine cut 25 1 [(0,pT 0),(2,pT 1),(3,pT 2),(7,.bool (!v10.1))] [[.sl (v10.2.l.map zKX.c),iI v10.2.at_],zz0,[iI 31,iI 0,.str ([]:List UInt8),.osl ⟨1,9⟩ (([]:List (List UInt8)).map cS),.osl ⟨5,26⟩ (L4.map zKZ.c)]] ?_ ?_
    ·refine st ?_
     simp
     have r45:=(zAN [105,110] (zKU.mk l2 at3) v10 q11).frame [0] [[.sl (l2.map zKX.c),iI at3],zz0,[iI 31,iI 0,.str ([]:List UInt8),.osl ⟨1,9⟩ (([]:List (List UInt8)).map cS),.osl ⟨5,26⟩ (L4.map zKZ.c)]] (by simp)
     try simp at r45
     refine zAJ r45 (by simp) rfl ?_
     simp
    refine spc l7 rfl (fun g12 l7=>?_) fun g12 l7=>?_
    ·have g13:=notT g12
     refine zAC<|zAM<|zAP ?_
     obtain⟨v14,q15,l7⟩:=bs l7
     rcases v14 with e16|v17
     ·replace l7:=zDB l7
      refine zBl [0,996] [5,7] 3 mixed (n:=25) rfl (by decide) (by decide) (by decide) ?_
      simp
      have r22:=(panL (zEd v10.2 (.inl e16) q15)).frame [0] [[.sl (v10.2.l.map zKX.c),iI v10.2.at_],zz0,[iI 31,iI 0,.str ([]:List UInt8),.osl ⟨1,9⟩ (([]:List (List UInt8)).map cS),.osl ⟨5,26⟩ (L4.map zKZ.c)]] (by simp)
      try simp at r22
      refine panC r22 (by simp) (by simp)<|zAv ?_
      replace h:=retL l7 h
      refine zAQ<|zAv<|zAQ ?_
      cases h
      simp
     replace l7:=zCL l7
     obtain⟨l18,q19,l7⟩:=bs l7
     obtain⟨q20,q21⟩:=zF6 q19
     try simp at q20
     refine last 25 1 [(0,pT 0),(2,pT 1),(3,pT 2)] [[.sl (v17.2.l.map zKX.c),iI v17.2.at_],zz0,[iI 31,iI 0,.str ([]:List UInt8),.osl ⟨1,9⟩ (([]:List (List UInt8)).map cS),.osl ⟨5,26⟩ (l18.map zKZ.c)]] ?_ fun zz hs=>?_
     ·refine zBd [0,996] [5,7] mixed (n:=25) rfl (by decide) (by decide) ?_
      simp[q20,q21]
      have r23:=(panR (zEd v10.2 (.inr v17) q15)).frameZ [0] [[.sl (v10.2.l.map zKX.c),iI v10.2.at_],zz0,[iI 31,iI 0,.str ([]:List UInt8),.osl ⟨1,9⟩ (([]:List (List UInt8)).map cS),.osl ⟨5,26⟩ (L4.map zKZ.c)]] (by simp) rfl (by simp) (by simp)
      try simp[q20,q21] at r23
      refine zHO r23 (by simp[q20,q21]) rfl (by decide) (by simp) ?_
      simp[q20,q21]
     refine zDZ ?_
     exact⟨(k9,v17.2.l,v17.2.at_,l18),hs,l7,by simp⟩
    have g24:=notF g12
    refine zB6<|zAi ?_
    rcases o6 with o6|o5
    ·cases l7
    have q25:=Sum.inr.inj (zqa l7)
    replace h:=zCL h
    have q26:o5.1=v10.2.l:=by rw[<-q25]
    have q27:o5.2.1=v10.2.at_:=by rw[<-q25]
    have q28:o5.2.2=L4:=by rw[<-q25]
    refine zAi<|zB5<|zDG (t:=mkS 25 1 [(0,pT 0),(2,pT 1),(3,pT 2)] [[.sl (o5.1.map zKX.c),iI o5.2.1],zz0,[iI 31,iI 0,.str ([]:List UInt8),.osl ⟨1,9⟩ (([]:List (List UInt8)).map cS),.osl ⟨5,26⟩ (o5.2.2.map zKZ.c)]]) ?_ (zBi (by simp[q26,q27,q28]))
    obtain⟨v29,q30,h⟩:=bs h
    rcases v29 with e31|v32
    ·replace h:=zDB h
     refine zAF<|zBl [0,996] [5,7] 3 mixed (n:=25) rfl (by decide) (by decide) (by decide) ?_
     simp
     have r43:=(panL (zAO (zKU.mk o5.1 o5.2.1) (.inl e31) q30)).frame [0] [[.sl (o5.1.map zKX.c),iI o5.2.1],zz0,[iI 31,iI 0,.str ([]:List UInt8),.osl ⟨1,9⟩ (([]:List (List UInt8)).map cS),.osl ⟨5,26⟩ (o5.2.2.map zKZ.c)]] (by simp)
     try simp at r43
     refine panC r43 (by simp) (by simp)<|zAQ ?_
     cases h
     simp
    replace h:=zCL h
    obtain⟨l33,q34,h⟩:=bs h
    obtain⟨q35,q36⟩:=zF6 q34
    try simp at q35
    refine cut 25 1 [(0,pT 0),(2,pT 1),(3,pT 2)] [[.sl (v32.2.l.map zKX.c),iI v32.2.at_],zz0,[iI 31,iI 0,.str ([]:List UInt8),.osl ⟨1,9⟩ (([]:List (List UInt8)).map cS),.osl ⟨5,26⟩ (l33.map zKZ.c)]] ?_ ?_
    ·refine zBd [0,996] [5,7] mixed (n:=25) rfl (by decide) (by decide) ?_
     simp[q35,q36]
     have r44:=(panR (zAO (zKU.mk o5.1 o5.2.1) (.inr v32) q30)).frameZ [0] [[.sl (o5.1.map zKX.c),iI o5.2.1],zz0,[iI 31,iI 0,.str ([]:List UInt8),.osl ⟨1,9⟩ (([]:List (List UInt8)).map cS),.osl ⟨5,26⟩ (o5.2.2.map zKZ.c)]] (by simp) rfl (by simp) (by simp)
     try simp[q35,q36] at r44
     refine zHO r44 (by simp[q35,q36]) rfl (by decide) (by simp) ?_
     simp[q35,q36]
    obtain⟨v37,q38,h⟩:=bs h
    rcases v37 with e39|v40
    ·replace h:=zDB h
     refine zAF<|stP 1 ?_
     simp
     have r41:=(panL (zAE [101,110,100] v32.2 (.inl e39) q38)).frame [0] [[.sl (v32.2.l.map zKX.c),iI v32.2.at_],zz0,[iI 31,iI 0,.str ([]:List UInt8),.osl ⟨1,9⟩ (([]:List (List UInt8)).map cS),.osl ⟨5,26⟩ (l33.map zKZ.c)]] (by simp)
     try simp at r41
     refine panC r41 (by simp) (by simp)<|zAQ ?_
     cases h
     simp
    replace h:=zCL h
    refine cut 25 1 [(2,pT 1),(3,pT 2)] [[.sl (v40.l.map zKX.c),iI v40.at_],zz0,[iI 31,iI 0,.str ([]:List UInt8),.osl ⟨1,9⟩ (([]:List (List UInt8)).map cS),.osl ⟨5,26⟩ (l33.map zKZ.c)]] ?_ ?_
    ·refine st ?_
     simp
     have r42:=(panR (zAE [101,110,100] v32.2 (.inr v40) q38)).frame [0] [[.sl (v32.2.l.map zKX.c),iI v32.2.at_],zz0,[iI 31,iI 0,.str ([]:List UInt8),.osl ⟨1,9⟩ (([]:List (List UInt8)).map cS),.osl ⟨5,26⟩ (l33.map zKZ.c)]] (by simp)
     try simp at r42
     refine zAJ r42 (by simp) rfl ?_
     simp
    refine cutA 25 1 [(2,pT 1)] [[.sl (v40.l.map zKX.c),iI v40.at_],[iI 31,iI 0,.str ([]:List UInt8),.sl (([]:List (List UInt8)).map cS),.sl (l33.map zKZ.c)],[iI 31,iI 0,.str ([]:List UInt8),.osl ⟨1,9⟩ (([]:List (List UInt8)).map cS),.osl ⟨5,26⟩ (l33.map zKZ.c)]]<|zAA ?_
    cases h
    simp
  ·intro w1 r h
   rw[zAw] at h
   refine zBu Tryz.func75 (by rfl) (by rfl) (by simp) (by simp)<|cutA 44 1 [(0,pT 0),(2,pT 1)] [[.sl (w1.l.map zKX.c),iI w1.at_],zz0]<|zAF<|zAP ?_
   obtain⟨v2,q3,h⟩:=bs h
   refine cut 44 1 [(0,pT 0),(2,pT 1),(5,.bool v2)] [[.sl (w1.l.map zKX.c),iI w1.at_],zz0] ?_ ?_
   ·refine st ?_
    simp
    have r64:=(zAW 4 w1 v2 q3).frame [0] [[.sl (w1.l.map zKX.c),iI w1.at_],zz0] (by simp)
    try simp at r64
    refine zAJ r64 (by simp) rfl ?_
    simp
   refine spc h rfl (fun g4 h=>?_) fun g4 h=>?_
   ·obtain⟨v5,q6,h⟩:=bs h
    rcases v5 with e7|v8
    ·replace h:=zDB h
     refine zAF<|stP 1 ?_
     simp
     have r9:=(panL (zBt fuel w1 (.inl e7) q6)).frame [0] [[.sl (w1.l.map zKX.c),iI w1.at_],zz0] (by simp)
     try simp at r9
     refine panC r9 (by simp) (by simp)<|zAQ<|zAv<|zAQ ?_
     cases h
     simp
    replace h:=zCL h
    refine cut 44 1 [(2,pT 1)] [[.sl (v8.2.l.map zKX.c),iI v8.2.at_],[iI 21,iI v8.1,.str ([]:List UInt8),.osl ⟨1,9⟩ (([]:List (List UInt8)).map cS),.osl ⟨5,26⟩ (([]:List zKZ).map zKZ.c)]] ?_ ?_
    ·refine st ?_
     simp
     have r10:=(panR (zBt fuel w1 (.inr v8) q6)).frame [0] [[.sl (w1.l.map zKX.c),iI w1.at_],zz0] (by simp)
     try simp at r10
     refine zAJ r10 (by simp) rfl ?_
     simp
    refine zAA<|zAD<|zAB ?_
    cases h
    simp
   obtain⟨v11,q12,h⟩:=bs h
   refine cut 44 1 [(0,pT 0),(2,pT 1),(11,.bool v11)] [[.sl (w1.l.map zKX.c),iI w1.at_],zz0] ?_ ?_
   ·refine st ?_
    simp
    have r63:=(zAW 5 w1 v11 q12).frame [0] [[.sl (w1.l.map zKX.c),iI w1.at_],zz0] (by simp)
    try simp at r63
    refine zAJ r63 (by simp) rfl ?_
    simp
   refine spc h rfl (fun g13 h=>?_) fun g13 h=>?_
   ·obtain⟨v14,q15,h⟩:=bs h
    rcases v14 with e16|v17
    ·replace h:=zDB h
     refine zAF<|stP 1 ?_
     simp
     have r18:=(panL (zAI 5 w1 (.inl e16) q15)).frame [0] [[.sl (w1.l.map zKX.c),iI w1.at_],zz0] (by simp)
     try simp at r18
     refine panC r18 (by simp) (by simp)<|zAQ<|zAv<|zAQ ?_
     cases h
     simp
    replace h:=zCL h
    refine cut 44 1 [(2,pT 1)] [[.sl (v17.2.l.map zKX.c),iI v17.2.at_],[iI 22,iI 0,.str v17.1,.osl ⟨1,9⟩ (([]:List (List UInt8)).map cS),.osl ⟨5,26⟩ (([]:List zKZ).map zKZ.c)]] ?_ ?_
    ·refine st ?_
     simp
     have r19:=(panR (zAI 5 w1 (.inr v17) q15)).frame [0] [[.sl (w1.l.map zKX.c),iI w1.at_],zz0] (by simp)
     try simp at r19
     refine zAJ r19 (by simp) rfl ?_
     simp
    refine zAA<|zAD<|zAB ?_
    cases h
    simp
   obtain⟨v20,q21,h⟩:=bs h
   refine cut 44 1 [(0,pT 0),(2,pT 1),(17,.bool v20)] [[.sl (w1.l.map zKX.c),iI w1.at_],zz0] ?_ ?_
   ·refine st ?_
    simp
    have r62:=(zBh w1 v20 q21).frame [0] [[.sl (w1.l.map zKX.c),iI w1.at_],zz0] (by simp)
    try simp at r62
    refine zAJ r62 (by simp) rfl ?_
    simp
   refine spc h rfl (fun g22 h=>?_) fun g22 h=>?_
   ·obtain⟨v23,q24,h⟩:=bs h
    rcases v23 with e25|v26
    ·replace h:=zDB h
     refine zAF<|stP 1 ?_
     simp
     have r28:=(panL (zC8 fuel true w1 (.inl e25) q24)).frame [0] [[.sl (w1.l.map zKX.c),iI w1.at_],zz0] (by simp)
     try simp at r28
     refine panC r28 (by simp) (by simp)<|zAQ<|zAv<|zAQ ?_
     cases h
     simp
    replace h:=zCL h
    refine cut 44 1 [(2,pT 1),(3,.sl (v26.1.map cS)),(4,.bool v26.2.1)] [[.sl (v26.2.2.l.map zKX.c),iI v26.2.2.at_],zz0] ?_ ?_
    ·refine st ?_
     simp
     have r29:=(panR (zC8 fuel true w1 (.inr v26) q24)).frame [0] [[.sl (w1.l.map zKX.c),iI w1.at_],zz0] (by simp)
     try simp at r29
     refine zAJ r29 (by simp) rfl ?_
     simp
    refine zAF<|cutA 44 1 [(2,pT 1),(3,.sl (v26.1.map cS)),(25,.bool v26.2.1)] [[.sl (v26.2.2.l.map zKX.c),iI v26.2.2.at_],zz0]<|spc h rfl (fun g27 h=>?_) fun g27 h=>?_
    ·refine cutA 44 1 [(2,pT 1)] [[.sl (v26.2.2.l.map zKX.c),iI v26.2.2.at_],[iI 23,iI 0,.str ([]:List UInt8),.sl (v26.1.map cS),.osl ⟨5,26⟩ (([]:List zKZ).map zKZ.c)]]<|zAA<|zAB<|zAD<|zAB ?_
     cases h
     simp
    refine zAC<|zAM<|cutA 44 1 [(2,pT 1)] [[.sl (v26.2.2.l.map zKX.c),iI v26.2.2.at_],[iI 24,iI 0,.str ([]:List UInt8),.sl (v26.1.map cS),.osl ⟨5,26⟩ (([]:List zKZ).map zKZ.c)]]<|zAA<|zAD<|zAB ?_
    cases h
    simp
   obtain⟨v30,q31,h⟩:=bs h
   refine cut 44 1 [(0,pT 0),(2,pT 1),(30,.bool v30.1)] [[.sl (v30.2.l.map zKX.c),iI v30.2.at_],zz0] ?_ ?_
   ·refine st ?_
    simp
    have r61:=(zAN [108,101,116] w1 v30 q31).frame [0] [[.sl (w1.l.map zKX.c),iI w1.at_],zz0] (by simp)
    try simp at r61
    refine zAJ r61 (by simp) rfl ?_
    simp
   refine spc h rfl (fun g32 h=>?_) fun g32 h=>?_
   ·obtain⟨v33,q34,h⟩:=bs h
    rcases v33 with e35|v36
    ·replace h:=zDB h
     refine zAF<|stP 1 ?_
     simp
     have r37:=(panL (zEk v30.2 (.inl e35) q34)).frame [0] [[.sl (v30.2.l.map zKX.c),iI v30.2.at_],zz0] (by simp)
     try simp at r37
     refine panC r37 (by simp) (by simp)<|zAQ<|zAv<|zAQ ?_
     cases h
     simp
    replace h:=zCL h
    refine cut 44 1 [(2,pT 1)] [[.sl (v36.2.l.map zKX.c),iI v36.2.at_],(zKZ.d v36.1)] ?_ ?_
    ·refine st ?_
     simp
     have r38:=(panR (zEk v30.2 (.inr v36) q34)).frame [0] [[.sl (v30.2.l.map zKX.c),iI v30.2.at_],zz0] (by simp)
     try simp at r38
     refine zAJ r38 (by simp) rfl ?_
     simp
    refine zAA<|zAD<|zAB ?_
    cases h
    simp
   obtain⟨v39,q40,h⟩:=bs h
   refine cut 44 1 [(0,pT 0),(2,pT 1),(35,.bool v39.1)] [[.sl (v39.2.l.map zKX.c),iI v39.2.at_],zz0] ?_ ?_
   ·refine st ?_
    simp
    have r60:=(zAN [99,97,115,101] v30.2 v39 q40).frame [0] [[.sl (v30.2.l.map zKX.c),iI v30.2.at_],zz0] (by simp)
    try simp at r60
    refine zAJ r60 (by simp) rfl ?_
    simp
   refine spc h rfl (fun g41 h=>?_) fun g41 h=>?_
   ·obtain⟨v42,q43,h⟩:=bs h
    rcases v42 with e44|v45
    ·replace h:=zDB h
     refine zAF<|stP 1 ?_
     simp
     have r46:=(panL (zD4 v39.2 (.inl e44) q43)).frame [0] [[.sl (v39.2.l.map zKX.c),iI v39.2.at_],zz0] (by simp)
     try simp at r46
     refine panC r46 (by simp) (by simp)<|zAQ<|zAv<|zAQ ?_
     cases h
     simp
    replace h:=zCL h
    refine cut 44 1 [(2,pT 1)] [[.sl (v45.2.l.map zKX.c),iI v45.2.at_],(zKZ.d v45.1)] ?_ ?_
    ·refine st ?_
     simp
     have r47:=(panR (zD4 v39.2 (.inr v45) q43)).frame [0] [[.sl (v39.2.l.map zKX.c),iI v39.2.at_],zz0] (by simp)
     try simp at r47
     refine zAJ r47 (by simp) rfl ?_
     simp
    refine zAA<|zAD<|zAB ?_
    cases h
    simp
   refine zAC<|zDZ<|zAM ?_
   obtain⟨v48,q49,h⟩:=bs h
   rcases v48 with e50|v51
   ·replace h:=zDB h
    refine zAF<|stP 1 ?_
    simp
    have r58:=(panL (zAE [40] v39.2 (.inl e50) q49)).frame [0] [[.sl (v39.2.l.map zKX.c),iI v39.2.at_],zz0] (by simp)
    try simp at r58
    refine panC r58 (by simp) (by simp)<|zAQ ?_
    cases h
    simp
   replace h:=zCL h
   refine cut 44 1 [(0,pT 0),(2,pT 1)] [[.sl (v51.l.map zKX.c),iI v51.at_],zz0] ?_ ?_
   ·refine st ?_
    simp
    have r59:=(panR (zAE [40] v39.2 (.inr v51) q49)).frame [0] [[.sl (v39.2.l.map zKX.c),iI v39.2.at_],zz0] (by simp)
    try simp at r59
    refine zAJ r59 (by simp) rfl ?_
    simp
   obtain⟨v52,q53,h⟩:=bs h
   rcases v52 with e54|v55
   ·replace h:=zDB h
    refine zAF<|stP 1 ?_
    simp
    have r56:=(panL (zD3 v51 (.inl e54) q53)).frame [0] [[.sl (v51.l.map zKX.c),iI v51.at_],zz0] (by simp)
    try simp at r56
    refine panC r56 (by simp) (by simp)<|zAQ ?_
    cases h
    simp
   replace h:=zCL h
   refine cut 44 1 [(2,pT 1)] [[.sl (v55.2.l.map zKX.c),iI v55.2.at_],(zKZ.d v55.1)] ?_ ?_
   ·refine st ?_
    simp
    have r57:=(panR (zD3 v51 (.inr v55) q53)).frame [0] [[.sl (v51.l.map zKX.c),iI v51.at_],zz0] (by simp)
    try simp at r57
    refine zAJ r57 (by simp) rfl ?_
    simp
   refine zAA ?_
   cases h
   simp
theorem zEX(fuel:Nat):(∀(w1:zKU)(r:(zKU) ⊕ (zKZ×zKU))(_:zAV fuel w1=some r),Sum.elim (fun r=>RawP Tryz.prog 76 (pan1 112) [pT 0] [[.sl (w1.l.map zKX.c),iI w1.at_]] [[.sl (r.l.map zKX.c),iI r.at_]]) (fun r=>Raw Tryz.prog 76 [pT 0] [[.sl (w1.l.map zKX.c),iI w1.at_]] (.agg (zKZ.d r.1)) [[.sl (r.2.l.map zKX.c),iI r.2.at_]]) r):=(zCD fuel).2.2.2.2.1
theorem zEY(fuel:Nat):(∀(w1:zKU)(r:(zKU) ⊕ (zKZ×zKU))(_:zAw fuel w1=some r),Sum.elim (fun r=>RawP Tryz.prog 75 (pan1 112) [pT 0] [[.sl (w1.l.map zKX.c),iI w1.at_]] [[.sl (r.l.map zKX.c),iI r.at_]]) (fun r=>Raw Tryz.prog 75 [pT 0] [[.sl (w1.l.map zKX.c),iI w1.at_]] (.agg (zKZ.d r.1)) [[.sl (r.2.l.map zKX.c),iI r.2.at_]]) r):=(zCD fuel).2.2.2.2.2.2.2
end Go.Proofs.YtcbjbgiboimgaaaGreatDoor

namespace Go.Proofs.YtcbjbgiboimgaaaGreatDoor
open Go Go.Abs
def zSyn:List AV:=[.int .i64 0,.int .i64 0,.str [],.nsl,.nsl]
def Left(g:Gh)(w:World)(bs:List (List AV))(w':World):Prop:= ∃g',Sto g' bs w'∧Ext ⟨w,g⟩ g' w'∧∀t,g'.own (.tmp t)=none
theorem left_of{g:Gh}{s:AState}{a:Act}{w0 w:World}{g0:Gh}{bs:List (List AV)}(h:Sim ⟨w0,g0⟩ g s a w)(he:EndB s bs):Left g0 w0 bs w:=by
 obtain⟨g2,h5,h6,h7⟩:=h.le' he.le
 refine⟨{g2 with own:=fun p=>match p with|.tmp _=>none|q=>g2.own q},h5.callee,?_,fun t=>rfl⟩
 exact {h5.ext with
  imm:=h5.ext.imm
  immNew:=h5.ext.immNew
  mineσ:=h5.ext.mineσ
  mineOwn:=fun p k hk=>by
   cases p with
   |tmp t=>cases hk
   |cell b o=>exact h5.ext.mineOwn _ k hk}
theorem wpS_recover{P:Program}{o0 o1:Oper}{c0:Call}{d0 d1:Nat}(h0:o0.op=.call {callee:=.builtin .recover,args:=#[],argTypes:=#[]})(e0:o0.dst=some d0)(g0:o0.guard=none)(h1:o1.op=.assign (.tmp d0))(e1:o1.dst=some d1)(g1:o1.guard=none)
 {Q:Exit->Act->List Frame->World->Prop} {a:Act} {cs cs':List Frame} {w:World} {xv:Value} (hrec:recoverD cs=some (xv,cs')∨(recoverD cs=none∧xv=.nilIface∧cs'=cs)) (hd:d0<a.tmps.size)
 (hQ:Q .normal ((a.put (some d0) xv).put (some d1) xv) cs' w):wpOpsS P #[o0,o1] Q [0,1] a cs w:=by
 have r0:(execOp a.eval o0).run P w=.ok .recover w:=by simp[execOp,h0,resolve,invoke,builtin]
 have hg:((a.put (some d0) xv).tmps.getD d0 undef)=xv:=by
  simp only[Act.put]
  rw[zDR,if_pos ⟨rfl,hd⟩]
 have r1:(execOp (a.put (some d0) xv).eval o1).run P w=.ok (.value xv) w:=by
  have:(a.put (some d0) xv).eval (.tmp d0)=xv:=hg
  simp[execOp,h1,this]
 have next:wpOpsS P #[o0,o1] Q [1] (a.put (some d0) xv) cs' w:=by
  unfold wpOpsS
  simp only[show(#[o0,o1]:Array Oper)[1]? =some o1 from rfl]
  rw[if_pos (by simp[Region.wanted,g1]),r1]
  simp only[Oper.upon,e1]
  unfold wpOpsS
  exact hQ
 unfold wpOpsS
 simp only[show(#[o0,o1]:Array Oper)[0]? =some o0 from rfl]
 rw[if_pos (by simp[Region.wanted,g0]),r0]
 rcases hrec with h|⟨h,rfl,rfl⟩
 ·simp only[h,e0];exact next
 ·simp only[h,e0];exact next
theorem run1_of{bs bs':List (List AV)}{X:AV}{xv:Value}{u u':FrameMode}(hX:X.owns=false)
 (hrec: ∀c₀:Frame,c₀.mode=u->∀cs,(recoverD (c₀::cs)=some (xv,{c₀ with mode:=u'}::cs))∨(recoverD (c₀::cs)=none∧xv=.nilIface∧u'=u))
 (hxr: ∀imm σ,Rep imm σ X xv)
 (hA: ∀y1 y2:Code,Tryz.f72.body=some (.seq y1 y2)->AWp Tryz.prog y2 (fun e s=>e=.normal∧EndB s bs') (((Go.Abs.start 17 bs.length [.mptr 1 0,.mptr 2 0] bs).put 5 X).put 2 X))
 {g:Gh} {w:World} {vals:Array Value} (hs:Sto g bs w) (h0: ∀t,g.own (.tmp t)=none) (htg:TG g w) (ha:RepL g.imm g.σ [.mptr 1 0,.mptr 2 0] vals):
 CallsD Tryz.prog 72 vals u w fun e u2 w'=> ∃v,e=.returned v∧u2=u'∧Left g w bs' w':=by
 refine callsD_of_wpS Tryz.func72 (by rfl) fun c₀ cs hu=>?_
 have hA:=hA _ _ rfl
 refine wpS_seq (wpS_region ?_)
 have sim0:=zIF (n:=17) hs h0 ha (by simp) (by simp) htg
 have hr:=hrec c₀ hu cs
 have s1:=sim0.putTmp 5 none (x:=X) (v:=xv) (hxr _ _) (OwnsBy.of_not hX) Floating.none
 have s2:=s1.putTmp 2 none (x:=X) (v:=xv) (hxr _ _) (OwnsBy.of_not hX) Floating.none
 refine wpS_recover (c0:=default) (cs':={c₀ with mode:=u'}::cs) rfl rfl rfl rfl rfl rfl (xv:=xv) ?_ ?_ ?_
 ·rcases hr with h|⟨h,h2,h3⟩
  ·exact .inl h
  ·refine .inr ⟨h,h2,?_⟩
   rw[h3,<-hu]
 ·have h17:(17:Nat)=(vals++Array.replicate (17-vals.size) undef).size:=sim0.size
  show 5<(vals++Array.replicate (17-vals.size) undef).size
  omega
 ·show Code.wpS _ _ _ _ _ _
  refine wpS_of_wp (wp_mono (hA _ _ _ _ s2) fun e a' w' ⟨g',s',h1,h2,h3⟩=>?_)
  subst h2
  exact⟨h1.defers,u',rfl,_,results_none rfl _ _ _,_,rfl,rfl,left_of h1 h3⟩
def bP(w:zKU):List AV:=[.sl (w.l.map zKX.c),.int .i64 w.at_]
theorem run1_ret{bs:List (List AV)}{g:Gh}{w:World}{vals:Array Value}(hl:bs.length=3)(hs:Sto g bs w)(h0: ∀t,g.own (.tmp t)=none)(htg:TG g w)(ha:RepL g.imm g.σ [.mptr 1 0,.mptr 2 0] vals):
 CallsD Tryz.prog 72 vals .returning w fun e u2 w'=> ∃v,e=.returned v∧u2=.returning∧Left g w bs w':=by
 match bs,hl with
 |[b0,b1,b2],_=>
 refine run1_of (X:=.nilif) (xv:=.nilIface) (u':=.returning) rfl (fun c₀ hu cs=>.inr ⟨by simp[recoverD,hu],rfl,rfl⟩) (fun _ _=>.nilif) (fun y1 y2 hy=>?_) hs h0 htg ha
 cases hy
 refine cut 17 3 [(7,.bool false)] [b0,b1,b2] ?_ ?_
 ·refine st ?_
  simp
 refine condF rfl rfl ?_
 refine zAC ?_
 simp
theorem run1_pan{b0 b1:List AV}{b:Bool}{g:Gh}{w:World}{vals:Array Value}(hb:b1.length=5)(hu0:AV.underL 3 b0=true)(hu1:AV.underL 3 b1=true)(hs:Sto g [b0,b1,[.bool b]] w)(h0: ∀t,g.own (.tmp t)=none)(htg:TG g w)(ha:RepL g.imm g.σ [.mptr 1 0,.mptr 2 0] vals):
 CallsD Tryz.prog 72 vals (.panicking (pan1 112)) w fun e u2 w'=> ∃v,e=.returned v∧u2=.panicking [{v:=.iface 112 (.agg #[]),recovered:=true}]∧Left g w [b0,zSyn,[.bool false]] w':=by
 refine run1_of (X:=.iface 112 (.agg [])) (xv:=.iface 112 (.agg #[])) rfl (fun c₀ hu cs=>.inl (by simp[recoverD,hu,pan1])) (fun _ _=>.iface _ _ _ (.agg _ _ rfl (by simp))) (fun y1 y2 hy=>?_) hs h0 htg ha
 cases hy
 refine cut 17 3 [(0,.mptr 1 0),(1,.mptr 2 0),(2,.iface 112 (.agg [])),(7,.bool true)] [b0,b1,[.bool b]] ?_ ?_
 ·refine st ?_
  simp
 refine zBk rfl rfl ?_
 refine zAF ?_
 refine cut 17 3 [(0,.mptr 1 0),(1,.mptr 2 0),(4,.bool true)] [b0,b1,[.bool b]] ?_ ?_
 ·refine zHs ?_
  refine WL.cut 1 17 3 [(0,.mptr 1 0),(1,.mptr 2 0),(9,.iface 112 (.agg []))] [b0,b1,[.bool b]] ?_ ?_
  ·simp
  refine WL.assert rfl rfl rfl (by simp;rfl) rfl ?_
  refine WL.last ?_
  simp[hu0,hu1]
 refine cut 17 3 [(0,.mptr 1 0),(1,.mptr 2 0),(14,.bool false)] [b0,b1,[.bool b]] ?_ ?_
 ·refine st ?_
  simp
 refine condF rfl rfl ?_
 refine zAC ?_
 refine zAM ?_
 match b1,hb with
 |[c0,c1,c2,c3,c4],_=>
 refine st ?_
 simp[zSyn]
def EndR(s:AState)(w:zKU)(x:List AV)(b:Bool):Prop:=LeB s 22 3 [(4,.mptr 1 0),(5,.mptr 2 0)] [bP w,x,[.bool b]]
def Qend(r:zKZ×Bool×zKU)(e:Exit)(s:AState):Prop:=
 (e=.ret∧r.2.1=true∧EndR s r.2.2 [.int .i64 r.1.Op,.int .i64 r.1.N,.str r.1.S,.sl (r.1.Names.map cS),.sl (r.1.L.map zKZ.c)] true)∨
 (e=.panic (pan1 112)∧r.1=⟨0,0,[],[],[]⟩∧r.2.1=false∧EndR s r.2.2 zSyn false)
theorem run_body(fuel:Nat)(cat:Int)(w:zKU)(r:zKZ×Bool×zKU)(h:zCU fuel cat w=some r)(D:List Deferred):
 ∀y0 y1 y2:Code,Tryz.f42.body=some (.seq y0 (.seq y1 y2))->
  DWp Tryz.prog D y2 (Qend r) (mkS 22 3 [(0,.mptr 0 0),(1,.int .i64 cat),(4,.mptr 1 0),(5,.mptr 2 0)] [bP w,zSyn,[.bool false]]):=by
 intro y0 y1 y2 hy
 cases hy
 rw[zCU] at h
 have cutD: ∀{x y:Code}{Q:Exit->AState->Prop}{s:AState}(n base:Nat)(live:List (Nat×AV))(blocks:List (List AV)),DWp Tryz.prog D x (cutK n base live blocks Q) s->DWp Tryz.prog D y Q (mkS n base live blocks)->DWp Tryz.prog D (.seq x y) Q s:=
  fun {x y Q s} n base live blocks h1 h2=>zJm fun F g a w hs hd=>wp_mono (h1 F g a w hs hd) fun e a' w' ⟨g',s',q1,q2,q3⟩=>⟨g',s',q1,q2,by
   cases e with
   |normal=>exact dwp_le h2 (zBi q3)
   |_=>exact q3⟩
 refine zJm ?_
 refine cutD 22 3 [(0,.mptr 0 0),(4,.mptr 1 0),(5,.mptr 2 0),(7,.int .i64 cat)] [bP w,zSyn,[.bool false]] ?_ ?_
 ·refine zE3 ?_
  simp[bP,zSyn]
 refine dwp_block ?_
 refine cutD 22 3 [(0,.mptr 0 0),(4,.mptr 1 0),(5,.mptr 2 0),(7,.int .i64 cat),(8,.bool (eqI cat 1))] [bP w,zSyn,[.bool false]] ?_ ?_
 ·refine zE3 ?_
  simp[bP,zSyn]
 rcases sp h with ⟨c1,h⟩|⟨c1,h⟩
 ·refine zHr (b:=eqI cat 1) rfl (fun _=>?_) (fun c=>absurd (c1.symm.trans c) (by simp))
  rw[zA7] at h
  obtain⟨v,q,h⟩:=bs h
  rcases v with e|v
  ·replace h:=zDB h
   obtain rfl:=oi h
   refine zJm (zFE 1 ?_)
   simp
   have r1:=(panL (zDM fuel w (.inl e) q)).frame [0] [bP w,zSyn,[.bool false]] (by simp[bP,zSyn])
   simp at r1
   refine⟨_,_,r1,?_⟩
   show Qend _ (.panic _) _
   refine .inr ⟨rfl,rfl,rfl,?_⟩
   simp[EndR,bP,zSyn]
  replace h:=zCL h
  obtain rfl:=oi h
  refine cutD 22 3 [(4,.mptr 1 0),(5,.mptr 2 0)] [bP v.2,[.int .i64 v.1.Op,.int .i64 v.1.N,.str v.1.S,.sl (v.1.Names.map cS),.sl (v.1.L.map zKZ.c)],[.bool true]] (zE3 ?_) (dwp_ret ?_)
  ·simp
   have r1:=(panR (zDM fuel w (.inr v) q)).frame [0] [bP w,zSyn,[.bool false]] (by simp[bP,zSyn])
   simp at r1
   refine zAJ r1 (by simp) rfl ?_
   simp[bP,zSyn]
  show Qend _ .ret _
  refine .inl ⟨rfl,rfl,?_⟩
  simp[EndR,bP]
 refine zHr (b:=eqI cat 1) rfl (fun c=>absurd (c1.symm.trans c) (by simp)) (fun _=>?_)
 refine cutD 22 3 [(0,.mptr 0 0),(4,.mptr 1 0),(5,.mptr 2 0),(7,.int .i64 cat),(12,.bool (eqI cat 2))] [bP w,zSyn,[.bool false]] ?_ ?_
 ·refine zE3 ?_
  simp[bP,zSyn]
 rcases sp h with ⟨c2,h⟩|⟨c2,h⟩
 ·refine zHr (b:=eqI cat 2) rfl (fun _=>?_) (fun c=>absurd (c2.symm.trans c) (by simp))
  rw[zA7] at h
  obtain⟨v,q,h⟩:=bs h
  rcases v with e|v
  ·replace h:=zDB h
   obtain rfl:=oi h
   refine zJm (zFE 1 ?_)
   simp
   have r1:=(panL (zCi fuel w (.inl e) q)).frame [0] [bP w,zSyn,[.bool false]] (by simp[bP,zSyn])
   simp at r1
   refine⟨_,_,r1,?_⟩
   show Qend _ (.panic _) _
   refine .inr ⟨rfl,rfl,rfl,?_⟩
   simp[EndR,bP,zSyn]
  replace h:=zCL h
  obtain rfl:=oi h
  refine cutD 22 3 [(4,.mptr 1 0),(5,.mptr 2 0)] [bP v.2,[.int .i64 v.1.Op,.int .i64 v.1.N,.str v.1.S,.sl (v.1.Names.map cS),.sl (v.1.L.map zKZ.c)],[.bool true]] (zE3 ?_) (dwp_ret ?_)
  ·simp
   have r1:=(panR (zCi fuel w (.inr v) q)).frame [0] [bP w,zSyn,[.bool false]] (by simp[bP,zSyn])
   simp at r1
   refine zAJ r1 (by simp) rfl ?_
   simp[bP,zSyn]
  show Qend _ .ret _
  refine .inl ⟨rfl,rfl,?_⟩
  simp[EndR,bP]
 refine zHr (b:=eqI cat 2) rfl (fun c=>absurd (c2.symm.trans c) (by simp)) (fun _=>?_)
 refine cutD 22 3 [(0,.mptr 0 0),(4,.mptr 1 0),(5,.mptr 2 0),(16,.bool (eqI cat (-1)))] [bP w,zSyn,[.bool false]] ?_ ?_
 ·refine zE3 ?_
  simp[bP,zSyn]
 rcases sp h with ⟨c3,h⟩|⟨c3,h⟩
 ·refine zHr (b:=eqI cat (-1)) rfl (fun _=>?_) (fun c=>absurd (c3.symm.trans c) (by simp))
  rw[zA7] at h
  obtain⟨v,q,h⟩:=bs h
  rcases v with e|v
  ·replace h:=zDB h
   obtain rfl:=oi h
   refine zJm (zFE 1 ?_)
   simp
   have r1:=(panL (zEY fuel w (.inl e) q)).frame [0] [bP w,zSyn,[.bool false]] (by simp[bP,zSyn])
   simp at r1
   refine⟨_,_,r1,?_⟩
   show Qend _ (.panic _) _
   refine .inr ⟨rfl,rfl,rfl,?_⟩
   simp[EndR,bP,zSyn]
  replace h:=zCL h
  obtain rfl:=oi h
  refine cutD 22 3 [(4,.mptr 1 0),(5,.mptr 2 0)] [bP v.2,[.int .i64 v.1.Op,.int .i64 v.1.N,.str v.1.S,.sl (v.1.Names.map cS),.sl (v.1.L.map zKZ.c)],[.bool true]] (zE3 ?_) (dwp_ret ?_)
  ·simp
   have r1:=(panR (zEY fuel w (.inr v) q)).frame [0] [bP w,zSyn,[.bool false]] (by simp[bP,zSyn])
   simp at r1
   refine zAJ r1 (by simp) rfl ?_
   simp[bP,zSyn]
  show Qend _ .ret _
  refine .inl ⟨rfl,rfl,?_⟩
  simp[EndR,bP]
 refine zHr (b:=eqI cat (-1)) rfl (fun c=>absurd (c3.symm.trans c) (by simp)) (fun _=>?_)
 refine dwp_skip ?_
 show DWp _ _ _ _ _
 rw[zA7] at h
 obtain⟨v,q,h⟩:=bs h
 rcases v with e|v
 ·replace h:=zDB h
  obtain rfl:=oi h
  refine zJm (zFE 1 ?_)
  simp
  have r1:=(panL (zEX fuel w (.inl e) q)).frame [0] [bP w,zSyn,[.bool false]] (by simp[bP,zSyn])
  simp at r1
  refine⟨_,_,r1,?_⟩
  show Qend _ (.panic _) _
  refine .inr ⟨rfl,rfl,rfl,?_⟩
  simp[EndR,bP,zSyn]
 replace h:=zCL h
 obtain rfl:=oi h
 refine cutD 22 3 [(4,.mptr 1 0),(5,.mptr 2 0)] [bP v.2,[.int .i64 v.1.Op,.int .i64 v.1.N,.str v.1.S,.sl (v.1.Names.map cS),.sl (v.1.L.map zKZ.c)],[.bool true]] (zE3 ?_) (dwp_ret ?_)
 ·simp
  have r1:=(panR (zEX fuel w (.inr v) q)).frame [0] [bP w,zSyn,[.bool false]] (by simp[bP,zSyn])
  simp at r1
  refine zAJ r1 (by simp) rfl ?_
  simp[bP,zSyn]
 show Qend _ .ret _
 refine .inl ⟨rfl,rfl,?_⟩
 simp[EndR,bP]
theorem left_of'{g:Gh}{s:AState}{a:Act}{w0 w:World}{g0:Gh}{bs:List (List AV)}(h:Sim ⟨w0,g0⟩ g s a w)(he:EndB s bs): ∃g',Sto g' bs w∧Ext ⟨w0,g0⟩ g' w∧(∀t,g'.own (.tmp t)=none)∧g'.imm=g.imm:=by
 obtain⟨g2,h5,h6,h7⟩:=h.le' he.le
 refine⟨{g2 with own:=fun p=>match p with|.tmp _=>none|q=>g2.own q},h5.callee,?_,fun t=>rfl,h6⟩
 exact {h5.ext with
  imm:=h5.ext.imm
  immNew:=h5.ext.immNew
  mineσ:=h5.ext.mineσ
  mineOwn:=fun p k hk=>by
   cases p with
   |tmp t=>cases hk
   |cell b o=>exact h5.ext.mineOwn _ k hk}
theorem wpList_defer{P:Program}{o0 o1:Oper}{ops:Array Oper}{Q:Exit->Act->World->Prop}{a:Act}{w:World}{d0 f x4 x5:Nat}{ts:Array TypeId}(h0:o0.op=.makeFunc (.func f) #[] #[.tmp x4,.tmp x5])(e0:o0.dst=some d0)(g0:o0.guard=none)
 (h1:o1.op=.defer {callee:=.value (.tmp d0),args:=#[],argTypes:=ts}) (e1:o1.dst=none) (g1:o1.guard=none) (hd:d0<a.tmps.size)
 (hQ:Q .normal {(a.put (some d0) (.func (.func f) #[] #[a.tmps.getD x4 undef,a.tmps.getD x5 undef])) with defers:={target:=.fn (.func f) #[a.tmps.getD x4 undef,a.tmps.getD x5 undef],args:=#[]}::a.defers} w):wpList P ops Q [o0,o1] a w:=by
 generalize hfv:(Value.func (.func f) #[] #[a.tmps.getD x4 undef,a.tmps.getD x5 undef])=fv at hQ
 have r0:(execOp a.eval o0).run P w=.ok (.value fv) w:=by subst hfv;simp[execOp,h0,Act.eval,Instr.makeFunc]
 have hg:((a.put (some d0) fv).tmps.getD d0 undef)=fv:=by
  simp only[Act.put]
  rw[zDR,if_pos ⟨rfl,hd⟩]
 have r1:(execOp (a.put (some d0) fv).eval o1).run P w=.ok (.defer {target:=.fn (.func f) #[a.tmps.getD x4 undef,a.tmps.getD x5 undef],args:=#[]}) w:=by
  have:(a.put (some d0) fv).eval (.tmp d0)=fv:=hg
  subst hfv
  simp only[execOp,h1,Sem.run_bind,resolve,this,Deferred.ofValue,Sem.run_pure,Result.andThen_ok]
  simp
 unfold wpList
 rw[if_pos (by simp[Region.wanted,g0])]
 refine .inl ?_
 simp only[Oper.wp,r0,Oper.upon,e0]
 unfold wpList
 rw[if_pos (by simp[Region.wanted,g1])]
 refine .inl ?_
 simp only[Oper.wp,r1,Oper.upon,e1]
 unfold wpList
 exact hQ
theorem zF9(fuel:Nat)(cat1:Int)(w2:zKU)(r:zKZ×Bool×zKU)(h:zCU fuel cat1 w2=some r):
 Raw Tryz.prog 42 [.mptr 0 0,.int .i64 cat1] [[.sl (w2.l.map zKX.c),.int .i64 w2.at_]] (.tup [.agg [.int .i64 r.1.Op,.int .i64 r.1.N,.str r.1.S,.sl (r.1.Names.map cS),.sl (r.1.L.map zKZ.c)],.bool r.2.1]) [[.sl (r.2.2.l.map zKX.c),.int .i64 r.2.2.at_]]:=by
 refine⟨⟨Tryz.f42,Tryz.func42,by rfl,by rfl⟩,fun g w0 vals hs h0 htg ha=>calls_of_wp_defers Tryz.func42 (by rfl) ?_⟩
 have sim0:=zIF (n:=22) hs h0 ha (by simp) (by simp) htg
 have hA0: ∀y0 y',Tryz.f42.body=some (.seq y0 y')->AWp Tryz.prog y0 (fun e s=>e=.normal∧LeB s 22 1 [(0,.mptr 0 0),(1,.int .i64 cat1),(4,.mptr 1 0),(5,.mptr 2 0)] [bP w2,zSyn,[.bool false]])
  (Go.Abs.start 22 1 [.mptr 0 0,.int .i64 cat1] [[.sl (w2.l.map zKX.c),.int .i64 w2.at_]]):=by
  intro y0 y' hy
  cases hy
  refine st ?_
  simp[bP,zSyn]
 refine wp_seq (wp_mono (hA0 _ _ rfl _ _ _ _ sim0) fun e a1 w1 ⟨g1,s1,h1,h2,h3⟩=>?_)
 subst h2
 obtain⟨g2,sim1⟩:=h1.le (zBi h3)
 have hz1:(22:Nat)=a1.tmps.size:=sim1.size
 show Code.wp _ _ _ _ _
 refine wp_seq (wp_region_list (wpList_defer rfl rfl rfl rfl rfl rfl (by omega) ?_))
 show Code.wp _ _ _ _ _
 generalize hv4:a1.tmps.getD 4 undef=v4
 generalize hv5:a1.tmps.getD 5 undef=v5
 have had:a1.defers=[]:=sim1.defers
 generalize hgS:({g2 with own:=fun p=>match p with|.tmp _=>none|q=>g2.own q}:Gh)=gS
 have hsto:Sto gS [bP w2,zSyn,[.bool false]] w1:=by rw[<-hgS];exact sim1.callee
 have hTG:TG gS w1:=by rw[<-hgS];exact sim1.ext.tg.callee
 have hown: ∀t,gS.own (.tmp t)=none:=fun t=>by rw[<-hgS]
 have himm:gS.imm=g2.imm:=by rw[<-hgS]
 have hσ:gS.σ=g2.σ:=by rw[<-hgS]
 have hp4:Rep gS.imm gS.σ (.mptr 1 0) v4:=by have:=(sim1.tmps 4).1;rw[hv4] at this;rw[himm,hσ];exact this
 have hp5:Rep gS.imm gS.σ (.mptr 2 0) v5:=by have:=(sim1.tmps 5).1;rw[hv5] at this;rw[himm,hσ];exact this
 have sim2:Sim ⟨w1,gS⟩ gS (mkS 22 3 [(0,.mptr 0 0),(1,.int .i64 cat1),(4,.mptr 1 0),(5,.mptr 2 0)] [bP w2,zSyn,[.bool false]])
  {a1.put (some 6) (.func (.func 72) #[] #[v4,v5]) with defers:=[]} w1:={
  ext:=Ext.refl' w1 gS (fun k hk=>hsto.σ_lt hk) hown hTG
  sto:=hsto
  size:=by show 22=(a1.tmps.setIfInBounds 6 _).size;rw[Array.size_setIfInBounds];exact hz1
  tmps:=fun t=>by
   have hr:Rep gS.imm gS.σ (lookD [(0,.mptr 0 0),(1,.int .i64 cat1),(4,.mptr 1 0),(5,.mptr 2 0)] t) ((a1.tmps.setIfInBounds 6 (.func (.func 72) #[] #[v4,v5])).getD t undef):=by
    rw[zDR]
    split
    ·rename_i ht
     obtain⟨rfl,_⟩:=ht
     exact .top _
    ·rw[himm,hσ];exact(sim1.tmps t).1
   refine⟨hr,OwnsBy.of_not ?_⟩
   show(lookD [(0,.mptr 0 0),(1,.int .i64 cat1),(4,.mptr 1 0),(5,.mptr 2 0)] t).owns=false
   simp only[lookD]
   repeat' split
   all_goals rfl
  loans:=fun t p hp=>by cases hp
  defers:=rfl
  base:=by show gS.σ.length<=3;rw[hsto.len];exact Nat.le_refl _}
 refine wp_mono (run_body fuel cat1 w2 r h _ _ _ _ rfl ⟨w1,gS⟩ gS {a1.put (some 6) (.func (.func 72) #[] #[v4,v5]) with defers:={target:=.fn (.func 72) #[v4,v5],args:=#[]}::a1.defers} w1 sim2 rfl) fun e a4 w4 ⟨g4,s4,sim4,hd4,hq⟩=>?_
 have fin: ∀(u u':FrameMode)(x x':List AV)(b b':Bool),u≠.run->EndR s4 r.2.2 x b->leCells x' x'->
  (∀(g:Gh)(w:World)(vals:Array Value),Sto g [bP r.2.2,x,[.bool b]] w->(∀t,g.own (.tmp t)=none)->TG g w->RepL g.imm g.σ [.mptr 1 0,.mptr 2 0] vals->
   CallsD Tryz.prog 72 vals u w fun e u2 w'=> ∃v,e=.returned v∧u2=u'∧Left g w [bP r.2.2,x',[.bool b']] w')->settle u'=.returning->
  (∀(s:AState),s.get 4=.mptr 1 0->s.get 5=.mptr 2 0->s.blocks=[bP r.2.2,x',[.bool b']]->∃c xs,zFp Tryz.prog s Tryz.f42.results.toList=some (c,xs)∧c∧(oneOf xs).normR=.tup [.agg [.int .i64 r.1.Op,.int .i64 r.1.N,.str r.1.S,.sl (r.1.Names.map cS),.sl (r.1.L.map zKZ.c)],.bool r.2.1])->
  Leaves Tryz.prog Tryz.f42 a4.tmps (fun e w'=> ∃g' v,e=.returned v∧Rep g'.imm g'.σ (.tup [.agg [.int .i64 r.1.Op,.int .i64 r.1.N,.str r.1.S,.sl (r.1.Names.map cS),.sl (r.1.L.map zKZ.c)],.bool r.2.1]) v∧Sto g' [[.sl (r.2.2.l.map zKX.c),.int .i64 r.2.2.at_]] w'∧Ext ⟨w0,g⟩ g' w'∧(∀t,g'.own (.tmp t)=none)) a4.defers u w4:=by
  intro u u' x x' b b' hu hend hx5 hcl hset hres
  obtain⟨g5,sim5⟩:=sim4.le (zBi hend)
  have hext:=sim5.ext.σ
  have hk4:Rep g5.imm g5.σ (.mptr 1 0) v4:=by cases hp4 with|mptr _ _ k hk=>exact .mptr _ _ k (hext _ _ hk)
  have hk5:Rep g5.imm g5.σ (.mptr 2 0) v5:=by cases hp5 with|mptr _ _ k hk=>exact .mptr _ _ k (hext _ _ hk)
  have hvals:RepL g5.imm g5.σ [.mptr 1 0,.mptr 2 0] #[v4,v5]:=⟨rfl,fun i y hy=>by
   match i,hy with
   |0,hy=>simp at hy;subst hy;exact hk4
   |1,hy=>simp at hy;subst hy;exact hk5⟩
  rw[hd4,had]
  refine leaves_cons hu (f:=72) (args:=#[v4,v5]) ?_ (CallsD.mono (hcl _ w4 #[v4,v5] sim5.callee (fun _=>rfl) sim5.ext.tg.callee hvals) fun e u2 w5 he=>?_)
  ·have hen:Abs.Enters Tryz.prog 72:=⟨Tryz.f72,Tryz.func72,by rfl,by rfl⟩
   simp[invoke,hen.run]
  obtain⟨v,rfl,rfl,g6,l1,l2,l3⟩:=he
  show Leaves _ _ _ _ [] (settle u2) w5
  rw[hset]
  have sim6:=sim5.after l3 l1 l2
  have key: ∀(S:AState)(gh:Gh),Sim ⟨w1,gS⟩ gh S {a4 with defers:=[]} w5->S.get 4=.mptr 1 0->S.get 5=.mptr 2 0->S.blocks=[bP r.2.2,x',[.bool b']]->
   ∃v',(results Tryz.f42 a4.tmps).run Tryz.prog w5=.ok v' w5∧Rep gh.imm gh.σ (.tup [.agg [.int .i64 r.1.Op,.int .i64 r.1.N,.str r.1.S,.sl (r.1.Names.map cS),.sl (r.1.L.map zKZ.c)],.bool r.2.1]) v':=fun S gh hS q1 q2 q3=>by
   obtain⟨cc,xs,t1,t2,t3⟩:=hres S q1 q2 q3
   obtain⟨v',e1,e2⟩:=results_ok hS (fn:=Tryz.f42) t1 t2
   replace e2:=e2.normR
   rw[t3] at e2
   exact⟨v',e1,e2⟩
  obtain⟨v',e1,e2⟩:=key _ _ sim6 rfl rfl rfl
  refine⟨v',e1,?_⟩
  obtain⟨g7,m1,m2,m3,m4⟩:=left_of' sim6 (bs:=[bP r.2.2,x',[.bool b']]) (by simp[bP,hx5])
  have sim7:=sim1.after m3 m1 (by rw[<-hgS] at m2;exact m2)
  obtain⟨g9,n1,n2,n3,n4⟩:=left_of' sim7 (bs:=[[.sl (r.2.2.l.map zKX.c),.int .i64 r.2.2.at_]]) (by simp[bP])
  refine⟨g9,v',rfl,?_,n1,n2,n3⟩
  rw[n4]
  show Rep g7.imm _ _ _
  rw[m4]
  exact e2.flat rfl
 rcases hq with ⟨rfl,hb,hend⟩|⟨rfl,hx,hb,hend⟩
 ·refine fin .returning .returning _ _ true true (by simp) hend (by simp) (fun g w vals q1 q2 q3 q4=>run1_ret rfl q1 q2 q3 q4) rfl ?_
  intro s q1 q2 q3
  refine⟨True,[.agg [.int .i64 r.1.Op,.int .i64 r.1.N,.str r.1.S,.sl (r.1.Names.map cS),.sl (r.1.L.map zKZ.c)],.bool true],by simp[zFp,zIz,q1,q2,q3],trivial,by simp[hb,oneOf]⟩
 ·refine fin (.panicking (pan1 112)) _ _ _ false false (by simp) hend (by simp[zSyn]) (fun g w vals q1 q2 q3 q4=>run1_pan rfl (by simp[bP]) (by simp[zSyn]) q1 q2 q3 q4) rfl ?_
  intro s q1 q2 q3
  refine⟨True,[.agg zSyn,.bool false],by simp[zFp,zIz,q1,q2,q3,zSyn],trivial,by simp[hb,hx,oneOf,zSyn]⟩
theorem zHg(fuel:Nat)(cat1:Int)(s2:(List UInt8))(r:zKZ×zKY×Int)(h:zAm fuel cat1 s2=some r):Pure Tryz.prog 23 [iI cat1,.str s2] (.tup [.agg (zKZ.d r.1),.agg [iI r.2.1.Line,iI r.2.1.Column],iI r.2.2]):=by
 rw[zAm] at h
 refine zAS Tryz.func23 (by rfl) (by rfl) (by simp) (by simp) (by simp)<|cutA 64 0 [(0,iI cat1),(1,.str s2),(4,pT 0),(5,pT 1)] [zz0,zz3] ?_
 obtain⟨v3,q4,h⟩:=bs h
 refine cut 64 0 [(0,iI cat1),(4,pT 0),(5,pT 1),(7,.sl (v3.1.map zKX.c)),(8,pT 2),(9,iI v3.2.2)] [zz0,zz3,[iI v3.2.1.Line,iI v3.2.1.Column]] ?_ ?_
 ·refine st ?_
  simp
  have r35:=zJA fuel s2 v3 q4
  try simp at r35
  refine cP r35 ?_
  simp
 refine zAF<|cutA 64 0 [(0,iI cat1),(4,pT 0),(5,pT 1),(7,.sl (v3.1.map zKX.c)),(8,pT 2),(9,iI v3.2.2),(20,.bool (!(eqI v3.2.2 0)))] [zz0,zz3,[iI v3.2.1.Line,iI v3.2.1.Column]] ?_
 rcases sp h with ⟨g5,h⟩|⟨g5,h⟩
 ·have g6:=notT g5
  have c7:=eqF g6
  refine zBk rfl g5<|cut 64 0 [(4,pT 0),(5,pT 1),(6,iI v3.2.2)] [zz0,[iI v3.2.1.Line,iI v3.2.1.Column],[iI v3.2.1.Line,iI v3.2.1.Column]] ?_ ?_
  ·refine zBd [0,1] [5] mixed (n:=64) rfl (by decide) (by decide) ?_
   simp
  refine zAA<|zAB ?_
  cases h
  simp
 have g8:=notF g5
 have c9:=eqT g8
 refine condF rfl g5<|zAC<|zAM<|cutA 64 0 [(0,iI cat1),(4,pT 0),(5,pT 1),(10,pT 3)] [zz0,zz3,[iI v3.2.1.Line,iI v3.2.1.Column],[.sl (v3.1.map zKX.c),iI 0]] ?_
 obtain⟨v10,q11,h⟩:=bs h
 refine cut 64 0 [(0,iI cat1),(4,pT 0),(5,pT 1),(10,pT 3),(11,pT 4),(12,.bool v10.2.1)] [zz0,zz3,[iI v3.2.1.Line,iI v3.2.1.Column],[.sl (v10.2.2.l.map zKX.c),iI v10.2.2.at_],(zKZ.d v10.1)] ?_ ?_
 ·refine st ?_
  simp
  have r34:=(zF9 fuel cat1 (zKU.mk v3.1 0) v10 q11).frame [3] [zz0,zz3,[iI v3.2.1.Line,iI v3.2.1.Column],[.sl (v3.1.map zKX.c),iI 0]] (by simp)
  try simp at r34
  refine zAJ r34 (by simp) rfl ?_
  simp
 refine zAF<|zAP ?_
 obtain⟨b17,q18,h⟩:=bs h
 refine cut 64 0 [(0,iI cat1),(4,pT 0),(5,pT 1),(10,pT 3),(11,pT 4),(33,.bool b17)] [zz0,zz3,[iI v3.2.1.Line,iI v3.2.1.Column],[.sl (v10.2.2.l.map zKX.c),iI v10.2.2.at_],(zKZ.d v10.1)] ?_ ?_
 ·rcases sp q18 with ⟨g12,q18⟩|⟨g12,q18⟩
  ·have g13:=notT g12
   obtain rfl:=oi q18
   refine st ?_
   simp[g12]
  have g14:=notF g12
  obtain⟨v15,q16,q18⟩:=bs q18
  obtain rfl:=oi q18
  refine st ?_
  simp[g12]
  have r33:=(zAW 8 v10.2.2 v15 q16).frame [3] [zz0,zz3,[iI v3.2.1.Line,iI v3.2.1.Column],[.sl (v10.2.2.l.map zKX.c),iI v10.2.2.at_],(zKZ.d v10.1)] (by simp)
  try simp[g12] at r33
  refine zAJ r33 (by simp[g12]) rfl ?_
  simp[g12]
 refine spc h rfl (fun g19 h=>?_) fun g19 h=>?_
 ·obtain⟨x20,q21,h⟩:=bs h
  obtain⟨q22,q23⟩:=idx_ok q21
  obtain⟨v24,q25,h⟩:=bs h
  refine cut 64 0 [(4,pT 0),(5,pT 1),(6,iI v24)] [zz0,[iI x20.At.Line,iI x20.At.Column],[iI v3.2.1.Line,iI v3.2.1.Column],[.sl (v10.2.2.l.map zKX.c),iI v10.2.2.at_],(zKZ.d v10.1)] ?_ ?_
  ·refine zJE mixed 15 (fun L s=> ∃(pos:Nat->Nat) (bl:List (List AV)),NPos [] L pos bl∧s.n=64∧s.base=0∧(∀t,s.loans t=none)∧s.blocks=[(if L 14=true then [iI 0,iI 0,.str ([]:List UInt8),.nsl,.nsl] else zz0),zz3,[iI v3.2.1.Line,iI v3.2.1.Column],[.sl (v10.2.2.l.map zKX.c),iI v10.2.2.at_],(zKZ.d v10.1)]++bl∧s.get 0=iI cat1∧s.get 4=pT 0∧s.get 5=pT 1∧s.get 10=pT 3∧s.get 11=pT 4∧s.get 33=.bool b17∧(L 0=true->s.get 41=.agg [iI 0,iI 0,.str ([]:List UInt8),.nsl,.nsl])∧(L 1=true->s.get 42=pT 3)∧(L 2=true->s.get 43=pT 3)∧(L 3=true->s.get 44=pT 3)∧(L 4=true->s.get 45=.sl (v10.2.2.l.map zKX.c))∧(L 5=true->s.get 46=pT 3)∧(L 6=true->s.get 47=pT 3)∧(L 7=true->s.get 48=.mptr 3 1)∧(L 8=true->s.get 49=iI v10.2.2.at_)∧(L 9=true->s.get 50=.cptr [iI x20.Kind,.str x20.Text,iI x20.At.Line,iI x20.At.Column])∧(L 10=true->s.get 51=.cptr [iI x20.At.Line,iI x20.At.Column])∧(L 11=true->s.get 52=.agg [iI x20.At.Line,iI x20.At.Column])∧(L 12=true->s.get 53=pT 3)∧(L 13=true->s.get 54=iI v24)∧(L 14=true->L 13=true)) (by decide) ⟨fun _=>0,[],NPos.start _ _,by simp⟩ ?_ ?_
   ·refine⟨?_,?_,?_,?_,?_,?_,?_,?_,?_,?_,?_,?_,?_,?_,?_,trivial⟩
    all_goals
     intro L s hL he hI
     obtain⟨pos,bl,hN,fn1,fn2,fn3,fn4,fw0,fw4,fw5,fw10,fw11,fw33,fv0,fv1,fv2,fv3,fv4,fv5,fv6,fv7,fv8,fv9,fv10,fv11,fv12,fv13,fc14⟩:=hI
     try simp[q22,q23] at fv0 fv1 fv2 fv3 fv4 fv5 fv6 fv7 fv8 fv9 fv10 fv11 fv12 fv13
    refine AStep.mono ?_ fun s' h=>⟨_,_,hN.skip (by simp),h⟩
    rotate_left
    refine AStep.mono ?_ fun s' h=>⟨_,_,hN.skip (by simp),h⟩
    rotate_left
    replace fv1:=fv1 ((zq8 he) 1 (by decide))
    refine AStep.mono ?_ fun s' h=>⟨_,_,hN.skip (by simp),h⟩
    rotate_left
    replace fv2:=fv2 ((zq8 he) 2 (by decide))
    refine AStep.mono ?_ fun s' h=>⟨_,_,hN.skip (by simp),h⟩
    rotate_left
    replace fv3:=fv3 ((zq8 he) 3 (by decide))
    refine AStep.mono ?_ fun s' h=>⟨_,_,hN.skip (by simp),h⟩
    rotate_left
    refine AStep.mono ?_ fun s' h=>⟨_,_,hN.skip (by simp),h⟩
    rotate_left
    replace fv5:=fv5 ((zq8 he) 5 (by decide))
    refine AStep.mono ?_ fun s' h=>⟨_,_,hN.skip (by simp),h⟩
    rotate_left
    replace fv6:=fv6 ((zq8 he) 6 (by decide))
    refine AStep.mono ?_ fun s' h=>⟨_,_,hN.skip (by simp),h⟩
    rotate_left
    replace fv7:=fv7 ((zq8 he) 7 (by decide))
    refine AStep.mono ?_ fun s' h=>⟨_,_,hN.skip (by simp),h⟩
    rotate_left
    replace fv4:=fv4 ((zq8 he) 4 (by decide))
    replace fv8:=fv8 ((zq8 he) 8 (by decide))
    refine AStep.mono ?_ fun s' h=>⟨_,_,hN.skip (by simp),h⟩
    rotate_left
    replace fv9:=fv9 ((zq8 he) 9 (by decide))
    refine AStep.mono ?_ fun s' h=>⟨_,_,hN.skip (by simp),h⟩
    rotate_left
    replace fv10:=fv10 ((zq8 he) 10 (by decide))
    refine AStep.mono ?_ fun s' h=>⟨_,_,hN.skip (by simp),h⟩
    rotate_left
    refine AStep.mono ?_ fun s' h=>⟨_,_,hN.skip (by simp),h⟩
    rotate_left
    replace fv12:=fv12 ((zq8 he) 12 (by decide))
    have hL:L 13=false:=hL
    have fh14:L 14=false:=by cases hh:L 14 with|false=>rfl|true=>have:=fc14 hh;simp[hL] at this
    obtain rfl:bl=[]:=List.eq_nil_of_length_eq_zero (by simpa using hN.len)
    refine AStep.mono ?_ fun s' h=>⟨_,_,hN.skip (by simp),h⟩
    simp[fn1,fn2,fn3,fn4,fw0,fw4,fw5,fw10,fw11,fw33,fv0,fv1,fv2,fv3,fv4,fv5,fv6,fv7,fv8,fv9,fv10,fv11,fv12,fv13,q22,q23,fh14,hL]
    have r26:=(zFT v10.2.2 v24 q25).frame [3] [zz0,zz3,[iI v3.2.1.Line,iI v3.2.1.Column],[.sl (v10.2.2.l.map zKX.c),iI v10.2.2.at_],(zKZ.d v10.1)] (by simp)
    try simp[q22,q23] at r26
    refine zAJ r26 (by simp[fn1,fn2,fn3,fn4,fw0,fw4,fw5,fw10,fw11,fw33,fv0,fv1,fv2,fv3,fv4,fv5,fv6,fv7,fv8,fv9,fv10,fv11,fv12,fv13,q22,q23,fh14,hL]) rfl ?_
    simp[fn1,fn2,fn3,fn4,fw0,fw4,fw5,fw10,fw11,fw33,fv0,fv1,fv2,fv3,fv4,fv5,fv6,fv7,fv8,fv9,fv10,fv11,fv12,fv13,q22,q23,fh14,hL]
    rotate_left
    replace fv0:=fv0 ((zq8 he) 0 (by decide))
    replace fv13:=fv13 ((zq8 he) 13 (by decide))
    have hL:L 14=false:=hL
    refine AStep.mono ?_ fun s' h=>⟨_,_,hN.skip (by simp),h⟩
    simp[fn1,fn2,fn3,fn4,fw0,fw4,fw5,fw10,fw11,fw33,fv0,fv1,fv2,fv3,fv4,fv5,fv6,fv7,fv8,fv9,fv10,fv11,fv12,fv13,q22,q23,hL]
    rotate_left
    all_goals try simp[fn1,fn2,fn3,fn4,fw0,fw4,fw5,fw10,fw11,fw33,fv0,fv1,fv2,fv3,fv4,fv5,fv6,fv7,fv8,fv9,fv10,fv11,fv12,fv13,q22,q23]
    all_goals repeat' (first|exact fv0|exact fv1|exact fv2|exact fv3|exact fv4|exact fv5|exact fv6|exact fv7|exact fv8|exact fv9|exact fv10|exact fv11|exact fv12|exact fv13|exact fc14|exact fun h=>absurd (fc14 h) (by simp[hL])|exact(zq8 he) 0 (by decide)|exact(zq8 he) 1 (by decide)|exact(zq8 he) 2 (by decide)|exact(zq8 he) 3 (by decide)|exact(zq8 he) 4 (by decide)|exact(zq8 he) 5 (by decide)|exact(zq8 he) 6 (by decide)|exact(zq8 he) 7 (by decide)|exact(zq8 he) 8 (by decide)|exact(zq8 he) 9 (by decide)|exact(zq8 he) 10 (by decide)|exact(zq8 he) 12 (by decide)|exact(zq8 he) 13 (by decide)|refine⟨?_,?_⟩)
   ·rintro L s hall ⟨pos,bl,hN,fn1,fn2,fn3,fn4,fw0,fw4,fw5,fw10,fw11,fw33,fv0,fv1,fv2,fv3,fv4,fv5,fv6,fv7,fv8,fv9,fv10,fv11,fv12,fv13,fc14⟩
    try simp[q22,q23] at fv0 fv1 fv2 fv3 fv4 fv5 fv6 fv7 fv8 fv9 fv10 fv11 fv12 fv13
    replace fv0:=fv0 (hall 0 (by decide))
    replace fv1:=fv1 (hall 1 (by decide))
    replace fv2:=fv2 (hall 2 (by decide))
    replace fv3:=fv3 (hall 3 (by decide))
    replace fv4:=fv4 (hall 4 (by decide))
    replace fv5:=fv5 (hall 5 (by decide))
    replace fv6:=fv6 (hall 6 (by decide))
    replace fv7:=fv7 (hall 7 (by decide))
    replace fv8:=fv8 (hall 8 (by decide))
    replace fv9:=fv9 (hall 9 (by decide))
    replace fv10:=fv10 (hall 10 (by decide))
    replace fv11:=fv11 (hall 11 (by decide))
    replace fv12:=fv12 (hall 12 (by decide))
    replace fv13:=fv13 (hall 13 (by decide))
    simp only[hall 14 (by decide),if_true] at fn4
    obtain⟨f,hf,hk,hg⟩:=hN.ghost (by simp) (by simp) fn4 (by simp[fn2])
    simp at hf
    refine⟨_,hg,?_⟩
    simp[AV.ren,AV.renL,hf,fn1,fn2,fn3,fn4,fw0,fw4,fw5,fw10,fw11,fw33,fv0,fv1,fv2,fv3,fv4,fv5,fv6,fv7,fv8,fv9,fv10,fv11,fv12,fv13,q22,q23]
  refine zAA<|zAD<|zAB ?_
  cases h
  simp
 obtain⟨v27,q28,h⟩:=bs h
 refine cut 64 0 [(4,pT 0),(5,pT 1),(11,pT 4),(55,.bool (!v27))] [zz0,zz3,[iI v3.2.1.Line,iI v3.2.1.Column],[.sl (v10.2.2.l.map zKX.c),iI v10.2.2.at_],(zKZ.d v10.1)] ?_ ?_
 ·refine st ?_
  simp
  have r32:=zDV fuel cat1 v10.1 v27 q28
  try simp at r32
  refine cP r32 ?_
  simp
 refine spc h rfl (fun g29 h=>?_) fun g29 h=>?_
 ·have g30:=notT g29
  refine cutA 64 0 [(4,pT 0),(5,pT 1),(6,iI 5)] [zz0,zz3,[iI v3.2.1.Line,iI v3.2.1.Column],[.sl (v10.2.2.l.map zKX.c),iI v10.2.2.at_],(zKZ.d v10.1)]<|zAA<|zAD<|zAB ?_
  cases h
  simp
 have g31:=notF g29
 refine zAC<|zDZ<|zAM<|cutA 64 0 [(4,pT 0),(5,pT 1),(6,iI 0)] [(zKZ.d v10.1),zz3,[iI v3.2.1.Line,iI v3.2.1.Column],[.sl (v10.2.2.l.map zKX.c),iI v10.2.2.at_],(zKZ.d v10.1)]<|zAA ?_
 cases h
 simp
theorem zCQ(fuel:Nat)(s1:(List UInt8))(r:zKZ×zKY×Int)(h:zBX fuel s1=some r):Pure Tryz.prog 7 [.str s1] (.tup [.agg (zKZ.d r.1),.agg [iI r.2.1.Line,iI r.2.1.Column],iI r.2.2]):=by
 rw[zBX] at h
 refine zAS Tryz.func7 (by rfl) (by rfl) (by simp) (by simp) (by simp)<|cutA 10 0 [(0,.str s1),(2,pT 0),(3,pT 1)] [zz0,zz3] ?_
 obtain⟨v2,q3,h⟩:=bs h
 refine cut 10 0 [(2,pT 0),(3,pT 1),(4,iI v2.2.2)] [(zKZ.d v2.1),[iI v2.2.1.Line,iI v2.2.1.Column]] ?_ ?_
 ·refine st ?_
  simp
  have r4:=zHg fuel 3 s1 v2 q3
  try simp at r4
  refine cP r4 ?_
  simp
 refine zAA ?_
 cases h
 simp
theorem zKD(fuel:Nat)(r:Bool)(h:zFc fuel=some r):Pure Tryz.prog 6 [] (.bool r):=by
 rw[zFc] at h
 refine zAS Tryz.func6 (by rfl) (by rfl) (by simp) (by simp) (by simp)<|cutA 77 0 [] [] ?_
 obtain⟨v1,q2,h⟩:=bs h
 refine cut 77 0 [(1,pT 0),(3,iI v1.2.2)] [(zKZ.d v1.1),[iI v1.2.1.Line,iI v1.2.1.Column]] ?_ ?_
 ·refine st ?_
  simp
  have r38:=zCQ fuel [49,32,43,32,50,32,42,32,120] v1 q2
  try simp at r38
  refine cP r38 ?_
  simp
 obtain⟨v3,q4,h⟩:=bs h
 refine cut 77 0 [(1,pT 0),(3,iI v1.2.2),(5,pT 3),(6,iI v3.2.2)] [(zKZ.d v1.1),[iI v1.2.1.Line,iI v1.2.1.Column],(zKZ.d v3.1),[iI v3.2.1.Line,iI v3.2.1.Column]] ?_ ?_
 ·refine st ?_
  simp
  have r37:=zCQ fuel [97,32,61,32,98,32,61,32,99] v3 q4
  try simp at r37
  refine cP r37 ?_
  simp
 obtain⟨v5,q6,h⟩:=bs h
 refine cut 77 0 [(1,pT 0),(3,iI v1.2.2),(5,pT 3),(6,iI v3.2.2),(8,pT 5),(9,iI v5.2.2)] [(zKZ.d v1.1),[iI v1.2.1.Line,iI v1.2.1.Column],(zKZ.d v3.1),[iI v3.2.1.Line,iI v3.2.1.Column],(zKZ.d v5.1),[iI v5.2.1.Line,iI v5.2.1.Column]] ?_ ?_
 ·refine st ?_
  simp
  have r36:=zCQ fuel [105,102,32,97,32,116,104,101,110,32,98] v5 q6
  try simp at r36
  refine cP r36 ?_
  simp
 obtain⟨b34,q35,h⟩:=bs h
 refine cut 77 0 [(0,.bool b34)] [(zKZ.d v1.1),[iI v1.2.1.Line,iI v1.2.1.Column],(zKZ.d v3.1),[iI v3.2.1.Line,iI v3.2.1.Column],(zKZ.d v5.1),[iI v5.2.1.Line,iI v5.2.1.Column]] ?_ ?_
 ·rcases sp q35 with ⟨g7,q35⟩|⟨g7,q35⟩
  ·have c8:=eqT g7
   rcases sp q35 with ⟨g9,q35⟩|⟨g9,q35⟩
   ·have c10:=eqT g9
    rcases sp q35 with ⟨g11,q35⟩|⟨g11,q35⟩
    ·have c12:=eqT g11
     rcases sp q35 with ⟨g13,q35⟩|⟨g13,q35⟩
     ·have c14:=eqT g13
      obtain⟨x15,q16,q35⟩:=bs q35
      rcases sp q35 with ⟨g17,q35⟩|⟨g17,q35⟩
      ·have c18:=eqT g17
       rcases sp q35 with ⟨g19,q35⟩|⟨g19,q35⟩
       ·have c20:=eqT g19
        rcases sp q35 with ⟨g21,q35⟩|⟨g21,q35⟩
        ·have c22:=eqT g21
         rcases sp q35 with ⟨g23,q35⟩|⟨g23,q35⟩
         ·rcases sp q35 with ⟨g24,q35⟩|⟨g24,q35⟩
          ·have c25:=eqT g24
           obtain rfl:=oi q35
           refine st ?_
           simp[g7,g9,g11,g13,q16,g17,g19,g21,g23,g24]
          have c26:=eqF g24
          obtain rfl:=oi q35
          refine st ?_
          simp[g7,g9,g11,g13,q16,g17,g19,g21,g23,g24]
         obtain rfl:=oi q35
         refine st ?_
         simp[g7,g9,g11,g13,q16,g17,g19,g21,g23]
        have c27:=eqF g21
        obtain rfl:=oi q35
        refine st ?_
        simp[g7,g9,g11,g13,q16,g17,g19,g21]
       have c28:=eqF g19
       obtain rfl:=oi q35
       refine st ?_
       simp[g7,g9,g11,g13,q16,g17,g19]
      have c29:=eqF g17
      obtain rfl:=oi q35
      refine st ?_
      simp[g7,g9,g11,g13,q16,g17]
     have c30:=eqF g13
     obtain rfl:=oi q35
     refine st ?_
     simp[g7,g9,g11,g13]
    have c31:=eqF g11
    obtain rfl:=oi q35
    refine st ?_
    simp[g7,g9,g11]
   have c32:=eqF g9
   obtain rfl:=oi q35
   refine st ?_
   simp[g7,g9]
  have c33:=eqF g7
  obtain rfl:=oi q35
  refine st ?_
  simp[g7]
 refine zAA ?_
 cases h
 simp
theorem zJ3(fuel:Nat):(∀(a1:zKZ)(b2:zKZ)(r:Bool)(_:zCg fuel a1 b2=some r),Pure Tryz.prog 13 [.agg a1.d,.agg b2.d] (.bool r)):=by
 induction fuel with
 |zero=>intro a1 b2 r h;rw[zCg] at h;cases h
 |succ fuel zKG=>
  intro a1 b2 r h
  rw[zCg] at h
  refine zAS Tryz.func13 (by rfl) (by rfl) (by simp) (by simp) (by simp)<|cutA 81 0 [(2,pT 0),(3,pT 1)] [a1.d,b2.d]<|zAF<|cut 81 0 [(2,pT 0),(3,pT 1),(43,.bool ((!(eqI a1.Op b2.Op))||((!(eqI a1.N b2.N))||((!(eqS a1.S b2.S))||((!(eqI a1.Names.length b2.Names.length))||(!(eqI a1.L.length b2.L.length)))))))] [a1.d,b2.d] ?_ ?_
  ·rcases tf (!(eqI a1.Op b2.Op)) with g3|g3
   ·have g4:=notT g3
    have c5:=eqF g4
    refine st ?_
    simp[g3]
   have g6:=notF g3
   have c7:=eqT g6
   rcases tf (!(eqI a1.N b2.N)) with g8|g8
   ·have g9:=notT g8
    have c10:=eqF g9
    refine st ?_
    simp[g3,g8]
   have g11:=notF g8
   have c12:=eqT g11
   rcases tf (!(eqS a1.S b2.S)) with g13|g13
   ·have g14:=notT g13
    refine st ?_
    simp[g3,g8,g13]
   have g15:=notF g13
   rcases tf (!(eqI a1.Names.length b2.Names.length)) with g16|g16
   ·have g17:=notT g16
    have c18:=eqF g17
    refine st ?_
    simp[g3,g8,g13,g16]
   have g19:=notF g16
   have c20:=eqT g19
   refine st ?_
   simp[g3,g8,g13,g16]
  rcases sp h with ⟨g21,h⟩|⟨g21,h⟩
  ·refine zBk rfl g21<|cutA 81 0 [(4,.bool false)] [a1.d,b2.d]<|zAA<|zAB ?_
   cases h
   simp
  obtain⟨g22,g23⟩:=orF g21
  have g24:=notF g22
  have c25:=eqT g24
  obtain⟨g26,g27⟩:=orF g23
  have g28:=notF g26
  have c29:=eqT g28
  obtain⟨g30,g31⟩:=orF g27
  have g32:=notF g30
  obtain⟨g33,g34⟩:=orF g31
  have g35:=notF g33
  have c36:=eqT g35
  have g37:=notF g34
  have c38:=eqT g37
  refine condF rfl g21<|zAC<|zAM<|zAF<|cutA 81 0 [(2,pT 0),(3,pT 1),(5,iI 0)] [a1.d,b2.d]<|zAP ?_
  obtain⟨o41,l42,h⟩:=bs h
  refine zCm (fun p:Nat×Nat=>mkS 81 0 [(2,pT 0),(3,pT 1),(5,iI p.2)] [a1.d,b2.d]) (fun p=>zCx a1 b2 p.1 p.2=some o41) (fun p=>p.1) (fuel,0) l42 (zBi (by simp)) ?_
  rintro⟨k43,i39⟩ l42
  try dsimp only at l42 ⊢
  cases k43 with
  |zero=>
   rw[zCx] at l42;cases l42
  |succ k44=>
   rw[zCx] at l42
   refine zAF<|cutA 81 0 [(2,pT 0),(3,pT 1),(5,iI i39),(48,.bool (ltI i39 a1.Names.length))] [a1.d,b2.d]<|spc l42 rfl (fun g45 l42=>?_) fun g45 l42=>?_
   ·have c46:=ltT g45
    refine zHN 0 3 rfl rfl rfl fun f47=>?_
    rw[zq4] at f47
    refine zAC<|zAM<|zAF<|zAP ?_
    obtain⟨x48,q49,l42⟩:=bs l42
    obtain⟨x50,q51,l42⟩:=bs l42
    refine cut 81 0 [(2,pT 0),(3,pT 1),(5,iI i39),(61,.bool (!(eqS x48 x50)))] [a1.d,b2.d] ?_ ?_
    ·refine zBv [] mixed (n:=81) rfl (by decide) ?_
     simp[q49,q51]
    refine spc l42 rfl (fun g52 l42=>?_) fun g52 l42=>?_
    ·have g53:=notT g52
     refine cutA 81 0 [(4,.bool false)] [a1.d,b2.d]<|zAA<|zAD<|zAB ?_
     replace h:=retL l42 h
     refine zAB<|zAD<|zAB ?_
     cases h
     simp
    have g54:=notF g52
    refine zAC<|zDZ<|zAM ?_
    have q55:Rng .i64 (((i39:Nat):Int)+1):=by simp only[Rng,inR];omega
    try simp at q55
    refine last 81 0 [(2,pT 0),(3,pT 1),(5,iI ((i39+1:Nat):Int))] [a1.d,b2.d] (st (by simp[q55])) fun zz hs=>?_
    exact⟨(k44,i39+1),hs,l42,by simp⟩
   have c56:=ltF g45
   refine zHN 0 3 rfl rfl rfl fun f57=>?_
   rw[zq4] at f57
   refine zB6<|zAi ?_
   rcases o41 with o41|o40
   ·cases l42
   have q58:=Sum.inr.inj (zqa l42)
   replace h:=zCL h
   refine zAi<|zB5<|zDG (t:=mkS 81 0 [(2,pT 0),(3,pT 1)] [a1.d,b2.d]) ?_ (zBi (by simp))
   refine zAF<|cutA 81 0 [(2,pT 0),(3,pT 1),(6,iI 0)] [a1.d,b2.d]<|zAP ?_
   obtain⟨o61,l62,h⟩:=bs h
   refine zCm (fun p:Nat×Nat=>mkS 81 0 [(2,pT 0),(3,pT 1),(6,iI p.2)] [a1.d,b2.d]) (fun p=>zCw (zCg fuel) a1 b2 p.1 p.2=some o61) (fun p=>p.1) (fuel,0) l62 (zBi (by simp)) ?_
   rintro⟨k63,i59⟩ l62
   try dsimp only at l62 ⊢
   cases k63 with
   |zero=>
    rw[zCw] at l62;cases l62
   |succ k64=>
    rw[zCw] at l62
    refine zAF<|cutA 81 0 [(2,pT 0),(3,pT 1),(6,iI i59),(66,.bool (ltI i59 a1.L.length))] [a1.d,b2.d]<|spc l62 rfl (fun g65 l62=>?_) fun g65 l62=>?_
    ·have c66:=ltT g65
     refine zHN 0 4 rfl rfl rfl fun f67=>?_
     rw[zq4] at f67
     refine zAC<|zAM<|zAF<|zAP ?_
     obtain⟨x68,q69,l62⟩:=bs l62
     obtain⟨x70,q71,l62⟩:=bs l62
     obtain⟨v72,q73,l62⟩:=bs l62
     refine cut 81 0 [(2,pT 0),(3,pT 1),(6,iI i59),(80,.bool (!v72))] [a1.d,b2.d] ?_ ?_
     ·refine zBv [] mixed (n:=81) rfl (by decide) ?_
      simp[q69,q71]
      have r78:=zKG x68 x70 v72 q73
      try simp[q69,q71] at r78
      refine callD r78 (by simp) rfl ?_
      simp[q69,q71]
     refine spc l62 rfl (fun g74 l62=>?_) fun g74 l62=>?_
     ·have g75:=notT g74
      refine cutA 81 0 [(4,.bool false)] [a1.d,b2.d]<|zAA<|zAD<|zAB ?_
      replace h:=retL l62 h
      refine zAB<|zAD<|zAB ?_
      cases h
      simp
     have g76:=notF g74
     refine zAC<|zDZ<|zAM ?_
     have q77:Rng .i64 (((i59:Nat):Int)+1):=by simp only[Rng,inR];omega
     try simp at q77
     refine last 81 0 [(2,pT 0),(3,pT 1),(6,iI ((i59+1:Nat):Int))] [a1.d,b2.d] (st (by simp[q77])) fun zz hs=>?_
     exact⟨(k64,i59+1),hs,l62,by simp⟩
    have c79:=ltF g65
    refine zHN 0 4 rfl rfl rfl fun f80=>?_
    rw[zq4] at f80
    refine zB6<|zAi ?_
    rcases o61 with o61|o60
    ·cases l62
    have q81:=Sum.inr.inj (zqa l62)
    replace h:=zCL h
    refine zAi<|zB5<|zDG (t:=mkS 81 0 [] [a1.d,b2.d]) ?_ (zBi (by simp))
    refine cutA 81 0 [(4,.bool true)] [a1.d,b2.d]<|zAA ?_
    cases h
    simp
theorem zCd(fuel:Nat)(t1:zKZ)(r:Bool)(h:zCt fuel t1=some r):Pure Tryz.prog 12 [.agg t1.d] (.bool r):=by
 rw[zCt] at h
 refine zAS Tryz.func12 (by rfl) (by rfl) (by simp) (by simp) (by simp)<|cutA 6 0 [(1,pT 0)] [t1.d] ?_
 obtain⟨v2,q3,h⟩:=bs h
 refine cut 6 0 [(2,.bool v2)] [t1.d] ?_ ?_
 ·refine st ?_
  simp
  have r4:=zJ3 fuel t1 (zKZ.mk 0 0 ([]:List UInt8) ([]:List (List UInt8)) ([]:List zKZ)) v2 q3
  try simp at r4
  refine cP r4 ?_
  simp
 refine zAA ?_
 cases h
 simp
theorem zF2(fuel:Nat)(which1:UInt8)(n2:Int)(r:Bool)(h:zCo fuel which1 n2=some r):Pure Tryz.prog 5 [.int .u8 which1.toNat,.int .u16 n2] (.bool r):=by
 rw[zCo] at h
 refine zAS Tryz.func5 (by rfl) (by rfl) (by simp) (by simp) (by simp)<|cutA 78 0 [(0,.int .u8 which1.toNat),(1,.int .u16 n2)] []<|zAF ?_
 obtain⟨v3,q4,h⟩:=bs h
 refine cut 78 0 [(0,.int .u8 which1.toNat),(1,.int .u16 n2),(11,.bool (!v3))] [] ?_ ?_
 ·refine st ?_
  simp
  have r243:=zKD fuel v3 q4
  try simp at r243
  refine cP r243 ?_
  simp
 refine spc h rfl (fun g5 h=>?_) fun g5 h=>?_
 ·have g6:=notT g5
  refine cutA 78 0 [(4,.bool false)] []<|zAA<|zAB ?_
  cases h
  simp
 have g7:=notF g5
 refine zAC<|zAM ?_
 obtain⟨n8,q9,h⟩:=bs h
 obtain⟨q10,q11⟩:=zD5 q9
 try simp at q10
 try simp at q11
 refine cut 78 0 [(0,.int .u8 which1.toNat),(1,.int .u16 n8)] [] (st (by simp[q10,q11]))<|cutA 78 0 [(0,.int .u8 which1.toNat),(1,.int .u16 n8),(5,.str ([]:List UInt8))] []<|cutA 78 0 [(0,.int .u8 which1.toNat),(1,.int .u16 n8),(5,.str ([]:List UInt8)),(6,iI 500)] []<|zAF ?_
 have q12:Rng .u8 (Int.tmod (which1.toNat:Int) 5):=by rw[Int.tmod_eq_emod_of_nonneg (by omega)];simp only[Rng,inR];omega
 have q13:0<=Int.tmod (which1.toNat:Int) 5∧Int.tmod (which1.toNat:Int) 5<=4:=by rw[Int.tmod_eq_emod_of_nonneg (by omega)];omega
 refine cut 78 0 [(1,.int .u16 n8),(5,.str ([]:List UInt8)),(6,iI 500),(15,.int .u8 (Int.tmod (which1.toNat:Int) 5))] [] (st (by simp[q12]))<|zAP<|cutA 78 0 [(1,.int .u16 n8),(5,.str ([]:List UInt8)),(6,iI 500),(15,.int .u8 (Int.tmod (which1.toNat:Int) 5)),(16,.bool (eqI (Int.tmod (which1.toNat:Int) 5) 0))] []<|spc h rfl (fun g14 h=>?_) fun g14 h=>?_
 ·have c15:=eqT g14
  obtain⟨n16,q17,h⟩:=bs h
  obtain⟨q18,q19⟩:=zD5 q17
  try simp at q18
  try simp at q19
  try rw[q19] at q10
  obtain⟨v20,q21,h⟩:=bs h
  obtain⟨s22,q23,h⟩:=bs h
  obtain⟨q24,q25⟩:=cat_ok q23
  try simp at q24
  try simp at q25
  obtain⟨s26,q27,h⟩:=bs h
  obtain⟨q28,q29⟩:=cat_ok q27
  try simp at q28
  try simp at q29
  refine last 78 0 [(1,.int .u16 n8),(5,.str s26),(6,iI 8)] [] ?_ fun zz hs=>?_
  ·refine st ?_
   simp[q18,q19,q24,q25,q28,q29]
   have r54:=zDQ [120,44,32] n16 v20 q21
   try simp[q18,q19,q24,q25,q28,q29] at r54
   refine cP r54 ?_
   simp[q18,q19,q24,q25,q28,q29]
  refine zDZ<|zDG ?_ hs
  obtain⟨v30,q31,h⟩:=bs h
  refine cut 78 0 [(1,.int .u16 n8),(6,iI 8),(7,pT 0),(8,pT 1),(9,iI v30.2.2)] [(zKZ.d v30.1),[iI v30.2.1.Line,iI v30.2.1.Column]] ?_ ?_
  ·refine st ?_
   simp
   have r53:=zCQ fuel s26 v30 q31
   try simp at r53
   refine cP r53 ?_
   simp
  refine zAF<|cut 78 0 [(7,pT 0),(8,pT 1),(9,iI v30.2.2),(60,.bool (leI n16 8))] [(zKZ.d v30.1),[iI v30.2.1.Line,iI v30.2.1.Column]] (st (by simp[q18,q19]))<|spc h rfl (fun g32 h=>?_) fun g32 h=>?_
  ·have c33:=leT g32
   obtain⟨b39,q40,h⟩:=bs h
   refine cut 78 0 [(4,.bool b39)] [(zKZ.d v30.1),[iI v30.2.1.Line,iI v30.2.1.Column]] ?_ ?_
   ·rcases sp q40 with ⟨g34,q40⟩|⟨g34,q40⟩
    ·have c35:=eqT g34
     obtain⟨v36,q37,q40⟩:=bs q40
     obtain rfl:=oi q40
     refine st ?_
     simp[g34]
     have r41:=zDV fuel 3 v30.1 v36 q37
     try simp[g34] at r41
     refine cP r41 ?_
     simp[g34]
    have c38:=eqF g34
    obtain rfl:=oi q40
    refine st ?_
    simp[g34]
   refine zAA<|zAB ?_
   cases h
   simp
  have c42:=leF g32
  refine zAC<|zAM ?_
  obtain⟨b49,q50,h⟩:=bs h
  refine cut 78 0 [(4,.bool b49)] [(zKZ.d v30.1),[iI v30.2.1.Line,iI v30.2.1.Column]] ?_ ?_
  ·rcases sp q50 with ⟨g43,q50⟩|⟨g43,q50⟩
   ·have c44:=eqT g43
    obtain⟨v45,q46,q50⟩:=bs q50
    rcases sp q50 with ⟨g47,q50⟩|⟨g47,q50⟩
    ·obtain rfl:=oi q50
     refine st ?_
     simp[g43,g47]
     have r51:=zCd fuel v30.1 v45 q46
     try simp[g43,g47] at r51
     refine cP r51 ?_
     simp[g43,g47]
    obtain rfl:=oi q50
    refine st ?_
    simp[g43,g47]
    have r52:=zCd fuel v30.1 v45 q46
    try simp[g43,g47] at r52
    refine cP r52 ?_
    simp[g43,g47]
   have c48:=eqF g43
   obtain rfl:=oi q50
   refine st ?_
   simp[g43]
  refine zAA ?_
  cases h
  simp
 have c55:=eqF g14
 refine cutA 78 0 [(1,.int .u16 n8),(5,.str ([]:List UInt8)),(6,iI 500),(15,.int .u8 (Int.tmod (which1.toNat:Int) 5)),(23,.bool (eqI (Int.tmod (which1.toNat:Int) 5) 1))] []<|spc h rfl (fun g56 h=>?_) fun g56 h=>?_
 ·have c57:=eqT g56
  obtain⟨n58,q59,h⟩:=bs h
  obtain⟨q60,q61⟩:=zD5 q59
  try simp at q60
  try simp at q61
  try rw[q61] at q10
  obtain⟨v62,q63,h⟩:=bs h
  obtain⟨s64,q65,h⟩:=bs h
  obtain⟨q66,q67⟩:=cat_ok q65
  try simp at q66
  try simp at q67
  refine last 78 0 [(1,.int .u16 n8),(5,.str s64),(6,iI 399)] [] ?_ fun zz hs=>?_
  ·refine st ?_
   simp[q60,q61,q66,q67]
   have r92:=zDQ [102,110,32,120,32,61,62,32] n58 v62 q63
   try simp[q60,q61,q66,q67] at r92
   refine cP r92 ?_
   simp[q60,q61,q66,q67]
  refine zDZ<|zDG ?_ hs
  obtain⟨v68,q69,h⟩:=bs h
  refine cut 78 0 [(1,.int .u16 n8),(6,iI 399),(7,pT 0),(8,pT 1),(9,iI v68.2.2)] [(zKZ.d v68.1),[iI v68.2.1.Line,iI v68.2.1.Column]] ?_ ?_
  ·refine st ?_
   simp
   have r91:=zCQ fuel s64 v68 q69
   try simp at r91
   refine cP r91 ?_
   simp
  refine zAF<|cut 78 0 [(7,pT 0),(8,pT 1),(9,iI v68.2.2),(60,.bool (leI n58 399))] [(zKZ.d v68.1),[iI v68.2.1.Line,iI v68.2.1.Column]] (st (by simp[q60,q61]))<|spc h rfl (fun g70 h=>?_) fun g70 h=>?_
  ·have c71:=leT g70
   obtain⟨b77,q78,h⟩:=bs h
   refine cut 78 0 [(4,.bool b77)] [(zKZ.d v68.1),[iI v68.2.1.Line,iI v68.2.1.Column]] ?_ ?_
   ·rcases sp q78 with ⟨g72,q78⟩|⟨g72,q78⟩
    ·have c73:=eqT g72
     obtain⟨v74,q75,q78⟩:=bs q78
     obtain rfl:=oi q78
     refine st ?_
     simp[g72]
     have r79:=zDV fuel 3 v68.1 v74 q75
     try simp[g72] at r79
     refine cP r79 ?_
     simp[g72]
    have c76:=eqF g72
    obtain rfl:=oi q78
    refine st ?_
    simp[g72]
   refine zAA<|zAB ?_
   cases h
   simp
  have c80:=leF g70
  refine zAC<|zAM ?_
  obtain⟨b87,q88,h⟩:=bs h
  refine cut 78 0 [(4,.bool b87)] [(zKZ.d v68.1),[iI v68.2.1.Line,iI v68.2.1.Column]] ?_ ?_
  ·rcases sp q88 with ⟨g81,q88⟩|⟨g81,q88⟩
   ·have c82:=eqT g81
    obtain⟨v83,q84,q88⟩:=bs q88
    rcases sp q88 with ⟨g85,q88⟩|⟨g85,q88⟩
    ·obtain rfl:=oi q88
     refine st ?_
     simp[g81,g85]
     have r89:=zCd fuel v68.1 v83 q84
     try simp[g81,g85] at r89
     refine cP r89 ?_
     simp[g81,g85]
    obtain rfl:=oi q88
    refine st ?_
    simp[g81,g85]
    have r90:=zCd fuel v68.1 v83 q84
    try simp[g81,g85] at r90
    refine cP r90 ?_
    simp[g81,g85]
   have c86:=eqF g81
   obtain rfl:=oi q88
   refine st ?_
   simp[g81]
  refine zAA ?_
  cases h
  simp
 have c93:=eqF g56
 refine cutA 78 0 [(1,.int .u16 n8),(5,.str ([]:List UInt8)),(6,iI 500),(15,.int .u8 (Int.tmod (which1.toNat:Int) 5)),(29,.bool (eqI (Int.tmod (which1.toNat:Int) 5) 2))] []<|spc h rfl (fun g94 h=>?_) fun g94 h=>?_
 ·have c95:=eqT g94
  obtain⟨n96,q97,h⟩:=bs h
  obtain⟨q98,q99⟩:=zD5 q97
  try simp at q98
  try simp at q99
  try rw[q99] at q10
  obtain⟨v100,q101,h⟩:=bs h
  obtain⟨s102,q103,h⟩:=bs h
  obtain⟨q104,q105⟩:=cat_ok q103
  try simp at q104
  try simp at q105
  refine last 78 0 [(1,.int .u16 n8),(5,.str s102),(6,iI 7)] [] ?_ fun zz hs=>?_
  ·refine st ?_
   simp[q98,q99,q104,q105]
   have r130:=zDQ [77,46] n96 v100 q101
   try simp[q98,q99,q104,q105] at r130
   refine cP r130 ?_
   simp[q98,q99,q104,q105]
  refine zDZ<|zDG ?_ hs
  obtain⟨v106,q107,h⟩:=bs h
  refine cut 78 0 [(1,.int .u16 n8),(6,iI 7),(7,pT 0),(8,pT 1),(9,iI v106.2.2)] [(zKZ.d v106.1),[iI v106.2.1.Line,iI v106.2.1.Column]] ?_ ?_
  ·refine st ?_
   simp
   have r129:=zCQ fuel s102 v106 q107
   try simp at r129
   refine cP r129 ?_
   simp
  refine zAF<|cut 78 0 [(7,pT 0),(8,pT 1),(9,iI v106.2.2),(60,.bool (leI n96 7))] [(zKZ.d v106.1),[iI v106.2.1.Line,iI v106.2.1.Column]] (st (by simp[q98,q99]))<|spc h rfl (fun g108 h=>?_) fun g108 h=>?_
  ·have c109:=leT g108
   obtain⟨b115,q116,h⟩:=bs h
   refine cut 78 0 [(4,.bool b115)] [(zKZ.d v106.1),[iI v106.2.1.Line,iI v106.2.1.Column]] ?_ ?_
   ·rcases sp q116 with ⟨g110,q116⟩|⟨g110,q116⟩
    ·have c111:=eqT g110
     obtain⟨v112,q113,q116⟩:=bs q116
     obtain rfl:=oi q116
     refine st ?_
     simp[g110]
     have r117:=zDV fuel 3 v106.1 v112 q113
     try simp[g110] at r117
     refine cP r117 ?_
     simp[g110]
    have c114:=eqF g110
    obtain rfl:=oi q116
    refine st ?_
    simp[g110]
   refine zAA<|zAB ?_
   cases h
   simp
  have c118:=leF g108
  refine zAC<|zAM ?_
  obtain⟨b125,q126,h⟩:=bs h
  refine cut 78 0 [(4,.bool b125)] [(zKZ.d v106.1),[iI v106.2.1.Line,iI v106.2.1.Column]] ?_ ?_
  ·rcases sp q126 with ⟨g119,q126⟩|⟨g119,q126⟩
   ·have c120:=eqT g119
    obtain⟨v121,q122,q126⟩:=bs q126
    rcases sp q126 with ⟨g123,q126⟩|⟨g123,q126⟩
    ·obtain rfl:=oi q126
     refine st ?_
     simp[g119,g123]
     have r127:=zCd fuel v106.1 v121 q122
     try simp[g119,g123] at r127
     refine cP r127 ?_
     simp[g119,g123]
    obtain rfl:=oi q126
    refine st ?_
    simp[g119,g123]
    have r128:=zCd fuel v106.1 v121 q122
    try simp[g119,g123] at r128
    refine cP r128 ?_
    simp[g119,g123]
   have c124:=eqF g119
   obtain rfl:=oi q126
   refine st ?_
   simp[g119]
  refine zAA ?_
  cases h
  simp
 have c131:=eqF g94
 refine cutA 78 0 [(1,.int .u16 n8),(5,.str ([]:List UInt8)),(6,iI 500),(15,.int .u8 (Int.tmod (which1.toNat:Int) 5)),(35,.bool (eqI (Int.tmod (which1.toNat:Int) 5) 3))] []<|spc h rfl (fun g132 h=>?_) fun g132 h=>?_
 ·have c133:=eqT g132
  obtain⟨n134,q135,h⟩:=bs h
  obtain⟨q136,q137⟩:=zD5 q135
  try simp at q136
  try simp at q137
  try rw[q137] at q10
  obtain⟨v138,q139,h⟩:=bs h
  obtain⟨s140,q141,h⟩:=bs h
  obtain⟨q142,q143⟩:=cat_ok q141
  try simp at q142
  try simp at q143
  obtain⟨v144,q145,h⟩:=bs h
  obtain⟨s146,q147,h⟩:=bs h
  obtain⟨q148,q149⟩:=cat_ok q147
  try simp at q148
  try simp at q149
  refine last 78 0 [(1,.int .u16 n8),(5,.str s146),(6,iI 500)] [] ?_ fun zz hs=>?_
  ·refine st ?_
   simp[q136,q137,q142,q143,q148,q149]
   have r174:=zDQ [40] n134 v138 q139
   try simp[q136,q137,q142,q143,q148,q149] at r174
   refine cP r174 ?_
   simp[q136,q137,q142,q143,q148,q149]
   have r175:=zDQ [41] n134 v144 q145
   try simp[q136,q137,q142,q143,q148,q149] at r175
   refine cP r175 ?_
   simp[q136,q137,q142,q143,q148,q149]
  refine zDZ<|zDG ?_ hs
  obtain⟨v150,q151,h⟩:=bs h
  refine cut 78 0 [(1,.int .u16 n8),(6,iI 500),(7,pT 0),(8,pT 1),(9,iI v150.2.2)] [(zKZ.d v150.1),[iI v150.2.1.Line,iI v150.2.1.Column]] ?_ ?_
  ·refine st ?_
   simp
   have r173:=zCQ fuel s146 v150 q151
   try simp at r173
   refine cP r173 ?_
   simp
  refine zAF<|cut 78 0 [(7,pT 0),(8,pT 1),(9,iI v150.2.2),(60,.bool (leI n134 500))] [(zKZ.d v150.1),[iI v150.2.1.Line,iI v150.2.1.Column]] (st (by simp[q136,q137]))<|spc h rfl (fun g152 h=>?_) fun g152 h=>?_
  ·have c153:=leT g152
   obtain⟨b159,q160,h⟩:=bs h
   refine cut 78 0 [(4,.bool b159)] [(zKZ.d v150.1),[iI v150.2.1.Line,iI v150.2.1.Column]] ?_ ?_
   ·rcases sp q160 with ⟨g154,q160⟩|⟨g154,q160⟩
    ·have c155:=eqT g154
     obtain⟨v156,q157,q160⟩:=bs q160
     obtain rfl:=oi q160
     refine st ?_
     simp[g154]
     have r161:=zDV fuel 3 v150.1 v156 q157
     try simp[g154] at r161
     refine cP r161 ?_
     simp[g154]
    have c158:=eqF g154
    obtain rfl:=oi q160
    refine st ?_
    simp[g154]
   refine zAA<|zAB ?_
   cases h
   simp
  have c162:=leF g152
  refine zAC<|zAM ?_
  obtain⟨b169,q170,h⟩:=bs h
  refine cut 78 0 [(4,.bool b169)] [(zKZ.d v150.1),[iI v150.2.1.Line,iI v150.2.1.Column]] ?_ ?_
  ·rcases sp q170 with ⟨g163,q170⟩|⟨g163,q170⟩
   ·have c164:=eqT g163
    obtain⟨v165,q166,q170⟩:=bs q170
    rcases sp q170 with ⟨g167,q170⟩|⟨g167,q170⟩
    ·obtain rfl:=oi q170
     refine st ?_
     simp[g163,g167]
     have r171:=zCd fuel v150.1 v165 q166
     try simp[g163,g167] at r171
     refine cP r171 ?_
     simp[g163,g167]
    obtain rfl:=oi q170
    refine st ?_
    simp[g163,g167]
    have r172:=zCd fuel v150.1 v165 q166
    try simp[g163,g167] at r172
    refine cP r172 ?_
    simp[g163,g167]
   have c168:=eqF g163
   obtain rfl:=oi q170
   refine st ?_
   simp[g163]
  refine zAA ?_
  cases h
  simp
 have c176:=eqF g132
 refine cutA 78 0 [(1,.int .u16 n8),(5,.str ([]:List UInt8)),(6,iI 500),(45,.bool (eqI (Int.tmod (which1.toNat:Int) 5) 4))] []<|spc h rfl (fun g177 h=>?_) fun g177 h=>?_
 ·have c178:=eqT g177
  obtain⟨n179,q180,h⟩:=bs h
  obtain⟨q181,q182⟩:=zD5 q180
  try simp at q181
  try simp at q182
  try rw[q182] at q10
  obtain⟨v183,q184,h⟩:=bs h
  obtain⟨s185,q186,h⟩:=bs h
  obtain⟨q187,q188⟩:=cat_ok q186
  try simp at q187
  try simp at q188
  refine last 78 0 [(1,.int .u16 n8),(5,.str s185),(6,iI 399)] [] ?_ fun zz hs=>?_
  ·refine st ?_
   simp[q181,q182,q187,q188]
   have r213:=zDQ [32,120] n179 v183 q184
   try simp[q181,q182,q187,q188] at r213
   refine cP r213 ?_
   simp[q181,q182,q187,q188]
  refine zDZ<|zDG ?_ hs
  obtain⟨v189,q190,h⟩:=bs h
  refine cut 78 0 [(1,.int .u16 n8),(6,iI 399),(7,pT 0),(8,pT 1),(9,iI v189.2.2)] [(zKZ.d v189.1),[iI v189.2.1.Line,iI v189.2.1.Column]] ?_ ?_
  ·refine st ?_
   simp
   have r212:=zCQ fuel s185 v189 q190
   try simp at r212
   refine cP r212 ?_
   simp
  refine zAF<|cut 78 0 [(7,pT 0),(8,pT 1),(9,iI v189.2.2),(60,.bool (leI n179 399))] [(zKZ.d v189.1),[iI v189.2.1.Line,iI v189.2.1.Column]] (st (by simp[q181,q182]))<|spc h rfl (fun g191 h=>?_) fun g191 h=>?_
  ·have c192:=leT g191
   obtain⟨b198,q199,h⟩:=bs h
   refine cut 78 0 [(4,.bool b198)] [(zKZ.d v189.1),[iI v189.2.1.Line,iI v189.2.1.Column]] ?_ ?_
   ·rcases sp q199 with ⟨g193,q199⟩|⟨g193,q199⟩
    ·have c194:=eqT g193
     obtain⟨v195,q196,q199⟩:=bs q199
     obtain rfl:=oi q199
     refine st ?_
     simp[g193]
     have r200:=zDV fuel 3 v189.1 v195 q196
     try simp[g193] at r200
     refine cP r200 ?_
     simp[g193]
    have c197:=eqF g193
    obtain rfl:=oi q199
    refine st ?_
    simp[g193]
   refine zAA<|zAB ?_
   cases h
   simp
  have c201:=leF g191
  refine zAC<|zAM ?_
  obtain⟨b208,q209,h⟩:=bs h
  refine cut 78 0 [(4,.bool b208)] [(zKZ.d v189.1),[iI v189.2.1.Line,iI v189.2.1.Column]] ?_ ?_
  ·rcases sp q209 with ⟨g202,q209⟩|⟨g202,q209⟩
   ·have c203:=eqT g202
    obtain⟨v204,q205,q209⟩:=bs q209
    rcases sp q209 with ⟨g206,q209⟩|⟨g206,q209⟩
    ·obtain rfl:=oi q209
     refine st ?_
     simp[g202,g206]
     have r210:=zCd fuel v189.1 v204 q205
     try simp[g202,g206] at r210
     refine cP r210 ?_
     simp[g202,g206]
    obtain rfl:=oi q209
    refine st ?_
    simp[g202,g206]
    have r211:=zCd fuel v189.1 v204 q205
    try simp[g202,g206] at r211
    refine cP r211 ?_
    simp[g202,g206]
   have c207:=eqF g202
   obtain rfl:=oi q209
   refine st ?_
   simp[g202]
  refine zAA ?_
  cases h
  simp
 have c214:=eqF g177
 refine zAC<|zDZ<|zAM ?_
 obtain⟨v215,q216,h⟩:=bs h
 refine cut 78 0 [(1,.int .u16 n8),(6,iI 500),(7,pT 0),(8,pT 1),(9,iI v215.2.2)] [(zKZ.d v215.1),[iI v215.2.1.Line,iI v215.2.1.Column]] ?_ ?_
 ·refine st ?_
  simp
  have r242:=zCQ fuel ([]:List UInt8) v215 q216
  try simp at r242
  refine cP r242 ?_
  simp
 refine zAF ?_
 obtain⟨n217,q218,h⟩:=bs h
 obtain⟨q219,q220⟩:=zD5 q218
 try simp at q219
 try simp at q220
 try rw[q220] at q10
 refine cut 78 0 [(7,pT 0),(8,pT 1),(9,iI v215.2.2),(60,.bool (leI n217 500))] [(zKZ.d v215.1),[iI v215.2.1.Line,iI v215.2.1.Column]] (st (by simp[q219,q220]))<|spc h rfl (fun g221 h=>?_) fun g221 h=>?_
 ·have c222:=leT g221
  obtain⟨b228,q229,h⟩:=bs h
  refine cut 78 0 [(4,.bool b228)] [(zKZ.d v215.1),[iI v215.2.1.Line,iI v215.2.1.Column]] ?_ ?_
  ·rcases sp q229 with ⟨g223,q229⟩|⟨g223,q229⟩
   ·have c224:=eqT g223
    obtain⟨v225,q226,q229⟩:=bs q229
    obtain rfl:=oi q229
    refine st ?_
    simp[g223]
    have r230:=zDV fuel 3 v215.1 v225 q226
    try simp[g223] at r230
    refine cP r230 ?_
    simp[g223]
   have c227:=eqF g223
   obtain rfl:=oi q229
   refine st ?_
   simp[g223]
  refine zAA<|zAB ?_
  cases h
  simp
 have c231:=leF g221
 refine zAC<|zAM ?_
 obtain⟨b238,q239,h⟩:=bs h
 refine cut 78 0 [(4,.bool b238)] [(zKZ.d v215.1),[iI v215.2.1.Line,iI v215.2.1.Column]] ?_ ?_
 ·rcases sp q239 with ⟨g232,q239⟩|⟨g232,q239⟩
  ·have c233:=eqT g232
   obtain⟨v234,q235,q239⟩:=bs q239
   rcases sp q239 with ⟨g236,q239⟩|⟨g236,q239⟩
   ·obtain rfl:=oi q239
    refine st ?_
    simp[g232,g236]
    have r240:=zCd fuel v215.1 v234 q235
    try simp[g232,g236] at r240
    refine cP r240 ?_
    simp[g232,g236]
   obtain rfl:=oi q239
   refine st ?_
   simp[g232,g236]
   have r241:=zCd fuel v215.1 v234 q235
   try simp[g232,g236] at r241
   refine cP r241 ?_
   simp[g232,g236]
  have c237:=eqF g232
  obtain rfl:=oi q239
  refine st ?_
  simp[g232]
 refine zAA ?_
 cases h
 simp
end Go.Proofs.YtcbjbgiboimgaaaGreatDoor
set_option linter.unusedVariables false
set_option linter.unusedSimpArgs false
set_option maxRecDepth 100000
namespace Go.Proofs.YtcbjbgiboimgaaaGreatDoor
open Go Go.Abs
inductive PT (α:Type):Type where
 |out:PT α
 |fail:PT α
 |ret (a:α):PT α
 |is (s:List UInt8) (k:Bool->PT α):PT α
 |kd (n:Int) (k:Bool->PT α):PT α
 |nx (k:List UInt8->PT α):PT α
abbrev Tk:=Int×List UInt8
def isB(t:Tk)(s:List UInt8):Bool:=(eqI t.1 6||eqI t.1 7)&&eqS t.2 s
def ktk(t:zKX):Tk:=(t.Kind,t.Text)
namespace PT
variable {α β γ:Type}
def bind:PT α->(α->PT β)->PT β
 |out,_=>out
 |fail,_=>fail
 |ret a,f=>f a
 |is s k,f=>is s fun b=>(k b).bind f
 |kd n k,f=>kd n fun b=>(k b).bind f
 |nx k,f=>nx fun t=>(k t).bind f
def ofO:Option α->PT α
 |none=>out
 |some a=>ret a
def go:PT α->List Tk->Option (Option α×List Tk)
 |out,_=>none
 |fail,l=>some (none,l)
 |ret a,l=>some (some a,l)
 |is _ _,[]=>none
 |is s k,t::l=>(k (isB t s)).go (t::l)
 |kd _ _,[]=>none
 |kd n k,t::l=>(k (eqI t.1 n)).go (t::l)
 |nx _,[]=>none
 |nx k,t::l=>(k t.2).go l
def goK(f:α->PT β)(r:Option α×List Tk):Option (Option β×List Tk):=
 match r.1 with
 |none=>some (none,r.2)
 |some a=>(f a).go r.2
theorem go_bind(f:α->PT β): ∀(x:PT α)(l:List Tk),(x.bind f).go l=(x.go l).bind (goK f)
 |out,l=>rfl
 |fail,l=>rfl
 |ret a,l=>rfl
 |is s k,[]=>rfl
 |is s k,t::l=>go_bind f (k (isB t s)) (t::l)
 |kd n k,[]=>rfl
 |kd n k,t::l=>go_bind f (k (eqI t.1 n)) (t::l)
 |nx k,[]=>rfl
 |nx k,t::l=>go_bind f (k t.2) l
theorem bind_assoc(f:α->PT β)(g:β->PT γ): ∀x:PT α,(x.bind f).bind g=x.bind fun a=>(f a).bind g
 |out=>rfl
 |fail=>rfl
 |ret a=>rfl
 |is s k=>congrArg (is s) (funext fun b=>bind_assoc f g (k b))
 |kd n k=>congrArg (kd n) (funext fun b=>bind_assoc f g (k b))
 |nx k=>congrArg nx (funext fun b=>bind_assoc f g (k b))
theorem go_drop: ∀(x:PT α)(l:List Tk)(o:Option α)(r:List Tk),x.go l=some (o,r)->∃A,l=A++r
 |fail,l,o,r,h=>⟨[],by cases h;rfl⟩
 |ret a,l,o,r,h=>⟨[],by cases h;rfl⟩
 |is s k,t::l,o,r,h=>go_drop (k (isB t s)) (t::l) o r h
 |kd n k,t::l,o,r,h=>go_drop (k (eqI t.1 n)) (t::l) o r h
 |nx k,t::l,o,r,h=>by
  obtain⟨A,rfl⟩:=go_drop (k t.2) l o r h
  exact⟨t::A,rfl⟩
theorem go_loc(t:Tk)(B B':List Tk): ∀(x:PT α)(A:List Tk)(o:Option α),x.go (A++t::B)=some (o,t::B)->x.go (A++t::B')=some (o,t::B')
 |fail,A,o,h=>by
  have h1:(none,A++t::B)=(o,t::B):=Option.some.inj h
  have h2:=congrArg (fun q=>q.2.length) h1
  have:A=[]:=by cases A with
   |nil=>rfl
   |cons a A=>simp at h2;omega
  subst this;cases h1;rfl
 |ret a,A,o,h=>by
  have h1:(some a,A++t::B)=(o,t::B):=Option.some.inj h
  have h2:=congrArg (fun q=>q.2.length) h1
  have:A=[]:=by cases A with
   |nil=>rfl
   |cons a A=>simp at h2;omega
  subst this;cases h1;rfl
 |is s k,[],o,h=>go_loc t B B' (k (isB t s)) [] o h
 |is s k,a::A,o,h=>go_loc t B B' (k (isB a s)) (a::A) o h
 |kd n k,[],o,h=>go_loc t B B' (k (eqI t.1 n)) [] o h
 |kd n k,a::A,o,h=>go_loc t B B' (k (eqI a.1 n)) (a::A) o h
 |nx k,[],o,h=>by
  obtain⟨A,hA⟩:=go_drop (k t.2) B o (t::B) h
  have:=congrArg List.length hA
  simp at this;omega
 |nx k,a::A,o,h=>go_loc t B B' (k a.2) A o h
def eats:PT α->Prop
 |ret _=>False
 |is _ k=> ∀b,(k b).eats
 |kd _ k=> ∀b,(k b).eats
 |_=>True
theorem eats_bind(f:α->PT β): ∀x:PT α,x.eats->(x.bind f).eats
 |out,_=>trivial
 |fail,_=>trivial
 |is s k,h=>fun b=>eats_bind f (k b) (h b)
 |kd n k,h=>fun b=>eats_bind f (k b) (h b)
 |nx k,_=>trivial
theorem eats_bind2(f:α->PT β)(hf: ∀a,(f a).eats): ∀x:PT α,(x.bind f).eats
 |out=>trivial
 |fail=>trivial
 |ret a=>hf a
 |is s k=>fun b=>eats_bind2 f hf (k b)
 |kd n k=>fun b=>eats_bind2 f hf (k b)
 |nx k=>trivial
theorem eats_go: ∀(x:PT α),x.eats->∀(l:List Tk)(a:α)(r:List Tk),x.go l=some (some a,r)->r.length<l.length
 |fail,_,l,a,r,h=>by cases h
 |is s k,e,t::l,a,r,h=>eats_go (k (isB t s)) (e _) (t::l) a r h
 |kd n k,e,t::l,a,r,h=>eats_go (k (eqI t.1 n)) (e _) (t::l) a r h
 |nx k,_,t::l,a,r,h=>by
  obtain⟨A,rfl⟩:=go_drop (k t.2) l (some a) r h
  simp;omega
def nc:PT α->Prop
 |is s k=>(∀b,(k b).nc)∧(s=[41]->(k false).eats)
 |kd n k=>n≠7∧n≠8∧∀b,(k b).nc
 |nx k=> ∀t,(k t).nc
 |_=>True
theorem nc_bind(f:α->PT β)(hf: ∀a,(f a).nc): ∀x:PT α,x.nc->(x.bind f).nc
 |out,_=>trivial
 |fail,_=>trivial
 |ret a,_=>hf a
 |is s k,h=>⟨fun b=>nc_bind f hf (k b) (h.1 b),fun hs=>eats_bind f _ (h.2 hs)⟩
 |kd n k,h=>⟨h.1,h.2.1,fun b=>nc_bind f hf (k b) (h.2.2 b)⟩
 |nx k,h=>fun t=>nc_bind f hf (k t) (h t)
theorem isB_end(s:List UInt8):isB (8,[]) s=false:=rfl
theorem isB_close(s:List UInt8)(h:s≠[41]):isB (7,[41]) s=false:=by
 simp only[isB,Bool.and_eq_false_iff];right
 simp only[eqS,decide_eq_false_iff_not];exact fun hh=>h hh.symm
theorem go_close(B B':List Tk): ∀(x:PT α),x.nc->∀(A:List Tk)(a:α),x.go (A++(8,[])::B)=some (some a,(8,[])::B)->x.go (A++(7,[41])::B')=some (some a,(7,[41])::B')
 |fail,_,A,a,h=>by cases h
 |ret v,_,A,a,h=>by
  have h1:(some v,A++((8:Int),([]:List UInt8))::B)=(some a,(8,[])::B):=Option.some.inj h
  have h2:=congrArg (fun q=>q.2.length) h1
  have:A=[]:=by cases A with
   |nil=>rfl
   |cons a A=>simp at h2;omega
  subst this;cases h1;rfl
 |is s k,hn,[],a,h=>by
  have h':(k false).go ([]++(8,[])::B)=some (some a,(8,[])::B):=h
  by_cases hs:s=[41]
  ·have:=eats_go _ (hn.2 hs) _ _ _ h'
   simp at this
  ·have:=go_close B B' (k false) (hn.1 false) [] a h'
   show(k (isB (7,[41]) s)).go _=_
   rw[isB_close s hs];exact this
 |is s k,hn,t::A,a,h=>go_close B B' (k (isB t s)) (hn.1 _) (t::A) a h
 |kd n k,hn,[],a,h=>by
  have e8:eqI (8:Int) n=false:=by simp only[eqI,decide_eq_false_iff_not];exact fun hh=>hn.2.1 hh.symm
  have e7:eqI (7:Int) n=false:=by simp only[eqI,decide_eq_false_iff_not];exact fun hh=>hn.1 hh.symm
  have h':(k (eqI (8:Int) n)).go ([]++(8,[])::B)=some (some a,(8,[])::B):=h
  rw[e8] at h'
  have:=go_close B B' (k false) (hn.2.2 false) [] a h'
  show(k (eqI (7:Int) n)).go _=_
  rw[e7];exact this
 |kd n k,hn,t::A,a,h=>go_close B B' (k (eqI t.1 n)) (hn.2.2 _) (t::A) a h
 |nx k,hn,[],a,h=>by
  obtain⟨A,hA⟩:=go_drop (k []) B (some a) ((8,[])::B) h
  have:=congrArg List.length hA
  simp at this;omega
 |nx k,hn,t::A,a,h=>go_close B B' (k t.2) (hn _) A a h
inductive le:PT α->PT α->Prop where
 |out (y:PT α):le out y
 |fail:le fail fail
 |ret (a:α):le (ret a) (ret a)
 |is (s:List UInt8) {k k':Bool->PT α} (h: ∀b,le (k b) (k' b)):le (.is s k) (.is s k')
 |kd (n:Int) {k k':Bool->PT α} (h: ∀b,le (k b) (k' b)):le (.kd n k) (.kd n k')
 |nx {k k':List UInt8->PT α} (h: ∀t,le (k t) (k' t)):le (.nx k) (.nx k')
theorem le_refl: ∀x:PT α,le x x
 |.out=>.out _
 |.fail=>.fail
 |.ret a=>.ret a
 |.is s k=>.is s fun b=>le_refl (k b)
 |.kd n k=>.kd n fun b=>le_refl (k b)
 |.nx k=>.nx fun b=>le_refl (k b)
theorem le_bind{x y:PT α}{f g:α->PT β}(h:le x y)(hf: ∀a,le (f a) (g a)):le (x.bind f) (y.bind g):=by
 induction h with
 |out y=>exact .out _
 |fail=>exact .fail
 |ret a=>exact hf a
 |is s h ih=>exact .is s ih
 |kd n h ih=>exact .kd n ih
 |nx h ih=>exact .nx ih
theorem le_ofO{x y:Option α}(h: ∀a,x=some a->y=some a):le (ofO x) (ofO y):=by
 cases x with
 |none=>exact .out _
 |some a=>rw[h a rfl];exact le_refl _
theorem le_go{x y:PT α}(h:le x y): ∀(l:List Tk)(r:Option α×List Tk),x.go l=some r->y.go l=some r:=by
 induction h with
 |out y=>intro l r h;cases h
 |fail=>exact fun l r h=>h
 |ret a=>exact fun l r h=>h
 |is s h ih=>exact fun l r h=>match l,h with|t::l,h=>ih _ _ _ h
 |kd n h ih=>exact fun l r h=>match l,h with|t::l,h=>ih _ _ _ h
 |nx h ih=>exact fun l r h=>match l,h with|t::l,h=>ih _ _ _ h
def Fin:List Tk->Prop
 |[]=>False
 |[t]=>t=(8,[])
 |t::l=>t.1≠8∧t.2.length<=20000∧Fin l
def wp:PT α->Nat->(α->Nat->Prop)->Prop
 |out,_,_=>False
 |fail,_,_=>True
 |ret a,r,Q=>Q a r
 |is _ k,r,Q=>(k false).wp r Q∧(2<=r->(k true).wp r Q)
 |kd n k,r,Q=>(k false).wp r Q∧((n≠8->2<=r)->(k true).wp r Q)
 |nx k,r,Q=>2<=r∧∀t:List UInt8,t.length<=20000->(k t).wp (r-1) Q
theorem wp_mono{Q R:α->Nat->Prop}(h: ∀a r,Q a r->R a r): ∀(x:PT α)(r:Nat),x.wp r Q->x.wp r R
 |fail,r,_=>trivial
 |ret a,r,hx=>h a r hx
 |is s k,r,hx=>⟨wp_mono h _ r hx.1,fun g=>wp_mono h _ r (hx.2 g)⟩
 |kd n k,r,hx=>⟨wp_mono h _ r hx.1,fun g=>wp_mono h _ r (hx.2 g)⟩
 |nx k,r,hx=>⟨hx.1,fun t ht=>wp_mono h _ _ (hx.2 t ht)⟩
theorem zJG(f:α->PT β){Q:β->Nat->Prop}: ∀(x:PT α)(r:Nat),x.wp r (fun a r=>(f a).wp r Q)->(x.bind f).wp r Q
 |fail,r,_=>trivial
 |ret a,r,hx=>hx
 |is s k,r,hx=>⟨zJG f _ r hx.1,fun g=>zJG f _ r (hx.2 g)⟩
 |kd n k,r,hx=>⟨zJG f _ r hx.1,fun g=>zJG f _ r (hx.2 g)⟩
 |nx k,r,hx=>⟨hx.1,fun t ht=>zJG f _ _ (hx.2 t ht)⟩
theorem wp_bindQ{f:α->PT β}{Q:β->Nat->Prop}{R:α->Nat->Prop}{x:PT α}{r:Nat}(h:x.wp r R)(hf: ∀a r',R a r'->(f a).wp r' Q):(x.bind f).wp r Q:=
 zJG f x r (wp_mono hf x r h)
theorem Fin.cons_pos{t:Tk}{l:List Tk}(h:Fin (t::l))(ht:t.1≠8):2<=(t::l).length∧Fin l∧t.2.length<=20000:=by
 cases l with
 |nil=>cases h;exact absurd rfl ht
 |cons u l=>exact⟨by simp,h.2.2,h.2.1⟩
theorem Fin.cons_two{t:Tk}{l:List Tk}(h:Fin (t::l))(h2:2<=(t::l).length):Fin l∧t.2.length<=20000∧t.1≠8:=by
 cases l with
 |nil=>simp at h2
 |cons u l=>exact⟨h.2.2,h.2.1,h.1⟩
theorem wp_go{Q:α->Nat->Prop}: ∀(x:PT α)(l:List Tk),Fin l->x.wp l.length Q->∃o r,x.go l=some (o,r)∧Fin r∧∀a,o=some a->Q a r.length
 |out,l,hl,hx=>hx.elim
 |fail,l,hl,hx=>⟨none,l,rfl,hl,fun a h=>by cases h⟩
 |ret a,l,hl,hx=>⟨some a,l,rfl,hl,fun b h=>by cases h;exact hx⟩
 |is s k,[],hl,hx=>hl.elim
 |is s k,t::l,hl,hx=>by
  show∃o r,(k (isB t s)).go (t::l)=some (o,r)∧_
  cases hb:isB t s with
  |false=>exact wp_go (k false) (t::l) hl hx.1
  |true=>
   refine wp_go (k true) (t::l) hl (hx.2 (hl.cons_pos fun h8=>?_).1)
   simp[isB,eqI,h8] at hb
 |kd n k,[],hl,hx=>hl.elim
 |kd n k,t::l,hl,hx=>by
  show∃o r,(k (eqI t.1 n)).go (t::l)=some (o,r)∧_
  cases hb:eqI t.1 n with
  |false=>exact wp_go (k false) (t::l) hl hx.1
  |true=>
   refine wp_go (k true) (t::l) hl (hx.2 fun hn=>(hl.cons_pos fun h8=>?_).1)
   simp[eqI,h8] at hb;exact hn hb.symm
 |nx k,[],hl,hx=>hl.elim
 |nx k,t::l,hl,hx=>by
  obtain⟨h1,h2,h3⟩:=hl.cons_two hx.1
  have:=wp_go (k t.2) l h1 (by simpa using hx.2 t.2 h2)
  exact this
end PT
theorem chkA{n:Int}(h1: -9223372036854775808<=n)(h2:n<=9223372036854775807):chk .i64 n=some n:=by rw[chk,if_pos];exact⟨h1,h2⟩
def PT.run{α:Type}:PT α->zKU->Option (zKU ⊕ (α×zKU))
 |.out,_=>none
 |.fail,w=>some (.inl w)
 |.ret a,w=>some (.inr (a,w))
 |.is s k,w=>(idx w.l w.at_).bind fun t=>(k (isB (ktk t) s)).run w
 |.kd n k,w=>(idx w.l w.at_).bind fun t=>(k (eqI t.Kind n)).run w
 |.nx k,w=>(idx w.l w.at_).bind fun t=>(chk .i64 (w.at_+1)).bind fun a=>(k t.Text).run (zKU.mk w.l a)
namespace PT
variable {α β γ:Type}
def runK(f:α->PT β)(r:zKU ⊕ (α×zKU)):Option (zKU ⊕ (β×zKU)):=
 Sum.elim (fun e=>some (.inl e)) (fun v=>(f v.1).run v.2) r
theorem run_bind(f:α->PT β): ∀(x:PT α)(w:zKU),(x.bind f).run w=(x.run w).bind (runK f)
 |out,w=>rfl
 |fail,w=>rfl
 |ret a,w=>rfl
 |is s k,w=>by
  simp only[bind,run]
  cases idx w.l w.at_ with
  |none=>rfl
  |some t=>exact run_bind f _ w
 |kd n k,w=>by
  simp only[bind,run]
  cases idx w.l w.at_ with
  |none=>rfl
  |some t=>exact run_bind f _ w
 |nx k,w=>by
  simp only[bind,run]
  cases idx w.l w.at_ with
  |none=>rfl
  |some t=>
   show(Option.bind _ _)=_
   simp only[Option.bind_some]
   cases chk .i64 (w.at_+1) with
   |none=>rfl
   |some a=>exact run_bind f _ _
def back(l:List zKX)(r:Option α×List Tk):zKU ⊕ (α×zKU):=
 match r.1 with
 |none=>.inl (zKU.mk l ((l.length-r.2.length:Nat):Int))
 |some a=>.inr (a,zKU.mk l ((l.length-r.2.length:Nat):Int))
theorem run_go(l:List zKX)(hl:l.length<=1000000): ∀(x:PT α)(a:Nat),a<=l.length->x.run (zKU.mk l (a:Int))=(x.go ((l.drop a).map ktk)).map (back l)
 |out,a,ha=>rfl
 |fail,a,ha=>by
  simp only[run,go,Option.map_some,back,List.length_map,List.length_drop]
  rw[show l.length-(l.length-a)=a by omega]
 |ret v,a,ha=>by
  simp only[run,go,Option.map_some,back,List.length_map,List.length_drop]
  rw[show l.length-(l.length-a)=a by omega]
 |is s k,a,ha=>by
  have ih:=fun b=>run_go l hl (k b) a ha
  simp only[run]
  rw[show idx l (a:Int)=l[a]? by rw[idx,if_pos (by omega)];simp]
  rcases Nat.lt_or_ge a l.length with h|h
  ·have hd:l.drop a=l[a]::l.drop (a+1):=(List.drop_eq_getElem_cons h)
   rw[List.getElem?_eq_getElem h]
   show(k _).run _=_
   rw[ih,hd];rfl
  ·rw[List.getElem?_eq_none h,List.drop_eq_nil_of_le h];rfl
 |kd n k,a,ha=>by
  have ih:=fun b=>run_go l hl (k b) a ha
  simp only[run]
  rw[show idx l (a:Int)=l[a]? by rw[idx,if_pos (by omega)];simp]
  rcases Nat.lt_or_ge a l.length with h|h
  ·have hd:l.drop a=l[a]::l.drop (a+1):=(List.drop_eq_getElem_cons h)
   rw[List.getElem?_eq_getElem h]
   show(k _).run _=_
   rw[ih,hd];rfl
  ·rw[List.getElem?_eq_none h,List.drop_eq_nil_of_le h];rfl
 |nx k,a,ha=>by
  simp only[run]
  rw[show idx l (a:Int)=l[a]? by rw[idx,if_pos (by omega)];simp]
  rcases Nat.lt_or_ge a l.length with h|h
  ·have hd:l.drop a=l[a]::l.drop (a+1):=(List.drop_eq_getElem_cons h)
   rw[List.getElem?_eq_getElem h]
   have hc:chk .i64 ((a:Int)+1)=some ((a+1:Nat):Int):=chkA (by omega) (by omega)
   simp only[Option.bind_some,hc]
   rw[run_go l hl (k l[a].Text) (a+1) (by omega),hd];rfl
  ·rw[List.getElem?_eq_none h,List.drop_eq_nil_of_le h];rfl
end PT
end Go.Proofs.YtcbjbgiboimgaaaGreatDoor
namespace Go.Proofs.YtcbjbgiboimgaaaGreatDoor
open Go Go.Abs
abbrev Nms:=List (List UInt8)
abbrev leaf (op:Int):zKZ:=zKZ.mk op 0 [] [] []
def T.name(k:Int):PT (List UInt8):=.kd k fun b=>if !b then .fail else .nx .ret
def T.skip(s:List UInt8):PT Bool:=.is s fun b=>if !b then .ret false else .nx fun _=>.ret true
def T.want(s:List UInt8):PT Unit:=.is s fun b=>if !b then .fail else .nx fun _=>.ret ()
def T.path_l1(cap:Bool):Nat->Nms->PT ((Nms×Bool) ⊕ Nms)
 |0,_=>.out
 |k+1,l=>.kd 2 fun b=>if b then (T.name 2).bind fun t=>(PT.ofO (app 16 l [t])).bind fun l2=>
  (if cap then .is [46] fun c=>.ret (!c) else .ret false:PT Bool).bind fun c=>if c then .ret (.inl (l2,false)) else (T.want [46]).bind fun _=>T.path_l1 cap k l2
  else .ret (.inr l)
def T.path(fuel:Nat)(cap:Bool):PT (Nms×Bool):=
 (T.path_l1 cap fuel []).bind fun r=>Sum.elim (fun v=>.ret v) (fun l=>(T.name 1).bind fun t=>(PT.ofO (app 16 l [t])).bind fun l=>.ret (l,true)) r
def T.typePath(fuel:Nat)(args:List zKZ):PT zKZ:=(T.path fuel false).bind fun v=>.ret (zKZ.mk 2 0 [] v.1 args)
def T.mods_l1:Nat->Nms->PT Nms
 |0,_=>.out
 |k+1,l=>(T.skip [46]).bind fun b=>if b then (T.name 2).bind fun t=>(PT.ofO (app 16 l [t])).bind fun l2=>T.mods_l1 k l2 else .ret l
def T.mods(fuel:Nat):PT Nms:=(T.name 2).bind fun t=>T.mods_l1 fuel [t]
def T.named:PT Bool:=.kd 2 fun b=>if b then .ret true else .kd 1 .ret
def T.sep(s:List UInt8)(F:PT zKZ):Nat->List zKZ->PT (List zKZ)
 |0,_=>.out
 |k+1,l=>(T.skip s).bind fun b=>if b then F.bind fun v=>(PT.ofO (app 80 l [v])).bind fun l2=>T.sep s F k l2 else .ret l
def T.pfx_l1(fuel:Nat):Nat->zKZ->PT zKZ
 |0,_=>.out
 |k+1,t=>T.named.bind fun b=>if b then (T.typePath fuel [t]).bind fun u=>T.pfx_l1 fuel k u else .ret t
mutual
def T.simple:Nat->PT zKZ
 |0=>.out
 |fuel+1=>.kd 3 fun b=>if b then (T.name 3).bind fun t=>.ret (zKZ.mk 1 0 t [] [])
  else (T.skip [40]).bind fun b=>if !b then (T.typePath fuel []).bind .ret
  else (T.skip [109,111,100,117,108,101]).bind fun b=>if b then (T.mods fuel).bind fun l=>(T.want [41]).bind fun _=>.ret (zKZ.mk 5 0 [] l [])
  else (T.typ fuel).bind fun t=>(T.sep [44] (T.typ fuel) fuel [t]).bind fun l=>(T.want [41]).bind fun _=>
   if eqI (l.length:Int) 1 then (PT.ofO l[0]?).bind .ret else (T.typePath fuel l).bind .ret
def T.pfx:Nat->PT zKZ
 |0=>.out
 |fuel+1=>(T.simple fuel).bind fun t=>(T.pfx_l1 fuel fuel t).bind .ret
def T.product:Nat->PT zKZ
 |0=>.out
 |fuel+1=>(T.pfx fuel).bind fun t=>(T.sep [42] (T.pfx fuel) fuel [t]).bind fun l=>
  if eqI (l.length:Int) 1 then (PT.ofO l[0]?).bind .ret else .ret (zKZ.mk 4 0 [] [] l)
def T.typ:Nat->PT zKZ
 |0=>.out
 |fuel+1=>(T.product fuel).bind fun t=>(T.skip [45,62]).bind fun b=>if b then (T.typ fuel).bind fun u=>.ret (zKZ.mk 3 0 [] [] [t,u]) else .ret t
end
def T.number(fuel:Nat):PT Int:=(T.name 4).bind fun t=>(PT.ofO (zCv fuel t)).bind fun v=>.ret v.1
def T.anyOf:List (List UInt8)->PT Bool
 |[]=>.ret false
 |[s]=>.is s .ret
 |s::r=>.is s fun b=>if b then .ret true else T.anyOf r
mutual
def T.argument:Nat->PT zKZ
 |0=>.out
 |fuel+1=>(T.skip [95]).bind fun b=>if b then .ret (leaf 11)
  else (T.skip [126]).bind fun b=>if b then (T.number fuel).bind fun n=>(PT.ofO (chk .i64 (-n))).bind fun m=>.ret (zKZ.mk 13 m [] [] [])
  else .kd 4 fun b=>if b then (T.number fuel).bind fun n=>.ret (zKZ.mk 13 n [] [] [])
  else .kd 1 fun b=>if b then (T.name 1).bind fun t=>.ret (zKZ.mk 12 0 t [] [])
  else .kd 2 fun b=>if b then (T.mods fuel).bind fun l=>.ret (zKZ.mk 14 0 [] l [])
  else (T.want [40]).bind fun _=>(T.skip [41]).bind fun b=>if b then .ret (leaf 15)
  else (T.pattern fuel).bind fun t=>(T.sep [44] (T.pattern fuel) fuel [t]).bind fun l=>(T.want [41]).bind fun _=>
   if eqI (l.length:Int) 1 then (PT.ofO l[0]?).bind .ret else .ret (zKZ.mk 15 0 [] [] l)
def T.pattern:Nat->PT zKZ
 |0=>.out
 |fuel+1=>.kd 2 fun b=>if !b then (T.argument fuel).bind .ret
  else (T.mods fuel).bind fun l=>(T.named.bind fun b=>if b then .ret true else .kd 4 fun b=>if b then .ret true else T.anyOf [[95],[126],[40]]).bind fun b=>
   if b then (T.argument fuel).bind fun t=>.ret (zKZ.mk 14 0 [] l [t]) else .ret (zKZ.mk 14 0 [] l [])
end
def T.begins:PT Bool:=.kd 4 fun b=>if b then .ret true else .kd 5 fun b=>if b then .ret true else .kd 1 fun b=>if b then .ret true else .kd 2 fun b=>if b then .ret true
 else T.anyOf [[40],[108,101,116],[99,97,115,101]]
def OPS:List (Int×List UInt8×Int):=[(1,[111,114,101,108,115,101],1),(2,[97,110,100,97,108,115,111],2),(3,[61],3),(3,[60],4),(3,[60,61],5),(4,[94],6),(5,[43],7),(5,[45],8),(6,[42],9),(6,[100,105,118],10),(6,[109,111,100],11)]
def T.ops(n:Int):List (Int×List UInt8×Int)->PT Int
 |[]=>.ret 0
 |q::r=>if eqI n q.1 then .is q.2.1 fun b=>if b then .ret q.2.2 else T.ops n r else T.ops n r
def T.choice_l1(fuel:Nat)(F:PT zKZ):Nat->List zKZ->PT zKZ
 |0,_=>.out
 |k+1,L=>(T.pattern fuel).bind fun p=>(T.want [61,62]).bind fun _=>F.bind fun x=>(PT.ofO (app 80 [p] [x])).bind fun l=>(PT.ofO (app 80 L [zKZ.mk 30 0 [] [] l])).bind fun L2=>
  (T.skip [124]).bind fun b=>if !b then (T.want [101,110,100]).bind fun _=>.ret (zKZ.mk 29 0 [] [] L2) else T.choice_l1 fuel F k L2
def T.negation_l1(F:PT zKZ):Nat->zKZ->PT zKZ
 |0,_=>.out
 |k+1,t=>T.begins.bind fun b=>if b then F.bind fun u=>T.negation_l1 F k (zKZ.mk 26 0 [] [] [t,u]) else .ret t
def T.level_l1(F:Int->PT zKZ)(n n2:Int):Nat->zKZ->PT zKZ
 |0,_=>.out
 |k+1,t=>(T.ops n OPS).bind fun o=>if eqI o 0 then .ret t else .nx fun _=>
  if eqI n 1 then (F n).bind fun u=>.ret (zKZ.mk 32 o [] [] [t,u])
  else if eqI n 2 then (F n).bind fun u=>.ret (zKZ.mk 32 o [] [] [t,u])
  else if eqI n 4 then (F n).bind fun u=>.ret (zKZ.mk 32 o [] [] [t,u])
  else if eqI n 3 then (F (n+1)).bind fun u=>.ret (zKZ.mk 32 o [] [] [t,u])
  else (F n2).bind fun u=>T.level_l1 F n n2 k (zKZ.mk 32 o [] [] [t,u])
def T.decl_l1:Nat->Nms->PT Nms
 |0,_=>.out
 |k+1,l=>.kd 1 fun b=>if b then (T.name 1).bind fun t=>(PT.ofO (app 16 l [t])).bind fun l2=>T.decl_l1 k l2 else .ret l
def T.let_l1(F:PT zKZ):Nat->List zKZ->PT (List zKZ)
 |0,_=>.out
 |k+1,l=>(T.skip [105,110]).bind fun b=>if !b then F.bind fun v=>(PT.ofO (app 80 l [v])).bind fun l2=>T.let_l1 F k l2 else .ret l
mutual
def T.inside:Nat->PT zKZ
 |0=>.out
 |fuel+1=>(T.skip [41]).bind fun b=>if b then .ret (leaf 27)
  else (T.skip [112,97,99,107]).bind fun b=>if b then (T.mods fuel).bind fun l=>(T.want [58]).bind fun _=>(T.mods fuel).bind fun m=>(T.want [41]).bind fun _=>.ret (zKZ.mk 34 0 [] l [zKZ.mk 72 0 [] m []])
  else (T.expr fuel).bind fun t=>(T.skip [58]).bind fun b=>if b then (T.typ fuel).bind fun u=>(PT.ofO (app 80 [t] [u])).bind fun l=>(T.want [41]).bind fun _=>.ret (zKZ.mk 33 0 [] [] l)
  else (T.sep [44] (T.expr fuel) fuel [t]).bind fun l=>(T.want [41]).bind fun _=>if eqI (l.length:Int) 1 then (PT.ofO l[0]?).bind .ret else .ret (zKZ.mk 27 0 [] [] l)
def T.choice:Nat->PT zKZ
 |0=>.out
 |fuel+1=>(T.expr fuel).bind fun t=>(T.want [111,102]).bind fun _=>T.choice_l1 fuel (T.expr fuel) fuel [t]
def T.negation:Nat->PT zKZ
 |0=>.out
 |fuel+1=>(T.skip [126]).bind fun b=>if b then (T.negation fuel).bind fun t=>.ret (zKZ.mk 32 12 [] [] [t])
  else (T.atom fuel).bind fun t=>(T.negation_l1 (T.atom fuel) fuel t).bind .ret
def T.level:Nat->Int->PT zKZ
 |0,_=>.out
 |fuel+1,n=>if eqI n 7 then (T.negation fuel).bind .ret
  else (PT.ofO (chk .i64 (n+1))).bind fun m=>(T.level fuel m).bind fun t=>T.level_l1 (T.level fuel) n m fuel t
def T.expr:Nat->PT zKZ
 |0=>.out
 |fuel+1=>(T.skip [102,110]).bind fun b=>if b then (T.skip [95]).bind fun b=>if !b then
  (T.name 1).bind fun s=>(T.want [61,62]).bind fun _=>(T.expr fuel).bind fun t=>.ret (zKZ.mk 25 0 s [] [t])
  else (T.want [61,62]).bind fun _=>(T.expr fuel).bind fun t=>.ret (zKZ.mk 25 0 [] [] [t])
  else (T.skip [105,102]).bind fun b=>if b then (T.expr fuel).bind fun t=>(T.want [116,104,101,110]).bind fun _=>(T.expr fuel).bind fun u=>(PT.ofO (app 80 [t] [u])).bind fun l=>
   (T.want [101,108,115,101]).bind fun _=>(T.expr fuel).bind fun v=>(PT.ofO (app 80 l [v])).bind fun l2=>.ret (zKZ.mk 28 0 [] [] l2)
  else (T.level fuel 1).bind .ret
def T.decl:Nat->PT zKZ
 |0=>.out
 |fuel+1=>(T.skip [118,97,108]).bind fun b=>if b then (T.name 1).bind fun s=>(T.want [61]).bind fun _=>(T.expr fuel).bind fun t=>.ret (zKZ.mk 41 0 s [] [t])
  else (T.skip [102,117,110]).bind fun b=>if b then (T.name 1).bind fun s=>(T.name 1).bind fun x=>(T.decl_l1 fuel [x]).bind fun l=>(T.want [61]).bind fun _=>(T.expr fuel).bind fun t=>.ret (zKZ.mk 42 0 s l [t])
  else (T.want [115,116,114,117,99,116,117,114,101]).bind fun _=>(T.name 2).bind fun s=>(T.want [61]).bind fun _=>(T.want [117,110,112,97,99,107]).bind fun _=>(T.atom fuel).bind fun t=>
   (T.want [58]).bind fun _=>(T.mods fuel).bind fun m=>(PT.ofO (app 80 [t] [zKZ.mk 72 0 [] m []])).bind fun l=>.ret (zKZ.mk 50 0 s [] l)
def T.let:Nat->PT zKZ
 |0=>.out
 |fuel+1=>(T.let_l1 (T.decl fuel) fuel []).bind fun L=>(T.expr fuel).bind fun t=>(PT.ofO (app 80 L [t])).bind fun l=>(T.want [101,110,100]).bind fun _=>.ret (zKZ.mk 31 0 [] [] l)
def T.atom:Nat->PT zKZ
 |0=>.out
 |fuel+1=>.kd 4 fun b=>if b then (T.number fuel).bind fun n=>.ret (zKZ.mk 21 n [] [] [])
  else .kd 5 fun b=>if b then (T.name 5).bind fun s=>.ret (zKZ.mk 22 0 s [] [])
  else T.named.bind fun b=>if b then (T.path fuel true).bind fun v=>if v.2 then .ret (zKZ.mk 23 0 [] v.1 []) else .ret (zKZ.mk 24 0 [] v.1 [])
  else (T.skip [108,101,116]).bind fun b=>if b then (T.let fuel).bind .ret
  else (T.skip [99,97,115,101]).bind fun b=>if b then (T.choice fuel).bind .ret
  else (T.want [40]).bind fun _=>(T.inside fuel).bind .ret
end
section
variable {α β:Type}
abbrev St (α:Type):=Option (zKU ⊕ (α×zKU))
theorem run_then(x:PT α)(f:α->PT β)(w:zKU):(x.bind f).run w=(x.run w).bind fun v=>Sum.elim (fun e=>some (.inl e)) (fun v=>(f v.1).run v.2) v:=PT.run_bind f x w
theorem run_ite(c:Prop)[Decidable c](x y:PT α)(w:zKU):(if c then x else y).run w=if c then x.run w else y.run w:=by split<;>rfl
theorem zEu(c:Prop)[Decidable c](x y:PT α)(f:α->PT β):(if c then x else y).bind f=if c then x.bind f else y.bind f:=by split<;>rfl
theorem zFM(a:α)(w:zKU):(PT.ret a).run w=some (.inr (a,w)):=rfl
theorem zE8(x:Option α)(f:α->PT β)(w:zKU):((PT.ofO x).bind f).run w=x.bind fun v=>(f v).run w:=by cases x<;>rfl
theorem zJ0(n:Int)(f:Bool->PT β)(w:zKU):(PT.kd n f).run w=(zAL n w).bind fun b=>(f b).run w:=by
 simp only[PT.run,zAL];cases idx w.l w.at_<;>rfl
theorem run_is(s:List UInt8)(f:Bool->PT β)(w:zKU):(PT.is s f).run w=(zAH s w).bind fun b=>(f b).run w:=by
 simp only[PT.run,zAH]
 cases idx w.l w.at_ with
 |none=>rfl
 |some t=>
  show(f (isB (ktk t) s)).run w=(f (if eqI t.Kind 6=true then eqS t.Text s else eqI t.Kind 7&&eqS t.Text s)).run w
  rw[show isB (ktk t) s=if eqI t.Kind 6=true then eqS t.Text s else eqI t.Kind 7&&eqS t.Text s from ?_]
  simp only[isB,ktk]
  cases eqI t.Kind 6<;>simp
theorem zEo(s:List UInt8)(f:Bool->PT β)(w:zKU):((T.skip s).bind f).run w=(zAG s w).bind fun v=>(f v.1).run v.2:=by
 simp only[T.skip,PT.bind,run_is,zAG]
 cases h:zAH s w with
 |none=>rfl
 |some b=>
  cases b with
  |false=>rfl
  |true=>
   simp only[zAH] at h
   simp only[Option.bind_some,Bool.not_true,Bool.false_eq_true,if_false,PT.bind,PT.run]
   cases hi:idx w.l w.at_ with
   |none=>rw[hi] at h;cases h
   |some t=>
    simp only[Option.bind_some]
    cases chk .i64 (w.at_+1)<;>rfl
theorem zE6(s:List UInt8)(f:Unit->PT β)(w:zKU):((T.want s).bind f).run w=(zAK s w).bind fun v=>Sum.elim (fun e=>some (.inl e)) (fun v=>(f ()).run v) v:=by
 have h1:(T.want s).bind f=(T.skip s).bind fun b=>if !b then .fail else f ():=by
  simp only[T.want,T.skip,PT.bind]
  congr 1
  funext b
  cases b<;>rfl
 rw[h1,zEo]
 simp only[zAK]
 cases zAG s w with
 |none=>rfl
 |some v=>
  obtain⟨b,w⟩:=v
  cases b<;>rfl
theorem zFN(k:Int)(f:List UInt8->PT β)(w:zKU):((T.name k).bind f).run w=(zAR k w).bind fun v=>Sum.elim (fun e=>some (.inl w)) (fun v=>(f v.1).run v.2) v:=by
 simp only[T.name,PT.bind,zJ0,zAR]
 cases h:zAL k w with
 |none=>rfl
 |some b=>
  cases b with
  |false=>rfl
  |true=>
   simp only[Option.bind_some,Bool.not_true,Bool.false_eq_true,if_false,PT.bind,PT.run]
   simp only[zAL] at h
   cases hi:idx w.l w.at_ with
   |none=>rw[hi] at h;cases h
   |some t=>
    simp only[Option.bind_some]
    cases hc:chk .i64 (w.at_+1) with
    |none=>rfl
    |some a=>
     have ha:a=w.at_+1:=by
      rw[chk] at hc;split at hc
      ·cases hc;rfl
      ·cases hc
     subst ha
     rw[idx] at hi
     split at hi
     ·rename_i h0
      have hl:((w.at_.toNat:Nat):Int)=w.at_:=Int.toNat_of_nonneg h0
      have hc2:chk .i64 (w.at_+1-1)=some w.at_:=by
       rw[chk] at hc ⊢
       split at hc
       ·rename_i hr
        rw[if_pos]
        ·congr 1;omega
        ·have:=hr.1;have:=hr.2
         exact⟨by show(-9223372036854775808:Int)<=_;omega,by have h3:w.at_+1<=(9223372036854775807:Int):=hr.2;show _<=(9223372036854775807:Int);omega⟩
       ·cases hc
      simp only[Option.bind_some,hc2]
      rw[show idx w.l w.at_=some t by rw[idx,if_pos h0];exact hi]
      rfl
     ·cases hi
theorem zJz(f:Bool->PT β)(w:zKU):(T.named.bind f).run w=(zBE w).bind fun v=>(f v).run w:=by
 simp only[T.named,PT.bind,zEu,zJ0,run_ite,zBE]
 cases zAL 2 w with
 |none=>rfl
 |some b=>
  cases b with
  |true=>rfl
  |false=>cases h:zAL 1 w<;>simp[h]
theorem zHz(s:List UInt8)(f:Bool->PT β)(w:zKU):((T.anyOf [s]).bind f).run w=(zAH s w).bind fun b=>(f b).run w:=run_is s f w
theorem zHD(s s':List UInt8)(r:List (List UInt8))(f:Bool->PT β)(w:zKU):((T.anyOf (s::s'::r)).bind f).run w=(zAH s w).bind fun b=>if b then (f true).run w else ((T.anyOf (s'::r)).bind f).run w:=by
 show((PT.is s fun b=>if b then .ret true else T.anyOf (s'::r)).bind f).run w=_
 simp only[PT.bind,run_is]
 cases zAH s w with
 |none=>rfl
 |some b=>cases b<;>rfl
theorem run_begins(f:Bool->PT β)(w:zKU):(T.begins.bind f).run w=(zCA w).bind fun v=>(f v).run w:=by
 simp only[T.begins,PT.bind,zEu,zJ0,run_ite,zCA,zAL,zHD,zHz]
 cases idx w.l w.at_ with
 |none=>rfl
 |some t=>
  simp only[Option.bind_some]
  split
  ·rfl
  ·split
   ·rfl
   ·split
    ·rfl
    ·split
     ·rfl
     ·cases zAH [40] w with
      |none=>rfl
      |some b=>
       cases b with
       |true=>rfl
       |false=>
        simp only[Option.bind_some]
        cases zAH [108,101,116] w with
        |none=>rfl
        |some b=>
         cases b with
         |true=>rfl
         |false=>
          simp only[Option.bind_some]
          cases zAH [99,97,115,101] w<;>rfl
def MO(n:Int)(w:zKU):List (Int×List UInt8×Int)->Option Int
 |[]=>some 0
 |q::r=>(if eqI n q.1 then (zAH q.2.1 w).bind fun v=>some v else some false:Option Bool).bind fun b=>if b then some q.2.2 else MO n w r
theorem zJX(n:Int)(w:zKU):zBn n w=MO n w OPS:=rfl
theorem run_ops(n:Int)(f:Int->PT β)(w:zKU): ∀L,((T.ops n L).bind f).run w=(MO n w L).bind fun v=>(f v).run w
 |[]=>rfl
 |q::r=>by
  simp only[T.ops,MO,zEu,run_ite,PT.bind,run_is,run_ops n f w r]
  split
  ·cases zAH q.2.1 w with
   |none=>rfl
   |some b=>cases b<;>rfl
  ·rfl
end
abbrev Cps (α:Type) (T:PT α) (X:zKU->St α):Prop:= ∀w,T.run w=X w
theorem Cps.then{α β:Type}{T:PT α}{X:zKU->St α}(h:Cps α T X)(f:α->PT β)(w:zKU):
 (T.bind f).run w=(X w).bind fun v=>Sum.elim (fun e=>some (.inl e)) (fun v=>(f v.1).run v.2) v:=by rw[run_then,h w]
def ML(s:List UInt8)(F:zKU->St zKZ):Nat->(List zKX)->Int->(List zKZ)->Option (((zKU) ⊕ (zKZ×zKU)) ⊕ ((List zKZ)×(List zKX)×Int))
 |0,_,_,_=>none
 |k+1,l,a,x=>
  (zAG s (zKU.mk l a)).bind fun v=>
  if v.1 then
   (F v.2).bind fun v52=>
   Sum.elim (fun e54=>
    some (.inl (.inl e54))) (fun v55=>
    (app 80 x [v55.1]).bind fun l56=>
    ML s F k v55.2.l v55.2.at_ l56) v52
  else
   some (.inr (x,v.2.l,v.2.at_))
theorem ML_simple(F:zKU->St zKZ): ∀k l a x,zBM F k l a x=ML [44] F k l a x
 |0,_,_,_=>rfl
 |k+1,l,a,x=>by simp only[zBM,ML,ML_simple F k]
theorem ML_product(F:zKU->St zKZ): ∀k l a x,zBD F k l a x=ML [42] F k l a x
 |0,_,_,_=>rfl
 |k+1,l,a,x=>by simp only[zBD,ML,ML_product F k]
theorem zJs(F:zKU->St zKZ): ∀k l a x,zA9 F k l a x=ML [44] F k l a x
 |0,_,_,_=>rfl
 |k+1,l,a,x=>by simp only[zA9,ML,zJs F k]
theorem ML_inside(F:zKU->St zKZ): ∀k l a x,zBN F k l a x=ML [44] F k l a x
 |0,_,_,_=>rfl
 |k+1,l,a,x=>by simp only[zBN,ML,ML_inside F k]
theorem sep_run(s:List UInt8){FT:PT zKZ}{FM:zKU->St zKZ}(hF:Cps _ FT FM)(f:List zKZ->PT zKZ): ∀k l a x,
 ((T.sep s FT k x).bind f).run (zKU.mk l a)=(ML s FM k l a x).bind fun o=>Sum.elim some (fun o=>(f o.1).run (zKU.mk o.2.1 o.2.2)) o
 |0,_,_,_=>rfl
 |k+1,l,a,x=>by
  simp only[T.sep,PT.bind_assoc,zEu,zEo,run_ite,PT.bind,hF.then,zE8,ML]
  cases zAG s (zKU.mk l a) with
  |none=>rfl
  |some v=>
   obtain⟨b,w⟩:=v
   cases b with
   |false=>rfl
   |true=>
    simp only[Option.bind_some,if_true]
    cases FM w with
    |none=>rfl
    |some r=>
     cases r with
     |inl e=>rfl
     |inr v=>
      simp only[Option.bind_some,Sum.elim_inr]
      cases app 80 x [v.1] with
      |none=>rfl
      |some l2=>exact sep_run s hF f k v.2.l v.2.at_ l2
theorem zJV(cap:Bool){β:Type}(f:(Nms×Bool) ⊕ Nms->PT β): ∀k l a x,
 ((T.path_l1 cap k x).bind f).run (zKU.mk l a)=(zA3 cap k l a x).bind fun o=>
  Sum.elim (Sum.elim (fun e=>some (.inl e)) (fun v=>(f (.inl (v.1,v.2.1))).run v.2.2)) (fun o=>(f (.inr o.1)).run (zKU.mk o.2.1 o.2.2)) o
 |0,_,_,_=>rfl
 |k+1,l,a,x=>by
  simp only[T.path_l1,PT.bind_assoc,zEu,zJ0,run_is,zFN,zE6,run_ite,PT.bind,zE8,zA3]
  cases zAL 2 (zKU.mk l a) with
  |none=>rfl
  |some b=>
   cases b with
   |false=>rfl
   |true=>
    simp only[Option.bind_some,if_true]
    cases zAR 2 (zKU.mk l a) with
    |none=>rfl
    |some r=>
     cases r with
     |inl e=>rfl
     |inr v=>
      simp only[Option.bind_some,Sum.elim_inr]
      cases app 16 x [v.1] with
      |none=>rfl
      |some l2=>
       have step:((T.want [46]).bind fun _=>(T.path_l1 cap k l2).bind f).run v.2=((zAK [46] v.2).bind fun v28=>
        Sum.elim (fun e30=>some (.inl (.inl e30))) (fun v31=>zA3 cap k v31.l v31.at_ l2) v28).bind fun o=>
        Sum.elim (Sum.elim (fun e=>some (.inl e)) (fun v=>(f (.inl (v.1,v.2.1))).run v.2.2)) (fun o=>(f (.inr o.1)).run (zKU.mk o.2.1 o.2.2)) o:=by
        rw[zE6]
        cases zAK [46] v.2 with
        |none=>rfl
        |some r=>
         cases r with
         |inl e=>rfl
         |inr u=>exact zJV cap f k u.l u.at_ l2
       rw[zE6] at step
       cases cap with
       |false=>simpa using step
       |true=>
        simp only[Option.bind_some,if_true]
        cases zAH [46] v.2 with
        |none=>rfl
        |some c=>
         cases c with
         |false=>rfl
         |true=>simpa using step
theorem run_path(fuel:Nat)(cap:Bool){β:Type}(f:Nms×Bool->PT β)(w:zKU):
 ((T.path fuel cap).bind f).run w=(zB0 fuel cap w).bind fun v=>Sum.elim (fun e=>some (.inl e)) (fun v=>(f (v.1,v.2.1)).run v.2.2) v:=by
 simp only[T.path,PT.bind_assoc,zB0]
 rw[show w=zKU.mk w.l w.at_ from rfl,zJV]
 cases zA3 cap fuel w.l w.at_ [] with
 |none=>rfl
 |some o=>
  cases o with
  |inl e=>cases e<;>rfl
  |inr o=>
   simp only[Option.bind_some,Sum.elim_inr,PT.bind_assoc,zFN,zE8,PT.bind]
   cases zAR 1 (zKU.mk o.2.1 o.2.2) with
   |none=>rfl
   |some r=>
    cases r with
    |inl e=>rfl
    |inr v=>
     simp only[Option.bind_some,Sum.elim_inr]
     cases app 16 o.1 [v.1]<;>rfl
theorem zIY(fuel:Nat)(args:List zKZ){β:Type}(f:zKZ->PT β)(w:zKU):
 ((T.typePath fuel args).bind f).run w=(zBA fuel args w).bind fun v=>Sum.elim (fun e=>some (.inl e)) (fun v=>(f v.1).run v.2) v:=by
 simp only[T.typePath,PT.bind_assoc,zBA,run_path]
 cases zB0 fuel false w with
 |none=>rfl
 |some r=>cases r<;>rfl
theorem zJb{β:Type}(E:Nms×zKU->St β)(f:Nms->PT β): ∀k l a x,
 ((T.mods_l1 k x).bind f).run (zKU.mk l a)=(zAr k l a x).bind fun o=>
  Sum.elim (Sum.elim (fun e=>some (.inl e)) E) (fun o=>(f o.1).run (zKU.mk o.2.1 o.2.2)) o
 |0,_,_,_=>rfl
 |k+1,l,a,x=>by
  simp only[T.mods_l1,PT.bind_assoc,zEu,zEo,zFN,run_ite,PT.bind,zE8,zAr]
  cases zAG [46] (zKU.mk l a) with
  |none=>rfl
  |some v=>
   obtain⟨b,w⟩:=v
   cases b with
   |false=>rfl
   |true=>
    simp only[Option.bind_some,if_true]
    cases zAR 2 w with
    |none=>rfl
    |some r=>
     cases r with
     |inl e=>rfl
     |inr v=>
      simp only[Option.bind_some,Sum.elim_inr]
      cases app 16 x [v.1] with
      |none=>rfl
      |some l2=>exact zJb E f k v.2.l v.2.at_ l2
theorem zIZ(fuel:Nat){β:Type}(f:Nms->PT β)(w:zKU):
 ((T.mods fuel).bind f).run w=(zAj fuel w).bind fun v=>Sum.elim (fun e=>some (.inl e)) (fun v=>(f v.1).run v.2) v:=by
 simp only[T.mods,PT.bind_assoc,zAj,zFN]
 cases zAR 2 w with
 |none=>rfl
 |some r=>
  cases r with
  |inl e=>rfl
  |inr v=>
   simp only[Option.bind_some,Sum.elim_inr]
   rw[show v.2=zKU.mk v.2.l v.2.at_ from rfl,zJb (fun v=>(f v.1).run v.2)]
   cases zAr fuel v.2.l v.2.at_ [v.1] with
   |none=>rfl
   |some o=>
    cases o with
    |inl e=>cases e<;>rfl
    |inr o=>rfl
theorem zHH(fuel:Nat)(f:zKZ->PT zKZ): ∀k l a (t:zKZ),
 ((T.pfx_l1 fuel k t).bind f).run (zKU.mk l a)=(zAy fuel k l a t.Op t.N t.S t.Names t.L).bind fun o=>
  Sum.elim some (fun o=>(f (zKZ.mk o.2.2.1 o.2.2.2.1 o.2.2.2.2.1 o.2.2.2.2.2.1 o.2.2.2.2.2.2)).run (zKU.mk o.1 o.2.1)) o
 |0,_,_,_=>rfl
 |k+1,l,a,t=>by
  obtain⟨op,n,sx,nm,tl⟩:=t
  simp only[T.pfx_l1,PT.bind_assoc,zEu,zJz,zIY,run_ite,PT.bind,zAy]
  cases zBE (zKU.mk l a) with
  |none=>rfl
  |some b=>
   cases b with
   |false=>rfl
   |true=>
    simp only[Option.bind_some,if_true]
    cases zBA fuel [zKZ.mk op n sx nm tl] (zKU.mk l a) with
    |none=>rfl
    |some r=>
     cases r with
     |inl e=>rfl
     |inr v=>
      simp only[Option.bind_some,Sum.elim_inr]
      exact zHH fuel f k v.2.l v.2.at_ v.1
theorem run_number(fuel:Nat){β:Type}(f:Int->PT β)(w:zKU):
 ((T.number fuel).bind f).run w=(zBj fuel w).bind fun v=>Sum.elim (fun e=>some (.inl w)) (fun v=>(f v.1).run v.2) v:=by
 simp only[T.number,PT.bind_assoc,zBj,zFN,zE8,PT.bind]
 cases zAR 4 w with
 |none=>rfl
 |some r=>
  cases r with
  |inl e=>rfl
  |inr v=>
   simp only[Option.bind_some,Sum.elim_inr]
   cases zCv fuel v.1<;>rfl
theorem zH7(fuel:Nat)(hP:Cps _ (T.pattern fuel) (zAc fuel)){FT:PT zKZ}{FM:zKU->St zKZ}(hF:Cps _ FT FM): ∀k l a x,
 (T.choice_l1 fuel FT k x).run (zKU.mk l a)=zA6 fuel FM k l a x
 |0,_,_,_=>rfl
 |k+1,l,a,x=>by
  simp only[T.choice_l1,PT.bind_assoc,zEu,zEo,zE6,run_ite,PT.bind,hP.then,hF.then,zE8,zFM,zA6]
  congr 1;funext v;congr 1;funext v;congr 1;funext v;congr 1;funext v;congr 1;funext v;congr 1;funext v;congr 1;funext l1;congr 1;funext l2;congr 1;funext u
  rw[show u.2=zKU.mk u.2.l u.2.at_ from rfl,zH7 fuel hP hF k]
theorem zGj{FT:PT zKZ}{FM:zKU->St zKZ}(hF:Cps _ FT FM)(f:zKZ->PT zKZ): ∀k l a (t:zKZ),
 ((T.negation_l1 FT k t).bind f).run (zKU.mk l a)=(zAu FM k l a t.Op t.N t.S t.Names t.L).bind fun o=>
  Sum.elim some (fun o=>(f (zKZ.mk o.2.2.1 o.2.2.2.1 o.2.2.2.2.1 o.2.2.2.2.2.1 o.2.2.2.2.2.2)).run (zKU.mk o.1 o.2.1)) o
 |0,_,_,_=>rfl
 |k+1,l,a,t=>by
  obtain⟨op,n,sx,nm,tl⟩:=t
  simp only[T.negation_l1,PT.bind_assoc,zEu,run_begins,hF.then,run_ite,PT.bind,zAu]
  cases zCA (zKU.mk l a) with
  |none=>rfl
  |some b=>
   cases b with
   |false=>rfl
   |true=>
    simp only[Option.bind_some,if_true]
    cases FM (zKU.mk l a) with
    |none=>rfl
    |some r=>
     cases r with
     |inl e=>rfl
     |inr v=>
      simp only[Option.bind_some,Sum.elim_inr]
      exact zGj hF f k v.2.l v.2.at_ (zKZ.mk 26 0 [] [] [zKZ.mk op n sx nm tl,v.1])
theorem MO_idx(n:Int)(w:zKU)(hi:idx w.l w.at_=none): ∀L o,MO n w L=some o->o=0
 |[],o,h=>(zqa h).symm
 |q::r,o,h=>by
  simp only[MO,zAH,hi] at h
  split at h
  ·cases h
  ·exact MO_idx n w hi r o h
theorem run_nx(n:Int){o:Int}(w:zKU){β:Type}(x:PT β)(h:zBn n w=some o)(h0:eqI o 0=false):(PT.nx fun _=>x).run w=(chk .i64 (w.at_+1)).bind fun a=>x.run (zKU.mk w.l a):=by
 simp only[PT.run]
 cases hi:idx w.l w.at_ with
 |some t=>rfl
 |none=>
  rw[zJX] at h
  have:=MO_idx n w hi OPS o h
  subst this;cases h0
theorem zIo{FT:Int->PT zKZ}{FM:Int->zKU->St zKZ}(hF: ∀n,Cps _ (FT n) (FM n))(n n2:Int): ∀k l a (t:zKZ),
 (T.level_l1 FT n n2 k t).run (zKU.mk l a)=zBB FM n n2 k l a t.Op t.N t.S t.Names t.L
 |0,_,_,_=>rfl
 |k+1,l,a,t=>by
  obtain⟨op,m,sx,nm,tl⟩:=t
  simp only[T.level_l1,run_ops,<-zJX,zBB]
  cases ho:zBn n (zKU.mk l a) with
  |none=>rfl
  |some o=>
   simp only[Option.bind_some]
   cases h0:eqI o 0 with
   |true=>rfl
   |false=>
    simp only[Bool.false_eq_true,if_false]
    rw[run_nx n _ _ ho h0]
    simp only[run_ite,(hF _).then,zFM]
    congr 1;funext b
    split;· rfl
    split;· rfl
    split;· rfl
    split;· rfl
    congr 1;funext v
    cases v with
    |inl e=>rfl
    |inr v=>exact zIo hF n n2 k v.2.l v.2.at_ _
theorem zJn(f:Nms->PT zKZ): ∀k l a x,
 ((T.decl_l1 k x).bind f).run (zKU.mk l a)=(zBI k l a x).bind fun o=>
  Sum.elim some (fun o=>(f o.2.2).run (zKU.mk o.1 o.2.1)) o
 |0,_,_,_=>rfl
 |k+1,l,a,x=>by
  simp only[T.decl_l1,PT.bind_assoc,zEu,zJ0,zFN,run_ite,PT.bind,zE8,zBI]
  cases zAL 1 (zKU.mk l a) with
  |none=>rfl
  |some b=>
   cases b with
   |false=>rfl
   |true=>
    simp only[Option.bind_some,if_true]
    cases zAR 1 (zKU.mk l a) with
    |none=>rfl
    |some r=>
     cases r with
     |inl e=>rfl
     |inr v=>
      simp only[Option.bind_some,Sum.elim_inr]
      cases app 16 x [v.1] with
      |none=>rfl
      |some l2=>exact zJn f k v.2.l v.2.at_ l2
theorem let_l1_run{FT:PT zKZ}{FM:zKU->St zKZ}(hF:Cps _ FT FM)(f:List zKZ->PT zKZ): ∀k l a x,
 ((T.let_l1 FT k x).bind f).run (zKU.mk l a)=(zBQ FM k l a x).bind fun o=>Sum.elim some (fun o=>(f o.2.2).run (zKU.mk o.1 o.2.1)) o
 |0,_,_,_=>rfl
 |k+1,l,a,x=>by
  simp only[T.let_l1,PT.bind_assoc,zEu,zEo,run_ite,PT.bind,hF.then,zE8,zBQ]
  cases zAG [105,110] (zKU.mk l a) with
  |none=>rfl
  |some v=>
   obtain⟨b,w⟩:=v
   cases b with
   |true=>rfl
   |false=>
    simp only[Option.bind_some,Bool.not_false,if_true]
    cases FM w with
    |none=>rfl
    |some r=>
     cases r with
     |inl e=>rfl
     |inr v=>
      simp only[Option.bind_some,Sum.elim_inr]
      cases app 80 x [v.1] with
      |none=>rfl
      |some l2=>exact let_l1_run hF f k v.2.l v.2.at_ l2
theorem sep_w(s:List UInt8){FT:PT zKZ}{FM:zKU->St zKZ}(hF:Cps _ FT FM)(f:List zKZ->PT zKZ)(k:Nat)(x:List zKZ)(w:zKU):
 ((T.sep s FT k x).bind f).run w=(ML s FM k w.l w.at_ x).bind fun o=>Sum.elim some (fun o=>(f o.1).run (zKU.mk o.2.1 o.2.2)) o:=sep_run s hF f k w.l w.at_ x
theorem postfix_w(fuel:Nat)(f:zKZ->PT zKZ)(k:Nat)(t:zKZ)(w:zKU):
 ((T.pfx_l1 fuel k t).bind f).run w=(zAy fuel k w.l w.at_ t.Op t.N t.S t.Names t.L).bind fun o=>
  Sum.elim some (fun o=>(f (zKZ.mk o.2.2.1 o.2.2.2.1 o.2.2.2.2.1 o.2.2.2.2.2.1 o.2.2.2.2.2.2)).run (zKU.mk o.1 o.2.1)) o:=zHH fuel f k w.l w.at_ t
theorem negation_w{FT:PT zKZ}{FM:zKU->St zKZ}(hF:Cps _ FT FM)(f:zKZ->PT zKZ)(k:Nat)(t:zKZ)(w:zKU):
 ((T.negation_l1 FT k t).bind f).run w=(zAu FM k w.l w.at_ t.Op t.N t.S t.Names t.L).bind fun o=>
  Sum.elim some (fun o=>(f (zKZ.mk o.2.2.1 o.2.2.2.1 o.2.2.2.2.1 o.2.2.2.2.2.1 o.2.2.2.2.2.2)).run (zKU.mk o.1 o.2.1)) o:=zGj hF f k w.l w.at_ t
theorem choice_w(fuel:Nat)(hP:Cps _ (T.pattern fuel) (zAc fuel)){FT:PT zKZ}{FM:zKU->St zKZ}(hF:Cps _ FT FM)(k:Nat)(x:List zKZ)(w:zKU):
 (T.choice_l1 fuel FT k x).run w=zA6 fuel FM k w.l w.at_ x:=zH7 fuel hP hF k w.l w.at_ x
theorem level_w{FT:Int->PT zKZ}{FM:Int->zKU->St zKZ}(hF: ∀n,Cps _ (FT n) (FM n))(n n2:Int)(k:Nat)(t:zKZ)(w:zKU):
 (T.level_l1 FT n n2 k t).run w=zBB FM n n2 k w.l w.at_ t.Op t.N t.S t.Names t.L:=zIo hF n n2 k w.l w.at_ t
theorem decl_w(f:Nms->PT zKZ)(k:Nat)(x:Nms)(w:zKU):
 ((T.decl_l1 k x).bind f).run w=(zBI k w.l w.at_ x).bind fun o=>Sum.elim some (fun o=>(f o.2.2).run (zKU.mk o.1 o.2.1)) o:=zJn f k w.l w.at_ x
theorem let_w{FT:PT zKZ}{FM:zKU->St zKZ}(hF:Cps _ FT FM)(f:List zKZ->PT zKZ)(k:Nat)(x:List zKZ)(w:zKU):
 ((T.let_l1 FT k x).bind f).run w=(zBQ FM k w.l w.at_ x).bind fun o=>Sum.elim some (fun o=>(f o.2.2).run (zKU.mk o.1 o.2.1)) o:=let_l1_run hF f k w.l w.at_ x
theorem zJu: ∀fuel,Cps _ (T.simple fuel) (zB7 fuel)∧Cps _ (T.pfx fuel) (zBH fuel)∧Cps _ (T.product fuel) (zBx fuel)∧Cps _ (T.typ fuel) (zAq fuel)
 |0=>⟨fun _=>rfl,fun _=>rfl,fun _=>rfl,fun _=>rfl⟩
 |fuel+1=>by
  obtain⟨h1,h2,h3,h4⟩:=zJu fuel
  have ss:=sep_w [44] h4
  have sp:=sep_w [42] h2
  refine⟨fun w=>?_,fun w=>?_,fun w=>?_,fun w=>?_⟩
  ·simp only[T.simple,zB7,ML_simple,zJ0,run_ite,zFN,zFM,zEo,zIY,zIZ,zE6,h4.then,ss,zE8]
  ·simp only[T.pfx,zBH,h1.then,zFM,postfix_w]
  ·simp only[T.product,zBx,ML_product,h2.then,zFM,run_ite,zE8,sp]
  ·simp only[T.typ,zAq,h3.then,zEo,run_ite,h4.then,zFM]
theorem pats_run: ∀fuel,Cps _ (T.argument fuel) (zBS fuel)∧Cps _ (T.pattern fuel) (zAc fuel)
 |0=>⟨fun _=>rfl,fun _=>rfl⟩
 |fuel+1=>by
  obtain⟨h1,h2⟩:=pats_run fuel
  have ss:=sep_w [44] h2
  refine⟨fun w=>?_,fun w=>?_⟩
  ·simp only[T.argument,zBS,zJs,zJ0,run_ite,zFN,zFM,zEo,run_number,zIZ,zE6,h2.then,ss,zE8]
  ·simp only[T.pattern,zAc,zJ0,run_ite,h1.then,zFM,zIZ,PT.bind_assoc,zEu,zJz,PT.bind,zHD,zHz]
   congr 1;funext b
   split
   ·rfl
   ·congr 1;funext v
    cases v with
    |inl e=>rfl
    |inr v=>
     simp only[Sum.elim_inr]
     cases zBE v.2 with
     |none=>rfl
     |some b=>
      cases b with
      |true=>rfl
      |false=>
       simp only[Option.bind_some,Bool.false_eq_true,if_false]
       cases zAL 4 v.2 with
       |none=>rfl
       |some b=>
        cases b with
        |true=>rfl
        |false=>
         simp only[Option.bind_some,Bool.false_eq_true,if_false]
         cases zAH [95] v.2 with
         |none=>rfl
         |some b=>
          cases b with
          |true=>rfl
          |false=>
           simp only[Option.bind_some,Bool.false_eq_true,if_false]
           cases zAH [126] v.2 with
           |none=>rfl
           |some b=>
            cases b with
            |true=>rfl
            |false=>
             simp only[Option.bind_some,Bool.false_eq_true,if_false]
             cases zAH [40] v.2<;>rfl
theorem exprs_run: ∀fuel,Cps _ (T.inside fuel) (zB8 fuel)∧Cps _ (T.choice fuel) (zB9 fuel)∧Cps _ (T.negation fuel) (zBR fuel)∧(∀n,Cps _ (T.level fuel n) (zBF fuel n))∧
 Cps _ (T.expr fuel) (zAV fuel)∧Cps _ (T.decl fuel) (zB1 fuel)∧Cps _ (T.let fuel) (zCV fuel)∧Cps _ (T.atom fuel) (zAw fuel)
 |0=>⟨fun _=>rfl,fun _=>rfl,fun _=>rfl,fun _ _=>rfl,fun _=>rfl,fun _=>rfl,fun _=>rfl,fun _=>rfl⟩
 |fuel+1=>by
  obtain⟨h1,h2,h3,h4,h5,h6,h7,h8⟩:=exprs_run fuel
  have ht:=(zJu fuel).2.2.2
  have hp:=(pats_run fuel).2
  have ss:=sep_w [44] h5
  have sl:=let_w h6
  refine⟨fun w=>?_,fun w=>?_,fun w=>?_,fun n w=>?_,fun w=>?_,fun w=>?_,fun w=>?_,fun w=>?_⟩
  ·simp only[T.inside,zB8,ML_inside,run_ite,zFM,zEo,zIZ,zE6,h5.then,ht.then,ss,zE8]
  ·simp only[T.choice,zB9,h5.then,zE6,choice_w fuel hp h5]
  ·simp only[T.negation,zBR,zEo,run_ite,h3.then,h8.then,zFM,negation_w h8]
  ·simp only[T.level,zBF,run_ite,h3.then,zFM,zE8,(h4 _).then,level_w h4]
  ·simp only[T.expr,zAV,zEo,run_ite,zFN,zE6,h5.then,zFM,zE8,(h4 _).then]
  ·simp only[T.decl,zB1,zEo,run_ite,zFN,zE6,h5.then,zFM,zE8,h8.then,zIZ,decl_w]
  ·simp only[T.let,zCV,h5.then,zFM,zE8,zE6,sl]
  ·simp only[T.atom,zAw,zJ0,run_number,zFM,run_ite,zFN,zJz,run_path,zEo,zE6,h1.then,h2.then,h7.then]
end Go.Proofs.YtcbjbgiboimgaaaGreatDoor
set_option linter.unusedVariables false
set_option linter.unusedSimpArgs false
set_option maxRecDepth 100000
namespace Go.Proofs.YtcbjbgiboimgaaaGreatDoor
open Go Go.Abs
theorem appA{α:Type}{b:Nat}{x y:List α}(h:0<b)(h2:(x.length+y.length)*b<=140737488355328):app b x y=some (x++y):=by rw[app,if_pos ⟨h,h2⟩]
theorem zF3(c:UInt8): ∃n,zDh c=some n∧(n=3->48<=c.toNat):=by
 unfold zDh
 simp only[leI,eqI,Bool.and_eq_true,decide_eq_true_eq]
 split
 ·exact⟨1,rfl,fun h=>by omega⟩
 ·split
  ·exact⟨2,rfl,fun h=>by omega⟩
  ·split
   ·exact⟨3,rfl,fun _=>by omega⟩
   ·split
    ·exact⟨4,rfl,fun h=>by omega⟩
    ·split
     ·exact⟨5,rfl,fun h=>by omega⟩
     ·exact⟨0,rfl,fun h=>by omega⟩
theorem zF8(s:List UInt8): ∀(n i k:Nat),i+n=s.length->n+1<=k->∃o,zBf s k i=some o∧(o=.inr ()∨o=.inl (0,3))∧(o=.inr ()->∀c,s[i]? =some c->48<=c.toNat)
 |0,i,k+1,h,hk=>by
  have h1:ltI (i:Int) (s.length:Int)=false:=by simp only[ltI,decide_eq_false_iff_not];omega
  refine⟨.inr (),?_,.inl rfl,fun _ c hc=>?_⟩
  ·rw[zBf,h1];rfl
  ·rw[List.getElem?_eq_none (by omega)] at hc;cases hc
 |n+1,i,k+1,h,hk=>by
  have h1:ltI (i:Int) (s.length:Int)=true:=by simp only[ltI,decide_eq_true_eq];omega
  have hi:i<s.length:=by omega
  rw[zBf,h1,if_pos rfl,List.getElem?_eq_getElem hi]
  obtain⟨m,hm,h3⟩:=zF3 s[i]
  simp only[Option.bind_some,hm]
  cases he:eqI m 3 with
  |false=>exact⟨.inl (0,3),by simp,.inr rfl,fun h=>by cases h⟩
  |true=>
   obtain⟨o,ho,hoo,hc⟩:=zF8 s n (i+1) k (by omega) (by omega)
   refine⟨o,by simpa using ho,hoo,fun _ c hc=>?_⟩
   cases hc
   simp only[eqI,decide_eq_true_eq] at he
   exact h3 he
theorem zKI(s:List UInt8)(hs:s.length<=20000){fuel:Nat}(hf:s.length+1<=fuel): ∃v,zCv fuel s=some v∧-4503599627370496<=-v.1∧-v.1<=0:=by
 simp only[zCv]
 have hb: ∃b,((if eqS s ([]:List UInt8) then some true else if ltI 1 (s.length:Int) then (s[0]?).bind fun c6=>some (eqI (c6.toNat:Int) 48) else some false:Option Bool))=some b∧(s=[]->b=true):=by
  by_cases h:s=[]
  ·exact⟨true,by simp[eqS,h],fun _=>rfl⟩
  ·rw[if_neg (by simp[eqS,h])]
   split
   ·rename_i h1
    simp only[ltI,decide_eq_true_eq] at h1
    rw[List.getElem?_eq_getElem (by omega)]
    exact⟨_,rfl,fun h'=>absurd h' h⟩
   ·exact⟨_,rfl,fun h'=>absurd h' h⟩
 obtain⟨b,hb,hb2⟩:=hb
 rw[hb]
 simp only[Option.bind_some]
 cases b with
 |true=>exact⟨(0,3),rfl,by decide,by decide⟩
 |false=>
  have hne:s≠[]:=fun h=>by cases hb2 h
  rw[show zKQ s=some s by rw[zKQ,if_pos (by omega)]]
  obtain⟨o,ho,hoo,hc⟩:=zF8 s s.length 0 fuel (by omega) (by omega)
  simp only[Bool.false_eq_true,if_false,Option.bind_some,ho]
  rcases hoo with rfl|rfl
  ·have h48:=hc rfl
   simp only[Sum.elim_inr]
   have ha: ∃u b,zEh s=some (u,b)∧0<=u:=by
    rw[zEh,if_pos (by omega)]
    cases s with
    |nil=>exact absurd rfl hne
    |cons c r=>
     have h48:=h48 c rfl
     unfold Lib.atoiAll Lib.atoiSat
     simp only
     split
     ·rename_i v hv
      refine⟨v,false,rfl,?_⟩
      split at hv
      ·cases hv
      ·cases hv
      ·split at hv
       ·cases hv
       ·split at hv
        ·cases hv
        ·cases hv
         rw[if_neg (by omega)];omega
     ·refine⟨_,true,rfl,?_⟩
      rw[if_neg (by simp;omega)];decide
     ·exact⟨0,true,rfl,by decide⟩
   obtain⟨u,b,hu,h0⟩:=ha
   simp only[hu,Option.bind_some]
   cases b with
   |true=>exact⟨(0,6),rfl,by decide,by decide⟩
   |false=>
    simp only[Bool.false_eq_true,if_false]
    split
    ·exact⟨(0,6),rfl,by decide,by decide⟩
    ·rename_i h
     simp only[ltI,decide_eq_true_eq] at h
     exact⟨(u,0),rfl,by show _<=-u;omega,by show -u<=0;omega⟩
  ·exact⟨(0,3),rfl,by decide,by decide⟩
theorem zHQ(s:List UInt8): ∀(k i:Nat) o,zBf s k i=some o->zBf s (k+1) i=some o
 |0,i,o,h=>by cases h
 |k+1,i,o,h=>by
  rw[zBf] at h ⊢
  split
  ·rename_i h1
   rw[if_pos h1] at h
   cases hc:s[i]? with
   |none=>rw[hc] at h;cases h
   |some c=>
    rw[hc] at h
    obtain⟨m,hm,-⟩:=zF3 c
    simp only[Option.bind_some,hm] at h ⊢
    split
    ·rename_i h2;rw[if_pos h2] at h;exact h
    ·rename_i h2;rw[if_neg h2] at h;exact zHQ s k (i+1) o h
  ·rename_i h1
   rw[if_neg h1] at h;exact h
theorem Number_mono(s:List UInt8)(fuel:Nat): ∀v,zCv fuel s=some v->zCv (fuel+1) s=some v:=by
 intro v h
 simp only[zCv] at h ⊢
 generalize hB:((if eqS s ([]:List UInt8) then some true else if ltI 1 (s.length:Int) then (s[0]?).bind fun c6=>some (eqI (c6.toNat:Int) 48) else some false:Option Bool))=B at h ⊢
 cases B with
 |none=>cases h
 |some b=>
  simp only[Option.bind_some] at h ⊢
  cases b with
  |true=>exact h
  |false=>
   simp only[Bool.false_eq_true,if_false] at h ⊢
   cases hl:zKQ s with
   |none=>rw[hl] at h;cases h
   |some l=>
    rw[hl] at h
    simp only[Option.bind_some] at h ⊢
    cases ho:zBf l fuel 0 with
    |none=>rw[ho] at h;cases h
    |some o=>rw[ho] at h;rw[zHQ l fuel 0 o ho];exact h
namespace PT
variable {α β:Type}
theorem le_ite(c:Prop)[Decidable c]{x y x' y':PT α}(h:le x x')(h2:le y y'):le (if c then x else y) (if c then x' else y'):=by split<;>assumption
theorem le_elim{γ δ:Type}(r:γ ⊕ δ){f f':γ->PT α}{g g':δ->PT α}(h: ∀a,le (f a) (f' a))(h2: ∀a,le (g a) (g' a)):le (Sum.elim f g r) (Sum.elim f' g' r):=by cases r with
 |inl a=>exact h a
 |inr a=>exact h2 a
end PT
open PT in
theorem path_l1_le(cap:Bool): ∀k x,PT.le (T.path_l1 cap k x) (T.path_l1 cap (k+1) x)
 |0,x=>.out _
 |k+1,x=>by
  have ih:=path_l1_le cap k
  rw[T.path_l1,T.path_l1]
  repeat' first|exact ih _|exact le_refl _|apply le_bind|apply PT.le.kd|apply le_ite|intro _
theorem path_le(fuel:Nat)(cap:Bool):PT.le (T.path fuel cap) (T.path (fuel+1) cap):=
 PT.le_bind (path_l1_le cap fuel []) fun _=>PT.le_refl _
theorem zJI(fuel:Nat)(x:List zKZ):PT.le (T.typePath fuel x) (T.typePath (fuel+1) x):=
 PT.le_bind (path_le fuel false) fun _=>PT.le_refl _
open PT in
theorem mods_l1_le: ∀k x,PT.le (T.mods_l1 k x) (T.mods_l1 (k+1) x)
 |0,x=>.out _
 |k+1,x=>by
  have ih:=mods_l1_le k
  rw[T.mods_l1,T.mods_l1]
  repeat' first|exact ih _|exact le_refl _|apply le_ite|apply le_bind|intro _
theorem mods_le(fuel:Nat):PT.le (T.mods fuel) (T.mods (fuel+1)):=
 PT.le_bind (PT.le_refl _) fun _=>mods_l1_le fuel _
theorem number_le(fuel:Nat):PT.le (T.number fuel) (T.number (fuel+1)):=
 PT.le_bind (PT.le_refl _) fun _=>PT.le_bind (PT.le_ofO (Number_mono _ fuel)) fun _=>PT.le_refl _
open PT in
theorem sep_le(s:List UInt8){F F':PT zKZ}(hF:PT.le F F'): ∀k x,PT.le (T.sep s F k x) (T.sep s F' (k+1) x)
 |0,x=>.out _
 |k+1,x=>by
  have ih:=sep_le s hF k
  rw[T.sep,T.sep]
  repeat' first|exact ih _|exact hF|exact le_refl _|apply le_ite|apply le_bind|intro _
open PT in
theorem zH3(fuel:Nat): ∀k t,PT.le (T.pfx_l1 fuel k t) (T.pfx_l1 (fuel+1) (k+1) t)
 |0,x=>.out _
 |k+1,x=>by
  have ih:=zH3 fuel k
  rw[T.pfx_l1,T.pfx_l1]
  repeat' first|exact ih _|exact zJI _ _|exact le_refl _|apply le_ite|apply le_bind|intro _
open PT in
theorem types_le: ∀fuel,PT.le (T.simple fuel) (T.simple (fuel+1))∧PT.le (T.pfx fuel) (T.pfx (fuel+1))∧PT.le (T.product fuel) (T.product (fuel+1))∧PT.le (T.typ fuel) (T.typ (fuel+1))
 |0=>⟨by rw[T.simple];exact .out _,by rw[T.pfx];exact .out _,by rw[T.product];exact .out _,by rw[T.typ];exact .out _⟩
 |fuel+1=>by
  obtain⟨h1,h2,h3,h4⟩:=types_le fuel
  refine⟨?_,?_,?_,?_⟩
  ·rw[T.simple,T.simple]
   repeat' first|exact h4|exact sep_le _ h4 _ _|exact zJI _ _|exact mods_le _|exact le_refl _|apply le_bind|apply PT.le.kd|apply le_ite|intro _
  ·rw[T.pfx,T.pfx]
   repeat' first|exact h1|exact zH3 _ _ _|exact le_refl _|apply le_bind|intro _
  ·rw[T.product,T.product]
   repeat' first|exact h2|exact sep_le _ h2 _ _|exact le_refl _|apply le_ite|apply le_bind|intro _
  ·rw[T.typ,T.typ]
   repeat' first|exact h3|exact h4|exact le_refl _|apply le_ite|apply le_bind|intro _
open PT in
theorem pats_le: ∀fuel,PT.le (T.argument fuel) (T.argument (fuel+1))∧PT.le (T.pattern fuel) (T.pattern (fuel+1))
 |0=>⟨by rw[T.argument];exact .out _,by rw[T.pattern];exact .out _⟩
 |fuel+1=>by
  obtain⟨h1,h2⟩:=pats_le fuel
  refine⟨?_,?_⟩
  ·rw[T.argument,T.argument]
   repeat' first|exact h2|exact sep_le _ h2 _ _|exact number_le _|exact mods_le _|exact le_refl _|apply le_bind|apply PT.le.kd|apply le_ite|intro _
  ·rw[T.pattern,T.pattern]
   repeat' first|exact h1|exact mods_le _|exact le_refl _|apply le_bind|apply PT.le.kd|apply le_ite|intro _
open PT in
theorem zIt(fuel:Nat){F F':PT zKZ}(hF:PT.le F F'): ∀k x,PT.le (T.choice_l1 fuel F k x) (T.choice_l1 (fuel+1) F' (k+1) x)
 |0,x=>.out _
 |k+1,x=>by
  have ih:=zIt fuel hF k
  rw[T.choice_l1,T.choice_l1]
  repeat' first|exact ih _|exact hF|exact(pats_le _).2|exact le_refl _|apply le_ite|apply le_bind|intro _
open PT in
theorem zHL{F F':PT zKZ}(hF:PT.le F F'): ∀k x,PT.le (T.negation_l1 F k x) (T.negation_l1 F' (k+1) x)
 |0,x=>.out _
 |k+1,x=>by
  have ih:=zHL hF k
  rw[T.negation_l1,T.negation_l1]
  repeat' first|exact ih _|exact hF|exact le_refl _|apply le_ite|apply le_bind|intro _
open PT in
theorem zJg{F F':Int->PT zKZ}(hF: ∀n,PT.le (F n) (F' n))(n n2:Int): ∀k x,PT.le (T.level_l1 F n n2 k x) (T.level_l1 F' n n2 (k+1) x)
 |0,x=>.out _
 |k+1,x=>by
  have ih:=zJg hF n n2 k
  rw[T.level_l1,T.level_l1]
  repeat' first|exact ih _|exact hF _|exact le_refl _|apply le_bind|apply PT.le.nx|apply le_ite|intro _
open PT in
theorem decl_l1_le: ∀k x,PT.le (T.decl_l1 k x) (T.decl_l1 (k+1) x)
 |0,x=>.out _
 |k+1,x=>by
  have ih:=decl_l1_le k
  rw[T.decl_l1,T.decl_l1]
  repeat' first|exact ih _|exact le_refl _|apply le_bind|apply PT.le.kd|apply le_ite|intro _
open PT in
theorem let_l1_le{F F':PT zKZ}(hF:PT.le F F'): ∀k x,PT.le (T.let_l1 F k x) (T.let_l1 F' (k+1) x)
 |0,x=>.out _
 |k+1,x=>by
  have ih:=let_l1_le hF k
  rw[T.let_l1,T.let_l1]
  repeat' first|exact ih _|exact hF|exact le_refl _|apply le_ite|apply le_bind|intro _
open PT in
theorem exprs_le: ∀fuel,PT.le (T.inside fuel) (T.inside (fuel+1))∧PT.le (T.choice fuel) (T.choice (fuel+1))∧PT.le (T.negation fuel) (T.negation (fuel+1))∧(∀n,PT.le (T.level fuel n) (T.level (fuel+1) n))∧
 PT.le (T.expr fuel) (T.expr (fuel+1))∧PT.le (T.decl fuel) (T.decl (fuel+1))∧PT.le (T.let fuel) (T.let (fuel+1))∧PT.le (T.atom fuel) (T.atom (fuel+1))
 |0=>⟨by rw[T.inside];exact .out _,by rw[T.choice];exact .out _,by rw[T.negation];exact .out _,fun n=>by rw[T.level];exact .out _,by rw[T.expr];exact .out _,by rw[T.decl];exact .out _,by rw[T.let];exact .out _,by rw[T.atom];exact .out _⟩
 |fuel+1=>by
  obtain⟨h1,h2,h3,h4,h5,h6,h7,h8⟩:=exprs_le fuel
  have ht:=(types_le fuel).2.2.2
  refine⟨?_,?_,?_,fun n=>?_,?_,?_,?_,?_⟩
  ·rw[T.inside,T.inside]
   repeat' first|exact h5|exact ht|exact sep_le _ h5 _ _|exact mods_le _|exact le_refl _|apply le_ite|apply le_bind|intro _
  ·rw[T.choice,T.choice]
   repeat' first|exact h5|exact zIt _ h5 _ _|exact le_refl _|apply le_ite|apply le_bind|intro _
  ·rw[T.negation,T.negation]
   repeat' first|exact h3|exact h8|exact zHL h8 _ _|exact le_refl _|apply le_ite|apply le_bind|intro _
  ·rw[T.level,T.level]
   repeat' first|exact h3|exact h4 _|exact zJg h4 _ _ _ _|exact le_refl _|apply le_ite|apply le_bind|intro _
  ·rw[T.expr,T.expr]
   repeat' first|exact h5|exact h4 _|exact le_refl _|apply le_ite|apply le_bind|intro _
  ·rw[T.decl,T.decl]
   repeat' first|exact h5|exact h8|exact decl_l1_le _ _|exact mods_le _|exact le_refl _|apply le_ite|apply le_bind|intro _
  ·rw[T.let,T.let]
   repeat' first|exact h5|exact let_l1_le h6 _ _|exact le_refl _|apply le_ite|apply le_bind|intro _
  ·rw[T.atom,T.atom]
   repeat' first|exact h1|exact h2|exact h7|exact number_le _|exact path_le _ _|exact le_refl _|apply le_bind|apply PT.le.kd|apply le_ite|intro _
end Go.Proofs.YtcbjbgiboimgaaaGreatDoor
namespace Go.Proofs.YtcbjbgiboimgaaaGreatDoor
open Go Go.Abs
def Ev{α:Type}(f:Nat->Option α)(a:α):Prop:= ∃N,∀n,N<=n->f n=some a
def Cv{α:Type}(f:Nat->Option α):Prop:= ∃a,Ev f a
section
variable {α β:Type}
theorem Ev.const(a:α):Ev (fun _=>some a) a:=⟨0,fun _ _=>rfl⟩
theorem Ev.bind{f:Nat->Option α}{a:α}{g:Nat->α->Option β}{b:β}(h:Ev f a)(h2:Ev (fun n=>g n a) b):Ev (fun n=>(f n).bind (g n)) b:=by
 obtain⟨N,h⟩:=h;obtain⟨N2,h2⟩:=h2
 exact⟨max N N2,fun n hn=>by simp only[h n (by omega),Option.bind_some,h2 n (by omega)]⟩
theorem Ev.map{f:Nat->Option α}{a:α}(k:α->β)(h:Ev f a):Ev (fun n=>(f n).bind fun v=>some (k v)) (k a):=h.bind (.const (k a))
theorem Ev.unique{f:Nat->Option α}{a b:α}(h:Ev f a)(h2:Ev f b):a=b:=by
 obtain⟨N,h⟩:=h;obtain⟨N2,h2⟩:=h2
 exact zqa ((h (max N N2) (by omega)).symm.trans (h2 _ (by omega)))
theorem Ev.congr{f g:Nat->Option α}{a:α}(h:Ev f a)(e: ∀n,g n=f n):Ev g a:=by
 obtain⟨N,h⟩:=h;exact⟨N,fun n hn=>(e n).trans (h n hn)⟩
theorem Cv.const{a:α}:Cv (fun _=>some a):=⟨a,.const a⟩
theorem Cv.bind{f:Nat->Option α}{g:Nat->α->Option β}(h:Cv f)(h2: ∀a,Cv (fun n=>g n a)):Cv (fun n=>(f n).bind (g n)):=by
 obtain⟨a,h⟩:=h;obtain⟨b,h2⟩:=h2 a
 exact⟨b,h.bind h2⟩
theorem Cv.ite{c:Prop}[Decidable c]{f g:Nat->Option α}(h:c->Cv f)(h2: ¬c->Cv g):Cv (fun n=>if c then f n else g n):=by
 by_cases hc:c
 ·simp only[hc,if_true];exact h hc
 ·simp only[hc,if_false];exact h2 hc
theorem Cv.get{l:List α}{i:Nat}(hi:i<l.length){g:Nat->α->Option β}(h: ∀a∈l,Cv (fun n=>g n a)):Cv (fun n=>(l[i]?).bind (g n)):=by
 simp only[zq2 hi,Option.bind_some]
 exact h _ (List.getElem_mem hi)
theorem Cv.idx{l:List α}{j:Int}(h0:0<=j)(hj:j<l.length){g:Nat->α->Option β}(h: ∀a∈l,Cv (fun n=>g n a)):Cv (fun n=>(Go.Abs.idx l j).bind (g n)):=by
 rw[Go.Abs.idx,if_pos h0]
 exact Cv.get (by omega) h
theorem Cv.sub{l:List α}{a b:Int}(h0:0<=a)(h1:a<=b)(h2:b<=l.length){g:Nat->List α->Option β}(h:Cv (fun n=>g n (sub l a b))):Cv (fun n=>(subC l a b).bind (g n)):=by
 rw[subC,if_pos ⟨h0,h1,h2⟩];exact h
def val(f:Nat->Option Bool):Prop:=Ev f true
theorem Cv.bool{f:Nat->Option Bool}(h:Cv f):Ev f true∨Ev f false:=by
 obtain⟨a,h⟩:=h;cases a<;>simp[h]
def IX(p:Nat->α->Option Bool)(s:List α)(n:Nat):Nat->Nat->Option (Int ⊕ Unit)
 |0,_=>none
 |k+1,i=>if ltI ((i:Nat):Int) (s.length:Int) then (s[i]?).bind fun x=>(p n x).bind fun v=>if v then some (.inl ((i:Nat):Int)) else IX p s n k (i+1) else some (.inr ())
theorem uniform{p:Nat->α->Option Bool}{q:α->Bool}: ∀s:List α,(∀x∈s,Ev (fun n=>p n x) (q x))->∃N,∀n,N<=n->∀x∈s,p n x=some (q x)
 |[],_=>⟨0,fun _ _ x hx=>by cases hx⟩
 |a::s,h=>by
  obtain⟨N,h1⟩:=h a zq9
  obtain⟨N2,h2⟩:=uniform s fun x hx=>h x (zqc _ hx)
  refine⟨max N N2,fun n hn x hx=>?_⟩
  rcases List.mem_cons.1 hx with rfl|hx
  ·exact h1 n (by omega)
  ·exact h2 n (by omega) x hx
theorem IX_val{p:Nat->α->Option Bool}{q:α->Bool}{s:List α}{n:Nat}(h: ∀x∈s,p n x=some (q x)): ∀(m i k:Nat),i+m=s.length->m+1<=k->
 ((IX p s n k i).bind fun o=>Sum.elim some (fun _=>some (-1)) o).bind (fun v=>some (leI 0 v))=some ((s.drop i).any q)
 |0,i,k+1,hi,hk=>by
  have h1:ltI (i:Int) (s.length:Int)=false:=by simp only[ltI,decide_eq_false_iff_not];omega
  rw[IX,h1,List.drop_eq_nil_of_le (by omega)];rfl
 |m+1,i,k+1,hi,hk=>by
  have h1:ltI (i:Int) (s.length:Int)=true:=by simp only[ltI,decide_eq_true_eq];omega
  have hl:i<s.length:=by omega
  rw[IX,h1,if_pos rfl,zq2 hl,Option.bind_some,h _ (List.getElem_mem hl),List.drop_eq_getElem_cons hl,List.any_cons]
  cases q s[i] with
  |true=>
   show some (leI 0 (i:Int))=some (true||_)
   rw[Bool.true_or,show leI 0 (i:Int)=true from zqb (by omega)]
  |false=>
   rw[Bool.false_or]
   exact IX_val h m (i+1) k (by omega) (by omega)
theorem IX_ev{p:Nat->α->Option Bool}{q:α->Bool}{s:List α}(h: ∀x∈s,Ev (fun n=>p n x) (q x)):
 Ev (fun n=>((IX p s n n 0).bind fun o=>Sum.elim some (fun _=>some (-1)) o).bind (fun v=>some (leI 0 v))) (s.any q):=by
 obtain⟨N,h⟩:=uniform s h
 exact⟨max N (s.length+1),fun n hn=>(IX_val (h n (by omega)) s.length 0 n (by omega) (by omega)).trans (by rw[List.drop_zero])⟩
theorem any_cv{p:Nat->α->Option Bool}{s:List α}(h: ∀x∈s,Cv (fun n=>p n x)):
 Cv (fun n=>((IX p s n n 0).bind fun o=>Sum.elim some (fun _=>some (-1)) o).bind (fun v=>some (leI 0 v))):=by
 classical
 refine⟨_,IX_ev (q:=fun x=>decide (Ev (fun n=>p n x) true)) fun x hx=>?_⟩
 rcases(h x hx).bool with h1|h1
 ·rw[zqb h1];exact h1
 ·rw[decide_eq_false fun h2=>by cases h2.unique h1];exact h1
def AL(p:Nat->Nat->Option Bool)(len n:Nat):Nat->Nat->Option (Bool ⊕ Unit)
 |0,_=>none
 |k+1,i=>if ltI ((i:Nat):Int) (len:Int) then (p n i).bind fun v=>if v then some (.inl false) else AL p len n k (i+1) else some (.inr ())
theorem uniformN{p:Nat->Nat->Option Bool}{q:Nat->Bool}: ∀m,(∀i,i<m->Ev (fun n=>p n i) (q i))->∃N,∀n,N<=n->∀i,i<m->p n i=some (q i)
 |0,_=>⟨0,fun _ _ i hi=>by omega⟩
 |m+1,h=>by
  obtain⟨N,h1⟩:=h m (by omega)
  obtain⟨N2,h2⟩:=uniformN m fun i hi=>h i (by omega)
  refine⟨max N N2,fun n hn i hi=>?_⟩
  rcases Nat.lt_or_ge i m with hi2|hi2
  ·exact h2 n (by omega) i hi2
  ·have:i=m:=by omega
   subst this;exact h1 n (by omega)
theorem AL_val{p:Nat->Nat->Option Bool}{q:Nat->Bool}{len n:Nat}(h: ∀i,i<len->p n i=some (q i)): ∀(m i k:Nat),i+m=len->m+1<=k->
 AL p len n k i=some (if (List.range' i m).any q then .inl false else .inr ())
 |0,i,k+1,hi,hk=>by
  have h1:ltI (i:Int) (len:Int)=false:=by simp only[ltI,decide_eq_false_iff_not];omega
  rw[AL,h1];rfl
 |m+1,i,k+1,hi,hk=>by
  have h1:ltI (i:Int) (len:Int)=true:=by simp only[ltI,decide_eq_true_eq];omega
  rw[AL,h1,if_pos rfl,h i (by omega),List.range'_succ,List.any_cons]
  cases q i with
  |true=>rfl
  |false=>rw[Bool.false_or];exact AL_val h m (i+1) k (by omega) (by omega)
theorem AL_ev{p:Nat->Nat->Option Bool}{q:Nat->Bool}{len:Nat}(h: ∀i,i<len->Ev (fun n=>p n i) (q i)):
 Ev (fun n=>AL p len n n 0) (if (List.range' 0 len).any q then .inl false else .inr ()):=by
 obtain⟨N,h⟩:=uniformN len h
 exact⟨max N (len+1),fun n hn=>AL_val (h n (by omega)) len 0 n (by omega) (by omega)⟩
theorem AL_cv{p:Nat->Nat->Option Bool}{len:Nat}(h: ∀i,i<len->Cv (fun n=>p n i)):Cv (fun n=>AL p len n n 0):=by
 classical
 refine⟨_,AL_ev (q:=fun i=>decide (Ev (fun n=>p n i) true)) fun i hi=>?_⟩
 rcases(h i hi).bool with h1|h1
 ·rw[zqb h1];exact h1
 ·rw[decide_eq_false fun h2=>by cases h2.unique h1];exact h1
end
theorem of_cv(c:UInt8): ∃n,zDh c=some n:=by obtain⟨n,h,-⟩:=zF3 c;exact⟨n,h⟩
theorem name_AL(l:List UInt8)(n:Nat): ∀k i,zDX l k i=AL (fun _ i=>(l[i]?).bind fun x=>(zDh x).bind fun v=>some ((eqI v 0)||(eqI v 5))) l.length n k i
 |0,_=>rfl
 |k+1,i=>by simp only[zDX,AL,Option.bind_assoc,Option.bind_some,name_AL l n k]
theorem zKE(s:List UInt8)(f:Int):Cv fun n=>zEI n s f:=by
 simp only[zEI]
 by_cases h24:s.length<=24
 ·refine Cv.bind ?_ fun b=>Cv.ite (fun _=>.const) fun _=>?_
  ·by_cases hs:s=[]
   ·subst hs;exact .const
   ·refine Cv.ite (fun _=>.const) fun _=>Cv.ite (fun _=>.const) fun _=>Cv.get (by cases s;exact absurd rfl hs;simp) fun c _=>?_
    obtain⟨m,hm⟩:=of_cv c
    simp only[hm,Option.bind_some];exact .const
  ·rw[show zKQ s=some s by rw[zKQ,if_pos (by omega)]]
   refine Cv.bind .const fun l=>Cv.bind ?_ fun o=>?_
   ·simp only[name_AL l 0]
    have: ∀k,AL (fun _ i=>(l[i]?).bind fun x=>(zDh x).bind fun v=>some ((eqI v 0)||(eqI v 5))) l.length 0 k 0=AL (fun _ i=>(l[i]?).bind fun x=>(zDh x).bind fun v=>some ((eqI v 0)||(eqI v 5))) l.length k k 0:=fun k=>by rw[<-name_AL,<-name_AL]
    simp only[this]
    refine AL_cv fun i hi=>Cv.get hi fun c _=>?_
    obtain⟨m,hm⟩:=of_cv c
    simp only[hm,Option.bind_some];exact .const
   ·cases o<;>exact .const
 ·have:(if eqS s ([]:List UInt8)=true then some true else if ltI 24 (s.length:Int)=true then some true else (s[0]?).bind fun c9=>(zDh c9).bind fun v11=>some (!eqI v11 f))=some true:=by
   split
   ·rfl
   ·rw[if_pos (show ltI 24 (s.length:Int)=true from zqb (by omega))]
  simp only[this,Option.bind_some,if_true]
  exact .const
theorem upper_cv(s:List UInt8):Cv fun n=>zBy n s:=Cv.bind (zKE s 2) fun _=>.const
theorem ixs_eq(v:List UInt8)(s:Nms)(n:Nat): ∀k i,zBq s v k i=IX (fun _ x=>some (eqS v x)) s n k i
 |0,_=>rfl
 |k+1,i=>by simp only[zBq,IX,Option.bind_some,ixs_eq v s n k]
theorem zJo(s:Nms)(v:List UInt8):Cv fun n=>zBV n s v:=by
 have e: ∀n,zBV n s v=((IX (fun _ x=>some (eqS v x)) s n n 0).bind fun o=>Sum.elim some (fun _=>some (-1)) o).bind (fun v=>some (leI 0 v)):=fun n=>by
  simp only[zBV,zDY,ixs_eq v s n]
 simp only[e]
 exact any_cv fun x _=>.const
theorem fields_some: ∃l,zEg [97,110,100,97,108,115,111,32,99,97,115,101,32,100,97,116,97,32,100,105,118,32,101,108,115,101,32,101,110,100,32,102,110,32,102,117,110,32,102,117,110,99,116,111,114,32,103,101,110,101,114,97,116,105,118,101,32,105,102,32,105,109,112,111,114,116,32,105,110,32,105,110,99,108,117,100,101,32,108,101,116,32,109,111,100,32,109,111,100,117,108,101,32,111,102,32,111,112,101,110,32,111,114,101,108,115,101,32,112,97,99,107,32,115,104,97,114,105,110,103,32,115,105,103,32,115,105,103,110,97,116,117,114,101,32,115,116,114,117,99,116,32,115,116,114,117,99,116,117,114,101,32,116,104,101,110,32,116,121,112,101,32,117,110,112,97,99,107,32,118,97,108,32,119,105,116,104]=some l:=
 Option.isSome_iff_exists.1 (by decide +kernel)
theorem lower_cv(s:List UInt8):Cv fun n=>zBm n s:=by
 simp only[zBm]
 refine Cv.bind (Cv.bind (zKE s 1) fun b=>Cv.ite (fun _=>?_) fun _=>.const) fun _=>.const
 simp only[zF7]
 obtain⟨l,hl⟩:=fields_some
 rw[hl]
 exact Cv.bind (Cv.bind .const fun l=>Cv.bind (zJo l s) fun _=>.const) fun _=>.const
theorem hasPre(s t:List UInt8): ∃b,zBa s t=some b∧(b=true->t.length<=s.length):=by
 simp only[zBa]
 split
 ·rename_i h
  simp only[leI,decide_eq_true_eq] at h
  rw[subC,if_pos ⟨by omega,by omega,by omega⟩]
  exact⟨_,rfl,fun _=>by omega⟩
 ·exact⟨false,rfl,fun h=>by cases h⟩
theorem var_cv(s:List UInt8):Cv fun n=>zDt n s:=by
 simp only[zDt,zDo,zDN]
 obtain⟨b,hb,hl⟩:=hasPre s [39]
 rw[hb]
 refine Cv.bind ?_ fun v=>Cv.bind (Cv.ite (fun _=>Cv.ite (fun _=>Cv.bind (zKE _ 1) fun _=>.const) fun _=>.const) fun _=>.const) fun _=>.const
 refine Cv.bind ?_ fun _=>.const
 simp only[Option.bind_some]
 cases b with
 |false=>exact .const
 |true=>exact Cv.sub (by decide) (by have:=hl rfl;simp only[List.length_cons,List.length_nil] at *;omega) (by omega) .const
theorem path1_eq(s:Nms)(n:Nat): ∀k i,zAs n s k i=IX (fun n x=>zEz n x) s n k i
 |0,_=>rfl
 |k+1,i=>by simp only[zAs,IX,path1_eq s n k]
theorem path_cv(l:Nms)(b:Bool):Cv fun n=>zBZ n l b:=by
 simp only[zBZ]
 refine Cv.ite (fun _=>.const) fun h=>?_
 simp only[Bool.or_eq_true,ltI,decide_eq_true_eq,not_or] at h
 refine Cv.sub (by omega) (by omega) (by omega) (Cv.bind ?_ fun c=>Cv.ite (fun _=>.const) fun _=>Cv.ite (fun _=>Cv.idx (by omega) (by omega) fun x _=>Cv.bind (lower_cv x) fun _=>.const) fun _=>Cv.idx (by omega) (by omega) fun x _=>Cv.bind (upper_cv x) fun _=>.const)
 simp only[zBs,zCG,path1_eq]
 exact any_cv fun x _=>Cv.bind (upper_cv x) fun _=>.const
theorem plain_AL(s:List UInt8)(n:Nat): ∀k i,zCe s k i=AL (fun _ i=>(s[i]?).bind fun c11=>if !(eqI (c11.toNat:Int) 10) then if ltI (c11.toNat:Int) 32 then some true else some (ltI 126 (c11.toNat:Int)) else some false) s.length n k i
 |0,_=>rfl
 |k+1,i=>by simp only[zCe,AL,plain_AL s n k]
theorem plain_cv(s:List UInt8):Cv fun n=>zEf n s:=by
 simp only[zEf]
 have e: ∀n,zCe s n 0=AL (fun _ i=>(s[i]?).bind fun c11=>if !(eqI (c11.toNat:Int) 10) then if ltI (c11.toNat:Int) 32 then some true else some (ltI 126 (c11.toNat:Int)) else some false) s.length n n 0:=fun n=>plain_AL s n n 0
 simp only[e]
 refine Cv.bind (AL_cv fun i hi=>Cv.get hi fun c _=>Cv.ite (fun _=>Cv.ite (fun _=>.const) fun _=>.const) fun _=>.const) fun o=>?_
 cases o<;>exact .const
theorem own1_eq(s:Nms)(n:Nat): ∀k i,zAt n s k i=IX (fun n x=>zFF n x) s n k i
 |0,_=>rfl
 |k+1,i=>by simp only[zAt,IX,own1_eq s n k]
theorem own1_cv(l:Nms):Cv fun n=>zBW n l:=by
 simp only[zBW,zCK,own1_eq]
 exact any_cv fun x _=>Cv.bind (lower_cv x) fun _=>.const
theorem params_AL(l:Nms)(n:Nat): ∀k i,zCq n l k i=AL (fun n i=>(l[i]?).bind fun x11=>(zDt n x11).bind fun v13=>if !v13 then some true else (subC l 0 ((i:Nat):Int)).bind fun l18=>(zBV n l18 x11).bind fun v22=>some v22) l.length n k i
 |0,_=>rfl
 |k+1,i=>by simp only[zCq,AL,Option.bind_assoc,params_AL l n k]
theorem params_cv(l:Nms):Cv fun n=>zDF n l:=by
 simp only[zDF,params_AL]
 refine Cv.bind (AL_cv fun i hi=>Cv.get hi fun c _=>Cv.bind (var_cv c) fun b=>Cv.ite (fun _=>.const) fun _=>Cv.sub (by omega) (by omega) (by omega) (Cv.bind (zJo _ _) fun _=>.const)) fun o=>?_
 cases o<;>exact .const
theorem ex_ite{α:Type}{c:Prop}[Decidable c]{a b:Option α}(h: ∃u,a=some u)(h2: ∃u,b=some u): ∃u,(if c then a else b)=some u:=by split<;>assumption
theorem fields_op(op:Int): ∃u,zD8 op=some u:=by
 unfold zD8
 repeat' first
  |exact⟨_,rfl⟩
  |apply ex_ite
theorem own_cv(t:zKZ)(w:Bool):Cv fun n=>zBY n t w:=by
 simp only[zBY]
 obtain⟨u,hu⟩:=fields_op t.Op
 rw[hu]
 refine Cv.bind .const fun u=>Cv.ite (fun _=>.const) fun _=>?_
 repeat' first
  |exact .const
  |exact var_cv _
  |exact path_cv _ _
  |exact lower_cv _
  |exact upper_cv _
  |exact plain_cv _
  |exact params_cv _
  |exact own1_cv _
  |refine Cv.ite (fun _=>?_) fun _=>?_
  |refine Cv.bind ?_ fun _=>?_
theorem cat_some(op:Int): ∃c,zDg op=some c:=by
 unfold zDg
 repeat' first
  |exact⟨_,rfl⟩
  |apply ex_ite
def bl(cat:Int)(t:zKZ):Bool:=(zBK cat t).getD false
theorem bl_eq(cat:Int)(t:zKZ):zBK cat t=some (bl cat t):=by
 have: ∃b,zBK cat t=some b:=by
  unfold zBK
  obtain⟨c,hc⟩:=cat_some t.Op
  rw[hc]
  split
  ·exact⟨_,rfl⟩
  ·split<;>exact⟨_,rfl⟩
 obtain⟨b,h⟩:=this
 simp only[bl,h,Option.getD_some]
theorem many1_eq(s:List zKZ)(c:Int)(n:Nat): ∀k i,zAo s c k i=IX (fun _ x=>some (!bl c x)) s n k i
 |0,_=>rfl
 |k+1,i=>by simp only[zAo,zE0,bl_eq,IX,Option.bind_some,many1_eq s c n k]
theorem many_any(l:List zKZ)(c:Int):Ev (fun n=>zA0 n l c) (l.any fun x=> !bl c x):=by
 have e: ∀n,zA0 n l c=((IX (fun _ x=>some (!bl c x)) l n n 0).bind fun o=>Sum.elim some (fun _=>some (-1)) o).bind (fun v=>some (leI 0 v)):=fun n=>by
  simp only[zA0,zCC,many1_eq l c n]
 exact(IX_ev (fun x _=>Ev.const _)).congr e
theorem many_ev(l:List zKZ)(c a b:Int):Ev (fun n=>zBz n l c a b) (leI a (l.length:Int)&&(leI (l.length:Int) b&&l.all fun x=>bl c x)):=by
 simp only[zBz]
 cases h1:leI a (l.length:Int) with
 |false=>exact Ev.const _
 |true=>
  cases h2:leI (l.length:Int) b with
  |false=>exact Ev.const _
  |true=>
   have:(l.all fun x=>bl c x)= !(l.any fun x=> !bl c x):=by simp[List.all_eq_not_any_not]
   simp only[if_true,Bool.true_and,this]
   exact Ev.map (fun v=>v) (Ev.map (fun v=> !v) (many_any l c))
theorem parts_AL(t:zKZ)(cs:List Int)(n:Nat): ∀k i,zCf t cs k i=AL (fun _ i=>(cs[i]?).bind fun x=>(t.L[i]?).bind fun y=>some (!bl x y)) cs.length n k i
 |0,_=>rfl
 |k+1,i=>by simp only[zCf,bl_eq,AL,Option.bind_assoc,Option.bind_some,parts_AL t cs n k]
theorem parts_ev(t:zKZ)(cs:List Int)(h:t.L.length=cs.length):Ev (fun n=>zAZ n t cs) (!((List.range' 0 cs.length).any fun i=> !bl (cs.getD i 0) (t.L.getD i (zKZ.mk 0 0 [] [] [])))):=by
 have h1:(eqI (t.L.length:Int) (cs.length:Int))=true:=zqb (by omega)
 simp only[zAZ,h1,Bool.not_true,Bool.false_eq_true,if_false]
 have e: ∀n,zCf t cs n 0=AL (fun _ i=>(cs[i]?).bind fun x=>(t.L[i]?).bind fun y=>some (!bl x y)) cs.length n n 0:=fun n=>parts_AL t cs n n 0
 simp only[e]
 refine Ev.bind (AL_ev (q:=fun i=> !bl (cs.getD i 0) (t.L.getD i (zKZ.mk 0 0 [] [] []))) fun i hi=>?_) ?_
 ·have:(cs[i]?).bind (fun x=>(t.L[i]?).bind fun y=>some (!bl x y))=some (!bl (cs.getD i 0) (t.L.getD i (zKZ.mk 0 0 [] [] []))):=by
   rw[zq2 hi,zq2 (by omega:i<t.L.length)]
   simp[zq5,hi,(by omega:i<t.L.length)]
  rw[this];exact Ev.const _
 ·cases(List.range' 0 cs.length).any fun i=> !bl (cs.getD i 0) (t.L.getD i (zKZ.mk 0 0 [] [] []))<;>exact Ev.const _
theorem parts_no(t:zKZ)(cs:List Int)(h:t.L.length≠cs.length):Ev (fun n=>zAZ n t cs) false:=by
 have h1:(eqI (t.L.length:Int) (cs.length:Int))=false:=decide_eq_false (by omega)
 simp only[zAZ,h1,Bool.not_false,if_true]
 exact Ev.const _
theorem parts_cv(t:zKZ)(cs:List Int):Cv fun n=>zAZ n t cs:=by
 by_cases h:t.L.length=cs.length
 ·exact⟨_,parts_ev t cs h⟩
 ·exact⟨_,parts_no t cs h⟩
theorem idxint_eq(s:List Int)(v:Int)(n:Nat): ∀k i,zCJ s v k i=IX (fun _ x=>some (eqI v x)) s n k i
 |0,_=>rfl
 |k+1,i=>by simp only[zCJ,IX,Option.bind_some,idxint_eq s v n k]
theorem contInt_ev(s:List Int)(v:Int):Ev (fun n=>zCc n s v) (s.any fun x=>eqI v x):=by
 have e: ∀n,zCc n s v=((IX (fun _ x=>some (eqI v x)) s n n 0).bind fun o=>Sum.elim some (fun _=>some (-1)) o).bind (fun v=>some (leI 0 v)):=fun n=>by
  simp only[zCc,zDw,idxint_eq s v n]
 exact(IX_ev (fun x _=>Ev.const _)).congr e
theorem only1_eq(s:List zKZ)(c:List Int)(n:Nat): ∀k i,zAn n s c k i=IX (fun n x=>zD7 n x c) s n k i
 |0,_=>rfl
 |k+1,i=>by simp only[zAn,IX,only1_eq s c n k]
theorem only_ev(l:List zKZ)(c:List Int):Ev (fun n=>zCT n l c) (!(l.any fun x=> !(c.any fun o=>eqI x.Op o))):=by
 simp only[zCT]
 refine Ev.map (fun v=> !v) ?_
 have e: ∀n,zBL n l c=((IX (fun n x=>zD7 n x c) l n n 0).bind fun o=>Sum.elim some (fun _=>some (-1)) o).bind (fun v=>some (leI 0 v)):=fun n=>by
  simp only[zBL,zCB,only1_eq l c n]
 exact(IX_ev (q:=fun x=> !(c.any fun o=>eqI x.Op o)) (fun x _=>Ev.map (fun v=> !v) (contInt_ev c x.Op))).congr e
theorem diff1_eq(s:List zKZ)(w:zKZ)(n:Nat): ∀k i,zAk s w k i=IX (fun _ x=>some (eqS w.S x.S)) s n k i
 |0,_=>rfl
 |k+1,i=>by simp only[zAk,zEE,IX,Option.bind_some,diff1_eq s w n k]
theorem diff1_cv(l:List zKZ)(w:zKZ):Cv fun n=>zAl n l w:=by
 have e: ∀n,zAl n l w=((IX (fun _ x=>some (eqS w.S x.S)) l n n 0).bind fun o=>Sum.elim some (fun _=>some (-1)) o).bind (fun v=>some (leI 0 v)):=fun n=>by
  simp only[zAl,zBr,diff1_eq l w n]
 simp only[e]
 exact any_cv fun x _=>.const
theorem differ_AL(l:List zKZ)(n:Nat): ∀k i,zCr n l k i=AL (fun n i=>(l[i]?).bind fun x=>(subC l 0 ((i:Nat):Int)).bind fun l13=>zAl n l13 x) l.length n k i
 |0,_=>rfl
 |k+1,i=>by simp only[zCr,AL,Option.bind_assoc,differ_AL l n k]
theorem differ_cv(l:List zKZ):Cv fun n=>zD9 n l:=by
 simp only[zD9,differ_AL]
 refine Cv.bind (AL_cv fun i hi=>Cv.get hi fun c _=>Cv.sub (by omega) (by omega) (by omega) (diff1_cv _ _)) fun o=>?_
 cases o<;>exact .const
theorem many_cv(l:List zKZ)(c a b:Int):Cv fun n=>zBz n l c a b:=⟨_,many_ev l c a b⟩
theorem only_cv(l:List zKZ)(c:List Int):Cv fun n=>zCT n l c:=⟨_,only_ev l c⟩
theorem shape_cv(t:zKZ):Cv fun n=>zBp n t:=by
 simp only[zBp,bl_eq]
 repeat' first
  |with_reducible exact .const
  |with_reducible exact parts_cv _ _
  |with_reducible exact many_cv _ _ _ _
  |with_reducible exact only_cv _ _
  |with_reducible exact differ_cv _
  |with_reducible refine Cv.ite (fun _=>?_) fun _=>?_
  |(with_reducible refine Cv.get ?_ fun _ _=>?_;(simp only[leI,eqI,decide_eq_true_eq] at *;omega))
  |(with_reducible refine Cv.idx ?_ ?_ fun _ _=>?_;(simp only[leI,eqI,decide_eq_true_eq] at *;omega);omega)
  |(with_reducible refine Cv.sub ?_ ?_ ?_ ?_;(simp only[leI,eqI,decide_eq_true_eq] at *;omega);(simp only[leI,eqI,decide_eq_true_eq] at *;omega);omega)
  |with_reducible refine Cv.bind ?_ fun _=>?_
inductive WF:zKZ->Bool->Prop where
 |mk {t:zKZ} {w:Bool} (ho:Ev (fun n=>zBY n t w) true) (hs:Ev (fun n=>zBp n t) true) (h: ∀x∈t.L,WF x (eqI t.Op 74)):WF t w
mutual
def szT:zKZ->Nat
 |⟨_,_,_,_,l⟩=>1+szL l
def szL:List zKZ->Nat
 |[]=>0
 |x::l=>szT x+szL l
end
mutual
def dpT:zKZ->Nat
 |⟨_,_,_,_,l⟩=>1+dpL l
def dpL:List zKZ->Nat
 |[]=>0
 |x::l=>max (dpT x) (dpL l)
end
def FSt(t:zKZ):Prop:= ∀(d:Int)(w:Bool)(c:Nat),0<=d->d<=401->c<=20000->∃b c',Ev (fun n=>zBe n t d w (c:Int)) (b,c')∧
 ((b=true∧WF t w∧c'=((c+szT t:Nat):Int)∧c+szT t<=20000∧d+dpT t<=401)∨(b=false∧¬(WF t w∧c+szT t<=20000∧d+dpT t<=401)))
def FL(l:List zKZ):Prop:= ∀(s:List zKZ)(i:Nat),s.drop i=l->∀(d:Int)(p:zKZ)(c:Nat),0<=d->d<=400->c<=20000->
 ∃r N,(∀n k,N<=n->N<=k->zAX (zB3 n) s d p k (c:Int) i=some r)∧
  ((r=.inr ((c+szL l:Nat):Int)∧c+szL l<=20000∧d+1+dpL l<=401∧∀x∈l,WF x (eqI p.Op 74))∨
   ((∃(j:Nat) (c':Int),r=.inl ((j:Int),c'))∧¬(c+szL l<=20000∧d+1+dpL l<=401∧∀x∈l,WF x (eqI p.Op 74))))
theorem FL_nil:FL []:=fun s i hs d p c h1 h2 h3=>by
 refine⟨.inr ((c+szL []:Nat):Int),1,fun n k hn hk=>?_,.inl ⟨rfl,by simp only[szL];omega,by simp only[dpL];omega,fun x hx=>by cases hx⟩⟩
 obtain⟨k,rfl⟩: ∃k',k=k'+1:=⟨k-1,by omega⟩
 have hl:s.length<=i:=List.drop_eq_nil_iff.1 hs
 have h1:ltI (i:Int) (s.length:Int)=false:=by simp only[ltI,decide_eq_false_iff_not];omega
 rw[zAX,h1];rfl
theorem FL_cons{x:zKZ}{l:List zKZ}(hx:FSt x)(hl:FL l):FL (x::l):=fun s i hs d p c h1 h2 h3=>by
 have hi:i<s.length:=by
  rcases Nat.lt_or_ge i s.length with h|h
  ·exact h
  ·rw[List.drop_eq_nil_of_le h] at hs;cases hs
 have hs':=List.drop_eq_getElem_cons hi
 rw[hs] at hs'
 obtain⟨hx1,hl1⟩:=List.cons.inj hs'
 have hlt:ltI (i:Int) (s.length:Int)=true:=by simp only[ltI,decide_eq_true_eq];omega
 obtain⟨b,c',⟨N,hev⟩,hb⟩:=hx (d+1) (eqI p.Op 74) c (by omega) (by omega) h3
 have hc:chk .i64 (d+1)=some (d+1):=chkA (by omega) (by omega)
 have step: ∀n k,N+1<=n->zAX (zB3 n) s d p (k+1) (c:Int) i=if !b then some (.inl ((i:Int),c')) else zAX (zB3 n) s d p k c' (i+1):=fun n k hn=>by
  obtain⟨m,rfl⟩: ∃m,n=m+1:=⟨n-1,by omega⟩
  rw[zAX,hlt,if_pos rfl,zq2 hi,<-hx1]
  simp only[Option.bind_some]
  rw[zB3]
  simp only[hc,Option.bind_some,hev m (by omega)]
 rcases hb with ⟨rfl,hw,rfl,hsz,hdp⟩|⟨rfl,hno⟩
 ·obtain⟨r,N2,hr,ho⟩:=hl s (i+1) hl1.symm d p (c+szT x) h1 h2 hsz
  refine⟨r,max (N+1) (N2+1),fun n k hn hk=>?_,?_⟩
  ·obtain⟨k,rfl⟩: ∃k',k=k'+1:=⟨k-1,by omega⟩
   rw[step n k (by omega)]
   exact hr n k (by omega) (by omega)
  ·simp only[szL,dpL]
   rcases ho with ⟨rfl,a1,a2,a3⟩|⟨a1,a2⟩
   ·refine .inl ⟨by rw[Nat.add_assoc],by omega,by omega,fun y hy=>?_⟩
    rcases List.mem_cons.1 hy with rfl|hy
    ·exact hw
    ·exact a3 y hy
   ·exact .inr ⟨a1,fun g=>a2 ⟨by have:=g.1;omega,by have:=g.2.1;omega,fun y hy=>g.2.2 y (zqc _ hy)⟩⟩
 ·refine⟨.inl ((i:Int),c'),N+1,fun n k hn hk=>?_,.inr ⟨⟨i,c',rfl⟩,fun g=>hno ⟨g.2.2 x zq9,?_,?_⟩⟩⟩
  ·obtain⟨k,rfl⟩: ∃k',k=k'+1:=⟨k-1,by omega⟩
   rw[step n k (by omega)];rfl
  ·have:=g.1;simp only[szL] at this;omega
  ·have:=g.2.1;simp only[dpL] at this;omega
theorem FS_mk(t:zKZ)(hl:FL t.L):FSt t:=fun d w c h1 h2 h3=>by
 have hsz:szT t=1+szL t.L:=by cases t;rfl
 have hdp:dpT t=1+dpL t.L:=by cases t;rfl
 have hc:chk .i64 ((c:Int)+1)=some ((c+1:Nat):Int):=chkA (by omega) (by omega)
 have no: ∀(h:Ev (fun n=>(if ltI 20000 ((c+1:Nat):Int) then some true else if ltI 400 d then some true else (zBY n t w).bind fun v16=>if !v16 then some true else (zBp n t).bind fun v21=>some (!v21):Option Bool)) true),
  Ev (fun n=>zBe n t d w (c:Int)) (false,((c+1:Nat):Int)):=fun⟨N,h⟩=>⟨N+1,fun n hn=>by
  obtain⟨m,rfl⟩: ∃m,n=m+1:=⟨n-1,by omega⟩
  have:=h m (by omega)
  simp only at this
  show zBe (m+1) t d w (c:Int)=_
  rw[zBe,hc]
  simp only[Option.bind_some]
  rw[this];rfl⟩
 by_cases g1:20000<c+1
 ·refine⟨false,_,no ?_,.inr ⟨rfl,fun g=>by have:=g.2.1;omega⟩⟩
  rw[show ltI 20000 ((c+1:Nat):Int)=true from zqb (by omega)];exact Ev.const _
 have e1:ltI 20000 ((c+1:Nat):Int)=false:=decide_eq_false (by omega)
 by_cases g2:400<d
 ·refine⟨false,_,no ?_,.inr ⟨rfl,fun g=>by have:=g.2.2;omega⟩⟩
  rw[e1,show ltI 400 d=true from zqb (by omega)];exact Ev.const _
 have e2:ltI 400 d=false:=decide_eq_false (by omega)
 simp only[e1,e2,Bool.false_eq_true,if_false] at no
 rcases(own_cv t w).bool with ho|ho
 case inr=>exact⟨false,_,no (ho.bind (Ev.const _)),.inr ⟨rfl,fun g=>by
  cases g.1 with
  |mk a _ _=>cases a.unique ho⟩⟩
 rcases(shape_cv t).bool with hs|hs
 case inr=>exact⟨false,_,no (ho.bind (hs.bind (Ev.const _))),.inr ⟨rfl,fun g=>by
  cases g.1 with
  |mk _ a _=>cases a.unique hs⟩⟩
 obtain⟨r,N,hr,hout⟩:=hl t.L 0 (List.drop_zero) d t (c+1) h1 (by omega) (by omega)
 obtain⟨No,ho'⟩:=ho
 obtain⟨Ns,hs'⟩:=hs
 have main: ∀n,N+No+Ns+10<=n->zBe n t d w (c:Int)=((Sum.elim some (fun o7=>some ((-1:Int),o7)) r:Option (Int×Int)).bind fun v5=>some (leI 0 v5.1,v5.2)).bind fun v26=>some (!v26.1,v26.2):=fun n hn=>by
  obtain⟨m,rfl⟩: ∃m,n=m+3:=⟨n-3,by omega⟩
  rw[zBe,hc]
  simp only[Option.bind_some,e1,e2,Bool.false_eq_true,if_false]
  rw[show zBY (m+2) t w=some true from ho' (m+2) (by omega)]
  simp only[Option.bind_some,Bool.not_true,Bool.false_eq_true,if_false]
  rw[show zBp (m+2) t=some true from hs' (m+2) (by omega)]
  simp only[Option.bind_some,Bool.not_true,Bool.false_eq_true,if_false]
  rw[zA5,zBG,hr m m (by omega) (by omega)]
  rfl
 rcases hout with ⟨rfl,a1,a2,a3⟩|⟨⟨j,c',rfl⟩,a2⟩
 ·refine⟨true,((c+1+szL t.L:Nat):Int),⟨_,fun n hn=>(main n hn).trans rfl⟩,.inl ⟨rfl,.mk ⟨No,ho'⟩ ⟨Ns,hs'⟩ a3,by rw[hsz,Nat.add_assoc],by omega,by omega⟩⟩
 ·refine⟨false,c',⟨_,fun n hn=>(main n hn).trans ?_⟩,.inr ⟨rfl,fun g=>a2 ⟨by have:=g.2.1;omega,by have:=g.2.2;omega,?_⟩⟩⟩
  ·simp only[Sum.elim_inl,Option.bind_some]
   rw[show leI 0 (j:Int)=true from zqb (by omega)];rfl
  ·cases g.1 with
   |mk _ _ h=>exact h
mutual
theorem FS_all: ∀t,FSt t
 |⟨a,b,c,d,l⟩=>FS_mk ⟨a,b,c,d,l⟩ (FL_all l)
theorem FL_all: ∀l,FL l
 |[]=>FL_nil
 |x::l=>FL_cons (FS_all x) (FL_all l)
end
theorem zKS(cat:Int)(t:zKZ): ∃b,Ev (fun n=>zBO n cat t) b∧(b=true↔bl cat t=true∧WF t false∧szT t<=20000∧dpT t<=400):=by
 simp only[zBO,bl_eq,zE1]
 cases hb:bl cat t with
 |false=>exact⟨false,Ev.const _,by simp⟩
 |true=>
  obtain⟨b,c',hev,ho⟩:=FS_all t 1 false 0 (by decide) (by decide) (by decide)
  refine⟨b,?_,?_⟩
  ·simp only[Option.bind_some,if_true]
   exact((hev.bind (Ev.const b)).bind (Ev.const b)).bind (Ev.const b)
  ·rcases ho with ⟨rfl,a1,a2,a3,a4⟩|⟨rfl,a1⟩
   ·exact⟨fun _=>⟨rfl,a1,by omega,by omega⟩,fun _=>rfl⟩
   ·exact⟨fun h=>(by cases h),fun g=>(a1 ⟨g.2.1,by omega,by omega⟩).elim⟩
def Ate{α:Type}(r:Nat):α->Nat->Prop:=fun _ r'=>r'+1<=r∧1<=r'
section
variable {α β:Type} {r:Nat} {Q:β->Nat->Prop}
theorem zB2{x:PT α}{f:α->PT β}(h:x.wp r (Ate r))(hf: ∀a r',r'+1<=r->1<=r'->(f a).wp r' Q):(x.bind f).wp r Q:=
 PT.wp_bindQ h fun a r' ha=>hf a r' ha.1 ha.2
theorem kd_I{n:Int}{x y:PT β}(h0:y.wp r Q)(h1:(n≠8->2<=r)->x.wp r Q):(PT.kd n fun b=>if b then x else y).wp r Q:=⟨h0,h1⟩
theorem kd_N{n:Int}{x y:PT β}(h0:x.wp r Q)(h1:(n≠8->2<=r)->y.wp r Q):(PT.kd n fun b=>if !b then x else y).wp r Q:=⟨h0,h1⟩
theorem zGC{s:List UInt8}{x y:PT β}(h0:y.wp r Q)(h1:2<=r->x.wp (r-1) Q):((T.skip s).bind fun b=>if b then x else y).wp r Q:=⟨h0,fun h=>⟨h,fun _ _=>h1 h⟩⟩
theorem skip_N{s:List UInt8}{x y:PT β}(h0:x.wp r Q)(h1:2<=r->y.wp (r-1) Q):((T.skip s).bind fun b=>if !b then x else y).wp r Q:=⟨h0,fun h=>⟨h,fun _ _=>h1 h⟩⟩
theorem zDl{s:List UInt8}{f:Unit->PT β}(h1:2<=r->(f ()).wp (r-1) Q):((T.want s).bind f).wp r Q:=⟨trivial,fun h=>⟨h,fun _ _=>h1 h⟩⟩
theorem zFW{n:Int}(hn:n≠8){f:List UInt8->PT β}(h1:2<=r->∀t:List UInt8,t.length<=20000->(f t).wp (r-1) Q):((T.name n).bind f).wp r Q:=⟨trivial,fun h=>⟨h hn,fun t ht=>h1 (h hn) t ht⟩⟩
theorem named_I{x y:PT β}(h0:y.wp r Q)(h1:2<=r->x.wp r Q):(T.named.bind fun b=>if b then x else y).wp r Q:=⟨⟨h0,fun h=>h1 (h (by decide))⟩,fun h=>h1 (h (by decide))⟩
theorem begins_I{x y:PT β}(h0:y.wp r Q)(h1:2<=r->x.wp r Q):(T.begins.bind fun b=>if b then x else y).wp r Q:=
 ⟨⟨⟨⟨⟨⟨⟨h0,h1⟩,h1⟩,h1⟩,fun h=>h1 (h (by decide))⟩,fun h=>h1 (h (by decide))⟩,fun h=>h1 (h (by decide))⟩,fun h=>h1 (h (by decide))⟩
theorem ofO_wp{o:Option α}{a:α}(h:o=some a){f:α->PT β}(hf:(f a).wp r Q):((PT.ofO o).bind f).wp r Q:=by subst h;exact hf
theorem app80{x:List zKZ}{v:zKZ}(hx:x.length<=100000){f:List zKZ->PT β}(hf:(f (x++[v])).wp r Q):((PT.ofO (app 80 x [v])).bind f).wp r Q:=
 ofO_wp (appA (by decide) (by simp only[List.length_cons,List.length_nil];omega)) hf
theorem app16{x:Nms}{v:List UInt8}(hx:x.length<=100000){f:Nms->PT β}(hf:(f (x++[v])).wp r Q):((PT.ofO (app 16 x [v])).bind f).wp r Q:=
 ofO_wp (appA (by decide) (by simp only[List.length_cons,List.length_nil];omega)) hf
theorem ops_wp{n:Int}{f:Int->PT β}(h0:(f 0).wp r Q): ∀L:List (Int×List UInt8×Int),(2<=r->∀q∈L,eqI n q.1=true->(f q.2.2).wp r Q)->((T.ops n L).bind f).wp r Q
 |[],h=>h0
 |q::L,h=>by
  have ih:=ops_wp h0 L fun h2 q hq=>h h2 q (zqc _ hq)
  rw[T.ops]
  split
  ·rename_i hn
   exact⟨ih,fun h2=>h h2 q zq9 hn⟩
  ·exact ih
end
theorem path_l1_wp(cap:Bool): ∀k x r,r<=k->1<=r->x.length+r<=40000->(T.path_l1 cap k x).wp r fun a r'=>Sum.elim (fun _=>r'+1<=r∧1<=r') (fun l=>r'<=r∧1<=r'∧l.length+r'<=40000) a
 |0,x,r,h1,h2,h3=>by omega
 |k+1,x,r,h1,h2,h3=>by
  rw[T.path_l1]
  refine kd_I ⟨by omega,h2,h3⟩ fun h=>zFW (by decide) fun h4 t ht=>app16 (by omega) ?_
  have nx:((T.want [46]).bind fun _=>T.path_l1 cap k (x++[t])).wp (r-1) fun a r'=>Sum.elim (fun _=>r'+1<=r∧1<=r') (fun l=>r'<=r∧1<=r'∧l.length+r'<=40000) a:=by
   refine zDl fun h5=>PT.wp_mono (fun a r' ha=>?_) _ _ (path_l1_wp cap k (x++[t]) (r-1-1) (by omega) (by omega) (by simp only[List.length_append,List.length_cons,List.length_nil];omega))
   cases a with
   |inl a=>exact⟨by have:=ha.1;omega,ha.2⟩
   |inr a=>exact⟨by have:=ha.1;omega,ha.2⟩
  cases cap with
  |false=>exact nx
  |true=>exact⟨⟨by omega,by omega⟩,fun _=>nx⟩
theorem path_wp(fuel:Nat)(cap:Bool){r:Nat}(h:r<=fuel)(h1:1<=r)(h2:r<=20000):(T.path fuel cap).wp r (Ate r):=by
 refine PT.wp_bindQ (path_l1_wp cap fuel [] r h h1 (by simp only[List.length_nil];omega)) fun a r' ha=>?_
 cases a with
 |inl a=>exact ha
 |inr l=>
  obtain⟨h3,h4,h5⟩:=ha
  exact zFW (by decide) fun h6 t ht=>app16 (by omega) ⟨by omega,by omega⟩
theorem zHT(fuel:Nat)(x:List zKZ){r:Nat}(h:r<=fuel)(h1:1<=r)(h2:r<=20000):(T.typePath fuel x).wp r (Ate r):=
 zB2 (path_wp fuel false h h1 h2) fun a r' h3 h4=>⟨h3,h4⟩
theorem mods_l1_wp: ∀k x r,r<=k->1<=r->x.length+r<=40000->(T.mods_l1 k x).wp r fun _ r'=>r'<=r∧1<=r'
 |0,x,r,h1,h2,h3=>by omega
 |k+1,x,r,h1,h2,h3=>by
  rw[T.mods_l1]
  refine zGC ⟨by omega,h2⟩ fun h=>zFW (by decide) fun h4 t ht=>app16 (by omega) ?_
  exact PT.wp_mono (fun a r' ha=>⟨by have:=ha.1;omega,ha.2⟩) _ _ (mods_l1_wp k (x++[t]) (r-1-1) (by omega) (by omega) (by simp only[List.length_append,List.length_cons,List.length_nil];omega))
theorem zJZ(fuel:Nat){r:Nat}(h:r<=fuel)(h1:1<=r)(h2:r<=20000):(T.mods fuel).wp r (Ate r):=by
 refine zFW (by decide) fun h4 t ht=>PT.wp_mono (fun a r' ha=>⟨by have:=ha.1;omega,ha.2⟩) _ _ (mods_l1_wp fuel [t] (r-1) (by omega) (by omega) (by simp only[List.length_cons,List.length_nil];omega))
theorem sep_wp(s:List UInt8){F:PT zKZ}(R:Nat)(hF: ∀r,1<=r->r<=R->F.wp r (Ate r)): ∀k x r,r<=k->1<=r->r<=R+1->x.length+r<=40000->(T.sep s F k x).wp r fun l r'=>r'<=r∧1<=r'∧x.length<=l.length∧l.length<=40000
 |0,x,r,h1,h2,h4,h3=>by omega
 |k+1,x,r,h1,h2,h4,h3=>by
  rw[T.sep]
  refine zGC ⟨by omega,h2,by omega,by omega⟩ fun h=>zB2 (hF _ (by omega) (by omega)) fun v r' h5 h6=>app80 (by omega) ?_
  refine PT.wp_mono (fun a r' ha=>?_) _ _ (sep_wp s R hF k (x++[v]) r' (by omega) (by omega) (by omega) (by simp only[List.length_append,List.length_cons,List.length_nil];omega))
  obtain⟨a1,a2,a3,a4⟩:=ha
  simp only[List.length_append,List.length_cons,List.length_nil] at a3
  exact⟨by omega,a2,by omega,a4⟩
theorem zHM{α:Type}{l:List α}(h:1<=l.length): ∃a,l[0]? =some a:=⟨_,zq2 h⟩
theorem zH1(fuel:Nat): ∀k t r,r<=k->r<=fuel->1<=r->r<=20000->(T.pfx_l1 fuel k t).wp r fun _ r'=>r'<=r∧1<=r'
 |0,t,r,h1,h2,h3,h4=>by omega
 |k+1,t,r,h1,h2,h3,h4=>by
  rw[T.pfx_l1]
  exact named_I ⟨by omega,h3⟩ fun h5=>zB2 (zHT fuel _ h2 h3 h4) fun u r' h6 h7=>PT.wp_mono (fun a r' ha=>⟨by have:=ha.1;omega,ha.2⟩) _ _ (zH1 fuel k u r' (by omega) (by omega) h7 (by omega))
theorem types_wp: ∀fuel,(∀r,30*r+1<=fuel->1<=r->r<=20000->(T.simple fuel).wp r (Ate r))∧(∀r,30*r+2<=fuel->1<=r->r<=20000->(T.pfx fuel).wp r (Ate r))∧
 (∀r,30*r+3<=fuel->1<=r->r<=20000->(T.product fuel).wp r (Ate r))∧(∀r,30*r+4<=fuel->1<=r->r<=20000->(T.typ fuel).wp r (Ate r))
 |0=>⟨fun r h=>by omega,fun r h=>by omega,fun r h=>by omega,fun r h=>by omega⟩
 |fuel+1=>by
  obtain⟨h1,h2,h3,h4⟩:=types_wp fuel
  refine⟨fun r hf hr hm=>?_,fun r hf hr hm=>?_,fun r hf hr hm=>?_,fun r hf hr hm=>?_⟩
  ·rw[T.simple]
   refine kd_I ?_ fun h=>zFW (by decide) fun h5 t ht=>⟨by omega,by omega⟩
   refine skip_N (zB2 (zHT fuel _ (by omega) hr hm) fun v r' h5 h6=>⟨h5,h6⟩) fun h5=>?_
   refine zGC ?_ fun h6=>zB2 (zJZ fuel (by omega) (by omega) (by omega)) fun l r' h7 h8=>zDl fun h9=>⟨by omega,by omega⟩
   refine zB2 (h4 _ (by omega) (by omega) (by omega)) fun t r' h7 h8=>?_
   refine PT.wp_bindQ (sep_wp [44] (r-1) (fun q hq hq2=>h4 q (by omega) hq (by omega)) fuel [t] r' (by omega) h8 (by omega) (by simp only[List.length_cons,List.length_nil];omega)) fun l r'' hl=>?_
   obtain⟨l1,l2,l3,l4⟩:=hl
   refine zDl fun h9=>?_
   split
   ·obtain⟨a,ha⟩:=zHM (l:=l) (by simpa using l3)
    exact ofO_wp ha ⟨by omega,by omega⟩
   ·exact zB2 (zHT fuel _ (by omega) (by omega) (by omega)) fun v r' h5 h6=>⟨by omega,h6⟩
  ·rw[T.pfx]
   refine zB2 (h1 _ (by omega) hr hm) fun t r' h7 h8=>PT.wp_bindQ (zH1 fuel fuel t r' (by omega) (by omega) h8 (by omega)) fun a r'' ha=>⟨by have:=ha.1;omega,ha.2⟩
  ·rw[T.product]
   refine zB2 (h2 _ (by omega) hr hm) fun t r' h7 h8=>PT.wp_bindQ (sep_wp [42] (r-1) (fun q hq hq2=>h2 q (by omega) hq (by omega)) fuel [t] r' (by omega) h8 (by omega) (by simp only[List.length_cons,List.length_nil];omega)) fun l r'' hl=>?_
   obtain⟨l1,l2,l3,l4⟩:=hl
   split
   ·obtain⟨a,ha⟩:=zHM (l:=l) (by simpa using l3)
    exact ofO_wp ha ⟨by omega,by omega⟩
   ·exact⟨by omega,l2⟩
  ·rw[T.typ]
   refine zB2 (h3 _ (by omega) hr hm) fun t r' h7 h8=>zGC ⟨by omega,h8⟩ fun h9=>zB2 (h4 _ (by omega) (by omega) (by omega)) fun u r'' h5 h6=>⟨by omega,h6⟩
theorem zJ8(fuel:Nat){β:Type}{r:Nat}{Q:β->Nat->Prop}{f:Int->PT β}(h:20001<=fuel)(hf:2<=r->∀n:Int,-4503599627370496<=-n->-n<=0->(f n).wp (r-1) Q):((T.number fuel).bind f).wp r Q:=by
 unfold T.number
 rw[PT.bind_assoc]
 refine zFW (by decide) fun h2 t ht=>?_
 obtain⟨v,hv,h3,h4⟩:=zKI t ht (fuel:=fuel) (by omega)
 rw[PT.bind_assoc]
 exact ofO_wp hv (hf h2 v.1 h3 h4)
theorem pats_wp: ∀fuel,(∀r,30*r+20001<=fuel->1<=r->r<=20000->(T.argument fuel).wp r (Ate r))∧(∀r,30*r+20002<=fuel->1<=r->r<=20000->(T.pattern fuel).wp r (Ate r))
 |0=>⟨fun r h=>by omega,fun r h=>by omega⟩
 |fuel+1=>by
  obtain⟨h1,h2⟩:=pats_wp fuel
  refine⟨fun r hf hr hm=>?_,fun r hf hr hm=>?_⟩
  ·rw[T.argument]
   refine zGC ?_ fun h=>⟨by omega,by omega⟩
   refine zGC ?_ fun h=>zJ8 fuel (by omega) fun h5 n h6 h7=>ofO_wp (chkA (by omega) (by omega)) ⟨by omega,by omega⟩
   refine kd_I ?_ fun h=>zJ8 fuel (by omega) fun h5 n h6 h7=>⟨by omega,by omega⟩
   refine kd_I ?_ fun h=>zFW (by decide) fun h5 t ht=>⟨by omega,by omega⟩
   refine kd_I ?_ fun h=>zB2 (zJZ fuel (by omega) (by omega) (by omega)) fun l r' h7 h8=>⟨h7,h8⟩
   refine zDl fun h5=>zGC ?_ fun h6=>⟨by omega,by omega⟩
   refine zB2 (h2 _ (by omega) (by omega) (by omega)) fun t r' h7 h8=>?_
   refine PT.wp_bindQ (sep_wp [44] (r-1) (fun q hq hq2=>h2 q (by omega) hq (by omega)) fuel [t] r' (by omega) h8 (by omega) (by simp only[List.length_cons,List.length_nil];omega)) fun l r'' hl=>?_
   obtain⟨l1,l2,l3,l4⟩:=hl
   refine zDl fun h9=>?_
   split
   ·obtain⟨a,ha⟩:=zHM (l:=l) (by simpa using l3)
    exact ofO_wp ha ⟨by omega,by omega⟩
   ·exact⟨by omega,by omega⟩
  ·rw[T.pattern]
   refine kd_N (zB2 (h1 _ (by omega) hr hm) fun t r' h7 h8=>⟨h7,h8⟩) fun h=>zB2 (zJZ fuel (by omega) (by omega) (by omega)) fun l r' h7 h8=>?_
   have no:(PT.ret (zKZ.mk 14 0 [] l []):PT zKZ).wp r' (Ate r):=⟨h7,h8⟩
   have yes:((T.argument fuel).bind fun t=>PT.ret (zKZ.mk 14 0 [] l [t])).wp r' (Ate r):=zB2 (h1 _ (by omega) h8 (by omega)) fun t r'' h5 h6=>⟨by omega,h6⟩
   exact⟨⟨⟨⟨⟨⟨no,fun _=>yes⟩,fun _=>yes⟩,fun _=>yes⟩,fun _=>yes⟩,fun _=>yes⟩,fun _=>yes⟩
theorem zIr(fuel:Nat){F:PT zKZ}(R:Nat)(hF: ∀r,1<=r->r<=R->F.wp r (Ate r))(hP: ∀r,1<=r->r<=R->(T.pattern fuel).wp r (Ate r)): ∀k x r,r<=k->1<=r->r<=R->x.length+r<=40000->(T.choice_l1 fuel F k x).wp r fun _ r'=>r'<=r∧1<=r'
 |0,x,r,h1,h2,h4,h3=>by omega
 |k+1,x,r,h1,h2,h4,h3=>by
  rw[T.choice_l1]
  refine zB2 (hP _ h2 h4) fun p r1 a1 b1=>zDl fun c1=>zB2 (hF _ (by omega) (by omega)) fun v r2 a2 b2=>app80 (by simp) (app80 (by omega) (skip_N (zDl fun c2=>⟨by omega,by omega⟩) fun c3=>?_))
  exact PT.wp_mono (fun a r' ha=>⟨by have:=ha.1;omega,ha.2⟩) _ _ (zIr fuel R hF hP k _ (r2-1) (by omega) (by omega) (by omega) (by simp only[List.length_append,List.length_cons,List.length_nil];omega))
theorem zHJ{F:PT zKZ}(R:Nat)(hF: ∀r,1<=r->r<=R->F.wp r (Ate r)): ∀k x r,r<=k->1<=r->r<=R->(T.negation_l1 F k x).wp r fun _ r'=>r'<=r∧1<=r'
 |0,x,r,h1,h2,h4=>by omega
 |k+1,x,r,h1,h2,h4=>by
  rw[T.negation_l1]
  exact begins_I ⟨by omega,h2⟩ fun h=>zB2 (hF _ h2 h4) fun v r1 a1 b1=>PT.wp_mono (fun a r' ha=>⟨by have:=ha.1;omega,ha.2⟩) _ _ (zHJ R hF k _ r1 (by omega) b1 (by omega))
theorem decl_l1_wp: ∀k x r,r<=k->1<=r->x.length+r<=40000->(T.decl_l1 k x).wp r fun _ r'=>r'<=r∧1<=r'
 |0,x,r,h1,h2,h3=>by omega
 |k+1,x,r,h1,h2,h3=>by
  rw[T.decl_l1]
  refine kd_I ⟨by omega,h2⟩ fun h=>zFW (by decide) fun h4 t ht=>app16 (by omega) ?_
  exact PT.wp_mono (fun a r' ha=>⟨by have:=ha.1;omega,ha.2⟩) _ _ (decl_l1_wp k (x++[t]) (r-1) (by omega) (by omega) (by simp only[List.length_append,List.length_cons,List.length_nil];omega))
theorem let_l1_wp{F:PT zKZ}(R:Nat)(hF: ∀r,1<=r->r<=R->F.wp r (Ate r)): ∀k x r,r<=k->1<=r->r<=R->x.length+r<=40000->(T.let_l1 F k x).wp r fun l r'=>r'<=r∧1<=r'∧l.length<=40000
 |0,x,r,h1,h2,h4,h3=>by omega
 |k+1,x,r,h1,h2,h4,h3=>by
  rw[T.let_l1]
  refine skip_N (zB2 (hF _ h2 h4) fun v r1 a1 b1=>app80 (by omega) ?_) fun h=>⟨by omega,by omega,by omega⟩
  exact PT.wp_mono (fun a r' ha=>⟨by have:=ha.1;omega,ha.2⟩) _ _ (let_l1_wp R hF k (x++[v]) r1 (by omega) (by omega) (by omega) (by simp only[List.length_append,List.length_cons,List.length_nil];omega))
theorem zJe{F:Int->PT zKZ}(n:Int)(R:Nat)(hF: ∀r m,(m=n∨m=n+1)->1<=r->r<=R->(F m).wp r (Ate r)): ∀k x r,r<=k->1<=r->r<=R+1->(T.level_l1 F n (n+1) k x).wp r fun _ r'=>r'<=r∧1<=r'
 |0,x,r,h1,h2,h4=>by omega
 |k+1,x,r,h1,h2,h4=>by
  rw[T.level_l1]
  refine ops_wp ?_ OPS fun h2 q hq hn=>?_
  ·rw[if_pos (by decide)];exact⟨by omega,h2⟩
  split
  ·exact⟨by omega,by omega⟩
  ·refine⟨h2,fun t ht=>?_⟩
   split
   ·exact zB2 (hF _ _ (.inl rfl) (by omega) (by omega)) fun u r1 a1 b1=>⟨by omega,b1⟩
   split
   ·exact zB2 (hF _ _ (.inl rfl) (by omega) (by omega)) fun u r1 a1 b1=>⟨by omega,b1⟩
   split
   ·exact zB2 (hF _ _ (.inl rfl) (by omega) (by omega)) fun u r1 a1 b1=>⟨by omega,b1⟩
   split
   ·exact zB2 (hF _ _ (.inr rfl) (by omega) (by omega)) fun u r1 a1 b1=>⟨by omega,b1⟩
   ·exact zB2 (hF _ _ (.inr rfl) (by omega) (by omega)) fun u r1 a1 b1=>PT.wp_mono (fun a r' ha=>⟨by have:=ha.1;omega,ha.2⟩) _ _ (zJe n R hF k _ r1 (by omega) b1 (by omega))
theorem ofO_bind{α β:Type}(a:α)(f:α->PT β):(PT.ofO (some a)).bind f=f a:=rfl
theorem level_succ(fuel:Nat)(n:Int)(h:eqI n 7=false)(h1: -9223372036854775808<=n+1)(h2:n+1<=9223372036854775807):T.level (fuel+1) n=(T.level fuel (n+1)).bind fun t=>T.level_l1 (T.level fuel) n (n+1) fuel t:=by
 rw[T.level,if_neg (by rw[h];decide),chkA h1 h2,ofO_bind]
theorem zJd(fuel:Nat):T.level (fuel+1) 7=(T.negation fuel).bind .ret:=by
 rw[T.level,if_pos (by decide)]
theorem level_step(K fuel:Nat)(hK:20001<=K)(h3: ∀r,30*r+K+2<=fuel->1<=r->r<=20000->(T.negation fuel).wp r (Ate r))(h4: ∀r (n:Nat),1<=n->n<=7->30*r+K+10<=fuel+n->1<=r->r<=20000->(T.level fuel n).wp r (Ate r))
 (r n:Nat) (hn1:1<=n) (hn7:n<=7) (hf:30*r+K+10<=fuel+1+n) (hr:1<=r) (hm:r<=20000):(T.level (fuel+1) n).wp r (Ate r):=by
 have hn:((n+1:Nat):Int)=(n:Int)+1:=by omega
 rcases Nat.lt_or_ge n 7 with h|h
 ·have h4': ∀q,30*q+K+10<=fuel+(n+1)->1<=q->q<=20000->(T.level fuel ((n:Int)+1)).wp q (Ate q):=fun q g1 g2 g3=>by
   rw[<-hn];exact h4 q (n+1) (by omega) (by omega) g1 g2 g3
  rw[level_succ fuel n (by simp only[eqI,decide_eq_false_iff_not];omega) (by omega) (by omega)]
  refine zB2 (h4' r (by omega) hr hm) fun t r1 a1 b1=>?_
  refine PT.wp_mono (fun a r' ha=>?_) _ _ (zJe n (r-1) (fun q m hm2 hq hq2=>?_) fuel t r1 (by omega) b1 (by omega))
  ·obtain⟨x1,x2⟩:=ha
   exact⟨by omega,x2⟩
  rcases hm2 with rfl|rfl
  ·exact h4 q n hn1 hn7 (by omega) hq (by omega)
  ·exact h4' q (by omega) hq (by omega)
 ·have:n=7:=by omega
  subst this
  rw[show((7:Nat):Int)=7 from rfl,zJd]
  exact zB2 (h3 _ (by omega) hr hm) fun t r1 a1 b1=>⟨a1,b1⟩
def ExprsWp(K fuel:Nat):Prop:=(∀r,30*r+K+11<=fuel->1<=r->r<=20000->(T.inside fuel).wp r (Ate r))∧(∀r,30*r+K+11<=fuel->1<=r->r<=20000->(T.choice fuel).wp r (Ate r))∧
 (∀r,30*r+K+2<=fuel->1<=r->r<=20000->(T.negation fuel).wp r (Ate r))∧(∀r (n:Nat),1<=n->n<=7->30*r+K+10<=fuel+n->1<=r->r<=20000->(T.level fuel n).wp r (Ate r))∧
 (∀r,30*r+K+10<=fuel->1<=r->r<=20000->(T.expr fuel).wp r (Ate r))∧(∀r,30*r+K+1<=fuel->1<=r->r<=20000->(T.decl fuel).wp r (Ate r))∧
 (∀r,30*r+K+11<=fuel->1<=r->r<=20000->(T.let fuel).wp r (Ate r))∧(∀r,30*r+K+1<=fuel->1<=r->r<=20000->(T.atom fuel).wp r (Ate r))
theorem exprs_step(K fuel:Nat)(hK:20001<=K)(h:ExprsWp K fuel):ExprsWp K (fuel+1):=by
 obtain⟨h1,h2,h3,h4,h5,h6,h7,h8⟩:=h
 have h41: ∀r,30*r+K+10<=fuel+1->1<=r->r<=20000->(T.level fuel 1).wp r (Ate r):=fun r g1 g2 g3=>h4 r 1 (by omega) (by omega) g1 g2 g3
 have ht:=(types_wp fuel).2.2.2
 have hp:=(pats_wp fuel).2
 refine⟨fun r hf hr hm=>?_,fun r hf hr hm=>?_,fun r hf hr hm=>?_,fun r n hn1 hn7 hf hr hm=>?_,fun r hf hr hm=>?_,fun r hf hr hm=>?_,fun r hf hr hm=>?_,fun r hf hr hm=>?_⟩
 ·rw[T.inside]
  refine zGC ?_ fun c1=>⟨by omega,by omega⟩
  refine zGC ?_ fun c1=>zB2 (zJZ fuel (by omega) (by omega) (by omega)) fun l r1 a1 b1=>zDl fun c2=>zB2 (zJZ fuel (by omega) (by omega) (by omega)) fun l r2 a2 b2=>zDl fun c3=>⟨by omega,by omega⟩
  refine zB2 (h5 _ (by omega) hr hm) fun t r1 a1 b1=>?_
  refine zGC ?_ fun c2=>zB2 (ht _ (by omega) (by omega) (by omega)) fun u r2 a2 b2=>app80 (by simp) (zDl fun c3=>⟨by omega,by omega⟩)
  refine PT.wp_bindQ (sep_wp [44] (r-1) (fun q hq hq2=>h5 q (by omega) hq (by omega)) fuel [t] r1 (by omega) b1 (by omega) (by simp only[List.length_cons,List.length_nil];omega)) fun l r'' hl=>?_
  obtain⟨l1,l2,l3,l4⟩:=hl
  refine zDl fun h9=>?_
  split
  ·obtain⟨a,ha⟩:=zHM (l:=l) (by simpa using l3)
   exact ofO_wp ha ⟨by omega,by omega⟩
  ·exact⟨by omega,by omega⟩
 ·rw[T.choice]
  refine zB2 (h5 _ (by omega) hr hm) fun t r1 a1 b1=>zDl fun c1=>?_
  exact PT.wp_mono (fun a r' ha=>⟨by have:=ha.1;omega,ha.2⟩) _ _ (zIr fuel (r-1) (fun q hq hq2=>h5 q (by omega) hq (by omega)) (fun q hq hq2=>hp q (by omega) hq (by omega)) fuel [t] (r1-1) (by omega) (by omega) (by omega) (by simp only[List.length_cons,List.length_nil];omega))
 ·rw[T.negation]
  refine zGC ?_ fun c1=>zB2 (h3 _ (by omega) (by omega) (by omega)) fun t r1 a1 b1=>⟨by omega,b1⟩
  refine zB2 (h8 _ (by omega) hr hm) fun t r1 a1 b1=>PT.wp_bindQ (zHJ (r-1) (fun q hq hq2=>h8 q (by omega) hq (by omega)) fuel t r1 (by omega) b1 (by omega)) fun a r' ha=>⟨by have:=ha.1;omega,ha.2⟩
 ·exact level_step K fuel hK h3 h4 r n hn1 hn7 hf hr hm
 ·rw[T.expr]
  refine zGC ?_ fun c1=>skip_N (zFW (by decide) fun c2 s hs=>zDl fun c3=>zB2 (h5 _ (by omega) (by omega) (by omega)) fun t r1 a1 b1=>⟨by omega,b1⟩) fun c2=>zDl fun c3=>zB2 (h5 _ (by omega) (by omega) (by omega)) fun t r1 a1 b1=>⟨by omega,b1⟩
  refine zGC (zB2 (h41 r (by omega) hr hm) fun t r1 a1 b1=>⟨a1,b1⟩) fun c1=>?_
  exact zB2 (h5 _ (by omega) (by omega) (by omega)) fun t r1 a1 b1=>zDl fun c2=>zB2 (h5 _ (by omega) (by omega) (by omega)) fun u r2 a2 b2=>app80 (by simp) (zDl fun c3=>zB2 (h5 _ (by omega) (by omega) (by omega)) fun v r3 a3 b3=>app80 (by simp) ⟨by omega,b3⟩)
 ·rw[T.decl]
  refine zGC ?_ fun c1=>zFW (by decide) fun c2 s hs=>zDl fun c3=>zB2 (h5 _ (by omega) (by omega) (by omega)) fun t r1 a1 b1=>⟨by omega,b1⟩
  refine zGC ?_ fun c1=>zFW (by decide) fun c2 s hs=>zFW (by decide) fun c3 x hx=>PT.wp_bindQ (decl_l1_wp fuel [x] (r-1-1-1) (by omega) (by omega) (by simp only[List.length_cons,List.length_nil];omega)) fun l r1 hl=>zDl fun c4=>zB2 (h5 _ (by have:=hl.1;omega) (by omega) (by have:=hl.1;omega)) fun t r2 a2 b2=>⟨by have:=hl.1;omega,b2⟩
  exact zDl fun c1=>zFW (by decide) fun c2 s hs=>zDl fun c3=>zDl fun c4=>zB2 (h8 _ (by omega) (by omega) (by omega)) fun t r1 a1 b1=>zDl fun c5=>zB2 (zJZ fuel (by omega) (by omega) (by omega)) fun m r2 a2 b2=>app80 (by simp) ⟨by omega,b2⟩
 ·rw[T.let]
  refine PT.wp_bindQ (let_l1_wp r (fun q hq hq2=>h6 q (by omega) hq (by omega)) fuel [] r (by omega) hr (by omega) (by simp only[List.length_nil];omega)) fun L r1 hL=>?_
  obtain⟨l1,l2,l3⟩:=hL
  exact zB2 (h5 _ (by omega) (by omega) (by omega)) fun t r2 a2 b2=>app80 (by omega) (zDl fun c1=>⟨by omega,by omega⟩)
 ·rw[T.atom]
  refine kd_I ?_ fun c1=>zJ8 fuel (by omega) fun c2 n h6 h7=>⟨by omega,by omega⟩
  refine kd_I ?_ fun c1=>zFW (by decide) fun c2 t ht=>⟨by omega,by omega⟩
  refine named_I ?_ fun c1=>zB2 (path_wp fuel true (by omega) hr hm) fun v r1 a1 b1=>?_
  ·refine zGC ?_ fun c1=>zB2 (h7 _ (by omega) (by omega) (by omega)) fun t r1 a1 b1=>⟨by omega,b1⟩
   refine zGC ?_ fun c1=>zB2 (h2 _ (by omega) (by omega) (by omega)) fun t r1 a1 b1=>⟨by omega,b1⟩
   exact zDl fun c1=>zB2 (h1 _ (by omega) (by omega) (by omega)) fun t r1 a1 b1=>⟨by omega,b1⟩
  ·split
   ·exact⟨a1,b1⟩
   ·exact⟨a1,b1⟩
theorem exprs_wp(K:Nat)(hK:20001<=K): ∀fuel,ExprsWp K fuel
 |0=>⟨fun r h=>by omega,fun r h=>by omega,fun r h=>by omega,fun r n h1 h2 h3=>by omega,fun r h=>by omega,fun r h=>by omega,fun r h=>by omega,fun r h=>by omega⟩
 |fuel+1=>exprs_step K fuel hK (exprs_wp K hK fuel)
section
variable {α β:Type}
open PT
theorem zFB{s:List UInt8}{f:Bool->PT β}(h:(f false).eats):((T.skip s).bind f).eats:=fun b=>by
 cases b with
 |false=>exact h
 |true=>trivial
theorem want_eats{s:List UInt8}{f:Unit->PT β}:((T.want s).bind f).eats:=eats_bind _ _ fun b=>by cases b<;>trivial
theorem zF0{n:Int}:(T.name n).eats:=fun b=>by cases b<;>trivial
theorem zHk{n:Int}{x y:PT β}(hx:x.eats)(hy:y.eats):(PT.kd n fun b=>if b then x else y).eats:=fun b=>by cases b<;>assumption
theorem kdN_eats{n:Int}{x y:PT β}(hx:x.eats)(hy:y.eats):(PT.kd n fun b=>if !b then x else y).eats:=fun b=>by cases b<;>assumption
theorem ite_eats{c:Prop}[Decidable c]{x y:PT β}(hx:x.eats)(hy:y.eats):(if c then x else y).eats:=by split<;>assumption
theorem zD1{s:List UInt8}{f:Bool->PT β}(h: ∀b,(f b).nc)(he:s=[41]->(f false).eats):((T.skip s).bind f).nc:=
 ⟨fun b=>by
  cases b with
  |false=>exact h false
  |true=>exact fun _=>h true,fun hs=>he hs⟩
theorem zDm{s:List UInt8}:(T.want s).nc:=⟨fun b=>by
 cases b with
 |false=>trivial
 |true=>exact fun _=>trivial,fun _=>trivial⟩
theorem zFX{n:Int}(h7:n≠7)(h8:n≠8):(T.name n).nc:=⟨h7,h8,fun b=>by
 cases b with
 |false=>trivial
 |true=>exact fun _=>trivial⟩
theorem kd_nc{n:Int}{f:Bool->PT β}(h7:n≠7)(h8:n≠8)(h: ∀b,(f b).nc):(PT.kd n f).nc:=⟨h7,h8,h⟩
theorem zCl{c:Prop}[Decidable c]{x y:PT β}(hx:x.nc)(hy:y.nc):(if c then x else y).nc:=by split<;>assumption
theorem zFl{o:Option α}:(PT.ofO o).nc:=by cases o<;>trivial
theorem zAY{x:PT α}{f:α->PT β}(h:x.nc)(hf: ∀a,(f a).nc):(x.bind f).nc:=nc_bind f hf x h
theorem anyOf_nc: ∀L:List (List UInt8),(∀s∈L,s≠[41])->(T.anyOf L).nc
 |[],_=>trivial
 |[s],h=>⟨fun _=>trivial,fun hs=>absurd hs (h s zq9)⟩
 |s::s'::r,h=>⟨fun b=>by
  cases b with
  |true=>trivial
  |false=>exact anyOf_nc (s'::r) fun x hx=>h x (zqc _ hx),fun hs=>absurd hs (h s zq9)⟩
theorem named_nc:T.named.nc:=kd_nc (by decide) (by decide) fun b=>zCl trivial (kd_nc (by decide) (by decide) fun _=>trivial)
theorem begins_nc:T.begins.nc:=kd_nc (by decide) (by decide) fun b=>zCl trivial (kd_nc (by decide) (by decide) fun b=>zCl trivial (kd_nc (by decide) (by decide) fun b=>zCl trivial (kd_nc (by decide) (by decide) fun b=>zCl trivial (anyOf_nc _ (by decide)))))
theorem ops_nc(n:Int): ∀L:List (Int×List UInt8×Int),(∀q∈L,q.2.1≠[41])->(T.ops n L).nc
 |[],_=>trivial
 |q::L,h=>by
  rw[T.ops]
  have ih:=ops_nc n L fun x hx=>h x (zqc _ hx)
  exact zCl ⟨fun b=>zCl trivial ih,fun hs=>absurd hs (h q zq9)⟩ ih
end
open PT in
theorem path_l1_nc(cap:Bool): ∀k x,(T.path_l1 cap k x).nc
 |0,x=>trivial
 |k+1,x=>by
  have ih:=path_l1_nc cap k
  rw[T.path_l1]
  refine kd_nc (by decide) (by decide) fun b=>zCl (zAY (zFX (by decide) (by decide)) fun t=>zAY zFl fun l=>zAY (zCl ⟨fun _=>trivial,fun h=>absurd h (by decide)⟩ trivial) fun c=>zCl trivial (zAY zDm fun _=>ih _)) trivial
theorem path_nc(fuel:Nat)(cap:Bool):(T.path fuel cap).nc:=zAY (path_l1_nc cap fuel []) fun r=>by
 cases r with
 |inl v=>trivial
 |inr l=>exact zAY (zFX (by decide) (by decide)) fun t=>zAY zFl fun _=>trivial
theorem zHU(fuel:Nat)(x:List zKZ):(T.typePath fuel x).nc:=zAY (path_nc fuel false) fun _=>trivial
theorem path_eats(fuel:Nat)(cap:Bool):(T.path fuel cap).eats:=by
 cases fuel with
 |zero=>trivial
 |succ k=>
  unfold T.path
  rw[T.path_l1]
  intro b
  cases b with
  |true=>exact PT.eats_bind _ _ (PT.eats_bind _ _ zF0)
  |false=>exact(show((T.name 1).bind _).eats from PT.eats_bind _ _ zF0)
theorem typePath_eats(fuel:Nat)(x:List zKZ):(T.typePath fuel x).eats:=PT.eats_bind _ _ (path_eats _ _)
theorem mods_l1_nc: ∀k x,(T.mods_l1 k x).nc
 |0,x=>trivial
 |k+1,x=>by
  have ih:=mods_l1_nc k
  rw[T.mods_l1]
  exact zD1 (fun b=>zCl (zAY (zFX (by decide) (by decide)) fun t=>zAY zFl fun l=>ih _) trivial) fun h=>absurd h (by decide)
theorem zJa(fuel:Nat):(T.mods fuel).nc:=zAY (zFX (by decide) (by decide)) fun t=>mods_l1_nc _ _
theorem mods_eats(fuel:Nat):(T.mods fuel).eats:=PT.eats_bind _ _ zF0
theorem sep_nc{s:List UInt8}(hs:s≠[41]){F:PT zKZ}(hF:F.nc): ∀k x,(T.sep s F k x).nc
 |0,x=>trivial
 |k+1,x=>by
  have ih:=sep_nc hs hF k
  rw[T.sep]
  exact zD1 (fun b=>zCl (zAY hF fun v=>zAY zFl fun l=>ih _) trivial) fun h=>absurd h hs
theorem zH2(fuel:Nat): ∀k x,(T.pfx_l1 fuel k x).nc
 |0,x=>trivial
 |k+1,x=>by
  have ih:=zH2 fuel k
  rw[T.pfx_l1]
  exact zAY named_nc fun b=>zCl (zAY (zHU _ _) fun u=>ih _) trivial
theorem types_ne: ∀fuel,((T.simple fuel).nc∧(T.pfx fuel).nc∧(T.product fuel).nc∧(T.typ fuel).nc)∧(T.simple fuel).eats∧(T.pfx fuel).eats∧(T.product fuel).eats∧(T.typ fuel).eats
 |0=>by simp only[T.simple,T.pfx,T.product,T.typ,PT.nc,PT.eats,and_self]
 |fuel+1=>by
  obtain⟨⟨h1,h2,h3,h4⟩,e1,e2,e3,e4⟩:=types_ne fuel
  have lf: ∀l:List zKZ,(if eqI (l.length:Int) 1 then (PT.ofO l[0]?).bind .ret else (T.typePath fuel l).bind .ret:PT zKZ).nc:=fun l=>zCl (zAY zFl fun _=>trivial) (zAY (zHU _ _) fun _=>trivial)
  refine⟨⟨?_,?_,?_,?_⟩,?_,?_,?_,?_⟩
  ·rw[T.simple]
   exact kd_nc (by decide) (by decide) fun b=>zCl (zAY (zFX (by decide) (by decide)) fun t=>trivial) (zD1 (fun b=>zCl (zAY (zHU _ _) fun _=>trivial) (zD1 (fun b=>zCl (zAY (zJa _) fun l=>zAY zDm fun _=>trivial)
    (zAY h4 fun t=>zAY (sep_nc (by decide) h4 _ _) fun l=>zAY zDm fun _=>lf l)) fun h=>absurd h (by decide))) fun h=>absurd h (by decide))
  ·rw[T.pfx]
   exact zAY h1 fun t=>zAY (zH2 _ _ _) fun _=>trivial
  ·rw[T.product]
   exact zAY h2 fun t=>zAY (sep_nc (by decide) h2 _ _) fun l=>zCl (zAY zFl fun _=>trivial) trivial
  ·rw[T.typ]
   exact zAY h3 fun t=>zD1 (fun b=>zCl (zAY h4 fun _=>trivial) trivial) fun h=>absurd h (by decide)
  ·rw[T.simple]
   exact zHk (PT.eats_bind _ _ zF0) (zFB (PT.eats_bind _ _ (typePath_eats _ _)))
  ·rw[T.pfx]
   exact PT.eats_bind _ _ e1
  ·rw[T.product]
   exact PT.eats_bind _ _ e2
  ·rw[T.typ]
   exact PT.eats_bind _ _ e3
theorem zJ9(fuel:Nat):(T.number fuel).nc:=zAY (zFX (by decide) (by decide)) fun t=>zAY zFl fun _=>trivial
theorem zJY(fuel:Nat):(T.number fuel).eats:=PT.eats_bind _ _ zF0
theorem pats_ne: ∀fuel,((T.argument fuel).nc∧(T.pattern fuel).nc)∧(T.argument fuel).eats∧(T.pattern fuel).eats
 |0=>by simp only[T.argument,T.pattern,PT.nc,PT.eats,and_self]
 |fuel+1=>by
  obtain⟨⟨h1,h2⟩,e1,e2⟩:=pats_ne fuel
  refine⟨⟨?_,?_⟩,?_,?_⟩
  ·rw[T.argument]
   refine zD1 (fun b=>zCl trivial (zD1 (fun b=>zCl (zAY (zJ9 _) fun n=>zAY zFl fun _=>trivial) (kd_nc (by decide) (by decide) fun b=>zCl (zAY (zJ9 _) fun n=>trivial)
    (kd_nc (by decide) (by decide) fun b=>zCl (zAY (zFX (by decide) (by decide)) fun n=>trivial) (kd_nc (by decide) (by decide) fun b=>zCl (zAY (zJa _) fun _=>trivial) (zAY zDm fun _=>zD1 (fun b=>zCl trivial ?_) fun _=>?_))))) fun h=>absurd h (by decide))) fun h=>absurd h (by decide)
   ·exact zAY h2 fun t=>zAY (sep_nc (by decide) h2 _ _) fun l=>zAY zDm fun _=>zCl (zAY zFl fun _=>trivial) trivial
   ·exact PT.eats_bind _ _ e2
  ·rw[T.pattern]
   exact kd_nc (by decide) (by decide) fun b=>zCl (zAY h1 fun _=>trivial) (zAY (zJa _) fun l=>zAY (zAY named_nc fun b=>zCl trivial (kd_nc (by decide) (by decide) fun b=>zCl trivial (anyOf_nc _ (by decide)))) fun b=>zCl (zAY h1 fun _=>trivial) trivial)
  ·rw[T.argument]
   exact zFB (zFB (zHk (PT.eats_bind _ _ (zJY _)) (zHk (PT.eats_bind _ _ zF0) (zHk (PT.eats_bind _ _ (mods_eats _)) want_eats))))
  ·rw[T.pattern]
   exact kdN_eats (PT.eats_bind _ _ e1) (PT.eats_bind _ _ (mods_eats _))
theorem zIs(fuel:Nat){F:PT zKZ}(hF:F.nc): ∀k x,(T.choice_l1 fuel F k x).nc
 |0,x=>trivial
 |k+1,x=>by
  have ih:=zIs fuel hF k
  rw[T.choice_l1]
  exact zAY (pats_ne _).1.2 fun p=>zAY zDm fun _=>zAY hF fun v=>zAY zFl fun _=>zAY zFl fun _=>zD1 (fun b=>zCl (zAY zDm fun _=>trivial) (ih _)) fun h=>absurd h (by decide)
theorem zHK{F:PT zKZ}(hF:F.nc): ∀k x,(T.negation_l1 F k x).nc
 |0,x=>trivial
 |k+1,x=>by
  have ih:=zHK hF k
  rw[T.negation_l1]
  exact zAY begins_nc fun b=>zCl (zAY hF fun _=>ih _) trivial
theorem decl_l1_nc: ∀k x,(T.decl_l1 k x).nc
 |0,x=>trivial
 |k+1,x=>by
  have ih:=decl_l1_nc k
  rw[T.decl_l1]
  exact kd_nc (by decide) (by decide) fun b=>zCl (zAY (zFX (by decide) (by decide)) fun t=>zAY zFl fun _=>ih _) trivial
theorem let_l1_nc{F:PT zKZ}(hF:F.nc): ∀k x,(T.let_l1 F k x).nc
 |0,x=>trivial
 |k+1,x=>by
  have ih:=let_l1_nc hF k
  rw[T.let_l1]
  exact zD1 (fun b=>zCl (zAY hF fun _=>zAY zFl fun _=>ih _) trivial) fun h=>absurd h (by decide)
theorem zJf{F:Int->PT zKZ}(hF: ∀n,(F n).nc)(n n2:Int): ∀k x,(T.level_l1 F n n2 k x).nc
 |0,x=>trivial
 |k+1,x=>by
  have ih:=zJf hF n n2 k
  rw[T.level_l1]
  exact zAY (ops_nc _ _ (by decide)) fun o=>zCl trivial fun _=>zCl (zAY (hF _) fun _=>trivial) (zCl (zAY (hF _) fun _=>trivial) (zCl (zAY (hF _) fun _=>trivial) (zCl (zAY (hF _) fun _=>trivial) (zAY (hF _) fun _=>ih _))))
theorem zKL: ∀fuel,((T.inside fuel).nc∧(T.choice fuel).nc∧(T.negation fuel).nc∧(∀n,(T.level fuel n).nc)∧(T.expr fuel).nc∧(T.decl fuel).nc∧(T.let fuel).nc∧(T.atom fuel).nc)∧
 (T.negation fuel).eats∧(∀n,(T.level fuel n).eats)∧(T.expr fuel).eats∧(T.atom fuel).eats
 |0=>by simp only[T.inside,T.choice,T.negation,T.level,T.expr,T.decl,T.let,T.atom,PT.nc,PT.eats,and_self,implies_true]
 |fuel+1=>by
  obtain⟨⟨h1,h2,h3,h4,h5,h6,h7,h8⟩,e3,e4,e5,e8⟩:=zKL fuel
  have ht:=(types_ne fuel).1.2.2.2
  have no: ∀{p:Prop}{s:List UInt8},s≠[41]->s=[41]->p:=fun a b=>absurd b a
  refine⟨⟨?_,?_,?_,fun n=>?_,?_,?_,?_,?_⟩,?_,fun n=>?_,?_,?_⟩
  ·rw[T.inside]
   refine zD1 (fun b=>zCl trivial ?_) fun _=>zFB (PT.eats_bind _ _ e5)
   exact zD1 (fun b=>zCl (zAY (zJa _) fun _=>zAY zDm fun _=>zAY (zJa _) fun _=>zAY zDm fun _=>trivial)
    (zAY h5 fun t=>zD1 (fun b=>zCl (zAY ht fun _=>zAY zFl fun _=>zAY zDm fun _=>trivial) (zAY (sep_nc (by decide) h5 _ _) fun l=>zAY zDm fun _=>zCl (zAY zFl fun _=>trivial) trivial)) (no (by decide)))) (no (by decide))
  ·rw[T.choice]
   exact zAY h5 fun t=>zAY zDm fun _=>zIs _ h5 _ _
  ·rw[T.negation]
   exact zD1 (fun b=>zCl (zAY h3 fun _=>trivial) (zAY h8 fun _=>zAY (zHK h8 _ _) fun _=>trivial)) (no (by decide))
  ·rw[T.level]
   exact zCl (zAY h3 fun _=>trivial) (zAY zFl fun m=>zAY (h4 _) fun t=>zJf h4 _ _ _ _)
  ·rw[T.expr]
   exact zD1 (fun b=>zCl (zD1 (fun b=>zCl (zAY (zFX (by decide) (by decide)) fun _=>zAY zDm fun _=>zAY h5 fun _=>trivial) (zAY zDm fun _=>zAY h5 fun _=>trivial)) (no (by decide)))
    (zD1 (fun b=>zCl (zAY h5 fun _=>zAY zDm fun _=>zAY h5 fun _=>zAY zFl fun _=>zAY zDm fun _=>zAY h5 fun _=>zAY zFl fun _=>trivial) (zAY (h4 _) fun _=>trivial)) (no (by decide)))) (no (by decide))
  ·rw[T.decl]
   exact zD1 (fun b=>zCl (zAY (zFX (by decide) (by decide)) fun _=>zAY zDm fun _=>zAY h5 fun _=>trivial)
    (zD1 (fun b=>zCl (zAY (zFX (by decide) (by decide)) fun _=>zAY (zFX (by decide) (by decide)) fun _=>zAY (decl_l1_nc _ _) fun _=>zAY zDm fun _=>zAY h5 fun _=>trivial)
     (zAY zDm fun _=>zAY (zFX (by decide) (by decide)) fun _=>zAY zDm fun _=>zAY zDm fun _=>zAY h8 fun _=>zAY zDm fun _=>zAY (zJa _) fun _=>zAY zFl fun _=>trivial)) (no (by decide)))) (no (by decide))
  ·rw[T.let]
   exact zAY (let_l1_nc h6 _ _) fun _=>zAY h5 fun _=>zAY zFl fun _=>zAY zDm fun _=>trivial
  ·rw[T.atom]
   exact kd_nc (by decide) (by decide) fun b=>zCl (zAY (zJ9 _) fun _=>trivial) (kd_nc (by decide) (by decide) fun b=>zCl (zAY (zFX (by decide) (by decide)) fun _=>trivial)
    (zAY named_nc fun b=>zCl (zAY (path_nc _ _) fun v=>zCl trivial trivial) (zD1 (fun b=>zCl (zAY h7 fun _=>trivial) (zD1 (fun b=>zCl (zAY h2 fun _=>trivial) (zAY zDm fun _=>zAY h1 fun _=>trivial)) (no (by decide)))) (no (by decide)))))
  ·rw[T.negation]
   exact zFB (PT.eats_bind _ _ e8)
  ·rw[T.level]
   exact ite_eats (PT.eats_bind _ _ e3) (PT.eats_bind2 _ (fun m=>PT.eats_bind _ _ (e4 _)) _)
  ·rw[T.expr]
   exact zFB (zFB (PT.eats_bind _ _ (e4 _)))
  ·rw[T.atom]
   refine zHk (PT.eats_bind _ _ (zJY _)) (zHk (PT.eats_bind _ _ zF0) ?_)
   exact PT.eats_bind2 _ (fun b=>ite_eats (PT.eats_bind _ _ (path_eats _ _)) (zFB (zFB want_eats))) _
end Go.Proofs.YtcbjbgiboimgaaaGreatDoor
