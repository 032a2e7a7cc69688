/- For every input the law ParsecoreGroups returns true. Part 15 of 22. No condition. -/
import Derived.Test.YtcbjbgiboimgaaaGreatDoorPGn
set_option linter.unusedVariables false
set_option linter.unnecessarySimpa false
set_option linter.unusedSimpArgs false
set_option maxRecDepth 100000
set_option maxHeartbeats 4000000
namespace Go.Proofs.YtcbjbgiboimgaaaGreatDoor
open Go Go.Abs
theorem zFS(level1:Int)(w2:zKm)(r:Int)(h:zBq level1 w2=some r):Raw Tryz.prog 133 [pT 0,iI level1] [[.sl (w2.l.map zKp.c),iI w2.at_]] (iI r) [[.sl (w2.l.map zKp.c),iI w2.at_]]:=by
 rw[zBq] at h
 refine zA9 Tryz.func133 (by rfl) (by rfl) (by simp) (by simp)<|cutA 82 1 [(0,pT 0),(1,iI level1)] [[.sl (w2.l.map zKp.c),iI w2.at_]]<|zAF<|zAP ?_
 obtain⟨b8,q9,h⟩:=bs h
 refine cut 82 1 [(0,pT 0),(1,iI level1),(5,.bool b8)] [[.sl (w2.l.map zKp.c),iI w2.at_]] ?_ ?_
 ·rcases sp q9 with ⟨g3,q9⟩|⟨g3,q9⟩
  ·have c4:=eqT g3
   obtain⟨v5,q6,q9⟩:=bs q9
   obtain rfl:=oi q9
   refine st ?_
   simp[g3]
   have r101:=(zAU [111,114,101,108,115,101] w2 v5 q6).frame [0] [[.sl (w2.l.map zKp.c),iI w2.at_]] (by simp)
   try simp[g3] at r101
   refine zAK r101 (by simp[g3]) rfl ?_
   simp[g3]
  have c7:=eqF g3
  obtain rfl:=oi q9
  refine st ?_
  simp[g3]
 refine spc h rfl (fun g10 h=>?_) fun g10 h=>?_
 ·refine cutA 82 1 [(4,iI 1)] [[.sl (w2.l.map zKp.c),iI w2.at_]]<|zAA<|zAD<|zAB ?_
  cases h
  simp
 obtain⟨b16,q17,h⟩:=bs h
 refine cut 82 1 [(0,pT 0),(1,iI level1),(12,.bool b16)] [[.sl (w2.l.map zKp.c),iI w2.at_]] ?_ ?_
 ·rcases sp q17 with ⟨g11,q17⟩|⟨g11,q17⟩
  ·have c12:=eqT g11
   obtain⟨v13,q14,q17⟩:=bs q17
   obtain rfl:=oi q17
   refine st ?_
   simp[g11]
   have r100:=(zAU [97,110,100,97,108,115,111] w2 v13 q14).frame [0] [[.sl (w2.l.map zKp.c),iI w2.at_]] (by simp)
   try simp[g11] at r100
   refine zAK r100 (by simp[g11]) rfl ?_
   simp[g11]
  have c15:=eqF g11
  obtain rfl:=oi q17
  refine st ?_
  simp[g11]
 refine spc h rfl (fun g18 h=>?_) fun g18 h=>?_
 ·refine cutA 82 1 [(4,iI 2)] [[.sl (w2.l.map zKp.c),iI w2.at_]]<|zAA<|zAD<|zAB ?_
  cases h
  simp
 obtain⟨b24,q25,h⟩:=bs h
 refine cut 82 1 [(0,pT 0),(1,iI level1),(19,.bool b24)] [[.sl (w2.l.map zKp.c),iI w2.at_]] ?_ ?_
 ·rcases sp q25 with ⟨g19,q25⟩|⟨g19,q25⟩
  ·have c20:=eqT g19
   obtain⟨v21,q22,q25⟩:=bs q25
   obtain rfl:=oi q25
   refine st ?_
   simp[g19]
   have r99:=(zAU [61] w2 v21 q22).frame [0] [[.sl (w2.l.map zKp.c),iI w2.at_]] (by simp)
   try simp[g19] at r99
   refine zAK r99 (by simp[g19]) rfl ?_
   simp[g19]
  have c23:=eqF g19
  obtain rfl:=oi q25
  refine st ?_
  simp[g19]
 refine spc h rfl (fun g26 h=>?_) fun g26 h=>?_
 ·refine cutA 82 1 [(4,iI 3)] [[.sl (w2.l.map zKp.c),iI w2.at_]]<|zAA<|zAD<|zAB ?_
  cases h
  simp
 obtain⟨b32,q33,h⟩:=bs h
 refine cut 82 1 [(0,pT 0),(1,iI level1),(26,.bool b32)] [[.sl (w2.l.map zKp.c),iI w2.at_]] ?_ ?_
 ·rcases sp q33 with ⟨g27,q33⟩|⟨g27,q33⟩
  ·have c28:=eqT g27
   obtain⟨v29,q30,q33⟩:=bs q33
   obtain rfl:=oi q33
   refine st ?_
   simp[g27]
   have r98:=(zAU [60] w2 v29 q30).frame [0] [[.sl (w2.l.map zKp.c),iI w2.at_]] (by simp)
   try simp[g27] at r98
   refine zAK r98 (by simp[g27]) rfl ?_
   simp[g27]
  have c31:=eqF g27
  obtain rfl:=oi q33
  refine st ?_
  simp[g27]
 refine spc h rfl (fun g34 h=>?_) fun g34 h=>?_
 ·refine cutA 82 1 [(4,iI 4)] [[.sl (w2.l.map zKp.c),iI w2.at_]]<|zAA<|zAD<|zAB ?_
  cases h
  simp
 obtain⟨b40,q41,h⟩:=bs h
 refine cut 82 1 [(0,pT 0),(1,iI level1),(33,.bool b40)] [[.sl (w2.l.map zKp.c),iI w2.at_]] ?_ ?_
 ·rcases sp q41 with ⟨g35,q41⟩|⟨g35,q41⟩
  ·have c36:=eqT g35
   obtain⟨v37,q38,q41⟩:=bs q41
   obtain rfl:=oi q41
   refine st ?_
   simp[g35]
   have r97:=(zAU [60,61] w2 v37 q38).frame [0] [[.sl (w2.l.map zKp.c),iI w2.at_]] (by simp)
   try simp[g35] at r97
   refine zAK r97 (by simp[g35]) rfl ?_
   simp[g35]
  have c39:=eqF g35
  obtain rfl:=oi q41
  refine st ?_
  simp[g35]
 refine spc h rfl (fun g42 h=>?_) fun g42 h=>?_
 ·refine cutA 82 1 [(4,iI 5)] [[.sl (w2.l.map zKp.c),iI w2.at_]]<|zAA<|zAD<|zAB ?_
  cases h
  simp
 obtain⟨b48,q49,h⟩:=bs h
 refine cut 82 1 [(0,pT 0),(1,iI level1),(40,.bool b48)] [[.sl (w2.l.map zKp.c),iI w2.at_]] ?_ ?_
 ·rcases sp q49 with ⟨g43,q49⟩|⟨g43,q49⟩
  ·have c44:=eqT g43
   obtain⟨v45,q46,q49⟩:=bs q49
   obtain rfl:=oi q49
   refine st ?_
   simp[g43]
   have r96:=(zAU [94] w2 v45 q46).frame [0] [[.sl (w2.l.map zKp.c),iI w2.at_]] (by simp)
   try simp[g43] at r96
   refine zAK r96 (by simp[g43]) rfl ?_
   simp[g43]
  have c47:=eqF g43
  obtain rfl:=oi q49
  refine st ?_
  simp[g43]
 refine spc h rfl (fun g50 h=>?_) fun g50 h=>?_
 ·refine cutA 82 1 [(4,iI 6)] [[.sl (w2.l.map zKp.c),iI w2.at_]]<|zAA<|zAD<|zAB ?_
  cases h
  simp
 obtain⟨b56,q57,h⟩:=bs h
 refine cut 82 1 [(0,pT 0),(1,iI level1),(47,.bool b56)] [[.sl (w2.l.map zKp.c),iI w2.at_]] ?_ ?_
 ·rcases sp q57 with ⟨g51,q57⟩|⟨g51,q57⟩
  ·have c52:=eqT g51
   obtain⟨v53,q54,q57⟩:=bs q57
   obtain rfl:=oi q57
   refine st ?_
   simp[g51]
   have r95:=(zAU [43] w2 v53 q54).frame [0] [[.sl (w2.l.map zKp.c),iI w2.at_]] (by simp)
   try simp[g51] at r95
   refine zAK r95 (by simp[g51]) rfl ?_
   simp[g51]
  have c55:=eqF g51
  obtain rfl:=oi q57
  refine st ?_
  simp[g51]
 refine spc h rfl (fun g58 h=>?_) fun g58 h=>?_
 ·refine cutA 82 1 [(4,iI 7)] [[.sl (w2.l.map zKp.c),iI w2.at_]]<|zAA<|zAD<|zAB ?_
  cases h
  simp
 obtain⟨b64,q65,h⟩:=bs h
 refine cut 82 1 [(0,pT 0),(1,iI level1),(54,.bool b64)] [[.sl (w2.l.map zKp.c),iI w2.at_]] ?_ ?_
 ·rcases sp q65 with ⟨g59,q65⟩|⟨g59,q65⟩
  ·have c60:=eqT g59
   obtain⟨v61,q62,q65⟩:=bs q65
   obtain rfl:=oi q65
   refine st ?_
   simp[g59]
   have r94:=(zAU [45] w2 v61 q62).frame [0] [[.sl (w2.l.map zKp.c),iI w2.at_]] (by simp)
   try simp[g59] at r94
   refine zAK r94 (by simp[g59]) rfl ?_
   simp[g59]
  have c63:=eqF g59
  obtain rfl:=oi q65
  refine st ?_
  simp[g59]
 refine spc h rfl (fun g66 h=>?_) fun g66 h=>?_
 ·refine cutA 82 1 [(4,iI 8)] [[.sl (w2.l.map zKp.c),iI w2.at_]]<|zAA<|zAD<|zAB ?_
  cases h
  simp
 obtain⟨b72,q73,h⟩:=bs h
 refine cut 82 1 [(0,pT 0),(1,iI level1),(61,.bool b72)] [[.sl (w2.l.map zKp.c),iI w2.at_]] ?_ ?_
 ·rcases sp q73 with ⟨g67,q73⟩|⟨g67,q73⟩
  ·have c68:=eqT g67
   obtain⟨v69,q70,q73⟩:=bs q73
   obtain rfl:=oi q73
   refine st ?_
   simp[g67]
   have r93:=(zAU [42] w2 v69 q70).frame [0] [[.sl (w2.l.map zKp.c),iI w2.at_]] (by simp)
   try simp[g67] at r93
   refine zAK r93 (by simp[g67]) rfl ?_
   simp[g67]
  have c71:=eqF g67
  obtain rfl:=oi q73
  refine st ?_
  simp[g67]
 refine spc h rfl (fun g74 h=>?_) fun g74 h=>?_
 ·refine cutA 82 1 [(4,iI 9)] [[.sl (w2.l.map zKp.c),iI w2.at_]]<|zAA<|zAD<|zAB ?_
  cases h
  simp
 obtain⟨b80,q81,h⟩:=bs h
 refine cut 82 1 [(0,pT 0),(1,iI level1),(68,.bool b80)] [[.sl (w2.l.map zKp.c),iI w2.at_]] ?_ ?_
 ·rcases sp q81 with ⟨g75,q81⟩|⟨g75,q81⟩
  ·have c76:=eqT g75
   obtain⟨v77,q78,q81⟩:=bs q81
   obtain rfl:=oi q81
   refine st ?_
   simp[g75]
   have r92:=(zAU [100,105,118] w2 v77 q78).frame [0] [[.sl (w2.l.map zKp.c),iI w2.at_]] (by simp)
   try simp[g75] at r92
   refine zAK r92 (by simp[g75]) rfl ?_
   simp[g75]
  have c79:=eqF g75
  obtain rfl:=oi q81
  refine st ?_
  simp[g75]
 refine spc h rfl (fun g82 h=>?_) fun g82 h=>?_
 ·refine cutA 82 1 [(4,iI 10)] [[.sl (w2.l.map zKp.c),iI w2.at_]]<|zAA<|zAD<|zAB ?_
  cases h
  simp
 obtain⟨b88,q89,h⟩:=bs h
 refine cut 82 1 [(75,.bool b88)] [[.sl (w2.l.map zKp.c),iI w2.at_]] ?_ ?_
 ·rcases sp q89 with ⟨g83,q89⟩|⟨g83,q89⟩
  ·have c84:=eqT g83
   obtain⟨v85,q86,q89⟩:=bs q89
   obtain rfl:=oi q89
   refine st ?_
   simp[g83]
   have r91:=(zAU [109,111,100] w2 v85 q86).frame [0] [[.sl (w2.l.map zKp.c),iI w2.at_]] (by simp)
   try simp[g83] at r91
   refine zAK r91 (by simp[g83]) rfl ?_
   simp[g83]
  have c87:=eqF g83
  obtain rfl:=oi q89
  refine st ?_
  simp[g83]
 refine spc h rfl (fun g90 h=>?_) fun g90 h=>?_
 ·refine cutA 82 1 [(4,iI 11)] [[.sl (w2.l.map zKp.c),iI w2.at_]]<|zAA<|zAD<|zAB ?_
  cases h
  simp
 refine zAC<|zDb<|zAN<|cutA 82 1 [(4,iI 0)] [[.sl (w2.l.map zKp.c),iI w2.at_]]<|zAA ?_
 cases h
 simp
theorem zCG(fuel:Nat):(∀(w1:zKm)(r:(zKm) ⊕ (zKr×zKm))(_:zCA fuel w1=some r),Sum.elim (fun r=>RawP Tryz.prog 114 (pan1 112) [pT 0] [[.sl (w1.l.map zKp.c),iI w1.at_]] [[.sl (r.l.map zKp.c),iI r.at_]]) (fun r=>Raw Tryz.prog 114 [pT 0] [[.sl (w1.l.map zKp.c),iI w1.at_]] (.agg (zKr.d r.1)) [[.sl (r.2.l.map zKp.c),iI r.2.at_]]) r)∧(∀(w1:zKm)(r:(zKm) ⊕ (zKr×zKm))(_:zCB fuel w1=some r),Sum.elim (fun r=>RawP Tryz.prog 112 (pan1 112) [pT 0] [[.sl (w1.l.map zKp.c),iI w1.at_]] [[.sl (r.l.map zKp.c),iI r.at_]]) (fun r=>Raw Tryz.prog 112 [pT 0] [[.sl (w1.l.map zKp.c),iI w1.at_]] (.agg (zKr.d r.1)) [[.sl (r.2.l.map zKp.c),iI r.2.at_]]) r)∧(∀(w1:zKm)(r:(zKm) ⊕ (zKr×zKm))(_:zBW fuel w1=some r),Sum.elim (fun r=>RawP Tryz.prog 132 (pan1 112) [pT 0] [[.sl (w1.l.map zKp.c),iI w1.at_]] [[.sl (r.l.map zKp.c),iI r.at_]]) (fun r=>Raw Tryz.prog 132 [pT 0] [[.sl (w1.l.map zKp.c),iI w1.at_]] (.agg (zKr.d r.1)) [[.sl (r.2.l.map zKp.c),iI r.2.at_]]) r)∧(∀(n1:Int)(w2:zKm)(r:(zKm) ⊕ (zKr×zKm))(_:zBK fuel n1 w2=some r),Sum.elim (fun r=>RawP Tryz.prog 115 (pan1 112) [pT 0,iI n1] [[.sl (w2.l.map zKp.c),iI w2.at_]] [[.sl (r.l.map zKp.c),iI r.at_]]) (fun r=>Raw Tryz.prog 115 [pT 0,iI n1] [[.sl (w2.l.map zKp.c),iI w2.at_]] (.agg (zKr.d r.1)) [[.sl (r.2.l.map zKp.c),iI r.2.at_]]) r)∧(∀(w1:zKm)(r:(zKm) ⊕ (zKr×zKm))(_:zAW fuel w1=some r),Sum.elim (fun r=>RawP Tryz.prog 76 (pan1 112) [pT 0] [[.sl (w1.l.map zKp.c),iI w1.at_]] [[.sl (r.l.map zKp.c),iI r.at_]]) (fun r=>Raw Tryz.prog 76 [pT 0] [[.sl (w1.l.map zKp.c),iI w1.at_]] (.agg (zKr.d r.1)) [[.sl (r.2.l.map zKp.c),iI r.2.at_]]) r)∧(∀(w1:zKm)(r:(zKm) ⊕ (zKr×zKm))(_:zB5 fuel w1=some r),Sum.elim (fun r=>RawP Tryz.prog 131 (pan1 112) [pT 0] [[.sl (w1.l.map zKp.c),iI w1.at_]] [[.sl (r.l.map zKp.c),iI r.at_]]) (fun r=>Raw Tryz.prog 131 [pT 0] [[.sl (w1.l.map zKp.c),iI w1.at_]] (.agg (zKr.d r.1)) [[.sl (r.2.l.map zKp.c),iI r.2.at_]]) r)∧(∀(w1:zKm)(r:(zKm) ⊕ (zKr×zKm))(_:zCY fuel w1=some r),Sum.elim (fun r=>RawP Tryz.prog 111 (pan1 112) [pT 0] [[.sl (w1.l.map zKp.c),iI w1.at_]] [[.sl (r.l.map zKp.c),iI r.at_]]) (fun r=>Raw Tryz.prog 111 [pT 0] [[.sl (w1.l.map zKp.c),iI w1.at_]] (.agg (zKr.d r.1)) [[.sl (r.2.l.map zKp.c),iI r.2.at_]]) r)∧(∀(w1:zKm)(r:(zKm) ⊕ (zKr×zKm))(_:zA1 fuel w1=some r),Sum.elim (fun r=>RawP Tryz.prog 75 (pan1 112) [pT 0] [[.sl (w1.l.map zKp.c),iI w1.at_]] [[.sl (r.l.map zKp.c),iI r.at_]]) (fun r=>Raw Tryz.prog 75 [pT 0] [[.sl (w1.l.map zKp.c),iI w1.at_]] (.agg (zKr.d r.1)) [[.sl (r.2.l.map zKp.c),iI r.2.at_]]) r):=by
 induction fuel with
 |zero=>
  refine⟨?_,?_,?_,?_,?_,?_,?_,?_⟩
  ·intro w1 r h;rw[zCA] at h;cases h
  ·intro w1 r h;rw[zCB] at h;cases h
  ·intro w1 r h;rw[zBW] at h;cases h
  ·intro n1 w2 r h;rw[zBK] at h;cases h
  ·intro w1 r h;rw[zAW] at h;cases h
  ·intro w1 r h;rw[zB5] at h;cases h
  ·intro w1 r h;rw[zCY] at h;cases h
  ·intro w1 r h;rw[zA1] at h;cases h
 |succ fuel ih=>
  obtain⟨zD5,zD6,zCb,zAk,zAR,zEf,zEo,zCI⟩:=ih
  refine⟨?_,?_,?_,?_,?_,?_,?_,?_⟩
  ·intro w1 r h
   rw[zCA] at h
   refine zBz Tryz.func114 (by rfl) (by rfl) (by simp) (by simp)<|cutA 57 1 [(0,pT 0),(2,pT 1)] [[.sl (w1.l.map zKp.c),iI w1.at_],zz0]<|zAF<|zAP ?_
   obtain⟨v2,q3,h⟩:=bs h
   refine cut 57 1 [(0,pT 0),(2,pT 1),(6,.bool v2.1)] [[.sl (v2.2.l.map zKp.c),iI v2.2.at_],zz0] ?_ ?_
   ·refine st ?_
    simp
    have r96:=(zAO [41] w1 v2 q3).frame [0] [[.sl (w1.l.map zKp.c),iI w1.at_],zz0] (by simp)
    try simp at r96
    refine zAK r96 (by simp) rfl ?_
    simp
   refine spc h rfl (fun g4 h=>?_) fun g4 h=>?_
   ·refine cutA 57 1 [(2,pT 1)] [[.sl (v2.2.l.map zKp.c),iI v2.2.at_],[iI 27,iI 0,.str ([]:List UInt8),.osl ⟨1,9⟩ (([]:List (List UInt8)).map cS),.osl ⟨5,26⟩ (([]:List zKr).map zKr.c)]]<|zAA<|zAD<|zAB ?_
    cases h
    simp
   obtain⟨v5,q6,h⟩:=bs h
   refine cut 57 1 [(0,pT 0),(2,pT 1),(10,.bool v5.1)] [[.sl (v5.2.l.map zKp.c),iI v5.2.at_],zz0] ?_ ?_
   ·refine st ?_
    simp
    have r95:=(zAO [112,97,99,107] v2.2 v5 q6).frame [0] [[.sl (v2.2.l.map zKp.c),iI v2.2.at_],zz0] (by simp)
    try simp at r95
    refine zAK r95 (by simp) rfl ?_
    simp
   refine spc h rfl (fun g7 h=>?_) fun g7 h=>?_
   ·obtain⟨v8,q9,h⟩:=bs h
    rcases v8 with e10|v11
    ·replace h:=zDB h
     refine zAF<|stP 1 ?_
     simp
     have r30:=(panL (zAe fuel v5.2 (.inl e10) q9)).frame [0] [[.sl (v5.2.l.map zKp.c),iI v5.2.at_],zz0] (by simp)
     try simp at r30
     refine panC r30 (by simp) (by simp)<|zAS<|zA0<|zAS ?_
     cases h
     simp
    replace h:=zCP h
    refine cut 57 1 [(0,pT 0),(2,pT 1),(3,pT 2)] [[.sl (v11.2.l.map zKp.c),iI v11.2.at_],zz0,[iI 34,iI 0,.str ([]:List UInt8),.sl (v11.1.map cS),.osl ⟨5,26⟩ (([]:List zKr).map zKr.c)]] ?_ ?_
    ·refine st ?_
     simp
     have r31:=(panR (zAe fuel v5.2 (.inr v11) q9)).frame [0] [[.sl (v5.2.l.map zKp.c),iI v5.2.at_],zz0] (by simp)
     try simp at r31
     refine zAK r31 (by simp) rfl ?_
     simp
    obtain⟨v12,q13,h⟩:=bs h
    rcases v12 with e14|v15
    ·replace h:=zDB h
     refine zAF<|stP 1 ?_
     simp
     have r28:=(panL (zAE [58] v11.2 (.inl e14) q13)).frame [0] [[.sl (v11.2.l.map zKp.c),iI v11.2.at_],zz0,[iI 34,iI 0,.str ([]:List UInt8),.sl (v11.1.map cS),.osl ⟨5,26⟩ (([]:List zKr).map zKr.c)]] (by simp)
     try simp at r28
     refine panC r28 (by simp) (by simp)<|zAS<|zA0<|zAS ?_
     cases h
     simp
    replace h:=zCP h
    refine cut 57 1 [(0,pT 0),(2,pT 1),(3,pT 2)] [[.sl (v15.l.map zKp.c),iI v15.at_],zz0,[iI 34,iI 0,.str ([]:List UInt8),.sl (v11.1.map cS),.osl ⟨5,26⟩ (([]:List zKr).map zKr.c)]] ?_ ?_
    ·refine st ?_
     simp
     have r29:=(panR (zAE [58] v11.2 (.inr v15) q13)).frame [0] [[.sl (v11.2.l.map zKp.c),iI v11.2.at_],zz0,[iI 34,iI 0,.str ([]:List UInt8),.sl (v11.1.map cS),.osl ⟨5,26⟩ (([]:List zKr).map zKr.c)]] (by simp)
     try simp at r29
     refine zAK r29 (by simp) rfl ?_
     simp
    obtain⟨v16,q17,h⟩:=bs h
    rcases v16 with e18|v19
    ·replace h:=zDB h
     refine zAF<|stP 1 ?_
     simp
     have r26:=(panL (zAe fuel v15 (.inl e18) q17)).frame [0] [[.sl (v15.l.map zKp.c),iI v15.at_],zz0,[iI 34,iI 0,.str ([]:List UInt8),.sl (v11.1.map cS),.osl ⟨5,26⟩ (([]:List zKr).map zKr.c)]] (by simp)
     try simp at r26
     refine panC r26 (by simp) (by simp)<|zAS<|zA0<|zAS ?_
     cases h
     simp
    replace h:=zCP h
    refine cut 57 1 [(0,pT 0),(2,pT 1),(3,pT 2)] [[.sl (v19.2.l.map zKp.c),iI v19.2.at_],zz0,[iI 34,iI 0,.str ([]:List UInt8),.sl (v11.1.map cS),.osl ⟨5,26⟩ ([(zKr.mk 72 0 ([]:List UInt8) v19.1 ([]:List zKr))].map zKr.c)]] ?_ ?_
    ·refine st ?_
     simp
     have r27:=(panR (zAe fuel v15 (.inr v19) q17)).frame [0] [[.sl (v15.l.map zKp.c),iI v15.at_],zz0,[iI 34,iI 0,.str ([]:List UInt8),.sl (v11.1.map cS),.osl ⟨5,26⟩ (([]:List zKr).map zKr.c)]] (by simp)
     try simp at r27
     refine zAK r27 (by simp) rfl ?_
     simp
    obtain⟨v20,q21,h⟩:=bs h
    rcases v20 with e22|v23
    ·replace h:=zDB h
     refine zAF<|stP 1 ?_
     simp
     have r24:=(panL (zAE [41] v19.2 (.inl e22) q21)).frame [0] [[.sl (v19.2.l.map zKp.c),iI v19.2.at_],zz0,[iI 34,iI 0,.str ([]:List UInt8),.sl (v11.1.map cS),.osl ⟨5,26⟩ ([(zKr.mk 72 0 ([]:List UInt8) v19.1 ([]:List zKr))].map zKr.c)]] (by simp)
     try simp at r24
     refine panC r24 (by simp) (by simp)<|zAS<|zA0<|zAS ?_
     cases h
     simp
    replace h:=zCP h
    refine cut 57 1 [(2,pT 1),(3,pT 2)] [[.sl (v23.l.map zKp.c),iI v23.at_],zz0,[iI 34,iI 0,.str ([]:List UInt8),.sl (v11.1.map cS),.osl ⟨5,26⟩ ([(zKr.mk 72 0 ([]:List UInt8) v19.1 ([]:List zKr))].map zKr.c)]] ?_ ?_
    ·refine st ?_
     simp
     have r25:=(panR (zAE [41] v19.2 (.inr v23) q21)).frame [0] [[.sl (v19.2.l.map zKp.c),iI v19.2.at_],zz0,[iI 34,iI 0,.str ([]:List UInt8),.sl (v11.1.map cS),.osl ⟨5,26⟩ ([(zKr.mk 72 0 ([]:List UInt8) v19.1 ([]:List zKr))].map zKr.c)]] (by simp)
     try simp at r25
     refine zAK r25 (by simp) rfl ?_
     simp
    refine cutA 57 1 [(2,pT 1)] [[.sl (v23.l.map zKp.c),iI v23.at_],[iI 34,iI 0,.str ([]:List UInt8),.sl (v11.1.map cS),.sl ([(zKr.mk 72 0 ([]:List UInt8) v19.1 ([]:List zKr))].map zKr.c)],[iI 34,iI 0,.str ([]:List UInt8),.sl (v11.1.map cS),.osl ⟨5,26⟩ ([(zKr.mk 72 0 ([]:List UInt8) v19.1 ([]:List zKr))].map zKr.c)]]<|zAA<|zAD<|zAB ?_
    cases h
    simp
   refine zAC<|zDb<|zAN ?_
   obtain⟨v32,q33,h⟩:=bs h
   rcases v32 with e34|v35
   ·replace h:=zDB h
    refine zAF<|stP 1 ?_
    simp
    have r93:=(panL (zAR v5.2 (.inl e34) q33)).frame [0] [[.sl (v5.2.l.map zKp.c),iI v5.2.at_],zz0] (by simp)
    try simp at r93
    refine panC r93 (by simp) (by simp)<|zAS ?_
    cases h
    simp
   replace h:=zCP h
   refine cut 57 1 [(0,pT 0),(2,pT 1),(4,.osl ⟨5,26⟩ ([v35.1].map zKr.c))] [[.sl (v35.2.l.map zKp.c),iI v35.2.at_],zz0] ?_ ?_
   ·refine st ?_
    simp
    have r94:=(panR (zAR v5.2 (.inr v35) q33)).frame [0] [[.sl (v5.2.l.map zKp.c),iI v5.2.at_],zz0] (by simp)
    try simp at r94
    refine zAK r94 (by simp) rfl ?_
    simp
   refine zAF ?_
   obtain⟨v36,q37,h⟩:=bs h
   refine cut 57 1 [(0,pT 0),(2,pT 1),(4,.osl ⟨5,26⟩ ([v35.1].map zKr.c)),(30,.bool v36.1)] [[.sl (v36.2.l.map zKp.c),iI v36.2.at_],zz0] ?_ ?_
   ·refine st ?_
    simp
    have r92:=(zAO [58] v35.2 v36 q37).frame [0] [[.sl (v35.2.l.map zKp.c),iI v35.2.at_],zz0] (by simp)
    try simp at r92
    refine zAK r92 (by simp) rfl ?_
    simp
   refine spc h rfl (fun g38 h=>?_) fun g38 h=>?_
   ·obtain⟨v39,q40,h⟩:=bs h
    rcases v39 with e41|v42
    ·replace h:=zDB h
     refine zAF<|stP 2 ?_
     simp
     have r53:=(panL (zDN fuel v36.2 (.inl e41) q40)).frame [0] [[.sl (v36.2.l.map zKp.c),iI v36.2.at_],zz0] (by simp)
     try simp at r53
     refine panC r53 (by simp) (by simp)<|zAS<|zAS ?_
     cases h
     simp
    replace h:=zCP h
    obtain⟨l43,q44,h⟩:=bs h
    obtain⟨q45,q46⟩:=zF7 q44
    try simp at q45
    refine cut 57 1 [(0,pT 0),(2,pT 1),(5,pT 2)] [[.sl (v42.2.l.map zKp.c),iI v42.2.at_],zz0,[iI 33,iI 0,.str ([]:List UInt8),.osl ⟨1,9⟩ (([]:List (List UInt8)).map cS),.sl (l43.map zKr.c)]] ?_ ?_
    ·refine st ?_
     simp[q45,q46]
     have r54:=(panR (zDN fuel v36.2 (.inr v42) q40)).frame [0] [[.sl (v36.2.l.map zKp.c),iI v36.2.at_],zz0] (by simp)
     try simp[q45,q46] at r54
     refine zAK r54 (by simp[q45,q46]) rfl ?_
     simp[q45,q46]
    obtain⟨v47,q48,h⟩:=bs h
    rcases v47 with e49|v50
    ·replace h:=zDB h
     refine zAF<|stP 1 ?_
     simp
     have r51:=(panL (zAE [41] v42.2 (.inl e49) q48)).frame [0] [[.sl (v42.2.l.map zKp.c),iI v42.2.at_],zz0,[iI 33,iI 0,.str ([]:List UInt8),.osl ⟨1,9⟩ (([]:List (List UInt8)).map cS),.sl (l43.map zKr.c)]] (by simp)
     try simp at r51
     refine panC r51 (by simp) (by simp)<|zAS<|zAS ?_
     cases h
     simp
    replace h:=zCP h
    refine cut 57 1 [(2,pT 1),(5,pT 2)] [[.sl (v50.l.map zKp.c),iI v50.at_],zz0,[iI 33,iI 0,.str ([]:List UInt8),.osl ⟨1,9⟩ (([]:List (List UInt8)).map cS),.sl (l43.map zKr.c)]] ?_ ?_
    ·refine st ?_
     simp
     have r52:=(panR (zAE [41] v42.2 (.inr v50) q48)).frame [0] [[.sl (v42.2.l.map zKp.c),iI v42.2.at_],zz0,[iI 33,iI 0,.str ([]:List UInt8),.osl ⟨1,9⟩ (([]:List (List UInt8)).map cS),.sl (l43.map zKr.c)]] (by simp)
     try simp at r52
     refine zAK r52 (by simp) rfl ?_
     simp
    refine cutA 57 1 [(2,pT 1)] [[.sl (v50.l.map zKp.c),iI v50.at_],[iI 33,iI 0,.str ([]:List UInt8),.sl (([]:List (List UInt8)).map cS),.sl (l43.map zKr.c)],[iI 33,iI 0,.str ([]:List UInt8),.osl ⟨1,9⟩ (([]:List (List UInt8)).map cS),.sl (l43.map zKr.c)]]<|zAA<|zAB ?_
    cases h
    simp
   refine zAC<|zAN<|zAF<|zAP ?_
   obtain⟨o59,l60,h⟩:=bs h
   refine zCd (fun p:Nat×(List zKp)×Int×(List zKr)=>mkS 57 1 [(0,pT 0),(2,pT 1),(4,.osl ⟨5,26⟩ (p.2.2.2.map zKr.c))] [[.sl (p.2.1.map zKp.c),iI p.2.2.1],zz0]) (fun p=>zBS (zAW fuel) p.1 p.2.1 p.2.2.1 p.2.2.2=some o59) (fun p=>p.1) (fuel,v36.2.l,v36.2.at_,[v35.1]) l60 (zBe (by simp)) ?_
   rintro⟨k61,l55,at56,l57⟩ l60
   try dsimp only at l60 ⊢
   cases k61 with
   |zero=>
    rw[zBS] at l60;cases l60
   |succ k62=>
    rw[zBS] at l60
    refine zAF ?_
    obtain⟨v63,q64,l60⟩:=bs l60
    refine cut 57 1 [(0,pT 0),(2,pT 1),(4,.osl ⟨5,26⟩ (l57.map zKr.c)),(41,.bool v63.1)] [[.sl (v63.2.l.map zKp.c),iI v63.2.at_],zz0] ?_ ?_
    ·refine st ?_
     simp
     have r91:=(zAO [44] (zKm.mk l55 at56) v63 q64).frame [0] [[.sl (l55.map zKp.c),iI at56],zz0] (by simp)
     try simp at r91
     refine zAK r91 (by simp) rfl ?_
     simp
    refine spc l60 rfl (fun g65 l60=>?_) fun g65 l60=>?_
    ·refine zAC<|zAN<|zAP ?_
     obtain⟨v66,q67,l60⟩:=bs l60
     rcases v66 with e68|v69
     ·replace l60:=zDB l60
      refine stP 2 ?_
      simp
      have r74:=(panL (zAR v63.2 (.inl e68) q67)).frame [0] [[.sl (v63.2.l.map zKp.c),iI v63.2.at_],zz0] (by simp)
      try simp at r74
      refine panC r74 (by simp) (by simp)<|zA0 ?_
      replace h:=retL l60 h
      refine zAS<|zA0<|zAS ?_
      cases h
      simp
     replace l60:=zCP l60
     obtain⟨l70,q71,l60⟩:=bs l60
     obtain⟨q72,q73⟩:=zF7 q71
     try simp at q72
     refine last 57 1 [(0,pT 0),(2,pT 1),(4,.osl ⟨5,26⟩ (l70.map zKr.c))] [[.sl (v69.2.l.map zKp.c),iI v69.2.at_],zz0] ?_ fun zz hs=>?_
     ·refine st ?_
      simp[q72,q73]
      have r75:=(panR (zAR v63.2 (.inr v69) q67)).frame [0] [[.sl (v63.2.l.map zKp.c),iI v63.2.at_],zz0] (by simp)
      try simp[q72,q73] at r75
      refine zAK r75 (by simp[q72,q73]) rfl ?_
      simp[q72,q73]
     refine zDb ?_
     exact⟨(k62,v69.2.l,v69.2.at_,l70),hs,l60,by simp⟩
    refine zBv<|zAm ?_
    rcases o59 with o59|o58
    ·cases l60
    have q76:=Sum.inr.inj (zqa l60)
    replace h:=zCP h
    have q77:o58.1=l57:=by rw[<-q76]
    have q78:o58.2.1=v63.2.l:=by rw[<-q76]
    have q79:o58.2.2=v63.2.at_:=by rw[<-q76]
    refine zAm<|zBu<|zDI (t:=mkS 57 1 [(0,pT 0),(2,pT 1),(4,.osl ⟨5,26⟩ (o58.1.map zKr.c))] [[.sl (o58.2.1.map zKp.c),iI o58.2.2],zz0]) ?_ (zBe (by simp[q77,q78,q79]))
    obtain⟨v80,q81,h⟩:=bs h
    rcases v80 with e82|v83
    ·replace h:=zDB h
     refine zAF<|stP 1 ?_
     simp
     have r89:=(panL (zAE [41] (zKm.mk o58.2.1 o58.2.2) (.inl e82) q81)).frame [0] [[.sl (o58.2.1.map zKp.c),iI o58.2.2],zz0] (by simp)
     try simp at r89
     refine panC r89 (by simp) (by simp)<|zAS ?_
     cases h
     simp
    replace h:=zCP h
    refine cut 57 1 [(2,pT 1),(4,.osl ⟨5,26⟩ (o58.1.map zKr.c))] [[.sl (v83.l.map zKp.c),iI v83.at_],zz0] ?_ ?_
    ·refine st ?_
     simp
     have r90:=(panR (zAE [41] (zKm.mk o58.2.1 o58.2.2) (.inr v83) q81)).frame [0] [[.sl (o58.2.1.map zKp.c),iI o58.2.2],zz0] (by simp)
     try simp at r90
     refine zAK r90 (by simp) rfl ?_
     simp
    refine zAF<|cutA 57 1 [(2,pT 1),(4,.osl ⟨5,26⟩ (o58.1.map zKr.c)),(51,.bool (eqI o58.1.length 1))] [[.sl (v83.l.map zKp.c),iI v83.at_],zz0]<|spc h rfl (fun g84 h=>?_) fun g84 h=>?_
    ·have c85:=eqT g84
     obtain⟨x86,q87,h⟩:=bs h
     refine cut 57 1 [(2,pT 1)] [[.sl (v83.l.map zKp.c),iI v83.at_],x86.d] (st (by simp[q87]))<|zAA<|zAB ?_
     cases h
     simp
    have c88:=eqF g84
    refine zAC<|zAN<|cutA 57 1 [(2,pT 1)] [[.sl (v83.l.map zKp.c),iI v83.at_],[iI 27,iI 0,.str ([]:List UInt8),.osl ⟨1,9⟩ (([]:List (List UInt8)).map cS),.sl (o58.1.map zKr.c)]]<|zAA ?_
    cases h
    simp
  ·intro w1 r h
   rw[zCB] at h
   refine zBz Tryz.func112 (by rfl) (by rfl) (by simp) (by simp)<|cutA 36 1 [(0,pT 0),(2,pT 1)] [[.sl (w1.l.map zKp.c),iI w1.at_],zz0] ?_
   obtain⟨v2,q3,h⟩:=bs h
   rcases v2 with e4|v5
   ·replace h:=zDB h
    refine zAF<|stP 1 ?_
    simp
    have r57:=(panL (zAR w1 (.inl e4) q3)).frame [0] [[.sl (w1.l.map zKp.c),iI w1.at_],zz0] (by simp)
    try simp at r57
    refine panC r57 (by simp) (by simp)<|zAS ?_
    cases h
    simp
   replace h:=zCP h
   refine cut 36 1 [(0,pT 0),(2,pT 1),(3,pT 2)] [[.sl (v5.2.l.map zKp.c),iI v5.2.at_],zz0,[iI 29,iI 0,.str ([]:List UInt8),.osl ⟨1,9⟩ (([]:List (List UInt8)).map cS),.osl ⟨5,26⟩ ([v5.1].map zKr.c)]] ?_ ?_
   ·refine stG 3 7 1 4 rfl rfl rfl rfl rfl rfl rfl rfl rfl rfl ?_
    simp
    have r58:=(panR (zAR w1 (.inr v5) q3)).frame [0] [[.sl (w1.l.map zKp.c),iI w1.at_],zz0] (by simp)
    try simp at r58
    refine zAK r58 (by simp) rfl ?_
    simp
   obtain⟨v6,q7,h⟩:=bs h
   rcases v6 with e8|v9
   ·replace h:=zDB h
    refine zAF<|stP 1 ?_
    simp
    have r55:=(panL (zAE [111,102] v5.2 (.inl e8) q7)).frame [0] [[.sl (v5.2.l.map zKp.c),iI v5.2.at_],zz0,[iI 29,iI 0,.str ([]:List UInt8),.osl ⟨1,9⟩ (([]:List (List UInt8)).map cS),.osl ⟨5,26⟩ ([v5.1].map zKr.c)]] (by simp)
    try simp at r55
    refine panC r55 (by simp) (by simp)<|zAS ?_
    cases h
    simp
   replace h:=zCP h
   refine cut 36 1 [(0,pT 0),(2,pT 1),(3,pT 2)] [[.sl (v9.l.map zKp.c),iI v9.at_],zz0,[iI 29,iI 0,.str ([]:List UInt8),.osl ⟨1,9⟩ (([]:List (List UInt8)).map cS),.osl ⟨5,26⟩ ([v5.1].map zKr.c)]] ?_ ?_
   ·refine st ?_
    simp
    have r56:=(panR (zAE [111,102] v5.2 (.inr v9) q7)).frame [0] [[.sl (v5.2.l.map zKp.c),iI v5.2.at_],zz0,[iI 29,iI 0,.str ([]:List UInt8),.osl ⟨1,9⟩ (([]:List (List UInt8)).map cS),.osl ⟨5,26⟩ ([v5.1].map zKr.c)]] (by simp)
    try simp at r56
    refine zAK r56 (by simp) rfl ?_
    simp
   refine zAP<|zCd (fun p:Nat×(List zKp)×Int×(List zKr)=>mkS 36 1 [(0,pT 0),(2,pT 1),(3,pT 2)] [[.sl (p.2.1.map zKp.c),iI p.2.2.1],zz0,[iI 29,iI 0,.str ([]:List UInt8),.osl ⟨1,9⟩ (([]:List (List UInt8)).map cS),.osl ⟨5,26⟩ (p.2.2.2.map zKr.c)]]) (fun p=>zBB fuel (zAW fuel) p.1 p.2.1 p.2.2.1 p.2.2.2=some r) (fun p=>p.1) (fuel,v9.l,v9.at_,[v5.1]) h (zBe (by simp)) ?_
   rintro⟨k14,l10,at11,L12⟩ h
   try dsimp only at h ⊢
   cases k14 with
   |zero=>
    rw[zBB] at h;cases h
   |succ k15=>
    rw[zBB] at h
    refine zAP ?_
    obtain⟨v16,q17,h⟩:=bs h
    rcases v16 with e18|v19
    ·replace h:=zDB h
     refine zAF<|stP 1 ?_
     simp
     have r53:=(panL (zCk fuel (zKm.mk l10 at11) (.inl e18) q17)).frame [0] [[.sl (l10.map zKp.c),iI at11],zz0,[iI 29,iI 0,.str ([]:List UInt8),.osl ⟨1,9⟩ (([]:List (List UInt8)).map cS),.osl ⟨5,26⟩ (L12.map zKr.c)]] (by simp)
     try simp at r53
     refine panC r53 (by simp) (by simp)<|zAS<|zA0<|zAS<|zA0 ?_
     cases h
     simp
    replace h:=zCP h
    refine cut 36 1 [(0,pT 0),(2,pT 1),(3,pT 2),(4,pT 3)] [[.sl (v19.2.l.map zKp.c),iI v19.2.at_],zz0,[iI 29,iI 0,.str ([]:List UInt8),.osl ⟨1,9⟩ (([]:List (List UInt8)).map cS),.osl ⟨5,26⟩ (L12.map zKr.c)],[iI 30,iI 0,.str ([]:List UInt8),.osl ⟨1,9⟩ (([]:List (List UInt8)).map cS),.osl ⟨5,26⟩ ([v19.1].map zKr.c)]] ?_ ?_
    ·refine stG 3 13 1 4 rfl rfl rfl rfl rfl rfl rfl rfl rfl rfl ?_
     simp
     have r54:=(panR (zCk fuel (zKm.mk l10 at11) (.inr v19) q17)).frame [0] [[.sl (l10.map zKp.c),iI at11],zz0,[iI 29,iI 0,.str ([]:List UInt8),.osl ⟨1,9⟩ (([]:List (List UInt8)).map cS),.osl ⟨5,26⟩ (L12.map zKr.c)]] (by simp)
     try simp at r54
     refine zAK r54 (by simp) rfl ?_
     simp
    obtain⟨v20,q21,h⟩:=bs h
    rcases v20 with e22|v23
    ·replace h:=zDB h
     refine zAF<|stP 1 ?_
     simp
     have r51:=(panL (zAE [61,62] v19.2 (.inl e22) q21)).frame [0] [[.sl (v19.2.l.map zKp.c),iI v19.2.at_],zz0,[iI 29,iI 0,.str ([]:List UInt8),.osl ⟨1,9⟩ (([]:List (List UInt8)).map cS),.osl ⟨5,26⟩ (L12.map zKr.c)],[iI 30,iI 0,.str ([]:List UInt8),.osl ⟨1,9⟩ (([]:List (List UInt8)).map cS),.osl ⟨5,26⟩ ([v19.1].map zKr.c)]] (by simp)
     try simp at r51
     refine panC r51 (by simp) (by simp)<|zAS<|zA0<|zAS<|zA0 ?_
     cases h
     simp
    replace h:=zCP h
    refine cut 36 1 [(0,pT 0),(2,pT 1),(3,pT 2),(4,pT 3)] [[.sl (v23.l.map zKp.c),iI v23.at_],zz0,[iI 29,iI 0,.str ([]:List UInt8),.osl ⟨1,9⟩ (([]:List (List UInt8)).map cS),.osl ⟨5,26⟩ (L12.map zKr.c)],[iI 30,iI 0,.str ([]:List UInt8),.osl ⟨1,9⟩ (([]:List (List UInt8)).map cS),.osl ⟨5,26⟩ ([v19.1].map zKr.c)]] ?_ ?_
    ·refine st ?_
     simp
     have r52:=(panR (zAE [61,62] v19.2 (.inr v23) q21)).frame [0] [[.sl (v19.2.l.map zKp.c),iI v19.2.at_],zz0,[iI 29,iI 0,.str ([]:List UInt8),.osl ⟨1,9⟩ (([]:List (List UInt8)).map cS),.osl ⟨5,26⟩ (L12.map zKr.c)],[iI 30,iI 0,.str ([]:List UInt8),.osl ⟨1,9⟩ (([]:List (List UInt8)).map cS),.osl ⟨5,26⟩ ([v19.1].map zKr.c)]] (by simp)
     try simp at r52
     refine zAK r52 (by simp) rfl ?_
     simp
    obtain⟨v24,q25,h⟩:=bs h
    rcases v24 with e26|v27
    ·replace h:=zDB h
     refine zAF<|zBo [0,996] [5,7] 3 mixed (n:=36) rfl (by decide) (by decide) (by decide) ?_
     simp
     have r49:=(panL (zAR v23 (.inl e26) q25)).frame [0] [[.sl (v23.l.map zKp.c),iI v23.at_],zz0,[iI 29,iI 0,.str ([]:List UInt8),.osl ⟨1,9⟩ (([]:List (List UInt8)).map cS),.osl ⟨5,26⟩ (L12.map zKr.c)],[iI 30,iI 0,.str ([]:List UInt8),.osl ⟨1,9⟩ (([]:List (List UInt8)).map cS),.osl ⟨5,26⟩ ([v19.1].map zKr.c)]] (by simp)
     try simp at r49
     refine panC r49 (by simp) (by simp)<|zAS<|zA0<|zAS<|zA0 ?_
     cases h
     simp
    replace h:=zCP h
    obtain⟨l28,q29,h⟩:=bs h
    obtain⟨q30,q31⟩:=zF7 q29
    try simp at q30
    refine cut 36 1 [(0,pT 0),(2,pT 1),(3,pT 2),(4,pT 3)] [[.sl (v27.2.l.map zKp.c),iI v27.2.at_],zz0,[iI 29,iI 0,.str ([]:List UInt8),.osl ⟨1,9⟩ (([]:List (List UInt8)).map cS),.osl ⟨5,26⟩ (L12.map zKr.c)],[iI 30,iI 0,.str ([]:List UInt8),.osl ⟨1,9⟩ (([]:List (List UInt8)).map cS),.osl ⟨5,26⟩ (l28.map zKr.c)]] ?_ ?_
    ·refine zBZ [0,996] [5,7] mixed (n:=36) rfl (by decide) (by decide) ?_
     simp[q30,q31]
     have r50:=(panR (zAR v23 (.inr v27) q25)).frameZ [0] [[.sl (v23.l.map zKp.c),iI v23.at_],zz0,[iI 29,iI 0,.str ([]:List UInt8),.osl ⟨1,9⟩ (([]:List (List UInt8)).map cS),.osl ⟨5,26⟩ (L12.map zKr.c)],[iI 30,iI 0,.str ([]:List UInt8),.osl ⟨1,9⟩ (([]:List (List UInt8)).map cS),.osl ⟨5,26⟩ ([v19.1].map zKr.c)]] (by simp) rfl (by simp) (by simp)
     try simp[q30,q31] at r50
     refine zHU r50 (by simp[q30,q31]) rfl (by decide) (by simp) ?_
     simp[q30,q31]
    obtain⟨l32,q33,h⟩:=bs h
    obtain⟨q34,q35⟩:=zF7 q33
    have q36:=q34
    try simp at q36
    try simp[q31] at q34
    refine cut 36 1 [(0,pT 0),(2,pT 1),(3,pT 2)] [[.sl (v27.2.l.map zKp.c),iI v27.2.at_],zz0,[iI 29,iI 0,.str ([]:List UInt8),.osl ⟨1,9⟩ (([]:List (List UInt8)).map cS),.osl ⟨5,26⟩ (l32.map zKr.c)],[iI 30,iI 0,.str ([]:List UInt8),.osl ⟨1,9⟩ (([]:List (List UInt8)).map cS),.osl ⟨5,26⟩ (l28.map zKr.c)]] (st (by simp[q34,q36,q35])) ?_
    obtain⟨v37,q38,h⟩:=bs h
    refine cut 36 1 [(0,pT 0),(2,pT 1),(3,pT 2),(32,.bool (!v37.1))] [[.sl (v37.2.l.map zKp.c),iI v37.2.at_],zz0,[iI 29,iI 0,.str ([]:List UInt8),.osl ⟨1,9⟩ (([]:List (List UInt8)).map cS),.osl ⟨5,26⟩ (l32.map zKr.c)],[iI 30,iI 0,.str ([]:List UInt8),.osl ⟨1,9⟩ (([]:List (List UInt8)).map cS),.osl ⟨5,26⟩ (l28.map zKr.c)]] ?_ ?_
    ·refine st ?_
     simp
     have r48:=(zAO [124] v27.2 v37 q38).frame [0] [[.sl (v27.2.l.map zKp.c),iI v27.2.at_],zz0,[iI 29,iI 0,.str ([]:List UInt8),.osl ⟨1,9⟩ (([]:List (List UInt8)).map cS),.osl ⟨5,26⟩ (l32.map zKr.c)],[iI 30,iI 0,.str ([]:List UInt8),.osl ⟨1,9⟩ (([]:List (List UInt8)).map cS),.osl ⟨5,26⟩ (l28.map zKr.c)]] (by simp)
     try simp at r48
     refine zAK r48 (by simp) rfl ?_
     simp
    refine spc h rfl (fun g39 h=>?_) fun g39 h=>?_
    ·have g40:=notT g39
     obtain⟨v41,q42,h⟩:=bs h
     rcases v41 with e43|v44
     ·replace h:=zDB h
      refine zAF<|stP 1 ?_
      simp
      have r45:=(panL (zAE [101,110,100] v37.2 (.inl e43) q42)).frame [0] [[.sl (v37.2.l.map zKp.c),iI v37.2.at_],zz0,[iI 29,iI 0,.str ([]:List UInt8),.osl ⟨1,9⟩ (([]:List (List UInt8)).map cS),.osl ⟨5,26⟩ (l32.map zKr.c)],[iI 30,iI 0,.str ([]:List UInt8),.osl ⟨1,9⟩ (([]:List (List UInt8)).map cS),.osl ⟨5,26⟩ (l28.map zKr.c)]] (by simp)
      try simp at r45
      refine panC r45 (by simp) (by simp)<|zAS<|zA0<|zAS<|zA0 ?_
      cases h
      simp
     replace h:=zCP h
     refine cut 36 1 [(2,pT 1),(3,pT 2)] [[.sl (v44.l.map zKp.c),iI v44.at_],zz0,[iI 29,iI 0,.str ([]:List UInt8),.osl ⟨1,9⟩ (([]:List (List UInt8)).map cS),.osl ⟨5,26⟩ (l32.map zKr.c)],[iI 30,iI 0,.str ([]:List UInt8),.osl ⟨1,9⟩ (([]:List (List UInt8)).map cS),.osl ⟨5,26⟩ (l28.map zKr.c)]] ?_ ?_
     ·refine st ?_
      simp
      have r46:=(panR (zAE [101,110,100] v37.2 (.inr v44) q42)).frame [0] [[.sl (v37.2.l.map zKp.c),iI v37.2.at_],zz0,[iI 29,iI 0,.str ([]:List UInt8),.osl ⟨1,9⟩ (([]:List (List UInt8)).map cS),.osl ⟨5,26⟩ (l32.map zKr.c)],[iI 30,iI 0,.str ([]:List UInt8),.osl ⟨1,9⟩ (([]:List (List UInt8)).map cS),.osl ⟨5,26⟩ (l28.map zKr.c)]] (by simp)
      try simp at r46
      refine zAK r46 (by simp) rfl ?_
      simp
     refine cutA 36 1 [(2,pT 1)] [[.sl (v44.l.map zKp.c),iI v44.at_],[iI 29,iI 0,.str ([]:List UInt8),.sl (([]:List (List UInt8)).map cS),.sl (l32.map zKr.c)],[iI 29,iI 0,.str ([]:List UInt8),.osl ⟨1,9⟩ (([]:List (List UInt8)).map cS),.osl ⟨5,26⟩ (l32.map zKr.c)],[iI 30,iI 0,.str ([]:List UInt8),.osl ⟨1,9⟩ (([]:List (List UInt8)).map cS),.osl ⟨5,26⟩ (l28.map zKr.c)]]<|zAA<|zAD<|zAB<|zAD ?_
     cases h
     simp
    have g47:=notF g39
    refine zAC<|zDb ?_
    exact⟨(k15,v37.2.l,v37.2.at_,l32),zBe (by simp),h,by simp⟩
  ·intro w1 r h
   rw[zBW] at h
   refine zBz Tryz.func132 (by rfl) (by rfl) (by simp) (by simp)<|cutA 20 1 [(0,pT 0),(2,pT 1)] [[.sl (w1.l.map zKp.c),iI w1.at_],zz0]<|zAF ?_
   obtain⟨v2,q3,h⟩:=bs h
   refine cut 20 1 [(0,pT 0),(2,pT 1),(5,.bool v2.1)] [[.sl (v2.2.l.map zKp.c),iI v2.2.at_],zz0] ?_ ?_
   ·refine st ?_
    simp
    have r47:=(zAO [126] w1 v2 q3).frame [0] [[.sl (w1.l.map zKp.c),iI w1.at_],zz0] (by simp)
    try simp at r47
    refine zAK r47 (by simp) rfl ?_
    simp
   refine spc h rfl (fun g4 h=>?_) fun g4 h=>?_
   ·obtain⟨v5,q6,h⟩:=bs h
    rcases v5 with e7|v8
    ·replace h:=zDB h
     refine zAF<|stP 1 ?_
     simp
     have r9:=(panL (zCb v2.2 (.inl e7) q6)).frame [0] [[.sl (v2.2.l.map zKp.c),iI v2.2.at_],zz0] (by simp)
     try simp at r9
     refine panC r9 (by simp) (by simp)<|zAS<|zAS ?_
     cases h
     simp
    replace h:=zCP h
    refine cut 20 1 [(2,pT 1)] [[.sl (v8.2.l.map zKp.c),iI v8.2.at_],[iI 32,iI 12,.str ([]:List UInt8),.osl ⟨1,9⟩ (([]:List (List UInt8)).map cS),.sl ([v8.1].map zKr.c)]] ?_ ?_
    ·refine st ?_
     simp
     have r10:=(panR (zCb v2.2 (.inr v8) q6)).frame [0] [[.sl (v2.2.l.map zKp.c),iI v2.2.at_],zz0] (by simp)
     try simp at r10
     refine zAK r10 (by simp) rfl ?_
     simp
    refine zAA<|zAB ?_
    cases h
    simp
   refine zAC<|zAN ?_
   obtain⟨v11,q12,h⟩:=bs h
   rcases v11 with e13|v14
   ·replace h:=zDB h
    refine zAF<|stP 1 ?_
    simp
    have r45:=(panL (zCI v2.2 (.inl e13) q12)).frame [0] [[.sl (v2.2.l.map zKp.c),iI v2.2.at_],zz0] (by simp)
    try simp at r45
    refine panC r45 (by simp) (by simp)<|zAS ?_
    cases h
    simp
   replace h:=zCP h
   refine cut 20 1 [(0,pT 0),(2,pT 1),(3,pT 2)] [[.sl (v14.2.l.map zKp.c),iI v14.2.at_],zz0,(zKr.d v14.1)] ?_ ?_
   ·refine st ?_
    simp
    have r46:=(panR (zCI v2.2 (.inr v14) q12)).frame [0] [[.sl (v2.2.l.map zKp.c),iI v2.2.at_],zz0] (by simp)
    try simp at r46
    refine zAK r46 (by simp) rfl ?_
    simp
   refine zAF<|zAP ?_
   obtain⟨o23,l24,h⟩:=bs h
   refine zCd (fun p:Nat×(List zKp)×Int×Int×Int×(List UInt8)×(List (List UInt8))×(List zKr)=>mkS 20 1 [(0,pT 0),(2,pT 1),(3,pT 2)] [[.sl (p.2.1.map zKp.c),iI p.2.2.1],zz0,[iI p.2.2.2.1,iI p.2.2.2.2.1,.str p.2.2.2.2.2.1,.sl (p.2.2.2.2.2.2.1.map cS),.sl (p.2.2.2.2.2.2.2.map zKr.c)]]) (fun p=>zAz (zA1 fuel) p.1 p.2.1 p.2.2.1 p.2.2.2.1 p.2.2.2.2.1 p.2.2.2.2.2.1 p.2.2.2.2.2.2.1 p.2.2.2.2.2.2.2=some o23) (fun p=>p.1) (fuel,v14.2.l,v14.2.at_,v14.1.Op,v14.1.N,v14.1.S,v14.1.Names,v14.1.L) l24 (zBe (by simp)) ?_
   rintro⟨k25,l15,at16,Op17,N18,S19,Names20,L21⟩ l24
   try dsimp only at l24 ⊢
   cases k25 with
   |zero=>
    rw[zAz] at l24;cases l24
   |succ k26=>
    rw[zAz] at l24
    refine zAF ?_
    obtain⟨v27,q28,l24⟩:=bs l24
    refine cut 20 1 [(0,pT 0),(2,pT 1),(3,pT 2),(13,.bool v27)] [[.sl (l15.map zKp.c),iI at16],zz0,[iI Op17,iI N18,.str S19,.sl (Names20.map cS),.sl (L21.map zKr.c)]] ?_ ?_
    ·refine st ?_
     simp
     have r44:=(zFi (zKm.mk l15 at16) v27 q28).frame [0] [[.sl (l15.map zKp.c),iI at16],zz0,[iI Op17,iI N18,.str S19,.sl (Names20.map cS),.sl (L21.map zKr.c)]] (by simp)
     try simp at r44
     refine zAK r44 (by simp) rfl ?_
     simp
    refine spc l24 rfl (fun g29 l24=>?_) fun g29 l24=>?_
    ·refine zAC<|zAN<|zAP ?_
     obtain⟨v30,q31,l24⟩:=bs l24
     rcases v30 with e32|v33
     ·replace l24:=zDB l24
      refine zBo [0,996] [5] 2 mixed (n:=20) rfl (by decide) (by decide) (by decide) ?_
      simp
      have r34:=(panL (zCI (zKm.mk l15 at16) (.inl e32) q31)).frame [0] [[.sl (l15.map zKp.c),iI at16],zz0,[iI Op17,iI N18,.str S19,.sl (Names20.map cS),.sl (L21.map zKr.c)]] (by simp)
      try simp at r34
      refine panC r34 (by simp) (by simp)<|zA0 ?_
      replace h:=retL l24 h
      refine zAS<|zA0<|zAS ?_
      cases h
      simp
     replace l24:=zCP l24
     refine last 20 1 [(0,pT 0),(2,pT 1),(3,pT 2)] [[.sl (v33.2.l.map zKp.c),iI v33.2.at_],zz0,[iI 26,iI 0,.str ([]:List UInt8),.sl (([]:List (List UInt8)).map cS),.sl ([(zKr.mk Op17 N18 S19 Names20 L21),v33.1].map zKr.c)]] ?_ fun zz hs=>?_
     ·refine zBZ [0,996] [5] mixed (n:=20) rfl (by decide) (by decide) ?_
      simp
      have r35:=(panR (zCI (zKm.mk l15 at16) (.inr v33) q31)).frameZ [0] [[.sl (l15.map zKp.c),iI at16],zz0,[iI Op17,iI N18,.str S19,.sl (Names20.map cS),.sl (L21.map zKr.c)]] (by simp) rfl (by simp) (by simp)
      try simp at r35
      refine zHU r35 (by simp) rfl (by decide) (by simp) ?_
      simp
     refine zDb ?_
     exact⟨(k26,v33.2.l,v33.2.at_,26,0,([]:List UInt8),([]:List (List UInt8)),[(zKr.mk Op17 N18 S19 Names20 L21),v33.1]),hs,l24,by simp⟩
    refine zBv<|zAm ?_
    rcases o23 with o23|o22
    ·cases l24
    have q36:=Sum.inr.inj (zqa l24)
    replace h:=zCP h
    have q37:o22.1=l15:=by rw[<-q36]
    have q38:o22.2.1=at16:=by rw[<-q36]
    have q39:o22.2.2.1=Op17:=by rw[<-q36]
    have q40:o22.2.2.2.1=N18:=by rw[<-q36]
    have q41:o22.2.2.2.2.1=S19:=by rw[<-q36]
    have q42:o22.2.2.2.2.2.1=Names20:=by rw[<-q36]
    have q43:o22.2.2.2.2.2.2=L21:=by rw[<-q36]
    refine zAm<|zBu<|zDI (t:=mkS 20 1 [(2,pT 1),(3,pT 2)] [[.sl (o22.1.map zKp.c),iI o22.2.1],zz0,[iI o22.2.2.1,iI o22.2.2.2.1,.str o22.2.2.2.2.1,.sl (o22.2.2.2.2.2.1.map cS),.sl (o22.2.2.2.2.2.2.map zKr.c)]]) ?_ (zBe (by simp[q37,q38,q39,q40,q41,q42,q43]))
    refine cutA 20 1 [(2,pT 1)] [[.sl (o22.1.map zKp.c),iI o22.2.1],[iI o22.2.2.1,iI o22.2.2.2.1,.str o22.2.2.2.2.1,.sl (o22.2.2.2.2.2.1.map cS),.sl (o22.2.2.2.2.2.2.map zKr.c)],[iI o22.2.2.1,iI o22.2.2.2.1,.str o22.2.2.2.2.1,.sl (o22.2.2.2.2.2.1.map cS),.sl (o22.2.2.2.2.2.2.map zKr.c)]]<|zAA ?_
    cases h
    simp
  ·intro n1 w2 r h
   rw[zBK] at h
   refine zBz Tryz.func115 (by rfl) (by rfl) (by simp) (by simp)<|cutA 58 1 [(0,pT 0),(1,iI n1),(4,pT 1)] [[.sl (w2.l.map zKp.c),iI w2.at_],zz0]<|zAF<|cutA 58 1 [(0,pT 0),(1,iI n1),(4,pT 1),(8,.bool (eqI n1 7))] [[.sl (w2.l.map zKp.c),iI w2.at_],zz0]<|spc h rfl (fun g3 h=>?_) fun g3 h=>?_
   ·obtain⟨v5,q6,h⟩:=bs h
    rcases v5 with e7|v8
    ·replace h:=zDB h
     refine zAF<|stP 1 ?_
     simp
     have r9:=(panL (zCb w2 (.inl e7) q6)).frame [0] [[.sl (w2.l.map zKp.c),iI w2.at_],zz0] (by simp)
     try simp at r9
     refine panC r9 (by simp) (by simp)<|zAS<|zAS ?_
     cases h
     simp
    replace h:=zCP h
    refine cut 58 1 [(4,pT 1)] [[.sl (v8.2.l.map zKp.c),iI v8.2.at_],(zKr.d v8.1)] ?_ ?_
    ·refine st ?_
     simp
     have r10:=(panR (zCb w2 (.inr v8) q6)).frame [0] [[.sl (w2.l.map zKp.c),iI w2.at_],zz0] (by simp)
     try simp at r10
     refine zAK r10 (by simp) rfl ?_
     simp
    refine zAA<|zAB ?_
    cases h
    simp
   refine zAC<|zAN ?_
   obtain⟨n12,q13,h⟩:=bs h
   obtain⟨q14,q15⟩:=zEi q13
   try simp at q14
   try simp at q15
   have c16:=q14;simp only[Rng,inR] at c16
   obtain⟨v17,q18,h⟩:=bs h
   rcases v17 with e19|v20
   ·replace h:=zDB h
    refine zAF<|stP 3 ?_
    simp[q14,q15]
    have r86:=(panL (zAk n12 w2 (.inl e19) q18)).frame [0] [[.sl (w2.l.map zKp.c),iI w2.at_],zz0] (by simp)
    try simp[q14,q15] at r86
    refine panC r86 (by simp[q14,q15]) (by simp)<|zAS ?_
    cases h
    simp
   replace h:=zCP h
   refine cut 58 1 [(0,pT 0),(1,iI n1),(4,pT 1),(5,pT 2)] [[.sl (v20.2.l.map zKp.c),iI v20.2.at_],zz0,(zKr.d v20.1)] ?_ ?_
   ·refine st ?_
    simp[q14,q15]
    have r87:=(panR (zAk n12 w2 (.inr v20) q18)).frame [0] [[.sl (w2.l.map zKp.c),iI w2.at_],zz0] (by simp)
    try simp[q14,q15] at r87
    refine zAK r87 (by simp[q14,q15]) rfl ?_
    simp[q14,q15]
   refine zAP<|zCd (fun p:Nat×(List zKp)×Int×Int×Int×(List UInt8)×(List (List UInt8))×(List zKr)=>mkS 58 1 [(0,pT 0),(1,iI n1),(4,pT 1),(5,pT 2)] [[.sl (p.2.1.map zKp.c),iI p.2.2.1],zz0,[iI p.2.2.2.1,iI p.2.2.2.2.1,.str p.2.2.2.2.2.1,.sl (p.2.2.2.2.2.2.1.map cS),.sl (p.2.2.2.2.2.2.2.map zKr.c)]]) (fun p=>zBG (zBK fuel) n1 n12 p.1 p.2.1 p.2.2.1 p.2.2.2.1 p.2.2.2.2.1 p.2.2.2.2.2.1 p.2.2.2.2.2.2.1 p.2.2.2.2.2.2.2=some r) (fun p=>p.1) (fuel,v20.2.l,v20.2.at_,v20.1.Op,v20.1.N,v20.1.S,v20.1.Names,v20.1.L) h (zBe (by simp)) ?_
   rintro⟨k29,l21,at22,Op23,N24,S25,Names26,L27⟩ h
   try dsimp only at h ⊢
   cases k29 with
   |zero=>
    rw[zBG] at h;cases h
   |succ k30=>
    rw[zBG] at h
    refine zAP ?_
    obtain⟨v31,q32,h⟩:=bs h
    refine cut 58 1 [(0,pT 0),(1,iI n1),(4,pT 1),(5,pT 2),(6,iI v31)] [[.sl (l21.map zKp.c),iI at22],zz0,[iI Op23,iI N24,.str S25,.sl (Names26.map cS),.sl (L27.map zKr.c)]] ?_ ?_
    ·refine st ?_
     simp
     have r85:=(zFS n1 (zKm.mk l21 at22) v31 q32).frame [0] [[.sl (l21.map zKp.c),iI at22],zz0,[iI Op23,iI N24,.str S25,.sl (Names26.map cS),.sl (L27.map zKr.c)]] (by simp)
     try simp at r85
     refine zAK r85 (by simp) rfl ?_
     simp
    refine zAF<|cutA 58 1 [(0,pT 0),(1,iI n1),(4,pT 1),(5,pT 2),(6,iI v31),(19,.bool (eqI v31 0))] [[.sl (l21.map zKp.c),iI at22],zz0,[iI Op23,iI N24,.str S25,.sl (Names26.map cS),.sl (L27.map zKr.c)]]<|spc h rfl (fun g33 h=>?_) fun g33 h=>?_
    ·have c34:=eqT g33
     refine cutA 58 1 [(4,pT 1)] [[.sl (l21.map zKp.c),iI at22],[iI Op23,iI N24,.str S25,.sl (Names26.map cS),.sl (L27.map zKr.c)],[iI Op23,iI N24,.str S25,.sl (Names26.map cS),.sl (L27.map zKr.c)]]<|zAA<|zAB<|zAD<|zAB<|zAD ?_
     cases h
     simp
    have c35:=eqF g33
    refine zAC<|zAN ?_
    obtain⟨n36,q37,h⟩:=bs h
    obtain⟨q38,q39⟩:=zEi q37
    try simp at q38
    try simp at q39
    have c40:=q38;simp only[Rng,inR] at c40
    refine cut 58 1 [(0,pT 0),(1,iI n1),(4,pT 1),(5,pT 2),(6,iI v31)] [[.sl (l21.map zKp.c),iI n36],zz0,[iI Op23,iI N24,.str S25,.sl (Names26.map cS),.sl (L27.map zKr.c)]] (st (by simp[q38,q39]))<|zAF<|cutA 58 1 [(0,pT 0),(1,iI n1),(4,pT 1),(5,pT 2),(6,iI v31),(28,iI n1)] [[.sl (l21.map zKp.c),iI n36],zz0,[iI Op23,iI N24,.str S25,.sl (Names26.map cS),.sl (L27.map zKr.c)]]<|zAP<|zAF<|cutA 58 1 [(0,pT 0),(1,iI n1),(4,pT 1),(5,pT 2),(6,iI v31),(28,iI n1),(29,.bool (eqI n1 1))] [[.sl (l21.map zKp.c),iI n36],zz0,[iI Op23,iI N24,.str S25,.sl (Names26.map cS),.sl (L27.map zKr.c)]]<|spc h rfl (fun g41 h=>?_) fun g41 h=>?_
    ·refine zAC<|zAN<|zBn rfl (by simp[g41]) ?_
     obtain⟨v43,q44,h⟩:=bs h
     rcases v43 with e45|v46
     ·replace h:=zDB h
      refine zAF<|zBo [0,996] [7] 4 mixed (n:=58) rfl (by decide) (by decide) (by decide) ?_
      simp
      have r47:=(panL (zAk n1 (zKm.mk l21 n36) (.inl e45) q44)).frame [0] [[.sl (l21.map zKp.c),iI n36],zz0,[iI Op23,iI N24,.str S25,.sl (Names26.map cS),.sl (L27.map zKr.c)]] (by simp)
      try simp at r47
      refine panC r47 (by simp) (by simp)<|zAS<|zA0<|zAS<|zA0<|zAS<|zA0 ?_
      cases h
      simp
     replace h:=zCP h
     refine cut 58 1 [(4,pT 1)] [[.sl (v46.2.l.map zKp.c),iI v46.2.at_],[iI 32,iI v31,.str ([]:List UInt8),.osl ⟨1,9⟩ (([]:List (List UInt8)).map cS),.sl ([(zKr.mk Op23 N24 S25 Names26 L27),v46.1].map zKr.c)],[iI Op23,iI N24,.str S25,.sl (Names26.map cS),.sl (L27.map zKr.c)]] ?_ ?_
     ·refine zBZ [0,996] [7] mixed (n:=58) rfl (by decide) (by decide) ?_
      simp
      have r48:=(panR (zAk n1 (zKm.mk l21 n36) (.inr v46) q44)).frameZ [0] [[.sl (l21.map zKp.c),iI n36],zz0,[iI Op23,iI N24,.str S25,.sl (Names26.map cS),.sl (L27.map zKr.c)]] (by simp) rfl (by simp) (by simp)
      try simp at r48
      refine zHU r48 (by simp) rfl (by decide) (by simp) ?_
      simp
     refine zAA<|zAD<|zAB<|zAD<|zAB<|zAD ?_
     cases h
     simp
    refine cutA 58 1 [(0,pT 0),(1,iI n1),(4,pT 1),(5,pT 2),(6,iI v31),(28,iI n1),(29,.bool (eqI n1 2))] [[.sl (l21.map zKp.c),iI n36],zz0,[iI Op23,iI N24,.str S25,.sl (Names26.map cS),.sl (L27.map zKr.c)]]<|spc h rfl (fun g50 h=>?_) fun g50 h=>?_
    ·refine zAC<|zAN<|zBn rfl (by simp[g50]) ?_
     obtain⟨v52,q53,h⟩:=bs h
     rcases v52 with e54|v55
     ·replace h:=zDB h
      refine zAF<|zBo [0,996] [7] 4 mixed (n:=58) rfl (by decide) (by decide) (by decide) ?_
      simp
      have r56:=(panL (zAk n1 (zKm.mk l21 n36) (.inl e54) q53)).frame [0] [[.sl (l21.map zKp.c),iI n36],zz0,[iI Op23,iI N24,.str S25,.sl (Names26.map cS),.sl (L27.map zKr.c)]] (by simp)
      try simp at r56
      refine panC r56 (by simp) (by simp)<|zAS<|zA0<|zAS<|zA0<|zAS<|zA0 ?_
      cases h
      simp
     replace h:=zCP h
     refine cut 58 1 [(4,pT 1)] [[.sl (v55.2.l.map zKp.c),iI v55.2.at_],[iI 32,iI v31,.str ([]:List UInt8),.osl ⟨1,9⟩ (([]:List (List UInt8)).map cS),.sl ([(zKr.mk Op23 N24 S25 Names26 L27),v55.1].map zKr.c)],[iI Op23,iI N24,.str S25,.sl (Names26.map cS),.sl (L27.map zKr.c)]] ?_ ?_
     ·refine zBZ [0,996] [7] mixed (n:=58) rfl (by decide) (by decide) ?_
      simp
      have r57:=(panR (zAk n1 (zKm.mk l21 n36) (.inr v55) q53)).frameZ [0] [[.sl (l21.map zKp.c),iI n36],zz0,[iI Op23,iI N24,.str S25,.sl (Names26.map cS),.sl (L27.map zKr.c)]] (by simp) rfl (by simp) (by simp)
      try simp at r57
      refine zHU r57 (by simp) rfl (by decide) (by simp) ?_
      simp
     refine zAA<|zAD<|zAB<|zAD<|zAB<|zAD ?_
     cases h
     simp
    refine zHZ 58 1 [(0,pT 0),(1,iI n1),(4,pT 1),(5,pT 2),(6,iI v31),(28,iI n1),(29,.bool (eqI n1 4))] [[.sl (l21.map zKp.c),iI n36],zz0,[iI Op23,iI N24,.str S25,.sl (Names26.map cS),.sl (L27.map zKr.c)]]<|spc h rfl (fun g59 h=>?_) fun g59 h=>?_
    ·have c60:=eqT g59
     obtain⟨v61,q62,h⟩:=bs h
     rcases v61 with e63|v64
     ·replace h:=zDB h
      refine zAF<|zBo [0,996] [7] 4 mixed (n:=58) rfl (by decide) (by decide) (by decide) ?_
      simp
      have r65:=(panL (zAk n1 (zKm.mk l21 n36) (.inl e63) q62)).frame [0] [[.sl (l21.map zKp.c),iI n36],zz0,[iI Op23,iI N24,.str S25,.sl (Names26.map cS),.sl (L27.map zKr.c)]] (by simp)
      try simp at r65
      refine panC r65 (by simp) (by simp)<|zAS<|zA0<|zAS<|zA0<|zAS<|zA0 ?_
      cases h
      simp
     replace h:=zCP h
     refine cut 58 1 [(4,pT 1)] [[.sl (v64.2.l.map zKp.c),iI v64.2.at_],[iI 32,iI v31,.str ([]:List UInt8),.osl ⟨1,9⟩ (([]:List (List UInt8)).map cS),.sl ([(zKr.mk Op23 N24 S25 Names26 L27),v64.1].map zKr.c)],[iI Op23,iI N24,.str S25,.sl (Names26.map cS),.sl (L27.map zKr.c)]] ?_ ?_
     ·refine zBZ [0,996] [7] mixed (n:=58) rfl (by decide) (by decide) ?_
      simp
      have r66:=(panR (zAk n1 (zKm.mk l21 n36) (.inr v64) q62)).frameZ [0] [[.sl (l21.map zKp.c),iI n36],zz0,[iI Op23,iI N24,.str S25,.sl (Names26.map cS),.sl (L27.map zKr.c)]] (by simp) rfl (by simp) (by simp)
      try simp at r66
      refine zHU r66 (by simp) rfl (by decide) (by simp) ?_
      simp
     refine zAA<|zAD<|zAB<|zAD<|zAB<|zAD ?_
     cases h
     simp
    have c67:=eqF g59
    refine cutA 58 1 [(0,pT 0),(1,iI n1),(4,pT 1),(5,pT 2),(6,iI v31),(40,.bool (eqI n1 3))] [[.sl (l21.map zKp.c),iI n36],zz0,[iI Op23,iI N24,.str S25,.sl (Names26.map cS),.sl (L27.map zKr.c)]]<|spc h rfl (fun g68 h=>?_) fun g68 h=>?_
    ·have q70:Rng .i64 (n1+1):=by simp only[Rng,inR];omega
     try simp at q70
     obtain⟨v71,q72,h⟩:=bs h
     rcases v71 with e73|v74
     ·replace h:=zDB h
      refine zAF<|zBo [0,996] [8] 5 mixed (n:=58) rfl (by decide) (by decide) (by decide) ?_
      simp[q70]
      have r75:=(panL (zAk (n1+1) (zKm.mk l21 n36) (.inl e73) q72)).frame [0] [[.sl (l21.map zKp.c),iI n36],zz0,[iI Op23,iI N24,.str S25,.sl (Names26.map cS),.sl (L27.map zKr.c)]] (by simp)
      try simp[q70] at r75
      refine panC r75 (by simp[q70]) (by simp)<|zAS<|zA0<|zAS<|zA0<|zAS<|zA0 ?_
      cases h
      simp
     replace h:=zCP h
     refine cut 58 1 [(4,pT 1)] [[.sl (v74.2.l.map zKp.c),iI v74.2.at_],[iI 32,iI v31,.str ([]:List UInt8),.osl ⟨1,9⟩ (([]:List (List UInt8)).map cS),.sl ([(zKr.mk Op23 N24 S25 Names26 L27),v74.1].map zKr.c)],[iI Op23,iI N24,.str S25,.sl (Names26.map cS),.sl (L27.map zKr.c)]] ?_ ?_
     ·refine zBZ [0,996] [8] mixed (n:=58) rfl (by decide) (by decide) ?_
      simp[q70]
      have r76:=(panR (zAk (n1+1) (zKm.mk l21 n36) (.inr v74) q72)).frameZ [0] [[.sl (l21.map zKp.c),iI n36],zz0,[iI Op23,iI N24,.str S25,.sl (Names26.map cS),.sl (L27.map zKr.c)]] (by simp) rfl (by simp) (by simp)
      try simp[q70] at r76
      refine zHU r76 (by simp[q70]) rfl (by decide) (by simp) ?_
      simp[q70]
     refine zAA<|zAD<|zAB<|zAD<|zAB<|zAD ?_
     cases h
     simp
    refine zAC<|zDb<|zAN ?_
    have c78:=q14;simp only[Rng,inR] at c78
    obtain⟨v79,q80,h⟩:=bs h
    rcases v79 with e81|v82
    ·replace h:=zDB h
     refine zBo [0,996] [8] 5 mixed (n:=58) rfl (by decide) (by decide) (by decide) ?_
     simp[q14,q15]
     have r83:=(panL (zAk n12 (zKm.mk l21 n36) (.inl e81) q80)).frame [0] [[.sl (l21.map zKp.c),iI n36],zz0,[iI Op23,iI N24,.str S25,.sl (Names26.map cS),.sl (L27.map zKr.c)]] (by simp)
     try simp[q14,q15] at r83
     refine panC r83 (by simp[q14,q15]) (by simp)<|zA0<|zAS<|zA0 ?_
     cases h
     simp
    replace h:=zCP h
    refine last 58 1 [(0,pT 0),(1,iI n1),(4,pT 1),(5,pT 2)] [[.sl (v82.2.l.map zKp.c),iI v82.2.at_],zz0,[iI 32,iI v31,.str ([]:List UInt8),.sl (([]:List (List UInt8)).map cS),.sl ([(zKr.mk Op23 N24 S25 Names26 L27),v82.1].map zKr.c)]] ?_ fun zz hs=>?_
    ·refine zBZ [0,996] [8] mixed (n:=58) rfl (by decide) (by decide) ?_
     simp[q14,q15]
     have r84:=(panR (zAk n12 (zKm.mk l21 n36) (.inr v82) q80)).frameZ [0] [[.sl (l21.map zKp.c),iI n36],zz0,[iI Op23,iI N24,.str S25,.sl (Names26.map cS),.sl (L27.map zKr.c)]] (by simp) rfl (by simp) (by simp)
     try simp[q14,q15] at r84
     refine zHU r84 (by simp[q14,q15]) rfl (by decide) (by simp) ?_
     simp[q14,q15]
    refine zDb ?_
    exact⟨(k30,v82.2.l,v82.2.at_,32,v31,([]:List UInt8),([]:List (List UInt8)),[(zKr.mk Op23 N24 S25 Names26 L27),v82.1]),hs,h,by simp⟩
  ·intro w1 r h
   rw[zAW] at h
   refine zBz Tryz.func76 (by rfl) (by rfl) (by simp) (by simp)<|cutA 50 1 [(0,pT 0),(2,pT 1)] [[.sl (w1.l.map zKp.c),iI w1.at_],zz0]<|zAF<|zAP ?_
   obtain⟨v2,q3,h⟩:=bs h
   refine cut 50 1 [(0,pT 0),(2,pT 1),(5,.bool v2.1)] [[.sl (v2.2.l.map zKp.c),iI v2.2.at_],zz0] ?_ ?_
   ·refine st ?_
    simp
    have r90:=(zAO [102,110] w1 v2 q3).frame [0] [[.sl (w1.l.map zKp.c),iI w1.at_],zz0] (by simp)
    try simp at r90
    refine zAK r90 (by simp) rfl ?_
    simp
   refine spc h rfl (fun g4 h=>?_) fun g4 h=>?_
   ·refine cutA 50 1 [(0,pT 0),(2,pT 1),(3,pT 2)] [[.sl (v2.2.l.map zKp.c),iI v2.2.at_],zz0,[iI 25,iI 0,.str ([]:List UInt8),.osl ⟨1,9⟩ (([]:List (List UInt8)).map cS),.osl ⟨5,26⟩ (([]:List zKr).map zKr.c)]]<|zAF ?_
    obtain⟨v5,q6,h⟩:=bs h
    refine cut 50 1 [(0,pT 0),(2,pT 1),(3,pT 2),(11,.bool (!v5.1))] [[.sl (v5.2.l.map zKp.c),iI v5.2.at_],zz0,[iI 25,iI 0,.str ([]:List UInt8),.osl ⟨1,9⟩ (([]:List (List UInt8)).map cS),.osl ⟨5,26⟩ (([]:List zKr).map zKr.c)]] ?_ ?_
    ·refine st ?_
     simp
     have r40:=(zAO [95] v2.2 v5 q6).frame [0] [[.sl (v2.2.l.map zKp.c),iI v2.2.at_],zz0,[iI 25,iI 0,.str ([]:List UInt8),.osl ⟨1,9⟩ (([]:List (List UInt8)).map cS),.osl ⟨5,26⟩ (([]:List zKr).map zKr.c)]] (by simp)
     try simp at r40
     refine zAK r40 (by simp) rfl ?_
     simp
    refine spc h rfl (fun g7 h=>?_) fun g7 h=>?_
    ·have g8:=notT g7
     obtain⟨v9,q10,h⟩:=bs h
     rcases v9 with e11|v12
     ·replace h:=zDB h
      refine stP 1 ?_
      simp
      have r25:=(panL (zAJ 1 v5.2 (.inl e11) q10)).frame [0] [[.sl (v5.2.l.map zKp.c),iI v5.2.at_],zz0,[iI 25,iI 0,.str ([]:List UInt8),.osl ⟨1,9⟩ (([]:List (List UInt8)).map cS),.osl ⟨5,26⟩ (([]:List zKr).map zKr.c)]] (by simp)
      try simp at r25
      refine panC r25 (by simp) (by simp)<|zAS<|zA0<|zAS ?_
      cases h
      simp
     replace h:=zCP h
     refine last 50 1 [(0,pT 0),(2,pT 1),(3,pT 2)] [[.sl (v12.2.l.map zKp.c),iI v12.2.at_],zz0,[iI 25,iI 0,.str v12.1,.osl ⟨1,9⟩ (([]:List (List UInt8)).map cS),.osl ⟨5,26⟩ (([]:List zKr).map zKr.c)]] ?_ fun zz hs=>?_
     ·refine st ?_
      simp
      have r26:=(panR (zAJ 1 v5.2 (.inr v12) q10)).frame [0] [[.sl (v5.2.l.map zKp.c),iI v5.2.at_],zz0,[iI 25,iI 0,.str ([]:List UInt8),.osl ⟨1,9⟩ (([]:List (List UInt8)).map cS),.osl ⟨5,26⟩ (([]:List zKr).map zKr.c)]] (by simp)
      try simp at r26
      refine zAK r26 (by simp) rfl ?_
      simp
     refine zDI ?_ hs
     obtain⟨v13,q14,h⟩:=bs h
     rcases v13 with e15|v16
     ·replace h:=zDB h
      refine zAF<|stP 1 ?_
      simp
      have r23:=(panL (zAE [61,62] v12.2 (.inl e15) q14)).frame [0] [[.sl (v12.2.l.map zKp.c),iI v12.2.at_],zz0,[iI 25,iI 0,.str v12.1,.osl ⟨1,9⟩ (([]:List (List UInt8)).map cS),.osl ⟨5,26⟩ (([]:List zKr).map zKr.c)]] (by simp)
      try simp at r23
      refine panC r23 (by simp) (by simp)<|zAS<|zA0<|zAS ?_
      cases h
      simp
     replace h:=zCP h
     refine cut 50 1 [(0,pT 0),(2,pT 1),(3,pT 2)] [[.sl (v16.l.map zKp.c),iI v16.at_],zz0,[iI 25,iI 0,.str v12.1,.osl ⟨1,9⟩ (([]:List (List UInt8)).map cS),.osl ⟨5,26⟩ (([]:List zKr).map zKr.c)]] ?_ ?_
     ·refine st ?_
      simp
      have r24:=(panR (zAE [61,62] v12.2 (.inr v16) q14)).frame [0] [[.sl (v12.2.l.map zKp.c),iI v12.2.at_],zz0,[iI 25,iI 0,.str v12.1,.osl ⟨1,9⟩ (([]:List (List UInt8)).map cS),.osl ⟨5,26⟩ (([]:List zKr).map zKr.c)]] (by simp)
      try simp at r24
      refine zAK r24 (by simp) rfl ?_
      simp
     obtain⟨v17,q18,h⟩:=bs h
     rcases v17 with e19|v20
     ·replace h:=zDB h
      refine zAF<|stP 1 ?_
      simp
      have r21:=(panL (zAR v16 (.inl e19) q18)).frame [0] [[.sl (v16.l.map zKp.c),iI v16.at_],zz0,[iI 25,iI 0,.str v12.1,.osl ⟨1,9⟩ (([]:List (List UInt8)).map cS),.osl ⟨5,26⟩ (([]:List zKr).map zKr.c)]] (by simp)
      try simp at r21
      refine panC r21 (by simp) (by simp)<|zAS<|zA0<|zAS ?_
      cases h
      simp
     replace h:=zCP h
     refine cut 50 1 [(2,pT 1),(3,pT 2)] [[.sl (v20.2.l.map zKp.c),iI v20.2.at_],zz0,[iI 25,iI 0,.str v12.1,.osl ⟨1,9⟩ (([]:List (List UInt8)).map cS),.osl ⟨5,26⟩ ([v20.1].map zKr.c)]] ?_ ?_
     ·refine st ?_
      simp
      have r22:=(panR (zAR v16 (.inr v20) q18)).frame [0] [[.sl (v16.l.map zKp.c),iI v16.at_],zz0,[iI 25,iI 0,.str v12.1,.osl ⟨1,9⟩ (([]:List (List UInt8)).map cS),.osl ⟨5,26⟩ (([]:List zKr).map zKr.c)]] (by simp)
      try simp at r22
      refine zAK r22 (by simp) rfl ?_
      simp
     refine cutA 50 1 [(2,pT 1)] [[.sl (v20.2.l.map zKp.c),iI v20.2.at_],[iI 25,iI 0,.str v12.1,.sl (([]:List (List UInt8)).map cS),.sl ([v20.1].map zKr.c)],[iI 25,iI 0,.str v12.1,.osl ⟨1,9⟩ (([]:List (List UInt8)).map cS),.osl ⟨5,26⟩ ([v20.1].map zKr.c)]]<|zAA<|zAD<|zAB ?_
     cases h
     simp
    have g27:=notF g7
    refine zAC<|zAN ?_
    obtain⟨v28,q29,h⟩:=bs h
    rcases v28 with e30|v31
    ·replace h:=zDB h
     refine zAF<|stP 1 ?_
     simp
     have r38:=(panL (zAE [61,62] v5.2 (.inl e30) q29)).frame [0] [[.sl (v5.2.l.map zKp.c),iI v5.2.at_],zz0,[iI 25,iI 0,.str ([]:List UInt8),.osl ⟨1,9⟩ (([]:List (List UInt8)).map cS),.osl ⟨5,26⟩ (([]:List zKr).map zKr.c)]] (by simp)
     try simp at r38
     refine panC r38 (by simp) (by simp)<|zAS<|zA0<|zAS ?_
     cases h
     simp
    replace h:=zCP h
    refine cut 50 1 [(0,pT 0),(2,pT 1),(3,pT 2)] [[.sl (v31.l.map zKp.c),iI v31.at_],zz0,[iI 25,iI 0,.str ([]:List UInt8),.osl ⟨1,9⟩ (([]:List (List UInt8)).map cS),.osl ⟨5,26⟩ (([]:List zKr).map zKr.c)]] ?_ ?_
    ·refine st ?_
     simp
     have r39:=(panR (zAE [61,62] v5.2 (.inr v31) q29)).frame [0] [[.sl (v5.2.l.map zKp.c),iI v5.2.at_],zz0,[iI 25,iI 0,.str ([]:List UInt8),.osl ⟨1,9⟩ (([]:List (List UInt8)).map cS),.osl ⟨5,26⟩ (([]:List zKr).map zKr.c)]] (by simp)
     try simp at r39
     refine zAK r39 (by simp) rfl ?_
     simp
    obtain⟨v32,q33,h⟩:=bs h
    rcases v32 with e34|v35
    ·replace h:=zDB h
     refine zAF<|stP 1 ?_
     simp
     have r36:=(panL (zAR v31 (.inl e34) q33)).frame [0] [[.sl (v31.l.map zKp.c),iI v31.at_],zz0,[iI 25,iI 0,.str ([]:List UInt8),.osl ⟨1,9⟩ (([]:List (List UInt8)).map cS),.osl ⟨5,26⟩ (([]:List zKr).map zKr.c)]] (by simp)
     try simp at r36
     refine panC r36 (by simp) (by simp)<|zAS<|zA0<|zAS ?_
     cases h
     simp
    replace h:=zCP h
    refine cut 50 1 [(2,pT 1),(3,pT 2)] [[.sl (v35.2.l.map zKp.c),iI v35.2.at_],zz0,[iI 25,iI 0,.str ([]:List UInt8),.osl ⟨1,9⟩ (([]:List (List UInt8)).map cS),.osl ⟨5,26⟩ ([v35.1].map zKr.c)]] ?_ ?_
    ·refine st ?_
     simp
     have r37:=(panR (zAR v31 (.inr v35) q33)).frame [0] [[.sl (v31.l.map zKp.c),iI v31.at_],zz0,[iI 25,iI 0,.str ([]:List UInt8),.osl ⟨1,9⟩ (([]:List (List UInt8)).map cS),.osl ⟨5,26⟩ (([]:List zKr).map zKr.c)]] (by simp)
     try simp at r37
     refine zAK r37 (by simp) rfl ?_
     simp
    refine cutA 50 1 [(2,pT 1)] [[.sl (v35.2.l.map zKp.c),iI v35.2.at_],[iI 25,iI 0,.str ([]:List UInt8),.sl (([]:List (List UInt8)).map cS),.sl ([v35.1].map zKr.c)],[iI 25,iI 0,.str ([]:List UInt8),.osl ⟨1,9⟩ (([]:List (List UInt8)).map cS),.osl ⟨5,26⟩ ([v35.1].map zKr.c)]]<|zAA<|zAD<|zAB ?_
    cases h
    simp
   obtain⟨v41,q42,h⟩:=bs h
   refine cut 50 1 [(0,pT 0),(2,pT 1),(22,.bool v41.1)] [[.sl (v41.2.l.map zKp.c),iI v41.2.at_],zz0] ?_ ?_
   ·refine st ?_
    simp
    have r89:=(zAO [105,102] v2.2 v41 q42).frame [0] [[.sl (v2.2.l.map zKp.c),iI v2.2.at_],zz0] (by simp)
    try simp at r89
    refine zAK r89 (by simp) rfl ?_
    simp
   refine spc h rfl (fun g43 h=>?_) fun g43 h=>?_
   ·obtain⟨v44,q45,h⟩:=bs h
    rcases v44 with e46|v47
    ·replace h:=zDB h
     refine zAF<|stP 1 ?_
     simp
     have r81:=(panL (zAR v41.2 (.inl e46) q45)).frame [0] [[.sl (v41.2.l.map zKp.c),iI v41.2.at_],zz0] (by simp)
     try simp at r81
     refine panC r81 (by simp) (by simp)<|zAS<|zA0<|zAS ?_
     cases h
     simp
    replace h:=zCP h
    refine cut 50 1 [(0,pT 0),(2,pT 1),(4,pT 2)] [[.sl (v47.2.l.map zKp.c),iI v47.2.at_],zz0,[iI 28,iI 0,.str ([]:List UInt8),.osl ⟨1,9⟩ (([]:List (List UInt8)).map cS),.osl ⟨5,26⟩ ([v47.1].map zKr.c)]] ?_ ?_
    ·refine stG 3 27 1 4 rfl rfl rfl rfl rfl rfl rfl rfl rfl rfl ?_
     simp
     have r82:=(panR (zAR v41.2 (.inr v47) q45)).frame [0] [[.sl (v41.2.l.map zKp.c),iI v41.2.at_],zz0] (by simp)
     try simp at r82
     refine zAK r82 (by simp) rfl ?_
     simp
    obtain⟨v48,q49,h⟩:=bs h
    rcases v48 with e50|v51
    ·replace h:=zDB h
     refine zAF<|stP 1 ?_
     simp
     have r79:=(panL (zAE [116,104,101,110] v47.2 (.inl e50) q49)).frame [0] [[.sl (v47.2.l.map zKp.c),iI v47.2.at_],zz0,[iI 28,iI 0,.str ([]:List UInt8),.osl ⟨1,9⟩ (([]:List (List UInt8)).map cS),.osl ⟨5,26⟩ ([v47.1].map zKr.c)]] (by simp)
     try simp at r79
     refine panC r79 (by simp) (by simp)<|zAS<|zA0<|zAS ?_
     cases h
     simp
    replace h:=zCP h
    refine cut 50 1 [(0,pT 0),(2,pT 1),(4,pT 2)] [[.sl (v51.l.map zKp.c),iI v51.at_],zz0,[iI 28,iI 0,.str ([]:List UInt8),.osl ⟨1,9⟩ (([]:List (List UInt8)).map cS),.osl ⟨5,26⟩ ([v47.1].map zKr.c)]] ?_ ?_
    ·refine st ?_
     simp
     have r80:=(panR (zAE [116,104,101,110] v47.2 (.inr v51) q49)).frame [0] [[.sl (v47.2.l.map zKp.c),iI v47.2.at_],zz0,[iI 28,iI 0,.str ([]:List UInt8),.osl ⟨1,9⟩ (([]:List (List UInt8)).map cS),.osl ⟨5,26⟩ ([v47.1].map zKr.c)]] (by simp)
     try simp at r80
     refine zAK r80 (by simp) rfl ?_
     simp
    obtain⟨v52,q53,h⟩:=bs h
    rcases v52 with e54|v55
    ·replace h:=zDB h
     refine zAF<|zBo [0,996] [5,7] 3 mixed (n:=50) rfl (by decide) (by decide) (by decide) ?_
     simp
     have r77:=(panL (zAR v51 (.inl e54) q53)).frame [0] [[.sl (v51.l.map zKp.c),iI v51.at_],zz0,[iI 28,iI 0,.str ([]:List UInt8),.osl ⟨1,9⟩ (([]:List (List UInt8)).map cS),.osl ⟨5,26⟩ ([v47.1].map zKr.c)]] (by simp)
     try simp at r77
     refine panC r77 (by simp) (by simp)<|zAS<|zA0<|zAS ?_
     cases h
     simp
    replace h:=zCP h
    obtain⟨l56,q57,h⟩:=bs h
    obtain⟨q58,q59⟩:=zF7 q57
    try simp at q58
    refine cut 50 1 [(0,pT 0),(2,pT 1),(4,pT 2)] [[.sl (v55.2.l.map zKp.c),iI v55.2.at_],zz0,[iI 28,iI 0,.str ([]:List UInt8),.osl ⟨1,9⟩ (([]:List (List UInt8)).map cS),.osl ⟨5,26⟩ (l56.map zKr.c)]] ?_ ?_
    ·refine zBZ [0,996] [5,7] mixed (n:=50) rfl (by decide) (by decide) ?_
     simp[q58,q59]
     have r78:=(panR (zAR v51 (.inr v55) q53)).frameZ [0] [[.sl (v51.l.map zKp.c),iI v51.at_],zz0,[iI 28,iI 0,.str ([]:List UInt8),.osl ⟨1,9⟩ (([]:List (List UInt8)).map cS),.osl ⟨5,26⟩ ([v47.1].map zKr.c)]] (by simp) rfl (by simp) (by simp)
     try simp[q58,q59] at r78
     refine zHU r78 (by simp[q58,q59]) rfl (by decide) (by simp) ?_
     simp[q58,q59]
    obtain⟨v60,q61,h⟩:=bs h
    rcases v60 with e62|v63
    ·replace h:=zDB h
     refine zAF<|stP 1 ?_
     simp
     have r75:=(panL (zAE [101,108,115,101] v55.2 (.inl e62) q61)).frame [0] [[.sl (v55.2.l.map zKp.c),iI v55.2.at_],zz0,[iI 28,iI 0,.str ([]:List UInt8),.osl ⟨1,9⟩ (([]:List (List UInt8)).map cS),.osl ⟨5,26⟩ (l56.map zKr.c)]] (by simp)
     try simp at r75
     refine panC r75 (by simp) (by simp)<|zAS<|zA0<|zAS ?_
     cases h
     simp
    replace h:=zCP h
    refine cut 50 1 [(0,pT 0),(2,pT 1),(4,pT 2)] [[.sl (v63.l.map zKp.c),iI v63.at_],zz0,[iI 28,iI 0,.str ([]:List UInt8),.osl ⟨1,9⟩ (([]:List (List UInt8)).map cS),.osl ⟨5,26⟩ (l56.map zKr.c)]] ?_ ?_
    ·refine st ?_
     simp
     have r76:=(panR (zAE [101,108,115,101] v55.2 (.inr v63) q61)).frame [0] [[.sl (v55.2.l.map zKp.c),iI v55.2.at_],zz0,[iI 28,iI 0,.str ([]:List UInt8),.osl ⟨1,9⟩ (([]:List (List UInt8)).map cS),.osl ⟨5,26⟩ (l56.map zKr.c)]] (by simp)
     try simp at r76
     refine zAK r76 (by simp) rfl ?_
     simp
    obtain⟨v64,q65,h⟩:=bs h
    rcases v64 with e66|v67
    ·replace h:=zDB h
     refine zAF<|zBo [0,996] [5,7] 3 mixed (n:=50) rfl (by decide) (by decide) (by decide) ?_
     simp
     have r73:=(panL (zAR v63 (.inl e66) q65)).frame [0] [[.sl (v63.l.map zKp.c),iI v63.at_],zz0,[iI 28,iI 0,.str ([]:List UInt8),.osl ⟨1,9⟩ (([]:List (List UInt8)).map cS),.osl ⟨5,26⟩ (l56.map zKr.c)]] (by simp)
     try simp at r73
     refine panC r73 (by simp) (by simp)<|zAS<|zA0<|zAS ?_
     cases h
     simp
    replace h:=zCP h
    obtain⟨l68,q69,h⟩:=bs h
    obtain⟨q70,q71⟩:=zF7 q69
    have q72:=q70
    try simp at q72
    try simp[q59] at q70
    refine cut 50 1 [(2,pT 1),(4,pT 2)] [[.sl (v67.2.l.map zKp.c),iI v67.2.at_],zz0,[iI 28,iI 0,.str ([]:List UInt8),.osl ⟨1,9⟩ (([]:List (List UInt8)).map cS),.osl ⟨5,26⟩ (l68.map zKr.c)]] ?_ ?_
    ·refine zBZ [0,996] [5,7] mixed (n:=50) rfl (by decide) (by decide) ?_
     simp[q70,q72,q71]
     have r74:=(panR (zAR v63 (.inr v67) q65)).frameZ [0] [[.sl (v63.l.map zKp.c),iI v63.at_],zz0,[iI 28,iI 0,.str ([]:List UInt8),.osl ⟨1,9⟩ (([]:List (List UInt8)).map cS),.osl ⟨5,26⟩ (l56.map zKr.c)]] (by simp) rfl (by simp) (by simp)
     try simp[q70,q72,q71] at r74
     refine zHU r74 (by simp[q70,q72,q71]) rfl (by decide) (by simp) ?_
     simp[q70,q72,q71]
    refine cutA 50 1 [(2,pT 1)] [[.sl (v67.2.l.map zKp.c),iI v67.2.at_],[iI 28,iI 0,.str ([]:List UInt8),.sl (([]:List (List UInt8)).map cS),.sl (l68.map zKr.c)],[iI 28,iI 0,.str ([]:List UInt8),.osl ⟨1,9⟩ (([]:List (List UInt8)).map cS),.osl ⟨5,26⟩ (l68.map zKr.c)]]<|zAA<|zAD<|zAB ?_
    cases h
    simp
   refine zAC<|zDb<|zAN ?_
   obtain⟨v83,q84,h⟩:=bs h
   rcases v83 with e85|v86
   ·replace h:=zDB h
    refine zAF<|stP 1 ?_
    simp
    have r87:=(panL (zAk 1 v41.2 (.inl e85) q84)).frame [0] [[.sl (v41.2.l.map zKp.c),iI v41.2.at_],zz0] (by simp)
    try simp at r87
    refine panC r87 (by simp) (by simp)<|zAS ?_
    cases h
    simp
   replace h:=zCP h
   refine cut 50 1 [(2,pT 1)] [[.sl (v86.2.l.map zKp.c),iI v86.2.at_],(zKr.d v86.1)] ?_ ?_
   ·refine st ?_
    simp
    have r88:=(panR (zAk 1 v41.2 (.inr v86) q84)).frame [0] [[.sl (v41.2.l.map zKp.c),iI v41.2.at_],zz0] (by simp)
    try simp at r88
    refine zAK r88 (by simp) rfl ?_
    simp
   refine zAA ?_
   cases h
   simp
  ·intro w1 r h
   rw[zB5] at h
   refine zBz Tryz.func131 (by rfl) (by rfl) (by simp) (by simp)<|cutA 68 1 [(0,pT 0),(2,pT 1)] [[.sl (w1.l.map zKp.c),iI w1.at_],zz0]<|zAF<|zAP ?_
   obtain⟨v2,q3,h⟩:=bs h
   refine cut 68 1 [(0,pT 0),(2,pT 1),(6,.bool v2.1)] [[.sl (v2.2.l.map zKp.c),iI v2.2.at_],zz0] ?_ ?_
   ·refine st ?_
    simp
    have r124:=(zAO [118,97,108] w1 v2 q3).frame [0] [[.sl (w1.l.map zKp.c),iI w1.at_],zz0] (by simp)
    try simp at r124
    refine zAK r124 (by simp) rfl ?_
    simp
   refine spc h rfl (fun g4 h=>?_) fun g4 h=>?_
   ·obtain⟨v5,q6,h⟩:=bs h
    rcases v5 with e7|v8
    ·replace h:=zDB h
     refine zAF<|stP 1 ?_
     simp
     have r21:=(panL (zAJ 1 v2.2 (.inl e7) q6)).frame [0] [[.sl (v2.2.l.map zKp.c),iI v2.2.at_],zz0] (by simp)
     try simp at r21
     refine panC r21 (by simp) (by simp)<|zAS<|zA0<|zAS ?_
     cases h
     simp
    replace h:=zCP h
    refine cut 68 1 [(0,pT 0),(2,pT 1),(3,pT 2)] [[.sl (v8.2.l.map zKp.c),iI v8.2.at_],zz0,[iI 41,iI 0,.str v8.1,.osl ⟨1,9⟩ (([]:List (List UInt8)).map cS),.osl ⟨5,26⟩ (([]:List zKr).map zKr.c)]] ?_ ?_
    ·refine st ?_
     simp
     have r22:=(panR (zAJ 1 v2.2 (.inr v8) q6)).frame [0] [[.sl (v2.2.l.map zKp.c),iI v2.2.at_],zz0] (by simp)
     try simp at r22
     refine zAK r22 (by simp) rfl ?_
     simp
    obtain⟨v9,q10,h⟩:=bs h
    rcases v9 with e11|v12
    ·replace h:=zDB h
     refine zAF<|stP 1 ?_
     simp
     have r19:=(panL (zAE [61] v8.2 (.inl e11) q10)).frame [0] [[.sl (v8.2.l.map zKp.c),iI v8.2.at_],zz0,[iI 41,iI 0,.str v8.1,.osl ⟨1,9⟩ (([]:List (List UInt8)).map cS),.osl ⟨5,26⟩ (([]:List zKr).map zKr.c)]] (by simp)
     try simp at r19
     refine panC r19 (by simp) (by simp)<|zAS<|zA0<|zAS ?_
     cases h
     simp
    replace h:=zCP h
    refine cut 68 1 [(0,pT 0),(2,pT 1),(3,pT 2)] [[.sl (v12.l.map zKp.c),iI v12.at_],zz0,[iI 41,iI 0,.str v8.1,.osl ⟨1,9⟩ (([]:List (List UInt8)).map cS),.osl ⟨5,26⟩ (([]:List zKr).map zKr.c)]] ?_ ?_
    ·refine st ?_
     simp
     have r20:=(panR (zAE [61] v8.2 (.inr v12) q10)).frame [0] [[.sl (v8.2.l.map zKp.c),iI v8.2.at_],zz0,[iI 41,iI 0,.str v8.1,.osl ⟨1,9⟩ (([]:List (List UInt8)).map cS),.osl ⟨5,26⟩ (([]:List zKr).map zKr.c)]] (by simp)
     try simp at r20
     refine zAK r20 (by simp) rfl ?_
     simp
    obtain⟨v13,q14,h⟩:=bs h
    rcases v13 with e15|v16
    ·replace h:=zDB h
     refine zAF<|stP 1 ?_
     simp
     have r17:=(panL (zAR v12 (.inl e15) q14)).frame [0] [[.sl (v12.l.map zKp.c),iI v12.at_],zz0,[iI 41,iI 0,.str v8.1,.osl ⟨1,9⟩ (([]:List (List UInt8)).map cS),.osl ⟨5,26⟩ (([]:List zKr).map zKr.c)]] (by simp)
     try simp at r17
     refine panC r17 (by simp) (by simp)<|zAS<|zA0<|zAS ?_
     cases h
     simp
    replace h:=zCP h
    refine cut 68 1 [(2,pT 1),(3,pT 2)] [[.sl (v16.2.l.map zKp.c),iI v16.2.at_],zz0,[iI 41,iI 0,.str v8.1,.osl ⟨1,9⟩ (([]:List (List UInt8)).map cS),.osl ⟨5,26⟩ ([v16.1].map zKr.c)]] ?_ ?_
    ·refine st ?_
     simp
     have r18:=(panR (zAR v12 (.inr v16) q14)).frame [0] [[.sl (v12.l.map zKp.c),iI v12.at_],zz0,[iI 41,iI 0,.str v8.1,.osl ⟨1,9⟩ (([]:List (List UInt8)).map cS),.osl ⟨5,26⟩ (([]:List zKr).map zKr.c)]] (by simp)
     try simp at r18
     refine zAK r18 (by simp) rfl ?_
     simp
    refine cutA 68 1 [(2,pT 1)] [[.sl (v16.2.l.map zKp.c),iI v16.2.at_],[iI 41,iI 0,.str v8.1,.sl (([]:List (List UInt8)).map cS),.sl ([v16.1].map zKr.c)],[iI 41,iI 0,.str v8.1,.osl ⟨1,9⟩ (([]:List (List UInt8)).map cS),.osl ⟨5,26⟩ ([v16.1].map zKr.c)]]<|zAA<|zAD<|zAB ?_
    cases h
    simp
   obtain⟨v23,q24,h⟩:=bs h
   refine cut 68 1 [(0,pT 0),(2,pT 1),(19,.bool v23.1)] [[.sl (v23.2.l.map zKp.c),iI v23.2.at_],zz0] ?_ ?_
   ·refine st ?_
    simp
    have r123:=(zAO [102,117,110] v2.2 v23 q24).frame [0] [[.sl (v2.2.l.map zKp.c),iI v2.2.at_],zz0] (by simp)
    try simp at r123
    refine zAK r123 (by simp) rfl ?_
    simp
   refine spc h rfl (fun g25 h=>?_) fun g25 h=>?_
   ·obtain⟨v26,q27,h⟩:=bs h
    rcases v26 with e28|v29
    ·replace h:=zDB h
     refine zAF<|stP 1 ?_
     simp
     have r72:=(panL (zAJ 1 v23.2 (.inl e28) q27)).frame [0] [[.sl (v23.2.l.map zKp.c),iI v23.2.at_],zz0] (by simp)
     try simp at r72
     refine panC r72 (by simp) (by simp)<|zAS<|zA0<|zAS ?_
     cases h
     simp
    replace h:=zCP h
    obtain⟨v30,q31,h⟩:=bs h
    rcases v30 with e32|v33
    ·replace h:=zDB h
     refine zAF<|stP 3 ?_
     simp
     have r73:=(panR (zAJ 1 v23.2 (.inr v29) q27)).frame [0] [[.sl (v23.2.l.map zKp.c),iI v23.2.at_],zz0] (by simp)
     try simp at r73
     refine zAK r73 (by simp) rfl ?_
     simp
     have r74:=(panL (zAJ 1 v29.2 (.inl e32) q31)).frame [0] [[.sl (v29.2.l.map zKp.c),iI v29.2.at_],zz0] (by simp)
     try simp at r74
     refine panC r74 (by simp) (by simp)<|zAS<|zA0<|zAS ?_
     cases h
     simp
    replace h:=zCP h
    refine cut 68 1 [(0,pT 0),(2,pT 1),(4,pT 2)] [[.sl (v33.2.l.map zKp.c),iI v33.2.at_],zz0,[iI 42,iI 0,.str v29.1,.osl ⟨1,9⟩ ([v33.1].map cS),.osl ⟨5,26⟩ (([]:List zKr).map zKr.c)]] ?_ ?_
    ·refine stG 5 26 2 3 rfl rfl rfl rfl rfl rfl rfl rfl rfl rfl ?_
     simp
     have r75:=(panR (zAJ 1 v23.2 (.inr v29) q27)).frame [0] [[.sl (v23.2.l.map zKp.c),iI v23.2.at_],zz0] (by simp)
     try simp at r75
     refine zAK r75 (by simp) rfl ?_
     simp
     have r76:=(panR (zAJ 1 v29.2 (.inr v33) q31)).frame [0] [[.sl (v29.2.l.map zKp.c),iI v29.2.at_],zz0] (by simp)
     try simp at r76
     refine zAK r76 (by simp) rfl ?_
     simp
    refine zAF<|zAP ?_
    obtain⟨o38,l39,h⟩:=bs h
    refine zCd (fun p:Nat×(List zKp)×Int×(List (List UInt8))=>mkS 68 1 [(0,pT 0),(2,pT 1),(4,pT 2)] [[.sl (p.2.1.map zKp.c),iI p.2.2.1],zz0,[iI 42,iI 0,.str v29.1,.osl ⟨1,9⟩ (p.2.2.2.map cS),.osl ⟨5,26⟩ (([]:List zKr).map zKr.c)]]) (fun p=>zBN p.1 p.2.1 p.2.2.1 p.2.2.2=some o38) (fun p=>p.1) (fuel,v33.2.l,v33.2.at_,[v33.1]) l39 (zBe (by simp)) ?_
    rintro⟨k40,l34,at35,Names36⟩ l39
    try dsimp only at l39 ⊢
    cases k40 with
    |zero=>
     rw[zBN] at l39;cases l39
    |succ k41=>
     rw[zBN] at l39
     refine zAF ?_
     obtain⟨v42,q43,l39⟩:=bs l39
     refine cut 68 1 [(0,pT 0),(2,pT 1),(4,pT 2),(29,.bool v42)] [[.sl (l34.map zKp.c),iI at35],zz0,[iI 42,iI 0,.str v29.1,.osl ⟨1,9⟩ (Names36.map cS),.osl ⟨5,26⟩ (([]:List zKr).map zKr.c)]] ?_ ?_
     ·refine st ?_
      simp
      have r71:=(zAX 1 (zKm.mk l34 at35) v42 q43).frame [0] [[.sl (l34.map zKp.c),iI at35],zz0,[iI 42,iI 0,.str v29.1,.osl ⟨1,9⟩ (Names36.map cS),.osl ⟨5,26⟩ (([]:List zKr).map zKr.c)]] (by simp)
      try simp at r71
      refine zAK r71 (by simp) rfl ?_
      simp
     refine spc l39 rfl (fun g44 l39=>?_) fun g44 l39=>?_
     ·refine zAC<|zAN<|zAP ?_
      obtain⟨v45,q46,l39⟩:=bs l39
      rcases v45 with e47|v48
      ·replace l39:=zDB l39
       refine zBo [0,996] [5,7] 3 mixed (n:=68) rfl (by decide) (by decide) (by decide) ?_
       simp
       have r53:=(panL (zAJ 1 (zKm.mk l34 at35) (.inl e47) q46)).frame [0] [[.sl (l34.map zKp.c),iI at35],zz0,[iI 42,iI 0,.str v29.1,.osl ⟨1,9⟩ (Names36.map cS),.osl ⟨5,26⟩ (([]:List zKr).map zKr.c)]] (by simp)
       try simp at r53
       refine panC r53 (by simp) (by simp)<|zA0 ?_
       replace h:=retL l39 h
       refine zAS<|zA0<|zAS<|zA0<|zAS ?_
       cases h
       simp
      replace l39:=zCP l39
      obtain⟨l49,q50,l39⟩:=bs l39
      obtain⟨q51,q52⟩:=zF7 q50
      try simp at q51
      refine last 68 1 [(0,pT 0),(2,pT 1),(4,pT 2)] [[.sl (v48.2.l.map zKp.c),iI v48.2.at_],zz0,[iI 42,iI 0,.str v29.1,.osl ⟨1,9⟩ (l49.map cS),.osl ⟨5,26⟩ (([]:List zKr).map zKr.c)]] ?_ fun zz hs=>?_
      ·refine zBZ [0,996] [5,7] mixed (n:=68) rfl (by decide) (by decide) ?_
       simp[q51,q52]
       have r54:=(panR (zAJ 1 (zKm.mk l34 at35) (.inr v48) q46)).frameZ [0] [[.sl (l34.map zKp.c),iI at35],zz0,[iI 42,iI 0,.str v29.1,.osl ⟨1,9⟩ (Names36.map cS),.osl ⟨5,26⟩ (([]:List zKr).map zKr.c)]] (by simp) rfl (by simp) (by simp)
       try simp[q51,q52] at r54
       refine zHU r54 (by simp[q51,q52]) rfl (by decide) (by simp) ?_
       simp[q51,q52]
      refine zDb ?_
      exact⟨(k41,v48.2.l,v48.2.at_,l49),hs,l39,by simp⟩
     refine zBv<|zAm ?_
     rcases o38 with o38|o37
     ·cases l39
     have q55:=Sum.inr.inj (zqa l39)
     replace h:=zCP h
     have q56:o37.1=l34:=by rw[<-q55]
     have q57:o37.2.1=at35:=by rw[<-q55]
     have q58:o37.2.2=Names36:=by rw[<-q55]
     refine zAm<|zBu<|zDI (t:=mkS 68 1 [(0,pT 0),(2,pT 1),(4,pT 2)] [[.sl (o37.1.map zKp.c),iI o37.2.1],zz0,[iI 42,iI 0,.str v29.1,.osl ⟨1,9⟩ (o37.2.2.map cS),.osl ⟨5,26⟩ (([]:List zKr).map zKr.c)]]) ?_ (zBe (by simp[q56,q57,q58]))
     obtain⟨v59,q60,h⟩:=bs h
     rcases v59 with e61|v62
     ·replace h:=zDB h
      refine zAF<|stP 1 ?_
      simp
      have r69:=(panL (zAE [61] (zKm.mk o37.1 o37.2.1) (.inl e61) q60)).frame [0] [[.sl (o37.1.map zKp.c),iI o37.2.1],zz0,[iI 42,iI 0,.str v29.1,.osl ⟨1,9⟩ (o37.2.2.map cS),.osl ⟨5,26⟩ (([]:List zKr).map zKr.c)]] (by simp)
      try simp at r69
      refine panC r69 (by simp) (by simp)<|zAS<|zA0<|zAS ?_
      cases h
      simp
     replace h:=zCP h
     refine cut 68 1 [(0,pT 0),(2,pT 1),(4,pT 2)] [[.sl (v62.l.map zKp.c),iI v62.at_],zz0,[iI 42,iI 0,.str v29.1,.osl ⟨1,9⟩ (o37.2.2.map cS),.osl ⟨5,26⟩ (([]:List zKr).map zKr.c)]] ?_ ?_
     ·refine st ?_
      simp
      have r70:=(panR (zAE [61] (zKm.mk o37.1 o37.2.1) (.inr v62) q60)).frame [0] [[.sl (o37.1.map zKp.c),iI o37.2.1],zz0,[iI 42,iI 0,.str v29.1,.osl ⟨1,9⟩ (o37.2.2.map cS),.osl ⟨5,26⟩ (([]:List zKr).map zKr.c)]] (by simp)
      try simp at r70
      refine zAK r70 (by simp) rfl ?_
      simp
     obtain⟨v63,q64,h⟩:=bs h
     rcases v63 with e65|v66
     ·replace h:=zDB h
      refine zAF<|stP 1 ?_
      simp
      have r67:=(panL (zAR v62 (.inl e65) q64)).frame [0] [[.sl (v62.l.map zKp.c),iI v62.at_],zz0,[iI 42,iI 0,.str v29.1,.osl ⟨1,9⟩ (o37.2.2.map cS),.osl ⟨5,26⟩ (([]:List zKr).map zKr.c)]] (by simp)
      try simp at r67
      refine panC r67 (by simp) (by simp)<|zAS<|zA0<|zAS ?_
      cases h
      simp
     replace h:=zCP h
     refine cut 68 1 [(2,pT 1),(4,pT 2)] [[.sl (v66.2.l.map zKp.c),iI v66.2.at_],zz0,[iI 42,iI 0,.str v29.1,.osl ⟨1,9⟩ (o37.2.2.map cS),.osl ⟨5,26⟩ ([v66.1].map zKr.c)]] ?_ ?_
     ·refine st ?_
      simp
      have r68:=(panR (zAR v62 (.inr v66) q64)).frame [0] [[.sl (v62.l.map zKp.c),iI v62.at_],zz0,[iI 42,iI 0,.str v29.1,.osl ⟨1,9⟩ (o37.2.2.map cS),.osl ⟨5,26⟩ (([]:List zKr).map zKr.c)]] (by simp)
      try simp at r68
      refine zAK r68 (by simp) rfl ?_
      simp
     refine cutA 68 1 [(2,pT 1)] [[.sl (v66.2.l.map zKp.c),iI v66.2.at_],[iI 42,iI 0,.str v29.1,.sl (o37.2.2.map cS),.sl ([v66.1].map zKr.c)],[iI 42,iI 0,.str v29.1,.osl ⟨1,9⟩ (o37.2.2.map cS),.osl ⟨5,26⟩ ([v66.1].map zKr.c)]]<|zAA<|zAD<|zAB ?_
     cases h
     simp
   refine zAC<|zDb<|zAN ?_
   obtain⟨v77,q78,h⟩:=bs h
   rcases v77 with e79|v80
   ·replace h:=zDB h
    refine zAF<|stP 1 ?_
    simp
    have r121:=(panL (zAE [115,116,114,117,99,116,117,114,101] v23.2 (.inl e79) q78)).frame [0] [[.sl (v23.2.l.map zKp.c),iI v23.2.at_],zz0] (by simp)
    try simp at r121
    refine panC r121 (by simp) (by simp)<|zAS ?_
    cases h
    simp
   replace h:=zCP h
   refine cut 68 1 [(0,pT 0),(2,pT 1)] [[.sl (v80.l.map zKp.c),iI v80.at_],zz0] ?_ ?_
   ·refine st ?_
    simp
    have r122:=(panR (zAE [115,116,114,117,99,116,117,114,101] v23.2 (.inr v80) q78)).frame [0] [[.sl (v23.2.l.map zKp.c),iI v23.2.at_],zz0] (by simp)
    try simp at r122
    refine zAK r122 (by simp) rfl ?_
    simp
   obtain⟨v81,q82,h⟩:=bs h
   rcases v81 with e83|v84
   ·replace h:=zDB h
    refine zAF<|stP 1 ?_
    simp
    have r119:=(panL (zAJ 2 v80 (.inl e83) q82)).frame [0] [[.sl (v80.l.map zKp.c),iI v80.at_],zz0] (by simp)
    try simp at r119
    refine panC r119 (by simp) (by simp)<|zAS ?_
    cases h
    simp
   replace h:=zCP h
   refine cut 68 1 [(0,pT 0),(2,pT 1),(5,pT 2)] [[.sl (v84.2.l.map zKp.c),iI v84.2.at_],zz0,[iI 50,iI 0,.str v84.1,.osl ⟨1,9⟩ (([]:List (List UInt8)).map cS),.osl ⟨5,26⟩ (([]:List zKr).map zKr.c)]] ?_ ?_
   ·refine st ?_
    simp
    have r120:=(panR (zAJ 2 v80 (.inr v84) q82)).frame [0] [[.sl (v80.l.map zKp.c),iI v80.at_],zz0] (by simp)
    try simp at r120
    refine zAK r120 (by simp) rfl ?_
    simp
   obtain⟨v85,q86,h⟩:=bs h
   rcases v85 with e87|v88
   ·replace h:=zDB h
    refine zAF<|stP 1 ?_
    simp
    have r117:=(panL (zAE [61] v84.2 (.inl e87) q86)).frame [0] [[.sl (v84.2.l.map zKp.c),iI v84.2.at_],zz0,[iI 50,iI 0,.str v84.1,.osl ⟨1,9⟩ (([]:List (List UInt8)).map cS),.osl ⟨5,26⟩ (([]:List zKr).map zKr.c)]] (by simp)
    try simp at r117
    refine panC r117 (by simp) (by simp)<|zAS ?_
    cases h
    simp
   replace h:=zCP h
   refine cut 68 1 [(0,pT 0),(2,pT 1),(5,pT 2)] [[.sl (v88.l.map zKp.c),iI v88.at_],zz0,[iI 50,iI 0,.str v84.1,.osl ⟨1,9⟩ (([]:List (List UInt8)).map cS),.osl ⟨5,26⟩ (([]:List zKr).map zKr.c)]] ?_ ?_
   ·refine st ?_
    simp
    have r118:=(panR (zAE [61] v84.2 (.inr v88) q86)).frame [0] [[.sl (v84.2.l.map zKp.c),iI v84.2.at_],zz0,[iI 50,iI 0,.str v84.1,.osl ⟨1,9⟩ (([]:List (List UInt8)).map cS),.osl ⟨5,26⟩ (([]:List zKr).map zKr.c)]] (by simp)
    try simp at r118
    refine zAK r118 (by simp) rfl ?_
    simp
   obtain⟨v89,q90,h⟩:=bs h
   rcases v89 with e91|v92
   ·replace h:=zDB h
    refine zAF<|stP 1 ?_
    simp
    have r115:=(panL (zAE [117,110,112,97,99,107] v88 (.inl e91) q90)).frame [0] [[.sl (v88.l.map zKp.c),iI v88.at_],zz0,[iI 50,iI 0,.str v84.1,.osl ⟨1,9⟩ (([]:List (List UInt8)).map cS),.osl ⟨5,26⟩ (([]:List zKr).map zKr.c)]] (by simp)
    try simp at r115
    refine panC r115 (by simp) (by simp)<|zAS ?_
    cases h
    simp
   replace h:=zCP h
   refine cut 68 1 [(0,pT 0),(2,pT 1),(5,pT 2)] [[.sl (v92.l.map zKp.c),iI v92.at_],zz0,[iI 50,iI 0,.str v84.1,.osl ⟨1,9⟩ (([]:List (List UInt8)).map cS),.osl ⟨5,26⟩ (([]:List zKr).map zKr.c)]] ?_ ?_
   ·refine st ?_
    simp
    have r116:=(panR (zAE [117,110,112,97,99,107] v88 (.inr v92) q90)).frame [0] [[.sl (v88.l.map zKp.c),iI v88.at_],zz0,[iI 50,iI 0,.str v84.1,.osl ⟨1,9⟩ (([]:List (List UInt8)).map cS),.osl ⟨5,26⟩ (([]:List zKr).map zKr.c)]] (by simp)
    try simp at r116
    refine zAK r116 (by simp) rfl ?_
    simp
   obtain⟨v93,q94,h⟩:=bs h
   rcases v93 with e95|v96
   ·replace h:=zDB h
    refine zAF<|stP 1 ?_
    simp
    have r113:=(panL (zCI v92 (.inl e95) q94)).frame [0] [[.sl (v92.l.map zKp.c),iI v92.at_],zz0,[iI 50,iI 0,.str v84.1,.osl ⟨1,9⟩ (([]:List (List UInt8)).map cS),.osl ⟨5,26⟩ (([]:List zKr).map zKr.c)]] (by simp)
    try simp at r113
    refine panC r113 (by simp) (by simp)<|zAS ?_
    cases h
    simp
   replace h:=zCP h
   refine cut 68 1 [(0,pT 0),(2,pT 1),(5,pT 2)] [[.sl (v96.2.l.map zKp.c),iI v96.2.at_],zz0,[iI 50,iI 0,.str v84.1,.osl ⟨1,9⟩ (([]:List (List UInt8)).map cS),.osl ⟨5,26⟩ ([v96.1].map zKr.c)]] ?_ ?_
   ·refine st ?_
    simp
    have r114:=(panR (zCI v92 (.inr v96) q94)).frame [0] [[.sl (v92.l.map zKp.c),iI v92.at_],zz0,[iI 50,iI 0,.str v84.1,.osl ⟨1,9⟩ (([]:List (List UInt8)).map cS),.osl ⟨5,26⟩ (([]:List zKr).map zKr.c)]] (by simp)
    try simp at r114
    refine zAK r114 (by simp) rfl ?_
    simp
   obtain⟨v97,q98,h⟩:=bs h
   rcases v97 with e99|v100
   ·replace h:=zDB h
    refine zAF<|stP 1 ?_
    simp
    have r111:=(panL (zAE [58] v96.2 (.inl e99) q98)).frame [0] [[.sl (v96.2.l.map zKp.c),iI v96.2.at_],zz0,[iI 50,iI 0,.str v84.1,.osl ⟨1,9⟩ (([]:List (List UInt8)).map cS),.osl ⟨5,26⟩ ([v96.1].map zKr.c)]] (by simp)
    try simp at r111
    refine panC r111 (by simp) (by simp)<|zAS ?_
    cases h
    simp
   replace h:=zCP h
   refine cut 68 1 [(0,pT 0),(2,pT 1),(5,pT 2)] [[.sl (v100.l.map zKp.c),iI v100.at_],zz0,[iI 50,iI 0,.str v84.1,.osl ⟨1,9⟩ (([]:List (List UInt8)).map cS),.osl ⟨5,26⟩ ([v96.1].map zKr.c)]] ?_ ?_
   ·refine st ?_
    simp
    have r112:=(panR (zAE [58] v96.2 (.inr v100) q98)).frame [0] [[.sl (v96.2.l.map zKp.c),iI v96.2.at_],zz0,[iI 50,iI 0,.str v84.1,.osl ⟨1,9⟩ (([]:List (List UInt8)).map cS),.osl ⟨5,26⟩ ([v96.1].map zKr.c)]] (by simp)
    try simp at r112
    refine zAK r112 (by simp) rfl ?_
    simp
   obtain⟨v101,q102,h⟩:=bs h
   rcases v101 with e103|v104
   ·replace h:=zDB h
    refine zAF<|zBo [0,996] [6,8] 3 mixed (n:=68) rfl (by decide) (by decide) (by decide) ?_
    simp
    have r109:=(panL (zAe fuel v100 (.inl e103) q102)).frame [0] [[.sl (v100.l.map zKp.c),iI v100.at_],zz0,[iI 50,iI 0,.str v84.1,.osl ⟨1,9⟩ (([]:List (List UInt8)).map cS),.osl ⟨5,26⟩ ([v96.1].map zKr.c)]] (by simp)
    try simp at r109
    refine panC r109 (by simp) (by simp)<|zAS ?_
    cases h
    simp
   replace h:=zCP h
   obtain⟨l105,q106,h⟩:=bs h
   obtain⟨q107,q108⟩:=zF7 q106
   try simp at q107
   refine cut 68 1 [(2,pT 1),(5,pT 2)] [[.sl (v104.2.l.map zKp.c),iI v104.2.at_],zz0,[iI 50,iI 0,.str v84.1,.osl ⟨1,9⟩ (([]:List (List UInt8)).map cS),.osl ⟨5,26⟩ (l105.map zKr.c)]] ?_ ?_
   ·refine zBZ [0,996] [6,8] mixed (n:=68) rfl (by decide) (by decide) ?_
    simp[q107,q108]
    have r110:=(panR (zAe fuel v100 (.inr v104) q102)).frameZ [0] [[.sl (v100.l.map zKp.c),iI v100.at_],zz0,[iI 50,iI 0,.str v84.1,.osl ⟨1,9⟩ (([]:List (List UInt8)).map cS),.osl ⟨5,26⟩ ([v96.1].map zKr.c)]] (by simp) rfl (by simp) (by simp)
    try simp[q107,q108] at r110
    refine zHU r110 (by simp[q107,q108]) rfl (by decide) (by simp) ?_
    simp[q107,q108]
   refine cutA 68 1 [(2,pT 1)] [[.sl (v104.2.l.map zKp.c),iI v104.2.at_],[iI 50,iI 0,.str v84.1,.sl (([]:List (List UInt8)).map cS),.sl (l105.map zKr.c)],[iI 50,iI 0,.str v84.1,.osl ⟨1,9⟩ (([]:List (List UInt8)).map cS),.osl ⟨5,26⟩ (l105.map zKr.c)]]<|zAA ?_
   cases h
   simp
  ·intro w1 r h
   rw[zCY] at h
   refine zBz Tryz.func111 (by rfl) (by rfl) (by simp) (by simp)<|cutA 25 1 [(0,pT 0),(2,pT 1)] [[.sl (w1.l.map zKp.c),iI w1.at_],zz0]<|cutA 25 1 [(0,pT 0),(2,pT 1),(3,pT 2)] [[.sl (w1.l.map zKp.c),iI w1.at_],zz0,[iI 31,iI 0,.str ([]:List UInt8),.osl ⟨1,9⟩ (([]:List (List UInt8)).map cS),.osl ⟨5,26⟩ (([]:List zKr).map zKr.c)]]<|zAF<|zAP ?_
   obtain⟨o6,l7,h⟩:=bs h
   refine zCd (fun p:Nat×(List zKp)×Int×(List zKr)=>mkS 25 1 [(0,pT 0),(2,pT 1),(3,pT 2)] [[.sl (p.2.1.map zKp.c),iI p.2.2.1],zz0,[iI 31,iI 0,.str ([]:List UInt8),.osl ⟨1,9⟩ (([]:List (List UInt8)).map cS),.osl ⟨5,26⟩ (p.2.2.2.map zKr.c)]]) (fun p=>zBV (zB5 fuel) p.1 p.2.1 p.2.2.1 p.2.2.2=some o6) (fun p=>p.1) (fuel,w1.l,w1.at_,([]:List zKr)) l7 (zBe (by simp)) ?_
   rintro⟨k8,l2,at3,L4⟩ l7
   try dsimp only at l7 ⊢
   cases k8 with
   |zero=>
    rw[zBV] at l7;cases l7
   |succ k9=>
    rw[zBV] at l7
    refine zAF ?_
    obtain⟨v10,q11,l7⟩:=bs l7
    refine cut 25 1 [(0,pT 0),(2,pT 1),(3,pT 2),(7,.bool (!v10.1))] [[.sl (v10.2.l.map zKp.c),iI v10.2.at_],zz0,[iI 31,iI 0,.str ([]:List UInt8),.osl ⟨1,9⟩ (([]:List (List UInt8)).map cS),.osl ⟨5,26⟩ (L4.map zKr.c)]] ?_ ?_
    ·refine st ?_
     simp
     have r45:=(zAO [105,110] (zKm.mk l2 at3) v10 q11).frame [0] [[.sl (l2.map zKp.c),iI at3],zz0,[iI 31,iI 0,.str ([]:List UInt8),.osl ⟨1,9⟩ (([]:List (List UInt8)).map cS),.osl ⟨5,26⟩ (L4.map zKr.c)]] (by simp)
     try simp at r45
     refine zAK r45 (by simp) rfl ?_
     simp
    refine spc l7 rfl (fun g12 l7=>?_) fun g12 l7=>?_
    ·have g13:=notT g12
     refine zAC<|zAN<|zAP ?_
     obtain⟨v14,q15,l7⟩:=bs l7
     rcases v14 with e16|v17
     ·replace l7:=zDB l7
      refine zBo [0,996] [5,7] 3 mixed (n:=25) rfl (by decide) (by decide) (by decide) ?_
      simp
      have r22:=(panL (zEf v10.2 (.inl e16) q15)).frame [0] [[.sl (v10.2.l.map zKp.c),iI v10.2.at_],zz0,[iI 31,iI 0,.str ([]:List UInt8),.osl ⟨1,9⟩ (([]:List (List UInt8)).map cS),.osl ⟨5,26⟩ (L4.map zKr.c)]] (by simp)
      try simp at r22
      refine panC r22 (by simp) (by simp)<|zA0 ?_
      replace h:=retL l7 h
      refine zAS<|zA0<|zAS ?_
      cases h
      simp
     replace l7:=zCP l7
     obtain⟨l18,q19,l7⟩:=bs l7
     obtain⟨q20,q21⟩:=zF7 q19
     try simp at q20
     refine last 25 1 [(0,pT 0),(2,pT 1),(3,pT 2)] [[.sl (v17.2.l.map zKp.c),iI v17.2.at_],zz0,[iI 31,iI 0,.str ([]:List UInt8),.osl ⟨1,9⟩ (([]:List (List UInt8)).map cS),.osl ⟨5,26⟩ (l18.map zKr.c)]] ?_ fun zz hs=>?_
     ·refine zBZ [0,996] [5,7] mixed (n:=25) rfl (by decide) (by decide) ?_
      simp[q20,q21]
      have r23:=(panR (zEf v10.2 (.inr v17) q15)).frameZ [0] [[.sl (v10.2.l.map zKp.c),iI v10.2.at_],zz0,[iI 31,iI 0,.str ([]:List UInt8),.osl ⟨1,9⟩ (([]:List (List UInt8)).map cS),.osl ⟨5,26⟩ (L4.map zKr.c)]] (by simp) rfl (by simp) (by simp)
      try simp[q20,q21] at r23
      refine zHU r23 (by simp[q20,q21]) rfl (by decide) (by simp) ?_
      simp[q20,q21]
     refine zDb ?_
     exact⟨(k9,v17.2.l,v17.2.at_,l18),hs,l7,by simp⟩
    have g24:=notF g12
    refine zBv<|zAm ?_
    rcases o6 with o6|o5
    ·cases l7
    have q25:=Sum.inr.inj (zqa l7)
    replace h:=zCP h
    have q26:o5.1=v10.2.l:=by rw[<-q25]
    have q27:o5.2.1=v10.2.at_:=by rw[<-q25]
    have q28:o5.2.2=L4:=by rw[<-q25]
    refine zAm<|zBu<|zDI (t:=mkS 25 1 [(0,pT 0),(2,pT 1),(3,pT 2)] [[.sl (o5.1.map zKp.c),iI o5.2.1],zz0,[iI 31,iI 0,.str ([]:List UInt8),.osl ⟨1,9⟩ (([]:List (List UInt8)).map cS),.osl ⟨5,26⟩ (o5.2.2.map zKr.c)]]) ?_ (zBe (by simp[q26,q27,q28]))
    obtain⟨v29,q30,h⟩:=bs h
    rcases v29 with e31|v32
    ·replace h:=zDB h
     refine zAF<|zBo [0,996] [5,7] 3 mixed (n:=25) rfl (by decide) (by decide) (by decide) ?_
     simp
     have r43:=(panL (zAR (zKm.mk o5.1 o5.2.1) (.inl e31) q30)).frame [0] [[.sl (o5.1.map zKp.c),iI o5.2.1],zz0,[iI 31,iI 0,.str ([]:List UInt8),.osl ⟨1,9⟩ (([]:List (List UInt8)).map cS),.osl ⟨5,26⟩ (o5.2.2.map zKr.c)]] (by simp)
     try simp at r43
     refine panC r43 (by simp) (by simp)<|zAS ?_
     cases h
     simp
    replace h:=zCP h
    obtain⟨l33,q34,h⟩:=bs h
    obtain⟨q35,q36⟩:=zF7 q34
    try simp at q35
    refine cut 25 1 [(0,pT 0),(2,pT 1),(3,pT 2)] [[.sl (v32.2.l.map zKp.c),iI v32.2.at_],zz0,[iI 31,iI 0,.str ([]:List UInt8),.osl ⟨1,9⟩ (([]:List (List UInt8)).map cS),.osl ⟨5,26⟩ (l33.map zKr.c)]] ?_ ?_
    ·refine zBZ [0,996] [5,7] mixed (n:=25) rfl (by decide) (by decide) ?_
     simp[q35,q36]
     have r44:=(panR (zAR (zKm.mk o5.1 o5.2.1) (.inr v32) q30)).frameZ [0] [[.sl (o5.1.map zKp.c),iI o5.2.1],zz0,[iI 31,iI 0,.str ([]:List UInt8),.osl ⟨1,9⟩ (([]:List (List UInt8)).map cS),.osl ⟨5,26⟩ (o5.2.2.map zKr.c)]] (by simp) rfl (by simp) (by simp)
     try simp[q35,q36] at r44
     refine zHU r44 (by simp[q35,q36]) rfl (by decide) (by simp) ?_
     simp[q35,q36]
    obtain⟨v37,q38,h⟩:=bs h
    rcases v37 with e39|v40
    ·replace h:=zDB h
     refine zAF<|stP 1 ?_
     simp
     have r41:=(panL (zAE [101,110,100] v32.2 (.inl e39) q38)).frame [0] [[.sl (v32.2.l.map zKp.c),iI v32.2.at_],zz0,[iI 31,iI 0,.str ([]:List UInt8),.osl ⟨1,9⟩ (([]:List (List UInt8)).map cS),.osl ⟨5,26⟩ (l33.map zKr.c)]] (by simp)
     try simp at r41
     refine panC r41 (by simp) (by simp)<|zAS ?_
     cases h
     simp
    replace h:=zCP h
    refine cut 25 1 [(2,pT 1),(3,pT 2)] [[.sl (v40.l.map zKp.c),iI v40.at_],zz0,[iI 31,iI 0,.str ([]:List UInt8),.osl ⟨1,9⟩ (([]:List (List UInt8)).map cS),.osl ⟨5,26⟩ (l33.map zKr.c)]] ?_ ?_
    ·refine st ?_
     simp
     have r42:=(panR (zAE [101,110,100] v32.2 (.inr v40) q38)).frame [0] [[.sl (v32.2.l.map zKp.c),iI v32.2.at_],zz0,[iI 31,iI 0,.str ([]:List UInt8),.osl ⟨1,9⟩ (([]:List (List UInt8)).map cS),.osl ⟨5,26⟩ (l33.map zKr.c)]] (by simp)
     try simp at r42
     refine zAK r42 (by simp) rfl ?_
     simp
    refine cutA 25 1 [(2,pT 1)] [[.sl (v40.l.map zKp.c),iI v40.at_],[iI 31,iI 0,.str ([]:List UInt8),.sl (([]:List (List UInt8)).map cS),.sl (l33.map zKr.c)],[iI 31,iI 0,.str ([]:List UInt8),.osl ⟨1,9⟩ (([]:List (List UInt8)).map cS),.osl ⟨5,26⟩ (l33.map zKr.c)]]<|zAA ?_
    cases h
    simp
  ·intro w1 r h
   rw[zA1] at h
   refine zBz Tryz.func75 (by rfl) (by rfl) (by simp) (by simp)<|cutA 44 1 [(0,pT 0),(2,pT 1)] [[.sl (w1.l.map zKp.c),iI w1.at_],zz0]<|zAF<|zAP ?_
   obtain⟨v2,q3,h⟩:=bs h
   refine cut 44 1 [(0,pT 0),(2,pT 1),(5,.bool v2)] [[.sl (w1.l.map zKp.c),iI w1.at_],zz0] ?_ ?_
   ·refine st ?_
    simp
    have r64:=(zAX 4 w1 v2 q3).frame [0] [[.sl (w1.l.map zKp.c),iI w1.at_],zz0] (by simp)
    try simp at r64
    refine zAK r64 (by simp) rfl ?_
    simp
   refine spc h rfl (fun g4 h=>?_) fun g4 h=>?_
   ·obtain⟨v5,q6,h⟩:=bs h
    rcases v5 with e7|v8
    ·replace h:=zDB h
     refine zAF<|stP 1 ?_
     simp
     have r9:=(panL (zBy fuel w1 (.inl e7) q6)).frame [0] [[.sl (w1.l.map zKp.c),iI w1.at_],zz0] (by simp)
     try simp at r9
     refine panC r9 (by simp) (by simp)<|zAS<|zA0<|zAS ?_
     cases h
     simp
    replace h:=zCP h
    refine cut 44 1 [(2,pT 1)] [[.sl (v8.2.l.map zKp.c),iI v8.2.at_],[iI 21,iI v8.1,.str ([]:List UInt8),.osl ⟨1,9⟩ (([]:List (List UInt8)).map cS),.osl ⟨5,26⟩ (([]:List zKr).map zKr.c)]] ?_ ?_
    ·refine st ?_
     simp
     have r10:=(panR (zBy fuel w1 (.inr v8) q6)).frame [0] [[.sl (w1.l.map zKp.c),iI w1.at_],zz0] (by simp)
     try simp at r10
     refine zAK r10 (by simp) rfl ?_
     simp
    refine zAA<|zAD<|zAB ?_
    cases h
    simp
   obtain⟨v11,q12,h⟩:=bs h
   refine cut 44 1 [(0,pT 0),(2,pT 1),(11,.bool v11)] [[.sl (w1.l.map zKp.c),iI w1.at_],zz0] ?_ ?_
   ·refine st ?_
    simp
    have r63:=(zAX 5 w1 v11 q12).frame [0] [[.sl (w1.l.map zKp.c),iI w1.at_],zz0] (by simp)
    try simp at r63
    refine zAK r63 (by simp) rfl ?_
    simp
   refine spc h rfl (fun g13 h=>?_) fun g13 h=>?_
   ·obtain⟨v14,q15,h⟩:=bs h
    rcases v14 with e16|v17
    ·replace h:=zDB h
     refine zAF<|stP 1 ?_
     simp
     have r18:=(panL (zAJ 5 w1 (.inl e16) q15)).frame [0] [[.sl (w1.l.map zKp.c),iI w1.at_],zz0] (by simp)
     try simp at r18
     refine panC r18 (by simp) (by simp)<|zAS<|zA0<|zAS ?_
     cases h
     simp
    replace h:=zCP h
    refine cut 44 1 [(2,pT 1)] [[.sl (v17.2.l.map zKp.c),iI v17.2.at_],[iI 22,iI 0,.str v17.1,.osl ⟨1,9⟩ (([]:List (List UInt8)).map cS),.osl ⟨5,26⟩ (([]:List zKr).map zKr.c)]] ?_ ?_
    ·refine st ?_
     simp
     have r19:=(panR (zAJ 5 w1 (.inr v17) q15)).frame [0] [[.sl (w1.l.map zKp.c),iI w1.at_],zz0] (by simp)
     try simp at r19
     refine zAK r19 (by simp) rfl ?_
     simp
    refine zAA<|zAD<|zAB ?_
    cases h
    simp
   obtain⟨v20,q21,h⟩:=bs h
   refine cut 44 1 [(0,pT 0),(2,pT 1),(17,.bool v20)] [[.sl (w1.l.map zKp.c),iI w1.at_],zz0] ?_ ?_
   ·refine st ?_
    simp
    have r62:=(zBl w1 v20 q21).frame [0] [[.sl (w1.l.map zKp.c),iI w1.at_],zz0] (by simp)
    try simp at r62
    refine zAK r62 (by simp) rfl ?_
    simp
   refine spc h rfl (fun g22 h=>?_) fun g22 h=>?_
   ·obtain⟨v23,q24,h⟩:=bs h
    rcases v23 with e25|v26
    ·replace h:=zDB h
     refine zAF<|stP 1 ?_
     simp
     have r28:=(panL (zC8 fuel true w1 (.inl e25) q24)).frame [0] [[.sl (w1.l.map zKp.c),iI w1.at_],zz0] (by simp)
     try simp at r28
     refine panC r28 (by simp) (by simp)<|zAS<|zA0<|zAS ?_
     cases h
     simp
    replace h:=zCP h
    refine cut 44 1 [(2,pT 1),(3,.sl (v26.1.map cS)),(4,.bool v26.2.1)] [[.sl (v26.2.2.l.map zKp.c),iI v26.2.2.at_],zz0] ?_ ?_
    ·refine st ?_
     simp
     have r29:=(panR (zC8 fuel true w1 (.inr v26) q24)).frame [0] [[.sl (w1.l.map zKp.c),iI w1.at_],zz0] (by simp)
     try simp at r29
     refine zAK r29 (by simp) rfl ?_
     simp
    refine zAF<|cutA 44 1 [(2,pT 1),(3,.sl (v26.1.map cS)),(25,.bool v26.2.1)] [[.sl (v26.2.2.l.map zKp.c),iI v26.2.2.at_],zz0]<|spc h rfl (fun g27 h=>?_) fun g27 h=>?_
    ·refine cutA 44 1 [(2,pT 1)] [[.sl (v26.2.2.l.map zKp.c),iI v26.2.2.at_],[iI 23,iI 0,.str ([]:List UInt8),.sl (v26.1.map cS),.osl ⟨5,26⟩ (([]:List zKr).map zKr.c)]]<|zAA<|zAB<|zAD<|zAB ?_
     cases h
     simp
    refine zAC<|zAN<|cutA 44 1 [(2,pT 1)] [[.sl (v26.2.2.l.map zKp.c),iI v26.2.2.at_],[iI 24,iI 0,.str ([]:List UInt8),.sl (v26.1.map cS),.osl ⟨5,26⟩ (([]:List zKr).map zKr.c)]]<|zAA<|zAD<|zAB ?_
    cases h
    simp
   obtain⟨v30,q31,h⟩:=bs h
   refine cut 44 1 [(0,pT 0),(2,pT 1),(30,.bool v30.1)] [[.sl (v30.2.l.map zKp.c),iI v30.2.at_],zz0] ?_ ?_
   ·refine st ?_
    simp
    have r61:=(zAO [108,101,116] w1 v30 q31).frame [0] [[.sl (w1.l.map zKp.c),iI w1.at_],zz0] (by simp)
    try simp at r61
    refine zAK r61 (by simp) rfl ?_
    simp
   refine spc h rfl (fun g32 h=>?_) fun g32 h=>?_
   ·obtain⟨v33,q34,h⟩:=bs h
    rcases v33 with e35|v36
    ·replace h:=zDB h
     refine zAF<|stP 1 ?_
     simp
     have r37:=(panL (zEo v30.2 (.inl e35) q34)).frame [0] [[.sl (v30.2.l.map zKp.c),iI v30.2.at_],zz0] (by simp)
     try simp at r37
     refine panC r37 (by simp) (by simp)<|zAS<|zA0<|zAS ?_
     cases h
     simp
    replace h:=zCP h
    refine cut 44 1 [(2,pT 1)] [[.sl (v36.2.l.map zKp.c),iI v36.2.at_],(zKr.d v36.1)] ?_ ?_
    ·refine st ?_
     simp
     have r38:=(panR (zEo v30.2 (.inr v36) q34)).frame [0] [[.sl (v30.2.l.map zKp.c),iI v30.2.at_],zz0] (by simp)
     try simp at r38
     refine zAK r38 (by simp) rfl ?_
     simp
    refine zAA<|zAD<|zAB ?_
    cases h
    simp
   obtain⟨v39,q40,h⟩:=bs h
   refine cut 44 1 [(0,pT 0),(2,pT 1),(35,.bool v39.1)] [[.sl (v39.2.l.map zKp.c),iI v39.2.at_],zz0] ?_ ?_
   ·refine st ?_
    simp
    have r60:=(zAO [99,97,115,101] v30.2 v39 q40).frame [0] [[.sl (v30.2.l.map zKp.c),iI v30.2.at_],zz0] (by simp)
    try simp at r60
    refine zAK r60 (by simp) rfl ?_
    simp
   refine spc h rfl (fun g41 h=>?_) fun g41 h=>?_
   ·obtain⟨v42,q43,h⟩:=bs h
    rcases v42 with e44|v45
    ·replace h:=zDB h
     refine zAF<|stP 1 ?_
     simp
     have r46:=(panL (zD6 v39.2 (.inl e44) q43)).frame [0] [[.sl (v39.2.l.map zKp.c),iI v39.2.at_],zz0] (by simp)
     try simp at r46
     refine panC r46 (by simp) (by simp)<|zAS<|zA0<|zAS ?_
     cases h
     simp
    replace h:=zCP h
    refine cut 44 1 [(2,pT 1)] [[.sl (v45.2.l.map zKp.c),iI v45.2.at_],(zKr.d v45.1)] ?_ ?_
    ·refine st ?_
     simp
     have r47:=(panR (zD6 v39.2 (.inr v45) q43)).frame [0] [[.sl (v39.2.l.map zKp.c),iI v39.2.at_],zz0] (by simp)
     try simp at r47
     refine zAK r47 (by simp) rfl ?_
     simp
    refine zAA<|zAD<|zAB ?_
    cases h
    simp
   refine zAC<|zDb<|zAN ?_
   obtain⟨v48,q49,h⟩:=bs h
   rcases v48 with e50|v51
   ·replace h:=zDB h
    refine zAF<|stP 1 ?_
    simp
    have r58:=(panL (zAE [40] v39.2 (.inl e50) q49)).frame [0] [[.sl (v39.2.l.map zKp.c),iI v39.2.at_],zz0] (by simp)
    try simp at r58
    refine panC r58 (by simp) (by simp)<|zAS ?_
    cases h
    simp
   replace h:=zCP h
   refine cut 44 1 [(0,pT 0),(2,pT 1)] [[.sl (v51.l.map zKp.c),iI v51.at_],zz0] ?_ ?_
   ·refine st ?_
    simp
    have r59:=(panR (zAE [40] v39.2 (.inr v51) q49)).frame [0] [[.sl (v39.2.l.map zKp.c),iI v39.2.at_],zz0] (by simp)
    try simp at r59
    refine zAK r59 (by simp) rfl ?_
    simp
   obtain⟨v52,q53,h⟩:=bs h
   rcases v52 with e54|v55
   ·replace h:=zDB h
    refine zAF<|stP 1 ?_
    simp
    have r56:=(panL (zD5 v51 (.inl e54) q53)).frame [0] [[.sl (v51.l.map zKp.c),iI v51.at_],zz0] (by simp)
    try simp at r56
    refine panC r56 (by simp) (by simp)<|zAS ?_
    cases h
    simp
   replace h:=zCP h
   refine cut 44 1 [(2,pT 1)] [[.sl (v55.2.l.map zKp.c),iI v55.2.at_],(zKr.d v55.1)] ?_ ?_
   ·refine st ?_
    simp
    have r57:=(panR (zD5 v51 (.inr v55) q53)).frame [0] [[.sl (v51.l.map zKp.c),iI v51.at_],zz0] (by simp)
    try simp at r57
    refine zAK r57 (by simp) rfl ?_
    simp
   refine zAA ?_
   cases h
   simp
theorem zEZ(fuel:Nat):(∀(w1:zKm)(r:(zKm) ⊕ (zKr×zKm))(_:zAW fuel w1=some r),Sum.elim (fun r=>RawP Tryz.prog 76 (pan1 112) [pT 0] [[.sl (w1.l.map zKp.c),iI w1.at_]] [[.sl (r.l.map zKp.c),iI r.at_]]) (fun r=>Raw Tryz.prog 76 [pT 0] [[.sl (w1.l.map zKp.c),iI w1.at_]] (.agg (zKr.d r.1)) [[.sl (r.2.l.map zKp.c),iI r.2.at_]]) r):=(zCG fuel).2.2.2.2.1
theorem zEa(fuel:Nat):(∀(w1:zKm)(r:(zKm) ⊕ (zKr×zKm))(_:zA1 fuel w1=some r),Sum.elim (fun r=>RawP Tryz.prog 75 (pan1 112) [pT 0] [[.sl (w1.l.map zKp.c),iI w1.at_]] [[.sl (r.l.map zKp.c),iI r.at_]]) (fun r=>Raw Tryz.prog 75 [pT 0] [[.sl (w1.l.map zKp.c),iI w1.at_]] (.agg (zKr.d r.1)) [[.sl (r.2.l.map zKp.c),iI r.2.at_]]) r):=(zCG fuel).2.2.2.2.2.2.2
end Go.Proofs.YtcbjbgiboimgaaaGreatDoor

namespace Go.Proofs.YtcbjbgiboimgaaaGreatDoor
open Go Go.Abs
def zSyn:List AV:=[.int .i64 0,.int .i64 0,.str [],.nsl,.nsl]
def Left(g:Gh)(w:World)(bs:List (List AV))(w':World):Prop:= ∃g',Sto g' bs w'∧Ext ⟨w,g⟩ g' w'∧∀t,g'.own (.tmp t)=none
theorem left_of{g:Gh}{s:AState}{a:Act}{w0 w:World}{g0:Gh}{bs:List (List AV)}(h:Sim ⟨w0,g0⟩ g s a w)(he:EndB s bs):Left g0 w0 bs w:=by
 obtain⟨g2,h5,h6,h7⟩:=h.le' he.le
 refine⟨{g2 with own:=fun p=>match p with|.tmp _=>none|q=>g2.own q},h5.callee,?_,fun t=>rfl⟩
 exact {h5.ext with
  imm:=h5.ext.imm
  immNew:=h5.ext.immNew
  mineσ:=h5.ext.mineσ
  mineOwn:=fun p k hk=>by
   cases p with
   |tmp t=>cases hk
   |cell b o=>exact h5.ext.mineOwn _ k hk}
theorem wpS_recover{P:Program}{o0 o1:Oper}{c0:Call}{d0 d1:Nat}(h0:o0.op=.call {callee:=.builtin .recover,args:=#[],argTypes:=#[]})(e0:o0.dst=some d0)(g0:o0.guard=none)(h1:o1.op=.assign (.tmp d0))(e1:o1.dst=some d1)(g1:o1.guard=none)
 {Q:Exit->Act->List Frame->World->Prop} {a:Act} {cs cs':List Frame} {w:World} {xv:Value} (hrec:recoverD cs=some (xv,cs')∨(recoverD cs=none∧xv=.nilIface∧cs'=cs)) (hd:d0<a.tmps.size)
 (hQ:Q .normal ((a.put (some d0) xv).put (some d1) xv) cs' w):wpOpsS P #[o0,o1] Q [0,1] a cs w:=by
 have r0:(execOp a.eval o0).run P w=.ok .recover w:=by simp[execOp,h0,resolve,invoke,builtin]
 have hg:((a.put (some d0) xv).tmps.getD d0 undef)=xv:=by
  simp only[Act.put]
  rw[zDR,if_pos ⟨rfl,hd⟩]
 have r1:(execOp (a.put (some d0) xv).eval o1).run P w=.ok (.value xv) w:=by
  have:(a.put (some d0) xv).eval (.tmp d0)=xv:=hg
  simp[execOp,h1,this]
 have next:wpOpsS P #[o0,o1] Q [1] (a.put (some d0) xv) cs' w:=by
  unfold wpOpsS
  simp only[show(#[o0,o1]:Array Oper)[1]? =some o1 from rfl]
  rw[if_pos (by simp[Region.wanted,g1]),r1]
  simp only[Oper.upon,e1]
  unfold wpOpsS
  exact hQ
 unfold wpOpsS
 simp only[show(#[o0,o1]:Array Oper)[0]? =some o0 from rfl]
 rw[if_pos (by simp[Region.wanted,g0]),r0]
 rcases hrec with h|⟨h,rfl,rfl⟩
 ·simp only[h,e0];exact next
 ·simp only[h,e0];exact next
theorem run1_of{bs bs':List (List AV)}{X:AV}{xv:Value}{u u':FrameMode}(hX:X.owns=false)
 (hrec: ∀c₀:Frame,c₀.mode=u->∀cs,(recoverD (c₀::cs)=some (xv,{c₀ with mode:=u'}::cs))∨(recoverD (c₀::cs)=none∧xv=.nilIface∧u'=u))
 (hxr: ∀imm σ,Rep imm σ X xv)
 (hA: ∀y1 y2:Code,Tryz.f72.body=some (.seq y1 y2)->AWp Tryz.prog y2 (fun e s=>e=.normal∧EndB s bs') (((Go.Abs.start 17 bs.length [.mptr 1 0,.mptr 2 0] bs).put 5 X).put 2 X))
 {g:Gh} {w:World} {vals:Array Value} (hs:Sto g bs w) (h0: ∀t,g.own (.tmp t)=none) (htg:TG g w) (ha:RepL g.imm g.σ [.mptr 1 0,.mptr 2 0] vals):
 CallsD Tryz.prog 72 vals u w fun e u2 w'=> ∃v,e=.returned v∧u2=u'∧Left g w bs' w':=by
 refine callsD_of_wpS Tryz.func72 (by rfl) fun c₀ cs hu=>?_
 have hA:=hA _ _ rfl
 refine wpS_seq (wpS_region ?_)
 have sim0:=zIO (n:=17) hs h0 ha (by simp) (by simp) htg
 have hr:=hrec c₀ hu cs
 have s1:=sim0.putTmp 5 none (x:=X) (v:=xv) (hxr _ _) (OwnsBy.of_not hX) Floating.none
 have s2:=s1.putTmp 2 none (x:=X) (v:=xv) (hxr _ _) (OwnsBy.of_not hX) Floating.none
 refine wpS_recover (c0:=default) (cs':={c₀ with mode:=u'}::cs) rfl rfl rfl rfl rfl rfl (xv:=xv) ?_ ?_ ?_
 ·rcases hr with h|⟨h,h2,h3⟩
  ·exact .inl h
  ·refine .inr ⟨h,h2,?_⟩
   rw[h3,<-hu]
 ·have h17:(17:Nat)=(vals++Array.replicate (17-vals.size) undef).size:=sim0.size
  show 5<(vals++Array.replicate (17-vals.size) undef).size
  omega
 ·show Code.wpS _ _ _ _ _ _
  refine wpS_of_wp (wp_mono (hA _ _ _ _ s2) fun e a' w' ⟨g',s',h1,h2,h3⟩=>?_)
  subst h2
  exact⟨h1.defers,u',rfl,_,results_none rfl _ _ _,_,rfl,rfl,left_of h1 h3⟩
def bP(w:zKm):List AV:=[.sl (w.l.map zKp.c),.int .i64 w.at_]
theorem run1_ret{bs:List (List AV)}{g:Gh}{w:World}{vals:Array Value}(hl:bs.length=3)(hs:Sto g bs w)(h0: ∀t,g.own (.tmp t)=none)(htg:TG g w)(ha:RepL g.imm g.σ [.mptr 1 0,.mptr 2 0] vals):
 CallsD Tryz.prog 72 vals .returning w fun e u2 w'=> ∃v,e=.returned v∧u2=.returning∧Left g w bs w':=by
 match bs,hl with
 |[b0,b1,b2],_=>
 refine run1_of (X:=.nilif) (xv:=.nilIface) (u':=.returning) rfl (fun c₀ hu cs=>.inr ⟨by simp[recoverD,hu],rfl,rfl⟩) (fun _ _=>.nilif) (fun y1 y2 hy=>?_) hs h0 htg ha
 cases hy
 refine cut 17 3 [(7,.bool false)] [b0,b1,b2] ?_ ?_
 ·refine st ?_
  simp
 refine condF rfl rfl ?_
 refine zAC ?_
 simp
theorem run1_pan{b0 b1:List AV}{b:Bool}{g:Gh}{w:World}{vals:Array Value}(hb:b1.length=5)(hu0:AV.underL 3 b0=true)(hu1:AV.underL 3 b1=true)(hs:Sto g [b0,b1,[.bool b]] w)(h0: ∀t,g.own (.tmp t)=none)(htg:TG g w)(ha:RepL g.imm g.σ [.mptr 1 0,.mptr 2 0] vals):
 CallsD Tryz.prog 72 vals (.panicking (pan1 112)) w fun e u2 w'=> ∃v,e=.returned v∧u2=.panicking [{v:=.iface 112 (.agg #[]),recovered:=true}]∧Left g w [b0,zSyn,[.bool false]] w':=by
 refine run1_of (X:=.iface 112 (.agg [])) (xv:=.iface 112 (.agg #[])) rfl (fun c₀ hu cs=>.inl (by simp[recoverD,hu,pan1])) (fun _ _=>.iface _ _ _ (.agg _ _ rfl (by simp))) (fun y1 y2 hy=>?_) hs h0 htg ha
 cases hy
 refine cut 17 3 [(0,.mptr 1 0),(1,.mptr 2 0),(2,.iface 112 (.agg [])),(7,.bool true)] [b0,b1,[.bool b]] ?_ ?_
 ·refine st ?_
  simp
 refine zBn rfl rfl ?_
 refine zAF ?_
 refine cut 17 3 [(0,.mptr 1 0),(1,.mptr 2 0),(4,.bool true)] [b0,b1,[.bool b]] ?_ ?_
 ·refine zH0 ?_
  refine WL.cut 1 17 3 [(0,.mptr 1 0),(1,.mptr 2 0),(9,.iface 112 (.agg []))] [b0,b1,[.bool b]] ?_ ?_
  ·simp
  refine WL.assert rfl rfl rfl (by simp;rfl) rfl ?_
  refine WL.last ?_
  simp[hu0,hu1]
 refine cut 17 3 [(0,.mptr 1 0),(1,.mptr 2 0),(14,.bool false)] [b0,b1,[.bool b]] ?_ ?_
 ·refine st ?_
  simp
 refine condF rfl rfl ?_
 refine zAC ?_
 refine zAN ?_
 match b1,hb with
 |[c0,c1,c2,c3,c4],_=>
 refine st ?_
 simp[zSyn]
def EndR(s:AState)(w:zKm)(x:List AV)(b:Bool):Prop:=LeB s 22 3 [(4,.mptr 1 0),(5,.mptr 2 0)] [bP w,x,[.bool b]]
def Qend(r:zKr×Bool×zKm)(e:Exit)(s:AState):Prop:=
 (e=.ret∧r.2.1=true∧EndR s r.2.2 [.int .i64 r.1.Op,.int .i64 r.1.N,.str r.1.S,.sl (r.1.Names.map cS),.sl (r.1.L.map zKr.c)] true)∨
 (e=.panic (pan1 112)∧r.1=⟨0,0,[],[],[]⟩∧r.2.1=false∧EndR s r.2.2 zSyn false)
theorem run_body(fuel:Nat)(cat:Int)(w:zKm)(r:zKr×Bool×zKm)(h:zCX fuel cat w=some r)(D:List Deferred):
 ∀y0 y1 y2:Code,Tryz.f42.body=some (.seq y0 (.seq y1 y2))->
  DWp Tryz.prog D y2 (Qend r) (mkS 22 3 [(0,.mptr 0 0),(1,.int .i64 cat),(4,.mptr 1 0),(5,.mptr 2 0)] [bP w,zSyn,[.bool false]]):=by
 intro y0 y1 y2 hy
 cases hy
 rw[zCX] at h
 have cutD: ∀{x y:Code}{Q:Exit->AState->Prop}{s:AState}(n base:Nat)(live:List (Nat×AV))(blocks:List (List AV)),DWp Tryz.prog D x (cutK n base live blocks Q) s->DWp Tryz.prog D y Q (mkS n base live blocks)->DWp Tryz.prog D (.seq x y) Q s:=
  fun {x y Q s} n base live blocks h1 h2=>zJ0 fun F g a w hs hd=>wp_mono (h1 F g a w hs hd) fun e a' w' ⟨g',s',q1,q2,q3⟩=>⟨g',s',q1,q2,by
   cases e with
   |normal=>exact dwp_le h2 (zBe q3)
   |_=>exact q3⟩
 refine zJ0 ?_
 refine cutD 22 3 [(0,.mptr 0 0),(4,.mptr 1 0),(5,.mptr 2 0),(7,.int .i64 cat)] [bP w,zSyn,[.bool false]] ?_ ?_
 ·refine zE7 ?_
  simp[bP,zSyn]
 refine dwp_block ?_
 refine cutD 22 3 [(0,.mptr 0 0),(4,.mptr 1 0),(5,.mptr 2 0),(7,.int .i64 cat),(8,.bool (eqI cat 1))] [bP w,zSyn,[.bool false]] ?_ ?_
 ·refine zE7 ?_
  simp[bP,zSyn]
 rcases sp h with ⟨c1,h⟩|⟨c1,h⟩
 ·refine zHz (b:=eqI cat 1) rfl (fun _=>?_) (fun c=>absurd (c1.symm.trans c) (by simp))
  rw[zBC] at h
  obtain⟨v,q,h⟩:=bs h
  rcases v with e|v
  ·replace h:=zDB h
   obtain rfl:=oi h
   refine zJ0 (zFH 1 ?_)
   simp
   have r1:=(panL (zDN fuel w (.inl e) q)).frame [0] [bP w,zSyn,[.bool false]] (by simp[bP,zSyn])
   simp at r1
   refine⟨_,_,r1,?_⟩
   show Qend _ (.panic _) _
   refine .inr ⟨rfl,rfl,rfl,?_⟩
   simp[EndR,bP,zSyn]
  replace h:=zCP h
  obtain rfl:=oi h
  refine cutD 22 3 [(4,.mptr 1 0),(5,.mptr 2 0)] [bP v.2,[.int .i64 v.1.Op,.int .i64 v.1.N,.str v.1.S,.sl (v.1.Names.map cS),.sl (v.1.L.map zKr.c)],[.bool true]] (zE7 ?_) (dwp_ret ?_)
  ·simp
   have r1:=(panR (zDN fuel w (.inr v) q)).frame [0] [bP w,zSyn,[.bool false]] (by simp[bP,zSyn])
   simp at r1
   refine zAK r1 (by simp) rfl ?_
   simp[bP,zSyn]
  show Qend _ .ret _
  refine .inl ⟨rfl,rfl,?_⟩
  simp[EndR,bP]
 refine zHz (b:=eqI cat 1) rfl (fun c=>absurd (c1.symm.trans c) (by simp)) (fun _=>?_)
 refine cutD 22 3 [(0,.mptr 0 0),(4,.mptr 1 0),(5,.mptr 2 0),(7,.int .i64 cat),(12,.bool (eqI cat 2))] [bP w,zSyn,[.bool false]] ?_ ?_
 ·refine zE7 ?_
  simp[bP,zSyn]
 rcases sp h with ⟨c2,h⟩|⟨c2,h⟩
 ·refine zHz (b:=eqI cat 2) rfl (fun _=>?_) (fun c=>absurd (c2.symm.trans c) (by simp))
  rw[zBC] at h
  obtain⟨v,q,h⟩:=bs h
  rcases v with e|v
  ·replace h:=zDB h
   obtain rfl:=oi h
   refine zJ0 (zFH 1 ?_)
   simp
   have r1:=(panL (zCk fuel w (.inl e) q)).frame [0] [bP w,zSyn,[.bool false]] (by simp[bP,zSyn])
   simp at r1
   refine⟨_,_,r1,?_⟩
   show Qend _ (.panic _) _
   refine .inr ⟨rfl,rfl,rfl,?_⟩
   simp[EndR,bP,zSyn]
  replace h:=zCP h
  obtain rfl:=oi h
  refine cutD 22 3 [(4,.mptr 1 0),(5,.mptr 2 0)] [bP v.2,[.int .i64 v.1.Op,.int .i64 v.1.N,.str v.1.S,.sl (v.1.Names.map cS),.sl (v.1.L.map zKr.c)],[.bool true]] (zE7 ?_) (dwp_ret ?_)
  ·simp
   have r1:=(panR (zCk fuel w (.inr v) q)).frame [0] [bP w,zSyn,[.bool false]] (by simp[bP,zSyn])
   simp at r1
   refine zAK r1 (by simp) rfl ?_
   simp[bP,zSyn]
  show Qend _ .ret _
  refine .inl ⟨rfl,rfl,?_⟩
  simp[EndR,bP]
 refine zHz (b:=eqI cat 2) rfl (fun c=>absurd (c2.symm.trans c) (by simp)) (fun _=>?_)
 refine cutD 22 3 [(0,.mptr 0 0),(4,.mptr 1 0),(5,.mptr 2 0),(16,.bool (eqI cat (-1)))] [bP w,zSyn,[.bool false]] ?_ ?_
 ·refine zE7 ?_
  simp[bP,zSyn]
 rcases sp h with ⟨c3,h⟩|⟨c3,h⟩
 ·refine zHz (b:=eqI cat (-1)) rfl (fun _=>?_) (fun c=>absurd (c3.symm.trans c) (by simp))
  rw[zBC] at h
  obtain⟨v,q,h⟩:=bs h
  rcases v with e|v
  ·replace h:=zDB h
   obtain rfl:=oi h
   refine zJ0 (zFH 1 ?_)
   simp
   have r1:=(panL (zEa fuel w (.inl e) q)).frame [0] [bP w,zSyn,[.bool false]] (by simp[bP,zSyn])
   simp at r1
   refine⟨_,_,r1,?_⟩
   show Qend _ (.panic _) _
   refine .inr ⟨rfl,rfl,rfl,?_⟩
   simp[EndR,bP,zSyn]
  replace h:=zCP h
  obtain rfl:=oi h
  refine cutD 22 3 [(4,.mptr 1 0),(5,.mptr 2 0)] [bP v.2,[.int .i64 v.1.Op,.int .i64 v.1.N,.str v.1.S,.sl (v.1.Names.map cS),.sl (v.1.L.map zKr.c)],[.bool true]] (zE7 ?_) (dwp_ret ?_)
  ·simp
   have r1:=(panR (zEa fuel w (.inr v) q)).frame [0] [bP w,zSyn,[.bool false]] (by simp[bP,zSyn])
   simp at r1
   refine zAK r1 (by simp) rfl ?_
   simp[bP,zSyn]
  show Qend _ .ret _
  refine .inl ⟨rfl,rfl,?_⟩
  simp[EndR,bP]
 refine zHz (b:=eqI cat (-1)) rfl (fun c=>absurd (c3.symm.trans c) (by simp)) (fun _=>?_)
 refine dwp_skip ?_
 show DWp _ _ _ _ _
 rw[zBC] at h
 obtain⟨v,q,h⟩:=bs h
 rcases v with e|v
 ·replace h:=zDB h
  obtain rfl:=oi h
  refine zJ0 (zFH 1 ?_)
  simp
  have r1:=(panL (zEZ fuel w (.inl e) q)).frame [0] [bP w,zSyn,[.bool false]] (by simp[bP,zSyn])
  simp at r1
  refine⟨_,_,r1,?_⟩
  show Qend _ (.panic _) _
  refine .inr ⟨rfl,rfl,rfl,?_⟩
  simp[EndR,bP,zSyn]
 replace h:=zCP h
 obtain rfl:=oi h
 refine cutD 22 3 [(4,.mptr 1 0),(5,.mptr 2 0)] [bP v.2,[.int .i64 v.1.Op,.int .i64 v.1.N,.str v.1.S,.sl (v.1.Names.map cS),.sl (v.1.L.map zKr.c)],[.bool true]] (zE7 ?_) (dwp_ret ?_)
 ·simp
  have r1:=(panR (zEZ fuel w (.inr v) q)).frame [0] [bP w,zSyn,[.bool false]] (by simp[bP,zSyn])
  simp at r1
  refine zAK r1 (by simp) rfl ?_
  simp[bP,zSyn]
 show Qend _ .ret _
 refine .inl ⟨rfl,rfl,?_⟩
 simp[EndR,bP]
theorem left_of'{g:Gh}{s:AState}{a:Act}{w0 w:World}{g0:Gh}{bs:List (List AV)}(h:Sim ⟨w0,g0⟩ g s a w)(he:EndB s bs): ∃g',Sto g' bs w∧Ext ⟨w0,g0⟩ g' w∧(∀t,g'.own (.tmp t)=none)∧g'.imm=g.imm:=by
 obtain⟨g2,h5,h6,h7⟩:=h.le' he.le
 refine⟨{g2 with own:=fun p=>match p with|.tmp _=>none|q=>g2.own q},h5.callee,?_,fun t=>rfl,h6⟩
 exact {h5.ext with
  imm:=h5.ext.imm
  immNew:=h5.ext.immNew
  mineσ:=h5.ext.mineσ
  mineOwn:=fun p k hk=>by
   cases p with
   |tmp t=>cases hk
   |cell b o=>exact h5.ext.mineOwn _ k hk}
theorem wpList_defer{P:Program}{o0 o1:Oper}{ops:Array Oper}{Q:Exit->Act->World->Prop}{a:Act}{w:World}{d0 f x4 x5:Nat}{ts:Array TypeId}(h0:o0.op=.makeFunc (.func f) #[] #[.tmp x4,.tmp x5])(e0:o0.dst=some d0)(g0:o0.guard=none)
 (h1:o1.op=.defer {callee:=.value (.tmp d0),args:=#[],argTypes:=ts}) (e1:o1.dst=none) (g1:o1.guard=none) (hd:d0<a.tmps.size)
 (hQ:Q .normal {(a.put (some d0) (.func (.func f) #[] #[a.tmps.getD x4 undef,a.tmps.getD x5 undef])) with defers:={target:=.fn (.func f) #[a.tmps.getD x4 undef,a.tmps.getD x5 undef],args:=#[]}::a.defers} w):wpList P ops Q [o0,o1] a w:=by
 generalize hfv:(Value.func (.func f) #[] #[a.tmps.getD x4 undef,a.tmps.getD x5 undef])=fv at hQ
 have r0:(execOp a.eval o0).run P w=.ok (.value fv) w:=by subst hfv;simp[execOp,h0,Act.eval,Instr.makeFunc]
 have hg:((a.put (some d0) fv).tmps.getD d0 undef)=fv:=by
  simp only[Act.put]
  rw[zDR,if_pos ⟨rfl,hd⟩]
 have r1:(execOp (a.put (some d0) fv).eval o1).run P w=.ok (.defer {target:=.fn (.func f) #[a.tmps.getD x4 undef,a.tmps.getD x5 undef],args:=#[]}) w:=by
  have:(a.put (some d0) fv).eval (.tmp d0)=fv:=hg
  subst hfv
  simp only[execOp,h1,Sem.run_bind,resolve,this,Deferred.ofValue,Sem.run_pure,Result.andThen_ok]
  simp
 unfold wpList
 rw[if_pos (by simp[Region.wanted,g0])]
 refine .inl ?_
 simp only[Oper.wp,r0,Oper.upon,e0]
 unfold wpList
 rw[if_pos (by simp[Region.wanted,g1])]
 refine .inl ?_
 simp only[Oper.wp,r1,Oper.upon,e1]
 unfold wpList
 exact hQ
theorem zGA(fuel:Nat)(cat1:Int)(w2:zKm)(r:zKr×Bool×zKm)(h:zCX fuel cat1 w2=some r):
 Raw Tryz.prog 42 [.mptr 0 0,.int .i64 cat1] [[.sl (w2.l.map zKp.c),.int .i64 w2.at_]] (.tup [.agg [.int .i64 r.1.Op,.int .i64 r.1.N,.str r.1.S,.sl (r.1.Names.map cS),.sl (r.1.L.map zKr.c)],.bool r.2.1]) [[.sl (r.2.2.l.map zKp.c),.int .i64 r.2.2.at_]]:=by
 refine⟨⟨Tryz.f42,Tryz.func42,by rfl,by rfl⟩,fun g w0 vals hs h0 htg ha=>calls_of_wp_defers Tryz.func42 (by rfl) ?_⟩
 have sim0:=zIO (n:=22) hs h0 ha (by simp) (by simp) htg
 have hA0: ∀y0 y',Tryz.f42.body=some (.seq y0 y')->AWp Tryz.prog y0 (fun e s=>e=.normal∧LeB s 22 1 [(0,.mptr 0 0),(1,.int .i64 cat1),(4,.mptr 1 0),(5,.mptr 2 0)] [bP w2,zSyn,[.bool false]])
  (Go.Abs.start 22 1 [.mptr 0 0,.int .i64 cat1] [[.sl (w2.l.map zKp.c),.int .i64 w2.at_]]):=by
  intro y0 y' hy
  cases hy
  refine st ?_
  simp[bP,zSyn]
 refine wp_seq (wp_mono (hA0 _ _ rfl _ _ _ _ sim0) fun e a1 w1 ⟨g1,s1,h1,h2,h3⟩=>?_)
 subst h2
 obtain⟨g2,sim1⟩:=h1.le (zBe h3)
 have hz1:(22:Nat)=a1.tmps.size:=sim1.size
 show Code.wp _ _ _ _ _
 refine wp_seq (wp_region_list (wpList_defer rfl rfl rfl rfl rfl rfl (by omega) ?_))
 show Code.wp _ _ _ _ _
 generalize hv4:a1.tmps.getD 4 undef=v4
 generalize hv5:a1.tmps.getD 5 undef=v5
 have had:a1.defers=[]:=sim1.defers
 generalize hgS:({g2 with own:=fun p=>match p with|.tmp _=>none|q=>g2.own q}:Gh)=gS
 have hsto:Sto gS [bP w2,zSyn,[.bool false]] w1:=by rw[<-hgS];exact sim1.callee
 have hTG:TG gS w1:=by rw[<-hgS];exact sim1.ext.tg.callee
 have hown: ∀t,gS.own (.tmp t)=none:=fun t=>by rw[<-hgS]
 have himm:gS.imm=g2.imm:=by rw[<-hgS]
 have hσ:gS.σ=g2.σ:=by rw[<-hgS]
 have hp4:Rep gS.imm gS.σ (.mptr 1 0) v4:=by have:=(sim1.tmps 4).1;rw[hv4] at this;rw[himm,hσ];exact this
 have hp5:Rep gS.imm gS.σ (.mptr 2 0) v5:=by have:=(sim1.tmps 5).1;rw[hv5] at this;rw[himm,hσ];exact this
 have sim2:Sim ⟨w1,gS⟩ gS (mkS 22 3 [(0,.mptr 0 0),(1,.int .i64 cat1),(4,.mptr 1 0),(5,.mptr 2 0)] [bP w2,zSyn,[.bool false]])
  {a1.put (some 6) (.func (.func 72) #[] #[v4,v5]) with defers:=[]} w1:={
  ext:=Ext.refl' w1 gS (fun k hk=>hsto.σ_lt hk) hown hTG
  sto:=hsto
  size:=by show 22=(a1.tmps.setIfInBounds 6 _).size;rw[Array.size_setIfInBounds];exact hz1
  tmps:=fun t=>by
   have hr:Rep gS.imm gS.σ (lookD [(0,.mptr 0 0),(1,.int .i64 cat1),(4,.mptr 1 0),(5,.mptr 2 0)] t) ((a1.tmps.setIfInBounds 6 (.func (.func 72) #[] #[v4,v5])).getD t undef):=by
    rw[zDR]
    split
    ·rename_i ht
     obtain⟨rfl,_⟩:=ht
     exact .top _
    ·rw[himm,hσ];exact(sim1.tmps t).1
   refine⟨hr,OwnsBy.of_not ?_⟩
   show(lookD [(0,.mptr 0 0),(1,.int .i64 cat1),(4,.mptr 1 0),(5,.mptr 2 0)] t).owns=false
   simp only[lookD]
   repeat' split
   all_goals rfl
  loans:=fun t p hp=>by cases hp
  defers:=rfl
  base:=by show gS.σ.length<=3;rw[hsto.len];exact Nat.le_refl _}
 refine wp_mono (run_body fuel cat1 w2 r h _ _ _ _ rfl ⟨w1,gS⟩ gS {a1.put (some 6) (.func (.func 72) #[] #[v4,v5]) with defers:={target:=.fn (.func 72) #[v4,v5],args:=#[]}::a1.defers} w1 sim2 rfl) fun e a4 w4 ⟨g4,s4,sim4,hd4,hq⟩=>?_
 have fin: ∀(u u':FrameMode)(x x':List AV)(b b':Bool),u≠.run->EndR s4 r.2.2 x b->leCells x' x'->
  (∀(g:Gh)(w:World)(vals:Array Value),Sto g [bP r.2.2,x,[.bool b]] w->(∀t,g.own (.tmp t)=none)->TG g w->RepL g.imm g.σ [.mptr 1 0,.mptr 2 0] vals->
   CallsD Tryz.prog 72 vals u w fun e u2 w'=> ∃v,e=.returned v∧u2=u'∧Left g w [bP r.2.2,x',[.bool b']] w')->settle u'=.returning->
  (∀(s:AState),s.get 4=.mptr 1 0->s.get 5=.mptr 2 0->s.blocks=[bP r.2.2,x',[.bool b']]->∃c xs,zFp Tryz.prog s Tryz.f42.results.toList=some (c,xs)∧c∧(oneOf xs).normR=.tup [.agg [.int .i64 r.1.Op,.int .i64 r.1.N,.str r.1.S,.sl (r.1.Names.map cS),.sl (r.1.L.map zKr.c)],.bool r.2.1])->
  Leaves Tryz.prog Tryz.f42 a4.tmps (fun e w'=> ∃g' v,e=.returned v∧Rep g'.imm g'.σ (.tup [.agg [.int .i64 r.1.Op,.int .i64 r.1.N,.str r.1.S,.sl (r.1.Names.map cS),.sl (r.1.L.map zKr.c)],.bool r.2.1]) v∧Sto g' [[.sl (r.2.2.l.map zKp.c),.int .i64 r.2.2.at_]] w'∧Ext ⟨w0,g⟩ g' w'∧(∀t,g'.own (.tmp t)=none)) a4.defers u w4:=by
  intro u u' x x' b b' hu hend hx5 hcl hset hres
  obtain⟨g5,sim5⟩:=sim4.le (zBe hend)
  have hext:=sim5.ext.σ
  have hk4:Rep g5.imm g5.σ (.mptr 1 0) v4:=by cases hp4 with|mptr _ _ k hk=>exact .mptr _ _ k (hext _ _ hk)
  have hk5:Rep g5.imm g5.σ (.mptr 2 0) v5:=by cases hp5 with|mptr _ _ k hk=>exact .mptr _ _ k (hext _ _ hk)
  have hvals:RepL g5.imm g5.σ [.mptr 1 0,.mptr 2 0] #[v4,v5]:=⟨rfl,fun i y hy=>by
   match i,hy with
   |0,hy=>simp at hy;subst hy;exact hk4
   |1,hy=>simp at hy;subst hy;exact hk5⟩
  rw[hd4,had]
  refine leaves_cons hu (f:=72) (args:=#[v4,v5]) ?_ (CallsD.mono (hcl _ w4 #[v4,v5] sim5.callee (fun _=>rfl) sim5.ext.tg.callee hvals) fun e u2 w5 he=>?_)
  ·have hen:Abs.Enters Tryz.prog 72:=⟨Tryz.f72,Tryz.func72,by rfl,by rfl⟩
   simp[invoke,hen.run]
  obtain⟨v,rfl,rfl,g6,l1,l2,l3⟩:=he
  show Leaves _ _ _ _ [] (settle u2) w5
  rw[hset]
  have sim6:=sim5.after l3 l1 l2
  have key: ∀(S:AState)(gh:Gh),Sim ⟨w1,gS⟩ gh S {a4 with defers:=[]} w5->S.get 4=.mptr 1 0->S.get 5=.mptr 2 0->S.blocks=[bP r.2.2,x',[.bool b']]->
   ∃v',(results Tryz.f42 a4.tmps).run Tryz.prog w5=.ok v' w5∧Rep gh.imm gh.σ (.tup [.agg [.int .i64 r.1.Op,.int .i64 r.1.N,.str r.1.S,.sl (r.1.Names.map cS),.sl (r.1.L.map zKr.c)],.bool r.2.1]) v':=fun S gh hS q1 q2 q3=>by
   obtain⟨cc,xs,t1,t2,t3⟩:=hres S q1 q2 q3
   obtain⟨v',e1,e2⟩:=results_ok hS (fn:=Tryz.f42) t1 t2
   replace e2:=e2.normR
   rw[t3] at e2
   exact⟨v',e1,e2⟩
  obtain⟨v',e1,e2⟩:=key _ _ sim6 rfl rfl rfl
  refine⟨v',e1,?_⟩
  obtain⟨g7,m1,m2,m3,m4⟩:=left_of' sim6 (bs:=[bP r.2.2,x',[.bool b']]) (by simp[bP,hx5])
  have sim7:=sim1.after m3 m1 (by rw[<-hgS] at m2;exact m2)
  obtain⟨g9,n1,n2,n3,n4⟩:=left_of' sim7 (bs:=[[.sl (r.2.2.l.map zKp.c),.int .i64 r.2.2.at_]]) (by simp[bP])
  refine⟨g9,v',rfl,?_,n1,n2,n3⟩
  rw[n4]
  show Rep g7.imm _ _ _
  rw[m4]
  exact e2.flat rfl
 rcases hq with ⟨rfl,hb,hend⟩|⟨rfl,hx,hb,hend⟩
 ·refine fin .returning .returning _ _ true true (by simp) hend (by simp) (fun g w vals q1 q2 q3 q4=>run1_ret rfl q1 q2 q3 q4) rfl ?_
  intro s q1 q2 q3
  refine⟨True,[.agg [.int .i64 r.1.Op,.int .i64 r.1.N,.str r.1.S,.sl (r.1.Names.map cS),.sl (r.1.L.map zKr.c)],.bool true],by simp[zFp,zJB,q1,q2,q3],trivial,by simp[hb,oneOf]⟩
 ·refine fin (.panicking (pan1 112)) _ _ _ false false (by simp) hend (by simp[zSyn]) (fun g w vals q1 q2 q3 q4=>run1_pan rfl (by simp[bP]) (by simp[zSyn]) q1 q2 q3 q4) rfl ?_
  intro s q1 q2 q3
  refine⟨True,[.agg zSyn,.bool false],by simp[zFp,zJB,q1,q2,q3,zSyn],trivial,by simp[hb,hx,oneOf,zSyn]⟩
theorem zHo(fuel:Nat)(cat1:Int)(s2:(List UInt8))(r:zKr×zKq×Int)(h:zAb fuel cat1 s2=some r):Pure Tryz.prog 23 [iI cat1,.str s2] (.tup [.agg (zKr.d r.1),.agg [iI r.2.1.Line,iI r.2.1.Column],iI r.2.2]):=by
 rw[zAb] at h
 refine zAQ Tryz.func23 (by rfl) (by rfl) (by simp) (by simp) (by simp)<|cutA 64 0 [(0,iI cat1),(1,.str s2),(4,pT 0),(5,pT 1)] [zz0,zz2] ?_
 obtain⟨v3,q4,h⟩:=bs h
 refine cut 64 0 [(0,iI cat1),(4,pT 0),(5,pT 1),(7,.sl (v3.1.map zKp.c)),(8,pT 2),(9,iI v3.2.2)] [zz0,zz2,[iI v3.2.1.Line,iI v3.2.1.Column]] ?_ ?_
 ·refine st ?_
  simp
  have r35:=zJO fuel s2 v3 q4
  try simp at r35
  refine cP r35 ?_
  simp
 refine zAF<|cutA 64 0 [(0,iI cat1),(4,pT 0),(5,pT 1),(7,.sl (v3.1.map zKp.c)),(8,pT 2),(9,iI v3.2.2),(20,.bool (!(eqI v3.2.2 0)))] [zz0,zz2,[iI v3.2.1.Line,iI v3.2.1.Column]] ?_
 rcases sp h with ⟨g5,h⟩|⟨g5,h⟩
 ·have g6:=notT g5
  have c7:=eqF g6
  refine zBn rfl g5<|cut 64 0 [(4,pT 0),(5,pT 1),(6,iI v3.2.2)] [zz0,[iI v3.2.1.Line,iI v3.2.1.Column],[iI v3.2.1.Line,iI v3.2.1.Column]] ?_ ?_
  ·refine zBZ [0,1] [5] mixed (n:=64) rfl (by decide) (by decide) ?_
   simp
  refine zAA<|zAB ?_
  cases h
  simp
 have g8:=notF g5
 have c9:=eqT g8
 refine condF rfl g5<|zAC<|zAN<|cutA 64 0 [(0,iI cat1),(4,pT 0),(5,pT 1),(10,pT 3)] [zz0,zz2,[iI v3.2.1.Line,iI v3.2.1.Column],[.sl (v3.1.map zKp.c),iI 0]] ?_
 obtain⟨v10,q11,h⟩:=bs h
 refine cut 64 0 [(0,iI cat1),(4,pT 0),(5,pT 1),(10,pT 3),(11,pT 4),(12,.bool v10.2.1)] [zz0,zz2,[iI v3.2.1.Line,iI v3.2.1.Column],[.sl (v10.2.2.l.map zKp.c),iI v10.2.2.at_],(zKr.d v10.1)] ?_ ?_
 ·refine st ?_
  simp
  have r34:=(zGA fuel cat1 (zKm.mk v3.1 0) v10 q11).frame [3] [zz0,zz2,[iI v3.2.1.Line,iI v3.2.1.Column],[.sl (v3.1.map zKp.c),iI 0]] (by simp)
  try simp at r34
  refine zAK r34 (by simp) rfl ?_
  simp
 refine zAF<|zAP ?_
 obtain⟨b17,q18,h⟩:=bs h
 refine cut 64 0 [(0,iI cat1),(4,pT 0),(5,pT 1),(10,pT 3),(11,pT 4),(33,.bool b17)] [zz0,zz2,[iI v3.2.1.Line,iI v3.2.1.Column],[.sl (v10.2.2.l.map zKp.c),iI v10.2.2.at_],(zKr.d v10.1)] ?_ ?_
 ·rcases sp q18 with ⟨g12,q18⟩|⟨g12,q18⟩
  ·have g13:=notT g12
   obtain rfl:=oi q18
   refine st ?_
   simp[g12]
  have g14:=notF g12
  obtain⟨v15,q16,q18⟩:=bs q18
  obtain rfl:=oi q18
  refine st ?_
  simp[g12]
  have r33:=(zAX 8 v10.2.2 v15 q16).frame [3] [zz0,zz2,[iI v3.2.1.Line,iI v3.2.1.Column],[.sl (v10.2.2.l.map zKp.c),iI v10.2.2.at_],(zKr.d v10.1)] (by simp)
  try simp[g12] at r33
  refine zAK r33 (by simp[g12]) rfl ?_
  simp[g12]
 refine spc h rfl (fun g19 h=>?_) fun g19 h=>?_
 ·obtain⟨x20,q21,h⟩:=bs h
  obtain⟨q22,q23⟩:=zGj q21
  obtain⟨v24,q25,h⟩:=bs h
  refine cut 64 0 [(4,pT 0),(5,pT 1),(6,iI v24)] [zz0,[iI x20.At.Line,iI x20.At.Column],[iI v3.2.1.Line,iI v3.2.1.Column],[.sl (v10.2.2.l.map zKp.c),iI v10.2.2.at_],(zKr.d v10.1)] ?_ ?_
  ·refine zGt mixed 15 (fun L s=> ∃(pos:Nat->Nat) (bl:List (List AV)),NPos [] L pos bl∧s.n=64∧s.base=0∧(∀t,s.loans t=none)∧s.blocks=[(if L 14=true then [iI 0,iI 0,.str ([]:List UInt8),.nsl,.nsl] else zz0),zz2,[iI v3.2.1.Line,iI v3.2.1.Column],[.sl (v10.2.2.l.map zKp.c),iI v10.2.2.at_],(zKr.d v10.1)]++bl∧s.get 0=iI cat1∧s.get 4=pT 0∧s.get 5=pT 1∧s.get 10=pT 3∧s.get 11=pT 4∧s.get 33=.bool b17∧(L 0=true->s.get 41=.agg [iI 0,iI 0,.str ([]:List UInt8),.nsl,.nsl])∧(L 1=true->s.get 42=pT 3)∧(L 2=true->s.get 43=pT 3)∧(L 3=true->s.get 44=pT 3)∧(L 4=true->s.get 45=.sl (v10.2.2.l.map zKp.c))∧(L 5=true->s.get 46=pT 3)∧(L 6=true->s.get 47=pT 3)∧(L 7=true->s.get 48=.mptr 3 1)∧(L 8=true->s.get 49=iI v10.2.2.at_)∧(L 9=true->s.get 50=.cptr [iI x20.Kind,.str x20.Text,iI x20.At.Line,iI x20.At.Column])∧(L 10=true->s.get 51=.cptr [iI x20.At.Line,iI x20.At.Column])∧(L 11=true->s.get 52=.agg [iI x20.At.Line,iI x20.At.Column])∧(L 12=true->s.get 53=pT 3)∧(L 13=true->s.get 54=iI v24)∧(L 14=true->L 13=true)) (by decide) ⟨fun _=>0,[],NPos.start _ _,by simp⟩ ?_ ?_
   ·refine⟨?_,?_,?_,?_,?_,?_,?_,?_,?_,?_,?_,?_,?_,?_,?_,trivial⟩
    all_goals
     intro L s hL he hI
     obtain⟨pos,bl,hN,fn1,fn2,fn3,fn4,fw0,fw4,fw5,fw10,fw11,fw33,fv0,fv1,fv2,fv3,fv4,fv5,fv6,fv7,fv8,fv9,fv10,fv11,fv12,fv13,fc14⟩:=hI
     try simp[q22,q23] at fv0 fv1 fv2 fv3 fv4 fv5 fv6 fv7 fv8 fv9 fv10 fv11 fv12 fv13
    refine AStep.mono ?_ fun s' h=>⟨_,_,hN.skip (by simp),h⟩
    rotate_left
    refine AStep.mono ?_ fun s' h=>⟨_,_,hN.skip (by simp),h⟩
    rotate_left
    replace fv1:=fv1 ((zq8 he) 1 (by decide))
    refine AStep.mono ?_ fun s' h=>⟨_,_,hN.skip (by simp),h⟩
    rotate_left
    replace fv2:=fv2 ((zq8 he) 2 (by decide))
    refine AStep.mono ?_ fun s' h=>⟨_,_,hN.skip (by simp),h⟩
    rotate_left
    replace fv3:=fv3 ((zq8 he) 3 (by decide))
    refine AStep.mono ?_ fun s' h=>⟨_,_,hN.skip (by simp),h⟩
    rotate_left
    refine AStep.mono ?_ fun s' h=>⟨_,_,hN.skip (by simp),h⟩
    rotate_left
    replace fv5:=fv5 ((zq8 he) 5 (by decide))
    refine AStep.mono ?_ fun s' h=>⟨_,_,hN.skip (by simp),h⟩
    rotate_left
    replace fv6:=fv6 ((zq8 he) 6 (by decide))
    refine AStep.mono ?_ fun s' h=>⟨_,_,hN.skip (by simp),h⟩
    rotate_left
    replace fv7:=fv7 ((zq8 he) 7 (by decide))
    refine AStep.mono ?_ fun s' h=>⟨_,_,hN.skip (by simp),h⟩
    rotate_left
    replace fv4:=fv4 ((zq8 he) 4 (by decide))
    replace fv8:=fv8 ((zq8 he) 8 (by decide))
    refine AStep.mono ?_ fun s' h=>⟨_,_,hN.skip (by simp),h⟩
    rotate_left
    replace fv9:=fv9 ((zq8 he) 9 (by decide))
    refine AStep.mono ?_ fun s' h=>⟨_,_,hN.skip (by simp),h⟩
    rotate_left
    replace fv10:=fv10 ((zq8 he) 10 (by decide))
    refine AStep.mono ?_ fun s' h=>⟨_,_,hN.skip (by simp),h⟩
    rotate_left
    refine AStep.mono ?_ fun s' h=>⟨_,_,hN.skip (by simp),h⟩
    rotate_left
    replace fv12:=fv12 ((zq8 he) 12 (by decide))
    have hL:L 13=false:=hL
    have fh14:L 14=false:=by cases hh:L 14 with|false=>rfl|true=>have:=fc14 hh;simp[hL] at this
    obtain rfl:bl=[]:=List.eq_nil_of_length_eq_zero (by simpa using hN.len)
    refine AStep.mono ?_ fun s' h=>⟨_,_,hN.skip (by simp),h⟩
    simp[fn1,fn2,fn3,fn4,fw0,fw4,fw5,fw10,fw11,fw33,fv0,fv1,fv2,fv3,fv4,fv5,fv6,fv7,fv8,fv9,fv10,fv11,fv12,fv13,q22,q23,fh14,hL]
    have r26:=(zFX v10.2.2 v24 q25).frame [3] [zz0,zz2,[iI v3.2.1.Line,iI v3.2.1.Column],[.sl (v10.2.2.l.map zKp.c),iI v10.2.2.at_],(zKr.d v10.1)] (by simp)
    try simp[q22,q23] at r26
    refine zAK r26 (by simp[fn1,fn2,fn3,fn4,fw0,fw4,fw5,fw10,fw11,fw33,fv0,fv1,fv2,fv3,fv4,fv5,fv6,fv7,fv8,fv9,fv10,fv11,fv12,fv13,q22,q23,fh14,hL]) rfl ?_
    simp[fn1,fn2,fn3,fn4,fw0,fw4,fw5,fw10,fw11,fw33,fv0,fv1,fv2,fv3,fv4,fv5,fv6,fv7,fv8,fv9,fv10,fv11,fv12,fv13,q22,q23,fh14,hL]
    rotate_left
    replace fv0:=fv0 ((zq8 he) 0 (by decide))
    replace fv13:=fv13 ((zq8 he) 13 (by decide))
    have hL:L 14=false:=hL
    refine AStep.mono ?_ fun s' h=>⟨_,_,hN.skip (by simp),h⟩
    simp[fn1,fn2,fn3,fn4,fw0,fw4,fw5,fw10,fw11,fw33,fv0,fv1,fv2,fv3,fv4,fv5,fv6,fv7,fv8,fv9,fv10,fv11,fv12,fv13,q22,q23,hL]
    rotate_left
    all_goals try simp[fn1,fn2,fn3,fn4,fw0,fw4,fw5,fw10,fw11,fw33,fv0,fv1,fv2,fv3,fv4,fv5,fv6,fv7,fv8,fv9,fv10,fv11,fv12,fv13,q22,q23]
    all_goals repeat' (first|exact fv0|exact fv1|exact fv2|exact fv3|exact fv4|exact fv5|exact fv6|exact fv7|exact fv8|exact fv9|exact fv10|exact fv11|exact fv12|exact fv13|exact fc14|exact fun h=>absurd (fc14 h) (by simp[hL])|exact(zq8 he) 0 (by decide)|exact(zq8 he) 1 (by decide)|exact(zq8 he) 2 (by decide)|exact(zq8 he) 3 (by decide)|exact(zq8 he) 4 (by decide)|exact(zq8 he) 5 (by decide)|exact(zq8 he) 6 (by decide)|exact(zq8 he) 7 (by decide)|exact(zq8 he) 8 (by decide)|exact(zq8 he) 9 (by decide)|exact(zq8 he) 10 (by decide)|exact(zq8 he) 12 (by decide)|exact(zq8 he) 13 (by decide)|refine⟨?_,?_⟩)
   ·rintro L s hall ⟨pos,bl,hN,fn1,fn2,fn3,fn4,fw0,fw4,fw5,fw10,fw11,fw33,fv0,fv1,fv2,fv3,fv4,fv5,fv6,fv7,fv8,fv9,fv10,fv11,fv12,fv13,fc14⟩
    try simp[q22,q23] at fv0 fv1 fv2 fv3 fv4 fv5 fv6 fv7 fv8 fv9 fv10 fv11 fv12 fv13
    replace fv0:=fv0 (hall 0 (by decide))
    replace fv1:=fv1 (hall 1 (by decide))
    replace fv2:=fv2 (hall 2 (by decide))
    replace fv3:=fv3 (hall 3 (by decide))
    replace fv4:=fv4 (hall 4 (by decide))
    replace fv5:=fv5 (hall 5 (by decide))
    replace fv6:=fv6 (hall 6 (by decide))
    replace fv7:=fv7 (hall 7 (by decide))
    replace fv8:=fv8 (hall 8 (by decide))
    replace fv9:=fv9 (hall 9 (by decide))
    replace fv10:=fv10 (hall 10 (by decide))
    replace fv11:=fv11 (hall 11 (by decide))
    replace fv12:=fv12 (hall 12 (by decide))
    replace fv13:=fv13 (hall 13 (by decide))
    simp only[hall 14 (by decide),if_true] at fn4
    obtain⟨f,hf,hk,hg⟩:=hN.ghost (by simp) (by simp) fn4 (by simp[fn2])
    simp at hf
    refine⟨_,hg,?_⟩
    simp[AV.ren,AV.renL,hf,fn1,fn2,fn3,fn4,fw0,fw4,fw5,fw10,fw11,fw33,fv0,fv1,fv2,fv3,fv4,fv5,fv6,fv7,fv8,fv9,fv10,fv11,fv12,fv13,q22,q23]
  refine zAA<|zAD<|zAB ?_
  cases h
  simp
 obtain⟨v27,q28,h⟩:=bs h
 refine cut 64 0 [(4,pT 0),(5,pT 1),(11,pT 4),(55,.bool (!v27))] [zz0,zz2,[iI v3.2.1.Line,iI v3.2.1.Column],[.sl (v10.2.2.l.map zKp.c),iI v10.2.2.at_],(zKr.d v10.1)] ?_ ?_
 ·refine st ?_
  simp
  have r32:=zJJ fuel cat1 v10.1 v27 q28
  try simp at r32
  refine cP r32 ?_
  simp
 refine spc h rfl (fun g29 h=>?_) fun g29 h=>?_
 ·have g30:=notT g29
  refine cutA 64 0 [(4,pT 0),(5,pT 1),(6,iI 5)] [zz0,zz2,[iI v3.2.1.Line,iI v3.2.1.Column],[.sl (v10.2.2.l.map zKp.c),iI v10.2.2.at_],(zKr.d v10.1)]<|zAA<|zAD<|zAB ?_
  cases h
  simp
 have g31:=notF g29
 refine zAC<|zDb<|zAN<|cutA 64 0 [(4,pT 0),(5,pT 1),(6,iI 0)] [(zKr.d v10.1),zz2,[iI v3.2.1.Line,iI v3.2.1.Column],[.sl (v10.2.2.l.map zKp.c),iI v10.2.2.at_],(zKr.d v10.1)]<|zAA ?_
 cases h
 simp
theorem zCF(fuel:Nat)(s1:(List UInt8))(r:zKr×zKq×Int)(h:zAZ fuel s1=some r):Pure Tryz.prog 7 [.str s1] (.tup [.agg (zKr.d r.1),.agg [iI r.2.1.Line,iI r.2.1.Column],iI r.2.2]):=by
 rw[zAZ] at h
 refine zAQ Tryz.func7 (by rfl) (by rfl) (by simp) (by simp) (by simp)<|cutA 10 0 [(0,.str s1),(2,pT 0),(3,pT 1)] [zz0,zz2] ?_
 obtain⟨v2,q3,h⟩:=bs h
 refine cut 10 0 [(2,pT 0),(3,pT 1),(4,iI v2.2.2)] [(zKr.d v2.1),[iI v2.2.1.Line,iI v2.2.1.Column]] ?_ ?_
 ·refine st ?_
  simp
  have r4:=zHo fuel 3 s1 v2 q3
  try simp at r4
  refine cP r4 ?_
  simp
 refine zAA ?_
 cases h
 simp
theorem zKU(fuel:Nat)(r:Bool)(h:zFf fuel=some r):Pure Tryz.prog 6 [] (.bool r):=by
 rw[zFf] at h
 refine zAQ Tryz.func6 (by rfl) (by rfl) (by simp) (by simp) (by simp)<|cutA 77 0 [] [] ?_
 obtain⟨v1,q2,h⟩:=bs h
 refine cut 77 0 [(1,pT 0),(3,iI v1.2.2)] [(zKr.d v1.1),[iI v1.2.1.Line,iI v1.2.1.Column]] ?_ ?_
 ·refine st ?_
  simp
  have r38:=zCF fuel [49,32,43,32,50,32,42,32,120] v1 q2
  try simp at r38
  refine cP r38 ?_
  simp
 obtain⟨v3,q4,h⟩:=bs h
 refine cut 77 0 [(1,pT 0),(3,iI v1.2.2),(5,pT 3),(6,iI v3.2.2)] [(zKr.d v1.1),[iI v1.2.1.Line,iI v1.2.1.Column],(zKr.d v3.1),[iI v3.2.1.Line,iI v3.2.1.Column]] ?_ ?_
 ·refine st ?_
  simp
  have r37:=zCF fuel [97,32,61,32,98,32,61,32,99] v3 q4
  try simp at r37
  refine cP r37 ?_
  simp
 obtain⟨v5,q6,h⟩:=bs h
 refine cut 77 0 [(1,pT 0),(3,iI v1.2.2),(5,pT 3),(6,iI v3.2.2),(8,pT 5),(9,iI v5.2.2)] [(zKr.d v1.1),[iI v1.2.1.Line,iI v1.2.1.Column],(zKr.d v3.1),[iI v3.2.1.Line,iI v3.2.1.Column],(zKr.d v5.1),[iI v5.2.1.Line,iI v5.2.1.Column]] ?_ ?_
 ·refine st ?_
  simp
  have r36:=zCF fuel [105,102,32,97,32,116,104,101,110,32,98] v5 q6
  try simp at r36
  refine cP r36 ?_
  simp
 obtain⟨b34,q35,h⟩:=bs h
 refine cut 77 0 [(0,.bool b34)] [(zKr.d v1.1),[iI v1.2.1.Line,iI v1.2.1.Column],(zKr.d v3.1),[iI v3.2.1.Line,iI v3.2.1.Column],(zKr.d v5.1),[iI v5.2.1.Line,iI v5.2.1.Column]] ?_ ?_
 ·rcases sp q35 with ⟨g7,q35⟩|⟨g7,q35⟩
  ·have c8:=eqT g7
   rcases sp q35 with ⟨g9,q35⟩|⟨g9,q35⟩
   ·have c10:=eqT g9
    rcases sp q35 with ⟨g11,q35⟩|⟨g11,q35⟩
    ·have c12:=eqT g11
     rcases sp q35 with ⟨g13,q35⟩|⟨g13,q35⟩
     ·have c14:=eqT g13
      obtain⟨x15,q16,q35⟩:=bs q35
      rcases sp q35 with ⟨g17,q35⟩|⟨g17,q35⟩
      ·have c18:=eqT g17
       rcases sp q35 with ⟨g19,q35⟩|⟨g19,q35⟩
       ·have c20:=eqT g19
        rcases sp q35 with ⟨g21,q35⟩|⟨g21,q35⟩
        ·have c22:=eqT g21
         rcases sp q35 with ⟨g23,q35⟩|⟨g23,q35⟩
         ·rcases sp q35 with ⟨g24,q35⟩|⟨g24,q35⟩
          ·have c25:=eqT g24
           obtain rfl:=oi q35
           refine st ?_
           simp[g7,g9,g11,g13,q16,g17,g19,g21,g23,g24]
          have c26:=eqF g24
          obtain rfl:=oi q35
          refine st ?_
          simp[g7,g9,g11,g13,q16,g17,g19,g21,g23,g24]
         obtain rfl:=oi q35
         refine st ?_
         simp[g7,g9,g11,g13,q16,g17,g19,g21,g23]
        have c27:=eqF g21
        obtain rfl:=oi q35
        refine st ?_
        simp[g7,g9,g11,g13,q16,g17,g19,g21]
       have c28:=eqF g19
       obtain rfl:=oi q35
       refine st ?_
       simp[g7,g9,g11,g13,q16,g17,g19]
      have c29:=eqF g17
      obtain rfl:=oi q35
      refine st ?_
      simp[g7,g9,g11,g13,q16,g17]
     have c30:=eqF g13
     obtain rfl:=oi q35
     refine st ?_
     simp[g7,g9,g11,g13]
    have c31:=eqF g11
    obtain rfl:=oi q35
    refine st ?_
    simp[g7,g9,g11]
   have c32:=eqF g9
   obtain rfl:=oi q35
   refine st ?_
   simp[g7,g9]
  have c33:=eqF g7
  obtain rfl:=oi q35
  refine st ?_
  simp[g7]
 refine zAA ?_
 cases h
 simp
theorem zEO(fuel:Nat):(∀(t1:zKr)(r:Int)(_:zBt fuel t1=some r),Pure Tryz.prog 8 [.agg t1.d] (iI r)):=by
 induction fuel with
 |zero=>intro t1 r h;rw[zBt] at h;cases h
 |succ fuel ih_ref03_Size=>
  intro t1 r h
  rw[zBt] at h
  refine zAQ Tryz.func8 (by rfl) (by rfl) (by simp) (by simp) (by simp)<|cutA 21 0 [(1,pT 0)] [t1.d]<|cutA 21 0 [(1,pT 0),(3,iI 1)] [t1.d]<|zAF<|cutA 21 0 [(1,pT 0),(3,iI 1),(4,iI 0)] [t1.d]<|zAP ?_
  obtain⟨o4,l5,h⟩:=bs h
  refine zCd (fun p:Nat×Int×Nat=>mkS 21 0 [(1,pT 0),(3,iI p.2.1),(4,iI p.2.2)] [t1.d]) (fun p=>zDG (zBt fuel) t1 p.1 p.2.1 p.2.2=some o4) (fun p=>p.1) (fuel,1,0) l5 (zBe (by simp)) ?_
  rintro⟨k6,n2,i3⟩ l5
  try dsimp only at l5 ⊢
  cases k6 with
  |zero=>
   rw[zDG] at l5;cases l5
  |succ k7=>
   rw[zDG] at l5
   refine zAF<|cutA 21 0 [(1,pT 0),(3,iI n2),(4,iI i3),(9,.bool (ltI i3 t1.L.length))] [t1.d]<|spc l5 rfl (fun g8 l5=>?_) fun g8 l5=>?_
   ·have c9:=ltT g8
    refine zGB 0 4 rfl rfl rfl fun f10=>?_
    rw[zq4] at f10
    refine zAC<|zAN<|zAF<|zAP ?_
    obtain⟨x11,q12,l5⟩:=bs l5
    obtain⟨v13,q14,l5⟩:=bs l5
    obtain⟨n15,q16,l5⟩:=bs l5
    obtain⟨q17,q18⟩:=zEi q16
    try simp at q17
    try simp at q18
    have c19:=q17;simp only[Rng,inR] at c19
    refine last 21 0 [(1,pT 0),(3,iI n15),(4,iI i3)] [t1.d] ?_ fun zz hs=>?_
    ·refine st ?_
     simp[q12,q17,q18]
     have r21:=ih_ref03_Size x11 v13 q14
     try simp[q12,q17,q18] at r21
     refine cP r21 ?_
     simp[q12,q17,q18]
    refine zDb<|zDI ?_ hs
    have q20:Rng .i64 (((i3:Nat):Int)+1):=by simp only[Rng,inR];omega
    try simp at q20
    refine last 21 0 [(1,pT 0),(3,iI n15),(4,iI ((i3+1:Nat):Int))] [t1.d] (st (by simp[q20])) fun zz hs=>?_
    exact⟨(k7,n15,i3+1),hs,l5,by simp⟩
   have c22:=ltF g8
   refine zGB 0 4 rfl rfl rfl fun f23=>?_
   rw[zq4] at f23
   refine zBv<|zAm ?_
   have q24:=zqa l5
   have q24:=q24.symm
   refine zAm<|zBu<|zDI (t:=mkS 21 0 [(3,iI o4)] [t1.d]) ?_ (zBe (by simp[q24]))
   refine cutA 21 0 [(2,iI o4)] [t1.d]<|zAA ?_
   cases h
   simp
theorem zFy(fuel:Nat):(∀(t1:zKr)(r:Int)(_:zBd fuel t1=some r),Pure Tryz.prog 9 [.agg t1.d] (iI r)):=by
 induction fuel with
 |zero=>intro t1 r h;rw[zBd] at h;cases h
 |succ fuel zKY=>
  intro t1 r h
  rw[zBd] at h
  refine zAQ Tryz.func9 (by rfl) (by rfl) (by simp) (by simp) (by simp)<|cutA 22 0 [(1,pT 0)] [t1.d]<|cutA 22 0 [(1,pT 0),(3,iI 0)] [t1.d]<|zAF<|cutA 22 0 [(1,pT 0),(3,iI 0),(4,iI 0)] [t1.d]<|zAP ?_
  obtain⟨o4,l5,h⟩:=bs h
  refine zCd (fun p:Nat×Int×Nat=>mkS 22 0 [(1,pT 0),(3,iI p.2.1),(4,iI p.2.2)] [t1.d]) (fun p=>zCy (zBd fuel) t1 p.1 p.2.1 p.2.2=some o4) (fun p=>p.1) (fuel,0,0) l5 (zBe (by simp)) ?_
  rintro⟨k6,n2,i3⟩ l5
  try dsimp only at l5 ⊢
  cases k6 with
  |zero=>
   rw[zCy] at l5;cases l5
  |succ k7=>
   rw[zCy] at l5
   refine zAF<|cutA 22 0 [(1,pT 0),(3,iI n2),(4,iI i3),(9,.bool (ltI i3 t1.L.length))] [t1.d]<|spc l5 rfl (fun g8 l5=>?_) fun g8 l5=>?_
   ·have c9:=ltT g8
    refine zGB 0 4 rfl rfl rfl fun f10=>?_
    rw[zq4] at f10
    refine zAC<|zAN<|zAF<|zAP ?_
    obtain⟨x11,q12,l5⟩:=bs l5
    obtain⟨v13,q14,l5⟩:=bs l5
    refine last 22 0 [(1,pT 0),(3,iI (maxI n2 v13)),(4,iI i3)] [t1.d] ?_ fun zz hs=>?_
    ·refine st ?_
     simp[q12]
     have r16:=zKY x11 v13 q14
     try simp[q12] at r16
     refine cP r16 ?_
     simp[q12]
    refine zDb<|zDI ?_ hs
    have q15:Rng .i64 (((i3:Nat):Int)+1):=by simp only[Rng,inR];omega
    try simp at q15
    refine last 22 0 [(1,pT 0),(3,iI (maxI n2 v13)),(4,iI ((i3+1:Nat):Int))] [t1.d] (st (by simp[q15])) fun zz hs=>?_
    exact⟨(k7,maxI n2 v13,i3+1),hs,l5,by simp⟩
   have c17:=ltF g8
   refine zGB 0 4 rfl rfl rfl fun f18=>?_
   rw[zq4] at f18
   refine zBv<|zAm ?_
   have q19:=zqa l5
   have q19:=q19.symm
   refine zAm<|zBu<|zDI (t:=mkS 22 0 [(3,iI o4)] [t1.d]) ?_ (zBe (by simp[q19]))
   obtain⟨n20,q21,h⟩:=bs h
   obtain⟨q22,q23⟩:=zEi q21
   try simp at q22
   try simp at q23
   have c24:=q22;simp only[Rng,inR] at c24
   refine cut 22 0 [(2,iI n20)] [t1.d] (st (by simp[q22,q23]))<|zAA ?_
   cases h
   simp
theorem zHr(r:(List (List UInt8))×(List Int)×(List Int))(h:zEF=some r):Pure Tryz.prog 10 [] (.tup [.sl (r.1.map cS),.sl (r.2.1.map (cI .i64)),.sl (r.2.2.map (cI .i64))]):=by
 rw[zEF] at h
 refine zAQ Tryz.func10 (by rfl) (by rfl) (by simp) (by simp) (by simp)<|cutA 6 0 [] [] ?_
 obtain⟨l1,q2,h⟩:=bs h
 obtain⟨q3,q4⟩:=zGg q2
 obtain⟨l5,q6,h⟩:=bs h
 obtain⟨q7,q8⟩:=zGg q6
 obtain⟨l9,q10,h⟩:=bs h
 obtain⟨q11,q12⟩:=zGg q10
 refine cut 6 0 [(0,.osl ⟨1,9⟩ (l1.map cS)),(1,.osl ⟨1,3⟩ (l5.map (cI .i64))),(2,.osl ⟨1,3⟩ (l9.map (cI .i64)))] [] (st (by simp[q3,q4,q7,q8,q11,q12]))<|zAA ?_
 cases h
 simp
theorem zAc(n1:Int)(l2:(List zKr))(r:zKr)(h:zAG n1 l2=some r):Pure Tryz.prog 11 [iI n1,.sl (l2.map zKr.c)] (.agg r.d):=by
 rw[zAG] at h
 refine zAQ Tryz.func11 (by rfl) (by rfl) (by simp) (by simp) (by simp)<|cutA 8 0 [(0,iI n1),(1,.sl (l2.map zKr.c)),(4,pT 0)] [zz0]<|cutA 8 0 [(4,pT 0)] [[iI 32,iI n1,.str ([]:List UInt8),.osl ⟨1,9⟩ (([]:List (List UInt8)).map cS),.sl (l2.map zKr.c)]]<|zAA ?_
 cases h
 simp
theorem zDv(fuel:Nat):(∀(a1:zKr)(b2:zKr)(r:Bool)(_:zAx fuel a1 b2=some r),Pure Tryz.prog 13 [.agg a1.d,.agg b2.d] (.bool r)):=by
 induction fuel with
 |zero=>intro a1 b2 r h;rw[zAx] at h;cases h
 |succ fuel zKX=>
  intro a1 b2 r h
  rw[zAx] at h
  refine zAQ Tryz.func13 (by rfl) (by rfl) (by simp) (by simp) (by simp)<|cutA 81 0 [(2,pT 0),(3,pT 1)] [a1.d,b2.d]<|zAF<|cut 81 0 [(2,pT 0),(3,pT 1),(43,.bool ((!(eqI a1.Op b2.Op))||((!(eqI a1.N b2.N))||((!(eqS a1.S b2.S))||((!(eqI a1.Names.length b2.Names.length))||(!(eqI a1.L.length b2.L.length)))))))] [a1.d,b2.d] ?_ ?_
  ·rcases tf (!(eqI a1.Op b2.Op)) with g3|g3
   ·have g4:=notT g3
    have c5:=eqF g4
    refine st ?_
    simp[g3]
   have g6:=notF g3
   have c7:=eqT g6
   rcases tf (!(eqI a1.N b2.N)) with g8|g8
   ·have g9:=notT g8
    have c10:=eqF g9
    refine st ?_
    simp[g3,g8]
   have g11:=notF g8
   have c12:=eqT g11
   rcases tf (!(eqS a1.S b2.S)) with g13|g13
   ·have g14:=notT g13
    refine st ?_
    simp[g3,g8,g13]
   have g15:=notF g13
   rcases tf (!(eqI a1.Names.length b2.Names.length)) with g16|g16
   ·have g17:=notT g16
    have c18:=eqF g17
    refine st ?_
    simp[g3,g8,g13,g16]
   have g19:=notF g16
   have c20:=eqT g19
   refine st ?_
   simp[g3,g8,g13,g16]
  rcases sp h with ⟨g21,h⟩|⟨g21,h⟩
  ·refine zBn rfl g21<|cutA 81 0 [(4,.bool false)] [a1.d,b2.d]<|zAA<|zAB ?_
   cases h
   simp
  obtain⟨g22,g23⟩:=orF g21
  have g24:=notF g22
  have c25:=eqT g24
  obtain⟨g26,g27⟩:=orF g23
  have g28:=notF g26
  have c29:=eqT g28
  obtain⟨g30,g31⟩:=orF g27
  have g32:=notF g30
  obtain⟨g33,g34⟩:=orF g31
  have g35:=notF g33
  have c36:=eqT g35
  have g37:=notF g34
  have c38:=eqT g37
  refine condF rfl g21<|zAC<|zAN<|zAF<|cutA 81 0 [(2,pT 0),(3,pT 1),(5,iI 0)] [a1.d,b2.d]<|zAP ?_
  obtain⟨o41,l42,h⟩:=bs h
  refine zCd (fun p:Nat×Nat=>mkS 81 0 [(2,pT 0),(3,pT 1),(5,iI p.2)] [a1.d,b2.d]) (fun p=>zCx a1 b2 p.1 p.2=some o41) (fun p=>p.1) (fuel,0) l42 (zBe (by simp)) ?_
  rintro⟨k43,i39⟩ l42
  try dsimp only at l42 ⊢
  cases k43 with
  |zero=>
   rw[zCx] at l42;cases l42
  |succ k44=>
   rw[zCx] at l42
   refine zAF<|cutA 81 0 [(2,pT 0),(3,pT 1),(5,iI i39),(48,.bool (ltI i39 a1.Names.length))] [a1.d,b2.d]<|spc l42 rfl (fun g45 l42=>?_) fun g45 l42=>?_
   ·have c46:=ltT g45
    refine zGB 0 3 rfl rfl rfl fun f47=>?_
    rw[zq4] at f47
    refine zAC<|zAN<|zAF<|zAP ?_
    obtain⟨x48,q49,l42⟩:=bs l42
    obtain⟨x50,q51,l42⟩:=bs l42
    refine cut 81 0 [(2,pT 0),(3,pT 1),(5,iI i39),(61,.bool (!(eqS x48 x50)))] [a1.d,b2.d] ?_ ?_
    ·refine zAg [] mixed (n:=81) rfl (by decide) ?_
     simp[q49,q51]
    refine spc l42 rfl (fun g52 l42=>?_) fun g52 l42=>?_
    ·have g53:=notT g52
     refine cutA 81 0 [(4,.bool false)] [a1.d,b2.d]<|zAA<|zAD<|zAB ?_
     replace h:=retL l42 h
     refine zAB<|zAD<|zAB ?_
     cases h
     simp
    have g54:=notF g52
    refine zAC<|zDb<|zAN ?_
    have q55:Rng .i64 (((i39:Nat):Int)+1):=by simp only[Rng,inR];omega
    try simp at q55
    refine last 81 0 [(2,pT 0),(3,pT 1),(5,iI ((i39+1:Nat):Int))] [a1.d,b2.d] (st (by simp[q55])) fun zz hs=>?_
    exact⟨(k44,i39+1),hs,l42,by simp⟩
   have c56:=ltF g45
   refine zGB 0 3 rfl rfl rfl fun f57=>?_
   rw[zq4] at f57
   refine zBv<|zAm ?_
   rcases o41 with o41|o40
   ·cases l42
   have q58:=Sum.inr.inj (zqa l42)
   replace h:=zCP h
   refine zAm<|zBu<|zDI (t:=mkS 81 0 [(2,pT 0),(3,pT 1)] [a1.d,b2.d]) ?_ (zBe (by simp))
   refine zAF<|cutA 81 0 [(2,pT 0),(3,pT 1),(6,iI 0)] [a1.d,b2.d]<|zAP ?_
   obtain⟨o61,l62,h⟩:=bs h
   refine zCd (fun p:Nat×Nat=>mkS 81 0 [(2,pT 0),(3,pT 1),(6,iI p.2)] [a1.d,b2.d]) (fun p=>zCw (zAx fuel) a1 b2 p.1 p.2=some o61) (fun p=>p.1) (fuel,0) l62 (zBe (by simp)) ?_
   rintro⟨k63,i59⟩ l62
   try dsimp only at l62 ⊢
   cases k63 with
   |zero=>
    rw[zCw] at l62;cases l62
   |succ k64=>
    rw[zCw] at l62
    refine zAF<|cutA 81 0 [(2,pT 0),(3,pT 1),(6,iI i59),(66,.bool (ltI i59 a1.L.length))] [a1.d,b2.d]<|spc l62 rfl (fun g65 l62=>?_) fun g65 l62=>?_
    ·have c66:=ltT g65
     refine zGB 0 4 rfl rfl rfl fun f67=>?_
     rw[zq4] at f67
     refine zAC<|zAN<|zAF<|zAP ?_
     obtain⟨x68,q69,l62⟩:=bs l62
     obtain⟨x70,q71,l62⟩:=bs l62
     obtain⟨v72,q73,l62⟩:=bs l62
     refine cut 81 0 [(2,pT 0),(3,pT 1),(6,iI i59),(80,.bool (!v72))] [a1.d,b2.d] ?_ ?_
     ·refine zAg [] mixed (n:=81) rfl (by decide) ?_
      simp[q69,q71]
      have r78:=zKX x68 x70 v72 q73
      try simp[q69,q71] at r78
      refine zG7 r78 (by simp) rfl ?_
      simp[q69,q71]
     refine spc l62 rfl (fun g74 l62=>?_) fun g74 l62=>?_
     ·have g75:=notT g74
      refine cutA 81 0 [(4,.bool false)] [a1.d,b2.d]<|zAA<|zAD<|zAB ?_
      replace h:=retL l62 h
      refine zAB<|zAD<|zAB ?_
      cases h
      simp
     have g76:=notF g74
     refine zAC<|zDb<|zAN ?_
     have q77:Rng .i64 (((i59:Nat):Int)+1):=by simp only[Rng,inR];omega
     try simp at q77
     refine last 81 0 [(2,pT 0),(3,pT 1),(6,iI ((i59+1:Nat):Int))] [a1.d,b2.d] (st (by simp[q77])) fun zz hs=>?_
     exact⟨(k64,i59+1),hs,l62,by simp⟩
    have c79:=ltF g65
    refine zGB 0 4 rfl rfl rfl fun f80=>?_
    rw[zq4] at f80
    refine zBv<|zAm ?_
    rcases o61 with o61|o60
    ·cases l62
    have q81:=Sum.inr.inj (zqa l62)
    replace h:=zCP h
    refine zAm<|zBu<|zDI (t:=mkS 81 0 [] [a1.d,b2.d]) ?_ (zBe (by simp))
    refine cutA 81 0 [(4,.bool true)] [a1.d,b2.d]<|zAA ?_
    cases h
    simp
theorem law04_none_ok(fuel:Nat)(t1:zKr)(r:Bool)(h:zDs fuel t1=some r):Pure Tryz.prog 12 [.agg t1.d] (.bool r):=by
 rw[zDs] at h
 refine zAQ Tryz.func12 (by rfl) (by rfl) (by simp) (by simp) (by simp)<|cutA 6 0 [(1,pT 0)] [t1.d] ?_
 obtain⟨v2,q3,h⟩:=bs h
 refine cut 6 0 [(2,.bool v2)] [t1.d] ?_ ?_
 ·refine st ?_
  simp
  have r4:=zDv fuel t1 (zKr.mk 0 0 ([]:List UInt8) ([]:List (List UInt8)) ([]:List zKr)) v2 q3
  try simp at r4
  refine cP r4 ?_
  simp
 refine zAA ?_
 cases h
 simp
theorem zF3(fuel:Nat)(a1:UInt8)(b2:UInt8)(s3:(List UInt8))(t4:(List UInt8))(u5:(List UInt8))(r:Bool)(h:zBU fuel a1 b2 s3 t4 u5=some r):Pure Tryz.prog 3 [.int .u8 a1.toNat,.int .u8 b2.toNat,.str s3,.str t4,.str u5] (.bool r):=by
 rw[zBU] at h
 refine zAQ Tryz.func3 (by rfl) (by rfl) (by simp) (by simp) (by simp)<|cutA 283 0 [(0,.int .u8 a1.toNat),(1,.int .u8 b2.toNat),(2,.str s3),(3,.str t4),(4,.str u5)] []<|zAF ?_
 obtain⟨v6,q7,h⟩:=bs h
 refine cut 283 0 [(0,.int .u8 a1.toNat),(1,.int .u8 b2.toNat),(2,.str s3),(3,.str t4),(4,.str u5),(33,.bool (!v6))] [] ?_ ?_
 ·refine st ?_
  simp
  have r406:=zKU fuel v6 q7
  try simp at r406
  refine cP r406 ?_
  simp
 refine spc h rfl (fun g8 h=>?_) fun g8 h=>?_
 ·have g9:=notT g8
  refine cutA 283 0 [(10,.bool false)] []<|zAA<|zAB ?_
  cases h
  simp
 have g10:=notF g8
 refine zAC<|zAN<|zAF<|cut 283 0 [(0,.int .u8 a1.toNat),(1,.int .u8 b2.toNat),(2,.str s3),(3,.str t4),(4,.str u5),(46,.bool ((ltI 300 s3.length)||((ltI 300 t4.length)||(ltI 300 u5.length))))] [] ?_ ?_
 ·rcases tf (ltI 300 s3.length) with g11|g11
  ·have c12:=ltT g11
   refine zGl 2 rfl fun f13=>?_
   refine st ?_
   simp[g11]
  have c14:=ltF g11
  refine zGl 2 rfl fun f15=>?_
  rcases tf (ltI 300 t4.length) with g16|g16
  ·have c17:=ltT g16
   refine zGl 3 rfl fun f18=>?_
   refine st ?_
   simp[g11,g16]
  have c19:=ltF g16
  refine zGl 3 rfl fun f20=>?_
  refine st ?_
  simp[g11,g16]
 rcases sp h with ⟨g21,h⟩|⟨g21,h⟩
 ·refine zBn rfl g21<|cutA 283 0 [(10,.bool true)] []<|zAA<|zAB ?_
  cases h
  simp
 obtain⟨g22,g23⟩:=orF g21
 have c24:=ltF g22
 obtain⟨g26,g27⟩:=orF g23
 have c28:=ltF g26
 have c30:=ltF g27
 refine condF rfl g21<|zGl 2 rfl fun f25=>?_
 refine zGl 3 rfl fun f29=>?_
 refine zGl 4 rfl fun f31=>?_
 refine zAC<|zAN ?_
 obtain⟨v32,q33,h⟩:=bs h
 refine cut 283 0 [(0,.int .u8 a1.toNat),(1,.int .u8 b2.toNat),(2,.str s3),(3,.str t4),(4,.str u5),(11,pT 0),(13,iI v32.2.2)] [(zKr.d v32.1),[iI v32.2.1.Line,iI v32.2.1.Column]] ?_ ?_
 ·refine st ?_
  simp
  have r405:=zCF fuel s3 v32 q33
  try simp at r405
  refine cP r405 ?_
  simp
 obtain⟨v34,q35,h⟩:=bs h
 refine cut 283 0 [(0,.int .u8 a1.toNat),(1,.int .u8 b2.toNat),(2,.str s3),(3,.str t4),(4,.str u5),(11,pT 0),(13,iI v32.2.2),(14,pT 2),(16,iI v34.2.2)] [(zKr.d v32.1),[iI v32.2.1.Line,iI v32.2.1.Column],(zKr.d v34.1),[iI v34.2.1.Line,iI v34.2.1.Column]] ?_ ?_
 ·refine st ?_
  simp
  have r404:=zCF fuel t4 v34 q35
  try simp at r404
  refine cP r404 ?_
  simp
 obtain⟨v36,q37,h⟩:=bs h
 refine cut 283 0 [(0,.int .u8 a1.toNat),(1,.int .u8 b2.toNat),(2,.str s3),(3,.str t4),(4,.str u5),(11,pT 0),(13,iI v32.2.2),(14,pT 2),(16,iI v34.2.2),(17,pT 4),(19,iI v36.2.2)] [(zKr.d v32.1),[iI v32.2.1.Line,iI v32.2.1.Column],(zKr.d v34.1),[iI v34.2.1.Line,iI v34.2.1.Column],(zKr.d v36.1),[iI v36.2.1.Line,iI v36.2.1.Column]] ?_ ?_
 ·refine st ?_
  simp
  have r403:=zCF fuel u5 v36 q37
  try simp at r403
  refine cP r403 ?_
  simp
 refine zAF ?_
 obtain⟨b78,q79,h⟩:=bs h
 refine cut 283 0 [(0,.int .u8 a1.toNat),(1,.int .u8 b2.toNat),(2,.str s3),(3,.str t4),(4,.str u5),(11,pT 0),(14,pT 2),(17,pT 4),(95,.bool b78)] [(zKr.d v32.1),[iI v32.2.1.Line,iI v32.2.1.Column],(zKr.d v34.1),[iI v34.2.1.Line,iI v34.2.1.Column],(zKr.d v36.1),[iI v36.2.1.Line,iI v36.2.1.Column]] ?_ ?_
 ·rcases sp q79 with ⟨g38,q79⟩|⟨g38,q79⟩
  ·have g39:=notT g38
   have c40:=eqF g39
   obtain rfl:=oi q79
   refine zAg [] mixed (n:=283) rfl (by decide) ?_
   simp[g38]
  have g41:=notF g38
  have c42:=eqT g41
  rcases sp q79 with ⟨g43,q79⟩|⟨g43,q79⟩
  ·have g44:=notT g43
   have c45:=eqF g44
   obtain rfl:=oi q79
   refine zAg [] mixed (n:=283) rfl (by decide) ?_
   simp[g38,g43]
  have g46:=notF g43
  have c47:=eqT g46
  rcases sp q79 with ⟨g48,q79⟩|⟨g48,q79⟩
  ·have g49:=notT g48
   have c50:=eqF g49
   obtain rfl:=oi q79
   refine zAg [] mixed (n:=283) rfl (by decide) ?_
   simp[g38,g43,g48]
  have g51:=notF g48
  have c52:=eqT g51
  obtain⟨v53,q54,q79⟩:=bs q79
  obtain⟨v55,q56,q79⟩:=bs q79
  obtain⟨n57,q58,q79⟩:=bs q79
  obtain⟨q59,q60⟩:=zEi q58
  try simp at q59
  try simp at q60
  have c61:=q59;simp only[Rng,inR] at c61
  obtain⟨v62,q63,q79⟩:=bs q79
  obtain⟨n64,q65,q79⟩:=bs q79
  obtain⟨q66,q67⟩:=zEi q65
  try simp at q66
  try simp at q67
  have c68:=q66;simp only[Rng,inR] at c68
  rcases sp q79 with ⟨g69,q79⟩|⟨g69,q79⟩
  ·have c70:=ltT g69
   obtain rfl:=oi q79
   refine zAg [] mixed (n:=283) rfl (by decide) ?_
   simp[g38,g43,g48,q59,q60,q66,q67,g69]
   have r394:=zEO fuel v32.1 v53 q54
   try simp[g38,g43,g48,q59,q60,q66,q67,g69] at r394
   refine zG7 r394 (by simp) rfl ?_
   simp[g38,g43,g48,q59,q60,q66,q67,g69]
   have r395:=zEO fuel v34.1 v55 q56
   try simp[g38,g43,g48,q59,q60,q66,q67,g69] at r395
   refine zG7 r395 (by simp) rfl ?_
   simp[g38,g43,g48,q59,q60,q66,q67,g69]
   have r396:=zEO fuel v36.1 v62 q63
   try simp[g38,g43,g48,q59,q60,q66,q67,g69] at r396
   refine zG7 r396 (by simp) rfl ?_
   simp[g38,g43,g48,q59,q60,q66,q67,g69]
  have c71:=ltF g69
  obtain⟨v72,q73,q79⟩:=bs q79
  obtain⟨v74,q75,q79⟩:=bs q79
  obtain⟨v76,q77,q79⟩:=bs q79
  obtain rfl:=oi q79
  refine zAg [] mixed (n:=283) rfl (by decide) ?_
  simp[g38,g43,g48,q59,q60,q66,q67,g69]
  have r397:=zEO fuel v32.1 v53 q54
  try simp[g38,g43,g48,q59,q60,q66,q67,g69] at r397
  refine zG7 r397 (by simp) rfl ?_
  simp[g38,g43,g48,q59,q60,q66,q67,g69]
  have r398:=zEO fuel v34.1 v55 q56
  try simp[g38,g43,g48,q59,q60,q66,q67,g69] at r398
  refine zG7 r398 (by simp) rfl ?_
  simp[g38,g43,g48,q59,q60,q66,q67,g69]
  have r399:=zEO fuel v36.1 v62 q63
  try simp[g38,g43,g48,q59,q60,q66,q67,g69] at r399
  refine zG7 r399 (by simp) rfl ?_
  simp[g38,g43,g48,q59,q60,q66,q67,g69]
  have r400:=zFy fuel v32.1 v72 q73
  try simp[g38,g43,g48,q59,q60,q66,q67,g69] at r400
  refine zG7 r400 (by simp) rfl ?_
  simp[g38,g43,g48,q59,q60,q66,q67,g69]
  have r401:=zFy fuel v34.1 v74 q75
  try simp[g38,g43,g48,q59,q60,q66,q67,g69] at r401
  refine zG7 r401 (by simp) rfl ?_
  simp[g38,g43,g48,q59,q60,q66,q67,g69]
  have r402:=zFy fuel v36.1 v76 q77
  try simp[g38,g43,g48,q59,q60,q66,q67,g69] at r402
  refine zG7 r402 (by simp) rfl ?_
  simp[g38,g43,g48,q59,q60,q66,q67,g69]
 refine spc h rfl (fun g80 h=>?_) fun g80 h=>?_
 ·refine cutA 283 0 [(10,.bool true)] [(zKr.d v32.1),[iI v32.2.1.Line,iI v32.2.1.Column],(zKr.d v34.1),[iI v34.2.1.Line,iI v34.2.1.Column],(zKr.d v36.1),[iI v36.2.1.Line,iI v36.2.1.Column]]<|zAA<|zAB ?_
  cases h
  simp
 refine zAC<|zAN ?_
 obtain⟨v81,q82,h⟩:=bs h
 refine cut 283 0 [(0,.int .u8 a1.toNat),(1,.int .u8 b2.toNat),(2,.str s3),(3,.str t4),(4,.str u5),(11,pT 0),(14,pT 2),(17,pT 4),(20,.sl (v81.1.map cS)),(21,.sl (v81.2.1.map (cI .i64))),(22,.sl (v81.2.2.map (cI .i64)))] [(zKr.d v32.1),[iI v32.2.1.Line,iI v32.2.1.Column],(zKr.d v34.1),[iI v34.2.1.Line,iI v34.2.1.Column],(zKr.d v36.1),[iI v36.2.1.Line,iI v36.2.1.Column]] ?_ ?_
 ·refine st ?_
  simp
  have r393:=zHr v81 q82
  try simp at r393
  refine cP r393 ?_
  simp
 have q83:Rng .i64 ((a1.toNat:Int)):=by have:=(a1).toNat_lt;simp only[Rng,inR];omega
 obtain⟨n84,q85,h⟩:=bs h
 obtain⟨q86,q87⟩:=modC_ok q85
 try simp at q86
 try simp at q87
 have q88:Rng .i64 ((b2.toNat:Int)):=by have:=(b2).toNat_lt;simp only[Rng,inR];omega
 obtain⟨n89,q90,h⟩:=bs h
 obtain⟨q91,q92⟩:=modC_ok q90
 try simp at q91
 try simp at q92
 refine cut 283 0 [(2,.str s3),(3,.str t4),(4,.str u5),(11,pT 0),(14,pT 2),(17,pT 4),(20,.sl (v81.1.map cS)),(21,.sl (v81.2.1.map (cI .i64))),(22,.sl (v81.2.2.map (cI .i64))),(23,iI n84),(24,iI n89)] [(zKr.d v32.1),[iI v32.2.1.Line,iI v32.2.1.Column],(zKr.d v34.1),[iI v34.2.1.Line,iI v34.2.1.Column],(zKr.d v36.1),[iI v36.2.1.Line,iI v36.2.1.Column]] ?_ ?_
 ·refine zBZ [999] [11] mixed (n:=283) rfl (by decide) (by decide) ?_
  simp[q83,q86,q87,q88,q91,q92]
 refine cutA 283 0 [(2,.str s3),(3,.str t4),(4,.str u5),(11,pT 0),(14,pT 2),(17,pT 4),(20,.sl (v81.1.map cS)),(21,.sl (v81.2.1.map (cI .i64))),(22,.sl (v81.2.2.map (cI .i64))),(23,iI n84),(24,iI n89),(25,.fn (.func 11) [] [])] [(zKr.d v32.1),[iI v32.2.1.Line,iI v32.2.1.Column],(zKr.d v34.1),[iI v34.2.1.Line,iI v34.2.1.Column],(zKr.d v36.1),[iI v36.2.1.Line,iI v36.2.1.Column]] ?_
 obtain⟨s93,q94,h⟩:=bs h
 obtain⟨q95,q96⟩:=zDx q94
 try simp at q95
 try simp at q96
 obtain⟨s97,q98,h⟩:=bs h
 obtain⟨q99,q100⟩:=zDx q98
 try simp at q99
 try simp at q100
 obtain⟨x101,q102,h⟩:=bs h
 obtain⟨q103,q104⟩:=zGj q102
 obtain⟨s105,q106,h⟩:=bs h
 obtain⟨q107,q108⟩:=zDx q106
 try simp at q107
 try simp at q108
 obtain⟨s109,q110,h⟩:=bs h
 obtain⟨q111,q112⟩:=zDx q110
 try simp at q111
 try simp at q112
 obtain⟨s113,q114,h⟩:=bs h
 obtain⟨q115,q116⟩:=zDx q114
 try simp at q115
 try simp at q116
 obtain⟨s117,q118,h⟩:=bs h
 obtain⟨q119,q120⟩:=zDx q118
 try simp at q119
 try simp at q120
 obtain⟨x121,q122,h⟩:=bs h
 obtain⟨q123,q124⟩:=zGj q122
 obtain⟨s125,q126,h⟩:=bs h
 obtain⟨q127,q128⟩:=zDx q126
 try simp at q127
 try simp at q128
 obtain⟨s129,q130,h⟩:=bs h
 obtain⟨q131,q132⟩:=zDx q130
 try simp at q131
 try simp at q132
 obtain⟨s133,q134,h⟩:=bs h
 obtain⟨q135,q136⟩:=zDx q134
 try simp at q135
 try simp at q136
 obtain⟨s137,q138,h⟩:=bs h
 obtain⟨q139,q140⟩:=zDx q138
 try simp at q139
 try simp at q140
 obtain⟨v141,q142,h⟩:=bs h
 refine cut 283 0 [(2,.str s3),(3,.str t4),(4,.str u5),(11,pT 0),(14,pT 2),(17,pT 4),(20,.sl (v81.1.map cS)),(21,.sl (v81.2.1.map (cI .i64))),(22,.sl (v81.2.2.map (cI .i64))),(23,iI n84),(24,iI n89),(25,.fn (.func 11) [] []),(26,pT 6),(28,iI v141.2.2)] [(zKr.d v32.1),[iI v32.2.1.Line,iI v32.2.1.Column],(zKr.d v34.1),[iI v34.2.1.Line,iI v34.2.1.Column],(zKr.d v36.1),[iI v36.2.1.Line,iI v36.2.1.Column],(zKr.d v141.1),[iI v141.2.1.Line,iI v141.2.1.Column]] ?_ ?_
 ·refine zGt mixed 30 (fun L s=> ∃(pos:Nat->Nat) (bl:List (List AV)),NPos [(26,(if L 28=true then (zKr.d v141.1) else [iI 0,iI 0,.str ([]:List UInt8),.nsl,.nsl])),(27,(if L 29=true then [iI v141.2.1.Line,iI v141.2.1.Column] else zz2))] L pos bl∧s.n=283∧s.base=0∧(∀t,s.loans t=none)∧s.blocks=[(zKr.d v32.1),[iI v32.2.1.Line,iI v32.2.1.Column],(zKr.d v34.1),[iI v34.2.1.Line,iI v34.2.1.Column],(zKr.d v36.1),[iI v36.2.1.Line,iI v36.2.1.Column]]++bl∧s.get 2=.str s3∧s.get 3=.str t4∧s.get 4=.str u5∧s.get 11=pT 0∧s.get 14=pT 2∧s.get 17=pT 4∧s.get 20=.sl (v81.1.map cS)∧s.get 21=.sl (v81.2.1.map (cI .i64))∧s.get 22=.sl (v81.2.2.map (cI .i64))∧s.get 23=iI n84∧s.get 24=iI n89∧s.get 25=.fn (.func 11) [] []∧(L 0=true->s.get 112=.str s3)∧(L 1=true->s.get 113=.str s93)∧(L 2=true->s.get 114=.str s97)∧(L 3=true->s.get 115=.sl (v81.1.map cS))∧(L 4=true->s.get 116=iI n84)∧(L 5=true->s.get 117=.cptr [.str x101])∧(L 6=true->s.get 118=.str x101)∧(L 7=true->s.get 119=.str s105)∧(L 8=true->s.get 120=.str s109)∧(L 9=true->s.get 121=.str t4)∧(L 10=true->s.get 122=.str s113)∧(L 11=true->s.get 123=.str s117)∧(L 12=true->s.get 124=.sl (v81.1.map cS))∧(L 13=true->s.get 125=iI n89)∧(L 14=true->s.get 126=.cptr [.str x121])∧(L 15=true->s.get 127=.str x121)∧(L 16=true->s.get 128=.str s125)∧(L 17=true->s.get 129=.str s129)∧(L 18=true->s.get 130=.str u5)∧(L 19=true->s.get 131=.str s133)∧(L 20=true->s.get 132=.str s137)∧(L 21=true->s.get 133=.tup [.agg (zKr.d v141.1),.agg [iI v141.2.1.Line,iI v141.2.1.Column],iI v141.2.2])∧(L 22=true->s.get 111=.tup [.agg (zKr.d v141.1),.agg [iI v141.2.1.Line,iI v141.2.1.Column],iI v141.2.2])∧(L 23=true->s.get 134=.agg (zKr.d v141.1))∧(L 24=true->s.get 135=.agg [iI v141.2.1.Line,iI v141.2.1.Column])∧(L 25=true->s.get 136=iI v141.2.2)∧(L 26=true->s.get 26=.mptr (pos 26+6) 0)∧(L 27=true->s.get 27=.mptr (pos 27+6) 0)∧(L 28=true->L 26=true)∧(L 29=true->L 27=true)) (by decide) ⟨fun _=>0,[],NPos.start _ _,by simp⟩ ?_ ?_
  ·refine⟨?_,?_,?_,?_,?_,?_,?_,?_,?_,?_,?_,?_,?_,?_,?_,?_,?_,?_,?_,?_,?_,?_,?_,?_,?_,?_,?_,?_,?_,?_,trivial⟩
   all_goals
    intro L s hL he hI
    obtain⟨pos,bl,hN,fn1,fn2,fn3,fn4,fw2,fw3,fw4,fw11,fw14,fw17,fw20,fw21,fw22,fw23,fw24,fw25,fv0,fv1,fv2,fv3,fv4,fv5,fv6,fv7,fv8,fv9,fv10,fv11,fv12,fv13,fv14,fv15,fv16,fv17,fv18,fv19,fv20,fv21,fv22,fv23,fv24,fv25,fv26,fv27,fc28,fc29⟩:=hI
    try simp[q95,q96,q99,q100,q103,q104,q107,q108,q111,q112,q115,q116,q119,q120,q123,q124,q127,q128,q131,q132,q135,q136,q139,q140] at fv0 fv1 fv2 fv3 fv4 fv5 fv6 fv7 fv8 fv9 fv10 fv11 fv12 fv13 fv14 fv15 fv16 fv17 fv18 fv19 fv20 fv21 fv22 fv23 fv24 fv25 fv26 fv27
   refine AStep.mono ?_ fun s' h=>⟨_,_,hN.skip (by simp),h⟩
   rotate_left
   replace fv0:=fv0 ((zq8 he) 0 (by decide))
   refine AStep.mono ?_ fun s' h=>⟨_,_,hN.skip (by simp),h⟩
   rotate_left
   replace fv1:=fv1 ((zq8 he) 1 (by decide))
   refine AStep.mono ?_ fun s' h=>⟨_,_,hN.skip (by simp),h⟩
   rotate_left
   refine AStep.mono ?_ fun s' h=>⟨_,_,hN.skip (by simp),h⟩
   rotate_left
   refine AStep.mono ?_ fun s' h=>⟨_,_,hN.skip (by simp),h⟩
   rotate_left
   replace fv3:=fv3 ((zq8 he) 3 (by decide))
   replace fv4:=fv4 ((zq8 he) 4 (by decide))
   refine AStep.mono ?_ fun s' h=>⟨_,_,hN.skip (by simp),h⟩
   rotate_left
   replace fv5:=fv5 ((zq8 he) 5 (by decide))
   refine AStep.mono ?_ fun s' h=>⟨_,_,hN.skip (by simp),h⟩
   rotate_left
   replace fv2:=fv2 ((zq8 he) 2 (by decide))
   replace fv6:=fv6 ((zq8 he) 6 (by decide))
   refine AStep.mono ?_ fun s' h=>⟨_,_,hN.skip (by simp),h⟩
   rotate_left
   replace fv7:=fv7 ((zq8 he) 7 (by decide))
   refine AStep.mono ?_ fun s' h=>⟨_,_,hN.skip (by simp),h⟩
   rotate_left
   refine AStep.mono ?_ fun s' h=>⟨_,_,hN.skip (by simp),h⟩
   rotate_left
   replace fv8:=fv8 ((zq8 he) 8 (by decide))
   replace fv9:=fv9 ((zq8 he) 9 (by decide))
   refine AStep.mono ?_ fun s' h=>⟨_,_,hN.skip (by simp),h⟩
   rotate_left
   replace fv10:=fv10 ((zq8 he) 10 (by decide))
   refine AStep.mono ?_ fun s' h=>⟨_,_,hN.skip (by simp),h⟩
   rotate_left
   refine AStep.mono ?_ fun s' h=>⟨_,_,hN.skip (by simp),h⟩
   rotate_left
   refine AStep.mono ?_ fun s' h=>⟨_,_,hN.skip (by simp),h⟩
   rotate_left
   replace fv12:=fv12 ((zq8 he) 12 (by decide))
   replace fv13:=fv13 ((zq8 he) 13 (by decide))
   refine AStep.mono ?_ fun s' h=>⟨_,_,hN.skip (by simp),h⟩
   rotate_left
   replace fv14:=fv14 ((zq8 he) 14 (by decide))
   refine AStep.mono ?_ fun s' h=>⟨_,_,hN.skip (by simp),h⟩
   rotate_left
   replace fv11:=fv11 ((zq8 he) 11 (by decide))
   replace fv15:=fv15 ((zq8 he) 15 (by decide))
   refine AStep.mono ?_ fun s' h=>⟨_,_,hN.skip (by simp),h⟩
   rotate_left
   replace fv16:=fv16 ((zq8 he) 16 (by decide))
   refine AStep.mono ?_ fun s' h=>⟨_,_,hN.skip (by simp),h⟩
   rotate_left
   refine AStep.mono ?_ fun s' h=>⟨_,_,hN.skip (by simp),h⟩
   rotate_left
   replace fv17:=fv17 ((zq8 he) 17 (by decide))
   replace fv18:=fv18 ((zq8 he) 18 (by decide))
   refine AStep.mono ?_ fun s' h=>⟨_,_,hN.skip (by simp),h⟩
   rotate_left
   replace fv19:=fv19 ((zq8 he) 19 (by decide))
   refine AStep.mono ?_ fun s' h=>⟨_,_,hN.skip (by simp),h⟩
   rotate_left
   replace fv20:=fv20 ((zq8 he) 20 (by decide))
   refine AStep.mono ?_ fun s' h=>⟨_,_,hN.skip (by simp),h⟩
   simp[fn1,fn2,fn3,fn4,fw2,fw3,fw4,fw11,fw14,fw17,fw20,fw21,fw22,fw23,fw24,fw25,fv0,fv1,fv2,fv3,fv4,fv5,fv6,fv7,fv8,fv9,fv10,fv11,fv12,fv13,fv14,fv15,fv16,fv17,fv18,fv19,fv20,fv21,fv22,fv23,fv24,fv25,fv26,fv27,q95,q96,q99,q100,q103,q104,q107,q108,q111,q112,q115,q116,q119,q120,q123,q124,q127,q128,q131,q132,q135,q136,q139,q140]
   have r392:=zCF fuel s137 v141 q142
   try simp[q95,q96,q99,q100,q103,q104,q107,q108,q111,q112,q115,q116,q119,q120,q123,q124,q127,q128,q131,q132,q135,q136,q139,q140] at r392
   refine cP r392 ?_
   rotate_left
   replace fv21:=fv21 ((zq8 he) 21 (by decide))
   refine AStep.mono ?_ fun s' h=>⟨_,_,hN.skip (by simp),h⟩
   rotate_left
   replace fv22:=fv22 ((zq8 he) 22 (by decide))
   refine AStep.mono ?_ fun s' h=>⟨_,_,hN.skip (by simp),h⟩
   rotate_left
   replace fv22:=fv22 ((zq8 he) 22 (by decide))
   refine AStep.mono ?_ fun s' h=>⟨_,_,hN.skip (by simp),h⟩
   rotate_left
   replace fv22:=fv22 ((zq8 he) 22 (by decide))
   refine AStep.mono ?_ fun s' h=>⟨_,_,hN.skip (by simp),h⟩
   rotate_left
   have hL:L 26=false:=hL
   have fh28:L 28=false:=by cases hh:L 28 with|false=>rfl|true=>have:=fc28 hh;rw[hL] at this;cases this
   have hN2:=hN.push (i:=26) (blk:=[iI 0,iI 0,.str ([]:List UInt8),.nsl,.nsl]) (by simp[fh28]) (by simp) hL
   refine AStep.mono ?_ fun s' h=>⟨_,_,hN2,h⟩
   rotate_left
   have hL:L 27=false:=hL
   have fh29:L 29=false:=by cases hh:L 29 with|false=>rfl|true=>have:=fc29 hh;rw[hL] at this;cases this
   have hN2:=hN.push (i:=27) (blk:=zz2) (by simp[fh29]) (by simp) hL
   refine AStep.mono ?_ fun s' h=>⟨_,_,hN2,h⟩
   rotate_left
   replace fv0:=fv0 ((zq8 he) 0 (by decide))
   replace fv1:=fv1 ((zq8 he) 1 (by decide))
   replace fv2:=fv2 ((zq8 he) 2 (by decide))
   replace fv3:=fv3 ((zq8 he) 3 (by decide))
   replace fv4:=fv4 ((zq8 he) 4 (by decide))
   replace fv5:=fv5 ((zq8 he) 5 (by decide))
   replace fv6:=fv6 ((zq8 he) 6 (by decide))
   replace fv7:=fv7 ((zq8 he) 7 (by decide))
   replace fv8:=fv8 ((zq8 he) 8 (by decide))
   replace fv9:=fv9 ((zq8 he) 9 (by decide))
   replace fv10:=fv10 ((zq8 he) 10 (by decide))
   replace fv11:=fv11 ((zq8 he) 11 (by decide))
   replace fv12:=fv12 ((zq8 he) 12 (by decide))
   replace fv13:=fv13 ((zq8 he) 13 (by decide))
   replace fv14:=fv14 ((zq8 he) 14 (by decide))
   replace fv15:=fv15 ((zq8 he) 15 (by decide))
   replace fv16:=fv16 ((zq8 he) 16 (by decide))
   replace fv17:=fv17 ((zq8 he) 17 (by decide))
   replace fv18:=fv18 ((zq8 he) 18 (by decide))
   replace fv19:=fv19 ((zq8 he) 19 (by decide))
   replace fv20:=fv20 ((zq8 he) 20 (by decide))
   replace fv21:=fv21 ((zq8 he) 21 (by decide))
   replace fv22:=fv22 ((zq8 he) 22 (by decide))
   replace fv23:=fv23 ((zq8 he) 23 (by decide))
   replace fv26:=fv26 ((zq8 he) 26 (by decide))
   replace fv27:=fv27 ((zq8 he) 27 (by decide))
   have hA:L 26=true:=(zq8 he) 26 (by decide)
   have hL:L 28=false:=hL
   have e1:=hN.at_ (26,if L 28=true then (zKr.d v141.1) else [iI 0,iI 0,.str ([]:List UInt8),.nsl,.nsl]) (by simp) hA
   simp[hL] at e1
   have e2:pos 26<bl.length:=(zq1 e1).1
   refine store_all (pos 26+6) (.agg (zKr.d v141.1)) (zKr.d v141.1) rfl rfl ti26 (by simp[fv26]) (by simp[fn1,fn2,fn3,fn4,fw2,fw3,fw4,fw11,fw14,fw17,fw20,fw21,fw22,fw23,fw24,fw25,fv0,fv1,fv2,fv3,fv4,fv5,fv6,fv7,fv8,fv9,fv10,fv11,fv12,fv13,fv14,fv15,fv16,fv17,fv18,fv19,fv20,fv21,fv22,fv23,fv24,fv25,fv26,fv27,q95,q96,q99,q100,q103,q104,q107,q108,q111,q112,q115,q116,q119,q120,q123,q124,q127,q128,q131,q132,q135,q136,q139,q140]) (by simp[fn1,fn2,fn3,fn4,fw2,fw3,fw4,fw11,fw14,fw17,fw20,fw21,fw22,fw23,fw24,fw25,fv0,fv1,fv2,fv3,fv4,fv5,fv6,fv7,fv8,fv9,fv10,fv11,fv12,fv13,fv14,fv15,fv16,fv17,fv18,fv19,fv20,fv21,fv22,fv23,fv24,fv25,fv26,fv27,q95,q96,q99,q100,q103,q104,q107,q108,q111,q112,q115,q116,q119,q120,q123,q124,q127,q128,q131,q132,q135,q136,q139,q140]) (by rfl) (by simp) (by simp) (by simp) (by simp) (by simp[fn1,fn2,fn3,fn4,fw2,fw3,fw4,fw11,fw14,fw17,fw20,fw21,fw22,fw23,fw24,fw25,fv0,fv1,fv2,fv3,fv4,fv5,fv6,fv7,fv8,fv9,fv10,fv11,fv12,fv13,fv14,fv15,fv16,fv17,fv18,fv19,fv20,fv21,fv22,fv23,fv24,fv25,fv26,fv27,q95,q96,q99,q100,q103,q104,q107,q108,q111,q112,q115,q116,q119,q120,q123,q124,q127,q128,q131,q132,q135,q136,q139,q140,e1]) (by simp[fn4];omega) fn3<|⟨pos,bl.set (pos 26) (zKr.d v141.1),hN.store (N':=[(26,(if true=true then (zKr.d v141.1) else [iI 0,iI 0,.str ([]:List UInt8),.nsl,.nsl])),(27,(if L 29=true then [iI v141.2.1.Line,iI v141.2.1.Column] else zz2))]) (A:=(zKr.d v141.1)) (i:=28) (a:=26) hA (by simp) rfl (by simp[hL]) ⟨_,zq9 ..,rfl⟩,?_⟩
   rotate_left
   replace fv0:=fv0 ((zq8 he) 0 (by decide))
   replace fv1:=fv1 ((zq8 he) 1 (by decide))
   replace fv2:=fv2 ((zq8 he) 2 (by decide))
   replace fv3:=fv3 ((zq8 he) 3 (by decide))
   replace fv4:=fv4 ((zq8 he) 4 (by decide))
   replace fv5:=fv5 ((zq8 he) 5 (by decide))
   replace fv6:=fv6 ((zq8 he) 6 (by decide))
   replace fv7:=fv7 ((zq8 he) 7 (by decide))
   replace fv8:=fv8 ((zq8 he) 8 (by decide))
   replace fv9:=fv9 ((zq8 he) 9 (by decide))
   replace fv10:=fv10 ((zq8 he) 10 (by decide))
   replace fv11:=fv11 ((zq8 he) 11 (by decide))
   replace fv12:=fv12 ((zq8 he) 12 (by decide))
   replace fv13:=fv13 ((zq8 he) 13 (by decide))
   replace fv14:=fv14 ((zq8 he) 14 (by decide))
   replace fv15:=fv15 ((zq8 he) 15 (by decide))
   replace fv16:=fv16 ((zq8 he) 16 (by decide))
   replace fv17:=fv17 ((zq8 he) 17 (by decide))
   replace fv18:=fv18 ((zq8 he) 18 (by decide))
   replace fv19:=fv19 ((zq8 he) 19 (by decide))
   replace fv20:=fv20 ((zq8 he) 20 (by decide))
   replace fv21:=fv21 ((zq8 he) 21 (by decide))
   replace fv22:=fv22 ((zq8 he) 22 (by decide))
   replace fv23:=fv23 ((zq8 he) 23 (by decide))
   replace fv24:=fv24 ((zq8 he) 24 (by decide))
   replace fv26:=fv26 ((zq8 he) 26 (by decide))
   replace fv27:=fv27 ((zq8 he) 27 (by decide))
   have hA:L 27=true:=(zq8 he) 27 (by decide)
   have hL:L 29=false:=hL
   have e1:=hN.at_ (27,if L 29=true then [iI v141.2.1.Line,iI v141.2.1.Column] else zz2) (by simp) hA
   simp[hL] at e1
   have e2:pos 27<bl.length:=(zq1 e1).1
   refine store_all (pos 27+6) (.agg [iI v141.2.1.Line,iI v141.2.1.Column]) [iI v141.2.1.Line,iI v141.2.1.Column] rfl rfl ti28 (by simp[fv27]) (by simp[fn1,fn2,fn3,fn4,fw2,fw3,fw4,fw11,fw14,fw17,fw20,fw21,fw22,fw23,fw24,fw25,fv0,fv1,fv2,fv3,fv4,fv5,fv6,fv7,fv8,fv9,fv10,fv11,fv12,fv13,fv14,fv15,fv16,fv17,fv18,fv19,fv20,fv21,fv22,fv23,fv24,fv25,fv26,fv27,q95,q96,q99,q100,q103,q104,q107,q108,q111,q112,q115,q116,q119,q120,q123,q124,q127,q128,q131,q132,q135,q136,q139,q140]) (by simp[fn1,fn2,fn3,fn4,fw2,fw3,fw4,fw11,fw14,fw17,fw20,fw21,fw22,fw23,fw24,fw25,fv0,fv1,fv2,fv3,fv4,fv5,fv6,fv7,fv8,fv9,fv10,fv11,fv12,fv13,fv14,fv15,fv16,fv17,fv18,fv19,fv20,fv21,fv22,fv23,fv24,fv25,fv26,fv27,q95,q96,q99,q100,q103,q104,q107,q108,q111,q112,q115,q116,q119,q120,q123,q124,q127,q128,q131,q132,q135,q136,q139,q140]) (by rfl) (by simp) (by simp) (by simp) (by simp) (by simp[fn1,fn2,fn3,fn4,fw2,fw3,fw4,fw11,fw14,fw17,fw20,fw21,fw22,fw23,fw24,fw25,fv0,fv1,fv2,fv3,fv4,fv5,fv6,fv7,fv8,fv9,fv10,fv11,fv12,fv13,fv14,fv15,fv16,fv17,fv18,fv19,fv20,fv21,fv22,fv23,fv24,fv25,fv26,fv27,q95,q96,q99,q100,q103,q104,q107,q108,q111,q112,q115,q116,q119,q120,q123,q124,q127,q128,q131,q132,q135,q136,q139,q140,e1]) (by simp[fn4];omega) fn3<|⟨pos,bl.set (pos 27) [iI v141.2.1.Line,iI v141.2.1.Column],hN.store (N':=[(26,(if L 28=true then (zKr.d v141.1) else [iI 0,iI 0,.str ([]:List UInt8),.nsl,.nsl])),(27,(if true=true then [iI v141.2.1.Line,iI v141.2.1.Column] else zz2))]) (A:=[iI v141.2.1.Line,iI v141.2.1.Column]) (i:=29) (a:=27) hA (by simp) rfl (by simp[hL]) ⟨_,zqc _ (zq9 ..),rfl⟩,?_⟩
   rotate_left
   all_goals simp[fn1,fn2,fn3,fn4,fw2,fw3,fw4,fw11,fw14,fw17,fw20,fw21,fw22,fw23,fw24,fw25,fv0,fv1,fv2,fv3,fv4,fv5,fv6,fv7,fv8,fv9,fv10,fv11,fv12,fv13,fv14,fv15,fv16,fv17,fv18,fv19,fv20,fv21,fv22,fv23,fv24,fv25,fv26,fv27,q95,q96,q99,q100,q103,q104,q107,q108,q111,q112,q115,q116,q119,q120,q123,q124,q127,q128,q131,q132,q135,q136,q139,q140]
   all_goals repeat' (first|exact fv0|exact fv1|exact fv2|exact fv3|exact fv4|exact fv5|exact fv6|exact fv7|exact fv8|exact fv9|exact fv10|exact fv11|exact fv12|exact fv13|exact fv14|exact fv15|exact fv16|exact fv17|exact fv18|exact fv19|exact fv20|exact fv21|exact fv22|exact fv23|exact fv24|exact fv25|exact fv26|exact fv27|exact fc28|exact fc29|exact fun h=>absurd (fc28 h) (by simp[hL])|exact fun h=>absurd (fc29 h) (by simp[hL])|exact(zq8 he) 0 (by decide)|exact(zq8 he) 1 (by decide)|exact(zq8 he) 2 (by decide)|exact(zq8 he) 3 (by decide)|exact(zq8 he) 4 (by decide)|exact(zq8 he) 5 (by decide)|exact(zq8 he) 6 (by decide)|exact(zq8 he) 7 (by decide)|exact(zq8 he) 8 (by decide)|exact(zq8 he) 9 (by decide)|exact(zq8 he) 10 (by decide)|exact(zq8 he) 11 (by decide)|exact(zq8 he) 12 (by decide)|exact(zq8 he) 13 (by decide)|exact(zq8 he) 14 (by decide)|exact(zq8 he) 15 (by decide)|exact(zq8 he) 16 (by decide)|exact(zq8 he) 17 (by decide)|exact(zq8 he) 18 (by decide)|exact(zq8 he) 19 (by decide)|exact(zq8 he) 20 (by decide)|exact(zq8 he) 21 (by decide)|exact(zq8 he) 22 (by decide)|exact(zq8 he) 23 (by decide)|exact(zq8 he) 24 (by decide)|exact(zq8 he) 26 (by decide)|exact(zq8 he) 27 (by decide)|exact(zq8 he) 28 (by decide)|refine⟨?_,?_⟩)
  ·rintro L s hall ⟨pos,bl,hN,fn1,fn2,fn3,fn4,fw2,fw3,fw4,fw11,fw14,fw17,fw20,fw21,fw22,fw23,fw24,fw25,fv0,fv1,fv2,fv3,fv4,fv5,fv6,fv7,fv8,fv9,fv10,fv11,fv12,fv13,fv14,fv15,fv16,fv17,fv18,fv19,fv20,fv21,fv22,fv23,fv24,fv25,fv26,fv27,fc28,fc29⟩
   try simp[q95,q96,q99,q100,q103,q104,q107,q108,q111,q112,q115,q116,q119,q120,q123,q124,q127,q128,q131,q132,q135,q136,q139,q140] at fv0 fv1 fv2 fv3 fv4 fv5 fv6 fv7 fv8 fv9 fv10 fv11 fv12 fv13 fv14 fv15 fv16 fv17 fv18 fv19 fv20 fv21 fv22 fv23 fv24 fv25 fv26 fv27
   replace fv0:=fv0 (hall 0 (by decide))
   replace fv1:=fv1 (hall 1 (by decide))
   replace fv2:=fv2 (hall 2 (by decide))
   replace fv3:=fv3 (hall 3 (by decide))
   replace fv4:=fv4 (hall 4 (by decide))
   replace fv5:=fv5 (hall 5 (by decide))
   replace fv6:=fv6 (hall 6 (by decide))
   replace fv7:=fv7 (hall 7 (by decide))
   replace fv8:=fv8 (hall 8 (by decide))
   replace fv9:=fv9 (hall 9 (by decide))
   replace fv10:=fv10 (hall 10 (by decide))
   replace fv11:=fv11 (hall 11 (by decide))
   replace fv12:=fv12 (hall 12 (by decide))
   replace fv13:=fv13 (hall 13 (by decide))
   replace fv14:=fv14 (hall 14 (by decide))
   replace fv15:=fv15 (hall 15 (by decide))
   replace fv16:=fv16 (hall 16 (by decide))
   replace fv17:=fv17 (hall 17 (by decide))
   replace fv18:=fv18 (hall 18 (by decide))
   replace fv19:=fv19 (hall 19 (by decide))
   replace fv20:=fv20 (hall 20 (by decide))
   replace fv21:=fv21 (hall 21 (by decide))
   replace fv22:=fv22 (hall 22 (by decide))
   replace fv23:=fv23 (hall 23 (by decide))
   replace fv24:=fv24 (hall 24 (by decide))
   replace fv25:=fv25 (hall 25 (by decide))
   replace fv26:=fv26 (hall 26 (by decide))
   replace fv27:=fv27 (hall 27 (by decide))
   simp only[hall 28 (by decide),hall 29 (by decide),if_true] at hN
   obtain⟨f,hf,hk,hg⟩:=hN.ghost (by simp) (by simp[hall 26 (by decide),hall 27 (by decide)]) fn4 (by simp[fn2])
   have k0:f (pos 26+6)=6:=by have:=hk 0 _ rfl;simpa[Nat.add_comm] using this
   have k1:f (pos 27+6)=7:=by have:=hk 1 _ rfl;simpa[Nat.add_comm] using this
   simp at hf
   refine⟨_,hg,?_⟩
   simp[AV.ren,AV.renL,hf,k0,k1,fn1,fn2,fn3,fn4,fw2,fw3,fw4,fw11,fw14,fw17,fw20,fw21,fw22,fw23,fw24,fw25,fv0,fv1,fv2,fv3,fv4,fv5,fv6,fv7,fv8,fv9,fv10,fv11,fv12,fv13,fv14,fv15,fv16,fv17,fv18,fv19,fv20,fv21,fv22,fv23,fv24,fv25,fv26,fv27,q95,q96,q99,q100,q103,q104,q107,q108,q111,q112,q115,q116,q119,q120,q123,q124,q127,q128,q131,q132,q135,q136,q139,q140]
 obtain⟨x143,q144,h⟩:=bs h
 obtain⟨q145,q146⟩:=zGj q144
 obtain⟨x147,q148,h⟩:=bs h
 obtain⟨q149,q150⟩:=zGj q148
 obtain⟨v151,q152,h⟩:=bs h
 obtain⟨v153,q154,h⟩:=bs h
 refine cut 283 0 [(2,.str s3),(3,.str t4),(4,.str u5),(11,pT 0),(14,pT 2),(17,pT 4),(20,.sl (v81.1.map cS)),(21,.sl (v81.2.1.map (cI .i64))),(22,.sl (v81.2.2.map (cI .i64))),(23,iI n84),(24,iI n89),(25,.fn (.func 11) [] []),(26,pT 6),(28,iI v141.2.2),(29,pT 8)] [(zKr.d v32.1),[iI v32.2.1.Line,iI v32.2.1.Column],(zKr.d v34.1),[iI v34.2.1.Line,iI v34.2.1.Column],(zKr.d v36.1),[iI v36.2.1.Line,iI v36.2.1.Column],(zKr.d v141.1),[iI v141.2.1.Line,iI v141.2.1.Column],v153.d] ?_ ?_
 ·refine zAg [] mixed (n:=283) rfl (by decide) ?_
  simp[q145,q146,q149,q150]
  have r390:=zAc x147 [v32.1,v34.1] v151 q152
  try simp[q145,q146,q149,q150] at r390
  refine zG7 r390 (by simp) rfl ?_
  simp[q145,q146,q149,q150]
  have r391:=zAc x143 [v151,v36.1] v153 q154
  try simp[q145,q146,q149,q150] at r391
  refine zG7 r391 (by simp) rfl ?_
  simp[q145,q146,q149,q150]
 obtain⟨v155,q156,h⟩:=bs h
 obtain⟨v157,q158,h⟩:=bs h
 refine cut 283 0 [(2,.str s3),(3,.str t4),(4,.str u5),(11,pT 0),(14,pT 2),(17,pT 4),(20,.sl (v81.1.map cS)),(21,.sl (v81.2.1.map (cI .i64))),(22,.sl (v81.2.2.map (cI .i64))),(23,iI n84),(24,iI n89),(25,.fn (.func 11) [] []),(26,pT 6),(28,iI v141.2.2),(29,pT 8),(30,pT 9)] [(zKr.d v32.1),[iI v32.2.1.Line,iI v32.2.1.Column],(zKr.d v34.1),[iI v34.2.1.Line,iI v34.2.1.Column],(zKr.d v36.1),[iI v36.2.1.Line,iI v36.2.1.Column],(zKr.d v141.1),[iI v141.2.1.Line,iI v141.2.1.Column],v153.d,v157.d] ?_ ?_
 ·refine zAg [] mixed (n:=283) rfl (by decide) ?_
  simp[q149,q150,q145,q146]
  have r388:=zAc x143 [v34.1,v36.1] v155 q156
  try simp[q149,q150,q145,q146] at r388
  refine zG7 r388 (by simp) rfl ?_
  simp[q149,q150,q145,q146]
  have r389:=zAc x147 [v32.1,v155] v157 q158
  try simp[q149,q150,q145,q146] at r389
  refine zG7 r389 (by simp) rfl ?_
  simp[q149,q150,q145,q146]
 refine zAF<|zAP ?_
 obtain⟨b170,q171,h⟩:=bs h
 refine cut 283 0 [(2,.str s3),(3,.str t4),(4,.str u5),(11,pT 0),(14,pT 2),(17,pT 4),(20,.sl (v81.1.map cS)),(21,.sl (v81.2.1.map (cI .i64))),(22,.sl (v81.2.2.map (cI .i64))),(23,iI n84),(24,iI n89),(25,.fn (.func 11) [] []),(26,pT 6),(28,iI v141.2.2),(29,pT 8),(30,pT 9),(179,.bool b170)] [(zKr.d v32.1),[iI v32.2.1.Line,iI v32.2.1.Column],(zKr.d v34.1),[iI v34.2.1.Line,iI v34.2.1.Column],(zKr.d v36.1),[iI v36.2.1.Line,iI v36.2.1.Column],(zKr.d v141.1),[iI v141.2.1.Line,iI v141.2.1.Column],v153.d,v157.d] ?_ ?_
 ·obtain⟨x159,q160,q171⟩:=bs q171
  obtain⟨q161,q162⟩:=zGj q160
  rcases sp q171 with ⟨g163,q171⟩|⟨g163,q171⟩
  ·have c164:=eqT g163
   obtain⟨x165,q166,q171⟩:=bs q171
   obtain⟨q167,q168⟩:=zGj q166
   obtain rfl:=oi q171
   refine st ?_
   simp[q161,q162,g163,q167,q168]
  have c169:=eqF g163
  obtain rfl:=oi q171
  refine st ?_
  simp[q161,q162,g163]
 refine spc h rfl (fun g172 h=>?_) fun g172 h=>?_
 ·obtain⟨b180,q181,h⟩:=bs h
  refine cut 283 0 [(2,.str s3),(3,.str t4),(4,.str u5),(11,pT 0),(14,pT 2),(17,pT 4),(20,.sl (v81.1.map cS)),(21,.sl (v81.2.1.map (cI .i64))),(23,iI n84),(25,.fn (.func 11) [] []),(26,pT 6),(198,.bool b180)] [(zKr.d v32.1),[iI v32.2.1.Line,iI v32.2.1.Column],(zKr.d v34.1),[iI v34.2.1.Line,iI v34.2.1.Column],(zKr.d v36.1),[iI v36.2.1.Line,iI v36.2.1.Column],(zKr.d v141.1),[iI v141.2.1.Line,iI v141.2.1.Column],v153.d,v157.d] ?_ ?_
  ·rcases sp q181 with ⟨g173,q181⟩|⟨g173,q181⟩
   ·have g174:=notT g173
    have c175:=eqF g174
    obtain rfl:=oi q181
    refine st ?_
    simp[g173]
   have g176:=notF g173
   have c177:=eqT g176
   obtain⟨v178,q179,q181⟩:=bs q181
   obtain rfl:=oi q181
   refine st ?_
   simp[g173]
   have r238:=law04_none_ok fuel v141.1 v178 q179
   try simp[g173] at r238
   refine cP r238 ?_
   simp[g173]
  refine spc h rfl (fun g182 h=>?_) fun g182 h=>?_
  ·refine cutA 283 0 [(10,.bool false)] [(zKr.d v32.1),[iI v32.2.1.Line,iI v32.2.1.Column],(zKr.d v34.1),[iI v34.2.1.Line,iI v34.2.1.Column],(zKr.d v36.1),[iI v36.2.1.Line,iI v36.2.1.Column],(zKr.d v141.1),[iI v141.2.1.Line,iI v141.2.1.Column],v153.d,v157.d]<|zAA<|zAD<|zAB ?_
   cases h
   simp
  refine zAC<|zDb<|zAN ?_
  obtain⟨s183,q184,h⟩:=bs h
  obtain⟨q185,q186⟩:=zDx q184
  try simp at q185
  try simp at q186
  obtain⟨s187,q188,h⟩:=bs h
  obtain⟨q189,q190⟩:=zDx q188
  try simp at q189
  try simp at q190
  obtain⟨s191,q192,h⟩:=bs h
  obtain⟨q193,q194⟩:=zDx q192
  try simp at q193
  try simp at q194
  obtain⟨s195,q196,h⟩:=bs h
  obtain⟨q197,q198⟩:=zDx q196
  try simp at q197
  try simp at q198
  obtain⟨s199,q200,h⟩:=bs h
  obtain⟨q201,q202⟩:=zDx q200
  try simp at q201
  try simp at q202
  obtain⟨s203,q204,h⟩:=bs h
  obtain⟨q205,q206⟩:=zDx q204
  try simp at q205
  try simp at q206
  obtain⟨s207,q208,h⟩:=bs h
  obtain⟨q209,q210⟩:=zDx q208
  try simp at q209
  try simp at q210
  obtain⟨s211,q212,h⟩:=bs h
  obtain⟨q213,q214⟩:=zDx q212
  try simp at q213
  try simp at q214
  obtain⟨v215,q216,h⟩:=bs h
  refine cut 283 0 [(11,pT 0),(14,pT 2),(17,pT 4),(21,.sl (v81.2.1.map (cI .i64))),(23,iI n84),(25,.fn (.func 11) [] []),(26,pT 6),(28,iI v215.2.2)] [(zKr.d v32.1),[iI v32.2.1.Line,iI v32.2.1.Column],(zKr.d v34.1),[iI v34.2.1.Line,iI v34.2.1.Column],(zKr.d v36.1),[iI v36.2.1.Line,iI v36.2.1.Column],(zKr.d v215.1),[iI v141.2.1.Line,iI v141.2.1.Column],v153.d,v157.d] ?_ ?_
  ·refine st ?_
   simp[q185,q186,q189,q190,q193,q194,q197,q198,q103,q104,q201,q202,q205,q206,q209,q210,q213,q214]
   have r237:=zCF fuel s211 v215 q216
   try simp[q185,q186,q189,q190,q193,q194,q197,q198,q103,q104,q201,q202,q205,q206,q209,q210,q213,q214] at r237
   refine cP r237 ?_
   simp[q185,q186,q189,q190,q193,q194,q197,q198,q103,q104,q201,q202,q205,q206,q209,q210,q213,q214]
  refine cutA 283 0 [(17,pT 4),(21,.sl (v81.2.1.map (cI .i64))),(23,iI n84),(25,.fn (.func 11) [] []),(26,pT 6),(28,iI v215.2.2),(31,pT 10)] [(zKr.d v32.1),[iI v32.2.1.Line,iI v32.2.1.Column],(zKr.d v34.1),[iI v34.2.1.Line,iI v34.2.1.Column],(zKr.d v36.1),[iI v36.2.1.Line,iI v36.2.1.Column],(zKr.d v215.1),[iI v141.2.1.Line,iI v141.2.1.Column],v153.d,v157.d,[iI 26,iI 0,.str ([]:List UInt8),.osl ⟨1,9⟩ (([]:List (List UInt8)).map cS),.sl ([v32.1,v34.1].map zKr.c)]] ?_
  obtain⟨b230,q231,h⟩:=bs h
  refine cut 283 0 [(10,.bool b230)] [(zKr.d v32.1),[iI v32.2.1.Line,iI v32.2.1.Column],(zKr.d v34.1),[iI v34.2.1.Line,iI v34.2.1.Column],(zKr.d v36.1),[iI v36.2.1.Line,iI v36.2.1.Column],(zKr.d v215.1),[iI v141.2.1.Line,iI v141.2.1.Column],v153.d,v157.d,[iI 26,iI 0,.str ([]:List UInt8),.osl ⟨1,9⟩ (([]:List (List UInt8)).map cS),.sl ([v32.1,v34.1].map zKr.c)]] ?_ ?_
  ·rcases sp q231 with ⟨g217,q231⟩|⟨g217,q231⟩
   ·have c218:=eqT g217
    obtain⟨v219,q220,q231⟩:=bs q231
    obtain⟨v221,q222,q231⟩:=bs q231
    obtain⟨v223,q224,q231⟩:=bs q231
    obtain⟨v225,q226,q231⟩:=bs q231
    obtain⟨v227,q228,q231⟩:=bs q231
    obtain rfl:=oi q231
    refine zAg [] mixed (n:=283) rfl (by decide) ?_
    simp[g217,q149,q150]
    have r232:=zAc 12 [(zKr.mk 26 0 ([]:List UInt8) ([]:List (List UInt8)) [v32.1,v34.1])] v219 q220
    try simp[g217,q149,q150] at r232
    refine zG7 r232 (by simp) rfl ?_
    simp[g217,q149,q150]
    have r233:=zAc 12 [v36.1] v221 q222
    try simp[g217,q149,q150] at r233
    refine zG7 r233 (by simp) rfl ?_
    simp[g217,q149,q150]
    have r234:=zAc 12 [v221] v223 q224
    try simp[g217,q149,q150] at r234
    refine zG7 r234 (by simp) rfl ?_
    simp[g217,q149,q150]
    have r235:=zAc x147 [v219,v223] v225 q226
    try simp[g217,q149,q150] at r235
    refine zG7 r235 (by simp) rfl ?_
    simp[g217,q149,q150]
    have r236:=zDv fuel v215.1 v225 v227 q228
    try simp[g217,q149,q150] at r236
    refine zG7 r236 (by simp) rfl ?_
    simp[g217,q149,q150]
   have c229:=eqF g217
   obtain rfl:=oi q231
   refine zAg [] mixed (n:=283) rfl (by decide) ?_
   simp[g217]
  refine zAA ?_
  cases h
  simp
 obtain⟨b253,q254,h⟩:=bs h
 refine cut 283 0 [(2,.str s3),(3,.str t4),(4,.str u5),(11,pT 0),(14,pT 2),(17,pT 4),(20,.sl (v81.1.map cS)),(21,.sl (v81.2.1.map (cI .i64))),(23,iI n84),(25,.fn (.func 11) [] []),(26,pT 6),(28,iI v141.2.2),(29,pT 8),(30,pT 9),(199,.bool b253)] [(zKr.d v32.1),[iI v32.2.1.Line,iI v32.2.1.Column],(zKr.d v34.1),[iI v34.2.1.Line,iI v34.2.1.Column],(zKr.d v36.1),[iI v36.2.1.Line,iI v36.2.1.Column],(zKr.d v141.1),[iI v141.2.1.Line,iI v141.2.1.Column],v153.d,v157.d] ?_ ?_
 ·obtain⟨x239,q240,q254⟩:=bs q254
  obtain⟨q241,q242⟩:=zGj q240
  obtain⟨x243,q244,q254⟩:=bs q254
  obtain⟨q245,q246⟩:=zGj q244
  rcases sp q254 with ⟨g247,q254⟩|⟨g247,q254⟩
  ·have c248:=ltT g247
   obtain rfl:=oi q254
   refine zAg [] mixed (n:=283) rfl (by decide) ?_
   simp[q241,q242,q245,q246,g247]
  have c249:=ltF g247
  rcases sp q254 with ⟨g250,q254⟩|⟨g250,q254⟩
  ·have c251:=eqT g250
   obtain rfl:=oi q254
   refine zAg [] mixed (n:=283) rfl (by decide) ?_
   simp[q241,q242,q245,q246,g247,g250]
  have c252:=eqF g250
  obtain rfl:=oi q254
  refine zAg [] mixed (n:=283) rfl (by decide) ?_
  simp[q241,q242,q245,q246,g247,g250]
 refine spc h rfl (fun g255 h=>?_) fun g255 h=>?_
 ·obtain⟨b263,q264,h⟩:=bs h
  refine cut 283 0 [(2,.str s3),(3,.str t4),(4,.str u5),(11,pT 0),(14,pT 2),(17,pT 4),(20,.sl (v81.1.map cS)),(21,.sl (v81.2.1.map (cI .i64))),(23,iI n84),(25,.fn (.func 11) [] []),(26,pT 6),(234,.bool b263)] [(zKr.d v32.1),[iI v32.2.1.Line,iI v32.2.1.Column],(zKr.d v34.1),[iI v34.2.1.Line,iI v34.2.1.Column],(zKr.d v36.1),[iI v36.2.1.Line,iI v36.2.1.Column],(zKr.d v141.1),[iI v141.2.1.Line,iI v141.2.1.Column],v153.d,v157.d] ?_ ?_
  ·rcases sp q264 with ⟨g256,q264⟩|⟨g256,q264⟩
   ·have g257:=notT g256
    have c258:=eqF g257
    obtain rfl:=oi q264
    refine st ?_
    simp[g256]
   have g259:=notF g256
   have c260:=eqT g259
   obtain⟨v261,q262,q264⟩:=bs q264
   obtain rfl:=oi q264
   refine st ?_
   simp[g256]
   have r321:=zDv fuel v141.1 v153 v261 q262
   try simp[g256] at r321
   refine cP r321 ?_
   simp[g256]
  refine spc h rfl (fun g265 h=>?_) fun g265 h=>?_
  ·refine cutA 283 0 [(10,.bool false)] [(zKr.d v32.1),[iI v32.2.1.Line,iI v32.2.1.Column],(zKr.d v34.1),[iI v34.2.1.Line,iI v34.2.1.Column],(zKr.d v36.1),[iI v36.2.1.Line,iI v36.2.1.Column],(zKr.d v141.1),[iI v141.2.1.Line,iI v141.2.1.Column],v153.d,v157.d]<|zAA<|zAD<|zAB ?_
   cases h
   simp
  refine zAC<|zDb<|zAN ?_
  obtain⟨s266,q267,h⟩:=bs h
  obtain⟨q268,q269⟩:=zDx q267
  try simp at q268
  try simp at q269
  obtain⟨s270,q271,h⟩:=bs h
  obtain⟨q272,q273⟩:=zDx q271
  try simp at q272
  try simp at q273
  obtain⟨s274,q275,h⟩:=bs h
  obtain⟨q276,q277⟩:=zDx q275
  try simp at q276
  try simp at q277
  obtain⟨s278,q279,h⟩:=bs h
  obtain⟨q280,q281⟩:=zDx q279
  try simp at q280
  try simp at q281
  obtain⟨s282,q283,h⟩:=bs h
  obtain⟨q284,q285⟩:=zDx q283
  try simp at q284
  try simp at q285
  obtain⟨s286,q287,h⟩:=bs h
  obtain⟨q288,q289⟩:=zDx q287
  try simp at q288
  try simp at q289
  obtain⟨s290,q291,h⟩:=bs h
  obtain⟨q292,q293⟩:=zDx q291
  try simp at q292
  try simp at q293
  obtain⟨s294,q295,h⟩:=bs h
  obtain⟨q296,q297⟩:=zDx q295
  try simp at q296
  try simp at q297
  obtain⟨v298,q299,h⟩:=bs h
  refine cut 283 0 [(11,pT 0),(14,pT 2),(17,pT 4),(21,.sl (v81.2.1.map (cI .i64))),(23,iI n84),(25,.fn (.func 11) [] []),(26,pT 6),(28,iI v298.2.2)] [(zKr.d v32.1),[iI v32.2.1.Line,iI v32.2.1.Column],(zKr.d v34.1),[iI v34.2.1.Line,iI v34.2.1.Column],(zKr.d v36.1),[iI v36.2.1.Line,iI v36.2.1.Column],(zKr.d v298.1),[iI v141.2.1.Line,iI v141.2.1.Column],v153.d,v157.d] ?_ ?_
  ·refine st ?_
   simp[q268,q269,q272,q273,q276,q277,q280,q281,q103,q104,q284,q285,q288,q289,q292,q293,q296,q297]
   have r320:=zCF fuel s294 v298 q299
   try simp[q268,q269,q272,q273,q276,q277,q280,q281,q103,q104,q284,q285,q288,q289,q292,q293,q296,q297] at r320
   refine cP r320 ?_
   simp[q268,q269,q272,q273,q276,q277,q280,q281,q103,q104,q284,q285,q288,q289,q292,q293,q296,q297]
  refine cutA 283 0 [(17,pT 4),(21,.sl (v81.2.1.map (cI .i64))),(23,iI n84),(25,.fn (.func 11) [] []),(26,pT 6),(28,iI v298.2.2),(31,pT 10)] [(zKr.d v32.1),[iI v32.2.1.Line,iI v32.2.1.Column],(zKr.d v34.1),[iI v34.2.1.Line,iI v34.2.1.Column],(zKr.d v36.1),[iI v36.2.1.Line,iI v36.2.1.Column],(zKr.d v298.1),[iI v141.2.1.Line,iI v141.2.1.Column],v153.d,v157.d,[iI 26,iI 0,.str ([]:List UInt8),.osl ⟨1,9⟩ (([]:List (List UInt8)).map cS),.sl ([v32.1,v34.1].map zKr.c)]] ?_
  obtain⟨b313,q314,h⟩:=bs h
  refine cut 283 0 [(10,.bool b313)] [(zKr.d v32.1),[iI v32.2.1.Line,iI v32.2.1.Column],(zKr.d v34.1),[iI v34.2.1.Line,iI v34.2.1.Column],(zKr.d v36.1),[iI v36.2.1.Line,iI v36.2.1.Column],(zKr.d v298.1),[iI v141.2.1.Line,iI v141.2.1.Column],v153.d,v157.d,[iI 26,iI 0,.str ([]:List UInt8),.osl ⟨1,9⟩ (([]:List (List UInt8)).map cS),.sl ([v32.1,v34.1].map zKr.c)]] ?_ ?_
  ·rcases sp q314 with ⟨g300,q314⟩|⟨g300,q314⟩
   ·have c301:=eqT g300
    obtain⟨v302,q303,q314⟩:=bs q314
    obtain⟨v304,q305,q314⟩:=bs q314
    obtain⟨v306,q307,q314⟩:=bs q314
    obtain⟨v308,q309,q314⟩:=bs q314
    obtain⟨v310,q311,q314⟩:=bs q314
    obtain rfl:=oi q314
    refine zAg [] mixed (n:=283) rfl (by decide) ?_
    simp[g300,q149,q150]
    have r315:=zAc 12 [(zKr.mk 26 0 ([]:List UInt8) ([]:List (List UInt8)) [v32.1,v34.1])] v302 q303
    try simp[g300,q149,q150] at r315
    refine zG7 r315 (by simp) rfl ?_
    simp[g300,q149,q150]
    have r316:=zAc 12 [v36.1] v304 q305
    try simp[g300,q149,q150] at r316
    refine zG7 r316 (by simp) rfl ?_
    simp[g300,q149,q150]
    have r317:=zAc 12 [v304] v306 q307
    try simp[g300,q149,q150] at r317
    refine zG7 r317 (by simp) rfl ?_
    simp[g300,q149,q150]
    have r318:=zAc x147 [v302,v306] v308 q309
    try simp[g300,q149,q150] at r318
    refine zG7 r318 (by simp) rfl ?_
    simp[g300,q149,q150]
    have r319:=zDv fuel v298.1 v308 v310 q311
    try simp[g300,q149,q150] at r319
    refine zG7 r319 (by simp) rfl ?_
    simp[g300,q149,q150]
   have c312:=eqF g300
   obtain rfl:=oi q314
   refine zAg [] mixed (n:=283) rfl (by decide) ?_
   simp[g300]
  refine zAA ?_
  cases h
  simp
 obtain⟨b329,q330,h⟩:=bs h
 refine cut 283 0 [(2,.str s3),(3,.str t4),(4,.str u5),(11,pT 0),(14,pT 2),(17,pT 4),(20,.sl (v81.1.map cS)),(21,.sl (v81.2.1.map (cI .i64))),(23,iI n84),(25,.fn (.func 11) [] []),(26,pT 6),(178,.bool b329)] [(zKr.d v32.1),[iI v32.2.1.Line,iI v32.2.1.Column],(zKr.d v34.1),[iI v34.2.1.Line,iI v34.2.1.Column],(zKr.d v36.1),[iI v36.2.1.Line,iI v36.2.1.Column],(zKr.d v141.1),[iI v141.2.1.Line,iI v141.2.1.Column],v153.d,v157.d] ?_ ?_
 ·rcases sp q330 with ⟨g322,q330⟩|⟨g322,q330⟩
  ·have g323:=notT g322
   have c324:=eqF g323
   obtain rfl:=oi q330
   refine st ?_
   simp[g322]
  have g325:=notF g322
  have c326:=eqT g325
  obtain⟨v327,q328,q330⟩:=bs q330
  obtain rfl:=oi q330
  refine st ?_
  simp[g322]
  have r387:=zDv fuel v141.1 v157 v327 q328
  try simp[g322] at r387
  refine cP r387 ?_
  simp[g322]
 refine spc h rfl (fun g331 h=>?_) fun g331 h=>?_
 ·refine cutA 283 0 [(10,.bool false)] [(zKr.d v32.1),[iI v32.2.1.Line,iI v32.2.1.Column],(zKr.d v34.1),[iI v34.2.1.Line,iI v34.2.1.Column],(zKr.d v36.1),[iI v36.2.1.Line,iI v36.2.1.Column],(zKr.d v141.1),[iI v141.2.1.Line,iI v141.2.1.Column],v153.d,v157.d]<|zAA<|zAD<|zAB ?_
  cases h
  simp
 refine zAC<|zDb<|zAN ?_
 obtain⟨s332,q333,h⟩:=bs h
 obtain⟨q334,q335⟩:=zDx q333
 try simp at q334
 try simp at q335
 obtain⟨s336,q337,h⟩:=bs h
 obtain⟨q338,q339⟩:=zDx q337
 try simp at q338
 try simp at q339
 obtain⟨s340,q341,h⟩:=bs h
 obtain⟨q342,q343⟩:=zDx q341
 try simp at q342
 try simp at q343
 obtain⟨s344,q345,h⟩:=bs h
 obtain⟨q346,q347⟩:=zDx q345
 try simp at q346
 try simp at q347
 obtain⟨s348,q349,h⟩:=bs h
 obtain⟨q350,q351⟩:=zDx q349
 try simp at q350
 try simp at q351
 obtain⟨s352,q353,h⟩:=bs h
 obtain⟨q354,q355⟩:=zDx q353
 try simp at q354
 try simp at q355
 obtain⟨s356,q357,h⟩:=bs h
 obtain⟨q358,q359⟩:=zDx q357
 try simp at q358
 try simp at q359
 obtain⟨s360,q361,h⟩:=bs h
 obtain⟨q362,q363⟩:=zDx q361
 try simp at q362
 try simp at q363
 obtain⟨v364,q365,h⟩:=bs h
 refine cut 283 0 [(11,pT 0),(14,pT 2),(17,pT 4),(21,.sl (v81.2.1.map (cI .i64))),(23,iI n84),(25,.fn (.func 11) [] []),(26,pT 6),(28,iI v364.2.2)] [(zKr.d v32.1),[iI v32.2.1.Line,iI v32.2.1.Column],(zKr.d v34.1),[iI v34.2.1.Line,iI v34.2.1.Column],(zKr.d v36.1),[iI v36.2.1.Line,iI v36.2.1.Column],(zKr.d v364.1),[iI v141.2.1.Line,iI v141.2.1.Column],v153.d,v157.d] ?_ ?_
 ·refine st ?_
  simp[q334,q335,q338,q339,q342,q343,q346,q347,q103,q104,q350,q351,q354,q355,q358,q359,q362,q363]
  have r386:=zCF fuel s360 v364 q365
  try simp[q334,q335,q338,q339,q342,q343,q346,q347,q103,q104,q350,q351,q354,q355,q358,q359,q362,q363] at r386
  refine cP r386 ?_
  simp[q334,q335,q338,q339,q342,q343,q346,q347,q103,q104,q350,q351,q354,q355,q358,q359,q362,q363]
 refine cutA 283 0 [(17,pT 4),(21,.sl (v81.2.1.map (cI .i64))),(23,iI n84),(25,.fn (.func 11) [] []),(26,pT 6),(28,iI v364.2.2),(31,pT 10)] [(zKr.d v32.1),[iI v32.2.1.Line,iI v32.2.1.Column],(zKr.d v34.1),[iI v34.2.1.Line,iI v34.2.1.Column],(zKr.d v36.1),[iI v36.2.1.Line,iI v36.2.1.Column],(zKr.d v364.1),[iI v141.2.1.Line,iI v141.2.1.Column],v153.d,v157.d,[iI 26,iI 0,.str ([]:List UInt8),.osl ⟨1,9⟩ (([]:List (List UInt8)).map cS),.sl ([v32.1,v34.1].map zKr.c)]] ?_
 obtain⟨b379,q380,h⟩:=bs h
 refine cut 283 0 [(10,.bool b379)] [(zKr.d v32.1),[iI v32.2.1.Line,iI v32.2.1.Column],(zKr.d v34.1),[iI v34.2.1.Line,iI v34.2.1.Column],(zKr.d v36.1),[iI v36.2.1.Line,iI v36.2.1.Column],(zKr.d v364.1),[iI v141.2.1.Line,iI v141.2.1.Column],v153.d,v157.d,[iI 26,iI 0,.str ([]:List UInt8),.osl ⟨1,9⟩ (([]:List (List UInt8)).map cS),.sl ([v32.1,v34.1].map zKr.c)]] ?_ ?_
 ·rcases sp q380 with ⟨g366,q380⟩|⟨g366,q380⟩
  ·have c367:=eqT g366
   obtain⟨v368,q369,q380⟩:=bs q380
   obtain⟨v370,q371,q380⟩:=bs q380
   obtain⟨v372,q373,q380⟩:=bs q380
   obtain⟨v374,q375,q380⟩:=bs q380
   obtain⟨v376,q377,q380⟩:=bs q380
   obtain rfl:=oi q380
   refine zAg [] mixed (n:=283) rfl (by decide) ?_
   simp[g366,q149,q150]
   have r381:=zAc 12 [(zKr.mk 26 0 ([]:List UInt8) ([]:List (List UInt8)) [v32.1,v34.1])] v368 q369
   try simp[g366,q149,q150] at r381
   refine zG7 r381 (by simp) rfl ?_
   simp[g366,q149,q150]
   have r382:=zAc 12 [v36.1] v370 q371
   try simp[g366,q149,q150] at r382
   refine zG7 r382 (by simp) rfl ?_
   simp[g366,q149,q150]
   have r383:=zAc 12 [v370] v372 q373
   try simp[g366,q149,q150] at r383
   refine zG7 r383 (by simp) rfl ?_
   simp[g366,q149,q150]
   have r384:=zAc x147 [v368,v372] v374 q375
   try simp[g366,q149,q150] at r384
   refine zG7 r384 (by simp) rfl ?_
   simp[g366,q149,q150]
   have r385:=zDv fuel v364.1 v374 v376 q377
   try simp[g366,q149,q150] at r385
   refine zG7 r385 (by simp) rfl ?_
   simp[g366,q149,q150]
  have c378:=eqF g366
  obtain rfl:=oi q380
  refine zAg [] mixed (n:=283) rfl (by decide) ?_
  simp[g366]
 refine zAA ?_
 cases h
 simp
end Go.Proofs.YtcbjbgiboimgaaaGreatDoor
set_option linter.unusedVariables false
set_option linter.unusedSimpArgs false
set_option maxRecDepth 100000
namespace Go.Proofs.YtcbjbgiboimgaaaGreatDoor
open Go Go.Abs
inductive PT (α:Type):Type where
 |out:PT α
 |fail:PT α
 |ret (a:α):PT α
 |is (s:List UInt8) (k:Bool->PT α):PT α
 |kd (n:Int) (k:Bool->PT α):PT α
 |nx (k:List UInt8->PT α):PT α
abbrev Tk:=Int×List UInt8
def isB(t:Tk)(s:List UInt8):Bool:=(eqI t.1 6||eqI t.1 7)&&eqS t.2 s
def ktk(t:zKp):Tk:=(t.Kind,t.Text)
namespace PT
variable {α β γ:Type}
def bind:PT α->(α->PT β)->PT β
 |out,_=>out
 |fail,_=>fail
 |ret a,f=>f a
 |is s k,f=>is s fun b=>(k b).bind f
 |kd n k,f=>kd n fun b=>(k b).bind f
 |nx k,f=>nx fun t=>(k t).bind f
def ofO:Option α->PT α
 |none=>out
 |some a=>ret a
def go:PT α->List Tk->Option (Option α×List Tk)
 |out,_=>none
 |fail,l=>some (none,l)
 |ret a,l=>some (some a,l)
 |is _ _,[]=>none
 |is s k,t::l=>(k (isB t s)).go (t::l)
 |kd _ _,[]=>none
 |kd n k,t::l=>(k (eqI t.1 n)).go (t::l)
 |nx _,[]=>none
 |nx k,t::l=>(k t.2).go l
def goK(f:α->PT β)(r:Option α×List Tk):Option (Option β×List Tk):=
 match r.1 with
 |none=>some (none,r.2)
 |some a=>(f a).go r.2
theorem go_bind(f:α->PT β): ∀(x:PT α)(l:List Tk),(x.bind f).go l=(x.go l).bind (goK f)
 |out,l=>rfl
 |fail,l=>rfl
 |ret a,l=>rfl
 |is s k,[]=>rfl
 |is s k,t::l=>go_bind f (k (isB t s)) (t::l)
 |kd n k,[]=>rfl
 |kd n k,t::l=>go_bind f (k (eqI t.1 n)) (t::l)
 |nx k,[]=>rfl
 |nx k,t::l=>go_bind f (k t.2) l
theorem bind_assoc(f:α->PT β)(g:β->PT γ): ∀x:PT α,(x.bind f).bind g=x.bind fun a=>(f a).bind g
 |out=>rfl
 |fail=>rfl
 |ret a=>rfl
 |is s k=>congrArg (is s) (funext fun b=>bind_assoc f g (k b))
 |kd n k=>congrArg (kd n) (funext fun b=>bind_assoc f g (k b))
 |nx k=>congrArg nx (funext fun b=>bind_assoc f g (k b))
theorem go_drop: ∀(x:PT α)(l:List Tk)(o:Option α)(r:List Tk),x.go l=some (o,r)->∃A,l=A++r
 |fail,l,o,r,h=>⟨[],by cases h;rfl⟩
 |ret a,l,o,r,h=>⟨[],by cases h;rfl⟩
 |is s k,t::l,o,r,h=>go_drop (k (isB t s)) (t::l) o r h
 |kd n k,t::l,o,r,h=>go_drop (k (eqI t.1 n)) (t::l) o r h
 |nx k,t::l,o,r,h=>by
  obtain⟨A,rfl⟩:=go_drop (k t.2) l o r h
  exact⟨t::A,rfl⟩
theorem go_loc(t:Tk)(B B':List Tk): ∀(x:PT α)(A:List Tk)(o:Option α),x.go (A++t::B)=some (o,t::B)->x.go (A++t::B')=some (o,t::B')
 |fail,A,o,h=>by
  have h1:(none,A++t::B)=(o,t::B):=Option.some.inj h
  have h2:=congrArg (fun q=>q.2.length) h1
  have:A=[]:=by cases A with
   |nil=>rfl
   |cons a A=>simp at h2;omega
  subst this;cases h1;rfl
 |ret a,A,o,h=>by
  have h1:(some a,A++t::B)=(o,t::B):=Option.some.inj h
  have h2:=congrArg (fun q=>q.2.length) h1
  have:A=[]:=by cases A with
   |nil=>rfl
   |cons a A=>simp at h2;omega
  subst this;cases h1;rfl
 |is s k,[],o,h=>go_loc t B B' (k (isB t s)) [] o h
 |is s k,a::A,o,h=>go_loc t B B' (k (isB a s)) (a::A) o h
 |kd n k,[],o,h=>go_loc t B B' (k (eqI t.1 n)) [] o h
 |kd n k,a::A,o,h=>go_loc t B B' (k (eqI a.1 n)) (a::A) o h
 |nx k,[],o,h=>by
  obtain⟨A,hA⟩:=go_drop (k t.2) B o (t::B) h
  have:=congrArg List.length hA
  simp at this;omega
 |nx k,a::A,o,h=>go_loc t B B' (k a.2) A o h
def eats:PT α->Prop
 |ret _=>False
 |is _ k=> ∀b,(k b).eats
 |kd _ k=> ∀b,(k b).eats
 |_=>True
theorem eats_bind(f:α->PT β): ∀x:PT α,x.eats->(x.bind f).eats
 |out,_=>trivial
 |fail,_=>trivial
 |is s k,h=>fun b=>eats_bind f (k b) (h b)
 |kd n k,h=>fun b=>eats_bind f (k b) (h b)
 |nx k,_=>trivial
theorem eats_bind2(f:α->PT β)(hf: ∀a,(f a).eats): ∀x:PT α,(x.bind f).eats
 |out=>trivial
 |fail=>trivial
 |ret a=>hf a
 |is s k=>fun b=>eats_bind2 f hf (k b)
 |kd n k=>fun b=>eats_bind2 f hf (k b)
 |nx k=>trivial
theorem eats_go: ∀(x:PT α),x.eats->∀(l:List Tk)(a:α)(r:List Tk),x.go l=some (some a,r)->r.length<l.length
 |fail,_,l,a,r,h=>by cases h
 |is s k,e,t::l,a,r,h=>eats_go (k (isB t s)) (e _) (t::l) a r h
 |kd n k,e,t::l,a,r,h=>eats_go (k (eqI t.1 n)) (e _) (t::l) a r h
 |nx k,_,t::l,a,r,h=>by
  obtain⟨A,rfl⟩:=go_drop (k t.2) l (some a) r h
  simp;omega
def nc:PT α->Prop
 |is s k=>(∀b,(k b).nc)∧(s=[41]->(k false).eats)
 |kd n k=>n≠7∧n≠8∧∀b,(k b).nc
 |nx k=> ∀t,(k t).nc
 |_=>True
theorem nc_bind(f:α->PT β)(hf: ∀a,(f a).nc): ∀x:PT α,x.nc->(x.bind f).nc
 |out,_=>trivial
 |fail,_=>trivial
 |ret a,_=>hf a
 |is s k,h=>⟨fun b=>nc_bind f hf (k b) (h.1 b),fun hs=>eats_bind f _ (h.2 hs)⟩
 |kd n k,h=>⟨h.1,h.2.1,fun b=>nc_bind f hf (k b) (h.2.2 b)⟩
 |nx k,h=>fun t=>nc_bind f hf (k t) (h t)
theorem isB_end(s:List UInt8):isB (8,[]) s=false:=rfl
theorem isB_close(s:List UInt8)(h:s≠[41]):isB (7,[41]) s=false:=by
 simp only[isB,Bool.and_eq_false_iff];right
 simp only[eqS,decide_eq_false_iff_not];exact fun hh=>h hh.symm
theorem go_close(B B':List Tk): ∀(x:PT α),x.nc->∀(A:List Tk)(a:α),x.go (A++(8,[])::B)=some (some a,(8,[])::B)->x.go (A++(7,[41])::B')=some (some a,(7,[41])::B')
 |fail,_,A,a,h=>by cases h
 |ret v,_,A,a,h=>by
  have h1:(some v,A++((8:Int),([]:List UInt8))::B)=(some a,(8,[])::B):=Option.some.inj h
  have h2:=congrArg (fun q=>q.2.length) h1
  have:A=[]:=by cases A with
   |nil=>rfl
   |cons a A=>simp at h2;omega
  subst this;cases h1;rfl
 |is s k,hn,[],a,h=>by
  have h':(k false).go ([]++(8,[])::B)=some (some a,(8,[])::B):=h
  by_cases hs:s=[41]
  ·have:=eats_go _ (hn.2 hs) _ _ _ h'
   simp at this
  ·have:=go_close B B' (k false) (hn.1 false) [] a h'
   show(k (isB (7,[41]) s)).go _=_
   rw[isB_close s hs];exact this
 |is s k,hn,t::A,a,h=>go_close B B' (k (isB t s)) (hn.1 _) (t::A) a h
 |kd n k,hn,[],a,h=>by
  have e8:eqI (8:Int) n=false:=by simp only[eqI,decide_eq_false_iff_not];exact fun hh=>hn.2.1 hh.symm
  have e7:eqI (7:Int) n=false:=by simp only[eqI,decide_eq_false_iff_not];exact fun hh=>hn.1 hh.symm
  have h':(k (eqI (8:Int) n)).go ([]++(8,[])::B)=some (some a,(8,[])::B):=h
  rw[e8] at h'
  have:=go_close B B' (k false) (hn.2.2 false) [] a h'
  show(k (eqI (7:Int) n)).go _=_
  rw[e7];exact this
 |kd n k,hn,t::A,a,h=>go_close B B' (k (eqI t.1 n)) (hn.2.2 _) (t::A) a h
 |nx k,hn,[],a,h=>by
  obtain⟨A,hA⟩:=go_drop (k []) B (some a) ((8,[])::B) h
  have:=congrArg List.length hA
  simp at this;omega
 |nx k,hn,t::A,a,h=>go_close B B' (k t.2) (hn _) A a h
inductive le:PT α->PT α->Prop where
 |out (y:PT α):le out y
 |fail:le fail fail
 |ret (a:α):le (ret a) (ret a)
 |is (s:List UInt8) {k k':Bool->PT α} (h: ∀b,le (k b) (k' b)):le (.is s k) (.is s k')
 |kd (n:Int) {k k':Bool->PT α} (h: ∀b,le (k b) (k' b)):le (.kd n k) (.kd n k')
 |nx {k k':List UInt8->PT α} (h: ∀t,le (k t) (k' t)):le (.nx k) (.nx k')
theorem le_refl: ∀x:PT α,le x x
 |.out=>.out _
 |.fail=>.fail
 |.ret a=>.ret a
 |.is s k=>.is s fun b=>le_refl (k b)
 |.kd n k=>.kd n fun b=>le_refl (k b)
 |.nx k=>.nx fun b=>le_refl (k b)
theorem le_bind{x y:PT α}{f g:α->PT β}(h:le x y)(hf: ∀a,le (f a) (g a)):le (x.bind f) (y.bind g):=by
 induction h with
 |out y=>exact .out _
 |fail=>exact .fail
 |ret a=>exact hf a
 |is s h ih=>exact .is s ih
 |kd n h ih=>exact .kd n ih
 |nx h ih=>exact .nx ih
theorem le_ofO{x y:Option α}(h: ∀a,x=some a->y=some a):le (ofO x) (ofO y):=by
 cases x with
 |none=>exact .out _
 |some a=>rw[h a rfl];exact le_refl _
theorem le_go{x y:PT α}(h:le x y): ∀(l:List Tk)(r:Option α×List Tk),x.go l=some r->y.go l=some r:=by
 induction h with
 |out y=>intro l r h;cases h
 |fail=>exact fun l r h=>h
 |ret a=>exact fun l r h=>h
 |is s h ih=>exact fun l r h=>match l,h with|t::l,h=>ih _ _ _ h
 |kd n h ih=>exact fun l r h=>match l,h with|t::l,h=>ih _ _ _ h
 |nx h ih=>exact fun l r h=>match l,h with|t::l,h=>ih _ _ _ h
def Fin:List Tk->Prop
 |[]=>False
 |[t]=>t=(8,[])
 |t::l=>t.1≠8∧t.2.length<=20000∧Fin l
def wp:PT α->Nat->(α->Nat->Prop)->Prop
 |out,_,_=>False
 |fail,_,_=>True
 |ret a,r,Q=>Q a r
 |is _ k,r,Q=>(k false).wp r Q∧(2<=r->(k true).wp r Q)
 |kd n k,r,Q=>(k false).wp r Q∧((n≠8->2<=r)->(k true).wp r Q)
 |nx k,r,Q=>2<=r∧∀t:List UInt8,t.length<=20000->(k t).wp (r-1) Q
theorem wp_mono{Q R:α->Nat->Prop}(h: ∀a r,Q a r->R a r): ∀(x:PT α)(r:Nat),x.wp r Q->x.wp r R
 |fail,r,_=>trivial
 |ret a,r,hx=>h a r hx
 |is s k,r,hx=>⟨wp_mono h _ r hx.1,fun g=>wp_mono h _ r (hx.2 g)⟩
 |kd n k,r,hx=>⟨wp_mono h _ r hx.1,fun g=>wp_mono h _ r (hx.2 g)⟩
 |nx k,r,hx=>⟨hx.1,fun t ht=>wp_mono h _ _ (hx.2 t ht)⟩
theorem zJT(f:α->PT β){Q:β->Nat->Prop}: ∀(x:PT α)(r:Nat),x.wp r (fun a r=>(f a).wp r Q)->(x.bind f).wp r Q
 |fail,r,_=>trivial
 |ret a,r,hx=>hx
 |is s k,r,hx=>⟨zJT f _ r hx.1,fun g=>zJT f _ r (hx.2 g)⟩
 |kd n k,r,hx=>⟨zJT f _ r hx.1,fun g=>zJT f _ r (hx.2 g)⟩
 |nx k,r,hx=>⟨hx.1,fun t ht=>zJT f _ _ (hx.2 t ht)⟩
theorem wp_bindQ{f:α->PT β}{Q:β->Nat->Prop}{R:α->Nat->Prop}{x:PT α}{r:Nat}(h:x.wp r R)(hf: ∀a r',R a r'->(f a).wp r' Q):(x.bind f).wp r Q:=
 zJT f x r (wp_mono hf x r h)
theorem Fin.cons_pos{t:Tk}{l:List Tk}(h:Fin (t::l))(ht:t.1≠8):2<=(t::l).length∧Fin l∧t.2.length<=20000:=by
 cases l with
 |nil=>cases h;exact absurd rfl ht
 |cons u l=>exact⟨by simp,h.2.2,h.2.1⟩
theorem Fin.cons_two{t:Tk}{l:List Tk}(h:Fin (t::l))(h2:2<=(t::l).length):Fin l∧t.2.length<=20000∧t.1≠8:=by
 cases l with
 |nil=>simp at h2
 |cons u l=>exact⟨h.2.2,h.2.1,h.1⟩
theorem wp_go{Q:α->Nat->Prop}: ∀(x:PT α)(l:List Tk),Fin l->x.wp l.length Q->∃o r,x.go l=some (o,r)∧Fin r∧∀a,o=some a->Q a r.length
 |out,l,hl,hx=>hx.elim
 |fail,l,hl,hx=>⟨none,l,rfl,hl,fun a h=>by cases h⟩
 |ret a,l,hl,hx=>⟨some a,l,rfl,hl,fun b h=>by cases h;exact hx⟩
 |is s k,[],hl,hx=>hl.elim
 |is s k,t::l,hl,hx=>by
  show∃o r,(k (isB t s)).go (t::l)=some (o,r)∧_
  cases hb:isB t s with
  |false=>exact wp_go (k false) (t::l) hl hx.1
  |true=>
   refine wp_go (k true) (t::l) hl (hx.2 (hl.cons_pos fun h8=>?_).1)
   simp[isB,eqI,h8] at hb
 |kd n k,[],hl,hx=>hl.elim
 |kd n k,t::l,hl,hx=>by
  show∃o r,(k (eqI t.1 n)).go (t::l)=some (o,r)∧_
  cases hb:eqI t.1 n with
  |false=>exact wp_go (k false) (t::l) hl hx.1
  |true=>
   refine wp_go (k true) (t::l) hl (hx.2 fun hn=>(hl.cons_pos fun h8=>?_).1)
   simp[eqI,h8] at hb;exact hn hb.symm
 |nx k,[],hl,hx=>hl.elim
 |nx k,t::l,hl,hx=>by
  obtain⟨h1,h2,h3⟩:=hl.cons_two hx.1
  have:=wp_go (k t.2) l h1 (by simpa using hx.2 t.2 h2)
  exact this
end PT
theorem chkA{n:Int}(h1: -9223372036854775808<=n)(h2:n<=9223372036854775807):chk .i64 n=some n:=by rw[chk,if_pos];exact⟨h1,h2⟩
def PT.run{α:Type}:PT α->zKm->Option (zKm ⊕ (α×zKm))
 |.out,_=>none
 |.fail,w=>some (.inl w)
 |.ret a,w=>some (.inr (a,w))
 |.is s k,w=>(idx w.l w.at_).bind fun t=>(k (isB (ktk t) s)).run w
 |.kd n k,w=>(idx w.l w.at_).bind fun t=>(k (eqI t.Kind n)).run w
 |.nx k,w=>(idx w.l w.at_).bind fun t=>(chk .i64 (w.at_+1)).bind fun a=>(k t.Text).run (zKm.mk w.l a)
namespace PT
variable {α β γ:Type}
def runK(f:α->PT β)(r:zKm ⊕ (α×zKm)):Option (zKm ⊕ (β×zKm)):=
 Sum.elim (fun e=>some (.inl e)) (fun v=>(f v.1).run v.2) r
theorem run_bind(f:α->PT β): ∀(x:PT α)(w:zKm),(x.bind f).run w=(x.run w).bind (runK f)
 |out,w=>rfl
 |fail,w=>rfl
 |ret a,w=>rfl
 |is s k,w=>by
  simp only[bind,run]
  cases idx w.l w.at_ with
  |none=>rfl
  |some t=>exact run_bind f _ w
 |kd n k,w=>by
  simp only[bind,run]
  cases idx w.l w.at_ with
  |none=>rfl
  |some t=>exact run_bind f _ w
 |nx k,w=>by
  simp only[bind,run]
  cases idx w.l w.at_ with
  |none=>rfl
  |some t=>
   show(Option.bind _ _)=_
   simp only[Option.bind_some]
   cases chk .i64 (w.at_+1) with
   |none=>rfl
   |some a=>exact run_bind f _ _
def back(l:List zKp)(r:Option α×List Tk):zKm ⊕ (α×zKm):=
 match r.1 with
 |none=>.inl (zKm.mk l ((l.length-r.2.length:Nat):Int))
 |some a=>.inr (a,zKm.mk l ((l.length-r.2.length:Nat):Int))
theorem run_go(l:List zKp)(hl:l.length<=1000000): ∀(x:PT α)(a:Nat),a<=l.length->x.run (zKm.mk l (a:Int))=(x.go ((l.drop a).map ktk)).map (back l)
 |out,a,ha=>rfl
 |fail,a,ha=>by
  simp only[run,go,Option.map_some,back,List.length_map,List.length_drop]
  rw[show l.length-(l.length-a)=a by omega]
 |ret v,a,ha=>by
  simp only[run,go,Option.map_some,back,List.length_map,List.length_drop]
  rw[show l.length-(l.length-a)=a by omega]
 |is s k,a,ha=>by
  have ih:=fun b=>run_go l hl (k b) a ha
  simp only[run]
  rw[show idx l (a:Int)=l[a]? by rw[idx,if_pos (by omega)];simp]
  rcases Nat.lt_or_ge a l.length with h|h
  ·have hd:l.drop a=l[a]::l.drop (a+1):=(List.drop_eq_getElem_cons h)
   rw[List.getElem?_eq_getElem h]
   show(k _).run _=_
   rw[ih,hd];rfl
  ·rw[List.getElem?_eq_none h,List.drop_eq_nil_of_le h];rfl
 |kd n k,a,ha=>by
  have ih:=fun b=>run_go l hl (k b) a ha
  simp only[run]
  rw[show idx l (a:Int)=l[a]? by rw[idx,if_pos (by omega)];simp]
  rcases Nat.lt_or_ge a l.length with h|h
  ·have hd:l.drop a=l[a]::l.drop (a+1):=(List.drop_eq_getElem_cons h)
   rw[List.getElem?_eq_getElem h]
   show(k _).run _=_
   rw[ih,hd];rfl
  ·rw[List.getElem?_eq_none h,List.drop_eq_nil_of_le h];rfl
 |nx k,a,ha=>by
  simp only[run]
  rw[show idx l (a:Int)=l[a]? by rw[idx,if_pos (by omega)];simp]
  rcases Nat.lt_or_ge a l.length with h|h
  ·have hd:l.drop a=l[a]::l.drop (a+1):=(List.drop_eq_getElem_cons h)
   rw[List.getElem?_eq_getElem h]
   have hc:chk .i64 ((a:Int)+1)=some ((a+1:Nat):Int):=chkA (by omega) (by omega)
   simp only[Option.bind_some,hc]
   rw[run_go l hl (k l[a].Text) (a+1) (by omega),hd];rfl
  ·rw[List.getElem?_eq_none h,List.drop_eq_nil_of_le h];rfl
end PT
end Go.Proofs.YtcbjbgiboimgaaaGreatDoor
namespace Go.Proofs.YtcbjbgiboimgaaaGreatDoor
open Go Go.Abs
abbrev Nms:=List (List UInt8)
abbrev leaf (op:Int):zKr:=zKr.mk op 0 [] [] []
def T.name(k:Int):PT (List UInt8):=.kd k fun b=>if !b then .fail else .nx .ret
def T.skip(s:List UInt8):PT Bool:=.is s fun b=>if !b then .ret false else .nx fun _=>.ret true
def T.want(s:List UInt8):PT Unit:=.is s fun b=>if !b then .fail else .nx fun _=>.ret ()
def T.path_l1(cap:Bool):Nat->Nms->PT ((Nms×Bool) ⊕ Nms)
 |0,_=>.out
 |k+1,l=>.kd 2 fun b=>if b then (T.name 2).bind fun t=>(PT.ofO (app 16 l [t])).bind fun l2=>
  (if cap then .is [46] fun c=>.ret (!c) else .ret false:PT Bool).bind fun c=>if c then .ret (.inl (l2,false)) else (T.want [46]).bind fun _=>T.path_l1 cap k l2
  else .ret (.inr l)
def T.path(fuel:Nat)(cap:Bool):PT (Nms×Bool):=
 (T.path_l1 cap fuel []).bind fun r=>Sum.elim (fun v=>.ret v) (fun l=>(T.name 1).bind fun t=>(PT.ofO (app 16 l [t])).bind fun l=>.ret (l,true)) r
def T.typePath(fuel:Nat)(args:List zKr):PT zKr:=(T.path fuel false).bind fun v=>.ret (zKr.mk 2 0 [] v.1 args)
def T.mods_l1:Nat->Nms->PT Nms
 |0,_=>.out
 |k+1,l=>(T.skip [46]).bind fun b=>if b then (T.name 2).bind fun t=>(PT.ofO (app 16 l [t])).bind fun l2=>T.mods_l1 k l2 else .ret l
def T.mods(fuel:Nat):PT Nms:=(T.name 2).bind fun t=>T.mods_l1 fuel [t]
def T.named:PT Bool:=.kd 2 fun b=>if b then .ret true else .kd 1 .ret
def T.sep(s:List UInt8)(F:PT zKr):Nat->List zKr->PT (List zKr)
 |0,_=>.out
 |k+1,l=>(T.skip s).bind fun b=>if b then F.bind fun v=>(PT.ofO (app 80 l [v])).bind fun l2=>T.sep s F k l2 else .ret l
def T.pfx_l1(fuel:Nat):Nat->zKr->PT zKr
 |0,_=>.out
 |k+1,t=>T.named.bind fun b=>if b then (T.typePath fuel [t]).bind fun u=>T.pfx_l1 fuel k u else .ret t
mutual
def T.simple:Nat->PT zKr
 |0=>.out
 |fuel+1=>.kd 3 fun b=>if b then (T.name 3).bind fun t=>.ret (zKr.mk 1 0 t [] [])
  else (T.skip [40]).bind fun b=>if !b then (T.typePath fuel []).bind .ret
  else (T.skip [109,111,100,117,108,101]).bind fun b=>if b then (T.mods fuel).bind fun l=>(T.want [41]).bind fun _=>.ret (zKr.mk 5 0 [] l [])
  else (T.typ fuel).bind fun t=>(T.sep [44] (T.typ fuel) fuel [t]).bind fun l=>(T.want [41]).bind fun _=>
   if eqI (l.length:Int) 1 then (PT.ofO l[0]?).bind .ret else (T.typePath fuel l).bind .ret
def T.pfx:Nat->PT zKr
 |0=>.out
 |fuel+1=>(T.simple fuel).bind fun t=>(T.pfx_l1 fuel fuel t).bind .ret
def T.product:Nat->PT zKr
 |0=>.out
 |fuel+1=>(T.pfx fuel).bind fun t=>(T.sep [42] (T.pfx fuel) fuel [t]).bind fun l=>
  if eqI (l.length:Int) 1 then (PT.ofO l[0]?).bind .ret else .ret (zKr.mk 4 0 [] [] l)
def T.typ:Nat->PT zKr
 |0=>.out
 |fuel+1=>(T.product fuel).bind fun t=>(T.skip [45,62]).bind fun b=>if b then (T.typ fuel).bind fun u=>.ret (zKr.mk 3 0 [] [] [t,u]) else .ret t
end
def T.number(fuel:Nat):PT Int:=(T.name 4).bind fun t=>(PT.ofO (zCv fuel t)).bind fun v=>.ret v.1
def T.anyOf:List (List UInt8)->PT Bool
 |[]=>.ret false
 |[s]=>.is s .ret
 |s::r=>.is s fun b=>if b then .ret true else T.anyOf r
mutual
def T.argument:Nat->PT zKr
 |0=>.out
 |fuel+1=>(T.skip [95]).bind fun b=>if b then .ret (leaf 11)
  else (T.skip [126]).bind fun b=>if b then (T.number fuel).bind fun n=>(PT.ofO (chk .i64 (-n))).bind fun m=>.ret (zKr.mk 13 m [] [] [])
  else .kd 4 fun b=>if b then (T.number fuel).bind fun n=>.ret (zKr.mk 13 n [] [] [])
  else .kd 1 fun b=>if b then (T.name 1).bind fun t=>.ret (zKr.mk 12 0 t [] [])
  else .kd 2 fun b=>if b then (T.mods fuel).bind fun l=>.ret (zKr.mk 14 0 [] l [])
  else (T.want [40]).bind fun _=>(T.skip [41]).bind fun b=>if b then .ret (leaf 15)
  else (T.pattern fuel).bind fun t=>(T.sep [44] (T.pattern fuel) fuel [t]).bind fun l=>(T.want [41]).bind fun _=>
   if eqI (l.length:Int) 1 then (PT.ofO l[0]?).bind .ret else .ret (zKr.mk 15 0 [] [] l)
def T.pattern:Nat->PT zKr
 |0=>.out
 |fuel+1=>.kd 2 fun b=>if !b then (T.argument fuel).bind .ret
  else (T.mods fuel).bind fun l=>(T.named.bind fun b=>if b then .ret true else .kd 4 fun b=>if b then .ret true else T.anyOf [[95],[126],[40]]).bind fun b=>
   if b then (T.argument fuel).bind fun t=>.ret (zKr.mk 14 0 [] l [t]) else .ret (zKr.mk 14 0 [] l [])
end
def T.begins:PT Bool:=.kd 4 fun b=>if b then .ret true else .kd 5 fun b=>if b then .ret true else .kd 1 fun b=>if b then .ret true else .kd 2 fun b=>if b then .ret true
 else T.anyOf [[40],[108,101,116],[99,97,115,101]]
def OPS:List (Int×List UInt8×Int):=[(1,[111,114,101,108,115,101],1),(2,[97,110,100,97,108,115,111],2),(3,[61],3),(3,[60],4),(3,[60,61],5),(4,[94],6),(5,[43],7),(5,[45],8),(6,[42],9),(6,[100,105,118],10),(6,[109,111,100],11)]
def T.ops(n:Int):List (Int×List UInt8×Int)->PT Int
 |[]=>.ret 0
 |q::r=>if eqI n q.1 then .is q.2.1 fun b=>if b then .ret q.2.2 else T.ops n r else T.ops n r
def T.choice_l1(fuel:Nat)(F:PT zKr):Nat->List zKr->PT zKr
 |0,_=>.out
 |k+1,L=>(T.pattern fuel).bind fun p=>(T.want [61,62]).bind fun _=>F.bind fun x=>(PT.ofO (app 80 [p] [x])).bind fun l=>(PT.ofO (app 80 L [zKr.mk 30 0 [] [] l])).bind fun L2=>
  (T.skip [124]).bind fun b=>if !b then (T.want [101,110,100]).bind fun _=>.ret (zKr.mk 29 0 [] [] L2) else T.choice_l1 fuel F k L2
def T.negation_l1(F:PT zKr):Nat->zKr->PT zKr
 |0,_=>.out
 |k+1,t=>T.begins.bind fun b=>if b then F.bind fun u=>T.negation_l1 F k (zKr.mk 26 0 [] [] [t,u]) else .ret t
def T.level_l1(F:Int->PT zKr)(n n2:Int):Nat->zKr->PT zKr
 |0,_=>.out
 |k+1,t=>(T.ops n OPS).bind fun o=>if eqI o 0 then .ret t else .nx fun _=>
  if eqI n 1 then (F n).bind fun u=>.ret (zKr.mk 32 o [] [] [t,u])
  else if eqI n 2 then (F n).bind fun u=>.ret (zKr.mk 32 o [] [] [t,u])
  else if eqI n 4 then (F n).bind fun u=>.ret (zKr.mk 32 o [] [] [t,u])
  else if eqI n 3 then (F (n+1)).bind fun u=>.ret (zKr.mk 32 o [] [] [t,u])
  else (F n2).bind fun u=>T.level_l1 F n n2 k (zKr.mk 32 o [] [] [t,u])
def T.decl_l1:Nat->Nms->PT Nms
 |0,_=>.out
 |k+1,l=>.kd 1 fun b=>if b then (T.name 1).bind fun t=>(PT.ofO (app 16 l [t])).bind fun l2=>T.decl_l1 k l2 else .ret l
def T.let_l1(F:PT zKr):Nat->List zKr->PT (List zKr)
 |0,_=>.out
 |k+1,l=>(T.skip [105,110]).bind fun b=>if !b then F.bind fun v=>(PT.ofO (app 80 l [v])).bind fun l2=>T.let_l1 F k l2 else .ret l
mutual
def T.inside:Nat->PT zKr
 |0=>.out
 |fuel+1=>(T.skip [41]).bind fun b=>if b then .ret (leaf 27)
  else (T.skip [112,97,99,107]).bind fun b=>if b then (T.mods fuel).bind fun l=>(T.want [58]).bind fun _=>(T.mods fuel).bind fun m=>(T.want [41]).bind fun _=>.ret (zKr.mk 34 0 [] l [zKr.mk 72 0 [] m []])
  else (T.expr fuel).bind fun t=>(T.skip [58]).bind fun b=>if b then (T.typ fuel).bind fun u=>(PT.ofO (app 80 [t] [u])).bind fun l=>(T.want [41]).bind fun _=>.ret (zKr.mk 33 0 [] [] l)
  else (T.sep [44] (T.expr fuel) fuel [t]).bind fun l=>(T.want [41]).bind fun _=>if eqI (l.length:Int) 1 then (PT.ofO l[0]?).bind .ret else .ret (zKr.mk 27 0 [] [] l)
def T.choice:Nat->PT zKr
 |0=>.out
 |fuel+1=>(T.expr fuel).bind fun t=>(T.want [111,102]).bind fun _=>T.choice_l1 fuel (T.expr fuel) fuel [t]
def T.negation:Nat->PT zKr
 |0=>.out
 |fuel+1=>(T.skip [126]).bind fun b=>if b then (T.negation fuel).bind fun t=>.ret (zKr.mk 32 12 [] [] [t])
  else (T.atom fuel).bind fun t=>(T.negation_l1 (T.atom fuel) fuel t).bind .ret
def T.level:Nat->Int->PT zKr
 |0,_=>.out
 |fuel+1,n=>if eqI n 7 then (T.negation fuel).bind .ret
  else (PT.ofO (chk .i64 (n+1))).bind fun m=>(T.level fuel m).bind fun t=>T.level_l1 (T.level fuel) n m fuel t
def T.expr:Nat->PT zKr
 |0=>.out
 |fuel+1=>(T.skip [102,110]).bind fun b=>if b then (T.skip [95]).bind fun b=>if !b then
  (T.name 1).bind fun s=>(T.want [61,62]).bind fun _=>(T.expr fuel).bind fun t=>.ret (zKr.mk 25 0 s [] [t])
  else (T.want [61,62]).bind fun _=>(T.expr fuel).bind fun t=>.ret (zKr.mk 25 0 [] [] [t])
  else (T.skip [105,102]).bind fun b=>if b then (T.expr fuel).bind fun t=>(T.want [116,104,101,110]).bind fun _=>(T.expr fuel).bind fun u=>(PT.ofO (app 80 [t] [u])).bind fun l=>
   (T.want [101,108,115,101]).bind fun _=>(T.expr fuel).bind fun v=>(PT.ofO (app 80 l [v])).bind fun l2=>.ret (zKr.mk 28 0 [] [] l2)
  else (T.level fuel 1).bind .ret
def T.decl:Nat->PT zKr
 |0=>.out
 |fuel+1=>(T.skip [118,97,108]).bind fun b=>if b then (T.name 1).bind fun s=>(T.want [61]).bind fun _=>(T.expr fuel).bind fun t=>.ret (zKr.mk 41 0 s [] [t])
  else (T.skip [102,117,110]).bind fun b=>if b then (T.name 1).bind fun s=>(T.name 1).bind fun x=>(T.decl_l1 fuel [x]).bind fun l=>(T.want [61]).bind fun _=>(T.expr fuel).bind fun t=>.ret (zKr.mk 42 0 s l [t])
  else (T.want [115,116,114,117,99,116,117,114,101]).bind fun _=>(T.name 2).bind fun s=>(T.want [61]).bind fun _=>(T.want [117,110,112,97,99,107]).bind fun _=>(T.atom fuel).bind fun t=>
   (T.want [58]).bind fun _=>(T.mods fuel).bind fun m=>(PT.ofO (app 80 [t] [zKr.mk 72 0 [] m []])).bind fun l=>.ret (zKr.mk 50 0 s [] l)
def T.let:Nat->PT zKr
 |0=>.out
 |fuel+1=>(T.let_l1 (T.decl fuel) fuel []).bind fun L=>(T.expr fuel).bind fun t=>(PT.ofO (app 80 L [t])).bind fun l=>(T.want [101,110,100]).bind fun _=>.ret (zKr.mk 31 0 [] [] l)
def T.atom:Nat->PT zKr
 |0=>.out
 |fuel+1=>.kd 4 fun b=>if b then (T.number fuel).bind fun n=>.ret (zKr.mk 21 n [] [] [])
  else .kd 5 fun b=>if b then (T.name 5).bind fun s=>.ret (zKr.mk 22 0 s [] [])
  else T.named.bind fun b=>if b then (T.path fuel true).bind fun v=>if v.2 then .ret (zKr.mk 23 0 [] v.1 []) else .ret (zKr.mk 24 0 [] v.1 [])
  else (T.skip [108,101,116]).bind fun b=>if b then (T.let fuel).bind .ret
  else (T.skip [99,97,115,101]).bind fun b=>if b then (T.choice fuel).bind .ret
  else (T.want [40]).bind fun _=>(T.inside fuel).bind .ret
end
section
variable {α β:Type}
abbrev St (α:Type):=Option (zKm ⊕ (α×zKm))
theorem run_then(x:PT α)(f:α->PT β)(w:zKm):(x.bind f).run w=(x.run w).bind fun v=>Sum.elim (fun e=>some (.inl e)) (fun v=>(f v.1).run v.2) v:=PT.run_bind f x w
theorem run_ite(c:Prop)[Decidable c](x y:PT α)(w:zKm):(if c then x else y).run w=if c then x.run w else y.run w:=by split<;>rfl
theorem zEy(c:Prop)[Decidable c](x y:PT α)(f:α->PT β):(if c then x else y).bind f=if c then x.bind f else y.bind f:=by split<;>rfl
theorem zFP(a:α)(w:zKm):(PT.ret a).run w=some (.inr (a,w)):=rfl
theorem zFC(x:Option α)(f:α->PT β)(w:zKm):((PT.ofO x).bind f).run w=x.bind fun v=>(f v).run w:=by cases x<;>rfl
theorem zKG(n:Int)(f:Bool->PT β)(w:zKm):(PT.kd n f).run w=(zAM n w).bind fun b=>(f b).run w:=by
 simp only[PT.run,zAM];cases idx w.l w.at_<;>rfl
theorem run_is(s:List UInt8)(f:Bool->PT β)(w:zKm):(PT.is s f).run w=(zAI s w).bind fun b=>(f b).run w:=by
 simp only[PT.run,zAI]
 cases idx w.l w.at_ with
 |none=>rfl
 |some t=>
  show(f (isB (ktk t) s)).run w=(f (if eqI t.Kind 6=true then eqS t.Text s else eqI t.Kind 7&&eqS t.Text s)).run w
  rw[show isB (ktk t) s=if eqI t.Kind 6=true then eqS t.Text s else eqI t.Kind 7&&eqS t.Text s from ?_]
  simp only[isB,ktk]
  cases eqI t.Kind 6<;>simp
theorem zEs(s:List UInt8)(f:Bool->PT β)(w:zKm):((T.skip s).bind f).run w=(zAH s w).bind fun v=>(f v.1).run v.2:=by
 simp only[T.skip,PT.bind,run_is,zAH]
 cases h:zAI s w with
 |none=>rfl
 |some b=>
  cases b with
  |false=>rfl
  |true=>
   simp only[zAI] at h
   simp only[Option.bind_some,Bool.not_true,Bool.false_eq_true,if_false,PT.bind,PT.run]
   cases hi:idx w.l w.at_ with
   |none=>rw[hi] at h;cases h
   |some t=>
    simp only[Option.bind_some]
    cases chk .i64 (w.at_+1)<;>rfl
theorem zFA(s:List UInt8)(f:Unit->PT β)(w:zKm):((T.want s).bind f).run w=(zAL s w).bind fun v=>Sum.elim (fun e=>some (.inl e)) (fun v=>(f ()).run v) v:=by
 have h1:(T.want s).bind f=(T.skip s).bind fun b=>if !b then .fail else f ():=by
  simp only[T.want,T.skip,PT.bind]
  congr 1
  funext b
  cases b<;>rfl
 rw[h1,zEs]
 simp only[zAL]
 cases zAH s w with
 |none=>rfl
 |some v=>
  obtain⟨b,w⟩:=v
  cases b<;>rfl
theorem zFQ(k:Int)(f:List UInt8->PT β)(w:zKm):((T.name k).bind f).run w=(zAT k w).bind fun v=>Sum.elim (fun e=>some (.inl w)) (fun v=>(f v.1).run v.2) v:=by
 simp only[T.name,PT.bind,zKG,zAT]
 cases h:zAM k w with
 |none=>rfl
 |some b=>
  cases b with
  |false=>rfl
  |true=>
   simp only[Option.bind_some,Bool.not_true,Bool.false_eq_true,if_false,PT.bind,PT.run]
   simp only[zAM] at h
   cases hi:idx w.l w.at_ with
   |none=>rw[hi] at h;cases h
   |some t=>
    simp only[Option.bind_some]
    cases hc:chk .i64 (w.at_+1) with
    |none=>rfl
    |some a=>
     have ha:a=w.at_+1:=by
      rw[chk] at hc;split at hc
      ·cases hc;rfl
      ·cases hc
     subst ha
     rw[idx] at hi
     split at hi
     ·rename_i h0
      have hl:((w.at_.toNat:Nat):Int)=w.at_:=Int.toNat_of_nonneg h0
      have hc2:chk .i64 (w.at_+1-1)=some w.at_:=by
       rw[chk] at hc ⊢
       split at hc
       ·rename_i hr
        rw[if_pos]
        ·congr 1;omega
        ·have:=hr.1;have:=hr.2
         exact⟨by show(-9223372036854775808:Int)<=_;omega,by have h3:w.at_+1<=(9223372036854775807:Int):=hr.2;show _<=(9223372036854775807:Int);omega⟩
       ·cases hc
      simp only[Option.bind_some,hc2]
      rw[show idx w.l w.at_=some t by rw[idx,if_pos h0];exact hi]
      rfl
     ·cases hi
theorem zKF(f:Bool->PT β)(w:zKm):(T.named.bind f).run w=(zBJ w).bind fun v=>(f v).run w:=by
 simp only[T.named,PT.bind,zEy,zKG,run_ite,zBJ]
 cases zAM 2 w with
 |none=>rfl
 |some b=>
  cases b with
  |true=>rfl
  |false=>cases h:zAM 1 w<;>simp[h]
theorem zH8(s:List UInt8)(f:Bool->PT β)(w:zKm):((T.anyOf [s]).bind f).run w=(zAI s w).bind fun b=>(f b).run w:=run_is s f w
theorem zHK(s s':List UInt8)(r:List (List UInt8))(f:Bool->PT β)(w:zKm):((T.anyOf (s::s'::r)).bind f).run w=(zAI s w).bind fun b=>if b then (f true).run w else ((T.anyOf (s'::r)).bind f).run w:=by
 show((PT.is s fun b=>if b then .ret true else T.anyOf (s'::r)).bind f).run w=_
 simp only[PT.bind,run_is]
 cases zAI s w with
 |none=>rfl
 |some b=>cases b<;>rfl
theorem run_begins(f:Bool->PT β)(w:zKm):(T.begins.bind f).run w=(zCC w).bind fun v=>(f v).run w:=by
 simp only[T.begins,PT.bind,zEy,zKG,run_ite,zCC,zAM,zHK,zH8]
 cases idx w.l w.at_ with
 |none=>rfl
 |some t=>
  simp only[Option.bind_some]
  split
  ·rfl
  ·split
   ·rfl
   ·split
    ·rfl
    ·split
     ·rfl
     ·cases zAI [40] w with
      |none=>rfl
      |some b=>
       cases b with
       |true=>rfl
       |false=>
        simp only[Option.bind_some]
        cases zAI [108,101,116] w with
        |none=>rfl
        |some b=>
         cases b with
         |true=>rfl
         |false=>
          simp only[Option.bind_some]
          cases zAI [99,97,115,101] w<;>rfl
def MO(n:Int)(w:zKm):List (Int×List UInt8×Int)->Option Int
 |[]=>some 0
 |q::r=>(if eqI n q.1 then (zAI q.2.1 w).bind fun v=>some v else some false:Option Bool).bind fun b=>if b then some q.2.2 else MO n w r
theorem zJl(n:Int)(w:zKm):zBq n w=MO n w OPS:=rfl
theorem run_ops(n:Int)(f:Int->PT β)(w:zKm): ∀L,((T.ops n L).bind f).run w=(MO n w L).bind fun v=>(f v).run w
 |[]=>rfl
 |q::r=>by
  simp only[T.ops,MO,zEy,run_ite,PT.bind,run_is,run_ops n f w r]
  split
  ·cases zAI q.2.1 w with
   |none=>rfl
   |some b=>cases b<;>rfl
  ·rfl
end
abbrev Cps (α:Type) (T:PT α) (X:zKm->St α):Prop:= ∀w,T.run w=X w
theorem Cps.then{α β:Type}{T:PT α}{X:zKm->St α}(h:Cps α T X)(f:α->PT β)(w:zKm):
 (T.bind f).run w=(X w).bind fun v=>Sum.elim (fun e=>some (.inl e)) (fun v=>(f v.1).run v.2) v:=by rw[run_then,h w]
def ML(s:List UInt8)(F:zKm->St zKr):Nat->(List zKp)->Int->(List zKr)->Option (((zKm) ⊕ (zKr×zKm)) ⊕ ((List zKr)×(List zKp)×Int))
 |0,_,_,_=>none
 |k+1,l,a,x=>
  (zAH s (zKm.mk l a)).bind fun v=>
  if v.1 then
   (F v.2).bind fun v52=>
   Sum.elim (fun e54=>
    some (.inl (.inl e54))) (fun v55=>
    (app 80 x [v55.1]).bind fun l56=>
    ML s F k v55.2.l v55.2.at_ l56) v52
  else
   some (.inr (x,v.2.l,v.2.at_))
theorem ML_simple(F:zKm->St zKr): ∀k l a x,zBR F k l a x=ML [44] F k l a x
 |0,_,_,_=>rfl
 |k+1,l,a,x=>by simp only[zBR,ML,ML_simple F k]
theorem ML_product(F:zKm->St zKr): ∀k l a x,zBI F k l a x=ML [42] F k l a x
 |0,_,_,_=>rfl
 |k+1,l,a,x=>by simp only[zBI,ML,ML_product F k]
theorem zJ7(F:zKm->St zKr): ∀k l a x,zBE F k l a x=ML [44] F k l a x
 |0,_,_,_=>rfl
 |k+1,l,a,x=>by simp only[zBE,ML,zJ7 F k]
theorem ML_inside(F:zKm->St zKr): ∀k l a x,zBS F k l a x=ML [44] F k l a x
 |0,_,_,_=>rfl
 |k+1,l,a,x=>by simp only[zBS,ML,ML_inside F k]
theorem sep_run(s:List UInt8){FT:PT zKr}{FM:zKm->St zKr}(hF:Cps _ FT FM)(f:List zKr->PT zKr): ∀k l a x,
 ((T.sep s FT k x).bind f).run (zKm.mk l a)=(ML s FM k l a x).bind fun o=>Sum.elim some (fun o=>(f o.1).run (zKm.mk o.2.1 o.2.2)) o
 |0,_,_,_=>rfl
 |k+1,l,a,x=>by
  simp only[T.sep,PT.bind_assoc,zEy,zEs,run_ite,PT.bind,hF.then,zFC,ML]
  cases zAH s (zKm.mk l a) with
  |none=>rfl
  |some v=>
   obtain⟨b,w⟩:=v
   cases b with
   |false=>rfl
   |true=>
    simp only[Option.bind_some,if_true]
    cases FM w with
    |none=>rfl
    |some r=>
     cases r with
     |inl e=>rfl
     |inr v=>
      simp only[Option.bind_some,Sum.elim_inr]
      cases app 80 x [v.1] with
      |none=>rfl
      |some l2=>exact sep_run s hF f k v.2.l v.2.at_ l2
theorem zJj(cap:Bool){β:Type}(f:(Nms×Bool) ⊕ Nms->PT β): ∀k l a x,
 ((T.path_l1 cap k x).bind f).run (zKm.mk l a)=(zA8 cap k l a x).bind fun o=>
  Sum.elim (Sum.elim (fun e=>some (.inl e)) (fun v=>(f (.inl (v.1,v.2.1))).run v.2.2)) (fun o=>(f (.inr o.1)).run (zKm.mk o.2.1 o.2.2)) o
 |0,_,_,_=>rfl
 |k+1,l,a,x=>by
  simp only[T.path_l1,PT.bind_assoc,zEy,zKG,run_is,zFQ,zFA,run_ite,PT.bind,zFC,zA8]
  cases zAM 2 (zKm.mk l a) with
  |none=>rfl
  |some b=>
   cases b with
   |false=>rfl
   |true=>
    simp only[Option.bind_some,if_true]
    cases zAT 2 (zKm.mk l a) with
    |none=>rfl
    |some r=>
     cases r with
     |inl e=>rfl
     |inr v=>
      simp only[Option.bind_some,Sum.elim_inr]
      cases app 16 x [v.1] with
      |none=>rfl
      |some l2=>
       have step:((T.want [46]).bind fun _=>(T.path_l1 cap k l2).bind f).run v.2=((zAL [46] v.2).bind fun v28=>
        Sum.elim (fun e30=>some (.inl (.inl e30))) (fun v31=>zA8 cap k v31.l v31.at_ l2) v28).bind fun o=>
        Sum.elim (Sum.elim (fun e=>some (.inl e)) (fun v=>(f (.inl (v.1,v.2.1))).run v.2.2)) (fun o=>(f (.inr o.1)).run (zKm.mk o.2.1 o.2.2)) o:=by
        rw[zFA]
        cases zAL [46] v.2 with
        |none=>rfl
        |some r=>
         cases r with
         |inl e=>rfl
         |inr u=>exact zJj cap f k u.l u.at_ l2
       rw[zFA] at step
       cases cap with
       |false=>simpa using step
       |true=>
        simp only[Option.bind_some,if_true]
        cases zAI [46] v.2 with
        |none=>rfl
        |some c=>
         cases c with
         |false=>rfl
         |true=>simpa using step
theorem run_path(fuel:Nat)(cap:Bool){β:Type}(f:Nms×Bool->PT β)(w:zKm):
 ((T.path fuel cap).bind f).run w=(zB4 fuel cap w).bind fun v=>Sum.elim (fun e=>some (.inl e)) (fun v=>(f (v.1,v.2.1)).run v.2.2) v:=by
 simp only[T.path,PT.bind_assoc,zB4]
 rw[show w=zKm.mk w.l w.at_ from rfl,zJj]
 cases zA8 cap fuel w.l w.at_ [] with
 |none=>rfl
 |some o=>
  cases o with
  |inl e=>cases e<;>rfl
  |inr o=>
   simp only[Option.bind_some,Sum.elim_inr,PT.bind_assoc,zFQ,zFC,PT.bind]
   cases zAT 1 (zKm.mk o.2.1 o.2.2) with
   |none=>rfl
   |some r=>
    cases r with
    |inl e=>rfl
    |inr v=>
     simp only[Option.bind_some,Sum.elim_inr]
     cases app 16 o.1 [v.1]<;>rfl
theorem zIk(fuel:Nat)(args:List zKr){β:Type}(f:zKr->PT β)(w:zKm):
 ((T.typePath fuel args).bind f).run w=(zBF fuel args w).bind fun v=>Sum.elim (fun e=>some (.inl e)) (fun v=>(f v.1).run v.2) v:=by
 simp only[T.typePath,PT.bind_assoc,zBF,run_path]
 cases zB4 fuel false w with
 |none=>rfl
 |some r=>cases r<;>rfl
theorem zJp{β:Type}(E:Nms×zKm->St β)(f:Nms->PT β): ∀k l a x,
 ((T.mods_l1 k x).bind f).run (zKm.mk l a)=(zAv k l a x).bind fun o=>
  Sum.elim (Sum.elim (fun e=>some (.inl e)) E) (fun o=>(f o.1).run (zKm.mk o.2.1 o.2.2)) o
 |0,_,_,_=>rfl
 |k+1,l,a,x=>by
  simp only[T.mods_l1,PT.bind_assoc,zEy,zEs,zFQ,run_ite,PT.bind,zFC,zAv]
  cases zAH [46] (zKm.mk l a) with
  |none=>rfl
  |some v=>
   obtain⟨b,w⟩:=v
   cases b with
   |false=>rfl
   |true=>
    simp only[Option.bind_some,if_true]
    cases zAT 2 w with
    |none=>rfl
    |some r=>
     cases r with
     |inl e=>rfl
     |inr v=>
      simp only[Option.bind_some,Sum.elim_inr]
      cases app 16 x [v.1] with
      |none=>rfl
      |some l2=>exact zJp E f k v.2.l v.2.at_ l2
theorem zIl(fuel:Nat){β:Type}(f:Nms->PT β)(w:zKm):
 ((T.mods fuel).bind f).run w=(zAo fuel w).bind fun v=>Sum.elim (fun e=>some (.inl e)) (fun v=>(f v.1).run v.2) v:=by
 simp only[T.mods,PT.bind_assoc,zAo,zFQ]
 cases zAT 2 w with
 |none=>rfl
 |some r=>
  cases r with
  |inl e=>rfl
  |inr v=>
   simp only[Option.bind_some,Sum.elim_inr]
   rw[show v.2=zKm.mk v.2.l v.2.at_ from rfl,zJp (fun v=>(f v.1).run v.2)]
   cases zAv fuel v.2.l v.2.at_ [v.1] with
   |none=>rfl
   |some o=>
    cases o with
    |inl e=>cases e<;>rfl
    |inr o=>rfl
theorem zHO(fuel:Nat)(f:zKr->PT zKr): ∀k l a (t:zKr),
 ((T.pfx_l1 fuel k t).bind f).run (zKm.mk l a)=(zA3 fuel k l a t.Op t.N t.S t.Names t.L).bind fun o=>
  Sum.elim some (fun o=>(f (zKr.mk o.2.2.1 o.2.2.2.1 o.2.2.2.2.1 o.2.2.2.2.2.1 o.2.2.2.2.2.2)).run (zKm.mk o.1 o.2.1)) o
 |0,_,_,_=>rfl
 |k+1,l,a,t=>by
  obtain⟨op,n,sx,nm,tl⟩:=t
  simp only[T.pfx_l1,PT.bind_assoc,zEy,zKF,zIk,run_ite,PT.bind,zA3]
  cases zBJ (zKm.mk l a) with
  |none=>rfl
  |some b=>
   cases b with
   |false=>rfl
   |true=>
    simp only[Option.bind_some,if_true]
    cases zBF fuel [zKr.mk op n sx nm tl] (zKm.mk l a) with
    |none=>rfl
    |some r=>
     cases r with
     |inl e=>rfl
     |inr v=>
      simp only[Option.bind_some,Sum.elim_inr]
      exact zHO fuel f k v.2.l v.2.at_ v.1
theorem run_number(fuel:Nat){β:Type}(f:Int->PT β)(w:zKm):
 ((T.number fuel).bind f).run w=(zBm fuel w).bind fun v=>Sum.elim (fun e=>some (.inl w)) (fun v=>(f v.1).run v.2) v:=by
 simp only[T.number,PT.bind_assoc,zBm,zFQ,zFC,PT.bind]
 cases zAT 4 w with
 |none=>rfl
 |some r=>
  cases r with
  |inl e=>rfl
  |inr v=>
   simp only[Option.bind_some,Sum.elim_inr]
   cases zCv fuel v.1<;>rfl
theorem zIG(fuel:Nat)(hP:Cps _ (T.pattern fuel) (zAh fuel)){FT:PT zKr}{FM:zKm->St zKr}(hF:Cps _ FT FM): ∀k l a x,
 (T.choice_l1 fuel FT k x).run (zKm.mk l a)=zBB fuel FM k l a x
 |0,_,_,_=>rfl
 |k+1,l,a,x=>by
  simp only[T.choice_l1,PT.bind_assoc,zEy,zEs,zFA,run_ite,PT.bind,hP.then,hF.then,zFC,zFP,zBB]
  congr 1;funext v;congr 1;funext v;congr 1;funext v;congr 1;funext v;congr 1;funext v;congr 1;funext v;congr 1;funext l1;congr 1;funext l2;congr 1;funext u
  rw[show u.2=zKm.mk u.2.l u.2.at_ from rfl,zIG fuel hP hF k]
theorem zGr{FT:PT zKr}{FM:zKm->St zKr}(hF:Cps _ FT FM)(f:zKr->PT zKr): ∀k l a (t:zKr),
 ((T.negation_l1 FT k t).bind f).run (zKm.mk l a)=(zAz FM k l a t.Op t.N t.S t.Names t.L).bind fun o=>
  Sum.elim some (fun o=>(f (zKr.mk o.2.2.1 o.2.2.2.1 o.2.2.2.2.1 o.2.2.2.2.2.1 o.2.2.2.2.2.2)).run (zKm.mk o.1 o.2.1)) o
 |0,_,_,_=>rfl
 |k+1,l,a,t=>by
  obtain⟨op,n,sx,nm,tl⟩:=t
  simp only[T.negation_l1,PT.bind_assoc,zEy,run_begins,hF.then,run_ite,PT.bind,zAz]
  cases zCC (zKm.mk l a) with
  |none=>rfl
  |some b=>
   cases b with
   |false=>rfl
   |true=>
    simp only[Option.bind_some,if_true]
    cases FM (zKm.mk l a) with
    |none=>rfl
    |some r=>
     cases r with
     |inl e=>rfl
     |inr v=>
      simp only[Option.bind_some,Sum.elim_inr]
      exact zGr hF f k v.2.l v.2.at_ (zKr.mk 26 0 [] [] [zKr.mk op n sx nm tl,v.1])
theorem MO_idx(n:Int)(w:zKm)(hi:idx w.l w.at_=none): ∀L o,MO n w L=some o->o=0
 |[],o,h=>(zqa h).symm
 |q::r,o,h=>by
  simp only[MO,zAI,hi] at h
  split at h
  ·cases h
  ·exact MO_idx n w hi r o h
theorem run_nx(n:Int){o:Int}(w:zKm){β:Type}(x:PT β)(h:zBq n w=some o)(h0:eqI o 0=false):(PT.nx fun _=>x).run w=(chk .i64 (w.at_+1)).bind fun a=>x.run (zKm.mk w.l a):=by
 simp only[PT.run]
 cases hi:idx w.l w.at_ with
 |some t=>rfl
 |none=>
  rw[zJl] at h
  have:=MO_idx n w hi OPS o h
  subst this;cases h0
theorem zI0{FT:Int->PT zKr}{FM:Int->zKm->St zKr}(hF: ∀n,Cps _ (FT n) (FM n))(n n2:Int): ∀k l a (t:zKr),
 (T.level_l1 FT n n2 k t).run (zKm.mk l a)=zBG FM n n2 k l a t.Op t.N t.S t.Names t.L
 |0,_,_,_=>rfl
 |k+1,l,a,t=>by
  obtain⟨op,m,sx,nm,tl⟩:=t
  simp only[T.level_l1,run_ops,<-zJl,zBG]
  cases ho:zBq n (zKm.mk l a) with
  |none=>rfl
  |some o=>
   simp only[Option.bind_some]
   cases h0:eqI o 0 with
   |true=>rfl
   |false=>
    simp only[Bool.false_eq_true,if_false]
    rw[run_nx n _ _ ho h0]
    simp only[run_ite,(hF _).then,zFP]
    congr 1;funext b
    split;· rfl
    split;· rfl
    split;· rfl
    split;· rfl
    congr 1;funext v
    cases v with
    |inl e=>rfl
    |inr v=>exact zI0 hF n n2 k v.2.l v.2.at_ _
theorem zJ1(f:Nms->PT zKr): ∀k l a x,
 ((T.decl_l1 k x).bind f).run (zKm.mk l a)=(zBN k l a x).bind fun o=>
  Sum.elim some (fun o=>(f o.2.2).run (zKm.mk o.1 o.2.1)) o
 |0,_,_,_=>rfl
 |k+1,l,a,x=>by
  simp only[T.decl_l1,PT.bind_assoc,zEy,zKG,zFQ,run_ite,PT.bind,zFC,zBN]
  cases zAM 1 (zKm.mk l a) with
  |none=>rfl
  |some b=>
   cases b with
   |false=>rfl
   |true=>
    simp only[Option.bind_some,if_true]
    cases zAT 1 (zKm.mk l a) with
    |none=>rfl
    |some r=>
     cases r with
     |inl e=>rfl
     |inr v=>
      simp only[Option.bind_some,Sum.elim_inr]
      cases app 16 x [v.1] with
      |none=>rfl
      |some l2=>exact zJ1 f k v.2.l v.2.at_ l2
theorem let_l1_run{FT:PT zKr}{FM:zKm->St zKr}(hF:Cps _ FT FM)(f:List zKr->PT zKr): ∀k l a x,
 ((T.let_l1 FT k x).bind f).run (zKm.mk l a)=(zBV FM k l a x).bind fun o=>Sum.elim some (fun o=>(f o.2.2).run (zKm.mk o.1 o.2.1)) o
 |0,_,_,_=>rfl
 |k+1,l,a,x=>by
  simp only[T.let_l1,PT.bind_assoc,zEy,zEs,run_ite,PT.bind,hF.then,zFC,zBV]
  cases zAH [105,110] (zKm.mk l a) with
  |none=>rfl
  |some v=>
   obtain⟨b,w⟩:=v
   cases b with
   |true=>rfl
   |false=>
    simp only[Option.bind_some,Bool.not_false,if_true]
    cases FM w with
    |none=>rfl
    |some r=>
     cases r with
     |inl e=>rfl
     |inr v=>
      simp only[Option.bind_some,Sum.elim_inr]
      cases app 80 x [v.1] with
      |none=>rfl
      |some l2=>exact let_l1_run hF f k v.2.l v.2.at_ l2
theorem sep_w(s:List UInt8){FT:PT zKr}{FM:zKm->St zKr}(hF:Cps _ FT FM)(f:List zKr->PT zKr)(k:Nat)(x:List zKr)(w:zKm):
 ((T.sep s FT k x).bind f).run w=(ML s FM k w.l w.at_ x).bind fun o=>Sum.elim some (fun o=>(f o.1).run (zKm.mk o.2.1 o.2.2)) o:=sep_run s hF f k w.l w.at_ x
theorem postfix_w(fuel:Nat)(f:zKr->PT zKr)(k:Nat)(t:zKr)(w:zKm):
 ((T.pfx_l1 fuel k t).bind f).run w=(zA3 fuel k w.l w.at_ t.Op t.N t.S t.Names t.L).bind fun o=>
  Sum.elim some (fun o=>(f (zKr.mk o.2.2.1 o.2.2.2.1 o.2.2.2.2.1 o.2.2.2.2.2.1 o.2.2.2.2.2.2)).run (zKm.mk o.1 o.2.1)) o:=zHO fuel f k w.l w.at_ t
theorem negation_w{FT:PT zKr}{FM:zKm->St zKr}(hF:Cps _ FT FM)(f:zKr->PT zKr)(k:Nat)(t:zKr)(w:zKm):
 ((T.negation_l1 FT k t).bind f).run w=(zAz FM k w.l w.at_ t.Op t.N t.S t.Names t.L).bind fun o=>
  Sum.elim some (fun o=>(f (zKr.mk o.2.2.1 o.2.2.2.1 o.2.2.2.2.1 o.2.2.2.2.2.1 o.2.2.2.2.2.2)).run (zKm.mk o.1 o.2.1)) o:=zGr hF f k w.l w.at_ t
theorem choice_w(fuel:Nat)(hP:Cps _ (T.pattern fuel) (zAh fuel)){FT:PT zKr}{FM:zKm->St zKr}(hF:Cps _ FT FM)(k:Nat)(x:List zKr)(w:zKm):
 (T.choice_l1 fuel FT k x).run w=zBB fuel FM k w.l w.at_ x:=zIG fuel hP hF k w.l w.at_ x
theorem level_w{FT:Int->PT zKr}{FM:Int->zKm->St zKr}(hF: ∀n,Cps _ (FT n) (FM n))(n n2:Int)(k:Nat)(t:zKr)(w:zKm):
 (T.level_l1 FT n n2 k t).run w=zBG FM n n2 k w.l w.at_ t.Op t.N t.S t.Names t.L:=zI0 hF n n2 k w.l w.at_ t
theorem decl_w(f:Nms->PT zKr)(k:Nat)(x:Nms)(w:zKm):
 ((T.decl_l1 k x).bind f).run w=(zBN k w.l w.at_ x).bind fun o=>Sum.elim some (fun o=>(f o.2.2).run (zKm.mk o.1 o.2.1)) o:=zJ1 f k w.l w.at_ x
theorem let_w{FT:PT zKr}{FM:zKm->St zKr}(hF:Cps _ FT FM)(f:List zKr->PT zKr)(k:Nat)(x:List zKr)(w:zKm):
 ((T.let_l1 FT k x).bind f).run w=(zBV FM k w.l w.at_ x).bind fun o=>Sum.elim some (fun o=>(f o.2.2).run (zKm.mk o.1 o.2.1)) o:=let_l1_run hF f k w.l w.at_ x
theorem zJ9: ∀fuel,Cps _ (T.simple fuel) (zB9 fuel)∧Cps _ (T.pfx fuel) (zBM fuel)∧Cps _ (T.product fuel) (zB1 fuel)∧Cps _ (T.typ fuel) (zAu fuel)
 |0=>⟨fun _=>rfl,fun _=>rfl,fun _=>rfl,fun _=>rfl⟩
 |fuel+1=>by
  obtain⟨h1,h2,h3,h4⟩:=zJ9 fuel
  have ss:=sep_w [44] h4
  have sp:=sep_w [42] h2
  refine⟨fun w=>?_,fun w=>?_,fun w=>?_,fun w=>?_⟩
  ·simp only[T.simple,zB9,ML_simple,zKG,run_ite,zFQ,zFP,zEs,zIk,zIl,zFA,h4.then,ss,zFC]
  ·simp only[T.pfx,zBM,h1.then,zFP,postfix_w]
  ·simp only[T.product,zB1,ML_product,h2.then,zFP,run_ite,zFC,sp]
  ·simp only[T.typ,zAu,h3.then,zEs,run_ite,h4.then,zFP]
theorem pats_run: ∀fuel,Cps _ (T.argument fuel) (zBX fuel)∧Cps _ (T.pattern fuel) (zAh fuel)
 |0=>⟨fun _=>rfl,fun _=>rfl⟩
 |fuel+1=>by
  obtain⟨h1,h2⟩:=pats_run fuel
  have ss:=sep_w [44] h2
  refine⟨fun w=>?_,fun w=>?_⟩
  ·simp only[T.argument,zBX,zJ7,zKG,run_ite,zFQ,zFP,zEs,run_number,zIl,zFA,h2.then,ss,zFC]
  ·simp only[T.pattern,zAh,zKG,run_ite,h1.then,zFP,zIl,PT.bind_assoc,zEy,zKF,PT.bind,zHK,zH8]
   congr 1;funext b
   split
   ·rfl
   ·congr 1;funext v
    cases v with
    |inl e=>rfl
    |inr v=>
     simp only[Sum.elim_inr]
     cases zBJ v.2 with
     |none=>rfl
     |some b=>
      cases b with
      |true=>rfl
      |false=>
       simp only[Option.bind_some,Bool.false_eq_true,if_false]
       cases zAM 4 v.2 with
       |none=>rfl
       |some b=>
        cases b with
        |true=>rfl
        |false=>
         simp only[Option.bind_some,Bool.false_eq_true,if_false]
         cases zAI [95] v.2 with
         |none=>rfl
         |some b=>
          cases b with
          |true=>rfl
          |false=>
           simp only[Option.bind_some,Bool.false_eq_true,if_false]
           cases zAI [126] v.2 with
           |none=>rfl
           |some b=>
            cases b with
            |true=>rfl
            |false=>
             simp only[Option.bind_some,Bool.false_eq_true,if_false]
             cases zAI [40] v.2<;>rfl
theorem exprs_run: ∀fuel,Cps _ (T.inside fuel) (zCA fuel)∧Cps _ (T.choice fuel) (zCB fuel)∧Cps _ (T.negation fuel) (zBW fuel)∧(∀n,Cps _ (T.level fuel n) (zBK fuel n))∧
 Cps _ (T.expr fuel) (zAW fuel)∧Cps _ (T.decl fuel) (zB5 fuel)∧Cps _ (T.let fuel) (zCY fuel)∧Cps _ (T.atom fuel) (zA1 fuel)
 |0=>⟨fun _=>rfl,fun _=>rfl,fun _=>rfl,fun _ _=>rfl,fun _=>rfl,fun _=>rfl,fun _=>rfl,fun _=>rfl⟩
 |fuel+1=>by
  obtain⟨h1,h2,h3,h4,h5,h6,h7,h8⟩:=exprs_run fuel
  have ht:=(zJ9 fuel).2.2.2
  have hp:=(pats_run fuel).2
  have ss:=sep_w [44] h5
  have sl:=let_w h6
  refine⟨fun w=>?_,fun w=>?_,fun w=>?_,fun n w=>?_,fun w=>?_,fun w=>?_,fun w=>?_,fun w=>?_⟩
  ·simp only[T.inside,zCA,ML_inside,run_ite,zFP,zEs,zIl,zFA,h5.then,ht.then,ss,zFC]
  ·simp only[T.choice,zCB,h5.then,zFA,choice_w fuel hp h5]
  ·simp only[T.negation,zBW,zEs,run_ite,h3.then,h8.then,zFP,negation_w h8]
  ·simp only[T.level,zBK,run_ite,h3.then,zFP,zFC,(h4 _).then,level_w h4]
  ·simp only[T.expr,zAW,zEs,run_ite,zFQ,zFA,h5.then,zFP,zFC,(h4 _).then]
  ·simp only[T.decl,zB5,zEs,run_ite,zFQ,zFA,h5.then,zFP,zFC,h8.then,zIl,decl_w]
  ·simp only[T.let,zCY,h5.then,zFP,zFC,zFA,sl]
  ·simp only[T.atom,zA1,zKG,run_number,zFP,run_ite,zFQ,zKF,run_path,zEs,zFA,h1.then,h2.then,h7.then]
end Go.Proofs.YtcbjbgiboimgaaaGreatDoor
set_option linter.unusedVariables false
set_option linter.unusedSimpArgs false
set_option maxRecDepth 100000
namespace Go.Proofs.YtcbjbgiboimgaaaGreatDoor
open Go Go.Abs
theorem appA{α:Type}{b:Nat}{x y:List α}(h:0<b)(h2:(x.length+y.length)*b<=140737488355328):app b x y=some (x++y):=by rw[app,if_pos ⟨h,h2⟩]
theorem zF4(c:UInt8): ∃n,zDh c=some n∧(n=3->48<=c.toNat):=by
 unfold zDh
 simp only[leI,eqI,Bool.and_eq_true,decide_eq_true_eq]
 split
 ·exact⟨1,rfl,fun h=>by omega⟩
 ·split
  ·exact⟨2,rfl,fun h=>by omega⟩
  ·split
   ·exact⟨3,rfl,fun _=>by omega⟩
   ·split
    ·exact⟨4,rfl,fun h=>by omega⟩
    ·split
     ·exact⟨5,rfl,fun h=>by omega⟩
     ·exact⟨0,rfl,fun h=>by omega⟩
theorem zF9(s:List UInt8): ∀(n i k:Nat),i+n=s.length->n+1<=k->∃o,zBj s k i=some o∧(o=.inr ()∨o=.inl (0,3))∧(o=.inr ()->∀c,s[i]? =some c->48<=c.toNat)
 |0,i,k+1,h,hk=>by
  have h1:ltI (i:Int) (s.length:Int)=false:=by simp only[ltI,decide_eq_false_iff_not];omega
  refine⟨.inr (),?_,.inl rfl,fun _ c hc=>?_⟩
  ·rw[zBj,h1];rfl
  ·rw[List.getElem?_eq_none (by omega)] at hc;cases hc
 |n+1,i,k+1,h,hk=>by
  have h1:ltI (i:Int) (s.length:Int)=true:=by simp only[ltI,decide_eq_true_eq];omega
  have hi:i<s.length:=by omega
  rw[zBj,h1,if_pos rfl,List.getElem?_eq_getElem hi]
  obtain⟨m,hm,h3⟩:=zF4 s[i]
  simp only[Option.bind_some,hm]
  cases he:eqI m 3 with
  |false=>exact⟨.inl (0,3),by simp,.inr rfl,fun h=>by cases h⟩
  |true=>
   obtain⟨o,ho,hoo,hc⟩:=zF9 s n (i+1) k (by omega) (by omega)
   refine⟨o,by simpa using ho,hoo,fun _ c hc=>?_⟩
   cases hc
   simp only[eqI,decide_eq_true_eq] at he
   exact h3 he
theorem zKa(s:List UInt8)(hs:s.length<=20000){fuel:Nat}(hf:s.length+1<=fuel): ∃v,zCv fuel s=some v∧-4503599627370496<=-v.1∧-v.1<=0:=by
 simp only[zCv]
 have hb: ∃b,((if eqS s ([]:List UInt8) then some true else if ltI 1 (s.length:Int) then (s[0]?).bind fun c6=>some (eqI (c6.toNat:Int) 48) else some false:Option Bool))=some b∧(s=[]->b=true):=by
  by_cases h:s=[]
  ·exact⟨true,by simp[eqS,h],fun _=>rfl⟩
  ·rw[if_neg (by simp[eqS,h])]
   split
   ·rename_i h1
    simp only[ltI,decide_eq_true_eq] at h1
    rw[List.getElem?_eq_getElem (by omega)]
    exact⟨_,rfl,fun h'=>absurd h' h⟩
   ·exact⟨_,rfl,fun h'=>absurd h' h⟩
 obtain⟨b,hb,hb2⟩:=hb
 rw[hb]
 simp only[Option.bind_some]
 cases b with
 |true=>exact⟨(0,3),rfl,by decide,by decide⟩
 |false=>
  have hne:s≠[]:=fun h=>by cases hb2 h
  rw[show zKi s=some s by rw[zKi,if_pos (by omega)]]
  obtain⟨o,ho,hoo,hc⟩:=zF9 s s.length 0 fuel (by omega) (by omega)
  simp only[Bool.false_eq_true,if_false,Option.bind_some,ho]
  rcases hoo with rfl|rfl
  ·have h48:=hc rfl
   simp only[Sum.elim_inr]
   have ha: ∃u b,zEl s=some (u,b)∧0<=u:=by
    rw[zEl,if_pos (by omega)]
    cases s with
    |nil=>exact absurd rfl hne
    |cons c r=>
     have h48:=h48 c rfl
     unfold Lib.atoiAll Lib.atoiSat
     simp only
     split
     ·rename_i v hv
      refine⟨v,false,rfl,?_⟩
      split at hv
      ·cases hv
      ·cases hv
      ·split at hv
       ·cases hv
       ·split at hv
        ·cases hv
        ·cases hv
         rw[if_neg (by omega)];omega
     ·refine⟨_,true,rfl,?_⟩
      rw[if_neg (by simp;omega)];decide
     ·exact⟨0,true,rfl,by decide⟩
   obtain⟨u,b,hu,h0⟩:=ha
   simp only[hu,Option.bind_some]
   cases b with
   |true=>exact⟨(0,6),rfl,by decide,by decide⟩
   |false=>
    simp only[Bool.false_eq_true,if_false]
    split
    ·exact⟨(0,6),rfl,by decide,by decide⟩
    ·rename_i h
     simp only[ltI,decide_eq_true_eq] at h
     exact⟨(u,0),rfl,by show _<=-u;omega,by show -u<=0;omega⟩
  ·exact⟨(0,3),rfl,by decide,by decide⟩
theorem zHW(s:List UInt8): ∀(k i:Nat) o,zBj s k i=some o->zBj s (k+1) i=some o
 |0,i,o,h=>by cases h
 |k+1,i,o,h=>by
  rw[zBj] at h ⊢
  split
  ·rename_i h1
   rw[if_pos h1] at h
   cases hc:s[i]? with
   |none=>rw[hc] at h;cases h
   |some c=>
    rw[hc] at h
    obtain⟨m,hm,-⟩:=zF4 c
    simp only[Option.bind_some,hm] at h ⊢
    split
    ·rename_i h2;rw[if_pos h2] at h;exact h
    ·rename_i h2;rw[if_neg h2] at h;exact zHW s k (i+1) o h
  ·rename_i h1
   rw[if_neg h1] at h;exact h
theorem Number_mono(s:List UInt8)(fuel:Nat): ∀v,zCv fuel s=some v->zCv (fuel+1) s=some v:=by
 intro v h
 simp only[zCv] at h ⊢
 generalize hB:((if eqS s ([]:List UInt8) then some true else if ltI 1 (s.length:Int) then (s[0]?).bind fun c6=>some (eqI (c6.toNat:Int) 48) else some false:Option Bool))=B at h ⊢
 cases B with
 |none=>cases h
 |some b=>
  simp only[Option.bind_some] at h ⊢
  cases b with
  |true=>exact h
  |false=>
   simp only[Bool.false_eq_true,if_false] at h ⊢
   cases hl:zKi s with
   |none=>rw[hl] at h;cases h
   |some l=>
    rw[hl] at h
    simp only[Option.bind_some] at h ⊢
    cases ho:zBj l fuel 0 with
    |none=>rw[ho] at h;cases h
    |some o=>rw[ho] at h;rw[zHW l fuel 0 o ho];exact h
namespace PT
variable {α β:Type}
theorem le_ite(c:Prop)[Decidable c]{x y x' y':PT α}(h:le x x')(h2:le y y'):le (if c then x else y) (if c then x' else y'):=by split<;>assumption
theorem le_elim{γ δ:Type}(r:γ ⊕ δ){f f':γ->PT α}{g g':δ->PT α}(h: ∀a,le (f a) (f' a))(h2: ∀a,le (g a) (g' a)):le (Sum.elim f g r) (Sum.elim f' g' r):=by cases r with
 |inl a=>exact h a
 |inr a=>exact h2 a
end PT
open PT in
theorem path_l1_le(cap:Bool): ∀k x,PT.le (T.path_l1 cap k x) (T.path_l1 cap (k+1) x)
 |0,x=>.out _
 |k+1,x=>by
  have ih:=path_l1_le cap k
  rw[T.path_l1,T.path_l1]
  repeat' first|exact ih _|exact le_refl _|apply le_bind|apply PT.le.kd|apply le_ite|intro _
theorem path_le(fuel:Nat)(cap:Bool):PT.le (T.path fuel cap) (T.path (fuel+1) cap):=
 PT.le_bind (path_l1_le cap fuel []) fun _=>PT.le_refl _
theorem zJV(fuel:Nat)(x:List zKr):PT.le (T.typePath fuel x) (T.typePath (fuel+1) x):=
 PT.le_bind (path_le fuel false) fun _=>PT.le_refl _
open PT in
theorem mods_l1_le: ∀k x,PT.le (T.mods_l1 k x) (T.mods_l1 (k+1) x)
 |0,x=>.out _
 |k+1,x=>by
  have ih:=mods_l1_le k
  rw[T.mods_l1,T.mods_l1]
  repeat' first|exact ih _|exact le_refl _|apply le_ite|apply le_bind|intro _
theorem mods_le(fuel:Nat):PT.le (T.mods fuel) (T.mods (fuel+1)):=
 PT.le_bind (PT.le_refl _) fun _=>mods_l1_le fuel _
theorem number_le(fuel:Nat):PT.le (T.number fuel) (T.number (fuel+1)):=
 PT.le_bind (PT.le_refl _) fun _=>PT.le_bind (PT.le_ofO (Number_mono _ fuel)) fun _=>PT.le_refl _
open PT in
theorem sep_le(s:List UInt8){F F':PT zKr}(hF:PT.le F F'): ∀k x,PT.le (T.sep s F k x) (T.sep s F' (k+1) x)
 |0,x=>.out _
 |k+1,x=>by
  have ih:=sep_le s hF k
  rw[T.sep,T.sep]
  repeat' first|exact ih _|exact hF|exact le_refl _|apply le_ite|apply le_bind|intro _
open PT in
theorem zIC(fuel:Nat): ∀k t,PT.le (T.pfx_l1 fuel k t) (T.pfx_l1 (fuel+1) (k+1) t)
 |0,x=>.out _
 |k+1,x=>by
  have ih:=zIC fuel k
  rw[T.pfx_l1,T.pfx_l1]
  repeat' first|exact ih _|exact zJV _ _|exact le_refl _|apply le_ite|apply le_bind|intro _
open PT in
theorem types_le: ∀fuel,PT.le (T.simple fuel) (T.simple (fuel+1))∧PT.le (T.pfx fuel) (T.pfx (fuel+1))∧PT.le (T.product fuel) (T.product (fuel+1))∧PT.le (T.typ fuel) (T.typ (fuel+1))
 |0=>⟨by rw[T.simple];exact .out _,by rw[T.pfx];exact .out _,by rw[T.product];exact .out _,by rw[T.typ];exact .out _⟩
 |fuel+1=>by
  obtain⟨h1,h2,h3,h4⟩:=types_le fuel
  refine⟨?_,?_,?_,?_⟩
  ·rw[T.simple,T.simple]
   repeat' first|exact h4|exact sep_le _ h4 _ _|exact zJV _ _|exact mods_le _|exact le_refl _|apply le_bind|apply PT.le.kd|apply le_ite|intro _
  ·rw[T.pfx,T.pfx]
   repeat' first|exact h1|exact zIC _ _ _|exact le_refl _|apply le_bind|intro _
  ·rw[T.product,T.product]
   repeat' first|exact h2|exact sep_le _ h2 _ _|exact le_refl _|apply le_ite|apply le_bind|intro _
  ·rw[T.typ,T.typ]
   repeat' first|exact h3|exact h4|exact le_refl _|apply le_ite|apply le_bind|intro _
open PT in
theorem pats_le: ∀fuel,PT.le (T.argument fuel) (T.argument (fuel+1))∧PT.le (T.pattern fuel) (T.pattern (fuel+1))
 |0=>⟨by rw[T.argument];exact .out _,by rw[T.pattern];exact .out _⟩
 |fuel+1=>by
  obtain⟨h1,h2⟩:=pats_le fuel
  refine⟨?_,?_⟩
  ·rw[T.argument,T.argument]
   repeat' first|exact h2|exact sep_le _ h2 _ _|exact number_le _|exact mods_le _|exact le_refl _|apply le_bind|apply PT.le.kd|apply le_ite|intro _
  ·rw[T.pattern,T.pattern]
   repeat' first|exact h1|exact mods_le _|exact le_refl _|apply le_bind|apply PT.le.kd|apply le_ite|intro _
open PT in
theorem zI5(fuel:Nat){F F':PT zKr}(hF:PT.le F F'): ∀k x,PT.le (T.choice_l1 fuel F k x) (T.choice_l1 (fuel+1) F' (k+1) x)
 |0,x=>.out _
 |k+1,x=>by
  have ih:=zI5 fuel hF k
  rw[T.choice_l1,T.choice_l1]
  repeat' first|exact ih _|exact hF|exact(pats_le _).2|exact le_refl _|apply le_ite|apply le_bind|intro _
open PT in
theorem zHR{F F':PT zKr}(hF:PT.le F F'): ∀k x,PT.le (T.negation_l1 F k x) (T.negation_l1 F' (k+1) x)
 |0,x=>.out _
 |k+1,x=>by
  have ih:=zHR hF k
  rw[T.negation_l1,T.negation_l1]
  repeat' first|exact ih _|exact hF|exact le_refl _|apply le_ite|apply le_bind|intro _
open PT in
theorem zJu{F F':Int->PT zKr}(hF: ∀n,PT.le (F n) (F' n))(n n2:Int): ∀k x,PT.le (T.level_l1 F n n2 k x) (T.level_l1 F' n n2 (k+1) x)
 |0,x=>.out _
 |k+1,x=>by
  have ih:=zJu hF n n2 k
  rw[T.level_l1,T.level_l1]
  repeat' first|exact ih _|exact hF _|exact le_refl _|apply le_bind|apply PT.le.nx|apply le_ite|intro _
open PT in
theorem decl_l1_le: ∀k x,PT.le (T.decl_l1 k x) (T.decl_l1 (k+1) x)
 |0,x=>.out _
 |k+1,x=>by
  have ih:=decl_l1_le k
  rw[T.decl_l1,T.decl_l1]
  repeat' first|exact ih _|exact le_refl _|apply le_bind|apply PT.le.kd|apply le_ite|intro _
open PT in
theorem let_l1_le{F F':PT zKr}(hF:PT.le F F'): ∀k x,PT.le (T.let_l1 F k x) (T.let_l1 F' (k+1) x)
 |0,x=>.out _
 |k+1,x=>by
  have ih:=let_l1_le hF k
  rw[T.let_l1,T.let_l1]
  repeat' first|exact ih _|exact hF|exact le_refl _|apply le_ite|apply le_bind|intro _
open PT in
theorem exprs_le: ∀fuel,PT.le (T.inside fuel) (T.inside (fuel+1))∧PT.le (T.choice fuel) (T.choice (fuel+1))∧PT.le (T.negation fuel) (T.negation (fuel+1))∧(∀n,PT.le (T.level fuel n) (T.level (fuel+1) n))∧
 PT.le (T.expr fuel) (T.expr (fuel+1))∧PT.le (T.decl fuel) (T.decl (fuel+1))∧PT.le (T.let fuel) (T.let (fuel+1))∧PT.le (T.atom fuel) (T.atom (fuel+1))
 |0=>⟨by rw[T.inside];exact .out _,by rw[T.choice];exact .out _,by rw[T.negation];exact .out _,fun n=>by rw[T.level];exact .out _,by rw[T.expr];exact .out _,by rw[T.decl];exact .out _,by rw[T.let];exact .out _,by rw[T.atom];exact .out _⟩
 |fuel+1=>by
  obtain⟨h1,h2,h3,h4,h5,h6,h7,h8⟩:=exprs_le fuel
  have ht:=(types_le fuel).2.2.2
  refine⟨?_,?_,?_,fun n=>?_,?_,?_,?_,?_⟩
  ·rw[T.inside,T.inside]
   repeat' first|exact h5|exact ht|exact sep_le _ h5 _ _|exact mods_le _|exact le_refl _|apply le_ite|apply le_bind|intro _
  ·rw[T.choice,T.choice]
   repeat' first|exact h5|exact zI5 _ h5 _ _|exact le_refl _|apply le_ite|apply le_bind|intro _
  ·rw[T.negation,T.negation]
   repeat' first|exact h3|exact h8|exact zHR h8 _ _|exact le_refl _|apply le_ite|apply le_bind|intro _
  ·rw[T.level,T.level]
   repeat' first|exact h3|exact h4 _|exact zJu h4 _ _ _ _|exact le_refl _|apply le_ite|apply le_bind|intro _
  ·rw[T.expr,T.expr]
   repeat' first|exact h5|exact h4 _|exact le_refl _|apply le_ite|apply le_bind|intro _
  ·rw[T.decl,T.decl]
   repeat' first|exact h5|exact h8|exact decl_l1_le _ _|exact mods_le _|exact le_refl _|apply le_ite|apply le_bind|intro _
  ·rw[T.let,T.let]
   repeat' first|exact h5|exact let_l1_le h6 _ _|exact le_refl _|apply le_ite|apply le_bind|intro _
  ·rw[T.atom,T.atom]
   repeat' first|exact h1|exact h2|exact h7|exact number_le _|exact path_le _ _|exact le_refl _|apply le_bind|apply PT.le.kd|apply le_ite|intro _
end Go.Proofs.YtcbjbgiboimgaaaGreatDoor
namespace Go.Proofs.YtcbjbgiboimgaaaGreatDoor
open Go Go.Abs
def Ev{α:Type}(f:Nat->Option α)(a:α):Prop:= ∃N,∀n,N<=n->f n=some a
def Cv{α:Type}(f:Nat->Option α):Prop:= ∃a,Ev f a
section
variable {α β:Type}
theorem Ev.const(a:α):Ev (fun _=>some a) a:=⟨0,fun _ _=>rfl⟩
theorem Ev.bind{f:Nat->Option α}{a:α}{g:Nat->α->Option β}{b:β}(h:Ev f a)(h2:Ev (fun n=>g n a) b):Ev (fun n=>(f n).bind (g n)) b:=by
 obtain⟨N,h⟩:=h;obtain⟨N2,h2⟩:=h2
 exact⟨max N N2,fun n hn=>by simp only[h n (by omega),Option.bind_some,h2 n (by omega)]⟩
theorem Ev.map{f:Nat->Option α}{a:α}(k:α->β)(h:Ev f a):Ev (fun n=>(f n).bind fun v=>some (k v)) (k a):=h.bind (.const (k a))
theorem Ev.unique{f:Nat->Option α}{a b:α}(h:Ev f a)(h2:Ev f b):a=b:=by
 obtain⟨N,h⟩:=h;obtain⟨N2,h2⟩:=h2
 exact zqa ((h (max N N2) (by omega)).symm.trans (h2 _ (by omega)))
theorem Ev.congr{f g:Nat->Option α}{a:α}(h:Ev f a)(e: ∀n,g n=f n):Ev g a:=by
 obtain⟨N,h⟩:=h;exact⟨N,fun n hn=>(e n).trans (h n hn)⟩
theorem Cv.const{a:α}:Cv (fun _=>some a):=⟨a,.const a⟩
theorem Cv.bind{f:Nat->Option α}{g:Nat->α->Option β}(h:Cv f)(h2: ∀a,Cv (fun n=>g n a)):Cv (fun n=>(f n).bind (g n)):=by
 obtain⟨a,h⟩:=h;obtain⟨b,h2⟩:=h2 a
 exact⟨b,h.bind h2⟩
theorem Cv.ite{c:Prop}[Decidable c]{f g:Nat->Option α}(h:c->Cv f)(h2: ¬c->Cv g):Cv (fun n=>if c then f n else g n):=by
 by_cases hc:c
 ·simp only[hc,if_true];exact h hc
 ·simp only[hc,if_false];exact h2 hc
theorem Cv.get{l:List α}{i:Nat}(hi:i<l.length){g:Nat->α->Option β}(h: ∀a∈l,Cv (fun n=>g n a)):Cv (fun n=>(l[i]?).bind (g n)):=by
 simp only[zq2 hi,Option.bind_some]
 exact h _ (List.getElem_mem hi)
theorem Cv.idx{l:List α}{j:Int}(h0:0<=j)(hj:j<l.length){g:Nat->α->Option β}(h: ∀a∈l,Cv (fun n=>g n a)):Cv (fun n=>(Go.Abs.idx l j).bind (g n)):=by
 rw[Go.Abs.idx,if_pos h0]
 exact Cv.get (by omega) h
theorem Cv.sub{l:List α}{a b:Int}(h0:0<=a)(h1:a<=b)(h2:b<=l.length){g:Nat->List α->Option β}(h:Cv (fun n=>g n (sub l a b))):Cv (fun n=>(subC l a b).bind (g n)):=by
 rw[subC,if_pos ⟨h0,h1,h2⟩];exact h
def val(f:Nat->Option Bool):Prop:=Ev f true
theorem Cv.bool{f:Nat->Option Bool}(h:Cv f):Ev f true∨Ev f false:=by
 obtain⟨a,h⟩:=h;cases a<;>simp[h]
def IX(p:Nat->α->Option Bool)(s:List α)(n:Nat):Nat->Nat->Option (Int ⊕ Unit)
 |0,_=>none
 |k+1,i=>if ltI ((i:Nat):Int) (s.length:Int) then (s[i]?).bind fun x=>(p n x).bind fun v=>if v then some (.inl ((i:Nat):Int)) else IX p s n k (i+1) else some (.inr ())
theorem uniform{p:Nat->α->Option Bool}{q:α->Bool}: ∀s:List α,(∀x∈s,Ev (fun n=>p n x) (q x))->∃N,∀n,N<=n->∀x∈s,p n x=some (q x)
 |[],_=>⟨0,fun _ _ x hx=>by cases hx⟩
 |a::s,h=>by
  obtain⟨N,h1⟩:=h a zq9
  obtain⟨N2,h2⟩:=uniform s fun x hx=>h x (zqc _ hx)
  refine⟨max N N2,fun n hn x hx=>?_⟩
  rcases List.mem_cons.1 hx with rfl|hx
  ·exact h1 n (by omega)
  ·exact h2 n (by omega) x hx
theorem IX_val{p:Nat->α->Option Bool}{q:α->Bool}{s:List α}{n:Nat}(h: ∀x∈s,p n x=some (q x)): ∀(m i k:Nat),i+m=s.length->m+1<=k->
 ((IX p s n k i).bind fun o=>Sum.elim some (fun _=>some (-1)) o).bind (fun v=>some (leI 0 v))=some ((s.drop i).any q)
 |0,i,k+1,hi,hk=>by
  have h1:ltI (i:Int) (s.length:Int)=false:=by simp only[ltI,decide_eq_false_iff_not];omega
  rw[IX,h1,List.drop_eq_nil_of_le (by omega)];rfl
 |m+1,i,k+1,hi,hk=>by
  have h1:ltI (i:Int) (s.length:Int)=true:=by simp only[ltI,decide_eq_true_eq];omega
  have hl:i<s.length:=by omega
  rw[IX,h1,if_pos rfl,zq2 hl,Option.bind_some,h _ (List.getElem_mem hl),List.drop_eq_getElem_cons hl,List.any_cons]
  cases q s[i] with
  |true=>
   show some (leI 0 (i:Int))=some (true||_)
   rw[Bool.true_or,show leI 0 (i:Int)=true from zqb (by omega)]
  |false=>
   rw[Bool.false_or]
   exact IX_val h m (i+1) k (by omega) (by omega)
theorem IX_ev{p:Nat->α->Option Bool}{q:α->Bool}{s:List α}(h: ∀x∈s,Ev (fun n=>p n x) (q x)):
 Ev (fun n=>((IX p s n n 0).bind fun o=>Sum.elim some (fun _=>some (-1)) o).bind (fun v=>some (leI 0 v))) (s.any q):=by
 obtain⟨N,h⟩:=uniform s h
 exact⟨max N (s.length+1),fun n hn=>(IX_val (h n (by omega)) s.length 0 n (by omega) (by omega)).trans (by rw[List.drop_zero])⟩
theorem any_cv{p:Nat->α->Option Bool}{s:List α}(h: ∀x∈s,Cv (fun n=>p n x)):
 Cv (fun n=>((IX p s n n 0).bind fun o=>Sum.elim some (fun _=>some (-1)) o).bind (fun v=>some (leI 0 v))):=by
 classical
 refine⟨_,IX_ev (q:=fun x=>decide (Ev (fun n=>p n x) true)) fun x hx=>?_⟩
 rcases(h x hx).bool with h1|h1
 ·rw[zqb h1];exact h1
 ·rw[decide_eq_false fun h2=>by cases h2.unique h1];exact h1
def AL(p:Nat->Nat->Option Bool)(len n:Nat):Nat->Nat->Option (Bool ⊕ Unit)
 |0,_=>none
 |k+1,i=>if ltI ((i:Nat):Int) (len:Int) then (p n i).bind fun v=>if v then some (.inl false) else AL p len n k (i+1) else some (.inr ())
theorem uniformN{p:Nat->Nat->Option Bool}{q:Nat->Bool}: ∀m,(∀i,i<m->Ev (fun n=>p n i) (q i))->∃N,∀n,N<=n->∀i,i<m->p n i=some (q i)
 |0,_=>⟨0,fun _ _ i hi=>by omega⟩
 |m+1,h=>by
  obtain⟨N,h1⟩:=h m (by omega)
  obtain⟨N2,h2⟩:=uniformN m fun i hi=>h i (by omega)
  refine⟨max N N2,fun n hn i hi=>?_⟩
  rcases Nat.lt_or_ge i m with hi2|hi2
  ·exact h2 n (by omega) i hi2
  ·have:i=m:=by omega
   subst this;exact h1 n (by omega)
theorem AL_val{p:Nat->Nat->Option Bool}{q:Nat->Bool}{len n:Nat}(h: ∀i,i<len->p n i=some (q i)): ∀(m i k:Nat),i+m=len->m+1<=k->
 AL p len n k i=some (if (List.range' i m).any q then .inl false else .inr ())
 |0,i,k+1,hi,hk=>by
  have h1:ltI (i:Int) (len:Int)=false:=by simp only[ltI,decide_eq_false_iff_not];omega
  rw[AL,h1];rfl
 |m+1,i,k+1,hi,hk=>by
  have h1:ltI (i:Int) (len:Int)=true:=by simp only[ltI,decide_eq_true_eq];omega
  rw[AL,h1,if_pos rfl,h i (by omega),List.range'_succ,List.any_cons]
  cases q i with
  |true=>rfl
  |false=>rw[Bool.false_or];exact AL_val h m (i+1) k (by omega) (by omega)
theorem AL_ev{p:Nat->Nat->Option Bool}{q:Nat->Bool}{len:Nat}(h: ∀i,i<len->Ev (fun n=>p n i) (q i)):
 Ev (fun n=>AL p len n n 0) (if (List.range' 0 len).any q then .inl false else .inr ()):=by
 obtain⟨N,h⟩:=uniformN len h
 exact⟨max N (len+1),fun n hn=>AL_val (h n (by omega)) len 0 n (by omega) (by omega)⟩
theorem AL_cv{p:Nat->Nat->Option Bool}{len:Nat}(h: ∀i,i<len->Cv (fun n=>p n i)):Cv (fun n=>AL p len n n 0):=by
 classical
 refine⟨_,AL_ev (q:=fun i=>decide (Ev (fun n=>p n i) true)) fun i hi=>?_⟩
 rcases(h i hi).bool with h1|h1
 ·rw[zqb h1];exact h1
 ·rw[decide_eq_false fun h2=>by cases h2.unique h1];exact h1
end
theorem of_cv(c:UInt8): ∃n,zDh c=some n:=by obtain⟨n,h,-⟩:=zF4 c;exact⟨n,h⟩
theorem name_AL(l:List UInt8)(n:Nat): ∀k i,zDY l k i=AL (fun _ i=>(l[i]?).bind fun x=>(zDh x).bind fun v=>some ((eqI v 0)||(eqI v 5))) l.length n k i
 |0,_=>rfl
 |k+1,i=>by simp only[zDY,AL,Option.bind_assoc,Option.bind_some,name_AL l n k]
theorem zKV(s:List UInt8)(f:Int):Cv fun n=>zEJ n s f:=by
 simp only[zEJ]
 by_cases h24:s.length<=24
 ·refine Cv.bind ?_ fun b=>Cv.ite (fun _=>.const) fun _=>?_
  ·by_cases hs:s=[]
   ·subst hs;exact .const
   ·refine Cv.ite (fun _=>.const) fun _=>Cv.ite (fun _=>.const) fun _=>Cv.get (by cases s;exact absurd rfl hs;simp) fun c _=>?_
    obtain⟨m,hm⟩:=of_cv c
    simp only[hm,Option.bind_some];exact .const
  ·rw[show zKi s=some s by rw[zKi,if_pos (by omega)]]
   refine Cv.bind .const fun l=>Cv.bind ?_ fun o=>?_
   ·simp only[name_AL l 0]
    have: ∀k,AL (fun _ i=>(l[i]?).bind fun x=>(zDh x).bind fun v=>some ((eqI v 0)||(eqI v 5))) l.length 0 k 0=AL (fun _ i=>(l[i]?).bind fun x=>(zDh x).bind fun v=>some ((eqI v 0)||(eqI v 5))) l.length k k 0:=fun k=>by rw[<-name_AL,<-name_AL]
    simp only[this]
    refine AL_cv fun i hi=>Cv.get hi fun c _=>?_
    obtain⟨m,hm⟩:=of_cv c
    simp only[hm,Option.bind_some];exact .const
   ·cases o<;>exact .const
 ·have:(if eqS s ([]:List UInt8)=true then some true else if ltI 24 (s.length:Int)=true then some true else (s[0]?).bind fun c9=>(zDh c9).bind fun v11=>some (!eqI v11 f))=some true:=by
   split
   ·rfl
   ·rw[if_pos (show ltI 24 (s.length:Int)=true from zqb (by omega))]
  simp only[this,Option.bind_some,if_true]
  exact .const
theorem upper_cv(s:List UInt8):Cv fun n=>zB2 n s:=Cv.bind (zKV s 2) fun _=>.const
theorem ixs_eq(v:List UInt8)(s:Nms)(n:Nat): ∀k i,zBs s v k i=IX (fun _ x=>some (eqS v x)) s n k i
 |0,_=>rfl
 |k+1,i=>by simp only[zBs,IX,Option.bind_some,ixs_eq v s n k]
theorem zJ2(s:Nms)(v:List UInt8):Cv fun n=>zBb n s v:=by
 have e: ∀n,zBb n s v=((IX (fun _ x=>some (eqS v x)) s n n 0).bind fun o=>Sum.elim some (fun _=>some (-1)) o).bind (fun v=>some (leI 0 v)):=fun n=>by
  simp only[zBb,zDZ,ixs_eq v s n]
 simp only[e]
 exact any_cv fun x _=>.const
theorem fields_some: ∃l,zEk [97,110,100,97,108,115,111,32,99,97,115,101,32,100,97,116,97,32,100,105,118,32,101,108,115,101,32,101,110,100,32,102,110,32,102,117,110,32,102,117,110,99,116,111,114,32,103,101,110,101,114,97,116,105,118,101,32,105,102,32,105,109,112,111,114,116,32,105,110,32,105,110,99,108,117,100,101,32,108,101,116,32,109,111,100,32,109,111,100,117,108,101,32,111,102,32,111,112,101,110,32,111,114,101,108,115,101,32,112,97,99,107,32,115,104,97,114,105,110,103,32,115,105,103,32,115,105,103,110,97,116,117,114,101,32,115,116,114,117,99,116,32,115,116,114,117,99,116,117,114,101,32,116,104,101,110,32,116,121,112,101,32,117,110,112,97,99,107,32,118,97,108,32,119,105,116,104]=some l:=
 Option.isSome_iff_exists.1 (by decide +kernel)
theorem lower_cv(s:List UInt8):Cv fun n=>zBp n s:=by
 simp only[zBp]
 refine Cv.bind (Cv.bind (zKV s 1) fun b=>Cv.ite (fun _=>?_) fun _=>.const) fun _=>.const
 simp only[zF8]
 obtain⟨l,hl⟩:=fields_some
 rw[hl]
 exact Cv.bind (Cv.bind .const fun l=>Cv.bind (zJ2 l s) fun _=>.const) fun _=>.const
theorem hasPre(s t:List UInt8): ∃b,zBf s t=some b∧(b=true->t.length<=s.length):=by
 simp only[zBf]
 split
 ·rename_i h
  simp only[leI,decide_eq_true_eq] at h
  rw[subC,if_pos ⟨by omega,by omega,by omega⟩]
  exact⟨_,rfl,fun _=>by omega⟩
 ·exact⟨false,rfl,fun h=>by cases h⟩
theorem var_cv(s:List UInt8):Cv fun n=>zDt n s:=by
 simp only[zDt,zDo,zDO]
 obtain⟨b,hb,hl⟩:=hasPre s [39]
 rw[hb]
 refine Cv.bind ?_ fun v=>Cv.bind (Cv.ite (fun _=>Cv.ite (fun _=>Cv.bind (zKV _ 1) fun _=>.const) fun _=>.const) fun _=>.const) fun _=>.const
 refine Cv.bind ?_ fun _=>.const
 simp only[Option.bind_some]
 cases b with
 |false=>exact .const
 |true=>exact Cv.sub (by decide) (by have:=hl rfl;simp only[List.length_cons,List.length_nil] at *;omega) (by omega) .const
theorem path1_eq(s:Nms)(n:Nat): ∀k i,zAw n s k i=IX (fun n x=>zE2 n x) s n k i
 |0,_=>rfl
 |k+1,i=>by simp only[zAw,IX,path1_eq s n k]
theorem path_cv(l:Nms)(b:Bool):Cv fun n=>zB3 n l b:=by
 simp only[zB3]
 refine Cv.ite (fun _=>.const) fun h=>?_
 simp only[Bool.or_eq_true,ltI,decide_eq_true_eq,not_or] at h
 refine Cv.sub (by omega) (by omega) (by omega) (Cv.bind ?_ fun c=>Cv.ite (fun _=>.const) fun _=>Cv.ite (fun _=>Cv.idx (by omega) (by omega) fun x _=>Cv.bind (lower_cv x) fun _=>.const) fun _=>Cv.idx (by omega) (by omega) fun x _=>Cv.bind (upper_cv x) fun _=>.const)
 simp only[zBx,zCJ,path1_eq]
 exact any_cv fun x _=>Cv.bind (upper_cv x) fun _=>.const
theorem plain_AL(s:List UInt8)(n:Nat): ∀k i,zCh s k i=AL (fun _ i=>(s[i]?).bind fun c11=>if !(eqI (c11.toNat:Int) 10) then if ltI (c11.toNat:Int) 32 then some true else some (ltI 126 (c11.toNat:Int)) else some false) s.length n k i
 |0,_=>rfl
 |k+1,i=>by simp only[zCh,AL,plain_AL s n k]
theorem plain_cv(s:List UInt8):Cv fun n=>zEj n s:=by
 simp only[zEj]
 have e: ∀n,zCh s n 0=AL (fun _ i=>(s[i]?).bind fun c11=>if !(eqI (c11.toNat:Int) 10) then if ltI (c11.toNat:Int) 32 then some true else some (ltI 126 (c11.toNat:Int)) else some false) s.length n n 0:=fun n=>plain_AL s n n 0
 simp only[e]
 refine Cv.bind (AL_cv fun i hi=>Cv.get hi fun c _=>Cv.ite (fun _=>Cv.ite (fun _=>.const) fun _=>.const) fun _=>.const) fun o=>?_
 cases o<;>exact .const
theorem own1_eq(s:Nms)(n:Nat): ∀k i,zAy n s k i=IX (fun n x=>zFI n x) s n k i
 |0,_=>rfl
 |k+1,i=>by simp only[zAy,IX,own1_eq s n k]
theorem own1_cv(l:Nms):Cv fun n=>zBc n l:=by
 simp only[zBc,zCO,own1_eq]
 exact any_cv fun x _=>Cv.bind (lower_cv x) fun _=>.const
theorem params_AL(l:Nms)(n:Nat): ∀k i,zCq n l k i=AL (fun n i=>(l[i]?).bind fun x11=>(zDt n x11).bind fun v13=>if !v13 then some true else (subC l 0 ((i:Nat):Int)).bind fun l18=>(zBb n l18 x11).bind fun v22=>some v22) l.length n k i
 |0,_=>rfl
 |k+1,i=>by simp only[zCq,AL,Option.bind_assoc,params_AL l n k]
theorem params_cv(l:Nms):Cv fun n=>zDF n l:=by
 simp only[zDF,params_AL]
 refine Cv.bind (AL_cv fun i hi=>Cv.get hi fun c _=>Cv.bind (var_cv c) fun b=>Cv.ite (fun _=>.const) fun _=>Cv.sub (by omega) (by omega) (by omega) (Cv.bind (zJ2 _ _) fun _=>.const)) fun o=>?_
 cases o<;>exact .const
theorem ex_ite{α:Type}{c:Prop}[Decidable c]{a b:Option α}(h: ∃u,a=some u)(h2: ∃u,b=some u): ∃u,(if c then a else b)=some u:=by split<;>assumption
theorem fields_op(op:Int): ∃u,zD9 op=some u:=by
 unfold zD9
 repeat' first
  |exact⟨_,rfl⟩
  |apply ex_ite
theorem own_cv(t:zKr)(w:Bool):Cv fun n=>zDW n t w:=by
 simp only[zDW]
 obtain⟨u,hu⟩:=fields_op t.Op
 rw[hu]
 refine Cv.bind .const fun u=>Cv.ite (fun _=>.const) fun _=>?_
 repeat' first
  |exact .const
  |exact var_cv _
  |exact path_cv _ _
  |exact lower_cv _
  |exact upper_cv _
  |exact plain_cv _
  |exact params_cv _
  |exact own1_cv _
  |refine Cv.ite (fun _=>?_) fun _=>?_
  |refine Cv.bind ?_ fun _=>?_
end Go.Proofs.YtcbjbgiboimgaaaGreatDoor
