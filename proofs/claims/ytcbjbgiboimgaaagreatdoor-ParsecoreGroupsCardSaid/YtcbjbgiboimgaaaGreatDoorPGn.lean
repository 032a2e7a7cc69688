/- For every input the law ParsecoreGroups returns true. Part 14 of 22. No condition. -/
import Derived.Test.YtcbjbgiboimgaaaGreatDoorPGm
import Derived.Lib.AtoiAllCases
set_option linter.unusedVariables false
set_option linter.unnecessarySimpa false
set_option linter.unusedSimpArgs false
set_option maxRecDepth 100000
set_option maxHeartbeats 4000000
namespace Go.Proofs.YtcbjbgiboimgaaaGreatDoor
open Go Go.Abs Go.RowKit
theorem atoi_err{imm:Addr->Option Value}{w w':World}{s:ByteArray}{n:Int}{N:Nat}{ev:Value}{T:TypeId}{fr:Nat×Nat}{E:TypeId}(hn:inR .i64 n)(hlen:s.data.toList.length<=1152921504606846976)
 (him: ∀x v,imm x=some v->w.cell? x=some v) (hN:w.heap.size<=N) (hc:w'.heap[N]? =some (.cells #[.string ⟨#[65,116,111,105]⟩,.string s,ev] T fr)) (hb:Below w.heap.size w w'):
 ∃imm' v,Ending.returned (.tuple #[.int .i64 n,.iface E (.pointer (some ⟨N,0,none⟩))])=.returned v∧Rep imm' [] (.tup [.int .i64 n,.iface E (.cptr [.str [65,116,111,105],.str s.data.toList,.top])]) v∧(∀x v,imm x=some v->imm' x=some v)∧(∀x v,imm' x=some v->w'.cell? x=some v)∧
  Below w.heap.size w w'∧(∀x v,imm' x=some v->imm x=some v∨w.heap.size<=x.block):=by
 have hlt: ∀x v,imm x=some v->x.block<w.heap.size:=fun x v hx=>World.block_lt_of_cell? _ _ (him x v hx)
 have hadd: ∀j,((⟨N,0,none⟩:Addr).add j)=⟨N,j,none⟩:=fun j=>by
  unfold Addr.add
  split
  ·rename_i h0;subst h0;rfl
  ·simp
 have hcell: ∀j,w'.cell? ⟨N,j,none⟩=(#[Value.string ⟨#[65,116,111,105]⟩,.string s,ev]:Array Value)[j]? :=fun j=>by
  unfold World.cell?
  simp[hc]
 refine⟨fun x=>if x.block=N then w'.cell? x else imm x,_,rfl,?_,fun x v hx=>?_,fun x v hx=>?_,hb,fun x v hx=>?_⟩
 ·refine .tup _ _ rfl fun i x hi=>?_
  rcases i with _|_|i
  ·simp at hi;subst hi;exact .int .i64 n hn
  ·simp at hi;subst hi
   refine .iface _ _ _ (.cptr _ ⟨N,0,none⟩ (fun j=>(#[Value.string ⟨#[65,116,111,105]⟩,.string s,ev]:Array Value).getD j default) (fun j y hj=>?_) fun j y hj=>?_)
   ·rw[hadd j]
    simp only[if_true]
    rw[hcell j]
    have hj3:j<3:=by have:=(zq1 hj).1;simpa using this
    rcases j with _|_|_|j
    ·rfl
    ·rfl
    ·rfl
    ·omega
   ·rcases j with _|_|_|j
    ·simp at hj;subst hj;exact .str _ _ rfl (by decide)
    ·simp at hj;subst hj;exact .str _ _ rfl hlen
    ·simp at hj;subst hj;exact .top _
    ·simp at hj
  ·simp at hi
 ·show(if x.block=N then w'.cell? x else imm x)=some v
  rw[if_neg (by have:=hlt x v hx;omega)];exact hx
 ·have hx:(if x.block=N then w'.cell? x else imm x)=some v:=hx
  split at hx
  ·exact hx
  ·have hc':=him x v hx
   have hbl:=World.block_lt_of_cell? _ _ hc'
   unfold World.cell? at hc' ⊢
   rw[hb.block _ hbl];exact hc'
 ·have hx:(if x.block=N then w'.cell? x else imm x)=some v:=hx
  split at hx
  ·rename_i e;exact .inr (by omega)
  ·exact .inl hx
theorem strconv_Atoi_ok(s0:List UInt8)(r:Int×Bool)(h:zEl s0=some r):Pure Tryz.prog 141 [.str s0] (.tup [.int .i64 r.1,if r.2 then .iface 163 (.cptr [.str [65,116,111,105],.str s0,.top]) else .nilif]):=by
 unfold zEl at h
 split at h
 case isFalse=>cases h
 rename_i hlen
 refine⟨⟨Tryz.f141,Tryz.func141,by rfl,by rfl⟩,fun imm w vals him hgl htb ha=>?_⟩
 obtain⟨a,rfl,h1⟩:=vals1 ha
 cases h1 with
 |str s _ hs hb=>
  subst hs
  have hsz:s.size<=1000000:=by
   have:s.data.toList.length=s.size:=Array.length_toList
   omega
  split at h
  ·rename_i v hv
   cases h
   obtain⟨b1,b2⟩:=Lib.atoiAll_bounds hv
   refine(Tryz.strconv_Atoi_ok s (by omega) v hv w).mono fun e w' he=>?_
   obtain⟨rfl,hw⟩:=he
   have hbel:Below w.heap.size w w':=by
    rcases hw with rfl|⟨t,rfl⟩
    ·exact Below.refl _ _
    ·exact Lib.bytesWorld_below _ _ _
   refine⟨imm,_,rfl,?_,fun _ _ h=>h,fun x u hx=>?_,hbel,fun _ _ h=>.inl h⟩
   ·refine .tup _ _ rfl fun i x hi=>?_
    rcases i with _|_|i
    ·simp at hi;subst hi;exact .int .i64 _ (by simp only[inR];omega)
    ·simp at hi;subst hi;exact .nilif
    ·simp at hi
   ·have hc:=him x u hx
    have hbl:=World.block_lt_of_cell? _ _ hc
    unfold World.cell? at hc ⊢
    rw[hbel.block _ hbl];exact hc
  ·rename_i hv
   cases h
   obtain⟨b1,b2⟩:=Lib.atoiSat_bounds s.data.toList
   obtain⟨te,pe,hg⟩:=hgl.2 4 (by simp[ge])
   refine(Tryz.strconv_Atoi_range s (by omega) hv (.iface te pe) w (him _ _ hg) (.inr ⟨te,pe,rfl⟩)).mono fun e w' he=>?_
   obtain⟨N,rfl,hN,hc,hbel⟩:=he
   exact atoi_err (by simp only[inR];omega) hb him hN hc hbel
  ·rename_i q1 q2
   have hv:Lib.atoiAll s.data.toList=Lib.atoiAll []:=Lib.NumEnd.casesOn (motive:=fun z=>(∀v,z=.ok v->False)->(z=.range->False)->z=Lib.atoiAll []) (Lib.atoiAll s.data.toList) (fun v a _=>(a v rfl).elim) (fun _ _=>rfl) (fun _ b=>(b rfl).elim) q1 q2
   cases h
   obtain⟨te,pe,hg⟩:=hgl.2 3 (by simp[ge])
   refine(Tryz.strconv_Atoi_syntax s (by omega) hv (.iface te pe) w (him _ _ hg) (.inr ⟨te,pe,rfl⟩)).mono fun e w' he=>?_
   obtain⟨N,rfl,hN,hc,hbel⟩:=he
   exact atoi_err (by simp only[inR];omega) hb him hN hc hbel
end Go.Proofs.YtcbjbgiboimgaaaGreatDoor
namespace Go.Proofs.YtcbjbgiboimgaaaGreatDoor
open Go Go.Abs
theorem zFN(s1:(List UInt8))(c2:UInt8)(r:Int)(h:zCf s1 c2=some r):Pure Tryz.prog 45 [.str s1,.int .u8 c2.toNat] (iI r):=by
 rw[zCf] at h
 refine zAQ Tryz.func45 (by rfl) (by rfl) (by simp) (by simp) (by simp)<|cutA 8 0 [(0,.str s1),(1,.int .u8 c2.toNat)] [] ?_
 obtain⟨v3,q4,h⟩:=bs h
 refine cut 8 0 [(4,iI v3)] [] ?_ ?_
 ·refine st ?_
  simp
  have r5:=zFr s1 c2 v3 q4
  try simp at r5
  refine cP r5 ?_
  simp
 refine zAA ?_
 cases h
 simp
theorem zEU(s1:(List UInt8))(prefix2:(List UInt8))(r:Bool)(h:zBf s1 prefix2=some r):Pure Tryz.prog 63 [.str s1,.str prefix2] (.bool r):=by
 rw[zBf] at h
 refine zAQ Tryz.func63 (by rfl) (by rfl) (by simp) (by simp) (by simp)<|cutA 18 0 [(0,.str s1),(1,.str prefix2)] [] ?_
 obtain⟨b14,q15,h⟩:=bs h
 refine cut 18 0 [(4,.bool b14)] [] ?_ ?_
 ·rcases sp q15 with ⟨g3,q15⟩|⟨g3,q15⟩
  ·have c4:=leT g3
   refine zGl 1 rfl fun f5=>?_
   refine zGl 0 rfl fun f6=>?_
   obtain⟨s7,q8,q15⟩:=bs q15
   obtain⟨q9,q10⟩:=zEL q8
   try simp at q9
   try simp at q10
   obtain rfl:=oi q15
   refine st ?_
   simp[g3,q9,q10]
  have c11:=leF g3
  refine zGl 1 rfl fun f12=>?_
  refine zGl 0 rfl fun f13=>?_
  obtain rfl:=oi q15
  refine st ?_
  simp[g3]
 refine zAA ?_
 cases h
 simp
theorem zDH(s1:(List UInt8))(prefix2:(List UInt8))(r:Bool)(h:zBa s1 prefix2=some r):Pure Tryz.prog 35 [.str s1,.str prefix2] (.bool r):=by
 rw[zBa] at h
 refine zAQ Tryz.func35 (by rfl) (by rfl) (by simp) (by simp) (by simp)<|cutA 8 0 [(0,.str s1),(1,.str prefix2)] [] ?_
 obtain⟨v3,q4,h⟩:=bs h
 refine cut 8 0 [(4,.bool v3)] [] ?_ ?_
 ·refine st ?_
  simp
  have r5:=zEU s1 prefix2 v3 q4
  try simp at r5
  refine cP r5 ?_
  simp
 refine zAA ?_
 cases h
 simp
theorem zGh(fuel:Nat)(w1:zKn)(r:Int×zKn)(h:zCV fuel w1=some r):Raw Tryz.prog 26 [pT 0] [[.str w1.s,iI w1.at_]] (iI r.1) [[.str r.2.s,iI r.2.at_]]:=by
 rw[zCV] at h
 refine zA9 Tryz.func26 (by rfl) (by rfl) (by simp) (by simp)<|cutA 105 1 [(0,pT 0)] [[.str w1.s,iI w1.at_]]<|zAF<|zAP ?_
 obtain⟨o4,l5,h⟩:=bs h
 refine zCd (fun p:Nat×Int=>mkS 105 1 [(0,pT 0)] [[.str w1.s,iI p.2]]) (fun p=>zBT fuel w1 p.1 p.2=some o4) (fun p=>p.1) (fuel,w1.at_) l5 (zBe (by simp)) ?_
 rintro⟨k6,at2⟩ l5
 try dsimp only at l5 ⊢
 cases k6 with
 |zero=>
  rw[zBT] at l5;cases l5
 |succ k7=>
  rw[zBT] at l5
  refine zAF<|cut 105 1 [(0,pT 0),(15,.bool (ltI at2 w1.s.length))] [[.str w1.s,iI at2]] ?_ ?_
  ·refine zAg [] mixed (n:=105) rfl (by decide) ?_
   simp
  refine spc l5 rfl (fun g8 l5=>?_) fun g8 l5=>?_
  ·have c9:=ltT g8
   refine factCS 0 0 rfl rfl fun f10=>?_
   refine zAC<|zAN<|zAP ?_
   obtain⟨s11,q12,l5⟩:=bs l5
   obtain⟨q13,q14⟩:=zEL q12
   try simp at q13
   try simp at q14
   refine cut 105 1 [(0,pT 0),(3,.str s11)] [[.str w1.s,iI at2]] ?_ ?_
   ·refine zAg [] mixed (n:=105) rfl (by decide) ?_
    simp[q13,q14]
   refine zAP ?_
   obtain⟨c15,q16,l5⟩:=bs l5
   obtain⟨v17,q18,l5⟩:=bs l5
   refine cut 105 1 [(0,pT 0),(3,.str s11),(25,.bool (leI 0 v17))] [[.str w1.s,iI at2]] ?_ ?_
   ·refine st ?_
    simp[q16]
    have r90:=zFN [32,9,10] c15 v17 q18
    try simp[q16] at r90
    refine cP r90 ?_
    simp[q16]
   refine spc l5 rfl (fun g19 l5=>?_) fun g19 l5=>?_
   ·have c20:=leT g19
    obtain⟨n21,q22,l5⟩:=bs l5
    obtain⟨q23,q24⟩:=zEi q22
    try simp at q23
    try simp at q24
    have c25:=q23;simp only[Rng,inR] at c25
    refine last 105 1 [(0,pT 0)] [[.str w1.s,iI n21]] (st (by simp[q23,q24])) fun zz hs=>?_
    refine zDb<|zDb ?_
    exact⟨(k7,n21),hs,l5,by simp⟩
   have c26:=leF g19
   obtain⟨v27,q28,l5⟩:=bs l5
   refine cut 105 1 [(0,pT 0),(37,.bool v27)] [[.str w1.s,iI at2]] ?_ ?_
   ·refine st ?_
    simp
    have r89:=zDH s11 [40,42] v27 q28
    try simp at r89
    refine cP r89 ?_
    simp
   refine spc l5 rfl (fun g29 l5=>?_) fun g29 l5=>?_
   ·refine cutA 105 1 [(0,pT 0),(4,iI at2),(5,iI 0)] [[.str w1.s,iI at2]]<|zAP ?_
    obtain⟨o33,l34,l5⟩:=bs l5
    refine zCd (fun p:Nat×Int×Int=>mkS 105 1 [(0,pT 0),(4,iI at2),(5,iI p.2.2)] [[.str w1.s,iI p.2.1]]) (fun p=>zAi w1 at2 p.1 p.2.1 p.2.2=some o33) (fun p=>p.1) (fuel,at2,0) l34 (zBe (by simp)) ?_
    rintro⟨k35,at30,depth31⟩ l34
    try dsimp only at l34 ⊢
    cases k35 with
    |zero=>
     rw[zAi] at l34;cases l34
    |succ k36=>
     rw[zAi] at l34
     refine zAP<|zAF<|zAP<|cut 105 1 [(0,pT 0),(4,iI at2),(5,iI depth31),(51,.bool (leI w1.s.length at30))] [[.str w1.s,iI at30]] ?_ ?_
     ·refine zAg [] mixed (n:=105) rfl (by decide) ?_
      simp
     refine spc l34 rfl (fun g37 l34=>?_) fun g37 l34=>?_
     ·have c38:=leT g37
      refine cutA 105 1 [(2,iI at2)] [[.str w1.s,iI at30]]<|zAA<|zAD<|zAB<|zAD ?_
      replace l5:=retL l34 l5
      refine zAB<|zAD<|zAD<|zAD ?_
      replace h:=retL l5 h
      refine zAB<|zAD<|zAB ?_
      cases h
      simp
     have c39:=leF g37
     obtain⟨s40,q41,l34⟩:=bs l34
     obtain⟨q42,q43⟩:=zEL q41
     try simp at q42
     try simp at q43
     obtain⟨v44,q45,l34⟩:=bs l34
     refine cut 105 1 [(0,pT 0),(4,iI at2),(5,iI depth31),(63,.bool v44)] [[.str w1.s,iI at30]] ?_ ?_
     ·refine zAg [] mixed (n:=105) rfl (by decide) ?_
      simp[q42,q43]
      have r88:=zDH s40 [40,42] v44 q45
      try simp[q42,q43] at r88
      refine zG7 r88 (by simp) rfl ?_
      simp[q42,q43]
     refine spc l34 rfl (fun g46 l34=>?_) fun g46 l34=>?_
     ·obtain⟨n47,q48,l34⟩:=bs l34
      obtain⟨q49,q50⟩:=zEi q48
      try simp at q49
      try simp at q50
      have c51:=q49;simp only[Rng,inR] at c51
      refine cut 105 1 [(0,pT 0),(4,iI at2),(5,iI n47)] [[.str w1.s,iI at30]] (st (by simp[q49,q50])) ?_
      obtain⟨n52,q53,l34⟩:=bs l34
      obtain⟨q54,q55⟩:=zEi q53
      try simp at q54
      try simp at q55
      have c56:=q54;simp only[Rng,inR] at c56
      refine last 105 1 [(0,pT 0),(4,iI at2),(5,iI n47)] [[.str w1.s,iI n52]] (st (by simp[q54,q55])) fun zz hs=>?_
      refine zDb<|zDI ?_ hs
      refine cutA 105 1 [(0,pT 0),(4,iI at2),(5,iI n47),(104,.bool (eqI n47 0))] [[.str w1.s,iI n52]]<|spc l34 rfl (fun g57 l34=>?_) fun g57 l34=>?_
      ·have c58:=eqT g57
       refine zBv<|zHy (by decide) ?_
       rcases o33 with o33|o32
       ·cases l34
       have q59:=Sum.inr.inj (zqa l34)
       replace l5:=zCP l5
       have q59:=q59.symm
       refine zAm<|zBu<|zDb<|zDb ?_
       exact⟨(k7,o32),zBe (by simp[q59]),l5,by simp⟩
      have c60:=eqF g57
      refine zAC<|zDb ?_
      exact⟨(k36,n52,n47),zBe (by simp),l34,by simp⟩
     obtain⟨v61,q62,l34⟩:=bs l34
     refine cut 105 1 [(0,pT 0),(4,iI at2),(5,iI depth31),(83,.bool v61)] [[.str w1.s,iI at30]] ?_ ?_
     ·refine zAg [] mixed (n:=105) rfl (by decide) ?_
      simp[q42,q43]
      have r87:=zDH s40 [42,41] v61 q62
      try simp[q42,q43] at r87
      refine zG7 r87 (by simp) rfl ?_
      simp[q42,q43]
     refine spc l34 rfl (fun g63 l34=>?_) fun g63 l34=>?_
     ·obtain⟨n64,q65,l34⟩:=bs l34
      obtain⟨q66,q67⟩:=zEi q65
      try simp at q66
      try simp at q67
      have c68:=q66;simp only[Rng,inR] at c68
      refine cut 105 1 [(0,pT 0),(4,iI at2),(5,iI n64)] [[.str w1.s,iI at30]] (st (by simp[q66,q67])) ?_
      obtain⟨n69,q70,l34⟩:=bs l34
      obtain⟨q71,q72⟩:=zEi q70
      try simp at q71
      try simp at q72
      have c73:=q71;simp only[Rng,inR] at c73
      refine last 105 1 [(0,pT 0),(4,iI at2),(5,iI n64)] [[.str w1.s,iI n69]] (st (by simp[q71,q72])) fun zz hs=>?_
      refine zDb<|zDI ?_ hs
      refine cutA 105 1 [(0,pT 0),(4,iI at2),(5,iI n64),(104,.bool (eqI n64 0))] [[.str w1.s,iI n69]]<|spc l34 rfl (fun g74 l34=>?_) fun g74 l34=>?_
      ·have c75:=eqT g74
       refine zBv<|zHy (by decide) ?_
       rcases o33 with o33|o32
       ·cases l34
       have q76:=Sum.inr.inj (zqa l34)
       replace l5:=zCP l5
       have q76:=q76.symm
       refine zAm<|zBu<|zDb<|zDb ?_
       exact⟨(k7,o32),zBe (by simp[q76]),l5,by simp⟩
      have c77:=eqF g74
      refine zAC<|zDb ?_
      exact⟨(k36,n69,n64),zBe (by simp),l34,by simp⟩
     obtain⟨n78,q79,l34⟩:=bs l34
     obtain⟨q80,q81⟩:=zEi q79
     try simp at q80
     try simp at q81
     have c82:=q80;simp only[Rng,inR] at c82
     refine last 105 1 [(0,pT 0),(4,iI at2),(5,iI depth31)] [[.str w1.s,iI n78]] (st (by simp[q80,q81])) fun zz hs=>?_
     refine zDb<|zDI ?_ hs
     refine cutA 105 1 [(0,pT 0),(4,iI at2),(5,iI depth31),(104,.bool (eqI depth31 0))] [[.str w1.s,iI n78]]<|spc l34 rfl (fun g83 l34=>?_) fun g83 l34=>?_
     ·have c84:=eqT g83
      refine zBv<|zHy (by decide) ?_
      rcases o33 with o33|o32
      ·cases l34
      have q85:=Sum.inr.inj (zqa l34)
      replace l5:=zCP l5
      have q85:=q85.symm
      refine zAm<|zBu<|zDb<|zDb ?_
      exact⟨(k7,o32),zBe (by simp[q85]),l5,by simp⟩
     have c86:=eqF g83
     refine zAC<|zDb ?_
     exact⟨(k36,n78,depth31),zBe (by simp),l34,by simp⟩
   refine cutA 105 1 [(2,iI (-1))] [[.str w1.s,iI at2]]<|zAA<|zAD<|zAD ?_
   replace h:=retL l5 h
   refine zAB<|zAD<|zAB ?_
   cases h
   simp
  have c91:=ltF g8
  refine factCS 0 0 rfl rfl fun f92=>?_
  refine zBv<|zAm ?_
  rcases o4 with o4|o3
  ·cases l5
  have q93:=Sum.inr.inj (zqa l5)
  replace h:=zCP h
  have q93:=q93.symm
  refine zAm<|zBu<|zDI (t:=mkS 105 1 [] [[.str w1.s,iI o3]]) ?_ (zBe (by simp[q93]))
  refine cutA 105 1 [(2,iI (-1))] [[.str w1.s,iI o3]]<|zAA ?_
  cases h
  simp
theorem zFB(fuel:Nat)(s1:(List UInt8))(c2:UInt8)(r:Int)(h:zB8 fuel s1 c2=some r):Pure Tryz.prog 80 [.str s1,.int .u8 c2.toNat] (iI r):=by
 rw[zB8] at h
 refine zAQ Tryz.func80 (by rfl) (by rfl) (by simp) (by simp) (by simp)<|cutA 19 0 [(0,.str s1),(1,.int .u8 c2.toNat)] []<|zAF ?_
 obtain⟨n3,q4,h⟩:=bs h
 obtain⟨q5,q6⟩:=zEi q4
 try simp at q5
 try simp at q6
 have c7:=q5;simp only[Rng,inR] at c7
 refine cut 19 0 [(0,.str s1),(1,.int .u8 c2.toNat),(5,iI n3)] [] (st (by simp[q5,q6]))<|zAP ?_
 obtain⟨o10,l11,h⟩:=bs h
 refine zCd (fun p:Nat×Int=>mkS 19 0 [(0,.str s1),(1,.int .u8 c2.toNat),(5,iI p.2)] []) (fun p=>zAf s1 c2 p.1 p.2=some o10∧(-1)<=p.2∧p.2<=9223372036854775807) (fun p=>p.1) (fuel,n3) ⟨l11,by(try dsimp only);omega,by(try dsimp only);omega⟩ (zBe (by simp)) ?_
 rintro⟨k14,i8⟩ ⟨l11,c12,c13⟩
 try dsimp only at l11 c12 c13 ⊢
 cases k14 with
 |zero=>
  rw[zAf] at l11;cases l11
 |succ k15=>
  rw[zAf] at l11
  refine zAF<|cutA 19 0 [(0,.str s1),(1,.int .u8 c2.toNat),(5,iI i8),(10,.bool (leI 0 i8))] []<|spc l11 rfl (fun g16 l11=>?_) fun g16 l11=>?_
  ·have c17:=leT g16
   refine zAC<|zAN<|zAF<|zAP ?_
   obtain⟨c18,q19,l11⟩:=bs l11
   obtain⟨q20,q21⟩:=zGj q19
   refine cut 19 0 [(0,.str s1),(1,.int .u8 c2.toNat),(5,iI i8),(17,.bool (eqI c18.toNat c2.toNat))] [] (st (by simp[q20,q21]))<|spc l11 rfl (fun g22 l11=>?_) fun g22 l11=>?_
   ·have c23:=eqT g22
    refine cutA 19 0 [(4,iI i8)] []<|zAA<|zAD<|zAB ?_
    replace h:=retL l11 h
    refine zAB<|zAD<|zAB ?_
    cases h
    simp
   have c24:=eqF g22
   refine zAC<|zDb<|zAN ?_
   have q25:Rng .i64 (i8-1):=by simp only[Rng,inR];omega
   try simp at q25
   refine last 19 0 [(0,.str s1),(1,.int .u8 c2.toNat),(5,iI (i8-1))] [] (st (by simp[q25])) fun zz hs=>?_
   exact⟨(k15,i8-1),hs,⟨l11,by(try dsimp only);(try unfold maxI);(first|omega|(split<;>omega)),by(try dsimp only);(try unfold maxI);(first|omega|(split<;>omega))⟩,by simp⟩
  have c26:=leF g16
  refine zBv<|zAm ?_
  rcases o10 with o10|o9
  ·cases l11
  have q27:=Sum.inr.inj (zqa l11)
  replace h:=zCP h
  refine zAm<|zBu<|zDI (t:=mkS 19 0 [] []) ?_ (zBe (by simp))
  refine cutA 19 0 [(4,iI (-1))] []<|zAA ?_
  cases h
  simp
theorem zFt(fuel:Nat)(s1:(List UInt8))(c2:UInt8)(r:Int)(h:zCo fuel s1 c2=some r):Pure Tryz.prog 47 [.str s1,.int .u8 c2.toNat] (iI r):=by
 rw[zCo] at h
 refine zAQ Tryz.func47 (by rfl) (by rfl) (by simp) (by simp) (by simp)<|cutA 8 0 [(0,.str s1),(1,.int .u8 c2.toNat)] [] ?_
 obtain⟨v3,q4,h⟩:=bs h
 refine cut 8 0 [(4,iI v3)] [] ?_ ?_
 ·refine st ?_
  simp
  have r5:=zFB fuel s1 c2 v3 q4
  try simp at r5
  refine cP r5 ?_
  simp
 refine zAA ?_
 cases h
 simp
theorem zEc(fuel:Nat)(s1:(List UInt8))(at2:Int)(r:zKq)(h:zCz fuel s1 at2=some r):Pure Tryz.prog 27 [.str s1,iI at2] (.agg [iI r.Line,iI r.Column]):=by
 rw[zCz] at h
 refine zAQ Tryz.func27 (by rfl) (by rfl) (by simp) (by simp) (by simp)<|cutA 17 0 [(0,.str s1),(1,iI at2),(4,pT 0)] [zz2] ?_
 obtain⟨s3,q4,h⟩:=bs h
 obtain⟨q5,q6⟩:=zEL q4
 try simp at q5
 try simp at q6
 refine cut 17 0 [(1,iI at2),(4,pT 0),(5,.str s3)] [zz2] (st (by simp[q5,q6])) ?_
 obtain⟨v7,q8,h⟩:=bs h
 obtain⟨n9,q10,h⟩:=bs h
 obtain⟨q11,q12⟩:=zEi q10
 try simp at q11
 try simp at q12
 have c13:=q11;simp only[Rng,inR] at c13
 obtain⟨v14,q15,h⟩:=bs h
 obtain⟨n16,q17,h⟩:=bs h
 obtain⟨q18,q19⟩:=zEi q17
 try simp at q18
 try simp at q19
 have c20:=q18;simp only[Rng,inR] at c20
 refine cut 17 0 [(4,pT 0)] [[iI n9,iI n16]] ?_ ?_
 ·refine st ?_
  simp[q11,q12,q18,q19]
  have r21:=zIh s3 [10] v7 q8
  try simp[q11,q12,q18,q19] at r21
  refine cP r21 ?_
  simp[q11,q12,q18,q19]
  have r22:=zFt fuel s3 (10:UInt8) v14 q15
  try simp[q11,q12,q18,q19] at r22
  refine cP r22 ?_
  simp[q11,q12,q18,q19]
 refine zAA ?_
 cases h
 simp
theorem zDU(c1:UInt8)(r:Bool)(h:zDr c1=some r):Pure Tryz.prog 50 [.int .u8 c1.toNat] (.bool r):=by
 rw[zDr] at h
 refine zAQ Tryz.func50 (by rfl) (by rfl) (by simp) (by simp) (by simp)<|cutA 9 0 [(0,.int .u8 c1.toNat)] []<|cut 9 0 [(2,.bool ((leI 97 c1.toNat)&&(leI c1.toNat 122)))] [] ?_ ?_
 ·rcases tf (leI 97 c1.toNat) with g2|g2
  ·have c3:=leT g2
   refine st ?_
   simp[g2]
  have c4:=leF g2
  refine st ?_
  simp[g2]
 refine zAA ?_
 cases h
 simp
theorem zEd(c1:UInt8)(r:Bool)(h:zEC c1=some r):Pure Tryz.prog 51 [.int .u8 c1.toNat] (.bool r):=by
 rw[zEC] at h
 refine zAQ Tryz.func51 (by rfl) (by rfl) (by simp) (by simp) (by simp)<|cutA 9 0 [(0,.int .u8 c1.toNat)] []<|cut 9 0 [(2,.bool ((leI 65 c1.toNat)&&(leI c1.toNat 90)))] [] ?_ ?_
 ·rcases tf (leI 65 c1.toNat) with g2|g2
  ·have c3:=leT g2
   refine st ?_
   simp[g2]
  have c4:=leF g2
  refine st ?_
  simp[g2]
 refine zAA ?_
 cases h
 simp
theorem zFF(c1:UInt8)(r:Bool)(h:zEQ c1=some r):Pure Tryz.prog 55 [.int .u8 c1.toNat] (.bool r):=by
 rw[zEQ] at h
 refine zAQ Tryz.func55 (by rfl) (by rfl) (by simp) (by simp) (by simp)<|cutA 9 0 [(0,.int .u8 c1.toNat)] []<|cut 9 0 [(2,.bool ((leI 48 c1.toNat)&&(leI c1.toNat 57)))] [] ?_ ?_
 ·rcases tf (leI 48 c1.toNat) with g2|g2
  ·have c3:=leT g2
   refine st ?_
   simp[g2]
  have c4:=leF g2
  refine st ?_
  simp[g2]
 refine zAA ?_
 cases h
 simp
theorem zKS(c1:UInt8)(r:Bool)(h:zE8 c1=some r):Pure Tryz.prog 53 [.int .u8 c1.toNat] (.bool r):=by
 rw[zE8] at h
 refine zAQ Tryz.func53 (by rfl) (by rfl) (by simp) (by simp) (by simp)<|cutA 17 0 [(0,.int .u8 c1.toNat)] [] ?_
 obtain⟨b11,q12,h⟩:=bs h
 refine cut 17 0 [(2,.bool b11)] [] ?_ ?_
 ·obtain⟨v2,q3,q12⟩:=bs q12
  rcases sp q12 with ⟨g4,q12⟩|⟨g4,q12⟩
  ·obtain rfl:=oi q12
   refine st ?_
   simp[g4]
   have r13:=zDU c1 v2 q3
   try simp[g4] at r13
   refine cP r13 ?_
   simp[g4]
  obtain⟨v5,q6,q12⟩:=bs q12
  rcases sp q12 with ⟨g7,q12⟩|⟨g7,q12⟩
  ·obtain rfl:=oi q12
   refine st ?_
   simp[g4,g7]
   have r14:=zDU c1 v2 q3
   try simp[g4,g7] at r14
   refine cP r14 ?_
   simp[g4,g7]
   have r15:=zEd c1 v5 q6
   try simp[g4,g7] at r15
   refine cP r15 ?_
   simp[g4,g7]
  obtain⟨v8,q9,q12⟩:=bs q12
  rcases sp q12 with ⟨g10,q12⟩|⟨g10,q12⟩
  ·obtain rfl:=oi q12
   have g4x:=g4
   try simp only[g7,g10] at g4x
   have g7x:=g7
   try simp only[g4,g10] at g7x
   have g10x:=g10
   try simp only[g4,g7] at g10x
   refine zH0<|WL.cut 2 17 0 [(0,.int .u8 c1.toNat),(4,.bool v2)] [] ?_ ?_
   ·simp[g4,g7,g10,g4x,g7x,g10x]
    have r16:=zDU c1 v2 q3
    try simp[g4,g7,g10,g4x,g7x,g10x] at r16
    refine cP r16 ?_
    simp[g4,g7,g10,g4x,g7x,g10x]
   refine WL.cut 3 17 0 [(0,.int .u8 c1.toNat),(5,.bool v2),(7,.bool v5)] [] ?_ ?_
   ·simp[g4,g7,g10,g4x,g7x,g10x]
    have r17:=zEd c1 v5 q6
    try simp[g4,g7,g10,g4x,g7x,g10x] at r17
    refine cP r17 ?_
    simp[g4,g7,g10,g4x,g7x,g10x]
   refine WL.cut 4 17 0 [(0,.int .u8 c1.toNat),(9,.bool v5),(11,.bool v8)] [] ?_ ?_
   ·simp[g4,g7,g10,g4x,g7x,g10x]
    have r18:=zFF c1 v8 q9
    try simp[g4,g7,g10,g4x,g7x,g10x] at r18
    refine cP r18 ?_
    simp[g4,g7,g10,g4x,g7x,g10x]
   refine WL.last ?_
   simp[g4,g7,g10,g4x,g7x,g10x]
  obtain rfl:=oi q12
  have g4x:=g4
  try simp only[g7,g10] at g4x
  have g7x:=g7
  try simp only[g4,g10] at g7x
  have g10x:=g10
  try simp only[g4,g7] at g10x
  refine zH0<|WL.cut 2 17 0 [(0,.int .u8 c1.toNat),(4,.bool v2)] [] ?_ ?_
  ·simp[g4,g7,g10,g4x,g7x,g10x]
   have r19:=zDU c1 v2 q3
   try simp[g4,g7,g10,g4x,g7x,g10x] at r19
   refine cP r19 ?_
   simp[g4,g7,g10,g4x,g7x,g10x]
  refine WL.cut 3 17 0 [(0,.int .u8 c1.toNat),(5,.bool v2),(7,.bool v5)] [] ?_ ?_
  ·simp[g4,g7,g10,g4x,g7x,g10x]
   have r20:=zEd c1 v5 q6
   try simp[g4,g7,g10,g4x,g7x,g10x] at r20
   refine cP r20 ?_
   simp[g4,g7,g10,g4x,g7x,g10x]
  refine WL.cut 4 17 0 [(0,.int .u8 c1.toNat),(9,.bool v5),(11,.bool v8)] [] ?_ ?_
  ·simp[g4,g7,g10,g4x,g7x,g10x]
   have r21:=zFF c1 v8 q9
   try simp[g4,g7,g10,g4x,g7x,g10x] at r21
   refine cP r21 ?_
   simp[g4,g7,g10,g4x,g7x,g10x]
  refine WL.last ?_
  simp[g4,g7,g10,g4x,g7x,g10x]
 refine zAA ?_
 cases h
 simp
theorem zFD(fuel:Nat)(s1:(List UInt8))(r:Int)(h:zCs fuel s1=some r):Pure Tryz.prog 52 [.str s1,.fn (.func 53) [] []] (iI r):=by
 rw[zCs] at h
 refine zAQ Tryz.func52 (by rfl) (by rfl) (by simp) (by simp) (by simp)<|cutA 20 0 [(0,.str s1),(1,.fn (.func 53) [] [])] []<|cutA 20 0 [(0,.str s1),(1,.fn (.func 53) [] []),(5,iI 0)] []<|zAF<|zAP ?_
 obtain⟨o3,l4,h⟩:=bs h
 refine zCd (fun p:Nat×Int=>mkS 20 0 [(0,.str s1),(1,.fn (.func 53) [] []),(5,iI p.2)] []) (fun p=>zBg s1 p.1 p.2=some o3∧0<=p.2) (fun p=>p.1) (fuel,0) ⟨l4,by(try dsimp only);omega⟩ (zBe (by simp)) ?_
 rintro⟨k6,n2⟩ ⟨l4,c5⟩
 try dsimp only at l4 c5 ⊢
 cases k6 with
 |zero=>
  rw[zBg] at l4;cases l4
 |succ k7=>
  rw[zBg] at l4
  refine zAF ?_
  obtain⟨b19,q20,l4⟩:=bs l4
  refine cut 20 0 [(0,.str s1),(1,.fn (.func 53) [] []),(5,iI n2),(16,.bool b19)] [] ?_ ?_
  ·rcases sp q20 with ⟨g8,q20⟩|⟨g8,q20⟩
   ·have c9:=ltT g8
    refine zGl 0 rfl fun f10=>?_
    obtain⟨c11,q12,q20⟩:=bs q20
    obtain⟨q13,q14⟩:=zGj q12
    obtain⟨v15,q16,q20⟩:=bs q20
    obtain rfl:=oi q20
    refine st ?_
    simp[g8,q13,q14]
    have r28:=zKS c11 v15 q16
    try simp[g8,q13,q14] at r28
    refine cP r28 ?_
    simp[g8,q13,q14]
   have c17:=ltF g8
   refine zGl 0 rfl fun f18=>?_
   obtain rfl:=oi q20
   refine st ?_
   simp[g8]
  refine spc l4 rfl (fun g21 l4=>?_) fun g21 l4=>?_
  ·refine zAC<|zAN<|zAP ?_
   obtain⟨n22,q23,l4⟩:=bs l4
   obtain⟨q24,q25⟩:=zEi q23
   try simp at q24
   try simp at q25
   have c26:=q24;simp only[Rng,inR] at c26
   refine last 20 0 [(0,.str s1),(1,.fn (.func 53) [] []),(5,iI n22)] [] (st (by simp[q24,q25])) fun zz hs=>?_
   refine zDb ?_
   exact⟨(k7,n22),hs,⟨l4,by(try dsimp only);(try unfold maxI);(first|omega|(split<;>omega))⟩,by simp⟩
  refine zBv<|zAm ?_
  have q27:=zqa l4
  have q27:=q27.symm
  refine zAm<|zBu<|zDI (t:=mkS 20 0 [(5,iI o3)] []) ?_ (zBe (by simp[q27]))
  refine cutA 20 0 [(4,iI o3)] []<|zAA ?_
  cases h
  simp
theorem zIz(s1:(List UInt8))(r:Bool)(h:zED s1=some r):Pure Tryz.prog 54 [.str s1] (.bool r):=by
 rw[zED] at h
 refine zAQ Tryz.func54 (by rfl) (by rfl) (by simp) (by simp) (by simp)<|cutA 36 0 [(0,.str s1)] []<|zAF<|cutA 36 0 [(3,.str s1)] []<|zAP<|zAF<|cutA 36 0 [(3,.str s1),(4,.bool (eqS s1 [97,110,100,97,108,115,111]))] [] ?_
 refine spc h rfl (fun g2 h=>?_) fun g2 h=>?_
 ·refine zAC<|zAN<|zBn rfl (by simp[g2])<|cutA 36 0 [(2,.bool true)] []<|zAA<|zAD<|zAB ?_
  cases h
  simp
 refine cutA 36 0 [(3,.str s1),(4,.bool (eqS s1 [99,97,115,101]))] []<|spc h rfl (fun g3 h=>?_) fun g3 h=>?_
 ·refine zAC<|zAN<|zBn rfl (by simp[g3])<|cutA 36 0 [(2,.bool true)] []<|zAA<|zAD<|zAB ?_
  cases h
  simp
 refine cutA 36 0 [(3,.str s1),(4,.bool (eqS s1 [100,97,116,97]))] []<|spc h rfl (fun g4 h=>?_) fun g4 h=>?_
 ·refine zAC<|zAN<|zBn rfl (by simp[g4])<|cutA 36 0 [(2,.bool true)] []<|zAA<|zAD<|zAB ?_
  cases h
  simp
 refine cutA 36 0 [(3,.str s1),(4,.bool (eqS s1 [100,105,118]))] []<|spc h rfl (fun g5 h=>?_) fun g5 h=>?_
 ·refine zAC<|zAN<|zBn rfl (by simp[g5])<|cutA 36 0 [(2,.bool true)] []<|zAA<|zAD<|zAB ?_
  cases h
  simp
 refine cutA 36 0 [(3,.str s1),(4,.bool (eqS s1 [101,108,115,101]))] []<|spc h rfl (fun g6 h=>?_) fun g6 h=>?_
 ·refine zAC<|zAN<|zBn rfl (by simp[g6])<|cutA 36 0 [(2,.bool true)] []<|zAA<|zAD<|zAB ?_
  cases h
  simp
 refine cutA 36 0 [(3,.str s1),(4,.bool (eqS s1 [101,110,100]))] []<|spc h rfl (fun g7 h=>?_) fun g7 h=>?_
 ·refine zAC<|zAN<|zBn rfl (by simp[g7])<|cutA 36 0 [(2,.bool true)] []<|zAA<|zAD<|zAB ?_
  cases h
  simp
 refine cutA 36 0 [(3,.str s1),(4,.bool (eqS s1 [102,110]))] []<|spc h rfl (fun g8 h=>?_) fun g8 h=>?_
 ·refine zAC<|zAN<|zBn rfl (by simp[g8])<|cutA 36 0 [(2,.bool true)] []<|zAA<|zAD<|zAB ?_
  cases h
  simp
 refine cutA 36 0 [(3,.str s1),(4,.bool (eqS s1 [102,117,110]))] []<|spc h rfl (fun g9 h=>?_) fun g9 h=>?_
 ·refine zAC<|zAN<|zBn rfl (by simp[g9])<|cutA 36 0 [(2,.bool true)] []<|zAA<|zAD<|zAB ?_
  cases h
  simp
 refine cutA 36 0 [(3,.str s1),(4,.bool (eqS s1 [102,117,110,99,116,111,114]))] []<|spc h rfl (fun g10 h=>?_) fun g10 h=>?_
 ·refine zAC<|zAN<|zBn rfl (by simp[g10])<|cutA 36 0 [(2,.bool true)] []<|zAA<|zAD<|zAB ?_
  cases h
  simp
 refine cutA 36 0 [(3,.str s1),(4,.bool (eqS s1 [103,101,110,101,114,97,116,105,118,101]))] []<|spc h rfl (fun g11 h=>?_) fun g11 h=>?_
 ·refine zAC<|zAN<|zBn rfl (by simp[g11])<|cutA 36 0 [(2,.bool true)] []<|zAA<|zAD<|zAB ?_
  cases h
  simp
 refine cutA 36 0 [(3,.str s1),(4,.bool (eqS s1 [105,102]))] []<|spc h rfl (fun g12 h=>?_) fun g12 h=>?_
 ·refine zAC<|zAN<|zBn rfl (by simp[g12])<|cutA 36 0 [(2,.bool true)] []<|zAA<|zAD<|zAB ?_
  cases h
  simp
 refine cutA 36 0 [(3,.str s1),(4,.bool (eqS s1 [105,109,112,111,114,116]))] []<|spc h rfl (fun g13 h=>?_) fun g13 h=>?_
 ·refine zAC<|zAN<|zBn rfl (by simp[g13])<|cutA 36 0 [(2,.bool true)] []<|zAA<|zAD<|zAB ?_
  cases h
  simp
 refine cutA 36 0 [(3,.str s1),(4,.bool (eqS s1 [105,110]))] []<|spc h rfl (fun g14 h=>?_) fun g14 h=>?_
 ·refine zAC<|zAN<|zBn rfl (by simp[g14])<|cutA 36 0 [(2,.bool true)] []<|zAA<|zAD<|zAB ?_
  cases h
  simp
 refine cutA 36 0 [(3,.str s1),(4,.bool (eqS s1 [105,110,99,108,117,100,101]))] []<|spc h rfl (fun g15 h=>?_) fun g15 h=>?_
 ·refine zAC<|zAN<|zBn rfl (by simp[g15])<|cutA 36 0 [(2,.bool true)] []<|zAA<|zAD<|zAB ?_
  cases h
  simp
 refine cutA 36 0 [(3,.str s1),(4,.bool (eqS s1 [108,101,116]))] []<|spc h rfl (fun g16 h=>?_) fun g16 h=>?_
 ·refine zAC<|zAN<|zBn rfl (by simp[g16])<|cutA 36 0 [(2,.bool true)] []<|zAA<|zAD<|zAB ?_
  cases h
  simp
 refine cutA 36 0 [(3,.str s1),(4,.bool (eqS s1 [109,111,100]))] []<|spc h rfl (fun g17 h=>?_) fun g17 h=>?_
 ·refine zAC<|zAN<|zBn rfl (by simp[g17])<|cutA 36 0 [(2,.bool true)] []<|zAA<|zAD<|zAB ?_
  cases h
  simp
 refine cutA 36 0 [(3,.str s1),(4,.bool (eqS s1 [109,111,100,117,108,101]))] []<|spc h rfl (fun g18 h=>?_) fun g18 h=>?_
 ·refine zAC<|zAN<|zBn rfl (by simp[g18])<|cutA 36 0 [(2,.bool true)] []<|zAA<|zAD<|zAB ?_
  cases h
  simp
 refine cutA 36 0 [(3,.str s1),(4,.bool (eqS s1 [111,102]))] []<|spc h rfl (fun g19 h=>?_) fun g19 h=>?_
 ·refine zAC<|zAN<|zBn rfl (by simp[g19])<|cutA 36 0 [(2,.bool true)] []<|zAA<|zAD<|zAB ?_
  cases h
  simp
 refine cutA 36 0 [(3,.str s1),(4,.bool (eqS s1 [111,112,101,110]))] []<|spc h rfl (fun g20 h=>?_) fun g20 h=>?_
 ·refine zAC<|zAN<|zBn rfl (by simp[g20])<|cutA 36 0 [(2,.bool true)] []<|zAA<|zAD<|zAB ?_
  cases h
  simp
 refine cutA 36 0 [(3,.str s1),(4,.bool (eqS s1 [111,114,101,108,115,101]))] []<|spc h rfl (fun g21 h=>?_) fun g21 h=>?_
 ·refine zAC<|zAN<|zBn rfl (by simp[g21])<|cutA 36 0 [(2,.bool true)] []<|zAA<|zAD<|zAB ?_
  cases h
  simp
 refine cutA 36 0 [(3,.str s1),(4,.bool (eqS s1 [112,97,99,107]))] []<|spc h rfl (fun g22 h=>?_) fun g22 h=>?_
 ·refine zAC<|zAN<|zBn rfl (by simp[g22])<|cutA 36 0 [(2,.bool true)] []<|zAA<|zAD<|zAB ?_
  cases h
  simp
 refine cutA 36 0 [(3,.str s1),(4,.bool (eqS s1 [115,104,97,114,105,110,103]))] []<|spc h rfl (fun g23 h=>?_) fun g23 h=>?_
 ·refine zAC<|zAN<|zBn rfl (by simp[g23])<|cutA 36 0 [(2,.bool true)] []<|zAA<|zAD<|zAB ?_
  cases h
  simp
 refine cutA 36 0 [(3,.str s1),(4,.bool (eqS s1 [115,105,103]))] []<|spc h rfl (fun g24 h=>?_) fun g24 h=>?_
 ·refine zAC<|zAN<|zBn rfl (by simp[g24])<|cutA 36 0 [(2,.bool true)] []<|zAA<|zAD<|zAB ?_
  cases h
  simp
 refine cutA 36 0 [(3,.str s1),(4,.bool (eqS s1 [115,105,103,110,97,116,117,114,101]))] []<|spc h rfl (fun g25 h=>?_) fun g25 h=>?_
 ·refine zAC<|zAN<|zBn rfl (by simp[g25])<|cutA 36 0 [(2,.bool true)] []<|zAA<|zAD<|zAB ?_
  cases h
  simp
 refine cutA 36 0 [(3,.str s1),(4,.bool (eqS s1 [115,116,114,117,99,116]))] []<|spc h rfl (fun g26 h=>?_) fun g26 h=>?_
 ·refine zAC<|zAN<|zBn rfl (by simp[g26])<|cutA 36 0 [(2,.bool true)] []<|zAA<|zAD<|zAB ?_
  cases h
  simp
 refine cutA 36 0 [(3,.str s1),(4,.bool (eqS s1 [115,116,114,117,99,116,117,114,101]))] []<|spc h rfl (fun g27 h=>?_) fun g27 h=>?_
 ·refine zAC<|zAN<|zBn rfl (by simp[g27])<|cutA 36 0 [(2,.bool true)] []<|zAA<|zAD<|zAB ?_
  cases h
  simp
 refine cutA 36 0 [(3,.str s1),(4,.bool (eqS s1 [116,104,101,110]))] []<|spc h rfl (fun g28 h=>?_) fun g28 h=>?_
 ·refine zAC<|zAN<|zBn rfl (by simp[g28])<|cutA 36 0 [(2,.bool true)] []<|zAA<|zAD<|zAB ?_
  cases h
  simp
 refine cutA 36 0 [(3,.str s1),(4,.bool (eqS s1 [116,121,112,101]))] []<|spc h rfl (fun g29 h=>?_) fun g29 h=>?_
 ·refine zAC<|zAN<|zBn rfl (by simp[g29])<|cutA 36 0 [(2,.bool true)] []<|zAA<|zAD<|zAB ?_
  cases h
  simp
 refine cutA 36 0 [(3,.str s1),(4,.bool (eqS s1 [117,110,112,97,99,107]))] []<|spc h rfl (fun g30 h=>?_) fun g30 h=>?_
 ·refine zAC<|zAN<|zBn rfl (by simp[g30])<|cutA 36 0 [(2,.bool true)] []<|zAA<|zAD<|zAB ?_
  cases h
  simp
 refine cutA 36 0 [(3,.str s1),(4,.bool (eqS s1 [118,97,108]))] []<|spc h rfl (fun g31 h=>?_) fun g31 h=>?_
 ·refine zAC<|zAN<|zBn rfl (by simp[g31])<|cutA 36 0 [(2,.bool true)] []<|zAA<|zAD<|zAB ?_
  cases h
  simp
 refine zHZ 36 0 [(4,.bool (eqS s1 [119,105,116,104]))] []<|spc h rfl (fun g32 h=>?_) fun g32 h=>?_
 ·refine cutA 36 0 [(2,.bool true)] []<|zAA<|zAD<|zAB ?_
  cases h
  simp
 refine zAC<|zDb<|zAN<|cutA 36 0 [(2,.bool false)] []<|zAA ?_
 cases h
 simp
theorem zBr(kind1:Int)(n2:Int)(text3:(List UInt8))(w4:zKn)(r:zKp×Int×Int×zKn)(h:zA2 kind1 n2 text3 w4=some r):Raw Tryz.prog 48 [iI kind1,iI n2,.str text3,pT 0] [[pT 1],[.str w4.s,iI w4.at_]] (.tup [.agg [iI r.1.Kind,.str r.1.Text,iI r.1.At.Line,iI r.1.At.Column],iI r.2.1,iI r.2.2.1]) [[pT 1],[.str r.2.2.2.s,iI r.2.2.2.at_]]:=by
 rw[zA2] at h
 refine zA9 Tryz.func48 (by rfl) (by rfl) (by simp) (by simp)<|cutA 21 2 [(0,iI kind1),(1,iI n2),(2,.str text3),(3,pT 0),(7,pT 2)] [[pT 1],[.str w4.s,iI w4.at_],zz1] ?_
 obtain⟨n5,q6,h⟩:=bs h
 obtain⟨q7,q8⟩:=zEi q6
 try simp at q7
 try simp at q8
 have c9:=q7;simp only[Rng,inR] at c9
 refine cut 21 2 [(0,iI kind1),(2,.str text3),(7,pT 2)] [[pT 1],[.str w4.s,iI n5],zz1] (st (by simp[q7,q8]))<|cutA 21 2 [(7,pT 2),(8,iI 0),(9,iI 0)] [[pT 1],[.str w4.s,iI n5],[iI kind1,.str text3,iI 0,iI 0]]<|zAA ?_
 cases h
 simp
theorem zCH(by1:Int)(e2:Int)(w3:zKn)(r:zKp×Int×Int)(h:zBD by1 e2 w3=some r):Raw Tryz.prog 49 [iI by1,iI e2,pT 0] [[pT 1],[.str w3.s,iI w3.at_]] (.tup [.agg [iI r.1.Kind,.str r.1.Text,iI r.1.At.Line,iI r.1.At.Column],iI r.2.1,iI r.2.2]) [[pT 1],[.str w3.s,iI w3.at_]]:=by
 rw[zBD] at h
 refine zA9 Tryz.func49 (by rfl) (by rfl) (by simp) (by simp)<|cutA 16 2 [(0,iI by1),(1,iI e2),(2,pT 0),(5,pT 2)] [[pT 1],[.str w3.s,iI w3.at_],zz1] ?_
 obtain⟨n4,q5,h⟩:=bs h
 obtain⟨q6,q7⟩:=zEi q5
 try simp at q6
 try simp at q7
 have c8:=q6;simp only[Rng,inR] at c8
 refine cut 16 2 [(5,pT 2),(6,iI n4),(7,iI e2)] [[pT 1],[.str w3.s,iI w3.at_],zz1] ?_ ?_
 ·refine zBZ [2] [10] mixed (n:=16) rfl (by decide) (by decide) ?_
  simp[q6,q7]
 refine zAA ?_
 cases h
 simp
theorem zGi(fuel:Nat)(s1:(List UInt8))(r:Int)(h:zDM fuel s1=some r):Pure Tryz.prog 52 [.str s1,.fn (.func 55) [] []] (iI r):=by
 rw[zDM] at h
 refine zAQ Tryz.func52 (by rfl) (by rfl) (by simp) (by simp) (by simp)<|cutA 20 0 [(0,.str s1),(1,.fn (.func 55) [] [])] []<|cutA 20 0 [(0,.str s1),(1,.fn (.func 55) [] []),(5,iI 0)] []<|zAF<|zAP ?_
 obtain⟨o3,l4,h⟩:=bs h
 refine zCd (fun p:Nat×Int=>mkS 20 0 [(0,.str s1),(1,.fn (.func 55) [] []),(5,iI p.2)] []) (fun p=>zBh s1 p.1 p.2=some o3∧0<=p.2) (fun p=>p.1) (fuel,0) ⟨l4,by(try dsimp only);omega⟩ (zBe (by simp)) ?_
 rintro⟨k6,n2⟩ ⟨l4,c5⟩
 try dsimp only at l4 c5 ⊢
 cases k6 with
 |zero=>
  rw[zBh] at l4;cases l4
 |succ k7=>
  rw[zBh] at l4
  refine zAF ?_
  obtain⟨b19,q20,l4⟩:=bs l4
  refine cut 20 0 [(0,.str s1),(1,.fn (.func 55) [] []),(5,iI n2),(16,.bool b19)] [] ?_ ?_
  ·rcases sp q20 with ⟨g8,q20⟩|⟨g8,q20⟩
   ·have c9:=ltT g8
    refine zGl 0 rfl fun f10=>?_
    obtain⟨c11,q12,q20⟩:=bs q20
    obtain⟨q13,q14⟩:=zGj q12
    obtain⟨v15,q16,q20⟩:=bs q20
    obtain rfl:=oi q20
    refine st ?_
    simp[g8,q13,q14]
    have r28:=zFF c11 v15 q16
    try simp[g8,q13,q14] at r28
    refine cP r28 ?_
    simp[g8,q13,q14]
   have c17:=ltF g8
   refine zGl 0 rfl fun f18=>?_
   obtain rfl:=oi q20
   refine st ?_
   simp[g8]
  refine spc l4 rfl (fun g21 l4=>?_) fun g21 l4=>?_
  ·refine zAC<|zAN<|zAP ?_
   obtain⟨n22,q23,l4⟩:=bs l4
   obtain⟨q24,q25⟩:=zEi q23
   try simp at q24
   try simp at q25
   have c26:=q24;simp only[Rng,inR] at c26
   refine last 20 0 [(0,.str s1),(1,.fn (.func 55) [] []),(5,iI n22)] [] (st (by simp[q24,q25])) fun zz hs=>?_
   refine zDb ?_
   exact⟨(k7,n22),hs,⟨l4,by(try dsimp only);(try unfold maxI);(first|omega|(split<;>omega))⟩,by simp⟩
  refine zBv<|zAm ?_
  have q27:=zqa l4
  have q27:=q27.symm
  refine zAm<|zBu<|zDI (t:=mkS 20 0 [(5,iI o3)] []) ?_ (zBe (by simp[q27]))
  refine cutA 20 0 [(4,iI o3)] []<|zAA ?_
  cases h
  simp
theorem zJN(fuel:Nat)(s1:(List UInt8))(r:Int)(h:zDE fuel s1=some r):Pure Tryz.prog 56 [.str s1] (iI r):=by
 rw[zDE] at h
 refine zAQ Tryz.func56 (by rfl) (by rfl) (by simp) (by simp) (by simp)<|cutA 29 0 [(0,.str s1)] []<|zAF ?_
 obtain⟨b9,q10,h⟩:=bs h
 refine cut 29 0 [(0,.str s1),(12,.bool b9)] [] ?_ ?_
 ·rcases sp q10 with ⟨g2,q10⟩|⟨g2,q10⟩
  ·have c3:=ltT g2
   refine zGl 0 rfl fun f4=>?_
   obtain⟨c5,q6,q10⟩:=bs q10
   obtain rfl:=oi q10
   refine st ?_
   simp[g2,q6]
  have c7:=ltF g2
  refine zGl 0 rfl fun f8=>?_
  obtain rfl:=oi q10
  refine st ?_
  simp[g2]
 refine spc h rfl (fun g11 h=>?_) fun g11 h=>?_
 ·refine cutA 29 0 [(2,iI 3)] []<|zAA<|zAB ?_
  cases h
  simp
 refine zAC<|zAN<|cutA 29 0 [(0,.str s1),(3,iI 0)] []<|zAF<|cutA 29 0 [(0,.str s1),(3,iI 0),(14,iI s1.length),(15,iI 0)] []<|zAP ?_
 obtain⟨o15,l16,h⟩:=bs h
 refine zCd (fun p:Nat×Int×Nat=>mkS 29 0 [(0,.str s1),(3,iI p.2.1),(14,iI s1.length),(15,iI p.2.2)] []) (fun p=>zA7 s1 p.1 p.2.1 p.2.2=some o15) (fun p=>p.1) (fuel,0,0) l16 (zBe (by simp)) ?_
 rintro⟨k17,n12,i13⟩ l16
 try dsimp only at l16 ⊢
 cases k17 with
 |zero=>
  rw[zA7] at l16;cases l16
 |succ k18=>
  rw[zA7] at l16
  refine cutA 29 0 [(0,.str s1),(3,iI n12),(14,iI s1.length),(15,iI i13),(16,.bool (ltI i13 s1.length))] []<|zAF<|spc l16 rfl (fun g19 l16=>?_) fun g19 l16=>?_
  ·have c20:=ltT g19
   refine zGl 0 rfl fun f21=>?_
   refine zAC<|zAN<|zAF<|zAP<|cutA 29 0 [(0,.str s1),(3,iI n12),(4,iI i13),(14,iI s1.length),(15,iI i13)] [] ?_
   obtain⟨n22,q23,l16⟩:=bs l16
   obtain⟨q24,q25⟩:=zEi q23
   try simp at q24
   try simp at q25
   have c26:=q24;simp only[Rng,inR] at c26
   obtain⟨c27,q28,l16⟩:=bs l16
   obtain⟨n29,q30,l16⟩:=bs l16
   obtain⟨q31,q32⟩:=zEi q30
   try simp at q31
   try simp at q32
   have c33:=q31;simp only[Rng,inR] at c33
   have q34:Rng .i64 (n29):=by simp only[Rng,inR];omega
   obtain⟨n35,q36,l16⟩:=bs l16
   obtain⟨q37,q38⟩:=zEi q36
   try simp at q37
   try simp at q38
   have c39:=q37;simp only[Rng,inR] at c39
   refine cut 29 0 [(0,.str s1),(3,iI n35),(14,iI s1.length),(15,iI i13)] [] (st (by simp[q24,q25,q28,q31,q32,q34,q37,q38]))<|cutA 29 0 [(0,.str s1),(3,iI n35),(14,iI s1.length),(15,iI i13),(27,.bool (ltI 4503599627370496 n35))] []<|spc l16 rfl (fun g40 l16=>?_) fun g40 l16=>?_
   ·have c41:=ltT g40
    refine cutA 29 0 [(2,iI 6)] []<|zAA<|zAD<|zAB ?_
    replace h:=retL l16 h
    refine zAB<|zAD<|zAB ?_
    cases h
    simp
   have c42:=ltF g40
   refine zAC<|zDb<|zAN ?_
   have q43:Rng .i64 (((i13:Nat):Int)+1):=by simp only[Rng,inR];omega
   try simp at q43
   refine last 29 0 [(0,.str s1),(3,iI n35),(14,iI s1.length),(15,iI ((i13+1:Nat):Int))] [] (st (by simp[q43])) fun zz hs=>?_
   exact⟨(k18,n35,i13+1),hs,l16,by simp⟩
  have c44:=ltF g19
  refine zGl 0 rfl fun f45=>?_
  refine zBv<|zAm ?_
  rcases o15 with o15|o14
  ·cases l16
  have q46:=Sum.inr.inj (zqa l16)
  replace h:=zCP h
  refine zAm<|zBu<|zDI (t:=mkS 29 0 [] []) ?_ (zBe (by simp))
  refine cutA 29 0 [(2,iI 0)] []<|zAA ?_
  cases h
  simp
theorem zCa(c1:UInt8)(b2:(List UInt8))(r:(List UInt8))(h:zAl c1 b2=some r):Raw Tryz.prog 81 [pT 0,.int .u8 c1.toNat] [[.baddr 75 0,.osl ⟨1,5⟩ (b2.map cU)]] (.nilif) [[.baddr 75 0,.osl ⟨1,5⟩ (r.map cU)]]:=by
 rw[zAl] at h
 refine zA9 Tryz.func81 (by rfl) (by rfl) (by simp) (by simp)<|cutA 17 1 [(0,pT 0),(1,.int .u8 c1.toNat)] [[.baddr 75 0,.osl ⟨1,5⟩ (b2.map cU)]] ?_
 obtain⟨v3,q4,h⟩:=bs h
 refine cut 17 1 [(0,pT 0),(1,.int .u8 c1.toNat)] [[.baddr 75 0,.osl ⟨1,5⟩ (b2.map cU)]] ?_ ?_
 ·refine st ?_
  simp
  have r9:=(zFO b2 v3 q4).frame [0] [[.baddr 75 0,.osl ⟨1,5⟩ (b2.map cU)]] (by simp)
  try simp at r9
  refine zAK r9 (by simp) rfl ?_
  simp
 obtain⟨l5,q6,h⟩:=bs h
 obtain⟨q7,q8⟩:=zF7 q6
 try simp at q7
 refine cut 17 1 [] [[.baddr 75 0,.osl ⟨1,5⟩ (l5.map cU)]] (st (by simp[q7,q8]))<|cutA 17 1 [(4,.nilif)] [[.baddr 75 0,.osl ⟨1,5⟩ (l5.map cU)]]<|zAA ?_
 cases h
 simp
theorem zIx(c1:UInt8)(r:Bool)(h:zDk c1=some r):Pure Tryz.prog 82 [.int .u8 c1.toNat] (.bool r):=by
 rw[zDk] at h
 refine zAQ Tryz.func82 (by rfl) (by rfl) (by simp) (by simp) (by simp)<|cutA 9 0 [(0,.int .u8 c1.toNat)] []<|cut 9 0 [(2,.bool ((leI 32 c1.toNat)&&(leI c1.toNat 126)))] [] ?_ ?_
 ·rcases tf (leI 32 c1.toNat) with g2|g2
  ·have c3:=leT g2
   refine st ?_
   simp[g2]
  have c4:=leF g2
  refine st ?_
  simp[g2]
 refine zAA ?_
 cases h
 simp
theorem zIy(fuel:Nat)(s1:(List UInt8))(r:(List UInt8)×Int×Int×Int)(h:zDX fuel s1=some r):Pure Tryz.prog 57 [.str s1] (.tup [.str r.1,iI r.2.1,iI r.2.2.1,iI r.2.2.2]):=by
 rw[zDX] at h
 refine zAQ Tryz.func57 (by rfl) (by rfl) (by simp) (by simp) (by simp)<|cutA 61 0 [(0,.str s1)] []<|cutA 61 0 [(0,.str s1),(6,pT 0)] [[.baddr 75 0,.osl ⟨1,5⟩ (([]:List UInt8).map cU)]]<|zAF<|cutA 61 0 [(0,.str s1),(6,pT 0),(7,iI 1)] [[.baddr 75 0,.osl ⟨1,5⟩ (([]:List UInt8).map cU)]]<|zAP ?_
 obtain⟨o5,l6,h⟩:=bs h
 refine zCd (fun p:Nat×(List UInt8)×Nat=>mkS 61 0 [(0,.str s1),(6,pT 0),(7,iI p.2.2)] [[.baddr 75 0,.osl ⟨1,5⟩ (p.2.1.map cU)]]) (fun p=>zAj s1 p.1 p.2.1 p.2.2=some o5) (fun p=>p.1) (fuel,([]:List UInt8),1) l6 (zBe (by simp)) ?_
 rintro⟨k7,buf2,i3⟩ l6
 try dsimp only at l6 ⊢
 cases k7 with
 |zero=>
  rw[zAj] at l6;cases l6
 |succ k8=>
  rw[zAj] at l6
  refine zAF<|cutA 61 0 [(0,.str s1),(6,pT 0),(7,iI i3),(12,.bool (ltI i3 s1.length))] [[.baddr 75 0,.osl ⟨1,5⟩ (buf2.map cU)]]<|spc l6 rfl (fun g9 l6=>?_) fun g9 l6=>?_
  ·have c10:=ltT g9
   refine zGl 0 rfl fun f11=>?_
   refine zAC<|zAN<|zAF<|zAP ?_
   obtain⟨c12,q13,l6⟩:=bs l6
   refine cut 61 0 [(0,.str s1),(6,pT 0),(7,iI i3),(8,.int .u8 c12.toNat)] [[.baddr 75 0,.osl ⟨1,5⟩ (buf2.map cU)]] (st (by simp[q13]))<|zAP<|cutA 61 0 [(0,.str s1),(6,pT 0),(7,iI i3),(8,.int .u8 c12.toNat),(20,.bool (eqI c12.toNat 34))] [[.baddr 75 0,.osl ⟨1,5⟩ (buf2.map cU)]]<|spc l6 rfl (fun g14 l6=>?_) fun g14 l6=>?_
   ·have c15:=eqT g14
    obtain⟨v16,q17,l6⟩:=bs l6
    have q18:Rng .i64 (((i3:Nat):Int)+1):=by simp only[Rng,inR];omega
    try simp at q18
    refine cut 61 0 [(2,.str v16),(3,iI ((i3+1:Nat):Int)),(4,iI 0),(5,iI 0)] [[.baddr 75 0,.osl ⟨1,5⟩ (buf2.map cU)]] ?_ ?_
    ·refine st ?_
     simp[q18]
     have r19:=(zFk buf2 v16 q17).frame [0] [[.baddr 75 0,.osl ⟨1,5⟩ (buf2.map cU)]] (by simp)
     try simp[q18] at r19
     refine zAK r19 (by simp[q18]) rfl ?_
     simp[q18]
    refine zAA<|zAD<|zAD<|zAB ?_
    replace h:=retL l6 h
    refine zAB<|zAD<|zAB ?_
    cases h
    simp
   have c20:=eqF g14
   refine cut 61 0 [(0,.str s1),(6,pT 0),(7,iI i3),(8,.int .u8 c12.toNat),(26,.bool ((eqI c12.toNat 92)&&(ltI ((i3+1:Nat):Int) (s1.length:Int))))] [[.baddr 75 0,.osl ⟨1,5⟩ (buf2.map cU)]] ?_ ?_
   ·rcases tf (eqI c12.toNat 92) with g21|g21
    ·have c22:=eqT g21
     have q23:Rng .i64 (((i3:Nat):Int)+1):=by simp only[Rng,inR];omega
     try simp at q23
     refine st ?_
     simp[g21,q23]
    have c24:=eqF g21
    refine st ?_
    simp[g21]
   rcases sp l6 with ⟨g25,l6⟩|⟨g25,l6⟩
   ·obtain⟨g26,g27⟩:=andT g25
    have c28:=eqT g26
    have c29:=ltT g27
    refine zBn rfl g25 ?_
    have q30:Rng .i64 (((i3:Nat):Int)+1):=by simp only[Rng,inR];omega
    try simp at q30
    refine cut 61 0 [(0,.str s1),(6,pT 0),(7,iI ((i3+1:Nat):Int))] [[.baddr 75 0,.osl ⟨1,5⟩ (buf2.map cU)]] (st (by simp[q30])) ?_
    obtain⟨c31,q32,l6⟩:=bs l6
    refine cut 61 0 [(0,.str s1),(6,pT 0),(7,iI ((i3+1:Nat):Int)),(40,.int .u8 c31.toNat)] [[.baddr 75 0,.osl ⟨1,5⟩ (buf2.map cU)]] (st (by simp[q32]))<|zAP<|zAF<|cutA 61 0 [(0,.str s1),(6,pT 0),(7,iI ((i3+1:Nat):Int)),(40,.int .u8 c31.toNat),(43,.bool (eqI c31.toNat 34))] [[.baddr 75 0,.osl ⟨1,5⟩ (buf2.map cU)]]<|spc l6 rfl (fun g33 l6=>?_) fun g33 l6=>?_
    ·have c34:=eqT g33
     refine zAC<|zAN<|zBn rfl (by simp[g33]) ?_
     obtain⟨v35,q36,l6⟩:=bs l6
     refine last 61 0 [(0,.str s1),(6,pT 0),(7,iI ((i3+1:Nat):Int))] [[.baddr 75 0,.osl ⟨1,5⟩ (v35.map cU)]] ?_ fun zz hs=>?_
     ·refine st ?_
      simp[q32]
      have r38:=(zCa c31 buf2 v35 q36).frame [0] [[.baddr 75 0,.osl ⟨1,5⟩ (buf2.map cU)]] (by simp)
      try simp[q32] at r38
      refine zAK r38 (by simp[q32]) rfl ?_
      simp[q32]
     refine zDb<|zDb<|zDb<|zDI ?_ hs
     have q37:Rng .i64 (((i3+1:Nat):Int)+1):=by simp only[Rng,inR];omega
     try simp at q37
     refine last 61 0 [(0,.str s1),(6,pT 0),(7,iI (((i3+1)+1:Nat):Int))] [[.baddr 75 0,.osl ⟨1,5⟩ (v35.map cU)]] (st (by simp[q37])) fun zz hs=>?_
     exact⟨(k8,v35,(i3+1)+1),hs,l6,by simp⟩
    have c39:=eqF g33
    refine zHZ 61 0 [(0,.str s1),(6,pT 0),(7,iI ((i3+1:Nat):Int)),(40,.int .u8 c31.toNat),(43,.bool (eqI c31.toNat 92))] [[.baddr 75 0,.osl ⟨1,5⟩ (buf2.map cU)]]<|spc l6 rfl (fun g40 l6=>?_) fun g40 l6=>?_
    ·have c41:=eqT g40
     obtain⟨v42,q43,l6⟩:=bs l6
     refine last 61 0 [(0,.str s1),(6,pT 0),(7,iI ((i3+1:Nat):Int))] [[.baddr 75 0,.osl ⟨1,5⟩ (v42.map cU)]] ?_ fun zz hs=>?_
     ·refine st ?_
      simp[q32]
      have r45:=(zCa c31 buf2 v42 q43).frame [0] [[.baddr 75 0,.osl ⟨1,5⟩ (buf2.map cU)]] (by simp)
      try simp[q32] at r45
      refine zAK r45 (by simp[q32]) rfl ?_
      simp[q32]
     refine zDb<|zDb<|zDb<|zDI ?_ hs
     have q44:Rng .i64 (((i3+1:Nat):Int)+1):=by simp only[Rng,inR];omega
     try simp at q44
     refine last 61 0 [(0,.str s1),(6,pT 0),(7,iI (((i3+1)+1:Nat):Int))] [[.baddr 75 0,.osl ⟨1,5⟩ (v42.map cU)]] (st (by simp[q44])) fun zz hs=>?_
     exact⟨(k8,v42,(i3+1)+1),hs,l6,by simp⟩
    have c46:=eqF g40
    refine cutA 61 0 [(0,.str s1),(6,pT 0),(7,iI ((i3+1:Nat):Int)),(50,.bool (eqI c31.toNat 110))] [[.baddr 75 0,.osl ⟨1,5⟩ (buf2.map cU)]]<|spc l6 rfl (fun g47 l6=>?_) fun g47 l6=>?_
    ·have c48:=eqT g47
     obtain⟨v49,q50,l6⟩:=bs l6
     refine last 61 0 [(0,.str s1),(6,pT 0),(7,iI ((i3+1:Nat):Int))] [[.baddr 75 0,.osl ⟨1,5⟩ (v49.map cU)]] ?_ fun zz hs=>?_
     ·refine st ?_
      simp
      have r52:=(zCa (10:UInt8) buf2 v49 q50).frame [0] [[.baddr 75 0,.osl ⟨1,5⟩ (buf2.map cU)]] (by simp)
      try simp at r52
      refine zAK r52 (by simp) rfl ?_
      simp
     refine zDb<|zDb<|zDb<|zDI ?_ hs
     have q51:Rng .i64 (((i3+1:Nat):Int)+1):=by simp only[Rng,inR];omega
     try simp at q51
     refine last 61 0 [(0,.str s1),(6,pT 0),(7,iI (((i3+1)+1:Nat):Int))] [[.baddr 75 0,.osl ⟨1,5⟩ (v49.map cU)]] (st (by simp[q51])) fun zz hs=>?_
     exact⟨(k8,v49,(i3+1)+1),hs,l6,by simp⟩
    have c53:=eqF g47
    have q54:Rng .i64 (((i3+1:Nat):Int)-1):=by simp only[Rng,inR];omega
    try simp at q54
    refine cut 61 0 [(2,.str ([]:List UInt8)),(3,iI 0),(4,iI (((i3+1:Nat):Int)-1)),(5,iI 3)] [[.baddr 75 0,.osl ⟨1,5⟩ (buf2.map cU)]] (st (by simp[q54]))<|zAA<|zAD<|zAD<|zAD<|zAB ?_
    replace h:=retL l6 h
    refine zAB<|zAD<|zAB ?_
    cases h
    simp
   refine condF rfl g25<|cutA 61 0 [(0,.str s1),(6,pT 0),(7,iI i3),(8,.int .u8 c12.toNat),(53,.bool (eqI c12.toNat 92))] [[.baddr 75 0,.osl ⟨1,5⟩ (buf2.map cU)]]<|spc l6 rfl (fun g55 l6=>?_) fun g55 l6=>?_
   ·have c56:=eqT g55
    refine cutA 61 0 [(2,.str ([]:List UInt8)),(3,iI 0),(4,iI 0),(5,iI 4)] [[.baddr 75 0,.osl ⟨1,5⟩ (buf2.map cU)]]<|zAA<|zAD<|zAD<|zAB ?_
    replace h:=retL l6 h
    refine zAB<|zAD<|zAB ?_
    cases h
    simp
   have c57:=eqF g55
   obtain⟨v58,q59,l6⟩:=bs l6
   refine cut 61 0 [(0,.str s1),(6,pT 0),(7,iI i3),(8,.int .u8 c12.toNat),(56,.bool (!v58))] [[.baddr 75 0,.osl ⟨1,5⟩ (buf2.map cU)]] ?_ ?_
   ·refine st ?_
    simp
    have r67:=zIx c12 v58 q59
    try simp at r67
    refine cP r67 ?_
    simp
   refine spc l6 rfl (fun g60 l6=>?_) fun g60 l6=>?_
   ·have g61:=notT g60
    refine cutA 61 0 [(2,.str ([]:List UInt8)),(3,iI 0),(4,iI i3),(5,iI 3)] [[.baddr 75 0,.osl ⟨1,5⟩ (buf2.map cU)]]<|zAA<|zAD<|zAD<|zAB ?_
    replace h:=retL l6 h
    refine zAB<|zAD<|zAB ?_
    cases h
    simp
   have g62:=notF g60
   obtain⟨v63,q64,l6⟩:=bs l6
   refine last 61 0 [(0,.str s1),(6,pT 0),(7,iI i3)] [[.baddr 75 0,.osl ⟨1,5⟩ (v63.map cU)]] ?_ fun zz hs=>?_
   ·refine st ?_
    simp
    have r66:=(zCa c12 buf2 v63 q64).frame [0] [[.baddr 75 0,.osl ⟨1,5⟩ (buf2.map cU)]] (by simp)
    try simp at r66
    refine zAK r66 (by simp) rfl ?_
    simp
   refine zDb<|zDb<|zDI ?_ hs
   have q65:Rng .i64 (((i3:Nat):Int)+1):=by simp only[Rng,inR];omega
   try simp at q65
   refine last 61 0 [(0,.str s1),(6,pT 0),(7,iI ((i3+1:Nat):Int))] [[.baddr 75 0,.osl ⟨1,5⟩ (v63.map cU)]] (st (by simp[q65])) fun zz hs=>?_
   exact⟨(k8,v63,i3+1),hs,l6,by simp⟩
  have c68:=ltF g9
  refine zGl 0 rfl fun f69=>?_
  refine zBv<|zAm ?_
  rcases o5 with o5|o4
  ·cases l6
  have q70:=Sum.inr.inj (zqa l6)
  replace h:=zCP h
  have q70:=q70.symm
  refine zAm<|zBu<|zDI (t:=mkS 61 0 [] [[.baddr 75 0,.osl ⟨1,5⟩ (o4.map cU)]]) ?_ (zBe (by simp[q70]))
  refine cutA 61 0 [(2,.str ([]:List UInt8)),(3,iI 0),(4,iI 0),(5,iI 4)] [[.baddr 75 0,.osl ⟨1,5⟩ (o4.map cU)]]<|zAA ?_
  cases h
  simp
theorem zJP(fuel:Nat)(s1:(List UInt8))(r:(List UInt8)×Bool)(h:zEm fuel s1=some r):Pure Tryz.prog 58 [.str s1] (.tup [.str r.1,.bool r.2]):=by
 rw[zEm] at h
 refine zAQ Tryz.func58 (by rfl) (by rfl) (by simp) (by simp) (by simp)<|cutA 29 0 [(0,.str s1)] []<|zAF ?_
 obtain⟨v2,q3,h⟩:=bs h
 refine cut 29 0 [(0,.str s1),(7,.bool v2)] [] ?_ ?_
 ·refine st ?_
  simp
  have r43:=zDH s1 [40,42] v2 q3
  try simp at r43
  refine cP r43 ?_
  simp
 refine spc h rfl (fun g4 h=>?_) fun g4 h=>?_
 ·refine cutA 29 0 [(2,.str ([]:List UInt8)),(3,.bool false)] []<|zAA<|zAB ?_
  cases h
  simp
 refine zAC<|zAN<|zAF ?_
 obtain⟨l5,q6,h⟩:=bs h
 obtain⟨q7,q8⟩:=zGg q6
 refine cut 29 0 [(0,.str s1),(8,.osl ⟨1,9⟩ (l5.map cS)),(9,iI l5.length),(10,iI 0)] [] (st (by simp[q7,q8]))<|zAP ?_
 obtain⟨o11,l12,h⟩:=bs h
 refine zCd (fun p:Nat×Nat=>mkS 29 0 [(0,.str s1),(8,.osl ⟨1,9⟩ (l5.map cS)),(9,iI l5.length),(10,iI p.2)] []) (fun p=>zCU s1 l5 p.1 p.2=some o11) (fun p=>p.1) (fuel,0) l12 (zBe (by simp)) ?_
 rintro⟨k13,i9⟩ l12
 try dsimp only at l12 ⊢
 cases k13 with
 |zero=>
  rw[zCU] at l12;cases l12
 |succ k14=>
  rw[zCU] at l12
  refine cutA 29 0 [(0,.str s1),(8,.osl ⟨1,9⟩ (l5.map cS)),(9,iI l5.length),(10,iI i9),(11,.bool (ltI i9 l5.length))] []<|zAF<|spc l12 rfl (fun g15 l12=>?_) fun g15 l12=>?_
  ·have c16:=ltT g15
   refine zGm 8 rfl fun f17=>?_
   rw[zq4] at f17
   refine zAC<|zAN<|zAF<|zAP ?_
   obtain⟨x18,q19,l12⟩:=bs l12
   refine cut 29 0 [(0,.str s1),(5,.str x18),(8,.osl ⟨1,9⟩ (l5.map cS)),(9,iI l5.length),(10,iI i9)] [] (st (by simp[q19])) ?_
   obtain⟨v20,q21,l12⟩:=bs l12
   refine cut 29 0 [(0,.str s1),(5,.str x18),(8,.osl ⟨1,9⟩ (l5.map cS)),(9,iI l5.length),(10,iI i9),(16,.bool v20)] [] ?_ ?_
   ·refine st ?_
    simp
    have r24:=zDH s1 x18 v20 q21
    try simp at r24
    refine cP r24 ?_
    simp
   refine spc l12 rfl (fun g22 l12=>?_) fun g22 l12=>?_
   ·refine cutA 29 0 [(2,.str x18),(3,.bool true)] []<|zAA<|zAD<|zAB ?_
    replace h:=retL l12 h
    refine zAB<|zAD<|zAB ?_
    cases h
    simp
   refine zAC<|zDb<|zAN ?_
   have q23:Rng .i64 (((i9:Nat):Int)+1):=by simp only[Rng,inR];omega
   try simp at q23
   refine last 29 0 [(0,.str s1),(8,.osl ⟨1,9⟩ (l5.map cS)),(9,iI l5.length),(10,iI ((i9+1:Nat):Int))] [] (st (by simp[q23])) fun zz hs=>?_
   exact⟨(k14,i9+1),hs,l12,by simp⟩
  have c25:=ltF g15
  refine zGm 8 rfl fun f26=>?_
  rw[zq4] at f26
  refine zBv<|zAm ?_
  rcases o11 with o11|o10
  ·cases l12
  have q27:=Sum.inr.inj (zqa l12)
  replace h:=zCP h
  refine zAm<|zBu<|zDI (t:=mkS 29 0 [(0,.str s1)] []) ?_ (zBe (by simp))
  refine zAF ?_
  obtain⟨b35,q36,h⟩:=bs h
  refine cut 29 0 [(0,.str s1),(26,.bool b35)] [] ?_ ?_
  ·rcases sp q36 with ⟨g28,q36⟩|⟨g28,q36⟩
   ·have g29:=notT g28
    obtain⟨c30,q31,q36⟩:=bs q36
    obtain⟨v32,q33,q36⟩:=bs q36
    obtain rfl:=oi q36
    refine st ?_
    simp[g28,q31]
    have r42:=zFN [40,41,44,59,58,61,124,95,46,42,43,45,60,94,126] c30 v32 q33
    try simp[g28,q31] at r42
    refine cP r42 ?_
    simp[g28,q31]
   have g34:=notF g28
   obtain rfl:=oi q36
   refine st ?_
   simp[g28]
  refine spc h rfl (fun g37 h=>?_) fun g37 h=>?_
  ·obtain⟨s38,q39,h⟩:=bs h
   obtain⟨q40,q41⟩:=zEL q39
   try simp at q40
   try simp at q41
   refine cut 29 0 [(2,.str s38),(3,.bool true)] [] (st (by simp[q40,q41]))<|zAA<|zAB ?_
   cases h
   simp
  refine zAC<|zAN<|cutA 29 0 [(2,.str ([]:List UInt8)),(3,.bool false)] []<|zAA ?_
  cases h
  simp
theorem zGO(fuel:Nat)(w1:zKn)(r:zKp×Int×Int×zKn)(h:zC6 fuel w1=some r):Raw Tryz.prog 28 [pT 0] [[.str w1.s,iI w1.at_]] (.tup [.agg [iI r.1.Kind,.str r.1.Text,iI r.1.At.Line,iI r.1.At.Column],iI r.2.1,iI r.2.2.1]) [[.str r.2.2.2.s,iI r.2.2.2.at_]]:=by
 rw[zC6] at h
 refine zA9 Tryz.func28 (by rfl) (by rfl) (by simp) (by simp)<|cutA 188 1 [(1,pT 1),(2,pT 2)] [[.str w1.s,iI w1.at_],[pT 0],zz1] ?_
 obtain⟨s2,q3,h⟩:=bs h
 obtain⟨q4,q5⟩:=zEL q3
 try simp at q4
 try simp at q5
 refine cut 188 1 [(1,pT 1),(2,pT 2),(5,.str s2)] [[.str w1.s,iI w1.at_],[pT 0],zz1] ?_ ?_
 ·refine zAg [] mixed (n:=188) rfl (by decide) ?_
  simp[q4,q5]
 refine cutA 188 1 [(1,pT 1),(2,pT 2),(5,.str s2),(6,.fn (.func 48) [] [pT 1])] [[.str w1.s,iI w1.at_],[pT 0],zz1]<|cutA 188 1 [(2,pT 2),(5,.str s2),(6,.fn (.func 48) [] [pT 1]),(7,.fn (.func 49) [] [pT 1])] [[.str w1.s,iI w1.at_],[pT 0],zz1] ?_
 obtain⟨c6,q7,h⟩:=bs h
 refine cut 188 1 [(2,pT 2),(5,.str s2),(6,.fn (.func 48) [] [pT 1]),(7,.fn (.func 49) [] [pT 1]),(8,.int .u8 c6.toNat)] [[.str w1.s,iI w1.at_],[pT 0],zz1] (st (by simp[q7]))<|zAF<|zAP ?_
 obtain⟨b13,q14,h⟩:=bs h
 refine cut 188 1 [(2,pT 2),(5,.str s2),(6,.fn (.func 48) [] [pT 1]),(7,.fn (.func 49) [] [pT 1]),(8,.int .u8 c6.toNat),(33,.bool b13)] [[.str w1.s,iI w1.at_],[pT 0],zz1] ?_ ?_
 ·obtain⟨v8,q9,q14⟩:=bs q14
  rcases sp q14 with ⟨g10,q14⟩|⟨g10,q14⟩
  ·obtain rfl:=oi q14
   refine st ?_
   simp[g10]
   have r142:=zDU c6 v8 q9
   try simp[g10] at r142
   refine cP r142 ?_
   simp[g10]
  obtain⟨v11,q12,q14⟩:=bs q14
  obtain rfl:=oi q14
  refine st ?_
  simp[g10]
  have r143:=zDU c6 v8 q9
  try simp[g10] at r143
  refine cP r143 ?_
  simp[g10]
  have r144:=zEd c6 v11 q12
  try simp[g10] at r144
  refine cP r144 ?_
  simp[g10]
 refine spc h rfl (fun g15 h=>?_) fun g15 h=>?_
 ·obtain⟨v16,q17,h⟩:=bs h
  refine cut 188 1 [(2,pT 2),(5,.str s2),(6,.fn (.func 48) [] [pT 1]),(7,.fn (.func 49) [] [pT 1]),(8,.int .u8 c6.toNat),(9,iI v16)] [[.str w1.s,iI w1.at_],[pT 0],zz1] ?_ ?_
  ·refine st ?_
   simp
   have r45:=zFD fuel s2 v16 q17
   try simp at r45
   refine cP r45 ?_
   simp
  obtain⟨s18,q19,h⟩:=bs h
  obtain⟨q20,q21⟩:=zEL q19
  try simp at q20
  try simp at q21
  refine cut 188 1 [(2,pT 2),(6,.fn (.func 48) [] [pT 1]),(7,.fn (.func 49) [] [pT 1]),(8,.int .u8 c6.toNat),(9,iI v16),(10,.str s18)] [[.str w1.s,iI w1.at_],[pT 0],zz1] (st (by simp[q20,q21]))<|zAF<|zAP ?_
  obtain⟨v22,q23,h⟩:=bs h
  refine cut 188 1 [(2,pT 2),(6,.fn (.func 48) [] [pT 1]),(7,.fn (.func 49) [] [pT 1]),(8,.int .u8 c6.toNat),(9,iI v16),(10,.str s18),(45,.bool v22)] [[.str w1.s,iI w1.at_],[pT 0],zz1] ?_ ?_
  ·refine st ?_
   simp
   have r44:=zIz s18 v22 q23
   try simp at r44
   refine cP r44 ?_
   simp
  refine spc h rfl (fun g24 h=>?_) fun g24 h=>?_
  ·obtain⟨v25,q26,h⟩:=bs h
   refine cut 188 1 [(2,pT 2),(3,iI v25.2.1),(4,iI v25.2.2.1)] [[.str v25.2.2.2.s,iI v25.2.2.2.at_],[pT 0],(zKp.c v25.1)] ?_ ?_
   ·refine st ?_
    simp
    have r27:=(zBr 6 v16 s18 w1 v25 q26).frame [1,0] [[.str w1.s,iI w1.at_],[pT 0],zz1] (by simp)
    try simp at r27
    refine zAK r27 (by simp) rfl ?_
    simp
   refine zAA<|zAD<|zAB<|zAD<|zAB ?_
   cases h
   simp
  refine cutA 188 1 [(2,pT 2),(6,.fn (.func 48) [] [pT 1]),(7,.fn (.func 49) [] [pT 1]),(8,.int .u8 c6.toNat),(9,iI v16),(10,.str s18),(55,.bool (ltI 24 v16))] [[.str w1.s,iI w1.at_],[pT 0],zz1]<|spc h rfl (fun g28 h=>?_) fun g28 h=>?_
  ·have c29:=ltT g28
   obtain⟨v30,q31,h⟩:=bs h
   refine cut 188 1 [(2,pT 2),(3,iI v30.2.1),(4,iI v30.2.2)] [[.str w1.s,iI w1.at_],[pT 0],(zKp.c v30.1)] ?_ ?_
   ·refine st ?_
    simp
    have r32:=(zCH 0 5 w1 v30 q31).frame [1,0] [[.str w1.s,iI w1.at_],[pT 0],zz1] (by simp)
    try simp at r32
    refine zAK r32 (by simp) rfl ?_
    simp
   refine zAA<|zAD<|zAB<|zAD<|zAB ?_
   cases h
   simp
  have c33:=ltF g28
  obtain⟨v34,q35,h⟩:=bs h
  refine cut 188 1 [(2,pT 2),(6,.fn (.func 48) [] [pT 1]),(9,iI v16),(10,.str s18),(63,.bool v34)] [[.str w1.s,iI w1.at_],[pT 0],zz1] ?_ ?_
  ·refine st ?_
   simp
   have r43:=zDU c6 v34 q35
   try simp at r43
   refine cP r43 ?_
   simp
  refine spc h rfl (fun g36 h=>?_) fun g36 h=>?_
  ·obtain⟨v37,q38,h⟩:=bs h
   refine cut 188 1 [(2,pT 2),(3,iI v37.2.1),(4,iI v37.2.2.1)] [[.str v37.2.2.2.s,iI v37.2.2.2.at_],[pT 0],(zKp.c v37.1)] ?_ ?_
   ·refine st ?_
    simp
    have r39:=(zBr 1 v16 s18 w1 v37 q38).frame [1,0] [[.str w1.s,iI w1.at_],[pT 0],zz1] (by simp)
    try simp at r39
    refine zAK r39 (by simp) rfl ?_
    simp
   refine zAA<|zAD<|zAB<|zAD<|zAB ?_
   cases h
   simp
  refine zAC<|zDb<|zAN ?_
  obtain⟨v40,q41,h⟩:=bs h
  refine cut 188 1 [(2,pT 2),(3,iI v40.2.1),(4,iI v40.2.2.1)] [[.str v40.2.2.2.s,iI v40.2.2.2.at_],[pT 0],(zKp.c v40.1)] ?_ ?_
  ·refine st ?_
   simp
   have r42:=(zBr 2 v16 s18 w1 v40 q41).frame [1,0] [[.str w1.s,iI w1.at_],[pT 0],zz1] (by simp)
   try simp at r42
   refine zAK r42 (by simp) rfl ?_
   simp
  refine zAA<|zAD<|zAB ?_
  cases h
  simp
 refine cutA 188 1 [(2,pT 2),(5,.str s2),(6,.fn (.func 48) [] [pT 1]),(7,.fn (.func 49) [] [pT 1]),(8,.int .u8 c6.toNat),(80,.bool (eqI c6.toNat 39))] [[.str w1.s,iI w1.at_],[pT 0],zz1]<|spc h rfl (fun g46 h=>?_) fun g46 h=>?_
 ·have c47:=eqT g46
  refine zAF ?_
  obtain⟨b57,q58,h⟩:=bs h
  refine cut 188 1 [(2,pT 2),(5,.str s2),(6,.fn (.func 48) [] [pT 1]),(7,.fn (.func 49) [] [pT 1]),(91,.bool b57)] [[.str w1.s,iI w1.at_],[pT 0],zz1] ?_ ?_
  ·rcases sp q58 with ⟨g48,q58⟩|⟨g48,q58⟩
   ·have c49:=ltT g48
    refine zGl 5 rfl fun f50=>?_
    obtain rfl:=oi q58
    refine st ?_
    simp[g48]
   have c51:=ltF g48
   refine zGl 5 rfl fun f52=>?_
   obtain⟨c53,q54,q58⟩:=bs q58
   obtain⟨v55,q56,q58⟩:=bs q58
   obtain rfl:=oi q58
   refine st ?_
   simp[g48,q54]
   have r88:=zDU c53 v55 q56
   try simp[g48,q54] at r88
   refine cP r88 ?_
   simp[g48,q54]
  refine spc h rfl (fun g59 h=>?_) fun g59 h=>?_
  ·obtain⟨v60,q61,h⟩:=bs h
   refine cut 188 1 [(2,pT 2),(3,iI v60.2.1),(4,iI v60.2.2)] [[.str w1.s,iI w1.at_],[pT 0],(zKp.c v60.1)] ?_ ?_
   ·refine st ?_
    simp
    have r62:=(zCH 0 3 w1 v60 q61).frame [1,0] [[.str w1.s,iI w1.at_],[pT 0],zz1] (by simp)
    try simp at r62
    refine zAK r62 (by simp) rfl ?_
    simp
   refine zAA<|zAB<|zAD<|zAB ?_
   cases h
   simp
  refine zAC<|zAN ?_
  obtain⟨s63,q64,h⟩:=bs h
  obtain⟨q65,q66⟩:=zEL q64
  try simp at q65
  try simp at q66
  obtain⟨v67,q68,h⟩:=bs h
  obtain⟨n69,q70,h⟩:=bs h
  obtain⟨q71,q72⟩:=zEi q70
  try simp at q71
  try simp at q72
  have c73:=q71;simp only[Rng,inR] at c73
  refine cut 188 1 [(2,pT 2),(5,.str s2),(6,.fn (.func 48) [] [pT 1]),(7,.fn (.func 49) [] [pT 1]),(11,iI n69)] [[.str w1.s,iI w1.at_],[pT 0],zz1] ?_ ?_
  ·refine st ?_
   simp[q65,q66,q71,q72]
   have r87:=zFD fuel s63 v67 q68
   try simp[q65,q66,q71,q72] at r87
   refine cP r87 ?_
   simp[q65,q66,q71,q72]
  refine zAF<|cutA 188 1 [(2,pT 2),(5,.str s2),(6,.fn (.func 48) [] [pT 1]),(7,.fn (.func 49) [] [pT 1]),(11,iI n69),(102,.bool (ltI 24 n69))] [[.str w1.s,iI w1.at_],[pT 0],zz1]<|spc h rfl (fun g74 h=>?_) fun g74 h=>?_
  ·have c75:=ltT g74
   obtain⟨v76,q77,h⟩:=bs h
   refine cut 188 1 [(2,pT 2),(3,iI v76.2.1),(4,iI v76.2.2)] [[.str w1.s,iI w1.at_],[pT 0],(zKp.c v76.1)] ?_ ?_
   ·refine st ?_
    simp
    have r78:=(zCH 0 5 w1 v76 q77).frame [1,0] [[.str w1.s,iI w1.at_],[pT 0],zz1] (by simp)
    try simp at r78
    refine zAK r78 (by simp) rfl ?_
    simp
   refine zAA<|zAB<|zAD<|zAB ?_
   cases h
   simp
  have c79:=ltF g74
  refine zAC<|zAN ?_
  obtain⟨s80,q81,h⟩:=bs h
  obtain⟨q82,q83⟩:=zEL q81
  try simp at q82
  try simp at q83
  obtain⟨v84,q85,h⟩:=bs h
  refine cut 188 1 [(2,pT 2),(3,iI v84.2.1),(4,iI v84.2.2.1)] [[.str v84.2.2.2.s,iI v84.2.2.2.at_],[pT 0],(zKp.c v84.1)] ?_ ?_
  ·refine st ?_
   simp[q82,q83]
   have r86:=(zBr 3 n69 s80 w1 v84 q85).frame [1,0] [[.str w1.s,iI w1.at_],[pT 0],zz1] (by simp)
   try simp[q82,q83] at r86
   refine zAK r86 (by simp[q82,q83]) rfl ?_
   simp[q82,q83]
  refine zAA<|zAD<|zAB ?_
  cases h
  simp
 have c89:=eqF g46
 obtain⟨v90,q91,h⟩:=bs h
 refine cut 188 1 [(2,pT 2),(5,.str s2),(6,.fn (.func 48) [] [pT 1]),(7,.fn (.func 49) [] [pT 1]),(8,.int .u8 c6.toNat),(117,.bool v90)] [[.str w1.s,iI w1.at_],[pT 0],zz1] ?_ ?_
 ·refine st ?_
  simp
  have r141:=zFF c6 v90 q91
  try simp at r141
  refine cP r141 ?_
  simp
 refine spc h rfl (fun g92 h=>?_) fun g92 h=>?_
 ·obtain⟨v93,q94,h⟩:=bs h
  refine cut 188 1 [(2,pT 2),(5,.str s2),(6,.fn (.func 48) [] [pT 1]),(7,.fn (.func 49) [] [pT 1]),(12,iI v93)] [[.str w1.s,iI w1.at_],[pT 0],zz1] ?_ ?_
  ·refine st ?_
   simp
   have r113:=zGi fuel s2 v93 q94
   try simp at r113
   refine cP r113 ?_
   simp
  refine zAF ?_
  obtain⟨s95,q96,h⟩:=bs h
  obtain⟨q97,q98⟩:=zEL q96
  try simp at q97
  try simp at q98
  obtain⟨v99,q100,h⟩:=bs h
  refine cut 188 1 [(2,pT 2),(5,.str s2),(6,.fn (.func 48) [] [pT 1]),(7,.fn (.func 49) [] [pT 1]),(12,iI v93),(13,iI v99)] [[.str w1.s,iI w1.at_],[pT 0],zz1] ?_ ?_
  ·refine st ?_
   simp[q97,q98]
   have r112:=zJN fuel s95 v99 q100
   try simp[q97,q98] at r112
   refine cP r112 ?_
   simp[q97,q98]
  refine cutA 188 1 [(2,pT 2),(5,.str s2),(6,.fn (.func 48) [] [pT 1]),(7,.fn (.func 49) [] [pT 1]),(12,iI v93),(13,iI v99),(127,.bool (!(eqI v99 0)))] [[.str w1.s,iI w1.at_],[pT 0],zz1] ?_
  rcases sp h with ⟨g101,h⟩|⟨g101,h⟩
  ·have g102:=notT g101
   have c103:=eqF g102
   refine zBn rfl g101 ?_
   obtain⟨v104,q105,h⟩:=bs h
   refine cut 188 1 [(2,pT 2),(3,iI v104.2.1),(4,iI v104.2.2)] [[.str w1.s,iI w1.at_],[pT 0],(zKp.c v104.1)] ?_ ?_
   ·refine st ?_
    simp
    have r106:=(zCH 0 v99 w1 v104 q105).frame [1,0] [[.str w1.s,iI w1.at_],[pT 0],zz1] (by simp)
    try simp at r106
    refine zAK r106 (by simp) rfl ?_
    simp
   refine zAA<|zAB<|zAD<|zAB ?_
   cases h
   simp
  have g107:=notF g101
  have c108:=eqT g107
  refine condF rfl g101<|zAC<|zAN ?_
  obtain⟨v109,q110,h⟩:=bs h
  refine cut 188 1 [(2,pT 2),(3,iI v109.2.1),(4,iI v109.2.2.1)] [[.str v109.2.2.2.s,iI v109.2.2.2.at_],[pT 0],(zKp.c v109.1)] ?_ ?_
  ·refine st ?_
   simp[q97,q98]
   have r111:=(zBr 4 v93 s95 w1 v109 q110).frame [1,0] [[.str w1.s,iI w1.at_],[pT 0],zz1] (by simp)
   try simp[q97,q98] at r111
   refine zAK r111 (by simp[q97,q98]) rfl ?_
   simp[q97,q98]
  refine zAA<|zAD<|zAB ?_
  cases h
  simp
 refine cutA 188 1 [(2,pT 2),(5,.str s2),(6,.fn (.func 48) [] [pT 1]),(7,.fn (.func 49) [] [pT 1]),(143,.bool (eqI c6.toNat 34))] [[.str w1.s,iI w1.at_],[pT 0],zz1]<|spc h rfl (fun g114 h=>?_) fun g114 h=>?_
 ·have c115:=eqT g114
  obtain⟨v116,q117,h⟩:=bs h
  refine cut 188 1 [(2,pT 2),(6,.fn (.func 48) [] [pT 1]),(7,.fn (.func 49) [] [pT 1]),(14,.str v116.1),(15,iI v116.2.1),(16,iI v116.2.2.1),(17,iI v116.2.2.2)] [[.str w1.s,iI w1.at_],[pT 0],zz1] ?_ ?_
  ·refine st ?_
   simp
   have r129:=zIy fuel s2 v116 q117
   try simp at r129
   refine cP r129 ?_
   simp
  refine zAF<|cutA 188 1 [(2,pT 2),(6,.fn (.func 48) [] [pT 1]),(7,.fn (.func 49) [] [pT 1]),(14,.str v116.1),(15,iI v116.2.1),(16,iI v116.2.2.1),(17,iI v116.2.2.2),(154,.bool (!(eqI v116.2.2.2 0)))] [[.str w1.s,iI w1.at_],[pT 0],zz1] ?_
  rcases sp h with ⟨g118,h⟩|⟨g118,h⟩
  ·have g119:=notT g118
   have c120:=eqF g119
   refine zBn rfl g118 ?_
   obtain⟨v121,q122,h⟩:=bs h
   refine cut 188 1 [(2,pT 2),(3,iI v121.2.1),(4,iI v121.2.2)] [[.str w1.s,iI w1.at_],[pT 0],(zKp.c v121.1)] ?_ ?_
   ·refine st ?_
    simp
    have r123:=(zCH v116.2.2.1 v116.2.2.2 w1 v121 q122).frame [1,0] [[.str w1.s,iI w1.at_],[pT 0],zz1] (by simp)
    try simp at r123
    refine zAK r123 (by simp) rfl ?_
    simp
   refine zAA<|zAB<|zAD<|zAB ?_
   cases h
   simp
  have g124:=notF g118
  have c125:=eqT g124
  refine condF rfl g118<|zAC<|zAN ?_
  obtain⟨v126,q127,h⟩:=bs h
  refine cut 188 1 [(2,pT 2),(3,iI v126.2.1),(4,iI v126.2.2.1)] [[.str v126.2.2.2.s,iI v126.2.2.2.at_],[pT 0],(zKp.c v126.1)] ?_ ?_
  ·refine st ?_
   simp
   have r128:=(zBr 5 v116.2.1 v116.1 w1 v126 q127).frame [1,0] [[.str w1.s,iI w1.at_],[pT 0],zz1] (by simp)
   try simp at r128
   refine zAK r128 (by simp) rfl ?_
   simp
  refine zAA<|zAD<|zAB ?_
  cases h
  simp
 have c130:=eqF g114
 refine zAC<|zDb<|zAN<|zAF ?_
 obtain⟨v131,q132,h⟩:=bs h
 refine cut 188 1 [(2,pT 2),(6,.fn (.func 48) [] [pT 1]),(7,.fn (.func 49) [] [pT 1]),(18,.str v131.1),(19,.bool v131.2)] [[.str w1.s,iI w1.at_],[pT 0],zz1] ?_ ?_
 ·refine st ?_
  simp
  have r140:=zJP fuel s2 v131 q132
  try simp at r140
  refine cP r140 ?_
  simp
 refine cutA 188 1 [(2,pT 2),(6,.fn (.func 48) [] [pT 1]),(7,.fn (.func 49) [] [pT 1]),(18,.str v131.1),(174,.bool v131.2)] [[.str w1.s,iI w1.at_],[pT 0],zz1]<|spc h rfl (fun g133 h=>?_) fun g133 h=>?_
 ·obtain⟨v134,q135,h⟩:=bs h
  refine cut 188 1 [(2,pT 2),(3,iI v134.2.1),(4,iI v134.2.2.1)] [[.str v134.2.2.2.s,iI v134.2.2.2.at_],[pT 0],(zKp.c v134.1)] ?_ ?_
  ·refine st ?_
   simp
   have r136:=(zBr 7 (v131.1.length:Int) v131.1 w1 v134 q135).frame [1,0] [[.str w1.s,iI w1.at_],[pT 0],zz1] (by simp)
   try simp at r136
   refine zAK r136 (by simp) rfl ?_
   simp
  refine zAA<|zAB ?_
  cases h
  simp
 refine zAC<|zAN ?_
 obtain⟨v137,q138,h⟩:=bs h
 refine cut 188 1 [(2,pT 2),(3,iI v137.2.1),(4,iI v137.2.2)] [[.str w1.s,iI w1.at_],[pT 0],(zKp.c v137.1)] ?_ ?_
 ·refine st ?_
  simp
  have r139:=(zCH 0 3 w1 v137 q138).frame [1,0] [[.str w1.s,iI w1.at_],[pT 0],zz1] (by simp)
  try simp at r139
  refine zAK r139 (by simp) rfl ?_
  simp
 refine zAA ?_
 cases h
 simp
theorem zJO(fuel:Nat)(s1:(List UInt8))(r:(List zKp)×zKq×Int)(h:zDV fuel s1=some r):Pure Tryz.prog 16 [.str s1] (.tup [.sl (r.1.map zKp.c),.agg [iI r.2.1.Line,iI r.2.1.Column],iI r.2.2]):=by
 rw[zDV] at h
 refine zAQ Tryz.func16 (by rfl) (by rfl) (by simp) (by simp) (by simp)<|cutA 71 0 [(0,.str s1),(3,pT 0)] [zz2]<|zAF<|cutA 71 0 [(0,.str s1),(3,pT 0),(14,.bool (ltI 16384 s1.length))] [zz2]<|spc h rfl (fun g2 h=>?_) fun g2 h=>?_
 ·have c3:=ltT g2
  refine zGl 0 rfl fun f4=>?_
  refine cutA 71 0 [(2,.osl ⟨4,47⟩ (([]:List zKp).map zKp.c)),(3,pT 0),(4,iI 5)] [zz2]<|zAA<|zAB ?_
  cases h
  simp
 have c5:=ltF g2
 refine zGl 0 rfl fun f6=>?_
 refine zAC<|zAN<|cutA 71 0 [(0,.str s1),(3,pT 0),(5,pT 1)] [zz2,[.str s1,iI 0]]<|cutA 71 0 [(0,.str s1),(3,pT 0),(5,pT 1),(6,.osl ⟨4,47⟩ (([]:List zKp).map zKp.c))] [zz2,[.str s1,iI 0]]<|zAP<|zCd (fun p:Nat×(List UInt8)×Int×(List zKp)=>mkS 71 0 [(0,.str s1),(3,pT 0),(5,pT 1),(6,.osl ⟨4,47⟩ (p.2.2.2.map zKp.c))] [zz2,[.str p.2.1,iI p.2.2.1]]) (fun p=>zC2 fuel s1 p.1 p.2.1 p.2.2.1 p.2.2.2=some r) (fun p=>p.1) (fuel,s1,0,([]:List zKp)) h (zBe (by simp)) ?_
 rintro⟨k11,s7,at8,out9⟩ h
 try dsimp only at h ⊢
 cases k11 with
 |zero=>
  rw[zC2] at h;cases h
 |succ k12=>
  rw[zC2] at h
  refine zAP<|zAF ?_
  obtain⟨v13,q14,h⟩:=bs h
  refine cut 71 0 [(0,.str s1),(3,pT 0),(5,pT 1),(6,.osl ⟨4,47⟩ (out9.map zKp.c)),(7,iI v13.1)] [zz2,[.str v13.2.s,iI v13.2.at_]] ?_ ?_
  ·refine st ?_
   simp
   have r55:=(zGh fuel (zKn.mk s7 at8) v13 q14).frame [1] [zz2,[.str s7,iI at8]] (by simp)
   try simp at r55
   refine zAK r55 (by simp) rfl ?_
   simp
  refine cutA 71 0 [(0,.str s1),(3,pT 0),(5,pT 1),(6,.osl ⟨4,47⟩ (out9.map zKp.c)),(7,iI v13.1),(22,.bool (leI 0 v13.1))] [zz2,[.str v13.2.s,iI v13.2.at_]]<|spc h rfl (fun g15 h=>?_) fun g15 h=>?_
  ·have c16:=leT g15
   obtain⟨v17,q18,h⟩:=bs h
   refine cut 71 0 [(2,.osl ⟨4,47⟩ (([]:List zKp).map zKp.c)),(3,pT 0),(4,iI 4)] [[iI v17.Line,iI v17.Column],[.str v13.2.s,iI v13.2.at_]] ?_ ?_
   ·refine st ?_
    simp
    have r19:=zEc fuel s1 v13.1 v17 q18
    try simp at r19
    refine cP r19 ?_
    simp
   refine zAA<|zAB<|zAD<|zAB<|zAD ?_
   cases h
   simp
  have c20:=leF g15
  refine zAC<|zAN<|cutA 71 0 [(0,.str s1),(3,pT 0),(5,pT 1),(6,.osl ⟨4,47⟩ (out9.map zKp.c)),(8,iI v13.2.at_)] [zz2,[.str v13.2.s,iI v13.2.at_]]<|zAF<|zAP<|cutA 71 0 [(0,.str s1),(3,pT 0),(5,pT 1),(6,.osl ⟨4,47⟩ (out9.map zKp.c)),(8,iI v13.2.at_),(30,.bool (leI s1.length v13.2.at_))] [zz2,[.str v13.2.s,iI v13.2.at_]]<|spc h rfl (fun g21 h=>?_) fun g21 h=>?_
  ·have c22:=leT g21
   obtain⟨v23,q24,h⟩:=bs h
   obtain⟨l25,q26,h⟩:=bs h
   obtain⟨q27,q28⟩:=zF7 q26
   try simp at q27
   refine cut 71 0 [(2,.osl ⟨4,47⟩ (l25.map zKp.c)),(3,pT 0),(4,iI 0)] [zz2,[.str v13.2.s,iI v13.2.at_]] ?_ ?_
   ·refine st ?_
    simp[q27,q28]
    have r29:=zEc fuel s1 (s1.length:Int) v23 q24
    try simp[q27,q28] at r29
    refine cP r29 ?_
    simp[q27,q28]
   refine zAA<|zAD<|zAB<|zAD<|zAB<|zAD ?_
   cases h
   simp
  have c30:=leF g21
  refine cutA 71 0 [(0,.str s1),(3,pT 0),(5,pT 1),(6,.osl ⟨4,47⟩ (out9.map zKp.c)),(8,iI v13.2.at_),(44,.bool (eqI out9.length 20000))] [zz2,[.str v13.2.s,iI v13.2.at_]]<|spc h rfl (fun g31 h=>?_) fun g31 h=>?_
  ·have c32:=eqT g31
   obtain⟨v33,q34,h⟩:=bs h
   refine cut 71 0 [(2,.osl ⟨4,47⟩ (([]:List zKp).map zKp.c)),(3,pT 0),(4,iI 5)] [[iI v33.Line,iI v33.Column],[.str v13.2.s,iI v13.2.at_]] ?_ ?_
   ·refine st ?_
    simp
    have r35:=zEc fuel s1 v13.2.at_ v33 q34
    try simp at r35
    refine cP r35 ?_
    simp
   refine zAA<|zAD<|zAB<|zAD<|zAB<|zAD ?_
   cases h
   simp
  have c36:=eqF g31
  refine zAC<|zDb<|zAN ?_
  obtain⟨v37,q38,h⟩:=bs h
  refine cut 71 0 [(0,.str s1),(3,pT 0),(5,pT 1),(6,.osl ⟨4,47⟩ (out9.map zKp.c)),(8,iI v13.2.at_),(9,pT 2),(10,iI v37.2.1),(11,iI v37.2.2.1)] [zz2,[.str v37.2.2.2.s,iI v37.2.2.2.at_],(zKp.c v37.1)] ?_ ?_
  ·refine st ?_
   simp
   have r54:=(zGO fuel v13.2 v37 q38).frame [1] [zz2,[.str v13.2.s,iI v13.2.at_]] (by simp)
   try simp at r54
   refine zAK r54 (by simp) rfl ?_
   simp
  refine zAF<|cutA 71 0 [(0,.str s1),(3,pT 0),(5,pT 1),(6,.osl ⟨4,47⟩ (out9.map zKp.c)),(8,iI v13.2.at_),(9,pT 2),(10,iI v37.2.1),(11,iI v37.2.2.1),(58,.bool (!(eqI v37.2.2.1 0)))] [zz2,[.str v37.2.2.2.s,iI v37.2.2.2.at_],(zKp.c v37.1)] ?_
  rcases sp h with ⟨g39,h⟩|⟨g39,h⟩
  ·have g40:=notT g39
   have c41:=eqF g40
   refine zBn rfl g39 ?_
   obtain⟨v42,q43,h⟩:=bs h
   refine cut 71 0 [(2,.osl ⟨4,47⟩ (([]:List zKp).map zKp.c)),(3,pT 0),(4,iI v37.2.2.1)] [[iI v42.Line,iI v42.Column],[.str v37.2.2.2.s,iI v37.2.2.2.at_],(zKp.c v37.1)] ?_ ?_
   ·refine st ?_
    simp
    have r44:=zEc fuel s1 v37.2.1 v42 q43
    try simp at r44
    refine cP r44 ?_
    simp
   refine zAA<|zAB<|zAD<|zAB<|zAD ?_
   cases h
   simp
  have g45:=notF g39
  have c46:=eqT g45
  refine condF rfl g39<|zAC<|zAN ?_
  obtain⟨v47,q48,h⟩:=bs h
  refine cut 71 0 [(0,.str s1),(3,pT 0),(5,pT 1),(6,.osl ⟨4,47⟩ (out9.map zKp.c)),(9,pT 2)] [zz2,[.str v37.2.2.2.s,iI v37.2.2.2.at_],[iI v37.1.Kind,.str v37.1.Text,iI v47.Line,iI v47.Column]] ?_ ?_
  ·refine st ?_
   simp
   have r53:=zEc fuel s1 v13.2.at_ v47 q48
   try simp at r53
   refine cP r53 ?_
   simp
  obtain⟨l49,q50,h⟩:=bs h
  obtain⟨q51,q52⟩:=zF7 q50
  try simp at q51
  refine last 71 0 [(0,.str s1),(3,pT 0),(5,pT 1),(6,.osl ⟨4,47⟩ (l49.map zKp.c))] [zz2,[.str v37.2.2.2.s,iI v37.2.2.2.at_]] (st (by simp[q51,q52])) fun zz hs=>?_
  refine zDb ?_
  exact⟨(k12,v37.2.2.2.s,v37.2.2.2.at_,l49),hs,h,by simp⟩
theorem zAX(k1:Int)(w2:zKm)(r:Bool)(h:zAM k1 w2=some r):Raw Tryz.prog 43 [pT 0,iI k1] [[.sl (w2.l.map zKp.c),iI w2.at_]] (.bool r) [[.sl (w2.l.map zKp.c),iI w2.at_]]:=by
 rw[zAM] at h
 refine zA9 Tryz.func43 (by rfl) (by rfl) (by simp) (by simp)<|cutA 18 1 [(0,pT 0),(1,iI k1)] [[.sl (w2.l.map zKp.c),iI w2.at_]] ?_
 obtain⟨x3,q4,h⟩:=bs h
 obtain⟨q5,q6⟩:=zGj q4
 refine cut 18 1 [(4,.bool (eqI x3.Kind k1))] [[.sl (w2.l.map zKp.c),iI w2.at_]] ?_ ?_
 ·refine zAg [] mixed (n:=18) rfl (by decide) ?_
  simp[q5,q6]
 refine zAA ?_
 cases h
 simp
theorem zFX(w1:zKm)(r:Int)(h:zB0 w1=some r):Raw Tryz.prog 44 [pT 0] [[.sl (w1.l.map zKp.c),iI w1.at_]] (iI r) [[.sl (w1.l.map zKp.c),iI w1.at_]]:=by
 rw[zB0] at h
 refine zA9 Tryz.func44 (by rfl) (by rfl) (by simp) (by simp)<|cutA 5 1 [(0,pT 0)] [[.sl (w1.l.map zKp.c),iI w1.at_]]<|zAF ?_
 obtain⟨v2,q3,h⟩:=bs h
 refine cut 5 1 [(4,.bool v2)] [[.sl (w1.l.map zKp.c),iI w1.at_]] ?_ ?_
 ·refine st ?_
  simp
  have r5:=(zAX 8 w1 v2 q3).frame [0] [[.sl (w1.l.map zKp.c),iI w1.at_]] (by simp)
  try simp at r5
  refine zAK r5 (by simp) rfl ?_
  simp
 refine spc h rfl (fun g4 h=>?_) fun g4 h=>?_
 ·refine cutA 5 1 [(2,iI 4)] [[.sl (w1.l.map zKp.c),iI w1.at_]]<|zAA<|zAB ?_
  cases h
  simp
 refine zAC<|zAN<|cutA 5 1 [(2,iI 3)] [[.sl (w1.l.map zKp.c),iI w1.at_]]<|zAA ?_
 cases h
 simp
theorem zHf(op1:Int)(r:Int)(h:zDg op1=some r):Pure Tryz.prog 66 [iI op1] (iI r):=by
 rw[zDg] at h
 refine zAQ Tryz.func66 (by rfl) (by rfl) (by simp) (by simp) (by simp)<|cutA 61 0 [(0,iI op1)] []<|zAF<|cutA 61 0 [(3,iI op1)] []<|zAP<|zAF<|cutA 61 0 [(3,iI op1),(4,.bool (eqI op1 1))] [] ?_
 refine spc h rfl (fun g2 h=>?_) fun g2 h=>?_
 ·refine zAC<|zAN<|zBn rfl (by simp[g2])<|cutA 61 0 [(2,iI 1)] []<|zAA<|zAD<|zAB ?_
  cases h
  simp
 refine cutA 61 0 [(3,iI op1),(4,.bool (eqI op1 2))] []<|spc h rfl (fun g5 h=>?_) fun g5 h=>?_
 ·refine zAC<|zAN<|zBn rfl (by simp[g5])<|cutA 61 0 [(2,iI 1)] []<|zAA<|zAD<|zAB ?_
  cases h
  simp
 refine cutA 61 0 [(3,iI op1),(4,.bool (eqI op1 3))] []<|spc h rfl (fun g8 h=>?_) fun g8 h=>?_
 ·refine zAC<|zAN<|zBn rfl (by simp[g8])<|cutA 61 0 [(2,iI 1)] []<|zAA<|zAD<|zAB ?_
  cases h
  simp
 refine cutA 61 0 [(3,iI op1),(4,.bool (eqI op1 4))] []<|spc h rfl (fun g11 h=>?_) fun g11 h=>?_
 ·refine zAC<|zAN<|zBn rfl (by simp[g11])<|cutA 61 0 [(2,iI 1)] []<|zAA<|zAD<|zAB ?_
  cases h
  simp
 refine zHZ 61 0 [(3,iI op1),(4,.bool (eqI op1 5))] []<|spc h rfl (fun g14 h=>?_) fun g14 h=>?_
 ·have c15:=eqT g14
  refine cutA 61 0 [(2,iI 1)] []<|zAA<|zAD<|zAB ?_
  cases h
  simp
 have c16:=eqF g14
 refine zAF<|cutA 61 0 [(3,iI op1),(10,.bool (eqI op1 11))] []<|spc h rfl (fun g17 h=>?_) fun g17 h=>?_
 ·refine zAC<|zAN<|zBn rfl (by simp[g17])<|cutA 61 0 [(2,iI 2)] []<|zAA<|zAD<|zAB ?_
  cases h
  simp
 refine cutA 61 0 [(3,iI op1),(10,.bool (eqI op1 12))] []<|spc h rfl (fun g20 h=>?_) fun g20 h=>?_
 ·refine zAC<|zAN<|zBn rfl (by simp[g20])<|cutA 61 0 [(2,iI 2)] []<|zAA<|zAD<|zAB ?_
  cases h
  simp
 refine cutA 61 0 [(3,iI op1),(10,.bool (eqI op1 13))] []<|spc h rfl (fun g23 h=>?_) fun g23 h=>?_
 ·refine zAC<|zAN<|zBn rfl (by simp[g23])<|cutA 61 0 [(2,iI 2)] []<|zAA<|zAD<|zAB ?_
  cases h
  simp
 refine cutA 61 0 [(3,iI op1),(10,.bool (eqI op1 14))] []<|spc h rfl (fun g26 h=>?_) fun g26 h=>?_
 ·refine zAC<|zAN<|zBn rfl (by simp[g26])<|cutA 61 0 [(2,iI 2)] []<|zAA<|zAD<|zAB ?_
  cases h
  simp
 refine zHZ 61 0 [(3,iI op1),(10,.bool (eqI op1 15))] []<|spc h rfl (fun g29 h=>?_) fun g29 h=>?_
 ·have c30:=eqT g29
  refine cutA 61 0 [(2,iI 2)] []<|zAA<|zAD<|zAB ?_
  cases h
  simp
 have c31:=eqF g29
 refine zAF<|cutA 61 0 [(3,iI op1),(16,.bool (eqI op1 21))] []<|spc h rfl (fun g32 h=>?_) fun g32 h=>?_
 ·refine zAC<|zAN<|zBn rfl (by simp[g32])<|cutA 61 0 [(2,iI 3)] []<|zAA<|zAD<|zAB ?_
  cases h
  simp
 refine cutA 61 0 [(3,iI op1),(16,.bool (eqI op1 22))] []<|spc h rfl (fun g35 h=>?_) fun g35 h=>?_
 ·refine zAC<|zAN<|zBn rfl (by simp[g35])<|cutA 61 0 [(2,iI 3)] []<|zAA<|zAD<|zAB ?_
  cases h
  simp
 refine cutA 61 0 [(3,iI op1),(16,.bool (eqI op1 23))] []<|spc h rfl (fun g38 h=>?_) fun g38 h=>?_
 ·refine zAC<|zAN<|zBn rfl (by simp[g38])<|cutA 61 0 [(2,iI 3)] []<|zAA<|zAD<|zAB ?_
  cases h
  simp
 refine cutA 61 0 [(3,iI op1),(16,.bool (eqI op1 24))] []<|spc h rfl (fun g41 h=>?_) fun g41 h=>?_
 ·refine zAC<|zAN<|zBn rfl (by simp[g41])<|cutA 61 0 [(2,iI 3)] []<|zAA<|zAD<|zAB ?_
  cases h
  simp
 refine cutA 61 0 [(3,iI op1),(16,.bool (eqI op1 25))] []<|spc h rfl (fun g44 h=>?_) fun g44 h=>?_
 ·refine zAC<|zAN<|zBn rfl (by simp[g44])<|cutA 61 0 [(2,iI 3)] []<|zAA<|zAD<|zAB ?_
  cases h
  simp
 refine cutA 61 0 [(3,iI op1),(16,.bool (eqI op1 26))] []<|spc h rfl (fun g47 h=>?_) fun g47 h=>?_
 ·refine zAC<|zAN<|zBn rfl (by simp[g47])<|cutA 61 0 [(2,iI 3)] []<|zAA<|zAD<|zAB ?_
  cases h
  simp
 refine cutA 61 0 [(3,iI op1),(16,.bool (eqI op1 27))] []<|spc h rfl (fun g50 h=>?_) fun g50 h=>?_
 ·refine zAC<|zAN<|zBn rfl (by simp[g50])<|cutA 61 0 [(2,iI 3)] []<|zAA<|zAD<|zAB ?_
  cases h
  simp
 refine cutA 61 0 [(3,iI op1),(16,.bool (eqI op1 28))] []<|spc h rfl (fun g53 h=>?_) fun g53 h=>?_
 ·refine zAC<|zAN<|zBn rfl (by simp[g53])<|cutA 61 0 [(2,iI 3)] []<|zAA<|zAD<|zAB ?_
  cases h
  simp
 refine cutA 61 0 [(3,iI op1),(16,.bool (eqI op1 29))] []<|spc h rfl (fun g56 h=>?_) fun g56 h=>?_
 ·refine zAC<|zAN<|zBn rfl (by simp[g56])<|cutA 61 0 [(2,iI 3)] []<|zAA<|zAD<|zAB ?_
  cases h
  simp
 refine cutA 61 0 [(3,iI op1),(16,.bool (eqI op1 31))] []<|spc h rfl (fun g59 h=>?_) fun g59 h=>?_
 ·refine zAC<|zAN<|zBn rfl (by simp[g59])<|cutA 61 0 [(2,iI 3)] []<|zAA<|zAD<|zAB ?_
  cases h
  simp
 refine cutA 61 0 [(3,iI op1),(16,.bool (eqI op1 32))] []<|spc h rfl (fun g62 h=>?_) fun g62 h=>?_
 ·refine zAC<|zAN<|zBn rfl (by simp[g62])<|cutA 61 0 [(2,iI 3)] []<|zAA<|zAD<|zAB ?_
  cases h
  simp
 refine cutA 61 0 [(3,iI op1),(16,.bool (eqI op1 33))] []<|spc h rfl (fun g65 h=>?_) fun g65 h=>?_
 ·refine zAC<|zAN<|zBn rfl (by simp[g65])<|cutA 61 0 [(2,iI 3)] []<|zAA<|zAD<|zAB ?_
  cases h
  simp
 refine zHZ 61 0 [(3,iI op1),(16,.bool (eqI op1 34))] []<|spc h rfl (fun g68 h=>?_) fun g68 h=>?_
 ·have c69:=eqT g68
  refine cutA 61 0 [(2,iI 3)] []<|zAA<|zAD<|zAB ?_
  cases h
  simp
 have c70:=eqF g68
 refine zAF<|cutA 61 0 [(3,iI op1),(30,.bool (eqI op1 41))] []<|spc h rfl (fun g71 h=>?_) fun g71 h=>?_
 ·refine zAC<|zAN<|zBn rfl (by simp[g71])<|cutA 61 0 [(2,iI 4)] []<|zAA<|zAD<|zAB ?_
  cases h
  simp
 refine cutA 61 0 [(3,iI op1),(30,.bool (eqI op1 42))] []<|spc h rfl (fun g74 h=>?_) fun g74 h=>?_
 ·refine zAC<|zAN<|zBn rfl (by simp[g74])<|cutA 61 0 [(2,iI 4)] []<|zAA<|zAD<|zAB ?_
  cases h
  simp
 refine cutA 61 0 [(3,iI op1),(30,.bool (eqI op1 43))] []<|spc h rfl (fun g77 h=>?_) fun g77 h=>?_
 ·refine zAC<|zAN<|zBn rfl (by simp[g77])<|cutA 61 0 [(2,iI 4)] []<|zAA<|zAD<|zAB ?_
  cases h
  simp
 refine cutA 61 0 [(3,iI op1),(30,.bool (eqI op1 44))] []<|spc h rfl (fun g80 h=>?_) fun g80 h=>?_
 ·refine zAC<|zAN<|zBn rfl (by simp[g80])<|cutA 61 0 [(2,iI 4)] []<|zAA<|zAD<|zAB ?_
  cases h
  simp
 refine cutA 61 0 [(3,iI op1),(30,.bool (eqI op1 46))] []<|spc h rfl (fun g83 h=>?_) fun g83 h=>?_
 ·refine zAC<|zAN<|zBn rfl (by simp[g83])<|cutA 61 0 [(2,iI 4)] []<|zAA<|zAD<|zAB ?_
  cases h
  simp
 refine cutA 61 0 [(3,iI op1),(30,.bool (eqI op1 47))] []<|spc h rfl (fun g86 h=>?_) fun g86 h=>?_
 ·refine zAC<|zAN<|zBn rfl (by simp[g86])<|cutA 61 0 [(2,iI 4)] []<|zAA<|zAD<|zAB ?_
  cases h
  simp
 refine cutA 61 0 [(3,iI op1),(30,.bool (eqI op1 48))] []<|spc h rfl (fun g89 h=>?_) fun g89 h=>?_
 ·refine zAC<|zAN<|zBn rfl (by simp[g89])<|cutA 61 0 [(2,iI 4)] []<|zAA<|zAD<|zAB ?_
  cases h
  simp
 refine cutA 61 0 [(3,iI op1),(30,.bool (eqI op1 49))] []<|spc h rfl (fun g92 h=>?_) fun g92 h=>?_
 ·refine zAC<|zAN<|zBn rfl (by simp[g92])<|cutA 61 0 [(2,iI 4)] []<|zAA<|zAD<|zAB ?_
  cases h
  simp
 refine zHZ 61 0 [(3,iI op1),(30,.bool (eqI op1 50))] []<|spc h rfl (fun g95 h=>?_) fun g95 h=>?_
 ·have c96:=eqT g95
  refine cutA 61 0 [(2,iI 4)] []<|zAA<|zAD<|zAB ?_
  cases h
  simp
 have c97:=eqF g95
 refine zAF<|cutA 61 0 [(3,iI op1),(40,.bool (eqI op1 61))] []<|spc h rfl (fun g98 h=>?_) fun g98 h=>?_
 ·refine zAC<|zAN<|zBn rfl (by simp[g98])<|cutA 61 0 [(2,iI 5)] []<|zAA<|zAD<|zAB ?_
  cases h
  simp
 refine cutA 61 0 [(3,iI op1),(40,.bool (eqI op1 62))] []<|spc h rfl (fun g101 h=>?_) fun g101 h=>?_
 ·refine zAC<|zAN<|zBn rfl (by simp[g101])<|cutA 61 0 [(2,iI 5)] []<|zAA<|zAD<|zAB ?_
  cases h
  simp
 refine cutA 61 0 [(3,iI op1),(40,.bool (eqI op1 63))] []<|spc h rfl (fun g104 h=>?_) fun g104 h=>?_
 ·refine zAC<|zAN<|zBn rfl (by simp[g104])<|cutA 61 0 [(2,iI 5)] []<|zAA<|zAD<|zAB ?_
  cases h
  simp
 refine cutA 61 0 [(3,iI op1),(40,.bool (eqI op1 64))] []<|spc h rfl (fun g107 h=>?_) fun g107 h=>?_
 ·refine zAC<|zAN<|zBn rfl (by simp[g107])<|cutA 61 0 [(2,iI 5)] []<|zAA<|zAD<|zAB ?_
  cases h
  simp
 refine cutA 61 0 [(3,iI op1),(40,.bool (eqI op1 65))] []<|spc h rfl (fun g110 h=>?_) fun g110 h=>?_
 ·refine zAC<|zAN<|zBn rfl (by simp[g110])<|cutA 61 0 [(2,iI 5)] []<|zAA<|zAD<|zAB ?_
  cases h
  simp
 refine zHZ 61 0 [(3,iI op1),(40,.bool (eqI op1 66))] []<|spc h rfl (fun g113 h=>?_) fun g113 h=>?_
 ·have c114:=eqT g113
  refine cutA 61 0 [(2,iI 5)] []<|zAA<|zAD<|zAB ?_
  cases h
  simp
 have c115:=eqF g113
 refine zAF<|cutA 61 0 [(3,iI op1),(47,.bool (eqI op1 71))] []<|spc h rfl (fun g116 h=>?_) fun g116 h=>?_
 ·refine zAC<|zAN<|zBn rfl (by simp[g116])<|cutA 61 0 [(2,iI 6)] []<|zAA<|zAD<|zAB ?_
  cases h
  simp
 refine cutA 61 0 [(3,iI op1),(47,.bool (eqI op1 72))] []<|spc h rfl (fun g119 h=>?_) fun g119 h=>?_
 ·refine zAC<|zAN<|zBn rfl (by simp[g119])<|cutA 61 0 [(2,iI 6)] []<|zAA<|zAD<|zAB ?_
  cases h
  simp
 refine cutA 61 0 [(3,iI op1),(47,.bool (eqI op1 73))] []<|spc h rfl (fun g122 h=>?_) fun g122 h=>?_
 ·refine zAC<|zAN<|zBn rfl (by simp[g122])<|cutA 61 0 [(2,iI 6)] []<|zAA<|zAD<|zAB ?_
  cases h
  simp
 refine zHZ 61 0 [(3,iI op1),(47,.bool (eqI op1 74))] []<|spc h rfl (fun g125 h=>?_) fun g125 h=>?_
 ·have c126:=eqT g125
  refine cutA 61 0 [(2,iI 6)] []<|zAA<|zAD<|zAB ?_
  cases h
  simp
 have c127:=eqF g125
 refine zAF<|cutA 61 0 [(3,iI op1),(52,.bool (eqI op1 81))] []<|spc h rfl (fun g128 h=>?_) fun g128 h=>?_
 ·refine zAC<|zAN<|zBn rfl (by simp[g128])<|cutA 61 0 [(2,iI 7)] []<|zAA<|zAD<|zAB ?_
  cases h
  simp
 refine cutA 61 0 [(3,iI op1),(52,.bool (eqI op1 82))] []<|spc h rfl (fun g131 h=>?_) fun g131 h=>?_
 ·refine zAC<|zAN<|zBn rfl (by simp[g131])<|cutA 61 0 [(2,iI 7)] []<|zAA<|zAD<|zAB ?_
  cases h
  simp
 refine cutA 61 0 [(3,iI op1),(52,.bool (eqI op1 83))] []<|spc h rfl (fun g134 h=>?_) fun g134 h=>?_
 ·refine zAC<|zAN<|zBn rfl (by simp[g134])<|cutA 61 0 [(2,iI 7)] []<|zAA<|zAD<|zAB ?_
  cases h
  simp
 refine cutA 61 0 [(3,iI op1),(52,.bool (eqI op1 84))] []<|spc h rfl (fun g137 h=>?_) fun g137 h=>?_
 ·refine zAC<|zAN<|zBn rfl (by simp[g137])<|cutA 61 0 [(2,iI 7)] []<|zAA<|zAD<|zAB ?_
  cases h
  simp
 refine cutA 61 0 [(3,iI op1),(52,.bool (eqI op1 85))] []<|spc h rfl (fun g140 h=>?_) fun g140 h=>?_
 ·refine zAC<|zAN<|zBn rfl (by simp[g140])<|cutA 61 0 [(2,iI 7)] []<|zAA<|zAD<|zAB ?_
  cases h
  simp
 refine cutA 61 0 [(3,iI op1),(52,.bool (eqI op1 86))] []<|spc h rfl (fun g143 h=>?_) fun g143 h=>?_
 ·refine zAC<|zAN<|zBn rfl (by simp[g143])<|cutA 61 0 [(2,iI 7)] []<|zAA<|zAD<|zAB ?_
  cases h
  simp
 refine cutA 61 0 [(3,iI op1),(52,.bool (eqI op1 87))] []<|spc h rfl (fun g146 h=>?_) fun g146 h=>?_
 ·refine zAC<|zAN<|zBn rfl (by simp[g146])<|cutA 61 0 [(2,iI 7)] []<|zAA<|zAD<|zAB ?_
  cases h
  simp
 refine zHZ 61 0 [(52,.bool (eqI op1 88))] []<|spc h rfl (fun g149 h=>?_) fun g149 h=>?_
 ·have c150:=eqT g149
  refine cutA 61 0 [(2,iI 7)] []<|zAA<|zAD<|zAB ?_
  cases h
  simp
 have c151:=eqF g149
 refine zAC<|zDb<|zAN<|cutA 61 0 [(2,iI 0)] []<|zAA ?_
 cases h
 simp
theorem zA6(cat1:Int)(t2:zKr)(r:Bool)(h:zBP cat1 t2=some r):Pure Tryz.prog 40 [iI cat1,.agg t2.d] (.bool r):=by
 rw[zBP] at h
 refine zAQ Tryz.func40 (by rfl) (by rfl) (by simp) (by simp) (by simp)<|cutA 26 0 [(0,iI cat1),(3,pT 0)] [t2.d]<|zAF<|cut 26 0 [(0,iI cat1),(3,pT 0),(16,.bool ((eqI cat1 5)&&((eqI t2.Op 43)||(eqI t2.Op 44))))] [t2.d] ?_ ?_
 ·rcases tf (eqI cat1 5) with g3|g3
  ·have c4:=eqT g3
   rcases tf (eqI t2.Op 43) with g5|g5
   ·have c6:=eqT g5
    refine st ?_
    simp[g3,g5]
   have c7:=eqF g5
   refine st ?_
   simp[g3,g5]
  have c8:=eqF g3
  refine st ?_
  simp[g3]
 rcases sp h with ⟨g9,h⟩|⟨g9,h⟩
 ·obtain⟨g10,g11⟩:=andT g9
  have c12:=eqT g10
  refine zBn rfl g9<|cutA 26 0 [(4,.bool true)] [t2.d]<|zAA<|zAB ?_
  cases h
  simp
 refine condF rfl g9<|zAC<|zAN ?_
 obtain⟨b20,q21,h⟩:=bs h
 refine cut 26 0 [(4,.bool b20)] [t2.d] ?_ ?_
 ·rcases sp q21 with ⟨g13,q21⟩|⟨g13,q21⟩
  ·have g14:=notT g13
   have c15:=eqF g14
   obtain⟨v16,q17,q21⟩:=bs q21
   obtain rfl:=oi q21
   refine st ?_
   simp[g13]
   have r22:=zHf t2.Op v16 q17
   try simp[g13] at r22
   refine cP r22 ?_
   simp[g13]
  have g18:=notF g13
  have c19:=eqT g18
  obtain rfl:=oi q21
  refine st ?_
  simp[g13]
 refine zAA ?_
 cases h
 simp
theorem zIf(op1:Int)(r:zKo)(h:zD9 op1=some r):Pure Tryz.prog 88 [iI op1] (.agg [.bool r.n,.bool r.s,.bool r.names]):=by
 rw[zD9] at h
 refine zAQ Tryz.func88 (by rfl) (by rfl) (by simp) (by simp) (by simp)<|cutA 48 0 [(0,iI op1),(2,pT 0)] [zz3]<|zAF<|cutA 48 0 [(2,pT 0),(3,iI op1)] [zz3]<|zAP<|zAF<|cutA 48 0 [(2,pT 0),(3,iI op1),(4,.bool (eqI op1 13))] [zz3] ?_
 refine spc h rfl (fun g2 h=>?_) fun g2 h=>?_
 ·refine zAC<|zAN<|zBn rfl (by simp[g2])<|cutA 48 0 [(2,pT 0)] [[.bool true,.bool false,.bool false]]<|zAA<|zAD<|zAB ?_
  cases h
  simp
 refine cutA 48 0 [(2,pT 0),(3,iI op1),(4,.bool (eqI op1 21))] [zz3]<|spc h rfl (fun g5 h=>?_) fun g5 h=>?_
 ·refine zAC<|zAN<|zBn rfl (by simp[g5])<|cutA 48 0 [(2,pT 0)] [[.bool true,.bool false,.bool false]]<|zAA<|zAD<|zAB ?_
  cases h
  simp
 refine zHZ 48 0 [(2,pT 0),(3,iI op1),(4,.bool (eqI op1 32))] [zz3]<|spc h rfl (fun g8 h=>?_) fun g8 h=>?_
 ·have c9:=eqT g8
  refine cutA 48 0 [(2,pT 0)] [[.bool true,.bool false,.bool false]]<|zAA<|zAD<|zAB ?_
  cases h
  simp
 have c10:=eqF g8
 refine zAF<|cutA 48 0 [(2,pT 0),(3,iI op1),(9,.bool (eqI op1 1))] [zz3]<|spc h rfl (fun g11 h=>?_) fun g11 h=>?_
 ·refine zAC<|zAN<|zBn rfl (by simp[g11])<|cutA 48 0 [(2,pT 0)] [[.bool false,.bool true,.bool false]]<|zAA<|zAD<|zAB ?_
  cases h
  simp
 refine cutA 48 0 [(2,pT 0),(3,iI op1),(9,.bool (eqI op1 12))] [zz3]<|spc h rfl (fun g14 h=>?_) fun g14 h=>?_
 ·refine zAC<|zAN<|zBn rfl (by simp[g14])<|cutA 48 0 [(2,pT 0)] [[.bool false,.bool true,.bool false]]<|zAA<|zAD<|zAB ?_
  cases h
  simp
 refine cutA 48 0 [(2,pT 0),(3,iI op1),(9,.bool (eqI op1 22))] [zz3]<|spc h rfl (fun g17 h=>?_) fun g17 h=>?_
 ·refine zAC<|zAN<|zBn rfl (by simp[g17])<|cutA 48 0 [(2,pT 0)] [[.bool false,.bool true,.bool false]]<|zAA<|zAD<|zAB ?_
  cases h
  simp
 refine cutA 48 0 [(2,pT 0),(3,iI op1),(9,.bool (eqI op1 25))] [zz3]<|spc h rfl (fun g20 h=>?_) fun g20 h=>?_
 ·refine zAC<|zAN<|zBn rfl (by simp[g20])<|cutA 48 0 [(2,pT 0)] [[.bool false,.bool true,.bool false]]<|zAA<|zAD<|zAB ?_
  cases h
  simp
 refine cutA 48 0 [(2,pT 0),(3,iI op1),(9,.bool (eqI op1 41))] [zz3]<|spc h rfl (fun g23 h=>?_) fun g23 h=>?_
 ·refine zAC<|zAN<|zBn rfl (by simp[g23])<|cutA 48 0 [(2,pT 0)] [[.bool false,.bool true,.bool false]]<|zAA<|zAD<|zAB ?_
  cases h
  simp
 refine cutA 48 0 [(2,pT 0),(3,iI op1),(9,.bool (eqI op1 45))] [zz3]<|spc h rfl (fun g26 h=>?_) fun g26 h=>?_
 ·refine zAC<|zAN<|zBn rfl (by simp[g26])<|cutA 48 0 [(2,pT 0)] [[.bool false,.bool true,.bool false]]<|zAA<|zAD<|zAB ?_
  cases h
  simp
 refine cutA 48 0 [(2,pT 0),(3,iI op1),(9,.bool (eqI op1 46))] [zz3]<|spc h rfl (fun g29 h=>?_) fun g29 h=>?_
 ·refine zAC<|zAN<|zBn rfl (by simp[g29])<|cutA 48 0 [(2,pT 0)] [[.bool false,.bool true,.bool false]]<|zAA<|zAD<|zAB ?_
  cases h
  simp
 refine cutA 48 0 [(2,pT 0),(3,iI op1),(9,.bool (eqI op1 47))] [zz3]<|spc h rfl (fun g32 h=>?_) fun g32 h=>?_
 ·refine zAC<|zAN<|zBn rfl (by simp[g32])<|cutA 48 0 [(2,pT 0)] [[.bool false,.bool true,.bool false]]<|zAA<|zAD<|zAB ?_
  cases h
  simp
 refine cutA 48 0 [(2,pT 0),(3,iI op1),(9,.bool (eqI op1 50))] [zz3]<|spc h rfl (fun g35 h=>?_) fun g35 h=>?_
 ·refine zAC<|zAN<|zBn rfl (by simp[g35])<|cutA 48 0 [(2,pT 0)] [[.bool false,.bool true,.bool false]]<|zAA<|zAD<|zAB ?_
  cases h
  simp
 refine cutA 48 0 [(2,pT 0),(3,iI op1),(9,.bool (eqI op1 61))] [zz3]<|spc h rfl (fun g38 h=>?_) fun g38 h=>?_
 ·refine zAC<|zAN<|zBn rfl (by simp[g38])<|cutA 48 0 [(2,pT 0)] [[.bool false,.bool true,.bool false]]<|zAA<|zAD<|zAB ?_
  cases h
  simp
 refine cutA 48 0 [(2,pT 0),(3,iI op1),(9,.bool (eqI op1 63))] [zz3]<|spc h rfl (fun g41 h=>?_) fun g41 h=>?_
 ·refine zAC<|zAN<|zBn rfl (by simp[g41])<|cutA 48 0 [(2,pT 0)] [[.bool false,.bool true,.bool false]]<|zAA<|zAD<|zAB ?_
  cases h
  simp
 refine zHZ 48 0 [(2,pT 0),(3,iI op1),(9,.bool (eqI op1 64))] [zz3]<|spc h rfl (fun g44 h=>?_) fun g44 h=>?_
 ·have c45:=eqT g44
  refine cutA 48 0 [(2,pT 0)] [[.bool false,.bool true,.bool false]]<|zAA<|zAD<|zAB ?_
  cases h
  simp
 have c46:=eqF g44
 refine zAF<|cutA 48 0 [(2,pT 0),(3,iI op1),(23,.bool (eqI op1 2))] [zz3]<|spc h rfl (fun g47 h=>?_) fun g47 h=>?_
 ·refine zAC<|zAN<|zBn rfl (by simp[g47])<|cutA 48 0 [(2,pT 0)] [[.bool false,.bool false,.bool true]]<|zAA<|zAD<|zAB ?_
  cases h
  simp
 refine cutA 48 0 [(2,pT 0),(3,iI op1),(23,.bool (eqI op1 5))] [zz3]<|spc h rfl (fun g50 h=>?_) fun g50 h=>?_
 ·refine zAC<|zAN<|zBn rfl (by simp[g50])<|cutA 48 0 [(2,pT 0)] [[.bool false,.bool false,.bool true]]<|zAA<|zAD<|zAB ?_
  cases h
  simp
 refine cutA 48 0 [(2,pT 0),(3,iI op1),(23,.bool (eqI op1 14))] [zz3]<|spc h rfl (fun g53 h=>?_) fun g53 h=>?_
 ·refine zAC<|zAN<|zBn rfl (by simp[g53])<|cutA 48 0 [(2,pT 0)] [[.bool false,.bool false,.bool true]]<|zAA<|zAD<|zAB ?_
  cases h
  simp
 refine cutA 48 0 [(2,pT 0),(3,iI op1),(23,.bool (eqI op1 23))] [zz3]<|spc h rfl (fun g56 h=>?_) fun g56 h=>?_
 ·refine zAC<|zAN<|zBn rfl (by simp[g56])<|cutA 48 0 [(2,pT 0)] [[.bool false,.bool false,.bool true]]<|zAA<|zAD<|zAB ?_
  cases h
  simp
 refine cutA 48 0 [(2,pT 0),(3,iI op1),(23,.bool (eqI op1 24))] [zz3]<|spc h rfl (fun g59 h=>?_) fun g59 h=>?_
 ·refine zAC<|zAN<|zBn rfl (by simp[g59])<|cutA 48 0 [(2,pT 0)] [[.bool false,.bool false,.bool true]]<|zAA<|zAD<|zAB ?_
  cases h
  simp
 refine cutA 48 0 [(2,pT 0),(3,iI op1),(23,.bool (eqI op1 34))] [zz3]<|spc h rfl (fun g62 h=>?_) fun g62 h=>?_
 ·refine zAC<|zAN<|zBn rfl (by simp[g62])<|cutA 48 0 [(2,pT 0)] [[.bool false,.bool false,.bool true]]<|zAA<|zAD<|zAB ?_
  cases h
  simp
 refine cutA 48 0 [(2,pT 0),(3,iI op1),(23,.bool (eqI op1 48))] [zz3]<|spc h rfl (fun g65 h=>?_) fun g65 h=>?_
 ·refine zAC<|zAN<|zBn rfl (by simp[g65])<|cutA 48 0 [(2,pT 0)] [[.bool false,.bool false,.bool true]]<|zAA<|zAD<|zAB ?_
  cases h
  simp
 refine cutA 48 0 [(2,pT 0),(3,iI op1),(23,.bool (eqI op1 49))] [zz3]<|spc h rfl (fun g68 h=>?_) fun g68 h=>?_
 ·refine zAC<|zAN<|zBn rfl (by simp[g68])<|cutA 48 0 [(2,pT 0)] [[.bool false,.bool false,.bool true]]<|zAA<|zAD<|zAB ?_
  cases h
  simp
 refine cutA 48 0 [(2,pT 0),(3,iI op1),(23,.bool (eqI op1 66))] [zz3]<|spc h rfl (fun g71 h=>?_) fun g71 h=>?_
 ·refine zAC<|zAN<|zBn rfl (by simp[g71])<|cutA 48 0 [(2,pT 0)] [[.bool false,.bool false,.bool true]]<|zAA<|zAD<|zAB ?_
  cases h
  simp
 refine cutA 48 0 [(2,pT 0),(3,iI op1),(23,.bool (eqI op1 72))] [zz3]<|spc h rfl (fun g74 h=>?_) fun g74 h=>?_
 ·refine zAC<|zAN<|zBn rfl (by simp[g74])<|cutA 48 0 [(2,pT 0)] [[.bool false,.bool false,.bool true]]<|zAA<|zAD<|zAB ?_
  cases h
  simp
 refine cutA 48 0 [(2,pT 0),(3,iI op1),(23,.bool (eqI op1 74))] [zz3]<|spc h rfl (fun g77 h=>?_) fun g77 h=>?_
 ·refine zAC<|zAN<|zBn rfl (by simp[g77])<|cutA 48 0 [(2,pT 0)] [[.bool false,.bool false,.bool true]]<|zAA<|zAD<|zAB ?_
  cases h
  simp
 refine zHZ 48 0 [(2,pT 0),(3,iI op1),(23,.bool (eqI op1 82))] [zz3]<|spc h rfl (fun g80 h=>?_) fun g80 h=>?_
 ·have c81:=eqT g80
  refine cutA 48 0 [(2,pT 0)] [[.bool false,.bool false,.bool true]]<|zAA<|zAD<|zAB ?_
  cases h
  simp
 have c82:=eqF g80
 refine zAF<|cutA 48 0 [(2,pT 0),(3,iI op1),(37,.bool (eqI op1 42))] [zz3]<|spc h rfl (fun g83 h=>?_) fun g83 h=>?_
 ·refine zAC<|zAN<|zBn rfl (by simp[g83])<|cutA 48 0 [(2,pT 0)] [[.bool false,.bool true,.bool true]]<|zAA<|zAD<|zAB ?_
  cases h
  simp
 refine cutA 48 0 [(2,pT 0),(3,iI op1),(37,.bool (eqI op1 43))] [zz3]<|spc h rfl (fun g86 h=>?_) fun g86 h=>?_
 ·refine zAC<|zAN<|zBn rfl (by simp[g86])<|cutA 48 0 [(2,pT 0)] [[.bool false,.bool true,.bool true]]<|zAA<|zAD<|zAB ?_
  cases h
  simp
 refine cutA 48 0 [(2,pT 0),(3,iI op1),(37,.bool (eqI op1 44))] [zz3]<|spc h rfl (fun g89 h=>?_) fun g89 h=>?_
 ·refine zAC<|zAN<|zBn rfl (by simp[g89])<|cutA 48 0 [(2,pT 0)] [[.bool false,.bool true,.bool true]]<|zAA<|zAD<|zAB ?_
  cases h
  simp
 refine zHZ 48 0 [(2,pT 0),(3,iI op1),(37,.bool (eqI op1 62))] [zz3]<|spc h rfl (fun g92 h=>?_) fun g92 h=>?_
 ·have c93:=eqT g92
  refine cutA 48 0 [(2,pT 0)] [[.bool false,.bool true,.bool true]]<|zAA<|zAD<|zAB ?_
  cases h
  simp
 have c94:=eqF g92
 refine zAF<|cutA 48 0 [(2,pT 0),(3,iI op1),(43,.bool (eqI op1 73))] [zz3]<|spc h rfl (fun g95 h=>?_) fun g95 h=>?_
 ·refine zAC<|zAN<|zBn rfl (by simp[g95])<|cutA 48 0 [(2,pT 0)] [[.bool true,.bool true,.bool false]]<|zAA<|zAD<|zAB ?_
  cases h
  simp
 refine zHZ 48 0 [(2,pT 0),(43,.bool (eqI op1 83))] [zz3]<|spc h rfl (fun g98 h=>?_) fun g98 h=>?_
 ·have c99:=eqT g98
  refine cutA 48 0 [(2,pT 0)] [[.bool true,.bool true,.bool false]]<|zAA<|zAD<|zAB ?_
  cases h
  simp
 have c100:=eqF g98
 refine zAC<|zDb<|zAN<|cutA 48 0 [(2,pT 0)] [zz3]<|zAA ?_
 cases h
 simp
theorem zFs(s1:(List UInt8))(prefix2:(List UInt8))(r:(List UInt8)×Bool)(h:zDO s1 prefix2=some r):Pure Tryz.prog 134 [.str s1,.str prefix2] (.tup [.str r.1,.bool r.2]):=by
 rw[zDO] at h
 refine zAQ Tryz.func134 (by rfl) (by rfl) (by simp) (by simp) (by simp)<|cutA 15 0 [(0,.str s1),(1,.str prefix2)] []<|zAF ?_
 obtain⟨v3,q4,h⟩:=bs h
 refine cut 15 0 [(0,.str s1),(1,.str prefix2),(9,.bool (!v3))] [] ?_ ?_
 ·refine st ?_
  simp
  have r12:=zEU s1 prefix2 v3 q4
  try simp at r12
  refine cP r12 ?_
  simp
 refine spc h rfl (fun g5 h=>?_) fun g5 h=>?_
 ·have g6:=notT g5
  refine cutA 15 0 [(4,.str s1),(5,.bool false)] []<|zAA<|zAB ?_
  cases h
  simp
 have g7:=notF g5
 refine zAC<|zAN ?_
 obtain⟨s8,q9,h⟩:=bs h
 obtain⟨q10,q11⟩:=zEL q9
 try simp at q10
 try simp at q11
 refine cut 15 0 [(4,.str s8),(5,.bool true)] [] (st (by simp[q10,q11]))<|zAA ?_
 cases h
 simp
theorem zGu(s1:(List UInt8))(prefix2:(List UInt8))(r:(List UInt8)×Bool)(h:zDo s1 prefix2=some r):Pure Tryz.prog 118 [.str s1,.str prefix2] (.tup [.str r.1,.bool r.2]):=by
 rw[zDo] at h
 refine zAQ Tryz.func118 (by rfl) (by rfl) (by simp) (by simp) (by simp)<|cutA 11 0 [(0,.str s1),(1,.str prefix2)] [] ?_
 obtain⟨v3,q4,h⟩:=bs h
 refine cut 11 0 [(4,.str v3.1),(5,.bool v3.2)] [] ?_ ?_
 ·refine st ?_
  simp
  have r5:=zFs s1 prefix2 v3 q4
  try simp at r5
  refine cP r5 ?_
  simp
 refine zAA ?_
 cases h
 simp
theorem zHu(c1:UInt8)(r:Int)(h:zDh c1=some r):Pure Tryz.prog 135 [.int .u8 c1.toNat] (iI r):=by
 rw[zDh] at h
 refine zAQ Tryz.func135 (by rfl) (by rfl) (by simp) (by simp) (by simp)<|cutA 30 0 [(0,.int .u8 c1.toNat)] []<|zAF<|zAP<|cut 30 0 [(0,.int .u8 c1.toNat),(3,.bool ((leI 97 c1.toNat)&&(leI c1.toNat 122)))] [] ?_ ?_
 ·rcases tf (leI 97 c1.toNat) with g2|g2
  ·have c3:=leT g2
   refine st ?_
   simp[g2]
  have c4:=leF g2
  refine st ?_
  simp[g2]
 rcases sp h with ⟨g5,h⟩|⟨g5,h⟩
 ·obtain⟨g6,g7⟩:=andT g5
  have c8:=leT g6
  have c9:=leT g7
  refine zBn rfl g5<|cutA 30 0 [(2,iI 1)] []<|zAA<|zAD<|zAB ?_
  cases h
  simp
 refine condF rfl g5<|cut 30 0 [(0,.int .u8 c1.toNat),(10,.bool ((leI 65 c1.toNat)&&(leI c1.toNat 90)))] [] ?_ ?_
 ·rcases tf (leI 65 c1.toNat) with g10|g10
  ·have c11:=leT g10
   refine st ?_
   simp[g10]
  have c12:=leF g10
  refine st ?_
  simp[g10]
 rcases sp h with ⟨g13,h⟩|⟨g13,h⟩
 ·obtain⟨g14,g15⟩:=andT g13
  have c16:=leT g14
  have c17:=leT g15
  refine zBn rfl g13<|cutA 30 0 [(2,iI 2)] []<|zAA<|zAD<|zAB ?_
  cases h
  simp
 refine condF rfl g13<|cut 30 0 [(0,.int .u8 c1.toNat),(17,.bool ((leI 48 c1.toNat)&&(leI c1.toNat 57)))] [] ?_ ?_
 ·rcases tf (leI 48 c1.toNat) with g18|g18
  ·have c19:=leT g18
   refine st ?_
   simp[g18]
  have c20:=leF g18
  refine st ?_
  simp[g18]
 rcases sp h with ⟨g21,h⟩|⟨g21,h⟩
 ·obtain⟨g22,g23⟩:=andT g21
  have c24:=leT g22
  have c25:=leT g23
  refine zBn rfl g21<|cutA 30 0 [(2,iI 3)] []<|zAA<|zAD<|zAB ?_
  cases h
  simp
 refine condF rfl g21<|cutA 30 0 [(0,.int .u8 c1.toNat),(24,.bool (eqI c1.toNat 95))] []<|spc h rfl (fun g26 h=>?_) fun g26 h=>?_
 ·have c27:=eqT g26
  refine cutA 30 0 [(2,iI 4)] []<|zAA<|zAD<|zAB ?_
  cases h
  simp
 have c28:=eqF g26
 refine cutA 30 0 [(27,.bool (eqI c1.toNat 46))] []<|spc h rfl (fun g29 h=>?_) fun g29 h=>?_
 ·have c30:=eqT g29
  refine cutA 30 0 [(2,iI 5)] []<|zAA<|zAD<|zAB ?_
  cases h
  simp
 have c31:=eqF g29
 refine zAC<|zDb<|zAN<|cutA 30 0 [(2,iI 0)] []<|zAA ?_
 cases h
 simp
theorem zFc(fuel:Nat)(s1:(List UInt8))(first2:Int)(r:Bool)(h:zEJ fuel s1 first2=some r):Pure Tryz.prog 119 [.str s1,iI first2] (.bool r):=by
 rw[zEJ] at h
 refine zAQ Tryz.func119 (by rfl) (by rfl) (by simp) (by simp) (by simp)<|cutA 38 0 [(0,.str s1),(1,iI first2)] []<|zAF ?_
 obtain⟨b13,q14,h⟩:=bs h
 refine cut 38 0 [(0,.str s1),(21,.bool b13)] [] ?_ ?_
 ·rcases sp q14 with ⟨g3,q14⟩|⟨g3,q14⟩
  ·obtain rfl:=oi q14
   refine st ?_
   simp[g3]
  rcases sp q14 with ⟨g4,q14⟩|⟨g4,q14⟩
  ·have c5:=ltT g4
   refine zGl 0 rfl fun f6=>?_
   obtain rfl:=oi q14
   refine st ?_
   simp[g3,g4]
  have c7:=ltF g4
  refine zGl 0 rfl fun f8=>?_
  obtain⟨c9,q10,q14⟩:=bs q14
  obtain⟨v11,q12,q14⟩:=bs q14
  obtain rfl:=oi q14
  refine st ?_
  simp[g3,g4,q10]
  have r46:=zHu c9 v11 q12
  try simp[g3,g4,q10] at r46
  refine cP r46 ?_
  simp[g3,g4,q10]
 refine spc h rfl (fun g15 h=>?_) fun g15 h=>?_
 ·refine cutA 38 0 [(4,.bool false)] []<|zAA<|zAB ?_
  cases h
  simp
 refine zAC<|zAN<|zAF ?_
 obtain⟨l16,q17,h⟩:=bs h
 obtain⟨q18,q19⟩:=bytesC_ok q17
 refine cut 38 0 [(23,.sl (l16.map cU)),(24,iI l16.length),(25,iI 0)] [] (st (by simp[q18,q19]))<|zAP ?_
 obtain⟨o22,l23,h⟩:=bs h
 refine zCd (fun p:Nat×Nat=>mkS 38 0 [(23,.sl (l16.map cU)),(24,iI l16.length),(25,iI p.2)] []) (fun p=>zDY l16 p.1 p.2=some o22) (fun p=>p.1) (fuel,0) l23 (zBe (by simp)) ?_
 rintro⟨k24,i20⟩ l23
 try dsimp only at l23 ⊢
 cases k24 with
 |zero=>
  rw[zDY] at l23;cases l23
 |succ k25=>
  rw[zDY] at l23
  refine cutA 38 0 [(23,.sl (l16.map cU)),(24,iI l16.length),(25,iI i20),(26,.bool (ltI i20 l16.length))] []<|zAF<|spc l23 rfl (fun g26 l23=>?_) fun g26 l23=>?_
  ·have c27:=ltT g26
   refine zGm 23 rfl fun f28=>?_
   rw[zq4] at f28
   refine zAC<|zAN<|zAF<|zAP ?_
   obtain⟨x29,q30,l23⟩:=bs l23
   refine cut 38 0 [(6,.int .u8 x29.toNat),(23,.sl (l16.map cU)),(24,iI l16.length),(25,iI i20)] [] (st (by simp[q30])) ?_
   obtain⟨v31,q32,l23⟩:=bs l23
   refine cut 38 0 [(7,iI v31),(23,.sl (l16.map cU)),(24,iI l16.length),(25,iI i20)] [] ?_ ?_
   ·refine st ?_
    simp
    have r42:=zHu x29 v31 q32
    try simp at r42
    refine cP r42 ?_
    simp
   refine cut 38 0 [(23,.sl (l16.map cU)),(24,iI l16.length),(25,iI i20),(36,.bool ((eqI v31 0)||(eqI v31 5)))] [] ?_ ?_
   ·rcases tf (eqI v31 0) with g33|g33
    ·have c34:=eqT g33
     refine st ?_
     simp[g33]
    have c35:=eqF g33
    refine st ?_
    simp[g33]
   rcases sp l23 with ⟨g36,l23⟩|⟨g36,l23⟩
   ·refine zBn rfl g36<|cutA 38 0 [(4,.bool false)] []<|zAA<|zAD<|zAB ?_
    replace h:=retL l23 h
    refine zAB<|zAD<|zAB ?_
    cases h
    simp
   obtain⟨g37,g38⟩:=orF g36
   have c39:=eqF g37
   have c40:=eqF g38
   refine condF rfl g36<|zAC<|zDb<|zAN ?_
   have q41:Rng .i64 (((i20:Nat):Int)+1):=by simp only[Rng,inR];omega
   try simp at q41
   refine last 38 0 [(23,.sl (l16.map cU)),(24,iI l16.length),(25,iI ((i20+1:Nat):Int))] [] (st (by simp[q41])) fun zz hs=>?_
   exact⟨(k25,i20+1),hs,l23,by simp⟩
  have c43:=ltF g26
  refine zGm 23 rfl fun f44=>?_
  rw[zq4] at f44
  refine zBv<|zAm ?_
  rcases o22 with o22|o21
  ·cases l23
  have q45:=Sum.inr.inj (zqa l23)
  replace h:=zCP h
  refine zAm<|zBu<|zDI (t:=mkS 38 0 [] []) ?_ (zBe (by simp))
  refine cutA 38 0 [(4,.bool true)] []<|zAA ?_
  cases h
  simp
theorem zF5(fuel:Nat)(s1:(List UInt8))(r:Bool)(h:zDt fuel s1=some r):Pure Tryz.prog 89 [.str s1] (.bool r):=by
 rw[zDt] at h
 refine zAQ Tryz.func89 (by rfl) (by rfl) (by simp) (by simp) (by simp)<|cutA 20 0 [(0,.str s1)] [] ?_
 obtain⟨v2,q3,h⟩:=bs h
 refine cut 20 0 [(0,.str s1),(3,.str v2.1),(4,.bool v2.2)] [] ?_ ?_
 ·refine st ?_
  simp
  have r15:=zGu s1 [39] v2 q3
  try simp at r15
  refine cP r15 ?_
  simp
 obtain⟨b12,q13,h⟩:=bs h
 refine cut 20 0 [(2,.bool b12)] [] ?_ ?_
 ·rcases sp q13 with ⟨g4,q13⟩|⟨g4,q13⟩
  ·rcases sp q13 with ⟨g5,q13⟩|⟨g5,q13⟩
   ·have c6:=leT g5
    refine zGl 0 rfl fun f7=>?_
    obtain⟨v8,q9,q13⟩:=bs q13
    obtain rfl:=oi q13
    refine st ?_
    simp[g4,g5]
    have r14:=zFc fuel v2.1 1 v8 q9
    try simp[g4,g5] at r14
    refine cP r14 ?_
    simp[g4,g5]
   have c10:=leF g5
   refine zGl 0 rfl fun f11=>?_
   obtain rfl:=oi q13
   refine st ?_
   simp[g4,g5]
  obtain rfl:=oi q13
  refine st ?_
  simp[g4]
 refine zAA ?_
 cases h
 simp
theorem zBY(fuel:Nat)(s1:(List UInt8))(r:Bool)(h:zB2 fuel s1=some r):Pure Tryz.prog 96 [.str s1] (.bool r):=by
 rw[zB2] at h
 refine zAQ Tryz.func96 (by rfl) (by rfl) (by simp) (by simp) (by simp)<|cutA 5 0 [(0,.str s1)] [] ?_
 obtain⟨v2,q3,h⟩:=bs h
 refine cut 5 0 [(2,.bool v2)] [] ?_ ?_
 ·refine st ?_
  simp
  have r4:=zFc fuel s1 2 v2 q3
  try simp at r4
  refine cP r4 ?_
  simp
 refine zAA ?_
 cases h
 simp
theorem zGC(fuel:Nat)(s1:(List (List UInt8)))(v2:(List UInt8))(r:Int)(h:zDZ fuel s1 v2=some r):Pure Tryz.prog 137 [.sl (s1.map cS),.str v2] (iI r):=by
 rw[zDZ] at h
 refine zAQ Tryz.func137 (by rfl) (by rfl) (by simp) (by simp) (by simp)<|cutA 19 0 [(0,.sl (s1.map cS)),(1,.str v2)] []<|zAF<|cutA 19 0 [(0,.sl (s1.map cS)),(1,.str v2),(7,iI s1.length),(8,iI 0)] []<|zAP ?_
 obtain⟨o5,l6,h⟩:=bs h
 refine zCd (fun p:Nat×Nat=>mkS 19 0 [(0,.sl (s1.map cS)),(1,.str v2),(7,iI s1.length),(8,iI p.2)] []) (fun p=>zBs s1 v2 p.1 p.2=some o5) (fun p=>p.1) (fuel,0) l6 (zBe (by simp)) ?_
 rintro⟨k7,i3⟩ l6
 try dsimp only at l6 ⊢
 cases k7 with
 |zero=>
  rw[zBs] at l6;cases l6
 |succ k8=>
  rw[zBs] at l6
  refine cutA 19 0 [(0,.sl (s1.map cS)),(1,.str v2),(7,iI s1.length),(8,iI i3),(9,.bool (ltI i3 s1.length))] []<|zAF<|spc l6 rfl (fun g9 l6=>?_) fun g9 l6=>?_
  ·have c10:=ltT g9
   refine zGm 0 rfl fun f11=>?_
   rw[zq4] at f11
   refine zAC<|zAN<|zAF<|zAP<|cutA 19 0 [(0,.sl (s1.map cS)),(1,.str v2),(5,iI i3),(7,iI s1.length),(8,iI i3)] [] ?_
   obtain⟨x12,q13,l6⟩:=bs l6
   refine cut 19 0 [(0,.sl (s1.map cS)),(1,.str v2),(5,iI i3),(7,iI s1.length),(8,iI i3),(16,.bool (eqS v2 x12))] [] (st (by simp[q13]))<|spc l6 rfl (fun g14 l6=>?_) fun g14 l6=>?_
   ·refine cutA 19 0 [(4,iI i3)] []<|zAA<|zAD<|zAB ?_
    replace h:=retL l6 h
    refine zAB<|zAD<|zAB ?_
    cases h
    simp
   refine zAC<|zDb<|zAN ?_
   have q15:Rng .i64 (((i3:Nat):Int)+1):=by simp only[Rng,inR];omega
   try simp at q15
   refine last 19 0 [(0,.sl (s1.map cS)),(1,.str v2),(7,iI s1.length),(8,iI ((i3+1:Nat):Int))] [] (st (by simp[q15])) fun zz hs=>?_
   exact⟨(k8,i3+1),hs,l6,by simp⟩
  have c16:=ltF g9
  refine zGm 0 rfl fun f17=>?_
  rw[zq4] at f17
  refine zBv<|zAm ?_
  rcases o5 with o5|o4
  ·cases l6
  have q18:=Sum.inr.inj (zqa l6)
  replace h:=zCP h
  refine zAm<|zBu<|zDI (t:=mkS 19 0 [] []) ?_ (zBe (by simp))
  refine cutA 19 0 [(4,iI (-1))] []<|zAA ?_
  cases h
  simp
theorem zEM(fuel:Nat)(s1:(List (List UInt8)))(v2:(List UInt8))(r:Bool)(h:zBb fuel s1 v2=some r):Pure Tryz.prog 123 [.sl (s1.map cS),.str v2] (.bool r):=by
 rw[zBb] at h
 refine zAQ Tryz.func123 (by rfl) (by rfl) (by simp) (by simp) (by simp)<|cutA 9 0 [(0,.sl (s1.map cS)),(1,.str v2)] [] ?_
 obtain⟨v3,q4,h⟩:=bs h
 refine cut 9 0 [(4,.bool (leI 0 v3))] [] ?_ ?_
 ·refine st ?_
  simp
  have r5:=zGC fuel s1 v2 v3 q4
  try simp at r5
  refine cP r5 ?_
  simp
 refine zAA ?_
 cases h
 simp
theorem ident_word_ok(fuel:Nat)(s1:(List UInt8))(r:Bool)(h:zF8 fuel s1=some r):Pure Tryz.prog 121 [.str s1] (.bool r):=by
 rw[zF8] at h
 refine zAQ Tryz.func121 (by rfl) (by rfl) (by simp) (by simp) (by simp)<|cutA 6 0 [(0,.str s1)] [] ?_
 obtain⟨v2,q3,h⟩:=bs h
 obtain⟨v4,q5,h⟩:=bs h
 refine cut 6 0 [(2,.bool v4)] [] ?_ ?_
 ·refine st ?_
  simp
  have r6:=zIJ [97,110,100,97,108,115,111,32,99,97,115,101,32,100,97,116,97,32,100,105,118,32,101,108,115,101,32,101,110,100,32,102,110,32,102,117,110,32,102,117,110,99,116,111,114,32,103,101,110,101,114,97,116,105,118,101,32,105,102,32,105,109,112,111,114,116,32,105,110,32,105,110,99,108,117,100,101,32,108,101,116,32,109,111,100,32,109,111,100,117,108,101,32,111,102,32,111,112,101,110,32,111,114,101,108,115,101,32,112,97,99,107,32,115,104,97,114,105,110,103,32,115,105,103,32,115,105,103,110,97,116,117,114,101,32,115,116,114,117,99,116,32,115,116,114,117,99,116,117,114,101,32,116,104,101,110,32,116,121,112,101,32,117,110,112,97,99,107,32,118,97,108,32,119,105,116,104] v2 q3
  try simp at r6
  refine cP r6 ?_
  simp
  have r7:=zEM fuel v2 s1 v4 q5
  try simp at r7
  refine cP r7 ?_
  simp
 refine zAA ?_
 cases h
 simp
theorem zBH(fuel:Nat)(s1:(List UInt8))(r:Bool)(h:zBp fuel s1=some r):Pure Tryz.prog 91 [.str s1] (.bool r):=by
 rw[zBp] at h
 refine zAQ Tryz.func91 (by rfl) (by rfl) (by simp) (by simp) (by simp)<|cutA 10 0 [(0,.str s1)] [] ?_
 obtain⟨b7,q8,h⟩:=bs h
 refine cut 10 0 [(2,.bool b7)] [] ?_ ?_
 ·obtain⟨v2,q3,q8⟩:=bs q8
  rcases sp q8 with ⟨g4,q8⟩|⟨g4,q8⟩
  ·obtain⟨v5,q6,q8⟩:=bs q8
   obtain rfl:=oi q8
   refine st ?_
   simp[g4]
   have r9:=zFc fuel s1 1 v2 q3
   try simp[g4] at r9
   refine cP r9 ?_
   simp[g4]
   have r10:=ident_word_ok fuel s1 v5 q6
   try simp[g4] at r10
   refine cP r10 ?_
   simp[g4]
  obtain rfl:=oi q8
  refine st ?_
  simp[g4]
  have r11:=zFc fuel s1 1 v2 q3
  try simp[g4] at r11
  refine cP r11 ?_
  simp[g4]
 refine zAA ?_
 cases h
 simp
theorem zIb(fuel:Nat)(s1:(List UInt8))(r:Bool)(h:zE2 fuel s1=some r):Pure Tryz.prog 120 [.str s1] (.bool r):=by
 rw[zE2] at h
 refine zAQ Tryz.func120 (by rfl) (by rfl) (by simp) (by simp) (by simp)<|cutA 6 0 [(0,.str s1)] [] ?_
 obtain⟨v2,q3,h⟩:=bs h
 refine cut 6 0 [(2,.bool (!v2))] [] ?_ ?_
 ·refine st ?_
  simp
  have r4:=zBY fuel s1 v2 q3
  try simp at r4
  refine cP r4 ?_
  simp
 refine zAA ?_
 cases h
 simp
theorem zEn(fuel:Nat)(s1:(List (List UInt8)))(r:Int)(h:zCJ fuel s1=some r):Pure Tryz.prog 122 [.sl (s1.map cS),.fn (.func 120) [] []] (iI r):=by
 rw[zCJ] at h
 refine zAQ Tryz.func122 (by rfl) (by rfl) (by simp) (by simp) (by simp)<|cutA 19 0 [(0,.sl (s1.map cS)),(1,.fn (.func 120) [] [])] []<|zAF<|cutA 19 0 [(0,.sl (s1.map cS)),(1,.fn (.func 120) [] []),(7,iI s1.length),(8,iI 0)] []<|zAP ?_
 obtain⟨o4,l5,h⟩:=bs h
 refine zCd (fun p:Nat×Nat=>mkS 19 0 [(0,.sl (s1.map cS)),(1,.fn (.func 120) [] []),(7,iI s1.length),(8,iI p.2)] []) (fun p=>zAw fuel s1 p.1 p.2=some o4) (fun p=>p.1) (fuel,0) l5 (zBe (by simp)) ?_
 rintro⟨k6,i2⟩ l5
 try dsimp only at l5 ⊢
 cases k6 with
 |zero=>
  rw[zAw] at l5;cases l5
 |succ k7=>
  rw[zAw] at l5
  refine cutA 19 0 [(0,.sl (s1.map cS)),(1,.fn (.func 120) [] []),(7,iI s1.length),(8,iI i2),(9,.bool (ltI i2 s1.length))] []<|zAF<|spc l5 rfl (fun g8 l5=>?_) fun g8 l5=>?_
  ·have c9:=ltT g8
   refine zGm 0 rfl fun f10=>?_
   rw[zq4] at f10
   refine zAC<|zAN<|zAF<|zAP<|cutA 19 0 [(0,.sl (s1.map cS)),(1,.fn (.func 120) [] []),(5,iI i2),(7,iI s1.length),(8,iI i2)] [] ?_
   obtain⟨x11,q12,l5⟩:=bs l5
   obtain⟨v13,q14,l5⟩:=bs l5
   refine cut 19 0 [(0,.sl (s1.map cS)),(1,.fn (.func 120) [] []),(5,iI i2),(7,iI s1.length),(8,iI i2),(16,.bool v13)] [] ?_ ?_
   ·refine st ?_
    simp[q12]
    have r17:=zIb fuel x11 v13 q14
    try simp[q12] at r17
    refine cP r17 ?_
    simp[q12]
   refine spc l5 rfl (fun g15 l5=>?_) fun g15 l5=>?_
   ·refine cutA 19 0 [(4,iI i2)] []<|zAA<|zAD<|zAB ?_
    replace h:=retL l5 h
    refine zAB<|zAD<|zAB ?_
    cases h
    simp
   refine zAC<|zDb<|zAN ?_
   have q16:Rng .i64 (((i2:Nat):Int)+1):=by simp only[Rng,inR];omega
   try simp at q16
   refine last 19 0 [(0,.sl (s1.map cS)),(1,.fn (.func 120) [] []),(7,iI s1.length),(8,iI ((i2+1:Nat):Int))] [] (st (by simp[q16])) fun zz hs=>?_
   exact⟨(k7,i2+1),hs,l5,by simp⟩
  have c18:=ltF g8
  refine zGm 0 rfl fun f19=>?_
  rw[zq4] at f19
  refine zBv<|zAm ?_
  rcases o4 with o4|o3
  ·cases l5
  have q20:=Sum.inr.inj (zqa l5)
  replace h:=zCP h
  refine zAm<|zBu<|zDI (t:=mkS 19 0 [] []) ?_ (zBe (by simp))
  refine cutA 19 0 [(4,iI (-1))] []<|zAA ?_
  cases h
  simp
theorem zEH(fuel:Nat)(s1:(List (List UInt8)))(r:Bool)(h:zBx fuel s1=some r):Pure Tryz.prog 93 [.sl (s1.map cS),.fn (.func 120) [] []] (.bool r):=by
 rw[zBx] at h
 refine zAQ Tryz.func93 (by rfl) (by rfl) (by simp) (by simp) (by simp)<|cutA 9 0 [(0,.sl (s1.map cS)),(1,.fn (.func 120) [] [])] [] ?_
 obtain⟨v2,q3,h⟩:=bs h
 refine cut 9 0 [(4,.bool (leI 0 v2))] [] ?_ ?_
 ·refine st ?_
  simp
  have r4:=zEn fuel s1 v2 q3
  try simp at r4
  refine cP r4 ?_
  simp
 refine zAA ?_
 cases h
 simp
theorem zCS(fuel:Nat)(l1:(List (List UInt8)))(lower2:Bool)(r:Bool)(h:zB3 fuel l1 lower2=some r):Pure Tryz.prog 90 [.sl (l1.map cS),.bool lower2] (.bool r):=by
 rw[zB3] at h
 refine zAQ Tryz.func90 (by rfl) (by rfl) (by simp) (by simp) (by simp)<|cutA 32 0 [(0,.sl (l1.map cS)),(1,.bool lower2)] []<|zAF<|cut 32 0 [(0,.sl (l1.map cS)),(1,.bool lower2),(13,.bool ((ltI l1.length 1)||(ltI 8 l1.length)))] [] ?_ ?_
 ·rcases tf (ltI l1.length 1) with g3|g3
  ·have c4:=ltT g3
   refine zGm 0 rfl fun f5=>?_
   rw[zq4] at f5
   refine st ?_
   simp[g3]
  have c6:=ltF g3
  refine zGm 0 rfl fun f7=>?_
  rw[zq4] at f7
  refine st ?_
  simp[g3]
 rcases sp h with ⟨g8,h⟩|⟨g8,h⟩
 ·refine zBn rfl g8<|cutA 32 0 [(4,.bool false)] []<|zAA<|zAB ?_
  cases h
  simp
 obtain⟨g9,g10⟩:=orF g8
 have c11:=ltF g9
 have c13:=ltF g10
 refine condF rfl g8<|zGm 0 rfl fun f12=>?_
 rw[zq4] at f12
 refine zAC<|zAN ?_
 have q14:Rng .i64 ((l1.length:Int)-1):=by simp only[Rng,inR];omega
 try simp at q14
 refine cut 32 0 [(0,.sl (l1.map cS)),(1,.bool lower2),(5,iI ((l1.length:Int)-1))] [] (st (by simp[q14]))<|zAF ?_
 obtain⟨l15,q16,h⟩:=bs h
 obtain⟨q17,q18⟩:=zEL q16
 try simp at q17
 try simp at q18
 obtain⟨v19,q20,h⟩:=bs h
 refine cut 32 0 [(0,.sl (l1.map cS)),(1,.bool lower2),(5,iI ((l1.length:Int)-1)),(20,.bool v19)] [] ?_ ?_
 ·refine st ?_
  simp[q17,q18]
  have r37:=zEH fuel l15 v19 q20
  try simp[q17,q18] at r37
  refine cP r37 ?_
  simp[q17,q18]
 refine spc h rfl (fun g21 h=>?_) fun g21 h=>?_
 ·refine cutA 32 0 [(4,.bool false)] []<|zAA<|zAB ?_
  cases h
  simp
 refine zAC<|zAN<|zAF<|cutA 32 0 [(0,.sl (l1.map cS)),(5,iI ((l1.length:Int)-1)),(21,.bool lower2)] []<|spc h rfl (fun g22 h=>?_) fun g22 h=>?_
 ·obtain⟨x23,q24,h⟩:=bs h
  obtain⟨q25,q26⟩:=idxp_ok q24
  obtain⟨v27,q28,h⟩:=bs h
  refine cut 32 0 [(4,.bool v27)] [] ?_ ?_
  ·refine st ?_
   simp[q25,q26]
   have r29:=zBH fuel x23 v27 q28
   try simp[q25,q26] at r29
   refine cP r29 ?_
   simp[q25,q26]
  refine zAA<|zAB ?_
  cases h
  simp
 refine zAC<|zAN ?_
 obtain⟨x30,q31,h⟩:=bs h
 obtain⟨q32,q33⟩:=idxp_ok q31
 obtain⟨v34,q35,h⟩:=bs h
 refine cut 32 0 [(4,.bool v34)] [] ?_ ?_
 ·refine st ?_
  simp[q32,q33]
  have r36:=zBY fuel x30 v34 q35
  try simp[q32,q33] at r36
  refine cP r36 ?_
  simp[q32,q33]
 refine zAA ?_
 cases h
 simp
theorem zJH(fuel:Nat)(s1:(List UInt8))(r:Bool)(h:zEj fuel s1=some r):Pure Tryz.prog 92 [.str s1] (.bool r):=by
 rw[zEj] at h
 refine zAQ Tryz.func92 (by rfl) (by rfl) (by simp) (by simp) (by simp)<|cutA 29 0 [(0,.str s1)] []<|zAF<|cutA 29 0 [(0,.str s1),(5,iI s1.length),(6,iI 0)] []<|zAP ?_
 obtain⟨o4,l5,h⟩:=bs h
 refine zCd (fun p:Nat×Nat=>mkS 29 0 [(0,.str s1),(5,iI s1.length),(6,iI p.2)] []) (fun p=>zCh s1 p.1 p.2=some o4) (fun p=>p.1) (fuel,0) l5 (zBe (by simp)) ?_
 rintro⟨k6,i2⟩ l5
 try dsimp only at l5 ⊢
 cases k6 with
 |zero=>
  rw[zCh] at l5;cases l5
 |succ k7=>
  rw[zCh] at l5
  refine cutA 29 0 [(0,.str s1),(5,iI s1.length),(6,iI i2),(7,.bool (ltI i2 s1.length))] []<|zAF<|spc l5 rfl (fun g8 l5=>?_) fun g8 l5=>?_
  ·have c9:=ltT g8
   refine zGl 0 rfl fun f10=>?_
   refine zAC<|zAN<|zAF<|zAP<|cutA 29 0 [(0,.str s1),(3,iI i2),(5,iI s1.length),(6,iI i2)] [] ?_
   obtain⟨b21,q22,l5⟩:=bs l5
   refine cut 29 0 [(0,.str s1),(5,iI s1.length),(6,iI i2),(24,.bool b21)] [] ?_ ?_
   ·obtain⟨c11,q12,q22⟩:=bs q22
    rcases sp q22 with ⟨g13,q22⟩|⟨g13,q22⟩
    ·have g14:=notT g13
     have c15:=eqF g14
     rcases sp q22 with ⟨g16,q22⟩|⟨g16,q22⟩
     ·have c17:=ltT g16
      obtain rfl:=oi q22
      refine st ?_
      simp[q12,g13,g16]
     have c18:=ltF g16
     obtain rfl:=oi q22
     refine st ?_
     simp[q12,g13,g16]
    have g19:=notF g13
    have c20:=eqT g19
    obtain rfl:=oi q22
    refine st ?_
    simp[q12,g13]
   refine spc l5 rfl (fun g23 l5=>?_) fun g23 l5=>?_
   ·refine cutA 29 0 [(2,.bool false)] []<|zAA<|zAD<|zAB ?_
    replace h:=retL l5 h
    refine zAB<|zAD<|zAB ?_
    cases h
    simp
   refine zAC<|zDb<|zAN ?_
   have q24:Rng .i64 (((i2:Nat):Int)+1):=by simp only[Rng,inR];omega
   try simp at q24
   refine last 29 0 [(0,.str s1),(5,iI s1.length),(6,iI ((i2+1:Nat):Int))] [] (st (by simp[q24])) fun zz hs=>?_
   exact⟨(k7,i2+1),hs,l5,by simp⟩
  have c25:=ltF g8
  refine zGl 0 rfl fun f26=>?_
  refine zBv<|zAm ?_
  rcases o4 with o4|o3
  ·cases l5
  have q27:=Sum.inr.inj (zqa l5)
  replace h:=zCP h
  refine zAm<|zBu<|zDI (t:=mkS 29 0 [(0,.str s1)] []) ?_ (zBe (by simp))
  refine cutA 29 0 [(2,.bool (leI s1.length 16384))] []<|zAA ?_
  cases h
  simp
theorem zJI(fuel:Nat)(s1:(List UInt8))(r:Bool)(h:zFI fuel s1=some r):Pure Tryz.prog 94 [.str s1] (.bool r):=by
 rw[zFI] at h
 refine zAQ Tryz.func94 (by rfl) (by rfl) (by simp) (by simp) (by simp)<|cutA 6 0 [(0,.str s1)] [] ?_
 obtain⟨v2,q3,h⟩:=bs h
 refine cut 6 0 [(2,.bool (!v2))] [] ?_ ?_
 ·refine st ?_
  simp
  have r4:=zBH fuel s1 v2 q3
  try simp at r4
  refine cP r4 ?_
  simp
 refine zAA ?_
 cases h
 simp
theorem zEq(fuel:Nat)(s1:(List (List UInt8)))(r:Int)(h:zCO fuel s1=some r):Pure Tryz.prog 122 [.sl (s1.map cS),.fn (.func 94) [] []] (iI r):=by
 rw[zCO] at h
 refine zAQ Tryz.func122 (by rfl) (by rfl) (by simp) (by simp) (by simp)<|cutA 19 0 [(0,.sl (s1.map cS)),(1,.fn (.func 94) [] [])] []<|zAF<|cutA 19 0 [(0,.sl (s1.map cS)),(1,.fn (.func 94) [] []),(7,iI s1.length),(8,iI 0)] []<|zAP ?_
 obtain⟨o4,l5,h⟩:=bs h
 refine zCd (fun p:Nat×Nat=>mkS 19 0 [(0,.sl (s1.map cS)),(1,.fn (.func 94) [] []),(7,iI s1.length),(8,iI p.2)] []) (fun p=>zAy fuel s1 p.1 p.2=some o4) (fun p=>p.1) (fuel,0) l5 (zBe (by simp)) ?_
 rintro⟨k6,i2⟩ l5
 try dsimp only at l5 ⊢
 cases k6 with
 |zero=>
  rw[zAy] at l5;cases l5
 |succ k7=>
  rw[zAy] at l5
  refine cutA 19 0 [(0,.sl (s1.map cS)),(1,.fn (.func 94) [] []),(7,iI s1.length),(8,iI i2),(9,.bool (ltI i2 s1.length))] []<|zAF<|spc l5 rfl (fun g8 l5=>?_) fun g8 l5=>?_
  ·have c9:=ltT g8
   refine zGm 0 rfl fun f10=>?_
   rw[zq4] at f10
   refine zAC<|zAN<|zAF<|zAP<|cutA 19 0 [(0,.sl (s1.map cS)),(1,.fn (.func 94) [] []),(5,iI i2),(7,iI s1.length),(8,iI i2)] [] ?_
   obtain⟨x11,q12,l5⟩:=bs l5
   obtain⟨v13,q14,l5⟩:=bs l5
   refine cut 19 0 [(0,.sl (s1.map cS)),(1,.fn (.func 94) [] []),(5,iI i2),(7,iI s1.length),(8,iI i2),(16,.bool v13)] [] ?_ ?_
   ·refine st ?_
    simp[q12]
    have r17:=zJI fuel x11 v13 q14
    try simp[q12] at r17
    refine cP r17 ?_
    simp[q12]
   refine spc l5 rfl (fun g15 l5=>?_) fun g15 l5=>?_
   ·refine cutA 19 0 [(4,iI i2)] []<|zAA<|zAD<|zAB ?_
    replace h:=retL l5 h
    refine zAB<|zAD<|zAB ?_
    cases h
    simp
   refine zAC<|zDb<|zAN ?_
   have q16:Rng .i64 (((i2:Nat):Int)+1):=by simp only[Rng,inR];omega
   try simp at q16
   refine last 19 0 [(0,.sl (s1.map cS)),(1,.fn (.func 94) [] []),(7,iI s1.length),(8,iI ((i2+1:Nat):Int))] [] (st (by simp[q16])) fun zz hs=>?_
   exact⟨(k7,i2+1),hs,l5,by simp⟩
  have c18:=ltF g8
  refine zGm 0 rfl fun f19=>?_
  rw[zq4] at f19
  refine zBv<|zAm ?_
  rcases o4 with o4|o3
  ·cases l5
  have q20:=Sum.inr.inj (zqa l5)
  replace h:=zCP h
  refine zAm<|zBu<|zDI (t:=mkS 19 0 [] []) ?_ (zBe (by simp))
  refine cutA 19 0 [(4,iI (-1))] []<|zAA ?_
  cases h
  simp
theorem zER(fuel:Nat)(s1:(List (List UInt8)))(r:Bool)(h:zBc fuel s1=some r):Pure Tryz.prog 93 [.sl (s1.map cS),.fn (.func 94) [] []] (.bool r):=by
 rw[zBc] at h
 refine zAQ Tryz.func93 (by rfl) (by rfl) (by simp) (by simp) (by simp)<|cutA 9 0 [(0,.sl (s1.map cS)),(1,.fn (.func 94) [] [])] [] ?_
 obtain⟨v2,q3,h⟩:=bs h
 refine cut 9 0 [(4,.bool (leI 0 v2))] [] ?_ ?_
 ·refine st ?_
  simp
  have r4:=zEq fuel s1 v2 q3
  try simp at r4
  refine cP r4 ?_
  simp
 refine zAA ?_
 cases h
 simp
theorem zET(fuel:Nat)(l1:(List (List UInt8)))(r:Bool)(h:zDF fuel l1=some r):Pure Tryz.prog 95 [.sl (l1.map cS)] (.bool r):=by
 rw[zDF] at h
 refine zAQ Tryz.func95 (by rfl) (by rfl) (by simp) (by simp) (by simp)<|cutA 26 0 [(0,.sl (l1.map cS))] []<|zAF<|cutA 26 0 [(0,.sl (l1.map cS)),(5,.sl (l1.map cS)),(6,iI l1.length),(7,iI 0)] []<|zAP ?_
 obtain⟨o4,l5,h⟩:=bs h
 refine zCd (fun p:Nat×Nat=>mkS 26 0 [(0,.sl (l1.map cS)),(5,.sl (l1.map cS)),(6,iI l1.length),(7,iI p.2)] []) (fun p=>zCq fuel l1 p.1 p.2=some o4) (fun p=>p.1) (fuel,0) l5 (zBe (by simp)) ?_
 rintro⟨k6,i2⟩ l5
 try dsimp only at l5 ⊢
 cases k6 with
 |zero=>
  rw[zCq] at l5;cases l5
 |succ k7=>
  rw[zCq] at l5
  refine cutA 26 0 [(0,.sl (l1.map cS)),(5,.sl (l1.map cS)),(6,iI l1.length),(7,iI i2),(8,.bool (ltI i2 l1.length))] []<|zAF<|spc l5 rfl (fun g8 l5=>?_) fun g8 l5=>?_
  ·have c9:=ltT g8
   refine zGm 0 rfl fun f10=>?_
   rw[zq4] at f10
   refine zAC<|zAN<|zAF<|zAP ?_
   obtain⟨x11,q12,l5⟩:=bs l5
   refine cut 26 0 [(0,.sl (l1.map cS)),(3,iI i2),(4,.str x11),(5,.sl (l1.map cS)),(6,iI l1.length),(7,iI i2)] [] (st (by simp[q12])) ?_
   obtain⟨b24,q25,l5⟩:=bs l5
   refine cut 26 0 [(0,.sl (l1.map cS)),(5,.sl (l1.map cS)),(6,iI l1.length),(7,iI i2),(21,.bool b24)] [] ?_ ?_
   ·obtain⟨v13,q14,q25⟩:=bs q25
    rcases sp q25 with ⟨g15,q25⟩|⟨g15,q25⟩
    ·have g16:=notT g15
     obtain rfl:=oi q25
     refine st ?_
     simp[g15]
     have r28:=zF5 fuel x11 v13 q14
     try simp[g15] at r28
     refine cP r28 ?_
     simp[g15]
    have g17:=notF g15
    obtain⟨l18,q19,q25⟩:=bs q25
    obtain⟨q20,q21⟩:=zEL q19
    try simp at q20
    try simp at q21
    obtain⟨v22,q23,q25⟩:=bs q25
    obtain rfl:=oi q25
    refine st ?_
    simp[g15,q20,q21]
    have r29:=zF5 fuel x11 v13 q14
    try simp[g15,q20,q21] at r29
    refine cP r29 ?_
    simp[g15,q20,q21]
    have r30:=zEM fuel l18 x11 v22 q23
    try simp[g15,q20,q21] at r30
    refine cP r30 ?_
    simp[g15,q20,q21]
   refine spc l5 rfl (fun g26 l5=>?_) fun g26 l5=>?_
   ·refine cutA 26 0 [(2,.bool false)] []<|zAA<|zAD<|zAB ?_
    replace h:=retL l5 h
    refine zAB<|zAD<|zAB ?_
    cases h
    simp
   refine zAC<|zDb<|zAN ?_
   have q27:Rng .i64 (((i2:Nat):Int)+1):=by simp only[Rng,inR];omega
   try simp at q27
   refine last 26 0 [(0,.sl (l1.map cS)),(5,.sl (l1.map cS)),(6,iI l1.length),(7,iI ((i2+1:Nat):Int))] [] (st (by simp[q27])) fun zz hs=>?_
   exact⟨(k7,i2+1),hs,l5,by simp⟩
  have c31:=ltF g8
  refine zGm 0 rfl fun f32=>?_
  rw[zq4] at f32
  refine zBv<|zAm ?_
  rcases o4 with o4|o3
  ·cases l5
  have q33:=Sum.inr.inj (zqa l5)
  replace h:=zCP h
  refine zAm<|zBu<|zDI (t:=mkS 26 0 [(0,.sl (l1.map cS))] []) ?_ (zBe (by simp))
  refine cutA 26 0 [(2,.bool (leI l1.length 4))] []<|zAA ?_
  cases h
  simp
theorem zH5(fuel:Nat)(t1:zKr)(inWith2:Bool)(r:Bool)(h:zDW fuel t1 inWith2=some r):Pure Tryz.prog 68 [.agg t1.d,.bool inWith2] (.bool r):=by
 rw[zDW] at h
 refine zAQ Tryz.func68 (by rfl) (by rfl) (by simp) (by simp) (by simp)<|cutA 199 0 [(1,.bool inWith2),(2,pT 0)] [t1.d] ?_
 obtain⟨v3,q4,h⟩:=bs h
 refine cut 199 0 [(1,.bool inWith2),(2,pT 0),(5,pT 1)] [t1.d,(zKo.c v3)] ?_ ?_
 ·refine st ?_
  simp
  have r298:=zIf t1.Op v3 q4
  try simp at r298
  refine cP r298 ?_
  simp
 refine zAF<|cut 199 0 [(1,.bool inWith2),(2,pT 0),(37,.bool (if !v3.n then (!(eqI t1.N 0))||(if !v3.s then (!(eqS t1.S ([]:List UInt8)))||((!v3.names)&&(ltI 0 t1.Names.length)) else (!v3.names)&&(ltI 0 t1.Names.length)) else if !v3.s then (!(eqS t1.S ([]:List UInt8)))||((!v3.names)&&(ltI 0 t1.Names.length)) else (!v3.names)&&(ltI 0 t1.Names.length)))] [t1.d,(zKo.c v3)] ?_ ?_
 ·rcases tf (!v3.n) with g5|g5
  ·have g6:=notT g5
   rcases tf (!(eqI t1.N 0)) with g7|g7
   ·have g8:=notT g7
    have c9:=eqF g8
    refine st ?_
    simp[g5,g7]
   have g10:=notF g7
   have c11:=eqT g10
   rcases tf (!v3.s) with g12|g12
   ·have g13:=notT g12
    rcases tf (!(eqS t1.S ([]:List UInt8))) with g14|g14
    ·have g15:=notT g14
     refine st ?_
     simp[g5,g7,g12,g14]
    have g16:=notF g14
    rcases tf (!v3.names) with g17|g17
    ·have g18:=notT g17
     refine st ?_
     simp[g5,g7,g12,g14,g17]
    have g19:=notF g17
    refine st ?_
    simp[g5,g7,g12,g14,g17]
   have g20:=notF g12
   rcases tf (!v3.names) with g21|g21
   ·have g22:=notT g21
    refine st ?_
    simp[g5,g7,g12,g21]
   have g23:=notF g21
   refine st ?_
   simp[g5,g7,g12,g21]
  have g24:=notF g5
  rcases tf (!v3.s) with g25|g25
  ·have g26:=notT g25
   rcases tf (!(eqS t1.S ([]:List UInt8))) with g27|g27
   ·have g28:=notT g27
    refine st ?_
    simp[g5,g25,g27]
   have g29:=notF g27
   rcases tf (!v3.names) with g30|g30
   ·have g31:=notT g30
    refine st ?_
    simp[g5,g25,g27,g30]
   have g32:=notF g30
   refine st ?_
   simp[g5,g25,g27,g30]
  have g33:=notF g25
  rcases tf (!v3.names) with g34|g34
  ·have g35:=notT g34
   refine st ?_
   simp[g5,g25,g34]
  have g36:=notF g34
  refine st ?_
  simp[g5,g25,g34]
 refine spc h rfl (fun g37 h=>?_) fun g37 h=>?_
 ·refine cutA 199 0 [(4,.bool false)] [t1.d,(zKo.c v3)]<|zAA<|zAB ?_
  cases h
  simp
 refine zAC<|zAN<|zAF<|cutA 199 0 [(1,.bool inWith2),(2,pT 0),(39,iI t1.Op)] [t1.d,(zKo.c v3)]<|zAP<|cutA 199 0 [(1,.bool inWith2),(2,pT 0),(39,iI t1.Op),(40,.bool (eqI t1.Op 1))] [t1.d,(zKo.c v3)]<|spc h rfl (fun g38 h=>?_) fun g38 h=>?_
 ·obtain⟨v40,q41,h⟩:=bs h
  refine cut 199 0 [(4,.bool v40)] [t1.d,(zKo.c v3)] ?_ ?_
  ·refine st ?_
   simp
   have r42:=zF5 fuel t1.S v40 q41
   try simp at r42
   refine cP r42 ?_
   simp
  refine zAA<|zAD<|zAB ?_
  cases h
  simp
 refine zAF<|cutA 199 0 [(1,.bool inWith2),(2,pT 0),(39,iI t1.Op),(45,.bool (eqI t1.Op 2))] [t1.d,(zKo.c v3)]<|spc h rfl (fun g44 h=>?_) fun g44 h=>?_
 ·refine zAC<|zAN<|zBn rfl (by simp[g44]) ?_
  obtain⟨v46,q47,h⟩:=bs h
  refine cut 199 0 [(4,.bool v46)] [t1.d,(zKo.c v3)] ?_ ?_
  ·refine st ?_
   simp
   have r48:=zCS fuel t1.Names true v46 q47
   try simp at r48
   refine cP r48 ?_
   simp
  refine zAA<|zAD<|zAB ?_
  cases h
  simp
 refine cutA 199 0 [(1,.bool inWith2),(2,pT 0),(39,iI t1.Op),(45,.bool (eqI t1.Op 23))] [t1.d,(zKo.c v3)]<|spc h rfl (fun g50 h=>?_) fun g50 h=>?_
 ·refine zAC<|zAN<|zBn rfl (by simp[g50]) ?_
  obtain⟨v52,q53,h⟩:=bs h
  refine cut 199 0 [(4,.bool v52)] [t1.d,(zKo.c v3)] ?_ ?_
  ·refine st ?_
   simp
   have r54:=zCS fuel t1.Names true v52 q53
   try simp at r54
   refine cP r54 ?_
   simp
  refine zAA<|zAD<|zAB ?_
  cases h
  simp
 refine cutA 199 0 [(1,.bool inWith2),(2,pT 0),(39,iI t1.Op),(45,.bool (eqI t1.Op 66))] [t1.d,(zKo.c v3)]<|spc h rfl (fun g56 h=>?_) fun g56 h=>?_
 ·refine zAC<|zAN<|zBn rfl (by simp[g56]) ?_
  obtain⟨v58,q59,h⟩:=bs h
  refine cut 199 0 [(4,.bool v58)] [t1.d,(zKo.c v3)] ?_ ?_
  ·refine st ?_
   simp
   have r60:=zCS fuel t1.Names true v58 q59
   try simp at r60
   refine cP r60 ?_
   simp
  refine zAA<|zAD<|zAB ?_
  cases h
  simp
 refine zHZ 199 0 [(1,.bool inWith2),(2,pT 0),(39,iI t1.Op),(45,.bool (eqI t1.Op 74))] [t1.d,(zKo.c v3)]<|spc h rfl (fun g62 h=>?_) fun g62 h=>?_
 ·have c63:=eqT g62
  obtain⟨v64,q65,h⟩:=bs h
  refine cut 199 0 [(4,.bool v64)] [t1.d,(zKo.c v3)] ?_ ?_
  ·refine st ?_
   simp
   have r66:=zCS fuel t1.Names true v64 q65
   try simp at r66
   refine cP r66 ?_
   simp
  refine zAA<|zAD<|zAB ?_
  cases h
  simp
 have c67:=eqF g62
 refine zAF<|cutA 199 0 [(1,.bool inWith2),(2,pT 0),(39,iI t1.Op),(53,.bool (eqI t1.Op 5))] [t1.d,(zKo.c v3)]<|spc h rfl (fun g68 h=>?_) fun g68 h=>?_
 ·refine zAC<|zAN<|zBn rfl (by simp[g68]) ?_
  obtain⟨v70,q71,h⟩:=bs h
  refine cut 199 0 [(4,.bool v70)] [t1.d,(zKo.c v3)] ?_ ?_
  ·refine st ?_
   simp
   have r72:=zCS fuel t1.Names false v70 q71
   try simp at r72
   refine cP r72 ?_
   simp
  refine zAA<|zAD<|zAB ?_
  cases h
  simp
 refine cutA 199 0 [(1,.bool inWith2),(2,pT 0),(39,iI t1.Op),(53,.bool (eqI t1.Op 14))] [t1.d,(zKo.c v3)]<|spc h rfl (fun g74 h=>?_) fun g74 h=>?_
 ·refine zAC<|zAN<|zBn rfl (by simp[g74]) ?_
  obtain⟨v76,q77,h⟩:=bs h
  refine cut 199 0 [(4,.bool v76)] [t1.d,(zKo.c v3)] ?_ ?_
  ·refine st ?_
   simp
   have r78:=zCS fuel t1.Names false v76 q77
   try simp at r78
   refine cP r78 ?_
   simp
  refine zAA<|zAD<|zAB ?_
  cases h
  simp
 refine cutA 199 0 [(1,.bool inWith2),(2,pT 0),(39,iI t1.Op),(53,.bool (eqI t1.Op 24))] [t1.d,(zKo.c v3)]<|spc h rfl (fun g80 h=>?_) fun g80 h=>?_
 ·refine zAC<|zAN<|zBn rfl (by simp[g80]) ?_
  obtain⟨v82,q83,h⟩:=bs h
  refine cut 199 0 [(4,.bool v82)] [t1.d,(zKo.c v3)] ?_ ?_
  ·refine st ?_
   simp
   have r84:=zCS fuel t1.Names false v82 q83
   try simp at r84
   refine cP r84 ?_
   simp
  refine zAA<|zAD<|zAB ?_
  cases h
  simp
 refine cutA 199 0 [(1,.bool inWith2),(2,pT 0),(39,iI t1.Op),(53,.bool (eqI t1.Op 34))] [t1.d,(zKo.c v3)]<|spc h rfl (fun g86 h=>?_) fun g86 h=>?_
 ·refine zAC<|zAN<|zBn rfl (by simp[g86]) ?_
  obtain⟨v88,q89,h⟩:=bs h
  refine cut 199 0 [(4,.bool v88)] [t1.d,(zKo.c v3)] ?_ ?_
  ·refine st ?_
   simp
   have r90:=zCS fuel t1.Names false v88 q89
   try simp at r90
   refine cP r90 ?_
   simp
  refine zAA<|zAD<|zAB ?_
  cases h
  simp
 refine cutA 199 0 [(1,.bool inWith2),(2,pT 0),(39,iI t1.Op),(53,.bool (eqI t1.Op 48))] [t1.d,(zKo.c v3)]<|spc h rfl (fun g92 h=>?_) fun g92 h=>?_
 ·refine zAC<|zAN<|zBn rfl (by simp[g92]) ?_
  obtain⟨v94,q95,h⟩:=bs h
  refine cut 199 0 [(4,.bool v94)] [t1.d,(zKo.c v3)] ?_ ?_
  ·refine st ?_
   simp
   have r96:=zCS fuel t1.Names false v94 q95
   try simp at r96
   refine cP r96 ?_
   simp
  refine zAA<|zAD<|zAB ?_
  cases h
  simp
 refine cutA 199 0 [(1,.bool inWith2),(2,pT 0),(39,iI t1.Op),(53,.bool (eqI t1.Op 49))] [t1.d,(zKo.c v3)]<|spc h rfl (fun g98 h=>?_) fun g98 h=>?_
 ·refine zAC<|zAN<|zBn rfl (by simp[g98]) ?_
  obtain⟨v100,q101,h⟩:=bs h
  refine cut 199 0 [(4,.bool v100)] [t1.d,(zKo.c v3)] ?_ ?_
  ·refine st ?_
   simp
   have r102:=zCS fuel t1.Names false v100 q101
   try simp at r102
   refine cP r102 ?_
   simp
  refine zAA<|zAD<|zAB ?_
  cases h
  simp
 refine cutA 199 0 [(1,.bool inWith2),(2,pT 0),(39,iI t1.Op),(53,.bool (eqI t1.Op 72))] [t1.d,(zKo.c v3)]<|spc h rfl (fun g104 h=>?_) fun g104 h=>?_
 ·refine zAC<|zAN<|zBn rfl (by simp[g104]) ?_
  obtain⟨v106,q107,h⟩:=bs h
  refine cut 199 0 [(4,.bool v106)] [t1.d,(zKo.c v3)] ?_ ?_
  ·refine st ?_
   simp
   have r108:=zCS fuel t1.Names false v106 q107
   try simp at r108
   refine cP r108 ?_
   simp
  refine zAA<|zAD<|zAB ?_
  cases h
  simp
 refine zHZ 199 0 [(1,.bool inWith2),(2,pT 0),(39,iI t1.Op),(53,.bool (eqI t1.Op 82))] [t1.d,(zKo.c v3)]<|spc h rfl (fun g110 h=>?_) fun g110 h=>?_
 ·have c111:=eqT g110
  obtain⟨v112,q113,h⟩:=bs h
  refine cut 199 0 [(4,.bool v112)] [t1.d,(zKo.c v3)] ?_ ?_
  ·refine st ?_
   simp
   have r114:=zCS fuel t1.Names false v112 q113
   try simp at r114
   refine cP r114 ?_
   simp
  refine zAA<|zAD<|zAB ?_
  cases h
  simp
 have c115:=eqF g110
 refine zAF<|cutA 199 0 [(1,.bool inWith2),(2,pT 0),(39,iI t1.Op),(65,.bool (eqI t1.Op 12))] [t1.d,(zKo.c v3)]<|spc h rfl (fun g116 h=>?_) fun g116 h=>?_
 ·refine zAC<|zAN<|zBn rfl (by simp[g116]) ?_
  obtain⟨v118,q119,h⟩:=bs h
  refine cut 199 0 [(4,.bool v118)] [t1.d,(zKo.c v3)] ?_ ?_
  ·refine st ?_
   simp
   have r120:=zBH fuel t1.S v118 q119
   try simp at r120
   refine cP r120 ?_
   simp
  refine zAA<|zAD<|zAB ?_
  cases h
  simp
 refine cutA 199 0 [(1,.bool inWith2),(2,pT 0),(39,iI t1.Op),(65,.bool (eqI t1.Op 41))] [t1.d,(zKo.c v3)]<|spc h rfl (fun g122 h=>?_) fun g122 h=>?_
 ·refine zAC<|zAN<|zBn rfl (by simp[g122]) ?_
  obtain⟨v124,q125,h⟩:=bs h
  refine cut 199 0 [(4,.bool v124)] [t1.d,(zKo.c v3)] ?_ ?_
  ·refine st ?_
   simp
   have r126:=zBH fuel t1.S v124 q125
   try simp at r126
   refine cP r126 ?_
   simp
  refine zAA<|zAD<|zAB ?_
  cases h
  simp
 refine zHZ 199 0 [(1,.bool inWith2),(2,pT 0),(39,iI t1.Op),(65,.bool (eqI t1.Op 61))] [t1.d,(zKo.c v3)]<|spc h rfl (fun g128 h=>?_) fun g128 h=>?_
 ·have c129:=eqT g128
  obtain⟨v130,q131,h⟩:=bs h
  refine cut 199 0 [(4,.bool v130)] [t1.d,(zKo.c v3)] ?_ ?_
  ·refine st ?_
   simp
   have r132:=zBH fuel t1.S v130 q131
   try simp at r132
   refine cP r132 ?_
   simp
  refine zAA<|zAD<|zAB ?_
  cases h
  simp
 have c133:=eqF g128
 refine cutA 199 0 [(1,.bool inWith2),(2,pT 0),(39,iI t1.Op),(72,.bool (eqI t1.Op 13))] [t1.d,(zKo.c v3)]<|spc h rfl (fun g134 h=>?_) fun g134 h=>?_
 ·refine cut 199 0 [(4,.bool ((leI (-4503599627370496) t1.N)&&(leI t1.N 4503599627370496)))] [t1.d,(zKo.c v3)] ?_ ?_
  ·rcases tf (leI (-4503599627370496) t1.N) with g136|g136
   ·have c137:=leT g136
    refine st ?_
    simp[g136]
   have c138:=leF g136
   refine st ?_
   simp[g136]
  refine zAA<|zAD<|zAB ?_
  cases h
  simp
 refine cutA 199 0 [(1,.bool inWith2),(2,pT 0),(39,iI t1.Op),(82,.bool (eqI t1.Op 21))] [t1.d,(zKo.c v3)]<|spc h rfl (fun g140 h=>?_) fun g140 h=>?_
 ·refine cut 199 0 [(4,.bool ((leI 0 t1.N)&&(leI t1.N 4503599627370496)))] [t1.d,(zKo.c v3)] ?_ ?_
  ·rcases tf (leI 0 t1.N) with g142|g142
   ·have c143:=leT g142
    refine st ?_
    simp[g142]
   have c144:=leF g142
   refine st ?_
   simp[g142]
  refine zAA<|zAD<|zAB ?_
  cases h
  simp
 refine cutA 199 0 [(1,.bool inWith2),(2,pT 0),(39,iI t1.Op),(92,.bool (eqI t1.Op 22))] [t1.d,(zKo.c v3)]<|spc h rfl (fun g146 h=>?_) fun g146 h=>?_
 ·obtain⟨v148,q149,h⟩:=bs h
  refine cut 199 0 [(4,.bool v148)] [t1.d,(zKo.c v3)] ?_ ?_
  ·refine st ?_
   simp
   have r150:=zJH fuel t1.S v148 q149
   try simp at r150
   refine cP r150 ?_
   simp
  refine zAA<|zAD<|zAB ?_
  cases h
  simp
 refine cutA 199 0 [(1,.bool inWith2),(2,pT 0),(39,iI t1.Op),(97,.bool (eqI t1.Op 25))] [t1.d,(zKo.c v3)]<|spc h rfl (fun g152 h=>?_) fun g152 h=>?_
 ·obtain⟨b157,q158,h⟩:=bs h
  refine cut 199 0 [(4,.bool b157)] [t1.d,(zKo.c v3)] ?_ ?_
  ·rcases sp q158 with ⟨g154,q158⟩|⟨g154,q158⟩
   ·obtain rfl:=oi q158
    refine st ?_
    simp[g154]
   obtain⟨v155,q156,q158⟩:=bs q158
   obtain rfl:=oi q158
   refine st ?_
   simp[g154]
   have r159:=zBH fuel t1.S v155 q156
   try simp[g154] at r159
   refine cP r159 ?_
   simp[g154]
  refine zAA<|zAD<|zAB ?_
  cases h
  simp
 refine cutA 199 0 [(1,.bool inWith2),(2,pT 0),(39,iI t1.Op),(107,.bool (eqI t1.Op 32))] [t1.d,(zKo.c v3)]<|spc h rfl (fun g161 h=>?_) fun g161 h=>?_
 ·refine cut 199 0 [(4,.bool ((leI 1 t1.N)&&(leI t1.N 12)))] [t1.d,(zKo.c v3)] ?_ ?_
  ·rcases tf (leI 1 t1.N) with g163|g163
   ·have c164:=leT g163
    refine st ?_
    simp[g163]
   have c165:=leF g163
   refine st ?_
   simp[g163]
  refine zAA<|zAD<|zAB ?_
  cases h
  simp
 refine cutA 199 0 [(1,.bool inWith2),(2,pT 0),(39,iI t1.Op),(117,.bool (eqI t1.Op 42))] [t1.d,(zKo.c v3)]<|spc h rfl (fun g167 h=>?_) fun g167 h=>?_
 ·obtain⟨b182,q183,h⟩:=bs h
  refine cut 199 0 [(4,.bool b182)] [t1.d,(zKo.c v3)] ?_ ?_
  ·obtain⟨v169,q170,q183⟩:=bs q183
   rcases sp q183 with ⟨g171,q183⟩|⟨g171,q183⟩
   ·rcases sp q183 with ⟨g172,q183⟩|⟨g172,q183⟩
    ·have c173:=leT g172
     refine zGB 0 3 rfl rfl rfl fun f174=>?_
     rw[zq4] at f174
     rcases sp q183 with ⟨g175,q183⟩|⟨g175,q183⟩
     ·have c176:=leT g175
      obtain⟨v177,q178,q183⟩:=bs q183
      obtain rfl:=oi q183
      refine st ?_
      simp[g171,g172,g175]
      have r184:=zBH fuel t1.S v169 q170
      try simp[g171,g172,g175] at r184
      refine cP r184 ?_
      simp[g171,g172,g175]
      have r185:=zER fuel t1.Names v177 q178
      try simp[g171,g172,g175] at r185
      refine cP r185 ?_
      simp[g171,g172,g175]
     have c179:=leF g175
     obtain rfl:=oi q183
     refine st ?_
     simp[g171,g172,g175]
     have r186:=zBH fuel t1.S v169 q170
     try simp[g171,g172,g175] at r186
     refine cP r186 ?_
     simp[g171,g172,g175]
    have c180:=leF g172
    refine zGB 0 3 rfl rfl rfl fun f181=>?_
    rw[zq4] at f181
    obtain rfl:=oi q183
    refine st ?_
    simp[g171,g172]
    have r187:=zBH fuel t1.S v169 q170
    try simp[g171,g172] at r187
    refine cP r187 ?_
    simp[g171,g172]
   obtain rfl:=oi q183
   refine st ?_
   simp[g171]
   have r188:=zBH fuel t1.S v169 q170
   try simp[g171] at r188
   refine cP r188 ?_
   simp[g171]
  refine zAA<|zAD<|zAB ?_
  cases h
  simp
 refine cutA 199 0 [(1,.bool inWith2),(2,pT 0),(39,iI t1.Op),(140,.bool (eqI t1.Op 43))] [t1.d,(zKo.c v3)]<|spc h rfl (fun g190 h=>?_) fun g190 h=>?_
 ·obtain⟨b201,q202,h⟩:=bs h
  refine cut 199 0 [(4,.bool b201)] [t1.d,(zKo.c v3)] ?_ ?_
  ·rcases sp q202 with ⟨g192,q202⟩|⟨g192,q202⟩
   ·rcases sp q202 with ⟨g193,q202⟩|⟨g193,q202⟩
    ·obtain⟨v194,q195,q202⟩:=bs q202
     obtain rfl:=oi q202
     refine st ?_
     simp[g192,g193]
     have r203:=zET fuel t1.Names v194 q195
     try simp[g192,g193] at r203
     refine cP r203 ?_
     simp[g192,g193]
    obtain rfl:=oi q202
    refine st ?_
    simp[g192,g193]
   obtain⟨v196,q197,q202⟩:=bs q202
   rcases sp q202 with ⟨g198,q202⟩|⟨g198,q202⟩
   ·obtain⟨v199,q200,q202⟩:=bs q202
    obtain rfl:=oi q202
    refine st ?_
    simp[g192,g198]
    have r204:=zBH fuel t1.S v196 q197
    try simp[g192,g198] at r204
    refine cP r204 ?_
    simp[g192,g198]
    have r205:=zET fuel t1.Names v199 q200
    try simp[g192,g198] at r205
    refine cP r205 ?_
    simp[g192,g198]
   obtain rfl:=oi q202
   refine st ?_
   simp[g192,g198]
   have r206:=zBH fuel t1.S v196 q197
   try simp[g192,g198] at r206
   refine cP r206 ?_
   simp[g192,g198]
  refine zAA<|zAD<|zAB ?_
  cases h
  simp
 refine zAF<|cutA 199 0 [(2,pT 0),(39,iI t1.Op),(162,.bool (eqI t1.Op 44))] [t1.d,(zKo.c v3)]<|spc h rfl (fun g208 h=>?_) fun g208 h=>?_
 ·refine zAC<|zAN<|zBn rfl (by simp[g208]) ?_
  obtain⟨b215,q216,h⟩:=bs h
  refine cut 199 0 [(4,.bool b215)] [t1.d,(zKo.c v3)] ?_ ?_
  ·obtain⟨v210,q211,q216⟩:=bs q216
   rcases sp q216 with ⟨g212,q216⟩|⟨g212,q216⟩
   ·obtain⟨v213,q214,q216⟩:=bs q216
    obtain rfl:=oi q216
    refine st ?_
    simp[g212]
    have r217:=zBH fuel t1.S v210 q211
    try simp[g212] at r217
    refine cP r217 ?_
    simp[g212]
    have r218:=zET fuel t1.Names v213 q214
    try simp[g212] at r218
    refine cP r218 ?_
    simp[g212]
   obtain rfl:=oi q216
   refine st ?_
   simp[g212]
   have r219:=zBH fuel t1.S v210 q211
   try simp[g212] at r219
   refine cP r219 ?_
   simp[g212]
  refine zAA<|zAD<|zAB ?_
  cases h
  simp
 refine zHZ 199 0 [(2,pT 0),(39,iI t1.Op),(162,.bool (eqI t1.Op 62))] [t1.d,(zKo.c v3)]<|spc h rfl (fun g221 h=>?_) fun g221 h=>?_
 ·have c222:=eqT g221
  obtain⟨b228,q229,h⟩:=bs h
  refine cut 199 0 [(4,.bool b228)] [t1.d,(zKo.c v3)] ?_ ?_
  ·obtain⟨v223,q224,q229⟩:=bs q229
   rcases sp q229 with ⟨g225,q229⟩|⟨g225,q229⟩
   ·obtain⟨v226,q227,q229⟩:=bs q229
    obtain rfl:=oi q229
    refine st ?_
    simp[g225]
    have r230:=zBH fuel t1.S v223 q224
    try simp[g225] at r230
    refine cP r230 ?_
    simp[g225]
    have r231:=zET fuel t1.Names v226 q227
    try simp[g225] at r231
    refine cP r231 ?_
    simp[g225]
   obtain rfl:=oi q229
   refine st ?_
   simp[g225]
   have r232:=zBH fuel t1.S v223 q224
   try simp[g225] at r232
   refine cP r232 ?_
   simp[g225]
  refine zAA<|zAD<|zAB ?_
  cases h
  simp
 have c233:=eqF g221
 refine zAF<|cutA 199 0 [(2,pT 0),(39,iI t1.Op),(173,.bool (eqI t1.Op 45))] [t1.d,(zKo.c v3)]<|spc h rfl (fun g234 h=>?_) fun g234 h=>?_
 ·refine zAC<|zAN<|zBn rfl (by simp[g234]) ?_
  obtain⟨v236,q237,h⟩:=bs h
  refine cut 199 0 [(4,.bool v236)] [t1.d,(zKo.c v3)] ?_ ?_
  ·refine st ?_
   simp
   have r238:=zBY fuel t1.S v236 q237
   try simp at r238
   refine cP r238 ?_
   simp
  refine zAA<|zAD<|zAB ?_
  cases h
  simp
 refine cutA 199 0 [(2,pT 0),(39,iI t1.Op),(173,.bool (eqI t1.Op 46))] [t1.d,(zKo.c v3)]<|spc h rfl (fun g240 h=>?_) fun g240 h=>?_
 ·refine zAC<|zAN<|zBn rfl (by simp[g240]) ?_
  obtain⟨v242,q243,h⟩:=bs h
  refine cut 199 0 [(4,.bool v242)] [t1.d,(zKo.c v3)] ?_ ?_
  ·refine st ?_
   simp
   have r244:=zBY fuel t1.S v242 q243
   try simp at r244
   refine cP r244 ?_
   simp
  refine zAA<|zAD<|zAB ?_
  cases h
  simp
 refine cutA 199 0 [(2,pT 0),(39,iI t1.Op),(173,.bool (eqI t1.Op 47))] [t1.d,(zKo.c v3)]<|spc h rfl (fun g246 h=>?_) fun g246 h=>?_
 ·refine zAC<|zAN<|zBn rfl (by simp[g246]) ?_
  obtain⟨v248,q249,h⟩:=bs h
  refine cut 199 0 [(4,.bool v248)] [t1.d,(zKo.c v3)] ?_ ?_
  ·refine st ?_
   simp
   have r250:=zBY fuel t1.S v248 q249
   try simp at r250
   refine cP r250 ?_
   simp
  refine zAA<|zAD<|zAB ?_
  cases h
  simp
 refine cutA 199 0 [(2,pT 0),(39,iI t1.Op),(173,.bool (eqI t1.Op 50))] [t1.d,(zKo.c v3)]<|spc h rfl (fun g252 h=>?_) fun g252 h=>?_
 ·refine zAC<|zAN<|zBn rfl (by simp[g252]) ?_
  obtain⟨v254,q255,h⟩:=bs h
  refine cut 199 0 [(4,.bool v254)] [t1.d,(zKo.c v3)] ?_ ?_
  ·refine st ?_
   simp
   have r256:=zBY fuel t1.S v254 q255
   try simp at r256
   refine cP r256 ?_
   simp
  refine zAA<|zAD<|zAB ?_
  cases h
  simp
 refine cutA 199 0 [(2,pT 0),(39,iI t1.Op),(173,.bool (eqI t1.Op 63))] [t1.d,(zKo.c v3)]<|spc h rfl (fun g258 h=>?_) fun g258 h=>?_
 ·refine zAC<|zAN<|zBn rfl (by simp[g258]) ?_
  obtain⟨v260,q261,h⟩:=bs h
  refine cut 199 0 [(4,.bool v260)] [t1.d,(zKo.c v3)] ?_ ?_
  ·refine st ?_
   simp
   have r262:=zBY fuel t1.S v260 q261
   try simp at r262
   refine cP r262 ?_
   simp
  refine zAA<|zAD<|zAB ?_
  cases h
  simp
 refine zHZ 199 0 [(2,pT 0),(39,iI t1.Op),(173,.bool (eqI t1.Op 64))] [t1.d,(zKo.c v3)]<|spc h rfl (fun g264 h=>?_) fun g264 h=>?_
 ·have c265:=eqT g264
  obtain⟨v266,q267,h⟩:=bs h
  refine cut 199 0 [(4,.bool v266)] [t1.d,(zKo.c v3)] ?_ ?_
  ·refine st ?_
   simp
   have r268:=zBY fuel t1.S v266 q267
   try simp at r268
   refine cP r268 ?_
   simp
  refine zAA<|zAD<|zAB ?_
  cases h
  simp
 have c269:=eqF g264
 refine zAF<|cutA 199 0 [(2,pT 0),(39,iI t1.Op),(183,.bool (eqI t1.Op 73))] [t1.d,(zKo.c v3)]<|spc h rfl (fun g270 h=>?_) fun g270 h=>?_
 ·refine zAC<|zAN<|zBn rfl (by simp[g270]) ?_
  obtain⟨b278,q279,h⟩:=bs h
  refine cut 199 0 [(4,.bool b278)] [t1.d,(zKo.c v3)] ?_ ?_
  ·obtain⟨v272,q273,q279⟩:=bs q279
   rcases sp q279 with ⟨g274,q279⟩|⟨g274,q279⟩
   ·rcases sp q279 with ⟨g275,q279⟩|⟨g275,q279⟩
    ·have c276:=eqT g275
     obtain rfl:=oi q279
     refine st ?_
     simp[g274,g275]
     have r280:=zBY fuel t1.S v272 q273
     try simp[g274,g275] at r280
     refine cP r280 ?_
     simp[g274,g275]
    have c277:=eqF g275
    obtain rfl:=oi q279
    refine st ?_
    simp[g274,g275]
    have r281:=zBY fuel t1.S v272 q273
    try simp[g274,g275] at r281
    refine cP r281 ?_
    simp[g274,g275]
   obtain rfl:=oi q279
   refine st ?_
   simp[g274]
   have r282:=zBY fuel t1.S v272 q273
   try simp[g274] at r282
   refine cP r282 ?_
   simp[g274]
  refine zAA<|zAD<|zAB ?_
  cases h
  simp
 refine zHZ 199 0 [(2,pT 0),(183,.bool (eqI t1.Op 83))] [t1.d,(zKo.c v3)]<|spc h rfl (fun g284 h=>?_) fun g284 h=>?_
 ·have c285:=eqT g284
  obtain⟨b292,q293,h⟩:=bs h
  refine cut 199 0 [(4,.bool b292)] [t1.d,(zKo.c v3)] ?_ ?_
  ·obtain⟨v286,q287,q293⟩:=bs q293
   rcases sp q293 with ⟨g288,q293⟩|⟨g288,q293⟩
   ·rcases sp q293 with ⟨g289,q293⟩|⟨g289,q293⟩
    ·have c290:=eqT g289
     obtain rfl:=oi q293
     refine st ?_
     simp[g288,g289]
     have r294:=zBY fuel t1.S v286 q287
     try simp[g288,g289] at r294
     refine cP r294 ?_
     simp[g288,g289]
    have c291:=eqF g289
    obtain rfl:=oi q293
    refine st ?_
    simp[g288,g289]
    have r295:=zBY fuel t1.S v286 q287
    try simp[g288,g289] at r295
    refine cP r295 ?_
    simp[g288,g289]
   obtain rfl:=oi q293
   refine st ?_
   simp[g288]
   have r296:=zBY fuel t1.S v286 q287
   try simp[g288] at r296
   refine cP r296 ?_
   simp[g288]
  refine zAA<|zAD<|zAB ?_
  cases h
  simp
 have c297:=eqF g284
 refine zAC<|zDb<|zAN<|cutA 199 0 [(4,.bool true)] [t1.d,(zKo.c v3)]<|zAA ?_
 cases h
 simp
theorem zId(x1:zKr)(c2:Int)(r:Bool)(h:zE3 x1 c2=some r):Raw Tryz.prog 124 [.agg x1.d,pT 0] [[iI c2]] (.bool r) [[iI c2]]:=by
 rw[zE3] at h
 refine zA9 Tryz.func124 (by rfl) (by rfl) (by simp) (by simp)<|cutA 8 1 [(1,pT 0),(2,pT 1)] [[iI c2],x1.d] ?_
 obtain⟨v3,q4,h⟩:=bs h
 refine cut 8 1 [(3,.bool (!v3))] [[iI c2],x1.d] ?_ ?_
 ·refine st ?_
  simp
  have r5:=zA6 c2 x1 v3 q4
  try simp at r5
  refine cP r5 ?_
  simp
 refine zAA ?_
 cases h
 simp
theorem zEW(fuel:Nat)(s1:(List zKr))(c2:Int)(r:Int)(h:zCE fuel s1 c2=some r):Raw Tryz.prog 101 [.sl (s1.map zKr.c),.fn (.func 124) [] [pT 0]] [[iI c2]] (iI r) [[iI c2]]:=by
 rw[zCE] at h
 refine zA9 Tryz.func101 (by rfl) (by rfl) (by simp) (by simp)<|cutA 19 1 [(0,.sl (s1.map zKr.c)),(1,.fn (.func 124) [] [pT 0])] [[iI c2]]<|zAF<|cutA 19 1 [(0,.sl (s1.map zKr.c)),(1,.fn (.func 124) [] [pT 0]),(7,iI s1.length),(8,iI 0)] [[iI c2]]<|zAP ?_
 obtain⟨o5,l6,h⟩:=bs h
 refine zCd (fun p:Nat×Nat=>mkS 19 1 [(0,.sl (s1.map zKr.c)),(1,.fn (.func 124) [] [pT 0]),(7,iI s1.length),(8,iI p.2)] [[iI c2]]) (fun p=>zAs s1 c2 p.1 p.2=some o5) (fun p=>p.1) (fuel,0) l6 (zBe (by simp)) ?_
 rintro⟨k7,i3⟩ l6
 try dsimp only at l6 ⊢
 cases k7 with
 |zero=>
  rw[zAs] at l6;cases l6
 |succ k8=>
  rw[zAs] at l6
  refine cutA 19 1 [(0,.sl (s1.map zKr.c)),(1,.fn (.func 124) [] [pT 0]),(7,iI s1.length),(8,iI i3),(9,.bool (ltI i3 s1.length))] [[iI c2]]<|zAF<|spc l6 rfl (fun g9 l6=>?_) fun g9 l6=>?_
  ·have c10:=ltT g9
   refine zGm 0 rfl fun f11=>?_
   rw[zq4] at f11
   refine zAC<|zAN<|zAF<|zAP<|cutA 19 1 [(0,.sl (s1.map zKr.c)),(1,.fn (.func 124) [] [pT 0]),(5,iI i3),(7,iI s1.length),(8,iI i3)] [[iI c2]] ?_
   obtain⟨x12,q13,l6⟩:=bs l6
   obtain⟨v14,q15,l6⟩:=bs l6
   refine cut 19 1 [(0,.sl (s1.map zKr.c)),(1,.fn (.func 124) [] [pT 0]),(5,iI i3),(7,iI s1.length),(8,iI i3),(16,.bool v14)] [[iI c2]] ?_ ?_
   ·refine st ?_
    simp[q13]
    have r18:=(zId x12 c2 v14 q15).frame [0] [[iI c2]] (by simp)
    try simp[q13] at r18
    refine zAK r18 (by simp[q13]) rfl ?_
    simp[q13]
   refine spc l6 rfl (fun g16 l6=>?_) fun g16 l6=>?_
   ·refine cutA 19 1 [(4,iI i3)] [[iI c2]]<|zAA<|zAD<|zAB ?_
    replace h:=retL l6 h
    refine zAB<|zAD<|zAB ?_
    cases h
    simp
   refine zAC<|zDb<|zAN ?_
   have q17:Rng .i64 (((i3:Nat):Int)+1):=by simp only[Rng,inR];omega
   try simp at q17
   refine last 19 1 [(0,.sl (s1.map zKr.c)),(1,.fn (.func 124) [] [pT 0]),(7,iI s1.length),(8,iI ((i3+1:Nat):Int))] [[iI c2]] (st (by simp[q17])) fun zz hs=>?_
   exact⟨(k8,i3+1),hs,l6,by simp⟩
  have c19:=ltF g9
  refine zGm 0 rfl fun f20=>?_
  rw[zq4] at f20
  refine zBv<|zAm ?_
  rcases o5 with o5|o4
  ·cases l6
  have q21:=Sum.inr.inj (zqa l6)
  replace h:=zCP h
  refine zAm<|zBu<|zDI (t:=mkS 19 1 [] [[iI c2]]) ?_ (zBe (by simp))
  refine cutA 19 1 [(4,iI (-1))] [[iI c2]]<|zAA ?_
  cases h
  simp
theorem zD2(fuel:Nat)(s1:(List zKr))(c2:Int)(r:Bool)(h:zA5 fuel s1 c2=some r):Raw Tryz.prog 70 [.sl (s1.map zKr.c),.fn (.func 124) [] [pT 0]] [[iI c2]] (.bool r) [[iI c2]]:=by
 rw[zA5] at h
 refine zA9 Tryz.func70 (by rfl) (by rfl) (by simp) (by simp)<|cutA 9 1 [(0,.sl (s1.map zKr.c)),(1,.fn (.func 124) [] [pT 0])] [[iI c2]] ?_
 obtain⟨v3,q4,h⟩:=bs h
 refine cut 9 1 [(4,.bool (leI 0 v3))] [[iI c2]] ?_ ?_
 ·refine st ?_
  simp
  have r5:=(zEW fuel s1 c2 v3 q4).frame [0] [[iI c2]] (by simp)
  try simp at r5
  refine zAK r5 (by simp) rfl ?_
  simp
 refine zAA ?_
 cases h
 simp
theorem zC7(fuel:Nat)(l1:(List zKr))(cat2:Int)(least3:Int)(most4:Int)(r:Bool)(h:zCN fuel l1 cat2 least3 most4=some r):Pure Tryz.prog 97 [.sl (l1.map zKr.c),iI cat2,iI least3,iI most4] (.bool r):=by
 rw[zCN] at h
 refine zAQ Tryz.func97 (by rfl) (by rfl) (by simp) (by simp) (by simp)<|cutA 25 0 [(0,.sl (l1.map zKr.c)),(2,iI least3),(3,iI most4),(5,pT 0)] [[iI cat2]] ?_
 obtain⟨b15,q16,h⟩:=bs h
 refine cut 25 0 [(8,.bool b15)] [[iI cat2]] ?_ ?_
 ·rcases sp q16 with ⟨g5,q16⟩|⟨g5,q16⟩
  ·have c6:=leT g5
   refine zGm 0 rfl fun f7=>?_
   rw[zq4] at f7
   rcases sp q16 with ⟨g8,q16⟩|⟨g8,q16⟩
   ·have c9:=leT g8
    obtain⟨v10,q11,q16⟩:=bs q16
    obtain rfl:=oi q16
    refine st ?_
    simp[g5,g8]
    have r17:=(zD2 fuel l1 cat2 v10 q11).frame [0] [[iI cat2]] (by simp)
    try simp[g5,g8] at r17
    refine zAK r17 (by simp[g5,g8]) rfl ?_
    simp[g5,g8]
   have c12:=leF g8
   obtain rfl:=oi q16
   refine st ?_
   simp[g5,g8]
  have c13:=leF g5
  refine zGm 0 rfl fun f14=>?_
  rw[zq4] at f14
  obtain rfl:=oi q16
  refine st ?_
  simp[g5]
 refine zAA ?_
 cases h
 simp
theorem zAt(fuel:Nat)(t1:zKr)(cats2:(List Int))(r:Bool)(h:zAd fuel t1 cats2=some r):Pure Tryz.prog 98 [.agg t1.d,.sl (cats2.map (cI .i64))] (.bool r):=by
 rw[zAd] at h
 refine zAQ Tryz.func98 (by rfl) (by rfl) (by simp) (by simp) (by simp)<|cutA 29 0 [(1,.sl (cats2.map (cI .i64))),(2,pT 0)] [t1.d]<|zAF<|cutA 29 0 [(1,.sl (cats2.map (cI .i64))),(2,pT 0),(12,.bool (!(eqI t1.L.length cats2.length)))] [t1.d] ?_
 rcases sp h with ⟨g3,h⟩|⟨g3,h⟩
 ·have g4:=notT g3
  have c5:=eqF g4
  refine zBn rfl g3<|cutA 29 0 [(4,.bool false)] [t1.d]<|zAA<|zAB ?_
  cases h
  simp
 have g6:=notF g3
 have c7:=eqT g6
 refine condF rfl g3<|zAC<|zAN<|zAF<|cutA 29 0 [(2,pT 0),(13,.sl (cats2.map (cI .i64))),(14,iI cats2.length),(15,iI 0)] [t1.d]<|zAP ?_
 obtain⟨o10,l11,h⟩:=bs h
 refine zCd (fun p:Nat×Nat=>mkS 29 0 [(2,pT 0),(13,.sl (cats2.map (cI .i64))),(14,iI cats2.length),(15,iI p.2)] [t1.d]) (fun p=>zCi t1 cats2 p.1 p.2=some o10) (fun p=>p.1) (fuel,0) l11 (zBe (by simp)) ?_
 rintro⟨k12,i8⟩ l11
 try dsimp only at l11 ⊢
 cases k12 with
 |zero=>
  rw[zCi] at l11;cases l11
 |succ k13=>
  rw[zCi] at l11
  refine cutA 29 0 [(2,pT 0),(13,.sl (cats2.map (cI .i64))),(14,iI cats2.length),(15,iI i8),(16,.bool (ltI i8 cats2.length))] [t1.d]<|zAF<|spc l11 rfl (fun g14 l11=>?_) fun g14 l11=>?_
  ·have c15:=ltT g14
   refine zGm 13 rfl fun f16=>?_
   rw[zq4] at f16
   refine zAC<|zAN<|zAF<|zAP ?_
   obtain⟨x17,q18,l11⟩:=bs l11
   refine cut 29 0 [(2,pT 0),(5,iI i8),(6,iI x17),(13,.sl (cats2.map (cI .i64))),(14,iI cats2.length),(15,iI i8)] [t1.d] (st (by simp[q18])) ?_
   obtain⟨x19,q20,l11⟩:=bs l11
   obtain⟨v21,q22,l11⟩:=bs l11
   refine cut 29 0 [(2,pT 0),(13,.sl (cats2.map (cI .i64))),(14,iI cats2.length),(15,iI i8),(27,.bool (!v21))] [t1.d] ?_ ?_
   ·refine st ?_
    simp[q20]
    have r27:=zA6 x17 x19 v21 q22
    try simp[q20] at r27
    refine cP r27 ?_
    simp[q20]
   refine spc l11 rfl (fun g23 l11=>?_) fun g23 l11=>?_
   ·have g24:=notT g23
    refine cutA 29 0 [(4,.bool false)] [t1.d]<|zAA<|zAD<|zAB ?_
    replace h:=retL l11 h
    refine zAB<|zAD<|zAB ?_
    cases h
    simp
   have g25:=notF g23
   refine zAC<|zDb<|zAN ?_
   have q26:Rng .i64 (((i8:Nat):Int)+1):=by simp only[Rng,inR];omega
   try simp at q26
   refine last 29 0 [(2,pT 0),(13,.sl (cats2.map (cI .i64))),(14,iI cats2.length),(15,iI ((i8+1:Nat):Int))] [t1.d] (st (by simp[q26])) fun zz hs=>?_
   exact⟨(k13,i8+1),hs,l11,by simp⟩
  have c28:=ltF g14
  refine zGm 13 rfl fun f29=>?_
  rw[zq4] at f29
  refine zBv<|zAm ?_
  rcases o10 with o10|o9
  ·cases l11
  have q30:=Sum.inr.inj (zqa l11)
  replace h:=zCP h
  refine zAm<|zBu<|zDI (t:=mkS 29 0 [] [t1.d]) ?_ (zBe (by simp))
  refine cutA 29 0 [(4,.bool true)] [t1.d]<|zAA ?_
  cases h
  simp
theorem zHG(fuel:Nat)(s1:(List Int))(v2:Int)(r:Int)(h:zDy fuel s1 v2=some r):Pure Tryz.prog 138 [.sl (s1.map (cI .i64)),iI v2] (iI r):=by
 rw[zDy] at h
 refine zAQ Tryz.func138 (by rfl) (by rfl) (by simp) (by simp) (by simp)<|cutA 19 0 [(0,.sl (s1.map (cI .i64))),(1,iI v2)] []<|zAF<|cutA 19 0 [(0,.sl (s1.map (cI .i64))),(1,iI v2),(7,iI s1.length),(8,iI 0)] []<|zAP ?_
 obtain⟨o5,l6,h⟩:=bs h
 refine zCd (fun p:Nat×Nat=>mkS 19 0 [(0,.sl (s1.map (cI .i64))),(1,iI v2),(7,iI s1.length),(8,iI p.2)] []) (fun p=>zCM s1 v2 p.1 p.2=some o5) (fun p=>p.1) (fuel,0) l6 (zBe (by simp)) ?_
 rintro⟨k7,i3⟩ l6
 try dsimp only at l6 ⊢
 cases k7 with
 |zero=>
  rw[zCM] at l6;cases l6
 |succ k8=>
  rw[zCM] at l6
  refine cutA 19 0 [(0,.sl (s1.map (cI .i64))),(1,iI v2),(7,iI s1.length),(8,iI i3),(9,.bool (ltI i3 s1.length))] []<|zAF<|spc l6 rfl (fun g9 l6=>?_) fun g9 l6=>?_
  ·have c10:=ltT g9
   refine zGm 0 rfl fun f11=>?_
   rw[zq4] at f11
   refine zAC<|zAN<|zAF<|zAP<|cutA 19 0 [(0,.sl (s1.map (cI .i64))),(1,iI v2),(5,iI i3),(7,iI s1.length),(8,iI i3)] [] ?_
   obtain⟨x12,q13,l6⟩:=bs l6
   refine cut 19 0 [(0,.sl (s1.map (cI .i64))),(1,iI v2),(5,iI i3),(7,iI s1.length),(8,iI i3),(16,.bool (eqI v2 x12))] [] (st (by simp[q13]))<|spc l6 rfl (fun g14 l6=>?_) fun g14 l6=>?_
   ·have c15:=eqT g14
    refine cutA 19 0 [(4,iI i3)] []<|zAA<|zAD<|zAB ?_
    replace h:=retL l6 h
    refine zAB<|zAD<|zAB ?_
    cases h
    simp
   have c16:=eqF g14
   refine zAC<|zDb<|zAN ?_
   have q17:Rng .i64 (((i3:Nat):Int)+1):=by simp only[Rng,inR];omega
   try simp at q17
   refine last 19 0 [(0,.sl (s1.map (cI .i64))),(1,iI v2),(7,iI s1.length),(8,iI ((i3+1:Nat):Int))] [] (st (by simp[q17])) fun zz hs=>?_
   exact⟨(k8,i3+1),hs,l6,by simp⟩
  have c18:=ltF g9
  refine zGm 0 rfl fun f19=>?_
  rw[zq4] at f19
  refine zBv<|zAm ?_
  rcases o5 with o5|o4
  ·cases l6
  have q20:=Sum.inr.inj (zqa l6)
  replace h:=zCP h
  refine zAm<|zBu<|zDI (t:=mkS 19 0 [] []) ?_ (zBe (by simp))
  refine cutA 19 0 [(4,iI (-1))] []<|zAA ?_
  cases h
  simp
theorem zGD(fuel:Nat)(s1:(List Int))(v2:Int)(r:Bool)(h:zCg fuel s1 v2=some r):Pure Tryz.prog 126 [.sl (s1.map (cI .i64)),iI v2] (.bool r):=by
 rw[zCg] at h
 refine zAQ Tryz.func126 (by rfl) (by rfl) (by simp) (by simp) (by simp)<|cutA 9 0 [(0,.sl (s1.map (cI .i64))),(1,iI v2)] [] ?_
 obtain⟨v3,q4,h⟩:=bs h
 refine cut 9 0 [(4,.bool (leI 0 v3))] [] ?_ ?_
 ·refine st ?_
  simp
  have r5:=zHG fuel s1 v2 v3 q4
  try simp at r5
  refine cP r5 ?_
  simp
 refine zAA ?_
 cases h
 simp
theorem zIc(fuel:Nat)(x1:zKr)(c2:(List Int))(r:Bool)(h:zD8 fuel x1 c2=some r):Raw Tryz.prog 125 [.agg x1.d,pT 0] [[.sl (c2.map (cI .i64))]] (.bool r) [[.sl (c2.map (cI .i64))]]:=by
 rw[zD8] at h
 refine zA9 Tryz.func125 (by rfl) (by rfl) (by simp) (by simp)<|cutA 9 1 [(1,pT 0),(2,pT 1)] [[.sl (c2.map (cI .i64))],x1.d] ?_
 obtain⟨v3,q4,h⟩:=bs h
 refine cut 9 1 [(3,.bool (!v3))] [[.sl (c2.map (cI .i64))],x1.d] ?_ ?_
 ·refine st ?_
  simp
  have r5:=zGD fuel c2 x1.Op v3 q4
  try simp at r5
  refine cP r5 ?_
  simp
 refine zAA ?_
 cases h
 simp
theorem zEV(fuel:Nat)(s1:(List zKr))(c2:(List Int))(r:Int)(h:zCD fuel s1 c2=some r):Raw Tryz.prog 101 [.sl (s1.map zKr.c),.fn (.func 125) [] [pT 0]] [[.sl (c2.map (cI .i64))]] (iI r) [[.sl (c2.map (cI .i64))]]:=by
 rw[zCD] at h
 refine zA9 Tryz.func101 (by rfl) (by rfl) (by simp) (by simp)<|cutA 19 1 [(0,.sl (s1.map zKr.c)),(1,.fn (.func 125) [] [pT 0])] [[.sl (c2.map (cI .i64))]]<|zAF<|cutA 19 1 [(0,.sl (s1.map zKr.c)),(1,.fn (.func 125) [] [pT 0]),(7,iI s1.length),(8,iI 0)] [[.sl (c2.map (cI .i64))]]<|zAP ?_
 obtain⟨o5,l6,h⟩:=bs h
 refine zCd (fun p:Nat×Nat=>mkS 19 1 [(0,.sl (s1.map zKr.c)),(1,.fn (.func 125) [] [pT 0]),(7,iI s1.length),(8,iI p.2)] [[.sl (c2.map (cI .i64))]]) (fun p=>zAr fuel s1 c2 p.1 p.2=some o5) (fun p=>p.1) (fuel,0) l6 (zBe (by simp)) ?_
 rintro⟨k7,i3⟩ l6
 try dsimp only at l6 ⊢
 cases k7 with
 |zero=>
  rw[zAr] at l6;cases l6
 |succ k8=>
  rw[zAr] at l6
  refine cutA 19 1 [(0,.sl (s1.map zKr.c)),(1,.fn (.func 125) [] [pT 0]),(7,iI s1.length),(8,iI i3),(9,.bool (ltI i3 s1.length))] [[.sl (c2.map (cI .i64))]]<|zAF<|spc l6 rfl (fun g9 l6=>?_) fun g9 l6=>?_
  ·have c10:=ltT g9
   refine zGm 0 rfl fun f11=>?_
   rw[zq4] at f11
   refine zAC<|zAN<|zAF<|zAP<|cutA 19 1 [(0,.sl (s1.map zKr.c)),(1,.fn (.func 125) [] [pT 0]),(5,iI i3),(7,iI s1.length),(8,iI i3)] [[.sl (c2.map (cI .i64))]] ?_
   obtain⟨x12,q13,l6⟩:=bs l6
   obtain⟨v14,q15,l6⟩:=bs l6
   refine cut 19 1 [(0,.sl (s1.map zKr.c)),(1,.fn (.func 125) [] [pT 0]),(5,iI i3),(7,iI s1.length),(8,iI i3),(16,.bool v14)] [[.sl (c2.map (cI .i64))]] ?_ ?_
   ·refine st ?_
    simp[q13]
    have r18:=(zIc fuel x12 c2 v14 q15).frame [0] [[.sl (c2.map (cI .i64))]] (by simp)
    try simp[q13] at r18
    refine zAK r18 (by simp[q13]) rfl ?_
    simp[q13]
   refine spc l6 rfl (fun g16 l6=>?_) fun g16 l6=>?_
   ·refine cutA 19 1 [(4,iI i3)] [[.sl (c2.map (cI .i64))]]<|zAA<|zAD<|zAB ?_
    replace h:=retL l6 h
    refine zAB<|zAD<|zAB ?_
    cases h
    simp
   refine zAC<|zDb<|zAN ?_
   have q17:Rng .i64 (((i3:Nat):Int)+1):=by simp only[Rng,inR];omega
   try simp at q17
   refine last 19 1 [(0,.sl (s1.map zKr.c)),(1,.fn (.func 125) [] [pT 0]),(7,iI s1.length),(8,iI ((i3+1:Nat):Int))] [[.sl (c2.map (cI .i64))]] (st (by simp[q17])) fun zz hs=>?_
   exact⟨(k8,i3+1),hs,l6,by simp⟩
  have c19:=ltF g9
  refine zGm 0 rfl fun f20=>?_
  rw[zq4] at f20
  refine zBv<|zAm ?_
  rcases o5 with o5|o4
  ·cases l6
  have q21:=Sum.inr.inj (zqa l6)
  replace h:=zCP h
  refine zAm<|zBu<|zDI (t:=mkS 19 1 [] [[.sl (c2.map (cI .i64))]]) ?_ (zBe (by simp))
  refine cutA 19 1 [(4,iI (-1))] [[.sl (c2.map (cI .i64))]]<|zAA ?_
  cases h
  simp
theorem zD1(fuel:Nat)(s1:(List zKr))(c2:(List Int))(r:Bool)(h:zBQ fuel s1 c2=some r):Raw Tryz.prog 70 [.sl (s1.map zKr.c),.fn (.func 125) [] [pT 0]] [[.sl (c2.map (cI .i64))]] (.bool r) [[.sl (c2.map (cI .i64))]]:=by
 rw[zBQ] at h
 refine zA9 Tryz.func70 (by rfl) (by rfl) (by simp) (by simp)<|cutA 9 1 [(0,.sl (s1.map zKr.c)),(1,.fn (.func 125) [] [pT 0])] [[.sl (c2.map (cI .i64))]] ?_
 obtain⟨v3,q4,h⟩:=bs h
 refine cut 9 1 [(4,.bool (leI 0 v3))] [[.sl (c2.map (cI .i64))]] ?_ ?_
 ·refine st ?_
  simp
  have r5:=(zEV fuel s1 c2 v3 q4).frame [0] [[.sl (c2.map (cI .i64))]] (by simp)
  try simp at r5
  refine zAK r5 (by simp) rfl ?_
  simp
 refine zAA ?_
 cases h
 simp
theorem zCt(fuel:Nat)(l1:(List zKr))(ops2:(List Int))(r:Bool)(h:zCW fuel l1 ops2=some r):Pure Tryz.prog 99 [.sl (l1.map zKr.c),.sl (ops2.map (cI .i64))] (.bool r):=by
 rw[zCW] at h
 refine zAQ Tryz.func99 (by rfl) (by rfl) (by simp) (by simp) (by simp)<|cutA 9 0 [(0,.sl (l1.map zKr.c)),(3,pT 0)] [[.sl (ops2.map (cI .i64))]] ?_
 obtain⟨v3,q4,h⟩:=bs h
 refine cut 9 0 [(4,.bool (!v3))] [[.sl (ops2.map (cI .i64))]] ?_ ?_
 ·refine st ?_
  simp
  have r5:=(zD1 fuel l1 ops2 v3 q4).frame [0] [[.sl (ops2.map (cI .i64))]] (by simp)
  try simp at r5
  refine zAK r5 (by simp) rfl ?_
  simp
 refine zAA ?_
 cases h
 simp
theorem zHe(y1:zKr)(w2:zKr)(r:Bool)(h:zEE y1 w2=some r):Raw Tryz.prog 127 [.agg y1.d,pT 0] [w2.d] (.bool r) [w2.d]:=by
 rw[zEE] at h
 refine zA9 Tryz.func127 (by rfl) (by rfl) (by simp) (by simp)<|cutA 9 1 [(1,pT 0),(2,pT 1)] [w2.d,y1.d]<|cutA 9 1 [(3,.bool (eqS w2.S y1.S))] [w2.d,y1.d]<|zAA ?_
 cases h
 simp
theorem zEG(fuel:Nat)(s1:(List zKr))(w2:zKr)(r:Int)(h:zBw fuel s1 w2=some r):Raw Tryz.prog 101 [.sl (s1.map zKr.c),.fn (.func 127) [] [pT 0]] [w2.d] (iI r) [w2.d]:=by
 rw[zBw] at h
 refine zA9 Tryz.func101 (by rfl) (by rfl) (by simp) (by simp)<|cutA 19 1 [(0,.sl (s1.map zKr.c)),(1,.fn (.func 127) [] [pT 0])] [w2.d]<|zAF<|cutA 19 1 [(0,.sl (s1.map zKr.c)),(1,.fn (.func 127) [] [pT 0]),(7,iI s1.length),(8,iI 0)] [w2.d]<|zAP ?_
 obtain⟨o5,l6,h⟩:=bs h
 refine zCd (fun p:Nat×Nat=>mkS 19 1 [(0,.sl (s1.map zKr.c)),(1,.fn (.func 127) [] [pT 0]),(7,iI s1.length),(8,iI p.2)] [w2.d]) (fun p=>zAp s1 w2 p.1 p.2=some o5) (fun p=>p.1) (fuel,0) l6 (zBe (by simp)) ?_
 rintro⟨k7,i3⟩ l6
 try dsimp only at l6 ⊢
 cases k7 with
 |zero=>
  rw[zAp] at l6;cases l6
 |succ k8=>
  rw[zAp] at l6
  refine cutA 19 1 [(0,.sl (s1.map zKr.c)),(1,.fn (.func 127) [] [pT 0]),(7,iI s1.length),(8,iI i3),(9,.bool (ltI i3 s1.length))] [w2.d]<|zAF<|spc l6 rfl (fun g9 l6=>?_) fun g9 l6=>?_
  ·have c10:=ltT g9
   refine zGm 0 rfl fun f11=>?_
   rw[zq4] at f11
   refine zAC<|zAN<|zAF<|zAP<|cutA 19 1 [(0,.sl (s1.map zKr.c)),(1,.fn (.func 127) [] [pT 0]),(5,iI i3),(7,iI s1.length),(8,iI i3)] [w2.d] ?_
   obtain⟨x12,q13,l6⟩:=bs l6
   obtain⟨v14,q15,l6⟩:=bs l6
   refine cut 19 1 [(0,.sl (s1.map zKr.c)),(1,.fn (.func 127) [] [pT 0]),(5,iI i3),(7,iI s1.length),(8,iI i3),(16,.bool v14)] [w2.d] ?_ ?_
   ·refine st ?_
    simp[q13]
    have r18:=(zHe x12 w2 v14 q15).frame [0] [w2.d] (by simp)
    try simp[q13] at r18
    refine zAK r18 (by simp[q13]) rfl ?_
    simp[q13]
   refine spc l6 rfl (fun g16 l6=>?_) fun g16 l6=>?_
   ·refine cutA 19 1 [(4,iI i3)] [w2.d]<|zAA<|zAD<|zAB ?_
    replace h:=retL l6 h
    refine zAB<|zAD<|zAB ?_
    cases h
    simp
   refine zAC<|zDb<|zAN ?_
   have q17:Rng .i64 (((i3:Nat):Int)+1):=by simp only[Rng,inR];omega
   try simp at q17
   refine last 19 1 [(0,.sl (s1.map zKr.c)),(1,.fn (.func 127) [] [pT 0]),(7,iI s1.length),(8,iI ((i3+1:Nat):Int))] [w2.d] (st (by simp[q17])) fun zz hs=>?_
   exact⟨(k8,i3+1),hs,l6,by simp⟩
  have c19:=ltF g9
  refine zGm 0 rfl fun f20=>?_
  rw[zq4] at f20
  refine zBv<|zAm ?_
  rcases o5 with o5|o4
  ·cases l6
  have q21:=Sum.inr.inj (zqa l6)
  replace h:=zCP h
  refine zAm<|zBu<|zDI (t:=mkS 19 1 [] [w2.d]) ?_ (zBe (by simp))
  refine cutA 19 1 [(4,iI (-1))] [w2.d]<|zAA ?_
  cases h
  simp
theorem zDu(fuel:Nat)(s1:(List zKr))(w2:zKr)(r:Bool)(h:zAq fuel s1 w2=some r):Raw Tryz.prog 70 [.sl (s1.map zKr.c),.fn (.func 127) [] [pT 0]] [w2.d] (.bool r) [w2.d]:=by
 rw[zAq] at h
 refine zA9 Tryz.func70 (by rfl) (by rfl) (by simp) (by simp)<|cutA 9 1 [(0,.sl (s1.map zKr.c)),(1,.fn (.func 127) [] [pT 0])] [w2.d] ?_
 obtain⟨v3,q4,h⟩:=bs h
 refine cut 9 1 [(4,.bool (leI 0 v3))] [w2.d] ?_ ?_
 ·refine st ?_
  simp
  have r5:=(zEG fuel s1 w2 v3 q4).frame [0] [w2.d] (by simp)
  try simp at r5
  refine zAK r5 (by simp) rfl ?_
  simp
 refine zAA ?_
 cases h
 simp
theorem zIg(fuel:Nat)(l1:(List zKr))(r:Bool)(h:zEA fuel l1=some r):Pure Tryz.prog 100 [.sl (l1.map zKr.c)] (.bool r):=by
 rw[zEA] at h
 refine zAQ Tryz.func100 (by rfl) (by rfl) (by simp) (by simp) (by simp)<|cutA 18 0 [(0,.sl (l1.map zKr.c))] []<|zAF<|cutA 18 0 [(0,.sl (l1.map zKr.c)),(5,.sl (l1.map zKr.c)),(6,iI l1.length),(7,iI 0)] []<|zAP ?_
 obtain⟨o4,l5,h⟩:=bs h
 refine zCd (fun p:Nat×Nat=>mkS 18 0 [(0,.sl (l1.map zKr.c)),(5,.sl (l1.map zKr.c)),(6,iI l1.length),(7,iI p.2)] []) (fun p=>zCr fuel l1 p.1 p.2=some o4) (fun p=>p.1) (fuel,0) l5 (zBe (by simp)) ?_
 rintro⟨k6,i2⟩ l5
 try dsimp only at l5 ⊢
 cases k6 with
 |zero=>
  rw[zCr] at l5;cases l5
 |succ k7=>
  rw[zCr] at l5
  refine cutA 18 0 [(0,.sl (l1.map zKr.c)),(5,.sl (l1.map zKr.c)),(6,iI l1.length),(7,iI i2),(8,.bool (ltI i2 l1.length))] []<|zAF<|spc l5 rfl (fun g8 l5=>?_) fun g8 l5=>?_
  ·have c9:=ltT g8
   refine zGm 0 rfl fun f10=>?_
   rw[zq4] at f10
   refine zAC<|zAN<|zAF<|zAP ?_
   obtain⟨x11,q12,l5⟩:=bs l5
   refine cut 18 0 [(0,.sl (l1.map zKr.c)),(3,iI i2),(4,pT 0),(5,.sl (l1.map zKr.c)),(6,iI l1.length),(7,iI i2)] [x11.d] (st (by simp[q12])) ?_
   obtain⟨l13,q14,l5⟩:=bs l5
   obtain⟨q15,q16⟩:=zEL q14
   try simp at q15
   try simp at q16
   obtain⟨v17,q18,l5⟩:=bs l5
   refine cut 18 0 [(0,.sl (l1.map zKr.c)),(5,.sl (l1.map zKr.c)),(6,iI l1.length),(7,iI i2),(16,.bool v17)] [x11.d] ?_ ?_
   ·refine st ?_
    simp[q15,q16]
    have r21:=(zDu fuel l13 x11 v17 q18).frame [0] [x11.d] (by simp)
    try simp[q15,q16] at r21
    refine zAK r21 (by simp[q15,q16]) rfl ?_
    simp[q15,q16]
   refine spc l5 rfl (fun g19 l5=>?_) fun g19 l5=>?_
   ·refine cutA 18 0 [(2,.bool false)] [x11.d]<|zAA<|zAD<|zAB ?_
    replace h:=retL l5 h
    refine zAB<|zAD<|zAB ?_
    cases h
    simp
   refine zAC<|zDb<|zAN ?_
   have q20:Rng .i64 (((i2:Nat):Int)+1):=by simp only[Rng,inR];omega
   try simp at q20
   refine last 18 0 [(0,.sl (l1.map zKr.c)),(5,.sl (l1.map zKr.c)),(6,iI l1.length),(7,iI ((i2+1:Nat):Int))] [] (st (by simp[q20])) fun zz hs=>?_
   exact⟨(k7,i2+1),hs,l5,by simp⟩
  have c22:=ltF g8
  refine zGm 0 rfl fun f23=>?_
  rw[zq4] at f23
  refine zBv<|zAm ?_
  rcases o4 with o4|o3
  ·cases l5
  have q24:=Sum.inr.inj (zqa l5)
  replace h:=zCP h
  refine zAm<|zBu<|zDI (t:=mkS 18 0 [] []) ?_ (zBe (by simp))
  refine cutA 18 0 [(2,.bool true)] []<|zAA ?_
  cases h
  simp
theorem zJG(fuel:Nat)(t1:zKr)(r:Bool)(h:zCT fuel t1=some r):Pure Tryz.prog 69 [.agg t1.d] (.bool r):=by
 rw[zCT] at h
 refine zAQ Tryz.func69 (by rfl) (by rfl) (by simp) (by simp) (by simp)<|cutA 302 0 [(1,pT 0)] [t1.d]<|cutA 302 0 [(1,pT 0),(3,iI t1.L.length)] [t1.d]<|zAF<|cutA 302 0 [(1,pT 0),(3,iI t1.L.length),(8,iI t1.Op)] [t1.d]<|zAP<|zAF ?_
 refine cutA 302 0 [(1,pT 0),(3,iI t1.L.length),(8,iI t1.Op),(9,.bool (eqI t1.Op 1))] [t1.d]<|spc h rfl (fun g2 h=>?_) fun g2 h=>?_
 ·refine zAC<|zAN<|zBn rfl (by simp[g2])<|cutA 302 0 [(2,.bool (eqI t1.L.length 0))] [t1.d]<|zAA<|zAD<|zAB ?_
  cases h
  simp
 refine cutA 302 0 [(1,pT 0),(3,iI t1.L.length),(8,iI t1.Op),(9,.bool (eqI t1.Op 5))] [t1.d]<|spc h rfl (fun g5 h=>?_) fun g5 h=>?_
 ·refine zAC<|zAN<|zBn rfl (by simp[g5])<|cutA 302 0 [(2,.bool (eqI t1.L.length 0))] [t1.d]<|zAA<|zAD<|zAB ?_
  cases h
  simp
 refine cutA 302 0 [(1,pT 0),(3,iI t1.L.length),(8,iI t1.Op),(9,.bool (eqI t1.Op 11))] [t1.d]<|spc h rfl (fun g8 h=>?_) fun g8 h=>?_
 ·refine zAC<|zAN<|zBn rfl (by simp[g8])<|cutA 302 0 [(2,.bool (eqI t1.L.length 0))] [t1.d]<|zAA<|zAD<|zAB ?_
  cases h
  simp
 refine cutA 302 0 [(1,pT 0),(3,iI t1.L.length),(8,iI t1.Op),(9,.bool (eqI t1.Op 12))] [t1.d]<|spc h rfl (fun g11 h=>?_) fun g11 h=>?_
 ·refine zAC<|zAN<|zBn rfl (by simp[g11])<|cutA 302 0 [(2,.bool (eqI t1.L.length 0))] [t1.d]<|zAA<|zAD<|zAB ?_
  cases h
  simp
 refine cutA 302 0 [(1,pT 0),(3,iI t1.L.length),(8,iI t1.Op),(9,.bool (eqI t1.Op 13))] [t1.d]<|spc h rfl (fun g14 h=>?_) fun g14 h=>?_
 ·refine zAC<|zAN<|zBn rfl (by simp[g14])<|cutA 302 0 [(2,.bool (eqI t1.L.length 0))] [t1.d]<|zAA<|zAD<|zAB ?_
  cases h
  simp
 refine cutA 302 0 [(1,pT 0),(3,iI t1.L.length),(8,iI t1.Op),(9,.bool (eqI t1.Op 21))] [t1.d]<|spc h rfl (fun g17 h=>?_) fun g17 h=>?_
 ·refine zAC<|zAN<|zBn rfl (by simp[g17])<|cutA 302 0 [(2,.bool (eqI t1.L.length 0))] [t1.d]<|zAA<|zAD<|zAB ?_
  cases h
  simp
 refine cutA 302 0 [(1,pT 0),(3,iI t1.L.length),(8,iI t1.Op),(9,.bool (eqI t1.Op 22))] [t1.d]<|spc h rfl (fun g20 h=>?_) fun g20 h=>?_
 ·refine zAC<|zAN<|zBn rfl (by simp[g20])<|cutA 302 0 [(2,.bool (eqI t1.L.length 0))] [t1.d]<|zAA<|zAD<|zAB ?_
  cases h
  simp
 refine cutA 302 0 [(1,pT 0),(3,iI t1.L.length),(8,iI t1.Op),(9,.bool (eqI t1.Op 23))] [t1.d]<|spc h rfl (fun g23 h=>?_) fun g23 h=>?_
 ·refine zAC<|zAN<|zBn rfl (by simp[g23])<|cutA 302 0 [(2,.bool (eqI t1.L.length 0))] [t1.d]<|zAA<|zAD<|zAB ?_
  cases h
  simp
 refine cutA 302 0 [(1,pT 0),(3,iI t1.L.length),(8,iI t1.Op),(9,.bool (eqI t1.Op 24))] [t1.d]<|spc h rfl (fun g26 h=>?_) fun g26 h=>?_
 ·refine zAC<|zAN<|zBn rfl (by simp[g26])<|cutA 302 0 [(2,.bool (eqI t1.L.length 0))] [t1.d]<|zAA<|zAD<|zAB ?_
  cases h
  simp
 refine cutA 302 0 [(1,pT 0),(3,iI t1.L.length),(8,iI t1.Op),(9,.bool (eqI t1.Op 48))] [t1.d]<|spc h rfl (fun g29 h=>?_) fun g29 h=>?_
 ·refine zAC<|zAN<|zBn rfl (by simp[g29])<|cutA 302 0 [(2,.bool (eqI t1.L.length 0))] [t1.d]<|zAA<|zAD<|zAB ?_
  cases h
  simp
 refine cutA 302 0 [(1,pT 0),(3,iI t1.L.length),(8,iI t1.Op),(9,.bool (eqI t1.Op 49))] [t1.d]<|spc h rfl (fun g32 h=>?_) fun g32 h=>?_
 ·refine zAC<|zAN<|zBn rfl (by simp[g32])<|cutA 302 0 [(2,.bool (eqI t1.L.length 0))] [t1.d]<|zAA<|zAD<|zAB ?_
  cases h
  simp
 refine cutA 302 0 [(1,pT 0),(3,iI t1.L.length),(8,iI t1.Op),(9,.bool (eqI t1.Op 62))] [t1.d]<|spc h rfl (fun g35 h=>?_) fun g35 h=>?_
 ·refine zAC<|zAN<|zBn rfl (by simp[g35])<|cutA 302 0 [(2,.bool (eqI t1.L.length 0))] [t1.d]<|zAA<|zAD<|zAB ?_
  cases h
  simp
 refine cutA 302 0 [(1,pT 0),(3,iI t1.L.length),(8,iI t1.Op),(9,.bool (eqI t1.Op 72))] [t1.d]<|spc h rfl (fun g38 h=>?_) fun g38 h=>?_
 ·refine zAC<|zAN<|zBn rfl (by simp[g38])<|cutA 302 0 [(2,.bool (eqI t1.L.length 0))] [t1.d]<|zAA<|zAD<|zAB ?_
  cases h
  simp
 refine zHZ 302 0 [(1,pT 0),(3,iI t1.L.length),(8,iI t1.Op),(9,.bool (eqI t1.Op 82))] [t1.d]<|spc h rfl (fun g41 h=>?_) fun g41 h=>?_
 ·have c42:=eqT g41
  refine cutA 302 0 [(2,.bool (eqI t1.L.length 0))] [t1.d]<|zAA<|zAD<|zAB ?_
  cases h
  simp
 have c43:=eqF g41
 refine cutA 302 0 [(1,pT 0),(3,iI t1.L.length),(8,iI t1.Op),(26,.bool (eqI t1.Op 2))] [t1.d]<|spc h rfl (fun g44 h=>?_) fun g44 h=>?_
 ·obtain⟨v46,q47,h⟩:=bs h
  refine cut 302 0 [(2,.bool v46)] [t1.d] ?_ ?_
  ·refine st ?_
   simp
   have r48:=zC7 fuel t1.L 1 0 4 v46 q47
   try simp at r48
   refine cP r48 ?_
   simp
  refine zAA<|zAD<|zAB ?_
  cases h
  simp
 refine cutA 302 0 [(1,pT 0),(3,iI t1.L.length),(8,iI t1.Op),(31,.bool (eqI t1.Op 3))] [t1.d]<|spc h rfl (fun g50 h=>?_) fun g50 h=>?_
 ·obtain⟨l52,q53,h⟩:=bs h
  obtain⟨q54,q55⟩:=zGg q53
  obtain⟨v56,q57,h⟩:=bs h
  refine cut 302 0 [(2,.bool v56)] [t1.d] ?_ ?_
  ·refine st ?_
   simp[q54,q55]
   have r58:=zAt fuel t1 l52 v56 q57
   try simp[q54,q55] at r58
   refine cP r58 ?_
   simp[q54,q55]
  refine zAA<|zAD<|zAB ?_
  cases h
  simp
 refine cutA 302 0 [(1,pT 0),(3,iI t1.L.length),(8,iI t1.Op),(36,.bool (eqI t1.Op 4))] [t1.d]<|spc h rfl (fun g60 h=>?_) fun g60 h=>?_
 ·obtain⟨v62,q63,h⟩:=bs h
  refine cut 302 0 [(2,.bool v62)] [t1.d] ?_ ?_
  ·refine st ?_
   simp
   have r64:=zC7 fuel t1.L 1 2 9 v62 q63
   try simp at r64
   refine cP r64 ?_
   simp
  refine zAA<|zAD<|zAB ?_
  cases h
  simp
 refine cutA 302 0 [(1,pT 0),(3,iI t1.L.length),(8,iI t1.Op),(41,.bool (eqI t1.Op 14))] [t1.d]<|spc h rfl (fun g66 h=>?_) fun g66 h=>?_
 ·obtain⟨v68,q69,h⟩:=bs h
  refine cut 302 0 [(2,.bool v68)] [t1.d] ?_ ?_
  ·refine st ?_
   simp
   have r70:=zC7 fuel t1.L 2 0 1 v68 q69
   try simp at r70
   refine cP r70 ?_
   simp
  refine zAA<|zAD<|zAB ?_
  cases h
  simp
 refine cutA 302 0 [(1,pT 0),(3,iI t1.L.length),(8,iI t1.Op),(46,.bool (eqI t1.Op 15))] [t1.d]<|spc h rfl (fun g72 h=>?_) fun g72 h=>?_
 ·obtain⟨b81,q82,h⟩:=bs h
  refine cut 302 0 [(2,.bool b81)] [t1.d] ?_ ?_
  ·rcases sp q82 with ⟨g74,q82⟩|⟨g74,q82⟩
   ·have g75:=notT g74
    have c76:=eqF g75
    obtain⟨v77,q78,q82⟩:=bs q82
    obtain rfl:=oi q82
    refine st ?_
    simp[g74]
    have r83:=zC7 fuel t1.L 2 0 9 v77 q78
    try simp[g74] at r83
    refine cP r83 ?_
    simp[g74]
   have g79:=notF g74
   have c80:=eqT g79
   obtain rfl:=oi q82
   refine st ?_
   simp[g74]
  refine zAA<|zAD<|zAB ?_
  cases h
  simp
 refine zAF<|cutA 302 0 [(1,pT 0),(3,iI t1.L.length),(8,iI t1.Op),(55,.bool (eqI t1.Op 25))] [t1.d]<|spc h rfl (fun g85 h=>?_) fun g85 h=>?_
 ·refine zAC<|zAN<|zBn rfl (by simp[g85]) ?_
  obtain⟨v87,q88,h⟩:=bs h
  refine cut 302 0 [(2,.bool v87)] [t1.d] ?_ ?_
  ·refine st ?_
   simp
   have r89:=zAt fuel t1 [3] v87 q88
   try simp at r89
   refine cP r89 ?_
   simp
  refine zAA<|zAD<|zAB ?_
  cases h
  simp
 refine cutA 302 0 [(1,pT 0),(3,iI t1.L.length),(8,iI t1.Op),(55,.bool (eqI t1.Op 41))] [t1.d]<|spc h rfl (fun g91 h=>?_) fun g91 h=>?_
 ·refine zAC<|zAN<|zBn rfl (by simp[g91]) ?_
  obtain⟨v93,q94,h⟩:=bs h
  refine cut 302 0 [(2,.bool v93)] [t1.d] ?_ ?_
  ·refine st ?_
   simp
   have r95:=zAt fuel t1 [3] v93 q94
   try simp at r95
   refine cP r95 ?_
   simp
  refine zAA<|zAD<|zAB ?_
  cases h
  simp
 refine zHZ 302 0 [(1,pT 0),(3,iI t1.L.length),(8,iI t1.Op),(55,.bool (eqI t1.Op 42))] [t1.d]<|spc h rfl (fun g97 h=>?_) fun g97 h=>?_
 ·have c98:=eqT g97
  obtain⟨v99,q100,h⟩:=bs h
  refine cut 302 0 [(2,.bool v99)] [t1.d] ?_ ?_
  ·refine st ?_
   simp
   have r101:=zAt fuel t1 [3] v99 q100
   try simp at r101
   refine cP r101 ?_
   simp
  refine zAA<|zAD<|zAB ?_
  cases h
  simp
 have c102:=eqF g97
 refine cutA 302 0 [(1,pT 0),(3,iI t1.L.length),(8,iI t1.Op),(62,.bool (eqI t1.Op 26))] [t1.d]<|spc h rfl (fun g103 h=>?_) fun g103 h=>?_
 ·obtain⟨l105,q106,h⟩:=bs h
  obtain⟨q107,q108⟩:=zGg q106
  obtain⟨v109,q110,h⟩:=bs h
  refine cut 302 0 [(2,.bool v109)] [t1.d] ?_ ?_
  ·refine st ?_
   simp[q107,q108]
   have r111:=zAt fuel t1 l105 v109 q110
   try simp[q107,q108] at r111
   refine cP r111 ?_
   simp[q107,q108]
  refine zAA<|zAD<|zAB ?_
  cases h
  simp
 refine cutA 302 0 [(1,pT 0),(3,iI t1.L.length),(8,iI t1.Op),(67,.bool (eqI t1.Op 27))] [t1.d]<|spc h rfl (fun g113 h=>?_) fun g113 h=>?_
 ·obtain⟨b122,q123,h⟩:=bs h
  refine cut 302 0 [(2,.bool b122)] [t1.d] ?_ ?_
  ·rcases sp q123 with ⟨g115,q123⟩|⟨g115,q123⟩
   ·have g116:=notT g115
    have c117:=eqF g116
    obtain⟨v118,q119,q123⟩:=bs q123
    obtain rfl:=oi q123
    refine st ?_
    simp[g115]
    have r124:=zC7 fuel t1.L 3 0 9 v118 q119
    try simp[g115] at r124
    refine cP r124 ?_
    simp[g115]
   have g120:=notF g115
   have c121:=eqT g120
   obtain rfl:=oi q123
   refine st ?_
   simp[g115]
  refine zAA<|zAD<|zAB ?_
  cases h
  simp
 refine cutA 302 0 [(1,pT 0),(3,iI t1.L.length),(8,iI t1.Op),(76,.bool (eqI t1.Op 28))] [t1.d]<|spc h rfl (fun g126 h=>?_) fun g126 h=>?_
 ·obtain⟨l128,q129,h⟩:=bs h
  obtain⟨q130,q131⟩:=zGg q129
  obtain⟨v132,q133,h⟩:=bs h
  refine cut 302 0 [(2,.bool v132)] [t1.d] ?_ ?_
  ·refine st ?_
   simp[q130,q131]
   have r134:=zAt fuel t1 l128 v132 q133
   try simp[q130,q131] at r134
   refine cP r134 ?_
   simp[q130,q131]
  refine zAA<|zAD<|zAB ?_
  cases h
  simp
 refine cutA 302 0 [(1,pT 0),(3,iI t1.L.length),(8,iI t1.Op),(81,.bool (eqI t1.Op 29))] [t1.d]<|spc h rfl (fun g136 h=>?_) fun g136 h=>?_
 ·obtain⟨b154,q155,h⟩:=bs h
  refine cut 302 0 [(2,.bool b154)] [t1.d] ?_ ?_
  ·rcases sp q155 with ⟨g138,q155⟩|⟨g138,q155⟩
   ·have c139:=leT g138
    refine zGB 0 4 rfl rfl rfl fun f140=>?_
    rw[zq4] at f140
    obtain⟨x141,q142,q155⟩:=bs q155
    obtain⟨v143,q144,q155⟩:=bs q155
    rcases sp q155 with ⟨g145,q155⟩|⟨g145,q155⟩
    ·obtain⟨l146,q147,q155⟩:=bs q155
     obtain⟨q148,q149⟩:=zEL q147
     try simp at q148
     try simp at q149
     obtain⟨v150,q151,q155⟩:=bs q155
     obtain rfl:=oi q155
     refine st ?_
     simp[g138,q142,g145,q148,q149]
     have r156:=zA6 3 x141 v143 q144
     try simp[g138,q142,g145,q148,q149] at r156
     refine cP r156 ?_
     simp[g138,q142,g145,q148,q149]
     have r157:=zCt fuel l146 [30] v150 q151
     try simp[g138,q142,g145,q148,q149] at r157
     refine cP r157 ?_
     simp[g138,q142,g145,q148,q149]
    obtain rfl:=oi q155
    refine st ?_
    simp[g138,q142,g145]
    have r158:=zA6 3 x141 v143 q144
    try simp[g138,q142,g145] at r158
    refine cP r158 ?_
    simp[g138,q142,g145]
   have c152:=leF g138
   refine zGB 0 4 rfl rfl rfl fun f153=>?_
   rw[zq4] at f153
   obtain rfl:=oi q155
   refine st ?_
   simp[g138]
  refine zAA<|zAD<|zAB ?_
  cases h
  simp
 refine cutA 302 0 [(1,pT 0),(3,iI t1.L.length),(8,iI t1.Op),(99,.bool (eqI t1.Op 30))] [t1.d]<|spc h rfl (fun g160 h=>?_) fun g160 h=>?_
 ·obtain⟨l162,q163,h⟩:=bs h
  obtain⟨q164,q165⟩:=zGg q163
  obtain⟨v166,q167,h⟩:=bs h
  refine cut 302 0 [(2,.bool v166)] [t1.d] ?_ ?_
  ·refine st ?_
   simp[q164,q165]
   have r168:=zAt fuel t1 l162 v166 q167
   try simp[q164,q165] at r168
   refine cP r168 ?_
   simp[q164,q165]
  refine zAA<|zAD<|zAB ?_
  cases h
  simp
 refine cutA 302 0 [(1,pT 0),(3,iI t1.L.length),(8,iI t1.Op),(104,.bool (eqI t1.Op 31))] [t1.d]<|spc h rfl (fun g170 h=>?_) fun g170 h=>?_
 ·obtain⟨b196,q197,h⟩:=bs h
  refine cut 302 0 [(2,.bool b196)] [t1.d] ?_ ?_
  ·rcases sp q197 with ⟨g172,q197⟩|⟨g172,q197⟩
   ·have c173:=leT g172
    refine zGB 0 4 rfl rfl rfl fun f174=>?_
    rw[zq4] at f174
    have q175:Rng .i64 ((t1.L.length:Int)-1):=by simp only[Rng,inR];omega
    try simp at q175
    obtain⟨x176,q177,q197⟩:=bs q197
    obtain⟨q178,q179⟩:=idxp_ok q177
    obtain⟨v180,q181,q197⟩:=bs q197
    rcases sp q197 with ⟨g182,q197⟩|⟨g182,q197⟩
    ·have q183:Rng .i64 ((t1.L.length:Int)-1):=by simp only[Rng,inR];omega
     try simp at q183
     obtain⟨l184,q185,q197⟩:=bs q197
     obtain⟨q186,q187⟩:=zEL q185
     try simp at q186
     try simp at q187
     obtain⟨l188,q189,q197⟩:=bs q197
     obtain⟨q190,q191⟩:=zGg q189
     obtain⟨v192,q193,q197⟩:=bs q197
     obtain rfl:=oi q197
     refine st ?_
     simp[g172,q175,q178,q179,g182,q183,q186,q187,q190,q191]
     have r198:=zA6 3 x176 v180 q181
     try simp[g172,q175,q178,q179,g182,q183,q186,q187,q190,q191] at r198
     refine cP r198 ?_
     simp[g172,q175,q178,q179,g182,q183,q186,q187,q190,q191]
     have r199:=zCt fuel l184 l188 v192 q193
     try simp[g172,q175,q178,q179,g182,q183,q186,q187,q190,q191] at r199
     refine cP r199 ?_
     simp[g172,q175,q178,q179,g182,q183,q186,q187,q190,q191]
    obtain rfl:=oi q197
    refine st ?_
    simp[g172,q175,q178,q179,g182]
    have r200:=zA6 3 x176 v180 q181
    try simp[g172,q175,q178,q179,g182] at r200
    refine cP r200 ?_
    simp[g172,q175,q178,q179,g182]
   have c194:=leF g172
   refine zGB 0 4 rfl rfl rfl fun f195=>?_
   rw[zq4] at f195
   obtain rfl:=oi q197
   refine st ?_
   simp[g172]
  refine zAA<|zAD<|zAB ?_
  cases h
  simp
 refine cutA 302 0 [(1,pT 0),(3,iI t1.L.length),(8,iI t1.Op),(126,.bool (eqI t1.Op 32))] [t1.d]<|spc h rfl (fun g202 h=>?_) fun g202 h=>?_
 ·refine zAF<|cutA 302 0 [(1,pT 0),(130,.bool (eqI t1.N 12))] [t1.d]<|spc h rfl (fun g204 h=>?_) fun g204 h=>?_
  ·obtain⟨v206,q207,h⟩:=bs h
   refine cut 302 0 [(2,.bool v206)] [t1.d] ?_ ?_
   ·refine st ?_
    simp
    have r208:=zAt fuel t1 [3] v206 q207
    try simp at r208
    refine cP r208 ?_
    simp
   refine zAA<|zAB<|zAD<|zAB ?_
   cases h
   simp
  refine zAC<|zAN ?_
  obtain⟨l210,q211,h⟩:=bs h
  obtain⟨q212,q213⟩:=zGg q211
  obtain⟨v214,q215,h⟩:=bs h
  refine cut 302 0 [(2,.bool v214)] [t1.d] ?_ ?_
  ·refine st ?_
   simp[q212,q213]
   have r216:=zAt fuel t1 l210 v214 q215
   try simp[q212,q213] at r216
   refine cP r216 ?_
   simp[q212,q213]
  refine zAA<|zAD<|zAB ?_
  cases h
  simp
 refine cutA 302 0 [(1,pT 0),(3,iI t1.L.length),(8,iI t1.Op),(137,.bool (eqI t1.Op 33))] [t1.d]<|spc h rfl (fun g218 h=>?_) fun g218 h=>?_
 ·obtain⟨l220,q221,h⟩:=bs h
  obtain⟨q222,q223⟩:=zGg q221
  obtain⟨v224,q225,h⟩:=bs h
  refine cut 302 0 [(2,.bool v224)] [t1.d] ?_ ?_
  ·refine st ?_
   simp[q222,q223]
   have r226:=zAt fuel t1 l220 v224 q225
   try simp[q222,q223] at r226
   refine cP r226 ?_
   simp[q222,q223]
  refine zAA<|zAD<|zAB ?_
  cases h
  simp
 refine cutA 302 0 [(1,pT 0),(3,iI t1.L.length),(8,iI t1.Op),(142,.bool (eqI t1.Op 34))] [t1.d]<|spc h rfl (fun g228 h=>?_) fun g228 h=>?_
 ·obtain⟨b235,q236,h⟩:=bs h
  refine cut 302 0 [(2,.bool b235)] [t1.d] ?_ ?_
  ·rcases sp q236 with ⟨g230,q236⟩|⟨g230,q236⟩
   ·have c231:=eqT g230
    obtain⟨v232,q233,q236⟩:=bs q236
    obtain rfl:=oi q236
    refine st ?_
    simp[g230]
    have r237:=zCt fuel t1.L [72] v232 q233
    try simp[g230] at r237
    refine cP r237 ?_
    simp[g230]
   have c234:=eqF g230
   obtain rfl:=oi q236
   refine st ?_
   simp[g230]
  refine zAA<|zAD<|zAB ?_
  cases h
  simp
 refine zAF<|cutA 302 0 [(1,pT 0),(3,iI t1.L.length),(8,iI t1.Op),(152,.bool (eqI t1.Op 43))] [t1.d]<|spc h rfl (fun g239 h=>?_) fun g239 h=>?_
 ·refine zAC<|zAN<|zBn rfl (by simp[g239]) ?_
  obtain⟨v241,q242,h⟩:=bs h
  refine cut 302 0 [(2,.bool v241)] [t1.d] ?_ ?_
  ·refine st ?_
   simp
   have r243:=zAt fuel t1 [1] v241 q242
   try simp at r243
   refine cP r243 ?_
   simp
  refine zAA<|zAD<|zAB ?_
  cases h
  simp
 refine zHZ 302 0 [(1,pT 0),(3,iI t1.L.length),(8,iI t1.Op),(152,.bool (eqI t1.Op 61))] [t1.d]<|spc h rfl (fun g245 h=>?_) fun g245 h=>?_
 ·have c246:=eqT g245
  obtain⟨v247,q248,h⟩:=bs h
  refine cut 302 0 [(2,.bool v247)] [t1.d] ?_ ?_
  ·refine st ?_
   simp
   have r249:=zAt fuel t1 [1] v247 q248
   try simp at r249
   refine cP r249 ?_
   simp
  refine zAA<|zAD<|zAB ?_
  cases h
  simp
 have c250:=eqF g245
 refine cutA 302 0 [(1,pT 0),(3,iI t1.L.length),(8,iI t1.Op),(158,.bool (eqI t1.Op 44))] [t1.d]<|spc h rfl (fun g251 h=>?_) fun g251 h=>?_
 ·obtain⟨b263,q264,h⟩:=bs h
  refine cut 302 0 [(2,.bool b263)] [t1.d] ?_ ?_
  ·rcases sp q264 with ⟨g253,q264⟩|⟨g253,q264⟩
   ·have c254:=leT g253
    refine zGB 0 4 rfl rfl rfl fun f255=>?_
    rw[zq4] at f255
    obtain⟨v256,q257,q264⟩:=bs q264
    rcases sp q264 with ⟨g258,q264⟩|⟨g258,q264⟩
    ·obtain⟨v259,q260,q264⟩:=bs q264
     obtain rfl:=oi q264
     refine st ?_
     simp[g253,g258]
     have r265:=zCt fuel t1.L [45] v256 q257
     try simp[g253,g258] at r265
     refine cP r265 ?_
     simp[g253,g258]
     have r266:=zIg fuel t1.L v259 q260
     try simp[g253,g258] at r266
     refine cP r266 ?_
     simp[g253,g258]
    obtain rfl:=oi q264
    refine st ?_
    simp[g253,g258]
    have r267:=zCt fuel t1.L [45] v256 q257
    try simp[g253,g258] at r267
    refine cP r267 ?_
    simp[g253,g258]
   have c261:=leF g253
   refine zGB 0 4 rfl rfl rfl fun f262=>?_
   rw[zq4] at f262
   obtain rfl:=oi q264
   refine st ?_
   simp[g253]
  refine zAA<|zAD<|zAB ?_
  cases h
  simp
 refine cutA 302 0 [(1,pT 0),(3,iI t1.L.length),(8,iI t1.Op),(173,.bool (eqI t1.Op 45))] [t1.d]<|spc h rfl (fun g269 h=>?_) fun g269 h=>?_
 ·obtain⟨v271,q272,h⟩:=bs h
  refine cut 302 0 [(2,.bool v271)] [t1.d] ?_ ?_
  ·refine st ?_
   simp
   have r273:=zC7 fuel t1.L 1 0 1 v271 q272
   try simp at r273
   refine cP r273 ?_
   simp
  refine zAA<|zAD<|zAB ?_
  cases h
  simp
 refine cutA 302 0 [(1,pT 0),(3,iI t1.L.length),(8,iI t1.Op),(178,.bool (eqI t1.Op 46))] [t1.d]<|spc h rfl (fun g275 h=>?_) fun g275 h=>?_
 ·obtain⟨v277,q278,h⟩:=bs h
  refine cut 302 0 [(2,.bool v277)] [t1.d] ?_ ?_
  ·refine st ?_
   simp
   have r279:=zAt fuel t1 [7] v277 q278
   try simp at r279
   refine cP r279 ?_
   simp
  refine zAA<|zAD<|zAB ?_
  cases h
  simp
 refine zAF<|cutA 302 0 [(1,pT 0),(3,iI t1.L.length),(8,iI t1.Op),(183,.bool (eqI t1.Op 47))] [t1.d]<|spc h rfl (fun g281 h=>?_) fun g281 h=>?_
 ·refine zAC<|zAN<|zBn rfl (by simp[g281]) ?_
  obtain⟨v283,q284,h⟩:=bs h
  refine cut 302 0 [(2,.bool v283)] [t1.d] ?_ ?_
  ·refine st ?_
   simp
   have r285:=zAt fuel t1 [6] v283 q284
   try simp at r285
   refine cP r285 ?_
   simp
  refine zAA<|zAD<|zAB ?_
  cases h
  simp
 refine cutA 302 0 [(1,pT 0),(3,iI t1.L.length),(8,iI t1.Op),(183,.bool (eqI t1.Op 63))] [t1.d]<|spc h rfl (fun g287 h=>?_) fun g287 h=>?_
 ·refine zAC<|zAN<|zBn rfl (by simp[g287]) ?_
  obtain⟨v289,q290,h⟩:=bs h
  refine cut 302 0 [(2,.bool v289)] [t1.d] ?_ ?_
  ·refine st ?_
   simp
   have r291:=zAt fuel t1 [6] v289 q290
   try simp at r291
   refine cP r291 ?_
   simp
  refine zAA<|zAD<|zAB ?_
  cases h
  simp
 refine cutA 302 0 [(1,pT 0),(3,iI t1.L.length),(8,iI t1.Op),(183,.bool (eqI t1.Op 64))] [t1.d]<|spc h rfl (fun g293 h=>?_) fun g293 h=>?_
 ·refine zAC<|zAN<|zBn rfl (by simp[g293]) ?_
  obtain⟨v295,q296,h⟩:=bs h
  refine cut 302 0 [(2,.bool v295)] [t1.d] ?_ ?_
  ·refine st ?_
   simp
   have r297:=zAt fuel t1 [6] v295 q296
   try simp at r297
   refine cP r297 ?_
   simp
  refine zAA<|zAD<|zAB ?_
  cases h
  simp
 refine zHZ 302 0 [(1,pT 0),(3,iI t1.L.length),(8,iI t1.Op),(183,.bool (eqI t1.Op 65))] [t1.d]<|spc h rfl (fun g299 h=>?_) fun g299 h=>?_
 ·have c300:=eqT g299
  obtain⟨v301,q302,h⟩:=bs h
  refine cut 302 0 [(2,.bool v301)] [t1.d] ?_ ?_
  ·refine st ?_
   simp
   have r303:=zAt fuel t1 [6] v301 q302
   try simp at r303
   refine cP r303 ?_
   simp
  refine zAA<|zAD<|zAB ?_
  cases h
  simp
 have c304:=eqF g299
 refine zAF<|cutA 302 0 [(1,pT 0),(3,iI t1.L.length),(8,iI t1.Op),(191,.bool (eqI t1.Op 50))] [t1.d]<|spc h rfl (fun g305 h=>?_) fun g305 h=>?_
 ·refine zAC<|zAN<|zBn rfl (by simp[g305]) ?_
  obtain⟨b321,q322,h⟩:=bs h
  refine cut 302 0 [(2,.bool b321)] [t1.d] ?_ ?_
  ·rcases sp q322 with ⟨g307,q322⟩|⟨g307,q322⟩
   ·have c308:=eqT g307
    obtain⟨x309,q310,q322⟩:=bs q322
    obtain⟨v311,q312,q322⟩:=bs q322
    rcases sp q322 with ⟨g313,q322⟩|⟨g313,q322⟩
    ·obtain⟨l314,q315,q322⟩:=bs q322
     obtain⟨q316,q317⟩:=zEL q315
     try simp at q316
     try simp at q317
     obtain⟨v318,q319,q322⟩:=bs q322
     obtain rfl:=oi q322
     refine st ?_
     simp[g307,q310,g313,q316,q317]
     have r323:=zA6 3 x309 v311 q312
     try simp[g307,q310,g313,q316,q317] at r323
     refine cP r323 ?_
     simp[g307,q310,g313,q316,q317]
     have r324:=zCt fuel l314 [72] v318 q319
     try simp[g307,q310,g313,q316,q317] at r324
     refine cP r324 ?_
     simp[g307,q310,g313,q316,q317]
    obtain rfl:=oi q322
    refine st ?_
    simp[g307,q310,g313]
    have r325:=zA6 3 x309 v311 q312
    try simp[g307,q310,g313] at r325
    refine cP r325 ?_
    simp[g307,q310,g313]
   have c320:=eqF g307
   obtain rfl:=oi q322
   refine st ?_
   simp[g307]
  refine zAA<|zAD<|zAB ?_
  cases h
  simp
 refine zHZ 302 0 [(1,pT 0),(3,iI t1.L.length),(8,iI t1.Op),(191,.bool (eqI t1.Op 88))] [t1.d]<|spc h rfl (fun g327 h=>?_) fun g327 h=>?_
 ·have c328:=eqT g327
  obtain⟨b343,q344,h⟩:=bs h
  refine cut 302 0 [(2,.bool b343)] [t1.d] ?_ ?_
  ·rcases sp q344 with ⟨g329,q344⟩|⟨g329,q344⟩
   ·have c330:=eqT g329
    obtain⟨x331,q332,q344⟩:=bs q344
    obtain⟨v333,q334,q344⟩:=bs q344
    rcases sp q344 with ⟨g335,q344⟩|⟨g335,q344⟩
    ·obtain⟨l336,q337,q344⟩:=bs q344
     obtain⟨q338,q339⟩:=zEL q337
     try simp at q338
     try simp at q339
     obtain⟨v340,q341,q344⟩:=bs q344
     obtain rfl:=oi q344
     refine st ?_
     simp[g329,q332,g335,q338,q339]
     have r345:=zA6 3 x331 v333 q334
     try simp[g329,q332,g335,q338,q339] at r345
     refine cP r345 ?_
     simp[g329,q332,g335,q338,q339]
     have r346:=zCt fuel l336 [72] v340 q341
     try simp[g329,q332,g335,q338,q339] at r346
     refine cP r346 ?_
     simp[g329,q332,g335,q338,q339]
    obtain rfl:=oi q344
    refine st ?_
    simp[g329,q332,g335]
    have r347:=zA6 3 x331 v333 q334
    try simp[g329,q332,g335] at r347
    refine cP r347 ?_
    simp[g329,q332,g335]
   have c342:=eqF g329
   obtain rfl:=oi q344
   refine st ?_
   simp[g329]
  refine zAA<|zAD<|zAB ?_
  cases h
  simp
 have c348:=eqF g327
 refine cutA 302 0 [(1,pT 0),(3,iI t1.L.length),(8,iI t1.Op),(210,.bool (eqI t1.Op 66))] [t1.d]<|spc h rfl (fun g349 h=>?_) fun g349 h=>?_
 ·obtain⟨b359,q360,h⟩:=bs h
  refine cut 302 0 [(2,.bool b359)] [t1.d] ?_ ?_
  ·rcases sp q360 with ⟨g351,q360⟩|⟨g351,q360⟩
   ·have c352:=eqT g351
    obtain⟨v353,q354,q360⟩:=bs q360
    rcases sp q360 with ⟨g355,q360⟩|⟨g355,q360⟩
    ·obtain⟨x356,q357,q360⟩:=bs q360
     obtain rfl:=oi q360
     refine st ?_
     simp[g351,g355,q357]
     have r361:=zCt fuel t1.L [2] v353 q354
     try simp[g351,g355,q357] at r361
     refine cP r361 ?_
     simp[g351,g355,q357]
    obtain rfl:=oi q360
    refine st ?_
    simp[g351,g355]
    have r362:=zCt fuel t1.L [2] v353 q354
    try simp[g351,g355] at r362
    refine cP r362 ?_
    simp[g351,g355]
   have c358:=eqF g351
   obtain rfl:=oi q360
   refine st ?_
   simp[g351]
  refine zAA<|zAD<|zAB ?_
  cases h
  simp
 refine cutA 302 0 [(1,pT 0),(3,iI t1.L.length),(8,iI t1.Op),(229,.bool (eqI t1.Op 71))] [t1.d]<|spc h rfl (fun g364 h=>?_) fun g364 h=>?_
 ·obtain⟨v366,q367,h⟩:=bs h
  refine cut 302 0 [(2,.bool v366)] [t1.d] ?_ ?_
  ·refine st ?_
   simp
   have r368:=zC7 fuel t1.L 5 0 (t1.L.length:Int) v366 q367
   try simp at r368
   refine cP r368 ?_
   simp
  refine zAA<|zAD<|zAB ?_
  cases h
  simp
 refine cutA 302 0 [(1,pT 0),(3,iI t1.L.length),(8,iI t1.Op),(235,.bool (eqI t1.Op 73))] [t1.d]<|spc h rfl (fun g370 h=>?_) fun g370 h=>?_
 ·obtain⟨l372,q373,h⟩:=bs h
  obtain⟨q374,q375⟩:=zGg q373
  obtain⟨v376,q377,h⟩:=bs h
  refine cut 302 0 [(2,.bool v376)] [t1.d] ?_ ?_
  ·refine st ?_
   simp[q374,q375]
   have r378:=zAt fuel t1 l372 v376 q377
   try simp[q374,q375] at r378
   refine cP r378 ?_
   simp[q374,q375]
  refine zAA<|zAD<|zAB ?_
  cases h
  simp
 refine cutA 302 0 [(1,pT 0),(3,iI t1.L.length),(8,iI t1.Op),(240,.bool (eqI t1.Op 74))] [t1.d]<|spc h rfl (fun g380 h=>?_) fun g380 h=>?_
 ·obtain⟨b396,q397,h⟩:=bs h
  refine cut 302 0 [(2,.bool b396)] [t1.d] ?_ ?_
  ·rcases sp q397 with ⟨g382,q397⟩|⟨g382,q397⟩
   ·have c383:=eqT g382
    obtain⟨x384,q385,q397⟩:=bs q397
    obtain⟨v386,q387,q397⟩:=bs q397
    rcases sp q397 with ⟨g388,q397⟩|⟨g388,q397⟩
    ·obtain⟨l389,q390,q397⟩:=bs q397
     obtain⟨q391,q392⟩:=zEL q390
     try simp at q391
     try simp at q392
     obtain⟨v393,q394,q397⟩:=bs q397
     obtain rfl:=oi q397
     refine st ?_
     simp[g382,q385,g388,q391,q392]
     have r398:=zA6 6 x384 v386 q387
     try simp[g382,q385,g388,q391,q392] at r398
     refine cP r398 ?_
     simp[g382,q385,g388,q391,q392]
     have r399:=zCt fuel l389 [43] v393 q394
     try simp[g382,q385,g388,q391,q392] at r399
     refine cP r399 ?_
     simp[g382,q385,g388,q391,q392]
    obtain rfl:=oi q397
    refine st ?_
    simp[g382,q385,g388]
    have r400:=zA6 6 x384 v386 q387
    try simp[g382,q385,g388] at r400
    refine cP r400 ?_
    simp[g382,q385,g388]
   have c395:=eqF g382
   obtain rfl:=oi q397
   refine st ?_
   simp[g382]
  refine zAA<|zAD<|zAB ?_
  cases h
  simp
 refine cutA 302 0 [(1,pT 0),(3,iI t1.L.length),(8,iI t1.Op),(258,.bool (eqI t1.Op 81))] [t1.d]<|spc h rfl (fun g402 h=>?_) fun g402 h=>?_
 ·obtain⟨v404,q405,h⟩:=bs h
  refine cut 302 0 [(2,.bool v404)] [t1.d] ?_ ?_
  ·refine st ?_
   simp
   have r406:=zC7 fuel t1.L 4 0 (t1.L.length:Int) v404 q405
   try simp at r406
   refine cP r406 ?_
   simp
  refine zAA<|zAD<|zAB ?_
  cases h
  simp
 refine cutA 302 0 [(1,pT 0),(3,iI t1.L.length),(8,iI t1.Op),(264,.bool (eqI t1.Op 83))] [t1.d]<|spc h rfl (fun g408 h=>?_) fun g408 h=>?_
 ·obtain⟨l410,q411,h⟩:=bs h
  obtain⟨q412,q413⟩:=zGg q411
  obtain⟨v414,q415,h⟩:=bs h
  refine cut 302 0 [(2,.bool v414)] [t1.d] ?_ ?_
  ·refine st ?_
   simp[q412,q413]
   have r416:=zAt fuel t1 l410 v414 q415
   try simp[q412,q413] at r416
   refine cP r416 ?_
   simp[q412,q413]
  refine zAA<|zAD<|zAB ?_
  cases h
  simp
 refine cutA 302 0 [(1,pT 0),(3,iI t1.L.length),(8,iI t1.Op),(269,.bool (eqI t1.Op 84))] [t1.d]<|spc h rfl (fun g418 h=>?_) fun g418 h=>?_
 ·obtain⟨l420,q421,h⟩:=bs h
  obtain⟨q422,q423⟩:=zGg q421
  obtain⟨v424,q425,h⟩:=bs h
  refine cut 302 0 [(2,.bool v424)] [t1.d] ?_ ?_
  ·refine st ?_
   simp[q422,q423]
   have r426:=zAt fuel t1 l420 v424 q425
   try simp[q422,q423] at r426
   refine cP r426 ?_
   simp[q422,q423]
  refine zAA<|zAD<|zAB ?_
  cases h
  simp
 refine zAF<|cutA 302 0 [(1,pT 0),(3,iI t1.L.length),(8,iI t1.Op),(274,.bool (eqI t1.Op 85))] [t1.d]<|spc h rfl (fun g428 h=>?_) fun g428 h=>?_
 ·refine zAC<|zAN<|zBn rfl (by simp[g428]) ?_
  obtain⟨l430,q431,h⟩:=bs h
  obtain⟨q432,q433⟩:=zGg q431
  obtain⟨v434,q435,h⟩:=bs h
  refine cut 302 0 [(2,.bool v434)] [t1.d] ?_ ?_
  ·refine st ?_
   simp[q432,q433]
   have r436:=zAt fuel t1 l430 v434 q435
   try simp[q432,q433] at r436
   refine cP r436 ?_
   simp[q432,q433]
  refine zAA<|zAD<|zAB ?_
  cases h
  simp
 refine zHZ 302 0 [(1,pT 0),(3,iI t1.L.length),(8,iI t1.Op),(274,.bool (eqI t1.Op 86))] [t1.d]<|spc h rfl (fun g438 h=>?_) fun g438 h=>?_
 ·have c439:=eqT g438
  obtain⟨l440,q441,h⟩:=bs h
  obtain⟨q442,q443⟩:=zGg q441
  obtain⟨v444,q445,h⟩:=bs h
  refine cut 302 0 [(2,.bool v444)] [t1.d] ?_ ?_
  ·refine st ?_
   simp[q442,q443]
   have r446:=zAt fuel t1 l440 v444 q445
   try simp[q442,q443] at r446
   refine cP r446 ?_
   simp[q442,q443]
  refine zAA<|zAD<|zAB ?_
  cases h
  simp
 have c447:=eqF g438
 refine cutA 302 0 [(1,pT 0),(3,iI t1.L.length),(280,.bool (eqI t1.Op 87))] [t1.d]<|spc h rfl (fun g448 h=>?_) fun g448 h=>?_
 ·obtain⟨b470,q471,h⟩:=bs h
  refine cut 302 0 [(2,.bool b470)] [t1.d] ?_ ?_
  ·rcases sp q471 with ⟨g450,q471⟩|⟨g450,q471⟩
   ·have c451:=leT g450
    refine zGB 0 4 rfl rfl rfl fun f452=>?_
    rw[zq4] at f452
    have q453:Rng .i64 ((t1.L.length:Int)-1):=by simp only[Rng,inR];omega
    try simp at q453
    obtain⟨x454,q455,q471⟩:=bs q471
    obtain⟨q456,q457⟩:=idxp_ok q455
    obtain⟨v458,q459,q471⟩:=bs q471
    rcases sp q471 with ⟨g460,q471⟩|⟨g460,q471⟩
    ·have q461:Rng .i64 ((t1.L.length:Int)-1):=by simp only[Rng,inR];omega
     try simp at q461
     obtain⟨l462,q463,q471⟩:=bs q471
     obtain⟨q464,q465⟩:=zEL q463
     try simp at q464
     try simp at q465
     obtain⟨v466,q467,q471⟩:=bs q471
     obtain rfl:=oi q471
     refine st ?_
     simp[g450,q453,q456,q457,g460,q461,q464,q465]
     have r472:=zA6 7 x454 v458 q459
     try simp[g450,q453,q456,q457,g460,q461,q464,q465] at r472
     refine cP r472 ?_
     simp[g450,q453,q456,q457,g460,q461,q464,q465]
     have r473:=zC7 fuel l462 4 0 (t1.L.length:Int) v466 q467
     try simp[g450,q453,q456,q457,g460,q461,q464,q465] at r473
     refine cP r473 ?_
     simp[g450,q453,q456,q457,g460,q461,q464,q465]
    obtain rfl:=oi q471
    refine st ?_
    simp[g450,q453,q456,q457,g460]
    have r474:=zA6 7 x454 v458 q459
    try simp[g450,q453,q456,q457,g460] at r474
    refine cP r474 ?_
    simp[g450,q453,q456,q457,g460]
   have c468:=leF g450
   refine zGB 0 4 rfl rfl rfl fun f469=>?_
   rw[zq4] at f469
   obtain rfl:=oi q471
   refine st ?_
   simp[g450]
  refine zAA<|zAD<|zAB ?_
  cases h
  simp
 refine zAC<|zDb<|zAN<|cutA 302 0 [(2,.bool false)] [t1.d]<|zAA ?_
 cases h
 simp
theorem zC0(fuel:Nat):(∀(x1:zKr)(c2:Int)(w3:zKr)(c4:Int)(r:Bool×Int)(_:zB7 fuel x1 c2 w3 c4=some r),Raw Tryz.prog 71 [.agg x1.d,pT 0,pT 1,pT 2] [[.fn (.func 67) [] [pT 3,pT 0]],[iI c2],w3.d,[iI c4]] (.bool r.1) [[.fn (.func 67) [] [pT 3,pT 0]],[iI c2],w3.d,[iI r.2]])∧(∀(s1:(List zKr))(c2:Int)(w3:zKr)(c4:Int)(r:Int×Int)(_:zBL fuel s1 c2 w3 c4=some r),Raw Tryz.prog 101 [.sl (s1.map zKr.c),.fn (.func 71) [] [pT 0,pT 1,pT 2]] [[.fn (.func 67) [] [pT 3,pT 0]],[iI c2],w3.d,[iI c4]] (iI r.1) [[.fn (.func 67) [] [pT 3,pT 0]],[iI c2],w3.d,[iI r.2]])∧(∀(s1:(List zKr))(c2:Int)(w3:zKr)(c4:Int)(r:Bool×Int)(_:zBA fuel s1 c2 w3 c4=some r),Raw Tryz.prog 70 [.sl (s1.map zKr.c),.fn (.func 71) [] [pT 0,pT 1,pT 2]] [[.fn (.func 67) [] [pT 3,pT 0]],[iI c2],w3.d,[iI c4]] (.bool r.1) [[.fn (.func 67) [] [pT 3,pT 0]],[iI c2],w3.d,[iI r.2]])∧(∀(t1:zKr)(depth2:Int)(inWith3:Bool)(c4:Int)(r:Bool×Int)(_:zBi fuel t1 depth2 inWith3 c4=some r),Raw Tryz.prog 67 [.agg t1.d,iI depth2,.bool inWith3,pT 0,pT 1] [[iI c4],[.fn (.func 67) [] [pT 0,pT 1]]] (.bool r.1) [[iI r.2],[.fn (.func 67) [] [pT 0,pT 1]]]):=by
 induction fuel with
 |zero=>
  refine⟨?_,?_,?_,?_⟩
  ·intro x1 c2 w3 c4 r h;rw[zB7] at h;cases h
  ·intro s1 c2 w3 c4 r h;rw[zBL] at h;cases h
  ·intro s1 c2 w3 c4 r h;rw[zBA] at h;cases h
  ·intro t1 depth2 inWith3 c4 r h;rw[zBi] at h;cases h
 |succ fuel ih=>
  obtain⟨zG0,zD0,zDp,zHt⟩:=ih
  refine⟨?_,?_,?_,?_⟩
  ·intro x1 c2 w3 c4 r h
   rw[zB7] at h
   refine zA9 Tryz.func71 (by rfl) (by rfl) (by simp) (by simp)<|cutA 15 4 [(1,pT 0),(2,pT 1),(3,pT 2),(4,pT 4)] [[.fn (.func 67) [] [pT 3,pT 0]],[iI c2],w3.d,[iI c4],x1.d] ?_
   obtain⟨n5,q6,h⟩:=bs h
   obtain⟨q7,q8⟩:=zEi q6
   try simp at q7
   try simp at q8
   have c9:=q7;simp only[Rng,inR] at c9
   obtain⟨v10,q11,h⟩:=bs h
   refine cut 15 4 [(5,.bool (!v10.1))] [[.fn (.func 67) [] [pT 3,pT 0]],[iI c2],w3.d,[iI v10.2],x1.d] ?_ ?_
   ·refine st ?_
    simp[q7,q8]
    have r12:=(zHt x1 n5 (eqI w3.Op 74) c4 v10 q11).frame [3,0] [[.fn (.func 67) [] [pT 3,pT 0]],[iI c2],w3.d,[iI c4],x1.d] (by simp)
    try simp[q7,q8] at r12
    refine zAK r12 (by simp[q7,q8]) rfl ?_
    simp[q7,q8]
   refine zAA ?_
   cases h
   simp
  ·intro s1 c2 w3 c4 r h
   rw[zBL] at h
   refine zA9 Tryz.func101 (by rfl) (by rfl) (by simp) (by simp)<|cutA 19 4 [(0,.sl (s1.map zKr.c)),(1,.fn (.func 71) [] [pT 0,pT 1,pT 2])] [[.fn (.func 67) [] [pT 3,pT 0]],[iI c2],w3.d,[iI c4]]<|zAF<|cutA 19 4 [(0,.sl (s1.map zKr.c)),(1,.fn (.func 71) [] [pT 0,pT 1,pT 2]),(7,iI s1.length),(8,iI 0)] [[.fn (.func 67) [] [pT 3,pT 0]],[iI c2],w3.d,[iI c4]]<|zAP ?_
   obtain⟨o8,l9,h⟩:=bs h
   refine zCd (fun p:Nat×Int×Nat=>mkS 19 4 [(0,.sl (s1.map zKr.c)),(1,.fn (.func 71) [] [pT 0,pT 1,pT 2]),(7,iI s1.length),(8,iI p.2.2)] [[.fn (.func 67) [] [pT 3,pT 0]],[iI c2],w3.d,[iI p.2.1]]) (fun p=>zAY (zB7 fuel) s1 c2 w3 p.1 p.2.1 p.2.2=some o8) (fun p=>p.1) (fuel,c4,0) l9 (zBe (by simp)) ?_
   rintro⟨k10,a5,i6⟩ l9
   try dsimp only at l9 ⊢
   cases k10 with
   |zero=>
    rw[zAY] at l9;cases l9
   |succ k11=>
    rw[zAY] at l9
    refine cutA 19 4 [(0,.sl (s1.map zKr.c)),(1,.fn (.func 71) [] [pT 0,pT 1,pT 2]),(7,iI s1.length),(8,iI i6),(9,.bool (ltI i6 s1.length))] [[.fn (.func 67) [] [pT 3,pT 0]],[iI c2],w3.d,[iI a5]]<|zAF<|spc l9 rfl (fun g12 l9=>?_) fun g12 l9=>?_
    ·have c13:=ltT g12
     refine zGm 0 rfl fun f14=>?_
     rw[zq4] at f14
     refine zAC<|zAN<|zAF<|zAP<|cutA 19 4 [(0,.sl (s1.map zKr.c)),(1,.fn (.func 71) [] [pT 0,pT 1,pT 2]),(5,iI i6),(7,iI s1.length),(8,iI i6)] [[.fn (.func 67) [] [pT 3,pT 0]],[iI c2],w3.d,[iI a5]] ?_
     obtain⟨x15,q16,l9⟩:=bs l9
     obtain⟨v17,q18,l9⟩:=bs l9
     refine cut 19 4 [(0,.sl (s1.map zKr.c)),(1,.fn (.func 71) [] [pT 0,pT 1,pT 2]),(5,iI i6),(7,iI s1.length),(8,iI i6),(16,.bool v17.1)] [[.fn (.func 67) [] [pT 3,pT 0]],[iI c2],w3.d,[iI v17.2]] ?_ ?_
     ·refine st ?_
      simp[q16]
      have r21:=(zG0 x15 c2 w3 a5 v17 q18).frame [0,1,2,3] [[.fn (.func 67) [] [pT 3,pT 0]],[iI c2],w3.d,[iI a5]] (by simp)
      try simp[q16] at r21
      refine zAK r21 (by simp[q16]) rfl ?_
      simp[q16]
     refine spc l9 rfl (fun g19 l9=>?_) fun g19 l9=>?_
     ·refine cutA 19 4 [(4,iI i6)] [[.fn (.func 67) [] [pT 3,pT 0]],[iI c2],w3.d,[iI v17.2]]<|zAA<|zAD<|zAB ?_
      replace h:=retL l9 h
      refine zAB<|zAD<|zAB ?_
      cases h
      simp
     refine zAC<|zDb<|zAN ?_
     have q20:Rng .i64 (((i6:Nat):Int)+1):=by simp only[Rng,inR];omega
     try simp at q20
     refine last 19 4 [(0,.sl (s1.map zKr.c)),(1,.fn (.func 71) [] [pT 0,pT 1,pT 2]),(7,iI s1.length),(8,iI ((i6+1:Nat):Int))] [[.fn (.func 67) [] [pT 3,pT 0]],[iI c2],w3.d,[iI v17.2]] (st (by simp[q20])) fun zz hs=>?_
     exact⟨(k11,v17.2,i6+1),hs,l9,by simp⟩
    have c22:=ltF g12
    refine zGm 0 rfl fun f23=>?_
    rw[zq4] at f23
    refine zBv<|zAm ?_
    rcases o8 with o8|o7
    ·cases l9
    have q24:=Sum.inr.inj (zqa l9)
    replace h:=zCP h
    have q24:=q24.symm
    refine zAm<|zBu<|zDI (t:=mkS 19 4 [] [[.fn (.func 67) [] [pT 3,pT 0]],[iI c2],w3.d,[iI o7]]) ?_ (zBe (by simp[q24]))
    refine cutA 19 4 [(4,iI (-1))] [[.fn (.func 67) [] [pT 3,pT 0]],[iI c2],w3.d,[iI o7]]<|zAA ?_
    cases h
    simp
  ·intro s1 c2 w3 c4 r h
   rw[zBA] at h
   refine zA9 Tryz.func70 (by rfl) (by rfl) (by simp) (by simp)<|cutA 9 4 [(0,.sl (s1.map zKr.c)),(1,.fn (.func 71) [] [pT 0,pT 1,pT 2])] [[.fn (.func 67) [] [pT 3,pT 0]],[iI c2],w3.d,[iI c4]] ?_
   obtain⟨v5,q6,h⟩:=bs h
   refine cut 9 4 [(4,.bool (leI 0 v5.1))] [[.fn (.func 67) [] [pT 3,pT 0]],[iI c2],w3.d,[iI v5.2]] ?_ ?_
   ·refine st ?_
    simp
    have r7:=(zD0 s1 c2 w3 c4 v5 q6).frame [0,1,2,3] [[.fn (.func 67) [] [pT 3,pT 0]],[iI c2],w3.d,[iI c4]] (by simp)
    try simp at r7
    refine zAK r7 (by simp) rfl ?_
    simp
   refine zAA ?_
   cases h
   simp
  ·intro t1 depth2 inWith3 c4 r h
   rw[zBi] at h
   refine zA9 Tryz.func67 (by rfl) (by rfl) (by simp) (by simp)<|cutA 33 2 [(2,.bool inWith3),(3,pT 0),(4,pT 1),(5,pT 2),(6,pT 3)] [[iI c4],[.fn (.func 67) [] [pT 0,pT 1]],t1.d,[iI depth2]] ?_
   obtain⟨n5,q6,h⟩:=bs h
   obtain⟨q7,q8⟩:=zEi q6
   try simp at q7
   try simp at q8
   have c9:=q7;simp only[Rng,inR] at c9
   refine cut 33 2 [(2,.bool inWith3),(3,pT 0),(4,pT 1),(5,pT 2),(6,pT 3)] [[iI n5],[.fn (.func 67) [] [pT 0,pT 1]],t1.d,[iI depth2]] (st (by simp[q7,q8]))<|zAF ?_
   obtain⟨b23,q24,h⟩:=bs h
   refine cut 33 2 [(4,pT 1),(5,pT 2),(6,pT 3),(27,.bool b23)] [[iI n5],[.fn (.func 67) [] [pT 0,pT 1]],t1.d,[iI depth2]] ?_ ?_
   ·rcases sp q24 with ⟨g10,q24⟩|⟨g10,q24⟩
    ·have c11:=ltT g10
     obtain rfl:=oi q24
     refine st ?_
     simp[g10]
    have c12:=ltF g10
    rcases sp q24 with ⟨g13,q24⟩|⟨g13,q24⟩
    ·have c14:=ltT g13
     obtain rfl:=oi q24
     refine st ?_
     simp[g10,g13]
    have c15:=ltF g13
    obtain⟨v16,q17,q24⟩:=bs q24
    rcases sp q24 with ⟨g18,q24⟩|⟨g18,q24⟩
    ·have g19:=notT g18
     obtain rfl:=oi q24
     refine st ?_
     simp[g10,g13,g18]
     have r29:=zH5 fuel t1 inWith3 v16 q17
     try simp[g10,g13,g18] at r29
     refine cP r29 ?_
     simp[g10,g13,g18]
    have g20:=notF g18
    obtain⟨v21,q22,q24⟩:=bs q24
    obtain rfl:=oi q24
    refine st ?_
    simp[g10,g13,g18]
    have r30:=zH5 fuel t1 inWith3 v16 q17
    try simp[g10,g13,g18] at r30
    refine cP r30 ?_
    simp[g10,g13,g18]
    have r31:=zJG fuel t1 v21 q22
    try simp[g10,g13,g18] at r31
    refine cP r31 ?_
    simp[g10,g13,g18]
   refine spc h rfl (fun g25 h=>?_) fun g25 h=>?_
   ·refine cutA 33 2 [(8,.bool false)] [[iI n5],[.fn (.func 67) [] [pT 0,pT 1]],t1.d,[iI depth2]]<|zAA<|zAB ?_
    cases h
    simp
   refine zAC<|zAN ?_
   obtain⟨v26,q27,h⟩:=bs h
   refine cut 33 2 [(8,.bool (!v26.1))] [[iI v26.2],[.fn (.func 67) [] [pT 0,pT 1]],t1.d,[iI depth2]] ?_ ?_
   ·refine st ?_
    simp
    have r28:=(zDp t1.L depth2 t1 n5 v26 q27).frame [1,3,2,0] [[iI n5],[.fn (.func 67) [] [pT 0,pT 1]],t1.d,[iI depth2]] (by simp)
    try simp at r28
    refine zAK r28 (by simp) rfl ?_
    simp
   refine zAA ?_
   cases h
   simp
theorem zHd(fuel:Nat):(∀(t1:zKr)(depth2:Int)(inWith3:Bool)(c4:Int)(r:Bool×Int)(_:zBi fuel t1 depth2 inWith3 c4=some r),Raw Tryz.prog 67 [.agg t1.d,iI depth2,.bool inWith3,pT 0,pT 1] [[iI c4],[.fn (.func 67) [] [pT 0,pT 1]]] (.bool r.1) [[iI r.2],[.fn (.func 67) [] [pT 0,pT 1]]]):=(zC0 fuel).2.2.2
theorem zIe(fuel:Nat)(t1:zKr)(r:Bool)(h:zE4 fuel t1=some r):Pure Tryz.prog 41 [.agg t1.d] (.bool r):=by
 rw[zE4] at h
 refine zAQ Tryz.func41 (by rfl) (by rfl) (by simp) (by simp) (by simp)<|cutA 9 0 [(1,pT 0)] [t1.d]<|cutA 9 0 [(1,pT 0),(3,pT 1)] [t1.d,[iI 0]]<|cutA 9 0 [(1,pT 0),(3,pT 1),(4,pT 2)] [t1.d,[iI 0],[.nilfn]]<|cutA 9 0 [(1,pT 0),(4,pT 2)] [t1.d,[iI 0],[.fn (.func 67) [] [pT 1,pT 2]]] ?_
 obtain⟨v2,q3,h⟩:=bs h
 refine cut 9 0 [(2,.bool v2.1)] [t1.d,[iI v2.2],[.fn (.func 67) [] [pT 1,pT 2]]] ?_ ?_
 ·refine st ?_
  simp
  have r4:=(zHd fuel t1 1 false 0 v2 q3).frame [1,2] [t1.d,[iI 0],[.fn (.func 67) [] [pT 1,pT 2]]] (by simp)
  try simp at r4
  refine zAK r4 (by simp) rfl ?_
  simp
 refine zAA ?_
 cases h
 simp
theorem zJJ(fuel:Nat)(cat1:Int)(t2:zKr)(r:Bool)(h:zCu fuel cat1 t2=some r):Pure Tryz.prog 22 [iI cat1,.agg t2.d] (.bool r):=by
 rw[zCu] at h
 refine zAQ Tryz.func22 (by rfl) (by rfl) (by simp) (by simp) (by simp)<|cutA 12 0 [(0,iI cat1),(3,pT 0)] [t2.d] ?_
 obtain⟨b8,q9,h⟩:=bs h
 refine cut 12 0 [(4,.bool b8)] [t2.d] ?_ ?_
 ·obtain⟨v3,q4,q9⟩:=bs q9
  rcases sp q9 with ⟨g5,q9⟩|⟨g5,q9⟩
  ·obtain⟨v6,q7,q9⟩:=bs q9
   obtain rfl:=oi q9
   refine st ?_
   simp[g5]
   have r10:=zA6 cat1 t2 v3 q4
   try simp[g5] at r10
   refine cP r10 ?_
   simp[g5]
   have r11:=zIe fuel t2 v6 q7
   try simp[g5] at r11
   refine cP r11 ?_
   simp[g5]
  obtain rfl:=oi q9
  refine st ?_
  simp[g5]
  have r12:=zA6 cat1 t2 v3 q4
  try simp[g5] at r12
  refine cP r12 ?_
  simp[g5]
 refine zAA ?_
 cases h
 simp
theorem zEY(w1:zKm)(r:(Unit) ⊕ (Empty))(h:zDP w1=some r):Sum.elim (fun r=>RawP Tryz.prog 130 (pan1 112) [pT 0] [[.sl (w1.l.map zKp.c),iI w1.at_]] [[.sl (w1.l.map zKp.c),iI w1.at_]]) (fun r=>Raw Tryz.prog 130 [pT 0] [[.sl (w1.l.map zKp.c),iI w1.at_]] (.tup []) [[.sl (w1.l.map zKp.c),iI w1.at_]]) r:=by
 rw[zDP] at h
 refine zBz Tryz.func130 (by rfl) (by rfl) (by simp) (by simp)<|stP 2 ?_
 simp
 refine panK (by simp) ?_
 cases h
 simp
theorem zAJ(k1:Int)(w2:zKm)(r:(Unit) ⊕ ((List UInt8)×zKm))(h:zAT k1 w2=some r):Sum.elim (fun r=>RawP Tryz.prog 109 (pan1 112) [pT 0,iI k1] [[.sl (w2.l.map zKp.c),iI w2.at_]] [[.sl (w2.l.map zKp.c),iI w2.at_]]) (fun r=>Raw Tryz.prog 109 [pT 0,iI k1] [[.sl (w2.l.map zKp.c),iI w2.at_]] (.str r.1) [[.sl (r.2.l.map zKp.c),iI r.2.at_]]) r:=by
 rw[zAT] at h
 refine zBz Tryz.func109 (by rfl) (by rfl) (by simp) (by simp)<|cutA 30 1 [(0,pT 0),(1,iI k1)] [[.sl (w2.l.map zKp.c),iI w2.at_]]<|zAF ?_
 obtain⟨v3,q4,h⟩:=bs h
 refine cut 30 1 [(0,pT 0),(8,.bool (!v3))] [[.sl (w2.l.map zKp.c),iI w2.at_]] ?_ ?_
 ·refine st ?_
  simp
  have r27:=(zAX k1 w2 v3 q4).frame [0] [[.sl (w2.l.map zKp.c),iI w2.at_]] (by simp)
  try simp at r27
  refine zAK r27 (by simp) rfl ?_
  simp
 refine spc h rfl (fun g5 h=>?_) fun g5 h=>?_
 ·have g6:=notT g5
  obtain⟨v7,q8,h⟩:=bs h
  rcases v7 with e9|v10
  ·replace h:=zDB h
   refine stP 1 ?_
   simp
   have r11:=(panL (zEY w2 (.inl e9) q8)).frame [0] [[.sl (w2.l.map zKp.c),iI w2.at_]] (by simp)
   try simp at r11
   refine panC r11 (by simp) (by simp)<|zAS ?_
   cases h
   simp
  replace h:=zCP h
  cases v10
 have g12:=notF g5
 refine zAC<|zAN ?_
 obtain⟨n13,q14,h⟩:=bs h
 obtain⟨q15,q16⟩:=zEi q14
 try simp at q15
 try simp at q16
 have c17:=q15;simp only[Rng,inR] at c17
 refine cut 30 1 [(0,pT 0)] [[.sl (w2.l.map zKp.c),iI n13]] (st (by simp[q15,q16])) ?_
 obtain⟨n18,q19,h⟩:=bs h
 obtain⟨q20,q21⟩:=zEi q19
 try simp at q20
 try simp at q21
 have c22:=q20;simp only[Rng,inR] at c22
 obtain⟨x23,q24,h⟩:=bs h
 obtain⟨q25,q26⟩:=zGj q24
 refine cut 30 1 [(4,.str x23.Text)] [[.sl (w2.l.map zKp.c),iI n13]] ?_ ?_
 ·refine zAg [] mixed (n:=30) rfl (by decide) ?_
  simp[q20,q21,q25,q26]
 refine zAA ?_
 cases h
 simp
theorem zAU(s1:(List UInt8))(w2:zKm)(r:Bool)(h:zAI s1 w2=some r):Raw Tryz.prog 107 [pT 0,.str s1] [[.sl (w2.l.map zKp.c),iI w2.at_]] (.bool r) [[.sl (w2.l.map zKp.c),iI w2.at_]]:=by
 rw[zAI] at h
 refine zA9 Tryz.func107 (by rfl) (by rfl) (by simp) (by simp)<|cutA 30 1 [(0,pT 0),(1,.str s1)] [[.sl (w2.l.map zKp.c),iI w2.at_]] ?_
 obtain⟨x3,q4,h⟩:=bs h
 obtain⟨q5,q6⟩:=zGj q4
 refine cut 30 1 [(1,.str s1),(5,pT 1)] [[.sl (w2.l.map zKp.c),iI w2.at_],(zKp.c x3)] ?_ ?_
 ·refine zAg [] mixed (n:=30) rfl (by decide) ?_
  simp[q5,q6]
 refine cut 30 1 [(4,.bool (if eqI x3.Kind 6 then eqS x3.Text s1 else (eqI x3.Kind 7)&&(eqS x3.Text s1)))] [[.sl (w2.l.map zKp.c),iI w2.at_],(zKp.c x3)] ?_ ?_
 ·rcases tf (eqI x3.Kind 6) with g7|g7
  ·have c8:=eqT g7
   refine st ?_
   simp[g7]
  have c9:=eqF g7
  rcases tf (eqI x3.Kind 7) with g10|g10
  ·have c11:=eqT g10
   refine st ?_
   simp[g7,g10]
  have c12:=eqF g10
  refine st ?_
  simp[g7,g10]
 refine zAA ?_
 cases h
 simp
theorem zAO(s1:(List UInt8))(w2:zKm)(r:Bool×zKm)(h:zAH s1 w2=some r):Raw Tryz.prog 103 [pT 0,.str s1] [[.sl (w2.l.map zKp.c),iI w2.at_]] (.bool r.1) [[.sl (r.2.l.map zKp.c),iI r.2.at_]]:=by
 rw[zAH] at h
 refine zA9 Tryz.func103 (by rfl) (by rfl) (by simp) (by simp)<|cutA 16 1 [(0,pT 0),(1,.str s1)] [[.sl (w2.l.map zKp.c),iI w2.at_]]<|zAF ?_
 obtain⟨v3,q4,h⟩:=bs h
 refine cut 16 1 [(0,pT 0),(8,.bool (!v3))] [[.sl (w2.l.map zKp.c),iI w2.at_]] ?_ ?_
 ·refine st ?_
  simp
  have r13:=(zAU s1 w2 v3 q4).frame [0] [[.sl (w2.l.map zKp.c),iI w2.at_]] (by simp)
  try simp at r13
  refine zAK r13 (by simp) rfl ?_
  simp
 refine spc h rfl (fun g5 h=>?_) fun g5 h=>?_
 ·have g6:=notT g5
  refine cutA 16 1 [(4,.bool false)] [[.sl (w2.l.map zKp.c),iI w2.at_]]<|zAA<|zAB ?_
  cases h
  simp
 have g7:=notF g5
 refine zAC<|zAN ?_
 obtain⟨n8,q9,h⟩:=bs h
 obtain⟨q10,q11⟩:=zEi q9
 try simp at q10
 try simp at q11
 have c12:=q10;simp only[Rng,inR] at c12
 refine cut 16 1 [] [[.sl (w2.l.map zKp.c),iI n8]] (st (by simp[q10,q11]))<|cutA 16 1 [(4,.bool true)] [[.sl (w2.l.map zKp.c),iI n8]]<|zAA ?_
 cases h
 simp
theorem zAE(s1:(List UInt8))(w2:zKm)(r:(zKm) ⊕ (zKm))(h:zAL s1 w2=some r):Sum.elim (fun r=>RawP Tryz.prog 113 (pan1 112) [pT 0,.str s1] [[.sl (w2.l.map zKp.c),iI w2.at_]] [[.sl (r.l.map zKp.c),iI r.at_]]) (fun r=>Raw Tryz.prog 113 [pT 0,.str s1] [[.sl (w2.l.map zKp.c),iI w2.at_]] (.tup []) [[.sl (r.l.map zKp.c),iI r.at_]]) r:=by
 rw[zAL] at h
 refine zBz Tryz.func113 (by rfl) (by rfl) (by simp) (by simp) ?_
 obtain⟨v3,q4,h⟩:=bs h
 refine cut 10 1 [(0,pT 0),(7,.bool (!v3.1))] [[.sl (v3.2.l.map zKp.c),iI v3.2.at_]] ?_ ?_
 ·refine st ?_
  simp
  have r13:=(zAO s1 w2 v3 q4).frame [0] [[.sl (w2.l.map zKp.c),iI w2.at_]] (by simp)
  try simp at r13
  refine zAK r13 (by simp) rfl ?_
  simp
 refine spc h rfl (fun g5 h=>?_) fun g5 h=>?_
 ·have g6:=notT g5
  obtain⟨v7,q8,h⟩:=bs h
  rcases v7 with e9|v10
  ·replace h:=zDB h
   refine stP 1 ?_
   simp
   have r11:=(panL (zEY v3.2 (.inl e9) q8)).frame [0] [[.sl (v3.2.l.map zKp.c),iI v3.2.at_]] (by simp)
   try simp at r11
   refine panC r11 (by simp) (by simp) ?_
   cases h
   simp
  replace h:=zCP h
  cases v10
 have g12:=notF g5
 refine zAC ?_
 cases h
 simp
theorem zC8(fuel:Nat)(capital1:Bool)(w2:zKm)(r:(zKm) ⊕ ((List (List UInt8))×Bool×zKm))(h:zB4 fuel capital1 w2=some r):Sum.elim (fun r=>RawP Tryz.prog 110 (pan1 112) [pT 0,.bool capital1] [[.sl (w2.l.map zKp.c),iI w2.at_]] [[.sl (r.l.map zKp.c),iI r.at_]]) (fun r=>Raw Tryz.prog 110 [pT 0,.bool capital1] [[.sl (w2.l.map zKp.c),iI w2.at_]] (.tup [.sl (r.1.map cS),.bool r.2.1]) [[.sl (r.2.2.l.map zKp.c),iI r.2.2.at_]]) r:=by
 rw[zB4] at h
 refine zBz Tryz.func110 (by rfl) (by rfl) (by simp) (by simp)<|cutA 27 1 [(0,pT 0),(1,.bool capital1),(4,.osl ⟨1,9⟩ (([]:List (List UInt8)).map cS))] [[.sl (w2.l.map zKp.c),iI w2.at_]]<|zAF<|zAP ?_
 obtain⟨o7,l8,h⟩:=bs h
 refine zCd (fun p:Nat×(List zKp)×Int×(List (List UInt8))=>mkS 27 1 [(0,pT 0),(1,.bool capital1),(4,.osl ⟨1,9⟩ (p.2.2.2.map cS))] [[.sl (p.2.1.map zKp.c),iI p.2.2.1]]) (fun p=>zA8 capital1 p.1 p.2.1 p.2.2.1 p.2.2.2=some o7) (fun p=>p.1) (fuel,w2.l,w2.at_,([]:List (List UInt8))) l8 (zBe (by simp)) ?_
 rintro⟨k9,l3,at4,l5⟩ l8
 try dsimp only at l8 ⊢
 cases k9 with
 |zero=>
  rw[zA8] at l8;cases l8
 |succ k10=>
  rw[zA8] at l8
  refine zAF ?_
  obtain⟨v11,q12,l8⟩:=bs l8
  refine cut 27 1 [(0,pT 0),(1,.bool capital1),(4,.osl ⟨1,9⟩ (l5.map cS)),(7,.bool v11)] [[.sl (l3.map zKp.c),iI at4]] ?_ ?_
  ·refine st ?_
   simp
   have r51:=(zAX 2 (zKm.mk l3 at4) v11 q12).frame [0] [[.sl (l3.map zKp.c),iI at4]] (by simp)
   try simp at r51
   refine zAK r51 (by simp) rfl ?_
   simp
  refine spc l8 rfl (fun g13 l8=>?_) fun g13 l8=>?_
  ·refine zAC<|zAN<|zAP ?_
   obtain⟨v14,q15,l8⟩:=bs l8
   rcases v14 with e16|v17
   ·replace l8:=zDB l8
    refine zAF<|stP 2 ?_
    simp
    have r35:=(panL (zAJ 2 (zKm.mk l3 at4) (.inl e16) q15)).frame [0] [[.sl (l3.map zKp.c),iI at4]] (by simp)
    try simp at r35
    refine panC r35 (by simp) (by simp)<|zAS<|zA0 ?_
    replace h:=retL l8 h
    refine zAS<|zA0<|zAS ?_
    cases h
    simp
   replace l8:=zCP l8
   obtain⟨l18,q19,l8⟩:=bs l8
   obtain⟨q20,q21⟩:=zF7 q19
   try simp at q20
   refine cut 27 1 [(0,pT 0),(1,.bool capital1),(4,.osl ⟨1,9⟩ (l18.map cS))] [[.sl (v17.2.l.map zKp.c),iI v17.2.at_]] ?_ ?_
   ·refine st ?_
    simp[q20,q21]
    have r36:=(panR (zAJ 2 (zKm.mk l3 at4) (.inr v17) q15)).frame [0] [[.sl (l3.map zKp.c),iI at4]] (by simp)
    try simp[q20,q21] at r36
    refine zAK r36 (by simp[q20,q21]) rfl ?_
    simp[q20,q21]
   refine zAF ?_
   obtain⟨b25,q26,l8⟩:=bs l8
   refine cut 27 1 [(0,pT 0),(1,.bool capital1),(4,.osl ⟨1,9⟩ (l18.map cS)),(18,.bool b25)] [[.sl (v17.2.l.map zKp.c),iI v17.2.at_]] ?_ ?_
   ·rcases sp q26 with ⟨g22,q26⟩|⟨g22,q26⟩
    ·obtain⟨v23,q24,q26⟩:=bs q26
     obtain rfl:=oi q26
     refine st ?_
     simp[g22]
     have r34:=(zAU [46] v17.2 v23 q24).frame [0] [[.sl (v17.2.l.map zKp.c),iI v17.2.at_]] (by simp)
     try simp[g22] at r34
     refine zAK r34 (by simp[g22]) rfl ?_
     simp[g22]
    obtain rfl:=oi q26
    refine st ?_
    simp[g22]
   refine spc l8 rfl (fun g27 l8=>?_) fun g27 l8=>?_
   ·refine cutA 27 1 [(4,.osl ⟨1,9⟩ (l18.map cS)),(5,.bool false)] [[.sl (v17.2.l.map zKp.c),iI v17.2.at_]]<|zAA<|zAB<|zAD ?_
    replace h:=retL l8 h
    refine zAB<|zAD<|zAB ?_
    cases h
    simp
   refine zAC<|zAN ?_
   obtain⟨v28,q29,l8⟩:=bs l8
   rcases v28 with e30|v31
   ·replace l8:=zDB l8
    refine stP 1 ?_
    simp
    have r32:=(panL (zAE [46] v17.2 (.inl e30) q29)).frame [0] [[.sl (v17.2.l.map zKp.c),iI v17.2.at_]] (by simp)
    try simp at r32
    refine panC r32 (by simp) (by simp)<|zA0 ?_
    replace h:=retL l8 h
    refine zAS<|zA0<|zAS ?_
    cases h
    simp
   replace l8:=zCP l8
   refine last 27 1 [(0,pT 0),(1,.bool capital1),(4,.osl ⟨1,9⟩ (l18.map cS))] [[.sl (v31.l.map zKp.c),iI v31.at_]] ?_ fun zz hs=>?_
   ·refine st ?_
    simp
    have r33:=(panR (zAE [46] v17.2 (.inr v31) q29)).frame [0] [[.sl (v17.2.l.map zKp.c),iI v17.2.at_]] (by simp)
    try simp at r33
    refine zAK r33 (by simp) rfl ?_
    simp
   refine zDb ?_
   exact⟨(k10,v31.l,v31.at_,l18),hs,l8,by simp⟩
  refine zBv<|zAm ?_
  rcases o7 with o7|o6
  ·cases l8
  have q37:=Sum.inr.inj (zqa l8)
  replace h:=zCP h
  have q38:o6.1=l5:=by rw[<-q37]
  have q39:o6.2.1=l3:=by rw[<-q37]
  have q40:o6.2.2=at4:=by rw[<-q37]
  refine zAm<|zBu<|zDI (t:=mkS 27 1 [(0,pT 0),(4,.osl ⟨1,9⟩ (o6.1.map cS))] [[.sl (o6.2.1.map zKp.c),iI o6.2.2]]) ?_ (zBe (by simp[q38,q39,q40]))
  obtain⟨v41,q42,h⟩:=bs h
  rcases v41 with e43|v44
  ·replace h:=zDB h
   refine zAF<|stP 2 ?_
   simp
   have r49:=(panL (zAJ 1 (zKm.mk o6.2.1 o6.2.2) (.inl e43) q42)).frame [0] [[.sl (o6.2.1.map zKp.c),iI o6.2.2]] (by simp)
   try simp at r49
   refine panC r49 (by simp) (by simp)<|zAS ?_
   cases h
   simp
  replace h:=zCP h
  obtain⟨l45,q46,h⟩:=bs h
  obtain⟨q47,q48⟩:=zF7 q46
  try simp at q47
  refine cut 27 1 [(4,.osl ⟨1,9⟩ (l45.map cS)),(5,.bool true)] [[.sl (v44.2.l.map zKp.c),iI v44.2.at_]] ?_ ?_
  ·refine st ?_
   simp[q47,q48]
   have r50:=(panR (zAJ 1 (zKm.mk o6.2.1 o6.2.2) (.inr v44) q42)).frame [0] [[.sl (o6.2.1.map zKp.c),iI o6.2.2]] (by simp)
   try simp[q47,q48] at r50
   refine zAK r50 (by simp[q47,q48]) rfl ?_
   simp[q47,q48]
  refine zAA ?_
  cases h
  simp
theorem zBk(fuel:Nat)(args1:(List zKr))(w2:zKm)(r:(zKm) ⊕ (zKr×zKm))(h:zBF fuel args1 w2=some r):Sum.elim (fun r=>RawP Tryz.prog 140 (pan1 112) [pT 0,.sl (args1.map zKr.c)] [[.sl (w2.l.map zKp.c),iI w2.at_]] [[.sl (r.l.map zKp.c),iI r.at_]]) (fun r=>Raw Tryz.prog 140 [pT 0,.sl (args1.map zKr.c)] [[.sl (w2.l.map zKp.c),iI w2.at_]] (.agg (zKr.d r.1)) [[.sl (r.2.l.map zKp.c),iI r.2.at_]]) r:=by
 rw[zBF] at h
 refine zBz Tryz.func140 (by rfl) (by rfl) (by simp) (by simp)<|cutA 15 1 [(0,pT 0),(1,.sl (args1.map zKr.c)),(4,pT 1)] [[.sl (w2.l.map zKp.c),iI w2.at_],zz0] ?_
 obtain⟨v3,q4,h⟩:=bs h
 rcases v3 with e5|v6
 ·replace h:=zDB h
  refine zAF<|stP 1 ?_
  simp
  have r7:=(panL (zC8 fuel false w2 (.inl e5) q4)).frame [0] [[.sl (w2.l.map zKp.c),iI w2.at_],zz0] (by simp)
  try simp at r7
  refine panC r7 (by simp) (by simp)<|zAS ?_
  cases h
  simp
 replace h:=zCP h
 refine cut 15 1 [(1,.sl (args1.map zKr.c)),(4,pT 1),(5,.sl (v6.1.map cS))] [[.sl (v6.2.2.l.map zKp.c),iI v6.2.2.at_],zz0] ?_ ?_
 ·refine st ?_
  simp
  have r8:=(panR (zC8 fuel false w2 (.inr v6) q4)).frame [0] [[.sl (w2.l.map zKp.c),iI w2.at_],zz0] (by simp)
  try simp at r8
  refine zAK r8 (by simp) rfl ?_
  simp
 refine cutA 15 1 [(4,pT 1)] [[.sl (v6.2.2.l.map zKp.c),iI v6.2.2.at_],[iI 2,iI 0,.str ([]:List UInt8),.sl (v6.1.map cS),.sl (args1.map zKr.c)]]<|zAA ?_
 cases h
 simp
theorem zAe(fuel:Nat)(w1:zKm)(r:(zKm) ⊕ ((List (List UInt8))×zKm))(h:zAo fuel w1=some r):Sum.elim (fun r=>RawP Tryz.prog 105 (pan1 112) [pT 0] [[.sl (w1.l.map zKp.c),iI w1.at_]] [[.sl (r.l.map zKp.c),iI r.at_]]) (fun r=>Raw Tryz.prog 105 [pT 0] [[.sl (w1.l.map zKp.c),iI w1.at_]] (.sl (r.1.map cS)) [[.sl (r.2.l.map zKp.c),iI r.2.at_]]) r:=by
 rw[zAo] at h
 refine zBz Tryz.func105 (by rfl) (by rfl) (by simp) (by simp)<|cutA 15 1 [(0,pT 0)] [[.sl (w1.l.map zKp.c),iI w1.at_]] ?_
 obtain⟨v2,q3,h⟩:=bs h
 rcases v2 with e4|v5
 ·replace h:=zDB h
  refine zAF<|stP 1 ?_
  simp
  have r32:=(panL (zAJ 2 w1 (.inl e4) q3)).frame [0] [[.sl (w1.l.map zKp.c),iI w1.at_]] (by simp)
  try simp at r32
  refine panC r32 (by simp) (by simp)<|zAS ?_
  cases h
  simp
 replace h:=zCP h
 refine cut 15 1 [(0,pT 0),(3,.osl ⟨1,9⟩ ([v5.1].map cS))] [[.sl (v5.2.l.map zKp.c),iI v5.2.at_]] ?_ ?_
 ·refine st ?_
  simp
  have r33:=(panR (zAJ 2 w1 (.inr v5) q3)).frame [0] [[.sl (w1.l.map zKp.c),iI w1.at_]] (by simp)
  try simp at r33
  refine zAK r33 (by simp) rfl ?_
  simp
 refine zAF<|zAP ?_
 obtain⟨o10,l11,h⟩:=bs h
 refine zCd (fun p:Nat×(List zKp)×Int×(List (List UInt8))=>mkS 15 1 [(0,pT 0),(3,.osl ⟨1,9⟩ (p.2.2.2.map cS))] [[.sl (p.2.1.map zKp.c),iI p.2.2.1]]) (fun p=>zAv p.1 p.2.1 p.2.2.1 p.2.2.2=some o10) (fun p=>p.1) (fuel,v5.2.l,v5.2.at_,[v5.1]) l11 (zBe (by simp)) ?_
 rintro⟨k12,l6,at7,out8⟩ l11
 try dsimp only at l11 ⊢
 cases k12 with
 |zero=>
  rw[zAv] at l11;cases l11
 |succ k13=>
  rw[zAv] at l11
  refine zAF ?_
  obtain⟨v14,q15,l11⟩:=bs l11
  refine cut 15 1 [(0,pT 0),(3,.osl ⟨1,9⟩ (out8.map cS)),(8,.bool v14.1)] [[.sl (v14.2.l.map zKp.c),iI v14.2.at_]] ?_ ?_
  ·refine st ?_
   simp
   have r31:=(zAO [46] (zKm.mk l6 at7) v14 q15).frame [0] [[.sl (l6.map zKp.c),iI at7]] (by simp)
   try simp at r31
   refine zAK r31 (by simp) rfl ?_
   simp
  refine spc l11 rfl (fun g16 l11=>?_) fun g16 l11=>?_
  ·refine zAC<|zAN<|zAP ?_
   obtain⟨v17,q18,l11⟩:=bs l11
   rcases v17 with e19|v20
   ·replace l11:=zDB l11
    refine stP 2 ?_
    simp
    have r25:=(panL (zAJ 2 v14.2 (.inl e19) q18)).frame [0] [[.sl (v14.2.l.map zKp.c),iI v14.2.at_]] (by simp)
    try simp at r25
    refine panC r25 (by simp) (by simp)<|zA0 ?_
    replace h:=retL l11 h
    refine zAS<|zA0<|zAS ?_
    cases h
    simp
   replace l11:=zCP l11
   obtain⟨l21,q22,l11⟩:=bs l11
   obtain⟨q23,q24⟩:=zF7 q22
   try simp at q23
   refine last 15 1 [(0,pT 0),(3,.osl ⟨1,9⟩ (l21.map cS))] [[.sl (v20.2.l.map zKp.c),iI v20.2.at_]] ?_ fun zz hs=>?_
   ·refine st ?_
    simp[q23,q24]
    have r26:=(panR (zAJ 2 v14.2 (.inr v20) q18)).frame [0] [[.sl (v14.2.l.map zKp.c),iI v14.2.at_]] (by simp)
    try simp[q23,q24] at r26
    refine zAK r26 (by simp[q23,q24]) rfl ?_
    simp[q23,q24]
   refine zDb ?_
   exact⟨(k13,v20.2.l,v20.2.at_,l21),hs,l11,by simp⟩
  refine zBv<|zAm ?_
  rcases o10 with o10|o9
  ·cases l11
  have q27:=Sum.inr.inj (zqa l11)
  replace h:=zCP h
  have q28:o9.1=out8:=by rw[<-q27]
  have q29:o9.2.1=v14.2.l:=by rw[<-q27]
  have q30:o9.2.2=v14.2.at_:=by rw[<-q27]
  refine zAm<|zBu<|zDI (t:=mkS 15 1 [(3,.osl ⟨1,9⟩ (o9.1.map cS))] [[.sl (o9.2.1.map zKp.c),iI o9.2.2]]) ?_ (zBe (by simp[q28,q29,q30]))
  refine cutA 15 1 [(2,.osl ⟨1,9⟩ (o9.1.map cS))] [[.sl (o9.2.1.map zKp.c),iI o9.2.2]]<|zAA ?_
  cases h
  simp
theorem zBl(w1:zKm)(r:Bool)(h:zBJ w1=some r):Raw Tryz.prog 106 [pT 0] [[.sl (w1.l.map zKp.c),iI w1.at_]] (.bool r) [[.sl (w1.l.map zKp.c),iI w1.at_]]:=by
 rw[zBJ] at h
 refine zA9 Tryz.func106 (by rfl) (by rfl) (by simp) (by simp)<|cutA 9 1 [(0,pT 0)] [[.sl (w1.l.map zKp.c),iI w1.at_]] ?_
 obtain⟨b7,q8,h⟩:=bs h
 refine cut 9 1 [(2,.bool b7)] [[.sl (w1.l.map zKp.c),iI w1.at_]] ?_ ?_
 ·obtain⟨v2,q3,q8⟩:=bs q8
  rcases sp q8 with ⟨g4,q8⟩|⟨g4,q8⟩
  ·obtain rfl:=oi q8
   refine st ?_
   simp[g4]
   have r9:=(zAX 2 w1 v2 q3).frame [0] [[.sl (w1.l.map zKp.c),iI w1.at_]] (by simp)
   try simp[g4] at r9
   refine zAK r9 (by simp[g4]) rfl ?_
   simp[g4]
  obtain⟨v5,q6,q8⟩:=bs q8
  obtain rfl:=oi q8
  refine st ?_
  simp[g4]
  have r10:=(zAX 2 w1 v2 q3).frame [0] [[.sl (w1.l.map zKp.c),iI w1.at_]] (by simp)
  try simp[g4] at r10
  refine zAK r10 (by simp[g4]) rfl ?_
  simp[g4]
  have r11:=(zAX 1 w1 v5 q6).frame [0] [[.sl (w1.l.map zKp.c),iI w1.at_]] (by simp)
  try simp[g4] at r11
  refine zAK r11 (by simp[g4]) rfl ?_
  simp[g4]
 refine zAA ?_
 cases h
 simp
theorem zDK(fuel:Nat):(∀(w1:zKm)(r:(zKm) ⊕ (zKr×zKm))(_:zB9 fuel w1=some r),Sum.elim (fun r=>RawP Tryz.prog 139 (pan1 112) [pT 0] [[.sl (w1.l.map zKp.c),iI w1.at_]] [[.sl (r.l.map zKp.c),iI r.at_]]) (fun r=>Raw Tryz.prog 139 [pT 0] [[.sl (w1.l.map zKp.c),iI w1.at_]] (.agg (zKr.d r.1)) [[.sl (r.2.l.map zKp.c),iI r.2.at_]]) r)∧(∀(w1:zKm)(r:(zKm) ⊕ (zKr×zKm))(_:zBM fuel w1=some r),Sum.elim (fun r=>RawP Tryz.prog 128 (pan1 112) [pT 0] [[.sl (w1.l.map zKp.c),iI w1.at_]] [[.sl (r.l.map zKp.c),iI r.at_]]) (fun r=>Raw Tryz.prog 128 [pT 0] [[.sl (w1.l.map zKp.c),iI w1.at_]] (.agg (zKr.d r.1)) [[.sl (r.2.l.map zKp.c),iI r.2.at_]]) r)∧(∀(w1:zKm)(r:(zKm) ⊕ (zKr×zKm))(_:zB1 fuel w1=some r),Sum.elim (fun r=>RawP Tryz.prog 102 (pan1 112) [pT 0] [[.sl (w1.l.map zKp.c),iI w1.at_]] [[.sl (r.l.map zKp.c),iI r.at_]]) (fun r=>Raw Tryz.prog 102 [pT 0] [[.sl (w1.l.map zKp.c),iI w1.at_]] (.agg (zKr.d r.1)) [[.sl (r.2.l.map zKp.c),iI r.2.at_]]) r)∧(∀(w1:zKm)(r:(zKm) ⊕ (zKr×zKm))(_:zAu fuel w1=some r),Sum.elim (fun r=>RawP Tryz.prog 73 (pan1 112) [pT 0] [[.sl (w1.l.map zKp.c),iI w1.at_]] [[.sl (r.l.map zKp.c),iI r.at_]]) (fun r=>Raw Tryz.prog 73 [pT 0] [[.sl (w1.l.map zKp.c),iI w1.at_]] (.agg (zKr.d r.1)) [[.sl (r.2.l.map zKp.c),iI r.2.at_]]) r):=by
 induction fuel with
 |zero=>
  refine⟨?_,?_,?_,?_⟩
  ·intro w1 r h;rw[zB9] at h;cases h
  ·intro w1 r h;rw[zBM] at h;cases h
  ·intro w1 r h;rw[zB1] at h;cases h
  ·intro w1 r h;rw[zAu] at h;cases h
 |succ fuel ih=>
  obtain⟨zD4,zCl,zDz,zCR⟩:=ih
  refine⟨?_,?_,?_,?_⟩
  ·intro w1 r h
   rw[zB9] at h
   refine zBz Tryz.func139 (by rfl) (by rfl) (by simp) (by simp)<|cutA 44 1 [(0,pT 0),(2,pT 1)] [[.sl (w1.l.map zKp.c),iI w1.at_],zz0]<|zAF ?_
   obtain⟨v2,q3,h⟩:=bs h
   refine cut 44 1 [(0,pT 0),(2,pT 1),(6,.bool v2)] [[.sl (w1.l.map zKp.c),iI w1.at_],zz0] ?_ ?_
   ·refine st ?_
    simp
    have r88:=(zAX 3 w1 v2 q3).frame [0] [[.sl (w1.l.map zKp.c),iI w1.at_],zz0] (by simp)
    try simp at r88
    refine zAK r88 (by simp) rfl ?_
    simp
   refine spc h rfl (fun g4 h=>?_) fun g4 h=>?_
   ·obtain⟨v5,q6,h⟩:=bs h
    rcases v5 with e7|v8
    ·replace h:=zDB h
     refine zAF<|stP 1 ?_
     simp
     have r9:=(panL (zAJ 3 w1 (.inl e7) q6)).frame [0] [[.sl (w1.l.map zKp.c),iI w1.at_],zz0] (by simp)
     try simp at r9
     refine panC r9 (by simp) (by simp)<|zAS<|zAS ?_
     cases h
     simp
    replace h:=zCP h
    refine cut 44 1 [(2,pT 1)] [[.sl (v8.2.l.map zKp.c),iI v8.2.at_],[iI 1,iI 0,.str v8.1,.osl ⟨1,9⟩ (([]:List (List UInt8)).map cS),.osl ⟨5,26⟩ (([]:List zKr).map zKr.c)]] ?_ ?_
    ·refine st ?_
     simp
     have r10:=(panR (zAJ 3 w1 (.inr v8) q6)).frame [0] [[.sl (w1.l.map zKp.c),iI w1.at_],zz0] (by simp)
     try simp at r10
     refine zAK r10 (by simp) rfl ?_
     simp
    refine zAA<|zAB ?_
    cases h
    simp
   refine zAC<|zAN<|zAF ?_
   obtain⟨v11,q12,h⟩:=bs h
   refine cut 44 1 [(0,pT 0),(2,pT 1),(12,.bool (!v11.1))] [[.sl (v11.2.l.map zKp.c),iI v11.2.at_],zz0] ?_ ?_
   ·refine st ?_
    simp
    have r87:=(zAO [40] w1 v11 q12).frame [0] [[.sl (w1.l.map zKp.c),iI w1.at_],zz0] (by simp)
    try simp at r87
    refine zAK r87 (by simp) rfl ?_
    simp
   refine spc h rfl (fun g13 h=>?_) fun g13 h=>?_
   ·have g14:=notT g13
    obtain⟨v15,q16,h⟩:=bs h
    rcases v15 with e17|v18
    ·replace h:=zDB h
     refine zAF<|stP 1 ?_
     simp
     have r19:=(panL (zBk fuel ([]:List zKr) v11.2 (.inl e17) q16)).frame [0] [[.sl (v11.2.l.map zKp.c),iI v11.2.at_],zz0] (by simp)
     try simp at r19
     refine panC r19 (by simp) (by simp)<|zAS<|zAS ?_
     cases h
     simp
    replace h:=zCP h
    refine cut 44 1 [(2,pT 1)] [[.sl (v18.2.l.map zKp.c),iI v18.2.at_],(zKr.d v18.1)] ?_ ?_
    ·refine st ?_
     simp
     have r20:=(panR (zBk fuel ([]:List zKr) v11.2 (.inr v18) q16)).frame [0] [[.sl (v11.2.l.map zKp.c),iI v11.2.at_],zz0] (by simp)
     try simp at r20
     refine zAK r20 (by simp) rfl ?_
     simp
    refine zAA<|zAB ?_
    cases h
    simp
   have g21:=notF g13
   refine zAC<|zAN<|zAF ?_
   obtain⟨v22,q23,h⟩:=bs h
   refine cut 44 1 [(0,pT 0),(2,pT 1),(16,.bool v22.1)] [[.sl (v22.2.l.map zKp.c),iI v22.2.at_],zz0] ?_ ?_
   ·refine st ?_
    simp
    have r86:=(zAO [109,111,100,117,108,101] v11.2 v22 q23).frame [0] [[.sl (v11.2.l.map zKp.c),iI v11.2.at_],zz0] (by simp)
    try simp at r86
    refine zAK r86 (by simp) rfl ?_
    simp
   refine spc h rfl (fun g24 h=>?_) fun g24 h=>?_
   ·obtain⟨v25,q26,h⟩:=bs h
    rcases v25 with e27|v28
    ·replace h:=zDB h
     refine zAF<|stP 1 ?_
     simp
     have r35:=(panL (zAe fuel v22.2 (.inl e27) q26)).frame [0] [[.sl (v22.2.l.map zKp.c),iI v22.2.at_],zz0] (by simp)
     try simp at r35
     refine panC r35 (by simp) (by simp)<|zAS<|zAS ?_
     cases h
     simp
    replace h:=zCP h
    refine cut 44 1 [(0,pT 0),(2,pT 1),(3,pT 2)] [[.sl (v28.2.l.map zKp.c),iI v28.2.at_],zz0,[iI 5,iI 0,.str ([]:List UInt8),.sl (v28.1.map cS),.osl ⟨5,26⟩ (([]:List zKr).map zKr.c)]] ?_ ?_
    ·refine st ?_
     simp
     have r36:=(panR (zAe fuel v22.2 (.inr v28) q26)).frame [0] [[.sl (v22.2.l.map zKp.c),iI v22.2.at_],zz0] (by simp)
     try simp at r36
     refine zAK r36 (by simp) rfl ?_
     simp
    obtain⟨v29,q30,h⟩:=bs h
    rcases v29 with e31|v32
    ·replace h:=zDB h
     refine zAF<|stP 1 ?_
     simp
     have r33:=(panL (zAE [41] v28.2 (.inl e31) q30)).frame [0] [[.sl (v28.2.l.map zKp.c),iI v28.2.at_],zz0,[iI 5,iI 0,.str ([]:List UInt8),.sl (v28.1.map cS),.osl ⟨5,26⟩ (([]:List zKr).map zKr.c)]] (by simp)
     try simp at r33
     refine panC r33 (by simp) (by simp)<|zAS<|zAS ?_
     cases h
     simp
    replace h:=zCP h
    refine cut 44 1 [(2,pT 1),(3,pT 2)] [[.sl (v32.l.map zKp.c),iI v32.at_],zz0,[iI 5,iI 0,.str ([]:List UInt8),.sl (v28.1.map cS),.osl ⟨5,26⟩ (([]:List zKr).map zKr.c)]] ?_ ?_
    ·refine st ?_
     simp
     have r34:=(panR (zAE [41] v28.2 (.inr v32) q30)).frame [0] [[.sl (v28.2.l.map zKp.c),iI v28.2.at_],zz0,[iI 5,iI 0,.str ([]:List UInt8),.sl (v28.1.map cS),.osl ⟨5,26⟩ (([]:List zKr).map zKr.c)]] (by simp)
     try simp at r34
     refine zAK r34 (by simp) rfl ?_
     simp
    refine cutA 44 1 [(2,pT 1)] [[.sl (v32.l.map zKp.c),iI v32.at_],[iI 5,iI 0,.str ([]:List UInt8),.sl (v28.1.map cS),.sl (([]:List zKr).map zKr.c)],[iI 5,iI 0,.str ([]:List UInt8),.sl (v28.1.map cS),.osl ⟨5,26⟩ (([]:List zKr).map zKr.c)]]<|zAA<|zAB ?_
    cases h
    simp
   refine zAC<|zAN ?_
   obtain⟨v37,q38,h⟩:=bs h
   rcases v37 with e39|v40
   ·replace h:=zDB h
    refine zAF<|stP 1 ?_
    simp
    have r84:=(panL (zCR v22.2 (.inl e39) q38)).frame [0] [[.sl (v22.2.l.map zKp.c),iI v22.2.at_],zz0] (by simp)
    try simp at r84
    refine panC r84 (by simp) (by simp)<|zAS ?_
    cases h
    simp
   replace h:=zCP h
   refine cut 44 1 [(0,pT 0),(2,pT 1),(4,.osl ⟨5,26⟩ ([v40.1].map zKr.c))] [[.sl (v40.2.l.map zKp.c),iI v40.2.at_],zz0] ?_ ?_
   ·refine st ?_
    simp
    have r85:=(panR (zCR v22.2 (.inr v40) q38)).frame [0] [[.sl (v22.2.l.map zKp.c),iI v22.2.at_],zz0] (by simp)
    try simp at r85
    refine zAK r85 (by simp) rfl ?_
    simp
   refine zAF<|zAP ?_
   obtain⟨o45,l46,h⟩:=bs h
   refine zCd (fun p:Nat×(List zKp)×Int×(List zKr)=>mkS 44 1 [(0,pT 0),(2,pT 1),(4,.osl ⟨5,26⟩ (p.2.2.2.map zKr.c))] [[.sl (p.2.1.map zKp.c),iI p.2.2.1],zz0]) (fun p=>zBR (zAu fuel) p.1 p.2.1 p.2.2.1 p.2.2.2=some o45) (fun p=>p.1) (fuel,v40.2.l,v40.2.at_,[v40.1]) l46 (zBe (by simp)) ?_
   rintro⟨k47,l41,at42,l43⟩ l46
   try dsimp only at l46 ⊢
   cases k47 with
   |zero=>
    rw[zBR] at l46;cases l46
   |succ k48=>
    rw[zBR] at l46
    refine zAF ?_
    obtain⟨v49,q50,l46⟩:=bs l46
    refine cut 44 1 [(0,pT 0),(2,pT 1),(4,.osl ⟨5,26⟩ (l43.map zKr.c)),(27,.bool v49.1)] [[.sl (v49.2.l.map zKp.c),iI v49.2.at_],zz0] ?_ ?_
    ·refine st ?_
     simp
     have r83:=(zAO [44] (zKm.mk l41 at42) v49 q50).frame [0] [[.sl (l41.map zKp.c),iI at42],zz0] (by simp)
     try simp at r83
     refine zAK r83 (by simp) rfl ?_
     simp
    refine spc l46 rfl (fun g51 l46=>?_) fun g51 l46=>?_
    ·refine zAC<|zAN<|zAP ?_
     obtain⟨v52,q53,l46⟩:=bs l46
     rcases v52 with e54|v55
     ·replace l46:=zDB l46
      refine stP 2 ?_
      simp
      have r60:=(panL (zCR v49.2 (.inl e54) q53)).frame [0] [[.sl (v49.2.l.map zKp.c),iI v49.2.at_],zz0] (by simp)
      try simp at r60
      refine panC r60 (by simp) (by simp)<|zA0 ?_
      replace h:=retL l46 h
      refine zAS<|zA0<|zAS ?_
      cases h
      simp
     replace l46:=zCP l46
     obtain⟨l56,q57,l46⟩:=bs l46
     obtain⟨q58,q59⟩:=zF7 q57
     try simp at q58
     refine last 44 1 [(0,pT 0),(2,pT 1),(4,.osl ⟨5,26⟩ (l56.map zKr.c))] [[.sl (v55.2.l.map zKp.c),iI v55.2.at_],zz0] ?_ fun zz hs=>?_
     ·refine st ?_
      simp[q58,q59]
      have r61:=(panR (zCR v49.2 (.inr v55) q53)).frame [0] [[.sl (v49.2.l.map zKp.c),iI v49.2.at_],zz0] (by simp)
      try simp[q58,q59] at r61
      refine zAK r61 (by simp[q58,q59]) rfl ?_
      simp[q58,q59]
     refine zDb ?_
     exact⟨(k48,v55.2.l,v55.2.at_,l56),hs,l46,by simp⟩
    refine zBv<|zAm ?_
    rcases o45 with o45|o44
    ·cases l46
    have q62:=Sum.inr.inj (zqa l46)
    replace h:=zCP h
    have q63:o44.1=l43:=by rw[<-q62]
    have q64:o44.2.1=v49.2.l:=by rw[<-q62]
    have q65:o44.2.2=v49.2.at_:=by rw[<-q62]
    refine zAm<|zBu<|zDI (t:=mkS 44 1 [(0,pT 0),(2,pT 1),(4,.osl ⟨5,26⟩ (o44.1.map zKr.c))] [[.sl (o44.2.1.map zKp.c),iI o44.2.2],zz0]) ?_ (zBe (by simp[q63,q64,q65]))
    obtain⟨v66,q67,h⟩:=bs h
    rcases v66 with e68|v69
    ·replace h:=zDB h
     refine zAF<|stP 1 ?_
     simp
     have r81:=(panL (zAE [41] (zKm.mk o44.2.1 o44.2.2) (.inl e68) q67)).frame [0] [[.sl (o44.2.1.map zKp.c),iI o44.2.2],zz0] (by simp)
     try simp at r81
     refine panC r81 (by simp) (by simp)<|zAS ?_
     cases h
     simp
    replace h:=zCP h
    refine cut 44 1 [(0,pT 0),(2,pT 1),(4,.osl ⟨5,26⟩ (o44.1.map zKr.c))] [[.sl (v69.l.map zKp.c),iI v69.at_],zz0] ?_ ?_
    ·refine st ?_
     simp
     have r82:=(panR (zAE [41] (zKm.mk o44.2.1 o44.2.2) (.inr v69) q67)).frame [0] [[.sl (o44.2.1.map zKp.c),iI o44.2.2],zz0] (by simp)
     try simp at r82
     refine zAK r82 (by simp) rfl ?_
     simp
    refine zAF<|cutA 44 1 [(0,pT 0),(2,pT 1),(4,.osl ⟨5,26⟩ (o44.1.map zKr.c)),(37,.bool (eqI o44.1.length 1))] [[.sl (v69.l.map zKp.c),iI v69.at_],zz0]<|spc h rfl (fun g70 h=>?_) fun g70 h=>?_
    ·have c71:=eqT g70
     obtain⟨x72,q73,h⟩:=bs h
     refine cut 44 1 [(2,pT 1)] [[.sl (v69.l.map zKp.c),iI v69.at_],x72.d] (st (by simp[q73]))<|zAA<|zAB ?_
     cases h
     simp
    have c74:=eqF g70
    refine zAC<|zAN ?_
    obtain⟨v75,q76,h⟩:=bs h
    rcases v75 with e77|v78
    ·replace h:=zDB h
     refine zAF<|stP 2 ?_
     simp
     have r79:=(panL (zBk fuel o44.1 v69 (.inl e77) q76)).frame [0] [[.sl (v69.l.map zKp.c),iI v69.at_],zz0] (by simp)
     try simp at r79
     refine panC r79 (by simp) (by simp)<|zAS ?_
     cases h
     simp
    replace h:=zCP h
    refine cut 44 1 [(2,pT 1)] [[.sl (v78.2.l.map zKp.c),iI v78.2.at_],(zKr.d v78.1)] ?_ ?_
    ·refine st ?_
     simp
     have r80:=(panR (zBk fuel o44.1 v69 (.inr v78) q76)).frame [0] [[.sl (v69.l.map zKp.c),iI v69.at_],zz0] (by simp)
     try simp at r80
     refine zAK r80 (by simp) rfl ?_
     simp
    refine zAA ?_
    cases h
    simp
  ·intro w1 r h
   rw[zBM] at h
   refine zBz Tryz.func128 (by rfl) (by rfl) (by simp) (by simp)<|cutA 13 1 [(0,pT 0),(2,pT 1)] [[.sl (w1.l.map zKp.c),iI w1.at_],zz0] ?_
   obtain⟨v2,q3,h⟩:=bs h
   rcases v2 with e4|v5
   ·replace h:=zDB h
    refine zAF<|stP 1 ?_
    simp
    have r36:=(panL (zD4 w1 (.inl e4) q3)).frame [0] [[.sl (w1.l.map zKp.c),iI w1.at_],zz0] (by simp)
    try simp at r36
    refine panC r36 (by simp) (by simp)<|zAS ?_
    cases h
    simp
   replace h:=zCP h
   refine cut 13 1 [(0,pT 0),(2,pT 1),(3,pT 2)] [[.sl (v5.2.l.map zKp.c),iI v5.2.at_],zz0,(zKr.d v5.1)] ?_ ?_
   ·refine st ?_
    simp
    have r37:=(panR (zD4 w1 (.inr v5) q3)).frame [0] [[.sl (w1.l.map zKp.c),iI w1.at_],zz0] (by simp)
    try simp at r37
    refine zAK r37 (by simp) rfl ?_
    simp
   refine zAF<|zAP ?_
   obtain⟨o14,l15,h⟩:=bs h
   refine zCd (fun p:Nat×(List zKp)×Int×Int×Int×(List UInt8)×(List (List UInt8))×(List zKr)=>mkS 13 1 [(0,pT 0),(2,pT 1),(3,pT 2)] [[.sl (p.2.1.map zKp.c),iI p.2.2.1],zz0,[iI p.2.2.2.1,iI p.2.2.2.2.1,.str p.2.2.2.2.2.1,.sl (p.2.2.2.2.2.2.1.map cS),.sl (p.2.2.2.2.2.2.2.map zKr.c)]]) (fun p=>zA3 fuel p.1 p.2.1 p.2.2.1 p.2.2.2.1 p.2.2.2.2.1 p.2.2.2.2.2.1 p.2.2.2.2.2.2.1 p.2.2.2.2.2.2.2=some o14) (fun p=>p.1) (fuel,v5.2.l,v5.2.at_,v5.1.Op,v5.1.N,v5.1.S,v5.1.Names,v5.1.L) l15 (zBe (by simp)) ?_
   rintro⟨k16,l6,at7,Op8,N9,S10,Names11,L12⟩ l15
   try dsimp only at l15 ⊢
   cases k16 with
   |zero=>
    rw[zA3] at l15;cases l15
   |succ k17=>
    rw[zA3] at l15
    refine zAF ?_
    obtain⟨v18,q19,l15⟩:=bs l15
    refine cut 13 1 [(0,pT 0),(2,pT 1),(3,pT 2),(7,.bool v18)] [[.sl (l6.map zKp.c),iI at7],zz0,[iI Op8,iI N9,.str S10,.sl (Names11.map cS),.sl (L12.map zKr.c)]] ?_ ?_
    ·refine st ?_
     simp
     have r35:=(zBl (zKm.mk l6 at7) v18 q19).frame [0] [[.sl (l6.map zKp.c),iI at7],zz0,[iI Op8,iI N9,.str S10,.sl (Names11.map cS),.sl (L12.map zKr.c)]] (by simp)
     try simp at r35
     refine zAK r35 (by simp) rfl ?_
     simp
    refine spc l15 rfl (fun g20 l15=>?_) fun g20 l15=>?_
    ·refine zAC<|zAN<|zAP ?_
     obtain⟨v21,q22,l15⟩:=bs l15
     rcases v21 with e23|v24
     ·replace l15:=zDB l15
      refine stP 3 ?_
      simp
      have r25:=(panL (zBk fuel [(zKr.mk Op8 N9 S10 Names11 L12)] (zKm.mk l6 at7) (.inl e23) q22)).frame [0] [[.sl (l6.map zKp.c),iI at7],zz0,[iI Op8,iI N9,.str S10,.sl (Names11.map cS),.sl (L12.map zKr.c)]] (by simp)
      try simp at r25
      refine panC r25 (by simp) (by simp)<|zA0 ?_
      replace h:=retL l15 h
      refine zAS<|zA0<|zAS ?_
      cases h
      simp
     replace l15:=zCP l15
     refine last 13 1 [(0,pT 0),(2,pT 1),(3,pT 2)] [[.sl (v24.2.l.map zKp.c),iI v24.2.at_],zz0,(zKr.d v24.1)] ?_ fun zz hs=>?_
     ·refine st ?_
      simp
      have r26:=(panR (zBk fuel [(zKr.mk Op8 N9 S10 Names11 L12)] (zKm.mk l6 at7) (.inr v24) q22)).frame [0] [[.sl (l6.map zKp.c),iI at7],zz0,[iI Op8,iI N9,.str S10,.sl (Names11.map cS),.sl (L12.map zKr.c)]] (by simp)
      try simp at r26
      refine zAK r26 (by simp) rfl ?_
      simp
     refine zDb ?_
     exact⟨(k17,v24.2.l,v24.2.at_,v24.1.Op,v24.1.N,v24.1.S,v24.1.Names,v24.1.L),hs,l15,by simp⟩
    refine zBv<|zAm ?_
    rcases o14 with o14|o13
    ·cases l15
    have q27:=Sum.inr.inj (zqa l15)
    replace h:=zCP h
    have q28:o13.1=l6:=by rw[<-q27]
    have q29:o13.2.1=at7:=by rw[<-q27]
    have q30:o13.2.2.1=Op8:=by rw[<-q27]
    have q31:o13.2.2.2.1=N9:=by rw[<-q27]
    have q32:o13.2.2.2.2.1=S10:=by rw[<-q27]
    have q33:o13.2.2.2.2.2.1=Names11:=by rw[<-q27]
    have q34:o13.2.2.2.2.2.2=L12:=by rw[<-q27]
    refine zAm<|zBu<|zDI (t:=mkS 13 1 [(2,pT 1),(3,pT 2)] [[.sl (o13.1.map zKp.c),iI o13.2.1],zz0,[iI o13.2.2.1,iI o13.2.2.2.1,.str o13.2.2.2.2.1,.sl (o13.2.2.2.2.2.1.map cS),.sl (o13.2.2.2.2.2.2.map zKr.c)]]) ?_ (zBe (by simp[q28,q29,q30,q31,q32,q33,q34]))
    refine cutA 13 1 [(2,pT 1)] [[.sl (o13.1.map zKp.c),iI o13.2.1],[iI o13.2.2.1,iI o13.2.2.2.1,.str o13.2.2.2.2.1,.sl (o13.2.2.2.2.2.1.map cS),.sl (o13.2.2.2.2.2.2.map zKr.c)],[iI o13.2.2.1,iI o13.2.2.2.1,.str o13.2.2.2.2.1,.sl (o13.2.2.2.2.2.1.map cS),.sl (o13.2.2.2.2.2.2.map zKr.c)]]<|zAA ?_
    cases h
    simp
  ·intro w1 r h
   rw[zB1] at h
   refine zBz Tryz.func102 (by rfl) (by rfl) (by simp) (by simp)<|cutA 22 1 [(0,pT 0),(2,pT 1)] [[.sl (w1.l.map zKp.c),iI w1.at_],zz0] ?_
   obtain⟨v2,q3,h⟩:=bs h
   rcases v2 with e4|v5
   ·replace h:=zDB h
    refine zAF<|stP 1 ?_
    simp
    have r37:=(panL (zCl w1 (.inl e4) q3)).frame [0] [[.sl (w1.l.map zKp.c),iI w1.at_],zz0] (by simp)
    try simp at r37
    refine panC r37 (by simp) (by simp)<|zAS ?_
    cases h
    simp
   replace h:=zCP h
   refine cut 22 1 [(0,pT 0),(2,pT 1),(3,.osl ⟨5,26⟩ ([v5.1].map zKr.c))] [[.sl (v5.2.l.map zKp.c),iI v5.2.at_],zz0] ?_ ?_
   ·refine st ?_
    simp
    have r38:=(panR (zCl w1 (.inr v5) q3)).frame [0] [[.sl (w1.l.map zKp.c),iI w1.at_],zz0] (by simp)
    try simp at r38
    refine zAK r38 (by simp) rfl ?_
    simp
   refine zAF<|zAP ?_
   obtain⟨o10,l11,h⟩:=bs h
   refine zCd (fun p:Nat×(List zKp)×Int×(List zKr)=>mkS 22 1 [(0,pT 0),(2,pT 1),(3,.osl ⟨5,26⟩ (p.2.2.2.map zKr.c))] [[.sl (p.2.1.map zKp.c),iI p.2.2.1],zz0]) (fun p=>zBI (zBM fuel) p.1 p.2.1 p.2.2.1 p.2.2.2=some o10) (fun p=>p.1) (fuel,v5.2.l,v5.2.at_,[v5.1]) l11 (zBe (by simp)) ?_
   rintro⟨k12,l6,at7,l8⟩ l11
   try dsimp only at l11 ⊢
   cases k12 with
   |zero=>
    rw[zBI] at l11;cases l11
   |succ k13=>
    rw[zBI] at l11
    refine zAF ?_
    obtain⟨v14,q15,l11⟩:=bs l11
    refine cut 22 1 [(0,pT 0),(2,pT 1),(3,.osl ⟨5,26⟩ (l8.map zKr.c)),(8,.bool v14.1)] [[.sl (v14.2.l.map zKp.c),iI v14.2.at_],zz0] ?_ ?_
    ·refine st ?_
     simp
     have r36:=(zAO [42] (zKm.mk l6 at7) v14 q15).frame [0] [[.sl (l6.map zKp.c),iI at7],zz0] (by simp)
     try simp at r36
     refine zAK r36 (by simp) rfl ?_
     simp
    refine spc l11 rfl (fun g16 l11=>?_) fun g16 l11=>?_
    ·refine zAC<|zAN<|zAP ?_
     obtain⟨v17,q18,l11⟩:=bs l11
     rcases v17 with e19|v20
     ·replace l11:=zDB l11
      refine stP 2 ?_
      simp
      have r25:=(panL (zCl v14.2 (.inl e19) q18)).frame [0] [[.sl (v14.2.l.map zKp.c),iI v14.2.at_],zz0] (by simp)
      try simp at r25
      refine panC r25 (by simp) (by simp)<|zA0 ?_
      replace h:=retL l11 h
      refine zAS<|zA0<|zAS ?_
      cases h
      simp
     replace l11:=zCP l11
     obtain⟨l21,q22,l11⟩:=bs l11
     obtain⟨q23,q24⟩:=zF7 q22
     try simp at q23
     refine last 22 1 [(0,pT 0),(2,pT 1),(3,.osl ⟨5,26⟩ (l21.map zKr.c))] [[.sl (v20.2.l.map zKp.c),iI v20.2.at_],zz0] ?_ fun zz hs=>?_
     ·refine st ?_
      simp[q23,q24]
      have r26:=(panR (zCl v14.2 (.inr v20) q18)).frame [0] [[.sl (v14.2.l.map zKp.c),iI v14.2.at_],zz0] (by simp)
      try simp[q23,q24] at r26
      refine zAK r26 (by simp[q23,q24]) rfl ?_
      simp[q23,q24]
     refine zDb ?_
     exact⟨(k13,v20.2.l,v20.2.at_,l21),hs,l11,by simp⟩
    refine zBv<|zAm ?_
    rcases o10 with o10|o9
    ·cases l11
    have q27:=Sum.inr.inj (zqa l11)
    replace h:=zCP h
    have q28:o9.1=l8:=by rw[<-q27]
    have q29:o9.2.1=v14.2.l:=by rw[<-q27]
    have q30:o9.2.2=v14.2.at_:=by rw[<-q27]
    refine zAm<|zBu<|zDI (t:=mkS 22 1 [(2,pT 1),(3,.osl ⟨5,26⟩ (o9.1.map zKr.c))] [[.sl (o9.2.1.map zKp.c),iI o9.2.2],zz0]) ?_ (zBe (by simp[q28,q29,q30]))
    refine zAF<|cutA 22 1 [(2,pT 1),(3,.osl ⟨5,26⟩ (o9.1.map zKr.c)),(16,.bool (eqI o9.1.length 1))] [[.sl (o9.2.1.map zKp.c),iI o9.2.2],zz0]<|spc h rfl (fun g31 h=>?_) fun g31 h=>?_
    ·have c32:=eqT g31
     obtain⟨x33,q34,h⟩:=bs h
     refine cut 22 1 [(2,pT 1)] [[.sl (o9.2.1.map zKp.c),iI o9.2.2],x33.d] (st (by simp[q34]))<|zAA<|zAB ?_
     cases h
     simp
    have c35:=eqF g31
    refine zAC<|zAN<|cutA 22 1 [(2,pT 1)] [[.sl (o9.2.1.map zKp.c),iI o9.2.2],[iI 4,iI 0,.str ([]:List UInt8),.osl ⟨1,9⟩ (([]:List (List UInt8)).map cS),.sl (o9.1.map zKr.c)]]<|zAA ?_
    cases h
    simp
  ·intro w1 r h
   rw[zAu] at h
   refine zBz Tryz.func73 (by rfl) (by rfl) (by simp) (by simp)<|cutA 14 1 [(0,pT 0),(2,pT 1)] [[.sl (w1.l.map zKp.c),iI w1.at_],zz0] ?_
   obtain⟨v2,q3,h⟩:=bs h
   rcases v2 with e4|v5
   ·replace h:=zDB h
    refine zAF<|stP 1 ?_
    simp
    have r16:=(panL (zDz w1 (.inl e4) q3)).frame [0] [[.sl (w1.l.map zKp.c),iI w1.at_],zz0] (by simp)
    try simp at r16
    refine panC r16 (by simp) (by simp)<|zAS ?_
    cases h
    simp
   replace h:=zCP h
   refine cut 14 1 [(0,pT 0),(2,pT 1),(3,pT 2)] [[.sl (v5.2.l.map zKp.c),iI v5.2.at_],zz0,(zKr.d v5.1)] ?_ ?_
   ·refine st ?_
    simp
    have r17:=(panR (zDz w1 (.inr v5) q3)).frame [0] [[.sl (w1.l.map zKp.c),iI w1.at_],zz0] (by simp)
    try simp at r17
    refine zAK r17 (by simp) rfl ?_
    simp
   refine zAF ?_
   obtain⟨v6,q7,h⟩:=bs h
   refine cut 14 1 [(0,pT 0),(2,pT 1),(3,pT 2),(7,.bool v6.1)] [[.sl (v6.2.l.map zKp.c),iI v6.2.at_],zz0,(zKr.d v5.1)] ?_ ?_
   ·refine st ?_
    simp
    have r15:=(zAO [45,62] v5.2 v6 q7).frame [0] [[.sl (v5.2.l.map zKp.c),iI v5.2.at_],zz0,(zKr.d v5.1)] (by simp)
    try simp at r15
    refine zAK r15 (by simp) rfl ?_
    simp
   refine spc h rfl (fun g8 h=>?_) fun g8 h=>?_
   ·obtain⟨v9,q10,h⟩:=bs h
    rcases v9 with e11|v12
    ·replace h:=zDB h
     refine zAF<|zBo [0,996] [5] 2 mixed (n:=14) rfl (by decide) (by decide) (by decide) ?_
     simp
     have r13:=(panL (zCR v6.2 (.inl e11) q10)).frame [0] [[.sl (v6.2.l.map zKp.c),iI v6.2.at_],zz0,(zKr.d v5.1)] (by simp)
     try simp at r13
     refine panC r13 (by simp) (by simp)<|zAS<|zAS ?_
     cases h
     simp
    replace h:=zCP h
    refine cut 14 1 [(2,pT 1)] [[.sl (v12.2.l.map zKp.c),iI v12.2.at_],[iI 3,iI 0,.str ([]:List UInt8),.osl ⟨1,9⟩ (([]:List (List UInt8)).map cS),.sl ([v5.1,v12.1].map zKr.c)],(zKr.d v5.1)] ?_ ?_
    ·refine zBZ [0,996] [5] mixed (n:=14) rfl (by decide) (by decide) ?_
     simp
     have r14:=(panR (zCR v6.2 (.inr v12) q10)).frameZ [0] [[.sl (v6.2.l.map zKp.c),iI v6.2.at_],zz0,(zKr.d v5.1)] (by simp) rfl (by simp) (by simp)
     try simp at r14
     refine zHU r14 (by simp) rfl (by decide) (by simp) ?_
     simp
    refine zAA<|zAB ?_
    cases h
    simp
   refine zAC<|zAN<|cutA 14 1 [(2,pT 1)] [[.sl (v6.2.l.map zKp.c),iI v6.2.at_],(zKr.d v5.1),(zKr.d v5.1)]<|zAA ?_
   cases h
   simp
theorem zDN(fuel:Nat):(∀(w1:zKm)(r:(zKm) ⊕ (zKr×zKm))(_:zAu fuel w1=some r),Sum.elim (fun r=>RawP Tryz.prog 73 (pan1 112) [pT 0] [[.sl (w1.l.map zKp.c),iI w1.at_]] [[.sl (r.l.map zKp.c),iI r.at_]]) (fun r=>Raw Tryz.prog 73 [pT 0] [[.sl (w1.l.map zKp.c),iI w1.at_]] (.agg (zKr.d r.1)) [[.sl (r.2.l.map zKp.c),iI r.2.at_]]) r):=(zDK fuel).2.2.2
theorem zJQ(fuel:Nat)(s1:(List UInt8))(r:Int×Int)(h:zCv fuel s1=some r):Pure Tryz.prog 129 [.str s1] (.tup [iI r.1,iI r.2]):=by
 rw[zCv] at h
 refine zAQ Tryz.func129 (by rfl) (by rfl) (by simp) (by simp) (by simp)<|cutA 43 0 [(0,.str s1)] []<|zAF ?_
 obtain⟨b10,q11,h⟩:=bs h
 refine cut 43 0 [(0,.str s1),(19,.bool b10)] [] ?_ ?_
 ·rcases sp q11 with ⟨g2,q11⟩|⟨g2,q11⟩
  ·obtain rfl:=oi q11
   refine st ?_
   simp[g2]
  rcases sp q11 with ⟨g3,q11⟩|⟨g3,q11⟩
  ·have c4:=ltT g3
   refine zGl 0 rfl fun f5=>?_
   obtain⟨c6,q7,q11⟩:=bs q11
   obtain rfl:=oi q11
   refine st ?_
   simp[g2,g3,q7]
  have c8:=ltF g3
  refine zGl 0 rfl fun f9=>?_
  obtain rfl:=oi q11
  refine st ?_
  simp[g2,g3]
 refine spc h rfl (fun g12 h=>?_) fun g12 h=>?_
 ·refine cutA 43 0 [(2,iI 0),(3,iI 3)] []<|zAA<|zAB ?_
  cases h
  simp
 refine zAC<|zAN<|zAF ?_
 obtain⟨l13,q14,h⟩:=bs h
 obtain⟨q15,q16⟩:=bytesC_ok q14
 refine cut 43 0 [(0,.str s1),(21,.sl (l13.map cU)),(22,iI l13.length),(23,iI 0)] [] (st (by simp[q15,q16]))<|zAP ?_
 obtain⟨o19,l20,h⟩:=bs h
 refine zCd (fun p:Nat×Nat=>mkS 43 0 [(0,.str s1),(21,.sl (l13.map cU)),(22,iI l13.length),(23,iI p.2)] []) (fun p=>zBj l13 p.1 p.2=some o19) (fun p=>p.1) (fuel,0) l20 (zBe (by simp)) ?_
 rintro⟨k21,i17⟩ l20
 try dsimp only at l20 ⊢
 cases k21 with
 |zero=>
  rw[zBj] at l20;cases l20
 |succ k22=>
  rw[zBj] at l20
  refine cutA 43 0 [(0,.str s1),(21,.sl (l13.map cU)),(22,iI l13.length),(23,iI i17),(24,.bool (ltI i17 l13.length))] []<|zAF<|spc l20 rfl (fun g23 l20=>?_) fun g23 l20=>?_
  ·have c24:=ltT g23
   refine zGm 21 rfl fun f25=>?_
   rw[zq4] at f25
   refine zAC<|zAN<|zAF<|zAP ?_
   obtain⟨x26,q27,l20⟩:=bs l20
   refine cut 43 0 [(0,.str s1),(5,.int .u8 x26.toNat),(21,.sl (l13.map cU)),(22,iI l13.length),(23,iI i17)] [] (st (by simp[q27])) ?_
   obtain⟨v28,q29,l20⟩:=bs l20
   refine cut 43 0 [(0,.str s1),(21,.sl (l13.map cU)),(22,iI l13.length),(23,iI i17),(29,.bool (!(eqI v28 3)))] [] ?_ ?_
   ·refine st ?_
    simp
    have r36:=zHu x26 v28 q29
    try simp at r36
    refine cP r36 ?_
    simp
   rcases sp l20 with ⟨g30,l20⟩|⟨g30,l20⟩
   ·have g31:=notT g30
    have c32:=eqF g31
    refine zBn rfl g30<|cutA 43 0 [(2,iI 0),(3,iI 3)] []<|zAA<|zAD<|zAB ?_
    replace h:=retL l20 h
    refine zAB<|zAD<|zAB ?_
    cases h
    simp
   have g33:=notF g30
   have c34:=eqT g33
   refine condF rfl g30<|zAC<|zDb<|zAN ?_
   have q35:Rng .i64 (((i17:Nat):Int)+1):=by simp only[Rng,inR];omega
   try simp at q35
   refine last 43 0 [(0,.str s1),(21,.sl (l13.map cU)),(22,iI l13.length),(23,iI ((i17+1:Nat):Int))] [] (st (by simp[q35])) fun zz hs=>?_
   exact⟨(k22,i17+1),hs,l20,by simp⟩
  have c37:=ltF g23
  refine zGm 21 rfl fun f38=>?_
  rw[zq4] at f38
  refine zBv<|zAm ?_
  rcases o19 with o19|o18
  ·cases l20
  have q39:=Sum.inr.inj (zqa l20)
  replace h:=zCP h
  refine zAm<|zBu<|zDI (t:=mkS 43 0 [(0,.str s1)] []) ?_ (zBe (by simp))
  obtain⟨v40,q41,h⟩:=bs h
  rcases sp h with ⟨g42,h⟩|⟨g42,h⟩
  ·refine cut 43 0 [(6,iI v40.1),(7,.iface 163 (.cptr [.str [65,116,111,105],.str s1,.top]))] [] ?_ ?_
   ·refine st ?_
    simp[g42]
    have r46:=strconv_Atoi_ok s1 v40 q41
    try simp[g42] at r46
    refine cP r46 ?_
    simp[g42]
   refine zAF<|cutA 43 0 [(6,iI v40.1),(41,.bool true)] []<|zBn rfl rfl<|cutA 43 0 [(2,iI 0),(3,iI 6)] []<|zAA<|zAB ?_
   cases h
   simp
  refine cut 43 0 [(6,iI v40.1),(7,.nilif)] [] ?_ ?_
  ·refine st ?_
   simp[g42]
   have r47:=strconv_Atoi_ok s1 v40 q41
   try simp[g42] at r47
   refine cP r47 ?_
   simp[g42]
  refine zAF<|cutA 43 0 [(6,iI v40.1),(41,.bool (ltI 4503599627370496 v40.1))] []<|spc h rfl (fun g43 h=>?_) fun g43 h=>?_
  ·have c44:=ltT g43
   refine cutA 43 0 [(2,iI 0),(3,iI 6)] []<|zAA<|zAB ?_
   cases h
   simp
  have c45:=ltF g43
  refine zAC<|zAN<|cutA 43 0 [(2,iI v40.1),(3,iI 0)] []<|zAA ?_
  cases h
  simp
theorem zBy(fuel:Nat)(w1:zKm)(r:(Unit) ⊕ (Int×zKm))(h:zBm fuel w1=some r):Sum.elim (fun r=>RawP Tryz.prog 108 (pan1 112) [pT 0] [[.sl (w1.l.map zKp.c),iI w1.at_]] [[.sl (w1.l.map zKp.c),iI w1.at_]]) (fun r=>Raw Tryz.prog 108 [pT 0] [[.sl (w1.l.map zKp.c),iI w1.at_]] (iI r.1) [[.sl (r.2.l.map zKp.c),iI r.2.at_]]) r:=by
 rw[zBm] at h
 refine zBz Tryz.func108 (by rfl) (by rfl) (by simp) (by simp)<|cutA 12 1 [(0,pT 0)] [[.sl (w1.l.map zKp.c),iI w1.at_]] ?_
 obtain⟨v2,q3,h⟩:=bs h
 rcases v2 with e4|v5
 ·replace h:=zDB h
  refine zAF<|stP 1 ?_
  simp
  have r8:=(panL (zAJ 4 w1 (.inl e4) q3)).frame [0] [[.sl (w1.l.map zKp.c),iI w1.at_]] (by simp)
  try simp at r8
  refine panC r8 (by simp) (by simp)<|zAS ?_
  cases h
  simp
 replace h:=zCP h
 obtain⟨v6,q7,h⟩:=bs h
 refine cut 12 1 [(3,iI v6.1)] [[.sl (v5.2.l.map zKp.c),iI v5.2.at_]] ?_ ?_
 ·refine st ?_
  simp
  have r9:=(panR (zAJ 4 w1 (.inr v5) q3)).frame [0] [[.sl (w1.l.map zKp.c),iI w1.at_]] (by simp)
  try simp at r9
  refine zAK r9 (by simp) rfl ?_
  simp
  have r10:=zJQ fuel v5.1 v6 q7
  try simp at r10
  refine cP r10 ?_
  simp
 refine cutA 12 1 [(2,iI v6.1)] [[.sl (v5.2.l.map zKp.c),iI v5.2.at_]]<|zAA ?_
 cases h
 simp
theorem zC9(fuel:Nat):(∀(w1:zKm)(r:(zKm) ⊕ (zKr×zKm))(_:zBX fuel w1=some r),Sum.elim (fun r=>RawP Tryz.prog 104 (pan1 112) [pT 0] [[.sl (w1.l.map zKp.c),iI w1.at_]] [[.sl (r.l.map zKp.c),iI r.at_]]) (fun r=>Raw Tryz.prog 104 [pT 0] [[.sl (w1.l.map zKp.c),iI w1.at_]] (.agg (zKr.d r.1)) [[.sl (r.2.l.map zKp.c),iI r.2.at_]]) r)∧(∀(w1:zKm)(r:(zKm) ⊕ (zKr×zKm))(_:zAh fuel w1=some r),Sum.elim (fun r=>RawP Tryz.prog 74 (pan1 112) [pT 0] [[.sl (w1.l.map zKp.c),iI w1.at_]] [[.sl (r.l.map zKp.c),iI r.at_]]) (fun r=>Raw Tryz.prog 74 [pT 0] [[.sl (w1.l.map zKp.c),iI w1.at_]] (.agg (zKr.d r.1)) [[.sl (r.2.l.map zKp.c),iI r.2.at_]]) r):=by
 induction fuel with
 |zero=>
  refine⟨?_,?_⟩
  ·intro w1 r h;rw[zBX] at h;cases h
  ·intro w1 r h;rw[zAh] at h;cases h
 |succ fuel ih=>
  obtain⟨zCc,zCm⟩:=ih
  refine⟨?_,?_⟩
  ·intro w1 r h
   rw[zBX] at h
   refine zBz Tryz.func104 (by rfl) (by rfl) (by simp) (by simp)<|cutA 58 1 [(0,pT 0),(2,pT 1)] [[.sl (w1.l.map zKp.c),iI w1.at_],zz0]<|zAF<|zAP ?_
   obtain⟨v2,q3,h⟩:=bs h
   refine cut 58 1 [(0,pT 0),(2,pT 1),(4,.bool v2.1)] [[.sl (v2.2.l.map zKp.c),iI v2.2.at_],zz0] ?_ ?_
   ·refine st ?_
    simp
    have r102:=(zAO [95] w1 v2 q3).frame [0] [[.sl (w1.l.map zKp.c),iI w1.at_],zz0] (by simp)
    try simp at r102
    refine zAK r102 (by simp) rfl ?_
    simp
   refine spc h rfl (fun g4 h=>?_) fun g4 h=>?_
   ·refine cutA 58 1 [(2,pT 1)] [[.sl (v2.2.l.map zKp.c),iI v2.2.at_],[iI 11,iI 0,.str ([]:List UInt8),.osl ⟨1,9⟩ (([]:List (List UInt8)).map cS),.osl ⟨5,26⟩ (([]:List zKr).map zKr.c)]]<|zAA<|zAD<|zAB ?_
    cases h
    simp
   obtain⟨v5,q6,h⟩:=bs h
   refine cut 58 1 [(0,pT 0),(2,pT 1),(8,.bool v5.1)] [[.sl (v5.2.l.map zKp.c),iI v5.2.at_],zz0] ?_ ?_
   ·refine st ?_
    simp
    have r101:=(zAO [126] v2.2 v5 q6).frame [0] [[.sl (v2.2.l.map zKp.c),iI v2.2.at_],zz0] (by simp)
    try simp at r101
    refine zAK r101 (by simp) rfl ?_
    simp
   refine spc h rfl (fun g7 h=>?_) fun g7 h=>?_
   ·obtain⟨v8,q9,h⟩:=bs h
    rcases v8 with e10|v11
    ·replace h:=zDB h
     refine zAF<|stP 1 ?_
     simp
     have r16:=(panL (zBy fuel v5.2 (.inl e10) q9)).frame [0] [[.sl (v5.2.l.map zKp.c),iI v5.2.at_],zz0] (by simp)
     try simp at r16
     refine panC r16 (by simp) (by simp)<|zAS<|zA0<|zAS ?_
     cases h
     simp
    replace h:=zCP h
    obtain⟨n12,q13,h⟩:=bs h
    obtain⟨q14,q15⟩:=zEi q13
    try simp at q14
    try simp at q15
    refine cut 58 1 [(2,pT 1)] [[.sl (v11.2.l.map zKp.c),iI v11.2.at_],[iI 13,iI n12,.str ([]:List UInt8),.osl ⟨1,9⟩ (([]:List (List UInt8)).map cS),.osl ⟨5,26⟩ (([]:List zKr).map zKr.c)]] ?_ ?_
    ·refine st ?_
     simp[q14,q15]
     have r17:=(panR (zBy fuel v5.2 (.inr v11) q9)).frame [0] [[.sl (v5.2.l.map zKp.c),iI v5.2.at_],zz0] (by simp)
     try simp[q14,q15] at r17
     refine zAK r17 (by simp[q14,q15]) rfl ?_
     simp[q14,q15]
    refine zAA<|zAD<|zAB ?_
    cases h
    simp
   obtain⟨v18,q19,h⟩:=bs h
   refine cut 58 1 [(0,pT 0),(2,pT 1),(15,.bool v18)] [[.sl (v5.2.l.map zKp.c),iI v5.2.at_],zz0] ?_ ?_
   ·refine st ?_
    simp
    have r100:=(zAX 4 v5.2 v18 q19).frame [0] [[.sl (v5.2.l.map zKp.c),iI v5.2.at_],zz0] (by simp)
    try simp at r100
    refine zAK r100 (by simp) rfl ?_
    simp
   refine spc h rfl (fun g20 h=>?_) fun g20 h=>?_
   ·obtain⟨v21,q22,h⟩:=bs h
    rcases v21 with e23|v24
    ·replace h:=zDB h
     refine zAF<|stP 1 ?_
     simp
     have r25:=(panL (zBy fuel v5.2 (.inl e23) q22)).frame [0] [[.sl (v5.2.l.map zKp.c),iI v5.2.at_],zz0] (by simp)
     try simp at r25
     refine panC r25 (by simp) (by simp)<|zAS<|zA0<|zAS ?_
     cases h
     simp
    replace h:=zCP h
    refine cut 58 1 [(2,pT 1)] [[.sl (v24.2.l.map zKp.c),iI v24.2.at_],[iI 13,iI v24.1,.str ([]:List UInt8),.osl ⟨1,9⟩ (([]:List (List UInt8)).map cS),.osl ⟨5,26⟩ (([]:List zKr).map zKr.c)]] ?_ ?_
    ·refine st ?_
     simp
     have r26:=(panR (zBy fuel v5.2 (.inr v24) q22)).frame [0] [[.sl (v5.2.l.map zKp.c),iI v5.2.at_],zz0] (by simp)
     try simp at r26
     refine zAK r26 (by simp) rfl ?_
     simp
    refine zAA<|zAD<|zAB ?_
    cases h
    simp
   obtain⟨v27,q28,h⟩:=bs h
   refine cut 58 1 [(0,pT 0),(2,pT 1),(21,.bool v27)] [[.sl (v5.2.l.map zKp.c),iI v5.2.at_],zz0] ?_ ?_
   ·refine st ?_
    simp
    have r99:=(zAX 1 v5.2 v27 q28).frame [0] [[.sl (v5.2.l.map zKp.c),iI v5.2.at_],zz0] (by simp)
    try simp at r99
    refine zAK r99 (by simp) rfl ?_
    simp
   refine spc h rfl (fun g29 h=>?_) fun g29 h=>?_
   ·obtain⟨v30,q31,h⟩:=bs h
    rcases v30 with e32|v33
    ·replace h:=zDB h
     refine zAF<|stP 1 ?_
     simp
     have r34:=(panL (zAJ 1 v5.2 (.inl e32) q31)).frame [0] [[.sl (v5.2.l.map zKp.c),iI v5.2.at_],zz0] (by simp)
     try simp at r34
     refine panC r34 (by simp) (by simp)<|zAS<|zA0<|zAS ?_
     cases h
     simp
    replace h:=zCP h
    refine cut 58 1 [(2,pT 1)] [[.sl (v33.2.l.map zKp.c),iI v33.2.at_],[iI 12,iI 0,.str v33.1,.osl ⟨1,9⟩ (([]:List (List UInt8)).map cS),.osl ⟨5,26⟩ (([]:List zKr).map zKr.c)]] ?_ ?_
    ·refine st ?_
     simp
     have r35:=(panR (zAJ 1 v5.2 (.inr v33) q31)).frame [0] [[.sl (v5.2.l.map zKp.c),iI v5.2.at_],zz0] (by simp)
     try simp at r35
     refine zAK r35 (by simp) rfl ?_
     simp
    refine zAA<|zAD<|zAB ?_
    cases h
    simp
   obtain⟨v36,q37,h⟩:=bs h
   refine cut 58 1 [(0,pT 0),(2,pT 1),(27,.bool v36)] [[.sl (v5.2.l.map zKp.c),iI v5.2.at_],zz0] ?_ ?_
   ·refine st ?_
    simp
    have r98:=(zAX 2 v5.2 v36 q37).frame [0] [[.sl (v5.2.l.map zKp.c),iI v5.2.at_],zz0] (by simp)
    try simp at r98
    refine zAK r98 (by simp) rfl ?_
    simp
   refine spc h rfl (fun g38 h=>?_) fun g38 h=>?_
   ·obtain⟨v39,q40,h⟩:=bs h
    rcases v39 with e41|v42
    ·replace h:=zDB h
     refine zAF<|stP 1 ?_
     simp
     have r43:=(panL (zAe fuel v5.2 (.inl e41) q40)).frame [0] [[.sl (v5.2.l.map zKp.c),iI v5.2.at_],zz0] (by simp)
     try simp at r43
     refine panC r43 (by simp) (by simp)<|zAS<|zA0<|zAS ?_
     cases h
     simp
    replace h:=zCP h
    refine cut 58 1 [(2,pT 1)] [[.sl (v42.2.l.map zKp.c),iI v42.2.at_],[iI 14,iI 0,.str ([]:List UInt8),.sl (v42.1.map cS),.osl ⟨5,26⟩ (([]:List zKr).map zKr.c)]] ?_ ?_
    ·refine st ?_
     simp
     have r44:=(panR (zAe fuel v5.2 (.inr v42) q40)).frame [0] [[.sl (v5.2.l.map zKp.c),iI v5.2.at_],zz0] (by simp)
     try simp at r44
     refine zAK r44 (by simp) rfl ?_
     simp
    refine zAA<|zAD<|zAB ?_
    cases h
    simp
   refine zAC<|zDb<|zAN ?_
   obtain⟨v45,q46,h⟩:=bs h
   rcases v45 with e47|v48
   ·replace h:=zDB h
    refine zAF<|stP 1 ?_
    simp
    have r96:=(panL (zAE [40] v5.2 (.inl e47) q46)).frame [0] [[.sl (v5.2.l.map zKp.c),iI v5.2.at_],zz0] (by simp)
    try simp at r96
    refine panC r96 (by simp) (by simp)<|zAS ?_
    cases h
    simp
   replace h:=zCP h
   refine cut 58 1 [(0,pT 0),(2,pT 1)] [[.sl (v48.l.map zKp.c),iI v48.at_],zz0] ?_ ?_
   ·refine st ?_
    simp
    have r97:=(panR (zAE [40] v5.2 (.inr v48) q46)).frame [0] [[.sl (v5.2.l.map zKp.c),iI v5.2.at_],zz0] (by simp)
    try simp at r97
    refine zAK r97 (by simp) rfl ?_
    simp
   refine zAF ?_
   obtain⟨v49,q50,h⟩:=bs h
   refine cut 58 1 [(0,pT 0),(2,pT 1),(36,.bool v49.1)] [[.sl (v49.2.l.map zKp.c),iI v49.2.at_],zz0] ?_ ?_
   ·refine st ?_
    simp
    have r95:=(zAO [41] v48 v49 q50).frame [0] [[.sl (v48.l.map zKp.c),iI v48.at_],zz0] (by simp)
    try simp at r95
    refine zAK r95 (by simp) rfl ?_
    simp
   refine spc h rfl (fun g51 h=>?_) fun g51 h=>?_
   ·refine cutA 58 1 [(2,pT 1)] [[.sl (v49.2.l.map zKp.c),iI v49.2.at_],[iI 15,iI 0,.str ([]:List UInt8),.osl ⟨1,9⟩ (([]:List (List UInt8)).map cS),.osl ⟨5,26⟩ (([]:List zKr).map zKr.c)]]<|zAA<|zAB ?_
    cases h
    simp
   refine zAC<|zAN ?_
   obtain⟨v52,q53,h⟩:=bs h
   rcases v52 with e54|v55
   ·replace h:=zDB h
    refine zAF<|stP 1 ?_
    simp
    have r93:=(panL (zCm v49.2 (.inl e54) q53)).frame [0] [[.sl (v49.2.l.map zKp.c),iI v49.2.at_],zz0] (by simp)
    try simp at r93
    refine panC r93 (by simp) (by simp)<|zAS ?_
    cases h
    simp
   replace h:=zCP h
   refine cut 58 1 [(0,pT 0),(2,pT 1),(3,.osl ⟨5,26⟩ ([v55.1].map zKr.c))] [[.sl (v55.2.l.map zKp.c),iI v55.2.at_],zz0] ?_ ?_
   ·refine st ?_
    simp
    have r94:=(panR (zCm v49.2 (.inr v55) q53)).frame [0] [[.sl (v49.2.l.map zKp.c),iI v49.2.at_],zz0] (by simp)
    try simp at r94
    refine zAK r94 (by simp) rfl ?_
    simp
   refine zAF<|zAP ?_
   obtain⟨o60,l61,h⟩:=bs h
   refine zCd (fun p:Nat×(List zKp)×Int×(List zKr)=>mkS 58 1 [(0,pT 0),(2,pT 1),(3,.osl ⟨5,26⟩ (p.2.2.2.map zKr.c))] [[.sl (p.2.1.map zKp.c),iI p.2.2.1],zz0]) (fun p=>zBE (zAh fuel) p.1 p.2.1 p.2.2.1 p.2.2.2=some o60) (fun p=>p.1) (fuel,v55.2.l,v55.2.at_,[v55.1]) l61 (zBe (by simp)) ?_
   rintro⟨k62,l56,at57,l58⟩ l61
   try dsimp only at l61 ⊢
   cases k62 with
   |zero=>
    rw[zBE] at l61;cases l61
   |succ k63=>
    rw[zBE] at l61
    refine zAF ?_
    obtain⟨v64,q65,l61⟩:=bs l61
    refine cut 58 1 [(0,pT 0),(2,pT 1),(3,.osl ⟨5,26⟩ (l58.map zKr.c)),(42,.bool v64.1)] [[.sl (v64.2.l.map zKp.c),iI v64.2.at_],zz0] ?_ ?_
    ·refine st ?_
     simp
     have r92:=(zAO [44] (zKm.mk l56 at57) v64 q65).frame [0] [[.sl (l56.map zKp.c),iI at57],zz0] (by simp)
     try simp at r92
     refine zAK r92 (by simp) rfl ?_
     simp
    refine spc l61 rfl (fun g66 l61=>?_) fun g66 l61=>?_
    ·refine zAC<|zAN<|zAP ?_
     obtain⟨v67,q68,l61⟩:=bs l61
     rcases v67 with e69|v70
     ·replace l61:=zDB l61
      refine stP 2 ?_
      simp
      have r75:=(panL (zCm v64.2 (.inl e69) q68)).frame [0] [[.sl (v64.2.l.map zKp.c),iI v64.2.at_],zz0] (by simp)
      try simp at r75
      refine panC r75 (by simp) (by simp)<|zA0 ?_
      replace h:=retL l61 h
      refine zAS<|zA0<|zAS ?_
      cases h
      simp
     replace l61:=zCP l61
     obtain⟨l71,q72,l61⟩:=bs l61
     obtain⟨q73,q74⟩:=zF7 q72
     try simp at q73
     refine last 58 1 [(0,pT 0),(2,pT 1),(3,.osl ⟨5,26⟩ (l71.map zKr.c))] [[.sl (v70.2.l.map zKp.c),iI v70.2.at_],zz0] ?_ fun zz hs=>?_
     ·refine st ?_
      simp[q73,q74]
      have r76:=(panR (zCm v64.2 (.inr v70) q68)).frame [0] [[.sl (v64.2.l.map zKp.c),iI v64.2.at_],zz0] (by simp)
      try simp[q73,q74] at r76
      refine zAK r76 (by simp[q73,q74]) rfl ?_
      simp[q73,q74]
     refine zDb ?_
     exact⟨(k63,v70.2.l,v70.2.at_,l71),hs,l61,by simp⟩
    refine zBv<|zAm ?_
    rcases o60 with o60|o59
    ·cases l61
    have q77:=Sum.inr.inj (zqa l61)
    replace h:=zCP h
    have q78:o59.1=l58:=by rw[<-q77]
    have q79:o59.2.1=v64.2.l:=by rw[<-q77]
    have q80:o59.2.2=v64.2.at_:=by rw[<-q77]
    refine zAm<|zBu<|zDI (t:=mkS 58 1 [(0,pT 0),(2,pT 1),(3,.osl ⟨5,26⟩ (o59.1.map zKr.c))] [[.sl (o59.2.1.map zKp.c),iI o59.2.2],zz0]) ?_ (zBe (by simp[q78,q79,q80]))
    obtain⟨v81,q82,h⟩:=bs h
    rcases v81 with e83|v84
    ·replace h:=zDB h
     refine zAF<|stP 1 ?_
     simp
     have r90:=(panL (zAE [41] (zKm.mk o59.2.1 o59.2.2) (.inl e83) q82)).frame [0] [[.sl (o59.2.1.map zKp.c),iI o59.2.2],zz0] (by simp)
     try simp at r90
     refine panC r90 (by simp) (by simp)<|zAS ?_
     cases h
     simp
    replace h:=zCP h
    refine cut 58 1 [(2,pT 1),(3,.osl ⟨5,26⟩ (o59.1.map zKr.c))] [[.sl (v84.l.map zKp.c),iI v84.at_],zz0] ?_ ?_
    ·refine st ?_
     simp
     have r91:=(panR (zAE [41] (zKm.mk o59.2.1 o59.2.2) (.inr v84) q82)).frame [0] [[.sl (o59.2.1.map zKp.c),iI o59.2.2],zz0] (by simp)
     try simp at r91
     refine zAK r91 (by simp) rfl ?_
     simp
    refine zAF<|cutA 58 1 [(2,pT 1),(3,.osl ⟨5,26⟩ (o59.1.map zKr.c)),(52,.bool (eqI o59.1.length 1))] [[.sl (v84.l.map zKp.c),iI v84.at_],zz0]<|spc h rfl (fun g85 h=>?_) fun g85 h=>?_
    ·have c86:=eqT g85
     obtain⟨x87,q88,h⟩:=bs h
     refine cut 58 1 [(2,pT 1)] [[.sl (v84.l.map zKp.c),iI v84.at_],x87.d] (st (by simp[q88]))<|zAA<|zAB ?_
     cases h
     simp
    have c89:=eqF g85
    refine zAC<|zAN<|cutA 58 1 [(2,pT 1)] [[.sl (v84.l.map zKp.c),iI v84.at_],[iI 15,iI 0,.str ([]:List UInt8),.osl ⟨1,9⟩ (([]:List (List UInt8)).map cS),.sl (o59.1.map zKr.c)]]<|zAA ?_
    cases h
    simp
  ·intro w1 r h
   rw[zAh] at h
   refine zBz Tryz.func74 (by rfl) (by rfl) (by simp) (by simp)<|cutA 35 1 [(0,pT 0),(2,pT 1)] [[.sl (w1.l.map zKp.c),iI w1.at_],zz0]<|zAF ?_
   obtain⟨v2,q3,h⟩:=bs h
   refine cut 35 1 [(0,pT 0),(2,pT 1),(6,.bool (!v2))] [[.sl (w1.l.map zKp.c),iI w1.at_],zz0] ?_ ?_
   ·refine st ?_
    simp
    have r57:=(zAX 2 w1 v2 q3).frame [0] [[.sl (w1.l.map zKp.c),iI w1.at_],zz0] (by simp)
    try simp at r57
    refine zAK r57 (by simp) rfl ?_
    simp
   refine spc h rfl (fun g4 h=>?_) fun g4 h=>?_
   ·have g5:=notT g4
    obtain⟨v6,q7,h⟩:=bs h
    rcases v6 with e8|v9
    ·replace h:=zDB h
     refine zAF<|stP 1 ?_
     simp
     have r10:=(panL (zCc w1 (.inl e8) q7)).frame [0] [[.sl (w1.l.map zKp.c),iI w1.at_],zz0] (by simp)
     try simp at r10
     refine panC r10 (by simp) (by simp)<|zAS<|zAS ?_
     cases h
     simp
    replace h:=zCP h
    refine cut 35 1 [(2,pT 1)] [[.sl (v9.2.l.map zKp.c),iI v9.2.at_],(zKr.d v9.1)] ?_ ?_
    ·refine st ?_
     simp
     have r11:=(panR (zCc w1 (.inr v9) q7)).frame [0] [[.sl (w1.l.map zKp.c),iI w1.at_],zz0] (by simp)
     try simp at r11
     refine zAK r11 (by simp) rfl ?_
     simp
    refine zAA<|zAB ?_
    cases h
    simp
   have g12:=notF g4
   refine zAC<|zAN ?_
   obtain⟨v13,q14,h⟩:=bs h
   rcases v13 with e15|v16
   ·replace h:=zDB h
    refine zAF<|stP 1 ?_
    simp
    have r55:=(panL (zAe fuel w1 (.inl e15) q14)).frame [0] [[.sl (w1.l.map zKp.c),iI w1.at_],zz0] (by simp)
    try simp at r55
    refine panC r55 (by simp) (by simp)<|zAS ?_
    cases h
    simp
   replace h:=zCP h
   refine cut 35 1 [(0,pT 0),(2,pT 1),(3,pT 2)] [[.sl (v16.2.l.map zKp.c),iI v16.2.at_],zz0,[iI 14,iI 0,.str ([]:List UInt8),.sl (v16.1.map cS),.osl ⟨5,26⟩ (([]:List zKr).map zKr.c)]] ?_ ?_
   ·refine st ?_
    simp
    have r56:=(panR (zAe fuel w1 (.inr v16) q14)).frame [0] [[.sl (w1.l.map zKp.c),iI w1.at_],zz0] (by simp)
    try simp at r56
    refine zAK r56 (by simp) rfl ?_
    simp
   refine zAF ?_
   obtain⟨b31,q32,h⟩:=bs h
   refine cut 35 1 [(0,pT 0),(2,pT 1),(3,pT 2),(29,.bool b31)] [[.sl (v16.2.l.map zKp.c),iI v16.2.at_],zz0,[iI 14,iI 0,.str ([]:List UInt8),.sl (v16.1.map cS),.osl ⟨5,26⟩ (([]:List zKr).map zKr.c)]] ?_ ?_
   ·obtain⟨v17,q18,q32⟩:=bs q32
    rcases sp q32 with ⟨g19,q32⟩|⟨g19,q32⟩
    ·obtain rfl:=oi q32
     refine st ?_
     simp[g19]
     have r40:=(zBl v16.2 v17 q18).frame [0] [[.sl (v16.2.l.map zKp.c),iI v16.2.at_],zz0,[iI 14,iI 0,.str ([]:List UInt8),.sl (v16.1.map cS),.osl ⟨5,26⟩ (([]:List zKr).map zKr.c)]] (by simp)
     try simp[g19] at r40
     refine zAK r40 (by simp[g19]) rfl ?_
     simp[g19]
    obtain⟨v20,q21,q32⟩:=bs q32
    rcases sp q32 with ⟨g22,q32⟩|⟨g22,q32⟩
    ·obtain rfl:=oi q32
     refine st ?_
     simp[g19,g22]
     have r41:=(zBl v16.2 v17 q18).frame [0] [[.sl (v16.2.l.map zKp.c),iI v16.2.at_],zz0,[iI 14,iI 0,.str ([]:List UInt8),.sl (v16.1.map cS),.osl ⟨5,26⟩ (([]:List zKr).map zKr.c)]] (by simp)
     try simp[g19,g22] at r41
     refine zAK r41 (by simp[g19,g22]) rfl ?_
     simp[g19,g22]
     have r42:=(zAX 4 v16.2 v20 q21).frame [0] [[.sl (v16.2.l.map zKp.c),iI v16.2.at_],zz0,[iI 14,iI 0,.str ([]:List UInt8),.sl (v16.1.map cS),.osl ⟨5,26⟩ (([]:List zKr).map zKr.c)]] (by simp)
     try simp[g19,g22] at r42
     refine zAK r42 (by simp[g19,g22]) rfl ?_
     simp[g19,g22]
    obtain⟨v23,q24,q32⟩:=bs q32
    rcases sp q32 with ⟨g25,q32⟩|⟨g25,q32⟩
    ·obtain rfl:=oi q32
     refine st ?_
     simp[g19,g22,g25]
     have r43:=(zBl v16.2 v17 q18).frame [0] [[.sl (v16.2.l.map zKp.c),iI v16.2.at_],zz0,[iI 14,iI 0,.str ([]:List UInt8),.sl (v16.1.map cS),.osl ⟨5,26⟩ (([]:List zKr).map zKr.c)]] (by simp)
     try simp[g19,g22,g25] at r43
     refine zAK r43 (by simp[g19,g22,g25]) rfl ?_
     simp[g19,g22,g25]
     have r44:=(zAX 4 v16.2 v20 q21).frame [0] [[.sl (v16.2.l.map zKp.c),iI v16.2.at_],zz0,[iI 14,iI 0,.str ([]:List UInt8),.sl (v16.1.map cS),.osl ⟨5,26⟩ (([]:List zKr).map zKr.c)]] (by simp)
     try simp[g19,g22,g25] at r44
     refine zAK r44 (by simp[g19,g22,g25]) rfl ?_
     simp[g19,g22,g25]
     have r45:=(zAU [95] v16.2 v23 q24).frame [0] [[.sl (v16.2.l.map zKp.c),iI v16.2.at_],zz0,[iI 14,iI 0,.str ([]:List UInt8),.sl (v16.1.map cS),.osl ⟨5,26⟩ (([]:List zKr).map zKr.c)]] (by simp)
     try simp[g19,g22,g25] at r45
     refine zAK r45 (by simp[g19,g22,g25]) rfl ?_
     simp[g19,g22,g25]
    obtain⟨v26,q27,q32⟩:=bs q32
    rcases sp q32 with ⟨g28,q32⟩|⟨g28,q32⟩
    ·obtain rfl:=oi q32
     refine st ?_
     simp[g19,g22,g25,g28]
     have r46:=(zBl v16.2 v17 q18).frame [0] [[.sl (v16.2.l.map zKp.c),iI v16.2.at_],zz0,[iI 14,iI 0,.str ([]:List UInt8),.sl (v16.1.map cS),.osl ⟨5,26⟩ (([]:List zKr).map zKr.c)]] (by simp)
     try simp[g19,g22,g25,g28] at r46
     refine zAK r46 (by simp[g19,g22,g25,g28]) rfl ?_
     simp[g19,g22,g25,g28]
     have r47:=(zAX 4 v16.2 v20 q21).frame [0] [[.sl (v16.2.l.map zKp.c),iI v16.2.at_],zz0,[iI 14,iI 0,.str ([]:List UInt8),.sl (v16.1.map cS),.osl ⟨5,26⟩ (([]:List zKr).map zKr.c)]] (by simp)
     try simp[g19,g22,g25,g28] at r47
     refine zAK r47 (by simp[g19,g22,g25,g28]) rfl ?_
     simp[g19,g22,g25,g28]
     have r48:=(zAU [95] v16.2 v23 q24).frame [0] [[.sl (v16.2.l.map zKp.c),iI v16.2.at_],zz0,[iI 14,iI 0,.str ([]:List UInt8),.sl (v16.1.map cS),.osl ⟨5,26⟩ (([]:List zKr).map zKr.c)]] (by simp)
     try simp[g19,g22,g25,g28] at r48
     refine zAK r48 (by simp[g19,g22,g25,g28]) rfl ?_
     simp[g19,g22,g25,g28]
     have r49:=(zAU [126] v16.2 v26 q27).frame [0] [[.sl (v16.2.l.map zKp.c),iI v16.2.at_],zz0,[iI 14,iI 0,.str ([]:List UInt8),.sl (v16.1.map cS),.osl ⟨5,26⟩ (([]:List zKr).map zKr.c)]] (by simp)
     try simp[g19,g22,g25,g28] at r49
     refine zAK r49 (by simp[g19,g22,g25,g28]) rfl ?_
     simp[g19,g22,g25,g28]
    obtain⟨v29,q30,q32⟩:=bs q32
    obtain rfl:=oi q32
    refine st ?_
    simp[g19,g22,g25,g28]
    have r50:=(zBl v16.2 v17 q18).frame [0] [[.sl (v16.2.l.map zKp.c),iI v16.2.at_],zz0,[iI 14,iI 0,.str ([]:List UInt8),.sl (v16.1.map cS),.osl ⟨5,26⟩ (([]:List zKr).map zKr.c)]] (by simp)
    try simp[g19,g22,g25,g28] at r50
    refine zAK r50 (by simp[g19,g22,g25,g28]) rfl ?_
    simp[g19,g22,g25,g28]
    have r51:=(zAX 4 v16.2 v20 q21).frame [0] [[.sl (v16.2.l.map zKp.c),iI v16.2.at_],zz0,[iI 14,iI 0,.str ([]:List UInt8),.sl (v16.1.map cS),.osl ⟨5,26⟩ (([]:List zKr).map zKr.c)]] (by simp)
    try simp[g19,g22,g25,g28] at r51
    refine zAK r51 (by simp[g19,g22,g25,g28]) rfl ?_
    simp[g19,g22,g25,g28]
    have r52:=(zAU [95] v16.2 v23 q24).frame [0] [[.sl (v16.2.l.map zKp.c),iI v16.2.at_],zz0,[iI 14,iI 0,.str ([]:List UInt8),.sl (v16.1.map cS),.osl ⟨5,26⟩ (([]:List zKr).map zKr.c)]] (by simp)
    try simp[g19,g22,g25,g28] at r52
    refine zAK r52 (by simp[g19,g22,g25,g28]) rfl ?_
    simp[g19,g22,g25,g28]
    have r53:=(zAU [126] v16.2 v26 q27).frame [0] [[.sl (v16.2.l.map zKp.c),iI v16.2.at_],zz0,[iI 14,iI 0,.str ([]:List UInt8),.sl (v16.1.map cS),.osl ⟨5,26⟩ (([]:List zKr).map zKr.c)]] (by simp)
    try simp[g19,g22,g25,g28] at r53
    refine zAK r53 (by simp[g19,g22,g25,g28]) rfl ?_
    simp[g19,g22,g25,g28]
    have r54:=(zAU [40] v16.2 v29 q30).frame [0] [[.sl (v16.2.l.map zKp.c),iI v16.2.at_],zz0,[iI 14,iI 0,.str ([]:List UInt8),.sl (v16.1.map cS),.osl ⟨5,26⟩ (([]:List zKr).map zKr.c)]] (by simp)
    try simp[g19,g22,g25,g28] at r54
    refine zAK r54 (by simp[g19,g22,g25,g28]) rfl ?_
    simp[g19,g22,g25,g28]
   refine spc h rfl (fun g33 h=>?_) fun g33 h=>?_
   ·obtain⟨v34,q35,h⟩:=bs h
    rcases v34 with e36|v37
    ·replace h:=zDB h
     refine stP 1 ?_
     simp
     have r38:=(panL (zCc v16.2 (.inl e36) q35)).frame [0] [[.sl (v16.2.l.map zKp.c),iI v16.2.at_],zz0,[iI 14,iI 0,.str ([]:List UInt8),.sl (v16.1.map cS),.osl ⟨5,26⟩ (([]:List zKr).map zKr.c)]] (by simp)
     try simp at r38
     refine panC r38 (by simp) (by simp)<|zAS ?_
     cases h
     simp
    replace h:=zCP h
    refine last 35 1 [(2,pT 1),(3,pT 2)] [[.sl (v37.2.l.map zKp.c),iI v37.2.at_],zz0,[iI 14,iI 0,.str ([]:List UInt8),.sl (v16.1.map cS),.osl ⟨5,26⟩ ([v37.1].map zKr.c)]] ?_ fun zz hs=>?_
    ·refine st ?_
     simp
     have r39:=(panR (zCc v16.2 (.inr v37) q35)).frame [0] [[.sl (v16.2.l.map zKp.c),iI v16.2.at_],zz0,[iI 14,iI 0,.str ([]:List UInt8),.sl (v16.1.map cS),.osl ⟨5,26⟩ (([]:List zKr).map zKr.c)]] (by simp)
     try simp at r39
     refine zAK r39 (by simp) rfl ?_
     simp
    refine zDI ?_ hs
    refine cutA 35 1 [(2,pT 1)] [[.sl (v37.2.l.map zKp.c),iI v37.2.at_],[iI 14,iI 0,.str ([]:List UInt8),.sl (v16.1.map cS),.sl ([v37.1].map zKr.c)],[iI 14,iI 0,.str ([]:List UInt8),.sl (v16.1.map cS),.osl ⟨5,26⟩ ([v37.1].map zKr.c)]]<|zAA ?_
    cases h
    simp
   refine zAC<|zAN<|cutA 35 1 [(2,pT 1)] [[.sl (v16.2.l.map zKp.c),iI v16.2.at_],[iI 14,iI 0,.str ([]:List UInt8),.sl (v16.1.map cS),.sl (([]:List zKr).map zKr.c)],[iI 14,iI 0,.str ([]:List UInt8),.sl (v16.1.map cS),.osl ⟨5,26⟩ (([]:List zKr).map zKr.c)]]<|zAA ?_
   cases h
   simp
theorem zCk(fuel:Nat):(∀(w1:zKm)(r:(zKm) ⊕ (zKr×zKm))(_:zAh fuel w1=some r),Sum.elim (fun r=>RawP Tryz.prog 74 (pan1 112) [pT 0] [[.sl (w1.l.map zKp.c),iI w1.at_]] [[.sl (r.l.map zKp.c),iI r.at_]]) (fun r=>Raw Tryz.prog 74 [pT 0] [[.sl (w1.l.map zKp.c),iI w1.at_]] (.agg (zKr.d r.1)) [[.sl (r.2.l.map zKp.c),iI r.2.at_]]) r):=(zC9 fuel).2
theorem zFi(w1:zKm)(r:Bool)(h:zCC w1=some r):Raw Tryz.prog 142 [pT 0] [[.sl (w1.l.map zKp.c),iI w1.at_]] (.bool r) [[.sl (w1.l.map zKp.c),iI w1.at_]]:=by
 rw[zCC] at h
 refine zA9 Tryz.func142 (by rfl) (by rfl) (by simp) (by simp)<|cutA 31 1 [(0,pT 0)] [[.sl (w1.l.map zKp.c),iI w1.at_]] ?_
 obtain⟨x2,q3,h⟩:=bs h
 obtain⟨q4,q5⟩:=zGj q3
 refine cut 31 1 [(0,pT 0),(3,pT 1)] [[.sl (w1.l.map zKp.c),iI w1.at_],(zKp.c x2)] ?_ ?_
 ·refine zAg [] mixed (n:=31) rfl (by decide) ?_
  simp[q4,q5]
 refine zAF<|cutA 31 1 [(0,pT 0),(15,iI x2.Kind)] [[.sl (w1.l.map zKp.c),iI w1.at_],(zKp.c x2)]<|zAP<|zAF<|cutA 31 1 [(0,pT 0),(15,iI x2.Kind),(16,.bool (eqI x2.Kind 4))] [[.sl (w1.l.map zKp.c),iI w1.at_],(zKp.c x2)]<|spc h rfl (fun g6 h=>?_) fun g6 h=>?_
 ·have c7:=eqT g6
  refine zAC<|zAN<|zBn rfl (by simp[g6])<|cutA 31 1 [(2,.bool true)] [[.sl (w1.l.map zKp.c),iI w1.at_],(zKp.c x2)]<|zAA<|zAD<|zAB ?_
  cases h
  simp
 have c8:=eqF g6
 refine cutA 31 1 [(0,pT 0),(15,iI x2.Kind),(16,.bool (eqI x2.Kind 5))] [[.sl (w1.l.map zKp.c),iI w1.at_],(zKp.c x2)]<|spc h rfl (fun g9 h=>?_) fun g9 h=>?_
 ·have c10:=eqT g9
  refine zAC<|zAN<|zBn rfl (by simp[g9])<|cutA 31 1 [(2,.bool true)] [[.sl (w1.l.map zKp.c),iI w1.at_],(zKp.c x2)]<|zAA<|zAD<|zAB ?_
  cases h
  simp
 have c11:=eqF g9
 refine cutA 31 1 [(0,pT 0),(15,iI x2.Kind),(16,.bool (eqI x2.Kind 1))] [[.sl (w1.l.map zKp.c),iI w1.at_],(zKp.c x2)]<|spc h rfl (fun g12 h=>?_) fun g12 h=>?_
 ·have c13:=eqT g12
  refine zAC<|zAN<|zBn rfl (by simp[g12])<|cutA 31 1 [(2,.bool true)] [[.sl (w1.l.map zKp.c),iI w1.at_],(zKp.c x2)]<|zAA<|zAD<|zAB ?_
  cases h
  simp
 have c14:=eqF g12
 refine zHZ 31 1 [(0,pT 0),(16,.bool (eqI x2.Kind 2))] [[.sl (w1.l.map zKp.c),iI w1.at_],(zKp.c x2)]<|spc h rfl (fun g15 h=>?_) fun g15 h=>?_
 ·have c16:=eqT g15
  refine cutA 31 1 [(2,.bool true)] [[.sl (w1.l.map zKp.c),iI w1.at_],(zKp.c x2)]<|zAA<|zAD<|zAB ?_
  cases h
  simp
 have c17:=eqF g15
 refine zAC<|zDb<|zAN ?_
 obtain⟨b26,q27,h⟩:=bs h
 refine cut 31 1 [(2,.bool b26)] [[.sl (w1.l.map zKp.c),iI w1.at_],(zKp.c x2)] ?_ ?_
 ·obtain⟨v18,q19,q27⟩:=bs q27
  rcases sp q27 with ⟨g20,q27⟩|⟨g20,q27⟩
  ·obtain rfl:=oi q27
   refine st ?_
   simp[g20]
   have r28:=(zAU [40] w1 v18 q19).frame [0] [[.sl (w1.l.map zKp.c),iI w1.at_],[iI x2.Kind,.str x2.Text,iI x2.At.Line,iI x2.At.Column]] (by simp)
   try simp[g20] at r28
   refine zAK r28 (by simp[g20]) rfl ?_
   simp[g20]
  obtain⟨v21,q22,q27⟩:=bs q27
  rcases sp q27 with ⟨g23,q27⟩|⟨g23,q27⟩
  ·obtain rfl:=oi q27
   refine st ?_
   simp[g20,g23]
   have r29:=(zAU [40] w1 v18 q19).frame [0] [[.sl (w1.l.map zKp.c),iI w1.at_],[iI x2.Kind,.str x2.Text,iI x2.At.Line,iI x2.At.Column]] (by simp)
   try simp[g20,g23] at r29
   refine zAK r29 (by simp[g20,g23]) rfl ?_
   simp[g20,g23]
   have r30:=(zAU [108,101,116] w1 v21 q22).frame [0] [[.sl (w1.l.map zKp.c),iI w1.at_],[iI x2.Kind,.str x2.Text,iI x2.At.Line,iI x2.At.Column]] (by simp)
   try simp[g20,g23] at r30
   refine zAK r30 (by simp[g20,g23]) rfl ?_
   simp[g20,g23]
  obtain⟨v24,q25,q27⟩:=bs q27
  obtain rfl:=oi q27
  refine st ?_
  simp[g20,g23]
  have r31:=(zAU [40] w1 v18 q19).frame [0] [[.sl (w1.l.map zKp.c),iI w1.at_],[iI x2.Kind,.str x2.Text,iI x2.At.Line,iI x2.At.Column]] (by simp)
  try simp[g20,g23] at r31
  refine zAK r31 (by simp[g20,g23]) rfl ?_
  simp[g20,g23]
  have r32:=(zAU [108,101,116] w1 v21 q22).frame [0] [[.sl (w1.l.map zKp.c),iI w1.at_],[iI x2.Kind,.str x2.Text,iI x2.At.Line,iI x2.At.Column]] (by simp)
  try simp[g20,g23] at r32
  refine zAK r32 (by simp[g20,g23]) rfl ?_
  simp[g20,g23]
  have r33:=(zAU [99,97,115,101] w1 v24 q25).frame [0] [[.sl (w1.l.map zKp.c),iI w1.at_],[iI x2.Kind,.str x2.Text,iI x2.At.Line,iI x2.At.Column]] (by simp)
  try simp[g20,g23] at r33
  refine zAK r33 (by simp[g20,g23]) rfl ?_
  simp[g20,g23]
 refine zAA ?_
 cases h
 simp
end Go.Proofs.YtcbjbgiboimgaaaGreatDoor
