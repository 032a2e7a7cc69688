/- CanonSteps holds: for every input the law returns true. No condition. Part 11 of 19. No condition. -/
import Derived.Test.YtkdhppfdiagglaaGreatDoorCSj
import Derived.Lib.AtoiAllCases
set_option linter.unusedVariables false
set_option linter.unnecessarySimpa false
set_option linter.unusedSimpArgs false
set_option maxRecDepth 100000
set_option maxHeartbeats 4000000
namespace Go.Proofs.YtkdhppfdiagglaaGreatDoor
open Go Go.Abs Go.RowKit
theorem atoi_err{imm:Addr->Option Value}{w w':World}{s:ByteArray}{n:Int}{N:Nat}{ev:Value}{T:TypeId}{fr:Nat×Nat}{E:TypeId}(hn:inR .i64 n)(hlen:s.data.toList.length<=1152921504606846976)
 (him: ∀x v,imm x=some v->w.cell? x=some v) (hN:w.heap.size<=N) (hc:w'.heap[N]? =some (.cells #[.string ⟨#[65,116,111,105]⟩,.string s,ev] T fr)) (hb:Below w.heap.size w w'):
 ∃imm' v,Ending.returned (.tuple #[.int .i64 n,.iface E (.pointer (some ⟨N,0,none⟩))])=.returned v∧Rep imm' [] (.tup [.int .i64 n,.iface E (.cptr [.str [65,116,111,105],.str s.data.toList,.top])]) v∧(∀x v,imm x=some v->imm' x=some v)∧(∀x v,imm' x=some v->w'.cell? x=some v)∧
  Below w.heap.size w w'∧(∀x v,imm' x=some v->imm x=some v∨w.heap.size<=x.block):=by
 have hlt: ∀x v,imm x=some v->x.block<w.heap.size:=fun x v hx=>World.block_lt_of_cell? _ _ (him x v hx)
 have hadd: ∀j,((⟨N,0,none⟩:Addr).add j)=⟨N,j,none⟩:=fun j=>by
  unfold Addr.add
  split
  ·rename_i h0;subst h0;rfl
  ·simp
 have hcell: ∀j,w'.cell? ⟨N,j,none⟩=(#[Value.string ⟨#[65,116,111,105]⟩,.string s,ev]:Array Value)[j]? :=fun j=>by
  unfold World.cell?
  simp[hc]
 refine⟨fun x=>if x.block=N then w'.cell? x else imm x,_,rfl,?_,fun x v hx=>?_,fun x v hx=>?_,hb,fun x v hx=>?_⟩
 ·refine .tup _ _ rfl fun i x hi=>?_
  rcases i with _|_|i
  ·simp at hi;subst hi;exact .int .i64 n hn
  ·simp at hi;subst hi
   refine .iface _ _ _ (.cptr _ ⟨N,0,none⟩ (fun j=>(#[Value.string ⟨#[65,116,111,105]⟩,.string s,ev]:Array Value).getD j default) (fun j y hj=>?_) fun j y hj=>?_)
   ·rw[hadd j]
    simp only[if_true]
    rw[hcell j]
    have hj3:j<3:=by have:=(zq1 hj).1;simpa using this
    rcases j with _|_|_|j
    ·rfl
    ·rfl
    ·rfl
    ·omega
   ·rcases j with _|_|_|j
    ·simp at hj;subst hj;exact .str _ _ rfl (by decide)
    ·simp at hj;subst hj;exact .str _ _ rfl hlen
    ·simp at hj;subst hj;exact .top _
    ·simp at hj
  ·simp at hi
 ·show(if x.block=N then w'.cell? x else imm x)=some v
  rw[if_neg (by have:=hlt x v hx;omega)];exact hx
 ·have hx:(if x.block=N then w'.cell? x else imm x)=some v:=hx
  split at hx
  ·exact hx
  ·have hc':=him x v hx
   have hbl:=World.block_lt_of_cell? _ _ hc'
   unfold World.cell? at hc' ⊢
   rw[hb.block _ hbl];exact hc'
 ·have hx:(if x.block=N then w'.cell? x else imm x)=some v:=hx
  split at hx
  ·rename_i e;exact .inr (by omega)
  ·exact .inl hx
theorem strconv_Atoi_ok(s0:List UInt8)(r:Int×Bool)(h:zE0 s0=some r):Pure Tryz.prog 203 [.str s0] (.tup [.int .i64 r.1,if r.2 then .iface 225 (.cptr [.str [65,116,111,105],.str s0,.top]) else .nilif]):=by
 unfold zE0 at h
 split at h
 case isFalse=>cases h
 rename_i hlen
 refine⟨⟨Tryz.f203,Tryz.func203,by rfl,by rfl⟩,fun imm w vals him hgl htb ha=>?_⟩
 obtain⟨a,rfl,h1⟩:=vals1 ha
 cases h1 with
 |str s _ hs hb=>
  subst hs
  have hsz:s.size<=140737488355328:=by
   have:s.data.toList.length=s.size:=Array.length_toList
   omega
  split at h
  ·rename_i v hv
   cases h
   obtain⟨b1,b2⟩:=Lib.atoiAll_bounds hv
   refine(Tryz.strconv_Atoi_ok s (by omega) v hv w).mono fun e w' he=>?_
   obtain⟨rfl,hw⟩:=he
   have hbel:Below w.heap.size w w':=by
    rcases hw with rfl|⟨t,rfl⟩
    ·exact Below.refl _ _
    ·exact Lib.bytesWorld_below _ _ _
   refine⟨imm,_,rfl,?_,fun _ _ h=>h,fun x u hx=>?_,hbel,fun _ _ h=>.inl h⟩
   ·refine .tup _ _ rfl fun i x hi=>?_
    rcases i with _|_|i
    ·simp at hi;subst hi;exact .int .i64 _ (by simp only[inR];omega)
    ·simp at hi;subst hi;exact .nilif
    ·simp at hi
   ·have hc:=him x u hx
    have hbl:=World.block_lt_of_cell? _ _ hc
    unfold World.cell? at hc ⊢
    rw[hbel.block _ hbl];exact hc
  ·rename_i hv
   cases h
   obtain⟨b1,b2⟩:=Lib.atoiSat_bounds s.data.toList
   obtain⟨te,pe,hg⟩:=hgl.2 2 (by simp[ge])
   refine(Tryz.strconv_Atoi_range s (by omega) hv (.iface te pe) w (him _ _ hg) (.inr ⟨te,pe,rfl⟩)).mono fun e w' he=>?_
   obtain⟨N,rfl,hN,hc,hbel⟩:=he
   exact atoi_err (by simp only[inR];omega) hb him hN hc hbel
  ·rename_i q1 q2
   have hv:Lib.atoiAll s.data.toList=Lib.atoiAll []:=Lib.NumEnd.casesOn (motive:=fun z=>(∀v,z=.ok v->False)->(z=.range->False)->z=Lib.atoiAll []) (Lib.atoiAll s.data.toList) (fun v a _=>(a v rfl).elim) (fun _ _=>rfl) (fun _ b=>(b rfl).elim) q1 q2
   cases h
   obtain⟨te,pe,hg⟩:=hgl.2 1 (by simp[ge])
   refine(Tryz.strconv_Atoi_syntax s (by omega) hv (.iface te pe) w (him _ _ hg) (.inr ⟨te,pe,rfl⟩)).mono fun e w' he=>?_
   obtain⟨N,rfl,hN,hc,hbel⟩:=he
   exact atoi_err (by simp only[inR];omega) hb him hN hc hbel
end Go.Proofs.YtkdhppfdiagglaaGreatDoor
