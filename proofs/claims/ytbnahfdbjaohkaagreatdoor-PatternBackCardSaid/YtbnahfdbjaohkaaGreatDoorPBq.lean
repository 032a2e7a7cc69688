/- For every input the law PatternBack returns true. Part 17 of 23. No condition. -/
import Derived.Test.YtbnahfdbjaohkaaGreatDoorPBp
import Derived.Lib.AtoiTie
set_option linter.unusedVariables false
set_option linter.unnecessarySimpa false
set_option linter.unusedSimpArgs false
set_option maxRecDepth 100000
set_option maxHeartbeats 4000000
namespace Go.Proofs.YtbnahfdbjaohkaaGreatDoor
open Go Go.Abs
def vf(acc:Nat)(l:List UInt8):Nat:=l.foldl (fun a c=>a*10+(c.toNat-48)) acc
theorem vf_app(acc:Nat)(l m:List UInt8):vf acc (l++m)=vf (vf acc l) m:=List.foldl_append
theorem vf_ge: ∀(l:List UInt8)(acc:Nat),acc<=vf acc l
 |[],_=>Nat.le_refl _
 |c::l,acc=>Nat.le_trans (by omega) (vf_ge l (acc*10+(c.toNat-48)))
theorem dgt(d:Nat)(h:d<10):(UInt8.ofNat (48+d)).toNat=48+d:=by
 rw[UInt8.toNat_ofNat']
 exact Nat.mod_eq_of_lt (by omega)
theorem dec_ind{Q:Nat->Prop}(h1: ∀n,n<10->Q n)(h2: ∀n,10<=n->Q (n/10)->Q n): ∀n,Q n:=fun n=>by
 induction n using Nat.strongRecOn with
 |_ n ih=>
  rcases Nat.lt_or_ge n 10 with h|h
  ·exact h1 n h
  ·exact h2 n h (ih (n/10) (by omega))
theorem zHc{n:Nat}(h:n<10):Lib.decDigits n=[UInt8.ofNat (48+n)]:=by rw[Lib.decDigits,dif_pos h]
theorem dec_big{n:Nat}(h:10<=n):Lib.decDigits n=Lib.decDigits (n/10)++[UInt8.ofNat (48+n%10)]:=by rw[Lib.decDigits,dif_neg (by omega)]
theorem dec_vf: ∀n,vf 0 (Lib.decDigits n)=n:=by
 refine dec_ind (fun n h=>?_) (fun n h ih=>?_)
 ·rw[zHc h]
  show 0*10+((UInt8.ofNat (48+n)).toNat-48)=n
  rw[dgt n h];omega
 ·rw[dec_big h,vf_app,ih]
  show n/10*10+((UInt8.ofNat (48+n%10)).toNat-48)=n
  rw[dgt _ (by omega)];omega
theorem zFM: ∀n,∀c∈Lib.decDigits n,48<=c.toNat∧c.toNat<=57:=by
 refine dec_ind (fun n h c hc=>?_) (fun n h ih c hc=>?_)
 ·rw[zHc h] at hc
  simp only[List.mem_cons,List.not_mem_nil,or_false] at hc
  subst hc
  rw[dgt n h];omega
 ·rw[dec_big h] at hc
  rcases List.mem_append.1 hc with hc|hc
  ·exact ih c hc
  ·simp only[List.mem_cons,List.not_mem_nil,or_false] at hc
   subst hc
   rw[dgt _ (by omega)];omega
theorem zFz: ∀n,∃c l,Lib.decDigits n=c::l∧(c.toNat=48->n=0):=by
 refine dec_ind (fun n h=>?_) (fun n h ih=>?_)
 ·exact⟨_,[],zHc h,fun h0=>by rw[dgt n h] at h0;omega⟩
 ·obtain⟨c,l,e,h0⟩:=ih
  exact⟨c,l++[UInt8.ofNat (48+n%10)],by rw[dec_big h,e];rfl,fun g=>by have:=h0 g;omega⟩
theorem dec_short(n:Nat)(hn:n<=4503599627370496):(Lib.decDigits n).length<=16:=by
 rw[Lib.decDigits_length]
 have h3: ∀j u,u<10^(j+1)->Lib.nDigits u<=j+1:=by
  intro j
  induction j with
  |zero=>intro u hu;rw[Lib.nDigits_small (by simpa using hu)];omega
  |succ j ihj=>
   intro u hu
   by_cases hu2:u<10
   ·rw[Lib.nDigits_small hu2];omega
   ·have:=ihj (u/10) (by have:10^(j+1+1)=10^(j+1)*10:=Nat.pow_succ ..;omega)
    rw[Lib.nDigits_big hu2];omega
 exact h3 15 n (by omega)
theorem chk8{n:Int}(h1:0<=n)(h2:n<=255):chk .u8 n=some n:=by rw[chk,if_pos];exact⟨h1,h2⟩
theorem zI3(s:List UInt8)(hd: ∀c∈s,48<=c.toNat∧c.toNat<=57): ∀(m i k acc:Nat),i+m=s.length->m+1<=k->vf acc (s.drop i)<=4503599627370496->zAb s k (acc:Int) i=some (.inr ())
 |0,i,k+1,acc,hi,hk,hv=>by
  rw[zAb,show ltI (i:Int) (s.length:Int)=false from decide_eq_false (by omega)];rfl
 |m+1,i,k+1,acc,hi,hk,hv=>by
  have hl:i<s.length:=by omega
  obtain⟨d1,d2⟩:=hd s[i] (List.getElem_mem hl)
  rw[List.drop_eq_getElem_cons hl] at hv
  have hv':vf (acc*10+(s[i].toNat-48)) (s.drop (i+1))<=4503599627370496:=hv
  have hge:=vf_ge (s.drop (i+1)) (acc*10+(s[i].toNat-48))
  rw[zAb,show ltI (i:Int) (s.length:Int)=true from zqb (by omega),if_pos rfl,chkA (by omega) (by omega),obm,zq2 hl,obm,chk8 (by omega) (by omega),obm,chkA (by omega) (by omega),obm]
  rw[if_neg (by simp only[ltI,decide_eq_true_eq];omega)]
  have e:10*(acc:Int)+((s[i].toNat:Int)-48)=((acc*10+(s[i].toNat-48):Nat):Int):=by omega
  rw[e]
  exact zI3 s hd m (i+1) k _ (by omega) (by omega) hv'
theorem dec_zero{n:Nat}{c:UInt8}{l:List UInt8}(e:Lib.decDigits n=c::l)(h:1<(Lib.decDigits n).length):c.toNat≠48:=fun h0=>by
 obtain⟨c',l',e',h'⟩:=zFz n
 rw[e] at e'
 cases e'
 have:=h' h0
 subst this
 rw[zHc (by decide)] at h
 simp at h
theorem dec_numE(n:Nat)(hn:n<=4503599627370496):numE (Lib.decDigits n)=some 0:=by
 obtain⟨c,l,e,_⟩:=zFz n
 unfold numE
 rw[zCM]
 have hb:(if ltI 1 ((Lib.decDigits n).length:Int) then ((Lib.decDigits n)[0]?).bind fun c5=>some (eqI (c5.toNat:Int) 48) else some false:Option Bool)=some false:=by
  split
  ·rename_i h
   simp only[ltI,decide_eq_true_eq] at h
   have h48:=dec_zero e (by omega)
   rw[e]
   show some (eqI (c.toNat:Int) 48)=some false
   rw[show eqI (c.toNat:Int) 48=false from decide_eq_false (by omega)]
  ·rfl
 rw[hb,obm,if_neg (by decide),show(0:Int)=((0:Nat):Int) from rfl,zI3 _ (zFM n) (Lib.decDigits n).length 0 _ 0 (by omega) (by omega) (by rw[List.drop_zero,dec_vf];exact hn)]
 rfl
theorem diB_of{c:UInt8}(h:48<=c.toNat∧c.toNat<=57):diB c=true∧(smB c||caB c)=false∧c≠39:=by
 refine⟨?_,?_,fun e=>?_⟩
 ·simp only[diB,leI,zq7,decide_eq_true_eq];omega
 ·simp only[smB,caB,leI,Bool.or_eq_false_iff,Bool.and_eq_false_iff,decide_eq_false_iff_not];omega
 ·subst e;exact absurd h.1 (by decide)
theorem tk_dec(n:Nat)(hn:n<=4503599627370496):tk (Lib.decDigits n)=some (4,Lib.decDigits n,[]):=by
 obtain⟨c,l,e,_⟩:=zFz n
 have hall: ∀c∈Lib.decDigits n,diB c=true:=fun c hc=>(diB_of (zFM n c hc)).1
 have hcw:=cw_all hall
 have hE:=dec_numE n hn
 obtain⟨h1,h2,h3⟩:=diB_of (zFM n c (by rw[e];exact zq9))
 rw[e] at hcw hE ⊢
 rw[tk.eq_def]
 dsimp only
 rw[if_neg (by rw[h2];decide),if_neg h3,if_pos h1,hcw,List.take_length,List.drop_length,if_pos hE]
theorem decFrom_vf: ∀(l:List UInt8)(acc:Nat),(∀c∈l,48<=c.toNat∧c.toNat<=57)->Lib.decFrom acc l=some (vf acc l)
 |[],_,_=>rfl
 |c::l,acc,h=>by
  obtain⟨h1,h2⟩:=h c zq9
  have hd:Lib.digitVal c=some (c.toNat-48):=by unfold Lib.digitVal;rw[if_pos ⟨h1,h2⟩]
  rw[Lib.decFrom,hd]
  exact decFrom_vf l _ fun x hx=>h x (zqc _ hx)
theorem atoi_dec(n:Nat)(hn:n<=4503599627370496):zC3 (Lib.decDigits n)=some ((n:Int),false):=by
 have hl:=dec_short n hn
 obtain⟨c,l,e,_⟩:=zFz n
 have hc:=zFM n c (by rw[e];exact zq9)
 have h1:Lib.atoiAll (Lib.decDigits n)=.ok (n:Int):=by
  have hp:Lib.parseMag (Lib.decDigits n)=.ok n:=by
   rw[Lib.parseMag_short _ (by omega),Lib.decNat]
   have:(Lib.decDigits n).isEmpty=false:=by rw[e];rfl
   rw[this,if_neg (by decide),decFrom_vf _ _ (zFM n),dec_vf];rfl
  rw[e] at hp ⊢
  rw[Lib.atoiAll_plain c l (by omega) (by omega),hp]
  show(if 9223372036854775808<=n then Lib.NumEnd.range else Lib.NumEnd.ok (n:Int))=_
  rw[if_neg (by omega)]
 rw[zC3,if_pos (by omega),h1]
theorem ident_loop(s:List UInt8)(hd: ∀c∈s,48<=c.toNat∧c.toNat<=57): ∀(m i k:Nat),i+m=s.length->m+1<=k->zAy s k i=some (.inr ())
 |0,i,k+1,hi,hk=>by
  rw[zAy,show ltI (i:Int) (s.length:Int)=false from decide_eq_false (by omega)];rfl
 |m+1,i,k+1,hi,hk=>by
  have hl:i<s.length:=by omega
  obtain⟨d1,d2⟩:=hd s[i] (List.getElem_mem hl)
  have h3:zCC s[i]=some 3:=by
   simp only[zCC,leI,zq7,decide_eq_true_eq]
   rw[if_neg (by omega),if_neg (by omega),if_pos (by omega)]
  rw[zAy,show ltI (i:Int) (s.length:Int)=true from zqb (by omega),if_pos rfl,zq2 hl,obm,h3,obm,if_neg (by decide)]
  exact ident_loop s hd m (i+1) k (by omega) (by omega)
theorem identNum_dec(n:Nat)(hn:n<=4503599627370496): ∃N,∀fuel,N<=fuel->zBN fuel (Lib.decDigits n)=some ((n:Int),0):=by
 obtain⟨c,l,e,_⟩:=zFz n
 have hl:=dec_short n hn
 refine⟨(Lib.decDigits n).length+1,fun fuel hf=>?_⟩
 rw[zBN]
 have hb:(if eqS (Lib.decDigits n) ([]:List UInt8) then some true else if ltI 1 ((Lib.decDigits n).length:Int) then ((Lib.decDigits n)[0]?).bind fun c6=>some (eqI (c6.toNat:Int) 48) else some false:Option Bool)=some false:=by
  rw[if_neg (by rw[e];simp[eqS])]
  split
  ·rename_i h
   simp only[ltI,decide_eq_true_eq] at h
   have h48:=dec_zero e (by omega)
   rw[e]
   show some (eqI (c.toNat:Int) 48)=some false
   rw[show eqI (c.toNat:Int) 48=false from decide_eq_false (by omega)]
  ·rfl
 rw[hb,obm,if_neg (by decide),show zHV (Lib.decDigits n)=some (Lib.decDigits n) by rw[zHV,if_pos (by omega)],obm,ident_loop _ (zFM n) (Lib.decDigits n).length 0 fuel (by omega) (by omega),obm]
 simp only[Sum.elim_inr,atoi_dec n hn,obm,Bool.false_eq_true,if_false]
 rw[if_neg (by simp only[ltI,decide_eq_true_eq];omega)]
theorem zCA{α β:Type}(a:α)(f:α->Option β):(some a).bind f=f a:=Eq.trans (Option.bind_some a f) rfl
theorem chk64V{n:Int}(h1: -9223372036854775808<=n)(h2:n<=9223372036854775807):chk .i64 n=some n:=by rw[chk,if_pos];exact⟨h1,h2⟩
theorem app_someV{α:Type}{b:Nat}{x y:List α}(h:0<b)(h2:(x.length+y.length)*b<=140737488355328):app b x y=some (x++y):=by rw[app,if_pos ⟨h,h2⟩]
theorem cat1{x y:List UInt8}(h:x.length+y.length<=1152921504606846976):cat x y=some (x++y):=by rw[cat,if_pos h]
theorem ltN{i n:Nat}(h: ¬i<n): ¬ltI (i:Int) (n:Int)=true:=fun h'=>by have:=ltT h';omega
theorem ltP{i n:Nat}(h:i<n):ltI (i:Int) (n:Int)=true:=zqb (by omega)
theorem zGj(P:UInt8->Bool)(h:(List.range 256).all (fun n=>P (UInt8.ofNat n))=true)(c:UInt8):P c=true:=by
 have:=zq8 h c.toNat (List.mem_range.2 c.toNat_lt)
 simpa using this
def smBV(c:UInt8):Bool:=decide (97<=c.toNat)&&decide (c.toNat<=122)
def caBV(c:UInt8):Bool:=decide (65<=c.toNat)&&decide (c.toNat<=90)
def inU(c:UInt8):Bool:=smBV c||caBV c||(decide (48<=c.toNat)&&decide (c.toNat<=57))||decide (c.toNat=95)
def nm(p:UInt8->Bool):List UInt8->Bool
 |[]=>false
 |c::s=>decide ((c::s).length<=24)&&(p c&&(c::s).all inU)
theorem nm_cons(p:UInt8->Bool)(c:UInt8)(s:List UInt8):nm p (c::s)=(decide ((c::s).length<=24)&&(p c&&(c::s).all inU)):=rfl
theorem of_M(c:UInt8): ∃k,zCC c=some k∧((eqI k 0||eqI k 5)= !inU c)∧(eqI k 2=caBV c)∧(eqI k 1=smBV c):=by
 have h:=zGj (fun c=>match zCC c with|some k=>((eqI k 0||eqI k 5)== !inU c)&&((eqI k 2==caBV c)&&(eqI k 1==smBV c))|none=>false) (by kernel_rfl) c
 cases hk:zCC c with
 |none=>rw[hk] at h;cases h
 |some k=>
  rw[hk] at h
  simp only[zq7,beq_iff_eq] at h
  exact⟨k,rfl,h.1,h.2.1,h.2.2⟩
theorem name_loop(l:List UInt8): ∀(n i k:Nat),i+n=l.length->n+1<=k->zBw l k i=some (if (l.drop i).all inU=true then .inr () else .inl false):=by
 intro n
 induction n with
 |zero=>
  intro i k hi hk
  obtain⟨g,rfl⟩: ∃g,k=g+1:=⟨k-1,by omega⟩
  rw[zBw,if_neg (ltN (by omega)),List.drop_eq_nil_of_le (by omega)]
  rfl
 |succ n ih=>
  intro i k hi hk
  obtain⟨g,rfl⟩: ∃g,k=g+1:=⟨k-1,by omega⟩
  have hx:l[i]? =some l[i]:=zq2 (by omega)
  rw[zBw,if_pos (ltP (by omega)),hx,List.drop_eq_getElem_cons (by omega),List.all_cons]
  generalize l[i]=c
  obtain⟨z,z1,z2,_⟩:=of_M c
  simp only[zCA,z1,z2]
  cases inU c
  ·rfl
  ·simp only[Bool.not_true,Bool.false_eq_true,if_false,Bool.true_and]
   exact ih (i+1) g (by omega) (by omega)
theorem name_M(s:List UInt8)(f:Int)(p:UInt8->Bool)(hp: ∀c k,zCC c=some k->eqI k f=p c){fuel:Nat}(hf:30<=fuel):zCk fuel s f=some (nm p s):=by
 rw[zCk]
 match s with
 |[]=>rfl
 |c::s=>
  rw[show eqS (c::s) []=false from decide_eq_false (by simp)]
  simp only[Bool.false_eq_true,if_false]
  by_cases hl:(c::s).length<=24
  ·rw[show ltI 24 ((c::s).length:Int)=false from decide_eq_false (by omega)]
   obtain⟨z,z1,_⟩:=of_M c
   simp only[Bool.false_eq_true,if_false,List.getElem?_cons_zero,zCA,z1,hp c z z1]
   have hu:nm p (c::s)=(p c&&(c::s).all inU):=by rw[nm_cons,zqb hl,Bool.true_and]
   rw[hu]
   cases p c
   ·rfl
   ·simp only[Bool.not_true,Bool.false_eq_true,if_false,Bool.true_and]
    rw[zHV,if_pos (by omega)]
    simp only[zCA]
    rw[name_loop (c::s) (c::s).length 0 fuel (by omega) (by omega),List.drop_zero]
    cases(c::s).all inU<;>rfl
  ·rw[show ltI 24 ((c::s).length:Int)=true from zqb (by omega)]
   have hu:nm p (c::s)=false:=by rw[nm_cons,decide_eq_false hl,Bool.false_and]
   rw[hu];rfl
theorem name1(s:List UInt8){fuel:Nat}(hf:30<=fuel):zCk fuel s 1=some (nm smBV s):=name_M s 1 smBV (fun c k h=>by
 obtain⟨z,z1,_,_,z4⟩:=of_M c
 rw[z1] at h;cases h;exact z4) hf
theorem name2(s:List UInt8){fuel:Nat}(hf:30<=fuel):zCk fuel s 2=some (nm caBV s):=name_M s 2 caBV (fun c k h=>by
 obtain⟨z,z1,_,z3,_⟩:=of_M c
 rw[z1] at h;cases h;exact z3) hf
theorem IsUpper_M(s:List UInt8){fuel:Nat}(hf:30<=fuel):zA0 fuel s=some (nm caBV s):=by rw[zA0,name2 s hf];rfl
def KEYS:List (List UInt8):=WORDS
theorem KEYS_len:KEYS.length=31:=by kernel_rfl
def kw(s:List UInt8):Bool:=KEYS.any (fun w=>decide (w=s))
theorem index_loop(l:List (List UInt8))(v:List UInt8): ∀(n i k:Nat),i+n=l.length->n+1<=k->∃o,zAs l v k i=some o∧(((l.drop i).any (fun w=>decide (w=v))=true∧∃j:Nat,o=.inl (j:Int))∨((l.drop i).any (fun w=>decide (w=v))=false∧o=.inr ())):=by
 intro n
 induction n with
 |zero=>
  intro i k hi hk
  obtain⟨g,rfl⟩: ∃g,k=g+1:=⟨k-1,by omega⟩
  rw[zAs,if_neg (ltN (by omega)),List.drop_eq_nil_of_le (by omega)]
  exact⟨_,rfl,.inr ⟨rfl,rfl⟩⟩
 |succ n ih=>
  intro i k hi hk
  obtain⟨g,rfl⟩: ∃g,k=g+1:=⟨k-1,by omega⟩
  have hx:l[i]? =some l[i]:=zq2 (by omega)
  rw[zAs,if_pos (ltP (by omega)),hx,List.drop_eq_getElem_cons (by omega),List.any_cons]
  generalize l[i]=c
  simp only[zCA]
  by_cases h:c=v
  ·rw[if_pos (show eqS v c=true from zqb h.symm),zqb h]
   exact⟨_,rfl,.inl ⟨rfl,i,rfl⟩⟩
  ·rw[if_neg (show¬eqS v c=true from fun e=>h (of_decide_eq_true e).symm),decide_eq_false h,Bool.false_or]
   exact ih (i+1) g (by omega) (by omega)
theorem contains_MV(l:List (List UInt8))(v:List UInt8){fuel:Nat}(hf:l.length+1<=fuel):zAi fuel l v=some (l.any (fun w=>decide (w=v))):=by
 obtain⟨o,o1,o2⟩:=index_loop l v l.length 0 fuel (by omega) hf
 rw[zAi,zCX,o1]
 rw[List.drop_zero] at o2
 rcases o2 with ⟨h,j,rfl⟩|⟨h,rfl⟩
 ·rw[h]
  simp only[zCA,Sum.elim_inl]
  rw[show leI 0 (j:Int)=true from zqb (by omega)]
 ·rw[h];rfl
theorem word_M(s:List UInt8){fuel:Nat}(hf:40<=fuel):zEM fuel s=some (kw s):=by
 have hF: ∀t,zCi t=some KEYS->((zCi t).bind fun v2=>(zAi fuel v2 s).bind fun v4=>some v4)=some (kw s):=fun t ht=>by
  rw[ht]
  simp only[zCA]
  rw[contains_MV KEYS s (by rw[KEYS_len];omega)];rfl
 rw[zEM]
 exact hF _ (by kernel_rfl)
def loS(s:List UInt8):Bool:=nm smBV s&& !kw s
theorem IsLower_M(s:List UInt8){fuel:Nat}(hf:40<=fuel):zAw fuel s=some (loS s):=by
 rw[zAw,name1 s (by omega)]
 unfold loS
 simp only[zCA]
 cases nm smBV s
 ·rfl
 ·rw[if_pos rfl,word_M s hf];rfl
theorem dec_len(m:Nat)(hm:m<10000000000000000):(Lib.decDigits m).length<=16:=by
 rw[Lib.decDigits_length]
 have h3: ∀j u,u<10^(j+1)->Lib.nDigits u<=j+1:=by
  intro j
  induction j with
  |zero=>intro u hu;rw[Lib.nDigits_small (by simpa using hu)];omega
  |succ j ihj=>
   intro u hu
   by_cases hu2:u<10
   ·rw[Lib.nDigits_small hu2];omega
   ·have:=ihj (u/10) (by have:10^(j+1+1)=10^(j+1)*10:=Nat.pow_succ ..;omega)
    rw[Lib.nDigits_big hu2];omega
 exact h3 15 m (by omega)
theorem itoa_M(n:Nat)(h:n<10000000000000000):zCu (n:Int)=some (Lib.decDigits n):=by
 have:=dec_len n h
 have e:Lib.itoa (n:Int)=Lib.decDigits n:=by unfold Lib.itoa;rw[if_neg (by omega)];rfl
 rw[zCu,e,if_pos (by omega)]
def nds(p:zJx):Nat:=1+(p.L.map nds).sum
decreasing_by all_goals (cases p;simp only[zJx.mk.sizeOf_spec];have:=List.sizeOf_lt_of_mem ‹_›;simp only at this;omega)
theorem nds_eq(p:zJx):nds p=1+(p.L.map nds).sum:=by rw[nds]
def wtV(p:zJx):Nat:=100+p.S.length+p.L.length+(p.L.map wtV).sum
decreasing_by all_goals (cases p;simp only[zJx.mk.sizeOf_spec];have:=List.sizeOf_lt_of_mem ‹_›;simp only at this;omega)
theorem wt_eq(p:zJx):wtV p=100+p.S.length+p.L.length+(p.L.map wtV).sum:=by rw[wtV]
theorem le_sum{α:Type}(f:α->Nat): ∀{l:List α}{x:α},x∈l->f x<=(l.map f).sum
 |y::l,x,h=>by
  rw[List.map_cons,List.sum_cons]
  rcases List.mem_cons.1 h with rfl|h
  ·omega
  ·have:=le_sum f h;omega
theorem sum_drop{α:Type}(f:α->Nat)(l:List α)(i:Nat)(h:i<l.length):((l.drop i).map f).sum=f l[i]+((l.drop (i+1)).map f).sum:=by
 rw[List.drop_eq_getElem_cons h,List.map_cons,List.sum_cons]
theorem wt_mem{p x:zJx}(h:x∈p.L):wtV x+100+p.S.length+p.L.length<=wtV p:=by
 rw[wt_eq p]
 have:=le_sum wtV h
 omega
theorem nds_mem{p x:zJx}(h:x∈p.L):nds x+1<=nds p:=by
 rw[nds_eq p]
 have:=le_sum nds h
 omega
theorem wt_own(p:zJx):100+p.S.length+p.L.length<=wtV p:=by rw[wt_eq];omega
theorem nds_pos(p:zJx):1<=nds p:=by rw[nds_eq];omega
theorem zGa{T:zJx->Prop}(h: ∀p,(∀x,x∈p.L->T x)->T p): ∀p,T p:=by
 have key: ∀n p,wtV p<=n->T p:=by
  intro n
  induction n with
  |zero=>intro p hp;have:=wt_own p;omega
  |succ n ih=>exact fun p hp=>h p fun x hx=>ih x (by have:=wt_mem hx;omega)
 exact fun p=>key (wtV p) p (Nat.le_refl _)
theorem big_loop(p:zJx)(d:Int)(g:Nat)(hd:0<=d)(hd2:d<=50)(ih: ∀x,x∈p.L->∀c:Int,0<=c->c<=200->∃v:Int,zB6 g x (d+1) c=some v∧0<=v∧(v<=200->v=c+nds x)):
 ∀(n i k:Nat)(a:Int),i+n=p.L.length->n+1<=k->0<=a->∃v:Int,zCR (zB6 g) p d k a i=some v∧0<=v∧(v<=200->v=a+((p.L.drop i).map nds).sum):=by
 intro n
 induction n with
 |zero=>
  intro i k a hi hk ha
  obtain⟨k,rfl⟩: ∃q,k=q+1:=⟨k-1,by omega⟩
  rw[zCR,show ltI (i:Int) (p.L.length:Int)=false from decide_eq_false (by omega),List.drop_eq_nil_of_le (by omega)]
  exact⟨a,rfl,ha,fun _=>by simp⟩
 |succ n ihn=>
  intro i k a hi hk ha
  obtain⟨k,rfl⟩: ∃q,k=q+1:=⟨k-1,by omega⟩
  have hx:p.L[i]? =some p.L[i]:=zq2 (by omega)
  rw[zCR,show ltI (i:Int) (p.L.length:Int)=true from zqb (by omega),sum_drop nds p.L i (by omega)]
  by_cases h2:a<=200
  ·rw[show leI a 200=true from zqb h2,Bool.and_self,if_pos rfl,hx,zCA,chk64V (by omega) (by omega),zCA]
   obtain⟨v,h3,h4,h5⟩:=ih p.L[i] (List.getElem_mem _) a ha h2
   rw[h3,zCA]
   obtain⟨u,h6,h7,h8⟩:=ihn (i+1) k v (by omega) (by omega) h4
   refine⟨u,h6,h7,fun hu=>?_⟩
   have h9:=h8 hu
   have:v<=200:=by omega
   rw[h9,h5 this];omega
  ·rw[show leI a 200=false from decide_eq_false h2]
   exact⟨a,rfl,ha,fun h=>absurd h h2⟩
theorem big_M(p:zJx): ∀(fuel:Nat)(d c:Int),wtV p<=fuel->0<=d->d<=51->0<=c->c<=200->∃v:Int,zB6 fuel p d c=some v∧0<=v∧(v<=200->v=c+nds p):=by
 induction p using zGa with
 |h p ih=>
  intro fuel d c hf hd hd2 hc hc2
  have hw:=wt_own p
  obtain⟨g,rfl⟩: ∃g,fuel=g+1:=⟨fuel-1,by omega⟩
  rw[zB6,chk64V (by omega) (by omega),zCA]
  split
  ·obtain⟨k,rfl⟩: ∃k,g=k+1:=⟨g-1,by omega⟩
   rw[zCy,show leI (1000:Int) 200=false from rfl,Bool.and_false]
   exact⟨1000,rfl,by omega,fun h=>by omega⟩
  ·rename_i hn
   have hd3:d<=50:=by
    rw[Bool.or_eq_true] at hn
    have: ¬ltI 50 d=true:=fun h=>hn (.inl h)
    have:=ltF (by simpa using this:ltI 50 d=false)
    omega
   obtain⟨v,h1,h2,h3⟩:=big_loop p d g hd hd3 (fun x hx c hc hc2=>ih x hx g (d+1) c (by have:=wt_mem hx;omega) (by omega) (by omega) hc hc2) p.L.length 0 g (c+1) (by omega) (by omega) (by omega)
   rw[h1,zCA]
   refine⟨v,rfl,h2,fun hv=>?_⟩
   rw[h3 hv,nds_eq,List.drop_zero];omega
theorem Big_M(p:zJx){fuel:Nat}(hf:wtV p<=fuel): ∃b,zE6 fuel p=some b∧(b=false->nds p<=200):=by
 obtain⟨v,h1,h2,h3⟩:=big_M p fuel 1 0 hf (by omega) (by omega) (by omega) (by omega)
 rw[zE6,h1,zCA]
 refine⟨_,rfl,fun h=>?_⟩
 have:=ltF h
 have:=h3 this
 omega
def zHT(p:zJx):Bool:=
 if p.Op=1 then decide (p.L.length=0)&&(decide (p.N=0)&&decide (p.S=[]))
 else if p.Op=2 then decide (p.L.length=0)&&(decide (p.N=0)&&loS p.S)
 else if p.Op=3 then decide (p.L.length=0)&&(decide (p.S=[])&&(decide (-4503599627370496<=p.N)&&decide (p.N<=4503599627370496)))
 else if p.Op=4 then decide (p.L.length<=1)&&(decide (p.N=0)&&nm caBV p.S)
 else if p.Op=5 then !decide (p.L.length=1)&&(decide (p.L.length<=9)&&(decide (p.N=0)&&decide (p.S=[])))
 else false
theorem lenI(l:List zJx)(k:Nat):eqI (l.length:Int) (k:Int)=decide (l.length=k):=by
 unfold eqI
 by_cases h:l.length=k
 ·rw[zqb h,zqb (by omega)]
 ·rw[decide_eq_false h,decide_eq_false (by omega)]
theorem lenL(l:List zJx)(k:Nat):leI (l.length:Int) (k:Int)=decide (l.length<=k):=by
 unfold leI
 by_cases h:l.length<=k
 ·rw[zqb h,zqb (by omega)]
 ·rw[decide_eq_false h,decide_eq_false (by omega)]
theorem node_M(p:zJx){fuel:Nat}(hf:40<=fuel):zD8 fuel p=some (zHT p):=by
 have e0:=lenI p.L 0
 have e1:=lenI p.L 1
 have l1:=lenL p.L 1
 have l9:=lenL p.L 9
 rw[zD8]
 unfold zHT
 rw[IsLower_M p.S hf,IsUpper_M p.S (by omega)]
 rw[show eqI (p.L.length:Int) 0=decide (p.L.length=0) from e0,show eqI (p.L.length:Int) 1=decide (p.L.length=1) from e1,show leI (p.L.length:Int) 1=decide (p.L.length<=1) from l1,show leI (p.L.length:Int) 9=decide (p.L.length<=9) from l9]
 by_cases h1:p.Op=1
 ·rw[if_pos (show eqI p.Op 1=true from zqb h1),if_pos h1];rfl
 rw[if_neg (show¬eqI p.Op 1=true from fun h=>h1 (eqT h)),if_neg h1]
 by_cases h2:p.Op=2
 ·rw[if_pos (show eqI p.Op 2=true from zqb h2),if_pos h2]
  by_cases hl:p.L.length=0
  ·by_cases hN:p.N=0
   ·simp only[zqb hl,if_true,show eqI p.N 0=true from zqb hN,zCA,zqb hN,Bool.true_and]
   ·simp only[zqb hl,if_true,show eqI p.N 0=false from decide_eq_false hN,zCA,decide_eq_false hN,Bool.true_and,Bool.false_and,Bool.false_eq_true,if_false]
  ·simp only[decide_eq_false hl,zCA,Bool.false_and,Bool.false_eq_true,if_false]
 rw[if_neg (show¬eqI p.Op 2=true from fun h=>h2 (eqT h)),if_neg h2]
 by_cases h3:p.Op=3
 ·rw[if_pos (show eqI p.Op 3=true from zqb h3),if_pos h3];rfl
 rw[if_neg (show¬eqI p.Op 3=true from fun h=>h3 (eqT h)),if_neg h3]
 by_cases h4:p.Op=4
 ·rw[if_pos (show eqI p.Op 4=true from zqb h4),if_pos h4]
  by_cases hl:p.L.length<=1
  ·by_cases hN:p.N=0
   ·simp only[zqb hl,if_true,show eqI p.N 0=true from zqb hN,zCA,zqb hN,Bool.true_and]
   ·simp only[zqb hl,if_true,show eqI p.N 0=false from decide_eq_false hN,zCA,decide_eq_false hN,Bool.true_and,Bool.false_and,Bool.false_eq_true,if_false]
  ·simp only[decide_eq_false hl,zCA,Bool.false_and,Bool.false_eq_true,if_false]
 rw[if_neg (show¬eqI p.Op 4=true from fun h=>h4 (eqT h)),if_neg h4]
 by_cases h5:p.Op=5
 ·rw[if_pos (show eqI p.Op 5=true from zqb h5),if_pos h5];rfl
 rw[if_neg (show¬eqI p.Op 5=true from fun h=>h5 (eqT h)),if_neg h5]
def nok(p:zJx):Bool:=zHT p&&(p.L.map nok).all id
decreasing_by all_goals (cases p;simp only[zJx.mk.sizeOf_spec];have:=List.sizeOf_lt_of_mem ‹_›;simp only at this;omega)
theorem nok_eq(p:zJx):nok p=(zHT p&&(p.L.map nok).all id):=by rw[nok]
theorem nok_iff{p:zJx}:nok p=true↔zHT p=true∧∀x,x∈p.L->nok x=true:=by
 rw[nok_eq,zq7,List.all_eq_true]
 exact and_congr_right fun _=>⟨fun h x hx=>h _ (List.mem_map.2 ⟨x,hx,rfl⟩),fun h y hy=>by obtain⟨x,hx,rfl⟩:=List.mem_map.1 hy;exact h x hx⟩
theorem measure_loop(p:zJx)(left d:Int)(g:Nat)(hp:(nds p:Int)<=left)(hl:left<=20000)(hd0:0<=d)(hd:d+nds p<=401)
 (ih: ∀x,x∈p.L->∀(l e:Int),(nds x:Int)<=l->l<=20000->0<=e->e+nds x<=401->zBe g x l e=some (if nok x=true then ((nds x:Int),true) else (0,false))):
 ∀(n i k m:Nat),i+n=p.L.length->n+1<=k->m+((p.L.drop i).map nds).sum=nds p->
  zBd (zBe g) p left d k (m:Int) i=some (if ((p.L.drop i).map nok).all id=true then .inr ((nds p:Nat):Int) else .inl (0,false)):=by
 intro n
 induction n with
 |zero=>
  intro i k m hi hk hm
  obtain⟨k,rfl⟩: ∃q,k=q+1:=⟨k-1,by omega⟩
  rw[List.drop_eq_nil_of_le (by omega)] at hm ⊢
  rw[zBd,if_neg (ltN (by omega))]
  simp only[List.map_nil,List.sum_nil,Nat.add_zero] at hm
  rw[hm];rfl
 |succ n ihn=>
  intro i k m hi hk hm
  obtain⟨k,rfl⟩: ∃q,k=q+1:=⟨k-1,by omega⟩
  have hx:p.L[i]? =some p.L[i]:=zq2 (by omega)
  rw[sum_drop nds p.L i (by omega)] at hm
  have hmem:p.L[i]∈p.L:=List.getElem_mem _
  have h1:=nds_mem hmem
  rw[zBd,if_pos (ltP (by omega)),hx,zCA,chk64V (by omega) (by omega),zCA,chk64V (by omega) (by omega),zCA,ih p.L[i] hmem _ _ (by omega) (by omega) (by omega) (by omega),zCA]
  rw[List.drop_eq_getElem_cons (by omega),List.map_cons,List.all_cons]
  cases hn:nok p.L[i] with
  |false=>rfl
  |true=>
   simp only[if_true,Bool.not_true,Bool.false_eq_true,if_false,id,Bool.true_and]
   rw[chk64V (by omega) (by omega),zCA]
   have:=ihn (i+1) k (m+nds p.L[i]) (by omega) (by omega) (by omega)
   rw[show(m:Int)+(nds p.L[i]:Int)=((m+nds p.L[i]:Nat):Int) by omega,this]
theorem measure_M(p:zJx): ∀(fuel:Nat)(left d:Int),wtV p<=fuel->(nds p:Int)<=left->left<=20000->0<=d->d+nds p<=401->zBe fuel p left d=some (if nok p=true then ((nds p:Int),true) else (0,false)):=by
 induction p using zGa with
 |h p ih=>
  intro fuel left d hf h1 h2 h3 h4
  have hw:=wt_own p
  have hp:=nds_pos p
  obtain⟨g,rfl⟩: ∃g,fuel=g+1:=⟨fuel-1,by omega⟩
  rw[zBe,if_neg (show¬leI left 0=true from fun h=>by have:=leT h;omega),if_neg (show¬ltI 400 d=true from fun h=>by have:=ltT h;omega),node_M p (by omega),zCA,zCA,nok_eq]
  cases hn:zHT p with
  |false=>rfl
  |true=>
   have:=measure_loop p left d g h1 h2 h3 h4 (fun x hx l e q1 q2 q3 q4=>ih x hx g l e (by have:=wt_mem hx;omega) q1 q2 q3 q4) p.L.length 0 g 1 (by omega) (by omega) (by rw[List.drop_zero,nds_eq])
   rw[List.drop_zero] at this
   simp only[Bool.not_true,Bool.false_eq_true,if_false,Bool.true_and]
   rw[show(1:Int)=((1:Nat):Int) from rfl,this,zCA]
   cases(p.L.map nok).all id<;>rfl
def vrs(p:zJx):List (List UInt8):=(if p.Op=2 then [p.S] else [])++(p.L.map vrs).flatten
decreasing_by all_goals (cases p;simp only[zJx.mk.sizeOf_spec];have:=List.sizeOf_lt_of_mem ‹_›;simp only at this;omega)
theorem vrs_eq(p:zJx):vrs p=(if p.Op=2 then [p.S] else [])++(p.L.map vrs).flatten:=by rw[vrs]
theorem flat_drop{β:Type}(f:zJx->List β)(l:List zJx)(i:Nat)(h:i<l.length):((l.drop i).map f).flatten=f l[i]++((l.drop (i+1)).map f).flatten:=by
 rw[List.drop_eq_getElem_cons h,List.map_cons,List.flatten_cons]
theorem nok_var{p:zJx}(h:nok p=true)(h2:p.Op=2):p.L=[]:=by
 have:=(nok_iff.1 h).1
 unfold zHT at this
 rw[if_neg (by omega),if_pos h2,zq7] at this
 exact List.eq_nil_of_length_eq_zero (of_decide_eq_true this.1)
def stp(q:Bool×List (List UInt8×Bool))(s:List UInt8):Bool×List (List UInt8×Bool):=(q.1&& !(mgetD q.2 s false),mput q.2 s true)
theorem vv_loop1(p:zJx)(g:Nat)(ih: ∀x,x∈p.L->∀(q:Bool×List (List UInt8×Bool)),zAL g x q.1 q.2=some ((vrs x).foldl stp q)):
 ∀(n i k:Nat)(q:Bool×List (List UInt8×Bool)),i+n=p.L.length->n+1<=k->zAa (zAL g) p k q.1 q.2 i=some (((p.L.drop i).map vrs).flatten.foldl stp q):=by
 intro n
 induction n with
 |zero=>
  intro i k q hi hk
  obtain⟨k,rfl⟩: ∃q,k=q+1:=⟨k-1,by omega⟩
  rw[List.drop_eq_nil_of_le (by omega),zAa,if_neg (ltN (by omega))];rfl
 |succ n ihn=>
  intro i k q hi hk
  obtain⟨k,rfl⟩: ∃q,k=q+1:=⟨k-1,by omega⟩
  have hx:p.L[i]? =some p.L[i]:=zq2 (by omega)
  rw[zAa,if_pos (ltP (by omega)),hx,zCA,ih _ (List.getElem_mem _) q,zCA,ihn (i+1) k _ (by omega) (by omega),flat_drop vrs p.L i (by omega),List.foldl_append]
theorem vv_loop2(p:zJx)(g:Nat)(ih: ∀x,x∈p.L->∀(q:Bool×List (List UInt8×Bool)),zAL g x q.1 q.2=some ((vrs x).foldl stp q)):
 ∀(n i k:Nat)(q:Bool×List (List UInt8×Bool)),i+n=p.L.length->n+1<=k->zAj (zAL g) p k q.1 q.2 i=some (((p.L.drop i).map vrs).flatten.foldl stp q):=by
 intro n
 induction n with
 |zero=>
  intro i k q hi hk
  obtain⟨k,rfl⟩: ∃q,k=q+1:=⟨k-1,by omega⟩
  rw[List.drop_eq_nil_of_le (by omega),zAj,if_neg (ltN (by omega))];rfl
 |succ n ihn=>
  intro i k q hi hk
  obtain⟨k,rfl⟩: ∃q,k=q+1:=⟨k-1,by omega⟩
  have hx:p.L[i]? =some p.L[i]:=zq2 (by omega)
  rw[zAj,if_pos (ltP (by omega)),hx,zCA,ih _ (List.getElem_mem _) q,zCA,ihn (i+1) k _ (by omega) (by omega),flat_drop vrs p.L i (by omega),List.foldl_append]
theorem vv_M(p:zJx): ∀(fuel:Nat)(q:Bool×List (List UInt8×Bool)),wtV p<=fuel->zAL fuel p q.1 q.2=some ((vrs p).foldl stp q):=by
 induction p using zGa with
 |h p ih=>
  intro fuel q hf
  have hw:=wt_own p
  obtain⟨g,rfl⟩: ∃g,fuel=g+1:=⟨fuel-1,by omega⟩
  have ih': ∀x,x∈p.L->∀(q:Bool×List (List UInt8×Bool)),zAL g x q.1 q.2=some ((vrs x).foldl stp q):=fun x hx q=>ih x hx g q (by have:=wt_mem hx;omega)
  rw[zAL,vrs_eq]
  by_cases h2:p.Op=2
  ·have:=vv_loop1 p g ih' p.L.length 0 g (stp q p.S) (by omega) (by omega)
   rw[List.drop_zero] at this
   rw[if_pos (show eqI p.Op 2=true from zqb h2),if_pos h2,zDg,zCA]
   show(zAa (zAL g) p g (stp q p.S).1 (stp q p.S).2 0).bind _=_
   rw[this,zCA];rfl
  ·have:=vv_loop2 p g ih' p.L.length 0 g q (by omega) (by omega)
   rw[List.drop_zero] at this
   rw[if_neg (show¬eqI p.Op 2=true from fun h=>h2 (eqT h)),if_neg h2,this,zCA];rfl
theorem mget_put(m:List (List UInt8×Bool))(k k':List UInt8):mgetD (mput m k true) k' false=if k'=k then true else mgetD m k' false:=by
 induction m with
 |nil=>
  simp only[mput,mgetD]
  by_cases h:k'=k<;>simp[h]
 |cons q m ih=>
  simp only[mput]
  by_cases h1:k=q.1
  ·rw[if_pos (by simpa using h1)]
   simp only[mgetD]
   by_cases h2:k'=q.1
   ·rw[if_pos (by simpa using h2),if_pos (by rw[h2,h1])]
   ·rw[if_neg (by simpa using h2),if_neg (by rw[h1];exact h2),if_neg (by simpa using h2)]
  ·rw[if_neg (by simpa using h1)]
   simp only[mgetD]
   by_cases h2:k'=q.1
   ·rw[if_pos (by simpa using h2),if_neg (by rw[h2];exact fun e=>h1 e.symm),if_pos (by simpa using h2)]
   ·have hb: ¬(k'==q.1)=true:=by simpa using h2
    simp only[if_neg hb]
    exact ih
theorem fold_iff: ∀(l:List (List UInt8))(c:Bool)(m:List (List UInt8×Bool))(K:List (List UInt8)),(∀k,mgetD m k false=decide (k∈K))->((l.foldl stp (c,m)).1=true↔c=true∧l.Nodup∧∀s,s∈l->s∉K)
 |[],c,m,K,h=>by simp
 |s::l,c,m,K,h=>by
  have hK: ∀k,mgetD (mput m s true) k false=decide (k∈s::K):=fun k=>by
   rw[mget_put,h k]
   by_cases hk:k=s
   ·rw[if_pos hk,zqb (by rw[hk];exact zq9 ..)]
   ·rw[if_neg hk]
    by_cases hm:k∈K
    ·rw[zqb hm,zqb (zqc _ hm)]
    ·rw[decide_eq_false hm,decide_eq_false (fun e=>(List.mem_cons.1 e).elim hk hm)]
  have ih:=fold_iff l (c&& !(mgetD m s false)) (mput m s true) (s::K) hK
  rw[List.foldl_cons]
  show(l.foldl stp (c&& !(mgetD m s false),mput m s true)).1=true↔_
  rw[ih,h s,List.nodup_cons]
  simp only[zq7,Bool.not_eq_true',decide_eq_false_iff_not,List.mem_cons,not_or]
  constructor
  ·rintro⟨⟨h1,h2⟩,h3,h4⟩
   refine⟨h1,⟨fun hm=>(h4 s hm).1 rfl,h3⟩,fun t ht=>?_⟩
   rcases ht with rfl|ht
   ·exact h2
   ·exact(h4 t ht).2
  ·rintro⟨h1,⟨h2,h3⟩,h4⟩
   exact⟨⟨h1,h4 s (.inl rfl)⟩,h3,fun t ht=>⟨fun e=>h2 (by rw[<-e];exact ht),h4 t (.inr ht)⟩⟩
def vld(p:zJx):Bool:=nok p&&decide (vrs p).Nodup
theorem Valid_M(p:zJx){fuel:Nat}(hf:wtV p<=fuel)(hs:nds p<=200):zDa fuel p=some (vld p):=by
 rw[zDa,measure_M p fuel 20000 1 hf (by omega) (by omega) (by omega) (by omega),zCA]
 unfold vld
 cases hn:nok p with
 |false=>rfl
 |true=>
  simp only[if_true,Bool.not_true,Bool.false_eq_true,if_false,Bool.true_and]
  have h1:=vv_M p fuel (true,[]) hf
  have h2:=fold_iff (vrs p) true [] [] (fun k=>by simp[mgetD])
  simp only at h1
  rw[h1,zCA]
  congr 1
  rw[Bool.eq_iff_iff,h2,decide_eq_true_iff]
  exact⟨fun h=>h.2.1,fun h=>⟨rfl,h,fun _ _ e=>by cases e⟩⟩
def brk(p:zJx):Bool:=match p.L with
 |x::_=>decide (x.Op=4)&&decide (0<x.L.length)
 |[]=>false
def ctx(p:zJx):List (List UInt8)->List UInt8
 |[]=>p.S
 |t::_=>(p.S++[32])++(if brk p=true then ([40]++t)++[41] else t)
def txt(p:zJx):List UInt8:=
 if p.Op=1 then [95] else if p.Op=2 then p.S
 else if p.Op=3 then (if p.N<0 then [126,32]++Lib.decDigits p.N.natAbs else Lib.decDigits p.N.natAbs)
 else if p.Op=4 then ctx p (p.L.map txt)
 else ([40]++Lib.join (p.L.map txt) [44,32])++[41]
decreasing_by all_goals (cases p;simp only[zJx.mk.sizeOf_spec];have:=List.sizeOf_lt_of_mem ‹_›;simp only at this;omega)
theorem txt_eq(p:zJx):txt p=if p.Op=1 then [95] else if p.Op=2 then p.S
 else if p.Op=3 then (if p.N<0 then [126,32]++Lib.decDigits p.N.natAbs else Lib.decDigits p.N.natAbs)
 else if p.Op=4 then ctx p (p.L.map txt)
 else ([40]++Lib.join (p.L.map txt) [44,32])++[41]:=by rw[txt]
theorem nm_len{f:UInt8->Bool}{s:List UInt8}(h:nm f s=true):s.length<=24:=by
 cases s with
 |nil=>simp
 |cons c s=>
  rw[nm_cons,zq7] at h
  exact of_decide_eq_true h.1
theorem lo_len{s:List UInt8}(h:loS s=true):s.length<=24:=by
 unfold loS at h
 rw[zq7] at h
 exact nm_len h.1
theorem tail_len(r:List (List UInt8)):(Lib.joinTail [44,32] r).length=(r.map List.length).sum+2*r.length:=by
 unfold Lib.joinTail
 induction r with
 |nil=>rfl
 |cons x r ih=>simp only[List.map_cons,List.flatten_cons,List.length_append,List.sum_cons,List.length_cons,ih,List.length_nil];omega
theorem join_lenV(l:List (List UInt8)):(Lib.join l [44,32]).length<=(l.map List.length).sum+2*l.length:=by
 cases l with
 |nil=>simp[Lib.join_nil]
 |cons x r=>
  rw[Lib.join_cons,List.length_append,tail_len]
  simp only[List.map_cons,List.sum_cons,List.length_cons];omega
theorem txts_len{l:List zJx}(h: ∀x,x∈l->(txt x).length<=30*nds x):((l.map txt).map List.length).sum<=30*(l.map nds).sum:=by
 induction l with
 |nil=>simp
 |cons x l ih=>
  simp only[List.map_cons,List.sum_cons]
  have h1:=h x (zq9 ..)
  have h2:=ih fun y hy=>h y (zqc _ hy)
  omega
theorem node3{p:zJx}(h:zHT p=true)(h3:p.Op=3): -4503599627370496<=p.N∧p.N<=4503599627370496:=by
 unfold zHT at h
 rw[if_neg (by omega),if_neg (by omega),if_pos h3] at h
 simp only[zq7,decide_eq_true_eq] at h
 exact h.2.2
theorem node4{p:zJx}(h:zHT p=true)(h4:p.Op=4):p.L.length<=1∧p.S.length<=24:=by
 unfold zHT at h
 rw[if_neg (by omega),if_neg (by omega),if_neg (by omega),if_pos h4] at h
 simp only[zq7,decide_eq_true_eq] at h
 exact⟨h.1,nm_len h.2.2⟩
theorem node2{p:zJx}(h:zHT p=true)(h2:p.Op=2):p.S.length<=24:=by
 unfold zHT at h
 rw[if_neg (by omega),if_pos h2] at h
 simp only[zq7,decide_eq_true_eq] at h
 exact lo_len h.2.2
theorem node5{p:zJx}(h:zHT p=true)(h1:p.Op≠1)(h2:p.Op≠2)(h3:p.Op≠3)(h4:p.Op≠4):p.Op=5∧p.L.length<=9:=by
 unfold zHT at h
 rw[if_neg h1,if_neg h2,if_neg h3,if_neg h4] at h
 split at h
 ·rename_i h5
  simp only[zq7,decide_eq_true_eq] at h
  exact⟨h5,h.2.1⟩
 ·cases h
theorem txt_len(p:zJx):nok p=true->(txt p).length<=30*nds p:=by
 induction p using zGa with
 |h p ih=>
  intro hn
  obtain⟨hb,hk⟩:=nok_iff.1 hn
  have hs:nds p=1+(p.L.map nds).sum:=nds_eq p
  rw[txt_eq]
  by_cases h1:p.Op=1
  ·rw[if_pos h1];simp;omega
  by_cases h2:p.Op=2
  ·rw[if_neg h1,if_pos h2];have:=node2 hb h2;omega
  by_cases h3:p.Op=3
  ·have:=node3 hb h3
   have:=dec_len p.N.natAbs (by omega)
   rw[if_neg h1,if_neg h2,if_pos h3]
   split<;>simp<;>omega
  by_cases h4:p.Op=4
  ·obtain⟨q1,q2⟩:=node4 hb h4
   rw[if_neg h1,if_neg h2,if_neg h3,if_pos h4]
   cases hL:p.L with
   |nil=>simp only[List.map_nil,ctx];omega
   |cons x l=>
    have hx:x∈p.L:=by rw[hL];exact zq9 ..
    have h5:=ih x hx (hk x hx)
    have h6:=nds_mem hx
    simp only[List.map_cons,ctx]
    split<;>simp<;>omega
  ·obtain⟨q0,q1⟩:=node5 hb h1 h2 h3 h4
   rw[if_neg h1,if_neg h2,if_neg h3,if_neg h4]
   have h5:=txts_len (l:=p.L) fun x hx=>ih x hx (hk x hx)
   have h6:=join_lenV (p.L.map txt)
   rw[zq4] at h6
   simp only[List.length_append,List.length_cons,List.length_nil]
   omega
theorem text_loop(p:zJx)(g:Nat)(ih: ∀x,x∈p.L->zBr g x=some (txt x)):
 ∀(n i k:Nat)(l:List (List UInt8)),i+n=p.L.length->n+1<=k->l.length+n<=1000->zB5 (zBr g) p k l i=some (l++(p.L.drop i).map txt):=by
 intro n
 induction n with
 |zero=>
  intro i k l hi hk hl
  obtain⟨k,rfl⟩: ∃q,k=q+1:=⟨k-1,by omega⟩
  rw[List.drop_eq_nil_of_le (by omega),zB5,if_neg (ltN (by omega))];simp
 |succ n ihn=>
  intro i k l hi hk hl
  obtain⟨k,rfl⟩: ∃q,k=q+1:=⟨k-1,by omega⟩
  have hx:p.L[i]? =some p.L[i]:=zq2 (by omega)
  rw[zB5,if_pos (ltP (by omega)),hx,zCA,ih _ (List.getElem_mem _),zCA,app_someV (by decide) (by simp;omega),zCA,ihn (i+1) k _ (by omega) (by omega) (by simp;omega),List.drop_eq_getElem_cons (i:=i) (by omega),List.map_cons,List.append_assoc]
  rfl
theorem num_M(n:Int)(h: -4503599627370496<=n)(h2:n<=4503599627370496)(hn: ¬n<0):zCu n=some (Lib.decDigits n.natAbs):=by
 have:=itoa_M n.natAbs (by omega)
 rwa [show((n.natAbs:Nat):Int)=n by omega] at this
theorem text_M(p:zJx): ∀fuel,wtV p<=fuel->nok p=true->nds p<=200->zBr fuel p=some (txt p):=by
 induction p using zGa with
 |h p ih=>
  intro fuel hf hn hz
  have hw:=wt_own p
  obtain⟨g,rfl⟩: ∃g,fuel=g+1:=⟨fuel-1,by omega⟩
  obtain⟨hb,hk⟩:=nok_iff.1 hn
  have ih': ∀x,x∈p.L->zBr g x=some (txt x):=fun x hx=>ih x hx g (by have:=wt_mem hx;omega) (hk x hx) (by have:=nds_mem hx;omega)
  have hlen:=txt_len p hn
  rw[zBr]
  rw[txt_eq] at hlen ⊢
  by_cases h1:p.Op=1
  ·rw[if_pos (show eqI p.Op 1=true from zqb h1),if_pos h1]
  rw[if_neg h1] at hlen ⊢
  rw[if_neg (show¬eqI p.Op 1=true from fun h=>h1 (eqT h))]
  by_cases h2:p.Op=2
  ·rw[if_pos (show eqI p.Op 2=true from zqb h2),if_pos h2]
  rw[if_neg h2] at hlen ⊢
  rw[if_neg (show¬eqI p.Op 2=true from fun h=>h2 (eqT h))]
  by_cases h3:p.Op=3
  ·rw[if_pos (show eqI p.Op 3=true from zqb h3),if_pos h3]
   obtain⟨q1,q2⟩:=node3 hb h3
   have:=dec_len p.N.natAbs (by omega)
   by_cases hN:p.N<0
   ·rw[if_pos (show ltI p.N 0=true from zqb hN),if_pos hN,chk64V (by omega) (by omega),zCA,num_M (-p.N) (by omega) (by omega) (by omega),zCA,cat1 (by simp;omega),zCA,Int.natAbs_neg]
   ·rw[if_neg (show¬ltI p.N 0=true from fun h=>hN (ltT h)),if_neg hN,num_M p.N q1 q2 hN,zCA]
  rw[if_neg h3] at hlen ⊢
  rw[if_neg (show¬eqI p.Op 3=true from fun h=>h3 (eqT h))]
  by_cases h4:p.Op=4
  ·rw[if_pos h4] at hlen ⊢
   rw[if_pos (show eqI p.Op 4=true from zqb h4)]
   obtain⟨q1,q2⟩:=node4 hb h4
   cases hL:p.L with
   |nil=>rfl
   |cons x l=>
    have hx:x∈p.L:=by rw[hL];exact zq9 ..
    have h5:=txt_len x (hk x hx)
    have h6:=nds_mem hx
    rw[if_neg (show¬eqI (((x::l).length:Nat):Int) 0=true from fun h=>by have:=eqT h;simp at this;omega)]
    simp only[List.getElem?_cons_zero,zCA,ih' x hx,List.map_cons,ctx]
    have hbk:brk p=(eqI x.Op 4&&ltI 0 (x.L.length:Int)):=by
     unfold brk
     rw[hL]
     show(decide (x.Op=4)&&decide (0<x.L.length))=(decide (x.Op=4)&&decide ((0:Int)<x.L.length))
     congr 1
     by_cases h0:0<x.L.length
     ·rw[zqb h0,zqb (by omega)]
     ·rw[decide_eq_false h0,decide_eq_false (by omega)]
    rw[hbk]
    split
    ·rw[cat1 (by simp;omega),zCA,cat1 (by simp;omega),zCA,cat1 (by simp;omega),zCA,cat1 (by simp;omega),zCA]
    ·rw[cat1 (by simp;omega),zCA,cat1 (by simp;omega),zCA]
  ·rw[if_neg h4] at hlen ⊢
   rw[if_neg (show¬eqI p.Op 4=true from fun h=>h4 (eqT h))]
   obtain⟨q0,q1⟩:=node5 hb h1 h2 h3 h4
   have:=text_loop p g ih' p.L.length 0 g [] (by omega) (by omega) (by simp;omega)
   rw[List.drop_zero,List.nil_append] at this
   rw[this,zCA]
   simp only[List.length_append,List.length_cons,List.length_nil] at hlen
   rw[zD7,if_pos ⟨by rw[zq4];omega,by omega⟩,zCA,cat1 (by simp;omega),zCA,cat1 (by simp;omega),zCA]
theorem Text_M(p:zJx){fuel:Nat}(hf:wtV p<=fuel)(hs:nds p<=200):zD9 fuel p=some (if vld p=true then (txt p,0) else ([],1)):=by
 rw[zD9,Valid_M p hf hs,zCA]
 cases hv:vld p with
 |false=>rfl
 |true=>
  have hn:nok p=true:=by unfold vld at hv;rw[zq7] at hv;exact hv.1
  have:=txt_len p hn
  simp only[Bool.not_true,Bool.false_eq_true,if_false,if_true]
  rw[text_M p fuel hf hn hs,zCA,if_neg (show¬ltI 16384 ((txt p).length:Int)=true from fun h=>by have:=ltT h;omega)]
def tr(p:zJx):zJv:=
 if p.Op=1 then leaf 11 else if p.Op=2 then zJv.mk 12 0 p.S [] [] else if p.Op=3 then zJv.mk 13 p.N [] [] []
 else if p.Op=4 then zJv.mk 14 0 [] [p.S] (p.L.map tr) else zJv.mk 15 0 [] [] (p.L.map tr)
decreasing_by all_goals (cases p;simp only[zJx.mk.sizeOf_spec];have:=List.sizeOf_lt_of_mem ‹_›;simp only at this;omega)
theorem tr_eq(p:zJx):tr p=if p.Op=1 then leaf 11 else if p.Op=2 then zJv.mk 12 0 p.S [] [] else if p.Op=3 then zJv.mk 13 p.N [] [] []
 else if p.Op=4 then zJv.mk 14 0 [] [p.S] (p.L.map tr) else zJv.mk 15 0 [] [] (p.L.map tr):=by rw[tr]
def ctk(p:zJx):List (List Tk)->List Tk
 |[]=>[]
 |t::_=>if brk p=true then lp::(t++[rp]) else t
def jt:List (List Tk)->List Tk
 |[]=>[]
 |t::l=>t++(l.map fun x=>cm::x).flatten
def tkp(p:zJx):List Tk:=
 if p.Op=1 then [(7,[95])] else if p.Op=2 then [(1,p.S)]
 else if p.Op=3 then (if p.N<0 then [(7,[126]),(4,Lib.decDigits p.N.natAbs)] else [(4,Lib.decDigits p.N.natAbs)])
 else if p.Op=4 then (2,p.S)::ctk p (p.L.map tkp) else lp::(jt (p.L.map tkp)++[rp])
decreasing_by all_goals (cases p;simp only[zJx.mk.sizeOf_spec];have:=List.sizeOf_lt_of_mem ‹_›;simp only at this;omega)
theorem tkp_eq(p:zJx):tkp p=if p.Op=1 then [(7,[95])] else if p.Op=2 then [(1,p.S)]
 else if p.Op=3 then (if p.N<0 then [(7,[126]),(4,Lib.decDigits p.N.natAbs)] else [(4,Lib.decDigits p.N.natAbs)])
 else if p.Op=4 then (2,p.S)::ctk p (p.L.map tkp) else lp::(jt (p.L.map tkp)++[rp]):=by rw[tkp]
theorem sm_eq(c:UInt8):smB c=smBV c:=eq_of_beq (zGj (fun c=>smB c==smBV c) (by kernel_rfl) c)
theorem ca_eq(c:UInt8):caB c=caBV c:=eq_of_beq (zGj (fun c=>caB c==caBV c) (by kernel_rfl) c)
theorem in_eq(c:UInt8):inB c=inU c:=eq_of_beq (zGj (fun c=>inB c==inU c) (by kernel_rfl) c)
theorem wd_kw(s:List UInt8):wd s=kw s:=by
 unfold wd kw KEYS
 congr 1
 funext w
 simp only[eqS,decide_eq_decide]
 exact eq_comm
theorem wd_cap{c:UInt8}{s:List UInt8}(h:caB c=true):wd (c::s)=false:=by
 have hw: ∀w∈WORDS,∃d t,w=d::t∧caB d=false:=by
  have:(WORDS.all fun w=>match w with|[]=>false|d::_=> !caB d)=true:=by kernel_rfl
  intro w hw
  have:=zq8 this w hw
  cases w with
  |nil=>cases this
  |cons d t=>exact⟨d,t,rfl,by simpa using this⟩
 cases hh:wd (c::s) with
 |false=>rfl
 |true=>
  unfold wd at hh
  obtain⟨w,h1,h2⟩:=List.any_eq_true.1 hh
  obtain⟨d,t,rfl,h3⟩:=hw w h1
  have:=of_decide_eq_true h2
  cases this
  rw[h] at h3;cases h3
theorem name_tk{s:List UInt8}{f:UInt8->Bool}(h:nm f s=true)(hf: ∀c,f c=true->(smB c||caB c)=true): ∃c t,s=c::t∧f c=true∧tk s=some (if wd s=true then 6 else if smB c=true then 1 else 2,s,[]):=by
 cases s with
 |nil=>cases h
 |cons c t=>
  rw[nm_cons,zq7,zq7] at h
  obtain⟨h1,h2,h3⟩:=h
  refine⟨c,t,rfl,h2,?_⟩
  have hcw:cw inB (c::t) 0=(c::t).length:=cw_all fun d hd=>by rw[in_eq];exact zq8 h3 d hd
  have hl:=of_decide_eq_true h1
  rw[tk.eq_def]
  dsimp only
  rw[if_pos (hf c h2),hcw,if_neg (by omega),List.take_length,List.drop_length]
theorem low_tk{s:List UInt8}(h:loS s=true):tk s=some (1,s,[])∧∀u r,s++u≠42::r:=by
 unfold loS at h
 rw[zq7] at h
 obtain⟨c,t,rfl,h1,h2⟩:=name_tk h.1 fun c hc=>by rw[sm_eq,hc];rfl
 refine⟨?_,fun u r e=>?_⟩
 ·have:wd (c::t)=false:=by rw[wd_kw];simpa using h.2
  rw[h2,this,if_neg (by decide),if_pos (by rw[sm_eq];exact h1)]
 ·cases e;exact absurd h1 (by decide)
theorem up_tk{s:List UInt8}(h:nm caBV s=true):tk s=some (2,s,[])∧∀u r,s++u≠42::r:=by
 obtain⟨c,t,rfl,h1,h2⟩:=name_tk h fun c hc=>by rw[ca_eq,hc,Bool.or_true]
 have hc:caB c=true:=by rw[ca_eq];exact h1
 refine⟨?_,fun u r e=>?_⟩
 ·have hs:smB c=false:=by
   have:=zGj (fun c=> !(caB c&&smB c)) (by kernel_rfl) c
   rw[hc] at this;simpa using this
  rw[h2,wd_cap hc,if_neg (by decide),hs,if_neg (by decide)]
 ·cases e;exact absurd h1 (by decide)
theorem node_2{p:zJx}(h:zHT p=true)(h2:p.Op=2):loS p.S=true∧p.L=[]:=by
 unfold zHT at h
 rw[if_neg (by omega),if_pos h2] at h
 simp only[zq7,decide_eq_true_eq] at h
 exact⟨h.2.2,List.eq_nil_of_length_eq_zero h.1⟩
theorem node_1{p:zJx}(h:zHT p=true)(h1:p.Op=1):p.L=[]:=by
 unfold zHT at h
 rw[if_pos h1] at h
 simp only[zq7,decide_eq_true_eq] at h
 exact List.eq_nil_of_length_eq_zero h.1
theorem node_3{p:zJx}(h:zHT p=true)(h3:p.Op=3):p.L=[]:=by
 unfold zHT at h
 rw[if_neg (by omega),if_neg (by omega),if_pos h3] at h
 simp only[zq7,decide_eq_true_eq] at h
 exact List.eq_nil_of_length_eq_zero h.1
theorem node_4{p:zJx}(h:zHT p=true)(h4:p.Op=4):nm caBV p.S=true∧(p.L=[]∨∃x,p.L=[x]):=by
 unfold zHT at h
 rw[if_neg (by omega),if_neg (by omega),if_neg (by omega),if_pos h4] at h
 simp only[zq7,decide_eq_true_eq] at h
 refine⟨h.2.2,?_⟩
 match hL:p.L,h.1 with
 |[],_=>exact .inl rfl
 |[x],_=>exact .inr ⟨x,rfl⟩
 |x::y::l,hh=>simp at hh
theorem node_5{p:zJx}(h:zHT p=true)(h1:p.Op≠1)(h2:p.Op≠2)(h3:p.Op≠3)(h4:p.Op≠4):p.Op=5∧p.L.length≠1∧p.L.length<=9:=by
 unfold zHT at h
 rw[if_neg h1,if_neg h2,if_neg h3,if_neg h4] at h
 split at h
 ·rename_i h5
  simp only[zq7,decide_eq_true_eq] at h
  exact⟨h5,by simpa using h.1,h.2.1⟩
 ·cases h
theorem TLx{s:List UInt8}{k:Int}(h:tk s=some (k,s,[])){u:List UInt8}{ts:List Tk}(hb:bd u)(hu:TL u ts):TL (s++u) ((k,s)::ts):=
 TL_tk (tk_ext u hb h) hu
theorem TL_comma{u:List UInt8}{ts:List Tk}(h:TL u ts):TL (44::u) (cm::ts):=TL_tk (tk_one (pre_not (by decide) u) (by decide) (by decide)) h
def TX(p:zJx):Prop:=(∀(u:List UInt8)(ts:List Tk),bd u->TL u ts->TL (txt p++u) (tkp p++ts))∧∀(u r:List UInt8),txt p++u≠42::r
theorem bd_tail(l:List zJx)(u:List UInt8):bd (Lib.joinTail [44,32] (l.map txt)++41::u):=by
 cases l with
 |nil=>simp[Lib.joinTail,bd]
 |cons x l=>simp[Lib.joinTail,bd]
theorem TX_tail{u:List UInt8}{ts:List Tk}(hu:TL u ts): ∀l:List zJx,(∀x∈l,TX x)->TL (Lib.joinTail [44,32] (l.map txt)++41::u) (((l.map tkp).map fun x=>cm::x).flatten++rp::ts)
 |[],_=>by simpa[Lib.joinTail] using TL_close hu
 |x::l,h=>by
  have ih:=TX_tail hu l fun y hy=>h y (zqc _ hy)
  have hx:=(h x zq9).1 _ _ (bd_tail l u) ih
  have e:Lib.joinTail [44,32] ((x::l).map txt)++41::u=44::32::(txt x++(Lib.joinTail [44,32] (l.map txt)++41::u)):=by simp[Lib.joinTail]
  have e2:(((x::l).map tkp).map fun x=>cm::x).flatten++rp::ts=cm::(tkp x++(((l.map tkp).map fun x=>cm::x).flatten++rp::ts)):=by simp
  rw[e,e2]
  exact TL_comma (TL_sp hx)
theorem TX_all(p:zJx):nok p=true->TX p:=by
 induction p using zGa with
 |h p ih=>
  intro hn
  obtain⟨hb,hk⟩:=nok_iff.1 hn
  unfold TX
  rw[txt_eq,tkp_eq]
  by_cases h1:p.Op=1
  ·rw[if_pos h1,if_pos h1]
   exact⟨fun u ts hu h=>TL_tk (tk_one (pre_not (by decide) u) (by decide) (by decide)) h,fun u r e=>by cases e⟩
  by_cases h2:p.Op=2
  ·rw[if_neg h1,if_pos h2,if_neg h1,if_pos h2]
   obtain⟨q1,q2⟩:=low_tk (node_2 hb h2).1
   exact⟨fun u ts hu h=>TLx q1 hu h,q2⟩
  by_cases h3:p.Op=3
  ·have hN:=node3 hb h3
   rw[if_neg h1,if_neg h2,if_pos h3,if_neg h1,if_neg h2,if_pos h3]
   have hd:=tk_dec p.N.natAbs (by omega)
   obtain⟨c,l,e,_⟩:=zFz p.N.natAbs
   have hc:=zFM p.N.natAbs c (by rw[e];exact zq9)
   by_cases h0:p.N<0
   ·rw[if_pos h0,if_pos h0]
    exact⟨fun u ts hu h=>TL_tilde (TL_sp (TLx hd hu h)),fun u r e=>by cases e⟩
   ·rw[if_neg h0,if_neg h0]
    exact⟨fun u ts hu h=>TLx hd hu h,fun u r e'=>by rw[e] at e';cases e';exact absurd hc (by decide)⟩
  by_cases h4:p.Op=4
  ·rw[if_neg h1,if_neg h2,if_neg h3,if_pos h4,if_neg h1,if_neg h2,if_neg h3,if_pos h4]
   obtain⟨hnm,hL⟩:=node_4 hb h4
   obtain⟨q1,q2⟩:=up_tk hnm
   rcases hL with hL|⟨x,hL⟩
   ·rw[hL]
    exact⟨fun u ts hu h=>TLx q1 hu h,q2⟩
   ·have hx:x∈p.L:=by rw[hL];exact zq9
    obtain⟨i1,i2⟩:=ih x hx (hk x hx)
    have ec:ctx p ([x].map txt)=(p.S++[32])++(if brk p=true then ([40]++txt x)++[41] else txt x):=rfl
    have ek:ctk p ([x].map tkp)=if brk p=true then lp::(tkp x++[rp]) else tkp x:=rfl
    rw[hL,ec,ek]
    refine⟨fun u ts hu h=>?_,fun u r e=>q2 ([32]++(if brk p=true then ([40]++txt x)++[41] else txt x)++u) r (by simpa using e)⟩
    cases brk p with
    |true=>
     have e1:(p.S++[32])++(if true=true then ([40]++txt x)++[41] else txt x)++u=p.S++32::40::(txt x++41::u):=by simp
     have e2:(2,p.S)::(if true=true then lp::(tkp x++[rp]) else tkp x)++ts=(2,p.S)::lp::(tkp x++rp::ts):=by simp
     rw[e1,e2]
     exact TLx q1 (.inl rfl) (TL_sp (TL_open (i2 _) (i1 _ _ (by simp[bd]) (TL_close h))))
    |false=>
     have e1:(p.S++[32])++(if false=true then ([40]++txt x)++[41] else txt x)++u=p.S++32::(txt x++u):=by simp
     have e2:(2,p.S)::(if false=true then lp::(tkp x++[rp]) else tkp x)++ts=(2,p.S)::(tkp x++ts):=by simp
     rw[e1,e2]
     exact TLx q1 (.inl rfl) (TL_sp (i1 _ _ hu h))
  ·rw[if_neg h1,if_neg h2,if_neg h3,if_neg h4,if_neg h1,if_neg h2,if_neg h3,if_neg h4]
   refine⟨fun u ts hu h=>?_,fun u r e=>by cases e⟩
   cases hL:p.L with
   |nil=>
    exact TL_open (fun r e=>by cases e) (TL_close h)
   |cons x l=>
    have hx:x∈p.L:=by rw[hL];exact zq9
    obtain⟨i1,i2⟩:=ih x hx (hk x hx)
    have ht:=TX_tail h l fun y hy=>ih y (by rw[hL];exact zqc _ hy) (hk y (by rw[hL];exact zqc _ hy))
    have e1:([40]++Lib.join ((x::l).map txt) [44,32])++[41]++u=40::(txt x++(Lib.joinTail [44,32] (l.map txt)++41::u)):=by
     rw[List.map_cons,Lib.join_cons];simp
    have e2:lp::(jt ((x::l).map tkp)++[rp])++ts=lp::(tkp x++(((l.map tkp).map fun x=>cm::x).flatten++rp::ts)):=by simp[jt]
    rw[e1,e2]
    exact TL_open (i2 _) (i1 _ _ (bd_tail l u) ht)
def begA(t:Tk):Bool:=eqI t.1 2||(eqI t.1 1||(eqI t.1 4||(isB t [95]||(isB t [126]||isB t [40]))))
theorem first_tok(p:zJx): ∃t ts,tkp p=t::ts∧isB t [46]=false∧isB t [41]=false∧begA t=true∧(t.1=2->p.Op=4):=by
 rw[tkp_eq]
 by_cases h1:p.Op=1
 ·rw[if_pos h1];exact⟨_,_,rfl,by decide,by decide,by decide,fun h=>absurd h (by decide)⟩
 by_cases h2:p.Op=2
 ·rw[if_neg h1,if_pos h2];exact⟨_,_,rfl,rfl,rfl,rfl,fun h=>absurd h (show(1:Int)≠2 by decide)⟩
 by_cases h3:p.Op=3
 ·rw[if_neg h1,if_neg h2,if_pos h3]
  by_cases h0:p.N<0
  ·rw[if_pos h0];exact⟨_,_,rfl,by decide,by decide,by decide,fun h=>absurd h (by decide)⟩
  ·rw[if_neg h0];exact⟨_,_,rfl,rfl,rfl,rfl,fun h=>absurd h (show(4:Int)≠2 by decide)⟩
 by_cases h4:p.Op=4
 ·rw[if_neg h1,if_neg h2,if_neg h3,if_pos h4];exact⟨_,_,rfl,rfl,rfl,rfl,fun _=>h4⟩
 ·rw[if_neg h1,if_neg h2,if_neg h3,if_neg h4];exact⟨_,_,rfl,by decide,by decide,by decide,fun h=>absurd h (by decide)⟩
def PA(p:zJx):Prop:=(∀(t:Tk)(r:List Tk),Stops t->EV T.pattern (tkp p++t::r) (tr p) (t::r))∧((p.Op=4->p.L=[])->∀(t:Tk)(r:List Tk),Stops t->EV T.argument (tkp p++t::r) (tr p) (t::r))
theorem sep_all(r:List Tk): ∀(l:List zJx)(x:List zJv),(∀y∈l,PA y)->x.length+l.length<=1000->SepP x (((l.map tkp).map fun x=>cm::x).flatten++rp::r) (x++l.map tr) (rp::r)
 |[],x,_,_=>by simpa using sep_end x r
 |y::l,x,h,hl=>by
  have ih:=sep_all r l (x++[tr y]) (fun z hz=>h z (zqc _ hz)) (by simp at hl ⊢;omega)
  have hy:=(h y zq9).1
  have e:(((y::l).map tkp).map fun x=>cm::x).flatten++rp::r=cm::(tkp y++(((l.map tkp).map fun x=>cm::x).flatten++rp::r)):=by simp
  have e2:x++(y::l).map tr=x++[tr y]++l.map tr:=by simp
  rw[e,e2]
  refine sep_next (by simp at hl;omega) ?_ ih
  cases l with
  |nil=>exact hy rp r (.inr (.inl rfl))
  |cons z l=>exact hy cm _ (.inl rfl)
theorem stops46{t:Tk}(ht:Stops t):isB t [46]=false:=by rcases ht with rfl|rfl|rfl<;>decide
theorem PA_all(p:zJx):nok p=true->PA p:=by
 induction p using zGa with
 |h p ih=>
  intro hn
  obtain⟨hb,hk⟩:=nok_iff.1 hn
  unfold PA
  by_cases h1:p.Op=1
  ·have e1:tkp p=[(7,[95])]:=by rw[tkp_eq,if_pos h1]
   have e2:tr p=leaf 11:=by rw[tr_eq,if_pos h1]
   rw[e1,e2]
   exact⟨fun t r _=>pat_arg (by decide) (arg_any _),fun _ t r _=>arg_any _⟩
  by_cases h2:p.Op=2
  ·have e1:tkp p=[(1,p.S)]:=by rw[tkp_eq,if_neg h1,if_pos h2]
   have e2:tr p=zJv.mk 12 0 p.S [] []:=by rw[tr_eq,if_neg h1,if_pos h2]
   rw[e1,e2]
   exact⟨fun t r _=>pat_arg (show(1:Int)≠2 by decide) (arg_var _ _),fun _ t r _=>arg_var _ _⟩
  by_cases h3:p.Op=3
  ·have hN:=node3 hb h3
   have hnum:=identNum_dec p.N.natAbs (by omega)
   have e2:tr p=zJv.mk 13 p.N [] [] []:=by rw[tr_eq,if_neg h1,if_neg h2,if_pos h3]
   have e1:tkp p=if p.N<0 then [(7,[126]),(4,Lib.decDigits p.N.natAbs)] else [(4,Lib.decDigits p.N.natAbs)]:=by rw[tkp_eq,if_neg h1,if_neg h2,if_pos h3]
   rw[e1,e2]
   by_cases h0:p.N<0
   ·rw[if_pos h0]
    have hneg: -((p.N.natAbs:Nat):Int)=p.N:=by omega
    have:=fun(t:Tk) (r:List Tk)=>arg_neg hnum (by omega) (by omega) (t::r)
    rw[hneg] at this
    exact⟨fun t r _=>pat_arg (by decide) (this t r),fun _ t r _=>this t r⟩
   ·rw[if_neg h0]
    have hpos:((p.N.natAbs:Nat):Int)=p.N:=by omega
    rw[hpos] at hnum
    exact⟨fun t r _=>pat_arg (show(4:Int)≠2 by decide) (arg_int hnum _),fun _ t r _=>arg_int hnum _⟩
  by_cases h4:p.Op=4
  ·have e2:tr p=zJv.mk 14 0 [] [p.S] (p.L.map tr):=by rw[tr_eq,if_neg h1,if_neg h2,if_neg h3,if_pos h4]
   have e1:tkp p=(2,p.S)::ctk p (p.L.map tkp):=by rw[tkp_eq,if_neg h1,if_neg h2,if_neg h3,if_pos h4]
   obtain⟨_,hL⟩:=node_4 hb h4
   rw[e1,e2]
   rcases hL with hL|⟨x,hL⟩
   ·rw[hL]
    exact⟨fun t r ht=>pat_ctor p.S ht r,fun _ t r ht=>arg_ctor p.S (stops46 ht) r⟩
   ·have hx:x∈p.L:=by rw[hL];exact zq9
    obtain⟨i1,i2⟩:=ih x hx (hk x hx)
    refine⟨fun t r ht=>?_,fun hh=>by rw[hh h4] at hL;cases hL⟩
    rw[hL]
    obtain⟨t0,ts0,f1,f2,f3,f4,f5⟩:=first_tok x
    show EV T.pattern ((2,p.S)::((if brk p=true then lp::(tkp x++[rp]) else tkp x)++t::r)) (zJv.mk 14 0 [] [p.S] [tr x]) (t::r)
    have hbrk:brk p=(decide (x.Op=4)&&decide (0<x.L.length)):=by unfold brk;rw[hL]
    cases hbr:brk p with
    |true=>
     have e3:(if true=true then lp::(tkp x++[rp]) else tkp x)++t::r=lp::(tkp x++rp::t::r):=by simp
     rw[e3]
     refine pat_app p.S (t:=lp) (by decide) (by decide) ?_
     have hp:=i1 rp (t::r) (.inr (.inl rfl))
     rw[f1] at hp ⊢
     exact arg_list f3 hp (sep_end _ _) (.inl rfl)
    |false=>
     have e3:(if false=true then lp::(tkp x++[rp]) else tkp x)++t::r=tkp x++t::r:=by simp
     rw[e3]
     have ha:=i2 (fun h=>by
      rw[hbrk] at hbr
      rw[zqb h,Bool.true_and,decide_eq_false_iff_not] at hbr
      exact List.eq_nil_of_length_eq_zero (by omega)) t r ht
     rw[f1] at ha ⊢
     exact pat_app p.S f2 f4 ha
  ·obtain⟨h5,h6,h7⟩:=node_5 hb h1 h2 h3 h4
   have e2:tr p=zJv.mk 15 0 [] [] (p.L.map tr):=by rw[tr_eq,if_neg h1,if_neg h2,if_neg h3,if_neg h4]
   have e1:tkp p=lp::(jt (p.L.map tkp)++[rp]):=by rw[tkp_eq,if_neg h1,if_neg h2,if_neg h3,if_neg h4]
   rw[e1,e2]
   have ha: ∀(t:Tk)(r:List Tk),EV T.argument (lp::(jt (p.L.map tkp)++[rp])++t::r) (zJv.mk 15 0 [] [] (p.L.map tr)) (t::r):=fun t r=>by
    match hL:p.L,h6 with
    |[],_=>exact arg_unit (t::r)
    |[x],hh=>exact absurd rfl hh
    |x::y::l,_=>
     have hm: ∀z∈x::y::l,PA z:=fun z hz=>ih z (by rw[hL];exact hz) (hk z (by rw[hL];exact hz))
     obtain⟨t0,ts0,f1,f2,f3,f4,f5⟩:=first_tok x
     have hlen:(x::y::l).length<=9:=by rw[<-hL];exact h7
     have hs:=sep_all (t::r) (y::l) [tr x] (fun z hz=>hm z (zqc _ hz)) (by simp only[List.length_cons,List.length_nil] at hlen ⊢;omega)
     have hp:=(hm x zq9).1 cm (tkp y++(((l.map tkp).map fun x=>cm::x).flatten++rp::t::r)) (.inl rfl)
     have e3:lp::(jt ((x::y::l).map tkp)++[rp])++t::r=lp::(tkp x++cm::(tkp y++(((l.map tkp).map fun x=>cm::x).flatten++rp::t::r))):=by simp[jt]
     rw[e3]
     rw[f1] at hp ⊢
     refine arg_list f3 hp (l:=[tr x]++(y::l).map tr) ?_ (.inr ⟨by simp,by simp⟩)
     have e4:(((y::l).map tkp).map fun x=>cm::x).flatten++rp::t::r=cm::(tkp y++(((l.map tkp).map fun x=>cm::x).flatten++rp::t::r)):=by simp
     rw[e4] at hs
     exact hs
   exact⟨fun t r _=>pat_arg (t:=lp) (by decide) (ha t r),fun _ t r _=>ha t r⟩
theorem sums(l:List zJx)(h: ∀x∈l,szT (tr x)=nds x∧dpT (tr x)<=nds x):szL (l.map tr)=(l.map nds).sum∧dpL (l.map tr)<=(l.map nds).sum:=by
 induction l with
 |nil=>exact⟨rfl,Nat.le_refl _⟩
 |cons x l ih=>
  obtain⟨h1,h2⟩:=h x zq9
  obtain⟨i1,i2⟩:=ih fun y hy=>h y (zqc _ hy)
  rw[List.map_cons,List.map_cons,List.sum_cons,szL,dpL,h1,i1]
  exact⟨rfl,by omega⟩
theorem all_bl(l:List zJx)(h: ∀x∈l,bl 2 (tr x)=true):((l.map tr).all fun x=>bl 2 x)=true:=List.all_eq_true.2 fun y hy=>by
 obtain⟨x,hx,rfl⟩:=List.mem_map.1 hy
 exact h x hx
theorem own_14{s:List UInt8}(h:nm caBV s=true)(L:List zJv):Ev (fun n=>zBl n (zJv.mk 14 0 [] [s] L) false) true:=⟨40,fun n hn=>by
 obtain⟨m,rfl⟩: ∃m,n=m+40:=⟨n-40,by omega⟩
 have e:zBl (m+40) (zJv.mk 14 0 [] [s] L) false=(zBB (m+40) [s] false).bind fun v=>some v:=by rfl
 have e2:zBB (m+40) [s] false=(zA0 (m+40) s).bind fun v=>some v:=by rfl
 show zBl (m+40) (zJv.mk 14 0 [] [s] L) false=some true
 rw[e,e2,IsUpper_M s (by omega),h];rfl⟩
theorem own_12{s:List UInt8}(h:loS s=true):Ev (fun n=>zBl n (zJv.mk 12 0 s [] []) false) true:=⟨40,fun n hn=>by
 have e:zBl n (zJv.mk 12 0 s [] []) false=(zAw n s).bind fun v=>some v:=by rfl
 show zBl n (zJv.mk 12 0 s [] []) false=some true
 rw[e,IsLower_M s hn,h];rfl⟩
theorem shape_14(s:List UInt8)(L:List zJv)(hl:L.length<=1)(h:(L.all fun x=>bl 2 x)=true):Ev (fun n=>zB0 n (zJv.mk 14 0 [] [s] L)) true:=by
 have hm:=many_ev L 2 0 1
 rw[show leI 0 (L.length:Int)=true from zqb (by omega),show leI (L.length:Int) 1=true from zqb (by omega),h] at hm
 exact(Ev.map (fun v=>v) hm).congr fun n=>by rfl
theorem shape_15(L:List zJv)(h1:L.length≠1)(hl:L.length<=9)(h:(L.all fun x=>bl 2 x)=true):Ev (fun n=>zB0 n (zJv.mk 15 0 [] [] L)) true:=by
 have hm:=many_ev L 2 0 9
 rw[show leI 0 (L.length:Int)=true from zqb (by omega),show leI (L.length:Int) 9=true from zqb (by omega),h] at hm
 refine(Ev.map (fun v=>v) (Ev.map (fun v=>v) hm)).congr fun n=>?_
 have e:zB0 n (zJv.mk 15 0 [] [] L)=(if !(eqI (L.length:Int) 1) then (zBc n L 2 0 9).bind fun v=>some v else some false:Option Bool).bind fun v=>some v:=by rfl
 rw[e,show eqI (L.length:Int) 1=false from decide_eq_false (by omega)];rfl
theorem WF_all(p:zJx):nok p=true->WF (tr p) false∧bl 2 (tr p)=true∧szT (tr p)=nds p∧dpT (tr p)<=nds p:=by
 induction p using zGa with
 |h p ih=>
  intro hn
  obtain⟨hb,hk⟩:=nok_iff.1 hn
  have hs:=nds_eq p
  by_cases h1:p.Op=1
  ·rw[tr_eq,if_pos h1]
   rw[node_1 hb h1] at hs
   exact⟨.mk ⟨0,fun n _=>by rfl⟩ ⟨0,fun n _=>by rfl⟩ fun x hx=>(by cases hx),by rfl,by rw[hs];rfl,by rw[hs];exact Nat.le_refl _⟩
  by_cases h2:p.Op=2
  ·obtain⟨q1,q2⟩:=node_2 hb h2
   rw[tr_eq,if_neg h1,if_pos h2]
   rw[q2] at hs
   exact⟨.mk (own_12 q1) ⟨0,fun n _=>by rfl⟩ fun x hx=>(by cases hx),by rfl,by rw[hs];rfl,by rw[hs];exact Nat.le_refl _⟩
  by_cases h3:p.Op=3
  ·obtain⟨q1,q2⟩:=node3 hb h3
   rw[tr_eq,if_neg h1,if_neg h2,if_pos h3]
   rw[node_3 hb h3] at hs
   refine⟨.mk ⟨0,fun n _=>?_⟩ ⟨0,fun n _=>by rfl⟩ fun x hx=>(by cases hx),by rfl,by rw[hs];rfl,by rw[hs];exact Nat.le_refl _⟩
   have e:zBl n (zJv.mk 13 p.N [] [] []) false=some ((leI (-4503599627370496) p.N)&&(leI p.N 4503599627370496)):=by rfl
   show zBl n (zJv.mk 13 p.N [] [] []) false=some true
   rw[e,show leI (-4503599627370496) p.N=true from zqb q1,show leI p.N 4503599627370496=true from zqb q2];rfl
  have hx:=fun x hx=>ih x hx (hk x hx)
  obtain⟨s1,s2⟩:=sums p.L fun x h=>⟨(hx x h).2.2.1,(hx x h).2.2.2⟩
  have ha:=all_bl p.L fun x h=>(hx x h).2.1
  have hw: ∀y∈p.L.map tr,WF y false:=fun y hy=>by
   obtain⟨x,h,rfl⟩:=List.mem_map.1 hy
   exact(hx x h).1
  by_cases h4:p.Op=4
  ·obtain⟨q1,q2⟩:=node_4 hb h4
   have hl:(p.L.map tr).length<=1:=by rw[zq4];exact(node4 hb h4).1
   rw[tr_eq,if_neg h1,if_neg h2,if_neg h3,if_pos h4]
   exact⟨.mk (own_14 q1 _) (shape_14 _ _ hl ha) hw,by rfl,by rw[szT,s1,hs],by rw[dpT,hs];omega⟩
  ·obtain⟨h5,h6,h7⟩:=node_5 hb h1 h2 h3 h4
   rw[tr_eq,if_neg h1,if_neg h2,if_neg h3,if_neg h4]
   exact⟨.mk ⟨0,fun n _=>by rfl⟩ (shape_15 _ (by rw[zq4];exact h6) (by rw[zq4];exact h7) ha) hw,by rfl,by rw[szT,s1,hs],by rw[dpT,hs];omega⟩
theorem whole_pat{s:List UInt8}(hs:s.length<=16384){A:List Tk}(h:TL s A){v:zJv}(hv:EV T.pattern (A++[eT]) v [eT])(hb:bl 2 v=true)(hw:WF v false)(h1:szT v<=20000)(h2:dpT v<=400):Ev (fun n=>zAk n 2 s) (v,zJw.mk 0 0,0):=by
 obtain⟨l,h,e⟩:=h
 have he:tks (l++[(8,[],[])])=A++[eT]:=by rw[tks,List.map_append,<-tks,e];rfl
 obtain⟨o,A',t,B,hA,⟨N,hg⟩,hx⟩:=whole_ok hs h (cat:=2) catOk2
 obtain⟨N2,hv⟩:=hv
 have h3:=hg (max N N2) (by omega)
 have h4:(T.pattern (max N N2)).go (tks (l++[(8,[],[])]))=some (o,t::B):=h3
 rw[he,hv _ (by omega)] at h4
 cases h4
 rcases hx with ⟨v',b,e1,_,_,hV,hx⟩|⟨q,_,_,h5,_⟩
 ·cases e1
  obtain⟨b',hb',hiff⟩:=Valid_ev 2 v
  have:=hV.unique hb'
  subst this
  rw[hiff.2 ⟨hb,hw,h1,h2⟩] at hx
  exact hx
 ·rcases h5 with h5|h5
  ·cases h5
  ·exact(h5 rfl).elim
theorem parsed(p:zJx)(hn:nok p=true)(h2:nds p<=200):Ev (fun n=>zAk n 2 (txt p)) (tr p,zJw.mk 0 0,0):=by
 obtain⟨w1,w2,w3,w4⟩:=WF_all p hn
 have hl:=txt_len p hn
 have ht:=(TX_all p hn).1 [] [] trivial TL_nil
 rw[List.append_nil,List.append_nil] at ht
 exact whole_pat (by omega) ht ((PA_all p hn).1 eT [] (.inr (.inr rfl))) w2 w1 (by omega) (by omega)
def SL(F:zJx->zJv->Option Bool)(p:zJx)(t:zJv):Nat->Nat->Option (Bool ⊕ Unit)
 |0,_=>none
 |k+1,i=>
  if ltI ((i:Nat):Int) (p.L.length:Int) then
   (p.L[i]?).bind fun x=>(t.L[i]?).bind fun y=>(F x y).bind fun v=>if !v then some (.inl false) else SL F p t k (i+1)
  else some (.inr ())
theorem SL1(F:zJx->zJv->Option Bool)(p:zJx)(t:zJv): ∀k i,zBM F p t k i=SL F p t k i
 |0,_=>rfl
 |k+1,i=>by simp only[zBM,SL,SL1 F p t k]
theorem SL2(F:zJx->zJv->Option Bool)(p:zJx)(t:zJv): ∀k i,zBL F p t k i=SL F p t k i
 |0,_=>rfl
 |k+1,i=>by simp only[zBL,SL,SL2 F p t k]
theorem SL3(F:zJx->zJv->Option Bool)(p:zJx)(t:zJv): ∀k i,zBK F p t k i=SL F p t k i
 |0,_=>rfl
 |k+1,i=>by simp only[zBK,SL,SL3 F p t k]
theorem SL4(F:zJx->zJv->Option Bool)(p:zJx)(t:zJv): ∀k i,zBJ F p t k i=SL F p t k i
 |0,_=>rfl
 |k+1,i=>by simp only[zBJ,SL,SL4 F p t k]
theorem SL5(F:zJx->zJv->Option Bool)(p:zJx)(t:zJv): ∀k i,zBI F p t k i=SL F p t k i
 |0,_=>rfl
 |k+1,i=>by simp only[zBI,SL,SL5 F p t k]
theorem SL_ok{F:zJx->zJv->Option Bool}{p:zJx}{t:zJv}(ht:t.L=p.L.map tr)(h: ∀x∈p.L,F x (tr x)=some true): ∀(m i k:Nat),i+m=p.L.length->m+1<=k->SL F p t k i=some (.inr ())
 |0,i,k+1,hi,hk=>by rw[SL,show ltI (i:Int) (p.L.length:Int)=false from decide_eq_false (by omega)];rfl
 |m+1,i,k+1,hi,hk=>by
  have hl:i<p.L.length:=by omega
  have hy:t.L[i]? =some (tr p.L[i]):=by rw[ht,List.getElem?_map,zq2 hl];rfl
  rw[SL,show ltI (i:Int) (p.L.length:Int)=true from zqb (by omega),if_pos rfl,zq2 hl,obm,hy,obm,h _ (List.getElem_mem hl),obm,if_neg (by decide)]
  exact SL_ok ht h m (i+1) k (by omega) (by omega)
theorem same_M(p:zJx):nok p=true->∀n,wtV p<=n->zAO n p (tr p)=some true:=by
 induction p using zGa with
 |h p ih=>
  intro hn n hw
  obtain⟨hb,hk⟩:=nok_iff.1 hn
  have hown:=wt_own p
  obtain⟨m,rfl⟩: ∃m,n=m+1:=⟨n-1,by omega⟩
  have hF: ∀x∈p.L,zAO m x (tr x)=some true:=fun x hx=>ih x hx (hk x hx) m (by have:=wt_mem hx;omega)
  have fin: ∀t:zJv,t.L=p.L.map tr->((SL (zAO m) p t m 0).bind fun o=>Sum.elim some (fun _=>some true) o:Option Bool)=some true:=fun t ht=>by
   rw[SL_ok ht hF p.L.length 0 m (by omega) (by omega)];rfl
  have hlen: ∀t:zJv,t.L=p.L.map tr->eqI (p.L.length:Int) (t.L.length:Int)=true:=fun t ht=>by rw[ht,zq4];exact zqb rfl
  have no: ∀k:Int,p.Op≠k->eqI p.Op k=false:=fun k h=>decide_eq_false h
  have yes: ∀k:Int,p.Op=k->eqI p.Op k=true:=fun k h=>zqb h
  rw[zAO]
  simp only[SL1,SL2,SL3,SL4,SL5]
  by_cases h1:p.Op=1
  ·have hL:(tr p).L=p.L.map tr:=by rw[tr_eq,if_pos h1,node_1 hb h1];rfl
   have ht:tr p=leaf 11:=by rw[tr_eq,if_pos h1]
   rw[hlen _ hL,if_neg (by decide),yes 1 h1,if_pos rfl,if_neg (by rw[ht];decide)]
   exact fin _ hL
  by_cases h2:p.Op=2
  ·have ht:tr p=zJv.mk 12 0 p.S [] []:=by rw[tr_eq,if_neg h1,if_pos h2]
   have hL:(tr p).L=p.L.map tr:=by rw[ht,(node_2 hb h2).2];rfl
   rw[hlen _ hL,if_neg (by decide),no 1 h1,if_neg (by decide),yes 2 h2,if_pos rfl,if_neg (by rw[ht];simp[eqI,eqS])]
   exact fin _ hL
  by_cases h3:p.Op=3
  ·have ht:tr p=zJv.mk 13 p.N [] [] []:=by rw[tr_eq,if_neg h1,if_neg h2,if_pos h3]
   have hL:(tr p).L=p.L.map tr:=by rw[ht,node_3 hb h3];rfl
   rw[hlen _ hL,if_neg (by decide),no 1 h1,if_neg (by decide),no 2 h2,if_neg (by decide),yes 3 h3,if_pos rfl,if_neg (by rw[ht];simp[eqI])]
   exact fin _ hL
  by_cases h4:p.Op=4
  ·have ht:tr p=zJv.mk 14 0 [] [p.S] (p.L.map tr):=by rw[tr_eq,if_neg h1,if_neg h2,if_neg h3,if_pos h4]
   have hL:(tr p).L=p.L.map tr:=by rw[ht]
   rw[hlen _ hL,if_neg (by decide),no 1 h1,if_neg (by decide),no 2 h2,if_neg (by decide),no 3 h3,if_neg (by decide),yes 4 h4,if_pos rfl]
   have hnm:(if !(eqI (tr p).Op 14) then some true else if !(eqI ((tr p).Names.length:Int) 1) then some true else ((tr p).Names[0]?).bind fun x126=>some (!(eqS x126 p.S)):Option Bool)=some false:=by
    rw[ht];simp[eqI,eqS]
   rw[hnm,obm,if_neg (by decide)]
   exact fin _ hL
  ·have ht:tr p=zJv.mk 15 0 [] [] (p.L.map tr):=by rw[tr_eq,if_neg h1,if_neg h2,if_neg h3,if_neg h4]
   have hL:(tr p).L=p.L.map tr:=by rw[ht]
   rw[hlen _ hL,if_neg (by decide),no 1 h1,if_neg (by decide),no 2 h2,if_neg (by decide),no 3 h3,if_neg (by decide),no 4 h4,if_neg (by decide),if_neg (by rw[ht];simp[eqI])]
   exact fin _ hL
theorem Pattern_eq(n:Nat)(s:List UInt8):zCU n s=zAk n 2 s:=by
 rw[zCU];cases zAk n 2 s<;>rfl
theorem zIU(p:zJx): ∃fuel,zCV fuel p=some true:=by
 obtain⟨b,hb,hs⟩:=Big_M p (fuel:=wtV p) (Nat.le_refl _)
 have haw:zFq=some true:=rfl
 by_cases hbig:nds p<=200
 ·by_cases hv:vld p=true
  ·have hn:nok p=true:=by unfold vld at hv;rw[zq7] at hv;exact hv.1
   obtain⟨N,hN⟩:=parsed p hn hbig
   generalize hm:max N (wtV p)=n
   obtain⟨b,hb,hs⟩:=Big_M p (fuel:=n) (by omega)
   refine⟨n,?_⟩
   rw[zCV,haw,obm,if_neg (by decide),hb,obm]
   cases b with
   |true=>rfl
   |false=>
    rw[if_neg (by decide),Text_M p (by omega) hbig,if_pos hv,obm]
    have hw:zCU n (txt p)=some (tr p,zJw.mk 0 0,0):=(Pattern_eq n _).trans (hN n (by omega))
    have hsm:=same_M p hn n (by omega)
    simp only[hw,hsm,obm,show eqI (0:Int) 0=true from rfl,Bool.not_true,Bool.false_eq_true,if_false,if_true]
  ·obtain⟨b,hb,hs⟩:=Big_M p (fuel:=wtV p) (Nat.le_refl _)
   refine⟨wtV p,?_⟩
   rw[zCV,haw,obm,if_neg (by decide),hb,obm]
   cases b with
   |true=>rfl
   |false=>
    rw[if_neg (by decide),Text_M p (Nat.le_refl _) hbig,if_neg hv,obm]
    rfl
 ·refine⟨wtV p,?_⟩
  rw[zCV,haw,obm,if_neg (by decide),hb,obm]
  cases b with
  |true=>rfl
  |false=>exact(hbig (hs rfl)).elim
end Go.Proofs.YtbnahfdbjaohkaaGreatDoor
