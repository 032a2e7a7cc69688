/- For every input the law ParsecoreLimits returns true. Part 16 of 22. No condition. -/
import Derived.Test.YtcbjbgiboimgaaaGreatDoorPMo
set_option linter.unusedVariables false
set_option linter.unnecessarySimpa false
set_option linter.unusedSimpArgs false
set_option maxRecDepth 100000
set_option maxHeartbeats 4000000
namespace Go.Proofs.YtcbjbgiboimgaaaGreatDoor
open Go Go.Abs
theorem zC2{α β:Type}(a:α)(f:α->Option β):(some a).bind f=f a:=Eq.trans (Option.bind_some a f) rfl
theorem zI1{n:Int}(h1: -9223372036854775808<=n)(h2:n<=9223372036854775807):chk .i64 n=some n:=by rw[chk,if_pos];exact⟨h1,h2⟩
theorem app_some{α:Type}{b:Nat}{x y:List α}(h:0<b)(h2:(x.length+y.length)*b<=140737488355328):app b x y=some (x++y):=by rw[app,if_pos ⟨h,h2⟩]
theorem app1{x y:List UInt8}(h:x.length+y.length<=140737488355328):app 1 x y=some (x++y):=app_some (by decide) (by omega)
theorem wb_M{c:UInt8}{b:List UInt8}(h:b.length+1<=140737488355328):zAg c b=some (b++[c]):=by
 simp only[zAg,zCI,zC2,app1 (x:=b) (y:=[c]) h]
theorem ws_M{s b:List UInt8}(h:b.length+s.length<=140737488355328):zDC s b=some ((s.length:Int),b++s):=by
 simp only[zDC,zCI,zC2,app1 (x:=b) (y:=s) h]
def okc(c:UInt8):Bool:=c==10||(decide (32<=c.toNat)&&decide (c.toNat<=126))
def esc(c:UInt8):List UInt8:=if c=10 then [92,110] else if c=34∨c=92 then [92,c] else [c]
def qs(s:List UInt8):List UInt8:=s.flatMap esc
theorem eq8(c:UInt8)(n:Nat)(d:UInt8)(hd:d.toNat=n):eqI (c.toNat:Int) (n:Int)=decide (c=d):=by
 unfold eqI
 rw[decide_eq_decide]
 constructor
 ·intro h;apply UInt8.toNat_inj.1;omega
 ·rintro rfl;omega
theorem e10(c:UInt8):eqI (c.toNat:Int) 10=decide (c=10):=eq8 c 10 10 rfl
theorem e34(c:UInt8):eqI (c.toNat:Int) 34=decide (c=34):=eq8 c 34 34 rfl
theorem e92(c:UInt8):eqI (c.toNat:Int) 92=decide (c=92):=eq8 c 92 92 rfl
theorem e110(c:UInt8):eqI (c.toNat:Int) 110=decide (c=110):=eq8 c 110 110 rfl
theorem vis_M(c:UInt8):zDk c=some (decide (32<=c.toNat)&&decide (c.toNat<=126)):=by
 unfold zDk leI
 congr 2
 ·exact decide_eq_decide.2 (by omega)
 ·exact decide_eq_decide.2 (by omega)
theorem qs_ge(s:List UInt8):s.length<=(qs s).length:=by
 induction s with
 |nil=>simp
 |cons c s ih=>
  have:1<=(esc c).length:=by unfold esc;split<;>(try split)<;>simp
  simp only[qs,List.flatMap_cons,List.length_append,List.length_cons] at ih ⊢
  omega
theorem zHG(c:UInt8)(s:List UInt8):qs (c::s)=esc c++qs s:=by simp[qs]
theorem Quote_loop(s:List UInt8)(hs:s.length<=20000): ∀(n i k:Nat)(b:List UInt8),i+n=s.length->n+1<=k->b.length+2*n<=1000000->
 zDa s k b i=some (if (s.drop i).all okc then .inr (b++qs (s.drop i)) else .inl ([],3)):=by
 intro n
 induction n with
 |zero=>
  intro i k b hi hk hb
  obtain⟨g,rfl⟩: ∃g,k=g+1:=⟨k-1,by omega⟩
  rw[zDa,if_neg (by simp[ltI];omega),List.drop_eq_nil_of_le (by omega)]
  simp[qs]
 |succ n ih=>
  intro i k b hi hk hb
  obtain⟨g,rfl⟩: ∃g,k=g+1:=⟨k-1,by omega⟩
  have hx:s[i]? =some s[i]:=zq2 (by omega)
  rw[zDa,if_pos (by simp[ltI];omega),hx,List.drop_eq_getElem_cons (by omega),List.all_cons,zHG]
  generalize s[i]=c at hx
  simp only[zC2,e10,e34,e92,vis_M]
  by_cases c10:c=10
  ·subst c10
   have ho:okc 10=true:=rfl
   rw[zqb rfl,if_pos rfl,ws_M (by simp;omega)]
   simp only[zC2,ho,Bool.true_and]
   rw[ih (i+1) g _ (by omega) (by omega) (by simp;omega)]
   have he:esc 10=[92,110]:=rfl
   rw[he,List.append_assoc]
  ·rw[decide_eq_false c10,if_neg (by simp)]
   cases hv:(decide (32<=c.toNat)&&decide (c.toNat<=126))
   ·have ho:okc c=false:=by unfold okc;rw[hv];simpa using c10
    rw[ho];rfl
   ·have ho:okc c=true:=by unfold okc;rw[hv];simp
    simp only[Bool.not_true,Bool.false_eq_true,if_false,ho,Bool.true_and]
    by_cases c2:c=34∨c=92
    ·have he:esc c=[92,c]:=by unfold esc;rw[if_neg c10,if_pos c2]
     rw[if_pos (by rcases c2 with h|h<;>simp[h]),wb_M (by omega)]
     simp only[zC2]
     rw[wb_M (by simp;omega)]
     simp only[zC2]
     rw[ih (i+1) g _ (by omega) (by omega) (by simp;omega),he]
     simp
    ·have he:esc c=[c]:=by unfold esc;rw[if_neg c10,if_neg c2]
     rw[if_neg (by simpa using c2),wb_M (by omega)]
     simp only[zC2]
     rw[ih (i+1) g _ (by omega) (by omega) (by simp;omega),he]
     simp
theorem lit_complete(s:List UInt8): ∀(m:List UInt8),m.all okc=true->∀(i k:Nat)(b r:List UInt8),s.drop i=qs m++34::r->m.length+1<=k->b.length+m.length<=1000000->
 zAe s k b i=some (.inl (b++m,((i+(qs m).length+1:Nat):Int),0,0)):=by
 intro m
 induction m with
 |nil=>
  intro _ i k b r hd hk hb
  obtain⟨g,rfl⟩: ∃g,k=g+1:=⟨k-1,by omega⟩
  obtain⟨h1,h2,h3,h4⟩:=zGa (show s.drop i=34::r by simpa[qs] using hd)
  rw[zAe,if_pos h1,h2]
  simp only[zC2,e34,decide_true,if_true,zDD]
  simp[qs]
 |cons c m ih=>
  intro ha i k b r hd hk hb
  obtain⟨g,rfl⟩: ∃g,k=g+1:=⟨k-1,by omega⟩
  rw[List.all_cons,zq7] at ha
  rw[zHG] at hd ⊢
  simp only[List.length_cons] at hk hb
  have fin: ∀(j:Nat),j=i+(esc c).length->s.drop j=qs m++34::r->zAe s g (b++[c]) j=some (.inl (b++c::m,((i+(esc c++qs m).length+1:Nat):Int),0,0)):=fun j hj hd'=>by
   rw[ih ha.2 j g (b++[c]) r hd' (by omega) (by simp;omega),hj]
   simp
   omega
  by_cases c10:c=10
  ·subst c10
   have he:esc 10=[92,110]:=rfl
   rw[he] at hd
   obtain⟨h1,h2,h3,h4⟩:=zGa (show s.drop i=92::(110::(qs m++34::r)) by simpa using hd)
   obtain⟨k1,k2,k3,k4⟩:=zGa h3
   rw[zAe,if_pos h1,h2]
   simp only[zC2,e34,e92,e110]
   rw[if_neg (by decide),if_pos (by simp only[decide_true,Bool.true_and];exact k1),k2]
   simp only[zC2]
   rw[if_neg (by decide),if_neg (by decide),if_pos (by decide),wb_M (by omega)]
   simp only[zC2]
   exact fin (i+1+1) (by rw[he];rfl) k3
  ·by_cases c2:c=34∨c=92
   ·have he:esc c=[92,c]:=by unfold esc;rw[if_neg c10,if_pos c2]
    rw[he] at hd
    obtain⟨h1,h2,h3,h4⟩:=zGa (show s.drop i=92::(c::(qs m++34::r)) by simpa using hd)
    obtain⟨k1,k2,k3,k4⟩:=zGa h3
    rw[zAe,if_pos h1,h2]
    simp only[zC2,e34,e92,e110]
    rw[if_neg (by decide),if_pos (by simp only[decide_true,Bool.true_and];exact k1),k2]
    simp only[zC2]
    rcases c2 with c2|c2
    ·rw[if_pos (by simp[c2]),wb_M (by omega)]
     simp only[zC2]
     exact fin (i+1+1) (by rw[he];rfl) k3
    ·rw[if_neg (by rw[c2];decide),if_pos (by simp[c2]),wb_M (by omega)]
     simp only[zC2]
     exact fin (i+1+1) (by rw[he];rfl) k3
   ·have he:esc c=[c]:=by unfold esc;rw[if_neg c10,if_neg c2]
    rw[he] at hd
    obtain⟨h1,h2,h3,h4⟩:=zGa (show s.drop i=c::(qs m++34::r) by simpa using hd)
    have hv:(decide (32<=c.toNat)&&decide (c.toNat<=126))=true:=by
     have:=ha.1
     unfold okc at this
     simpa[c10] using this
    have n34: ¬c=34:=fun h=>c2 (.inl h)
    have n92: ¬c=92:=fun h=>c2 (.inr h)
    rw[zAe,if_pos h1,h2]
    simp only[zC2,e34,e92,e110]
    rw[if_neg (by simpa using n34),if_neg (by simp[n92]),if_neg (by simpa using n92),vis_M]
    simp only[zC2,hv,Bool.not_true,Bool.false_eq_true,if_false]
    rw[wb_M (by omega)]
    simp only[zC2]
    exact fin (i+1) (by rw[he];rfl) h3
theorem lit_sound(s:List UInt8)(hs:s.length<=100000): ∀(n i k:Nat)(b:List UInt8),s.length-i<=n->n+1<=k->b.length+n<=1000000->
 ∃o,zAe s k b i=some o∧∀t N p e,o=.inl (t,N,p,e)->e=0->∃m r,t=b++m∧m.all okc=true∧s.drop i=qs m++34::r∧N=((i+(qs m).length+1:Nat):Int):=by
 intro n
 induction n with
 |zero=>
  intro i k b hi hk hb
  obtain⟨g,rfl⟩: ∃g,k=g+1:=⟨k-1,by omega⟩
  rw[zAe,if_neg (by simp[ltI];omega)]
  exact⟨_,rfl,fun t N p e h=>by cases h⟩
 |succ n ih=>
  intro i k b hi hk hb
  obtain⟨g,rfl⟩: ∃g,k=g+1:=⟨k-1,by omega⟩
  by_cases hlt:i<s.length
  case neg=>
   rw[zAe,if_neg (by simp[ltI];omega)]
   exact⟨_,rfl,fun t N p e h=>by cases h⟩
  have hx:s[i]? =some s[i]:=zq2 hlt
  have hd:s.drop i=s[i]::s.drop (i+1):=List.drop_eq_getElem_cons hlt
  generalize s[i]=c at hx hd
  rw[zAe,if_pos (by simp[ltI];omega),hx]
  simp only[zC2,e34,e92,e110]
  have step: ∀(j:Nat)(x:UInt8),i<j->okc x=true->s.drop i=esc x++s.drop j->j=i+(esc x).length->∃o,zAe s g (b++[x]) j=some o∧
   ∀t N p e,o=.inl (t,N,p,e)->e=0->∃m r,t=b++m∧m.all okc=true∧s.drop i=qs m++34::r∧N=((i+(qs m).length+1:Nat):Int):=fun j x hj hx' hdx hjl=>by
   obtain⟨o,o1,o2⟩:=ih j g (b++[x]) (by omega) (by omega) (by simp;omega)
   refine⟨o,o1,fun t N p e ho he=>?_⟩
   obtain⟨m,r,m1,m2,m3,m4⟩:=o2 t N p e ho he
   refine⟨x::m,r,by rw[m1];simp,by rw[List.all_cons,hx',m2];rfl,by rw[hdx,m3,zHG];simp,?_⟩
   rw[m4,zHG,hjl]
   simp
   omega
  by_cases c34:c=34
  ·subst c34
   simp only[decide_true,if_true,zDD,zC2]
   refine⟨_,rfl,fun t N p e h he=>?_⟩
   simp only[Sum.inl.injEq,Prod.mk.injEq] at h
   obtain⟨rfl,rfl,_,_⟩:=h
   exact⟨[],s.drop (i+1),by simp,rfl,by simpa[qs] using hd,by simp[qs]⟩
  rw[if_neg (by simpa using c34)]
  by_cases c92:c=92
  ·subst c92
   by_cases hlt2:i+1<s.length
   ·have hx2:s[i+1]? =some s[i+1]:=zq2 hlt2
    have hd2:s.drop (i+1)=s[i+1]::s.drop (i+1+1):=List.drop_eq_getElem_cons hlt2
    generalize s[i+1]=d at hx2 hd2
    rw[if_pos (by simp[ltI];omega),hx2]
    simp only[zC2]
    rw[hd2] at hd
    by_cases d34:d=34
    ·subst d34
     rw[if_pos (by decide),wb_M (by omega)]
     exact step (i+1+1) 34 (by omega) rfl hd rfl
    rw[if_neg (by simpa using d34)]
    by_cases d92:d=92
    ·subst d92
     rw[if_pos (by decide),wb_M (by omega)]
     exact step (i+1+1) 92 (by omega) rfl hd rfl
    rw[if_neg (by simpa using d92)]
    by_cases d110:d=110
    ·subst d110
     rw[if_pos (by decide),wb_M (by omega)]
     exact step (i+1+1) 10 (by omega) rfl hd rfl
    rw[if_neg (by simpa using d110)]
    refine⟨_,rfl,fun t N p e h he=>?_⟩
    simp only[Sum.inl.injEq,Prod.mk.injEq] at h
    omega
   ·rw[if_neg (by simp[ltI];omega),if_pos (by decide)]
    refine⟨_,rfl,fun t N p e h he=>?_⟩
    simp only[Sum.inl.injEq,Prod.mk.injEq] at h
    omega
  ·rw[if_neg (by simp[c92]),if_neg (by simpa using c92),vis_M]
   simp only[zC2]
   cases hv:(decide (32<=c.toNat)&&decide (c.toNat<=126))
   ·refine⟨_,rfl,fun t N p e h he=>?_⟩
    simp only[Sum.inl.injEq,Prod.mk.injEq] at h
    omega
   ·simp only[Bool.not_true,Bool.false_eq_true,if_false]
    rw[wb_M (by omega)]
    have c10: ¬c=10:=fun h=>by subst h;revert hv;decide
    have he:esc c=[c]:=by unfold esc;rw[if_neg c10,if_neg (by simp[c34,c92])]
    exact step (i+1) c (by omega) (by unfold okc;rw[hv];simp) (by rw[he];exact hd) (by rw[he];rfl)
theorem literal_total(s:List UInt8){fuel:Nat}(hs:s.length<=100000)(hf:s.length+1<=fuel): ∃r,zDW fuel s=some r∧
 (r.2.2.2=0->∃m rest,r.1=m∧m.all okc=true∧s.drop 1=qs m++34::rest∧r.2.1=((1+(qs m).length+1:Nat):Int)):=by
 obtain⟨o,o1,o2⟩:=lit_sound s hs s.length 1 fuel [] (by omega) hf (by simp;omega)
 rw[zDW,o1]
 simp only[zC2]
 cases o with
 |inl x=>
  obtain⟨t,N,p,e⟩:=x
  refine⟨_,rfl,fun he=>?_⟩
  obtain⟨m,r,m1,m2,m3,m4⟩:=o2 t N p e rfl he
  exact⟨m,r,by simpa using m1,m2,m3,m4⟩
 |inr x=>exact⟨_,rfl,fun he=>by simp at he⟩
theorem last_loop(s:List UInt8)(c:UInt8)(hs:s.length<=100000): ∀(i k:Nat)(I:Int),I=(i:Int)-1->i<=s.length->i+1<=k->∃o,zAb s c k I=some o∧∀z,o=.inl z->0<=z∧z<=s.length:=by
 intro i
 induction i with
 |zero=>
  intro k I hI hi hk
  obtain⟨g,rfl⟩: ∃g,k=g+1:=⟨k-1,by omega⟩
  rw[zAb,if_neg (by simp[leI];omega)]
  exact⟨_,rfl,fun z h=>by cases h⟩
 |succ i ih=>
  intro k I hI hi hk
  obtain⟨g,rfl⟩: ∃g,k=g+1:=⟨k-1,by omega⟩
  have hI':I=(i:Int):=by omega
  have hx:s[i]? =some s[i]:=zq2 (by omega)
  rw[zAb,if_pos (by simp[leI];omega),hI',idx,if_pos (by omega)]
  simp only[Int.toNat_natCast,hx,zC2]
  cases eqI ((s[i]).toNat:Int) (c.toNat:Int)
  ·simp only[Bool.false_eq_true,if_false]
   exact ih g _ rfl (by omega) (by omega)
  ·exact⟨_,rfl,fun z h=>by simp at h;omega⟩
theorem place_total(s:List UInt8)(at_:Nat){fuel:Nat}(hs:s.length<=100000)(ha:at_<=s.length)(hf:s.length+2<=fuel): ∃p,zCy fuel s (at_:Int)=some p:=by
 rw[zCy,subC,if_pos ⟨by omega,by omega,by omega⟩]
 simp only[zC2]
 have hsub:sub s 0 (at_:Int)=s.take at_:=by simp[sub]
 rw[hsub]
 have hl:(s.take at_).length<=at_:=by simp;omega
 have hc:Lib.countByte (s.take at_) 10<=(s.take at_).length:=List.count_le_length
 rw[zEA]
 simp only[zC2]
 rw[zI1 (by omega) (by omega)]
 simp only[zC2]
 rw[zCn,zB4,zI1 (by omega) (by omega)]
 simp only[zC2]
 obtain⟨o,o1,o2⟩:=last_loop (s.take at_) 10 (by omega) (s.take at_).length fuel _ rfl (by omega) (by omega)
 rw[o1]
 cases o with
 |inl z=>
  obtain⟨z1,z2⟩:=o2 z rfl
  simp only[zC2,Sum.elim_inl]
  rw[zI1 (by omega) (by omega)]
  exact⟨_,rfl⟩
 |inr u=>
  simp only[zC2,Sum.elim_inr]
  rw[zI1 (by omega) (by omega)]
  exact⟨_,rfl⟩
theorem sub_all(s:List UInt8):sub s 0 (s.length:Int)=s:=by simp[sub]
theorem skip_quote(t:List UInt8){fuel:Nat}(hf:1<=fuel):zCS fuel (zKV.mk (34::t) 0)=some (-1,zKV.mk (34::t) 0):=by
 obtain⟨g,rfl⟩: ∃g,fuel=g+1:=⟨fuel-1,by omega⟩
 rw[zCS,zBP,if_pos (by simp[ltI]),subC,if_pos ⟨by simp,by simp,by simp⟩]
 simp only[zC2]
 rw[sub_all]
 simp only[List.getElem?_cons_zero,zC2]
 have h1:zCb [32,9,10] 34=some (-1):=by rfl
 rw[h1]
 have h2:leI 0 (-1)=false:=rfl
 simp only[zC2,h2,Bool.false_eq_true,if_false]
 have h3:zBU (34::t) [40,42]=some false:=by
  rw[zBU,zBa]
  by_cases hl:leI (([40,42]:List UInt8).length:Int) ((34::t:List UInt8).length:Int)=true
  ·rw[if_pos hl]
   have hl':=leT hl
   rw[subC,if_pos ⟨by omega,by simp,hl'⟩]
   simp only[zC2]
   have:eqS (sub (34::t) 0 (([40,42]:List UInt8).length:Int)) [40,42]=false:=decide_eq_false (by simp[sub])
   rw[this]
  ·rw[if_neg hl];rfl
 rw[h3]
 rfl
theorem idxN{α:Type}(l:List α)(i:Nat):idx l (i:Int)=l[i]? :=by rw[idx,if_pos (by omega)];simp
theorem subD(s:List UInt8)(i:Nat)(h:i<=s.length):subC s (i:Int) (s.length:Int)=some (s.drop i):=by
 rw[subC,if_pos ⟨by omega,by omega,by omega⟩]
 unfold sub
 rw[List.take_of_length_le (by simp)]
 simp
theorem subT(s:List UInt8)(n:Nat)(h:n<=s.length):subC s 0 (n:Int)=some (s.take n):=by
 rw[subC,if_pos ⟨by omega,by omega,by omega⟩]
 simp[sub]
def pre(s t:List UInt8):Bool:=decide (s.take t.length=t)
theorem has_M(s t:List UInt8):zBU s t=some (pre s t):=by
 rw[zBU,zBa]
 by_cases h:t.length<=s.length
 ·rw[if_pos (show leI (t.length:Int) (s.length:Int)=true from zqb (by omega)),subT s t.length h]
  rfl
 ·rw[if_neg (show¬leI (t.length:Int) (s.length:Int)=true from fun h'=>by have:=leT h';omega)]
  have:pre s t=false:=decide_eq_false fun e=>by have:=congrArg List.length e;simp at this;omega
  rw[this];rfl
def smB(c:UInt8):Bool:=(leI 97 (c.toNat:Int))&&(leI (c.toNat:Int) 122)
def caB(c:UInt8):Bool:=(leI 65 (c.toNat:Int))&&(leI (c.toNat:Int) 90)
def diB(c:UInt8):Bool:=(leI 48 (c.toNat:Int))&&(leI (c.toNat:Int) 57)
def inB(c:UInt8):Bool:=smB c||(caB c||(diB c||eqI (c.toNat:Int) 95))
theorem small_M(c:UInt8):zDs c=some (smB c):=rfl
theorem capital_M(c:UInt8):zEC c=some (caB c):=rfl
theorem digit_M(c:UInt8):zEO c=some (diB c):=rfl
theorem inner_M(c:UInt8):zE4 c=some (inB c):=by
 rw[zE4,small_M,capital_M,digit_M]
 unfold inB
 cases smB c<;>cases caB c<;>cases diB c<;>rfl
def cw(p:UInt8->Bool)(s:List UInt8)(i:Nat):Nat:=i+((s.drop i).takeWhile p).length
theorem cw_le(p:UInt8->Bool)(s:List UInt8)(i:Nat)(h:i<=s.length):i<=cw p s i∧cw p s i<=s.length:=by
 unfold cw
 have h1:=(List.takeWhile_prefix p (l:=s.drop i)).length_le
 simp at h1
 omega
theorem cw_end(p:UInt8->Bool)(s:List UInt8)(i:Nat)(h:s.length<=i):cw p s i=i:=by
 unfold cw;rw[List.drop_eq_nil_of_le h];simp
theorem cw_step(p:UInt8->Bool)(s:List UInt8)(i:Nat)(c:UInt8)(h:s[i]? =some c):cw p s i=if p c=true then cw p s (i+1) else i:=by
 obtain⟨hi,rfl⟩:=zq1 h
 unfold cw
 rw[List.drop_eq_getElem_cons hi,List.takeWhile_cons]
 split
 ·simp;omega
 ·simp
theorem inner_loop(s:List UInt8)(hs:s.length<=100000): ∀(n i k:Nat)(I:Int),I=i->s.length-i<=n->n+1<=k->i<=s.length->zBb s k I=some ((cw inB s i:Nat):Int):=by
 intro n
 induction n with
 |zero=>
  intro i k I hI hi hk hl
  obtain⟨g,rfl⟩: ∃g,k=g+1:=⟨k-1,by omega⟩
  rw[zBb,if_neg (show¬ltI I (s.length:Int)=true from fun h=>by have:=ltT h;omega),cw_end _ _ _ (by omega),hI]
  rfl
 |succ n ih=>
  intro i k I hI hi hk hl
  obtain⟨g,rfl⟩: ∃g,k=g+1:=⟨k-1,by omega⟩
  rw[zBb]
  by_cases hlt:i<s.length
  ·have hx:s[i]? =some s[i]:=zq2 hlt
   generalize s[i]=c at hx
   rw[if_pos (show ltI I (s.length:Int)=true from zqb (by omega)),hI,idxN,hx,cw_step _ _ _ _ hx]
   simp only[zC2,inner_M]
   cases inB c
   ·rfl
   ·simp only[if_true]
    rw[zI1 (by omega) (by omega)]
    simp only[zC2]
    exact ih (i+1) g _ (by omega) (by omega) (by omega) (by omega)
  ·rw[if_neg (show¬ltI I (s.length:Int)=true from fun h=>by have:=ltT h;omega),cw_end _ _ _ (by omega),hI]
   rfl
theorem digit_loop(s:List UInt8)(hs:s.length<=100000): ∀(n i k:Nat)(I:Int),I=i->s.length-i<=n->n+1<=k->i<=s.length->zBc s k I=some ((cw diB s i:Nat):Int):=by
 intro n
 induction n with
 |zero=>
  intro i k I hI hi hk hl
  obtain⟨g,rfl⟩: ∃g,k=g+1:=⟨k-1,by omega⟩
  rw[zBc,if_neg (show¬ltI I (s.length:Int)=true from fun h=>by have:=ltT h;omega),cw_end _ _ _ (by omega),hI]
  rfl
 |succ n ih=>
  intro i k I hI hi hk hl
  obtain⟨g,rfl⟩: ∃g,k=g+1:=⟨k-1,by omega⟩
  rw[zBc]
  by_cases hlt:i<s.length
  ·have hx:s[i]? =some s[i]:=zq2 hlt
   generalize s[i]=c at hx
   rw[if_pos (show ltI I (s.length:Int)=true from zqb (by omega)),hI,idxN,hx,cw_step _ _ _ _ hx]
   simp only[zC2,digit_M]
   cases diB c
   ·rfl
   ·simp only[if_true]
    rw[zI1 (by omega) (by omega)]
    simp only[zC2]
    exact ih (i+1) g _ (by omega) (by omega) (by omega) (by omega)
  ·rw[if_neg (show¬ltI I (s.length:Int)=true from fun h=>by have:=ltT h;omega),cw_end _ _ _ (by omega),hI]
   rfl
theorem inner_len{s:List UInt8}{fuel:Nat}(hs:s.length<=100000)(hf:s.length+1<=fuel):zCs fuel s=some ((cw inB s 0:Nat):Int):=by
 rw[zCs,inner_loop s hs s.length 0 fuel 0 rfl (by omega) hf (by omega)];rfl
theorem digit_len{s:List UInt8}{fuel:Nat}(hs:s.length<=100000)(hf:s.length+1<=fuel):zDL fuel s=some ((cw diB s 0:Nat):Int):=by
 rw[zDL,digit_loop s hs s.length 0 fuel 0 rfl (by omega) hf (by omega)];rfl
def WORDS:List (List UInt8):=[[97,110,100,97,108,115,111],[99,97,115,101],[100,97,116,97],[100,105,118],[101,108,115,101],[101,110,100],[102,110],[102,117,110],[102,117,110,99,116,111,114],[103,101,110,101,114,97,116,105,118,101],[105,102],[105,109,112,111,114,116],[105,110],[105,110,99,108,117,100,101],[108,101,116],[109,111,100],[109,111,100,117,108,101],[111,102],[111,112,101,110],[111,114,101,108,115,101],[112,97,99,107],[115,104,97,114,105,110,103],[115,105,103],[115,105,103,110,97,116,117,114,101],[115,116,114,117,99,116],[115,116,114,117,99,116,117,114,101],[116,104,101,110],[116,121,112,101],[117,110,112,97,99,107],[118,97,108],[119,105,116,104]]
theorem ifs(c y:Bool):(if c=true then some true else some y)=some (c||y):=by cases c<;>rfl
theorem Keyword_M(s:List UInt8):zED s=some (WORDS.any (fun w=>eqS s w)):=by
 unfold zED
 simp only[ifs]
 rfl
theorem words_short{s:List UInt8}(h:WORDS.any (fun w=>eqS s w)=true):s.length<=24:=by
 obtain⟨w,hw,he⟩:=List.any_eq_true.1 h
 have e:s=w:=of_decide_eq_true he
 subst e
 have hall: ∀w∈WORDS,w.length<=24:=by decide
 exact hall _ hw
theorem chku8{n:Int}(h1:0<=n)(h2:n<=255):chk .u8 n=some n:=by rw[chk,if_pos];exact⟨h1,h2⟩
theorem number_loop(s:List UInt8)(hd: ∀c∈s,diB c=true): ∀(n i k:Nat)(m:Int),i+n=s.length->n+1<=k->0<=m->m<=4503599627370496->∃o,zA2 s k m i=some o:=by
 intro n
 induction n with
 |zero=>
  intro i k m hi hk h0 h1
  obtain⟨g,rfl⟩: ∃g,k=g+1:=⟨k-1,by omega⟩
  rw[zA2,if_neg (show¬ltI (i:Int) (s.length:Int)=true from fun h=>by have:=ltT h;omega)]
  exact⟨_,rfl⟩
 |succ n ih=>
  intro i k m hi hk h0 h1
  obtain⟨g,rfl⟩: ∃g,k=g+1:=⟨k-1,by omega⟩
  have hx:s[i]? =some s[i]:=zq2 (by omega)
  have hc:=hd s[i] (List.getElem_mem _)
  generalize s[i]=c at hx hc
  unfold diB at hc
  rw[zq7] at hc
  have c1:=leT hc.1;have c2:=leT hc.2
  rw[zA2,if_pos (show ltI (i:Int) (s.length:Int)=true from zqb (by omega)),zI1 (by omega) (by omega),hx]
  simp only[zC2]
  rw[chku8 (by omega) (by omega)]
  simp only[zC2]
  rw[zI1 (by omega) (by omega)]
  simp only[zC2]
  by_cases hb:4503599627370496<10*m+((c.toNat:Int)-48)
  ·rw[if_pos (show ltI 4503599627370496 _=true from zqb hb)]
   exact⟨_,rfl⟩
  ·rw[if_neg (show¬ltI 4503599627370496 _=true from fun h=>hb (ltT h))]
   exact ih (i+1) g _ (by omega) (by omega) (by omega) (by omega)
theorem number_total(s:List UInt8){fuel:Nat}(hd: ∀c∈s,diB c=true)(hf:s.length+1<=fuel): ∃e,zDE fuel s=some e:=by
 obtain⟨o,ho⟩:=number_loop s hd s.length 0 fuel 0 (by simp) hf (by omega) (by omega)
 rw[zDE,ho]
 have fin: ∀b:Bool,∃e,(if b=true then some 3 else (some o).bind fun o=>Sum.elim some (fun o14=>some 0) o)=some e:=fun b=>by
  cases b
  ·cases o<;>exact⟨_,rfl⟩
  ·exact⟨_,rfl⟩
 by_cases h:1<s.length
 ·rw[if_pos (show ltI 1 (s.length:Int)=true from zqb (by omega)),zq2 (by omega:0<s.length)]
  simp only[zC2]
  exact fin _
 ·rw[if_neg (show¬ltI 1 (s.length:Int)=true from fun h'=>by have:=ltT h';omega)]
  simp only[zC2]
  exact fin false
theorem Sym_loop(s:List UInt8)(v:List (List UInt8)): ∀(n i k:Nat),i+n=v.length->n+1<=k->zCR s v k i=some (match (v.drop i).find? (pre s) with|some x=>.inl (x,true)|none=>.inr ()):=by
 intro n
 induction n with
 |zero=>
  intro i k hi hk
  obtain⟨g,rfl⟩: ∃g,k=g+1:=⟨k-1,by omega⟩
  rw[zCR,if_neg (show¬ltI (i:Int) (v.length:Int)=true from fun h=>by have:=ltT h;omega),List.drop_eq_nil_of_le (by omega)]
  rfl
 |succ n ih=>
  intro i k hi hk
  obtain⟨g,rfl⟩: ∃g,k=g+1:=⟨k-1,by omega⟩
  have hx:v[i]? =some v[i]:=zq2 (by omega)
  rw[zCR,if_pos (show ltI (i:Int) (v.length:Int)=true from zqb (by omega)),hx,List.drop_eq_getElem_cons (by omega),List.find?_cons]
  simp only[zC2,has_M]
  cases pre s v[i]
  ·simp only[Bool.false_eq_true,if_false]
   exact ih (i+1) g (by omega) (by omega)
  ·rfl
def SA:List (List UInt8):=[[58,62],[61,62],[45,62],[60,61]]
def SB:List UInt8:=[40,41,44,59,58,61,124,95,46,42,43,45,60,94,126]
def la(c:UInt8)(s:List UInt8):Nat->Int
 |0=> -1
 |i+1=>if s[i]? =some c then (i:Int) else la c s i
theorem la_lt(c:UInt8)(s:List UInt8): ∀i,-1<=la c s i∧la c s i<i
 |0=>by simp[la]
 |i+1=>by
  have:=la_lt c s i
  rw[la]
  split<;>omega
theorem eqB8(c d:UInt8):eqI (c.toNat:Int) (d.toNat:Int)=decide (c=d):=eq8 c d.toNat d rfl
theorem lastM_loop(s:List UInt8)(c:UInt8)(hs:s.length<=100000): ∀(i k:Nat)(I:Int),I=(i:Int)-1->i<=s.length->i+1<=k->∃o,zAb s c k I=some o∧Sum.elim id (fun _=> -1) o=la c s i:=by
 intro i
 induction i with
 |zero=>
  intro k I hI hi hk
  obtain⟨g,rfl⟩: ∃g,k=g+1:=⟨k-1,by omega⟩
  rw[zAb,if_neg (show¬leI 0 I=true from fun h=>by have:=leT h;omega)]
  exact⟨_,rfl,rfl⟩
 |succ i ih=>
  intro k I hI hi hk
  obtain⟨g,rfl⟩: ∃g,k=g+1:=⟨k-1,by omega⟩
  have hI':I=(i:Int):=by omega
  have hx:s[i]? =some s[i]:=zq2 (by omega)
  generalize s[i]=d at hx
  rw[zAb,if_pos (show leI 0 I=true from zqb (by omega)),hI',idxN,hx,la,hx]
  simp only[zC2,eqB8,Option.some.injEq]
  by_cases h:d=c
  ·subst h
   rw[zqb rfl,if_pos rfl,if_pos rfl]
   exact⟨_,rfl,rfl⟩
  ·rw[decide_eq_false h,if_neg (by simp),if_neg h]
   exact ih g _ rfl (by omega) (by omega)
theorem la_take(c:UInt8)(s:List UInt8)(n:Nat): ∀i,i<=n->la c (s.take n) i=la c s i
 |0,_=>rfl
 |i+1,h=>by
  have e:(s.take n)[i]? =s[i]? :=by
   rw[List.getElem?_take,if_pos (by omega)]
  show(if (s.take n)[i]? =some c then (i:Int) else la c (s.take n) i)=(if s[i]? =some c then (i:Int) else la c s i)
  rw[la_take c s n i (by omega),e]
def PL(s:List UInt8)(i:Nat):zKY:=zKY.mk (1+(Lib.countByte (s.take i) 10:Nat)) ((i:Int)-la 10 s i)
theorem place_M(s:List UInt8)(i:Nat){fuel:Nat}(hs:s.length<=100000)(hi:i<=s.length)(hf:s.length+2<=fuel):zCy fuel s (i:Int)=some (PL s i):=by
 have hl:(s.take i).length=i:=by simp;omega
 have hc:Lib.countByte (s.take i) 10<=(s.take i).length:=List.count_le_length
 have hla:=la_lt 10 s i
 rw[zCy,subT s i hi]
 simp only[zC2,zEA]
 rw[zI1 (by omega) (by omega)]
 simp only[zC2]
 rw[zCn,zB4,hl,zI1 (by omega) (by omega)]
 simp only[zC2]
 obtain⟨o,o1,o2⟩:=lastM_loop (s.take i) 10 (by omega) i fuel _ rfl (by omega) (by omega)
 rw[la_take 10 s i i (by omega)] at o2
 rw[o1]
 have fin:(Option.bind (some (Sum.elim id (fun _=>(-1:Int)) o)) fun v14=>(chk .i64 ((i:Int)-v14)).bind fun n16=>some (zKY.mk (1+(Lib.countByte (s.take i) 10:Nat)) n16))=some (PL s i):=by
  rw[o2,zC2,zI1 (by omega) (by omega),zC2];rfl
 cases o with
 |inl z=>exact fin
 |inr u=>exact fin
theorem pre2(t:List UInt8)(a b:UInt8):pre t [a,b]=true↔∃r,t=a::b::r:=by
 unfold pre
 rw[decide_eq_true_eq]
 constructor
 ·intro h
  match t,h with
  |[],h=>simp at h
  |[x],h=>simp at h
  |x::y::r,h=>simp at h;exact⟨r,by rw[h.1,h.2]⟩
 ·rintro⟨r,rfl⟩;simp
theorem e41(c:UInt8):eqI (c.toNat:Int) 41=decide (c=41):=eq8 c 41 41 rfl
def blank(c:UInt8):Bool:=decide (c=32)||(decide (c=9)||decide (c=10))
theorem e32(c:UInt8):eqI (c.toNat:Int) 32=decide (c=32):=eq8 c 32 32 rfl
theorem e9(c:UInt8):eqI (c.toNat:Int) 9=decide (c=9):=eq8 c 9 9 rfl
theorem e39(c:UInt8):eqI (c.toNat:Int) 39=decide (c=39):=eq8 c 39 39 rfl
theorem blank_L(c:UInt8):zCb [32,9,10] c=some (Lib.indexByte [32,9,10] c):=rfl
theorem blank_I(c:UInt8):leI 0 (Lib.indexByte [32,9,10] c)=blank c:=by
 unfold blank
 by_cases h1:c=32
 ·subst h1;rfl
 by_cases h2:c=9
 ·subst h2;rfl
 by_cases h3:c=10
 ·subst h3;rfl
 have n1: ¬32=c:=fun e=>h1 e.symm
 have n2: ¬9=c:=fun e=>h2 e.symm
 have n3: ¬10=c:=fun e=>h3 e.symm
 have:Lib.indexByte [32,9,10] c= -1:=by simp[Lib.indexByte,n1,n2,n3]
 rw[this]
 simp[h1,h2,h3,leI]
theorem vis_N(n:Nat):((ltI (n:Int) 32)||(ltI 126 (n:Int)))= !(decide (32<=n)&&decide (n<=126)):=by
 cases h1:ltI (n:Int) 32
 ·have c1:=ltF h1
  cases h2:ltI 126 (n:Int)
  ·have c2:=ltF h2
   rw[zqb (by omega:32<=n),zqb (by omega:n<=126)];rfl
  ·have c2:=ltT h2
   rw[decide_eq_false (by omega: ¬n<=126)];simp
 ·have c1:=ltT h1
  rw[decide_eq_false (by omega: ¬32<=n)];simp
theorem t1_M(kind n:Int)(text s:List UInt8)(a N:Nat)(hn:n=N)(h:a+N<=1000000):zAx kind n text (zKV.mk s (a:Int))=some (zKX.mk kind text (zKY.mk 0 0),0,0,zKV.mk s ((a+N:Nat):Int)):=by
 have k:chk .i64 ((a:Int)+n)=some ((a+N:Nat):Int):=by rw[zI1 (by omega) (by omega)];congr 1;omega
 rw[zAx]
 dsimp only
 rw[k];rfl
theorem t2_M(by_ e:Int)(s:List UInt8)(a P:Nat)(hp:by_=P)(h:a+P<=1000000):zA8 by_ e (zKV.mk s (a:Int))=some (zKX.mk 0 [] (zKY.mk 0 0),((a+P:Nat):Int),e):=by
 have k:chk .i64 ((a:Int)+by_)=some ((a+P:Nat):Int):=by rw[zI1 (by omega) (by omega)];congr 1;omega
 rw[zA8]
 dsimp only
 rw[k];rfl
theorem cw_pos{p:UInt8->Bool}{c:UInt8}{r:List UInt8}(h:p c=true):1<=cw p (c::r) 0:=by
 rw[cw_step p (c::r) 0 c rfl,if_pos h]
 exact(cw_le p (c::r) 1 (by simp)).1
theorem sm_in{c:UInt8}(h:(smB c||caB c)=true):inB c=true:=by
 unfold inB
 cases h1:smB c
 ·rw[h1] at h;rw[Bool.false_or] at h;rw[h];rfl
 ·rfl
theorem tw_all(p:UInt8->Bool): ∀l:List UInt8,∀c∈l.takeWhile p,p c=true
 |[],c,h=>by cases h
 |x::l,c,h=>by
  rw[List.takeWhile_cons] at h
  split at h
  ·rename_i hx
   rcases List.mem_cons.1 h with rfl|h
   ·exact hx
   ·exact tw_all p l c h
  ·cases h
theorem take_all(p:UInt8->Bool)(t:List UInt8): ∀c∈t.take (cw p t 0),p c=true:=by
 intro c hc
 have e:t.take (cw p t 0)=t.takeWhile p:=by
  unfold cw
  simp only[List.drop_zero,Nat.zero_add]
  exact(List.prefix_iff_eq_take.1 (List.takeWhile_prefix p)).symm
 rw[e] at hc
 exact tw_all p t c hc
theorem lit_one(s:List UInt8)(hs:s.length<=100000): ∀(n i k:Nat)(b:List UInt8),s.length-i<=n->n+1<=k->i<=s.length->b.length+n<=1000000->
 ∃(x:List UInt8) (N p e:Int),(zAe s k b i).bind (fun o=>Sum.elim some (fun o4=>some (([]:List UInt8),(0:Int),(0:Int),(4:Int))) o)=some (x,N,p,e)∧
  (e=0->∃q:Nat,N=q∧i<q∧q<=s.length)∧(∃q:Nat,p=q∧q<=s.length):=by
 intro n
 induction n using Nat.strongRecOn with
 |_ n ih=>
 intro i k b hn hk hi hb
 obtain⟨g,rfl⟩: ∃g,k=g+1:=⟨k-1,by omega⟩
 rw[zAe]
 by_cases hend:s.length<=i
 ·rw[if_neg (show¬ltI (i:Int) (s.length:Int)=true from fun h=>by have:=ltT h;omega)]
  have he:eqI (i:Int) (s.length:Int)=true:=zqb (by omega)
  exact⟨[],0,0,4,rfl,(fun h=>absurd h (by decide)),0,rfl,by omega⟩
 have hx:s[i]? =some s[i]:=zq2 (by omega)
 generalize s[i]=c at hx
 have hidx:idx s (i:Int)=some c:=by rw[idxN];exact hx
 have k1:chk .i64 ((i:Int)+1)=some ((i:Int)+1):=zI1 (by omega) (by omega)
 have k2:chk .i64 ((i:Int)+2)=some ((i:Int)+2):=zI1 (by omega) (by omega)
 have hlt:ltI (i:Int) (s.length:Int)=true:=zqb (by omega)
 have next: ∀(j:Nat)(z:UInt8),i<j->j<=s.length->∃(x:List UInt8) (N p e:Int),(zAe s g (b++[z]) j).bind (fun o=>Sum.elim some (fun o4=>some (([]:List UInt8),(0:Int),(0:Int),(4:Int))) o)=some (x,N,p,e)∧
  (e=0->∃q:Nat,N=q∧i<q∧q<=s.length)∧(∃q:Nat,p=q∧q<=s.length):=fun j z hj1 hj2=>by
  obtain⟨x,N,p,e,h1,h3,h4⟩:=ih (n-1) (by omega) j g (b++[z]) (by omega) (by omega) hj2 (by simp;omega)
  exact⟨x,N,p,e,h1,fun h=>by obtain⟨q,q1,q2,q3⟩:=h3 h;exact⟨q,q1,by omega,q3⟩,h4⟩
 have hcat: ∀z:UInt8,cat b [z]=some (b++[z]):=fun z=>by rw[cat,if_pos (by simp;omega)]
 have hwb: ∀z:UInt8,zAg z b=some (b++[z]):=fun z=>wb_M (by omega)
 simp only[hlt,if_true,hx,hidx,zC2,e34,e92,e110]
 by_cases c34:c=34
 ·rw[zqb c34]
  have he:eqI (i:Int) (s.length:Int)=false:=decide_eq_false (by omega)
  exact⟨b,(i:Int)+1,0,0,rfl,fun _=>⟨i+1,by omega,by omega,by omega⟩,0,rfl,by omega⟩
 rw[decide_eq_false c34]
 simp only[Bool.false_eq_true,if_false,Bool.not_false,if_true,zC2]
 by_cases c92:c=92
 ·rw[zqb c92]
  simp only[if_true,Bool.true_and,k1,zC2]
  by_cases hlt2:i+1<s.length
  ·have hx2:s[i+1]? =some s[i+1]:=zq2 hlt2
   generalize s[i+1]=z at hx2
   have hidx2:idx s ((i:Int)+1)=some z:=by rw[show((i:Int)+1)=((i+1:Nat):Int) by omega,idxN];exact hx2
   have h1:ltI ((i+1:Nat):Int) (s.length:Int)=true:=zqb (by omega)
   have h2:eqI ((i:Int)+1) (s.length:Int)=false:=decide_eq_false (by omega)
   have e2:((i:Int)+2)=((i+1+1:Nat):Int):=by omega
   simp only[h1,if_true,hx2,zC2,h2,Bool.false_eq_true,if_false,hidx2,e34,e92,e110,hcat,hwb,k2]
   by_cases z34:z=34
   ·subst z34
    simp only[decide_true,if_true,show decide ((34:UInt8)=110)=false from rfl,Bool.false_eq_true,if_false]
    try rw[e2]
    exact next (i+1+1) 34 (by omega) (by omega)
   by_cases z92:z=92
   ·subst z92
    simp only[decide_true,if_true,show decide ((92:UInt8)=110)=false from rfl,show decide ((92:UInt8)=34)=false from rfl,Bool.false_eq_true,if_false]
    try rw[e2]
    exact next (i+1+1) 92 (by omega) (by omega)
   by_cases z110:z=110
   ·subst z110
    simp only[decide_true,if_true,show decide ((110:UInt8)=92)=false from rfl,show decide ((110:UInt8)=34)=false from rfl,Bool.false_eq_true,if_false]
    try rw[e2]
    exact next (i+1+1) 10 (by omega) (by omega)
   simp only[decide_eq_false z34,decide_eq_false z92,decide_eq_false z110,Bool.false_eq_true,if_false,zC2,Sum.elim_inl]
   exact⟨[],0,(i:Int),3,by first|rfl|rw[show(((i+1:Nat):Int)-1)=(i:Int) by omega],(fun h=>absurd h (by decide)),i,rfl,by omega⟩
  ·have h1:ltI ((i+1:Nat):Int) (s.length:Int)=false:=decide_eq_false (by omega)
   have h2:eqI ((i:Int)+1) (s.length:Int)=true:=zqb (by omega)
   simp only[h1,Bool.false_eq_true,if_false,h2,if_true]
   exact⟨[],0,0,4,rfl,(fun h=>absurd h (by decide)),0,rfl,by omega⟩
 ·rw[decide_eq_false c92]
  simp only[Bool.false_and,Bool.false_eq_true,if_false,vis_M,zC2]
  have hv:=vis_N c.toNat
  try rw[hv]
  cases hvv:(decide (32<=c.toNat)&&decide (c.toNat<=126))
  ·exact⟨[],0,(i:Int),3,rfl,(fun h=>absurd h (by decide)),i,rfl,by omega⟩
  ·have hsub:subC s (i:Int) ((i:Int)+1)=some [c]:=by
    rw[subC,if_pos ⟨by omega,by omega,by omega⟩]
    have:s.drop i=c::s.drop (i+1):=by
     obtain⟨hl,he⟩:=zq1 hx
     rw[List.drop_eq_getElem_cons hl,he]
    have e1:((i:Int)+1).toNat-(i:Int).toNat=1:=by omega
    unfold sub
    rw[e1,Int.toNat_natCast,this]
    rfl
   simp only[Bool.not_true,Bool.false_eq_true,if_false,hwb,zC2,k1,hsub,hcat]
   try rw[show((i:Int)+1)=((i+1:Nat):Int) by omega]
   exact next (i+1) c (by omega) (by omega)
theorem literal_one(s:List UInt8){fuel:Nat}(hs:s.length<=100000)(h1:1<=s.length)(hf:s.length+1<=fuel): ∃(x:List UInt8) (N p e:Int),zDW fuel s=some (x,N,p,e)∧
 (e=0->∃q:Nat,N=q∧1<=q∧q<=s.length)∧(∃q:Nat,p=q∧q<=s.length):=by
 obtain⟨x,N,p,e,a1,a3,a4⟩:=lit_one s hs s.length 1 fuel [] (by omega) (by omega) h1 (by simp;omega)
 exact⟨x,N,p,e,a1,fun h=>by obtain⟨q,q1,q2,q3⟩:=a3 h;exact⟨q,q1,by omega,q3⟩,a4⟩
def lt:List UInt8->Option (List UInt8×List UInt8)
 |[]=>none
 |c::s=>
  if c=34 then some ([],s)
  else if c=92 then
   match s with
   |[]=>none
   |d::s'=>if d=34∨d=92∨d=110 then (lt s').map (fun q=>((if d=110 then 10 else d)::q.1,q.2)) else none
  else if 32<=c.toNat∧c.toNat<=126 then (lt s).map (fun q=>(c::q.1,q.2)) else none
theorem lt_cons(c:UInt8)(s:List UInt8):lt (c::s)=if c=34 then some ([],s)
 else if c=92 then
  match s with
  |[]=>none
  |d::s'=>if d=34∨d=92∨d=110 then (lt s').map (fun q=>((if d=110 then 10 else d)::q.1,q.2)) else none
 else if 32<=c.toNat∧c.toNat<=126 then (lt s).map (fun q=>(c::q.1,q.2)) else none:=by rw[lt.eq_def]
theorem lt_qs(r:List UInt8): ∀m:List UInt8,m.all okc=true->lt (qs m++34::r)=some (m,r)
 |[],_=>by show lt (34::r)=_;rw[lt_cons,if_pos rfl]
 |c::m,h=>by
  rw[List.all_cons,zq7] at h
  have ih:=lt_qs r m h.2
  rw[zHG,List.append_assoc]
  by_cases c10:c=10
  ·subst c10
   have he:esc 10=[92,110]:=rfl
   rw[he]
   show lt (92::110::(qs m++34::r))=_
   rw[lt_cons]
   simp[ih]
  ·by_cases c2:c=34∨c=92
   ·have he:esc c=[92,c]:=by unfold esc;rw[if_neg c10,if_pos c2]
    rw[he]
    show lt (92::c::(qs m++34::r))=_
    rw[lt_cons]
    have n110: ¬c=110:=by rcases c2 with rfl|rfl<;>decide
    rcases c2 with c2|c2<;>simp[ih,c2]
   ·have he:esc c=[c]:=by unfold esc;rw[if_neg c10,if_neg c2]
    rw[he]
    show lt (c::(qs m++34::r))=_
    rw[lt_cons]
    have hv:32<=c.toNat∧c.toNat<=126:=by
     have:=h.1
     unfold okc at this
     simpa[c10] using this
    rw[if_neg (fun e=>c2 (.inl e)),if_neg (fun e=>c2 (.inr e)),if_pos hv,ih]
    rfl
theorem lt_sound: ∀(n:Nat)(s m r:List UInt8),s.length<=n->lt s=some (m,r)->m.all okc=true∧s=qs m++34::r:=by
 intro n
 induction n with
 |zero=>
  intro s m r hs h
  have:s=[]:=List.length_eq_zero_iff.1 (by omega)
  subst this
  cases h
 |succ n ih=>
  intro s m r hs h
  match s,hs,h with
  |[],hs,h=>cases h
  |c::s,hs,h=>
   rw[lt_cons] at h
   simp only[List.length_cons] at hs
   by_cases c34:c=34
   ·subst c34
    rw[if_pos rfl] at h
    cases h
    exact⟨rfl,rfl⟩
   rw[if_neg c34] at h
   by_cases c92:c=92
   ·subst c92
    rw[if_pos rfl] at h
    match s,hs,h with
    |[],hs,h=>cases h
    |d::s',hs,h=>
     simp only[List.length_cons] at hs
     by_cases hd:d=34∨d=92∨d=110
     ·simp only[hd,if_true] at h
      cases hl:lt s' with
      |none=>rw[hl] at h;cases h
      |some q=>
       obtain⟨m',r'⟩:=q
       rw[hl] at h
       simp only[Option.map_some,Option.some.injEq,Prod.mk.injEq] at h
       obtain⟨rfl,rfl⟩:=h
       obtain⟨a1,a2⟩:=ih s' m' r' (by omega) hl
       rw[a2]
       rcases hd with rfl|rfl|rfl
       ·exact⟨by rw[List.all_cons,a1];rfl,by rw[zHG];rfl⟩
       ·exact⟨by rw[List.all_cons,a1];rfl,by rw[zHG];rfl⟩
       ·exact⟨by rw[List.all_cons,a1];rfl,by rw[zHG];rfl⟩
     ·simp only[hd,if_false] at h;cases h
   ·rw[if_neg c92] at h
    by_cases hv:32<=c.toNat∧c.toNat<=126
    ·rw[if_pos hv] at h
     cases hl:lt s with
     |none=>rw[hl] at h;cases h
     |some q=>
      obtain⟨m',r'⟩:=q
      rw[hl] at h
      simp only[Option.map_some,Option.some.injEq,Prod.mk.injEq] at h
      obtain⟨rfl,rfl⟩:=h
      obtain⟨a1,a2⟩:=ih s m' r' (by omega) hl
      have c10: ¬c=10:=fun e=>by subst e;revert hv;decide
      have he:esc c=[c]:=by unfold esc;rw[if_neg c10,if_neg (by simp[c34,c92])]
      exact⟨by rw[List.all_cons,a1,okc];simp[hv],by rw[zHG,he,a2];rfl⟩
    ·rw[if_neg hv] at h;cases h
def cmt:Nat->List UInt8->Option (List UInt8)
 |_,[]=>none
 |_,[_]=>none
 |d,x::y::r=>if x=40∧y=42 then cmt (d+1) r else if x=42∧y=41 then (if d<=1 then some r else cmt (d-1) r) else cmt d (y::r)
theorem cmt_len: ∀(n d:Nat)(s r:List UInt8),s.length<=n->cmt d s=some r->r.length+2<=s.length:=by
 intro n
 induction n using Nat.strongRecOn with
 |_ n ih=>
 intro d s r hs h
 match s,hs,h with
 |[],hs,h=>simp[cmt] at h
 |[x],hs,h=>simp[cmt] at h
 |x::y::t,hs,h=>
  rw[cmt] at h
  simp only[List.length_cons] at hs ⊢
  split at h
  ·have:=ih (n-2) (by omega) _ t r (by omega) h;omega
  ·split at h
   ·split at h
    ·cases h;omega
    ·have:=ih (n-2) (by omega) _ t r (by omega) h;omega
   ·have:=ih (n-1) (by omega) _ (y::t) r (by simp;omega) h
    simp only[List.length_cons] at this;omega
def skp(s:List UInt8):Option (List UInt8):=
 match s with
 |[]=>some []
 |c::r=>if blank c=true then skp r else if pre (c::r) [40,42]=true then
  match h:cmt 1 (r.drop 1) with
  |none=>none
  |some r'=>skp r'
  else some (c::r)
termination_by s.length
decreasing_by
 ·simp
 ·have:=cmt_len _ _ _ _ (Nat.le_refl _) h
  simp at this ⊢;omega
theorem skp_nil:skp []=some []:=by rw[skp]
theorem zIE{c:UInt8}{r:List UInt8}(h:blank c=true):skp (c::r)=skp r:=by rw[skp,if_pos h]
theorem skp_cmt(r:List UInt8):skp (40::42::r)=(cmt 1 r).bind skp:=by
 rw[skp,if_neg (by decide),if_pos (by rw[pre2];exact⟨r,rfl⟩)]
 split<;>rename_i h<;>rw[show cmt 1 r=_ from h]<;>rfl
theorem zJy{c:UInt8}{r:List UInt8}(h:blank c=false)(h2:pre (c::r) [40,42]=false):skp (c::r)=some (c::r):=by rw[skp,if_neg (by simp[h]),if_neg (by simp[h2])]
def wd(s:List UInt8):Bool:=WORDS.any (fun w=>eqS s w)
def sy:List UInt8->List UInt8
 |[]=>[]
 |c::r=>if pre (c::r) [40,42]=true then [] else match SA.find? (pre (c::r)) with
  |some x=>x
  |none=>if 0<=Lib.indexByte SB c then [c] else []
def numE(x:List UInt8):Option Int:=zDE (x.length+1) x
theorem zKA(s:List UInt8): ∀(n i k k':Nat)(m:Int),i+n=s.length->n+1<=k->n+1<=k'->zA2 s k m i=zA2 s k' m i:=by
 intro n
 induction n with
 |zero=>
  intro i k k' m hi hk hk'
  obtain⟨g,rfl⟩: ∃g,k=g+1:=⟨k-1,by omega⟩
  obtain⟨g',rfl⟩: ∃g,k'=g+1:=⟨k'-1,by omega⟩
  rw[zA2,zA2,if_neg (show¬ltI (i:Int) (s.length:Int)=true from fun h=>by have:=ltT h;omega),if_neg (show¬ltI (i:Int) (s.length:Int)=true from fun h=>by have:=ltT h;omega)]
 |succ n ih=>
  intro i k k' m hi hk hk'
  obtain⟨g,rfl⟩: ∃g,k=g+1:=⟨k-1,by omega⟩
  obtain⟨g',rfl⟩: ∃g,k'=g+1:=⟨k'-1,by omega⟩
  rw[zA2,zA2]
  have e: ∀z,zA2 s g z (i+1)=zA2 s g' z (i+1):=fun z=>ih (i+1) g g' z (by omega) (by omega) (by omega)
  simp only[e]
theorem number_fuel{x:List UInt8}{fuel:Nat}(h:x.length+1<=fuel):zDE fuel x=numE x:=by
 unfold numE
 rw[zDE,zDE,zKA x x.length 0 fuel (x.length+1) 0 (by omega) h (Nat.le_refl _)]
def tk:List UInt8->Option (Int×List UInt8×List UInt8)
 |[]=>none
 |c::r=>
  if (smB c||caB c)=true then
   if 24<cw inB (c::r) 0 then none
   else some (if wd ((c::r).take (cw inB (c::r) 0))=true then 6 else if smB c=true then 1 else 2,(c::r).take (cw inB (c::r) 0),(c::r).drop (cw inB (c::r) 0))
  else if c=39 then
   match r with
   |[]=>none
   |d::r'=>if smB d=true then
    if 24<cw inB (d::r') 0+1 then none else some (3,(c::d::r').take (cw inB (d::r') 0+1),(c::d::r').drop (cw inB (d::r') 0+1))
    else none
  else if diB c=true then
   if numE ((c::r).take (cw diB (c::r) 0))=some 0 then some (4,(c::r).take (cw diB (c::r) 0),(c::r).drop (cw diB (c::r) 0)) else none
  else if c=34 then (lt r).map fun q=>(5,q.1,q.2)
  else if sy (c::r)=[] then none else some (7,sy (c::r),(c::r).drop (sy (c::r)).length)
theorem zIK(c:UInt8)(r:List UInt8){fuel:Nat}(hf:40<=fuel):zEi fuel (c::r)=some (sy (c::r),decide (sy (c::r)≠[]))∧(sy (c::r)).length<=(c::r).length∧(c::r).take (sy (c::r)).length=sy (c::r):=by
 rw[zEi,has_M,sy]
 simp only[zC2]
 cases h0:pre (c::r) [40,42]
 case true=>exact⟨rfl,by simp,rfl⟩
 simp only[Bool.false_eq_true,if_false]
 have hA:=Sym_loop (c::r) SA 4 0 fuel rfl (by omega)
 rw[List.drop_zero] at hA
 change ((zCR (c::r) SA fuel 0).bind _)=_∧_
 rw[hA]
 cases hfa:SA.find? (pre (c::r)) with
 |some x=>
  have hx:=List.find?_some hfa
  have hm:=List.mem_of_find?_eq_some hfa
  have hne:x≠[]:=by
   have: ∀x∈SA,x≠[]:=by decide
   exact this x hm
  have hxe:(c::r).take x.length=x:=of_decide_eq_true hx
  refine⟨by simp[hne],?_,hxe⟩
  have:=congrArg List.length hxe
  simp at this ⊢
  omega
 |none=>
  have hns:eqS (c::r) []=false:=decide_eq_false (by simp)
  simp only[zC2,Sum.elim_inr,hns,Bool.not_false,if_true,List.getElem?_cons_zero]
  have hI:zCb [40,41,44,59,58,61,124,95,46,42,43,45,60,94,126] c=some (Lib.indexByte SB c):=rfl
  rw[hI]
  simp only[zC2]
  by_cases h:0<=Lib.indexByte SB c
  ·rw[if_pos h,show leI 0 (Lib.indexByte SB c)=true from zqb h]
   have:=subT (c::r) 1 (by simp)
   simp only[if_true]
   rw[show subC (c::r) 0 1=_ from this]
   exact⟨by simp,by simp,rfl⟩
  ·rw[if_neg h,show leI 0 (Lib.indexByte SB c)=false from decide_eq_false h]
   exact⟨by simp,by simp,rfl⟩
def TKS(s:List UInt8)(a:Nat)(L:zKX×Int×Int×zKV):Prop:=
 (L.2.2.1=0∧∃N:Nat,1<=N∧a+N<=s.length∧tk (s.drop a)=some (L.1.Kind,L.1.Text,s.drop (a+N))∧L.2.2.2=zKV.mk s ((a+N:Nat):Int))∨
 (L.2.2.1≠0∧tk (s.drop a)=none∧∃P:Nat,a+P<=s.length∧L.2.1=((a+P:Nat):Int))
theorem zIN(s:List UInt8)(hs:s.length<=100000)(a:Nat)(ha:a<s.length){fuel:Nat}(hf:s.length+100<=fuel):
 ∃L,zC6 fuel (zKV.mk s (a:Int))=some L∧TKS s a L:=by
 have n3:(3:Int)≠0:=by decide
 have n5:(5:Int)≠0:=by decide
 have hlen:(s.drop a).length=s.length-a:=by simp
 have hdrop: ∀N,s.drop (a+N)=(s.drop a).drop N:=fun N=>by rw[List.drop_drop]
 unfold TKS
 simp only[hdrop]
 rw[zC6]
 dsimp only
 rw[subD s a (by omega)]
 simp only[zC2]
 have hTb:(s.drop a).length<=100000:=by omega
 have hTf:(s.drop a).length+1<=fuel:=by omega
 have hTp:1<=(s.drop a).length:=by omega
 generalize s.drop a=T at hlen hTb hTf hTp
 match T,hlen,hTb,hTf,hTp with
 |c::r,hlen,hTb,hTf,_=>
 have b13:(if smB c=true then some true else some (caB c))=some (smB c||caB c):=by cases smB c<;>rfl
 simp only[List.getElem?_cons_zero,zC2,small_M,capital_M,digit_M,b13]
 rw[tk.eq_def]
 dsimp only
 cases hsc:(smB c||caB c)
 case true=>
  have hp:=cw_pos (r:=r) (sm_in hsc)
  have hle:=(cw_le inB (c::r) 0 (by simp)).2
  rw[inner_len hTb hTf]
  simp only[if_true,zC2]
  generalize hN:cw inB (c::r) 0=N at hp hle
  rw[subT (c::r) N hle]
  simp only[zC2,Keyword_M]
  have tl:((c::r).take N).length=N:=by rw[List.length_take];omega
  cases hw:WORDS.any (fun w=>eqS ((c::r).take N) w)
  ·have hwd:wd ((c::r).take N)=false:=hw
   by_cases h24:24<N
   ·have h24':ltI 24 (N:Int)=true:=zqb (by omega)
    rw[t2_M 0 5 s a 0 rfl (by omega)]
    simp only[Bool.false_eq_true,if_false,h24',if_true,zC2,h24]
    exact⟨_,rfl,.inr ⟨n5,by first|rfl|trivial,0,by omega,rfl⟩⟩
   ·have h24':ltI 24 (N:Int)=false:=decide_eq_false (by omega)
    rw[t1_M 1 (N:Int) _ s a N rfl (by omega),t1_M 2 (N:Int) _ s a N rfl (by omega)]
    simp only[Bool.false_eq_true,if_false,h24',zC2,h24,hwd]
    cases smB c
    ·exact⟨_,rfl,.inl ⟨rfl,N,hp,by omega,by first|rfl|trivial,rfl⟩⟩
    ·exact⟨_,rfl,.inl ⟨rfl,N,hp,by omega,by first|rfl|trivial,rfl⟩⟩
  ·have hwd:wd ((c::r).take N)=true:=hw
   have hsh:=words_short hw
   rw[tl] at hsh
   have h24: ¬24<N:=by omega
   rw[t1_M 6 (N:Int) _ s a N rfl (by omega)]
   simp only[if_true,Bool.false_eq_true,if_false,zC2,h24,hwd]
   exact⟨_,rfl,.inl ⟨rfl,N,hp,by omega,by first|rfl|trivial,rfl⟩⟩
 simp only[Bool.false_eq_true,if_false,e39]
 by_cases c39:c=39
 ·rw[zqb c39]
  simp only[if_true]
  rw[if_pos c39]
  have hsub:subC (c::r) 1 ((c::r).length:Int)=some r:=by have:=subD (c::r) 1 (by simp);simpa using this
  rw[hsub]
  simp only[zC2]
  simp only[List.length_cons] at hlen hTb hTf
  match r,hlen,hTb,hTf with
  |[],hlen,hTb,hTf=>
   have h2:ltI (([c]:List UInt8).length:Int) 2=true:=zqb (by simp)
   rw[t2_M 0 3 s a 0 rfl (by omega)]
   simp only[h2,if_true,zC2]
   exact⟨_,rfl,.inr ⟨n3,by first|rfl|trivial,0,by omega,rfl⟩⟩
  |d::r',hlen,hTb,hTf=>
   simp only[List.length_cons] at hlen hTb hTf
   have h2:ltI ((c::d::r':List UInt8).length:Int) 2=false:=decide_eq_false (by simp;omega)
   simp only[h2,Bool.false_eq_true,if_false,List.getElem?_cons_succ,List.getElem?_cons_zero,zC2,small_M]
   cases hd:smB d
   ·rw[t2_M 0 3 s a 0 rfl (by omega)]
    simp only[Bool.not_false,if_true,zC2,Bool.false_eq_true,if_false]
    exact⟨_,rfl,.inr ⟨n3,by first|rfl|trivial,0,by omega,rfl⟩⟩
   ·have hin:inB d=true:=by unfold inB;rw[hd];rfl
    have hp:=cw_pos (r:=r') hin
    have hle:=(cw_le inB (d::r') 0 (by simp)).2
    simp only[if_true,Bool.false_eq_true,if_false,Bool.not_true,zC2]
    rw[inner_len (by simp;omega) (by simp;omega)]
    simp only[zC2]
    generalize cw inB (d::r') 0=N at hp hle
    simp only[List.length_cons] at hle
    have k1:chk .i64 (1+(N:Int))=some ((N+1:Nat):Int):=by rw[zI1 (by omega) (by omega)];congr 1;omega
    rw[k1]
    simp only[zC2]
    by_cases h24:24<N+1
    ·have h24':ltI 24 ((N+1:Nat):Int)=true:=zqb (by omega)
     rw[t2_M 0 5 s a 0 rfl (by omega)]
     simp only[h24',if_true,zC2,h24]
     exact⟨_,rfl,.inr ⟨n5,by first|rfl|trivial,0,by omega,rfl⟩⟩
    ·have h24':ltI 24 ((N+1:Nat):Int)=false:=decide_eq_false (by omega)
     rw[subT (c::d::r') (N+1) (by simp;omega)]
     simp only[h24',Bool.false_eq_true,if_false,zC2,h24]
     rw[t1_M 3 ((N+1:Nat):Int) _ s a (N+1) rfl (by omega)]
     exact⟨_,rfl,.inl ⟨rfl,N+1,by omega,by omega,by first|rfl|trivial,rfl⟩⟩
 rw[decide_eq_false c39]
 simp only[Bool.false_eq_true,if_false]
 rw[if_neg c39]
 cases hdi:diB c
 case true=>
  have hp:=cw_pos (r:=r) hdi
  have hle:=(cw_le diB (c::r) 0 (by simp)).2
  rw[digit_len hTb hTf]
  have hall:=take_all diB (c::r)
  simp only[if_true,zC2]
  generalize cw diB (c::r) 0=N at hp hle hall
  rw[subT (c::r) N hle]
  simp only[zC2]
  obtain⟨e,he⟩:=number_total ((c::r).take N) (fuel:=fuel) hall (by rw[List.length_take];omega)
  have hE:=he
  rw[number_fuel (by rw[List.length_take];omega)] at hE
  rw[he]
  simp only[zC2]
  by_cases e0:e=0
  ·have h0:eqI e 0=true:=zqb e0
   rw[h0,t1_M 4 (N:Int) _ s a N rfl (by omega),if_pos (show numE ((c::r).take N)=some 0 by rw[hE,e0])]
   exact⟨_,rfl,.inl ⟨rfl,N,hp,by omega,by first|rfl|trivial,rfl⟩⟩
  ·have h0:eqI e 0=false:=decide_eq_false e0
   rw[h0,t2_M 0 e s a 0 rfl (by omega),if_neg (show¬numE ((c::r).take N)=some 0 from fun h=>e0 (by rw[hE] at h;exact zqa h))]
   exact⟨_,rfl,.inr ⟨e0,by first|rfl|trivial,0,by omega,rfl⟩⟩
 simp only[Bool.false_eq_true,if_false,e34]
 by_cases c34:c=34
 ·subst c34
  simp only[decide_true,if_true,zC2]
  obtain⟨x,N,p,e,l1,l3,P,hP,hPl⟩:=literal_one (34::r) (fuel:=fuel) hTb (by simp) hTf
  obtain⟨v,v1,v2⟩:=literal_total (34::r) (fuel:=fuel) hTb hTf
  rw[l1] at v1
  cases v1
  rw[l1]
  simp only[zC2]
  by_cases e0:e=0
  ·obtain⟨m,rest,m1,m2,m3,m4⟩:=v2 e0
   simp only at m1 m4
   subst m1
   have m3':r=qs x++34::rest:=by simpa using m3
   have hlr:=congrArg List.length m3'
   simp only[List.length_append,List.length_cons] at hlr hlen
   have h0:eqI e 0=true:=zqb e0
   clear l3 v2
   rw[h0,t1_M 5 N x s a (1+(qs x).length+1) m4 (by omega)]
   have hlt:lt r=some (x,rest):=by rw[m3'];exact lt_qs rest x m2
   rw[hlt]
   refine⟨_,rfl,.inl ⟨rfl,1+(qs x).length+1,by omega,by omega,?_,rfl⟩⟩
   have hdr:(34::r).drop (1+(qs x).length+1)=rest:=by
    rw[show 1+(qs x).length+1=((qs x).length+1)+1 by omega,List.drop_succ_cons,m3',List.drop_append]
    simp
   rw[hdr]
   rfl
  ·have h0:eqI e 0=false:=decide_eq_false e0
   have hb:a+P<=1000000:=by clear l3 v2;omega
   have hb2:a+P<=s.length:=by clear l3 v2;omega
   rw[h0,t2_M p e s a P hP hb]
   refine⟨_,rfl,.inr ⟨e0,?_,P,hb2,rfl⟩⟩
   cases hl:lt r with
   |none=>rfl
   |some q=>
    obtain⟨m,rest⟩:=q
    obtain⟨a1,a2⟩:=lt_sound _ r m rest (Nat.le_refl _) hl
    have hlr:=congrArg List.length a2
    have hge:=qs_ge m
    simp only[List.length_append,List.length_cons] at hlr hlen hTb hTf
    have:=lit_complete (34::r) m a1 1 fuel [] rest (by simpa using a2) (by clear l3 v2;omega) (by simp;clear l3 v2;omega)
    rw[zDW,this] at l1
    simp only[zC2,Sum.elim_inl,Option.some.injEq,Prod.mk.injEq] at l1
    exact(e0 l1.2.2.2.symm).elim
 rw[decide_eq_false c34,if_neg c34]
 obtain⟨y1,y2,y3⟩:=zIK c r (fuel:=fuel) (by omega)
 rw[y1]
 generalize sy (c::r)=y at y2 y3
 simp only[Bool.false_eq_true,if_false,zC2]
 by_cases hy:y=[]
 ·subst hy
  have h1:decide (([]:List UInt8)≠[])=false:=by simp
  rw[h1,t2_M 0 3 s a 0 rfl (by omega)]
  exact⟨_,rfl,.inr ⟨n3,by first|rfl|trivial,0,by omega,rfl⟩⟩
 ·have h1:decide (y≠[])=true:=zqb hy
  have hyl:1<=y.length:=by
   cases y with
   |nil=>exact(hy rfl).elim
   |cons z y=>simp
  rw[h1,t1_M 7 (y.length:Int) y s a y.length rfl (by omega),if_neg hy]
  exact⟨_,rfl,.inl ⟨rfl,y.length,hyl,by omega,by first|rfl|trivial,rfl⟩⟩
theorem comment_spec(s:List UInt8)(hs:s.length<=100000)(w:zKV)(hw:w.s=s)(A:Int): ∀(n p k d:Nat)(X D:Int),X=p->D=d->s.length-p<=n->n+2<=k->1<=d->d<=p->p<=s.length->
 (zAd w A k X D=some (.inl (A,zKV.mk s s.length))∧cmt d (s.drop p)=none)∨
 (∃q:Nat,zAd w A k X D=some (.inr (q:Int))∧cmt d (s.drop p)=some (s.drop q)∧p<q∧q<=s.length):=by
 intro n
 induction n using Nat.strongRecOn with
 |_ n ih=>
 intro p k d X D hX hD hn hk hd hdp hp
 obtain⟨g,rfl⟩: ∃g,k=g+1:=⟨k-1,by omega⟩
 subst hX;subst hD
 have k3:chk .i64 ((d:Int)+1)=some ((d:Int)+1):=zI1 (by omega) (by omega)
 have k4:chk .i64 ((d:Int)-1)=some ((d:Int)-1):=zI1 (by omega) (by omega)
 have k5:chk .i64 ((p:Int)+1)=some ((p:Int)+1):=zI1 (by omega) (by omega)
 have k6:chk .i64 ((p:Int)+2)=some ((p:Int)+2):=zI1 (by omega) (by omega)
 rw[zAd,hw]
 by_cases hend:s.length<=p
 ·rw[if_pos (show leI (s.length:Int) (p:Int)=true from zqb (by omega)),List.drop_eq_nil_of_le hend]
  exact .inl ⟨by rw[show(p:Int)=(s.length:Int) by omega],by simp[cmt]⟩
 rw[if_neg (show¬leI (s.length:Int) (p:Int)=true from fun h=>by have:=leT h;omega),subD s p (by omega)]
 simp only[zC2,has_M]
 have hd1:s.drop (p+1)=(s.drop p).drop 1:=by rw[List.drop_drop]
 have hd2:s.drop (p+2)=(s.drop p).drop 2:=by rw[List.drop_drop]
 have hTl:(s.drop p).length=s.length-p:=by simp
 have go: ∀(b d':Nat),1<=b->b<=2->p+b<=s.length->1<=d'->d'<=p+b->∀(X' D':Int),X'=((p+b:Nat):Int)->D'=d'->
  (zAd w A g X' D'=some (.inl (A,zKV.mk s s.length))∧cmt d' (s.drop (p+b))=none)∨
  (∃q:Nat,zAd w A g X' D'=some (.inr (q:Int))∧cmt d' (s.drop (p+b))=some (s.drop q)∧p<q∧q<=s.length):=fun b d' hb1 hb2 hbl h1 h2 X' D' hX' hD'=>by
  rcases ih (n-b) (by omega) (p+b) g d' X' D' hX' hD' (by omega) (by omega) h1 h2 hbl with h|⟨q,m1,m2,m3,m4⟩
  ·exact .inl h
  ·exact .inr ⟨q,m1,m2,by omega,m4⟩
 generalize hT:s.drop p=T at hTl hd1 hd2
 match T,hTl,hd1,hd2 with
 |[],hTl,_,_=>simp at hTl;omega
 |[x],hTl,hd1,hd2=>
  have h1:pre [x] [40,42]=false:=decide_eq_false (by simp)
  have h2:pre [x] [42,41]=false:=decide_eq_false (by simp)
  rw[h1]
  simp only[Bool.false_eq_true,if_false,h2]
  simp at hTl
  rw[k5]
  simp only[zC2]
  rw[if_neg (show¬eqI (d:Int) 0=true from fun h=>by have:=eqT h;omega)]
  obtain⟨g2,hg2⟩: ∃g2,g=g2+1:=⟨g-1,by omega⟩
  rw[hg2,zAd,hw,if_pos (show leI (s.length:Int) _=true from zqb (by omega))]
  exact .inl ⟨by rw[show((p:Int)+1)=(s.length:Int) by omega],by simp[cmt]⟩
 |x::y::r,hTl,hd1,hd2=>
  simp only[List.length_cons] at hTl
  simp only[List.drop_succ_cons,List.drop_zero] at hd1 hd2
  have q40:pre (x::y::r) [40,42]=(decide (x=40)&&decide (y=42)):=by unfold pre;simp[Bool.decide_and]
  have q42:pre (x::y::r) [42,41]=(decide (x=42)&&decide (y=41)):=by unfold pre;simp[Bool.decide_and]
  simp only[q40,q42]
  rw[cmt]
  by_cases ho:x=40∧y=42
  ·rw[zqb ho.1,zqb ho.2,if_pos ho]
   simp only[Bool.and_self,if_true,zC2,k3,k6]
   rw[if_neg (show¬eqI ((d:Int)+1) 0=true from fun h=>by have:=eqT h;omega)]
   have:=go 2 (d+1) (by omega) (by omega) (by omega) (by omega) (by omega) ((p:Int)+2) ((d:Int)+1) (by omega) (by omega)
   rw[hd2] at this
   exact this
  have hno:(decide (x=40)&&decide (y=42))=false:=by
   cases h:(decide (x=40)&&decide (y=42))
   ·rfl
   ·simp at h;exact(ho h).elim
  rw[hno,if_neg ho]
  simp only[zC2,Bool.false_eq_true,if_false]
  by_cases hc:x=42∧y=41
  ·rw[zqb hc.1,zqb hc.2,if_pos hc]
   simp only[Bool.and_self,if_true,zC2,k4,k6]
   by_cases hz:d=1
   ·have hz':eqI ((d:Int)-1) 0=true:=zqb (by omega)
    rw[hz',if_pos (show d<=1 by omega)]
    simp only[if_true]
    exact .inr ⟨p+2,by rw[show((p:Int)+2)=((p+2:Nat):Int) by omega],by rw[hd2],by omega,by omega⟩
   ·have hz':eqI ((d:Int)-1) 0=false:=decide_eq_false (by omega)
    rw[hz',if_neg (show¬d<=1 by omega)]
    simp only[Bool.false_eq_true,if_false]
    have:=go 2 (d-1) (by omega) (by omega) (by omega) (by omega) (by omega) ((p:Int)+2) ((d:Int)-1) (by omega) (by omega)
    rw[hd2] at this
    exact this
  ·have hnc:(decide (x=42)&&decide (y=41))=false:=by
    cases h:(decide (x=42)&&decide (y=41))
    ·rfl
    ·simp at h;exact(hc h).elim
   rw[hnc,if_neg hc]
   simp only[zC2,Bool.false_eq_true,if_false,k5]
   rw[if_neg (show¬eqI (d:Int) 0=true from fun h=>by have:=eqT h;omega)]
   have:=go 1 d (by omega) (by omega) (by omega) (by omega) (by omega) ((p:Int)+1) (d:Int) (by omega) rfl
   rw[hd1] at this
   exact this
theorem skip_loop(s:List UInt8)(hs:s.length<=100000)(w:zKV)(hw:w.s=s){fuel:Nat}(hf:s.length+10<=fuel): ∀(n i k:Nat)(I:Int),I=i->s.length-i<=n->n+1<=k->i<=s.length->
 ∃v,(zBP fuel w k I).bind (fun o=>Sum.elim some (fun o3=>some ((-1:Int),(zKV.mk w.s o3))) o)=some v∧
  ((∃m:Nat,i<=m∧m<=s.length∧v=(-1,zKV.mk s (m:Int))∧skp (s.drop i)=some (s.drop m))∨(∃m:Nat,m<=s.length∧v.1=(m:Int)∧skp (s.drop i)=none)):=by
 subst hw
 intro n
 induction n using Nat.strongRecOn with
 |_ n ih=>
 intro i k I hI hn hk hi
 obtain⟨g,rfl⟩: ∃g,k=g+1:=⟨k-1,by omega⟩
 subst hI
 rw[zBP]
 by_cases hend:w.s.length<=i
 ·rw[if_neg (show¬ltI (i:Int) (w.s.length:Int)=true from fun h=>by have:=ltT h;omega)]
  refine⟨_,rfl,.inl ⟨i,Nat.le_refl _,hi,rfl,?_⟩⟩
  rw[List.drop_eq_nil_of_le hend,skp_nil]
 have hx:w.s[i]? =some w.s[i]:=zq2 (by omega)
 have hd:w.s.drop i=w.s[i]::w.s.drop (i+1):=List.drop_eq_getElem_cons (by omega)
 generalize w.s[i]=c at hx hd
 have k1:chk .i64 ((i:Int)+1)=some ((i:Int)+1):=zI1 (by omega) (by omega)
 have k2:chk .i64 ((i:Int)+2)=some ((i:Int)+2):=zI1 (by omega) (by omega)
 rw[if_pos (show ltI (i:Int) (w.s.length:Int)=true from zqb (by omega)),subD w.s i (by omega)]
 have h0:(w.s.drop i)[0]? =some c:=by rw[hd];rfl
 simp only[zC2,h0,blank_L,blank_I]
 cases hb:blank c
 case true=>
  simp only[if_true,k1,zC2]
  rw[hd,zIE hb]
  obtain⟨v,v1,v2⟩:=ih (n-1) (by omega) (i+1) g ((i:Int)+1) (by omega) (by omega) (by omega) (by omega)
  refine⟨v,v1,?_⟩
  rcases v2 with ⟨m,m1,m2,m3,m4⟩|⟨m,m1,m2,m3⟩
  ·exact .inl ⟨m,by omega,m2,m3,m4⟩
  ·exact .inr ⟨m,m1,m2,m3⟩
 simp only[Bool.false_eq_true,if_false,has_M]
 cases hp:pre (w.s.drop i) [40,42]
 ·rw[hd] at hp ⊢
  exact⟨_,rfl,.inl ⟨i,Nat.le_refl _,hi,rfl,by rw[zJy hb hp,hd]⟩⟩
 simp only[if_true,zC2]
 obtain⟨r,hr⟩:=(pre2 _ _ _).1 hp
 have hrl:=congrArg List.length hr
 simp only[List.length_drop,List.length_cons] at hrl
 have hr2:w.s.drop (i+2)=r:=by rw[<-List.drop_drop,hr];rfl
 obtain⟨f2,rfl⟩: ∃f2,fuel=f2+1:=⟨fuel-1,by omega⟩
 have first:zAd w (i:Int) (f2+1) (i:Int) 0=zAd w (i:Int) f2 ((i:Int)+2) 1:=by
  rw[zAd,if_neg (show¬leI (w.s.length:Int) (i:Int)=true from fun h=>by have:=leT h;omega),subD w.s i (by omega)]
  simp only[zC2,has_M,hp,if_true]
  rw[show chk .i64 (0+1)=some 1 from rfl,k2]
  simp only[zC2]
  rw[if_neg (show¬eqI 1 0=true by decide)]
 rw[first,hr,skp_cmt]
 rcases comment_spec w.s hs w rfl (i:Int) (w.s.length-(i+2)) (i+2) f2 1 ((i:Int)+2) 1 (by omega) rfl (Nat.le_refl _) (by omega) (Nat.le_refl _) (by omega) (by omega) with ⟨l1,l2⟩|⟨q,l1,l2,l3,l4⟩
 ·rw[hr2] at l2
  rw[l1,l2]
  exact⟨_,rfl,.inr ⟨i,hi,rfl,rfl⟩⟩
 ·rw[hr2] at l2
  rw[l1,l2]
  simp only[zC2,Sum.elim_inr]
  obtain⟨v,v1,v2⟩:=ih (n-1) (by omega) q g (q:Int) rfl (by omega) (by omega) (by omega)
  refine⟨v,v1,?_⟩
  rcases v2 with ⟨m,m1,m2,m3,m4⟩|⟨m,m1,m2,m3⟩
  ·exact .inl ⟨m,by omega,m2,m3,m4⟩
  ·exact .inr ⟨m,m1,m2,m3⟩
theorem skip_spec(s:List UInt8)(hs:s.length<=100000)(a:Nat)(ha:a<=s.length){fuel:Nat}(hf:s.length+10<=fuel):
 ∃v,zCS fuel (zKV.mk s (a:Int))=some v∧
  ((∃m:Nat,a<=m∧m<=s.length∧v=(-1,zKV.mk s (m:Int))∧skp (s.drop a)=some (s.drop m))∨(∃m:Nat,m<=s.length∧v.1=(m:Int)∧skp (s.drop a)=none)):=by
 rw[zCS]
 exact skip_loop s hs (zKV.mk s (a:Int)) rfl hf s.length a fuel (a:Int) rfl (by omega) (by omega) ha
inductive Toks:List UInt8->List (Int×List UInt8×List UInt8)->Prop where
 |done {s:List UInt8} (h:skp s=some []):Toks s [(8,[],[])]
 |next {s s' r x:List UInt8} {k:Int} {l:List (Int×List UInt8×List UInt8)} (h:skp s=some s') (h1:s'≠[]) (h2:tk s'=some (k,x,r)) (h3:Toks r l):Toks s ((k,x,s')::l)
theorem Toks.inj{s:List UInt8}{l l':List (Int×List UInt8×List UInt8)}(h:Toks s l):Toks s l'->l=l':=by
 induction h generalizing l' with
 |done h=>
  intro h'
  cases h' with
  |done _=>rfl
  |next g g1 g2 g3=>rw[h] at g;cases g;exact(g1 rfl).elim
 |next h h1 h2 h3 ih=>
  intro h'
  cases h' with
  |done g=>rw[h] at g;cases g;exact(h1 rfl).elim
  |next g g1 g2 g3=>
   rw[h] at g;cases g
   rw[h2] at g2;cases g2
   rw[ih g3]
def tokOf(s:List UInt8)(q:Int×List UInt8×List UInt8):zKX:=zKX.mk q.1 q.2.1 (PL s (s.length-q.2.2.length))
theorem tokens_loop(s:List UInt8)(hs:s.length<=16384){fuel:Nat}(hf:s.length+100<=fuel): ∀(n a k:Nat)(out:List zKX),s.length-a<=n->n+1<=k->a<=s.length->out.length<=a->
 ∃r,zC1 fuel s k s (a:Int) out=some r∧
  ((r.2.2=0∧∃l,Toks (s.drop a) l∧r.1=out++l.map (tokOf s))∨(r.2.2≠0∧r.1=[]∧(∀l,¬Toks (s.drop a) l)∧∃i,i<=s.length∧r.2.1=PL s i)):=by
 intro n
 induction n using Nat.strongRecOn with
 |_ n ih=>
 intro a k out hn hk ha ho
 obtain⟨g,rfl⟩: ∃g,k=g+1:=⟨k-1,by omega⟩
 rw[zC1]
 have happ: ∀t:zKX,app 40 out [t]=some (out++[t]):=fun t=>app_some (by decide) (by simp;omega)
 obtain⟨v,s1,hv⟩:=skip_spec s (by omega) a ha (fuel:=fuel) (by omega)
 rw[s1]
 simp only[zC2]
 rcases hv with ⟨m,m1,m2,rfl,m4⟩|⟨m,m1,m2,m3⟩
 ·have hm1:leI 0 (-1)=false:=rfl
  simp only[hm1,Bool.false_eq_true,if_false]
  by_cases hend:s.length<=m
  ·have h1:leI (s.length:Int) (m:Int)=true:=zqb (by omega)
   rw[h1,place_M s s.length (by omega) (by omega) (by omega)]
   simp only[if_true,zC2,happ]
   refine⟨_,rfl,.inl ⟨rfl,[(8,[],[])],.done ?_,?_⟩⟩
   ·rw[m4,List.drop_eq_nil_of_le hend]
   ·simp[tokOf]
  have h1:leI (s.length:Int) (m:Int)=false:=decide_eq_false (by omega)
  rw[h1]
  simp only[Bool.false_eq_true,if_false]
  have h3:eqI (out.length:Int) 20000=false:=decide_eq_false (by omega)
  rw[h3]
  simp only[Bool.false_eq_true,if_false]
  have hne:s.drop m≠[]:=fun e=>by have:=congrArg List.length e;simp at this;omega
  obtain⟨L,l1,ht⟩:=zIN s (by omega) m (by omega) (fuel:=fuel) (by omega)
  rw[l1]
  simp only[zC2]
  rcases ht with ⟨t1,N,t5,t6,t7,t8⟩|⟨t1,t2,P,t4,t5⟩
  ·have h4:eqI L.2.2.1 0=true:=zqb t1
   rw[h4,t8,place_M s m (by omega) (by omega) (by omega)]
   simp only[Bool.not_true,Bool.false_eq_true,if_false,zC2,happ]
   obtain⟨r,r1,r2⟩:=ih (n-1) (by omega) (m+N) g (out++[zKX.mk L.1.Kind L.1.Text (PL s m)]) (by omega) (by omega) (by omega) (by simp;omega)
   refine⟨r,r1,?_⟩
   rcases r2 with ⟨e0,l,q1,q2⟩|⟨e0,q0,q1,q2⟩
   ·refine .inl ⟨e0,(L.1.Kind,L.1.Text,s.drop m)::l,.next m4 hne t7 q1,?_⟩
    rw[q2]
    have:s.length-(s.length-m)=m:=by omega
    simp[tokOf,this]
   ·refine .inr ⟨e0,q0,fun l hl=>?_,q2⟩
    cases hl with
    |done g=>rw[m4] at g;exact hne (zqa g)
    |next g g1 g2 g3=>
     rw[m4] at g;cases g
     rw[t7] at g2;cases g2
     exact q1 _ g3
  ·have h4:eqI L.2.2.1 0=false:=decide_eq_false t1
   rw[h4,t5]
   simp only[Bool.not_false,if_true,zC2]
   rw[place_M s (m+P) (by omega) (by omega) (by omega)]
   refine⟨_,rfl,.inr ⟨t1,rfl,fun l hl=>?_,m+P,t4,rfl⟩⟩
   cases hl with
   |done g=>rw[m4] at g;exact hne (zqa g)
   |next g g1 g2 g3=>
    rw[m4] at g;cases g
    rw[t2] at g2;cases g2
 ·have hm1:leI 0 v.1=true:=zqb (by omega)
  simp only[hm1,if_true]
  rw[m2,place_M s m (by omega) (by omega) (by omega)]
  refine⟨_,rfl,.inr ⟨(show(4:Int)≠0 by decide),rfl,fun l hl=>?_,m,m1,rfl⟩⟩
  cases hl with
  |done g=>rw[m3] at g;cases g
  |next g g1 g2 g3=>rw[m3] at g;cases g
theorem tokens_spec(s:List UInt8)(hs:s.length<=16384){fuel:Nat}(hf:s.length+100<=fuel):
 ∃r,zDe fuel s=some r∧((r.2.2=0∧∃l,Toks s l∧r.1=l.map (tokOf s))∨(r.2.2≠0∧r.1=[]∧(∀l,¬Toks s l)∧∃i,i<=s.length∧r.2.1=PL s i)):=by
 rw[zDe,if_neg (show¬ltI 16384 (s.length:Int)=true from fun h'=>by have:=ltT h';omega)]
 have:=tokens_loop s hs hf s.length 0 fuel [] (by omega) (by omega) (by omega) (by simp)
 rw[List.drop_zero] at this
 exact this
theorem tk_len{s x r:List UInt8}{k:Int}(hs:s.length<=100000)(h:tk s=some (k,x,r)):r.length+1<=s.length:=by
 cases s with
 |nil=>simp[tk] at h
 |cons c t=>
  obtain⟨L,l1,l2⟩:=zIN (c::t) hs 0 (by simp) (fuel:=(c::t).length+100) (Nat.le_refl _)
  rcases l2 with ⟨_,N,n1,n2,n3,_⟩|⟨_,n1,_⟩
  ·rw[List.drop_zero,h] at n3
   simp only[Option.some.injEq,Prod.mk.injEq] at n3
   rw[n3.2.2,List.length_drop]
   omega
  ·rw[List.drop_zero,h] at n1;cases n1
theorem skp_len{s s':List UInt8}(hs:s.length<=100000)(h:skp s=some s'):s'.length<=s.length:=by
 obtain⟨v,_,hv⟩:=skip_spec s hs 0 (by omega) (fuel:=s.length+10) (Nat.le_refl _)
 rcases hv with ⟨m,m1,m2,_,m4⟩|⟨m,m1,_,m3⟩
 ·rw[List.drop_zero,h] at m4
  rw[zqa m4,List.length_drop]
  omega
 ·rw[List.drop_zero,h] at m3;cases m3
theorem Toks.len{s:List UInt8}{l:List (Int×List UInt8×List UInt8)}(hs:s.length<=100000)(h:Toks s l):l.length<=s.length+1:=by
 induction h with
 |done h=>simp
 |next h h1 h2 h3 ih=>
  have a1:=skp_len hs h
  have a2:=tk_len (by omega) h2
  have:=ih (by omega)
  simp only[List.length_cons]
  omega
def bd:List UInt8->Prop
 |[]=>True
 |c::_=>c=32∨c=9∨c=10∨c=40∨c=41
theorem bd_inB{u:List UInt8}(h:bd u): ∀c r,u=c::r->inB c=false∧diB c=false:=by
 rintro c r rfl
 rcases h with rfl|rfl|rfl|rfl|rfl<;>exact⟨rfl,rfl⟩
theorem cw_ext(p:UInt8->Bool)(s u:List UInt8)(h: ∀c r,u=c::r->p c=false):cw p (s++u) 0=cw p s 0:=by
 unfold cw
 simp only[List.drop_zero,Nat.zero_add]
 induction s with
 |nil=>
  cases u with
  |nil=>rfl
  |cons c r=>simp[h c r rfl]
 |cons c s ih=>
  rw[List.cons_append,List.takeWhile_cons,List.takeWhile_cons]
  split
  ·simp[ih]
  ·rfl
theorem cmt_ext(u:List UInt8): ∀(n d:Nat)(s r:List UInt8),s.length<=n->cmt d s=some r->cmt d (s++u)=some (r++u):=by
 intro n
 induction n using Nat.strongRecOn with
 |_ n ih=>
 intro d s r hs h
 match s,hs,h with
 |[],hs,h=>simp[cmt] at h
 |[x],hs,h=>simp[cmt] at h
 |x::y::t,hs,h=>
  rw[cmt] at h
  simp only[List.length_cons] at hs
  show cmt d (x::y::(t++u))=_
  rw[cmt]
  by_cases h1:x=40∧y=42
  ·rw[if_pos h1] at h ⊢
   exact ih (n-2) (by omega) _ t r (by omega) h
  ·rw[if_neg h1] at h ⊢
   by_cases h2:x=42∧y=41
   ·rw[if_pos h2] at h ⊢
    by_cases h3:d<=1
    ·rw[if_pos h3] at h ⊢
     cases h;rfl
    ·rw[if_neg h3] at h ⊢
     exact ih (n-2) (by omega) _ t r (by omega) h
   ·rw[if_neg h2] at h ⊢
    exact ih (n-1) (by omega) _ (y::t) r (by simp;omega) h
theorem zJT(c:UInt8)(r u:List UInt8)(x y:UInt8)(h:bd u)(hy: ¬(y=32∨y=9∨y=10∨y=40∨y=41)):pre (c::r++u) [x,y]=pre (c::r) [x,y]:=by
 cases r with
 |cons d r=>unfold pre;simp
 |nil=>
  have h1:pre [c] [x,y]=false:=decide_eq_false (by simp)
  rw[h1]
  cases u with
  |nil=>exact h1
  |cons e u=>
   refine decide_eq_false ?_
   simp
   rintro _ rfl
   exact hy h
theorem sy_ext(c:UInt8)(r u:List UInt8)(h:bd u):sy (c::r++u)=sy (c::r):=by
 show sy (c::(r++u))=_
 rw[sy,sy]
 have e:pre (c::(r++u)) [40,42]=pre (c::r) [40,42]:=zJT c r u 40 42 h (by decide)
 have e1:pre (c::(r++u)) [58,62]=pre (c::r) [58,62]:=zJT c r u 58 62 h (by decide)
 have e2:pre (c::(r++u)) [61,62]=pre (c::r) [61,62]:=zJT c r u 61 62 h (by decide)
 have e3:pre (c::(r++u)) [45,62]=pre (c::r) [45,62]:=zJT c r u 45 62 h (by decide)
 have e4:pre (c::(r++u)) [60,61]=pre (c::r) [60,61]:=zJT c r u 60 61 h (by decide)
 have e5:SA.find? (pre (c::(r++u)))=SA.find? (pre (c::r)):=by
  simp only[SA,List.find?_cons,e1,e2,e3,e4,List.find?_nil]
 rw[e,e5]
theorem tk_ext{s:List UInt8}{k:Int}{x r:List UInt8}(u:List UInt8)(hu:bd u)(h:tk s=some (k,x,r)):tk (s++u)=some (k,x,r++u):=by
 match s,h with
 |[],h=>simp[tk] at h
 |c::t,h=>
  have fin: ∀(p:UInt8->Bool),(∀c r,u=c::r->p c=false)->cw p (c::(t++u)) 0=cw p (c::t) 0:=fun p hp=>by
   have:=cw_ext p (c::t) u hp
   rwa [List.cons_append] at this
  have tkd: ∀N,N<=(c::t).length->(c::(t++u)).take N=(c::t).take N∧(c::(t++u)).drop N=(c::t).drop N++u:=fun N hN=>by
   rw[<-List.cons_append]
   exact⟨List.take_append_of_le_length hN,List.drop_append_of_le_length hN⟩
  rw[List.cons_append,tk.eq_def]
  rw[tk.eq_def] at h
  dsimp only at h ⊢
  by_cases h1:(smB c||caB c)=true
  ·rw[if_pos h1] at h ⊢
   have hle:=(cw_le inB (c::t) 0 (by simp)).2
   rw[fin inB (fun c r e=>(bd_inB hu c r e).1),(tkd _ hle).1,(tkd _ hle).2]
   by_cases h2:24<cw inB (c::t) 0
   ·rw[if_pos h2] at h;cases h
   ·rw[if_neg h2] at h ⊢;cases h;rfl
  rw[if_neg h1] at h ⊢
  by_cases h2:c=39
  ·rw[if_pos h2] at h ⊢
   match t,h,tkd with
   |[],h,_=>cases h
   |d::t,h,tkd=>
    dsimp only[List.cons_append] at h tkd ⊢
    have fin2:cw inB (d::(t++u)) 0=cw inB (d::t) 0:=by
     have:=cw_ext inB (d::t) u (fun c r e=>(bd_inB hu c r e).1)
     rwa [List.cons_append] at this
    rw[fin2]
    by_cases h3:smB d=true
    ·rw[if_pos h3] at h ⊢
     have hle:=(cw_le inB (d::t) 0 (by simp)).2
     have hle':cw inB (d::t) 0+1<=(c::d::t).length:=by simp at hle ⊢;omega
     rw[(tkd _ hle').1,(tkd _ hle').2]
     by_cases h4:24<cw inB (d::t) 0+1
     ·rw[if_pos h4] at h;cases h
     ·rw[if_neg h4] at h ⊢;cases h;rfl
    ·rw[if_neg h3] at h;cases h
  rw[if_neg h2] at h ⊢
  by_cases h3:diB c=true
  ·rw[if_pos h3] at h ⊢
   have hle:=(cw_le diB (c::t) 0 (by simp)).2
   rw[fin diB (fun c r e=>(bd_inB hu c r e).2),(tkd _ hle).1,(tkd _ hle).2]
   split at h
   ·rename_i h4
    rw[if_pos h4];cases h;rfl
   ·cases h
  rw[if_neg h3] at h ⊢
  by_cases h4:c=34
  ·rw[if_pos h4] at h ⊢
   cases hl:lt t with
   |none=>rw[hl] at h;cases h
   |some q=>
    obtain⟨m,rest⟩:=q
    rw[hl] at h
    cases h
    obtain⟨a1,a2⟩:=lt_sound _ t _ _ (Nat.le_refl _) hl
    have:lt (t++u)=some (m,rest++u):=by
     rw[a2,List.append_assoc]
     exact lt_qs (rest++u) m a1
    rw[this];rfl
  rw[if_neg h4] at h ⊢
  have hsy:=sy_ext c t u hu
  rw[List.cons_append] at hsy
  rw[hsy]
  have hle:=(zIK c t (fuel:=40) (Nat.le_refl _)).2.1
  rw[(tkd _ hle).2]
  split at h
  ·cases h
  ·rename_i h5;rw[if_neg h5];cases h;rfl
theorem skp_ext(u:List UInt8)(hu:bd u): ∀(n:Nat)(s s':List UInt8),s.length<=n->skp s=some s'->skp (s++u)=if s'=[] then skp u else some (s'++u):=by
 intro n
 induction n using Nat.strongRecOn with
 |_ n ih=>
 intro s s' hs h
 match s,hs,h with
 |[],hs,h=>rw[skp_nil] at h;cases h;rfl
 |c::t,hs,h=>
  simp only[List.length_cons] at hs
  cases hb:blank c
  case true=>
   rw[zIE hb] at h
   rw[List.cons_append,zIE hb]
   exact ih (n-1) (by omega) t s' (by omega) h
  cases hp:pre (c::t) [40,42]
  case true=>
   obtain⟨r,hr⟩:=(pre2 _ _ _).1 hp
   rw[hr] at h ⊢
   have hrl:=congrArg List.length hr
   simp only[List.length_cons] at hrl
   rw[skp_cmt] at h
   rw[List.cons_append,List.cons_append,skp_cmt]
   cases hc:cmt 1 r with
   |none=>rw[hc] at h;cases h
   |some r'=>
    rw[hc,zC2] at h
    rw[cmt_ext u _ 1 r r' (Nat.le_refl _) hc,zC2]
    have:=cmt_len _ _ _ _ (Nat.le_refl _) hc
    exact ih (n-1) (by omega) r' s' (by omega) h
  ·rw[zJy hb hp] at h
   cases h
   rw[if_neg (by simp)]
   have:=zJT c t u 40 42 hu (by decide)
   rw[hp] at this
   rw[List.cons_append] at this ⊢
   exact zJy hb this
theorem Toks.ext{s:List UInt8}{l:List (Int×List UInt8×List UInt8)}(u:List UInt8)(hu:bd u){lu:List (Int×List UInt8×List UInt8)}(h2:Toks u lu)(h:Toks s l):
 Toks (s++u) (l.dropLast.map (fun q=>(q.1,q.2.1,q.2.2++u))++lu):=by
 induction h with
 |@done s h=>
  have e:=skp_ext u hu _ s [] (Nat.le_refl _) h
  rw[if_pos rfl] at e
  simp only[List.dropLast_singleton,List.map_nil,List.nil_append]
  cases h2 with
  |done g=>exact .done (e.trans g)
  |next g g1 g2 g3=>exact .next (e.trans g) g1 g2 g3
 |@next s s' r x k l h h1 hk h3 ih=>
  have e:=skp_ext u hu _ s s' (Nat.le_refl _) h
  rw[if_neg h1] at e
  have hl:l≠[]:=by cases h3<;>simp
  rw[List.dropLast_cons_of_ne_nil hl,List.map_cons,List.cons_append]
  exact .next e (by simp[h1]) (tk_ext u hu hk) ih
theorem Toks.skip{u t:List UInt8}{l:List (Int×List UInt8×List UInt8)}(h:skp u=skp t)(h2:Toks t l):Toks u l:=by
 cases h2 with
 |done g=>exact .done (h.trans g)
 |next g g1 g2 g3=>exact .next (h.trans g) g1 g2 g3
theorem sy_first{c:UInt8}{r:List UInt8}(h:sy (c::r)≠[]):(smB c||caB c)=false∧c≠39∧diB c=false∧c≠34∧blank c=false:=by
 have key: ∀d∈([58,61,45,60]++SB:List UInt8),(smB d||caB d)=false∧d≠39∧diB d=false∧d≠34∧blank d=false:=by decide
 refine key c ?_
 rw[sy] at h
 split at h
 ·exact(h rfl).elim
 split at h
 ·rename_i x hx
  have h1:=List.find?_some hx
  have h2:=List.mem_of_find?_eq_some hx
  simp only[SA,List.mem_cons,List.not_mem_nil,or_false] at h2
  rcases h2 with rfl|rfl|rfl|rfl<;>obtain⟨q,hq⟩:=(pre2 _ _ _).1 h1<;>cases hq<;>simp
 ·split at h
  ·rename_i h3
   have:c∈SB:=by
    refine Classical.byContradiction fun hn=>?_
    have hno: ∀l:List UInt8,c∉l->Lib.indexByte l c= -1:=by
     intro l
     induction l with
     |nil=>intro _;rfl
     |cons b l ih=>
      intro hb
      have hb1: ¬b=c:=fun e=>hb (by rw[e];exact zq9 ..)
      have hb2:c∉l:=fun e=>hb (zqc _ e)
      simp[Lib.indexByte,hb1,ih hb2]
    have:=hno SB hn
    omega
   exact List.mem_append_right _ this
  ·exact(h rfl).elim
theorem tk_cases{s x r:List UInt8}{k:Int}(h:tk s=some (k,x,r)):(k=1∨k=2∨k=3∨k=4∨k=5∨k=6∨k=7)∧(k≠5->s=x++r)∧s≠[]∧skp s=some s∧(k=7->sy s=x):=by
 match s,h with
 |[],h=>simp[tk] at h
 |c::t,h=>
  have hsk:blank c=false->pre (c::t) [40,42]=false->skp (c::t)=some (c::t):=zJy
  have hp:c≠40->pre (c::t) [40,42]=false:=fun hc=>by
   cases hh:pre (c::t) [40,42]
   ·rfl
   ·obtain⟨q,hq⟩:=(pre2 _ _ _).1 hh
    cases hq;exact(hc rfl).elim
  have bl: ∀c:UInt8,blank c=true->c=32∨c=9∨c=10:=fun c h=>by
   unfold blank at h
   simpa using h
  rw[tk.eq_def] at h
  dsimp only at h
  by_cases h1:(smB c||caB c)=true
  ·rw[if_pos h1] at h
   have n40:c≠40:=fun e=>by subst e;revert h1;decide
   have nb:blank c=false:=by
    cases hb:blank c
    ·rfl
    ·rcases bl c hb with rfl|rfl|rfl<;>(revert h1;decide)
   split at h
   ·cases h
   ·simp only[Option.some.injEq,Prod.mk.injEq] at h
    obtain⟨rfl,rfl,rfl⟩:=h
    refine⟨?_,fun _=>(List.take_append_drop _ _).symm,by simp,hsk nb (hp n40),fun e=>?_⟩
    ·split
     ·simp
     ·split<;>simp
    ·split at e
     ·omega
     ·split at e<;>omega
  rw[if_neg h1] at h
  by_cases h2:c=39
  ·subst h2
   rw[if_pos rfl] at h
   have n40:(39:UInt8)≠40:=by decide
   split at h
   ·cases h
   ·split at h
    ·split at h
     ·cases h
     ·simp only[Option.some.injEq,Prod.mk.injEq] at h
      obtain⟨rfl,rfl,rfl⟩:=h
      exact⟨by simp,fun _=>(List.take_append_drop _ _).symm,by simp,hsk rfl (hp n40),fun e=>by omega⟩
    ·cases h
  rw[if_neg h2] at h
  by_cases h3:diB c=true
  ·rw[if_pos h3] at h
   have n40:c≠40:=fun e=>by subst e;revert h3;decide
   have nb:blank c=false:=by
    cases hb:blank c
    ·rfl
    ·rcases bl c hb with rfl|rfl|rfl<;>(revert h3;decide)
   split at h
   ·simp only[Option.some.injEq,Prod.mk.injEq] at h
    obtain⟨rfl,rfl,rfl⟩:=h
    exact⟨by simp,fun _=>(List.take_append_drop _ _).symm,by simp,hsk nb (hp n40),fun e=>by omega⟩
   ·cases h
  rw[if_neg h3] at h
  by_cases h4:c=34
  ·subst h4
   rw[if_pos rfl] at h
   cases hl:lt t with
   |none=>rw[hl] at h;cases h
   |some q=>
    rw[hl] at h
    simp only[Option.map_some,Option.some.injEq,Prod.mk.injEq] at h
    obtain⟨rfl,rfl,rfl⟩:=h
    exact⟨by simp,fun e=>(e rfl).elim,by simp,hsk rfl (hp (by decide)),fun e=>by omega⟩
  rw[if_neg h4] at h
  obtain⟨_,y2,y3⟩:=zIK c t (fuel:=40) (Nat.le_refl _)
  split at h
  ·cases h
  ·rename_i h5
   have hf:=sy_first h5
   simp only[Option.some.injEq,Prod.mk.injEq] at h
   obtain⟨rfl,rfl,rfl⟩:=h
   refine⟨by simp,fun _=>?_,by simp,hsk hf.2.2.2.2 ?_,fun _=>rfl⟩
   ·have:=(List.take_append_drop (sy (c::t)).length (c::t)).symm
    rw[y3] at this
    exact this
   ·cases hh:pre (c::t) [40,42]
    ·rfl
    ·rw[sy,if_pos hh] at h5;exact(h5 rfl).elim
theorem tk_sy{c:UInt8}{t:List UInt8}(h:sy (c::t)≠[]):tk (c::t)=some (7,sy (c::t),(c::t).drop (sy (c::t)).length):=by
 obtain⟨a1,a2,a3,a4,_⟩:=sy_first h
 rw[tk.eq_def]
 dsimp only
 rw[if_neg (by rw[a1];simp),if_neg a2,if_neg (by rw[a3];simp),if_neg a4,if_neg h]
theorem tk_text{s x r:List UInt8}{k:Int}(hs:s.length<=100000)(h:tk s=some (k,x,r)):x.length<=s.length:=by
 by_cases h5:k=5
 ·subst h5
  match s,h with
  |[],h=>simp[tk] at h
  |c::t,h=>
   obtain⟨L,l1,l2⟩:=zIN (c::t) hs 0 (by simp) (fuel:=(c::t).length+100) (Nat.le_refl _)
   rw[tk.eq_def] at h
   dsimp only at h
   split at h
   ·split at h
    ·cases h
    ·simp only[Option.some.injEq,Prod.mk.injEq] at h;rw[<-h.2.1,List.length_take];omega
   split at h
   ·split at h
    ·cases h
    ·split at h
     ·split at h
      ·cases h
      ·simp only[Option.some.injEq,Prod.mk.injEq] at h;rw[<-h.2.1,List.length_take];omega
     ·cases h
   split at h
   ·split at h
    ·simp only[Option.some.injEq,Prod.mk.injEq] at h;rw[<-h.2.1,List.length_take];omega
    ·cases h
   split at h
   ·cases hl:lt t with
    |none=>rw[hl] at h;cases h
    |some q=>
     obtain⟨m,rest⟩:=q
     rw[hl] at h
     simp only[Option.map_some,Option.some.injEq,Prod.mk.injEq] at h
     obtain⟨_,rfl,rfl⟩:=h
     obtain⟨_,a2⟩:=lt_sound _ t _ _ (Nat.le_refl _) hl
     have:=qs_ge m
     rw[a2]
     simp
     omega
   ·split at h
    ·cases h
    ·simp only[Option.some.injEq,Prod.mk.injEq] at h
     obtain⟨_,y2,_⟩:=zIK c t (fuel:=40) (Nat.le_refl _)
     rw[<-h.2.1];exact y2
 ·have:=(tk_cases h).2.1 h5
  rw[this];simp
theorem awake_M{fuel:Nat}(h:200<=fuel):zFc fuel=some true:=by
 obtain⟨g,rfl⟩: ∃g,fuel=g+200:=⟨fuel-200,by omega⟩
 kernel_rfl
abbrev Tq:=Int×List UInt8×List UInt8
def tks(l:List Tq):List Tk:=l.map fun q=>(q.1,q.2.1)
theorem tks_tokOf(s:List UInt8)(l:List Tq):(l.map (tokOf s)).map ktk=tks l:=by rw[List.map_map];rfl
theorem Toks.fin{s:List UInt8}{l:List Tq}(hs:s.length<=16384)(h:Toks s l):PT.Fin (tks l):=by
 induction h with
 |done h=>rfl
 |@next s s' r x k l h h1 h2 h3 ih=>
  have a1:=skp_len (by omega) h
  have a2:=tk_len (by omega) h2
  have a3:=tk_text (by omega) h2
  have a4:=(tk_cases h2).1
  have:=ih (by omega)
  have hl:l≠[]:=by cases h3<;>simp
  cases l with
  |nil=>exact(hl rfl).elim
  |cons q l=>exact⟨by dsimp only;omega,by dsimp only;omega,this⟩
def Tc(cat:Int)(n:Nat):PT zKZ:=if eqI cat 1 then T.typ n else if eqI cat 2 then T.pattern n else T.expr n
theorem Tc_wp(cat:Int){n r:Nat}(hn:30*r+20100<=n)(h1:1<=r)(h2:r<=20000):(Tc cat n).wp r (Ate r):=by
 unfold Tc
 split
 ·exact(types_wp n).2.2.2 r (by omega) h1 h2
 ·split
  ·exact(pats_wp n).2 r (by omega) h1 h2
  ·exact(exprs_wp 20001 (by omega) n).2.2.2.2.1 r (by omega) h1 h2
theorem Tc_le(cat:Int)(n:Nat):PT.le (Tc cat n) (Tc cat (n+1)):=by
 unfold Tc
 exact PT.le_ite _ (types_le n).2.2.2 (PT.le_ite _ (pats_le n).2 (exprs_le n).2.2.2.2.1)
theorem Tc_mono(cat:Int){n m:Nat}(h:n<=m){l:List Tk}{r:Option zKZ×List Tk}(hr:(Tc cat n).go l=some r):(Tc cat m).go l=some r:=by
 induction h with
 |refl=>exact hr
 |step h ih=>exact PT.le_go (Tc_le cat _) l r ih
theorem Tc_go(cat:Int){l:List Tk}(hl:PT.Fin l)(h2:l.length<=20000): ∃o r,PT.Fin r∧∀n,30*l.length+20100<=n->(Tc cat n).go l=some (o,r):=by
 have h1:1<=l.length:=by cases l;exact hl.elim;simp
 obtain⟨o,r,h,hr,-⟩:=PT.wp_go _ l hl (Tc_wp cat (Nat.le_refl _) h1 h2)
 exact⟨o,r,hr,fun n hn=>Tc_mono cat hn h⟩
theorem run_Tc(n:Nat){cat:Int}(hc:cat=1∨cat=2∨cat=3)(w:zKU):zCU n cat w=zA7 ((Tc cat n).run w):=by
 unfold zCU Tc
 rcases hc with rfl|rfl|rfl
 ·show zA7 (zAq n w)=zA7 ((T.typ n).run w)
  rw[(zJu n).2.2.2 w]
 ·show zA7 (zAc n w)=zA7 ((T.pattern n).run w)
  rw[(pats_run n).2 w]
 ·show zA7 (zAV n w)=zA7 ((T.expr n).run w)
  rw[(exprs_run n).2.2.2.2.1 w]
def zS:zKZ:=zKZ.mk 0 0 [] [] []
theorem whole_run{n:Nat}{cat:Int}{s:List UInt8}(hc:cat=1∨cat=2∨cat=3){L:List zKX}{p:zKY}(h:zDe n s=some (L,p,0))(hL:L.length<=100000){o:Option zKZ}{A:List Tk}{t:Tk}{B:List Tk}(hA:L.map ktk=A++t::B)
 (hg:(Tc cat n).go (L.map ktk)=some (o,t::B)):
 (∀v,o=some v->t.1=8->zAm n cat s=(zBO n cat v).bind fun b=>if !b then some (zS,zKY.mk 0 0,5) else some (v,zKY.mk 0 0,0))∧
 ((o=none∨t.1≠8)->∃x,L[A.length]? =some x∧zAm n cat s=some (zS,x.At,if t.1=8 then 4 else 3)):=by
 have hlen:=congrArg List.length hA
 simp only[zq4,List.length_append,List.length_cons] at hlen
 have hrun:=PT.run_go L (by omega) (Tc cat n) 0 (by omega)
 rw[List.drop_zero,hg] at hrun
 obtain⟨x,hx⟩: ∃x,L[A.length]? =some x:=⟨_,zq2 (by omega)⟩
 have hk:ktk x=t:=by
  have:(L.map ktk)[A.length]? =some t:=by rw[hA];simp
  rw[List.getElem?_map,hx] at this
  exact zqa this
 have hix:idx L ((L.length-(B.length+1):Nat):Int)=some x:=by
  rw[show L.length-(B.length+1)=A.length by omega,idx,if_pos (by omega)]
  simpa using hx
 have h0:(⟨L,0⟩:zKU)=zKU.mk L ((0:Nat):Int):=rfl
 have hw:zAm n cat s=(zA7 ((Tc cat n).run (zKU.mk L ((0:Nat):Int)))).bind fun v10=>
  (if !v10.2.1 then some true else (zAL 8 v10.2.2).bind fun v15=>some (!v15):Option Bool).bind fun b17=>
  if b17 then (idx v10.2.2.l v10.2.2.at_).bind fun x20=>(zBw v10.2.2).bind fun v24=>some (zS,x20.At,v24)
  else (zBO n cat v10.1).bind fun b=>if !b then some (zS,zKY.mk 0 0,5) else some (v10.1,zKY.mk 0 0,0):=by
  rw[zAm,h,<-run_Tc n hc];rfl
 rw[hw,hrun]
 have hkind:zAL 8 (zKU.mk L ((L.length-(B.length+1):Nat):Int))=some (eqI t.1 8):=by
  rw[zAL]
  simp only[hix,Option.bind_some]
  rw[<-hk];rfl
 have href:zBw (zKU.mk L ((L.length-(B.length+1):Nat):Int))=some (if t.1=8 then 4 else 3):=by
  rw[zBw,hkind]
  simp only[Option.bind_some]
  by_cases h8:t.1=8
  ·rw[show eqI t.1 8=true from zqb h8,if_pos rfl,if_pos h8]
  ·rw[show eqI t.1 8=false from decide_eq_false h8,if_neg (by decide),if_neg h8]
 cases o with
 |none=>
  refine⟨fun v hv=>(by cases hv),fun _=>⟨x,hx,?_⟩⟩
  simp only[Option.map_some,PT.back,zA7,Option.bind_some,Sum.elim_inl,Bool.not_false,if_true,List.length_cons,hix,href]
 |some v=>
  have hb:(zA7 (some (PT.back L (some v,t::B))))=some (v,true,zKU.mk L ((L.length-(B.length+1):Nat):Int)):=rfl
  simp only[Option.map_some,hb,Option.bind_some,Bool.not_true,Bool.false_eq_true,if_false,hkind]
  by_cases h8:t.1=8
  ·rw[show eqI t.1 8=true from zqb h8]
   refine⟨fun v' hv _=>?_,fun hh=>?_⟩
   ·cases hv;rfl
   ·rcases hh with hh|hh
    ·cases hh
    ·exact(hh h8).elim
  ·rw[show eqI t.1 8=false from decide_eq_false h8]
   refine⟨fun v' hv hh=>(h8 hh).elim,fun _=>⟨x,hx,?_⟩⟩
   simp only[Bool.not_false,if_true,hix,href,Option.bind_some]
theorem whole_ok{s:List UInt8}(hs:s.length<=16384){l:List Tq}(h:Toks s l){cat:Int}(hc:cat=1∨cat=2∨cat=3): ∃o A t B,tks l=A++t::B∧(∃N,∀n,N<=n->(Tc cat n).go (tks l)=some (o,t::B))∧
 ((∃v b,o=some v∧t=(8,[])∧B=[]∧Ev (fun n=>zBO n cat v) b∧Ev (fun n=>zAm n cat s) (if b then (v,zKY.mk 0 0,0) else (zS,zKY.mk 0 0,5)))∨
  (∃q,l[A.length]? =some q∧(q.1,q.2.1)=t∧(o=none∨t.1≠8)∧Ev (fun n=>zAm n cat s) (zS,(tokOf s q).At,if t.1=8 then 4 else 3))):=by
 have hfin:=h.fin hs
 have hlen:=h.len (by omega)
 have htl:(tks l).length=l.length:=zq4 ..
 obtain⟨o,r,hr,hgo⟩:=Tc_go cat hfin (by omega)
 obtain⟨A,hA⟩:=PT.go_drop _ _ _ _ (hgo _ (Nat.le_refl _))
 cases r with
 |nil=>exact hr.elim
 |cons t B=>
 have hT: ∀n,s.length+100<=n->∃p,zDe n s=some (l.map (tokOf s),p,0):=fun n hn=>by
  obtain⟨v,v1,v2⟩:=tokens_spec s hs hn
  rcases v2 with ⟨e0,l',t1,t2⟩|⟨_,_,t1,_⟩
  ·have:=t1.inj h;subst this
   refine⟨v.2.1,?_⟩
   rw[v1,<-t2,<-e0]
  ·exact(t1 _ h).elim
 have hw: ∀n,s.length+100+(30*(tks l).length+20100)<=n->(∀v,o=some v->t.1=8->zAm n cat s=(zBO n cat v).bind fun b=>if !b then some (zS,zKY.mk 0 0,5) else some (v,zKY.mk 0 0,0))∧
  ((o=none∨t.1≠8)->∃x,(l.map (tokOf s))[A.length]? =some x∧zAm n cat s=some (zS,x.At,if t.1=8 then 4 else 3)):=fun n hn=>by
  obtain⟨p,hp⟩:=hT n (by omega)
  exact whole_run hc hp (by rw[zq4];omega) (A:=A) (t:=t) (B:=B) (o:=o) (by rw[tks_tokOf];exact hA) (by rw[tks_tokOf];exact hgo n (by omega))
 refine⟨o,A,t,B,hA,⟨_,hgo⟩,?_⟩
 by_cases h8:t.1=8∧∃v,o=some v
 ·obtain⟨h8,v,rfl⟩:=h8
  left
  obtain⟨b,hb,-⟩:=zKS cat v
  have ht:t=(8,[])∧B=[]:=by
   cases B with
   |nil=>exact⟨hr,rfl⟩
   |cons u B=>exact(hr.1 h8).elim
  refine⟨v,b,rfl,ht.1,ht.2,hb,?_⟩
  obtain⟨N,hN⟩:=hb
  refine⟨max N (s.length+100+(30*(tks l).length+20100)),fun n hn=>?_⟩
  show zAm n cat s=_
  rw[(hw n (by omega)).1 v rfl h8,show zBO n cat v=some b from hN n (by omega)]
  cases b<;>rfl
 ·right
  have ho:o=none∨t.1≠8:=by
   cases o with
   |none=>exact .inl rfl
   |some v=>exact .inr fun e=>h8 ⟨e,v,rfl⟩
  have hAl:A.length<l.length:=by
   have:=congrArg List.length hA
   simp only[List.length_append,List.length_cons] at this
   omega
  refine⟨l[A.length],zq2 hAl,?_,ho,s.length+100+(30*(tks l).length+20100),fun n hn=>?_⟩
  ·have:(tks l)[A.length]? =some t:=by rw[hA];simp
   rw[tks,List.getElem?_map,zq2 hAl] at this
   exact zqa this
  ·obtain⟨x,hx,hwx⟩:=(hw n hn).2 ho
   rw[List.getElem?_map,zq2 hAl] at hx
   have:=zqa hx
   show zAm n cat s=_
   rw[hwx,<-this]
def EV(f:Nat->PT zKZ)(ts:List Tk)(v:zKZ)(r:List Tk):Prop:= ∃N,∀n,N<=n->(f n).go ts=some (some v,r)
abbrev lp:Tk:=(7,[40])
abbrev rp:Tk:=(7,[41])
theorem zC5{α:Type}{s:List UInt8}{t:Tk}(h:isB t s=false)(f:Bool->PT α)(r:List Tk):((T.skip s).bind f).go (t::r)=(f false).go (t::r):=by
 simp only[T.skip,PT.bind,PT.go,h];rfl
theorem zJk{α:Type}{s:List UInt8}{t:Tk}(h:isB t s=true)(f:Bool->PT α)(r:List Tk):((T.skip s).bind f).go (t::r)=(f true).go r:=by
 simp only[T.skip,PT.bind,PT.go,h];rfl
theorem go_want{α:Type}{s:List UInt8}{t:Tk}(h:isB t s=true)(f:Unit->PT α)(r:List Tk):((T.want s).bind f).go (t::r)=(f ()).go r:=by
 simp only[T.want,PT.bind,PT.go,h];rfl
theorem zFA{α β:Type}{x:PT α}{f:α->PT β}{ts r:List Tk}{v:α}(h:x.go ts=some (some v,r)):(x.bind f).go ts=(f v).go r:=by
 rw[PT.go_bind,h];rfl
theorem zFg{α:Type}{k:Int}{t:Tk}(h:eqI t.1 k=false)(f:Bool->PT α)(r:List Tk):(PT.kd k f).go (t::r)=(f false).go (t::r):=by simp only[PT.go,h]
theorem go_kd_yes{α:Type}{k:Int}{t:Tk}(h:eqI t.1 k=true)(f:Bool->PT α)(r:List Tk):(PT.kd k f).go (t::r)=(f true).go (t::r):=by simp only[PT.go,h]
theorem go_ofO{α β:Type}{o:Option α}{a:α}(h:o=some a)(f:α->PT β)(ts:List Tk):((PT.ofO o).bind f).go ts=(f a).go ts:=by rw[h];rfl
theorem isB_cases{t:Tk}{s:List UInt8}(h:isB t s=true):t=(6,s)∨t=(7,s):=by
 simp only[isB,zq7,Bool.or_eq_true,eqI,eqS,decide_eq_true_eq] at h
 obtain⟨h1,h2⟩:=h
 obtain⟨a,b⟩:=t
 dsimp only at h1 h2
 subst h2
 rcases h1 with rfl|rfl<;>simp
theorem expr_star(n:Nat)(r:List Tk):(T.expr (n+12)).go ((7,[42])::r)=some (none,(7,[42])::r):=by kernel_rfl
theorem expr_rp6(n:Nat)(r:List Tk):(T.expr (n+12)).go ((6,[41])::r)=some (none,(6,[41])::r):=by kernel_rfl
theorem expr_rp7(n:Nat)(r:List Tk):(T.expr (n+12)).go ((7,[41])::r)=some (none,(7,[41])::r):=by kernel_rfl
theorem expr_pack6(n:Nat)(r:List Tk):(T.expr (n+12)).go ((6,[112,97,99,107])::r)=some (none,(6,[112,97,99,107])::r):=by kernel_rfl
theorem expr_pack7(n:Nat)(r:List Tk):(T.expr (n+12)).go ((7,[112,97,99,107])::r)=some (none,(7,[112,97,99,107])::r):=by kernel_rfl
theorem expr_first{ts:List Tk}{v:zKZ}{r:List Tk}(h:EV T.expr ts v r): ∃t ts',ts=t::ts'∧isB t [41]=false∧isB t [112,97,99,107]=false∧t≠(7,[42]):=by
 obtain⟨N,h⟩:=h
 have h:=h (N+12) (by omega)
 cases ts with
 |nil=>
  have:=PT.eats_go _ (zKL (N+12)).2.2.2.1 _ _ _ h
  simp at this
 |cons t ts'=>
  refine⟨t,ts',rfl,?_,?_,?_⟩
  ·cases hb:isB t [41] with
   |false=>rfl
   |true=>
    rcases isB_cases hb with rfl|rfl
    ·rw[expr_rp6] at h;cases h
    ·rw[expr_rp7] at h;cases h
  ·cases hb:isB t [112,97,99,107] with
   |false=>rfl
   |true=>
    rcases isB_cases hb with rfl|rfl
    ·rw[expr_pack6] at h;cases h
    ·rw[expr_pack7] at h;cases h
  ·rintro rfl
   rw[expr_star] at h;cases h
theorem inside_ev{A:List Tk}{v:zKZ}{B:List Tk}(h:EV T.expr (A++[(8,[])]) v [(8,[])]):EV T.inside (A++rp::B) v B:=by
 obtain⟨t,ts',e,b1,b2,b3⟩:=expr_first h
 obtain⟨N,h⟩:=h
 have hA: ∃A',A=t::A':=by
  cases A with
  |nil=>
   exfalso
   have:=PT.eats_go _ (zKL N).2.2.2.1 _ _ _ (h N (Nat.le_refl _))
   simp at this
  |cons a A=>exact⟨A,by cases e;rfl⟩
 obtain⟨A',hA⟩:=hA
 refine⟨N+3,fun n hn=>?_⟩
 obtain⟨m,rfl⟩: ∃m,n=m+2:=⟨n-2,by omega⟩
 have hc:=PT.go_close [] B _ (zKL (m+1)).1.2.2.2.2.1 A v (h (m+1) (by omega))
 rw[T.inside]
 rw[show A++rp::B=t::(A'++rp::B) by rw[hA];rfl,zC5 b1,if_neg (by decide),zC5 b2,if_neg (by decide),
  show t::(A'++rp::B)=A++rp::B by rw[hA];rfl,zFA hc,zC5 (by decide),if_neg (by decide),T.sep,PT.bind_assoc,zC5 (by decide),if_neg (by decide)]
 rfl
theorem paren_atom{A:List Tk}{v:zKZ}{B:List Tk}(h:EV T.expr (A++[(8,[])]) v [(8,[])]):EV T.atom (lp::(A++rp::B)) v B:=by
 obtain⟨N,h⟩:=inside_ev (B:=B) h
 refine⟨N+1,fun n hn=>?_⟩
 obtain⟨m,rfl⟩: ∃m,n=m+1:=⟨n-1,by omega⟩
 rw[T.atom,zFg (by decide),if_neg (by decide),zFg (by decide),if_neg (by decide)]
 have hn:(T.named.bind fun b=>if b=true then (T.path m true).bind fun v=>if v.2=true then PT.ret (zKZ.mk 23 0 [] v.1 []) else PT.ret (zKZ.mk 24 0 [] v.1 []) else
  (T.skip [108,101,116]).bind fun b=>if b=true then (T.let m).bind .ret else (T.skip [99,97,115,101]).bind fun b=>if b=true then (T.choice m).bind .ret else (T.want [40]).bind fun _=>(T.inside m).bind .ret:PT zKZ).go (lp::(A++rp::B))=
  ((T.skip [108,101,116]).bind fun b=>if b=true then (T.let m).bind .ret else (T.skip [99,97,115,101]).bind fun b=>if b=true then (T.choice m).bind .ret else (T.want [40]).bind fun _=>(T.inside m).bind .ret:PT zKZ).go (lp::(A++rp::B)):=rfl
 rw[hn,zC5 (by decide),if_neg (by decide),zC5 (by decide),if_neg (by decide),go_want (by decide),zFA (h m (by omega))]
 rfl
def Lv(l:Int)(ts:List Tk)(v:zKZ)(r:List Tk):Prop:=EV (fun n=>T.level n l) ts v r
def LL(l:Int)(t:zKZ)(ts:List Tk)(v:zKZ)(r:List Tk):Prop:= ∃N,∀n k,N<=n->N<=k->(T.level_l1 (T.level n) l (l+1) k t).go ts=some (some v,r)
def opv(n:Int)(t:Tk):List (Int×List UInt8×Int)->Int
 |[]=>0
 |q::r=>if eqI n q.1&&isB t q.2.1 then q.2.2 else opv n t r
theorem go_ops{α:Type}(n:Int)(t:Tk)(r:List Tk)(f:Int->PT α): ∀L,((T.ops n L).bind f).go (t::r)=(f (opv n t L)).go (t::r)
 |[]=>rfl
 |q::L=>by
  have ih:=go_ops n t r f L
  rw[T.ops,opv]
  cases h:eqI n q.1 with
  |false=>simpa using ih
  |true=>
   simp only[if_true,Bool.true_and,PT.bind,PT.go]
   cases isB t q.2.1 with
   |false=>simpa using ih
   |true=>rfl
abbrev bin (c:Int) (x y:zKZ):zKZ:=zKZ.mk 32 c [] [] [x,y]
theorem LL_no{l:Int}{t:zKZ}{o:Tk}{r:List Tk}(h:opv l o OPS=0):LL l t (o::r) t (o::r):=⟨1,fun n k hn hk=>by
 obtain⟨k,rfl⟩: ∃m,k=m+1:=⟨k-1,by omega⟩
 rw[T.level_l1,go_ops,h,if_pos (by decide)];rfl⟩
theorem Lv_of{l:Int}(h1:1<=l)(h6:l<=6){ts:List Tk}{v:zKZ}{r:List Tk}(h:Lv (l+1) ts v r){w:zKZ}{r':List Tk}(hw:LL l v r w r'):Lv l ts w r':=by
 obtain⟨N,h⟩:=h
 obtain⟨N2,hw⟩:=hw
 refine⟨max N N2+1,fun n hn=>?_⟩
 obtain⟨m,rfl⟩: ∃m,n=m+1:=⟨n-1,by omega⟩
 show(T.level (m+1) l).go ts=_
 rw[level_succ m l (by simp only[eqI,decide_eq_false_iff_not];omega) (by omega) (by omega),zFA (h m (by omega))]
 exact hw m m (by omega) (by omega)
theorem Lv_down{ts:List Tk}{v:zKZ}{o:Tk}{r:List Tk}: ∀(d:Nat)(l:Int),1<=l->l+d<=7->(∀m:Int,l<=m->m<l+d->opv m o OPS=0)->Lv (l+d) ts v (o::r)->Lv l ts v (o::r)
 |0,l,h1,h7,hno,h=>by simpa using h
 |d+1,l,h1,h7,hno,h=>by
  have:=Lv_down d (l+1) (by omega) (by omega) (fun m g1 g2=>hno m (by omega) (by omega)) (by rw[show l+1+(d:Int)=l+((d+1:Nat):Int) by omega];exact h)
  exact Lv_of h1 (by omega) this (LL_no (hno l (Int.le_refl _) (by omega)))
theorem Lv_seven{ts:List Tk}{v:zKZ}{r:List Tk}(h:EV T.negation ts v r):Lv 7 ts v r:=by
 obtain⟨N,h⟩:=h
 refine⟨N+1,fun n hn=>?_⟩
 obtain⟨m,rfl⟩: ∃m,n=m+1:=⟨n-1,by omega⟩
 show(T.level (m+1) 7).go ts=_
 rw[zJd,zFA (h m (by omega))];rfl
theorem down7{ts:List Tk}{v:zKZ}{o:Tk}{r:List Tk}(l:Int)(h1:1<=l)(h7:l<=7)(hno: ∀m:Int,l<=m->m<7->opv m o OPS=0)(h:Lv 7 ts v (o::r)):Lv l ts v (o::r):=by
 refine Lv_down (7-l).toNat l h1 (by omega) (fun m g1 g2=>hno m g1 (by omega)) ?_
 rw[show l+((7-l).toNat:Int)=7 by omega];exact h
theorem expr_level{t:Tk}{ts:List Tk}(h1:isB t [102,110]=false)(h2:isB t [105,102]=false){v:zKZ}{r:List Tk}(h:Lv 1 (t::ts) v r):EV T.expr (t::ts) v r:=by
 obtain⟨N,h⟩:=h
 refine⟨N+1,fun n hn=>?_⟩
 obtain⟨m,rfl⟩: ∃m,n=m+1:=⟨n-1,by omega⟩
 rw[T.expr,zC5 h1,if_neg (by decide),zC5 h2,if_neg (by decide),zFA (h m (by omega))];rfl
def noBegin(t:Tk):Prop:=t.1≠4∧t.1≠5∧t.1≠1∧t.1≠2∧isB t [40]=false∧isB t [108,101,116]=false∧isB t [99,97,115,101]=false
theorem begins_no{α:Type}{t:Tk}(h:noBegin t)(f:Bool->PT α)(r:List Tk):(T.begins.bind f).go (t::r)=(f false).go (t::r):=by
 obtain⟨a1,a2,a3,a4,a5,a6,a7⟩:=h
 have e: ∀n:Int,t.1≠n->eqI t.1 n=false:=fun n h=>decide_eq_false h
 simp only[T.begins,PT.bind,zEu,PT.go,e _ a1,e _ a2,e _ a3,e _ a4,Bool.false_eq_true,if_false,T.anyOf,a5,a6,a7]
def NL(t:zKZ)(ts:List Tk)(v:zKZ)(r:List Tk):Prop:= ∃N,∀n k,N<=n->N<=k->(T.negation_l1 (T.atom n) k t).go ts=some (some v,r)
theorem NL_no{t:zKZ}{o:Tk}{r:List Tk}(h:noBegin o):NL t (o::r) t (o::r):=⟨1,fun n k hn hk=>by
 obtain⟨k,rfl⟩: ∃m,k=m+1:=⟨k-1,by omega⟩
 rw[T.negation_l1,begins_no h,if_neg (by decide)];rfl⟩
theorem zGr{t:Tk}{ts:List Tk}(ht:isB t [126]=false){u:zKZ}{r:List Tk}(h:EV T.atom (t::ts) u r){w:zKZ}{r':List Tk}(hw:NL u r w r'):EV T.negation (t::ts) w r':=by
 obtain⟨N,h⟩:=h
 obtain⟨N2,hw⟩:=hw
 refine⟨max N N2+1,fun n hn=>?_⟩
 obtain⟨m,rfl⟩: ∃m,n=m+1:=⟨n-1,by omega⟩
 rw[T.negation,zC5 ht,if_neg (by decide),zFA (h m (by omega)),zFA (hw m m (by omega) (by omega))];rfl
theorem neg_paren{A:List Tk}{v:zKZ}(h:EV T.expr (A++[(8,[])]) v [(8,[])]){o:Tk}{r:List Tk}(ho:noBegin o):EV T.negation (lp::(A++rp::o::r)) v (o::r):=
 zGr (by decide) (paren_atom h) (NL_no ho)
theorem obm{α β:Type}(a:α)(f:α->Option β):(some a).bind f=f a:=Eq.trans (Option.bind_some a f) rfl
mutual
theorem szT_pos: ∀t:zKZ,1<=szT t
 |⟨_,_,_,_,l⟩=>by rw[szT];omega
theorem dpT_pos: ∀t:zKZ,1<=dpT t
 |⟨_,_,_,_,l⟩=>by rw[dpT];omega
end
def SzOk(t:zKZ):Prop:=szT t<=100000->Ev (fun n=>zEv n t) (szT t:Int)
theorem Size_loop(t:zKZ): ∀(l:List zKZ),(∀x∈l,SzOk x)->∀(i:Nat)(c:Nat),t.L.drop i=l->c+szL l<=100000->∃N,∀n k,N<=n->N<=k->zEB (zEv n) t k (c:Int) i=some ((c+szL l:Nat):Int)
 |[],_,i,c,hd,hc=>⟨1,fun n k hn hk=>by
  obtain⟨k,rfl⟩: ∃m,k=m+1:=⟨k-1,by omega⟩
  have hl:t.L.length<=i:=List.drop_eq_nil_iff.1 hd
  rw[zEB,show ltI (i:Int) (t.L.length:Int)=false from decide_eq_false (by omega)];rfl⟩
 |x::l,hx,i,c,hd,hc=>by
  have hi:i<t.L.length:=by
   rcases Nat.lt_or_ge i t.L.length with h|h
   ·exact h
   ·rw[List.drop_eq_nil_of_le h] at hd;cases hd
  have hs':=List.drop_eq_getElem_cons hi
  rw[hd] at hs'
  obtain⟨hx1,hl1⟩:=List.cons.inj hs'
  rw[szL] at hc ⊢
  obtain⟨N,h1⟩:=hx x zq9 (by omega)
  obtain⟨N2,h2⟩:=Size_loop t l (fun y hy=>hx y (zqc _ hy)) (i+1) (c+szT x) hl1.symm (by omega)
  refine⟨max N N2+1,fun n k hn hk=>?_⟩
  obtain⟨k,rfl⟩: ∃m,k=m+1:=⟨k-1,by omega⟩
  rw[zEB,show ltI (i:Int) (t.L.length:Int)=true from zqb (by omega),if_pos rfl,zq2 hi,<-hx1]
  simp only[obm]
  rw[show zEv n x=_ from h1 n (by omega)]
  simp only[obm]
  rw[show chk .i64 ((c:Int)+(szT x:Int))=some ((c+szT x:Nat):Int) from(chkA (by omega) (by omega)).trans (by rfl)]
  simp only[obm]
  rw[h2 n k (by omega) (by omega),Nat.add_assoc]
mutual
theorem Size_all: ∀t,SzOk t
 |⟨a,b,c,d,l⟩=>fun hs=>by
  rw[szT] at hs ⊢
  obtain⟨N,h⟩:=Size_loop ⟨a,b,c,d,l⟩ l (Size_list l) 0 1 rfl (by omega)
  refine⟨N+1,fun n hn=>?_⟩
  obtain⟨m,rfl⟩: ∃m,n=m+1:=⟨n-1,by omega⟩
  show zEv (m+1) _=_
  rw[zEv,show(1:Int)=((1:Nat):Int) from rfl,h m m (by omega) (by omega)];rfl
theorem Size_list: ∀l:List zKZ,∀x∈l,SzOk x
 |[],x,hx=>by cases hx
 |y::l,x,hx=>by
  rcases List.mem_cons.1 hx with h|h
  ·rw[h];exact Size_all y
  ·exact Size_list l x h
end
def DpOk(t:zKZ):Prop:=dpT t<=100000->Ev (fun n=>zFb n t) (dpT t:Int)
theorem maxN(a b:Nat):maxI (a:Int) (b:Int)=((max a b:Nat):Int):=by
 unfold maxI;split<;>omega
theorem Depth_loop(t:zKZ): ∀(l:List zKZ),(∀x∈l,DpOk x)->∀(i:Nat)(c:Nat),t.L.drop i=l->dpL l<=100000->∃N,∀n k,N<=n->N<=k->zDr (zFb n) t k (c:Int) i=some ((max c (dpL l):Nat):Int)
 |[],_,i,c,hd,hc=>⟨1,fun n k hn hk=>by
  obtain⟨k,rfl⟩: ∃m,k=m+1:=⟨k-1,by omega⟩
  have hl:t.L.length<=i:=List.drop_eq_nil_iff.1 hd
  rw[zDr,show ltI (i:Int) (t.L.length:Int)=false from decide_eq_false (by omega),dpL,Nat.max_zero];rfl⟩
 |x::l,hx,i,c,hd,hc=>by
  have hi:i<t.L.length:=by
   rcases Nat.lt_or_ge i t.L.length with h|h
   ·exact h
   ·rw[List.drop_eq_nil_of_le h] at hd;cases hd
  have hs':=List.drop_eq_getElem_cons hi
  rw[hd] at hs'
  obtain⟨hx1,hl1⟩:=List.cons.inj hs'
  rw[dpL] at hc ⊢
  obtain⟨N,h1⟩:=hx x zq9 (by omega)
  obtain⟨N2,h2⟩:=Depth_loop t l (fun y hy=>hx y (zqc _ hy)) (i+1) (max c (dpT x)) hl1.symm (by omega)
  refine⟨max N N2+1,fun n k hn hk=>?_⟩
  obtain⟨k,rfl⟩: ∃m,k=m+1:=⟨k-1,by omega⟩
  rw[zDr,show ltI (i:Int) (t.L.length:Int)=true from zqb (by omega),if_pos rfl,zq2 hi,<-hx1]
  simp only[obm]
  rw[show zFb n x=_ from h1 n (by omega)]
  simp only[obm]
  rw[maxN,h2 n k (by omega) (by omega),Nat.max_assoc]
def EqOk(t:zKZ):Prop:=Ev (fun n=>zCg n t t) true
theorem Eq_names(t:zKZ): ∀(m i k:Nat),i+m=t.Names.length->m+1<=k->zCx t t k i=some (.inr ())
 |0,i,k+1,hi,hk=>by rw[zCx,show ltI (i:Int) (t.Names.length:Int)=false from decide_eq_false (by omega)];rfl
 |m+1,i,k+1,hi,hk=>by
  rw[zCx,show ltI (i:Int) (t.Names.length:Int)=true from zqb (by omega),if_pos rfl,zq2 (by omega)]
  simp only[obm]
  rw[show eqS t.Names[i] t.Names[i]=true from zqb rfl]
  exact Eq_names t m (i+1) k (by omega) (by omega)
theorem Eq_loop(t:zKZ): ∀(l:List zKZ),(∀x∈l,EqOk x)->∀(i:Nat),t.L.drop i=l->∃N,∀n k,N<=n->N<=k->zCw (zCg n) t t k i=some (.inr ())
 |[],_,i,hd=>⟨1,fun n k hn hk=>by
  obtain⟨k,rfl⟩: ∃m,k=m+1:=⟨k-1,by omega⟩
  have hl:t.L.length<=i:=List.drop_eq_nil_iff.1 hd
  rw[zCw,show ltI (i:Int) (t.L.length:Int)=false from decide_eq_false (by omega)];rfl⟩
 |x::l,hx,i,hd=>by
  have hi:i<t.L.length:=by
   rcases Nat.lt_or_ge i t.L.length with h|h
   ·exact h
   ·rw[List.drop_eq_nil_of_le h] at hd;cases hd
  have hs':=List.drop_eq_getElem_cons hi
  rw[hd] at hs'
  obtain⟨hx1,hl1⟩:=List.cons.inj hs'
  obtain⟨N,h1⟩:=hx x zq9
  obtain⟨N2,h2⟩:=Eq_loop t l (fun y hy=>hx y (zqc _ hy)) (i+1) hl1.symm
  refine⟨max N N2+1,fun n k hn hk=>?_⟩
  obtain⟨k,rfl⟩: ∃m,k=m+1:=⟨k-1,by omega⟩
  rw[zCw,show ltI (i:Int) (t.L.length:Int)=true from zqb (by omega),if_pos rfl,zq2 hi,<-hx1]
  simp only[obm]
  rw[show zCg n x x=_ from h1 n (by omega)]
  exact h2 n k (by omega) (by omega)
mutual
theorem Equal_all: ∀t,EqOk t
 |⟨a,b,c,d,l⟩=>by
  obtain⟨N,h⟩:=Eq_loop ⟨a,b,c,d,l⟩ l (Equal_list l) 0 rfl
  refine⟨max N (d.length+1)+1,fun n hn=>?_⟩
  obtain⟨m,rfl⟩: ∃m,n=m+1:=⟨n-1,by omega⟩
  show zCg (m+1) _ _=_
  rw[zCg,if_neg (by simp[eqI,eqS]),Eq_names _ d.length 0 m (by simp) (by omega)]
  simp only[obm,Sum.elim_inr]
  rw[h m m (by omega) (by omega)];rfl
theorem Equal_list: ∀l:List zKZ,∀x∈l,EqOk x
 |[],x,hx=>by cases hx
 |y::l,x,hx=>by
  rcases List.mem_cons.1 hx with h|h
  ·rw[h];exact Equal_all y
  ·exact Equal_list l x h
end
theorem parts1{t:zKZ}{x:zKZ}{c:Int}(hl:t.L=[x])(hx:bl c x=true):Ev (fun n=>zAZ n t [c]) true:=by
 have:=parts_ev t [c] (by rw[hl];rfl)
 rw[hl] at this
 simpa[List.range',hx] using this
theorem parts2{t:zKZ}{x y:zKZ}{c d:Int}(hl:t.L=[x,y])(hx:bl c x=true)(hy:bl d y=true):Ev (fun n=>zAZ n t [c,d]) true:=by
 have:=parts_ev t [c,d] (by rw[hl];rfl)
 rw[hl] at this
 simpa[List.range',hx,hy] using this
theorem own_op{c:Int}(h1:1<=c)(h2:c<=12)(L:List zKZ)(w:Bool)(n:Nat):zBY n (zKZ.mk 32 c [] [] L) w=some true:=by
 have:(leI 1 c&&leI c 12)=true:=by simp[leI,h1,h2]
 have e:zBY n (zKZ.mk 32 c [] [] L) w=some (leI 1 c&&leI c 12):=by rfl
 rw[e,this]
theorem wf_bin{c:Int}(h1:1<=c)(h2:c<=11){x y:zKZ}(hx:WF x false)(hy:WF y false)(bx:bl 3 x=true)(by_:bl 3 y=true):WF (zKZ.mk 32 c [] [] [x,y]) false:=by
 refine .mk ⟨0,fun n _=>own_op h1 (by omega) _ _ n⟩ ?_ fun z hz=>?_
 ·have e: ∀n,zBp n (zKZ.mk 32 c [] [] [x,y])=(zAZ n (zKZ.mk 32 c [] [] [x,y]) [3,3]).bind fun v=>some v:=fun n=>by
   have:zBp n (zKZ.mk 32 c [] [] [x,y])=if eqI c 12 then (zAZ n (zKZ.mk 32 c [] [] [x,y]) [3]).bind fun v=>some v else (zAZ n (zKZ.mk 32 c [] [] [x,y]) [3,3]).bind fun v=>some v:=by rfl
   rw[this,if_neg (by simp only[eqI,decide_eq_true_eq];omega)]
  exact(Ev.map (fun v=>v) (parts2 (c:=3) (d:=3) rfl bx by_)).congr e
 ·simp only[List.mem_cons,List.not_mem_nil,or_false] at hz
  rcases hz with rfl|rfl
  ·exact hx
  ·exact hy
theorem wf_app{x y:zKZ}(hx:WF x false)(hy:WF y false)(bx:bl 3 x=true)(by_:bl 3 y=true):WF (zKZ.mk 26 0 [] [] [x,y]) false:=by
 refine .mk ⟨0,fun n _=>by rfl⟩ ?_ fun z hz=>?_
 ·have e: ∀n,zBp n (zKZ.mk 26 0 [] [] [x,y])=(zAZ n (zKZ.mk 26 0 [] [] [x,y]) [3,3]).bind fun v=>some v:=fun n=>by rfl
  exact(Ev.map (fun v=>v) (parts2 (c:=3) (d:=3) rfl bx by_)).congr e
 ·simp only[List.mem_cons,List.not_mem_nil,or_false] at hz
  rcases hz with rfl|rfl
  ·exact hx
  ·exact hy
theorem bl_app(L:List zKZ):bl 3 (zKZ.mk 26 0 [] [] L)=true:=by rfl
abbrev eT:Tk:=(8,[])
def TL(s:List UInt8)(ts:List Tk):Prop:= ∃l,Toks s (l++[(8,[],[])])∧tks l=ts
theorem TL_nil:TL [] []:=⟨[],.done skp_nil,rfl⟩
theorem TL_blank{c:UInt8}(hc:blank c=true){u:List UInt8}{ts:List Tk}(h:TL u ts):TL (c::u) ts:=by
 obtain⟨l,h,e⟩:=h
 exact⟨l,Toks.skip (zIE hc) h,e⟩
theorem TL_ext{s u:List UInt8}{xs bs:List Tk}(h:TL s xs)(hu:bd u)(h2:TL u bs):TL (s++u) (xs++bs):=by
 obtain⟨l,h,e⟩:=h
 obtain⟨l2,h2,e2⟩:=h2
 have:=Toks.ext u hu h2 h
 rw[List.dropLast_concat,<-List.append_assoc] at this
 refine⟨_,this,?_⟩
 rw[tks,List.map_append,<-tks,<-tks,e2]
 congr 1
 rw[<-e];simp only[tks,List.map_map];rfl
theorem TL_tk{s x r:List UInt8}{k:Int}(h:tk s=some (k,x,r)){ts:List Tk}(hr:TL r ts):TL s ((k,x)::ts):=by
 obtain⟨l,hr,e⟩:=hr
 obtain⟨_,_,h3,h4,_⟩:=tk_cases h
 exact⟨(k,x,s)::l,.next h4 h3 h hr,by rw[tks,List.map_cons,<-tks,e]⟩
theorem TL_word{w:List UInt8}{k:Int}(h:tk w=some (k,w,[])):TL w [(k,w)]:=TL_tk h TL_nil
theorem sy_one{c:UInt8}{r:List UInt8}(h1:pre (c::r) [40,42]=false)(h2:c≠58∧c≠61∧c≠45∧c≠60)(h3:0<=Lib.indexByte SB c):sy (c::r)=[c]:=by
 rw[sy,h1]
 have hf:SA.find? (pre (c::r))=none:=by
  obtain⟨a1,a2,a3,a4⟩:=h2
  simp[SA,pre,a1,a2,a3,a4]
 rw[hf,if_neg (by decide)]
 dsimp only
 rw[if_pos h3]
theorem tk_one{c:UInt8}{r:List UInt8}(h1:pre (c::r) [40,42]=false)(h2:c≠58∧c≠61∧c≠45∧c≠60)(h3:0<=Lib.indexByte SB c):tk (c::r)=some (7,[c],r):=by
 have:=sy_one h1 h2 h3
 rw[tk_sy (by rw[this];simp),this];rfl
theorem pre_not{c:UInt8}(h:c≠40)(r:List UInt8):pre (c::r) [40,42]=false:=by
 simp[pre,h]
theorem TL_close{u:List UInt8}{ts:List Tk}(h:TL u ts):TL (41::u) (rp::ts):=TL_tk (tk_one (pre_not (by decide) u) (by decide) (by decide)) h
theorem TL_open{u:List UInt8}(hu: ∀r,u≠42::r){ts:List Tk}(h:TL u ts):TL (40::u) (lp::ts):=by
 refine TL_tk (tk_one ?_ (by decide) (by decide)) h
 cases hp:pre (40::u) [40,42] with
 |false=>rfl
 |true=>
  obtain⟨r,hr⟩:=(pre2 _ _ _).1 hp
  cases hr;exact(hu r rfl).elim
theorem whole_done{s:List UInt8}(hs:s.length<=16384){A:List Tk}(h:TL s A){v:zKZ}(hv:EV T.expr (A++[eT]) v [eT])(hb:bl 3 v=true)(hw:WF v false)(h1:szT v<=20000)(h2:dpT v<=400):Ev (fun n=>zAm n 3 s) (v,zKY.mk 0 0,0):=by
 obtain⟨l,h,e⟩:=h
 have he:tks (l++[(8,[],[])])=A++[eT]:=by rw[tks,List.map_append,<-tks,e];rfl
 obtain⟨o,A',t,B,hA,⟨N,hg⟩,hx⟩:=whole_ok hs h (cat:=3) (.inr (.inr rfl))
 obtain⟨N2,hv⟩:=hv
 have h3:=hg (max N N2) (by omega)
 have h4:(T.expr (max N N2)).go (tks (l++[(8,[],[])]))=some (o,t::B):=h3
 rw[he,hv _ (by omega)] at h4
 cases h4
 rcases hx with ⟨v',b,e1,_,_,hV,hx⟩|⟨q,_,_,h5,_⟩
 ·cases e1
  obtain⟨b',hb',hiff⟩:=zKS 3 v
  have:=hV.unique hb'
  subst this
  rw[hiff.2 ⟨hb,hw,h1,h2⟩] at hx
  exact hx
 ·rcases h5 with h5|h5
  ·cases h5
  ·exact(h5 rfl).elim
structure Opd (s:List UInt8) (x:zKZ) (A:List Tk):Prop where
 tl:TL s A
 ev:EV T.expr (A++[eT]) x [eT]
 wf:WF x false
 b:bl 3 x=true
 sz:szT x<=20000
 dp:dpT x<=400
theorem expr_eq(n:Nat)(s:List UInt8):zBX n s=zAm n 3 s:=by
 rw[zBX];cases zAm n 3 s<;>rfl
theorem TL_sp{u:List UInt8}{ts:List Tk}(h:TL u ts):TL (32::u) ts:=TL_blank (by decide) h
theorem end_no(m:Int):opv m eT OPS=0:=by simp[opv,OPS,isB,eqI,eqS]
theorem end_nb:noBegin eT:=⟨by decide,by decide,by decide,by decide,by decide,by decide,by decide⟩
theorem whole_full{s:List UInt8}(hs:s.length<=16384){A:List Tk}(h:TL s A){v:zKZ}(hv:EV T.expr (A++[eT]) v [eT])(hb: ¬(bl 3 v=true∧WF v false∧szT v<=20000∧dpT v<=400)):Ev (fun n=>zAm n 3 s) (zS,zKY.mk 0 0,5):=by
 obtain⟨l,h,e⟩:=h
 have he:tks (l++[(8,[],[])])=A++[eT]:=by rw[tks,List.map_append,<-tks,e];rfl
 obtain⟨o,A',t,B,hA,⟨N,hg⟩,hx⟩:=whole_ok hs h (cat:=3) (.inr (.inr rfl))
 obtain⟨N2,hv⟩:=hv
 have h3:=hg (max N N2) (by omega)
 have h4:(T.expr (max N N2)).go (tks (l++[(8,[],[])]))=some (o,t::B):=h3
 rw[he,hv _ (by omega)] at h4
 cases h4
 rcases hx with ⟨v',b,e1,_,_,hV,hx⟩|⟨q,_,_,h5,_⟩
 ·cases e1
  obtain⟨b',hb',hiff⟩:=zKS 3 v
  have:=hV.unique hb'
  subst this
  have:b=false:=by
   cases b with
   |false=>rfl
   |true=>exact(hb (hiff.1 rfl)).elim
  subst this
  exact hx
 ·rcases h5 with h5|h5
  ·cases h5
  ·exact(h5 rfl).elim
theorem none_z:Ev (fun n=>zCt n zS) true:=by
 obtain⟨N,h⟩:=Equal_all zS
 refine⟨N,fun n hn=>?_⟩
 show zCt n zS=_
 rw[zCt,show zCg n zS (zKZ.mk 0 0 [] [] [])=some true from h n hn];rfl
theorem zFn{s:List UInt8}(hs:s.length<=16384){A:List Tk}(h:TL s A){v:zKZ}(hv:EV T.expr (A++[eT]) v [eT])(k lim:Int)(hb:bl 3 v=true)(hiff:k<=lim↔(WF v false∧szT v<=20000∧dpT v<=400)):
 Ev (fun n=>(zBX n s).bind fun v30=>if leI k lim then (if eqI v30.2.2 0 then (zBO n 3 v30.1).bind fun v36=>some v36 else some false:Option Bool).bind fun b39=>some b39
  else (if eqI v30.2.2 5 then (zCt n v30.1).bind fun v45=>if v45 then some ((eqI v30.2.1.Line 0)&&(eqI v30.2.1.Column 0)) else some false else some false:Option Bool).bind fun b49=>some b49) true:=by
 by_cases hk:k<=lim
 ·obtain⟨h1,h2,h3⟩:=hiff.1 hk
  obtain⟨N,hw⟩:=whole_done hs h hv hb h1 h2 h3
  obtain⟨b,⟨N2,hV⟩,hi⟩:=zKS 3 v
  have:b=true:=hi.2 ⟨hb,h1,h2,h3⟩
  subst this
  refine⟨max N N2,fun n hn=>?_⟩
  have hV':zBO n 3 v=some true:=hV n (by omega)
  have hw':zAm n 3 s=some (v,zKY.mk 0 0,0):=hw n (by omega)
  simp only[expr_eq,hw',obm,show leI k lim=true from zqb hk,if_true,show eqI (0:Int) 0=true from rfl,hV']
 ·obtain⟨N,hw⟩:=whole_full hs h hv fun g=>hk (hiff.2 g.2)
  obtain⟨N2,hz⟩:=none_z
  refine⟨max N N2,fun n hn=>?_⟩
  have hz':zCt n zS=some true:=hz n (by omega)
  have hw':zAm n 3 s=some (zS,zKY.mk 0 0,5):=hw n (by omega)
  simp only[expr_eq,hw',obm,show leI k lim=false from decide_eq_false hk,if_true,Bool.false_eq_true,if_false,show eqI (5:Int) 5=true from rfl,hz']
  rfl
abbrev xT:Tk:=(1,[120])
abbrev vx:zKZ:=zKZ.mk 23 0 [] [[120]] []
def Ends(t:Tk):Prop:=noBegin t∧∀m:Int,opv m t OPS=0
theorem ends_e:Ends eT:=⟨end_nb,end_no⟩
theorem ends_rp:Ends rp:=⟨⟨by decide,by decide,by decide,by decide,by decide,by decide,by decide⟩,fun m=>by simp[opv,OPS,isB,eqI,eqS]⟩
theorem ends_comma:Ends (7,[44]):=⟨⟨by decide,by decide,by decide,by decide,by decide,by decide,by decide⟩,fun m=>by simp[opv,OPS,isB,eqI,eqS]⟩
theorem zGy{t:Tk}{ts:List Tk}(h1:isB t [102,110]=false)(h2:isB t [105,102]=false){v:zKZ}{e:Tk}{r:List Tk}(he:Ends e)(h:EV T.negation (t::ts) v (e::r)):EV T.expr (t::ts) v (e::r):=
 expr_level h1 h2 (down7 1 (by decide) (by decide) (fun m _ _=>he.2 m) (Lv_seven h))
theorem path_x(n:Nat)(t:UInt8)(r:List Tk):(T.path (n+1) true).go ((1,[t])::r)=some (some ([[t]],true),r):=by
 rw[T.path,T.path_l1,PT.bind,zFg (by rfl)]
 rfl
theorem atom_low(c:UInt8)(r:List Tk):EV T.atom ((1,[c])::r) (zKZ.mk 23 0 [] [[c]] []) r:=⟨2,fun n hn=>by
 obtain⟨m,rfl⟩: ∃m,n=m+2:=⟨n-2,by omega⟩
 rw[T.atom,zFg (by rfl),if_neg (by decide),zFg (by rfl),if_neg (by decide)]
 have hn: ∀(x y:PT zKZ),(T.named.bind fun b=>if b=true then x else y:PT zKZ).go ((1,[c])::r)=x.go ((1,[c])::r):=fun x y=>rfl
 rw[hn,zFA (path_x m c r)]
 rfl⟩
theorem expr_x{e:Tk}(he:Ends e)(r:List Tk):EV T.expr (xT::e::r) vx (e::r):=zGy (by decide) (by decide) he (zGr (by decide) (atom_low 120 _) (NL_no he.1))
theorem wf_x:WF vx false:=.mk ⟨60,fun n hn=>by
 obtain⟨m,rfl⟩: ∃m,n=m+60:=⟨n-60,by omega⟩
 show zBY (m+60) vx false=some true
 kernel_rfl⟩ ⟨0,fun n _=>by rfl⟩ fun x hx=>by cases hx
theorem zFe(s:List UInt8)(k:Nat):Lib.repeatL s (k+1)=s++Lib.repeatL s k:=by rfl
theorem zFk(s:List UInt8): ∀k,(Lib.repeatL s k).length=k*s.length
 |0=>by simp[Lib.repeatL]
 |k+1=>by rw[zFe,List.length_append,zFk s k,Nat.succ_mul,Nat.add_comm]
theorem fn_ev{ts:List Tk}{v:zKZ}{r:List Tk}(h:EV T.expr ts v r):EV T.expr ((6,[102,110])::xT::(7,[61,62])::ts) (zKZ.mk 25 0 [120] [] [v]) r:=by
 obtain⟨N,h⟩:=h
 refine⟨N+1,fun n hn=>?_⟩
 obtain⟨m,rfl⟩: ∃m,n=m+1:=⟨n-1,by omega⟩
 rw[T.expr,zJk (by decide),if_pos rfl,zC5 (by decide),if_pos (by decide)]
 have hn: ∀(f:List UInt8->PT zKZ)(r:List Tk),((T.name 1).bind f).go (xT::r)=(f [120]).go r:=fun f r=>rfl
 rw[hn,go_want (by decide),zFA (h m (by omega))]
 rfl
theorem one_ev:EV T.expr [(4,[49]),eT] (zKZ.mk 21 1 [] [] []) [eT]:=by
 refine zGy (by decide) (by decide) ends_e (zGr (by decide) ⟨10,fun n hn=>?_⟩ (NL_no end_nb))
 obtain⟨m,rfl⟩: ∃m,n=m+10:=⟨n-10,by omega⟩
 kernel_rfl
def fns:Nat->List Tk
 |0=>[(4,[49])]
 |k+1=>(6,[102,110])::xT::(7,[61,62])::fns k
def fnv:Nat->zKZ
 |0=>zKZ.mk 21 1 [] [] []
 |k+1=>zKZ.mk 25 0 [120] [] [fnv k]
theorem fns_ev: ∀k,EV T.expr (fns k++[eT]) (fnv k) [eT]
 |0=>one_ev
 |k+1=>fn_ev (fns_ev k)
theorem fns_tl: ∀k,TL (Lib.repeatL [102,110,32,120,32,61,62,32] k++[49]) (fns k)
 |0=>TL_word (by kernel_rfl)
 |k+1=>by
  have h:=fns_tl k
  rw[zFe,List.append_assoc]
  have t1: ∀u:List UInt8,tk (102::110::32::u)=some (6,[102,110],32::u):=fun u=>by rfl
  have t2: ∀u:List UInt8,tk (120::32::u)=some (1,[120],32::u):=fun u=>by rfl
  have t3: ∀u:List UInt8,tk (61::62::32::u)=some (7,[61,62],32::u):=fun u=>by rfl
  exact TL_tk (t1 _) (TL_sp (TL_tk (t2 _) (TL_sp (TL_tk (t3 _) (TL_sp h)))))
theorem bl_fnv: ∀k,bl 3 (fnv k)=true
 |0=>by rfl
 |k+1=>by rfl
theorem sz_fnv: ∀k,szT (fnv k)=k+1∧dpT (fnv k)=k+1
 |0=>⟨rfl,rfl⟩
 |k+1=>by
  obtain⟨h1,h2⟩:=sz_fnv k
  simp only[fnv,szT,szL,dpT,dpL,h1,h2]
  omega
theorem wf_fnv: ∀k,WF (fnv k) false
 |0=>.mk ⟨0,fun n _=>by rfl⟩ ⟨0,fun n _=>by rfl⟩ fun x hx=>by cases hx
 |k+1=>by
  refine .mk ⟨60,fun n hn=>?_⟩ ?_ fun x hx=>?_
  ·obtain⟨m,rfl⟩: ∃m,n=m+60:=⟨n-60,by omega⟩
   have e: ∀L,zBY (m+60) (zKZ.mk 25 0 [120] [] L) false=some true:=fun L=>by kernel_rfl
   exact e _
  ·have e: ∀n,zBp n (fnv (k+1))=(zAZ n (fnv (k+1)) [3]).bind fun v=>some v:=fun n=>by rfl
   exact(Ev.map (fun v=>v) (parts1 (c:=3) rfl (bl_fnv k))).congr e
  ·simp only[fnv,List.mem_cons,List.not_mem_nil,or_false] at hx
   subst hx
   exact wf_fnv k
def pars:Nat->List Tk
 |0=>[xT]
 |k+1=>lp::(pars k++[rp])
theorem pars_ev: ∀k,EV T.expr (pars k++[eT]) vx [eT]
 |0=>expr_x ends_e []
 |k+1=>by
  have h:=neg_paren (pars_ev k) (o:=eT) (r:=[]) end_nb
  have:=zGy (by decide) (by decide) ends_e h
  rw[pars,List.cons_append,List.append_assoc]
  exact this
theorem zIc(c:UInt8): ∀k,Lib.repeatL [c] k++[c]=c::Lib.repeatL [c] k
 |0=>rfl
 |k+1=>by rw[zFe,List.append_assoc,zIc c k];rfl
theorem rep_snoc(c:UInt8)(k:Nat):Lib.repeatL [c] (k+1)=Lib.repeatL [c] k++[c]:=by rw[zIc];rfl
theorem pars_tl: ∀k,TL (Lib.repeatL [40] k++120::Lib.repeatL [41] k) (pars k)
 |0=>TL_word (by kernel_rfl)
 |k+1=>by
  have h:=pars_tl k
  have h2:TL ((Lib.repeatL [40] k++120::Lib.repeatL [41] k)++[41]) (pars k++[rp]):=TL_ext h (by simp[bd]) (TL_close TL_nil)
  rw[zFe,rep_snoc 41 k,pars]
  have e:[40]++Lib.repeatL [40] k++120::(Lib.repeatL [41] k++[41])=40::((Lib.repeatL [40] k++120::Lib.repeatL [41] k)++[41]):=by simp
  rw[e]
  refine TL_open (fun r hr=>?_) h2
  cases k with
  |zero=>simp[Lib.repeatL] at hr
  |succ k=>rw[zFe] at hr;simp at hr
def apT(t:zKZ):Nat->zKZ
 |0=>t
 |k+1=>apT (zKZ.mk 26 0 [] [] [t,vx]) k
def xs:Nat->List Tk
 |0=>[]
 |k+1=>xT::xs k
theorem NL_x{t:zKZ}{ts:List Tk}{w:zKZ}{r':List Tk}(hw:NL (zKZ.mk 26 0 [] [] [t,vx]) ts w r'):NL t (xT::ts) w r':=by
 obtain⟨N,h⟩:=atom_low 120 ts
 obtain⟨N2,hw⟩:=hw
 refine⟨max N N2+1,fun n k hn hk=>?_⟩
 obtain⟨k,rfl⟩: ∃m,k=m+1:=⟨k-1,by omega⟩
 have hb: ∀(f:Bool->PT zKZ)(r:List Tk),(T.begins.bind f).go (xT::r)=(f true).go (xT::r):=fun f r=>rfl
 rw[T.negation_l1,hb,if_pos rfl,zFA (h n (by omega))]
 exact hw n k (by omega) (by omega)
theorem NL_xs: ∀k t,NL t (xs k++[eT]) (apT t k) [eT]
 |0,t=>NL_no end_nb
 |k+1,t=>NL_x (NL_xs k _)
theorem aps_ev(k:Nat):EV T.expr ((1,[102])::xs k++[eT]) (apT (zKZ.mk 23 0 [] [[102]] []) k) [eT]:=
 zGy (by decide) (by decide) ends_e (zGr (by decide) (atom_low 102 _) (NL_xs k _))
theorem xs_bd(k:Nat):bd (Lib.repeatL [32,120] k):=by
 cases k with
 |zero=>exact trivial
 |succ k=>rw[zFe];exact .inl rfl
theorem xs_tl: ∀k,TL (Lib.repeatL [32,120] k) (xs k)
 |0=>TL_nil
 |k+1=>by
  have h:=TL_ext (TL_word (w:=[120]) (k:=1) (by kernel_rfl)) (xs_bd k) (xs_tl k)
  rw[zFe]
  exact TL_sp h
theorem aps_tl(k:Nat):TL ([102]++Lib.repeatL [32,120] k) ((1,[102])::xs k):=TL_ext (TL_word (w:=[102]) (k:=1) (by kernel_rfl)) (xs_bd k) (xs_tl k)
theorem sz_ap: ∀k t,szT (apT t k)=szT t+2*k∧(dpT (apT t k)=dpT t+k)∧(bl 3 t=true->bl 3 (apT t k)=true)∧(WF t false->bl 3 t=true->WF (apT t k) false)
 |0,t=>⟨rfl,rfl,id,fun h _=>h⟩
 |k+1,t=>by
  obtain⟨h1,h2,h3,h4⟩:=sz_ap k (zKZ.mk 26 0 [] [] [t,vx])
  have hs:=szT_pos t
  have hd:=dpT_pos t
  refine⟨?_,?_,fun _=>h3 (bl_app _),fun g gb=>h4 (wf_app g wf_x gb (by rfl)) (bl_app _)⟩
  ·rw[apT,h1];simp only[szT,szL];omega
  ·rw[apT,h2];simp only[dpT,dpL];omega
theorem wf_f:WF (zKZ.mk 23 0 [] [[102]] []) false:=.mk ⟨60,fun n hn=>by
 obtain⟨m,rfl⟩: ∃m,n=m+60:=⟨n-60,by omega⟩
 show zBY (m+60) (zKZ.mk 23 0 [] [[102]] []) false=some true
 kernel_rfl⟩ ⟨0,fun n _=>by rfl⟩ fun x hx=>by cases hx
def dots:Nat->List Tk
 |0=>[xT]
 |k+1=>(2,[77])::(7,[46])::dots k
theorem dots_tl: ∀k,TL (Lib.repeatL [77,46] k++[120]) (dots k)
 |0=>TL_word (by kernel_rfl)
 |k+1=>by
  have h:=dots_tl k
  rw[zFe,List.append_assoc]
  have t1: ∀u:List UInt8,tk (77::46::u)=some (2,[77],46::u):=fun u=>by rfl
  exact TL_tk (t1 _) (TL_tk (tk_one (pre_not (by decide) _) (by decide) (by decide)) h)
theorem path_dots(r:List Tk): ∀k n (l:Nms),k+1<=n->l.length+k<=1000->(T.path_l1 true n l).go (dots k++r)=some (some (.inr (l++List.replicate k [77])),xT::r)
 |0,n+1,l,hn,hl=>by rw[T.path_l1,dots,List.cons_append,zFg (by decide),if_neg (by decide)];simp[PT.go]
 |k+1,n+1,l,hn,hl=>by
  have ih:=path_dots r k n (l++[[77]]) (by omega) (by simp;omega)
  rw[T.path_l1,dots,List.cons_append,List.cons_append,go_kd_yes (by decide),if_pos rfl]
  have hn: ∀(f:List UInt8->PT ((Nms×Bool) ⊕ Nms))(r:List Tk),((T.name 2).bind f).go ((2,[77])::r)=(f [77]).go r:=fun f r=>rfl
  have hi: ∀(f:Bool->PT ((Nms×Bool) ⊕ Nms))(r:List Tk),((if true=true then PT.is [46] fun c=>.ret (!c) else .ret false:PT Bool).bind f).go ((7,[46])::r)=(f false).go ((7,[46])::r):=fun f r=>rfl
  rw[hn,go_ofO (appA (by decide) (by simp only[List.length_cons,List.length_nil];omega)),hi,if_neg (by decide),go_want (by decide),ih]
  simp[List.replicate_succ]
def dotv(k:Nat):zKZ:=zKZ.mk 23 0 [] (List.replicate k [77]++[[120]]) []
theorem dots_ev(k:Nat)(hk:k<=900):EV T.expr (dots k++[eT]) (dotv k) [eT]:=by
 have hat:EV T.atom (dots k++[eT]) (dotv k) [eT]:=by
  refine⟨k+3,fun n hn=>?_⟩
  obtain⟨m,rfl⟩: ∃m,n=m+1:=⟨n-1,by omega⟩
  obtain⟨t,ts,hd,h4,h5,hnm⟩: ∃t ts,dots k++[eT]=t::ts∧eqI t.1 4=false∧eqI t.1 5=false∧∀(x y:PT zKZ),(T.named.bind fun b=>if b=true then x else y:PT zKZ).go (t::ts)=x.go (t::ts):=by
   cases k with
   |zero=>exact⟨xT,[eT],rfl,rfl,rfl,fun x y=>rfl⟩
   |succ k=>exact⟨(2,[77]),(7,[46])::dots k++[eT],rfl,rfl,rfl,fun x y=>rfl⟩
  have hp:(T.path m true).go (dots k++[eT])=some (some (List.replicate k [77]++[[120]],true),[eT]):=by
   rw[T.path,zFA (path_dots [eT] k m [] (by omega) (by simp;omega))]
   simp only[Sum.elim_inr,List.nil_append]
   have hn: ∀(f:List UInt8->PT (Nms×Bool))(r:List Tk),((T.name 1).bind f).go (xT::r)=(f [120]).go r:=fun f r=>rfl
   rw[hn,go_ofO (appA (by decide) (by simp;omega))]
   rfl
  rw[hd] at hp ⊢
  rw[T.atom,zFg h4,if_neg (by decide),zFg h5,if_neg (by decide),hnm,zFA hp]
  rfl
 cases k with
 |zero=>exact zGy (by decide) (by decide) ends_e (zGr (by decide) hat (NL_no end_nb))
 |succ k=>exact zGy (by decide) (by decide) ends_e (zGr (by decide) hat (NL_no end_nb))
theorem wf_dotv(k:Nat):k<=7↔WF (dotv k) false:=by
 constructor
 ·intro hk
  have key: ∀k,k<=7->∀m,zBY (m+60) (dotv k) false=some true:=fun k hk m=>by
   obtain rfl|rfl|rfl|rfl|rfl|rfl|rfl|rfl:k=0∨k=1∨k=2∨k=3∨k=4∨k=5∨k=6∨k=7:=by omega
   all_goals kernel_rfl
  have ho:Ev (fun n=>zBY n (dotv k) false) true:=by
   refine⟨60,fun n hn=>?_⟩
   obtain⟨m,rfl⟩: ∃m,n=m+60:=⟨n-60,by omega⟩
   exact key k hk m
  exact .mk ho ⟨0,fun n _=>by rfl⟩ fun x hx=>by cases hx
 ·intro h
  cases h with
  |mk ho _ _=>
   by_cases hk:k<=7
   ·exact hk
   ·exfalso
    have e: ∀(l:Nms) n,zBY n (zKZ.mk 23 0 [] l []) false=(zBZ n l true).bind fun v=>some v:=fun l n=>by rfl
    have hf:Ev (fun n=>zBY n (dotv k) false) false:=⟨0,fun n _=>by
     show zBY n (dotv k) false=some false
     rw[dotv,e,zBZ,if_pos]
     ·rfl
     ·simp only[List.length_append,List.length_replicate,List.length_cons,List.length_nil,Bool.or_eq_true,ltI,decide_eq_true_eq];omega⟩
    cases ho.unique hf
def more:Nat->List Tk
 |0=>[]
 |k+1=>(7,[44])::xT::more k
theorem commas_tl: ∀k,TL (Lib.repeatL [120,44,32] k++[120,41]) (xT::(more k++[rp]))
 |0=>by
  have t1:tk [120,41]=some (1,[120],[41]):=by rfl
  exact TL_tk t1 (TL_close TL_nil)
 |k+1=>by
  have h:=commas_tl k
  rw[zFe,List.append_assoc]
  have t1: ∀u:List UInt8,tk (120::44::u)=some (1,[120],44::u):=fun u=>by rfl
  exact TL_tk (t1 _) (TL_tk (tk_one (pre_not (by decide) _) (by decide) (by decide)) (TL_sp h))
theorem sep_more(r:List Tk): ∀k (l:List zKZ),l.length+k<=1000->∃N,∀n j,N<=n->N<=j->(T.sep [44] (T.expr n) j l).go (more k++rp::r)=some (some (l++List.replicate k vx),rp::r)
 |0,l,hl=>⟨1,fun n j hn hj=>by
  obtain⟨j,rfl⟩: ∃m,j=m+1:=⟨j-1,by omega⟩
  rw[T.sep,more,List.nil_append,zC5 (by decide),if_neg (by decide)];simp[PT.go]⟩
 |k+1,l,hl=>by
  obtain⟨N,ih⟩:=sep_more r k (l++[vx]) (by simp;omega)
  have hx: ∃N,∀n,N<=n->(T.expr n).go (xT::(more k++rp::r))=some (some vx,more k++rp::r):=by
   cases k with
   |zero=>exact expr_x ends_rp r
   |succ k=>exact expr_x ends_comma _
  obtain⟨N2,hx⟩:=hx
  refine⟨max N N2+1,fun n j hn hj=>?_⟩
  obtain⟨j,rfl⟩: ∃m,j=m+1:=⟨j-1,by omega⟩
  rw[T.sep,more,List.cons_append,List.cons_append,zJk (by decide),if_pos rfl,zFA (hx n (by omega)),go_ofO (appA (by decide) (by simp only[List.length_cons,List.length_nil];omega)),ih n j (by omega) (by omega)]
  simp[List.replicate_succ]
def tupv(k:Nat):zKZ:=if k=0 then vx else zKZ.mk 27 0 [] [] (List.replicate (k+1) vx)
theorem tup_ev(k:Nat)(hk:k<=900):EV T.expr (lp::(xT::(more k++[rp]))++[eT]) (tupv k) [eT]:=by
 have hin:EV T.inside (xT::(more k++rp::[eT])) (tupv k) [eT]:=by
  have hx: ∃N,∀n,N<=n->(T.expr n).go (xT::(more k++rp::[eT]))=some (some vx,more k++rp::[eT]):=by
   cases k with
   |zero=>exact expr_x ends_rp _
   |succ k=>exact expr_x ends_comma _
  obtain⟨N,hx⟩:=hx
  obtain⟨N2,hs⟩:=sep_more [eT] k [vx] (by simp;omega)
  obtain⟨t,ts,hd,hc⟩: ∃t ts,more k++rp::[eT]=t::ts∧isB t [58]=false:=by
   cases k with
   |zero=>exact⟨rp,_,rfl,by decide⟩
   |succ k=>exact⟨(7,[44]),_,rfl,by decide⟩
  refine⟨max N N2+1,fun n hn=>?_⟩
  obtain⟨m,rfl⟩: ∃m,n=m+1:=⟨n-1,by omega⟩
  have hs':=hs m m (by omega) (by omega)
  rw[T.inside,zC5 (by decide),if_neg (by decide),zC5 (by decide),if_neg (by decide),zFA (hx m (by omega)),hd,zC5 hc,if_neg (by decide),<-hd,zFA hs',go_want (by decide)]
  unfold tupv
  by_cases h0:k=0
  ·subst h0;rfl
  ·rw[if_neg h0,if_neg (by simp[eqI];omega)];rfl
 have hat:EV T.atom (lp::(xT::(more k++rp::[eT]))) (tupv k) [eT]:=by
  obtain⟨N,h⟩:=hin
  refine⟨N+1,fun n hn=>?_⟩
  obtain⟨m,rfl⟩: ∃m,n=m+1:=⟨n-1,by omega⟩
  rw[T.atom,zFg (by decide),if_neg (by decide),zFg (by decide),if_neg (by decide)]
  have hn: ∀(x y:PT zKZ)(r:List Tk),(T.named.bind fun b=>if b=true then x else y:PT zKZ).go (lp::r)=y.go (lp::r):=fun x y r=>rfl
  rw[hn,zC5 (by decide),if_neg (by decide),zC5 (by decide),if_neg (by decide),go_want (by decide),zFA (h m (by omega))]
  rfl
 have:=zGy (by decide) (by decide) ends_e (zGr (by decide) hat (NL_no end_nb))
 simpa using this
theorem szL_rep: ∀k,szL (List.replicate k vx)=k∧dpL (List.replicate k vx)<=1
 |0=>⟨rfl,by decide⟩
 |k+1=>by
  obtain⟨h1,h2⟩:=szL_rep k
  rw[List.replicate_succ,szL,dpL,h1]
  have a:szT vx=1:=rfl
  have b:dpT vx=1:=rfl
  rw[a,b]
  omega
theorem bl_tupv(k:Nat):bl 3 (tupv k)=true:=by
 unfold tupv;split<;>rfl
theorem wf_tupv(k:Nat):k<=8↔(WF (tupv k) false∧True):=by
 by_cases h0:k=0
 ·subst h0
  exact⟨fun _=>⟨wf_x,trivial⟩,fun _=>by omega⟩
 have hv:tupv k=zKZ.mk 27 0 [] [] (List.replicate (k+1) vx):=by rw[tupv,if_neg h0]
 have hsh: ∀(L:List zKZ) n,L.length≠1->zBp n (zKZ.mk 27 0 [] [] L)=((zBz n L 3 0 9).bind fun v=>some v).bind fun v=>some v:=fun L n hL=>by
  have e:zBp n (zKZ.mk 27 0 [] [] L)=(if !(eqI (L.length:Int) 1) then (zBz n L 3 0 9).bind fun v118=>some v118 else some false:Option Bool).bind fun b122=>some b122:=by rfl
  rw[e,show eqI (L.length:Int) 1=false from decide_eq_false (by omega)];rfl
 have hm:=many_ev (List.replicate (k+1) vx) 3 0 9
 have hlen:(List.replicate (k+1) vx).length=k+1:=List.length_replicate
 have hs:Ev (fun n=>zBp n (tupv k)) (decide (k<=8)):=by
  have e:(leI 0 ((List.replicate (k+1) vx).length:Int)&&(leI ((List.replicate (k+1) vx).length:Int) 9&&(List.replicate (k+1) vx).all fun x=>bl 3 x))=decide (k<=8):=by
   have a:((List.replicate (k+1) vx).all fun x=>bl 3 x)=true:=List.all_eq_true.2 fun x hx=>by
    have:=List.eq_of_mem_replicate hx
    subst this;rfl
   rw[a,hlen]
   simp only[leI,Bool.and_true]
   by_cases h8:k<=8
   ·rw[zqb h8];simp;omega
   ·rw[decide_eq_false h8];simp;omega
  rw[e] at hm
  exact(Ev.map (fun v=>v) (Ev.map (fun v=>v) hm)).congr fun n=>by rw[hv];exact hsh _ n (by rw[hlen];omega)
 constructor
 ·intro h8
  rw[zqb h8] at hs
  refine⟨?_,trivial⟩
  have ho:Ev (fun n=>zBY n (tupv k) false) true:=⟨0,fun n _=>by
   have e: ∀L,zBY n (zKZ.mk 27 0 [] [] L) false=some true:=fun L=>by rfl
   show zBY n (tupv k) false=some true
   rw[hv];exact e _⟩
  refine .mk ho hs fun x hx=>?_
  rw[hv] at hx
  have:=List.eq_of_mem_replicate hx
  subst this
  rw[hv];exact wf_x
 ·rintro⟨h,_⟩
  cases h with
  |mk _ h2 _=>
   by_cases h8:k<=8
   ·exact h8
   ·rw[decide_eq_false h8] at hs
    cases h2.unique hs
theorem sz_tupv(k:Nat)(hk:k<=900):szT (tupv k)<=20000∧dpT (tupv k)<=400:=by
 unfold tupv
 split
 ·exact⟨by decide,by decide⟩
 ·obtain⟨h1,h2⟩:=szL_rep (k+1)
  rw[szT,dpT,h1]
  omega
theorem catL{x y:List UInt8}(h:x.length+y.length<=1000000):cat x y=some (x++y):=by
 rw[cat,if_pos (by omega)]
theorem rep_M(s:List UInt8)(k:Nat)(hs:s.length<=1000)(hk:k<=1000000):zCO s (k:Int)=some (Lib.repeatL s k):=by
 rw[zCO,if_pos ⟨by omega,by omega,hs⟩];rfl
theorem Ev.at{α:Type}{f:Nat->Option α}{a:α}(h:Ev f a): ∃n,200<=n∧f n=some a:=by
 obtain⟨N,h⟩:=h
 exact⟨max N 200,by omega,h _ (by omega)⟩
theorem zG2(w:UInt8)(n:Int)(h:Rng .u16 n): ∃fuel,zCo fuel w n=some true:=by
 have h1:0<=n:=h.1
 obtain⟨k,hk,hn⟩: ∃k:Nat,k<500∧Int.tmod n 500=(k:Int):=by
  refine⟨(Int.tmod n 500).toNat,?_,?_⟩
  ·have:=Int.tmod_lt_of_pos n (show(0:Int)<500 by decide)
   omega
  ·have:=Int.tmod_nonneg 500 h1
   omega
 have hc:chk .u16 (Int.tmod n 500)=some (k:Int):=by
  rw[hn,chk,if_pos ⟨by show(0:Int)<=_;omega,by show _<=(65535:Int);omega⟩]
 have hc2:chk .i64 (k:Int)=some (k:Int):=chkA (by omega) (by omega)
 have start: ∀fuel,200<=fuel->zCo fuel w n=(some (k:Int)).bind fun n8=>_:=fun fuel hf=>by
  rw[zCo,awake_M hf,obm,if_neg (by decide),hc]
 obtain⟨m,hm,hw⟩: ∃m:Nat,m<5∧Int.tmod (w.toNat:Int) 5=(m:Int):=⟨w.toNat%5,Nat.mod_lt _ (by decide),rfl⟩
 have e8:=sz_tupv k (by omega)
 obtain⟨f1,f2⟩:=sz_fnv k
 obtain⟨a1,a2,a3,a4⟩:=sz_ap k (zKZ.mk 23 0 [] [[102]] [])
 match m,hm with
 |0,_=>
  have g1:cat [40] (Lib.repeatL [120,44,32] k)=some ([40]++Lib.repeatL [120,44,32] k):=catL (by rw[zFk];simp;omega)
  have g2:cat ([40]++Lib.repeatL [120,44,32] k) [120,41]=some ([40]++Lib.repeatL [120,44,32] k++[120,41]):=catL (by simp[zFk];omega)
  have ht:TL ([40]++Lib.repeatL [120,44,32] k++[120,41]) (lp::(xT::(more k++[rp]))):=by
   rw[List.append_assoc]
   refine TL_open (fun r hr=>?_) (commas_tl k)
   cases k with
   |zero=>simp[Lib.repeatL] at hr
   |succ k=>rw[zFe] at hr;simp at hr
  obtain⟨fuel,hf,he⟩:=(zFn (by simp[zFk];omega) ht (tup_ev k (by omega)) (k:Int) 8 (bl_tupv k) ⟨fun g=>⟨((wf_tupv k).1 (by omega)).1,e8.1,e8.2⟩,fun g=>by have:=(wf_tupv k).2 ⟨g.1,trivial⟩;omega⟩).at
  refine⟨fuel,?_⟩
  rw[start fuel hf,obm,hw,if_pos (by decide),hc2,obm,rep_M _ _ (by decide) (by omega),obm,g1,obm,g2,obm]
  exact he
 |1,_=>
  have g1:cat (Lib.repeatL [102,110,32,120,32,61,62,32] k) [49]=some (Lib.repeatL [102,110,32,120,32,61,62,32] k++[49]):=catL (by rw[zFk];simp;omega)
  obtain⟨fuel,hf,he⟩:=(zFn (by simp[zFk];omega) (fns_tl k) (fns_ev k) (k:Int) 399 (bl_fnv k) ⟨fun g=>⟨wf_fnv k,by omega,by omega⟩,fun g=>by have:=g.2.2;omega⟩).at
  refine⟨fuel,?_⟩
  rw[start fuel hf,obm,hw,if_neg (by decide),if_pos (by decide),hc2,obm,rep_M _ _ (by decide) (by omega),obm,g1,obm]
  exact he
 |2,_=>
  have g1:cat (Lib.repeatL [77,46] k) [120]=some (Lib.repeatL [77,46] k++[120]):=catL (by rw[zFk];simp;omega)
  obtain⟨fuel,hf,he⟩:=(zFn (by simp[zFk];omega) (dots_tl k) (dots_ev k (by omega)) (k:Int) 7 (by rfl) ⟨fun g=>⟨(wf_dotv k).1 (by omega),(show(1:Nat)<=20000 by decide),(show(1:Nat)<=400 by decide)⟩,fun g=>by have:=(wf_dotv k).2 g.1;omega⟩).at
  refine⟨fuel,?_⟩
  rw[start fuel hf,obm,hw,if_neg (by decide),if_neg (by decide),if_pos (by decide),hc2,obm,rep_M _ _ (by decide) (by omega),obm,g1,obm]
  exact he
 |3,_=>
  have g1:cat (Lib.repeatL [40] k) [120]=some (Lib.repeatL [40] k++[120]):=catL (by rw[zFk];simp;omega)
  have g2:cat (Lib.repeatL [40] k++[120]) (Lib.repeatL [41] k)=some (Lib.repeatL [40] k++120::Lib.repeatL [41] k):=(catL (by simp[zFk];omega)).trans (by simp)
  obtain⟨fuel,hf,he⟩:=(zFn (by simp[zFk];omega) (pars_tl k) (pars_ev k) (k:Int) 500 (by rfl) ⟨fun g=>⟨wf_x,by decide,by decide⟩,fun g=>by omega⟩).at
  refine⟨fuel,?_⟩
  rw[start fuel hf,obm,hw,if_neg (by decide),if_neg (by decide),if_neg (by decide),if_pos (by decide),hc2,obm,rep_M _ _ (by decide) (by omega),obm,g1,obm,rep_M _ _ (by decide) (by omega),obm,g2,obm]
  exact he
 |4,_=>
  have g1:cat [102] (Lib.repeatL [32,120] k)=some ([102]++Lib.repeatL [32,120] k):=catL (by rw[zFk];simp;omega)
  have s1:szT (zKZ.mk 23 0 [] [[102]] [])=1:=rfl
  have s2:dpT (zKZ.mk 23 0 [] [[102]] [])=1:=rfl
  obtain⟨fuel,hf,he⟩:=(zFn (by simp[zFk];omega) (aps_tl k) (aps_ev k) (k:Int) 399 (a3 (by rfl)) ⟨fun g=>⟨a4 wf_f (by rfl),by omega,by omega⟩,fun g=>by have:=g.2.2;omega⟩).at
  refine⟨fuel,?_⟩
  rw[start fuel hf,obm,hw,if_neg (by decide),if_neg (by decide),if_neg (by decide),if_neg (by decide),if_pos (by decide),hc2,obm,rep_M _ _ (by decide) (by omega),obm,g1,obm]
  exact he
end Go.Proofs.YtcbjbgiboimgaaaGreatDoor
