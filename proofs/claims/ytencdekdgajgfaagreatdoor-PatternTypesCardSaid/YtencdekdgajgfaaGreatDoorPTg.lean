/- For every input the law PatternTypes returns true. Part 7 of 21. No condition. -/
import Derived.Test.YtencdekdgajgfaaGreatDoorPTf
import Derived.Lib.Split
import Derived.Lib.SplitLaws
set_option linter.unusedVariables false
set_option linter.unnecessarySimpa false
set_option linter.unusedSimpArgs false
set_option maxRecDepth 100000
set_option maxHeartbeats 1000000
namespace Go.Proofs.YtencdekdgajgfaaGreatDoor
open Go
def cons1(c:UInt8):List (List UInt8)->List (List UInt8)
 |[]=>[[c]]
 |l::ls=>(c::l)::ls
theorem split_hit(c:UInt8)(t s:List UInt8)(h:(c::t).isPrefixOf s=true):Lib.split s (c::t)=[]::Lib.split (s.drop (c::t).length) (c::t):=by
 have hi:Lib.index s (c::t)=0:=by
  cases s with
  |nil=>cases h
  |cons d s=>rw[Lib.index,if_pos h]
 have hc:=Lib.count_hit (s:=s) (sub:=c::t) (i:=0) (by simp) hi
 unfold Lib.split
 rw[hc,Nat.zero_add,Nat.add_comm 1,Lib.splitK,hi]
 simp
theorem split_miss(c d:UInt8)(t s:List UInt8)(h:(c::t).isPrefixOf (d::s)=false):Lib.split (d::s) (c::t)=cons1 d (Lib.split s (c::t)):=by
 have hi:Lib.index (d::s) (c::t)=if Lib.index s (c::t)== -1 then -1 else Lib.index s (c::t)+1:=by
  rw[Lib.index,if_neg (by simp[h])]
 have hge:=Lib.index_ge s (c::t)
 by_cases h0:Lib.index s (c::t)= -1
 ·rw[h0] at hi
  have hi':Lib.index (d::s) (c::t)= -1:=by rw[hi];rfl
  unfold Lib.split
  rw[Lib.count_miss h0,Lib.count_miss hi']
  rfl
 ·obtain⟨i,hi1⟩: ∃i:Nat,Lib.index s (c::t)=i:=⟨(Lib.index s (c::t)).toNat,by omega⟩
  have hb: ¬(Lib.index s (c::t)== -1)=true:=fun e=>h0 (beq_iff_eq.1 e)
  rw[if_neg hb,hi1] at hi
  have hi2:Lib.index (d::s) (c::t)=((i+1:Nat):Int):=by rw[hi];rfl
  have c1:=Lib.count_hit (s:=s) (sub:=c::t) (i:=i) (by simp) hi1
  have c2:=Lib.count_hit (s:=d::s) (sub:=c::t) (i:=i+1) (by simp) hi2
  have e:(d::s).drop (i+1+(c::t).length)=s.drop (i+(c::t).length):=by
   rw[show i+1+(c::t).length=(i+(c::t).length)+1 by omega,List.drop_succ_cons]
  rw[e] at c2
  unfold Lib.split
  rw[c1,c2,Nat.add_comm 1,Lib.splitK,Lib.splitK,hi1,hi2]
  have n1: ¬(((i:Nat):Int)== -1)=true:=fun e=>by have:=beq_iff_eq.1 e;omega
  have n2: ¬(((i+1:Nat):Int)== -1)=true:=fun e=>by have:=beq_iff_eq.1 e;omega
  rw[if_neg n1,if_neg n2]
  have t1:((i+1:Nat):Int).toNat=i+1:=by omega
  have t2:((i:Nat):Int).toNat=i:=by omega
  rw[t1,t2,e,Nat.add_zero,Nat.add_zero,List.take_succ_cons]
  rfl
theorem notPre{c d:UInt8}{t s:List UInt8}(h:d≠c):(c::t).isPrefixOf (d::s)=false:=by
 rw[List.isPrefixOf_cons_cons]
 have:(c==d)=false:=by simpa using fun e:c=d=>h e.symm
 rw[this];rfl
theorem split_part(c:UInt8)(t b:List UInt8): ∀a:List UInt8,c∉a->Lib.split (a++(c::t)++b) (c::t)=a::Lib.split b (c::t)
 |[],_=>by
  rw[List.nil_append,split_hit c t _ (by rw[List.isPrefixOf_iff_prefix];exact⟨b,rfl⟩),List.drop_append_of_le_length (Nat.le_refl _),List.drop_length,List.nil_append]
 |d::a,h=>by
  have h1:d≠c:=fun e=>h (by simp[e])
  rw[List.cons_append,List.cons_append,split_miss c d t _ (notPre h1),split_part c t b a (fun e=>h (List.mem_cons_of_mem _ e))]
  rfl
theorem index_part(c:UInt8)(t b:List UInt8): ∀a:List UInt8,c∉a->Lib.index (a++(c::t)++b) (c::t)=(a.length:Nat)
 |[],_=>by
  rw[List.nil_append,List.cons_append,Lib.index,if_pos (by rw[<-List.cons_append,List.isPrefixOf_iff_prefix];exact⟨b,rfl⟩)];rfl
 |d::a,h=>by
  have h1:d≠c:=fun e=>h (by simp[e])
  rw[List.cons_append,List.cons_append,Lib.index,if_neg (by rw[notPre h1];simp),index_part c t b a (fun e=>h (List.mem_cons_of_mem _ e))]
  rw[if_neg (fun e=>by have:=beq_iff_eq.1 e;omega)]
  simp
theorem cut_part(c:UInt8)(t b a:List UInt8)(h:c∉a):Lib.cut (a++(c::t)++b) (c::t)=(a,b,true):=by
 unfold Lib.cut
 rw[index_part c t b a h,if_pos (by omega)]
 have e:((a.length:Nat):Int).toNat=a.length:=by omega
 rw[e,List.append_assoc,List.take_left',List.drop_append,List.drop_append]
 ·simp
 ·rfl
end Go.Proofs.YtencdekdgajgfaaGreatDoor
