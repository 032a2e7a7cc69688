/- CanonSteps holds: for every input the law returns true. No condition. Part 9 of 19. No condition. -/
import Derived.Test.YtkdhppfdiagglaaGreatDoorCSh
import Derived.Lib.Walk
set_option linter.unusedVariables false
set_option linter.unnecessarySimpa false
set_option linter.unusedSimpArgs false
set_option maxRecDepth 100000
set_option maxHeartbeats 4000000
namespace Go.Proofs.YtkdhppfdiagglaaGreatDoor
open Go Go.Abs Go.RowKit
theorem zJc{P:Program}{f:FuncId}{args:List AV}{res:AV}(he:Abs.Enters P f)(h: ∀(imm:Addr->Option Value)(w:World)(vals:Array Value),RepL imm [] args vals->Calls P f vals w fun e w'=> ∃v,e=.returned v∧Rep imm [] res v∧w'=w):Pure P f args res:=
 ⟨he,fun imm w vals him _ _ ha=>(h imm w vals ha).mono fun e w' ⟨v,h1,h2,h3⟩=>by
  subst h3
  exact⟨imm,v,h1,h2,fun _ _ h=>h,him,Below.refl _ _,fun _ _ h=>.inl h⟩⟩
theorem vals2{imm:Addr->Option Value}{x y:AV}{vals:Array Value}(h:RepL imm [] [x,y] vals): ∃a b,vals=#[a,b]∧Rep imm [] x a∧Rep imm [] y b:=by
 obtain⟨a1,a2⟩:=h
 have s2:vals.size=2:=a1
 refine⟨vals.getD 0 undef,vals.getD 1 undef,?_,a2 0 _ rfl,a2 1 _ rfl⟩
 apply Array.ext
 ·simpa using s2
 ·intro i h1 h2
  have:i=0∨i=1:=by omega
  rcases this with rfl|rfl<;>simp[zq6,h1]
theorem zJe{P:Program}{f:FuncId}{args:List AV}{res:AV}(he:Abs.Enters P f) (h: ∀(imm:Addr->Option Value)(w:World)(vals:Array Value),(∀x v,imm x=some v->w.cell? x=some v)->GOk imm->Tabs w->RepL imm [] args vals->
 Calls P f vals w fun e w'=> ∃v,e=.returned v∧Rep imm [] res v∧Below w.heap.size w w'):Pure P f args res:=
 ⟨he,fun imm w vals him hgl htb ha=>(h imm w vals him hgl htb ha).mono fun e w' ⟨v,h1,h2,h3⟩=>by
  refine⟨imm,v,h1,h2,fun _ _ h=>h,fun x u hx=>?_,h3,fun _ _ h=>.inl h⟩
  have hc:=him x u hx
  have hb:=World.block_lt_of_cell? _ _ hc
  unfold World.cell? at hc ⊢
  rw[h3.block _ hb]
  exact hc⟩
theorem bytes_of{s:ByteArray}{l:List UInt8}(h:s.data.toList=l):s=⟨l.toArray⟩:=by
 obtain⟨d⟩:=s
 simp only at h
 subst h
 simp
theorem map_bytes: ∀l:List (List UInt8),(l.map fun b=>(⟨b.toArray⟩:ByteArray)).map (·.data.toList)=l
 |[]=>rfl
 |x::l=>by rw[List.map_cons,List.map_cons,map_bytes l]
end Go.Proofs.YtkdhppfdiagglaaGreatDoor
