/- For every input the law PatternBack returns true. Part 19 of 23. No condition. -/
import Derived.Test.YtbnahfdbjaohkaaGreatDoorPBr
import Derived.Test.YtbnahfdbjaohkaaGreatDoorRows
import Derived.Shelf.Vars
import Derived.Lib.LaidU8
import Derived.Lib.LaidTab
import Derived.Stop.Joined
import Derived.Stop.LaidErr
set_option linter.unusedVariables false
set_option linter.unnecessarySimpa false
set_option linter.unusedSimpArgs false
set_option maxRecDepth 100000
set_option maxHeartbeats 4000000
namespace Go.Proofs.YtbnahfdbjaohkaaGreatDoor
open Go Go.Abs
theorem op24(n:Nat):zHS Tryz.prog n 24 zJx.c (fun _=>True):=by
 induction n using Nat.strongRecOn with
 |_ n ih=>
  exact zJS Tryz.underlying24 (N:=4) (by kernel_rfl) (fun p=>⟨p.1,p.2.1,p.2.2.1,p.2.2.2.1⟩) (fun p=>by simp) (fun _ _=>trivial) (fun k hk=>
   zEt rfl (k:=1) (by kernel_rfl) (zIz Tryz.underlying3 k) (zEt rfl (k:=1) (by kernel_rfl) (zIz Tryz.underlying3 k)
    (zEt rfl (k:=1) (by kernel_rfl) (opensAt_str Tryz.underlying9 k)
     (zEt rfl (k:=1) (by kernel_rfl) (opensAt_slice Tryz.underlying22 (m:=4) (b:=56) (by kernel_rfl) (by kernel_rfl) (by decide) (fun a=>by simp) (fun j hj=>ih j (by omega))) (fieldsAt_nil (by decide))))))
theorem own:ownKnob Tryz.prog.godebug=none:=by kernel_rfl
theorem laid:laidOutB Tryz.prog=true:=by kernel_rfl
theorem tab_reads{W:World}{name:String}{k:IntKind}{zs:List Int}{g:Nat}{t e:TypeId}{n:Nat}
 (hg:Tryz.prog.globalNamed name=some g) (hty:(Tryz.prog.globals[g]?).map (·.type)=some t) (ht:Tryz.prog.underlying t=some (.array n e)) (he:Tryz.prog.underlying e=some (.int k)) (hce:Tryz.prog.cellsOf e=1) (hct:Tryz.prog.cellsOf t=n)
 (h:Lib.VarReads Tryz.prog W name (Lib.tabData k zs)): ∃ty fr,W.heap[g]? =some (.cells (zs.map fun z=>Value.int k z).toArray ty fr):=by
 obtain⟨g',t',cs,fuel,p,hg',ht',hvar,hd⟩:=h
 obtain rfl:=zqa (hg.symm.trans hg')
 obtain rfl:=zqa (hty.symm.trans ht')
 have hcs:=Lib.cells_of_tab ht he hce hct hd
 unfold World.var? at hvar
 rw[hg] at hvar
 simp only[Option.bind_some] at hvar
 split at hvar
 ·rename_i c ty fr hh
  cases hvar
  refine⟨ty,fr,?_⟩
  rw[hh,<-hcs]
 ·cases hvar
theorem laid_drop{P:Program}{W:World}: ∀(k:Nat)(l:List (String×DataW Unit)),laidMet P l W->laidMet P (l.drop k) W
 |0,l,h=>by rw[List.drop_zero];exact h
 |k+1,[],h=>by rw[List.drop_nil];exact h
 |k+1,x::l,h=>laid_drop k l (laidMet.tail h)
theorem laid_at{P:Program}{W:World}{l r:List (String×DataW Unit)}{x:String×DataW Unit}(k:Nat)(h:laidMet P l W)(e:l.drop k=x::r):laidMet P (x::r) W:=by
 rw[<-e];exact laid_drop k l h
theorem err_star: "*" ++ "errors.errorString" = "*errors.errorString" :=by decide
theorem err_row (u:TypeId) (h:Tryz.prog.typeName? 3 u=some "*errors.errorString"):u=247:=
 typeName_ptr_named (nm:= "errors.errorString") (by rw [err_star];kernel_rfl) (by kernel_rfl) (by decide) u (by rw [err_star];exact h)
theorem err_var {n:String} {text:List UInt8} {r:List (String×DataW Unit)} {W:World} {g:Nat} (h:laidMet Tryz.prog ((n,.iface "*errors.errorString" (.ptr (.agg [.lit (.string text)])))::r) W) (hg:Tryz.prog.globalNamed n=some g)
 (ht:(Tryz.prog.globals[g]?).map (·.type)=some 117): ∃t v,W.cell? ⟨g,0,none⟩=some (.iface t v):=by
 obtain⟨a,s,hv,_⟩:=laid_sentinel h hg ht Tryz.underlying117 err_row Tryz.underlying247 Tryz.underlying249 rfl rfl Tryz.underlying9 (by kernel_rfl) (by kernel_rfl)
 exact⟨_,_,World.var?_cell hg hv 0⟩
theorem glob {Q:World→Prop} (hQ: ∀W,Q W→Lib.VarReads Tryz.prog W "internal/strconv.uint64pow10" (Lib.tabData .u64 Lib.pow10Tab)∧Lib.VarReads Tryz.prog W "strings.asciiSpace" (Lib.tabData .u8 Lib.asciiSpaceTab)) (hE: ∀W,Q W→∀i,i∈ge→∃t v,W.cell? ⟨i,0,none⟩=some (.iface t v)):
 ∀W:World,W.ShapedOpen Tryz.prog->Q W->GOk (fun x=>W.cell? x)∧Tabs W:=fun W h hq=>by
 obtain⟨h1,h2⟩:=hQ W hq
 refine⟨⟨fun i hi=>?_,hE W hq⟩,fun t ht=>?_⟩
 ·obtain rfl:i=0:=by simpa[gl] using hi
  exact cell_of_shapedOpen_int h (t:=3) (zero:=#[.int .i64 0]) (k:=.i64) (of_decide_eq_true (by kernel_rfl)) (by kernel_rfl) rfl (by kernel_rfl) (by kernel_rfl) Tryz.underlying3
 simp only[tb,tb1,tb2,List.cons_append,List.nil_append,List.mem_cons,List.not_mem_nil,or_false] at ht
 rcases ht with rfl|rfl
 ·exact tab_reads (t:=228) (e:=133) (by kernel_rfl) (by kernel_rfl) (n:=20) (by kernel_rfl) (by kernel_rfl) (by kernel_rfl) (by kernel_rfl) h1
 ·exact tab_reads (t:=242) (e:=5) (by kernel_rfl) (by kernel_rfl) (n:=256) (by kernel_rfl) (by kernel_rfl) (by kernel_rfl) (by kernel_rfl) h2
end Go.Proofs.YtbnahfdbjaohkaaGreatDoor
