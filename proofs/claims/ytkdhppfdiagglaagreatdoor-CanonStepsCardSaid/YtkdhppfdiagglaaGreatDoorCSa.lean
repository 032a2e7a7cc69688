/- CanonSteps holds: for every input the law returns true. No condition. Part 1 of 19. No condition. -/
import Derived.WalkKit
import Derived.Shelf.Strconv.Itoa3
import Derived.Lib.Space
set_option linter.unusedVariables false
set_option linter.unnecessarySimpa false
set_option linter.unusedSimpArgs false
set_option maxRecDepth 100000
set_option maxHeartbeats 4000000
namespace Go.Abs
open Go
variable {P:Program} {ops:Array Oper} {imm:Addr->Option Value} {w:World} {B:List Nat} {a:Act} {o:Oper} {v:Value} {f:FuncId} {α:Type} {x:Operand} {σ:List Nat} {ρ:List Nat} {t:TypeId} {c:Code} {bo:Option Nat} {n:Nat} {i:Nat} {pins:List Nat} {fn:Func} {xs:List Operand} {k:IntKind} {id:Nat}
universe u v
theorem zq1{α:Type u}{l:List α}{a:α}(h:l[i]? =some a): ∃h:i<l.length,l[i]=a:=List.getElem?_eq_some_iff.1 h
theorem zq2{α:Type u}{l:List α}(h:i<l.length):l[i]? =some l[i]:=List.getElem?_eq_getElem h
theorem zq3{α:Type u}{l:List α}{a:α}(h:l[i]? =some a):a∈l:=List.mem_of_getElem? h
theorem zq4{α:Type u}{β:Type v}{l:List α}(f:α->β):(l.map f).length=l.length:=List.length_map f
theorem zq5{α:Type u}{l:List α}{a:α}:l.getD i a=(l[i]?).getD a:=List.getD_eq_getElem?_getD
theorem zq6{α:Type u}{xs:Array α}{d:α}:xs.getD i d=(xs[i]?).getD d:=Array.getD_eq_getD_getElem?
theorem zq7(a b:Bool):((a&&b)=true)=(a=true∧b=true):=Bool.and_eq_true a b
theorem zq8{α:Type u}{p:α->Bool}{l:List α}(h:l.all p=true): ∀x,x∈l->p x=true:=List.all_eq_true.1 h
theorem zq9{α:Type u}{a:α}{l:List α}:a∈a::l:=List.mem_cons_self
theorem zqa{α:Type u}{a b:α}(h:some a=some b):a=b:=Option.some.inj h
theorem zqb{p:Prop}[Decidable p](h:p):decide p=true:=decide_eq_true h
theorem zqc{α:Type u}(y:α){a:α}{l:List α}(h:a∈l):a∈y::l:=List.mem_cons_of_mem y h
theorem zqd{α:Type u}{a:α}{l:List α}(h:a∈l): ∃i:Nat,l[i]? =some a:=List.getElem?_of_mem h
theorem zqe{α:Type u}{xs:Array α}(h:i<xs.size):xs[i]? =some xs[i]:=Array.getElem?_eq_getElem h
structure EC where
 size:Nat
 ty:TypeId
 deriving DecidableEq
def inR(k:IntKind)(n:Int):Prop:=
 match k with
 |.i8=> -128<=n∧n<=127
 |.i16=> -32768<=n∧n<=32767
 |.i32=> -2147483648<=n∧n<=2147483647
 |.i64=> -9223372036854775808<=n∧n<=9223372036854775807
 |.u8=>0<=n∧n<=255
 |.u16=>0<=n∧n<=65535
 |.u32=>0<=n∧n<=4294967295
 |.u64=>0<=n∧n<=18446744073709551615
def Rng(k:IntKind)(n:Int):Prop:=inR k n
def eqI(a b:Int):Bool:=decide (a=b)
def ltI(a b:Int):Bool:=decide (a<b)
def leI(a b:Int):Bool:=decide (a<=b)
def eqS(a b:List UInt8):Bool:=decide (a=b)
def ltS(a b:List UInt8):Bool:=Op.bytesLess a b
def eqB(a b:Bool):Bool:=a==b
instance (k : IntKind) (n : Int) : Decidable (inR k n) := by unfold inR; cases k <;> infer_instance
inductive AV where
 |int (k:IntKind) (n:Int)
 |bool (b:Bool)
 |str (s:List UInt8)
 |nilp
 |mptr (b off:Nat)
 |baddr (t:TypeId) (b:Nat)
 |cptr (cells:List AV)
 |nsl
 |osl (ec:EC) (l:List (List AV))
 |osq (ec:EC) (l:List (List AV))
 |sl (l:List (List AV))
 |fn (f:Fn) (first captured:List AV)
 |nilfn
 |iface (t:TypeId) (v:AV)
 |nilif
 |agg (cells:List AV)
 |tup (vs:List AV)
 |msl (b ec n:Nat)
 |e0
 |omp (ks vs:List AV)
 |mpx
 |otup (ec:EC) (l:List (List AV)) (vs:List AV)
 |top
instance : Inhabited AV := ⟨.top⟩
inductive Place where
 |tmp (t:Nat)
 |cell (b o:Nat)
 deriving DecidableEq
inductive Rep (imm:Addr->Option Value):List Nat->AV->Value->Prop where
 |int {σ:List Nat} (k:IntKind) (n:Int) (hb:inR k n):Rep imm σ (.int k n) (.int k n)
 |bool {σ:List Nat} (b:Bool):Rep imm σ (.bool b) (.bool b)
 |str {σ:List Nat} (s:ByteArray) (l:List UInt8) (h:s.data.toList=l) (hb:l.length<=1152921504606846976):Rep imm σ (.str l) (.string s)
 |nilp {σ:List Nat}:Rep imm σ .nilp (.pointer none)
 |mptr {σ:List Nat} (b off k:Nat) (h:σ[b]? =some k):Rep imm σ (.mptr b off) (.pointer (some ⟨k,off,none⟩))
 |baddr0 {σ:List Nat} (t:TypeId) (b:Nat) (h:b<σ.length):Rep imm σ (.baddr t b) (.pointer none)
 |baddr {σ:List Nat} (t:TypeId) (b k:Nat) (h:σ[b]? =some k):Rep imm σ (.baddr t b) (.pointer (some ⟨k,0,none⟩))
 |cptr {σ:List Nat} (cells:List AV) (a:Addr) (vs:Nat->Value) (h: ∀(j:Nat)(x:AV),cells[j]? =some x->imm (a.add j)=some (vs j))
  (r: ∀(j:Nat)(x:AV),cells[j]? =some x->Rep imm [] x (vs j)):Rep imm σ (.cptr cells) (.pointer (some a))
 |nsl {σ:List Nat}:Rep imm σ .nsl (.slice none 0 0)
 |osl0 {σ:List Nat} (ec:EC):Rep imm σ (.osl ec []) (.slice none 0 0)
 |osq0 {σ:List Nat} (ec:EC):Rep imm σ (.osq ec []) (.slice none 0 0)
 |osl {σ:List Nat} (ec:EC) (l:List (List AV)) (a:Addr) (n cap:Nat) (vs:Nat->Nat->Value) (hn:n=l.length) (hc:n<=cap) (hbd:n<=281474976710656)
  (he: ∀(i:Nat)(e:List AV),l[i]? =some e->e.length=ec.size)
  (h: ∀(i:Nat)(e:List AV),l[i]? =some e->∀(j:Nat)(x:AV),e[j]? =some x->imm (a.add (i*ec.size+j))=some (vs i j))
  (r: ∀(i:Nat)(e:List AV),l[i]? =some e->∀(j:Nat)(x:AV),e[j]? =some x->Rep imm [] x (vs i j)):Rep imm σ (.osl ec l) (.slice (some a) n cap)
 |osq {σ:List Nat} (ec:EC) (l:List (List AV)) (a:Addr) (n cap:Nat) (vs:Nat->Nat->Value) (hn:n=l.length) (hc:n<=cap) (hbd:n<=281474976710656)
  (he: ∀(i:Nat)(e:List AV),l[i]? =some e->e.length=ec.size)
  (h: ∀(i:Nat)(e:List AV),l[i]? =some e->∀(j:Nat)(x:AV),e[j]? =some x->imm (a.add (i*ec.size+j))=some (vs i j))
  (r: ∀(i:Nat)(e:List AV),l[i]? =some e->∀(j:Nat)(x:AV),e[j]? =some x->Rep imm [] x (vs i j)):Rep imm σ (.osq ec l) (.slice (some a) n cap)
 |sl0 {σ:List Nat}:Rep imm σ (.sl []) (.slice none 0 0)
 |sl {σ:List Nat} (ec:Nat) (l:List (List AV)) (a:Addr) (n cap:Nat) (vs:Nat->Nat->Value) (hn:n=l.length) (hc:n<=cap) (hbd:n<=281474976710656)
  (he: ∀(i:Nat)(e:List AV),l[i]? =some e->e.length=ec)
  (h: ∀(i:Nat)(e:List AV),l[i]? =some e->∀(j:Nat)(x:AV),e[j]? =some x->imm (a.add (i*ec+j))=some (vs i j))
  (r: ∀(i:Nat)(e:List AV),l[i]? =some e->∀(j:Nat)(x:AV),e[j]? =some x->Rep imm [] x (vs i j)):Rep imm σ (.sl l) (.slice (some a) n cap)
 |fn {σ:List Nat} (f:Fn) (fs cs:List AV) (fv cv:Array Value) (hf:fv.size=fs.length) (hc:cv.size=cs.length)
  (rf: ∀(i:Nat)(x:AV),fs[i]? =some x->Rep imm σ x (fv.getD i undef))
  (rc: ∀(i:Nat)(x:AV),cs[i]? =some x->Rep imm σ x (cv.getD i undef)):Rep imm σ (.fn f fs cs) (.func f fv cv)
 |nilfn {σ:List Nat}:Rep imm σ .nilfn .nilFunc
 |iface {σ:List Nat} (t:TypeId) (x:AV) (v:Value) (r:Rep imm σ x v):Rep imm σ (.iface t x) (.iface t v)
 |nilif {σ:List Nat}:Rep imm σ .nilif .nilIface
 |agg {σ:List Nat} (cs:List AV) (vs:Array Value) (hs:vs.size=cs.length) (r: ∀(i:Nat)(x:AV),cs[i]? =some x->Rep imm σ x (vs.getD i undef)):Rep imm σ (.agg cs) (.agg vs)
 |tup {σ:List Nat} (cs:List AV) (vs:Array Value) (hs:vs.size=cs.length) (r: ∀(i:Nat)(x:AV),cs[i]? =some x->Rep imm σ x (vs.getD i undef)):Rep imm σ (.tup cs) (.tuple vs)
 |msl {σ:List Nat} (b ec n k cap:Nat) (h:σ[b]? =some k) (hc:n<=cap) (hbd:n<=281474976710656):Rep imm σ (.msl b ec n) (.slice (some ⟨k,0,none⟩) n cap)
 |e0 {σ:List Nat} (base:Option Addr):Rep imm σ .e0 (.slice base 0 0)
 |omp {σ:List Nat} (ks vs:List AV) (k:Nat):Rep imm σ (.omp ks vs) (.map (some k))
 |mpx {σ:List Nat} (o:Option Nat):Rep imm σ .mpx (.map o)
 |otup {σ:List Nat} (ec:EC) (l:List (List AV)) (cs:List AV) (vs:Array Value) (hs:vs.size=cs.length+1) (r0:Rep imm σ (.osl ec l) (vs.getD 0 undef))
  (r: ∀(i:Nat)(x:AV),cs[i]? =some x->Rep imm σ x (vs.getD (i+1) undef)):Rep imm σ (.otup ec l cs) (.tuple vs)
 |top {σ:List Nat} (v:Value):Rep imm σ .top v
theorem Rep.monoI{imm imm':Addr->Option Value}(hi: ∀a v,imm a=some v->imm' a=some v){x:AV}(h:Rep imm σ x v):Rep imm' σ x v:=by
 induction h with
 |int k n hb=>exact .int k n hb
 |bool b=>exact .bool b
 |str s l h hb=>exact .str s l h hb
 |nilp=>exact .nilp
 |mptr b off k h=>exact .mptr b off k h
 |baddr0 t b h=>exact .baddr0 t b h
 |baddr t b k h=>exact .baddr t b k h
 |cptr cells a vs h _ ih=>exact .cptr cells a vs (fun j x hj=>hi _ _ (h j x hj)) (fun j x hj=>ih j x hj)
 |nsl=>exact .nsl
 |osl0 ec=>exact .osl0 ec
 |osq0 ec=>exact .osq0 ec
 |osl ec l a n cap vs hn hc hbd he h _ ih=>exact .osl ec l a n cap vs hn hc hbd he (fun i e hi' j x hj=>hi _ _ (h i e hi' j x hj)) (fun i e hi' j x hj=>ih i e hi' j x hj)
 |osq ec l a n cap vs hn hc hbd he h _ ih=>exact .osq ec l a n cap vs hn hc hbd he (fun i e hi' j x hj=>hi _ _ (h i e hi' j x hj)) (fun i e hi' j x hj=>ih i e hi' j x hj)
 |sl0=>exact .sl0
 |sl ec l a n cap vs hn hc hbd he h _ ih=>exact .sl ec l a n cap vs hn hc hbd he (fun i e hi' j x hj=>hi _ _ (h i e hi' j x hj)) (fun i e hi' j x hj=>ih i e hi' j x hj)
 |fn f fs cs fv cv hf hc _ _ ihf ihc=>exact .fn f fs cs fv cv hf hc ihf ihc
 |nilfn=>exact .nilfn
 |iface t x v _ ih=>exact .iface t x v ih
 |nilif=>exact .nilif
 |agg cs vs hs' _ ih=>exact .agg cs vs hs' ih
 |tup cs vs hs' _ ih=>exact .tup cs vs hs' ih
 |msl b ec n k cap h hc hbd=>exact .msl b ec n k cap h hc hbd
 |e0 b=>exact .e0 b
 |omp ks vs k=>exact .omp ks vs k
 |mpx o=>exact .mpx o
 |otup ec l cs vs hs' _ _ ih0 ih=>exact .otup ec l cs vs hs' ih0 ih
 |top v=>exact .top v
theorem Rep.monoS{σ σ':List Nat}(hs: ∀(b k:Nat),σ[b]? =some k->σ'[b]? =some k){x:AV}(h:Rep imm σ x v):Rep imm σ' x v:=by
 induction h generalizing σ' with
 |int k n hb=>exact .int k n hb
 |bool b=>exact .bool b
 |str s l h hb=>exact .str s l h hb
 |nilp=>exact .nilp
 |mptr b off k h=>exact .mptr b off k (hs _ _ h)
 |baddr0 t b h=>exact .baddr0 t b (zq1 (hs b _ (zq2 h))).1
 |baddr t b k h=>exact .baddr t b k (hs _ _ h)
 |cptr cells a vs h r _=>exact .cptr cells a vs h r
 |nsl=>exact .nsl
 |osl0 ec=>exact .osl0 ec
 |osq0 ec=>exact .osq0 ec
 |osl ec l a n cap vs hn hc hbd he h r _=>exact .osl ec l a n cap vs hn hc hbd he h r
 |osq ec l a n cap vs hn hc hbd he h r _=>exact .osq ec l a n cap vs hn hc hbd he h r
 |sl0=>exact .sl0
 |sl ec l a n cap vs hn hc hbd he h r _=>exact .sl ec l a n cap vs hn hc hbd he h r
 |fn f fs cs fv cv hf hc _ _ ihf ihc=>exact .fn f fs cs fv cv hf hc (fun i x hx=>ihf i x hx hs) (fun i x hx=>ihc i x hx hs)
 |nilfn=>exact .nilfn
 |iface t x v _ ih=>exact .iface t x v (ih hs)
 |nilif=>exact .nilif
 |agg cs vs hs' _ ih=>exact .agg cs vs hs' (fun i x hx=>ih i x hx hs)
 |tup cs vs hs' _ ih=>exact .tup cs vs hs' (fun i x hx=>ih i x hx hs)
 |msl b ec n k cap h hc hbd=>exact .msl b ec n k cap (hs _ _ h) hc hbd
 |e0 b=>exact .e0 b
 |omp ks vs k=>exact .omp ks vs k
 |mpx o=>exact .mpx o
 |otup ec l cs vs hs' _ _ ih0 ih=>exact .otup ec l cs vs hs' (ih0 hs) (fun i x hx=>ih i x hx hs)
 |top v=>exact .top v
theorem Rep.mono{imm imm':Addr->Option Value}{σ σ':List Nat}(hi: ∀a v,imm a=some v->imm' a=some v)
 (hs: ∀(b k:Nat),σ[b]? =some k->σ'[b]? =some k) {x:AV} {v:Value} (h:Rep imm σ x v):Rep imm' σ' x v:=(h.monoS hs).monoI hi
mutual
def AV.flat:AV->Bool
 |.mptr _ _=>false
 |.msl _ _ _=>false
 |.baddr _ _=>false
 |.fn _ fs cs=>AV.flatL fs&&AV.flatL cs
 |.iface _ v=>v.flat
 |.agg cs=>AV.flatL cs
 |.tup cs=>AV.flatL cs
 |.otup _ _ cs=>AV.flatL cs
 |_=>true
def AV.flatL:List AV->Bool
 |[]=>true
 |x::l=>x.flat&&AV.flatL l
end
mutual
def AV.under(m:Nat):AV->Bool
 |.mptr b _=>b<m
 |.msl b _ _=>b<m
 |.baddr _ b=>b<m
 |.fn _ fs cs=>AV.underL m fs&&AV.underL m cs
 |.iface _ v=>v.under m
 |.agg cs=>AV.underL m cs
 |.tup cs=>AV.underL m cs
 |.otup _ _ cs=>AV.underL m cs
 |_=>true
def AV.underL(m:Nat):List AV->Bool
 |[]=>true
 |x::l=>x.under m&&AV.underL m l
end
theorem zGU: ∀{l:List AV}(h:AV.flatL l=true){i:Nat}{x:AV}(hx:l[i]? =some x),x.flat=true
 |[],_,i,x,hx=>by simp at hx
 |y::l,h,i,x,hx=>by
  simp only[AV.flatL,zq7] at h
  cases i with
  |zero=>simp at hx;subst hx;exact h.1
  |succ i=>exact zGU h.2 (by simpa using hx)
theorem zC5{m:Nat}: ∀{l:List AV}(h:AV.underL m l=true){i:Nat}{x:AV}(hx:l[i]? =some x),x.under m=true
 |[],_,i,x,hx=>by simp at hx
 |y::l,h,i,x,hx=>by
  simp only[AV.underL,zq7] at h
  cases i with
  |zero=>simp at hx;subst hx;exact h.1
  |succ i=>exact zC5 h.2 (by simpa using hx)
theorem zHx{m:Nat}: ∀{l:List AV}(h: ∀(i:Nat) x,l[i]? =some x->x.under m=true),AV.underL m l=true
 |[],_=>rfl
 |y::l,h=>by
  simp only[AV.underL,zq7]
  exact⟨h 0 y rfl,zHx fun i x hx=>h (i+1) x (by simpa using hx)⟩
theorem Rep.flat{σ σ':List Nat}{x:AV}(h:Rep imm σ x v):x.flat=true->Rep imm σ' x v:=by
 induction h with
 |int k n hb=>exact fun _=>.int k n hb
 |bool b=>exact fun _=>.bool b
 |str s l h hb=>exact fun _=>.str s l h hb
 |nilp=>exact fun _=>.nilp
 |mptr b off k h=>intro hf;simp[AV.flat] at hf
 |baddr0 t b h=>intro hf;simp[AV.flat] at hf
 |baddr t b k h=>intro hf;simp[AV.flat] at hf
 |cptr cells a vs h r _=>exact fun _=>.cptr cells a vs h r
 |nsl=>exact fun _=>.nsl
 |osl0 ec=>exact fun _=>.osl0 ec
 |osq0 ec=>exact fun _=>.osq0 ec
 |osl ec l a n cap vs hn hc hbd he h r _=>exact fun _=>.osl ec l a n cap vs hn hc hbd he h r
 |osq ec l a n cap vs hn hc hbd he h r _=>exact fun _=>.osq ec l a n cap vs hn hc hbd he h r
 |sl0=>exact fun _=>.sl0
 |sl ec l a n cap vs hn hc hbd he h r _=>exact fun _=>.sl ec l a n cap vs hn hc hbd he h r
 |fn f fs cs fv cv hf hc _ _ ihf ihc=>
  intro hfl
  simp only[AV.flat,zq7] at hfl
  exact .fn f fs cs fv cv hf hc (fun i x hx=>ihf i x hx (zGU hfl.1 hx)) (fun i x hx=>ihc i x hx (zGU hfl.2 hx))
 |nilfn=>exact fun _=>.nilfn
 |iface t x v _ ih=>exact fun hf=>.iface t x v (ih (by simpa[AV.flat] using hf))
 |nilif=>exact fun _=>.nilif
 |agg cs vs hs' _ ih=>exact fun hf=>.agg cs vs hs' (fun i x hx=>ih i x hx (zGU (by simpa[AV.flat] using hf) hx))
 |tup cs vs hs' _ ih=>exact fun hf=>.tup cs vs hs' (fun i x hx=>ih i x hx (zGU (by simpa[AV.flat] using hf) hx))
 |msl b ec n k cap h hc hbd=>intro hf;simp[AV.flat] at hf
 |e0 b=>exact fun _=>.e0 b
 |omp ks vs k=>exact fun _=>.omp ks vs k
 |mpx o=>exact fun _=>.mpx o
 |otup ec l cs vs hs' _ _ ih0 ih=>exact fun hf=>.otup ec l cs vs hs' (ih0 rfl) (fun i x hx=>ih i x hx (zGU (by simpa[AV.flat] using hf) hx))
 |top v=>exact fun _=>.top v
theorem Rep.under{x:AV}(m:Nat)(h:Rep imm σ x v):x.under m=true->Rep imm (σ.take m) x v:=by
 induction h with
 |int k n hb=>exact fun _=>.int k n hb
 |bool b=>exact fun _=>.bool b
 |str s l h hb=>exact fun _=>.str s l h hb
 |nilp=>exact fun _=>.nilp
 |mptr b off k h=>
  intro hf
  simp only[AV.under,decide_eq_true_eq] at hf
  exact .mptr b off k (by rw[List.getElem?_take,if_pos hf];exact h)
 |baddr0 t b h=>
  intro hf
  simp only[AV.under,decide_eq_true_eq] at hf
  exact .baddr0 t b (by rw[List.length_take];omega)
 |baddr t b k h=>
  intro hf
  simp only[AV.under,decide_eq_true_eq] at hf
  exact .baddr t b k (by rw[List.getElem?_take,if_pos hf];exact h)
 |cptr cells a vs h r _=>exact fun _=>.cptr cells a vs h r
 |nsl=>exact fun _=>.nsl
 |osl0 ec=>exact fun _=>.osl0 ec
 |osq0 ec=>exact fun _=>.osq0 ec
 |osl ec l a n cap vs hn hc hbd he h r _=>exact fun _=>.osl ec l a n cap vs hn hc hbd he h r
 |osq ec l a n cap vs hn hc hbd he h r _=>exact fun _=>.osq ec l a n cap vs hn hc hbd he h r
 |sl0=>exact fun _=>.sl0
 |sl ec l a n cap vs hn hc hbd he h r _=>exact fun _=>.sl ec l a n cap vs hn hc hbd he h r
 |fn f fs cs fv cv hf hc _ _ ihf ihc=>
  intro hfl
  simp only[AV.under,zq7] at hfl
  exact .fn f fs cs fv cv hf hc (fun i x hx=>ihf i x hx (zC5 hfl.1 hx)) (fun i x hx=>ihc i x hx (zC5 hfl.2 hx))
 |nilfn=>exact fun _=>.nilfn
 |iface t x v _ ih=>exact fun hf=>.iface t x v (ih (by simpa[AV.under] using hf))
 |nilif=>exact fun _=>.nilif
 |agg cs vs hs' _ ih=>exact fun hf=>.agg cs vs hs' (fun i x hx=>ih i x hx (zC5 (by simpa[AV.under] using hf) hx))
 |tup cs vs hs' _ ih=>exact fun hf=>.tup cs vs hs' (fun i x hx=>ih i x hx (zC5 (by simpa[AV.under] using hf) hx))
 |msl b ec n k cap h hc hbd=>
  intro hf
  simp only[AV.under,decide_eq_true_eq] at hf
  exact .msl b ec n k cap (by rw[List.getElem?_take,if_pos hf];exact h) hc hbd
 |e0 b=>exact fun _=>.e0 b
 |omp ks vs k=>exact fun _=>.omp ks vs k
 |mpx o=>exact fun _=>.mpx o
 |otup ec l cs vs hs' _ _ ih0 ih=>exact fun hf=>.otup ec l cs vs hs' (ih0 rfl) (fun i x hx=>ih i x hx (zC5 (by simpa[AV.under] using hf) hx))
 |top v=>exact fun _=>.top v
theorem Rep.isUnder{x:AV}(h:Rep imm σ x v):x.under σ.length=true:=by
 induction h with
 |mptr b off k h=>simpa[AV.under] using(zq1 h).1
 |baddr0 t b h=>simpa[AV.under] using h
 |baddr t b k h=>simpa[AV.under] using(zq1 h).1
 |msl b ec n k cap h hc hbd=>simpa[AV.under] using(zq1 h).1
 |fn f fs cs fv cv hf hc _ _ ihf ihc=>simp only[AV.under,zq7];exact⟨zHx ihf,zHx ihc⟩
 |iface t x v _ ih=>simpa[AV.under] using ih
 |agg cs vs hs' _ ih=>simpa[AV.under] using zHx ih
 |tup cs vs hs' _ ih=>simpa[AV.under] using zHx ih
 |otup ec l cs vs hs' _ _ _ ih=>simpa[AV.under] using zHx ih
 |_=>simp[AV.under]
def gl:List Nat:=[0]
def ge:List Nat:=[1,2]
def GOk(imm:Addr->Option Value):Prop:=(∀i,i∈gl->∃m:Int,imm ⟨i,0,none⟩=some (.int .i64 m))∧∀i,i∈ge->∃t v,imm ⟨i,0,none⟩=some (.iface t v)
theorem GOk.mono{imm imm':Addr->Option Value}(h: ∀x v,imm x=some v->imm' x=some v)(hg:GOk imm):GOk imm':=⟨fun i hi=>by
 obtain⟨m,hm⟩:=hg.1 i hi
 exact⟨m,h _ _ hm⟩,fun i hi=>by
 obtain⟨t,v,hm⟩:=hg.2 i hi
 exact⟨t,v,h _ _ hm⟩⟩
def tb1:List (Nat×IntKind×List Int):=[(3,.u64,Lib.pow10Tab)]
def tb2:List (Nat×IntKind×List Int):=[(4,.u8,Lib.asciiSpaceTab)]
def tb:List (Nat×IntKind×List Int):=tb1++tb2
def Tabs(w:World):Prop:= ∀t,t∈tb->∃ty fr,w.heap[t.1]? =some (.cells (t.2.2.map fun z=>Value.int t.2.1 z).toArray ty fr)
def NoTab(k:Nat):Prop:= ∀t,t∈tb->k≠t.1
theorem Tabs.keep{w w':World}(h:Tabs w)(hk: ∀t,t∈tb->w'.heap[t.1]? =w.heap[t.1]?):Tabs w':=fun t ht=>by
 obtain⟨ty,fr,h1⟩:=h t ht
 exact⟨ty,fr,by rw[hk t ht];exact h1⟩
theorem Tabs.lt(h:Tabs w){t:Nat×IntKind×List Int}(ht:t∈tb):t.1<w.heap.size:=by
 obtain⟨ty,fr,h1⟩:=h t ht
 exact(Array.getElem?_eq_some_iff.1 h1).1
@[simp] def AV.norm1:AV->AV
 |.nsl=>.sl []
 |.e0=>.sl []
 |.osl _ l=>.sl l
 |.osq _ l=>.sl l
 |.omp _ _=>.mpx
 |.otup _ l cs=>.tup (.sl l::cs)
 |x=>x
@[simp] def AV.copy:AV->AV
 |.osl _ l=>.sl l
 |.osq _ l=>.sl l
 |.omp _ _=>.mpx
 |.otup _ l cs=>.tup (.sl l::cs)
 |x=>x
@[simp] def AV.norm:AV->AV
 |.agg cs=>.agg (cs.map AV.norm1)
 |.nsl=>.sl []
 |.e0=>.sl []
 |.osl _ l=>.sl l
 |.osq _ l=>.sl l
 |.omp _ _=>.mpx
 |.otup _ l cs=>.tup (.sl l::cs)
 |x=>x
@[simp] def AV.normR:AV->AV
 |.tup vs=>.tup (vs.map AV.norm)
 |.agg cs=>.agg (cs.map AV.norm1)
 |.nsl=>.sl []
 |.e0=>.sl []
 |.osl _ l=>.sl l
 |.osq _ l=>.sl l
 |.omp _ _=>.mpx
 |.otup _ l cs=>.tup (.sl l::cs)
 |x=>x
section
variable {imm:Addr->Option Value} {σ:List Nat}
theorem rep_nil0(base:Option Addr):Rep imm σ (.sl []) (.slice base 0 0):=by
 cases base with
 |none=>exact .sl0
 |some b=>exact .sl 0 [] b 0 0 (fun _ _=>undef) rfl (Nat.le_refl _) (Nat.zero_le _) (fun k e hk=>by simp at hk) (fun k e hk=>by simp at hk) (fun k e hk=>by simp at hk)
theorem Rep.otupT{ec:EC}{l:List (List AV)}{cs:List AV}(h:Rep imm σ (.otup ec l cs) v):Rep imm σ (.tup (.sl l::cs)) v:=by
 cases h with
 |otup _ _ _ vs hs r0 r=>
  refine .tup _ vs (by simpa using hs) fun i x hx=>?_
  cases i with
  |zero=>
   simp only[List.getElem?_cons_zero,Option.some.injEq] at hx
   subst hx
   generalize vs.getD 0 undef=v0 at r0 ⊢
   cases r0 with
   |osl0=>exact .sl0
   |osl _ _ a n cap vs hn hc hbd he h r=>exact .sl ec.size l a n cap vs hn hc hbd he h r
  |succ i=>exact r i x (by simpa using hx)
theorem Rep.norm1{x:AV}(h:Rep imm σ x v):Rep imm σ x.norm1 v:=by
 cases h with
 |nsl=>exact .sl0
 |osl0 ec=>exact .sl0
 |osq0 ec=>exact .sl0
 |osl ec l a n cap vs hn hc hbd he h r=>exact .sl ec.size l a n cap vs hn hc hbd he h r
 |osq ec l a n cap vs hn hc hbd he h r=>exact .sl ec.size l a n cap vs hn hc hbd he h r
 |int k n hb=>exact .int k n hb
 |bool b=>exact .bool b
 |str s l h hb=>exact .str s l h hb
 |nilp=>exact .nilp
 |mptr b off k h=>exact .mptr b off k h
 |baddr0 t b h=>exact .baddr0 t b h
 |baddr t b k h=>exact .baddr t b k h
 |cptr cells a vs h r=>exact .cptr cells a vs h r
 |sl0=>exact .sl0
 |sl ec l a n cap vs hn hc hbd he h r=>exact .sl ec l a n cap vs hn hc hbd he h r
 |fn f fs cs fv cv hf hc rf rc=>exact .fn f fs cs fv cv hf hc rf rc
 |nilfn=>exact .nilfn
 |iface t x v r=>exact .iface t x v r
 |nilif=>exact .nilif
 |agg cs vs hs r=>exact .agg cs vs hs r
 |tup cs vs hs r=>exact .tup cs vs hs r
 |msl b ec n k cap h hc hbd=>exact .msl b ec n k cap h hc hbd
 |e0 b=>exact rep_nil0 b
 |omp ks vs k=>exact .mpx _
 |mpx o=>exact .mpx o
 |otup ec l cs vs hs r0 r=>exact(Rep.otup ec l cs vs hs r0 r).otupT
 |top v=>exact .top v
theorem Rep.copy{x:AV}(h:Rep imm σ x v):Rep imm σ x.copy v:=by
 cases x with
 |osl ec l=>exact h.norm1
 |osq ec l=>exact h.norm1
 |omp ks vs=>exact h.norm1
 |otup ec l cs=>exact h.otupT
 |_=>exact h
theorem getElem?_map_some{α β:Type}{f:α->β}{l:List α}{y:β}(h:(l.map f)[i]? =some y): ∃x,l[i]? =some x∧y=f x:=by
 rw[List.getElem?_map] at h
 cases hx:l[i]? with
 |none=>simp[hx] at h
 |some x=>simp[hx] at h;exact⟨x,rfl,h.symm⟩
theorem Rep.norm{x:AV}(h:Rep imm σ x v):Rep imm σ x.norm v:=by
 cases x with
 |agg cs=>
  cases h with
  |agg _ vs hs r=>
   refine .agg _ vs (by simpa using hs) fun i y hy=>?_
   obtain⟨x,hx,rfl⟩:=getElem?_map_some hy
   exact(r i x hx).norm1
 |nsl=>exact h.norm1
 |e0=>exact h.norm1
 |osl ec l=>exact h.norm1
 |osq ec l=>exact h.norm1
 |omp ks vs=>exact h.norm1
 |otup ec l cs=>exact h.otupT
 |_=>exact h
theorem Rep.normR{x:AV}(h:Rep imm σ x v):Rep imm σ x.normR v:=by
 cases x with
 |tup cs=>
  cases h with
  |tup _ vs hs r=>
   refine .tup _ vs (by simpa using hs) fun i y hy=>?_
   obtain⟨x,hx,rfl⟩:=getElem?_map_some hy
   exact(r i x hx).norm
 |agg cs=>exact h.norm
 |nsl=>exact h.norm1
 |e0=>exact h.norm1
 |osl ec l=>exact h.norm1
 |osq ec l=>exact h.norm1
 |omp ks vs=>exact h.norm1
 |otup ec l cs=>exact h.otupT
 |_=>exact h
def AV.le(x y:AV):Prop:=y=.top∨y=x∨y=x.norm1∨y=x.norm∨y=x.normR∨y=x.copy∨(x=.nsl∧∃ec,y=.osl ec [])∨(x=.nsl∧∃ec,y=.osq ec [])∨(∃ec l,x=.osl ec l∧y=.osq ec l)
theorem Rep.le{x y:AV}(h:Rep imm σ x v)(hl:x.le y):Rep imm σ y v:=by
 rcases hl with rfl|rfl|rfl|rfl|rfl|rfl|⟨rfl,ec,rfl⟩|⟨rfl,ec,rfl⟩|⟨ec,l,rfl,rfl⟩
 ·exact .top v
 ·exact h
 ·exact h.norm1
 ·exact h.norm
 ·exact h.normR
 ·exact h.copy
 ·cases h;exact .osl0 ec
 ·cases h;exact .osq0 ec
 ·cases h with
  |osl0=>exact .osq0 ec
  |osl _ _ a n cap vs hn hc hbd he h r=>exact .osq ec l a n cap vs hn hc hbd he h r
@[simp] def AV.owns:AV->Bool
 |.osl _ _=>true
 |.osq _ _=>true
 |.omp _ _=>true
 |.otup _ _ _=>true
 |_=>false
@[simp] def AV.owns1:AV->Bool
 |.osl _ _=>true
 |.osq _ _=>true
 |.omp _ _=>true
 |_=>false
@[simp] def AV.one:AV->Bool
 |.agg _|.tup _|.top|.baddr _ _|.otup _ _ _=>false
 |_=>true
theorem Rep.oneCell{x:AV}(h:Rep imm σ x v)(hx:x.one=true):v.oneCell'=true:=by
 cases h<;>first|rfl|simp at hx
@[simp] def AV.cells:AV->List AV
 |.agg cs=>cs
 |x=>[x]
def AV.ofConst1:Value->AV
 |.int k n=>if inR k n then .int k n else .top
 |.bool b=>.bool b
 |.string s=>if s.data.toList.length<=1152921504606846976 then .str s.data.toList else .top
 |.pointer none=>.nilp
 |.slice none 0 0=>.nsl
 |.nilIface=>.nilif
 |.nilFunc=>.nilfn
 |.map none=>.mpx
 |_=>.top
def AV.ofConst:Value->AV
 |.agg cs=>.agg (cs.toList.map AV.ofConst1)
 |v=>AV.ofConst1 v
theorem zKF(v:Value):Rep imm σ (AV.ofConst1 v) v:=by
 unfold AV.ofConst1
 split
 ·split
  ·exact .int _ _ ‹_›
  ·exact .top _
 ·exact .bool _
 ·split
  ·exact .str _ _ rfl ‹_›
  ·exact .top _
 ·exact .nilp
 ·exact .nsl
 ·exact .nilif
 ·exact .nilfn
 ·exact .mpx _
 ·exact .top _
theorem zFD(v:Value):Rep imm σ (AV.ofConst v) v:=by
 unfold AV.ofConst
 split
 ·refine .agg _ _ (by simp) fun i x hx=>?_
  obtain⟨y,hy,rfl⟩:=getElem?_map_some hx
  rw[Array.getElem?_toList] at hy
  rw[zq6,hy]
  exact zKF _
 ·exact zKF _
theorem zIX(v:Value):(AV.ofConst v).owns=false:=by
 unfold AV.ofConst
 split
 ·rfl
 ·unfold AV.ofConst1;repeat (first|rfl|split)
theorem owns_norm1(x:AV):x.norm1.owns=false:=by cases x<;>rfl
theorem owns_norm(x:AV):x.norm.owns=false:=by cases x<;>rfl
theorem owns_normR(x:AV):x.normR.owns=false:=by cases x<;>rfl
theorem zEb(x:AV):x.copy.owns=false:=by cases x<;>rfl
end
variable {args:List AV} {l:List (List AV)} {res:AV} {m:Option Place}
structure Gh where
 imm:Addr->Option Value
 σ:List Nat
 own:Place->Option Nat
def Gh.give(g:Gh)(p:Place)(bo:Option Nat):Gh:={g with own:=fun q=>if q=p then bo else g.own q}
@[simp] theorem Gh.give_imm(g:Gh)(p:Place)(bo:Option Nat):(g.give p bo).imm=g.imm:=rfl
@[simp] theorem Gh.give_σ(g:Gh)(p:Place)(bo:Option Nat):(g.give p bo).σ=g.σ:=rfl
theorem Gh.give_own(g:Gh)(p q:Place)(bo:Option Nat):(g.give p bo).own q=if q=p then bo else g.own q:=rfl
structure AState where
 tmps:Nat->AV
 loans:Nat->Option Place
 n:Nat
 base:Nat
 blocks:List (List AV)
structure Fx where
 w0:World
 g0:Gh
def Fx.T(F:Fx)(k:Nat):Prop:=k∈F.g0.σ∨∃b o,F.g0.own (.cell b o)=some k
def Fx.mine(F:Fx)(k:Nat):Prop:=F.w0.heap.size<=k∨F.T k
def Spare(imm:Addr->Option Value)(w:World)(a:Addr)(lo hi:Nat):Prop:=
 ∀j,lo<=j->j<hi->imm (a.add j)=none∧(∃v,w.cell? (a.add j)=some v)∧w.frozen? (a.add j)=false
def zI0(w:World)(k:Nat):Option (TypeId×Nat):=
 match w.heap[k]? with
 |some (.cells c ty fr)=>if fr.1=fr.2∨fr.1=0 then some (ty,c.size) else none
 |_=>none
def RowAt(w:World)(a:Addr)(ec:EC)(cap:Nat):Prop:=a.off=0∧a.spot=none∧∃m,zI0 w a.block=some (ec.ty,m)∧cap*ec.size<=m
def MapAt(imm:Addr->Option Value)(w:World)(k:Nat)(ks vs:List AV):Prop:=
 ∃es clock,w.heap[k]? =some (.map es clock)∧ks.length=es.size∧vs.length=es.size∧
  ∀(i:Nat) e,es[i]? =some e->∃x y,ks[i]? =some x∧vs[i]? =some y∧Rep imm [] x e.key∧Rep imm [] y e.val
theorem MapAt.mono{imm imm':Addr->Option Value}{w w':World}{k:Nat}{ks vs:List AV}(h:MapAt imm w k ks vs)(hi: ∀a v,imm a=some v->imm' a=some v)
 (hm: ∀es c,w.heap[k]? =some (.map es c)->w'.heap[k]? =some (.map es c)):MapAt imm' w' k ks vs:=by
 obtain⟨es,c,h1,h2,h3,h4⟩:=h
 refine⟨es,c,hm es c h1,h2,h3,fun i e he=>?_⟩
 obtain⟨x,y,e1,e2,e3,e4⟩:=h4 i e he
 exact⟨x,y,e1,e2,e3.monoI hi,e4.monoI hi⟩
def OwnsBy(imm:Addr->Option Value)(w:World)(bo:Option Nat)(x:AV)(v:Value):Prop:=
 match x with
 |.osl ec _=> ∀base n cap,v=.slice base n cap->base=none∨∃a,base=some a∧bo=some a.block∧RowAt w a ec cap∧Spare imm w a (n*ec.size) (cap*ec.size)
 |.osq ec _=> ∀base n cap,v=.slice base n cap->base=none∨∃a,base=some a∧bo=some a.block∧Spare imm w a (n*ec.size) (cap*ec.size)
 |.omp ks vs=> ∀k,v=.map (some k)->bo=some k∧MapAt imm w k ks vs
 |.otup ec _ _=> ∀vs base n cap,v=.tuple vs->vs.getD 0 undef=.slice base n cap->base=none∨∃a,base=some a∧bo=some a.block∧RowAt w a ec cap∧Spare imm w a (n*ec.size) (cap*ec.size)
 |_=>True
theorem OwnsBy.of_not{x:AV}(h:x.owns=false):OwnsBy imm w bo x v:=by
 cases x<;>first|trivial|simp at h
def TG(g:Gh)(w:World):Prop:=Tabs w∧(∀k,k∈g.σ->NoTab k)∧∀p k,g.own p=some k->NoTab k
def Fx.tab(F:Fx):Prop:=Tabs F.w0∧∀k,F.mine k->NoTab k
theorem TG.fx{g:Gh}(h:TG g w):Fx.tab ⟨w,g⟩:=⟨h.1,fun k hk=>by
 rcases hk with hk|hk|⟨b,o,hk⟩
 ·intro t ht e
  have h1:=h.1.lt ht
  have h2:w.heap.size<=k:=hk
  omega
 ·exact h.2.1 k hk
 ·exact h.2.2 _ k hk⟩
structure Ext (F:Fx) (g:Gh) (w:World):Prop where
 gfx:F.tab
 imm: ∀x v,F.g0.imm x=some v->g.imm x=some v
 immNew: ∀x v,g.imm x=some v->F.g0.imm x=some v∨F.mine x.block
 σ: ∀(b k:Nat),F.g0.σ[b]? =some k->g.σ[b]? =some k
 mineσ: ∀k,k∈g.σ->F.mine k
 mineOwn: ∀p k,g.own p=some k->F.mine k
 keep: ∀k,k<F.w0.heap.size->¬F.T k->w.heap[k]? =F.w0.heap[k]?
 size:F.w0.heap.size<=w.heap.size
 os:w.os=F.w0.os
 tape:w.tape=F.w0.tape
 output:w.output=F.w0.output
theorem Ext.tabs{F:Fx}{g:Gh}(h:Ext F g w):Tabs w:=h.gfx.1.keep fun t ht=>h.keep _ (h.gfx.1.lt ht) fun hT=>h.gfx.2 _ (.inr hT) t ht rfl
theorem Ext.tg{F:Fx}{g:Gh}(h:Ext F g w):TG g w:=⟨h.tabs,fun k hk=>h.gfx.2 k (h.mineσ k hk),fun p k hk=>h.gfx.2 k (h.mineOwn p k hk)⟩
theorem TG.callee{g:Gh}(h:TG g w):TG {g with own:=fun p=>match p with|.tmp _=>none|q=>g.own q} w:=⟨h.1,h.2.1,fun p k hk=>by
 cases p with
 |tmp t=>cases hk
 |cell b o=>exact h.2.2 _ k hk⟩
def AV.cellOk(x:AV)(ty:TypeId)(e:Prop):Prop:=x.one=true∨(e∧∃b,x=.baddr ty b)
theorem AV.cellOk.imp{x:AV}{ty:TypeId}{e e':Prop}(h:x.cellOk ty e)(he:e->e'):x.cellOk ty e':=h.elim .inl fun⟨h1,h2⟩=>.inr ⟨he h1,h2⟩
structure Sto (g:Gh) (bs:List (List AV)) (w:World):Prop where
 gok:GOk g.imm
 imm: ∀x v,g.imm x=some v->w.cell? x=some v
 immσ: ∀x v,g.imm x=some v->x.block∉g.σ
 len:g.σ.length=bs.length
 nodup:g.σ.Nodup
 blk: ∀(i:Nat) blk k,bs[i]? =some blk->g.σ[i]? =some k->∃c ty,w.heap[k]? =some (.cells c ty (0,0))∧blk.length<=c.size∧
  ∀(j:Nat) x,blk[j]? =some x->x.cellOk ty (blk.length=c.size)∧Rep g.imm g.σ x (c.getD j undef)∧OwnsBy g.imm w (g.own (.cell i j)) x (c.getD j undef)
 ownσ: ∀p k,g.own p=some k->k∉g.σ∧k<w.heap.size
 ownInj: ∀p q k,g.own p=some k->g.own q=some k->p=q
def LoanOk(g:Gh)(w:World)(tmps:Array Value)(v:Value):Place->Prop
 |.tmp t=>v=tmps.getD t undef
 |.cell b o=> ∃k,g.σ[b]? =some k∧w.cell? ⟨k,o,none⟩=some v
structure Sim (F:Fx) (g:Gh) (s:AState) (a:Act) (w:World):Prop where
 ext:Ext F g w
 sto:Sto g s.blocks w
 size:s.n=a.tmps.size
 tmps: ∀(t:Nat),Rep g.imm g.σ (s.tmps t) (a.tmps.getD t undef)∧OwnsBy g.imm w (g.own (.tmp t)) (s.tmps t) (a.tmps.getD t undef)
 loans: ∀t p,s.loans t=some p->LoanOk g w a.tmps (a.tmps.getD t undef) p
 defers:a.defers=[]
 base:F.g0.σ.length<=s.base
def Floating(F:Fx)(g:Gh)(w:World)(bo:Option Nat):Prop:=
 ∀k,bo=some k->(∀p,g.own p≠some k)∧F.mine k∧k<w.heap.size∧k∉g.σ
theorem Floating.none{F:Fx}{g:Gh}{w:World}:Floating F g w none:=fun _ h=>by cases h
def AState.get(s:AState)(t:Nat):AV:=s.tmps t
def AState.put(s:AState)(d:Nat)(x:AV):AState:=
 if d<s.n then {s with tmps:=fun t=>if t=d then x else s.tmps t,loans:=fun t=>if t=d then none else if s.loans t=some (.tmp d) then none else s.loans t} else s
def AState.putO(s:AState)(d:Option Nat)(x:AV):AState:=
 match d with
 |some d=>s.put d x
 |none=>s
def AState.setCell(s:AState)(b o:Nat)(x:AV):AState:=
 {s with blocks:=s.blocks.set b ((s.blocks.getD b []).set o x),loans:=fun t=>if s.loans t=some (.cell b o) then none else s.loans t}
def AState.degrade(s:AState):Place->AState
 |.tmp t=>{s with tmps:=fun u=>if u=t then (s.tmps t).copy else s.tmps u}
 |.cell b o=>{s with blocks:=s.blocks.set b ((s.blocks.getD b []).set o (((s.blocks.getD b []).getD o .top).copy))}
theorem zFI(l:Array α)(d t:Nat)(v z:α):(l.setIfInBounds d v).getD t z=if t=d∧d<l.size then v else l.getD t z:=by
 simp only[zq6,Array.getElem?_setIfInBounds]
 by_cases h:d=t
 ·subst h;by_cases h2:d<l.size<;>simp[h2]
 ·simp[h,Ne.symm h]
theorem getElem?_set_cases{l:List α}{d t:Nat}{x y:α}(h:(l.set d x)[t]? =some y):(t=d∧d<l.length∧y=x)∨(t≠d∧l[t]? =some y):=by
 rw[List.getElem?_set] at h
 by_cases e:d=t
 ·subst e
  by_cases h2:d<l.length
  ·simp[h2] at h;exact .inl ⟨rfl,h2,h.symm⟩
  ·simp[h2] at h
 ·simp[e] at h;exact .inr ⟨fun h=>e h.symm,h⟩
theorem zB7{l:List α}(z:α)(h:i<l.length):l[i]? =some (l.getD i z):=by
 rw[zq5,zq2 h];rfl
theorem zBi(s:AState)(d:Nat)(x:AV):(s.put d x).blocks=s.blocks:=by unfold AState.put;split<;>rfl
theorem put_base(s:AState)(d:Nat)(x:AV):(s.put d x).base=s.base:=by unfold AState.put;split<;>rfl
theorem put_n(s:AState)(d:Nat)(x:AV):(s.put d x).n=s.n:=by unfold AState.put;split<;>rfl
theorem LoanOk.put{g:Gh}{tmps:Array Value}{v u:Value}{d:Nat}{p:Place}(hp:p≠.tmp d)(h:LoanOk g w tmps v p):LoanOk g w (tmps.setIfInBounds d u) v p:=by
 cases p with
 |tmp t=>
  simp only[LoanOk] at h ⊢
  rw[zFI,if_neg (fun e=>hp (by rw[e.1]))];exact h
 |cell b o=>exact h
theorem Sim.putTmp{F:Fx}{g:Gh}{s:AState}(h:Sim F g s a w){x:AV}(d:Nat)(bo:Option Nat)
 (hr:Rep g.imm g.σ x v) (ho:OwnsBy g.imm w bo x v) (hf:Floating F g w bo):Sim F (g.give (.tmp d) bo) (s.put d x) (a.put (some d) v) w where
 ext:={h.ext with
  mineOwn:=fun p k hk=>by
   rw[Gh.give_own] at hk;split at hk
   ·exact(hf k hk).2.1
   ·exact h.ext.mineOwn p k hk}
 sto:=by
  rw[zBi]
  exact {h.sto with
   blk:=fun i blk k hb hk=>by
    obtain⟨c,ty,h1,h2,h3⟩:=h.sto.blk i blk k hb hk
    exact⟨c,ty,h1,h2,fun j x hx=>by simpa[Gh.give_own] using h3 j x hx⟩
   ownσ:=fun p k hk=>by
    rw[Gh.give_own] at hk;split at hk
    ·exact⟨(hf k hk).2.2.2,(hf k hk).2.2.1⟩
    ·exact h.sto.ownσ p k hk
   ownInj:=fun p q k hp hq=>by
    rw[Gh.give_own] at hp hq
    split at hp<;>split at hq
    ·rename_i e1 e2;rw[e1,e2]
    ·exact((hf k hp).1 q hq).elim
    ·exact((hf k hq).1 p hp).elim
    ·exact h.sto.ownInj p q k hp hq}
 size:=by rw[put_n];simpa[Act.put] using h.size
 tmps:=fun t=>by
  have ht:=h.tmps t
  simp only[Act.put,Gh.give_imm,Gh.give_σ]
  rw[zFI,Gh.give_own]
  by_cases hd:d<s.n
  ·by_cases e:t=d
   ·subst e
    have h1:(s.put t x).tmps t=x:=by simp[AState.put,hd]
    rw[h1,if_pos ⟨rfl,by rw[<-h.size];exact hd⟩,if_pos rfl]
    exact⟨hr,ho⟩
   ·have h1:(s.put d x).tmps t=s.tmps t:=by simp[AState.put,hd,e]
    rw[h1,if_neg (fun h=>e h.1),if_neg (fun h=>e (by cases h;rfl))]
    exact ht
  ·have h1:(s.put d x).tmps t=s.tmps t:=by simp[AState.put,hd]
   rw[h1,if_neg (fun e=>hd (by rw[h.size];exact e.2))]
   by_cases e:t=d
   ·subst e
    have h0:a.tmps.getD t undef=undef:=by rw[zq6,Array.getElem?_eq_none (by rw[<-h.size];omega)];rfl
    refine⟨ht.1,?_⟩
    rw[h0] at ht ⊢
    cases hx:s.tmps t<;>rw[hx] at ht<;>first|trivial|(exfalso;rcases ht with ⟨h9,_⟩;cases h9;simp_all;done)|(intro base n cap hv;cases hv;done)|(intro k hv;cases hv;done)
   ·rw[if_neg (fun h=>e (by cases h;rfl))]
    exact ht
 loans:=fun t p hp=>by
  by_cases hd:d<s.n
  ·simp only[AState.put,if_pos hd,Act.put] at hp ⊢
   split at hp
   ·cases hp
   ·rename_i e
    split at hp
    ·cases hp
    ·rename_i e2
     rw[zFI,if_neg (fun h=>e h.1)]
     exact(h.loans t p hp).put (fun e3=>e2 (by rw[hp,e3]))
  ·simp only[AState.put,if_neg hd,Act.put] at hp ⊢
   have hset:a.tmps.setIfInBounds d v=a.tmps:=by
    apply Array.ext'
    simp only[Array.toList_setIfInBounds]
    exact List.set_eq_of_length_le (by rw[Array.length_toList,<-h.size];omega)
   rw[hset];exact h.loans t p hp
 defers:=h.defers
 base:=by rw[put_base];exact h.base
theorem Sim.take{F:Fx}{g:Gh}{s:AState}(h:Sim F g s a w)(p:Place):
 Sim F (g.give p none) (s.degrade p) a w∧Floating F (g.give p none) w (g.own p):=by
 have hfl:Floating F (g.give p none) w (g.own p):=fun k hk=>⟨fun q hq=>by
  rw[Gh.give_own] at hq
  split at hq
  ·cases hq
  ·rename_i hne;exact hne (h.sto.ownInj q p k hq hk),h.ext.mineOwn p k hk,(h.sto.ownσ p k hk).2,(h.sto.ownσ p k hk).1⟩
 refine⟨?_,hfl⟩
 have hext:Ext F (g.give p none) w:={h.ext with
  mineOwn:=fun q k hk=>by
   rw[Gh.give_own] at hk;split at hk
   ·cases hk
   ·exact h.ext.mineOwn q k hk}
 have hσ: ∀q k,(g.give p none).own q=some k->k∉g.σ∧k<w.heap.size:=fun q k hk=>by
  rw[Gh.give_own] at hk;split at hk
  ·cases hk
  ·exact h.sto.ownσ q k hk
 have hinj: ∀q r k,(g.give p none).own q=some k->(g.give p none).own r=some k->q=r:=fun q r k hq hr=>by
  rw[Gh.give_own] at hq hr
  split at hq
  ·cases hq
  ·split at hr
   ·cases hr
   ·exact h.sto.ownInj q r k hq hr
 cases p with
 |tmp t=>
  exact {
   ext:=hext
   sto:={h.sto with
    blk:=fun i blk k hb hk=>by
     obtain⟨c,ty,h1,h2,h3⟩:=h.sto.blk i blk k hb hk
     exact⟨c,ty,h1,h2,fun j x hx=>by simpa[Gh.give_own] using h3 j x hx⟩
    ownσ:=hσ
    ownInj:=hinj}
   size:=by simpa[AState.degrade] using h.size
   tmps:=fun t'=>by
    have ht:=h.tmps t'
    rw[Gh.give_own]
    simp only[AState.degrade,Gh.give_imm,Gh.give_σ]
    by_cases e:t'=t
    ·subst e
     rw[if_pos rfl]
     exact⟨ht.1.copy,OwnsBy.of_not (zEb _)⟩
    ·rw[if_neg e,if_neg (fun h=>e (by cases h;rfl))]
     exact ht
   loans:=h.loans
   defers:=h.defers
   base:=h.base}
 |cell b o=>
  exact {
   ext:=hext
   sto:={h.sto with
    len:=by simpa[AState.degrade] using h.sto.len
    blk:=fun i blk k hb hk=>by
     simp only[AState.degrade] at hb
     rcases getElem?_set_cases hb with ⟨rfl,hd,rfl⟩|⟨hne,hb⟩
     ·have hx:s.blocks[i]? =some (s.blocks.getD i []):=zB7 [] hd
      obtain⟨c,ty,h1,h2,h3⟩:=h.sto.blk i _ k hx hk
      refine⟨c,ty,h1,by simpa using h2,fun j x hx=>?_⟩
      rcases getElem?_set_cases hx with ⟨rfl,hj,rfl⟩|⟨hne,hx⟩
      ·have hy:=zB7 AV.top hj
       have:=h3 j _ hy
       refine⟨?_,this.2.1.copy,OwnsBy.of_not (zEb _)⟩
       have h4:=this.1
       rcases h4 with h4|⟨hle,b,h4⟩
       ·left
        cases hz:(s.blocks.getD i []).getD j .top<;>simp_all
       ·right;exact⟨by simpa using hle,b,by rw[h4];rfl⟩
      ·have:=h3 j x hx
       simpa[Gh.give_own,hne] using this
     ·obtain⟨c,ty,h1,h2,h3⟩:=h.sto.blk i blk k hb hk
      exact⟨c,ty,h1,h2,fun j x hx=>by simpa[Gh.give_own,hne] using h3 j x hx⟩
    ownσ:=hσ
    ownInj:=hinj}
   size:=h.size
   tmps:=fun t'=>by
    have:=h.tmps t'
    rw[Gh.give_own,if_neg (by simp)]
    exact this
   loans:=h.loans
   defers:=h.defers
   base:=h.base}
theorem zIM{k:Nat}{c:Array Value}{ty:TypeId}(h:w.heap[k]? =some (.cells c ty (0,0)))(o:Nat):w.frozen? ⟨k,o,none⟩=false:=by
 simp[World.frozen?,h]
theorem zDe{k:Nat}{c:Array Value}{ty:TypeId}{fr:Nat×Nat}(h:w.heap[k]? =some (.cells c ty fr))(o:Nat)(ho:o<c.size):
 w.cell? ⟨k,o,none⟩=some (c.getD o undef):=by
 simp[World.cell?,h,zq6,zqe ho]
theorem Spare.setCell{a b:Addr}{lo hi:Nat}(h:Spare imm w a lo hi):Spare imm (w.setCell b v) a lo hi:=fun j h1 h2=>by
 obtain⟨h3,⟨u,hu⟩,h5⟩:=h j h1 h2
 refine⟨h3,?_,by simpa using h5⟩
 by_cases e:b=a.add j
 ·subst e;exact⟨v,World.cell?_setCell_same _ _ _ hu⟩
 ·exact⟨u,by rw[World.cell?_setCell_other _ _ _ _ e];exact hu⟩
theorem zDb{b:Addr}(k:Nat)(sh:TypeId×Nat)(_:bo=some k)(h:zI0 w k=some sh):zI0 (w.setCell b v) k=some sh:=by
 unfold zI0 at h ⊢
 simp only[World.setCell,Array.getElem?_modify]
 cases hk:w.heap[k]? with
 |none=>rw[hk] at h;simp at h
 |some o=>
  rw[hk] at h
  by_cases hb:b.block=k
  ·rw[if_pos hb]
   cases o with
   |cells c e fr=>
    simp only[Option.map_some,Option.some.injEq] at h ⊢
    rw[<-h]
    congr 1
    split<;>simp
   |_=>simp at h
  ·rw[if_neg hb];exact h
theorem zFB{o:Obj}(k:Nat)(sh:TypeId×Nat)(_:bo=some k)(h:zI0 w k=some sh):zI0 (w.alloc o) k=some sh:=by
 unfold zI0 at h ⊢
 have:k<w.heap.size:=by
  rcases Nat.lt_or_ge k w.heap.size with h'|h'
  ·exact h'
  ·simp[Array.getElem?_eq_none h'] at h
 rw[heap_alloc_old w o this]
 exact h
theorem zFE{b:Addr}(k:Nat)(es:Array MapEntry)(c:Nat)(_:bo=some k)(h:w.heap[k]? =some (.map es c)):(w.setCell b v).heap[k]? =some (.map es c):=by
 simp only[World.setCell,Array.getElem?_modify]
 by_cases hb:b.block=k
 ·rw[if_pos hb,h];rfl
 ·rw[if_neg hb];exact h
theorem zHB{o:Obj}(k:Nat)(es:Array MapEntry)(c:Nat)(_:bo=some k)(h:w.heap[k]? =some (.map es c)):(w.alloc o).heap[k]? =some (.map es c):=by
 have:k<w.heap.size:=by
  rcases Nat.lt_or_ge k w.heap.size with h'|h'
  ·exact h'
  ·simp[Array.getElem?_eq_none h'] at h
 rw[heap_alloc_old w o this]
 exact h
theorem OwnsBy.world{imm imm':Addr->Option Value}{w w':World}{x:AV}
 (h:OwnsBy imm w bo x v) (hs: ∀a lo hi,bo=some a.block->Spare imm w a lo hi->Spare imm' w' a lo hi) (hsh: ∀k sh,bo=some k->zI0 w k=some sh->zI0 w' k=some sh)
 (hi: ∀a v,imm a=some v->imm' a=some v) (hm: ∀k es c,bo=some k->w.heap[k]? =some (.map es c)->w'.heap[k]? =some (.map es c)):OwnsBy imm' w' bo x v:=by
 cases x with
 |osl ec l=>
  intro base n cap hv
  rcases h base n cap hv with h|⟨a,h1,h2,⟨r1,r2,m,r3,r4⟩,h3⟩
  ·exact .inl h
  ·exact .inr ⟨a,h1,h2,⟨r1,r2,m,hsh _ _ h2 r3,r4⟩,hs a _ _ h2 h3⟩
 |osq ec l=>
  intro base n cap hv
  rcases h base n cap hv with h|⟨a,h1,h2,h3⟩
  ·exact .inl h
  ·exact .inr ⟨a,h1,h2,hs a _ _ h2 h3⟩
 |omp ks vs=>
  intro k hv
  obtain⟨h1,h2⟩:=h k hv
  exact⟨h1,h2.mono hi (fun es c=>hm k es c h1)⟩
 |otup ec l cs=>
  intro vs base n cap hv hv2
  rcases h vs base n cap hv hv2 with h|⟨a,h1,h2,⟨r1,r2,m,r3,r4⟩,h3⟩
  ·exact .inl h
  ·exact .inr ⟨a,h1,h2,⟨r1,r2,m,hsh _ _ h2 r3,r4⟩,hs a _ _ h2 h3⟩
 |_=>trivial
theorem zH4{l:List Nat}(h:l.Nodup){i j:Nat}(hi:i<l.length)(hj:j<l.length)(e:l[i]=l[j]):i=j:=by
 rcases Nat.lt_trichotomy i j with h1|h1|h1
 ·exact((List.pairwise_iff_getElem.1 h i j hi hj h1) e).elim
 ·exact h1
 ·exact((List.pairwise_iff_getElem.1 h j i hj hi h1) e.symm).elim
theorem Sim.putCell{F:Fx}{g:Gh}{s:AState}(h:Sim F g s a w){x:AV}(b o k:Nat)(bo:Option Nat)(hx1:x.one=true)
 (hk:g.σ[b]? =some k) (hr:Rep g.imm g.σ x v) (ho:OwnsBy g.imm w bo x v) (hf:Floating F g w bo):
 Sim F (g.give (.cell b o) bo) (s.setCell b o x) a (w.setCell ⟨k,o,none⟩ v):=by
 have hkm:k∈g.σ:=zq3 hk
 have hcell: ∀y:Addr,y.block∉g.σ->(w.setCell ⟨k,o,none⟩ v).cell? y=w.cell? y:=fun y hy=>
  World.cell?_setCell_other _ _ _ _ (fun e=>hy (by rw[<-e];exact hkm))
 have hblock: ∀j,j≠k->(w.setCell ⟨k,o,none⟩ v).heap[j]? =w.heap[j]? :=fun j hj=>RowKit.Below.heap_setCell _ _ _ _ hj
 have hσinj: ∀i,g.σ[i]? =some k->i=b:=fun i hi=>by
  have h1:=zq1 hi
  have h2:=zq1 hk
  obtain⟨l1,e1⟩:=h1;obtain⟨l2,e2⟩:=h2
  exact zH4 h.sto.nodup l1 l2 (by rw[e1,e2])
 exact {
  ext:={h.ext with
   mineOwn:=fun p k' hk'=>by
    rw[Gh.give_own] at hk';split at hk'
    ·exact(hf k' hk').2.1
    ·exact h.ext.mineOwn p k' hk'
   keep:=fun j hj hT=>by
    have hjk:j≠k:=fun e=>by
     subst e
     rcases h.ext.mineσ j hkm with h1|h1
     ·omega
     ·exact hT h1
    rw[hblock j hjk];exact h.ext.keep j hj hT
   size:=by simpa using h.ext.size
   os:=h.ext.os
   tape:=h.ext.tape
   output:=h.ext.output}
  sto:={h.sto with
   imm:=fun y u hy=>by rw[hcell y (h.sto.immσ y u hy)];exact h.sto.imm y u hy
   len:=by simpa[AState.setCell] using h.sto.len
   blk:=fun i blk k' hb hk'=>by
    simp only[AState.setCell] at hb
    have hown: ∀(j:Nat) y u,OwnsBy g.imm w (g.own (.cell i j)) y u->OwnsBy g.imm (w.setCell ⟨k,o,none⟩ v) (g.own (.cell i j)) y u:=
     fun j y u hu=>hu.world (fun _ _ _ _ hs=>hs.setCell) zDb (fun _ _ h=>h) zFE
    rcases getElem?_set_cases hb with ⟨rfl,hd,rfl⟩|⟨hne,hb⟩
    ·have hx:s.blocks[i]? =some (s.blocks.getD i []):=zB7 [] hd
     obtain⟨c,ty,h1,h2,h3⟩:=h.sto.blk i _ k' hx hk'
     have hkk:k'=k:=by rw[show g.σ[i]? =some k' from hk'] at hk;exact zqa hk
     subst hkk
     refine⟨c.setIfInBounds o v,ty,?_,by simpa using h2,fun j y hy=>?_⟩
     ·simp only[World.setCell,Array.getElem?_modify,if_true]
      rw[h1];rfl
     ·rw[zFI]
      rcases getElem?_set_cases hy with ⟨rfl,hj,rfl⟩|⟨hne,hy⟩
      ·rw[if_pos ⟨rfl,by omega⟩]
       refine⟨.inl hx1,hr,?_⟩
       simp only[Gh.give_own,if_true,Gh.give_imm]
       exact ho.world (fun _ _ _ _ hs=>hs.setCell) zDb (fun _ _ h=>h) zFE
      ·rw[if_neg (fun e=>hne e.1)]
       obtain⟨h5,h6,h7⟩:=h3 j y hy
       refine⟨h5.imp (fun e=>by simpa using e),h6,?_⟩
       rw[Gh.give_own,if_neg (by simp[hne])]
       exact hown j y _ h7
    ·obtain⟨c,ty,h1,h2,h3⟩:=h.sto.blk i blk k' hb hk'
     refine⟨c,ty,?_,h2,fun j x hx=>?_⟩
     ·rw[hblock k' (fun e=>hne (hσinj i (by rw[<-e];exact hk')))];exact h1
     ·obtain⟨h5,h6,h7⟩:=h3 j x hx
      refine⟨h5,h6,?_⟩
      rw[Gh.give_own,if_neg (by simp[hne])]
      exact hown j x _ h7
   ownσ:=fun p k' hk'=>by
    rw[Gh.give_own] at hk';simp only[World.size_setCell];split at hk'
    ·exact⟨(hf k' hk').2.2.2,(hf k' hk').2.2.1⟩
    ·exact h.sto.ownσ p k' hk'
   ownInj:=fun p q k' hp hq=>by
    rw[Gh.give_own] at hp hq
    split at hp<;>split at hq
    ·rename_i e1 e2;rw[e1,e2]
    ·exact((hf k' hp).1 q hq).elim
    ·exact((hf k' hq).1 p hp).elim
    ·exact h.sto.ownInj p q k' hp hq}
  size:=h.size
  tmps:=fun t=>by
   obtain⟨h1,h2⟩:=h.tmps t
   refine⟨h1,?_⟩
   rw[Gh.give_own,if_neg (by simp)]
   exact h2.world (fun _ _ _ _ hs=>hs.setCell) zDb (fun _ _ h=>h) zFE
  loans:=fun t p hp=>by
   simp only[AState.setCell] at hp
   split at hp
   ·cases hp
   rename_i hc0
   have hc:p≠.cell b o:=fun e=>hc0 (by rw[hp,e])
   have h1:=h.loans t p hp
   cases p with
   |tmp t'=>exact h1
   |cell b' o'=>
    obtain⟨k',hk',hv⟩:=h1
    refine⟨k',hk',?_⟩
    rw[World.cell?_setCell_other]
    ·exact hv
    ·intro e
     simp only[Addr.mk.injEq] at e
     obtain⟨rfl,rfl,_⟩:=e
     exact hc (by rw[hσinj b' hk'])
  defers:=h.defers
  base:=h.base}
variable {s:AState} {Q:Exit->AState->Prop} {g:Gh} {F:Fx} {K:AState->Prop} {R:AV->AState->Prop}
theorem lt_of_getElem?{l:Array α}{x:α}(h:l[i]? =some x):i<l.size:=by
 rcases Nat.lt_or_ge i l.size with h'|h'
 ·exact h'
 ·simp[Array.getElem?_eq_none h'] at h
theorem zFV(a:Addr)(j:Nat):(a.add j).block=a.block:=by unfold Addr.add;split<;>rfl
theorem add_off(a:Addr)(j:Nat):(a.add j).off=a.off+j:=by unfold Addr.add;split<;>simp_all
theorem add_inj{a:Addr}{i j:Nat}(h:a.add i=a.add j):i=j:=by
 have:=congrArg Addr.off h
 rw[add_off,add_off] at this;omega
theorem zKp(a:Addr)(i j:Nat):(a.add i).add j=a.add (i+j):=by
 unfold Addr.add
 by_cases hi:i=0
 ·subst hi;simp
 ·by_cases hj:j=0
  ·subst hj;simp
  ·rw[if_neg hi,if_neg hj,if_neg (by omega)];simp;omega
theorem zI8(n j:Nat):(⟨n,0,none⟩:Addr).add j=⟨n,j,none⟩:=by
 unfold Addr.add;split
 ·rename_i h;rw[h]
 ·simp
theorem zHn{o o':Obj}{k:Nat}(h:w.heap[k]? =some o'):(w.alloc o).heap[k]? =some o':=by
 rw[RowKit.Below.heap_alloc _ _ _ (lt_of_getElem? h)];exact h
theorem zEF(w:World)(o:Obj):(w.alloc o).heap[w.heap.size]? =some o:=by
 show(w.heap.push o)[w.heap.size]? =_
 simp
theorem Sto.imm_lt{bs:List (List AV)}(h:Sto g bs w){x:Addr}(hx:g.imm x=some v):x.block<w.heap.size:=
 World.block_lt_of_cell? _ _ (h.imm x v hx)
theorem Sto.σ_lt{bs:List (List AV)}(h:Sto g bs w){k:Nat}(hk:k∈g.σ):k<w.heap.size:=by
 obtain⟨i,hi⟩:=zqd hk
 have hl:i<bs.length:=by rw[<-h.len];exact(zq1 hi).1
 obtain⟨c,ty,h1,_⟩:=h.blk i _ k (zq2 hl) hi
 exact lt_of_getElem? h1
theorem Spare.alloc{imm imm':Addr->Option Value}{a:Addr}{lo hi:Nat}{o:Obj}(h:Spare imm w a lo hi)
 (hi': ∀x:Addr,x.block<w.heap.size->imm' x=imm x):Spare imm' (w.alloc o) a lo hi:=fun j h1 h2=>by
 obtain⟨h3,⟨u,hu⟩,h5⟩:=h j h1 h2
 have hlt:=World.block_lt_of_cell? _ _ hu
 exact⟨by rw[hi' _ hlt];exact h3,⟨u,by rw[World.cell?_alloc_lt _ _ _ hlt];exact hu⟩,by rw[World.frozen?_alloc_old _ _ _ (Nat.ne_of_lt hlt)];exact h5⟩
def AState.push(s:AState)(blk:List AV):AState:={s with blocks:=s.blocks++[blk]}
theorem getElem?_snoc_cases{l:List α}{x y:α}(h:(l++[x])[i]? =some y):l[i]? =some y∨(i=l.length∧y=x):=by
 rcases Nat.lt_trichotomy i l.length with h1|h1|h1
 ·rw[List.getElem?_append_left h1] at h;exact .inl h
 ·subst h1;simp at h;exact .inr ⟨rfl,h.symm⟩
 ·rw[List.getElem?_append_right (by omega)] at h
  have:i-l.length≠0:=by omega
  cases hh:i-l.length with
  |zero=>omega
  |succ n=>rw[hh] at h;simp at h
theorem Ext.alloc(h:Ext F g w)(o:Obj):Ext F g (w.alloc o):={h with
 keep:=fun k hk hT=>by
  have:=h.size
  rw[RowKit.Below.heap_alloc _ _ _ (by omega)];exact h.keep k hk hT
 size:=by simpa using Nat.le_succ_of_le h.size
 os:=h.os
 tape:=h.tape
 output:=h.output}
theorem Sim.alloc(h:Sim F g s a w)(blk:List AV)(c:Array Value)(ty:TypeId)(hs:blk.length<=c.size)
 (hb: ∀(j:Nat) x,blk[j]? =some x->(x.one=true∧x.owns=false∧Rep g.imm g.σ x (c.getD j undef))∨(x=.baddr ty s.blocks.length∧blk.length=c.size∧c.getD j undef=.pointer none)):
 Sim F {g with σ:=g.σ++[w.heap.size]} (s.push blk) a (w.alloc (.cells c ty (0,0))):=by
 have hmono: ∀(b k:Nat),g.σ[b]? =some k->(g.σ++[w.heap.size])[b]? =some k:=fun b k hb=>by
  rw[List.getElem?_append_left (zq1 hb).1];exact hb
 exact {
  ext:={h.ext.alloc _ with
   immNew:=h.ext.immNew
   σ:=fun b k hb=>hmono b k (h.ext.σ b k hb)
   mineσ:=fun k hk=>by
    rcases List.mem_append.1 hk with hk|hk
    ·exact h.ext.mineσ k hk
    ·have hk:=List.mem_singleton.1 hk;subst hk;exact .inl h.ext.size
   mineOwn:=h.ext.mineOwn}
  sto:={
   gok:=h.sto.gok
   imm:=fun x v hx=>by rw[World.cell?_alloc_lt _ _ _ (h.sto.imm_lt hx)];exact h.sto.imm x v hx
   immσ:=fun x v hx hm=>by
    rcases List.mem_append.1 hm with hm|hm
    ·exact h.sto.immσ x v hx hm
    ·have:=h.sto.imm_lt hx
     have:=List.mem_singleton.1 hm;omega
   len:=by simp[AState.push,h.sto.len]
   nodup:=by
    show(g.σ++[w.heap.size]).Nodup
    rw[List.nodup_append]
    refine⟨h.sto.nodup,by simp,fun x hx y hy=>?_⟩
    have:=h.sto.σ_lt hx
    have:=List.mem_singleton.1 hy;omega
   blk:=fun i b k hb' hk=>by
    simp only[AState.push] at hb' hk
    rcases getElem?_snoc_cases hb' with hb'|⟨rfl,rfl⟩
    ·have hi:i<g.σ.length:=by rw[h.sto.len];exact(zq1 hb').1
     rw[List.getElem?_append_left hi] at hk
     obtain⟨c',ty',h1,h2,h3⟩:=h.sto.blk i b k hb' hk
     exact⟨c',ty',zHn h1,h2,fun j x hx=>⟨(h3 j x hx).1,(h3 j x hx).2.1.mono (fun _ _ h=>h) hmono,
      (h3 j x hx).2.2.world (fun _ _ _ _ hs=>hs.alloc (fun _ _=>rfl)) zFB (fun _ _ h=>h) zHB⟩⟩
    ·rw[<-h.sto.len] at hk
     simp at hk
     subst hk
     refine⟨c,ty,zEF _ _,hs,fun j x hx=>?_⟩
     rcases hb j x hx with ⟨q1,q2,q3⟩|⟨rfl,q0,q2⟩
     ·exact⟨.inl q1,q3.mono (fun _ _ h=>h) hmono,OwnsBy.of_not q2⟩
     ·refine⟨.inr ⟨q0,_,rfl⟩,?_,OwnsBy.of_not rfl⟩
      rw[q2]
      exact .baddr0 _ _ (by simp[h.sto.len])
   ownσ:=fun p k hk=>by
    have:=h.sto.ownσ p k hk
    refine⟨fun hm=>?_,by simp;omega⟩
    rcases List.mem_append.1 hm with hm|hm
    ·exact this.1 hm
    ·have:=List.mem_singleton.1 hm;omega
   ownInj:=h.sto.ownInj}
  size:=h.size
  tmps:=fun t=>⟨(h.tmps t).1.mono (fun _ _ h=>h) hmono,(h.tmps t).2.world (fun _ _ _ _ hs=>hs.alloc (fun _ _=>rfl)) zFB (fun _ _ h=>h) zHB⟩
  loans:=fun t p hp=>by
   have:=h.loans t p hp
   cases p with
   |tmp t'=>exact this
   |cell b o=>
    obtain⟨k,hk,hv⟩:=this
    exact⟨k,hmono _ _ hk,by rw[World.cell?_alloc_lt _ _ _ (h.sto.σ_lt (zq3 hk))];exact hv⟩
  defers:=h.defers
  base:=h.base}
def Gh.row(g:Gh)(n:Nat)(c:Array Value)(m:Nat):Gh:=
 {g with imm:=fun x=>if x.block=n then (if x.spot=none∧x.off<m then c[x.off]? else none) else g.imm x}
theorem Gh.row_imm_lt(g:Gh)(n:Nat)(c:Array Value)(m:Nat){x:Addr}(h:x.block<n):(g.row n c m).imm x=g.imm x:=by
 simp[Gh.row,Nat.ne_of_lt h]
theorem Gh.row_imm_new(g:Gh)(n:Nat)(c:Array Value)(m j:Nat)(hj:j<m)(hm:m<=c.size):(g.row n c m).imm ⟨n,j,none⟩=some (c.getD j undef):=by
 simp[Gh.row,hj,zq6,zqe (show j<c.size by omega)]
theorem Sim.row(h:Sim F g s a w)(c:Array Value)(ty:TypeId)(m:Nat):
 Sim F (g.row w.heap.size c m) s a (w.alloc (.cells c ty (0,0)))∧Floating F (g.row w.heap.size c m) (w.alloc (.cells c ty (0,0))) (some w.heap.size)∧
  Spare (g.row w.heap.size c m).imm (w.alloc (.cells c ty (0,0))) ⟨w.heap.size,0,none⟩ m c.size∧
  (∀x v,g.imm x=some v->(g.row w.heap.size c m).imm x=some v):=by
 have hold: ∀x v,g.imm x=some v->(g.row w.heap.size c m).imm x=some v:=fun x v hx=>by
  rw[Gh.row_imm_lt _ _ _ _ (h.sto.imm_lt hx)];exact hx
 have hin: ∀x v,(g.row w.heap.size c m).imm x=some v->g.imm x=some v∨(x.block=w.heap.size∧x.spot=none∧c[x.off]? =some v):=fun x v hx=>by
  simp only[Gh.row] at hx
  split at hx
  ·split at hx
   ·rename_i h1 h2;exact .inr ⟨h1,h2.1,hx⟩
   ·cases hx
  ·exact .inl hx
 refine⟨?_,?_,?_,hold⟩
 ·exact {
   ext:={h.ext.alloc _ with
    imm:=fun x v hx=>hold x v (h.ext.imm x v hx)
    immNew:=fun x v hx=>by
     rcases hin x v hx with hx|⟨hx,_⟩
     ·exact h.ext.immNew x v hx
     ·exact .inr (.inl (by rw[hx];exact h.ext.size))
    σ:=h.ext.σ
    mineσ:=h.ext.mineσ
    mineOwn:=h.ext.mineOwn}
   sto:={
    gok:=h.sto.gok.mono hold
    imm:=fun x v hx=>by
     rcases hin x v hx with hx|⟨hb,hs,hc⟩
     ·rw[World.cell?_alloc_lt _ _ _ (h.sto.imm_lt hx)];exact h.sto.imm x v hx
     ·obtain⟨b,o,sp⟩:=x
      simp only at hb hs hc
      subst hb;subst hs
      rw[World.cell?_alloc_new];exact hc
    immσ:=fun x v hx hmem=>by
     rcases hin x v hx with hx|⟨hb,_⟩
     ·exact h.sto.immσ x v hx hmem
     ·have:=h.sto.σ_lt hmem;omega
    len:=h.sto.len
    nodup:=h.sto.nodup
    blk:=fun i b k hb' hk=>by
     obtain⟨c',ty',h1,h2,h3⟩:=h.sto.blk i b k hb' hk
     exact⟨c',ty',zHn h1,h2,fun j x hx=>⟨(h3 j x hx).1,(h3 j x hx).2.1.mono hold (fun _ _ h=>h),
      (h3 j x hx).2.2.world (fun _ _ _ _ hs=>hs.alloc (fun x hx=>Gh.row_imm_lt _ _ _ _ hx)) zFB hold zHB⟩⟩
    ownσ:=fun p k hk=>by
     have:=h.sto.ownσ p k hk
     exact⟨this.1,by simp;omega⟩
    ownInj:=h.sto.ownInj}
   size:=h.size
   tmps:=fun t=>⟨(h.tmps t).1.mono hold (fun _ _ h=>h),(h.tmps t).2.world (fun _ _ _ _ hs=>hs.alloc (fun x hx=>Gh.row_imm_lt _ _ _ _ hx)) zFB hold zHB⟩
   loans:=fun t p hp=>by
    have:=h.loans t p hp
    cases p with
    |tmp t'=>exact this
    |cell b o=>
     obtain⟨k,hk,hv⟩:=this
     exact⟨k,hk,by rw[World.cell?_alloc_lt _ _ _ (h.sto.σ_lt (zq3 hk))];exact hv⟩
   defers:=h.defers
   base:=h.base}
 ·intro k hk
  cases hk
  refine⟨fun p hp=>?_,.inl h.ext.size,by simp,fun hmem=>?_⟩
  ·have:=(h.sto.ownσ p _ hp).2;omega
  ·have:=h.sto.σ_lt hmem;omega
 ·intro j h1 h2
  rw[zI8]
  refine⟨by simp[Gh.row];intro h3;omega,⟨c.getD j undef,?_⟩,by simp⟩
  rw[World.cell?_alloc_new]
  simp[zq6,zqe h2]
theorem Sim.fill(h:Sim F g s a w)(b:Addr)(v:Value)(hf:Floating F g w (some b.block))(hn:g.imm b=none)
 (hc: ∃u,w.cell? b=some u):
 Sim F {g with imm:=fun x=>if x=b then some v else g.imm x} s a (w.setCell b v):=by
 have hold: ∀x u,g.imm x=some u->(if x=b then some v else g.imm x)=some u:=fun x u hx=>by
  rw[if_neg (fun e=>by rw[e,hn] at hx;cases hx)];exact hx
 have hσ:b.block∉g.σ:=(hf _ rfl).2.2.2
 have hown: ∀p k,g.own p=some k->k≠b.block:=fun p k hk e=>(hf _ rfl).1 p (by rw[<-e];exact hk)
 have hsp: ∀(bo:Option Nat)(x:Addr) lo hi,bo=some x.block->(∀k,bo=some k->k≠b.block)->Spare g.imm w x lo hi->
  Spare (fun x=>if x=b then some v else g.imm x) (w.setCell b v) x lo hi:=fun bo x lo hi hx hbo hs j h1 h2=>by
  obtain⟨h3,h4,h5⟩:=(Spare.setCell (b:=b) (v:=v) hs) j h1 h2
  refine⟨?_,h4,h5⟩
  show(if x.add j=b then some v else g.imm (x.add j))=none
  rw[if_neg (fun e=>hbo _ hx (by rw[<-e,zFV]))];exact h3
 exact {
  ext:={h.ext with
   imm:=fun x u hx=>hold x u (h.ext.imm x u hx)
   immNew:=fun x u hx=>by
    simp only at hx
    split at hx
    ·rename_i e;exact .inr (by rw[e];exact(hf _ rfl).2.1)
    ·exact h.ext.immNew x u hx
   keep:=fun j hj hT=>by
    rw[RowKit.Below.heap_setCell _ _ _ _ (fun e=>?_)]
    ·exact h.ext.keep j hj hT
    ·rcases(hf _ rfl).2.1 with h1|h1
     ·omega
     ·exact hT (by rw[e];exact h1)
   size:=by simpa using h.ext.size
   os:=h.ext.os
   tape:=h.ext.tape
   output:=h.ext.output}
  sto:={
   gok:=h.sto.gok.mono hold
   imm:=fun x u hx=>by
    simp only at hx
    split at hx
    ·rename_i e;cases hx;subst e;obtain⟨u',hu'⟩:=hc;exact World.cell?_setCell_same _ _ _ hu'
    ·rename_i e;rw[World.cell?_setCell_other _ _ _ _ (fun e'=>e e'.symm)];exact h.sto.imm x u hx
   immσ:=fun x u hx hm=>by
    simp only at hx
    split at hx
    ·rename_i e;rw[e] at hm;exact hσ hm
    ·exact h.sto.immσ x u hx hm
   len:=h.sto.len
   nodup:=h.sto.nodup
   blk:=fun i bl k hb' hk=>by
    obtain⟨c',ty',h1,h2,h3⟩:=h.sto.blk i bl k hb' hk
    refine⟨c',ty',?_,h2,fun j x hx=>⟨(h3 j x hx).1,(h3 j x hx).2.1.mono hold (fun _ _ h=>h),
     (h3 j x hx).2.2.world (fun y lo hi hy hs=>hsp _ y lo hi hy (fun k hk=>hown _ k hk) hs) zDb hold zFE⟩⟩
    rw[RowKit.Below.heap_setCell _ _ _ _ (fun e=>hσ (by rw[<-e];exact zq3 hk))];exact h1
   ownσ:=fun p k hk=>by simpa using h.sto.ownσ p k hk
   ownInj:=h.sto.ownInj}
  size:=h.size
  tmps:=fun t=>⟨(h.tmps t).1.mono hold (fun _ _ h=>h),(h.tmps t).2.world (fun y lo hi hy hs=>hsp _ y lo hi hy (fun k hk=>hown _ k hk) hs) zDb hold zFE⟩
  loans:=fun t p hp=>by
   have:=h.loans t p hp
   cases p with
   |tmp t'=>exact this
   |cell b' o=>
    obtain⟨k,hk,hv⟩:=this
    refine⟨k,hk,?_⟩
    rw[World.cell?_setCell_other]
    ·exact hv
    ·intro e;exact hσ (by rw[e];exact zq3 hk)
  defers:=h.defers
  base:=h.base}
theorem Sim.drew(h:Sim F g s a w):Sim F g s a w.drew where
 ext:={h.ext with keep:=h.ext.keep,size:=h.ext.size,os:=h.ext.os,tape:=h.ext.tape,output:=h.ext.output}
 sto:={h.sto with
  imm:=h.sto.imm
  blk:=fun i b k hb hk=>by
   obtain⟨c,ty,h1,h2,h3⟩:=h.sto.blk i b k hb hk
   exact⟨c,ty,h1,h2,fun j x hx=>⟨(h3 j x hx).1,(h3 j x hx).2.1,(h3 j x hx).2.2.world (fun _ _ _ _ hs=>hs) (fun _ _ _ h=>h) (fun _ _ h=>h) fun _ _ _ _ h=>h⟩⟩
  ownσ:=h.sto.ownσ}
 size:=h.size
 tmps:=fun t=>⟨(h.tmps t).1,(h.tmps t).2.world (fun _ _ _ _ hs=>hs) (fun _ _ _ h=>h) (fun _ _ h=>h) fun _ _ _ _ h=>h⟩
 loans:=fun t p hp=>by
  have:=h.loans t p hp
  cases p with
  |tmp t'=>exact this
  |cell b o=>exact this
 defers:=h.defers
 base:=h.base
structure Res where
 side:Prop
 val:AV
 loan:Option Place
 st:AState
def AState.at(s:AState):Place->AV
 |.tmp t=>s.get t
 |.cell b o=>(s.blocks.getD b []).getD o .top
def AState.ev(s:AState):Operand->AV
 |.tmp t=>s.get t
 |.const v=>AV.ofConst v
 |.func f=>.fn (.func f) [] []
 |.global _=>.top
def AState.owner(s:AState)(t:Nat):Option Place:=
 if (s.get t).owns then some (.tmp t) else
  match s.loans t with
  |some p=>if (s.at p).owns then some p else none
  |none=>none
def AState.takeV(s:AState):Operand->AV
 |.tmp t=>match s.owner t with
  |some p=>s.at p
  |none=>(s.get t).copy
 |x=>s.ev x
def AState.takeS(s:AState):Operand->AState
 |.tmp t=>match s.owner t with
  |some p=>s.degrade p
  |none=>s
 |_=>s
def AState.putL(s:AState)(d:Nat)(x:AV)(loan:Option Place):AState:=
 match loan with
 |none=>s.put d x
 |some p=>if p=.tmp d∨s.n<=d then s.put d x else {s.put d x with loans:=fun t=>if t=d then some p else (s.put d x).loans t}
def AState.putR(s:AState)(d:Option Nat)(r:Res):AState:=
 match d with
 |some d=>r.st.putL d r.val r.loan
 |none=>r.st
def OpOk(P:Program)(o:Oper)(s:AState)(r:Res):Prop:=
 ∀F g a w,Sim F g s a w->∃v w' g' bo,((execOp a.eval o).run P w=.ok (.value v) w'∨((execOp a.eval o).run P w=.ok .skip w'∧v=undef))∧
  Sim F g' r.st a w'∧Rep g'.imm g'.σ r.val v∧OwnsBy g'.imm w' bo r.val v∧Floating F g' w' bo∧(∀p,r.loan=some p->LoanOk g' w' a.tmps v p)
theorem Sim.putL(h:Sim F g s a w){x:AV}(d:Nat)(bo:Option Nat)(loan:Option Place)
 (hr:Rep g.imm g.σ x v) (ho:OwnsBy g.imm w bo x v) (hf:Floating F g w bo) (hl: ∀p,loan=some p->LoanOk g w a.tmps v p):
 Sim F (g.give (.tmp d) bo) (s.putL d x loan) (a.put (some d) v) w:=by
 have h1:=h.putTmp d bo hr ho hf
 unfold AState.putL
 cases loan with
 |none=>exact h1
 |some p=>
  by_cases hp:p=.tmp d∨s.n<=d
  ·simp only[if_pos hp];exact h1
  ·simp only[if_neg hp]
   have hd:d<a.tmps.size:=by rw[<-h.size];omega
   refine {h1 with loans:=fun t q hq=>?_}
   simp only at hq
   split at hq
   ·rename_i e
    subst e
    cases hq
    have e:(a.put (some t) v).tmps.getD t undef=v:=by
     simp only[Act.put];rw[zFI,if_pos ⟨rfl,hd⟩]
    rw[e]
    exact(hl p rfl).put (fun e=>hp (.inl e))
   ·exact h1.loans t q hq
theorem eval_rep(h:Sim F g s a w)(x:Operand):Rep g.imm g.σ (s.ev x) (a.eval x):=by
 cases x with
 |tmp t=>
  show Rep _ _ (s.get t) (a.tmps.getD t undef)
  exact(h.tmps t).1
 |const v=>exact zFD v
 |global g=>exact .top _
 |func f=>exact .fn _ _ _ _ _ rfl rfl (by simp) (by simp)
theorem OpOk.same{x:AV}{loan:Option Place}{side:Prop}(hx:x.owns=false)
 (hrun: ∀F g a w,Sim F g s a w->∃v,(execOp a.eval o).run P w=.ok (.value v) w∧Rep g.imm g.σ x v∧(∀p,loan=some p->LoanOk g w a.tmps v p)):
 OpOk P o s ⟨side,x,loan,s⟩:=fun F g a w h=>by
 obtain⟨v,h1,h2,h3⟩:=hrun F g a w h
 exact⟨v,w,g,none,.inl h1,h,h2,OwnsBy.of_not hx,Floating.none,h3⟩
def AState.look(s:AState)(x:Operand):AV:=(s.ev x).copy
theorem zAT(h:Sim F g s a w)(x:Operand):Rep g.imm g.σ (s.look x) (a.eval x):=(eval_rep h x).copy
def AState.loanOf(s:AState):Operand->Option Place
 |.tmp t=>if (s.get t).owns then some (.tmp t) else none
 |_=>none
def zLI(s:AState)(x:Operand):Res:=⟨True,s.look x,s.loanOf x,s⟩
theorem ok_move(P:Program)(o:Oper)(s:AState)(x:Operand)(ho:o.op=.move x):OpOk P o s (zLI s x):=
 .same (zEb _) fun F g a w h=>by
  refine⟨a.eval x,by simp[execOp,ho],zAT h x,fun p hp=>?_⟩
  cases x with
  |tmp t=>
   simp only[AState.loanOf] at hp
   split at hp
   ·cases hp;rfl
   ·cases hp
  |_=>cases hp
theorem zJX(h:Sim F g s a w)(x:Operand):
 ∃g' bo,Sim F g' (s.takeS x) a w∧Rep g'.imm g'.σ (s.takeV x) (a.eval x)∧OwnsBy g'.imm w bo (s.takeV x) (a.eval x)∧Floating F g' w bo∧g'.imm=g.imm∧g'.σ=g.σ:=by
 have hplain:(s.takeV x).owns=false->s.takeS x=s->Rep g.imm g.σ (s.takeV x) (a.eval x)->
  ∃g' bo,Sim F g' (s.takeS x) a w∧Rep g'.imm g'.σ (s.takeV x) (a.eval x)∧OwnsBy g'.imm w bo (s.takeV x) (a.eval x)∧Floating F g' w bo∧g'.imm=g.imm∧g'.σ=g.σ:=
  fun h1 h2 h3=>⟨g,none,by rw[h2];exact h,h3,OwnsBy.of_not h1,Floating.none,rfl,rfl⟩
 cases x with
 |tmp t=>
  cases hw:s.owner t with
  |none=>
   refine hplain ?_ ?_ ?_
   ·simp only[AState.takeV,hw];exact zEb _
   ·simp only[AState.takeS,hw]
   ·simp only[AState.takeV,hw];exact zAT h (.tmp t)
  |some p=>
   obtain⟨h1,h2⟩:=h.take p
   refine⟨g.give p none,g.own p,?_,?_,?_,h2,rfl,rfl⟩
   ·simpa only[AState.takeS,hw] using h1
   all_goals
    simp only[AState.takeV,hw,Gh.give_imm,Gh.give_σ,Act.eval]
    simp only[AState.owner] at hw
    split at hw
    ·rename_i ho;cases hw
     have:=h.tmps t
     first|exact this.1|exact this.2
    ·split at hw
     ·rename_i q hq
      split at hw
      ·rename_i ho
       cases hw
       have hl:=h.loans t p hq
       cases p with
       |tmp t'=>
        simp only[LoanOk] at hl
        rw[hl]
        have:=h.tmps t'
        first|exact this.1|exact this.2
       |cell b o=>
        obtain⟨k,hk,hv⟩:=hl
        simp only[AState.at] at ho ⊢
        have hb:b<s.blocks.length:=by rw[<-h.sto.len];exact(zq1 hk).1
        obtain⟨c,ty,h3,h4,h5⟩:=h.sto.blk b _ k (zB7 [] hb) hk
        by_cases hoo:o<(s.blocks.getD b []).length
        ·have h6:=h5 o _ (zB7 AV.top hoo)
         have h7:=zDe h3 o (by omega)
         rw[hv] at h7
         rw[zqa h7]
         first|exact h6.2.1|exact h6.2.2
        ·have:(s.blocks.getD b []).getD o .top=.top:=by rw[zq5,List.getElem?_eq_none (Nat.le_of_not_lt hoo)];rfl
         rw[this] at ho;simp at ho
      ·cases hw
     ·cases hw
 |const v=>exact hplain (zIX v) rfl (zFD v)
 |global g=>exact hplain rfl rfl (.top _)
 |func f=>exact hplain rfl rfl (eval_rep h (.func f))
def zI1(s:AState)(x:Operand):Res:=⟨True,s.takeV x,none,s.takeS x⟩
theorem ok_assign(P:Program)(o:Oper)(s:AState)(x:Operand)(ho:o.op=.assign x):OpOk P o s (zI1 s x):=fun F g a w h=>by
 obtain⟨g',bo,h1,h2,h3,h4,_,_⟩:=zJX h x
 exact⟨a.eval x,w,g',bo,.inl (by simp[execOp,ho]),h1,h2,h3,h4,fun p hp=>by cases hp⟩
def pickV(c x y:AV):AV:=
 match c,x,y with
 |.bool c,.bool x,.bool y=>.bool (if c then x else y)
 |.bool c,x,y=>if c then x else y
 |_,_,_=>.top
def isBool:AV->Bool
 |.bool _=>true
 |_=>false
def zJ8(s:AState)(c x y:Operand):Res:=⟨isBool (s.look c)=true,pickV (s.look c) (s.look x) (s.look y),none,s⟩
theorem ok_pick(P:Program)(o:Oper)(s:AState)(c x y:Operand)(ho:o.op=.pick c x y)(hs:(zJ8 s c x y).side):OpOk P o s (zJ8 s c x y):=by
 have hc: ∃b,s.look c=.bool b:=by
  simp only[zJ8] at hs
  cases he:s.look c<;>simp[he,isBool] at hs
  exact⟨_,rfl⟩
 obtain⟨b,hb⟩:=hc
 refine .same ?_ fun F g a w h=>?_
 ·rw[hb]
  have h1:=zEb (s.ev x)
  have h2:=zEb (s.ev y)
  have h3: ∀x y:AV,x.owns=false->y.owns=false->(pickV (.bool b) x y).owns=false:=by
   intro x y hx hy
   cases x<;>cases y<;>cases b<;>first|rfl|simpa[pickV] using hx|simpa[pickV] using hy
  exact h3 _ _ h1 h2
 ·have hr:=zAT h c
  rw[hb] at hr
  cases hv:a.eval c with
  |bool b'=>
   rw[hv] at hr
   cases hr
   refine⟨if b then a.eval x else a.eval y,by cases b<;>simp[execOp,ho,hv,asBool],?_,fun p hp=>by cases hp⟩
   have hx:=zAT h x
   have hy:=zAT h y
   have key: ∀(x y:AV)(u v:Value),Rep g.imm g.σ x u->Rep g.imm g.σ y v->Rep g.imm g.σ (pickV (.bool b) x y) (if b then u else v):=by
    intro x y u v hx hy
    cases x<;>cases y<;>cases b<;>first|exact hx|exact hy
   rw[hb]
   exact key _ _ _ _ hx hy
  |_=>rw[hv] at hr;cases hr
variable {r:Res}
def RepL(imm:Addr->Option Value)(σ:List Nat)(l:List AV)(c:Array Value):Prop:=c.size=l.length∧∀(i:Nat) x,l[i]? =some x->Rep imm σ x (c.getD i undef)
@[simp] def AV.solid:AV->Bool
 |.tup _|.top|.baddr _ _|.otup _ _ _=>false
 |_=>true
theorem cells_one(h:v.oneCell'=true):v.cells=#[v]:=by cases v<;>first|rfl|simp[Value.oneCell'] at h
theorem zFu{x:AV}(h:Rep imm σ x v)(hx:x.solid=true):RepL imm σ x.cells v.cells:=by
 have one:x.cells=[x]->x.one=true->RepL imm σ x.cells v.cells:=fun h1 h2=>by
  rw[h1,cells_one (h.oneCell h2)]
  refine⟨rfl,fun i y hy=>?_⟩
  cases i with
  |zero=>simp at hy;subst hy;exact h
  |succ i=>simp at hy
 cases x with
 |agg cs=>cases h with|agg _ vs hs r=>exact⟨hs,r⟩
 |tup cs=>simp at hx
 |top=>simp at hx
 |baddr t b=>simp at hx
 |otup ec l cs=>simp at hx
 |_=>exact one rfl rfl
theorem RepL.map_copy{l:List AV}{c:Array Value}(h:RepL imm σ l c):RepL imm σ (l.map AV.copy) c:=by
 refine⟨by simpa using h.1,fun i x hx=>?_⟩
 obtain⟨y,hy,rfl⟩:=getElem?_map_some hx
 exact(h.2 i y hy).copy
theorem RepL.mono{imm imm':Addr->Option Value}{σ σ':List Nat}(hi: ∀a v,imm a=some v->imm' a=some v)
 (hs: ∀(b k:Nat),σ[b]? =some k->σ'[b]? =some k) {l:List AV} {c:Array Value} (h:RepL imm σ l c):RepL imm' σ' l c:=
 ⟨h.1,fun i x hx=>(h.2 i x hx).mono hi hs⟩
def AV.plain(x:AV):Bool:=x.one&& !x.owns
def AV.inert(x:AV):Bool:=x.one&& !x.owns&&x.flat
def bldT(P:Program)(t:TypeId):Bool:=match P.info? t with
 |some i=>i.str== "strings.Builder" ||i.str== "normal.writer"
 |none=>false
def markB(P:Program)(t:TypeId)(n:Nat)(l:List AV):List AV:=
 match l with
 |.nilp::rest=>if bldT P t then .baddr t n::rest else .nilp::rest
 |l=>l
theorem zKV(P:Program)(t:TypeId)(n:Nat)(l:List AV):(markB P t n l).length=l.length:=by
 unfold markB;split
 ·split<;>rfl
 ·rfl
theorem markB_get{l:List AV}{j:Nat}{x:AV}(h:(markB P t n l)[j]? =some x):l[j]? =some x∨(x=.baddr t n∧l[j]? =some .nilp):=by
 unfold markB at h;split at h
 ·split at h
  ·cases j with
   |zero=>simp at h;exact .inr ⟨h.symm,rfl⟩
   |succ j=>exact .inl (by simpa using h)
  ·exact .inl h
 ·exact .inl h
def resNew(P:Program)(t:TypeId)(s:AState)(cells:List AV):Res:=⟨(cells.all AV.plain)=true,.mptr s.blocks.length 0,none,s.push (markB P t s.blocks.length cells)⟩
theorem zKo{p:α->Bool}{l:List α}(h:l.all p=true){x:α}(hx:l[i]? =some x):p x=true:=
 (zq8 h) x (zq3 hx)
theorem ok_new{cells:List AV}(hs:(cells.all AV.plain)=true)
 (hrun: ∀F g a w,Sim F g s a w->∃c,(execOp a.eval o).run P w=.ok (.value (.pointer (some ⟨w.heap.size,0,none⟩))) (w.alloc (.cells c t (0,0)))∧RepL g.imm g.σ cells c):
 OpOk P o s (resNew P t s cells):=fun F g a w h=>by
 obtain⟨c,h1,h2⟩:=hrun F g a w h
 refine⟨_,_,_,none,.inl h1,h.alloc (markB P t s.blocks.length cells) c t (by rw[zKV];exact Nat.le_of_eq h2.1.symm) (fun j x hx=>?_),.mptr _ _ _ ?_,trivial,Floating.none,fun p hp=>by cases hp⟩
 ·rcases markB_get hx with hx|⟨hxe,hx2⟩
  ·have:=zKo hs hx
   simp only[AV.plain,zq7,Bool.not_eq_true'] at this
   exact .inl ⟨this.1,this.2,h2.2 j x hx⟩
  ·have:=h2.2 j _ hx2
   refine .inr ⟨hxe,by rw[zKV];exact h2.1.symm,?_⟩
   cases hv:c.getD j undef<;>rw[hv] at this<;>cases this
   rfl
 ·show(g.σ++[w.heap.size])[s.blocks.length]? =_
  rw[<-h.sto.len];simp
theorem solid_ofConst(v:Value)(h:((AV.ofConst v).cells.all AV.plain)=true):RepL (fun _=>none) [] (AV.ofConst v).cells v.cells:=by
 apply zFu (zFD v)
 cases he:AV.ofConst v<;>first|rfl|(rw[he] at h;simp[AV.plain] at h)
def zG4(P:Program)(s:AState)(t:TypeId):Option Res:=
 match P.info? t with
 |some i=>match i.zero with
  |some z=>some (resNew P t s (AV.ofConst z).cells)
  |none=>none
 |none=>none
theorem ok_alloc(P:Program)(o:Oper)(s:AState)(t:TypeId)(ho:o.op=.alloc t)(r:Res)(hr:zG4 P s t=some r)(hs:r.side):OpOk P o s r:=by
 unfold zG4 at hr
 split at hr
 ·rename_i i hi
  split at hr
  ·rename_i z hz
   cases hr
   refine ok_new hs fun F g a w h=>⟨z.cells,?_,?_⟩
   ·simp[execOp,ho,Instr.alloc,zeroValue,typeInfo,hi,hz,newVar,newRow]
   ·exact(solid_ofConst z hs).mono (fun _ _ h=>by cases h) (fun _ _ h=>by simp at h)
  ·cases hr
 ·cases hr
def resBox(P:Program)(s:AState)(t:TypeId)(x:Operand):Res:=
 let r:=resNew P t s ((s.look x).cells.map AV.copy)
 {r with side:=(s.look x).solid=true∧r.side}
theorem ok_box(P:Program)(o:Oper)(s:AState)(t:TypeId)(x:Operand)(ho:o.op=.box t x)(hs:(resBox P s t x).side):OpOk P o s (resBox P s t x):=
 fun F g a w h=>ok_new (P:=P) (t:=t) (o:=o) hs.2 (fun F g a w h=>⟨(a.eval x).cells,by simp[execOp,ho,Instr.box,newVar,newRow],(zFu (zAT h x) hs.1).map_copy⟩) F g a w h
def zKa(P:Program)(t:TypeId):Option Bool:=
 match P.underlying t with
 |some (.struct _)|some (.array ..)=>some true
 |some _=>some false
 |none=>none
theorem zIz{b:Bool}(h:zKa P t=some b)(w:World):(isAgg t).run P w=.ok b w:=by
 unfold zKa at h
 simp only[isAgg,Sem.run_bind,underlying,run_program,Result.andThen_ok]
 split at h<;>rename_i hu<;>simp[hu] at h ⊢
 ·subst h;rfl
 ·subst h;rfl
 ·rename_i h1 h2
  subst h;rfl
def loadV(P:Program)(t:TypeId)(cells:List AV):Option (Prop×AV):=
 match zKa P t,P.info? t with
 |some true,some i=>some (i.size<=cells.length,.agg ((cells.take i.size).map AV.copy))
 |some false,some _=>match cells with
  |x::_=>some (True,x.copy)
  |[]=>none
 |_,_=>none
theorem loadV_ok{cells:List AV}{side:Prop}{x:AV}(hl:loadV P t cells=some (side,x))(hs:side)
 {w:World} {b:Addr} {vs:Nat->Value} (hc: ∀(j:Nat) y,cells[j]? =some y->w.cell? (b.add j)=some (vs j)) (hr: ∀(j:Nat) y,cells[j]? =some y->Rep imm σ y (vs j)):
 ∃v,(loadVar t b).run P w=.ok v w∧Rep imm σ x v∧x.owns=false∧(zKa P t=some false->w.cell? b=some v):=by
 unfold loadV at hl
 split at hl
 ·rename_i i hb hi
  cases hl
  refine⟨.agg ((List.range i.size).map vs).toArray,?_,.agg _ _ (by simp;omega) ?_,rfl,fun h=>by rw[hb] at h;cases h⟩
  ·simp only[loadVar,Sem.run_bind,zIz hb,Result.andThen_ok,if_true,sizeOf,typeInfo,run_program,hi,Sem.run_pure]
   rw[run_loadCells _ b i.size vs (fun j hj=>hc j _ (zq2 (by omega)))]
   simp
  ·intro j y hy
   obtain⟨z,hz,rfl⟩:=getElem?_map_some hy
   rw[List.getElem?_take] at hz
   split at hz
   ·rename_i hj
    have:((List.range i.size).map vs).toArray.getD j undef=vs j:=by simp[zq6,hj]
    rw[this];exact(hr j z hz).copy
   ·cases hz
 ·rename_i i hb hi
  split at hl
  ·rename_i y ys
   cases hl
   have h0:=hc 0 y rfl
   have hb0:b.add 0=b:=rfl
   rw[hb0] at h0
   refine⟨vs 0,?_,(hr 0 y rfl).copy,zEb _,fun _=>h0⟩
   simp only[loadVar,Sem.run_bind,zIz hb,Result.andThen_ok,Bool.false_eq_true,if_false,Sem.run_ite,run_load,h0]
  ·cases hl
 ·cases hl
def zIJ(P:Program)(s:AState)(t:TypeId)(x:Operand):Option Res:=
 match s.look x with
 |.mptr b o=>match loadV P t ((s.blocks.getD b []).drop o) with
  |some (side,v)=>some ⟨b<s.blocks.length∧side,v,if ((s.blocks.getD b []).getD o .top).owns then (if zKa P t=some false then some (.cell b o) else none) else none,s⟩
  |none=>none
 |.cptr cells=>match loadV P t cells with
  |some (side,v)=>some ⟨side,v,none,s⟩
  |none=>none
 |_=>none
theorem Sim.cell(h:Sim F g s a w){b o k:Nat}{x:AV}(hx:(s.blocks.getD b [])[o]? =some x)(hk:g.σ[b]? =some k):
 ∃v,w.cell? ⟨k,o,none⟩=some v∧Rep g.imm g.σ x v∧(∃ty e,x.cellOk ty e)∧w.frozen? ⟨k,o,none⟩=false:=by
 have hb:b<s.blocks.length:=by rw[<-h.sto.len];exact(zq1 hk).1
 obtain⟨c,ty,h3,h4,h5⟩:=h.sto.blk b _ k (zB7 [] hb) hk
 have h6:=h5 o x hx
 have ho:=(zq1 hx).1
 exact⟨_,zDe h3 o (by omega),h6.2.1,⟨_,_,h6.1⟩,zIM h3 o⟩
theorem add_mk(k o j:Nat):(⟨k,o,none⟩:Addr).add j=⟨k,o+j,none⟩:=by
 unfold Addr.add;split
 ·rename_i h;rw[h];rfl
 ·rfl
theorem ok_load(P:Program)(o:Oper)(s:AState)(t:TypeId)(x:Operand)(ho:o.op=.load t x)(r:Res)(hr:zIJ P s t x=some r)(hs:r.side):OpOk P o s r:=by
 unfold zIJ at hr
 split at hr
 ·rename_i b off hx
  split at hr
  ·rename_i side v hl
   cases hr
   intro F g a w h
   have he:=zAT h x
   rw[hx] at he
   cases hv:a.eval x with
   |pointer p=>
    rw[hv] at he
    cases he with
    |mptr _ _ k hk=>
     have hcell: ∀(j:Nat) y,((s.blocks.getD b []).drop off)[j]? =some y->∃u,w.cell? ((⟨k,off,none⟩:Addr).add j)=some u∧Rep g.imm g.σ y u:=fun j y hy=>by
      rw[List.getElem?_drop] at hy
      obtain⟨u,h1,h2,_⟩:=h.cell hy hk
      exact⟨u,by rw[add_mk];exact h1,h2⟩
     obtain⟨u,h1,h2,h3,h4⟩:=loadV_ok (imm:=g.imm) (σ:=g.σ) (w:=w) (b:=⟨k,off,none⟩)
      (vs:=fun j=>(w.cell? ((⟨k,off,none⟩:Addr).add j)).getD undef) hl hs.2
      (fun j y hy=>by obtain⟨u,hu,_⟩:=hcell j y hy;rw[hu];rfl) (fun j y hy=>by obtain⟨u,hu,hr⟩:=hcell j y hy;rw[hu];exact hr)
     refine⟨u,w,g,none,.inl ?_,h,h2,OwnsBy.of_not h3,Floating.none,fun p hp=>?_⟩
     ·simp[execOp,ho,Instr.loadAt,Instr.sureAddr,hv,h1]
     ·simp only at hp
      split at hp
      ·split at hp
       ·rename_i hagg
        cases hp
        exact⟨k,hk,h4 hagg⟩
       ·cases hp
      ·cases hp
   |_=>rw[hv] at he;cases he
  ·cases hr
 ·rename_i cells hx
  split at hr
  ·rename_i side v hl
   cases hr
   intro F g a w h
   have he:=zAT h x
   rw[hx] at he
   cases hv:a.eval x with
   |pointer p=>
    rw[hv] at he
    cases he with
    |cptr _ b vs hi hr=>
     obtain⟨u,h1,h2,h3,h4⟩:=loadV_ok (imm:=g.imm) (σ:=g.σ) (w:=w) (b:=b) (vs:=vs) hl hs (fun j y hy=>h.sto.imm _ _ (hi j y hy)) (fun j y hy=>(hr j y hy).monoS (fun _ _ h=>by simp at h))
     exact⟨u,w,g,none,.inl (by simp[execOp,ho,Instr.loadAt,Instr.sureAddr,hv,h1]),h,h2,OwnsBy.of_not h3,Floating.none,fun p hp=>by cases hp⟩
   |_=>rw[hv] at he;cases he
  ·cases hr
 ·cases hr
def AState.setCells(s:AState)(b o:Nat):List AV->AState
 |[]=>s
 |x::xs=>(s.setCell b o x).setCells b (o+1) xs
theorem setCell_len(s:AState)(b o:Nat)(x:AV):((s.setCell b o x).blocks.getD b []).length=(s.blocks.getD b []).length:=by
 simp only[AState.setCell,zq5,List.getElem?_set_self']
 cases s.blocks[b]?<;>simp
theorem storeList(b k o:Nat): ∀(xs:List AV)(vs:List Value)(i:Nat)(s:AState)(g:Gh)(w:World),Sim F g s a w->g.σ[b]? =some k->vs.length=xs.length->
 (∀(j:Nat) x,xs[j]? =some x->x.one=true∧x.owns=false∧Rep g.imm g.σ x (vs.getD j undef))->o+i+xs.length<=(s.blocks.getD b []).length->
 ∃g' w',(storeCells ⟨k,o,none⟩ vs i).run P w=.ok () w'∧Sim F g' (s.setCells b (o+i) xs) a w'∧g'.imm=g.imm∧g'.σ=g.σ:=by
 intro xs
 induction xs with
 |nil=>
  intro vs i s g w h hk hl _ _
  have:vs=[]:=by simpa using hl
  subst this
  exact⟨g,w,rfl,h,rfl,rfl⟩
 |cons x xs ih=>
  intro vs i s g w h hk hl hr hlen
  cases vs with
  |nil=>simp at hl
  |cons v vs=>
   obtain⟨h1,h2,h3⟩:=hr 0 x rfl
   have h3':Rep g.imm g.σ x v:=h3
   have hin:o+i<(s.blocks.getD b []).length:=by simp only[List.length_cons] at hlen;omega
   obtain⟨u,hu,_,_,hfz⟩:=h.cell (zB7 AV.top hin) hk
   have hs:=h.putCell b (o+i) k none h1 hk h3' (OwnsBy.of_not h2) Floating.none
   obtain⟨g',w',e1,e2,e3,e4⟩:=ih vs (i+1) (s.setCell b (o+i) x) _ _ hs hk (by simpa using hl) (fun j y hy=>by simpa using hr (j+1) y (by simpa using hy))
    (by rw[setCell_len];simp only[List.length_cons] at hlen;omega)
   refine⟨g',w',?_,by simpa[AState.setCells,Nat.add_assoc] using e2,e3,e4⟩
   have hst:(store ((⟨k,o,none⟩:Addr).add i) v).run P w=.ok () (w.setCell ⟨k,o+i,none⟩ v):=by
    rw[run_store _ _ _ _ _ (h3'.oneCell h1),add_mk,hu]
    simp[hfz]
   simp only[storeCells,Sem.run_bind,hst,Result.andThen_ok]
   exact e1
theorem takeS_len(s:AState)(x:Operand)(b:Nat):((s.takeS x).blocks.getD b []).length=(s.blocks.getD b []).length:=by
 cases x with
 |tmp t=>
  simp only[AState.takeS]
  cases s.owner t with
  |none=>rfl
  |some p=>
   cases p with
   |tmp t'=>rfl
   |cell b' o=>
    simp only[AState.degrade,zq5,List.getElem?_set]
    by_cases hb:b'=b
    ·subst hb
     by_cases hl:b'<s.blocks.length
     ·simp[hl]
     ·simp[hl]
    ·simp[hb]
 |_=>rfl
def zF4(P:Program)(s:AState)(t:TypeId)(x y:Operand):Option Res:=
 match s.ev x,P.info? t with
 |.mptr b o,some i=>
  if (s.takeV y).owns1 then some ⟨i.size=1∧o<(s.blocks.getD b []).length,.top,none,(s.takeS y).setCell b o (s.takeV y)⟩
  else some ⟨(s.takeV y).solid=true∧((s.takeV y).cells.map AV.copy).all AV.one=true∧(s.takeV y).cells.length=i.size∧o+i.size<=(s.blocks.getD b []).length,.top,none,
   (s.takeS y).setCells b o ((s.takeV y).cells.map AV.copy)⟩
 |_,_=>none
theorem ok_store(P:Program)(o:Oper)(s:AState)(t:TypeId)(x y:Operand)(ho:o.op=.store t x y)(r:Res)(hr:zF4 P s t x y=some r)(hs:r.side):OpOk P o s r:=by
 unfold zF4 at hr
 split at hr
 case h_2=>cases hr
 rename_i b off i hx hi
 intro F g a w h
 have he:=eval_rep h x
 rw[hx] at he
 cases hv:a.eval x with
 |pointer p=>
  rw[hv] at he
  cases he with
  |mptr _ _ k hk=>
   obtain⟨g1,bo,h1,h2,h3,h4,h5,h6⟩:=zJX h y
   have hk1:g1.σ[b]? =some k:=by rw[h6];exact hk
   split at hr
   ·rename_i hown
    cases hr
    obtain⟨hs1,hs2⟩:=hs
    have hone:(s.takeV y).one=true:=by cases hh:s.takeV y<;>rw[hh] at hown<;>first|rfl|simp at hown
    have hin:off<((s.takeS y).blocks.getD b []).length:=by rw[takeS_len];exact hs2
    obtain⟨u,hu,_,_,hfz⟩:=h1.cell (zB7 AV.top hin) hk1
    have hst:=h1.putCell b off k bo hone hk1 h2 h3 h4
    refine⟨undef,_,_,none,.inr ⟨?_,rfl⟩,hst,.top _,trivial,Floating.none,fun p hp=>by cases hp⟩
    have hoc:=h2.oneCell hone
    have hst':(store ((⟨k,off,none⟩:Addr).add 0) (a.eval y)).run P w=.ok () (w.setCell ⟨k,off,none⟩ (a.eval y)):=by
     rw[run_store _ _ _ _ _ hoc,add_mk];simp[hu,hfz]
    simp[execOp,ho,Instr.storeAt,Instr.sureAddr,hv,storeVar,sizeOf,typeInfo,hi,hs1,cells_one hoc,storeCells,hst']
   ·rename_i hown
    cases hr
    obtain⟨hs1,hs2,hs3,hs4⟩:=hs
    have hcs:=(zFu h2 hs1).map_copy
    obtain⟨g',w',e1,e2,e3,e4⟩:=storeList (P:=P) b k off ((s.takeV y).cells.map AV.copy) (a.eval y).cells.toList 0 _ _ _ h1 hk1 (by simpa using hcs.1)
     (fun j z hz=>⟨zKo hs2 hz,by obtain⟨z',_,rfl⟩:=getElem?_map_some hz;exact zEb _,by
      have:=hcs.2 j z hz
      rw[zq6] at this
      rw[zq5,Array.getElem?_toList];exact this⟩)
     (by rw[takeS_len,zq4];omega)
    refine⟨undef,w',g',none,.inr ⟨?_,rfl⟩,e2,.top _,trivial,Floating.none,fun p hp=>by cases hp⟩
    have hsz:(a.eval y).cells.size=i.size:=by rw[hcs.1];simp;exact hs3
    simp[execOp,ho,Instr.storeAt,Instr.sureAddr,hv,storeVar,sizeOf,typeInfo,hi,hsz,e1]
 |_=>rw[hv] at he;cases he
def zEh(P:Program)(s:AState)(t:TypeId)(x:Operand)(f:Nat):Option Res:=
 match P.underlying t with
 |some (.struct fields)=>match fields[f]? with
  |some fd=>match P.info? fd.type,s.look x with
   |some i,.mptr b o=>some ⟨i.size≠0,.mptr b (o+fd.offset),none,s⟩
   |some i,.cptr cells=>some ⟨i.size≠0,.cptr (cells.drop fd.offset),none,s⟩
   |_,_=>none
  |none=>none
 |_=>none
theorem ok_fieldAddr(P:Program)(o:Oper)(s:AState)(t:TypeId)(x:Operand)(f:Nat)(ho:o.op=.fieldAddr t x f)(r:Res)(hr:zEh P s t x f=some r)(hs:r.side):OpOk P o s r:=by
 unfold zEh at hr
 split at hr
 case h_2=>cases hr
 rename_i fields hu
 split at hr
 case h_2=>cases hr
 rename_i fd hf
 split at hr
 ·rename_i i b off hi hx
  cases hr
  refine .same rfl fun F g a w h=>?_
  have he:=zAT h x
  rw[hx] at he
  cases hv:a.eval x with
  |pointer p=>
   rw[hv] at he
   cases he with
   |mptr _ _ k hk=>
    refine⟨.pointer (some ⟨k,off+fd.offset,none⟩),?_,.mptr _ _ _ hk,fun p hp=>by cases hp⟩
    have hs':i.size≠0:=hs
    simp[execOp,ho,Instr.fieldAt,underlying,hu,hf,Instr.sureAddr,hv,fieldPlace,sizeOf,typeInfo,hi,hs',add_mk]
  |_=>rw[hv] at he;cases he
 ·rename_i i cells hi hx
  cases hr
  refine .same rfl fun F g a w h=>?_
  have he:=zAT h x
  rw[hx] at he
  cases hv:a.eval x with
  |pointer p=>
   rw[hv] at he
   cases he with
   |cptr _ b vs hi' hr'=>
    refine⟨.pointer (some (b.add fd.offset)),?_,.cptr _ _ (fun j=>vs (fd.offset+j)) (fun j y hy=>?_) (fun j y hy=>?_),fun p hp=>by cases hp⟩
    ·have hs':i.size≠0:=hs
     simp[execOp,ho,Instr.fieldAt,underlying,hu,hf,Instr.sureAddr,hv,fieldPlace,sizeOf,typeInfo,hi,hs']
    ·rw[List.getElem?_drop] at hy;rw[zKp];exact hi' _ _ hy
    ·rw[List.getElem?_drop] at hy;exact hr' _ _ hy
  |_=>rw[hv] at he;cases he
 ·cases hr
def elems:AV->Option (List (List AV))
 |.sl l=>some l
 |.osl _ l=>some l
 |.osq _ l=>some l
 |.nsl=>some []
 |.e0=>some []
 |_=>none
theorem zG5{x:AV}(h:Rep imm σ x v)(hl:elems x=some l):
 ∃base cap,v=.slice base l.length cap∧l.length<=cap∧l.length<=281474976710656∧∀(i:Nat) e,l[i]? =some e->∃(a:Addr) (ec:Nat) (vs:Nat->Value),base=some a∧e.length=ec∧∀(j:Nat) y,e[j]? =some y->imm (a.add (i*ec+j))=some (vs j)∧Rep imm [] y (vs j):=by
 cases h with
 |nsl=>cases hl;exact⟨none,0,rfl,Nat.le_refl _,Nat.zero_le _,fun i e he=>by simp at he⟩
 |e0 b=>cases hl;exact⟨b,0,rfl,Nat.le_refl _,Nat.zero_le _,fun i e he=>by simp at he⟩
 |osl0 ec=>cases hl;exact⟨none,0,rfl,Nat.le_refl _,Nat.zero_le _,fun i e he=>by simp at he⟩
 |osq0 ec=>cases hl;exact⟨none,0,rfl,Nat.le_refl _,Nat.zero_le _,fun i e he=>by simp at he⟩
 |sl0=>cases hl;exact⟨none,0,rfl,Nat.le_refl _,Nat.zero_le _,fun i e he=>by simp at he⟩
 |osl ec l' a n cap vs hn hc hbd he hi hr=>
  cases hl;subst hn
  exact⟨some a,cap,rfl,hc,hbd,fun i e hie=>⟨a,ec.size,vs i,rfl,he i e hie,fun j y hy=>⟨hi i e hie j y hy,hr i e hie j y hy⟩⟩⟩
 |osq ec l' a n cap vs hn hc hbd he hi hr=>
  cases hl;subst hn
  exact⟨some a,cap,rfl,hc,hbd,fun i e hie=>⟨a,ec.size,vs i,rfl,he i e hie,fun j y hy=>⟨hi i e hie j y hy,hr i e hie j y hy⟩⟩⟩
 |sl ec l' a n cap vs hn hc hbd he hi hr=>
  cases hl;subst hn
  exact⟨some a,cap,rfl,hc,hbd,fun i e hie=>⟨a,ec,vs i,rfl,he i e hie,fun j y hy=>⟨hi i e hie j y hy,hr i e hie j y hy⟩⟩⟩
 |_=>cases hl
def zEg(P:Program)(s:AState)(t:TypeId)(x ix:Operand):Option Res:=
 match P.underlying t,elems (s.look x),s.look ix with
 |some (.slice el),some l,.int _ n=>match P.info? el,l[n.toNat]? with
  |some i,some e=>some ⟨0<=n∧e.length=i.size,.cptr e,none,s⟩
  |_,_=>none
 |_,_,_=>none
theorem ok_indexAddr(P:Program)(o:Oper)(s:AState)(t:TypeId)(x ix:Operand)(ho:o.op=.indexAddr t x ix)(r:Res)(hr:zEg P s t x ix=some r)(hs:r.side):OpOk P o s r:=by
 unfold zEg at hr
 split at hr
 case h_2=>cases hr
 rename_i el l k n hu hl hn
 split at hr
 case h_2=>cases hr
 rename_i i e hi he
 cases hr
 obtain⟨hs1,hs2⟩:=hs
 refine .same rfl fun F g a w h=>?_
 obtain⟨base,cap,hv,_,_,hel⟩:=zG5 (zAT h x) hl
 obtain⟨b,ec,vs,rfl,hec,hvs⟩:=hel _ _ he
 have hix:=zAT h ix
 rw[hn] at hix
 cases hvi:a.eval ix with
 |int k' n'=>
  rw[hvi] at hix
  cases hix
  have hlt:n.toNat<l.length:=(zq1 he).1
  refine⟨.pointer (some (b.add (n.toNat*i.size))),?_,.cptr _ _ vs (fun j y hy=>?_) (fun j y hy=>(hvs j y hy).2),fun p hp=>by cases hp⟩
  ·have h2:n<(l.length:Int):=by omega
   simp[execOp,ho,Instr.indexAt,hvi,hv,asIntOf,underlying,hu,hs1,h2,sizeOf,typeInfo,hi]
  ·rw[zKp,<-hs2,hec];exact(hvs j y hy).1
 |_=>rw[hvi] at hix;cases hix
def zCK(s:AState)(x:Operand)(i:Nat):Option Res:=
 match s.look x with
 |.tup vs=>match vs[i]? with
  |some v=>some ⟨True,v.copy,none,s⟩
  |none=>none
 |_=>none
theorem zKL(P:Program)(o:Oper)(s:AState)(x:Operand)(i:Nat)(ho:o.op=.extract x i)(r:Res)(hr:zCK s x i=some r)(hs:r.side):OpOk P o s r:=by
 unfold zCK at hr
 split at hr
 case h_2=>cases hr
 rename_i vs hx
 split at hr
 case h_2=>cases hr
 rename_i y hy
 cases hr
 refine .same (zEb _) fun F g a w h=>?_
 have he:=zAT h x
 rw[hx] at he
 cases hv:a.eval x with
 |tuple us=>
  rw[hv] at he
  cases he with
  |tup _ _ hsz hr=>
   have hlt:i<us.size:=by rw[hsz];exact(zq1 hy).1
   refine⟨us.getD i undef,?_,(hr i y hy).copy,fun p hp=>by cases hp⟩
   simp[execOp,ho,Instr.extract,hv,zqe hlt,zq6]
 |_=>rw[hv] at he;cases he
def ownT(s:AState):Operand->Bool
 |.tmp t=>match s.owner t with
  |some (.tmp _)=>true
  |_=>false
 |_=>false
def zIU(s:AState)(x:Operand)(i:Nat):Option Res:=
 match i with
 |0=>match s.takeV x,ownT s x with
  |.otup ec l _,true=>some ⟨True,.osl ec l,none,s.takeS x⟩
  |_,_=>zCK s x 0
 |i+1=>zCK s x (i+1)
theorem ok_ext(P:Program)(o:Oper)(s:AState)(x:Operand)(i:Nat)(ho:o.op=.extract x i)(r:Res)(hr:zIU s x i=some r)(hs:r.side):OpOk P o s r:=by
 cases i with
 |succ i=>exact zKL P o s x (i+1) ho r hr hs
 |zero=>
  simp only[zIU] at hr
  split at hr
  ·rename_i ec l cs hx _
   cases hr
   refine fun F g a w h=>?_
   obtain⟨g',bo,h1,h2,h3,h4,_,_⟩:=zJX h x
   rw[hx] at h2 h3
   cases hv:a.eval x with
   |tuple us=>
    rw[hv] at h2 h3
    cases h2 with
    |otup _ _ _ _ hsz r0 hr=>
     have hlt:0<us.size:=by omega
     refine⟨us.getD 0 undef,w,g',bo,.inl ?_,h1,r0,fun base n cap hb=>h3 us base n cap rfl hb,h4,fun p hp=>by cases hp⟩
     simp[execOp,ho,Instr.extract,hv,zqe hlt,zq6]
   |_=>rw[hv] at h2;cases h2
  ·exact zKL P o s x 0 ho r hr hs
def zFC(s:AState)(x:Operand):Option Res:=
 match s.look x with
 |.mptr b o=>some ⟨True,.mptr b o,none,s⟩
 |.cptr c=>some ⟨True,.cptr c,none,s⟩
 |_=>none
theorem ok_nilCheck(P:Program)(o:Oper)(s:AState)(x:Operand)(ho:o.op=.nilCheck x)(r:Res)(hr:zFC s x=some r)(hs:r.side):OpOk P o s r:=by
 unfold zFC at hr
 split at hr
 ·rename_i b off hx
  cases hr
  refine .same rfl fun F g a w h=>?_
  have he:=zAT h x
  rw[hx] at he
  cases hv:a.eval x with
  |pointer p=>rw[hv] at he;cases he with|mptr _ _ k hk=>exact⟨_,by simp[execOp,ho,hv],.mptr _ _ _ hk,fun p hp=>by cases hp⟩
  |_=>rw[hv] at he;cases he
 ·rename_i c hx
  cases hr
  refine .same rfl fun F g a w h=>?_
  have he:=zAT h x
  rw[hx] at he
  cases hv:a.eval x with
  |pointer p=>rw[hv] at he;cases he with|cptr _ b vs hi hr=>exact⟨_,by simp[execOp,ho,hv],.cptr _ _ vs hi hr,fun p hp=>by cases hp⟩
  |_=>rw[hv] at he;cases he
 ·cases hr
end Go.Abs
