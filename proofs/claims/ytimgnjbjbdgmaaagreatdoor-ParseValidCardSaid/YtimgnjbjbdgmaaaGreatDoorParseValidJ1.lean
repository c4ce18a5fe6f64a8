/- Texts of ParseValid, joined. -/
import Derived.KernelRfl
import Derived.WalkKit
import Derived.Lib.ItoaNum
import Derived.Laws.IdiomCopy
set_option maxRecDepth 100000
set_option maxHeartbeats 20000000
set_option linter.all false
namespace Go.Vm
variable {P:Prop}
theorem zOm (x:P:=by omega):P:=x
theorem zSi (x:P:=by simp):P:=x
theorem zGr (x:P:=by grind):P:=x
theorem zAs (x:P:=by assumption):P:=x
theorem zDe (x:P:=by decide):P:=x
theorem zKr (x:P:=by kernel_rfl):P:=x
inductive Own where
 | sealed|full|nil
 | tag (g:Nat)
inductive V where
 | undef
 | bool (b:Bool)
 | int (k:IntKind) (n:Int)
 | str (s:List UInt8)
 | nilptr
 | ptr (r off:Nat)
 | cptr (cells:List V)
 | slice (o:Own) (n:Nat) (cells:List V)
 | rslice (r off n:Nat) (w:Bool)
 | func (fn:Fn) (first captured:List V)
 | nilFunc
 | iface (t:Nat) (v:V)
 | nilIface
 | opq
 | map (r:Nat)
 | agg (cells:List V)
 | tuple (vs:List V)
inductive Obj where
 | row (cells:List V)
 | grow (e:Nat) (cells:List V)
 | tip (e n:Nat)
 | mp (es:List (V×V))
 | gone
abbrev Fr:=List (Nat×V)
abbrev Hp:=List (Nat×Obj)
inductive Sh where
 | bool|string|iface|func|other
 | int (k:IntKind)
 | ptr (e:Nat)
 | slice (e:Nat)
 | array (n e:Nat)
 | struct (fs:List (Nat×Nat))
 | blk (fs:List (Nat×Nat))
 | map (k e:Nat)
structure Ty where
 sh:Sh
 size:Nat
 bytes:Nat
 zero:List V
inductive Ex where
 | normal|ret
 | exit (id:Nat)
 | panic (v:V)
abbrev Res:=Ex×Fr×Hp
inductive Task where
 | call (f:Nat) (args:List V)
 | loop (f nr:Nat) (body:Code) (fr:Fr)
inductive Out where
 | ret (v:V) (H:Hp)
 | pan (v:V) (H:Hp)
 | res (r:Res)
abbrev Orc:=Task->Hp->Option Out
inductive Hand where
 | plain (h:List V->Hp->Option Out)
 | via (pre:List V->Hp->Option (Nat×List V×Hp)) (post:List V->Hp->Out->Option Out)
structure Env where
 P:Program
 T:List (Nat×Ty)
 keep:Nat->Nat->List Nat
 byref:Nat->Nat->Option Nat
 tags:Nat->Bool
 argTags:Nat->Bool
 quiet:Nat->Bool
 intr:Nat->Option Hand
 ok:Nat->Bool
 meth:Nat->String->Option Nat
 loose:Nat->Bool
 full:Bool:=false
 cut:Nat->Nat->Bool:=fun _ _=>false
 b4g:Nat->Nat->Bool:=fun _ _=>false
 a9z:Nat->Nat->Bool:=fun _ _=>false
 mask:Nat->Nat->List Nat:=fun _ _=>[]
 frz:Nat->Bool:=fun _=>false
 mk0:Bool:=false
 ice:Nat->Nat->Option Nat:=fun _ _=>none
 look:Nat->Bool:=fun _=>false
 slk:Nat->Nat->List (Nat×Nat):=fun _ _=>[]
 sep:Nat->Nat->Option (List Nat×List Nat):=fun _ _=>none
section
variable {α:Type}
def fV (v:V)(k:V->Option α):Option α:=match v with
 | .undef=>k .undef
 | .bool b=>k (.bool b)
 | .int j n=>k (.int j n)
 | .str s=>k (.str s)
 | .nilptr=>k .nilptr
 | .ptr r o=>k (.ptr r o)
 | .cptr cs=>k (.cptr cs)
 | .slice o n cs=>k (.slice o n cs)
 | .rslice r o n w=>k (.rslice r o n w)
 | .func f a b=>k (.func f a b)
 | .nilFunc=>k .nilFunc
 | .iface t v=>k (.iface t v)
 | .nilIface=>k .nilIface
 | .opq=>k .opq
 | .map r=>k (.map r)
 | .agg cs=>k (.agg cs)
 | .tuple cs=>k (.tuple cs)
theorem fV_eq (v:V)(k:V->Option α):fV v k=k v:=by cases v<;>rfl
def fL:List V ->(List V->Option α)->Option α | [],k=>k []|v::r,k=>fV v fun v=>fL r fun r=>k (v::r)
theorem c3m:∀(l:List V) (k:List V->Option α),fL l k=k l
 | [],_=>rfl
 | v::r,k=>by simp only[fL,fV_eq,c3m r]
def fA (v:V)(k:V->Option α):Option α:=match v with
 | .agg cs=>fL cs fun cs=>k (.agg cs)
 | .tuple cs=>fL cs fun cs=>k (.tuple cs)
 | .undef=>k .undef
 | .bool b=>k (.bool b)
 | .int j n=>k (.int j n)
 | .str s=>k (.str s)
 | .nilptr=>k .nilptr
 | .ptr r o=>k (.ptr r o)
 | .cptr cs=>k (.cptr cs)
 | .slice o n cs=>k (.slice o n cs)
 | .rslice r o n w=>k (.rslice r o n w)
 | .func f a b=>k (.func f a b)
 | .nilFunc=>k .nilFunc
 | .iface t v=>k (.iface t v)
 | .nilIface=>k .nilIface
 | .opq=>k .opq
 | .map r=>k (.map r)
theorem b8g (v:V)(k:V->Option α):fA v k=k v:=by cases v<;>simp only[fA,c3m]
def fO (o:Obj)(k:Obj->Option α):Option α:=match o with
 | .row cs=>fL cs fun cs=>k (.row cs)
 | .grow e cs=>k (.grow e cs)
 | .tip e n=>k (.tip e n)
 | .mp es=>k (.mp es)
 | .gone=>k .gone
theorem fO_eq (o:Obj)(k:Obj->Option α):fO o k=k o:=by cases o<;>simp only[fO,c3m]
def fH:Hp ->(Hp->Option α)->Option α | [],k=>k [] |(i,o)::r,k=>fO o fun o=>fH r fun r=>k ((i,o)::r)
theorem b2w:∀(l:Hp) (k:Hp->Option α),fH l k=k l
 | [],_=>rfl
 |(i,o)::r,k=>by simp only[fH,fO_eq,b2w r]
def fN:List Nat ->(List Nat->Option α)->Option α | [],k=>k []|a::r,k=>fN r fun r=>k (a::r)
theorem b99:∀(l:List Nat) (k:List Nat->Option α),fN l k=k l
 | [],_=>rfl
 | a::r,k=>by simp only[fN,b99 r]
def fF:Fr ->(Fr->Option α)->Option α | [],k=>k [] |(i,v)::r,k=>fA v fun v=>fF r fun r=>k ((i,v)::r)
theorem fF_eq:∀(l:Fr) (k:Fr->Option α),fF l k=k l
 | [],_=>rfl
 |(i,v)::r,k=>by simp only[fF,b8g,fF_eq r]
end
@[irreducible] def ltB (a b:Int):Bool:=decide (a<b)
@[irreducible] def leB (a b:Int):Bool:=decide (a<=b)
@[irreducible] def eqB (a b:Int):Bool:=a==b
@[irreducible] def eqS (a b:List UInt8):Bool:=a==b
@[irreducible] def ltS (a b:List UInt8):Bool:=Op.bytesLess a b
@[irreducible] def inR (i:Int) (n:Nat):Bool:=decide (0<=i)&&decide (i<n)
@[irreducible] def inI (lo hi:Int) (n:Nat):Bool:=decide (0<=lo)&&decide (lo<=hi)&&decide (hi<=n)
@[irreducible] def leN (a b:Nat):Bool:=decide (a<=b)
@[irreducible] def eqN (a b:Nat):Bool:=a==b
def gd {α:Type}(c:Bool)(x:Option α):Option α:=match c with|true=>x|false=>none
def O7 (t:Nat):List (Nat×Ty)->Option Ty
 | []=>none
 |(s,y)::r=>match Nat.beq s t with|true=>some y|false=>O7 t r
def a2l:Sh->Bool | .array .. | .struct _ | .blk _=>true|_=>false
def Sh.flds:Sh->Option (List (Nat×Nat)) | .struct fs=>some fs | .blk fs=>some fs|_=>none
def hget (k:Nat):Hp->Option Obj
 | []=>none
 |(s,o)::r=>match Nat.beq s k with|true=>some o|false=>hget k r
def hset (k:Nat)(o:Obj):Hp->Hp
 | []=>[(k,o)]
 |(s,x)::r=>match Nat.beq s k with
  | true=>(k,o)::r
  | false=>match Nat.ble k s with
   | true=>(k,o) ::(s,x)::r
   | false=>(s,x)::hset k o r
def look (t:Nat):Fr->V
 | []=>.undef
 |(s,v)::r=>match Nat.beq s t with|true=>v|false=>look t r
def a2r {α β:Type}(f:α->Option β):List α->Option (List β)
 | []=>some []
 | a::t=>match f a with
  | none=>none
  | some b=>match a2r f t with
   | none=>none
   | some u=>some (b::u)
def a1n (s:List UInt8):List V:=s.map fun b=>.int .u8 b.toNat
def b1U:Value->Option V
 | .bool b=>some (.bool b)
 | .int k n=>some (.int k n)
 | .string ⟨⟨l⟩⟩=>some (.str l)
 | .pointer none=>some .nilptr
 | .slice none n c=>match n,c with|0,0=>some (.slice .nil 0 [])|_,_=>none
 | .nilFunc=>some .nilFunc
 | .nilIface=>some .nilIface
 | .map none=>some .opq
 | _=>none
def ev (fr:Fr):Operand->Option V | .tmp t=>some (look t fr) | .const v=>b1U v | .global _=>none | .func f=>some (.func (.func f) [] [])
def cellsOf:V->List V | .agg cs=>cs|v=>[v]
def b8t:V->Bool | .undef | .agg _ | .tuple _=>false|_=>true
def plainCell:V->Option V | .bool b=>some (.bool b) | .int k n=>some (.int k n) | .str s=>some (.str s) | .nilptr=>some .nilptr | .nilFunc=>some .nilFunc | .nilIface=>some .nilIface | .slice _ n cs=>some (.slice .sealed n cs) | .func fn [] []=>some (.func fn [] []) | .iface t (.int k n)=>some (.iface t (.int k n)) | .iface t (.str s)=>some (.iface t (.str s))|_=>none
def R9 (cs:List V)(off:Nat)(new:List V):List V:=cs.take off++new++cs.drop (off+new.length)
def c05 (T:List (Nat×Ty))(t:Nat)(cs:List V)(off:Nat):Option V :=
 match O7 t T with
 | none=>none
 | some y=>match a2l y.sh with
  | true=>gd (Nat.ble (off+y.size) cs.length) (some (.agg ((cs.drop off).take y.size)))
  | false=>cs[off]?
def vInt (op:BinOp)(k:IntKind)(a b:Int):Option V :=
 match op with
 | .add=>some (.int k (k.wrap (a+b)))
 | .sub=>some (.int k (k.wrap (a-b)))
 | .mul=>some (.int k (k.wrap (a*b)))
 | .quo=>gd (!eqB b 0) (some (.int k (k.wrap (a.tdiv b))))
 | .rem=>gd (!eqB b 0) (some (.int k (a.tmod b)))
 | .and=>some (.int k (k.wrap (BitVec.ofInt k.bits a &&& BitVec.ofInt k.bits b).toNat))
 | .or=>some (.int k (k.wrap (BitVec.ofInt k.bits a ||| BitVec.ofInt k.bits b).toNat))
 | .xor=>some (.int k (k.wrap (BitVec.ofInt k.bits a ^^^ BitVec.ofInt k.bits b).toNat))
 | .andNot=>some (.int k (k.wrap (BitVec.ofInt k.bits a &&& ~~~BitVec.ofInt k.bits b).toNat))
 | .eql=>some (.bool (eqB a b))
 | .neq=>some (.bool (!eqB a b))
 | .lss=>some (.bool (ltB a b))
 | .leq=>some (.bool (leB a b))
 | .gtr=>some (.bool (ltB b a))
 | .geq=>some (.bool (leB b a))
 | _=>none
def vStr (op:BinOp)(a b:List UInt8):Option V :=
 match op with
 | .add=>gd (leB ((a.length+b.length:Nat):Int) 9223372036854775807) (some (.str (a++b)))
 | .eql=>some (.bool (eqS a b))
 | .neq=>some (.bool (!eqS a b))
 | .lss=>some (.bool (ltS a b))
 | .leq=>some (.bool (ltS a b||eqS a b))
 | .gtr=>some (.bool (!(ltS a b||eqS a b)))
 | .geq=>some (.bool (!ltS a b))
 | _=>none
def vEqs (T:List (Nat×Ty))(f:Nat->V->V->Option Bool)(xs ys:List V):List (Nat×Nat)->Option Bool
 | []=>some true
 |(t,off)::fs=>match c05 T t xs off,c05 T t ys off with
  | some a,some b=>match f t a b with
   | none=>none
   | some e=>match vEqs T f xs ys fs with
    | none=>none
    | some r=>some (e&&r)
  | _,_=>none
def vEq (T:List (Nat×Ty)):Nat->Nat->V->V->Option Bool
 | 0,_,_,_=>none
 | d+1,t,x,y =>
  match O7 t T with
  | none=>none
  | some ty=>match ty.sh,x,y with
   | .bool,.bool a,.bool b=>some (a==b)
   | .int _,.int j a,.int k b=>match decide (j=k)with|true=>some (eqB a b)|false=>none
   | .string,.str a,.str b=>some (eqS a b)
   | .struct fs,.agg xs,.agg ys=>vEqs T (vEq T d) xs ys fs
   | _,_,_=>none
def b7m:Sh->V->Option Bool
 | .ptr _,.nilptr=>some true
 | .ptr _,.ptr ..=>some false
 | .ptr _,.cptr _=>some false
 | .iface,.nilIface=>some true
 | .iface,.iface ..=>some false
 | .func,.nilFunc=>some true
 | .func,.func ..=>some false
 | .slice _,.slice ow n _=>match ow with
  | .nil=>some true
  | _=>gd (ltB 0 n) (some false)
 | .slice _,.rslice _ _ n _=>gd (ltB 0 n) (some false)
 | _,_=>none
def b8u (sh:Sh):Operand->Bool
 | .const c=>match sh,c with
  | .ptr _,.pointer none=>true
  | .iface,.nilIface=>true
  | .func,.nilFunc=>true
  | .slice _,.slice none _ _=>true
  | _,_=>false
 | _=>false
def b0l (T:List (Nat×Ty))(t:Nat)(xo yo:Operand)(x y:V):Option Bool :=
 match O7 t T with
 | none=>none
 | some ty=>match b8u ty.sh yo with
  | true=>b7m ty.sh x
  | false=>match b8u ty.sh xo with
   | true=>b7m ty.sh y
   | false=>vEq T 9 t x y
def vBin (T:List (Nat×Ty))(op:BinOp)(t:Nat)(xo yo:Operand)(x y:V):Option V :=
 match x,y with
 | .int j a,.int k b=>match op with
  | .shl=>gd (!ltB b 0) (some (.int j (j.wrap (a*2^(min b.toNat j.bits)))))
  | .shr=>gd (!ltB b 0) (some (.int j (a.fdiv (2^(min b.toNat j.bits)))))
  | op=>match decide (j=k)with|true=>vInt op j a b|false=>none
 | .str a,.str b=>vStr op a b
 | x,y=>match op with
  | .eql=>match b0l T t xo yo x y with|some b=>some (.bool b)|none=>none
  | .neq=>match b0l T t xo yo x y with|some b=>some (.bool (!b))|none=>none
  | _=>none
def a7p:List V->Option (List UInt8)
 | []=>some []
 | .int .u8 n::r=>match a7p r with|some l=>some (UInt8.ofNat n.toNat::l)|none=>none
 | _=>none
def b58 (T:List (Nat×Ty))(src dst:Nat)(x:V):Option V :=
 match O7 src T,O7 dst T with
 | some a,some b=>match b.sh,x with
  | .int k,.int _ n=>some (.int k (k.wrap n))
  | .string,.str s=>match a.sh with | .string=>some (.str s)|_=>none
  | .slice e,.str s=>match a.sh,O7 e T with
   | .string,some y=>match y.sh with
    | .int .u8=>some (.slice .sealed s.length (a1n s))
    | _=>none
   | _,_=>none
  | .string,.slice _ n cs=>match a.sh with
   | .slice e=>match O7 e T with
    | some y=>match y.sh with
     | .int .u8=>match a7p cs with|some l=>gd (eqN n l.length) (some (.str l))|none=>none
     | _=>none
    | none=>none
   | _=>none
  | _,_=>none
 | _,_=>none
def bnd (o:Option V)(d:Int):Option Int :=
 match o with
 | none=>some d
 | some (.int _ n)=>some n
 | _=>none
def b6S (T:List (Nat×Ty))(t:Nat)(x:V)(lo hi mx:Option V):Option V :=
 match O7 t T,x with
 | some y,.str s=>match y.sh,mx,bnd lo 0,bnd hi s.length with
  | .string,none,some l,some h=>gd (inI l h s.length) (some (.str ((s.take h.toNat).drop l.toNat)))
  | _,_,_,_=>none
 | some y,.slice o n cs=>match y.sh with
  | .slice e=>match O7 e T,lo,hi,mx with
   | some _,none,none,none=>some (.slice o n cs)
   | some ye,lo,hi,none=>match bnd lo 0,bnd hi n with
    | some l,some h=>gd (inI l h n) (some (.slice .sealed (h.toNat-l.toNat) ((cs.take (h.toNat*ye.size)).drop (l.toNat*ye.size))))
    | _,_=>none
   | some ye,lo,some h0,some m0=>match bnd lo 0,bnd (some h0) 0,bnd (some m0) 0 with
    | some l,some h,some m=>gd (inI l h n&&eqB h m) (some (.slice .full (h.toNat-l.toNat) ((cs.take (h.toNat*ye.size)).drop (l.toNat*ye.size))))
    | _,_,_=>none
   | _,_,_,_=>none
  | _=>none
 | some y,.rslice r off n w=>match y.sh,mx with
  | .slice e,none=>match O7 e T,bnd lo 0,bnd hi n with
   | some ye,some l,some h=>gd (inI l h n) (some (.rslice r (off+l.toNat*ye.size) (h.toNat-l.toNat) (match lo with|none=>w|some _=>false)))
   | _,_,_=>none
  | _,_=>none
 | some y,.ptr r off=>match y.sh,mx with
  | .array n e,none=>match O7 e T,bnd lo 0,bnd hi n with
   | some ye,some l,some h=>gd (inI l h n) (some (.rslice r (off+l.toNat*ye.size) (h.toNat-l.toNat) false))
   | _,_,_=>none
  | _,_=>none
 | _,_=>none
def b2u (T:List (Nat×Ty))(t:Nat)(x i:V):Option V :=
 match O7 t T,i with
 | some y,.int _ i=>match y.sh,x with
  | .slice e,.slice _ n cs=>match O7 e T with
   | some ye=>gd (inR i n) (some (.cptr (cs.drop (i.toNat*ye.size))))
   | none=>none
  | .slice e,.rslice r off n _=>match O7 e T with
   | some ye=>gd (inR i n) (some (.ptr r (off+i.toNat*ye.size)))
   | none=>none
  | .array n e,.ptr r off=>match O7 e T with
   | some ye=>gd (inR i n) (some (.ptr r (off+i.toNat*ye.size)))
   | none=>none
  | .array n e,.cptr cs=>match O7 e T with
   | some ye=>gd (inR i n) (some (.cptr (cs.drop (i.toNat*ye.size))))
   | none=>none
  | _,_=>none
 | _,_=>none
def b47 (T:List (Nat×Ty))(t:Nat)(x:V)(f:Nat):Option V :=
 match O7 t T with
 | some y=>match y.sh.flds with
  | some fs=>match fs[f]? with
   | some (ft,off)=>match O7 ft T with
    | some yf=>match Nat.beq yf.size 0,x with
     | false,.ptr r o=>some (.ptr r (o+off))
     | false,.cptr cs=>some (.cptr (cs.drop off))
     | _,_=>none
    | none=>none
   | none=>none
  | none=>none
 | none=>none
def c6G (T:List (Nat×Ty))(t:Nat)(x:V)(f:Nat):Option V :=
 match O7 t T,x with
 | some y,.agg cs=>match y.sh with
  | .struct fs=>match fs[f]? with
   | some (ft,off)=>c05 T ft cs off
   | none=>none
  | _=>none
 | _,_=>none
def c2v (T:List (Nat×Ty))(t:Nat)(x i:V):Option V :=
 match O7 t T,i with
 | some y,.int _ i=>match y.sh,x with
  | .string,.str s=>gd (inR i s.length) (some (.int .u8 ((s.getD i.toNat 0).toNat:Nat)))
  | .array n e,.agg cs=>match O7 e T with
   | some ye=>gd (inR i n) (c05 T e cs (i.toNat*ye.size))
   | none=>none
  | _,_=>none
 | _,_=>none
def notU:V->Bool | .undef=>false|_=>true
def b6R (T:List (Nat×Ty))(t:Nat)(parts:List (Nat×V)):Option V :=
 match O7 t T with
 | some y=>match y.sh.flds with
  | some fs=>fill fs parts y.zero
  | none=>match y.sh with
   | .array _ e=>match O7 e T with
    | some ye=>fillA ye.size parts y.zero
    | none=>none
   | _=>none
 | none=>none
where
 fill (fs:List (Nat×Nat)):List (Nat×V)->List V->Option V
 | [],cs=>some (.agg cs)
 |(i,v)::r,cs=>match fs[i]? with
  | none=>none
  | some (ft,off)=>match O7 ft T with
   | none=>none
   | some yf=>gd (notU v&&Nat.beq (cellsOf v).length yf.size&&Nat.ble (off+(cellsOf v).length) cs.length) (fill fs r (R9 cs off (cellsOf v)))
 fillA (sz:Nat):List (Nat×V)->List V->Option V
 | [],cs=>some (.agg cs)
 |(i,v)::r,cs=>gd (notU v&&Nat.beq (cellsOf v).length sz&&Nat.ble (i*sz+(cellsOf v).length) cs.length) (fillA sz r (R9 cs (i*sz) (cellsOf v)))
def b3f (sz:Nat):Nat->List (Nat×V)->Option (List V)
 | _,[]=>some []
 | k,(i,v)::r=>match Nat.beq i k&&Nat.beq (cellsOf v).length sz with
  | false=>none
  | true=>match a2r plainCell (cellsOf v),b3f sz (k+1) r with
   | some a,some b=>some (a++b)
   | _,_=>none
def c2s (T:List (Nat×Ty))(x:V)(asserted:Nat)(ok:Bool):Option V :=
 match O7 asserted T with
 | none=>none
 | some y=>match y.sh,x with
  | .iface,_=>none
  | _,.iface t v=>match Nat.beq t asserted,ok with
   | true,true=>some (.tuple [v,.bool true])
   | true,false=>some v
   | false,true=>some (.tuple [match a2l y.sh with|true=>.agg y.zero|false=>y.zero.headD .undef,.bool false])
   | false,false=>none
  | _,.nilIface=>match ok with
   | true=>some (.tuple [match a2l y.sh with|true=>.agg y.zero|false=>y.zero.headD .undef,.bool false])
   | false=>none
  | _,_=>none
def vLen (T:List (Nat×Ty))(t:Nat)(x:V):Option V :=
 match O7 t T with
 | none=>none
 | some y=>match y.sh,x with
  | .string,.str s=>some (.int .i64 s.length)
  | .slice _,.slice _ n _=>some (.int .i64 n)
  | .slice _,.rslice _ _ n _=>some (.int .i64 n)
  | .array n _,_=>some (.int .i64 n)
  | _,_=>none
def evL (fr:Fr)(l:List Operand):Option (List V):=a2r (ev fr) l
def evP (fr:Fr)(l:List (Nat×Operand)):Option (List (Nat×V)):=a2r (fun p=>match ev fr p.2 with|some v=>some (p.1,v)|none=>none) l
def evX (fr:Fr)(o:Option Operand):Option (Option V):=match o with|none=>some none|some x=>match ev fr x with|some v=>some (some v)|none=>none
def a0Y (T:List (Nat×Ty))(fr:Fr):Op->Option V
 | .move x | .assign x=>ev fr x
 | .pick c a b=>match ev fr c with
  | some (.bool c)=>match c with|true=>ev fr a|false=>ev fr b
  | _=>none
 | .build t parts=>match evP fr parts.toList with|some l=>b6R T t l|none=>none
 | .buildSlice t len parts=>match O7 t T,evP fr parts.toList with
  | some y,some l=>match y.sh with
   | .slice e=>match O7 e T with
    | some ye=>match Nat.beq l.length len&&Nat.ble (len*ye.size) 16777216 with
     | true=>match b3f ye.size 0 l with|some cs=>some (.slice .full len cs)|none=>none
     | false=>none
    | none=>none
   | _=>none
  | _,_=>none
 | .nilCheck x=>match ev fr x with
  | some (.ptr r o)=>some (.ptr r o)
  | some (.cptr cs)=>some (.cptr cs)
  | some (.func (.func f) a b)=>some (.func (.func f) a b)
  | _=>none
 | .binOp op t x y _=>match ev fr x,ev fr y with
  | some a,some b=>vBin T op t x y a b
  | _,_=>none
 | .unOp op _ x=>match op,ev fr x with
  | .not,some (.bool b)=>some (.bool (!b))
  | .neg,some (.int k n)=>some (.int k (k.wrap (0-n)))
  | _,_=>none
 | .convert s d x=>match ev fr x with|some v=>b58 T s d v|none=>none
 | .makeInterface t x=>match O7 t T,ev fr x with
  | some y,some v=>match y.sh with | .iface=>none|_=>some (.iface t v)
  | _,_=>none
 | .makeFunc fn a b=>match evL fr a.toList,evL fr b.toList with
  | some a,some b=>some (.func fn a b)
  | _,_=>none
 | .slice t x lo hi mx=>match ev fr x,evX fr lo,evX fr hi,evX fr mx with
  | some v,some l,some h,some m=>b6S T t v l h m
  | _,_,_,_=>none
 | .fieldAddr t x f=>match ev fr x with|some v=>b47 T t v f|none=>none
 | .field t x f=>match ev fr x with|some v=>c6G T t v f|none=>none
 | .indexAddr t x i=>match ev fr x,ev fr i with|some v,some i=>b2u T t v i|_,_=>none
 | .index t x i=>match ev fr x,ev fr i with|some v,some i=>c2v T t v i|_,_=>none
 | .typeAssert x _ a ok=>match ev fr x with|some v=>c2s T v a ok|none=>none
 | .extract x i=>match ev fr x with|some (.tuple vs)=>vs[i]? | _=>none
 | .call {callee:=.builtin .len,args,argTypes}=>match args.toList,argTypes.toList with
  | [x],t::_=>match ev fr x with|some v=>vLen T t v|none=>none
  | _,_=>none
 | .call {callee:=.builtin .min,args,.. }=>match args.toList with
  | [x,y]=>match ev fr x,ev fr y with
   | some (.int j a),some (.int k b)=>match decide (j=k)with|true=>some (.int j (min a b))|false=>none
   | _,_=>none
  | _=>none
 | .call {callee:=.builtin .max,args,.. }=>match args.toList with
  | [x,y]=>match ev fr x,ev fr y with
   | some (.int j a),some (.int k b)=>match decide (j=k)with|true=>some (.int j (max a b))|false=>none
   | _,_=>none
  | _=>none
 | _=>none
def Q6:Op->Bool | .move _ | .assign _ | .pick .. | .build .. | .buildSlice .. | .nilCheck _ | .binOp .. | .unOp .. | .convert .. | .makeInterface .. | .makeFunc .. | .slice .. | .fieldAddr .. | .field .. | .indexAddr .. | .index .. | .typeAssert .. | .extract ..=>true | .call {callee:=.builtin .len,.. } | .call {callee:=.builtin .min,.. } | .call {callee:=.builtin .max,.. }=>true|_=>false
def a3W:Nat->V->List Nat
 | 0,_=>[]
 | d+1,v=>match v with
  | .ptr r _=>[r]
  | .rslice r _ _ _=>[r]
  | .map r=>[r]
  | .slice (.tag g) _ _=>[g]
  | .func _ a b=>(a.flatMap (a3W d)) ++(b.flatMap (a3W d))
  | .iface _ v=>a3W d v
  | .agg cs=>cs.flatMap (a3W d)
  | .tuple vs=>vs.flatMap (a3W d)
  | _=>[]
def a2K (m:Nat->Option Nat):Nat->V->Option V
 | 0,_=>none
 | d+1,v=>match v with
  | .ptr r o=>match m r with|some r=>some (.ptr r o)|none=>none
  | .rslice r o n w=>match m r with|some r=>some (.rslice r o n w)|none=>none
  | .map r=>match m r with|some r=>some (.map r)|none=>none
  | .slice (.tag g) n cs=>match m g with|some g=>some (.slice (.tag g) n cs)|none=>none
  | .func fn a b=>match a2r (a2K m d) a,a2r (a2K m d) b with|some a,some b=>some (.func fn a b)|_,_=>none
  | .iface t v=>match a2K m d v with|some v=>some (.iface t v)|none=>none
  | .agg cs=>match a2r (a2K m d) cs with|some cs=>some (.agg cs)|none=>none
  | .tuple vs=>match a2r (a2K m d) vs with|some vs=>some (.tuple vs)|none=>none
  | v=>some v
def dep:Nat:=9
def namesO:Obj->List Nat | .row cs=>cs.flatMap (a3W dep)|_=>[]
def renO (m:Nat->Option Nat):Obj->Option Obj
 | .row cs=>match a2r (a2K m dep) cs with|some cs=>some (.row cs)|none=>none
 | o=>some o
def has (k:Nat):List Nat->Bool
 | []=>false
 | a::r=>match Nat.beq a k with|true=>true|false=>has k r
def reach (H:Hp):Nat->List Nat->List Nat->List Nat
 | 0,_,acc=>acc
 | _,[],acc=>acc
 | f+1,k::todo,acc=>match has k acc with
  | true=>reach H f todo acc
  | false=>reach H f (todo ++(match hget k H with|some o=>namesO o|none=>[])) (acc++[k])
def idx (k:Nat):List Nat->Option Nat
 | []=>none
 | a::r=>match Nat.beq a k with
  | true=>some 0
  | false=>match idx k r with|some i=>some (i+1)|none=>none
def a8q (H:Hp)(m:Nat->Option Nat):List Nat->Nat->Option Hp
 | [],_=>some []
 | k::r,i=>match hget k H with
  | none=>none
  | some o=>match renO m o,a8q H m r (i+1)with
   | some o,some l=>some ((i,o)::l)
   | _,_=>none
def b5T:V->V | .slice _ n cs=>.slice .sealed n cs|v=>v
def b1E:V->V | .agg cs=>.agg (cs.map b5T)|v=>b5T v
def b9r:V->V | .tuple vs=>.tuple (vs.map b1E)|v=>b1E v
def maskL (m:Nat->Bool):Nat->List V->List V
 | _,[]=>[]
 | i,v::r=>(match m i with|true=>v|false=>b5T v)::maskL m (i+1) r
def b8C (m:Nat->Bool)(i:Nat):V->V
 | .agg cs=>.agg (maskL m i cs)
 | v=>match m i with|true=>v|false=>b5T v
def maskT (m:Nat->Bool):Nat->List V->List V|_,[]=>[]|j,v::r=>b8C m (100*j) v::maskT m (j+1) r
def b8D (m:Nat->Bool):V->V | .tuple vs=>.tuple (maskT m 0 vs)|v=>b8C m 0 v
def maskG (m:Nat->Bool):Nat->List V->List V
 | _,[]=>[]
 | i,v::r=>(match m i with|true=>v|false=>b1E v)::maskG m (i+1) r
def a7u:List V->Nat->List V×Nat | [],k=>([],k) | .slice .nil n cs::r,k=>((.slice (.tag k) n cs ::(a7u r (k+1)).1),(a7u r (k+1)).2)|v::r,k=>(v ::(a7u r k).1,(a7u r k).2)
def longR:List V->Nat->Bool
 | [],_=>false
 | _::r,k=>match k with
  | 0=>true
  | k+1=>longR r k
def a8C (cs:List V)(k:Nat):List V×Nat:=match longR cs 200 with
 | true=>(cs,k)
 | false=>a7u cs k
def X9:Hp->Nat->Hp×Nat | [],k=>([],k) |(i,.row cs)::r,k=>((i,.row (a8C cs k).1) ::(X9 r (a8C cs k).2).1,(X9 r (a8C cs k).2).2)|x::r,k=>(x ::(X9 r k).1,(X9 r k).2)
def b4h:Nat->Nat->Hp|_,0=>[]|k,n+1=>(k,.tip 0 0)::b4h (k+1) n
def b6P:V->Nat->V×Nat | .agg cs,k=>(.agg (a7u cs k).1,(a7u cs k).2) | .slice .nil n cs,k=>(.slice (.tag k) n cs,k+1)|v,k=>(v,k)
def b7d:List V->Nat->List V×Nat | [],k=>([],k)|v::r,k=>((b6P v k).1 ::(b7d r (b6P v k).2).1,(b7d r (b6P v k).2).2)
def tagD:V->Nat->V×Nat | .tuple vs,k=>(.tuple (b7d vs k).1,(b7d vs k).2)|v,k=>b6P v k
def divF:Nat->Nat->Nat->Nat
 | 0,_,_=>0
 | f+1,a,n=>match Nat.ble n a with
  | true=>divF f (a-n) n+1
  | false=>0
def eSz (n:Nat)(cs:List V):Nat:=divF cs.length cs.length n
def isFull (n:Nat)(cs:List V):Bool:=Nat.blt 0 n&&Nat.blt 0 (eSz n cs)
def a7q:List V->Nat->List V×Hp
 | [],_=>([],[])
 | .slice .full n cs::r,k=>match isFull n cs with
  | true=>(.slice (.tag k) n cs ::(a7q r (k+1)).1,(k,.tip (eSz n cs) n) ::(a7q r (k+1)).2)
  | false=>(.slice .full n cs ::(a7q r k).1,(a7q r k).2)
 | v::r,k=>(v ::(a7q r k).1,(a7q r k).2)
section
variable {β:Type}
def gV (v:V)(k:V->β):β:=match v with
 | .undef=>k .undef
 | .bool b=>k (.bool b)
 | .int j n=>k (.int j n)
 | .str s=>k (.str s)
 | .nilptr=>k .nilptr
 | .ptr r o=>k (.ptr r o)
 | .cptr cs=>k (.cptr cs)
 | .slice o n cs=>k (.slice o n cs)
 | .rslice r o n w=>k (.rslice r o n w)
 | .func f a b=>k (.func f a b)
 | .nilFunc=>k .nilFunc
 | .iface t v=>k (.iface t v)
 | .nilIface=>k .nilIface
 | .opq=>k .opq
 | .map r=>k (.map r)
 | .agg cs=>k (.agg cs)
 | .tuple cs=>k (.tuple cs)
theorem gV_eq (v:V)(k:V->β):gV v k=k v:=by cases v<;>rfl
def gL:List V ->(List V->β)->β | [],k=>k []|v::r,k=>gV v fun v=>gL r fun r=>k (v::r)
theorem gL_eq:∀(l:List V) (k:List V->β),gL l k=k l
 | [],_=>rfl
 | v::r,k=>by simp only[gL,gV_eq,gL_eq r]
def gO (o:Obj)(k:Obj->β):β:=match o with
 | .row cs=>gL cs fun cs=>k (.row cs)
 | .grow e cs=>k (.grow e cs)
 | .tip e n=>k (.tip e n)
 | .mp es=>k (.mp es)
 | .gone=>k .gone
theorem gO_eq (o:Obj)(k:Obj->β):gO o k=k o:=by cases o<;>simp only[gO,gL_eq]
def gH:Hp ->(Hp->β)->β | [],k=>k [] |(i,o)::r,k=>gO o fun o=>gH r fun r=>k ((i,o)::r)
theorem gH_eq:∀(l:Hp) (k:Hp->β),gH l k=k l
 | [],_=>rfl
 |(i,o)::r,k=>by simp only[gH,gO_eq,gH_eq r]
end
def b5m:List Nat->Hp->Hp
 | [],H=>H
 | k::r,H=>match hget k H with
  | some (.row cs)=>match (a7q cs H.length).2 with
   | []=>b5m r H
   | t::ts=>gH (hset k (.row (a7q cs H.length).1) (H++t::ts)) fun H2=>b5m r H2
  | _=>b5m r H
def a6i (seen:List Nat):Fr->Nat->Fr×Hp
 | [],_=>([],[])
 |(s,.slice .full n cs)::r,k=>match isFull n cs && !has s seen with
  | true=>((s,.slice (.tag k) n cs) ::(a6i (s::seen) r (k+1)).1,(k,.tip (eSz n cs) n) ::(a6i (s::seen) r (k+1)).2)
  | false=>((s,.slice .full n cs) ::(a6i (s::seen) r k).1,(a6i (s::seen) r k).2)
 |(s,v)::r,k=>((s,v) ::(a6i (s::seen) r k).1,(a6i (s::seen) r k).2)
def c0i (b:Bool)(fr:Fr)(H:Hp):Fr×Hp:=match b with
 | false=>(fr,H)
 | true=>((a6i [] fr H.length).1,b5m (List.range H.length) (H ++(a6i [] fr H.length).2))
def b4v (b:Bool)(args:List V)(H:Hp):List V×Hp:=match b with
 | false=>(args,H)
 | true=>((a7q args H.length).1,b5m (List.range H.length) (H ++(a7q args H.length).2))
def a6n (b:Bool)(v:V)(H:Hp):V×Hp:=match b with
 | false=>(v,H)
 | true=>((tagD v H.length).1,(X9 H (tagD v H.length).2).1++b4h H.length ((X9 H (tagD v H.length).2).2-H.length))
def a7t (b:Nat->Option Nat):Fr->Nat->Fr×Hp
 | [],_=>([],[])
 |(s,v)::r,k=>match b s,v with
  | some e,.slice .nil _ _=>((s,.rslice k 0 0 true) ::(a7t b r (k+1)).1,(k,.grow e []) ::(a7t b r (k+1)).2)
  | _,v=>((s,v) ::(a7t b r k).1,(a7t b r k).2)
def c3M (f:V->Option V):Fr->Option Fr
 | []=>some []
 |(s,v)::r=>match f v,c3M f r with
  | some v,some r=>some ((s,v)::r)
  | _,_=>none
def a9y:Fr->Nat->Fr×Nat | [],k=>([],k) |(s,.slice .nil n cs)::r,k=>((s,.slice (.tag k) n cs) ::(a9y r (k+1)).1,(a9y r (k+1)).2)|x::r,k=>(x ::(a9y r k).1,(a9y r k).2)
def b2p:Nat->Nat->List Nat->Bool|_,0,_=>true|_,_+1,[]=>false|k,n+1,a::r=>Nat.beq a k&&b2p (k+1) n r
def hasP (k i:Nat):List (Nat×Nat)->Bool | []=>false |(a,b)::r=>(Nat.beq a k&&Nat.beq b i)||hasP k i r
def b9q:Nat->List V->List V|_,[]=>[]|0,v::r=>b5T v::r|i+1,v::r=>v::b9q i r
def b4X (fr:Fr):List (Nat×Nat)->Hp->Hp
 | [],H=>H
 |(s,j)::r,H=>b4X fr r (match look s fr with
  | .ptr k _=>match hget k H with
   | some (.row cs)=>hset k (.row (b9q j cs)) H
   | _=>H
  | _=>match Nat.ble 200000 s with
   | true=>match hget (s-200000) H with
    | some (.row cs)=>hset (s-200000) (.row (b9q j cs)) H
    | _=>H
   | false=>H)
def b9s (l:List (Nat×Nat)):Fr->Fr
 | []=>[]
 |(s,v)::r=>(s,match hasP (100000+s) 0 l with|true=>b1E v|false=>v)::b9s l r
def renum (nr:Nat)(fr:Fr)(H:Hp):Option (Fr×Hp) :=
 fN (reach H 99 (List.range nr++fr.flatMap fun p=>a3W dep p.2) []) fun ns =>
 match c3M (a2K (idx · ns) dep) fr,a8q H (idx · ns) ns 0,b2p 0 nr ns with
 | some fr2,some H2,true=>fF fr2 fun fr2=>fH H2 fun H2=>some (fr2,H2)
 | _,_,_=>none
def frz1:V->Hp->V×Hp
 | .rslice k 0 n wh,H=>match hget k H with
  | some (.grow e cs)=>(.slice .sealed n (cs.take (n*e)),hset k .gone H)
  | _=>(.rslice k 0 n wh,H)
 | v,H=>(v,H)
def b7g:List V->Hp->List V×Hp | [],H=>([],H)|v::r,H=>((frz1 v H).1 ::(b7g r (frz1 v H).2).1,(b7g r (frz1 v H).2).2)
def frzA:V->Hp->V×Hp | .agg cs,H=>(.agg (b7g cs H).1,(b7g cs H).2)|v,H=>frz1 v H
def frzT:List V->Hp->List V×Hp | [],H=>([],H)|v::r,H=>((frzA v H).1 ::(frzT r (frzA v H).2).1,(frzT r (frzA v H).2).2)
def b27 (b:Bool)(v:V)(H:Hp):V×Hp:=match b with
 | false=>(v,H)
 | true=>match v with
  | .tuple vs=>(.tuple (frzT vs H).1,(frzT vs H).2)
  | v=>frzA v H
def b5z (env:Env)(f nr lp:Nat)(fr:Fr)(H:Hp):Option (Fr×Hp) :=
 fF (b9s (env.slk f lp) ((env.keep f lp).map fun s=>(s,look s fr))) fun fr1 =>
 fH (b4X fr1 (env.slk f lp) H) fun H =>
 fN (reach H 99 (List.range nr++fr1.flatMap fun p=>a3W dep p.2) []) fun ns =>
 match c3M (a2K (idx · ns) dep) fr1,a8q H (idx · ns) ns 0,b2p 0 nr ns with
 | some fr2,some H2,true =>
  fF fr2 fun fr2=>fH H2 fun H2 =>
  fF (a7t (env.byref f) fr2 ns.length).1 fun a1=>fH (a7t (env.byref f) fr2 ns.length).2 fun a2 =>
  fF (a9y a1 (ns.length+a2.length)).1 fun b1 =>
  fH ((X9 H2 (a9y a1 (ns.length+a2.length)).2).1++a2++b4h (ns.length+a2.length) ((X9 H2 (a9y a1 (ns.length+a2.length)).2).2-(ns.length+a2.length))) fun H3 =>
  fF (c0i env.full b1 H3).1 fun q1=>fH (c0i env.full b1 H3).2 fun q2 =>
  match env.full with
  | true=>renum nr q1 q2
  | false=>some (q1,q2)
 | _,_,_=>none
def normal (env:Env)(f nr lp:Nat)(fr:Fr)(H:Hp):Option (Fr×Hp):=match env.ice f lp with
 | none=>b5z env f nr lp fr H
 | some s=>fA (b27 true (look s fr) H).1 fun v=>fH (b27 true (look s fr) H).2 fun H1=>b5z env f nr lp ((s,v)::fr) H1
inductive OpR where
 | val (v:V) (H:Hp)
 | pan (v:V) (H:Hp)
def a7W (T:List (Nat×Ty))(e:Nat)(x:V)(H:Hp):Option (Nat×List V) :=
 match x with
 | .slice _ n cs=>match O7 e T with
  | some ye=>gd (eqN (n*ye.size) cs.length) (some (n,cs))
  | none=>none
 | .str s=>match O7 e T with
  | some ye=>gd (Nat.beq ye.size 1) (some (s.length,a1n s))
  | none=>none
 | .rslice r off n _=>match hget r H,O7 e T with
  | some (.row cs),some ye=>match a2r plainCell ((cs.drop off).take (n*ye.size))with
   | some l=>gd (eqN (n*ye.size) l.length) (some (n,l))
   | none=>none
  | some (.grow _ cs),some ye=>gd (leN (off+n*ye.size) cs.length) (some (n,(cs.drop off).take (n*ye.size)))
  | _,_=>none
 | _=>none
def a94:Sh->Bool | .slice _ | .string=>true|_=>false
def a6S (T:List (Nat×Ty))(t xt:Nat)(s x:V)(H:Hp)(k:Nat):Option OpR :=
  match O7 t T,O7 xt T with
  | none,_|_,none=>none
  | some y,some yx=>match y.sh,a94 yx.sh with
    | .slice e,true=>match O7 e T,a7W T e x H with
      | some ye,some (m,news)=>match Nat.beq m 0 with
        | true=>match s with
          | .slice .nil _ _=>match hget k H with
            | some _=>none
            | none=>gd (!Nat.beq ye.size 0) (some (.val (.slice (.tag k) 0 []) (hset k (.tip 0 0) H)))
          | .slice .full n cs=>match hget k H with
            | some _=>none
            | none=>gd (!Nat.beq ye.size 0&&leN 1 n) (some (.val (.slice (.tag k) n cs) (hset k (.tip ye.size n) H)))
          | .slice o n cs=>some (.val (.slice o n cs) H)
          | .rslice r off n wh=>some (.val (.rslice r off n wh) H)
          | _=>none
        | false=>match s with
          | .slice (.tag g) n cs=>match hget g H with
            | some (.tip w n')=>gd ((Nat.beq w 0 || Nat.beq w ye.size) && !Nat.beq ye.size 0 && eqN n n' && eqN (n * ye.size) cs.length && leN ((n + m) * (ye.bytes + 1)) 70368744177664)
                (some (.val (.slice (.tag g) (n+m) (cs++news)) (hset g (.tip ye.size (n+m)) H)))
            | _=>none
          | .slice .sealed _ _=>none
          | .slice _ n cs=>match hget k H with
            | some _=>none
            | none=>gd (!Nat.beq ye.size 0&&eqN (n*ye.size) cs.length&&leN ((n+m)*(ye.bytes+1)) 70368744177664) (some (.val (.slice (.tag k) (n+m) (cs++news)) (hset k (.tip ye.size (n+m)) H)))
          | .rslice r _ n wh=>match wh,hget r H,hget k H with
            | true,some (.grow w cs),none=>gd (Nat.beq w ye.size && !Nat.beq w 0 && leN (n * w) cs.length && leN ((n + m) * (ye.bytes + 1)) 70368744177664)
                (some (.val (.rslice k 0 (n+m) true) (hset r .gone (hset k (.grow w (cs.take (n*w)++news)) H))))
            | _,_,_=>none
          | _=>none
      | _,_=>none
    | _,_=>none
def c01 (T:List (Nat×Ty))(t:Nat)(d s:V)(H:Hp):Option OpR :=
 match O7 t T,d with
 | some y,.rslice r off n _=>match y.sh with
  | .slice e=>match O7 e T,a7W T e s H,hget r H with
   | some ye,some (m,news),some (.grow w cs)=>match Nat.beq m 0 with
    | true=>some (.val (.int .i64 0) H)
    | false=>gd (leN m n&&leN (off+m*ye.size) cs.length) (some (.val (.int .i64 (m:Int)) (hset r (.grow w (R9 cs off news)) H)))
   | _,_,_=>none
  | _=>none
 | _,_=>none
def a6s (T:List (Nat×Ty))(t:Nat)(a:V)(H:Hp):Option V :=
 match O7 t T,a with
 | some y,.ptr r off=>match hget r H with
  | some (.row cs)=>match a2l y.sh with
   | true=>gd (Nat.ble (off+y.size) cs.length) (some (.agg ((cs.drop off).take y.size)))
   | false=>cs[off]?
  | some (.grow _ cs)=>match a2l y.sh with
   | true=>gd (leN (off+y.size) cs.length) (some (.agg ((cs.drop off).take y.size)))
   | false=>cs[off]?
  | _=>none
 | some y,.cptr cs=>match a2l y.sh with
  | true=>gd (leN y.size cs.length) (some (.agg (cs.take y.size)))
  | false=>cs.head?
 | _,_=>none
def a7e (T:List (Nat×Ty))(t:Nat)(a v:V)(H:Hp):Option Hp :=
 match O7 t T,a with
 | some y,.ptr r off=>match Nat.beq (cellsOf v).length y.size,(cellsOf v).all b8t with
  | true,true=>match hget r H with
   | some (.row cs)=>gd (Nat.ble (off+y.size) cs.length) (some (hset r (.row (R9 cs off (cellsOf v))) H))
   | some (.grow e cs)=>match a2r plainCell (cellsOf v)with
    | some l=>gd (leN (off+y.size) cs.length) (some (hset r (.grow e (R9 cs off l)) H))
    | none=>none
   | _=>none
  | _,_=>none
 | _,_=>none
def b3w:V->V->Option Bool
 | .int j a,.int k b=>match decide (j=k)with|true=>some (eqB a b)|false=>none
 | .str a,.str b=>some (eqS a b)
 | .bool a,.bool b=>some (a==b)
 | _,_=>none
def c0e (i:V):List (V×V)->Option (Option V)
 | []=>some none
 |(k,v)::r=>match b3w i k with
  | none=>none
  | some true=>some (some v)
  | some false=>c0e i r
def putM (i x:V):List (V×V)->Option (List (V×V))
 | []=>some [(i,x)]
 |(k,v)::r=>match b3w i k with
  | none=>none
  | some true=>some ((i,x)::r)
  | some false=>match putM i x r with
   | some r=>some ((k,v)::r)
   | none=>none
def b4x:Sh->V->Bool | .bool,.bool _=>true | .int _,.int _ _=>true | .string,.str _=>true|_,_=>false
def b3q:V->Option V
 | .agg cs=>match a2r plainCell cs with|some cs=>some (.agg cs)|none=>none
 | v=>plainCell v
def zeroV (y:Ty):V:=match a2l y.sh with|true=>.agg y.zero|false=>y.zero.headD .undef
def b7R (T:List (Nat×Ty))(t:Nat)(x i:V)(ok:Bool)(H:Hp):Option V :=
 match O7 t T,x with
 | some y,.map r=>match y.sh,hget r H with
  | .map kt et,some (.mp es)=>match O7 kt T,O7 et T with
   | some yk,some ye=>match b4x yk.sh i,c0e i es with
    | true,some (some v)=>some (match ok with|true=>.tuple [v,.bool true]|false=>v)
    | true,some none=>some (match ok with|true=>.tuple [zeroV ye,.bool false]|false=>zeroV ye)
    | _,_=>none
   | _,_=>none
  | _,_=>none
 | _,_=>none
def a8W (T:List (Nat×Ty))(t:Nat)(x i v:V)(H:Hp):Option Hp :=
 match O7 t T,x with
 | some y,.map r=>match y.sh,hget r H with
  | .map kt _,some (.mp es)=>match O7 kt T,b3q v with
   | some yk,some v=>match b4x yk.sh i,putM i v es with
    | true,some es=>some (hset r (.mp es) H)
    | _,_=>none
   | _,_=>none
  | _,_=>none
 | _,_=>none
def isInt:V->Bool | .int _ _=>true|_=>false
def c5N (T:List (Nat×Ty))(t:Nat):Bool:=match O7 t T with
 | some y=>match y.sh with | .map _ _=>true|_=>false
 | none=>false
def c04 (T:List (Nat×Ty))(t:Nat)(l c:V)(H:Hp)(k:Nat):Option OpR :=
 match O7 t T,l,c with
 | some y,.int _ l,.int _ c=>match y.sh with
  | .slice e=>match O7 e T,hget k H with
   | some ye,none=>gd (leB 0 l&&leB l c&&leB (c*(ye.bytes+1)) 70368744177664) (match a2r plainCell ye.zero with
    | some z=>match Nat.beq z.length ye.size with
     | true=>some (.val (.rslice k 0 l.toNat true) (hset k (.grow ye.size (List.replicate l.toNat z).flatten) H))
     | false=>none
    | none=>none)
   | _,_=>none
  | _=>none
 | _,_,_=>none
def c2w (T:List (Nat×Ty))(t:Nat)(c:V)(H:Hp)(k:Nat):Option OpR :=
 match O7 t T,c with
 | some y,.int _ c=>match y.sh with
  | .slice e=>match O7 e T,hget k H with
   | some ye,none=>match Nat.beq ye.size 0 with
    | true=>none
    | false=>gd (leB 0 c&&leB (c*(ye.bytes+1)) 70368744177664) (some (.val (.slice (.tag k) 0 []) (hset k (.tip ye.size 0) H)))
   | _,_=>none
  | _=>none
 | _,_=>none
def isZero:V->Bool | .int _ (.ofNat 0)=>true|_=>false
def L8 (ns:List Nat)(k i:Nat):Option Nat :=
 match ns[i]? with
 | some j=>some j
 | none=>some (k+(i-ns.length))
def a3r (m:Nat->Option Nat):Hp->Hp->Option Hp
 | [],H=>some H
 |(i,o)::r,H=>match m i,renO m o with
  | some j,some o=>a3r m r (hset j o H)
  | _,_=>none
def b1P (H:Hp)(k:Nat):Nat->Bool
 | 0=>true
 | n+1=>(match hget (k+n) H with|some _=>false|none=>true)&&b1P H k n
def keysB:Nat->Hp->Bool|_,[]=>true|i,(k,_)::r=>Nat.beq k i&&keysB (i+1) r
def a6x (H H3:Hp)(k n:Nat):Bool:=Nat.ble (H3.length-n) 64&&keysB 0 H3&&b1P H k (H3.length-n)
def a5s (b:Bool)(m:Nat->Bool)(args:List V):List V:=match b with|true=>maskG m 0 args|false=>args.map b1E
def a6h (b:Bool)(args:List V)(n:Nat):List V×Nat:=match b with|true=>a7u args n|false=>(args,n)
def a7a:Nat->Option Nat:=fun _=>none
def a3B (orc:Orc)(g:Nat)(args:List V)(H:Hp):Option OpR :=
 match a2r (a2K a7a dep) (args.map b1E)with
 | none=>none
 | some X5=>match orc (.call g X5) []with
  | some (.ret v [])=>match a2K a7a dep v with
   | some v=>some (.val v H)
   | none=>none
  | _=>none
def a0e (env:Env)(orc:Orc)(k g:Nat)(args:List V)(H:Hp):Option OpR :=
 match env.quiet g with
 | true=>a3B orc g args H
 | false =>
 let b9S:=a5s (env.argTags g) (env.a9z g) args;let ns:=reach H 99 (b9S.flatMap (a3W dep)) [];match a2r (a2K (idx · ns) dep) b9S,a8q H (idx · ns) ns 0 with
 | some X5,some H2 =>
  let n:=ns.length;let a:=a6h (env.argTags g) X5 n;let b:=X9 H2 a.2;let c:=b4v env.full a.1 (b.1++b4h n (b.2-n));match orc (.call g c.1) c.2 with
  | some (.ret v H3)=>match a2K (L8 ns k) dep v,a3r (L8 ns k) H3 H with
   | some v,some H4=>match a6x H H3 k n with|true=>some (.val v H4)|false=>none
   | _,_=>none
  | some (.pan v H3)=>match a2K (L8 ns k) dep v,a3r (L8 ns k) H3 H with
   | some v,some H4=>match a6x H H3 k n with|true=>some (.pan v H4)|false=>none
   | _,_=>none
  | _=>none
 | _,_=>none
def eqOwn:Own->Own->Bool | .sealed,.sealed=>true | .full,.full=>true | .nil,.nil=>true | .tag a,.tag b=>Nat.beq a b|_,_=>false
mutual
def eqV:V->V->Bool
 | .undef,.undef=>true
 | .bool a,.bool b=>decide (a=b)
 | .int k n,.int j m=>decide (k=j)&&decide (n=m)
 | .str a,.str b=>decide (a=b)
 | .nilptr,.nilptr=>true
 | .ptr r o,.ptr r' o'=>Nat.beq r r'&&Nat.beq o o'
 | .cptr cs,.cptr ds=>eqL cs ds
 | .slice o n cs,.slice p m ds=>eqOwn o p&&Nat.beq n m&&eqL cs ds
 | .rslice r o n w,.rslice r' o' n' w'=>Nat.beq r r'&&Nat.beq o o'&&Nat.beq n n'&&decide (w=w')
 | .func f a c,.func f' a' c'=>decide (f=f')&&eqL a a'&&eqL c c'
 | .nilFunc,.nilFunc=>true
 | .iface t v,.iface t' v'=>Nat.beq t t'&&eqV v v'
 | .nilIface,.nilIface=>true
 | .opq,.opq=>true
 | .map a,.map b=>Nat.beq a b
 | .agg cs,.agg ds=>eqL cs ds
 | .tuple cs,.tuple ds=>eqL cs ds
 | _,_=>false
def eqL:List V->List V->Bool
 | [],[]=>true
 | a::r,b::s=>eqV a b&&eqL r s
 | _,_=>false
end
def eqE:List (V×V)->List (V×V)->Bool | [],[]=>true |(a,b)::r,(c,d)::s=>eqV a c&&eqV b d&&eqE r s|_,_=>false
def eqO:Option Obj->Option Obj->Bool|none,none=>true|some (.row cs),some (.row ds)=>eqL cs ds|some (.grow e cs),some (.grow e' ds)=>Nat.beq e e'&&eqL cs ds|some (.tip e n),some (.tip e' n')=>Nat.beq e e'&&Nat.beq n n'|some (.mp es),some (.mp ds)=>eqE es ds|some .gone,some .gone=>true|_,_=>false
def b9o (A B:Hp):Bool:=(A.all fun p=>eqO (hget p.1 A) (hget p.1 B))&&(B.all fun p=>eqO (hget p.1 A) (hget p.1 B))
def c3J (H:Hp):OpR->Option OpR
 | .val v H4=>match b9o H4 H with
  | true=>some (.val v H)
  | false=>none
 | .pan _ _=>none
def a4C (env:Env)(orc:Orc)(k g:Nat)(args:List V)(H:Hp):Option OpR :=
 match env.quiet g with
 | true=>a3B orc g args H
 | false=>match env.look g with
  | false=>a0e env orc k g args H
  | true=>match a0e env orc k g args H with
   | some r=>c3J H r
   | none=>none
def newName (o:Oper):Nat:=match o.dst with|some d=>64*(d+1)|none=>64
def X6 (env:Env)(orc:Orc)(fr:Fr)(H:Hp)(o:Oper):Option OpR :=
 match o.op with
 | .load t a=>match ev fr a with
  | some a=>match a6s env.T t a H with|some v=>some (.val v H)|none=>none
  | none=>none
 | .store t a v=>match ev fr a,ev fr v with
  | some a,some v=>match a7e env.T t a v H with|some H=>some (.val .undef H)|none=>none
  | _,_=>none
 | .alloc t=>match O7 t env.T,hget (newName o) H with
  | some y,none=>some (.val (.ptr (newName o) 0) (hset (newName o) (.row y.zero) H))
  | _,_=>none
 | .box t v=>match O7 t env.T,hget (newName o) H,ev fr v with
  | some _,none,some v=>match (cellsOf v).all b8t with
   | true=>some (.val (.ptr (newName o) 0) (hset (newName o) (.row (cellsOf v)) H))
   | false=>none
  | _,_,_=>none
 | .makeSlice t l c=>match ev fr l,ev fr c with
  | some l,some c=>match env.mk0&&isZero l with
   | true=>c2w env.T t c H (newName o)
   | false=>c04 env.T t l c H (newName o)
  | _,_=>none
 | .makeMap _ none=>match hget (newName o) H with
  | some _=>none
  | none=>some (.val (.map (newName o)) (hset (newName o) (.mp []) H))
 | .makeMap t (some c)=>match ev fr c,hget (newName o) H with
  | some c,none=>match c5N env.T t&&isInt c with
   | true=>some (.val (.map (newName o)) (hset (newName o) (.mp []) H))
   | false=>none
  | _,_=>none
 | .lookup t x i ok=>match ev fr x,ev fr i with
  | some x,some i=>match b7R env.T t x i ok H with|some v=>some (.val v H)|none=>none
  | _,_=>none
 | .mapUpdate t x i v=>match ev fr x,ev fr i,ev fr v with
  | some x,some i,some v=>match a8W env.T t x i v H with|some H=>some (.val .undef H)|none=>none
  | _,_,_=>none
 | .insert t x i v=>match ev fr x,ev fr i,ev fr v with
  | some x,some i,some v=>match a8W env.T t x i v H with|some H=>some (.val .undef H)|none=>none
  | _,_,_=>none
 | .panic x=>match ev fr x with
  | some (.iface t v)=>some (.pan (.iface t v) H)
  | _=>none
 | .call {callee:=.builtin .append,args,argTypes}=>match args.toList,argTypes.toList with
  | [s,x],[t,u]=>match ev fr s,ev fr x with
   | some s,some x=>a6S env.T t u s x H (newName o)
   | _,_=>none
  | _,_=>none
 | .call {callee:=.builtin .copy,args,argTypes}=>match args.toList,argTypes.toList with
  | [d,s],[t,_]=>match ev fr d,ev fr s with
   | some d,some s=>c01 env.T t d s H
   | _,_=>none
  | _,_=>none
 | .call {callee:=.value f,args,.. }=>match ev fr f,evL fr args.toList with
  | some (.func (.func g) first captured),some l=>a4C env orc (newName o) g (first++l++captured) H
  | _,_=>none
 | .call {callee:=.invoke r m,args,.. }=>match ev fr r,evL fr args.toList with
  | some (.iface t v),some l=>match env.meth t m with
   | some g=>a0e env orc (newName o) g (v::l) H
   | none=>none
  | _,_=>none
 | _=>none
def U0 (env:Env)(orc:Orc)(fr:Fr)(H:Hp)(o:Oper):Option OpR :=
 match Q6 o.op with
 | true=>match a0Y env.T fr o.op with|some v=>some (.val v H)|none=>none
 | false=>X6 env orc fr H o
def b3G (ops:Array Oper)(fr:Fr)(j:Nat):Option (Option Bool) :=
 match (ops[j]?).bind (·.dst)with
 | some t=>match look t fr with
  | .bool b=>some (some b)
  | .tuple []=>some none
  | _=>none
 | none=>some none
def G6 (ops:Array Oper)(o:Oper)(fr:Fr):Option Bool :=
 match o.guard with
 | none=>some true
 | some (j,w)=>match b3G ops fr j with
  | some (some b)=>some (match w with|true=>b|false=>!b)
  | some none=>some false
  | none=>none
def Y5 (d:Option Nat)(v:V)(fr:Fr):Fr:=match d with|some d=>(d,v)::fr|none=>fr
def M7 (env:Env)(orc:Orc)(ops:Array Oper):List Oper->Fr->Hp->Option Res
 | [],fr,H=>some (.normal,fr,H)
 | o::r,fr,H=>match G6 ops o fr with
  | none=>none
  | some false=>M7 env orc ops r (Y5 o.dst (.tuple []) fr) H
  | some true=>match U0 env orc fr H o with
   | none=>none
   | some (.val v H)=>M7 env orc ops r (Y5 o.dst v fr) H
   | some (.pan v H)=>some (.panic v,fr,H)
def a6I (o:Oper):Option Nat:=match o.op with
 | .load _ (.tmp t)=>some t
 | _=>none
def a6F:List Oper->List Nat
 | []=>[]
 | o::r=>match a6I o with
  | some t=>t::a6F r
  | none=>a6F r
def b1R:V->Bool | .cptr _=>true|_=>false
def a9g (b:Bool)(ops:Array Oper)(r:Option Res):Option Res:=match b with
 | false=>r
 | true=>match r with
  | some (.normal,fr,H)=>gd ((a6F ops.toList).all fun t=>b1R (look t fr)) (some (.normal,fr,H))
  | _=>none
def finish (nr:Nat)(v:V)(H:Hp):Option (V×Hp) :=
 fN (reach H 99 (List.range nr++a3W dep v) []) fun ns =>
 match a2K (idx · ns) dep v,a8q H (idx · ns) ns 0,b2p 0 nr ns with
 | some v,some H,true=>fA v fun v=>fH H fun H=>some (v,H)
 | _,_,_=>none
def a9M:List Nat->Fr->Option (List Nat)
 | [],_=>some []
 | t::r,fr=>match Nat.ble 1000000 t with
  | true=>a9M r fr
  | false=>match look t fr,a9M r fr with
   | .ptr k _,some l=>some (k::l)
   | .cptr _,some l=>some l
   | _,_=>none
def b3a (o:Oper):Bool:=match o.op with
 | .box _ _=>true
 | .call {callee:=.builtin .append,.. }=>true
 | _=>false
def b1F (o:Oper):Option Nat:=match o.op with
 | .store _ (.tmp t) _=>some t
 | _=>none
def c7e (L:List Nat):V->Bool | .ptr k _=>!has k L|_=>false
def b0M (o:Oper):Bool:=match o.op with
 | .call {callee:=.value _,.. }=>true
 | _=>false
def a6d (o:Oper):Bool:=match o.op with
 | .alloc _=>true
 | _=>false
def touch (env:Env)(fr:Fr)(H:Hp)(o:Oper):List Nat:=match o.op with
 | .call {callee:=.builtin .append,args,.. }=>match evL fr args.toList with
  | some l=>l.flatMap (a3W dep)
  | none=>[]
 | .call {callee:=.value f,args,.. }=>match ev fr f,evL fr args.toList with
  | some (.func (.func g) first captured),some l=>match env.quiet g with
   | true=>[]
   | false=>reach H 99 ((a5s (env.argTags g) (env.a9z g) (first++l++captured)).flatMap (a3W dep)) []
  | _,_=>[]
 | _=>[]
def isSome {α:Type}:Option α->Bool|some _=>true|none=>false
def c56 (L:List Nat):V->Bool | .ptr k _=>has k L | .cptr _=>true|_=>false
def a6m (env:Env)(L sl:List Nat)(fr:Fr)(H:Hp)(o:Oper):Bool:=match b0M o||a6d o||b3a o with
 | true=>L.all fun r=>!has r (touch env fr H o)&&isSome (hget r H)
 | false=>match b1F o with
  | some t=>match has (t+1000000) sl with
   | true=>c7e L (look t fr)
   | false=>true
  | none=>match a6I o with
   | some t=>match has t sl with
    | true=>c56 L (look t fr)
    | false=>true
   | none=>true
def M9 (env:Env)(orc:Orc)(L sl:List Nat)(ops:Array Oper):List Oper->Fr->Hp->Option Res
 | [],fr,H=>some (.normal,fr,H)
 | o::r,fr,H=>match G6 ops o fr with
  | none=>none
  | some false=>M9 env orc L sl ops r (Y5 o.dst (.tuple []) fr) H
  | some true=>match a6m env L sl fr H o with
   | false=>none
   | true=>match U0 env orc fr H o with
    | none=>none
    | some (.val v H)=>M9 env orc L sl ops r (Y5 o.dst v fr) H
    | some (.pan v H)=>some (.panic v,fr,H)
def a7H:List Oper->List Nat
 | []=>[]
 | o::r=>match a6d o with
  | true=>newName o::a7H r
  | false=>a7H r
def c1b (l:List Nat)(H:Hp):Bool:=l.all fun k=>!isSome (hget k H)
def b03 (ops:Array Oper):List Nat->List Oper
 | []=>[]
 | i::r=>match ops[i]? with
  | some o=>o::b03 ops r
  | none=>b03 ops r
def a7D (env:Env)(orc:Orc)(nr:Nat)(ops:Array Oper)(S sl:List Nat)(fr:Fr)(H:Hp):Option Res :=
 match M7 env orc ops (b03 ops S) fr H with
 | none=>none
 | some (_,f1,_)=>match a9M sl f1 with
  | none=>none
  | some L=>match M9 env orc L sl ops (b03 ops S) fr H with
   | some (.normal,f2,H2)=>some (.normal,f2,H2)
   | some (.panic v,_,H2)=>match c1b (a7H ops.toList) H2,finish nr v H2 with
    | true,some (v',H')=>some (.panic v',[],H')
    | _,_=>none
   | _=>none
def a3q:Code->Nat | .region id _ _=>id | .seq a _=>a3q a | .cond _ a _=>a3q a | .block _ c=>a3q c | .scope c=>a3q c | .loop c=>a3q c|_=>0
def b4C (env:Env)(f id:Nat)(d:Bool):Option (List Nat×List Nat):=match d with
 | true=>env.sep f id
 | false=>none
def a5C:Code->Nat
 | .region id _ _=>id+1
 | .seq a b=>match a5C a with|0=>a5C b|k+1=>k+1
 | .cond c a b=>match a5C a with
  | 0=>match a5C b with
   | 0=>match c with
    | .tmp t=>t+90000
    | _=>0
   | k+1=>k+30001
  | k+1=>k+30001
 | .block _ c=>a5C c
 | .scope c=>a5C c
 | .loop c=>a5C c
 | _=>0
def cutAt (env:Env)(f nr:Nat)(b:Code)(fr:Fr)(H:Hp):Option (Fr×Hp):=match env.cut f (a5C b)with
 | true=>normal env f nr (a5C b+100000) fr H
 | false=>some (fr,H)
def G8 (env:Env)(orc:Orc)(f nr:Nat):Code->Fr->Hp->Option Res
 | .skip,fr,H=>some (.normal,fr,H)
 | .label _,fr,H=>some (.normal,fr,H)
 | .region id ops d,fr,H=>match b4C env f id d with
  | some (S,sl)=>a7D env orc nr ops S sl fr H
  | none=>a9g (d&&env.loose f) ops (match M7 env orc ops ops.toList fr H with
   | some (.panic v,fr,H)=>match d with|true=>none|false=>some (.panic v,fr,H)
   | r=>r)
 | .seq a b,fr,H=>match G8 env orc f nr a fr H with
  | some (.normal,fr,H)=>match cutAt env f nr b fr H with
   | some (fr,H)=>G8 env orc f nr b fr H
   | none=>none
  | r=>r
 | .cond c a b,fr,H=>match ev fr c with
  | some (.bool t)=>match t with
   | true=>G8 env orc f nr a fr H
   | false=>G8 env orc f nr b fr H
  | _=>none
 | .block id c,fr,H=>match G8 env orc f nr c fr H with
  | some (.exit i,fr,H)=>match Nat.beq i id with
   | true=>some (.normal,fr,H)
   | false=>some (.exit i,fr,H)
  | r=>r
 | .loop body,fr,H=>match normal env f nr (a3q body) fr H with
  | some (fr,H)=>match orc (.loop f nr body fr) H with
   | some (.res r)=>some r
   | _=>none
  | none=>none
 | .exit id,fr,H=>some (.exit id,fr,H)
 | .ret,fr,H=>some (.ret,fr,H)
 | _,_,_=>none
def a6G:Nat->List V->Fr|_,[]=>[]|k,v::r=>(k,v)::a6G (k+1) r
def b9l (T:List (Nat×Ty))(fr:Fr)(H:Hp):ResultVar->Option V | .tmp t=>some (look t fr) | .cell a t=>a6s T t (look a fr) H
def a88 (T:List (Nat×Ty))(fr:Fr)(H:Hp)(l:List ResultVar):Option V :=
 match a2r (b9l T fr H) l with
 | some [v]=>some v
 | some vs=>some (.tuple vs)
 | none=>none
def a7l (env:Env)(orc:Orc)(g:Nat)(args:List V)(H:Hp):Option Out :=
 match env.P.funcs[g]?,env.ok g with
 | some fn,true=>match fn.body with
  | none=>none
  | some c=>match G8 env orc g H.length c (a6G 0 args) H with
   | some (.normal,fr,H1)|some (.ret,fr,H1)=>match a88 env.T fr H1 fn.results.toList with
    | some v=>match finish H.length (match env.tags g with|true=>b8D (env.b4g g) (b27 (env.frz g) v H1).1|false=>b9r (b27 (env.frz g) v H1).1) (b27 (env.frz g) v H1).2 with
     | some (v,H2)=>some (.ret (a6n (env.tags g) v H2).1 (a6n (env.tags g) v H2).2)
     | none=>none
    | none=>none
   | some (.panic v,_,H1)=>match finish H.length v H1 with
    | some (v,H2)=>some (.pan (a6n (env.tags g) v H2).1 (a6n (env.tags g) v H2).2)
    | none=>none
   | _=>none
 | _,_=>none
def a9a (env:Env)(orc:Orc)(f nr:Nat)(body:Code)(fr:Fr)(H:Hp):Option Out :=
 match G8 env orc f nr body fr H with
 | some (.normal,fr,H)=>match normal env f nr (a3q body) fr H with
  | some (fr,H)=>orc (.loop f nr body fr) H
  | none=>none
 | some r=>some (.res r)
 | none=>none
def step (env:Env)(orc:Orc):Task->Hp->Option Out
 | .call g args,H=>match env.intr g with
  | some (.plain h)=>h args H
  | some (.via pre post)=>match pre args H with
   | some (g',l,H')=>match orc (.call g' l) H' with
    | some o=>post args H o
    | none=>none
   | none=>none
  | none=>a7l env orc g args H
 | .loop f nr body fr,H=>a9a env orc f nr body fr H
def run (env:Env):Nat->Orc|0=>fun _ _=>none|n+1=>step env (run env n)
variable {t:Bool} {a b:Code} {fn:Func} {H2:Hp} {args:List V} {g id:Nat} {c:Operand} {v1:V}
def a5E (x:Option V):Option V:=match x with|none=>none|some v=>fV v some
def a7J (x:Option V):Option V:=match x with|none=>none|some v=>fA v some
def b8m (x:Option OpR):Option OpR:=match x with
 | some (.val v H)=>fV v fun v=>fH H fun H=>some (.val v H)
 | x=>x
def a0x (x:Option Hp):Option Hp:=match x with|none=>none|some H=>fH H some
theorem b6l (x:Option V):a5E x=x:=by cases x<;>simp only[a5E,fV_eq]
theorem b1e (x:Option V):a7J x=x:=by cases x<;>simp only[a7J,b8g]
theorem a3G (x:Option Hp):a0x x=x:=by cases x<;>simp only[a0x,b2w]
theorem c8n (x:Option OpR):b8m x=x:=by
 cases x with
 | none=>rfl
 | some x=>cases x<;>simp only[b8m,fV_eq,b2w]
section
variable {env:Env} {orc:Orc} {f nr:Nat} {ops:Array Oper} {o:Oper} {rest:List Oper} {fr fr1:Fr} {H H1:Hp} {r:Option Res} {v:V} {K:Res->Prop}
def Ev (env:Env)(orc:Orc)(f nr:Nat)(c:Code)(fr:Fr)(H:Hp)(K:Res->Prop):Prop:=∃r,G8 env orc f nr c fr H=some r/\K r
def Os (env:Env)(orc:Orc)(ops:Array Oper)(l:List Oper)(fr:Fr)(H:Hp)(K:Res->Prop):Prop:=∃r,M7 env orc ops l fr H=some r/\K r
def thenK (env:Env)(orc:Orc)(f nr:Nat)(b:Code)(K:Res->Prop):Res->Prop |(.normal,fr,H)=>Ev env orc f nr b fr H K|r=>K r
def c1e (id:Nat)(K:Res->Prop):Res->Prop
 |(.exit i,fr,H)=>match Nat.beq i id with|true=>K (.normal,fr,H)|false=>K (.exit i,fr,H)
 | r=>K r
theorem E8 (h:Ev env orc f nr a fr H (thenK env orc f nr b K))(hc:env.cut f (a5C b)=false:=by rfl):Ev env orc f nr (.seq a b) fr H K:=by
 obtain⟨⟨e,fr1,H1⟩,h1,h2⟩:=h;cases e with
 | normal=>obtain⟨r,h3,h4⟩:=h2;exact⟨r,by simp only[G8,h1,cutAt,hc];grind,h4⟩
 | ret=>exact⟨_,by simp only[G8,h1],h2⟩
 | exit i=>exact⟨_,by simp only[G8,h1],h2⟩
 | panic v=>exact⟨_,by simp only[G8,h1],h2⟩
def cutK (env:Env)(orc:Orc)(f nr:Nat)(b:Code)(K:Res->Prop):Res->Prop |(.normal,fr,H)=>∃fr1 H1,normal env f nr (a5C b+100000) fr H=some (fr1,H1)/\Ev env orc f nr b fr1 H1 K|r=>K r
theorem c1v (hc:env.cut f (a5C b)=true)(h:Ev env orc f nr a fr H (cutK env orc f nr b K)):Ev env orc f nr (.seq a b) fr H K:=by
 obtain⟨⟨e,fr1,H1⟩,h1,h2⟩:=h;cases e with
 | normal=>obtain⟨fr2,H2,h5,r,h3,h4⟩:=h2;exact⟨r,by simp only[G8,h1,cutAt,hc,h5];grind,h4⟩
 | ret=>exact⟨_,by simp only[G8,h1],h2⟩
 | exit i=>exact⟨_,by simp only[G8,h1],h2⟩
 | panic v=>exact⟨_,by simp only[G8,h1],h2⟩
theorem M8 (h:Ev env orc f nr a fr H (c1e id K)):Ev env orc f nr (.block id a) fr H K:=by
 obtain⟨⟨e,fr1,H1⟩,h1,h2⟩:=h;cases e with
 | normal=>exact⟨_,by simp only[G8,h1],h2⟩
 | ret=>exact⟨_,by simp only[G8,h1],h2⟩
 | exit i =>
  simp only[c1e]at h2;cases hb:Nat.beq i id with
  | true=>rw[hb]at h2;exact⟨_,by simp only[G8,h1,hb],h2⟩
  | false=>rw[hb]at h2;exact⟨_,by simp only[G8,h1,hb],h2⟩
 | panic v=>exact⟨_,by simp only[G8,h1],h2⟩
def regK (d:Bool)(K:Res->Prop):Res->Prop
 |(.panic v,fr,H)=>match d with|true=>False|false=>K (.panic v,fr,H)
 | r=>K r
theorem A7 {d:Bool}(h:Os env orc ops ops.toList fr H (regK d K))(hb:(d&&env.loose f)=false:=by rfl)(hs:b4C env f id d=none:=by rfl):Ev env orc f nr (.region id ops d) fr H K:=by
 obtain⟨⟨e,fr1,H1⟩,h1,h2⟩:=h;unfold Ev;simp only[G8,hs,hb,a9g];cases e with
 | panic v=>cases d with
  | true=>exact h2.elim
  | false=>exact⟨_,zGr,h2⟩
 | normal=>exact⟨_,zGr,h2⟩
 | ret=>exact⟨_,zGr,h2⟩
 | exit i=>exact⟨_,zGr,h2⟩
theorem F7 (h:K (.ret,fr,H)):Ev env orc f nr .ret fr H K:=⟨_,rfl,h⟩
theorem H6 (h:K (.normal,fr,H)):Ev env orc f nr .skip fr H K:=⟨_,rfl,h⟩
theorem a2k {i:Nat}(h:K (.exit i,fr,H)):Ev env orc f nr (.exit i) fr H K:=⟨_,rfl,h⟩
theorem Y9 (hc:ev fr c=some (.bool t))(ht:t=true)(h:Ev env orc f nr a fr H K):Ev env orc f nr (.cond c a b) fr H K:=by
 subst ht;obtain⟨r,h1,h2⟩:=h;exact⟨r,by simp only[G8,hc];omega,h2⟩
theorem a0r (hc:ev fr c=some (.bool t))(ht:t=false)(h:Ev env orc f nr b fr H K):Ev env orc f nr (.cond c a b) fr H K:=by
 subst ht;obtain⟨r,h1,h2⟩:=h;exact⟨r,by simp only[G8,hc];omega,h2⟩
theorem I4 (h:K (.normal,fr,H)):Os env orc ops [] fr H K:=⟨_,rfl,h⟩
theorem o7 (hw:G6 ops o fr=some true)(hp:Q6 o.op=true)(hv:a5E (a0Y env.T fr o.op)=some v)(h:Os env orc ops rest (Y5 o.dst v fr) H K):Os env orc ops (o::rest) fr H K:=by
 rw[b6l]at hv;obtain⟨r,h1,h2⟩:=h;exact⟨r,by simp only[M7,hw,U0,hp,hv];omega,h2⟩
theorem c3Q (hw:G6 ops o fr=some true)(hp:Q6 o.op=true)(hv:a7J (a0Y env.T fr o.op)=some v)(h:Os env orc ops rest (Y5 o.dst v fr) H K):Os env orc ops (o::rest) fr H K:=by
 rw[b1e]at hv;obtain⟨r,h1,h2⟩:=h;exact⟨r,by simp only[M7,hw,U0,hp,hv];omega,h2⟩
theorem a7c (hw:G6 ops o fr=some true)(hp:Q6 o.op=true)(hv:a0Y env.T fr o.op=some v)(h:Os env orc ops rest (Y5 o.dst v fr) H K):Os env orc ops (o::rest) fr H K:=by
 obtain⟨r,h1,h2⟩:=h;exact⟨r,by simp only[M7,hw,U0,hp,hv];omega,h2⟩
theorem c7G (hw:G6 ops o fr=some false)(h:Os env orc ops rest (Y5 o.dst (.tuple []) fr) H K):Os env orc ops (o::rest) fr H K:=by
 obtain⟨r,h1,h2⟩:=h;exact⟨r,by simp only[M7,hw];omega,h2⟩
theorem c6e (hw:G6 ops o fr=some true)(hp:Q6 o.op=false)(hv:b8m (X6 env orc fr H o)=some (.val v H1))(h:Os env orc ops rest (Y5 o.dst v fr) H1 K):Os env orc ops (o::rest) fr H K:=by
 rw[c8n]at hv;obtain⟨r,h1,h2⟩:=h;exact⟨r,by simp only[M7,hw,U0,hp,hv];omega,h2⟩
theorem a3t (hw:G6 ops o fr=some true)(hp:Q6 o.op=false)(hv:X6 env orc fr H o=some (.val v H1))(h:Os env orc ops rest (Y5 o.dst v fr) H1 K):Os env orc ops (o::rest) fr H K:=by
 obtain⟨r,h1,h2⟩:=h;exact⟨r,by simp only[M7,hw,U0,hp,hv];omega,h2⟩
def finT (fz tg:Bool)(m:Nat->Bool)(nr:Nat)(v:V)(H:Hp):Option (V×Hp):=match finish nr (match tg with|true=>b8D m (b27 fz v H).1|false=>b9r (b27 fz v H).1) (b27 fz v H).2 with
 | some (v,H2)=>fA (a6n tg v H2).1 fun v1=>fH (a6n tg v H2).2 fun H1=>some (v1,H1)
 | none=>none
def RetK (env:Env)(nr:Nat)(l:List ResultVar)(fz tg:Bool)(m:Nat->Bool)(v1:V)(H2:Hp):Res->Prop |(.ret,fr,H1) |(.normal,fr,H1)=>∃v,a88 env.T fr H1 l=some v/\finT fz tg m nr v H1=some (v1,H2)|_=>False
theorem c0d {fz tg:Bool}{m:Nat->Bool}{nr:Nat}{v:V}(h:finT fz tg m nr v H=some (v1,H2)):∃v2 H3,finish nr (match tg with|true=>b8D m (b27 fz v H).1|false=>b9r (b27 fz v H).1) (b27 fz v H).2=some (v2,H3)/\(a6n tg v2 H3).1=v1/\(a6n tg v2 H3).2=H2:=by
 unfold finT at h;split at h
 ·rename_i v2 H3 hf;refine⟨v2,H3,hf,?_⟩;simp only[b8g,b2w,Option.some.injEq,Prod.mk.injEq]at h;exact h
 grind
theorem c2o {c:Code}(hf:env.P.funcs[g]? = some fn)(hok:env.ok g=true)(hb:fn.body=some c)
  (h:Ev env orc g H.length c (a6G 0 args) H (RetK env H.length fn.results.toList (env.frz g) (env.tags g) (env.b4g g) v1 H2)):a7l env orc g args H=some (.ret v1 H2):=by
 obtain⟨⟨e,fr1,H1⟩,h1,h2⟩:=h;cases e with
 | normal=>obtain⟨v,h3,h4⟩:=h2;obtain⟨v2,H3,g1,g2,g3⟩:=c0d h4;simp only[a7l,hf,hok,hb,h1,h3];grind
 | ret=>obtain⟨v,h3,h4⟩:=h2;obtain⟨v2,H3,g1,g2,g3⟩:=c0d h4;simp only[a7l,hf,hok,hb,h1,h3];grind
 | exit i=>exact h2.elim
 | panic v=>exact h2.elim
def OutK (env:Env)(g nr:Nat)(l:List ResultVar)(out:Out):Res->Prop |(.ret,fr,H1) |(.normal,fr,H1)=>∃v v1 H2,a88 env.T fr H1 l=some v/\finT (env.frz g) (env.tags g) (env.b4g g) nr v H1=some (v1,H2)/\out=.ret v1 H2 |(.panic v,_,H1)=>∃v1 H2,finish nr v H1=some (v1,H2)/\out=.pan (a6n (env.tags g) v1 H2).1 (a6n (env.tags g) v1 H2).2|_=>False
theorem run_out {c:Code}{out:Out}(hf:env.P.funcs[g]? = some fn)(hok:env.ok g=true)(hb:fn.body=some c)
  (h:Ev env orc g H.length c (a6G 0 args) H (OutK env g H.length fn.results.toList out)):a7l env orc g args H=some out:=by
 obtain⟨⟨e,fr1,H1⟩,h1,h2⟩:=h;cases e with
 | normal=>obtain⟨v,v1,H2,h3,h4,rfl⟩:=h2;exact c2o hf hok hb ⟨_,h1,v,h3,h4⟩
 | ret=>obtain⟨v,v1,H2,h3,h4,rfl⟩:=h2;exact c2o hf hok hb ⟨_,h1,v,h3,h4⟩
 | exit i=>exact h2.elim
 | panic v=>obtain⟨v1,H2,h3,rfl⟩:=h2;simp only[a7l,hf,hok,hb,h1,h3]
theorem a0M {c:Bool}{x r:Option V}(h:c=true)(hx:a5E x=r):a5E (gd c x)=r:=by rw[h];exact hx
theorem a9G {α:Type}{c:Bool}{x r:Option α}(h:c=true)(hx:x=r):gd c x=r:=by rw[h];exact hx
end
end Go.Vm
namespace Go.Vm
open Go
def kpTab:Array Value:=(Lib.pow10Tab.map fun z=>Value.int .u64 z).toArray
def kpL:List (Nat×Array Value):=[(1,kpTab)]
end Go.Vm
namespace Go.Vm
variable {b k o:Nat} {w w':World}
structure Rho where
 at_:Nat->Option (Option (Nat×Nat)×Option Nat)
 hd:Nat->Nat->Option (Option Addr×Nat)
abbrev Lab:=Nat->Nat->Option (Option Nat)
inductive NF:V->Prop
 | undef:NF .undef
 | bool (b:Bool):NF (.bool b)
 | int (k:IntKind) (n:Int):NF (.int k n)
 | str (s:List UInt8):NF (.str s)
 | nilptr:NF .nilptr
 | cptr (cs:List V):(∀v∈cs,NF v)->NF (.cptr cs)
 | slice (o:Own) (n:Nat) (cs:List V):(∀g,o ≠ .tag g) ->(∀v∈cs,NF v)->NF (.slice o n cs)
 | func (fn:Fn):NF (.func fn [] [])
 | nilFunc:NF .nilFunc
 | iface (t:Nat) (v:V):NF v->NF (.iface t v)
 | nilIface:NF .nilIface
 | opq:NF .opq
 | agg (cs:List V):(∀v∈cs,NF v)->NF (.agg cs)
 | tuple (cs:List V):(∀v∈cs,NF v)->NF (.tuple cs)
structure Rho.le (a b:Rho):Prop where
 at_:∀k x,a.at_ k=some x->b.at_ k=some x
 hd:∀k n x,a.hd k n=some x->b.hd k n=some x
theorem Rho.le.refl (a:Rho):a.le a:=⟨fun _ _ h=>h,fun _ _ _ h=>h⟩
theorem Rho.le.trans {a b c:Rho}(h:a.le b)(g:b.le c):a.le c:=⟨fun k x e=>g.at_ k x (h.at_ k x e),fun k n x e=>g.hd k n x (h.hd k n x e)⟩
def cellAt (w:World)(b o:Nat):Option Value:=w.cell? ⟨b,o,none⟩
structure a7v (lab:Lab)(w:World)(b o:Nat)(x:Value):Prop where
 lab:lab b o=none
 cell:cellAt w b o=some x
inductive Rel (ρ:Rho)(lab:Lab)(w:World):V->Value->Prop
  | undef (x:Value):Rel ρ lab w .undef x
  | bool (b:Bool):Rel ρ lab w (.bool b) (.bool b)
  | int (k:IntKind) (n:Int):Rel ρ lab w (.int k n) (.int k n)
  | str (s:List UInt8):Rel ρ lab w (.str s) (.string ⟨⟨s⟩⟩)
  | nilptr:Rel ρ lab w .nilptr (.pointer none)
  | ptr (r off b o:Nat) (c:Option Nat):ρ.at_ r=some (some (b,o),c)->Rel ρ lab w (.ptr r off) (.pointer (some ⟨b,o+off,none⟩))
  | cptr (cells:List V) (xs:List Value) (b o:Nat):xs.length = cells.length -> (∀ (i:Nat) (x:Value),xs[i]? = some x -> a7v lab w b (o + i) x) ->
      (∀(i:Nat) (v:V) (x:Value),cells[i]? = some v->xs[i]? = some x->Rel ρ lab w v x) ->(∀v∈cells,NF v)->Rel ρ lab w (.cptr cells) (.pointer (some ⟨b,o,none⟩))
  | slice (ow:Own) (n:Nat) (cells:List V) (xs:List Value) (b o:Nat) (ao:Option Addr) (cap:Nat):xs.length = cells.length -> n <= cap ->
      (0<n->ao=some ⟨b,o,none⟩) ->(n=0->cells=[]) ->(∀(i:Nat) (x:Value),xs[i]? = some x->a7v lab w b (o+i) x) ->
      (∀(i:Nat) (v:V) (x:Value),cells[i]? = some v->xs[i]? = some x->Rel ρ lab w v x) ->
      (match ow with | .sealed=>True | .full=>cap=n | .nil=>ao=none/\cap=0/\n=0/\cells=[] | .tag g=>ρ.hd g n=some (ao,cap)) ->(∀x∈xs,x.oneCell'=true) ->(∀v∈cells,NF v) ->
      Rel ρ lab w (.slice ow n cells) (.slice ao n cap)
  | rslice (r off n:Nat) (wh:Bool) (base:Option (Nat × Nat)) (g:Option Nat) (ao:Option Addr) (cap:Nat):ρ.at_ r = some (base,g) -> n <= cap ->
      (0<n∨off=0->ao=base.map fun p=>⟨p.1,p.2+off,none⟩) ->(wh=true->off=0/\g=some cap) ->(0<n->ao≠none) ->
      Rel ρ lab w (.rslice r off n wh) (.slice ao n cap)
  | func (fn:Fn) (a c:List V) (xs ys:List Value):xs.length = a.length -> ys.length = c.length ->
      (∀(i:Nat) (v:V) (x:Value),a[i]? = some v->xs[i]? = some x->Rel ρ lab w v x) ->(∀(i:Nat) (v:V) (x:Value),c[i]? = some v->ys[i]? = some x->Rel ρ lab w v x) ->
      Rel ρ lab w (.func fn a c) (.func fn xs.toArray ys.toArray)
  | nilFunc:Rel ρ lab w .nilFunc .nilFunc
  | iface (t:Nat) (v:V) (x:Value):Rel ρ lab w v x->Rel ρ lab w (.iface t v) (.iface t x)
  | nilIface:Rel ρ lab w .nilIface .nilIface
  | opq (m:Option Nat):Rel ρ lab w .opq (.map m)
  | map (r b:Nat) (c:Option Nat):ρ.at_ r=some (some (b,0),c)->Rel ρ lab w (.map r) (.map (some b))
  | agg (cells:List V) (xs:List Value):xs.length=cells.length ->(∀(i:Nat) (v:V) (x:Value),cells[i]? = some v->xs[i]? = some x->Rel ρ lab w v x)->Rel ρ lab w (.agg cells) (.agg xs.toArray)
  | tuple (cells:List V) (xs:List Value):xs.length=cells.length ->(∀(i:Nat) (v:V) (x:Value),cells[i]? = some v->xs[i]? = some x->Rel ρ lab w v x)->Rel ρ lab w (.tuple cells) (.tuple xs.toArray)
def L6 (ρ:Rho)(lab:Lab)(w:World)(vs:List V)(xs:List Value):Prop :=
 xs.length=vs.length /\ ∀(i:Nat) (v:V) (x:Value),vs[i]? = some v->xs[i]? = some x->Rel ρ lab w v x
structure a4X (lab:Lab)(w:World)(k b o:Nat):Prop where
 lab:lab b o=some (some k)
 free:w.frozen? ⟨b,o,none⟩=false
 cell:∃x,cellAt w b o=some x
structure a8E (lab:Lab)(w:World)(k b:Nat)(ms:Array MapEntry)(c:Nat):Prop where
 lab:∀o,lab b o=some (some k)
 blk:w.heap[b]? = some (.map ms c)
def b5b (ρ:Rho)(lab:Lab)(w:World)(es:List (V×V))(ms:List MapEntry):Prop :=
 ms.length=es.length /\ ∀(i:Nat) (e:V×V) (m:MapEntry),es[i]? = some e->ms[i]? = some m ->(Rel ρ lab w e.1 m.key/\Rel ρ lab w e.2 m.val)/\NF e.1/\NF e.2
def KpW (w:World):Prop:=∀p∈kpL,p.1<w.heap.size /\ ∃t fr,w.heap[p.1]? = some (.cells p.2 t fr)
def Kp (lab:Lab)(w:World):Prop:=KpW w /\ ∀p∈kpL,∀o k,lab p.1 o≠some (some k)
structure Sim (ρ:Rho)(lab:Lab)(H:Hp)(w:World):Prop where
 kp:Kp lab w
 row:∀k cs,hget k H=some (.row cs) -> ∃b o xs,ρ.at_ k=some (some (b,o),none)/\L6 ρ lab w cs xs /\ ∀(i:Nat) (x:Value),xs[i]? = some x->a4X lab w k b (o+i)/\cellAt w b (o+i)=some x
 grow:∀k e cs,hget k H=some (.grow e cs) -> ∃base c xs,ρ.at_ k=some (base,some c)/\L6 ρ lab w cs xs/\cs.length<=c*e/\(base=none->c=0)/\(∀x∈xs,x.oneCell'=true)/\(∀v∈cs,NF v) /\
  ∀b o,base=some (b,o) ->(∀i,i<c*e->a4X lab w k b (o+i)) /\ ∀(i:Nat) (x:Value),xs[i]? = some x->cellAt w b (o+i)=some x
 tip:∀k e n,hget k H=some (.tip e n) -> ∃ao cap,ρ.hd k n=some (ao,cap)/\n<=cap/\(ao=none->cap=0)/\(e=0->cap=0) /\
  ∀a,ao=some a->a.spot=none /\ ∀i,n*e<=i->i<cap*e->a4X lab w k a.block (a.off+i)
 mp:∀k es,hget k H=some (.mp es) -> ∃b ms c,ρ.at_ k=some (some (b,0),none)/\b5b ρ lab w es ms.toList/\a8E lab w k b ms c
 hdom:∀k n x,ρ.hd k n=some x -> ∃e m,hget k H=some (.tip e m)/\n<=m
 adom:∀k x,ρ.at_ k=some x->hget k H≠none
 ldom:∀b o k,lab b o=some k->b<w.heap.size
def a6o (ρ:Rho)(lab:Lab)(w:World)(fr:Fr)(a:Array Value):Prop:=∀t,Rel ρ lab w (look t fr) (a.getD t undef)
structure Ext (lab:Lab)(w:World)(lab':Lab)(w':World):Prop where
 size:w.heap.size<=w'.heap.size
 os:w'.os=w.os
 tape:w'.tape=w.tape
 output:w'.output=w.output
 lb:∀b o,b<w.heap.size->lab b o=none->lab' b o=none
 ctx:∀b o,lab' b o=some none↔lab b o=some none
 cl:∀b o,b<w.heap.size ->(∀k,lab b o≠some (some k))->cellAt w' b o=cellAt w b o/\w'.frozen? ⟨b,o,none⟩=w.frozen? ⟨b,o,none⟩
 blk:∀b,b<w.heap.size ->(∀o k,lab b o≠some (some k))->w'.heap[b]? = w.heap[b]?
theorem Ext.refl (lab:Lab)(w:World):Ext lab w lab w:=⟨Nat.le_refl _,rfl,rfl,rfl,fun _ _ _ h=>h,fun _ _=>.rfl,fun _ _ _ _=>⟨rfl,rfl⟩,fun _ _ _=>rfl⟩
theorem Ext.c5Z {lab lab':Lab}(h:Ext lab w lab' w')(hb:b<w.heap.size)(hl:∀k,lab b o≠some (some k)):∀k,lab' b o≠some (some k):=by
 intro k hk;cases hq:lab b o with
 | none=>rw[h.lb b o hb hq]at hk;grind
 | some x =>
  cases x with
  | none=>rw[(h.ctx b o).2 hq]at hk;grind
  | some j=>grind
theorem Kp.ext {lab lab':Lab}{w w':World}(h:Kp lab w)(E:Ext lab w lab' w'):Kp lab' w' :=
 ⟨fun p hp=>⟨Nat.lt_of_lt_of_le (h.1 p hp).1 E.size,by rw[E.blk p.1 (h.1 p hp).1 (h.2 p hp)];exact(h.1 p hp).2⟩,fun p hp o=>E.c5Z (h.1 p hp).1 (h.2 p hp o)⟩
theorem Kp.none (h:KpW w):Kp (fun _ _=>none) w:=⟨h,fun _ _ _ _ h=>by cases h⟩
theorem Ext.trans {l1 l2 l3:Lab}{w1 w2 w3:World}(h:Ext l1 w1 l2 w2)(g:Ext l2 w2 l3 w3):Ext l1 w1 l3 w3 where
 size:=Nat.le_trans h.size g.size
 os:=g.os.trans h.os
 tape:=g.tape.trans h.tape
 output:=g.output.trans h.output
 lb:=fun b o hb hl=>g.lb b o (Nat.lt_of_lt_of_le hb h.size) (h.lb b o hb hl)
 ctx:=fun b o=>(g.ctx b o).trans (h.ctx b o)
 cl:=fun b o hb hl=>by
  obtain⟨g1,g2⟩:=g.cl b o (Nat.lt_of_lt_of_le hb h.size) (h.c5Z hb hl);obtain⟨h1,h2⟩:=h.cl b o hb hl;grind
 blk:=fun b hb hl=>(g.blk b (Nat.lt_of_lt_of_le hb h.size) (fun o=>h.c5Z hb (hl o))).trans (h.blk b hb hl)
theorem a1K {x:Value}(h:cellAt w b o=some x):b<w.heap.size:=by
 unfold cellAt World.cell? at h;grind
theorem a7v.ext {lab lab':Lab}{w w':World}{b o:Nat}{x:Value}(h:a7v lab w b o x)(e:Ext lab w lab' w'):a7v lab' w' b o x :=
 ⟨e.lb b o (a1K h.cell) h.lab,(e.cl b o (a1K h.cell) (by rw[h.lab];simp)).1.trans h.cell⟩
theorem Rel.ext {ρ ρ':Rho}{lab lab':Lab}{w w':World}(e:Ext lab w lab' w')(hρ:ρ.le ρ'){v:V}{x:Value}(h:Rel ρ lab w v x):Rel ρ' lab' w' v x:=by
 induction h with
 | undef x=>exact .undef x
 | bool b=>exact .bool b
 | int k n=>exact .int k n
 | str s=>exact .str s
 | nilptr=>exact .nilptr
 | ptr r off b o c h=>exact .ptr r off b o c (hρ.at_ _ _ h)
 | cptr cells xs b o hl hc _ hnf ih=>exact .cptr cells xs b o hl (fun i x hx=>(hc i x hx).ext e) ih hnf
 | slice ow n cells xs b o ao cap hl hn hb hz hc _ how h1 hnf ih =>
  refine .slice ow n cells xs b o ao cap hl hn hb hz (fun i x hx=>(hc i x hx).ext e) ih ?_ h1 hnf;cases ow with
  | tag g=>exact hρ.hd _ _ _ how
  | _=>grind
 | rslice r off n wh base g ao cap h1 h2 h3 h4 h5=>exact .rslice r off n wh base g ao cap (hρ.at_ _ _ h1) h2 h3 h4 h5
 | func fn a c xs ys h1 h2 _ _ ih1 ih2=>exact .func fn a c xs ys h1 h2 ih1 ih2
 | nilFunc=>exact .nilFunc
 | iface t v x _ ih=>exact .iface t v x ih
 | nilIface=>exact .nilIface
 | opq m=>exact .opq m
 | map r b c h=>exact .map r b c (hρ.at_ _ _ h)
 | agg cells xs h1 _ ih=>exact .agg cells xs h1 ih
 | tuple cells xs h1 _ ih=>exact .tuple cells xs h1 ih
theorem L6.ext {ρ ρ':Rho}{lab lab':Lab}{w w':World}(e:Ext lab w lab' w')(hρ:ρ.le ρ'){v:List V}{x:List Value}(h:L6 ρ lab w v x):L6 ρ' lab' w' v x :=
 ⟨h.1,fun i v x hv hx=>(h.2 i v x hv hx).ext e hρ⟩
theorem b5b.ext {ρ ρ':Rho}{lab lab':Lab}{w w':World}(e:Ext lab w lab' w')(hρ:ρ.le ρ'){v:List (V×V)}{x:List MapEntry}(h:b5b ρ lab w v x):b5b ρ' lab' w' v x :=
 ⟨h.1,fun i v x hv hx=>have q:=h.2 i v x hv hx;⟨⟨q.1.1.ext e hρ,q.1.2.ext e hρ⟩,q.2⟩⟩
theorem a6o.ext {ρ ρ':Rho}{lab lab':Lab}{w w':World}(e:Ext lab w lab' w')(hρ:ρ.le ρ'){fr:Fr}{a:Array Value}(h:a6o ρ lab w fr a):a6o ρ' lab' w' fr a :=
 fun t=>(h t).ext e hρ
structure a15 (w w':World):Prop where
 size:w.heap.size<=w'.heap.size
 os:w'.os=w.os
 tape:w'.tape=w.tape
 output:w'.output=w.output
 blk:∀b,b<w.heap.size->w'.heap[b]? = w.heap[b]?
theorem a15.refl (w:World):a15 w w:=⟨Nat.le_refl _,rfl,rfl,rfl,fun _ _=>rfl⟩
theorem a15.trans {a b c:World}(h:a15 a b)(g:a15 b c):a15 a c :=
 ⟨Nat.le_trans h.size g.size,g.os.trans h.os,g.tape.trans h.tape,g.output.trans h.output,fun i hi=>(g.blk i (Nat.lt_of_lt_of_le hi h.size)).trans (h.blk i hi)⟩
theorem a15.cell (h:a15 w w')(hb:b<w.heap.size)(o:Nat):cellAt w' b o=cellAt w b o:=by
 simp only[cellAt,World.cell?,h.blk b hb]
theorem a15.frozen (h:a15 w w')(hb:b<w.heap.size)(o:Nat):w'.frozen? ⟨b,o,none⟩=w.frozen? ⟨b,o,none⟩:=by
 simp only[World.frozen?,h.blk b hb]
theorem a15.ext {w w':World}(h:a15 w w')(lab:Lab):Ext lab w lab w' :=
 ⟨h.size,h.os,h.tape,h.output,fun _ _ _ h=>h,fun _ _=>.rfl,fun _ o hb _=>⟨h.cell hb o,h.frozen hb o⟩,fun b hb _=>h.blk b hb⟩
theorem a4X.grew {lab:Lab}(g:a15 w w')(h:a4X lab w k b o):a4X lab w' k b o:=by
 obtain⟨x,hx⟩:=h.cell;have hb:=a1K hx;exact⟨h.lab,(g.frozen hb o).trans h.free,x,(g.cell hb o).trans hx⟩
theorem a8E.grew {lab:Lab}(g:a15 w w'){ms:Array MapEntry}{c:Nat}(h:a8E lab w k b ms c):a8E lab w' k b ms c :=
 ⟨h.lab,(g.blk b (by
  have:=h.blk;grind)).trans h.blk⟩
theorem Sim.grew {ρ:Rho}{lab:Lab}{H:Hp}(h:Sim ρ lab H w)(g:a15 w w'):Sim ρ lab H w' where
 row:=fun k cs hk=>by
  obtain⟨b,o,xs,h1,h2,h3⟩:=h.row k cs hk;refine⟨b,o,xs,h1,h2.ext (g.ext lab) (.refl _),fun i x hx=>?_⟩;obtain⟨h4,h5⟩:=h3 i x hx;exact⟨h4.grew g,(g.cell (a1K h5) _).trans h5⟩
 grow:=fun k e cs hk=>by
  obtain⟨base,c,xs,h1,h2,h3,h4,h8,h9,h5⟩:=h.grow k e cs hk;refine⟨base,c,xs,h1,h2.ext (g.ext lab) (.refl _),h3,h4,h8,h9,fun b o hb=>?_⟩;obtain⟨h6,h7⟩:=h5 b o hb;exact⟨fun i hi=>(h6 i hi).grew g,fun i x hx=>(g.cell (a1K (h7 i x hx)) _).trans (h7 i x hx)⟩
 tip:=fun k e n hk=>by
  obtain⟨ao,cap,h1,h2,h3,h4,h5⟩:=h.tip k e n hk;exact⟨ao,cap,h1,h2,h3,h4,fun a ha=>⟨(h5 a ha).1,fun i hi hj=>((h5 a ha).2 i hi hj).grew g⟩⟩
 mp:=fun k es hk=>by
  obtain⟨b,ms,c,h1,h2,h3⟩:=h.mp k es hk;exact⟨b,ms,c,h1,h2.ext (g.ext lab) (.refl _),h3.grew g⟩
 kp:=h.kp.ext (g.ext lab)
 hdom:=h.hdom
 adom:=h.adom
 ldom:=fun b o k hl=>Nat.lt_of_lt_of_le (h.ldom b o k hl) g.size
structure TyOk (P:Program)(t:Nat)(y:Ty):Prop where
 info:∃i z,P.info? t=some i/\i.size=y.size/\i.bytes=y.bytes/\i.zero=some z/\a2r b1U z.cells.toList=some y.zero/\z.cells.size=y.size /\
  (a2l y.sh=true -> ∃cs,z=.agg cs)/\(a2l y.sh=false->z.cells = #[z])
 sh:match y.sh with
  | .bool=>P.underlying t=some .bool
  | .string=>P.underlying t=some .string
  | .int k=>P.underlying t=some (.int k)
  | .ptr e=>P.underlying t=some (.pointer e)
  | .slice e=>P.underlying t=some (.slice e)
  | .array n e=>P.underlying t=some (.array n e)
  | .struct fs=>P.stoodInHeld t=false /\ ∃l:Array Field,P.underlying t=some (.struct l)/\(l.toList.map fun f=>(f.type,f.offset))=fs/\l.toList.all (fun f=>decide (f.name ≠ "_"))=true/\l.toList.all (fun f=>(P.info? f.type).isSome)=true
  | .iface=>∃ms,P.underlying t=some (.interface ms)
  | .func=>∃a b c,P.underlying t=some (.func a b c)
  | .blk fs=>∃l:Array Field,P.underlying t=some (.struct l)/\(l.toList.map fun f=>(f.type,f.offset))=fs/\l.toList.all (fun f=>(P.info? f.type).isSome)=true
  | .map k e=>P.underlying t=some (.map k e)
  | .other=>True
 notAgg:a2l y.sh=false -> ∀d,P.underlying t=some d ->(∀fs,d ≠ .struct fs)/\(∀n e,d ≠ .array n e)
 und:∃d,P.underlying t=some d
 notIface:(match y.sh with | .iface=>False|_=>True) -> ∀ms,P.underlying t≠some (.interface ms)
 noGuard:(match y.sh with | .iface=>False | .array ..=>False | .blk _=>False|_=>True)->P.eqGuardType P.depth t=false
theorem TyOk.flds {P:Program}{t:Nat}{y:Ty}(h:TyOk P t y){fs:List (Nat×Nat)}(hf:y.sh.flds=some fs):∃l:Array Field,P.underlying t=some (.struct l)/\(l.toList.map fun f=>(f.type,f.offset))=fs/\l.toList.all (fun f=>(P.info? f.type).isSome)=true:=by
 have hs:=h.sh;cases hy:y.sh<;>rw[hy]at hs hf<;>simp only[Sh.flds]at hf<;>cases hf
 ·grind
 omega
def TOk (P:Program)(T:List (Nat×Ty)):Prop:=∀t y,O7 t T=some y->TyOk P t y
theorem O3 {α:Type}{c:Bool}{x:Option α}{r:α}(h:gd c x=some r):c=true/\x=some r:=by
 cases c with
 | true=>exact⟨rfl,h⟩
 | false=>simp[gd]at h
theorem a6Z {α β:Type}{f:α->Option β}:∀{l:List α} {r:List β},a2r f l=some r->r.length=l.length
 | [],r,h=>by simp[a2r]at h;grind
 | a::t,r,h=>by
  simp only[a2r]at h;split at h
  ·cases h
  split at h
  ·cases h
  rename_i u hu;cases h;simp[a6Z hu]
theorem a9h {α β:Type}{f:α->Option β}:∀{l:List α} {r:List β},a2r f l=some r -> ∀(i:Nat) (b:β),r[i]? = some b -> ∃a,l[i]? = some a/\f a=some b
 | [],r,h,i,b,hb=>by simp[a2r]at h;grind
 | a::t,r,h,i,b,hb=>by
  simp only[a2r]at h;split at h
  ·cases h
  rename_i c hc;split at h
  ·cases h
  rename_i u hu;cases h;cases i with
  | zero=>grind
  | succ i=>obtain⟨a',h1,h2⟩:=a9h hu i b hb;grind
theorem c0u {α β:Type}{f:α->Option β}:∀{l:List α} {r:List β},a2r f l=some r -> ∀(i:Nat) (a:α),l[i]? = some a -> ∃b,r[i]? = some b/\f a=some b
 | [],r,h,i,a,hb=>zGr
 | a::t,r,h,i,a',hb=>by
  simp only[a2r]at h;split at h
  ·cases h
  rename_i c hc;split at h
  ·cases h
  rename_i u hu;cases h;cases i with
  | zero=>grind
  | succ i=>obtain⟨b,h1,h2⟩:=c0u hu i a' hb;grind
section
variable {P:Program} {T:List (Nat×Ty)} {ρ:Rho} {lab:Lab} {w:World} {H:Hp} {fr:Fr} {a:Act}
theorem c25 {c:Value}{v:V}(h:b1U c=some v):Rel ρ lab w v c:=by
 unfold b1U at h;split at h
 ·cases h;exact .bool _
 ·cases h;exact .int _ _
 ·cases h;exact .str _
 ·cases h;exact .nilptr
 ·split at h
  ·cases h;exact .slice .nil 0 [] [] 0 0 none 0 rfl zOm zOm (fun _=>rfl) zSi zSi ⟨rfl,rfl,rfl,rfl⟩ zSi zSi
  grind
 ·cases h;exact .nilFunc
 ·cases h;exact .nilIface
 ·cases h;exact .opq none
 grind
theorem a0l (hF:a6o ρ lab w fr a.tmps){x:Operand}{v:V}(h:ev fr x=some v):Rel ρ lab w v (a.eval x):=by
 cases x with
 | tmp t=>simp only[ev,Option.some.injEq]at h;subst h;exact hF t
 | const c=>exact c25 h
 | global g=>cases h
 | func f =>
  simp only[ev,Option.some.injEq]at h;subst h;exact .func _ [] [] [] [] rfl rfl zSi zSi
theorem c1s (hF:a6o ρ lab w fr a.tmps){l:List Operand}{vs:List V}(h:evL fr l=some vs):L6 ρ lab w vs (l.map a.eval):=by
 refine⟨by simp[a6Z h],fun i v x hv hx=>?_⟩;obtain⟨o,h1,h2⟩:=a9h h i v hv;simp only[List.getElem?_map,h1,Option.map_some,Option.some.injEq]at hx;subst hx;exact a0l hF h2
theorem K6 {t:Nat}{d:TypeDesc}(h:P.underlying t=some d)(w:World):(underlying t).run P w=.ok d w:=by
 simp[underlying,h]
theorem a7y {t:Nat}{i:TypeInfo}(h:P.info? t=some i)(w:World):(typeInfo t).run P w=.ok i w:=by
 simp[typeInfo,h]
theorem a1H {t:Nat}{y:Ty}(h:TyOk P t y)(w:World):(sizeOf t).run P w=.ok y.size w:=by
 obtain⟨i,z,h1,h2,_⟩:=h.info;simp[sizeOf,a7y h1,h2]
theorem b3O {t:Nat}{y:Ty}(h:TyOk P t y)(w:World):(isAgg t).run P w=.ok (a2l y.sh) w:=by
 obtain⟨d,hd⟩:=h.und;simp only[isAgg,Sem.run_bind,K6 hd,Result.andThen_ok];cases hs:a2l y.sh with
 | false =>
  have:=h.notAgg hs d hd;simp_all
 | true =>
  have h2:=h.sh;cases hy:y.sh<;>rw[hy]at hs h2<;>simp[a2l]at hs
  ·rw[hd]at h2;simp_all
  ·obtain⟨_,l,h3,_⟩:=h2;rw[hd]at h3;simp_all
  obtain⟨l,h3,_⟩:=h2;rw[hd]at h3;simp_all
theorem b5E (hT:TOk P T){t:Nat}{cs:List V}{xs:List Value}{off:Nat}{v:V}(hr:L6 ρ lab w cs xs)(h:c05 T t cs off=some v) :
  ∃x,(part t xs.toArray off).run P w=.ok x w/\Rel ρ lab w v x:=by
 unfold c05 at h;split at h
 ·cases h
 rename_i y hy;have hk:=hT t y hy;split at h
 ·rename_i hs;obtain⟨h1,h2⟩:=O3 h;cases h2;refine⟨.agg (xs.toArray.extract off (off+y.size)),by simp[part,b3O hk,hs,a1H hk],?_⟩;have e:xs.toArray.extract off (off+y.size) =((xs.drop off).take y.size).toArray:=by
   simp
  rw[e];refine .agg _ _ (by simp[hr.1]) fun i v x hv hx=>?_;rw[List.getElem?_take]at hv hx;split at hv
  ·rw[if_pos zOm]at hx;rw[List.getElem?_drop]at hv hx;exact hr.2 _ v x hv hx
  grind
 rename_i hs;have hlt:off<cs.length:=by
  grind
 have hlx:off<xs.length:=by rw[hr.1];grind
 refine⟨xs[off],?_,hr.2 off v _ h zGr⟩;simp[part,b3O hk,hs,hlx]
end
end Go.Vm
namespace Go.Vm
section
variable {P:Program} {T:List (Nat×Ty)} {ρ:Rho} {lab:Lab} {w:World} {H:Hp} {fr:Fr} {a:Act}
theorem toList_eq (l:List UInt8):(⟨⟨l⟩⟩:ByteArray).toList=l:=ByteArray.toList_eq ⟨⟨l⟩⟩
theorem vInt_run {op:BinOp}{k:IntKind}{x y:Int}{v:V}(h:vInt op k x y=some v)(hs:op ≠ .shl)(hs':op ≠ .shr)(t:Nat)(w:World) :
  ∃z,(binOp op t (.int k x) (.int k y)).run P w=.ok z w/\Rel ρ lab w v z:=by
 cases op<;>simp only[vInt]at h
 case shl=>grind
 case shr=>grind
 case quo =>
  obtain⟨h1,h2⟩:=O3 h;cases h2;have h0 :=by simpa [eqB]using h1
  exact⟨_,by simp only[binOp,Op.intDiv,ne_eq,not_true_eq_false,if_false,if_neg h0];rfl,.int _ _⟩
 case rem =>
  obtain⟨h1,h2⟩:=O3 h;cases h2;have h0 :=by simpa [eqB]using h1
  exact⟨_,by simp only[binOp,Op.intDiv,ne_eq,not_true_eq_false,if_false,if_neg h0];rfl,.int _ _⟩
 all_goals first
  |(cases h;exact⟨_,by simp only[binOp,ne_eq,not_true_eq_false,if_false];rfl,.int _ _⟩)
  |(cases h;refine⟨_,by simp only[binOp,ne_eq,not_true_eq_false,if_false];rfl,?_⟩;simp only[eqB,ltB,leB];exact .bool _)
theorem vStr_run {op:BinOp}{x y:List UInt8}{v:V}(h:vStr op x y=some v)(t:Nat)(w:World) :
  ∃z,(binOp op t (.string ⟨⟨x⟩⟩) (.string ⟨⟨y⟩⟩)).run P w=.ok z w/\Rel ρ lab w v z:=by
 cases op<;>simp only[vStr]at h<;>try grind
 case add =>
  obtain⟨h1,h2⟩:=O3 h;cases h2;simp only[leB,decide_eq_true_eq]at h1;refine⟨.string ⟨⟨x++y⟩⟩,?_,.str _⟩;have hm:¬(((⟨⟨x⟩⟩:ByteArray).size+(⟨⟨y⟩⟩:ByteArray).size:Nat))>IntKind.i64.max:=by
   have e1:(⟨⟨x⟩⟩:ByteArray).size=x.length:=rfl;have e2:(⟨⟨y⟩⟩:ByteArray).size=y.length:=rfl;simp_all
  have ha:(⟨⟨x⟩⟩ ++⟨⟨y⟩⟩:ByteArray) =⟨⟨x++y⟩⟩:=by
   apply WideShapes.bytes_inj;simp
  simp only[binOp,Op.stringOp,if_neg hm,ha];rfl
 all_goals
  cases h;refine⟨_,by simp only[binOp,Op.stringOp,toList_eq];rfl,?_⟩;simp only[eqS,ltS];exact .bool _
theorem L6.get {cs:List V}{xs:List Value}(h:L6 ρ lab w cs xs){i:Nat}{v:V}(hv:cs[i]? = some v):∃x,xs[i]? = some x/\Rel ρ lab w v x:=by
 have hlt:i<cs.length:=by
  grind
 have hx:i<xs.length:=by rw[h.1];omega
 exact⟨xs[i],zGr,h.2 i v _ hv zGr⟩
theorem ba_beq (x y:List UInt8):((⟨⟨x⟩⟩:ByteArray) ==⟨⟨y⟩⟩) =(x==y):=by
 show((⟨x⟩:Array UInt8) ==⟨y⟩) =(x==y);simp
theorem vEq_run (hT:TOk P T):∀ (d t:Nat) (x y:V) (a b:Value) (e:Bool),Rel ρ lab w x a -> Rel ρ lab w y b -> vEq T d t x y = some e ->
    ∀m,d<=m ->(Op.equalIn m t a b).run P w=.ok e w:=by
  intro d;induction d with
  | zero=>intro t x y a b e _ _ h;simp[vEq]at h
  | succ d ih =>
    intro t x y a b e ha hb h m hm;obtain⟨m,rfl⟩:∃m',m=m'+1:=⟨m-1,zOm⟩
    simp only[vEq]at h;split at h
    · cases h
    rename_i ty hty;have hk:=hT t ty hty;have hsh:=hk.sh;split at h
    · rename_i hs
      rw[hs]at hsh;cases ha;cases hb;cases h;simp only[Op.equalIn,Sem.run_bind,K6 hsh,Result.andThen_ok,Sem.run_pure]
    · rename_i k hs
      rw[hs]at hsh;cases ha;cases hb;split at h
      · rename_i hjk
        have hjk:=of_decide_eq_true hjk;cases h;simp only[Op.equalIn,Sem.run_bind,K6 hsh,Result.andThen_ok,hjk,if_true,Sem.run_pure,eqB]
      cases h
    · rename_i hs
      rw[hs]at hsh;cases ha;cases hb;cases h;simp only[Op.equalIn,Sem.run_bind,K6 hsh,Result.andThen_ok,Sem.run_pure,eqS];congr 1;exact ba_beq _ _
    · rename_i fs xs ys hs
      rw[hs]at hsh;obtain⟨hst,l,hl,hfs,hnm,_⟩:=hsh;cases ha with
      | agg _ as hla hra =>
      cases hb with
      | agg _ bs hlb hrb =>
      have hA:L6 ρ lab w xs as:=⟨hla,hra⟩
      have hB:L6 ρ lab w ys bs:=⟨hlb,hrb⟩
      have key:∀ (fl:List Field) (fs:List (Nat × Nat)) (e:Bool),(fl.map fun f=>(f.type,f.offset)) = fs -> (fl.all fun f=>decide (f.name ≠ "_")) = true -> vEqs T (vEq T d) xs ys fs = some e ->
          (forIn (m:=Sem) fl ((none,()):Option Bool×Unit) fun f _ =>
            if f.name ≠ "_" then do
              let a <-part f.type as.toArray f.offset;let b <-part f.type bs.toArray f.offset;let c <-Op.equalIn m f.type a b;if(!c)=true then pure (.done (some false,()))
                else pure (.yield (none,()))
            else pure (.yield (none,()))).run P w=.ok (if e then(none,())else(some false,())) w:=by
        intro fl;induction fl with
        | nil=>intro fs e h1 _ h3;simp at h1;subst h1;simp[vEqs]at h3;subst h3;simp
        | cons f fl ihf =>
          intro fs e h1 h2 h3;simp only[List.map_cons]at h1;subst h1;simp only[List.all_cons,Bool.and_eq_true,decide_eq_true_eq]at h2;simp only[vEqs]at h3;split at h3
          · rename_i u v hu hv
            obtain⟨p,hp1,hp2⟩:=b5E hT hA hu;obtain⟨q,hq1,hq2⟩:=b5E hT hB hv;split at h3
            · cases h3
            rename_i e1 he1;have hr:=ih f.type u v p q e1 hp2 hq2 he1 m zOm;split at h3
            · cases h3
            rename_i r hr2;cases h3;have:=ihf _ r rfl h2.2 hr2;cases e1 with
            | false=>simp[h2.1,hp1,hq1,hr]
            | true=>simp[h2.1,hp1,hq1,hr];simpa using this
          cases h3
      have:=key l.toList fs e hfs (by simpa using hnm) h;simp only[Op.equalIn,Sem.run_bind,K6 hl,Result.andThen_ok,run_program,hst,Bool.false_eq_true,if_false,<-Array.forIn_toList];rw[this];cases e<;>simp
    cases h
theorem c7w {n:Nat}(h:ltB 0 n=true):0<n:=by
 simp only[ltB,decide_eq_true_eq]at h;omega
theorem b5y {sh:Sh}{yo:Operand}(h:b8u sh yo=true):(∃e,sh=.ptr e/\yo=.const (.pointer none))∨(sh=.iface/\yo=.const .nilIface) ∨
  (sh=.func/\yo=.const .nilFunc)∨(∃e n c,sh=.slice e/\yo=.const (.slice none n c)):=by
 unfold b8u at h;grind
theorem c0y (hT:TOk P T){t:Nat}{ty:Ty}(hty:O7 t T=some ty){yo:Operand}{x:V}{a:Value}{e:Bool}(hc:b8u ty.sh yo=true)(hx:Rel ρ lab w x a)(hn:b7m ty.sh x=some e)
  (ac:Act) (w:World) (m:Nat):(Op.equalIn (m+1) t a (ac.eval yo)).run P w=.ok e w/\(Op.equalIn (m+1) t (ac.eval yo) a).run P w=.ok e w:=by
 have hsh:=(hT t ty hty).sh;rcases b5y hc with⟨el,h1,rfl⟩ |⟨h1,rfl⟩ |⟨h1,rfl⟩ |⟨el,n,c,h1,rfl⟩<;>rw[h1]at hsh hn<;>simp only at hsh<;>simp only[Act.eval]
 ·cases hx<;>simp only[b7m]at hn<;>first |(cases hn;done)|skip
  all_goals
   cases hn;constructor<;>(simp only[Op.equalIn,Sem.run_bind,K6 hsh,Result.andThen_ok];rfl)
 ·obtain⟨ms,hsh⟩:=hsh;cases hx<;>simp only[b7m]at hn<;>first |(cases hn;done)|skip
  all_goals
   cases hn;constructor<;>(simp only[Op.equalIn,Sem.run_bind,K6 hsh,Result.andThen_ok];rfl)
 ·obtain⟨p,r,v,hsh⟩:=hsh;cases hx<;>simp only[b7m]at hn<;>first |(cases hn;done)|skip
  all_goals
   cases hn;constructor<;>(simp only[Op.equalIn,Sem.run_bind,K6 hsh,Result.andThen_ok];rfl)
 cases hx with
 | slice ow _ _ _ _ _ ao cap _ _ hz _ _ _ how _ _ =>
  cases ow with
  | nil =>
   simp only[b7m]at hn;cases hn;obtain⟨rfl,rfl,rfl,rfl⟩:=how;constructor<;>(simp only[Op.equalIn,Sem.run_bind,K6 hsh,Result.andThen_ok];rfl)
  | _ =>
   simp only[b7m]at hn;obtain⟨h2,h3⟩:=O3 hn;cases h3;cases ao with
   | none=>cases hz (c7w h2)
   | some a=>constructor<;>(simp only[Op.equalIn,Sem.run_bind,K6 hsh,Result.andThen_ok];rfl)
 | rslice _ _ _ _ base g ao cap h4 h5 h6 h7 h8 =>
  simp only[b7m]at hn;obtain⟨h2,h3⟩:=O3 hn;cases h3;cases ao with
  | none=>exact absurd rfl (h8 (c7w h2))
  | some a=>constructor<;>(simp only[Op.equalIn,Sem.run_bind,K6 hsh,Result.andThen_ok];rfl)
 | _=>simp only[b7m]at hn;cases hn
theorem c6F (hT:TOk P T)(hF:a6o ρ lab w fr a.tmps){t:Nat}{xo yo:Operand}{x y:V}{e:Bool}(hx:ev fr xo=some x)(hy:ev fr yo=some y)
  (h:b0l T t xo yo x y=some e):(Op.equal t (a.eval xo) (a.eval yo)).run P w=.ok e w:=by
 have hX:=a0l hF hx;have hY:=a0l hF hy;unfold b0l at h;split at h
 ·cases h
 rename_i ty hty;split at h
 ·rename_i hc;exact(c0y hT hty hc hX h a w 9999).1
 split at h
 ·rename_i hc;exact(c0y hT hty hc hY h a w 9999).2
 exact vEq_run hT 9 t x y _ _ e hX hY h 10000 zOm
theorem ite_r {α:Type}{c:Prop} [Decidable c] {x y r:α}(h:x=r)(g:y=r):(if c then x else y)=r:=by split<;>assumption
theorem b2Y (op:BinOp)(t:Nat)(xo yo:Operand)(x y:Value)(w:World)(h1:x=.nilIface->y=.nilIface ->(∃c,xo=.const c)∨(∃c,yo=.const c))
  (h2:∀c d,x=.agg c->y=.agg d->P.eqGuardType P.depth t=false):(eqGuard op t xo yo x y).run P w=.ok () w:=by
 unfold eqGuard;rw[Sem.run_ite];refine ite_r rfl ?_;split
 ·rcases h1 rfl rfl with⟨c,rfl⟩ |⟨c,rfl⟩<;>simp
 ·simp_all
 rfl
theorem c2t (hT:TOk P T){t:Nat}{xo yo:Operand}{x y:V}{a b:Value}{e:Bool}(h:b0l T t xo yo x y=some e)(hX:Rel ρ lab w x a)(hY:Rel ρ lab w y b) :
  (a=.nilIface->b=.nilIface ->(∃c,xo=.const c)∨(∃c,yo=.const c))/\(∀c d,a=.agg c->b=.agg d->P.eqGuardType P.depth t=false):=by
 unfold b0l at h;split at h
 ·cases h
 rename_i ty hty;have hk:=hT t ty hty;constructor
 ·rintro rfl rfl;split at h
  ·rename_i hc;rcases b5y hc with⟨_,_,rfl⟩ |⟨_,rfl⟩ |⟨_,rfl⟩ |⟨_,_,_,_,rfl⟩<;>exact .inr ⟨_,rfl⟩
  split at h
  ·rename_i hc;rcases b5y hc with⟨_,_,rfl⟩ |⟨_,rfl⟩ |⟨_,rfl⟩ |⟨_,_,_,_,rfl⟩<;>exact .inl ⟨_,rfl⟩
  simp only[vEq,hty]at h;cases hs:ty.sh<;>rw[hs]at h<;>cases hX<;>cases hY<;>simp at h
 rintro c d rfl rfl;have hn:∀(sh:Sh) (z:V) (c:Array Value),Rel ρ lab w z (.agg c)->b7m sh z=none:=by
  intro sh z c hz;cases hz<;>cases sh<;>rfl
 split at h
 ·grind
 split at h
 ·grind
 simp only[vEq,hty]at h;apply hk.noGuard;grind
theorem b6Z {c:Value}(h0:ev fr (.const c)=some .undef):False:=by
 have h:b1U c=some .undef:=h0;unfold b1U at h;grind
theorem c02 (d t:Nat)(x:V):vEq T d t .undef x=none/\vEq T d t x .undef=none:=by
 cases d with
 | zero=>exact⟨rfl,rfl⟩
 | succ d =>
  simp only[vEq];grind
theorem b8T (sh:Sh):b7m sh .undef=none:=by cases sh<;>rfl
theorem c2u {t:Nat}{xo yo:Operand}{x y:V}(hx:ev fr xo=some x)(hy:ev fr yo=some y)(h:x=.undef∨y=.undef):b0l T t xo yo x y=none:=by
 unfold b0l;split
 ·rfl
 split
 ·rename_i hc;rcases h with rfl|rfl
  ·exact b8T _
  rcases b5y hc with⟨_,_,rfl⟩ |⟨_,rfl⟩ |⟨_,rfl⟩ |⟨_,_,_,_,rfl⟩<;>exact(b6Z hy).elim
 split
 ·rename_i hc;rcases h with rfl|rfl
  ·rcases b5y hc with⟨_,_,rfl⟩ |⟨_,rfl⟩ |⟨_,rfl⟩ |⟨_,_,_,_,rfl⟩<;>exact(b6Z hx).elim
  exact b8T _
 rcases h with rfl|rfl
 ·exact(c02 _ _ _).1
 exact(c02 _ _ _).2
theorem vBin_run (hT:TOk P T)(hF:a6o ρ lab w fr a.tmps){op:BinOp}{t:Nat}{xo yo:Operand}{x y v:V}(hx:ev fr xo=some x)(hy:ev fr yo=some y)
  (h:vBin T op t xo yo x y=some v) :
  ∃z,(do eqGuard op t xo yo (a.eval xo) (a.eval yo);binOp op t (a.eval xo) (a.eval yo)).run P w=.ok z w/\Rel ρ lab w v z:=by
 have hX:=a0l hF hx;have hY:=a0l hF hy;simp only[Sem.run_bind];unfold vBin at h;split at h
 ·
  rename_i j m k n;generalize a.eval xo=xa at *;generalize a.eval yo=ya at *;cases hX;cases hY;rw[b2Y (P:=P) op t xo yo _ _ w (by intro h;cases h) (by intro _ _ h;cases h)];simp only[Result.andThen_ok];split at h
  ·obtain⟨h1,h2⟩:=O3 h;cases h2;have h0:¬n<0:=by simpa [ltB]using h1
   exact⟨_,by simp only[binOp,Op.shift,if_neg h0];rfl,.int _ _⟩
  ·obtain⟨h1,h2⟩:=O3 h;cases h2;have h0:¬n<0:=by simpa [ltB]using h1
   exact⟨_,by simp only[binOp,Op.shift,if_neg h0];rfl,.int _ _⟩
  rename_i hn1 hn2;split at h
  ·rename_i hjk;have hjk:=of_decide_eq_true hjk;subst hjk;exact vInt_run h (by rintro rfl;exact hn1 rfl) (by rintro rfl;exact hn2 rfl) t w
  cases h
 ·generalize a.eval xo=xa at *;generalize a.eval yo=ya at *;cases hX;cases hY;rw[b2Y (P:=P) op t xo yo _ _ w (by intro h;cases h) (by intro _ _ h;cases h)];exact vStr_run h t w
 rename_i hni hns;have hgen:∀e,b0l T t xo yo x y=some e -> ∀op',(eqGuard op' t xo yo (a.eval xo) (a.eval yo)).run P w=.ok () w/\(Op.equal t (a.eval xo) (a.eval yo)).run P w=.ok e w:=by
  intro e he op';obtain⟨g1,g2⟩:=c2t hT he hX hY;exact⟨b2Y op' t xo yo _ _ w g1 g2,c6F hT hF hx hy he⟩
 have hb:∀xa ya,Rel ρ lab w x xa->Rel ρ lab w y ya ->(∀e,b0l T t xo yo x y=some e->True) ->(b0l T t xo yo x y).isSome=true->binOp .eql t xa ya =(do pure (.bool (<-Op.equal t xa ya)))/\binOp .neq t xa ya =(do pure (.bool (!(<-Op.equal t xa ya)))):=by
  intro xa ya hxa hya _ hs;cases hxa<;>cases hya<;>first
   | exact⟨rfl,rfl⟩
   | exact absurd rfl (hni _ _ _ _ rfl)
   | exact absurd rfl (hns _ _ rfl)
   | skip
  all_goals(rw[c2u hx hy (by first|exact .inl rfl|exact .inr rfl)]at hs;cases hs)
 split at h
 ·split at h
  ·rename_i e he;cases h;obtain⟨g1,g2⟩:=hgen e he .eql;rw[g1,(hb _ _ hX hY (fun _ _=>trivial) (by rw[he];rfl)).1];exact⟨.bool e,by simp[g2],.bool e⟩
  cases h
 ·split at h
  ·rename_i e he;cases h;obtain⟨g1,g2⟩:=hgen e he .neq;rw[g1,(hb _ _ hX hY (fun _ _=>trivial) (by rw[he];rfl)).2];exact⟨.bool (!e),by simp[g2],.bool _⟩
  cases h
 cases h
end
variable {cs ds:List V} {xs ys:List Value} {b f n o t:Nat} {i v x:V} {ia xa:Value}
section
variable {P:Program} {T:List (Nat×Ty)} {ρ:Rho} {lab:Lab} {w:World} {H:Hp} {fr:Fr} {a:Act}
theorem a15.push (w:World)(o:Go.Obj):a15 w {w with heap:=w.heap.push o} where
 size:=zSi
 os:=rfl
 tape:=rfl
 output:=rfl
 blk:=fun b hb=>zGr
theorem a15.draw (w:World)(n:Nat):a15 w {w with drawn:=n}:=⟨Nat.le_refl _,rfl,rfl,rfl,fun _ _=>rfl⟩
theorem a15.c8o {w w':World}(g:a15 w w'){x:Addr}(hx:w.heap.size<=x.block)(n:Nat):a15 w (w'.freeze x n):=by
 unfold World.freeze;split
 ·exact g
 refine⟨by simpa using g.size,g.os,g.tape,g.output,fun b hb=>?_⟩;rw[<-g.blk b hb];grind
theorem b3N {i:Int}(h:inR i n=true):0<=i/\i<n:=by
 simp only[inR,Bool.and_eq_true,decide_eq_true_eq]at h;exact h
theorem b5p {l h:Int}(hh:inI l h n=true):0<=l/\l<=h/\h<=n:=by
 simp only[inI,Bool.and_eq_true,decide_eq_true_eq]at hh;omega
theorem L6.take (h:L6 ρ lab w cs xs)(n:Nat):L6 ρ lab w (cs.take n) (xs.take n):=by
 refine⟨by simp[h.1],fun i v x hv hx=>?_⟩;rw[List.getElem?_take]at hv hx;split at hv
 ·rw[if_pos zOm]at hx;exact h.2 i v x hv hx
 grind
theorem L6.drop (h:L6 ρ lab w cs xs)(n:Nat):L6 ρ lab w (cs.drop n) (xs.drop n):=by
 refine⟨by simp[h.1],fun i v x hv hx=>?_⟩;rw[List.getElem?_drop]at hv hx;exact h.2 _ v x hv hx
theorem L6.append (h:L6 ρ lab w cs xs)(g:L6 ρ lab w ds ys):L6 ρ lab w (cs++ds) (xs++ys):=by
 refine⟨by simp[h.1,g.1],fun i v x hv hx=>?_⟩;rw[List.getElem?_append]at hv hx;rw[h.1]at hx;split at hv
 ·rw[if_pos zOm]at hx;exact h.2 i v x hv hx
 rw[if_neg zOm]at hx;exact g.2 _ v x hv hx
theorem L6.nil:L6 ρ lab w [] []:=⟨rfl,zSi⟩
theorem L6.R9 (h:L6 ρ lab w cs xs)(g:L6 ρ lab w ds ys)(o:Nat) :
  L6 ρ lab w (Vm.R9 cs o ds) (xs.take o++ys++xs.drop (o+ys.length)):=by
 rw[g.1];exact((h.take o).append g).append (h.drop _)
theorem L6.of_cells {x:Value}(h:Rel ρ lab w v x)(hu:v ≠ .undef):L6 ρ lab w (cellsOf v) x.cells.toList:=by
 cases h with
 | agg cells xs h1 h2=>exact⟨by simpa [Value.cells,cellsOf]using h1,by simpa [Value.cells,cellsOf]using h2⟩
 | undef x=>grind
 | _ =>
  refine⟨rfl,fun i v x hv hx=>?_⟩;cases i with
  | zero=>simp only[cellsOf,List.getElem?_cons_zero,Option.some.injEq]at hv;simp only[Value.cells,List.getElem?_cons_zero,Option.some.injEq]at hx;subst hv;subst hx;constructor<;>assumption
  | succ i=>simp[cellsOf]at hv
theorem b61 (h:∀(i:Nat) (x:Value),xs[i]? = some x->a7v lab w b (o+i) x)(n:Nat) :
  ∀(i:Nat) (x:Value),(xs.take n)[i]? = some x->a7v lab w b (o+i) x:=by
 grind
theorem b24 (h:∀(i:Nat) (x:Value),xs[i]? = some x->a7v lab w b (o+i) x)(n:Nat) :
  ∀(i:Nat) (x:Value),(xs.drop n)[i]? = some x->a7v lab w b (o+n+i) x:=by
 grind
theorem c8l (hT:TOk P T)(hx:Rel ρ lab w x xa)(h:c6G T t x f=some v) :
  ∃z,(Instr.field t xa f).run P w=.ok z w/\Rel ρ lab w v z:=by
 unfold c6G at h;split at h
 ·rename_i y cs hy;split at h
  ·rename_i fs hs;split at h
   ·rename_i ft off hf;have hsh:=(hT t y hy).sh;rw[hs]at hsh;obtain⟨_,l,hl,hfs,_⟩:=hsh;have hlf:∃fl,l[f]? = some fl/\fl.type=ft/\fl.offset=off:=by
     grind
    obtain⟨fl,h1,rfl,rfl⟩:=hlf;cases hx with
    | agg _ xs h2 h3 =>
     obtain⟨z,hz1,hz2⟩:=b5E hT ⟨h2,h3⟩ h;exact⟨z,by simp only[Instr.field,Sem.run_bind,K6 hl,Result.andThen_ok,h1,asAgg,Sem.run_pure,hz1],hz2⟩
   grind
  grind
 grind
theorem add_zero (b o n:Nat):(⟨b,o,none⟩:Addr).add n =⟨b,o+n,none⟩:=by
 unfold Addr.add;split
 ·subst_vars;rfl
 rfl
theorem b9I (hT:TOk P T)(hx:Rel ρ lab w x xa)(h:b47 T t x f=some v) :
  ∃z,(Instr.fieldAt t xa f).run P w=.ok z w/\Rel ρ lab w v z:=by
 unfold b47 at h;split at h
 ·rename_i y hy;split at h
  ·rename_i fs hs;split at h
   ·rename_i ft off hf;split at h
    ·rename_i yf hyf;obtain⟨l,hl,hfs,_⟩:=(hT t y hy).flds hs;have hlf:∃fl,l[f]? = some fl/\fl.type=ft/\fl.offset=off:=by
      grind
     obtain⟨fl,h1,rfl,rfl⟩:=hlf;have hsz:=a1H (hT _ yf hyf);have hgo:∀(p:Addr),(yf.size≠0) ->(Instr.fieldAt t (.pointer (some p)) f).run P w=.ok (.pointer (some (p.add fl.offset))) w:=by
      intro p hne;simp only[Instr.fieldAt,Sem.run_bind,K6 hl,Result.andThen_ok,h1,Instr.sureAddr,Sem.run_pure,fieldPlace,hsz,Sem.run_ite,if_neg hne]
     split at h
     ·rename_i hb;have hne:yf.size≠0:=by intro e;simp_all
      cases h;cases hx with
      | ptr r off b o c h2 =>
       refine⟨_,hgo _ hne,?_⟩;rw[add_zero,Nat.add_assoc];exact .ptr _ _ b o c h2
     ·rename_i hb;have hne:yf.size≠0:=by intro e;simp_all
      cases h;cases hx with
      | cptr _ xs b o h2 h3 h4 h5 =>
       refine⟨_,hgo _ hne,?_⟩;rw[add_zero];have hd:=(L6.drop (⟨h2,h4⟩) fl.offset)
       exact .cptr _ _ b _ hd.1 zGr hd.2 zGr
     grind
    grind
   grind
  grind
 grind
theorem b9J (hT:TOk P T)(hx:Rel ρ lab w x xa)(hi:Rel ρ lab w i ia)(h:b2u T t x i=some v) :
  ∃z,(Instr.indexAt t xa ia).run P w=.ok z w/\Rel ρ lab w v z:=by
 unfold b2u at h;split at h
 ·rename_i y k n hy;cases hi;have hsh:=(hT t y hy).sh;split at h
  ·rename_i e ow m cs hs;rw[hs]at hsh;split at h
   ·rename_i ye hye;obtain⟨h1,h2⟩:=O3 h;cases h2;obtain⟨h3,h4⟩:=b3N h1;have hsz:=a1H (hT _ ye hye);cases hx with
    | slice _ _ _ xs b o ao cap g1 g2 g3 g6 g4 g5 g7 _ g9 =>
     have hao:=g3 zOm;subst hao;refine⟨.pointer (some ((⟨b,o,none⟩:Addr).add (n.toNat*ye.size))),?_,?_⟩
     ·simp only[Instr.indexAt,asIntOf,Sem.run_bind,Sem.run_pure,K6 hsh,Result.andThen_ok,Sem.run_ite,if_pos (show 0<=n/\n<m from⟨h3,h4⟩),hsz]
     have hd:=(L6.drop (⟨g1,g5⟩) (n.toNat*ye.size))
     rw[add_zero];exact .cptr _ _ b _ hd.1 zGr hd.2 zGr
   grind
  ·rename_i e r off m wh hs;rw[hs]at hsh;split at h
   ·rename_i ye hye;obtain⟨h1,h2⟩:=O3 h;cases h2;obtain⟨h3,h4⟩:=b3N h1;have hsz:=a1H (hT _ ye hye);cases hx with
    | rslice _ _ _ _ base g ao cap g1 g2 g3 g4 g5 =>
     have hao:=g3 zOm;cases base with
     | none=>grind
     | some p =>
      simp at hao;subst hao;refine⟨_,by simp only[Instr.indexAt,asIntOf,Sem.run_bind,Sem.run_pure,K6 hsh,Result.andThen_ok,Sem.run_ite,if_pos (show 0<=n/\n<m from⟨h3,h4⟩),hsz];rfl,?_⟩;rw[add_zero,Nat.add_assoc];exact .ptr _ _ p.1 p.2 _ g1
   grind
  ·rename_i m e r off hs;rw[hs]at hsh;split at h
   ·rename_i ye hye;obtain⟨h1,h2⟩:=O3 h;cases h2;obtain⟨h3,h4⟩:=b3N h1;have hsz:=a1H (hT _ ye hye);cases hx with
    | ptr _ _ b o c g1 =>
     refine⟨_,by simp only[Instr.indexAt,asIntOf,Sem.run_bind,Sem.run_pure,K6 hsh,Result.andThen_ok,Instr.sureAddr,Sem.run_ite,if_pos (show 0<=n/\n<(m:Int)from⟨h3,h4⟩),hsz];rfl,?_⟩;rw[add_zero,Nat.add_assoc];exact .ptr _ _ b o c g1
   cases h
  ·rename_i m e cs hs;rw[hs]at hsh;split at h
   ·rename_i ye hye;obtain⟨h1,h2⟩:=O3 h;cases h2;obtain⟨h3,h4⟩:=b3N h1;have hsz:=a1H (hT _ ye hye);cases hx with
    | cptr _ xs b o g1 g2 g3 g4 =>
     refine⟨_,by simp only[Instr.indexAt,asIntOf,Sem.run_bind,Sem.run_pure,K6 hsh,Result.andThen_ok,Instr.sureAddr,Sem.run_ite,if_pos (show 0<=n/\n<(m:Int)from⟨h3,h4⟩),hsz];rfl,?_⟩;rw[add_zero];have hd:=(L6.drop (⟨g1,g3⟩:L6 ρ lab w cs xs) (n.toNat*ye.size))
     exact .cptr _ _ b _ hd.1 (b24 g2 _) hd.2 (fun v hv=>g4 v (List.mem_of_mem_drop hv))
   cases h
  cases h
 cases h
theorem c8q (hT:TOk P T)(hx:Rel ρ lab w x xa)(hi:Rel ρ lab w i ia)(h:c2v T t x i=some v) :
  ∃z,(Instr.index t xa ia).run P w=.ok z w/\Rel ρ lab w v z:=by
 unfold c2v at h;split at h
 ·rename_i y k n hy;cases hi;have hsh:=(hT t y hy).sh;split at h
  ·rename_i s hs;rw[hs]at hsh;obtain⟨h1,h2⟩:=O3 h;cases h2;obtain⟨h3,h4⟩:=b3N h1;cases hx;have hlt:n.toNat<s.length:=zOm;have hg:(⟨⟨s⟩⟩:ByteArray)[n.toNat]? = some (s.getD n.toNat 0):=by
    have:(⟨⟨s⟩⟩:ByteArray)[n.toNat]? = s[n.toNat]?:=by
     show(if h:n.toNat<s.length then some _ else none)=_;simp[hlt];rfl
    grind
   exact⟨_,by simp only[Instr.index,asIntOf,Sem.run_bind,Sem.run_pure,K6 hsh,Result.andThen_ok,if_pos h3,hg],.int _ _⟩
  ·rename_i m e cs hs;rw[hs]at hsh;split at h
   ·rename_i ye hye;obtain⟨h1,h2⟩:=O3 h;obtain⟨h3,h4⟩:=b3N h1;have hsz:=a1H (hT _ ye hye);cases hx with
    | agg _ xs h5 h6 =>
     obtain⟨z,hz1,hz2⟩:=b5E hT ⟨h5,h6⟩ h2;exact⟨z,by simp only[Instr.index,asIntOf,Sem.run_bind,Sem.run_pure,K6 hsh,Result.andThen_ok,Sem.run_ite,if_pos (show 0<=n/\n<m from⟨h3,h4⟩),hsz,hz1],hz2⟩
   grind
  grind
 grind
theorem len_run (hT:TOk P T)(hx:Rel ρ lab w x xa)(h:vLen T t x=some v)(ts:Array TypeId)(ht:ts[0]? = some t)(t':TypeId) :
  ∃z,(Builtin.len_ ts t' #[xa]).run P w=.ok z w/\Rel ρ lab w v z:=by
 unfold vLen at h;split at h
 ·cases h
 rename_i y hy;have hsh:=(hT t y hy).sh;split at h
 ·rename_i hs;rw[hs]at hsh;cases h;cases hx;exact⟨_,by simp only[Builtin.len_,ht,List.getElem?_toArray,List.getElem?_cons_zero,Sem.run_bind,K6 hsh,Result.andThen_ok,Sem.run_pure];rfl,.int _ _⟩
 ·rename_i hs;rw[hs]at hsh;cases h;cases hx;exact⟨_,by simp only[Builtin.len_,ht,List.getElem?_toArray,List.getElem?_cons_zero,Sem.run_bind,K6 hsh,Result.andThen_ok,Sem.run_pure];rfl,.int _ _⟩
 ·rename_i hs;rw[hs]at hsh;cases h;cases hx;exact⟨_,by simp only[Builtin.len_,ht,List.getElem?_toArray,List.getElem?_cons_zero,Sem.run_bind,K6 hsh,Result.andThen_ok,Sem.run_pure];rfl,.int _ _⟩
 ·rename_i hs;rw[hs]at hsh;cases h;exact⟨_,by simp only[Builtin.len_,ht,List.getElem?_toArray,List.getElem?_cons_zero,Sem.run_bind,K6 hsh,Result.andThen_ok,Sem.run_pure];rfl,.int _ _⟩
 grind
end
variable {h l:Int} {cap len:Nat} {hi lo:Option V} {ha la:Option Value}
section
variable {P:Program} {T:List (Nat×Ty)} {ρ:Rho} {lab:Lab} {w:World} {H:Hp} {fr:Fr} {a:Act}
def RelO (ρ:Rho)(lab:Lab)(w:World):Option V->Option Value->Prop|none,none=>True|some v,some x=>Rel ρ lab w v x|_,_=>False
theorem c5B (hF:a6o ρ lab w fr a.tmps){o:Option Operand}{v:Option V}(h:evX fr o=some v):RelO ρ lab w v (o.map a.eval):=by
 unfold evX at h;split at h
 ·cases h;trivial
 split at h
 ·rename_i hv;cases h;exact a0l hF hv
 grind
theorem b06 {n:Int}{k:IntKind}{y:Nat}{c:BoundsCode}(h0:0<=n)(h1:n<=y)(w:World):(Instr.sliceBound (.int k n) y c).run P w=.ok n.toNat w:=by
 simp only[Instr.sliceBound,asIntOf,Sem.run_bind,Sem.run_pure,Result.andThen_ok,Sem.run_ite,if_pos (show 0<=n/\n<=y from⟨h0,h1⟩)]
theorem a9Z (isS:Bool) (hlo:RelO ρ lab w lo la) (hhi:RelO ρ lab w hi ha) (hl:bnd lo 0 = some l) (hh:bnd hi len = some h)
    (h0:0<=l) (h1:l<=h) (h2:h<=len) (hc:len<=cap) (w':World):(Instr.sliceBounds isS len cap la ha none).run P w'=.ok (l.toNat,h.toNat,cap) w':=by
  have hb2:(match ha with
      | some v=>Instr.sliceBound v cap (if isS then .sliceAcap else .sliceAlen)
      | none=>pure len).run P w'=.ok h.toNat w':=by
    cases hi with
    | none =>
      cases ha with
      | none=>simp only[bnd,Option.some.injEq]at hh;subst hh;simp
      | some x=>exact hhi.elim
    | some v =>
      cases ha with
      | none=>exact hhi.elim
      | some x =>
        cases v<;>simp only[bnd]at hh<;>first|grind|skip
        cases hh;cases hhi;exact b06 zOm zOm w'
  have hb1:(match la with
      | some v=>Instr.sliceBound v h.toNat .sliceB
      | none=>pure 0).run P w'=.ok l.toNat w':=by
    cases lo with
    | none =>
      cases la with
      | none=>simp only[bnd,Option.some.injEq]at hl;subst hl;simp
      | some x=>exact hlo.elim
    | some v =>
      cases la with
      | none=>exact hlo.elim
      | some x =>
        cases v<;>simp only[bnd]at hl<;>first|grind|skip
        cases hl;cases hlo;exact b06 h0 zOm w'
  unfold Instr.sliceBounds;cases ha with
  | none =>
    have e2 :=by simpa using hb2
    cases la with
    | none =>
      simp_all
    | some x =>
      simp_all
  | some y =>
    cases la with
    | none =>
      simp_all
    | some x =>
      simp_all
theorem c2V {h0 m0:V}{ha ma:Value}{m:Int}(hlo:RelO ρ lab w lo la)(hhi:Rel ρ lab w h0 ha)(hm:Rel ρ lab w m0 ma)(hl:bnd lo 0=some l)
  (hh:bnd (some h0) 0=some h) (hmb:bnd (some m0) 0=some m) (g0:0<=l) (g1:l<=h) (g2:h<=m) (hc:m<=cap) (w':World) :
  (Instr.sliceBounds true len cap la (some ha) (some ma)).run P w'=.ok (l.toNat,h.toNat,m.toNat) w':=by
 cases h0<;>simp only[bnd]at hh<;>first|grind|skip
 cases hh;cases hhi;cases m0<;>simp only[bnd]at hmb<;>first|grind|skip
 cases hmb;cases hm;unfold Instr.sliceBounds;simp only[Sem.run_bind,if_true];rw[b06 zOm hc w'];simp only[Result.andThen_ok];rw[b06 zOm zOm w'];simp only[Result.andThen_ok];cases lo with
 | none =>
  cases la with
  | none=>simp only[bnd,Option.some.injEq]at hl;subst hl;simp
  | some x=>exact hlo.elim
 | some v =>
  cases la with
  | none=>exact hlo.elim
  | some x =>
   cases v<;>simp only[bnd]at hl<;>first|grind|skip
   cases hl;cases hlo;simp;rw[b06 g0 zOm w'];rfl
theorem c8T (hT:TOk P T){t:Nat}{x:V}{xa:Value}{mx:Option V}{ma:Option Value}{v:V}(hx:Rel ρ lab w x xa)
  (hlo:RelO ρ lab w lo la) (hhi:RelO ρ lab w hi ha) (hmx:RelO ρ lab w mx ma) (h:b6S T t x lo hi mx=some v) :
  ∃z,(Instr.sliceAt t xa la ha ma).run P w=.ok z w/\Rel ρ lab w v z:=by
 unfold b6S at h;split at h
 ·
  rename_i y s hy;have hsh:=(hT t y hy).sh;split at h
  ·rename_i l hh hs hl hhb;rw[hs]at hsh;obtain⟨h1,h2⟩:=O3 h;cases h2;obtain⟨h3,h4,h5⟩:=b5p h1;cases hx;cases ma with
   | some m=>exact hmx.elim
   | none =>
    refine⟨.string ((⟨⟨s⟩⟩:ByteArray).extract l.toNat hh.toNat),?_,?_⟩
    ·simp only[Instr.sliceAt,Sem.run_bind,K6 hsh,Result.andThen_ok,Instr.slice,Option.isSome_none,Bool.false_eq_true,if_false];rw[show(⟨⟨s⟩⟩:ByteArray).size=s.length from rfl];rw[a9Z false hlo hhi hl hhb h3 h4 h5 zOm w];rfl
    have:(⟨⟨s⟩⟩:ByteArray).extract l.toNat hh.toNat =⟨⟨(s.take hh.toNat).drop l.toNat⟩⟩:=by
     apply WideShapes.bytes_inj;simp;rw[List.drop_take]
    rw[this];exact .str _
  grind
 ·rename_i y o n cs hy;have hsh:=(hT t y hy).sh;split at h
  ·rename_i e hs;rw[hs]at hsh;split at h
   ·
    cases h;cases la with
    | some m=>exact hlo.elim
    | none =>
    cases ha with
    | some m=>exact hhi.elim
    | none =>
    cases ma with
    | some m=>exact hmx.elim
    | none =>
    have hx':=hx;rename_i ye hye;cases hx with
    | slice _ _ _ xs b o ao cap g1 g2 g3 g4 g5 g6 g7 g8 g9 =>
     refine⟨.slice ao n cap,?_,hx'⟩;simp only[Instr.sliceAt,Sem.run_bind,K6 hsh,Result.andThen_ok,Instr.slice,Instr.sliceBounds,Option.isSome_none,Bool.false_eq_true,if_false,Sem.run_pure,a1H (hT _ ye hye),Nat.sub_zero,Nat.zero_mul];split
     ·rfl
     cases ao<;>rfl
   ·rename_i ye hye hnn;split at h
    ·rename_i l hh hl hhb;obtain⟨h1,h2⟩:=O3 h;cases h2;obtain⟨h3,h4,h5⟩:=b5p h1;cases ma with
     | some m=>exact hmx.elim
     | none =>
     cases hx with
     | slice _ _ _ xs b o' ao cap g1 g2 g3 g4 g5 g6 g7 g8 g9 =>
      refine⟨.slice (if cap=l.toNat then ao else ao.map (·.add (l.toNat*ye.size))) (hh.toNat-l.toNat) (cap-l.toNat),?_,?_⟩
      ·simp only[Instr.sliceAt,Sem.run_bind,K6 hsh,Result.andThen_ok,Instr.slice];rw[a9Z true hlo hhi hl hhb h3 h4 h5 g2 w];simp only[Result.andThen_ok,a1H (hT _ ye hye),Sem.run_pure]
      have hd:=L6.drop (L6.take (⟨g1,g6⟩:L6 ρ lab w cs xs) (hh.toNat*ye.size)) (l.toNat*ye.size);refine .slice _ _ _ _ b (o'+l.toNat*ye.size) _ _ hd.1 zOm (fun hn=>?_) (fun hn=>?_) (b24 (b61 g5 _) _) hd.2 trivial (fun x hx=>g8 x (List.mem_of_mem_take (List.mem_of_mem_drop hx))) (fun v hv=>g9 v (List.mem_of_mem_take (List.mem_of_mem_drop hv)))
      ·rw[if_neg zOm,g3 zOm];simp[add_zero]
      rw[show hh.toNat=l.toNat from zOm];simp
    cases h
   ·rename_i ye h0 m0 hye;split at h
    ·rename_i l hh m hl hhb hmb;obtain⟨h1,h2⟩:=O3 h;cases h2;simp only[Bool.and_eq_true]at h1;obtain⟨h3,h4,h5⟩:=b5p h1.1;have h6:hh=m:=by simpa [eqB]using h1.2
     subst h6;cases ha with
     | none=>exact hhi.elim
     | some ha =>
     cases ma with
     | none=>exact hmx.elim
     | some ma =>
     cases hx with
     | slice _ _ _ xs b o' ao cap g1 g2 g3 g4 g5 g6 g7 g8 g9 =>
      refine⟨.slice (if hh.toNat=l.toNat then ao else ao.map (·.add (l.toNat*ye.size))) (hh.toNat-l.toNat) (hh.toNat-l.toNat),?_,?_⟩
      ·simp only[Instr.sliceAt,Sem.run_bind,K6 hsh,Result.andThen_ok,Instr.slice];rw[c2V hlo hhi hmx hl hhb hmb h3 h4 (Int.le_refl _) zOm w];simp only[Result.andThen_ok,a1H (hT _ ye hye),Sem.run_pure]
      have hd:=L6.drop (L6.take (⟨g1,g6⟩:L6 ρ lab w cs xs) (hh.toNat*ye.size)) (l.toNat*ye.size);refine .slice _ _ _ _ b (o'+l.toNat*ye.size) _ _ hd.1 zOm (fun hn=>?_) (fun hn=>?_) (b24 (b61 g5 _) _) hd.2 rfl (fun x hx=>g8 x (List.mem_of_mem_take (List.mem_of_mem_drop hx))) (fun v hv=>g9 v (List.mem_of_mem_take (List.mem_of_mem_drop hv)))
      ·rw[if_neg zOm,g3 zOm];simp[add_zero]
      rw[show hh.toNat=l.toNat from zOm];simp
    cases h
   cases h
  cases h
 ·rename_i y r off n wh hy;have hsh:=(hT t y hy).sh;split at h
  ·rename_i e hs;rw[hs]at hsh;split at h
   ·rename_i ye l hh hye hl hhb;obtain⟨h1,h2⟩:=O3 h;cases h2;obtain⟨h3,h4,h5⟩:=b5p h1;cases ma with
    | some m=>exact hmx.elim
    | none =>
    cases hx with
    | rslice _ _ _ _ base g ao cap g1 g2 g3 g4 g5 =>
     refine⟨.slice (if cap=l.toNat then ao else ao.map (·.add (l.toNat*ye.size))) (hh.toNat-l.toNat) (cap-l.toNat),?_,?_⟩
     ·simp only[Instr.sliceAt,Sem.run_bind,K6 hsh,Result.andThen_ok,Instr.slice];rw[a9Z true hlo hhi hl hhb h3 h4 h5 g2 w];simp only[Result.andThen_ok,a1H (hT _ ye hye),Sem.run_pure]
     refine .rslice _ _ _ _ base g _ _ g1 zOm (fun hn=>?_) (fun hw=>?_) (fun hn=>?_)
     ·rcases hn with hn|hn
      ·rw[if_neg zOm,g3 (.inl zOm)];cases base<;>simp[add_zero,Nat.add_assoc]
      have hz:l.toNat*ye.size=0:=by omega
      have ho:off=0:=zOm;rw[hz,g3 (.inr ho)];have:(Option.map (fun x:Addr=>x.add 0) (base.map fun p=>(⟨p.1,p.2+off,none⟩:Addr)))=base.map fun p=>(⟨p.1,p.2+off,none⟩:Addr):=by cases base<;>rfl
      rw[this,ite_self,Nat.add_zero]
     ·cases lo with
      | some v=>cases hw
      | none =>
       simp only[bnd,Option.some.injEq]at hl;subst hl;obtain⟨e1,e2⟩:=g4 hw;exact⟨by simp[e1],by simpa using e2⟩
     rw[if_neg zOm];intro hc;simp only[Option.map_eq_none_iff]at hc;exact g5 zOm hc
   cases h
  cases h
 ·rename_i y r off hy;have hsh:=(hT t y hy).sh;split at h
  ·rename_i n e hs;rw[hs]at hsh;split at h
   ·rename_i ye l hh hye hl hhb;obtain⟨h1,h2⟩:=O3 h;cases h2;obtain⟨h3,h4,h5⟩:=b5p h1;cases ma with
    | some m=>exact hmx.elim
    | none =>
    cases hx with
    | ptr _ _ b o c g1 =>
     refine⟨.slice (some (if n=l.toNat then⟨b,o+off,none⟩else(⟨b,o+off,none⟩:Addr).add (l.toNat*ye.size))) (hh.toNat-l.toNat) (n-l.toNat),?_,?_⟩
     ·simp only[Instr.sliceAt,Sem.run_bind,K6 hsh,Result.andThen_ok,Instr.sureAddr,Sem.run_pure];rw[a9Z false hlo hhi hl hhb h3 h4 h5 (Nat.le_refl _) w];simp only[Result.andThen_ok,a1H (hT _ ye hye),Sem.run_pure]
     refine .rslice _ _ _ _ (some (b,o)) c _ _ g1 zOm (fun hn=>?_) (fun hw=>by cases hw) (fun hn=>zSi);rcases hn with hn|hn
     ·rw[if_neg zOm];simp[add_zero,Nat.add_assoc]
     have hz:l.toNat*ye.size=0:=by omega
     rw[hz];simp[add_zero]
   cases h
  cases h
 cases h
end
section
variable {P:Program} {T:List (Nat×Ty)} {ρ:Rho} {lab:Lab} {w:World} {H:Hp} {fr:Fr} {a:Act}
theorem b0n {t:Nat}{y:Ty}(h:TyOk P t y):∃z,(zeroValue t).run P w=.ok z w/\L6 ρ lab w y.zero z.cells.toList/\z.cells.size=y.size /\
  (a2l y.sh=true -> ∃cs,z=.agg cs)/\(a2l y.sh=false->z.cells = #[z]):=by
 obtain⟨i,z,h1,h2,h3,h4,h5,h6,h7,h8⟩:=h.info;refine⟨z,by simp[zeroValue,a7y h1,h4],⟨by rw[a6Z h5],fun i v x hv hx=>?_⟩,h6,h7,h8⟩;obtain⟨c,g1,g2⟩:=a9h h5 i v hv;rw[g1]at hx;cases hx;exact c25 g2
theorem b6f (w:World)(c:Array Value)(e:TypeId)(fz:Nat×Nat)(i:Nat):cellAt {w with heap:=w.heap.push (.cells c e fz)} w.heap.size i=c[i]?:=by
 simp[cellAt,World.cell?]
theorem b9H (w:World)(x:Addr)(n b o:Nat):cellAt (w.freeze x n) b o=cellAt w b o:=by
 unfold World.freeze;split
 ·rfl
 simp only[cellAt,World.cell?,Array.getElem?_modify];grind
theorem c7r {b:Nat}(hld:∀b o k,lab b o=some k->b<w.heap.size)(hb:w.heap.size<=b)(o:Nat):lab b o=none:=by
 cases h:lab b o with
 | none=>rfl
 | some k=>grind
theorem b50 {e:Nat}(s:List UInt8)(hld:∀b o k,lab b o=some k->b<w.heap.size) :
  ∃z w',(Conv.stringToBytes e ⟨⟨s⟩⟩).run P w=.ok z w'/\a15 w w'/\Rel ρ lab w' (.slice .sealed s.length (a1n s)) z:=by
 let cap:=(Question.appendCap s.length 0 e).cut (w.tape w.drawn (.appendCap s.length 0 e));have hcap:s.length<=cap:=by simp only[cap,Question.cut];omega
 let c :=(⟨⟨s⟩⟩:ByteArray).data.map (fun b=>Value.int .u8 b.toNat)++Array.replicate (cap-s.length) (.int .u8 0);let w1 :={w with drawn:=w.drawn+1,heap:=w.heap.push (.cells c e)}
 refine⟨.slice (some ⟨w.heap.size,0,none⟩) s.length cap,w1.freeze {block:=w.heap.size,off:=c.size} 1,?_,?_,?_⟩
 ·simp only[Conv.stringToBytes,Sem.run_bind,run_choose,show _.forced=false from rfl,Bool.false_eq_true,if_false,Result.andThen_ok,newRow,run_newObj,Sem.run_pure,markStringish,run_shape];have:(World.shape? {w with drawn:=w.drawn+1,heap:=w.heap.push (.cells c e)} w.heap.size)=some (e,c.size):=by simp[World.shape?]
  show((match (World.shape? w1 w.heap.size)with|some (_,n)=>freeze {block:=w.heap.size,off:=n} 1|_=>pure ()).run P w1).andThen _=_;rw[this];rfl
 ·exact a15.c8o ((a15.push {w with drawn:=w.drawn+1} _)) (Nat.le_refl _) _ |> (a15.draw w _).trans
 have hr:L6 ρ lab (w1.freeze {block:=w.heap.size,off:=c.size} 1) (a1n s) (s.map fun b=>Value.int .u8 b.toNat):=by
  refine⟨by simp[a1n],fun i v x hv hx=>?_⟩;simp only[a1n,List.getElem?_map]at hv hx;cases hs:s[i]? with
  | none=>grind
  | some b=>rw[hs]at hv hx;cases hv;cases hx;exact .int _ _
 refine .slice _ _ _ _ w.heap.size 0 _ _ hr.1 hcap (fun _=>rfl) (fun hn=>?_) (fun i x hx=>⟨?_,?_⟩) hr.2 trivial (by simp[Value.oneCell']) (by simp only[a1n,List.mem_map];rintro _ ⟨b,_,rfl⟩;exact .int _ _)
 ·have :=List.length_eq_zero_iff.1 hn;subst this;rfl
 ·exact c7r hld zOm _
 rw[b9H];rw[show cellAt {w with drawn:=w.drawn+1,heap:=w.heap.push (.cells c e)} w.heap.size (0+i)=c[0+i]? from b6f {w with drawn:=w.drawn+1} c e _ _];grind
theorem b7e:∀{cs:List V} {l:List UInt8},a7p cs=some l->l.length=cs.length /\ ∀(i:Nat) (v:V),cs[i]? = some v -> ∃n:Int,v=.int .u8 n/\l[i]? = some (UInt8.ofNat n.toNat)
 | [],l,h=>by simp[a7p]at h;grind
 | v::r,l,h=>by
  have hv:∃n,v=.int .u8 n:=by
   unfold a7p at h;grind
  obtain⟨n,rfl⟩:=hv;simp only[a7p]at h;split at h
  ·rename_i l' hl;cases h;obtain⟨h1,h2⟩:=b7e hl;grind
  grind
theorem c8G (P:Program)(w:World):∀(xs:List Value) (l:List UInt8) (s:ByteArray),xs.length=l.length ->(∀(i:Nat) (x:Value),xs[i]? = some x -> ∃n:Int,x=.int .u8 n/\l[i]? = some (UInt8.ofNat n.toNat)) ->
  (forIn (m:=Sem) xs s fun c s =>
   match c with
   | .int .u8 n=>pure (.yield (s.push (UInt8.ofNat n.toNat)))
   | _=>do
    stuck "bytesToString: byte expected"
    pure (.yield s)).run P w=.ok ⟨⟨s.data.toList++l⟩⟩ w:=by
 intro xs;induction xs with
 | nil =>
  intro l s hl _;have :=List.length_eq_zero_iff.1 hl.symm;simp_all
 | cons x xs ih =>
  intro l s hl h;obtain⟨n,rfl,hn⟩:=h 0 x rfl;cases l with
  | nil=>grind
  | cons u l =>
   simp at hn;subst hn;have:=ih l (s.push (UInt8.ofNat n.toNat)) zGr (fun i x hx=>by simpa using h (i+1) x zGr);simp_all
theorem b5i {x:Value}{ow:Own}{cs:List V}{l:List UInt8}(hx:Rel ρ lab w (.slice ow l.length cs) x)(hu:a7p cs=some l) :
  (Conv.bytesToString x).run P w=.ok (.string ⟨⟨l⟩⟩) w:=by
 obtain⟨h1,h2⟩:=b7e hu;cases hx with
 | slice _ _ _ xs b o ao cap g1 g2 g3 g4 g5 g6 g7 _ _ =>
  cases ao with
  | none =>
   have:l=[]:=by
    grind
   subst this;rfl
  | some p =>
   rcases Nat.eq_zero_or_pos l.length with h|h
   ·have :=List.length_eq_zero_iff.1 h;subst this;rfl
   cases g3 h;simp only[Conv.bytesToString,Sem.run_bind];have hlx:xs.length=l.length:=zOm;rw[<-hlx,run_loadCells_list w ⟨b,o,none⟩ xs (fun j v hv=>by rw[add_zero];exact(g5 j v hv).cell)];simp only[Result.andThen_ok,Sem.run_bind];have:=c8G P w xs l ByteArray.empty hlx (fun i x hx=>by
    have hi:i<cs.length:=by
     grind
    obtain⟨n,hn1,hn2⟩:=h2 i cs[i] zGr;have:=g6 i cs[i] x zGr hx;rw[hn1]at this;cases this;grind)
   rw[List.forIn_toArray];exact(congrArg (fun r:Result ByteArray=>r.andThen fun a w'=>Sem.run P (pure (Value.string a)) w') this).trans zSi
theorem conv_run (hT:TOk P T)(hld:∀b o k,lab b o=some k->b<w.heap.size){s d:Nat}{x v:V}{xa:Value}(hx:Rel ρ lab w x xa)(h:b58 T s d x=some v) :
  ∃z w',(convert s d xa).run P w=.ok z w'/\a15 w w'/\Rel ρ lab w' v z:=by
 unfold b58 at h;split at h
 ·rename_i ya yb hya hyb;have ha:=hT s ya hya;have hb:=(hT d yb hyb).sh;obtain⟨da,hda⟩:=ha.und;split at h
  ·rename_i k j n hs;rw[hs]at hb;cases h;cases hx;refine⟨_,w,?_,.refl w,.int _ _⟩;simp only[convert,Sem.run_bind,K6 hda,K6 hb,Result.andThen_ok];cases da<;>rfl
  ·rename_i st hs;rw[hs]at hb;split at h
   ·rename_i hs2;have ha2:=ha.sh;rw[hs2]at ha2;cases h;cases hx;refine⟨_,w,?_,.refl w,.str _⟩;simp only[convert,Sem.run_bind,K6 ha2,K6 hb,Result.andThen_ok];rfl
   grind
  ·rename_i e st hs;rw[hs]at hb;split at h
   ·rename_i y hs2 hy;have ha2:=ha.sh;rw[hs2]at ha2;split at h
    ·rename_i hs3;have hc:=(hT e y hy).sh;rw[hs3]at hc;cases h;cases hx;obtain⟨z,w',h1,h2,h3⟩:=b50    st hld;refine⟨z,w',?_,h2,h3⟩;simp only[convert,Sem.run_bind,K6 ha2,K6 hb,Result.andThen_ok,K6 hc];omega
    grind
   grind
  ·rename_i ow n cs hs;rw[hs]at hb;split at h
   ·rename_i e hs2;have ha2:=ha.sh;rw[hs2]at ha2;split at h
    ·rename_i y hy;split at h
     ·rename_i hs3;have hc:=(hT e y hy).sh;rw[hs3]at hc;split at h
      ·rename_i l hl;obtain⟨h1,h2⟩:=O3 h;cases h2;have hn:n=l.length:=by simpa [eqN]using h1
       subst hn;refine⟨_,w,?_,.refl w,.str _⟩;have hrun:=b5i (P:=P) hx hl;cases hx;simp only[convert,Sem.run_bind,K6 ha2,K6 hb,Result.andThen_ok,K6 hc];exact hrun
      cases h
     cases h
    cases h
   cases h
  cases h
 cases h
theorem foldl_set:∀(l:List Value) (k o:Nat) (cs:Array Value),o+k+l.length<=cs.size ->
  ((l.zipIdx k).foldl (fun cs (c,j)=>cs.setIfInBounds (o+j) c) cs).toList=cs.toList.take (o+k)++l++cs.toList.drop (o+k+l.length)
 | [],k,o,cs,_=>zSi
 | c::l,k,o,cs,h=>by
  simp only[List.zipIdx_cons,List.foldl_cons];have h':o+(k+1)+l.length <=(cs.setIfInBounds (o+k) c).size:=zGr;rw[foldl_set l (k+1) o _ h'];apply List.ext_getElem?;intro i;simp only[Array.toList_setIfInBounds,List.getElem?_append,List.length_append,List.length_take,List.length_set,List.getElem?_take,List.getElem?_drop,List.getElem?_set,List.length_cons,Array.length_toList];grind
theorem b8i {place:Nat -> Option (Nat × Nat)}:∀ (vs:List (Nat × V)) (xs:List (Nat × Value)) (cs:List V) (ca:Array Value),L6 ρ lab w cs ca.toList ->
    (xs.length=vs.length /\ ∀(i:Nat) (v:Nat×V) (x:Nat×Value),vs[i]? = some v->xs[i]? = some x->v.1=x.1/\v.2 ≠ .undef/\Rel ρ lab w v.2 x.2) ->
    ∀ (r:List V),(vs.foldl (fun (acc:Option (List V)) p=>match acc,place p.1 with
        | some cs,some (off,size)=>if(cellsOf p.2).length=size/\off+(cellsOf p.2).length<=cs.length then some (R9 cs off (cellsOf p.2))else none
        | _,_=>none) (some cs))=some r ->
      ∃ra,Instr.fill place ca xs=some ra/\L6 ρ lab w r ra.toList:=by
  intro vs;induction vs with
  | nil =>
    intro xs cs ca h hp r hr;have :=List.length_eq_zero_iff.1 hp.1;subst this;simp at hr;subst hr;exact⟨ca,rfl,h⟩
  | cons p vs ih =>
    intro xs cs ca h hp r hr;cases xs with
    | nil=>grind
    | cons x xs =>
      obtain⟨h1,h2,h3⟩:=hp.2 0 p x rfl rfl;obtain⟨i,v⟩:=p;obtain⟨j,u⟩:=x;subst h1;have hnone:∀l:List (Nat×V),(l.foldl (fun acc p=>match acc,place p.1 with
        | some cs,some (off,size)=>if(cellsOf p.2).length=size/\off+(cellsOf p.2).length<=cs.length then some (R9 cs off (cellsOf p.2))else none
        | _,_=>none) none)=none:=by
        intro l;induction l with
        | nil=>rfl
        | cons a l ihl=>grind
      simp at hr;cases hpl:place i with
      | none=>rw[hpl]at hr;rw[hnone]at hr;grind
      | some q =>
        obtain⟨off,size⟩:=q;rw[hpl]at hr;simp at hr;split at hr
        · have hcells:=L6.of_cells h3 h2
          have hsz:u.cells.size =(cellsOf v).length:=by rw[<-hcells.1,Array.length_toList]
          have hcs:ca.size=cs.length:=by rw[<-h.1,Array.length_toList]
          have hset:L6 ρ lab w (R9 cs off (cellsOf v)) (u.cells.zipIdx.foldl (fun cs (c,j)=>cs.setIfInBounds (off+j) c) ca).toList:=by
            have e:=foldl_set u.cells.toList 0 off ca zGr;have e2:(u.cells.zipIdx.foldl (fun cs (c,j)=>cs.setIfInBounds (off+j) c) ca) =((u.cells.toList.zipIdx 0).foldl (fun cs (c,j)=>cs.setIfInBounds (off+j) c) ca):=by
              rw[<-Array.foldl_toList,Array.toList_zipIdx]
            rw[e2,e];simpa using h.R9 hcells off
          obtain⟨ra,g1,g2⟩:=ih xs _ _ hset ⟨zGr,fun k v x hv hx=>hp.2 (k+1) v x zGr zGr⟩ r hr;refine⟨ra,?_,g2⟩;simp only[Instr.fill,hpl];rw[if_neg (by rw[hsz,hcs];simp;omega)];exact g1
        rw[hnone]at hr;cases hr
end
variable {vs vs':List V} {xs:List Value} {t:Nat} {v v':V} {x:Value}
section
variable {P:Program} {T:List (Nat×Ty)} {ρ:Rho} {lab:Lab} {w:World} {H:Hp} {fr:Fr} {a:Act}
def RelP (ρ:Rho)(lab:Lab)(w:World)(vs:List (Nat×V))(xs:List (Nat×Value)):Prop :=
 xs.length=vs.length /\ ∀(i:Nat) (v:Nat×V) (x:Nat×Value),vs[i]? = some v->xs[i]? = some x->v.1=x.1/\Rel ρ lab w v.2 x.2
theorem evP_ok (hF:a6o ρ lab w fr a.tmps){l:List (Nat×Operand)}{vs:List (Nat×V)}(h:evP fr l=some vs):RelP ρ lab w vs (l.map fun p=>(p.1,a.eval p.2)):=by
 refine⟨by simp[a6Z h],fun i v x hv hx=>?_⟩;obtain⟨o,h1,h2⟩:=a9h h i v hv;simp only[List.getElem?_map,h1,Option.map_some,Option.some.injEq]at hx;subst hx;split at h2
 ·rename_i z hz;cases h2;exact⟨rfl,a0l hF hz⟩
 grind
abbrev c0U (place:Nat->Option (Nat×Nat))(acc:Option (List V))(p:Nat×V):Option (List V) :=
 match acc,place p.1 with
 | some cs,some (off,size)=>if(cellsOf p.2).length=size/\off+(cellsOf p.2).length<=cs.length then some (R9 cs off (cellsOf p.2))else none
 | _,_=>none
theorem c0c (fs:List (Nat×Nat))(place:Nat->Option (Nat×Nat))(hpl:∀(i ft off:Nat),fs[i]? = some (ft,off) -> ∀y,O7 ft T=some y->place i=some (off,y.size)) :
  ∀(vs:List (Nat×V)) (cs:List V) (v:V),b6R.fill T fs vs cs=some v -> ∃r,v=.agg r/\vs.foldl (c0U place) (some cs)=some r /\ ∀(i:Nat) (p:Nat×V),vs[i]? = some p->p.2 ≠ .undef
 | [],cs,v,h=>by cases h;grind
 |(i,u)::vs,cs,v,h=>by
  simp only[b6R.fill]at h;split at h
  ·cases h
  rename_i ft off hf;split at h
  ·cases h
  rename_i y hy;obtain⟨h1,h2⟩:=O3 h;simp only[Bool.and_eq_true]at h1;obtain⟨r,g1,g2,g3⟩:=c0c fs place hpl vs _ v h2;refine⟨r,g1,?_,?_⟩
  ·simp only[List.foldl_cons,c0U,hpl i ft off hf y hy];rw[if_pos ⟨Nat.eq_of_beq_eq_true h1.1.2,Nat.le_of_ble_eq_true h1.2⟩];omega
  intro k p hk;cases k with
  | zero=>simp at hk;subst hk;rintro rfl;simp[notU]at h1
  | succ k=>grind
theorem b8h (sz:Nat):∀(vs:List (Nat×V)) (cs:List V) (v:V),b6R.fillA sz vs cs=some v -> ∃r,v=.agg r/\vs.foldl (c0U fun i=>some (i*sz,sz)) (some cs)=some r /\ ∀(i:Nat) (p:Nat×V),vs[i]? = some p->p.2 ≠ .undef
 | [],cs,v,h=>by cases h;grind
 |(i,u)::vs,cs,v,h=>by
  obtain⟨h1,h2⟩:=O3 h;simp only[Bool.and_eq_true]at h1;obtain⟨r,g1,g2,g3⟩:=b8h sz vs _ v h2;refine⟨r,g1,?_,?_⟩
  ·simp only[List.foldl_cons,c0U];rw[if_pos ⟨Nat.eq_of_beq_eq_true h1.1.2,Nat.le_of_ble_eq_true h1.2⟩];omega
  intro k p hk;cases k with
  | zero=>simp at hk;subst hk;rintro rfl;simp[notU]at h1
  | succ k=>grind
theorem c5V (l:List Field)(h:∀f∈l,(P.info? f.type).isSome=true)(w:World) :
  ∃r,(l.mapM (m:=Sem) fun f=>do pure (f.offset,<-sizeOf f.type)).run P w=.ok r w/\r.length=l.length /\ ∀(i:Nat) (f:Field),l[i]? = some f -> ∃n,P.info? f.type=some n/\r[i]? = some (f.offset,n.size):=by
 induction l with
 | nil=>simp_all
 | cons f l ih =>
  obtain⟨r,h1,h2,h3⟩:=ih zGr;obtain⟨n,hn⟩:=Option.isSome_iff_exists.1 (h f zGr);refine⟨(f.offset,n.size)::r,?_,zGr,?_⟩
  ·simp only[List.mapM_cons,Sem.run_bind,sizeOf,a7y hn,Result.andThen_ok,Sem.run_pure];simp only[Sem.run_bind,sizeOf]at h1;simp_all
  grind
theorem c79 (hT:TOk P T){t:Nat}{vs:List (Nat×V)}{xs:List (Nat×Value)}{v:V}(hp:RelP ρ lab w vs xs)(h:b6R T t vs=some v) :
  ∃z,(Instr.build t xs.toArray).run P w=.ok z w/\Rel ρ lab w v z:=by
 unfold b6R at h;split at h
 ·rename_i y hy;have hk:=hT t y hy;have hsh:=hk.sh;obtain⟨z,hz1,hz2,hz3,hz4,_⟩:=b0n     hk;have hprops:∀(r:List V),(∀(i:Nat) (p:Nat×V),vs[i]? = some p->p.2 ≠ .undef) ->(xs.length=vs.length /\ ∀(i:Nat) (v:Nat×V) (x:Nat×Value),vs[i]? = some v->xs[i]? = some x->v.1=x.1/\v.2 ≠ .undef/\Rel ρ lab w v.2 x.2) :=
   fun _ hu=>⟨hp.1,fun i v x hv hx=>⟨(hp.2 i v x hv hx).1,hu i v hv,(hp.2 i v x hv hx).2⟩⟩
  split at h
  ·rename_i fs hs;obtain⟨l,hl,hfs,hin⟩:=hk.flds hs;obtain⟨r,hr1,hr2,hr3⟩:=c5V  l.toList (fun f hf=>List.all_eq_true.1 hin f hf) w;have hplace:∀(i ft off:Nat),fs[i]? = some (ft,off) -> ∀y,O7 ft T=some y ->(r.toArray)[i]? = some (off,y.size):=by
    intro i ft off hf y' hy';rw[<-hfs,List.getElem?_map]at hf;cases hl':l.toList[i]? with
    | none=>grind
    | some fl =>
     rw[hl']at hf;simp at hf;obtain⟨n,g1,g2⟩:=hr3 i fl hl';obtain⟨i',_,g3,g4,_⟩:=(hT ft y' hy').info;grind
   obtain⟨c,rfl,g2,g3⟩:=c0c  fs _ hplace vs y.zero v h;obtain⟨ra,k1,k2⟩:=b8i  vs xs y.zero z.cells hz2 (hprops c g3) c g2;refine⟨.agg ra,?_,?_⟩
   ·simp only[Instr.build,Sem.run_bind,hz1,Result.andThen_ok,K6 hl,Sem.run_pure];have:(l.mapM (m:=Sem) fun f=>do pure (f.offset,<-sizeOf f.type)).run P w=.ok r.toArray w:=by
     rw[Array.mapM_eq_mapM_toList,Sem.run_map,hr1];rfl
    rw[this];simp only[Result.andThen_ok,k1];rfl
   exact .agg _ _ k2.1 k2.2
  split at h
  ·rename_i n e hs;rw[hs]at hsh;split at h
   ·rename_i ye hye;obtain⟨c,rfl,g2,g3⟩:=b8h ye.size vs y.zero v h;obtain⟨ra,k1,k2⟩:=b8i (place:=fun i=>some (i*ye.size,ye.size)) vs xs y.zero z.cells hz2 (hprops c g3) c g2;refine⟨.agg ra,?_,?_⟩
    ·simp only[Instr.build,Sem.run_bind,hz1,Result.andThen_ok,K6 hsh,Sem.run_pure,a1H (hT e ye hye),k1]
    exact .agg _ _ k2.1 k2.2
   grind
  grind
 grind
theorem c0L (h:plainCell v=some v')(hx:Rel ρ lab w v x):Rel ρ lab w v' x/\v ≠ .undef:=by
 unfold plainCell at h;split at h<;>first|grind|omega|skip
 cases h;refine⟨?_,zGr⟩;cases hx with
 | slice _ _ _ xs b o ao cap g1 g2 g3 g4 g5 g6 g7 g8 g9=>exact .slice _ _ _ xs b o ao cap g1 g2 g3 g4 g5 g6 trivial g8 g9
theorem b0a (h:a2r plainCell vs=some vs')(hx:L6 ρ lab w vs xs):L6 ρ lab w vs' xs:=by
 refine⟨by rw[a6Z h];exact hx.1,fun i v x hv hxx=>?_⟩;obtain⟨u,h1,h2⟩:=a9h h i v hv;exact(c0L h2 (hx.2 i u x h1 hxx)).1
theorem c8A (h:plainCell v=some v')(hx:Rel ρ lab w v x):x.oneCell'=true:=by
 unfold plainCell at h;split at h<;>first|grind |(cases hx;rfl)
theorem c4p (h:plainCell v=some v')(hx:Rel ρ lab w v x):NF v':=by
 unfold plainCell at h;split at h<;>first|grind |(cases h;constructor;done) |(cases h;exact .iface _ _ (.int _ _)) |(cases h;exact .iface _ _ (.str _))|skip
 cases h;cases hx with
 | slice _ _ _ xs b o ao cap g1 g2 g3 g4 g5 g6 g7 g8 g9=>exact .slice _ _ _ zGr g9
theorem b1w (h:a2r plainCell vs=some vs')(hx:L6 ρ lab w vs xs):∀v∈vs',NF v:=by
 intro v hm;obtain⟨i,hi,rfl⟩:=List.mem_iff_getElem.1 hm;obtain⟨u,h1,h2⟩:=a9h h i vs'[i] zSi;have hi':i<xs.length:=by rw[hx.1,<-a6Z h];grind
 exact c4p h2 (hx.2 i u xs[i] h1 zSi)
theorem b4S (h:a2r plainCell vs=some vs')(hx:L6 ρ lab w vs xs):∀x∈xs,x.oneCell'=true:=by
 intro x hm;obtain⟨i,hi,rfl⟩:=List.mem_iff_getElem.1 hm;have hi':i<vs.length:=by rw[<-hx.1];omega
 obtain⟨b,h1,h2⟩:=c0u h i vs[i] zGr;exact c8A h2 (hx.2 i _ _ zGr zSi)
theorem c3F (sz:Nat):∀(l:List (Nat×V)) (k:Nat) (cs pre:List V),b3f sz k l=some cs->pre.length=k*sz ->
  ∃raw,l.foldl (c0U fun i=>some (i*sz,sz)) (some (pre++List.replicate (l.length*sz) .undef))=some (pre++raw)/\a2r plainCell raw=some cs/\raw.length=l.length*sz /\
   ∀(i:Nat) (p:Nat×V),l[i]? = some p->p.2 ≠ .undef
 | [],k,cs,pre,h,hp=>by cases h;exact⟨[],zSi,rfl,zSi,zSi⟩
 |(i,v)::l,k,cs,pre,h,hp=>by
  simp only[b3f]at h;split at h
  ·cases h
  rename_i hb;simp only[Bool.and_eq_true]at hb;have hik :=Nat.eq_of_beq_eq_true hb.1;have hsz :=Nat.eq_of_beq_eq_true hb.2;subst hik;split at h
  ·rename_i a b ha hb';cases h;obtain⟨raw,h1,h2,h3,h4⟩:=c3F sz l (i+1) b (pre++cellsOf v) hb' zGr;refine⟨cellsOf v++raw,?_,?_,zGr,?_⟩
   ·simp only[List.foldl_cons,c0U,List.length_cons];rw[if_pos ⟨hsz,zGr⟩];have e:R9 (pre++List.replicate ((l.length+1)*sz) V.undef) (i*sz) (cellsOf v) =(pre++cellsOf v)++List.replicate (l.length*sz) V.undef:=by
     unfold R9;rw[<-hp,List.take_left,hsz,List.drop_append,List.drop_eq_nil_of_le zOm,List.drop_replicate];grind
    grind
   ·have:∀(x y:List V) (a b:List V),a2r plainCell x=some a->a2r plainCell y=some b->a2r plainCell (x++y)=some (a++b):=by
     intro x;induction x with
     | nil=>intro y a b h1 h2;simp[a2r]at h1;grind
     | cons c x ih =>
      intro y a b h1 h2;simp only[a2r]at h1;split at h1
      ·grind
      rename_i c' hc;split at h1
      ·grind
      rename_i u hu;cases h1;simp only[List.cons_append,a2r,hc,ih y u b hu h2]
    grind
   intro j p hj;cases j with
   | zero =>
    simp at hj;subst hj;rintro hu;subst hu;simp[cellsOf,a2r,plainCell]at ha
   | succ j=>grind
  grind
theorem b73 (hT:TOk P T)(hld:∀b o k,lab b o=some k->b<w.heap.size){e len:Nat}{y ye:Ty}{vs:List (Nat×V)}{xs:List (Nat×Value)}{cs:List V}(hy:O7 t T=some y)(hs:y.sh=.slice e)(hye:O7 e T=some ye)
  (hp:RelP ρ lab w vs xs) (hlen:vs.length=len) (hb:len*ye.size<=16777216) (h:b3f ye.size 0 vs=some cs) :
  ∃z w',(Instr.buildSlice t len xs.toArray).run P w=.ok z w'/\a15 w w'/\Rel ρ lab w' (.slice .full len cs) z:=by
 have hsh:=(hT t y hy).sh;rw[hs]at hsh;have hk:=hT e ye hye;obtain⟨z,hz1,hz2,hz3,hz4,_⟩:=b0n  (ρ:=ρ) (lab:=lab) (w:=w) hk;obtain⟨raw,h1,h2,h3,h4⟩:=c3F ye.size vs 0 cs [] h zSi;let zero :=if len*ye.size=0 then #[]else z.cells
 let start :=(Array.range (len*ye.size)).map (zero[· % zero.size]!);have hst:start.size=len*ye.size:=zGr;have hinit:L6 ρ lab w (List.replicate (vs.length*ye.size) V.undef) start.toList:=by
  refine⟨zGr,fun i v x hv _=>?_⟩;rw[List.getElem?_replicate]at hv;split at hv
  ·cases hv;exact .undef x
  grind
 obtain⟨ra,k1,k2⟩:=b8i (place:=fun i=>some (i*ye.size,ye.size)) vs xs _ start hinit ⟨hp.1,fun i v x hv hx=>⟨(hp.2 i v x hv hx).1,h4 i v hv,(hp.2 i v x hv hx).2⟩⟩ raw h1;refine⟨.slice (some ⟨w.heap.size,0,none⟩) len len,{w with heap:=w.heap.push (.cells ra e)},?_,a15.push w _,?_⟩
 ·have hg:¬len*ye.size>2^24:=by omega
  simp only[Instr.buildSlice,Sem.run_bind,K6 hsh,Result.andThen_ok,a1H hk,Sem.run_ite,if_neg hg,Sem.run_pure];by_cases h0:len*ye.size=0
  ·have e1:start =(Array.range (len*ye.size)).map ((#[])[· % (#[]:Array Value).size]!):=by grind
   simp only[if_pos h0,Result.andThen_ok,<-e1,k1,newRow,Sem.run_bind,run_newObj,Sem.run_pure]
  have e1:start =(Array.range (len*ye.size)).map (z.cells[· % z.cells.size]!):=by grind
  simp only[if_neg h0,hz1,Result.andThen_ok,<-e1,k1,newRow,Sem.run_bind,run_newObj,Sem.run_pure]
 have hd:=(b0a h2 k2).ext ((a15.push w (.cells ra e)).ext lab) (.refl ρ);refine .slice _ _ _ _ w.heap.size 0 _ _ hd.1 zOm (fun _=>rfl) (fun hn=>?_) (fun i x hx=>⟨c7r hld zOm _,?_⟩) hd.2 rfl (b4S h2 k2) (b1w h2 k2)
 ·have:cs.length=0:=by rw[a6Z h2,h3,hlen,hn];simp
  grind
 rw[b6f,Nat.zero_add];grind
theorem c5g (hT:TOk P T){x:V}{xa:Value}{xt:Nat}{ok:Bool}(hx:Rel ρ lab w x xa)(h:c2s T x t ok=some v) :
  ∃z,(Instr.typeAssert xa xt t ok).run P w=.ok z w/\Rel ρ lab w v z:=by
 unfold c2s at h;split at h
 ·cases h
 rename_i y hy;have hk:=hT t y hy;obtain⟨d,hd⟩:=hk.und;have hni:=hk.notIface;obtain⟨z,hz1,hz2,hz3,hz4,hz5⟩:=b0n     hk;have hzero:Rel ρ lab w (match a2l y.sh with|true=>.agg y.zero|false=>y.zero.headD .undef) z:=by
  cases hg:a2l y.sh with
  | true =>
   obtain⟨cs,rfl⟩:=hz4 hg;exact .agg _ _ hz2.1 hz2.2
  | false =>
   rw[hz5 hg]at hz2;cases hyz:y.zero with
   | nil=>exact .undef z
   | cons c r=>rw[hyz]at hz2;exact hz2.2 0 c z rfl rfl
 split at h
 ·cases h
 ·rename_i u iv hnif;have hd2:∀ms,d ≠ .interface ms:=by
   grind
  cases hx with
  | iface _ _ xv hxv =>
  split at h<;>cases h
  ·rename_i hb;have hb:=Nat.eq_of_beq_eq_true hb;subst hb;refine⟨.tuple #[xv,.bool true],?_,.tuple _ [xv,.bool true] rfl (fun i v x hv hx=>?_)⟩
   ·simp only[Instr.typeAssert,Sem.run_bind,K6 hd,Result.andThen_ok];simp_all
   match i,hv,hx with
   | 0,hv,hx=>grind
   | 1,hv,hx=>cases hv;cases hx;exact .bool _
  ·rename_i hb;have hb:=Nat.eq_of_beq_eq_true hb;subst hb;refine⟨xv,?_,hxv⟩;simp only[Instr.typeAssert,Sem.run_bind,K6 hd,Result.andThen_ok];simp_all
  rename_i hb;have hb:¬u=t:=by intro e;simp_all
  refine⟨.tuple #[z,.bool false],?_,.tuple _ [z,.bool false] rfl (fun i v x hv hx=>?_)⟩
  ·simp only[Instr.typeAssert,Sem.run_bind,K6 hd,Result.andThen_ok];simp_all
  match i,hv,hx with
  | 0,hv,hx=>grind
  | 1,hv,hx=>cases hv;cases hx;exact .bool _
 ·rename_i hnif;have hd2:∀ms,d ≠ .interface ms:=by
   intro ms hm;refine hni ?_ ms (hm▸hd);cases hs:y.sh<;>simp_all
  cases hx;split at h<;>cases h;refine⟨.tuple #[z,.bool false],?_,.tuple _ [z,.bool false] rfl (fun i v x hv hx=>?_)⟩
  ·simp only[Instr.typeAssert,Sem.run_bind,K6 hd,Result.andThen_ok];cases d<;>first |(exact absurd rfl (hd2 _))|simp[hz1]
  match i,hv,hx with
  | 0,hv,hx=>cases hv;cases hx;exact hzero
  | 1,hv,hx=>cases hv;cases hx;exact .bool _
 cases h
theorem pure_ok (hT:TOk P T)(hld:∀b o k,lab b o=some k->b<w.heap.size)(hF:a6o ρ lab w fr a.tmps){o:Oper}(h:a0Y T fr o.op=some v) :
  ∃x w',(execOp a.eval o).run P w=.ok (.value x) w'/\a15 w w'/\Rel ρ lab w' v x:=by
 have stay:∀{s:Sem Value} {v:V},(∃z,s.run P w=.ok z w/\Rel ρ lab w v z) -> ∃x w',((do pure (Next.value (<-s))):Sem Next).run P w=.ok (.value x) w'/\a15 w w'/\Rel ρ lab w' v x:=by
  rintro s v ⟨z,h1,h2⟩;exact⟨z,w,by simp only[Sem.run_bind,h1,Result.andThen_ok,Sem.run_pure],.refl w,h2⟩
 have stay':∀{s:Sem Value} {v:V},(∃z w',s.run P w=.ok z w'/\a15 w w'/\Rel ρ lab w' v z) -> ∃x w',((do pure (Next.value (<-s))):Sem Next).run P w=.ok (.value x) w'/\a15 w w'/\Rel ρ lab w' v x:=by
  rintro s v ⟨z,w',h1,h2,h3⟩;exact⟨z,w',by simp only[Sem.run_bind,h1,Result.andThen_ok,Sem.run_pure],h2,h3⟩
 obtain⟨dst,op,type,pos,after,guard⟩:=o;simp only at h;unfold a0Y at h;split at h
 ·exact⟨_,w,rfl,.refl w,a0l hF h⟩
 ·exact⟨_,w,rfl,.refl w,a0l hF h⟩
 ·
  rename_i c x y;split at h
  ·rename_i b hc;have hb:=a0l hF hc;generalize hcv:a.eval c=cv at hb;cases hb;cases b with
   | true=>exact⟨_,w,by simp[execOp,hcv,asBool],.refl w,a0l hF h⟩
   | false=>exact⟨_,w,by simp[execOp,hcv,asBool],.refl w,a0l hF h⟩
  cases h
 ·
  rename_i t parts;split at h
  ·rename_i l hl;obtain⟨z,h1,h2⟩:=c79 hT (evP_ok hF hl) h;refine stay ⟨z,?_,h2⟩;have e:parts.map (fun p=>(p.1,a.eval p.2)) =(parts.toList.map fun p=>(p.1,a.eval p.2)).toArray:=by apply Array.toList_inj.1;rw[Array.toList_map]
   rw[e];exact h1
  cases h
 ·
  rename_i t len parts;split at h
  ·rename_i y l hy hl;split at h
   ·rename_i e hs;split at h
    ·rename_i ye hye;split at h
     ·rename_i hb;simp only[Bool.and_eq_true]at hb;split at h
      ·rename_i cs hcs;cases h;obtain⟨z,w',h1,h2,h3⟩:=b73 hT hld hy hs hye (evP_ok hF hl) (Nat.eq_of_beq_eq_true hb.1) (Nat.le_of_ble_eq_true hb.2) hcs;refine stay' ⟨z,w',?_,h2,h3⟩;have e:parts.map (fun p=>(p.1,a.eval p.2)) =(parts.toList.map fun p=>(p.1,a.eval p.2)).toArray:=by apply Array.toList_inj.1;rw[Array.toList_map]
       rw[e];exact h1
      cases h
     cases h
    cases h
   cases h
  cases h
 ·
  rename_i x;split at h
  ·rename_i r o hx;have hb:=a0l hF hx;cases h;generalize hcv:a.eval x=cv at hb;have hb':=hb;cases hb;exact⟨_,w,by simp only[execOp,hcv];rfl,.refl w,hb'⟩
  ·rename_i cs hx;have hb:=a0l hF hx;cases h;generalize hcv:a.eval x=cv at hb;have hb':=hb;cases hb;exact⟨_,w,by simp only[execOp,hcv];rfl,.refl w,hb'⟩
  ·rename_i f p q hx;have hb:=a0l hF hx;cases h;generalize hcv:a.eval x=cv at hb;have hb':=hb;cases hb;exact⟨_,w,by simp only[execOp,hcv];rfl,.refl w,hb'⟩
  cases h
 ·
  rename_i op t x y yt;split at h
  ·rename_i p q hp hq;exact stay (vBin_run hT hF hp hq h)
  cases h
 ·
  rename_i op t x;split at h
  ·rename_i b hx;have hb:=a0l hF hx;cases h;generalize hcv:a.eval x=cv at hb;cases hb;exact stay ⟨.bool (!b),by rw[hcv];rfl,.bool _⟩
  ·rename_i k n hx;have hb:=a0l hF hx;cases h;generalize hcv:a.eval x=cv at hb;cases hb;exact stay ⟨_,by rw[hcv];rfl,.int _ _⟩
  cases h
 ·
  rename_i s d x;split at h
  ·rename_i v' hx;exact stay' (conv_run hT hld (a0l hF hx) h)
  cases h
 ·
  rename_i t x;split at h
  ·rename_i y v' hy hx;have hk:=hT t y hy;obtain⟨d,hd⟩:=hk.und;have hni:=hk.notIface;split at h
   ·cases h
   rename_i hnif;cases h;have hd2:∀ms,d ≠ .interface ms:=by
    intro ms hm;refine hni ?_ ms (hm▸hd);cases hs:y.sh<;>simp_all
   refine stay ⟨.iface t (a.eval x),?_,.iface _ _ _ (a0l hF hx)⟩;simp only[Instr.makeInterface,Sem.run_bind,K6 hd,Result.andThen_ok];cases d<;>first |(exact absurd rfl (hd2 _))|rfl
  cases h
 ·
  rename_i fn p q;split at h
  ·rename_i l1 l2 h1 h2;cases h;have r1:=c1s hF h1;have r2:=c1s hF h2;refine stay ⟨.func fn (p.toList.map a.eval).toArray (q.toList.map a.eval).toArray,?_,.func fn _ _ _ _ r1.1 r2.1 r1.2 r2.2⟩;have e:∀z:Array Operand,z.map a.eval =(z.toList.map a.eval).toArray:=by intro z;apply Array.toList_inj.1;rw[Array.toList_map]
   rw[Instr.makeFunc,e,e];rfl
  cases h
 ·
  rename_i t x lo hi mx;split at h
  ·rename_i v' l hh m hx hl hhi hm;exact stay (c8T hT (a0l hF hx) (c5B hF hl) (c5B hF hhi) (c5B hF hm) h)
  cases h
 ·rename_i t x f;split at h
  ·rename_i v' hx;exact stay (b9I hT (a0l hF hx) h)
  cases h
 ·rename_i t x f;split at h
  ·rename_i v' hx;exact stay (c8l hT (a0l hF hx) h)
  cases h
 ·rename_i t x i;split at h
  ·rename_i v' i' hx hi;exact stay (b9J hT (a0l hF hx) (a0l hF hi) h)
  cases h
 ·rename_i t x i;split at h
  ·rename_i v' i' hx hi;exact stay (c8q hT (a0l hF hx) (a0l hF hi) h)
  cases h
 ·rename_i x xt t ok;split at h
  ·rename_i v' hx;exact stay (c5g hT (a0l hF hx) h)
  cases h
 ·
  rename_i x i;split at h
  ·rename_i vs hx;have hb:=a0l hF hx;generalize hcv:a.eval x=cv at hb;cases hb with
   | tuple _ xs h1 h2 =>
    obtain⟨z,hz1,hz2⟩:=L6.get ⟨h1,h2⟩ h;refine stay ⟨z,?_,hz2⟩;simp[Instr.extract,hcv,hz1]
  cases h
 ·
  rename_i args ats;split at h
  ·rename_i x t ts hargs hts;split at h
   ·rename_i v' hx;obtain⟨z,h1,h2⟩:=len_run hT (a0l hF hx) h ats (by rw[<-Array.getElem?_toList,hts];rfl) type;refine⟨z,w,?_,.refl w,h2⟩;have e:args.map a.eval = #[a.eval x]:=by
     apply Array.toList_inj.1;simp[hargs]
    simp only[execOp,resolve,Sem.run_bind,Sem.run_pure,Result.andThen_ok,invoke,builtin,e,h1]
   cases h
  cases h
 ·rename_i args ats;split at h
  ·rename_i x y hargs;split at h
   ·rename_i j m k n hx hy;split at h
    ·rename_i hjk;have hjk:=of_decide_eq_true hjk;subst hjk;cases h;have hX:=a0l hF hx;have hY:=a0l hF hy;refine⟨.int j (min m n),w,?_,.refl w,.int _ _⟩;have e:(args.map a.eval).toList=[a.eval x,a.eval y]:=by simp[hargs]
     generalize a.eval x=xa at *;generalize a.eval y=ya at *;cases hX;cases hY;simp only[execOp,resolve,Sem.run_bind,Sem.run_pure,Result.andThen_ok,invoke,builtin,Builtin.min_,e,List.foldlM_cons,List.foldlM_nil,Builtin.min2];show Result.ok (Next.value (Value.int j _)) w=_;congr 3;omega
    cases h
   cases h
  cases h
 ·rename_i args ats;split at h
  ·rename_i x y hargs;split at h
   ·rename_i j m k n hx hy;split at h
    ·rename_i hjk;have hjk:=of_decide_eq_true hjk;subst hjk;cases h;have hX:=a0l hF hx;have hY:=a0l hF hy;refine⟨.int j (max m n),w,?_,.refl w,.int _ _⟩;have e:(args.map a.eval).toList=[a.eval x,a.eval y]:=by simp[hargs]
     generalize a.eval x=xa at *;generalize a.eval y=ya at *;cases hX;cases hY;simp only[execOp,resolve,Sem.run_bind,Sem.run_pure,Result.andThen_ok,invoke,builtin,Builtin.max_,e,List.foldlM_cons,List.foldlM_nil,Builtin.max2];show Result.ok (Next.value (Value.int j _)) w=_;congr 3;omega
    cases h
   cases h
  cases h
 cases h
end
variable {ms:Array MapEntry} {ys:List Value} {b c k o p t:Nat} {v x:V} {xa:Value}
section
variable {P:Program} {T:List (Nat×Ty)} {ρ:Rho} {lab:Lab} {w:World} {H:Hp} {fr:Fr} {a:Act}
theorem F4 (k j:Nat)(o:Obj):∀(H:Hp),hget j (hset k o H)=if j=k then some o else hget j H
 | []=>by
  simp only[hset,hget];by_cases h:j=k
  ·simp_all
  rw[if_neg h];have:Nat.beq k j=false:=by
   cases hb:Nat.beq k j with
   | true=>simp_all
   | false=>rfl
  grind
 |(s,x)::r=>by
  simp only[hset];cases hb:Nat.beq s k with
  | true =>
   have hsk:=Nat.eq_of_beq_eq_true hb;subst hsk;simp only[hget];by_cases h:j=s
   ·grind
   rw[if_neg h];have:Nat.beq s j=false:=by
    cases hc:Nat.beq s j with
    | true=>simp_all
    | false=>rfl
   grind
  | false =>
   cases hl:Nat.ble k s with
   | true =>
    simp only[hget];by_cases h:j=k
    ·simp_all
    rw[if_neg h];have:Nat.beq k j=false:=by
     cases hc:Nat.beq k j with
     | true=>simp_all
     | false=>rfl
    grind
   | false =>
    simp only[hget];rw[F4 k j o r];grind
theorem c3H (hT:TOk P T) (hS:Sim ρ lab H w) (hx:Rel ρ lab w x xa) (h:a6s T t x H = some v) :
    ∃z,(Instr.loadAt t xa).run P w=.ok z w/\Rel ρ lab w v z:=by
  have key:∀ (y:Ty) (b o:Nat) (cs:List V) (xs:List Value),O7 t T = some y -> L6 ρ lab w cs xs -> (∀ (i:Nat) (x:Value),xs[i]? = some x -> cellAt w b (o + i) = some x) ->
      (a2l y.sh=true->y.size<=cs.length/\v=.agg (cs.take y.size)) ->(a2l y.sh=false->cs[0]? = some v) ->
      ∃z,(Instr.loadAt t (.pointer (some ⟨b,o,none⟩))).run P w=.ok z w/\Rel ρ lab w v z:=by
    intro y b o cs xs hy hr hc h1 h2;have hk:=hT t y hy;cases hs:a2l y.sh with
    | true =>
      obtain⟨g1,g2⟩:=h1 hs;have hl:(xs.take y.size).length=y.size:=by rw[List.length_take,hr.1];omega
      refine⟨.agg (xs.take y.size).toArray,?_,?_⟩
      · have:=run_loadCells_list (P:=P) w ⟨b,o,none⟩ (xs.take y.size) (fun j u hu=>by
          rw[add_zero];rw[List.getElem?_take]at hu;split at hu
          · exact hc j u hu
          grind)
        rw[hl]at this;simp only[Instr.loadAt,Instr.sureAddr,Sem.run_bind,Sem.run_pure,Result.andThen_ok,loadVar,b3O hk,hs,if_true,a1H hk,this]
      rw[g2];have:=hr.take y.size;exact .agg _ _ this.1 this.2
    | false =>
      obtain⟨z,g1,g2⟩:=hr.get (h2 hs);refine⟨z,?_,g2⟩;have hc0:w.cell? ⟨b,o,none⟩=some z:=hc 0 z g1;simp only[Instr.loadAt,Instr.sureAddr,Sem.run_bind,Sem.run_pure,Result.andThen_ok,loadVar,b3O hk,hs,Bool.false_eq_true,if_false,run_load,hc0]
  unfold a6s at h;split at h
  · rename_i y r off hy
    cases hx with
    | ptr _ _ b o c hat =>
    split at h
    · rename_i cs hg
      obtain⟨b',o',xs,h1,h2,h3⟩:=hS.row r cs hg;rw[hat]at h1;obtain⟨⟨rfl,rfl⟩,rfl⟩:=h1;refine key y b (o+off) _ _ hy (h2.drop off) (fun i x hx=>?_) (fun hs=>?_) (fun hs=>?_)
      · grind
      · rw[hs]at h
        obtain⟨g1,g2⟩:=O3 h;cases g2;refine⟨?_,rfl⟩;have:=Nat.le_of_ble_eq_true g1;grind
      grind
    · rename_i e cs hg
      obtain⟨base,c',xs,h1,h2,h3,h4,h8,h9,h5⟩:=hS.grow r e cs hg;rw[hat]at h1;obtain⟨rfl,rfl⟩:=h1;obtain⟨h6,h7⟩:=h5 b o rfl;refine key y b (o+off) (cs.drop off) (xs.drop off) hy (h2.drop off) (fun i x hx=>?_) (fun hs=>?_) (fun hs=>?_)
      · rw[List.getElem?_drop]at hx
        rw[Nat.add_assoc];exact h7 _ x hx
      · rw[hs]at h
        obtain⟨g1,g2⟩:=O3 h;cases g2;refine⟨?_,rfl⟩;simp only[leN,decide_eq_true_eq]at g1;rw[List.length_drop];omega
      rw[hs]at h;simpa using h
    cases h
  · rename_i y cs hy
    cases hx with
    | cptr _ xs b o h1 h2 h3 _ =>
    refine key y b o cs xs hy ⟨h1,h3⟩ (fun i x hx=>(h2 i x hx).cell) (fun hs=>?_) (fun hs=>?_)
    · rw[hs]at h
      obtain⟨g1,g2⟩:=O3 h;cases g2;simp only[leN,decide_eq_true_eq]at g1;exact⟨g1,rfl⟩
    rw[hs]at h;rw[<-List.head?_eq_getElem?];exact h
  cases h
theorem Ext.setCells (hl:∀j,j<ys.length->lab b (o+j)=some (some k)):Ext lab w lab (w.setCells b o ys):=by
 have hsz:∀(ys:List Value) (o:Nat) (w:World),(w.setCells b o ys).heap.size=w.heap.size:=by
  intro ys;induction ys with
  | nil=>intro o w;rfl
  | cons y ys ih=>intro o w;rw[World.setCells,ih,World.size_setCell]
 have hos:∀(ys:List Value) (o:Nat) (w:World),(w.setCells b o ys).os=w.os/\(w.setCells b o ys).tape=w.tape/\(w.setCells b o ys).output=w.output:=by
  intro ys;induction ys with
  | nil=>intro o w;exact⟨rfl,rfl,rfl⟩
  | cons y ys ih=>intro o w;exact ih _ _
 have hbl:∀(ys:List Value) (o:Nat) (w:World) (c:Nat),c≠b ->(w.setCells b o ys).heap[c]? = w.heap[c]?:=by
  intro ys;induction ys with
  | nil=>intro o w c _;rfl
  | cons y ys ih=>intro o w c hc;rw[World.setCells,ih _ _ c hc,heap_setCell_other _ _ _ _ hc]
 refine⟨zGr,(hos ys o w).1,(hos ys o w).2.1,(hos ys o w).2.2,fun _ _ _ h=>h,fun _ _=>.rfl,fun c p hc hlc=>⟨?_,World.frozen?_setCells _ _ _ _ _⟩,fun c hc hlc=>?_⟩
 ·refine World.cell?_setCells_out b ys o w _ (fun hb _=>?_);subst hb;rcases Nat.lt_or_ge p o with h|h
  ·grind
  right;rcases Nat.lt_or_ge p (o+ys.length)with h'|h'
  ·have:=hl (p-o) zOm;grind
  omega
 cases ys with
 | nil=>rfl
 | cons y ys =>
  refine hbl _ _ _ c ?_;rintro rfl;exact absurd (hl 0 zSi) (hlc _ k)
theorem U8 (h:c=b->p<o∨o+ys.length<=p):cellAt (w.setCells b o ys) c p=cellAt w c p :=
 World.cell?_setCells_out b ys o w _ zGr
theorem a4X.setCells (h:a4X lab w k c p):a4X lab (w.setCells b o ys) k c p:=by
 refine⟨h.lab,by rw[World.frozen?_setCells];exact h.free,?_⟩;obtain⟨x,hx⟩:=h.cell;by_cases hc:c=b/\o<=p/\p<o+ys.length
 ·obtain⟨rfl,h1,h2⟩:=hc;have:∀(ys:List Value) (o:Nat) (w:World),(w.cell? ⟨c,p,none⟩).isSome=true ->((w.setCells c o ys).cell? ⟨c,p,none⟩).isSome=true:=by
   intro ys;induction ys with
   | nil=>intro o w h;exact h
   | cons y ys ih =>
    intro o w h;refine ih _ _ ?_;by_cases hp:(⟨c,o,none⟩:Addr) =⟨c,p,none⟩
    ·obtain⟨u,hu⟩:=Option.isSome_iff_exists.1 h;rw[hp,World.cell?_setCell_same _ _ _ hu];rfl
    rw[World.cell?_setCell_other _ _ _ _ hp];exact h
  exact Option.isSome_iff_exists.1 (this ys o w (by rw[show w.cell? ⟨c,p,none⟩=some x from hx];rfl))
 refine⟨x,?_⟩;rw[U8 zGr];omega
def RowOk (ρ:Rho)(lab:Lab)(w:World)(k:Nat)(cs:List V):Prop :=
 ∃b o xs,ρ.at_ k=some (some (b,o),none)/\L6 ρ lab w cs xs /\ ∀(i:Nat) (x:Value),xs[i]? = some x->a4X lab w k b (o+i)/\cellAt w b (o+i)=some x
def GrowOk (ρ:Rho)(lab:Lab)(w:World)(k e:Nat)(cs:List V):Prop :=
 ∃base c xs,ρ.at_ k=some (base,some c)/\L6 ρ lab w cs xs/\cs.length<=c*e/\(base=none->c=0)/\(∀x∈xs,x.oneCell'=true)/\(∀v∈cs,NF v) /\
  ∀b o,base=some (b,o) ->(∀i,i<c*e->a4X lab w k b (o+i)) /\ ∀(i:Nat) (x:Value),xs[i]? = some x->cellAt w b (o+i)=some x
def TipOk (ρ:Rho)(lab:Lab)(w:World)(k e n:Nat):Prop :=
 ∃ao cap,ρ.hd k n=some (ao,cap)/\n<=cap/\(ao=none->cap=0)/\(e=0->cap=0) /\
  ∀a,ao=some a->a.spot=none /\ ∀i,n*e<=i->i<cap*e->a4X lab w k a.block (a.off+i)
def a8g (ρ:Rho)(lab:Lab)(w:World)(k:Nat):Obj->Prop | .row cs=>RowOk ρ lab w k cs | .grow e cs=>GrowOk ρ lab w k e cs | .tip e n=>TipOk ρ lab w k e n | .mp es=>∃b ms c,ρ.at_ k=some (some (b,0),none)/\b5b ρ lab w es ms.toList/\a8E lab w k b ms c | .gone=>True
theorem Sim.obj (hS:Sim ρ lab H w){o:Obj}(h:hget k H=some o):a8g ρ lab w k o:=by
 cases o with
 | row cs=>exact hS.row k cs h
 | grow e cs=>exact hS.grow k e cs h
 | tip e n=>exact hS.tip k e n h
 | mp es=>exact hS.mp k es h
 | gone=>trivial
theorem Sim.mk' (hkp:Kp lab w)(h:∀k o,hget k H=some o->a8g ρ lab w k o)(hd:∀k n x,ρ.hd k n=some x -> ∃e m,hget k H=some (.tip e m)/\n<=m)
  (ha:∀k x,ρ.at_ k=some x->hget k H≠none) (hl:∀b o k,lab b o=some k->b<w.heap.size):Sim ρ lab H w :=
 ⟨hkp,fun k cs hk=>h k _ hk,fun k e cs hk=>h k _ hk,fun k e n hk=>h k _ hk,fun k es hk=>h k _ hk,hd,ha,hl⟩
theorem a9L {b:Nat}{ms:Array MapEntry}{c B:Nat}:∀{l:List Value} {p:Nat} {w:World},w.heap[b]? = some (.map ms c) ->(w.setCells B p l).heap[b]? = some (.map ms c)
 | [],_,_,h=>h
 | v::r,p,w,h=>by
  rw[World.setCells];refine a9L ?_;simp only[World.setCell,Array.getElem?_modify,h,Option.map_some];grind
theorem a8E.setCells {B:Nat}{l:List Value}(h:a8E lab w k b ms c):a8E lab (w.setCells B p l) k b ms c:=⟨h.lab,a9L h.blk⟩
theorem a8E.lt (h:a8E lab w k b ms c):b<w.heap.size:=by
 rcases Nat.lt_or_ge b w.heap.size with q|q
 ·exact q
 have:=h.blk;grind
theorem a8g.carry {ρ':Rho}{lab':Lab}{w':World}{o:Obj}(h:a8g ρ lab w k o)(E:Ext lab w lab' w')(hρ:ρ.le ρ')
  (hO:∀b p,a4X lab w k b p->a4X lab' w' k b p/\cellAt w' b p=cellAt w b p) (hM:∀b ms c,a8E lab w k b ms c->a8E lab' w' k b ms c):a8g ρ' lab' w' k o:=by
 cases o with
 | row cs =>
  obtain⟨b,o,xs,h1,h2,h3⟩:=h;exact⟨b,o,xs,hρ.at_ _ _ h1,h2.ext E hρ,fun i x hx=>⟨(hO _ _ (h3 i x hx).1).1,(hO _ _ (h3 i x hx).1).2.trans (h3 i x hx).2⟩⟩
 | grow e cs =>
  obtain⟨base,c,xs,h1,h2,h3,h4,h8,h9,h5⟩:=h;refine⟨base,c,xs,hρ.at_ _ _ h1,h2.ext E hρ,h3,h4,h8,h9,fun b o hb=>?_⟩;obtain⟨h6,h7⟩:=h5 b o hb;refine⟨fun i hi=>(hO _ _ (h6 i hi)).1,fun i x hx=>?_⟩;have hi:i<c*e:=by
   have:i<xs.length:=by
    grind
   rw[h2.1]at this;omega
  grind
 | tip e n =>
  obtain⟨ao,cap,h1,h2,h3,h4,h5⟩:=h;exact⟨ao,cap,hρ.hd _ _ _ h1,h2,h3,h4,fun a ha=>⟨(h5 a ha).1,fun i hi hj=>(hO _ _ zGr).1⟩⟩
 | mp es =>
  obtain⟨b,ms,c,h1,h2,h3⟩:=h;exact⟨b,ms,c,hρ.at_ _ _ h1,h2.ext E hρ,hM _ _ _ h3⟩
 | gone=>trivial
theorem c57 {x:Value}(h:Rel ρ lab w v x)(hc:b8t v=true):x.oneCell'=true:=by
 cases h<;>first|rfl|cases hc
theorem cells_one {x:Value}(h:Rel ρ lab w v x)(hc:(cellsOf v).all b8t=true):v ≠ .undef/\L6 ρ lab w (cellsOf v) x.cells.toList /\ ∀y∈x.cells.toList,y.oneCell'=true:=by
 have hu:v ≠ .undef:=by rintro rfl;simp[cellsOf,b8t]at hc
 have hr:=L6.of_cells h hu;refine⟨hu,hr,fun y hy=>?_⟩;obtain⟨i,hi,rfl⟩:=List.mem_iff_getElem.1 hy;have hi':i<(cellsOf v).length:=by rw[<-hr.1];omega
 exact c57 (hr.2 i (cellsOf v)[i] _ zGr zSi) zGr
theorem c0W (hT:TOk P T) (hS:Sim ρ lab H w) {va:Value} {H':Hp} (hx:Rel ρ lab w x xa) (hv:Rel ρ lab w v va) (h:a7e T t x v H = some H') :
    ∃w',(Instr.storeAt t xa va).run P w=.ok () w'/\Sim ρ lab H' w'/\Ext lab w lab w':=by
  unfold a7e at h;split at h
  · rename_i y r off hy
    have hk:=hT t y hy;split at h
    · rename_i hsz hall
      have hsz:=Nat.eq_of_beq_eq_true hsz;obtain⟨hu,hr,hone⟩:=cells_one hv hall;have hlen:va.cells.size=y.size:=by rw[<-hsz,<-hr.1,Array.length_toList]
      have key:∀ (b p:Nat) (o':Obj),(∀ j,j < va.cells.toList.length -> a4X lab w r b (p + j)) -> (∀ e n,hget r H ≠ some (.tip e n)) ->
          ((∀(q:Nat),a4X lab w r b q->a4X lab (w.setCells b p va.cells.toList) r b q)->L6 ρ lab (w.setCells b p va.cells.toList) (cellsOf v) va.cells.toList->Ext lab w lab (w.setCells b p va.cells.toList) ->
            a8g ρ lab (w.setCells b p va.cells.toList) r o') ->
          (storeVar t ⟨b,p,none⟩ va).run P w=.ok () (w.setCells b p va.cells.toList)/\Sim ρ lab (hset r o' H) (w.setCells b p va.cells.toList)/\Ext lab w lab (w.setCells b p va.cells.toList):=by
        intro b p o' hcell hnt hobj;have E:Ext lab w lab _:=Ext.setCells  (fun j hj=>(hcell j hj).lab);refine⟨?_,?_,E⟩
        · have:=run_storeCells_cells (P:=P) b p va.cells.toList 0 w (fun j hj=>by
              obtain⟨u,hu⟩:=(hcell j hj).cell;rw[show p+0+j=p+j from zOm,show w.cell? ⟨b,p+j,none⟩=some u from hu];rfl)
            (fun j hj=>by exact(hcell j hj).free) hone
          simp only[storeVar,Sem.run_bind,a1H hk,Result.andThen_ok,hlen,ne_eq,not_true_eq_false,if_false,this];rfl
        refine Sim.mk' (hS.kp.ext E) (fun k o hk=>?_) (fun k n x hx=>?_) (fun k x hx=>?_) (fun b' o k hl=>?_)
        · rw[F4]at hk
          split at hk
          · rename_i hkr
            cases hk;subst hkr;exact hobj (fun q hq=>hq.setCells) (hr.ext E (.refl ρ)) E
          rename_i hkr;refine(hS.obj hk).carry E (.refl ρ) (fun b' q hq=>⟨hq.setCells,U8 (fun hb=>?_)⟩) (fun _ _ _ hq=>hq.setCells);subst hb;rcases Nat.lt_or_ge q p with h|h
          · grind
          right;rcases Nat.lt_or_ge q (p+va.cells.toList.length)with h'|h'
          · have:=(hcell (q-p) zOm).lab
            rw[show p+(q-p)=q from zOm,hq.lab]at this;cases this;exact absurd rfl hkr
          exact h'
        · obtain⟨e,m,h1,h2⟩:=hS.hdom k n x hx
          refine⟨e,m,?_,h2⟩;rw[F4,if_neg]
          · exact h1
          rintro rfl;exact hnt e m h1
        · rw[F4]
          split
          · simp
          exact hS.adom k x hx
        exact Nat.lt_of_lt_of_le (hS.ldom b' o k hl) E.size
      cases hx with
      | ptr _ _ b o c hat =>
      split at h
      · rename_i cs hg
        obtain⟨g1,g2⟩:=O3 h;cases g2;have g1:=Nat.le_of_ble_eq_true g1;obtain⟨b',o',xs,h1,h2,h3⟩:=hS.row r cs hg;rw[hat]at h1;simp only[Option.some.injEq,Prod.mk.injEq]at h1;obtain⟨⟨rfl,rfl⟩,rfl⟩:=h1;have hcell:∀i,i<xs.length->a4X lab w r b (o+i):=fun i hi=>(h3 i xs[i] (by simp[hi])).1;obtain ⟨k1,k2,k3⟩:=key b (o + off) (.row (R9 cs off (cellsOf v))) (fun j hj=>by
            rw[Nat.add_assoc];refine hcell _ ?_;rw[h2.1];rw[Array.length_toList]at hj;omega) (by rw[hg];simp) (fun hq hrel E=>by
            refine⟨b,o,xs.take off++va.cells.toList++xs.drop (off+va.cells.toList.length),hat,(h2.ext E (.refl ρ)).R9 hrel off,fun i x hx=>?_⟩;have hvl:va.cells.toList.length=y.size:=by rw[Array.length_toList];exact hlen
            have hxl:xs.length=cs.length:=h2.1;have hi:i<xs.length:=by
              have:i<(xs.take off++va.cells.toList++xs.drop (off+va.cells.toList.length)).length:=by
                rcases Nat.lt_or_ge i (xs.take off++va.cells.toList++xs.drop (off+va.cells.toList.length)).length with h|h
                · exact h
                rw[List.getElem?_eq_none h]at hx;cases hx
              simp only[List.length_append,List.length_take,List.length_drop]at this;omega
            refine⟨hq _ (hcell i hi),?_⟩;rw[List.getElem?_append,List.getElem?_append]at hx;simp only[List.length_append,List.length_take,Nat.min_eq_left (show off<=xs.length from zOm)]at hx;by_cases c1:i<off
            · rw[if_pos zOm,if_pos c1,List.getElem?_take,if_pos c1]at hx
              rw[U8 (fun _=>zOm)];exact(h3 i x hx).2
            by_cases c2:i<off+va.cells.toList.length
            · rw[if_pos c2,if_neg c1]at hx
              have:=World.cell?_setCells_in b va.cells.toList (o+off) w (fun j hj=>by
                obtain⟨u,hu⟩:=(hcell (off+j) zOm).cell;rw[Nat.add_assoc,show w.cell? ⟨b,o+(off+j),none⟩=some u from hu];rfl) (i-off) zOm
              show World.cell? _ _=_;rw[show o+i=o+off+(i-off)from zOm,this,<-hx];simp
            rw[if_neg c2,List.getElem?_drop,show off+va.cells.toList.length+(i-(off+va.cells.toList.length))=i from zOm]at hx;rw[U8 (fun _=>zOm)];exact(h3 i x hx).2)
        exact⟨_,by simp only[Instr.storeAt,Instr.sureAddr,Sem.run_bind,Sem.run_pure,Result.andThen_ok,k1],k2,k3⟩
      · rename_i e cs hg
        split at h
        · rename_i l hl
          obtain⟨g1,g2⟩:=O3 h;cases g2;simp only[leN,decide_eq_true_eq]at g1;obtain⟨base,c',xs,h1,h2,h3,h4,h8,h9,h5⟩:=hS.grow r e cs hg;rw[hat]at h1;simp only[Option.some.injEq,Prod.mk.injEq]at h1;obtain⟨rfl,rfl⟩:=h1;obtain⟨h6,h7⟩:=h5 b o rfl;obtain ⟨k1,k2,k3⟩:=key b (o + off) (.grow e (R9 cs off l)) (fun j hj=>by
              rw[Nat.add_assoc];refine h6 _ ?_;rw[Array.length_toList]at hj;omega) (by rw[hg];simp) (fun hq hrel E=>by
              have hll:l.length =(cellsOf v).length:=a6Z hl;have hvl:va.cells.toList.length=y.size:=by rw[Array.length_toList];exact hlen
              have hxl:xs.length=cs.length:=h2.1;refine⟨some (b,o),c',xs.take off++va.cells.toList++xs.drop (off+va.cells.toList.length),hat,(h2.ext E (.refl ρ)).R9 (b0a hl hrel) off,?_,h4,(fun x hx=>by
                simp only[List.mem_append]at hx;rcases hx with(hx|hx)|hx
                · exact h8 x (List.mem_of_mem_take hx)
                · exact hone x hx
                · exact h8 x (List.mem_of_mem_drop hx)),(fun u hu=>by
                simp only[R9,List.mem_append]at hu;rcases hu with(hu|hu)|hu
                · exact h9 u (List.mem_of_mem_take hu)
                · exact b1w hl hr u hu
                exact h9 u (List.mem_of_mem_drop hu)),fun b' o' hb=>?_⟩
              · have:(R9 cs off l).length = cs.length:=by
                  unfold R9;simp only[List.length_append,List.length_take,List.length_drop];omega
                omega
              cases hb;refine⟨fun i hi=>hq _ (h6 i hi),fun i x hx=>?_⟩;rw[List.getElem?_append,List.getElem?_append]at hx;simp only[List.length_append,List.length_take,Nat.min_eq_left (show off<=xs.length from zOm)]at hx;by_cases c1:i<off
              · rw[if_pos zOm,if_pos c1,List.getElem?_take,if_pos c1]at hx
                rw[U8 (fun _=>zOm)];exact h7 i x hx
              by_cases c2:i<off+va.cells.toList.length
              · rw[if_pos c2,if_neg c1]at hx
                have:=World.cell?_setCells_in b va.cells.toList (o+off) w (fun j hj=>by
                  obtain⟨u,hu⟩:=(h6 (off+j) zOm).cell;rw[Nat.add_assoc,show w.cell? ⟨b,o+(off+j),none⟩=some u from hu];rfl) (i-off) zOm
                show World.cell? _ _=_;rw[show o+i=o+off+(i-off)from zOm,this,<-hx];simp
              rw[if_neg c2,List.getElem?_drop,show off+va.cells.toList.length+(i-(off+va.cells.toList.length))=i from zOm]at hx;rw[U8 (fun _=>zOm)];exact h7 i x hx)
          exact⟨_,by simp only[Instr.storeAt,Instr.sureAddr,Sem.run_bind,Sem.run_pure,Result.andThen_ok,k1],k2,k3⟩
        cases h
      cases h
    cases h
  cases h
end
variable {H':Hp} {B b hi j k lo t:Nat} {c l v:V} {ca la:Value} {w':World}
section
variable {P:Program} {T:List (Nat×Ty)} {ρ:Rho} {lab:Lab} {w:World} {H:Hp} {fr:Fr} {a:Act}
def Rho.setAt (ρ:Rho)(k:Nat)(x:Option (Nat×Nat)×Option Nat):Rho:=⟨fun j=>if j=k then some x else ρ.at_ j,ρ.hd⟩
def Rho.b3x (ρ:Rho)(k n:Nat)(x:Option Addr×Nat):Rho:=⟨ρ.at_,fun j m=>if j=k/\m=n then some x else ρ.hd j m⟩
theorem Rho.b3e (h:ρ.at_ k=none)(x:Option (Nat×Nat)×Option Nat):ρ.le (ρ.setAt k x) :=
 ⟨fun j y hj=>by
  simp only[Rho.setAt];grind,fun _ _ _ h=>h⟩
theorem Rho.b8z {n:Nat}(h:ρ.hd k n=none)(x:Option Addr×Nat):ρ.le (ρ.b3x k n x) :=
 ⟨fun _ _ h=>h,fun j m y hj=>by
  simp only[Rho.b3x];grind⟩
theorem Sim.b7w (hS:Sim ρ lab H w)(h:hget k H=none):ρ.at_ k=none:=by
 cases hk:ρ.at_ k with
 | none=>rfl
 | some x=>exact absurd h (hS.adom k x hk)
def Lab.new (lab:Lab)(B k lo hi:Nat):Lab:=fun b o=>if b=B then(if lo<=o/\o<hi then some (some k)else none)else lab b o
theorem Ext.new (hS:Sim ρ lab H w)(g:a15 w w')(hB:w.heap.size<=B):Ext lab w (lab.new B k lo hi) w':=by
 refine⟨g.size,g.os,g.tape,g.output,fun b o hb hl=>?_,fun b o=>?_,fun b o hb _=>⟨g.cell hb o,g.frozen hb o⟩,fun b hb _=>g.blk b hb⟩;rotate_left
 ·simp only[Lab.new];split
  ·constructor
   ·grind
   intro h;have:=hS.ldom _ o none h;omega
  grind
 simp only[Lab.new];grind
theorem a4X.new (g:a15 w w'){o:Nat}(hB:w.heap.size<=B)(h:a4X lab w j b o):a4X (lab.new B k lo hi) w' j b o/\cellAt w' b o=cellAt w b o:=by
 obtain⟨x,hx⟩:=h.cell;have hb:=a1K hx;refine⟨⟨?_,(g.frozen hb o).trans h.free,x,(g.cell hb o).trans hx⟩,g.cell hb o⟩;simp only[Lab.new];rw[if_neg zOm];exact h.lab
theorem a8E.new (g:a15 w w'){ms:Array MapEntry}{c:Nat}(hB:w.heap.size<=B)(h:a8E lab w j b ms c):a8E (lab.new B k lo hi) w' j b ms c:=by
 have hb:=h.lt;refine⟨fun o=>?_,(g.blk b hb).trans h.blk⟩;simp only[Lab.new];rw[if_neg zOm];exact h.lab o
theorem c3C (hS:Sim ρ lab H w)(g:a15 w w')(hB:B<w'.heap.size):∀b o j,lab.new B k lo hi b o=some j->b<w'.heap.size:=by
 intro b o j h;simp only[Lab.new]at h;split at h
 ·grind
 exact Nat.lt_of_lt_of_le (hS.ldom b o j h) g.size
theorem Sim.new (hS:Sim ρ lab H w)(g:a15 w w')(hB:w.heap.size<=B)(hB':B<w'.heap.size){ρ':Rho}(hρ:ρ.le ρ'){o':Obj}(hH:∀j,j≠k->hget j H'=hget j H)(hk:hget k H'=some o')
  (hobj:a8g ρ' (lab.new B k lo hi) w' k o') (hd:∀j n x,ρ'.hd j n=some x -> ∃e m,hget j H'=some (.tip e m)/\n<=m) (ha:∀j x,ρ'.at_ j=some x->hget j H'≠none) :
  Sim ρ' (lab.new B k lo hi) H' w':=by
 refine Sim.mk' (hS.kp.ext (Ext.new hS g hB)) (fun j o hj=>?_) hd ha (c3C hS g hB');by_cases h:j=k
 ·grind
 rw[hH j h]at hj;exact(hS.obj hj).carry (Ext.new hS g hB) hρ (fun b p hq=>hq.new g hB) (fun _ _ _ hq=>hq.new g hB)
theorem a9N (w:World)(c:Array Value)(e:TypeId)(i:Nat):cellAt {w with heap:=w.heap.push (.cells c e)} w.heap.size i=c[i]?:=b6f w c e _ i
theorem a9f (w:World)(c:Array Value)(e:TypeId)(i:Nat):World.frozen? {w with heap:=w.heap.push (.cells c e)} ⟨w.heap.size,i,none⟩=false:=by
 simp
theorem c0x (hS:Sim ρ lab H w){t:TypeId}{c:Array Value}{cs:List V}(hk:hget k H=none)(hr:L6 ρ lab w cs c.toList) :
  Sim (ρ.setAt k (some (w.heap.size,0),none)) (lab.new w.heap.size k 0 c.size) (hset k (.row cs) H) {w with heap:=w.heap.push (.cells c t)} /\
  Ext lab w (lab.new w.heap.size k 0 c.size) {w with heap:=w.heap.push (.cells c t)}/\ρ.le (ρ.setAt k (some (w.heap.size,0),none)) /\
  Rel (ρ.setAt k (some (w.heap.size,0),none)) (lab.new w.heap.size k 0 c.size) {w with heap:=w.heap.push (.cells c t)} (.ptr k 0) (.pointer (some ⟨w.heap.size,0,none⟩)):=by
 have g:=a15.push w (.cells c t);have E:Ext lab w (lab.new w.heap.size k 0 c.size) {w with heap:=w.heap.push (.cells c t)}:=Ext.new hS g zOm;have hle:=Rho.b3e (hS.b7w hk) (some (w.heap.size,0),none);have hat:(ρ.setAt k (some (w.heap.size,0),none)).at_ k=some (some (w.heap.size,0),none):=by simp[Rho.setAt]
 refine⟨Sim.new hS g zOm zSi hle (fun j hj=>by rw[F4,if_neg hj]) (by rw[F4,if_pos rfl]) ?_ ?_ ?_,E,hle,.ptr k 0 w.heap.size 0 none hat⟩
 ·refine⟨w.heap.size,0,c.toList,hat,hr.ext E hle,fun i x hx=>?_⟩;have hi:i<c.size:=by
   grind
  have hc:cellAt {w with heap:=w.heap.push (.cells c t)} w.heap.size (0+i)=some x:=by rw[a9N,Nat.zero_add];grind
  exact⟨⟨by simp[Lab.new,hi],a9f w c t _,x,hc⟩,hc⟩
 ·intro j n x h;obtain⟨e,m,h1,h2⟩:=hS.hdom j n x h;refine⟨e,m,?_,h2⟩;rw[F4,if_neg]
  ·grind
  grind
 intro j x h;rw[F4];split
 ·simp
 rename_i hj;simp only[Rho.setAt,if_neg hj]at h;exact hS.adom j x h
theorem flat_get (L:List V):∀(n i:Nat),i<n*L.length ->(List.replicate n L).flatten[i]? = L[i%L.length]?
 | 0,i,h=>zGr
 | n+1,i,h=>by
  rw[List.replicate_succ,List.flatten_cons,List.getElem?_append];split
  ·rename_i hi;rw[Nat.mod_eq_of_lt hi]
  rw[flat_get L n _ zGr,Nat.mod_eq_sub_mod (show L.length<=i from zOm)]
theorem make_run (hT:TOk P T)(hS:Sim ρ lab H w)(hl:Rel ρ lab w l la)(hc:Rel ρ lab w c ca)(h:c04 T t l c H k=some (.val v H')) :
  ∃z w' ρ' lab',(Instr.makeSlice t la ca).run P w=.ok z w'/\Sim ρ' lab' H' w'/\Ext lab w lab' w'/\ρ.le ρ'/\Rel ρ' lab' w' v z:=by
 unfold c04 at h;split at h
 ·rename_i y kl l kc c hy;cases hl;cases hc;have hsh:=(hT t y hy).sh;split at h
  ·rename_i e hs;rw[hs]at hsh;split at h
   ·rename_i ye hye hgk;obtain⟨h1,h2⟩:=O3 h;simp only[Bool.and_eq_true,leB,decide_eq_true_eq]at h1;obtain⟨⟨h3,h4⟩,h5⟩:=h1;split at h2
    ·rename_i zc hzc;split at h2
     ·rename_i hzl;have hzl:=Nat.eq_of_beq_eq_true hzl;cases h2;have hke:=hT e ye hye;obtain⟨i,z0,i1,i2,i3,i4,_⟩:=hke.info;obtain⟨z,hz1,hz2,hz3,_,_⟩:=b0n     hke;have hb:c*ye.bytes<=70368744177664:=by
       grind
      have hcb:c<=70368744177664:=by
       have:c*(ye.bytes+1)=c*ye.bytes+c:=zGr;have:0<=c*ye.bytes:=Int.mul_nonneg zOm zOm;omega
      have hwl :=IntWalk.i64_in l zOm;have hwc :=IntWalk.i64_in c zOm;let zero :=if c.toNat*ye.size=0 then #[]else z.cells
      let cells :=(Array.range (c.toNat*ye.size)).map (zero[· % zero.size]!);have hcsz:cells.size=c.toNat*ye.size:=zGr;have hgetc:∀i,i<c.toNat*ye.size->cells[i]? = some (z.cells[i%ye.size]!):=by
       grind
      have hlc:l.toNat*ye.size<=c.toNat*ye.size:=Nat.mul_le_mul_right _ zOm;have hrel:L6 ρ lab w (List.replicate l.toNat zc).flatten (cells.toList.take (l.toNat*ye.size)):=by
       have hfl:(List.replicate l.toNat zc).flatten.length=l.toNat*ye.size:=by simp[hzl]
       refine⟨zGr,fun i v x hv hx=>?_⟩;have hi:i<l.toNat*ye.size:=by
        grind
       rw[flat_get zc _ i (by rw[hzl];exact hi),hzl]at hv;rw[List.getElem?_take,if_pos hi,Array.getElem?_toList,hgetc i zOm]at hx;cases hx;have hpos:0<ye.size:=by
        rcases Nat.eq_zero_or_pos ye.size with h|h
        ·rw[h]at hi;omega
        exact h
       have hm:i%ye.size<z.cells.size:=by rw[hz3];exact Nat.mod_lt _ hpos
       have hpl:=b0a hzc hz2;refine hpl.2 (i%ye.size) v _ hv ?_;simp[hm]
      have hone:∀x∈cells.toList.take (l.toNat*ye.size),x.oneCell'=true:=by
       intro x hx;obtain⟨i,hi,rfl⟩:=List.mem_iff_getElem.1 hx;have hi2:i<l.toNat*ye.size:=by rw[List.length_take]at hi;omega
       have e:(cells.toList.take (l.toNat*ye.size))[i]? = some (z.cells[i%ye.size]!):=by
        rw[List.getElem?_take,if_pos hi2,Array.getElem?_toList,hgetc i zOm]
       have hpos:0<ye.size:=by
        rcases Nat.eq_zero_or_pos ye.size with h|h
        ·rw[h]at hi2;omega
        exact h
       have hm:i%ye.size<z.cells.size:=by rw[hz3];exact Nat.mod_lt _ hpos
       rw[List.getElem?_eq_getElem hi,Option.some.injEq]at e;rw[e];apply b4S hzc hz2;rw[show z.cells[i%ye.size]! = z.cells[i%ye.size]from getElem!_pos z.cells _ hm];exact Array.getElem_mem_toList hm
      have g:=a15.push w (.cells cells e);have hle:=Rho.b3e (hS.b7w hgk) (some (w.heap.size,0),some c.toNat);have hat:(ρ.setAt k (some (w.heap.size,0),some c.toNat)).at_ k=some (some (w.heap.size,0),some c.toNat):=by simp[Rho.setAt]
      have E:Ext lab w (lab.new w.heap.size k 0 cells.size) {w with heap:=w.heap.push (.cells cells e)}:=Ext.new hS g (Nat.le_refl _);refine⟨.slice (some ⟨w.heap.size,0,none⟩) l.toNat c.toNat,{w with heap:=w.heap.push (.cells cells e)},_,lab.new w.heap.size k 0 cells.size,?_,?_,E,hle,?_⟩
      ·have t1:(decide (c<0)||decide (↑ye.bytes*c>2^48))=false:=by
        rw[Int.mul_comm]at hb;simp;omega
       have hcond:((decide (c<0)||decide (↑ye.bytes*c>2^48))||decide (l<0)||decide (l>c))=false:=by
        rw[t1];simp;omega
       simp only[Instr.makeSlice,asInt,asIntOf,Sem.run_bind,Sem.run_pure,K6 hsh,Result.andThen_ok,a7y i1,i3,hwl,hwc,hcond,Bool.false_eq_true,if_false,run_askRoom,a1H hke];by_cases h0:c.toNat*ye.size=0
       ·have e1:cells =(Array.range (c.toNat*ye.size)).map ((#[]:Array Value)[· % (#[]:Array Value).size]!):=by simp only[cells,zero,if_pos h0]
        simp only[if_pos h0,Sem.run_pure,Result.andThen_ok,newRow,Sem.run_bind,run_newObj,<-e1]
       have e1:cells =(Array.range (c.toNat*ye.size)).map (z.cells[· % z.cells.size]!):=by simp only[cells,zero,if_neg h0]
       simp only[if_neg h0,Sem.run_bind,hz1,Sem.run_pure,Result.andThen_ok,newRow,run_newObj,<-e1]
      ·refine Sim.new hS g (Nat.le_refl _) zSi hle (fun j hj=>by rw[F4,if_neg hj]) (by rw[F4,if_pos rfl]) ?_ ?_ ?_
       ·refine⟨some (w.heap.size,0),c.toNat,_,hat,hrel.ext E hle,?_,zSi,hone,(fun u hu=>by
         obtain⟨l',hl',hu⟩:=List.mem_flatten.1 hu;rw[List.mem_replicate]at hl';rw[hl'.2]at hu;exact b1w hzc hz2 u hu),fun b o hbo=>?_⟩
        ·simp[hzl];exact Nat.mul_le_mul_right _ zOm
        cases hbo;refine⟨fun i hi=>⟨by simp[Lab.new,hcsz,hi],a9f w cells e _,z.cells[i%ye.size]!,by rw[a9N,Nat.zero_add];exact hgetc i hi⟩,fun i x hx=>?_⟩;rw[a9N,Nat.zero_add];rw[List.getElem?_take]at hx;split at hx
        ·simpa using hx
        cases hx
       ·intro j n x h;obtain⟨e',m,h1,h2⟩:=hS.hdom j n x h;refine⟨e',m,?_,h2⟩;rw[F4,if_neg]
        ·exact h1
        rintro rfl;rw[hgk]at h1;cases h1
       intro j x h;rw[F4];split
       ·simp
       rename_i hj;simp only[Rho.setAt,if_neg hj]at h;exact hS.adom j x h
      exact .rslice k 0 l.toNat true _ _ _ _ hat zOm (fun _=>rfl) (fun _=>⟨rfl,rfl⟩) (fun _=>zSi)
     cases h2
    cases h2
   cases h
  cases h
 cases h
theorem c8v (hT:TOk P T)(hS:Sim ρ lab H w)(hz0:isZero l=true)(hl:Rel ρ lab w l la)(hc:Rel ρ lab w c ca)(h:c2w T t c H k=some (.val v H')) :
  ∃z w' ρ' lab',(Instr.makeSlice t la ca).run P w=.ok z w'/\Sim ρ' lab' H' w'/\Ext lab w lab' w'/\ρ.le ρ'/\Rel ρ' lab' w' v z:=by
 obtain⟨kl,rfl⟩:∃kl,l=.int kl 0:=by
  unfold isZero at hz0;grind
 unfold c2w at h;split at h
 ·rename_i y kc c hy;cases hl;cases hc;have hsh:=(hT t y hy).sh;split at h
  ·rename_i e hs;rw[hs]at hsh;split at h
   ·rename_i ye hye hgk;split at h
    ·cases h
    rename_i hsz;have hsz:ye.size≠0:=fun e=>by simp_all
    obtain⟨h1,h2⟩:=O3 h;simp only[Bool.and_eq_true,leB,decide_eq_true_eq]at h1;cases h2;have hke:=hT e ye hye;obtain⟨i,z0,i1,i2,i3,i4,_⟩:=hke.info;obtain⟨z,hz1,hz2,hz3,_,_⟩:=b0n  (ρ:=ρ) (lab:=lab) (w:=w) hke;have hb:c*ye.bytes<=70368744177664:=by
     grind
    have hcb:c<=70368744177664:=by
     have:c*(ye.bytes+1)=c*ye.bytes+c:=zGr;have:0<=c*ye.bytes:=Int.mul_nonneg zOm zOm;omega
    have hwl :=IntWalk.i64_in 0 zGr;have hwc :=IntWalk.i64_in c zOm;let zero :=if c.toNat*ye.size=0 then #[]else z.cells
    let cells :=(Array.range (c.toNat*ye.size)).map (zero[· % zero.size]!);have hcsz:cells.size=c.toNat*ye.size:=zGr;have g:=a15.push w (.cells cells e);have hnone:ρ.hd k 0=none:=by
     cases hh:ρ.hd k 0 with
     | none=>rfl
     | some x =>
      obtain⟨e',m',k1,k2⟩:=hS.hdom k 0 x hh;grind
    have hle:=Rho.b8z hnone (some ⟨w.heap.size,0,none⟩,c.toNat);have hhd:(ρ.b3x k 0 (some ⟨w.heap.size,0,none⟩,c.toNat)).hd k 0=some (some ⟨w.heap.size,0,none⟩,c.toNat):=by simp[Rho.b3x]
    have E:Ext lab w (lab.new w.heap.size k 0 (c.toNat*ye.size)) {w with heap:=w.heap.push _}:=Ext.new hS g zOm;refine⟨.slice (some ⟨w.heap.size,0,none⟩) 0 c.toNat,{w with heap:=w.heap.push _},_,lab.new w.heap.size k 0 _,?_,?_,E,hle,?_⟩
    ·have t1:(decide (c<0)||decide (↑ye.bytes*c>2^48))=false:=by
      rw[Int.mul_comm]at hb;simp;omega
     have hcond:((decide (c<0)||decide (↑ye.bytes*c>2^48))||decide ((0:Int)<0)||decide ((0:Int)>c))=false:=by
      rw[t1];simp;omega
     simp only[Instr.makeSlice,asInt,asIntOf,Sem.run_bind,Sem.run_pure,K6 hsh,Result.andThen_ok,a7y i1,i3,hwl,hwc,hcond,Bool.false_eq_true,if_false,run_askRoom,a1H hke];by_cases h0:c.toNat*ye.size=0
     ·have e1:cells =(Array.range (c.toNat*ye.size)).map ((#[]:Array Value)[· % (#[]:Array Value).size]!):=by simp only[cells,zero,if_pos h0]
      simp only[if_pos h0,Sem.run_pure,Result.andThen_ok,newRow,Sem.run_bind,run_newObj,<-e1];rfl
     have e1:cells =(Array.range (c.toNat*ye.size)).map (z.cells[· % z.cells.size]!):=by simp only[cells,zero,if_neg h0]
     simp only[if_neg h0,Sem.run_bind,hz1,Sem.run_pure,Result.andThen_ok,newRow,run_newObj,<-e1];rfl
    ·refine Sim.new hS g (Nat.le_refl _) zSi hle (fun j hj=>by rw[F4,if_neg hj]) (by rw[F4,if_pos rfl]) ?_ ?_ ?_
     ·refine⟨_,c.toNat,hhd,Nat.zero_le _,zSi,fun h=>absurd h hsz,fun a ha=>?_⟩;cases ha;refine⟨rfl,fun i hi hj=>⟨by simp[Lab.new,hj],a9f w cells e _,?_⟩⟩;refine⟨cells[i]'zOm,?_⟩;rw[a9N,Nat.zero_add];exact Array.getElem?_eq_getElem zOm
     ·intro j n' x h;simp only[Rho.b3x]at h;rw[F4];split at h
      ·rename_i hj;obtain⟨rfl,rfl⟩:=hj;rw[if_pos rfl];exact⟨_,_,rfl,Nat.le_refl _⟩
      obtain⟨e',m',k1,k2⟩:=hS.hdom j n' x h;split
      ·rename_i hj;subst hj;rw[hgk]at k1;cases k1
      exact⟨e',m',k1,k2⟩
     intro j x h;rw[F4];split
     ·simp
     exact hS.adom j x h
    exact .slice _ 0 [] [] w.heap.size 0 _ _ rfl (Nat.zero_le _) zSi zSi zSi zSi hhd zSi zSi
   cases h
  cases h
 cases h
end
variable {ys:List Value} {b cap e m n o t u:Nat} {ye:Ty} {xa:Value} {w0:World}
section
variable {P:Program} {T:List (Nat×Ty)} {ρ:Rho} {lab:Lab} {w:World} {H:Hp} {fr:Fr} {a:Act}
theorem b3L {a:Nat}(h:eqN a b=true):a=b:=by simpa [eqN]using h
theorem a7j {a:Nat}(h:leN a b=true):a<=b:=by simpa [leN]using h
theorem a9S {α:Type}{l:List α}{i:Nat}{x:α}(h:l[i]? = some x):i<l.length:=by
 grind
theorem a9H {xs:List Value}(h:∀(i:Nat) (x:Value),xs[i]? = some x->cellAt w0 b (o+i)=some x) :
  (loadCells ⟨b,o,none⟩ xs.length).run P w0=.ok xs.toArray w0 :=
 run_loadCells_list  w0 ⟨b,o,none⟩ xs (fun j v hv=>by rw[add_zero];exact h j v hv)
theorem src_ok (hT:TOk P T) (hS:Sim ρ lab H w) {x:V} {news:List V} (hye:O7 e T = some ye) (hx:Rel ρ lab w x xa) (h:a7W T e x H = some (m,news)) :
    ∃ys,L6 ρ lab w news ys/\(∀y∈ys,y.oneCell'=true)/\(∀v∈news,NF v)/\ys.length=m*ye.size/\(∀w0,(Builtin.lenOf xa).run P w0=.ok m w0) /\
      ∀w0,(∀b o,b<w.heap.size->cellAt w0 b o=cellAt w b o) ->(Builtin.firstCells ye.size m xa).run P w0=.ok ys.toArray w0:=by
  have key:∀ (ao:Option Addr) (n cap b o:Nat) (xs:List Value),(0 < n -> ao = some ⟨b,o,none⟩) -> xs.length = n * ye.size -> (∀ (i:Nat) (x:Value),xs[i]? = some x -> cellAt w b (o + i) = some x) ->
      (∀w0,(Builtin.lenOf (.slice ao n cap)).run P w0=.ok n w0) /\
      ∀w0,(∀b o,b<w.heap.size->cellAt w0 b o=cellAt w b o) ->(Builtin.firstCells ye.size n (.slice ao n cap)).run P w0=.ok xs.toArray w0:=by
    intro ao n cap b o xs h1 h2 h3;refine⟨fun w0=>rfl,fun w0 hw=>?_⟩;rcases Nat.eq_zero_or_pos n with h0|h0
    · subst h0
      have :=List.length_eq_zero_iff.1 (by simpa using h2);subst this;cases ao with
      | none=>rfl
      | some a=>simp only[Builtin.firstCells,Nat.zero_mul];rfl
    rw[h1 h0];simp only[Builtin.firstCells];rw[<-h2];exact a9H (fun i x hx=>by rw[hw b _ (a1K (h3 i x hx))];grind)
  unfold a7W at h;split at h
  · rw[hye]at h
    obtain⟨h1,h2⟩:=O3 h;cases h2;have h1:=b3L h1;cases hx with
    | slice _ _ _ xs b o ao cap g1 g2 g3 g4 g5 g6 g7 g8 g9 =>
      obtain⟨k1,k2⟩:=key ao m cap b o xs g3 zOm (fun i x hx=>(g5 i x hx).cell);exact⟨xs,⟨g1,g6⟩,g8,g9,zGr,k1,k2⟩
  · rename_i s
    rw[hye]at h;obtain⟨h1,h2⟩:=O3 h;cases h2;have h1:=Nat.eq_of_beq_eq_true h1;cases hx;refine⟨s.map fun b=>.int .u8 b.toNat,⟨by simp[a1n],fun i v x hv hx=>?_⟩,by simp[Value.oneCell'],(by simp only[a1n,List.mem_map];rintro _ ⟨b,_,rfl⟩;exact .int _ _),zGr,fun w0=>rfl,fun w0 _=>?_⟩
    · simp only[a1n,List.getElem?_map]at hv hx
      cases hs:s[i]? with
      | none=>grind
      | some b=>rw[hs]at hv hx;cases hv;cases hx;exact .int _ _
    simp only[Builtin.firstCells,Sem.run_pure];simp_all
  · rename_i r off n wh
    split at h
    · rename_i cs ye' hg hye'
      rw[hye]at hye';cases hye';split at h
      · rename_i l hl
        obtain⟨h1,h2⟩:=O3 h;cases h2;have h1:=b3L h1;obtain⟨b,o,xs,e1,e2,e3⟩:=hS.row r cs hg;cases hx with
        | rslice _ _ _ _ base g ao cap g1 g2 g3 g4 g5 =>
          rw[e1]at g1;cases g1;have hr:=L6.take (L6.drop e2 off) (m*ye.size);have hlen:((xs.drop off).take (m*ye.size)).length=m*ye.size:=by rw[hr.1,<-a6Z hl,h1]
          obtain⟨k1,k2⟩:=key ao m cap b (o+off) ((xs.drop off).take (m*ye.size)) (fun hn=>by rw[g3 (.inl hn)];rfl) hlen (fun i x hx=>by
            rw[List.getElem?_take]at hx;split at hx
            · rw[List.getElem?_drop]at hx
              rw[Nat.add_assoc];exact(e3 _ x hx).2
            cases hx)
          exact⟨_,b0a hl hr,b4S hl hr,b1w hl hr,hlen,k1,k2⟩
      cases h
    · rename_i w' cs ye' hg hye'
      rw[hye]at hye';cases hye';obtain⟨h1,h2⟩:=O3 h;cases h2;have h1:=a7j h1;obtain⟨base',c,xs,e1,e2,e3,e4,e6,e9,e5⟩:=hS.grow r _ cs hg;cases hx with
      | rslice _ _ _ _ base g ao cap g1 g2 g3 g4 g5 =>
        rw[e1]at g1;cases g1;have hr:=L6.take (L6.drop e2 off) (m*ye.size);have hlen:((xs.drop off).take (m*ye.size)).length=m*ye.size:=by rw[List.length_take,List.length_drop,e2.1];omega
        have hone:∀y∈(xs.drop off).take (m*ye.size),y.oneCell'=true:=fun y hy=>e6 y (List.mem_of_mem_drop (List.mem_of_mem_take hy));have hnf:∀v∈(cs.drop off).take (m*ye.size),NF v:=fun v hv=>e9 v (List.mem_of_mem_drop (List.mem_of_mem_take hv));cases base' with
        | none =>
          have hn:m=0:=by
            rcases Nat.eq_zero_or_pos m with h|h
            · exact h
            have:=g3 (.inl h);simp at this;exact absurd this (g5 h)
          subst hn;obtain⟨k1,k2⟩:=key ao 0 cap 0 0 ((xs.drop off).take (0*ye.size)) zOm hlen (fun i x hx=>by simp at hx);exact⟨_,hr,hone,hnf,hlen,k1,k2⟩
        | some p =>
          obtain⟨b,o⟩:=p;obtain⟨e7,e8⟩:=e5 b o rfl;obtain⟨k1,k2⟩:=key ao m cap b (o+off) ((xs.drop off).take (m*ye.size)) (fun hn=>by rw[g3 (.inl hn)];rfl) hlen (fun i x hx=>by
            rw[List.getElem?_take]at hx;split at hx
            · rw[List.getElem?_drop]at hx
              rw[Nat.add_assoc];exact e8 _ x hx
            cases hx)
          exact⟨_,hr,hone,hnf,hlen,k1,k2⟩
    cases h
  cases h
structure App (P:Program)(t u e:Nat)(ye:Ty):Prop where
 ht:P.underlying t=some (.slice e)
 hu:∃d,P.underlying u=some d /\ ∀k,d ≠ .int k
 hk:TyOk P e ye
theorem app_in (A:App P t u e ye)(ty:TypeId)(hl:∀w0,(Builtin.lenOf xa).run P w0=.ok m w0)
  (hf:(Builtin.firstCells ye.size m xa).run P w0=.ok ys.toArray w0) (hone:∀y∈ys,y.oneCell'=true) (hroom:n+m<=cap)
  (hc:∀j,j<ys.length ->(w0.cell? ⟨b,o+n*ye.size+j,none⟩).isSome=true/\w0.frozen? ⟨b,o+n*ye.size+j,none⟩=false) :
  (Builtin.append_ #[t,u] ty #[.slice (some ⟨b,o,none⟩) n cap,xa]).run P w0=.ok (.slice (some ⟨b,o,none⟩) (n+m) cap) (w0.setCells b (o+n*ye.size) ys):=by
 obtain⟨d,hd,hdi⟩:=A.hu;have hst:=run_storeCells_cells (P:=P) b _ ys 0 w0 (fun j hj=>by simpa using(hc j hj).1) zGr hone;simp only[Builtin.append_,List.getElem?_toArray,List.getElem?_cons_zero,List.getElem?_cons_succ,Sem.run_bind,K6 A.ht,Result.andThen_ok,a1H A.hk,K6 hd,Sem.run_pure,Bool.false_eq_true,if_false];simp only[Sem.run_bind,hl,Result.andThen_ok,if_pos hroom,Bool.not_false,if_true,hf,add_zero,Sem.run_pure];simp_all
theorem b7X (A:App P t u e ye){ao:Option Addr}{os:List Value}(ty:TypeId)(hl:∀w0,(Builtin.lenOf xa).run P w0=.ok m w0)
  (hf:∀w1:World,w1.heap=w0.heap ->(Builtin.firstCells ye.size m xa).run P w1=.ok ys.toArray w1) (ho:∀w1:World,w1.heap=w0.heap ->(Builtin.firstCells ye.size n (.slice ao n cap)).run P w1=.ok os.toArray w1)
  (hgrow:cap<n+m) (hb:(n+m)*(ye.bytes+1)<=70368744177664) (hos:os.length=n*ye.size) (hys:ys.length=m*ye.size) :
  ∃(c:Nat) (rest:List Value),n+m<=c/\rest.length =(c-(n+m))*ye.size /\
   (Builtin.append_ #[t,u] ty #[.slice ao n cap,xa]).run P w0=.ok (.slice (some ⟨w0.heap.size,0,none⟩) (n+m) c) {w0 with drawn:=w0.drawn+1,heap:=w0.heap.push (.cells (os++ys++rest).toArray e)}:=by
 obtain⟨d,hd,hdi⟩:=A.hu;obtain⟨i,z,i1,i2,i3,i4,_,i5,_⟩:=A.hk.info;let c:=(Question.appendCap (n+m) cap e).cut (w0.tape w0.drawn (.appendCap (n+m) cap e));have hc:n+m<=c:=by simp only[c,Question.cut];omega
 refine⟨c,(Builtin.zeroCells z.cells (c-(n+m))).toList,hc,by simp[Builtin.zeroCells,i5],?_⟩;have hnm:(n+m)*ye.bytes+(n+m) =(n+m)*(ye.bytes+1):=zGr;have h1:¬((((n+m)))>IntKind.i64.max/\(false=true∨i.bytes=0)):=by
  have:IntKind.i64.max=9223372036854775807:=zDe;omega
 have h2:¬Builtin.nextslicecap (n+m) cap*i.bytes>2^48:=by
  have:=growslice_fits (bytes:=ye.bytes) hgrow zOm;grind
 have hn:¬(n+m<=cap):=zOm;have hfo:(Question.appendCap (n+m) cap e).forced=false:=rfl;simp only[Builtin.append_,List.getElem?_toArray,List.getElem?_cons_zero,List.getElem?_cons_succ,Sem.run_bind,K6 A.ht,Result.andThen_ok,a1H A.hk,K6 hd,Sem.run_pure,Bool.false_eq_true,if_false];simp only[Sem.run_bind,hl,Result.andThen_ok,if_neg hn,a7y i1,Sem.run_pure];rw[if_neg zGr];simp only[Sem.run_bind,a7y i1,Result.andThen_ok];rw[if_neg h2];simp only[Sem.run_bind,run_choose,hfo,Bool.false_eq_true,if_false,Result.andThen_ok,a7y i1,run_askRoom];rw[ho {w0 with drawn:=w0.drawn+1} rfl];simp only[Result.andThen_ok,Bool.not_false,if_true];rw[hf {w0 with drawn:=w0.drawn+1} rfl];simp only[Result.andThen_ok,zeroValue,Sem.run_bind,a7y i1,i4,Sem.run_pure,newRow,run_newObj];congr 3;simp[c]
end
section
variable {P:Program} {T:List (Nat×Ty)} {ρ:Rho} {lab:Lab} {w:World} {H:Hp} {fr:Fr} {a:Act}
theorem c5I (hS:Sim ρ lab H w) {r e off c b o:Nat} {cs vs:List V} {ys:List Value} (hg:hget r H = some (.grow e cs)) (hat:ρ.at_ r = some (some (b,o),some c)) (hr:L6 ρ lab w vs ys)
    (hone:∀y∈ys,y.oneCell'=true) (hnf:∀v∈vs,NF v) (hlen:off+vs.length<=cs.length) :
    (storeCells ⟨b,o+off,none⟩ ys).run P w=.ok () (w.setCells b (o+off) ys)/\Sim ρ lab (hset r (.grow e (R9 cs off vs)) H) (w.setCells b (o+off) ys)/\Ext lab w lab (w.setCells b (o+off) ys):=by
  obtain⟨base,c',xs,h1,h2,h3,h4,h8,h9,h5⟩:=hS.grow r e cs hg;rw[hat]at h1;simp only[Option.some.injEq,Prod.mk.injEq]at h1;obtain⟨rfl,rfl⟩:=h1;obtain⟨h6,h7⟩:=h5 b o rfl;have hvl:ys.length=vs.length:=hr.1;have hxl:xs.length=cs.length:=h2.1;have hcell:∀j,j<ys.length->a4X lab w r b (o+off+j):=fun j hj=>by
    rw[Nat.add_assoc];exact h6 _ zOm
  have E:Ext lab w lab (w.setCells b (o+off) ys):=Ext.setCells (k:=r) (fun j hj=>(hcell j hj).lab);refine⟨?_,?_,E⟩
  · have:=run_storeCells_cells (P:=P) b (o + off) ys 0 w (fun j hj=>by
      obtain⟨u,hu⟩:=(hcell j hj).cell;rw[show o+off+0+j=o+off+j from zOm,show w.cell? ⟨b,o+off+j,none⟩=some u from hu];rfl)
      (fun j hj=>by rw[show o+off+0+j=o+off+j from zOm];exact(hcell j hj).free) hone
    exact this
  refine Sim.mk' (hS.kp.ext E) (fun k o2 hk=>?_) (fun k n x hx=>?_) (fun k x hx=>?_) (fun b' o2 k hl=>?_)
  · rw[F4]at hk
    split at hk
    · rename_i hkr
      cases hk;subst hkr;have hq:∀(q:Nat),a4X lab w k b q->a4X lab (w.setCells b (o+off) ys) k b q:=fun q hq=>hq.setCells;have hrel:L6 ρ lab (w.setCells b (o+off) ys) vs ys:=hr.ext E (.refl ρ);refine ⟨some (b,o),c,xs.take off ++ ys ++ xs.drop (off + ys.length),hat,?_,?_,h4,(fun x hx=>by
          simp only[List.mem_append]at hx;rcases hx with(hx|hx)|hx
          · exact h8 x (List.mem_of_mem_take hx)
          · exact hone x hx
          · exact h8 x (List.mem_of_mem_drop hx)),(fun u hu=>by
          simp only[R9,List.mem_append]at hu;rcases hu with(hu|hu)|hu
          · exact h9 u (List.mem_of_mem_take hu)
          · exact hnf u hu
          exact h9 u (List.mem_of_mem_drop hu)),fun b' o' hb=>?_⟩
      · exact(h2.ext E (.refl ρ)).R9 hrel off
      · have:(R9 cs off vs).length = cs.length:=by
          unfold R9;simp only[List.length_append,List.length_take,List.length_drop];omega
        omega
      cases hb;refine⟨fun i hi=>hq _ (h6 i hi),fun i x hx=>?_⟩;rw[List.getElem?_append,List.getElem?_append]at hx;simp only[List.length_append,List.length_take,Nat.min_eq_left (show off<=xs.length from zOm)]at hx;by_cases c1:i<off
      · rw[if_pos zOm,if_pos c1,List.getElem?_take,if_pos c1]at hx
        rw[U8 (fun _=>zOm)];exact h7 i x hx
      by_cases c2:i<off+ys.length
      · rw[if_pos c2,if_neg c1]at hx
        have:=World.cell?_setCells_in b ys (o+off) w (fun j hj=>by
          obtain⟨u,hu⟩:=(h6 (off+j) zOm).cell;rw[Nat.add_assoc,show w.cell? ⟨b,o+(off+j),none⟩=some u from hu];rfl) (i-off) zOm
        show World.cell? _ _=_;rw[show o+i=o+off+(i-off)from zOm,this,<-hx];simp
      rw[if_neg c2,List.getElem?_drop,show off+ys.length+(i-(off+ys.length))=i from zOm]at hx;rw[U8 (fun _=>zOm)];exact h7 i x hx
    rename_i hkr;refine(hS.obj hk).carry E (.refl ρ) (fun b' q hq=>⟨hq.setCells,U8 (fun hb=>?_)⟩) (fun _ _ _ hq=>hq.setCells);subst hb;rcases Nat.lt_or_ge q (o+off)with h|h
    · exact .inl h
    right;rcases Nat.lt_or_ge q (o+off+ys.length)with h'|h'
    · have:=(hcell (q-(o+off)) zOm).lab
      rw[show o+off+(q-(o+off))=q from zOm,hq.lab]at this;cases this;exact absurd rfl hkr
    exact h'
  · obtain⟨e',m,h1,h2⟩:=hS.hdom k n x hx
    refine⟨e',m,?_,h2⟩;rw[F4,if_neg]
    · exact h1
    rintro rfl;rw[hg]at h1;cases h1
  · rw[F4]
    split
    · simp
    exact hS.adom k x hx
  exact Nat.lt_of_lt_of_le (hS.ldom b' o2 k hl) E.size
theorem copy_run (hT:TOk P T)(hS:Sim ρ lab H w){t xt tr:Nat}{d s v:V}{da sa:Value}{H':Hp}(hd:Rel ρ lab w d da)(hs:Rel ρ lab w s sa)(h:c01 T t d s H=some (.val v H')) :
  ∃z w',(Builtin.copy_ #[t,xt] tr #[da,sa]).run P w=.ok z w'/\Sim ρ lab H' w'/\Ext lab w lab w'/\Rel ρ lab w' v z:=by
 unfold c01 at h;split at h
 ·rename_i y r off n wh hy;have hk:=hT t y hy;split at h
  ·rename_i e hsh;split at h
   ·rename_i ye m news w0 cs hye hn hg;obtain⟨ys,k1,k2,k3,k4,k5,k6⟩:=src_ok hT hS hye hs hn;have k6:=k6 w (fun _ _ _=>rfl);have hund:P.underlying t=some (.slice e):=by
     have:=hk.sh;rw[hsh]at this;exact this
    have hez:=fun w=>a1H (hT e ye hye) w;cases hd with
    | rslice _ _ _ _ base g ao cap g1 g2 g3 g4 g5 =>
    split at h
    ·rename_i hm;cases h;have hm:=Nat.eq_of_beq_eq_true hm;subst hm;have:ys=[]:=List.length_eq_zero_iff.1 (by simpa using k4);subst this;refine⟨goInt 0,w,?_,hS,.refl _ _,.int _ _⟩;cases ao<;>simp[Builtin.copy_,run_underlying hund,k5,hez,k6,storeCells]
    rename_i hm;obtain⟨h1,h2⟩:=O3 h;cases h2;simp only[Bool.and_eq_true]at h1;have h3:=a7j h1.1;have h4:=a7j h1.2;have hm0:m≠0:=fun h=>by rw[h]at hm;cases hm
    have hn0:0<n:=zOm;cases base with
    | none=>exact absurd (by rw[g3 (.inl hn0)];rfl) (g5 hn0)
    | some p =>
     obtain⟨b,o⟩:=p;have ha:ao=some ⟨b,o+off,none⟩:=by rw[g3 (.inl hn0)];rfl
     obtain⟨base',c',xs,e1,e2⟩:=hS.grow r w0 cs hg;rw[g1]at e1;simp only[Option.some.injEq,Prod.mk.injEq]at e1;obtain⟨rfl,rfl⟩:=e1;obtain⟨q1,q2,q3⟩:=c5I (P:=P) hS hg g1 k1 k2 k3 (by rw[<-k1.1,k4];exact h4);refine⟨goInt m,_,?_,q2,q3,.int _ _⟩;subst ha;have hmin:Nat.min m n=m:=Nat.min_eq_left h3;simp[Builtin.copy_,run_underlying hund,k5,hez,hmin,k6,q1]
   cases h
  cases h
 cases h
end
variable {H':Hp} {cs news:List V} {ys:List Value} {cap e k m n t u:Nat} {ye:Ty} {v:V} {sa xa:Value}
section
variable {P:Program} {T:List (Nat×Ty)} {ρ:Rho} {lab:Lab} {w:World} {H:Hp} {fr:Fr} {a:Act}
def Did (P:Program)(ρ:Rho)(lab:Lab)(w:World)(s:Sem Value)(v:V)(H':Hp):Prop :=∃z w' ρ' lab',s.run P w=.ok z w'/\Sim ρ' lab' H' w'/\Ext lab w lab' w'/\ρ.le ρ'/\Rel ρ' lab' w' v z
theorem c0l (hS:Sim ρ lab H w){g c cap:Nat}{os rest:List Value}{ow:Own}(hlow:n+m<=c)(hsz:ye.size≠0)(hm:m≠0)
  (hg:(∃e',hget g H=some (.tip e' n))∨hget g H=none)
  (hr1:L6 ρ lab w cs os) (hr2:L6 ρ lab w news ys) (hos:os.length=n*ye.size) (hys:ys.length=m*ye.size) (hrest:rest.length =(c-(n+m))*ye.size)
  (h1:∀x∈os,x.oneCell'=true) (h2:∀x∈ys,x.oneCell'=true) (hn1:∀v∈cs,NF v) (hn2:∀v∈news,NF v) {s:Sem Value}
  (hrun:s.run P w=.ok (.slice (some ⟨w.heap.size,0,none⟩) (n+m) c) {w with drawn:=w.drawn+1,heap:=w.heap.push (.cells (os++ys++rest).toArray e)}) :
  Did P ρ lab w s (.slice (.tag g) (n+m) (cs++news)) (hset g (.tip ye.size (n+m)) H):=by
 let w' :={w with drawn:=w.drawn+1,heap:=w.heap.push (.cells (os++ys++rest).toArray e)}
 have gr:a15 w w':=(a15.draw w _).trans (a15.push {w with drawn:=w.drawn+1} _);have hnone:ρ.hd g (n+m)=none:=by
  cases hh:ρ.hd g (n+m)with
  | none=>rfl
  | some x =>
   obtain⟨e',m',k1,k2⟩:=hS.hdom g (n+m) x hh;grind
 have hle:=Rho.b8z hnone (some ⟨w.heap.size,0,none⟩,c);have hhd:(ρ.b3x g (n+m) (some ⟨w.heap.size,0,none⟩,c)).hd g (n+m)=some (some ⟨w.heap.size,0,none⟩,c):=by simp[Rho.b3x]
 have E:Ext lab w (lab.new w.heap.size g ((n+m)*ye.size) (c*ye.size)) w':=Ext.new hS gr zOm;have hcell:∀i,cellAt w' w.heap.size i =(os++ys++rest)[i]?:=fun i=>by
  rw[a9N {w with drawn:=w.drawn+1} _ e i];simp
 have hfrz:∀i,w'.frozen? ⟨w.heap.size,i,none⟩=false:=fun i=>a9f {w with drawn:=w.drawn+1} _ e i;have hl12:(os++ys).length =(n+m)*ye.size:=zGr;refine⟨_,w',_,_,hrun,?_,E,hle,?_⟩
 ·refine Sim.new hS gr zOm zGr hle (fun j hj=>by rw[F4,if_neg hj]) (by rw[F4,if_pos rfl]) ?_ ?_ ?_
  ·refine⟨_,c,hhd,hlow,zSi,fun h=>absurd h hsz,fun a ha=>?_⟩;cases ha;refine⟨rfl,fun i hi hj=>⟨by simp[Lab.new,hi,hj],hfrz _,?_⟩⟩;have hlen:(os++ys++rest).length=c*ye.size:=by
    rw[List.length_append,hl12,hrest,<-Nat.add_mul];grind
   simp_all
  ·intro j n' x h;simp only[Rho.b3x]at h;rw[F4];split at h
   ·rename_i hj;obtain⟨rfl,rfl⟩:=hj;grind
   obtain⟨e',m',k1,k2⟩:=hS.hdom j n' x h;grind
  intro j x h;rw[F4];split
  ·simp
  exact hS.adom j x h
 have hr:=(hr1.append hr2).ext E hle;refine .slice _ _ _ _ w.heap.size 0 _ _ hr.1 hlow (fun _=>rfl) zGr (fun i x hx=>⟨?_,?_⟩) hr.2 hhd (fun x hx=>?_) (fun v hv=>?_)
 ·have:=a9S hx;simp only[Lab.new,if_true];rw[if_neg zOm]
 ·have:=a9S hx;rw[hcell,Nat.zero_add,List.getElem?_append_left zOm];exact hx
 ·rcases List.mem_append.1 hx with h|h
  ·exact h1 x h
  exact h2 x h
 rcases List.mem_append.1 hv with h|h
 ·exact hn1 v h
 exact hn2 v h
theorem c5e (hT:TOk P T) (hS:Sim ρ lab H w) {r off w0:Nat} (A:App P t u e ye) (hm:m ≠ 0)
    (hr2:L6 ρ lab w news ys) (h2:∀y∈ys,y.oneCell'=true) (hnf:∀v∈news,NF v) (hys:ys.length=m*ye.size) (hlen:∀w0,(Builtin.lenOf xa).run P w0=.ok m w0)
    (hfirst0:(Builtin.firstCells ye.size m xa).run P w=.ok ys.toArray w) (hfirst1:∀w1:World,w1.heap=w.heap ->(Builtin.firstCells ye.size m xa).run P w1=.ok ys.toArray w1)
    (hs:Rel ρ lab w (.rslice r off n true) sa) (hg:hget r H=some (.grow w0 cs)) (hgk:hget k H=none)
    (h:gd (Nat.beq w0 ye.size && !Nat.beq w0 0 && leN (n * w0) cs.length && leN ((n + m) * (ye.bytes + 1)) 70368744177664)
                (some (OpR.val (.rslice k 0 (n+m) true) (hset r .gone (hset k (.grow w0 (cs.take (n*w0)++news)) H))))=some (.val v H')) (ty:TypeId) :
    Did P ρ lab w (Builtin.append_ #[t,u] ty #[sa,xa]) v H':=by
  obtain⟨c1,c2⟩:=O3 h;cases c2;simp only[Bool.and_eq_true,Bool.not_eq_true']at c1;obtain⟨⟨⟨c3,c4⟩,c6⟩,c7⟩:=c1;have c3:=Nat.eq_of_beq_eq_true c3;subst c3;have c6:=a7j c6;have c7:=a7j c7;have hsz:ye.size≠0:=by intro h0;rw[h0]at c4;cases c4
  have hrk:r≠k:=by rintro rfl;rw[hg]at hgk;cases hgk
  obtain⟨base,c,xs,e1,e2,e3,e4,e6,e9,e5⟩:=hS.grow r _ cs hg;cases hs with
  | rslice _ _ _ _ base1 g ao cap g1 g2 g3 g4 g5 =>
    rw[e1]at g1;cases g1;obtain⟨rfl,hcc⟩:=g4 rfl;cases hcc;have hao:=g3 (.inr rfl);have htl:(xs.take (n*ye.size)).length=n*ye.size:=by rw[List.length_take,e2.1];omega
    have htr:=L6.take e2 (n*ye.size);have hone:∀x∈xs.take (n*ye.size)++ys,x.oneCell'=true:=by
      intro x hx;rcases List.mem_append.1 hx with h|h
      · exact e6 x (List.mem_of_mem_take h)
      exact h2 x h
    have hnfs:∀v∈cs.take (n*ye.size)++news,NF v:=by
      intro v hv;rcases List.mem_append.1 hv with h|h
      · exact e9 v (List.mem_of_mem_take h)
      exact hnf v h
    have hmul:(n+m)*ye.size=n*ye.size+m*ye.size:=Nat.add_mul _ _ _;have hH:∀j,j≠k->j≠r->hget j (hset r .gone (hset k (.grow ye.size (cs.take (n*ye.size)++news)) H))=hget j H:=by
      intro j h1 h2;rw[F4,if_neg h2,F4,if_neg h1]
    have hHk:hget k (hset r .gone (hset k (.grow ye.size (cs.take (n*ye.size)++news)) H))=some (.grow ye.size (cs.take (n*ye.size)++news)):=by
      rw[F4,if_neg (Ne.symm hrk),F4,if_pos rfl]
    have hHr:hget r (hset r .gone (hset k (.grow ye.size (cs.take (n*ye.size)++news)) H))=some .gone:=by
      rw[F4,if_pos rfl]
    have hatn:=hS.b7w hgk;have hdd:∀(ρ':Rho),ρ'.hd=ρ.hd -> ∀j n' x,ρ'.hd j n'=some x -> ∃e m',hget j (hset r .gone (hset k (.grow ye.size (cs.take (n*ye.size)++news)) H))=some (.tip e m')/\n'<=m':=by
      intro ρ' hρ j n' x hj;rw[hρ]at hj;obtain⟨e',m',k1,k2⟩:=hS.hdom j n' x hj;refine⟨e',m',?_,k2⟩;rw[hH j (by rintro rfl;rw[hgk]at k1;cases k1) (by rintro rfl;rw[hg]at k1;cases k1)];exact k1
    have haa:∀y,∀j x,(ρ.setAt k y).at_ j=some x->hget j (hset r .gone (hset k (.grow ye.size (cs.take (n*ye.size)++news)) H))≠none:=by
      intro y j x hj;by_cases hjk:j=k
      · subst hjk;rw[hHk];simp
      by_cases hjr:j=r
      · subst hjr;rw[hHr];simp
      rw[hH j hjk hjr];simp only[Rho.setAt,if_neg hjk]at hj;exact hS.adom j x hj
    by_cases hroom:n+m<=c
    · cases base with
      | none=>have:=e4 rfl;omega
      | some p =>
        obtain⟨pb,po⟩:=p;simp only[Option.map_some,Nat.add_zero]at hao;subst hao;obtain⟨e7,e8⟩:=e5 pb po rfl;have hcapm:(n+m)*ye.size<=c*ye.size:=Nat.mul_le_mul_right _ hroom;have hcell:∀j,j<ys.length->a4X lab w r pb (po+n*ye.size+j):=by
          intro j hj;rw[Nat.add_assoc];exact e7 _ zOm
        have hrun:=app_in A (w0:=w) (b:=pb) (o:=po) (n:=n) (cap:=c) ty hlen hfirst0 h2 hroom (fun j hj=>by
          obtain⟨u',hu'⟩:=(hcell j hj).cell;exact⟨by rw[show w.cell? ⟨pb,po+n*ye.size+j,none⟩=some u' from hu'];rfl,(hcell j hj).free⟩)
        let lab':Lab:=fun b' o'=>if lab b' o'=some (some r)then some (some k)else lab b' o'
        have hl':∀b' o',lab b' o'=none->lab' b' o'=none:=fun b' o' hl=>by simp only[lab'];rw[if_neg (by rw[hl];simp)];exact hl
        have E0:Ext lab w lab (w.setCells pb (po+n*ye.size) ys):=Ext.setCells (k:=r) (fun j hj=>(hcell j hj).lab);have E:Ext lab w lab' (w.setCells pb (po+n*ye.size) ys):=⟨E0.size,E0.os,E0.tape,E0.output,fun b' o' _ hl=>hl' b' o' hl,fun b' o'=>by
        simp only[lab'];split
        · rename_i hq;rw[hq];simp
        · exact .rfl,E0.cl,E0.blk⟩
        have hle:=Rho.b3e hatn (some (pb,po),some c);have hat:(ρ.setAt k (some (pb,po),some c)).at_ k=some (some (pb,po),some c):=by simp[Rho.setAt]
        have hin:∀j (hj:j<ys.length),cellAt (w.setCells pb (po+n*ye.size) ys) pb (po+n*ye.size+j)=some ys[j]:=fun j hj =>
          World.cell?_setCells_in pb ys (po+n*ye.size) w (fun i hi=>by
            obtain⟨u',hu'⟩:=(hcell i hi).cell;rw[show w.cell? ⟨pb,po+n*ye.size+i,none⟩=some u' from hu'];rfl) j hj
        refine⟨_,_,_,lab',hrun,?_,E,hle,?_⟩
        · refine Sim.mk' (hS.kp.ext E) (fun j oj hj=>?_) (hdd _ rfl) (haa _) (fun b' o' j hl=>?_)
          · by_cases hjk:j=k
            · subst hjk
              rw[hHk]at hj;cases hj;refine⟨some (pb,po),c,xs.take (n*ye.size)++ys,hat,(htr.append hr2).ext E hle,?_,zSi,hone,hnfs,fun b' o' hb=>?_⟩
              · rw[<-(htr.append hr2).1,List.length_append,htl,hys];omega
              cases hb;refine⟨fun i hi=>?_,fun i x hx=>?_⟩
              · have h3:=(e7 i hi).setCells (b:=pb) (o:=po+n*ye.size) (ys:=ys)
                refine⟨?_,h3.free,h3.cell⟩;simp only[lab'];rw[if_pos h3.lab]
              rw[List.getElem?_append,htl]at hx;split at hx
              · rename_i hi
                rw[U8 (fun _=>zOm)];rw[List.getElem?_take,if_pos hi]at hx;exact e8 i x hx
              have hj:=a9S hx;have:=hin (i-n*ye.size) hj;rw[show po+n*ye.size+(i-n*ye.size)=po+i from zOm]at this;rw[this,<-hx,List.getElem?_eq_getElem hj]
            by_cases hjr:j=r
            · subst hjr
              rw[hHr]at hj;cases hj;trivial
            rw[hH j hjk hjr]at hj;refine(hS.obj hj).carry E hle (fun b' q hq=>?_) (fun b' ms' c' hq=>⟨fun q=>by
              simp only[lab'];rw[if_neg (by rw[hq.lab];simpa using hjr)];exact hq.lab q,a9L hq.blk⟩)
            have hout:b'=pb->q<po+n*ye.size∨po+n*ye.size+ys.length<=q:=by
              intro hb;subst hb;rcases Nat.lt_or_ge q (po+n*ye.size)with h|h
              · exact .inl h
              right;rcases Nat.lt_or_ge q (po+n*ye.size+ys.length)with h'|h'
              · have:=(hcell (q-(po+n*ye.size)) zOm).lab
                rw[show po+n*ye.size+(q-(po+n*ye.size))=q from zOm,hq.lab]at this;cases this;exact absurd rfl hjr
              exact h'
            have h3:=hq.setCells (b:=pb) (o:=po+n*ye.size) (ys:=ys);refine⟨⟨?_,h3.free,h3.cell⟩,U8 hout⟩;simp only[lab'];rw[if_neg (by rw[hq.lab];simpa using hjr)];exact hq.lab
          simp only[lab']at hl;split at hl
          · rename_i hlr
            exact Nat.lt_of_lt_of_le (hS.ldom b' o' r hlr) E.size
          exact Nat.lt_of_lt_of_le (hS.ldom b' o' j hl) E.size
        exact .rslice k 0 (n+m) true _ _ _ _ hat hroom (fun _=>rfl) (fun _=>⟨rfl,rfl⟩) (fun _=>zSi)
    have hold:∀w1:World,w1.heap=w.heap ->(Builtin.firstCells ye.size n (.slice ao n c)).run P w1=.ok (xs.take (n*ye.size)).toArray w1:=by
      intro w1 hw;rcases Nat.eq_zero_or_pos n with h0|h0
      · subst h0
        rw[Nat.zero_mul,List.take_zero];cases ao with
        | none=>rfl
        | some a=>simp only[Builtin.firstCells,Nat.zero_mul];rfl
      cases base with
      | none=>simp at hao;exact absurd hao (g5 h0)
      | some p =>
        obtain⟨pb,po⟩:=p;simp only[Option.map_some,Nat.add_zero]at hao;subst hao;obtain⟨e7,e8⟩:=e5 pb po rfl;simp only[Builtin.firstCells];have hl:=a9H (P:=P) (w0:=w1) (b:=pb) (o:=po) (xs:=xs.take (n*ye.size)) (fun i x hx=>by
          rw[List.getElem?_take]at hx;split at hx
          · have:=e8 i x hx
            simp only[cellAt,World.cell?,hw]at this ⊢;exact this
          cases hx)
        rwa [htl]at hl
    obtain⟨c',rest,k1,k2,k3⟩:=b7X A (w0:=w) ty hlen hfirst1 hold zOm c7 htl hys;let w':World:={w with drawn:=w.drawn+1,heap:=w.heap.push (.cells (xs.take (n*ye.size)++ys++rest).toArray e)}
    have gr:a15 w w':=(a15.draw w _).trans (a15.push {w with drawn:=w.drawn+1} _);have hle:=Rho.b3e hatn (some (w.heap.size,0),some c');have hat:(ρ.setAt k (some (w.heap.size,0),some c')).at_ k=some (some (w.heap.size,0),some c'):=by simp[Rho.setAt]
    have E:Ext lab w (lab.new w.heap.size k 0 (c'*ye.size)) w':=Ext.new hS gr (Nat.le_refl _);have hcell:∀i,cellAt w' w.heap.size i =(xs.take (n*ye.size)++ys++rest)[i]?:=fun i=>by
      show cellAt {({w with drawn:=w.drawn+1}:World)with heap:=w.heap.push (.cells (xs.take (n*ye.size)++ys++rest).toArray e)} w.heap.size i=_;rw[a9N {w with drawn:=w.drawn+1} _ e i];simp
    have hfrz:∀i,w'.frozen? ⟨w.heap.size,i,none⟩=false:=fun i=>a9f {w with drawn:=w.drawn+1} _ e i;have hl12:(xs.take (n*ye.size)++ys).length =(n+m)*ye.size:=by rw[List.length_append,htl,hys,hmul]
    have hlen':(xs.take (n*ye.size)++ys++rest).length=c'*ye.size:=by
      rw[List.length_append,hl12,k2,<-Nat.add_mul];congr 1;omega
    refine⟨_,w',_,_,k3,?_,E,hle,?_⟩
    · refine Sim.mk' (hS.kp.ext E) (fun j oj hj=>?_) (hdd _ rfl) (haa _) (c3C hS gr (by simp[w']))
      by_cases hjk:j=k
      · subst hjk
        rw[hHk]at hj;cases hj;refine⟨some (w.heap.size,0),c',xs.take (n*ye.size)++ys,hat,(htr.append hr2).ext E hle,?_,zSi,hone,hnfs,fun b' o' hb=>?_⟩
        · rw[<-(htr.append hr2).1,hl12];exact Nat.mul_le_mul_right _ k1
        cases hb;refine⟨fun i hi=>⟨by simp[Lab.new,hi],hfrz _,?_⟩,fun i x hx=>?_⟩
        · rw[hcell,Nat.zero_add]
          exact⟨(xs.take (n*ye.size)++ys++rest)[i]'zOm,List.getElem?_eq_getElem _⟩
        rw[hcell,Nat.zero_add,List.getElem?_append_left (a9S hx)];exact hx
      by_cases hjr:j=r
      · subst hjr
        rw[hHr]at hj;cases hj;trivial
      rw[hH j hjk hjr]at hj;exact(hS.obj hj).carry (Ext.new hS gr (Nat.le_refl _)) hle (fun b p hq=>hq.new gr (Nat.le_refl _)) (fun _ _ _ hq=>hq.new gr (Nat.le_refl _))
    exact .rslice k 0 (n+m) true _ _ _ _ hat k1 (fun _=>rfl) (fun _=>⟨rfl,rfl⟩) (fun _=>zSi)
theorem Sim.tipN (hS:Sim ρ lab H w){ao:Option Addr}(hk:hget k H=none)(hn:n<=cap)(h0:ao=none->cap=0)(he:e=0->cap=0)(hs:∀a,ao=some a->a.spot=none)(hr:∀i,n*e<=i->i<cap*e->False) :
  ∃ρ',ρ.le ρ'/\Sim ρ' lab (hset k (.tip e n) H) w/\ρ'.hd k n=some (ao,cap):=by
 have hle:ρ.le ⟨ρ.at_,fun j m=>if j=k then(if m=n then some (ao,cap)else none)else ρ.hd j m⟩:=by
  refine⟨fun k x h=>h,fun j m x h=>?_⟩;simp only;rw[if_neg]
  ·exact h
  rintro rfl;obtain⟨e,m',h1,_⟩:=hS.hdom _ m x h;grind
 refine⟨_,hle,Sim.mk' hS.kp (fun j o' hj=>?_) (fun j m x h=>?_) (fun j x h=>?_) hS.ldom,zSi⟩
 ·rw[F4]at hj;split at hj
  ·rename_i hjk;subst hjk;cases hj;exact⟨ao,cap,zSi,hn,h0,he,fun a ha=>⟨hs a ha,fun i h1 h2=>(hr i h1 h2).elim⟩⟩
  exact(hS.obj hj).carry (Ext.refl _ _) hle zGr zGr
 ·simp only at h;rw[F4];split at h
  ·rename_i hjk;split at h
   ·subst_vars
    grind
   grind
  rename_i hjk;rw[if_neg hjk];exact hS.hdom j m x h
 rw[F4];split
 ·simp
 exact hS.adom j x h
theorem c5f (hT:TOk P T)(hS:Sim ρ lab H w){s x:V}(hs:Rel ρ lab w s sa)(hx:Rel ρ lab w x xa)(h:a6S T t u s x H k=some (.val v H'))(ty:TypeId) :
  Did P ρ lab w (Builtin.append_ #[t,u] ty #[sa,xa]) v H':=by
 unfold a6S at h;split at h
 ·cases h
 ·cases h
 rename_i y yx hy hyx;split at h
 ·rename_i e hsh hsrc;have hshT:=(hT t y hy).sh;rw[hsh]at hshT;split at h
  ·rename_i ye m news hye hnews;have A:App P t u e ye:=by
    refine⟨hshT,?_,hT e ye hye⟩;have hk:=(hT u yx hyx).sh;obtain⟨d,hd⟩:=(hT u yx hyx).und;refine⟨d,hd,?_⟩;rintro k rfl;cases hq:yx.sh<;>rw[hq]at hsrc hk<;>simp[a94]at hsrc
    ·simp only at hk;rw[hk]at hd;cases hd
    simp only at hk;rw[hk]at hd;cases hd
   obtain⟨ys,hr2,h2,hnf,hys,hlen,hfirst⟩:=src_ok hT hS hye hx hnews;have hfirst0:(Builtin.firstCells ye.size m xa).run P w=.ok ys.toArray w:=hfirst w (fun _ _ _=>rfl);have hfirst1:∀w1:World,w1.heap=w.heap ->(Builtin.firstCells ye.size m xa).run P w1=.ok ys.toArray w1:=fun w1 hw=>hfirst w1 (fun b o _=>by simp only[cellAt,World.cell?,hw]);split at h
   ·
    rename_i hm;have hm:=Nat.eq_of_beq_eq_true hm;subst hm;have hy0:ys=[]:=List.length_eq_zero_iff.1 (by simpa using hys);subst hy0;have stay:∀(ao:Option Addr) (n cap:Nat),n<=cap ->(Builtin.append_ #[t,u] ty #[.slice ao n cap,xa]).run P w=.ok (.slice ao n cap) w:=by
     intro ao n cap hn;obtain⟨d,hd,hdi⟩:=A.hu;simp only[Builtin.append_,List.getElem?_toArray,List.getElem?_cons_zero,List.getElem?_cons_succ,Sem.run_bind,K6 A.ht,Result.andThen_ok,a1H A.hk,K6 hd,Sem.run_pure,Bool.false_eq_true,if_false];simp only[Sem.run_bind,hlen,Result.andThen_ok,Nat.add_zero,if_pos hn,Bool.not_false,if_true,hfirst0];cases ao<;>rfl
    split at h
    ·split at h
     ·cases h
     rename_i hk;obtain⟨_,h2⟩:=O3 h;cases h2;cases hs with
     | slice _ _ _ xs b o' ao cap g1 g2 g3 g4 g5 g6 g7 g8 g9 =>
      obtain⟨rfl,rfl,rfl,rfl⟩:=g7;obtain⟨ρ',k1,k2,k3⟩:=hS.tipN (e:=0) (n:=0) (cap:=0) (ao:=none) hk (Nat.le_refl _) (fun _=>rfl) (fun _=>rfl) (fun a ha=>by cases ha) (fun i h1 h2=>zOm);exact⟨_,w,ρ',lab,stay none 0 0 g2,k2,.refl _ _,k1,.slice _ 0 [] xs b o' none 0 g1 g2 g3 g4 g5 (fun i v x h1 h2=>(g6 i v x h1 h2).ext (Ext.refl _ _) k1) k3 g8 g9⟩
    ·rename_i n cs;split at h
     ·cases h
     rename_i hk;obtain⟨c1,h2⟩:=O3 h;cases h2;simp only[Bool.and_eq_true,Bool.not_eq_true']at c1;have c2:=a7j c1.2;have hs':=hs;cases hs with
     | slice _ _ _ xs b o' ao cap g1 g2 g3 g4 g5 g6 g7 g8 g9 =>
      simp only at g7;subst g7;have hao:=g3 zOm;subst hao;obtain⟨ρ',k1,k2,k3⟩:=hS.tipN (e:=ye.size) (n:=cap) (cap:=cap) (ao:=some ⟨b,o',none⟩) hk (Nat.le_refl _) (fun h=>by cases h) (fun h=>by rw[h]at c1;simp at c1) (fun a ha=>by cases ha;rfl) (fun i h1 h2=>zOm);exact⟨_,w,ρ',lab,stay _ cap cap g2,k2,.refl _ _,k1,.slice _ cap cs xs b o' _ cap g1 g2 g3 g4 g5 (fun i v x h1 h2=>(g6 i v x h1 h2).ext (Ext.refl _ _) k1) k3 g8 g9⟩
    ·rename_i o n cs _ _;cases h;have hs':=hs;cases hs with
     | slice _ _ _ xs b o' ao cap g1 g2 g3 g4 g5 g6 g7 g8 g9=>exact⟨_,w,ρ,lab,stay ao n cap g2,hS,.refl _ _,.refl _,hs'⟩
    ·rename_i r off n wh;cases h;have hs':=hs;cases hs with
     | rslice _ _ _ _ base g ao cap g1 g2 g3 g4 g5=>exact⟨_,w,ρ,lab,stay ao n cap g2,hS,.refl _ _,.refl _,hs'⟩
    cases h
   rename_i hm;have hm:m≠0:=by rintro rfl;cases hm
   split at h
   ·
    rename_i g n cs;split at h
    ·rename_i w0 n' hg;obtain⟨c1,c2⟩:=O3 h;cases c2;simp only[Bool.and_eq_true,Bool.or_eq_true,Bool.not_eq_true']at c1;obtain⟨⟨⟨⟨c3,c4⟩,c5⟩,c6⟩,c7⟩:=c1;have c5:=b3L c5;subst c5;have c6:=b3L c6;have c7:=a7j c7;have hsz:ye.size≠0:=by intro h0;rw[h0]at c4;cases c4
     obtain⟨ao,cap,t1,t2,t3,t4,t5⟩:=hS.tip g w0 n hg;cases hs with
     | slice _ _ _ xs b o ao' cap' g1 g2 g3 g4 g5 g6 g7 g8 g9 =>
      simp only at g7;rw[t1]at g7;cases g7;have hos:xs.length=n*ye.size:=by rw[g1,c6]
      by_cases hroom:n+m<=cap
      ·
       have hcap0:cap≠0:=zOm;have hw0:w0=ye.size:=by
        rcases c3 with c3|c3
        ·exact absurd (t4 (Nat.eq_of_beq_eq_true c3)) hcap0
        exact Nat.eq_of_beq_eq_true c3
       subst hw0;cases ao with
       | none=>exact absurd (t3 rfl) hcap0
       | some p =>
        obtain⟨hsp,hown⟩:=t5 p rfl;obtain⟨pb,po,ps⟩:=p;simp only at hsp hown;subst hsp;have hpo:0<n->pb=b/\po=o:=fun hn=>by have:=g3 hn;cases this;exact⟨rfl,rfl⟩
        have hxs:∀(i:Nat) (x:Value),xs[i]? = some x->a7v lab w pb (po+i) x:=by
         intro i x hx;have hi:=a9S hx;have hn:0<n:=by
          rcases Nat.eq_zero_or_pos n with h|h
          ·rw[hos,h]at hi;omega
          exact h
         obtain⟨rfl,rfl⟩:=hpo hn;exact g5 i x hx
        have hmul:(n+m)*ye.size=n*ye.size+m*ye.size:=Nat.add_mul _ _ _;have hcapm:(n+m)*ye.size<=cap*ye.size:=Nat.mul_le_mul_right _ hroom;have hcell:∀j,j<ys.length->a4X lab w g pb (po+n*ye.size+j):=by
         intro j hj;have:=hown (n*ye.size+j) zOm zOm;rwa [<-Nat.add_assoc]at this
        have hrun:=app_in A (w0:=w) (b:=pb) (o:=po) (n:=n) (cap:=cap) ty hlen hfirst0 h2 hroom (fun j hj=>by
         obtain⟨u',hu'⟩:=(hcell j hj).cell;exact⟨by rw[show w.cell? ⟨pb,po+n*ye.size+j,none⟩=some u' from hu'];rfl,(hcell j hj).free⟩)
        let lab':Lab:=fun b' o'=>if b'=pb/\po+n*ye.size<=o'/\o'<po+(n+m)*ye.size then none else lab b' o'
        have E0:Ext lab w lab (w.setCells pb (po+n*ye.size) ys):=Ext.setCells (k:=g) (fun j hj=>(hcell j hj).lab);have E:Ext lab w lab' (w.setCells pb (po+n*ye.size) ys):=⟨E0.size,E0.os,E0.tape,E0.output,fun b' o' hb hl=>by simp only[lab'];split<;>first|rfl|exact hl,fun b' o'=>by
         simp only[lab'];split
         ·rename_i hq;obtain⟨rfl,q1,q2⟩:=hq;have:=(hown (o'-po) zOm zOm).lab;rw[show po+(o'-po)=o' from zOm]at this;rw[this];constructor<;>intro h<;>cases h
         exact .rfl,E0.cl,E0.blk⟩
        have hnone:ρ.hd g (n+m)=none:=by
         cases hh:ρ.hd g (n+m)with
         | none=>rfl
         | some x =>
          obtain⟨e',m',k1,k2⟩:=hS.hdom g (n+m) x hh;rw[hg]at k1;cases k1;omega
        have hle:=Rho.b8z hnone (some ⟨pb,po,none⟩,cap);have hhd:(ρ.b3x g (n+m) (some ⟨pb,po,none⟩,cap)).hd g (n+m)=some (some ⟨pb,po,none⟩,cap):=by simp[Rho.b3x]
        have hin:∀j (hj:j<ys.length),cellAt (w.setCells pb (po+n*ye.size) ys) pb (po+n*ye.size+j)=some ys[j]:=fun j hj =>
         World.cell?_setCells_in pb ys (po+n*ye.size) w (fun i hi=>by
          obtain⟨u',hu'⟩:=(hcell i hi).cell;rw[show w.cell? ⟨pb,po+n*ye.size+i,none⟩=some u' from hu'];rfl) j hj
        refine⟨_,_,_,lab',hrun,?_,E,hle,?_⟩
        ·refine Sim.mk' (hS.kp.ext E) (fun j oj hj=>?_) (fun j n' x hj=>?_) (fun j x hj=>?_) (fun b' o' j hl=>?_)
         ·rw[F4]at hj;split at hj
          ·rename_i hjg;cases hj;subst hjg;refine⟨_,cap,hhd,hroom,zSi,fun h=>absurd h hsz,fun a ha=>?_⟩;cases ha;refine⟨rfl,fun i hi hj=>?_⟩;have:=(hown i zOm hj).setCells (b:=pb) (o:=po+n*ye.size) (ys:=ys);refine⟨?_,this.free,this.cell⟩;simp only[lab'];rw[if_neg zOm];exact this.lab
          rename_i hjg;refine(hS.obj hj).carry E hle (fun b' q hq=>?_) (fun b' ms' c' hq=>⟨fun q=>by
           simp only[lab'];rw[if_neg (fun hc=>by
            obtain⟨rfl,hc1,hc2⟩:=hc;have:=(hcell (q-(po+n*ye.size)) zOm).lab;rw[show po+n*ye.size+(q-(po+n*ye.size))=q from zOm,hq.lab]at this;cases this;exact absurd rfl hjg)]
           exact hq.lab q,a9L hq.blk⟩)
          have hout:b'=pb->q<po+n*ye.size∨po+n*ye.size+ys.length<=q:=by
           intro hb;subst hb;rcases Nat.lt_or_ge q (po+n*ye.size)with h|h
           ·exact .inl h
           right;rcases Nat.lt_or_ge q (po+n*ye.size+ys.length)with h'|h'
           ·have:=(hcell (q-(po+n*ye.size)) zOm).lab;rw[show po+n*ye.size+(q-(po+n*ye.size))=q from zOm,hq.lab]at this;cases this;exact absurd rfl hjg
           exact h'
          have h3:=hq.setCells (b:=pb) (o:=po+n*ye.size) (ys:=ys);refine⟨⟨?_,h3.free,h3.cell⟩,U8 hout⟩;simp only[lab'];rw[if_neg (fun hc=>by have:=hout hc.1;omega)];exact hq.lab
         ·simp only[Rho.b3x]at hj;rw[F4];split at hj
          ·rename_i hc;obtain⟨rfl,rfl⟩:=hc;rw[if_pos rfl];exact⟨_,_,rfl,Nat.le_refl _⟩
          obtain⟨e',m',k1,k2⟩:=hS.hdom j n' x hj;split
          ·rename_i hc;subst hc;rw[hg]at k1;cases k1;exact⟨_,_,rfl,zOm⟩
          exact⟨e',m',k1,k2⟩
         ·rw[F4];split
          ·simp
          exact hS.adom j x hj
         simp only[lab']at hl;split at hl
         ·cases hl
         exact Nat.lt_of_lt_of_le (hS.ldom b' o' j hl) E.size
        have hr:=(L6.append (⟨g1,g6⟩:L6 ρ lab w cs xs) hr2).ext E hle;refine .slice _ _ _ _ pb po _ _ hr.1 hroom (fun _=>rfl) (fun h=>zOm) (fun i x hx=>?_) hr.2 hhd (fun x hx=>?_) (fun v hv=>?_)
        ·rw[List.getElem?_append]at hx;split at hx
         ·exact(hxs i x hx).ext E
         rename_i hi;have hj:=a9S hx;refine⟨?_,?_⟩
         ·show(if pb=pb/\po+n*ye.size<=po+i/\po+i<po+(n+m)*ye.size then none else _)=none;exact if_pos ⟨rfl,zOm,zOm⟩
         have:=hin (i-xs.length) hj;rw[show po+n*ye.size+(i-xs.length)=po+i from zOm]at this;rw[this,<-hx,List.getElem?_eq_getElem hj]
        ·rcases List.mem_append.1 hx with h|h
         ·exact g8 x h
         exact h2 x h
        rcases List.mem_append.1 hv with h|h
        ·exact g9 v h
        exact hnf v h
      ·
       have hold:∀w1:World,w1.heap=w.heap ->(Builtin.firstCells ye.size n (.slice ao n cap)).run P w1=.ok xs.toArray w1:=by
        intro w1 hw;rcases Nat.eq_zero_or_pos n with h0|h0
        ·subst h0;have:xs=[]:=List.length_eq_zero_iff.1 (by simpa using hos);subst this;cases ao with
         | none=>rfl
         | some a=>simp only[Builtin.firstCells,Nat.zero_mul];rfl
        rw[g3 h0];simp only[Builtin.firstCells];rw[<-hos];exact a9H (fun i x hx=>by
         have:=(g5 i x hx).cell;simp only[cellAt,World.cell?,hw]at this ⊢;exact this)
       obtain⟨c,rest,k1,k2,k3⟩:=b7X A (w0:=w) ty hlen hfirst1 hold zOm c7 hos hys;exact c0l hS k1 hsz hm (.inl ⟨_,hg⟩) ⟨g1,g6⟩ hr2 hos hys k2 g8 h2 g9 hnf k3 (ow:=.sealed) (cap:=0)
    cases h
   ·cases h
   ·
    rename_i ow n cs hnt hns;split at h
    ·cases h
    rename_i hgk;obtain⟨c1,c2⟩:=O3 h;cases c2;simp only[Bool.and_eq_true,Bool.not_eq_true']at c1;obtain⟨⟨c4,c6⟩,c7⟩:=c1;have c6:=b3L c6;have c7:=a7j c7;have hsz:ye.size≠0:=by intro h0;rw[h0]at c4;cases c4
    cases hs with
    | slice _ _ _ xs b o ao cap g1 g2 g3 g4 g5 g6 g7 g8 g9 =>
     have hos:xs.length=n*ye.size:=by rw[g1,c6]
     have hcap:cap=n:=by
      cases ow with
      | sealed=>exact(hns rfl).elim
      | tag g=>exact(hnt _ rfl).elim
      | full=>exact g7
      | nil=>obtain⟨_,e1,e2,_⟩:=g7;omega
     have hold:∀w1:World,w1.heap=w.heap ->(Builtin.firstCells ye.size n (.slice ao n cap)).run P w1=.ok xs.toArray w1:=by
      intro w1 hw;rcases Nat.eq_zero_or_pos n with h0|h0
      ·subst h0;have:xs=[]:=List.length_eq_zero_iff.1 (by simpa using hos);subst this;cases ao with
       | none=>rfl
       | some a=>simp only[Builtin.firstCells,Nat.zero_mul];rfl
      rw[g3 h0];simp only[Builtin.firstCells];rw[<-hos];exact a9H (fun i x hx=>by
       have:=(g5 i x hx).cell;simp only[cellAt,World.cell?,hw]at this ⊢;exact this)
     obtain⟨c,rest,k1,k2,k3⟩:=b7X A (w0:=w) ty hlen hfirst1 hold zOm c7 hos hys;exact c0l hS k1 hsz hm (.inr hgk) ⟨g1,g6⟩ hr2 hos hys k2 g8 h2 g9 hnf k3 (ow:=.sealed) (cap:=0)
   ·
    rename_i r off n wh;split at h
    ·rename_i w0 cs hg hgk;exact c5e hT hS A hm hr2 h2 hnf hys hlen hfirst0 hfirst1 hs hg hgk h ty
    cases h
   cases h
  cases h
 cases h
end
variable {es:List (V×V)} {ms:List MapEntry} {b c k kt t:Nat} {s:Sh} {d:TypeDesc} {i v:V} {e:V×V} {ia ix x xa:Value}
section
variable {P:Program} {T:List (Nat×Ty)} {ρ:Rho} {lab:Lab} {w:World} {H:Hp}
def Lab.newA (lab:Lab)(B k:Nat):Lab:=fun b o=>if b=B then some (some k)else lab b o
theorem c0w (hS:Sim ρ lab H w)(hk:hget k H=none) :
  Sim (ρ.setAt k (some (w.heap.size,0),none)) (lab.newA w.heap.size k) (hset k (.mp []) H) (w.alloc (.map #[] 0)) /\
  Ext lab w (lab.newA w.heap.size k) (w.alloc (.map #[] 0))/\ρ.le (ρ.setAt k (some (w.heap.size,0),none)) /\
  Rel (ρ.setAt k (some (w.heap.size,0),none)) (lab.newA w.heap.size k) (w.alloc (.map #[] 0)) (.map k) (.map (some w.heap.size)):=by
 have g :=a15.push w (.map #[] 0);have hsz:(w.alloc (.map #[] 0)).heap.size=w.heap.size+1:=by simp_all
 have hne:∀b o,b<w.heap.size->lab.newA w.heap.size k b o=lab b o:=fun b o hb=>by
  simp only[Lab.newA];grind
 have E:Ext lab w (lab.newA w.heap.size k) (w.alloc (.map #[] 0)):=by
  refine⟨g.size,g.os,g.tape,g.output,fun b o hb hl=>zGr,fun b o=>?_,fun b o hb _=>⟨g.cell hb o,g.frozen hb o⟩,fun b hb _=>g.blk b hb⟩;simp only[Lab.newA];split
  ·constructor
   ·grind
   intro h;have:=hS.ldom _ o none h;omega
  grind
 have hle:=Rho.b3e (hS.b7w hk) (some (w.heap.size,0),none);have hat:(ρ.setAt k (some (w.heap.size,0),none)).at_ k=some (some (w.heap.size,0),none):=by simp[Rho.setAt]
 refine⟨Sim.mk' (hS.kp.ext E) (fun j o hj=>?_) (fun j n x hx=>?_) (fun j x hx=>?_) (fun b o j hl=>?_),E,hle,.map k w.heap.size none hat⟩
 ·rw[F4]at hj;split at hj
  ·rename_i he;subst he;cases hj;exact⟨w.heap.size,#[],0,hat,⟨rfl,fun i e m he=>zGr⟩,fun o=>by simp[Lab.newA],by show(w.heap.push _)[w.heap.size]? = _;simp⟩
  refine(hS.obj hj).carry E hle (fun b p hq=>?_) (fun b ms c hq=>⟨fun o=>by rw[hne b o hq.lt];exact hq.lab o,(g.blk b hq.lt).trans hq.blk⟩);obtain⟨x,hx⟩:=hq.cell;have hb:=a1K hx;exact⟨⟨by rw[hne b p hb];exact hq.lab,(g.frozen hb p).trans hq.free,x,(g.cell hb p).trans hx⟩,g.cell hb p⟩
 ·obtain⟨e,m,h1,h2⟩:=hS.hdom j n x hx;refine⟨e,m,?_,h2⟩;rw[F4,if_neg zGr];omega
 ·simp only[Rho.setAt]at hx;rw[F4];split at hx
  ·grind
  rename_i he;rw[if_neg he];exact hS.adom j x hx
 simp only[Lab.newA]at hl;split at hl
 ·omega
 have:=hS.ldom b o j hl;omega
theorem c0P (h:b5b ρ lab w (e::es) ms):∃m mr,ms=m::mr/\((Rel ρ lab w e.1 m.key/\Rel ρ lab w e.2 m.val)/\NF e.1/\NF e.2)/\b5b ρ lab w es mr:=by
 cases ms with
 | nil=>have:=h.1;grind
 | cons m mr=>exact⟨m,mr,rfl,h.2 0 e m rfl rfl,by have:=h.1;grind,fun i e' m' he hm=>h.2 (i+1) e' m' zGr zGr⟩
theorem b7L {m:MapEntry}(h:(Rel ρ lab w e.1 m.key/\Rel ρ lab w e.2 m.val)/\NF e.1/\NF e.2)(g:b5b ρ lab w es ms):b5b ρ lab w (e::es) (m::ms) :=
 ⟨by simp[g.1],fun i e' m' he hm=>by
  cases i with
  | zero=>grind
  | succ i=>exact g.2 i e' m' zGr zGr⟩
def keyD:Sh->Option TypeDesc | .bool=>some .bool | .int k=>some (.int k) | .string=>some .string|_=>none
theorem c1G {yk:Ty}(hk:TyOk P kt yk)(ho:b4x yk.sh i=true):∃d,keyD yk.sh=some d/\P.underlying kt=some d:=by
 have hsh:=hk.sh;cases hs:yk.sh<;>rw[hs]at ho hsh<;>first |(exact⟨_,rfl,hsh⟩) |(cases i<;>cases ho)
theorem b7O {k:V}{kx:Value}{b:Bool}(hd:keyD s=some d)(ho:b4x s i=true)(hi:Rel ρ lab w i ix)(hk:Rel ρ lab w k kx)(h:b3w i k=some b) :
  Instr.sameNow d ix kx=some b/\(b=true->Instr.sameBits 10000 kx ix=true):=by
 unfold b3w at h;split at h
 ·split at h
  ·rename_i hj;cases h;cases hi;cases hk;simp at hj;subst hj;cases s<;>first|omega |(cases ho;done)|skip
   cases hd;refine⟨by simp[Instr.sameNow,eqB],fun hb=>?_⟩;simp only[eqB,beq_iff_eq]at hb;subst hb;simp[Instr.sameBits]
  grind
 ·cases h;cases hi;cases hk;cases s<;>first|grind |(cases ho;done)|skip
  cases hd;rename_i a c;have e:=ba_beq a c;refine⟨by simp only[Instr.sameNow,eqS,e],fun hb=>?_⟩;simp only[eqS]at hb;show((⟨⟨c⟩⟩:ByteArray) ==⟨⟨a⟩⟩)=true;grind
 ·cases h;cases hi;cases hk;cases s<;>first|grind |(cases ho;done)|skip
  cases hd;refine⟨by simp[Instr.sameNow],fun hb=>?_⟩;simp at hb;subst hb;simp[Instr.sameBits]
 grind
theorem find_ok {d:TypeDesc}{s:Sh}{i:V}{ix:Value}(hd:keyD s=some d)(ho:b4x s i=true)(hi:Rel ρ lab w i ix) :
  ∀{es:List (V×V)} {ms:List MapEntry} {r:Option V} (n:Nat),b5b ρ lab w es ms->c0e i es=some r ->
   ∃r',Instr.findNow d ix ms n=some r'/\(match r with|none=>r'=none|some v=>∃j m,r'=some (j,m)/\Rel ρ lab w v m)
 | [],ms,r,n,h,hf=>by
  cases hf;have :=List.length_eq_zero_iff.1 h.1;subst this;exact⟨none,rfl,rfl⟩
 |(k,v)::es,ms,r,n,h,hf=>by
  obtain⟨m,mr,rfl,h1,h2⟩:=c0P h;simp only[c0e]at hf;split at hf
  ·grind
  ·rename_i hs;cases hf;obtain⟨g,_⟩:=b7O hd ho hi h1.1.1 hs;exact⟨_,by simp only[Instr.findNow,g],n,m.val,rfl,h1.1.2⟩
  rename_i hs;obtain⟨g,_⟩:=b7O hd ho hi h1.1.1 hs;obtain⟨r',k1,k2⟩:=find_ok hd ho hi (n+1) h2 hf;exact⟨r',by simp only[Instr.findNow,g,k1],k2⟩
theorem put_ok {d:TypeDesc}{s:Sh}{i x:V}{ix xx:Value}(hd:keyD s=some d)(ho:b4x s i=true)(hi:Rel ρ lab w i ix)(hx:Rel ρ lab w x xx)(ni:NF i)(nx:NF x) :
  ∀{es es':List (V×V)} {ms:List MapEntry} (n:Nat),b5b ρ lab w es ms->putM i x es=some es' ->
   (Instr.findNow d ix ms n=some none /\ ∀c,b5b ρ lab w es' (ms++[⟨ix,xx,c⟩])) ∨
   (∃j m,Instr.findNow d ix ms n=some (some (n+j,m.val))/\ms[j]? = some m/\Instr.sameBits 10000 m.key ix=true/\b5b ρ lab w es' (ms.modify j fun e=>{e with key:=ix,val:=xx}))
 | [],es',ms,n,h,hf=>by
  cases hf;have :=List.length_eq_zero_iff.1 h.1;subst this;exact .inl ⟨rfl,fun c=>b7L ⟨⟨hi,hx⟩,ni,nx⟩ ⟨rfl,fun i e m he=>zGr⟩⟩
 |(k,v)::es,es',ms,n,h,hf=>by
  obtain⟨m,mr,rfl,h1,h2⟩:=c0P h;simp only[putM]at hf;split at hf
  ·grind
  ·rename_i hs;cases hf;obtain⟨g,g2⟩:=b7O hd ho hi h1.1.1 hs;exact .inr ⟨0,m,by simp only[Instr.findNow,g];rfl,rfl,g2 rfl,b7L ⟨⟨hi,hx⟩,ni,nx⟩ h2⟩
  rename_i hs;obtain⟨g,_⟩:=b7O hd ho hi h1.1.1 hs;split at hf
  ·rename_i es2 hp;cases hf;rcases put_ok hd ho hi hx ni nx (n+1) h2 hp with⟨k1,k2⟩ |⟨j,m',k1,k2,k3,k4⟩
   ·exact .inl ⟨by simp only[Instr.findNow,g,k1],fun c=>b7L h1 (k2 c)⟩
   exact .inr ⟨j+1,m',by simp only[Instr.findNow,g,k1];grind,zGr,k3,b7L h1 k4⟩
  grind
theorem key_nf (ho:b4x s i=true):NF i:=by
 cases s<;>cases i<;>first |(cases ho;done)|constructor
theorem c2h {v':V}(h:b3q v=some v')(hx:Rel ρ lab w v x):Rel ρ lab w v' x/\NF v':=by
 unfold b3q at h;split at h
 ·split at h
  ·rename_i cs cs' hc;cases h;cases hx with
   | agg _ xs h1 h2 =>
    have g:=b0a hc ⟨h1,h2⟩;exact⟨.agg _ _ g.1 g.2,.agg _ (b1w hc ⟨h1,h2⟩)⟩
  grind
 exact⟨(c0L h hx).1,c4p h hx⟩
theorem a9O (hd:keyD s=some d)(hu:P.underlying kt=some d)(e:Bool)(v:Value)(w:World):(Instr.checkKey e 10000 kt v).run P w=.ok () w:=by
 rw[show 10000=9999+1 from rfl,Instr.checkKey,Sem.run_bind,K6 hu,Result.andThen_ok];cases s<;>cases hd<;>rfl
theorem a7P (hu:P.underlying kt=some d){r:Option (Nat×Value)}(h:Instr.findNow d ix ms 0=some r)(w:World):(Instr.findKey kt ix ms).run P w=.ok r w:=by
 simp only[Instr.findKey,Sem.run_bind,K6 hu,Result.andThen_ok,h,Sem.run_pure]
theorem a8L {ms:Array MapEntry}(h:w.heap[b]? = some (.map ms c)):(getObj b).run P w=.ok (.map ms c) w:=by
 simp[getObj,Sem.run,h]
theorem b9t {ms:Array MapEntry}(h:w.heap[b]? = some (.map ms c))(o:Go.Obj):(setObj b o).run P w=.ok () {w with heap:=w.heap.setIfInBounds b o}:=by
 simp[setObj,Sem.run,h]
theorem zero_v {y:Ty}(hk:TyOk P t y):∃z,(zeroValue t).run P w=.ok z w/\Rel ρ lab w (zeroV y) z:=by
 obtain⟨z,hz1,hz2,hz3,hz4,hz5⟩:=b0n     hk;refine⟨z,hz1,?_⟩;unfold zeroV;cases hg:a2l y.sh with
 | true =>
  obtain⟨cs,rfl⟩:=hz4 hg;exact .agg _ _ hz2.1 hz2.2
 | false =>
  rw[hz5 hg]at hz2;cases hyz:y.zero with
  | nil=>exact .undef z
  | cons c r=>rw[hyz]at hz2;exact hz2.2 0 c z rfl rfl
theorem c3S {b:Bool}(h:Rel ρ lab w v x):Rel ρ lab w (.tuple [v,.bool b]) (.tuple #[x,.bool b]) :=
 .tuple _ [x,.bool b] rfl fun i v x hv hx=>by
  match i,hv,hx with
  | 0,hv,hx=>grind
  | 1,hv,hx=>cases hv;cases hx;exact .bool _
theorem c5U (hT:TOk P T)(hS:Sim ρ lab H w){x:V}{ok:Bool}(hx:Rel ρ lab w x xa)(hi:Rel ρ lab w i ia)(h:b7R T t x i ok H=some v) :
  ∃z,(Instr.lookup t xa ia ok).run P w=.ok z w/\Rel ρ lab w v z:=by
 unfold b7R at h;split at h
 ·rename_i y r hy;have hk:=hT t y hy;split at h
  ·rename_i kt et es hs hg;have hsh:=hk.sh;rw[hs]at hsh;split at h
   ·rename_i yk ye hyk hye;cases hx with
    | map _ b c hat =>
    obtain⟨b',ms,c',h1,h2,h3⟩:=hS.mp r es hg;rw[hat]at h1;obtain⟨⟨rfl,_⟩,rfl⟩:=h1;split at h
    ·rename_i u ho hf;cases h;obtain⟨d,hd,hu⟩:=c1G (hT kt yk hyk) ho;obtain⟨r',k1,j,m,rfl,k2⟩:=find_ok hd ho hi 0 h2 hf;cases ok with
     | true=>exact⟨.tuple #[m,.bool true],by simp only[Instr.lookup,Sem.run_bind,K6 hsh,Result.andThen_ok,a8L h3.blk,Sem.run_pure,a9O hd hu,a7P hu k1,if_true],c3S k2⟩
     | false=>exact⟨m,by simp[Instr.lookup,Sem.run_bind,K6 hsh,Result.andThen_ok,a8L h3.blk,Sem.run_pure,a9O hd hu,a7P hu k1],k2⟩
    ·rename_i ho hf;cases h;obtain⟨d,hd,hu⟩:=c1G (hT kt yk hyk) ho;obtain⟨r',k1,k2⟩:=find_ok hd ho hi 0 h2 hf;subst k2;obtain⟨z,hz1,hz2⟩:=zero_v     (hT et ye hye);cases ok with
     | true=>exact⟨.tuple #[z,.bool false],by simp only[Instr.lookup,Sem.run_bind,K6 hsh,Result.andThen_ok,a8L h3.blk,Sem.run_pure,a9O hd hu,a7P hu k1,hz1,if_true],c3S hz2⟩
     | false=>exact⟨z,by simp[Instr.lookup,Sem.run_bind,K6 hsh,Result.andThen_ok,a8L h3.blk,Sem.run_pure,a9O hd hu,a7P hu k1,hz1],hz2⟩
    grind
   grind
  grind
 grind
theorem Sim.setMap (hS:Sim ρ lab H w){c':Nat}{ms ms':Array MapEntry}{es':List (V×V)}(hne:hget k H≠none)(hnt:∀e n,hget k H≠some (.tip e n))(hat:ρ.at_ k=some (some (b,0),none))(hM:a8E lab w k b ms c)
  (hr:b5b ρ lab w es' ms'.toList):Sim ρ lab (hset k (.mp es') H) {w with heap:=w.heap.setIfInBounds b (.map ms' c')}/\Ext lab w lab {w with heap:=w.heap.setIfInBounds b (.map ms' c')}:=by
 have hlt:=hM.lt;have hcell:∀q o,cellAt {w with heap:=w.heap.setIfInBounds b (.map ms' c')} q o=cellAt w q o:=fun q o=>by
  simp only[cellAt,World.cell?,Array.getElem?_setIfInBounds];by_cases hq:b=q
  ·subst hq;simp only[if_pos,hlt,hM.blk]
  grind
 have hfrz:∀q o,World.frozen? {w with heap:=w.heap.setIfInBounds b (.map ms' c')} ⟨q,o,none⟩=w.frozen? ⟨q,o,none⟩:=fun q o=>by
  simp only[World.frozen?,Array.getElem?_setIfInBounds];by_cases hq:b=q
  ·subst hq;simp only[if_pos,hlt,hM.blk]
  grind
 have E:Ext lab w lab {w with heap:=w.heap.setIfInBounds b (.map ms' c')}:=by
  refine⟨zSi,rfl,rfl,rfl,fun _ _ _ h=>h,fun _ _=>.rfl,fun q o _ _=>⟨hcell q o,hfrz q o⟩,fun q hq hl=>?_⟩;simp only[Array.getElem?_setIfInBounds];rw[if_neg];rintro rfl;exact hl 0 k (hM.lab 0)
 refine⟨Sim.mk' (hS.kp.ext E) (fun j o hj=>?_) (fun j n x hx=>?_) (fun j x hx=>?_) (fun q o j hl=>?_),E⟩
 ·rw[F4]at hj;split at hj
  ·rename_i he;subst he;cases hj;exact⟨b,ms',c',hat,hr.ext E (.refl _),hM.lab,zGr⟩
  rename_i he;refine(hS.obj hj).carry E (.refl _) (fun q p hq=>⟨⟨hq.lab,(hfrz _ _).trans hq.free,by rw[hcell];exact hq.cell⟩,hcell _ _⟩) (fun q ms2 c2 hq=>⟨hq.lab,?_⟩);simp only[Array.getElem?_setIfInBounds];rw[if_neg]
  ·exact hq.blk
  rintro rfl;have h1:=hq.lab 0;rw[hM.lab 0]at h1;grind
 ·obtain⟨e,m,h1,h2⟩:=hS.hdom j n x hx;refine⟨e,m,?_,h2⟩;rw[F4,if_neg zGr];grind
 ·rw[F4];split
  ·simp
  exact hS.adom j x hx
 have:=hS.ldom q o j hl;simpa using this
theorem b4z (hT:TOk P T)(hS:Sim ρ lab H w){x:V}{va:Value}{H':Hp}(hx:Rel ρ lab w x xa)(hi:Rel ρ lab w i ia)(hv:Rel ρ lab w v va)(h:a8W T t x i v H=some H') :
  ∃w',(Instr.mapUpdate t xa ia va).run P w=.ok () w'/\Sim ρ lab H' w'/\Ext lab w lab w':=by
 unfold a8W at h;split at h
 ·rename_i y r hy;have hk:=hT t y hy;split at h
  ·rename_i kt et es hs hg;have hsh:=hk.sh;rw[hs]at hsh;split at h
   ·rename_i yk v' hyk hpv;cases hx with
    | map _ b c hat =>
    obtain⟨b',ms,c',h1,h2,h3⟩:=hS.mp r es hg;rw[hat]at h1;obtain⟨⟨rfl,_⟩,rfl⟩:=h1;split at h
    ·rename_i es' ho hp;cases h;obtain⟨d,hd,hu⟩:=c1G (hT kt yk hyk) ho;obtain⟨hv2,hnf⟩:=c2h hpv hv;rcases put_ok hd ho hi hv2 (key_nf ho) hnf 0 h2 hp with⟨k1,k2⟩ |⟨j,m,k1,k2,k3,k4⟩
     ·obtain⟨g1,g2⟩:=hS.setMap (c':=c'+1) (ms':=ms.push ⟨ia,va,c'⟩)  zGr zGr hat h3 (by simpa using k2 c');exact⟨_,by simp only[Instr.mapUpdate,Sem.run_bind,K6 hsh,Result.andThen_ok,a8L h3.blk,a9O hd hu,a7P hu k1,b9t h3.blk],g1,g2⟩
     obtain⟨g1,g2⟩:=hS.setMap (c':=c') (ms':=ms.modify j fun e=>{e with key:=ia,val:=va})  zGr zGr hat h3 (by simpa using k4);refine⟨_,?_,g1,g2⟩;have k2' :=by simpa using k2
     rw[Nat.zero_add]at k1;simp only[Instr.mapUpdate,Sem.run_bind,K6 hsh,Result.andThen_ok,a8L h3.blk,a9O hd hu,a7P hu k1,k2',Option.map_some,Option.getD_some,Instr.keyThatStays,k3,if_true,Sem.run_pure,b9t h3.blk]
    grind
   grind
  grind
 grind
theorem c3L (hT:TOk P T)(hS:Sim ρ lab H w){c:V}{ca:Value}(hc:Rel ρ lab w c ca)(h:(c5N T t&&isInt c)=true):(Instr.makeMap t (some ca)).run P w=.ok (.map (some w.heap.size)) (w.alloc (.map #[] 0)):=by
 simp at h;obtain⟨h1,h2⟩:=h;unfold c5N at h1;split at h1
 ·rename_i y hy;have hsh:=(hT t y hy).sh;split at h1
  ·rename_i kt et hs;rw[hs]at hsh;cases hc<;>first |(cases h2;done)|skip
   simp[Instr.makeMap,Sem.run_bind,K6 hsh,asInt];rfl
  grind
 grind
end
variable {H':Hp} {o:Oper} {v:V}
section
variable {P:Program} {T:List (Nat×Ty)} {ρ:Rho} {lab:Lab} {w:World} {H:Hp} {fr:Fr} {a:Act} {n nr:Nat} {env:Env} {orc:Orc}
structure FOk (ρ:Rho)(lab:Lab)(w:World)(fr:Fr)(a:Act)(n:Nat):Prop where
 rel:a6o ρ lab w fr a.tmps
 size:a.tmps.size=n
 defers:a.defers=[]
theorem b3X (s:Nat)(v:V)(r:Fr)(t:Nat):look t ((s,v)::r)=if s=t then v else look t r:=by
 simp only[look];by_cases h:s=t
 ·simp_all
 rw[if_neg h];cases hb:Nat.beq s t with
 | true=>simp_all
 | false=>rfl
theorem FOk.ext {ρ':Rho}{lab':Lab}{w':World}(h:FOk ρ lab w fr a n)(E:Ext lab w lab' w')(hρ:ρ.le ρ'):FOk ρ' lab' w' fr a n :=
 ⟨h.rel.ext E hρ,h.size,h.defers⟩
theorem FOk.put {d:Option Nat}{x:Value}(h:FOk ρ lab w fr a n)(hd:∀i,d=some i->i<n)(hv:Rel ρ lab w v x):FOk ρ lab w (Y5 d v fr) (a.put d x) n:=by
 cases d with
 | none=>exact h
 | some d =>
  refine⟨fun t=>?_,by simp[Act.put,h.size],h.defers⟩;have hdn:=hd d rfl;simp only[Y5,b3X,Act.put];split
  ·subst_vars
   rw[Array.getD_eq_getD_getElem?,Array.getElem?_setIfInBounds_self_of_lt (by rw[h.size];omega)];grind
  rename_i ht;rw[Array.getD_eq_getD_getElem?,Array.getElem?_setIfInBounds_ne ht,<-Array.getD_eq_getD_getElem?];exact h.rel t
theorem c9e {ops:Array Oper}{b:Bool}(h:FOk ρ lab w fr a n)(hw:G6 ops o fr=some b):Region.wanted o (yielded ops a.tmps)=b:=by
 unfold G6 at hw;unfold Region.wanted;split at hw
 ·grind
 rename_i j want hg;rw[hg];simp only;unfold b3G at hw;unfold yielded;cases hd:(ops[j]?).bind (·.dst)with
 | none =>
  grind
 | some t =>
  rw[hd]at hw;simp at hw ⊢;have hr:=h.rel t;split at hw
  ·rename_i b' hb;split at hb
   ·rename_i c hc;cases hb;rw[hc]at hr;rw[Array.getD_eq_getD_getElem?]at hr;cases ht:a.tmps[t]? with
    | none=>rw[ht]at hr;cases hr
    | some x =>
     rw[ht]at hr;cases hr;cases hw;grind
   ·grind
   grind
  ·rename_i hb;split at hb
   ·grind
   ·rename_i hc;cases hw;rw[hc,Array.getD_eq_getD_getElem?]at hr;cases ht:a.tmps[t]? with
    | none=>rfl
    | some x =>
     rw[ht]at hr;cases hr with
     | tuple _ xs h1 h2=>rfl
   grind
  grind
def b7D:Op->Bool | .call {callee:=.value _,.. }=>true | .call {callee:=.invoke ..,.. }=>true|_=>false
theorem eff_run (hT:TOk P env.T)(hS:Sim ρ lab H w)(hF:a6o ρ lab w fr a.tmps)(hc:b7D o.op=false)(h:X6 env orc fr H o=some (.val v H')) :
  ∃r x w' ρ' lab',(execOp a.eval o).run P w=.ok r w'/\(r=.value x∨(r=.skip/\x=undef))/\Sim ρ' lab' H' w'/\Ext lab w lab' w'/\ρ.le ρ'/\Rel ρ' lab' w' v x:=by
 obtain⟨dst,op,type,pos,after,guard⟩:=o;unfold X6 at h;simp at h hc;split at h
 ·
  split at h
  ·rename_i xv hx;split at h
   ·rename_i v' hv;cases h;obtain⟨z,h1,h2⟩:=c3H hT hS (a0l hF hx) hv;exact⟨.value z,z,w,ρ,lab,by simp only[execOp,Sem.run_bind,h1,Result.andThen_ok,Sem.run_pure],.inl rfl,hS,.refl _ _,.refl _,h2⟩
   grind
  grind
 ·
  split at h
  ·rename_i xv yv hx hy;split at h
   ·rename_i H1 hH;cases h;obtain⟨w',h1,h2,h3⟩:=c0W hT hS (a0l hF hx) (a0l hF hy) hH;exact⟨.skip,undef,w',ρ,lab,by simp only[execOp,Sem.run_bind,h1,Result.andThen_ok,Sem.run_pure],.inr ⟨rfl,rfl⟩,h2,h3,.refl _,.undef _⟩
   grind
  grind
 ·
  rename_i t;split at h
  ·rename_i y hy hg;cases h;obtain⟨z,hz1,hz2,hz3,_,_⟩:=b0n     (hT t y hy);obtain⟨k1,k2,k3,k4⟩:=c0x (t:=t) hS hg hz2;refine⟨.value _,_,_,_,_,?_,.inl rfl,k1,k2,k3,k4⟩;simp only[execOp,Instr.alloc,Sem.run_bind,hz1,Result.andThen_ok,newVar,newRow,run_newObj,Sem.run_pure]
  grind
 ·
  rename_i t x;split at h
  ·rename_i y v' hy hg hx;split at h
   ·rename_i hall;cases h;obtain⟨hu,hr,_⟩:=cells_one (a0l hF hx) hall;obtain⟨k1,k2,k3,k4⟩:=c0x (t:=t) hS hg hr;refine⟨.value _,_,_,_,_,?_,.inl rfl,k1,k2,k3,k4⟩;simp only[execOp,Instr.box,Sem.run_bind,Result.andThen_ok,newVar,newRow,run_newObj,Sem.run_pure]
   grind
  grind
 ·
  split at h
  ·rename_i lv cv hl hcv;split at h
   ·rename_i hmz;obtain⟨z,w',ρ',lab',h1,h2,h3,h4,h5⟩:=c8v hT hS (Bool.and_eq_true _ _▸hmz).2 (a0l hF hl) (a0l hF hcv) h;exact⟨.value z,z,w',ρ',lab',by simp only[execOp,Sem.run_bind,h1,Result.andThen_ok,Sem.run_pure],.inl rfl,h2,h3,h4,h5⟩
   obtain⟨z,w',ρ',lab',h1,h2,h3,h4,h5⟩:=make_run hT hS (a0l hF hl) (a0l hF hcv) h;exact⟨.value z,z,w',ρ',lab',by simp only[execOp,Sem.run_bind,h1,Result.andThen_ok,Sem.run_pure],.inl rfl,h2,h3,h4,h5⟩
  cases h
 ·
  rename_i t;split at h
  ·cases h
  rename_i hg;cases h;obtain⟨k1,k2,k3,k4⟩:=c0w hS hg;exact⟨.value (.map (some w.heap.size)),_,w.alloc (.map #[] 0),_,_,by simp only[execOp,Option.map_none];rfl,.inl rfl,k1,k2,k3,k4⟩
 ·rename_i t c;split at h
  ·rename_i cv hc hg;split at h
   ·rename_i hm;cases h;obtain⟨k1,k2,k3,k4⟩:=c0w hS hg;exact⟨.value (.map (some w.heap.size)),_,w.alloc (.map #[] 0),_,_,by simp only[execOp,Option.map_some,Sem.run_bind,c3L hT hS (a0l hF hc) hm,Result.andThen_ok,Sem.run_pure],.inl rfl,k1,k2,k3,k4⟩
   cases h
  cases h
 ·
  rename_i t x i ok;split at h
  ·rename_i xv iv hx hi;split at h
   ·rename_i v' hv;cases h;obtain⟨z,h1,h2⟩:=c5U hT hS (a0l hF hx) (a0l hF hi) hv;exact⟨.value z,z,w,ρ,lab,by simp only[execOp,Sem.run_bind,h1,Result.andThen_ok,Sem.run_pure],.inl rfl,hS,.refl _ _,.refl _,h2⟩
   cases h
  cases h
 ·
  rename_i t x i y;split at h
  ·rename_i xv iv yv hx hi hy;split at h
   ·rename_i H1 hH;cases h;obtain⟨w',h1,h2,h3⟩:=b4z hT hS (a0l hF hx) (a0l hF hi) (a0l hF hy) hH;exact⟨.skip,undef,w',ρ,lab,by simp only[execOp,Sem.run_bind,h1,Result.andThen_ok,Sem.run_pure],.inr ⟨rfl,rfl⟩,h2,h3,.refl _,.undef _⟩
   cases h
  cases h
 ·
  rename_i t x i y;split at h
  ·rename_i xv iv yv hx hi hy;split at h
   ·rename_i H1 hH;cases h;obtain⟨w',h1,h2,h3⟩:=b4z hT hS (a0l hF hx) (a0l hF hi) (a0l hF hy) hH;exact⟨.skip,undef,w',ρ,lab,by simp only[execOp,Sem.run_bind,h1,Result.andThen_ok,Sem.run_pure],.inr ⟨rfl,rfl⟩,h2,h3,.refl _,.undef _⟩
   cases h
  cases h
 ·split at h<;>cases h
 ·
  rename_i args ats;split at h
  ·rename_i s x t u hargs hts;split at h
   ·rename_i sv xv hs hx;obtain⟨z,w',ρ',lab',h1,h2,h3,h4,h5⟩:=c5f hT hS (a0l hF hs) (a0l hF hx) h type;refine⟨.value z,z,w',ρ',lab',?_,.inl rfl,h2,h3,h4,h5⟩;have e:args.map a.eval = #[a.eval s,a.eval x]:=by
     apply Array.toList_inj.1;simp[hargs]
    have e2:ats = #[t,u]:=by
     apply Array.toList_inj.1;simp[hts]
    simp only[execOp,resolve,Sem.run_bind,Sem.run_pure,Result.andThen_ok,invoke,builtin,e,e2,h1]
   cases h
  cases h
 ·
  rename_i args ats;split at h
  ·rename_i d s t u hargs hts;split at h
   ·rename_i dv sv hd hs;obtain⟨z,w',h1,h2,h3,h4⟩:=copy_run hT hS (xt:=u) (tr:=type) (a0l hF hd) (a0l hF hs) h;refine⟨.value z,z,w',ρ,lab,?_,.inl rfl,h2,h3,.refl _,h4⟩;have e:args.map a.eval = #[a.eval d,a.eval s]:=by
     apply Array.toList_inj.1;simp[hargs]
    have e2:ats = #[t,u]:=by
     apply Array.toList_inj.1;simp[hts]
    simp only[execOp,resolve,Sem.run_bind,Sem.run_pure,Result.andThen_ok,invoke,builtin,e,e2,h1]
   cases h
  cases h
 ·cases hc
 ·cases hc
 cases h
theorem c8y (hF:a6o ρ lab w fr a.tmps)(hc:b7D o.op=false)(h:X6 env orc fr H o=some (.pan v H')) :
  ∃x,(execOp a.eval o).run P w=.halt (.panic x) w/\H'=H/\Rel ρ lab w v x:=by
 obtain⟨dst,op,type,pos,after,guard⟩:=o;unfold X6 at h;simp at h hc;split at h
 ·grind
 ·grind
 ·grind
 ·grind
 ·split at h
  ·split at h
   ·unfold c2w at h;split at h
    ·split at h
     ·split at h
      ·split at h
       ·cases h
       obtain⟨_,h2⟩:=O3 h;grind
      grind
     grind
    grind
   unfold c04 at h;split at h
   ·split at h
    ·split at h
     ·obtain⟨_,h2⟩:=O3 h;grind
     grind
    grind
   grind
  grind
 ·grind
 ·grind
 ·grind
 ·grind
 ·grind
 ·rename_i x;split at h
  ·rename_i t v' hx;cases h;have hb:=a0l hF hx;generalize hcv:a.eval x=cv at hb;have hb':=hb;cases hb;refine⟨_,?_,rfl,hb'⟩;simp only[execOp,hcv,Instr.panic,Sem.run_bind,run_goPanic,Result.andThen_halt]
  grind
 ·split at h
  ·split at h
   ·unfold a6S at h;split at h
    ·cases h
    ·cases h
    split at h
    ·split at h
     ·split at h
      ·split at h
       ·split at h
        ·cases h
        obtain⟨_,h2⟩:=O3 h;cases h2
       ·split at h
        ·cases h
        obtain⟨_,h2⟩:=O3 h;cases h2
       ·cases h
       ·cases h
       cases h
      split at h
      ·split at h
       ·obtain⟨_,h2⟩:=O3 h;cases h2
       cases h
      ·cases h
      ·split at h
       ·cases h
       obtain⟨_,h2⟩:=O3 h;cases h2
      ·split at h
       ·obtain⟨_,h2⟩:=O3 h;cases h2
       cases h
      cases h
     cases h
    cases h
   cases h
  cases h
 ·split at h
  ·split at h
   ·unfold c01 at h;split at h
    ·split at h
     ·split at h
      ·split at h
       ·cases h
       obtain⟨_,h2⟩:=O3 h;cases h2
      cases h
     cases h
    cases h
   cases h
  cases h
 ·cases hc
 ·cases hc
 cases h
end
variable {lab':Lab} {m:Nat->Option Nat} {ρ':Rho}
section
variable {P:Program} {T:List (Nat×Ty)} {ρ:Rho} {lab:Lab} {w:World} {H:Hp} {fr:Fr} {a:Act} {n nr:Nat} {env:Env} {orc:Orc}
theorem b0u:∀{ns:List Nat} {k i:Nat},idx k ns=some i->ns[i]? = some k
 | [],k,i,h=>by cases h
 | a::r,k,i,h=>by
  simp only[idx]at h;split at h
  ·rename_i hb;cases h;simp_all
  split at h
  ·rename_i j hj;cases h;simpa using b0u hj
  grind
theorem b7B:∀{ns:List Nat} {k i:Nat},ns.Nodup->ns[i]? = some k->idx k ns=some i
 | [],k,i,_,h=>zGr
 | a::r,k,i,hn,h=>by
  rw[List.nodup_cons]at hn;simp only[idx];cases i with
  | zero=>simp_all
  | succ i =>
   have hne:¬a=k:=zGr;have:Nat.beq a k=false:=by
    cases hb:Nat.beq a k with
    | true=>simp_all
    | false=>rfl
   rw[this];rw[b7B hn.2 h]
theorem c7m {k:Nat}:∀{l:List Nat},has k l=false->k ∉ l
 | [],_=>zSi
 | a::r,h=>by
  simp only[has]at h;split at h
  ·cases h
  rename_i hb;have:=c7m h;simp;refine⟨?_,this⟩;rintro rfl;simp at hb
theorem a7S (H:Hp):∀(f:Nat) (todo acc:List Nat),acc.Nodup ->(reach H f todo acc).Nodup
 | 0,_,acc,h=>h
 | f+1,[],acc,h=>h
 | f+1,k::todo,acc,h=>by
  simp only[reach];split
  ·exact a7S H f _ _ h
  rename_i hb;refine a7S H f _ _ ?_;rw[List.nodup_append];exact⟨h,zSi,fun x hx y hy=>by simp at hy;subst hy;rintro rfl;exact c7m hb hx⟩
structure Ren (m:Nat->Option Nat)(ρ ρ':Rho)(lab lab':Lab):Prop where
 at_:∀k i x,m k=some i->ρ.at_ k=some x->ρ'.at_ i=some x
 hd:∀k i n x,m k=some i->ρ.hd k n=some x->ρ'.hd i n=some x
 lab:∀b o,lab b o=none->lab' b o=none
theorem NF.rel (hl:∀b o,lab b o=none->lab' b o=none){v:V}{x:Value}(h:Rel ρ lab w v x):NF v->Rel ρ' lab' w v x:=by
 induction h with
 | undef x=>intro _;exact .undef x
 | bool b=>intro _;exact .bool b
 | int k n=>intro _;exact .int k n
 | str s=>intro _;exact .str s
 | nilptr=>intro _;exact .nilptr
 | ptr=>intro h;cases h
 | cptr cells xs b o h1 h2 _ hnf ih=>intro _;exact .cptr cells xs b o h1 (fun i x hx=>⟨hl _ _ (h2 i x hx).lab,(h2 i x hx).cell⟩) zGr hnf
 | slice ow n cells xs b o ao cap g1 g2 g3 g4 g5 _ g7 g8 g9 ih =>
  intro h;cases h with
  | slice _ _ _ hnt _ =>
  refine .slice ow n cells xs b o ao cap g1 g2 g3 g4 (fun i x hx=>⟨hl _ _ (g5 i x hx).lab,(g5 i x hx).cell⟩) zGr ?_ g8 g9;grind
 | rslice=>intro h;cases h
 | func fn a c xs ys h1 h2 _ _ _ _ =>
  intro h;cases h;exact .func fn [] [] xs ys h1 h2 zSi zSi
 | nilFunc=>intro _;exact .nilFunc
 | iface t v x _ ih=>intro h;cases h with|iface _ _ hv=>exact .iface t v x (ih hv)
 | nilIface=>intro _;exact .nilIface
 | opq m=>intro _;exact .opq m
 | map r b c h=>intro h;cases h
 | agg cells xs h1 _ ih=>intro h;cases h with|agg _ hv=>exact .agg cells xs h1 zGr
 | tuple cells xs h1 _ ih=>intro h;cases h with|tuple _ hv=>exact .tuple cells xs h1 zGr
theorem Rel.ren {m:Nat->Option Nat}{ρ':Rho}{lab':Lab}(hm:Ren m ρ ρ' lab lab'):∀(d:Nat) {v v':V} {x:Value},a2K m d v=some v'->Rel ρ lab w v x->Rel ρ' lab' w v' x
  | 0,v,v',x,h,_=>by simp[a2K]at h
  | d+1,v,v',x,h,hx=>by
    have hL:∀ {cs cs':List V} {xs:List Value},a2r (a2K m d) cs = some cs' -> xs.length = cs.length -> (∀ (i:Nat) (v:V) (x:Value),cs[i]? = some v -> xs[i]? = some x -> Rel ρ lab w v x) ->
        xs.length=cs'.length /\ ∀(i:Nat) (v:V) (x:Value),cs'[i]? = some v->xs[i]? = some x->Rel ρ' lab' w v x:=by
      intro cs cs' xs hc h1 h2;refine⟨by rw[a6Z hc];grind,fun i v x hv hx=>?_⟩;obtain⟨u,g1,g2⟩:=a9h hc i v hv;exact Rel.ren hm d g2 (h2 i u x g1 hx)
    simp only[a2K]at h;cases hx with
    | undef x=>cases h;exact .undef x
    | bool b=>cases h;exact .bool b
    | int k n=>cases h;exact .int k n
    | str s=>cases h;exact .str s
    | nilptr=>cases h;exact .nilptr
    | ptr r off b o c h1 =>
      simp only at h;split at h
      · rename_i r' hr;cases h;exact .ptr r' off b o c (hm.at_ _ _ _ hr h1)
      grind
    | cptr cells xs b o h1 h2 h3 hnf=>cases h;exact NF.rel hm.lab (.cptr cells xs b o h1 h2 h3 hnf) (.cptr _ hnf)
    | slice ow n cells xs b o ao cap g1 g2 g3 g4 g5 g6 g7 g8 g9 =>
      have hc:∀(i:Nat) (v:V) (x:Value),cells[i]? = some v->xs[i]? = some x->Rel ρ' lab' w v x:=fun i v x hv hx=>NF.rel hm.lab (g6 i v x hv hx) zGr;have hf:∀(i:Nat) (x:Value),xs[i]? = some x->a7v lab' w b (o+i) x:=fun i x hx=>⟨hm.lab _ _ (g5 i x hx).lab,(g5 i x hx).cell⟩
      cases ow with
      | tag g =>
        simp only at h;split at h
        · rename_i g' hg;cases h;exact .slice _ n cells xs b o ao cap g1 g2 g3 g4 hf hc (hm.hd _ _ _ _ hg g7) g8 g9
        grind
      | sealed=>cases h;exact .slice _ n cells xs b o ao cap g1 g2 g3 g4 hf hc g7 g8 g9
      | full=>cases h;exact .slice _ n cells xs b o ao cap g1 g2 g3 g4 hf hc g7 g8 g9
      | nil=>cases h;exact .slice _ n cells xs b o ao cap g1 g2 g3 g4 hf hc g7 g8 g9
    | rslice r off n wh base g ao cap h1 h2 h3 h4 h5 =>
      simp only at h;split at h
      · rename_i r' hr;cases h;exact .rslice r' off n wh base g ao cap (hm.at_ _ _ _ hr h1) h2 h3 h4 h5
      grind
    | func fn p q xs ys h1 h2 h3 h4 =>
      simp only at h;split at h
      · rename_i p' q' hp hq
        cases h;obtain⟨k1,k2⟩:=hL hp h1 h3;obtain⟨k3,k4⟩:=hL hq h2 h4;exact .func fn p' q' xs ys k1 k3 k2 k4
      grind
    | nilFunc=>cases h;exact .nilFunc
    | iface t u x h1 =>
      simp only at h;split at h
      · rename_i u' hu;cases h;exact .iface t u' x (Rel.ren hm d hu h1)
      cases h
    | nilIface=>cases h;exact .nilIface
    | opq m=>cases h;exact .opq m
    | map r b c hat =>
      simp only at h;split at h
      · rename_i r' hr
        cases h;exact .map r' b c (hm.at_ _ _ _ hr hat)
      cases h
    | agg cells xs h1 h2 =>
      simp only at h;split at h
      · rename_i cs' hcs
        cases h;obtain⟨k1,k2⟩:=hL hcs h1 h2;exact .agg cs' xs k1 k2
      cases h
    | tuple cells xs h1 h2 =>
      simp only at h;split at h
      · rename_i cs' hcs
        cases h;obtain⟨k1,k2⟩:=hL hcs h1 h2;exact .tuple cs' xs k1 k2
      cases h
theorem L6.ren (hm:Ren m ρ ρ' lab lab'){d:Nat}{cs cs':List V}{xs:List Value}(h:a2r (a2K m d) cs=some cs')(hx:L6 ρ lab w cs xs):L6 ρ' lab' w cs' xs:=by
 refine⟨by rw[a6Z h];exact hx.1,fun i v x hv hxx=>?_⟩;obtain⟨u,g1,g2⟩:=a9h h i v hv;exact Rel.ren hm d g2 (hx.2 i u x g1 hxx)
theorem a8g.ren (hm:Ren m ρ ρ' lab lab'){k i:Nat}(hk:m k=some i)(hlab:∀b o,lab b o=some (some k)->lab' b o=some (some i)){o o':Obj}
  (h:a8g ρ lab w k o) (ho:renO m o=some o'):a8g ρ' lab' w i o':=by
 have hO:∀b p,a4X lab w k b p->a4X lab' w i b p:=fun b p hq=>⟨hlab _ _ hq.lab,hq.free,hq.cell⟩
 cases o with
 | row cs =>
  simp only[renO]at ho;split at ho
  ·rename_i cs' hcs;cases ho;obtain⟨b,o,xs,h1,h2,h3⟩:=h;exact⟨b,o,xs,hm.at_ _ _ _ hk h1,h2.ren hm hcs,fun j x hx=>⟨hO _ _ (h3 j x hx).1,(h3 j x hx).2⟩⟩
  grind
 | grow e cs =>
  cases ho;obtain⟨base,c,xs,h1,h2,h3,h4,h8,h9,h5⟩:=h;refine⟨base,c,xs,hm.at_ _ _ _ hk h1,⟨h2.1,fun j v x hv hx=>NF.rel hm.lab (h2.2 j v x hv hx) zGr⟩,h3,h4,h8,h9,fun b o hb=>?_⟩;grind
 | tip e n =>
  cases ho;obtain⟨ao,cap,h1,h2,h3,h4,h5⟩:=h;exact⟨ao,cap,hm.hd _ _ _ _ hk h1,h2,h3,h4,fun a ha=>⟨(h5 a ha).1,fun j hj hj'=>hO _ _ zGr⟩⟩
 | mp es =>
  cases ho;obtain⟨b,ms,c,h1,h2,h3⟩:=h;exact⟨b,ms,c,hm.at_ _ _ _ hk h1,⟨h2.1,fun j e m he hx=>have q:=h2.2 j e m he hx;⟨⟨NF.rel hm.lab q.1.1 q.2.1,NF.rel hm.lab q.1.2 q.2.2⟩,q.2⟩⟩,fun o=>hlab _ _ (h3.lab o),h3.blk⟩
 | gone=>cases ho;trivial
theorem a5P (k:Nat):∀(A B:Hp),hget k (A++B)=match hget k A with|some o=>some o|none=>hget k B
 | [],B=>rfl
 |(s,o)::r,B=>by
  simp only[List.cons_append,hget];cases hb:Nat.beq s k with
  | true=>rfl
  | false=>exact a5P k r B
def Canon (k:Nat):Hp->Prop | []=>True |(i,_)::r=>i=k/\Canon (k+1) r
theorem b93:∀{H:Hp} {k:Nat},Canon k H -> ∀i,hget (k+i) H =(H[i]?).map (·.2)
 | [],k,_,i=>rfl
 |(s,o)::r,k,h,i=>by
  obtain⟨rfl,h2⟩:=h;simp only[hget];cases i with
  | zero=>simp
  | succ i =>
   have:Nat.beq s (s+(i+1))=false:=by
    cases hb:Nat.beq s _ with
    | true=>simp_all
    | false=>rfl
   rw[this];have:=b93 h2 i;grind
theorem a5L:∀{H:Hp} {k:Nat},Canon k H -> ∀j o,hget j H=some o->k<=j/\j<k+H.length
 | [],k,_,j,o,h=>by cases h
 |(s,x)::r,k,h,j,o,hj=>by
  obtain⟨rfl,h2⟩:=h;simp only[hget]at hj;split at hj
  ·simp_all
  have:=a5L h2 j o hj;grind
theorem b1u {m:Nat->Option Nat}:∀{ns:List Nat} {k:Nat} {H2:Hp},a8q H m ns k=some H2->Canon k H2/\H2.length=ns.length /\
  ∀(i j:Nat),ns[i]? = some j -> ∃o o',hget j H=some o/\renO m o=some o'/\hget (k+i) H2=some o'
 | [],k,H2,h=>by cases h;exact⟨trivial,rfl,zSi⟩
 | a::r,k,H2,h=>by
  simp only[a8q]at h;split at h
  ·cases h
  rename_i o ho;split at h
  ·rename_i o' l h1 h2;cases h;obtain⟨g1,g2,g3⟩:=b1u h2;refine⟨⟨rfl,g1⟩,zGr,fun i j hj=>?_⟩;cases i with
   | zero=>simp at hj;subst hj;exact⟨o,o',ho,h1,by simp[hget]⟩
   | succ i =>
    obtain⟨p,p',k1,k2,k3⟩:=g3 i j hj;refine⟨p,p',k1,k2,?_⟩;have:Nat.beq k (k+(i+1))=false:=by
     cases hb:Nat.beq k _ with
     | true=>simp_all
     | false=>rfl
    simp only[hget,this];grind
  grind
def Rho.sub (ρ:Rho)(ns:List Nat):Rho:=⟨fun i=>(ns[i]?).bind ρ.at_,fun i n=>(ns[i]?).bind fun k=>ρ.hd k n⟩
def Lab.sub (lab:Lab)(ns:List Nat):Lab:=fun b o=>match lab b o with
 | some (some k)=>(match idx k ns with|some i=>some (some i)|none=>some none)
 | x=>x
theorem b5P (ns:List Nat):Ren (idx · ns) ρ (ρ.sub ns) lab (lab.sub ns) where
 at_:=fun k i x h hx=>by simp only[Rho.sub,b0u h];grind
 hd:=fun k i n x h hx=>by simp only[Rho.sub,b0u h];grind
 lab:=fun b o h=>by simp only[Lab.sub,h]
theorem Sim.sub (hS:Sim ρ lab H w){ns:List Nat}(hn:ns.Nodup){H2:Hp}(hp:a8q H (idx · ns) ns 0=some H2):Sim (ρ.sub ns) (lab.sub ns) H2 w:=by
 obtain⟨c1,c2,c3⟩:=b1u hp;have hsome:∀i k,ns[i]? = some k -> ∃o o',hget k H=some o/\renO (idx · ns) o=some o'/\hget i H2=some o':=fun i k hk=>by
  grind
 refine Sim.mk' ⟨hS.kp.1,fun p hp o k h=>by
  simp only[Lab.sub]at h;cases hq:lab p.1 o with
  | none=>grind
  | some y =>
   cases y with
   | none=>grind
   | some j=>exact hS.kp.2 p hp o j hq⟩ (fun j o hj=>?_) (fun j n' x h=>?_) (fun j x h=>?_) (fun b o j hl=>?_)
 ·have hlt:=a5L c1 j o hj;have hjn :=zOm;obtain⟨o1,o2,k1,k2,k3⟩:=hsome j ns[j] zGr;rw[hj]at k3;cases k3;have hidx:=b7B hn (show ns[j]? = some ns[j]from zGr);exact a8g.ren (b5P ns) hidx (fun b p hl=>by simp only[Lab.sub,hl,hidx]) (hS.obj k1) k2
 ·simp only[Rho.sub,Option.bind_eq_some_iff]at h;obtain⟨k,hk,hx⟩:=h;obtain⟨e,m,g1,g2⟩:=hS.hdom k n' x hx;obtain⟨o1,o2,k1,k2,k3⟩:=hsome j k hk;rw[g1]at k1;cases k1;cases k2;grind
 ·simp only[Rho.sub,Option.bind_eq_some_iff]at h;grind
 simp only[Lab.sub]at hl;cases hq:lab b o with
 | none=>grind
 | some y=>exact hS.ldom b o y hq
end
variable {b:Bool} {cs:List V} {xs:List Value} {k s t:Nat} {o:Obj} {v:V} {x:Value}
section
variable {P:Program} {T:List (Nat×Ty)} {ρ ρ':Rho} {lab:Lab} {w:World} {H:Hp} {fr:Fr} {a:Act} {n nr:Nat} {env:Env} {orc:Orc}
theorem Rel.up (hρ:ρ.le ρ')(h:Rel ρ lab w v x):Rel ρ' lab w v x:=h.ext (Ext.refl lab w) hρ
theorem L6.up (hρ:ρ.le ρ'){v:List V}{x:List Value}(h:L6 ρ lab w v x):L6 ρ' lab w v x:=h.ext (Ext.refl lab w) hρ
theorem a8g.up (hρ:ρ.le ρ')(h:a8g ρ lab w k o):a8g ρ' lab w k o:=h.carry (Ext.refl lab w) hρ zGr zGr
theorem b9j:L6 ρ lab w [] []:=⟨rfl,zSi⟩
theorem F8 {r:List V}:L6 ρ lab w (v::r) xs ↔ ∃x xr,xs=x::xr/\Rel ρ lab w v x/\L6 ρ lab w r xr:=by
 constructor
 ·rintro⟨h1,h2⟩;cases xs with
  | nil=>grind
  | cons x xr =>
   refine⟨x,xr,rfl,h2 0 v x rfl rfl,zGr,fun i u y hu hy=>h2 (i+1) u y zGr zGr⟩
 rintro⟨x,xr,rfl,h1,h2,h3⟩;refine⟨zGr,fun i u y hu hy=>?_⟩;grind
theorem b1S (v:V):(∃n cs,v=.slice .nil n cs) ∨ ∀n cs,v ≠ .slice .nil n cs:=by
 grind
theorem c0X (h:∀n cs,v ≠ .slice .nil n cs)(r:List V)(k:Nat):a7u (v::r) k =(v ::(a7u r k).1,(a7u r k).2):=by
 cases v with
 | slice o n cs=>cases o with
  | nil=>grind
  | _=>rfl
 | _=>rfl
theorem a7V:∀(vs:List V) (k:Nat),k <=(a7u vs k).2
 | [],k=>Nat.le_refl _
 | v::r,k=>by
  rcases b1S v with⟨n,cs,rfl⟩|h
  ·have:=a7V r (k+1);simp only[a7u];omega
  rw[c0X h];exact a7V r k
theorem Rel.tag {n:Nat}(hk:ρ'.hd k 0=some (none,0))(h:Rel ρ lab w (.slice .nil n cs) x):Rel ρ' lab w (.slice (.tag k) n cs) x:=by
 cases h with
 | slice _ _ _ xs b o ao cap g1 g2 g3 g4 g5 g6 g7 g8 g9 =>
  obtain⟨rfl,rfl,rfl,rfl⟩:=g7;cases xs with
  | nil=>exact .slice _ 0 [] [] b o none 0 rfl zOm zSi zSi zSi zSi hk zSi zSi
  | cons y ys=>grind
theorem b1H (hρ:ρ.le ρ'):∀(vs:List V) (k:Nat) (xs:List Value),(∀j,k<=j->j<(a7u vs k).2->ρ'.hd j 0=some (none,0))->L6 ρ lab w vs xs->L6 ρ' lab w (a7u vs k).1 xs
 | [],k,xs,_,h=>h.up hρ
 | v::r,k,xs,hk,h=>by
  obtain⟨x,xr,rfl,h1,h2⟩:=F8.1 h;rcases b1S v with⟨n,cs,rfl⟩|hv
  ·simp only[a7u]at hk ⊢;have hm:=a7V r (k+1);refine F8.2 ⟨x,xr,rfl,h1.tag zGr,b1H hρ r (k+1) xr zGr h2⟩
  rw[c0X hv]at hk ⊢;exact F8.2 ⟨x,xr,rfl,h1.up hρ,b1H hρ r k xr hk h2⟩
theorem b53 (cs:List V)(k:Nat):k <=(a8C cs k).2:=by
 unfold a8C;split
 ·omega
 exact a7V cs k
theorem c6C (hρ:ρ.le ρ')(cs:List V)(k:Nat)(xs:List Value)(hk:∀j,k<=j->j<(a8C cs k).2->ρ'.hd j 0=some (none,0))(h:L6 ρ lab w cs xs):L6 ρ' lab w (a8C cs k).1 xs:=by
 unfold a8C at hk ⊢;split
 ·exact h.up hρ
 rename_i hl;simp only[hl]at hk;exact b1H hρ cs k xs hk h
theorem b41 {i:Nat}(h:∀cs,o ≠ .row cs)(r:Hp):X9 ((i,o)::r) k =((i,o) ::(X9 r k).1,(X9 r k).2):=by
 cases o with
 | row cs=>grind
 | _=>rfl
theorem isRow (o:Obj):(∃cs,o=.row cs) ∨ ∀cs,o ≠ .row cs:=by
 grind
theorem a7o:∀(H:Hp) (k:Nat),k <=(X9 H k).2
 | [],k=>Nat.le_refl _
 |(i,o)::r,k=>by
  rcases isRow o with⟨cs,rfl⟩|h
  ·have:=b53 cs k;have:=a7o r (a8C cs k).2;simp only[X9];omega
  rw[b41 h];exact a7o r k
theorem b04:∀{H:Hp} {i:Nat} (k:Nat),Canon i H->Canon i (X9 H k).1/\(X9 H k).1.length=H.length
 | [],i,k,_=>⟨trivial,rfl⟩
 |(s,o)::r,i,k,h=>by
  obtain⟨rfl,h2⟩:=h;rcases isRow o with⟨cs,rfl⟩|hr
  ·simp only[X9];obtain⟨g1,g2⟩:=b04 (a8C cs k).2 h2;exact⟨⟨rfl,g1⟩,zGr⟩
  rw[b41 hr];obtain⟨g1,g2⟩:=b04 k h2;exact⟨⟨rfl,g1⟩,zGr⟩
def TagOk (ρ ρ':Rho)(lab:Lab)(w:World)(j:Nat)(o o':Obj):Prop:=(∀e n,o=.tip e n->o'=.tip e n)/\(a8g ρ lab w j o->a8g ρ' lab w j o')
theorem b42 (hρ:ρ.le ρ'):∀(H:Hp) (k:Nat),(∀j,k<=j->j<(X9 H k).2->ρ'.hd j 0=some (none,0)) -> ∀j,
  (hget j H=none/\hget j (X9 H k).1=none) ∨ ∃o o',hget j H=some o/\hget j (X9 H k).1=some o'/\TagOk ρ ρ' lab w j o o'
 | [],k,_,j=>.inl ⟨rfl,rfl⟩
 |(s,o)::r,k,hk,j=>by
  rcases isRow o with⟨cs,rfl⟩|hr
  ·simp only[X9]at hk ⊢;have hm:=b53 cs k;have hm2:=a7o r (a8C cs k).2;simp only[hget];cases hb:Nat.beq s j with
   | true =>
    refine .inr ⟨_,_,rfl,rfl,zGr,?_⟩;rintro⟨b,o,xs,h1,h2,h3⟩;exact⟨b,o,xs,hρ.at_ _ _ h1,c6C hρ cs k xs zGr h2,h3⟩
   | false=>exact b42 hρ r _ zGr j
  rw[b41 hr]at hk ⊢;simp only[hget];cases hb:Nat.beq s j with
  | true=>exact .inr ⟨_,_,rfl,rfl,fun e n h=>h,fun h=>h.up hρ⟩
  | false=>exact b42 hρ r _ hk j
theorem b9C:∀(k n:Nat),Canon k (b4h k n)/\(b4h k n).length=n
 | _,0=>⟨trivial,rfl⟩
 | k,n+1=>by
  obtain⟨h1,h2⟩:=b9C (k+1) n;exact⟨⟨rfl,h1⟩,by simp[b4h,h2]⟩
theorem b9D:∀(k n j:Nat) (o:Obj),hget j (b4h k n)=some o->o=.tip 0 0
 | _,0,j,o,h=>by cases h
 | k,n+1,j,o,h=>by
  simp only[b4h,hget]at h;split at h
  ·grind
  exact b9D _ n j o h
theorem b4J:∀{H:Hp} {k j:Nat},Canon k H->k<=j->j<k+H.length -> ∃o,hget j H=some o:=by
 intro H k j h h1 h2;have h3:=b93 h (j-k);grind
theorem a9D:∀{A B:Hp} {k:Nat},Canon k A->Canon (k+A.length) B->Canon k (A++B)
 | [],B,k,_,h=>zGr
 |(s,o)::r,B,k,h,h'=>by
  obtain⟨rfl,h2⟩:=h;refine⟨rfl,a9D h2 ?_⟩;grind
def Rho.b2A (ρ:Rho)(g m k n:Nat):Rho :=⟨fun j=>if g<=j/\j<g+m then some (none,some 0)else ρ.at_ j,fun j l=>if k<=j/\j<k+n then(if l=0 then some (none,0)else none)else ρ.hd j l⟩
theorem Sim.b2A (hS:Sim ρ lab H w)(hc:Canon 0 H){G:Hp}{k2:Nat}(hG:Canon H.length G)(hGo:∀j o,hget j G=some o -> ∃e,o=.grow e [])(hk2:H.length+G.length<=k2) :
  ∃ρ',ρ.le ρ'/\(∀j,H.length<=j->j<H.length+G.length->ρ'.at_ j=some (none,some 0))/\(∀j,H.length+G.length<=j->j<(X9 H k2).2->ρ'.hd j 0=some (none,0)) /\
   Sim ρ' lab ((X9 H k2).1++G++b4h (H.length+G.length) ((X9 H k2).2-(H.length+G.length))) w /\
   Canon 0 ((X9 H k2).1++G++b4h (H.length+G.length) ((X9 H k2).2-(H.length+G.length))) /\
   H.length <=((X9 H k2).1++G++b4h (H.length+G.length) ((X9 H k2).2-(H.length+G.length))).length:=by
 obtain⟨c1,c2⟩:=b04 k2 hc;generalize hk1:H.length+G.length=k1 at *;generalize hn3:(X9 H k2).2-k1=n3;obtain⟨t1,t2⟩:=b9C k1 n3;have hnoneH:∀j,H.length<=j->hget j H=none:=fun j hj=>by
  cases hq:hget j H with
  | none=>rfl
  | some o=>have:=a5L hc j o hq;omega
 have hnoneC:∀j,H.length<=j->hget j (X9 H k2).1=none:=fun j hj=>by
  cases hq:hget j (X9 H k2).1 with
  | none=>rfl
  | some o=>have:=a5L c1 j o hq;omega
 have hnoneG:∀j,k1<=j->hget j G=none:=fun j hj=>by
  cases hq:hget j G with
  | none=>rfl
  | some o=>have:=a5L hG j o hq;omega
 refine⟨ρ.b2A H.length G.length k1 n3,⟨fun j x hx=>?_,fun j m x hx=>?_⟩,fun j h1 h2=>?_,fun j h1 h2=>?_,?_,?_,?_⟩
 ·simp only[Rho.b2A];split
  ·rename_i hj;exact absurd (hnoneH j hj.1) (hS.adom j x hx)
  omega
 ·simp only[Rho.b2A];split
  ·obtain⟨e,m',h1,_⟩:=hS.hdom j m x hx;grind
  grind
 ·simp only[Rho.b2A];grind
 ·simp only[Rho.b2A];grind
 ·have hle:ρ.le (ρ.b2A H.length G.length k1 n3):=by
   refine⟨fun j x hx=>?_,fun j m x hx=>?_⟩
   ·simp only[Rho.b2A];split
    ·rename_i hj;exact absurd (hnoneH j hj.1) (hS.adom j x hx)
    omega
   simp only[Rho.b2A];split
   ·obtain⟨e,m',h1,_⟩:=hS.hdom j m x hx;grind
   grind
  have hhd:∀j,k2<=j->j<(X9 H k2).2 ->(ρ.b2A H.length G.length k1 n3).hd j 0=some (none,0):=fun j h1 h2=>by
   simp only[Rho.b2A];grind
  have htr:=b42 (lab:=lab) (w:=w) hle H k2 hhd;refine Sim.mk' hS.kp (fun j o hj=>?_) (fun j m x hx=>?_) (fun j x hx=>?_) hS.ldom
  ·rw[a5P,a5P]at hj;rcases htr j with⟨g1,g2⟩ |⟨o1,o2,g1,g2,g3⟩
   ·rw[g2]at hj;simp only at hj;cases hq:hget j G with
    | some o3 =>
     rw[hq]at hj;cases hj;obtain⟨e,rfl⟩:=hGo j o hq;have hlt:=a5L hG j _ hq;refine⟨none,0,[],?_,b9j,zSi,fun _=>rfl,zSi,zSi,zSi⟩;simp only[Rho.b2A];rw[if_pos ⟨zOm,zOm⟩]
    | none =>
     rw[hq]at hj;simp only at hj;have:=b9D _ _ _ _ hj;subst this;have hlt:=a5L t1 j _ hj;refine⟨none,0,?_,Nat.le_refl _,fun _=>rfl,fun _=>rfl,zSi⟩;simp only[Rho.b2A];rw[if_pos ⟨zOm,zOm⟩];rfl
   rw[g2]at hj;simp only at hj;cases hj;exact g3.2 (hS.obj g1)
  ·simp only[Rho.b2A]at hx;rw[a5P,a5P];split at hx
   ·rename_i hj;split at hx
    ·subst_vars
     rw[hnoneC j zOm,hnoneG j hj.1];obtain⟨o,ho⟩:=b4J t1 hj.1 zOm;have:=b9D _ _ _ _ ho;subst this;exact⟨0,0,ho,Nat.le_refl _⟩
    cases hx
   obtain⟨e,m',h1,h2⟩:=hS.hdom j m x hx;rcases htr j with⟨g1,g2⟩ |⟨o1,o2,g1,g2,g3⟩
   ·rw[g1]at h1;cases h1
   rw[h1]at g1;cases g1;have:=g3.1 e m' rfl;subst this;rw[g2];exact⟨e,m',rfl,h2⟩
  simp only[Rho.b2A]at hx;rw[a5P,a5P];split at hx
  ·rename_i hj;rw[hnoneC j zOm];obtain⟨o,ho⟩:=b4J hG hj.1 zOm;rw[ho];simp
  have:=hS.adom j x hx;rcases htr j with⟨g1,g2⟩ |⟨o1,o2,g1,g2,g3⟩
  ·exact absurd g1 this
  rw[g2];simp
 ·refine a9D (a9D c1 ?_) ?_
  ·rw[c2];simpa using hG
  rw[List.length_append,c2,Nat.zero_add,hk1];exact t1
 simp only[List.length_append,c2];omega
theorem a6k (s:Nat)(v:V)(r:Fr):look s ((s,v)::r)=v:=by simp[look]
theorem a3H (h:s≠t)(v:V)(r:Fr):look t ((s,v)::r)=look t r:=by rw[b3X,if_neg h]
theorem b4O {f:V->Option V}:∀{fr fr':Fr},c3M f fr=some fr' -> ∀t,look t fr'=.undef∨f (look t fr)=some (look t fr')
 | [],fr',h,t=>by cases h;exact .inl rfl
 |(s,v)::r,fr',h,t=>by
  simp only[c3M]at h;split at h
  ·rename_i v' r' h1 h2;cases h;by_cases hs:s=t
   ·subst hs;rw[a6k,a6k];grind
   rw[a3H hs,a3H hs];exact b4O h2 t
  grind
theorem c0o:∀(l:List Nat) (fr:Fr) (t:Nat),look t (l.map fun s=>(s,look s fr))=.undef∨look t (l.map fun s=>(s,look s fr))=look t fr
 | [],fr,t=>.inl rfl
 | s::r,fr,t=>by
  rw[List.map_cons];by_cases hs:s=t
  ·subst hs;rw[a6k];grind
  rw[a3H hs];exact c0o r fr t
theorem b2o (b:Nat->Option Nat):∀(fr:Fr) (k:Nat),Canon k (a7t b fr k).2 /\ ∀j o,hget j (a7t b fr k).2=some o -> ∃e,o=.grow e []
 | [],k=>⟨trivial,fun j o h=>by cases h⟩
 |(s,v)::r,k=>by
  obtain⟨h1,h2⟩:=b2o b r (k+1);obtain⟨h3,h4⟩:=b2o b r k;simp only[a7t];split
  ·refine⟨⟨rfl,h1⟩,fun j o hj=>?_⟩;simp only[hget]at hj;grind
  grind
theorem Rel.ref {n:Nat}(hk:ρ'.at_ k=some (none,some 0))(h:Rel ρ lab w (.slice .nil n cs) x):Rel ρ' lab w (.rslice k 0 0 true) x:=by
 cases h with
 | slice _ _ _ xs b o ao cap g1 g2 g3 g4 g5 g6 g7 g8 g9 =>
  obtain⟨rfl,rfl,rfl,rfl⟩:=g7;exact .rslice k 0 0 true none (some 0) none 0 hk zOm (fun _=>rfl) zGr zSi
theorem b6I (b:Nat->Option Nat)(hρ:ρ.le ρ')(t:Nat)(x:Value):∀(fr:Fr) (k:Nat),(∀j,k<=j->j<k+(a7t b fr k).2.length->ρ'.at_ j=some (none,some 0)) ->
  Rel ρ lab w (look t fr) x->Rel ρ' lab w (look t (a7t b fr k).1) x
 | [],k,_,h=>h.up hρ
 |(s,v)::r,k,hk,h=>by
  simp only[a7t]at hk ⊢;split at hk
  ·simp at hk;by_cases hs:s=t
   ·subst hs;simp only[a6k]at h ⊢;exact h.ref zGr
   rw[a3H hs]at h;simp only[a3H hs];exact b6I b hρ t x r (k+1) zGr h
  by_cases hs:s=t
  ·subst hs;simp only[a6k]at h ⊢;exact h.up hρ
  rw[a3H hs]at h;simp only[a3H hs];exact b6I b hρ t x r k hk h
theorem c4C (h:∀n cs,v ≠ .slice .nil n cs)(s:Nat)(r:Fr)(k:Nat):a9y ((s,v)::r) k =((s,v) ::(a9y r k).1,(a9y r k).2):=by
 cases v with
 | slice o n cs=>cases o with
  | nil=>grind
  | _=>rfl
 | _=>rfl
theorem b2s:∀(fr:Fr) (k:Nat),k <=(a9y fr k).2
 | [],k=>Nat.le_refl _
 |(s,v)::r,k=>by
  rcases b1S v with⟨n,cs,rfl⟩|h
  ·have:=b2s r (k+1);simp only[a9y];omega
  rw[c4C h];exact b2s r k
theorem b9B (hρ:ρ.le ρ')(t:Nat)(x:Value):∀(fr:Fr) (k:Nat),(∀j,k<=j->j<(a9y fr k).2->ρ'.hd j 0=some (none,0)) ->
  Rel ρ lab w (look t fr) x->Rel ρ' lab w (look t (a9y fr k).1) x
 | [],k,_,h=>h.up hρ
 |(s,v)::r,k,hk,h=>by
  rcases b1S v with⟨n,cs,rfl⟩|hv
  ·simp only[a9y]at hk ⊢;have hm:=b2s r (k+1);by_cases hs:s=t
   ·subst hs;simp only[a6k]at h ⊢;exact h.tag zGr
   rw[a3H hs]at h;simp only[a3H hs];exact b9B hρ t x r (k+1) zGr h
  rw[c4C hv]at hk ⊢;by_cases hs:s=t
  ·subst hs;simp only[a6k]at h ⊢;exact h.up hρ
  rw[a3H hs]at h;simp only[a3H hs];exact b9B hρ t x r k hk h
theorem b1M:∀{H:Hp} {k j:Nat} {o:Obj},Canon k H->hget j H≠none->Canon k (hset j o H)/\(hset j o H).length=H.length
 | [],_,_,_,_,h=>absurd rfl h
 |(s,x)::r,k,j,o,hc,h=>by
  obtain⟨rfl,hc2⟩:=hc;simp only[hget]at h;simp only[hset];cases hb:Nat.beq s j with
  | true =>
   have:=Nat.eq_of_beq_eq_true hb;subst this;exact⟨⟨rfl,hc2⟩,rfl⟩
  | false =>
   rw[hb]at h;have hlt:s<j:=by
    cases hq:hget j r with
    | none=>grind
    | some o'=>have:=a5L hc2 j o' hq;omega
   have hbl:Nat.ble j s=false:=by
    cases hq:Nat.ble j s with
    | false=>rfl
    | true=>have:=Nat.le_of_ble_eq_true hq;omega
   rw[hbl];obtain⟨g1,g2⟩:=b1M  hc2 h;exact⟨⟨rfl,g1⟩,zGr⟩
theorem Sim.full1 (hS:Sim ρ lab H w)(hc:Canon 0 H){n:Nat}(hv:Rel ρ lab w (.slice .full n cs) x)(h0:isFull n cs=true) :
  ∃ρ',ρ.le ρ'/\Sim ρ' lab (H++[(H.length,.tip (eSz n cs) n)]) w/\Canon 0 (H++[(H.length,.tip (eSz n cs) n)])/\Rel ρ' lab w (.slice (.tag H.length) n cs) x:=by
 simp only[isFull,Bool.and_eq_true,Nat.blt_eq]at h0;obtain⟨hn0,he0⟩:=h0;cases hv with
 | slice _ _ _ xs b o ao cap g1 g2 g3 g4 g5 g6 g7 g8 g9 =>
  subst g7;have hao:=g3 hn0;have hnone:∀j,H.length<=j->hget j H=none:=fun j hj=>by
   cases hq:hget j H with
   | none=>rfl
   | some o=>have:=a5L hc j o hq;omega
  have hle:ρ.le ⟨ρ.at_,fun j m=>if j=H.length then(if m=cap then some (ao,cap)else none)else ρ.hd j m⟩:=by
   refine⟨fun k x h=>h,fun j m x h=>?_⟩;simp only;rw[if_neg]
   ·exact h
   rintro rfl;obtain⟨e,m',h1,_⟩:=hS.hdom _ m x h;grind
  have hgetE:∀j,hget j (H++[(H.length,.tip (eSz cap cs) cap)])=if j=H.length then some (.tip (eSz cap cs) cap)else hget j H:=by
   intro j;rw[a5P];by_cases hj:j=H.length
   ·subst hj;rw[if_pos rfl,hnone _ zOm];simp[hget]
   rw[if_neg hj];cases hq:hget j H with
   | some o=>rfl
   | none =>
    simp only[hget];cases hb:Nat.beq H.length j with
    | true=>simp_all
    | false=>rfl
  refine⟨_,hle,Sim.mk' hS.kp (fun j o' hj=>?_) (fun j m x h=>?_) (fun j x h=>?_) hS.ldom,?_,?_⟩
  ·rw[hgetE]at hj;split at hj
   ·rename_i he;subst he;cases hj;refine⟨ao,cap,?_,Nat.le_refl _,fun h=>?_,fun h=>zOm,fun a ha=>⟨?_,fun i h1 h2=>zOm⟩⟩
    ·simp
    ·grind
    grind
   exact(hS.obj hj).up hle
  ·simp only at h;rw[hgetE];split at h
   ·grind
   rename_i he;rw[if_neg he];exact hS.hdom j m x h
  ·rw[hgetE];split
   ·simp
   exact hS.adom j x h
  ·refine a9D hc ?_;rw[Nat.zero_add];exact⟨rfl,trivial⟩
  refine .slice _ cap cs xs b o ao cap g1 g2 g3 g4 g5 (fun i v x h1 h2=>(g6 i v x h1 h2).up hle) ?_ g8 g9;simp
theorem b62 (v:V):(∃n cs,v=.slice .full n cs) ∨ ∀n cs,v ≠ .slice .full n cs:=by
 grind
theorem fullL_no (h:∀n cs,v ≠ .slice .full n cs)(r:List V)(k:Nat):a7q (v::r) k =(v ::(a7q r k).1,(a7q r k).2):=by
 cases v with
 | slice o n cs=>cases o with
  | full=>grind
  | _=>rfl
 | _=>rfl
theorem b5n:∀(vs:List V) {ρ:Rho} {H:Hp} {xs:List Value},Sim ρ lab H w->Canon 0 H->L6 ρ lab w vs xs ->
  ∃ρ',ρ.le ρ'/\Sim ρ' lab (H ++(a7q vs H.length).2) w/\Canon 0 (H ++(a7q vs H.length).2)/\L6 ρ' lab w (a7q vs H.length).1 xs
 | [],ρ,H,xs,hS,hc,h=>⟨ρ,.refl _,by simpa [a7q]using hS,by simpa [a7q]using hc,h⟩
 | v::r,ρ,H,xs,hS,hc,h=>by
  obtain⟨x,xr,rfl,h1,h2⟩:=F8.1 h;have skip:∀u:V,Rel ρ lab w u x -> ∃ρ',ρ.le ρ'/\Sim ρ' lab _ w/\Canon 0 _/\L6 ρ' lab w _ (x::xr):=fun u hu=>by
   obtain⟨ρ',k1,k2,k3,k4⟩:=b5n r hS hc h2;exact⟨ρ',k1,k2,k3,F8.2 ⟨x,xr,rfl,hu.up k1,k4⟩⟩
  rcases b62 v with⟨n,cs,rfl⟩|hv
  ·simp only[a7q];cases h0:isFull n cs with
   | false=>grind
   | true =>
    obtain⟨ρ1,k1,k2,k3,k4⟩:=hS.full1 hc h1 h0;obtain⟨ρ2,m1,m2,m3,m4⟩:=b5n r k2 k3 (h2.up k1);simp only[List.length_append,List.length_cons,List.length_nil,Nat.zero_add]at m2 m3 m4;simp at m2 m3;exact⟨ρ2,k1.trans m1,m2,m3,F8.2 ⟨x,xr,rfl,k4.up m1,m4⟩⟩
  rw[fullL_no hv];grind
theorem b28:∀(ks:List Nat) {ρ:Rho} {H:Hp},Sim ρ lab H w->Canon 0 H -> ∃ρ',ρ.le ρ'/\Sim ρ' lab (b5m ks H) w/\Canon 0 (b5m ks H)/\H.length <=(b5m ks H).length
 | [],ρ,H,hS,hc=>⟨ρ,.refl _,hS,hc,Nat.le_refl _⟩
 | k::r,ρ,H,hS,hc=>by
  simp only[b5m,gH_eq];split
  ·rename_i cs hk;split
   ·exact b28 r hS hc
   rename_i t ts heq;rw[<-heq];obtain⟨b,o,xs,g1,g2,g3⟩:=hS.row k cs hk;obtain⟨ρ1,k1,k2,k3,k4⟩:=b5n cs hS hc g2;have hk2:hget k (H ++(a7q cs H.length).2)=some (.row cs):=by rw[a5P,hk]
   obtain⟨c1,c2⟩:=b1M  k3 (by rw[hk2];simp);have hS2:Sim ρ1 lab (hset k (.row (a7q cs H.length).1) (H ++(a7q cs H.length).2)) w:=by
    refine Sim.mk' k2.kp (fun i o' hi=>?_) (fun i n' x h=>?_) (fun i x h=>?_) k2.ldom
    ·rw[F4]at hi;split at hi
     ·rename_i he;subst he;cases hi;exact⟨b,o,xs,k1.at_ _ _ g1,k4,g3⟩
     exact k2.obj hi
    ·obtain⟨e,m,q1,q2⟩:=k2.hdom i n' x h;refine⟨e,m,?_,q2⟩;rw[F4,if_neg]
     ·omega
     grind
    rw[F4];split
    ·simp
    exact k2.adom i x h
   obtain⟨ρ2,m1,m2,m3,m4⟩:=b28 r hS2 c1;refine⟨ρ2,k1.trans m1,m2,m3,?_⟩;grind
  exact b28 r hS hc
theorem fullC_ok {vs:List V}(hS:Sim ρ lab H w)(hc:Canon 0 H)(h:L6 ρ lab w vs xs) :
  ∃ρ',ρ.le ρ'/\Sim ρ' lab (b4v b vs H).2 w/\Canon 0 (b4v b vs H).2/\L6 ρ' lab w (b4v b vs H).1 xs/\H.length <=(b4v b vs H).2.length:=by
 cases b with
 | false=>exact⟨ρ,.refl _,hS,hc,h,Nat.le_refl _⟩
 | true =>
  obtain⟨ρ1,k1,k2,k3,k4⟩:=b5n vs hS hc h;obtain⟨ρ2,m1,m2,m3,m4⟩:=b28 _ k2 k3;rw[List.length_append]at m4;exact⟨ρ2,k1.trans m1,m2,m3,k4.up m1,by simp only[b4v];omega⟩
theorem c8p (h:∀n cs,v ≠ .slice .full n cs)(s:Nat)(r:Fr)(seen:List Nat)(k:Nat):a6i seen ((s,v)::r) k =((s,v) ::(a6i (s::seen) r k).1,(a6i (s::seen) r k).2):=by
 cases v with
 | slice o n cs=>cases o with
  | full=>grind
  | _=>rfl
 | _=>rfl
theorem c5J {l:List Nat}(h:has t (s::l)=false):s≠t/\has t l=false:=by
 simp only[has]at h;cases hb:Nat.beq s t with
 | true=>grind
 | false=>rw[hb]at h;exact⟨by rintro rfl;simp at hb,h⟩
theorem b6n {arr:Array Value}:∀ (fr:Fr) (seen:List Nat) {ρ:Rho} {H:Hp},Sim ρ lab H w -> Canon 0 H -> (∀ t,has t seen = false -> Rel ρ lab w (look t fr) (arr.getD t undef)) ->
    ∃ρ',ρ.le ρ'/\Sim ρ' lab (H ++(a6i seen fr H.length).2) w/\Canon 0 (H ++(a6i seen fr H.length).2) /\ ∀t,has t seen=false->Rel ρ' lab w (look t (a6i seen fr H.length).1) (arr.getD t undef)
  | [],seen,ρ,H,hS,hc,h=>⟨ρ,.refl _,by simpa [a6i]using hS,by simpa [a6i]using hc,h⟩
  |(s,v)::r,seen,ρ,H,hS,hc,h=>by
    have hr :=fun t ht=>by
      obtain⟨h1,h2⟩:=c5J ht;have:=h t h2;rwa [a3H h1]at this
    have join:∀ (ρ':Rho) (u:V) (r':Fr),(has s seen = false -> Rel ρ' lab w u _) -> (∀ t,has t (s :: seen) = false -> Rel ρ' lab w (look t r') _) ->
        ∀t,has t seen=false->Rel ρ' lab w (look t _) (arr.getD t undef):=fun ρ' u r' h1 h2 t ht=>by
      by_cases hs:s=t
      · subst hs;rw[a6k];exact h1 ht
      rw[a3H hs];refine h2 t ?_;simp only[has];cases hb:Nat.beq s t with
      | true=>simp_all
      | false=>grind
    have hv0 :=fun hs=>by have:=h s hs;rwa [a6k]at this
    have skip:∃ρ',ρ.le ρ'/\Sim ρ' lab (H ++(a6i (s::seen) r H.length).2) w/\Canon 0 (H ++(a6i (s::seen) r H.length).2) /\ ∀t,has t seen=false->Rel ρ' lab w (look t ((s,v) ::(a6i (s::seen) r H.length).1)) (arr.getD t undef):=by
      obtain⟨ρ',k1,k2,k3,k4⟩:=b6n r (s::seen) hS hc hr;exact⟨ρ',k1,k2,k3,join ρ' v _ (fun hs=>(hv0 hs).up k1) k4⟩
    rcases b62 v with⟨n,cs,rfl⟩|hv
    · simp only[a6i]
      cases h0:isFull n cs && !has s seen with
      | false=>grind
      | true =>
        simp at h0;obtain⟨ρ1,k1,k2,k3,k4⟩:=hS.full1 hc (hv0 h0.2) h0.1;obtain⟨ρ2,m1,m2,m3,m4⟩:=b6n r (s::seen) k2 k3 (fun t ht=>(hr t ht).up k1);simp only[List.length_append,List.length_cons,List.length_nil,Nat.zero_add]at m2 m3 m4;simp at m2 m3;exact⟨ρ2,k1.trans m1,m2,m3,join ρ2 _ _ (fun _=>k4.up m1) m4⟩
    rw[c8p hv];grind
theorem fullN_ok {arr:Array Value}(hS:Sim ρ lab H w)(hc:Canon 0 H)(h:a6o ρ lab w fr arr) :
  ∃ρ',ρ.le ρ'/\Sim ρ' lab (c0i b fr H).2 w/\a6o ρ' lab w (c0i b fr H).1 arr/\H.length <=(c0i b fr H).2.length:=by
 cases b with
 | false=>exact⟨ρ,.refl _,hS,h,Nat.le_refl _⟩
 | true =>
  obtain⟨ρ1,k1,k2,k3,k4⟩:=b6n fr [] hS hc (fun t _=>h t);obtain⟨ρ2,m1,m2,m3,m4⟩:=b28 _ k2 k3;rw[List.length_append]at m4;exact⟨ρ2,k1.trans m1,m2,fun t=>(k4 t rfl).up m1,by simp only[c0i];omega⟩
end
variable {arr:Array Value} {fr':Fr} {H' H2:Hp} {ns:List Nat} {vs:List V} {xs:List Value} {j k:Nat} {v:V} {x:Value}
section
variable {P:Program} {T:List (Nat×Ty)} {ρ ρ':Rho} {lab:Lab} {w:World} {H:Hp} {fr:Fr} {a:Act} {n nr:Nat} {env:Env} {orc:Orc}
theorem Rel.a9q (h:Rel ρ lab w v x):Rel ρ lab w (b5T v) x:=by
 cases h with
 | slice ow n cells xs b o ao cap g1 g2 g3 g4 g5 g6 g7 g8 g9=>exact .slice .sealed n cells xs b o ao cap g1 g2 g3 g4 g5 g6 trivial g8 g9
 | undef=>exact .undef _
 | bool=>exact .bool _
 | int=>exact .int _ _
 | str=>exact .str _
 | nilptr=>exact .nilptr
 | ptr r off b o c h=>exact .ptr r off b o c h
 | cptr cells xs b o h1 h2 h3 h4=>exact .cptr cells xs b o h1 h2 h3 h4
 | rslice r off n wh base g ao cap h1 h2 h3 h4 h5=>exact .rslice r off n wh base g ao cap h1 h2 h3 h4 h5
 | func fn a c xs ys h1 h2 h3 h4=>exact .func fn a c xs ys h1 h2 h3 h4
 | nilFunc=>exact .nilFunc
 | iface t v x h=>exact .iface t v x h
 | nilIface=>exact .nilIface
 | opq m=>exact .opq m
 | map r b c h=>exact .map r b c h
 | agg cells xs h1 h2=>exact .agg cells xs h1 h2
 | tuple cells xs h1 h2=>exact .tuple cells xs h1 h2
theorem c6p {f:V->V}(hf:∀v x,Rel ρ lab w v x->Rel ρ lab w (f v) x)(h:L6 ρ lab w vs xs):L6 ρ lab w (vs.map f) xs:=by
 refine⟨by rw[List.length_map];exact h.1,fun i v x hv hx=>?_⟩;rw[List.getElem?_map,Option.map_eq_some_iff]at hv;obtain⟨u,hu,rfl⟩:=hv;exact hf u x (h.2 i u x hu hx)
theorem L6.a9q (h:L6 ρ lab w vs xs):L6 ρ lab w (vs.map b5T) xs:=c6p (fun _ _ h=>h.a9q) h
theorem Rel.b5S (h:Rel ρ lab w v x):Rel ρ lab w (b1E v) x:=by
 cases v with
 | agg cs=>cases h with|agg _ xs h1 h2=>have:=L6.a9q    ⟨h1,h2⟩;exact .agg _ xs this.1 this.2
 | _=>exact h.a9q
theorem L6.c4G:∀{vs:List V} {i:Nat} {xs:List Value},L6 ρ lab w vs xs->L6 ρ lab w (b9q i vs) xs
 | [],i,_,h=>by cases i<;>exact h
 | v::r,0,xs,h=>by
  obtain⟨x,xr,rfl,h1,h2⟩:=F8.1 h;exact F8.2 ⟨x,xr,rfl,h1.a9q,h2⟩
 | v::r,i+1,xs,h=>by
  obtain⟨x,xr,rfl,h1,h2⟩:=F8.1 h;exact F8.2 ⟨x,xr,rfl,h1,L6.c4G h2⟩
theorem Sim.seal1 (hS:Sim ρ lab H w){cs:List V}(hk:hget k H=some (.row cs)):Sim ρ lab (hset k (.row (b9q j cs)) H) w:=by
 refine Sim.mk' hS.kp (fun i o hi=>?_) (fun i n' x h=>?_) (fun i x h=>?_) hS.ldom
 ·rw[F4]at hi;split at hi
  ·rename_i he;subst he;cases hi;obtain⟨b,o,xs,g1,g2,g3⟩:=hS.row i cs hk;exact⟨b,o,xs,g1,g2.c4G,g3⟩
  exact hS.obj hi
 ·obtain⟨e,m,g1,g2⟩:=hS.hdom i n' x h;refine⟨e,m,?_,g2⟩;rw[F4,if_neg]
  ·grind
  grind
 rw[F4];split
 ·simp
 exact hS.adom i x h
theorem Sim.b4X (fr:Fr):∀(l:List (Nat×Nat)) {H:Hp},Sim ρ lab H w->Sim ρ lab (b4X fr l H) w
 | [],_,hS=>hS
 |(s,j)::r,H,hS=>by
  refine Sim.b4X fr r ?_;split
  ·split
   ·rename_i hk;exact hS.seal1 hk
   omega
  split
  ·split
   ·rename_i hk;exact hS.seal1 hk
   omega
  omega
theorem b7b (l:List (Nat×Nat))(t:Nat)(x:Value):∀{fr:Fr},Rel ρ lab w (look t fr) x->Rel ρ lab w (look t (b9s l fr)) x
 | [],h=>h
 |(s,v)::r,h=>by
  simp only[b9s];by_cases hs:s=t
  ·subst hs;rw[a6k]at h ⊢;cases hasP (100000+s) 0 l with
   | true=>exact h.b5S
   | false=>exact h
  rw[a3H hs]at h ⊢;exact b7b l t x h
structure a4B (nr:Nat)(ρ ρ':Rho):Prop where
 at_:∀k x,k<nr->ρ.at_ k=some x->ρ'.at_ k=some x
 hd:∀k n x,k<nr->ρ.hd k n=some x->ρ'.hd k n=some x
theorem a4B.of_le (h:ρ.le ρ')(nr:Nat):a4B nr ρ ρ':=⟨fun k x _ hx=>h.at_ k x hx,fun k n x _ hx=>h.hd k n x hx⟩
theorem a4B.trans {a b c:Rho}{n m:Nat}(h:a4B n a b)(g:a4B m b c)(hm:n<=m):a4B n a c :=
 ⟨fun k x hk hx=>g.at_ k x zOm (h.at_ k x hk hx),fun k l x hk hx=>g.hd k l x zOm (h.hd k l x hk hx)⟩
theorem b6L:∀{k nr:Nat} {ns:List Nat},b2p k nr ns=true -> ∀i,i<nr->ns[i]? = some (k+i)
 | _,0,_,_,i,hi=>zOm
 | _,_+1,[],h,_,_=>by cases h
 | k,n+1,a::r,h,i,hi=>by
  simp only[b2p,Bool.and_eq_true]at h;cases i with
  | zero=>simp_all
  | succ i =>
   have:=b6L h.2 i zOm;grind
theorem b34 (h:b2p 0 nr ns=true):a4B nr ρ (ρ.sub ns) where
 at_:=fun k x hk hx=>by have:=b6L h k hk;simp at this;simp only[Rho.sub,this];grind
 hd:=fun k n x hk hx=>by have:=b6L h k hk;simp at this;simp only[Rho.sub,this];grind
theorem b9n:∀{k nr:Nat} {ns:List Nat},b2p k nr ns=true->nr<=ns.length
 | _,0,_,_=>Nat.zero_le _
 | _,_+1,[],h=>by cases h
 | k,n+1,a::r,h=>by
  simp only[b2p,Bool.and_eq_true]at h;have:=b9n h.2;grind
theorem Sim.pick (hS:Sim ρ lab H w)(hn:ns.Nodup)(hp:a8q H (idx · ns) ns 0=some H2){lab2:Lab}
  (hl0:∀b o,lab b o=none->lab2 b o=none) (hl1:∀b o k i,lab b o=some (some k)->idx k ns=some i->lab2 b o=some (some i)) (hl2:∀b o y,lab2 b o=some y->lab b o≠none) (hl3:∀b o k,lab2 b o=some (some k) -> ∃j,lab b o=some (some j)) :
  Ren (idx · ns) ρ (ρ.sub ns) lab lab2/\Sim (ρ.sub ns) lab2 H2 w:=by
 obtain⟨c1,c2,c3⟩:=b1u hp;have hR:Ren (idx · ns) ρ (ρ.sub ns) lab lab2:=⟨(b5P (lab:=lab) ns).at_,(b5P (lab:=lab) ns).hd,hl0⟩
 have hsome:∀i k,ns[i]? = some k -> ∃o o',hget k H=some o/\renO (idx · ns) o=some o'/\hget i H2=some o':=fun i k hk=>by
  grind
 refine⟨hR,Sim.mk' ⟨hS.kp.1,fun p hp o k h=>by obtain⟨j,hj⟩:=hl3 _ _ _ h;exact hS.kp.2 p hp o j hj⟩ (fun j o hj=>?_) (fun j n' x h=>?_) (fun j x h=>?_) (fun b o j hl=>?_)⟩
 ·have hlt:=a5L c1 j o hj;have hjn :=zOm;obtain⟨o1,o2,k1,k2,k3⟩:=hsome j ns[j] zGr;rw[hj]at k3;cases k3;have hidx:=b7B hn (show ns[j]? = some ns[j]from zGr);exact a8g.ren hR hidx zGr (hS.obj k1) k2
 ·simp only[Rho.sub,Option.bind_eq_some_iff]at h;obtain⟨k,hk,hx⟩:=h;obtain⟨e,m,g1,g2⟩:=hS.hdom k n' x hx;obtain⟨o1,o2,k1,k2,k3⟩:=hsome j k hk;rw[g1]at k1;cases k1;cases k2;grind
 ·simp only[Rho.sub,Option.bind_eq_some_iff]at h;grind
 have:=hl2 b o j hl;cases hq:lab b o with
 | none=>grind
 | some y=>exact hS.ldom b o y hq
def Lab.drop (lab:Lab)(ns:List Nat):Lab:=fun b o=>match lab b o with
 | some (some k)=>(match idx k ns with|some i=>some (some i)|none=>none)
 | x=>x
theorem Sim.drop (hS:Sim ρ lab H w)(hn:ns.Nodup)(hp:a8q H (idx · ns) ns 0=some H2) :
  Ren (idx · ns) ρ (ρ.sub ns) lab (lab.drop ns)/\Sim (ρ.sub ns) (lab.drop ns) H2 w/\Ext lab w (lab.drop ns) w:=by
 have hl0:∀b o,lab b o=none->lab.drop ns b o=none:=fun b o h=>by simp only[Lab.drop,h]
 obtain⟨h1,h2⟩:=hS.pick hn hp  hl0 (fun b o k i hl hi=>by simp only[Lab.drop,hl,hi]) zGr (fun b o k h=>by
  simp only[Lab.drop]at h;grind)
 refine⟨h1,h2,⟨Nat.le_refl _,rfl,rfl,rfl,fun b o _ h=>hl0 b o h,fun b o=>?_,fun _ _ _ _=>⟨rfl,rfl⟩,fun _ _ _=>rfl⟩⟩;simp only[Lab.drop];grind
theorem Ext.a9p (lab:Lab)(w:World)(ns:List Nat):∀b o,lab.sub ns b o=none↔lab b o=none:=by
 intro b o;simp only[Lab.sub];grind
theorem renum_ok (hS:Sim ρ lab H w)(hF:a6o ρ lab w fr arr)(h:renum nr fr H=some (fr',H')) :
  ∃ρ' lab',Sim ρ' lab' H' w/\Ext lab w lab' w/\a4B nr ρ ρ'/\a6o ρ' lab' w fr' arr:=by
 unfold renum at h;simp only[b99,fF_eq,b2w]at h;generalize hns:reach H 99 _ []=ns at h;have hn:ns.Nodup:=by rw[<-hns];exact a7S _ _ _ _ List.nodup_nil
 split at h
 ·rename_i fr2 H2 hm hp hr;obtain⟨rfl,rfl⟩:=h;obtain⟨hR,hS2,hE⟩:=hS.drop hn hp;refine⟨_,_,hS2,hE,b34 hr,fun t=>?_⟩;rcases b4O hm t with hu|hu
  ·rw[hu];exact .undef _
  exact Rel.ren hR dep hu (hF t)
 grind
theorem b8V {f lp:Nat} (hS:Sim ρ lab H w) (hF:a6o ρ lab w fr arr) (h:b5z env f nr lp fr H = some (fr',H')) :
    ∃ρ' lab',Sim ρ' lab' H' w/\Ext lab w lab' w/\a4B nr ρ ρ'/\a6o ρ' lab' w fr' arr:=by
  unfold b5z at h;simp only[b99,fF_eq,b2w]at h;generalize hfr1:b9s _ _=fr1 at h;have hS:=hS.b4X fr1 (env.slk f lp);generalize b4X fr1 _ H=H at h hS;generalize hns:reach H 99 _ []=ns at h;have hn:ns.Nodup:=by rw[<-hns];exact a7S _ _ _ _ List.nodup_nil
  split at h
  · rename_i fr2 H2 hm hp hr
    obtain⟨hR,hS2,hE⟩:=hS.drop hn hp;obtain⟨c1,c2,_⟩:=b1u hp;obtain⟨g1,g2⟩:=b2o _ fr2 ns.length;rw[<-c2]at h;rw[<-c2]at *;have hmf:=b2s (a7t (env.byref f) fr2 H2.length).1 (H2.length+(a7t (env.byref f) fr2 H2.length).2.length);have hmr:=a7o H2 (a9y (a7t (env.byref f) fr2 H2.length).1 (H2.length+(a7t (env.byref f) fr2 H2.length).2.length)).2;obtain⟨ρ',k1,k2,k3,k4,k5,k6⟩:=hS2.b2A c1 g1 g2 hmf;have hF2 :=fun t=>by
     have h1:Rel (ρ.sub ns) (lab.drop ns) w (look t fr2) (arr.getD t undef):=by
       rcases b4O hm t with hu|hu
       · rw[hu];exact .undef _
       refine Rel.ren hR dep hu ?_;rw[<-hfr1];refine b7b _ t _ ?_;rcases c0o _ fr t with hv|hv
       · rw[hv];exact .undef _
       rw[hv];exact hF t
     have h2:=b6I _ k1 t _ fr2 H2.length k2 h1;exact b9B (Rho.le.refl _) t _ _ _ (fun j g3 g4=>k3 j g3 zOm) h2
    obtain⟨ρ2,m1,m2,m3,_⟩:=fullN_ok  k4 k5 hF2;split at h
    · obtain⟨ρ3,lab3,q1,q2,q3,q4⟩:=renum_ok m2 m3 h
      exact⟨ρ3,lab3,q1,hE.trans q2,((b34 hr).trans (a4B.of_le (k1.trans m1) nr) zOm).trans q3 zOm,q4⟩
    simp only[Option.some.injEq,Prod.mk.injEq]at h;rw[h.2]at m2;rw[h.1]at m3;exact⟨ρ2,_,m2,hE,(b34 hr).trans (a4B.of_le (k1.trans m1) nr) (Nat.le_refl _),m3⟩
  cases h
theorem c0g {v':V}(hS:Sim ρ lab H w)(hv:Rel ρ lab w v x)(h:finish nr v H=some (v',H')) :
  ∃ρ' lab',Sim ρ' lab' H' w/\Ext lab w lab' w/\a4B nr ρ ρ'/\Rel ρ' lab' w v' x/\Canon 0 H'/\nr<=H'.length:=by
 unfold finish at h;simp only[b99,b8g,b2w]at h;generalize hns:reach H 99 _ []=ns at h;have hn:ns.Nodup:=by rw[<-hns];exact a7S _ _ _ _ List.nodup_nil
 split at h
 ·rename_i v2 H2 hm hp hr;obtain⟨rfl,rfl⟩:=h;obtain⟨hR,hS2,hE⟩:=hS.drop hn hp;obtain⟨c1,c2,_⟩:=b1u hp;exact⟨_,_,hS2,hE,b34 hr,Rel.ren hR dep hm hv,c1,by rw[c2];exact b9n hr⟩
 grind
theorem c0v {m:Nat->Option Nat}:∀{L:Hp} {i0:Nat} {H H4:Hp},Canon i0 L ->(∀i i' j o o',hget i L=some o->hget i' L=some o'->m i=some j->m i'=some j->i=i')->a3r m L H=some H4 ->
  (∀i o,hget i L=some o -> ∃j o',m i=some j/\renO m o=some o'/\hget j H4=some o') /\ ∀j,(∀i o,hget i L=some o->m i≠some j)->hget j H4=hget j H
 | [],i0,H,H4,_,_,h=>by cases h;exact⟨fun i o h=>(by cases h),fun _ _=>rfl⟩
 |(s,o)::r,i0,H,H4,hc,hinj,h=>by
  obtain⟨rfl,hc2⟩:=hc;simp only[a3r]at h;split at h
  ·rename_i j0 o0 hj0 ho0;have hsr:∀i o,hget i r=some o->hget i ((s,o0)::r)=some o/\s≠i:=fun i o hi=>by
    have:=a5L hc2 i o hi;have hb:Nat.beq s i=false:=by
     cases hb:Nat.beq s i with
     | true=>have:=Nat.eq_of_beq_eq_true hb;omega
     | false=>rfl
    exact⟨by simp only[hget,hb];omega,zOm⟩
   have hsr':∀i o1,hget i r=some o1->hget i ((s,o)::r)=some o1/\s≠i:=fun i o1 hi=>by
    have h1:=hsr i o1 hi;simp only[hget]at h1 ⊢;split
    ·simp_all
    grind
   have hhead:hget s ((s,o)::r)=some o:=by simp[hget]
   obtain⟨k1,k2⟩:=c0v hc2 zGr h;refine⟨fun i o1 hi=>?_,fun j hj=>?_⟩
   ·simp only[hget]at hi;split at hi
    ·rename_i hb;cases hi;have:=Nat.eq_of_beq_eq_true hb;subst this;refine⟨j0,o0,hj0,ho0,?_⟩;rw[k2 j0 zGr,F4,if_pos rfl]
    grind
   rw[k2 j zGr,F4,if_neg];grind
  grind
theorem b6m:∀{n k:Nat},b1P H k n=true -> ∀i,i<n->hget (k+i) H=none
 | 0,_,_,i,hi=>zOm
 | n+1,k,h,i,hi=>by
  simp only[b1P,Bool.and_eq_true]at h;rcases Nat.lt_or_ge i n with h1|h1
  ·exact b6m h.2 i h1
  grind
def Rho.back (ρ ρ3:Rho)(H:Hp)(ns:List Nat)(k:Nat):Rho :=
  ⟨fun j=>match idx j ns with|some i=>ρ3.at_ i|none=>match hget j H with|some _=>ρ.at_ j|none=>if k<=j then ρ3.at_ (ns.length+(j-k))else none,
   fun j m=>match idx j ns with|some i=>ρ3.hd i m|none=>match hget j H with|some _=>ρ.hd j m|none=>if k<=j then ρ3.hd (ns.length+(j-k)) m else none⟩
def Lab.back (lab lab3:Lab)(ns:List Nat)(k:Nat):Lab:=fun b o=>match lab3 b o with
 | some (some i)=>(match L8 ns k i with|some j=>some (some j)|none=>none)
 | some none=>lab b o
 | none=>none
theorem c3r (h:∀i:Nat,ns[i]? ≠ some j):idx j ns=none:=by
 cases hq:idx j ns with
 | none=>rfl
 | some i=>exact absurd (b0u hq) (h i)
theorem b8G {ρn ρ3:Rho}{lab3:Lab}{w':World}{H3 H4:Hp}{nc:Nat}{v4:V}(hS:Sim ρ lab H w)(hn:ns.Nodup)
  (hpick:∀i j:Nat,ns[i]? = some j->hget j H≠none) (hnc:ns.length<=nc) (hle:(ρ.sub ns).le ρn) (S3:Sim ρ3 lab3 H3 w') (E3:Ext (lab.sub ns) w lab3 w') (R3:a4B nc ρn ρ3) (c3:Canon 0 H3)
  (hlen:nc<=H3.length) (hv:Rel ρ3 lab3 w' v x) (hv4:a2K (L8 ns k) dep v=some v4) (hm:a3r (L8 ns k) H3 H=some H4) (hf:b1P H k (H3.length-ns.length)=true) :
  ∃ρ4 lab4,Sim ρ4 lab4 H4 w'/\Ext lab w lab4 w'/\ρ.le ρ4/\Rel ρ4 lab4 w' v4 x:=by
 have hfr:=b6m hf;have hlt:∀i o,hget i H3=some o->i<H3.length:=fun i o h=>by have:=a5L c3 i o h;omega
 have hbn:∀i j,i<H3.length->L8 ns k i=some j ->(ns[i]? = some j/\i<ns.length/\idx j ns=some i)∨(ns.length<=i/\j=k+(i-ns.length)/\hget j H=none/\idx j ns=none):=by
  intro i j hi hb;unfold L8 at hb;split at hb
  ·rename_i j' hj';cases hb;refine .inl ⟨hj',?_,b7B hn hj'⟩;grind
  rename_i hj';cases hb;have hge:ns.length<=i:=by
   grind
  have hnone:=hfr (i-ns.length) zOm;exact .inr ⟨hge,rfl,hnone,c3r fun i' hi'=>hpick i' _ hi' hnone⟩
 have hinj:∀i i' j o o',hget i H3=some o->hget i' H3=some o'->L8 ns k i=some j->L8 ns k i'=some j->i=i':=by
  grind
 obtain⟨m1,m2⟩:=c0v c3 hinj hm;have hat3 :=fun i x h=>by
  have:=S3.adom i x h;cases hq:hget i H3 with
  | none=>grind
  | some o=>exact hlt i o hq
 have hhd3:∀i m x,ρ3.hd i m=some x->i<H3.length:=fun i m x h=>by
  obtain⟨e,m',h1,_⟩:=S3.hdom i m x h;grind
 have hR:Ren (L8 ns k) ρ3 (ρ.back ρ3 H ns k) lab3 (lab.back lab3 ns k):=by
  refine⟨fun i j x hb hx=>?_,fun i j m x hb hx=>?_,fun b o hl=>by simp only[Lab.back,hl]⟩
  ·rcases hbn i j (hat3 i x hx) hb with⟨p1,p2,p3⟩ |⟨p1,p2,p3,p4⟩
   ·simp only[Rho.back,p3];grind
   simp only[Rho.back,p4,p3];rw[if_pos zOm,p2,show ns.length+_=i from zOm];omega
  rcases hbn i j (hhd3 i m x hx) hb with⟨p1,p2,p3⟩ |⟨p1,p2,p3,p4⟩
  ·simp only[Rho.back,p3];omega
  simp only[Rho.back,p4,p3];rw[if_pos zOm,p2,show ns.length+_=i from zOm];omega
 have hle4:ρ.le (ρ.back ρ3 H ns k):=by
  refine⟨fun j x hx=>?_,fun j m x hx=>?_⟩
  ·simp only[Rho.back];split
   ·rename_i i hi;have hg:=b0u hi;have hil:i<ns.length:=by
     rcases Nat.lt_or_ge i ns.length with h|h
     ·exact h
     rw[List.getElem?_eq_none h]at hg;cases hg
    refine R3.at_ i x zOm (hle.at_ i x ?_);simp only[Rho.sub,hg];exact hx
   split
   ·exact hx
   rename_i hq;exact absurd hq (hS.adom j x hx)
  simp only[Rho.back];split
  ·rename_i i hi;have hg:=b0u hi;have hil:i<ns.length:=by
    rcases Nat.lt_or_ge i ns.length with h|h
    ·exact h
    rw[List.getElem?_eq_none h]at hg;cases hg
   refine R3.hd i m x zOm (hle.hd i m x ?_);simp only[Rho.sub,hg];exact hx
  split
  ·exact hx
  rename_i hq;obtain⟨e,m',h1,_⟩:=hS.hdom j m x hx;rw[hq]at h1;cases h1
 have hsub0:=Ext.a9p lab w ns;have hsubc:∀b o,lab b o=some none->lab.sub ns b o=some none:=fun b o h=>by simp only[Lab.sub,h]
 have hown:∀b o i,lab.sub ns b o=some (some i) -> ¬ ∀k,lab b o≠some (some k):=fun b o i hi hl=>by
  cases hq:lab b o with
  | none=>simp only[Lab.sub,hq]at hi;cases hi
  | some y =>
   cases y with
   | none=>simp only[Lab.sub,hq]at hi;cases hi
   | some j=>exact hl j hq
 have hE4:Ext lab w (lab.back lab3 ns k) w':=by
  refine⟨E3.size,E3.os,E3.tape,E3.output,fun b o hb hl=>?_,fun b o=>⟨fun h=>?_,fun h=>?_⟩,fun b o hb hl=>E3.cl b o hb (fun i hi=>?_),fun b hb hl=>E3.blk b hb (fun o i hi=>?_)⟩
  ·have:=E3.lb b o hb ((hsub0 b o).2 hl);simp only[Lab.back,this]
  ·simp only[Lab.back]at h;split at h
   ·split at h<;>cases h
   ·exact h
   cases h
  ·have:=(E3.ctx b o).2 (hsubc b o h);simp only[Lab.back,this,h]
  ·exact hown b o i hi hl
  exact hown b o i hi (hl o)
 have hold:∀j,(∀i o,hget i H3=some o->L8 ns k i≠some j)->hget j H≠none->idx j ns=none:=by
  intro j hno hj;refine c3r fun i hi=>?_;have hil:i<ns.length:=by
   rcases Nat.lt_or_ge i ns.length with h|h
   ·exact h
   rw[List.getElem?_eq_none h]at hi;cases hi
  obtain⟨o,ho⟩:=b4J c3 (Nat.zero_le i) zOm;refine hno i o ho ?_;unfold L8;rw[hi]
 refine⟨ρ.back ρ3 H ns k,lab.back lab3 ns k,Sim.mk' (hS.kp.ext hE4) (fun j o hj=>?_) (fun j m y h=>?_) (fun j y h=>?_) (fun b o j hl=>?_),hE4,hle4,Rel.ren hR dep hv4 hv⟩
 ·by_cases hit:∃i o3,hget i H3=some o3/\L8 ns k i=some j
  ·obtain⟨i,o3,h1,h2⟩:=hit;obtain⟨j',o',g1,g2,g3⟩:=m1 i o3 h1;rw[h2]at g1;cases g1;rw[hj]at g3;cases g3;exact a8g.ren hR h2 (fun b p hl=>by simp only[Lab.back,hl,h2]) (S3.obj h1) g2
  have hno:∀i o,hget i H3=some o->L8 ns k i≠some j:=fun i o h1 h2=>hit ⟨i,o,h1,h2⟩;have hj':=m2 j hno;rw[hj]at hj';have hid:=hold j hno (by rw[<-hj'];simp);refine(hS.obj hj'.symm).carry hE4 hle4 (fun b p hq=>?_) (fun b ms c hq=>by
   have hsl:∀p,lab.sub ns b p=some none:=fun p=>by simp only[Lab.sub,hq.lab,hid]
   have h3:∀p,lab3 b p=some none:=fun p=>(E3.ctx b p).2 (hsl p);exact⟨fun p=>by simp only[Lab.back,h3];exact hq.lab p,(E3.blk b hq.lt (fun o i hi=>by rw[hsl]at hi;cases hi)).trans hq.blk⟩)
  obtain⟨y,hy⟩:=hq.cell;have hb:=a1K hy;have hsl:lab.sub ns b p=some none:=by simp only[Lab.sub,hq.lab,hid]
  have h3:=(E3.ctx b p).2 hsl;obtain⟨f1,f2⟩:=E3.cl b p hb (fun i hi=>by rw[hsl]at hi;cases hi);exact⟨⟨by simp only[Lab.back,h3];exact hq.lab,f2.trans hq.free,y,f1.trans hy⟩,f1⟩
 ·simp only[Rho.back]at h;have viaI:∀i,L8 ns k i=some j->ρ3.hd i m=some y -> ∃e m',hget j H4=some (.tip e m')/\m<=m':=by
   intro i hb hx;obtain⟨e,m',g1,g2⟩:=S3.hdom i m y hx;obtain⟨j',o',k1,k2,k3⟩:=m1 i _ g1;rw[hb]at k1;cases k1;simp only[renO]at k2;cases k2;exact⟨e,m',k3,g2⟩
  split at h
  ·rename_i i hi;exact viaI i (by unfold L8;rw[b0u hi]) h
  rename_i hi;split at h
  ·rename_i o ho;obtain⟨e,m',g1,g2⟩:=hS.hdom j m y h;have hno:∀i o,hget i H3=some o->L8 ns k i≠some j:=fun i o h1 h2=>by
    rcases hbn i j (hlt _ _ h1) h2 with⟨p1,p2,p3⟩ |⟨p1,p2,p3,p4⟩
    ·rw[hi]at p3;cases p3
    rw[ho]at p3;cases p3
   rw[m2 j hno];exact⟨e,m',g1,g2⟩
  split at h
  ·rename_i hk;refine viaI (ns.length+(j-k)) ?_ h;unfold L8;rw[List.getElem?_eq_none zOm];simp only[Option.some.injEq];omega
  cases h
 ·simp only[Rho.back]at h;have viaI:∀i,L8 ns k i=some j->ρ3.at_ i=some y->hget j H4≠none:=by
   intro i hb hx;have:=S3.adom i y hx;cases hq:hget i H3 with
   | none=>exact absurd hq this
   | some o =>
    obtain⟨j',o',k1,k2,k3⟩:=m1 i _ hq;rw[hb]at k1;cases k1;rw[k3];simp
  split at h
  ·rename_i i hi;exact viaI i (by unfold L8;rw[b0u hi]) h
  rename_i hi;split at h
  ·rename_i o ho;have hno:∀i o,hget i H3=some o->L8 ns k i≠some j:=fun i o h1 h2=>by
    rcases hbn i j (hlt _ _ h1) h2 with⟨p1,p2,p3⟩ |⟨p1,p2,p3,p4⟩
    ·rw[hi]at p3;cases p3
    rw[ho]at p3;cases p3
   rw[m2 j hno,ho];simp
  split at h
  ·rename_i hk;refine viaI (ns.length+(j-k)) ?_ h;unfold L8;rw[List.getElem?_eq_none zOm];simp only[Option.some.injEq];omega
  cases h
 simp only[Lab.back]at hl;cases hq:lab3 b o with
 | none=>rw[hq]at hl;cases hl
 | some y=>exact S3.ldom b o y hq
end
end Go.Vm
