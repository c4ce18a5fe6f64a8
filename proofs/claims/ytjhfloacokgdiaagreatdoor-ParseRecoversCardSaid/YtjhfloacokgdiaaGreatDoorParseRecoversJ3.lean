/- Texts of ParseRecovers, joined. -/
import Derived.Test.YtjhfloacokgdiaaGreatDoorParseRecoversJ2
import Derived.KernelRfl
import Derived.Test.YtjhfloacokgdiaaGreatDoorProg
set_option maxRecDepth 100000
set_option maxHeartbeats 20000000
set_option linter.all false
namespace Go.Vm
def eqV1:V->V->Bool | .bool a,.bool b=>decide (a=b) | .int j a,.int k b=>decide (j=k)&&decide (a=b) | .str a,.str b=>decide (a=b) | .nilptr,.nilptr=>true | .slice .nil 0 [],.slice .nil 0 []=>true | .nilFunc,.nilFunc=>true | .nilIface,.nilIface=>true | .opq,.opq=>true|_,_=>false
theorem eqV1_ok {a b:V}(h:eqV1 a b=true):a=b:=by
 unfold eqV1 at h;split at h<;>first|rfl|cases h |(simp at h;simp[h])
def eqVs1:List V->List V->Bool | [],[]=>true|a::r,b::s=>eqV1 a b&&eqVs1 r s|_,_=>false
theorem c1T:∀{a b:List V},eqVs1 a b=true->a=b
 | [],[],_=>rfl
 | a::r,b::s,h=>by
  simp only[eqVs1,Bool.and_eq_true]at h;rw[eqV1_ok h.1,c1T h.2]
 | [],_::_,h=>by cases h
 | _::_,[],h=>by cases h
def isAggV:Value->Bool | .agg _=>true|_=>false
def infoB (P:Program)(t:Nat)(y:Ty):Bool :=
 match P.info? t with
 | none=>false
 | some i=>match i.zero with
  | none=>false
  | some z=>decide (i.size=y.size)&&decide (i.bytes=y.bytes)&&(match a1m b0S z.cells.toList with|some l=>eqVs1 l y.zero|none=>false)&&decide (z.cells.size=y.size)&&decide (isAggV z=a1l y.sh)
def shB (P:Program)(t:Nat):Sh->Bool
 | .bool=>match P.underlying t with|some .bool=>true|_=>false
 | .string=>match P.underlying t with|some .string=>true|_=>false
 | .int k=>match P.underlying t with|some (.int j)=>decide (j=k)|_=>false
 | .ptr e=>match P.underlying t with|some (.pointer j)=>decide (j=e)|_=>false
 | .slice e=>match P.underlying t with|some (.slice j)=>decide (j=e)|_=>false
 | .array n e=>match P.underlying t with|some (.array m j)=>decide (m=n)&&decide (j=e)|_=>false
 | .struct fs=>match P.underlying t with
  | some (.struct l)=>!P.stoodInHeld t&&decide ((l.toList.map fun f=>(f.type,f.offset))=fs)&&l.toList.all (fun f=>decide (f.name ≠ "_"))&&l.toList.all (fun f=>(P.info? f.type).isSome)
  | _=>false
 | .iface=>match P.underlying t with|some (.interface _)=>true|_=>false
 | .func=>match P.underlying t with|some (.func ..)=>true|_=>false
 | .other=>(P.underlying t).isSome
 | .map k e=>match P.underlying t with|some (.map i j)=>decide (i=k)&&decide (j=e)|_=>false
 | .blk fs=>match P.underlying t with
  | some (.struct l)=>decide ((l.toList.map fun f=>(f.type,f.offset))=fs)&&l.toList.all (fun f=>(P.info? f.type).isSome)
  | _=>false
def c2Z (P:Program)(t:Nat)(s:Sh):Bool :=
 match P.underlying t with
 | none=>false
 | some d=>(a1l s ||(match d with | .struct _ | .array ..=>false|_=>true))&&(match s,d with | .iface,_=>true|_,.interface _=>false|_,_=>true) &&
  (match s with | .iface | .array .. | .blk _=>true|_=>!P.eqGuardType P.depth t)
def tyB (P:Program)(t:Nat)(y:Ty):Bool:=infoB P t y&&shB P t y.sh&&c2Z P t y.sh
theorem c1F {z:Value}(h:isAggV z=false):z.cells = #[z]:=by cases z<;>first|rfl|cases h
theorem tyB_ok {P:Program}{t:Nat}{y:Ty}(h:tyB P t y=true):TyOk P t y:=by
 simp only[tyB,Bool.and_eq_true]at h;obtain⟨⟨h1,h2⟩,h3⟩:=h;refine⟨?_,?_,?_,?_,?_,?_⟩
 ·unfold infoB at h1;split at h1
  ·cases h1
  ·rename_i i hi;split at h1
   ·cases h1
   ·rename_i z hz;simp only[Bool.and_eq_true,decide_eq_true_eq]at h1;obtain⟨⟨⟨⟨g1,g2⟩,g3⟩,g4⟩,g5⟩:=h1;split at g3
    ·rename_i l hl;have:=c1T g3;subst this;refine⟨i,z,hi,g1,g2,hz,hl,g4,fun ha=>?_,fun ha=>c1F (g5.trans ha)⟩;rw[ha]at g5;cases z<;>first|exact⟨_,rfl⟩|cases g5
    ·cases g3
 ·unfold shB at h2;split at h2<;>rename_i hs<;>simp only[hs]
  ·split at h2<;>first|assumption|cases h2
  ·split at h2<;>first|assumption|cases h2
  ·split at h2
   ·rename_i hu;simp only[decide_eq_true_eq]at h2;subst h2;exact hu
   ·cases h2
  ·split at h2
   ·rename_i hu;simp only[decide_eq_true_eq]at h2;subst h2;exact hu
   ·cases h2
  ·split at h2
   ·rename_i hu;simp only[decide_eq_true_eq]at h2;subst h2;exact hu
   ·cases h2
  ·split at h2
   ·rename_i hu;simp only[Bool.and_eq_true,decide_eq_true_eq]at h2;obtain⟨rfl,rfl⟩:=h2;exact hu
   ·cases h2
  ·split at h2
   ·rename_i l hu;simp only[Bool.and_eq_true,Bool.not_eq_true',decide_eq_true_eq]at h2;obtain⟨⟨⟨g1,g2⟩,g3⟩,g4⟩:=h2;exact⟨g1,l,hu,g2,by simpa using g3,g4⟩
   ·cases h2
  ·split at h2
   ·rename_i ms hu;exact⟨ms,hu⟩
   ·cases h2
  ·split at h2
   ·rename_i a b c hu;exact⟨a,b,c,hu⟩
   ·cases h2
  ·split at h2
   ·rename_i hu;simp only[Bool.and_eq_true,decide_eq_true_eq]at h2;obtain⟨rfl,rfl⟩:=h2;exact hu
   ·cases h2
  ·split at h2
   ·rename_i l hu;simp only[Bool.and_eq_true,decide_eq_true_eq]at h2;exact⟨l,hu,h2.1,h2.2⟩
   ·cases h2
 ·intro ha d hd;unfold c2Z at h3;rw[hd]at h3;simp only[ha,Bool.false_or,Bool.and_eq_true]at h3;obtain⟨⟨g,_⟩,_⟩:=h3;constructor
  ·rintro fs rfl;cases g
  ·rintro n e rfl;cases g
 ·unfold c2Z at h3;split at h3
  ·cases h3
  ·rename_i d hd;exact⟨d,hd⟩
 ·intro hs ms hu;unfold c2Z at h3;rw[hu]at h3;simp only[Bool.and_eq_true]at h3;obtain⟨⟨_,g⟩,_⟩:=h3;cases hy:y.sh<;>rw[hy]at g hs<;>first|exact hs|cases g
 ·intro hs;unfold c2Z at h3;split at h3
  ·cases h3
  ·simp only[Bool.and_eq_true]at h3;obtain⟨_,g⟩:=h3;cases hy:y.sh<;>rw[hy]at g hs<;>first|exact hs.elim|simpa using g
def tysB (P:Program)(T:List (Nat×Ty)):Bool:=T.all fun p=>tyB P p.1 p.2
theorem a9C {P:Program}:∀{T:List (Nat×Ty)},tysB P T=true->TOk P T
 | [],_,t,y,h=>by cases h
 |(s,z)::r,hb,t,y,h=>by
  simp only[tysB,List.all_cons,Bool.and_eq_true]at hb;simp only[K9]at h;split at h
  ·rename_i hs;cases h;have:=Nat.eq_of_beq_eq_true hs;subst this;exact tyB_ok hb.1
  ·exact a9C hb.2 t y h
def b2i (env:Env)(l:List Nat):Bool:=l.all fun g=>match env.P.funcs[g]? with
 | none=>true
 | some fn=>!(fn.name == "runtime.NumGoroutine")&&match fn.body with
  | none=>true
  | some c=>a6S env g fn.ntmps c
theorem c1Z {k:Nat}:∀{l:List Nat},has k l=true->k∈l
 | [],h=>by cases h
 | a::r,h=>by
  simp only[has]at h;split at h
  ·rename_i hb;rw[Nat.eq_of_beq_eq_true hb];exact List.mem_cons_self ..
  ·exact List.mem_cons_of_mem _ (c1Z h)
theorem a8u {env:Env} {l:List Nat} (hok:∀g,env.ok g=true->has g l=true) (h:b2i env l=true):∀g fn c,env.ok g=true->env.P.funcs[g]? = some fn->fn.body=some c->a6S env g fn.ntmps c=true/\(fn.name == "runtime.NumGoroutine")=false:=by
 intro g fn c h1 h2 h3;rw[b2i,List.all_eq_true]at h;have:=h g (c1Z (hok g h1));rw[h2]at this;simp only[h3,Bool.and_eq_true,Bool.not_eq_true']at this;exact⟨this.2,this.1⟩
end Go.Vm
namespace Go.Proofs.YtjhfloacokgdiaaGreatDoor.Sc
open Go Go.Vm
def T:List (Nat×Ty):=[(3,⟨.int .i64,1,8,[.i 0]⟩),(4,⟨.bool,1,1,[.bool false]⟩),(5,⟨.int .u8,1,1,[.int .u8 0]⟩),(9,⟨.string,1,16,[.str []]⟩),(36,⟨.int .i64,1,8,[.i 0]⟩),(38,⟨.struct [(36,0),(3,1)],2,16,[.i 0,.i 0]⟩),(41,⟨.slice 83,1,24,[.slice .nil 0 []]⟩),(58,⟨.slice 5,1,24,[.slice .nil 0 []]⟩),(62,⟨.slice 9,1,24,[.slice .nil 0 []]⟩),(76,⟨.ptr 80,1,8,[.nilptr]⟩),(78,⟨.struct [(9,0),(3,1)],2,24,[.str [],.i 0]⟩),(80,⟨.struct [(78,0),(41,2),(38,3)],5,64,[.str [],.i 0,.slice .nil 0 [],.i 0,.i 0]⟩),(83,⟨.struct [(3,0),(9,1),(3,2),(3,3)],4,40,[.i 0,.str [],.i 0,.i 0]⟩),(108,⟨.func,1,8,[.nilFunc]⟩),(131,⟨.ptr 78,1,8,[.nilptr]⟩),(134,⟨.array 32 9,32,512,[.str [],.str [],.str [],.str [],.str [],.str [],.str [],.str [],.str [],.str [],.str [],.str [],.str [],.str [],.str [],.str [],.str [],.str [],.str [],.str [],.str [],.str [],.str [],.str [],.str [],.str [],.str [],.str [],.str [],.str [],.str [],.str []]⟩),(136,⟨.array 27 9,27,432,[.str [],.str [],.str [],.str [],.str [],.str [],.str [],.str [],.str [],.str [],.str [],.str [],.str [],.str [],.str [],.str [],.str [],.str [],.str [],.str [],.str [],.str [],.str [],.str [],.str [],.str [],.str []]⟩)]
def keep:Nat->Nat->List Nat|38,2=>[0,1,2,7]|77,0=>[0]|81,5=>[0,1,5,6,7,8]|86,3=>[0,3,4]|122,2=>[0,1,5]|126,2=>[0,1,5,6]|_,_=>[]
def okL:List Nat:=[16,38,125,127,77,78,79,80,81,82,83,84,85,86,87,120,121,122,123,124,126]
def b1e:List Nat:=[16,125,127,82,84,120,123,124]
noncomputable def env:Env:={P:=Tryz.prog,T:=T,keep:=keep,byref:=fun f s=>match f,s with   | _,_=>none,meth:=fun _ _=>none,tags:=fun _=>false,argTags:=fun _=>false,quiet:=fun g=>has g b1e,loose:=fun _=>false,intr:=fun _=>none,ok:=fun g=>has g okL}
theorem tys:tysB Tryz.prog T=true:=by kernel_rfl
theorem codes:b2i env okL=true:=by kernel_rfl
theorem mixed:Tryz.prog.follows .mixedOrders=true:=by kernel_rfl
theorem b7t:a8z env:=by
 intro _ _ _ h;cases h
theorem b6X:a7q env:=⟨b7t,a9C tys,mixed,a8u (fun _ h=>h) codes,(fun _ _ h=>by cases h),(fun _ _ _ h=>by cases h)⟩
def b6T (n:Int):Bool:=leB 48 n&&leB n 57
theorem c41I (n:Int):E env (.call 82 [.int .u8 n]) []=some (.ret (.bool (b6T n)) []):=by
 refine a0P rfl Tryz.func82 rfl rfl ?_;refine eSG (oB 1 rfl (eSG (oA 3 rfl ?_)));refine a0l rfl rfl rfl (fun h1=>?_) (fun h1=>?_)
 ·refine oB 4 rfl ?_;exact H9 ⟨_,rfl,by show some (V.bool _,_)=some (V.bool _,_);simp[b6T, *]⟩
 ·refine oB 4 rfl ?_;exact H9 ⟨_,rfl,by show some (V.bool _,_)=some (V.bool _,_);simp[b6T, *]⟩
def U5 (b:UInt8):Bool:=decide (48<=b.toNat/\b.toNat<=57)
theorem c6U (b:UInt8):b6T (b.toNat:Nat)=U5 b:=by
 simp only[b6T,U5,leB,eqB];rw[Bool.eq_iff_iff];simp;omega
theorem c41 (b:UInt8):E env (.call 82 [.int .u8 (b.toNat:Nat)]) []=some (.ret (.bool (U5 b)) []):=by rw[<-c6U];exact c41I _
def a7j (n:Int):Bool:=(leB 97 n&&leB n 122) ||(leB 65 n&&leB n 90)||eqB n 95
theorem c43I (n:Int):E env (.call 84 [.int .u8 n]) []=some (.ret (.bool (a7j n)) []):=by
 refine a0P rfl Tryz.func84 rfl rfl ?_;refine eSG (oB 1 rfl (eSG (oA 3 rfl ?_)));refine a0l rfl rfl rfl (fun h1=>?_) (fun h1=>?_)
 ·refine oA 4 rfl ?_;refine a0l rfl rfl rfl (fun h2=>?_) (fun h2=>?_)
  ·refine oB 12 rfl ?_;exact H9 ⟨_,rfl,by show some (V.bool _,_)=some (V.bool _,_);simp[a7j, *]⟩
  ·refine oA 3 rfl ?_;refine a0l rfl rfl rfl (fun h3=>?_) (fun h3=>?_)
   ·refine oA 5 rfl ?_;refine a0l rfl rfl rfl (fun h4=>?_) (fun h4=>?_)
    ·refine oB 4 rfl ?_;exact H9 ⟨_,rfl,by show some (V.bool _,_)=some (V.bool _,_);simp[a7j, *]⟩
    ·refine oB 4 rfl ?_;exact H9 ⟨_,rfl,by show some (V.bool _,_)=some (V.bool _,_);simp[a7j, *]⟩
   ·refine oB 9 rfl ?_;exact H9 ⟨_,rfl,by show some (V.bool _,_)=some (V.bool _,_);simp[a7j, *]⟩
 ·refine oA 7 rfl ?_;refine a0l rfl rfl rfl (fun h5=>?_) (fun h5=>?_)
  ·refine oA 5 rfl ?_;refine a0l rfl rfl rfl (fun h6=>?_) (fun h6=>?_)
   ·refine oB 4 rfl ?_;exact H9 ⟨_,rfl,by show some (V.bool _,_)=some (V.bool _,_);simp[a7j, *]⟩
   ·refine oB 4 rfl ?_;exact H9 ⟨_,rfl,by show some (V.bool _,_)=some (V.bool _,_);simp[a7j, *]⟩
  ·refine oB 9 rfl ?_;exact H9 ⟨_,rfl,by show some (V.bool _,_)=some (V.bool _,_);simp[a7j, *]⟩
def a1b (b:UInt8):Bool:=decide ((97<=b.toNat/\b.toNat<=122)∨(65<=b.toNat/\b.toNat<=90)∨b.toNat=95)
theorem c4l (b:UInt8):a7j (b.toNat:Nat)=a1b b:=by
 simp only[a7j,a1b,leB,eqB];rw[Bool.eq_iff_iff];simp;omega
theorem c43 (b:UInt8):E env (.call 84 [.int .u8 (b.toNat:Nat)]) []=some (.ret (.bool (a1b b)) []):=by rw[<-c4l];exact c43I _
def b3Y (n:Int):Bool:=eqB n 9||eqB n 10||eqB n 13||eqB n 32
theorem c61I (n:Int):E env (.call 120 [.int .u8 n]) []=some (.ret (.bool (b3Y n)) []):=by
 refine a0P rfl Tryz.func120 rfl rfl ?_;refine eSG (oB 1 rfl (eSG (oA 3 rfl ?_)));refine a0l rfl rfl rfl (fun h1=>?_) (fun h1=>?_)
 ·refine oB 12 rfl ?_;exact H9 ⟨_,rfl,by show some (V.bool _,_)=some (V.bool _,_);simp[b3Y, *]⟩
 ·refine oA 4 rfl ?_;refine a0l rfl rfl rfl (fun h2=>?_) (fun h2=>?_)
  ·refine oB 8 rfl ?_;exact H9 ⟨_,rfl,by show some (V.bool _,_)=some (V.bool _,_);simp[b3Y, *]⟩
  ·refine oA 4 rfl ?_;refine a0l rfl rfl rfl (fun h3=>?_) (fun h3=>?_)
   ·refine oB 4 rfl ?_;exact H9 ⟨_,rfl,by show some (V.bool _,_)=some (V.bool _,_);simp[b3Y, *]⟩
   ·refine oB 4 rfl ?_;exact H9 ⟨_,rfl,by show some (V.bool _,_)=some (V.bool _,_);simp[b3Y, *]⟩
def a6q (b:UInt8):Bool:=decide (b.toNat=9∨b.toNat=10∨b.toNat=13∨b.toNat=32)
theorem c6L (b:UInt8):b3Y (b.toNat:Nat)=a6q b:=by
 simp only[b3Y,a6q,leB,eqB];rw[Bool.eq_iff_iff];simp;omega
theorem c61 (b:UInt8):E env (.call 120 [.int .u8 (b.toNat:Nat)]) []=some (.ret (.bool (a6q b)) []):=by rw[<-c6L];exact c61I _
def nlI (n:Int):Bool:=!eqB n 10
theorem c64I (n:Int):E env (.call 123 [.int .u8 n]) []=some (.ret (.bool (nlI n)) []):=by
 refine a0P rfl Tryz.func123 rfl rfl ?_;refine eSG (oB 1 rfl (eSG (oB 3 rfl ?_)));exact H9 ⟨_,rfl,by show some (V.bool _,_)=some (V.bool _,_);simp[nlI, *]⟩
def nlB (b:UInt8):Bool:=decide (b.toNat≠10)
theorem nlB_eq (b:UInt8):nlI (b.toNat:Nat)=nlB b:=by
 simp only[nlI,nlB,leB,eqB];rw[Bool.eq_iff_iff];simp;omega
theorem c64 (b:UInt8):E env (.call 123 [.int .u8 (b.toNat:Nat)]) []=some (.ret (.bool (nlB b)) []):=by rw[<-nlB_eq];exact c64I _
def a2J (b:UInt8):Bool:=a1b b||U5 b
theorem c65 (b:UInt8):E env (.call 124 [.int .u8 (b.toNat:Nat)]) []=some (.ret (.bool (a2J b)) []):=by
 refine a0P rfl Tryz.func124 rfl rfl ?_;refine eSG (oB 1 rfl (eSG (oA 1 rfl ?_)));refine a2R rfl rfl rfl rfl rfl (c43 ..) rfl ?_;refine oA 1 rfl ?_;refine a0l rfl rfl rfl (fun h1=>?_) (fun h1=>?_)
 ·refine oB 4 rfl ?_;exact H9 ⟨_,rfl,by show some (V.bool _,_)=some (V.bool _,_);simp[a2J, *]⟩
 ·refine oA 1 rfl ?_;refine a2R rfl rfl rfl rfl rfl (c41 ..) rfl ?_;refine oB 2 rfl ?_;exact H9 ⟨_,rfl,by show some (V.bool _,_)=some (V.bool _,_);simp[a2J, *]⟩
def scH (s:List UInt8)(i n:Nat)(tc:List V)(c a:Int)(e:Nat):Hp:=[(0,.row [.str s,.i i,.slice (.tag 1) n tc,.i c,.i a]),(1,.tip e n)]
def a2n (s:List UInt8)(j:Nat):Int:=((s.getD j 0).toNat:Nat)
section
variable (s:List UInt8) (i n:Nat) (tc:List V) (c a:Int) (e:Nat)
theorem c37:E env (.call 78 [.ptr 0 0]) (scH s i n tc c a e)=some (.ret (.bool (leB s.length i)) (scH s i n tc c a e)):=by
 refine a0P rfl Tryz.func78 rfl rfl ?_;refine eSG (oB 1 rfl (eSG (oB 11 rfl ?_)));exact H9 ⟨_,rfl,rfl⟩
theorem c38 (k x:Int):E env (.call 79 [.ptr 0 0,.i k,.i x]) (scH s i n tc c a e)=some (.ret (.bool false) (scH s i n tc k x e)):=by
 refine a0P rfl Tryz.func79 rfl rfl ?_;refine eSG (oB 1 rfl (eSG (oA 3 rfl ?_)));refine oD ?_;refine oB 3 rfl (eSG (oB 1 rfl ?_));exact H9 ⟨_,rfl,rfl⟩
theorem c39:E env (.call 80 [.ptr 0 0]) (scH s i n tc c a e)=some (.ret (.bool (!leB 3000 n)) (match leB 3000 n with|true=>scH s i n tc 2 i e|false=>scH s i n tc c a e)):=by
 refine a0P rfl Tryz.func80 rfl rfl ?_;refine eSG (oB 1 rfl (F7 (eSG (oB 6 rfl ?_))));refine a0d rfl (fun h1=>?_) (fun h1=>?_)
 ·refine eSG (oA 6 rfl ?_);refine oV (c38 ..) ?_;refine oB 1 rfl ?_;exact H9 ⟨_,rfl,by rw[h1];rfl⟩
 ·refine L8 (eSG (oB 1 rfl ?_));exact H9 ⟨_,rfl,by rw[h1];rfl⟩
theorem c62 (k:Nat)(hk:i+k<9223372036854775808):E env (.call 121 [.ptr 0 0,.i k]) (scH s i n tc c a e)=some (.ret (.int .u8 (a2n s (i+k))) (scH s i n tc c a e)):=by
 refine a0P rfl Tryz.func121 rfl rfl ?_;refine eSG (oB 1 rfl (F7 (eSG (oA 5 rfl ?_))));refine l7 rfl rfl (addN (by omega)) ?_;refine oB 6 rfl ?_;refine a0d rfl (fun h1=>?_) (fun h1=>?_)
 ·rw[ltN,decide_eq_true_eq]at h1;refine eSG (oA 9 rfl ?_);refine l7 rfl rfl (addN (by omega)) ?_;refine l7 rfl rfl (a3a (a2o (by omega)) rfl) ?_;refine oB 1 rfl ?_;exact H9 ⟨_,rfl,rfl⟩
 ·rw[ltN,decide_eq_false_iff_not]at h1;have:a2n s (i+k)=0:=by simp only[a2n];rw[List.getD_eq_getElem?_getD,List.getElem?_eq_none (by omega)];rfl
  rw[this];refine L8 (eSG (oB 1 rfl ?_));exact H9 ⟨_,rfl,rfl⟩
theorem c46 (k:Int)(t:List UInt8)(f:Nat)(hf:f<=i)(hi:i<9223372036854775808)(he:e=0∨e=4)(hn:n<=100000)(htc:tc.length=n*4) :
  E env (.call 87 [.ptr 0 0,.i k,.str t,.i f]) (scH s i n tc c a e)=some (.ret (.tuple []) (scH s i (n+1) (tc++[.i k,.str t,.i f,.i ((i-f:Nat):Int)]) c a 4)):=by
 refine a0P rfl Tryz.func87 rfl rfl ?_;refine o7 (oA 14 rfl ?_);refine l7 rfl rfl (subN (by omega) (by omega)) ?_;refine oD ?_;refine oA 1 rfl ?_;refine a8x rfl rfl rfl rfl rfl rfl rfl rfl rfl rfl rfl (b5g (a3O rfl) rfl) rfl rfl he rfl htc.symm (by show(n+1)*41<=_;omega) rfl rfl rfl ?_;refine oB 3 rfl ?_;exact⟨_,rfl,rfl⟩
end
variable {p:UInt8->Bool}
def a1c (p:UInt8->Bool)(s:List UInt8)(i:Nat):Nat:=i+((s.drop i).takeWhile p).length
theorem a3y {s:List UInt8}{i:Nat}(h:i<s.length):s.drop i=s.getD i 0::s.drop (i+1):=by
 rw[List.drop_eq_getElem_cons h];simp[h]
theorem runE_end {s:List UInt8}{i:Nat}(h:s.length<=i):a1c p s i=i:=by simp[a1c,List.drop_eq_nil_of_le h]
theorem runE_no {s:List UInt8}{i:Nat}(h:i<s.length)(hp:p (s.getD i 0)=false):a1c p s i=i:=by
 simp only[a1c,a3y h,List.takeWhile_cons,hp];rfl
theorem b7Z {s:List UInt8}{i:Nat}(h:i<s.length)(hp:p (s.getD i 0)=true):a1c p s i=a1c p s (i+1):=by
 simp only[a1c,a3y h,List.takeWhile_cons,hp,if_true,List.length_cons];omega
theorem a9y {s:List UInt8}{i:Nat}(h:i<=s.length):a1c p s i<=s.length:=by
 have h1:=List.takeWhile_sublist p (l:=s.drop i);have:=h1.length_le;simp only[a1c,List.length_drop]at this ⊢;omega
theorem c0Y {s:List UInt8}{i:Nat}:i<=a1c p s i:=by simp only[a1c];omega
section
variable (s:List UInt8) (i n:Nat) (tc:List V) (c a:Int) (e:Nat)
theorem c63 (g:Nat)(p:UInt8->Bool)(hq:env.quiet g=true)(hp:∀b:UInt8,E env (.call g [.int .u8 (b.toNat:Nat)]) []=some (.ret (.bool (p b)) []))(hi:i<=s.length)(hs:s.length<4611686018427387904) :
  E env (.call 122 [.ptr 0 0,.func (.func g) [] []]) (scH s i n tc c a e)=some (.ret (.str ((s.take (a1c p s i)).drop i)) (scH s (a1c p s i) n tc c a e)):=by
 obtain⟨r,hr⟩:∃r,r=a1c p s i:=⟨_,rfl⟩
 rw[<-hr];refine a0P rfl Tryz.func122 rfl rfl ?_;refine eSG (oB 1 rfl (eSG (oB 5 rfl (F7 ?_))));refine V4 ?_;refine a5D rfl ?_;refine a8N (fun _=>[(0,.ptr 0 0),(1,.func (.func g) [] []),(5,.i i)]) (fun j=>scH s j n tc c a e) (fun j=>i<=j/\j<=s.length/\r=a1c p s j) (fun j=>s.length-j) i ⟨Nat.le_refl _,hi,hr⟩ ?_;intro j ⟨hij,hj,hr⟩ ih;refine F7 (eSG (oA 1 rfl ?_));refine oV (c37 ..) ?_;refine oA 2 rfl ?_;refine a0l rfl rfl rfl (fun h1=>?_) (fun h1=>?_)
 ·replace h1:j<s.length:=by simpa [leN_]using h1
  refine oA 9 rfl ?_;refine l7 rfl rfl (a3a (a2o (by omega)) rfl) ?_;refine b9o rfl rfl rfl hq rfl rfl (hp _) rfl ?_;refine oB 1 rfl ?_;refine a0d rfl (fun h2=>?_) (fun h2=>?_)
  ·refine L8 ?_;refine V4 ?_;refine o7 (oA 4 rfl ?_);refine l7 rfl rfl (add1 (by omega)) ?_;refine oB 3 rfl ?_;exact⟨_,_,rfl,ih (j+1) (by omega) ⟨by omega,by omega,by rw[hr,b7Z h1 h2]⟩⟩
  ·rw[runE_no h1 h2]at hr;subst hr;refine a4x ?_;refine eSG (oA 9 rfl ?_);refine l7 rfl rfl (a3a (b2r (by omega) (by omega)) rfl) ?_;refine oB 1 rfl ?_;exact H9 ⟨_,rfl,rfl⟩
 ·replace h1:s.length<=j:=by simpa [leN_]using h1
  rw[runE_end h1]at hr;subst hr;refine oB 12 rfl ?_;refine a02 rfl rfl ?_;refine a4x ?_;refine eSG (oA 9 rfl ?_);refine l7 rfl rfl (a3a (b2r (by omega) (by omega)) rfl) ?_;refine oB 1 rfl ?_;exact H9 ⟨_,rfl,rfl⟩
end
def a7Z:Bool->List UInt8->Nat
 | _,[]=>0
 | true,b::r=>a7Z (nlB b) r+1
 | false,b::r=>match a6q b with
  | true=>a7Z false r+1
  | false=>match decide (b.toNat=47)&&decide ((r.headD 0).toNat=47)with
   | true=>a7Z true r+1
   | false=>0
def a0W (s:List UInt8)(i:Nat):Nat:=i+a7Z false (s.drop i)
theorem b7c (s:List UInt8)(i:Nat):(s.drop i).headD 0=s.getD i 0:=by
 rcases Nat.lt_or_ge i s.length with h|h
 ·rw[a3y h];rfl
 ·rw[List.drop_eq_nil_of_le h,List.getD_eq_getElem?_getD,List.getElem?_eq_none h];rfl
theorem b5v {s:List UInt8}{i:Nat}(h:s.length<=i):a0W s i=i:=by simp[a0W,List.drop_eq_nil_of_le h,a7Z]
theorem a9A {s:List UInt8}{i:Nat}(h:i<s.length)(hb:a6q (s.getD i 0)=true):a0W s i=a0W s (i+1):=by
 simp only[a0W,a3y h,a7Z,hb];omega
theorem b78 {s:List UInt8}{i:Nat}(h:i<s.length)(hb:a6q (s.getD i 0)=false)(hc:(s.getD i 0).toNat≠47∨(s.getD (i+1) 0).toNat≠47):a0W s i=i:=by
 have:(decide ((s.getD i 0).toNat=47)&&decide (((s.drop (i+1)).headD 0).toNat=47))=false:=by
  rw[b7c,Bool.and_eq_false_iff,decide_eq_false_iff_not,decide_eq_false_iff_not];exact hc
 simp only[a0W,a3y h,a7Z,hb,this];rfl
theorem b79:∀l:List UInt8,a7Z true l =(l.takeWhile nlB).length+a7Z false (l.drop (l.takeWhile nlB).length)
 | []=>rfl
 | b::r=>by
  cases hb:nlB b with
  | true =>
   simp only[a7Z,hb,List.takeWhile_cons,if_true,List.length_cons,List.drop_succ_cons];rw[b79 r];omega
  | false =>
   have h2:a6q b=true:=by simp only[nlB,a6q,decide_eq_false_iff_not,decide_eq_true_eq]at hb ⊢;omega
   simp only[a7Z,hb,h2,List.takeWhile_cons,Bool.false_eq_true,if_false,List.length_nil,List.drop_zero];omega
theorem c7L {s:List UInt8}{i:Nat}(h:i<s.length)(h1:(s.getD i 0).toNat=47)(h2:(s.getD (i+1) 0).toNat=47):a0W s i=a0W s (a1c nlB s i):=by
 have hb:a6q (s.getD i 0)=false:=by simp only[a6q,decide_eq_false_iff_not];omega
 have hn:nlB (s.getD i 0)=true:=by simp only[nlB,decide_eq_true_eq];omega
 have hc:(decide ((s.getD i 0).toNat=47)&&decide (((s.drop (i+1)).headD 0).toNat=47))=true:=by rw[b7c,h1,h2];rfl
 rw[b7Z h hn];simp only[a0W,a3y h,a7Z,hb,hc,b79,a1c,List.drop_drop];omega
theorem b3q {p:UInt8->Bool}{s:List UInt8}{i:Nat}(h:i<s.length)(hp:p (s.getD i 0)=true):i<a1c p s i:=by
 rw[b7Z h hp];have:=c0Y (p:=p) (s:=s) (i:=i+1);omega
section
variable (s:List UInt8) (i n:Nat) (tc:List V) (c a:Int) (e:Nat)
theorem c36 (hi:i<=s.length)(hs:s.length<4611686018427387904):E env (.call 77 [.ptr 0 0]) (scH s i n tc c a e)=some (.ret (.tuple []) (scH s (a0W s i) n tc c a e)):=by
 obtain⟨r,hr⟩:∃r,r=a0W s i:=⟨_,rfl⟩
 rw[<-hr];refine a0P rfl Tryz.func77 rfl rfl ?_;refine V4 ?_;refine a5D rfl ?_;refine a8N (fun _=>[(0,.ptr 0 0)]) (fun j=>scH s j n tc c a e) (fun j=>j<=s.length/\r=a0W s j) (fun j=>s.length-j) i ⟨hi,hr⟩ ?_;intro j ⟨hj,hr⟩ ih;refine F7 (eSG (oA 1 rfl ?_));refine oV (c37 ..) ?_;refine oB 1 rfl ?_;refine a0d rfl (fun h1=>?_) (fun h1=>?_)
 ·replace h1:j<s.length:=by simpa [leN_]using h1
  refine L8 ?_;refine V4 ?_;refine V4 ?_;refine eSG (oA 8 rfl ?_);refine l7 rfl rfl (a3a (a2o (by omega)) rfl) ?_;refine a2R rfl rfl rfl rfl rfl (c61 ..) rfl ?_;refine oB 1 rfl ?_;refine a0d rfl (fun h2=>?_) (fun h2=>?_)
  ·refine o7 (oA 4 rfl ?_);refine l7 rfl rfl (add1 (by omega)) ?_;refine oB 3 rfl ?_;exact⟨_,_,rfl,ih (j+1) (by omega) ⟨by omega,by rw[hr,a9A h1 h2]⟩⟩
  ·refine eSG (oA 8 rfl ?_);refine l7 rfl rfl (a3a (a2o (by omega)) rfl) ?_;refine oA 2 rfl ?_;refine a0l rfl rfl rfl (fun h3=>?_) (fun h3=>?_)
   ·simp only[eqB,a2n,beq_iff_eq,beq_eq_false_iff_ne,ne_eq,Int.toNat_natCast]at h3;refine oA 1 rfl ?_;refine oV (c62 s j n tc c a e 1 (by omega)) ?_;refine oB 3 rfl ?_;refine a0d rfl (fun h4=>?_) (fun h4=>?_)
    ·simp only[eqB,a2n,beq_iff_eq,beq_eq_false_iff_ne,ne_eq,Int.toNat_natCast]at h4;refine o7 (oA 1 rfl ?_);refine oV (c63 s j n tc c a e 123 nlB rfl c64 hj hs) ?_;refine G5 ?_;exact⟨_,_,rfl,ih (a1c nlB s j) (by have:=b3q (p:=nlB) h1 (by simp only[nlB,decide_eq_true_eq];omega);omega) ⟨a9y hj,by rw[hr,c7L h1 (by omega) (by omega)]⟩⟩
    ·simp only[eqB,a2n,beq_iff_eq,beq_eq_false_iff_ne,ne_eq,Int.toNat_natCast]at h4;rw[b78 h1 h2 (.inr (by omega))]at hr;subst hr;exact H9 ⟨_,rfl,rfl⟩
   ·simp only[eqB,a2n,beq_iff_eq,beq_eq_false_iff_ne,ne_eq,Int.toNat_natCast]at h3;rw[b78 h1 h2 (.inl (by omega))]at hr;subst hr;refine oB 5 rfl ?_;refine a02 rfl rfl ?_;exact H9 ⟨_,rfl,rfl⟩
 ·replace h1:s.length<=j:=by simpa [leN_]using h1
  rw[b5v h1]at hr;subst hr;refine a4x ?_;exact⟨_,rfl,rfl⟩
end
def b0d:List UInt8:=[57,50,50,51,51,55,50,48,51,54,56,53,52,55,55,53,56,48,55]
def a4y (w:List UInt8)(nx:UInt8):Bool:=(ltB 1 w.length&&eqB (w.getD 0 0).toNat 48)||ltB 19 w.length ||(eqB w.length 19 && !(ltS w b0d||eqS w b0d))||a1b nx
def b3G (k:Int)(w:List UInt8)(i l:Nat):List V:=[.i k,.str w,.i i,.i l]
theorem bzz {P:Prop}(h:P:=by rw[<-hb];clear hb h63;(try simp only[Int.toNat_zero,Nat.add_zero]at *);simp only[*,a4y,b0d,Bool.and_true,Bool.true_and,Bool.and_false,Bool.false_and,Bool.or_true,Bool.true_or,Bool.or_false,Bool.false_or,Bool.not_true,Bool.not_false]):P:=h
section
variable (s:List UInt8) (i n:Nat) (tc:List V) (c a:Int) (e:Nat)
theorem c42 (hi:i<=s.length)(hs:s.length<4611686018427387904)(he:e=0∨e=4)(hn:n<=100000)(htc:tc.length=n*4)(r:Nat)(hr:a1c U5 s i=r)(w:List UInt8)(hw:(s.take r).drop i=w)(b:Bool)(hb:a4y w (s.getD r 0)=b) :
  E env (.call 83 [.ptr 0 0]) (scH s i n tc c a e)=some (.ret (.bool (!b)) (match b with|true=>scH s r n tc 13 i e|false=>scH s r (n+1) (tc++b3G 3 w i (r-i)) c a 4)):=by
 have h63:=c63 s i n tc c a e 82 U5 rfl c41 hi hs;rw[hr,hw]at h63;have hri:i<=r:=by rw[<-hr];exact c0Y
 have hrl:r<=s.length:=by rw[<-hr];exact a9y hi
 refine a0P rfl Tryz.func83 rfl rfl ?_;refine eSG (oB 1 rfl (eSG (oB 6 rfl (eSG (oA 3 rfl ?_)))));refine b3k rfl rfl rfl (a5J rfl rfl h63 rfl rfl rfl) ?_;refine oB 1 rfl (F7 (eSG (oA 4 rfl ?_)));refine a0l rfl rfl rfl (fun h1=>?_) (fun h1=>?_)
 ·refine oA 1 rfl ?_;refine l7 rfl rfl (a3a (a2o (i:=0) (by simp only[ltB,decide_eq_true_eq]at h1;omega)) rfl) ?_;refine oA 3 rfl ?_;refine a0l rfl rfl rfl (fun h2=>?_) (fun h2=>?_)
  ·refine oB 20 rfl ?_;refine Z9 rfl rfl ?_;refine eSG (oA 2 rfl ?_);refine oV (c38 ..) ?_;refine oB 1 rfl ?_;obtain rfl:b=true:=bzz;exact H9 ⟨_,rfl,rfl⟩
  ·refine oA 5 rfl ?_;refine a0l rfl rfl rfl (fun h3=>?_) (fun h3=>?_)
   ·refine oB 15 rfl ?_;refine Z9 rfl rfl ?_;refine eSG (oA 2 rfl ?_);refine oV (c38 ..) ?_;refine oB 1 rfl ?_;obtain rfl:b=true:=bzz;exact H9 ⟨_,rfl,rfl⟩
   ·refine oA 4 rfl ?_;refine a0l rfl rfl rfl (fun h4=>?_) (fun h4=>?_)
    ·refine oA 5 rfl ?_;refine a0l rfl rfl rfl (fun h5=>?_) (fun h5=>?_)
     ·refine oB 6 rfl ?_;refine Z9 rfl rfl ?_;refine eSG (oA 2 rfl ?_);refine oV (c38 ..) ?_;refine oB 1 rfl ?_;obtain rfl:b=true:=bzz;exact H9 ⟨_,rfl,rfl⟩
     ·refine oA 3 rfl ?_;refine oV (c62 s r n tc c a e 0 (by omega)) ?_;refine a2R rfl rfl rfl rfl rfl (c43 ..) rfl ?_;refine oB 1 rfl ?_;refine a0d rfl (fun h6=>?_) (fun h6=>?_)
      ·refine eSG (oA 2 rfl ?_);refine oV (c38 ..) ?_;refine oB 1 rfl ?_;obtain rfl:b=true:=bzz;exact H9 ⟨_,rfl,rfl⟩
      ·refine L8 (eSG (oA 3 rfl ?_));refine oV (c46 s r n tc c a e 3 w i hri (by omega) he hn htc) ?_;refine G5 (eSG (oB 1 rfl ?_));obtain rfl:b=false:=bzz;exact H9 ⟨_,rfl,rfl⟩
    ·refine oA 8 rfl ?_;refine oV (c62 s r n tc c a e 0 (by omega)) ?_;refine a2R rfl rfl rfl rfl rfl (c43 ..) rfl ?_;refine oB 1 rfl ?_;refine a0d rfl (fun h7=>?_) (fun h7=>?_)
     ·refine eSG (oA 2 rfl ?_);refine oV (c38 ..) ?_;refine oB 1 rfl ?_;obtain rfl:b=true:=bzz;exact H9 ⟨_,rfl,rfl⟩
     ·refine L8 (eSG (oA 3 rfl ?_));refine oV (c46 s r n tc c a e 3 w i hri (by omega) he hn htc) ?_;refine G5 (eSG (oB 1 rfl ?_));obtain rfl:b=false:=bzz;exact H9 ⟨_,rfl,rfl⟩
 ·refine oA 10 rfl ?_;refine a0l rfl rfl rfl (fun h8=>?_) (fun h8=>?_)
  ·refine oB 15 rfl ?_;refine Z9 rfl rfl ?_;refine eSG (oA 2 rfl ?_);refine oV (c38 ..) ?_;refine oB 1 rfl ?_;obtain rfl:b=true:=bzz;exact H9 ⟨_,rfl,rfl⟩
  ·refine oA 4 rfl ?_;refine a0l rfl rfl rfl (fun h9=>?_) (fun h9=>?_)
   ·refine oA 5 rfl ?_;refine a0l rfl rfl rfl (fun h10=>?_) (fun h10=>?_)
    ·refine oB 6 rfl ?_;refine Z9 rfl rfl ?_;refine eSG (oA 2 rfl ?_);refine oV (c38 ..) ?_;refine oB 1 rfl ?_;obtain rfl:b=true:=bzz;exact H9 ⟨_,rfl,rfl⟩
    ·refine oA 3 rfl ?_;refine oV (c62 s r n tc c a e 0 (by omega)) ?_;refine a2R rfl rfl rfl rfl rfl (c43 ..) rfl ?_;refine oB 1 rfl ?_;refine a0d rfl (fun h11=>?_) (fun h11=>?_)
     ·refine eSG (oA 2 rfl ?_);refine oV (c38 ..) ?_;refine oB 1 rfl ?_;obtain rfl:b=true:=bzz;exact H9 ⟨_,rfl,rfl⟩
     ·refine L8 (eSG (oA 3 rfl ?_));refine oV (c46 s r n tc c a e 3 w i hri (by omega) he hn htc) ?_;refine G5 (eSG (oB 1 rfl ?_));obtain rfl:b=false:=bzz;exact H9 ⟨_,rfl,rfl⟩
   ·refine oA 8 rfl ?_;refine oV (c62 s r n tc c a e 0 (by omega)) ?_;refine a2R rfl rfl rfl rfl rfl (c43 ..) rfl ?_;refine oB 1 rfl ?_;refine a0d rfl (fun h12=>?_) (fun h12=>?_)
    ·refine eSG (oA 2 rfl ?_);refine oV (c38 ..) ?_;refine oB 1 rfl ?_;obtain rfl:b=true:=bzz;exact H9 ⟨_,rfl,rfl⟩
    ·refine L8 (eSG (oA 3 rfl ?_));refine oV (c46 s r n tc c a e 3 w i hri (by omega) he hn htc) ?_;refine G5 (eSG (oB 1 rfl ?_));obtain rfl:b=false:=bzz;exact H9 ⟨_,rfl,rfl⟩
end
variable {l:List (List UInt8)} {x:List UInt8} {i:Nat}
theorem b6r:∀a:List UInt8,ltS a a=false:=by
 unfold ltS;intro a;induction a with
 | nil=>rfl
 | cons x a ih=>simp[Op.bytesLess,ih]
theorem c54:∀{a b:List UInt8},ltS a b=false->a≠b->ltS b a=true:=by
 unfold ltS;intro a;induction a with
 | nil =>
  intro b h hne;cases b with
  | nil=>exact absurd rfl hne
  | cons y b=>cases h
 | cons x a ih =>
  intro b h hne;cases b with
  | nil=>rfl
  | cons y b =>
   simp only[Op.bytesLess,Bool.or_eq_false_iff,Bool.and_eq_false_iff,decide_eq_false_iff_not,Bool.or_eq_true,Bool.and_eq_true,decide_eq_true_eq,beq_iff_eq,beq_eq_false_iff_ne]at h ⊢;obtain⟨h1,h2⟩:=h;by_cases hxy:x=y
   ·subst hxy;refine .inr ⟨rfl,ih ?_ (fun e=>hne (by rw[e]))⟩;rcases h2 with h2|h2
    ·exact absurd rfl h2
    ·exact h2
   ·refine .inl ?_;rw[UInt8.lt_iff_toNat_lt]at h1 ⊢;have:x.toNat≠y.toNat:=fun e=>hxy (UInt8.toNat_inj.1 e);omega
theorem b3i:∀{a b c:List UInt8},ltS a b=true->ltS b c=true->ltS a c=true:=by
 unfold ltS;intro a;induction a with
 | nil =>
  intro b c h g;cases c with
  | nil=>cases b<;>cases g
  | cons z c=>rfl
 | cons x a ih =>
  intro b c h g;cases b with
  | nil=>cases h
  | cons y b =>
   cases c with
   | nil=>cases g
   | cons z c =>
    simp only[Op.bytesLess,Bool.or_eq_true,Bool.and_eq_true,decide_eq_true_eq,beq_iff_eq]at h g ⊢;rw[UInt8.lt_iff_toNat_lt]at *;rcases h with h |⟨rfl,h⟩<;>rcases g with g |⟨rfl,g⟩
    ·exact .inl (by omega)
    ·exact .inl h
    ·exact .inl g
    ·exact .inr ⟨rfl,ih h g⟩
def b4W:List (List UInt8)->Bool | []=>true|a::r=>r.all (fun b=>ltS a b)&&b4W r
theorem a81:∀{l:List (List UInt8)},b4W l=true -> ∀i j,i<j->j<l.length->ltS (l.getD i []) (l.getD j [])=true
 | [],_,i,j,_,hj=>by simp at hj
 | a::r,h,i,j,hij,hj=>by
  simp only[b4W,Bool.and_eq_true,List.all_eq_true]at h;cases j with
  | zero=>omega
  | succ j =>
   have hj':j<r.length:=by simpa using hj
   cases i with
   | zero =>
    have:(a::r).getD (j+1) []=r[j]:=by simp[hj']
    rw[this];exact h.1 _ (List.getElem_mem hj')
   | succ i =>
    have:=a81 h.2 i j (by omega) hj';simpa using this
def a9g (l:List (List UInt8))(x:List UInt8):Bool:=l.any fun y=>decide (y=x)
theorem c5N (hi:i<l.length)(h:eqS (l.getD i []) x=true):a9g l x=true:=by
 simp only[eqS,beq_iff_eq]at h;simp only[a9g,List.any_eq_true,decide_eq_true_eq];refine⟨l[i],List.getElem_mem hi,?_⟩;simpa [hi]using h
theorem c5M (h:∀i,i<l.length->l.getD i []≠x):a9g l x=false:=by
 simp only[a9g,List.any_eq_false,decide_eq_true_eq];intro y hy;obtain⟨i,hi,rfl⟩:=List.mem_iff_getElem.1 hy;have:=h i hi;simpa [hi]using this
theorem ld9 (h:i<l.length):a4c env.T 9 (.ptr 0 (0+(i:Int).toNat*1)) [(0,.row (l.map V.str))]=some (.str (l.getD i [])):=by
 show(l.map V.str)[0+(i:Int).toNat*1]? = _;simp[h]
def a4n:List (List UInt8):=[[97,110,121],[99,97,115,101],[99,97,116,99,104],[99,108,97,115,115],[99,111,110,115,117,109,101],[100,101,102,97,117,108,116],[100,101,102,101,114],[100,101,105,110,105,116],[100,111],[101,108,115,101],[101,110,117,109],[101,120,116,101,110,100],[102,97,108,115,101],[102,114,111,122,101,110],[102,117,110,99],[105,102],[105,110],[105,110,100,105,114,101,99,116],[105,110,111,117,116],[108,101,116],[109,97,116,99,104],[109,111,118,101,111,110,108,121],[112,114,111,116,111,99,111,108],[114,101,116,117,114,110],[115,116,114,117,99,116],[116,104,114,111,119],[116,104,114,111,119,115],[116,114,117,101],[116,121,112,101],[118,97,114],[119,104,101,114,101],[119,104,105,108,101]]
def a1j:List (List UInt8):=[[33],[33,61],[37],[38],[38,38],[40],[41],[42],[43],[44],[45],[45,62],[46],[47],[58],[59],[60],[60,61],[61],[61,61],[62],[62,61],[91],[93],[123],[124,124],[125]]
theorem b3U:b4W a4n=true:=by kernel_rfl
theorem c66w (x:List UInt8)(r:Bool)(hr:a9g a4n x=r) :
  E env (.call 126 [.rslice 0 0 32 false,.str x]) [(0,.row (a4n.map V.str))]=some (.ret (.bool r) [(0,.row (a4n.map V.str))]):=by
 refine a0P rfl Tryz.func126 rfl rfl ?_;refine eSG (oB 1 rfl (eSG (oB 4 rfl (F7 ?_))));refine V4 ?_;refine a5D rfl ?_;refine a8N (fun p:Nat×Nat=>[(0,.rslice 0 0 32 false),(1,.str x),(5,.i p.1),(6,.i p.2)]) (fun _=>[(0,.row (a4n.map V.str))]) (fun p=>p.1<=p.2/\p.2<=32/\(∀k,k<p.1->ltS (a4n.getD k []) x=true) /\ ∀k,p.2<=k->k<32->ltS x (a4n.getD k [])=true) (fun p=>p.2-p.1) (0,32) ⟨Nat.zero_le _,Nat.le_refl _,fun k hk=>by omega,fun k h1 h2=>by omega⟩ ?_;intro⟨lo,hi⟩ ⟨hlo,hhi,hL,hR⟩ ih;simp only at hlo hhi hL hR;refine F7 (eSG (oB 3 rfl ?_));refine a0d rfl (fun h1=>?_) (fun h1=>?_)
 ·replace h1:lo<hi:=by simpa [ltN]using h1
  refine L8 ?_;refine V4 ?_;refine eSG (oA 2 rfl ?_);refine l7 rfl rfl (addN (by omega)) ?_;refine l7 rfl rfl (half (by omega)) ?_;refine oB 1 rfl ?_;refine V4 ?_;refine eSG (oA 2 rfl ?_);refine l7 rfl rfl (a3a (a2o (by omega)) rfl) ?_;refine a1n rfl rfl rfl (ld9 (l:=a4n) (by show _<32;omega)) ?_;refine oB 3 rfl ?_;refine a0d rfl (fun h2=>?_) (fun h2=>?_)
  ·obtain rfl:r=true:=by rw[<-hr];exact c5N (l:=a4n) (by show _<32;omega) h2
   refine eSG (oB 1 rfl ?_);exact H9 ⟨_,rfl,rfl⟩
  ·have hne:a4n.getD ((lo+hi)/2) []≠x:=fun e=>by simp only[eqS,e,beq_self_eq_true]at h2;cases h2
   refine eSG (oA 2 rfl ?_);refine l7 rfl rfl (a3a (a2o (by omega)) rfl) ?_;refine a1n rfl rfl rfl (ld9 (l:=a4n) (by show _<32;omega)) ?_;refine oB 3 rfl ?_;refine a0d rfl (fun h3=>?_) (fun h3=>?_)
   ·have hL2:∀k,k<(lo+hi)/2+1->ltS (a4n.getD k []) x=true:=fun k hk=>by
     rcases Nat.lt_or_ge k ((lo+hi)/2)with h|h
     ·exact b3i (a81 (l:=a4n) b3U _ _ h (by show _<32;omega)) h3
     ·obtain rfl:k =(lo+hi)/2:=by omega
      exact h3
    refine o7 (oA 1 rfl ?_);refine l7 rfl rfl (add1 (by omega)) ?_;refine oB 1 rfl ?_;exact⟨_,_,rfl,ih ((lo+hi)/2+1,hi) (by show hi-((lo+hi)/2+1)<hi-lo;omega) ⟨by show(lo+hi)/2+1<=hi;omega,hhi,hL2,hR⟩⟩
   ·have hR2:∀k,(lo+hi)/2<=k->k<32->ltS x (a4n.getD k [])=true:=fun k hk hk2=>by
     have h4:=c54 h3 hne;rcases Nat.lt_or_ge ((lo+hi)/2) k with h|h
     ·exact b3i h4 (a81 (l:=a4n) b3U _ _ h (by exact hk2))
     ·obtain rfl:k =(lo+hi)/2:=by omega
      exact h4
    refine o7 (oB 2 rfl ?_);exact⟨_,_,rfl,ih (lo,(lo+hi)/2) (by show(lo+hi)/2-lo<hi-lo;omega) ⟨by show lo <=(lo+hi)/2;omega,by show(lo+hi)/2<=32;omega,hL,hR2⟩⟩
 ·replace h1:¬lo<hi:=by simpa [ltN]using h1
  obtain rfl:r=false:=by
   rw[<-hr];refine c5M (l:=a4n) fun k hk e=>?_;rcases Nat.lt_or_ge k lo with h|h
   ·have:=hL k h;rw[e,b6r]at this;cases this
   ·have:=hR k (by omega) (by exact hk);rw[e,b6r]at this;cases this
  refine a4x ?_;refine eSG (oB 1 rfl ?_);exact H9 ⟨_,rfl,rfl⟩
theorem b3T:b4W a1j=true:=by kernel_rfl
theorem c66s (x:List UInt8)(r:Bool)(hr:a9g a1j x=r) :
  E env (.call 126 [.rslice 0 0 27 false,.str x]) [(0,.row (a1j.map V.str))]=some (.ret (.bool r) [(0,.row (a1j.map V.str))]):=by
 refine a0P rfl Tryz.func126 rfl rfl ?_;refine eSG (oB 1 rfl (eSG (oB 4 rfl (F7 ?_))));refine V4 ?_;refine a5D rfl ?_;refine a8N (fun p:Nat×Nat=>[(0,.rslice 0 0 27 false),(1,.str x),(5,.i p.1),(6,.i p.2)]) (fun _=>[(0,.row (a1j.map V.str))]) (fun p=>p.1<=p.2/\p.2<=27/\(∀k,k<p.1->ltS (a1j.getD k []) x=true) /\ ∀k,p.2<=k->k<27->ltS x (a1j.getD k [])=true) (fun p=>p.2-p.1) (0,27) ⟨Nat.zero_le _,Nat.le_refl _,fun k hk=>by omega,fun k h1 h2=>by omega⟩ ?_;intro⟨lo,hi⟩ ⟨hlo,hhi,hL,hR⟩ ih;simp only at hlo hhi hL hR;refine F7 (eSG (oB 3 rfl ?_));refine a0d rfl (fun h1=>?_) (fun h1=>?_)
 ·replace h1:lo<hi:=by simpa [ltN]using h1
  refine L8 ?_;refine V4 ?_;refine eSG (oA 2 rfl ?_);refine l7 rfl rfl (addN (by omega)) ?_;refine l7 rfl rfl (half (by omega)) ?_;refine oB 1 rfl ?_;refine V4 ?_;refine eSG (oA 2 rfl ?_);refine l7 rfl rfl (a3a (a2o (by omega)) rfl) ?_;refine a1n rfl rfl rfl (ld9 (l:=a1j) (by show _<27;omega)) ?_;refine oB 3 rfl ?_;refine a0d rfl (fun h2=>?_) (fun h2=>?_)
  ·obtain rfl:r=true:=by rw[<-hr];exact c5N (l:=a1j) (by show _<27;omega) h2
   refine eSG (oB 1 rfl ?_);exact H9 ⟨_,rfl,rfl⟩
  ·have hne:a1j.getD ((lo+hi)/2) []≠x:=fun e=>by simp only[eqS,e,beq_self_eq_true]at h2;cases h2
   refine eSG (oA 2 rfl ?_);refine l7 rfl rfl (a3a (a2o (by omega)) rfl) ?_;refine a1n rfl rfl rfl (ld9 (l:=a1j) (by show _<27;omega)) ?_;refine oB 3 rfl ?_;refine a0d rfl (fun h3=>?_) (fun h3=>?_)
   ·have hL2:∀k,k<(lo+hi)/2+1->ltS (a1j.getD k []) x=true:=fun k hk=>by
     rcases Nat.lt_or_ge k ((lo+hi)/2)with h|h
     ·exact b3i (a81 (l:=a1j) b3T _ _ h (by show _<27;omega)) h3
     ·obtain rfl:k =(lo+hi)/2:=by omega
      exact h3
    refine o7 (oA 1 rfl ?_);refine l7 rfl rfl (add1 (by omega)) ?_;refine oB 1 rfl ?_;exact⟨_,_,rfl,ih ((lo+hi)/2+1,hi) (by show hi-((lo+hi)/2+1)<hi-lo;omega) ⟨by show(lo+hi)/2+1<=hi;omega,hhi,hL2,hR⟩⟩
   ·have hR2:∀k,(lo+hi)/2<=k->k<27->ltS x (a1j.getD k [])=true:=fun k hk hk2=>by
     have h4:=c54 h3 hne;rcases Nat.lt_or_ge ((lo+hi)/2) k with h|h
     ·exact b3i h4 (a81 (l:=a1j) b3T _ _ h (by exact hk2))
     ·obtain rfl:k =(lo+hi)/2:=by omega
      exact h4
    refine o7 (oB 2 rfl ?_);exact⟨_,_,rfl,ih (lo,(lo+hi)/2) (by show(lo+hi)/2-lo<hi-lo;omega) ⟨by show lo <=(lo+hi)/2;omega,by show(lo+hi)/2<=27;omega,hL,hR2⟩⟩
 ·replace h1:¬lo<hi:=by simpa [ltN]using h1
  obtain rfl:r=false:=by
   rw[<-hr];refine c5M (l:=a1j) fun k hk e=>?_;rcases Nat.lt_or_ge k lo with h|h
   ·have:=hL k h;rw[e,b6r]at this;cases this
   ·have:=hR k (by omega) (by exact hk);rw[e,b6r]at this;cases this
  refine a4x ?_;refine eSG (oB 1 rfl ?_);exact H9 ⟨_,rfl,rfl⟩
theorem c31:E env (.call 125 []) []=some (.ret (.agg (a4n.map V.str)) []):=(a3W env).le 5 _ _ _ (by kernel_rfl)
theorem c32:E env (.call 127 []) []=some (.ret (.agg (a1j.map V.str)) []):=(a3W env).le 5 _ _ _ (by kernel_rfl)
def a2w (s:List UInt8)(i:Nat):Nat->List UInt8
 | 0=>[]
 | k+1=>match leB ((i+(k+1):Nat):Int) s.length&&a9g a1j ((s.take (i+(k+1))).drop i)with
  | true=>(s.take (i+(k+1))).drop i
  | false=>a2w s i k
section
variable (s:List UInt8) (i n:Nat) (tc:List V) (c a:Int) (e:Nat)
theorem c45 (hi:i<=s.length)(hs:s.length<4611686018427387904)(r:List UInt8)(hr:a2w s i 2=r):E env (.call 86 [.ptr 0 0]) (scH s i n tc c a e)=some (.ret (.str r) (scH s i n tc c a e)):=by
 refine a0P rfl Tryz.func86 rfl rfl ?_;refine eSG (oB 1 rfl (eSG ?_));refine a2R rfl rfl rfl rfl rfl (c32 ..) rfl ?_;refine oB 2 rfl (F7 (eSG (oB 1 rfl ?_)));refine V4 ?_;refine a5D rfl ?_;refine a8N (fun k:Nat=>[(0,.ptr 0 0),(3,.ptr 2 0),(4,.i k)]) (fun _=>[(0,.row [.str s,.i i,.slice (.tag 1) n tc,.i c,.i a]),(1,.tip e n),(2,.row (a1j.map V.str))]) (fun k=>k<=2/\a2w s i k=r) (fun k=>k) 2 ⟨Nat.le_refl _,hr⟩ ?_;intro k ⟨hk,hr⟩ ih;refine F7 (eSG (oB 2 rfl ?_));refine a0d rfl (fun h1=>?_) (fun h1=>?_)
 ·replace h1:0<k:=by simpa [ltB]using h1
  obtain⟨k,rfl⟩:∃k0,k=k0+1:=⟨k-1,by omega⟩
  refine L8 (F7 ?_);refine V4 ?_;refine eSG (oA 6 rfl ?_);refine l7 rfl rfl (addN (by omega)) ?_;refine oA 8 rfl ?_;refine a0l rfl rfl rfl (fun h2=>?_) (fun h2=>?_)
  ·have h2':i+(k+1)<=s.length:=by have h:=h2;rw[leN_,decide_eq_true_eq]at h;exact h
   refine l7 rfl rfl (a3a (b2r (a:=0) (b:=27) (by omega) (by omega)) rfl) ?_;refine oA 16 rfl ?_;refine l7 rfl rfl (addN (by omega)) ?_;refine l7 rfl rfl (a3a (b2r (by omega) (by omega)) rfl) ?_;refine oV (c66s _ _ rfl) ?_;refine oB 1 rfl ?_;refine a0d rfl (fun h3=>?_) (fun h3=>?_)
   ·simp only[Int.toNat_natCast]at h3;obtain rfl:(s.take (i+(k+1))).drop i=r:=by rw[<-hr];simp only[a2w,h2,h3,Bool.true_and]
    refine eSG (oA 16 rfl ?_);refine l7 rfl rfl (addN (by omega)) ?_;refine l7 rfl rfl (a3a (b2r (by omega) (by omega)) rfl) ?_;refine oB 1 rfl ?_;exact H9 ⟨_,rfl,rfl⟩
   ·simp only[Int.toNat_natCast]at h3;refine L8 (o7 (oA 1 rfl ?_));refine l7 rfl rfl (sub1 (by omega) (by omega)) ?_;refine oB 1 rfl ?_;exact⟨_,_,rfl,ih k (by omega) ⟨by omega,by rw[<-hr];simp only[a2w,h2,h3,Bool.true_and]⟩⟩
  ·refine oB 21 rfl ?_;refine a02 rfl rfl ?_;refine L8 (o7 (oA 1 rfl ?_));refine l7 rfl rfl (sub1 (by omega) (by omega)) ?_;refine oB 1 rfl ?_;exact⟨_,_,rfl,ih k (by omega) ⟨by omega,by rw[<-hr];simp only[a2w,h2,Bool.false_and]⟩⟩
 ·obtain rfl:k=0:=by simpa [ltB]using h1
  obtain rfl:[]=r:=hr;refine a4x ?_;refine eSG (oB 1 rfl ?_);exact H9 ⟨_,rfl,rfl⟩
end
def a4F (w:List UInt8):Int:=match a9g a4n w with
 | true=>9
 | false=>match leB 65 (w.getD 0 0).toNat&&leB (w.getD 0 0).toNat 90 with|true=>2|false=>1
section
variable (s:List UInt8) (i n:Nat) (tc:List V) (c a:Int) (e:Nat)
theorem c44 (hi:i<=s.length)(hs:s.length<4611686018427387904)(he:e=0∨e=4)(hn:n<=100000)(htc:tc.length=n*4)(r:Nat)(hr:a1c a2J s i=r)(w:List UInt8)(hw:(s.take r).drop i=w)(hw0:0<w.length)(b:Bool)(hb:ltB 24 w.length=b) :
  E env (.call 85 [.ptr 0 0]) (scH s i n tc c a e)=some (.ret (.bool (!b)) (match b with|true=>scH s r n tc 14 i e|false=>scH s r (n+1) (tc++b3G (a4F w) w i (r-i)) c a 4)):=by
 have h63:=c63 s i n tc c a e 124 a2J rfl c65 hi hs;rw[hr,hw]at h63;have hri:i<=r:=by rw[<-hr];exact c0Y
 have hrl:r<=s.length:=by rw[<-hr];exact a9y hi
 obtain⟨k,hk⟩:∃k,a4F w=k:=⟨_,rfl⟩
 rw[hk];refine a0P rfl Tryz.func85 rfl rfl ?_;refine eSG (oB 1 rfl (eSG (oB 6 rfl (eSG (oA 3 rfl ?_)))));refine b3k rfl rfl rfl (a5J rfl rfl h63 rfl rfl rfl) ?_;refine oB 1 rfl (F7 (eSG (oB 3 rfl ?_)));refine a0d rfl (fun h1=>?_) (fun h1=>?_)
 ·obtain rfl:b=true:=by rw[<-hb];exact h1
  refine eSG (oA 2 rfl ?_);refine oV (c38 ..) ?_;refine oB 1 rfl ?_;exact H9 ⟨_,rfl,rfl⟩
 ·obtain rfl:b=false:=by rw[<-hb];exact h1
  refine L8 (eSG ?_);refine a2R rfl rfl rfl rfl rfl (c31 ..) rfl ?_;refine oB 2 rfl (eSG (oB 1 rfl (F7 (eSG ?_))));refine l7 rfl rfl (a3a (b2r (a:=0) (b:=32) (by omega) (by omega)) rfl) ?_;refine oA 1 rfl ?_;refine oV (c66w _ _ rfl) ?_;refine G5 ?_;refine a0d rfl (fun h2=>?_) (fun h2=>?_)
  ·obtain rfl:9=k:=by rw[<-hk];simp only[a4F,h2]
   refine o7 (oB 1 rfl (eSG (oA 4 rfl ?_)));refine oV (c46 s r n tc c a e _ w i hri (by omega) he hn htc) ?_;refine G5 (eSG (oB 1 rfl ?_));exact H9 ⟨_,rfl,rfl⟩
  ·refine eSG (oA 1 rfl ?_);refine l7 rfl rfl (a3a (a2o (i:=0) hw0) rfl) ?_;refine oA 2 rfl ?_;refine a0l rfl rfl rfl (fun h3=>?_) (fun h3=>?_)
   ·refine oA 1 rfl ?_;refine l7 rfl rfl (a3a (a2o (i:=0) hw0) rfl) ?_;refine oB 2 rfl ?_;refine a0d rfl (fun h4=>?_) (fun h4=>?_)
    ·simp only[Int.toNat_zero]at h3 h4;obtain rfl:2=k:=by rw[<-hk];simp only[a4F,h2,h3,h4,Bool.and_self]
     refine o7 (oB 1 rfl (eSG (oA 4 rfl ?_)));refine oV (c46 s r n tc c a e _ w i hri (by omega) he hn htc) ?_;refine G5 (eSG (oB 1 rfl ?_));exact H9 ⟨_,rfl,rfl⟩
    ·simp only[Int.toNat_zero]at h3 h4;obtain rfl:1=k:=by rw[<-hk];simp only[a4F,h2,h3,h4,Bool.and_false]
     refine L8 (eSG (oA 4 rfl ?_));refine oV (c46 s r n tc c a e _ w i hri (by omega) he hn htc) ?_;refine G5 (eSG (oB 1 rfl ?_));exact H9 ⟨_,rfl,rfl⟩
   ·simp only[Int.toNat_zero]at h3;obtain rfl:1=k:=by rw[<-hk];simp only[a4F,h2,h3,Bool.false_and]
    refine oB 4 rfl ?_;refine a02 rfl rfl ?_;refine L8 (eSG (oA 4 rfl ?_));refine oV (c46 s r n tc c a e _ w i hri (by omega) he hn htc) ?_;refine G5 (eSG (oB 1 rfl ?_));exact H9 ⟨_,rfl,rfl⟩
end
structure Tok where
 k:Int
 t:List UInt8
 a:Nat
 l:Nat
deriving DecidableEq
def a2O (l:List Tok):List V:=l.flatMap fun t=>b3G t.k t.t t.a t.l
theorem a8H (l:List Tok):(a2O l).length=l.length*4:=by
 induction l with
 | nil=>rfl
 | cons t r ih=>simp only[a2O,List.flatMap_cons,List.length_append,List.length_cons]at ih ⊢;rw[ih];simp only[b3G,List.length_cons,List.length_nil];omega
theorem b31 (l:List Tok)(t:Tok):a2O (l++[t])=a2O l++b3G t.k t.t t.a t.l:=by simp[a2O]
inductive PR where
 | err (c:Int) (a:Nat)
 | fin (t:List UInt8) (e:Nat)
 | more (t:List UInt8) (e:Nat)
section
variable (s:List UInt8)
def a7a (q ins:Nat):Nat->Nat->List UInt8->PR
 | 0,_,_=>.err 11 q
 | f+1,i,text =>
  match decide (i<s.length)&&decide (32 <=(s.getD i 0).toNat)with
  | false=>.err 11 q
  | true=>match decide ((s.getD i 0).toNat=34)with
   | true=>.fin text (i+1)
   | false=>match decide ((s.getD i 0).toNat=92)with
    | false=>a7a q ins f (i+1) (text++[s.getD i 0])
    | true=>match decide ((s.getD (i+1) 0).toNat=110)with
     | true=>a7a q ins f (i+2) (text++[10])
     | false=>match decide ((s.getD (i+1) 0).toNat=116)with
      | true=>a7a q ins f (i+2) (text++[9])
      | false=>match decide ((s.getD (i+1) 0).toNat=92)||decide ((s.getD (i+1) 0).toNat=34)with
       | true=>a7a q ins f (i+2) (text++[s.getD (i+1) 0])
       | false=>match decide ((s.getD (i+1) 0).toNat=40)with
        | true=>match decide (3<=ins)with
         | true=>.err 15 i
         | false=>.more text (i+2)
        | false=>.err 12 i
theorem a8V (q ins:Nat):∀(f g i:Nat) (text:List UInt8),s.length<=i+f->s.length<=i+g->a7a s q ins f i text=a7a s q ins g i text:=by
 have z:∀(g i:Nat) (text:List UInt8),s.length<=i->a7a s q ins g i text=.err 11 q:=by
  intro g i text h;cases g with
  | zero=>rfl
  | succ g =>
   have:(decide (i<s.length)&&decide (32 <=(s.getD i 0).toNat))=false:=by rw[Bool.and_eq_false_iff,decide_eq_false_iff_not];exact .inl (by omega)
   simp only[a7a,this]
 intro f;induction f with
 | zero=>intro g i text h _;rw[z g i text (by omega)];rfl
 | succ f ih =>
  intro g i text h1 h2;cases g with
  | zero=>rw[z (f+1) i text (by omega)];rfl
  | succ g =>
   simp only[a7a];rw[ih g (i+1) (text++[s.getD i 0]) (by omega) (by omega),ih g (i+2) (text++[10]) (by omega) (by omega),ih g (i+2) (text++[9]) (by omega) (by omega),ih g (i+2) (text++[s.getD (i+1) 0]) (by omega) (by omega)]
def part (q ins i:Nat)(text:List UInt8):PR:=a7a s q ins (s.length-i) i text
theorem a7k (q ins i:Nat)(text:List UInt8):part s q ins i text =
  match decide (i<s.length)&&decide (32 <=(s.getD i 0).toNat)with
  | false=>.err 11 q
  | true=>match decide ((s.getD i 0).toNat=34)with
   | true=>.fin text (i+1)
   | false=>match decide ((s.getD i 0).toNat=92)with
    | false=>part s q ins (i+1) (text++[s.getD i 0])
    | true=>match decide ((s.getD (i+1) 0).toNat=110)with
     | true=>part s q ins (i+2) (text++[10])
     | false=>match decide ((s.getD (i+1) 0).toNat=116)with
      | true=>part s q ins (i+2) (text++[9])
      | false=>match decide ((s.getD (i+1) 0).toNat=92)||decide ((s.getD (i+1) 0).toNat=34)with
       | true=>part s q ins (i+2) (text++[s.getD (i+1) 0])
       | false=>match decide ((s.getD (i+1) 0).toNat=40)with
        | true=>match decide (3<=ins)with
         | true=>.err 15 i
         | false=>.more text (i+2)
        | false=>.err 12 i:=by
 unfold part;rw[a8V s q ins (s.length-i) (s.length-i+1) i text (by omega) (by omega)];simp only[a7a];rw[a8V s q ins (s.length-i) (s.length-(i+1)) (i+1) _ (by omega) (by omega),a8V s q ins (s.length-i) (s.length-(i+2)) (i+2) (text++[10]) (by omega) (by omega),
  a8V s q ins (s.length-i) (s.length-(i+2)) (i+2) (text++[9]) (by omega) (by omega),a8V s q ins (s.length-i) (s.length-(i+2)) (i+2) (text++[s.getD (i+1) 0]) (by omega) (by omega)]
structure MS where
 i:Nat
 toks:List Tok
 st:List (Nat×Int)
variable {x y:MS}
inductive MR where
 | go (x:MS)
 | done (l:List Tok)
 | err (c:Int) (a:Nat)
variable {r:MR}
def a2k (toks:List Tok)(st:List (Nat×Int))(q frm:Nat)(last more:Int):PR->MR | .err c a=>.err c a | .fin t e=>.go ⟨e,toks++[⟨last,t,frm,e-frm⟩],st⟩ | .more t e=>.go ⟨e,toks++[⟨more,t,frm,e-frm⟩],(q,0)::st⟩
def bump (w:List UInt8):List (Nat×Int)->List (Nat×Int)
 | []=>[]
 |(q,p)::st=>match decide (w=[40])with
  | true=>(q,p+1)::st
  | false=>match decide (w=[41])with
   | true=>(q,p-1)::st
   | false=>(q,p)::st
def closes (b:Nat):List (Nat×Int)->Bool | []=>false |(_,p)::_=>decide (p=0)&&decide (b=41)
def roomy (toks:List Tok)(j:Nat)(r:MR):MR:=match decide (3000<=toks.length)with|true=>.err 2 j|false=>r
def stepM (x:MS):MR :=
  let j:=a0W s x.i;match decide (s.length<=j)with
  | true=>match x.st with
    | []=>.done x.toks
    |(q,_)::_=>.err 11 q
  | false =>
    let b:=s.getD j 0;match closes b.toNat x.st with
    | true=>match x.st with
      | []=>.err 0 0
      |(q,_)::st=>roomy x.toks j (a2k x.toks st q j 7 6 (part s q st.length (j+1) []))
    | false=>match decide (b.toNat=34)with
      | true=>roomy x.toks j (a2k x.toks x.st j j 4 5 (part s j x.st.length (j+1) []))
      | false=>match U5 b with
        | true=>roomy x.toks j (
            let r:=a1c U5 s j;let w:=(s.take r).drop j;match a4y w (s.getD r 0)with
            | true=>.err 13 j
            | false=>.go ⟨r,x.toks++[⟨3,w,j,r-j⟩],x.st⟩)
        | false=>match a1b b with
          | true=>roomy x.toks j (
              let r:=a1c a2J s j;let w:=(s.take r).drop j;match ltB 24 w.length with
              | true=>.err 14 j
              | false=>.go ⟨r,x.toks++[⟨a4F w,w,j,r-j⟩],x.st⟩)
          | false =>
            let w:=a2w s j 2;match w with
            | []=>.err 10 j
            | w=>roomy x.toks j (.go ⟨j+w.length,x.toks++[⟨8,w,j,w.length⟩],bump w x.st⟩)
inductive Reach:MS->MS->Prop
 | refl (x:MS):Reach x x
 | step (x y z:MS):stepM s x=.go y->Reach y z->Reach x z
def Ends (x:MS)(r:MR):Prop:=∃y,Reach s x y/\stepM s y=r/\(∀z,r ≠ .go z)
theorem Reach.trans {z:MS}(h:Reach s x y)(g:Reach s y z):Reach s x z:=by
 induction h with
 | refl x=>exact g
 | step x y w h1 _ ih=>exact .step x y z h1 (ih g)
theorem Reach.one (h:stepM s x=.go y):Reach s x y:=.step x y y h (.refl y)
theorem Ends.a03 (h:Reach s x y)(g:Ends s y r):Ends s x r:=by
 obtain⟨z,h1,h2⟩:=g;exact⟨z,h.trans s h1,h2⟩
theorem Ends.det {r':MR}(h:Ends s x r)(g:Ends s x r'):r=r':=by
 obtain⟨y,h1,h2,h3⟩:=h;obtain⟨z,g1,g2,g3⟩:=g;induction h1 with
 | refl x =>
  cases g1 with
  | refl=>rw[<-h2,<-g2]
  | step _ y _ k1 _=>rw[h2]at k1;exact absurd k1 (h3 y)
 | step x y w k1 k2 ih =>
  cases g1 with
  | refl=>rw[g2]at k1;exact absurd k1 (g3 y)
  | step _ y' _ m1 m2 =>
   rw[k1]at m1;cases m1;exact ih h2 m2
def runM:Nat->MS->Option MR
 | 0,_=>none
 | f+1,x=>match stepM s x with
  | .go y=>runM f y
  | r=>some r
theorem b3r:∀{f:Nat} {x:MS} {r:MR},runM s f x=some r->Ends s x r
 | f+1,x,r,h=>by
  simp only[runM]at h;cases hq:stepM s x with
  | go y=>rw[hq]at h;exact Ends.a03 s (Reach.one s hq) (b3r h)
  | done l=>rw[hq]at h;cases h;exact⟨x,.refl x,hq,fun z hz=>by cases hz⟩
  | err c a=>rw[hq]at h;cases h;exact⟨x,.refl x,hq,fun z hz=>by cases hz⟩
 | 0,x,r,h=>by cases h
end
variable {st:List (Nat×Int)} {s:List UInt8} {i i0:Nat}
theorem a8F (t:List UInt8):(a06 t).length=t.length*1:=by simp[a06]
theorem a7r (t:List UInt8)(b:UInt8):a06 t++[V.int .u8 (b.toNat:Nat)]=a06 (t++[b]):=by simp[a06]
theorem b2w (t:List UInt8)(b:UInt8):t.length+1 =(t++[b]).length:=by simp
theorem b6j {o:Own}(t:List UInt8):b44 env.T 58 9 (.slice o t.length (a06 t))=some (.str t):=by
 show(match a5f (a06 t)with|some l=>gd (eqN t.length l.length) (some (V.str l))|none=>none)=_;rw[b4p];exact b5g (a3O rfl) rfl
def scE (s:List UInt8)(i:Nat)(toks:List Tok)(c a:Int)(e:Nat):Hp:=scH s i toks.length (a2O toks) c a e
theorem c46T (s:List UInt8)(i:Nat)(toks:List Tok)(c a:Int)(e:Nat)(k:Int)(t:List UInt8)(f:Nat)(hf:f<=i)(hi:i<9223372036854775808)(he:e=0∨e=4)(hn:toks.length<=100000) :
  E env (.call 87 [.ptr 0 0,.i k,.str t,.i f]) (scE s i toks c a e)=some (.ret (.tuple []) (scE s i (toks++[⟨k,t,f,i-f⟩]) c a 4)):=by
 have h:=c46 s i toks.length (a2O toks) c a e k t f hf hi he hn (a8H toks);unfold scE;rw[b31,List.length_append];exact h
theorem c39F (s:List UInt8)(i:Nat)(toks:List Tok)(c a:Int)(e:Nat)(h:leB 3000 (toks.length:Nat)=false):E env (.call 80 [.ptr 0 0]) (scE s i toks c a e)=some (.ret (.bool true) (scE s i toks c a e)):=by
 have:=c39 s i toks.length (a2O toks) c a e;rw[h]at this;exact this
theorem c39T (s:List UInt8)(i:Nat)(toks:List Tok)(c a:Int)(e:Nat)(h:leB 3000 (toks.length:Nat)=true):E env (.call 80 [.ptr 0 0]) (scE s i toks c a e)=some (.ret (.bool false) (scE s i toks 2 i e)):=by
 have:=c39 s i toks.length (a2O toks) c a e;rw[h]at this;exact this
def OutP (s:List UInt8)(c a:Int)(P:Nat->List Tok->Prop)(Q:Int->Nat->Prop)(v:V)(H:Hp):Prop :=(v=.bool true /\ ∃i' toks' e',H=scE s i' toks' c a e'/\(e'=0∨e'=4)/\i'<=s.length/\toks'.length<=3000/\P i' toks')∨(v=.bool false /\ ∃(c':Int) (a' i' n':Nat) (tc':List V) (e':Nat),H=scH s i' n' tc' c' a' e'/\Q c' a')
def AllOk (s:List UInt8)(nest:Nat):Prop:=∀(i:Nat) (toks:List Tok) (st:List (Nat×Int)) (opn:Nat) (c a:Int) (e:Nat),i<=s.length->toks.length<=3000 ->(e=0∨e=4)->st.length+1=nest ->
 ∃v H2,E env (.call 38 [.ptr 0 0,.i nest,.i opn]) (scE s i toks c a e)=some (.ret v H2) /\
  OutP s c a (fun i' toks'=>i<=i'/\i'<s.length/\(s.getD i' 0).toNat=41 /\ ∃i0,Reach s ⟨i,toks,(opn,0)::st⟩ ⟨i0,toks',(opn,0)::st⟩/\a0W s i0=i')
   (fun c' a'=>Ends s ⟨i,toks,(opn,0)::st⟩ (.err c' a')) v H2
def b6A (s:List UInt8)(nest:Nat):Prop:=∀(i i0:Nat) (toks:List Tok) (st:List (Nat×Int)) (c a:Int) (e:Nat),a0W s i0=i->i<s.length ->(s.getD i 0).toNat=34->toks.length<3000 ->(e=0∨e=4)->st.length=nest ->
 ∃v H2,E env (.call 81 [.ptr 0 0,.i nest]) (scE s i toks c a e)=some (.ret v H2) /\
  OutP s c a (fun i' toks'=>i<i'/\Reach s ⟨i0,toks,st⟩ ⟨i',toks',st⟩) (fun c' a'=>Ends s ⟨i0,toks,st⟩ (.err c' a')) v H2
theorem a5T {b:Nat}(h:b≠41):closes b st=false:=by
 cases st with
 | nil=>rfl
 | cons x st=>simp[closes,h]
theorem c29 {toks:List Tok}(h0:a0W s i0=i)(hi:i<s.length)(hq:(s.getD i 0).toNat=34)(ht:toks.length<3000) :
  stepM s ⟨i0,toks,st⟩=a2k toks st i i 4 5 (part s i st.length (i+1) []):=by
 have h1:decide (s.length<=i)=false:=by simp;omega
 have h2:decide (3000<=toks.length)=false:=by simp;omega
 simp only[stepM,h0,h1,a5T (st:=st) (b:=(s.getD i 0).toNat) (by omega),hq,decide_true,roomy,h2];rw[hq]at *;simp only[a5T (st:=st) (b:=34) (by omega)]
theorem a7E {q:Nat}{toks:List Tok}(h0:a0W s i0=i)(hi:i<s.length)(hq:(s.getD i 0).toNat=41) :
  stepM s ⟨i0,toks,(q,0)::st⟩=roomy toks i (a2k toks st q i 7 6 (part s q st.length (i+1) [])):=by
 have h1:decide (s.length<=i)=false:=by simp;omega
 simp only[stepM,h0,h1,closes,hq,decide_true,Bool.and_self]
structure LS where
 X:MS
 first:Bool
 text:List UInt8
 w:Nat
 j:Nat
 frm:Nat
 toks:List Tok
 e:Nat
section
variable {s:List UInt8} {q ins j:Nat} {text:List UInt8}
theorem part_end (h:s.length<=j):part s q ins j text=.err 11 q:=by
 have h1:(decide (j<s.length)&&decide (32 <=(s.getD j 0).toNat))=false:=by rw[Bool.and_eq_false_iff,decide_eq_false_iff_not];exact .inl (by omega)
 rw[a7k];simp only[h1]
theorem part_low (h:(s.getD j 0).toNat<32):part s q ins j text=.err 11 q:=by
 have h1:(decide (j<s.length)&&decide (32 <=(s.getD j 0).toNat))=false:=by rw[Bool.and_eq_false_iff,decide_eq_false_iff_not,decide_eq_false_iff_not];exact .inr (by omega)
 rw[a7k];simp only[h1]
variable (h:j<s.length) (h2:32 <=(s.getD j 0).toNat)
include h h2
theorem a9w:(decide (j<s.length)&&decide (32 <=(s.getD j 0).toNat))=true:=by rw[Bool.and_eq_true,decide_eq_true_eq,decide_eq_true_eq];exact⟨h,h2⟩
theorem b7N (h3:(s.getD j 0).toNat=34):part s q ins j text=.fin text (j+1):=by
 rw[a7k,a9w h h2];simp only[decide_eq_true h3]
theorem b9x (h3:(s.getD j 0).toNat≠34)(h4:(s.getD j 0).toNat≠92):part s q ins j text=part s q ins (j+1) (text++[s.getD j 0]):=by
 rw[a7k,a9w h h2];simp only[decide_eq_false h3,decide_eq_false h4]
variable (h4:(s.getD j 0).toNat=92)
include h4
theorem a7e:decide ((s.getD j 0).toNat=34)=false:=decide_eq_false (by omega)
theorem part_n (h5:(s.getD (j+1) 0).toNat=110):part s q ins j text=part s q ins (j+2) (text++[10]):=by
 rw[a7k,a9w h h2];simp only[a7e h h2 h4,decide_eq_true h4,decide_eq_true h5]
theorem part_t (h5:(s.getD (j+1) 0).toNat=116):part s q ins j text=part s q ins (j+2) (text++[9]):=by
 have h6:decide ((s.getD (j+1) 0).toNat=110)=false:=decide_eq_false (by omega);rw[a7k,a9w h h2];simp only[a7e h h2 h4,decide_eq_true h4,h6,decide_eq_true h5]
theorem b3m (h5:(s.getD (j+1) 0).toNat=92∨(s.getD (j+1) 0).toNat=34):part s q ins j text=part s q ins (j+2) (text++[s.getD (j+1) 0]):=by
 have h6:decide ((s.getD (j+1) 0).toNat=110)=false:=decide_eq_false (by omega);have h7:decide ((s.getD (j+1) 0).toNat=116)=false:=decide_eq_false (by omega);have h8:(decide ((s.getD (j+1) 0).toNat=92)||decide ((s.getD (j+1) 0).toNat=34))=true:=by rw[Bool.or_eq_true,decide_eq_true_eq,decide_eq_true_eq];exact h5
 rw[a7k,a9w h h2];simp only[a7e h h2 h4,decide_eq_true h4,h6,h7,h8]
theorem b9y (h5:(s.getD (j+1) 0).toNat=40)(h9:3<=ins):part s q ins j text=.err 15 j:=by
 have h6:decide ((s.getD (j+1) 0).toNat=110)=false:=decide_eq_false (by omega);have h7:decide ((s.getD (j+1) 0).toNat=116)=false:=decide_eq_false (by omega);have h8:(decide ((s.getD (j+1) 0).toNat=92)||decide ((s.getD (j+1) 0).toNat=34))=false:=by rw[Bool.or_eq_false_iff,decide_eq_false_iff_not,decide_eq_false_iff_not];omega
 rw[a7k,a9w h h2];simp only[a7e h h2 h4,decide_eq_true h4,h6,h7,h8,decide_eq_true h5,decide_eq_true h9]
theorem b5p (h5:(s.getD (j+1) 0).toNat=40)(h9:¬3<=ins):part s q ins j text=.more text (j+2):=by
 have h6:decide ((s.getD (j+1) 0).toNat=110)=false:=decide_eq_false (by omega);have h7:decide ((s.getD (j+1) 0).toNat=116)=false:=decide_eq_false (by omega);have h8:(decide ((s.getD (j+1) 0).toNat=92)||decide ((s.getD (j+1) 0).toNat=34))=false:=by rw[Bool.or_eq_false_iff,decide_eq_false_iff_not,decide_eq_false_iff_not];omega
 rw[a7k,a9w h h2];simp only[a7e h h2 h4,decide_eq_true h4,h6,h7,h8,decide_eq_true h5,decide_eq_false h9]
theorem part_bad (h5:(s.getD (j+1) 0).toNat≠110)(h6:(s.getD (j+1) 0).toNat≠116)(h7:(s.getD (j+1) 0).toNat≠92)(h8:(s.getD (j+1) 0).toNat≠34)(h9:(s.getD (j+1) 0).toNat≠40):part s q ins j text=.err 12 j:=by
 have h10:(decide ((s.getD (j+1) 0).toNat=92)||decide ((s.getD (j+1) 0).toNat=34))=false:=by rw[Bool.or_eq_false_iff,decide_eq_false_iff_not,decide_eq_false_iff_not];omega
 rw[a7k,a9w h h2];simp only[a7e h h2 h4,decide_eq_true h4,decide_eq_false h5,decide_eq_false h6,h10,decide_eq_false h9]
end
end Go.Proofs.YtjhfloacokgdiaaGreatDoor.Sc
