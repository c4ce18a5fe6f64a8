/- Texts of ParseTwice, joined. -/
import Derived.Test.YtjhfloacokgdiaaGreatDoorParseTwiceJ18
set_option maxRecDepth 100000
set_option maxHeartbeats 20000000
set_option linter.all false
namespace Go.Proofs.YtjhfloacokgdiaaGreatDoor
open Go Go.Vm
variable {α:Type} {b kind kind' n:Int} {fs gs ps rs xs:List Nod} {m:List α} {i:Nat} {e:Nod} {u:Str} {t:Typ}
theorem a4m {a:Int}(h1:-9223372036854775808<=a)(h2:a<=9223372036854775807):w64 a=a:=by
 unfold w64;simp only[IntKind.wrap,IntKind.bits,IntKind.signed];simp;omega
theorem H6 {k:Nat}(h:k<=1000000000000):w64 ((k:Int)+1) =((k+1:Nat):Int):=by rw[a4m (by omega) (by omega)];rfl
theorem X6 {a:Int}(h:a<b):ltB a b=true:=by simp[ltB,h]
theorem a0C {a:Int}(h:¬a<b):ltB a b=false:=by simp[ltB,h]
theorem b9d {a:Int}(h:a<=b):leB a b=true:=by simp[leB,h]
theorem c2n {a:Int}(h:¬a<=b):leB a b=false:=by simp[leB,h]
theorem a9m (a b:Int):eqB a b=decide (a=b):=by unfold eqB;rfl
theorem a0z {a:Int}(h:a=b):eqB a b=true:=by simp[eqB,h]
theorem a1t {a:Int}(h:¬a=b):eqB a b=false:=by simp[eqB,h]
theorem a8J (s:Str):eqS s s=true:=by simp[eqS]
theorem eqS_cons (a:UInt8)(r:Str):eqS (a::r) []=false:=by simp[eqS]
theorem a0k {l:List α}(h:i<l.length):idx' l (i:Int)=some l[i]:=by
 have h1:inR (i:Int) l.length=true:=by simp[inR,h]
 simp[idx',h1,h]
theorem c3y {b:Nat}{l:List α}(h:(l.length+m.length)*(b+1)<=70368744177664):app b l m=some (l++m):=by
 unfold app leN;rw[decide_eq_true h]
theorem drop_eq {l:List α}(h:i<l.length):l.drop i=l[i]::l.drop (i+1):=List.drop_eq_getElem_cons h
def bS {α ρ β:Type}(x:Option (Lr α ρ))(f:α->Option β)(o:ρ->Option β):Option β:=match x with
 | none=>none
 | some (.brk a)=>f a
 | some (.out r)=>o r
theorem c1S (a:UInt8)(r:Str):eqS [] (a::r)=false:=by simp[eqS]
theorem a3Z {b:Nat}{l:List α}(hl:l.length<=100000)(hm:m.length<=100000)(hb:b<=1000):app b l m=some (l++m):=by
 refine c3y ?_;have:(l.length+m.length)*(b+1)<=200000*1001:=Nat.mul_le_mul (by omega) (by omega);omega
theorem b1p (t:Typ):(⟨t.kind,t.name,t.n,t.args⟩:Typ)=t:=by cases t;rfl
def kindOf (s:Str)(a:List Typ):Int :=cond (eqB (List.length a:Int) 0&&eqS s [73,110,116]) 1 (cond (eqB (List.length a:Int) 0&&eqS s [66,111,111,108]) 2 (cond (eqB (List.length a:Int) 0&&eqS s [84,101,120,116]) 3 (cond (eqB (List.length a:Int) 0&&eqS s [85,110,105,116]) 4 (cond (eqB (List.length a:Int) 1&&eqS s [65,114,114,97,121]) 5 (cond (eqB (List.length a:Int) 1&&eqS s [87,101,97,107]) 11 6)))))
def a5S (s:Str)(a:List Typ):Typ:=⟨kindOf s a,cond (!eqB (kindOf s a) 6) [] s,0,a⟩
theorem b7v (s:Str)(a:List Typ):a5X s a=some (a5S s a):=by
 unfold a5X a5S kindOf;rcases a with _ |⟨x,_ |⟨y,r⟩⟩
 ·rw[show eqB (List.length ([]:List Typ):Int) 0=true from a0z rfl,show eqB (List.length ([]:List Typ):Int) 1=false from a1t (by simp),show ltB 0 (List.length ([]:List Typ):Int)=false from a0C (by simp)];cases eqS s [73,110,116]<;>cases eqS s [66,111,111,108]<;>cases eqS s [84,101,120,116]<;>cases eqS s [85,110,105,116]<;>simp[a0X,eqB]
 ·rw[show eqB (List.length [x]:Int) 0=false from a1t (by simp),show eqB (List.length [x]:Int) 1=true from a0z (by simp),show ltB 0 (List.length [x]:Int)=true from X6 (by simp)];cases h1:eqS s [65,114,114,97,121]<;>cases h2:eqS s [87,101,97,107]<;>simp[a0X,eqB]
 ·rw[show eqB (List.length (x::y::r):Int) 0=false from a1t (by simp;omega),show eqB (List.length (x::y::r):Int) 1=false from a1t (by simp;omega),show ltB 0 (List.length (x::y::r):Int)=true from X6 (by simp;omega)];simp[a0X,eqB]
theorem b6Y (a b:Str):eqS a b=decide (a=b):=by rw[Bool.eq_iff_iff];simp[eqS]
mutual
def Typ.sz:Typ->Nat
 |⟨_,_,_,a⟩=>1+szT a
def szT:List Typ->Nat
 | []=>0
 | x::r=>x.sz+szT r
end
theorem tsz (k:Int)(s:Str)(n:Int)(a:List Typ):(⟨k,s,n,a⟩:Typ).sz=1+szT a:=rfl
theorem Typ.a3X (x:Typ):x.sz=1+szT x.args:=by cases x;rfl
theorem szT_nil:szT []=0:=rfl
theorem szT_cons (x:Typ)(r:List Typ):szT (x::r)=x.sz+szT r:=rfl
theorem b1k:∀a b:List Typ,szT (a++b)=szT a+szT b
 | [],b=>by simp[szT]
 | x::a,b=>by rw[List.cons_append,szT,szT,b1k a b];omega
theorem a5H:∀l:List Typ,l.length<=szT l
 | []=>Nat.le_refl _
 | x::r=>by have:=a5H r;have:=x.a3X;simp only[szT,List.length_cons];omega
theorem a3w {x:Typ}:∀{l:List Typ},x∈l->x.sz<=szT l
 | y::r,h=>by
  simp only[szT];rcases List.mem_cons.1 h with rfl|h
  ·omega
  ·have:=a3w h;omega
mutual
def Nod.sz:Nod->Nat
 |⟨_,_,_,t,ts,l,_⟩=>1+t.sz+szT ts+szN l
def szN:List Nod->Nat
 | []=>0
 | x::r=>x.sz+szN r
end
mutual
def Nod.er:Nod->Nod
 |⟨o,s,n,t,ts,l,_⟩=>⟨o,s,n,t,ts,ers l,0⟩
def ers:List Nod->List Nod
 | []=>[]
 | x::r=>x.er::ers r
end
theorem nsz (o:Int)(s:Str)(n:Int)(t:Typ)(ts:List Typ)(l:List Nod)(a:Int):(⟨o,s,n,t,ts,l,a⟩:Nod).sz=1+t.sz+szT ts+szN l:=rfl
theorem Nod.a3X (x:Nod):x.sz=1+x.t.sz+szT x.ts+szN x.l:=by cases x;rfl
theorem Nod.sz2 (x:Nod):2<=x.sz:=by have:=x.a3X;have:=x.t.a3X;omega
theorem szN_nil:szN []=0:=rfl
theorem a4V (x:Nod)(r:List Nod):szN (x::r)=x.sz+szN r:=rfl
theorem b4k:∀a b:List Nod,szN (a++b)=szN a+szN b
 | [],b=>by simp[szN]
 | x::a,b=>by rw[List.cons_append,szN,szN,b4k a b];omega
theorem a00:∀l:List Nod,l.length<=szN l
 | []=>Nat.le_refl _
 | x::r=>by have:=a00 r;have:=x.sz2;simp only[szN,List.length_cons];omega
theorem a1Q {x:Nod}:∀{l:List Nod},x∈l->x.sz<=szN l
 | y::r,h=>by
  simp only[szN];rcases List.mem_cons.1 h with rfl|h
  ·omega
  ·have:=a1Q h;omega
theorem SZ:(∀(o:Int) (s:Str) (n:Int) (t:Typ) (ts:List Typ) (l:List Nod) (a:Int),(⟨o,s,n,t,ts,l,a⟩:Nod).sz=1+t.sz+szT ts+szN l)/\szN []=0/\(∀(x:Nod) (r:List Nod),szN (x::r)=x.sz+szN r)/\(∀a b:List Nod,szN (a++b)=szN a+szN b)/\szT []=0/\(∀(x:Typ) (r:List Typ),szT (x::r)=x.sz+szT r)/\(∀a b:List Typ,szT (a++b)=szT a+szT b)/\(∀(k:Int) (s:Str) (n:Int) (a:List Typ),(⟨k,s,n,a⟩:Typ).sz=1+szT a)/\(∀(s:Str) (a:List Typ),(a5S s a).sz<=1+szT a->True):=⟨nsz,szN_nil,a4V,b4k,szT_nil,szT_cons,b1k,tsz,fun _ _ _=>trivial⟩
theorem baseT_sz (s:Str)(a:List Typ):(a5S s a).sz<=1+szT a:=Nat.le_refl _
theorem er_mk {o:Int}{s:Str}{ts:List Typ}{l l':List Nod}{a a':Int}(h:ers l=ers l'):(⟨o,s,n,t,ts,l,a⟩:Nod).er =(⟨o,s,n,t,ts,l',a'⟩:Nod).er:=by
 simp only[Nod.er,h]
theorem a2g {x y:Nod}{r r':List Nod}(h1:x.er=y.er)(h2:ers r=ers r'):ers (x::r)=ers (y::r'):=by simp only[ers,h1,h2]
theorem c0c:∀(a b:List Nod),ers (a++b)=ers a++ers b
 | [],b=>rfl
 | x::a,b=>by rw[List.cons_append,ers,ers,c0c a b];rfl
theorem c0d {a a' b b':List Nod}(h1:ers a=ers a')(h2:ers b=ers b'):ers (a++b)=ers (a'++b'):=by rw[c0c,c0c,h1,h2]
theorem b33:∀l:List Nod,(ers l).length=l.length
 | []=>rfl
 | x::r=>by rw[ers,List.length_cons,b33 r];rfl
theorem a6s {a b:List Nod}(h:ers a=ers b):b.length=a.length:=by rw[<-b33 a,h,b33]
theorem Nod.er_eq (x:Nod):x.er =⟨x.op,x.s,x.n,x.t,x.ts,ers x.l,0⟩:=by cases x;rfl
theorem a4D {x y:Nod}(h:x.er=y.er):x.op=y.op/\x.s=y.s/\x.n=y.n/\x.t=y.t/\x.ts=y.ts/\ers x.l=ers y.l:=by
 rw[x.er_eq,y.er_eq]at h;simp only[Nod.mk.injEq]at h;exact⟨h.1,h.2.1,h.2.2.1,h.2.2.2.1,h.2.2.2.2.1,h.2.2.2.2.2.1⟩
theorem er_s {x y:Nod}(h:x.er=y.er):x.s=y.s:=(a4D h).2.1
def a3x (l:List Tok)(k:Nat):Tok:=(l[k]?).getD ⟨0,[],0,0⟩
def isK (l:List Tok)(kind:Int)(k:Nat):Bool:=decide (k<l.length)&&eqB (a3x l k).kind kind
def isT (l:List Tok)(kind:Int)(s:Str)(k:Nat):Bool:=isK l kind k&&eqS (a3x l k).text s
def a0i (l:List Tok)(size:Int)(k:Nat):Int:=cond (decide (k<l.length)) (a3x l k).at_ size
theorem b5i {l:List Tok}{k:Nat}(h:isK l kind k=true):k<l.length:=by
 unfold isK at h;rw[Bool.and_eq_true]at h;exact of_decide_eq_true h.1
theorem b6o {l:List Tok}{s:Str}{k:Nat}(h:isT l kind s k=true):isK l kind k=true:=by
 unfold isT at h;rw[Bool.and_eq_true]at h;exact h.1
theorem isT_lt {l:List Tok}{s:Str}{k:Nat}(h:isT l kind s k=true):k<l.length:=b5i (b6o h)
theorem isT_tx {l:List Tok}{s:Str}{k:Nat}(h:isT l kind s k=true):(a3x l k).text=s:=by
 unfold isT at h;rw[Bool.and_eq_true,b6Y]at h;exact of_decide_eq_true h.2
theorem c4g {l:List Tok}{k:Nat}(h:isK l kind k=true)(hn:kind≠kind'):isK l kind' k=false:=by
 unfold isK at h ⊢;rw[Bool.and_eq_true,a9m]at h;rw[a1t (by rw[of_decide_eq_true h.2];exact hn),Bool.and_false]
theorem isK_kd {l:List Tok}{s:Str}{k:Nat}(h:isT l kind s k=true)(hn:kind≠kind'):isK l kind' k=false:=c4g (b6o h) hn
theorem isT_kk {l:List Tok}{s:Str}{k:Nat}(h:isK l kind k=true)(hn:kind≠kind'):isT l kind' s k=false:=by unfold isT;rw[c4g h hn,Bool.false_and]
theorem isT_kd {l:List Tok}{s:Str}{k:Nat}(h:isT l kind s k=true)(hn:kind≠kind'):isT l kind' u k=false:=isT_kk (b6o h) hn
theorem isT_ne {l:List Tok}{s:Str}{k:Nat}(h:isT l kind s k=true)(hn:s≠u):isT l kind u k=false:=by
 have h2:=isT_tx h;unfold isT;rw[h2,b6Y,decide_eq_false hn,Bool.and_false]
theorem isT_neg {l:List Tok}{k:Nat}(h:isK l kind k=true)(h2:isT l kind u k=false):(a3x l k).text≠u:=fun e=>by
 unfold isT at h2;rw[h,e,a8J]at h2;cases h2
theorem a4Y {l:List Tok}{k:Nat}(h:k<l.length):idx' l (k:Int)=some (a3x l k):=by
 rw[a0k h];unfold a3x;rw[List.getElem?_eq_getElem h];rfl
section
variable {l:List Tok} (hl:l.length<=3000) {k:Nat} (hk:k<=l.length) {size:Int}
include hl hk
theorem b7d:a1M l k size=some (a0i l size k):=by
 unfold a1M a0i;rcases Nat.lt_or_ge k l.length with h|h
 ·rw[X6 (by omega),cond_true,a4Y h,decide_eq_true h];rfl
 ·rw[a0C (by omega),decide_eq_false (by omega)];rfl
theorem a3Y {a:UInt8}{r:Str}:C9 0 kind (a::r) l k size=some (isT l kind (a::r) k):=by
 unfold C9 isT isK;rw[Int.add_zero,a4m (by omega) (by omega)];rcases Nat.lt_or_ge k l.length with h|h
 ·rw[c2n (by omega),cond_false,a4Y h,Option.bind_some,eqS_cons,decide_eq_true h];cases eqB (a3x l k).kind kind<;>simp
 ·rw[b9d (by omega),cond_true,decide_eq_false (by omega)];rfl
theorem a2Q:C9 0 kind [] l k size=some (isK l kind k):=by
 unfold C9 isK;rw[Int.add_zero,a4m (by omega) (by omega)];rcases Nat.lt_or_ge k l.length with h|h
 ·rw[c2n (by omega),cond_false,a4Y h,Option.bind_some,a8J,decide_eq_true h];cases eqB (a3x l k).kind kind<;>simp
 ·rw[b9d (by omega),cond_true,decide_eq_false (by omega)];rfl
theorem is1_v:C9 1 kind [] l k size=some (isK l kind (k+1)):=by
 unfold C9 isK;rw[H6 (by omega)];rcases Nat.lt_or_ge (k+1) l.length with h|h
 ·rw[c2n (by omega),cond_false,a4Y h,Option.bind_some,a8J,decide_eq_true h];cases eqB (a3x l (k+1)).kind kind<;>simp
 ·rw[b9d (by omega),cond_true,decide_eq_false (by omega)];rfl
theorem M6 {a:UInt8}{r:Str}:z8 (a::r) l k size=some (cond (isT l 8 (a::r) k) (true,((k+1:Nat):Int)) (false,(k:Int))):=by
 unfold z8;rw[a3Y hl hk,Option.bind_some,H6 (by omega)];cases isT l 8 (a::r) k<;>rfl
theorem a3c {a:UInt8}{r:Str}:G8 (a::r) l k size=some (cond (isT l 9 (a::r) k) (true,((k+1:Nat):Int)) (false,(k:Int))):=by
 unfold G8;rw[a3Y hl hk,Option.bind_some,H6 (by omega)];cases isT l 9 (a::r) k<;>rfl
theorem c33:a1L l k size=some (.pan (a0i l size k)):=by unfold a1L;rw[b7d hl hk];rfl
theorem a1R {a:UInt8}{r:Str}:o9 (a::r) l k size=cond (isT l 8 (a::r) k) (some (.ok ((k+1:Nat):Int))) (some (.pan (a0i l size k,(k:Int)))):=by
 unfold o9;rw[M6 hl hk];cases isT l 8 (a::r) k
 ·simp only[cond_false,Option.bind_some,Bool.not_false,cond_true];rw[c33 hl hk];rfl
 ·rfl
theorem c71 {a:UInt8}{r:Str}:K7 (a::r) l k size=cond (isT l 9 (a::r) k) (some (.ok ((k+1:Nat):Int))) (some (.pan (a0i l size k,(k:Int)))):=by
 unfold K7;rw[a3c hl hk];cases isT l 9 (a::r) k
 ·simp only[cond_false,Option.bind_some,Bool.not_false,cond_true];rw[c33 hl hk];rfl
 ·rfl
theorem a8q:P7 kind l k size=cond (isK l kind k) (some (.ok (a3x l k))) (some (.pan (a0i l size k))):=by
 unfold P7;rw[a2Q hl hk,Option.bind_some];cases hb:isK l kind k
 ·simp only[Bool.not_false,cond_true,cond_false];rw[c33 hl hk];rfl
 ·simp only[Bool.not_true,cond_true,cond_false];rw[a4Y (b5i hb)];rfl
theorem a5L:J8 l k size=cond (isK l 1 k) (some (.ok (a3x l k).text)) (some (.pan (a0i l size k))):=by
 unfold J8;rw[a8q hl hk];cases isK l 1 k<;>rfl
theorem cap_v:H8 l k size=cond (isK l 2 k) (some (.ok (a3x l k).text)) (some (.pan (a0i l size k))):=by
 unfold H8;rw[a8q hl hk];cases isK l 2 k<;>rfl
theorem int_v:a0n l k size=cond (isK l 3 k) ((atoi (a3x l k).text).bind fun v=>some (.ok v)) (some (.pan (a0i l size k))):=by
 unfold a0n;rw[a8q hl hk];cases isK l 3 k<;>rfl
end
def S1 {A:Type}(Q:A->Prop)(p:Option A):Prop:=∃r,p=some r/\Q r
structure Cx (V:Int->Str->Prop)(l:List Tok):Prop where
 hl:l.length<=3000
 tk:∀{k kd},isK l kd k=true->V kd (a3x l k).text
 lit:∀{s},V 5 s∨V 6 s∨V 7 s->V 4 s
 int:∀{s},V 3 s->b4x s=true
section
variable {A:Type} {Q:A->Prop} {l:List Tok} {kd:Int} {a:UInt8} {r s:Str} {k:Nat} {size:Int}
section
variable (hl:l.length<=3000) (hk:k<=l.length)
include hl hk
theorem c47 {f:Bool×Int->Option A}(h:S1 Q (cond (isT l 8 (a::r) k) (f (true,((k+1:Nat):Int))) (f (false,(k:Int))))):S1 Q ((z8 (a::r) l k size).bind f):=by
 rw[M6 hl hk];revert h;cases isT l 8 (a::r) k<;>exact id
theorem t_key {f:Bool×Int->Option A}(h:S1 Q (cond (isT l 9 (a::r) k) (f (true,((k+1:Nat):Int))) (f (false,(k:Int))))):S1 Q ((G8 (a::r) l k size).bind f):=by
 rw[a3c hl hk];revert h;cases isT l 9 (a::r) k<;>exact id
theorem c06 {f:Int->Option A}{g:Int×Int->Option A}(h:S1 Q (cond (isT l 8 (a::r) k) (f ((k+1:Nat):Int)) (g (a0i l size k,(k:Int))))):S1 Q (p9 (o9 (a::r) l k size) f g):=by
 rw[a1R hl hk];revert h;cases isT l 8 (a::r) k<;>exact id
theorem b5z {f:Int->Option A}{g:Int×Int->Option A}(h:S1 Q (cond (isT l 9 (a::r) k) (f ((k+1:Nat):Int)) (g (a0i l size k,(k:Int))))):S1 Q (p9 (K7 (a::r) l k size) f g):=by
 rw[c71 hl hk];revert h;cases isT l 9 (a::r) k<;>exact id
theorem t_is {f:Bool->Option A}(h:S1 Q (cond (isT l kd (a::r) k) (f true) (f false))):S1 Q ((C9 0 kd (a::r) l k size).bind f):=by
 rw[a3Y hl hk];revert h;cases isT l kd (a::r) k<;>exact id
theorem t_isK {f:Bool->Option A}(h:S1 Q (cond (isK l kd k) (f true) (f false))):S1 Q ((C9 0 kd [] l k size).bind f):=by
 rw[a2Q hl hk];revert h;cases isK l kd k<;>exact id
theorem t_name {f:Str->Option A}{g:Int->Option A}(h:S1 Q (cond (isK l 1 k) (f (a3x l k).text) (g (a0i l size k)))):S1 Q (p9 (J8 l k size) f g):=by
 rw[a5L hl hk];revert h;cases isK l 1 k<;>exact id
theorem t_cap {f:Str->Option A}{g:Int->Option A}(h:S1 Q (cond (isK l 2 k) (f (a3x l k).text) (g (a0i l size k)))):S1 Q (p9 (H8 l k size) f g):=by
 rw[cap_v hl hk];revert h;cases isK l 2 k<;>exact id
theorem t_token {f:Tok->Option A}{g:Int->Option A}(h:S1 Q (cond (isK l kd k) (f (a3x l k)) (g (a0i l size k)))):S1 Q (p9 (P7 kd l k size) f g):=by
 rw[a8q hl hk];revert h;cases isK l kd k<;>exact id
theorem t_is1 {f:Bool->Option A}(h:∀b,S1 Q (f b)):S1 Q ((C9 1 kd [] l k size).bind f):=by
 rw[is1_v hl hk];exact h _
theorem b8g {op:Int}{f:Int->Option A}(h:∀a,S1 Q (f a)):S1 Q ((C8 op l k size).bind f):=by
 unfold C8;rw[b7d hl hk];exact h _
end
theorem t_int {V:Int->Str->Prop}(C:Cx V l)(hk:k<=l.length){f g:Int->Option A}(h:S1 Q (cond (isK l 3 k) (f ((a1h (a3x l k).text 0:Nat):Int)) (g (a0i l size k)))):S1 Q (p9 (a0n l k size) f g):=by
 rw[int_v C.hl hk];revert h;cases hb:isK l 3 k
 ·exact id
 ·simp only[atoi,C.int (C.tk hb)];exact id
theorem t_idx {f:Tok->Option A}(hk:k<l.length)(h:S1 Q (f (a3x l k))):S1 Q ((idx' l (k:Int)).bind f):=by
 rw[a4Y hk];exact h
theorem t_app {b:Nat}{x y:List α}{f:List α->Option A}(h1:x.length<=100000)(h2:y.length<=100000)(hb:b<=1000)(h:S1 Q (f (x++y))):S1 Q ((app b x y).bind f):=by
 rw[a3Z h1 h2 hb];exact h
variable {x y:Option A}
theorem t_if {b:Bool}(h1:b=true->S1 Q x)(h2:b=false->S1 Q y):S1 Q (cond b x y):=by
 cases b
 ·exact h2 rfl
 ·exact h1 rfl
theorem t_T {b:Bool}(h:b=true)(g:S1 Q x):S1 Q (cond b x y):=t_if (fun _=>g) fun e=>by rw[h]at e;cases e
theorem t_F {b:Bool}(h:b=false)(g:S1 Q y):S1 Q (cond b x y):=t_if (fun e=>by rw[h]at e;cases e) fun _=>g
theorem i_T (h:isT l kd s k=true)(g:k+1<=l.length->S1 Q x):S1 Q (cond (isT l kd s k) x y):=t_T h (g (isT_lt h))
theorem i_if (g:isT l kd s k=true->k+1<=l.length->S1 Q x)(h:isT l kd s k=false->S1 Q y):S1 Q (cond (isT l kd s k) x y):=t_if (fun e=>g e (isT_lt e)) h
theorem k_T (h:isK l kd k=true)(g:k+1<=l.length->S1 Q x):S1 Q (cond (isK l kd k) x y):=t_T h (g (b5i h))
theorem k_if (g:isK l kd k=true->k+1<=l.length->S1 Q x)(h:isK l kd k=false->S1 Q y):S1 Q (cond (isK l kd k) x y):=t_if (fun e=>g e (b5i e)) h
end
theorem nT {P:Prop}(x:P:=by first|assumption|exact isT_ne (by assumption) (by decide)|exact isT_kd (by assumption) (by decide)|exact isT_kk (by assumption) (by decide)|exact c4g (by assumption) (by decide)|exact isK_kd (by assumption) (by decide)):P:=x
theorem CD:(∀{α β:Type} (b:Bool) (x y:Option α) (f:α->Option β),(cond b x y).bind f=cond b (x.bind f) (y.bind f))/\(∀{α ρ β:Type} (b:Bool) (x y:Option (Lr α ρ)) (f:α->Option β) (o:ρ->Option β),bS (cond b x y) f o=cond b (bS x f o) (bS y f o))/\(∀{α β γ:Type} (b:Bool) (x y:Option (Rs α β)) (f:α->Option γ) (o:β->Option γ),p9 (cond b x y) f o=cond b (p9 x f o) (p9 y f o)):=⟨fun b _ _ _=>by cases b<;>rfl,fun b _ _ _ _=>by cases b<;>rfl,fun b _ _ _ _=>by cases b<;>rfl⟩
theorem NF:(∀{α β γ:Type} (x:Option α) (f:α->Option β) (g:β->Option γ),(x.bind f).bind g=x.bind fun a=>(f a).bind g) /\
  (∀{α β γ δ:Type} (x:Option δ) (f:δ->Option (Rs α β)) (k:α->Option γ) (p:β->Option γ),p9 (x.bind f) k p=x.bind fun a=>p9 (f a) k p) /\
  (∀{α ρ:Type} (x:Option (Lr α ρ)) (k:α->Option ρ),a0X x k=bS x k some) /\
  (∀{α γ ρ:Type} (x:Option (Lr α ρ)) (k:α->Option (Lr γ ρ)),a7T x k=bS x k fun r=>some (.out r)) /\
  (∀{α β γ δ:Type} (x:Option (Rs α β)) (f:α->Option γ) (g:β->Option γ) (h:γ->Option δ),(p9 x f g).bind h=p9 x (fun a=>(f a).bind h) fun b=>(g b).bind h) /\
  (∀{α β α' β' γ:Type} (x:Option (Rs α β)) (f:α->Option (Rs α' β')) (g:β->Option (Rs α' β')) (k:α'->Option γ) (p:β'->Option γ),p9 (p9 x f g) k p=p9 x (fun a=>p9 (f a) k p) fun b=>p9 (g b) k p) /\
  (∀{α ρ β δ:Type} (x:Option δ) (f:δ->Option (Lr α ρ)) (h:α->Option β) (o:ρ->Option β),bS (x.bind f) h o=x.bind fun a=>bS (f a) h o) /\
  (∀{α ρ β δ ε:Type} (x:Option (Rs δ ε)) (f:δ->Option (Lr α ρ)) (g:ε->Option (Lr α ρ)) (h:α->Option β) (o:ρ->Option β),bS (p9 x f g) h o=p9 x (fun a=>bS (f a) h o) fun b=>bS (g b) h o) /\
  (∀{α ρ β δ ε:Type} (x:Option (Lr δ ε)) (f:δ->Option (Lr α ρ)) (g:ε->Option (Lr α ρ)) (h:α->Option β) (o:ρ->Option β),bS (bS x f g) h o=bS x (fun a=>bS (f a) h o) fun b=>bS (g b) h o) /\
  (∀{α ρ β γ:Type} (x:Option (Lr α ρ)) (f:α->Option β) (o:ρ->Option β) (h:β->Option γ),(bS x f o).bind h=bS x (fun a=>(f a).bind h) fun b=>(o b).bind h) /\
  (∀{α ρ β γ δ:Type} (x:Option (Lr α ρ)) (f:α->Option (Rs β γ)) (o:ρ->Option (Rs β γ)) (k:β->Option δ) (p:γ->Option δ),p9 (bS x f o) k p=bS x (fun a=>p9 (f a) k p) fun b=>p9 (o b) k p) /\
  (∀{α ρ β:Type} (a:α) (f:α->Option β) (o:ρ->Option β),bS (some (.brk a)) f o=f a)/\(∀{α ρ β:Type} (r:ρ) (f:α->Option β) (o:ρ->Option β),bS (some (.out r)) f o=o r) /\
  (∀{α β γ:Type} (a:α) (f:α->Option γ) (g:β->Option γ),p9 (some (.ok a)) f g=f a)/\(∀{α β γ:Type} (b:β) (f:α->Option γ) (g:β->Option γ),p9 (some (.pan b)) f g=g b) /\
  (∀{α β:Type} (a:α) (f:α->Option β),(some a).bind f=f a)/\(∀{α:Type} (a b:α),cond true a b=a)/\(∀{α:Type} (a b:α),cond false a b=b)/\(!true)=false/\(!false)=true:=by
 refine⟨fun x f g=>?_,fun x f k p=>?_,fun x f=>?_,fun x f=>?_,fun x f g h=>?_,fun x f g k p=>?_,fun x f h o=>?_,fun x f g h o=>?_,fun x f g h o=>?_,fun x f o h=>?_,fun x f o k p=>?_,fun _ _ _=>rfl,fun _ _ _=>rfl,fun _ _ _=>rfl,fun _ _ _=>rfl,fun _ _=>rfl,fun _ _=>rfl,fun _ _=>rfl,rfl,rfl⟩<;>(rcases x with _|x)<;>first|rfl |(cases x<;>rfl)
theorem all_nil {P:α->Prop}:∀x∈([]:List α),P x:=fun x h=>by cases h
theorem a7i {P:α->Prop}{a b:List α}(h1:∀x∈a,P x)(h2:∀x∈b,P x):∀x∈a++b,P x:=fun x h=>by
 rcases List.mem_append.1 h with h|h
 ·exact h1 x h
 ·exact h2 x h
theorem a5C {P:α->Prop}{a:α}(h:P a):∀x ∈ [a],P x:=fun x hx=>by
 rcases List.mem_singleton.1 hx with rfl;exact h
abbrev zT:Typ:=⟨0,[],0,[]⟩
abbrev uT:Typ:=⟨4,[],0,[]⟩
inductive GT (V:Int->Str->Prop):Bool->Typ->Prop
 | base {s:Str} {a:List Typ}:V 2 s ->(∀x∈a,GT V false x)->GT V true (a5S s a)
 | dot {s:Str} {t:Typ}:V 2 s->GT V true t->GT V true ⟨8,s,0,[t]⟩
 | path {t:Typ}:GT V true t->GT V false t
 | any {s:Str}:V 2 s->GT V false ⟨9,s,0,[]⟩
 | func {a:List Typ} {r:Typ}:(∀x∈a,GT V false x)->GT V false r->GT V false ⟨10,[],0,a++[r]⟩
theorem GT.func1 {V:Int->Str->Prop}{r:Typ}(h:GT V false r):GT V false ⟨10,[],0,[r]⟩:=.func (a:=[]) all_nil h
def OP (s:Str):Prop:=s∈([[124,124],[38,38],[61,61],[33,61],[60],[60,61],[62],[62,61],[43],[45],[42],[47],[37]]:List Str)
inductive PLC:Nod->Prop
 | nm {x:Nod}:x.op=54->PLC x
 | fld {s:Str} {n a:Int} {t:Typ} {ts:List Typ} {y:Nod}:PLC y->PLC ⟨55,s,n,t,ts,[y],a⟩
def fl:List (Nod×Nod)->List Nod | []=>[]|p::r=>p.1::p.2::fl r
theorem c4a:∀a b:List (Nod×Nod),fl (a++b)=fl a++fl b
 | [],b=>rfl
 | p::a,b=>by rw[List.cons_append,fl,fl,c4a a b];rfl
inductive TX (V:Int->Str->Prop):Nod->Prop
 | mk {s:Str} {a:Int}:V 4 s->TX V ⟨52,s,0,zT,[],[],a⟩
inductive G (V:Int->Str->Prop):Nat->Nod->Prop
 | int {s:Str} {a:Int}:V 3 s->G V 0 ⟨50,[],((a1h s 0:Nat):Int),zT,[],[],a⟩
 | tru {a:Int}:G V 0 ⟨51,[],1,zT,[],[],a⟩
 | fal {a:Int}:G V 0 ⟨51,[],0,zT,[],[],a⟩
 | text {s:Str} {a:Int}:V 4 s->G V 0 ⟨52,s,0,zT,[],[],a⟩
 | interp {x:Nod} {ps:List (Nod×Nod)} {a:Int}:TX V x->ps ≠ [] ->(∀p∈ps,G V 0 p.1) ->(∀p∈ps,TX V p.2)->G V 0 ⟨53,[],0,zT,[],x::fl ps,a⟩
 | name {s:Str} {a:Int}:V 1 s->G V 0 ⟨54,s,0,zT,[],[],a⟩
 | cons {s:Str} {a:Int}:V 1 s->G V 0 ⟨61,s,0,zT,[],[],a⟩
 | clos {t:Typ} {ps ss:List Nod} {a b:Int}:(t=uT∨GT V false t) ->(∀x∈ps,G V 4 x) ->(∀x∈ss,G V 1 x)->G V 0 ⟨63,[],0,t,[],ps++[⟨20,[],0,zT,[],ss,b⟩],a⟩
 | bin {s:Str} {x y:Nod} {a:Int}:OP s->G V 0 x->G V 0 y->G V 0 ⟨64,s,0,zT,[],[x,y],a⟩
 | un {o:Int} {x:Nod} {a:Int}:(o=65∨o=66)->G V 0 x->G V 0 ⟨o,[],0,zT,[],[x],a⟩
 | field {s:Str} {x:Nod} {a:Int}:V 1 s->G V 0 x->G V 0 ⟨55,s,0,zT,[],[x],a⟩
 | call {s:Str} {l:List Nod} {a:Int}:V 1 s ->(∀y∈l,G V 6 y)->G V 0 ⟨56,s,0,zT,[],l,a⟩
 | method {s:Str} {x:Nod} {l:List Nod} {a:Int}:V 1 s->G V 0 x ->(∀y∈l,G V 6 y)->G V 0 ⟨57,s,0,zT,[],x::l,a⟩
 | stat0 {s:Str} {t:Typ} {a:Int}:V 1 s->GT V true t->G V 0 ⟨58,s,0,t,[],[],a⟩
 | stat1 {s:Str} {t:Typ} {l:List Nod} {a:Int}:V 1 s->GT V true t ->(∀y∈l,G V 6 y)->G V 0 ⟨58,s,1,t,[],l,a⟩
 | make {t:Typ} {l:List Nod} {a:Int}:GT V true t ->(∀y∈l,G V 6 y)->G V 0 ⟨59,[],0,t,[],l,a⟩
 | apply{x:Nod} {l:List Nod} {a:Int}:G V 0 x ->(∀y∈l,G V 6 y)->G V 0 ⟨60,[],0,zT,[],x::l,a⟩
 | list {l:List Nod} {a:Int}:(∀y∈l,G V 0 y)->G V 0 ⟨67,[],0,zT,[],l,a⟩
 | lend {x:Nod} {a:Int}:G V 0 x->PLC x->G V 6 ⟨62,[],0,zT,[],[x],a⟩
 | arg {x:Nod}:G V 0 x->G V 6 x
 | let0 {s:Str} {t:Typ} {a:Int}:V 1 s->GT V false t->G V 1 ⟨21,s,1,t,[],[],a⟩
 | let1 {s:Str} {n:Int} {t:Typ} {x:Nod} {a:Int}:V 1 s ->(n=0∨n=1) ->(t=zT∨GT V false t)->G V 0 x->G V 1 ⟨21,s,n,t,[],[x],a⟩
 | assign {x y:Nod} {a:Int}:G V 0 x->PLC x->G V 0 y->G V 1 ⟨22,[],0,zT,[],[x,y],a⟩
 | sole {x:Nod} {a:Int}:G V 0 x->G V 1 ⟨23,[],0,zT,[],[x],a⟩
 | if2 {x b:Nod} {a:Int}:G V 0 x->G V 2 b->G V 19 ⟨24,[],0,zT,[],[x,b],a⟩
 | if3 {x b c:Nod} {a:Int}:G V 0 x->G V 2 b->G V 2 c->G V 19 ⟨24,[],0,zT,[],[x,b,c],a⟩
 | if4 {x b c:Nod} {a:Int}:G V 0 x->G V 2 b->G V 19 c->G V 19 ⟨24,[],0,zT,[],[x,b,c],a⟩
 | ifs {x:Nod}:G V 19 x->G V 1 x
 | whil {x b:Nod} {a:Int}:G V 0 x->G V 2 b->G V 1 ⟨25,[],0,zT,[],[x,b],a⟩
 | mat {x:Nod} {l:List Nod} {a:Int}:G V 0 x ->(∀y∈l,G V 5 y)->G V 1 ⟨26,[],0,zT,[],x::l,a⟩
 | ret0 {a:Int}:G V 1 ⟨28,[],0,zT,[],[],a⟩
 | ret1 {x:Nod} {a:Int}:G V 0 x->G V 1 ⟨28,[],0,zT,[],[x],a⟩
 | thrw {x:Nod} {a:Int}:G V 0 x->G V 1 ⟨29,[],0,zT,[],[x],a⟩
 | doc {s:Str} {b c:Nod} {a:Int}:V 1 s->G V 2 b->G V 2 c->G V 1 ⟨30,s,0,zT,[],[b,c],a⟩
 | dfr {b:Nod} {a:Int}:G V 2 b->G V 1 ⟨31,[],0,zT,[],[b],a⟩
 | block {l:List Nod} {a:Int}:(∀y∈l,G V 1 y)->G V 2 ⟨20,[],0,zT,[],l,a⟩
 | wild {a:Int}:G V 3 ⟨40,[],0,zT,[],[],a⟩
 | bnd {s:Str} {a:Int}:V 1 s->s ≠ [95]->G V 3 ⟨41,s,0,zT,[],[],a⟩
 | pint {s:Str} {a:Int}:V 3 s->G V 3 ⟨42,[],((a1h s 0:Nat):Int),zT,[],[],a⟩
 | pneg {s:Str} {a:Int}:V 3 s->G V 3 ⟨42,[],w64 (0-((a1h s 0:Nat):Int)),zT,[],[],a⟩
 | ptru {a:Int}:G V 3 ⟨43,[],1,zT,[],[],a⟩
 | pfal {a:Int}:G V 3 ⟨43,[],0,zT,[],[],a⟩
 | ptext {s:Str} {a:Int}:V 4 s->G V 3 ⟨44,s,0,zT,[],[],a⟩
 | pcase {s:Str} {l:List Nod} {a:Int}:V 1 s ->(∀y∈l,G V 3 y)->G V 3 ⟨45,s,0,zT,[],l,a⟩
 | param {s:Str} {n:Int} {t:Typ} {a:Int}:V 1 s ->(n=0∨n=1∨n=2)->GT V false t->G V 4 ⟨10,s,n,t,[],[],a⟩
 | arm {p b:Nod} {a:Int}:G V 3 p->G V 2 b->G V 5 ⟨27,[],0,zT,[],[p,b],a⟩
 | bound {s:Str} {a:Int}:V 2 s->G V 7 ⟨9,s,0,zT,[],[],a⟩
 | gen {s:Str} {l:List Nod} {a:Int}:V 2 s ->(∀y∈l,G V 7 y)->G V 8 ⟨8,s,0,zT,[],l,a⟩
 | rq1 {s:Str} {t:Typ} {a:Int}:GT V false t->V 2 s->G V 9 ⟨12,s,1,t,[],[],a⟩
 | rq2 {t u:Typ} {a:Int}:GT V false t->GT V false u->G V 9 ⟨12,[],2,t,[u],[],a⟩
 | thr {t:Typ} {a:Int}:GT V false t->G V 10 ⟨11,[],0,t,[],[],a⟩
 | fn {s:Str} {t:Typ} {gs ps th rs xs:List Nod} {b:Nod} {a:Int}:V 1 s ->(t=uT∨GT V false t)->xs=gs ++(ps ++(th++rs)) ->(∀y∈gs,G V 8 y) ->(∀y∈ps,G V 4 y) ->(∀y∈th,G V 10 y)->th.length<=1 ->(∀y∈rs,G V 9 y)->G V 2 b->G V 11 ⟨7,s,1,t,[],xs++[b],a⟩
 | sg {s:Str} {t:Typ} {gs ps th rs xs:List Nod} {a:Int}:V 1 s ->(t=uT∨GT V false t)->xs=gs ++(ps ++(th++rs)) ->(∀y∈gs,G V 8 y) ->(∀y∈ps,G V 4 y) ->(∀y∈th,G V 10 y)->th.length<=1 ->(∀y∈rs,G V 9 y)->G V 12 ⟨7,s,0,t,[],xs,a⟩
 | fld {s:Str} {n:Int} {t:Typ} {a:Int}:V 1 s ->(n=0∨n=1)->GT V false t->G V 13 ⟨13,s,n,t,[],[],a⟩
 | dei {b:Nod} {a:Int}:G V 2 b->G V 14 ⟨15,[],0,zT,[],[b],a⟩
 | case {s:Str} {n:Int} {ts:List Typ} {a:Int}:V 1 s ->(n=0∨n=1) ->(∀t∈ts,GT V false t)->G V 15 ⟨14,s,n,zT,ts,[],a⟩
 | assoc {s:Str} {l:List Nod} {a:Int}:V 2 s ->(∀y∈l,G V 7 y)->G V 16 ⟨16,s,0,zT,[],l,a⟩
 | alias {s:Str} {t:Typ} {a:Int}:V 2 s->GT V false t->G V 17 ⟨17,s,0,t,[],[],a⟩
 | strc {s:Str} {n:Int} {gs fs ds xs:List Nod} {a:Int}:V 2 s ->(n=0∨n=1∨n=2∨n=3)->xs=gs ++(fs++ds) ->(∀y∈gs,G V 8 y) ->(∀y∈fs,G V 13 y) ->(∀y∈ds,G V 14 y)->ds.length<=1->G V 18 ⟨2,s,n,zT,[],xs,a⟩
 | clss {s:Str} {gs fs ds xs:List Nod} {a:Int}:V 2 s->xs=gs ++(fs++ds) ->(∀y∈gs,G V 8 y) ->(∀y∈fs,G V 13 y) ->(∀y∈ds,G V 14 y)->ds.length<=1->G V 18 ⟨4,s,0,zT,[],xs,a⟩
 | enum {s:Str} {n:Int} {gs cs:List Nod} {a:Int}:V 2 s ->(n=0∨n=2) ->(∀y∈gs,G V 8 y) ->(∀y∈cs,G V 15 y)->G V 18 ⟨3,s,n,zT,[],gs++cs,a⟩
 | prot {s:Str} {us ss:List Nod} {a:Int}:V 2 s ->(∀y∈us,G V 16 y) ->(∀y∈ss,G V 12 y)->G V 18 ⟨5,s,0,zT,[],us++ss,a⟩
 | ext {s:Str} {t:Typ} {rs us fs:List Nod} {a:Int}:V 2 s->GT V false t ->(∀y∈rs,G V 9 y) ->(∀y∈us,G V 17 y) ->(∀y∈fs,G V 11 y)->G V 18 ⟨6,s,0,t,[],rs ++(us++fs),a⟩
 | fun{x:Nod}:G V 11 x->G V 18 x
theorem bsz {s:Str}{a:List Typ}{k q:Nat}(h:1+szT a+k<=q):(a5S s a).sz+k<=q:=by have:=baseT_sz s a;omega
theorem atn_nm {V:Int->Str->Prop}{s:Str}{a:Int}(h:V 1 s):G V 0 ⟨54,s,0,zT,[],[],a⟩/\V 1 s:=⟨.name h,h⟩
section
variable (V:Int->Str->Prop)
def SGX (xs:List Nod):Prop:=∃gs ps th rs,xs=gs ++(ps ++(th++rs))/\(∀y∈gs,G V 8 y)/\(∀y∈ps,G V 4 y)/\(∀y∈th,G V 10 y)/\th.length<=1/\(∀y∈rs,G V 9 y)
def FDX (xs:List Nod):Prop:=∃fs ds,xs=fs++ds/\(∀y∈fs,G V 13 y)/\(∀y∈ds,G V 14 y)/\ds.length<=1
def PRX (xs:List Nod):Prop:=∃us ss,xs=us++ss/\(∀y∈us,G V 16 y)/\(∀y∈ss,G V 12 y)
def EXA (xs:List Nod):Prop:=∃rs us,xs=rs++us/\(∀y∈rs,G V 9 y)/\(∀y∈us,G V 17 y)
def EXX (xs:List Nod):Prop:=∃rs us fs,xs=rs ++(us++fs)/\(∀y∈rs,G V 9 y)/\(∀y∈us,G V 17 y)/\(∀y∈fs,G V 11 y)
def MTX (xs:List Nod):Prop:=∃x us,xs=x::us/\G V 0 x/\(∀y∈us,G V 5 y)
def INX (xs:List Nod):Prop:=∃x ps,xs=x::fl ps/\TX V x/\(∀p∈ps,G V 0 p.1)/\(∀p∈ps,TX V p.2)
end
section
variable {V:Int->Str->Prop}
theorem sgx0 (h1:∀y∈gs,G V 8 y)(h2:∀y∈ps,G V 4 y)(h3:∀y∈rs,G V 9 y):SGX V (gs ++(ps++rs)):=⟨gs,ps,[],rs,rfl,h1,h2,all_nil,Nat.zero_le _,h3⟩
theorem sgx1 {t:Nod}(h1:∀y∈gs,G V 8 y)(h2:∀y∈ps,G V 4 y)(h4:G V 10 t)(h3:∀y∈rs,G V 9 y):SGX V (gs ++(ps ++(t::rs))):=⟨gs,ps,[t],rs,rfl,h1,h2,a5C h4,Nat.le_refl _,h3⟩
theorem fn_of {s:Str}{b:Nod}{a:Int}(h1:V 1 s)(h2:t=uT∨GT V false t)(h:SGX V xs)(h3:G V 2 b):G V 11 ⟨7,s,1,t,[],xs++[b],a⟩:=by
 obtain⟨gs,ps,th,rs,e,g1,g2,g3,g4,g5⟩:=h;exact .fn h1 h2 e g1 g2 g3 g4 g5 h3
theorem sg_of {s:Str}{a:Int}(h1:V 1 s)(h2:t=uT∨GT V false t)(h:SGX V xs):G V 12 ⟨7,s,0,t,[],xs,a⟩:=by
 obtain⟨gs,ps,th,rs,e,g1,g2,g3,g4,g5⟩:=h;exact .sg h1 h2 e g1 g2 g3 g4 g5
theorem fdx0 (h:∀y∈fs,G V 13 y):FDX V fs:=⟨fs,[],(List.append_nil _).symm,h,all_nil,Nat.zero_le _⟩
theorem fdx1 {d:Nod}(h:∀y∈fs,G V 13 y)(h2:G V 14 d):FDX V (fs++[d]):=⟨fs,[d],rfl,h,a5C h2,Nat.le_refl _⟩
theorem st_of {s:Str}{a:Int}(h1:V 2 s)(hn:n=0∨n=1∨n=2∨n=3)(h2:∀y∈gs,G V 8 y)(h:FDX V xs):G V 18 ⟨2,s,n,zT,[],gs++xs,a⟩:=by
 obtain⟨fs,ds,e,g1,g2,g3⟩:=h;exact .strc h1 hn (by rw[e]) h2 g1 g2 g3
theorem cl_of {s:Str}{a:Int}(h1:V 2 s)(h2:∀y∈gs,G V 8 y)(h:FDX V xs):G V 18 ⟨4,s,0,zT,[],gs++xs,a⟩:=by
 obtain⟨fs,ds,e,g1,g2,g3⟩:=h;exact .clss h1 (by rw[e]) h2 g1 g2 g3
theorem prx0 {us:List Nod}(h:∀y∈us,G V 16 y):PRX V us:=⟨us,[],(List.append_nil _).symm,h,all_nil⟩
theorem prx1 {x:Nod}(h:PRX V xs)(h2:G V 12 x):PRX V (xs++[x]):=by
 obtain⟨us,ss,rfl,g1,g2⟩:=h;exact⟨us,ss++[x],List.append_assoc ..,g1,a7i g2 (a5C h2)⟩
theorem pr_of {s:Str}{a:Int}(h1:V 2 s)(h:PRX V xs):G V 18 ⟨5,s,0,zT,[],xs,a⟩:=by
 obtain⟨us,ss,rfl,g1,g2⟩:=h;exact .prot h1 g1 g2
theorem exa0 (h:∀y∈rs,G V 9 y):EXA V rs:=⟨rs,[],(List.append_nil _).symm,h,all_nil⟩
theorem exa1 {x:Nod}(h:EXA V xs)(h2:G V 17 x):EXA V (xs++[x]):=by
 obtain⟨us,ss,rfl,g1,g2⟩:=h;exact⟨us,ss++[x],List.append_assoc ..,g1,a7i g2 (a5C h2)⟩
theorem exx0 (h:EXA V xs):EXX V xs:=by
 obtain⟨rs,us,rfl,g1,g2⟩:=h;exact⟨rs,us,[],by rw[List.append_nil],g1,g2,all_nil⟩
theorem exx1 {x:Nod}(h:EXX V xs)(h2:G V 11 x):EXX V (xs++[x]):=by
 obtain⟨rs,us,ss,rfl,g1,g2,g3⟩:=h;exact⟨rs,us,ss++[x],by rw[List.append_assoc,List.append_assoc],g1,g2,a7i g3 (a5C h2)⟩
theorem ex_of {s:Str}{a:Int}(h1:V 2 s)(h2:GT V false t)(h:EXX V xs):G V 18 ⟨6,s,0,t,[],xs,a⟩:=by
 obtain⟨rs,us,ss,rfl,g1,g2,g3⟩:=h;exact .ext h1 h2 g1 g2 g3
theorem mtx0 {x:Nod}(h:G V 0 x):MTX V [x]:=⟨x,[],rfl,h,all_nil⟩
theorem mtx1 {y:Nod}(h:MTX V xs)(h2:G V 5 y):MTX V (xs++[y]):=by
 obtain⟨x,us,rfl,g1,g2⟩:=h;exact⟨x,us++[y],rfl,g1,a7i g2 (a5C h2)⟩
theorem mt_of {a:Int}(h:MTX V xs):G V 1 ⟨26,[],0,zT,[],xs,a⟩:=by
 obtain⟨x,us,rfl,g1,g2⟩:=h;exact .mat g1 g2
theorem inx0 {s:Str}{a:Int}(h:V 4 s):INX V [⟨52,s,0,zT,[],[],a⟩]:=⟨_,[],rfl,.mk h,all_nil,all_nil⟩
theorem inx1 {s:Str}{a:Int}(h:INX V xs)(h1:G V 0 e)(h2:V 4 s):INX V (xs++[e,⟨52,s,0,zT,[],[],a⟩]):=by
 obtain⟨x,ps,rfl,g0,g1,g2⟩:=h;refine⟨x,ps++[(e,⟨52,s,0,zT,[],[],a⟩)],by rw[c4a];rfl,g0,a7i g1 (a5C h1),a7i g2 (a5C (.mk h2))⟩
theorem in_of {s:Str}{a:Int}(h:INX V xs)(h1:G V 0 e)(h2:V 4 s):G V 0 ⟨53,[],0,zT,[],xs++[e,⟨52,s,0,zT,[],[],a⟩],b⟩:=by
 obtain⟨x,ps,rfl,g0,g1,g2⟩:=h;have e1:x::fl ps++[e,⟨52,s,0,zT,[],[],a⟩]=x::fl (ps++[(e,⟨52,s,0,zT,[],[],a⟩)]):=by rw[c4a];rfl
 rw[e1];exact .interp g0 (by simp) (a7i g1 (a5C h1)) (a7i g2 (a5C (.mk h2)))
end
section
variable (l:List Tok) (k:Nat)
section
variable {X:Type} (c:(X->Prop)->Prop)
@[reducible] def SI (p:Option (Rs X (Int×Int))):Prop:=∀(A:Type) (Q:A->Prop) (f:X->Option A) (g:Int×Int->Option A),c (fun x=>S1 Q (f x)) ->(∀{e:Int} {q:Nat},k<=q->q<=l.length->S1 Q (g (e,(q:Int))))->S1 Q (p9 p f g)
@[reducible] def SE (p:Option (Rs X (o6×Int))):Prop:=∀(A:Type) (Q:A->Prop) (f:X->Option A) (g:o6×Int->Option A),c (fun x=>S1 Q (f x)) ->(∀{e:o6} {q:Nat},k<=q->q<=l.length->e.fault.code≠0->S1 Q (g (e,(q:Int))))->S1 Q (p9 p f g)
@[reducible] def LI {R:Type} (p:Option (Lr X (Rs R (Int×Int)))):Prop:=∀(A:Type) (Q:A->Prop) (f:X->Option A) (g:Rs R (Int×Int)->Option A),c (fun x=>S1 Q (f x)) ->(∀{e:Int} {q:Nat},k<=q->q<=l.length->S1 Q (g (.pan (e,(q:Int)))))->S1 Q (bS p f g)
@[reducible] def LX {R:Type} (p:Option (Lr X (Rs R (o6×Int)))):Prop:=∀(A:Type) (Q:A->Prop) (f:X->Option A) (g:Rs R (o6×Int)->Option A),c (fun x=>S1 Q (f x)) ->(∀{e:o6} {q:Nat},k<=q->q<=l.length->e.fault.code≠0->S1 Q (g (.pan (e,(q:Int)))))->S1 Q (bS p f g)
end
section
variable (P:Nod->Prop) (P1:List Nod->Prop) (PT:Typ->Prop)
@[reducible] def oN (c:Nod×Int->Prop):Prop:=∀{x:Nod} {q:Nat},k<q->q<=l.length->x.sz+4*k<=4*q->P x->c (x,(q:Int))
@[reducible] def oL (c:List Nod×Int->Prop):Prop:=∀{x:List Nod} {q:Nat},k<=q->q<=l.length->szN x+4*k<=4*q->x.length<=4*q->P1 x->c (x,(q:Int))
@[reducible] def oR (c:Int×List Nod->Prop):Prop:=∀{x:List Nod} {q:Nat},k<=q->q<=l.length->szN x+4*k<=4*q->x.length<=4*q->P1 x->c ((q:Int),x)
@[reducible] def oT (d:Nat) (c:Typ×Int->Prop):Prop:=∀{t:Typ} {q:Nat},k+1<=q+d->q<=l.length->t.sz+k<=q+d->PT t->c (t,(q:Int))
@[reducible] def oTs (PT:List Typ->Prop) (c:List Typ×Int->Prop):Prop:=∀{x:List Typ} {q:Nat},k<=q->q<=l.length->szT x+k<=q->x.length<=4*q->PT x->c (x,(q:Int))
end
@[reducible] def LP {B:Type} (m k0:Nat) (P:List Nod->Prop) (S:Nat ->((List Nod->Prop))->Option B->Prop) (p:Nat->List Nod->Option B):Prop:=∀{k:Nat} {xs:List Nod},k0<=k->k<=l.length->l.length<m+k->szN xs+4*k0<=4*k->P xs->S k0 P (p k xs)
end
@[reducible] def SNi (l:List Tok) (P:Nod->Prop) (k:Nat):=SI l k (oN l k P)
@[reducible] def SN (l:List Tok) (P:Nod->Prop) (k:Nat):=SE l k (oN l k P)
@[reducible] def SLi (l:List Tok) (k:Nat) (P:List Nod->Prop):=SI l k (oL l k P)
@[reducible] def SL (l:List Tok) (k:Nat) (P:List Nod->Prop):=SE l k (oL l k P)
@[reducible] def ST (l:List Tok) (P:Typ->Prop) (d k:Nat):=SI l k (oT l k P d)
@[reducible] def LLi (l:List Tok) {R:Type} (k:Nat) (P:List Nod->Prop):=LI l k (R:=R) (oL l k P)
@[reducible] def LLs (l:List Tok) {R:Type} (k:Nat) (P:List Nod->Prop):=LX l k (R:=R) (oL l k P)
@[reducible] def LIi (l:List Tok) {R:Type} (k:Nat) (P:List Nod->Prop):=LI l k (R:=R) (oR l k P)
@[reducible] def LIs (l:List Tok) {R:Type} (k:Nat) (P:List Nod->Prop):=LX l k (R:=R) (oR l k P)
theorem lpI {B:Type}{l:List Tok}{k0:Nat}{P:List Nod->Prop}{S:Nat ->(List Nod->Prop)->Option B->Prop}{p:Nat->Nat->List Nod->Option B}(h:∀m,LP l m k0 P S (p m) -> ∀(k:Nat) (xs:List Nod),k0<=k->k<=l.length->l.length<m+1+k->szN xs+4*k0<=4*k->P xs->S k0 P (p (m+1) k xs)):∀m,LP l m k0 P S (p m)
 | 0=>fun _ h2 h3=>by omega
 | m+1=>fun h1 h2 h3 h4 h5=>h m (lpI h m) _ _ h1 h2 h3 h4 h5
theorem two {P:Prop}(x:P:=by
 try have hl:=C.hl
 first|have hx:=a00 xs|have hx:=a5H xs|have hx:=x.a3X|have hx:=t.a3X|skip
 try intro A Q f g hok hpan
 repeat' first
 | with_reducible first|assumption|exact all_nil|exact .inl rfl|exact .inr rfl|exact .inr (.inl rfl)|exact .inr (.inr rfl)|exact .inr (.inr (.inl rfl))|exact .inr (.inr (.inr rfl))|exact .inr (by assumption)|refine a7i ?_ ?_|refine a5C ?_|intro _
 |(simp (disch:=omega) only[NF,b7v,a9m,c1S,Int.reduceEq,decide_true,decide_false,false_or,fin,H6,List.append_nil,List.nil_append,List.append_assoc,List.cons_append,b1p])
 |(simp (disch:=omega) only[NF,b7v,a9m,c1S,Int.reduceEq,decide_true,decide_false,H6,List.append_nil,List.nil_append,List.append_assoc,List.cons_append,b1p])
 | with_reducible first
  | apply hok|apply hpan|apply ih|apply lp1|apply pr1|apply pr2|apply pc1
  | apply H.f_block|apply H.f_statement|apply H.f_conditional|apply H.f_local|apply H.f_match|apply H.f_expr|apply H.f_unary|apply H.f_postfix|apply H.f_atomn (by assumption)|apply H.f_atom|apply H.f_interp|apply H.f_closure|apply H.f_stmts|apply H.f_args|apply H.f_one|apply H.f_climb
  | apply match_l C H (k0:=k)|apply atom_l C H (k0:=k)|apply c2b C H (k0:=k)|apply stmts_l C H (k0:=k)|apply args_l C H (k0:=k+1)|apply post0 C H (k0:=k)|apply post1 C H (k0:=k)
  | apply typ_r C|apply path_r C|apply bounds_r C|apply gens_r C|apply where_r C|apply params_r C|apply result_r C|apply sign_r C|apply proto_r C|apply place_r C|apply pat_r C|apply block_r C|apply c4b C|apply extend_r C|apply fields_r C|apply cases_r C
  | apply bounds_l C (k0:=k)|apply gens_l C (k0:=k)|apply where_l C (k0:=k)|apply params_l C (k0:=k)|apply proto_l5 C (k0:=k)|apply c7q C (k0:=k)|apply c2V C (k0:=k)|apply b80 C|apply b65 C|apply c6X C (k0:=k)|apply cases_l3 C (k0:=k)|apply b8U C (k1:=k)
  | apply c47 hl|apply t_key hl|apply c06 hl|apply b5z hl|apply t_is hl|apply t_isK hl|apply t_name hl|apply t_cap hl|apply t_token hl|apply t_int C|apply t_is1 hl|apply b8g hl|apply t_idx|apply t_app|refine t_place ?_ (by assumption) (fun _=>?_) ?_
  | refine i_T (by assumption) ?_|refine k_T (by assumption) ?_|refine t_F nT ?_|apply i_if|apply k_if
  | exact c5a|exact C.tk (by assumption)|refine C.tk (kd:=1) (b6o (by assumption))|refine C.lit (.inl (C.tk (by assumption)))|refine C.lit (.inr (.inl (C.tk (by assumption))))|refine C.lit (.inr (.inr (C.tk (by assumption))))
  | exact isT_neg (by assumption) (by assumption)|exact b5i (by assumption)
  | apply GT.base|apply GT.dot|refine .path (by assumption)|apply GT.any|apply GT.func|apply GT.func1
  | apply G.int|apply G.tru|apply G.fal|apply G.text|apply G.name|apply G.cons|apply G.clos|apply G.bin|apply G.un|apply G.field|apply G.call|apply G.method|apply G.stat0|apply G.stat1|apply G.make|apply G.apply|apply G.list|apply plc_fld|apply plc_nm|apply atn_nm|refine .lend (And.left (by assumption)) (And.right (by assumption))|apply G.arg
  | apply G.let0|apply G.let1|apply G.assign|apply G.sole|apply G.if2|refine .if3 ?_ ?_ (by assumption)|refine .if4 ?_ ?_ (by assumption)|refine .ifs (by assumption)|apply G.whil|apply G.mat|apply G.ret0|apply G.ret1|apply G.thrw|apply G.doc|apply G.dfr|apply G.block
  | apply G.wild|apply G.bnd|apply G.pint|apply G.pneg|apply G.ptru|apply G.pfal|apply G.ptext|apply G.pcase|apply G.param|apply G.arm
  | apply G.bound|apply G.gen|apply G.rq1|apply G.rq2|apply G.thr|apply G.fld|apply G.dei|apply G.case|apply G.assoc|apply G.alias|apply G.enum
  | apply sgx1|apply sgx0|apply fn_of|apply sg_of|apply fdx1|apply fdx0|apply st_of|apply cl_of|apply prx1|refine prx0 (by assumption)|apply pr_of|apply exa1|refine exa0 (by assumption)|refine exx0 (by assumption)|apply exx1|apply ex_of|apply mtx0|apply mtx1|apply mt_of|apply inx0|apply inx1|apply in_of|apply bsz|exact .fun (by assumption)
 | exact trivial
 | exact rfl
 | omega
 |(simp only[SZ,List.length_append,List.length_cons,List.length_nil];omega)
 |(simp only[SZ]at *;omega)
 | with_reducible apply t_if
 |(simp only[CD])):P:=x
variable {k k0 n:Nat}
section
variable {V:Int->Str->Prop} {l:List Tok} {size:Int} (C:Cx V l)
include C
theorem typ_l8 {n k0:Nat}{Φ:p8}(pr1:∀{k:Nat},k<=l.length->k0<k->ST l (GT V false) 0 k (Φ.F4 l k size)):∀(m:Nat) {k:Nat} {xs:List Typ},k0<=k->k<=l.length->l.length<m+k->szT xs+k0<=k ->(∀x∈xs,GT V false x)->LI l k0 (R:=Typ×Int) (oTs l k0 (∀x ∈ ·,GT V false x)) (a0b n Φ size l m xs k)
 | 0,_,_,_,_,_,_,_=>by omega
 | m+1,k,xs,h1,h2,h3,h4,h5=>by
  have ih:=fun{k:Nat} {xs:List Typ}=>typ_l8 (n:=n) pr1 m (k:=k) (xs:=xs);rw[a0b.eq_2];exact two
theorem c6j {n k0:Nat}{Φ:p8}(pr1:∀{k:Nat},k<=l.length->k0<k->ST l (GT V false) 0 k (Φ.F4 l k size)):∀(m:Nat) {k:Nat} {xs:List Typ},k0<=k->k<=l.length->l.length<m+k->szT xs+k0<=k ->(∀x∈xs,GT V false x)->LI l k0 (R:=Typ×Int) (oTs l k0 (∀x ∈ ·,GT V false x)) (a1x n Φ size l m xs k)
 | 0,_,_,_,_,_,_,_=>by omega
 | m+1,k,xs,h1,h2,h3,h4,h5=>by
  have ih:=fun{k:Nat} {xs:List Typ}=>c6j (n:=n) pr1 m (k:=k) (xs:=xs);rw[a1x.eq_2];exact two
theorem c6k {n k0:Nat}{b:Bool}{Φ:p8}:∀(m:Nat) {k:Nat} {t:Typ},k0<k->k<=l.length->l.length<m+k->t.sz+k0<=k->GT V true t->LI l k0 (R:=Typ×Int) (fun c=>∀{t:Typ} {q:Nat},k0<q->q<=l.length->t.sz+k0<=q->GT V true t->c ((q:Int),t)) (a0o n Φ b size l m k t)
 | 0,_,_,_,_,_,_,_=>by omega
 | m+1,k,t,h1,h2,h3,h4,h5=>by
  have ih:=fun{k t}=>c6k (n:=n) (k0:=k0) (b:=b) (Φ:=Φ) m (k:=k) (t:=t);rw[a0o.eq_2];cases b<;>exact two
structure HT (V:Int->Str->Prop)(l:List Tok)(size:Int)(n:Nat):Prop where
 typ:∀{k:Nat},k<=l.length->30000+40*(l.length-k)+10<=n->ST l (GT V false) 0 k ((p8.fs n).F4 l k size)
 path:∀{k:Nat} {b:Bool},k<=l.length->30000+40*(l.length-k)+5<=n->ST l (GT V true) 0 k ((p8.fs n).O9 b l k size)
theorem ht:∀n,HT V l size n
 | 0=>⟨fun _ h=>by omega,fun _ h=>by omega⟩
 | n+1=>by
  have H:=ht n;have pr1:=fun{k:Nat} h1 h2=>H.typ (k:=k) h1 h2;have pr2:=fun{k:Nat} {b:Bool} h1 h2=>H.path (k:=k) (b:=b) h1 h2;refine⟨fun{k} hk hn=>?_,fun{k b} hk hn=>?_⟩
  ·have lp1:=fun{k' xs}=>typ_l8 C (size:=size) (n:=n) (k0:=k) (fun g1 g2=>H.typ g1 (by omega)) n (k:=k') (xs:=xs);simp only[p8.fs,a2a];exact two
  ·have lp1:=fun{k' xs}=>c6j C (size:=size) (n:=n) (k0:=k) (fun g1 g2=>H.typ g1 (by omega)) n (k:=k') (xs:=xs);have pc1:=fun{k' t}=>c6k C (size:=size) (n:=n) (k0:=k) (b:=b) (Φ:=p8.fs n) n (k:=k') (t:=t);simp only[p8.fs,a09];exact two
theorem typ_r (hk:k<=l.length)(hn:200000<=n):ST l (GT V false) 0 k (F4 n l k size):=have hl:=C.hl;(ht C n).typ hk (by omega)
theorem path_r {b:Bool}(hk:k<=l.length)(hn:200000<=n):ST l (GT V true) 0 k (O9 n b l k size):=have hl:=C.hl;(ht C n).path hk (by omega)
theorem bounds_l (hn:200000<=n):∀m,LP l m k0 (∀x ∈ ·,G V 7 x) (SLi l) fun k xs=>a0s n size l m xs k:=lpI fun m ih k xs h1 h2 h3 h4 h5=>by
 simp only[a0s];exact two
theorem bounds_r (hk:k<=l.length)(hn:200000<=n):SLi l k (∀x ∈ ·,G V 7 x) (a0D n l k size):=by
 unfold a0D;exact two
theorem gens_l (hn:200000<=n):∀m,LP l m k0 (∀x ∈ ·,G V 8 x) (LLi l) fun k xs=>Y9 n size l m xs k:=lpI fun m ih k xs h1 h2 h3 h4 h5=>by
 simp only[Y9];exact two
theorem gens_r (hk:k<=l.length)(hn:200000<=n):SLi l k (∀x ∈ ·,G V 8 x) (T9 n l k size):=by
 unfold T9;exact two
theorem where_l (hn:200000<=n):∀m,LP l m k0 (∀x ∈ ·,G V 9 x) (SLi l) fun k xs=>a0N n size l m xs k:=lpI fun m ih k xs h1 h2 h3 h4 h5=>by
 simp only[a0N];exact two
theorem where_r (hk:k<=l.length)(hn:200000<=n):SLi l k (∀x ∈ ·,G V 9 x) (a0T n l k size):=by
 unfold a0T;exact two
theorem params_l (hn:200000<=n):∀m,LP l m k0 (∀x ∈ ·,G V 4 x) (LLi l) fun k xs=>Y5 n size l m xs k:=lpI fun m ih k xs h1 h2 h3 h4 h5=>by
 simp only[Y5];exact two
theorem params_r (hk:k<=l.length)(hn:200000<=n):SLi l k (∀x ∈ ·,G V 4 x) (X7 n l k size):=by
 unfold X7;exact two
theorem result_r (hk:k<=l.length)(hn:200000<=n):ST l (fun t=>t=uT∨GT V false t) 1 k (a0a n l k size):=by
 unfold a0a;exact two
theorem sign_r (hk:k<=l.length)(hn:200000<=n):SI l k (fun c=>∀{s:Str} {t:Typ} {x:List Nod} {a:Int} {q:Nat},k<q->q<=l.length->t.sz+szN x+1+4*k<=4*q->x.length<=40000->V 1 s ->(t=uT∨GT V false t)->SGX V x->c (s,t,x,a,(q:Int))) (U8 n l k size):=by
 unfold U8;exact two
theorem proto_l5 (hn:200000<=n):∀m,LP l m k0 (∀x ∈ ·,G V 16 x) (LIi l) fun k xs=>Z4 n size l m k xs:=lpI fun m ih k xs h1 h2 h3 h4 h5=>by
 simp only[Z4];exact two
theorem c7q (hn:200000<=n):∀m,LP l m k0 (PRX V) (LIi l) fun k xs=>Y0 n size l m k xs:=lpI fun m ih k xs h1 h2 h3 h4 h5=>by
 simp only[Y0];exact two
theorem proto_r (hk:k<=l.length)(hn:200000<=n):SNi l (G V 18) k (a0M n l k size):=by
 unfold a0M;exact two
omit C in
theorem plc_fld {s u:Str}{o a:Int}{x:List Nod}(hv:V 1 s)(h:G V 0 ⟨o,u,0,zT,[],x,a⟩/\PLC ⟨o,u,0,zT,[],x,a⟩):G V 0 ⟨55,s,0,zT,[],[⟨o,u,0,zT,[],x,a⟩],a⟩/\PLC ⟨55,s,0,zT,[],[⟨o,u,0,zT,[],x,a⟩],a⟩:=⟨.field hv h.1,.fld h.2⟩
omit C in
theorem plc_nm {s:Str}{a:Int}(hv:V 1 s):G V 0 ⟨54,s,0,zT,[],[],a⟩/\PLC ⟨54,s,0,zT,[],[],a⟩:=⟨.name hv,.nm rfl⟩
theorem c2V {n k0:Nat}{a:Int}:∀(m:Nat) {k:Nat} {o:Int} {s:Str} {xs:List Nod},k0<k->k<=l.length->l.length<m+k->szN xs+2+4*k0<=4*k ->(G V 0 ⟨o,s,0,zT,[],xs,a⟩/\PLC ⟨o,s,0,zT,[],xs,a⟩)->LI l k0 (R:=Nod×Int) (fun c=>∀{o:Int} {s:Str} {x:List Nod} {q:Nat},k0<q->q<=l.length->szN x+2+4*k0<=4*q ->(G V 0 ⟨o,s,0,zT,[],x,a⟩/\PLC ⟨o,s,0,zT,[],x,a⟩)->c ((q:Int),o,s,x)) (a0L n a size l m k o s xs)
 | 0,_,_,_,_,_,_,_,_,_=>by omega
 | m+1,k,o,s,xs,h1,h2,h3,h4,h5=>by
  have ih:=fun{k o s xs}=>c2V (n:=n) (k0:=k0) (a:=a) m (k:=k) (o:=o) (s:=s) (xs:=xs);rw[a0L.eq_2];exact two
theorem place_r (hk:k<=l.length)(hn:200000<=n):SNi l (fun x=>G V 0 x/\PLC x) k (a0S n l k size):=by
 unfold a0S;exact two
theorem pat_l6 {Φ:A7}(pr1:∀{k:Nat},k<=l.length->k0<k->SNi l (G V 3) k (Φ.I7 l k size)):∀m,LP l m k0 (∀x ∈ ·,G V 3 x) (LIi l) fun k xs=>a0g n Φ size l m k xs:=lpI fun m ih k xs h1 h2 h3 h4 h5=>by
 simp only[a0g];exact two
theorem pat_fs:∀(n:Nat) {k:Nat},k<=l.length->30000+40*(l.length-k)<=n->SNi l (G V 3) k ((A7.fs n).I7 l k size)
 | 0,k,hk,hn=>by omega
 | n+1,k,hk,hn=>by
  have pr1:=fun{q:Nat} (g1:q<=l.length) (g2:30000+40*(l.length-q)<=n)=>pat_fs n g1 g2;have lp1:=fun{k' xs}=>pat_l6 C (size:=size) (n:=n) (k0:=k) (fun g1 g2=>pr1 g1 (by omega)) n (k:=k') (xs:=xs);simp only[A7.fs,F5];exact two
theorem pat_r (hk:k<=l.length)(hn:200000<=n):SNi l (G V 3) k (I7 n l k size):=have hl:=C.hl;pat_fs C n hk (by omega)
end
end Go.Proofs.YtjhfloacokgdiaaGreatDoor
