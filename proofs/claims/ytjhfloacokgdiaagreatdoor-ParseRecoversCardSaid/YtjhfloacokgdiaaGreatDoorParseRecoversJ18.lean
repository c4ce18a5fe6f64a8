/- Texts of ParseRecovers, joined. -/
import Derived.Test.YtjhfloacokgdiaaGreatDoorParseRecoversJ17
set_option maxRecDepth 100000
set_option maxHeartbeats 20000000
set_option linter.all false
namespace Go.Proofs.YtjhfloacokgdiaaGreatDoor
open Go Go.Vm
variable {α:Type} {b kind kind' n:Int} {fs gs ps rs xs:List Nod} {m:List α} {i:Nat} {e:Nod} {u:Str} {t:Typ}
theorem a4m {a:Int}(h1:-9223372036854775808<=a)(h2:a<=9223372036854775807):w64 a=a:=by
 unfold w64;simp only[IntKind.wrap,IntKind.bits,IntKind.signed];simp;omega
theorem H6 {k:Nat}(h:k<=1000000000000):w64 ((k:Int)+1) =((k+1:Nat):Int):=by rw[a4m (by omega) (by omega)];rfl
theorem X6 {a:Int}(h:a<b):ltB a b=true:=by simp[ltB,h]
theorem a0C {a:Int}(h:¬a<b):ltB a b=false:=by simp[ltB,h]
theorem b9d {a:Int}(h:a<=b):leB a b=true:=by simp[leB,h]
theorem c2n {a:Int}(h:¬a<=b):leB a b=false:=by simp[leB,h]
theorem a9m (a b:Int):eqB a b=decide (a=b):=by unfold eqB;rfl
theorem a0z {a:Int}(h:a=b):eqB a b=true:=by simp[eqB,h]
theorem a1t {a:Int}(h:¬a=b):eqB a b=false:=by simp[eqB,h]
theorem a8J (s:Str):eqS s s=true:=by simp[eqS]
theorem eqS_cons (a:UInt8)(r:Str):eqS (a::r) []=false:=by simp[eqS]
theorem a0k {l:List α}(h:i<l.length):idx' l (i:Int)=some l[i]:=by
 have h1:inR (i:Int) l.length=true:=by simp[inR,h]
 simp[idx',h1,h]
theorem c3y {b:Nat}{l:List α}(h:(l.length+m.length)*(b+1)<=70368744177664):app b l m=some (l++m):=by
 unfold app leN;rw[decide_eq_true h]
theorem drop_eq {l:List α}(h:i<l.length):l.drop i=l[i]::l.drop (i+1):=List.drop_eq_getElem_cons h
def bS {α ρ β:Type}(x:Option (Lr α ρ))(f:α->Option β)(o:ρ->Option β):Option β:=match x with
 | none=>none
 | some (.brk a)=>f a
 | some (.out r)=>o r
theorem c1S (a:UInt8)(r:Str):eqS [] (a::r)=false:=by simp[eqS]
theorem a3Z {b:Nat}{l:List α}(hl:l.length<=100000)(hm:m.length<=100000)(hb:b<=1000):app b l m=some (l++m):=by
 refine c3y ?_;have:(l.length+m.length)*(b+1)<=200000*1001:=Nat.mul_le_mul (by omega) (by omega);omega
theorem b1p (t:Typ):(⟨t.kind,t.name,t.n,t.args⟩:Typ)=t:=by cases t;rfl
def kindOf (s:Str)(a:List Typ):Int :=cond (eqB (List.length a:Int) 0&&eqS s [73,110,116]) 1 (cond (eqB (List.length a:Int) 0&&eqS s [66,111,111,108]) 2 (cond (eqB (List.length a:Int) 0&&eqS s [84,101,120,116]) 3 (cond (eqB (List.length a:Int) 0&&eqS s [85,110,105,116]) 4 (cond (eqB (List.length a:Int) 1&&eqS s [65,114,114,97,121]) 5 (cond (eqB (List.length a:Int) 1&&eqS s [87,101,97,107]) 11 6)))))
def a5S (s:Str)(a:List Typ):Typ:=⟨kindOf s a,cond (!eqB (kindOf s a) 6) [] s,0,a⟩
theorem b7v (s:Str)(a:List Typ):a5X s a=some (a5S s a):=by
 unfold a5X a5S kindOf;rcases a with _ |⟨x,_ |⟨y,r⟩⟩
 ·rw[show eqB (List.length ([]:List Typ):Int) 0=true from a0z rfl,show eqB (List.length ([]:List Typ):Int) 1=false from a1t (by simp),show ltB 0 (List.length ([]:List Typ):Int)=false from a0C (by simp)];cases eqS s [73,110,116]<;>cases eqS s [66,111,111,108]<;>cases eqS s [84,101,120,116]<;>cases eqS s [85,110,105,116]<;>simp[a0X,eqB]
 ·rw[show eqB (List.length [x]:Int) 0=false from a1t (by simp),show eqB (List.length [x]:Int) 1=true from a0z (by simp),show ltB 0 (List.length [x]:Int)=true from X6 (by simp)];cases h1:eqS s [65,114,114,97,121]<;>cases h2:eqS s [87,101,97,107]<;>simp[a0X,eqB]
 ·rw[show eqB (List.length (x::y::r):Int) 0=false from a1t (by simp;omega),show eqB (List.length (x::y::r):Int) 1=false from a1t (by simp;omega),show ltB 0 (List.length (x::y::r):Int)=true from X6 (by simp;omega)];simp[a0X,eqB]
theorem b6Y (a b:Str):eqS a b=decide (a=b):=by rw[Bool.eq_iff_iff];simp[eqS]
mutual
def Typ.sz:Typ->Nat
 |⟨_,_,_,a⟩=>1+szT a
def szT:List Typ->Nat
 | []=>0
 | x::r=>x.sz+szT r
end
theorem tsz (k:Int)(s:Str)(n:Int)(a:List Typ):(⟨k,s,n,a⟩:Typ).sz=1+szT a:=rfl
theorem Typ.a3X (x:Typ):x.sz=1+szT x.args:=by cases x;rfl
theorem szT_nil:szT []=0:=rfl
theorem szT_cons (x:Typ)(r:List Typ):szT (x::r)=x.sz+szT r:=rfl
theorem b1k:∀a b:List Typ,szT (a++b)=szT a+szT b
 | [],b=>by simp[szT]
 | x::a,b=>by rw[List.cons_append,szT,szT,b1k a b];omega
theorem a5H:∀l:List Typ,l.length<=szT l
 | []=>Nat.le_refl _
 | x::r=>by have:=a5H r;have:=x.a3X;simp only[szT,List.length_cons];omega
theorem a3w {x:Typ}:∀{l:List Typ},x∈l->x.sz<=szT l
 | y::r,h=>by
  simp only[szT];rcases List.mem_cons.1 h with rfl|h
  ·omega
  ·have:=a3w h;omega
mutual
def Nod.sz:Nod->Nat
 |⟨_,_,_,t,ts,l,_⟩=>1+t.sz+szT ts+szN l
def szN:List Nod->Nat
 | []=>0
 | x::r=>x.sz+szN r
end
mutual
def Nod.er:Nod->Nod
 |⟨o,s,n,t,ts,l,_⟩=>⟨o,s,n,t,ts,ers l,0⟩
def ers:List Nod->List Nod
 | []=>[]
 | x::r=>x.er::ers r
end
theorem nsz (o:Int)(s:Str)(n:Int)(t:Typ)(ts:List Typ)(l:List Nod)(a:Int):(⟨o,s,n,t,ts,l,a⟩:Nod).sz=1+t.sz+szT ts+szN l:=rfl
theorem Nod.a3X (x:Nod):x.sz=1+x.t.sz+szT x.ts+szN x.l:=by cases x;rfl
theorem Nod.sz2 (x:Nod):2<=x.sz:=by have:=x.a3X;have:=x.t.a3X;omega
theorem szN_nil:szN []=0:=rfl
theorem a4V (x:Nod)(r:List Nod):szN (x::r)=x.sz+szN r:=rfl
theorem b4k:∀a b:List Nod,szN (a++b)=szN a+szN b
 | [],b=>by simp[szN]
 | x::a,b=>by rw[List.cons_append,szN,szN,b4k a b];omega
theorem a00:∀l:List Nod,l.length<=szN l
 | []=>Nat.le_refl _
 | x::r=>by have:=a00 r;have:=x.sz2;simp only[szN,List.length_cons];omega
theorem a1Q {x:Nod}:∀{l:List Nod},x∈l->x.sz<=szN l
 | y::r,h=>by
  simp only[szN];rcases List.mem_cons.1 h with rfl|h
  ·omega
  ·have:=a1Q h;omega
theorem SZ:(∀(o:Int) (s:Str) (n:Int) (t:Typ) (ts:List Typ) (l:List Nod) (a:Int),(⟨o,s,n,t,ts,l,a⟩:Nod).sz=1+t.sz+szT ts+szN l)/\szN []=0/\(∀(x:Nod) (r:List Nod),szN (x::r)=x.sz+szN r)/\(∀a b:List Nod,szN (a++b)=szN a+szN b)/\szT []=0/\(∀(x:Typ) (r:List Typ),szT (x::r)=x.sz+szT r)/\(∀a b:List Typ,szT (a++b)=szT a+szT b)/\(∀(k:Int) (s:Str) (n:Int) (a:List Typ),(⟨k,s,n,a⟩:Typ).sz=1+szT a)/\(∀(s:Str) (a:List Typ),(a5S s a).sz<=1+szT a->True):=⟨nsz,szN_nil,a4V,b4k,szT_nil,szT_cons,b1k,tsz,fun _ _ _=>trivial⟩
theorem baseT_sz (s:Str)(a:List Typ):(a5S s a).sz<=1+szT a:=Nat.le_refl _
theorem er_mk {o:Int}{s:Str}{ts:List Typ}{l l':List Nod}{a a':Int}(h:ers l=ers l'):(⟨o,s,n,t,ts,l,a⟩:Nod).er =(⟨o,s,n,t,ts,l',a'⟩:Nod).er:=by
 simp only[Nod.er,h]
theorem a2g {x y:Nod}{r r':List Nod}(h1:x.er=y.er)(h2:ers r=ers r'):ers (x::r)=ers (y::r'):=by simp only[ers,h1,h2]
theorem c0c:∀(a b:List Nod),ers (a++b)=ers a++ers b
 | [],b=>rfl
 | x::a,b=>by rw[List.cons_append,ers,ers,c0c a b];rfl
theorem c0d {a a' b b':List Nod}(h1:ers a=ers a')(h2:ers b=ers b'):ers (a++b)=ers (a'++b'):=by rw[c0c,c0c,h1,h2]
theorem b33:∀l:List Nod,(ers l).length=l.length
 | []=>rfl
 | x::r=>by rw[ers,List.length_cons,b33 r];rfl
theorem a6s {a b:List Nod}(h:ers a=ers b):b.length=a.length:=by rw[<-b33 a,h,b33]
theorem Nod.er_eq (x:Nod):x.er =⟨x.op,x.s,x.n,x.t,x.ts,ers x.l,0⟩:=by cases x;rfl
theorem a4D {x y:Nod}(h:x.er=y.er):x.op=y.op/\x.s=y.s/\x.n=y.n/\x.t=y.t/\x.ts=y.ts/\ers x.l=ers y.l:=by
 rw[x.er_eq,y.er_eq]at h;simp only[Nod.mk.injEq]at h;exact⟨h.1,h.2.1,h.2.2.1,h.2.2.2.1,h.2.2.2.2.1,h.2.2.2.2.2.1⟩
theorem er_s {x y:Nod}(h:x.er=y.er):x.s=y.s:=(a4D h).2.1
def a3x (l:List Tok)(k:Nat):Tok:=(l[k]?).getD ⟨0,[],0,0⟩
def isK (l:List Tok)(kind:Int)(k:Nat):Bool:=decide (k<l.length)&&eqB (a3x l k).kind kind
def isT (l:List Tok)(kind:Int)(s:Str)(k:Nat):Bool:=isK l kind k&&eqS (a3x l k).text s
def a0i (l:List Tok)(size:Int)(k:Nat):Int:=cond (decide (k<l.length)) (a3x l k).at_ size
theorem b5i {l:List Tok}{k:Nat}(h:isK l kind k=true):k<l.length:=by
 unfold isK at h;rw[Bool.and_eq_true]at h;exact of_decide_eq_true h.1
theorem b6o {l:List Tok}{s:Str}{k:Nat}(h:isT l kind s k=true):isK l kind k=true:=by
 unfold isT at h;rw[Bool.and_eq_true]at h;exact h.1
theorem isT_lt {l:List Tok}{s:Str}{k:Nat}(h:isT l kind s k=true):k<l.length:=b5i (b6o h)
theorem isT_tx {l:List Tok}{s:Str}{k:Nat}(h:isT l kind s k=true):(a3x l k).text=s:=by
 unfold isT at h;rw[Bool.and_eq_true,b6Y]at h;exact of_decide_eq_true h.2
theorem c4g {l:List Tok}{k:Nat}(h:isK l kind k=true)(hn:kind≠kind'):isK l kind' k=false:=by
 unfold isK at h ⊢;rw[Bool.and_eq_true,a9m]at h;rw[a1t (by rw[of_decide_eq_true h.2];exact hn),Bool.and_false]
theorem isK_kd {l:List Tok}{s:Str}{k:Nat}(h:isT l kind s k=true)(hn:kind≠kind'):isK l kind' k=false:=c4g (b6o h) hn
theorem isT_kk {l:List Tok}{s:Str}{k:Nat}(h:isK l kind k=true)(hn:kind≠kind'):isT l kind' s k=false:=by unfold isT;rw[c4g h hn,Bool.false_and]
theorem isT_kd {l:List Tok}{s:Str}{k:Nat}(h:isT l kind s k=true)(hn:kind≠kind'):isT l kind' u k=false:=isT_kk (b6o h) hn
theorem isT_ne {l:List Tok}{s:Str}{k:Nat}(h:isT l kind s k=true)(hn:s≠u):isT l kind u k=false:=by
 have h2:=isT_tx h;unfold isT;rw[h2,b6Y,decide_eq_false hn,Bool.and_false]
theorem isT_neg {l:List Tok}{k:Nat}(h:isK l kind k=true)(h2:isT l kind u k=false):(a3x l k).text≠u:=fun e=>by
 unfold isT at h2;rw[h,e,a8J]at h2;cases h2
theorem a4Y {l:List Tok}{k:Nat}(h:k<l.length):idx' l (k:Int)=some (a3x l k):=by
 rw[a0k h];unfold a3x;rw[List.getElem?_eq_getElem h];rfl
section
variable {l:List Tok} (hl:l.length<=3000) {k:Nat} (hk:k<=l.length) {size:Int}
include hl hk
theorem b7d:a1M l k size=some (a0i l size k):=by
 unfold a1M a0i;rcases Nat.lt_or_ge k l.length with h|h
 ·rw[X6 (by omega),cond_true,a4Y h,decide_eq_true h];rfl
 ·rw[a0C (by omega),decide_eq_false (by omega)];rfl
theorem a3Y {a:UInt8}{r:Str}:C9 0 kind (a::r) l k size=some (isT l kind (a::r) k):=by
 unfold C9 isT isK;rw[Int.add_zero,a4m (by omega) (by omega)];rcases Nat.lt_or_ge k l.length with h|h
 ·rw[c2n (by omega),cond_false,a4Y h,Option.bind_some,eqS_cons,decide_eq_true h];cases eqB (a3x l k).kind kind<;>simp
 ·rw[b9d (by omega),cond_true,decide_eq_false (by omega)];rfl
theorem a2Q:C9 0 kind [] l k size=some (isK l kind k):=by
 unfold C9 isK;rw[Int.add_zero,a4m (by omega) (by omega)];rcases Nat.lt_or_ge k l.length with h|h
 ·rw[c2n (by omega),cond_false,a4Y h,Option.bind_some,a8J,decide_eq_true h];cases eqB (a3x l k).kind kind<;>simp
 ·rw[b9d (by omega),cond_true,decide_eq_false (by omega)];rfl
theorem is1_v:C9 1 kind [] l k size=some (isK l kind (k+1)):=by
 unfold C9 isK;rw[H6 (by omega)];rcases Nat.lt_or_ge (k+1) l.length with h|h
 ·rw[c2n (by omega),cond_false,a4Y h,Option.bind_some,a8J,decide_eq_true h];cases eqB (a3x l (k+1)).kind kind<;>simp
 ·rw[b9d (by omega),cond_true,decide_eq_false (by omega)];rfl
theorem M6 {a:UInt8}{r:Str}:z8 (a::r) l k size=some (cond (isT l 8 (a::r) k) (true,((k+1:Nat):Int)) (false,(k:Int))):=by
 unfold z8;rw[a3Y hl hk,Option.bind_some,H6 (by omega)];cases isT l 8 (a::r) k<;>rfl
theorem a3c {a:UInt8}{r:Str}:G8 (a::r) l k size=some (cond (isT l 9 (a::r) k) (true,((k+1:Nat):Int)) (false,(k:Int))):=by
 unfold G8;rw[a3Y hl hk,Option.bind_some,H6 (by omega)];cases isT l 9 (a::r) k<;>rfl
theorem c33:a1L l k size=some (.pan (a0i l size k)):=by unfold a1L;rw[b7d hl hk];rfl
theorem a1R {a:UInt8}{r:Str}:o9 (a::r) l k size=cond (isT l 8 (a::r) k) (some (.ok ((k+1:Nat):Int))) (some (.pan (a0i l size k,(k:Int)))):=by
 unfold o9;rw[M6 hl hk];cases isT l 8 (a::r) k
 ·simp only[cond_false,Option.bind_some,Bool.not_false,cond_true];rw[c33 hl hk];rfl
 ·rfl
theorem c71 {a:UInt8}{r:Str}:K7 (a::r) l k size=cond (isT l 9 (a::r) k) (some (.ok ((k+1:Nat):Int))) (some (.pan (a0i l size k,(k:Int)))):=by
 unfold K7;rw[a3c hl hk];cases isT l 9 (a::r) k
 ·simp only[cond_false,Option.bind_some,Bool.not_false,cond_true];rw[c33 hl hk];rfl
 ·rfl
theorem a8q:P7 kind l k size=cond (isK l kind k) (some (.ok (a3x l k))) (some (.pan (a0i l size k))):=by
 unfold P7;rw[a2Q hl hk,Option.bind_some];cases hb:isK l kind k
 ·simp only[Bool.not_false,cond_true,cond_false];rw[c33 hl hk];rfl
 ·simp only[Bool.not_true,cond_true,cond_false];rw[a4Y (b5i hb)];rfl
theorem a5L:J8 l k size=cond (isK l 1 k) (some (.ok (a3x l k).text)) (some (.pan (a0i l size k))):=by
 unfold J8;rw[a8q hl hk];cases isK l 1 k<;>rfl
theorem cap_v:H8 l k size=cond (isK l 2 k) (some (.ok (a3x l k).text)) (some (.pan (a0i l size k))):=by
 unfold H8;rw[a8q hl hk];cases isK l 2 k<;>rfl
theorem int_v:a0n l k size=cond (isK l 3 k) ((atoi (a3x l k).text).bind fun v=>some (.ok v)) (some (.pan (a0i l size k))):=by
 unfold a0n;rw[a8q hl hk];cases isK l 3 k<;>rfl
end
def S1 {A:Type}(Q:A->Prop)(p:Option A):Prop:=∃r,p=some r/\Q r
structure Cx (V:Int->Str->Prop)(l:List Tok):Prop where
 hl:l.length<=3000
 tk:∀{k kd},isK l kd k=true->V kd (a3x l k).text
 lit:∀{s},V 5 s∨V 6 s∨V 7 s->V 4 s
 int:∀{s},V 3 s->b4x s=true
section
variable {A:Type} {Q:A->Prop} {l:List Tok} {kd:Int} {a:UInt8} {r s:Str} {k:Nat} {size:Int}
section
variable (hl:l.length<=3000) (hk:k<=l.length)
include hl hk
theorem c47 {f:Bool×Int->Option A}(h:S1 Q (cond (isT l 8 (a::r) k) (f (true,((k+1:Nat):Int))) (f (false,(k:Int))))):S1 Q ((z8 (a::r) l k size).bind f):=by
 rw[M6 hl hk];revert h;cases isT l 8 (a::r) k<;>exact id
theorem t_key {f:Bool×Int->Option A}(h:S1 Q (cond (isT l 9 (a::r) k) (f (true,((k+1:Nat):Int))) (f (false,(k:Int))))):S1 Q ((G8 (a::r) l k size).bind f):=by
 rw[a3c hl hk];revert h;cases isT l 9 (a::r) k<;>exact id
theorem c06 {f:Int->Option A}{g:Int×Int->Option A}(h:S1 Q (cond (isT l 8 (a::r) k) (f ((k+1:Nat):Int)) (g (a0i l size k,(k:Int))))):S1 Q (p9 (o9 (a::r) l k size) f g):=by
 rw[a1R hl hk];revert h;cases isT l 8 (a::r) k<;>exact id
theorem b5z {f:Int->Option A}{g:Int×Int->Option A}(h:S1 Q (cond (isT l 9 (a::r) k) (f ((k+1:Nat):Int)) (g (a0i l size k,(k:Int))))):S1 Q (p9 (K7 (a::r) l k size) f g):=by
 rw[c71 hl hk];revert h;cases isT l 9 (a::r) k<;>exact id
theorem t_is {f:Bool->Option A}(h:S1 Q (cond (isT l kd (a::r) k) (f true) (f false))):S1 Q ((C9 0 kd (a::r) l k size).bind f):=by
 rw[a3Y hl hk];revert h;cases isT l kd (a::r) k<;>exact id
theorem t_isK {f:Bool->Option A}(h:S1 Q (cond (isK l kd k) (f true) (f false))):S1 Q ((C9 0 kd [] l k size).bind f):=by
 rw[a2Q hl hk];revert h;cases isK l kd k<;>exact id
theorem t_name {f:Str->Option A}{g:Int->Option A}(h:S1 Q (cond (isK l 1 k) (f (a3x l k).text) (g (a0i l size k)))):S1 Q (p9 (J8 l k size) f g):=by
 rw[a5L hl hk];revert h;cases isK l 1 k<;>exact id
theorem t_cap {f:Str->Option A}{g:Int->Option A}(h:S1 Q (cond (isK l 2 k) (f (a3x l k).text) (g (a0i l size k)))):S1 Q (p9 (H8 l k size) f g):=by
 rw[cap_v hl hk];revert h;cases isK l 2 k<;>exact id
theorem t_token {f:Tok->Option A}{g:Int->Option A}(h:S1 Q (cond (isK l kd k) (f (a3x l k)) (g (a0i l size k)))):S1 Q (p9 (P7 kd l k size) f g):=by
 rw[a8q hl hk];revert h;cases isK l kd k<;>exact id
theorem t_is1 {f:Bool->Option A}(h:∀b,S1 Q (f b)):S1 Q ((C9 1 kd [] l k size).bind f):=by
 rw[is1_v hl hk];exact h _
theorem b8g {op:Int}{f:Int->Option A}(h:∀a,S1 Q (f a)):S1 Q ((C8 op l k size).bind f):=by
 unfold C8;rw[b7d hl hk];exact h _
end
theorem t_int {V:Int->Str->Prop}(C:Cx V l)(hk:k<=l.length){f g:Int->Option A}(h:S1 Q (cond (isK l 3 k) (f ((a1h (a3x l k).text 0:Nat):Int)) (g (a0i l size k)))):S1 Q (p9 (a0n l k size) f g):=by
 rw[int_v C.hl hk];revert h;cases hb:isK l 3 k
 ·exact id
 ·simp only[atoi,C.int (C.tk hb)];exact id
theorem t_idx {f:Tok->Option A}(hk:k<l.length)(h:S1 Q (f (a3x l k))):S1 Q ((idx' l (k:Int)).bind f):=by
 rw[a4Y hk];exact h
theorem t_app {b:Nat}{x y:List α}{f:List α->Option A}(h1:x.length<=100000)(h2:y.length<=100000)(hb:b<=1000)(h:S1 Q (f (x++y))):S1 Q ((app b x y).bind f):=by
 rw[a3Z h1 h2 hb];exact h
variable {x y:Option A}
theorem t_if {b:Bool}(h1:b=true->S1 Q x)(h2:b=false->S1 Q y):S1 Q (cond b x y):=by
 cases b
 ·exact h2 rfl
 ·exact h1 rfl
theorem t_T {b:Bool}(h:b=true)(g:S1 Q x):S1 Q (cond b x y):=t_if (fun _=>g) fun e=>by rw[h]at e;cases e
theorem t_F {b:Bool}(h:b=false)(g:S1 Q y):S1 Q (cond b x y):=t_if (fun e=>by rw[h]at e;cases e) fun _=>g
theorem i_T (h:isT l kd s k=true)(g:k+1<=l.length->S1 Q x):S1 Q (cond (isT l kd s k) x y):=t_T h (g (isT_lt h))
theorem i_if (g:isT l kd s k=true->k+1<=l.length->S1 Q x)(h:isT l kd s k=false->S1 Q y):S1 Q (cond (isT l kd s k) x y):=t_if (fun e=>g e (isT_lt e)) h
theorem k_T (h:isK l kd k=true)(g:k+1<=l.length->S1 Q x):S1 Q (cond (isK l kd k) x y):=t_T h (g (b5i h))
theorem k_if (g:isK l kd k=true->k+1<=l.length->S1 Q x)(h:isK l kd k=false->S1 Q y):S1 Q (cond (isK l kd k) x y):=t_if (fun e=>g e (b5i e)) h
end
theorem nT {P:Prop}(x:P:=by first|assumption|exact isT_ne (by assumption) (by decide)|exact isT_kd (by assumption) (by decide)|exact isT_kk (by assumption) (by decide)|exact c4g (by assumption) (by decide)|exact isK_kd (by assumption) (by decide)):P:=x
theorem CD:(∀{α β:Type} (b:Bool) (x y:Option α) (f:α->Option β),(cond b x y).bind f=cond b (x.bind f) (y.bind f))/\(∀{α ρ β:Type} (b:Bool) (x y:Option (Lr α ρ)) (f:α->Option β) (o:ρ->Option β),bS (cond b x y) f o=cond b (bS x f o) (bS y f o))/\(∀{α β γ:Type} (b:Bool) (x y:Option (Rs α β)) (f:α->Option γ) (o:β->Option γ),p9 (cond b x y) f o=cond b (p9 x f o) (p9 y f o)):=⟨fun b _ _ _=>by cases b<;>rfl,fun b _ _ _ _=>by cases b<;>rfl,fun b _ _ _ _=>by cases b<;>rfl⟩
theorem NF:(∀{α β γ:Type} (x:Option α) (f:α->Option β) (g:β->Option γ),(x.bind f).bind g=x.bind fun a=>(f a).bind g) /\
  (∀{α β γ δ:Type} (x:Option δ) (f:δ->Option (Rs α β)) (k:α->Option γ) (p:β->Option γ),p9 (x.bind f) k p=x.bind fun a=>p9 (f a) k p) /\
  (∀{α ρ:Type} (x:Option (Lr α ρ)) (k:α->Option ρ),a0X x k=bS x k some) /\
  (∀{α γ ρ:Type} (x:Option (Lr α ρ)) (k:α->Option (Lr γ ρ)),a7T x k=bS x k fun r=>some (.out r)) /\
  (∀{α β γ δ:Type} (x:Option (Rs α β)) (f:α->Option γ) (g:β->Option γ) (h:γ->Option δ),(p9 x f g).bind h=p9 x (fun a=>(f a).bind h) fun b=>(g b).bind h) /\
  (∀{α β α' β' γ:Type} (x:Option (Rs α β)) (f:α->Option (Rs α' β')) (g:β->Option (Rs α' β')) (k:α'->Option γ) (p:β'->Option γ),p9 (p9 x f g) k p=p9 x (fun a=>p9 (f a) k p) fun b=>p9 (g b) k p) /\
  (∀{α ρ β δ:Type} (x:Option δ) (f:δ->Option (Lr α ρ)) (h:α->Option β) (o:ρ->Option β),bS (x.bind f) h o=x.bind fun a=>bS (f a) h o) /\
  (∀{α ρ β δ ε:Type} (x:Option (Rs δ ε)) (f:δ->Option (Lr α ρ)) (g:ε->Option (Lr α ρ)) (h:α->Option β) (o:ρ->Option β),bS (p9 x f g) h o=p9 x (fun a=>bS (f a) h o) fun b=>bS (g b) h o) /\
  (∀{α ρ β δ ε:Type} (x:Option (Lr δ ε)) (f:δ->Option (Lr α ρ)) (g:ε->Option (Lr α ρ)) (h:α->Option β) (o:ρ->Option β),bS (bS x f g) h o=bS x (fun a=>bS (f a) h o) fun b=>bS (g b) h o) /\
  (∀{α ρ β γ:Type} (x:Option (Lr α ρ)) (f:α->Option β) (o:ρ->Option β) (h:β->Option γ),(bS x f o).bind h=bS x (fun a=>(f a).bind h) fun b=>(o b).bind h) /\
  (∀{α ρ β γ δ:Type} (x:Option (Lr α ρ)) (f:α->Option (Rs β γ)) (o:ρ->Option (Rs β γ)) (k:β->Option δ) (p:γ->Option δ),p9 (bS x f o) k p=bS x (fun a=>p9 (f a) k p) fun b=>p9 (o b) k p) /\
  (∀{α ρ β:Type} (a:α) (f:α->Option β) (o:ρ->Option β),bS (some (.brk a)) f o=f a)/\(∀{α ρ β:Type} (r:ρ) (f:α->Option β) (o:ρ->Option β),bS (some (.out r)) f o=o r) /\
  (∀{α β γ:Type} (a:α) (f:α->Option γ) (g:β->Option γ),p9 (some (.ok a)) f g=f a)/\(∀{α β γ:Type} (b:β) (f:α->Option γ) (g:β->Option γ),p9 (some (.pan b)) f g=g b) /\
  (∀{α β:Type} (a:α) (f:α->Option β),(some a).bind f=f a)/\(∀{α:Type} (a b:α),cond true a b=a)/\(∀{α:Type} (a b:α),cond false a b=b)/\(!true)=false/\(!false)=true:=by
 refine⟨fun x f g=>?_,fun x f k p=>?_,fun x f=>?_,fun x f=>?_,fun x f g h=>?_,fun x f g k p=>?_,fun x f h o=>?_,fun x f g h o=>?_,fun x f g h o=>?_,fun x f o h=>?_,fun x f o k p=>?_,fun _ _ _=>rfl,fun _ _ _=>rfl,fun _ _ _=>rfl,fun _ _ _=>rfl,fun _ _=>rfl,fun _ _=>rfl,fun _ _=>rfl,rfl,rfl⟩<;>(rcases x with _|x)<;>first|rfl |(cases x<;>rfl)
theorem all_nil {P:α->Prop}:∀x∈([]:List α),P x:=fun x h=>by cases h
theorem a7i {P:α->Prop}{a b:List α}(h1:∀x∈a,P x)(h2:∀x∈b,P x):∀x∈a++b,P x:=fun x h=>by
 rcases List.mem_append.1 h with h|h
 ·exact h1 x h
 ·exact h2 x h
theorem a5C {P:α->Prop}{a:α}(h:P a):∀x ∈ [a],P x:=fun x hx=>by
 rcases List.mem_singleton.1 hx with rfl;exact h
abbrev zT:Typ:=⟨0,[],0,[]⟩
abbrev uT:Typ:=⟨4,[],0,[]⟩
inductive GT (V:Int->Str->Prop):Bool->Typ->Prop
 | base {s:Str} {a:List Typ}:V 2 s ->(∀x∈a,GT V false x)->GT V true (a5S s a)
 | dot {s:Str} {t:Typ}:V 2 s->GT V true t->GT V true ⟨8,s,0,[t]⟩
 | path {t:Typ}:GT V true t->GT V false t
 | any {s:Str}:V 2 s->GT V false ⟨9,s,0,[]⟩
 | func {a:List Typ} {r:Typ}:(∀x∈a,GT V false x)->GT V false r->GT V false ⟨10,[],0,a++[r]⟩
theorem GT.func1 {V:Int->Str->Prop}{r:Typ}(h:GT V false r):GT V false ⟨10,[],0,[r]⟩:=.func (a:=[]) all_nil h
def OP (s:Str):Prop:=s∈([[124,124],[38,38],[61,61],[33,61],[60],[60,61],[62],[62,61],[43],[45],[42],[47],[37]]:List Str)
inductive PLC:Nod->Prop
 | nm {x:Nod}:x.op=54->PLC x
 | fld {s:Str} {n a:Int} {t:Typ} {ts:List Typ} {y:Nod}:PLC y->PLC ⟨55,s,n,t,ts,[y],a⟩
def fl:List (Nod×Nod)->List Nod | []=>[]|p::r=>p.1::p.2::fl r
theorem c4a:∀a b:List (Nod×Nod),fl (a++b)=fl a++fl b
 | [],b=>rfl
 | p::a,b=>by rw[List.cons_append,fl,fl,c4a a b];rfl
inductive TX (V:Int->Str->Prop):Nod->Prop
 | mk {s:Str} {a:Int}:V 4 s->TX V ⟨52,s,0,zT,[],[],a⟩
inductive G (V:Int->Str->Prop):Nat->Nod->Prop
 | int {s:Str} {a:Int}:V 3 s->G V 0 ⟨50,[],((a1h s 0:Nat):Int),zT,[],[],a⟩
 | tru {a:Int}:G V 0 ⟨51,[],1,zT,[],[],a⟩
 | fal {a:Int}:G V 0 ⟨51,[],0,zT,[],[],a⟩
 | text {s:Str} {a:Int}:V 4 s->G V 0 ⟨52,s,0,zT,[],[],a⟩
 | interp {x:Nod} {ps:List (Nod×Nod)} {a:Int}:TX V x->ps ≠ [] ->(∀p∈ps,G V 0 p.1) ->(∀p∈ps,TX V p.2)->G V 0 ⟨53,[],0,zT,[],x::fl ps,a⟩
 | name {s:Str} {a:Int}:V 1 s->G V 0 ⟨54,s,0,zT,[],[],a⟩
 | cons {s:Str} {a:Int}:V 1 s->G V 0 ⟨61,s,0,zT,[],[],a⟩
 | clos {t:Typ} {ps ss:List Nod} {a b:Int}:(t=uT∨GT V false t) ->(∀x∈ps,G V 4 x) ->(∀x∈ss,G V 1 x)->G V 0 ⟨63,[],0,t,[],ps++[⟨20,[],0,zT,[],ss,b⟩],a⟩
 | bin {s:Str} {x y:Nod} {a:Int}:OP s->G V 0 x->G V 0 y->G V 0 ⟨64,s,0,zT,[],[x,y],a⟩
 | un {o:Int} {x:Nod} {a:Int}:(o=65∨o=66)->G V 0 x->G V 0 ⟨o,[],0,zT,[],[x],a⟩
 | field {s:Str} {x:Nod} {a:Int}:V 1 s->G V 0 x->G V 0 ⟨55,s,0,zT,[],[x],a⟩
 | call {s:Str} {l:List Nod} {a:Int}:V 1 s ->(∀y∈l,G V 6 y)->G V 0 ⟨56,s,0,zT,[],l,a⟩
 | method {s:Str} {x:Nod} {l:List Nod} {a:Int}:V 1 s->G V 0 x ->(∀y∈l,G V 6 y)->G V 0 ⟨57,s,0,zT,[],x::l,a⟩
 | stat0 {s:Str} {t:Typ} {a:Int}:V 1 s->GT V true t->G V 0 ⟨58,s,0,t,[],[],a⟩
 | stat1 {s:Str} {t:Typ} {l:List Nod} {a:Int}:V 1 s->GT V true t ->(∀y∈l,G V 6 y)->G V 0 ⟨58,s,1,t,[],l,a⟩
 | make {t:Typ} {l:List Nod} {a:Int}:GT V true t ->(∀y∈l,G V 6 y)->G V 0 ⟨59,[],0,t,[],l,a⟩
 | apply{x:Nod} {l:List Nod} {a:Int}:G V 0 x ->(∀y∈l,G V 6 y)->G V 0 ⟨60,[],0,zT,[],x::l,a⟩
 | list {l:List Nod} {a:Int}:(∀y∈l,G V 0 y)->G V 0 ⟨67,[],0,zT,[],l,a⟩
 | lend {x:Nod} {a:Int}:G V 0 x->PLC x->G V 6 ⟨62,[],0,zT,[],[x],a⟩
 | arg {x:Nod}:G V 0 x->G V 6 x
 | let0 {s:Str} {t:Typ} {a:Int}:V 1 s->GT V false t->G V 1 ⟨21,s,1,t,[],[],a⟩
 | let1 {s:Str} {n:Int} {t:Typ} {x:Nod} {a:Int}:V 1 s ->(n=0∨n=1) ->(t=zT∨GT V false t)->G V 0 x->G V 1 ⟨21,s,n,t,[],[x],a⟩
 | assign {x y:Nod} {a:Int}:G V 0 x->PLC x->G V 0 y->G V 1 ⟨22,[],0,zT,[],[x,y],a⟩
 | sole {x:Nod} {a:Int}:G V 0 x->G V 1 ⟨23,[],0,zT,[],[x],a⟩
 | if2 {x b:Nod} {a:Int}:G V 0 x->G V 2 b->G V 19 ⟨24,[],0,zT,[],[x,b],a⟩
 | if3 {x b c:Nod} {a:Int}:G V 0 x->G V 2 b->G V 2 c->G V 19 ⟨24,[],0,zT,[],[x,b,c],a⟩
 | if4 {x b c:Nod} {a:Int}:G V 0 x->G V 2 b->G V 19 c->G V 19 ⟨24,[],0,zT,[],[x,b,c],a⟩
 | ifs {x:Nod}:G V 19 x->G V 1 x
 | whil {x b:Nod} {a:Int}:G V 0 x->G V 2 b->G V 1 ⟨25,[],0,zT,[],[x,b],a⟩
 | mat {x:Nod} {l:List Nod} {a:Int}:G V 0 x ->(∀y∈l,G V 5 y)->G V 1 ⟨26,[],0,zT,[],x::l,a⟩
 | ret0 {a:Int}:G V 1 ⟨28,[],0,zT,[],[],a⟩
 | ret1 {x:Nod} {a:Int}:G V 0 x->G V 1 ⟨28,[],0,zT,[],[x],a⟩
 | thrw {x:Nod} {a:Int}:G V 0 x->G V 1 ⟨29,[],0,zT,[],[x],a⟩
 | doc {s:Str} {b c:Nod} {a:Int}:V 1 s->G V 2 b->G V 2 c->G V 1 ⟨30,s,0,zT,[],[b,c],a⟩
 | dfr {b:Nod} {a:Int}:G V 2 b->G V 1 ⟨31,[],0,zT,[],[b],a⟩
 | block {l:List Nod} {a:Int}:(∀y∈l,G V 1 y)->G V 2 ⟨20,[],0,zT,[],l,a⟩
 | wild {a:Int}:G V 3 ⟨40,[],0,zT,[],[],a⟩
 | bnd {s:Str} {a:Int}:V 1 s->s ≠ [95]->G V 3 ⟨41,s,0,zT,[],[],a⟩
 | pint {s:Str} {a:Int}:V 3 s->G V 3 ⟨42,[],((a1h s 0:Nat):Int),zT,[],[],a⟩
 | pneg {s:Str} {a:Int}:V 3 s->G V 3 ⟨42,[],w64 (0-((a1h s 0:Nat):Int)),zT,[],[],a⟩
 | ptru {a:Int}:G V 3 ⟨43,[],1,zT,[],[],a⟩
 | pfal {a:Int}:G V 3 ⟨43,[],0,zT,[],[],a⟩
 | ptext {s:Str} {a:Int}:V 4 s->G V 3 ⟨44,s,0,zT,[],[],a⟩
 | pcase {s:Str} {l:List Nod} {a:Int}:V 1 s ->(∀y∈l,G V 3 y)->G V 3 ⟨45,s,0,zT,[],l,a⟩
 | param {s:Str} {n:Int} {t:Typ} {a:Int}:V 1 s ->(n=0∨n=1∨n=2)->GT V false t->G V 4 ⟨10,s,n,t,[],[],a⟩
 | arm {p b:Nod} {a:Int}:G V 3 p->G V 2 b->G V 5 ⟨27,[],0,zT,[],[p,b],a⟩
 | bound {s:Str} {a:Int}:V 2 s->G V 7 ⟨9,s,0,zT,[],[],a⟩
 | gen {s:Str} {l:List Nod} {a:Int}:V 2 s ->(∀y∈l,G V 7 y)->G V 8 ⟨8,s,0,zT,[],l,a⟩
 | rq1 {s:Str} {t:Typ} {a:Int}:GT V false t->V 2 s->G V 9 ⟨12,s,1,t,[],[],a⟩
 | rq2 {t u:Typ} {a:Int}:GT V false t->GT V false u->G V 9 ⟨12,[],2,t,[u],[],a⟩
 | thr {t:Typ} {a:Int}:GT V false t->G V 10 ⟨11,[],0,t,[],[],a⟩
 | fn {s:Str} {t:Typ} {gs ps th rs xs:List Nod} {b:Nod} {a:Int}:V 1 s ->(t=uT∨GT V false t)->xs=gs ++(ps ++(th++rs)) ->(∀y∈gs,G V 8 y) ->(∀y∈ps,G V 4 y) ->(∀y∈th,G V 10 y)->th.length<=1 ->(∀y∈rs,G V 9 y)->G V 2 b->G V 11 ⟨7,s,1,t,[],xs++[b],a⟩
 | sg {s:Str} {t:Typ} {gs ps th rs xs:List Nod} {a:Int}:V 1 s ->(t=uT∨GT V false t)->xs=gs ++(ps ++(th++rs)) ->(∀y∈gs,G V 8 y) ->(∀y∈ps,G V 4 y) ->(∀y∈th,G V 10 y)->th.length<=1 ->(∀y∈rs,G V 9 y)->G V 12 ⟨7,s,0,t,[],xs,a⟩
 | fld {s:Str} {n:Int} {t:Typ} {a:Int}:V 1 s ->(n=0∨n=1)->GT V false t->G V 13 ⟨13,s,n,t,[],[],a⟩
 | dei {b:Nod} {a:Int}:G V 2 b->G V 14 ⟨15,[],0,zT,[],[b],a⟩
 | case {s:Str} {n:Int} {ts:List Typ} {a:Int}:V 1 s ->(n=0∨n=1) ->(∀t∈ts,GT V false t)->G V 15 ⟨14,s,n,zT,ts,[],a⟩
 | assoc {s:Str} {l:List Nod} {a:Int}:V 2 s ->(∀y∈l,G V 7 y)->G V 16 ⟨16,s,0,zT,[],l,a⟩
 | alias {s:Str} {t:Typ} {a:Int}:V 2 s->GT V false t->G V 17 ⟨17,s,0,t,[],[],a⟩
 | strc {s:Str} {n:Int} {gs fs ds xs:List Nod} {a:Int}:V 2 s ->(n=0∨n=1∨n=2∨n=3)->xs=gs ++(fs++ds) ->(∀y∈gs,G V 8 y) ->(∀y∈fs,G V 13 y) ->(∀y∈ds,G V 14 y)->ds.length<=1->G V 18 ⟨2,s,n,zT,[],xs,a⟩
 | clss {s:Str} {gs fs ds xs:List Nod} {a:Int}:V 2 s->xs=gs ++(fs++ds) ->(∀y∈gs,G V 8 y) ->(∀y∈fs,G V 13 y) ->(∀y∈ds,G V 14 y)->ds.length<=1->G V 18 ⟨4,s,0,zT,[],xs,a⟩
 | enum {s:Str} {n:Int} {gs cs:List Nod} {a:Int}:V 2 s ->(n=0∨n=2) ->(∀y∈gs,G V 8 y) ->(∀y∈cs,G V 15 y)->G V 18 ⟨3,s,n,zT,[],gs++cs,a⟩
 | prot {s:Str} {us ss:List Nod} {a:Int}:V 2 s ->(∀y∈us,G V 16 y) ->(∀y∈ss,G V 12 y)->G V 18 ⟨5,s,0,zT,[],us++ss,a⟩
 | ext {s:Str} {t:Typ} {rs us fs:List Nod} {a:Int}:V 2 s->GT V false t ->(∀y∈rs,G V 9 y) ->(∀y∈us,G V 17 y) ->(∀y∈fs,G V 11 y)->G V 18 ⟨6,s,0,t,[],rs ++(us++fs),a⟩
 | fun{x:Nod}:G V 11 x->G V 18 x
theorem bsz {s:Str}{a:List Typ}{k q:Nat}(h:1+szT a+k<=q):(a5S s a).sz+k<=q:=by have:=baseT_sz s a;omega
theorem atn_nm {V:Int->Str->Prop}{s:Str}{a:Int}(h:V 1 s):G V 0 ⟨54,s,0,zT,[],[],a⟩/\V 1 s:=⟨.name h,h⟩
section
variable (V:Int->Str->Prop)
def SGX (xs:List Nod):Prop:=∃gs ps th rs,xs=gs ++(ps ++(th++rs))/\(∀y∈gs,G V 8 y)/\(∀y∈ps,G V 4 y)/\(∀y∈th,G V 10 y)/\th.length<=1/\(∀y∈rs,G V 9 y)
def FDX (xs:List Nod):Prop:=∃fs ds,xs=fs++ds/\(∀y∈fs,G V 13 y)/\(∀y∈ds,G V 14 y)/\ds.length<=1
def PRX (xs:List Nod):Prop:=∃us ss,xs=us++ss/\(∀y∈us,G V 16 y)/\(∀y∈ss,G V 12 y)
def EXA (xs:List Nod):Prop:=∃rs us,xs=rs++us/\(∀y∈rs,G V 9 y)/\(∀y∈us,G V 17 y)
def EXX (xs:List Nod):Prop:=∃rs us fs,xs=rs ++(us++fs)/\(∀y∈rs,G V 9 y)/\(∀y∈us,G V 17 y)/\(∀y∈fs,G V 11 y)
def MTX (xs:List Nod):Prop:=∃x us,xs=x::us/\G V 0 x/\(∀y∈us,G V 5 y)
def INX (xs:List Nod):Prop:=∃x ps,xs=x::fl ps/\TX V x/\(∀p∈ps,G V 0 p.1)/\(∀p∈ps,TX V p.2)
end
section
variable {V:Int->Str->Prop}
theorem sgx0 (h1:∀y∈gs,G V 8 y)(h2:∀y∈ps,G V 4 y)(h3:∀y∈rs,G V 9 y):SGX V (gs ++(ps++rs)):=⟨gs,ps,[],rs,rfl,h1,h2,all_nil,Nat.zero_le _,h3⟩
theorem sgx1 {t:Nod}(h1:∀y∈gs,G V 8 y)(h2:∀y∈ps,G V 4 y)(h4:G V 10 t)(h3:∀y∈rs,G V 9 y):SGX V (gs ++(ps ++(t::rs))):=⟨gs,ps,[t],rs,rfl,h1,h2,a5C h4,Nat.le_refl _,h3⟩
theorem fn_of {s:Str}{b:Nod}{a:Int}(h1:V 1 s)(h2:t=uT∨GT V false t)(h:SGX V xs)(h3:G V 2 b):G V 11 ⟨7,s,1,t,[],xs++[b],a⟩:=by
 obtain⟨gs,ps,th,rs,e,g1,g2,g3,g4,g5⟩:=h;exact .fn h1 h2 e g1 g2 g3 g4 g5 h3
theorem sg_of {s:Str}{a:Int}(h1:V 1 s)(h2:t=uT∨GT V false t)(h:SGX V xs):G V 12 ⟨7,s,0,t,[],xs,a⟩:=by
 obtain⟨gs,ps,th,rs,e,g1,g2,g3,g4,g5⟩:=h;exact .sg h1 h2 e g1 g2 g3 g4 g5
theorem fdx0 (h:∀y∈fs,G V 13 y):FDX V fs:=⟨fs,[],(List.append_nil _).symm,h,all_nil,Nat.zero_le _⟩
theorem fdx1 {d:Nod}(h:∀y∈fs,G V 13 y)(h2:G V 14 d):FDX V (fs++[d]):=⟨fs,[d],rfl,h,a5C h2,Nat.le_refl _⟩
theorem st_of {s:Str}{a:Int}(h1:V 2 s)(hn:n=0∨n=1∨n=2∨n=3)(h2:∀y∈gs,G V 8 y)(h:FDX V xs):G V 18 ⟨2,s,n,zT,[],gs++xs,a⟩:=by
 obtain⟨fs,ds,e,g1,g2,g3⟩:=h;exact .strc h1 hn (by rw[e]) h2 g1 g2 g3
theorem cl_of {s:Str}{a:Int}(h1:V 2 s)(h2:∀y∈gs,G V 8 y)(h:FDX V xs):G V 18 ⟨4,s,0,zT,[],gs++xs,a⟩:=by
 obtain⟨fs,ds,e,g1,g2,g3⟩:=h;exact .clss h1 (by rw[e]) h2 g1 g2 g3
theorem prx0 {us:List Nod}(h:∀y∈us,G V 16 y):PRX V us:=⟨us,[],(List.append_nil _).symm,h,all_nil⟩
theorem prx1 {x:Nod}(h:PRX V xs)(h2:G V 12 x):PRX V (xs++[x]):=by
 obtain⟨us,ss,rfl,g1,g2⟩:=h;exact⟨us,ss++[x],List.append_assoc ..,g1,a7i g2 (a5C h2)⟩
theorem pr_of {s:Str}{a:Int}(h1:V 2 s)(h:PRX V xs):G V 18 ⟨5,s,0,zT,[],xs,a⟩:=by
 obtain⟨us,ss,rfl,g1,g2⟩:=h;exact .prot h1 g1 g2
theorem exa0 (h:∀y∈rs,G V 9 y):EXA V rs:=⟨rs,[],(List.append_nil _).symm,h,all_nil⟩
theorem exa1 {x:Nod}(h:EXA V xs)(h2:G V 17 x):EXA V (xs++[x]):=by
 obtain⟨us,ss,rfl,g1,g2⟩:=h;exact⟨us,ss++[x],List.append_assoc ..,g1,a7i g2 (a5C h2)⟩
theorem exx0 (h:EXA V xs):EXX V xs:=by
 obtain⟨rs,us,rfl,g1,g2⟩:=h;exact⟨rs,us,[],by rw[List.append_nil],g1,g2,all_nil⟩
theorem exx1 {x:Nod}(h:EXX V xs)(h2:G V 11 x):EXX V (xs++[x]):=by
 obtain⟨rs,us,ss,rfl,g1,g2,g3⟩:=h;exact⟨rs,us,ss++[x],by rw[List.append_assoc,List.append_assoc],g1,g2,a7i g3 (a5C h2)⟩
theorem ex_of {s:Str}{a:Int}(h1:V 2 s)(h2:GT V false t)(h:EXX V xs):G V 18 ⟨6,s,0,t,[],xs,a⟩:=by
 obtain⟨rs,us,ss,rfl,g1,g2,g3⟩:=h;exact .ext h1 h2 g1 g2 g3
theorem mtx0 {x:Nod}(h:G V 0 x):MTX V [x]:=⟨x,[],rfl,h,all_nil⟩
theorem mtx1 {y:Nod}(h:MTX V xs)(h2:G V 5 y):MTX V (xs++[y]):=by
 obtain⟨x,us,rfl,g1,g2⟩:=h;exact⟨x,us++[y],rfl,g1,a7i g2 (a5C h2)⟩
theorem mt_of {a:Int}(h:MTX V xs):G V 1 ⟨26,[],0,zT,[],xs,a⟩:=by
 obtain⟨x,us,rfl,g1,g2⟩:=h;exact .mat g1 g2
theorem inx0 {s:Str}{a:Int}(h:V 4 s):INX V [⟨52,s,0,zT,[],[],a⟩]:=⟨_,[],rfl,.mk h,all_nil,all_nil⟩
theorem inx1 {s:Str}{a:Int}(h:INX V xs)(h1:G V 0 e)(h2:V 4 s):INX V (xs++[e,⟨52,s,0,zT,[],[],a⟩]):=by
 obtain⟨x,ps,rfl,g0,g1,g2⟩:=h;refine⟨x,ps++[(e,⟨52,s,0,zT,[],[],a⟩)],by rw[c4a];rfl,g0,a7i g1 (a5C h1),a7i g2 (a5C (.mk h2))⟩
theorem in_of {s:Str}{a:Int}(h:INX V xs)(h1:G V 0 e)(h2:V 4 s):G V 0 ⟨53,[],0,zT,[],xs++[e,⟨52,s,0,zT,[],[],a⟩],b⟩:=by
 obtain⟨x,ps,rfl,g0,g1,g2⟩:=h;have e1:x::fl ps++[e,⟨52,s,0,zT,[],[],a⟩]=x::fl (ps++[(e,⟨52,s,0,zT,[],[],a⟩)]):=by rw[c4a];rfl
 rw[e1];exact .interp g0 (by simp) (a7i g1 (a5C h1)) (a7i g2 (a5C (.mk h2)))
end
section
variable (l:List Tok) (k:Nat)
section
variable {X:Type} (c:(X->Prop)->Prop)
@[reducible] def SI (p:Option (Rs X (Int×Int))):Prop:=∀(A:Type) (Q:A->Prop) (f:X->Option A) (g:Int×Int->Option A),c (fun x=>S1 Q (f x)) ->(∀{e:Int} {q:Nat},k<=q->q<=l.length->S1 Q (g (e,(q:Int))))->S1 Q (p9 p f g)
@[reducible] def SE (p:Option (Rs X (o6×Int))):Prop:=∀(A:Type) (Q:A->Prop) (f:X->Option A) (g:o6×Int->Option A),c (fun x=>S1 Q (f x)) ->(∀{e:o6} {q:Nat},k<=q->q<=l.length->e.fault.code≠0->S1 Q (g (e,(q:Int))))->S1 Q (p9 p f g)
@[reducible] def LI {R:Type} (p:Option (Lr X (Rs R (Int×Int)))):Prop:=∀(A:Type) (Q:A->Prop) (f:X->Option A) (g:Rs R (Int×Int)->Option A),c (fun x=>S1 Q (f x)) ->(∀{e:Int} {q:Nat},k<=q->q<=l.length->S1 Q (g (.pan (e,(q:Int)))))->S1 Q (bS p f g)
@[reducible] def LX {R:Type} (p:Option (Lr X (Rs R (o6×Int)))):Prop:=∀(A:Type) (Q:A->Prop) (f:X->Option A) (g:Rs R (o6×Int)->Option A),c (fun x=>S1 Q (f x)) ->(∀{e:o6} {q:Nat},k<=q->q<=l.length->e.fault.code≠0->S1 Q (g (.pan (e,(q:Int)))))->S1 Q (bS p f g)
end
section
variable (P:Nod->Prop) (P1:List Nod->Prop) (PT:Typ->Prop)
@[reducible] def oN (c:Nod×Int->Prop):Prop:=∀{x:Nod} {q:Nat},k<q->q<=l.length->x.sz+4*k<=4*q->P x->c (x,(q:Int))
@[reducible] def oL (c:List Nod×Int->Prop):Prop:=∀{x:List Nod} {q:Nat},k<=q->q<=l.length->szN x+4*k<=4*q->x.length<=4*q->P1 x->c (x,(q:Int))
@[reducible] def oR (c:Int×List Nod->Prop):Prop:=∀{x:List Nod} {q:Nat},k<=q->q<=l.length->szN x+4*k<=4*q->x.length<=4*q->P1 x->c ((q:Int),x)
@[reducible] def oT (d:Nat) (c:Typ×Int->Prop):Prop:=∀{t:Typ} {q:Nat},k+1<=q+d->q<=l.length->t.sz+k<=q+d->PT t->c (t,(q:Int))
@[reducible] def oTs (PT:List Typ->Prop) (c:List Typ×Int->Prop):Prop:=∀{x:List Typ} {q:Nat},k<=q->q<=l.length->szT x+k<=q->x.length<=4*q->PT x->c (x,(q:Int))
end
@[reducible] def LP {B:Type} (m k0:Nat) (P:List Nod->Prop) (S:Nat ->((List Nod->Prop))->Option B->Prop) (p:Nat->List Nod->Option B):Prop:=∀{k:Nat} {xs:List Nod},k0<=k->k<=l.length->l.length<m+k->szN xs+4*k0<=4*k->P xs->S k0 P (p k xs)
end
@[reducible] def SNi (l:List Tok) (P:Nod->Prop) (k:Nat):=SI l k (oN l k P)
@[reducible] def SN (l:List Tok) (P:Nod->Prop) (k:Nat):=SE l k (oN l k P)
@[reducible] def SLi (l:List Tok) (k:Nat) (P:List Nod->Prop):=SI l k (oL l k P)
@[reducible] def SL (l:List Tok) (k:Nat) (P:List Nod->Prop):=SE l k (oL l k P)
@[reducible] def ST (l:List Tok) (P:Typ->Prop) (d k:Nat):=SI l k (oT l k P d)
@[reducible] def LLi (l:List Tok) {R:Type} (k:Nat) (P:List Nod->Prop):=LI l k (R:=R) (oL l k P)
@[reducible] def LLs (l:List Tok) {R:Type} (k:Nat) (P:List Nod->Prop):=LX l k (R:=R) (oL l k P)
@[reducible] def LIi (l:List Tok) {R:Type} (k:Nat) (P:List Nod->Prop):=LI l k (R:=R) (oR l k P)
@[reducible] def LIs (l:List Tok) {R:Type} (k:Nat) (P:List Nod->Prop):=LX l k (R:=R) (oR l k P)
theorem lpI {B:Type}{l:List Tok}{k0:Nat}{P:List Nod->Prop}{S:Nat ->(List Nod->Prop)->Option B->Prop}{p:Nat->Nat->List Nod->Option B}(h:∀m,LP l m k0 P S (p m) -> ∀(k:Nat) (xs:List Nod),k0<=k->k<=l.length->l.length<m+1+k->szN xs+4*k0<=4*k->P xs->S k0 P (p (m+1) k xs)):∀m,LP l m k0 P S (p m)
 | 0=>fun _ h2 h3=>by omega
 | m+1=>fun h1 h2 h3 h4 h5=>h m (lpI h m) _ _ h1 h2 h3 h4 h5
theorem two {P:Prop}(x:P:=by
 try have hl:=C.hl
 first|have hx:=a00 xs|have hx:=a5H xs|have hx:=x.a3X|have hx:=t.a3X|skip
 try intro A Q f g hok hpan
 repeat' first
 | with_reducible first|assumption|exact all_nil|exact .inl rfl|exact .inr rfl|exact .inr (.inl rfl)|exact .inr (.inr rfl)|exact .inr (.inr (.inl rfl))|exact .inr (.inr (.inr rfl))|exact .inr (by assumption)|refine a7i ?_ ?_|refine a5C ?_|intro _
 |(simp (disch:=omega) only[NF,b7v,a9m,c1S,Int.reduceEq,decide_true,decide_false,false_or,fin,H6,List.append_nil,List.nil_append,List.append_assoc,List.cons_append,b1p])
 |(simp (disch:=omega) only[NF,b7v,a9m,c1S,Int.reduceEq,decide_true,decide_false,H6,List.append_nil,List.nil_append,List.append_assoc,List.cons_append,b1p])
 | with_reducible first
  | apply hok|apply hpan|apply ih|apply lp1|apply pr1|apply pr2|apply pc1
  | apply H.f_block|apply H.f_statement|apply H.f_conditional|apply H.f_local|apply H.f_match|apply H.f_expr|apply H.f_unary|apply H.f_postfix|apply H.f_atomn (by assumption)|apply H.f_atom|apply H.f_interp|apply H.f_closure|apply H.f_stmts|apply H.f_args|apply H.f_one|apply H.f_climb
  | apply match_l C H (k0:=k)|apply atom_l C H (k0:=k)|apply c2b C H (k0:=k)|apply stmts_l C H (k0:=k)|apply args_l C H (k0:=k+1)|apply post0 C H (k0:=k)|apply post1 C H (k0:=k)
  | apply typ_r C|apply path_r C|apply bounds_r C|apply gens_r C|apply where_r C|apply params_r C|apply result_r C|apply sign_r C|apply proto_r C|apply place_r C|apply pat_r C|apply block_r C|apply c4b C|apply extend_r C|apply fields_r C|apply cases_r C
  | apply bounds_l C (k0:=k)|apply gens_l C (k0:=k)|apply where_l C (k0:=k)|apply params_l C (k0:=k)|apply proto_l5 C (k0:=k)|apply c7q C (k0:=k)|apply c2V C (k0:=k)|apply b80 C|apply b65 C|apply c6X C (k0:=k)|apply cases_l3 C (k0:=k)|apply b8U C (k1:=k)
  | apply c47 hl|apply t_key hl|apply c06 hl|apply b5z hl|apply t_is hl|apply t_isK hl|apply t_name hl|apply t_cap hl|apply t_token hl|apply t_int C|apply t_is1 hl|apply b8g hl|apply t_idx|apply t_app|refine t_place ?_ (by assumption) (fun _=>?_) ?_
  | refine i_T (by assumption) ?_|refine k_T (by assumption) ?_|refine t_F nT ?_|apply i_if|apply k_if
  | exact c5a|exact C.tk (by assumption)|refine C.tk (kd:=1) (b6o (by assumption))|refine C.lit (.inl (C.tk (by assumption)))|refine C.lit (.inr (.inl (C.tk (by assumption))))|refine C.lit (.inr (.inr (C.tk (by assumption))))
  | exact isT_neg (by assumption) (by assumption)|exact b5i (by assumption)
  | apply GT.base|apply GT.dot|refine .path (by assumption)|apply GT.any|apply GT.func|apply GT.func1
  | apply G.int|apply G.tru|apply G.fal|apply G.text|apply G.name|apply G.cons|apply G.clos|apply G.bin|apply G.un|apply G.field|apply G.call|apply G.method|apply G.stat0|apply G.stat1|apply G.make|apply G.apply|apply G.list|apply plc_fld|apply plc_nm|apply atn_nm|refine .lend (And.left (by assumption)) (And.right (by assumption))|apply G.arg
  | apply G.let0|apply G.let1|apply G.assign|apply G.sole|apply G.if2|refine .if3 ?_ ?_ (by assumption)|refine .if4 ?_ ?_ (by assumption)|refine .ifs (by assumption)|apply G.whil|apply G.mat|apply G.ret0|apply G.ret1|apply G.thrw|apply G.doc|apply G.dfr|apply G.block
  | apply G.wild|apply G.bnd|apply G.pint|apply G.pneg|apply G.ptru|apply G.pfal|apply G.ptext|apply G.pcase|apply G.param|apply G.arm
  | apply G.bound|apply G.gen|apply G.rq1|apply G.rq2|apply G.thr|apply G.fld|apply G.dei|apply G.case|apply G.assoc|apply G.alias|apply G.enum
  | apply sgx1|apply sgx0|apply fn_of|apply sg_of|apply fdx1|apply fdx0|apply st_of|apply cl_of|apply prx1|refine prx0 (by assumption)|apply pr_of|apply exa1|refine exa0 (by assumption)|refine exx0 (by assumption)|apply exx1|apply ex_of|apply mtx0|apply mtx1|apply mt_of|apply inx0|apply inx1|apply in_of|apply bsz|exact .fun (by assumption)
 | exact trivial
 | exact rfl
 | omega
 |(simp only[SZ,List.length_append,List.length_cons,List.length_nil];omega)
 |(simp only[SZ]at *;omega)
 | with_reducible apply t_if
 |(simp only[CD])):P:=x
variable {k k0 n:Nat}
section
variable {V:Int->Str->Prop} {l:List Tok} {size:Int} (C:Cx V l)
include C
theorem typ_l8 {n k0:Nat}{Φ:p8}(pr1:∀{k:Nat},k<=l.length->k0<k->ST l (GT V false) 0 k (Φ.F4 l k size)):∀(m:Nat) {k:Nat} {xs:List Typ},k0<=k->k<=l.length->l.length<m+k->szT xs+k0<=k ->(∀x∈xs,GT V false x)->LI l k0 (R:=Typ×Int) (oTs l k0 (∀x ∈ ·,GT V false x)) (a0b n Φ size l m xs k)
 | 0,_,_,_,_,_,_,_=>by omega
 | m+1,k,xs,h1,h2,h3,h4,h5=>by
  have ih:=fun{k:Nat} {xs:List Typ}=>typ_l8 (n:=n) pr1 m (k:=k) (xs:=xs);rw[a0b.eq_2];exact two
theorem c6j {n k0:Nat}{Φ:p8}(pr1:∀{k:Nat},k<=l.length->k0<k->ST l (GT V false) 0 k (Φ.F4 l k size)):∀(m:Nat) {k:Nat} {xs:List Typ},k0<=k->k<=l.length->l.length<m+k->szT xs+k0<=k ->(∀x∈xs,GT V false x)->LI l k0 (R:=Typ×Int) (oTs l k0 (∀x ∈ ·,GT V false x)) (a1x n Φ size l m xs k)
 | 0,_,_,_,_,_,_,_=>by omega
 | m+1,k,xs,h1,h2,h3,h4,h5=>by
  have ih:=fun{k:Nat} {xs:List Typ}=>c6j (n:=n) pr1 m (k:=k) (xs:=xs);rw[a1x.eq_2];exact two
theorem c6k {n k0:Nat}{b:Bool}{Φ:p8}:∀(m:Nat) {k:Nat} {t:Typ},k0<k->k<=l.length->l.length<m+k->t.sz+k0<=k->GT V true t->LI l k0 (R:=Typ×Int) (fun c=>∀{t:Typ} {q:Nat},k0<q->q<=l.length->t.sz+k0<=q->GT V true t->c ((q:Int),t)) (a0o n Φ b size l m k t)
 | 0,_,_,_,_,_,_,_=>by omega
 | m+1,k,t,h1,h2,h3,h4,h5=>by
  have ih:=fun{k t}=>c6k (n:=n) (k0:=k0) (b:=b) (Φ:=Φ) m (k:=k) (t:=t);rw[a0o.eq_2];cases b<;>exact two
structure HT (V:Int->Str->Prop)(l:List Tok)(size:Int)(n:Nat):Prop where
 typ:∀{k:Nat},k<=l.length->30000+40*(l.length-k)+10<=n->ST l (GT V false) 0 k ((p8.fs n).F4 l k size)
 path:∀{k:Nat} {b:Bool},k<=l.length->30000+40*(l.length-k)+5<=n->ST l (GT V true) 0 k ((p8.fs n).O9 b l k size)
theorem ht:∀n,HT V l size n
 | 0=>⟨fun _ h=>by omega,fun _ h=>by omega⟩
 | n+1=>by
  have H:=ht n;have pr1:=fun{k:Nat} h1 h2=>H.typ (k:=k) h1 h2;have pr2:=fun{k:Nat} {b:Bool} h1 h2=>H.path (k:=k) (b:=b) h1 h2;refine⟨fun{k} hk hn=>?_,fun{k b} hk hn=>?_⟩
  ·have lp1:=fun{k' xs}=>typ_l8 C (size:=size) (n:=n) (k0:=k) (fun g1 g2=>H.typ g1 (by omega)) n (k:=k') (xs:=xs);simp only[p8.fs,a2a];exact two
  ·have lp1:=fun{k' xs}=>c6j C (size:=size) (n:=n) (k0:=k) (fun g1 g2=>H.typ g1 (by omega)) n (k:=k') (xs:=xs);have pc1:=fun{k' t}=>c6k C (size:=size) (n:=n) (k0:=k) (b:=b) (Φ:=p8.fs n) n (k:=k') (t:=t);simp only[p8.fs,a09];exact two
theorem typ_r (hk:k<=l.length)(hn:200000<=n):ST l (GT V false) 0 k (F4 n l k size):=have hl:=C.hl;(ht C n).typ hk (by omega)
theorem path_r {b:Bool}(hk:k<=l.length)(hn:200000<=n):ST l (GT V true) 0 k (O9 n b l k size):=have hl:=C.hl;(ht C n).path hk (by omega)
theorem bounds_l (hn:200000<=n):∀m,LP l m k0 (∀x ∈ ·,G V 7 x) (SLi l) fun k xs=>a0s n size l m xs k:=lpI fun m ih k xs h1 h2 h3 h4 h5=>by
 simp only[a0s];exact two
theorem bounds_r (hk:k<=l.length)(hn:200000<=n):SLi l k (∀x ∈ ·,G V 7 x) (a0D n l k size):=by
 unfold a0D;exact two
theorem gens_l (hn:200000<=n):∀m,LP l m k0 (∀x ∈ ·,G V 8 x) (LLi l) fun k xs=>Y9 n size l m xs k:=lpI fun m ih k xs h1 h2 h3 h4 h5=>by
 simp only[Y9];exact two
theorem gens_r (hk:k<=l.length)(hn:200000<=n):SLi l k (∀x ∈ ·,G V 8 x) (T9 n l k size):=by
 unfold T9;exact two
theorem where_l (hn:200000<=n):∀m,LP l m k0 (∀x ∈ ·,G V 9 x) (SLi l) fun k xs=>a0N n size l m xs k:=lpI fun m ih k xs h1 h2 h3 h4 h5=>by
 simp only[a0N];exact two
theorem where_r (hk:k<=l.length)(hn:200000<=n):SLi l k (∀x ∈ ·,G V 9 x) (a0T n l k size):=by
 unfold a0T;exact two
theorem params_l (hn:200000<=n):∀m,LP l m k0 (∀x ∈ ·,G V 4 x) (LLi l) fun k xs=>Y5 n size l m xs k:=lpI fun m ih k xs h1 h2 h3 h4 h5=>by
 simp only[Y5];exact two
theorem params_r (hk:k<=l.length)(hn:200000<=n):SLi l k (∀x ∈ ·,G V 4 x) (X7 n l k size):=by
 unfold X7;exact two
theorem result_r (hk:k<=l.length)(hn:200000<=n):ST l (fun t=>t=uT∨GT V false t) 1 k (a0a n l k size):=by
 unfold a0a;exact two
theorem sign_r (hk:k<=l.length)(hn:200000<=n):SI l k (fun c=>∀{s:Str} {t:Typ} {x:List Nod} {a:Int} {q:Nat},k<q->q<=l.length->t.sz+szN x+1+4*k<=4*q->x.length<=40000->V 1 s ->(t=uT∨GT V false t)->SGX V x->c (s,t,x,a,(q:Int))) (U8 n l k size):=by
 unfold U8;exact two
theorem proto_l5 (hn:200000<=n):∀m,LP l m k0 (∀x ∈ ·,G V 16 x) (LIi l) fun k xs=>Z4 n size l m k xs:=lpI fun m ih k xs h1 h2 h3 h4 h5=>by
 simp only[Z4];exact two
theorem c7q (hn:200000<=n):∀m,LP l m k0 (PRX V) (LIi l) fun k xs=>Y0 n size l m k xs:=lpI fun m ih k xs h1 h2 h3 h4 h5=>by
 simp only[Y0];exact two
theorem proto_r (hk:k<=l.length)(hn:200000<=n):SNi l (G V 18) k (a0M n l k size):=by
 unfold a0M;exact two
omit C in
theorem plc_fld {s u:Str}{o a:Int}{x:List Nod}(hv:V 1 s)(h:G V 0 ⟨o,u,0,zT,[],x,a⟩/\PLC ⟨o,u,0,zT,[],x,a⟩):G V 0 ⟨55,s,0,zT,[],[⟨o,u,0,zT,[],x,a⟩],a⟩/\PLC ⟨55,s,0,zT,[],[⟨o,u,0,zT,[],x,a⟩],a⟩:=⟨.field hv h.1,.fld h.2⟩
omit C in
theorem plc_nm {s:Str}{a:Int}(hv:V 1 s):G V 0 ⟨54,s,0,zT,[],[],a⟩/\PLC ⟨54,s,0,zT,[],[],a⟩:=⟨.name hv,.nm rfl⟩
theorem c2V {n k0:Nat}{a:Int}:∀(m:Nat) {k:Nat} {o:Int} {s:Str} {xs:List Nod},k0<k->k<=l.length->l.length<m+k->szN xs+2+4*k0<=4*k ->(G V 0 ⟨o,s,0,zT,[],xs,a⟩/\PLC ⟨o,s,0,zT,[],xs,a⟩)->LI l k0 (R:=Nod×Int) (fun c=>∀{o:Int} {s:Str} {x:List Nod} {q:Nat},k0<q->q<=l.length->szN x+2+4*k0<=4*q ->(G V 0 ⟨o,s,0,zT,[],x,a⟩/\PLC ⟨o,s,0,zT,[],x,a⟩)->c ((q:Int),o,s,x)) (a0L n a size l m k o s xs)
 | 0,_,_,_,_,_,_,_,_,_=>by omega
 | m+1,k,o,s,xs,h1,h2,h3,h4,h5=>by
  have ih:=fun{k o s xs}=>c2V (n:=n) (k0:=k0) (a:=a) m (k:=k) (o:=o) (s:=s) (xs:=xs);rw[a0L.eq_2];exact two
theorem place_r (hk:k<=l.length)(hn:200000<=n):SNi l (fun x=>G V 0 x/\PLC x) k (a0S n l k size):=by
 unfold a0S;exact two
theorem pat_l6 {Φ:A7}(pr1:∀{k:Nat},k<=l.length->k0<k->SNi l (G V 3) k (Φ.I7 l k size)):∀m,LP l m k0 (∀x ∈ ·,G V 3 x) (LIi l) fun k xs=>a0g n Φ size l m k xs:=lpI fun m ih k xs h1 h2 h3 h4 h5=>by
 simp only[a0g];exact two
theorem pat_fs:∀(n:Nat) {k:Nat},k<=l.length->30000+40*(l.length-k)<=n->SNi l (G V 3) k ((A7.fs n).I7 l k size)
 | 0,k,hk,hn=>by omega
 | n+1,k,hk,hn=>by
  have pr1:=fun{q:Nat} (g1:q<=l.length) (g2:30000+40*(l.length-q)<=n)=>pat_fs n g1 g2;have lp1:=fun{k' xs}=>pat_l6 C (size:=size) (n:=n) (k0:=k) (fun g1 g2=>pr1 g1 (by omega)) n (k:=k') (xs:=xs);simp only[A7.fs,F5];exact two
theorem pat_r (hk:k<=l.length)(hn:200000<=n):SNi l (G V 3) k (I7 n l k size):=have hl:=C.hl;pat_fs C n hk (by omega)
end
section
variable {V:Int->Str->Prop} {l:List Tok} {size:Int} (C:Cx V l)
include C
def TB (tb:List G6):Prop:=tb.length<=5 /\ ∀lv∈tb,lv.ops.length<=10 /\ ∀s∈lv.ops,OP s
omit C in
theorem c5a:TB [(⟨[[124,124]],false⟩:G6),(⟨[[38,38]],false⟩:G6),(⟨[[61,61],[33,61],[60],[60,61],[62],[62,61]],true⟩:G6),(⟨[[43],[45]],false⟩:G6),(⟨[[42],[47],[37]],false⟩:G6)]:=⟨by decide,by unfold OP;decide⟩
omit C in
theorem TB.drop {tb:List G6}(h:TB tb)(i:Nat):TB (tb.drop i):=⟨by have:=h.1;simp only[List.length_drop];omega,fun lv hl=>h.2 lv (List.mem_of_mem_drop hl)⟩
omit C in
theorem b4Y {α:Type}{l:List α}{a b:Nat}(h1:a<=b)(h2:b<=l.length):b2Y l (a:Int) (b:Int)=some ((l.take b).drop a):=by
 have h:inI (a:Int) (b:Int) l.length=true:=by simp[inI,h1,h2]
 simp[b2Y,h]
omit C in
theorem c5Q {n:Nat}{xs:List Str}{v:Str}:∀(m i:Nat),xs.length<m+i->i<=xs.length->xs.length<=1000000 -> ∃r:Int,bS (a1q n xs v m i) (fun _=>some (-1)) some=some r/\leB 0 r=decide (v∈xs.drop i)
 | 0,i,h1,h2,_=>by omega
 | m+1,i,h1,h2,h3=>by
  rw[a1q.eq_2];rcases Nat.lt_or_ge i xs.length with h|h
  ·rw[X6 (by omega),a0k h,drop_eq h];simp only[NF,b6Y];by_cases e:v=xs[i]
   ·rw[decide_eq_true e];refine⟨_,rfl,?_⟩;rw[b9d (by omega),decide_eq_true (by rw[<-e];exact List.mem_cons_self)]
   ·rw[decide_eq_false e,H6 (by omega)];obtain⟨r,e1,e2⟩:=c5Q (n:=n) (xs:=xs) (v:=v) m (i+1) (by omega) (by omega) h3;refine⟨r,e1,?_⟩;rw[e2];exact decide_eq_decide.2 (by rw[List.mem_cons];exact⟨.inr,fun h=>h.resolve_left e⟩)
  ·rw[a0C (by omega)];refine⟨_,rfl,?_⟩;rw[List.drop_eq_nil_of_le h,c2n (by omega),decide_eq_false (by simp)]
omit C in
theorem a8I {n:Nat}{xs:List Str}{v:Str}(h:xs.length<n)(h2:xs.length<=1000000):J4 n xs v=some (decide (v∈xs)):=by
 obtain⟨r,e1,e2⟩:=c5Q (n:=n) (xs:=xs) (v:=v) n 0 (by omega) (by omega) h2;have e3:a05 n xs v=some r:=by
  unfold a05;simp only[NF];exact e1
 unfold J4;rw[e3,Option.bind_some,e2];rfl
omit C in
theorem inv55 {x:Nod}(h:G V 0 x)(ho:x.op=55):∃s y a,x =⟨55,s,0,zT,[],[y],a⟩/\G V 0 y:=by
 cases h with
 | field hs hx=>exact⟨_,_,_,rfl,hx⟩
 | un hu hx =>
  rcases hu with rfl|rfl<;>simp at ho
 | _=>simp at ho
omit C in
theorem c6m {n:Nat}:∀(m:Nat) (x:Nod),G V 0 x->x.sz<m -> ∃z,a2S n m x=some z/\(z.op=54->PLC x)
 | 0,x,_,h=>by omega
 | m+1,x,hG,hs=>by
  rw[a2S.eq_2];by_cases h:x.op=55
  ·obtain⟨s,z,a,rfl,hz⟩:=inv55 hG h;rw[a0z (show(55:Int)=55 from rfl),cond_true,show idx' [z] 0=some z from a0k (l:=[z]) (i:=0) Nat.zero_lt_one];rw[nsz,a4V]at hs;obtain⟨p,e1,e4⟩:=c6m m z hz (by omega);exact⟨p,e1,fun h=>.fld (e4 h)⟩
  ·rw[a1t h];exact⟨x,rfl,fun h=>.nm h⟩
omit C in
theorem t_place {A:Type}{Q:A->Prop}{n:Nat}{x:Nod}{f:Bool->Option A}(hn:x.sz<n)(hG:G V 0 x)(h1:PLC x->S1 Q (f true))(h2:S1 Q (f false)):S1 Q ((a4Q n x).bind f):=by
 obtain⟨z,e1,e4⟩:=c6m n x hG hn;unfold a4Q;rw[e1];simp only[NF,a9m];by_cases h:z.op=54
 ·rw[decide_eq_true h];exact h1 (e4 h)
 ·rw[decide_eq_false h];exact h2
@[reducible] def HN (V:Int->Str->Prop) (l:List Tok) (size:Int) (n r:Nat) (P:Nod->Prop) (F:j3->List Tok->Int->Int->Option (Rs (Nod×Int) (o6×Int))):Prop:=∀{k:Nat},k<=l.length->200000+40*(l.length-k)+r<=n->SN l P k (F (j3.fs n) l k size)
structure HE (V:Int->Str->Prop)(l:List Tok)(size:Int)(n:Nat):Prop where
 f_block:HN V l size n 34 (G V 2) j3.G7
 f_statement:HN V l size n 30 (G V 1) j3.O4
 f_conditional:HN V l size n 28 (G V 19) j3.J6
 f_local:HN V l size n 26 (G V 1) j3.K6
 f_match:HN V l size n 26 (G V 1) j3.U2
 f_expr:HN V l size n 20 (G V 0) j3.G9
 f_unary:HN V l size n 13 (G V 0) j3.P8
 f_postfix:HN V l size n 11 (G V 0) j3.Q9
 f_atom:HN V l size n 10 (G V 0) j3.N7
 f_interp:HN V l size n 9 (G V 0) j3.U6
 f_closure:HN V l size n 9 (G V 0) j3.Q8
 f_atomn:∀{k:Nat},isK l 1 k=true->k<=l.length->200000+40*(l.length-k)+10<=n->SN l (fun x=>G V 0 x/\V 1 x.s) k ((j3.fs n).N7 l k size)
 f_stmts:∀{k:Nat},k<=l.length->200000+40*(l.length-k)+32<=n->SL l k (∀x ∈ ·,G V 1 x) ((j3.fs n).M4 l k size)
 f_args:∀{k:Nat},k<=l.length->200000+40*(l.length-k)+9<=n->SE l k (fun c=>∀{x:List Nod} {q:Nat},k+2<=q->q<=l.length->szN x+8+4*k<=4*q->x.length<=4*q ->(∀y∈x,G V 6 y)->c (x,(q:Int))) ((j3.fs n).O3 l k size)
 f_one:∀{k:Nat} {op:Int},k<l.length->200000+40*(l.length-k)+26<=n->SE l k (fun c=>∀{x:Nod} {a:Int} {q:Nat},k+1<q->q<=l.length->x.sz+4*(k+1)<=4*q->G V 2 x->c ([x],a,(q:Int))) ((j3.fs n).V7 op l k size)
 f_climb:∀{k k0:Nat} {x:Nod} {tb:List G6},k<=l.length->k0<k->x.sz+4*k0<=4*k->G V 0 x->TB tb->200000+40*(l.length-k)+19<=n->SN l (G V 0) k0 ((j3.fs n).P6 x tb l k size)
section
variable {n:Nat} (H:HE V l size n) {k0:Nat}
include H
theorem stmts_l (hn:200000+40*(l.length-k0)+30<=n):∀m,LP l m k0 (∀x ∈ ·,G V 1 x) (LLs l) fun k xs=>X3 n (j3.fs n) size l m xs k:=lpI fun m ih k xs h1 h2 h3 h4 h5=>by
 simp only[X3];exact two
theorem atom_l (hn:200000+40*(l.length-k0)<=n+20):∀m,LP l m k0 (∀x ∈ ·,G V 0 x) (LIs l) fun k xs=>a0I n (j3.fs n) size l m k xs:=lpI fun m ih k xs h1 h2 h3 h4 h5=>by
 simp only[a0I];exact two
theorem args_l (hn:200000+40*(l.length-k0)+20<=n):∀m,LP l m k0 (∀x ∈ ·,G V 6 x) (LLs l) fun k xs=>a0R n (j3.fs n) size l m xs k:=lpI fun m ih k xs h1 h2 h3 h4 h5=>by
 simp only[a0R];exact two
theorem match_l (hn:200000+40*(l.length-k0)+14<=n):∀m,LP l m k0 (MTX V) (LIs l) fun k xs=>a0K n (j3.fs n) size l m k xs:=lpI fun m ih k xs h1 h2 h3 h4 h5=>by
 simp only[a0K];exact two
theorem c2b (hn:200000+40*(l.length-k0)<=n+20){a0:Int}:∀(m:Nat) {k:Nat} {xs:List Nod} {s:Str} {a:Int},k0<k->k<=l.length->l.length<m+k->szN xs+2+4*k0<=4*k->INX V xs->SN l (G V 0) k0 (a0w n (j3.fs n) a0 size l m k xs s a)
 | 0,_,_,_,_,_,_,_,_,_=>by omega
 | m+1,k,xs,s,a,h1,h2,h3,h4,h5=>by
  have ih:=fun{k xs s a}=>c2b hn (a0:=a0) m (k:=k) (xs:=xs) (s:=s) (a:=a);rw[a0w.eq_2];exact two
theorem post0 (hn:200000+40*(l.length-k0)<=n+20):∀(m:Nat) {k:Nat} {x:Nod},k0<k->k<=l.length->l.length<m+k->x.sz+4*k0<=4*k->G V 0 x->SN l (G V 0) k0 (M0 n (j3.fs n) size l m false k x)
 | 0,_,_,_,_,_,_,_=>by omega
 | m+1,k,x,h1,h2,h3,h4,h5=>by
  have ih:=fun{k x}=>post0 hn m (k:=k) (x:=x);rw[M0.eq_2];exact two
theorem post1 (hn:200000+40*(l.length-k0)<=n+20):∀(m:Nat) {k:Nat} {x:Nod},k0<k->k<=l.length->l.length<m+k->x.sz+4*k0<=4*k ->(G V 0 x/\V 1 x.s)->SN l (G V 0) k0 (M0 n (j3.fs n) size l m true k x)
 | 0,_,_,_,_,_,_,_=>by omega
 | m+1,k,x,h1,h2,h3,h4,⟨h5,h6⟩=>by
  have ih:=fun{k x}=>post0 C H hn m (k:=k) (x:=x);rw[M0.eq_2];exact two
theorem c1I {k1:Nat}{tb:List G6}(ht:TB tb){i:Int}{j:Nat}(hj:j<tb.length)(hn:200000+40*(l.length-k1)+19<=n+1):∀(m:Nat) {k:Nat} {x:Nod},k0<k->k1<=k->k<=l.length->l.length<m+k->x.sz+4*k0<=4*k->G V 0 x->LX l k0 (R:=Nod×Int) (fun c=>∀{x:Nod} {q:Nat},k0<q->k1<=q->q<=l.length->x.sz+4*k0<=4*q->G V 0 x->c (i,(q:Int),x)) (O7 n (j3.fs n) size tb l m j i k x)
 | 0,_,_,_,_,_,_,_,_=>by omega
 | m+1,k,x,h1,h0,h2,h3,h5,h6=>by
  have ih:=fun{k x}=>c1I (k1:=k1) ht (i:=i) hj hn m (k:=k) (x:=x);have pc1:=fun{k' x tb}=>H.f_climb (k:=k') (k0:=k+1) (x:=x) (tb:=tb);obtain⟨t1,t2⟩:=ht.2 _ (List.getElem_mem hj);have hlv:idx' tb (j:Int)=some tb[j]:=a0k hj;have hd:=ht.drop (j+1);have ht1:=ht.1;have hsub:b2Y tb (((j+1:Nat):Int)) (tb.length:Int)=some (tb.drop (j+1)):=by rw[b4Y (by omega) (Nat.le_refl _),List.take_length]
  have hc:∀v,J4 n tb[j].ops v=some (decide (v∈tb[j].ops)):=fun v=>a8I (by omega) (by omega);intro A Q f g hok hpan;rw[O7.eq_2];rcases Nat.lt_or_ge k l.length with h|h
  ·rw[X6 (by omega)];simp only[a4Y h,NF,hlv,hc];cases hk8:eqB (a3x l k).kind 8
   ·simp only[NF];exact two
   ·simp only[NF];by_cases ho:(a3x l k).text∈tb[j].ops
    ·have hop:=t2 _ ho;rw[decide_eq_true ho];have fin:=And.intro (H6 (show j<=1000000000000 by omega)) hsub;simp only[NF,fin];cases ho1:tb[j].once<;>exact two
    ·rw[decide_eq_false ho];exact two
  ·rw[a0C (by omega)];exact two
theorem c1H {k1:Nat}{tb:List G6}(ht:TB tb)(hn:200000+40*(l.length-k1)+19<=n+1):∀(m i:Nat) {k:Nat} {x:Nod},i<=tb.length->tb.length<m+i->k0<k->k1<=k->k<=l.length->x.sz+4*k0<=4*k->G V 0 x->LX l k0 (R:=Nod×Int) (fun c=>∀{x:Nod} {q:Nat},k0<q->q<=l.length->x.sz+4*k0<=4*q->G V 0 x->c ((q:Int),x)) (S9 n (j3.fs n) tb size l m i k x)
 | 0,_,_,_,_,_,_,_,_,_,_=>by omega
 | m+1,i,k,x,g1,g2,h1,h0,h2,h5,h6=>by
  have hl:=C.hl;have ht1:=ht.1;have ih:=fun{k x}=>c1H (k1:=k1) ht hn m (i+1) (k:=k) (x:=x);intro A Q f g hok hpan;rw[S9.eq_2];rcases Nat.lt_or_ge i tb.length with h|h
  ·rw[X6 (by omega)];have e:w64 (w64 ((tb.length:Int)-1)-(i:Int)) =((tb.length-1-i:Nat):Int):=by rw[a4m (a:=(tb.length:Int)-1) (by omega) (by omega),a4m (by omega) (by omega)];omega
   have lp1:=fun{k x}=>c1I C H (k0:=k0) (k1:=k1) ht (i:=(i:Int)) (j:=tb.length-1-i) (by omega) hn n (k:=k) (x:=x);simp only[e,NF];exact two
  ·rw[a0C (by omega)];exact two
end
theorem he:∀n,HE V l size n
 | 0=>by constructor<;>(intros;omega)
 | n+1=>by
  have H:=he n;constructor
  ·intro k hk hn;simp only[j3.fs,a1v];exact two
  ·intro k hk hn;simp only[j3.fs,A9];exact two
  ·intro k hk hn;simp only[j3.fs,M7];exact two
  ·intro k hk hn;simp only[j3.fs,M5];exact two
  ·intro k hk hn;simp only[j3.fs,a1w];exact two
  ·intro k hk hn;have fin:=show a5c=some ()from rfl;have pc1:=fun{k' x tb}=>H.f_climb (k:=k') (k0:=k) (x:=x) (tb:=tb);simp only[j3.fs,a0E];exact two
  ·intro k hk hn;simp only[j3.fs,a0p];exact two
  ·intro k hk hn A Q f g hok hpan;have hl:=C.hl;simp only[j3.fs,Q7,NF];refine t_isK hl hk (k_if (fun _ _=>?_) fun _=>?_)<;>exact two
  ·intro k hk hn;simp only[j3.fs,D7];exact two
  ·intro k hk hn;simp only[j3.fs,a1e];exact two
  ·intro k hk hn;simp only[j3.fs,a0Y];exact two
  ·intro k _ hk hn;simp only[j3.fs,D7];exact two
  ·intro k hk hn;simp only[j3.fs,a0q];exact two
  ·intro k hk hn;simp only[j3.fs,a1S];exact two
  ·intro k op hk hn;simp only[j3.fs,a19];exact two
  ·intro k k0 x tb hk h0 hs hG ht hn;have lp1:=fun{k' x}=>c1H C H (k0:=k0) (k1:=k) ht (by omega) n 0 (k:=k') (x:=x) (Nat.zero_le _) (by have:=ht.1;omega);simp only[Int.natCast_zero]at lp1;simp only[j3.fs,a0m];exact two
theorem block_r {n k:Nat}(hk:k<=l.length)(hn:400000<=n):SN l (G V 2) k (G7 n l k size):=have hl:=C.hl;(he C n).f_block hk (by omega)
end
variable {k k0 n:Nat}
section
variable {V:Int->Str->Prop} {l:List Tok} {size:Int} (C:Cx V l)
include C
theorem c4b (hk:k<=l.length)(hn:400000<=n):SN l (G V 11) k (Z8 n l k size):=by
 unfold Z8;exact two
theorem b80 {n:Nat}(hn:400000<=n):∀(m:Nat) {k:Nat} {xs:List Nod},k<=l.length->l.length<m+k->szN xs<=4*k->EXA V xs->LX l k (R:=Nod×Int) (fun c=>∀{x:List Nod} {q:Nat},k<=q->q<=l.length->szN x+4*k<=szN xs+4*q->EXA V x->c ((q:Int),x)) (a0u n size l m k xs)
 | 0,_,_,_,_,_,_=>by omega
 | m+1,k,xs,h2,h3,h5,h6=>by
  have ih:=fun{k xs}=>b80 hn m (k:=k) (xs:=xs);rw[a0u.eq_2];exact two
theorem b65 {n:Nat}(hn:400000<=n):∀(m:Nat) {k:Nat} {xs:List Nod},k<=l.length->l.length<m+k->szN xs<=4*k->EXX V xs->LX l k (R:=Nod×Int) (fun c=>∀{x:List Nod} {q:Nat},k<=q->q<=l.length->szN x+4*k<=szN xs+4*q->EXX V x->c ((q:Int),x)) (a0f n size l m k xs)
 | 0,_,_,_,_,_,_=>by omega
 | m+1,k,xs,h2,h3,h5,h6=>by
  have ih:=fun{k xs}=>b65 hn m (k:=k) (xs:=xs);rw[a0f.eq_2];exact two
theorem extend_r (hk:k<=l.length)(hn:400000<=n):SN l (G V 18) k (a08 n l k size):=by
 unfold a08;exact two
theorem c6X (hn:400000<=n):∀m,LP l m k0 (∀x ∈ ·,G V 13 x) (LLs l) fun k xs=>a0v n size l m xs k:=lpI fun m ih k xs h1 h2 h3 h4 h5=>by
 simp only[a0v];exact two
theorem fields_r (hk:k<=l.length)(hn:400000<=n):SL l k (FDX V) (a0F n l k size):=by
 unfold a0F;exact two
theorem b8U {n k1:Nat}{xs:List Nod}{d:Int}(hn:400000<=n):∀(m:Nat) {k:Nat} {t:List Typ},k1<=k->k<=l.length->l.length<m+k->szT t+k1<=k ->(∀x∈t,GT V false x)->LI l k1 (R:=List Nod×Int) (fun c=>∀{t:List Typ} {q:Nat},k1<=q->q<=l.length->szT t+k1<=q ->(∀x∈t,GT V false x)->c (xs,(q:Int),d,t)) (a0t n size l m xs k d t)
 | 0,_,_,_,_,_,_,_=>by omega
 | m+1,k,t,h1,h2,h3,h4,h5=>by
  have hx:=a5H t;have ih:=fun{k t}=>b8U (k1:=k1) (xs:=xs) (d:=d) hn m (k:=k) (t:=t);rw[a0t.eq_2];exact two
theorem cases_l3 (hn:400000<=n):∀m,LP l m k0 (∀x ∈ ·,G V 15 x) (LLi l) fun k xs=>a0J n size l m xs k:=lpI fun m ih k xs h1 h2 h3 h4 h5=>by
 simp only[a0J];exact two
theorem cases_r (hk:k<=l.length)(hn:400000<=n):SLi l k (∀x ∈ ·,G V 15 x) (a1s n l k size):=by
 unfold a1s;exact two
theorem decl_r (hk:k<=l.length)(hn:400000<=n):SN l (G V 18) k (M8 n l k size):=by
 have fin:w64 (0+1)=1/\w64 (1+2)=3/\w64 (0+2)=2/\IntKind.wrap .i64 ((BitVec.ofInt 64 0 &&& BitVec.ofInt 64 1).toNat:Nat)=0/\IntKind.wrap .i64 ((BitVec.ofInt 64 1 &&& BitVec.ofInt 64 1).toNat:Nat)=1/\IntKind.wrap .i64 ((BitVec.ofInt 64 2 &&& BitVec.ofInt 64 1).toNat:Nat)=0/\IntKind.wrap .i64 ((BitVec.ofInt 64 3 &&& BitVec.ofInt 64 1).toNat:Nat)=1:=by
  refine⟨by decide,by decide,by decide,?_,?_,?_,?_⟩<;>first|rfl|decide|simp[IntKind.wrap,IntKind.bits,IntKind.signed]
 unfold M8;exact two
end
variable {n:Nat}
mutual
def Nod.cnt:Nod->Nat
 |⟨_,_,_,_,_,l,_⟩=>1+a2K l
def a2K:List Nod->Nat
 | []=>0
 | x::r=>x.cnt+a2K r
end
mutual
def Nod.dep:Nod->Nat
 |⟨_,_,_,_,_,l,_⟩=>b0J l+1
def b0J:List Nod->Nat
 | []=>0
 | x::r=>max x.dep (b0J r)
end
theorem Nod.cnt_eq (x:Nod):x.cnt=1+a2K x.l:=by cases x;rfl
theorem Nod.dep_eq (x:Nod):x.dep=b0J x.l+1:=by cases x;rfl
mutual
theorem c3Q:∀x:Nod,x.er.cnt=x.cnt
 |⟨_,_,_,_,_,l,_⟩=>by rw[Nod.er,Nod.cnt,Nod.cnt,b6i l]
theorem b6i:∀l:List Nod,a2K (ers l)=a2K l
 | []=>rfl
 | x::r=>by rw[ers,a2K,a2K,c3Q x,b6i r]
end
mutual
theorem c3T:∀x:Nod,x.er.dep=x.dep
 |⟨_,_,_,_,_,l,_⟩=>by rw[Nod.er,Nod.dep,Nod.dep,b6k l]
theorem b6k:∀l:List Nod,b0J (ers l)=b0J l
 | []=>rfl
 | x::r=>by rw[ers,b0J,b0J,c3T x,b6k r]
end
mutual
theorem c3R:∀x:Nod,x.cnt+x.dep<=2*x.sz
 |⟨_,_,_,t,ts,l,_⟩=>by
  have:=c5x l;rw[Nod.cnt,Nod.dep,nsz];omega
theorem c5x:∀l:List Nod,a2K l+b0J l<=2*szN l
 | []=>by simp[a2K,b0J,szN]
 | x::r=>by
  have h1:=c3R x;have h2:=c5x r;simp only[a2K,b0J,szN];omega
end
mutual
theorem b8f:∀x:Nod,x.er.sz=x.sz
 |⟨_,_,_,_,_,l,_⟩=>by rw[Nod.er,nsz,nsz,c05 l]
theorem c05:∀l:List Nod,szN (ers l)=szN l
 | []=>rfl
 | x::r=>by rw[ers,szN,szN,b8f x,c05 r]
end
theorem b4w:∀a b:List Nod,a2K (a++b)=a2K a+a2K b
 | [],b=>by simp[a2K]
 | x::a,b=>by rw[List.cons_append,a2K,a2K,b4w a b];omega
theorem c1K:∀l:List Nod,l.length<=a2K l
 | []=>Nat.le_refl _
 | x::r=>by have:=c1K r;have:=x.cnt_eq;simp only[a2K,List.length_cons];omega
theorem size_l {n:Nat}{Φ:Q6}{x:Nod}(hx:x.sz<=1000000000)(H:∀y∈x.l,Φ.a1I y=some ((y.cnt:Int),(y.dep:Int))):∀(m i a d:Nat),x.l.length<m+i->i<=x.l.length->a+a2K (x.l.drop i)<=4000000000->a5u n Φ x m a d i=some (((a+a2K (x.l.drop i):Nat):Int),((max d (b0J (x.l.drop i)):Nat):Int))
 | 0,i,a,d,h1,h2,_=>by omega
 | m+1,i,a,d,h1,h2,h3=>by
  rw[a5u.eq_2];have hl:=a00 x.l;have hz:=x.a3X;rcases Nat.lt_or_ge i x.l.length with h|h
  ·rw[drop_eq h]at h3 ⊢;simp only[a2K,b0J]at h3 ⊢;rw[X6 (by omega),a0k h];simp only[NF,H _ (List.getElem_mem h)];have e1:w64 ((a:Int)+(x.l[i].cnt:Int)) =((a+x.l[i].cnt:Nat):Int):=by rw[a4m (by omega) (by omega)];omega
   have e2:max (d:Int) (x.l[i].dep:Int) =((max d x.l[i].dep:Nat):Int):=by omega
   rw[e1,e2,H6 (by omega),size_l hx H m (i+1) (a+x.l[i].cnt) (max d x.l[i].dep) (by omega) (by omega) (by omega)];congr 3
   ·omega
   ·omega
  ·rw[a0C (by omega),List.drop_eq_nil_of_le h];simp[NF,a2K,b0J]
theorem c01:∀(n:Nat) (x:Nod),x.sz<n->x.sz<=1000000000->a1I n x=some ((x.cnt:Int),(x.dep:Int))
 | 0,x,h,_=>by omega
 | n+1,x,h,hx=>by
  have hz:=x.a3X;have hc:=c3R x;have hc1:=x.cnt_eq;have hl:=a00 x.l;have H:∀y∈x.l,(Q6.fs n).a1I y=some ((y.cnt:Int),(y.dep:Int)):=fun y hy=>by
   have:=a1Q hy;exact c01 n y (by omega) (by omega)
  have e:=size_l (n:=n) hx H n 0 1 0 (by omega) (Nat.zero_le _) (by rw[List.drop_zero];omega);have e0:a5u n (Q6.fs n) x n 1 0 0=_:=e;show a6w n (Q6.fs n) x=_;unfold a6w;rw[e0,List.drop_zero];simp only[NF];have hd:=x.dep_eq;have e3:w64 (((max 0 (b0J x.l):Nat):Int)+1) =(x.dep:Int):=by rw[a4m (by omega) (by omega)];omega
  rw[e3,hc1]
theorem c6t {n:Nat}{Φ:F6}{a:List Typ}(ha:a.length<=1000000000)(H:∀t∈a,Φ.Y6 t t=some true):∀(m i:Nat),a.length<m+i->i<=a.length->a1O n Φ a a m i=some (.brk ())
 | 0,i,h1,h2=>by omega
 | m+1,i,h1,h2=>by
  rw[a1O.eq_2];rcases Nat.lt_or_ge i a.length with h|h
  ·rw[X6 (by omega),a0k h];simp only[NF,H _ (List.getElem_mem h)];rw[H6 (by omega)];exact c6t ha H m (i+1) (by omega) (by omega)
  ·rw[a0C (by omega)];rfl
theorem sameTs {a:List Typ}(ha:a.length<=1000000000)(hn:a.length<n)(H:∀t∈a,(F6.fs n).Y6 t t=some true):(F6.fs (n+1)).Q5 a a=some true:=by
 show a13 n (F6.fs n) a a=_;have e:a1O n (F6.fs n) a a n 0=_:=c6t ha H n 0 (by omega) (Nat.zero_le _);unfold a13;rw[a0z rfl,e];rfl
theorem sameT:∀(n:Nat) (t:Typ),2*t.sz+1<=n->t.sz<=1000000000 ->(F6.fs n).Y6 t t=some true
 | 0,t,h,_=>by have:=t.a3X;omega
 | 1,t,h,_=>by have:=t.a3X;omega
 | n+2,t,h,ht=>by
  have hz:=t.a3X;have hl:=a5H t.args;show a3U (n+1) (F6.fs (n+1)) t t=_;unfold a3U;rw[a0z rfl,a8J,a0z rfl,sameTs (by omega) (by omega) fun x hx=>by
   have:=a3w hx;exact sameT n x (by omega) (by omega)]
  rfl
theorem c6s {n:Nat}{Φ:I8}{a b:List Nod}(ha:a.length<=1000000000)(hab:ers a=ers b)(H:∀x∈a,∀y,x.er=y.er->Φ.a07 x y=some true):∀(m i:Nat),a.length<m+i->i<=a.length->a1N n Φ a b m i=some (.brk ())
 | 0,i,h1,h2=>by omega
 | m+1,i,h1,h2=>by
  rw[a1N.eq_2];have hb:=a6s hab;rcases Nat.lt_or_ge i a.length with h|h
  ·have hi:i<b.length:=by omega
   have e:(a[i]).er =(b[i]).er:=by
    have g:∀l:List Nod,ers l=l.map Nod.er:=fun l=>by induction l with
     | nil=>rfl
     | cons x r ih=>rw[ers,ih];rfl
    rw[g,g]at hab;rw[<-List.getElem_map Nod.er (h:=by simpa using h),<-List.getElem_map Nod.er (h:=by simpa using hi)];simp only[hab]
   rw[X6 (by omega),a0k h,a0k hi];simp only[NF,H _ (List.getElem_mem h) _ e];rw[H6 (by omega)];exact c6s ha hab H m (i+1) (by omega) (by omega)
  ·rw[a0C (by omega)];rfl
theorem same_v:∀(n:Nat) (x y:Nod),2*x.sz+1<=n->x.sz<=1000000000->x.er=y.er ->(I8.fs n).a07 x y=some true
 | 0,x,y,h,_,_=>by have:=x.a3X;have:=x.t.a3X;omega
 | 1,x,y,h,_,_=>by have:=x.a3X;have:=x.t.a3X;omega
 | n+2,x,y,h,hx,he=>by
  have hz:=x.a3X;have hl:=a00 x.l;have hl2:=a5H x.ts;obtain⟨e1,e2,e3,e4,e5,e6⟩:=a4D he;have hyl:=a6s e6;show a6v (n+1) (I8.fs (n+1)) x y=_;have g1:Y6 (n+1) x.t y.t=some true:=by rw[<-e4];exact sameT (n+1) x.t (by omega) (by omega)
  have g2:Q5 (n+1) x.ts y.ts=some true:=by
   rw[<-e5];exact sameTs (n:=n) (by omega) (by omega) fun t ht=>by
    have:=a3w ht;exact sameT n t (by omega) (by omega)
  have g3:(I8.fs (n+1)).X8 x.l y.l=some true:=by
   have e:a1N n (I8.fs n) x.l y.l n 0=_:=c6s (by omega) e6 (fun z hz w hw=>by
    have:=a1Q hz;exact same_v n z w (by omega) (by omega) hw) n 0 (by omega) (Nat.zero_le _)
   show a11 n (I8.fs n) x.l y.l=_;unfold a11;rw[a0z (show(x.l.length:Int) =(y.l.length:Int)by rw[hyl]),e];rfl
  unfold a6v;rw[a0z e1,<-e2,a8J,a0z e3,g1,g2,g3];rfl
theorem b1i {x y:Nod}(h:2*x.sz+1<=n)(hx:x.sz<=1000000000)(he:x.er=y.er):a07 n x y=some true:=same_v n x y h hx he
theorem leB_d (a b:Int):leB a b=decide (a<=b):=by unfold leB;rfl
section
variable {V:Int->Str->Prop} {l:List Tok} {size:Int} (C:Cx V l)
include C
theorem b7W {n:Nat}(hn:100<=n):∀(m:Nat) (i a:Nat) (o:Int),l.length<m+i->i<=l.length->a<=l.length -> ∃q:Nat,a<=q/\q<=l.length/\bS (a2C n l m o i a) (fun _=>some (List.length l:Int)) some=some (q:Int)
 | 0,i,a,o,h1,h2,_=>by omega
 | m+1,i,a,o,h1,h2,h3=>by
  have hl:=C.hl;rw[a2C.eq_2];rcases Nat.lt_or_ge i l.length with h|h
  ·rw[X6 (by omega)];obtain⟨F,hc⟩:∃F:Str->Bool,∀v,J4 n [[115,116,114,117,99,116],[101,110,117,109],[99,108,97,115,115],[112,114,111,116,111,99,111,108],[101,120,116,101,110,100],[102,117,110,99],[109,111,118,101,111,110,108,121],[102,114,111,122,101,110]] v=some (F v):=⟨_,fun v=>a8I (by simp only[List.length_cons,List.length_nil];omega) (by decide)⟩
   have ih:=fun o=>b7W hn m (i+1) a o (by omega) (by omega) h3;simp only[NF,CD,a4Y h,hc,H6 (show i<=1000000000000 by omega)];generalize F (a3x l i).text=b1;generalize eqS (a3x l i).text [123]=b2;generalize eqS (a3x l i).text [125]=b3;generalize eqB (a3x l i).kind 9=b4;generalize eqB (a3x l i).kind 8=b5;generalize leB o 0=b6;cases h7:leB (a:Int) (i:Int)
   ·cases b5<;>cases b2<;>cases b3<;>simp only[NF]<;>exact ih _
   ·have h7:a<=i:=by
     have:=of_decide_eq_true ((leB_d _ _).symm.trans h7);omega
    cases b6<;>cases b4<;>cases b1<;>simp only[NF]<;>first
     | exact⟨i,h7,h2,rfl⟩
     |(cases b5<;>cases b2<;>cases b3<;>simp only[NF]<;>exact ih _)
  ·rw[a0C (by omega)];exact⟨l.length,h3,Nat.le_refl _,rfl⟩
omit C in
theorem bs1 {A:Type}{Q:A->Prop}{x:Option (Lr Int Int)}{a b:Int}{f:Int->Option A}(h:bS x (fun _=>some a) some=some b)(g:S1 Q (f b)):S1 Q (bS x (fun _=>f a) f):=by
 rcases x with _|c|c
 ·cases h
 ·cases h;exact g
 ·cases h;exact g
theorem t_resume {A:Type}{Q:A->Prop}{k q:Nat}{f:Int->Option A}(hn:4000<=n)(hk:k<l.length)(h1:k<=q)(h2:q<=l.length)(h:∀p:Nat,k<p->p<=l.length->S1 Q (f (p:Int))):S1 Q ((a2s n k l q size).bind f):=by
 have hl:=C.hl;unfold a2s;by_cases e:q=k
 ·subst e;obtain⟨p,g1,g2,g3⟩:=b7W C (n:=n) (by omega) n q (q+1) 0 (by omega) (by omega) (by omega);rw[a0z rfl];simp only[NF,H6 (show q<=1000000000000 by omega)];exact bs1 g3 (h p g1 g2)
 ·obtain⟨p,g1,g2,g3⟩:=b7W C (n:=n) (by omega) n k q 0 (by omega) (by omega) h2;rw[a1t (by omega)];simp only[NF];exact bs1 g3 (h p (by omega) g2)
def QM (V:Int->Str->Prop)(a:List Flt×List Nod):Prop:=1+a2K a.2<=4000/\szN a.2<=12000 /\ ∀x∈a.2,G V 18 x/\x.dep<=39
theorem b7u {n:Nat}{src:Str}(hn:400000<=n)(hs:(src.length:Int)=size):∀(m k:Nat) (fs:List Flt) (xs:List Nod),k<=l.length->l.length<m+k->fs.length<=20->1+a2K xs<=4000->szN xs<=4*k ->(∀x∈xs,G V 18 x/\x.dep<=39)->S1 (QM V) (U1 n src l m ((1+a2K xs:Nat):Int) fs xs k)
 | 0,k,_,_,h1,h2,_,_,_,_=>by omega
 | m+1,k,fs,xs,h1,h2,h4,h6,h7,h8=>by
  have hl:=C.hl;have hlx:=c1K xs;rw[U1.eq_2,hs];have fin:S1 (QM V) (some (fs,xs)):=⟨_,rfl,h6,by show szN xs<=12000;omega,h8⟩
  rcases Nat.lt_or_ge k l.length with h|h
  ·rw[X6 (show(k:Int)<(l.length:Int)by omega)];simp only[NF];rcases Nat.lt_or_ge fs.length 20 with hf|hf
   ·have ap:∀a:Flt,app 16 fs [a]=some (fs++[a]):=fun a=>a3Z (by omega) (by simp) (by omega);have go:∀(p:Nat) (a:Flt),k<p->p<=l.length->S1 (QM V) (U1 n src l m ((1+a2K xs:Nat):Int) (fs++[a]) xs p):=fun p a g1 g2=>b7u hn hs m p (fs++[a]) xs g2 (by omega) (by simp only[List.length_append,List.length_singleton];omega) h6 (by omega) h8;rw[X6 (show(fs.length:Int)<20 by omega)];simp only[NF];rw[b7d C.hl h1];unfold a2i a4o;simp only[NF];refine decl_r C h1 hn _ _ _ _ (fun{x q} g1 g2 g4 g5=>?_) (fun{e q} g1 g2 g4=>?_)
    ·have hx2:=c3R x;simp only[NF,a0z (show(0:Int)=0 from rfl),Bool.and_self];rw[c01 n x (by omega) (by omega)];simp only[NF];have e1:w64 (1+(x.dep:Int)) =((1+x.dep:Nat):Int):=by rw[a4m (by omega) (by omega)];omega
     have e2:w64 (((1+a2K xs:Nat):Int)+(x.cnt:Int)) =((1+a2K xs+x.cnt:Nat):Int):=by rw[a4m (by omega) (by omega)];omega
     rw[e1,e2];rcases Nat.lt_or_ge 40 (1+x.dep)with hd1|hd1
     ·rw[X6 (by omega)];simp only[NF,ap];exact go _ _ g1 g2
     ·rw[a0C (by omega)];simp only[NF];rcases Nat.lt_or_ge 4000 (1+a2K xs+x.cnt)with hd2|hd2
      ·rw[X6 (by omega)];simp only[NF,ap];exact go _ _ g1 g2
      ·rw[a0C (by omega),a3Z (l:=xs) (m:=[x]) (by omega) (by simp) (by omega)];simp only[NF];have e3:1+a2K xs+x.cnt=1+a2K (xs++[x]):=by rw[b4w];simp only[a2K];omega
       rw[e3];exact b7u hn hs m q fs (xs++[x]) g2 (by omega) h4 (by omega) (by rw[b4k];simp only[szN];omega) (a7i h8 (a5C ⟨g5,by omega⟩))
    ·simp only[NF,a1t g4,Bool.false_and,ap];refine t_resume C (by omega) h g1 g2 fun p p1 p2=>go _ _ p1 p2
   ·rw[a0C (show ¬(fs.length:Int)<20 by omega)];exact fin
  ·rw[a0C (show ¬(k:Int)<(l.length:Int)by omega)];exact fin
end
end Go.Proofs.YtjhfloacokgdiaaGreatDoor
namespace Go.Proofs.YtjhfloacokgdiaaGreatDoor
open Go Go.Vm Pr
variable {α β:Type} {a n o:Int} {ws:List Str} {ts:List Typ} {l:List α} {S:List α->Nat} {m:List β} {x:Nod} {s:Str} {t:Typ} {c:α->Nat}
theorem Typ.b4l (t:Typ):1<=t.sz:=by have:=t.a3X;omega
theorem c6x (t:Typ):szT [t]=t.sz:=by simp[szT]
def jo:List (List (Int×Str))->List (Int×Str) | []=>[] | [a]=>a|a::b::r=>a ++((8,[44])::jo (b::r))
def an (ws:List (List (Int×Str))):List (Int×Str):=match ws with
 | []=>[]
 | _::_=>(8,[60]) ::(jo ws++[(8,[62])])
def wk (k:Int)(s:Str)(ws:List (List (Int×Str))):List (Int×Str) :=if k=1 then [(2,[73,110,116])]else if k=2 then [(2,[66,111,111,108])]else if k=3 then [(2,[84,101,120,116])]else if k=4 then [(2,[85,110,105,116])]else if k=5 then(2,[65,114,114,97,121])::an ws else if k=11 then(2,[87,101,97,107])::an ws else if k=9 then [(9,[97,110,121]),(2,s)]else if k=8 then jo ws++[(8,[46]),(2,s)]else if k=10 then(8,[40]) ::(jo (ws.take (ws.length-1)) ++((8,[41]) ::(8,[45,62])::jo (ws.drop (ws.length-1))))else(2,s)::an ws
mutual
def W:Typ->List (Int×Str)
 |⟨k,s,_,a⟩=>wk k s (WW a)
def WW:List Typ->List (List (Int×Str))
 | []=>[]
 | t::r=>W t::WW r
end
theorem b6D (t:Typ):W t=wk t.kind t.name (WW t.args):=by cases t;rw[W]
theorem a5n:∀l:List Typ,WW l=l.map W
 | []=>by rw[WW];rfl
 | t::r=>by rw[WW,a5n r];rfl
def b8e (ws:List (List (Int×Str))):Nat:=(ws.map fun a=>a.length+1).sum
theorem b5y (a:List (Int×Str))(r:List (List (Int×Str))):b8e (a::r)=a.length+1+b8e r:=by simp[b8e]
theorem c4Z (ws:List (List (Int×Str)))(i:Nat):b8e (ws.take i)+b8e (ws.drop i)=b8e ws:=by
 unfold b8e;rw[<-List.sum_append,<-List.map_append,List.take_append_drop]
theorem b0P:∀ws,(jo ws).length<=b8e ws
 | []=>by simp[jo]
 | [a]=>by simp only[jo,b5y];omega
 | a::b::r=>by
  have:=b0P (b::r);simp only[jo,List.length_append,List.length_cons];rw[b5y a];omega
theorem an_len (ws:List (List (Int×Str))):(an ws).length<=b8e ws+2:=by
 cases ws with
 | nil=>simp[an]
 | cons a r=>have:=b0P (a::r);simp only[an,List.length_cons,List.length_append,List.length_nil];omega
theorem sumW:∀a:List Typ,(∀x∈a,(W x).length+1<=6*x.sz)->b8e (WW a)<=6*szT a
 | [],_=>by rw[WW];simp[b8e]
 | x::r,h=>by
  have h1:=sumW r fun y hy=>h y (by simp[hy]);have h2:=h x (by simp);rw[WW,b5y];simp only[szT];omega
theorem a4C:∀(N:Nat) (t:Typ),t.sz<=N ->(W t).length+1<=6*t.sz
 | 0,t,h=>by have:=t.b4l;omega
 | N+1,t,h=>by
  have hs:=t.a3X;have h1:=sumW t.args fun x hx=>a4C N x (by have:=a3w hx;omega);have h2:=an_len (WW t.args);have h3:=b0P (WW t.args);have h4:=b0P ((WW t.args).take ((WW t.args).length-1));have h5:=b0P ((WW t.args).drop ((WW t.args).length-1));have h6:=c4Z (WW t.args) ((WW t.args).length-1);rw[b6D];unfold wk;repeat' split
  all_goals simp only[List.length_cons,List.length_append,List.length_nil]
  all_goals omega
def sn (p:List (Int×Str)):List Str:=p.map Prod.snd
theorem sn_app (a b:List (Int×Str)):sn (a++b)=sn a++sn b:=by simp[sn]
theorem c02 (a:Int×Str)(b:List (Int×Str)):sn (a::b)=a.2::sn b:=rfl
theorem a4v {l:List Str}(h:ws.length+l.length<=1000000):j5 l ws=some (ws++l):=by
 unfold j5;rw[c3y (by omega)];rfl
theorem c6l {n:Nat}{Φ:w9}{l:List Typ}(hl:l.length<=100000):∀(rest pre:List Typ) (m:Nat) (ws:List Str),l=pre++rest->rest.length<m ->
  (∀x∈rest,∀us:List Str,us.length+8*x.sz<=500000->Φ.H7 x us=some (us++sn (W x)))->ws.length+8*szT rest+1<=500000 ->
  a1r n Φ l m pre.length ws=some (ws++sn (match rest with | []=>[]|_::_=>(if pre.length=0 then []else [(8,[44])])++jo (WW rest)))
 | rest,pre,0,ws,_,h,_,_=>absurd h (by omega)
 | [],pre,m+1,ws,e,_,_,_=>by
  rw[a1r,a0C (by rw[e,List.append_nil];omega),cond_false];simp[sn]
 | t::r,pre,m+1,ws,e,hm,hΦ,hb=>by
  have hln:l.length=pre.length+(r.length+1):=by rw[e];simp
  have hi:pre.length<l.length:=by omega
  have hx:idx' l (pre.length:Int)=some t:=by rw[a0k hi];subst e;simp
  have hW:=a4C _ t (Nat.le_refl _);simp only[szT]at hb;have hz:=t.b4l;have hin:∀{ρ:Type} (k:List Str->Option ρ),Option.bind (α:=List Str) (cond (ltB 0 (pre.length:Int)) ((j5 ([[44]]:List Str) ws).bind fun words4=>some words4) (some ws)) k=k (ws++sn (if pre.length=0 then []else [(8,[44])])):=by
   intro ρ k;by_cases h0:pre.length=0
   ·rw[a0C (by omega),if_pos h0];simp[sn]
   ·rw[X6 (by omega),if_neg h0,cond_true,a4v (by simp only[List.length_cons,List.length_nil];omega)];rfl
  rw[a1r,X6 (by omega),cond_true,hx,Option.bind_some,hin];have hl1:(ws++sn (if pre.length=0 then []else [(8,[44])])).length<=ws.length+1:=by split<;>simp[sn]
  rw[hΦ t (by simp) _ (by omega),Option.bind_some,H6 (by omega)];have ih:=c6l (n:=n) hl r (pre++[t]) m (ws++sn (if pre.length=0 then []else [(8,[44])])++sn (W t)) (by rw[e];simp) (by simp only[List.length_cons]at hm;omega) (fun x hx=>hΦ x (by simp[hx])) (by
   rw[List.length_append];have:(sn (W t)).length =(W t).length:=by simp[sn]
   omega)
  rw[List.length_append]at ih;have e2:((pre.length+[t].length:Nat):Int) =((pre.length+1:Nat):Int):=rfl;rw[e2]at ih;rw[ih];congr 1;cases r with
  | nil=>simp[sn,WW,jo]
  | cons u r=>simp[sn,WW,jo]
theorem pr:∀(N:Nat) (t:Typ) (n:Nat) (ws:List Str),t.sz<=N->3*t.sz+4<=n->ws.length+8*t.sz<=500000 ->(w9.fs n).H7 t ws=some (ws++sn (W t))
 | 0,t,n,ws,h,_,_=>by have:=t.b4l;omega
 | N+1,t,n,ws,h,hn,hb=>by
  have hs:=t.a3X;have hsl:=a5H t.args;obtain⟨q,rfl⟩:∃q,n=q+3:=⟨n-3,by omega⟩
  have hlist:∀(q':Nat) (a:List Typ) (us:List Str),q<=q' ->(∀x∈a,x∈t.args)->szT a<=szT t.args->us.length+8*szT a+1<=500000 ->(w9.fs (q'+1)).Q0 a us=some (us++sn (jo (WW a))):=by
   intro q' a us h1 h2 h3 h4;have hal:=a5H a;have g:=c6l (n:=q') (Φ:=w9.fs q') (l:=a) (by omega) a [] q' us rfl (by omega) (fun x hx vs hv=>pr N x q' vs (by have:=a3w (h2 x hx);omega) (by have:=a3w (h2 x hx);omega) hv) h4;show a3m q' (w9.fs q') a us=_;unfold a3m;have g:a1r q' (w9.fs q') a q' 0 us=_:=g;rw[g];cases a with
   | nil=>simp[WW,jo,sn]
   | cons x r=>rfl
  have hargs:∀us:List Str,us.length+8*szT t.args+2<=500000 ->(w9.fs (q+2)).V8 t.args us=some (us++sn (an (WW t.args))):=by
   intro us h4;show a2t (q+1) (w9.fs (q+1)) t.args us=_;unfold a2t;have hjl:=b0P (WW t.args);have hsw:=sumW t.args fun x hx=>a4C _ x (Nat.le_refl _);cases ha:t.args with
   | nil=>rw[a0C (by simp),cond_false];simp[WW,an,sn]
   | cons x r =>
    rw[<-ha];rw[X6 (by rw[ha];simp only[List.length_cons];omega),cond_true,a4v (by simp only[List.length_cons,List.length_nil];omega),Option.bind_some,
     hlist q t.args _ (Nat.le_refl _) (fun x hx=>hx) (Nat.le_refl _) (by simp only[List.length_append,List.length_cons,List.length_nil];omega),Option.bind_some,
     a4v (by simp only[List.length_append,List.length_cons,List.length_nil,sn,List.length_map];omega)]
    rw[ha];simp[WW,an,sn]
  have hjl:=b0P (WW t.args);have hsw:=sumW t.args fun x hx=>a4C _ x (Nat.le_refl _);show a2T (q+2) (w9.fs (q+2)) t ws=_;unfold a2T;rw[b6D];unfold wk;by_cases k1:t.kind=1
  ·rw[a0z k1,cond_true,if_pos k1,a4v (by simp only[List.length_cons,List.length_nil];omega)];rfl
  rw[a1t k1,cond_false,if_neg k1];by_cases k2:t.kind=2
  ·rw[a0z k2,cond_true,if_pos k2,a4v (by simp only[List.length_cons,List.length_nil];omega)];rfl
  rw[a1t k2,cond_false,if_neg k2];by_cases k3:t.kind=3
  ·rw[a0z k3,cond_true,if_pos k3,a4v (by simp only[List.length_cons,List.length_nil];omega)];rfl
  rw[a1t k3,cond_false,if_neg k3];by_cases k4:t.kind=4
  ·rw[a0z k4,cond_true,if_pos k4,a4v (by simp only[List.length_cons,List.length_nil];omega)];rfl
  rw[a1t k4,cond_false,if_neg k4];by_cases k5:t.kind=5
  ·rw[a0z k5,cond_true,if_pos k5,a4v (by simp only[List.length_cons,List.length_nil];omega),Option.bind_some,hargs _ (by simp only[List.length_append,List.length_cons,List.length_nil];omega),Option.bind_some,c02,List.append_assoc];rfl
  rw[a1t k5,cond_false,if_neg k5];by_cases k11:t.kind=11
  ·rw[a0z k11,cond_true,if_pos k11,a4v (by simp only[List.length_cons,List.length_nil];omega),Option.bind_some,hargs _ (by simp only[List.length_append,List.length_cons,List.length_nil];omega),Option.bind_some,c02,List.append_assoc];rfl
  rw[a1t k11,cond_false,if_neg k11];by_cases k9:t.kind=9
  ·rw[a0z k9,cond_true,if_pos k9,a4v (by simp only[List.length_cons,List.length_nil];omega)];rfl
  rw[a1t k9,cond_false,if_neg k9];by_cases k8:t.kind=8
  ·rw[a0z k8,cond_true,if_pos k8,hlist (q+1) t.args ws (by omega) (fun x hx=>hx) (Nat.le_refl _) (by omega),Option.bind_some,a4v (by simp only[List.length_append,List.length_cons,List.length_nil,sn,List.length_map];omega),Option.bind_some,sn_app,List.append_assoc];rfl
  rw[a1t k8,cond_false,if_neg k8];by_cases k10:t.kind=10
  ·have hmx:max (w64 ((t.args.length:Int)-1)) 0 =((t.args.length-1:Nat):Int):=by
    rw[a4m (by omega) (by omega),Int.max_def];split<;>omega
   have hwl:(WW t.args).length=t.args.length:=by rw[a5n,List.length_map]
   have ht1:∀x∈t.args.take (t.args.length-1),x∈t.args:=fun x hx=>List.mem_of_mem_take hx;have ht2:∀x∈t.args.drop (t.args.length-1),x∈t.args:=fun x hx=>List.mem_of_mem_drop hx;have hsz:szT (t.args.take (t.args.length-1))+szT (t.args.drop (t.args.length-1))=szT t.args:=by rw[<-b1k,List.take_append_drop]
   have hj1:=b0P (WW (t.args.take (t.args.length-1)));have hs1:=sumW (t.args.take (t.args.length-1)) fun x hx=>a4C _ x (Nat.le_refl _);have s1:b2Y t.args 0 ((t.args.length-1:Nat):Int)=some (t.args.take (t.args.length-1)):=by
    rw[show(0:Int) =((0:Nat):Int)from rfl,b4Y (by omega) (by omega)];rfl
   have s2:b2Y t.args ((t.args.length-1:Nat):Int) (t.args.length:Int)=some (t.args.drop (t.args.length-1)):=by
    rw[b4Y (by omega) (Nat.le_refl _),List.take_length]
   rw[a0z k10,cond_true,if_pos k10,a4v (by simp only[List.length_cons,List.length_nil];omega),Option.bind_some,hmx,s1,Option.bind_some,
    hlist (q+1) _ _ (by omega) ht1 (by omega) (by simp only[List.length_append,List.length_cons,List.length_nil];omega),Option.bind_some,
    a4v (by simp only[List.length_append,List.length_cons,List.length_nil,sn,List.length_map];omega),Option.bind_some,s2,Option.bind_some,
    hlist (q+1) _ _ (by omega) ht2 (by omega) (by simp only[List.length_append,List.length_cons,List.length_nil,sn,List.length_map];omega),Option.bind_some]
   rw[hwl,a5n,a5n,a5n,List.map_take,List.map_drop];simp[sn]
  rw[a1t k10,cond_false,if_neg k10,a4v (by simp only[List.length_cons,List.length_nil];omega),Option.bind_some,hargs _ (by simp only[List.length_append,List.length_cons,List.length_nil];omega),Option.bind_some,c02,List.append_assoc];rfl
abbrev WK:=Int×Str
variable {R:α->List WK->Prop}
def spl (p:WK):Str:=if p.1=4 then 34 ::(Rp.esc p.2++[34])else if p.1=5 then 34 ::(Rp.esc p.2++[92,40])else if p.1=6 then 41 ::(Rp.esc p.2++[92,40])else if p.1=7 then 41 ::(Rp.esc p.2++[34])else p.2
def sp (l:List WK):List Str:=l.map spl
theorem SPL:(∀s,spl (1,s)=s)/\(∀s,spl (2,s)=s)/\(∀s,spl (3,s)=s)/\(∀s,spl (8,s)=s)/\(∀s,spl (9,s)=s)/\sp []=[]/\(∀(a:WK) (b:List WK),sp (a::b)=spl a::sp b)/\(∀a b:List WK,sp (a++b)=sp a++sp b)/\(∀a:List WK,(sp a).length=a.length) :=
 ⟨fun _=>rfl,fun _=>rfl,fun _=>rfl,fun _=>rfl,fun _=>rfl,rfl,fun _ _=>rfl,fun _ _=>List.map_append,fun _=>List.length_map ..⟩
theorem SPQ:(∀s,spl (4,s)=34 ::(Rp.esc s++[34]))/\(∀s,spl (5,s)=34 ::(Rp.esc s++[92,40]))/\(∀s,spl (6,s)=41 ::(Rp.esc s++[92,40]))/\(∀s,spl (7,s)=41 ::(Rp.esc s++[34])):=⟨fun _=>rfl,fun _=>rfl,fun _=>rfl,fun _=>rfl⟩
theorem sp_sn:∀{l:List WK},(∀p∈l,p.1=2∨p.1=8∨p.1=9)->sp l=sn l
 | [],_=>rfl
 | p::r,h=>by
  obtain⟨k,s⟩:=p;have h1:=h (k,s) (by simp);have h1:k=2∨k=8∨k=9:=h1;rw[show sp ((k,s)::r)=spl (k,s)::sp r from rfl,sp_sn fun q hq=>h q (by simp[hq])];rcases h1 with rfl|rfl|rfl<;>rfl
theorem jo_all {P:WK->Prop}(hc:P (8,[44])):∀{l:List (List WK)},(∀a∈l,∀p∈a,P p) -> ∀p∈jo l,P p
 | [],_,p,hp=>by cases hp
 | [a],h,p,hp=>h a (by simp) p hp
 | a::b::r,h,p,hp=>by
  rw[jo]at hp;rcases List.mem_append.1 hp with hp|hp
  ·exact h a (by simp) p hp
  ·rcases List.mem_cons.1 hp with rfl|hp
   ·exact hc
   ·exact jo_all hc (fun x hx=>h x (by simp at hx ⊢;exact .inr hx)) p hp
theorem c5l:∀(n:Nat) (t:Typ),t.sz<=n -> ∀p∈W t,p.1=2∨p.1=8∨p.1=9
 | 0,t,h=>by have:=t.b4l;omega
 | n+1,t,h=>by
  have hs:=t.a3X;have H:∀(l:List Typ),(∀x∈l,x∈t.args) -> ∀p∈jo (WW l),p.1=2∨p.1=8∨p.1=9:=fun l hl=>jo_all (.inr (.inl rfl)) fun a ha=>by
   rw[a5n]at ha;obtain⟨x,hx,rfl⟩:=List.mem_map.1 ha;have:=a3w (hl x hx);exact c5l n x (by omega)
  have HA:∀p∈an (WW t.args),p.1=2∨p.1=8∨p.1=9:=fun p hp=>by
   have hj:=H t.args fun _ h=>h;unfold an at hp;split at hp
   ·cases hp
   ·
    rcases List.mem_cons.1 hp with rfl|hp
    ·exact .inr (.inl rfl)
    ·rcases List.mem_append.1 hp with hp|hp
     ·exact hj p hp
     ·rcases List.mem_singleton.1 hp with rfl;exact .inr (.inl rfl)
  have ht:∀i,∀p∈jo ((WW t.args).take i),p.1=2∨p.1=8∨p.1=9:=fun i=>by
   rw[a5n,<-List.map_take,<-a5n];exact H _ fun x hx=>List.mem_of_mem_take hx
  have hd:∀i,∀p∈jo ((WW t.args).drop i),p.1=2∨p.1=8∨p.1=9:=fun i=>by
   rw[a5n,<-List.map_drop,<-a5n];exact H _ fun x hx=>List.mem_of_mem_drop hx
  have hj:=H t.args fun _ h=>h;intro p hp;rw[b6D]at hp;unfold wk at hp;have one:∀{k:Int} {s:Str},(k=2∨k=8∨k=9)->p =(k,s)->p.1=2∨p.1=8∨p.1=9:=fun h e=>by rw[e];exact h
  repeat' split at hp
  all_goals simp only[List.mem_cons,List.mem_append,List.not_mem_nil,or_false]at hp
  ·exact one (.inl rfl) hp
  ·exact one (.inl rfl) hp
  ·exact one (.inl rfl) hp
  ·exact one (.inl rfl) hp
  ·exact hp.elim (one (.inl rfl)) (HA p)
  ·exact hp.elim (one (.inl rfl)) (HA p)
  ·exact hp.elim (one (.inr (.inr rfl))) (one (.inl rfl))
  ·exact hp.elim (hj p) fun h=>h.elim (one (.inr (.inl rfl))) (one (.inl rfl))
  ·exact hp.elim (one (.inr (.inl rfl))) fun h=>h.elim (ht _ p) fun h=>h.elim (one (.inr (.inl rfl))) fun h=>h.elim (one (.inr (.inl rfl))) (hd _ p)
  ·exact hp.elim (one (.inl rfl)) (HA p)
theorem b2T {l:List Str}(h:ws.length+l.length<=1000000):j5 l ws=some (ws++l):=a4v h
theorem typ_v {n:Nat}(hn:3*t.sz+4<=n)(h:ws.length+8*t.sz<=500000):H7 n t ws=some (ws++sp (W t)):=by
 rw[sp_sn (c5l t.sz t (Nat.le_refl _))];exact pr t.sz t n ws (Nat.le_refl _) hn h
inductive V3 {α β:Type}(R:α->β->Prop):List α->List β->Prop
 | nil:V3 R [] []
 | cons {a:α} {b:β} {l:List α} {m:List β}:R a b->V3 R l m->V3 R (a::l) (b::m)
theorem b6f {α β:Type}{R:α->β->Prop}:∀{l:List α},(∀x∈l,∃w,R x w) -> ∃ws,V3 R l ws
 | [],_=>⟨[],.nil⟩
 | x::r,h=>by
  obtain⟨w,h1⟩:=h x (by simp);obtain⟨ws,h2⟩:=b6f (l:=r) fun y hy=>h y (by simp[hy]);exact⟨w::ws,.cons h1 h2⟩
theorem V3.len {R:α->β->Prop}(h:V3 R l m):m.length=l.length:=by
 induction h with
 | nil=>rfl
 | cons _ _ ih=>simp[ih]
theorem V3.imp {R S:α->β->Prop}(h:V3 R l m)(hi:∀a b,a∈l->R a b->S a b):V3 S l m:=by
 induction h with
 | nil=>exact .nil
 | cons h1 _ ih=>exact .cons (hi _ _ (by simp) h1) (ih fun a b ha=>hi a b (by simp[ha]))
theorem WL:(∀a b:List Str,(a++b).length=a.length+b.length)/\(∀a b:List WK,(a++b).length=a.length+b.length)/\(∀(a:WK) (b:List WK),(a::b).length=b.length+1)/\(∀(a:Str) (b:List Str),(a::b).length=b.length+1)/\([]:List WK).length=0/\([]:List Str).length=0/\(∀a:List WK,(sp a).length=a.length):=⟨fun _ _=>List.length_append ..,fun _ _=>List.length_append ..,fun _ _=>rfl,fun _ _=>rfl,rfl,rfl,SPL.2.2.2.2.2.2.2.2⟩
theorem lp_j (hS:∀x r,S (x::r)=c x+S r)(hc:∀x w,R x w->w.length+1<=c x){L:Nat->Int->List Str->Option (List Str)}(hL:l.length<=1000000000)
  (step:∀(m i:Nat) (x:α) (w:List WK) (ws:List Str),x∈l->R x w->ltB (i:Int) (l.length:Int)=true->idx' l (i:Int)=some x->w64 ((i:Int)+1) =((i+1:Nat):Int) ->(i=0/\ltB 0 (i:Int)=false∨0<i/\ltB 0 (i:Int)=true)->ws.length+c x<=500000->L (m+1) i ws=L m ((i+1:Nat):Int) (ws++sp ((if i=0 then []else [(8,[44])])++w)))
  (stop:∀(m:Nat) (ws:List Str),ltB (l.length:Int) (l.length:Int)=false->L (m+1) (l.length:Int) ws=some ws) :
  ∀{vs:List (List WK)},V3 R l vs -> ∀{n:Nat} {ws:List Str},l.length<n->ws.length+S l<=500000->L n 0 ws=some (ws++sp (jo vs)):=by
 have key:∀(rest pre:List α) (vs:List (List WK)) (m:Nat) (ws:List Str),l=pre++rest->V3 R rest vs->rest.length<m->ws.length+S rest<=500000->L m pre.length ws=some (ws++sp (match vs with | []=>[]|_::_=>(if pre.length=0 then []else [(8,[44])])++jo vs)):=by
  intro rest;induction rest with
  | nil =>
   intro pre vs m ws e hA hm hw;cases hA;obtain⟨q,rfl⟩:∃q,m=q+1:=⟨m-1,by simp only[List.length_nil]at hm;omega⟩
   rw[List.append_nil]at e;subst e;rw[stop q ws (a0C (by omega))];simp[sp]
  | cons x r ih =>
   intro pre vs m ws e hA hm hw;cases hA with
   | cons hR hA =>
    rename_i w us;obtain⟨q,rfl⟩:∃q,m=q+1:=⟨m-1,by omega⟩
    have hln:l.length=pre.length+(r.length+1):=by rw[e];simp
    have hi:pre.length<l.length:=by omega
    have hx:idx' l (pre.length:Int)=some x:=by rw[a0k hi];subst e;simp
    have hwc:=hc x w hR;rw[hS]at hw;rw[step q pre.length x w ws (by rw[e];simp) hR (X6 (by omega)) hx (H6 (by omega)) (by
     rcases Nat.eq_zero_or_pos pre.length with h|h
     ·exact .inl ⟨h,a0C (by omega)⟩
     ·exact .inr ⟨h,X6 (by omega)⟩) (by omega)]
    have ih2:=ih (pre++[x]) us q (ws++sp ((if pre.length=0 then []else [(8,[44])])++w)) (by rw[e];simp) hA (by simp only[List.length_cons]at hm;omega) (by
     rw[List.length_append,SPL.2.2.2.2.2.2.2.2,List.length_append];split
     ·simp only[List.length_nil];omega
     ·simp only[List.length_cons,List.length_nil];omega)
    rw[List.length_append]at ih2;have e2:((pre.length+[x].length:Nat):Int) =((pre.length+1:Nat):Int):=rfl;rw[e2]at ih2;rw[ih2];congr 1;cases us with
    | nil=>simp[jo,sp]
    | cons u us=>simp[jo,sp]
 intro vs hA n ws hn hw;have h:=key l [] vs n ws rfl hA hn hw;have h:L n 0 ws=_:=h;rw[h];cases vs with
 | nil=>rfl
 | cons v vs=>rfl
theorem lp_f (hS:∀x r,S (x::r)=c x+S r)(hc:∀x w,R x w->w.length+1<=c x){B:Type}{L:Nat->Int->List Str->Option B}{fin:List Str->Option B}(hL:l.length<=1000000000)
  (step:∀(m i:Nat) (x:α) (w:List WK) (ws:List Str),x∈l->R x w->ltB (i:Int) (l.length:Int)=true->idx' l (i:Int)=some x->w64 ((i:Int)+1) =((i+1:Nat):Int)->ws.length+c x<=500000->L (m+1) i ws=L m ((i+1:Nat):Int) (ws++sp w))
  (stop:∀(m:Nat) (ws:List Str),ltB (l.length:Int) (l.length:Int)=false->L (m+1) (l.length:Int) ws=fin ws) :
  ∀{vs:List (List WK)},V3 R l vs -> ∀{n:Nat} {ws:List Str},l.length<n->ws.length+S l<=500000->L n 0 ws=fin (ws++sp vs.flatten):=by
 have key:∀(rest pre:List α) (vs:List (List WK)) (m:Nat) (ws:List Str),l=pre++rest->V3 R rest vs->rest.length<m->ws.length+S rest<=500000->L m pre.length ws=fin (ws++sp vs.flatten):=by
  intro rest;induction rest with
  | nil =>
   intro pre vs m ws e hA hm hw;cases hA;obtain⟨q,rfl⟩:∃q,m=q+1:=⟨m-1,by simp only[List.length_nil]at hm;omega⟩
   rw[List.append_nil]at e;subst e;rw[stop q ws (a0C (by omega))];simp[sp]
  | cons x r ih =>
   intro pre vs m ws e hA hm hw;cases hA with
   | cons hR hA =>
    rename_i w us;obtain⟨q,rfl⟩:∃q,m=q+1:=⟨m-1,by omega⟩
    have hln:l.length=pre.length+(r.length+1):=by rw[e];simp
    have hi:pre.length<l.length:=by omega
    have hx:idx' l (pre.length:Int)=some x:=by rw[a0k hi];subst e;simp
    have hwc:=hc x w hR;rw[hS]at hw;rw[step q pre.length x w ws (by rw[e];simp) hR (X6 (by omega)) hx (H6 (by omega)) (by omega)];have ih2:=ih (pre++[x]) us q (ws++sp w) (by rw[e];simp) hA (by simp only[List.length_cons]at hm;omega) (by rw[List.length_append,SPL.2.2.2.2.2.2.2.2];omega);rw[List.length_append]at ih2;have e2:((pre.length+[x].length:Nat):Int) =((pre.length+1:Nat):Int):=rfl;rw[e2]at ih2;rw[ih2];simp[sp]
 intro vs hA n ws hn hw;exact key l [] vs n ws rfl hA hn hw
theorem b4F (h0:S []=0)(hS:∀x r,S (x::r)=c x+S r)(hc:∀x w,R x w->w.length+1<=c x){vs:List (List WK)}(h:V3 R l vs):(jo vs).length<=S l/\vs.flatten.length<=S l:=by
 induction h with
 | nil=>simp[jo]
 | @cons x w r us hR hA ih =>
  have:=hc _ _ hR;rw[hS,List.flatten_cons,List.length_append];cases us with
  | nil=>simp only[jo,List.flatten_nil,List.length_nil]at ih ⊢;omega
  | cons u us=>simp only[jo,List.length_append,List.length_cons]at ih ⊢;omega
theorem app144 {l m:List Nod}(h1:l.length<=10000000000)(h2:m.length<=10):app 144 l m=some (l++m):=by
 refine c3y ?_;omega
theorem of_p {n:Nat}{x:Nod}{o:Int}(hn:3<=n)(hL:x.l.length<=1000000000):∀(m i:Nat) (r:List Nod),x.l.length<m+i->i<=x.l.length->r.length<=i->a5Y n x [o] m r i=some (r ++(x.l.drop i).filter fun y=>eqB y.op o)
 | 0,_,_,_,_,_=>by omega
 | m+1,i,r,h1,h2,h3=>by
  rw[a5Y.eq_2];rcases Nat.lt_or_ge i x.l.length with h|h
  ·obtain⟨q,rfl⟩:∃q,n=q+2:=⟨n-2,by omega⟩
   have e1:idx' [o] 0=some o:=a0k (l:=[o]) (i:=0) (by simp);have e2:w64 (0+1)=1:=by decide
   have c1:ltB 0 ((1:Nat):Int)=true:=X6 (by omega);have c2:ltB 1 ((1:Nat):Int)=false:=a0C (by omega);rw[X6 (by omega),a0k h,drop_eq h];simp only[NF,a5Z.eq_2,List.length_singleton,c1,c2,e1,e2,List.filter_cons];cases hb:eqB x.l[i].op o
   ·simp only[NF,H6 (show i<=1000000000000 by omega)];exact of_p hn hL m (i+1) r (by omega) (by omega) (by omega)
   ·simp only[NF,app144 (show r.length<=10000000000 by omega) (show [x.l[i]].length<=10 by simp),H6 (show i<=1000000000000 by omega),if_true];rw[of_p hn hL m (i+1) (r++[x.l[i]]) (by omega) (by omega) (by simp;omega)];simp
  ·rw[a0C (by omega),List.drop_of_length_le h];simp
theorem ofs {n:Nat}(hn:x.l.length+3<=n)(hL:x.l.length<=1000000000):a1J n x [o]=some (x.l.filter fun y=>eqB y.op o):=by
 unfold a1J;have h1:=of_p (n:=n) (x:=x) (o:=o) (by omega) hL n 0 [] (by omega) (Nat.zero_le _) (Nat.le_refl _);simp only[List.drop_zero,List.nil_append,Int.natCast_zero]at h1;rw[h1];rfl
theorem kid0 {l:List Nod}:R8 ⟨o,s,n,t,ts,x::l,a⟩ 0=some x:=by
 unfold R8;rw[X6 (by simp only[List.length_cons];omega),show idx' (x::l) 0=some x from a0k (l:=x::l) (i:=0) (Nat.succ_pos _)];rfl
theorem kid1 {y:Nod}{l:List Nod}:R8 ⟨o,s,n,t,ts,x::y::l,a⟩ 1=some y:=by
 unfold R8;rw[X6 (by simp only[List.length_cons];omega),show idx' (x::y::l) 1=some y from a0k (l:=x::y::l) (i:=1) (by simp)];rfl
theorem rest1 {l:List Nod}:a5N ⟨o,s,n,t,ts,x::l,a⟩ 1=some l:=by
 unfold a5N;cases l with
 | nil=>rw[a0C (by simp)];rfl
 | cons y r =>
  rw[X6 (by simp only[List.length_cons];omega),show b2Y (x::y::r) 1 (((x::y::r).length:Nat):Int)=_ from b4Y (l:=x::y::r) (a:=1) (b:=(x::y::r).length) (by simp) (Nat.le_refl _)];simp[NF]
theorem esc_v (h:s.length<=20000):escG s=some (Rp.esc s):=by
 unfold escG leN;rw[decide_eq_true (by omega)]
theorem cat_v {a b:Str}(h:a.length+b.length<=100000):cat a b=some (a++b):=by
 unfold cat
 rw[b9d (by omega)]
theorem b6v (h:s.length<=20000)(c:UInt8)(q:Str)(hq:q.length<=10):cat [c] (Rp.esc s)=some (c::Rp.esc s)/\cat (c::Rp.esc s) q=some (c ::(Rp.esc s++q)):=by
 have:=Rp.b2n s;exact⟨cat_v (a:=[c]) (by simp only[List.length_singleton];omega),cat_v (by rw[List.length_cons];omega)⟩
variable {a:Int} {vs:List (List WK)} {l:List Nod} {u v w:List WK} {x y z:Nod} {s:Str} {t:Typ}
def PX (x:Nod)(w:List WK):Prop:=w.length+1<=8*x.sz /\ ∀n ws,20*x.sz+20<=n->ws.length+8*x.sz<=500001 ->(j6.fs n).F8 x ws=some (ws++sp w)
def PU (x:Nod)(w:List WK):Prop:=w.length+1<=8*x.sz /\ ∀n ws,20*x.sz+15<=n->ws.length+8*x.sz<=500001 ->(j6.fs n).a0B x ws=some (ws++sp w)
def PS (x:Nod)(w:List WK):Prop:=w.length+1<=8*x.sz /\ ∀n ws,20*x.sz+20<=n->ws.length+8*x.sz<=500001 ->(j6.fs n).M9 x ws=some (ws++sp w)
def PB (x:Nod)(w:List WK):Prop:=w.length+1<=8*x.sz /\ ∀n ws,20*x.sz+20<=n->ws.length+8*x.sz<=500001 ->(j6.fs n).I4 x ws=some (ws++sp w)
def PT (x:Nod)(w:List WK):Prop:=w.length+1<=8*x.sz /\ ∀n ws,20*x.sz+20<=n->ws.length+8*x.sz<=500001 ->(q9.fs n).O6 x ws=some (ws++sp w)
def PM (x:Nod)(w:List WK):Prop:=w.length+1<=8*x.sz /\ ∀n ws,20*x.sz+20<=n->ws.length+8*x.sz<=500001->a0x n x ws=some (ws++sp w)
theorem prt {P:Prop}(x:P:=by
 simp (disch:=(first|omega |(simp only[WL];omega))) only[NF,CD,a9m,Int.reduceEq,decide_true,decide_false,b2T,typ_v,kid0,kid1,rest1,R,SPL,SPQ,List.append_assoc,List.cons_append,List.nil_append,List.append_nil]):P:=x
theorem c8 (x:Nod)(r:List Nod):(fun l=>8*szN l) (x::r) =(fun x=>8*x.sz) x+(fun l=>8*szN l) r:=by simp only[szN];omega
def cw (vs:List (List WK)):List WK:=(8,[40]) ::(jo vs++[(8,[41])])
theorem c0T (h:V3 PX l vs):(jo vs).length<=8*szN l /\ ∀n ws,20*szN l+30<=n->ws.length+8*szN l<=500000->szN l<=100000000 ->(j6.fs n).W9 l ws=some (ws++sp (jo vs)):=by
 have hl:=a00 l;refine⟨(b4F (R:=PX) (c:=fun x=>8*x.sz) (S:=fun l=>8*szN l) rfl c8 (fun x w h=>h.1) h).1,fun n ws hn hw hz=>?_⟩;obtain⟨n,rfl⟩:∃m,n=m+1:=⟨n-1,by omega⟩
 exact lp_j (R:=PX) (c:=fun x=>8*x.sz) (S:=fun l=>8*szN l) c8 (fun x w h=>h.1) (L:=fun m i ws=>a1Z n (j6.fs n) l m i ws) (by omega) (fun m i x w ws hx hR e1 e2 e3 e4 hb=>by
  have:=a1Q hx;have R:=hR.2 n;rw[a1Z.eq_2,e1,e2];rcases e4 with⟨rfl,e4⟩ |⟨hi,e4⟩
  ·have R:=And.intro (fun ws h=>R ws (by omega) h) (And.intro e4 e3);rw[if_pos rfl];exact prt
  ·have R:=And.intro (fun ws h=>R ws (by omega) h) (And.intro e4 e3);rw[if_neg (by omega)];exact prt) (fun m ws e=>by
  rw[a1Z.eq_2,e];rfl) h (by omega) hw
theorem a7l (h:V3 PX l vs):(cw vs).length<=8*szN l+2 /\ ∀n ws,20*szN l+40<=n->ws.length+8*szN l+4<=500000->szN l<=100000000 ->(j6.fs n).P5 l ws=some (ws++sp (cw vs)):=by
 obtain⟨h1,h2⟩:=c0T h;refine⟨by unfold cw;simp only[WL];omega,fun n ws hn hw hz=>?_⟩;obtain⟨n,rfl⟩:∃m,n=m+1:=⟨n-1,by omega⟩
 have R:=fun ws h=>h2 n ws (by omega) h hz;show a2u n (j6.fs n) l ws=_;unfold a2u cw;exact prt
def rwd (x:Nod)(w:List WK):List WK:=cond (eqB x.op 61||eqB x.op 63||eqB x.op 66||eqB x.op 65) ((8,[40]) ::(w++[(8,[41])])) w
theorem c0U (h:PX x w):(rwd x w).length+1<=8*x.sz+2 /\ ∀n ws,20*x.sz+25<=n->ws.length+8*x.sz+4<=500000 ->(j6.fs n).O8 x ws=some (ws++sp (rwd x w)):=by
 obtain⟨h1,h2⟩:=h;refine⟨by unfold rwd;cases(eqB x.op 61||eqB x.op 63||eqB x.op 66||eqB x.op 65)<;>simp only[NF,WL]<;>omega,fun n ws hn hw=>?_⟩;obtain⟨n,rfl⟩:∃m,n=m+1:=⟨n-1,by omega⟩
 have R:=fun ws h=>h2 n ws (by omega) h;show a1A n (j6.fs n) x ws=_;unfold a1A rwd;cases e1:eqB x.op 61<;>cases e2:eqB x.op 63<;>cases e3:eqB x.op 66<;>cases e4:eqB x.op 65<;>simp only[Bool.or_false,Bool.false_or,Bool.or_true,Bool.true_or]<;>exact prt
theorem pxI (h1:w.length+1<=8*x.sz:=by simp only[SZ,WL]at *;omega)(h:∀n ws,20*x.sz+20<=n+1->ws.length+8*x.sz<=500001->O5 n (j6.fs n) x ws=some (ws++sp w):=by intro n ws hn hw;simp only[SZ]at hn hw;unfold O5;exact prt):PX x w:=⟨h1,fun n ws hn hw=>by
 obtain⟨n,rfl⟩:∃m,n=m+1:=⟨n-1,by omega⟩
 exact h n ws hn hw⟩
theorem puI (h1:w.length+1<=8*x.sz:=by simp only[SZ,WL]at *;omega)(h:∀n ws,20*x.sz+15<=n+1->ws.length+8*x.sz<=500001->a2U n (j6.fs n) x ws=some (ws++sp w):=by intro n ws hn hw;simp only[SZ]at hn hw;unfold a2U;exact prt):PU x w:=⟨h1,fun n ws hn hw=>by
 obtain⟨n,rfl⟩:∃m,n=m+1:=⟨n-1,by omega⟩
 exact h n ws hn hw⟩
theorem psI (h1:w.length+1<=8*x.sz:=by simp only[SZ,WL]at *;omega)(h:∀n ws,20*x.sz+20<=n+1->ws.length+8*x.sz<=500001->Z6 n (j6.fs n) x ws=some (ws++sp w):=by intro n ws hn hw;simp only[SZ]at hn hw;unfold Z6;exact prt):PS x w:=⟨h1,fun n ws hn hw=>by
 obtain⟨n,rfl⟩:∃m,n=m+1:=⟨n-1,by omega⟩
 exact h n ws hn hw⟩
theorem ptI (h1:w.length+1<=8*x.sz:=by simp only[SZ,WL]at *;omega)(h:∀n ws,20*x.sz+20<=n+1->ws.length+8*x.sz<=500001->I9 n (q9.fs n) x ws=some (ws++sp w):=by intro n ws hn hw;simp only[SZ]at hn hw;unfold I9;exact prt):PT x w:=⟨h1,fun n ws hn hw=>by
 obtain⟨n,rfl⟩:∃m,n=m+1:=⟨n-1,by omega⟩
 exact h n ws hn hw⟩
theorem px_tru :PX ⟨51,[],1,zT,[],[],a⟩ ([(9,[116,114,117,101])]):=by
 have R:=show ∀ws,U3 1 ws=j5 [[116,114,117,101]] ws from fun ws=>by unfold U3;rw[a0z rfl];simp only[NF];cases j5 [[116,114,117,101]] ws<;>rfl
 exact pxI
theorem px_fal :PX ⟨51,[],0,zT,[],[],a⟩ ([(9,[102,97,108,115,101])]):=by
 have R:=show ∀ws,U3 0 ws=j5 [[102,97,108,115,101]] ws from fun ws=>by unfold U3;rw[a1t (by omega)];simp only[NF];cases j5 [[102,97,108,115,101]] ws<;>rfl
 exact pxI
theorem px_text (hs:s.length<=20000):PX ⟨52,s,0,zT,[],[],a⟩ ([(4,s)]):=by
 have R:=And.intro (esc_v hs) (b6v hs 34 [34] (by simp));exact pxI
theorem px_name :PX ⟨54,s,0,zT,[],[],a⟩ ([(1,s)]):=by
 have R:=True.intro;exact pxI
theorem px_cons :PX ⟨61,s,0,zT,[],[],a⟩ ([(9,[99,111,110,115,117,109,101]),(1,s)]):=by
 have R:=True.intro;exact pxI
theorem px_lend (h:PX x w):PX ⟨62,[],0,zT,[],[x],a⟩ ((8,[38])::w):=by
 have h0:=h.1;have R:=h.2;exact pxI
theorem px_not (h:PX x w):PX ⟨65,[],0,zT,[],[x],a⟩ ((8,[33])::w):=by
 have h0:=h.1;have R:=h.2;exact pxI
theorem px_neg (h:PX x w):PX ⟨66,[],0,zT,[],[x],a⟩ ((8,[45])::w):=by
 have h0:=h.1;have R:=h.2;exact pxI
theorem px_bin (h:PX x w)(g:PX y v):PX ⟨64,s,0,zT,[],[x,y],a⟩ ((8,[40]) ::(w ++((8,s) ::(v++[(8,[41])])))):=by
 have h0:=h.1;have g0:=g.1;have R:=(And.intro h.2 g.2)
 exact pxI
theorem px_elist (h:V3 PX l vs):PX ⟨67,[],0,zT,[],l,a⟩ ((8,[91]) ::(jo vs++[(8,[93])])):=by
 have h0:=(c0T h).1;have R:=(c0T h).2;exact pxI
theorem pu_field (h:PX x w):PU ⟨55,s,0,zT,[],[x],a⟩ (rwd x w++[(8,[46]),(1,s)]):=by
 have h0:=(c0U h).1;have R:=(c0U h).2;exact puI
theorem pu_call (h:V3 PX l vs):PU ⟨56,s,0,zT,[],l,a⟩ ((1,s)::cw vs):=by
 have h0:=(a7l h).1;have R:=(a7l h).2;exact puI
theorem c7s (h:PX x w)(g:V3 PX l vs):PU ⟨57,s,0,zT,[],x::l,a⟩ (rwd x w ++((8,[46]) ::(1,s)::cw vs)):=by
 have h0:=(c0U h).1;have g0:=(a7l g).1;have R:=(And.intro (c0U h).2 (a7l g).2)
 exact puI
theorem pu_stat0 :PU ⟨58,s,0,t,[],[],a⟩ (W t++[(8,[46]),(1,s)]):=by
 have t0:=a4C t.sz t (Nat.le_refl _);have R:=True.intro;exact puI
theorem pu_stat1 (h:V3 PX l vs):PU ⟨58,s,1,t,[],l,a⟩ (W t ++((8,[46]) ::(1,s)::cw vs)):=by
 have t0:=a4C t.sz t (Nat.le_refl _);have h0:=(a7l h).1;have R:=(a7l h).2;exact puI
theorem pu_make (h:V3 PX l vs):PU ⟨59,[],0,t,[],l,a⟩ (W t++cw vs):=by
 have t0:=a4C t.sz t (Nat.le_refl _);have h0:=(a7l h).1;have R:=(a7l h).2;exact puI
theorem pu_apply (h:PX x w)(g:V3 PX l vs):PU ⟨60,[],0,zT,[],x::l,a⟩ ((8,[40]) ::(w ++((8,[41])::cw vs))):=by
 have h0:=h.1;have g0:=(a7l g).1;have R:=(And.intro h.2 (a7l g).2)
 exact puI
theorem b4h (ho:x.op=55∨x.op=56∨x.op=57∨x.op=58∨x.op=59∨x.op=60)(h:PU x w):PX x w:=by
 refine⟨h.1,fun n ws hn hw=>?_⟩;obtain⟨n,rfl⟩:∃m,n=m+1:=⟨n-1,by omega⟩
 have R:=fun ws g=>h.2 n ws (by omega) g;show O5 n (j6.fs n) _ ws=_;unfold O5;rcases ho with e|e|e|e|e|e<;>simp only[e]<;>exact prt
theorem ps_let0 (ht:t.kind≠0):PS ⟨21,s,1,t,[],[],a⟩ ((9,[118,97,114]) ::(1,s) ::(8,[58]) ::(W t++[(8,[59])])):=by
 have t0:=a4C t.sz t (Nat.le_refl _);have R:=And.intro ht (show ltB 0 ((([]:List Nod).length:Nat):Int)=false from a0C (by simp));exact psI
theorem ps_letu0 (h:PX x w):PS ⟨21,s,0,zT,[],[x],a⟩ ((9,[108,101,116]) ::(1,s) ::(8,[61]) ::(w++[(8,[59])])):=by
 have h0:=h.1;have R:=And.intro (show ltB 0 ((([x]:List Nod).length:Nat):Int)=true from X6 (by simp)) (And.intro (show idx' [x] 0=some x from a0k (l:=[x]) (i:=0) Nat.zero_lt_one) h.2);exact psI
theorem ps_lett0 (ht:t.kind≠0)(h:PX x w):PS ⟨21,s,0,t,[],[x],a⟩ ((9,[108,101,116]) ::(1,s) ::(8,[58]) ::(W t ++((8,[61]) ::(w++[(8,[59])])))):=by
 have t0:=a4C t.sz t (Nat.le_refl _);have h0:=h.1;have R:=And.intro ht (And.intro (show ltB 0 ((([x]:List Nod).length:Nat):Int)=true from X6 (by simp)) (And.intro (show idx' [x] 0=some x from a0k (l:=[x]) (i:=0) Nat.zero_lt_one) h.2));exact psI
theorem ps_letu1 (h:PX x w):PS ⟨21,s,1,zT,[],[x],a⟩ ((9,[118,97,114]) ::(1,s) ::(8,[61]) ::(w++[(8,[59])])):=by
 have h0:=h.1;have R:=And.intro (show ltB 0 ((([x]:List Nod).length:Nat):Int)=true from X6 (by simp)) (And.intro (show idx' [x] 0=some x from a0k (l:=[x]) (i:=0) Nat.zero_lt_one) h.2);exact psI
theorem ps_lett1 (ht:t.kind≠0)(h:PX x w):PS ⟨21,s,1,t,[],[x],a⟩ ((9,[118,97,114]) ::(1,s) ::(8,[58]) ::(W t ++((8,[61]) ::(w++[(8,[59])])))):=by
 have t0:=a4C t.sz t (Nat.le_refl _);have h0:=h.1;have R:=And.intro ht (And.intro (show ltB 0 ((([x]:List Nod).length:Nat):Int)=true from X6 (by simp)) (And.intro (show idx' [x] 0=some x from a0k (l:=[x]) (i:=0) Nat.zero_lt_one) h.2));exact psI
theorem c7r (h:PX x w)(g:PX y v):PS ⟨22,[],0,zT,[],[x,y],a⟩ (w ++((8,[61]) ::(v++[(8,[59])]))):=by
 have h0:=h.1;have g0:=g.1;have R:=(And.intro h.2 g.2)
 exact psI
theorem ps_sole (h:PX x w):PS ⟨23,[],0,zT,[],[x],a⟩ (w++[(8,[59])]):=by
 have h0:=h.1;have R:=h.2;exact psI
theorem ps_while (h:PX x w)(g:PB y v):PS ⟨25,[],0,zT,[],[x,y],a⟩ ((9,[119,104,105,108,101]) ::(w++v)):=by
 have h0:=h.1;have g0:=g.1;have R:=(And.intro h.2 g.2)
 exact psI
theorem ps_if2 (h:PX x w)(g:PB y v):PS ⟨24,[],0,zT,[],[x,y],a⟩ ((9,[105,102]) ::(w++v)):=by
 have h0:=h.1;have g0:=g.1;have R:=And.intro h.2 (And.intro g.2 (show ltB 2 ((([x,y]:List Nod).length:Nat):Int)=false from a0C (by simp)));exact psI
theorem ps_if3 (h:PX x w)(g:PB y v)(f:PB z u)(hz:z.op≠24):PS ⟨24,[],0,zT,[],[x,y,z],a⟩ ((9,[105,102]) ::(w ++(v ++((9,[101,108,115,101])::u)))):=by
 have h0:=h.1;have g0:=g.1;have f0:=f.1;have R:=And.intro h.2 (And.intro g.2 (And.intro (show ltB 2 ((([x,y,z]:List Nod).length:Nat):Int)=true from X6 (by simp)) (And.intro (show idx' [x,y,z] 2=some z from a0k (l:=[x,y,z]) (i:=2) (by simp)) (And.intro hz f.2))));exact psI
theorem ps_if4 (h:PX x w)(g:PB y v)(f:PS z u)(hz:z.op=24):PS ⟨24,[],0,zT,[],[x,y,z],a⟩ ((9,[105,102]) ::(w ++(v ++((9,[101,108,115,101])::u)))):=by
 have h0:=h.1;have g0:=g.1;have f0:=f.1;have R:=And.intro h.2 (And.intro g.2 (And.intro (show ltB 2 ((([x,y,z]:List Nod).length:Nat):Int)=true from X6 (by simp)) (And.intro (show idx' [x,y,z] 2=some z from a0k (l:=[x,y,z]) (i:=2) (by simp)) (And.intro hz f.2))));exact psI
theorem ps_ret0 :PS ⟨28,[],0,zT,[],[],a⟩ ([(9,[114,101,116,117,114,110]),(8,[59])]):=by
 have R:=show ltB 0 ((([]:List Nod).length:Nat):Int)=false from a0C (by simp);exact psI
theorem ps_ret1 (h:PX x w):PS ⟨28,[],0,zT,[],[x],a⟩ ((9,[114,101,116,117,114,110]) ::(w++[(8,[59])])):=by
 have h0:=h.1;have R:=And.intro (show ltB 0 ((([x]:List Nod).length:Nat):Int)=true from X6 (by simp)) (And.intro (show idx' [x] 0=some x from a0k (l:=[x]) (i:=0) Nat.zero_lt_one) h.2);exact psI
theorem ps_throw (h:PX x w):PS ⟨29,[],0,zT,[],[x],a⟩ ((9,[116,104,114,111,119]) ::(w++[(8,[59])])):=by
 have h0:=h.1;have R:=h.2;exact psI
theorem ps_do (h:PB x w)(g:PB y v):PS ⟨30,s,0,zT,[],[x,y],a⟩ ((9,[100,111]) ::(w ++((9,[99,97,116,99,104]) ::(1,s)::v))):=by
 have h0:=h.1;have g0:=g.1;have R:=(And.intro h.2 g.2)
 exact psI
theorem ps_defer (h:PB x w):PS ⟨31,[],0,zT,[],[x],a⟩ ((9,[100,101,102,101,114])::w):=by
 have h0:=h.1;have R:=h.2;exact psI
theorem pp_wild :PT ⟨40,[],0,zT,[],[],a⟩ ([(1,[95])]):=by
 have R:=True.intro;exact ptI
theorem pp_bind :PT ⟨41,s,0,zT,[],[],a⟩ ([(1,s)]):=by
 have R:=True.intro;exact ptI
theorem pp_tru :PT ⟨43,[],1,zT,[],[],a⟩ ([(9,[116,114,117,101])]):=by
 have R:=show ∀ws,U3 1 ws=j5 [[116,114,117,101]] ws from fun ws=>by unfold U3;rw[a0z rfl];simp only[NF];cases j5 [[116,114,117,101]] ws<;>rfl
 exact ptI
theorem pp_fal :PT ⟨43,[],0,zT,[],[],a⟩ ([(9,[102,97,108,115,101])]):=by
 have R:=show ∀ws,U3 0 ws=j5 [[102,97,108,115,101]] ws from fun ws=>by unfold U3;rw[a1t (by omega)];simp only[NF];cases j5 [[102,97,108,115,101]] ws<;>rfl
 exact ptI
theorem pp_text (hs:s.length<=20000):PT ⟨44,s,0,zT,[],[],a⟩ ([(4,s)]):=by
 have R:=And.intro (esc_v hs) (b6v hs 34 [34] (by simp));exact ptI
variable {a:Int} {vs:List (List WK)} {l:List Nod} {ws:List Str} {s:Str} {t:Typ}
theorem c6T (r:Str)(d:UInt8)(a:Nat):a1h (r++[d]) a=a1h r a*10+(d.toNat-48):=by simp[a1h,List.foldl_append]
theorem c5A:∀(k:Nat) (s:Str),s.length=k->s ≠ [] ->(∀b∈s,48<=b.toNat/\b.toNat<=57) ->(1<s.length ->(s.headD 0).toNat≠48)->Lib.decDigits (a1h s 0)=s/\((s.headD 0).toNat≠48->1<=a1h s 0)
 | 0,s,h,h0,_,_=>absurd (List.length_eq_zero_iff.1 h) h0
 | k+1,s,h,h0,hd,hz=>by
  rcases List.eq_nil_or_concat s with e |⟨r,d,e⟩
  ·exact absurd e h0
  ·rw[List.concat_eq_append]at e;subst e;have hd1:=hd d (by simp);have ed:UInt8.ofNat (48+(d.toNat-48))=d:=by
    rw[show 48+(d.toNat-48)=d.toNat by omega];exact UInt8.ofNat_toNat
   rw[c6T];cases r with
   | nil =>
    have e0:a1h [] 0*10+(d.toNat-48)=d.toNat-48:=by simp[a1h]
    rw[e0];refine⟨by rw[Lib.decDigits,dif_pos (by omega),ed];rfl,fun h=>?_⟩;have h:d.toNat≠48:=h;omega
   | cons b r =>
    have hz:=hz (by simp);have hz:b.toNat≠48:=hz;obtain⟨i1,i2⟩:=c5A k (b::r) (by simpa using h) (by simp) (fun c hc=>hd c (by simp at hc ⊢;rcases hc with hc|hc;exact .inl hc;exact .inr (.inl hc))) (fun _=>hz);have i2:=i2 hz;rw[Lib.decDigits,dif_neg (by omega),show(a1h (b::r) 0*10+(d.toNat-48))/10=a1h (b::r) 0 by omega,show(a1h (b::r) 0*10+(d.toNat-48))%10=d.toNat-48 by omega,i1,ed];exact⟨rfl,fun _=>by omega⟩
structure NumW (s:Str):Prop where
 dec:Lib.decDigits (a1h s 0)=s
 max:a1h s 0<=9223372036854775807
theorem numw_of (h:Sc.IntW s):NumW s:=by
 obtain⟨h1,h2,c,h3⟩:=h;have hb:=Sc.b4E ⟨h1,h2,c,h3⟩;refine⟨(c5A s.length s rfl h1 (fun b hb=>by
  have:=h2 b hb;simp only[Sc.U5,decide_eq_true_eq]at this;exact⟨this.1,this.2⟩) (fun hl e=>?_)).1,?_⟩
 ·unfold Sc.a4y at h3;simp only[Bool.or_eq_false_iff]at h3;have h4:=h3.1.1.1;rw[X6 (by omega),Bool.true_and]at h4;have h5:(s.getD 0 0).toNat=48:=by
   cases s with
   | nil=>exact absurd rfl h1
   | cons b r=>exact e
  rw[a0z (by rw[h5];rfl)]at h4;cases h4
 ·unfold b4x at hb;simp only[Bool.and_eq_true]at hb;have:=hb.2.2.2;exact Nat.le_of_ble_eq_true this
theorem num_v (h:NumW s)(hw:ws.length<=500001):a0c ((a1h s 0:Nat):Int) ws=some (ws++[s]):=by
 have hm:=h.max;have e1:b5M ((a1h s 0:Nat):Int)=some s:=by
  unfold b5M rngB;rw[decide_eq_true (by omega),decide_eq_true (by omega)];simp only[Bool.and_self];rw[Lib.itoa_nonneg,h.dec]
 unfold a0c;rw[e1,a0C (by omega)];simp only[NF];rw[b2T (by simp only[List.length_singleton];omega)];rfl
theorem num_neg (h:NumW s)(h1:1<=a1h s 0)(hw:ws.length<=500001):a0c (w64 (0-((a1h s 0:Nat):Int))) ws=some (ws++[[45],s]):=by
 have hm:=h.max;have e0:w64 (0-((a1h s 0:Nat):Int)) = -((a1h s 0:Nat):Int):=by rw[a4m (by omega) (by omega)];omega
 have e1:b5M (-((a1h s 0:Nat):Int))=some (45::s):=by
  unfold b5M rngB;rw[decide_eq_true (by omega),decide_eq_true (by omega)];simp only[Bool.and_self];rw[Lib.itoa_neg _ h1,h.dec]
 have e2:subS (45::s) 1 (((45::s:Str).length:Nat):Int)=some s:=by
  have h:inI ((1:Nat):Int) (((45::s:Str).length:Nat):Int) (45::s:Str).length=true:=by simp[inI];omega
  simp only[subS];rw[show inI 1 (((45::s:Str).length:Nat):Int) (45::s:Str).length=true from h];simp
 rw[e0];unfold a0c;rw[e1,X6 (by omega)];simp only[NF];rw[b2T (by simp only[List.length_singleton];omega)];simp only[NF,e2];rw[b2T (by simp only[List.length_append,List.length_singleton];omega)];simp
theorem num_zero (h:NumW s)(h1:a1h s 0=0)(hw:ws.length<=500001):a0c (w64 (0-((a1h s 0:Nat):Int))) ws=some (ws++[s]):=by
 have e:w64 (0-((a1h s 0:Nat):Int)) =((a1h s 0:Nat):Int):=by rw[h1];decide
 rw[e];exact num_v h hw
theorem px_int (h:NumW s):PX ⟨50,[],((a1h s 0:Nat):Int),zT,[],[],a⟩ [(3,s)]:=by
 refine⟨by simp only[SZ,WL];omega,fun n ws hn hw=>?_⟩;simp only[SZ]at hn hw;obtain⟨n,rfl⟩:∃m,n=m+1:=⟨n-1,by omega⟩
 have R:=fun(ws:List Str) (hw:ws.length<=500001)=>num_v h hw;show O5 n (j6.fs n) _ ws=_;unfold O5;exact prt
theorem pp_int (h:NumW s):PT ⟨42,[],((a1h s 0:Nat):Int),zT,[],[],a⟩ [(3,s)]:=by
 refine⟨by simp only[SZ,WL];omega,fun n ws hn hw=>?_⟩;simp only[SZ]at hn hw;obtain⟨n,rfl⟩:∃m,n=m+1:=⟨n-1,by omega⟩
 have R:=fun(ws:List Str) (hw:ws.length<=500001)=>num_v h hw;show I9 n (q9.fs n) _ ws=_;unfold I9;exact prt
theorem pp_neg (h:NumW s):PT ⟨42,[],w64 (0-((a1h s 0:Nat):Int)),zT,[],[],a⟩ (cond (decide (a1h s 0=0)) [(3,s)] [(8,[45]),(3,s)]):=by
 rcases Nat.eq_zero_or_pos (a1h s 0)with h0|h0
 ·rw[decide_eq_true h0];refine⟨by simp only[SZ,WL,NF];omega,fun n ws hn hw=>?_⟩;simp only[SZ]at hn hw;obtain⟨n,rfl⟩:∃m,n=m+1:=⟨n-1,by omega⟩
  have R:=fun(ws:List Str) (hw:ws.length<=500001)=>num_zero h h0 hw;show I9 n (q9.fs n) _ ws=_;unfold I9;exact prt
 ·rw[decide_eq_false (by omega)];refine⟨by simp only[SZ,WL,NF];omega,fun n ws hn hw=>?_⟩;simp only[SZ]at hn hw;obtain⟨n,rfl⟩:∃m,n=m+1:=⟨n-1,by omega⟩
  have R:=fun(ws:List Str) (hw:ws.length<=500001)=>num_neg h h0 hw;show I9 n (q9.fs n) _ ws=_;unfold I9;exact prt
theorem c6n (h:V3 PT l vs):(jo vs).length<=8*szN l /\ ∀n ws,20*szN l+30<=n->ws.length+8*szN l<=500000->szN l<=100000000 ->(q9.fs n).Y8 l ws=some (ws++sp (jo vs)):=by
 have hl:=a00 l;refine⟨(b4F (R:=PT) (c:=fun x=>8*x.sz) (S:=fun l=>8*szN l) rfl c8 (fun x w h=>h.1) h).1,fun n ws hn hw hz=>?_⟩;obtain⟨n,rfl⟩:∃m,n=m+1:=⟨n-1,by omega⟩
 exact lp_j (R:=PT) (c:=fun x=>8*x.sz) (S:=fun l=>8*szN l) c8 (fun x w h=>h.1) (L:=fun m i ws=>a10 n (q9.fs n) l m i ws) (by omega) (fun m i x w ws hx hR e1 e2 e3 e4 hb=>by
  have:=a1Q hx;have R:=hR.2 n;rw[a10.eq_2,e1,e2];rcases e4 with⟨rfl,e4⟩ |⟨hi,e4⟩
  ·have R:=And.intro (fun ws h=>R ws (by omega) h) (And.intro e4 e3);rw[if_pos rfl];exact prt
  ·have R:=And.intro (fun ws h=>R ws (by omega) h) (And.intro e4 e3);rw[if_neg (by omega)];exact prt) (fun m ws e=>by
  rw[a10.eq_2,e];rfl) h (by omega) hw
theorem pp_case0:PT ⟨45,s,0,zT,[],[],a⟩ [(8,[46]),(1,s)]:=by
 refine⟨by simp only[SZ,WL];omega,fun n ws hn hw=>?_⟩;simp only[SZ]at hn hw;obtain⟨n,rfl⟩:∃m,n=m+1:=⟨n-1,by omega⟩
 have R:=show ltB 0 ((([]:List Nod).length:Nat):Int)=false from a0C (by simp);show I9 n (q9.fs n) _ ws=_;unfold I9;exact prt
theorem pp_case1 (hl:l ≠ [])(h:V3 PT l vs):PT ⟨45,s,0,zT,[],l,a⟩ ((8,[46]) ::(1,s)::cw vs):=by
 have h0:=(c6n h).1;refine⟨by unfold cw;simp only[SZ,WL]at *;omega,fun n ws hn hw=>?_⟩;simp only[SZ]at hn hw;obtain⟨n,rfl⟩:∃m,n=m+1:=⟨n-1,by omega⟩
 have R:=And.intro (show ltB 0 ((l.length:Nat):Int)=true from X6 (by have:=List.length_pos_iff.2 hl;omega)) (fun ws q_=>(c6n h).2 n ws (by omega) q_ (by omega));show I9 n (q9.fs n) _ ws=_;unfold I9 cw;exact prt
theorem pb_block (h:V3 PS l vs):PB ⟨20,[],0,zT,[],l,a⟩ ((8,[123]) ::(vs.flatten++[(8,[125])])):=by
 have hl:=a00 l;have h0:=(b4F (R:=PS) (c:=fun x=>8*x.sz) (S:=fun l=>8*szN l) rfl c8 (fun x w h=>h.1) h).2;refine⟨by simp only[SZ,WL]at *;omega,fun n ws hn hw=>?_⟩;simp only[SZ]at hn hw;obtain⟨n,rfl⟩:∃m,n=m+1:=⟨n-1,by omega⟩
 have R:=fun(ws:List Str) (hw:ws.length+8*szN l<=500000)=>lp_f (R:=PS) (c:=fun x=>8*x.sz) (S:=fun l=>8*szN l) c8 (fun x w h=>h.1) (L:=fun m i ws=>a14 n (j6.fs n) ⟨20,[],0,zT,[],l,a⟩ m i ws) (fin:=some) (by omega) (fun m i x w ws hx hR e1 e2 e3 hb=>by
  have:=a1Q hx;have R:=hR.2 n;have R:=And.intro (fun ws h=>R ws (by omega) h) e3;rw[a14.eq_2,e1,e2];exact prt) (fun m ws e=>by
  rw[a14.eq_2,e];rfl) h (n:=n) (by omega) hw
 show a2j n (j6.fs n) _ ws=_;unfold a2j;exact prt
def PA (x:Nod)(w:List WK):Prop:=w.length+1<=8*x.sz /\ ∃p b u v a,x =⟨27,[],0,zT,[],[p,b],a⟩/\PT p u/\PB b v/\w =(9,[99,97,115,101]) ::(u++v)
theorem pa_arm {p b:Nod}{u v:List WK}(h:PT p u)(g:PB b v):PA ⟨27,[],0,zT,[],[p,b],a⟩ ((9,[99,97,115,101]) ::(u++v)):=by
 have h0:=h.1;have g0:=g.1;exact⟨by simp only[SZ,WL]at *;omega,p,b,u,v,a,rfl,h,g,rfl⟩
theorem ps_match {x:Nod}{w:List WK}(h:PX x w)(g:V3 PA l vs):PS ⟨26,[],0,zT,[],x::l,a⟩ ((9,[109,97,116,99,104]) ::(w ++((8,[123]) ::(vs.flatten++[(8,[125])])))):=by
 have hl:=a00 l;have h0:=h.1;have g0:=(b4F (R:=PA) (c:=fun x=>8*x.sz) (S:=fun l=>8*szN l) rfl c8 (fun x w h=>h.1) g).2;refine⟨by simp only[SZ,WL]at *;omega,fun n ws hn hw=>?_⟩;simp only[SZ]at hn hw;obtain⟨n,rfl⟩:∃m,n=m+1:=⟨n-1,by omega⟩
 have R:=And.intro (fun ws q_=>h.2 n ws (by omega) q_) (fun(ws:List Str) (hw:ws.length+8*szN l<=500000)=>lp_f (R:=PA) (c:=fun x=>8*x.sz) (S:=fun l=>8*szN l) c8 (fun x w h=>h.1) (L:=fun m i ws=>a0U n (j6.fs n) l m i ws) (fin:=some) (by omega) (fun m i x w ws hx hR e1 e2 e3 hb=>by
  have hz:=a1Q hx;obtain⟨_,p,b,u,v,a,rfl,k1,k2,rfl⟩:=hR;have l1:=k1.1;simp only[SZ]at hz hb;have R:=And.intro (fun ws q_=>show O6 n p ws=_ from k1.2 n ws (by omega) q_) (And.intro (fun ws q_=>k2.2 n ws (by omega) q_) e3);rw[a0U.eq_2,e1,e2];exact prt) (fun m ws e=>by
  rw[a0U.eq_2,e];rfl) g (n:=n) (by omega) hw)
 show Z6 n (j6.fs n) _ ws=_;unfold Z6;exact prt
theorem c7l:PM ⟨10,s,0,t,[],[],a⟩ ((1,s) ::(8,[58])::W t):=by
 have t0:=a4C t.sz t (Nat.le_refl _);refine⟨by simp only[SZ,WL]at *;omega,fun n ws hn hw=>?_⟩;simp only[SZ]at hn hw;have R:=True.intro;unfold a0x;exact prt
theorem c7m:PM ⟨10,s,1,t,[],[],a⟩ ((9,[105,110,111,117,116]) ::(1,s) ::(8,[58])::W t):=by
 have t0:=a4C t.sz t (Nat.le_refl _);refine⟨by simp only[SZ,WL]at *;omega,fun n ws hn hw=>?_⟩;simp only[SZ]at hn hw;have R:=True.intro;unfold a0x;exact prt
theorem c7n:PM ⟨10,s,2,t,[],[],a⟩ ((9,[99,111,110,115,117,109,101]) ::(1,s) ::(8,[58])::W t):=by
 have t0:=a4C t.sz t (Nat.le_refl _);refine⟨by simp only[SZ,WL]at *;omega,fun n ws hn hw=>?_⟩;simp only[SZ]at hn hw;have R:=True.intro;unfold a0x;exact prt
theorem b3o (h:V3 PM l vs):(cw vs).length<=8*szN l+2 /\ ∀n ws,20*szN l+40<=n->ws.length+8*szN l+4<=500000->szN l<=100000000->a1T n l ws=some (ws++sp (cw vs)):=by
 have hl:=a00 l;have h1:=(b4F (R:=PM) (c:=fun x=>8*x.sz) (S:=fun l=>8*szN l) rfl c8 (fun x w h=>h.1) h).1;refine⟨by unfold cw;simp only[WL];omega,fun n ws hn hw hz=>?_⟩;have R:=fun(ws:List Str) (hw:ws.length+8*szN l<=500000)=>lp_j (R:=PM) (c:=fun x=>8*x.sz) (S:=fun l=>8*szN l) c8 (fun x w h=>h.1) (L:=fun m i ws=>a1Y n l m i ws) (by omega) (fun m i x w ws hx hR e1 e2 e3 e4 hb=>by
  have:=a1Q hx;have R:=hR.2 n;rw[a1Y.eq_2,e1,e2];rcases e4 with⟨rfl,e4⟩ |⟨hi,e4⟩
  ·have R:=And.intro (fun ws h=>R ws (by omega) h) (And.intro e4 e3);rw[if_pos rfl];exact prt
  ·have R:=And.intro (fun ws h=>R ws (by omega) h) (And.intro e4 e3);rw[if_neg (by omega)];exact prt) (fun m ws e=>by
  rw[a1Y.eq_2,e];rfl) h (n:=n) (by omega) hw
 unfold a1T a4f cw;exact prt
def rsw (t:Typ):List WK:=cond (eqB t.kind 4) [] ((8,[45,62])::W t)
theorem rsw_v:(rsw t).length<=8*t.sz /\ ∀(n:Nat) (ws:List Str),3*t.sz+4<=n->ws.length+8*t.sz+1<=500000->a1U n t ws=some (ws++sp (rsw t)):=by
 have t0:=a4C t.sz t (Nat.le_refl _);unfold rsw a1U;cases h:eqB t.kind 4
 ·refine⟨by simp only[NF,WL];omega,fun n ws hn hw=>?_⟩;have R:=True.intro;exact prt
 ·refine⟨by simp only[NF,WL];omega,fun n ws hn hw=>?_⟩;have R:=True.intro;exact prt
theorem px_clos {ps ss:List Nod}{us:List (List WK)}{b:Int}(hp:∀x∈ps,x.op=10)(h:V3 PM ps us)(g:V3 PS ss vs):PX ⟨63,[],0,t,[],ps++[⟨20,[],0,zT,[],ss,b⟩],a⟩ ((8,[123]) ::(cw us ++(rsw t ++((9,[105,110]) ::(vs.flatten++[(8,[125])]))))):=by
 have hlp:=a00 ps;have hls:=a00 ss;have h0:=(b3o h).1;have r0:=(rsw_v (t:=t)).1;have g0:=(b4F (R:=PS) (c:=fun x=>8*x.sz) (S:=fun l=>8*szN l) rfl c8 (fun x w h=>h.1) g).2;refine⟨by simp only[SZ,WL]at *;omega,fun n ws hn hw=>?_⟩;simp only[SZ]at hn hw;obtain⟨n,rfl⟩:∃m,n=m+2:=⟨n-2,by omega⟩
 obtain⟨q,rfl⟩:∃q,n=q+2:=⟨n-2,by omega⟩
 have hlen:(ps++[(⟨20,[],0,zT,[],ss,b⟩:Nod)]).length=ps.length+1:=by simp
 have f1:(ps++[(⟨20,[],0,zT,[],ss,b⟩:Nod)]).filter (fun y=>eqB y.op 10)=ps:=by
  rw[List.filter_append,List.filter_eq_self.2 fun x hx=>a0z (hp x hx),List.filter_cons,if_neg (by rw[a1t (by simp)];simp)];simp
 have f2:(ps++[(⟨20,[],0,zT,[],ss,b⟩:Nod)]).filter (fun y=>eqB y.op 20)=[⟨20,[],0,zT,[],ss,b⟩]:=by
  rw[List.filter_append,List.filter_eq_nil_iff.2 fun x hx=>by rw[a1t (by rw[hp x hx];decide)];simp,List.filter_cons,if_pos (a0z rfl)];simp
 have o1:=ofs (n:=q+2) (x:=⟨63,[],0,t,[],ps++[⟨20,[],0,zT,[],ss,b⟩],a⟩) (o:=10) (by simp only[hlen];omega) (by simp only[hlen];omega);have o2:=ofs (n:=q+2) (x:=⟨63,[],0,t,[],ps++[⟨20,[],0,zT,[],ss,b⟩],a⟩) (o:=20) (by simp only[hlen];omega) (by simp only[hlen];omega);simp only[f1,f2]at o1 o2;have L9:=fun(ws:List Str) (hw:ws.length+8*szN ss<=500000)=>lp_f (R:=PS) (c:=fun x=>8*x.sz) (S:=fun l=>8*szN l) c8 (fun x w h=>h.1) (L:=fun m i ws=>a1z (q+2) (j6.fs (q+2)) ⟨20,[],0,zT,[],ss,b⟩ m 0 i ws) (fin:=fun ws=>some (0,ws)) (by omega) (fun m i x w ws hx hR e1 e2 e3 hb=>by
  have:=a1Q hx;have R:=hR.2 (q+2);have R:=And.intro (fun ws h=>R ws (by omega) h) e3;rw[a1z.eq_2,e1,e2];exact prt) (fun m ws e=>by
  rw[a1z.eq_2,e];rfl) g (n:=q+2) (by omega) hw
 have L6:∀(ws:List Str),ws.length+8*szN ss<=500000->a1y (q+2) (j6.fs (q+2)) [⟨20,[],0,zT,[],ss,b⟩] (q+2) 0 ws=some (ws++sp vs.flatten):=fun ws hw=>by
  rw[a1y.eq_2,show ltB 0 ((([(⟨20,[],0,zT,[],ss,b⟩:Nod)]:List Nod).length:Nat):Int)=true from X6 (by simp),show idx' [(⟨20,[],0,zT,[],ss,b⟩:Nod)] 0=some ⟨20,[],0,zT,[],ss,b⟩from a0k (l:=[_]) (i:=0) Nat.zero_lt_one];simp only[NF,L9 ws hw];rw[show w64 (0+1)=1 by decide,a1y.eq_2,show ltB 1 ((([(⟨20,[],0,zT,[],ss,b⟩:Nod)]:List Nod).length:Nat):Int)=false from a0C (by simp)];rfl
 have R:=And.intro o1 (And.intro o2 (And.intro (fun ws q_=>(b3o h).2 (q+2) ws (by omega) q_ (by omega)) (And.intro (fun ws q_=>(rsw_v (t:=t)).2 (q+2) ws (by omega) q_) L6)));have hc:a1P (q+2) (j6.fs (q+2)) ⟨63,[],0,t,[],ps++[⟨20,[],0,zT,[],ss,b⟩],a⟩ ws=some (ws++sp ((8,[123]) ::(cw us ++(rsw t ++((9,[105,110]) ::(vs.flatten++[(8,[125])])))))):=by
  unfold a1P;exact prt
 show O5 (q+3) (j6.fs (q+3)) _ ws=_;have R:(j6.fs (q+3)).V6 ⟨63,[],0,t,[],ps++[⟨20,[],0,zT,[],ss,b⟩],a⟩ ws=_:=hc;unfold O5;simp only[a9m,Int.reduceEq,decide_true,decide_false,NF];rw[R];rfl
variable {vs:List (List WK×Str)} {ps:List (Nod×Nod)}
def iw:List (List WK×Str)->List WK | []=>[] | [p]=>p.1++[(7,p.2)]|p::q::r=>p.1 ++((6,p.2)::iw (q::r))
def PI (p:Nod×Nod)(v:List WK×Str):Prop:=PX p.1 v.1/\(∃a,p.2 =⟨52,v.2,0,zT,[],[],a⟩)/\v.2.length<=20000
theorem c0n:∀l:List (Nod×Nod),(fl l).length=2*l.length
 | []=>rfl
 | p::r=>by rw[fl,List.length_cons,List.length_cons,c0n r,List.length_cons];omega
theorem iw_len (h:V3 PI ps vs):(iw vs).length<=8*szN (fl ps):=by
 induction h with
 | nil=>simp[iw]
 | @cons p v ps vs h1 h2 ih =>
  obtain⟨⟨k1,_⟩,⟨a,k2⟩,_⟩:=h1;have h3:p.2.sz=2:=by rw[k2];rfl
  rw[fl,a4V,a4V,h3];cases vs with
  | nil=>simp only[iw,WL];omega
  | cons q r=>simp only[iw,WL];omega
theorem tmod_n (k:Nat):Int.tmod (k:Int) 2 =((k%2:Nat):Int):=rfl
theorem c68 {n:Nat}{x:Nod}(hz:szN x.l<=1000000)(hn:20*szN x.l+20<=n):∀{ps:List (Nod×Nod)} {vs:List (List WK×Str)},V3 PI ps vs -> ∀(pre:List Nod) (m:Nat) (ws:List Str),x.l=pre++fl ps->pre.length%2=1->2*ps.length<m->ws.length+8*szN (fl ps)<=500000->U9 n (j6.fs n) x m pre.length ws=some (ws++sp (iw vs)):=by
 have hlx:=a00 x.l;intro ps vs h;induction h with
 | nil =>
  intro pre m ws e h1 h2 h3;obtain⟨m,rfl⟩:∃q,m=q+1:=⟨m-1,by simp only[List.length_nil]at h2;omega⟩
  rw[U9.eq_2,a0C (by rw[e];simp[fl])];simp[NF,iw,sp]
 | @cons p v ps vs g1 g2 ih =>
  intro pre m ws e h1 h2 h3;obtain⟨k1,⟨a,k2⟩,k3⟩:=g1;obtain⟨p1,p2⟩:=p;obtain⟨w,s⟩:=v;simp only at k1 k2 k3;subst k2;simp only[List.length_cons]at h2;obtain⟨m,rfl⟩:∃q,m=q+2:=⟨m-2,by omega⟩
  have hL:x.l.length=pre.length+2+(fl ps).length:=by rw[e];simp[fl];omega
  have hf:=c0n ps;have hm:p1.sz<=szN x.l:=a1Q (by rw[e];simp[fl]);have e0:idx' x.l (pre.length:Int)=some p1:=by rw[a0k (by omega)];simp only[e];simp[fl]
  have e1:idx' x.l ((pre.length+1:Nat):Int)=some ⟨52,s,0,zT,[],[],a⟩:=by rw[a0k (by omega)];simp only[e];simp[fl]
  rw[fl,a4V,a4V]at h3;have h3:ws.length+8*(p1.sz+((⟨52,s,0,zT,[],[],a⟩:Nod).sz+szN (fl ps)))<=500000:=h3;have h4:(⟨52,s,0,zT,[],[],a⟩:Nod).sz=2:=rfl;rw[h4]at h3;have k5:=k1.1;have hq:=b6v k3;have ih:=ih (pre++[p1,⟨52,s,0,zT,[],[],a⟩]) m (ws++sp w++[if ps=[]then 41 ::(Rp.esc s++[34])else 41 ::(Rp.esc s++[92,40])]) (by rw[e];simp[fl]) (by simp only[List.length_append,List.length_cons,List.length_nil];omega) (by omega) (by
   simp only[WL];omega)
  have e2:((pre++[p1,(⟨52,s,0,zT,[],[],a⟩:Nod)]).length:Int) =((pre.length+2:Nat):Int):=by simp
  rw[e2]at ih;have z2:(!eqB 2 0)=true:=by rw[a1t (by decide)];rfl
  have t1:eqB (Int.tmod (pre.length:Int) 2) 1=true:=by rw[tmod_n,h1];exact a0z rfl
  have t2:eqB (Int.tmod ((pre.length+1:Nat):Int) 2) 1=false:=by rw[tmod_n,show(pre.length+1)%2=0 by omega];exact a1t (by decide)
  have t3:eqB ((pre.length+1:Nat):Int) 0=false:=a1t (by omega);have t5:w64 ((x.l.length:Int)-1) =((x.l.length-1:Nat):Int):=by rw[a4m (by omega) (by omega)];omega
  have R:=k1.2 n ws (by omega) (by omega);rw[U9.eq_2,X6 (by omega),e0];simp only[NF,z2,gdO,t1,R,H6 (show pre.length<=1000000000000 by omega)];rw[U9.eq_2,X6 (by omega),e1];simp only[NF,z2,gdO,t2,t3,t5,esc_v k3,H6 (show pre.length+1<=1000000000000 by omega)];cases g2 with
  | nil =>
   rw[if_pos rfl]at ih;have t4:eqB ((pre.length+1:Nat):Int) ((x.l.length-1:Nat):Int)=true:=a0z (by simp only[fl,List.length_nil]at hL;omega);simp only[t4,NF,(hq 41 [34] (by simp)).1,(hq 41 [34] (by simp)).2];rw[b2T (by simp only[WL];omega)];simp only[NF];rw[ih];simp[iw,sp,SPQ,SPL]
  | @cons q u qs us g3 g4 =>
   rw[if_neg (by simp)]at ih;have t4:eqB ((pre.length+1:Nat):Int) ((x.l.length-1:Nat):Int)=false:=a1t (by
    have:0<(fl (q::qs)).length:=by rw[hf];simp
    omega)
   simp only[t4,NF,(hq 41 [92,40] (by simp)).1,(hq 41 [92,40] (by simp)).2];rw[b2T (by simp only[WL];omega)];simp only[NF];rw[ih];simp[iw,sp,SPQ,SPL]
theorem c7u {s:Str}{a b:Int}(hs:s.length<=20000)(hp:ps ≠ [])(h:V3 PI ps vs):PX ⟨53,[],0,zT,[],⟨52,s,0,zT,[],[],b⟩::fl ps,a⟩ ((5,s)::iw vs):=by
 have hl:=iw_len h;have h2:(⟨52,s,0,zT,[],[],b⟩:Nod).sz=2:=rfl;have hf:=c0n ps;have hq:=b6v hs 34 [92,40] (by simp);have hpl:0<ps.length:=List.length_pos_iff.2 hp;refine⟨by simp only[SZ,WL]at *;omega,fun n ws hn hw=>?_⟩;rw[nsz,a4V,h2]at hn hw;simp only[SZ]at hn hw;obtain⟨n,rfl⟩:∃m,n=m+2:=⟨n-2,by omega⟩
 obtain⟨q,rfl⟩:∃q,n=q+1:=⟨n-1,by omega⟩
 have hx:szN (⟨52,s,0,zT,[],[],b⟩::fl ps)=2+szN (fl ps):=by rw[a4V,h2]
 have hfl:=a00 (fl ps);have ih:=c68 (n:=q+1) (x:=⟨53,[],0,zT,[],⟨52,s,0,zT,[],[],b⟩::fl ps,a⟩) (by simp only[hx];omega) (by simp only[hx];omega) h [⟨52,s,0,zT,[],[],b⟩] q (ws++[34 ::(Rp.esc s++[92,40])]) rfl rfl (by omega) (by simp only[WL];omega);have R:(j6.fs (q+2)).X9 ⟨53,[],0,zT,[],⟨52,s,0,zT,[],[],b⟩::fl ps,a⟩ ws=some (ws++sp ((5,s)::iw vs)):=by
  show U9 (q+1) (j6.fs (q+1)) _ (q+1) 0 ws=_;rw[U9.eq_2,X6 (by simp only[List.length_cons];omega)];have e0:idx' (⟨52,s,0,zT,[],[],b⟩::fl ps) 0=some ⟨52,s,0,zT,[],[],b⟩:=a0k (l:=⟨52,s,0,zT,[],[],b⟩::fl ps) (i:=0) (Nat.succ_pos _);have z2:(!eqB 2 0)=true:=by rw[a1t (by decide)];rfl
  have t1:eqB (Int.tmod 0 2) 1=false:=a1t (by decide);have t0:eqB 0 0=true:=a0z rfl;simp only[NF,e0,z2,gdO,t1,t0,esc_v hs,hq.1,hq.2,show w64 (0+1)=1 by decide];rw[b2T (by simp only[WL];omega)];simp only[NF];have ih:U9 (q+1) (j6.fs (q+1)) _ q 1 _=_:=ih;rw[ih];simp[sp,SPQ,SPL]
 show O5 (q+2) (j6.fs (q+2)) _ ws=_;unfold O5;simp only[a9m,Int.reduceEq,decide_true,decide_false,NF];rw[R];rfl
end Go.Proofs.YtjhfloacokgdiaaGreatDoor
