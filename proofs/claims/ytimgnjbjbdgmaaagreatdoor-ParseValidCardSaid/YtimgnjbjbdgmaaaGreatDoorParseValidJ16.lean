/- Texts of ParseValid, joined. -/
import Derived.Test.YtimgnjbjbdgmaaaGreatDoorParseValidJ15
set_option maxRecDepth 100000
set_option maxHeartbeats 20000000
set_option linter.all false
namespace Go.Proofs.YtimgnjbjbdgmaaaGreatDoor
open Go Go.Vm
variable {α:Type} {b kind kind':Int} {fs gs ps rs xs:List Nod} {m y:List α} {i:Nat} {e x:Nod} {u:Str} {t:Typ}
theorem a1i {a:Int}(h1:-9223372036854775808<=a)(h2:a<=9223372036854775807):w64 a=a:=by
 unfold w64;simp only[IntKind.wrap,IntKind.bits,IntKind.signed];simp;omega
theorem S9 {k:Nat}(h:k<=1000000000000):w64 ((k:Int)+1) =((k+1:Nat):Int):=by rw[a1i zOm zOm];rfl
theorem a04 {a:Int}(h:a<b):ltB a b=true:=by simp[ltB,h]
theorem a2e {a:Int}(h:¬a<b):ltB a b=false:=by simp[ltB,h]
theorem b8y {a:Int}(h:a<=b):leB a b=true:=by simp[leB,h]
theorem c0q {a:Int}(h:¬a<=b):leB a b=false:=by simp[leB,h]
theorem a5M (a b:Int):eqB a b=decide (a=b):=by unfold eqB;rfl
theorem a5O {a:Int}(h:a=b):eqB a b=true:=by simp[eqB,h]
theorem a5N {a:Int}(h:¬a=b):eqB a b=false:=by simp[eqB,h]
theorem a9d (s:Str):eqS s s=true:=by simp[eqS]
theorem eqS_cons (a:UInt8)(r:Str):eqS (a::r) []=false:=by simp[eqS]
theorem a1h {l:List α}(h:i<l.length):idx' l (i:Int)=some l[i]:=by
 have h1:inR (i:Int) l.length=true:=by simp[inR,h]
 simp[idx',h1,h]
theorem app_ok {b:Nat}{l:List α}(h:(l.length+m.length)*(b+1)<=70368744177664):app b l m=some (l++m):=by
 unfold app leN;rw[decide_eq_true h]
theorem drop_eq {l:List α}(h:i<l.length):l.drop i=l[i]::l.drop (i+1):=List.drop_eq_getElem_cons h
def bS {α ρ β:Type}(x:Option (Lr α ρ))(f:α->Option β)(o:ρ->Option β):Option β:=match x with
 | none=>none
 | some (.brk a)=>f a
 | some (.out r)=>o r
theorem c3i (a:UInt8)(r:Str):eqS [] (a::r)=false:=by simp[eqS]
theorem b7Y {b:Nat}{l:List α}(hl:l.length<=100000)(hm:m.length<=100000)(hb:b<=1000):app b l m=some (l++m):=by
 refine app_ok ?_;have:(l.length+m.length)*(b+1)<=200000*1001:=Nat.mul_le_mul zOm zOm;omega
theorem b96 (t:Typ):(⟨t.kind,t.name,t.n,t.args⟩:Typ)=t:=by cases t;rfl
def kindOf (s:Str)(a:List Typ):Int :=cond (eqB (List.length a:Int) 0&&eqS s [73,110,116]) 1 (cond (eqB (List.length a:Int) 0&&eqS s [66,111,111,108]) 2 (cond (eqB (List.length a:Int) 0&&eqS s [84,101,120,116]) 3 (cond (eqB (List.length a:Int) 0&&eqS s [85,110,105,116]) 4 (cond (eqB (List.length a:Int) 1&&eqS s [65,114,114,97,121]) 5 (cond (eqB (List.length a:Int) 1&&eqS s [87,101,97,107]) 11 6)))))
def b6V (s:Str)(a:List Typ):Typ:=⟨kindOf s a,cond (!eqB (kindOf s a) 6) [] s,0,a⟩
theorem b8S (s:Str)(a:List Typ):a9j s a=some (b6V s a):=by
 unfold a9j b6V kindOf;rcases a with _ |⟨x,_ |⟨y,r⟩⟩
 ·rw[show eqB (List.length ([]:List Typ):Int) 0=true from a5O rfl,show eqB (List.length ([]:List Typ):Int) 1=false from a5N zSi,show ltB 0 (List.length ([]:List Typ):Int)=false from a2e zSi];cases eqS s [73,110,116]<;>cases eqS s [66,111,111,108]<;>cases eqS s [84,101,120,116]<;>cases eqS s [85,110,105,116]<;>simp[T9,eqB]
 ·rw[show eqB (List.length [x]:Int) 0=false from a5N zSi,show eqB (List.length [x]:Int) 1=true from a5O zSi,show ltB 0 (List.length [x]:Int)=true from a04 zSi];cases h1:eqS s [65,114,114,97,121]<;>cases h2:eqS s [87,101,97,107]<;>simp[T9,eqB]
 rw[show eqB (List.length (x::y::r):Int) 0=false from a5N (by simp;omega),show eqB (List.length (x::y::r):Int) 1=false from a5N (by simp;omega),show ltB 0 (List.length (x::y::r):Int)=true from a04 (by simp;omega)];simp[T9,eqB]
theorem eqS_d (a b:Str):eqS a b=decide (a=b):=by rw[Bool.eq_iff_iff];simp[eqS]
mutual
def Typ.sz:Typ->Nat
 |⟨_,_,_,a⟩=>1+szT a
def szT:List Typ->Nat
 | []=>0
 | x::r=>x.sz+szT r
end
theorem tsz (k:Int)(s:Str)(n:Int)(a:List Typ):(⟨k,s,n,a⟩:Typ).sz=1+szT a:=rfl
theorem Typ.H8 (x:Typ):x.sz=1+szT x.args:=by cases x;rfl
theorem b38:szT []=0:=rfl
theorem b52 (x:Typ)(r:List Typ):szT (x::r)=x.sz+szT r:=rfl
theorem b0j:∀a b:List Typ,szT (a++b)=szT a+szT b
 | [],b=>by simp[szT]
 | x::a,b=>by rw[List.cons_append,szT,szT,b0j a b];omega
theorem a6b:∀l:List Typ,l.length<=szT l
 | []=>Nat.le_refl _
 | x::r=>by have:=a6b r;have:=x.H8;simp only[szT,List.length_cons];omega
theorem a2I {x:Typ}:∀{l:List Typ},x∈l->x.sz<=szT l
 | y::r,h=>by
  simp only[szT];rcases List.mem_cons.1 h with rfl|h
  ·omega
  have:=a2I h;omega
mutual
def Nod.sz:Nod->Nat
 |⟨_,_,_,t,ts,l,_⟩=>1+t.sz+szT ts+szN l
def szN:List Nod->Nat
 | []=>0
 | x::r=>x.sz+szN r
end
theorem nsz (o:Int)(s:Str)(n:Int)(t:Typ)(ts:List Typ)(l:List Nod)(a:Int):(⟨o,s,n,t,ts,l,a⟩:Nod).sz=1+t.sz+szT ts+szN l:=rfl
theorem Nod.H8 (x:Nod):x.sz=1+x.t.sz+szT x.ts+szN x.l:=by cases x;rfl
theorem Nod.sz2 (x:Nod):2<=x.sz:=by have:=x.H8;have:=x.t.H8;omega
theorem c2r:szN []=0:=rfl
theorem b1G (x:Nod)(r:List Nod):szN (x::r)=x.sz+szN r:=rfl
theorem a8V:∀a b:List Nod,szN (a++b)=szN a+szN b
 | [],b=>by simp[szN]
 | x::a,b=>by rw[List.cons_append,szN,szN,a8V a b];omega
theorem I8:∀l:List Nod,l.length<=szN l
 | []=>Nat.le_refl _
 | x::r=>by have:=I8 r;have:=x.sz2;simp only[szN,List.length_cons];omega
theorem a0L {x:Nod}:∀{l:List Nod},x∈l->x.sz<=szN l
 | y::r,h=>by
  simp only[szN];rcases List.mem_cons.1 h with rfl|h
  ·omega
  have:=a0L h;omega
theorem SZ:(∀(o:Int) (s:Str) (n:Int) (t:Typ) (ts:List Typ) (l:List Nod) (a:Int),(⟨o,s,n,t,ts,l,a⟩:Nod).sz=1+t.sz+szT ts+szN l)/\szN []=0/\(∀(x:Nod) (r:List Nod),szN (x::r)=x.sz+szN r)/\(∀a b:List Nod,szN (a++b)=szN a+szN b)/\szT []=0/\(∀(x:Typ) (r:List Typ),szT (x::r)=x.sz+szT r)/\(∀a b:List Typ,szT (a++b)=szT a+szT b)/\(∀(k:Int) (s:Str) (n:Int) (a:List Typ),(⟨k,s,n,a⟩:Typ).sz=1+szT a)/\(∀(s:Str) (a:List Typ),(b6V s a).sz<=1+szT a->True):=⟨nsz,c2r,b1G,a8V,b38,b52,b0j,tsz,fun _ _ _=>trivial⟩
theorem baseT_sz (s:Str)(a:List Typ):(b6V s a).sz<=1+szT a:=Nat.le_refl _
def a4z (l:List Tok)(k:Nat):Tok:=(l[k]?).getD ⟨0,[],0,0⟩
def isK (l:List Tok)(kind:Int)(k:Nat):Bool:=decide (k<l.length)&&eqB (a4z l k).kind kind
def isT (l:List Tok)(kind:Int)(s:Str)(k:Nat):Bool:=isK l kind k&&eqS (a4z l k).text s
def a2z (l:List Tok)(size:Int)(k:Nat):Int:=cond (decide (k<l.length)) (a4z l k).at_ size
theorem a8N {l:List Tok}{k:Nat}(h:isK l kind k=true):k<l.length:=by
 unfold isK at h;rw[Bool.and_eq_true]at h;exact of_decide_eq_true h.1
theorem b1T {l:List Tok}{s:Str}{k:Nat}(h:isT l kind s k=true):isK l kind k=true:=by
 unfold isT at h;rw[Bool.and_eq_true]at h;exact h.1
theorem a8i {l:List Tok}{s:Str}{k:Nat}(h:isT l kind s k=true):k<l.length:=a8N (b1T h)
theorem c5P {l:List Tok}{s:Str}{k:Nat}(h:isT l kind s k=true):(a4z l k).text=s:=by
 unfold isT at h;rw[Bool.and_eq_true,eqS_d]at h;exact of_decide_eq_true h.2
theorem c5M {l:List Tok}{k:Nat}(h:isK l kind k=true)(hn:kind≠kind'):isK l kind' k=false:=by
 unfold isK at h ⊢;rw[Bool.and_eq_true,a5M]at h;rw[a5N (by rw[of_decide_eq_true h.2];exact hn),Bool.and_false]
theorem isK_kd {l:List Tok}{s:Str}{k:Nat}(h:isT l kind s k=true)(hn:kind≠kind'):isK l kind' k=false:=c5M (b1T h) hn
theorem isT_kk {l:List Tok}{s:Str}{k:Nat}(h:isK l kind k=true)(hn:kind≠kind'):isT l kind' s k=false:=by unfold isT;rw[c5M h hn,Bool.false_and]
theorem isT_kd {l:List Tok}{s:Str}{k:Nat}(h:isT l kind s k=true)(hn:kind≠kind'):isT l kind' u k=false:=isT_kk (b1T h) hn
theorem isT_ne {l:List Tok}{s:Str}{k:Nat}(h:isT l kind s k=true)(hn:s≠u):isT l kind u k=false:=by
 have h2:=c5P h;unfold isT;rw[h2,eqS_d,decide_eq_false hn,Bool.and_false]
theorem c1B {l:List Tok}{k:Nat}(h:isK l kind k=true)(h2:isT l kind u k=false):(a4z l k).text≠u:=fun e=>by
 unfold isT at h2;rw[h,e,a9d]at h2;cases h2
theorem a5t {l:List Tok}{k:Nat}(h:k<l.length):idx' l (k:Int)=some (a4z l k):=by
 rw[a1h h];unfold a4z;rw[List.getElem?_eq_getElem h];rfl
section
variable {l:List Tok} (hl:l.length<=3000) {k:Nat} (hk:k<=l.length) {size:Int}
include hl hk
theorem c5K:a2Q l k size=some (a2z l size k):=by
 unfold a2Q a2z;rcases Nat.lt_or_ge k l.length with h|h
 ·rw[a04 zOm,cond_true,a5t h,decide_eq_true h];rfl
 rw[a2e zOm,decide_eq_false zOm];rfl
theorem is_v {a:UInt8}{r:Str}:F3 0 kind (a::r) l k size=some (isT l kind (a::r) k):=by
 unfold F3 isT isK;rw[Int.add_zero,a1i zOm zOm];rcases Nat.lt_or_ge k l.length with h|h
 ·rw[c0q zOm,cond_false,a5t h,Option.bind_some,eqS_cons,decide_eq_true h];cases eqB (a4z l k).kind kind<;>simp
 rw[b8y zOm,cond_true,decide_eq_false zOm];rfl
theorem isK_v:F3 0 kind [] l k size=some (isK l kind k):=by
 unfold F3 isK;rw[Int.add_zero,a1i zOm zOm];rcases Nat.lt_or_ge k l.length with h|h
 ·rw[c0q zOm,cond_false,a5t h,Option.bind_some,a9d,decide_eq_true h];cases eqB (a4z l k).kind kind<;>simp
 rw[b8y zOm,cond_true,decide_eq_false zOm];rfl
theorem is1_v:F3 1 kind [] l k size=some (isK l kind (k+1)):=by
 unfold F3 isK;rw[S9 zOm];rcases Nat.lt_or_ge (k+1) l.length with h|h
 ·rw[c0q zOm,cond_false,a5t h,Option.bind_some,a9d,decide_eq_true h];cases eqB (a4z l (k+1)).kind kind<;>simp
 rw[b8y zOm,cond_true,decide_eq_false zOm];rfl
theorem b43 {a:UInt8}{r:Str}:D7 (a::r) l k size=some (cond (isT l 8 (a::r) k) (true,((k+1:Nat):Int)) (false,(k:Int))):=by
 unfold D7;rw[is_v hl hk,Option.bind_some,S9 zOm];cases isT l 8 (a::r) k<;>rfl
theorem key_v {a:UInt8}{r:Str}:J5 (a::r) l k size=some (cond (isT l 9 (a::r) k) (true,((k+1:Nat):Int)) (false,(k:Int))):=by
 unfold J5;rw[is_v hl hk,Option.bind_some,S9 zOm];cases isT l 9 (a::r) k<;>rfl
theorem c5D:a2P l k size=some (.pan (a2z l size k)):=by unfold a2P;rw[c5K hl hk];rfl
theorem want_v {a:UInt8}{r:Str}:C9 (a::r) l k size=cond (isT l 8 (a::r) k) (some (.ok ((k+1:Nat):Int))) (some (.pan (a2z l size k,(k:Int)))):=by
 unfold C9;rw[b43 hl hk];cases isT l 8 (a::r) k
 ·simp only[cond_false,Option.bind_some,Bool.not_false,cond_true];rw[c5D hl hk];rfl
 rfl
theorem c9d {a:UInt8}{r:Str}:N8 (a::r) l k size=cond (isT l 9 (a::r) k) (some (.ok ((k+1:Nat):Int))) (some (.pan (a2z l size k,(k:Int)))):=by
 unfold N8;rw[key_v hl hk];cases isT l 9 (a::r) k
 ·simp only[cond_false,Option.bind_some,Bool.not_false,cond_true];rw[c5D hl hk];rfl
 rfl
theorem b7Q:U5 kind l k size=cond (isK l kind k) (some (.ok (a4z l k))) (some (.pan (a2z l size k))):=by
 unfold U5;rw[isK_v hl hk,Option.bind_some];cases hb:isK l kind k
 ·simp only[Bool.not_false,cond_true,cond_false];rw[c5D hl hk];rfl
 simp only[Bool.not_true,cond_true,cond_false];rw[a5t (a8N hb)];rfl
theorem name_v:M5 l k size=cond (isK l 1 k) (some (.ok (a4z l k).text)) (some (.pan (a2z l size k))):=by
 unfold M5;rw[b7Q hl hk];cases isK l 1 k<;>rfl
theorem cap_v:J8 l k size=cond (isK l 2 k) (some (.ok (a4z l k).text)) (some (.pan (a2z l size k))):=by
 unfold J8;rw[b7Q hl hk];cases isK l 2 k<;>rfl
theorem int_v:a0N l k size=cond (isK l 3 k) ((atoi (a4z l k).text).bind fun v=>some (.ok v)) (some (.pan (a2z l size k))):=by
 unfold a0N;rw[b7Q hl hk];cases isK l 3 k<;>rfl
end
section
variable {l:List Tok} (hl:l.length<=3000) {k:Nat} (hk:k<=l.length) {size pl kd:Int} {s:Str}
include hl hk
theorem c2l:G9 kd s l size k pl=some (isT l kd s k):=by
 unfold G9 isT isK;rcases Nat.lt_or_ge k l.length with h|h
 ·rw[a04 zOm,cond_true,a5t h,decide_eq_true h];simp only[Option.bind_some,Bool.true_and];cases eqB (a4z l k).kind kd<;>rfl
 rw[a2e zOm,decide_eq_false zOm];rfl
theorem c7R:a4t kd s l size k pl=some (cond (isT l kd s k) (true,((k+1:Nat):Int)) (false,(k:Int))):=by
 unfold a4t;rw[c2l hl hk,Option.bind_some,S9 zOm];cases isT l kd s k<;>rfl
theorem rsign_v:p9 s l size k pl=some (cond (isT l 8 s k) (true,((k+1:Nat):Int)) (false,(k:Int))):=by
 unfold p9;rw[c7R hl hk];rfl
theorem rkey_v:D8 s l size k pl=some (cond (isT l 9 s k) (true,((k+1:Nat):Int)) (false,(k:Int))):=by
 unfold D8;rw[c7R hl hk];rfl
theorem c7Q:a0A kd l size k pl=some (isK l kd k):=by
 unfold a0A isK;rcases Nat.lt_or_ge k l.length with h|h
 ·rw[a04 zOm,cond_true,a5t h,decide_eq_true h];rfl
 rw[a2e zOm,decide_eq_false zOm];rfl
theorem rword_v:F5 kd l size k pl=some (cond (isK l kd k) ((a4z l k).text,true,((k+1:Nat):Int)) ([],false,(k:Int))):=by
 unfold F5;rw[c7Q hl hk,Option.bind_some,S9 zOm];cases hb:isK l kd k
 ·rfl
 rw[cond_true,a5t (a8N hb)];rfl
theorem c6t:F6 l size k pl=some (a2z l size k):=by
 unfold F6 a2z;rcases Nat.lt_or_ge k l.length with h|h
 ·rw[a04 zOm,cond_true,a5t h,decide_eq_true h];rfl
 rw[a2e zOm,decide_eq_false zOm];rfl
end
def S2 {A B:Type}(Q:A->B->Prop)(p:Option A)(r:Option B):Prop:=∃a b,p=some a/\r=some b/\Q a b
structure Cx (V:Int->Str->Prop)(l:List Tok):Prop where
 hl:l.length<=3000
 tk:∀{k kd},isK l kd k=true->V kd (a4z l k).text
 lit:∀{s},V 5 s∨V 6 s∨V 7 s->V 4 s
 int:∀{s},V 3 s->b4K s=true
section
variable {A B:Type} {Q:A->B->Prop} {L:Option A} {R:Option B} {l:List Tok} {kd pl:Int} {a:UInt8} {r s:Str} {k:Nat} {size:Int}
section
variable (hl:l.length<=3000) (hk:k<=l.length)
include hl hk
theorem t_take {f:Bool×Int->Option A}(h:S2 Q (cond (isT l 8 (a::r) k) (f (true,((k+1:Nat):Int))) (f (false,(k:Int)))) R):S2 Q ((D7 (a::r) l k size).bind f) R:=by
 rw[b43 hl hk];revert h;cases isT l 8 (a::r) k<;>exact id
theorem t_key {f:Bool×Int->Option A}(h:S2 Q (cond (isT l 9 (a::r) k) (f (true,((k+1:Nat):Int))) (f (false,(k:Int)))) R):S2 Q ((J5 (a::r) l k size).bind f) R:=by
 rw[key_v hl hk];revert h;cases isT l 9 (a::r) k<;>exact id
theorem t_want {f:Int->Option A}{g:Int×Int->Option A}(h:S2 Q (cond (isT l 8 (a::r) k) (f ((k+1:Nat):Int)) (g (a2z l size k,(k:Int)))) R):S2 Q (D6 (C9 (a::r) l k size) f g) R:=by
 rw[want_v hl hk];revert h;cases isT l 8 (a::r) k<;>exact id
theorem c8Z {f:Int->Option A}{g:Int×Int->Option A}(h:S2 Q (cond (isT l 9 (a::r) k) (f ((k+1:Nat):Int)) (g (a2z l size k,(k:Int)))) R):S2 Q (D6 (N8 (a::r) l k size) f g) R:=by
 rw[c9d hl hk];revert h;cases isT l 9 (a::r) k<;>exact id
theorem t_is {f:Bool->Option A}(h:S2 Q (cond (isT l kd (a::r) k) (f true) (f false)) R):S2 Q ((F3 0 kd (a::r) l k size).bind f) R:=by
 rw[is_v hl hk];revert h;cases isT l kd (a::r) k<;>exact id
theorem t_isK {f:Bool->Option A}(h:S2 Q (cond (isK l kd k) (f true) (f false)) R):S2 Q ((F3 0 kd [] l k size).bind f) R:=by
 rw[isK_v hl hk];revert h;cases isK l kd k<;>exact id
theorem t_is1 {f:Bool->Option A}(h:S2 Q (cond (isK l kd (k+1)) (f true) (f false)) R):S2 Q ((F3 1 kd [] l k size).bind f) R:=by
 rw[is1_v hl hk];revert h;cases isK l kd (k+1)<;>exact id
theorem t_name {f:Str->Option A}{g:Int->Option A}(h:S2 Q (cond (isK l 1 k) (f (a4z l k).text) (g (a2z l size k))) R):S2 Q (D6 (M5 l k size) f g) R:=by
 rw[name_v hl hk];revert h;cases isK l 1 k<;>exact id
theorem t_cap {f:Str->Option A}{g:Int->Option A}(h:S2 Q (cond (isK l 2 k) (f (a4z l k).text) (g (a2z l size k))) R):S2 Q (D6 (J8 l k size) f g) R:=by
 rw[cap_v hl hk];revert h;cases isK l 2 k<;>exact id
theorem t_token {f:Tok->Option A}{g:Int->Option A}(h:S2 Q (cond (isK l kd k) (f (a4z l k)) (g (a2z l size k))) R):S2 Q (D6 (U5 kd l k size) f g) R:=by
 rw[b7Q hl hk];revert h;cases isK l kd k<;>exact id
theorem t_node {op:Int}{f:Int->Option A}(h:S2 Q (f (a2z l size k)) R):S2 Q ((E9 op l k size).bind f) R:=by
 unfold E9;rw[c5K hl hk];exact h
theorem u_sign {f:Bool×Int->Option B}(h:S2 Q L (cond (isT l 8 s k) (f (true,((k+1:Nat):Int))) (f (false,(k:Int))))):S2 Q L ((p9 s l size k pl).bind f):=by
 rw[rsign_v hl hk];revert h;cases isT l 8 s k<;>exact id
theorem u_key {f:Bool×Int->Option B}(h:S2 Q L (cond (isT l 9 s k) (f (true,((k+1:Nat):Int))) (f (false,(k:Int))))):S2 Q L ((D8 s l size k pl).bind f):=by
 rw[rkey_v hl hk];revert h;cases isT l 9 s k<;>exact id
theorem u_next {f:Bool->Option B}(h:S2 Q L (cond (isT l kd s k) (f true) (f false))):S2 Q L ((G9 kd s l size k pl).bind f):=by
 rw[c2l hl hk];revert h;cases isT l kd s k<;>exact id
theorem u_isKind {f:Bool->Option B}(h:S2 Q L (cond (isK l kd k) (f true) (f false))):S2 Q L ((a0A kd l size k pl).bind f):=by
 rw[c7Q hl hk];revert h;cases isK l kd k<;>exact id
theorem u_word {f:Str×Bool×Int->Option B}(h:S2 Q L (cond (isK l kd k) (f ((a4z l k).text,true,((k+1:Nat):Int))) (f ([],false,(k:Int))))):S2 Q L ((F5 kd l size k pl).bind f):=by
 rw[rword_v hl hk];revert h;cases isK l kd k<;>exact id
theorem u_off {f:Int->Option B}(h:S2 Q L (f (a2z l size k))):S2 Q L ((F6 l size k pl).bind f):=by
 rw[c6t hl hk];exact h
end
theorem t_int {V:Int->Str->Prop}(C:Cx V l)(hk:k<=l.length){f g:Int->Option A}(h:S2 Q (cond (isK l 3 k) (f ((a6w (a4z l k).text 0:Nat):Int)) (g (a2z l size k))) R):S2 Q (D6 (a0N l k size) f g) R:=by
 rw[int_v C.hl hk];revert h;cases hb:isK l 3 k
 ·exact id
 simp only[atoi,C.int (C.tk hb)];exact id
theorem t_idx {f:Tok->Option A}(hk:k<l.length)(h:S2 Q (f (a4z l k)) R):S2 Q ((idx' l (k:Int)).bind f) R:=by
 rw[a5t hk];exact h
theorem u_idx {f:Tok->Option B}(hk:k<l.length)(h:S2 Q L (f (a4z l k))):S2 Q L ((idx' l (k:Int)).bind f):=by
 rw[a5t hk];exact h
theorem t_app {b:Nat}{x:List α}{f:List α->Option A}(h1:x.length<=100000)(h2:y.length<=100000)(hb:b<=1000)(h:S2 Q (f (x++y)) R):S2 Q ((app b x y).bind f) R:=by
 rw[b7Y h1 h2 hb];exact h
theorem u_app {b:Nat}{x:List α}{f:List α->Option B}(h1:x.length<=100000)(h2:y.length<=100000)(hb:b<=1000)(h:S2 Q L (f (x++y))):S2 Q L ((app b x y).bind f):=by
 rw[b7Y h1 h2 hb];exact h
theorem s_if {b:Bool}{P:Prop}(h1:b=true->P)(h2:b=false->P):P:=by
 cases b
 ·exact h2 rfl
 exact h1 rfl
theorem t_T {b:Bool}{x y:Option A}(h:b=true)(g:S2 Q x R):S2 Q (cond b x y) R:=by rw[h];exact g
theorem t_F {b:Bool}{x y:Option A}(h:b=false)(g:S2 Q y R):S2 Q (cond b x y) R:=by rw[h];exact g
theorem u_T {b:Bool}{x y:Option B}(h:b=true)(g:S2 Q L x):S2 Q L (cond b x y):=by rw[h];exact g
theorem u_F {b:Bool}{x y:Option B}(h:b=false)(g:S2 Q L y):S2 Q L (cond b x y):=by rw[h];exact g
theorem t_if {b:Bool}{x y:Option A}(h1:b=true->S2 Q x R)(h2:b=false->S2 Q y R):S2 Q (cond b x y) R:=s_if (fun h=>t_T h (h1 h)) fun h=>t_F h (h2 h)
theorem u_if {b:Bool}{x y:Option B}(h1:b=true->S2 Q L x)(h2:b=false->S2 Q L y):S2 Q L (cond b x y):=s_if (fun h=>u_T h (h1 h)) fun h=>u_F h (h2 h)
theorem i_T {x y:Option A}(h:isT l kd s k=true)(g:k+1<=l.length->S2 Q x R):S2 Q (cond (isT l kd s k) x y) R:=t_T h (g (a8i h))
theorem k_T {x y:Option A}(h:isK l kd k=true)(g:k+1<=l.length->S2 Q x R):S2 Q (cond (isK l kd k) x y) R:=t_T h (g (a8N h))
theorem j_T {x y:Option B}(h:isT l kd s k=true)(g:k+1<=l.length->S2 Q L x):S2 Q L (cond (isT l kd s k) x y):=u_T h (g (a8i h))
theorem isT_eq (h:isT l kd s k=true):eqS (a4z l k).text s=true:=by rw[c5P h];exact a9d s
theorem isT_nq (g:isK l kd k=true)(h:isT l kd s k=false):eqS (a4z l k).text s=false:=by rw[eqS_d];exact decide_eq_false (c1B g h)
theorem c5O (g:isK l kd k=true)(h:eqS (a4z l k).text s=true):isT l kd s k=true:=by unfold isT;rw[g,h];rfl
theorem c7p (h:eqS (a4z l k).text s=false):isT l kd s k=false:=by unfold isT;rw[h,Bool.and_false]
theorem isT_kf (h:isK l kd k=false):isT l kd s k=false:=by unfold isT;rw[h];rfl
theorem i_if {x y:Option A}(g:isT l kd s k=true->k+1<=l.length->S2 Q x R)(h:isT l kd s k=false->S2 Q y R):S2 Q (cond (isT l kd s k) x y) R:=t_if (fun e=>g e (a8i e)) h
theorem v_k_if {x y:Option A}(g:isK l kd k=true->k+1<=l.length->S2 Q x R)(h:isK l kd k=false->S2 Q y R):S2 Q (cond (isK l kd k) x y) R:=t_if (fun e=>g e (a8N e)) h
theorem q_if {x y:Option A}(e:isK l kd k=true)(g:isT l kd s k=true->k+1<=l.length->S2 Q x R)(h:isT l kd s k=false->S2 Q y R):S2 Q (cond (eqS (a4z l k).text s) x y) R:=t_if (fun d=>g (c5O e d) (a8N e)) fun d=>h (c7p d)
theorem j_if {x y:Option B}(g:isT l kd s k=true->k+1<=l.length->S2 Q L x)(h:isT l kd s k=false->S2 Q L y):S2 Q L (cond (isT l kd s k) x y):=u_if (fun e=>g e (a8i e)) h
theorem m_if {x y:Option B}(g:isK l kd k=true->k+1<=l.length->S2 Q L x)(h:isK l kd k=false->S2 Q L y):S2 Q L (cond (isK l kd k) x y):=u_if (fun e=>g e (a8N e)) h
end
theorem nT {P:Prop}(x:P:=by first|assumption|exact isT_ne zAs zDe|exact isT_kd zAs zDe|exact isT_kk zAs zDe|exact c5M zAs zDe|exact isK_kd zAs zDe):P:=x
theorem CD:(∀{α β:Type} (b:Bool) (x y:Option α) (f:α->Option β),(cond b x y).bind f=cond b (x.bind f) (y.bind f))/\(∀{α ρ β:Type} (b:Bool) (x y:Option (Lr α ρ)) (f:α->Option β) (o:ρ->Option β),bS (cond b x y) f o=cond b (bS x f o) (bS y f o))/\(∀{α β γ:Type} (b:Bool) (x y:Option (Rs α β)) (f:α->Option γ) (o:β->Option γ),D6 (cond b x y) f o=cond b (D6 x f o) (D6 y f o)):=⟨fun b _ _ _=>by cases b<;>rfl,fun b _ _ _ _=>by cases b<;>rfl,fun b _ _ _ _=>by cases b<;>rfl⟩
theorem NF:(∀{α β γ:Type} (x:Option α) (f:α->Option β) (g:β->Option γ),(x.bind f).bind g=x.bind fun a=>(f a).bind g) /\
  (∀{α β γ δ:Type} (x:Option δ) (f:δ->Option (Rs α β)) (k:α->Option γ) (p:β->Option γ),D6 (x.bind f) k p=x.bind fun a=>D6 (f a) k p) /\
  (∀{α ρ:Type} (x:Option (Lr α ρ)) (k:α->Option ρ),T9 x k=bS x k some) /\
  (∀{α γ ρ:Type} (x:Option (Lr α ρ)) (k:α->Option (Lr γ ρ)),a8F x k=bS x k fun r=>some (.out r)) /\
  (∀{α β γ δ:Type} (x:Option (Rs α β)) (f:α->Option γ) (g:β->Option γ) (h:γ->Option δ),(D6 x f g).bind h=D6 x (fun a=>(f a).bind h) fun b=>(g b).bind h) /\
  (∀{α β α' β' γ:Type} (x:Option (Rs α β)) (f:α->Option (Rs α' β')) (g:β->Option (Rs α' β')) (k:α'->Option γ) (p:β'->Option γ),D6 (D6 x f g) k p=D6 x (fun a=>D6 (f a) k p) fun b=>D6 (g b) k p) /\
  (∀{α ρ β δ:Type} (x:Option δ) (f:δ->Option (Lr α ρ)) (h:α->Option β) (o:ρ->Option β),bS (x.bind f) h o=x.bind fun a=>bS (f a) h o) /\
  (∀{α ρ β δ ε:Type} (x:Option (Rs δ ε)) (f:δ->Option (Lr α ρ)) (g:ε->Option (Lr α ρ)) (h:α->Option β) (o:ρ->Option β),bS (D6 x f g) h o=D6 x (fun a=>bS (f a) h o) fun b=>bS (g b) h o) /\
  (∀{α ρ β δ ε:Type} (x:Option (Lr δ ε)) (f:δ->Option (Lr α ρ)) (g:ε->Option (Lr α ρ)) (h:α->Option β) (o:ρ->Option β),bS (bS x f g) h o=bS x (fun a=>bS (f a) h o) fun b=>bS (g b) h o) /\
  (∀{α ρ β γ:Type} (x:Option (Lr α ρ)) (f:α->Option β) (o:ρ->Option β) (h:β->Option γ),(bS x f o).bind h=bS x (fun a=>(f a).bind h) fun b=>(o b).bind h) /\
  (∀{α ρ β γ δ:Type} (x:Option (Lr α ρ)) (f:α->Option (Rs β γ)) (o:ρ->Option (Rs β γ)) (k:β->Option δ) (p:γ->Option δ),D6 (bS x f o) k p=bS x (fun a=>D6 (f a) k p) fun b=>D6 (o b) k p) /\
  (∀{α ρ β:Type} (a:α) (f:α->Option β) (o:ρ->Option β),bS (some (.brk a)) f o=f a)/\(∀{α ρ β:Type} (r:ρ) (f:α->Option β) (o:ρ->Option β),bS (some (.out r)) f o=o r) /\
  (∀{α β γ:Type} (a:α) (f:α->Option γ) (g:β->Option γ),D6 (some (.ok a)) f g=f a)/\(∀{α β γ:Type} (b:β) (f:α->Option γ) (g:β->Option γ),D6 (some (.pan b)) f g=g b) /\
  (∀{α β:Type} (a:α) (f:α->Option β),(some a).bind f=f a)/\(∀{α:Type} (a b:α),cond true a b=a)/\(∀{α:Type} (a b:α),cond false a b=b)/\(!true)=false/\(!false)=true:=by
 refine⟨fun x f g=>?_,fun x f k p=>?_,fun x f=>?_,fun x f=>?_,fun x f g h=>?_,fun x f g k p=>?_,fun x f h o=>?_,fun x f g h o=>?_,fun x f g h o=>?_,fun x f o h=>?_,fun x f o k p=>?_,fun _ _ _=>rfl,fun _ _ _=>rfl,fun _ _ _=>rfl,fun _ _ _=>rfl,fun _ _=>rfl,fun _ _=>rfl,fun _ _=>rfl,rfl,rfl⟩<;>(rcases x with _|x)<;>first|rfl |(cases x<;>rfl)
theorem all_nil {P:α->Prop}:∀x∈([]:List α),P x:=fun x h=>by cases h
theorem a8h {P:α->Prop}{a b:List α}(h1:∀x∈a,P x)(h2:∀x∈b,P x):∀x∈a++b,P x:=fun x h=>by
 rcases List.mem_append.1 h with h|h
 ·exact h1 x h
 exact h2 x h
theorem a5I {P:α->Prop}{a:α}(h:P a):∀x ∈ [a],P x:=fun x hx=>by
 rcases List.mem_singleton.1 hx with rfl;exact h
abbrev zT:Typ:=⟨0,[],0,[]⟩
abbrev uT:Typ:=⟨4,[],0,[]⟩
inductive GT (V:Int->Str->Prop):Bool->Typ->Prop
 | base {s:Str} {a:List Typ}:V 2 s ->(∀x∈a,GT V false x)->GT V true (b6V s a)
 | dot {s:Str} {t:Typ}:V 2 s->GT V true t->GT V true ⟨8,s,0,[t]⟩
 | path {t:Typ}:GT V true t->GT V false t
 | any {s:Str}:V 2 s->GT V false ⟨9,s,0,[]⟩
 | func {a:List Typ} {r:Typ}:(∀x∈a,GT V false x)->GT V false r->GT V false ⟨10,[],0,a++[r]⟩
theorem GT.func1 {V:Int->Str->Prop}{r:Typ}(h:GT V false r):GT V false ⟨10,[],0,[r]⟩:=.func (a:=[]) all_nil h
theorem GT.func2 {V:Int->Str->Prop}{r:Typ}(g:GT V false t)(h:GT V false r):GT V false ⟨10,[],0,[t,r]⟩:=.func (a:=[t]) (a5I g) h
def OP (s:Str):Prop:=s∈([[124,124],[38,38],[61,61],[33,61],[60],[60,61],[62],[62,61],[43],[45],[42],[47],[37]]:List Str)
inductive PLC:Nod->Prop
 | nm {x:Nod}:x.op=54->PLC x
 | fld {s:Str} {n a:Int} {t:Typ} {ts:List Typ} {y:Nod}:PLC y->PLC ⟨55,s,n,t,ts,[y],a⟩
def fl:List (Nod×Nod)->List Nod | []=>[]|p::r=>p.1::p.2::fl r
theorem c5G:∀a b:List (Nod×Nod),fl (a++b)=fl a++fl b
 | [],b=>rfl
 | p::a,b=>by rw[List.cons_append,fl,fl,c5G a b];rfl
inductive TX (V:Int->Str->Prop):Nod->Prop
 | mk {s:Str} {a:Int}:V 4 s->TX V ⟨52,s,0,zT,[],[],a⟩
inductive G (V:Int->Str->Prop):Nat->Nod->Prop
 | int {s:Str} {a:Int}:V 3 s->G V 0 ⟨50,[],((a6w s 0:Nat):Int),zT,[],[],a⟩
 | tru {a:Int}:G V 0 ⟨51,[],1,zT,[],[],a⟩
 | fal {a:Int}:G V 0 ⟨51,[],0,zT,[],[],a⟩
 | text {s:Str} {a:Int}:V 4 s->G V 0 ⟨52,s,0,zT,[],[],a⟩
 | interp {x:Nod} {ps:List (Nod×Nod)} {a:Int}:TX V x->ps ≠ [] ->(∀p∈ps,G V 0 p.1) ->(∀p∈ps,TX V p.2)->G V 0 ⟨53,[],0,zT,[],x::fl ps,a⟩
 | name {s:Str} {a:Int}:V 1 s->G V 0 ⟨54,s,0,zT,[],[],a⟩
 | cons {s:Str} {a:Int}:V 1 s->G V 0 ⟨61,s,0,zT,[],[],a⟩
 | clos {t:Typ} {ps ss:List Nod} {a b:Int}:(t=uT∨GT V false t) ->(∀x∈ps,G V 4 x) ->(∀x∈ss,G V 1 x)->G V 0 ⟨63,[],0,t,[],ps++[⟨20,[],0,zT,[],ss,b⟩],a⟩
 | bin {s:Str} {x y:Nod} {a:Int}:OP s->G V 0 x->G V 0 y->G V 0 ⟨64,s,0,zT,[],[x,y],a⟩
 | un {o:Int} {x:Nod} {a:Int}:(o=65∨o=66)->G V 0 x->G V 0 ⟨o,[],0,zT,[],[x],a⟩
 | field {s:Str} {x:Nod} {a:Int}:V 1 s->G V 0 x->G V 0 ⟨55,s,0,zT,[],[x],a⟩
 | call {s:Str} {l:List Nod} {a:Int}:V 1 s ->(∀y∈l,G V 6 y)->G V 0 ⟨56,s,0,zT,[],l,a⟩
 | method {s:Str} {x:Nod} {l:List Nod} {a:Int}:V 1 s->G V 0 x ->(∀y∈l,G V 6 y)->G V 0 ⟨57,s,0,zT,[],x::l,a⟩
 | stat0 {s:Str} {t:Typ} {a:Int}:V 1 s->GT V true t->G V 0 ⟨58,s,0,t,[],[],a⟩
 | stat1 {s:Str} {t:Typ} {l:List Nod} {a:Int}:V 1 s->GT V true t ->(∀y∈l,G V 6 y)->G V 0 ⟨58,s,1,t,[],l,a⟩
 | make {t:Typ} {l:List Nod} {a:Int}:GT V true t ->(∀y∈l,G V 6 y)->G V 0 ⟨59,[],0,t,[],l,a⟩
 | apply{x:Nod} {l:List Nod} {a:Int}:G V 0 x ->(∀y∈l,G V 6 y)->G V 0 ⟨60,[],0,zT,[],x::l,a⟩
 | list {l:List Nod} {a:Int}:(∀y∈l,G V 0 y)->G V 0 ⟨67,[],0,zT,[],l,a⟩
 | lend {x:Nod} {a:Int}:G V 0 x->PLC x->G V 6 ⟨62,[],0,zT,[],[x],a⟩
 | arg {x:Nod}:G V 0 x->G V 6 x
 | let0 {s:Str} {t:Typ} {a:Int}:V 1 s->GT V false t->G V 1 ⟨21,s,1,t,[],[],a⟩
 | let1 {s:Str} {n:Int} {t:Typ} {x:Nod} {a:Int}:V 1 s ->(n=0∨n=1) ->(t=zT∨GT V false t)->G V 0 x->G V 1 ⟨21,s,n,t,[],[x],a⟩
 | assign {x y:Nod} {a:Int}:G V 0 x->PLC x->G V 0 y->G V 1 ⟨22,[],0,zT,[],[x,y],a⟩
 | sole {x:Nod} {a:Int}:G V 0 x->G V 1 ⟨23,[],0,zT,[],[x],a⟩
 | if2 {x b:Nod} {a:Int}:G V 0 x->G V 2 b->G V 19 ⟨24,[],0,zT,[],[x,b],a⟩
 | if3 {x b c:Nod} {a:Int}:G V 0 x->G V 2 b->G V 2 c->G V 19 ⟨24,[],0,zT,[],[x,b,c],a⟩
 | if4 {x b c:Nod} {a:Int}:G V 0 x->G V 2 b->G V 19 c->G V 19 ⟨24,[],0,zT,[],[x,b,c],a⟩
 | ifs {x:Nod}:G V 19 x->G V 1 x
 | whil {x b:Nod} {a:Int}:G V 0 x->G V 2 b->G V 1 ⟨25,[],0,zT,[],[x,b],a⟩
 | mat {x:Nod} {l:List Nod} {a:Int}:G V 0 x ->(∀y∈l,G V 5 y)->G V 1 ⟨26,[],0,zT,[],x::l,a⟩
 | ret0 {a:Int}:G V 1 ⟨28,[],0,zT,[],[],a⟩
 | ret1 {x:Nod} {a:Int}:G V 0 x->G V 1 ⟨28,[],0,zT,[],[x],a⟩
 | thrw {x:Nod} {a:Int}:G V 0 x->G V 1 ⟨29,[],0,zT,[],[x],a⟩
 | doc {s:Str} {b c:Nod} {a:Int}:V 1 s->G V 2 b->G V 2 c->G V 1 ⟨30,s,0,zT,[],[b,c],a⟩
 | dfr {b:Nod} {a:Int}:G V 2 b->G V 1 ⟨31,[],0,zT,[],[b],a⟩
 | block {l:List Nod} {a:Int}:(∀y∈l,G V 1 y)->G V 2 ⟨20,[],0,zT,[],l,a⟩
 | wild {a:Int}:G V 3 ⟨40,[],0,zT,[],[],a⟩
 | bnd {s:Str} {a:Int}:V 1 s->s ≠ [95]->G V 3 ⟨41,s,0,zT,[],[],a⟩
 | pint {s:Str} {a:Int}:V 3 s->G V 3 ⟨42,[],((a6w s 0:Nat):Int),zT,[],[],a⟩
 | pneg {s:Str} {a:Int}:V 3 s->G V 3 ⟨42,[],w64 (0-((a6w s 0:Nat):Int)),zT,[],[],a⟩
 | ptru {a:Int}:G V 3 ⟨43,[],1,zT,[],[],a⟩
 | pfal {a:Int}:G V 3 ⟨43,[],0,zT,[],[],a⟩
 | ptext {s:Str} {a:Int}:V 4 s->G V 3 ⟨44,s,0,zT,[],[],a⟩
 | pcase {s:Str} {l:List Nod} {a:Int}:V 1 s ->(∀y∈l,G V 3 y)->G V 3 ⟨45,s,0,zT,[],l,a⟩
 | param {s:Str} {n:Int} {t:Typ} {a:Int}:V 1 s ->(n=0∨n=1∨n=2)->GT V false t->G V 4 ⟨10,s,n,t,[],[],a⟩
 | arm {p b:Nod} {a:Int}:G V 3 p->G V 2 b->G V 5 ⟨27,[],0,zT,[],[p,b],a⟩
 | bound {s:Str} {a:Int}:V 2 s->G V 7 ⟨9,s,0,zT,[],[],a⟩
 | gen {s:Str} {l:List Nod} {a:Int}:V 2 s ->(∀y∈l,G V 7 y)->G V 8 ⟨8,s,0,zT,[],l,a⟩
 | rq1 {s:Str} {t:Typ} {a:Int}:GT V false t->V 2 s->G V 9 ⟨12,s,1,t,[],[],a⟩
 | rq2 {t u:Typ} {a:Int}:GT V false t->GT V false u->G V 9 ⟨12,[],2,t,[u],[],a⟩
 | thr {t:Typ} {a:Int}:GT V false t->G V 10 ⟨11,[],0,t,[],[],a⟩
 | fn {s:Str} {t:Typ} {gs ps th rs xs:List Nod} {b:Nod} {a:Int}:V 1 s ->(t=uT∨GT V false t)->xs=gs ++(ps ++(th++rs)) ->(∀y∈gs,G V 8 y) ->(∀y∈ps,G V 4 y) ->(∀y∈th,G V 10 y)->th.length<=1 ->(∀y∈rs,G V 9 y)->G V 2 b->G V 11 ⟨7,s,1,t,[],xs++[b],a⟩
 | sg {s:Str} {t:Typ} {gs ps th rs xs:List Nod} {a:Int}:V 1 s ->(t=uT∨GT V false t)->xs=gs ++(ps ++(th++rs)) ->(∀y∈gs,G V 8 y) ->(∀y∈ps,G V 4 y) ->(∀y∈th,G V 10 y)->th.length<=1 ->(∀y∈rs,G V 9 y)->G V 12 ⟨7,s,0,t,[],xs,a⟩
 | fld {s:Str} {n:Int} {t:Typ} {a:Int}:V 1 s ->(n=0∨n=1)->GT V false t->G V 13 ⟨13,s,n,t,[],[],a⟩
 | dei {b:Nod} {a:Int}:G V 2 b->G V 14 ⟨15,[],0,zT,[],[b],a⟩
 | case {s:Str} {n:Int} {ts:List Typ} {a:Int}:V 1 s ->(n=0∨n=1) ->(∀t∈ts,GT V false t)->G V 15 ⟨14,s,n,zT,ts,[],a⟩
 | assoc {s:Str} {l:List Nod} {a:Int}:V 2 s ->(∀y∈l,G V 7 y)->G V 16 ⟨16,s,0,zT,[],l,a⟩
 | alias {s:Str} {t:Typ} {a:Int}:V 2 s->GT V false t->G V 17 ⟨17,s,0,t,[],[],a⟩
 | strc {s:Str} {n:Int} {gs fs ds xs:List Nod} {a:Int}:V 2 s ->(n=0∨n=1∨n=2∨n=3)->xs=gs ++(fs++ds) ->(∀y∈gs,G V 8 y) ->(∀y∈fs,G V 13 y) ->(∀y∈ds,G V 14 y)->ds.length<=1->G V 18 ⟨2,s,n,zT,[],xs,a⟩
 | clss {s:Str} {gs fs ds xs:List Nod} {a:Int}:V 2 s->xs=gs ++(fs++ds) ->(∀y∈gs,G V 8 y) ->(∀y∈fs,G V 13 y) ->(∀y∈ds,G V 14 y)->ds.length<=1->G V 18 ⟨4,s,0,zT,[],xs,a⟩
 | enum {s:Str} {n:Int} {gs cs:List Nod} {a:Int}:V 2 s ->(n=0∨n=2) ->(∀y∈gs,G V 8 y) ->(∀y∈cs,G V 15 y)->G V 18 ⟨3,s,n,zT,[],gs++cs,a⟩
 | prot {s:Str} {us ss:List Nod} {a:Int}:V 2 s ->(∀y∈us,G V 16 y) ->(∀y∈ss,G V 12 y)->G V 18 ⟨5,s,0,zT,[],us++ss,a⟩
 | ext {s:Str} {t:Typ} {rs us fs:List Nod} {a:Int}:V 2 s->GT V false t ->(∀y∈rs,G V 9 y) ->(∀y∈us,G V 17 y) ->(∀y∈fs,G V 11 y)->G V 18 ⟨6,s,0,t,[],rs ++(us++fs),a⟩
 | fun{x:Nod}:G V 11 x->G V 18 x
theorem bsz {s:Str}{a:List Typ}{k q:Nat}(h:1+szT a+k<=q):(b6V s a).sz+k<=q:=by have:=baseT_sz s a;omega
section
variable (V:Int->Str->Prop)
def SGX (xs:List Nod):Prop:=∃gs ps th rs,xs=gs ++(ps ++(th++rs))/\(∀y∈gs,G V 8 y)/\(∀y∈ps,G V 4 y)/\(∀y∈th,G V 10 y)/\th.length<=1/\(∀y∈rs,G V 9 y)
def FDX (xs:List Nod):Prop:=∃fs ds,xs=fs++ds/\(∀y∈fs,G V 13 y)/\(∀y∈ds,G V 14 y)/\ds.length<=1
def PRX (xs:List Nod):Prop:=∃us ss,xs=us++ss/\(∀y∈us,G V 16 y)/\(∀y∈ss,G V 12 y)
def EXA (xs:List Nod):Prop:=∃rs us,xs=rs++us/\(∀y∈rs,G V 9 y)/\(∀y∈us,G V 17 y)
def EXX (xs:List Nod):Prop:=∃rs us fs,xs=rs ++(us++fs)/\(∀y∈rs,G V 9 y)/\(∀y∈us,G V 17 y)/\(∀y∈fs,G V 11 y)
def MTX (xs:List Nod):Prop:=∃x us,xs=x::us/\G V 0 x/\(∀y∈us,G V 5 y)
def INX (xs:List Nod):Prop:=∃x ps,xs=x::fl ps/\TX V x/\(∀p∈ps,G V 0 p.1)/\(∀p∈ps,TX V p.2)
end
section
variable {V:Int->Str->Prop}
theorem sgx0 (h1:∀y∈gs,G V 8 y)(h2:∀y∈ps,G V 4 y)(h3:∀y∈rs,G V 9 y):SGX V (gs ++(ps++rs)):=⟨gs,ps,[],rs,rfl,h1,h2,all_nil,Nat.zero_le _,h3⟩
theorem sgx1 {t:Nod}(h1:∀y∈gs,G V 8 y)(h2:∀y∈ps,G V 4 y)(h4:G V 10 t)(h3:∀y∈rs,G V 9 y):SGX V (gs ++(ps ++(t::rs))):=⟨gs,ps,[t],rs,rfl,h1,h2,a5I h4,Nat.le_refl _,h3⟩
theorem fn_of {s:Str}{b:Nod}{a:Int}(h1:V 1 s)(h2:t=uT∨GT V false t)(h:SGX V xs)(h3:G V 2 b):G V 11 ⟨7,s,1,t,[],xs++[b],a⟩:=by
 obtain⟨gs,ps,th,rs,e,g1,g2,g3,g4,g5⟩:=h;exact .fn h1 h2 e g1 g2 g3 g4 g5 h3
theorem sg_of {s:Str}{a:Int}(h1:V 1 s)(h2:t=uT∨GT V false t)(h:SGX V xs):G V 12 ⟨7,s,0,t,[],xs,a⟩:=by
 obtain⟨gs,ps,th,rs,e,g1,g2,g3,g4,g5⟩:=h;exact .sg h1 h2 e g1 g2 g3 g4 g5
theorem fdx0 (h:∀y∈fs,G V 13 y):FDX V fs:=⟨fs,[],(List.append_nil _).symm,h,all_nil,Nat.zero_le _⟩
theorem fdx1 {d:Nod}(h:∀y∈fs,G V 13 y)(h2:G V 14 d):FDX V (fs++[d]):=⟨fs,[d],rfl,h,a5I h2,Nat.le_refl _⟩
theorem st_of {s:Str}{n a:Int}(h1:V 2 s)(hn:n=0∨n=1∨n=2∨n=3)(h2:∀y∈gs,G V 8 y)(h:FDX V xs):G V 18 ⟨2,s,n,zT,[],gs++xs,a⟩:=by
 obtain⟨fs,ds,e,g1,g2,g3⟩:=h;exact .strc h1 hn (by rw[e]) h2 g1 g2 g3
theorem cl_of {s:Str}{a:Int}(h1:V 2 s)(h2:∀y∈gs,G V 8 y)(h:FDX V xs):G V 18 ⟨4,s,0,zT,[],gs++xs,a⟩:=by
 obtain⟨fs,ds,e,g1,g2,g3⟩:=h;exact .clss h1 (by rw[e]) h2 g1 g2 g3
theorem prx0 {us:List Nod}(h:∀y∈us,G V 16 y):PRX V us:=⟨us,[],(List.append_nil _).symm,h,all_nil⟩
theorem prx1 (h:PRX V xs)(h2:G V 12 x):PRX V (xs++[x]):=by
 obtain⟨us,ss,rfl,g1,g2⟩:=h;exact⟨us,ss++[x],List.append_assoc ..,g1,a8h g2 (a5I h2)⟩
theorem pr_of {s:Str}{a:Int}(h1:V 2 s)(h:PRX V xs):G V 18 ⟨5,s,0,zT,[],xs,a⟩:=by
 obtain⟨us,ss,rfl,g1,g2⟩:=h;exact .prot h1 g1 g2
theorem exa0 (h:∀y∈rs,G V 9 y):EXA V rs:=⟨rs,[],(List.append_nil _).symm,h,all_nil⟩
theorem exa1 (h:EXA V xs)(h2:G V 17 x):EXA V (xs++[x]):=by
 obtain⟨us,ss,rfl,g1,g2⟩:=h;exact⟨us,ss++[x],List.append_assoc ..,g1,a8h g2 (a5I h2)⟩
theorem exx0 (h:EXA V xs):EXX V xs:=by
 obtain⟨rs,us,rfl,g1,g2⟩:=h;exact⟨rs,us,[],by rw[List.append_nil],g1,g2,all_nil⟩
theorem exx1 (h:EXX V xs)(h2:G V 11 x):EXX V (xs++[x]):=by
 obtain⟨rs,us,ss,rfl,g1,g2,g3⟩:=h;exact⟨rs,us,ss++[x],by rw[List.append_assoc,List.append_assoc],g1,g2,a8h g3 (a5I h2)⟩
theorem ex_of {s:Str}{a:Int}(h1:V 2 s)(h2:GT V false t)(h:EXX V xs):G V 18 ⟨6,s,0,t,[],xs,a⟩:=by
 obtain⟨rs,us,ss,rfl,g1,g2,g3⟩:=h;exact .ext h1 h2 g1 g2 g3
theorem mtx0 (h:G V 0 x):MTX V [x]:=⟨x,[],rfl,h,all_nil⟩
theorem mtx1 {y:Nod}(h:MTX V xs)(h2:G V 5 y):MTX V (xs++[y]):=by
 obtain⟨x,us,rfl,g1,g2⟩:=h;exact⟨x,us++[y],rfl,g1,a8h g2 (a5I h2)⟩
theorem mt_of {a:Int}(h:MTX V xs):G V 1 ⟨26,[],0,zT,[],xs,a⟩:=by
 obtain⟨x,us,rfl,g1,g2⟩:=h;exact .mat g1 g2
theorem inx0 {s:Str}{a:Int}(h:V 4 s):INX V [⟨52,s,0,zT,[],[],a⟩]:=⟨_,[],rfl,.mk h,all_nil,all_nil⟩
theorem inx1 {s:Str}{a:Int}(h:INX V xs)(h1:G V 0 e)(h2:V 4 s):INX V (xs++[e,⟨52,s,0,zT,[],[],a⟩]):=by
 obtain⟨x,ps,rfl,g0,g1,g2⟩:=h;refine⟨x,ps++[(e,⟨52,s,0,zT,[],[],a⟩)],by rw[c5G];rfl,g0,a8h g1 (a5I h1),a8h g2 (a5I (.mk h2))⟩
theorem in_of {s:Str}{a:Int}(h:INX V xs)(h1:G V 0 e)(h2:V 4 s):G V 0 ⟨53,[],0,zT,[],xs++[e,⟨52,s,0,zT,[],[],a⟩],b⟩:=by
 obtain⟨x,ps,rfl,g0,g1,g2⟩:=h;have e1:x::fl ps++[e,⟨52,s,0,zT,[],[],a⟩]=x::fl (ps++[(e,⟨52,s,0,zT,[],[],a⟩)]):=by rw[c5G];rfl
 rw[e1];exact .interp g0 zSi (a8h g1 (a5I h1)) (a8h g2 (a5I (.mk h2)))
end
section
variable {X E Y:Type} (c:(X->Y->Prop)->Prop) (d:(E->Y->Prop)->Prop)
@[reducible] def SP (p:Option (Rs X E)) (r:Option Y):Prop:=∀(A B:Type) (Q:A->B->Prop) (f:X->Option A) (g:E->Option A) (h:Y->Option B),c (fun x y=>S2 Q (f x) (h y))->d (fun e y=>S2 Q (g e) (h y))->S2 Q (D6 p f g) (r.bind h)
@[reducible] def SB {Z:Type} (c:(X->Z->Prop)->Prop) (d:(E->Y->Prop)->Prop) (p:Option (Rs X E)) (r:Option (Lr Z Y)):Prop:=∀(A B:Type) (Q:A->B->Prop) (f:X->Option A) (g:E->Option A) (h:Z->Option B) (o:Y->Option B),c (fun x y=>S2 Q (f x) (h y))->d (fun e y=>S2 Q (g e) (o y))->S2 Q (D6 p f g) (bS r h o)
@[reducible] def SL {Z R':Type} (c:(X->Z->Prop)->Prop) (d:(E->Y->Prop)->Prop) (p:Option (Lr X (Rs R' E))) (r:Option (Lr Z Y)):Prop:=∀(A B:Type) (Q:A->B->Prop) (f:X->Option A) (g:Rs R' E->Option A) (h:Z->Option B) (o:Y->Option B),c (fun x y=>S2 Q (f x) (h y))->d (fun e y=>S2 Q (g (.pan e)) (o y))->S2 Q (bS p f g) (bS r h o)
end
section
variable (l:List Tok) (k:Nat)
@[reducible] def f3 {Z:Type} (d:Int×Int->Z×Bool×Int->Prop):Prop:=∀{e:Int} {q:Nat} {z:Z},k<=q->q<=l.length->d (e,(q:Int)) (z,false,(q:Int))
@[reducible] def f4 {Z:Type} (d:Int×Int->Z×Bool×Int×Int->Prop):Prop:=∀{e:Int} {q:Nat} {z:Z} {pl:Int},k<=q->q<=l.length->d (e,(q:Int)) (z,false,(q:Int),pl)
@[reducible] def fE {Z:Type} (d:q9×Int->Z×Bool×Int×Int->Prop):Prop:=∀{e:q9} {q:Nat} {z:Z} {pl:Int},k<=q->q<=l.length->e.fault.code≠0->d (e,(q:Int)) (z,false,(q:Int),pl)
section
variable (P:Nod->Prop) (P1:List Nod->Prop) (PT:Typ->Prop) (m0:List Nod)
@[reducible] def o3 (c:Nod×Int->Nod×Bool×Int->Prop):Prop:=∀{x:Nod} {q:Nat},k<q->q<=l.length->x.sz+4*k<=4*q->P x->c (x,(q:Int)) (x,true,(q:Int))
@[reducible] def o4 (p0:Int) (c:Nod×Int->Nod×Bool×Int×Int->Prop):Prop:=∀{x:Nod} {q:Nat},k<q->q<=l.length->x.sz+4*k<=4*q->P x->c (x,(q:Int)) (x,true,(q:Int),p0)
@[reducible] def oL (c:List Nod×Int->List Nod×Int->Prop):Prop:=∀{x z:List Nod} {q:Nat},z=m0++x->k<=q->q<=l.length->szN x+4*k<=4*q->x.length<=4*q->P1 x->c (x,(q:Int)) (z,(q:Int))
@[reducible] def oM (c:List Nod×Int->List Nod×Bool×Int->Prop):Prop:=∀{x z:List Nod} {q:Nat},z=m0++x->k<=q->q<=l.length->szN x+4*k<=4*q->x.length<=4*q->P1 x->c (x,(q:Int)) (z,true,(q:Int))
@[reducible] def oTs (V:Int->Str->Prop) (c:List Typ×Int->List Typ×Int->Prop):Prop:=∀{x:List Typ} {q:Nat},k<=q->q<=l.length->szT x+k<=q->x.length<=4*q ->(∀t∈x,GT V false t)->c (x,(q:Int)) (x,(q:Int))
@[reducible] def oT (d:Nat) (c:Typ×Int->Typ×Bool×Int->Prop):Prop:=∀{t:Typ} {q:Nat},k+1<=q+d->q<=l.length->t.sz+k<=q+d->PT t->c (t,(q:Int)) (t,true,(q:Int))
end
@[reducible] def LP {B D:Type} (m k0:Nat) (P:List Nod->Prop) (m0:List Nod) (S:Nat ->(List Nod->Prop)->Option B->Option D->Prop) (p:Nat->List Nod->Option B) (r:Nat->Nat->List Nod->Option D):Prop:=∀(m' k:Nat) (xs zs:List Nod),zs=m0++xs->k0<=k->k<=l.length->l.length+1<m+k->l.length+1<m'+k->szN xs+4*k0<=4*k->P xs->S k0 P (p k xs) (r m' k zs)
end
theorem lpI {B D:Type}{l:List Tok}{k0:Nat}{P:List Nod->Prop}{m0:List Nod}{S:Nat ->(List Nod->Prop)->Option B->Option D->Prop}{p:Nat->Nat->List Nod->Option B}{r:Nat->Nat->List Nod->Option D}(h:∀m,LP l m k0 P m0 S (p m) r -> ∀(m' k:Nat) (xs:List Nod),k0<=k->k<=l.length->l.length<m+k->l.length<m'+k->szN xs+4*k0<=4*k->P xs->S k0 P (p (m+1) k xs) (r (m'+1) k (m0++xs))):∀m,LP l m k0 P m0 S (p m) r
 | 0=>fun m' k xs zs hz h1 h2 h3 h3' h4 h5=>zOm
 | m+1=>fun m' k xs zs hz h1 h2 h3 h3' h4 h5=>by
  obtain⟨q,rfl⟩:∃q,m'=q+1:=⟨m'-1,zOm⟩
  rw[hz];exact h m (lpI h m) _ _ _ h1 h2 zOm zOm h4 h5
theorem two {P:Prop}(x:P:=by
 try have hl:=C.hl
 first|have hx:=I8 xs|have hx:=a6b xs|have hx:=x.H8|have hx:=t.H8|skip
 first|intro A B Q f g h o hok hpan|intro A B Q f g h hok hpan|skip
 repeat' first
 | with_reducible first|assumption|exact all_nil|exact .inl rfl|exact .inr rfl|exact .inr (.inl rfl)|exact .inr (.inr rfl)|exact .inr (.inr (.inl rfl))|exact .inr (.inr (.inr rfl))|exact .inr zAs|exact .inl zAs|exact And.intro zAs zAs|refine a8h ?_ ?_|refine a5I ?_ |(intro hz;subst hz)|intro _
 |(simp (disch:=omega) only[NF,b8S,a5M,c3i,Int.reduceEq,decide_true,decide_false,false_or,fin,S9,List.append_nil,List.nil_append,List.append_assoc,List.cons_append,b96])
 |(simp (disch:=omega) only[NF,b8S,a5M,c3i,Int.reduceEq,decide_true,decide_false,S9,List.append_nil,List.nil_append,List.append_assoc,List.cons_append,b96])
 | with_reducible first
  | apply hok|apply hpan|refine lf1 zAs ?_ ?_ ?_|refine lf2 zAs ?_ ?_ ?_|apply ih|apply lp1|apply pr1|apply pr2|apply pr3|apply pc1
  | apply H.f_block|apply H.f_statement|apply H.f_conditional|apply H.f_local|refine H.f_match zAs ?_ ?_ ?_ A B Q _ _ _ ?_ ?_|apply H.f_one|apply H.f_expr|apply H.f_unary|apply H.f_postfix|apply H.f_atom|apply H.f_interp|apply H.f_closure|apply H.f_stmts|apply H.f_args|apply H.f_climb
  | apply pat_r C|apply sign_r C|apply lp2|apply typ_r C|apply bounds_r C|apply gens_r C|apply where_r C|refine params_r C zAs ?_ ?_ ?_ ?_ A B Q _ _ _ ?_ ?_|refine params_n C ?_ nT ?_
  | apply t_take hl|apply t_key hl|apply t_want hl|apply c8Z hl|apply t_is hl|apply t_isK hl|apply t_name hl|apply t_cap hl|apply t_token hl|apply t_int C|apply t_is1 hl|apply t_node hl|apply t_idx|apply t_app|refine t_place ?_ zAs (fun _ _=>?_) (fun _=>?_)
  | apply u_sign hl|apply u_key hl|apply u_next hl|apply u_isKind hl|apply u_word hl|apply u_off hl|apply u_idx|apply u_app|refine u_num (C.int (C.tk zAs)) ?_ ?_|apply u_num0|refine u_place zAs ?_ ?_
  | refine i_T zAs ?_|refine k_T zAs ?_|refine j_T zAs ?_|refine t_T zAs ?_|refine t_F nT ?_|refine u_T zAs ?_|refine u_T (b1T zAs) ?_|refine t_T (b1T zAs) ?_|refine u_T (isT_eq zAs) ?_|refine u_F (isT_nq zAs nT) ?_|refine u_T (c5O zAs zAs) ?_|refine u_F (c7p zAs) ?_|refine u_F (isT_kf zAs) ?_|refine u_F nT ?_|refine t_T (isT_eq zAs) ?_|refine t_F (isT_nq zAs nT) ?_|refine q_if zAs ?_ ?_|apply i_if|apply v_k_if
  | exact C.tk zAs|refine C.tk (kd:=1) (b1T zAs)|refine C.lit (.inl (C.tk zAs))|refine C.lit (.inr (.inl (C.tk zAs)))|refine C.lit (.inr (.inr (C.tk zAs)))
  | exact c1B zAs zAs|exact a8N zAs|exact a8i zAs
  | apply GT.base|apply GT.dot|refine .path zAs|apply GT.any|apply GT.func|apply GT.func1|apply GT.func2
  | apply G.int|apply G.tru|apply G.fal|apply G.text|apply G.name|apply G.cons|apply G.clos|apply G.bin|apply G.un|apply G.field|apply G.call|apply G.method|apply G.stat0|apply G.stat1|apply G.make|apply G.apply|apply G.list|refine .lend (And.left zAs) (And.right zAs)|apply G.arg
  | apply G.let0|apply G.let1|apply G.assign|apply G.sole|apply G.if2|refine .if3 ?_ ?_ zAs|refine .if4 ?_ ?_ zAs|refine .ifs zAs|apply G.whil|apply G.mat|apply G.ret0|apply G.ret1|apply G.thrw|apply G.doc|apply G.dfr|apply G.block
  | apply G.wild|apply G.bnd|apply G.pint|apply G.pneg|apply G.ptru|apply G.pfal|apply G.ptext|apply G.pcase|apply G.param|apply G.arm
  | apply G.bound|apply G.gen|apply G.rq1|apply G.rq2|apply G.thr|apply G.fld|apply G.dei|apply G.case|apply G.assoc|apply G.alias|apply G.enum
  | apply fn_1|apply fn_0|apply sgx1|apply sgx0|apply fn_of|apply sg_of|apply fdx1|apply fdx0|apply st_of|apply cl_of|apply prx1|refine prx0 zAs|apply pr_of|apply exa1|refine exa0 zAs|refine exx0 zAs|apply exx1|apply ex_of|apply mtx0|apply mtx1|apply mt_of|apply inx0|apply inx1|apply in_of|apply bsz|exact .fun zAs
 | exact trivial
 | exact rfl
 | omega
 |(simp only[SZ,List.length_append,List.length_cons,List.length_nil];omega)
 |(simp only[SZ]at *;omega)
 | with_reducible apply t_if
 |(simp only[CD])
 | with_reducible first|apply j_if|apply m_if
 | rw[b56 zOm]
 | rw[pat_t zOm]
 | with_reducible apply u_if):P:=x
end Go.Proofs.YtimgnjbjbdgmaaaGreatDoor
