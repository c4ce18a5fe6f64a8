/- Texts of ParseParens, joined. -/
import Derived.Test.YtjhfloacokgdiaaGreatDoorParseParensJ16
set_option maxRecDepth 100000
set_option maxHeartbeats 20000000
set_option linter.unusedSimpArgs false
set_option linter.unusedVariables false
set_option linter.unusedSectionVars false
namespace Go.Proofs.YtjhfloacokgdiaaGreatDoor
open Go Go.Vm
theorem a5v {a:Int}(h1:-9223372036854775808<=a)(h2:a<=9223372036854775807):w64 a=a:=by
 unfold w64
 simp only[IntKind.wrap,IntKind.bits,IntKind.signed]
 simp
 omega
theorem F9 {k:Nat}(h:k<=1000000000000):w64 ((k:Int)+1) =((k+1:Nat):Int):=by rw[a5v (by omega) (by omega)];rfl
theorem a0v {a b:Int}(h:a<b):ltB a b=true:=by simp[ltB,h]
theorem a1j {a b:Int}(h:¬a<b):ltB a b=false:=by simp[ltB,h]
theorem b5u {a b:Int}(h:a<=b):leB a b=true:=by simp[leB,h]
theorem b9X {a b:Int}(h:¬a<=b):leB a b=false:=by simp[leB,h]
theorem a5Y (a b:Int):eqB a b=decide (a=b):=by unfold eqB;rfl
theorem a0C {a b:Int}(h:a=b):eqB a b=true:=by simp[eqB,h]
theorem a1G {a b:Int}(h:¬a=b):eqB a b=false:=by simp[eqB,h]
theorem a4Z (s:Str):eqS s s=true:=by simp[eqS]
theorem b9B (a:UInt8)(r:Str):eqS (a::r) []=false:=by simp[eqS]
theorem a0S {α:Type}{l:List α}{i:Nat}(h:i<l.length):idx' l (i:Int)=some l[i]:=by
 have h1:inR (i:Int) l.length=true:=by simp[inR,h]
 simp[idx',h1,h]
theorem c08 {α:Type}{b:Nat}{l m:List α}(h:(l.length+m.length)*(b+1)<=70368744177664):app b l m=some (l++m):=by
 unfold app leN
 rw[decide_eq_true h]
theorem drop_eq {α:Type}{l:List α}{i:Nat}(h:i<l.length):l.drop i=l[i]::l.drop (i+1):=List.drop_eq_getElem_cons h
def bS {α ρ β:Type}(x:Option (Lr α ρ))(f:α->Option β)(o:ρ->Option β):Option β:=match x with
 | none=>none
 | some (.brk a)=>f a
 | some (.out r)=>o r
theorem b9C (a:UInt8)(r:Str):eqS [] (a::r)=false:=by simp[eqS]
theorem a1z {α:Type}{b:Nat}{l m:List α}(hl:l.length<=100000)(hm:m.length<=100000)(hb:b<=1000):app b l m=some (l++m):=by
 refine c08 ?_
 have:(l.length+m.length)*(b+1)<=200000*1001:=Nat.mul_le_mul (by omega) (by omega)
 omega
theorem b9F (t:Typ):(⟨t.kind,t.name,t.n,t.args⟩:Typ)=t:=by cases t;rfl
def kindOf (s:Str)(a:List Typ):Int :=
 cond (eqB (List.length a:Int) 0&&eqS s [73,110,116]) 1 (cond (eqB (List.length a:Int) 0&&eqS s [66,111,111,108]) 2 (cond (eqB (List.length a:Int) 0&&eqS s [84,101,120,116]) 3 (cond (eqB (List.length a:Int) 0&&eqS s [85,110,105,116]) 4
 (cond (eqB (List.length a:Int) 1&&eqS s [65,114,114,97,121]) 5 (cond (eqB (List.length a:Int) 1&&eqS s [87,101,97,107]) 11 6)))))
def a4H (s:Str)(a:List Typ):Typ:=⟨kindOf s a,cond (!eqB (kindOf s a) 6) [] s,0,a⟩
theorem b5C (s:Str)(a:List Typ):a4K s a=some (a4H s a):=by
 unfold a4K a4H kindOf
 rcases a with _ |⟨x,_ |⟨y,r⟩⟩
 ·rw[show eqB (List.length ([]:List Typ):Int) 0=true from a0C rfl,show eqB (List.length ([]:List Typ):Int) 1=false from a1G (by simp),show ltB 0 (List.length ([]:List Typ):Int)=false from a1j (by simp)]
  cases eqS s [73,110,116]<;>cases eqS s [66,111,111,108]<;>cases eqS s [84,101,120,116]<;>cases eqS s [85,110,105,116]<;>simp[a1A,eqB]
 ·rw[show eqB (List.length [x]:Int) 0=false from a1G (by simp),show eqB (List.length [x]:Int) 1=true from a0C (by simp),show ltB 0 (List.length [x]:Int)=true from a0v (by simp)]
  cases h1:eqS s [65,114,114,97,121]<;>cases h2:eqS s [87,101,97,107]<;>simp[a1A,eqB]
 ·rw[show eqB (List.length (x::y::r):Int) 0=false from a1G (by simp;omega),show eqB (List.length (x::y::r):Int) 1=false from a1G (by simp;omega),show ltB 0 (List.length (x::y::r):Int)=true from a0v (by simp;omega)]
  simp[a1A,eqB]
theorem a6v (a b:Str):eqS a b=decide (a=b):=by rw[Bool.eq_iff_iff];simp[eqS]
mutual
def Typ.sz:Typ->Nat
 |⟨_,_,_,a⟩=>1+szT a
def szT:List Typ->Nat
 | []=>0
 | x::r=>x.sz+szT r
end
theorem tsz (k:Int)(s:Str)(n:Int)(a:List Typ):(⟨k,s,n,a⟩:Typ).sz=1+szT a:=rfl
theorem Typ.a3w (x:Typ):x.sz=1+szT x.args:=by cases x;rfl
theorem szT_nil:szT []=0:=rfl
theorem szT_cons (x:Typ)(r:List Typ):szT (x::r)=x.sz+szT r:=rfl
theorem a9y:∀a b:List Typ,szT (a++b)=szT a+szT b
 | [],b=>by simp[szT]
 | x::a,b=>by rw[List.cons_append,szT,szT,a9y a b];omega
theorem a5T:∀l:List Typ,l.length<=szT l
 | []=>Nat.le_refl _
 | x::r=>by have:=a5T r;have:=x.a3w;simp only[szT,List.length_cons];omega
theorem a3p {x:Typ}:∀{l:List Typ},x∈l->x.sz<=szT l
 | y::r,h=>by
  simp only[szT]
  rcases List.mem_cons.1 h with rfl|h
  ·omega
  ·have:=a3p h;omega
mutual
def Nod.sz:Nod->Nat
 |⟨_,_,_,t,ts,l,_⟩=>1+t.sz+szT ts+szN l
def szN:List Nod->Nat
 | []=>0
 | x::r=>x.sz+szN r
end
mutual
def Nod.er:Nod->Nod
 |⟨o,s,n,t,ts,l,_⟩=>⟨o,s,n,t,ts,ers l,0⟩
def ers:List Nod->List Nod
 | []=>[]
 | x::r=>x.er::ers r
end
theorem nsz (o:Int)(s:Str)(n:Int)(t:Typ)(ts:List Typ)(l:List Nod)(a:Int):(⟨o,s,n,t,ts,l,a⟩:Nod).sz=1+t.sz+szT ts+szN l:=rfl
theorem Nod.a3w (x:Nod):x.sz=1+x.t.sz+szT x.ts+szN x.l:=by cases x;rfl
theorem Nod.sz2 (x:Nod):2<=x.sz:=by have:=x.a3w;have:=x.t.a3w;omega
theorem c4g:szN []=0:=rfl
theorem a3X (x:Nod)(r:List Nod):szN (x::r)=x.sz+szN r:=rfl
theorem b6l:∀a b:List Nod,szN (a++b)=szN a+szN b
 | [],b=>by simp[szN]
 | x::a,b=>by rw[List.cons_append,szN,szN,b6l a b];omega
theorem a1y:∀l:List Nod,l.length<=szN l
 | []=>Nat.le_refl _
 | x::r=>by have:=a1y r;have:=x.sz2;simp only[szN,List.length_cons];omega
theorem a5r {x:Nod}:∀{l:List Nod},x∈l->x.sz<=szN l
 | y::r,h=>by
  simp only[szN]
  rcases List.mem_cons.1 h with rfl|h
  ·omega
  ·have:=a5r h;omega
theorem SZ:(∀(o:Int) (s:Str) (n:Int) (t:Typ) (ts:List Typ) (l:List Nod) (a:Int),(⟨o,s,n,t,ts,l,a⟩:Nod).sz=1+t.sz+szT ts+szN l)/\szN []=0/\(∀(x:Nod) (r:List Nod),szN (x::r)=x.sz+szN r)/\(∀a b:List Nod,szN (a++b)=szN a+szN b)/\szT []=0/\(∀(x:Typ) (r:List Typ),szT (x::r)=x.sz+szT r)/\(∀a b:List Typ,szT (a++b)=szT a+szT b)/\(∀(k:Int) (s:Str) (n:Int) (a:List Typ),(⟨k,s,n,a⟩:Typ).sz=1+szT a)/\(∀(s:Str) (a:List Typ),(a4H s a).sz<=1+szT a->True):=⟨nsz,c4g,a3X,b6l,szT_nil,szT_cons,a9y,tsz,fun _ _ _=>trivial⟩
theorem baseT_sz (s:Str)(a:List Typ):(a4H s a).sz<=1+szT a:=Nat.le_refl _
theorem er_mk {o:Int}{s:Str}{n:Int}{t:Typ}{ts:List Typ}{l l':List Nod}{a a':Int}(h:ers l=ers l'):(⟨o,s,n,t,ts,l,a⟩:Nod).er =(⟨o,s,n,t,ts,l',a'⟩:Nod).er:=by
 simp only[Nod.er,h]
theorem er_mks {o:Int}{s s':Str}{n:Int}{t:Typ}{ts:List Typ}{l l':List Nod}{a a':Int}(hs:s=s')(h:ers l=ers l'):(⟨o,s,n,t,ts,l,a⟩:Nod).er =(⟨o,s',n,t,ts,l',a'⟩:Nod).er:=by
 simp only[Nod.er,h,hs]
theorem a0T {x y:Nod}{r r':List Nod}(h1:x.er=y.er)(h2:ers r=ers r'):ers (x::r)=ers (y::r'):=by simp only[ers,h1,h2]
theorem c1C:∀(a b:List Nod),ers (a++b)=ers a++ers b
 | [],b=>rfl
 | x::a,b=>by rw[List.cons_append,ers,ers,c1C a b];rfl
theorem c3j {a a' b b':List Nod}(h1:ers a=ers a')(h2:ers b=ers b'):ers (a++b)=ers (a'++b'):=by rw[c1C,c1C,h1,h2]
theorem a7f:∀l:List Nod,(ers l).length=l.length
 | []=>rfl
 | x::r=>by rw[ers,List.length_cons,a7f r];rfl
theorem a3Y {a b:List Nod}(h:ers a=ers b):b.length=a.length:=by rw[<-a7f a,h,a7f]
theorem Nod.er_eq (x:Nod):x.er =⟨x.op,x.s,x.n,x.t,x.ts,ers x.l,0⟩:=by cases x;rfl
theorem a7U {x y:Nod}(h:x.er=y.er):x.op=y.op/\x.s=y.s/\x.n=y.n/\x.t=y.t/\x.ts=y.ts/\ers x.l=ers y.l:=by
 rw[x.er_eq,y.er_eq]at h
 simp only[Nod.mk.injEq]at h
 exact⟨h.1,h.2.1,h.2.2.1,h.2.2.2.1,h.2.2.2.2.1,h.2.2.2.2.2.1⟩
theorem er_s {x y:Nod}(h:x.er=y.er):x.s=y.s:=(a7U h).2.1
def a1h (l:List Tok)(k:Nat):Tok:=(l[k]?).getD ⟨0,[],0,0⟩
def isK (l:List Tok)(kind:Int)(k:Nat):Bool:=decide (k<l.length)&&eqB (a1h l k).kind kind
def isT (l:List Tok)(kind:Int)(s:Str)(k:Nat):Bool:=isK l kind k&&eqS (a1h l k).text s
def M8 (l:List Tok)(size:Int)(k:Nat):Int:=cond (decide (k<l.length)) (a1h l k).at_ size
theorem a5a {l:List Tok}{kind:Int}{k:Nat}(h:isK l kind k=true):k<l.length:=by
 unfold isK at h
 rw[Bool.and_eq_true]at h
 exact of_decide_eq_true h.1
theorem b4D {l:List Tok}{kind:Int}{s:Str}{k:Nat}(h:isT l kind s k=true):isK l kind k=true:=by
 unfold isT at h
 rw[Bool.and_eq_true]at h
 exact h.1
theorem a5b {l:List Tok}{kind:Int}{s:Str}{k:Nat}(h:isT l kind s k=true):k<l.length:=a5a (b4D h)
theorem isT_tx {l:List Tok}{kind:Int}{s:Str}{k:Nat}(h:isT l kind s k=true):(a1h l k).text=s:=by
 unfold isT at h
 rw[Bool.and_eq_true,a6v]at h
 exact of_decide_eq_true h.2
theorem b2b {l:List Tok}{kind kind':Int}{k:Nat}(h:isK l kind k=true)(hn:kind≠kind'):isK l kind' k=false:=by
 unfold isK at h ⊢
 rw[Bool.and_eq_true,a5Y]at h
 rw[a1G (by rw[of_decide_eq_true h.2];exact hn),Bool.and_false]
theorem b5n {l:List Tok}{kind kind':Int}{s:Str}{k:Nat}(h:isT l kind s k=true)(hn:kind≠kind'):isK l kind' k=false:=b2b (b4D h) hn
theorem b0u {l:List Tok}{kind kind':Int}{s:Str}{k:Nat}(h:isK l kind k=true)(hn:kind≠kind'):isT l kind' s k=false:=by unfold isT;rw[b2b h hn,Bool.false_and]
theorem b2c {l:List Tok}{kind kind':Int}{s u:Str}{k:Nat}(h:isT l kind s k=true)(hn:kind≠kind'):isT l kind' u k=false:=b0u (b4D h) hn
theorem b2d {l:List Tok}{kind:Int}{s u:Str}{k:Nat}(h:isT l kind s k=true)(hn:s≠u):isT l kind u k=false:=by
 have h2:=isT_tx h
 unfold isT
 rw[h2,a6v,decide_eq_false hn,Bool.and_false]
theorem isT_neg {l:List Tok}{kind:Int}{u:Str}{k:Nat}(h:isK l kind k=true)(h2:isT l kind u k=false):(a1h l k).text≠u:=fun e=>by
 unfold isT at h2
 rw[h,e,a4Z]at h2
 cases h2
theorem a04 {l:List Tok}{k:Nat}(h:k<l.length):idx' l (k:Int)=some (a1h l k):=by
 rw[a0S h];unfold a1h;rw[List.getElem?_eq_getElem h];rfl
section
variable {l:List Tok} (hl:l.length<=3000) {k:Nat} (hk:k<=l.length) {size:Int}
include hl hk
theorem b8b:a1J l k size=some (M8 l size k):=by
 unfold a1J M8
 rcases Nat.lt_or_ge k l.length with h|h
 ·rw[a0v (by omega),cond_true,a04 h,decide_eq_true h];rfl
 ·rw[a1j (by omega),decide_eq_false (by omega)];rfl
theorem a1s {kind:Int}{a:UInt8}{r:Str}:o8 0 kind (a::r) l k size=some (isT l kind (a::r) k):=by
 unfold o8 isT isK
 rw[Int.add_zero,a5v (by omega) (by omega)]
 rcases Nat.lt_or_ge k l.length with h|h
 ·rw[b9X (by omega),cond_false,a04 h,Option.bind_some,b9B,decide_eq_true h]
  cases eqB (a1h l k).kind kind<;>simp
 ·rw[b5u (by omega),cond_true,decide_eq_false (by omega)];rfl
theorem a0n {kind:Int}:o8 0 kind [] l k size=some (isK l kind k):=by
 unfold o8 isK
 rw[Int.add_zero,a5v (by omega) (by omega)]
 rcases Nat.lt_or_ge k l.length with h|h
 ·rw[b9X (by omega),cond_false,a04 h,Option.bind_some,a4Z,decide_eq_true h]
  cases eqB (a1h l k).kind kind<;>simp
 ·rw[b5u (by omega),cond_true,decide_eq_false (by omega)];rfl
theorem is1_v {kind:Int}:o8 1 kind [] l k size=some (isK l kind (k+1)):=by
 unfold o8 isK
 rw[F9 (by omega)]
 rcases Nat.lt_or_ge (k+1) l.length with h|h
 ·rw[b9X (by omega),cond_false,a04 h,Option.bind_some,a4Z,decide_eq_true h]
  cases eqB (a1h l (k+1)).kind kind<;>simp
 ·rw[b5u (by omega),cond_true,decide_eq_false (by omega)];rfl
theorem I6 {a:UInt8}{r:Str}:A8 (a::r) l k size=some (cond (isT l 8 (a::r) k) (true,((k+1:Nat):Int)) (false,(k:Int))):=by
 unfold A8
 rw[a1s hl hk,Option.bind_some,F9 (by omega)]
 cases isT l 8 (a::r) k<;>rfl
theorem a0U {a:UInt8}{r:Str}:J8 (a::r) l k size=some (cond (isT l 9 (a::r) k) (true,((k+1:Nat):Int)) (false,(k:Int))):=by
 unfold J8
 rw[a1s hl hk,Option.bind_some,F9 (by omega)]
 cases isT l 9 (a::r) k<;>rfl
theorem b77:a0J l k size=some (.pan (M8 l size k)):=by unfold a0J;rw[b8b hl hk];rfl
theorem Y2 {a:UInt8}{r:Str}:D5 (a::r) l k size=cond (isT l 8 (a::r) k) (some (.ok ((k+1:Nat):Int))) (some (.pan (M8 l size k,(k:Int)))):=by
 unfold D5
 rw[I6 hl hk]
 cases isT l 8 (a::r) k
 ·simp only[cond_false,Option.bind_some,Bool.not_false,cond_true]
  rw[b77 hl hk];rfl
 ·rfl
theorem a2a {a:UInt8}{r:Str}:M9 (a::r) l k size=cond (isT l 9 (a::r) k) (some (.ok ((k+1:Nat):Int))) (some (.pan (M8 l size k,(k:Int)))):=by
 unfold M9
 rw[a0U hl hk]
 cases isT l 9 (a::r) k
 ·simp only[cond_false,Option.bind_some,Bool.not_false,cond_true]
  rw[b77 hl hk];rfl
 ·rfl
theorem a5U {kind:Int}:M6 kind l k size=cond (isK l kind k) (some (.ok (a1h l k))) (some (.pan (M8 l size k))):=by
 unfold M6
 rw[a0n hl hk,Option.bind_some]
 cases hb:isK l kind k
 ·simp only[Bool.not_false,cond_true,cond_false]
  rw[b77 hl hk];rfl
 ·simp only[Bool.not_true,cond_true,cond_false]
  rw[a04 (a5a hb)];rfl
theorem a2o:J5 l k size=cond (isK l 1 k) (some (.ok (a1h l k).text)) (some (.pan (M8 l size k))):=by
 unfold J5
 rw[a5U hl hk]
 cases isK l 1 k<;>rfl
theorem b9p:P7 l k size=cond (isK l 2 k) (some (.ok (a1h l k).text)) (some (.pan (M8 l size k))):=by
 unfold P7
 rw[a5U hl hk]
 cases isK l 2 k<;>rfl
theorem b9L:P8 l k size=cond (isK l 3 k) ((atoi (a1h l k).text).bind fun v=>some (.ok v)) (some (.pan (M8 l size k))):=by
 unfold P8
 rw[a5U hl hk]
 cases isK l 3 k<;>rfl
end
def S2 {A:Type}(Q:A->A->Prop)(p r:Option A):Prop:=∃a b,p=some a/\r=some b/\Q a b
theorem S2mk {A:Type}{Q:A->A->Prop}{a b:A}(h:Q a b):S2 Q (some a) (some b):=⟨a,b,rfl,rfl,h⟩
structure Cx (V:Int->Str->Prop)(l l':List Tok):Prop where
 hl:l.length<=3000
 ln:l'.length=l.length
 kd:∀k,(a1h l' k).kind =(a1h l k).kind
 tx:∀k,(a1h l' k).text =(a1h l k).text
 tk:∀{k kd},isK l kd k=true->V kd (a1h l k).text
 lit:∀{s},V 5 s∨V 6 s∨V 7 s->V 4 s
 int:∀{s},V 3 s->b2H s=true
section
variable {V:Int->Str->Prop} {l l':List Tok} (C:Cx V l l')
include C
theorem Cx.hl':l'.length<=3000:=by rw[C.ln];exact C.hl
theorem Cx.hk' {k:Nat}(h:k<=l.length):k<=l'.length:=by rw[C.ln];exact h
theorem Cx.isK' (kd:Int)(k:Nat):isK l' kd k=isK l kd k:=by unfold isK;rw[C.ln,C.kd]
theorem Cx.isT' (kd:Int)(s:Str)(k:Nat):isT l' kd s k=isT l kd s k:=by unfold isT;rw[C.isK',C.tx]
variable {A:Type} {Q:A->A->Prop} {size size':Int}
theorem c2M {k:Nat}{a:UInt8}{r:Str}{f f':Bool×Int->Option A}(hk:k<=l.length)(h1:isT l 8 (a::r) k=true->k+1<=l.length->S2 Q (f (true,((k+1:Nat):Int))) (f' (true,((k+1:Nat):Int))))(h2:isT l 8 (a::r) k=false->S2 Q (f (false,(k:Int))) (f' (false,(k:Int)))):S2 Q ((A8 (a::r) l (k:Int) size).bind f) ((A8 (a::r) l' (k:Int) size').bind f'):=by
 rw[I6 C.hl hk,I6 C.hl' (C.hk' hk),C.isT']
 cases hb:isT l 8 (a::r) k with
 | true =>
  exact h1 hb (a5b hb)
 | false =>
  exact h2 hb
theorem t_takeT {k:Nat}{a:UInt8}{r:Str}{f f':Bool×Int->Option A}(h:isT l 8 (a::r) k=true)(h1:k+1<=l.length->S2 Q (f (true,((k+1:Nat):Int))) (f' (true,((k+1:Nat):Int)))):S2 Q ((A8 (a::r) l (k:Int) size).bind f) ((A8 (a::r) l' (k:Int) size').bind f'):=c2M C (Nat.le_of_lt (a5b h)) (fun _=>h1) fun h2=>by rw[h]at h2;cases h2
theorem b4L {k:Nat}{a:UInt8}{r:Str}{f f':Bool×Int->Option A}(hk:k<=l.length)(h:isT l 8 (a::r) k=false)(h2:S2 Q (f (false,(k:Int))) (f' (false,(k:Int)))):S2 Q ((A8 (a::r) l (k:Int) size).bind f) ((A8 (a::r) l' (k:Int) size').bind f'):=c2M C hk (fun h1=>by rw[h]at h1;cases h1) fun _=>h2
theorem t_key {k:Nat}{a:UInt8}{r:Str}{f f':Bool×Int->Option A}(hk:k<=l.length)(h1:isT l 9 (a::r) k=true->k+1<=l.length->S2 Q (f (true,((k+1:Nat):Int))) (f' (true,((k+1:Nat):Int))))(h2:isT l 9 (a::r) k=false->S2 Q (f (false,(k:Int))) (f' (false,(k:Int)))):S2 Q ((J8 (a::r) l (k:Int) size).bind f) ((J8 (a::r) l' (k:Int) size').bind f'):=by
 rw[a0U C.hl hk,a0U C.hl' (C.hk' hk),C.isT']
 cases hb:isT l 9 (a::r) k with
 | true =>
  exact h1 hb (a5b hb)
 | false =>
  exact h2 hb
theorem t_keyT {k:Nat}{a:UInt8}{r:Str}{f f':Bool×Int->Option A}(h:isT l 9 (a::r) k=true)(h1:k+1<=l.length->S2 Q (f (true,((k+1:Nat):Int))) (f' (true,((k+1:Nat):Int)))):S2 Q ((J8 (a::r) l (k:Int) size).bind f) ((J8 (a::r) l' (k:Int) size').bind f'):=t_key C (Nat.le_of_lt (a5b h)) (fun _=>h1) fun h2=>by rw[h]at h2;cases h2
theorem b8S {k:Nat}{a:UInt8}{r:Str}{f f':Bool×Int->Option A}(hk:k<=l.length)(h:isT l 9 (a::r) k=false)(h2:S2 Q (f (false,(k:Int))) (f' (false,(k:Int)))):S2 Q ((J8 (a::r) l (k:Int) size).bind f) ((J8 (a::r) l' (k:Int) size').bind f'):=t_key C hk (fun h1=>by rw[h]at h1;cases h1) fun _=>h2
theorem c2N {k:Nat}{a:UInt8}{r:Str}{f f':Int->Option A}{g g':Int×Int->Option A}(hk:k<=l.length)(h1:isT l 8 (a::r) k=true->k+1<=l.length->S2 Q (f ((k+1:Nat):Int)) (f' ((k+1:Nat):Int)))(h2:isT l 8 (a::r) k=false->S2 Q (g (M8 l size k,(k:Int))) (g' (M8 l' size' k,(k:Int)))):S2 Q (p8 (D5 (a::r) l (k:Int) size) f g) (p8 (D5 (a::r) l' (k:Int) size') f' g'):=by
 rw[Y2 C.hl hk,Y2 C.hl' (C.hk' hk),C.isT']
 cases hb:isT l 8 (a::r) k with
 | true =>
  exact h1 hb (a5b hb)
 | false =>
  exact h2 hb
theorem t_wantT {k:Nat}{a:UInt8}{r:Str}{f f':Int->Option A}{g g':Int×Int->Option A}(h:isT l 8 (a::r) k=true)(h1:k+1<=l.length->S2 Q (f ((k+1:Nat):Int)) (f' ((k+1:Nat):Int))):S2 Q (p8 (D5 (a::r) l (k:Int) size) f g) (p8 (D5 (a::r) l' (k:Int) size') f' g'):=c2N C (Nat.le_of_lt (a5b h)) (fun _=>h1) fun h2=>by rw[h]at h2;cases h2
theorem b4M {k:Nat}{a:UInt8}{r:Str}{f f':Int->Option A}{g g':Int×Int->Option A}(hk:k<=l.length)(h:isT l 8 (a::r) k=false)(h2:S2 Q (g (M8 l size k,(k:Int))) (g' (M8 l' size' k,(k:Int)))):S2 Q (p8 (D5 (a::r) l (k:Int) size) f g) (p8 (D5 (a::r) l' (k:Int) size') f' g'):=c2N C hk (fun h1=>by rw[h]at h1;cases h1) fun _=>h2
theorem b3N {k:Nat}{a:UInt8}{r:Str}{f f':Int->Option A}{g g':Int×Int->Option A}(hk:k<=l.length)(h1:isT l 9 (a::r) k=true->k+1<=l.length->S2 Q (f ((k+1:Nat):Int)) (f' ((k+1:Nat):Int)))(h2:isT l 9 (a::r) k=false->S2 Q (g (M8 l size k,(k:Int))) (g' (M8 l' size' k,(k:Int)))):S2 Q (p8 (M9 (a::r) l (k:Int) size) f g) (p8 (M9 (a::r) l' (k:Int) size') f' g'):=by
 rw[a2a C.hl hk,a2a C.hl' (C.hk' hk),C.isT']
 cases hb:isT l 9 (a::r) k with
 | true =>
  exact h1 hb (a5b hb)
 | false =>
  exact h2 hb
theorem c2O {k:Nat}{a:UInt8}{r:Str}{f f':Int->Option A}{g g':Int×Int->Option A}(h:isT l 9 (a::r) k=true)(h1:k+1<=l.length->S2 Q (f ((k+1:Nat):Int)) (f' ((k+1:Nat):Int))):S2 Q (p8 (M9 (a::r) l (k:Int) size) f g) (p8 (M9 (a::r) l' (k:Int) size') f' g'):=b3N C (Nat.le_of_lt (a5b h)) (fun _=>h1) fun h2=>by rw[h]at h2;cases h2
theorem a9z {k:Nat}{a:UInt8}{r:Str}{f f':Int->Option A}{g g':Int×Int->Option A}(hk:k<=l.length)(h:isT l 9 (a::r) k=false)(h2:S2 Q (g (M8 l size k,(k:Int))) (g' (M8 l' size' k,(k:Int)))):S2 Q (p8 (M9 (a::r) l (k:Int) size) f g) (p8 (M9 (a::r) l' (k:Int) size') f' g'):=b3N C hk (fun h1=>by rw[h]at h1;cases h1) fun _=>h2
theorem t_is1 {k:Nat}{a:UInt8}{r:Str}{f f':Bool->Option A}(hk:k<=l.length)(h1:isT l 1 (a::r) k=true->k+1<=l.length->S2 Q (f true) (f' true))(h2:isT l 1 (a::r) k=false->S2 Q (f false) (f' false)):S2 Q ((o8 0 1 (a::r) l (k:Int) size).bind f) ((o8 0 1 (a::r) l' (k:Int) size').bind f'):=by
 rw[a1s C.hl hk,a1s C.hl' (C.hk' hk),C.isT']
 cases hb:isT l 1 (a::r) k with
 | true =>
  exact h1 hb (a5b hb)
 | false =>
  exact h2 hb
theorem t_is1T {k:Nat}{a:UInt8}{r:Str}{f f':Bool->Option A}(h:isT l 1 (a::r) k=true)(h1:k+1<=l.length->S2 Q (f true) (f' true)):S2 Q ((o8 0 1 (a::r) l (k:Int) size).bind f) ((o8 0 1 (a::r) l' (k:Int) size').bind f'):=t_is1 C (Nat.le_of_lt (a5b h)) (fun _=>h1) fun h2=>by rw[h]at h2;cases h2
theorem b8P {k:Nat}{a:UInt8}{r:Str}{f f':Bool->Option A}(hk:k<=l.length)(h:isT l 1 (a::r) k=false)(h2:S2 Q (f false) (f' false)):S2 Q ((o8 0 1 (a::r) l (k:Int) size).bind f) ((o8 0 1 (a::r) l' (k:Int) size').bind f'):=t_is1 C hk (fun h1=>by rw[h]at h1;cases h1) fun _=>h2
theorem t_is8 {k:Nat}{a:UInt8}{r:Str}{f f':Bool->Option A}(hk:k<=l.length)(h1:isT l 8 (a::r) k=true->k+1<=l.length->S2 Q (f true) (f' true))(h2:isT l 8 (a::r) k=false->S2 Q (f false) (f' false)):S2 Q ((o8 0 8 (a::r) l (k:Int) size).bind f) ((o8 0 8 (a::r) l' (k:Int) size').bind f'):=by
 rw[a1s C.hl hk,a1s C.hl' (C.hk' hk),C.isT']
 cases hb:isT l 8 (a::r) k with
 | true =>
  exact h1 hb (a5b hb)
 | false =>
  exact h2 hb
theorem t_is8T {k:Nat}{a:UInt8}{r:Str}{f f':Bool->Option A}(h:isT l 8 (a::r) k=true)(h1:k+1<=l.length->S2 Q (f true) (f' true)):S2 Q ((o8 0 8 (a::r) l (k:Int) size).bind f) ((o8 0 8 (a::r) l' (k:Int) size').bind f'):=t_is8 C (Nat.le_of_lt (a5b h)) (fun _=>h1) fun h2=>by rw[h]at h2;cases h2
theorem b8Q {k:Nat}{a:UInt8}{r:Str}{f f':Bool->Option A}(hk:k<=l.length)(h:isT l 8 (a::r) k=false)(h2:S2 Q (f false) (f' false)):S2 Q ((o8 0 8 (a::r) l (k:Int) size).bind f) ((o8 0 8 (a::r) l' (k:Int) size').bind f'):=t_is8 C hk (fun h1=>by rw[h]at h1;cases h1) fun _=>h2
theorem t_is9 {k:Nat}{a:UInt8}{r:Str}{f f':Bool->Option A}(hk:k<=l.length)(h1:isT l 9 (a::r) k=true->k+1<=l.length->S2 Q (f true) (f' true))(h2:isT l 9 (a::r) k=false->S2 Q (f false) (f' false)):S2 Q ((o8 0 9 (a::r) l (k:Int) size).bind f) ((o8 0 9 (a::r) l' (k:Int) size').bind f'):=by
 rw[a1s C.hl hk,a1s C.hl' (C.hk' hk),C.isT']
 cases hb:isT l 9 (a::r) k with
 | true =>
  exact h1 hb (a5b hb)
 | false =>
  exact h2 hb
theorem t_is9T {k:Nat}{a:UInt8}{r:Str}{f f':Bool->Option A}(h:isT l 9 (a::r) k=true)(h1:k+1<=l.length->S2 Q (f true) (f' true)):S2 Q ((o8 0 9 (a::r) l (k:Int) size).bind f) ((o8 0 9 (a::r) l' (k:Int) size').bind f'):=t_is9 C (Nat.le_of_lt (a5b h)) (fun _=>h1) fun h2=>by rw[h]at h2;cases h2
theorem b8R {k:Nat}{a:UInt8}{r:Str}{f f':Bool->Option A}(hk:k<=l.length)(h:isT l 9 (a::r) k=false)(h2:S2 Q (f false) (f' false)):S2 Q ((o8 0 9 (a::r) l (k:Int) size).bind f) ((o8 0 9 (a::r) l' (k:Int) size').bind f'):=t_is9 C hk (fun h1=>by rw[h]at h1;cases h1) fun _=>h2
theorem t_isK {k:Nat}{kd:Int}{f f':Bool->Option A}(hk:k<=l.length)(h1:isK l kd k=true->k+1<=l.length->S2 Q (f true) (f' true))(h2:isK l kd k=false->S2 Q (f false) (f' false)):S2 Q ((o8 0 kd [] l (k:Int) size).bind f) ((o8 0 kd [] l' (k:Int) size').bind f'):=by
 rw[a0n C.hl hk,a0n C.hl' (C.hk' hk),C.isK']
 cases hb:isK l kd k with
 | true =>
  exact h1 hb (a5a hb)
 | false =>
  exact h2 hb
theorem t_isKT {k:Nat}{kd:Int}{f f':Bool->Option A}(h:isK l kd k=true)(h1:k+1<=l.length->S2 Q (f true) (f' true)):S2 Q ((o8 0 kd [] l (k:Int) size).bind f) ((o8 0 kd [] l' (k:Int) size').bind f'):=t_isK C (Nat.le_of_lt (a5a h)) (fun _=>h1) fun h2=>by rw[h]at h2;cases h2
theorem c2K {k:Nat}{kd:Int}{f f':Bool->Option A}(hk:k<=l.length)(h:isK l kd k=false)(h2:S2 Q (f false) (f' false)):S2 Q ((o8 0 kd [] l (k:Int) size).bind f) ((o8 0 kd [] l' (k:Int) size').bind f'):=t_isK C hk (fun h1=>by rw[h]at h1;cases h1) fun _=>h2
theorem c2L {k:Nat}  {f f':Str->Option A}{g g':Int->Option A}(hk:k<=l.length)(h1:isK l 1 k=true->k+1<=l.length->S2 Q (f (a1h l k).text) (f' (a1h l k).text))(h2:isK l 1 k=false->S2 Q (g (M8 l size k)) (g' (M8 l' size' k))):S2 Q (p8 (J5 l (k:Int) size) f g) (p8 (J5 l' (k:Int) size') f' g'):=by
 rw[a2o C.hl hk,a2o C.hl' (C.hk' hk),C.isK',C.tx]
 cases hb:isK l 1 k with
 | true =>
  exact h1 hb (a5a hb)
 | false =>
  exact h2 hb
theorem t_nameT {k:Nat}  {f f':Str->Option A}{g g':Int->Option A}(h:isK l 1 k=true)(h1:k+1<=l.length->S2 Q (f (a1h l k).text) (f' (a1h l k).text)):S2 Q (p8 (J5 l (k:Int) size) f g) (p8 (J5 l' (k:Int) size') f' g'):=c2L C (Nat.le_of_lt (a5a h)) (fun _=>h1) fun h2=>by rw[h]at h2;cases h2
theorem b8T {k:Nat}  {f f':Str->Option A}{g g':Int->Option A}(hk:k<=l.length)(h:isK l 1 k=false)(h2:S2 Q (g (M8 l size k)) (g' (M8 l' size' k))):S2 Q (p8 (J5 l (k:Int) size) f g) (p8 (J5 l' (k:Int) size') f' g'):=c2L C hk (fun h1=>by rw[h]at h1;cases h1) fun _=>h2
theorem t_cap {k:Nat}  {f f':Str->Option A}{g g':Int->Option A}(hk:k<=l.length)(h1:isK l 2 k=true->k+1<=l.length->S2 Q (f (a1h l k).text) (f' (a1h l k).text))(h2:isK l 2 k=false->S2 Q (g (M8 l size k)) (g' (M8 l' size' k))):S2 Q (p8 (P7 l (k:Int) size) f g) (p8 (P7 l' (k:Int) size') f' g'):=by
 rw[b9p C.hl hk,b9p C.hl' (C.hk' hk),C.isK',C.tx]
 cases hb:isK l 2 k with
 | true =>
  exact h1 hb (a5a hb)
 | false =>
  exact h2 hb
theorem t_capT {k:Nat}  {f f':Str->Option A}{g g':Int->Option A}(h:isK l 2 k=true)(h1:k+1<=l.length->S2 Q (f (a1h l k).text) (f' (a1h l k).text)):S2 Q (p8 (P7 l (k:Int) size) f g) (p8 (P7 l' (k:Int) size') f' g'):=t_cap C (Nat.le_of_lt (a5a h)) (fun _=>h1) fun h2=>by rw[h]at h2;cases h2
theorem c2I {k:Nat}  {f f':Str->Option A}{g g':Int->Option A}(hk:k<=l.length)(h:isK l 2 k=false)(h2:S2 Q (g (M8 l size k)) (g' (M8 l' size' k))):S2 Q (p8 (P7 l (k:Int) size) f g) (p8 (P7 l' (k:Int) size') f' g'):=t_cap C hk (fun h1=>by rw[h]at h1;cases h1) fun _=>h2
theorem b8U {k:Nat}{kd:Int}{f f':Tok->Option A}{g g':Int->Option A}(hk:k<=l.length)(h1:isK l kd k=true->k+1<=l.length->S2 Q (f (a1h l k)) (f' (a1h l' k)))(h2:isK l kd k=false->S2 Q (g (M8 l size k)) (g' (M8 l' size' k))):S2 Q (p8 (M6 kd l (k:Int) size) f g) (p8 (M6 kd l' (k:Int) size') f' g'):=by
 rw[a5U C.hl hk,a5U C.hl' (C.hk' hk),C.isK']
 cases hb:isK l kd k with
 | true =>
  exact h1 hb (a5a hb)
 | false =>
  exact h2 hb
theorem t_tokenT {k:Nat}{kd:Int}{f f':Tok->Option A}{g g':Int->Option A}(h:isK l kd k=true)(h1:k+1<=l.length->S2 Q (f (a1h l k)) (f' (a1h l' k))):S2 Q (p8 (M6 kd l (k:Int) size) f g) (p8 (M6 kd l' (k:Int) size') f' g'):=b8U C (Nat.le_of_lt (a5a h)) (fun _=>h1) fun h2=>by rw[h]at h2;cases h2
theorem b6o {k:Nat}{kd:Int}{f f':Tok->Option A}{g g':Int->Option A}(hk:k<=l.length)(h:isK l kd k=false)(h2:S2 Q (g (M8 l size k)) (g' (M8 l' size' k))):S2 Q (p8 (M6 kd l (k:Int) size) f g) (p8 (M6 kd l' (k:Int) size') f' g'):=b8U C hk (fun h1=>by rw[h]at h1;cases h1) fun _=>h2
theorem t_int {k:Nat}  {f f' g g':Int->Option A}(hk:k<=l.length)(h1:isK l 3 k=true->k+1<=l.length->S2 Q (f ((a0B (a1h l k).text 0:Nat):Int)) (f' ((a0B (a1h l k).text 0:Nat):Int)))(h2:isK l 3 k=false->S2 Q (g (M8 l size k)) (g' (M8 l' size' k))):S2 Q (p8 (P8 l (k:Int) size) f g) (p8 (P8 l' (k:Int) size') f' g'):=by
 rw[b9L C.hl hk,b9L C.hl' (C.hk' hk),C.isK',C.tx]
 cases hb:isK l 3 k with
 | true =>
  simp only[atoi,C.int (C.tk hb)]
  exact h1 hb (a5a hb)
 | false =>
  exact h2 hb
theorem t_intT {k:Nat}  {f f' g g':Int->Option A}(h:isK l 3 k=true)(h1:k+1<=l.length->S2 Q (f ((a0B (a1h l k).text 0:Nat):Int)) (f' ((a0B (a1h l k).text 0:Nat):Int))):S2 Q (p8 (P8 l (k:Int) size) f g) (p8 (P8 l' (k:Int) size') f' g'):=t_int C (Nat.le_of_lt (a5a h)) (fun _=>h1) fun h2=>by rw[h]at h2;cases h2
theorem c2J {k:Nat}  {f f' g g':Int->Option A}(hk:k<=l.length)(h:isK l 3 k=false)(h2:S2 Q (g (M8 l size k)) (g' (M8 l' size' k))):S2 Q (p8 (P8 l (k:Int) size) f g) (p8 (P8 l' (k:Int) size') f' g'):=t_int C hk (fun h1=>by rw[h]at h1;cases h1) fun _=>h2
theorem t_is1_1 {k:Nat}{kd:Int}{f f':Bool->Option A}(hk:k<=l.length)(h1:∀b,S2 Q (f b) (f' b)):S2 Q ((o8 1 kd [] l (k:Int) size).bind f) ((o8 1 kd [] l' (k:Int) size').bind f'):=by
 rw[is1_v C.hl hk,is1_v C.hl' (C.hk' hk),C.isK']
 exact h1 _
theorem t_node {k:Nat}{op:Int}{f f':Int->Option A}(hk:k<=l.length)(h:∀a a',S2 Q (f a) (f' a')):S2 Q ((F7 op l (k:Int) size).bind f) ((F7 op l' (k:Int) size').bind f'):=by
 unfold F7
 rw[b8b C.hl hk,b8b C.hl' (C.hk' hk)]
 exact h _ _
theorem t_idx {k:Nat}{f f':Tok->Option A}(hk:k<l.length)(h:S2 Q (f (a1h l k)) (f' (a1h l' k))):S2 Q ((idx' l (k:Int)).bind f) ((idx' l' (k:Int)).bind f'):=by
 rw[a04 hk,a04 (by rw[C.ln];exact hk)]
 exact h
theorem t_app {α:Type}{b:Nat}{x y x' y':List α}{f f':List α->Option A}(h1:x.length<=100000)(h2:y.length<=100000)(h3:x'.length<=100000)(h4:y'.length<=100000)(hb:b<=1000)(h:S2 Q (f (x++y)) (f' (x'++y'))):S2 Q ((app b x y).bind f) ((app b x' y').bind f'):=by
 rw[a1z h1 h2 hb,a1z h3 h4 hb];exact h
end
theorem t_if {A:Type}{Q:A->A->Prop}{b:Bool}{x y x' y':Option A}(h1:b=true->S2 Q x x')(h2:b=false->S2 Q y y'):S2 Q (cond b x y) (cond b x' y'):=by
 cases b
 ·exact h2 rfl
 ·exact h1 rfl
theorem CD:(∀{α β:Type} (b:Bool) (x y:Option α) (f:α->Option β),(cond b x y).bind f=cond b (x.bind f) (y.bind f))/\(∀{α ρ β:Type} (b:Bool) (x y:Option (Lr α ρ)) (f:α->Option β) (o:ρ->Option β),bS (cond b x y) f o=cond b (bS x f o) (bS y f o))/\(∀{α β γ:Type} (b:Bool) (x y:Option (Rs α β)) (f:α->Option γ) (o:β->Option γ),p8 (cond b x y) f o=cond b (p8 x f o) (p8 y f o)):=⟨fun b _ _ _=>by cases b<;>rfl,fun b _ _ _ _=>by cases b<;>rfl,fun b _ _ _ _=>by cases b<;>rfl⟩
theorem NF:(∀{α β γ:Type} (x:Option α) (f:α->Option β) (g:β->Option γ),(x.bind f).bind g=x.bind fun a=>(f a).bind g) /\
  (∀{α β γ δ:Type} (x:Option δ) (f:δ->Option (Rs α β)) (k:α->Option γ) (p:β->Option γ),p8 (x.bind f) k p=x.bind fun a=>p8 (f a) k p) /\
  (∀{α ρ:Type} (x:Option (Lr α ρ)) (k:α->Option ρ),a1A x k=bS x k some) /\
  (∀{α γ ρ:Type} (x:Option (Lr α ρ)) (k:α->Option (Lr γ ρ)),a8o x k=bS x k fun r=>some (.out r)) /\
  (∀{α β γ δ:Type} (x:Option (Rs α β)) (f:α->Option γ) (g:β->Option γ) (h:γ->Option δ),(p8 x f g).bind h=p8 x (fun a=>(f a).bind h) fun b=>(g b).bind h) /\
  (∀{α β α' β' γ:Type} (x:Option (Rs α β)) (f:α->Option (Rs α' β')) (g:β->Option (Rs α' β')) (k:α'->Option γ) (p:β'->Option γ),p8 (p8 x f g) k p=p8 x (fun a=>p8 (f a) k p) fun b=>p8 (g b) k p) /\
  (∀{α ρ β δ:Type} (x:Option δ) (f:δ->Option (Lr α ρ)) (h:α->Option β) (o:ρ->Option β),bS (x.bind f) h o=x.bind fun a=>bS (f a) h o) /\
  (∀{α ρ β δ ε:Type} (x:Option (Rs δ ε)) (f:δ->Option (Lr α ρ)) (g:ε->Option (Lr α ρ)) (h:α->Option β) (o:ρ->Option β),bS (p8 x f g) h o=p8 x (fun a=>bS (f a) h o) fun b=>bS (g b) h o) /\
  (∀{α ρ β δ ε:Type} (x:Option (Lr δ ε)) (f:δ->Option (Lr α ρ)) (g:ε->Option (Lr α ρ)) (h:α->Option β) (o:ρ->Option β),bS (bS x f g) h o=bS x (fun a=>bS (f a) h o) fun b=>bS (g b) h o) /\
  (∀{α ρ β γ:Type} (x:Option (Lr α ρ)) (f:α->Option β) (o:ρ->Option β) (h:β->Option γ),(bS x f o).bind h=bS x (fun a=>(f a).bind h) fun b=>(o b).bind h) /\
  (∀{α ρ β γ δ:Type} (x:Option (Lr α ρ)) (f:α->Option (Rs β γ)) (o:ρ->Option (Rs β γ)) (k:β->Option δ) (p:γ->Option δ),p8 (bS x f o) k p=bS x (fun a=>p8 (f a) k p) fun b=>p8 (o b) k p) /\
  (∀{α ρ β:Type} (a:α) (f:α->Option β) (o:ρ->Option β),bS (some (.brk a)) f o=f a)/\(∀{α ρ β:Type} (r:ρ) (f:α->Option β) (o:ρ->Option β),bS (some (.out r)) f o=o r) /\
  (∀{α β γ:Type} (a:α) (f:α->Option γ) (g:β->Option γ),p8 (some (.ok a)) f g=f a)/\(∀{α β γ:Type} (b:β) (f:α->Option γ) (g:β->Option γ),p8 (some (.pan b)) f g=g b) /\
  (∀{α β:Type} (a:α) (f:α->Option β),(some a).bind f=f a)/\(∀{α:Type} (a b:α),cond true a b=a)/\(∀{α:Type} (a b:α),cond false a b=b)/\(!true)=false/\(!false)=true:=by
 refine⟨fun x f g=>?_,fun x f k p=>?_,fun x f=>?_,fun x f=>?_,fun x f g h=>?_,fun x f g k p=>?_,fun x f h o=>?_,fun x f g h o=>?_,fun x f g h o=>?_,fun x f o h=>?_,fun x f o k p=>?_,fun _ _ _=>rfl,fun _ _ _=>rfl,fun _ _ _=>rfl,fun _ _ _=>rfl,fun _ _=>rfl,fun _ _=>rfl,fun _ _=>rfl,rfl,rfl⟩<;>(rcases x with _|x)<;>first|rfl |(cases x<;>rfl)
theorem all_nil {α:Type}{P:α->Prop}:∀x∈([]:List α),P x:=fun x h=>by cases h
theorem a6z {α:Type}{P:α->Prop}{a b:List α}(h1:∀x∈a,P x)(h2:∀x∈b,P x):∀x∈a++b,P x:=fun x h=>by
 rcases List.mem_append.1 h with h|h
 ·exact h1 x h
 ·exact h2 x h
theorem a4X {α:Type}{P:α->Prop}{a:α}(h:P a):∀x ∈ [a],P x:=fun x hx=>by
 rcases List.mem_singleton.1 hx with rfl
 exact h
abbrev zT:Typ:=⟨0,[],0,[]⟩
abbrev uT:Typ:=⟨4,[],0,[]⟩
inductive GT (V:Int->Str->Prop):Bool->Typ->Prop
 | base {s:Str} {a:List Typ}:V 2 s ->(∀x∈a,GT V false x)->GT V true (a4H s a)
 | dot {s:Str} {t:Typ}:V 2 s->GT V true t->GT V true ⟨8,s,0,[t]⟩
 | path {t:Typ}:GT V true t->GT V false t
 | any {s:Str}:V 2 s->GT V false ⟨9,s,0,[]⟩
 | func {a:List Typ} {r:Typ}:(∀x∈a,GT V false x)->GT V false r->GT V false ⟨10,[],0,a++[r]⟩
theorem GT.func1 {V:Int->Str->Prop}{r:Typ}(h:GT V false r):GT V false ⟨10,[],0,[r]⟩:=.func (a:=[]) all_nil h
def OP (s:Str):Prop:=s∈([[124,124],[38,38],[61,61],[33,61],[60],[60,61],[62],[62,61],[43],[45],[42],[47],[37]]:List Str)
inductive PLC:Nod->Prop
 | nm {x:Nod}:x.op=54->PLC x
 | fld {s:Str} {n a:Int} {t:Typ} {ts:List Typ} {y:Nod}:PLC y->PLC ⟨55,s,n,t,ts,[y],a⟩
def fl:List (Nod×Nod)->List Nod
 | []=>[]
 | p::r=>p.1::p.2::fl r
theorem c1H:∀a b:List (Nod×Nod),fl (a++b)=fl a++fl b
 | [],b=>rfl
 | p::a,b=>by rw[List.cons_append,fl,fl,c1H a b];rfl
inductive TX (V:Int->Str->Prop):Nod->Prop
 | mk {s:Str} {a:Int}:V 4 s->TX V ⟨52,s,0,zT,[],[],a⟩
inductive G (V:Int->Str->Prop):Nat->Nod->Prop
 | int {s:Str} {a:Int}:V 3 s->G V 0 ⟨50,[],((a0B s 0:Nat):Int),zT,[],[],a⟩
 | tru {a:Int}:G V 0 ⟨51,[],1,zT,[],[],a⟩
 | fal {a:Int}:G V 0 ⟨51,[],0,zT,[],[],a⟩
 | text {s:Str} {a:Int}:V 4 s->G V 0 ⟨52,s,0,zT,[],[],a⟩
 | interp {x:Nod} {ps:List (Nod×Nod)} {a:Int}:TX V x->ps ≠ [] ->(∀p∈ps,G V 0 p.1) ->(∀p∈ps,TX V p.2)->G V 0 ⟨53,[],0,zT,[],x::fl ps,a⟩
 | name {s:Str} {a:Int}:V 1 s->G V 0 ⟨54,s,0,zT,[],[],a⟩
 | cons {s:Str} {a:Int}:V 1 s->G V 0 ⟨61,s,0,zT,[],[],a⟩
 | clos {t:Typ} {ps ss:List Nod} {a b:Int}:(t=uT∨GT V false t) ->(∀x∈ps,G V 4 x) ->(∀x∈ss,G V 1 x)->G V 0 ⟨63,[],0,t,[],ps++[⟨20,[],0,zT,[],ss,b⟩],a⟩
 | bin {s:Str} {x y:Nod} {a:Int}:OP s->G V 0 x->G V 0 y->G V 0 ⟨64,s,0,zT,[],[x,y],a⟩
 | un {o:Int} {x:Nod} {a:Int}:(o=65∨o=66)->G V 0 x->G V 0 ⟨o,[],0,zT,[],[x],a⟩
 | field {s:Str} {x:Nod} {a:Int}:V 1 s->G V 0 x->G V 0 ⟨55,s,0,zT,[],[x],a⟩
 | call {s:Str} {l:List Nod} {a:Int}:V 1 s ->(∀y∈l,G V 6 y)->G V 0 ⟨56,s,0,zT,[],l,a⟩
 | method {s:Str} {x:Nod} {l:List Nod} {a:Int}:V 1 s->G V 0 x ->(∀y∈l,G V 6 y)->G V 0 ⟨57,s,0,zT,[],x::l,a⟩
 | stat0 {s:Str} {t:Typ} {a:Int}:V 1 s->GT V true t->G V 0 ⟨58,s,0,t,[],[],a⟩
 | stat1 {s:Str} {t:Typ} {l:List Nod} {a:Int}:V 1 s->GT V true t ->(∀y∈l,G V 6 y)->G V 0 ⟨58,s,1,t,[],l,a⟩
 | make {t:Typ} {l:List Nod} {a:Int}:GT V true t ->(∀y∈l,G V 6 y)->G V 0 ⟨59,[],0,t,[],l,a⟩
 | apply{x:Nod} {l:List Nod} {a:Int}:G V 0 x ->(∀y∈l,G V 6 y)->G V 0 ⟨60,[],0,zT,[],x::l,a⟩
 | list {l:List Nod} {a:Int}:(∀y∈l,G V 0 y)->G V 0 ⟨67,[],0,zT,[],l,a⟩
 | lend {x:Nod} {a:Int}:G V 0 x->PLC x->G V 6 ⟨62,[],0,zT,[],[x],a⟩
 | arg {x:Nod}:G V 0 x->G V 6 x
 | let0 {s:Str} {t:Typ} {a:Int}:V 1 s->GT V false t->G V 1 ⟨21,s,1,t,[],[],a⟩
 | let1 {s:Str} {n:Int} {t:Typ} {x:Nod} {a:Int}:V 1 s ->(n=0∨n=1) ->(t=zT∨GT V false t)->G V 0 x->G V 1 ⟨21,s,n,t,[],[x],a⟩
 | assign {x y:Nod} {a:Int}:G V 0 x->PLC x->G V 0 y->G V 1 ⟨22,[],0,zT,[],[x,y],a⟩
 | sole {x:Nod} {a:Int}:G V 0 x->G V 1 ⟨23,[],0,zT,[],[x],a⟩
 | if2 {x b:Nod} {a:Int}:G V 0 x->G V 2 b->G V 19 ⟨24,[],0,zT,[],[x,b],a⟩
 | if3 {x b c:Nod} {a:Int}:G V 0 x->G V 2 b->G V 2 c->G V 19 ⟨24,[],0,zT,[],[x,b,c],a⟩
 | if4 {x b c:Nod} {a:Int}:G V 0 x->G V 2 b->G V 19 c->G V 19 ⟨24,[],0,zT,[],[x,b,c],a⟩
 | ifs {x:Nod}:G V 19 x->G V 1 x
 | whil {x b:Nod} {a:Int}:G V 0 x->G V 2 b->G V 1 ⟨25,[],0,zT,[],[x,b],a⟩
 | mat {x:Nod} {l:List Nod} {a:Int}:G V 0 x ->(∀y∈l,G V 5 y)->G V 1 ⟨26,[],0,zT,[],x::l,a⟩
 | ret0 {a:Int}:G V 1 ⟨28,[],0,zT,[],[],a⟩
 | ret1 {x:Nod} {a:Int}:G V 0 x->G V 1 ⟨28,[],0,zT,[],[x],a⟩
 | thrw {x:Nod} {a:Int}:G V 0 x->G V 1 ⟨29,[],0,zT,[],[x],a⟩
 | doc {s:Str} {b c:Nod} {a:Int}:V 1 s->G V 2 b->G V 2 c->G V 1 ⟨30,s,0,zT,[],[b,c],a⟩
 | dfr {b:Nod} {a:Int}:G V 2 b->G V 1 ⟨31,[],0,zT,[],[b],a⟩
 | block {l:List Nod} {a:Int}:(∀y∈l,G V 1 y)->G V 2 ⟨20,[],0,zT,[],l,a⟩
 | wild {a:Int}:G V 3 ⟨40,[],0,zT,[],[],a⟩
 | bnd {s:Str} {a:Int}:V 1 s->s ≠ [95]->G V 3 ⟨41,s,0,zT,[],[],a⟩
 | pint {s:Str} {a:Int}:V 3 s->G V 3 ⟨42,[],((a0B s 0:Nat):Int),zT,[],[],a⟩
 | pneg {s:Str} {a:Int}:V 3 s->G V 3 ⟨42,[],w64 (0-((a0B s 0:Nat):Int)),zT,[],[],a⟩
 | ptru {a:Int}:G V 3 ⟨43,[],1,zT,[],[],a⟩
 | pfal {a:Int}:G V 3 ⟨43,[],0,zT,[],[],a⟩
 | ptext {s:Str} {a:Int}:V 4 s->G V 3 ⟨44,s,0,zT,[],[],a⟩
 | pcase {s:Str} {l:List Nod} {a:Int}:V 1 s ->(∀y∈l,G V 3 y)->G V 3 ⟨45,s,0,zT,[],l,a⟩
 | param {s:Str} {n:Int} {t:Typ} {a:Int}:V 1 s ->(n=0∨n=1∨n=2)->GT V false t->G V 4 ⟨10,s,n,t,[],[],a⟩
 | arm {p b:Nod} {a:Int}:G V 3 p->G V 2 b->G V 5 ⟨27,[],0,zT,[],[p,b],a⟩
 | bound {s:Str} {a:Int}:V 2 s->G V 7 ⟨9,s,0,zT,[],[],a⟩
 | gen {s:Str} {l:List Nod} {a:Int}:V 2 s ->(∀y∈l,G V 7 y)->G V 8 ⟨8,s,0,zT,[],l,a⟩
 | rq1 {s:Str} {t:Typ} {a:Int}:GT V false t->V 2 s->G V 9 ⟨12,s,1,t,[],[],a⟩
 | rq2 {t u:Typ} {a:Int}:GT V false t->GT V false u->G V 9 ⟨12,[],2,t,[u],[],a⟩
 | thr {t:Typ} {a:Int}:GT V false t->G V 10 ⟨11,[],0,t,[],[],a⟩
 | fn {s:Str} {t:Typ} {gs ps th rs xs:List Nod} {b:Nod} {a:Int}:V 1 s ->(t=uT∨GT V false t)->xs=gs ++(ps ++(th++rs)) ->(∀y∈gs,G V 8 y) ->(∀y∈ps,G V 4 y) ->(∀y∈th,G V 10 y)->th.length<=1 ->(∀y∈rs,G V 9 y)->G V 2 b->G V 11 ⟨7,s,1,t,[],xs++[b],a⟩
 | sg {s:Str} {t:Typ} {gs ps th rs xs:List Nod} {a:Int}:V 1 s ->(t=uT∨GT V false t)->xs=gs ++(ps ++(th++rs)) ->(∀y∈gs,G V 8 y) ->(∀y∈ps,G V 4 y) ->(∀y∈th,G V 10 y)->th.length<=1 ->(∀y∈rs,G V 9 y)->G V 12 ⟨7,s,0,t,[],xs,a⟩
 | fld {s:Str} {n:Int} {t:Typ} {a:Int}:V 1 s ->(n=0∨n=1)->GT V false t->G V 13 ⟨13,s,n,t,[],[],a⟩
 | dei {b:Nod} {a:Int}:G V 2 b->G V 14 ⟨15,[],0,zT,[],[b],a⟩
 | case {s:Str} {n:Int} {ts:List Typ} {a:Int}:V 1 s ->(n=0∨n=1) ->(∀t∈ts,GT V false t)->G V 15 ⟨14,s,n,zT,ts,[],a⟩
 | assoc {s:Str} {l:List Nod} {a:Int}:V 2 s ->(∀y∈l,G V 7 y)->G V 16 ⟨16,s,0,zT,[],l,a⟩
 | alias {s:Str} {t:Typ} {a:Int}:V 2 s->GT V false t->G V 17 ⟨17,s,0,t,[],[],a⟩
 | strc {s:Str} {n:Int} {gs fs ds xs:List Nod} {a:Int}:V 2 s ->(n=0∨n=1∨n=2∨n=3)->xs=gs ++(fs++ds) ->(∀y∈gs,G V 8 y) ->(∀y∈fs,G V 13 y) ->(∀y∈ds,G V 14 y)->ds.length<=1->G V 18 ⟨2,s,n,zT,[],xs,a⟩
 | clss {s:Str} {gs fs ds xs:List Nod} {a:Int}:V 2 s->xs=gs ++(fs++ds) ->(∀y∈gs,G V 8 y) ->(∀y∈fs,G V 13 y) ->(∀y∈ds,G V 14 y)->ds.length<=1->G V 18 ⟨4,s,0,zT,[],xs,a⟩
 | enum {s:Str} {n:Int} {gs cs:List Nod} {a:Int}:V 2 s ->(n=0∨n=2) ->(∀y∈gs,G V 8 y) ->(∀y∈cs,G V 15 y)->G V 18 ⟨3,s,n,zT,[],gs++cs,a⟩
 | prot {s:Str} {us ss:List Nod} {a:Int}:V 2 s ->(∀y∈us,G V 16 y) ->(∀y∈ss,G V 12 y)->G V 18 ⟨5,s,0,zT,[],us++ss,a⟩
 | ext {s:Str} {t:Typ} {rs us fs:List Nod} {a:Int}:V 2 s->GT V false t ->(∀y∈rs,G V 9 y) ->(∀y∈us,G V 17 y) ->(∀y∈fs,G V 11 y)->G V 18 ⟨6,s,0,t,[],rs ++(us++fs),a⟩
 | fun{x:Nod}:G V 11 x->G V 18 x
theorem bsz {s:Str}{a:List Typ}{k q:Nat}(h:1+szT a+k<=q):(a4H s a).sz+k<=q:=by have:=baseT_sz s a;omega
theorem atn_nm {V:Int->Str->Prop}{s:Str}{a:Int}(h:V 1 s):G V 0 ⟨54,s,0,zT,[],[],a⟩/\V 1 s:=⟨.name h,h⟩
section
variable (V:Int->Str->Prop)
def SGX (xs:List Nod):Prop:=∃gs ps th rs,xs=gs ++(ps ++(th++rs))/\(∀y∈gs,G V 8 y)/\(∀y∈ps,G V 4 y)/\(∀y∈th,G V 10 y)/\th.length<=1/\(∀y∈rs,G V 9 y)
def FDX (xs:List Nod):Prop:=∃fs ds,xs=fs++ds/\(∀y∈fs,G V 13 y)/\(∀y∈ds,G V 14 y)/\ds.length<=1
def PRX (xs:List Nod):Prop:=∃us ss,xs=us++ss/\(∀y∈us,G V 16 y)/\(∀y∈ss,G V 12 y)
def EXA (xs:List Nod):Prop:=∃rs us,xs=rs++us/\(∀y∈rs,G V 9 y)/\(∀y∈us,G V 17 y)
def EXX (xs:List Nod):Prop:=∃rs us fs,xs=rs ++(us++fs)/\(∀y∈rs,G V 9 y)/\(∀y∈us,G V 17 y)/\(∀y∈fs,G V 11 y)
def MTX (xs:List Nod):Prop:=∃x us,xs=x::us/\G V 0 x/\(∀y∈us,G V 5 y)
def INX (xs:List Nod):Prop:=∃x ps,xs=x::fl ps/\TX V x/\(∀p∈ps,G V 0 p.1)/\(∀p∈ps,TX V p.2)
end
section
variable {V:Int->Str->Prop}
theorem sgx0 {gs ps rs:List Nod}(h1:∀y∈gs,G V 8 y)(h2:∀y∈ps,G V 4 y)(h3:∀y∈rs,G V 9 y):SGX V (gs ++(ps++rs)):=⟨gs,ps,[],rs,rfl,h1,h2,all_nil,Nat.zero_le _,h3⟩
theorem sgx1 {gs ps rs:List Nod}{t:Nod}(h1:∀y∈gs,G V 8 y)(h2:∀y∈ps,G V 4 y)(h4:G V 10 t)(h3:∀y∈rs,G V 9 y):SGX V (gs ++(ps ++(t::rs))):=⟨gs,ps,[t],rs,rfl,h1,h2,a4X h4,Nat.le_refl _,h3⟩
theorem fn_of {xs:List Nod}{s:Str}{t:Typ}{b:Nod}{a:Int}(h1:V 1 s)(h2:t=uT∨GT V false t)(h:SGX V xs)(h3:G V 2 b):G V 11 ⟨7,s,1,t,[],xs++[b],a⟩:=by
 obtain⟨gs,ps,th,rs,e,g1,g2,g3,g4,g5⟩:=h
 exact .fn h1 h2 e g1 g2 g3 g4 g5 h3
theorem sg_of {xs:List Nod}{s:Str}{t:Typ}{a:Int}(h1:V 1 s)(h2:t=uT∨GT V false t)(h:SGX V xs):G V 12 ⟨7,s,0,t,[],xs,a⟩:=by
 obtain⟨gs,ps,th,rs,e,g1,g2,g3,g4,g5⟩:=h
 exact .sg h1 h2 e g1 g2 g3 g4 g5
theorem fdx0 {fs:List Nod}(h:∀y∈fs,G V 13 y):FDX V fs:=⟨fs,[],(List.append_nil _).symm,h,all_nil,Nat.zero_le _⟩
theorem fdx1 {fs:List Nod}{d:Nod}(h:∀y∈fs,G V 13 y)(h2:G V 14 d):FDX V (fs++[d]):=⟨fs,[d],rfl,h,a4X h2,Nat.le_refl _⟩
theorem st_of {gs xs:List Nod}{s:Str}{n a:Int}(h1:V 2 s)(hn:n=0∨n=1∨n=2∨n=3)(h2:∀y∈gs,G V 8 y)(h:FDX V xs):G V 18 ⟨2,s,n,zT,[],gs++xs,a⟩:=by
 obtain⟨fs,ds,e,g1,g2,g3⟩:=h
 exact .strc h1 hn (by rw[e]) h2 g1 g2 g3
theorem cl_of {gs xs:List Nod}{s:Str}{a:Int}(h1:V 2 s)(h2:∀y∈gs,G V 8 y)(h:FDX V xs):G V 18 ⟨4,s,0,zT,[],gs++xs,a⟩:=by
 obtain⟨fs,ds,e,g1,g2,g3⟩:=h
 exact .clss h1 (by rw[e]) h2 g1 g2 g3
theorem prx0 {us:List Nod}(h:∀y∈us,G V 16 y):PRX V us:=⟨us,[],(List.append_nil _).symm,h,all_nil⟩
theorem prx1 {xs:List Nod}{x:Nod}(h:PRX V xs)(h2:G V 12 x):PRX V (xs++[x]):=by
 obtain⟨us,ss,rfl,g1,g2⟩:=h
 exact⟨us,ss++[x],List.append_assoc ..,g1,a6z g2 (a4X h2)⟩
theorem pr_of {xs:List Nod}{s:Str}{a:Int}(h1:V 2 s)(h:PRX V xs):G V 18 ⟨5,s,0,zT,[],xs,a⟩:=by
 obtain⟨us,ss,rfl,g1,g2⟩:=h
 exact .prot h1 g1 g2
theorem exa0 {rs:List Nod}(h:∀y∈rs,G V 9 y):EXA V rs:=⟨rs,[],(List.append_nil _).symm,h,all_nil⟩
theorem exa1 {xs:List Nod}{x:Nod}(h:EXA V xs)(h2:G V 17 x):EXA V (xs++[x]):=by
 obtain⟨us,ss,rfl,g1,g2⟩:=h
 exact⟨us,ss++[x],List.append_assoc ..,g1,a6z g2 (a4X h2)⟩
theorem exx0 {xs:List Nod}(h:EXA V xs):EXX V xs:=by
 obtain⟨rs,us,rfl,g1,g2⟩:=h
 exact⟨rs,us,[],by rw[List.append_nil],g1,g2,all_nil⟩
theorem exx1 {xs:List Nod}{x:Nod}(h:EXX V xs)(h2:G V 11 x):EXX V (xs++[x]):=by
 obtain⟨rs,us,ss,rfl,g1,g2,g3⟩:=h
 exact⟨rs,us,ss++[x],by rw[List.append_assoc,List.append_assoc],g1,g2,a6z g3 (a4X h2)⟩
theorem ex_of {xs:List Nod}{s:Str}{t:Typ}{a:Int}(h1:V 2 s)(h2:GT V false t)(h:EXX V xs):G V 18 ⟨6,s,0,t,[],xs,a⟩:=by
 obtain⟨rs,us,ss,rfl,g1,g2,g3⟩:=h
 exact .ext h1 h2 g1 g2 g3
theorem mtx0 {x:Nod}(h:G V 0 x):MTX V [x]:=⟨x,[],rfl,h,all_nil⟩
theorem mtx1 {xs:List Nod}{y:Nod}(h:MTX V xs)(h2:G V 5 y):MTX V (xs++[y]):=by
 obtain⟨x,us,rfl,g1,g2⟩:=h
 exact⟨x,us++[y],rfl,g1,a6z g2 (a4X h2)⟩
theorem mt_of {xs:List Nod}{a:Int}(h:MTX V xs):G V 1 ⟨26,[],0,zT,[],xs,a⟩:=by
 obtain⟨x,us,rfl,g1,g2⟩:=h
 exact .mat g1 g2
theorem inx0 {s:Str}{a:Int}(h:V 4 s):INX V [⟨52,s,0,zT,[],[],a⟩]:=⟨_,[],rfl,.mk h,all_nil,all_nil⟩
theorem inx1 {xs:List Nod}{e:Nod}{s:Str}{a:Int}(h:INX V xs)(h1:G V 0 e)(h2:V 4 s):INX V (xs++[e,⟨52,s,0,zT,[],[],a⟩]):=by
 obtain⟨x,ps,rfl,g0,g1,g2⟩:=h
 refine⟨x,ps++[(e,⟨52,s,0,zT,[],[],a⟩)],by rw[c1H];rfl,g0,a6z g1 (a4X h1),a6z g2 (a4X (.mk h2))⟩
theorem in_of {xs:List Nod}{e:Nod}{s:Str}{a b:Int}(h:INX V xs)(h1:G V 0 e)(h2:V 4 s):G V 0 ⟨53,[],0,zT,[],xs++[e,⟨52,s,0,zT,[],[],a⟩],b⟩:=by
 obtain⟨x,ps,rfl,g0,g1,g2⟩:=h
 have e1:x::fl ps++[e,⟨52,s,0,zT,[],[],a⟩]=x::fl (ps++[(e,⟨52,s,0,zT,[],[],a⟩)]):=by rw[c1H];rfl
 rw[e1]
 exact .interp g0 (by simp) (a6z g1 (a4X h1)) (a6z g2 (a4X (.mk h2)))
end
section
variable (l:List Tok)
@[reducible] def SN (P:Nod->Prop) (k:Nat) (p r:Option (Rs (Nod×Int) (l7×Int))):Prop:=∀(A:Type) (Q:A->A->Prop) (f f':Nod×Int->Option A) (g g':l7×Int->Option A),(∀{x y:Nod} {q:Nat},k<q->q<=l.length->x.er=y.er->x.sz+4*k<=4*q->P x->S2 Q (f (x,(q:Int))) (f' (y,(q:Int)))) ->(∀{e e':l7} {q:Nat},k<=q->q<=l.length->e.fault.code=e'.fault.code->e.fault.code≠0->S2 Q (g (e,(q:Int))) (g' (e',(q:Int))))->S2 Q (p8 p f g) (p8 r f' g')
@[reducible] def SNi (P:Nod->Prop) (k:Nat) (p r:Option (Rs (Nod×Int) (Int×Int))):Prop:=∀(A:Type) (Q:A->A->Prop) (f f':Nod×Int->Option A) (g g':Int×Int->Option A),(∀{x y:Nod} {q:Nat},k<q->q<=l.length->x.er=y.er->x.sz+4*k<=4*q->P x->S2 Q (f (x,(q:Int))) (f' (y,(q:Int)))) ->(∀{e e':Int} {q:Nat},k<=q->q<=l.length->S2 Q (g (e,(q:Int))) (g' (e',(q:Int))))->S2 Q (p8 p f g) (p8 r f' g')
@[reducible] def SL (P:List Nod->Prop) (k:Nat) (p r:Option (Rs (List Nod×Int) (l7×Int))):Prop:=∀(A:Type) (Q:A->A->Prop) (f f':List Nod×Int->Option A) (g g':l7×Int->Option A),(∀{x y:List Nod} {q:Nat},k<=q->q<=l.length->ers x=ers y->szN x+4*k<=4*q->x.length<=13000->y.length<=13000->P x->S2 Q (f (x,(q:Int))) (f' (y,(q:Int)))) ->(∀{e e':l7} {q:Nat},k<=q->q<=l.length->e.fault.code=e'.fault.code->e.fault.code≠0->S2 Q (g (e,(q:Int))) (g' (e',(q:Int))))->S2 Q (p8 p f g) (p8 r f' g')
@[reducible] def SLi (P:List Nod->Prop) (k:Nat) (p r:Option (Rs (List Nod×Int) (Int×Int))):Prop:=∀(A:Type) (Q:A->A->Prop) (f f':List Nod×Int->Option A) (g g':Int×Int->Option A),(∀{x y:List Nod} {q:Nat},k<=q->q<=l.length->ers x=ers y->szN x+4*k<=4*q->x.length<=13000->y.length<=13000->P x->S2 Q (f (x,(q:Int))) (f' (y,(q:Int)))) ->(∀{e e':Int} {q:Nat},k<=q->q<=l.length->S2 Q (g (e,(q:Int))) (g' (e',(q:Int))))->S2 Q (p8 p f g) (p8 r f' g')
@[reducible] def ST (P:Typ->Prop) (c k:Nat) (p r:Option (Rs (Typ×Int) (Int×Int))):Prop:=∀(A:Type) (Q:A->A->Prop) (f f':Typ×Int->Option A) (g g':Int×Int->Option A),(∀{t:Typ} {q:Nat},k+1<=q+c->q<=l.length->t.sz+k<=q+c->P t->S2 Q (f (t,(q:Int))) (f' (t,(q:Int)))) ->(∀{e e':Int} {q:Nat},k<=q->q<=l.length->S2 Q (g (e,(q:Int))) (g' (e',(q:Int))))->S2 Q (p8 p f g) (p8 r f' g')
section
variable {R:Type}
@[reducible] def LLi (P:List Nod->Prop) (k:Nat) (p r:Option (Lr (List Nod×Int) (Rs R (Int×Int)))):Prop:=∀(A:Type) (Q:A->A->Prop) (f f':List Nod×Int->Option A) (g g':Rs R (Int×Int)->Option A),(∀{x y:List Nod} {q:Nat},k<=q->q<=l.length->ers x=ers y->szN x+4*k<=4*q->x.length<=12000->y.length<=12000->P x->S2 Q (f (x,(q:Int))) (f' (y,(q:Int)))) ->(∀{e e':Int} {q:Nat},k<=q->q<=l.length->S2 Q (g (.pan (e,(q:Int)))) (g' (.pan (e',(q:Int)))))->S2 Q (bS p f g) (bS r f' g')
@[reducible] def LLs (P:List Nod->Prop) (k:Nat) (p r:Option (Lr (List Nod×Int) (Rs R (l7×Int)))):Prop:=∀(A:Type) (Q:A->A->Prop) (f f':List Nod×Int->Option A) (g g':Rs R (l7×Int)->Option A),(∀{x y:List Nod} {q:Nat},k<=q->q<=l.length->ers x=ers y->szN x+4*k<=4*q->x.length<=12000->y.length<=12000->P x->S2 Q (f (x,(q:Int))) (f' (y,(q:Int)))) ->(∀{e e':l7} {q:Nat},k<=q->q<=l.length->e.fault.code=e'.fault.code->e.fault.code≠0->S2 Q (g (.pan (e,(q:Int)))) (g' (.pan (e',(q:Int)))))->S2 Q (bS p f g) (bS r f' g')
@[reducible] def LIi (P:List Nod->Prop) (k:Nat) (p r:Option (Lr (Int×List Nod) (Rs R (Int×Int)))):Prop:=∀(A:Type) (Q:A->A->Prop) (f f':Int×List Nod->Option A) (g g':Rs R (Int×Int)->Option A),(∀{x y:List Nod} {q:Nat},k<=q->q<=l.length->ers x=ers y->szN x+4*k<=4*q->x.length<=12000->y.length<=12000->P x->S2 Q (f ((q:Int),x)) (f' ((q:Int),y))) ->(∀{e e':Int} {q:Nat},k<=q->q<=l.length->S2 Q (g (.pan (e,(q:Int)))) (g' (.pan (e',(q:Int)))))->S2 Q (bS p f g) (bS r f' g')
@[reducible] def LIs (P:List Nod->Prop) (k:Nat) (p r:Option (Lr (Int×List Nod) (Rs R (l7×Int)))):Prop:=∀(A:Type) (Q:A->A->Prop) (f f':Int×List Nod->Option A) (g g':Rs R (l7×Int)->Option A),(∀{x y:List Nod} {q:Nat},k<=q->q<=l.length->ers x=ers y->szN x+4*k<=4*q->x.length<=12000->y.length<=12000->P x->S2 Q (f ((q:Int),x)) (f' ((q:Int),y))) ->(∀{e e':l7} {q:Nat},k<=q->q<=l.length->e.fault.code=e'.fault.code->e.fault.code≠0->S2 Q (g (.pan (e,(q:Int)))) (g' (.pan (e',(q:Int)))))->S2 Q (bS p f g) (bS r f' g')
@[reducible] def LTi (P:List Typ->Prop) (k:Nat) (p r:Option (Lr (List Typ×Int) (Rs R (Int×Int)))):Prop:=∀(A:Type) (Q:A->A->Prop) (f f':List Typ×Int->Option A) (g g':Rs R (Int×Int)->Option A),(∀{x:List Typ} {q:Nat},k<=q->q<=l.length->szT x+k<=q->x.length<=12000->P x->S2 Q (f (x,(q:Int))) (f' (x,(q:Int)))) ->(∀{e e':Int} {q:Nat},k<=q->q<=l.length->S2 Q (g (.pan (e,(q:Int)))) (g' (.pan (e',(q:Int)))))->S2 Q (bS p f g) (bS r f' g')
end
end
theorem two {P:Prop}(x:P:=by
 repeat' first
 | with_reducible assumption
 | with_reducible exact all_nil
 | with_reducible exact .inl rfl|with_reducible exact .inr rfl|with_reducible exact .inr (.inl rfl)|with_reducible exact .inr (.inr rfl)|with_reducible exact .inr (.inr (.inl rfl))|with_reducible exact .inr (.inr (.inr rfl))|with_reducible exact .inr (by assumption)
 | with_reducible refine a6z ?_ ?_
 | with_reducible refine a4X ?_
 | with_reducible intro _
 |(simp (disch:=omega) only[NF,C.tx,b5C,a5Y,b9C,Int.reduceEq,decide_true,decide_false,fin,F9,List.append_nil,List.nil_append,List.append_assoc,List.cons_append,b9F])
 |(simp (disch:=omega) only[NF,C.tx,b5C,a5Y,b9C,Int.reduceEq,decide_true,decide_false,F9,List.append_nil,List.nil_append,List.append_assoc,List.cons_append,b9F])
 | with_reducible refine hok ?_ ?_ ?_ ?_|with_reducible refine hok ?_ ?_ ?_ ?_ ?_|with_reducible refine hok ?_ ?_ ?_ ?_ ?_ ?_|with_reducible refine hok ?_ ?_ ?_ ?_ ?_ ?_ ?_|with_reducible refine hok ?_ ?_ ?_ ?_ ?_ ?_ ?_ ?_|with_reducible refine hok ?_ ?_ ?_ ?_ ?_ ?_ ?_ ?_ ?_|with_reducible refine hok ?_ ?_ ?_ ?_ ?_ ?_ ?_ ?_ ?_ ?_|with_reducible refine hok ?_ ?_ ?_ ?_ ?_ ?_ ?_ ?_ ?_ ?_ ?_|with_reducible refine hpan ?_ ?_|with_reducible refine hpan ?_ ?_ ?_ ?_
 | with_reducible refine pr1 ?_ _ _ _ _ _ _ ?_ ?_|with_reducible refine pr1 ?_ ?_ _ _ _ _ _ _ ?_ ?_|with_reducible refine pr1 ?_ ?_ ?_ _ _ _ _ _ _ ?_ ?_|with_reducible refine pr1 ?_ ?_ ?_ ?_ _ _ _ _ _ _ ?_ ?_
 | with_reducible refine pr2 ?_ _ _ _ _ _ _ ?_ ?_|with_reducible refine pr2 ?_ ?_ _ _ _ _ _ _ ?_ ?_|with_reducible refine pr2 ?_ ?_ ?_ _ _ _ _ _ _ ?_ ?_|with_reducible refine pr2 ?_ ?_ ?_ ?_ _ _ _ _ _ _ ?_ ?_
 | with_reducible refine pr3 ?_ _ _ _ _ _ _ ?_ ?_|with_reducible refine pr3 ?_ ?_ _ _ _ _ _ _ ?_ ?_|with_reducible refine pr3 ?_ ?_ ?_ _ _ _ _ _ _ ?_ ?_|with_reducible refine pr3 ?_ ?_ ?_ ?_ _ _ _ _ _ _ ?_ ?_
 | with_reducible refine pr4 ?_ _ _ _ _ _ _ ?_ ?_|with_reducible refine pr4 ?_ ?_ _ _ _ _ _ _ ?_ ?_|with_reducible refine pr4 ?_ ?_ ?_ _ _ _ _ _ _ ?_ ?_|with_reducible refine pr4 ?_ ?_ ?_ ?_ _ _ _ _ _ _ ?_ ?_
 | with_reducible refine pr5 ?_ _ _ _ _ _ _ ?_ ?_|with_reducible refine pr5 ?_ ?_ _ _ _ _ _ _ ?_ ?_|with_reducible refine pr5 ?_ ?_ ?_ _ _ _ _ _ _ ?_ ?_|with_reducible refine pr5 ?_ ?_ ?_ ?_ _ _ _ _ _ _ ?_ ?_
 | with_reducible refine pr6 ?_ _ _ _ _ _ _ ?_ ?_|with_reducible refine pr6 ?_ ?_ _ _ _ _ _ _ ?_ ?_|with_reducible refine pr6 ?_ ?_ ?_ _ _ _ _ _ _ ?_ ?_|with_reducible refine pr6 ?_ ?_ ?_ ?_ _ _ _ _ _ _ ?_ ?_
 | with_reducible refine pr7 ?_ _ _ _ _ _ _ ?_ ?_|with_reducible refine pr7 ?_ ?_ _ _ _ _ _ _ ?_ ?_|with_reducible refine pr7 ?_ ?_ ?_ _ _ _ _ _ _ ?_ ?_|with_reducible refine pr7 ?_ ?_ ?_ ?_ _ _ _ _ _ _ ?_ ?_
 | with_reducible refine pr8 ?_ _ _ _ _ _ _ ?_ ?_|with_reducible refine pr8 ?_ ?_ _ _ _ _ _ _ ?_ ?_|with_reducible refine pr8 ?_ ?_ ?_ _ _ _ _ _ _ ?_ ?_|with_reducible refine pr8 ?_ ?_ ?_ ?_ _ _ _ _ _ _ ?_ ?_
 | with_reducible refine lp1 ?_ ?_ _ _ _ _ _ _ ?_ ?_|with_reducible refine lp1 ?_ ?_ ?_ _ _ _ _ _ _ ?_ ?_|with_reducible refine lp1 ?_ ?_ ?_ ?_ _ _ _ _ _ _ ?_ ?_|with_reducible refine lp1 ?_ ?_ ?_ ?_ ?_ _ _ _ _ _ _ ?_ ?_|with_reducible refine lp1 ?_ ?_ ?_ ?_ ?_ ?_ _ _ _ _ _ _ ?_ ?_|with_reducible refine lp1 ?_ ?_ ?_ ?_ ?_ ?_ ?_ _ _ _ _ _ _ ?_ ?_|with_reducible refine lp1 ?_ ?_ ?_ ?_ ?_ ?_ ?_ ?_ _ _ _ _ _ _ ?_ ?_
 | with_reducible refine lp2 ?_ ?_ _ _ _ _ _ _ ?_ ?_|with_reducible refine lp2 ?_ ?_ ?_ _ _ _ _ _ _ ?_ ?_|with_reducible refine lp2 ?_ ?_ ?_ ?_ _ _ _ _ _ _ ?_ ?_|with_reducible refine lp2 ?_ ?_ ?_ ?_ ?_ _ _ _ _ _ _ ?_ ?_|with_reducible refine lp2 ?_ ?_ ?_ ?_ ?_ ?_ _ _ _ _ _ _ ?_ ?_|with_reducible refine lp2 ?_ ?_ ?_ ?_ ?_ ?_ ?_ _ _ _ _ _ _ ?_ ?_|with_reducible refine lp2 ?_ ?_ ?_ ?_ ?_ ?_ ?_ ?_ _ _ _ _ _ _ ?_ ?_
 | with_reducible refine lp3 ?_ ?_ _ _ _ _ _ _ ?_ ?_|with_reducible refine lp3 ?_ ?_ ?_ _ _ _ _ _ _ ?_ ?_|with_reducible refine lp3 ?_ ?_ ?_ ?_ _ _ _ _ _ _ ?_ ?_|with_reducible refine lp3 ?_ ?_ ?_ ?_ ?_ _ _ _ _ _ _ ?_ ?_|with_reducible refine lp3 ?_ ?_ ?_ ?_ ?_ ?_ _ _ _ _ _ _ ?_ ?_|with_reducible refine lp3 ?_ ?_ ?_ ?_ ?_ ?_ ?_ _ _ _ _ _ _ ?_ ?_|with_reducible refine lp3 ?_ ?_ ?_ ?_ ?_ ?_ ?_ ?_ _ _ _ _ _ _ ?_ ?_
 | with_reducible refine lp4 ?_ ?_ _ _ _ _ _ _ ?_ ?_|with_reducible refine lp4 ?_ ?_ ?_ _ _ _ _ _ _ ?_ ?_|with_reducible refine lp4 ?_ ?_ ?_ ?_ _ _ _ _ _ _ ?_ ?_|with_reducible refine lp4 ?_ ?_ ?_ ?_ ?_ _ _ _ _ _ _ ?_ ?_|with_reducible refine lp4 ?_ ?_ ?_ ?_ ?_ ?_ _ _ _ _ _ _ ?_ ?_|with_reducible refine lp4 ?_ ?_ ?_ ?_ ?_ ?_ ?_ _ _ _ _ _ _ ?_ ?_|with_reducible refine lp4 ?_ ?_ ?_ ?_ ?_ ?_ ?_ ?_ _ _ _ _ _ _ ?_ ?_
 | with_reducible refine ih ?_ ?_ ?_ _ _ _ _ _ _ ?_ ?_|with_reducible refine ih ?_ ?_ ?_ ?_ _ _ _ _ _ _ ?_ ?_|with_reducible refine ih ?_ ?_ ?_ ?_ ?_ _ _ _ _ _ _ ?_ ?_|with_reducible refine ih ?_ ?_ ?_ ?_ ?_ ?_ _ _ _ _ _ _ ?_ ?_|with_reducible refine ih ?_ ?_ ?_ ?_ ?_ ?_ ?_ _ _ _ _ _ _ ?_ ?_|with_reducible refine ih ?_ ?_ ?_ ?_ ?_ ?_ ?_ ?_ _ _ _ _ _ _ ?_ ?_
 | with_reducible refine t_takeT C (by assumption) (fun _=>?_)|with_reducible refine b4L C ?_ (by assumption) ?_|with_reducible refine b4L C ?_ (b2d (by assumption) (by decide)) ?_|with_reducible refine b4L C ?_ (b2c (by assumption) (by decide)) ?_|with_reducible refine b4L C ?_ (b0u (by assumption) (by decide)) ?_
 | with_reducible refine t_keyT C (by assumption) (fun _=>?_)|with_reducible refine b8S C ?_ (by assumption) ?_|with_reducible refine b8S C ?_ (b2d (by assumption) (by decide)) ?_|with_reducible refine b8S C ?_ (b2c (by assumption) (by decide)) ?_|with_reducible refine b8S C ?_ (b0u (by assumption) (by decide)) ?_
 | with_reducible refine t_wantT C (by assumption) (fun _=>?_)|with_reducible refine b4M C ?_ (by assumption) ?_|with_reducible refine b4M C ?_ (b2d (by assumption) (by decide)) ?_|with_reducible refine b4M C ?_ (b2c (by assumption) (by decide)) ?_|with_reducible refine b4M C ?_ (b0u (by assumption) (by decide)) ?_
 | with_reducible refine c2O C (by assumption) (fun _=>?_)|with_reducible refine a9z C ?_ (by assumption) ?_|with_reducible refine a9z C ?_ (b2d (by assumption) (by decide)) ?_|with_reducible refine a9z C ?_ (b2c (by assumption) (by decide)) ?_|with_reducible refine a9z C ?_ (b0u (by assumption) (by decide)) ?_
 | with_reducible refine t_is1T C (by assumption) (fun _=>?_)|with_reducible refine b8P C ?_ (by assumption) ?_|with_reducible refine b8P C ?_ (b2d (by assumption) (by decide)) ?_|with_reducible refine b8P C ?_ (b2c (by assumption) (by decide)) ?_|with_reducible refine b8P C ?_ (b0u (by assumption) (by decide)) ?_
 | with_reducible refine t_is8T C (by assumption) (fun _=>?_)|with_reducible refine b8Q C ?_ (by assumption) ?_|with_reducible refine b8Q C ?_ (b2d (by assumption) (by decide)) ?_|with_reducible refine b8Q C ?_ (b2c (by assumption) (by decide)) ?_|with_reducible refine b8Q C ?_ (b0u (by assumption) (by decide)) ?_
 | with_reducible refine t_is9T C (by assumption) (fun _=>?_)|with_reducible refine b8R C ?_ (by assumption) ?_|with_reducible refine b8R C ?_ (b2d (by assumption) (by decide)) ?_|with_reducible refine b8R C ?_ (b2c (by assumption) (by decide)) ?_|with_reducible refine b8R C ?_ (b0u (by assumption) (by decide)) ?_
 | with_reducible refine t_isKT C (by assumption) (fun _=>?_)|with_reducible refine c2K C ?_ (by assumption) ?_|with_reducible refine c2K C ?_ (b2b (by assumption) (by decide)) ?_|with_reducible refine c2K C ?_ (b5n (by assumption) (by decide)) ?_
 | with_reducible refine t_nameT C (by assumption) (fun _=>?_)|with_reducible refine b8T C ?_ (by assumption) ?_|with_reducible refine b8T C ?_ (b2b (by assumption) (by decide)) ?_|with_reducible refine b8T C ?_ (b5n (by assumption) (by decide)) ?_
 | with_reducible refine t_capT C (by assumption) (fun _=>?_)|with_reducible refine c2I C ?_ (by assumption) ?_|with_reducible refine c2I C ?_ (b2b (by assumption) (by decide)) ?_|with_reducible refine c2I C ?_ (b5n (by assumption) (by decide)) ?_
 | with_reducible refine t_tokenT C (by assumption) (fun _=>?_)|with_reducible refine b6o C ?_ (by assumption) ?_|with_reducible refine b6o C ?_ (b2b (by assumption) (by decide)) ?_|with_reducible refine b6o C ?_ (b5n (by assumption) (by decide)) ?_
 | with_reducible refine t_intT C (by assumption) (fun _=>?_)|with_reducible refine c2J C ?_ (by assumption) ?_|with_reducible refine c2J C ?_ (b2b (by assumption) (by decide)) ?_|with_reducible refine c2J C ?_ (b5n (by assumption) (by decide)) ?_
 | with_reducible refine c2M C ?_ (fun _ _=>?_) (fun _=>?_)
 | with_reducible refine t_key C ?_ (fun _ _=>?_) (fun _=>?_)
 | with_reducible refine c2N C ?_ (fun _ _=>?_) (fun _=>?_)
 | with_reducible refine b3N C ?_ (fun _ _=>?_) (fun _=>?_)
 | with_reducible refine t_is1 C ?_ (fun _ _=>?_) (fun _=>?_)
 | with_reducible refine t_is8 C ?_ (fun _ _=>?_) (fun _=>?_)
 | with_reducible refine t_is9 C ?_ (fun _ _=>?_) (fun _=>?_)
 | with_reducible refine t_isK C ?_ (fun _ _=>?_) (fun _=>?_)
 | with_reducible refine c2L C ?_ (fun _ _=>?_) (fun _=>?_)
 | with_reducible refine t_cap C ?_ (fun _ _=>?_) (fun _=>?_)
 | with_reducible refine b8U C ?_ (fun _ _=>?_) (fun _=>?_)
 | with_reducible refine t_int C ?_ (fun _ _=>?_) (fun _=>?_)
 | with_reducible refine t_is1_1 C ?_ (fun _=>?_)|with_reducible refine t_node C ?_ (fun _ _=>?_)|with_reducible refine t_idx C ?_ ?_|with_reducible refine t_app C ?_ ?_ ?_ ?_ ?_ ?_
 | with_reducible refine t_place C ?_ (by assumption) (by assumption) (fun _=>?_) ?_
 | with_reducible refine pc1 ?_ ?_ ?_ ?_ ?_ ?_ ?_ _ _ _ _ _ _ ?_ ?_|with_reducible exact c2Q
 | with_reducible refine er_mk ?_|with_reducible refine er_mks ?_ ?_|with_reducible refine c3j ?_ ?_|with_reducible refine a0T ?_ ?_|with_reducible exact er_s (by assumption)
 | with_reducible exact C.tk (by assumption)|with_reducible refine C.tk (kd:=1) (b4D (by assumption))|with_reducible refine C.lit (.inl (C.tk (by assumption)))|with_reducible refine C.lit (.inr (.inl (C.tk (by assumption))))|with_reducible refine C.lit (.inr (.inr (C.tk (by assumption))))
 | with_reducible exact isT_neg (by assumption) (by assumption)
 | with_reducible exact a5a (by assumption)
 | with_reducible refine .base ?_ ?_|with_reducible refine .dot ?_ ?_|with_reducible refine .path (by assumption)|with_reducible refine .any ?_|with_reducible refine .func ?_ ?_|with_reducible refine .func1 ?_
 | with_reducible refine .int ?_|with_reducible exact .tru|with_reducible exact .fal|with_reducible refine .text ?_|with_reducible refine .name ?_|with_reducible refine .cons ?_|with_reducible refine .clos ?_ ?_ ?_|with_reducible refine .bin ?_ ?_ ?_|with_reducible refine .un (.inl rfl) ?_|with_reducible refine .un (.inr rfl) ?_|with_reducible refine .field ?_ ?_|with_reducible refine .call ?_ ?_|with_reducible refine .method ?_ ?_ ?_|with_reducible refine .stat0 ?_ ?_|with_reducible refine .stat1 ?_ ?_ ?_|with_reducible refine .make ?_ ?_|with_reducible refine .apply ?_ ?_|with_reducible refine .list ?_|with_reducible refine c3Z ?_ ?_|with_reducible refine plc_nm ?_|with_reducible refine atn_nm ?_|with_reducible refine .lend (And.left (by assumption)) (And.right (by assumption))|with_reducible refine .arg ?_
 | with_reducible refine .let0 ?_ ?_|with_reducible refine .let1 ?_ (.inl rfl) (.inl rfl) ?_|with_reducible refine .let1 ?_ (.inr rfl) (.inl rfl) ?_|with_reducible refine .let1 ?_ (.inl rfl) (.inr ?_) ?_|with_reducible refine .let1 ?_ (.inr rfl) (.inr ?_) ?_|with_reducible refine .assign ?_ ?_ ?_|with_reducible refine .sole ?_|with_reducible refine .if2 ?_ ?_|with_reducible refine .if3 ?_ ?_ (by assumption)|with_reducible refine .if4 ?_ ?_ (by assumption)|with_reducible refine .ifs (by assumption)|with_reducible refine .whil ?_ ?_|with_reducible refine .mat ?_ ?_|with_reducible exact .ret0|with_reducible refine .ret1 ?_|with_reducible refine .thrw ?_|with_reducible refine .doc ?_ ?_ ?_|with_reducible refine .dfr ?_|with_reducible refine .block ?_
 | with_reducible exact .wild|with_reducible refine .bnd ?_ ?_|with_reducible refine .pint ?_|with_reducible refine .pneg ?_|with_reducible exact .ptru|with_reducible exact .pfal|with_reducible refine .ptext ?_|with_reducible refine .pcase ?_ ?_|with_reducible refine .param ?_ ?_ ?_|with_reducible refine .arm ?_ ?_
 | with_reducible refine .bound ?_|with_reducible refine .gen ?_ ?_|with_reducible refine .rq1 ?_ ?_|with_reducible refine .rq2 ?_ ?_|with_reducible refine .thr ?_|with_reducible refine .fld ?_ ?_ ?_|with_reducible refine .dei ?_|with_reducible refine .case ?_ ?_ ?_|with_reducible refine .assoc ?_ ?_|with_reducible refine .alias ?_ ?_|with_reducible refine .enum ?_ ?_ ?_ ?_
 | with_reducible refine sgx1 ?_ ?_ ?_ ?_|with_reducible refine sgx0 ?_ ?_ ?_|with_reducible refine fn_of ?_ ?_ ?_ ?_|with_reducible refine sg_of ?_ ?_ ?_|with_reducible refine fdx1 ?_ ?_|with_reducible refine fdx0 ?_|with_reducible refine st_of ?_ ?_ ?_ ?_|with_reducible refine cl_of ?_ ?_ ?_|with_reducible refine prx1 ?_ ?_|with_reducible refine prx0 (by assumption)|with_reducible refine pr_of ?_ ?_|with_reducible refine exa1 ?_ ?_|with_reducible refine exa0 (by assumption)|with_reducible refine exx0 (by assumption)|with_reducible refine exx1 ?_ ?_|with_reducible refine ex_of ?_ ?_ ?_|with_reducible refine mtx0 ?_|with_reducible refine mtx1 ?_ ?_|with_reducible refine mt_of ?_|with_reducible refine inx0 ?_|with_reducible refine inx1 ?_ ?_ ?_|with_reducible refine in_of ?_ ?_ ?_|with_reducible refine bsz ?_|with_reducible exact .fun (by assumption)
 | exact trivial
 | exact rfl
 | omega
 |(simp only[SZ,List.length_append,List.length_cons,List.length_nil];omega)
 |(simp only[SZ]at *;omega)
 | with_reducible refine t_if ?_ ?_
 |(simp only[CD])):P:=x
end Go.Proofs.YtjhfloacokgdiaaGreatDoor
