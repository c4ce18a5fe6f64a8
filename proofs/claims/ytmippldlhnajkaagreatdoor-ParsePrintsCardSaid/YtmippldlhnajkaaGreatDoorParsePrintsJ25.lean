/- Texts of ParsePrints, joined. -/
import Derived.Test.YtmippldlhnajkaaGreatDoorParsePrintsJ24
set_option maxRecDepth 100000
set_option maxHeartbeats 20000000
set_option linter.unusedSimpArgs false
set_option linter.unusedVariables false
set_option linter.unusedSectionVars false
namespace Go.Proofs.YtmippldlhnajkaaGreatDoor
open Go Go.Vm Pr
def isT (l:List Tok)(kind:Int)(s:Str)(k:Nat):Bool:=match l[k]? with
 | some t=>eqB t.kind kind&&eqS t.text s
 | none=>false
def isK (l:List Tok)(kind:Int)(k:Nat):Bool:=match l[k]? with
 | some t=>eqB t.kind kind
 | none=>false
def hereT (l:List Tok)(size:Int)(k:Nat):Int:=match l[k]? with
 | some t=>t.at_
 | none=>size
def b1O (l:List Tok)(k:Nat):Str:=match l[k]? with
 | some t=>t.text
 | none=>[]
theorem b1Y {l:List Tok}{kind:Int}{s:Str}{k:Nat}(h:isT l kind s k=true):k<l.length:=by
 unfold isT at h;rcases Nat.lt_or_ge k l.length with h1|h1
 ·exact h1
 ·rw[List.getElem?_eq_none h1]at h;cases h
theorem b6G {l:List Tok}{kind:Int}{k:Nat}(h:isK l kind k=true):k<l.length:=by
 unfold isK at h;rcases Nat.lt_or_ge k l.length with h1|h1
 ·exact h1
 ·rw[List.getElem?_eq_none h1]at h;cases h
section
variable {l:List Tok} (hl:l.length<=3000) {k:Nat} (hk:k<=l.length) (size pl:Int)
include hl hk
theorem b6L:D7 l size k pl=some (hereT l size k):=by
 unfold D7 hereT;rcases Nat.lt_or_ge k l.length with h|h
 ·rw[R4 (by omega),cond_true,O3 h,Option.bind_some,List.getElem?_eq_getElem h]
 ·rw[O8 (by omega),cond_false,List.getElem?_eq_none h]
theorem b5R (kind:Int)(s:Str):D5 kind s l size k pl=some (isT l kind s k):=by
 unfold D5 isT;rcases Nat.lt_or_ge k l.length with h|h
 ·rw[R4 (by omega),cond_true,O3 h,Option.bind_some,Option.bind_some,List.getElem?_eq_getElem h];simp only;cases eqB l[k].kind kind<;>simp
 ·rw[O8 (by omega),cond_false,List.getElem?_eq_none h]
theorem c5i (kind:Int):O7 kind l size k pl=some (isK l kind k):=by
 unfold O7 isK;rcases Nat.lt_or_ge k l.length with h|h
 ·rw[R4 (by omega),cond_true,O3 h,Option.bind_some,List.getElem?_eq_getElem h]
 ·rw[O8 (by omega),cond_false,List.getElem?_eq_none h]
end
structure Cx (l:List Tok):Prop where
 hl:l.length<=3000
 txt:∀k,(b1O l k).length<=20000
 int:∀k,isK l 3 k=true -> ∃v:Int,0<=v/\v<=9223372036854775807 /\ ∀n,10000<=n->a1b n (b1O l k)=some v
theorem num_nil {n:Nat}(hn:1<=n):a1b n []=some 0:=by
 obtain⟨m,rfl⟩:∃m,n=m+1:=⟨n-1,by omega⟩
 simp[a1b,a3G,ltB]
def S1 {A:Type}(Q:A->Prop)(p:Option A):Prop:=∃a,p=some a/\Q a
theorem b4A {A:Type}{Q:A->Prop}{a:A}(h:Q a):S1 Q (some a):=⟨a,rfl,h⟩
theorem c3C {α:Type}{b:Nat}{l m:List α}(hl:l.length<=100000)(hm:m.length<=100000)(hb:b<=1000):app b l m=some (l++m):=by
 refine c1P ?_;have:(l.length+m.length)*(b+1)<=200000*1001:=Nat.mul_le_mul (by omega) (by omega);omega
theorem c0J (t:Typ):(⟨t.kind,t.name,t.n,t.args⟩:Typ)=t:=by cases t;rfl
theorem all_nil {α:Type}{P:α->Prop}:∀x∈([]:List α),P x:=fun x h=>by cases h
theorem b5F {α:Type}{P:α->Prop}{a b:List α}(h1:∀x∈a,P x)(h2:∀x∈b,P x):∀x∈a++b,P x:=fun x h=>by
 rcases List.mem_append.1 h with h|h
 ·exact h1 x h
 ·exact h2 x h
theorem a8P {α:Type}{P:α->Prop}{a:α}(h:P a):∀x ∈ [a],P x:=fun x hx=>by
 rcases List.mem_singleton.1 hx with rfl;exact h
section
variable {l:List Tok} {size:Int} (C:Cx l) {A:Type} {Q:A->Prop}
include C
theorem c4d (kind:Int)(s:Str)(k:Nat):isT l kind s k =(isK l kind k&&eqS (b1O l k) s):=by
 unfold isT isK b1O;cases l[k]? <;> rfl
theorem c6u {kind kind':Int}{k:Nat}(h:isK l kind k=true)(hn:kind≠kind'):isK l kind' k=false:=by
 unfold isK at h ⊢;cases hq:l[k]? with
 | none=>rfl
 | some t =>
  rw[hq]at h;have h:t.kind=kind:=by simpa [eqB]using h
  show eqB t.kind kind'=false;exact a0i (by rw[h];exact hn)
theorem c2p {kind:Int}{s u:Str}{k:Nat}(h:isT l kind s k=true)(hn:s≠u):isT l kind u k=false:=by
 rw[c4d C,Bool.and_eq_true]at h;have h2:b1O l k=s:=by simpa [eqS]using h.2
 rw[c4d C,h.1,h2];simp[eqS,hn]
theorem c2o {kind kind':Int}{s u:Str}{k:Nat}(h:isT l kind s k=true)(hn:kind≠kind'):isT l kind' u k=false:=by
 rw[c4d C,Bool.and_eq_true]at h;rw[c4d C,c6u C h.1 hn,Bool.false_and]
theorem isT_kk {kind kind':Int}{s:Str}{k:Nat}(h:isT l kind s k=true)(hn:kind≠kind'):isK l kind' k=false:=by
 rw[c4d C,Bool.and_eq_true]at h;exact c6u C h.1 hn
theorem c7j {k:Nat}{pl:Int}{a:UInt8}{r:Str}{f:Bool×Int->Option A}(hk:k<=l.length)(h1:isT l 8 (a::r) k=true->k+1<=l.length->S1 Q (f (true,((k+1:Nat):Int))))(h2:isT l 8 (a::r) k=false->S1 Q (f (false,(k:Int)))):S1 Q ((o8 (a::r) l size (k:Int) pl).bind f):=by
 have h3:=b5R C.hl hk size pl 8 (a::r);have hl:=C.hl;cases hb:isT l 8 (a::r) k with
 | true =>
  have hlt:=b1Y hb;rw[hb]at h3;have e:o8 (a::r) l size (k:Int) pl=some (true,((k+1:Nat):Int)):=by
   unfold o8 a0T;rw[h3];simp only[Option.bind_some,cond_true,cond_false,L6 (show k<=1000000000000 by omega)]
  rw[e];exact h1 hb hlt
 | false =>
  rw[hb]at h3;have e:o8 (a::r) l size (k:Int) pl=some (false,(k:Int)):=by
   unfold o8 a0T;rw[h3];simp only[Option.bind_some,cond_true,cond_false,L6 (show k<=1000000000000 by omega)]
  rw[e];exact h2 hb
theorem t_signT {k:Nat}{pl:Int}{a:UInt8}{r:Str}{f:Bool×Int->Option A}(h:isT l 8 (a::r) k=true)(h1:k+1<=l.length->S1 Q (f (true,((k+1:Nat):Int)))):S1 Q ((o8 (a::r) l size (k:Int) pl).bind f):=c7j C (Nat.le_of_lt (b1Y h)) (fun _=>h1) fun h2=>by rw[h]at h2;cases h2
theorem c3g {k:Nat}{pl:Int}{a:UInt8}{r:Str}{f:Bool×Int->Option A}(hk:k<=l.length)(h:isT l 8 (a::r) k=false)(h2:S1 Q (f (false,(k:Int)))):S1 Q ((o8 (a::r) l size (k:Int) pl).bind f):=c7j C hk (fun h1=>by rw[h]at h1;cases h1) fun _=>h2
theorem t_key {k:Nat}{pl:Int}{a:UInt8}{r:Str}{f:Bool×Int->Option A}(hk:k<=l.length)(h1:isT l 9 (a::r) k=true->k+1<=l.length->S1 Q (f (true,((k+1:Nat):Int))))(h2:isT l 9 (a::r) k=false->S1 Q (f (false,(k:Int)))):S1 Q ((A9 (a::r) l size (k:Int) pl).bind f):=by
 have h3:=b5R C.hl hk size pl 9 (a::r);have hl:=C.hl;cases hb:isT l 9 (a::r) k with
 | true =>
  have hlt:=b1Y hb;rw[hb]at h3;have e:A9 (a::r) l size (k:Int) pl=some (true,((k+1:Nat):Int)):=by
   unfold A9 a0T;rw[h3];simp only[Option.bind_some,cond_true,cond_false,L6 (show k<=1000000000000 by omega)]
  rw[e];exact h1 hb hlt
 | false =>
  rw[hb]at h3;have e:A9 (a::r) l size (k:Int) pl=some (false,(k:Int)):=by
   unfold A9 a0T;rw[h3];simp only[Option.bind_some,cond_true,cond_false,L6 (show k<=1000000000000 by omega)]
  rw[e];exact h2 hb
theorem t_keyT {k:Nat}{pl:Int}{a:UInt8}{r:Str}{f:Bool×Int->Option A}(h:isT l 9 (a::r) k=true)(h1:k+1<=l.length->S1 Q (f (true,((k+1:Nat):Int)))):S1 Q ((A9 (a::r) l size (k:Int) pl).bind f):=t_key C (Nat.le_of_lt (b1Y h)) (fun _=>h1) fun h2=>by rw[h]at h2;cases h2
theorem c7i {k:Nat}{pl:Int}{a:UInt8}{r:Str}{f:Bool×Int->Option A}(hk:k<=l.length)(h:isT l 9 (a::r) k=false)(h2:S1 Q (f (false,(k:Int)))):S1 Q ((A9 (a::r) l size (k:Int) pl).bind f):=t_key C hk (fun h1=>by rw[h]at h1;cases h1) fun _=>h2
theorem c3e {k:Nat}{pl:Int}{a:UInt8}{r:Str}{f:Bool->Option A}(hk:k<=l.length)(h1:isT l 8 (a::r) k=true->k+1<=l.length->S1 Q (f true))(h2:isT l 8 (a::r) k=false->S1 Q (f false)):S1 Q ((D5 8 (a::r) l size (k:Int) pl).bind f):=by
 have h3:=b5R C.hl hk size pl 8 (a::r);have hl:=C.hl;cases hb:isT l 8 (a::r) k with
 | true =>
  have hlt:=b1Y hb;rw[hb]at h3;have e:D5 8 (a::r) l size (k:Int) pl=some true:=by
   exact h3
  rw[e];exact h1 hb hlt
 | false =>
  rw[hb]at h3;have e:D5 8 (a::r) l size (k:Int) pl=some false:=by
   exact h3
  rw[e];exact h2 hb
theorem t_next8T {k:Nat}{pl:Int}{a:UInt8}{r:Str}{f:Bool->Option A}(h:isT l 8 (a::r) k=true)(h1:k+1<=l.length->S1 Q (f true)):S1 Q ((D5 8 (a::r) l size (k:Int) pl).bind f):=c3e C (Nat.le_of_lt (b1Y h)) (fun _=>h1) fun h2=>by rw[h]at h2;cases h2
theorem b94 {k:Nat}{pl:Int}{a:UInt8}{r:Str}{f:Bool->Option A}(hk:k<=l.length)(h:isT l 8 (a::r) k=false)(h2:S1 Q (f false)):S1 Q ((D5 8 (a::r) l size (k:Int) pl).bind f):=c3e C hk (fun h1=>by rw[h]at h1;cases h1) fun _=>h2
theorem c3f {k:Nat}{pl:Int}{a:UInt8}{r:Str}{f:Bool->Option A}(hk:k<=l.length)(h1:isT l 9 (a::r) k=true->k+1<=l.length->S1 Q (f true))(h2:isT l 9 (a::r) k=false->S1 Q (f false)):S1 Q ((D5 9 (a::r) l size (k:Int) pl).bind f):=by
 have h3:=b5R C.hl hk size pl 9 (a::r);have hl:=C.hl;cases hb:isT l 9 (a::r) k with
 | true =>
  have hlt:=b1Y hb;rw[hb]at h3;have e:D5 9 (a::r) l size (k:Int) pl=some true:=by
   exact h3
  rw[e];exact h1 hb hlt
 | false =>
  rw[hb]at h3;have e:D5 9 (a::r) l size (k:Int) pl=some false:=by
   exact h3
  rw[e];exact h2 hb
theorem t_next9T {k:Nat}{pl:Int}{a:UInt8}{r:Str}{f:Bool->Option A}(h:isT l 9 (a::r) k=true)(h1:k+1<=l.length->S1 Q (f true)):S1 Q ((D5 9 (a::r) l size (k:Int) pl).bind f):=c3f C (Nat.le_of_lt (b1Y h)) (fun _=>h1) fun h2=>by rw[h]at h2;cases h2
theorem b95 {k:Nat}{pl:Int}{a:UInt8}{r:Str}{f:Bool->Option A}(hk:k<=l.length)(h:isT l 9 (a::r) k=false)(h2:S1 Q (f false)):S1 Q ((D5 9 (a::r) l size (k:Int) pl).bind f):=c3f C hk (fun h1=>by rw[h]at h1;cases h1) fun _=>h2
theorem c7k {k:Nat}{pl kd:Int}{f:Str×Bool×Int->Option A}(hk:k<=l.length)(h1:isK l kd k=true->k+1<=l.length->S1 Q (f (b1O l k,true,((k+1:Nat):Int))))(h2:isK l kd k=false->S1 Q (f ([],false,(k:Int)))):S1 Q ((C9 kd l size (k:Int) pl).bind f):=by
 have h3:=c5i C.hl hk size pl kd;have hl:=C.hl;cases hb:isK l kd k with
 | true =>
  have hlt:=b6G hb;have ht:b1O l k=l[k].text:=by unfold b1O;rw[List.getElem?_eq_getElem hlt]
  rw[hb]at h3;have e:C9 kd l size (k:Int) pl=some (b1O l k,true,((k+1:Nat):Int)):=by
   unfold C9;rw[h3];simp only[O3 hlt,Option.bind_some,cond_true,cond_false,L6 (show k<=1000000000000 by omega),ht]
  rw[e];exact h1 hb hlt
 | false =>
  rw[hb]at h3;have e:C9 kd l size (k:Int) pl=some ([],false,(k:Int)):=by
   unfold C9;rw[h3];simp only[Option.bind_some,cond_true,cond_false,L6 (show k<=1000000000000 by omega)]
  rw[e];exact h2 hb
theorem t_wordT {k:Nat}{pl kd:Int}{f:Str×Bool×Int->Option A}(h:isK l kd k=true)(h1:k+1<=l.length->S1 Q (f (b1O l k,true,((k+1:Nat):Int)))):S1 Q ((C9 kd l size (k:Int) pl).bind f):=c7k C (Nat.le_of_lt (b6G h)) (fun _=>h1) fun h2=>by rw[h]at h2;cases h2
theorem c8H {k:Nat}{pl kd:Int}{f:Str×Bool×Int->Option A}(hk:k<=l.length)(h:isK l kd k=false)(h2:S1 Q (f ([],false,(k:Int)))):S1 Q ((C9 kd l size (k:Int) pl).bind f):=c7k C hk (fun h1=>by rw[h]at h1;cases h1) fun _=>h2
theorem c5r {k:Nat}{pl kd:Int}{f:Bool->Option A}(hk:k<=l.length)(h1:isK l kd k=true->k+1<=l.length->S1 Q (f true))(h2:isK l kd k=false->S1 Q (f false)):S1 Q ((O7 kd l size (k:Int) pl).bind f):=by
 have h3:=c5i C.hl hk size pl kd;have hl:=C.hl;cases hb:isK l kd k with
 | true =>
  have hlt:=b6G hb;have ht:b1O l k=l[k].text:=by unfold b1O;rw[List.getElem?_eq_getElem hlt]
  rw[hb]at h3;have e:O7 kd l size (k:Int) pl=some true:=by
   exact h3
  rw[e];exact h1 hb hlt
 | false =>
  rw[hb]at h3;have e:O7 kd l size (k:Int) pl=some false:=by
   exact h3
  rw[e];exact h2 hb
theorem t_isKT {k:Nat}{pl kd:Int}{f:Bool->Option A}(h:isK l kd k=true)(h1:k+1<=l.length->S1 Q (f true)):S1 Q ((O7 kd l size (k:Int) pl).bind f):=c5r C (Nat.le_of_lt (b6G h)) (fun _=>h1) fun h2=>by rw[h]at h2;cases h2
theorem t_isKF {k:Nat}{pl kd:Int}{f:Bool->Option A}(hk:k<=l.length)(h:isK l kd k=false)(h2:S1 Q (f false)):S1 Q ((O7 kd l size (k:Int) pl).bind f):=c5r C hk (fun h1=>by rw[h]at h1;cases h1) fun _=>h2
theorem t_off {k:Nat}{pl:Int}{f:Int->Option A}(hk:k<=l.length)(h:S1 Q (f (hereT l size k))):S1 Q ((D7 l size (k:Int) pl).bind f):=by rw[b6L C.hl hk size pl];exact h
theorem t_app {α:Type}{b:Nat}{x y:List α}{f:List α->Option A}(h1:x.length<=100000)(h2:y.length<=100000)(hb:b<=1000)(h:S1 Q (f (x++y))):S1 Q ((app b x y).bind f):=by rw[c3C h1 h2 hb];exact h
theorem t_num {k n:Nat}{f:Int->Option A}(hk:isK l 3 k=true)(hn:10000<=n)(h:∀v,0<=v->v<=9223372036854775807->S1 Q (f v)):S1 Q ((a1b n (b1O l k)).bind f):=by
 obtain⟨v,h0,h2,h1⟩:=C.int k hk;rw[h1 n hn];exact h v h0 h2
theorem t_num0 {n:Nat}{f:Int->Option A}(hn:10000<=n)(h:S1 Q (f 0)):S1 Q ((a1b n []).bind f):=by
 rw[num_nil (by omega)];exact h
def QT (l:List Tok)(k:Nat):Typ×Bool×Int->Prop:=fun a=>∃n:Nat,a.2.2=n/\k<=n/\n<=l.length/\(a.2.1=true->GT a.1/\a.1.sz+k<=n)
theorem qt_ok {k q:Nat}{t:Typ}(h1:k<=q)(h2:q<=l.length)(h3:GT t)(h4:t.sz+k<=q):S1 (QT l k) (some (t,true,(q:Int))):=b4A ⟨q,rfl,h1,h2,fun _=>⟨h3,h4⟩⟩
theorem qt_no {k q:Nat}{t:Typ}(h1:k<=q)(h2:q<=l.length):S1 (QT l k) (some (t,false,(q:Int))):=b4A ⟨q,rfl,h1,h2,fun h=>by cases h⟩
theorem t_typ {k:Nat}{p:Option (Typ×Bool×Int)}{f:Typ×Bool×Int->Option A}(H:S1 (QT l k) p)(hok:∀(t:Typ) (q:Nat),k<q->q<=l.length->t.sz+k<=q->GT t->S1 Q (f (t,true,(q:Int))))(hno:∀(t:Typ) (q:Nat),k<=q->q<=l.length->S1 Q (f (t,false,(q:Int)))):S1 Q (p.bind f):=by
 obtain⟨⟨t,b,q'⟩,rfl,q,rfl,h1,h2,h3⟩:=H;cases b with
 | true =>
  obtain⟨h3,h4⟩:=h3 rfl;have h4:t.sz+k<=q:=h4;have:=t.S9;exact hok t q (by omega) h2 h4 h3
 | false=>exact hno t q h1 h2
def QTs (l:List Tok)(k:Nat):List Typ×Bool×Int->Prop:=fun a=>∃n:Nat,a.2.2=n/\k<=n/\n<=l.length/\(a.2.1=true ->(∀x∈a.1,GT x)/\szT a.1+k<=n)
theorem qts_ok {k q:Nat}{t:List Typ}(h1:k<=q)(h2:q<=l.length)(h3:∀x∈t,GT x)(h4:szT t+k<=q):S1 (QTs l k) (some (t,true,(q:Int))):=b4A ⟨q,rfl,h1,h2,fun _=>⟨h3,h4⟩⟩
theorem qts_no {k q:Nat}{t:List Typ}(h1:k<=q)(h2:q<=l.length):S1 (QTs l k) (some (t,false,(q:Int))):=b4A ⟨q,rfl,h1,h2,fun h=>by cases h⟩
theorem t_typs {k:Nat}{p:Option (List Typ×Bool×Int)}{f:List Typ×Bool×Int->Option A}(H:S1 (QTs l k) p)(hok:∀(t:List Typ) (q:Nat),k<=q->q<=l.length->szT t+k<=q->t.length<=3000 ->(∀x∈t,GT x)->S1 Q (f (t,true,(q:Int))))(hno:∀(t:List Typ) (q:Nat),k<=q->q<=l.length->S1 Q (f (t,false,(q:Int)))):S1 Q (p.bind f):=by
 obtain⟨⟨t,b,q'⟩,rfl,q,rfl,h1,h2,h3⟩:=H;cases b with
 | true =>
  obtain⟨h3,h4⟩:=h3 rfl;have h4:szT t+k<=q:=h4;have:=a4t t;have:=C.hl;exact hok t q h1 h2 h4 (by omega) h3
 | false=>exact hno t q h1 h2
def QP (l:List Tok)(P:Nod->Prop)(k:Nat):Nod×Bool×Int->Prop:=fun a=>∃n:Nat,a.2.2=n/\k<=n/\n<=l.length/\(a.2.1=true->P a.1/\a.1.sz+4*k<=4*n)
theorem qp_ok {P:Nod->Prop}{k q:Nat}{x:Nod}(h1:k<=q)(h2:q<=l.length)(h4:x.sz+4*k<=4*q)(h3:P x):S1 (QP l P k) (some (x,true,(q:Int))):=b4A ⟨q,rfl,h1,h2,fun _=>⟨h3,h4⟩⟩
theorem qp_no {P:Nod->Prop}{k q:Nat}{x:Nod}(h1:k<=q)(h2:q<=l.length):S1 (QP l P k) (some (x,false,(q:Int))):=b4A ⟨q,rfl,h1,h2,fun h=>by cases h⟩
theorem t_nop {P:Nod->Prop}{k:Nat}{p:Option (Nod×Bool×Int)}{f:Nod×Bool×Int->Option A}(H:S1 (QP l P k) p)(hok:∀(x:Nod) (q:Nat),k<q->q<=l.length->x.sz+4*k<=4*q->P x->S1 Q (f (x,true,(q:Int))))(hno:∀(x:Nod) (q:Nat),k<=q->q<=l.length->S1 Q (f (x,false,(q:Int)))):S1 Q (p.bind f):=by
 obtain⟨⟨x,b,q'⟩,rfl,q,rfl,h1,h2,h3⟩:=H;cases b with
 | true =>
  obtain⟨h3,h4⟩:=h3 rfl;have h4:x.sz+4*k<=4*q:=h4;have:=x.S9;exact hok x q (by omega) h2 h4 h3
 | false=>exact hno x q h1 h2
def QN (l:List Tok)(P:Nod->Prop)(k:Nat):Nod×Bool×Int×Int->Prop:=fun a=>∃n:Nat,a.2.2.1=n/\k<=n/\n<=l.length/\(a.2.1=true->P a.1/\a.1.sz+4*k<=4*n)
theorem qn_ok {P:Nod->Prop}{k q:Nat}{x:Nod}{pl:Int}(h1:k<=q)(h2:q<=l.length)(h4:x.sz+4*k<=4*q)(h3:P x):S1 (QN l P k) (some (x,true,(q:Int),pl)):=b4A ⟨q,rfl,h1,h2,fun _=>⟨h3,h4⟩⟩
theorem qn_no {P:Nod->Prop}{k q:Nat}{x:Nod}{pl:Int}(h1:k<=q)(h2:q<=l.length):S1 (QN l P k) (some (x,false,(q:Int),pl)):=b4A ⟨q,rfl,h1,h2,fun h=>by cases h⟩
theorem b45 {P:Nod->Prop}{k:Nat}{p:Option (Nod×Bool×Int×Int)}{f:Nod×Bool×Int×Int->Option A}(H:S1 (QN l P k) p)(hok:∀(x:Nod) (q:Nat) (pl:Int),k<q->q<=l.length->x.sz+4*k<=4*q->P x->S1 Q (f (x,true,(q:Int),pl)))(hno:∀(x:Nod) (q:Nat) (pl:Int),k<=q->q<=l.length->S1 Q (f (x,false,(q:Int),pl))):S1 Q (p.bind f):=by
 obtain⟨⟨x,b,q',pl⟩,rfl,q,rfl,h1,h2,h3⟩:=H;cases b with
 | true =>
  obtain⟨h3,h4⟩:=h3 rfl;have h4:x.sz+4*k<=4*q:=h4;have:=x.S9;exact hok x q pl (by omega) h2 h4 h3
 | false=>exact hno x q pl h1 h2
theorem qn_w {P P':Nod->Prop}{k:Nat}{p:Option (Nod×Bool×Int×Int)}(H:S1 (QN l P k) p)(h:∀x,P x->P' x):S1 (QN l P' k) p:=by
 obtain⟨a,e,n,h1,h2,h3,h4⟩:=H;exact⟨a,e,n,h1,h2,h3,fun h5=>⟨h _ (h4 h5).1,(h4 h5).2⟩⟩
def QL (l:List Tok)(P:Nod->Prop)(m0:List Nod)(k:Nat):List Nod×Bool×Int×Int->Prop:=fun a=>∃n:Nat,a.2.2.1=n/\k<=n/\n<=l.length/\(a.2.1=true -> ∃ys,a.1=m0++ys/\(∀x∈ys,P x)/\szN ys+4*k<=4*n)
theorem ql_ok {P:Nod->Prop}{m0:List Nod}{k q:Nat}{xs ys:List Nod}{pl:Int}(h1:k<=q)(h2:q<=l.length)(h5:xs=m0++ys)(h4:szN ys+4*k<=4*q)(h3:∀x∈ys,P x):S1 (QL l P m0 k) (some (xs,true,(q:Int),pl)):=b4A ⟨q,rfl,h1,h2,fun _=>⟨ys,h5,h3,h4⟩⟩
theorem ql_no {P:Nod->Prop}{m0:List Nod}{k q:Nat}{xs:List Nod}{pl:Int}(h1:k<=q)(h2:q<=l.length):S1 (QL l P m0 k) (some (xs,false,(q:Int),pl)):=b4A ⟨q,rfl,h1,h2,fun h=>by cases h⟩
theorem t_list {P:Nod->Prop}{m0:List Nod}{k:Nat}{p:Option (List Nod×Bool×Int×Int)}{f:List Nod×Bool×Int×Int->Option A}(H:S1 (QL l P m0 k) p)(hok:∀(ys:List Nod) (q:Nat) (pl:Int),k<=q->q<=l.length->szN ys+4*k<=4*q->ys.length<=12000 ->(∀x∈ys,P x)->S1 Q (f (m0++ys,true,(q:Int),pl)))(hno:∀(xs:List Nod) (q:Nat) (pl:Int),k<=q->q<=l.length->S1 Q (f (xs,false,(q:Int),pl))):S1 Q (p.bind f):=by
 obtain⟨⟨xs,b,q',pl⟩,rfl,q,rfl,h1,h2,h3⟩:=H;cases b with
 | true =>
  obtain⟨ys,h5,h6,h4⟩:=h3 rfl;have h5:xs=m0++ys:=h5;have h4:szN ys+4*k<=4*q:=h4;subst h5;have:=G5 ys;have:=C.hl;exact hok ys q pl h1 h2 h4 (by omega) h6
 | false=>exact hno xs q pl h1 h2
def QM (l:List Tok)(P:Nod->Prop)(m0:List Nod)(k:Nat):List Nod×Bool×Int->Prop:=fun a=>∃n:Nat,a.2.2=n/\k<=n/\n<=l.length/\(a.2.1=true -> ∃ys,a.1=m0++ys/\(∀x∈ys,P x)/\szN ys+4*k<=4*n)
theorem qm_ok {P:Nod->Prop}{m0:List Nod}{k q:Nat}{xs ys:List Nod}(h1:k<=q)(h2:q<=l.length)(h5:xs=m0++ys)(h4:szN ys+4*k<=4*q)(h3:∀x∈ys,P x):S1 (QM l P m0 k) (some (xs,true,(q:Int))):=b4A ⟨q,rfl,h1,h2,fun _=>⟨ys,h5,h3,h4⟩⟩
theorem qm_no {P:Nod->Prop}{m0:List Nod}{k q:Nat}{xs:List Nod}(h1:k<=q)(h2:q<=l.length):S1 (QM l P m0 k) (some (xs,false,(q:Int))):=b4A ⟨q,rfl,h1,h2,fun h=>by cases h⟩
theorem c3d {P:Nod->Prop}{m0:List Nod}{k:Nat}{p:Option (List Nod×Bool×Int)}{f:List Nod×Bool×Int->Option A}(H:S1 (QM l P m0 k) p)(hok:∀(ys:List Nod) (q:Nat),k<=q->q<=l.length->szN ys+4*k<=4*q->ys.length<=12000 ->(∀x∈ys,P x)->S1 Q (f (m0++ys,true,(q:Int))))(hno:∀(xs:List Nod) (q:Nat),k<=q->q<=l.length->S1 Q (f (xs,false,(q:Int)))):S1 Q (p.bind f):=by
 obtain⟨⟨xs,b,q'⟩,rfl,q,rfl,h1,h2,h3⟩:=H;cases b with
 | true =>
  obtain⟨ys,h5,h6,h4⟩:=h3 rfl;have h5:xs=m0++ys:=h5;have h4:szN ys+4*k<=4*q:=h4;subst h5;have:=G5 ys;have:=C.hl;exact hok ys q h1 h2 h4 (by omega) h6
 | false=>exact hno xs q h1 h2
def QX (l:List Tok)(k:Nat):List Nod×Bool×Int×Int->Prop:=fun a=>∃n:Nat,a.2.2.1=n/\k<=n/\n<=l.length/\(a.2.1=true -> ∃x ys,a.1=x::ys/\G 0 x/\(∀y∈ys,G 5 y)/\x.sz+szN ys+4*k<=4*n)
theorem qx_ok {k q:Nat}{x:Nod}{ys:List Nod}{pl:Int}(h1:k<=q)(h2:q<=l.length)(h4:x.sz+szN ys+4*k<=4*q)(h5:G 0 x)(h3:∀x∈ys,G 5 x):S1 (QX l k) (some (x::ys,true,(q:Int),pl)):=b4A ⟨q,rfl,h1,h2,fun _=>⟨x,ys,rfl,h5,h3,h4⟩⟩
theorem qx_no {k q:Nat}{xs:List Nod}{pl:Int}(h1:k<=q)(h2:q<=l.length):S1 (QX l k) (some (xs,false,(q:Int),pl)):=b4A ⟨q,rfl,h1,h2,fun h=>by cases h⟩
theorem t_mat {k:Nat}{p:Option (List Nod×Bool×Int×Int)}{f:List Nod×Bool×Int×Int->Option A}(H:S1 (QX l k) p)(hok:∀(x:Nod) (ys:List Nod) (q:Nat) (pl:Int),k<=q->q<=l.length->x.sz+szN ys+4*k<=4*q->G 0 x ->(∀x∈ys,G 5 x)->S1 Q (f (x::ys,true,(q:Int),pl)))(hno:∀(xs:List Nod) (q:Nat) (pl:Int),k<=q->q<=l.length->S1 Q (f (xs,false,(q:Int),pl))):S1 Q (p.bind f):=by
 obtain⟨⟨xs,b,q',pl⟩,rfl,q,rfl,h1,h2,h3⟩:=H;cases b with
 | true =>
  obtain⟨x,ys,h5,h6,h7,h4⟩:=h3 rfl;have h5:xs=x::ys:=h5;have h4:x.sz+szN ys+4*k<=4*q:=h4;subst h5;exact hok x ys q pl h1 h2 h4 h6 h7
 | false=>exact hno xs q pl h1 h2
def QA (l:List Tok)(P:Nod->Prop)(m0:List Nod)(k:Nat):List Nod×Bool×Int×Int×List Nod->Prop:=fun a=>∃n:Nat,a.2.2.1=n/\k<=n/\n<=l.length/\(a.2.1=true -> ∃ys,a.1=m0++ys/\(∀x∈ys,P x)/\szN ys+4+4*k<=4*n)
theorem qa_ok {P:Nod->Prop}{m0:List Nod}{k q:Nat}{xs ys zs:List Nod}{pl:Int}(h1:k<=q)(h2:q<=l.length)(h5:xs=m0++ys)(h4:szN ys+4+4*k<=4*q)(h3:∀x∈ys,P x):S1 (QA l P m0 k) (some (xs,true,(q:Int),pl,zs)):=b4A ⟨q,rfl,h1,h2,fun _=>⟨ys,h5,h3,h4⟩⟩
theorem qa_no {P:Nod->Prop}{m0:List Nod}{k q:Nat}{xs zs:List Nod}{pl:Int}(h1:k<=q)(h2:q<=l.length):S1 (QA l P m0 k) (some (xs,false,(q:Int),pl,zs)):=b4A ⟨q,rfl,h1,h2,fun h=>by cases h⟩
theorem t_args {P:Nod->Prop}{m0:List Nod}{k:Nat}{p:Option (List Nod×Bool×Int×Int×List Nod)}{f:List Nod×Bool×Int×Int×List Nod->Option A}(H:S1 (QA l P m0 k) p)(hok:∀(ys zs:List Nod) (q:Nat) (pl:Int),k<q->q<=l.length->szN ys+4+4*k<=4*q->ys.length<=12000 ->(∀x∈ys,P x)->S1 Q (f (m0++ys,true,(q:Int),pl,zs)))(hno:∀(xs zs:List Nod) (q:Nat) (pl:Int),k<=q->q<=l.length->S1 Q (f (xs,false,(q:Int),pl,zs))):S1 Q (p.bind f):=by
 obtain⟨⟨xs,b,q',pl,zs⟩,rfl,q,rfl,h1,h2,h3⟩:=H;cases b with
 | true =>
  obtain⟨ys,h5,h6,h4⟩:=h3 rfl;have h5:xs=m0++ys:=h5;have h4:szN ys+4+4*k<=4*q:=h4;subst h5;have:=G5 ys;have:=C.hl;exact hok ys zs q pl (by omega) h2 h4 (by omega) h6
 | false=>exact hno xs zs q pl h1 h2
end
theorem CD:(∀{α β:Type} (b:Bool) (x y:Option α) (f:α->Option β),(cond b x y).bind f=cond b (x.bind f) (y.bind f))/\(∀{α ρ β:Type} (b:Bool) (x y:Option (Lr α ρ)) (f:α->Option β) (o:ρ->Option β),bS (cond b x y) f o=cond b (bS x f o) (bS y f o)):=⟨fun b _ _ _=>by cases b<;>rfl,fun b _ _ _ _=>by cases b<;>rfl⟩
theorem t_if {A:Type}{Q:A->Prop}{b:Bool}{x y:Option A}(h1:b=true->S1 Q x)(h2:b=false->S1 Q y):S1 Q (cond b x y):=by
 cases b
 ·exact h2 rfl
 ·exact h1 rfl
theorem one {P:Prop}(x:P:=by
 repeat' first
 | with_reducible assumption
 | with_reducible exact all_nil
 | with_reducible refine b5F ?_ ?_
 | with_reducible refine a8P ?_
 | with_reducible intro _
 |(simp (disch:=omega) only[NF,a0j,Int.reduceEq,decide_true,decide_false,fin,L6,List.append_nil,List.nil_append,List.append_assoc,List.cons_append,c0J])
 |(simp (disch:=omega) only[NF,a0j,Int.reduceEq,decide_true,decide_false,L6,List.append_nil,List.nil_append,List.append_assoc,List.cons_append,c0J])
 | with_reducible refine ih ?_ ?_ ?_ rfl ?_ ?_|with_reducible refine ih ?_ ?_ ?_ ?_ ?_ ?_ ?_|with_reducible refine ih ?_ ?_ ?_ ?_ ?_ ?_|with_reducible refine ih ?_ ?_ ?_ ?_ ?_|with_reducible refine ih ?_ ?_ ?_ ?_
 | with_reducible refine lp1 ?_ ?_ ?_ ?_|with_reducible refine lp1 ?_ ?_ ?_ ?_ ?_|with_reducible refine lp1 ?_ ?_ ?_ ?_ ?_ ?_|with_reducible refine lp1 ?_ ?_ ?_ ?_ ?_ ?_ ?_|with_reducible refine lp1 ?_ ?_ ?_ ?_ ?_ ?_ ?_ ?_
 | with_reducible refine lp2 ?_ ?_ ?_ ?_|with_reducible refine lp2 ?_ ?_ ?_ ?_ ?_|with_reducible refine lp2 ?_ ?_ ?_ ?_ ?_ ?_|with_reducible refine lp2 ?_ ?_ ?_ ?_ ?_ ?_ ?_|with_reducible refine lp2 ?_ ?_ ?_ ?_ ?_ ?_ ?_ ?_
 | with_reducible refine hF ?_ ?_|with_reducible refine hF ?_ ?_ ?_|with_reducible refine hF ?_ ?_ ?_ ?_|with_reducible refine hF ?_ ?_ ?_ ?_ ?_|with_reducible refine hO ?_ ?_|with_reducible refine hO ?_ ?_ ?_|with_reducible refine hO ?_ ?_ ?_ ?_
 | with_reducible refine t_signT C (by assumption) (fun _=>?_)|with_reducible refine c3g C ?_ (by assumption) ?_|with_reducible refine c3g C ?_ (c2p C (by assumption) (by decide)) ?_|with_reducible refine c3g C ?_ (c2o C (by assumption) (by decide)) ?_
 | with_reducible refine t_keyT C (by assumption) (fun _=>?_)|with_reducible refine c7i C ?_ (by assumption) ?_|with_reducible refine c7i C ?_ (c2p C (by assumption) (by decide)) ?_|with_reducible refine c7i C ?_ (c2o C (by assumption) (by decide)) ?_
 | with_reducible refine t_next8T C (by assumption) (fun _=>?_)|with_reducible refine b94 C ?_ (by assumption) ?_|with_reducible refine b94 C ?_ (c2p C (by assumption) (by decide)) ?_|with_reducible refine b94 C ?_ (c2o C (by assumption) (by decide)) ?_
 | with_reducible refine t_next9T C (by assumption) (fun _=>?_)|with_reducible refine b95 C ?_ (by assumption) ?_|with_reducible refine b95 C ?_ (c2p C (by assumption) (by decide)) ?_|with_reducible refine b95 C ?_ (c2o C (by assumption) (by decide)) ?_
 | with_reducible refine t_wordT C (by assumption) (fun _=>?_)|with_reducible refine c8H C ?_ (by assumption) ?_
 | with_reducible refine t_isKT C (by assumption) (fun _=>?_)|with_reducible refine t_isKF C ?_ (by assumption) ?_
 | with_reducible refine c8H C ?_ (isT_kk C (by assumption) (by decide)) ?_
 | with_reducible refine c7j C ?_ (fun _ _=>?_) (fun _=>?_)
 | with_reducible refine t_key C ?_ (fun _ _=>?_) (fun _=>?_)
 | with_reducible refine c3e C ?_ (fun _ _=>?_) (fun _=>?_)
 | with_reducible refine c3f C ?_ (fun _ _=>?_) (fun _=>?_)
 | with_reducible refine c7k C ?_ (fun _ _=>?_) (fun _=>?_)
 | with_reducible refine c5r C ?_ (fun _ _=>?_) (fun _=>?_)
 | with_reducible refine t_off C ?_ ?_|with_reducible refine t_app C ?_ ?_ ?_ ?_|with_reducible refine t_num C (by assumption) ?_ ?_|with_reducible refine t_num0 C ?_ ?_
 | with_reducible refine t_typ C (pt1 ?_ ?_) ?_ ?_|with_reducible refine t_typ C (pt2 ?_ ?_) ?_ ?_|with_reducible refine t_typs C (pt3 ?_ ?_) ?_ ?_
 | with_reducible refine t_nop C (pp1 ?_ ?_) ?_ ?_|with_reducible refine t_nop C (pp2 ?_ ?_) ?_ ?_|with_reducible refine c3d C (pm1 ?_ ?_) ?_ ?_|with_reducible refine c3d C (pm2 ?_ ?_) ?_ ?_|with_reducible refine c3d C (pm3 ?_ ?_) ?_ ?_
 | with_reducible refine b45 C (pn1 ?_ ?_) ?_ ?_|with_reducible refine b45 C (pn2 ?_ ?_) ?_ ?_|with_reducible refine b45 C (pn3 ?_ ?_) ?_ ?_|with_reducible refine b45 C (pn4 ?_ ?_) ?_ ?_|with_reducible refine b45 C (pn5 ?_ ?_) ?_ ?_|with_reducible refine b45 C (pn6 ?_ ?_) ?_ ?_|with_reducible refine b45 C (pn7 ?_ ?_) ?_ ?_
 | with_reducible refine t_list C (pl1 ?_ ?_) ?_ ?_|with_reducible refine t_list C (pl2 ?_ ?_) ?_ ?_|with_reducible refine t_mat C (px1 ?_ ?_) ?_ ?_|with_reducible refine b45 C (pk1 (by assumption) ?_) ?_ ?_|with_reducible refine b45 C (pk2 (by assumption) ?_ ?_) ?_ ?_|with_reducible refine qx_ok C ?_ ?_ ?_ ?_ ?_|with_reducible refine qx_no C ?_ ?_|with_reducible refine t_args C (pa1 ?_ ?_ ?_) ?_ ?_|with_reducible refine t_place C ?_ (fun _=>?_)
 | with_reducible refine qt_ok C ?_ ?_ ?_ ?_|with_reducible refine qt_no C ?_ ?_|with_reducible refine qts_ok C ?_ ?_ ?_ ?_|with_reducible refine qts_no C ?_ ?_|with_reducible refine qp_ok C ?_ ?_ ?_ ?_|with_reducible refine qp_no C ?_ ?_|with_reducible refine qn_ok C ?_ ?_ ?_ ?_|with_reducible refine qn_no C ?_ ?_|with_reducible refine ql_ok C ?_ ?_ rfl ?_ ?_|with_reducible refine ql_ok C ?_ ?_ (List.append_nil _).symm ?_ ?_|with_reducible refine ql_ok C ?_ ?_ (List.nil_append _).symm ?_ ?_|with_reducible refine ql_no C ?_ ?_|with_reducible refine qm_ok C ?_ ?_ rfl ?_ ?_|with_reducible refine qm_ok C ?_ ?_ (List.append_nil _).symm ?_ ?_|with_reducible refine qm_ok C ?_ ?_ (List.nil_append _).symm ?_ ?_|with_reducible refine qm_no C ?_ ?_|with_reducible refine qa_ok C ?_ ?_ rfl ?_ ?_|with_reducible refine qa_ok C ?_ ?_ (List.append_nil _).symm ?_ ?_|with_reducible refine qa_ok C ?_ ?_ (List.nil_append _).symm ?_ ?_|with_reducible refine qa_no C ?_ ?_
 | with_reducible exact C.txt _
 | with_reducible exact Nat.zero_le _
 | with_reducible refine .lend ?_|with_reducible refine .arg ?_
 | with_reducible refine .int ?_ ?_|with_reducible exact .truth|with_reducible refine .text ?_|with_reducible refine .name ?_|with_reducible refine .use ?_|with_reducible refine .list ?_|with_reducible refine .clos ?_ ?_ ?_|with_reducible refine .bin ?_ ?_ ?_|with_reducible refine .un (.inl rfl) ?_|with_reducible refine .un (.inr rfl) ?_|with_reducible refine .field ?_ ?_|with_reducible refine .call ?_ ?_|with_reducible refine .method ?_ ?_ ?_|with_reducible refine .apply ?_ ?_|with_reducible refine .stat0 ?_ ?_|with_reducible refine .stat1 ?_ ?_ ?_|with_reducible refine .make ?_ ?_|with_reducible refine .lend ?_
 | with_reducible refine .let0 ?_ (.inl rfl)|with_reducible refine .let0 ?_ (.inr ?_)|with_reducible refine .let1 ?_ (.inl rfl) ?_|with_reducible refine .let1 ?_ (.inr ?_) ?_|with_reducible refine .assign ?_ ?_|with_reducible refine .sole ?_|with_reducible refine .if2 ?_ ?_|with_reducible refine .if3 ?_ (by assumption) (by assumption)|with_reducible refine .if4 ?_ (by assumption) (And.left (by assumption)) (And.right (by assumption))|with_reducible refine⟨?_,trivial⟩|with_reducible refine .whil ?_ ?_|with_reducible refine .mat ?_ ?_|with_reducible exact .ret0|with_reducible refine .ret1 ?_|with_reducible refine .throws ?_|with_reducible refine .doc ?_ ?_ ?_|with_reducible refine .defer ?_|with_reducible refine .block ?_
 | with_reducible exact .wild|with_reducible refine .bnd ?_|with_reducible refine .pint (w64_rng _)|with_reducible refine .pint ⟨?_,?_⟩|with_reducible refine .ptruth ⟨?_,?_⟩|with_reducible refine .ptext ?_|with_reducible refine .pcase ?_ ?_|with_reducible refine .param ?_ ?_|with_reducible refine .arm ?_ ?_
 | with_reducible refine GT.mk ?_ (fun h=>absurd h (kn _ _)) ?_|with_reducible refine GT.mk ?_ (fun h=>absurd h (by decide)) ?_|with_reducible refine GT.mk ?_ (fun _=>?_) ?_
 | exact trivial
 | omega
 |(simp only[SZ,a2b,a9W,List.length_append,List.length_cons,List.length_nil];omega)
 |(simp only[SZ,a2b,a9W]at *;omega)
 | exact rfl
 | with_reducible refine t_if ?_ ?_
 |(simp only[CD])):P:=x
end Go.Proofs.YtmippldlhnajkaaGreatDoor
