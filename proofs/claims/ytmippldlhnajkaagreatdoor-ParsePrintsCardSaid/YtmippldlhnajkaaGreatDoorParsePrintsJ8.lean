/- Texts of ParsePrints, joined. -/
import Derived.Test.YtmippldlhnajkaaGreatDoorParsePrintsJ7
import Derived.Shelf.Strings.Builder1
import Derived.Shelf.Strings.OnBuilder
import Derived.Test.YtmippldlhnajkaaGreatDoorProg
import Derived.Shelf.LaysC
import Derived.Shelf.Strconv.AtoiAll
import Derived.KernelRfl
set_option maxRecDepth 100000
set_option maxHeartbeats 20000000
set_option linter.unusedSimpArgs false
set_option linter.unusedVariables false
set_option linter.unusedSectionVars false
namespace Go.Proofs.YtmippldlhnajkaaGreatDoor.Sc
open Go Go.Vm
def Lay (s:List UInt8):Nat->List Tok->Nat->Prop|k,[],e=>k=e|k,t::r,e=>t.a=a0C s k/\t.a<s.length/\0<t.l/\t.a+t.l<=s.length/\Lay s (t.a+t.l) r e
theorem Lay.add {s:List UInt8}{t:Tok}:∀{l:List Tok} {k e:Nat},Lay s k l e->t.a=a0C s e->t.a<s.length->0<t.l->t.a+t.l<=s.length->Lay s k (l++[t]) (t.a+t.l)
 | [],k,e,h,h1,h2,h3,h4=>by
  simp only[Lay]at h;subst h;exact⟨h1,h2,h3,h4,rfl⟩
 | u::l,k,e,h,h1,h2,h3,h4=>⟨h.1,h.2.1,h.2.2.1,h.2.2.2.1,Lay.add h.2.2.2.2 h1 h2 h3 h4⟩
theorem a1m {toks:List Tok}{j:Nat}{r:MR}{y:MS}(h:roomy toks j r=.go y):toks.length<3000/\r=.go y:=by
 unfold roomy at h;split at h
 ·cases h
 ·rename_i h1;simp only[decide_eq_false_iff_not]at h1;exact⟨by omega,h⟩
theorem lit_go {s:List UInt8}{toks:List Tok}{st:List (Nat×Int)}{q j ins:Nat}{a b:Int}{y:MS}(h:a3y toks st q j a b (part s q ins (j+1) [])=.go y) :
  ∃t:Tok,y.toks=toks++[t]/\t.a=j/\0<t.l/\y.i=t.a+t.l/\t.a+t.l<=s.length:=by
 have hok:=c2L s q ins (j+1) [];cases hp:part s q ins (j+1) []with
 | err c a=>rw[hp]at h;cases h
 | fin t e =>
  rw[hp]at h hok;have h1:j+1<e:=hok.1;have h2:e<=s.length:=hok.2;simp only[a3y]at h;cases h;exact⟨_,rfl,rfl,by show 0<e-j;omega,by show e=j+(e-j);omega,by show j+(e-j)<=_;omega⟩
 | more t e =>
  rw[hp]at h hok;have h1:j+1<e:=hok.1;have h2:e<=s.length:=hok.2;simp only[a3y]at h;cases h;exact⟨_,rfl,rfl,by show 0<e-j;omega,by show e=j+(e-j);omega,by show j+(e-j)<=_;omega⟩
theorem stepM_go {s:List UInt8}{x y:MS}(h:stepM s x=.go y):∃t:Tok,y.toks=x.toks++[t]/\t.a=a0C s x.i/\t.a<s.length/\0<t.l/\y.i=t.a+t.l/\t.a+t.l<=s.length:=by
 obtain⟨i0,toks,st⟩:=x;obtain⟨i,h0⟩:∃i,a0C s i0=i:=⟨_,rfl⟩
 show ∃t:Tok,y.toks=toks++[t]/\t.a=a0C s i0/\_;rw[h0];rcases Nat.lt_or_ge i s.length with hi|hi
 ·have fin:(∃t:Tok,y.toks=toks++[t]/\t.a=i/\0<t.l/\y.i=t.a+t.l/\t.a+t.l<=s.length) -> ∃t:Tok,y.toks=toks++[t]/\t.a=i/\t.a<s.length/\0<t.l/\y.i=t.a+t.l/\t.a+t.l<=s.length:=by
   rintro⟨t,h1,h2,h3,h4,h5⟩;exact⟨t,h1,h2,by omega,h3,h4,h5⟩
  apply fin;cases hc:closes (s.getD i 0).toNat st with
  | true =>
   cases st with
   | nil=>cases hc
   | cons z st =>
    obtain⟨q,p⟩:=z;rw[(a4R h0 hi hc).2]at h;exact lit_go (a1m h).2
  | false =>
   by_cases h1:(s.getD i 0).toNat=34
   ·rw[a7W h0 hi hc h1]at h;exact lit_go (a1m h).2
   ·have hi1:i<=s.length:=by omega
    cases h2:M0 (s.getD i 0)with
    | true =>
     rw[a5H h0 hi hc h1 h2]at h;have hg:=b0v hi h2;have hl:=b0w (p:=M0) hi1;have h:=(a1m h).2;split at h
     ·cases h
     ·cases h;exact⟨_,rfl,rfl,by show 0<Z7 M0 s i-i;omega,by show Z7 M0 s i=i+(Z7 M0 s i-i);omega,by show i+(Z7 M0 s i-i)<=_;omega⟩
    | false =>
     cases h3:a0x (s.getD i 0)with
     | true =>
      rw[a4S h0 hi hc h1 h2 h3]at h;have hg:=b0v (p:=a0X) hi (by simp only[a0X,h3,Bool.true_or]);have hl:=b0w (p:=a0X) hi1;have h:=(a1m h).2;split at h
      ·cases h
      ·cases h;exact⟨_,rfl,rfl,by show 0<Z7 a0X s i-i;omega,by show Z7 a0X s i=i+(Z7 a0X s i-i);omega,by show i+(Z7 a0X s i-i)<=_;omega⟩
     | false =>
      cases hw:a2a s i 2 with
      | nil=>rw[a7T h0 hi hc h1 h2 h3 hw]at h;cases h
      | cons b w =>
       rw[a6E h0 hi hc h1 h2 h3 hw (by simp)]at h;have hl:=b67 2 hi1;rw[hw]at hl;have h:=(a1m h).2;cases h;exact⟨_,rfl,rfl,by show 0<(b::w).length;simp,rfl,by show i+(b::w).length<=_;omega⟩
 ·cases st with
  | nil=>rw[a7U h0 hi]at h;cases h
  | cons z st=>obtain⟨q,p⟩:=z;rw[a7V h0 hi]at h;cases h
theorem c9y {s:List UInt8}{x y:MS}(h:Reach s x y):x.i<=s.length->Lay s 0 x.toks x.i->y.i<=s.length/\Lay s 0 y.toks y.i:=by
 induction h with
 | refl x=>exact fun h1 h2=>⟨h1,h2⟩
 | step x y z h1 _ ih =>
  intro h2 h3;obtain⟨t,g1,g2,g3,g4,g5,g6⟩:=stepM_go h1;exact ih (by omega) (by rw[g1,g5];exact h3.add g2 g3 g4 g6)
theorem a9S {toks l:List Tok}{j:Nat}{r:MR}(h:roomy toks j r=.done l):r=.done l:=by
 unfold roomy at h;split at h
 ·cases h
 ·exact h
theorem b5P {toks l:List Tok}{st:List (Nat×Int)}{q j:Nat}{a b:Int}{r:PR}(h:a3y toks st q j a b r=.done l):False:=by
 cases r<;>cases h
theorem b2w {s:List UInt8}{x:MS}{l:List Tok}(h:stepM s x=.done l):x.toks=l/\s.length<=a0C s x.i:=by
 obtain⟨i0,toks,st⟩:=x;obtain⟨i,h0⟩:∃i,a0C s i0=i:=⟨_,rfl⟩
 show toks=l/\s.length<=a0C s i0;rw[h0];rcases Nat.lt_or_ge i s.length with hi|hi
 ·exfalso;cases hc:closes (s.getD i 0).toNat st with
  | true =>
   cases st with
   | nil=>cases hc
   | cons z st =>
    obtain⟨q,p⟩:=z;rw[(a4R h0 hi hc).2]at h;exact b5P (a9S h)
  | false =>
   by_cases h1:(s.getD i 0).toNat=34
   ·rw[a7W h0 hi hc h1]at h;exact b5P (a9S h)
   ·cases h2:M0 (s.getD i 0)with
    | true =>
     rw[a5H h0 hi hc h1 h2]at h;have h:=a9S h;split at h<;>cases h
    | false =>
     cases h3:a0x (s.getD i 0)with
     | true =>
      rw[a4S h0 hi hc h1 h2 h3]at h;have h:=a9S h;split at h<;>cases h
     | false =>
      cases hw:a2a s i 2 with
      | nil=>rw[a7T h0 hi hc h1 h2 h3 hw]at h;cases h
      | cons b w =>
       rw[a6E h0 hi hc h1 h2 h3 hw (by simp)]at h;have h:=a9S h;cases h
 ·cases st with
  | nil=>rw[a7U h0 hi]at h;cases h;exact⟨rfl,hi⟩
  | cons z st=>obtain⟨q,p⟩:=z;rw[a7V h0 hi]at h;cases h
theorem b1I {toks:List Tok}{j:Nat}{r:MR}{c:Int}{a:Nat}(h:roomy toks j r=.err c a):c=2∨r=.err c a:=by
 unfold roomy at h;split at h
 ·cases h;exact .inl rfl
 ·exact .inr h
theorem c8b {s:List UInt8}{toks:List Tok}{st:List (Nat×Int)}{q j ins i:Nat}{a b c:Int}{p:Nat}(h:a3y toks st q j a b (part s q ins i [])=.err c p):c≠0:=by
 have hok:=c2L s q ins i [];cases hp:part s q ins i []with
 | err c' a'=>rw[hp]at h hok;cases h;rcases hok with rfl|rfl|rfl<;>decide
 | fin t e=>rw[hp]at h;cases h
 | more t e=>rw[hp]at h;cases h
theorem c9N {s:List UInt8}{x:MS}{c:Int}{p:Nat}(h:stepM s x=.err c p):c≠0:=by
 obtain⟨i0,toks,st⟩:=x;obtain⟨i,h0⟩:∃i,a0C s i0=i:=⟨_,rfl⟩
 rcases Nat.lt_or_ge i s.length with hi|hi
 ·cases hc:closes (s.getD i 0).toNat st with
  | true =>
   cases st with
   | nil=>cases hc
   | cons z st =>
    obtain⟨q,p⟩:=z;rw[(a4R h0 hi hc).2]at h;rcases b1I h with rfl|h
    ·decide
    ·exact c8b h
  | false =>
   by_cases h1:(s.getD i 0).toNat=34
   ·rw[a7W h0 hi hc h1]at h;rcases b1I h with rfl|h
    ·decide
    ·exact c8b h
   ·cases h2:M0 (s.getD i 0)with
    | true =>
     rw[a5H h0 hi hc h1 h2]at h;rcases b1I h with rfl|h
     ·decide
     ·split at h<;>cases h;decide
    | false =>
     cases h3:a0x (s.getD i 0)with
     | true =>
      rw[a4S h0 hi hc h1 h2 h3]at h;rcases b1I h with rfl|h
      ·decide
      ·split at h<;>cases h;decide
     | false =>
      cases hw:a2a s i 2 with
      | nil=>rw[a7T h0 hi hc h1 h2 h3 hw]at h;cases h;decide
      | cons b w =>
       rw[a6E h0 hi hc h1 h2 h3 hw (by simp)]at h;rcases b1I h with rfl|h
       ·decide
       ·cases h
 ·cases st with
  | nil=>rw[a7U h0 hi]at h;cases h
  | cons z st=>obtain⟨q,p⟩:=z;rw[a7V h0 hi]at h;cases h;decide
structure TokOk (s:List UInt8)(r:MR):Prop where
 bd:RBd r
 nz:∀c a,r=.err c a->c≠0
 lay:∀l,r=.done l->s.length<=8000 /\ ∃e,Lay s 0 l e/\s.length<=a0C s e/\e<=s.length
theorem ends_ok {s:List UInt8}(hs:s.length<=8000){r:MR}(h:Ends s ⟨0,[],[]⟩ r)(hr:RBd r):TokOk s r:=by
 obtain⟨y,h1,h2,h3⟩:=h;refine⟨hr,fun c a e=>?_,fun l e=>?_⟩
 ·subst e;exact c9N h2
 ·subst e;obtain⟨h4,h5⟩:=b2w h2;obtain⟨h6,h7⟩:=c9y h1 (Nat.zero_le _) rfl;rw[h4]at h7;exact⟨hs,y.i,h7,h5,h6⟩
end Go.Proofs.YtmippldlhnajkaaGreatDoor.Sc
namespace Go.Proofs.YtmippldlhnajkaaGreatDoor.Sc
open Go Go.Vm
def tlen:PR->Nat | .fin t _=>t.length | .more t _=>t.length | .err _ _=>0
theorem b3O (s:List UInt8)(q ins:Nat):∀(f i:Nat) (text:List UInt8),tlen (a8J s q ins f i text)<=text.length+(s.length-i)
 | 0,i,text=>Nat.zero_le _
 | f+1,i,text=>by
  have h1:=b3O s q ins f (i+1) (text++[s.getD i 0]);have h2:=b3O s q ins f (i+2) (text++[10]);have h3:=b3O s q ins f (i+2) (text++[9]);have h4:=b3O s q ins f (i+2) (text++[s.getD (i+1) 0]);simp only[List.length_append,List.length_singleton]at h1 h2 h3 h4;rcases Nat.lt_or_ge i s.length with hi|hi
  ·simp only[a8J];repeat' split
   all_goals first|exact Nat.zero_le _ |(simp only[tlen];omega)|omega
  ·have:(decide (i<s.length)&&decide (32 <=(s.getD i 0).toNat))=false:=by rw[Bool.and_eq_false_iff,decide_eq_false_iff_not];exact .inl (by omega)
   simp only[a8J,this];exact Nat.zero_le _
theorem c8c {s:List UInt8}{toks:List Tok}{st:List (Nat×Int)}{q j ins:Nat}{a b:Int}{y:MS}(h:a3y toks st q j a b (part s q ins (j+1) [])=.go y) :
  ∃t:Tok,y.toks=toks++[t]/\t.t.length<=s.length:=by
 have hp:=b3O s q ins (s.length-(j+1)) (j+1) [];simp only[List.length_nil,Nat.zero_add]at hp;have hp:tlen (part s q ins (j+1) [])<=_:=hp;cases hq:part s q ins (j+1) []with
 | err c a=>rw[hq]at h;cases h
 | fin t e =>
  rw[hq]at h hp;simp only[a3y]at h;simp only[tlen]at hp;cases h;exact⟨_,rfl,show t.length<=_ by omega⟩
 | more t e =>
  rw[hq]at h hp;simp only[a3y]at h;simp only[tlen]at hp;cases h;exact⟨_,rfl,show t.length<=_ by omega⟩
theorem c2a (s:List UInt8)(a b:Nat):((s.take a).drop b).length<=s.length:=by
 rw[List.length_drop,List.length_take];omega
theorem c5l (s:List UInt8)(i:Nat):∀k,(a2a s i k).length<=s.length
 | 0=>Nat.zero_le _
 | k+1=>by
  unfold a2a;split
  ·exact c2a _ _ _
  ·exact c5l s i k
theorem c5p {s:List UInt8}{x y:MS}(h:stepM s x=.go y):∃t:Tok,y.toks=x.toks++[t]/\t.t.length<=s.length/\x.toks.length<3000:=by
 obtain⟨i0,toks,st⟩:=x;obtain⟨i,h0⟩:∃i,a0C s i0=i:=⟨_,rfl⟩
 show ∃t:Tok,y.toks=toks++[t]/\_;rcases Nat.lt_or_ge i s.length with hi|hi
 ·cases hc:closes (s.getD i 0).toNat st with
  | true =>
   cases st with
   | nil=>cases hc
   | cons z st =>
    obtain⟨q,p⟩:=z;rw[(a4R h0 hi hc).2]at h;exact(fun⟨t,a,b⟩=>⟨t,a,b,(a1m h).1⟩) (c8c (a1m h).2)
  | false =>
   by_cases h1:(s.getD i 0).toNat=34
   ·rw[a7W h0 hi hc h1]at h;exact(fun⟨t,a,b⟩=>⟨t,a,b,(a1m h).1⟩) (c8c (a1m h).2)
   ·cases h2:M0 (s.getD i 0)with
    | true =>
     rw[a5H h0 hi hc h1 h2]at h;have hr:=(a1m h).1;have h:=(a1m h).2;split at h
     ·cases h
     ·cases h;exact⟨_,rfl,c2a _ _ _,hr⟩
    | false =>
     cases h3:a0x (s.getD i 0)with
     | true =>
      rw[a4S h0 hi hc h1 h2 h3]at h;have hr:=(a1m h).1;have h:=(a1m h).2;split at h
      ·cases h
      ·cases h;exact⟨_,rfl,c2a _ _ _,hr⟩
     | false =>
      cases hw:a2a s i 2 with
      | nil=>rw[a7T h0 hi hc h1 h2 h3 hw]at h;cases h
      | cons b w =>
       have hl:=c5l s i 2;rw[hw]at hl;rw[a6E h0 hi hc h1 h2 h3 hw (by simp)]at h;have hr:=(a1m h).1;have h:=(a1m h).2;cases h;exact⟨_,rfl,hl,hr⟩
 ·cases st with
  | nil=>rw[a7U h0 hi]at h;cases h
  | cons z st=>obtain⟨q,p⟩:=z;rw[a7V h0 hi]at h;cases h
theorem c9z {s:List UInt8}{x y:MS}(h:Reach s x y):(∀t∈x.toks,t.t.length<=s.length) -> ∀t∈y.toks,t.t.length<=s.length:=by
 induction h with
 | refl x=>exact fun h=>h
 | step x y z h1 _ ih =>
  intro h2;obtain⟨t,g1,g2,_⟩:=c5p h1;refine ih fun u hu=>?_;rw[g1]at hu;rcases List.mem_append.1 hu with hu|hu
  ·exact h2 u hu
  ·rcases List.mem_singleton.1 hu with rfl;exact g2
theorem c65 {s:List UInt8}{x y:MS}(h:Reach s x y):x.toks.length<=3000->y.toks.length<=3000:=by
 induction h with
 | refl x=>exact fun h=>h
 | step x y z h1 _ ih =>
  intro _;obtain⟨t,g1,_,g3⟩:=c5p h1;refine ih ?_;rw[g1,List.length_append,List.length_singleton];omega
theorem tokRef (s:List UInt8):∃r,TokOk s r/\E env (.call 38 [.str s]) []=some (.ret (b6o r) [])/\E env (.call 38 [.str s]) []=some (.ret (b6o r) [])/\(s.length<=8000->Ends s ⟨0,[],[]⟩ r):=by
 rcases Nat.lt_or_ge 8000 s.length with h|h
 ·exact⟨.err 2 0,⟨trivial,fun c a e=>(by cases e;decide),fun l e=>(by cases e)⟩,c12big h,c12big h,fun h1=>absurd h1 (by omega)⟩
 ·obtain⟨r,h4,h5⟩:=c12 h;have hb:RBd r:=by
   obtain⟨y,g1,g2,g3⟩:=h4;cases r with
   | go z=>exact absurd rfl (g3 z)
   | err c a=>trivial
   | done l =>
    show l.length<=3000;rw[<-(b2w g2).1];exact c65 g1 (Nat.zero_le _)
  exact⟨r,ends_ok h h4 hb,h5,h5,fun _=>h4⟩
end Go.Proofs.YtmippldlhnajkaaGreatDoor.Sc
namespace Go.Vm
variable {ρ:Rho} {lab:Lab} {w:World} {H:Hp}
theorem c1X {env:Env}(hE:a5X env){g:Nat}{args:List V}{v:V}(h:E env (.call g args) []=some (.ret v []))(ha:a1a (a1p a5x dep) (args.map b0x)=some args)(hv:a1p a5x dep v=some v)
  (hc:Canon 0 H) (hS:Sim ρ lab H w) {xs:List Value} (hx:J5 ρ lab w args xs):Calls env.P g xs.toArray w (a9j ρ lab H w (.ret v H)):=by
 obtain⟨k,hk⟩:=(a1P env).at_ _ _ _ h;have q:a11 (run env k) g args H=some (.val v H):=by
  unfold a11;rw[ha];simp only;rw[hk];simp only;rw[hv]
 refine(b7C (b5u hE k).1 hS hx q).1.mono fun e w' he=>?_;cases e with
 | returned x =>
  obtain⟨ρ',lab',h1,h2,h3,h4⟩:=he;exact⟨ρ',lab',h1,h2,a2O.of_le h3 _,h4,hc,Nat.le_refl _⟩
 | panicked ch=>exact he.elim
 | outgrown=>exact he.elim
def b0T (f:List V->Option V):List V->Hp->Option Out:=fun args H=>match f args with
 | some v=>some (.ret v H)
 | none=>none
theorem c3m {env:Env}(hE:a5X env){g:Nat}{f:List V->Option V}
  (hf:∀args v,f args=some v->a1a (a1p a5x dep) (args.map b0x)=some args/\a1p a5x dep v=some v/\E env (.call g args) []=some (.ret v []))
  (hk:∃fn c,env.P.funcs[g]? = some fn/\(fn.name == "runtime.NumGoroutine")=false/\fn.body=some c):a6A env.P g (b0T f):=by
 refine⟨fun args H out h ρ lab w xs hc hS hx=>?_,hk⟩;unfold b0T at h;split at h
 ·rename_i v hv;cases h;obtain⟨h1,h2,h3⟩:=hf args v hv;exact c1X hE h3 h1 h2 hc hS hx
 ·cases h
theorem a6X {env:Env}{g:Nat}{args:List V}{H:Hp}{out:Out}{h:List V->Hp->Option Out}(hi:env.intr g=some (.plain h))(ho:h args H=some out):E env (.call g args) H=some out:=by
 refine(a1P env).le 1 _ _ _ ?_;simp only[run,step,hi,ho]
end Go.Vm
namespace Go.Proofs.YtmippldlhnajkaaGreatDoor.Sc
open Go Go.Vm
noncomputable def a7X (s:List UInt8):MR:=(tokRef s).choose
theorem b38 (s:List UInt8):TokOk s (a7X s)/\E env (.call 38 [.str s]) []=some (.ret (b6o (a7X s)) [])/\E env (.call 38 [.str s]) []=some (.ret (b6o (a7X s)) [])/\(s.length<=8000->Ends s ⟨0,[],[]⟩ (a7X s)):=(tokRef s).choose_spec
theorem b8i (s:List UInt8):RBd (a7X s)/\E env (.call 38 [.str s]) []=some (.ret (b6o (a7X s)) [])/\E env (.call 38 [.str s]) []=some (.ret (b6o (a7X s)) []):=⟨(b38 s).1.bd,(b38 s).2.1,(b38 s).2.2.1⟩
noncomputable def tokF:List V->Option V:=fun args=>match args with
 | [.str s]=>some (b6o (a7X s))
 | _=>none
theorem tokV_ren {r:MR}(h:RBd r):a1p a5x dep (b6o r)=some (b6o r):=by
 cases r with
 | go x=>exact h.elim
 | done l=>rfl
 | err c a=>rfl
theorem c1B:a6A Tryz.prog 38 (b0T tokF):=by
 refine c3m b4X (fun args v h=>?_) ⟨_,_,Tryz.func38,by kernel_rfl,rfl⟩;unfold tokF at h;split at h
 ·rename_i s;cases h;exact⟨rfl,tokV_ren (b8i s).1,(b8i s).2.2⟩
 ·cases h
end Go.Proofs.YtmippldlhnajkaaGreatDoor.Sc
namespace Go.Proofs
open Go.Shelf
def Tryz.b7t:Go.Shelf.Ren:=⟨fun|169=>32|n=>n,fun|70=>53|9=>9|0=>0|72=>56|37=>54|127=>101|3=>3|5=>5|n=>n,fun|n=>n⟩
theorem Tryz.lays169:Go.Proofs.Lays.n169 Tryz.prog Tryz.b7t:={
 mixed:=by kernel_rfl
 f169:=Tryz.func32.trans (congrArg some (by kernel_rfl))
 t0:=Tryz.underlying0
 a0:=Tryz.isAgg0
 z0:=Tryz.sizeOf0
 v0:=Tryz.zeroValue0
 t3:=Tryz.underlying3
 a3:=Tryz.isAgg3
 z3:=Tryz.sizeOf3
 v3:=Tryz.zeroValue3
 t9:=Tryz.underlying9
 a9:=Tryz.isAgg9
 z9:=Tryz.sizeOf9
 v9:=Tryz.zeroValue9
 t37:=Tryz.underlying54
 a37:=Tryz.isAgg54
 z37:=Tryz.sizeOf54
 v37:=Tryz.zeroValue54
 t70:=Tryz.underlying53
 a70:=Tryz.isAgg53
 z70:=Tryz.sizeOf53
 v70:=Tryz.zeroValue53
 t72:=Tryz.underlying56
 a72:=Tryz.isAgg56
 z72:=Tryz.sizeOf56
 v72:=Tryz.zeroValue56
 t127:=Tryz.underlying101
 a127:=Tryz.isAgg101
 z127:=Tryz.sizeOf101
 v127:=Tryz.zeroValue101}
theorem Tryz.b5C:Builder.Extra Tryz.prog Tryz.b7t:={
 sizeBuilder:=by kernel_rfl
 liesBuilder:=by kernel_rfl
 t5:=Tryz.underlying5
 a5:=Tryz.isAgg5
 z5:=Tryz.sizeOf5
 v5:=Tryz.zeroValue5
 infoByte:=by kernel_rfl
 cellsByte:=by kernel_rfl
 sizeByte:=by kernel_rfl
 neB5:=by decide}
open Go.RowKit in
theorem Tryz.Builder_String_any (B b:Nat)(l:List UInt8)(w:World)(h:Lib.IsBuilder 56 5 B b (Lib.byteCells l) w)(hBw:B<=w.heap.size) :
  Calls Tryz.prog 32 #[.pointer (some ⟨b,0,none⟩)] w fun e w'=>e=.returned (.string ⟨l.toArray⟩)/\Below B w w':=Any.Builder_String_any Tryz.lays169 Tryz.b5C B b l w h hBw
def Tryz.b7s:Go.Shelf.Ren:=⟨fun|156=>33|165=>66|166=>29|169=>32|240=>65|241=>123|276=>122|277=>171|n=>n,fun|31=>58|9=>9|3=>3|4=>4|0=>0|20=>20|72=>56|76=>64|70=>53|37=>54|75=>63|127=>101|164=>135|5=>5|80=>66|n=>n,fun|n=>n⟩
theorem Tryz.c2x:Go.Proofs.Lays.n156 Tryz.prog Tryz.b7s:={
 mixed:=by kernel_rfl
 f156:=Tryz.func33.trans (congrArg some (by kernel_rfl))
 f165:=Tryz.func66.trans (congrArg some (by kernel_rfl))
 f166:=Tryz.func29.trans (congrArg some (by kernel_rfl))
 f169:=Tryz.func32.trans (congrArg some (by kernel_rfl))
 f240:=Tryz.func65.trans (congrArg some (by kernel_rfl))
 f241:=Tryz.func123.trans (congrArg some (by kernel_rfl))
 f276:=Tryz.func122.trans (congrArg some (by kernel_rfl))
 f277:=Tryz.func171.trans (congrArg some (by kernel_rfl))
 t0:=Tryz.underlying0
 a0:=Tryz.isAgg0
 z0:=Tryz.sizeOf0
 v0:=Tryz.zeroValue0
 t3:=Tryz.underlying3
 a3:=Tryz.isAgg3
 z3:=Tryz.sizeOf3
 v3:=Tryz.zeroValue3
 t4:=Tryz.underlying4
 a4:=Tryz.isAgg4
 z4:=Tryz.sizeOf4
 v4:=Tryz.zeroValue4
 t9:=Tryz.underlying9
 a9:=Tryz.isAgg9
 z9:=Tryz.sizeOf9
 v9:=Tryz.zeroValue9
 t20:=Tryz.underlying20
 a20:=Tryz.isAgg20
 z20:=Tryz.sizeOf20
 v20:=Tryz.zeroValue20
 t31:=Tryz.underlying58
 a31:=Tryz.isAgg58
 z31:=Tryz.sizeOf58
 v31:=Tryz.zeroValue58
 t37:=Tryz.underlying54
 a37:=Tryz.isAgg54
 z37:=Tryz.sizeOf54
 v37:=Tryz.zeroValue54
 t70:=Tryz.underlying53
 a70:=Tryz.isAgg53
 z70:=Tryz.sizeOf53
 v70:=Tryz.zeroValue53
 t72:=Tryz.underlying56
 a72:=Tryz.isAgg56
 z72:=Tryz.sizeOf56
 v72:=Tryz.zeroValue56
 t75:=Tryz.underlying63
 a75:=Tryz.isAgg63
 z75:=Tryz.sizeOf63
 v75:=Tryz.zeroValue63
 t76:=Tryz.underlying64
 a76:=Tryz.isAgg64
 z76:=Tryz.sizeOf64
 v76:=Tryz.zeroValue64
 t127:=Tryz.underlying101
 a127:=Tryz.isAgg101
 z127:=Tryz.sizeOf101
 v127:=Tryz.zeroValue101
 t164:=Tryz.underlying135
 a164:=Tryz.isAgg135
 z164:=Tryz.sizeOf135
 v164:=Tryz.zeroValue135}
theorem Tryz.a6W:Builder.Extra Tryz.prog Tryz.b7s:={
 sizeBuilder:=by kernel_rfl
 liesBuilder:=by kernel_rfl
 t5:=Tryz.underlying5
 a5:=Tryz.isAgg5
 z5:=Tryz.sizeOf5
 v5:=Tryz.zeroValue5
 infoByte:=by kernel_rfl
 cellsByte:=by kernel_rfl
 sizeByte:=by kernel_rfl
 neB5:=by decide}
open Go.RowKit in
theorem Tryz.strings_Join_none (a:Option Addr)(c:Nat)(sep:ByteArray)(w:World) :
  Calls Tryz.prog 33 #[.slice a 0 c,.string sep] w fun e w'=>e=.returned (.string ⟨#[]⟩)/\w'=w:=Any.strings_Join_none Tryz.c2x Tryz.a6W a c sep w
open Go.RowKit in
theorem Tryz.strings_Join (bk o c:Nat)(xs:List ByteArray)(sep:ByteArray)(w:World)(hcells:∀(j:Nat) x,xs[j]? = some x->w.cell? ⟨bk,o+j,none⟩=some (.string x))(hbk:bk<w.heap.size)(hN:xs.length<=140737488355328)(hcap:xs.length<=c)(hlen:(Lib.join (xs.map (·.data.toList)) sep.data.toList).length<=140737488355328) :
  Calls Tryz.prog 33 #[.slice (some ⟨bk,o,none⟩) xs.length c,.string sep] w fun e w'=>e=.returned (.string ⟨(Lib.join (xs.map (·.data.toList)) sep.data.toList).toArray⟩)/\Below w.heap.size w w':=Any.strings_Join Tryz.c2x Tryz.a6W bk o c xs sep w hcells hbk hN hcap hlen
def Tryz.c4k:Go.Shelf.Ren:=⟨fun|167=>31|156=>33|165=>66|166=>29|169=>32|240=>65|241=>123|276=>122|277=>171|n=>n,fun|31=>58|9=>9|3=>3|4=>4|0=>0|20=>20|72=>56|76=>64|70=>53|37=>54|75=>63|127=>101|164=>135|5=>5|80=>66|n=>n,fun|n=>n⟩
theorem Tryz.layB167:Go.Proofs.Lays.n167 Tryz.prog Tryz.c4k:={
 mixed:=by kernel_rfl
 f167:=Tryz.func31.trans (congrArg some (by kernel_rfl))
 f240:=Tryz.func65.trans (congrArg some (by kernel_rfl))
 f276:=Tryz.func122.trans (congrArg some (by kernel_rfl))
 t0:=Tryz.underlying0
 a0:=Tryz.isAgg0
 z0:=Tryz.sizeOf0
 v0:=Tryz.zeroValue0
 t4:=Tryz.underlying4
 a4:=Tryz.isAgg4
 z4:=Tryz.sizeOf4
 v4:=Tryz.zeroValue4
 t5:=Tryz.underlying5
 a5:=Tryz.isAgg5
 z5:=Tryz.sizeOf5
 v5:=Tryz.zeroValue5
 t9:=Tryz.underlying9
 a9:=Tryz.isAgg9
 z9:=Tryz.sizeOf9
 v9:=Tryz.zeroValue9
 t20:=Tryz.underlying20
 a20:=Tryz.isAgg20
 z20:=Tryz.sizeOf20
 v20:=Tryz.zeroValue20
 t37:=Tryz.underlying54
 a37:=Tryz.isAgg54
 z37:=Tryz.sizeOf54
 v37:=Tryz.zeroValue54
 t70:=Tryz.underlying53
 a70:=Tryz.isAgg53
 z70:=Tryz.sizeOf53
 v70:=Tryz.zeroValue53
 t72:=Tryz.underlying56
 a72:=Tryz.isAgg56
 z72:=Tryz.sizeOf56
 v72:=Tryz.zeroValue56
 t75:=Tryz.underlying63
 a75:=Tryz.isAgg63
 z75:=Tryz.sizeOf63
 v75:=Tryz.zeroValue63
 t164:=Tryz.underlying135
 a164:=Tryz.isAgg135
 z164:=Tryz.sizeOf135
 v164:=Tryz.zeroValue135}
theorem Tryz.c6y:Builder.Extra Tryz.prog Tryz.c4k:={
 sizeBuilder:=by kernel_rfl
 liesBuilder:=by kernel_rfl
 t5:=Tryz.underlying5
 a5:=Tryz.isAgg5
 z5:=Tryz.sizeOf5
 v5:=Tryz.zeroValue5
 infoByte:=by kernel_rfl
 cellsByte:=by kernel_rfl
 sizeByte:=by kernel_rfl
 neB5:=by decide}
open Go.RowKit in
theorem Tryz.Builder_WriteByte (B b:Nat)(bs:List Value)(c:Int)(w:World)(h:Lib.IsBuilder 56 5 B b bs w)(hlen:bs.length+1<=140737488355328)(hBw:B<=w.heap.size) :
  Calls Tryz.prog 31 #[.pointer (some ⟨b,0,none⟩),.int .u8 c] w fun e w'=>e=.returned .nilIface/\(Lib.BuilderAt 56 5 B b (.pointer (some ⟨b,0,none⟩)) (bs++[.int .u8 c]) w'/\Below B w w'):=Any.Builder_WriteByte Tryz.layB167 Tryz.c6y B b bs c w h hlen hBw
open Go.RowKit in
theorem Tryz.Builder_WriteString (B b:Nat)(bs:List Value)(s:ByteArray)(w:World)(h:Lib.IsBuilder 56 5 B b bs w)(hlen:bs.length+s.size<=140737488355328)(hBw:B<=w.heap.size) :
  Calls Tryz.prog 29 #[.pointer (some ⟨b,0,none⟩),.string s] w fun e w'=>e=.returned (.tuple #[.int .i64 s.size,.nilIface])/\(Lib.BuilderAt 56 5 B b (.pointer (some ⟨b,0,none⟩)) (bs++Lib.strCells s) w'/\Below B w w'):=Any.Builder_WriteString {Tryz.c2x with} Tryz.a6W B b bs s w h hlen hBw
end Go.Proofs
namespace Go.Proofs
open Go.Shelf
end Go.Proofs
namespace Go.Vm
open Go
variable {ρ ρ':Rho} {lab lab':Lab} {w w':World} {H:Hp}
theorem Rel.carry (hF:∀b o x,a6e lab w b o x->a6e lab' w' b o x){v:V}{x:Value}(h:Rel ρ lab w v x):Rel ρ lab' w' v x:=by
 induction h with
 | undef x=>exact .undef x
 | bool b=>exact .bool b
 | int k n=>exact .int k n
 | str s=>exact .str s
 | nilptr=>exact .nilptr
 | ptr r off b o c h=>exact .ptr r off b o c h
 | cptr cells xs b o hl hc _ hnf ih=>exact .cptr cells xs b o hl (fun i x hx=>hF _ _ _ (hc i x hx)) ih hnf
 | slice ow n cells xs b o ao cap hl hn hb hz hc _ how h1 hnf ih=>exact .slice ow n cells xs b o ao cap hl hn hb hz (fun i x hx=>hF _ _ _ (hc i x hx)) ih how h1 hnf
 | rslice r off n wh base g ao cap h1 h2 h3 h4 h5=>exact .rslice r off n wh base g ao cap h1 h2 h3 h4 h5
 | func fn a c xs ys h1 h2 _ _ ih1 ih2=>exact .func fn a c xs ys h1 h2 ih1 ih2
 | nilFunc=>exact .nilFunc
 | iface t v x _ ih=>exact .iface t v x ih
 | nilIface=>exact .nilIface
 | opq m=>exact .opq m
 | map r b c h=>exact .map r b c h
 | agg cells xs h1 _ ih=>exact .agg cells xs h1 ih
 | tuple cells xs h1 _ ih=>exact .tuple cells xs h1 ih
theorem J5.carry (hF:∀b o x,a6e lab w b o x->a6e lab' w' b o x){v:List V}{x:List Value}(h:J5 ρ lab w v x):J5 ρ lab' w' v x :=
 ⟨h.1,fun i v x hv hx=>(h.2 i v x hv hx).carry hF⟩
theorem Sim.relab (hkp:Kp lab' w')(hS:Sim ρ lab H w)(hF:∀b o x,a6e lab w b o x->a6e lab' w' b o x)(hO:∀b o k,a3l lab w k b o->a3l lab' w' k b o/\cellAt w' b o=cellAt w b o)
  (hM:∀b k ms c,a7B lab w k b ms c->a7B lab' w' k b ms c)
  (hl:∀b o k,lab' b o=some k->b<w'.heap.size):Sim ρ lab' H w' where
 kp:=hkp
 row:=fun k cs hk=>by
  obtain⟨b,o,xs,h1,h2,h3⟩:=hS.row k cs hk;exact⟨b,o,xs,h1,h2.carry hF,fun i x hx=>⟨(hO _ _ _ (h3 i x hx).1).1,(hO _ _ _ (h3 i x hx).1).2.trans (h3 i x hx).2⟩⟩
 grow:=fun k e cs hk=>by
  obtain⟨base,c,xs,h1,h2,h3,h4,h8,h9,h5⟩:=hS.grow k e cs hk;refine⟨base,c,xs,h1,h2.carry hF,h3,h4,h8,h9,fun b o hb=>?_⟩;obtain⟨h6,h7⟩:=h5 b o hb;refine⟨fun i hi=>(hO _ _ _ (h6 i hi)).1,fun i x hx=>?_⟩;have hi:i<c*e:=by
   have:i<xs.length:=by
    rcases Nat.lt_or_ge i xs.length with h|h
    ·exact h
    ·rw[List.getElem?_eq_none h]at hx;cases hx
   rw[h2.1]at this;omega
  exact(hO _ _ _ (h6 i hi)).2.trans (h7 i x hx)
 tip:=fun k e n hk=>by
  obtain⟨ao,cap,h1,h2,h3,h4,h5⟩:=hS.tip k e n hk;exact⟨ao,cap,h1,h2,h3,h4,fun a ha=>⟨(h5 a ha).1,fun i hi hj=>(hO _ _ _ ((h5 a ha).2 i hi hj)).1⟩⟩
 mp:=fun k es hk=>by
  obtain⟨b,ms,c,h1,h2,h3⟩:=hS.mp k es hk;exact⟨b,ms,c,h1,⟨h2.1,fun i e m he hm=>have q:=h2.2 i e m he hm;⟨⟨q.1.1.carry hF,q.1.2.carry hF⟩,q.2⟩⟩,hM _ _ _ _ h3⟩
 hdom:=hS.hdom
 adom:=hS.adom
 ldom:=hl
def Lab.mine (lab:Lab)(B:Nat):Lab:=fun b o=>if b=B then some none else lab b o
def Lab.left (lab:Lab)(B:Nat):Lab:=fun b o=>if b=B then none else lab b o
theorem mineF (hg:a0U w w'):∀b o x,a6e lab w b o x->a6e (lab.mine w.heap.size) w' b o x:=fun b o x h=>by
 have hb:=a0F h.cell;refine⟨?_,(hg.cell hb o).trans h.cell⟩;simp only[Lab.mine];rw[if_neg (by omega)];exact h.lab
theorem Sim.mine (hS:Sim ρ lab H w)(hg:a0U w w')(hB:w.heap.size<w'.heap.size):Sim ρ (lab.mine w.heap.size) H w':=by
 refine Sim.relab ⟨(hS.kp.ext (hg.ext lab)).1,fun o k h=>by
  simp only[Lab.mine]at h;rw[if_neg (by have:=hS.kp.1.1;omega)]at h;exact hS.kp.2 o k h⟩ hS (mineF hg) (fun b o k h=>?_) (fun b k ms c h=>⟨fun o=>by
  have hb:=h.lt;simp only[Lab.mine];rw[if_neg (by omega)];exact h.lab o,(hg.blk b h.lt).trans h.blk⟩) (fun b o k h=>?_)
 ·obtain⟨x,hx⟩:=h.cell;have hb:=a0F hx;refine⟨⟨?_,(hg.frozen hb o).trans h.free,x,(hg.cell hb o).trans hx⟩,hg.cell hb o⟩;simp only[Lab.mine];rw[if_neg (by omega)];exact h.lab
 ·simp only[Lab.mine]at h;split at h
  ·rename_i hb;subst hb;exact hB
  ·exact Nat.lt_of_lt_of_le (hS.ldom b o k h) hg.size
section
variable {w1 w2 w3:World} {B:Nat}
theorem b4u (E:Ext (lab.mine B) w1 lab' w2)(hB:B<w1.heap.size)(o:Nat):cellAt w2 B o=cellAt w1 B o/\w2.frozen? ⟨B,o,none⟩=w1.frozen? ⟨B,o,none⟩ :=
 E.cl B o hB (fun k=>by simp[Lab.mine])
structure Wrote (B:Nat)(w w':World):Prop where
 size:w.heap.size<=w'.heap.size
 os:w'.os=w.os
 tape:w'.tape=w.tape
 output:w'.output=w.output
 blk:∀b,b<w.heap.size->b≠B->w'.heap[b]? = w.heap[b]?
theorem Wrote.cell (h:Wrote B w w'){b:Nat}(hb:b<w.heap.size)(hn:b≠B)(o:Nat):cellAt w' b o=cellAt w b o:=by simp only[cellAt,World.cell?,h.blk b hb hn]
theorem Wrote.frozen (h:Wrote B w w'){b:Nat}(hb:b<w.heap.size)(hn:b≠B)(o:Nat):w'.frozen? ⟨b,o,none⟩=w.frozen? ⟨b,o,none⟩:=by simp only[World.frozen?,h.blk b hb hn]
theorem Wrote.refl (B:Nat)(w:World):Wrote B w w:=⟨Nat.le_refl _,rfl,rfl,rfl,fun _ _ _=>rfl⟩
theorem leftF (E:Ext (lab.mine B) w1 lab' w2)(hw:Wrote B w2 w3):∀b o x,a6e lab' w2 b o x->a6e (lab'.left B) w3 b o x:=fun b o x h=>by
 have hb:=a0F h.cell;have hn:b≠B:=by
  rintro rfl;have:=(E.ctx b o).2 (by simp[Lab.mine]);rw[h.lab]at this;cases this
 refine⟨?_,(hw.cell hb hn o).trans h.cell⟩;simp only[Lab.left];rw[if_neg hn];exact h.lab
theorem Sim.left (hBk:kpG<B)(hS:Sim ρ' lab' H w2)(E:Ext (lab.mine B) w1 lab' w2)(hw:Wrote B w2 w3):Sim ρ' (lab'.left B) H w3:=by
 refine Sim.relab ⟨⟨Nat.lt_of_lt_of_le hS.kp.1.1 hw.size,by rw[hw.blk kpG hS.kp.1.1 (by omega)];exact hS.kp.1.2⟩,fun o k h=>by
  simp only[Lab.left]at h;rw[if_neg (by omega)]at h;exact hS.kp.2 o k h⟩ hS (leftF E hw) (fun b o k h=>?_) (fun b k ms c h=>by
  have hn:b≠B:=by
   rintro rfl;have:=(E.ctx b 0).2 (by simp[Lab.mine]);rw[h.lab]at this;cases this
  exact⟨fun o=>by
   simp only[Lab.left];rw[if_neg hn];exact h.lab o,(hw.blk b h.lt hn).trans h.blk⟩) (fun b o k h=>?_)
 ·obtain⟨x,hx⟩:=h.cell;have hb:=a0F hx;have hn:b≠B:=by
   rintro rfl;have:=(E.ctx b o).2 (by simp[Lab.mine]);rw[h.lab]at this;cases this
  refine⟨⟨?_,(hw.frozen hb hn o).trans h.free,x,(hw.cell hb hn o).trans hx⟩,hw.cell hb hn o⟩;simp only[Lab.left];rw[if_neg hn];exact h.lab
 ·simp only[Lab.left]at h;split at h
  ·cases h
  ·exact Nat.lt_of_lt_of_le (hS.ldom b o k h) hw.size
theorem Ext.left (hS:Sim ρ lab H w)(hg:a0U w w1)(hB:w.heap.size<w1.heap.size)(E:Ext (lab.mine w.heap.size) w1 lab' w2)(hw:Wrote w.heap.size w2 w3):Ext lab w (lab'.left w.heap.size) w3 where
 size:=Nat.le_trans hg.size (Nat.le_trans E.size hw.size)
 os:=hw.os.trans (E.os.trans hg.os)
 tape:=hw.tape.trans (E.tape.trans hg.tape)
 output:=hw.output.trans (E.output.trans hg.output)
 lb:=fun b o hb hl=>by
  simp only[Lab.left];rw[if_neg (by omega)];exact E.lb b o (Nat.lt_of_lt_of_le hb hg.size) (by simp only[Lab.mine];rw[if_neg (by omega)];exact hl)
 ctx:=fun b o=>by
  by_cases hb:b=w.heap.size
  ·subst hb;have h1:(lab'.left w.heap.size) w.heap.size o=none:=by simp[Lab.left]
   rw[h1];constructor
   ·intro h;cases h
   ·intro h;have:=hS.ldom _ _ _ h;omega
  ·have:=E.ctx b o;simp only[Lab.left,Lab.mine,if_neg hb]at this ⊢;exact this
 cl:=fun b o hb hl=>by
  have hb1:=Nat.lt_of_lt_of_le hb hg.size;have h1:=E.cl b o hb1 (fun k=>by simp only[Lab.mine];rw[if_neg (by omega)];exact hl k);have hb2:=Nat.lt_of_lt_of_le hb1 E.size;exact⟨(hw.cell hb2 (by omega) o).trans (h1.1.trans (hg.cell hb o)),(hw.frozen hb2 (by omega) o).trans (h1.2.trans (hg.frozen hb o))⟩
 blk:=fun b hb hl=>by
  have hb1:=Nat.lt_of_lt_of_le hb hg.size;have h1:=E.blk b hb1 (fun o k=>by simp only[Lab.mine];rw[if_neg (by omega)];exact hl o k);have hb2:=Nat.lt_of_lt_of_le hb1 E.size;exact(hw.blk b hb2 (by omega)).trans (h1.trans (hg.blk b hb))
end
def b2L:Hp->Hp | []=>[] |(k,.row cs)::r=>(k,.row (cs.map b6g))::b2L r |(k,o)::r=>(k,o)::b2L r
def sealO:Obj->Obj | .row cs=>.row (cs.map b6g)|o=>o
theorem b5v (k:Nat)(o:Obj)(r:Hp):b2L ((k,o)::r) =(k,sealO o)::b2L r:=by cases o<;>rfl
theorem b1W (j:Nat):∀H:Hp,hget j (b2L H) =(hget j H).map sealO
 | []=>rfl
 |(k,o)::r=>by
  rw[b5v];simp only[hget];cases Nat.beq k j with
  | true=>rfl
  | false=>exact b1W j r
theorem b2t:∀H:Hp,(b2L H).length=H.length
 | []=>rfl
 |(k,o)::r=>by rw[b5v];simp only[List.length_cons,b2t r]
theorem b7k:∀(n:Nat) (H:Hp),Canon n H->Canon n (b2L H)
 | _,[],_=>trivial
 | n,(k,o)::r,h=>by
  rw[b5v];exact⟨h.1,b7k (n+1) r h.2⟩
theorem Sim.b2L (hS:Sim ρ lab H w):Sim ρ lab (Vm.b2L H) w:=by
 have hg:∀{j o},hget j (Vm.b2L H)=some o -> ∃o',hget j H=some o'/\o=sealO o':=fun{j o} h=>by
  rw[b1W]at h;cases hq:hget j H with
  | none=>rw[hq]at h;cases h
  | some o'=>rw[hq]at h;cases h;exact⟨o',rfl,rfl⟩
 refine Sim.mk' hS.kp (fun j o hj=>?_) (fun j n x h=>?_) (fun j x h=>?_) hS.ldom
 ·obtain⟨o',h1,rfl⟩:=hg hj;cases o' with
  | row cs =>
   obtain⟨b,o,xs,g1,g2,g3⟩:=hS.row j cs h1;exact⟨b,o,xs,g1,g2.a8x,g3⟩
  | grow e cs=>exact hS.grow j e cs h1
  | tip e n=>exact hS.tip j e n h1
  | mp es=>exact hS.mp j es h1
  | gone=>trivial
 ·obtain⟨e,m,h1,h2⟩:=hS.hdom j n x h;exact⟨e,m,by rw[b1W,h1];rfl,h2⟩
 ·have:=hS.adom j x h;rw[b1W];cases hq:hget j H with
  | none=>exact absurd hq this
  | some o=>simp
theorem E_via {env:Env}{g g':Nat}{args l:List V}{H H':Hp}{o out:Out}{pre:List V->Hp->Option (Nat×List V×Hp)}{post:List V->Hp->Out->Option Out}(hi:env.intr g=some (.via pre post))(hp:pre args H=some (g',l,H'))
  (hc:E env (.call g' l) H'=some o) (ho:post args H o=some out):E env (.call g args) H=some out :=
 c1K (by simp only[step,hi,hp,hc,ho])
end Go.Vm
namespace Go.Proofs.YtmippldlhnajkaaGreatDoor
open Go Go.Vm
def strsOf:List V->Option (List (List UInt8))
 | []=>some []
 | .str s::r=>match strsOf r with
  | some l=>some (s::l)
  | none=>none
 | _=>none
def b2F:List V->Hp->Option Out:=fun args H=>match args with
 | [.slice _ n cs,.str sep]=>match strsOf cs with
  | some l=>gd (eqN l.length n&&leN n 140737488355328&&leN (Lib.join l sep).length 140737488355328) (some (.ret (.str (Lib.join l sep)) H))
  | none=>none
 | _=>none
theorem b93:∀{cs:List V} {l:List (List UInt8)},strsOf cs=some l->cs=l.map .str
 | [],l,h=>by cases h;rfl
 | c::r,l,h=>by
  cases c with
  | str s =>
   simp only[strsOf]at h;split at h
   ·rename_i l' hl;cases h;rw[b93 hl];rfl
   ·cases h
  | _=>cases h
theorem b48 {w w':World}(h:RowKit.Below w.heap.size w w'):a0U w w':=⟨h.size,h.os,h.tape,h.output,fun b hb=>h.block b hb⟩
theorem b4l:a6A Tryz.prog 33 b2F:=by
 refine⟨fun args H out h ρ lab w xs hc hS hx=>?_,⟨_,_,Tryz.func33,rfl,rfl⟩⟩;unfold b2F at h;split at h
 ·rename_i ow n cs sep;split at h
  ·rename_i l hl;obtain⟨h1,h2⟩:=K9 h;cases h2;simp only[Bool.and_eq_true]at h1;obtain⟨⟨h1,h2⟩,h3⟩:=h1;have h1:=b4g h1;have h2:=a5L h2;have h3:=a5L h3;obtain⟨x1,r1,rfl,a1,a2⟩:=D9.1 hx;obtain⟨x2,r2,rfl,a3,a4⟩:=D9.1 a2;have:r2=[]:=by have:=a4.1;simpa using this
   subst this;cases a3;have hcs:=b93 hl;cases a1 with
   | slice _ _ _ xs b o ao cap g1 g2 g3 g4 g5 g6 g7 g8 g9 =>
   rcases Nat.eq_zero_or_pos n with h0|h0
   ·subst h0;have:l=[]:=List.length_eq_zero_iff.1 h1;subst this;refine(Tryz.strings_Join_none ao cap ⟨⟨sep⟩⟩ w).mono fun e w' ⟨he,hw⟩=>?_;subst he;subst hw;exact⟨ρ,lab,hS,Ext.refl _ _,⟨fun _ _ _ h=>h,fun _ _ _ _ h=>h⟩,.str _,hc,Nat.le_refl _⟩
   ·have hao:=g3 h0;subst hao;have hget:∀(j:Nat) (x:ByteArray),(l.map (fun s=>(⟨⟨s⟩⟩:ByteArray)))[j]? = some x->cellAt w b (o+j)=some (.string x):=by
     intro j x hj;rw[List.getElem?_map]at hj;cases hq:l[j]? with
     | none=>rw[hq]at hj;cases hj
     | some s =>
      rw[hq]at hj;cases hj;have hcj:cs[j]? = some (.str s):=by rw[hcs,List.getElem?_map,hq];rfl
      have hj2:j<xs.length:=by
       rw[g1];rcases Nat.lt_or_ge j cs.length with h|h
       ·exact h
       ·rw[List.getElem?_eq_none h]at hcj;cases hcj
      have hxj:xs[j]? = some xs[j]:=by simp[hj2]
      have hr:=g6 j _ _ hcj hxj;have hf:=(g5 j _ hxj).cell;generalize xs[j]=z at hr hf;cases hr;exact hf
    have hlen:(l.map (fun s=>(⟨⟨s⟩⟩:ByteArray))).length=n:=by rw[List.length_map];exact h1
    have hmap:(l.map (fun s=>(⟨⟨s⟩⟩:ByteArray))).map (·.data.toList)=l:=by rw[List.map_map];exact List.map_id l
    have hb:b<w.heap.size:=by
     have hj2:0<(l.map (fun s=>(⟨⟨s⟩⟩:ByteArray))).length:=by omega
     exact a0F (hget 0 _ (List.getElem?_eq_getElem hj2))
    have K:=Tryz.strings_Join b o cap (l.map (fun s=>(⟨⟨s⟩⟩:ByteArray))) ⟨⟨sep⟩⟩ w hget hb (by omega) (by omega) (by rw[hmap];exact h3);rw[hlen,hmap]at K;refine K.mono fun e w' ⟨he,hw⟩=>?_;subst he;have G:=b48 hw;exact⟨ρ,lab,hS.grew G,G.ext lab,⟨fun _ _ _ h=>h,fun _ _ _ _ h=>h⟩,.str _,hc,Nat.le_refl _⟩
  ·cases h
 ·cases h
end Go.Proofs.YtmippldlhnajkaaGreatDoor
namespace Go.Proofs.YtmippldlhnajkaaGreatDoor
open Go Go.Vm
def a90 (s:List UInt8)(a:Nat):Nat:=s.foldl (fun a b=>a*10+(b.toNat-48)) a
def b7I (s:List UInt8):Bool:=s.all (fun b=>Nat.ble 48 b.toNat&&Nat.ble b.toNat 57)
def digB (s:List UInt8):Bool:=b7I s&&(!s.isEmpty&&(Nat.ble s.length 19&&Nat.ble (a90 s 0) 9223372036854775807))
theorem a9g (b:UInt8)(r:List UInt8)(a:Nat):a90 (b::r) a=a90 r (a*10+(b.toNat-48)):=by simp only[a90,List.foldl_cons]
theorem b6y {b:UInt8}{r:List UInt8}(h:b7I (b::r)=true):48<=b.toNat/\b.toNat<=57/\b7I r=true:=by
 simp only[b7I,List.all_cons,Bool.and_eq_true,Nat.ble_eq]at h;exact⟨h.1.1,h.1.2,h.2⟩
theorem c7J:∀(l:List UInt8) (x:Nat),x<=a90 l x
 | [],x=>Nat.le_refl _
 | b::r,x=>by rw[a9g];have:=c7J r (x*10+(b.toNat-48));omega
end Go.Proofs.YtmippldlhnajkaaGreatDoor
namespace Go.Proofs.YtmippldlhnajkaaGreatDoor.Sc
open Go Go.Vm
def IntW (w:List UInt8):Prop:=w ≠ []/\(∀b∈w,M0 b=true) /\ ∃c,a3x w c=false
theorem c8I (p:UInt8->Bool):∀l:List UInt8,l.take (l.takeWhile p).length=l.takeWhile p
 | []=>rfl
 | b::r=>by
  rw[List.takeWhile_cons];cases p b
  ·rfl
  ·simp[c8I p r]
theorem run_text {p:UInt8->Bool}{s:List UInt8}{i:Nat}:(s.take (Z7 p s i)).drop i =(s.drop i).takeWhile p:=by
 rw[List.drop_take,Z7,Nat.add_sub_cancel_left,c8I]
theorem tw_all {p:UInt8->Bool}:∀{l:List UInt8} {b:UInt8},b∈l.takeWhile p->p b=true
 | c::r,b,h=>by
  rw[List.takeWhile_cons]at h;cases hc:p c
  ·rw[hc]at h;cases h
  ·rw[hc]at h;rcases List.mem_cons.1 h with rfl|h
   ·exact hc
   ·exact tw_all h
theorem c4v {s:List UInt8}{toks:List Tok}{st:List (Nat×Int)}{q j ins:Nat}{a b:Int}{y:MS}(ha:a≠3)(hb:b≠3)(h:a3y toks st q j a b (part s q ins (j+1) [])=.go y) :
  ∃t:Tok,y.toks=toks++[t]/\(t.k=3->IntW t.t):=by
 cases hp:part s q ins (j+1) []with
 | err c a=>rw[hp]at h;cases h
 | fin t e =>
  rw[hp]at h;simp only[a3y]at h;cases h;exact⟨_,rfl,fun h=>absurd h ha⟩
 | more t e =>
  rw[hp]at h;simp only[a3y]at h;cases h;exact⟨_,rfl,fun h=>absurd h hb⟩
theorem kindB_ne (w:List UInt8):a9w w≠3:=by
 unfold a9w;split
 ·decide
 ·split<;>decide
theorem step_int {s:List UInt8}{x y:MS}(h:stepM s x=.go y):∃t:Tok,y.toks=x.toks++[t]/\(t.k=3->IntW t.t):=by
 obtain⟨i0,toks,st⟩:=x;obtain⟨i,h0⟩:∃i,a0C s i0=i:=⟨_,rfl⟩
 show ∃t:Tok,y.toks=toks++[t]/\_;rcases Nat.lt_or_ge i s.length with hi|hi
 ·cases hc:closes (s.getD i 0).toNat st with
  | true =>
   cases st with
   | nil=>cases hc
   | cons z st =>
    obtain⟨q,p⟩:=z;rw[(a4R h0 hi hc).2]at h;exact c4v (by decide) (by decide) (a1m h).2
  | false =>
   by_cases h1:(s.getD i 0).toNat=34
   ·rw[a7W h0 hi hc h1]at h;exact c4v (by decide) (by decide) (a1m h).2
   ·have hi1:i<=s.length:=by omega
    cases h2:M0 (s.getD i 0)with
    | true =>
     rw[a5H h0 hi hc h1 h2]at h;have hg:=b0v hi h2;have hl:=b0w (p:=M0) hi1;have h:=(a1m h).2;split at h
     ·cases h
     ·rename_i hbad;cases h;refine⟨_,rfl,fun _=>⟨?_,?_,_,hbad⟩⟩
      ·intro hnil;have:=congrArg List.length hnil;simp only[List.length_drop,List.length_take,List.length_nil]at this;omega
      ·intro b hb;have hb:b∈(s.take (Z7 M0 s i)).drop i:=hb;rw[run_text]at hb;exact tw_all hb
    | false =>
     cases h3:a0x (s.getD i 0)with
     | true =>
      rw[a4S h0 hi hc h1 h2 h3]at h;have h:=(a1m h).2;split at h
      ·cases h
      ·cases h;exact⟨_,rfl,fun h=>absurd h (kindB_ne _)⟩
     | false =>
      cases hw:a2a s i 2 with
      | nil=>rw[a7T h0 hi hc h1 h2 h3 hw]at h;cases h
      | cons b w =>
       rw[a6E h0 hi hc h1 h2 h3 hw (by simp)]at h;have h:=(a1m h).2;cases h;exact⟨_,rfl,fun h=>absurd h (show(8:Int)≠3 by decide)⟩
 ·cases st with
  | nil=>rw[a7U h0 hi]at h;cases h
  | cons z st=>obtain⟨q,p⟩:=z;rw[a7V h0 hi]at h;cases h
theorem c9x {s:List UInt8}{x y:MS}(h:Reach s x y):(∀t∈x.toks,t.k=3->IntW t.t) -> ∀t∈y.toks,t.k=3->IntW t.t:=by
 induction h with
 | refl x=>exact fun h=>h
 | step x y z h1 _ ih =>
  intro h2;obtain⟨t,g1,g2⟩:=step_int h1;refine ih fun u hu=>?_;rw[g1]at hu;rcases List.mem_append.1 hu with hu|hu
  ·exact h2 u hu
  ·rcases List.mem_singleton.1 hu with rfl;exact g2
theorem tok_int {s:List UInt8}{l:List Tok}(h:a7X s=.done l):∀t∈l,t.k=3->IntW t.t:=by
 obtain⟨h1,_,_,h2⟩:=b38 s;have h3:=(h1.lay l h).1;obtain⟨y,g1,g2,_⟩:=h2 h3;rw[h]at g2;rw[<-(b2w g2).1];exact c9x g1 (fun t ht=>by cases ht)
theorem digs_of {w:List UInt8}(h:∀b∈w,M0 b=true):b7I w=true:=by
 simp only[b7I,List.all_eq_true,Bool.and_eq_true,Nat.ble_eq];intro b hb;have:=h b hb;simpa [M0]using this
theorem c2b:∀(l:List UInt8) (x:Nat),b7I l=true->a90 l x<(x+1)*10^l.length
 | [],x,h=>by simp[a90]
 | b::r,x,h=>by
  obtain⟨h1,h2,h3⟩:=b6y h;have:=c2b r (x*10+(b.toNat-48)) h3;rw[a9g,List.length_cons,Nat.pow_succ];refine Nat.lt_of_lt_of_le this ?_;rw[show(x+1)*(10^r.length*10) =(x*10+10)*10^r.length from by rw[Nat.mul_comm (10^r.length) 10,<-Nat.mul_assoc,Nat.add_mul]];exact Nat.mul_le_mul_right _ (by omega)
theorem c3R:∀(l:List UInt8) (x:Nat),x*10^l.length<=a90 l x
 | [],x=>by simp[a90]
 | b::r,x=>by
  have:=c3R r (x*10+(b.toNat-48));rw[a9g,List.length_cons,Nat.pow_succ];refine Nat.le_trans ?_ this;rw[show x*(10^r.length*10) =(x*10)*10^r.length from by rw[Nat.mul_comm (10^r.length) 10,<-Nat.mul_assoc]];exact Nat.mul_le_mul_right _ (by omega)
theorem c78:∀(a b:List UInt8),a.length=b.length->b7I a=true->b7I b=true->Op.bytesLess a b=true -> ∀x,a90 a x<=a90 b x
 | [],[],_,_,_,h,x=>by simp[Op.bytesLess]at h
 | [],b::y,h0,_,_,_,x=>by simp at h0
 | a::x',[],h0,_,_,_,x=>by simp at h0
 | a::u,b::v,h0,h1,h2,h3,x=>by
  obtain⟨a1,a2,a3⟩:=b6y h1;obtain⟨b1,b2,b3⟩:=b6y h2;have hl:u.length=v.length:=by simpa using h0
  simp only[Op.bytesLess,Bool.or_eq_true,Bool.and_eq_true,decide_eq_true_eq,beq_iff_eq]at h3;rw[a9g,a9g];rcases h3 with h3 |⟨h3,h4⟩
  ·have h3:a.toNat<b.toNat:=UInt8.lt_iff_toNat_lt.1 h3;have g1:=c2b u (x*10+(a.toNat-48)) a3;have g2:=c3R v (x*10+(b.toNat-48));rw[hl]at g1;have g3:(x*10+(a.toNat-48)+1)*10^v.length <=(x*10+(b.toNat-48))*10^v.length:=Nat.mul_le_mul_right _ (by omega);omega
  ·subst h3;exact c78 u v hl a3 b3 h4 _
theorem int_digB {w:List UInt8}(h:IntW w):digB w=true:=by
 obtain⟨h1,h2,c,h3⟩:=h;have hd:=digs_of h2;unfold a3x at h3;simp only[Bool.or_eq_false_iff,Bool.and_eq_false_iff]at h3;obtain⟨⟨⟨_,h4⟩,h5⟩,_⟩:=h3;have h4:w.length<=19:=by simp[ltB]at h4;omega
 have hv:a90 w 0<=9223372036854775807:=by
  rcases Nat.lt_or_ge w.length 19 with h6|h6
  ·have g:=c2b w 0 hd;have g2:10^w.length<=10^18:=Nat.pow_le_pow_right (by omega) (by omega);have g3:(10:Nat)^18=1000000000000000000:=by decide
   omega
  ·have h7:w.length=19:=by omega
   rcases h5 with h5|h5
   ·simp[eqB,h7]at h5
   ·have hm:b7I a4F=true:=by decide
    have hmv:a90 a4F 0=9223372036854775807:=by decide
    have h5:(ltS w a4F||eqS w a4F)=true:=by
     cases hq:(ltS w a4F||eqS w a4F)with
     | true=>rfl
     | false=>rw[hq]at h5;cases h5
    simp only[Bool.or_eq_true]at h5;rcases h5 with h5|h5
    ·unfold ltS at h5;have:=c78 w a4F (by rw[h7];rfl) hd hm h5 0;omega
    ·have:w=a4F:=by simpa [eqS]using h5
     rw[this];omega
 have hne:w.isEmpty=false:=by cases w with
  | nil=>exact absurd rfl h1
  | cons b r=>rfl
 simp only[digB,hd,hne,Bool.not_false,Bool.true_and,Bool.and_eq_true,Nat.ble_eq];exact⟨h4,hv⟩
end Go.Proofs.YtmippldlhnajkaaGreatDoor.Sc
