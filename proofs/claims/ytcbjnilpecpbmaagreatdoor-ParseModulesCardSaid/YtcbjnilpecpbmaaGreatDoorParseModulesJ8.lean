/- What the functions under ParseModules compute, step by step, as functions in Lean: texts that were built one by one, joined. -/
import Derived.Test.YtcbjnilpecpbmaaGreatDoorParseModulesJ7
import Derived.Shelf.Strings.Builder1
import Derived.Shelf.Strings.OnBuilder
import Derived.Test.YtcbjnilpecpbmaaGreatDoorProg
import Derived.Shelf.LaysC
import Derived.Shelf.Strconv.AtoiAll
import Derived.KernelRfl
set_option maxRecDepth 100000
set_option maxHeartbeats 20000000
set_option linter.unusedSimpArgs false
set_option linter.unusedVariables false
set_option linter.unusedSectionVars false
namespace Go.Proofs.YtcbjnilpecpbmaaGreatDoor.Sc
open Go Go.Vm
def Lay (s:List UInt8):Nat->List Tok->Nat->Prop
 | k,[],e=>k=e
 | k,t::r,e=>t.a=Y8 s k/\t.a<s.length/\0<t.l/\t.a+t.l<=s.length/\Lay s (t.a+t.l) r e
theorem Lay.add {s:List UInt8}{t:Tok}:∀{l:List Tok} {k e:Nat},Lay s k l e->t.a=Y8 s e->t.a<s.length->0<t.l->t.a+t.l<=s.length->Lay s k (l++[t]) (t.a+t.l)
 | [],k,e,h,h1,h2,h3,h4=>by
  simp only[Lay]at h;subst h
  exact⟨h1,h2,h3,h4,rfl⟩
 | u::l,k,e,h,h1,h2,h3,h4=>⟨h.1,h.2.1,h.2.2.1,h.2.2.2.1,Lay.add h.2.2.2.2 h1 h2 h3 h4⟩
theorem a5R {toks:List Tok}{j:Nat}{r:MR}{y:MS}(h:roomy toks j r=.go y):toks.length<3000/\r=.go y:=by
 unfold roomy at h
 split at h
 ·cases h
 ·rename_i h1
  simp only[decide_eq_false_iff_not]at h1
  exact⟨by omega,h⟩
theorem lit_go {s:List UInt8}{toks:List Tok}{st:List (Nat×Int)}{q j ins:Nat}{a b:Int}{y:MS}(h:a3x toks st q j a b (part s q ins (j+1) [])=.go y) :
  ∃t:Tok,y.toks=toks++[t]/\t.a=j/\0<t.l/\y.i=t.a+t.l/\t.a+t.l<=s.length:=by
 have hok:=c1o s q ins (j+1) []
 cases hp:part s q ins (j+1) []with
 | err c a=>rw[hp]at h;cases h
 | fin t e =>
  rw[hp]at h hok
  have h1:j+1<e:=hok.1
  have h2:e<=s.length:=hok.2
  simp only[a3x]at h
  cases h
  exact⟨_,rfl,rfl,by show 0<e-j;omega,by show e=j+(e-j);omega,by show j+(e-j)<=_;omega⟩
 | more t e =>
  rw[hp]at h hok
  have h1:j+1<e:=hok.1
  have h2:e<=s.length:=hok.2
  simp only[a3x]at h
  cases h
  exact⟨_,rfl,rfl,by show 0<e-j;omega,by show e=j+(e-j);omega,by show j+(e-j)<=_;omega⟩
theorem stepM_go {s:List UInt8}{x y:MS}(h:stepM s x=.go y):∃t:Tok,y.toks=x.toks++[t]/\t.a=Y8 s x.i/\t.a<s.length/\0<t.l/\y.i=t.a+t.l/\t.a+t.l<=s.length:=by
 obtain⟨i0,toks,st⟩:=x
 obtain⟨i,h0⟩:∃i,Y8 s i0=i:=⟨_,rfl⟩
 show ∃t:Tok,y.toks=toks++[t]/\t.a=Y8 s i0/\_
 rw[h0]
 rcases Nat.lt_or_ge i s.length with hi|hi
 ·have fin:(∃t:Tok,y.toks=toks++[t]/\t.a=i/\0<t.l/\y.i=t.a+t.l/\t.a+t.l<=s.length) -> ∃t:Tok,y.toks=toks++[t]/\t.a=i/\t.a<s.length/\0<t.l/\y.i=t.a+t.l/\t.a+t.l<=s.length:=by
   rintro⟨t,h1,h2,h3,h4,h5⟩
   exact⟨t,h1,h2,by omega,h3,h4,h5⟩
  apply fin
  cases hc:closes (s.getD i 0).toNat st with
  | true =>
   cases st with
   | nil=>cases hc
   | cons z st =>
    obtain⟨q,p⟩:=z
    rw[(a5s h0 hi hc).2]at h
    exact lit_go (a5R h).2
  | false =>
   by_cases h1:(s.getD i 0).toNat=34
   ·rw[a7I h0 hi hc h1]at h
    exact lit_go (a5R h).2
   ·have hi1:i<=s.length:=by omega
    cases h2:M7 (s.getD i 0)with
    | true =>
     rw[a4w h0 hi hc h1 h2]at h
     have hg:=a7c hi h2
     have hl:=a5r (p:=M7) hi1
     have h:=(a5R h).2
     split at h
     ·cases h
     ·cases h;exact⟨_,rfl,rfl,by show 0<U9 M7 s i-i;omega,by show U9 M7 s i=i+(U9 M7 s i-i);omega,by show i+(U9 M7 s i-i)<=_;omega⟩
    | false =>
     cases h3:a0u (s.getD i 0)with
     | true =>
      rw[a3P h0 hi hc h1 h2 h3]at h
      have hg:=a7c (p:=a0e) hi (by simp only[a0e,h3,Bool.true_or])
      have hl:=a5r (p:=a0e) hi1
      have h:=(a5R h).2
      split at h
      ·cases h
      ·cases h;exact⟨_,rfl,rfl,by show 0<U9 a0e s i-i;omega,by show U9 a0e s i=i+(U9 a0e s i-i);omega,by show i+(U9 a0e s i-i)<=_;omega⟩
     | false =>
      cases hw:a1a s i 2 with
      | nil=>rw[a7F h0 hi hc h1 h2 h3 hw]at h;cases h
      | cons b w =>
       rw[a3S h0 hi hc h1 h2 h3 hw (by simp)]at h
       have hl:=b3V 2 hi1
       rw[hw]at hl
       have h:=(a5R h).2
       cases h
       exact⟨_,rfl,rfl,by show 0<(b::w).length;simp,rfl,by show i+(b::w).length<=_;omega⟩
 ·cases st with
  | nil=>rw[a7G h0 hi]at h;cases h
  | cons z st=>obtain⟨q,p⟩:=z;rw[a7H h0 hi]at h;cases h
theorem c7U {s:List UInt8}{x y:MS}(h:Reach s x y):x.i<=s.length->Lay s 0 x.toks x.i->y.i<=s.length/\Lay s 0 y.toks y.i:=by
 induction h with
 | refl x=>exact fun h1 h2=>⟨h1,h2⟩
 | step x y z h1 _ ih =>
  intro h2 h3
  obtain⟨t,g1,g2,g3,g4,g5,g6⟩:=stepM_go h1
  exact ih (by omega) (by rw[g1,g5];exact h3.add g2 g3 g4 g6)
theorem a9l {toks l:List Tok}{j:Nat}{r:MR}(h:roomy toks j r=.done l):r=.done l:=by
 unfold roomy at h
 split at h
 ·cases h
 ·exact h
theorem b5f {toks l:List Tok}{st:List (Nat×Int)}{q j:Nat}{a b:Int}{r:PR}(h:a3x toks st q j a b r=.done l):False:=by
 cases r<;>cases h
theorem b80 {s:List UInt8}{x:MS}{l:List Tok}(h:stepM s x=.done l):x.toks=l/\s.length<=Y8 s x.i:=by
 obtain⟨i0,toks,st⟩:=x
 obtain⟨i,h0⟩:∃i,Y8 s i0=i:=⟨_,rfl⟩
 show toks=l/\s.length<=Y8 s i0
 rw[h0]
 rcases Nat.lt_or_ge i s.length with hi|hi
 ·exfalso
  cases hc:closes (s.getD i 0).toNat st with
  | true =>
   cases st with
   | nil=>cases hc
   | cons z st =>
    obtain⟨q,p⟩:=z
    rw[(a5s h0 hi hc).2]at h
    exact b5f (a9l h)
  | false =>
   by_cases h1:(s.getD i 0).toNat=34
   ·rw[a7I h0 hi hc h1]at h
    exact b5f (a9l h)
   ·cases h2:M7 (s.getD i 0)with
    | true =>
     rw[a4w h0 hi hc h1 h2]at h
     have h:=a9l h
     split at h<;>cases h
    | false =>
     cases h3:a0u (s.getD i 0)with
     | true =>
      rw[a3P h0 hi hc h1 h2 h3]at h
      have h:=a9l h
      split at h<;>cases h
     | false =>
      cases hw:a1a s i 2 with
      | nil=>rw[a7F h0 hi hc h1 h2 h3 hw]at h;cases h
      | cons b w =>
       rw[a3S h0 hi hc h1 h2 h3 hw (by simp)]at h
       have h:=a9l h
       cases h
 ·cases st with
  | nil=>rw[a7G h0 hi]at h;cases h;exact⟨rfl,hi⟩
  | cons z st=>obtain⟨q,p⟩:=z;rw[a7H h0 hi]at h;cases h
theorem b09 {toks:List Tok}{j:Nat}{r:MR}{c:Int}{a:Nat}(h:roomy toks j r=.err c a):c=2∨r=.err c a:=by
 unfold roomy at h
 split at h
 ·cases h;exact .inl rfl
 ·exact .inr h
theorem c6K {s:List UInt8}{toks:List Tok}{st:List (Nat×Int)}{q j ins i:Nat}{a b c:Int}{p:Nat}(h:a3x toks st q j a b (part s q ins i [])=.err c p):c≠0:=by
 have hok:=c1o s q ins i []
 cases hp:part s q ins i []with
 | err c' a'=>rw[hp]at h hok;cases h;rcases hok with rfl|rfl|rfl<;>decide
 | fin t e=>rw[hp]at h;cases h
 | more t e=>rw[hp]at h;cases h
theorem c71 {s:List UInt8}{x:MS}{c:Int}{p:Nat}(h:stepM s x=.err c p):c≠0:=by
 obtain⟨i0,toks,st⟩:=x
 obtain⟨i,h0⟩:∃i,Y8 s i0=i:=⟨_,rfl⟩
 rcases Nat.lt_or_ge i s.length with hi|hi
 ·cases hc:closes (s.getD i 0).toNat st with
  | true =>
   cases st with
   | nil=>cases hc
   | cons z st =>
    obtain⟨q,p⟩:=z
    rw[(a5s h0 hi hc).2]at h
    rcases b09 h with rfl|h
    ·decide
    ·exact c6K h
  | false =>
   by_cases h1:(s.getD i 0).toNat=34
   ·rw[a7I h0 hi hc h1]at h
    rcases b09 h with rfl|h
    ·decide
    ·exact c6K h
   ·cases h2:M7 (s.getD i 0)with
    | true =>
     rw[a4w h0 hi hc h1 h2]at h
     rcases b09 h with rfl|h
     ·decide
     ·split at h<;>cases h;decide
    | false =>
     cases h3:a0u (s.getD i 0)with
     | true =>
      rw[a3P h0 hi hc h1 h2 h3]at h
      rcases b09 h with rfl|h
      ·decide
      ·split at h<;>cases h;decide
     | false =>
      cases hw:a1a s i 2 with
      | nil=>rw[a7F h0 hi hc h1 h2 h3 hw]at h;cases h;decide
      | cons b w =>
       rw[a3S h0 hi hc h1 h2 h3 hw (by simp)]at h
       rcases b09 h with rfl|h
       ·decide
       ·cases h
 ·cases st with
  | nil=>rw[a7G h0 hi]at h;cases h
  | cons z st=>obtain⟨q,p⟩:=z;rw[a7H h0 hi]at h;cases h;decide
structure TokOk (s:List UInt8)(r:MR):Prop where
 bd:RBd r
 nz:∀c a,r=.err c a->c≠0
 lay:∀l,r=.done l->s.length<=8000 /\ ∃e,Lay s 0 l e/\s.length<=Y8 s e/\e<=s.length
theorem ends_ok {s:List UInt8}(hs:s.length<=8000){r:MR}(h:Ends s ⟨0,[],[]⟩ r)(hr:RBd r):TokOk s r:=by
 obtain⟨y,h1,h2,h3⟩:=h
 refine⟨hr,fun c a e=>?_,fun l e=>?_⟩
 ·subst e;exact c71 h2
 ·subst e
  obtain⟨h4,h5⟩:=b80 h2
  obtain⟨h6,h7⟩:=c7U h1 (Nat.zero_le _) rfl
  rw[h4]at h7
  exact⟨hs,y.i,h7,h5,h6⟩
theorem c4c (s:List UInt8):∃r,TokOk s r/\E env (.call 31 [.str s]) []=some (.ret (b3s r) [])/\E env (.call 18 [.str s]) []=some (.ret (b3s r) [])/\(s.length<=8000->Ends s ⟨0,[],[]⟩ r):=by
 rcases Nat.lt_or_ge 8000 s.length with h|h
 ·exact⟨.err 2 0,⟨trivial,fun c a e=>(by cases e;decide),fun l e=>(by cases e)⟩,c11big h,c12big h,fun h1=>absurd h1 (by omega)⟩
 ·obtain⟨r,h1,h2,h3⟩:=c11 h
  obtain⟨r',h4,h5⟩:=c12 h
  obtain rfl:=Ends.det s h1 h4
  exact⟨r,ends_ok h h1 h2,h3,h5,fun _=>h1⟩
end Go.Proofs.YtcbjnilpecpbmaaGreatDoor.Sc
namespace Go.Vm
variable {ρ:Rho} {lab:Lab} {w:World} {H:Hp}
theorem c0K {env:Env}(hE:a9A env){g:Nat}{args:List V}{v:V}(h:E env (.call g args) []=some (.ret v []))(ha:a00 (a1b a5b dep) (args.map a9V)=some args)(hv:a1b a5b dep v=some v)
  (hc:Canon 0 H) (hS:Sim ρ lab H w) {xs:List Value} (hx:J9 ρ lab w args xs):Calls env.P g xs.toArray w (a8S ρ lab H w (.ret v H)):=by
 obtain⟨k,hk⟩:=(a2s env).at_ _ _ _ h
 have q:a1M (run env k) g args H=some (.val v H):=by
  unfold a1M
  rw[ha]
  simp only
  rw[hk]
  simp only
  rw[hv]
 refine(b6Q (b8R hE k).1 hS hx q).1.mono fun e w' he=>?_
 cases e with
 | returned x =>
  obtain⟨ρ',lab',h1,h2,h3,h4⟩:=he
  exact⟨ρ',lab',h1,h2,a3c.of_le h3 _,h4,hc,Nat.le_refl _⟩
 | panicked ch=>exact he.elim
 | outgrown=>exact he.elim
def valI (f:List V->Option V):List V->Hp->Option Out:=fun args H=>match f args with
 | some v=>some (.ret v H)
 | none=>none
theorem c1S {env:Env}(hE:a9A env){g:Nat}{f:List V->Option V}
  (hf:∀args v,f args=some v->a00 (a1b a5b dep) (args.map a9V)=some args/\a1b a5b dep v=some v/\E env (.call g args) []=some (.ret v []))
  (hk:∃fn c,env.P.funcs[g]? = some fn/\(fn.name == "runtime.NumGoroutine")=false/\fn.body=some c):b2N env.P g (valI f):=by
 refine⟨fun args H out h ρ lab w xs hc hS hx=>?_,hk⟩
 unfold valI at h
 split at h
 ·rename_i v hv
  cases h
  obtain⟨h1,h2,h3⟩:=hf args v hv
  exact c0K hE h3 h1 h2 hc hS hx
 ·cases h
theorem c0A {env:Env}{g:Nat}{args:List V}{H:Hp}{out:Out}{h:List V->Hp->Option Out}(hi:env.intr g=some (.plain h))(ho:h args H=some out):E env (.call g args) H=some out:=by
 refine(a2s env).le 1 _ _ _ ?_
 simp only[run,step,hi,ho]
end Go.Vm
namespace Go.Proofs.YtcbjnilpecpbmaaGreatDoor.Sc
open Go Go.Vm
noncomputable def a5t (s:List UInt8):MR:=(c4c s).choose
theorem b3r (s:List UInt8):TokOk s (a5t s)/\E env (.call 31 [.str s]) []=some (.ret (b3s (a5t s)) [])/\E env (.call 18 [.str s]) []=some (.ret (b3s (a5t s)) [])/\(s.length<=8000->Ends s ⟨0,[],[]⟩ (a5t s)):=(c4c s).choose_spec
theorem b1U (s:List UInt8):RBd (a5t s)/\E env (.call 31 [.str s]) []=some (.ret (b3s (a5t s)) [])/\E env (.call 18 [.str s]) []=some (.ret (b3s (a5t s)) []):=⟨(b3r s).1.bd,(b3r s).2.1,(b3r s).2.2.1⟩
noncomputable def tokF:List V->Option V:=fun args=>match args with
 | [.str s]=>some (b3s (a5t s))
 | _=>none
theorem c4d {r:MR}(h:RBd r):a1b a5b dep (b3s r)=some (b3s r):=by
 cases r with
 | go x=>exact h.elim
 | done l=>rfl
 | err c a=>rfl
theorem tok_intr:b2N Tryz.prog 31 (valI tokF):=by
 refine c1S b9F (fun args v h=>?_) ⟨_,_,Tryz.func31,by kernel_rfl,rfl⟩
 unfold tokF at h
 split at h
 ·rename_i s
  cases h
  exact⟨rfl,c4d (b1U s).1,(b1U s).2.1⟩
 ·cases h
theorem c8f:b2N Tryz.prog 18 (valI tokF):=by
 refine c1S b9F (fun args v h=>?_) ⟨_,_,Tryz.func18,by kernel_rfl,rfl⟩
 unfold tokF at h
 split at h
 ·rename_i s
  cases h
  exact⟨rfl,c4d (b1U s).1,(b1U s).2.2⟩
 ·cases h
end Go.Proofs.YtcbjnilpecpbmaaGreatDoor.Sc
namespace Go.Proofs
open Go.Shelf
def Tryz.b6I:Go.Shelf.Ren:=⟨fun|169=>30|n=>n,fun|70=>64|9=>9|0=>0|72=>67|37=>65|127=>104|3=>3|5=>5|n=>n,fun|n=>n⟩
theorem Tryz.lays169:Go.Proofs.Lays.n169 Tryz.prog Tryz.b6I:={
 mixed:=by kernel_rfl
 f169:=Tryz.func30.trans (congrArg some (by kernel_rfl))
 t0:=Tryz.underlying0
 a0:=Tryz.isAgg0
 z0:=Tryz.sizeOf0
 v0:=Tryz.zeroValue0
 t3:=Tryz.underlying3
 a3:=Tryz.isAgg3
 z3:=Tryz.sizeOf3
 v3:=Tryz.zeroValue3
 t9:=Tryz.underlying9
 a9:=Tryz.isAgg9
 z9:=Tryz.sizeOf9
 v9:=Tryz.zeroValue9
 t37:=Tryz.underlying65
 a37:=Tryz.isAgg65
 z37:=Tryz.sizeOf65
 v37:=Tryz.zeroValue65
 t70:=Tryz.underlying64
 a70:=Tryz.isAgg64
 z70:=Tryz.sizeOf64
 v70:=Tryz.zeroValue64
 t72:=Tryz.underlying67
 a72:=Tryz.isAgg67
 z72:=Tryz.sizeOf67
 v72:=Tryz.zeroValue67
 t127:=Tryz.underlying104
 a127:=Tryz.isAgg104
 z127:=Tryz.sizeOf104
 v127:=Tryz.zeroValue104}
theorem Tryz.b40:Builder.Extra Tryz.prog Tryz.b6I:={
 sizeBuilder:=by kernel_rfl
 liesBuilder:=by kernel_rfl
 t5:=Tryz.underlying5
 a5:=Tryz.isAgg5
 z5:=Tryz.sizeOf5
 v5:=Tryz.zeroValue5
 infoByte:=by kernel_rfl
 cellsByte:=by kernel_rfl
 sizeByte:=by kernel_rfl
 neB5:=by decide}
open Go.RowKit in
theorem Tryz.Builder_String_any (B b:Nat)(l:List UInt8)(w:World)(h:Lib.IsBuilder 67 5 B b (Lib.byteCells l) w)(hBw:B<=w.heap.size) :
  Calls Tryz.prog 30 #[.pointer (some ⟨b,0,none⟩)] w fun e w'=>e=.returned (.string ⟨l.toArray⟩)/\Below B w w':=Any.Builder_String_any Tryz.lays169 Tryz.b40 B b l w h hBw
def Tryz.b6H:Go.Shelf.Ren:=⟨fun|156=>66|165=>110|166=>27|169=>30|240=>65|241=>132|276=>109|277=>147|n=>n,fun|31=>69|9=>9|3=>3|4=>4|0=>0|20=>20|72=>67|76=>75|70=>64|37=>65|75=>74|127=>104|164=>131|5=>5|80=>77|n=>n,fun|n=>n⟩
theorem Tryz.c04:Go.Proofs.Lays.n156 Tryz.prog Tryz.b6H:={
 mixed:=by kernel_rfl
 f156:=Tryz.func66.trans (congrArg some (by kernel_rfl))
 f165:=Tryz.func110.trans (congrArg some (by kernel_rfl))
 f166:=Tryz.func27.trans (congrArg some (by kernel_rfl))
 f169:=Tryz.func30.trans (congrArg some (by kernel_rfl))
 f240:=Tryz.func65.trans (congrArg some (by kernel_rfl))
 f241:=Tryz.func132.trans (congrArg some (by kernel_rfl))
 f276:=Tryz.func109.trans (congrArg some (by kernel_rfl))
 f277:=Tryz.func147.trans (congrArg some (by kernel_rfl))
 t0:=Tryz.underlying0
 a0:=Tryz.isAgg0
 z0:=Tryz.sizeOf0
 v0:=Tryz.zeroValue0
 t3:=Tryz.underlying3
 a3:=Tryz.isAgg3
 z3:=Tryz.sizeOf3
 v3:=Tryz.zeroValue3
 t4:=Tryz.underlying4
 a4:=Tryz.isAgg4
 z4:=Tryz.sizeOf4
 v4:=Tryz.zeroValue4
 t9:=Tryz.underlying9
 a9:=Tryz.isAgg9
 z9:=Tryz.sizeOf9
 v9:=Tryz.zeroValue9
 t20:=Tryz.underlying20
 a20:=Tryz.isAgg20
 z20:=Tryz.sizeOf20
 v20:=Tryz.zeroValue20
 t31:=Tryz.underlying69
 a31:=Tryz.isAgg69
 z31:=Tryz.sizeOf69
 v31:=Tryz.zeroValue69
 t37:=Tryz.underlying65
 a37:=Tryz.isAgg65
 z37:=Tryz.sizeOf65
 v37:=Tryz.zeroValue65
 t70:=Tryz.underlying64
 a70:=Tryz.isAgg64
 z70:=Tryz.sizeOf64
 v70:=Tryz.zeroValue64
 t72:=Tryz.underlying67
 a72:=Tryz.isAgg67
 z72:=Tryz.sizeOf67
 v72:=Tryz.zeroValue67
 t75:=Tryz.underlying74
 a75:=Tryz.isAgg74
 z75:=Tryz.sizeOf74
 v75:=Tryz.zeroValue74
 t76:=Tryz.underlying75
 a76:=Tryz.isAgg75
 z76:=Tryz.sizeOf75
 v76:=Tryz.zeroValue75
 t127:=Tryz.underlying104
 a127:=Tryz.isAgg104
 z127:=Tryz.sizeOf104
 v127:=Tryz.zeroValue104
 t164:=Tryz.underlying131
 a164:=Tryz.isAgg131
 z164:=Tryz.sizeOf131
 v164:=Tryz.zeroValue131}
theorem Tryz.a6x:Builder.Extra Tryz.prog Tryz.b6H:={
 sizeBuilder:=by kernel_rfl
 liesBuilder:=by kernel_rfl
 t5:=Tryz.underlying5
 a5:=Tryz.isAgg5
 z5:=Tryz.sizeOf5
 v5:=Tryz.zeroValue5
 infoByte:=by kernel_rfl
 cellsByte:=by kernel_rfl
 sizeByte:=by kernel_rfl
 neB5:=by decide}
open Go.RowKit in
theorem Tryz.strings_Join_none (a:Option Addr)(c:Nat)(sep:ByteArray)(w:World) :
  Calls Tryz.prog 66 #[.slice a 0 c,.string sep] w fun e w'=>e=.returned (.string ⟨#[]⟩)/\w'=w:=Any.strings_Join_none Tryz.c04 Tryz.a6x a c sep w
open Go.RowKit in
theorem Tryz.strings_Join (bk o c:Nat)(xs:List ByteArray)(sep:ByteArray)(w:World)(hcells:∀(j:Nat) x,xs[j]? = some x->w.cell? ⟨bk,o+j,none⟩=some (.string x))(hbk:bk<w.heap.size)(hN:xs.length<=140737488355328)(hcap:xs.length<=c)(hlen:(Lib.join (xs.map (·.data.toList)) sep.data.toList).length<=140737488355328) :
  Calls Tryz.prog 66 #[.slice (some ⟨bk,o,none⟩) xs.length c,.string sep] w fun e w'=>e=.returned (.string ⟨(Lib.join (xs.map (·.data.toList)) sep.data.toList).toArray⟩)/\Below w.heap.size w w':=Any.strings_Join Tryz.c04 Tryz.a6x bk o c xs sep w hcells hbk hN hcap hlen
def Tryz.c2S:Go.Shelf.Ren:=⟨fun|167=>29|156=>66|165=>110|166=>27|169=>30|240=>65|241=>132|276=>109|277=>147|n=>n,fun|31=>69|9=>9|3=>3|4=>4|0=>0|20=>20|72=>67|76=>75|70=>64|37=>65|75=>74|127=>104|164=>131|5=>5|80=>77|n=>n,fun|n=>n⟩
theorem Tryz.layB167:Go.Proofs.Lays.n167 Tryz.prog Tryz.c2S:={
 mixed:=by kernel_rfl
 f167:=Tryz.func29.trans (congrArg some (by kernel_rfl))
 f240:=Tryz.func65.trans (congrArg some (by kernel_rfl))
 f276:=Tryz.func109.trans (congrArg some (by kernel_rfl))
 t0:=Tryz.underlying0
 a0:=Tryz.isAgg0
 z0:=Tryz.sizeOf0
 v0:=Tryz.zeroValue0
 t4:=Tryz.underlying4
 a4:=Tryz.isAgg4
 z4:=Tryz.sizeOf4
 v4:=Tryz.zeroValue4
 t5:=Tryz.underlying5
 a5:=Tryz.isAgg5
 z5:=Tryz.sizeOf5
 v5:=Tryz.zeroValue5
 t9:=Tryz.underlying9
 a9:=Tryz.isAgg9
 z9:=Tryz.sizeOf9
 v9:=Tryz.zeroValue9
 t20:=Tryz.underlying20
 a20:=Tryz.isAgg20
 z20:=Tryz.sizeOf20
 v20:=Tryz.zeroValue20
 t37:=Tryz.underlying65
 a37:=Tryz.isAgg65
 z37:=Tryz.sizeOf65
 v37:=Tryz.zeroValue65
 t70:=Tryz.underlying64
 a70:=Tryz.isAgg64
 z70:=Tryz.sizeOf64
 v70:=Tryz.zeroValue64
 t72:=Tryz.underlying67
 a72:=Tryz.isAgg67
 z72:=Tryz.sizeOf67
 v72:=Tryz.zeroValue67
 t75:=Tryz.underlying74
 a75:=Tryz.isAgg74
 z75:=Tryz.sizeOf74
 v75:=Tryz.zeroValue74
 t164:=Tryz.underlying131
 a164:=Tryz.isAgg131
 z164:=Tryz.sizeOf131
 v164:=Tryz.zeroValue131}
theorem Tryz.c5o:Builder.Extra Tryz.prog Tryz.c2S:={
 sizeBuilder:=by kernel_rfl
 liesBuilder:=by kernel_rfl
 t5:=Tryz.underlying5
 a5:=Tryz.isAgg5
 z5:=Tryz.sizeOf5
 v5:=Tryz.zeroValue5
 infoByte:=by kernel_rfl
 cellsByte:=by kernel_rfl
 sizeByte:=by kernel_rfl
 neB5:=by decide}
open Go.RowKit in
theorem Tryz.Builder_WriteByte (B b:Nat)(bs:List Value)(c:Int)(w:World)(h:Lib.IsBuilder 67 5 B b bs w)(hlen:bs.length+1<=140737488355328)(hBw:B<=w.heap.size) :
  Calls Tryz.prog 29 #[.pointer (some ⟨b,0,none⟩),.int .u8 c] w fun e w'=>e=.returned .nilIface/\(Lib.BuilderAt 67 5 B b (.pointer (some ⟨b,0,none⟩)) (bs++[.int .u8 c]) w'/\Below B w w'):=Any.Builder_WriteByte Tryz.layB167 Tryz.c5o B b bs c w h hlen hBw
open Go.RowKit in
theorem Tryz.Builder_WriteString (B b:Nat)(bs:List Value)(s:ByteArray)(w:World)(h:Lib.IsBuilder 67 5 B b bs w)(hlen:bs.length+s.size<=140737488355328)(hBw:B<=w.heap.size) :
  Calls Tryz.prog 27 #[.pointer (some ⟨b,0,none⟩),.string s] w fun e w'=>e=.returned (.tuple #[.int .i64 s.size,.nilIface])/\(Lib.BuilderAt 67 5 B b (.pointer (some ⟨b,0,none⟩)) (bs++Lib.strCells s) w'/\Below B w w'):=Any.Builder_WriteString {Tryz.c04 with} Tryz.a6x B b bs s w h hlen hBw
end Go.Proofs
namespace Go.Proofs
open Go.Shelf
def Tryz.c05:Go.Shelf.Ren:=⟨fun|172=>185|244=>193|245=>194|247=>210|279=>211|280=>212|281=>213|282=>214|287=>230|316=>231|171=>172|205=>232|321=>245|322=>246|243=>182|246=>189|283=>200|284=>201|285=>202|286=>203|129=>220|317=>219|318=>221|319=>222|320=>223|337=>233|338=>234|n=>n,fun|9=>9|3=>3|75=>74|76=>75|4=>4|5=>5|167=>203|37=>65|0=>0|85=>204|2=>2|168=>206|53=>183|175=>229|46=>213|210=>232|127=>104|145=>249|143=>247|21=>21|171=>182|173=>186|212=>211|51=>164|20=>20|213=>212|232=>250|233=>251|80=>77|n=>n,fun|15=>2|16=>3|17=>1|18=>4|19=>5|n=>n⟩
theorem Tryz.laysC172:Go.Proofs.LaysC.n172 Tryz.prog Tryz.c05:={
 mixed:=by kernel_rfl
 f129:=Tryz.func220.trans (congrArg some (by kernel_rfl))
 f171:=Tryz.func172.trans (congrArg some (by kernel_rfl))
 f172:=Tryz.func185.trans (congrArg some (by kernel_rfl))
 f205:=Tryz.func232.trans (congrArg some (by kernel_rfl))
 f243:=Tryz.func182.trans (congrArg some (by kernel_rfl))
 f244:=Tryz.func193.trans (congrArg some (by kernel_rfl))
 f245:=Tryz.func194.trans (congrArg some (by kernel_rfl))
 f246:=Tryz.func189.trans (congrArg some (by kernel_rfl))
 f247:=Tryz.func210.trans (congrArg some (by kernel_rfl))
 f279:=Tryz.func211.trans (congrArg some (by kernel_rfl))
 f280:=Tryz.func212.trans (congrArg some (by kernel_rfl))
 f281:=Tryz.func213.trans (congrArg some (by kernel_rfl))
 f282:=Tryz.func214.trans (congrArg some (by kernel_rfl))
 f283:=Tryz.func200.trans (congrArg some (by kernel_rfl))
 f284:=Tryz.func201.trans (congrArg some (by kernel_rfl))
 f285:=Tryz.func202.trans (congrArg some (by kernel_rfl))
 f286:=Tryz.func203.trans (congrArg some (by kernel_rfl))
 f287:=Tryz.func230.trans (congrArg some (by kernel_rfl))
 f316:=Tryz.func231.trans (congrArg some (by kernel_rfl))
 f317:=Tryz.func219.trans (congrArg some (by kernel_rfl))
 f318:=Tryz.func221.trans (congrArg some (by kernel_rfl))
 f319:=Tryz.func222.trans (congrArg some (by kernel_rfl))
 f320:=Tryz.func223.trans (congrArg some (by kernel_rfl))
 f321:=Tryz.func245.trans (congrArg some (by kernel_rfl))
 f322:=Tryz.func246.trans (congrArg some (by kernel_rfl))
 f337:=Tryz.func233.trans (congrArg some (by kernel_rfl))
 f338:=Tryz.func234.trans (congrArg some (by kernel_rfl))
 t0:=Tryz.underlying0
 a0:=Tryz.isAgg0
 z0:=Tryz.sizeOf0
 v0:=Tryz.zeroValue0
 t2:=Tryz.underlying2
 a2:=Tryz.isAgg2
 z2:=Tryz.sizeOf2
 v2:=Tryz.zeroValue2
 t3:=Tryz.underlying3
 a3:=Tryz.isAgg3
 z3:=Tryz.sizeOf3
 v3:=Tryz.zeroValue3
 t4:=Tryz.underlying4
 a4:=Tryz.isAgg4
 z4:=Tryz.sizeOf4
 v4:=Tryz.zeroValue4
 t5:=Tryz.underlying5
 a5:=Tryz.isAgg5
 z5:=Tryz.sizeOf5
 v5:=Tryz.zeroValue5
 t9:=Tryz.underlying9
 a9:=Tryz.isAgg9
 z9:=Tryz.sizeOf9
 v9:=Tryz.zeroValue9
 t20:=Tryz.underlying20
 a20:=Tryz.isAgg20
 z20:=Tryz.sizeOf20
 v20:=Tryz.zeroValue20
 t21:=Tryz.underlying21
 a21:=Tryz.isAgg21
 z21:=Tryz.sizeOf21
 v21:=Tryz.zeroValue21
 t37:=Tryz.underlying65
 a37:=Tryz.isAgg65
 z37:=Tryz.sizeOf65
 v37:=Tryz.zeroValue65
 t46:=Tryz.underlying213
 a46:=Tryz.isAgg213
 z46:=Tryz.sizeOf213
 v46:=Tryz.zeroValue213
 t51:=Tryz.underlying164
 a51:=Tryz.isAgg164
 z51:=Tryz.sizeOf164
 v51:=Tryz.zeroValue164
 t53:=Tryz.underlying183
 a53:=Tryz.isAgg183
 z53:=Tryz.sizeOf183
 v53:=Tryz.zeroValue183
 t75:=Tryz.underlying74
 a75:=Tryz.isAgg74
 z75:=Tryz.sizeOf74
 v75:=Tryz.zeroValue74
 t76:=Tryz.underlying75
 a76:=Tryz.isAgg75
 z76:=Tryz.sizeOf75
 v76:=Tryz.zeroValue75
 t85:=Tryz.underlying204
 a85:=Tryz.isAgg204
 z85:=Tryz.sizeOf204
 v85:=Tryz.zeroValue204
 t127:=Tryz.underlying104
 a127:=Tryz.isAgg104
 z127:=Tryz.sizeOf104
 v127:=Tryz.zeroValue104
 t143:=Tryz.underlying247
 a143:=Tryz.isAgg247
 z143:=Tryz.sizeOf247
 v143:=Tryz.zeroValue247
 t145:=Tryz.underlying249
 a145:=Tryz.isAgg249
 z145:=Tryz.sizeOf249
 v145:=Tryz.zeroValue249
 t167:=Tryz.underlying203
 a167:=Tryz.isAgg203
 z167:=Tryz.sizeOf203
 v167:=Tryz.zeroValue203
 t168:=Tryz.underlying206
 a168:=Tryz.isAgg206
 z168:=Tryz.sizeOf206
 v168:=Tryz.zeroValue206
 t171:=Tryz.underlying182
 a171:=Tryz.isAgg182
 z171:=Tryz.sizeOf182
 v171:=Tryz.zeroValue182
 t173:=Tryz.underlying186
 a173:=Tryz.isAgg186
 z173:=Tryz.sizeOf186
 v173:=Tryz.zeroValue186
 t175:=Tryz.underlying229
 a175:=Tryz.isAgg229
 z175:=Tryz.sizeOf229
 v175:=Tryz.zeroValue229
 t210:=Tryz.underlying232
 a210:=Tryz.isAgg232
 z210:=Tryz.sizeOf232
 v210:=Tryz.zeroValue232
 t212:=Tryz.underlying211
 a212:=Tryz.isAgg211
 z212:=Tryz.sizeOf211
 v212:=Tryz.zeroValue211
 t213:=Tryz.underlying212
 a213:=Tryz.isAgg212
 z213:=Tryz.sizeOf212
 t232:=Tryz.underlying250
 a232:=Tryz.isAgg250
 z232:=Tryz.sizeOf250
 v232:=Tryz.zeroValue250
 t233:=Tryz.underlying251
 a233:=Tryz.isAgg251
 z233:=Tryz.sizeOf251
 v233:=Tryz.zeroValue251
 g15:=by kernel_rfl
 g16:=by kernel_rfl
 g17:=by kernel_rfl
 g18:=by kernel_rfl
 g19:=by kernel_rfl
 t80:=Tryz.underlying77
 a80:=Tryz.isAgg77
 z80:=Tryz.sizeOf77
 v80:=Tryz.zeroValue77
 i0:=by kernel_rfl
 i2:=by kernel_rfl
 i3:=by kernel_rfl
 i4:=by kernel_rfl
 i5:=by kernel_rfl
 i9:=by kernel_rfl
 i20:=by kernel_rfl
 i21:=by kernel_rfl
 i37:=by kernel_rfl
 i46:=by kernel_rfl
 i51:=by kernel_rfl
 i53:=by kernel_rfl
 i75:=by kernel_rfl
 i76:=by kernel_rfl
 i80:=by kernel_rfl
 i85:=by kernel_rfl
 i127:=by kernel_rfl
 i143:=by kernel_rfl
 i145:=by kernel_rfl
 i167:=by kernel_rfl
 i168:=by kernel_rfl
 i171:=by kernel_rfl
 i173:=by kernel_rfl
 i175:=by kernel_rfl
 i210:=by kernel_rfl
 i212:=by kernel_rfl
 i232:=by kernel_rfl
 i233:=by kernel_rfl
 m15:=by kernel_rfl
 m16:=by kernel_rfl
 m17:=by kernel_rfl
 m18:=by kernel_rfl
 m19:=by kernel_rfl
 c0:=by kernel_rfl
 c2:=by kernel_rfl
 c3:=by kernel_rfl
 c4:=by kernel_rfl
 c5:=by kernel_rfl
 c9:=by kernel_rfl
 c20:=by kernel_rfl
 c21:=by kernel_rfl
 c37:=by kernel_rfl
 c46:=by kernel_rfl
 c51:=by kernel_rfl
 c53:=by kernel_rfl
 c75:=by kernel_rfl
 c76:=by kernel_rfl
 c80:=by kernel_rfl
 c85:=by kernel_rfl
 c127:=by kernel_rfl
 c143:=by kernel_rfl
 c145:=by kernel_rfl
 c167:=by kernel_rfl
 c168:=by kernel_rfl
 c171:=by kernel_rfl
 c173:=by kernel_rfl
 c175:=by kernel_rfl
 c210:=by kernel_rfl
 c212:=by kernel_rfl
 c213:=by kernel_rfl
 c232:=by kernel_rfl
 c233:=by kernel_rfl}
open Go.RowKit in
theorem Tryz.strconv_Atoi_ok (s:ByteArray)(hmax:s.size<=9223372036854775806)(v:Int)(h:Lib.atoiAll s.data.toList=.ok v)(w:World) :
  Calls Tryz.prog 185 #[.string s] w fun e w'=>e=.returned (.tuple #[.int .i64 v,.nilIface])/\(w'=w ∨ ∃t,w'=Lib.bytesWorld w 5 t):=Any.strconv_Atoi_ok Tryz.laysC172 s hmax v h w
end Go.Proofs
namespace Go.Vm
open Go
variable {ρ ρ':Rho} {lab lab':Lab} {w w':World} {H:Hp}
theorem Rel.carry (hF:∀b o x,a5B lab w b o x->a5B lab' w' b o x){v:V}{x:Value}(h:Rel ρ lab w v x):Rel ρ lab' w' v x:=by
 induction h with
 | undef x=>exact .undef x
 | bool b=>exact .bool b
 | int k n=>exact .int k n
 | str s=>exact .str s
 | nilptr=>exact .nilptr
 | ptr r off b o c h=>exact .ptr r off b o c h
 | cptr cells xs b o hl hc _ hnf ih=>exact .cptr cells xs b o hl (fun i x hx=>hF _ _ _ (hc i x hx)) ih hnf
 | slice ow n cells xs b o ao cap hl hn hb hz hc _ how h1 hnf ih=>exact .slice ow n cells xs b o ao cap hl hn hb hz (fun i x hx=>hF _ _ _ (hc i x hx)) ih how h1 hnf
 | rslice r off n wh base g ao cap h1 h2 h3 h4 h5=>exact .rslice r off n wh base g ao cap h1 h2 h3 h4 h5
 | func fn a c xs ys h1 h2 _ _ ih1 ih2=>exact .func fn a c xs ys h1 h2 ih1 ih2
 | nilFunc=>exact .nilFunc
 | iface t v x _ ih=>exact .iface t v x ih
 | nilIface=>exact .nilIface
 | opq m=>exact .opq m
 | map r b c h=>exact .map r b c h
 | agg cells xs h1 _ ih=>exact .agg cells xs h1 ih
 | tuple cells xs h1 _ ih=>exact .tuple cells xs h1 ih
theorem J9.carry (hF:∀b o x,a5B lab w b o x->a5B lab' w' b o x){v:List V}{x:List Value}(h:J9 ρ lab w v x):J9 ρ lab' w' v x :=
 ⟨h.1,fun i v x hv hx=>(h.2 i v x hv hx).carry hF⟩
theorem Sim.relab (hS:Sim ρ lab H w)(hF:∀b o x,a5B lab w b o x->a5B lab' w' b o x)(hO:∀b o k,a3b lab w k b o->a3b lab' w' k b o/\cellAt w' b o=cellAt w b o)
  (hM:∀b k ms c,a7f lab w k b ms c->a7f lab' w' k b ms c)
  (hl:∀b o k,lab' b o=some k->b<w'.heap.size):Sim ρ lab' H w' where
 row:=fun k cs hk=>by
  obtain⟨b,o,xs,h1,h2,h3⟩:=hS.row k cs hk
  exact⟨b,o,xs,h1,h2.carry hF,fun i x hx=>⟨(hO _ _ _ (h3 i x hx).1).1,(hO _ _ _ (h3 i x hx).1).2.trans (h3 i x hx).2⟩⟩
 grow:=fun k e cs hk=>by
  obtain⟨base,c,xs,h1,h2,h3,h4,h8,h9,h5⟩:=hS.grow k e cs hk
  refine⟨base,c,xs,h1,h2.carry hF,h3,h4,h8,h9,fun b o hb=>?_⟩
  obtain⟨h6,h7⟩:=h5 b o hb
  refine⟨fun i hi=>(hO _ _ _ (h6 i hi)).1,fun i x hx=>?_⟩
  have hi:i<c*e:=by
   have:i<xs.length:=by
    rcases Nat.lt_or_ge i xs.length with h|h
    ·exact h
    ·rw[List.getElem?_eq_none h]at hx;cases hx
   rw[h2.1]at this;omega
  exact(hO _ _ _ (h6 i hi)).2.trans (h7 i x hx)
 tip:=fun k e n hk=>by
  obtain⟨ao,cap,h1,h2,h3,h4,h5⟩:=hS.tip k e n hk
  exact⟨ao,cap,h1,h2,h3,h4,fun a ha=>⟨(h5 a ha).1,fun i hi hj=>(hO _ _ _ ((h5 a ha).2 i hi hj)).1⟩⟩
 mp:=fun k es hk=>by
  obtain⟨b,ms,c,h1,h2,h3⟩:=hS.mp k es hk
  exact⟨b,ms,c,h1,⟨h2.1,fun i e m he hm=>have q:=h2.2 i e m he hm;⟨⟨q.1.1.carry hF,q.1.2.carry hF⟩,q.2⟩⟩,hM _ _ _ _ h3⟩
 hdom:=hS.hdom
 adom:=hS.adom
 ldom:=hl
def Lab.mine (lab:Lab)(B:Nat):Lab:=fun b o=>if b=B then some none else lab b o
def Lab.left (lab:Lab)(B:Nat):Lab:=fun b o=>if b=B then none else lab b o
theorem mineF (hg:a0Q w w'):∀b o x,a5B lab w b o x->a5B (lab.mine w.heap.size) w' b o x:=fun b o x h=>by
 have hb:=a0R h.cell
 refine⟨?_,(hg.cell hb o).trans h.cell⟩
 simp only[Lab.mine]
 rw[if_neg (by omega)]
 exact h.lab
theorem Sim.mine (hS:Sim ρ lab H w)(hg:a0Q w w')(hB:w.heap.size<w'.heap.size):Sim ρ (lab.mine w.heap.size) H w':=by
 refine hS.relab (mineF hg) (fun b o k h=>?_) (fun b k ms c h=>⟨fun o=>by
  have hb:=h.lt
  simp only[Lab.mine]
  rw[if_neg (by omega)]
  exact h.lab o,(hg.blk b h.lt).trans h.blk⟩) (fun b o k h=>?_)
 ·obtain⟨x,hx⟩:=h.cell
  have hb:=a0R hx
  refine⟨⟨?_,(hg.frozen hb o).trans h.free,x,(hg.cell hb o).trans hx⟩,hg.cell hb o⟩
  simp only[Lab.mine]
  rw[if_neg (by omega)]
  exact h.lab
 ·simp only[Lab.mine]at h
  split at h
  ·rename_i hb;subst hb;exact hB
  ·exact Nat.lt_of_lt_of_le (hS.ldom b o k h) hg.size
section
variable {w1 w2 w3:World} {B:Nat}
theorem b3O (E:Ext (lab.mine B) w1 lab' w2)(hB:B<w1.heap.size)(o:Nat):cellAt w2 B o=cellAt w1 B o/\w2.frozen? ⟨B,o,none⟩=w1.frozen? ⟨B,o,none⟩ :=
 E.cl B o hB (fun k=>by simp[Lab.mine])
structure Wrote (B:Nat)(w w':World):Prop where
 size:w.heap.size<=w'.heap.size
 os:w'.os=w.os
 tape:w'.tape=w.tape
 output:w'.output=w.output
 blk:∀b,b<w.heap.size->b≠B->w'.heap[b]? = w.heap[b]?
theorem Wrote.cell (h:Wrote B w w'){b:Nat}(hb:b<w.heap.size)(hn:b≠B)(o:Nat):cellAt w' b o=cellAt w b o:=by simp only[cellAt,World.cell?,h.blk b hb hn]
theorem Wrote.frozen (h:Wrote B w w'){b:Nat}(hb:b<w.heap.size)(hn:b≠B)(o:Nat):w'.frozen? ⟨b,o,none⟩=w.frozen? ⟨b,o,none⟩:=by simp only[World.frozen?,h.blk b hb hn]
theorem Wrote.refl (B:Nat)(w:World):Wrote B w w:=⟨Nat.le_refl _,rfl,rfl,rfl,fun _ _ _=>rfl⟩
theorem leftF (E:Ext (lab.mine B) w1 lab' w2)(hw:Wrote B w2 w3):∀b o x,a5B lab' w2 b o x->a5B (lab'.left B) w3 b o x:=fun b o x h=>by
 have hb:=a0R h.cell
 have hn:b≠B:=by
  rintro rfl
  have:=(E.ctx b o).2 (by simp[Lab.mine])
  rw[h.lab]at this;cases this
 refine⟨?_,(hw.cell hb hn o).trans h.cell⟩
 simp only[Lab.left]
 rw[if_neg hn]
 exact h.lab
theorem Sim.left (hS:Sim ρ' lab' H w2)(E:Ext (lab.mine B) w1 lab' w2)(hw:Wrote B w2 w3):Sim ρ' (lab'.left B) H w3:=by
 refine hS.relab (leftF E hw) (fun b o k h=>?_) (fun b k ms c h=>by
  have hn:b≠B:=by
   rintro rfl
   have:=(E.ctx b 0).2 (by simp[Lab.mine])
   rw[h.lab]at this;cases this
  exact⟨fun o=>by
   simp only[Lab.left]
   rw[if_neg hn]
   exact h.lab o,(hw.blk b h.lt hn).trans h.blk⟩) (fun b o k h=>?_)
 ·obtain⟨x,hx⟩:=h.cell
  have hb:=a0R hx
  have hn:b≠B:=by
   rintro rfl
   have:=(E.ctx b o).2 (by simp[Lab.mine])
   rw[h.lab]at this;cases this
  refine⟨⟨?_,(hw.frozen hb hn o).trans h.free,x,(hw.cell hb hn o).trans hx⟩,hw.cell hb hn o⟩
  simp only[Lab.left]
  rw[if_neg hn]
  exact h.lab
 ·simp only[Lab.left]at h
  split at h
  ·cases h
  ·exact Nat.lt_of_lt_of_le (hS.ldom b o k h) hw.size
theorem Ext.left (hS:Sim ρ lab H w)(hg:a0Q w w1)(hB:w.heap.size<w1.heap.size)(E:Ext (lab.mine w.heap.size) w1 lab' w2)(hw:Wrote w.heap.size w2 w3):Ext lab w (lab'.left w.heap.size) w3 where
 size:=Nat.le_trans hg.size (Nat.le_trans E.size hw.size)
 os:=hw.os.trans (E.os.trans hg.os)
 tape:=hw.tape.trans (E.tape.trans hg.tape)
 output:=hw.output.trans (E.output.trans hg.output)
 lb:=fun b o hb hl=>by
  simp only[Lab.left]
  rw[if_neg (by omega)]
  exact E.lb b o (Nat.lt_of_lt_of_le hb hg.size) (by simp only[Lab.mine];rw[if_neg (by omega)];exact hl)
 ctx:=fun b o=>by
  by_cases hb:b=w.heap.size
  ·subst hb
   have h1:(lab'.left w.heap.size) w.heap.size o=none:=by simp[Lab.left]
   rw[h1]
   constructor
   ·intro h;cases h
   ·intro h
    have:=hS.ldom _ _ _ h
    omega
  ·have:=E.ctx b o
   simp only[Lab.left,Lab.mine,if_neg hb]at this ⊢
   exact this
 cl:=fun b o hb hl=>by
  have hb1:=Nat.lt_of_lt_of_le hb hg.size
  have h1:=E.cl b o hb1 (fun k=>by simp only[Lab.mine];rw[if_neg (by omega)];exact hl k)
  have hb2:=Nat.lt_of_lt_of_le hb1 E.size
  exact⟨(hw.cell hb2 (by omega) o).trans (h1.1.trans (hg.cell hb o)),(hw.frozen hb2 (by omega) o).trans (h1.2.trans (hg.frozen hb o))⟩
 blk:=fun b hb hl=>by
  have hb1:=Nat.lt_of_lt_of_le hb hg.size
  have h1:=E.blk b hb1 (fun o k=>by simp only[Lab.mine];rw[if_neg (by omega)];exact hl o k)
  have hb2:=Nat.lt_of_lt_of_le hb1 E.size
  exact(hw.blk b hb2 (by omega)).trans (h1.trans (hg.blk b hb))
end
def b2c:Hp->Hp
 | []=>[]
 |(k,.row cs)::r=>(k,.row (cs.map b5D))::b2c r
 |(k,o)::r=>(k,o)::b2c r
def sealO:Obj->Obj
 | .row cs=>.row (cs.map b5D)
 | o=>o
theorem b4T (k:Nat)(o:Obj)(r:Hp):b2c ((k,o)::r) =(k,sealO o)::b2c r:=by cases o<;>rfl
theorem b1m (j:Nat):∀H:Hp,hget j (b2c H) =(hget j H).map sealO
 | []=>rfl
 |(k,o)::r=>by
  rw[b4T]
  simp only[hget]
  cases Nat.beq k j with
  | true=>rfl
  | false=>exact b1m j r
theorem b1R:∀H:Hp,(b2c H).length=H.length
 | []=>rfl
 |(k,o)::r=>by rw[b4T];simp only[List.length_cons,b1R r]
theorem b6y:∀(n:Nat) (H:Hp),Canon n H->Canon n (b2c H)
 | _,[],_=>trivial
 | n,(k,o)::r,h=>by
  rw[b4T]
  exact⟨h.1,b6y (n+1) r h.2⟩
theorem Sim.b2c (hS:Sim ρ lab H w):Sim ρ lab (Vm.b2c H) w:=by
 have hg:∀{j o},hget j (Vm.b2c H)=some o -> ∃o',hget j H=some o'/\o=sealO o':=fun{j o} h=>by
  rw[b1m]at h
  cases hq:hget j H with
  | none=>rw[hq]at h;cases h
  | some o'=>rw[hq]at h;cases h;exact⟨o',rfl,rfl⟩
 refine Sim.mk' (fun j o hj=>?_) (fun j n x h=>?_) (fun j x h=>?_) hS.ldom
 ·obtain⟨o',h1,rfl⟩:=hg hj
  cases o' with
  | row cs =>
   obtain⟨b,o,xs,g1,g2,g3⟩:=hS.row j cs h1
   exact⟨b,o,xs,g1,g2.a8h,g3⟩
  | grow e cs=>exact hS.grow j e cs h1
  | tip e n=>exact hS.tip j e n h1
  | mp es=>exact hS.mp j es h1
  | gone=>trivial
 ·obtain⟨e,m,h1,h2⟩:=hS.hdom j n x h
  exact⟨e,m,by rw[b1m,h1];rfl,h2⟩
 ·have:=hS.adom j x h
  rw[b1m]
  cases hq:hget j H with
  | none=>exact absurd hq this
  | some o=>simp
theorem E_via {env:Env}{g g':Nat}{args l:List V}{H H':Hp}{o out:Out}{pre:List V->Hp->Option (Nat×List V×Hp)}{post:List V->Hp->Out->Option Out}(hi:env.intr g=some (.via pre post))(hp:pre args H=some (g',l,H'))
  (hc:E env (.call g' l) H'=some o) (ho:post args H o=some out):E env (.call g args) H=some out :=
 c0B (by simp only[step,hi,hp,hc,ho])
end Go.Vm
namespace Go.Proofs.YtcbjnilpecpbmaaGreatDoor
open Go Go.Vm
def strsOf:List V->Option (List (List UInt8))
 | []=>some []
 | .str s::r=>match strsOf r with
  | some l=>some (s::l)
  | none=>none
 | _=>none
def b9V:List V->Hp->Option Out:=fun args H=>match args with
 | [.slice _ n cs,.str sep]=>match strsOf cs with
  | some l=>gd (eqN l.length n&&leN n 140737488355328&&leN (Lib.join l sep).length 140737488355328) (some (.ret (.str (Lib.join l sep)) H))
  | none=>none
 | _=>none
theorem b82:∀{cs:List V} {l:List (List UInt8)},strsOf cs=some l->cs=l.map .str
 | [],l,h=>by cases h;rfl
 | c::r,l,h=>by
  cases c with
  | str s =>
   simp only[strsOf]at h
   split at h
   ·rename_i l' hl
    cases h
    rw[b82 hl];rfl
   ·cases h
  | _=>cases h
theorem b4C {w w':World}(h:RowKit.Below w.heap.size w w'):a0Q w w':=⟨h.size,h.os,h.tape,h.output,fun b hb=>h.block b hb⟩
theorem b7i:b2N Tryz.prog 66 b9V:=by
 refine⟨fun args H out h ρ lab w xs hc hS hx=>?_,⟨_,_,Tryz.func66,rfl,rfl⟩⟩
 unfold b9V at h
 split at h
 ·rename_i ow n cs sep
  split at h
  ·rename_i l hl
   obtain⟨h1,h2⟩:=O1 h
   cases h2
   simp only[Bool.and_eq_true]at h1
   obtain⟨⟨h1,h2⟩,h3⟩:=h1
   have h1:=b3z h1
   have h2:=a6D h2
   have h3:=a6D h3
   obtain⟨x1,r1,rfl,a1,a2⟩:=H6.1 hx
   obtain⟨x2,r2,rfl,a3,a4⟩:=H6.1 a2
   have:r2=[]:=by have:=a4.1;simpa using this
   subst this
   cases a3
   have hcs:=b82 hl
   cases a1 with
   | slice _ _ _ xs b o ao cap g1 g2 g3 g4 g5 g6 g7 g8 g9 =>
   rcases Nat.eq_zero_or_pos n with h0|h0
   ·subst h0
    have:l=[]:=List.length_eq_zero_iff.1 h1
    subst this
    refine(Tryz.strings_Join_none ao cap ⟨⟨sep⟩⟩ w).mono fun e w' ⟨he,hw⟩=>?_
    subst he;subst hw
    exact⟨ρ,lab,hS,Ext.refl _ _,⟨fun _ _ _ h=>h,fun _ _ _ _ h=>h⟩,.str _,hc,Nat.le_refl _⟩
   ·have hao:=g3 h0
    subst hao
    have hget:∀(j:Nat) (x:ByteArray),(l.map (fun s=>(⟨⟨s⟩⟩:ByteArray)))[j]? = some x->cellAt w b (o+j)=some (.string x):=by
     intro j x hj
     rw[List.getElem?_map]at hj
     cases hq:l[j]? with
     | none=>rw[hq]at hj;cases hj
     | some s =>
      rw[hq]at hj
      cases hj
      have hcj:cs[j]? = some (.str s):=by rw[hcs,List.getElem?_map,hq];rfl
      have hj2:j<xs.length:=by
       rw[g1]
       rcases Nat.lt_or_ge j cs.length with h|h
       ·exact h
       ·rw[List.getElem?_eq_none h]at hcj;cases hcj
      have hxj:xs[j]? = some xs[j]:=by simp[hj2]
      have hr:=g6 j _ _ hcj hxj
      have hf:=(g5 j _ hxj).cell
      generalize xs[j]=z at hr hf
      cases hr
      exact hf
    have hlen:(l.map (fun s=>(⟨⟨s⟩⟩:ByteArray))).length=n:=by rw[List.length_map];exact h1
    have hmap:(l.map (fun s=>(⟨⟨s⟩⟩:ByteArray))).map (·.data.toList)=l:=by rw[List.map_map];exact List.map_id l
    have hb:b<w.heap.size:=by
     have hj2:0<(l.map (fun s=>(⟨⟨s⟩⟩:ByteArray))).length:=by omega
     exact a0R (hget 0 _ (List.getElem?_eq_getElem hj2))
    have K:=Tryz.strings_Join b o cap (l.map (fun s=>(⟨⟨s⟩⟩:ByteArray))) ⟨⟨sep⟩⟩ w hget hb (by omega) (by omega) (by rw[hmap];exact h3)
    rw[hlen,hmap]at K
    refine K.mono fun e w' ⟨he,hw⟩=>?_
    subst he
    have G:=b4C hw
    exact⟨ρ,lab,hS.grew G,G.ext lab,⟨fun _ _ _ h=>h,fun _ _ _ _ h=>h⟩,.str _,hc,Nat.le_refl _⟩
  ·cases h
 ·cases h
end Go.Proofs.YtcbjnilpecpbmaaGreatDoor
namespace Go.Proofs.YtcbjnilpecpbmaaGreatDoor
open Go Go.Vm
def a6w (s:List UInt8)(a:Nat):Nat:=s.foldl (fun a b=>a*10+(b.toNat-48)) a
def b5U (s:List UInt8):Bool:=s.all (fun b=>Nat.ble 48 b.toNat&&Nat.ble b.toNat 57)
def digB (s:List UInt8):Bool:=b5U s&&(!s.isEmpty&&(Nat.ble s.length 19&&Nat.ble (a6w s 0) 9223372036854775807))
def c2q:List V->Hp->Option Out:=fun args H=>match args with
 | [.str s]=>match digB s with
  | true=>some (.ret (.tuple [.int .i64 (a6w s 0:Nat),.nilIface]) H)
  | false=>none
 | _=>none
theorem a6g (b:UInt8)(r:List UInt8)(a:Nat):a6w (b::r) a=a6w r (a*10+(b.toNat-48)):=by simp only[a6w,List.foldl_cons]
theorem b0v {b:UInt8}{r:List UInt8}(h:b5U (b::r)=true):48<=b.toNat/\b.toNat<=57/\b5U r=true:=by
 simp only[b5U,List.all_cons,Bool.and_eq_true,Nat.ble_eq]at h
 exact⟨h.1.1,h.1.2,h.2⟩
theorem c0M:∀(l:List UInt8) (x:Nat),x<=a6w l x
 | [],x=>Nat.le_refl _
 | b::r,x=>by rw[a6g];have:=c0M r (x*10+(b.toNat-48));omega
theorem c3m:∀(l:List UInt8) (x:Nat),b5U l=true->a6w l x<=9223372036854775807->Lib.parseUint10 x l=.ok (a6w l x)
 | [],x,h1,h2=>rfl
 | b::r,x,h1,h2=>by
  obtain⟨h3,h4,h5⟩:=b0v h1
  rw[a6g]at h2
  have:=c0M r (x*10+(b.toNat-48))
  rw[Lib.parseUint10,if_pos ⟨h3,h4⟩,if_neg (by omega),if_neg (by omega),a6g]
  exact c3m r _ h5 h2
theorem atoi_all {s:List UInt8}(h:digB s=true):Lib.atoiAll s=.ok (a6w s 0:Nat):=by
 simp only[digB,Bool.and_eq_true,Nat.ble_eq]at h
 obtain⟨h1,h2,h3,h4⟩:=h
 cases s with
 | nil=>cases h2
 | cons b r =>
  obtain⟨h5,h6,h7⟩:=b0v h1
  have h8:¬(b.toNat=43∨b.toNat=45):=by omega
  have h9:¬b.toNat=45:=by omega
  unfold Lib.atoiAll
  simp only[if_neg h8,Lib.parseMag]
  rw[if_neg (by simp),c3m _ _ h1 h4]
  simp only[h9,not_false_eq_true,true_and,false_and,if_false]
  rw[if_neg (by omega)]
theorem b9v:b2N Tryz.prog 185 c2q:=by
 refine⟨fun args H out h ρ lab w xs hc hS hx=>?_,⟨_,_,Tryz.func185,rfl,rfl⟩⟩
 unfold c2q at h
 split at h
 ·rename_i s
  split at h
  ·rename_i hb
   cases h
   have hb2:=hb
   simp only[digB,Bool.and_eq_true,Nat.ble_eq]at hb2
   obtain⟨x1,r1,rfl,a1,a2⟩:=H6.1 hx
   have:r1=[]:=by have:=a2.1;simpa using this
   subst this
   cases a1
   refine(Tryz.strconv_Atoi_ok ⟨⟨s⟩⟩ (by show s.length<=_;omega) _ (atoi_all hb) w).mono fun e w' ⟨he,hw⟩=>?_
   subst he
   have hg:a0Q w w':=by
    rcases hw with rfl |⟨t,rfl⟩
    ·exact b4C (RowKit.Below.refl _ _)
    ·exact b4C (Lib.bytesWorld_below w _ t)
   have hr:Rel ρ lab w' (.tuple [.int .i64 (a6w s 0:Nat),.nilIface]) (.tuple #[.int .i64 (a6w s 0:Nat),.nilIface]):=by
    refine .tuple [.int .i64 (a6w s 0:Nat),.nilIface] [.int .i64 (a6w s 0:Nat),.nilIface] rfl fun i v x h1 h2=>?_
    match i,h1,h2 with
    | 0,h1,h2=>cases h1;cases h2;exact .int _ _
    | 1,h1,h2=>cases h1;cases h2;exact .nilIface
    | i+2,h1,h2=>cases h1
   exact⟨ρ,lab,hS.grew hg,hg.ext lab,⟨fun _ _ _ h=>h,fun _ _ _ _ h=>h⟩,hr,hc,Nat.le_refl _⟩
  ·cases h
 ·cases h
end Go.Proofs.YtcbjnilpecpbmaaGreatDoor
namespace Go.Proofs.YtcbjnilpecpbmaaGreatDoor.Sc
open Go Go.Vm
def IntW (w:List UInt8):Prop:=w ≠ []/\(∀b∈w,M7 b=true) /\ ∃c,X9 w c=false
theorem c7c (p:UInt8->Bool):∀l:List UInt8,l.take (l.takeWhile p).length=l.takeWhile p
 | []=>rfl
 | b::r=>by
  rw[List.takeWhile_cons]
  cases p b
  ·rfl
  ·simp[c7c p r]
theorem run_text {p:UInt8->Bool}{s:List UInt8}{i:Nat}:(s.take (U9 p s i)).drop i =(s.drop i).takeWhile p:=by
 rw[List.drop_take,U9,Nat.add_sub_cancel_left,c7c]
theorem tw_all {p:UInt8->Bool}:∀{l:List UInt8} {b:UInt8},b∈l.takeWhile p->p b=true
 | c::r,b,h=>by
  rw[List.takeWhile_cons]at h
  cases hc:p c
  ·rw[hc]at h;cases h
  ·rw[hc]at h
   rcases List.mem_cons.1 h with rfl|h
   ·exact hc
   ·exact tw_all h
theorem c2Y {s:List UInt8}{toks:List Tok}{st:List (Nat×Int)}{q j ins:Nat}{a b:Int}{y:MS}(ha:a≠3)(hb:b≠3)(h:a3x toks st q j a b (part s q ins (j+1) [])=.go y) :
  ∃t:Tok,y.toks=toks++[t]/\(t.k=3->IntW t.t):=by
 cases hp:part s q ins (j+1) []with
 | err c a=>rw[hp]at h;cases h
 | fin t e =>
  rw[hp]at h
  simp only[a3x]at h
  cases h
  exact⟨_,rfl,fun h=>absurd h ha⟩
 | more t e =>
  rw[hp]at h
  simp only[a3x]at h
  cases h
  exact⟨_,rfl,fun h=>absurd h hb⟩
theorem kindB_ne (w:List UInt8):a4T w≠3:=by
 unfold a4T
 split
 ·decide
 ·split<;>decide
theorem step_int {s:List UInt8}{x y:MS}(h:stepM s x=.go y):∃t:Tok,y.toks=x.toks++[t]/\(t.k=3->IntW t.t):=by
 obtain⟨i0,toks,st⟩:=x
 obtain⟨i,h0⟩:∃i,Y8 s i0=i:=⟨_,rfl⟩
 show ∃t:Tok,y.toks=toks++[t]/\_
 rcases Nat.lt_or_ge i s.length with hi|hi
 ·cases hc:closes (s.getD i 0).toNat st with
  | true =>
   cases st with
   | nil=>cases hc
   | cons z st =>
    obtain⟨q,p⟩:=z
    rw[(a5s h0 hi hc).2]at h
    exact c2Y (by decide) (by decide) (a5R h).2
  | false =>
   by_cases h1:(s.getD i 0).toNat=34
   ·rw[a7I h0 hi hc h1]at h
    exact c2Y (by decide) (by decide) (a5R h).2
   ·have hi1:i<=s.length:=by omega
    cases h2:M7 (s.getD i 0)with
    | true =>
     rw[a4w h0 hi hc h1 h2]at h
     have hg:=a7c hi h2
     have hl:=a5r (p:=M7) hi1
     have h:=(a5R h).2
     split at h
     ·cases h
     ·rename_i hbad
      cases h
      refine⟨_,rfl,fun _=>⟨?_,?_,_,hbad⟩⟩
      ·intro hnil
       have:=congrArg List.length hnil
       simp only[List.length_drop,List.length_take,List.length_nil]at this
       omega
      ·intro b hb
       have hb:b∈(s.take (U9 M7 s i)).drop i:=hb
       rw[run_text]at hb
       exact tw_all hb
    | false =>
     cases h3:a0u (s.getD i 0)with
     | true =>
      rw[a3P h0 hi hc h1 h2 h3]at h
      have h:=(a5R h).2
      split at h
      ·cases h
      ·cases h;exact⟨_,rfl,fun h=>absurd h (kindB_ne _)⟩
     | false =>
      cases hw:a1a s i 2 with
      | nil=>rw[a7F h0 hi hc h1 h2 h3 hw]at h;cases h
      | cons b w =>
       rw[a3S h0 hi hc h1 h2 h3 hw (by simp)]at h
       have h:=(a5R h).2
       cases h
       exact⟨_,rfl,fun h=>absurd h (show(8:Int)≠3 by decide)⟩
 ·cases st with
  | nil=>rw[a7G h0 hi]at h;cases h
  | cons z st=>obtain⟨q,p⟩:=z;rw[a7H h0 hi]at h;cases h
theorem c7T {s:List UInt8}{x y:MS}(h:Reach s x y):(∀t∈x.toks,t.k=3->IntW t.t) -> ∀t∈y.toks,t.k=3->IntW t.t:=by
 induction h with
 | refl x=>exact fun h=>h
 | step x y z h1 _ ih =>
  intro h2
  obtain⟨t,g1,g2⟩:=step_int h1
  refine ih fun u hu=>?_
  rw[g1]at hu
  rcases List.mem_append.1 hu with hu|hu
  ·exact h2 u hu
  ·rcases List.mem_singleton.1 hu with rfl
   exact g2
theorem tok_int {s:List UInt8}{l:List Tok}(h:a5t s=.done l):∀t∈l,t.k=3->IntW t.t:=by
 obtain⟨h1,_,_,h2⟩:=b3r s
 have h3:=(h1.lay l h).1
 obtain⟨y,g1,g2,_⟩:=h2 h3
 rw[h]at g2
 rw[<-(b80 g2).1]
 exact c7T g1 (fun t ht=>by cases ht)
theorem digs_of {w:List UInt8}(h:∀b∈w,M7 b=true):b5U w=true:=by
 simp only[b5U,List.all_eq_true,Bool.and_eq_true,Nat.ble_eq]
 intro b hb
 have:=h b hb
 simpa [M7]using this
theorem c0N:∀(l:List UInt8) (x:Nat),b5U l=true->a6w l x<(x+1)*10^l.length
 | [],x,h=>by simp[a6w]
 | b::r,x,h=>by
  obtain⟨h1,h2,h3⟩:=b0v h
  have:=c0N r (x*10+(b.toNat-48)) h3
  rw[a6g,List.length_cons,Nat.pow_succ]
  refine Nat.lt_of_lt_of_le this ?_
  rw[show(x+1)*(10^r.length*10) =(x*10+10)*10^r.length from by rw[Nat.mul_comm (10^r.length) 10,<-Nat.mul_assoc,Nat.add_mul]]
  exact Nat.mul_le_mul_right _ (by omega)
theorem c2D:∀(l:List UInt8) (x:Nat),x*10^l.length<=a6w l x
 | [],x=>by simp[a6w]
 | b::r,x=>by
  have:=c2D r (x*10+(b.toNat-48))
  rw[a6g,List.length_cons,Nat.pow_succ]
  refine Nat.le_trans ?_ this
  rw[show x*(10^r.length*10) =(x*10)*10^r.length from by rw[Nat.mul_comm (10^r.length) 10,<-Nat.mul_assoc]]
  exact Nat.mul_le_mul_right _ (by omega)
theorem c6J:∀(a b:List UInt8),a.length=b.length->b5U a=true->b5U b=true->Op.bytesLess a b=true -> ∀x,a6w a x<=a6w b x
 | [],[],_,_,_,h,x=>by simp[Op.bytesLess]at h
 | [],b::y,h0,_,_,_,x=>by simp at h0
 | a::x',[],h0,_,_,_,x=>by simp at h0
 | a::u,b::v,h0,h1,h2,h3,x=>by
  obtain⟨a1,a2,a3⟩:=b0v h1
  obtain⟨b1,b2,b3⟩:=b0v h2
  have hl:u.length=v.length:=by simpa using h0
  simp only[Op.bytesLess,Bool.or_eq_true,Bool.and_eq_true,decide_eq_true_eq,beq_iff_eq]at h3
  rw[a6g,a6g]
  rcases h3 with h3 |⟨h3,h4⟩
  ·have h3:a.toNat<b.toNat:=UInt8.lt_iff_toNat_lt.1 h3
   have g1:=c0N u (x*10+(a.toNat-48)) a3
   have g2:=c2D v (x*10+(b.toNat-48))
   rw[hl]at g1
   have g3:(x*10+(a.toNat-48)+1)*10^v.length <=(x*10+(b.toNat-48))*10^v.length:=Nat.mul_le_mul_right _ (by omega)
   omega
  ·subst h3
   exact c6J u v hl a3 b3 h4 _
theorem int_digB {w:List UInt8}(h:IntW w):digB w=true:=by
 obtain⟨h1,h2,c,h3⟩:=h
 have hd:=digs_of h2
 unfold X9 at h3
 simp only[Bool.or_eq_false_iff,Bool.and_eq_false_iff]at h3
 obtain⟨⟨⟨_,h4⟩,h5⟩,_⟩:=h3
 have h4:w.length<=19:=by simp[ltB]at h4;omega
 have hv:a6w w 0<=9223372036854775807:=by
  rcases Nat.lt_or_ge w.length 19 with h6|h6
  ·have g:=c0N w 0 hd
   have g2:10^w.length<=10^18:=Nat.pow_le_pow_right (by omega) (by omega)
   have g3:(10:Nat)^18=1000000000000000000:=by decide
   omega
  ·have h7:w.length=19:=by omega
   rcases h5 with h5|h5
   ·simp[eqB,h7]at h5
   ·have hm:b5U a1g=true:=by decide
    have hmv:a6w a1g 0=9223372036854775807:=by decide
    have h5:(ltS w a1g||eqS w a1g)=true:=by
     cases hq:(ltS w a1g||eqS w a1g)with
     | true=>rfl
     | false=>rw[hq]at h5;cases h5
    simp only[Bool.or_eq_true]at h5
    rcases h5 with h5|h5
    ·unfold ltS at h5
     have:=c6J w a1g (by rw[h7];rfl) hd hm h5 0
     omega
    ·have:w=a1g:=by simpa [eqS]using h5
     rw[this];omega
 have hne:w.isEmpty=false:=by cases w with
  | nil=>exact absurd rfl h1
  | cons b r=>rfl
 simp only[digB,hd,hne,Bool.not_false,Bool.true_and,Bool.and_eq_true,Nat.ble_eq]
 exact⟨h4,hv⟩
end Go.Proofs.YtcbjnilpecpbmaaGreatDoor.Sc
namespace Go.Proofs.YtcbjnilpecpbmaaGreatDoor
open Go Go.Vm
def cvTok (t:Sc.Tok):Tok:=⟨t.k,t.t,(t.a:Nat),(t.l:Nat)⟩
def b1e:Sc.MR->List Tok
 | .done l=>l.map cvTok
 | _=>[]
def b5N:Sc.MR->Int
 | .err c _=>c
 | _=>0
def tokA:Sc.MR->Int
 | .err _ a=>(a:Nat)
 | _=>0
theorem c2A:∀l:List Sc.Tok,p8 (l.map cvTok)=Sc.a2v l
 | []=>rfl
 | t::r=>by
  rw[List.map_cons,c5a.cons,c2A r]
  rfl
theorem tokV_cv {r:Sc.MR}(h:Sc.RBd r):Sc.b3s r=.tuple [.slice .sealed (List.length (b1e r)) (p8 (b1e r)),.agg [.int .i64 (b5N r),.int .i64 (tokA r)]]:=by
 cases r with
 | go x=>exact h.elim
 | done l =>
  simp only[b1e,Sc.b3s,c2A,List.length_map,b5N,tokA]
 | err c a=>rfl
theorem c4e {env:Env}{g:Nat}{s:Str}(hi:env.intr g=some (.plain (valI Sc.tokF)))(h:Sc.RBd (Sc.a5t s)) :
  E env (.call g [.str s]) []=some (.ret (.tuple [.slice .sealed (List.length (b1e (Sc.a5t s))) (p8 (b1e (Sc.a5t s))),.agg [.int .i64 (b5N (Sc.a5t s)),.int .i64 (tokA (Sc.a5t s))]]) []):=by
 refine c0A hi ?_
 rw[<-tokV_cv h]
 rfl
theorem tok_code (s:Str):(b5N (Sc.a5t s)=0/\tokA (Sc.a5t s)=0)∨(b5N (Sc.a5t s)≠0/\b1e (Sc.a5t s)=[]):=by
 have h:=(Sc.b3r s).1
 generalize Sc.a5t s=r at h
 cases r with
 | go x=>exact h.bd.elim
 | done l=>exact .inl ⟨rfl,rfl⟩
 | err c a=>exact .inr ⟨h.nz c a rfl,rfl⟩
theorem tokL_len (s:Str):(b1e (Sc.a5t s)).length<=3000:=by
 have h:=(Sc.b1U s).1
 generalize Sc.a5t s=r at h
 cases r with
 | go x=>exact h.elim
 | done l=>simpa [b1e,Sc.RBd]using h
 | err c a=>simp[b1e]
end Go.Proofs.YtcbjnilpecpbmaaGreatDoor
namespace Go.Proofs.YtcbjnilpecpbmaaGreatDoor
open Go Go.Vm
def c0G:Option Bool:=some true
noncomputable def a7M (U8:Str):Option (List Tok×Int×Int):=some (b1e (Sc.a5t U8),b5N (Sc.a5t U8),tokA (Sc.a5t U8))
def atoi (s1:Str):Option Int:=match digB s1 with
 | true=>some ((a6w s1 0:Nat):Int)
 | false=>none
end Go.Proofs.YtcbjnilpecpbmaaGreatDoor
namespace Go.Proofs.YtcbjnilpecpbmaaGreatDoor
open Go Go.Vm
def b1p (U8:Str):Option (Unit) :=
 some (())
def b71 (U8:Str):Unit->Out
 | _=>.ret (.bool (ltB 8200 (List.length U8:Int))) []
noncomputable def a9P (U8:Str):Option (Flt×List Tok) :=
 (a7M U8).bind fun(l2,c3,a4) =>
 some (((⟨c3,a4⟩:Flt),l2))
def b63 (U8:Str):Flt×List Tok->Out
 |(V5,c8e)=>.ret (.tuple [.ptr 0 0,.agg [.i V5.code,.i V5.at_]]) [(0,.row [.sl p8 c8e,.i 0,.i (List.length U8:Int)])]
def a0P (d9:List Tok)(at2 l5:Int):Option (Int) :=
 cond (ltB at2 (List.length d9:Int)) (
 (idx' d9 at2).bind fun x4 =>
 some (x4.at_)) (
 some (l5))
def b2o (d9:List Tok)(at2 l5:Int):Int->Out
 | V5=>.ret (.i V5) (hP p8 d9 at2 l5)
def u6 (n1 b6G:Int)(b5M:Str)(a7N:List Tok)(at5 b6T:Int):Option (Bool) :=
 cond (leB (List.length a7N:Int) (w64 (at5+n1))) (
 some (false)) (
 (idx' a7N (w64 (at5+n1))).bind fun x7 =>
 cond (eqB x7.kind b6G) (
 cond (eqS b5M []) (
 some (true)) (
 some ((eqS x7.text b5M)))) (
 some (false)))
def b34 (n1 b6G:Int)(b5M:Str)(a7N:List Tok)(at5 b6T:Int):Bool->Out
 | V5=>.ret (.bool V5) (hP p8 a7N at5 b6T)
def D7 (op1:Int)(A9:List Tok)(at3 G7:Int):Option (Int) :=
 (a0P A9 at3 G7).bind fun r5 =>
 some (r5)
def b2q (op1:Int)(A9:List Tok)(at3 G7:Int):Int->Out
 | a7Q=>.ret (.agg [.i op1,.str [],.i 0,.i 0,.str [],.i 0,.sl C9 ([]:List Typ),.st 1 C9 ([]:List Typ),.st 2 D8 ([]:List Nod),.i a7Q]) [(0,.row [.sl p8 A9,.i at3,.i G7]),(1,.tip 0 0),(2,.tip 0 0)]
def Y5 (d9:List Tok)(at2 l5:Int):Option (Rs Empty Int) :=
 (a0P d9 at2 l5).bind fun r4 =>
 some (.pan r4)
def b2m (d9:List Tok)(at2 l5:Int):Rs Empty Int->Out
 | .pan a7Q=>.pan (.iface 80 (.agg [.i 20,.i a7Q])) (hP p8 d9 at2 l5)
def L6 (a0O:Int)(A9:List Tok)(at3 G7:Int):Option (Rs Tok Int) :=
 (u6 0 a0O [] A9 at3 G7).bind fun r5 =>
 cond (!r5) (
 A8 (Y5 A9 at3 G7) (fun(_:Empty)=>none) fun at6 =>
 some (.pan at6)) (
 (idx' A9 at3).bind fun x7 =>
 some (.ok x7))
def b1B (a0O:Int)(A9:List Tok)(at3 G7:Int):Rs Tok Int->Out
 | .ok V5=>.ret (.agg [.i V5.kind,.str V5.text,.i V5.at_,.i V5.len]) [(0,.row [.sl p8 A9,.i (w64 (at3+1)),.i G7])]
 | .pan a0N=>.pan (.iface 80 (.agg [.i 20,.i a0N])) (hP p8 A9 at3 G7)
def F7 (d9:List Tok)(at2 l5:Int):Option (Rs Str Int) :=
 A8 (L6 2 d9 at2 l5) (fun r4 =>
 some (.ok r4.text)) fun at5 =>
 some (.pan at5)
def a98 (d9:List Tok)(at2 l5:Int):Rs Str Int->Out
 | .ok V5=>.ret (.str V5) [(0,.row [.sl p8 d9,.i (w64 (at2+1)),.i l5])]
 | .pan a0N=>.pan (.iface 80 (.agg [.i 20,.i a0N])) (hP p8 d9 at2 l5)
def D9 (a8i:Str)(A9:List Tok)(at3 G7:Int):Option (Bool×Int) :=
 (u6 0 9 a8i A9 at3 G7).bind fun r5 =>
 cond (!r5) (
 some ((false,at3))) (
 some ((true,(w64 (at3+1)))))
def b3b (a8i:Str)(A9:List Tok)(at3 G7:Int):Bool×Int->Out
 |(V5,a0N)=>.ret (.bool V5) (hP p8 A9 a0N G7)
def G6 (a8i:Str)(A9:List Tok)(at3 G7:Int):Option (Rs Int (Int×Int)) :=
 (D9 a8i A9 at3 G7).bind fun(r5,at6) =>
 cond (!r5) (
 A8 (Y5 A9 at6 G7) (fun(_:Empty)=>none) fun at7 =>
 some (.pan (at7,at6))) (
 some (.ok at6))
def b0g (a8i:Str)(A9:List Tok)(at3 G7:Int):Rs Int (Int×Int)->Out
 | .ok a7Q=>.ret (.tuple []) (hP p8 A9 a7Q G7)
 | .pan (a18,a5C)=>.pan (.iface 80 (.agg [.i 20,.i a18])) (hP p8 A9 a5C G7)
def x9 (a8d:Str)(A9:List Tok)(at3 G7:Int):Option (Bool×Int) :=
 (u6 0 8 a8d A9 at3 G7).bind fun r5 =>
 cond (!r5) (
 some ((false,at3))) (
 some ((true,(w64 (at3+1)))))
def b2v (a8d:Str)(A9:List Tok)(at3 G7:Int):Bool×Int->Out
 |(V5,a0N)=>.ret (.bool V5) (hP p8 A9 a0N G7)
def u7 (a8d:Str)(A9:List Tok)(at3 G7:Int):Option (Rs Int (Int×Int)) :=
 (x9 a8d A9 at3 G7).bind fun(r5,at6) =>
 cond (!r5) (
 A8 (Y5 A9 at6 G7) (fun(_:Empty)=>none) fun at7 =>
 some (.pan (at7,at6))) (
 some (.ok at6))
def b2w (a8d:Str)(A9:List Tok)(at3 G7:Int):Rs Int (Int×Int)->Out
 | .ok a7Q=>.ret (.tuple []) (hP p8 A9 a7Q G7)
 | .pan (a0N,a18)=>.pan (.iface 80 (.agg [.i 20,.i a0N])) (hP p8 A9 a18 G7)
def a2P (n:Nat)(l5:Int)(d9:List Tok):Nat ->(List Nod)->Int->Option (Rs (List Nod×Int) (Int×Int))
  | 0,_,_=>none
  | m4 + 1,l501,a0N =>
      (D7 9 d9 a0N l5).bind fun at6 =>
      A8 (F7 d9 a0N l5) (fun r7 =>
      (app 144 l501 ([(⟨9,r7,0,(⟨0,[],0,[]⟩:Typ),[],[],at6⟩:Nod)]:List Nod)).bind fun l8 =>
      (x9 [38] d9 (w64 (a0N+1)) l5).bind fun(r9,at10) =>
      cond (!r9) (
      some (.ok (l8,at10))) (
      a2P n l5 d9 m4 l8 at10)) fun at11 =>
      some (.pan (at11,a0N))
def a1u (n:Nat)(d9:List Tok)(at2 l5:Int):Option (Rs (List Nod×Int) (Int×Int)) :=
 (x9 [58] d9 at2 l5).bind fun(r4,at5) =>
 cond (!r4) (
 some (.ok (([]:List Nod),at5))) (
 a2P n l5 d9 n ([]:List Nod) at5)
def b0J (d9:List Tok)(at2 l5:Int):Rs (List Nod×Int) (Int×Int)->Out
 | .ok (r503,a5C)=>.ret (.sl D8 r503) (hP p8 d9 a5C l5)
 | .pan (a19,a7h)=>.pan (.iface 80 (.agg [.i 20,.i a19])) (hP p8 d9 a7h l5)
def a6j (a7m:Str)(X3:List Typ):Option (Typ) :=
 M4 (α:=Int) (
 Option.bind (α:=Bool) (
 cond (eqB (List.length X3:Int) 1) (
 some (eqS a7m [65,114,114,97,121])) (
 some false)) fun x505 =>
 cond x505 (
 some (.out ((⟨5,[],0,X3⟩:Typ)))) (
 Option.bind (α:=Bool) (
 cond (eqB (List.length X3:Int) 1) (
 some (eqS a7m [87,101,97,107])) (
 some false)) fun x503 =>
 cond x503 (
 some (.out ((⟨11,[],0,X3⟩:Typ)))) (
 cond (ltB 0 (List.length X3:Int)) (
 some (.brk 6)) (
 cond (eqS a7m [73,110,116]) (
 some (.brk 1)) (
 cond (eqS a7m [66,111,111,108]) (
 some (.brk 2)) (
 cond (eqS a7m [84,101,120,116]) (
 some (.brk 3)) (
 cond (eqS a7m [85,110,105,116]) (
 some (.brk 4)) (
 some (.brk 6))))))))) fun b3K =>
 cond (!eqB b3K 6) (
 some ((⟨b3K,[],0,[]⟩:Typ))) (
 some ((⟨b3K,a7m,0,X3⟩:Typ)))
def b1Y (a7m:Str)(X3:List Typ):Typ->Out
 | b0j=>.ret (.agg [.i b0j.kind,.str b0j.name,.i b0j.n,.sl C9 b0j.args]) []
structure A7 where
 F3:(List Tok)->Int->Int->Option (Rs (Typ×Int) (Int×Int))
 P9:Bool ->(List Tok)->Int->Int->Option (Rs (Typ×Int) (Int×Int))
def Y2 (n:Nat)(Φ:A7)(l5:Int)(d9:List Tok):Nat ->(List Typ)->Int->Option (Lr (List Typ×Int) (Rs (Typ×Int) (Int×Int)))
  | 0,_,_=>none
  | m8 + 1,c6i,a5u =>
      (x9 [44] d9 a5u l5).bind fun(r19,at20) =>
      cond r19 (
      A8 (Φ.F3 d9 at20 l5) (fun(r21,at22) =>
      (app 56 c6i ([r21]:List Typ)).bind fun l23 =>
      Y2 n Φ l5 d9 m8 l23 at22) fun(at24,at25) =>
      some (.out (.pan (at24,at25)))) (
      some (.brk (c6i,at20)))
def a3i (n:Nat)(Φ:A7)(d9:List Tok)(at2 l5:Int):Option (Rs (Typ×Int) (Int×Int)) :=
 (D9 [97,110,121] d9 at2 l5).bind fun(r4,at5) =>
 cond r4 (
 A8 (F7 d9 at5 l5) (fun r6 =>
 some (.ok ((⟨9,r6,0,[]⟩:Typ),(w64 (at5+1))))) fun at7 =>
 some (.pan (at7,at5))) (
 (x9 [40] d9 at5 l5).bind fun(r8,at9) =>
 cond (!r8) (
 A8 (Φ.P9 false d9 at9 l5) (fun(r10,at11) =>
 some (.ok (r10,at11))) fun(at12,at13) =>
 some (.pan (at12,at13))) (
 M4 (α:=List Typ×Int) (
 (x9 [41] d9 at9 l5).bind fun(r14,at15) =>
 cond (!r14) (
 A8 (Φ.F3 d9 at15 l5) (fun(r16,at17) =>
 (app 56 ([]:List Typ) ([r16]:List Typ)).bind fun l18 =>
 a3U (α:=List Typ×Int) (
 Y2 n Φ l5 d9 n l18 at17) fun(args517,a7i) =>
 A8 (u7 [41] d9 a7i l5) (fun at26 =>
 some (.brk (args517,at26))) fun(at27,at28) =>
 some (.out (.pan (at27,at28)))) fun(at29,at30) =>
 some (.out (.pan (at29,at30)))) (
 some (.brk (([]:List Typ),at15)))) fun(args509,a4Y) =>
 A8 (u7 [45,62] d9 a4Y l5) (fun at31 =>
 A8 (Φ.F3 d9 at31 l5) (fun(r32,at33) =>
 (app 56 args509 ([r32]:List Typ)).bind fun l34 =>
 some (.ok ((⟨10,[],0,l34⟩:Typ),at33))) fun(at35,at36) =>
 some (.pan (at35,at36))) fun(at37,at38) =>
 some (.pan (at37,at38))))
def a7X (d9:List Tok)(at2 l5:Int):Rs (Typ×Int) (Int×Int)->Out
 | .ok (a0W,a4s)=>.ret (.agg [.i a0W.kind,.str a0W.name,.i a0W.n,.sl C9 a0W.args]) (hP p8 d9 a4s l5)
 | .pan (a5C,a19)=>.pan (.iface 80 (.agg [.i 20,.i a5C])) (hP p8 d9 a19 l5)
def a3E (n:Nat)(Φ:A7)(G7:Int)(A9:List Tok):Nat ->(List Typ)->Int->Option (Lr (List Typ×Int) (Rs (Typ×Int) (Int×Int)))
  | 0,_,_=>none
  | m5 + 1,c6h,a0N =>
      (x9 [44] A9 a0N G7).bind fun(r11,at12) =>
      cond r11 (
      A8 (Φ.F3 A9 at12 G7) (fun(r13,at14) =>
      (app 56 c6h ([r13]:List Typ)).bind fun l15 =>
      a3E n Φ G7 A9 m5 l15 at14) fun(at16,at17) =>
      some (.out (.pan (at16,at17)))) (
      some (.brk (c6h,at12)))
def P5 (n:Nat)(Φ:A7)(inExpr1:Bool)(G7:Int)(A9:List Tok):Nat->Int->Typ->Option (Lr (Int×Typ) (Rs (Typ×Int) (Int×Int)))
  | 0,_,_=>none
  | m9 + 1,b6t,n533 =>
      Option.bind (α:=Bool) (
      (u6 0 8 [46] A9 b6t G7).bind fun r24 =>
      cond r24 (
      cond inExpr1 (
      (u6 1 1 [] A9 b6t G7).bind fun r25 =>
      some (!r25)) (
      some true)) (
      some false)) fun x546 =>
      cond x546 (
      A8 (F7 A9 (w64 (b6t+1)) G7) (fun r26 =>
      P5 n Φ inExpr1 G7 A9 m9 (w64 ((w64 (b6t+1))+1)) (⟨8,r26,0,[n533]⟩:Typ)) fun at27 =>
      some (.out (.pan (at27,(w64 (b6t+1)))))) (
      some (.brk (b6t,n533)))
def a0l (n:Nat)(Φ:A7)(inExpr1:Bool)(A9:List Tok)(at3 G7:Int):Option (Rs (Typ×Int) (Int×Int)) :=
 A8 (F7 A9 at3 G7) (fun r5 =>
 M4 (α:=List Typ×Int) (
 (x9 [60] A9 (w64 (at3+1)) G7).bind fun(r6,at7) =>
 cond r6 (
 A8 (Φ.F3 A9 at7 G7) (fun(r8,at9) =>
 (app 56 ([]:List Typ) ([r8]:List Typ)).bind fun l10 =>
 a3U (α:=List Typ×Int) (
 a3E n Φ G7 A9 n l10 at9) fun(b7c,a4r) =>
 A8 (u7 [62] A9 a4r G7) (fun at18 =>
 some (.brk (b7c,at18))) fun(at19,at20) =>
 some (.out (.pan (at19,at20)))) fun(at21,at22) =>
 some (.out (.pan (at21,at22)))) (
 some (.brk (([]:List Typ),at7)))) fun(args504,a19) =>
 (a6j r5 args504).bind fun r23 =>
 M4 (α:=Int×Typ) (
 P5 n Φ inExpr1 G7 A9 n a19 r23) fun(b4o,n550) =>
 some (.ok (n550,b4o))) fun at28 =>
 some (.pan (at28,at3))
def a7q (inExpr1:Bool)(A9:List Tok)(at3 G7:Int):Rs (Typ×Int) (Int×Int)->Out
 | .ok (a7Z,b9u)=>.ret (.agg [.i a7Z.kind,.str a7Z.name,.i a7Z.n,.sl C9 a7Z.args]) (hP p8 A9 b9u G7)
 | .pan (a7h,a5u)=>.pan (.iface 80 (.agg [.i 20,.i a7h])) (hP p8 A9 a5u G7)
def A7.fs:Nat->A7
 | 0=>⟨fun _ _ _=>none,fun _ _ _ _=>none⟩
 | n+1=>⟨a3i n (A7.fs n),a0l n (A7.fs n)⟩
def F3 (n:Nat)(d9:List Tok)(at2 l5:Int):Option (Rs (Typ×Int) (Int×Int)):=(A7.fs n).F3 d9 at2 l5
def P9 (n:Nat)(inExpr1:Bool)(A9:List Tok)(at3 G7:Int):Option (Rs (Typ×Int) (Int×Int)):=(A7.fs n).P9 inExpr1 A9 at3 G7
def H7 (d9:List Tok)(at2 l5:Int):Option (Rs Str Int) :=
 A8 (L6 1 d9 at2 l5) (fun r4 =>
 some (.ok r4.text)) fun at5 =>
 some (.pan at5)
def b2p (d9:List Tok)(at2 l5:Int):Rs Str Int->Out
 | .ok V5=>.ret (.str V5) [(0,.row [.sl p8 d9,.i (w64 (at2+1)),.i l5])]
 | .pan a0N=>.pan (.iface 80 (.agg [.i 20,.i a0N])) (hP p8 d9 at2 l5)
def a1j (n:Nat)(l5:Int)(d9:List Tok):Nat ->(List Nod)->Int->Option (Lr (List Nod×Int) (Rs (List Nod×Int) (Int×Int)))
  | 0,_,_=>none
  | m5 + 1,b54,a5u =>
      (D7 10 d9 a5u l5).bind fun at7 =>
      Option.bind (α:=Int×Int) (
      (D9 [105,110,111,117,116] d9 a5u l5).bind fun(r8,at9) =>
      cond r8 (
      some (at9,1)) (
      (D9 [99,111,110,115,117,109,101] d9 at9 l5).bind fun(r10,at11) =>
      cond r10 (
      some (at11,2)) (
      some (at11,0)))) fun(b7B,n517) =>
      A8 (H7 d9 b7B l5) (fun r12 =>
      A8 (u7 [58] d9 (w64 (b7B+1)) l5) (fun at13 =>
      A8 (F3 n d9 at13 l5) (fun(r14,at15) =>
      (app 144 b54 ([(⟨10,r12,n517,r14,[],[],at7⟩:Nod)]:List Nod)).bind fun l16 =>
      (x9 [44] d9 at15 l5).bind fun(r17,at18) =>
      cond (!r17) (
      some (.brk (l16,at18))) (
      a1j n l5 d9 m5 l16 at18)) fun(at19,at20) =>
      some (.out (.pan (at19,at20)))) fun(at21,at22) =>
      some (.out (.pan (at21,at22)))) fun at23 =>
      some (.out (.pan (at23,b7B)))
def R9 (n:Nat)(d9:List Tok)(at2 l5:Int):Option (Rs (List Nod×Int) (Int×Int)) :=
 A8 (u7 [40] d9 at2 l5) (fun at4 =>
 (x9 [41] d9 at4 l5).bind fun(r5,at6) =>
 cond r5 (
 some (.ok (([]:List Nod),at6))) (
 M4 (α:=List Nod×Int) (
 a1j n l5 d9 n ([]:List Nod) at6) fun(l508,b2Q) =>
 A8 (u7 [41] d9 b2Q l5) (fun at24 =>
 some (.ok (l508,at24))) fun(at25,at26) =>
 some (.pan (at25,at26)))) fun(at27,at28) =>
 some (.pan (at27,at28))
def a6m (d9:List Tok)(at2 l5:Int):Rs (List Nod×Int) (Int×Int)->Out
 | .ok (a7D,a4r)=>.ret (.st 1 D8 a7D) [(0,.row [.sl p8 d9,.i a4r,.i l5]),(1,.tip (tpe 10 (List.length a7D)) (List.length a7D))]
 | .pan (a0N,a18)=>.pan (.iface 80 (.agg [.i 20,.i a0N])) (hP p8 d9 a18 l5)
def Y1 (n:Nat)(d9:List Tok)(at2 l5:Int):Option (Rs (Typ×Int) (Int×Int)) :=
 (x9 [45,62] d9 at2 l5).bind fun(r4,at5) =>
 cond r4 (
 A8 (F3 n d9 at5 l5) (fun(r6,at7) =>
 some (.ok (r6,at7))) fun(at8,at9) =>
 some (.pan (at8,at9))) (
 some (.ok ((⟨4,[],0,[]⟩:Typ),at5)))
def b0P (d9:List Tok)(at2 l5:Int):Rs (Typ×Int) (Int×Int)->Out
 | .ok (V5,a0N)=>.ret (.agg [.i V5.kind,.str V5.name,.i V5.n,.sl C9 V5.args]) (hP p8 d9 a0N l5)
 | .pan (a18,a5C)=>.pan (.iface 80 (.agg [.i 20,.i a18])) (hP p8 d9 a5C l5)
def a1Z (n:Nat)(l5:Int)(d9:List Tok):Nat ->(List Nod)->Int->Option (Lr (List Nod×Int) (Rs (List Nod×Int) (Int×Int)))
  | 0,_,_=>none
  | m4 + 1,l504,a19 =>
      (D7 8 d9 a19 l5).bind fun at6 =>
      A8 (F7 d9 a19 l5) (fun r7 =>
      A8 (a1u n d9 (w64 (a19+1)) l5) (fun(r8,at9) =>
      (app 144 l504 ([(⟨8,r7,0,(⟨0,[],0,[]⟩:Typ),[],r8,at6⟩:Nod)]:List Nod)).bind fun l10 =>
      (x9 [44] d9 at9 l5).bind fun(r11,at12) =>
      cond (!r11) (
      some (.brk (l10,at12))) (
      a1Z n l5 d9 m4 l10 at12)) fun(at13,at14) =>
      some (.out (.pan (at13,at14)))) fun at15 =>
      some (.out (.pan (at15,a19)))
def Y0 (n:Nat)(d9:List Tok)(at2 l5:Int):Option (Rs (List Nod×Int) (Int×Int)) :=
 (x9 [60] d9 at2 l5).bind fun(r4,at5) =>
 cond (!r4) (
 some (.ok (([]:List Nod),at5))) (
 M4 (α:=List Nod×Int) (
 a1Z n l5 d9 n ([]:List Nod) at5) fun(b54,a5u) =>
 A8 (u7 [62] d9 a5u l5) (fun at16 =>
 some (.ok (b54,at16))) fun(at17,at18) =>
 some (.pan (at17,at18)))
def a5v (d9:List Tok)(at2 l5:Int):Rs (List Nod×Int) (Int×Int)->Out
 | .ok (b0j,b2Q)=>.ret (.st 1 D8 b0j) [(0,.row [.sl p8 d9,.i b2Q,.i l5]),(1,.tip (tpe 10 (List.length b0j)) (List.length b0j))]
 | .pan (a0N,a18)=>.pan (.iface 80 (.agg [.i 20,.i a0N])) (hP p8 d9 a18 l5)
def a3o (n:Nat)(l5:Int)(d9:List Tok):Nat ->(List Nod)->Int->Option (Rs (List Nod×Int) (Int×Int))
  | 0,_,_=>none
  | m4 + 1,l509,a4Y =>
      (D7 12 d9 a4Y l5).bind fun at6 =>
      A8 (F3 n d9 a4Y l5) (fun(r7,at8) =>
      M4 (α:=Int×Str×Int×List Typ) (
      (x9 [61,61] d9 at8 l5).bind fun(r9,at10) =>
      cond r9 (
      A8 (F3 n d9 at10 l5) (fun(r11,at12) =>
      some (.brk (at12,[],2,([r11]:List Typ)))) fun(at13,at14) =>
      some (.out (.pan (at13,at14)))) (
      A8 (u7 [58] d9 at10 l5) (fun at15 =>
      A8 (F7 d9 at15 l5) (fun r16 =>
      some (.brk ((w64 (at15+1)),r16,1,([]:List Typ)))) fun at17 =>
      some (.out (.pan (at17,at15)))) fun(at18,at19) =>
      some (.out (.pan (at18,at19))))) fun(b43,s518,n519,ts520) =>
      (app 144 l509 ([(⟨12,s518,n519,r7,ts520,[],at6⟩:Nod)]:List Nod)).bind fun l20 =>
      (x9 [44] d9 b43 l5).bind fun(r21,at22) =>
      cond (!r21) (
      some (.ok (l20,at22))) (
      a3o n l5 d9 m4 l20 at22)) fun(at23,at24) =>
      some (.pan (at23,at24))
def a1V (n:Nat)(d9:List Tok)(at2 l5:Int):Option (Rs (List Nod×Int) (Int×Int)) :=
 (D9 [119,104,101,114,101] d9 at2 l5).bind fun(r4,at5) =>
 cond (!r4) (
 some (.ok (([]:List Nod),at5))) (
 a3o n l5 d9 n ([]:List Nod) at5)
def a6Q (d9:List Tok)(at2 l5:Int):Rs (List Nod×Int) (Int×Int)->Out
 | .ok (V5,a0N)=>.ret (.st 1 D8 V5) [(0,.row [.sl p8 d9,.i a0N,.i l5]),(1,.tip (tpe 10 (List.length V5)) (List.length V5))]
 | .pan (a18,a5C)=>.pan (.iface 80 (.agg [.i 20,.i a18])) (hP p8 d9 a5C l5)
def a0b (n:Nat)(d9:List Tok)(at2 l5:Int):Option (Rs (Str×Typ×List Nod×Int×Int) (Int×Int)) :=
 (D7 7 d9 at2 l5).bind fun at4 =>
 A8 (G6 [102,117,110,99] d9 at2 l5) (fun at5 =>
 A8 (H7 d9 at5 l5) (fun r6 =>
 A8 (Y0 n d9 (w64 (at5+1)) l5) (fun(r7,at8) =>
 A8 (R9 n d9 at8 l5) (fun(r9,at10) =>
 (app 144 r7 r9).bind fun l11 =>
 (D7 11 d9 at10 l5).bind fun at12 =>
 M4 (α:=Int×List Nod) (
 (D9 [116,104,114,111,119,115] d9 at10 l5).bind fun(r13,at14) =>
 cond r13 (
 A8 (u7 [40] d9 at14 l5) (fun at15 =>
 A8 (F3 n d9 at15 l5) (fun(r16,at17) =>
 A8 (u7 [41] d9 at17 l5) (fun at18 =>
 (app 144 l11 ([(⟨11,[],0,r16,[],[],at12⟩:Nod)]:List Nod)).bind fun l19 =>
 some (.brk (at18,l19))) fun(at20,at21) =>
 some (.out (.pan (at20,at21)))) fun(at22,at23) =>
 some (.out (.pan (at22,at23)))) fun(at24,at25) =>
 some (.out (.pan (at24,at25)))) (
 some (.brk (at14,l11)))) fun(a5u,l508) =>
 A8 (Y1 n d9 a5u l5) (fun(r26,at27) =>
 A8 (a1V n d9 at27 l5) (fun(r28,at29) =>
 (app 144 l508 r28).bind fun l30 =>
 some (.ok (r6,r26,l30,at4,at29))) fun(at31,at32) =>
 some (.pan (at31,at32))) fun(at33,at34) =>
 some (.pan (at33,at34))) fun(at35,at36) =>
 some (.pan (at35,at36))) fun(at37,at38) =>
 some (.pan (at37,at38))) fun at39 =>
 some (.pan (at39,at5))) fun(at40,at41) =>
 some (.pan (at40,at41))
def a5f (d9:List Tok)(at2 l5:Int):Rs (Str×Typ×List Nod×Int×Int) (Int×Int)->Out
 | .ok (s509,t510,b5e,a4s,a8r)=>.ret (.agg (c0 7 s509 0 t510.kind t510.name t510.n (.sl C9 t510.args) (.sl C9 ([]:List Typ)) (.st 1 D8 b5e) a4s)) [(0,.row [.sl p8 d9,.i a8r,.i l5]),(1,.tip (tpe 10 (List.length b5e)) (List.length b5e))]
 | .pan (a7Q,a0N)=>.pan (.iface 80 (.agg [.i 20,.i a7Q])) (hP p8 d9 a0N l5)
def a10 (n:Nat)(l5:Int)(d9:List Tok):Nat->Int ->(List Nod)->Option (Lr (Int×List Nod) (Rs (Nod×Int) (Int×Int)))
  | 0,_,_=>none
  | m5 + 1,a18,l504 =>
      (u6 0 9 [116,121,112,101] d9 a18 l5).bind fun r8 =>
      cond r8 (
      (D7 16 d9 a18 l5).bind fun at9 =>
      A8 (F7 d9 (w64 (a18+1)) l5) (fun r10 =>
      A8 (a1u n d9 (w64 ((w64 (a18+1))+1)) l5) (fun(r11,at12) =>
      A8 (u7 [59] d9 at12 l5) (fun at13 =>
      (app 144 l504 ([(⟨16,r10,0,(⟨0,[],0,[]⟩:Typ),[],r11,at9⟩:Nod)]:List Nod)).bind fun l14 =>
      a10 n l5 d9 m5 at13 l14) fun(at15,at16) =>
      some (.out (.pan (at15,at16)))) fun(at17,at18) =>
      some (.out (.pan (at17,at18)))) fun at19 =>
      some (.out (.pan (at19,(w64 (a18+1)))))) (
      some (.brk (a18,l504)))
def a1A (n:Nat)(l5:Int)(d9:List Tok):Nat->Int ->(List Nod)->Option (Lr (Int×List Nod) (Rs (Nod×Int) (Int×Int)))
  | 0,_,_=>none
  | m12 + 1,b4m,l522 =>
      (u6 0 9 [102,117,110,99] d9 b4m l5).bind fun r20 =>
      cond r20 (
      A8 (a0b n d9 b4m l5) (fun(s21,t22,l23,at24,at25) =>
      A8 (u7 [59] d9 at25 l5) (fun at26 =>
      (app 144 l522 ([(⟨7,s21,0,t22,[],l23,at24⟩:Nod)]:List Nod)).bind fun l27 =>
      a1A n l5 d9 m12 at26 l27) fun(at28,at29) =>
      some (.out (.pan (at28,at29)))) fun(at30,at31) =>
      some (.out (.pan (at30,at31)))) (
      some (.brk (b4m,l522)))
def a1L (n:Nat)(d9:List Tok)(at2 l5:Int):Option (Rs (Nod×Int) (Int×Int)) :=
 (D7 5 d9 at2 l5).bind fun at4 =>
 A8 (G6 [112,114,111,116,111,99,111,108] d9 at2 l5) (fun at5 =>
 A8 (F7 d9 at5 l5) (fun r6 =>
 A8 (u7 [123] d9 (w64 (at5+1)) l5) (fun at7 =>
 M4 (α:=Int×List Nod) (
 a10 n l5 d9 n at7 ([]:List Nod)) fun(a4r,l512) =>
 M4 (α:=Int×List Nod) (
 a1A n l5 d9 n a4r l512) fun(c2l,l534) =>
 A8 (u7 [125] d9 c2l l5) (fun at32 =>
 some (.ok ((⟨5,r6,0,(⟨0,[],0,[]⟩:Typ),[],l534,at4⟩:Nod),at32))) fun(at33,at34) =>
 some (.pan (at33,at34))) fun(at35,at36) =>
 some (.pan (at35,at36))) fun at37 =>
 some (.pan (at37,at5))) fun(at38,at39) =>
 some (.pan (at38,at39))
def a5w (d9:List Tok)(at2 l5:Int):Rs (Nod×Int) (Int×Int)->Out
 | .ok (a9g,a7h)=>.ret (.agg (c0 a9g.op a9g.s a9g.n a9g.t.kind a9g.t.name a9g.t.n (.sl C9 a9g.t.args) (.sl C9 a9g.ts) (.sl D8 a9g.l) a9g.at_)) (hP p8 d9 a7h l5)
 | .pan (a7Q,a0N)=>.pan (.iface 80 (.agg [.i 20,.i a7Q])) (hP p8 d9 a0N l5)
def Z6 (d9:List Tok)(at2 l5:Int):Option (Rs Int Int) :=
 A8 (L6 3 d9 at2 l5) (fun r4 =>
 (atoi r4.text).bind fun n5 =>
 some (.ok n5)) fun at6 =>
 some (.pan at6)
def b0c (d9:List Tok)(at2 l5:Int):Rs Int Int->Out
 | .ok V5=>.ret (.i V5) [(0,.row [.sl p8 d9,.i (w64 (at2+1)),.i l5])]
 | .pan a0N=>.pan (.iface 80 (.agg [.i 20,.i a0N])) (hP p8 d9 at2 l5)
def a1K (n:Nat)(at4 l5:Int)(d9:List Tok):Nat->Int->Int->Str ->(List Nod)->Option (Lr (Int×Int×Str×List Nod) (Rs (Nod×Int) (Int×Int)))
  | 0,_,_,_,_=>none
  | m3 + 1,a18,op504,s505,b54 =>
      (x9 [46] d9 a18 l5).bind fun(r6,at7) =>
      cond r6 (
      A8 (H7 d9 at7 l5) (fun r8 =>
      a1K n at4 l5 d9 m3 (w64 (at7+1)) 55 r8 ([(⟨op504,s505,0,(⟨0,[],0,[]⟩:Typ),[],b54,at4⟩:Nod)]:List Nod)) fun at9 =>
      some (.out (.pan (at9,at7)))) (
      some (.brk (at7,op504,s505,b54)))
def a02 (n:Nat)(d9:List Tok)(at2 l5:Int):Option (Rs (Nod×Int) (Int×Int)) :=
 (D7 54 d9 at2 l5).bind fun at4 =>
 A8 (H7 d9 at2 l5) (fun r5 =>
 M4 (α:=Int×Int×Str×List Nod) (
 a1K n at4 l5 d9 n (w64 (at2+1)) 54 r5 ([]:List Nod)) fun(b0p,op521,s522,l523) =>
 some (.ok ((⟨op521,s522,0,(⟨0,[],0,[]⟩:Typ),[],l523,at4⟩:Nod),b0p))) fun at10 =>
 some (.pan (at10,at2))
def a6O (d9:List Tok)(at2 l5:Int):Rs (Nod×Int) (Int×Int)->Out
 | .ok (b0j,b2Q)=>.ret (.agg (c0 b0j.op b0j.s b0j.n b0j.t.kind b0j.t.name b0j.t.n (.sl C9 b0j.t.args) (.sl C9 b0j.ts) (.sl D8 b0j.l) b0j.at_)) (hP p8 d9 b2Q l5)
 | .pan (a7Q,a0N)=>.pan (.iface 80 (.agg [.i 20,.i a7Q])) (hP p8 d9 a0N l5)
def a8D:Option (Unit) :=
 some (())
def b6b:Unit->Out
 | _=>.ret (.sl a1c ([(⟨[[124,124]],false⟩:J3),(⟨[[38,38]],false⟩:J3),(⟨[[61,61],[33,61],[60],[60,61],[62],[62,61]],true⟩:J3),(⟨[[43],[45]],false⟩:J3),(⟨[[42],[47],[37]],false⟩:J3)]:List J3)) []
def a0g (n:Nat)(s1:List Str)(v2:Str):Nat->Int->Option (Lr (Unit) (Int))
  | 0,_=>none
  | m2 + 1,x501 =>
      cond (ltB x501 (List.length s1:Int)) (
      (idx' s1 x501).bind fun x3 =>
      cond (eqS v2 x3) (
      some (.out (x501))) (
      a0g n s1 v2 m2 (w64 (x501+1)))) (
      some (.brk ()))
def a1E (n:Nat)(s1:List Str)(v2:Str):Option (Int) :=
 M4 (α:=Unit) (
 a0g n s1 v2 n 0) fun _ =>
 some ((-1))
def a4v (s1:List Str)(v2:Str):Int->Out
 | b65=>.ret (.i b65) []
def R7 (n:Nat)(s1:List Str)(v2:Str):Option (Bool) :=
 (a1E n s1 v2).bind fun r3 =>
 some ((leB 0 r3))
def a7d (s1:List Str)(v2:Str):Bool->Out
 | V5=>.ret (.bool V5) []
structure F9 where
 K4:(List Tok)->Int->Int->Option (Rs (Nod×Int) (Int×Int))
def a04 (n:Nat)(Φ:F9)(l5:Int)(d9:List Tok):Nat->Int ->(List Nod)->Option (Lr (Int×List Nod) (Rs (Nod×Int) (Int×Int)))
  | 0,_,_=>none
  | m6 + 1,b2Q,b6Z =>
      (x9 [44] d9 b2Q l5).bind fun(r30,at31) =>
      cond r30 (
      A8 (Φ.K4 d9 at31 l5) (fun(r32,at33) =>
      (app 144 b6Z ([r32]:List Nod)).bind fun l34 =>
      a04 n Φ l5 d9 m6 at33 l34) fun(at35,at36) =>
      some (.out (.pan (at35,at36)))) (
      some (.brk (at31,b6Z)))
def a1k (n:Nat)(Φ:F9)(d9:List Tok)(at2 l5:Int):Option (Rs (Nod×Int) (Int×Int)) :=
 (D7 0 d9 at2 l5).bind fun at4 =>
 M4 (α:=Int×Int×Str×Int×List Nod) (
 (u6 0 1 [95] d9 at2 l5).bind fun r5 =>
 cond r5 (
 some (.brk ((w64 (at2+1)),40,[],0,([]:List Nod)))) (
 (u6 0 1 [] d9 at2 l5).bind fun r6 =>
 cond r6 (
 A8 (H7 d9 at2 l5) (fun r7 =>
 some (.brk ((w64 (at2+1)),41,r7,0,([]:List Nod)))) fun at8 =>
 some (.out (.pan (at8,at2)))) (
 (u6 0 3 [] d9 at2 l5).bind fun r9 =>
 cond r9 (
 A8 (Z6 d9 at2 l5) (fun r10 =>
 some (.brk ((w64 (at2+1)),42,[],r10,([]:List Nod)))) fun at11 =>
 some (.out (.pan (at11,at2)))) (
 (x9 [45] d9 at2 l5).bind fun(r12,at13) =>
 cond r12 (
 A8 (Z6 d9 at13 l5) (fun r14 =>
 some (.brk ((w64 (at13+1)),42,[],(w64 (0-r14)),([]:List Nod)))) fun at15 =>
 some (.out (.pan (at15,at13)))) (
 (u6 0 4 [] d9 at13 l5).bind fun r16 =>
 cond r16 (
 A8 (L6 4 d9 at13 l5) (fun r17 =>
 some (.brk ((w64 (at13+1)),44,r17.text,0,([]:List Nod)))) fun at18 =>
 some (.out (.pan (at18,at13)))) (
 (D9 [116,114,117,101] d9 at13 l5).bind fun(r19,at20) =>
 cond r19 (
 some (.brk (at20,43,[],1,([]:List Nod)))) (
 (D9 [102,97,108,115,101] d9 at20 l5).bind fun(r21,at22) =>
 cond r21 (
 some (.brk (at22,43,[],0,([]:List Nod)))) (
 A8 (u7 [46] d9 at22 l5) (fun at23 =>
 A8 (H7 d9 at23 l5) (fun r24 =>
 (x9 [40] d9 (w64 (at23+1)) l5).bind fun(r25,at26) =>
 cond r25 (
 A8 (Φ.K4 d9 at26 l5) (fun(r27,at28) =>
 (app 144 ([]:List Nod) ([r27]:List Nod)).bind fun l29 =>
 a3U (α:=Int×List Nod) (
 a04 n Φ l5 d9 n at28 l29) fun(b0q,l524) =>
 A8 (u7 [41] d9 b0q l5) (fun at37 =>
 some (.brk (at37,45,r24,0,l524))) fun(at38,at39) =>
 some (.out (.pan (at38,at39)))) fun(at40,at41) =>
 some (.out (.pan (at40,at41)))) (
 some (.brk (at26,45,r24,0,([]:List Nod))))) fun at42 =>
 some (.out (.pan (at42,at23)))) fun(at43,at44) =>
 some (.out (.pan (at43,at44))))))))))) fun(a4s,op513,s514,n515,l516) =>
 some (.ok ((⟨op513,s514,n515,(⟨0,[],0,[]⟩:Typ),[],l516,at4⟩:Nod),a4s))
def a5J (d9:List Tok)(at2 l5:Int):Rs (Nod×Int) (Int×Int)->Out
 | .ok (a9g,a7h)=>.ret (.agg (c0 a9g.op a9g.s a9g.n a9g.t.kind a9g.t.name a9g.t.n (.sl C9 a9g.t.args) (.sl C9 a9g.ts) (.sl D8 a9g.l) a9g.at_)) (hP p8 d9 a7h l5)
 | .pan (a5u,b6s)=>.pan (.iface 80 (.agg [.i 20,.i a5u])) (hP p8 d9 b6s l5)
def F9.fs:Nat->F9
 | 0=>⟨fun _ _ _=>none⟩
 | n+1=>⟨a1k n (F9.fs n)⟩
def K4 (n:Nat)(d9:List Tok)(at2 l5:Int):Option (Rs (Nod×Int) (Int×Int)):=(F9.fs n).K4 d9 at2 l5
def a4m (n:Nat):Nat->Nod->Option (Nod)
  | 0,_=>none
  | m1 + 1,n501 =>
      cond (eqB n501.op 55) (
      (idx' n501.l 0).bind fun x2 =>
      a4m n m1 x2) (
      some n501)
def a7Y (n:Nat)(e1:Nod):Option (Bool) :=
 Option.bind (α:=Nod) (
 a4m n n e1) fun n503 =>
 some ((eqB n503.op 54))
def b1Z (e1:Nod):Bool->Out
 | a9f=>.ret (.bool a9f) []
structure j6 where
 I8:(List Tok)->Int->Int->Option (Rs (Nod×Int) (o7×Int))
 M8:(List Tok)->Int->Int->Option (Rs (List Nod×Int) (o7×Int))
 K7:(List Tok)->Int->Int->Option (Rs (Nod×Int) (o7×Int))
 X5:(List Tok)->Int->Int->Option (Rs (Nod×Int) (o7×Int))
 G8:(List Tok)->Int->Int->Option (Rs (Nod×Int) (o7×Int))
 I9:(List Tok)->Int->Int->Option (Rs (Nod×Int) (o7×Int))
 U0:(List Tok)->Int->Int->Option (Rs (Nod×Int) (o7×Int))
 V9:(List Tok)->Int->Int->Option (Rs (Nod×Int) (o7×Int))
 O7:(List Tok)->Int->Int->Option (Rs (List Nod×Int) (o7×Int))
 V6:(List Tok)->Int->Int->Option (Rs (Nod×Int) (o7×Int))
 T9:(List Tok)->Int->Int->Option (Rs (Nod×Int) (o7×Int))
 N9:Nod ->(List J3) ->(List Tok)->Int->Int->Option (Rs (Nod×Int) (o7×Int))
 L9:(List Tok)->Int->Int->Option (Rs (Nod×Int) (o7×Int))
 X6:(List Tok)->Int->Int->Option (Rs (Nod×Int) (o7×Int))
 V8:Int ->(List Tok)->Int->Int->Option (Rs (List Nod×Int×Int) (o7×Int))
def a2d (n:Nat)(Φ:j6)(d9:List Tok)(at2 l5:Int):Option (Rs (Nod×Int) (o7×Int)) :=
 (D7 20 d9 at2 l5).bind fun at4 =>
 A8 (u7 [123] d9 at2 l5) (fun at5 =>
 A8 (Φ.M8 d9 at5 l5) (fun(r6,at7) =>
 some (.ok ((⟨20,[],0,(⟨0,[],0,[]⟩:Typ),[],r6,at4⟩:Nod),at7))) fun(e8,at9) =>
 some (.pan (e8,at9))) fun(at10,at11) =>
 some (.pan ((⟨(⟨20,at10⟩:Flt)⟩:o7),at11))
def b1u (d9:List Tok)(at2 l5:Int):Rs (Nod×Int) (o7×Int)->Out
 | .ok (b0i,b6s)=>.ret (.agg (c0 b0i.op b0i.s b0i.n b0i.t.kind b0i.t.name b0i.t.n (.sl C9 b0i.t.args) (.sl C9 b0i.ts) (.sl D8 b0i.l) b0i.at_)) (hP p8 d9 b6s l5)
 | .pan (e529,b9t)=>.pan (.iface 80 (.agg [.i e529.fault.code,.i e529.fault.at_])) (hP p8 d9 b9t l5)
def a0x (n:Nat)(Φ:j6)(l5:Int)(d9:List Tok):Nat ->(List Nod)->Int->Option (Lr (List Nod×Int) (Rs (List Nod×Int) (o7×Int)))
  | 0,_,_=>none
  | m2 + 1,b7Z,a5C =>
      (x9 [125] d9 a5C l5).bind fun(r4,at5) =>
      cond (!r4) (
      A8 (Φ.K7 d9 at5 l5) (fun(r6,at7) =>
      (app 144 b7Z ([r6]:List Nod)).bind fun l8 =>
      a0x n Φ l5 d9 m2 l8 at7) fun(e9,at10) =>
      some (.out (.pan (e9,at10)))) (
      some (.brk (b7Z,at5)))
def a0I (n:Nat)(Φ:j6)(d9:List Tok)(at2 l5:Int):Option (Rs (List Nod×Int) (o7×Int)) :=
 M4 (α:=List Nod×Int) (
 a0x n Φ l5 d9 n ([]:List Nod) at2) fun(b5e,a4s) =>
 some (.ok (b5e,a4s))
def a4U (d9:List Tok)(at2 l5:Int):Rs (List Nod×Int) (o7×Int)->Out
 | .ok (a8G,a6e)=>.ret (.sl D8 a8G) (hP p8 d9 a6e l5)
 | .pan (e555,at556)=>.pan (.iface 80 (.agg [.i e555.fault.code,.i e555.fault.at_])) (hP p8 d9 at556 l5)
def J4 (n:Nat)(Φ:j6)(d9:List Tok)(at2 l5:Int):Option (Rs (Nod×Int) (o7×Int)) :=
 Option.bind (α:=Str) (
 (u6 0 9 [] d9 at2 l5).bind fun r4 =>
 cond r4 (
 (idx' d9 at2).bind fun x5 =>
 some x5.text) (
 some [])) fun a7P =>
 Option.bind (α:=Bool) (
 cond (eqS a7P [108,101,116]) (
 some (eqS a7P [108,101,116])) (
 some (eqS a7P [118,97,114]))) fun x509 =>
 cond x509 (
 A8 (Φ.X5 d9 at2 l5) (fun(r6,at7) =>
 some (.ok (r6,at7))) fun(e8,at9) =>
 some (.pan (e8,at9))) (
 cond (eqS a7P [105,102]) (
 A8 (Φ.L9 d9 at2 l5) (fun(r10,at11) =>
 some (.ok (r10,at11))) fun(e12,at13) =>
 some (.pan (e12,at13))) (
 cond (eqS a7P [109,97,116,99,104]) (
 A8 (Φ.X6 d9 at2 l5) (fun(r14,at15) =>
 some (.ok (r14,at15))) fun(e16,at17) =>
 some (.pan (e16,at17))) (
 cond (eqS a7P [100,101,102,101,114]) (
 A8 (Φ.V8 31 d9 at2 l5) (fun(l18,at19,at20) =>
 some (.ok ((⟨31,[],0,(⟨0,[],0,[]⟩:Typ),[],l18,at19⟩:Nod),at20))) fun(e21,at22) =>
 some (.pan (e21,at22))) (
 cond (eqS a7P [119,104,105,108,101]) (
 (D7 25 d9 at2 l5).bind fun at23 =>
 A8 (Φ.G8 d9 (w64 (at2+1)) l5) (fun(r24,at25) =>
 A8 (Φ.I8 d9 at25 l5) (fun(r26,at27) =>
 (app 144 ([r24]:List Nod) ([r26]:List Nod)).bind fun l28 =>
 some (.ok ((⟨25,[],0,(⟨0,[],0,[]⟩:Typ),[],l28,at23⟩:Nod),at27))) fun(e29,at30) =>
 some (.pan (e29,at30))) fun(e31,at32) =>
 some (.pan (e31,at32))) (
 cond (eqS a7P [114,101,116,117,114,110]) (
 (D7 28 d9 at2 l5).bind fun at33 =>
 M4 (α:=Int×List Nod) (
 (x9 [59] d9 (w64 (at2+1)) l5).bind fun(r34,at35) =>
 cond (!r34) (
 A8 (Φ.G8 d9 at35 l5) (fun(r36,at37) =>
 A8 (u7 [59] d9 at37 l5) (fun at38 =>
 some (.brk (at38,([r36]:List Nod)))) fun(at39,at40) =>
 some (.out (.pan ((⟨(⟨20,at39⟩:Flt)⟩:o7),at40)))) fun(e41,at42) =>
 some (.out (.pan (e41,at42)))) (
 some (.brk (at35,([]:List Nod))))) fun(b0r,l535) =>
 some (.ok ((⟨28,[],0,(⟨0,[],0,[]⟩:Typ),[],l535,at33⟩:Nod),b0r))) (
 cond (eqS a7P [116,104,114,111,119]) (
 (D7 29 d9 at2 l5).bind fun at43 =>
 A8 (Φ.G8 d9 (w64 (at2+1)) l5) (fun(r44,at45) =>
 A8 (u7 [59] d9 at45 l5) (fun at46 =>
 some (.ok ((⟨29,[],0,(⟨0,[],0,[]⟩:Typ),[],[r44],at43⟩:Nod),at46))) fun(at47,at48) =>
 some (.pan ((⟨(⟨20,at47⟩:Flt)⟩:o7),at48))) fun(e49,at50) =>
 some (.pan (e49,at50))) (
 cond (eqS a7P [100,111]) (
 A8 (Φ.V8 30 d9 at2 l5) (fun(l51,at52,at53) =>
 A8 (G6 [99,97,116,99,104] d9 at53 l5) (fun at54 =>
 A8 (H7 d9 at54 l5) (fun r55 =>
 A8 (Φ.I8 d9 (w64 (at54+1)) l5) (fun(r56,at57) =>
 (app 144 l51 ([r56]:List Nod)).bind fun l58 =>
 some (.ok ((⟨30,r55,0,(⟨0,[],0,[]⟩:Typ),[],l58,at52⟩:Nod),at57))) fun(e59,at60) =>
 some (.pan (e59,at60))) fun at61 =>
 some (.pan ((⟨(⟨20,at61⟩:Flt)⟩:o7),at54))) fun(at62,at63) =>
 some (.pan ((⟨(⟨20,at62⟩:Flt)⟩:o7),at63))) fun(e64,at65) =>
 some (.pan (e64,at65))) (
 A8 (Φ.G8 d9 at2 l5) (fun(r66,at67) =>
 (u6 0 8 [61] d9 at67 l5).bind fun r68 =>
 cond r68 (
 (a7Y n r66).bind fun r69 =>
 cond (!r69) (
 some (.pan ((⟨(⟨22,r66.at_⟩:Flt)⟩:o7),at67))) (
 A8 (Φ.G8 d9 (w64 (at67+1)) l5) (fun(r70,at71) =>
 (app 144 ([r66]:List Nod) ([r70]:List Nod)).bind fun l72 =>
 A8 (u7 [59] d9 at71 l5) (fun at73 =>
 some (.ok ((⟨22,[],0,(⟨0,[],0,[]⟩:Typ),[],l72,r66.at_⟩:Nod),at73))) fun(at74,at75) =>
 some (.pan ((⟨(⟨20,at74⟩:Flt)⟩:o7),at75))) fun(e76,at77) =>
 some (.pan (e76,at77)))) (
 A8 (u7 [59] d9 at67 l5) (fun at78 =>
 some (.ok ((⟨23,[],0,(⟨0,[],0,[]⟩:Typ),[],[r66],r66.at_⟩:Nod),at78))) fun(at79,at80) =>
 some (.pan ((⟨(⟨20,at79⟩:Flt)⟩:o7),at80)))) fun(e81,at82) =>
 some (.pan (e81,at82))))))))))
def a5g (d9:List Tok)(at2 l5:Int):Rs (Nod×Int) (o7×Int)->Out
 | .ok (a9f,a19)=>.ret (.agg (c0 a9f.op a9f.s a9f.n a9f.t.kind a9f.t.name a9f.t.n (.sl C9 a9f.t.args) (.sl C9 a9f.ts) (.sl D8 a9f.l) a9f.at_)) (hP p8 d9 a19 l5)
 | .pan (e546,at547)=>.pan (.iface 80 (.agg [.i e546.fault.code,.i e546.fault.at_])) (hP p8 d9 at547 l5)
def a2e (n:Nat)(Φ:j6)(d9:List Tok)(at2 l5:Int):Option (Rs (Nod×Int) (o7×Int)) :=
 (D7 21 d9 at2 l5).bind fun at4 =>
 M4 (α:=Int×Int) (
 (D9 [118,97,114] d9 at2 l5).bind fun(r5,at6) =>
 cond r5 (
 some (.brk (at6,1))) (
 A8 (G6 [108,101,116] d9 at6 l5) (fun at7 =>
 some (.brk (at7,0))) fun(at8,at9) =>
 some (.out (.pan ((⟨(⟨20,at8⟩:Flt)⟩:o7),at9))))) fun(b7C,n523) =>
 A8 (H7 d9 b7C l5) (fun r10 =>
 (x9 [58] d9 (w64 (b7C+1)) l5).bind fun(r11,at12) =>
 M4 (α:=Int×Int×Str×Int×List Typ) (
 cond r11 (
 A8 (F3 n d9 at12 l5) (fun(r13,at14) =>
 some (.brk (at14,r13.kind,r13.name,r13.n,r13.args))) fun(at15,at16) =>
 some (.out (.pan ((⟨(⟨20,at15⟩:Flt)⟩:o7),at16)))) (
 some (.brk (at12,0,[],0,([]:List Typ))))) fun(a9B,c6G,c6Q,n527,c6k) =>
 Option.bind (α:=Bool×Int) (
 cond (eqB n523 1) (
 cond r11 (
 (x9 [59] d9 a9B l5).bind fun(r17,at18) =>
 some (r17,at18)) (
 some (false,a9B))) (
 some (false,a9B))) fun(x529,b9t) =>
 cond x529 (
 some (.ok ((⟨21,r10,n523,(⟨c6G,c6Q,n527,c6k⟩:Typ),[],[],at4⟩:Nod),b9t))) (
 A8 (u7 [61] d9 b9t l5) (fun at19 =>
 A8 (Φ.G8 d9 at19 l5) (fun(r20,at21) =>
 A8 (u7 [59] d9 at21 l5) (fun at22 =>
 some (.ok ((⟨21,r10,n523,(⟨c6G,c6Q,n527,c6k⟩:Typ),[],[r20],at4⟩:Nod),at22))) fun(at23,at24) =>
 some (.pan ((⟨(⟨20,at23⟩:Flt)⟩:o7),at24))) fun(e25,at26) =>
 some (.pan (e25,at26))) fun(at27,at28) =>
 some (.pan ((⟨(⟨20,at27⟩:Flt)⟩:o7),at28)))) fun at29 =>
 some (.pan ((⟨(⟨20,at29⟩:Flt)⟩:o7),b7C))
def a6M (d9:List Tok)(at2 l5:Int):Rs (Nod×Int) (o7×Int)->Out
 | .ok (V5,a0N)=>.ret (.agg (c0 V5.op V5.s V5.n V5.t.kind V5.t.name V5.t.n (.sl C9 V5.t.args) (.sl C9 V5.ts) (.sl D8 V5.l) V5.at_)) (hP p8 d9 a0N l5)
 | .pan (e598,at599)=>.pan (.iface 80 (.agg [.i e598.fault.code,.i e598.fault.at_])) (hP p8 d9 at599 l5)
def a2E (n:Nat)(Φ:j6)(d9:List Tok)(at2 l5:Int):Option (Rs (Nod×Int) (o7×Int)) :=
 A8 (Φ.I9 d9 at2 l5) (fun(r4,at5) =>
 (a8D).bind fun _ =>
 A8 (Φ.N9 r4 ([(⟨[[124,124]],false⟩:J3),(⟨[[38,38]],false⟩:J3),(⟨[[61,61],[33,61],[60],[60,61],[62],[62,61]],true⟩:J3),(⟨[[43],[45]],false⟩:J3),(⟨[[42],[47],[37]],false⟩:J3)]:List J3) d9 at5 l5) (fun(r6,at7) =>
 some (.ok (r6,at7))) fun(e8,at9) =>
 some (.pan (e8,at9))) fun(e10,at11) =>
 some (.pan (e10,at11))
def b2k (d9:List Tok)(at2 l5:Int):Rs (Nod×Int) (o7×Int)->Out
 | .ok (a13,a4Y)=>.ret (.agg (c0 a13.op a13.s a13.n a13.t.kind a13.t.name a13.t.n (.sl C9 a13.t.args) (.sl C9 a13.ts) (.sl D8 a13.l) a13.at_)) (hP p8 d9 a4Y l5)
 | .pan (e523,a9B)=>.pan (.iface 80 (.agg [.i e523.fault.code,.i e523.fault.at_])) (hP p8 d9 a9B l5)
def a2g (n:Nat)(Φ:j6)(d9:List Tok)(at2 l5:Int):Option (Rs (Nod×Int) (o7×Int)) :=
 (D7 66 d9 at2 l5).bind fun at4 =>
 M4 (α:=Int×Int) (
 (x9 [45] d9 at2 l5).bind fun(r5,at6) =>
 cond (!r5) (
 (x9 [33] d9 at6 l5).bind fun(r7,at8) =>
 cond (!r7) (
 A8 (Φ.U0 d9 at8 l5) (fun(r9,at10) =>
 some (.out (.ok (r9,at10)))) fun(e11,at12) =>
 some (.out (.pan (e11,at12)))) (
 some (.brk (at8,65)))) (
 some (.brk (at6,66)))) fun(a7Q,op502) =>
 A8 (Φ.I9 d9 a7Q l5) (fun(r13,at14) =>
 some (.ok ((⟨op502,[],0,(⟨0,[],0,[]⟩:Typ),[],[r13],at4⟩:Nod),at14))) fun(e15,at16) =>
 some (.pan (e15,at16))
def a6P (d9:List Tok)(at2 l5:Int):Rs (Nod×Int) (o7×Int)->Out
 | .ok (a0W,a4s)=>.ret (.agg (c0 a0W.op a0W.s a0W.n a0W.t.kind a0W.t.name a0W.t.n (.sl C9 a0W.t.args) (.sl C9 a0W.ts) (.sl D8 a0W.l) a0W.at_)) (hP p8 d9 a4s l5)
 | .pan (e543,at544)=>.pan (.iface 80 (.agg [.i e543.fault.code,.i e543.fault.at_])) (hP p8 d9 at544 l5)
def V3 (n:Nat)(Φ:j6)(l5:Int)(d9:List Tok):Nat->Bool->Int->Nod->Option (Rs (Nod×Int) (o7×Int))
  | 0,_,_,_=>none
  | m4 + 1,bare544,b44,n546 =>
      M4 (α:=Int×Int×Str×List Nod) (
      (x9 [46] d9 b44 l5).bind fun(r7,at8) =>
      cond r7 (
      A8 (H7 d9 at8 l5) (fun r9 =>
      a3U (α:=Int×Int×List Nod) (
      (u6 0 8 [40] d9 (w64 (at8+1)) l5).bind fun r10 =>
      cond r10 (
      A8 (Φ.O7 d9 (w64 (at8+1)) l5) (fun(r11,at12) =>
      (app 144 ([n546]:List Nod) r11).bind fun l13 =>
      some (.brk (at12,57,l13))) fun(e14,at15) =>
      some (.out (.pan (e14,at15)))) (
      some (.brk ((w64 (at8+1)),55,([n546]:List Nod))))) fun(b45,op555,l556) =>
      some (.brk (b45,op555,r9,l556))) fun at16 =>
      some (.out (.pan ((⟨(⟨20,at16⟩:Flt)⟩:o7),at8)))) (
      (u6 0 8 [40] d9 at8 l5).bind fun r17 =>
      cond r17 (
      cond bare544 (
      A8 (Φ.O7 d9 at8 l5) (fun(r18,at19) =>
      some (.brk (at19,56,n546.s,r18))) fun(e20,at21) =>
      some (.out (.pan (e20,at21)))) (
      A8 (Φ.O7 d9 at8 l5) (fun(r22,at23) =>
      (app 144 ([n546]:List Nod) r22).bind fun l24 =>
      some (.brk (at23,60,[],l24))) fun(e25,at26) =>
      some (.out (.pan (e25,at26))))) (
      some (.out (.ok (n546,at8)))))) fun(at557,op558,s559,l560) =>
      V3 n Φ l5 d9 m4 false at557 (⟨op558,s559,0,(⟨0,[],0,[]⟩:Typ),[],l560,n546.at_⟩:Nod)
def a1l (n:Nat)(Φ:j6)(d9:List Tok)(at2 l5:Int):Option (Rs (Nod×Int) (o7×Int)) :=
 (u6 0 1 [] d9 at2 l5).bind fun r4 =>
 A8 (Φ.V9 d9 at2 l5) (fun(r5,at6) =>
 V3 n Φ l5 d9 n r4 at6 r5) fun(e27,at28) =>
 some (.pan (e27,at28))
def a5K (d9:List Tok)(at2 l5:Int):Rs (Nod×Int) (o7×Int)->Out
 | .ok (a0W,a4s)=>.ret (.agg (c0 a0W.op a0W.s a0W.n a0W.t.kind a0W.t.name a0W.t.n (.sl C9 a0W.t.args) (.sl C9 a0W.ts) (.sl D8 a0W.l) a0W.at_)) (hP p8 d9 a4s l5)
 | .pan (e580,at581)=>.pan (.iface 80 (.agg [.i e580.fault.code,.i e580.fault.at_])) (hP p8 d9 at581 l5)
def a1H (n:Nat)(Φ:j6)(l5:Int)(d9:List Tok):Nat->Int ->(List Nod)->Option (Lr (Int×List Nod) (Rs (Nod×Int) (o7×Int)))
  | 0,_,_=>none
  | m27 + 1,at569,l570 =>
      (x9 [44] d9 at569 l5).bind fun(r34,at35) =>
      cond r34 (
      A8 (Φ.G8 d9 at35 l5) (fun(r36,at37) =>
      (app 144 l570 ([r36]:List Nod)).bind fun l38 =>
      a1H n Φ l5 d9 m27 at37 l38) fun(e39,at40) =>
      some (.out (.pan (e39,at40)))) (
      some (.brk (at35,l570)))
def a0L (n:Nat)(Φ:j6)(d9:List Tok)(at2 l5:Int):Option (Rs (Nod×Int) (o7×Int)) :=
 (D7 0 d9 at2 l5).bind fun at4 =>
 M4 (α:=Int×Int×Str×Int×Int×Str×Int×List Typ×List Nod) (
 (u6 0 3 [] d9 at2 l5).bind fun r5 =>
 cond r5 (
 A8 (Z6 d9 at2 l5) (fun r6 =>
 some (.brk ((w64 (at2+1)),50,[],r6,0,[],0,([]:List Typ),([]:List Nod)))) fun at7 =>
 some (.out (.pan ((⟨(⟨20,at7⟩:Flt)⟩:o7),at2)))) (
 (u6 0 4 [] d9 at2 l5).bind fun r8 =>
 cond r8 (
 A8 (L6 4 d9 at2 l5) (fun r9 =>
 some (.brk ((w64 (at2+1)),52,r9.text,0,0,[],0,([]:List Typ),([]:List Nod)))) fun at10 =>
 some (.out (.pan ((⟨(⟨20,at10⟩:Flt)⟩:o7),at2)))) (
 (u6 0 5 [] d9 at2 l5).bind fun r11 =>
 cond r11 (
 A8 (Φ.V6 d9 at2 l5) (fun(r12,at13) =>
 some (.out (.ok (r12,at13)))) fun(e14,at15) =>
 some (.out (.pan (e14,at15)))) (
 (D9 [116,114,117,101] d9 at2 l5).bind fun(r16,at17) =>
 cond r16 (
 some (.brk (at17,51,[],1,0,[],0,([]:List Typ),([]:List Nod)))) (
 (D9 [102,97,108,115,101] d9 at17 l5).bind fun(r18,at19) =>
 cond r18 (
 some (.brk (at19,51,[],0,0,[],0,([]:List Typ),([]:List Nod)))) (
 (u6 0 1 [] d9 at19 l5).bind fun r20 =>
 cond r20 (
 A8 (H7 d9 at19 l5) (fun r21 =>
 some (.brk ((w64 (at19+1)),54,r21,0,0,[],0,([]:List Typ),([]:List Nod)))) fun at22 =>
 some (.out (.pan ((⟨(⟨20,at22⟩:Flt)⟩:o7),at19)))) (
 (D9 [99,111,110,115,117,109,101] d9 at19 l5).bind fun(r23,at24) =>
 cond r23 (
 A8 (H7 d9 at24 l5) (fun r25 =>
 some (.brk ((w64 (at24+1)),61,r25,0,0,[],0,([]:List Typ),([]:List Nod)))) fun at26 =>
 some (.out (.pan ((⟨(⟨20,at26⟩:Flt)⟩:o7),at24)))) (
 (x9 [91] d9 at24 l5).bind fun(r27,at28) =>
 cond r27 (
 (x9 [93] d9 at28 l5).bind fun(r29,at30) =>
 cond r29 (
 some (.brk (at30,67,[],0,0,[],0,([]:List Typ),([]:List Nod)))) (
 A8 (Φ.G8 d9 at30 l5) (fun(r31,at32) =>
 (app 144 ([]:List Nod) ([r31]:List Nod)).bind fun l33 =>
 a3U (α:=Int×List Nod) (
 a1H n Φ l5 d9 n at32 l33) fun(at587,l588) =>
 A8 (u7 [93] d9 at587 l5) (fun at41 =>
 some (.brk (at41,67,[],0,0,[],0,([]:List Typ),l588))) fun(at42,at43) =>
 some (.out (.pan ((⟨(⟨20,at42⟩:Flt)⟩:o7),at43)))) fun(e44,at45) =>
 some (.out (.pan (e44,at45))))) (
 (x9 [40] d9 at28 l5).bind fun(r46,at47) =>
 cond r46 (
 A8 (Φ.G8 d9 at47 l5) (fun(r48,at49) =>
 A8 (u7 [41] d9 at49 l5) (fun at50 =>
 some (.out (.ok (r48,at50)))) fun(at51,at52) =>
 some (.out (.pan ((⟨(⟨20,at51⟩:Flt)⟩:o7),at52)))) fun(e53,at54) =>
 some (.out (.pan (e53,at54)))) (
 (u6 0 8 [123] d9 at47 l5).bind fun r55 =>
 cond r55 (
 A8 (Φ.T9 d9 at47 l5) (fun(r56,at57) =>
 some (.out (.ok (r56,at57)))) fun(e58,at59) =>
 some (.out (.pan (e58,at59)))) (
 A8 (P9 n true d9 at47 l5) (fun(r60,at61) =>
 (u6 0 8 [40] d9 at61 l5).bind fun r62 =>
 cond r62 (
 A8 (Φ.O7 d9 at61 l5) (fun(r63,at64) =>
 some (.brk (at64,59,[],0,r60.kind,r60.name,r60.n,r60.args,r63))) fun(e65,at66) =>
 some (.out (.pan (e65,at66)))) (
 A8 (u7 [46] d9 at61 l5) (fun at67 =>
 A8 (H7 d9 at67 l5) (fun r68 =>
 (u6 0 8 [40] d9 (w64 (at67+1)) l5).bind fun r69 =>
 cond r69 (
 A8 (Φ.O7 d9 (w64 (at67+1)) l5) (fun(r70,at71) =>
 some (.brk (at71,58,r68,1,r60.kind,r60.name,r60.n,r60.args,r70))) fun(e72,at73) =>
 some (.out (.pan (e72,at73)))) (
 some (.brk ((w64 (at67+1)),58,r68,0,r60.kind,r60.name,r60.n,r60.args,([]:List Nod))))) fun at74 =>
 some (.out (.pan ((⟨(⟨20,at74⟩:Flt)⟩:o7),at67)))) fun(at75,at76) =>
 some (.out (.pan ((⟨(⟨20,at75⟩:Flt)⟩:o7),at76))))) fun(at77,at78) =>
 some (.out (.pan ((⟨(⟨20,at77⟩:Flt)⟩:o7),at78)))))))))))))) fun(b43,op518,s519,n520,kind521,name522,n523,args524,l525) =>
 some (.ok ((⟨op518,s519,n520,(⟨kind521,name522,n523,args524⟩:Typ),[],l525,at4⟩:Nod),b43))
def a7p (d9:List Tok)(at2 l5:Int):Rs (Nod×Int) (o7×Int)->Out
 | .ok (a13,a4Y)=>.ret (.agg (c0 a13.op a13.s a13.n a13.t.kind a13.t.name a13.t.n (.sl C9 a13.t.args) (.sl C9 a13.ts) (.sl D8 a13.l) a13.at_)) (hP p8 d9 a4Y l5)
 | .pan (e617,at618)=>.pan (.iface 80 (.agg [.i e617.fault.code,.i e617.fault.at_])) (hP p8 d9 at618 l5)
def a2c (n:Nat)(Φ:j6)(l5:Int)(d9:List Tok):Nat ->(List Nod)->Int->Option (Lr (List Nod×Int) (Rs (List Nod×Int) (o7×Int)))
  | 0,_,_=>none
  | m5 + 1,l504,a19 =>
      (D7 62 d9 a19 l5).bind fun at7 =>
      a3U (α:=List Nod×Int) (
      (x9 [38] d9 a19 l5).bind fun(r8,at9) =>
      cond r8 (
      A8 (a02 n d9 at9 l5) (fun(r10,at11) =>
      (app 144 l504 ([(⟨62,[],0,(⟨0,[],0,[]⟩:Typ),[],[r10],at7⟩:Nod)]:List Nod)).bind fun l12 =>
      some (.brk (l12,at11))) fun(at13,at14) =>
      some (.out (.pan ((⟨(⟨20,at13⟩:Flt)⟩:o7),at14)))) (
      A8 (Φ.G8 d9 at9 l5) (fun(r15,at16) =>
      (app 144 l504 ([r15]:List Nod)).bind fun l17 =>
      some (.brk (l17,at16))) fun(e18,at19) =>
      some (.out (.pan (e18,at19))))) fun(l551,at552) =>
      (x9 [44] d9 at552 l5).bind fun(r20,at21) =>
      cond (!r20) (
      some (.brk (l551,at21))) (
      a2c n Φ l5 d9 m5 l551 at21)
def a2D (n:Nat)(Φ:j6)(d9:List Tok)(at2 l5:Int):Option (Rs (List Nod×Int) (o7×Int)) :=
 A8 (u7 [40] d9 at2 l5) (fun at4 =>
 (x9 [41] d9 at4 l5).bind fun(r5,at6) =>
 cond r5 (
 some (.ok (([]:List Nod),at6))) (
 M4 (α:=List Nod×Int) (
 a2c n Φ l5 d9 n ([]:List Nod) at6) fun(b54,a5u) =>
 A8 (u7 [41] d9 a5u l5) (fun at22 =>
 some (.ok (b54,at22))) fun(at23,at24) =>
 some (.pan ((⟨(⟨20,at23⟩:Flt)⟩:o7),at24)))) fun(at25,at26) =>
 some (.pan ((⟨(⟨20,at25⟩:Flt)⟩:o7),at26))
def a7o (d9:List Tok)(at2 l5:Int):Rs (List Nod×Int) (o7×Int)->Out
 | .ok (r557,at558)=>.ret (.sl D8 r557) (hP p8 d9 at558 l5)
 | .pan (e579,at580)=>.pan (.iface 80 (.agg [.i e579.fault.code,.i e579.fault.at_])) (hP p8 d9 at580 l5)
def a2U (n:Nat)(Φ:j6)(at4 l5:Int)(d9:List Tok):Nat->Int ->(List Nod)->Str->Int->Option (Rs (Nod×Int) (o7×Int))
  | 0,_,_,_,_=>none
  | m5 + 1,a4r,l512,s513,a6e =>
      A8 (Φ.G8 d9 a4r l5) (fun(r7,at8) =>
      (app 144 l512 ([r7]:List Nod)).bind fun l9 =>
      (D7 52 d9 at8 l5).bind fun at10 =>
      (u6 0 6 [] d9 at8 l5).bind fun r11 =>
      cond r11 (
      A8 (L6 6 d9 at8 l5) (fun r12 =>
      (app 144 l9 ([(⟨52,r12.text,0,(⟨0,[],0,[]⟩:Typ),[],[],at10⟩:Nod)]:List Nod)).bind fun l13 =>
      a2U n Φ at4 l5 d9 m5 (w64 (at8+1)) l13 r12.text at10) fun at14 =>
      some (.pan ((⟨(⟨20,at14⟩:Flt)⟩:o7),at8))) (
      A8 (L6 7 d9 at8 l5) (fun r15 =>
      (app 144 l9 ([(⟨52,r15.text,0,(⟨0,[],0,[]⟩:Typ),[],[],at10⟩:Nod)]:List Nod)).bind fun l16 =>
      some (.ok ((⟨53,[],0,(⟨0,[],0,[]⟩:Typ),[],l16,at4⟩:Nod),(w64 (at8+1))))) fun at17 =>
      some (.pan ((⟨(⟨20,at17⟩:Flt)⟩:o7),at8)))) fun(e18,at19) =>
      some (.pan (e18,at19))
def a1I (n:Nat)(Φ:j6)(d9:List Tok)(at2 l5:Int):Option (Rs (Nod×Int) (o7×Int)) :=
 (D7 53 d9 at2 l5).bind fun at4 =>
 (D7 52 d9 at2 l5).bind fun at5 =>
 A8 (L6 5 d9 at2 l5) (fun r6 =>
 a2U n Φ at4 l5 d9 n (w64 (at2+1)) ([(⟨52,r6.text,0,(⟨0,[],0,[]⟩:Typ),[],[],at5⟩:Nod)]:List Nod) r6.text at5) fun at20 =>
 some (.pan ((⟨(⟨20,at20⟩:Flt)⟩:o7),at2))
def b0N (d9:List Tok)(at2 l5:Int):Rs (Nod×Int) (o7×Int)->Out
 | .ok (r515,b7B)=>.ret (.agg (c0 r515.op r515.s r515.n r515.t.kind r515.t.name r515.t.n (.sl C9 r515.t.args) (.sl C9 r515.ts) (.sl D8 r515.l) r515.at_)) (hP p8 d9 b7B l5)
 | .pan (e541,a6f)=>.pan (.iface 80 (.agg [.i e541.fault.code,.i e541.fault.at_])) (hP p8 d9 a6f l5)
def a1h (n:Nat)(Φ:j6)(d9:List Tok)(at2 l5:Int):Option (Rs (Nod×Int) (o7×Int)) :=
 (D7 63 d9 at2 l5).bind fun at4 =>
 (D7 20 d9 at2 l5).bind fun at5 =>
 A8 (u7 [123] d9 at2 l5) (fun at6 =>
 A8 (R9 n d9 at6 l5) (fun(r7,at8) =>
 A8 (Y1 n d9 at8 l5) (fun(r9,at10) =>
 A8 (G6 [105,110] d9 at10 l5) (fun at11 =>
 A8 (Φ.M8 d9 at11 l5) (fun(r12,at13) =>
 (app 144 r7 ([(⟨20,[],0,(⟨0,[],0,[]⟩:Typ),[],r12,at5⟩:Nod)]:List Nod)).bind fun l14 =>
 some (.ok ((⟨63,[],0,r9,[],l14,at4⟩:Nod),at13))) fun(e15,at16) =>
 some (.pan (e15,at16))) fun(at17,at18) =>
 some (.pan ((⟨(⟨20,at17⟩:Flt)⟩:o7),at18))) fun(at19,at20) =>
 some (.pan ((⟨(⟨20,at19⟩:Flt)⟩:o7),at20))) fun(at21,at22) =>
 some (.pan ((⟨(⟨20,at21⟩:Flt)⟩:o7),at22))) fun(at23,at24) =>
 some (.pan ((⟨(⟨20,at23⟩:Flt)⟩:o7),at24))
def b0a (d9:List Tok)(at2 l5:Int):Rs (Nod×Int) (o7×Int)->Out
 | .ok (V5,a0N)=>.ret (.agg (c0 V5.op V5.s V5.n V5.t.kind V5.t.name V5.t.n (.sl C9 V5.t.args) (.sl C9 V5.ts) (.sl D8 V5.l) V5.at_)) (hP p8 d9 a0N l5)
 | .pan (e535,b7D)=>.pan (.iface 80 (.agg [.i e535.fault.code,.i e535.fault.at_])) (hP p8 d9 b7D l5)
def a0S (n:Nat)(Φ:j6)(a2M:Int)(a0d:List J3)(O5:List Tok):Nat->Int->Int->Int->Nod->Option (Lr (Int×Int×Nod) (Rs (Nod×Int) (o7×Int)))
  | 0,_,_,_,_=>none
  | m6 + 1,k553,x554,b6v,n556 =>
      Option.bind (α:=Bool) (
      cond (ltB b6v (List.length O5:Int)) (
      (idx' O5 b6v).bind fun x6 =>
      cond (eqB x6.kind 8) (
      (idx' a0d k553).bind fun x7 =>
      (idx' O5 b6v).bind fun x8 =>
      (R7 n x7.ops x8.text).bind fun r9 =>
      some r9) (
      some false)) (
      some false)) fun x557 =>
      cond x557 (
      (idx' O5 b6v).bind fun x10 =>
      (subL a0d (w64 (k553+1)) (List.length a0d:Int)).bind fun l11 =>
      A8 (Φ.I9 O5 (w64 (b6v+1)) a2M) (fun(r12,at13) =>
      A8 (Φ.N9 r12 l11 O5 at13 a2M) (fun(r14,at15) =>
      (idx' a0d k553).bind fun x16 =>
      cond x16.once (
      some (.brk (x554,at15,(⟨64,x10.text,0,(⟨0,[],0,[]⟩:Typ),[],[n556,r14],n556.at_⟩:Nod)))) (
      a0S n Φ a2M a0d O5 m6 k553 x554 at15 (⟨64,x10.text,0,(⟨0,[],0,[]⟩:Typ),[],[n556,r14],n556.at_⟩:Nod))) fun(e17,at18) =>
      some (.out (.pan (e17,at18)))) fun(e19,at20) =>
      some (.out (.pan (e19,at20)))) (
      some (.brk (x554,b6v,n556)))
def R5 (n:Nat)(Φ:j6)(a0d:List J3)(a2M:Int)(O5:List Tok):Nat->Int->Int->Nod->Option (Lr (Int×Nod) (Rs (Nod×Int) (o7×Int)))
  | 0,_,_,_=>none
  | m3 + 1,x545,at546,n547 =>
      cond (ltB x545 (List.length a0d:Int)) (
      a3U (α:=Int×Int×Nod) (
      a0S n Φ a2M a0d O5 n (w64 ((w64 ((List.length a0d:Int)-1))-x545)) x545 at546 n547) fun(x562,at563,n564) =>
      R5 n Φ a0d a2M O5 m3 (w64 (x562+1)) at563 n564) (
      some (.brk (at546,n547)))
def a5e (n:Nat)(Φ:j6)(a1e:Nod)(a0d:List J3)(O5:List Tok)(at4 a2M:Int):Option (Rs (Nod×Int) (o7×Int)) :=
 M4 (α:=Int×Nod) (
 R5 n Φ a0d a2M O5 n 0 at4 a1e) fun(at568,n569) =>
 some (.ok (n569,at568))
def a6L (a1e:Nod)(a0d:List J3)(O5:List Tok)(at4 a2M:Int):Rs (Nod×Int) (o7×Int)->Out
 | .ok (b0k,at571)=>.ret (.agg (c0 b0k.op b0k.s b0k.n b0k.t.kind b0k.t.name b0k.t.n (.sl C9 b0k.t.args) (.sl C9 b0k.ts) (.sl D8 b0k.l) b0k.at_)) (hP p8 O5 at571 a2M)
 | .pan (e523,a9B)=>.pan (.iface 80 (.agg [.i e523.fault.code,.i e523.fault.at_])) (hP p8 O5 a9B a2M)
def a0w (n:Nat)(Φ:j6)(d9:List Tok)(at2 l5:Int):Option (Rs (Nod×Int) (o7×Int)) :=
 (D7 24 d9 at2 l5).bind fun at4 =>
 A8 (G6 [105,102] d9 at2 l5) (fun at5 =>
 A8 (Φ.G8 d9 at5 l5) (fun(r6,at7) =>
 A8 (Φ.I8 d9 at7 l5) (fun(r8,at9) =>
 (app 144 ([r6]:List Nod) ([r8]:List Nod)).bind fun l10 =>
 M4 (α:=Int×List Nod) (
 (D9 [101,108,115,101] d9 at9 l5).bind fun(r11,at12) =>
 cond r11 (
 a3U (α:=Int×Nod) (
 (u6 0 9 [105,102] d9 at12 l5).bind fun r13 =>
 cond r13 (
 A8 (Φ.L9 d9 at12 l5) (fun(r14,at15) =>
 some (.brk (at15,r14))) fun(e16,at17) =>
 some (.out (.pan (e16,at17)))) (
 A8 (Φ.I8 d9 at12 l5) (fun(r18,at19) =>
 some (.brk (at19,r18))) fun(e20,at21) =>
 some (.out (.pan (e20,at21))))) fun(b43,n518) =>
 (app 144 l10 ([n518]:List Nod)).bind fun l22 =>
 some (.brk (b43,l22))) (
 some (.brk (at12,l10)))) fun(at519,l520) =>
 some (.ok ((⟨24,[],0,(⟨0,[],0,[]⟩:Typ),[],l520,at4⟩:Nod),at519))) fun(e23,at24) =>
 some (.pan (e23,at24))) fun(e25,at26) =>
 some (.pan (e25,at26))) fun(at27,at28) =>
 some (.pan ((⟨(⟨20,at27⟩:Flt)⟩:o7),at28))
def a4I (d9:List Tok)(at2 l5:Int):Rs (Nod×Int) (o7×Int)->Out
 | .ok (a0W,a4s)=>.ret (.agg (c0 a0W.op a0W.s a0W.n a0W.t.kind a0W.t.name a0W.t.n (.sl C9 a0W.t.args) (.sl C9 a0W.ts) (.sl D8 a0W.l) a0W.at_)) (hP p8 d9 a4s l5)
 | .pan (e531,b6t)=>.pan (.iface 80 (.agg [.i e531.fault.code,.i e531.fault.at_])) (hP p8 d9 b6t l5)
def a1J (n:Nat)(Φ:j6)(l5:Int)(d9:List Tok):Nat->Int ->(List Nod)->Option (Lr (Int×List Nod) (Rs (Nod×Int) (o7×Int)))
  | 0,_,_=>none
  | m5 + 1,b4l,l516 =>
      (u6 0 9 [99,97,115,101] d9 b4l l5).bind fun r9 =>
      cond r9 (
      (D7 27 d9 b4l l5).bind fun at10 =>
      A8 (K4 n d9 (w64 (b4l+1)) l5) (fun(r11,at12) =>
      A8 (Φ.I8 d9 at12 l5) (fun(r13,at14) =>
      (app 144 ([r11]:List Nod) ([r13]:List Nod)).bind fun l15 =>
      (app 144 l516 ([(⟨27,[],0,(⟨0,[],0,[]⟩:Typ),[],l15,at10⟩:Nod)]:List Nod)).bind fun l16 =>
      a1J n Φ l5 d9 m5 at14 l16) fun(e17,at18) =>
      some (.out (.pan (e17,at18)))) fun(at19,at20) =>
      some (.out (.pan ((⟨(⟨20,at19⟩:Flt)⟩:o7),at20)))) (
      some (.brk (b4l,l516)))
def a2f (n:Nat)(Φ:j6)(d9:List Tok)(at2 l5:Int):Option (Rs (Nod×Int) (o7×Int)) :=
 (D7 26 d9 at2 l5).bind fun at4 =>
 A8 (G6 [109,97,116,99,104] d9 at2 l5) (fun at5 =>
 A8 (Φ.G8 d9 at5 l5) (fun(r6,at7) =>
 A8 (u7 [123] d9 at7 l5) (fun at8 =>
 M4 (α:=Int×List Nod) (
 a1J n Φ l5 d9 n at8 ([r6]:List Nod)) fun(b4n,l526) =>
 (D7 27 d9 b4n l5).bind fun at21 =>
 (D7 40 d9 b4n l5).bind fun at22 =>
 M4 (α:=Int×List Nod) (
 (D9 [100,101,102,97,117,108,116] d9 b4n l5).bind fun(r23,at24) =>
 cond r23 (
 A8 (Φ.I8 d9 at24 l5) (fun(r25,at26) =>
 (app 144 ([(⟨40,[],0,(⟨0,[],0,[]⟩:Typ),[],[],at22⟩:Nod)]:List Nod) ([r25]:List Nod)).bind fun l27 =>
 (app 144 l526 ([(⟨27,[],0,(⟨0,[],0,[]⟩:Typ),[],l27,at21⟩:Nod)]:List Nod)).bind fun l28 =>
 some (.brk (at26,l28))) fun(e29,at30) =>
 some (.out (.pan (e29,at30)))) (
 some (.brk (at24,l526)))) fun(b43,l518) =>
 A8 (u7 [125] d9 b43 l5) (fun at31 =>
 some (.ok ((⟨26,[],0,(⟨0,[],0,[]⟩:Typ),[],l518,at4⟩:Nod),at31))) fun(at32,at33) =>
 some (.pan ((⟨(⟨20,at32⟩:Flt)⟩:o7),at33))) fun(at34,at35) =>
 some (.pan ((⟨(⟨20,at34⟩:Flt)⟩:o7),at35))) fun(e36,at37) =>
 some (.pan (e36,at37))) fun(at38,at39) =>
 some (.pan ((⟨(⟨20,at38⟩:Flt)⟩:o7),at39))
def a6N (d9:List Tok)(at2 l5:Int):Rs (Nod×Int) (o7×Int)->Out
 | .ok (a0W,a4s)=>.ret (.agg (c0 a0W.op a0W.s a0W.n a0W.t.kind a0W.t.name a0W.t.n (.sl C9 a0W.t.args) (.sl C9 a0W.ts) (.sl D8 a0W.l) a0W.at_)) (hP p8 d9 a4s l5)
 | .pan (e541,a6f)=>.pan (.iface 80 (.agg [.i e541.fault.code,.i e541.fault.at_])) (hP p8 d9 a6f l5)
def a01 (n:Nat)(Φ:j6)(op1:Int)(A9:List Tok)(at3 G7:Int):Option (Rs (List Nod×Int×Int) (o7×Int)) :=
 (D7 op1 A9 at3 G7).bind fun at5 =>
 A8 (Φ.I8 A9 (w64 (at3+1)) G7) (fun(r6,at7) =>
 some (.ok (([r6]:List Nod),at5,at7))) fun(e8,at9) =>
 some (.pan (e8,at9))
def b3d (op1:Int)(A9:List Tok)(at3 G7:Int):Rs (List Nod×Int×Int) (o7×Int)->Out
 | .ok (l505,a7h,a5u)=>.ret (.agg [.i op1,.str [],.i 0,.i 0,.str [],.i 0,.sl C9 ([]:List Typ),.sl C9 ([]:List Typ),.sf D8 l505,.i a7h]) (hP p8 A9 a5u G7)
 | .pan (e538,c2m)=>.pan (.iface 80 (.agg [.i e538.fault.code,.i e538.fault.at_])) (hP p8 A9 c2m G7)
def j6.fs:Nat->j6
 | 0=>⟨fun _ _ _=>none,fun _ _ _=>none,fun _ _ _=>none,fun _ _ _=>none,fun _ _ _=>none,fun _ _ _=>none,fun _ _ _=>none,fun _ _ _=>none,fun _ _ _=>none,fun _ _ _=>none,fun _ _ _=>none,fun _ _ _ _ _=>none,fun _ _ _=>none,fun _ _ _=>none,fun _ _ _ _=>none⟩
 | n+1=>⟨a2d n (j6.fs n),a0I n (j6.fs n),J4 n (j6.fs n),a2e n (j6.fs n),a2E n (j6.fs n),a2g n (j6.fs n),a1l n (j6.fs n),a0L n (j6.fs n),a2D n (j6.fs n),a1I n (j6.fs n),a1h n (j6.fs n),a5e n (j6.fs n),a0w n (j6.fs n),a2f n (j6.fs n),a01 n (j6.fs n)⟩
def I8 (n:Nat)(d9:List Tok)(at2 l5:Int):Option (Rs (Nod×Int) (o7×Int)):=(j6.fs n).I8 d9 at2 l5
def M8 (n:Nat)(d9:List Tok)(at2 l5:Int):Option (Rs (List Nod×Int) (o7×Int)):=(j6.fs n).M8 d9 at2 l5
def K7 (n:Nat)(d9:List Tok)(at2 l5:Int):Option (Rs (Nod×Int) (o7×Int)):=(j6.fs n).K7 d9 at2 l5
def X5 (n:Nat)(d9:List Tok)(at2 l5:Int):Option (Rs (Nod×Int) (o7×Int)):=(j6.fs n).X5 d9 at2 l5
def G8 (n:Nat)(d9:List Tok)(at2 l5:Int):Option (Rs (Nod×Int) (o7×Int)):=(j6.fs n).G8 d9 at2 l5
def I9 (n:Nat)(d9:List Tok)(at2 l5:Int):Option (Rs (Nod×Int) (o7×Int)):=(j6.fs n).I9 d9 at2 l5
def U0 (n:Nat)(d9:List Tok)(at2 l5:Int):Option (Rs (Nod×Int) (o7×Int)):=(j6.fs n).U0 d9 at2 l5
def V9 (n:Nat)(d9:List Tok)(at2 l5:Int):Option (Rs (Nod×Int) (o7×Int)):=(j6.fs n).V9 d9 at2 l5
def O7 (n:Nat)(d9:List Tok)(at2 l5:Int):Option (Rs (List Nod×Int) (o7×Int)):=(j6.fs n).O7 d9 at2 l5
def V6 (n:Nat)(d9:List Tok)(at2 l5:Int):Option (Rs (Nod×Int) (o7×Int)):=(j6.fs n).V6 d9 at2 l5
def T9 (n:Nat)(d9:List Tok)(at2 l5:Int):Option (Rs (Nod×Int) (o7×Int)):=(j6.fs n).T9 d9 at2 l5
def N9 (n:Nat)(a1e:Nod)(a0d:List J3)(O5:List Tok)(at4 a2M:Int):Option (Rs (Nod×Int) (o7×Int)):=(j6.fs n).N9 a1e a0d O5 at4 a2M
def L9 (n:Nat)(d9:List Tok)(at2 l5:Int):Option (Rs (Nod×Int) (o7×Int)):=(j6.fs n).L9 d9 at2 l5
def X6 (n:Nat)(d9:List Tok)(at2 l5:Int):Option (Rs (Nod×Int) (o7×Int)):=(j6.fs n).X6 d9 at2 l5
def V8 (n:Nat)(op1:Int)(A9:List Tok)(at3 G7:Int):Option (Rs (List Nod×Int×Int) (o7×Int)):=(j6.fs n).V8 op1 A9 at3 G7
def a0T (n:Nat)(d9:List Tok)(at2 l5:Int):Option (Rs (Nod×Int) (o7×Int)) :=
 A8 (a0b n d9 at2 l5) (fun(s4,t5,l6,at7,at8) =>
 A8 (I8 n d9 at8 l5) (fun(r9,at10) =>
 (app 144 l6 ([r9]:List Nod)).bind fun l11 =>
 some (.ok ((⟨7,s4,1,t5,[],l11,at7⟩:Nod),at10))) fun(e12,at13) =>
 some (.pan (e12,at13))) fun(at14,at15) =>
 some (.pan ((⟨(⟨20,at14⟩:Flt)⟩:o7),at15))
def a9y (d9:List Tok)(at2 l5:Int):Rs (Nod×Int) (o7×Int)->Out
 | .ok (a13,a4Y)=>.ret (.agg (c0 a13.op a13.s a13.n a13.t.kind a13.t.name a13.t.n (.sl C9 a13.t.args) (.sl C9 a13.ts) (.sl D8 a13.l) a13.at_)) (hP p8 d9 a4Y l5)
 | .pan (e535,b7D)=>.pan (.iface 80 (.agg [.i e535.fault.code,.i e535.fault.at_])) (hP p8 d9 b7D l5)
def a2S (n:Nat)(l5:Int)(d9:List Tok):Nat->Int ->(List Nod)->Option (Lr (Int×List Nod) (Rs (Nod×Int) (o7×Int)))
  | 0,_,_=>none
  | m8 + 1,a19,b54 =>
      (u6 0 9 [116,121,112,101] d9 a19 l5).bind fun r13 =>
      cond r13 (
      (D7 17 d9 a19 l5).bind fun at14 =>
      A8 (F7 d9 (w64 (a19+1)) l5) (fun r15 =>
      A8 (u7 [61] d9 (w64 ((w64 (a19+1))+1)) l5) (fun at16 =>
      A8 (F3 n d9 at16 l5) (fun(r17,at18) =>
      A8 (u7 [59] d9 at18 l5) (fun at19 =>
      (app 144 b54 ([(⟨17,r15,0,r17,[],[],at14⟩:Nod)]:List Nod)).bind fun l20 =>
      a2S n l5 d9 m8 at19 l20) fun(at21,at22) =>
      some (.out (.pan ((⟨(⟨20,at21⟩:Flt)⟩:o7),at22)))) fun(at23,at24) =>
      some (.out (.pan ((⟨(⟨20,at23⟩:Flt)⟩:o7),at24)))) fun(at25,at26) =>
      some (.out (.pan ((⟨(⟨20,at25⟩:Flt)⟩:o7),at26)))) fun at27 =>
      some (.out (.pan ((⟨(⟨20,at27⟩:Flt)⟩:o7),(w64 (a19+1)))))) (
      some (.brk (a19,b54)))
def a2o (n:Nat)(l5:Int)(d9:List Tok):Nat->Int ->(List Nod)->Option (Lr (Int×List Nod) (Rs (Nod×Int) (o7×Int)))
  | 0,_,_=>none
  | m16 + 1,b0q,l524 =>
      (u6 0 9 [102,117,110,99] d9 b0q l5).bind fun r28 =>
      cond r28 (
      A8 (a0T n d9 b0q l5) (fun(r29,at30) =>
      (app 144 l524 ([r29]:List Nod)).bind fun l31 =>
      a2o n l5 d9 m16 at30 l31) fun(e32,at33) =>
      some (.out (.pan (e32,at33)))) (
      some (.brk (b0q,l524)))
def a2F (n:Nat)(d9:List Tok)(at2 l5:Int):Option (Rs (Nod×Int) (o7×Int)) :=
 (D7 6 d9 at2 l5).bind fun at4 =>
 A8 (G6 [101,120,116,101,110,100] d9 at2 l5) (fun at5 =>
 A8 (F3 n d9 at5 l5) (fun(r6,at7) =>
 A8 (u7 [58] d9 at7 l5) (fun at8 =>
 A8 (F7 d9 at8 l5) (fun r9 =>
 A8 (a1V n d9 (w64 (at8+1)) l5) (fun(r10,at11) =>
 A8 (u7 [123] d9 at11 l5) (fun at12 =>
 M4 (α:=Int×List Nod) (
 a2S n l5 d9 n at12 r10) fun(a8r,l514) =>
 M4 (α:=Int×List Nod) (
 a2o n l5 d9 n a8r l514) fun(b9u,l536) =>
 A8 (u7 [125] d9 b9u l5) (fun at34 =>
 some (.ok ((⟨6,r9,0,r6,[],l536,at4⟩:Nod),at34))) fun(at35,at36) =>
 some (.pan ((⟨(⟨20,at35⟩:Flt)⟩:o7),at36))) fun(at37,at38) =>
 some (.pan ((⟨(⟨20,at37⟩:Flt)⟩:o7),at38))) fun(at39,at40) =>
 some (.pan ((⟨(⟨20,at39⟩:Flt)⟩:o7),at40))) fun at41 =>
 some (.pan ((⟨(⟨20,at41⟩:Flt)⟩:o7),at8))) fun(at42,at43) =>
 some (.pan ((⟨(⟨20,at42⟩:Flt)⟩:o7),at43))) fun(at44,at45) =>
 some (.pan ((⟨(⟨20,at44⟩:Flt)⟩:o7),at45))) fun(at46,at47) =>
 some (.pan ((⟨(⟨20,at46⟩:Flt)⟩:o7),at47))
def a6k (d9:List Tok)(at2 l5:Int):Rs (Nod×Int) (o7×Int)->Out
 | .ok (b0i,b6s)=>.ret (.agg (c0 b0i.op b0i.s b0i.n b0i.t.kind b0i.t.name b0i.t.n (.sl C9 b0i.t.args) (.sl C9 b0i.ts) (.sl D8 b0i.l) b0i.at_)) (hP p8 d9 b6s l5)
 | .pan (e599,at600)=>.pan (.iface 80 (.agg [.i e599.fault.code,.i e599.fault.at_])) (hP p8 d9 at600 l5)
def a2T (n:Nat)(l5:Int)(d9:List Tok):Nat ->(List Nod)->Int->Option (Lr (List Nod×Int) (Rs (List Nod×Int) (o7×Int)))
  | 0,_,_=>none
  | m3 + 1,b6Z,a4r =>
      Option.bind (α:=Bool) (
      (u6 0 9 [108,101,116] d9 a4r l5).bind fun r5 =>
      cond r5 (
      some true) (
      (u6 0 9 [118,97,114] d9 a4r l5).bind fun r6 =>
      some r6)) fun x517 =>
      cond x517 (
      (D7 13 d9 a4r l5).bind fun at7 =>
      Option.bind (α:=Int×Int) (
      (D9 [118,97,114] d9 a4r l5).bind fun(r8,at9) =>
      cond r8 (
      some (at9,1)) (
      some ((w64 (at9+1)),0))) fun(a7i,n519) =>
      A8 (H7 d9 a7i l5) (fun r10 =>
      A8 (u7 [58] d9 (w64 (a7i+1)) l5) (fun at11 =>
      A8 (F3 n d9 at11 l5) (fun(r12,at13) =>
      A8 (u7 [59] d9 at13 l5) (fun at14 =>
      (app 144 b6Z ([(⟨13,r10,n519,r12,[],[],at7⟩:Nod)]:List Nod)).bind fun l15 =>
      a2T n l5 d9 m3 l15 at14) fun(at16,at17) =>
      some (.out (.pan ((⟨(⟨20,at16⟩:Flt)⟩:o7),at17)))) fun(at18,at19) =>
      some (.out (.pan ((⟨(⟨20,at18⟩:Flt)⟩:o7),at19)))) fun(at20,at21) =>
      some (.out (.pan ((⟨(⟨20,at20⟩:Flt)⟩:o7),at21)))) fun at22 =>
      some (.out (.pan ((⟨(⟨20,at22⟩:Flt)⟩:o7),a7i)))) (
      some (.brk (b6Z,a4r)))
def a1v (n:Nat)(d9:List Tok)(at2 l5:Int):Option (Rs (List Nod×Int) (o7×Int)) :=
 A8 (u7 [123] d9 at2 l5) (fun at4 =>
 M4 (α:=List Nod×Int) (
 a2T n l5 d9 n ([]:List Nod) at4) fun(l520,b4m) =>
 (D7 15 d9 b4m l5).bind fun at23 =>
 M4 (α:=List Nod×Int) (
 (D9 [100,101,105,110,105,116] d9 b4m l5).bind fun(r24,at25) =>
 cond r24 (
 A8 (I8 n d9 at25 l5) (fun(r26,at27) =>
 (app 144 l520 ([(⟨15,[],0,(⟨0,[],0,[]⟩:Typ),[],[r26],at23⟩:Nod)]:List Nod)).bind fun l28 =>
 some (.brk (l28,at27))) fun(e29,at30) =>
 some (.out (.pan (e29,at30)))) (
 some (.brk (l520,at25)))) fun(l533,b0r) =>
 A8 (u7 [125] d9 b0r l5) (fun at31 =>
 some (.ok (l533,at31))) fun(at32,at33) =>
 some (.pan ((⟨(⟨20,at32⟩:Flt)⟩:o7),at33))) fun(at34,at35) =>
 some (.pan ((⟨(⟨20,at34⟩:Flt)⟩:o7),at35))
def a6l (d9:List Tok)(at2 l5:Int):Rs (List Nod×Int) (o7×Int)->Out
 | .ok (r522,b0q)=>.ret (.sl D8 r522) (hP p8 d9 b0q l5)
 | .pan (e602,at603)=>.pan (.iface 80 (.agg [.i e602.fault.code,.i e602.fault.at_])) (hP p8 d9 at603 l5)
def a2Q (n:Nat)(l5:Int)(d9:List Tok):Nat ->(List Nod)->Int->Int ->(List Typ)->Option (Lr (List Nod×Int×Int×List Typ) (Rs (List Nod×Int) (Int×Int)))
  | 0,_,_,_,_=>none
  | m11 + 1,l532,c2l,n534,ts535 =>
      (x9 [44] d9 c2l l5).bind fun(r17,at18) =>
      cond r17 (
      A8 (F3 n d9 at18 l5) (fun(r19,at20) =>
      (app 56 ts535 ([r19]:List Typ)).bind fun l21 =>
      a2Q n l5 d9 m11 l532 at20 n534 l21) fun(at22,at23) =>
      some (.out (.pan (at22,at23)))) (
      some (.brk (l532,at18,n534,ts535)))
def a3m (n:Nat)(l5:Int)(d9:List Tok):Nat ->(List Nod)->Int->Option (Lr (List Nod×Int) (Rs (List Nod×Int) (Int×Int)))
  | 0,_,_=>none
  | m3 + 1,l522,b0q =>
      (x9 [125] d9 b0q l5).bind fun(r5,at6) =>
      cond (!r5) (
      (D7 14 d9 at6 l5).bind fun at7 =>
      Option.bind (α:=Int×Int) (
      (D9 [105,110,100,105,114,101,99,116] d9 at6 l5).bind fun(r8,at9) =>
      cond r8 (
      some (at9,1)) (
      some (at9,0))) fun(b9t,n531) =>
      A8 (G6 [99,97,115,101] d9 b9t l5) (fun at10 =>
      A8 (H7 d9 at10 l5) (fun r11 =>
      a3U (α:=List Nod×Int×Int×List Typ) (
      (x9 [40] d9 (w64 (at10+1)) l5).bind fun(r12,at13) =>
      cond r12 (
      A8 (F3 n d9 at13 l5) (fun(r14,at15) =>
      (app 56 ([]:List Typ) ([r14]:List Typ)).bind fun l16 =>
      a3U (α:=List Nod×Int×Int×List Typ) (
      a2Q n l5 d9 n l522 at15 n531 l16) fun(l540,at541,n542,ts543) =>
      A8 (u7 [41] d9 at541 l5) (fun at24 =>
      some (.brk (l540,at24,n542,ts543))) fun(at25,at26) =>
      some (.out (.pan (at25,at26)))) fun(at27,at28) =>
      some (.out (.pan (at27,at28)))) (
      some (.brk (l522,at13,n531,([]:List Typ))))) fun(l544,b44,n546,ts547) =>
      A8 (u7 [59] d9 b44 l5) (fun at29 =>
      (app 144 l544 ([(⟨14,r11,n546,(⟨0,[],0,[]⟩:Typ),ts547,[],at7⟩:Nod)]:List Nod)).bind fun l30 =>
      a3m n l5 d9 m3 l30 at29) fun(at31,at32) =>
      some (.out (.pan (at31,at32)))) fun at33 =>
      some (.out (.pan (at33,at10)))) fun(at34,at35) =>
      some (.out (.pan (at34,at35)))) (
      some (.brk (l522,at6)))
def a3h (n:Nat)(d9:List Tok)(at2 l5:Int):Option (Rs (List Nod×Int) (Int×Int)) :=
 A8 (u7 [123] d9 at2 l5) (fun at4 =>
 M4 (α:=List Nod×Int) (
 a3m n l5 d9 n ([]:List Nod) at4) fun(l548,b4o) =>
 some (.ok (l548,b4o))) fun(at36,at37) =>
 some (.pan (at36,at37))
def a6K (d9:List Tok)(at2 l5:Int):Rs (List Nod×Int) (Int×Int)->Out
 | .ok (r550,c2n)=>.ret (.sl D8 r550) (hP p8 d9 c2n l5)
 | .pan (a7h,a5u)=>.pan (.iface 80 (.agg [.i 20,.i a7h])) (hP p8 d9 a5u l5)
def a0i (n:Nat)(d9:List Tok)(at2 l5:Int):Option (Rs (Nod×Int) (o7×Int)) :=
 (u6 0 9 [112,114,111,116,111,99,111,108] d9 at2 l5).bind fun r4 =>
 cond r4 (
 A8 (a1L n d9 at2 l5) (fun(r5,at6) =>
 some (.ok (r5,at6))) fun(at7,at8) =>
 some (.pan ((⟨(⟨20,at7⟩:Flt)⟩:o7),at8))) (
 (u6 0 9 [101,120,116,101,110,100] d9 at2 l5).bind fun r9 =>
 cond r9 (
 A8 (a2F n d9 at2 l5) (fun(r10,at11) =>
 some (.ok (r10,at11))) fun(e12,at13) =>
 some (.pan (e12,at13))) (
 (u6 0 9 [102,117,110,99] d9 at2 l5).bind fun r14 =>
 cond r14 (
 A8 (a0T n d9 at2 l5) (fun(r15,at16) =>
 some (.ok (r15,at16))) fun(e17,at18) =>
 some (.pan (e17,at18))) (
 (D7 2 d9 at2 l5).bind fun at19 =>
 (D9 [99,108,97,115,115] d9 at2 l5).bind fun(r20,at21) =>
 cond r20 (
 A8 (F7 d9 at21 l5) (fun r22 =>
 A8 (Y0 n d9 (w64 (at21+1)) l5) (fun(r23,at24) =>
 A8 (a1v n d9 at24 l5) (fun(r25,at26) =>
 (app 144 r23 r25).bind fun l27 =>
 some (.ok ((⟨4,r22,0,(⟨0,[],0,[]⟩:Typ),[],l27,at19⟩:Nod),at26))) fun(e28,at29) =>
 some (.pan (e28,at29))) fun(at30,at31) =>
 some (.pan ((⟨(⟨20,at30⟩:Flt)⟩:o7),at31))) fun at32 =>
 some (.pan ((⟨(⟨20,at32⟩:Flt)⟩:o7),at21))) (
 Option.bind (α:=Int×Int) (
 (D9 [109,111,118,101,111,110,108,121] d9 at21 l5).bind fun(r33,at34) =>
 cond r33 (
 some (at34,(w64 (0+1)))) (
 some (at34,0))) fun(c2l,n534) =>
 Option.bind (α:=Int×Int) (
 (D9 [102,114,111,122,101,110] d9 c2l l5).bind fun(r35,at36) =>
 cond r35 (
 some (at36,(w64 (n534+2)))) (
 some (at36,n534))) fun(b9u,b56) =>
 Option.bind (α:=Bool×Int) (
 cond (eqB (IntKind.wrap .i64 ((BitVec.ofInt 64 b56 &&& BitVec.ofInt 64 1).toNat:Nat)) 0) (
 (D9 [101,110,117,109] d9 b9u l5).bind fun(r37,at38) =>
 some (r37,at38)) (
 some (false,b9u))) fun(x537,at538) =>
 cond x537 (
 A8 (F7 d9 at538 l5) (fun r39 =>
 A8 (Y0 n d9 (w64 (at538+1)) l5) (fun(r40,at41) =>
 A8 (a3h n d9 at41 l5) (fun(r42,at43) =>
 (app 144 r40 r42).bind fun l44 =>
 some (.ok ((⟨3,r39,b56,(⟨0,[],0,[]⟩:Typ),[],l44,at19⟩:Nod),at43))) fun(at45,at46) =>
 some (.pan ((⟨(⟨20,at45⟩:Flt)⟩:o7),at46))) fun(at47,at48) =>
 some (.pan ((⟨(⟨20,at47⟩:Flt)⟩:o7),at48))) fun at49 =>
 some (.pan ((⟨(⟨20,at49⟩:Flt)⟩:o7),at538))) (
 A8 (G6 [115,116,114,117,99,116] d9 at538 l5) (fun at50 =>
 A8 (F7 d9 at50 l5) (fun r51 =>
 A8 (Y0 n d9 (w64 (at50+1)) l5) (fun(r52,at53) =>
 A8 (a1v n d9 at53 l5) (fun(r54,at55) =>
 (app 144 r52 r54).bind fun l56 =>
 some (.ok ((⟨2,r51,b56,(⟨0,[],0,[]⟩:Typ),[],l56,at19⟩:Nod),at55))) fun(e57,at58) =>
 some (.pan (e57,at58))) fun(at59,at60) =>
 some (.pan ((⟨(⟨20,at59⟩:Flt)⟩:o7),at60))) fun at61 =>
 some (.pan ((⟨(⟨20,at61⟩:Flt)⟩:o7),at50))) fun(at62,at63) =>
 some (.pan ((⟨(⟨20,at62⟩:Flt)⟩:o7),at63)))))))
def a4J (d9:List Tok)(at2 l5:Int):Rs (Nod×Int) (o7×Int)->Out
 | .ok (a13,a4Y)=>.ret (.agg (c0 a13.op a13.s a13.n a13.t.kind a13.t.name a13.t.n (.sl C9 a13.t.args) (.sl C9 a13.ts) (.sl D8 a13.l) a13.at_)) (hP p8 d9 a4Y l5)
 | .pan (e601,at602)=>.pan (.iface 80 (.agg [.i e601.fault.code,.i e601.fault.at_])) (hP p8 d9 at602 l5)
def a5U (n:Nat)(d9:List Tok)(at2 l5 op4:Int)(s5:Str)(n6 a7l:Int)(a7n:Str)(n9:Int)(a3f ts11:List Typ)(l12:List Nod)(at13:Int)(a5Z a8l:List Typ)(a8m:List Nod):Option (Rs (Int×Nod) (o7×Int)) :=
 A8 (a0i n d9 at2 l5) (fun(r17,at18) =>
 some (.ok (at18,r17))) fun(e19,at20) =>
 some (.pan (e19,at20))
def b30 (d9:List Tok)(at2 l5 op4:Int)(s5:Str)(n6 a7l:Int)(a7n:Str)(n9:Int)(a3f ts11:List Typ)(l12:List Nod)(at13:Int)(a5Z a8l:List Typ)(a8m:List Nod):Rs (Int×Nod) (o7×Int)->Out
 | .ok (a18,b0F)=>.ret (.tuple []) [(0,.row [.sl p8 d9,.i a18,.i l5]),(1,.row [.ptr 0 0]),(2,.row (c0 b0F.op b0F.s b0F.n b0F.t.kind b0F.t.name b0F.t.n (.sl C9 b0F.t.args) (.sl C9 b0F.ts) (.sl D8 b0F.l) b0F.at_)),(3,.tip (tpe 4 (List.length a5Z)) (List.length a5Z)),(4,.tip (tpe 4 (List.length a8l)) (List.length a8l)),(5,.tip (tpe 10 (List.length a8m)) (List.length a8m))]
 | .pan (e541,a6f)=>.pan (.iface 80 (.agg [.i e541.fault.code,.i e541.fault.at_])) [(0,.row [.sl p8 d9,.i a6f,.i l5]),(1,.row [.ptr 0 0]),(2,.row (c0 op4 s5 n6 a7l a7n n9 (.sl C9 a3f) (.sl C9 ts11) (.sl D8 l12) at13)),(3,.tip (tpe 4 (List.length a5Z)) (List.length a5Z)),(4,.tip (tpe 4 (List.length a8l)) (List.length a8l)),(5,.tip (tpe 10 (List.length a8m)) (List.length a8m))]
def a3B (n:Nat)(d9:List Tok)(at2 l5 op4:Int)(s5:Str)(n6 a7l:Int)(a7n:Str)(n9:Int)(a3f ts11:List Typ)(l12:List Nod)(at13:Int):Option (Flt×Int×Nod) :=
 A8 (a5U n d9 at2 l5 op4 s5 n6 a7l a7n n9 a3f ts11 l12 at13 a3f ts11 l12) (fun(at14,n15) =>
 some ((⟨0,0⟩:Flt),at14,n15)) fun(e16,at17) =>
 some (e16.fault,at17,(⟨op4,s5,n6,(⟨a7l,a7n,n9,a3f⟩:Typ),ts11,l12,at13⟩:Nod))
def b0b (d9:List Tok)(at2 l5 op4:Int)(s5:Str)(n6 a7l:Int)(a7n:Str)(n9:Int)(a3f ts11:List Typ)(l12:List Nod)(at13:Int):Flt×Int×Nod->Out
 |(r503,a5C,b61)=>.ret (.agg [.i r503.code,.i r503.at_]) [(0,.row [.sl p8 d9,.i a5C,.i l5]),(1,.row [.ptr 0 0]),(2,.row (c0 b61.op b61.s b61.n b61.t.kind b61.t.name b61.t.n (.sl C9 b61.t.args) (.sl C9 b61.ts) (.sl D8 b61.l) b61.at_)),(3,.tip (tpe 4 (List.length a3f)) (List.length a3f)),(4,.tip (tpe 4 (List.length ts11)) (List.length ts11)),(5,.tip (tpe 10 (List.length l12)) (List.length l12))]
def S9 (n:Nat)(A9:List Tok):Nat->Int->Int->Int->Option (Lr (Int) (Int))
  | 0,_,_,_=>none
  | m4 + 1,b7m,i513,a6e =>
      cond (ltB i513 (List.length A9:Int)) (
      a3U (α:=Int) (
      (idx' A9 i513).bind fun x5 =>
      Option.bind (α:=Bool) (
      cond (leB a6e i513) (
      cond (leB b7m 0) (
      cond (eqB x5.kind 9) (
      (R7 n ([[115,116,114,117,99,116],[101,110,117,109],[99,108,97,115,115],[112,114,111,116,111,99,111,108],[101,120,116,101,110,100],[102,117,110,99],[109,111,118,101,111,110,108,121],[102,114,111,122,101,110]]:List Str) x5.text).bind fun r6 =>
      some r6) (
      some false)) (
      some false)) (
      some false)) fun x515 =>
      cond x515 (
      some (.out (i513))) (
      Option.bind (α:=Bool) (
      cond (eqB x5.kind 8) (
      some (eqS x5.text [123])) (
      some false)) fun x516 =>
      cond x516 (
      some (.brk (w64 (b7m+1)))) (
      Option.bind (α:=Bool) (
      cond (eqB x5.kind 8) (
      some (eqS x5.text [125])) (
      some false)) fun x517 =>
      cond x517 (
      some (.brk (w64 (b7m-1)))) (
      some (.brk b7m))))) fun open518 =>
      S9 n A9 m4 open518 (w64 (i513+1)) a6e) (
      some (.brk a6e))
def a2G (n:Nat)(a9q:Int)(A9:List Tok)(at3 G7:Int):Option (Int) :=
 Option.bind (α:=Int) (
 cond (eqB at3 a9q) (
 some (w64 (at3+1))) (
 some at3)) fun a4r =>
 M4 (α:=Int) (
 S9 n A9 n 0 a9q a4r) fun b7C =>
 some ((List.length A9:Int))
def a6n (a9q:Int)(A9:List Tok)(at3 G7:Int):Int->Out
 | a4Y=>.ret (.tuple []) (hP p8 A9 a4Y G7)
structure Q8 where
 a2w:Nod->Option (Int×Int)
def a5I (n:Nat)(Φ:Q8)(n1:Nod):Nat->Int->Int->Int->Option (Int×Int)
  | 0,_,_,_=>none
  | m3 + 1,b27,c2C,x503 =>
      cond (ltB x503 (List.length n1.l:Int)) (
      (idx' n1.l x503).bind fun x2 =>
      (Φ.a2w x2).bind fun(r3,r4) =>
      a5I n Φ n1 m3 (w64 (b27+r3)) (max c2C r4) (w64 (x503+1))) (
      some (b27,c2C))
def a6J (n:Nat)(Φ:Q8)(n1:Nod):Option (Int×Int) :=
 Option.bind (α:=Int×Int) (
 a5I n Φ n1 n 1 0 0) fun(b8f,depth511) =>
 some ((b8f,(w64 (depth511+1))))
def b29 (n1:Nod):Int×Int->Out
 |(a9z,a8G)=>.ret (.tuple [.i a9z,.i a8G]) []
def Q8.fs:Nat->Q8
 | 0=>⟨fun _=>none⟩
 | n+1=>⟨a6J n (Q8.fs n)⟩
def a2w (n:Nat)(n1:Nod):Option (Int×Int):=(Q8.fs n).a2w n1
noncomputable def a0D (n:Nat)(U8:Str)(O5:List Tok):Nat->Int ->(List Flt) ->(List Nod)->Int->Option (List Flt×List Nod)
  | 0,_,_,_,_=>none
  | m7 + 1,b3t,a8O,l517,a7i =>
      Option.bind (α:=Bool) (
      cond (ltB a7i (List.length O5:Int)) (
      some (ltB (List.length a8O:Int) 20)) (
      some false)) fun x525 =>
      cond x525 (
      (a0P O5 a7i (List.length U8:Int)).bind fun r4 =>
      (a3B n O5 a7i (List.length U8:Int) 0 [] 0 0 [] 0 ([]:List Typ) ([]:List Typ) ([]:List Nod) 0).bind fun(r5,at6,n7) =>
      cond (!((eqB r5.code 0)&&((eqB r5.at_ 0)&&true))) (
      (app 16 a8O ([r5]:List Flt)).bind fun l8 =>
      (a2G n a7i O5 at6 (List.length U8:Int)).bind fun at9 =>
      a0D n U8 O5 m7 b3t l8 l517 at9) (
      (a2w n n7).bind fun(r10,r11) =>
      cond (ltB 40 (w64 (1+r11))) (
      (app 16 a8O ([(⟨21,r4⟩:Flt)]:List Flt)).bind fun l12 =>
      a0D n U8 O5 m7 b3t l12 l517 at6) (
      cond (ltB 4000 (w64 (b3t+r10))) (
      (app 16 a8O ([(⟨2,r4⟩:Flt)]:List Flt)).bind fun l13 =>
      a0D n U8 O5 m7 b3t l13 l517 at6) (
      (app 144 l517 ([n7]:List Nod)).bind fun l14 =>
      a0D n U8 O5 m7 (w64 (b3t+r10)) a8O l14 at6)))) (
      some (a8O,l517))
noncomputable def a6I (n:Nat)(U8:Str):Option (Nod×List Flt) :=
 (a9P U8).bind fun(r2,O5) =>
 cond (!((eqB r2.code 0)&&((eqB r2.at_ 0)&&true))) (
 some (((⟨0,[],0,(⟨0,[],0,[]⟩:Typ),[],[],0⟩:Nod),([r2]:List Flt)))) (
 Option.bind (α:=List Flt×List Nod) (
 a0D n U8 O5 n 1 ([]:List Flt) ([]:List Nod) 0) fun(c7t,l531) =>
 some (((⟨1,[],0,(⟨0,[],0,[]⟩:Typ),[],l531,0⟩:Nod),c7t)))
def b0I (U8:Str):Nod×List Flt->Out
 |(r532,r533)=>.ret (.tuple [.agg (c0 r532.op r532.s r532.n r532.t.kind r532.t.name r532.t.n (.sl C9 r532.t.args) (.sl C9 r532.ts) (.sl D8 r532.l) r532.at_),.sl a5D r533]) []
def E5 (l1:List Tok)(o9 at3 o5:Int):Option (Int) :=
 cond (ltB at3 (List.length l1:Int)) (
 (idx' l1 at3).bind fun x5 =>
 some (x5.at_)) (
 some (o9))
def b05 (l1:List Tok)(o9 at3 o5:Int):Int->Out
 | V5=>.ret (.i V5) (hR p8 l1 o9 at3 o5)
def C8 (a0O:Int)(a8g:Str)(l3:List Tok)(b2d at5 a4Q:Int):Option (Bool) :=
 cond (ltB at5 (List.length l3:Int)) (
 (idx' l3 at5).bind fun x7 =>
 cond (eqB x7.kind a0O) (
 (idx' l3 at5).bind fun x8 =>
 some ((eqS x8.text a8g))) (
 some (false))) (
 some (false))
def b2F (a0O:Int)(a8g:Str)(l3:List Tok)(b2d at5 a4Q:Int):Bool->Out
 | V5=>.ret (.bool V5) (hR p8 l3 b2d at5 a4Q)
def a2r (a0O:Int)(a8g:Str)(l3:List Tok)(b2d at5 a4Q:Int):Option (Bool×Int) :=
 (C8 a0O a8g l3 b2d at5 a4Q).bind fun r7 =>
 cond r7 (
 some ((true,(w64 (at5+1))))) (
 some ((false,at5)))
def b2L (a0O:Int)(a8g:Str)(l3:List Tok)(b2d at5 a4Q:Int):Bool×Int->Out
 |(V5,a0N)=>.ret (.bool V5) (hR p8 l3 b2d a0N a4Q)
def w9 (s1:Str)(l2:List Tok)(z8 at4 o8:Int):Option (Bool×Int) :=
 (a2r 9 s1 l2 z8 at4 o8).bind fun(r6,at7) =>
 some ((r6,at7))
def b3l (s1:Str)(l2:List Tok)(z8 at4 o8:Int):Bool×Int->Out
 |(V5,a0N)=>.ret (.bool V5) (hR p8 l2 z8 a0N o8)
def Q7 (a0O:Int)(l2:List Tok)(z8 at4 o8:Int):Option (Bool) :=
 cond (ltB at4 (List.length l2:Int)) (
 (idx' l2 at4).bind fun x6 =>
 some ((eqB x6.kind a0O))) (
 some (false))
def b04 (a0O:Int)(l2:List Tok)(z8 at4 o8:Int):Bool->Out
 | V5=>.ret (.bool V5) (hR p8 l2 z8 at4 o8)
def q9 (a0O:Int)(l2:List Tok)(z8 at4 o8:Int):Option (Str×Bool×Int) :=
 (Q7 a0O l2 z8 at4 o8).bind fun r6 =>
 cond r6 (
 (idx' l2 at4).bind fun x7 =>
 some ((x7.text,true,(w64 (at4+1))))) (
 some (([],false,at4)))
def b2M (a0O:Int)(l2:List Tok)(z8 at4 o8:Int):Str×Bool×Int->Out
 |(V5,b65,a18)=>.ret (.tuple [.str V5,.bool b65]) (hR p8 l2 z8 a18 o8)
def o6 (s1:Str)(l2:List Tok)(z8 at4 o8:Int):Option (Bool×Int) :=
 (a2r 8 s1 l2 z8 at4 o8).bind fun(r6,at7) =>
 some ((r6,at7))
def b2K (s1:Str)(l2:List Tok)(z8 at4 o8:Int):Bool×Int->Out
 |(V5,a0N)=>.ret (.bool V5) (hR p8 l2 z8 a0N o8)
def a1n (n:Nat)(o9:Int)(l1:List Tok)(o5:Int):Nat ->(List Nod)->Bool->Int->Option (Lr (List Nod×Int) (List Nod×Bool×Int))
  | 0,_,_,_=>none
  | m5 + 1,l501,more502,a18 =>
      cond more502 (
      (E5 l1 o9 a18 o5).bind fun r7 =>
      (q9 2 l1 o9 a18 o5).bind fun(r8,r9,at10) =>
      cond (!r9) (
      some (.out ((l501,false,at10)))) (
      (app 144 l501 ([(⟨9,r8,0,(⟨0,[],0,[]⟩:Typ),[],[],r7⟩:Nod)]:List Nod)).bind fun l11 =>
      (o6 [38] l1 o9 at10 o5).bind fun(r12,at13) =>
      a1n n o9 l1 o5 m5 l11 r12 at13)) (
      some (.brk (l501,a18)))
def a1w (n:Nat)(l1:List Tok)(o9 at3 o5:Int):Option (List Nod×Bool×Int) :=
 (o6 [58] l1 o9 at3 o5).bind fun(r5,at6) =>
 cond (!r5) (
 some ((([]:List Nod),true,at6))) (
 M4 (α:=List Nod×Int) (
 a1n n o9 l1 o5 n ([]:List Nod) true at6) fun(l509,a4Y) =>
 some ((l509,true,a4Y)))
def a6q (l1:List Tok)(o9 at3 o5:Int):List Nod×Bool×Int->Out
 |(a0W,a9z,a8r)=>.ret (.tuple [.sl D8 a0W,.bool a9z]) (hR p8 l1 o9 a8r o5)
def a0X (n:Nat)(z8:Int)(l2:List Tok)(o8:Int):Nat ->(List Nod)->Bool->Int->Option (Lr (List Nod×Int) (List Nod×Bool×Int))
  | 0,_,_,_=>none
  | m4 + 1,b7Z,c08,a19 =>
      cond c08 (
      (E5 l2 z8 a19 o8).bind fun r8 =>
      (q9 2 l2 z8 a19 o8).bind fun(r9,r10,at11) =>
      cond (!r10) (
      some (.out ((b7Z,false,at11)))) (
      (a1w n l2 z8 at11 o8).bind fun(r12,r13,at14) =>
      cond (!r13) (
      some (.out ((b7Z,false,at14)))) (
      (app 144 b7Z ([(⟨8,r9,0,(⟨0,[],0,[]⟩:Typ),[],r12,r8⟩:Nod)]:List Nod)).bind fun l15 =>
      (o6 [44] l2 z8 at14 o8).bind fun(r16,at17) =>
      a0X n z8 l2 o8 m4 l15 r16 at17))) (
      some (.brk (b7Z,a19)))
def a0o (n:Nat)(l1:List Nod)(l2:List Tok)(z8 at4 o8:Int):Option (List Nod×Bool×Int) :=
 (o6 [60] l2 z8 at4 o8).bind fun(r6,at7) =>
 cond (!r6) (
 some ((l1,true,at7))) (
 M4 (α:=List Nod×Int) (
 a0X n z8 l2 o8 n l1 true at7) fun(b5e,a4s) =>
 (o6 [62] l2 z8 a4s o8).bind fun(r18,at19) =>
 some ((b5e,r18,at19)))
def a5y (l1:List Nod)(l2:List Tok)(z8 at4 o8:Int):List Nod×Bool×Int->Out
 |(a8G,r514,b4l)=>.ret (.tuple [.st 1 D8 a8G,.bool r514]) [(0,.row [.sl p8 l2,.i z8,.i b4l,.i o8]),(1,.tip (tpe 10 (List.length a8G)) (List.length a8G))]
structure p9 where
 F6:(List Tok)->Int->Int->Int->Option (Typ×Bool×Int)
 Q0:(List Tok)->Int->Int->Int->Option (Typ×Bool×Int)
 O0:(List Tok)->Int->Int->Int->Option (List Typ×Bool×Int)
def U3 (n:Nat)(Φ:p9)(o9:Int)(l1:List Tok)(o5:Int):Nat->Bool->Int->Typ->Option (Bool×Int×Typ)
  | 0,_,_,_=>none
  | m18 + 1,ok559,b2R,n561 =>
      Option.bind (α:=Bool×Int) (
      cond ok559 (
      (o6 [46] l1 o9 b2R o5).bind fun(r28,at29) =>
      some (r28,at29)) (
      some (false,b2R))) fun(x573,at574) =>
      cond x573 (
      (q9 2 l1 o9 at574 o5).bind fun(r30,r31,at32) =>
      U3 n Φ o9 l1 o5 m18 r31 at32 (⟨8,r30,0,[n561]⟩:Typ)) (
      some (ok559,at574,n561))
def a3j (n:Nat)(Φ:p9)(l1:List Tok)(o9 at3 o5:Int):Option (Typ×Bool×Int) :=
 (w9 [97,110,121] l1 o9 at3 o5).bind fun(r5,at6) =>
 cond r5 (
 (q9 2 l1 o9 at6 o5).bind fun(r7,r8,at9) =>
 some (((⟨9,r7,0,[]⟩:Typ),r8,at9))) (
 (o6 [40] l1 o9 at6 o5).bind fun(r10,at11) =>
 cond r10 (
 M4 (α:=Int×List Typ) (
 (o6 [41] l1 o9 at11 o5).bind fun(r12,at13) =>
 cond (!r12) (
 (Φ.O0 l1 o9 at13 o5).bind fun(r14,r15,at16) =>
 Option.bind (α:=Bool×Int) (
 cond (!r15) (
 some (true,at16)) (
 (o6 [41] l1 o9 at16 o5).bind fun(r17,at18) =>
 some ((!r17),at18))) fun(x511,a4s) =>
 cond x511 (
 some (.out (((⟨10,[],0,[]⟩:Typ),false,a4s)))) (
 some (.brk (a4s,r14)))) (
 some (.brk (at13,([]:List Typ))))) fun(a7i,c6j) =>
 (o6 [45,62] l1 o9 a7i o5).bind fun(r19,at20) =>
 cond (!r19) (
 some (((⟨10,[],0,c6j⟩:Typ),false,at20))) (
 (Φ.F6 l1 o9 at20 o5).bind fun(r21,r22,at23) =>
 (app 56 c6j ([r21]:List Typ)).bind fun l24 =>
 some (((⟨10,[],0,l24⟩:Typ),r22,at23)))) (
 (Φ.Q0 l1 o9 at11 o5).bind fun(r25,r26,at27) =>
 Option.bind (α:=Bool×Int×Typ) (
 U3 n Φ o9 l1 o5 n r26 at27 r25) fun(ok578,at579,n580) =>
 some ((n580,ok578,at579))))
def a8c (l1:List Tok)(o9 at3 o5:Int):Typ×Bool×Int->Out
 |(b65,r503,a5C)=>.ret (.tuple [.agg [.i b65.kind,.str b65.name,.i b65.n,.sl C9 b65.args],.bool r503]) (hR p8 l1 o9 a5C o5)
def a0m (n:Nat)(Φ:p9)(l1:List Tok)(o9 at3 o5:Int):Option (Typ×Bool×Int) :=
 (q9 2 l1 o9 at3 o5).bind fun(r5,r6,at7) =>
 cond (!r6) (
 some (((⟨0,[],0,[]⟩:Typ),false,at7))) (
 M4 (α:=List Typ×Int) (
 (o6 [60] l1 o9 at7 o5).bind fun(r8,at9) =>
 cond r8 (
 (Φ.O0 l1 o9 at9 o5).bind fun(r10,r11,at12) =>
 Option.bind (α:=Bool×Int) (
 cond (!r11) (
 some (true,at12)) (
 (o6 [62] l1 o9 at12 o5).bind fun(r13,at14) =>
 some ((!r13),at14))) fun(x512,a8r) =>
 cond x512 (
 some (.out (((⟨0,[],0,[]⟩:Typ),false,a8r)))) (
 some (.brk (r10,a8r)))) (
 some (.brk (([]:List Typ),at9)))) fun(l553,b45) =>
 Option.bind (α:=Int) (
 Option.bind (α:=Bool) (
 cond (eqB (List.length l553:Int) 0) (
 some (eqS r5 [73,110,116])) (
 some false)) fun x555 =>
 cond x555 (
 some 1) (
 Option.bind (α:=Bool) (
 cond (eqB (List.length l553:Int) 0) (
 some (eqS r5 [66,111,111,108])) (
 some false)) fun x556 =>
 cond x556 (
 some 2) (
 Option.bind (α:=Bool) (
 cond (eqB (List.length l553:Int) 0) (
 some (eqS r5 [84,101,120,116])) (
 some false)) fun x557 =>
 cond x557 (
 some 3) (
 Option.bind (α:=Bool) (
 cond (eqB (List.length l553:Int) 0) (
 some (eqS r5 [85,110,105,116])) (
 some false)) fun x558 =>
 cond x558 (
 some 4) (
 Option.bind (α:=Bool) (
 cond (eqB (List.length l553:Int) 1) (
 some (eqS r5 [65,114,114,97,121])) (
 some false)) fun x559 =>
 cond x559 (
 some 5) (
 Option.bind (α:=Bool) (
 cond (eqB (List.length l553:Int) 1) (
 some (eqS r5 [87,101,97,107])) (
 some false)) fun x560 =>
 cond x560 (
 some 11) (
 some 6))))))) fun c6H =>
 Option.bind (α:=Str) (
 cond (!eqB c6H 6) (
 some []) (
 some r5)) fun s562 =>
 some (((⟨c6H,s562,0,l553⟩:Typ),true,b45)))
def a7t (l1:List Tok)(o9 at3 o5:Int):Typ×Bool×Int->Out
 |(r548,r549,at550)=>.ret (.tuple [.agg [.i r548.kind,.str r548.name,.i r548.n,.sl C9 r548.args],.bool r549]) (hR p8 l1 o9 at550 o5)
def N7 (n:Nat)(Φ:p9)(o9:Int)(l1:List Tok)(o5:Int):Nat ->(List Typ)->Bool->Int->Option (Lr (List Typ×Int) (List Typ×Bool×Int))
  | 0,_,_,_=>none
  | m3 + 1,b7Z,c08,a19 =>
      cond c08 (
      (Φ.F6 l1 o9 a19 o5).bind fun(r5,r6,at7) =>
      cond (!r6) (
      some (.out ((b7Z,false,at7)))) (
      (app 56 b7Z ([r5]:List Typ)).bind fun l8 =>
      (o6 [44] l1 o9 at7 o5).bind fun(r9,at10) =>
      N7 n Φ o9 l1 o5 m3 l8 r9 at10)) (
      some (.brk (b7Z,a19)))
def U4 (n:Nat)(Φ:p9)(l1:List Tok)(o9 at3 o5:Int):Option (List Typ×Bool×Int) :=
 M4 (α:=List Typ×Int) (
 N7 n Φ o9 l1 o5 n ([]:List Typ) true at3) fun(b6Z,a4r) =>
 some ((b6Z,true,a4r))
def a7a (l1:List Tok)(o9 at3 o5:Int):List Typ×Bool×Int->Out
 |(a9z,a8G,a6e)=>.ret (.tuple [.st 1 C9 a9z,.bool a8G]) [(0,.row [.sl p8 l1,.i o9,.i a6e,.i o5]),(1,.tip (tpe 4 (List.length a9z)) (List.length a9z))]
def p9.fs:Nat->p9
 | 0=>⟨fun _ _ _ _=>none,fun _ _ _ _=>none,fun _ _ _ _=>none⟩
 | n+1=>⟨a3j n (p9.fs n),a0m n (p9.fs n),U4 n (p9.fs n)⟩
def F6 (n:Nat)(l1:List Tok)(o9 at3 o5:Int):Option (Typ×Bool×Int):=(p9.fs n).F6 l1 o9 at3 o5
def Q0 (n:Nat)(l1:List Tok)(o9 at3 o5:Int):Option (Typ×Bool×Int):=(p9.fs n).Q0 l1 o9 at3 o5
def O0 (n:Nat)(l1:List Tok)(o9 at3 o5:Int):Option (List Typ×Bool×Int):=(p9.fs n).O0 l1 o9 at3 o5
def a6W:Option (Unit) :=
 some (())
def b6i:Unit->Out
 | _=>.ret (.slice .sealed (List.length ([[[124,124]],[[38,38]],[[61,61],[33,61],[60],[60,61],[62],[62,61]],[[43],[45]],[[42],[47],[37]]]:List (List Str))) ((clSl clS) ([[[124,124]],[[38,38]],[[61,61],[33,61],[60],[60,61],[62],[62,61]],[[43],[45]],[[42],[47],[37]]]:List (List Str)))) []
def a3r (n:Nat)(s1:Str):Nat->Int->Int->Option (Int)
  | 0,_,_=>none
  | m3 + 1,n501,i502 =>
      cond (ltB i502 (List.length s1:Int)) (
      (idxS s1 i502).bind fun b2 =>
      a3r n s1 m3 (w64 ((w64 (n501*10))+(w64 (IntKind.wrap .u8 (b2-48))))) (w64 (i502+1))) (
      some n501)
def a1m (n:Nat)(s1:Str):Option (Int) :=
 Option.bind (α:=Int) (
 a3r n s1 n 0 0) fun n507 =>
 some (n507)
def b0Y (s1:Str):Int->Out
 | b0j=>.ret (.i b0j) []
def Z7 (n:Nat)(o9:Int)(l1:List Tok)(o5 r5:Int):Nat->Bool->Int->Int->Str ->(List Nod)->Option (Bool×Int×Int×Str×List Nod)
  | 0,_,_,_,_,_=>none
  | m4 + 1,ok503,a5C,op505,s506,l507 =>
      Option.bind (α:=Bool×Int) (
      cond ok503 (
      (o6 [46] l1 o9 a5C o5).bind fun(r9,at10) =>
      some (r9,at10)) (
      some (false,a5C))) fun(x517,a7i) =>
      cond x517 (
      (q9 1 l1 o9 a7i o5).bind fun(r11,r12,at13) =>
      Z7 n o9 l1 o5 r5 m4 r12 at13 55 r11 ([(⟨op505,s506,0,(⟨0,[],0,[]⟩:Typ),[],l507,r5⟩:Nod)]:List Nod)) (
      some (ok503,a7i,op505,s506,l507))
def a1q (n:Nat)(l1:List Tok)(o9 at3 o5:Int):Option (Nod×Bool×Int) :=
 (E5 l1 o9 at3 o5).bind fun r5 =>
 (q9 1 l1 o9 at3 o5).bind fun(r6,r7,at8) =>
 Option.bind (α:=Bool×Int×Int×Str×List Nod) (
 Z7 n o9 l1 o5 r5 n r7 at8 54 r6 ([]:List Nod)) fun(ok524,b4n,op526,s527,l528) =>
 some (((⟨op526,s527,0,(⟨0,[],0,[]⟩:Typ),[],l528,r5⟩:Nod),ok524,b4n))
def a7v (l1:List Tok)(o9 at3 o5:Int):Nod×Bool×Int->Out
 |(a13,a7D,a4r)=>.ret (.tuple [.agg (c0 a13.op a13.s a13.n a13.t.kind a13.t.name a13.t.n (.sl C9 a13.t.args) (.sl C9 a13.ts) (.sl D8 a13.l) a13.at_),.bool a7D]) (hR p8 l1 o9 a4r o5)
def a0G (n:Nat)(z8:Int)(l2:List Tok)(o8:Int):Nat ->(List Nod)->Bool->Int->Option (Lr (List Nod×Int) (List Nod×Bool×Int))
  | 0,_,_,_=>none
  | m4 + 1,b5e,more512,a8r =>
      cond more512 (
      (E5 l2 z8 a8r o8).bind fun r8 =>
      Option.bind (α:=Int×Int) (
      (w9 [105,110,111,117,116] l2 z8 a8r o8).bind fun(r9,at10) =>
      cond r9 (
      some (at10,1)) (
      (w9 [99,111,110,115,117,109,101] l2 z8 at10 o8).bind fun(r11,at12) =>
      cond r11 (
      some (at12,2)) (
      some (at12,0)))) fun(at519,n520) =>
      (q9 1 l2 z8 at519 o8).bind fun(r13,r14,at15) =>
      Option.bind (α:=Bool×Int) (
      cond (!r14) (
      some (true,at15)) (
      (o6 [58] l2 z8 at15 o8).bind fun(r16,at17) =>
      some ((!r16),at17))) fun(x521,b7C) =>
      cond x521 (
      some (.out ((b5e,false,b7C)))) (
      (F6 n l2 z8 b7C o8).bind fun(r18,r19,at20) =>
      cond (!r19) (
      some (.out ((b5e,false,at20)))) (
      (app 144 b5e ([(⟨10,r13,n520,r18,[],[],r8⟩:Nod)]:List Nod)).bind fun l21 =>
      (o6 [44] l2 z8 at20 o8).bind fun(r22,at23) =>
      a0G n z8 l2 o8 m4 l21 r22 at23))) (
      some (.brk (b5e,a8r)))
def a0n (n:Nat)(l1:List Nod)(l2:List Tok)(z8 at4 o8:Int):Option (List Nod×Bool×Int) :=
 (o6 [41] l2 z8 at4 o8).bind fun(r6,at7) =>
 cond r6 (
 some ((l1,true,at7))) (
 M4 (α:=List Nod×Int) (
 a0G n z8 l2 o8 n l1 true at7) fun(l523,a9B) =>
 (o6 [41] l2 z8 a9B o8).bind fun(r24,at25) =>
 some ((l523,r24,at25)))
def a6s (l1:List Nod)(l2:List Tok)(z8 at4 o8:Int):List Nod×Bool×Int->Out
 |(r525,r526,at527)=>.ret (.tuple [.st 1 D8 r525,.bool r526]) [(0,.row [.sl p8 l2,.i z8,.i at527,.i o8]),(1,.tip (tpe 10 (List.length r525)) (List.length r525))]
structure G5 where
 L8:(List Tok)->Int->Int->Int->Option (Nod×Bool×Int)
def a0k (n:Nat)(Φ:G5)(o9:Int)(l1:List Tok)(o5:Int)(r28:Str)(r5:Int):Nat ->(List Nod)->Bool->Int->Option (Lr (List Nod×Int) (Nod×Bool×Int))
  | 0,_,_,_=>none
  | m37 + 1,l504,more505,a7h =>
      cond more505 (
      (Φ.L8 l1 o9 a7h o5).bind fun(r33,r34,at35) =>
      cond (!r34) (
      some (.out (((⟨45,r28,0,(⟨0,[],0,[]⟩:Typ),[],[],r5⟩:Nod),false,at35)))) (
      (app 144 l504 ([r33]:List Nod)).bind fun l36 =>
      (o6 [44] l1 o9 at35 o5).bind fun(r37,at38) =>
      a0k n Φ o9 l1 o5 r28 r5 m37 l36 r37 at38)) (
      some (.brk (l504,a7h)))
def a1s (n:Nat)(Φ:G5)(l1:List Tok)(o9 at3 o5:Int):Option (Nod×Bool×Int) :=
 (E5 l1 o9 at3 o5).bind fun r5 =>
 (q9 1 l1 o9 at3 o5).bind fun(r6,r7,at8) =>
 cond r7 (
 cond (eqS r6 [95]) (
 some (((⟨40,[],0,(⟨0,[],0,[]⟩:Typ),[],[],r5⟩:Nod),true,at8))) (
 some (((⟨41,r6,0,(⟨0,[],0,[]⟩:Typ),[],[],r5⟩:Nod),true,at8)))) (
 (q9 3 l1 o9 at8 o5).bind fun(r9,r10,at11) =>
 cond r10 (
 (a1m n r9).bind fun r12 =>
 some (((⟨42,[],r12,(⟨0,[],0,[]⟩:Typ),[],[],r5⟩:Nod),true,at11))) (
 (o6 [45] l1 o9 at11 o5).bind fun(r13,at14) =>
 cond r13 (
 (q9 3 l1 o9 at14 o5).bind fun(r15,r16,at17) =>
 (a1m n r15).bind fun r18 =>
 some (((⟨42,[],(w64 (0-r18)),(⟨0,[],0,[]⟩:Typ),[],[],r5⟩:Nod),r16,at17))) (
 (q9 4 l1 o9 at14 o5).bind fun(r19,r20,at21) =>
 cond r20 (
 some (((⟨44,r19,0,(⟨0,[],0,[]⟩:Typ),[],[],r5⟩:Nod),true,at21))) (
 (w9 [116,114,117,101] l1 o9 at21 o5).bind fun(r22,at23) =>
 cond r22 (
 some (((⟨43,[],1,(⟨0,[],0,[]⟩:Typ),[],[],r5⟩:Nod),true,at23))) (
 (w9 [102,97,108,115,101] l1 o9 at23 o5).bind fun(r24,at25) =>
 cond r24 (
 some (((⟨43,[],0,(⟨0,[],0,[]⟩:Typ),[],[],r5⟩:Nod),true,at25))) (
 (o6 [46] l1 o9 at25 o5).bind fun(r26,at27) =>
 cond (!r26) (
 some (((⟨0,[],0,(⟨0,[],0,[]⟩:Typ),[],[],r5⟩:Nod),false,at27))) (
 (q9 1 l1 o9 at27 o5).bind fun(r28,r29,at30) =>
 cond (!r29) (
 some (((⟨0,[],0,(⟨0,[],0,[]⟩:Typ),[],[],r5⟩:Nod),false,at30))) (
 (o6 [40] l1 o9 at30 o5).bind fun(r31,at32) =>
 cond (!r31) (
 some (((⟨45,r28,0,(⟨0,[],0,[]⟩:Typ),[],[],r5⟩:Nod),true,at32))) (
 M4 (α:=List Nod×Int) (
 a0k n Φ o9 l1 o5 r28 r5 n ([]:List Nod) true at32) fun(l513,a6e) =>
 (o6 [41] l1 o9 a6e o5).bind fun(r39,at40) =>
 some (((⟨45,r28,0,(⟨0,[],0,[]⟩:Typ),[],l513,r5⟩:Nod),r39,at40)))))))))))
def a5O (l1:List Tok)(o9 at3 o5:Int):Nod×Bool×Int->Out
 |(V5,b65,a18)=>.ret (.tuple [.agg (c0 V5.op V5.s V5.n V5.t.kind V5.t.name V5.t.n (.sl C9 V5.t.args) (.sl C9 V5.ts) (.sl D8 V5.l) V5.at_),.bool b65]) (hR p8 l1 o9 a18 o5)
def G5.fs:Nat->G5
 | 0=>⟨fun _ _ _ _=>none⟩
 | n+1=>⟨a1s n (G5.fs n)⟩
def L8 (n:Nat)(l1:List Tok)(o9 at3 o5:Int):Option (Nod×Bool×Int):=(G5.fs n).L8 l1 o9 at3 o5
def a4p (n:Nat):Nat->Nod->Option (Nod)
  | 0,_=>none
  | m1 + 1,n502 =>
      Option.bind (α:=Bool) (
      cond (eqB n502.op 55) (
      some (eqB (List.length n502.l:Int) 1)) (
      some false)) fun x504 =>
      cond x504 (
      (idx' n502.l 0).bind fun x2 =>
      a4p n m1 x2) (
      some n502)
def a8a (n:Nat)(n1:Nod):Option (Bool) :=
 Option.bind (α:=Nod) (
 a4p n n n1) fun b61 =>
 some ((eqB b61.op 54))
def b2a (n1:Nod):Bool->Out
 | r506=>.ret (.bool r506) []
structure j5 where
 I6:(List Tok)->Int->Int->Int->Option (Nod×Bool×Int×Int)
 M9:(List Tok)->Int->Int->Int->Option (List Nod×Bool×Int×Int)
 K8:(List Tok)->Int->Int->Int->Option (Nod×Bool×Int×Int)
 X7:(List Tok)->Int->Int->Int->Option (Nod×Bool×Int×Int)
 H8:(List Tok)->Int->Int->Int->Option (Nod×Bool×Int×Int)
 J2:Int ->(List Tok)->Int->Int->Int->Option (Nod×Bool×Int×Int)
 K5:(List Tok)->Int->Int->Int->Option (Nod×Bool×Int×Int)
 U2:(List Tok)->Int->Int->Int->Option (Nod×Bool×Int×Int)
 W9:(List Tok)->Int->Int->Int->Option (Nod×Bool×Int×Int)
 M5:(List Nod) ->(List Tok)->Int->Int->Int->Option (List Nod×Bool×Int×Int×List Nod)
 O3:(List Tok)->Int->Int->Int->Option (Nod×Bool×Int×Int)
 U1:(List Tok)->Int->Int->Int->Option (Nod×Bool×Int×Int)
 Y7:(List Tok)->Int->Int->Int->Option (Nod×Bool×Int×Int)
 M0:(List Tok)->Int->Int->Int->Option (Nod×Bool×Int×Int)
 X8:Int ->(List Tok)->Int->Int->Int->Option (List Nod×Bool×Int×Int)
 V7:(List Tok)->Int->Int->Int->Option (Nod×Bool×Int×Int)
def a2h (n:Nat)(Φ:j5)(l1:List Tok)(o9 at3 o5:Int):Option (Nod×Bool×Int×Int) :=
 (E5 l1 o9 at3 o5).bind fun r5 =>
 (o6 [123] l1 o9 at3 o5).bind fun(r6,at7) =>
 cond (!r6) (
 some (((⟨20,[],0,(⟨0,[],0,[]⟩:Typ),[],[],r5⟩:Nod),false,at7,o5))) (
 (Φ.M9 l1 o9 at7 o5).bind fun(r8,r9,at10,a5q) =>
 some (((⟨20,[],0,(⟨0,[],0,[]⟩:Typ),[],r8,r5⟩:Nod),r9,at10,a5q)))
def b1I (l1:List Tok)(o9 at3 o5:Int):Nod×Bool×Int×Int->Out
 |(a9z,a8G,a6e,place515)=>.ret (.tuple [.agg (c0 a9z.op a9z.s a9z.n a9z.t.kind a9z.t.name a9z.t.n (.sl C9 a9z.t.args) (.sl C9 a9z.ts) (.sl D8 a9z.l) a9z.at_),.bool a8G]) (hR p8 l1 o9 a6e place515)
def a0A (n:Nat)(Φ:j5)(o9:Int)(l1:List Tok):Nat ->(List Nod)->Int->Int->Option (Lr (List Nod×Int×Int) (List Nod×Bool×Int×Int))
  | 0,_,_,_=>none
  | m2 + 1,l524,b4n,b8v =>
      (o6 [125] l1 o9 b4n b8v).bind fun(r5,at6) =>
      cond (!r5) (
      (Φ.K8 l1 o9 at6 b8v).bind fun(r7,r8,at9,c60) =>
      cond (!r8) (
      some (.out ((l524,false,at9,c60)))) (
      (app 144 l524 ([r7]:List Nod)).bind fun l11 =>
      a0A n Φ o9 l1 m2 l11 at9 c60)) (
      some (.brk (l524,at6,b8v)))
def a0J (n:Nat)(Φ:j5)(l1:List Tok)(o9 at3 o5:Int):Option (List Nod×Bool×Int×Int) :=
 M4 (α:=List Nod×Int×Int) (
 a0A n Φ o9 l1 n ([]:List Nod) at3 o5) fun(l536,at537,place538) =>
 some ((l536,true,at537,place538))
def a4V (l1:List Tok)(o9 at3 o5:Int):List Nod×Bool×Int×Int->Out
 |(r529,r530,at531,place532)=>.ret (.tuple [.sl D8 r529,.bool r530]) (hR p8 l1 o9 at531 place532)
def J5 (n:Nat)(Φ:j5)(l1:List Tok)(o9 at3 o5:Int):Option (Nod×Bool×Int×Int) :=
 (E5 l1 o9 at3 o5).bind fun r5 =>
 Option.bind (α:=Bool) (
 (C8 9 [108,101,116] l1 o9 at3 o5).bind fun r6 =>
 cond r6 (
 some true) (
 (C8 9 [118,97,114] l1 o9 at3 o5).bind fun r7 =>
 some r7)) fun x501 =>
 cond x501 (
 (Φ.X7 l1 o9 at3 o5).bind fun(r8,r9,at10,a5q) =>
 some ((r8,r9,at10,a5q))) (
 (C8 9 [105,102] l1 o9 at3 o5).bind fun r12 =>
 cond r12 (
 (Φ.M0 l1 o9 at3 o5).bind fun(r13,r14,at15,place16) =>
 some ((r13,r14,at15,place16))) (
 (w9 [119,104,105,108,101] l1 o9 at3 o5).bind fun(r17,at18) =>
 cond r17 (
 (Φ.H8 l1 o9 at18 o5).bind fun(r19,r20,at21,b1E) =>
 cond (!r20) (
 some ((r19,false,at21,b1E))) (
 (Φ.I6 l1 o9 at21 b1E).bind fun(r23,r24,at25,b5r) =>
 some (((⟨25,[],0,(⟨0,[],0,[]⟩:Typ),[],[r19,r23],r5⟩:Nod),r24,at25,b5r)))) (
 (w9 [109,97,116,99,104] l1 o9 at18 o5).bind fun(r27,at28) =>
 cond r27 (
 (Φ.X8 r5 l1 o9 at28 o5).bind fun(l29,r30,at31,b1F) =>
 some (((⟨26,[],0,(⟨0,[],0,[]⟩:Typ),[],l29,r5⟩:Nod),r30,at31,b1F))) (
 (w9 [114,101,116,117,114,110] l1 o9 at28 o5).bind fun(r33,at34) =>
 cond r33 (
 (o6 [59] l1 o9 at34 o5).bind fun(r35,at36) =>
 cond r35 (
 some (((⟨28,[],0,(⟨0,[],0,[]⟩:Typ),[],[],r5⟩:Nod),true,at36,o5))) (
 (Φ.H8 l1 o9 at36 o5).bind fun(r37,r38,at39,c1s) =>
 cond r38 (
 (o6 [59] l1 o9 at39 c1s).bind fun(r41,at42) =>
 some (((⟨28,[],0,(⟨0,[],0,[]⟩:Typ),[],[r37],r5⟩:Nod),r41,at42,c1s))) (
 some (((⟨28,[],0,(⟨0,[],0,[]⟩:Typ),[],[r37],r5⟩:Nod),false,at39,c1s))))) (
 (w9 [116,104,114,111,119] l1 o9 at34 o5).bind fun(r43,at44) =>
 cond r43 (
 (Φ.H8 l1 o9 at44 o5).bind fun(r45,r46,at47,c1t) =>
 cond r46 (
 (o6 [59] l1 o9 at47 c1t).bind fun(r49,at50) =>
 some (((⟨29,[],0,(⟨0,[],0,[]⟩:Typ),[],[r45],r5⟩:Nod),r49,at50,c1t))) (
 some (((⟨29,[],0,(⟨0,[],0,[]⟩:Typ),[],[r45],r5⟩:Nod),false,at47,c1t)))) (
 (w9 [100,111] l1 o9 at44 o5).bind fun(r51,at52) =>
 cond r51 (
 (Φ.I6 l1 o9 at52 o5).bind fun(r53,r54,at55,b5t) =>
 Option.bind (α:=Bool×Int) (
 cond (!r54) (
 some (true,at55)) (
 (w9 [99,97,116,99,104] l1 o9 at55 b5t).bind fun(r57,at58) =>
 some ((!r57),at58))) fun(x523,a9B) =>
 cond x523 (
 some ((r53,false,a9B,b5t))) (
 (q9 1 l1 o9 a9B b5t).bind fun(r59,r60,at61) =>
 cond (!r60) (
 some ((r53,false,at61,b5t))) (
 (Φ.I6 l1 o9 at61 b5t).bind fun(r62,r63,at64,c1v) =>
 some (((⟨30,r59,0,(⟨0,[],0,[]⟩:Typ),[],[r53,r62],r5⟩:Nod),r63,at64,c1v))))) (
 (w9 [100,101,102,101,114] l1 o9 at52 o5).bind fun(r66,at67) =>
 cond r66 (
 (Φ.I6 l1 o9 at67 o5).bind fun(r68,r69,at70,place71) =>
 some (((⟨31,[],0,(⟨0,[],0,[]⟩:Typ),[],[r68],r5⟩:Nod),r69,at70,place71))) (
 (Φ.V7 l1 o9 at67 o5).bind fun(r72,r73,at74,place75) =>
 some ((r72,r73,at74,place75))))))))))
def a5k (l1:List Tok)(o9 at3 o5:Int):Nod×Bool×Int×Int->Out
 |(r518,r519,b0p,place521)=>.ret (.tuple [.agg (c0 r518.op r518.s r518.n r518.t.kind r518.t.name r518.t.n (.sl C9 r518.t.args) (.sl C9 r518.ts) (.sl D8 r518.l) r518.at_),.bool r519]) (hR p8 l1 o9 b0p place521)
def a2i (n:Nat)(Φ:j5)(l1:List Tok)(o9 at3 o5:Int):Option (Nod×Bool×Int×Int) :=
 (E5 l1 o9 at3 o5).bind fun r5 =>
 Option.bind (α:=Int×Int) (
 (w9 [118,97,114] l1 o9 at3 o5).bind fun(r6,at7) =>
 cond r6 (
 some (at7,1)) (
 (w9 [108,101,116] l1 o9 at7 o5).bind fun(r8,at9) =>
 some (at9,0))) fun(at531,n532) =>
 (q9 1 l1 o9 at531 o5).bind fun(r10,r11,at12) =>
 cond (!r11) (
 some (((⟨21,[],n532,(⟨0,[],0,[]⟩:Typ),[],[],r5⟩:Nod),false,at12,o5))) (
 M4 (α:=Bool×Int×Int×Str×Int×List Typ) (
 (o6 [58] l1 o9 at12 o5).bind fun(r13,at14) =>
 cond r13 (
 (F6 n l1 o9 at14 o5).bind fun(r15,r16,at17) =>
 cond (!r16) (
 some (.out (((⟨21,r10,n532,(⟨0,[],0,[]⟩:Typ),[],[],r5⟩:Nod),false,at17,o5)))) (
 some (.brk (true,at17,r15.kind,r15.name,r15.n,r15.args)))) (
 some (.brk (false,at14,0,[],0,([]:List Typ))))) fun(typed533,b0r,c0Z,c09,n537,c0E) =>
 M4 (α:=Int×Int×List Nod) (
 (o6 [61] l1 o9 b0r o5).bind fun(r18,at19) =>
 cond r18 (
 (Φ.H8 l1 o9 at19 o5).bind fun(r20,r21,at22,b7n) =>
 cond (!r21) (
 some (.out (((⟨21,r10,n532,(⟨c0Z,c09,n537,c0E⟩:Typ),[],[],r5⟩:Nod),false,at22,b7n)))) (
 some (.brk (at22,b7n,([r20]:List Nod))))) (
 Option.bind (α:=Bool) (
 cond (eqB n532 0) (
 some true) (
 some (!typed533))) fun x539 =>
 cond x539 (
 some (.out (((⟨21,r10,n532,(⟨c0Z,c09,n537,c0E⟩:Typ),[],[],r5⟩:Nod),false,at19,o5)))) (
 some (.brk (at19,o5,([]:List Nod)))))) fun(at540,c3D,l542) =>
 (o6 [59] l1 o9 at540 c3D).bind fun(r24,at25) =>
 some (((⟨21,r10,n532,(⟨c0Z,c09,n537,c0E⟩:Typ),[],l542,r5⟩:Nod),r24,at25,c3D)))
def a6Y (l1:List Tok)(o9 at3 o5:Int):Nod×Bool×Int×Int->Out
 |(a9i,r544,b44,b8y)=>.ret (.tuple [.agg (c0 a9i.op a9i.s a9i.n a9i.t.kind a9i.t.name a9i.t.n (.sl C9 a9i.t.args) (.sl C9 a9i.ts) (.sl D8 a9i.l) a9i.at_),.bool r544]) (hR p8 l1 o9 b44 b8y)
def a2I (n:Nat)(Φ:j5)(l1:List Tok)(o9 at3 o5:Int):Option (Nod×Bool×Int×Int) :=
 (Φ.J2 0 l1 o9 at3 o5).bind fun(r5,r6,at7,a4R) =>
 some ((r5,r6,at7,a4R))
def b2C (l1:List Tok)(o9 at3 o5:Int):Nod×Bool×Int×Int->Out
 |(a7D,a0W,a4s,b8u)=>.ret (.tuple [.agg (c0 a7D.op a7D.s a7D.n a7D.t.kind a7D.t.name a7D.t.n (.sl C9 a7D.t.args) (.sl C9 a7D.ts) (.sl D8 a7D.l) a7D.at_),.bool a0W]) (hR p8 l1 o9 a4s b8u)
def a1r (n:Nat)(Φ:j5)(z8 k1:Int)(l2:List Tok):Nat->Int->Str->Int->Int->Int->Nod->Option (Int×Str×Int×Int×Nod)
  | 0,_,_,_,_,_,_=>none
  | m10 + 1,n617,op618,i619,at620,b8B,n622 =>
      (idx' ([[[124,124]],[[38,38]],[[61,61],[33,61],[60],[60,61],[62],[62,61]],[[43],[45]],[[42],[47],[37]]]:List (List Str)) k1).bind fun x14 =>
      cond (ltB i619 (List.length x14:Int)) (
      Option.bind (α:=Str) (
      (idx' ([[[124,124]],[[38,38]],[[61,61],[33,61],[60],[60,61],[62],[62,61]],[[43],[45]],[[42],[47],[37]]]:List (List Str)) k1).bind fun x15 =>
      (idx' x15 i619).bind fun x16 =>
      (C8 8 x16 l2 z8 at620 b8B).bind fun r17 =>
      cond r17 (
      (idx' ([[[124,124]],[[38,38]],[[61,61],[33,61],[60],[60,61],[62],[62,61]],[[43],[45]],[[42],[47],[37]]]:List (List Str)) k1).bind fun x18 =>
      (idx' x18 i619).bind fun x19 =>
      some x19) (
      some op618)) fun op623 =>
      a1r n Φ z8 k1 l2 m10 n617 op623 (w64 (i619+1)) at620 b8B n622) (
      some (n617,op618,at620,b8B,n622))
def P8 (n:Nat)(Φ:j5)(z8 k1:Int)(l2:List Tok):Nat->Bool->Int->Int->Int->Nod->Option (Lr (Bool×Int×Int×Nod) (Nod×Bool×Int×Int))
  | 0,_,_,_,_,_=>none
  | m6 + 1,ok602,n603,at604,c3I,n606 =>
      Option.bind (α:=Bool) (
      cond ok602 (
      cond (!eqB k1 2) (
      some true) (
      some (eqB n603 0))) (
      some false)) fun x616 =>
      cond x616 (
      a3U (α:=Bool×Int×Int×Int×Str×List Nod×Int) (
      Option.bind (α:=Int×Str×Int×Int×Nod) (
      a1r n Φ z8 k1 l2 n n603 [] 0 at604 c3I n606) fun(n630,op631,at632,b8C,n634) =>
      cond (eqS op631 []) (
      some (.out ((n634,true,at632,b8C)))) (
      (o6 op631 l2 z8 at632 b8C).bind fun(r20,at21) =>
      (Φ.J2 (w64 (k1+1)) l2 z8 at21 b8C).bind fun(r22,r23,at24,place25) =>
      some (.brk (r23,n630,at24,place25,op631,([n634,r22]:List Nod),n634.at_)))) fun(ok635,n636,at637,place638,s639,l640,at641) =>
      P8 n Φ z8 k1 l2 m6 ok635 (w64 (n636+1)) at637 place638 (⟨64,s639,0,(⟨0,[],0,[]⟩:Typ),[],l640,at641⟩:Nod)) (
      some (.brk (ok602,at604,c3I,n606)))
def a0z (n:Nat)(Φ:j5)(k1:Int)(l2:List Tok)(z8 at4 o8:Int):Option (Nod×Bool×Int×Int) :=
 (a6W).bind fun _ =>
 cond (eqB k1 (List.length ([[[124,124]],[[38,38]],[[61,61],[33,61],[60],[60,61],[62],[62,61]],[[43],[45]],[[42],[47],[37]]]:List (List Str)):Int)) (
 (Φ.K5 l2 z8 at4 o8).bind fun(r6,r7,at8,b8D) =>
 some ((r6,r7,at8,b8D))) (
 (Φ.J2 (w64 (k1+1)) l2 z8 at4 o8).bind fun(r10,r11,at12,a8F) =>
 M4 (α:=Bool×Int×Int×Nod) (
 P8 n Φ z8 k1 l2 n r11 0 at12 a8F r10) fun(b8j,b7F,a9d,n650) =>
 some ((n650,b8j,b7F,a9d)))
def a6X (k1:Int)(l2:List Tok)(z8 at4 o8:Int):Nod×Bool×Int×Int->Out
 |(a7Z,r535,b7D,b8x)=>.ret (.tuple [.agg (c0 a7Z.op a7Z.s a7Z.n a7Z.t.kind a7Z.t.name a7Z.t.n (.sl C9 a7Z.t.args) (.sl C9 a7Z.ts) (.sl D8 a7Z.l) a7Z.at_),.bool r535]) (hR p8 l2 z8 b7D b8x)
def a2k (n:Nat)(Φ:j5)(l1:List Tok)(o9 at3 o5:Int):Option (Nod×Bool×Int×Int) :=
 (E5 l1 o9 at3 o5).bind fun r5 =>
 (o6 [45] l1 o9 at3 o5).bind fun(r6,at7) =>
 cond r6 (
 (Φ.K5 l1 o9 at7 o5).bind fun(r8,r9,at10,a5q) =>
 some (((⟨66,[],0,(⟨0,[],0,[]⟩:Typ),[],[r8],r5⟩:Nod),r9,at10,a5q))) (
 (o6 [33] l1 o9 at7 o5).bind fun(r12,at13) =>
 cond r12 (
 (Φ.K5 l1 o9 at13 o5).bind fun(r14,r15,at16,c1p) =>
 some (((⟨65,[],0,(⟨0,[],0,[]⟩:Typ),[],[r14],r5⟩:Nod),r15,at16,c1p))) (
 (Φ.U2 l1 o9 at13 o5).bind fun(r18,r19,at20,place21) =>
 some ((r18,r19,at20,place21))))
def b1O (l1:List Tok)(o9 at3 o5:Int):Nod×Bool×Int×Int->Out
 |(a7D,a0W,a4s,b8u)=>.ret (.tuple [.agg (c0 a7D.op a7D.s a7D.n a7D.t.kind a7D.t.name a7D.t.n (.sl C9 a7D.t.args) (.sl C9 a7D.ts) (.sl D8 a7D.l) a7D.at_),.bool a0W]) (hR p8 l1 o9 a4s b8u)
def V4 (n:Nat)(Φ:j5)(o9:Int)(l1:List Tok):Nat->Bool->Int->Int->Nod->Option (Lr (Bool×Int×Int×Nod) (Nod×Bool×Int×Int))
  | 0,_,_,_,_=>none
  | m2 + 1,ok533,b0r,a5L,b56 =>
      cond ok533 (
      (o6 [46] l1 o9 b0r a5L).bind fun(r9,at10) =>
      cond r9 (
      (q9 1 l1 o9 at10 a5L).bind fun(r11,r12,at13) =>
      cond (!r12) (
      some (.out ((b56,false,at13,a5L)))) (
      (C8 8 [40] l1 o9 at13 a5L).bind fun r14 =>
      cond r14 (
      (Φ.M5 ([b56]:List Nod) l1 o9 at13 a5L).bind fun(r15,r16,at17,b5p,gone19) =>
      V4 n Φ o9 l1 m2 r16 at17 b5p (⟨57,r11,0,(⟨0,[],0,[]⟩:Typ),[],r15,b56.at_⟩:Nod)) (
      V4 n Φ o9 l1 m2 ok533 at13 a5L (⟨55,r11,0,(⟨0,[],0,[]⟩:Typ),[],[b56],b56.at_⟩:Nod)))) (
      (C8 8 [40] l1 o9 at10 a5L).bind fun r20 =>
      cond r20 (
      (Φ.M5 ([b56]:List Nod) l1 o9 at10 a5L).bind fun(r21,r22,at23,place24,gone25) =>
      V4 n Φ o9 l1 m2 r22 at23 place24 (⟨60,[],0,(⟨0,[],0,[]⟩:Typ),[],r21,b56.at_⟩:Nod)) (
      some (.out ((b56,true,at10,a5L)))))) (
      some (.brk (ok533,b0r,a5L,b56)))
def a1t (n:Nat)(Φ:j5)(l1:List Tok)(o9 at3 o5:Int):Option (Nod×Bool×Int×Int) :=
 (Φ.W9 l1 o9 at3 o5).bind fun(r5,r6,at7,a4R) =>
 M4 (α:=Bool×Int×Int×Nod) (
 V4 n Φ o9 l1 n r6 at7 a4R r5) fun(c3f,b6u,a9c,n555) =>
 some ((n555,c3f,b6u,a9c))
def a5P (l1:List Tok)(o9 at3 o5:Int):Nod×Bool×Int×Int->Out
 |(a8G,r514,b4l,place516)=>.ret (.tuple [.agg (c0 a8G.op a8G.s a8G.n a8G.t.kind a8G.t.name a8G.t.n (.sl C9 a8G.t.args) (.sl C9 a8G.ts) (.sl D8 a8G.l) a8G.at_),.bool r514]) (hR p8 l1 o9 b4l place516)
def a0U (n:Nat)(Φ:j5)(o9:Int)(l1:List Tok)(r5:Int):Nat->Bool->Int->Int ->(List Nod)->Option (Lr (Int×Int×List Nod) (Nod×Bool×Int×Int))
  | 0,_,_,_,_=>none
  | m35 + 1,more541,a6f,c3E,l544 =>
      cond more541 (
      (Φ.H8 l1 o9 a6f c3E).bind fun(r40,r41,at42,b3S) =>
      cond (!r41) (
      some (.out (((⟨67,[],0,(⟨0,[],0,[]⟩:Typ),[],l544,r5⟩:Nod),false,at42,b3S)))) (
      (app 144 l544 ([r40]:List Nod)).bind fun l44 =>
      (o6 [44] l1 o9 at42 b3S).bind fun(r45,at46) =>
      a0U n Φ o9 l1 r5 m35 r45 at46 b3S l44)) (
      some (.brk (a6f,c3E,l544)))
def a0M (n:Nat)(Φ:j5)(l1:List Tok)(o9 at3 o5:Int):Option (Nod×Bool×Int×Int) :=
 (E5 l1 o9 at3 o5).bind fun r5 =>
 (q9 3 l1 o9 at3 o5).bind fun(r6,r7,at8) =>
 cond r7 (
 (a1m n r6).bind fun r9 =>
 some (((⟨50,[],r9,(⟨0,[],0,[]⟩:Typ),[],[],r5⟩:Nod),true,at8,o5))) (
 (q9 4 l1 o9 at8 o5).bind fun(r10,r11,at12) =>
 cond r11 (
 some (((⟨52,r10,0,(⟨0,[],0,[]⟩:Typ),[],[],r5⟩:Nod),true,at12,o5))) (
 (Q7 5 l1 o9 at12 o5).bind fun r13 =>
 cond r13 (
 (Φ.O3 l1 o9 at12 o5).bind fun(r14,r15,at16,c1p) =>
 some ((r14,r15,at16,c1p))) (
 (w9 [116,114,117,101] l1 o9 at12 o5).bind fun(r18,at19) =>
 cond r18 (
 some (((⟨51,[],1,(⟨0,[],0,[]⟩:Typ),[],[],r5⟩:Nod),true,at19,o5))) (
 (w9 [102,97,108,115,101] l1 o9 at19 o5).bind fun(r20,at21) =>
 cond r20 (
 some (((⟨51,[],0,(⟨0,[],0,[]⟩:Typ),[],[],r5⟩:Nod),true,at21,o5))) (
 (q9 1 l1 o9 at21 o5).bind fun(r22,r23,at24) =>
 cond r23 (
 (C8 8 [40] l1 o9 at24 o5).bind fun r25 =>
 cond r25 (
 (Φ.M5 ([]:List Nod) l1 o9 at24 o5).bind fun(r26,r27,at28,c1r,gone30) =>
 some (((⟨56,r22,0,(⟨0,[],0,[]⟩:Typ),[],r26,r5⟩:Nod),r27,at28,c1r))) (
 some (((⟨54,r22,0,(⟨0,[],0,[]⟩:Typ),[],[],r5⟩:Nod),true,at24,o5)))) (
 (w9 [99,111,110,115,117,109,101] l1 o9 at24 o5).bind fun(r31,at32) =>
 cond r31 (
 (q9 1 l1 o9 at32 o5).bind fun(r33,r34,at35) =>
 some (((⟨61,r33,0,(⟨0,[],0,[]⟩:Typ),[],[],r5⟩:Nod),r34,at35,o5))) (
 M4 (α:=Int) (
 (o6 [91] l1 o9 at32 o5).bind fun(r36,at37) =>
 cond r36 (
 (o6 [93] l1 o9 at37 o5).bind fun(r38,at39) =>
 cond r38 (
 some (.out (((⟨67,[],0,(⟨0,[],0,[]⟩:Typ),[],[],r5⟩:Nod),true,at39,o5)))) (
 a3U (α:=Int×Int×List Nod) (
 a0U n Φ o9 l1 r5 n true at39 o5 ([]:List Nod)) fun(b2R,c3F,l562) =>
 (o6 [93] l1 o9 b2R c3F).bind fun(r47,at48) =>
 some (.out (((⟨67,[],0,(⟨0,[],0,[]⟩:Typ),[],l562,r5⟩:Nod),r47,at48,c3F))))) (
 some (.brk at37))) fun a7Q =>
 (o6 [40] l1 o9 a7Q o5).bind fun(r49,at50) =>
 cond r49 (
 (Φ.H8 l1 o9 at50 o5).bind fun(r51,r52,at53,c1u) =>
 cond r52 (
 (o6 [41] l1 o9 at53 c1u).bind fun(r55,at56) =>
 some ((r51,r55,at56,c1u))) (
 some ((r51,false,at53,c1u)))) (
 (C8 8 [123] l1 o9 at50 o5).bind fun r57 =>
 cond r57 (
 (Φ.U1 l1 o9 at50 o5).bind fun(r58,r59,at60,place61) =>
 some ((r58,r59,at60,place61))) (
 (Φ.Y7 l1 o9 at50 o5).bind fun(r62,r63,at64,c1v) =>
 some ((r62,r63,at64,c1v)))))))))))
def a7s (l1:List Tok)(o9 at3 o5:Int):Nod×Bool×Int×Int->Out
 |(a7Z,r535,b7D,b8x)=>.ret (.tuple [.agg (c0 a7Z.op a7Z.s a7Z.n a7Z.t.kind a7Z.t.name a7Z.t.n (.sl C9 a7Z.t.args) (.sl C9 a7Z.ts) (.sl D8 a7Z.l) a7Z.at_),.bool r535]) (hR p8 l1 o9 b7D b8x)
def a05 (n:Nat)(Φ:j5)(z8:Int)(l2:List Tok):Nat ->(List Nod)->Bool->Int->Int->Option (Lr (List Nod×Int×Int) (List Nod×Bool×Int×Int×List Nod))
  | 0,_,_,_,_=>none
  | m6 + 1,l537,more538,c2m,b0S =>
      cond more538 (
      (E5 l2 z8 c2m b0S).bind fun r10 =>
      Option.bind (α:=Bool×Int×Int×Nod) (
      (o6 [38] l2 z8 c2m b0S).bind fun(r11,at12) =>
      cond r11 (
      (a1q n l2 z8 at12 b0S).bind fun(r13,r14,at15) =>
      some (r14,at15,b0S,(⟨62,[],0,(⟨0,[],0,[]⟩:Typ),[],[r13],r10⟩:Nod))) (
      (Φ.H8 l2 z8 at12 b0S).bind fun(r16,r17,at18,b5q) =>
      some (r17,at18,b5q,r16))) fun(c3f,b6u,a9c,n555) =>
      cond (!c3f) (
      some (.out ((l537,false,b6u,a9c,l537)))) (
      (app 144 l537 ([n555]:List Nod)).bind fun l20 =>
      (o6 [44] l2 z8 b6u a9c).bind fun(r21,at22) =>
      a05 n Φ z8 l2 m6 l20 r21 at22 a9c)) (
      some (.brk (l537,c2m,b0S)))
def a2H (n:Nat)(Φ:j5)(l1:List Nod)(l2:List Tok)(z8 at4 o8:Int):Option (List Nod×Bool×Int×Int×List Nod) :=
 (o6 [40] l2 z8 at4 o8).bind fun(r6,at7) =>
 cond (!r6) (
 some ((l1,false,at7,o8,l1))) (
 (o6 [41] l2 z8 at7 o8).bind fun(r8,at9) =>
 cond r8 (
 some ((l1,true,at9,o8,l1))) (
 M4 (α:=List Nod×Int×Int) (
 a05 n Φ z8 l2 n l1 true at9 o8) fun(l560,c2o,b5u) =>
 (o6 [41] l2 z8 c2o b5u).bind fun(r23,at24) =>
 some ((l560,r23,at24,b5u,l560))))
def a7r (l1:List Nod)(l2:List Tok)(z8 at4 o8:Int):List Nod×Bool×Int×Int×List Nod->Out
 |(a9i,r544,b44,b8y,c6A)=>.ret (.tuple [.sl D8 a9i,.bool r544]) [(0,.row [.sl p8 l2,.i z8,.i b44,.i b8y]),(1,.tip (tpe 10 (List.length c6A)) (List.length c6A))]
def a0f (n:Nat)(Φ:j5)(o9:Int)(l1:List Tok)(r5:Int):Nat->Int->Int ->(List Nod)->Option (Nod×Bool×Int×Int)
  | 0,_,_,_=>none
  | m2 + 1,b4m,c3C,l523 =>
      (idx' l1 b4m).bind fun x6 =>
      (app 144 l523 ([(⟨52,x6.text,0,(⟨0,[],0,[]⟩:Typ),[],[],x6.at_⟩:Nod)]:List Nod)).bind fun l7 =>
      cond (eqB x6.kind 7) (
      some (((⟨53,[],0,(⟨0,[],0,[]⟩:Typ),[],l7,r5⟩:Nod),true,(w64 (b4m+1)),c3C))) (
      (Φ.H8 l1 o9 (w64 (b4m+1)) c3C).bind fun(r8,r9,at10,a5q) =>
      Option.bind (α:=Bool) (
      cond (!r9) (
      some true) (
      (Q7 6 l1 o9 at10 a5q).bind fun r12 =>
      cond (!r12) (
      (Q7 7 l1 o9 at10 a5q).bind fun r13 =>
      some (!r13)) (
      some false))) fun x520 =>
      cond x520 (
      some (((⟨53,[],0,(⟨0,[],0,[]⟩:Typ),[],l7,r5⟩:Nod),false,at10,a5q))) (
      (app 144 l7 ([r8]:List Nod)).bind fun l14 =>
      a0f n Φ o9 l1 r5 m2 at10 a5q l14))
def a0q (n:Nat)(Φ:j5)(l1:List Tok)(o9 at3 o5:Int):Option (Nod×Bool×Int×Int) :=
 (E5 l1 o9 at3 o5).bind fun r5 =>
 a0f n Φ o9 l1 r5 n at3 o5 ([]:List Nod)
def a4u (l1:List Tok)(o9 at3 o5:Int):Nod×Bool×Int×Int->Out
 |(a9h,r525,at526,b8w)=>.ret (.tuple [.agg (c0 a9h.op a9h.s a9h.n a9h.t.kind a9h.t.name a9h.t.n (.sl C9 a9h.t.args) (.sl C9 a9h.ts) (.sl D8 a9h.l) a9h.at_),.bool r525]) (hR p8 l1 o9 at526 b8w)
def a1o (n:Nat)(Φ:j5)(l1:List Tok)(o9 at3 o5:Int):Option (Nod×Bool×Int×Int) :=
 (E5 l1 o9 at3 o5).bind fun r5 =>
 (o6 [123] l1 o9 at3 o5).bind fun(r6,at7) =>
 (o6 [40] l1 o9 at7 o5).bind fun(r8,at9) =>
 cond (!r8) (
 some (((⟨63,[],0,(⟨4,[],0,[]⟩:Typ),[],[],r5⟩:Nod),false,at9,o5))) (
 (a0n n ([]:List Nod) l1 o9 at9 o5).bind fun(r10,r11,at12) =>
 cond (!r11) (
 some (((⟨63,[],0,(⟨4,[],0,[]⟩:Typ),[],[],r5⟩:Nod),false,at12,o5))) (
 M4 (α:=Int×Int×Str×Int×List Typ) (
 (o6 [45,62] l1 o9 at12 o5).bind fun(r13,at14) =>
 cond r13 (
 (F6 n l1 o9 at14 o5).bind fun(r15,r16,at17) =>
 cond (!r16) (
 some (.out (((⟨63,[],0,(⟨4,[],0,[]⟩:Typ),[],[],r5⟩:Nod),false,at17,o5)))) (
 some (.brk (at17,r15.kind,r15.name,r15.n,r15.args)))) (
 some (.brk (at14,4,[],0,([]:List Typ))))) fun(a7h,b3K,c6P,n509,b7c) =>
 (w9 [105,110] l1 o9 a7h o5).bind fun(r18,at19) =>
 cond (!r18) (
 some (((⟨63,[],0,(⟨b3K,c6P,n509,b7c⟩:Typ),[],[],r5⟩:Nod),false,at19,o5))) (
 (Φ.M9 l1 o9 at19 o5).bind fun(r20,r21,at22,b7n) =>
 (app 144 r10 ([(⟨20,[],0,(⟨0,[],0,[]⟩:Typ),[],r20,r5⟩:Nod)]:List Nod)).bind fun l24 =>
 some (((⟨63,[],0,(⟨b3K,c6P,n509,b7c⟩:Typ),[],l24,r5⟩:Nod),r21,at22,b7n)))))
def a5N (l1:List Tok)(o9 at3 o5:Int):Nod×Bool×Int×Int->Out
 |(r527,r528,at529,place530)=>.ret (.tuple [.agg (c0 r527.op r527.s r527.n r527.t.kind r527.t.name r527.t.n (.sl C9 r527.t.args) (.sl C9 r527.ts) (.sl D8 r527.l) r527.at_),.bool r528]) (hR p8 l1 o9 at529 place530)
def Z8 (n:Nat)(Φ:j5)(o9:Int)(l1:List Tok)(o5 r5:Int)(r7:Bool):Nat->Int->Typ->Option (Lr (Int) (Nod×Bool×Int×Int))
  | 0,_,_=>none
  | m3 + 1,a6e,n515 =>
      cond r7 (
      (C8 8 [40] l1 o9 a6e o5).bind fun r9 =>
      cond r9 (
      (Φ.M5 ([]:List Nod) l1 o9 a6e o5).bind fun(r10,r11,at12,a8F,a5Z) =>
      some (.out (((⟨59,[],0,n515,[],r10,r5⟩:Nod),r11,at12,a8F)))) (
      (o6 [46] l1 o9 a6e o5).bind fun(r15,at16) =>
      cond (!r15) (
      some (.out (((⟨0,[],0,(⟨0,[],0,[]⟩:Typ),[],[],r5⟩:Nod),false,at16,o5)))) (
      (q9 2 l1 o9 at16 o5).bind fun(r17,r18,at19) =>
      cond r18 (
      Z8 n Φ o9 l1 o5 r5 r7 m3 at19 (⟨8,r17,0,[n515]⟩:Typ)) (
      (q9 1 l1 o9 at19 o5).bind fun(r20,r21,at22) =>
      cond (!r21) (
      some (.out (((⟨0,[],0,(⟨0,[],0,[]⟩:Typ),[],[],r5⟩:Nod),false,at22,o5)))) (
      (C8 8 [40] l1 o9 at22 o5).bind fun r23 =>
      cond r23 (
      (Φ.M5 ([]:List Nod) l1 o9 at22 o5).bind fun(r24,r25,at26,place27,gone28) =>
      some (.out (((⟨58,r20,1,n515,[],r24,r5⟩:Nod),r25,at26,place27)))) (
      some (.out (((⟨58,r20,0,n515,[],[],r5⟩:Nod),true,at22,o5))))))))) (
      some (.brk a6e))
def a2K (n:Nat)(Φ:j5)(l1:List Tok)(o9 at3 o5:Int):Option (Nod×Bool×Int×Int) :=
 (E5 l1 o9 at3 o5).bind fun r5 =>
 (Q0 n l1 o9 at3 o5).bind fun(r6,r7,at8) =>
 M4 (α:=Int) (
 Z8 n Φ o9 l1 o5 r5 r7 n at8 r6) fun b0q =>
 some (((⟨0,[],0,(⟨0,[],0,[]⟩:Typ),[],[],r5⟩:Nod),false,b0q,o5))
def a7w (l1:List Tok)(o9 at3 o5:Int):Nod×Bool×Int×Int->Out
 |(a9h,r525,at526,b8w)=>.ret (.tuple [.agg (c0 a9h.op a9h.s a9h.n a9h.t.kind a9h.t.name a9h.t.n (.sl C9 a9h.t.args) (.sl C9 a9h.ts) (.sl D8 a9h.l) a9h.at_),.bool r525]) (hR p8 l1 o9 at526 b8w)
def a0y (n:Nat)(Φ:j5)(l1:List Tok)(o9 at3 o5:Int):Option (Nod×Bool×Int×Int) :=
 (E5 l1 o9 at3 o5).bind fun r5 =>
 (w9 [105,102] l1 o9 at3 o5).bind fun(r6,at7) =>
 (Φ.H8 l1 o9 at7 o5).bind fun(r8,r9,at10,a5q) =>
 cond (!r9) (
 some (((⟨24,[],0,(⟨0,[],0,[]⟩:Typ),[],[],r5⟩:Nod),false,at10,a5q))) (
 (Φ.I6 l1 o9 at10 a5q).bind fun(r12,r13,at14,a9R) =>
 cond (!r13) (
 some (((⟨24,[],0,(⟨0,[],0,[]⟩:Typ),[],[],r5⟩:Nod),false,at14,a9R))) (
 (w9 [101,108,115,101] l1 o9 at14 a9R).bind fun(r16,at17) =>
 cond (!r16) (
 some (((⟨24,[],0,(⟨0,[],0,[]⟩:Typ),[],[r8,r12],r5⟩:Nod),true,at17,a9R))) (
 Option.bind (α:=Bool×Int×Int×Nod) (
 (C8 9 [105,102] l1 o9 at17 a9R).bind fun r18 =>
 cond r18 (
 (Φ.M0 l1 o9 at17 a9R).bind fun(r19,r20,at21,b1E) =>
 some (r20,at21,b1E,r19)) (
 (Φ.I6 l1 o9 at17 a9R).bind fun(r23,r24,at25,b5r) =>
 some (r24,at25,b5r,r23))) fun(whole515,b7B,place517,n518) =>
 some (((⟨24,[],0,(⟨0,[],0,[]⟩:Typ),[],[r8,r12,n518],r5⟩:Nod),whole515,b7B,place517)))))
def a4M (l1:List Tok)(o9 at3 o5:Int):Nod×Bool×Int×Int->Out
 |(a0W,a9z,a8r,b5s)=>.ret (.tuple [.agg (c0 a0W.op a0W.s a0W.n a0W.t.kind a0W.t.name a0W.t.n (.sl C9 a0W.t.args) (.sl C9 a0W.ts) (.sl D8 a0W.l) a0W.at_),.bool a9z]) (hR p8 l1 o9 a8r b5s)
def a1N (n:Nat)(Φ:j5)(z8:Int)(l2:List Tok):Nat ->(List Nod)->Int->Int->Option (Lr (List Nod×Int×Int) (List Nod×Bool×Int×Int))
  | 0,_,_,_=>none
  | m6 + 1,l509,a4Y,a9b =>
      (C8 9 [99,97,115,101] l2 z8 a4Y a9b).bind fun r12 =>
      cond r12 (
      (E5 l2 z8 a4Y a9b).bind fun r13 =>
      (w9 [99,97,115,101] l2 z8 a4Y a9b).bind fun(r14,at15) =>
      (L8 n l2 z8 at15 a9b).bind fun(r16,r17,at18) =>
      cond (!r17) (
      some (.out ((([]:List Nod),false,at18,a9b)))) (
      (Φ.I6 l2 z8 at18 a9b).bind fun(r19,r20,at21,b1E) =>
      cond (!r20) (
      some (.out ((([]:List Nod),false,at21,b1E)))) (
      (app 144 l509 ([(⟨27,[],0,(⟨0,[],0,[]⟩:Typ),[],[r16,r19],r13⟩:Nod)]:List Nod)).bind fun l23 =>
      a1N n Φ z8 l2 m6 l23 at21 b1E))) (
      some (.brk (l509,a4Y,a9b)))
def a2j (n:Nat)(Φ:j5)(at1:Int)(l2:List Tok)(z8 at4 o8:Int):Option (List Nod×Bool×Int×Int) :=
 (Φ.H8 l2 z8 at4 o8).bind fun(r6,r7,at8,b8D) =>
 Option.bind (α:=Bool×Int) (
 cond (!r7) (
 some (true,at8)) (
 (o6 [123] l2 z8 at8 b8D).bind fun(r10,at11) =>
 some ((!r10),at11))) fun(x519,b0p) =>
 cond x519 (
 some ((([]:List Nod),false,b0p,b8D))) (
 M4 (α:=List Nod×Int×Int) (
 a1N n Φ z8 l2 n ([r6]:List Nod) b0p b8D) fun(l527,at528,b3i) =>
 M4 (α:=List Nod×Int×Int) (
 (C8 9 [100,101,102,97,117,108,116] l2 z8 at528 b3i).bind fun r24 =>
 cond r24 (
 (E5 l2 z8 at528 b3i).bind fun r25 =>
 (w9 [100,101,102,97,117,108,116] l2 z8 at528 b3i).bind fun(r26,at27) =>
 (Φ.I6 l2 z8 at27 b3i).bind fun(r28,r29,at30,c66) =>
 cond (!r29) (
 some (.out ((([]:List Nod),false,at30,c66)))) (
 (app 144 l527 ([(⟨27,[],0,(⟨0,[],0,[]⟩:Typ),[],[(⟨40,[],0,(⟨0,[],0,[]⟩:Typ),[],[],r25⟩:Nod),r28],r25⟩:Nod)]:List Nod)).bind fun l32 =>
 some (.brk (l32,at30,c66)))) (
 some (.brk (l527,at528,b3i)))) fun(l512,a8r,b5s) =>
 (o6 [125] l2 z8 a8r b5s).bind fun(r33,at34) =>
 some ((l512,r33,at34,b5s)))
def a6Z (at1:Int)(l2:List Tok)(z8 at4 o8:Int):List Nod×Bool×Int×Int->Out
 |(l515,r516,b43,place518)=>.ret (.tuple [.agg [.i 26,.str [],.i 0,.i 0,.str [],.i 0,.sl C9 ([]:List Typ),.sl C9 ([]:List Typ),.sl D8 l515,.i at1],.bool r516]) (hR p8 l2 z8 b43 place518)
def a1P (n:Nat)(Φ:j5)(l1:List Tok)(o9 at3 o5:Int):Option (Nod×Bool×Int×Int) :=
 (Φ.H8 l1 o9 at3 o5).bind fun(r5,r6,at7,a4R) =>
 cond (!r6) (
 some ((r5,false,at7,a4R))) (
 (C8 8 [61] l1 o9 at7 a4R).bind fun r9 =>
 cond (!r9) (
 (o6 [59] l1 o9 at7 a4R).bind fun(r10,at11) =>
 some (((⟨23,[],0,(⟨0,[],0,[]⟩:Typ),[],[r5],r5.at_⟩:Nod),r10,at11,a4R))) (
 (a8a n r5).bind fun r12 =>
 cond (!r12) (
 some ((r5,false,at7,r5.at_))) (
 (o6 [61] l1 o9 at7 a4R).bind fun(r13,at14) =>
 (Φ.H8 l1 o9 at14 a4R).bind fun(r15,r16,at17,b5p) =>
 cond r16 (
 (o6 [59] l1 o9 at17 b5p).bind fun(r19,at20) =>
 some (((⟨22,[],0,(⟨0,[],0,[]⟩:Typ),[],[r5,r15],r5.at_⟩:Nod),r19,at20,b5p))) (
 some (((⟨22,[],0,(⟨0,[],0,[]⟩:Typ),[],[r5,r15],r5.at_⟩:Nod),false,at17,b5p))))))
def b08 (l1:List Tok)(o9 at3 o5:Int):Nod×Bool×Int×Int->Out
 |(a9f,a9g,a7h,place507)=>.ret (.tuple [.agg (c0 a9f.op a9f.s a9f.n a9f.t.kind a9f.t.name a9f.t.n (.sl C9 a9f.t.args) (.sl C9 a9f.ts) (.sl D8 a9f.l) a9f.at_),.bool a9g]) (hR p8 l1 o9 a7h place507)
def j5.fs:Nat->j5
 | 0=>⟨fun _ _ _ _=>none,fun _ _ _ _=>none,fun _ _ _ _=>none,fun _ _ _ _=>none,fun _ _ _ _=>none,fun _ _ _ _ _=>none,fun _ _ _ _=>none,fun _ _ _ _=>none,fun _ _ _ _=>none,fun _ _ _ _ _=>none,fun _ _ _ _=>none,fun _ _ _ _=>none,fun _ _ _ _=>none,fun _ _ _ _=>none,fun _ _ _ _ _=>none,fun _ _ _ _=>none⟩
 | n+1=>⟨a2h n (j5.fs n),a0J n (j5.fs n),J5 n (j5.fs n),a2i n (j5.fs n),a2I n (j5.fs n),a0z n (j5.fs n),a2k n (j5.fs n),a1t n (j5.fs n),a0M n (j5.fs n),a2H n (j5.fs n),a0q n (j5.fs n),a1o n (j5.fs n),a2K n (j5.fs n),a0y n (j5.fs n),a2j n (j5.fs n),a1P n (j5.fs n)⟩
def I6 (n:Nat)(l1:List Tok)(o9 at3 o5:Int):Option (Nod×Bool×Int×Int):=(j5.fs n).I6 l1 o9 at3 o5
def M9 (n:Nat)(l1:List Tok)(o9 at3 o5:Int):Option (List Nod×Bool×Int×Int):=(j5.fs n).M9 l1 o9 at3 o5
def K8 (n:Nat)(l1:List Tok)(o9 at3 o5:Int):Option (Nod×Bool×Int×Int):=(j5.fs n).K8 l1 o9 at3 o5
def X7 (n:Nat)(l1:List Tok)(o9 at3 o5:Int):Option (Nod×Bool×Int×Int):=(j5.fs n).X7 l1 o9 at3 o5
def H8 (n:Nat)(l1:List Tok)(o9 at3 o5:Int):Option (Nod×Bool×Int×Int):=(j5.fs n).H8 l1 o9 at3 o5
def J2 (n:Nat)(k1:Int)(l2:List Tok)(z8 at4 o8:Int):Option (Nod×Bool×Int×Int):=(j5.fs n).J2 k1 l2 z8 at4 o8
def K5 (n:Nat)(l1:List Tok)(o9 at3 o5:Int):Option (Nod×Bool×Int×Int):=(j5.fs n).K5 l1 o9 at3 o5
def U2 (n:Nat)(l1:List Tok)(o9 at3 o5:Int):Option (Nod×Bool×Int×Int):=(j5.fs n).U2 l1 o9 at3 o5
def W9 (n:Nat)(l1:List Tok)(o9 at3 o5:Int):Option (Nod×Bool×Int×Int):=(j5.fs n).W9 l1 o9 at3 o5
def M5 (n:Nat)(l1:List Nod)(l2:List Tok)(z8 at4 o8:Int):Option (List Nod×Bool×Int×Int×List Nod):=(j5.fs n).M5 l1 l2 z8 at4 o8
def O3 (n:Nat)(l1:List Tok)(o9 at3 o5:Int):Option (Nod×Bool×Int×Int):=(j5.fs n).O3 l1 o9 at3 o5
def U1 (n:Nat)(l1:List Tok)(o9 at3 o5:Int):Option (Nod×Bool×Int×Int):=(j5.fs n).U1 l1 o9 at3 o5
def Y7 (n:Nat)(l1:List Tok)(o9 at3 o5:Int):Option (Nod×Bool×Int×Int):=(j5.fs n).Y7 l1 o9 at3 o5
def M0 (n:Nat)(l1:List Tok)(o9 at3 o5:Int):Option (Nod×Bool×Int×Int):=(j5.fs n).M0 l1 o9 at3 o5
def X8 (n:Nat)(at1:Int)(l2:List Tok)(z8 at4 o8:Int):Option (List Nod×Bool×Int×Int):=(j5.fs n).X8 at1 l2 z8 at4 o8
def V7 (n:Nat)(l1:List Tok)(o9 at3 o5:Int):Option (Nod×Bool×Int×Int):=(j5.fs n).V7 l1 o9 at3 o5
def a3a (n:Nat)(z8:Int)(l2:List Tok)(n1:Nod)(o8:Int)(r6:Str):Nat ->(List Nod)->Int->Option (Lr (List Nod×Int) (Nod×Bool×Int×Int))
  | 0,_,_=>none
  | m8 + 1,l541,a6f =>
      Option.bind (α:=Bool) (
      (C8 9 [108,101,116] l2 z8 a6f o8).bind fun r14 =>
      cond r14 (
      some true) (
      (C8 9 [118,97,114] l2 z8 a6f o8).bind fun r15 =>
      some r15)) fun x550 =>
      cond x550 (
      (E5 l2 z8 a6f o8).bind fun r16 =>
      Option.bind (α:=Int×Int) (
      (w9 [118,97,114] l2 z8 a6f o8).bind fun(r17,at18) =>
      cond r17 (
      some (at18,1)) (
      (w9 [108,101,116] l2 z8 at18 o8).bind fun(r19,at20) =>
      some (at20,0))) fun(c2n,n552) =>
      (q9 1 l2 z8 c2n o8).bind fun(r21,r22,at23) =>
      Option.bind (α:=Bool×Int) (
      cond (!r22) (
      some (true,at23)) (
      (o6 [58] l2 z8 at23 o8).bind fun(r24,at25) =>
      some ((!r24),at25))) fun(x553,b45) =>
      cond x553 (
      some (.out (((⟨n1.op,r6,n1.n,n1.t,n1.ts,n1.l,n1.at_⟩:Nod),false,b45,o8)))) (
      (F6 n l2 z8 b45 o8).bind fun(r26,r27,at28) =>
      Option.bind (α:=Bool×Int) (
      cond (!r27) (
      some (true,at28)) (
      (o6 [59] l2 z8 at28 o8).bind fun(r29,at30) =>
      some ((!r29),at30))) fun(x555,at556) =>
      cond x555 (
      some (.out (((⟨n1.op,r6,n1.n,n1.t,n1.ts,n1.l,n1.at_⟩:Nod),false,at556,o8)))) (
      (app 144 l541 ([(⟨13,r21,n552,r26,[],[],r16⟩:Nod)]:List Nod)).bind fun l31 =>
      a3a n z8 l2 n1 o8 r6 m8 l31 at556))) (
      some (.brk (l541,a6f)))
def a1x (n:Nat)(n1:Nod)(l2:List Tok)(z8 at4 o8:Int):Option (Nod×Bool×Int×Int) :=
 (q9 2 l2 z8 at4 o8).bind fun(r6,r7,at8) =>
 cond (!r7) (
 some ((n1,false,at8,o8))) (
 (a0o n ([]:List Nod) l2 z8 at8 o8).bind fun(r9,r10,at11) =>
 Option.bind (α:=Bool×Int) (
 cond (!r10) (
 some (true,at11)) (
 (o6 [123] l2 z8 at11 o8).bind fun(r12,at13) =>
 some ((!r12),at13))) fun(x504,a19) =>
 cond x504 (
 some (((⟨n1.op,r6,n1.n,n1.t,n1.ts,n1.l,n1.at_⟩:Nod),false,a19,o8))) (
 M4 (α:=List Nod×Int) (
 a3a n z8 l2 n1 o8 r6 n r9 a19) fun(l559,b2R) =>
 M4 (α:=List Nod×Int×Int) (
 (C8 9 [100,101,105,110,105,116] l2 z8 b2R o8).bind fun r32 =>
 cond r32 (
 (E5 l2 z8 b2R o8).bind fun r33 =>
 (w9 [100,101,105,110,105,116] l2 z8 b2R o8).bind fun(r34,at35) =>
 (I6 n l2 z8 at35 o8).bind fun(r36,r37,at38,c67) =>
 cond (!r37) (
 some (.out (((⟨n1.op,r6,n1.n,n1.t,n1.ts,n1.l,n1.at_⟩:Nod),false,at38,c67)))) (
 (app 144 l559 ([(⟨15,[],0,(⟨0,[],0,[]⟩:Typ),[],[r36],r33⟩:Nod)]:List Nod)).bind fun l40 =>
 some (.brk (l40,at38,c67)))) (
 some (.brk (l559,b2R,o8)))) fun(l579,at580,c3G) =>
 (o6 [125] l2 z8 at580 c3G).bind fun(r41,at42) =>
 some (((⟨n1.op,r6,n1.n,n1.t,n1.ts,l579,n1.at_⟩:Nod),r41,at42,c3G))))
def a6t (n1:Nod)(l2:List Tok)(z8 at4 o8:Int):Nod×Bool×Int×Int->Out
 |(r582,r583,at584,place585)=>.ret (.tuple [.agg (c0 r582.op r582.s r582.n r582.t.kind r582.t.name r582.t.n (.sl C9 r582.t.args) (.sl C9 r582.ts) (.sl D8 r582.l) r582.at_),.bool r583]) (hR p8 l2 z8 at584 place585)
def a3J (n:Nat)(z8:Int)(l2:List Tok)(n1:Nod)(o8:Int)(r6:Str):Nat ->(List Nod)->Int->Option (Lr (List Nod×Int) (Nod×Bool×Int))
  | 0,_,_=>none
  | m8 + 1,l541,a6f =>
      Option.bind (α:=Bool) (
      (C8 9 [105,110,100,105,114,101,99,116] l2 z8 a6f o8).bind fun r14 =>
      cond r14 (
      some true) (
      (C8 9 [99,97,115,101] l2 z8 a6f o8).bind fun r15 =>
      some r15)) fun x550 =>
      cond x550 (
      (E5 l2 z8 a6f o8).bind fun r16 =>
      Option.bind (α:=Int×Int) (
      (w9 [105,110,100,105,114,101,99,116] l2 z8 a6f o8).bind fun(r17,at18) =>
      cond r17 (
      some (at18,1)) (
      some (at18,0))) fun(c2n,n552) =>
      (w9 [99,97,115,101] l2 z8 c2n o8).bind fun(r19,at20) =>
      cond (!r19) (
      some (.out (((⟨n1.op,r6,n1.n,n1.t,n1.ts,n1.l,n1.at_⟩:Nod),false,at20)))) (
      (q9 1 l2 z8 at20 o8).bind fun(r21,r22,at23) =>
      cond (!r22) (
      some (.out (((⟨n1.op,r6,n1.n,n1.t,n1.ts,n1.l,n1.at_⟩:Nod),false,at23)))) (
      a3U (α:=Int×List Typ) (
      (o6 [40] l2 z8 at23 o8).bind fun(r24,at25) =>
      cond r24 (
      (O0 n l2 z8 at25 o8).bind fun(r26,r27,at28) =>
      Option.bind (α:=Bool×Int) (
      cond (!r27) (
      some (true,at28)) (
      (o6 [41] l2 z8 at28 o8).bind fun(r29,at30) =>
      some ((!r29),at30))) fun(x553,b45) =>
      cond x553 (
      some (.out (((⟨n1.op,r6,n1.n,n1.t,n1.ts,n1.l,n1.at_⟩:Nod),false,b45)))) (
      some (.brk (b45,r26)))) (
      some (.brk (at25,([]:List Typ))))) fun(b6v,ts556) =>
      (o6 [59] l2 z8 b6v o8).bind fun(r31,at32) =>
      cond (!r31) (
      some (.out (((⟨n1.op,r6,n1.n,n1.t,n1.ts,n1.l,n1.at_⟩:Nod),false,at32)))) (
      (app 144 l541 ([(⟨14,r21,n552,(⟨0,[],0,[]⟩:Typ),ts556,[],r16⟩:Nod)]:List Nod)).bind fun l33 =>
      a3J n z8 l2 n1 o8 r6 m8 l33 at32)))) (
      some (.brk (l541,a6f)))
def a3I (n:Nat)(n1:Nod)(l2:List Tok)(z8 at4 o8:Int):Option (Nod×Bool×Int) :=
 (q9 2 l2 z8 at4 o8).bind fun(r6,r7,at8) =>
 cond (!r7) (
 some ((n1,false,at8))) (
 (a0o n ([]:List Nod) l2 z8 at8 o8).bind fun(r9,r10,at11) =>
 Option.bind (α:=Bool×Int) (
 cond (!r10) (
 some (true,at11)) (
 (o6 [123] l2 z8 at11 o8).bind fun(r12,at13) =>
 some ((!r12),at13))) fun(x504,a19) =>
 cond x504 (
 some (((⟨n1.op,r6,n1.n,n1.t,n1.ts,n1.l,n1.at_⟩:Nod),false,a19))) (
 M4 (α:=List Nod×Int) (
 a3J n z8 l2 n1 o8 r6 n r9 a19) fun(l557,at558) =>
 (o6 [125] l2 z8 at558 o8).bind fun(r34,at35) =>
 some (((⟨n1.op,r6,n1.n,n1.t,n1.ts,l557,n1.at_⟩:Nod),r34,at35))))
def a7u (n1:Nod)(l2:List Tok)(z8 at4 o8:Int):Nod×Bool×Int->Out
 |(a9i,r544,b44)=>.ret (.tuple [.agg (c0 a9i.op a9i.s a9i.n a9i.t.kind a9i.t.name a9i.t.n (.sl C9 a9i.t.args) (.sl C9 a9i.ts) (.sl D8 a9i.l) a9i.at_),.bool r544]) (hR p8 l2 z8 b44 o8)
def a1Q (n:Nat)(z8:Int)(l2:List Tok)(o8:Int):Nat ->(List Nod)->Bool->Int->Option (Lr (List Nod×Int) (List Nod×Bool×Int))
  | 0,_,_,_=>none
  | m4 + 1,l507,more508,b2Q =>
      cond more508 (
      (E5 l2 z8 b2Q o8).bind fun r8 =>
      (F6 n l2 z8 b2Q o8).bind fun(r9,r10,at11) =>
      cond (!r10) (
      some (.out ((l507,false,at11)))) (
      a3U (α:=Int×Str×Int×List Typ) (
      (o6 [58] l2 z8 at11 o8).bind fun(r12,at13) =>
      cond r12 (
      (q9 2 l2 z8 at13 o8).bind fun(r14,r15,at16) =>
      cond (!r15) (
      some (.out ((l507,false,at16)))) (
      some (.brk (at16,r14,1,([]:List Typ))))) (
      (o6 [61,61] l2 z8 at13 o8).bind fun(r17,at18) =>
      cond r17 (
      (F6 n l2 z8 at18 o8).bind fun(r19,r20,at21) =>
      cond (!r20) (
      some (.out ((l507,false,at21)))) (
      some (.brk (at21,[],2,([r19]:List Typ))))) (
      some (.out ((l507,false,at18)))))) fun(b4l,s516,n517,ts518) =>
      (app 144 l507 ([(⟨12,s516,n517,r9,ts518,[],r8⟩:Nod)]:List Nod)).bind fun l22 =>
      (o6 [44] l2 z8 b4l o8).bind fun(r23,at24) =>
      a1Q n z8 l2 o8 m4 l22 r23 at24)) (
      some (.brk (l507,b2Q)))
def a1W (n:Nat)(l1:List Nod)(l2:List Tok)(z8 at4 o8:Int):Option (List Nod×Bool×Int) :=
 (w9 [119,104,101,114,101] l2 z8 at4 o8).bind fun(r6,at7) =>
 cond (!r6) (
 some ((l1,true,at7))) (
 M4 (α:=List Nod×Int) (
 a1Q n z8 l2 o8 n l1 true at7) fun(l519,b0p) =>
 some ((l519,true,b0p)))
def a7b (l1:List Nod)(l2:List Tok)(z8 at4 o8:Int):List Nod×Bool×Int->Out
 |(r521,r522,b0q)=>.ret (.tuple [.st 1 D8 r521,.bool r522]) [(0,.row [.sl p8 l2,.i z8,.i b0q,.i o8]),(1,.tip (tpe 10 (List.length r521)) (List.length r521))]
def P7 (n:Nat)(body1:Bool)(l2:List Tok)(z8 at4 o8:Int):Option (Nod×Bool×Int×Int) :=
 (E5 l2 z8 at4 o8).bind fun r6 =>
 (w9 [102,117,110,99] l2 z8 at4 o8).bind fun(r7,at8) =>
 cond (!r7) (
 some (((⟨7,[],0,(⟨4,[],0,[]⟩:Typ),[],[],r6⟩:Nod),false,at8,o8))) (
 (q9 1 l2 z8 at8 o8).bind fun(r9,r10,at11) =>
 cond (!r10) (
 some (((⟨7,[],0,(⟨4,[],0,[]⟩:Typ),[],[],r6⟩:Nod),false,at11,o8))) (
 (a0o n ([]:List Nod) l2 z8 at11 o8).bind fun(r12,r13,at14) =>
 Option.bind (α:=Bool×Int) (
 cond (!r13) (
 some (true,at14)) (
 (o6 [40] l2 z8 at14 o8).bind fun(r15,at16) =>
 some ((!r15),at16))) fun(x507,b6s) =>
 cond x507 (
 some (((⟨7,r9,0,(⟨4,[],0,[]⟩:Typ),[],[],r6⟩:Nod),false,b6s,o8))) (
 (a0n n r12 l2 z8 b6s o8).bind fun(r17,r18,at19) =>
 cond (!r18) (
 some (((⟨7,r9,0,(⟨4,[],0,[]⟩:Typ),[],[],r6⟩:Nod),false,at19,o8))) (
 M4 (α:=List Nod×Int) (
 (C8 9 [116,104,114,111,119,115] l2 z8 at19 o8).bind fun r20 =>
 cond r20 (
 (E5 l2 z8 at19 o8).bind fun r21 =>
 (w9 [116,104,114,111,119,115] l2 z8 at19 o8).bind fun(r22,at23) =>
 (o6 [40] l2 z8 at23 o8).bind fun(r24,at25) =>
 cond (!r24) (
 some (.out (((⟨7,r9,0,(⟨4,[],0,[]⟩:Typ),[],[],r6⟩:Nod),false,at25,o8)))) (
 (F6 n l2 z8 at25 o8).bind fun(r26,r27,at28) =>
 Option.bind (α:=Bool×Int) (
 cond (!r27) (
 some (true,at28)) (
 (o6 [41] l2 z8 at28 o8).bind fun(r29,at30) =>
 some ((!r29),at30))) fun(x524,b4n) =>
 cond x524 (
 some (.out (((⟨7,r9,0,(⟨4,[],0,[]⟩:Typ),[],[],r6⟩:Nod),false,b4n,o8)))) (
 (app 144 r17 ([(⟨11,[],0,r26,[],[],r21⟩:Nod)]:List Nod)).bind fun l31 =>
 some (.brk (l31,b4n))))) (
 some (.brk (r17,at19)))) fun(l559,b2R) =>
 M4 (α:=Int×Int×Str×Int×List Typ) (
 (o6 [45,62] l2 z8 b2R o8).bind fun(r32,at33) =>
 cond r32 (
 (F6 n l2 z8 at33 o8).bind fun(r34,r35,at36) =>
 cond (!r35) (
 some (.out (((⟨7,r9,0,(⟨4,[],0,[]⟩:Typ),[],[],r6⟩:Nod),false,at36,o8)))) (
 some (.brk (at36,r34.kind,r34.name,r34.n,r34.args)))) (
 some (.brk (at33,4,[],0,([]:List Typ))))) fun(c2o,c01,c1b,n564,c0F) =>
 (a1W n l559 l2 z8 c2o o8).bind fun(r37,r38,at39) =>
 cond (!r38) (
 some (((⟨7,r9,0,(⟨c01,c1b,n564,c0F⟩:Typ),[],[],r6⟩:Nod),false,at39,o8))) (
 M4 (α:=List Nod×Int×Int×Int) (
 cond body1 (
 (I6 n l2 z8 at39 o8).bind fun(r40,r41,at42,b3S) =>
 cond (!r41) (
 some (.out (((⟨7,r9,1,(⟨c01,c1b,n564,c0F⟩:Typ),[],[],r6⟩:Nod),false,at42,b3S)))) (
 (app 144 r37 ([r40]:List Nod)).bind fun l44 =>
 some (.brk (l44,at42,b3S,1)))) (
 some (.brk (r37,at39,o8,0)))) fun(l566,at567,place568,n569) =>
 some (((⟨7,r9,n569,(⟨c01,c1b,n564,c0F⟩:Typ),[],l566,r6⟩:Nod),true,at567,place568)))))))
def a5x (body1:Bool)(l2:List Tok)(z8 at4 o8:Int):Nod×Bool×Int×Int->Out
 |(b0k,r571,at572,place573)=>.ret (.tuple [.agg (c0 b0k.op b0k.s b0k.n b0k.t.kind b0k.t.name b0k.t.n (.sl C9 b0k.t.args) (.sl C9 b0k.ts) (.sl D8 b0k.l) b0k.at_),.bool r571]) (hR p8 l2 z8 at572 place573)
def a14 (n:Nat)(z8:Int)(l2:List Tok)(n1:Nod)(o8:Int)(r6:Str):Nat ->(List Nod)->Int->Option (Lr (List Nod×Int) (Nod×Bool×Int×Int))
  | 0,_,_=>none
  | m6 + 1,b6Z,a4r =>
      (C8 9 [116,121,112,101] l2 z8 a4r o8).bind fun r11 =>
      cond r11 (
      (E5 l2 z8 a4r o8).bind fun r12 =>
      (w9 [116,121,112,101] l2 z8 a4r o8).bind fun(r13,at14) =>
      (q9 2 l2 z8 at14 o8).bind fun(r15,r16,at17) =>
      cond (!r16) (
      some (.out (((⟨n1.op,r6,n1.n,n1.t,n1.ts,n1.l,n1.at_⟩:Nod),false,at17,o8)))) (
      (a1w n l2 z8 at17 o8).bind fun(r18,r19,at20) =>
      Option.bind (α:=Bool×Int) (
      cond (!r19) (
      some (true,at20)) (
      (o6 [59] l2 z8 at20 o8).bind fun(r21,at22) =>
      some ((!r21),at22))) fun(x519,b0p) =>
      cond x519 (
      some (.out (((⟨n1.op,r6,n1.n,n1.t,n1.ts,n1.l,n1.at_⟩:Nod),false,b0p,o8)))) (
      (app 144 b6Z ([(⟨16,r15,0,(⟨0,[],0,[]⟩:Typ),[],r18,r12⟩:Nod)]:List Nod)).bind fun l23 =>
      a14 n z8 l2 n1 o8 r6 m6 l23 b0p))) (
      some (.brk (b6Z,a4r)))
def a1C (n:Nat)(z8:Int)(l2:List Tok)(n1:Nod)(r6:Str):Nat ->(List Nod)->Int->Int->Option (Lr (List Nod×Int×Int) (Nod×Bool×Int×Int))
  | 0,_,_,_=>none
  | m18 + 1,l595,b7E,b8A =>
      (C8 9 [102,117,110,99] l2 z8 b7E b8A).bind fun r24 =>
      cond r24 (
      (P7 n false l2 z8 b7E b8A).bind fun(r25,r26,at27,c1q) =>
      Option.bind (α:=Bool×Int) (
      cond (!r26) (
      some (true,at27)) (
      (o6 [59] l2 z8 at27 c1q).bind fun(r29,at30) =>
      some ((!r29),at30))) fun(x615,at616) =>
      cond x615 (
      some (.out (((⟨n1.op,r6,n1.n,n1.t,n1.ts,n1.l,n1.at_⟩:Nod),false,at616,c1q)))) (
      (app 144 l595 ([r25]:List Nod)).bind fun l31 =>
      a1C n z8 l2 n1 r6 m18 l31 at616 c1q)) (
      some (.brk (l595,b7E,b8A)))
def a1O (n:Nat)(n1:Nod)(l2:List Tok)(z8 at4 o8:Int):Option (Nod×Bool×Int×Int) :=
 (q9 2 l2 z8 at4 o8).bind fun(r6,r7,at8) =>
 Option.bind (α:=Bool×Int) (
 cond (!r7) (
 some (true,at8)) (
 (o6 [123] l2 z8 at8 o8).bind fun(r9,at10) =>
 some ((!r9),at10))) fun(x502,a18) =>
 cond x502 (
 some ((n1,false,a18,o8))) (
 M4 (α:=List Nod×Int) (
 a14 n z8 l2 n1 o8 r6 n ([]:List Nod) a18) fun(l523,a9B) =>
 M4 (α:=List Nod×Int×Int) (
 a1C n z8 l2 n1 r6 n l523 a9B o8) fun(l620,at621,c3J) =>
 (o6 [125] l2 z8 at621 c3J).bind fun(r32,at33) =>
 some (((⟨n1.op,r6,n1.n,n1.t,n1.ts,l620,n1.at_⟩:Nod),r32,at33,c3J)))
def a5z (n1:Nod)(l2:List Tok)(z8 at4 o8:Int):Nod×Bool×Int×Int->Out
 |(r600,r601,at602,place603)=>.ret (.tuple [.agg (c0 r600.op r600.s r600.n r600.t.kind r600.t.name r600.t.n (.sl C9 r600.t.args) (.sl C9 r600.ts) (.sl D8 r600.l) r600.at_),.bool r601]) (hR p8 l2 z8 at602 place603)
def a2p (n:Nat)(z8:Int)(l2:List Tok)(n1:Nod)(o8:Int)(r11:Str)(r6:Typ):Nat ->(List Nod)->Int->Option (Lr (List Nod×Int) (Nod×Bool×Int×Int))
  | 0,_,_=>none
  | m12 + 1,l533,b0r =>
      (C8 9 [116,121,112,101] l2 z8 b0r o8).bind fun r19 =>
      cond r19 (
      (E5 l2 z8 b0r o8).bind fun r20 =>
      (w9 [116,121,112,101] l2 z8 b0r o8).bind fun(r21,at22) =>
      (q9 2 l2 z8 at22 o8).bind fun(r23,r24,at25) =>
      Option.bind (α:=Bool×Int) (
      cond (!r24) (
      some (true,at25)) (
      (o6 [61] l2 z8 at25 o8).bind fun(r26,at27) =>
      some ((!r26),at27))) fun(x546,at547) =>
      cond x546 (
      some (.out (((⟨n1.op,r11,n1.n,r6,n1.ts,n1.l,n1.at_⟩:Nod),false,at547,o8)))) (
      (F6 n l2 z8 at547 o8).bind fun(r28,r29,at30) =>
      Option.bind (α:=Bool×Int) (
      cond (!r29) (
      some (true,at30)) (
      (o6 [59] l2 z8 at30 o8).bind fun(r31,at32) =>
      some ((!r31),at32))) fun(x548,b4o) =>
      cond x548 (
      some (.out (((⟨n1.op,r11,n1.n,r6,n1.ts,n1.l,n1.at_⟩:Nod),false,b4o,o8)))) (
      (app 144 l533 ([(⟨17,r23,0,r28,[],[],r20⟩:Nod)]:List Nod)).bind fun l33 =>
      a2p n z8 l2 n1 o8 r11 r6 m12 l33 b4o))) (
      some (.brk (l533,b0r)))
def a2q (n:Nat)(z8:Int)(l2:List Tok)(n1:Nod)(r11:Str)(r6:Typ):Nat ->(List Nod)->Int->Int->Option (Lr (List Nod×Int×Int) (Nod×Bool×Int×Int))
  | 0,_,_,_=>none
  | m24 + 1,l575,at576,b8z =>
      (C8 9 [102,117,110,99] l2 z8 at576 b8z).bind fun r34 =>
      cond r34 (
      (P7 n true l2 z8 at576 b8z).bind fun(r35,r36,at37,b7o) =>
      cond (!r36) (
      some (.out (((⟨n1.op,r11,n1.n,r6,n1.ts,n1.l,n1.at_⟩:Nod),false,at37,b7o)))) (
      (app 144 l575 ([r35]:List Nod)).bind fun l39 =>
      a2q n z8 l2 n1 r11 r6 m24 l39 at37 b7o)) (
      some (.brk (l575,at576,b8z)))
def a2J (n:Nat)(n1:Nod)(l2:List Tok)(z8 at4 o8:Int):Option (Nod×Bool×Int×Int) :=
 (F6 n l2 z8 at4 o8).bind fun(r6,r7,at8) =>
 Option.bind (α:=Bool×Int) (
 cond (!r7) (
 some (true,at8)) (
 (o6 [58] l2 z8 at8 o8).bind fun(r9,at10) =>
 some ((!r9),at10))) fun(x503,a5C) =>
 cond x503 (
 some ((n1,false,a5C,o8))) (
 (q9 2 l2 z8 a5C o8).bind fun(r11,r12,at13) =>
 cond (!r12) (
 some (((⟨n1.op,n1.s,n1.n,r6,n1.ts,n1.l,n1.at_⟩:Nod),false,at13,o8))) (
 (a1W n ([]:List Nod) l2 z8 at13 o8).bind fun(r14,r15,at16) =>
 Option.bind (α:=Bool×Int) (
 cond (!r15) (
 some (true,at16)) (
 (o6 [123] l2 z8 at16 o8).bind fun(r17,at18) =>
 some ((!r17),at18))) fun(x513,a6e) =>
 cond x513 (
 some (((⟨n1.op,r11,n1.n,r6,n1.ts,n1.l,n1.at_⟩:Nod),false,a6e,o8))) (
 M4 (α:=List Nod×Int) (
 a2p n z8 l2 n1 o8 r11 r6 n r14 a6e) fun(l552,b6u) =>
 M4 (α:=List Nod×Int×Int) (
 a2q n z8 l2 n1 r11 r6 n l552 b6u o8) fun(l599,at600,c3H) =>
 (o6 [125] l2 z8 at600 c3H).bind fun(r40,at41) =>
 some (((⟨n1.op,r11,n1.n,r6,n1.ts,l599,n1.at_⟩:Nod),r40,at41,c3H)))))
def a6r (n1:Nod)(l2:List Tok)(z8 at4 o8:Int):Nod×Bool×Int×Int->Out
 |(r580,r581,at582,place583)=>.ret (.tuple [.agg (c0 r580.op r580.s r580.n r580.t.kind r580.t.name r580.t.n (.sl C9 r580.t.args) (.sl C9 r580.ts) (.sl D8 r580.l) r580.at_),.bool r581]) (hR p8 l2 z8 at582 place583)
def a0j (n:Nat)(l1:List Tok)(o9 at3 o5:Int):Option (Nod×Bool×Int×Int) :=
 (E5 l1 o9 at3 o5).bind fun r5 =>
 Option.bind (α:=Int×Int) (
 (w9 [109,111,118,101,111,110,108,121] l1 o9 at3 o5).bind fun(r6,at7) =>
 cond r6 (
 some (at7,1)) (
 some (at7,0))) fun(a5u,n508) =>
 Option.bind (α:=Int×Int) (
 (w9 [102,114,111,122,101,110] l1 o9 a5u o5).bind fun(r8,at9) =>
 cond r8 (
 some (at9,(w64 (n508+2)))) (
 some (at9,n508))) fun(a18,b0F) =>
 (w9 [115,116,114,117,99,116] l1 o9 a18 o5).bind fun(r10,at11) =>
 cond r10 (
 (a1x n (⟨2,[],b0F,(⟨0,[],0,[]⟩:Typ),[],[],r5⟩:Nod) l1 o9 at11 o5).bind fun(r12,r13,at14,a9R) =>
 some ((r12,r13,at14,a9R))) (
 cond (!eqB (IntKind.wrap .i64 ((BitVec.ofInt 64 b0F &&& BitVec.ofInt 64 1).toNat:Nat)) 0) (
 some (((⟨0,[],b0F,(⟨0,[],0,[]⟩:Typ),[],[],r5⟩:Nod),false,at11,o5))) (
 (w9 [101,110,117,109] l1 o9 at11 o5).bind fun(r16,at17) =>
 cond r16 (
 (a3I n (⟨3,[],b0F,(⟨0,[],0,[]⟩:Typ),[],[],r5⟩:Nod) l1 o9 at17 o5).bind fun(r18,r19,at20) =>
 some ((r18,r19,at20,o5))) (
 cond (!eqB b0F 0) (
 some (((⟨0,[],b0F,(⟨0,[],0,[]⟩:Typ),[],[],r5⟩:Nod),false,at17,o5))) (
 (w9 [99,108,97,115,115] l1 o9 at17 o5).bind fun(r21,at22) =>
 cond r21 (
 (a1x n (⟨4,[],b0F,(⟨0,[],0,[]⟩:Typ),[],[],r5⟩:Nod) l1 o9 at22 o5).bind fun(r23,r24,at25,b5r) =>
 some ((r23,r24,at25,b5r))) (
 (w9 [112,114,111,116,111,99,111,108] l1 o9 at22 o5).bind fun(r27,at28) =>
 cond r27 (
 (a1O n (⟨5,[],b0F,(⟨0,[],0,[]⟩:Typ),[],[],r5⟩:Nod) l1 o9 at28 o5).bind fun(r29,r30,at31,b1F) =>
 some ((r29,r30,at31,b1F))) (
 (w9 [101,120,116,101,110,100] l1 o9 at28 o5).bind fun(r33,at34) =>
 cond r33 (
 (a2J n (⟨6,[],b0F,(⟨0,[],0,[]⟩:Typ),[],[],r5⟩:Nod) l1 o9 at34 o5).bind fun(r35,r36,at37,b7o) =>
 some ((r35,r36,at37,b7o))) (
 (P7 n true l1 o9 at34 o5).bind fun(r39,r40,at41,place42) =>
 some ((r39,r40,at41,place42)))))))))
def a4N (l1:List Tok)(o9 at3 o5:Int):Nod×Bool×Int×Int->Out
 |(r559,r560,c2o,b5u)=>.ret (.tuple [.agg (c0 r559.op r559.s r559.n r559.t.kind r559.t.name r559.t.n (.sl C9 r559.t.args) (.sl C9 r559.ts) (.sl D8 r559.l) r559.at_),.bool r560]) (hR p8 l1 o9 c2o b5u)
structure Q9 where
 a2x:Nod->Option (Int×Int)
def a5M (n:Nat)(Φ:Q9)(n1:Nod):Nat->Int->Int->Int->Option (Int×Int)
  | 0,_,_,_=>none
  | m3 + 1,b27,c6q,b51 =>
      cond (ltB b51 (List.length n1.l:Int)) (
      (idx' n1.l b51).bind fun x2 =>
      (Φ.a2x x2).bind fun(r3,r4) =>
      a5M n Φ n1 m3 (w64 (b27+r3)) (max c6q r4) (w64 (b51+1))) (
      some (b27,c6q))
def a6U (n:Nat)(Φ:Q9)(n1:Nod):Option (Int×Int) :=
 Option.bind (α:=Int×Int) (
 a5M n Φ n1 n 1 0 0) fun(b8f,deep511) =>
 some ((b8f,(w64 (deep511+1))))
def b3k (n1:Nod):Int×Int->Out
 |(a9z,a8G)=>.ret (.tuple [.i a9z,.i a8G]) []
def Q9.fs:Nat->Q9
 | 0=>⟨fun _=>none⟩
 | n+1=>⟨a6U n (Q9.fs n)⟩
def a2x (n:Nat)(n1:Nod):Option (Int×Int):=(Q9.fs n).a2x n1
def a5j (t1:Tok):Option (Int) :=
 cond (!eqB t1.kind 8) (
 some (0)) (
 cond (eqS t1.text [123]) (
 some (1)) (
 cond (eqS t1.text [125]) (
 some ((-1))) (
 some (0))))
def b66 (t1:Tok):Int->Out
 | V5=>.ret (.i V5) []
def a6V (t1:Tok):Option (Bool) :=
 cond (!eqB t1.kind 9) (
 some (false)) (
 Option.bind (α:=Bool) (
 cond (eqS t1.text [115,116,114,117,99,116]) (
 some (eqS t1.text [115,116,114,117,99,116])) (
 cond (eqS t1.text [101,110,117,109]) (
 some (eqS t1.text [101,110,117,109])) (
 cond (eqS t1.text [99,108,97,115,115]) (
 some (eqS t1.text [99,108,97,115,115])) (
 cond (eqS t1.text [112,114,111,116,111,99,111,108]) (
 some (eqS t1.text [112,114,111,116,111,99,111,108])) (
 cond (eqS t1.text [101,120,116,101,110,100]) (
 some (eqS t1.text [101,120,116,101,110,100])) (
 cond (eqS t1.text [102,117,110,99]) (
 some (eqS t1.text [102,117,110,99])) (
 cond (eqS t1.text [109,111,118,101,111,110,108,121]) (
 some (eqS t1.text [109,111,118,101,111,110,108,121])) (
 some (eqS t1.text [102,114,111,122,101,110]))))))))) fun x502 =>
 cond x502 (
 some (true)) (
 some (false)))
def b0X (t1:Tok):Bool->Out
 | V5=>.ret (.bool V5) []
def a3k (n:Nat)(l1:List Tok):Nat->Int->Int->Int->Option (Int×Int)
  | 0,_,_,_=>none
  | m6 + 1,k505,c6R,i507 =>
      Option.bind (α:=Bool) (
      cond (ltB i507 k505) (
      some (ltB i507 (List.length l1:Int))) (
      some false)) fun x508 =>
      cond x508 (
      (idx' l1 i507).bind fun x4 =>
      (a5j x4).bind fun r5 =>
      a3k n l1 m6 k505 (w64 (c6R+r5)) (w64 (i507+1))) (
      some (k505,c6R))
def a03 (n:Nat)(l1:List Tok):Nat->Int->Int->Option (Int)
  | 0,_,_=>none
  | m9 + 1,k522,c6S =>
      Option.bind (α:=Bool) (
      cond (ltB k522 (List.length l1:Int)) (
      (idx' l1 k522).bind fun x6 =>
      (a6V x6).bind fun r7 =>
      cond r7 (
      some (!(leB c6S 0))) (
      some true)) (
      some false)) fun x534 =>
      cond x534 (
      (idx' l1 k522).bind fun x8 =>
      (a5j x8).bind fun r9 =>
      a03 n l1 m9 (w64 (k522+1)) (w64 (c6S+r9))) (
      some k522)
def a4O (n:Nat)(l1:List Tok)(a8q at3:Int):Option (Int) :=
 Option.bind (α:=Int) (
 cond (eqB at3 a8q) (
 some (w64 (a8q+1))) (
 some at3)) fun k504 =>
 Option.bind (α:=Int×Int) (
 a3k n l1 n k504 0 a8q) fun(k512,open513) =>
 Option.bind (α:=Int) (
 a03 n l1 n k512 open513) fun k537 =>
 some ((min k537 (List.length l1:Int)))
def a8s (l1:List Tok)(a8q at3:Int):Int->Out
 | a9h=>.ret (.i a9h) []
noncomputable def a0E (n:Nat)(l2:List Tok)(U8:Str):Nat->Int ->(List Flt)->Int->Int ->(List Nod)->Option (List Flt×List Nod)
  | 0,_,_,_,_,_=>none
  | m8 + 1,b28,a7z,c2p,place596,l597 =>
      Option.bind (α:=Bool) (
      cond (ltB c2p (List.length l2:Int)) (
      some (ltB (List.length a7z:Int) 20)) (
      some false)) fun x607 =>
      cond x607 (
      (a0j n l2 (List.length U8:Int) c2p place596).bind fun(r5,r6,at7,a4R) =>
      cond r6 (
      (a2x n r5).bind fun(r9,r10) =>
      cond (ltB 40 (w64 (r10+1))) (
      (idx' l2 c2p).bind fun x11 =>
      (app 16 a7z ([(⟨21,x11.at_⟩:Flt)]:List Flt)).bind fun l12 =>
      a0E n l2 U8 m8 b28 l12 at7 a4R l597) (
      cond (ltB 4000 (w64 (b28+r9))) (
      (idx' l2 c2p).bind fun x13 =>
      (app 16 a7z ([(⟨2,x13.at_⟩:Flt)]:List Flt)).bind fun l14 =>
      a0E n l2 U8 m8 b28 l14 at7 a4R l597) (
      (app 144 l597 ([r5]:List Nod)).bind fun l15 =>
      a0E n l2 U8 m8 (w64 (b28+r9)) a7z at7 a4R l15))) (
      Option.bind (α:=List Flt×Int) (
      cond (leB 0 a4R) (
      (app 16 a7z ([(⟨22,a4R⟩:Flt)]:List Flt)).bind fun l16 =>
      some (l16,(-1))) (
      (E5 l2 (List.length U8:Int) at7 a4R).bind fun r17 =>
      (app 16 a7z ([(⟨20,r17⟩:Flt)]:List Flt)).bind fun l18 =>
      some (l18,a4R))) fun(c7v,place609) =>
      (a4O n l2 c2p at7).bind fun r19 =>
      a0E n l2 U8 m8 b28 c7v r19 place609 l597)) (
      some (a7z,l597))
noncomputable def a6T (n:Nat)(U8:Str):Option (Nod×List Flt) :=
 (a7M U8).bind fun(l2,c3,a4) =>
 cond (!eqB c3 0) (
 some (((⟨0,[],0,(⟨0,[],0,[]⟩:Typ),[],[],0⟩:Nod),([(⟨c3,a4⟩:Flt)]:List Flt)))) (
 Option.bind (α:=List Flt×List Nod) (
 a0E n l2 U8 n 1 ([]:List Flt) 0 (-1) ([]:List Nod)) fun(c7u,l553) =>
 some (((⟨1,[],0,(⟨0,[],0,[]⟩:Typ),[],l553,0⟩:Nod),c7u)))
def b0W (U8:Str):Nod×List Flt->Out
 |(r554,r555)=>.ret (.tuple [.agg (c0 r554.op r554.s r554.n r554.t.kind r554.t.name r554.t.n (.sl C9 r554.t.args) (.sl C9 r554.ts) (.sl D8 r554.l) r554.at_),.sl a5D r555]) []
def a2C (n:Nat)(a1 b2:List Flt):Nat->Int->Option (Lr (Unit) (Bool))
  | 0,_=>none
  | m4 + 1,i501 =>
      cond (ltB i501 (List.length a1:Int)) (
      (idx' a1 i501).bind fun x3 =>
      (idx' b2 i501).bind fun x4 =>
      cond (!((eqB x3.code x4.code)&&((eqB x3.at_ x4.at_)&&true))) (
      some (.out (false))) (
      a2C n a1 b2 m4 (w64 (i501+1)))) (
      some (.brk ()))
def a5p (n:Nat)(a1 b2:List Flt):Option (Bool) :=
 cond (!eqB (List.length a1:Int) (List.length b2:Int)) (
 some (false)) (
 M4 (α:=Unit) (
 a2C n a1 b2 n 0) fun _ =>
 some (true))
def a7U (a1 b2:List Flt):Bool->Out
 | b65=>.ret (.bool b65) []
structure G9 where
 a0c:Typ->Typ->Option (Bool)
 Y6:(List Typ) ->(List Typ)->Option (Bool)
def a5i (n:Nat)(Φ:G9)(a1 b2:Typ):Option (Bool) :=
 cond (eqB a1.kind b2.kind) (
 cond (eqS a1.name b2.name) (
 cond (eqB a1.n b2.n) (
 (Φ.Y6 a1.args b2.args).bind fun r3 =>
 some (r3)) (
 some (false))) (
 some (false))) (
 some (false))
def b6h (a1 b2:Typ):Bool->Out
 | V5=>.ret (.bool V5) []
def a4o (n:Nat)(Φ:G9)(a1 b2:List Typ):Nat->Int->Option (Lr (Unit) (Bool))
  | 0,_=>none
  | m4 + 1,b51 =>
      cond (ltB b51 (List.length a1:Int)) (
      (idx' a1 b51).bind fun x3 =>
      (idx' b2 b51).bind fun x4 =>
      (Φ.a0c x3 x4).bind fun r5 =>
      cond (!r5) (
      some (.out (false))) (
      a4o n Φ a1 b2 m4 (w64 (b51+1)))) (
      some (.brk ()))
def a4L (n:Nat)(Φ:G9)(a1 b2:List Typ):Option (Bool) :=
 cond (!eqB (List.length a1:Int) (List.length b2:Int)) (
 some (false)) (
 M4 (α:=Unit) (
 a4o n Φ a1 b2 n 0) fun _ =>
 some (true))
def a9T (a1 b2:List Typ):Bool->Out
 | V5=>.ret (.bool V5) []
def G9.fs:Nat->G9
 | 0=>⟨fun _ _=>none,fun _ _=>none⟩
 | n+1=>⟨a5i n (G9.fs n),a4L n (G9.fs n)⟩
def a0c (n:Nat)(a1 b2:Typ):Option (Bool):=(G9.fs n).a0c a1 b2
def Y6 (n:Nat)(a1 b2:List Typ):Option (Bool):=(G9.fs n).Y6 a1 b2
structure I5 where
 a0F:Nod->Nod->Bool->Option (Bool)
 a1d:(List Nod) ->(List Nod)->Bool->Option (Bool)
def a5h (n:Nat)(Φ:I5)(a1 b2:Nod)(at3:Bool):Option (Bool) :=
 Option.bind (α:=Bool) (
 cond (!eqB a1.op b2.op) (
 some true) (
 cond (!eqS a1.s b2.s) (
 some true) (
 cond (!eqB a1.n b2.n) (
 some true) (
 cond at3 (
 cond (!eqB a1.at_ b2.at_) (
 some true) (
 (a0c n a1.t b2.t).bind fun r4 =>
 cond (!r4) (
 some true) (
 (Y6 n a1.ts b2.ts).bind fun r5 =>
 some (!r5)))) (
 (a0c n a1.t b2.t).bind fun r6 =>
 cond (!r6) (
 some true) (
 (Y6 n a1.ts b2.ts).bind fun r7 =>
 some (!r7))))))) fun x501 =>
 cond x501 (
 some (false)) (
 (Φ.a1d a1.l b2.l at3).bind fun r8 =>
 some (r8))
def b0V (a1 b2:Nod)(at3:Bool):Bool->Out
 | r503=>.ret (.bool r503) []
def a4n (n:Nat)(Φ:I5)(a1:List Nod)(at3:Bool)(b2:List Nod):Nat->Int->Option (Lr (Unit) (Bool))
  | 0,_=>none
  | m4 + 1,b51 =>
      cond (ltB b51 (List.length a1:Int)) (
      (idx' a1 b51).bind fun x4 =>
      (idx' b2 b51).bind fun x5 =>
      (Φ.a0F x4 x5 at3).bind fun r6 =>
      cond (!r6) (
      some (.out (false))) (
      a4n n Φ a1 at3 b2 m4 (w64 (b51+1)))) (
      some (.brk ()))
def a4K (n:Nat)(Φ:I5)(a1 b2:List Nod)(at3:Bool):Option (Bool) :=
 cond (!eqB (List.length a1:Int) (List.length b2:Int)) (
 some (false)) (
 M4 (α:=Unit) (
 a4n n Φ a1 at3 b2 n 0) fun _ =>
 some (true))
def a9S (a1 b2:List Nod)(at3:Bool):Bool->Out
 | V5=>.ret (.bool V5) []
def I5.fs:Nat->I5
 | 0=>⟨fun _ _ _=>none,fun _ _ _=>none⟩
 | n+1=>⟨a5h n (I5.fs n),a4K n (I5.fs n)⟩
def a0F (n:Nat)(a1 b2:Nod)(at3:Bool):Option (Bool):=(I5.fs n).a0F a1 b2 at3
def a1d (n:Nat)(a1 b2:List Nod)(at3:Bool):Option (Bool):=(I5.fs n).a1d a1 b2 at3
noncomputable def a4B (n:Nat)(U8:Str):Option (Bool) :=
 (b1p U8).bind fun _ =>
 cond (ltB 8200 (List.length U8:Int)) (
 (c0G).bind fun bb2 =>
 some (bb2)) (
 (a6I n U8).bind fun(r3,r4) =>
 (a6T n U8).bind fun(r5,r6) =>
 (a5p n r4 r6).bind fun r7 =>
 cond r7 (
 (a0F n r3 r5 true).bind fun r8 =>
 cond r8 (
 (c0G).bind fun bb9 =>
 some (bb9)) (
 some (false))) (
 some (false)))
def b1o (U8:Str):Bool->Out
 | V5=>.ret (.bool V5) []
end Go.Proofs.YtcbjnilpecpbmaaGreatDoor
namespace Go.Proofs.YtcbjnilpecpbmaaGreatDoor
open Go Go.Vm
theorem a5l {a:Int}(h1:-9223372036854775808<=a)(h2:a<=9223372036854775807):w64 a=a:=by
 unfold w64
 simp only[IntKind.wrap,IntKind.bits,IntKind.signed]
 simp
 omega
theorem a0r {k:Nat}(h:k<=1000000):w64 ((k:Int)+1) =((k+1:Nat):Int):=by rw[a5l (by omega) (by omega)];rfl
theorem a5H {a b:Int}(h:a<b):ltB a b=true:=by simp[ltB,h]
theorem a6G {a b:Int}(h:¬a<b):ltB a b=false:=by simp[ltB,h]
theorem c2W {a b:Int}(h:a<=b):leB a b=true:=by simp[leB,h]
theorem c2V {a b:Int}(h:¬a<=b):leB a b=false:=by simp[leB,h]
theorem a3V {a b:Int}(h:a=b):eqB a b=true:=by simp[eqB,h]
theorem a6z {a b:Int}(h:¬a=b):eqB a b=false:=by simp[eqB,h]
theorem a2B (s:Str):eqS s s=true:=by simp[eqS]
theorem a2A (a:UInt8)(r:Str):eqS (a::r) []=false:=by simp[eqS]
theorem a2O {α:Type}{l:List α}{i:Nat}(h:i<l.length):idx' l (i:Int)=some l[i]:=by
 have h1:inR (i:Int) l.length=true:=by simp[inR,h]
 simp[idx',h1,h]
theorem b4B {α:Type}{b:Nat}{l m:List α}(h:(l.length+m.length)*(b+1)<=70368744177664):app b l m=some (l++m):=by
 unfold app leN
 rw[decide_eq_true h]
def isT (l:List Tok)(kind:Int)(s:Str)(k:Nat):Bool:=match l[k]? with
 | some t=>eqB t.kind kind&&eqS t.text s
 | none=>false
def isK (l:List Tok)(kind:Int)(k:Nat):Bool:=match l[k]? with
 | some t=>eqB t.kind kind
 | none=>false
def I7 (l:List Tok)(size:Int)(k:Nat):Int:=match l[k]? with
 | some t=>t.at_
 | none=>size
def N8 (l:List Tok)(k:Nat):Str:=match l[k]? with
 | some t=>t.text
 | none=>[]
theorem a2b {l:List Tok}{kind:Int}{s:Str}{k:Nat}(h:isT l kind s k=true):k<l.length:=by
 unfold isT at h
 rcases Nat.lt_or_ge k l.length with h1|h1
 ·exact h1
 ·rw[List.getElem?_eq_none h1]at h;cases h
theorem b22 {l:List Tok}{kind:Int}{k:Nat}(h:isK l kind k=true):k<l.length:=by
 unfold isK at h
 rcases Nat.lt_or_ge k l.length with h1|h1
 ·exact h1
 ·rw[List.getElem?_eq_none h1]at h;cases h
section
variable {l:List Tok} (hl:l.length<=3000) {k:Nat} (hk:k<=l.length) (size pl:Int)
include hl hk
theorem b7Y (kind:Int)(s:Str)(hs:eqS s []=false):u6 0 kind s l k size=some (isT l kind s k):=by
 unfold u6 isT
 rw[Int.add_zero,a5l (by omega) (by omega)]
 rcases Nat.lt_or_ge k l.length with h|h
 ·rw[c2V (by omega),cond_false,a2O h,Option.bind_some,List.getElem?_eq_getElem h]
  simp only
  rw[hs]
  cases eqB l[k].kind kind<;>simp
 ·rw[c2W (by omega),cond_true,List.getElem?_eq_none h]
theorem b7W (kind:Int):u6 0 kind [] l k size=some (isK l kind k):=by
 unfold u6 isK
 rw[Int.add_zero,a5l (by omega) (by omega)]
 rcases Nat.lt_or_ge k l.length with h|h
 ·rw[c2V (by omega),cond_false,a2O h,Option.bind_some,List.getElem?_eq_getElem h]
  simp only
  rw[a2B]
  cases eqB l[k].kind kind<;>simp
 ·rw[c2W (by omega),cond_true,List.getElem?_eq_none h]
theorem b7g:a0P l k size=some (I7 l size k):=by
 unfold a0P I7
 rcases Nat.lt_or_ge k l.length with h|h
 ·rw[a5H (by omega),cond_true,a2O h,Option.bind_some,List.getElem?_eq_getElem h]
 ·rw[a6G (by omega),cond_false,List.getElem?_eq_none h]
theorem a6i:E5 l size k pl=some (I7 l size k):=by
 unfold E5 I7
 rcases Nat.lt_or_ge k l.length with h|h
 ·rw[a5H (by omega),cond_true,a2O h,Option.bind_some,List.getElem?_eq_getElem h]
 ·rw[a6G (by omega),cond_false,List.getElem?_eq_none h]
theorem b7e:Y5 l k size=some (.pan (I7 l size k)):=by
 unfold Y5
 rw[b7g hl hk];rfl
theorem a9J (kind:Int)(s:Str):C8 kind s l size k pl=some (isT l kind s k):=by
 unfold C8 isT
 rcases Nat.lt_or_ge k l.length with h|h
 ·rw[a5H (by omega),cond_true,a2O h,Option.bind_some,Option.bind_some,List.getElem?_eq_getElem h]
  simp only
  cases eqB l[k].kind kind<;>simp
 ·rw[a6G (by omega),cond_false,List.getElem?_eq_none h]
theorem c3V (kind:Int):Q7 kind l size k pl=some (isK l kind k):=by
 unfold Q7 isK
 rcases Nat.lt_or_ge k l.length with h|h
 ·rw[a5H (by omega),cond_true,a2O h,Option.bind_some,List.getElem?_eq_getElem h]
 ·rw[a6G (by omega),cond_false,List.getElem?_eq_none h]
theorem sg (s:Str)(hs:eqS s []=false) :
  (isT l 8 s k=true/\k<l.length/\x9 s l k size=some (true,((k+1:Nat):Int))/\o6 s l size k pl=some (true,((k+1:Nat):Int))/\u7 s l k size=some (.ok ((k+1:Nat):Int))) ∨
  (isT l 8 s k=false/\x9 s l k size=some (false,(k:Int))/\o6 s l size k pl=some (false,(k:Int))/\u7 s l k size=some (.pan (I7 l size k,(k:Int)))):=by
 have h1:x9 s l k size =(some (isT l 8 s k)).bind fun r5=>cond (!r5) (some ((false,(k:Int)))) (some ((true,(w64 (k+1))))):=by unfold x9;rw[b7Y hl hk size 8 s hs]
 have h2:o6 s l size k pl =((some (isT l 8 s k)).bind fun r7=>cond r7 (some ((true,(w64 (k+1))))) (some ((false,(k:Int))))).bind fun(r6,at7)=>some ((r6,at7)):=by
  unfold o6 a2r;rw[a9J hl hk size pl 8 s]
 have h3:∀b:Bool,∀q:Int,x9 s l k size=some (b,q)->u7 s l k size=cond (!b) (A8 (Y5 l q size) (fun(_:Empty)=>none) fun at7=>some (.pan (at7,q))) (some (.ok q)):=by
  intro b q h;unfold u7;rw[h];rfl
 cases hb:isT l 8 s k with
 | true =>
  have hlt:=a2b hb
  rw[hb]at h1 h2
  simp only[Option.bind_some,Bool.not_true,cond_false,cond_true]at h1 h2
  rw[a0r (by omega)]at h1 h2
  refine .inl ⟨rfl,hlt,h1,h2,?_⟩
  rw[h3 _ _ h1];rfl
 | false =>
  rw[hb]at h1 h2
  simp only[Option.bind_some,Bool.not_false,cond_false,cond_true]at h1 h2
  refine .inr ⟨rfl,h1,h2,?_⟩
  rw[h3 _ _ h1,b7e hl hk];rfl
theorem ky (s:Str)(hs:eqS s []=false) :
  (isT l 9 s k=true/\k<l.length/\D9 s l k size=some (true,((k+1:Nat):Int))/\w9 s l size k pl=some (true,((k+1:Nat):Int))) ∨
  (isT l 9 s k=false/\D9 s l k size=some (false,(k:Int))/\w9 s l size k pl=some (false,(k:Int))):=by
 have h1:D9 s l k size =(some (isT l 9 s k)).bind fun r5=>cond (!r5) (some ((false,(k:Int)))) (some ((true,(w64 (k+1))))):=by unfold D9;rw[b7Y hl hk size 9 s hs]
 have h2:w9 s l size k pl =((some (isT l 9 s k)).bind fun r7=>cond r7 (some ((true,(w64 (k+1))))) (some ((false,(k:Int))))).bind fun(r6,at7)=>some ((r6,at7)):=by
  unfold w9 a2r;rw[a9J hl hk size pl 9 s]
 cases hb:isT l 9 s k with
 | true =>
  have hlt:=a2b hb
  rw[hb]at h1 h2
  simp only[Option.bind_some,Bool.not_true,cond_false,cond_true]at h1 h2
  rw[a0r (by omega)]at h1 h2
  exact .inl ⟨rfl,hlt,h1,h2⟩
 | false =>
  rw[hb]at h1 h2
  simp only[Option.bind_some,Bool.not_false,cond_false,cond_true]at h1 h2
  exact .inr ⟨rfl,h1,h2⟩
theorem cap:(k<l.length/\F7 l k size=some (.ok (N8 l k))/\q9 2 l size k pl=some (N8 l k,true,((k+1:Nat):Int))/\w64 ((k:Int)+1) =((k+1:Nat):Int)) ∨
  (F7 l k size=some (.pan (I7 l size k))/\q9 2 l size k pl=some ([],false,(k:Int))):=by
 have h1:F7 l k size=A8 ((some (isK l 2 k)).bind fun r5=>cond (!r5) (A8 (Y5 l k size) (fun(_:Empty)=>none) fun at6=>some (.pan at6)) ((idx' l k).bind fun x7=>some (.ok x7))) (fun r4=>some (.ok r4.text)) fun at5=>some (.pan at5):=by
  unfold F7 L6;rw[b7W hl hk size 2]
 have h2:q9 2 l size k pl =(some (isK l 2 k)).bind fun r6=>cond r6 ((idx' l k).bind fun x7=>some ((x7.text,true,(w64 (k+1))))) (some (([],false,(k:Int)))):=by
  unfold q9;rw[c3V hl hk size pl 2]
 cases hb:isK l 2 k with
 | true =>
  have hlt:=b22 hb
  have ht:N8 l k=l[k].text:=by unfold N8;rw[List.getElem?_eq_getElem hlt]
  rw[hb,a2O hlt]at h1 h2
  simp only[Option.bind_some,Bool.not_true,cond_false,cond_true]at h1 h2
  rw[a0r (by omega)]at h2
  exact .inl ⟨hlt,by rw[h1,ht];rfl,by rw[h2,ht],a0r (by omega)⟩
 | false =>
  rw[hb,b7e hl hk]at h1
  rw[hb]at h2
  exact .inr ⟨h1,h2⟩
end
mutual
def Typ.sz:Typ->Nat
 |⟨_,_,_,a⟩=>1+szT a
def szT:List Typ->Nat
 | []=>0
 | x::r=>x.sz+szT r
end
theorem Typ.a2t (x:Typ):x.sz=1+szT x.args:=by cases x;rfl
theorem a9t:∀a b:List Typ,szT (a++b)=szT a+szT b
 | [],b=>by simp[szT]
 | x::a,b=>by rw[List.cons_append,szT,szT,a9t a b];omega
theorem b5K (x:Typ):szT [x]=x.sz:=by simp[szT]
theorem b3X {x:Typ}:∀{l:List Typ},x∈l->x.sz<=szT l
 | y::r,h=>by
  simp only[szT]
  rcases List.mem_cons.1 h with rfl|h
  ·omega
  ·have:=b3X h;omega
theorem b3W:∀l:List Typ,l.length<=szT l
 | []=>Nat.le_refl _
 | x::r=>by have:=b3W r;have:=x.a2t;simp only[szT,List.length_cons];omega
def kindOf (s:Str)(a:List Typ):Int :=
 cond (eqB (List.length a:Int) 0&&eqS s [73,110,116]) 1 (cond (eqB (List.length a:Int) 0&&eqS s [66,111,111,108]) 2 (cond (eqB (List.length a:Int) 0&&eqS s [84,101,120,116]) 3 (cond (eqB (List.length a:Int) 0&&eqS s [85,110,105,116]) 4
 (cond (eqB (List.length a:Int) 1&&eqS s [65,114,114,97,121]) 5 (cond (eqB (List.length a:Int) 1&&eqS s [87,101,97,107]) 11 6)))))
def b0s (s:Str)(a:List Typ):Typ:=⟨kindOf s a,cond (!eqB (kindOf s a) 6) [] s,0,a⟩
theorem b8c (s:Str)(a:List Typ):a6j s a=some (b0s s a):=by
 unfold a6j b0s kindOf
 rcases a with _ |⟨x,_ |⟨y,r⟩⟩
 ·rw[show eqB (List.length ([]:List Typ):Int) 0=true from a3V rfl,show eqB (List.length ([]:List Typ):Int) 1=false from a6z (by simp),show ltB 0 (List.length ([]:List Typ):Int)=false from a6G (by simp)]
  cases eqS s [73,110,116]<;>cases eqS s [66,111,111,108]<;>cases eqS s [84,101,120,116]<;>cases eqS s [85,110,105,116]<;>simp[M4,eqB]
 ·rw[show eqB (List.length [x]:Int) 0=false from a6z (by simp),show eqB (List.length [x]:Int) 1=true from a3V (by simp),show ltB 0 (List.length [x]:Int)=true from a5H (by simp)]
  cases h1:eqS s [65,114,114,97,121]<;>cases h2:eqS s [87,101,97,107]<;>simp[M4,eqB]
 ·rw[show eqB (List.length (x::y::r):Int) 0=false from a6z (by simp;omega),show eqB (List.length (x::y::r):Int) 1=false from a6z (by simp;omega),show ltB 0 (List.length (x::y::r):Int)=true from a5H (by simp;omega)]
  simp[M4,eqB]
end Go.Proofs.YtcbjnilpecpbmaaGreatDoor
namespace Go.Proofs.YtcbjnilpecpbmaaGreatDoor
open Go Go.Vm
def SimT (l:List Tok)(size:Int)(k:Nat)(p:Option (Rs (Typ×Int) (Int×Int)))(r:Option (Typ×Bool×Int)):Prop :=
 (∃(t:Typ) (k':Nat),p=some (.ok (t,(k':Int)))/\r=some (t,true,(k':Int))/\k<k'/\k'<=l.length/\t.sz+k<=k') ∨
 (∃(t:Typ) (k':Nat),p=some (.pan (I7 l size k',(k':Int)))/\r=some (t,false,(k':Int))/\k<=k'/\k'<=l.length)
section
variable {l:List Tok} (hl:l.length<=3000) (size pl:Int) {Φ:A7} {Ψ:p9} (n n':Nat) {c:Nat}
 (IH:∀k,c<=k->k<=l.length->SimT l size k (Φ.F3 l k size) (Ψ.F6 l size k pl))
include hl IH
theorem c35 {k0:Nat}:∀(m m':Nat) (args:List Typ) (k:Nat),c<=k+1->k<=l.length->l.length-k<m->l.length-k<m'->szT args+k0<=k ->
  (∃(args':List Typ) (k':Nat),Y2 n Φ size l m args k=some (.brk (args',(k':Int)))/\((o6 [44] l size k pl).bind fun(r9,at10)=>N7 n' Ψ size l pl m' args r9 at10)=some (.brk (args',(k':Int)))/\k<=k'/\k'<=l.length/\szT args'+k0<=k') ∨
  (∃(args':List Typ) (k':Nat),Y2 n Φ size l m args k=some (.out (.pan (I7 l size k',(k':Int))))/\((o6 [44] l size k pl).bind fun(r9,at10)=>N7 n' Ψ size l pl m' args r9 at10)=some (.out (args',false,(k':Int)))/\k<=k'/\k'<=l.length)
 | 0,m',args,k,h1,h2,h3,h5,h4=>by omega
 | m+1,0,args,k,h1,h2,h3,h5,h4=>by omega
 | m+1,m'+1,args,k,h1,h2,h3,h5,h4=>by
  simp only[Y2,N7]
  rcases sg hl h2 size pl [44] (a2A _ _)with⟨_,hlt,hp,hr,_⟩ |⟨_,hp,hr,_⟩
  ·rw[hp,hr]
   simp only[Option.bind_some,cond_true]
   rcases IH (k+1) h1 hlt with⟨t,k',a,b,g1,g2,g3⟩ |⟨t,k',a,b,g1,g2⟩
   ·rw[a,b]
    have hlen:=b3W args
    have hap:app 56 args [t]=some (args++[t]):=b4B (by simp only[List.length_singleton];omega)
    simp only[A8,Option.bind_some,Bool.not_true,cond_false]
    rw[hap]
    simp only[Option.bind_some]
    rcases c35 (k0:=k0) m m' (args++[t]) k' (by omega) g2 (by omega) (by omega) (by rw[a9t,b5K];omega)with⟨x1,x2,x3,x4,x5,x6,x7⟩ |⟨x1,x2,x3,x4,x5,x6⟩
    ·exact .inl ⟨x1,x2,x3,x4,by omega,x6,x7⟩
    ·exact .inr ⟨x1,x2,x3,x4,by omega,x6⟩
   ·rw[a,b]
    exact .inr ⟨_,k',rfl,rfl,by omega,g2⟩
  ·rw[hp,hr]
   exact .inl ⟨args,k,rfl,rfl,Nat.le_refl _,h2,h4⟩
theorem b6q {k:Nat}(hc:c<=k)(hk:k<=l.length)(hn:l.length<n)(hn':l.length<n') :
  (∃(t:Typ) (k1:Nat) (args:List Typ) (k2:Nat),Φ.F3 l k size=some (.ok (t,(k1:Int)))/\app 56 ([]:List Typ) [t]=some [t]/\Y2 n Φ size l n [t] k1=some (.brk (args,(k2:Int)))/\U4 n' Ψ l size k pl=some (args,true,(k2:Int))/\k<k2/\k2<=l.length/\szT args+k<=k2) ∨
  (∃(args:List Typ) (k2:Nat),Φ.F3 l k size=some (.pan (I7 l size k2,(k2:Int)))/\U4 n' Ψ l size k pl=some (args,false,(k2:Int))/\k<=k2/\k2<=l.length) ∨
  (∃(t:Typ) (k1:Nat) (args:List Typ) (k2:Nat),Φ.F3 l k size=some (.ok (t,(k1:Int)))/\app 56 ([]:List Typ) [t]=some [t]/\Y2 n Φ size l n [t] k1=some (.out (.pan (I7 l size k2,(k2:Int))))/\U4 n' Ψ l size k pl=some (args,false,(k2:Int))/\k<=k2/\k2<=l.length):=by
 have hap:∀t:Typ,app 56 ([]:List Typ) [t]=some [t]:=fun t=>b4B (by simp)
 obtain⟨q,rfl⟩:∃q,n'=q+1:=⟨n'-1,by omega⟩
 unfold U4
 simp only[N7,cond_true]
 rcases IH k hc hk with⟨t,k1,a,b,g1,g2,g3⟩ |⟨t,k1,a,b,g1,g2⟩
 ·rw[b]
  simp only[Option.bind_some,Bool.not_true,cond_false]
  rw[hap]
  simp only[Option.bind_some]
  rcases c35 hl size pl n (q+1) IH (k0:=k) n q [t] k1 (by omega) g2 (by omega) (by omega) (by rw[b5K];omega)with⟨x1,x2,x3,x4,x5,x6,x7⟩ |⟨x1,x2,x3,x4,x5,x6⟩
  ·refine .inl ⟨t,k1,x1,x2,a,hap t,x3,?_,by omega,x6,x7⟩
   rw[x4];rfl
  ·refine .inr (.inr ⟨t,k1,x1,x2,a,hap t,x3,?_,by omega,x6⟩)
   rw[x4];rfl
 ·rw[b]
  exact .inr (.inl ⟨[],k1,a,rfl,g1,g2⟩)
end
theorem l5_eq (n:Nat)(Φ:A7)(size:Int)(l:List Tok):∀m args k,a3E n Φ size l m args k=Y2 n Φ size l m args k
 | 0,args,k=>rfl
 | m+1,args,k=>by simp only[a3E,Y2,l5_eq n Φ size l m]
section
variable {l:List Tok} (hl:l.length<=3000) (size pl:Int)
include hl
theorem c2E {Φ:A7} {Ψ:p9} (n n':Nat) {k0:Nat}:∀ (m m':Nat) (t:Typ) (k:Nat),k <= l.length -> l.length - k < m -> l.length - k + 1 < m' -> t.sz + k0 <= k ->
    (∃(t':Typ) (k':Nat),P5 n Φ false size l m k t=some (.brk ((k':Int),t'))/\U3 n' Ψ size l pl m' true k t=some (true,(k':Int),t')/\k<=k'/\k'<=l.length/\t'.sz+k0<=k') ∨
    (∃(t':Typ) (k':Nat),P5 n Φ false size l m k t=some (.out (.pan (I7 l size k',(k':Int))))/\U3 n' Ψ size l pl m' true k t=some (false,(k':Int),t')/\k<=k'/\k'<=l.length)
  | 0,m',t,k,h1,h2,h3,h4=>by omega
  | m+1,0,t,k,h1,h2,h3,h4=>by omega
  | m+1,1,t,k,h1,h2,h3,h4=>by omega
  | m+1,m'+2,t,k,h1,h2,h3,h4=>by
    have e:∀ (b:Bool) (q:Int) (u:Typ),U3 n' Ψ size l pl (m' + 2) b q u = Option.bind (α:=Bool × Int) (cond b ((o6 [46] l size q pl).bind fun (r28,at29)=>some (r28,at29)) (some (false,q))) fun (x590,at591) =>
        cond x590 ((q9 2 l size at591 pl).bind fun(r30,r31,at32)=>U3 n' Ψ size l pl (m'+1) r31 at32 (⟨8,r30,0,[u]⟩:Typ)) (some (b,at591,u)):=fun _ _ _=>rfl
    have e1:∀(q:Int) (u:Typ),U3 n' Ψ size l pl (m'+1) false q u=some (false,q,u):=fun _ _=>rfl
    rw[e]
    simp only[P5,cond_true,cond_false]
    rcases sg hl h1 size pl [46] (a2A _ _)with⟨hb,hlt,hp,hr,_⟩ |⟨hb,hp,hr,_⟩
    · rw[b7Y hl h1 size 8 [46] (a2A _ _),hb,hr]
      simp only[Option.bind_some,cond_true]
      rw[a0r (by omega)]
      rcases cap hl hlt size pl with⟨c1,c2,c3,c4⟩ |⟨c2,c3⟩
      · rw[c2,c3,c4]
        simp only[A8,Option.bind_some]
        rcases c2E (k0:=k0) n n' m (m'+1) ⟨8,N8 l (k+1),0,[t]⟩ (k+1+1) (by omega) (by omega) (by omega) (by rw[Typ.a2t];simp only[b5K];omega)with⟨x1,x2,x3,x4,x5,x6,x7⟩ |⟨x1,x2,x3,x4,x5,x6⟩
        · exact .inl ⟨x1,x2,x3,x4,by omega,x6,x7⟩
        · exact .inr ⟨x1,x2,x3,x4,by omega,x6⟩
      · rw[c2,c3]
        simp only[A8,Option.bind_some]
        rw[e1]
        exact .inr ⟨_,k+1,rfl,rfl,by omega,hlt⟩
    · rw[b7Y hl h1 size 8 [46] (a2A _ _),hb,hr]
      simp only[Option.bind_some,cond_false]
      exact .inl ⟨t,k,rfl,rfl,Nat.le_refl _,h1,h4⟩
theorem path_sim {R a b k:Nat} (ha:4 * R + l.length + 8 <= a) (hb:4 * R + l.length + 8 <= b) (hk:k <= l.length) (hR:l.length - k <= R)
    (IH:∀q n n',k<q->q<=l.length->4*R+l.length+6<=n->4*R+l.length+6<=n'->SimT l size q ((A7.fs n).F3 l q size) ((p9.fs n').F6 l size q pl)) (n':Nat) (Ψ:p9) (m:Nat) (hm:l.length+1<m) :
    SimT l size k (a0l a (A7.fs a) false l k size) ((a0m b (p9.fs b) l size k pl).bind fun(r25,r26,at27)=>Option.bind (α:=Bool×Int×Typ) (U3 n' Ψ size l pl m r26 at27 r25) fun(ok595,b7E,n597)=>some ((n597,ok595,b7E))):=by
  obtain⟨m,rfl⟩:∃q,m=q+1:=⟨m-1,by omega⟩
  have e1:∀(q:Int) (u:Typ),U3 n' Ψ size l pl (m+1) false q u=some (false,q,u):=fun _ _=>rfl
  unfold a0l a0m
  rcases cap hl hk size pl with⟨c1,c2,c3,c4⟩ |⟨c2,c3⟩
  · rw[c2,c3,c4]
    simp only[A8,Option.bind_some,Bool.not_true,cond_false]
    have fin:∀ (args:List Typ) (q:Nat),k < q -> q <= l.length -> szT args + k + 1 <= q -> SimT l size k
        ((a6j (N8 l k) args).bind fun r23=>M4 (α:=Int×Typ) (P5 a (A7.fs a) false size l a q r23) fun(b4o,n550)=>some (.ok (n550,b4o)))
        (Option.bind (some (b0s (N8 l k) args,true,(q:Int))) fun(r25,r26,at27)=>Option.bind (α:=Bool×Int×Typ) (U3 n' Ψ size l pl (m+1) r26 at27 r25) fun(ok595,b7E,n597)=>some ((n597,ok595,b7E))):=by
      intro args q h1 h2 h3
      rw[b8c,Option.bind_some]
      simp only[Option.bind_some]
      rcases c2E hl size pl (Φ:=A7.fs a) (Ψ:=Ψ) a n' (k0:=k) a (m+1) (b0s (N8 l k) args) q h2 (by omega) (by omega) (by rw[Typ.a2t];simp only[b0s];omega)with⟨x1,x2,x3,x4,x5,x6,x7⟩ |⟨x1,x2,x3,x4,x5,x6⟩
      · rw[x3,x4]
        exact .inl ⟨x1,x2,rfl,rfl,by omega,x6,x7⟩
      · rw[x3,x4]
        exact .inr ⟨x1,x2,rfl,rfl,by omega,x6⟩
    have kind_ok:∀(args:List Typ) (q:Int),(Option.bind (α:=Int) (
  Option.bind (α:=Bool) (
  cond (eqB (List.length args:Int) 0) (
  some (eqS (N8 l k) [73,110,116])) (
  some false)) fun x559 =>
  cond x559 (
  some 1) (
  Option.bind (α:=Bool) (
  cond (eqB (List.length args:Int) 0) (
  some (eqS (N8 l k) [66,111,111,108])) (
  some false)) fun x560 =>
  cond x560 (
  some 2) (
  Option.bind (α:=Bool) (
  cond (eqB (List.length args:Int) 0) (
  some (eqS (N8 l k) [84,101,120,116])) (
  some false)) fun x561 =>
  cond x561 (
  some 3) (
  Option.bind (α:=Bool) (
  cond (eqB (List.length args:Int) 0) (
  some (eqS (N8 l k) [85,110,105,116])) (
  some false)) fun x562 =>
  cond x562 (
  some 4) (
  Option.bind (α:=Bool) (
  cond (eqB (List.length args:Int) 1) (
  some (eqS (N8 l k) [65,114,114,97,121])) (
  some false)) fun x563 =>
  cond x563 (
  some 5) (
  Option.bind (α:=Bool) (
  cond (eqB (List.length args:Int) 1) (
  some (eqS (N8 l k) [87,101,97,107])) (
  some false)) fun x564 =>
  cond x564 (
  some 11) (
  some 6))))))) fun b5d =>
  Option.bind (α:=Str) (
  cond (!eqB b5d 6) (
  some []) (
  some (N8 l k))) fun s566 =>
  some (((⟨b5d,s566,0,args⟩:Typ),true,q))) = some (b0s (N8 l k) args,true,q):=by
      intro args q
      unfold b0s kindOf
      cases eqB (List.length args:Int) 0<;>cases eqB (List.length args:Int) 1<;>cases eqS (N8 l k) [73,110,116]<;>cases eqS (N8 l k) [66,111,111,108]<;>cases eqS (N8 l k) [84,101,120,116]<;>cases eqS (N8 l k) [85,110,105,116] <;>
        cases eqS (N8 l k) [65,114,114,97,121]<;>cases eqS (N8 l k) [87,101,97,107]<;>simp[eqB]
    rcases sg hl c1 size pl [60] (a2A _ _)with⟨_,hlt,hp,hr,_⟩ |⟨_,hp,hr,_⟩
    · rw[hp,hr]
      simp only[Option.bind_some,cond_true]
      obtain⟨b',rfl⟩:∃q,b=q+1:=⟨b-1,by omega⟩
      have hty:∀q:Int,(p9.fs (b'+1)).O0 l size q pl=U4 b' (p9.fs b') l size q pl:=fun _=>rfl
      rw[hty]
      simp only[l5_eq]
      rcases b6q hl size pl (Φ:=A7.fs a) (Ψ:=p9.fs b') a b' (c:=k+1) (fun q h1 h2=>IH q a b' (by omega) h2 (by omega) (by omega)) (k:=k+1+1) (by omega) hlt (by omega) (by omega)with
        ⟨t,k1,args,k2,y1,y2,y3,y4,y5,y6,y7⟩ |⟨args,k2,y1,y2,y3,y4⟩ |⟨t,k1,args,k2,y1,y2,y3,y4,y5,y6⟩
      · rw[y1,y4]
        simp only[A8,Option.bind_some]
        rw[y2]
        simp only[Option.bind_some]
        rw[y3]
        simp only[a3U,Bool.not_true,cond_false]
        rcases sg hl y6 size pl [62] (a2A _ _)with⟨_,hlt2,_,hr2,hw2⟩ |⟨_,_,hr2,hw2⟩
        · rw[hw2,hr2]
          simp only[A8,M4,Option.bind_some,Bool.not_true,cond_false]
          rw[kind_ok]
          exact fin args (k2+1) (by omega) (by omega) (by omega)
        · rw[hw2,hr2]
          simp only[A8,M4,Option.bind_some,Bool.not_false,cond_true]
          rw[e1]
          exact .inr ⟨_,k2,rfl,rfl,by omega,y6⟩
      · rw[y1,y2]
        simp only[A8,M4,Option.bind_some,Bool.not_false,cond_true]
        rw[e1]
        exact .inr ⟨_,k2,rfl,rfl,by omega,y4⟩
      · rw[y1,y4]
        simp only[A8,Option.bind_some]
        rw[y2]
        simp only[Option.bind_some]
        rw[y3]
        simp only[a3U,M4,Option.bind_some,Bool.not_false,cond_true]
        rw[e1]
        exact .inr ⟨_,k2,rfl,rfl,by omega,y6⟩
    · rw[hp,hr]
      simp only[M4,Option.bind_some,cond_false]
      rw[kind_ok]
      exact fin [] (k+1) (by omega) c1 (by simp[szT])
  · rw[c2,c3]
    simp only[A8,Option.bind_some,Bool.not_false,cond_true]
    rw[e1]
    exact .inr ⟨_,k,rfl,rfl,Nat.le_refl _,hk⟩
theorem c4g {R n n' k:Nat} (ha:4 * R + l.length + 10 <= n) (hb:4 * R + l.length + 10 <= n') (hk:k <= l.length) (hR:l.length - k <= R)
    (IH:∀q n n',k<q->q<=l.length->4*R+l.length+6<=n->4*R+l.length+6<=n'->SimT l size q ((A7.fs n).F3 l q size) ((p9.fs n').F6 l size q pl)) :
    SimT l size k ((A7.fs n).F3 l k size) ((p9.fs n').F6 l size k pl):=by
  obtain⟨a,rfl⟩:∃q,n=q+2:=⟨n-2,by omega⟩
  obtain⟨b,rfl⟩:∃q,n'=q+2:=⟨n'-2,by omega⟩
  show SimT l size k (a3i (a+1) (A7.fs (a+1)) l k size) (a3j (b+1) (p9.fs (b+1)) l size k pl)
  unfold a3i a3j
  rcases ky hl hk size pl [97,110,121] (a2A _ _)with⟨_,hlt,hp,hr⟩ |⟨_,hp,hr⟩
  · rw[hp,hr]
    simp only[Option.bind_some,cond_true]
    rcases cap hl hlt size pl with⟨c1,c2,c3,c4⟩ |⟨c2,c3⟩
    · rw[c2,c3,c4]
      exact .inl ⟨_,k+1+1,rfl,rfl,by omega,c1,by rw[Typ.a2t];simp only[szT];omega⟩
    · rw[c2,c3]
      exact .inr ⟨_,k+1,rfl,rfl,by omega,hlt⟩
  · rw[hp,hr]
    simp only[Option.bind_some,cond_false]
    rcases sg hl hk size pl [40] (a2A _ _)with⟨_,hlt,hp,hr,_⟩ |⟨_,hp,hr,_⟩
    · rw[hp,hr]
      simp only[Option.bind_some,Bool.not_true,cond_false,cond_true]
      have fin:∀ (args:List Typ) (q:Nat),k < q -> q <= l.length -> szT args + k + 1 <= q -> SimT l size k
          (A8 (u7 [45,62] l q size) (fun at31=>A8 ((A7.fs (a+1)).F3 l at31 size) (fun(r32,at33)=>(app 56 args ([r32]:List Typ)).bind fun l34=>some (.ok ((⟨10,[],0,l34⟩:Typ),at33))) fun(at35,at36)=>some (.pan (at35,at36))) fun(at37,at38)=>some (.pan (at37,at38)))
          ((o6 [45,62] l size q pl).bind fun(r19,at20)=>cond (!r19) (some (((⟨10,[],0,args⟩:Typ),false,at20))) (((p9.fs (b+1)).F6 l size at20 pl).bind fun(r21,r22,at23)=>(app 56 args ([r21]:List Typ)).bind fun l24=>some (((⟨10,[],0,l24⟩:Typ),r22,at23)))):=by
        intro args q h1 h2 h3
        have hlen:=b3W args
        have hap:∀t:Typ,app 56 args [t]=some (args++[t]):=fun t=>b4B (by simp only[List.length_singleton];omega)
        rcases sg hl h2 size pl [45,62] (a2A _ _)with⟨_,hlt2,_,hr2,hw2⟩ |⟨_,_,hr2,hw2⟩
        · rw[hw2,hr2]
          simp only[A8,Option.bind_some,Bool.not_true,cond_false]
          rcases IH (q+1) (a+1) (b+1) (by omega) hlt2 (by omega) (by omega)with⟨t,k',x,y,g1,g2,g3⟩ |⟨t,k',x,y,g1,g2⟩
          · rw[x,y]
            simp only[Option.bind_some]
            rw[hap]
            exact .inl ⟨_,k',rfl,rfl,by omega,g2,by rw[Typ.a2t];simp only[a9t,b5K];omega⟩
          · rw[x,y]
            simp only[Option.bind_some]
            rw[hap]
            exact .inr ⟨_,k',rfl,rfl,by omega,g2⟩
        · rw[hw2,hr2]
          exact .inr ⟨_,q,rfl,rfl,by omega,h2⟩
      rcases sg hl hlt size pl [41] (a2A _ _)with⟨_,hlt2,hp2,hr2,_⟩ |⟨_,hp2,hr2,_⟩
      · rw[hp2,hr2]
        simp only[M4,Option.bind_some,Bool.not_true,cond_false]
        exact fin [] (k+1+1) (by omega) hlt2 (by simp only[szT];omega)
      · rw[hp2,hr2]
        simp only[Option.bind_some,Bool.not_false,cond_true]
        have hty:∀q:Int,(p9.fs (b+1)).O0 l size q pl=U4 b (p9.fs b) l size q pl:=fun _=>rfl
        rw[hty]
        rcases b6q hl size pl (Φ:=A7.fs (a+1)) (Ψ:=p9.fs b) (a+1) b (c:=k+1) (fun q h1 h2=>IH q (a+1) b (by omega) h2 (by omega) (by omega)) (k:=k+1) (by omega) hlt (by omega) (by omega)with
          ⟨t,k1,args,k2,y1,y2,y3,y4,y5,y6,y7⟩ |⟨args,k2,y1,y2,y3,y4⟩ |⟨t,k1,args,k2,y1,y2,y3,y4,y5,y6⟩
        · rw[y1,y4]
          simp only[A8,Option.bind_some]
          rw[y2]
          simp only[Option.bind_some]
          rw[y3]
          simp only[a3U,Bool.not_true,cond_false]
          rcases sg hl y6 size pl [41] (a2A _ _)with⟨_,hlt2,_,hr2,hw2⟩ |⟨_,_,hr2,hw2⟩
          · rw[hw2,hr2]
            simp only[A8,M4,Option.bind_some,Bool.not_true,cond_false]
            exact fin args (k2+1) (by omega) hlt2 (by omega)
          · rw[hw2,hr2]
            simp only[A8,M4,Option.bind_some,Bool.not_false,cond_true]
            exact .inr ⟨_,k2,rfl,rfl,by omega,y6⟩
        · rw[y1,y2]
          simp only[A8,M4,Option.bind_some,Bool.not_false,cond_true]
          exact .inr ⟨_,k2,rfl,rfl,by omega,y4⟩
        · rw[y1,y4]
          simp only[A8,Option.bind_some]
          rw[y2]
          simp only[Option.bind_some]
          rw[y3]
          simp only[a3U,M4,Option.bind_some,Bool.not_false,cond_true]
          exact .inr ⟨_,k2,rfl,rfl,by omega,y6⟩
    · rw[hp,hr]
      simp only[Option.bind_some,Bool.not_false,cond_true,cond_false]
      have hpa:∀q:Int,(A7.fs (a+1)).P9 false l q size=a0l a (A7.fs a) false l q size:=fun _=>rfl
      have hba:∀q:Int,(p9.fs (b+1)).Q0 l size q pl=a0m b (p9.fs b) l size q pl:=fun _=>rfl
      rw[hpa,hba]
      rcases path_sim hl size pl (R:=R) (a:=a) (b:=b) (k:=k) (by omega) (by omega) hk hR IH (b+1) (p9.fs (b+1)) (b+1) (by omega)with⟨t,k',x,y,g1,g2,g3⟩ |⟨t,k',x,y,g1,g2⟩
      · rw[x,y]
        exact .inl ⟨t,k',rfl,rfl,g1,g2,g3⟩
      · rw[x,y]
        exact .inr ⟨t,k',rfl,rfl,g1,g2⟩
theorem c1M:∀(R n n' k:Nat),4*R+l.length+10<=n->4*R+l.length+10<=n'->k<=l.length->l.length-k<=R ->
  SimT l size k ((A7.fs n).F3 l k size) ((p9.fs n').F6 l size k pl)
 | 0,n,n',k,h1,h2,h3,h4=>c4g hl size pl h1 h2 h3 h4 fun q _ _ g1 g2=>by omega
 | R+1,n,n',k,h1,h2,h3,h4=>c4g hl size pl h1 h2 h3 h4 fun q m m' g1 g2 g3 g4=>c1M R m m' q (by omega) (by omega) g2 (by omega)
end
end Go.Proofs.YtcbjnilpecpbmaaGreatDoor
namespace Go.Proofs.YtcbjnilpecpbmaaGreatDoor
open Go Go.Vm
section
variable {α β γ ρ:Type}
theorem P6 (a:α)(k:α->Option γ)(p:β->Option γ):A8 (some (.ok a)) k p=k a:=rfl
theorem O8 (b:β)(k:α->Option γ)(p:β->Option γ):A8 (some (.pan b)) k p=p b:=rfl
theorem a0s (a:α)(k:α->Option ρ):M4 (some (.brk a)) k=k a:=rfl
theorem a0t (r:ρ)(k:α->Option ρ):M4 (some (.out r)) k=some r:=rfl
theorem a2n (a:α)(k:α->Option (Lr γ ρ)):a3U (some (.brk a)) k=k a:=rfl
theorem a4i (r:ρ)(k:α->Option (Lr γ ρ)):a3U (some (.out r)) k=some (.out r):=rfl
theorem app_0 (b:Nat)(x:α)(hb:b<=1000):app b [] [x]=some [x]:=b4B (by simp only[List.length_nil,List.length_singleton];omega)
theorem b9r {b:Nat}(x y:α)(hb:b<=1000):app b [x] [y]=some [x,y]:=b4B (by simp only[List.length_singleton];omega)
theorem app_2 {b:Nat}(x y z:α)(hb:b<=1000):app b [x,y] [z]=some [x,y,z]:=b4B (by simp only[List.length_singleton,List.length_cons,List.length_nil];omega)
theorem a6d {b:Nat}{l m:List α}(hl:l.length<=100000)(hm:m.length<=100000)(hb:b<=1000):app b l m=some (l++m):=by
 refine b4B ?_
 have:(l.length+m.length)*(b+1)<=200000*1001:=Nat.mul_le_mul (by omega) (by omega)
 omega
end
structure Cx (l:List Tok)(size:Int):Prop where
 hl:l.length<=3000
 pos:∀k,0<=I7 l size k
 int:∀k,isK l 3 k=true -> ∃v:Int,0<=v/\atoi (N8 l k)=some v /\ ∀n,10000<=n->a1m n (N8 l k)=some v
section
variable {l:List Tok} {size:Int} (C:Cx l size)
include C
theorem a9K {op:Int}{k:Nat}(hk:k<=l.length):D7 op l k size=some (I7 l size k):=by
 unfold D7;rw[b7g C.hl hk];rfl
theorem is1_ok {k:Nat}(hk:k+1<=l.length)(kind:Int):u6 1 kind [] l k size=some (isK l kind (k+1)):=by
 have h:=b7W C.hl hk size kind
 have hl:=C.hl
 unfold u6 at h ⊢
 rw[Int.add_zero,a5l (by omega) (by omega)]at h
 rw[a0r (by omega)]
 exact h
theorem SSx:(∀{α β:Type} (a:α) (f:α->Option β),(some a).bind f=f a)/\(∀{α:Type} (a b:α),cond true a b=a)/\(∀{α:Type} (a b:α),cond false a b=b)/\(!true)=false/\(!false)=true /\
  (∀{α β γ:Type} (a:α) (k:α->Option γ) (p:β->Option γ),A8 (some (.ok a)) k p=k a)/\(∀{α β γ:Type} (b:β) (k:α->Option γ) (p:β->Option γ),A8 (some (.pan b)) k p=p b) /\
  (∀{α ρ:Type} (a:α) (k:α->Option ρ),M4 (some (.brk a)) k=k a)/\(∀{α ρ:Type} (r:ρ) (k:α->Option ρ),M4 (some (.out r)) k=some r) /\
  (∀{α γ ρ:Type} (a:α) (k:α->Option (Lr γ ρ)),a3U (some (.brk a)) k=k a)/\(∀{α γ ρ:Type} (r:ρ) (k:α->Option (Lr γ ρ)),a3U (some (.out r)) k=some (.out r)) /\
  (∀k:Nat,k<=1000000->w64 ((k:Int)+1) =((k+1:Nat):Int))/\(∀(op:Int) (k:Nat),k<=l.length->D7 op l k size=some (I7 l size k)) /\
  (∀(pl:Int) (k:Nat),k<=l.length->E5 l size k pl=some (I7 l size k)) /\ ∀k:Nat,k<=l.length->a0P l k size=some (I7 l size k) :=
 ⟨fun _ _=>rfl,fun _ _=>rfl,fun _ _=>rfl,rfl,rfl,fun _ _ _=>rfl,fun _ _ _=>rfl,fun _ _=>rfl,fun _ _=>rfl,fun _ _=>rfl,fun _ _=>rfl,fun _ h=>a0r h,fun _ _ h=>a9K C h,fun pl _ h=>a6i C.hl h size pl,fun _ h=>b7g C.hl h size⟩
theorem sgx {k:Nat}(hk:k<=l.length)(a:UInt8)(r:Str) :
  (isT l 8 (a::r) k=true/\k+1<=l.length/\x9 (a::r) l k size=some (true,((k+1:Nat):Int))/\o6 (a::r) l size k (-1)=some (true,((k+1:Nat):Int))/\u7 (a::r) l k size=some (.ok ((k+1:Nat):Int))/\u6 0 8 (a::r) l k size=some true/\C8 8 (a::r) l size k (-1)=some true) ∨
  (isT l 8 (a::r) k=false/\x9 (a::r) l k size=some (false,(k:Int))/\o6 (a::r) l size k (-1)=some (false,(k:Int))/\u7 (a::r) l k size=some (.pan (I7 l size k,(k:Int)))/\u6 0 8 (a::r) l k size=some false/\C8 8 (a::r) l size k (-1)=some false):=by
 have h1:=b7Y C.hl hk size 8 (a::r) (a2A _ _)
 have h2:=a9J C.hl hk size (-1) 8 (a::r)
 rcases sg C.hl hk size (-1) (a::r) (a2A _ _)with⟨h,g1,g2,g3,g4⟩ |⟨h,g2,g3,g4⟩
 ·rw[h]at h1 h2;exact .inl ⟨h,g1,g2,g3,g4,h1,h2⟩
 ·rw[h]at h1 h2;exact .inr ⟨h,g2,g3,g4,h1,h2⟩
theorem kyx {k:Nat}(hk:k<=l.length)(a:UInt8)(r:Str) :
  (isT l 9 (a::r) k=true/\k+1<=l.length/\D9 (a::r) l k size=some (true,((k+1:Nat):Int))/\w9 (a::r) l size k (-1)=some (true,((k+1:Nat):Int))/\G6 (a::r) l k size=some (.ok ((k+1:Nat):Int))/\u6 0 9 (a::r) l k size=some true/\C8 9 (a::r) l size k (-1)=some true) ∨
  (isT l 9 (a::r) k=false/\D9 (a::r) l k size=some (false,(k:Int))/\w9 (a::r) l size k (-1)=some (false,(k:Int))/\G6 (a::r) l k size=some (.pan (I7 l size k,(k:Int)))/\u6 0 9 (a::r) l k size=some false/\C8 9 (a::r) l size k (-1)=some false):=by
 have h1:=b7Y C.hl hk size 9 (a::r) (a2A _ _)
 have h2:=a9J C.hl hk size (-1) 9 (a::r)
 rcases ky C.hl hk size (-1) (a::r) (a2A _ _)with⟨h,g1,g2,g3⟩ |⟨h,g2,g3⟩
 ·rw[h]at h1 h2
  refine .inl ⟨h,g1,g2,g3,?_,h1,h2⟩
  unfold G6;rw[g2];rfl
 ·rw[h]at h1 h2
  refine .inr ⟨h,g2,g3,?_,h1,h2⟩
  unfold G6;rw[g2]
  simp only[Option.bind_some,Bool.not_false,cond_true]
  rw[b7e C.hl hk];rfl
theorem kdx {k:Nat}(hk:k<=l.length)(kind:Int) :
  (isK l kind k=true/\k+1<=l.length /\ ∃t:Tok,idx' l (k:Int)=some t/\t.text=N8 l k/\t.at_=I7 l size k/\t.kind=kind/\u6 0 kind [] l k size=some true/\Q7 kind l size k (-1)=some true/\q9 kind l size k (-1)=some (N8 l k,true,((k+1:Nat):Int))/\L6 kind l k size=some (.ok t)) ∨
  (isK l kind k=false/\u6 0 kind [] l k size=some false/\Q7 kind l size k (-1)=some false/\q9 kind l size k (-1)=some ([],false,(k:Int))/\L6 kind l k size=some (.pan (I7 l size k))):=by
 have h1:=b7W C.hl hk size kind
 have h2:=c3V C.hl hk size (-1) kind
 have h3:q9 kind l size k (-1) =(some (isK l kind k)).bind fun r6=>cond r6 ((idx' l k).bind fun x7=>some ((x7.text,true,(w64 (k+1))))) (some (([],false,(k:Int)))):=by
  unfold q9;rw[h2]
 have h4:L6 kind l k size =(some (isK l kind k)).bind fun r5=>cond (!r5) (A8 (Y5 l k size) (fun(_:Empty)=>none) fun at6=>some (.pan at6)) ((idx' l k).bind fun x7=>some (.ok x7)):=by
  unfold L6;rw[h1]
 cases hb:isK l kind k with
 | true =>
  have hlt:=b22 hb
  have hl:=C.hl
  have ht:N8 l k=l[k].text:=by unfold N8;rw[List.getElem?_eq_getElem hlt]
  have ha:I7 l size k=l[k].at_:=by unfold I7;rw[List.getElem?_eq_getElem hlt]
  have hkd:l[k].kind=kind:=by
   unfold isK at hb;rw[List.getElem?_eq_getElem hlt]at hb
   simpa [eqB]using hb
  rw[hb]at h1 h2 h3 h4
  rw[a2O hlt]at h3 h4
  simp only[Option.bind_some,Bool.not_true,cond_false,cond_true]at h3 h4
  rw[a0r (by omega),<-ht]at h3
  exact .inl ⟨rfl,hlt,l[k],a2O hlt,ht.symm,ha.symm,hkd,h1,h2,h3,h4⟩
 | false =>
  rw[hb]at h1 h2 h3 h4
  rw[b7e C.hl hk]at h4
  exact .inr ⟨rfl,h1,h2,h3,h4⟩
theorem b6F (kind:Int)(s:Str)(k:Nat):isT l kind s k =(isK l kind k&&eqS (N8 l k) s):=by
 unfold isT isK N8
 cases l[k]? <;> rfl
theorem nmx {k:Nat}(hk:k<=l.length) :
  (isK l 1 k=true/\k+1<=l.length/\H7 l k size=some (.ok (N8 l k))/\q9 1 l size k (-1)=some (N8 l k,true,((k+1:Nat):Int))/\u6 0 1 [] l k size=some true) ∨
  (isK l 1 k=false/\H7 l k size=some (.pan (I7 l size k))/\q9 1 l size k (-1)=some ([],false,(k:Int))/\u6 0 1 [] l k size=some false):=by
 unfold H7
 rcases kdx C hk 1 with⟨h,g1,t,g2,g3,g4,g5,g6,g7,g8,g9⟩ |⟨h,g6,g7,g8,g9⟩
 ·exact .inl ⟨h,g1,by rw[g9,P6,g3],g8,g6⟩
 ·exact .inr ⟨h,by rw[g9];rfl,g8,g6⟩
theorem inx {k:Nat}(hk:k<=l.length) :
  (isK l 3 k=true/\k+1<=l.length /\ ∃v:Int,0<=v/\Z6 l k size=some (.ok v)/\q9 3 l size k (-1)=some (N8 l k,true,((k+1:Nat):Int))/\u6 0 3 [] l k size=some true /\ ∀n,10000<=n->a1m n (N8 l k)=some v) ∨
  (isK l 3 k=false/\Z6 l k size=some (.pan (I7 l size k))/\q9 3 l size k (-1)=some ([],false,(k:Int))/\u6 0 3 [] l k size=some false):=by
 unfold Z6
 rcases kdx C hk 3 with⟨h,g1,t,g2,g3,g4,g5,g6,g7,g8,g9⟩ |⟨h,g6,g7,g8,g9⟩
 ·obtain⟨v,v0,v1,v2⟩:=C.int k h
  exact .inl ⟨h,g1,v,v0,by rw[g9,P6,g3,v1];rfl,g8,g6,v2⟩
 ·exact .inr ⟨h,by rw[g9];rfl,g8,g6⟩
end
mutual
def Nod.sz:Nod->Nat
 |⟨_,_,_,t,ts,l,_⟩=>1+t.sz+szT ts+szN l
def szN:List Nod->Nat
 | []=>0
 | x::r=>x.sz+szN r
end
theorem Nod.a2t (x:Nod):x.sz=1+x.t.sz+szT x.ts+szN x.l:=by cases x;rfl
theorem nsz (op:Int)(s:Str)(n:Int)(t:Typ)(ts:List Typ)(l:List Nod)(a:Int):(⟨op,s,n,t,ts,l,a⟩:Nod).sz=1+t.sz+szT ts+szN l:=rfl
theorem tsz (k:Int)(s:Str)(n:Int)(a:List Typ):(⟨k,s,n,a⟩:Typ).sz=1+szT a:=rfl
theorem a9X:szT []=0:=rfl
theorem c3Y (x:Typ)(r:List Typ):szT (x::r)=x.sz+szT r:=rfl
theorem a9W:szN []=0:=rfl
theorem a9s (x:Nod)(r:List Nod):szN (x::r)=x.sz+szN r:=rfl
theorem b4U:∀a b:List Nod,szN (a++b)=szN a+szN b
 | [],b=>by simp[szN]
 | x::a,b=>by rw[List.cons_append,szN,szN,b4U a b];omega
theorem a0Z:∀l:List Nod,l.length<=szN l
 | []=>Nat.le_refl _
 | x::r=>by have:=a0Z r;have:=x.a2t;simp only[szN,List.length_cons];omega
theorem b1S {x:Nod}:∀{l:List Nod},x∈l->x.sz<=szN l
 | y::r,h=>by
  simp only[szN]
  rcases List.mem_cons.1 h with rfl|h
  ·omega
  ·have:=b1S h;omega
theorem szs:(∀(op:Int) (s:Str) (n:Int) (t:Typ) (ts:List Typ) (l:List Nod) (a:Int),(⟨op,s,n,t,ts,l,a⟩:Nod).sz=1+t.sz+szT ts+szN l)/\(∀(k:Int) (s:Str) (n:Int) (a:List Typ),(⟨k,s,n,a⟩:Typ).sz=1+szT a)/\szT []=0/\szN []=0/\(∀(x:Nod) (r:List Nod),szN (x::r)=x.sz+szN r) /\ ∀a b:List Nod,szN (a++b)=szN a+szN b :=
 ⟨fun _ _ _ _ _ _ _=>rfl,fun _ _ _ _=>rfl,rfl,rfl,fun _ _=>rfl,b4U⟩
theorem a8V (t:Typ):(⟨t.kind,t.name,t.n,t.args⟩:Typ)=t:=by cases t;rfl
@[reducible] def zT:Typ:=⟨0,[],0,[]⟩
inductive G:Nat->Nod->Prop
 | int {n a:Int}:0<=n->0<=a->G 0 ⟨50,[],n,zT,[],[],a⟩
 | truth {n a:Int}:n=0∨n=1->0<=a->G 0 ⟨51,[],n,zT,[],[],a⟩
 | text {s:Str} {a:Int}:0<=a->G 0 ⟨52,s,0,zT,[],[],a⟩
 | interp {l:List Nod} {a:Int}:0<=a ->(∀x∈l,G 0 x) ->(∀i x,l[2*i]? = some x->x.op=52)->3<=l.length->l.length%2=1->G 0 ⟨53,[],0,zT,[],l,a⟩
 | name {s:Str} {a:Int}:0<=a->G 0 ⟨54,s,0,zT,[],[],a⟩
 | use {s:Str} {a:Int}:0<=a->G 0 ⟨61,s,0,zT,[],[],a⟩
 | list {l:List Nod} {a:Int}:0<=a ->(∀x∈l,G 0 x)->G 0 ⟨67,[],0,zT,[],l,a⟩
 | clos {t:Typ} {p b:List Nod} {a:Int}:0<=a ->(∀x∈p,G 4 x) ->(∀x∈b,G 1 x)->G 0 ⟨63,[],0,t,[],p++[⟨20,[],0,zT,[],b,a⟩],a⟩
 | bin {s:Str} {x y:Nod} {a:Int}:0<=a->G 0 x->G 0 y->G 0 ⟨64,s,0,zT,[],[x,y],a⟩
 | un {op:Int} {x:Nod} {a:Int}:op=65∨op=66->0<=a->G 0 x->G 0 ⟨op,[],0,zT,[],[x],a⟩
 | field {s:Str} {x:Nod} {a:Int}:0<=a->G 0 x->G 0 ⟨55,s,0,zT,[],[x],a⟩
 | call {s:Str} {l:List Nod} {a:Int}:0<=a ->(∀x∈l,G 6 x)->G 0 ⟨56,s,0,zT,[],l,a⟩
 | method {s:Str} {x:Nod} {l:List Nod} {a:Int}:0<=a->G 0 x ->(∀x∈l,G 6 x)->G 0 ⟨57,s,0,zT,[],x::l,a⟩
 | apply{x:Nod} {l:List Nod} {a:Int}:0<=a->G 0 x ->(∀x∈l,G 6 x)->G 0 ⟨60,[],0,zT,[],x::l,a⟩
 | stat0 {t:Typ} {s:Str} {a:Int}:0<=a->G 0 ⟨58,s,0,t,[],[],a⟩
 | stat1 {t:Typ} {s:Str} {l:List Nod} {a:Int}:0<=a ->(∀x∈l,G 6 x)->G 0 ⟨58,s,1,t,[],l,a⟩
 | make {t:Typ} {l:List Nod} {a:Int}:0<=a ->(∀x∈l,G 6 x)->G 0 ⟨59,[],0,t,[],l,a⟩
 | arg {x:Nod}:G 0 x->G 6 x
 | lend {x:Nod} {a:Int}:0<=a->G 0 x->G 6 ⟨62,[],0,zT,[],[x],a⟩
 | let0 {s:Str} {t:Typ} {a:Int}:0<=a->G 1 ⟨21,s,1,t,[],[],a⟩
 | let1 {s:Str} {n:Int} {t:Typ} {x:Nod} {a:Int}:0<=a->n=0∨n=1->G 0 x->G 1 ⟨21,s,n,t,[],[x],a⟩
 | assign {x y:Nod} {a:Int}:0<=a->G 0 x->G 0 y->G 1 ⟨22,[],0,zT,[],[x,y],a⟩
 | sole {x:Nod} {a:Int}:0<=a->G 0 x->G 1 ⟨23,[],0,zT,[],[x],a⟩
 | if2 {x b:Nod} {a:Int}:0<=a->G 0 x->G 2 b->G 1 ⟨24,[],0,zT,[],[x,b],a⟩
 | if3 {x b c:Nod} {a:Int}:0<=a->G 0 x->G 2 b->G 2 c->G 1 ⟨24,[],0,zT,[],[x,b,c],a⟩
 | if4 {x b c:Nod} {a:Int}:0<=a->G 0 x->G 2 b->G 1 c->c.op=24->G 1 ⟨24,[],0,zT,[],[x,b,c],a⟩
 | whil {x b:Nod} {a:Int}:0<=a->G 0 x->G 2 b->G 1 ⟨25,[],0,zT,[],[x,b],a⟩
 | mat {x:Nod} {l:List Nod} {a:Int}:0<=a->G 0 x ->(∀y∈l,G 5 y)->G 1 ⟨26,[],0,zT,[],x::l,a⟩
 | ret0 {a:Int}:0<=a->G 1 ⟨28,[],0,zT,[],[],a⟩
 | ret1 {x:Nod} {a:Int}:0<=a->G 0 x->G 1 ⟨28,[],0,zT,[],[x],a⟩
 | throws {x:Nod} {a:Int}:0<=a->G 0 x->G 1 ⟨29,[],0,zT,[],[x],a⟩
 | doc {s:Str} {b c:Nod} {a:Int}:0<=a->G 2 b->G 2 c->G 1 ⟨30,s,0,zT,[],[b,c],a⟩
 | defer {b:Nod} {a:Int}:0<=a->G 2 b->G 1 ⟨31,[],0,zT,[],[b],a⟩
 | block {l:List Nod} {a:Int}:0<=a ->(∀x∈l,G 1 x)->G 2 ⟨20,[],0,zT,[],l,a⟩
 | wild {a:Int}:0<=a->G 3 ⟨40,[],0,zT,[],[],a⟩
 | bnd {s:Str} {a:Int}:0<=a->G 3 ⟨41,s,0,zT,[],[],a⟩
 | pint {n a:Int}:0<=a->G 3 ⟨42,[],n,zT,[],[],a⟩
 | ptruth {n a:Int}:n=0∨n=1->0<=a->G 3 ⟨43,[],n,zT,[],[],a⟩
 | ptext {s:Str} {a:Int}:0<=a->G 3 ⟨44,s,0,zT,[],[],a⟩
 | pcase {s:Str} {l:List Nod} {a:Int}:0<=a ->(∀x∈l,G 3 x)->G 3 ⟨45,s,0,zT,[],l,a⟩
 | param {s:Str} {n:Int} {t:Typ} {a:Int}:0<=a->G 4 ⟨10,s,n,t,[],[],a⟩
 | arm {p b:Nod} {a:Int}:0<=a->G 3 p->G 2 b->G 5 ⟨27,[],0,zT,[],[p,b],a⟩
theorem G.at{m:Nat}{x:Nod}(h:G m x):0<=x.at_:=by
 induction h<;>assumption
theorem all_nil {m:Nat}:∀x∈([]:List Nod),G m x:=fun x h=>by cases h
theorem a6y {m:Nat}{a b:List Nod}(h1:∀x∈a,G m x)(h2:∀x∈b,G m x):∀x∈a++b,G m x:=fun x h=>by
 rcases List.mem_append.1 h with h|h
 ·exact h1 x h
 ·exact h2 x h
theorem a5m {m:Nat}{a:Nod}(h:G m a):∀x ∈ [a],G m x:=fun x hx=>by
 rcases List.mem_singleton.1 hx with rfl
 exact h
def a2m (l:List Tok)(size:Int)(k:Nat)(pl:Int)(f:o7):Prop:=(pl = -1/\f =⟨⟨20,I7 l size k⟩⟩)∨(0<=pl/\f =⟨⟨22,pl⟩⟩)
theorem Z9 (l:List Tok)(size:Int)(k:Nat):a2m l size k (-1) ⟨⟨20,I7 l size k⟩⟩:=.inl ⟨rfl,rfl⟩
def SimS {α:Type}(l:List Tok)(size:Int)(k:Nat)(sz:α->Nat)(Q:α->Prop)(p:Option (Rs (α×Int) (Int×Int)))(r:Option (α×Bool×Int)):Prop :=
 (∃(x:α) (q:Nat),p=some (.ok (x,(q:Int)))/\r=some (x,true,(q:Int))/\k<=q/\q<=l.length/\sz x+4*k<=4*q/\Q x) ∨
 (∃(x:α) (q:Nat),p=some (.pan (I7 l size q,(q:Int)))/\r=some (x,false,(q:Int))/\k<=q/\q<=l.length)
section
variable {l:List Tok} {size:Int} (C:Cx l size)
include C
theorem b8E {a:Int}(ha:0<=a)(n n' k0:Nat):∀(m m' k:Nat) (op:Int) (s:Str) (xs:List Nod),k<=l.length->k0+1<=k->l.length-k<m->l.length-k+1<m'->szN xs+4*k0+2<=4*k->G 0 ⟨op,s,0,zT,[],xs,a⟩ ->
  (∃(q:Nat) (op':Int) (s':Str) (ys:List Nod),a1K n a size l m k op s xs=some (.brk ((q:Int),op',s',ys))/\Z7 n' size l (-1) a m' true k op s xs=some (true,(q:Int),op',s',ys)/\k<=q/\q<=l.length/\szN ys+4*k0+2<=4*q/\G 0 ⟨op',s',0,zT,[],ys,a⟩) ∨
  (∃(q:Nat) (op':Int) (s':Str) (ys:List Nod),a1K n a size l m k op s xs=some (.out (.pan (I7 l size q,(q:Int))))/\Z7 n' size l (-1) a m' true k op s xs=some (false,(q:Int),op',s',ys)/\k<=q/\q<=l.length)
 | 0,m',k,op,s,xs,h1,h0,h2,h3,h4,h5=>by omega
 | m+1,0,k,op,s,xs,h1,h0,h2,h3,h4,h5=>by omega
 | m+1,1,k,op,s,xs,h1,h0,h2,h3,h4,h5=>by omega
 | m+1,m'+2,k,op,s,xs,h1,h0,h2,h3,h4,h5=>by
  have hl:=C.hl
  have e0:∀(b:Bool) (q:Int) (o:Int) (u:Str) (v:List Nod),Z7 n' size l (-1) a (m'+2) b q o u v=Option.bind (α:=Bool×Int) (cond b ((o6 [46] l size q (-1)).bind fun(r9,at10)=>some (r9,at10)) (some (false,q))) fun(x517,a7i) =>
   cond x517 ((q9 1 l size a7i (-1)).bind fun(r11,r12,at13)=>Z7 n' size l (-1) a (m'+1) r12 at13 55 r11 ([(⟨o,u,0,(⟨0,[],0,[]⟩:Typ),[],v,a⟩:Nod)]:List Nod)) (some (b,a7i,o,u,v)):=fun _ _ _ _ _=>rfl
  have e9:∀(q:Int) (o:Int) (u:Str) (v:List Nod),Z7 n' size l (-1) a (m'+1) false q o u v=some (false,q,o,u,v):=fun _ _ _ _=>rfl
  rw[e0]
  simp only[a1K,cond_true]
  rcases sgx C h1 46 []with⟨b,hb,e1,e2,e3,e4,e5⟩ |⟨b,e1,e2,e3,e4,e5⟩
  ·simp only[e1,e2,Option.bind_some,cond_true]
   rcases nmx C hb with⟨c,hc,e1,e2,e3⟩ |⟨c,e1,e2,e3⟩
   ·simp (disch:=omega) only[e1,e2,SSx C]
    rcases b8E ha n n' k0 m (m'+1) (k+1+1) 55 (N8 l (k+1)) [⟨op,s,0,zT,[],xs,a⟩] hc (by omega) (by omega) (by omega) (by simp only[a9s,a9W,nsz,tsz,a9X];omega) (.field ha h5)with⟨q,o,u,v,g1,g2,g3,g4,g5,g6⟩ |⟨q,o,u,v,g1,g2,g3,g4⟩
    ·exact .inl ⟨q,o,u,v,g1,g2,by omega,g4,g5,g6⟩
    ·exact .inr ⟨q,o,u,v,g1,g2,by omega,g4⟩
   ·simp (disch:=omega) only[e1,e2,SSx C]
    rw[e9]
    exact .inr ⟨k+1,_,_,_,rfl,rfl,by omega,hb⟩
  ·simp only[e1,e2,Option.bind_some,cond_false]
   exact .inl ⟨k,op,s,xs,rfl,rfl,Nat.le_refl _,h1,h4,h5⟩
theorem c7L {n n' k:Nat}(hk:k<=l.length)(hn:l.length+2<n)(hn':l.length+2<n') :
  SimS l size k Nod.sz (fun x=>G 0 x/\k+1<=l.length) (a02 n l k size) (a1q n' l size k (-1)):=by
 have hl:=C.hl
 unfold a02 a1q
 rcases nmx C hk with⟨c,hc,e1,e2,e3⟩ |⟨c,e1,e2,e3⟩
 ·simp (disch:=omega) only[e1,e2,SSx C]
  rcases b8E C (C.pos k) n n' k n n' (k+1) 54 (N8 l k) [] hc (by omega) (by omega) (by omega) (by simp only[szs];omega) (.name (C.pos k))with⟨q,o,u,v,g1,g2,g3,g4,g5,g6⟩ |⟨q,o,u,v,g1,g2,g3,g4⟩
  ·simp (disch:=omega) only[g1,g2,SSx C]
   exact .inl ⟨_,q,rfl,rfl,by omega,g4,by simp only[szs];omega,g6,hc⟩
  ·simp (disch:=omega) only[g1,g2,SSx C]
   exact .inr ⟨_,q,rfl,rfl,by omega,g4⟩
 ·simp (disch:=omega) only[e1,e2,SSx C]
  obtain⟨m,rfl⟩:∃m,n'=m+1:=⟨n'-1,by omega⟩
  simp only[Z7,cond_false,Option.bind_some]
  exact .inr ⟨_,k,rfl,rfl,Nat.le_refl _,hk⟩
theorem typ4 {n n' k:Nat}(hk:k<=l.length)(hn:20000<=n)(hn':20000<=n') :
  (∃(t:Typ) (q:Nat),F3 n l k size=some (.ok (t,(q:Int)))/\F6 n' l size k (-1)=some (t,true,(q:Int))/\k<q/\q<=l.length/\t.sz+k<=q) ∨
  (∃(t:Typ) (q:Nat),F3 n l k size=some (.pan (I7 l size q,(q:Int)))/\F6 n' l size k (-1)=some (t,false,(q:Int))/\k<=q/\q<=l.length):=by
 have hl:=C.hl
 exact c1M C.hl size (-1) l.length n n' k (by omega) (by omega) hk (by omega)
theorem b6O {m0:List Nod}(n n' k0:Nat)(hn:20000<=n)(hn':20000<=n')(hm0:m0.length<=12000):∀(m m' k:Nat) (xs:List Nod),k<=l.length->l.length-k+1<m->l.length-k+2<m'->szN xs+4*k0<=4*k ->(∀x∈xs,G 4 x) ->
  (∃(q:Nat) (ys:List Nod),a1j n size l m xs k=some (.brk (ys,(q:Int)))/\a0G n' size l (-1) m' (m0++xs) true k=some (.brk (m0++ys,(q:Int)))/\k<=q/\q<=l.length/\szN ys+4*k0<=4*q /\ ∀x∈ys,G 4 x) ∨
  (∃(q:Nat) (ys:List Nod),a1j n size l m xs k=some (.out (.pan (I7 l size q,(q:Int))))/\a0G n' size l (-1) m' (m0++xs) true k=some (.out (ys,false,(q:Int)))/\k<=q/\q<=l.length)
 | 0,m',k,xs,h1,h2,h3,h4,h5=>by omega
 | m+1,0,k,xs,h1,h2,h3,h4,h5=>by omega
 | m+1,1,k,xs,h1,h2,h3,h4,h5=>by omega
 | m+1,m'+2,k,xs,h1,h2,h3,h4,h5=>by
  have hl:=C.hl
  have hlen:=a0Z xs
  have e0:∀(b:Bool) (q:Int) (v:List Nod),a0G n' size l (-1) (m'+1) v false q=some (.brk (v,q)):=fun _ _ _=>rfl
  obtain⟨q,nn,m1,m2,g1,g2⟩:∃(q:Nat) (nn:Int),((D9 [105,110,111,117,116] l k size).bind fun(r8,at9) =>
   cond r8 (
   some (at9,(1:Int))) (
   (D9 [99,111,110,115,117,109,101] l at9 size).bind fun(r10,at11) =>
   cond r10 (
   some (at11,2)) (
   some (at11,0))))=some ((q:Int),nn)/\((w9 [105,110,111,117,116] l size k (-1)).bind fun(r9,at10) =>
   cond r9 (
   some (at10,(1:Int))) (
   (w9 [99,111,110,115,117,109,101] l size at10 (-1)).bind fun(r11,at12) =>
   cond r11 (
   some (at12,2)) (
   some (at12,0))))=some ((q:Int),nn)/\k<=q/\q<=l.length:=by
   rcases kyx C h1 105 [110,111,117,116]with⟨b,hb,e1,e2,e3,e4,e5⟩ |⟨b,e1,e2,e3,e4,e5⟩
   ·rw[e1,e2];exact⟨k+1,1,rfl,rfl,by omega,hb⟩
   ·rw[e1,e2]
    simp only[Option.bind_some,cond_false]
    rcases kyx C h1 99 [111,110,115,117,109,101]with⟨b,hb,e1,e2,e3,e4,e5⟩ |⟨b,e1,e2,e3,e4,e5⟩
    ·rw[e1,e2];exact⟨k+1,2,rfl,rfl,by omega,hb⟩
    ·rw[e1,e2];exact⟨k,0,rfl,rfl,by omega,h1⟩
  rw[a1j.eq_2,a0G.eq_2,a9K C h1,a6i C.hl h1,cond_true,Option.bind_some,Option.bind_some,m1,m2]
  rcases nmx C g2 with⟨c,hc,e1,e2,e3⟩ |⟨c,e1,e2,e3⟩
  ·simp (disch:=omega) only[e1,e2,SSx C]
   rcases sgx C hc 58 []with⟨b,hb,e1,e2,e3,e4,e5⟩ |⟨b,e1,e2,e3,e4,e5⟩
   ·simp (disch:=omega) only[e2,e3,SSx C]
    rcases typ4 C (n:=n) (n':=n') hb hn hn' with⟨t,r,p1,p2,p3,p4,p5⟩ |⟨t,r,p1,p2,p3,p4⟩
    ·have hz:szN (xs++[(⟨10,N8 l q,nn,t,[],[],I7 l size k⟩:Nod)])+4*k0<=4*r:=by
      simp only[b4U,a9s,a9W,nsz,a9X];omega
     have hG:∀x∈xs++[(⟨10,N8 l q,nn,t,[],[],I7 l size k⟩:Nod)],G 4 x:=a6y h5 (a5m (.param (C.pos k)))
     have a1:app 144 xs [(⟨10,N8 l q,nn,t,[],[],I7 l size k⟩:Nod)]=some (xs++[(⟨10,N8 l q,nn,t,[],[],I7 l size k⟩:Nod)]):=a6d (by omega) (by simp) (by omega)
     have a2:app 144 (m0++xs) [(⟨10,N8 l q,nn,t,[],[],I7 l size k⟩:Nod)]=some (m0 ++(xs++[(⟨10,N8 l q,nn,t,[],[],I7 l size k⟩:Nod)])):=by
      rw[<-List.append_assoc];exact a6d (by simp only[List.length_append];omega) (by simp) (by omega)
     simp (disch:=omega) only[p1,p2,a1,a2,SSx C]
     rcases sgx C p4 44 []with⟨b,hb,e1,e2,e3,e4,e5⟩ |⟨b,e1,e2,e3,e4,e5⟩
     ·simp (disch:=omega) only[e1,e2,SSx C]
      rcases b6O n n' k0 hn hn' hm0 m (m'+1) (r+1) _ hb (by omega) (by omega) (by omega) hG with⟨q',ys,y1,y2,y3,y4,y5,y6⟩ |⟨q',ys,y1,y2,y3,y4⟩
      ·exact .inl ⟨q',ys,y1,y2,by omega,y4,y5,y6⟩
      ·exact .inr ⟨q',ys,y1,y2,by omega,y4⟩
     ·simp (disch:=omega) only[e1,e2,SSx C]
      rw[e0 true]
      exact .inl ⟨r,_,rfl,rfl,by omega,p4,hz,hG⟩
    ·simp (disch:=omega) only[p1,p2,SSx C]
     exact .inr ⟨r,_,rfl,rfl,by omega,p4⟩
   ·simp (disch:=omega) only[e2,e3,SSx C]
    exact .inr ⟨q+1,_,rfl,rfl,by omega,hc⟩
  ·simp (disch:=omega) only[e1,e2,SSx C]
   exact .inr ⟨q,_,rfl,rfl,by omega,g2⟩
theorem b8n {m0:List Nod}{n n' k:Nat}(hk:k<=l.length)(hn:20000<=n)(hn':20000<=n')(hm0:m0.length<=12000) :
  (∃(q:Nat) (ys:List Nod),R9 n l k size=some (.ok (ys,(q:Int)))/\o6 [40] l size k (-1)=some (true,((k+1:Nat):Int))/\a0n n' m0 l size ((k+1:Nat):Int) (-1)=some (m0++ys,true,(q:Int))/\k+2<=q/\q<=l.length/\szN ys+4*k+8<=4*q /\ ∀x∈ys,G 4 x) ∨
  (∃(q:Nat) (ys:List Nod),R9 n l k size=some (.pan (I7 l size q,(q:Int)))/\o6 [40] l size k (-1)=some (true,((k+1:Nat):Int))/\a0n n' m0 l size ((k+1:Nat):Int) (-1)=some (ys,false,(q:Int))/\k<=q/\q<=l.length) ∨
  (R9 n l k size=some (.pan (I7 l size k,(k:Int)))/\o6 [40] l size k (-1)=some (false,(k:Int))):=by
 have hl:=C.hl
 unfold R9 a0n
 rcases sgx C hk 40 []with⟨b,hb,e1,e2,e3,e4,e5⟩ |⟨b,e1,e2,e3,e4,e5⟩
 ·simp (disch:=omega) only[e2,e3,SSx C]
  rcases sgx C hb 41 []with⟨b,hb2,e1,e2,e3,e4,e5⟩ |⟨b,e1,e2,e3,e4,e5⟩
  ·simp (disch:=omega) only[e1,e2,SSx C]
   exact .inl ⟨k+1+1,[],rfl,trivial,by rw[List.append_nil],by omega,hb2,by simp only[szs];omega,all_nil⟩
  ·simp (disch:=omega) only[e1,e2,SSx C]
   have h:=b6O C (m0:=m0) n n' (k+1) hn hn' hm0 n n' (k+1) [] hb (by omega) (by omega) (by simp only[szs];omega) all_nil
   rw[List.append_nil]at h
   rcases h with⟨q,ys,y1,y2,y3,y4,y5,y6⟩ |⟨q,ys,y1,y2,y3,y4⟩
   ·simp (disch:=omega) only[y1,y2,SSx C]
    rcases sgx C y4 41 []with⟨b,hb2,e1,e2,e3,e4,e5⟩ |⟨b,e1,e2,e3,e4,e5⟩
    ·simp (disch:=omega) only[e2,e3,SSx C]
     exact .inl ⟨q+1,ys,rfl,trivial,rfl,by omega,hb2,by omega,y6⟩
    ·simp (disch:=omega) only[e2,e3,SSx C]
     exact .inr (.inl ⟨q,_,rfl,trivial,rfl,by omega,y4⟩)
   ·simp (disch:=omega) only[y1,y2,SSx C]
    exact .inr (.inl ⟨q,_,rfl,trivial,rfl,by omega,y4⟩)
 ·simp (disch:=omega) only[e2,e3,SSx C]
  exact .inr (.inr ⟨trivial,trivial⟩)
end
end Go.Proofs.YtcbjnilpecpbmaaGreatDoor
namespace Go.Proofs.YtcbjnilpecpbmaaGreatDoor
open Go Go.Vm
theorem num_nil {n:Nat}(hn:1<=n):a1m n []=some 0:=by
 obtain⟨m,rfl⟩:∃m,n=m+1:=⟨n-1,by omega⟩
 simp[a1m,a3r,ltB]
section
variable {l:List Tok} {size:Int} (C:Cx l size)
include C
def SimP (l:List Tok)(size:Int)(k:Nat)(p:Option (Rs (Nod×Int) (Int×Int)))(r:Option (Nod×Bool×Int)):Prop:=SimS l size k Nod.sz (G 3) p r
section
variable {Φ:F9} {Ψ:G5} (n n':Nat) {c:Nat} (IH:∀k,c<=k->k<=l.length->SimP l size k (Φ.K4 l k size) (Ψ.L8 l size k (-1)))
include IH
theorem c3B {s:Str}{a:Int}{k0:Nat}:∀(m m' k:Nat) (xs:List Nod),c<=k+1->k<=l.length->l.length-k<m->l.length-k<m'->szN xs+4*k0<=4*k ->(∀x∈xs,G 3 x) ->
  (∃(q:Nat) (ys:List Nod),a04 n Φ size l m k xs=some (.brk ((q:Int),ys))/\((o6 [44] l size k (-1)).bind fun(r9,at10)=>a0k n' Ψ size l (-1) s a m' xs r9 at10)=some (.brk (ys,(q:Int)))/\k<=q/\q<=l.length/\szN ys+4*k0<=4*q /\ ∀x∈ys,G 3 x) ∨
  (∃(q:Nat) (y:Nod),a04 n Φ size l m k xs=some (.out (.pan (I7 l size q,(q:Int))))/\((o6 [44] l size k (-1)).bind fun(r9,at10)=>a0k n' Ψ size l (-1) s a m' xs r9 at10)=some (.out (y,false,(q:Int)))/\k<=q/\q<=l.length)
 | 0,m',k,xs,h1,h2,h3,h4,h5,h6=>by omega
 | m+1,0,k,xs,h1,h2,h3,h4,h5,h6=>by omega
 | m+1,m'+1,k,xs,h1,h2,h3,h4,h5,h6=>by
  have hl:=C.hl
  have hlen:=a0Z xs
  rw[a04.eq_2]
  rcases sgx C h2 44 []with⟨b,hb,e1,e2,e3,e4,e5⟩ |⟨b,e1,e2,e3,e4,e5⟩
  ·rw[e1,e2]
   simp only[Option.bind_some,cond_true,a0k.eq_2]
   rcases IH (k+1) h1 hb with⟨x,q,p1,p2,p3,p4,p5,p6⟩ |⟨x,q,p1,p2,p3,p4⟩
   ·have a1:app 144 xs [x]=some (xs++[x]):=a6d (by omega) (by simp) (by omega)
    have hx:=x.a2t
    simp only[p1,p2,a1,P6,Option.bind_some,Bool.not_true,cond_false]
    rcases c3B (k0:=k0) m m' q (xs++[x]) (by omega) p4 (by omega) (by omega) (by simp only[szs];omega) (a6y h6 (a5m p6))with⟨q',ys,y1,y2,y3,y4,y5,y6⟩ |⟨q',ys,y1,y2,y3,y4⟩
    ·exact .inl ⟨q',ys,y1,y2,by omega,y4,y5,y6⟩
    ·exact .inr ⟨q',ys,y1,y2,by omega,y4⟩
   ·simp only[p1,p2,O8,Option.bind_some,Bool.not_false,cond_true]
    exact .inr ⟨q,_,rfl,rfl,by omega,p4⟩
  ·rw[e1,e2]
   exact .inl ⟨k,xs,rfl,rfl,Nat.le_refl _,h2,h5,h6⟩
end
theorem c3A {N n n' k:Nat}(hN:20000<=N)(ha:N+1<=n)(hb':N+1<=n')(hk:k<=l.length)
  (IH:∀q n n',k<q->q<=l.length->N<=n->N<=n'->SimP l size q ((F9.fs n).K4 l q size) ((G5.fs n').L8 l size q (-1))) :
  SimP l size k ((F9.fs n).K4 l k size) ((G5.fs n').L8 l size k (-1)):=by
 have hl:=C.hl
 obtain⟨n,rfl⟩:∃q,n=q+1:=⟨n-1,by omega⟩
 obtain⟨n',rfl⟩:∃q,n'=q+1:=⟨n'-1,by omega⟩
 show SimP l size k (a1k n (F9.fs n) l k size) (a1s n' (G5.fs n') l size k (-1))
 unfold a1k a1s
 rw[b7Y C.hl hk size 1 [95] (a2A _ _),b6F C]
 rcases nmx C hk with⟨c,hc,e1,e2,e3⟩ |⟨c,e1,e2,e3⟩
 ·simp (disch:=omega) only[c,e1,e2,e3,Bool.true_and,SSx C]
  cases eqS (N8 l k) [95]
  ·simp (disch:=omega) only[SSx C]
   exact .inl ⟨_,k+1,rfl,rfl,by omega,hc,by simp only[szs];omega,.bnd (C.pos k)⟩
  ·simp (disch:=omega) only[SSx C]
   exact .inl ⟨_,k+1,rfl,rfl,by omega,hc,by simp only[szs];omega,.wild (C.pos k)⟩
 simp (disch:=omega) only[c,e2,e3,Bool.false_and,SSx C]
 rcases inx C hk with⟨c,hc,v,v0,e1,e2,e3,e4⟩ |⟨c,e1,e2,e3⟩
 ·simp (disch:=omega) only[e1,e2,e3,e4,SSx C]
  exact .inl ⟨_,k+1,rfl,rfl,by omega,hc,by simp only[szs];omega,.pint (C.pos k)⟩
 simp (disch:=omega) only[e2,e3,SSx C]
 rcases sgx C hk 45 []with⟨b,hb,e1,e2,e3,e4,e5⟩ |⟨b,e1,e2,e3,e4,e5⟩
 ·simp (disch:=omega) only[e1,e2,SSx C]
  rcases inx C hb with⟨c,hc,v,v0,e1,e2,e3,e4⟩ |⟨c,e1,e2,e3⟩
  ·simp (disch:=omega) only[e1,e2,e3,e4,SSx C]
   exact .inl ⟨_,k+1+1,rfl,rfl,by omega,hc,by simp only[szs];omega,.pint (C.pos k)⟩
  ·simp (disch:=omega) only[e1,e2,e3,num_nil,SSx C]
   exact .inr ⟨_,k+1,rfl,rfl,by omega,hb⟩
 simp (disch:=omega) only[e1,e2,SSx C]
 rcases kdx C hk 4 with⟨c,hc,t,t1,t2,t3,t4,e1,e2,e3,e4⟩ |⟨c,e1,e2,e3,e4⟩
 ·simp (disch:=omega) only[e1,e3,e4,t2,SSx C]
  exact .inl ⟨_,k+1,rfl,rfl,by omega,hc,by simp only[szs];omega,.ptext (C.pos k)⟩
 simp (disch:=omega) only[e1,e3,SSx C]
 rcases kyx C hk 116 [114,117,101]with⟨b,hb,e1,e2,e3,e4,e5⟩ |⟨b,e1,e2,e3,e4,e5⟩
 ·simp (disch:=omega) only[e1,e2,SSx C]
  exact .inl ⟨_,k+1,rfl,rfl,by omega,hb,by simp only[szs];omega,.ptruth (.inr rfl) (C.pos k)⟩
 simp (disch:=omega) only[e1,e2,SSx C]
 rcases kyx C hk 102 [97,108,115,101]with⟨b,hb,e1,e2,e3,e4,e5⟩ |⟨b,e1,e2,e3,e4,e5⟩
 ·simp (disch:=omega) only[e1,e2,SSx C]
  exact .inl ⟨_,k+1,rfl,rfl,by omega,hb,by simp only[szs];omega,.ptruth (.inl rfl) (C.pos k)⟩
 simp (disch:=omega) only[e1,e2,SSx C]
 rcases sgx C hk 46 []with⟨b,hb,e1,e2,e3,e4,e5⟩ |⟨b,e1,e2,e3,e4,e5⟩
 ·simp (disch:=omega) only[e2,e3,SSx C]
  rcases nmx C hb with⟨c,hc,e1,e2,e3⟩ |⟨c,e1,e2,e3⟩
  ·simp (disch:=omega) only[e1,e2,SSx C]
   rcases sgx C hc 40 []with⟨b,hb2,e1,e2,e3,e4,e5⟩ |⟨b,e1,e2,e3,e4,e5⟩
   ·simp (disch:=omega) only[e1,e2,SSx C]
    obtain⟨m',rfl⟩:∃q,n'=q+1:=⟨n'-1,by omega⟩
    rw[a0k.eq_2,cond_true]
    rcases IH (k+1+1+1) n (m'+1) (by omega) hb2 (by omega) (by omega)with⟨x,q,p1,p2,p3,p4,p5,p6⟩ |⟨x,q,p1,p2,p3,p4⟩
    ·rw[p1,p2,P6,Option.bind_some]
     simp only[app_0 144 x (by omega),Option.bind_some,Bool.not_true,cond_false]
     have hx:=x.a2t
     rcases c3B C n (m'+1) (fun q h1 h2=>IH q n (m'+1) h1 h2 (by omega) (by omega)) (s:=N8 l (k+1)) (a:=I7 l size k) (k0:=k+1) n m' q [x] (by omega) p4 (by omega) (by omega) (by simp only[szs];omega) (a5m p6)with⟨q',ys,y1,y2,y3,y4,y5,y6⟩ |⟨q',ys,y1,y2,y3,y4⟩
     ·rw[y1,y2,a2n,a0s]
      rcases sgx C y4 41 []with⟨b,hb3,e1,e2,e3,e4,e5⟩ |⟨b,e1,e2,e3,e4,e5⟩
      ·simp (disch:=omega) only[e2,e3,SSx C]
       exact .inl ⟨_,q'+1,rfl,rfl,by omega,hb3,by simp only[szs];omega,.pcase (C.pos k) y6⟩
      ·simp (disch:=omega) only[e2,e3,SSx C]
       exact .inr ⟨_,q',rfl,rfl,by omega,y4⟩
     ·rw[y1,y2,a4i,a0t,a0t]
      exact .inr ⟨_,q',rfl,rfl,by omega,y4⟩
    ·rw[p1,p2,O8,Option.bind_some]
     exact .inr ⟨_,q,rfl,rfl,by omega,p4⟩
   ·simp (disch:=omega) only[e1,e2,SSx C]
    exact .inl ⟨_,k+1+1,rfl,rfl,by omega,hc,by simp only[szs];omega,.pcase (C.pos k) all_nil⟩
  ·simp (disch:=omega) only[e1,e2,SSx C]
   exact .inr ⟨_,k+1,rfl,rfl,by omega,hb⟩
 ·simp (disch:=omega) only[e2,e3,SSx C]
  exact .inr ⟨_,k,rfl,rfl,Nat.le_refl _,hk⟩
theorem c6Z:∀(R n n' k:Nat),20000+R+1<=n->20000+R+1<=n'->k<=l.length->l.length-k<=R->SimP l size k ((F9.fs n).K4 l k size) ((G5.fs n').L8 l size k (-1))
 | 0,n,n',k,h1,h2,h3,h4=>c3A C (Nat.le_refl _) h1 h2 h3 fun q _ _ g1 g2=>by omega
 | R+1,n,n',k,h1,h2,h3,h4=>c3A C (N:=20000+R+1) (by omega) h1 h2 h3 fun q m m' g1 g2 g3 g4=>c6Z R m m' q g3 g4 g2 (by omega)
theorem pat_sim {n n' k:Nat}(hk:k<=l.length)(hn:24000<=n)(hn':24000<=n'):SimP l size k (K4 n l k size) (L8 n' l size k (-1)):=by
 have hl:=C.hl
 exact c6Z C 3000 n n' k (by omega) (by omega) hk (by omega)
theorem base_sim {n n' k:Nat} (hk:k <= l.length) (hn:20000 <= n) (hn':20000 <= n') :
    (∃(t:Typ) (q:Nat),(∀b,P9 n b l k size=M4 (α:=Int×Typ) (P5 (n-1) (A7.fs (n-1)) b size l (n-1) q t) fun(b4o,n550)=>some (.ok (n550,b4o)))/\Q0 n' l size k (-1)=some (t,true,(q:Int))/\k<q/\q<=l.length/\t.sz+k<=q) ∨
    (∃(t:Typ) (q:Nat),(∀b,P9 n b l k size=some (.pan (I7 l size q,(q:Int))))/\Q0 n' l size k (-1)=some (t,false,(q:Int))/\k<=q/\q<=l.length):=by
  have hl:=C.hl
  obtain⟨a,rfl⟩:∃q,n=q+1:=⟨n-1,by omega⟩
  obtain⟨b',rfl⟩:∃q,n'=q+1:=⟨n'-1,by omega⟩
  have hp:∀bb,P9 (a+1) bb l k size=a0l a (A7.fs a) bb l k size:=fun _=>rfl
  have hr:Q0 (b'+1) l size k (-1)=a0m b' (p9.fs b') l size k (-1):=rfl
  simp only[hp,hr,Nat.add_sub_cancel]
  unfold a0l a0m
  rcases cap C.hl hk size (-1)with⟨c1,c2,c3,c4⟩ |⟨c2,c3⟩
  · rw[c2,c3,c4]
    simp only[P6,Option.bind_some,Bool.not_true,cond_false]
    have kind_ok:∀(args:List Typ) (q:Int),(Option.bind (α:=Int) (
  Option.bind (α:=Bool) (
  cond (eqB (List.length args:Int) 0) (
  some (eqS (N8 l k) [73,110,116])) (
  some false)) fun x559 =>
  cond x559 (
  some 1) (
  Option.bind (α:=Bool) (
  cond (eqB (List.length args:Int) 0) (
  some (eqS (N8 l k) [66,111,111,108])) (
  some false)) fun x560 =>
  cond x560 (
  some 2) (
  Option.bind (α:=Bool) (
  cond (eqB (List.length args:Int) 0) (
  some (eqS (N8 l k) [84,101,120,116])) (
  some false)) fun x561 =>
  cond x561 (
  some 3) (
  Option.bind (α:=Bool) (
  cond (eqB (List.length args:Int) 0) (
  some (eqS (N8 l k) [85,110,105,116])) (
  some false)) fun x562 =>
  cond x562 (
  some 4) (
  Option.bind (α:=Bool) (
  cond (eqB (List.length args:Int) 1) (
  some (eqS (N8 l k) [65,114,114,97,121])) (
  some false)) fun x563 =>
  cond x563 (
  some 5) (
  Option.bind (α:=Bool) (
  cond (eqB (List.length args:Int) 1) (
  some (eqS (N8 l k) [87,101,97,107])) (
  some false)) fun x564 =>
  cond x564 (
  some 11) (
  some 6))))))) fun b5d =>
  Option.bind (α:=Str) (
  cond (!eqB b5d 6) (
  some []) (
  some (N8 l k))) fun s566 =>
  some (((⟨b5d,s566,0,args⟩:Typ),true,q))) = some (b0s (N8 l k) args,true,q):=by
      intro args q
      unfold b0s kindOf
      cases eqB (List.length args:Int) 0<;>cases eqB (List.length args:Int) 1<;>cases eqS (N8 l k) [73,110,116]<;>cases eqS (N8 l k) [66,111,111,108]<;>cases eqS (N8 l k) [84,101,120,116]<;>cases eqS (N8 l k) [85,110,105,116] <;>
        cases eqS (N8 l k) [65,114,114,97,121]<;>cases eqS (N8 l k) [87,101,97,107]<;>simp[eqB]
    rcases sgx C c1 60 []with⟨b,hb,e1,e2,e3,e4,e5⟩ |⟨b,e1,e2,e3,e4,e5⟩
    · rw[e1,e2]
      simp only[Option.bind_some,cond_true]
      obtain⟨b',rfl⟩:∃q,b'=q+1:=⟨b'-1,by omega⟩
      have hty:∀q:Int,(p9.fs (b'+1)).O0 l size q (-1)=U4 b' (p9.fs b') l size q (-1):=fun _=>rfl
      rw[hty]
      simp only[l5_eq]
      rcases b6q C.hl size (-1) (Φ:=A7.fs a) (Ψ:=p9.fs b') a b' (c:=k+1) (fun q h1 h2=>c1M C.hl size (-1) l.length a b' q (by omega) (by omega) h2 (by omega)) (k:=k+1+1) (by omega) hb (by omega) (by omega)with
        ⟨t,k1,args,k2,y1,y2,y3,y4,y5,y6,y7⟩ |⟨args,k2,y1,y2,y3,y4⟩ |⟨t,k1,args,k2,y1,y2,y3,y4,y5,y6⟩
      · rw[y1,y4]
        simp only[P6,Option.bind_some]
        rw[y2]
        simp only[Option.bind_some]
        rw[y3]
        simp only[a2n,Bool.not_true,cond_false]
        rcases sgx C y6 62 []with⟨b,hb2,e1,e2,e3,e4,e5⟩ |⟨b,e1,e2,e3,e4,e5⟩
        · rw[e2,e3]
          simp only[P6,a0s,Option.bind_some,Bool.not_true,cond_false]
          rw[kind_ok]
          refine .inl ⟨b0s (N8 l k) args,k2+1,fun bb=>?_,rfl,by omega,hb2,by rw[Typ.a2t];simp only[b0s];omega⟩
          rw[b8c,Option.bind_some]
        · rw[e2,e3]
          simp only[O8,a0t,Option.bind_some,Bool.not_false,cond_true]
          exact .inr ⟨_,k2,fun _=>rfl,rfl,by omega,y6⟩
      · rw[y1,y2]
        simp only[O8,a0t,Option.bind_some,Bool.not_false,cond_true]
        exact .inr ⟨_,k2,fun _=>rfl,rfl,by omega,y4⟩
      · rw[y1,y4]
        simp only[P6,Option.bind_some]
        rw[y2]
        simp only[Option.bind_some]
        rw[y3]
        simp only[a4i,a0t,Option.bind_some,Bool.not_false,cond_true]
        exact .inr ⟨_,k2,fun _=>rfl,rfl,by omega,y6⟩
    · rw[e1,e2]
      simp only[a0s,Option.bind_some,cond_false]
      rw[kind_ok]
      refine .inl ⟨b0s (N8 l k) [],k+1,fun bb=>?_,rfl,by omega,c1,by rw[Typ.a2t];simp only[b0s,szT];omega⟩
      rw[b8c,Option.bind_some]
  · rw[c2,c3]
    simp only[O8,Option.bind_some,Bool.not_false,cond_true]
    exact .inr ⟨_,k,fun _=>rfl,rfl,Nat.le_refl _,hk⟩
end
inductive c2i:Nod->Prop
 | leaf {x:Nod}:x.op≠55->c2i x
 | step {x y:Nod}:x.l=[y]->c2i y->c2i x
theorem G.spine {m:Nat}{x:Nod}(h:G m x):m=0->c2i x:=by
 induction h with
 | field _ _ ih=>exact fun _=>.step rfl (ih rfl)
 | un h _ _=>exact fun _=>.leaf (by rcases h with rfl|rfl<;>simp)
 | _=>first|exact fun h=>absurd h (by decide)|exact fun _=>.leaf (by simp)
theorem place_l1 (n n':Nat):∀{x:Nod},c2i x -> ∀m m',x.sz<m->x.sz<m' -> ∃y,a4m n m x=some y/\a4p n' m' x=some y:=by
 intro x h
 induction h with
 | @leaf x h =>
  intro m m' h1 h2
  obtain⟨m,rfl⟩:∃q,m=q+1:=⟨m-1,by omega⟩
  obtain⟨m',rfl⟩:∃q,m'=q+1:=⟨m'-1,by omega⟩
  simp only[a4m,a4p,a6z h,cond_false,Option.bind_some]
  exact⟨x,rfl,rfl⟩
 | @step x y hx hy ih =>
  intro m m' h1 h2
  obtain⟨m,rfl⟩:∃q,m=q+1:=⟨m-1,by omega⟩
  obtain⟨m',rfl⟩:∃q,m'=q+1:=⟨m'-1,by omega⟩
  have hz:=x.a2t
  rw[hx]at hz
  simp only[a9s,a9W]at hz
  have h0:idx' x.l 0=some y:=by rw[hx];exact a2O (l:=[y]) (i:=0) (by simp)
  have h9:eqB (List.length x.l:Int) 1=true:=by rw[hx];exact a3V rfl
  cases ho:eqB x.op 55
  ·simp only[a4m,a4p,ho,cond_false,Option.bind_some]
   exact⟨x,rfl,rfl⟩
  ·simp only[a4m,a4p,ho,cond_true,Option.bind_some,h0,h9]
   exact ih m m' (by omega) (by omega)
theorem c7M {x:Nod}(h:G 0 x){n n':Nat}(hn:x.sz<n)(hn':x.sz<n'):∃b,a7Y n x=some b/\a8a n' x=some b:=by
 obtain⟨y,h1,h2⟩:=place_l1 n n' (h.spine rfl) n n' hn hn'
 unfold a7Y a8a
 rw[h1,h2]
 exact⟨_,rfl,rfl⟩
theorem c2N (n:Nat)(ops:List Str)(v:Str)(h2:ops.length<=1000):∀m i,i<=ops.length->ops.length-i<m -> ∃r,M4 (α:=Unit) (a0g n ops v m (i:Int)) (fun _=>some (-1))=some r/\leB 0 r =(ops.drop i).any (eqS v)
 | 0,i,h3,h4=>by omega
 | m+1,i,h3,h4=>by
  simp only[a0g]
  rcases Nat.lt_or_ge i ops.length with h|h
  ·rw[a5H (by omega),cond_true,a2O h,Option.bind_some,List.drop_eq_getElem_cons h,List.any_cons]
   cases hv:eqS v ops[i]
   ·rw[cond_false,a0r (by omega),Bool.false_or]
    exact c2N n ops v h2 m (i+1) h (by omega)
   ·exact⟨(i:Int),rfl,by rw[c2W (by omega)];rfl⟩
  ·rw[a6G (by omega),cond_false,List.drop_eq_nil_of_le h]
   exact⟨-1,rfl,c2V (by decide)⟩
theorem b6A {n:Nat}(ops:List Str)(v:Str)(h2:ops.length<=1000)(h:ops.length<n):R7 n ops v=some (ops.any (eqS v)):=by
 obtain⟨r,h3,h4⟩:=c2N n ops v h2 n 0 (Nat.zero_le _) (by omega)
 unfold R7 a1E
 have h3:M4 (α:=Unit) (a0g n ops v n 0) (fun _=>some (-1))=some r:=h3
 rw[h3,Option.bind_some,h4];rfl
end Go.Proofs.YtcbjnilpecpbmaaGreatDoor
