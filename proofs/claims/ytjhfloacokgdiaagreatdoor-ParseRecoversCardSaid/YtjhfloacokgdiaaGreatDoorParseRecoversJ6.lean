/- Texts of ParseRecovers, joined. -/
import Derived.Test.YtjhfloacokgdiaaGreatDoorParseRecoversJ5
import Derived.Shelf.Strings.Builder1
import Derived.Shelf.Strings.OnBuilder
import Derived.Test.YtjhfloacokgdiaaGreatDoorProg
import Derived.Shelf.LaysC
import Derived.Shelf.Strconv.AtoiAll
import Derived.KernelRfl
set_option maxRecDepth 100000
set_option maxHeartbeats 20000000
set_option linter.all false
namespace Go.Proofs.YtjhfloacokgdiaaGreatDoor.Sc
open Go Go.Vm
variable {a b c:Int} {st:List (Nat×Int)} {l toks:List Tok} {s:List UInt8} {r:MR} {x y:MS} {ins j p q:Nat}
def Lay (s:List UInt8):Nat->List Tok->Nat->Prop|k,[],e=>k=e|k,t::r,e=>t.a=a0W s k/\t.a<s.length/\0<t.l/\t.a+t.l<=s.length/\Lay s (t.a+t.l) r e
theorem Lay.add {s:List UInt8}{t:Tok}:∀{l:List Tok} {k e:Nat},Lay s k l e->t.a=a0W s e->t.a<s.length->0<t.l->t.a+t.l<=s.length->Lay s k (l++[t]) (t.a+t.l)
 | [],k,e,h,h1,h2,h3,h4=>by
  simp only[Lay]at h;subst h;exact⟨h1,h2,h3,h4,rfl⟩
 | u::l,k,e,h,h1,h2,h3,h4=>⟨h.1,h.2.1,h.2.2.1,h.2.2.2.1,Lay.add h.2.2.2.2 h1 h2 h3 h4⟩
theorem a1B (h:roomy toks j r=.go y):toks.length<3000/\r=.go y:=by
 unfold roomy at h;split at h
 ·cases h
 ·rename_i h1;simp only[decide_eq_false_iff_not]at h1;exact⟨by omega,h⟩
theorem lit_go (h:a2k toks st q j a b (part s q ins (j+1) [])=.go y) :
  ∃t:Tok,y.toks=toks++[t]/\t.a=j/\0<t.l/\y.i=t.a+t.l/\t.a+t.l<=s.length:=by
 have hok:=c6i s q ins (j+1) [];cases hp:part s q ins (j+1) []with
 | err c a=>rw[hp]at h;cases h
 | fin t e =>
  rw[hp]at h hok;have h1:j+1<e:=hok.1;have h2:e<=s.length:=hok.2;simp only[a2k]at h;cases h;exact⟨_,rfl,rfl,by show 0<e-j;omega,by show e=j+(e-j);omega,by show j+(e-j)<=_;omega⟩
 | more t e =>
  rw[hp]at h hok;have h1:j+1<e:=hok.1;have h2:e<=s.length:=hok.2;simp only[a2k]at h;cases h;exact⟨_,rfl,rfl,by show 0<e-j;omega,by show e=j+(e-j);omega,by show j+(e-j)<=_;omega⟩
theorem b8a (h:stepM s x=.go y):∃t:Tok,y.toks=x.toks++[t]/\t.a=a0W s x.i/\t.a<s.length/\0<t.l/\y.i=t.a+t.l/\t.a+t.l<=s.length:=by
 obtain⟨i0,toks,st⟩:=x;obtain⟨i,h0⟩:∃i,a0W s i0=i:=⟨_,rfl⟩
 show ∃t:Tok,y.toks=toks++[t]/\t.a=a0W s i0/\_;rw[h0];rcases Nat.lt_or_ge i s.length with hi|hi
 ·have fin:(∃t:Tok,y.toks=toks++[t]/\t.a=i/\0<t.l/\y.i=t.a+t.l/\t.a+t.l<=s.length) -> ∃t:Tok,y.toks=toks++[t]/\t.a=i/\t.a<s.length/\0<t.l/\y.i=t.a+t.l/\t.a+t.l<=s.length:=by
   rintro⟨t,h1,h2,h3,h4,h5⟩;exact⟨t,h1,h2,by omega,h3,h4,h5⟩
  apply fin;cases hc:closes (s.getD i 0).toNat st with
  | true =>
   cases st with
   | nil=>cases hc
   | cons z st =>
    obtain⟨q,p⟩:=z;rw[(a2F h0 hi hc).2]at h;exact lit_go (a1B h).2
  | false =>
   by_cases h1:(s.getD i 0).toNat=34
   ·rw[a4s h0 hi hc h1]at h;exact lit_go (a1B h).2
   ·have hi1:i<=s.length:=by omega
    cases h2:U5 (s.getD i 0)with
    | true =>
     rw[a3v h0 hi hc h1 h2]at h;have hg:=b3q hi h2;have hl:=a9y (p:=U5) hi1;have h:=(a1B h).2;split at h
     ·cases h
     ·cases h;exact⟨_,rfl,rfl,by show 0<a1c U5 s i-i;omega,by show a1c U5 s i=i+(a1c U5 s i-i);omega,by show i+(a1c U5 s i-i)<=_;omega⟩
    | false =>
     cases h3:a1b (s.getD i 0)with
     | true =>
      rw[a2G h0 hi hc h1 h2 h3]at h;have hg:=b3q (p:=a2J) hi (by simp only[a2J,h3,Bool.true_or]);have hl:=a9y (p:=a2J) hi1;have h:=(a1B h).2;split at h
      ·cases h
      ·cases h;exact⟨_,rfl,rfl,by show 0<a1c a2J s i-i;omega,by show a1c a2J s i=i+(a1c a2J s i-i);omega,by show i+(a1c a2J s i-i)<=_;omega⟩
     | false =>
      cases hw:a2w s i 2 with
      | nil=>rw[a5P h0 hi hc h1 h2 h3 hw]at h;cases h
      | cons b w =>
       rw[a2p h0 hi hc h1 h2 h3 hw (by simp)]at h;have hl:=b9H 2 hi1;rw[hw]at hl;have h:=(a1B h).2;cases h;exact⟨_,rfl,rfl,by show 0<(b::w).length;simp,rfl,by show i+(b::w).length<=_;omega⟩
 ·cases st with
  | nil=>rw[a4U h0 hi]at h;cases h
  | cons z st=>obtain⟨q,p⟩:=z;rw[a5R h0 hi]at h;cases h
theorem c7A (h:Reach s x y):x.i<=s.length->Lay s 0 x.toks x.i->y.i<=s.length/\Lay s 0 y.toks y.i:=by
 induction h with
 | refl x=>exact fun h1 h2=>⟨h1,h2⟩
 | step x y z h1 _ ih =>
  intro h2 h3;obtain⟨t,g1,g2,g3,g4,g5,g6⟩:=b8a h1;exact ih (by omega) (by rw[g1,g5];exact h3.add g2 g3 g4 g6)
theorem a8Y (h:roomy toks j r=.done l):r=.done l:=by
 unfold roomy at h;split at h
 ·cases h
 ·exact h
theorem b4G {r:PR}(h:a2k toks st q j a b r=.done l):False:=by
 cases r<;>cases h
theorem a5Q (h:stepM s x=.done l):x.toks=l/\s.length<=a0W s x.i:=by
 obtain⟨i0,toks,st⟩:=x;obtain⟨i,h0⟩:∃i,a0W s i0=i:=⟨_,rfl⟩
 show toks=l/\s.length<=a0W s i0;rw[h0];rcases Nat.lt_or_ge i s.length with hi|hi
 ·exfalso;cases hc:closes (s.getD i 0).toNat st with
  | true =>
   cases st with
   | nil=>cases hc
   | cons z st =>
    obtain⟨q,p⟩:=z;rw[(a2F h0 hi hc).2]at h;exact b4G (a8Y h)
  | false =>
   by_cases h1:(s.getD i 0).toNat=34
   ·rw[a4s h0 hi hc h1]at h;exact b4G (a8Y h)
   ·cases h2:U5 (s.getD i 0)with
    | true =>
     rw[a3v h0 hi hc h1 h2]at h;have h:=a8Y h;split at h<;>cases h
    | false =>
     cases h3:a1b (s.getD i 0)with
     | true =>
      rw[a2G h0 hi hc h1 h2 h3]at h;have h:=a8Y h;split at h<;>cases h
     | false =>
      cases hw:a2w s i 2 with
      | nil=>rw[a5P h0 hi hc h1 h2 h3 hw]at h;cases h
      | cons b w =>
       rw[a2p h0 hi hc h1 h2 h3 hw (by simp)]at h;have h:=a8Y h;cases h
 ·cases st with
  | nil=>rw[a4U h0 hi]at h;cases h;exact⟨rfl,hi⟩
  | cons z st=>obtain⟨q,p⟩:=z;rw[a5R h0 hi]at h;cases h
theorem b0A {a:Nat}(h:roomy toks j r=.err c a):c=2∨r=.err c a:=by
 unfold roomy at h;split at h
 ·cases h;exact .inl rfl
 ·exact .inr h
theorem c5X {i:Nat}(h:a2k toks st q j a b (part s q ins i [])=.err c p):c≠0:=by
 have hok:=c6i s q ins i [];cases hp:part s q ins i []with
 | err c' a'=>rw[hp]at h hok;cases h;rcases hok with rfl|rfl|rfl<;>decide
 | fin t e=>rw[hp]at h;cases h
 | more t e=>rw[hp]at h;cases h
theorem c7O (h:stepM s x=.err c p):c≠0:=by
 obtain⟨i0,toks,st⟩:=x;obtain⟨i,h0⟩:∃i,a0W s i0=i:=⟨_,rfl⟩
 rcases Nat.lt_or_ge i s.length with hi|hi
 ·cases hc:closes (s.getD i 0).toNat st with
  | true =>
   cases st with
   | nil=>cases hc
   | cons z st =>
    obtain⟨q,p⟩:=z;rw[(a2F h0 hi hc).2]at h;rcases b0A h with rfl|h
    ·decide
    ·exact c5X h
  | false =>
   by_cases h1:(s.getD i 0).toNat=34
   ·rw[a4s h0 hi hc h1]at h;rcases b0A h with rfl|h
    ·decide
    ·exact c5X h
   ·cases h2:U5 (s.getD i 0)with
    | true =>
     rw[a3v h0 hi hc h1 h2]at h;rcases b0A h with rfl|h
     ·decide
     ·split at h<;>cases h;decide
    | false =>
     cases h3:a1b (s.getD i 0)with
     | true =>
      rw[a2G h0 hi hc h1 h2 h3]at h;rcases b0A h with rfl|h
      ·decide
      ·split at h<;>cases h;decide
     | false =>
      cases hw:a2w s i 2 with
      | nil=>rw[a5P h0 hi hc h1 h2 h3 hw]at h;cases h;decide
      | cons b w =>
       rw[a2p h0 hi hc h1 h2 h3 hw (by simp)]at h;rcases b0A h with rfl|h
       ·decide
       ·cases h
 ·cases st with
  | nil=>rw[a4U h0 hi]at h;cases h
  | cons z st=>obtain⟨q,p⟩:=z;rw[a5R h0 hi]at h;cases h;decide
structure TokOk (s:List UInt8)(r:MR):Prop where
 bd:RBd r
 nz:∀c a,r=.err c a->c≠0
 lay:∀l,r=.done l->s.length<=8000 /\ ∃e,Lay s 0 l e/\s.length<=a0W s e/\e<=s.length
theorem ends_ok (hs:s.length<=8000)(h:Ends s ⟨0,[],[]⟩ r)(hr:RBd r):TokOk s r:=by
 obtain⟨y,h1,h2,h3⟩:=h;refine⟨hr,fun c a e=>?_,fun l e=>?_⟩
 ·subst e;exact c7O h2
 ·subst e;obtain⟨h4,h5⟩:=a5Q h2;obtain⟨h6,h7⟩:=c7A h1 (Nat.zero_le _) rfl;rw[h4]at h7;exact⟨hs,y.i,h7,h5,h6⟩
theorem tokOne (s:List UInt8):∃r,TokOk s r/\E env (.call 16 [.str s]) []=some (.ret (b8l r) [])/\(s.length<=8000->Ends s ⟨0,[],[]⟩ r):=by
 rcases Nat.lt_or_ge 8000 s.length with h|h
 ·exact⟨.err 2 0,⟨trivial,fun c a e=>(by cases e;decide),fun l e=>(by cases e)⟩,c11big h,fun h1=>absurd h1 (by omega)⟩
 ·obtain⟨r,h1,h2,h3⟩:=c11 h;exact⟨r,ends_ok h h1 h2,h3,fun _=>h1⟩
end Go.Proofs.YtjhfloacokgdiaaGreatDoor.Sc
namespace Go.Vm
variable {args:List V} {g:Nat}
variable {ρ:Rho} {lab:Lab} {w:World} {H:Hp}
theorem b92 {env:Env}(hE:a7q env){v:V}(h:E env (.call g args) []=some (.ret v []))(ha:a1m (a1D a4J dep) (args.map a9z)=some args)(hv:a1D a4J dep v=some v)
  (hc:Canon 0 H) (hS:Sim ρ lab H w) {xs:List Value} (hx:J2 ρ lab w args xs):Calls env.P g xs.toArray w (a8y ρ lab H w (.ret v H)):=by
 obtain⟨k,hk⟩:=(a3W env).at_ _ _ _ h;have q:a15 (run env k) g args H=some (.val v H):=by
  unfold a15;rw[ha];simp only;rw[hk];simp only;rw[hv]
 refine(b5Z (b70 hE k).1 hS hx q).1.mono fun e w' he=>?_;cases e with
 | returned x =>
  obtain⟨ρ',lab',h1,h2,h3,h4⟩:=he;exact⟨ρ',lab',h1,h2,a2q.of_le h3 _,h4,hc,Nat.le_refl _⟩
 | panicked ch=>exact he.elim
 | outgrown=>exact he.elim
def b0F (f:List V->Option V):List V->Hp->Option Out:=fun args H=>match f args with
 | some v=>some (.ret v H)
 | none=>none
theorem c6F {env:Env}(hE:a7q env){f:List V->Option V}
  (hf:∀args v,f args=some v->a1m (a1D a4J dep) (args.map a9z)=some args/\a1D a4J dep v=some v/\E env (.call g args) []=some (.ret v []))
  (hk:∃fn c,env.P.funcs[g]? = some fn/\(fn.name == "runtime.NumGoroutine")=false/\fn.body=some c):a7J env.P g (b0F f):=by
 refine⟨fun args H out h ρ lab w xs hc hS hx=>?_,hk⟩;unfold b0F at h;split at h
 ·rename_i v hv;cases h;obtain⟨h1,h2,h3⟩:=hf args v hv;exact b92 hE h3 h1 h2 hc hS hx
 ·cases h
theorem a8a {env:Env}{H:Hp}{out:Out}{h:List V->Hp->Option Out}(hi:env.intr g=some (.plain h))(ho:h args H=some out):E env (.call g args) H=some out:=by
 refine(a3W env).le 1 _ _ _ ?_;simp only[run,step,hi,ho]
end Go.Vm
namespace Go.Proofs.YtjhfloacokgdiaaGreatDoor.Sc
open Go Go.Vm
noncomputable def a2y (s:List UInt8):MR:=(tokOne s).choose
theorem a6L (s:List UInt8):TokOk s (a2y s)/\E env (.call 16 [.str s]) []=some (.ret (b8l (a2y s)) [])/\(s.length<=8000->Ends s ⟨0,[],[]⟩ (a2y s)):=(tokOne s).choose_spec
theorem b42 (s:List UInt8):RBd (a2y s)/\E env (.call 16 [.str s]) []=some (.ret (b8l (a2y s)) []):=⟨(a6L s).1.bd,(a6L s).2.1⟩
noncomputable def tokF:List V->Option V:=fun args=>match args with
 | [.str s]=>some (b8l (a2y s))
 | _=>none
theorem tokV_ren {r:MR}(h:RBd r):a1D a4J dep (b8l r)=some (b8l r):=by
 cases r with
 | go x=>exact h.elim
 | done l=>rfl
 | err c a=>rfl
theorem c3e:a7J Tryz.prog 16 (b0F tokF):=by
 refine c6F b6X (fun args v h=>?_) ⟨_,_,Tryz.func16,by kernel_rfl,rfl⟩;unfold tokF at h;split at h
 ·rename_i s;cases h;exact⟨rfl,tokV_ren (b42 s).1,(b42 s).2⟩
 ·cases h
end Go.Proofs.YtjhfloacokgdiaaGreatDoor.Sc
namespace Go.Proofs
open Go.Shelf
def Tryz.b5S:Go.Shelf.Ren:=⟨fun|169=>29|n=>n,fun|70=>57|9=>9|0=>0|72=>60|37=>58|127=>97|3=>3|5=>5|n=>n,fun|n=>n⟩
theorem Tryz.lays169:Go.Proofs.Lays.n169 Tryz.prog Tryz.b5S:={
 mixed:=by kernel_rfl
 f169:=Tryz.func29.trans (congrArg some (by kernel_rfl))
 t0:=Tryz.underlying0
 a0:=Tryz.isAgg0
 z0:=Tryz.sizeOf0
 v0:=Tryz.zeroValue0
 t3:=Tryz.underlying3
 a3:=Tryz.isAgg3
 z3:=Tryz.sizeOf3
 v3:=Tryz.zeroValue3
 t9:=Tryz.underlying9
 a9:=Tryz.isAgg9
 z9:=Tryz.sizeOf9
 v9:=Tryz.zeroValue9
 t37:=Tryz.underlying58
 a37:=Tryz.isAgg58
 z37:=Tryz.sizeOf58
 v37:=Tryz.zeroValue58
 t70:=Tryz.underlying57
 a70:=Tryz.isAgg57
 z70:=Tryz.sizeOf57
 v70:=Tryz.zeroValue57
 t72:=Tryz.underlying60
 a72:=Tryz.isAgg60
 z72:=Tryz.sizeOf60
 v72:=Tryz.zeroValue60
 t127:=Tryz.underlying97
 a127:=Tryz.isAgg97
 z127:=Tryz.sizeOf97
 v127:=Tryz.zeroValue97}
theorem Tryz.b4r:Builder.Extra Tryz.prog Tryz.b5S:={
 sizeBuilder:=by kernel_rfl
 liesBuilder:=by kernel_rfl
 t5:=Tryz.underlying5
 a5:=Tryz.isAgg5
 z5:=Tryz.sizeOf5
 v5:=Tryz.zeroValue5
 infoByte:=by kernel_rfl
 cellsByte:=by kernel_rfl
 sizeByte:=by kernel_rfl
 neB5:=by decide}
open Go.RowKit in
theorem Tryz.Builder_String_any (B b:Nat)(l:List UInt8)(w:World)(h:Lib.IsBuilder 60 5 B b (Lib.byteCells l) w)(hBw:B<=w.heap.size) :
  Calls Tryz.prog 29 #[.pointer (some ⟨b,0,none⟩)] w fun e w'=>e=.returned (.string ⟨l.toArray⟩)/\Below B w w':=Any.Builder_String_any Tryz.lays169 Tryz.b4r B b l w h hBw
def Tryz.b5Q:Go.Shelf.Ren:=⟨fun|156=>40|165=>89|166=>26|169=>29|240=>62|241=>128|276=>107|277=>145|n=>n,fun|31=>62|9=>9|3=>3|4=>4|0=>0|20=>20|72=>60|76=>68|70=>57|37=>58|75=>67|127=>97|164=>117|5=>5|80=>70|n=>n,fun|n=>n⟩
theorem Tryz.c0y:Go.Proofs.Lays.n156 Tryz.prog Tryz.b5Q:={
 mixed:=by kernel_rfl
 f156:=Tryz.func40.trans (congrArg some (by kernel_rfl))
 f165:=Tryz.func89.trans (congrArg some (by kernel_rfl))
 f166:=Tryz.func26.trans (congrArg some (by kernel_rfl))
 f169:=Tryz.func29.trans (congrArg some (by kernel_rfl))
 f240:=Tryz.func62.trans (congrArg some (by kernel_rfl))
 f241:=Tryz.func128.trans (congrArg some (by kernel_rfl))
 f276:=Tryz.func107.trans (congrArg some (by kernel_rfl))
 f277:=Tryz.func145.trans (congrArg some (by kernel_rfl))
 t0:=Tryz.underlying0
 a0:=Tryz.isAgg0
 z0:=Tryz.sizeOf0
 v0:=Tryz.zeroValue0
 t3:=Tryz.underlying3
 a3:=Tryz.isAgg3
 z3:=Tryz.sizeOf3
 v3:=Tryz.zeroValue3
 t4:=Tryz.underlying4
 a4:=Tryz.isAgg4
 z4:=Tryz.sizeOf4
 v4:=Tryz.zeroValue4
 t9:=Tryz.underlying9
 a9:=Tryz.isAgg9
 z9:=Tryz.sizeOf9
 v9:=Tryz.zeroValue9
 t20:=Tryz.underlying20
 a20:=Tryz.isAgg20
 z20:=Tryz.sizeOf20
 v20:=Tryz.zeroValue20
 t31:=Tryz.underlying62
 a31:=Tryz.isAgg62
 z31:=Tryz.sizeOf62
 v31:=Tryz.zeroValue62
 t37:=Tryz.underlying58
 a37:=Tryz.isAgg58
 z37:=Tryz.sizeOf58
 v37:=Tryz.zeroValue58
 t70:=Tryz.underlying57
 a70:=Tryz.isAgg57
 z70:=Tryz.sizeOf57
 v70:=Tryz.zeroValue57
 t72:=Tryz.underlying60
 a72:=Tryz.isAgg60
 z72:=Tryz.sizeOf60
 v72:=Tryz.zeroValue60
 t75:=Tryz.underlying67
 a75:=Tryz.isAgg67
 z75:=Tryz.sizeOf67
 v75:=Tryz.zeroValue67
 t76:=Tryz.underlying68
 a76:=Tryz.isAgg68
 z76:=Tryz.sizeOf68
 v76:=Tryz.zeroValue68
 t127:=Tryz.underlying97
 a127:=Tryz.isAgg97
 z127:=Tryz.sizeOf97
 v127:=Tryz.zeroValue97
 t164:=Tryz.underlying117
 a164:=Tryz.isAgg117
 z164:=Tryz.sizeOf117
 v164:=Tryz.zeroValue117}
theorem Tryz.a6o:Builder.Extra Tryz.prog Tryz.b5Q:={
 sizeBuilder:=by kernel_rfl
 liesBuilder:=by kernel_rfl
 t5:=Tryz.underlying5
 a5:=Tryz.isAgg5
 z5:=Tryz.sizeOf5
 v5:=Tryz.zeroValue5
 infoByte:=by kernel_rfl
 cellsByte:=by kernel_rfl
 sizeByte:=by kernel_rfl
 neB5:=by decide}
open Go.RowKit in
theorem Tryz.strings_Join_none (a:Option Addr)(c:Nat)(sep:ByteArray)(w:World) :
  Calls Tryz.prog 40 #[.slice a 0 c,.string sep] w fun e w'=>e=.returned (.string ⟨#[]⟩)/\w'=w:=Any.strings_Join_none Tryz.c0y Tryz.a6o a c sep w
open Go.RowKit in
theorem Tryz.strings_Join (bk o c:Nat)(xs:List ByteArray)(sep:ByteArray)(w:World)(hcells:∀(j:Nat) x,xs[j]? = some x->w.cell? ⟨bk,o+j,none⟩=some (.string x))(hbk:bk<w.heap.size)(hN:xs.length<=140737488355328)(hcap:xs.length<=c)(hlen:(Lib.join (xs.map (·.data.toList)) sep.data.toList).length<=140737488355328) :
  Calls Tryz.prog 40 #[.slice (some ⟨bk,o,none⟩) xs.length c,.string sep] w fun e w'=>e=.returned (.string ⟨(Lib.join (xs.map (·.data.toList)) sep.data.toList).toArray⟩)/\Below w.heap.size w w':=Any.strings_Join Tryz.c0y Tryz.a6o bk o c xs sep w hcells hbk hN hcap hlen
def Tryz.c2j:Go.Shelf.Ren:=⟨fun|167=>28|156=>40|165=>89|166=>26|169=>29|240=>62|241=>128|276=>107|277=>145|n=>n,fun|31=>62|9=>9|3=>3|4=>4|0=>0|20=>20|72=>60|76=>68|70=>57|37=>58|75=>67|127=>97|164=>117|5=>5|80=>70|n=>n,fun|n=>n⟩
theorem Tryz.layB167:Go.Proofs.Lays.n167 Tryz.prog Tryz.c2j:={
 mixed:=by kernel_rfl
 f167:=Tryz.func28.trans (congrArg some (by kernel_rfl))
 f240:=Tryz.func62.trans (congrArg some (by kernel_rfl))
 f276:=Tryz.func107.trans (congrArg some (by kernel_rfl))
 t0:=Tryz.underlying0
 a0:=Tryz.isAgg0
 z0:=Tryz.sizeOf0
 v0:=Tryz.zeroValue0
 t4:=Tryz.underlying4
 a4:=Tryz.isAgg4
 z4:=Tryz.sizeOf4
 v4:=Tryz.zeroValue4
 t5:=Tryz.underlying5
 a5:=Tryz.isAgg5
 z5:=Tryz.sizeOf5
 v5:=Tryz.zeroValue5
 t9:=Tryz.underlying9
 a9:=Tryz.isAgg9
 z9:=Tryz.sizeOf9
 v9:=Tryz.zeroValue9
 t20:=Tryz.underlying20
 a20:=Tryz.isAgg20
 z20:=Tryz.sizeOf20
 v20:=Tryz.zeroValue20
 t37:=Tryz.underlying58
 a37:=Tryz.isAgg58
 z37:=Tryz.sizeOf58
 v37:=Tryz.zeroValue58
 t70:=Tryz.underlying57
 a70:=Tryz.isAgg57
 z70:=Tryz.sizeOf57
 v70:=Tryz.zeroValue57
 t72:=Tryz.underlying60
 a72:=Tryz.isAgg60
 z72:=Tryz.sizeOf60
 v72:=Tryz.zeroValue60
 t75:=Tryz.underlying67
 a75:=Tryz.isAgg67
 z75:=Tryz.sizeOf67
 v75:=Tryz.zeroValue67
 t164:=Tryz.underlying117
 a164:=Tryz.isAgg117
 z164:=Tryz.sizeOf117
 v164:=Tryz.zeroValue117}
theorem Tryz.c4k:Builder.Extra Tryz.prog Tryz.c2j:={
 sizeBuilder:=by kernel_rfl
 liesBuilder:=by kernel_rfl
 t5:=Tryz.underlying5
 a5:=Tryz.isAgg5
 z5:=Tryz.sizeOf5
 v5:=Tryz.zeroValue5
 infoByte:=by kernel_rfl
 cellsByte:=by kernel_rfl
 sizeByte:=by kernel_rfl
 neB5:=by decide}
open Go.RowKit in
theorem Tryz.Builder_WriteByte (B b:Nat)(bs:List Value)(c:Int)(w:World)(h:Lib.IsBuilder 60 5 B b bs w)(hlen:bs.length+1<=140737488355328)(hBw:B<=w.heap.size) :
  Calls Tryz.prog 28 #[.pointer (some ⟨b,0,none⟩),.int .u8 c] w fun e w'=>e=.returned .nilIface/\(Lib.BuilderAt 60 5 B b (.pointer (some ⟨b,0,none⟩)) (bs++[.int .u8 c]) w'/\Below B w w'):=Any.Builder_WriteByte Tryz.layB167 Tryz.c4k B b bs c w h hlen hBw
open Go.RowKit in
theorem Tryz.Builder_WriteString (B b:Nat)(bs:List Value)(s:ByteArray)(w:World)(h:Lib.IsBuilder 60 5 B b bs w)(hlen:bs.length+s.size<=140737488355328)(hBw:B<=w.heap.size) :
  Calls Tryz.prog 26 #[.pointer (some ⟨b,0,none⟩),.string s] w fun e w'=>e=.returned (.tuple #[.int .i64 s.size,.nilIface])/\(Lib.BuilderAt 60 5 B b (.pointer (some ⟨b,0,none⟩)) (bs++Lib.strCells s) w'/\Below B w w'):=Any.Builder_WriteString {Tryz.c0y with} Tryz.a6o B b bs s w h hlen hBw
def Tryz.c0z:Go.Shelf.Ren:=⟨fun|172=>162|244=>174|245=>175|247=>187|279=>188|280=>189|281=>190|282=>191|287=>204|316=>205|171=>113|205=>206|321=>215|322=>216|243=>141|246=>153|283=>163|284=>164|285=>165|286=>166|129=>177|317=>176|318=>178|319=>179|320=>180|337=>192|338=>193|n=>n,fun|9=>9|3=>3|75=>67|76=>68|4=>4|5=>5|167=>217|37=>58|0=>0|85=>218|2=>2|168=>220|53=>178|175=>235|46=>169|210=>238|127=>97|145=>247|143=>245|21=>21|171=>177|173=>181|212=>200|51=>119|20=>20|213=>201|232=>240|233=>241|80=>70|n=>n,fun|15=>6|16=>7|17=>5|18=>8|19=>9|n=>n⟩
theorem Tryz.laysC172:Go.Proofs.LaysC.n172 Tryz.prog Tryz.c0z:={
 mixed:=by kernel_rfl
 f129:=Tryz.func177.trans (congrArg some (by kernel_rfl))
 f171:=Tryz.func113.trans (congrArg some (by kernel_rfl))
 f172:=Tryz.func162.trans (congrArg some (by kernel_rfl))
 f205:=Tryz.func206.trans (congrArg some (by kernel_rfl))
 f243:=Tryz.func141.trans (congrArg some (by kernel_rfl))
 f244:=Tryz.func174.trans (congrArg some (by kernel_rfl))
 f245:=Tryz.func175.trans (congrArg some (by kernel_rfl))
 f246:=Tryz.func153.trans (congrArg some (by kernel_rfl))
 f247:=Tryz.func187.trans (congrArg some (by kernel_rfl))
 f279:=Tryz.func188.trans (congrArg some (by kernel_rfl))
 f280:=Tryz.func189.trans (congrArg some (by kernel_rfl))
 f281:=Tryz.func190.trans (congrArg some (by kernel_rfl))
 f282:=Tryz.func191.trans (congrArg some (by kernel_rfl))
 f283:=Tryz.func163.trans (congrArg some (by kernel_rfl))
 f284:=Tryz.func164.trans (congrArg some (by kernel_rfl))
 f285:=Tryz.func165.trans (congrArg some (by kernel_rfl))
 f286:=Tryz.func166.trans (congrArg some (by kernel_rfl))
 f287:=Tryz.func204.trans (congrArg some (by kernel_rfl))
 f316:=Tryz.func205.trans (congrArg some (by kernel_rfl))
 f317:=Tryz.func176.trans (congrArg some (by kernel_rfl))
 f318:=Tryz.func178.trans (congrArg some (by kernel_rfl))
 f319:=Tryz.func179.trans (congrArg some (by kernel_rfl))
 f320:=Tryz.func180.trans (congrArg some (by kernel_rfl))
 f321:=Tryz.func215.trans (congrArg some (by kernel_rfl))
 f322:=Tryz.func216.trans (congrArg some (by kernel_rfl))
 f337:=Tryz.func192.trans (congrArg some (by kernel_rfl))
 f338:=Tryz.func193.trans (congrArg some (by kernel_rfl))
 t0:=Tryz.underlying0
 a0:=Tryz.isAgg0
 z0:=Tryz.sizeOf0
 v0:=Tryz.zeroValue0
 t2:=Tryz.underlying2
 a2:=Tryz.isAgg2
 z2:=Tryz.sizeOf2
 v2:=Tryz.zeroValue2
 t3:=Tryz.underlying3
 a3:=Tryz.isAgg3
 z3:=Tryz.sizeOf3
 v3:=Tryz.zeroValue3
 t4:=Tryz.underlying4
 a4:=Tryz.isAgg4
 z4:=Tryz.sizeOf4
 v4:=Tryz.zeroValue4
 t5:=Tryz.underlying5
 a5:=Tryz.isAgg5
 z5:=Tryz.sizeOf5
 v5:=Tryz.zeroValue5
 t9:=Tryz.underlying9
 a9:=Tryz.isAgg9
 z9:=Tryz.sizeOf9
 v9:=Tryz.zeroValue9
 t20:=Tryz.underlying20
 a20:=Tryz.isAgg20
 z20:=Tryz.sizeOf20
 v20:=Tryz.zeroValue20
 t21:=Tryz.underlying21
 a21:=Tryz.isAgg21
 z21:=Tryz.sizeOf21
 v21:=Tryz.zeroValue21
 t37:=Tryz.underlying58
 a37:=Tryz.isAgg58
 z37:=Tryz.sizeOf58
 v37:=Tryz.zeroValue58
 t46:=Tryz.underlying169
 a46:=Tryz.isAgg169
 z46:=Tryz.sizeOf169
 v46:=Tryz.zeroValue169
 t51:=Tryz.underlying119
 a51:=Tryz.isAgg119
 z51:=Tryz.sizeOf119
 v51:=Tryz.zeroValue119
 t53:=Tryz.underlying178
 a53:=Tryz.isAgg178
 z53:=Tryz.sizeOf178
 v53:=Tryz.zeroValue178
 t75:=Tryz.underlying67
 a75:=Tryz.isAgg67
 z75:=Tryz.sizeOf67
 v75:=Tryz.zeroValue67
 t76:=Tryz.underlying68
 a76:=Tryz.isAgg68
 z76:=Tryz.sizeOf68
 v76:=Tryz.zeroValue68
 t85:=Tryz.underlying218
 a85:=Tryz.isAgg218
 z85:=Tryz.sizeOf218
 v85:=Tryz.zeroValue218
 t127:=Tryz.underlying97
 a127:=Tryz.isAgg97
 z127:=Tryz.sizeOf97
 v127:=Tryz.zeroValue97
 t143:=Tryz.underlying245
 a143:=Tryz.isAgg245
 z143:=Tryz.sizeOf245
 v143:=Tryz.zeroValue245
 t145:=Tryz.underlying247
 a145:=Tryz.isAgg247
 z145:=Tryz.sizeOf247
 v145:=Tryz.zeroValue247
 t167:=Tryz.underlying217
 a167:=Tryz.isAgg217
 z167:=Tryz.sizeOf217
 v167:=Tryz.zeroValue217
 t168:=Tryz.underlying220
 a168:=Tryz.isAgg220
 z168:=Tryz.sizeOf220
 v168:=Tryz.zeroValue220
 t171:=Tryz.underlying177
 a171:=Tryz.isAgg177
 z171:=Tryz.sizeOf177
 v171:=Tryz.zeroValue177
 t173:=Tryz.underlying181
 a173:=Tryz.isAgg181
 z173:=Tryz.sizeOf181
 v173:=Tryz.zeroValue181
 t175:=Tryz.underlying235
 a175:=Tryz.isAgg235
 z175:=Tryz.sizeOf235
 v175:=Tryz.zeroValue235
 t210:=Tryz.underlying238
 a210:=Tryz.isAgg238
 z210:=Tryz.sizeOf238
 v210:=Tryz.zeroValue238
 t212:=Tryz.underlying200
 a212:=Tryz.isAgg200
 z212:=Tryz.sizeOf200
 v212:=Tryz.zeroValue200
 t213:=Tryz.underlying201
 a213:=Tryz.isAgg201
 z213:=Tryz.sizeOf201
 t232:=Tryz.underlying240
 a232:=Tryz.isAgg240
 z232:=Tryz.sizeOf240
 v232:=Tryz.zeroValue240
 t233:=Tryz.underlying241
 a233:=Tryz.isAgg241
 z233:=Tryz.sizeOf241
 v233:=Tryz.zeroValue241
 g15:=by kernel_rfl
 g16:=by kernel_rfl
 g17:=by kernel_rfl
 g18:=by kernel_rfl
 g19:=by kernel_rfl
 t80:=Tryz.underlying70
 a80:=Tryz.isAgg70
 z80:=Tryz.sizeOf70
 v80:=Tryz.zeroValue70
 i0:=by kernel_rfl
 i2:=by kernel_rfl
 i3:=by kernel_rfl
 i4:=by kernel_rfl
 i5:=by kernel_rfl
 i9:=by kernel_rfl
 i20:=by kernel_rfl
 i21:=by kernel_rfl
 i37:=by kernel_rfl
 i46:=by kernel_rfl
 i51:=by kernel_rfl
 i53:=by kernel_rfl
 i75:=by kernel_rfl
 i76:=by kernel_rfl
 i80:=by kernel_rfl
 i85:=by kernel_rfl
 i127:=by kernel_rfl
 i143:=by kernel_rfl
 i145:=by kernel_rfl
 i167:=by kernel_rfl
 i168:=by kernel_rfl
 i171:=by kernel_rfl
 i173:=by kernel_rfl
 i175:=by kernel_rfl
 i210:=by kernel_rfl
 i212:=by kernel_rfl
 i232:=by kernel_rfl
 i233:=by kernel_rfl
 m15:=by kernel_rfl
 m16:=by kernel_rfl
 m17:=by kernel_rfl
 m18:=by kernel_rfl
 m19:=by kernel_rfl
 c0:=by kernel_rfl
 c2:=by kernel_rfl
 c3:=by kernel_rfl
 c4:=by kernel_rfl
 c5:=by kernel_rfl
 c9:=by kernel_rfl
 c20:=by kernel_rfl
 c21:=by kernel_rfl
 c37:=by kernel_rfl
 c46:=by kernel_rfl
 c51:=by kernel_rfl
 c53:=by kernel_rfl
 c75:=by kernel_rfl
 c76:=by kernel_rfl
 c80:=by kernel_rfl
 c85:=by kernel_rfl
 c127:=by kernel_rfl
 c143:=by kernel_rfl
 c145:=by kernel_rfl
 c167:=by kernel_rfl
 c168:=by kernel_rfl
 c171:=by kernel_rfl
 c173:=by kernel_rfl
 c175:=by kernel_rfl
 c210:=by kernel_rfl
 c212:=by kernel_rfl
 c213:=by kernel_rfl
 c232:=by kernel_rfl
 c233:=by kernel_rfl}
open Go.RowKit in
theorem Tryz.strconv_Atoi_ok (s:ByteArray)(hmax:s.size<=9223372036854775806)(v:Int)(h:Lib.atoiAll s.data.toList=.ok v)(w:World) :
  Calls Tryz.prog 162 #[.string s] w fun e w'=>e=.returned (.tuple #[.int .i64 v,.nilIface])/\(w'=w ∨ ∃t,w'=Lib.bytesWorld w 5 t):=Any.strconv_Atoi_ok Tryz.laysC172 s hmax v h w
end Go.Proofs
namespace Go.Vm
open Go
variable {b:Nat}
variable {ρ ρ':Rho} {lab lab':Lab} {w w':World} {H:Hp}
theorem Rel.carry (hF:∀b o x,a5q lab w b o x->a5q lab' w' b o x){v:V}{x:Value}(h:Rel ρ lab w v x):Rel ρ lab' w' v x:=by
 induction h with
 | undef x=>exact .undef x
 | bool b=>exact .bool b
 | int k n=>exact .int k n
 | str s=>exact .str s
 | nilptr=>exact .nilptr
 | ptr r off b o c h=>exact .ptr r off b o c h
 | cptr cells xs b o hl hc _ hnf ih=>exact .cptr cells xs b o hl (fun i x hx=>hF _ _ _ (hc i x hx)) ih hnf
 | slice ow n cells xs b o ao cap hl hn hb hz hc _ how h1 hnf ih=>exact .slice ow n cells xs b o ao cap hl hn hb hz (fun i x hx=>hF _ _ _ (hc i x hx)) ih how h1 hnf
 | rslice r off n wh base g ao cap h1 h2 h3 h4 h5=>exact .rslice r off n wh base g ao cap h1 h2 h3 h4 h5
 | func fn a c xs ys h1 h2 _ _ ih1 ih2=>exact .func fn a c xs ys h1 h2 ih1 ih2
 | nilFunc=>exact .nilFunc
 | iface t v x _ ih=>exact .iface t v x ih
 | nilIface=>exact .nilIface
 | opq m=>exact .opq m
 | map r b c h=>exact .map r b c h
 | agg cells xs h1 _ ih=>exact .agg cells xs h1 ih
 | tuple cells xs h1 _ ih=>exact .tuple cells xs h1 ih
theorem J2.carry (hF:∀b o x,a5q lab w b o x->a5q lab' w' b o x){v:List V}{x:List Value}(h:J2 ρ lab w v x):J2 ρ lab' w' v x :=
 ⟨h.1,fun i v x hv hx=>(h.2 i v x hv hx).carry hF⟩
theorem Sim.relab (hkp:Kp lab' w')(hS:Sim ρ lab H w)(hF:∀b o x,a5q lab w b o x->a5q lab' w' b o x)(hO:∀b o k,a2H lab w k b o->a2H lab' w' k b o/\cellAt w' b o=cellAt w b o)
  (hM:∀b k ms c,a6Q lab w k b ms c->a6Q lab' w' k b ms c)
  (hl:∀b o k,lab' b o=some k->b<w'.heap.size):Sim ρ lab' H w' where
 kp:=hkp
 row:=fun k cs hk=>by
  obtain⟨b,o,xs,h1,h2,h3⟩:=hS.row k cs hk;exact⟨b,o,xs,h1,h2.carry hF,fun i x hx=>⟨(hO _ _ _ (h3 i x hx).1).1,(hO _ _ _ (h3 i x hx).1).2.trans (h3 i x hx).2⟩⟩
 grow:=fun k e cs hk=>by
  obtain⟨base,c,xs,h1,h2,h3,h4,h8,h9,h5⟩:=hS.grow k e cs hk;refine⟨base,c,xs,h1,h2.carry hF,h3,h4,h8,h9,fun b o hb=>?_⟩;obtain⟨h6,h7⟩:=h5 b o hb;refine⟨fun i hi=>(hO _ _ _ (h6 i hi)).1,fun i x hx=>?_⟩;have hi:i<c*e:=by
   have:i<xs.length:=by
    rcases Nat.lt_or_ge i xs.length with h|h
    ·exact h
    ·rw[List.getElem?_eq_none h]at hx;cases hx
   rw[h2.1]at this;omega
  exact(hO _ _ _ (h6 i hi)).2.trans (h7 i x hx)
 tip:=fun k e n hk=>by
  obtain⟨ao,cap,h1,h2,h3,h4,h5⟩:=hS.tip k e n hk;exact⟨ao,cap,h1,h2,h3,h4,fun a ha=>⟨(h5 a ha).1,fun i hi hj=>(hO _ _ _ ((h5 a ha).2 i hi hj)).1⟩⟩
 mp:=fun k es hk=>by
  obtain⟨b,ms,c,h1,h2,h3⟩:=hS.mp k es hk;exact⟨b,ms,c,h1,⟨h2.1,fun i e m he hm=>have q:=h2.2 i e m he hm;⟨⟨q.1.1.carry hF,q.1.2.carry hF⟩,q.2⟩⟩,hM _ _ _ _ h3⟩
 hdom:=hS.hdom
 adom:=hS.adom
 ldom:=hl
def Lab.mine (lab:Lab)(B:Nat):Lab:=fun b o=>if b=B then some none else lab b o
def Lab.left (lab:Lab)(B:Nat):Lab:=fun b o=>if b=B then none else lab b o
theorem mineF (hg:a01 w w'):∀b o x,a5q lab w b o x->a5q (lab.mine w.heap.size) w' b o x:=fun b o x h=>by
 have hb:=a1d h.cell;refine⟨?_,(hg.cell hb o).trans h.cell⟩;simp only[Lab.mine];rw[if_neg (by omega)];exact h.lab
theorem Sim.mine (hS:Sim ρ lab H w)(hg:a01 w w')(hB:w.heap.size<w'.heap.size):Sim ρ (lab.mine w.heap.size) H w':=by
 refine Sim.relab ⟨(hS.kp.ext (hg.ext lab)).1,fun p hp o k h=>by
  simp only[Lab.mine]at h;rw[if_neg (by have:=(hS.kp.1 p hp).1;omega)]at h;exact hS.kp.2 p hp o k h⟩ hS (mineF hg) (fun b o k h=>?_) (fun b k ms c h=>⟨fun o=>by
  have hb:=h.lt;simp only[Lab.mine];rw[if_neg (by omega)];exact h.lab o,(hg.blk b h.lt).trans h.blk⟩) (fun b o k h=>?_)
 ·obtain⟨x,hx⟩:=h.cell;have hb:=a1d hx;refine⟨⟨?_,(hg.frozen hb o).trans h.free,x,(hg.cell hb o).trans hx⟩,hg.cell hb o⟩;simp only[Lab.mine];rw[if_neg (by omega)];exact h.lab
 ·simp only[Lab.mine]at h;split at h
  ·rename_i hb;subst hb;exact hB
  ·exact Nat.lt_of_lt_of_le (hS.ldom b o k h) hg.size
section
variable {w1 w2 w3:World} {B:Nat}
theorem b3j (E:Ext (lab.mine B) w1 lab' w2)(hB:B<w1.heap.size)(o:Nat):cellAt w2 B o=cellAt w1 B o/\w2.frozen? ⟨B,o,none⟩=w1.frozen? ⟨B,o,none⟩ :=
 E.cl B o hB (fun k=>by simp[Lab.mine])
structure Wrote (B:Nat)(w w':World):Prop where
 size:w.heap.size<=w'.heap.size
 os:w'.os=w.os
 tape:w'.tape=w.tape
 output:w'.output=w.output
 blk:∀b,b<w.heap.size->b≠B->w'.heap[b]? = w.heap[b]?
theorem Wrote.cell (h:Wrote B w w')(hb:b<w.heap.size)(hn:b≠B)(o:Nat):cellAt w' b o=cellAt w b o:=by simp only[cellAt,World.cell?,h.blk b hb hn]
theorem Wrote.frozen (h:Wrote B w w')(hb:b<w.heap.size)(hn:b≠B)(o:Nat):w'.frozen? ⟨b,o,none⟩=w.frozen? ⟨b,o,none⟩:=by simp only[World.frozen?,h.blk b hb hn]
theorem Wrote.refl (B:Nat)(w:World):Wrote B w w:=⟨Nat.le_refl _,rfl,rfl,rfl,fun _ _ _=>rfl⟩
theorem leftF (E:Ext (lab.mine B) w1 lab' w2)(hw:Wrote B w2 w3):∀b o x,a5q lab' w2 b o x->a5q (lab'.left B) w3 b o x:=fun b o x h=>by
 have hb:=a1d h.cell;have hn:b≠B:=by
  rintro rfl;have:=(E.ctx b o).2 (by simp[Lab.mine]);rw[h.lab]at this;cases this
 refine⟨?_,(hw.cell hb hn o).trans h.cell⟩;simp only[Lab.left];rw[if_neg hn];exact h.lab
theorem Sim.left (hBk:∀p∈kpL,p.1<B)(hS:Sim ρ' lab' H w2)(E:Ext (lab.mine B) w1 lab' w2)(hw:Wrote B w2 w3):Sim ρ' (lab'.left B) H w3:=by
 refine Sim.relab ⟨fun p hp=>⟨Nat.lt_of_lt_of_le (hS.kp.1 p hp).1 hw.size,by rw[hw.blk p.1 (hS.kp.1 p hp).1 (by have:=hBk p hp;omega)];exact(hS.kp.1 p hp).2⟩,fun p hp o k h=>by
  simp only[Lab.left]at h;rw[if_neg (by have:=hBk p hp;omega)]at h;exact hS.kp.2 p hp o k h⟩ hS (leftF E hw) (fun b o k h=>?_) (fun b k ms c h=>by
  have hn:b≠B:=by
   rintro rfl;have:=(E.ctx b 0).2 (by simp[Lab.mine]);rw[h.lab]at this;cases this
  exact⟨fun o=>by
   simp only[Lab.left];rw[if_neg hn];exact h.lab o,(hw.blk b h.lt hn).trans h.blk⟩) (fun b o k h=>?_)
 ·obtain⟨x,hx⟩:=h.cell;have hb:=a1d hx;have hn:b≠B:=by
   rintro rfl;have:=(E.ctx b o).2 (by simp[Lab.mine]);rw[h.lab]at this;cases this
  refine⟨⟨?_,(hw.frozen hb hn o).trans h.free,x,(hw.cell hb hn o).trans hx⟩,hw.cell hb hn o⟩;simp only[Lab.left];rw[if_neg hn];exact h.lab
 ·simp only[Lab.left]at h;split at h
  ·cases h
  ·exact Nat.lt_of_lt_of_le (hS.ldom b o k h) hw.size
theorem Ext.left (hS:Sim ρ lab H w)(hg:a01 w w1)(hB:w.heap.size<w1.heap.size)(E:Ext (lab.mine w.heap.size) w1 lab' w2)(hw:Wrote w.heap.size w2 w3):Ext lab w (lab'.left w.heap.size) w3 where
 size:=Nat.le_trans hg.size (Nat.le_trans E.size hw.size)
 os:=hw.os.trans (E.os.trans hg.os)
 tape:=hw.tape.trans (E.tape.trans hg.tape)
 output:=hw.output.trans (E.output.trans hg.output)
 lb:=fun b o hb hl=>by
  simp only[Lab.left];rw[if_neg (by omega)];exact E.lb b o (Nat.lt_of_lt_of_le hb hg.size) (by simp only[Lab.mine];rw[if_neg (by omega)];exact hl)
 ctx:=fun b o=>by
  by_cases hb:b=w.heap.size
  ·subst hb;have h1:(lab'.left w.heap.size) w.heap.size o=none:=by simp[Lab.left]
   rw[h1];constructor
   ·intro h;cases h
   ·intro h;have:=hS.ldom _ _ _ h;omega
  ·have:=E.ctx b o;simp only[Lab.left,Lab.mine,if_neg hb]at this ⊢;exact this
 cl:=fun b o hb hl=>by
  have hb1:=Nat.lt_of_lt_of_le hb hg.size;have h1:=E.cl b o hb1 (fun k=>by simp only[Lab.mine];rw[if_neg (by omega)];exact hl k);have hb2:=Nat.lt_of_lt_of_le hb1 E.size;exact⟨(hw.cell hb2 (by omega) o).trans (h1.1.trans (hg.cell hb o)),(hw.frozen hb2 (by omega) o).trans (h1.2.trans (hg.frozen hb o))⟩
 blk:=fun b hb hl=>by
  have hb1:=Nat.lt_of_lt_of_le hb hg.size;have h1:=E.blk b hb1 (fun o k=>by simp only[Lab.mine];rw[if_neg (by omega)];exact hl o k);have hb2:=Nat.lt_of_lt_of_le hb1 E.size;exact(hw.blk b hb2 (by omega)).trans (h1.trans (hg.blk b hb))
end
def b1v:Hp->Hp | []=>[] |(k,.row cs)::r=>(k,.row (cs.map b4T))::b1v r |(k,o)::r=>(k,o)::b1v r
def sealO:Obj->Obj | .row cs=>.row (cs.map b4T)|o=>o
theorem b4i (k:Nat)(o:Obj)(r:Hp):b1v ((k,o)::r) =(k,sealO o)::b1v r:=by cases o<;>rfl
theorem b0N (j:Nat):∀H:Hp,hget j (b1v H) =(hget j H).map sealO
 | []=>rfl
 |(k,o)::r=>by
  rw[b4i];simp only[hget];cases Nat.beq k j with
  | true=>rfl
  | false=>exact b0N j r
theorem b1j:∀H:Hp,(b1v H).length=H.length
 | []=>rfl
 |(k,o)::r=>by rw[b4i];simp only[List.length_cons,b1j r]
theorem b5H:∀(n:Nat) (H:Hp),Canon n H->Canon n (b1v H)
 | _,[],_=>trivial
 | n,(k,o)::r,h=>by
  rw[b4i];exact⟨h.1,b5H (n+1) r h.2⟩
theorem Sim.b1v (hS:Sim ρ lab H w):Sim ρ lab (Vm.b1v H) w:=by
 have hg:∀{j o},hget j (Vm.b1v H)=some o -> ∃o',hget j H=some o'/\o=sealO o':=fun{j o} h=>by
  rw[b0N]at h;cases hq:hget j H with
  | none=>rw[hq]at h;cases h
  | some o'=>rw[hq]at h;cases h;exact⟨o',rfl,rfl⟩
 refine Sim.mk' hS.kp (fun j o hj=>?_) (fun j n x h=>?_) (fun j x h=>?_) hS.ldom
 ·obtain⟨o',h1,rfl⟩:=hg hj;cases o' with
  | row cs =>
   obtain⟨b,o,xs,g1,g2,g3⟩:=hS.row j cs h1;exact⟨b,o,xs,g1,g2.a7G,g3⟩
  | grow e cs=>exact hS.grow j e cs h1
  | tip e n=>exact hS.tip j e n h1
  | mp es=>exact hS.mp j es h1
  | gone=>trivial
 ·obtain⟨e,m,h1,h2⟩:=hS.hdom j n x h;exact⟨e,m,by rw[b0N,h1];rfl,h2⟩
 ·have:=hS.adom j x h;rw[b0N];cases hq:hget j H with
  | none=>exact absurd hq this
  | some o=>simp
theorem E_via {env:Env}{g g':Nat}{args l:List V}{H H':Hp}{o out:Out}{pre:List V->Hp->Option (Nat×List V×Hp)}{post:List V->Hp->Out->Option Out}(hi:env.intr g=some (.via pre post))(hp:pre args H=some (g',l,H'))
  (hc:E env (.call g' l) H'=some o) (ho:post args H o=some out):E env (.call g args) H=some out :=
 c3w (by simp only[step,hi,hp,hc,ho])
end Go.Vm
namespace Go.Proofs.YtjhfloacokgdiaaGreatDoor
open Go Go.Vm
def strsOf:List V->Option (List (List UInt8))
 | []=>some []
 | .str s::r=>match strsOf r with
  | some l=>some (s::l)
  | none=>none
 | _=>none
def b5N:List V->Hp->Option Out:=fun args H=>match args with
 | [.slice _ n cs,.str sep]=>match strsOf cs with
  | some l=>gd (eqN l.length n&&leN n 140737488355328&&leN (Lib.join l sep).length 140737488355328) (some (.ret (.str (Lib.join l sep)) H))
  | none=>none
 | _=>none
theorem b8d:∀{cs:List V} {l:List (List UInt8)},strsOf cs=some l->cs=l.map .str
 | [],l,h=>by cases h;rfl
 | c::r,l,h=>by
  cases c with
  | str s =>
   simp only[strsOf]at h;split at h
   ·rename_i l' hl;cases h;rw[b8d hl];rfl
   ·cases h
  | _=>cases h
theorem a8E {w w':World}(h:RowKit.Below w.heap.size w w'):a01 w w':=⟨h.size,h.os,h.tape,h.output,fun b hb=>h.block b hb⟩
theorem b6p:a7J Tryz.prog 40 b5N:=by
 refine⟨fun args H out h ρ lab w xs hc hS hx=>?_,⟨_,_,Tryz.func40,rfl,rfl⟩⟩;unfold b5N at h;split at h
 ·rename_i ow n cs sep;split at h
  ·rename_i l hl;obtain⟨h1,h2⟩:=K8 h;cases h2;simp only[Bool.and_eq_true]at h1;obtain⟨⟨h1,h2⟩,h3⟩:=h1;have h1:=b26 h1;have h2:=a5b h2;have h3:=a5b h3;obtain⟨x1,r1,rfl,a1,a2⟩:=E9.1 hx;obtain⟨x2,r2,rfl,a3,a4⟩:=E9.1 a2;have:r2=[]:=by have:=a4.1;simpa using this
   subst this;cases a3;have hcs:=b8d hl;cases a1 with
   | slice _ _ _ xs b o ao cap g1 g2 g3 g4 g5 g6 g7 g8 g9 =>
   rcases Nat.eq_zero_or_pos n with h0|h0
   ·subst h0;have:l=[]:=List.length_eq_zero_iff.1 h1;subst this;refine(Tryz.strings_Join_none ao cap ⟨⟨sep⟩⟩ w).mono fun e w' ⟨he,hw⟩=>?_;subst he;subst hw;exact⟨ρ,lab,hS,Ext.refl _ _,⟨fun _ _ _ h=>h,fun _ _ _ _ h=>h⟩,.str _,hc,Nat.le_refl _⟩
   ·have hao:=g3 h0;subst hao;have hget:∀(j:Nat) (x:ByteArray),(l.map (fun s=>(⟨⟨s⟩⟩:ByteArray)))[j]? = some x->cellAt w b (o+j)=some (.string x):=by
     intro j x hj;rw[List.getElem?_map]at hj;cases hq:l[j]? with
     | none=>rw[hq]at hj;cases hj
     | some s =>
      rw[hq]at hj;cases hj;have hcj:cs[j]? = some (.str s):=by rw[hcs,List.getElem?_map,hq];rfl
      have hj2:j<xs.length:=by
       rw[g1];rcases Nat.lt_or_ge j cs.length with h|h
       ·exact h
       ·rw[List.getElem?_eq_none h]at hcj;cases hcj
      have hxj:xs[j]? = some xs[j]:=by simp[hj2]
      have hr:=g6 j _ _ hcj hxj;have hf:=(g5 j _ hxj).cell;generalize xs[j]=z at hr hf;cases hr;exact hf
    have hlen:(l.map (fun s=>(⟨⟨s⟩⟩:ByteArray))).length=n:=by rw[List.length_map];exact h1
    have hmap:(l.map (fun s=>(⟨⟨s⟩⟩:ByteArray))).map (·.data.toList)=l:=by rw[List.map_map];exact List.map_id l
    have hb:b<w.heap.size:=by
     have hj2:0<(l.map (fun s=>(⟨⟨s⟩⟩:ByteArray))).length:=by omega
     exact a1d (hget 0 _ (List.getElem?_eq_getElem hj2))
    have K:=Tryz.strings_Join b o cap (l.map (fun s=>(⟨⟨s⟩⟩:ByteArray))) ⟨⟨sep⟩⟩ w hget hb (by omega) (by omega) (by rw[hmap];exact h3);rw[hlen,hmap]at K;refine K.mono fun e w' ⟨he,hw⟩=>?_;subst he;have G:=a8E hw;exact⟨ρ,lab,hS.grew G,G.ext lab,⟨fun _ _ _ h=>h,fun _ _ _ _ h=>h⟩,.str _,hc,Nat.le_refl _⟩
  ·cases h
 ·cases h
def a1h (s:List UInt8)(a:Nat):Nat:=s.foldl (fun a b=>a*10+(b.toNat-48)) a
def b6U (s:List UInt8):Bool:=s.all (fun b=>Nat.ble 48 b.toNat&&Nat.ble b.toNat 57)
def b4x (s:List UInt8):Bool:=b6U s&&(!s.isEmpty&&(Nat.ble s.length 19&&Nat.ble (a1h s 0) 9223372036854775807))
def c1z:List V->Hp->Option Out:=fun args H=>match args with
 | [.str s]=>match b4x s with
  | true=>some (.ret (.tuple [.int .i64 (a1h s 0:Nat),.nilIface]) H)
  | false=>none
 | _=>none
theorem a7c (b:UInt8)(r:List UInt8)(a:Nat):a1h (b::r) a=a1h r (a*10+(b.toNat-48)):=by simp only[a1h,List.foldl_cons]
theorem a92 {b:UInt8}{r:List UInt8}(h:b6U (b::r)=true):48<=b.toNat/\b.toNat<=57/\b6U r=true:=by
 simp only[b6U,List.all_cons,Bool.and_eq_true,Nat.ble_eq]at h;exact⟨h.1.1,h.1.2,h.2⟩
theorem c5z:∀(l:List UInt8) (x:Nat),x<=a1h l x
 | [],x=>Nat.le_refl _
 | b::r,x=>by rw[a7c];have:=c5z r (x*10+(b.toNat-48));omega
theorem c2H:∀(l:List UInt8) (x:Nat),b6U l=true->a1h l x<=9223372036854775807->Lib.parseUint10 x l=.ok (a1h l x)
 | [],x,h1,h2=>rfl
 | b::r,x,h1,h2=>by
  obtain⟨h3,h4,h5⟩:=a92 h1;rw[a7c]at h2;have:=c5z r (x*10+(b.toNat-48));rw[Lib.parseUint10,if_pos ⟨h3,h4⟩,if_neg (by omega),if_neg (by omega),a7c];exact c2H r _ h5 h2
theorem atoi_all {s:List UInt8}(h:b4x s=true):Lib.atoiAll s=.ok (a1h s 0:Nat):=by
 simp only[b4x,Bool.and_eq_true,Nat.ble_eq]at h;obtain⟨h1,h2,h3,h4⟩:=h;cases s with
 | nil=>cases h2
 | cons b r =>
  obtain⟨h5,h6,h7⟩:=a92 h1;have h8:¬(b.toNat=43∨b.toNat=45):=by omega
  have h9:¬b.toNat=45:=by omega
  unfold Lib.atoiAll;simp only[if_neg h8,Lib.parseMag];rw[if_neg (by simp),c2H _ _ h1 h4];simp only[h9,not_false_eq_true,true_and,false_and,if_false];rw[if_neg (by omega)]
theorem b8O:a7J Tryz.prog 162 c1z:=by
 refine⟨fun args H out h ρ lab w xs hc hS hx=>?_,⟨_,_,Tryz.func162,rfl,rfl⟩⟩;unfold c1z at h;split at h
 ·rename_i s;split at h
  ·rename_i hb;cases h;have hb2:=hb;simp only[b4x,Bool.and_eq_true,Nat.ble_eq]at hb2;obtain⟨x1,r1,rfl,a1,a2⟩:=E9.1 hx;have:r1=[]:=by have:=a2.1;simpa using this
   subst this;cases a1;refine(Tryz.strconv_Atoi_ok ⟨⟨s⟩⟩ (by show s.length<=_;omega) _ (atoi_all hb) w).mono fun e w' ⟨he,hw⟩=>?_;subst he;have hg:a01 w w':=by
    rcases hw with rfl |⟨t,rfl⟩
    ·exact a8E (RowKit.Below.refl _ _)
    ·exact a8E (Lib.bytesWorld_below w _ t)
   have hr:Rel ρ lab w' (.tuple [.int .i64 (a1h s 0:Nat),.nilIface]) (.tuple #[.int .i64 (a1h s 0:Nat),.nilIface]):=by
    refine .tuple [.int .i64 (a1h s 0:Nat),.nilIface] [.int .i64 (a1h s 0:Nat),.nilIface] rfl fun i v x h1 h2=>?_;match i,h1,h2 with
    | 0,h1,h2=>cases h1;cases h2;exact .int _ _
    | 1,h1,h2=>cases h1;cases h2;exact .nilIface
    | i+2,h1,h2=>cases h1
   exact⟨ρ,lab,hS.grew hg,hg.ext lab,⟨fun _ _ _ h=>h,fun _ _ _ _ h=>h⟩,hr,hc,Nat.le_refl _⟩
  ·cases h
 ·cases h
end Go.Proofs.YtjhfloacokgdiaaGreatDoor
namespace Go.Proofs.YtjhfloacokgdiaaGreatDoor.Sc
open Go Go.Vm
variable {s w:List UInt8} {x y:MS}
def IntW (w:List UInt8):Prop:=w ≠ []/\(∀b∈w,U5 b=true) /\ ∃c,a4y w c=false
theorem c6y (p:UInt8->Bool):∀l:List UInt8,l.take (l.takeWhile p).length=l.takeWhile p
 | []=>rfl
 | b::r=>by
  rw[List.takeWhile_cons];cases p b
  ·rfl
  ·simp[c6y p r]
theorem run_text {p:UInt8->Bool}{i:Nat}:(s.take (a1c p s i)).drop i =(s.drop i).takeWhile p:=by
 rw[List.drop_take,a1c,Nat.add_sub_cancel_left,c6y]
theorem tw_all {p:UInt8->Bool}:∀{l:List UInt8} {b:UInt8},b∈l.takeWhile p->p b=true
 | c::r,b,h=>by
  rw[List.takeWhile_cons]at h;cases hc:p c
  ·rw[hc]at h;cases h
  ·rw[hc]at h;rcases List.mem_cons.1 h with rfl|h
   ·exact hc
   ·exact tw_all h
theorem c2p {toks:List Tok}{st:List (Nat×Int)}{q j ins:Nat}{a b:Int}(ha:a≠3)(hb:b≠3)(h:a2k toks st q j a b (part s q ins (j+1) [])=.go y) :
  ∃t:Tok,y.toks=toks++[t]/\(t.k=3->IntW t.t):=by
 cases hp:part s q ins (j+1) []with
 | err c a=>rw[hp]at h;cases h
 | fin t e =>
  rw[hp]at h;simp only[a2k]at h;cases h;exact⟨_,rfl,fun h=>absurd h ha⟩
 | more t e =>
  rw[hp]at h;simp only[a2k]at h;cases h;exact⟨_,rfl,fun h=>absurd h hb⟩
theorem c2i (w:List UInt8):a4F w≠3:=by
 unfold a4F;split
 ·decide
 ·split<;>decide
theorem step_int (h:stepM s x=.go y):∃t:Tok,y.toks=x.toks++[t]/\(t.k=3->IntW t.t):=by
 obtain⟨i0,toks,st⟩:=x;obtain⟨i,h0⟩:∃i,a0W s i0=i:=⟨_,rfl⟩
 show ∃t:Tok,y.toks=toks++[t]/\_;rcases Nat.lt_or_ge i s.length with hi|hi
 ·cases hc:closes (s.getD i 0).toNat st with
  | true =>
   cases st with
   | nil=>cases hc
   | cons z st =>
    obtain⟨q,p⟩:=z;rw[(a2F h0 hi hc).2]at h;exact c2p (by decide) (by decide) (a1B h).2
  | false =>
   by_cases h1:(s.getD i 0).toNat=34
   ·rw[a4s h0 hi hc h1]at h;exact c2p (by decide) (by decide) (a1B h).2
   ·have hi1:i<=s.length:=by omega
    cases h2:U5 (s.getD i 0)with
    | true =>
     rw[a3v h0 hi hc h1 h2]at h;have hg:=b3q hi h2;have hl:=a9y (p:=U5) hi1;have h:=(a1B h).2;split at h
     ·cases h
     ·rename_i hbad;cases h;refine⟨_,rfl,fun _=>⟨?_,?_,_,hbad⟩⟩
      ·intro hnil;have:=congrArg List.length hnil;simp only[List.length_drop,List.length_take,List.length_nil]at this;omega
      ·intro b hb;have hb:b∈(s.take (a1c U5 s i)).drop i:=hb;rw[run_text]at hb;exact tw_all hb
    | false =>
     cases h3:a1b (s.getD i 0)with
     | true =>
      rw[a2G h0 hi hc h1 h2 h3]at h;have h:=(a1B h).2;split at h
      ·cases h
      ·cases h;exact⟨_,rfl,fun h=>absurd h (c2i _)⟩
     | false =>
      cases hw:a2w s i 2 with
      | nil=>rw[a5P h0 hi hc h1 h2 h3 hw]at h;cases h
      | cons b w =>
       rw[a2p h0 hi hc h1 h2 h3 hw (by simp)]at h;have h:=(a1B h).2;cases h;exact⟨_,rfl,fun h=>absurd h (show(8:Int)≠3 by decide)⟩
 ·cases st with
  | nil=>rw[a4U h0 hi]at h;cases h
  | cons z st=>obtain⟨q,p⟩:=z;rw[a5R h0 hi]at h;cases h
theorem c7z (h:Reach s x y):(∀t∈x.toks,t.k=3->IntW t.t) -> ∀t∈y.toks,t.k=3->IntW t.t:=by
 induction h with
 | refl x=>exact fun h=>h
 | step x y z h1 _ ih =>
  intro h2;obtain⟨t,g1,g2⟩:=step_int h1;refine ih fun u hu=>?_;rw[g1]at hu;rcases List.mem_append.1 hu with hu|hu
  ·exact h2 u hu
  ·rcases List.mem_singleton.1 hu with rfl;exact g2
theorem tok_int {l:List Tok}(h:a2y s=.done l):∀t∈l,t.k=3->IntW t.t:=by
 obtain⟨h1,_,h2⟩:=a6L s;have h3:=(h1.lay l h).1;obtain⟨y,g1,g2,_⟩:=h2 h3;rw[h]at g2;rw[<-(a5Q g2).1];exact c7z g1 (fun t ht=>by cases ht)
theorem digs_of (h:∀b∈w,U5 b=true):b6U w=true:=by
 simp only[b6U,List.all_eq_true,Bool.and_eq_true,Nat.ble_eq];intro b hb;have:=h b hb;simpa [U5]using this
theorem b95:∀(l:List UInt8) (x:Nat),b6U l=true->a1h l x<(x+1)*10^l.length
 | [],x,h=>by simp[a1h]
 | b::r,x,h=>by
  obtain⟨h1,h2,h3⟩:=a92 h;have:=b95 r (x*10+(b.toNat-48)) h3;rw[a7c,List.length_cons,Nat.pow_succ];refine Nat.lt_of_lt_of_le this ?_;rw[show(x+1)*(10^r.length*10) =(x*10+10)*10^r.length from by rw[Nat.mul_comm (10^r.length) 10,<-Nat.mul_assoc,Nat.add_mul]];exact Nat.mul_le_mul_right _ (by omega)
theorem c1P:∀(l:List UInt8) (x:Nat),x*10^l.length<=a1h l x
 | [],x=>by simp[a1h]
 | b::r,x=>by
  have:=c1P r (x*10+(b.toNat-48));rw[a7c,List.length_cons,Nat.pow_succ];refine Nat.le_trans ?_ this;rw[show x*(10^r.length*10) =(x*10)*10^r.length from by rw[Nat.mul_comm (10^r.length) 10,<-Nat.mul_assoc]];exact Nat.mul_le_mul_right _ (by omega)
theorem c5W:∀(a b:List UInt8),a.length=b.length->b6U a=true->b6U b=true->Op.bytesLess a b=true -> ∀x,a1h a x<=a1h b x
 | [],[],_,_,_,h,x=>by simp[Op.bytesLess]at h
 | [],b::y,h0,_,_,_,x=>by simp at h0
 | a::x',[],h0,_,_,_,x=>by simp at h0
 | a::u,b::v,h0,h1,h2,h3,x=>by
  obtain⟨a1,a2,a3⟩:=a92 h1;obtain⟨b1,b2,b3⟩:=a92 h2;have hl:u.length=v.length:=by simpa using h0
  simp only[Op.bytesLess,Bool.or_eq_true,Bool.and_eq_true,decide_eq_true_eq,beq_iff_eq]at h3;rw[a7c,a7c];rcases h3 with h3 |⟨h3,h4⟩
  ·have h3:a.toNat<b.toNat:=UInt8.lt_iff_toNat_lt.1 h3;have g1:=b95 u (x*10+(a.toNat-48)) a3;have g2:=c1P v (x*10+(b.toNat-48));rw[hl]at g1;have g3:(x*10+(a.toNat-48)+1)*10^v.length <=(x*10+(b.toNat-48))*10^v.length:=Nat.mul_le_mul_right _ (by omega);omega
  ·subst h3;exact c5W u v hl a3 b3 h4 _
theorem b4E (h:IntW w):b4x w=true:=by
 obtain⟨h1,h2,c,h3⟩:=h;have hd:=digs_of h2;unfold a4y at h3;simp only[Bool.or_eq_false_iff,Bool.and_eq_false_iff]at h3;obtain⟨⟨⟨_,h4⟩,h5⟩,_⟩:=h3;have h4:w.length<=19:=by simp[ltB]at h4;omega
 have hv:a1h w 0<=9223372036854775807:=by
  rcases Nat.lt_or_ge w.length 19 with h6|h6
  ·have g:=b95 w 0 hd;have g2:10^w.length<=10^18:=Nat.pow_le_pow_right (by omega) (by omega);have g3:(10:Nat)^18=1000000000000000000:=by decide
   omega
  ·have h7:w.length=19:=by omega
   rcases h5 with h5|h5
   ·simp[eqB,h7]at h5
   ·have hm:b6U b0d=true:=by decide
    have hmv:a1h b0d 0=9223372036854775807:=by decide
    have h5:(ltS w b0d||eqS w b0d)=true:=by
     cases hq:(ltS w b0d||eqS w b0d)with
     | true=>rfl
     | false=>rw[hq]at h5;cases h5
    simp only[Bool.or_eq_true]at h5;rcases h5 with h5|h5
    ·unfold ltS at h5;have:=c5W w b0d (by rw[h7];rfl) hd hm h5 0;omega
    ·have:w=b0d:=by simpa [eqS]using h5
     rw[this];omega
 have hne:w.isEmpty=false:=by cases w with
  | nil=>exact absurd rfl h1
  | cons b r=>rfl
 simp only[b4x,hd,hne,Bool.not_false,Bool.true_and,Bool.and_eq_true,Nat.ble_eq];exact⟨h4,hv⟩
end Go.Proofs.YtjhfloacokgdiaaGreatDoor.Sc
