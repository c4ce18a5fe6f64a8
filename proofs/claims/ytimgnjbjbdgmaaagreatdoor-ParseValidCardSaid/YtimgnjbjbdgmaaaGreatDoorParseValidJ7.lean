/- Texts of ParseValid, joined. -/
import Derived.Test.YtimgnjbjbdgmaaaGreatDoorParseValidJ6
import Derived.Shelf.Strings.Builder1
import Derived.Shelf.Strings.OnBuilder
import Derived.Test.YtimgnjbjbdgmaaaGreatDoorProg
import Derived.Shelf.LaysC
import Derived.Shelf.Strconv.AtoiAll
import Derived.KernelRfl
set_option maxRecDepth 100000
set_option maxHeartbeats 20000000
set_option linter.all false
namespace Go.Proofs.YtimgnjbjbdgmaaaGreatDoor.Sc
open Go Go.Vm
variable {a b c:Int} {st:List (Nat×Int)} {l toks:List Tok} {s:List UInt8} {r:MR} {x y:MS} {ins j p q:Nat}
def Lay (s:List UInt8):Nat->List Tok->Nat->Prop|k,[],e=>k=e|k,t::r,e=>t.a=a0K s k/\t.a<s.length/\0<t.l/\t.a+t.l<=s.length/\Lay s (t.a+t.l) r e
theorem Lay.add {s:List UInt8}{t:Tok}:∀{l:List Tok} {k e:Nat},Lay s k l e->t.a=a0K s e->t.a<s.length->0<t.l->t.a+t.l<=s.length->Lay s k (l++[t]) (t.a+t.l)
 | [],k,e,h,h1,h2,h3,h4=>by
  simp only[Lay]at h;subst h;exact⟨h1,h2,h3,h4,rfl⟩
 | u::l,k,e,h,h1,h2,h3,h4=>⟨h.1,h.2.1,h.2.2.1,h.2.2.2.1,Lay.add h.2.2.2.2 h1 h2 h3 h4⟩
theorem a7C (h:roomy toks j r=.go y):toks.length<3000/\r=.go y:=by
 unfold roomy at h;split at h
 ·cases h
 rename_i h1;simp only[decide_eq_false_iff_not]at h1;exact⟨zOm,h⟩
theorem lit_go (h:a5Q toks st q j a b (part s q ins (j+1) [])=.go y) :
  ∃t:Tok,y.toks=toks++[t]/\t.a=j/\0<t.l/\y.i=t.a+t.l/\t.a+t.l<=s.length:=by
 have hok:=c1X s q ins (j+1) [];cases hp:part s q ins (j+1) []with
 | err c a=>rw[hp]at h;cases h
 | fin t e =>
  rw[hp]at h hok;have h1:j+1<e:=hok.1;have h2:e<=s.length:=hok.2;simp only[a5Q]at h;cases h;exact⟨_,rfl,rfl,by show 0<e-j;omega,by show e=j+(e-j);omega,by show j+(e-j)<=_;omega⟩
 | more t e =>
  rw[hp]at h hok;have h1:j+1<e:=hok.1;have h2:e<=s.length:=hok.2;simp only[a5Q]at h;cases h;exact⟨_,rfl,rfl,by show 0<e-j;omega,by show e=j+(e-j);omega,by show j+(e-j)<=_;omega⟩
theorem stepM_go (h:stepM s x=.go y):∃t:Tok,y.toks=x.toks++[t]/\t.a=a0K s x.i/\t.a<s.length/\0<t.l/\y.i=t.a+t.l/\t.a+t.l<=s.length:=by
 obtain⟨i0,toks,st⟩:=x;obtain⟨i,h0⟩:∃i,a0K s i0=i:=⟨_,rfl⟩
 show ∃t:Tok,y.toks=toks++[t]/\t.a=a0K s i0/\_;rw[h0];rcases Nat.lt_or_ge i s.length with hi|hi
 ·have fin:(∃t:Tok,y.toks=toks++[t]/\t.a=i/\0<t.l/\y.i=t.a+t.l/\t.a+t.l<=s.length) -> ∃t:Tok,y.toks=toks++[t]/\t.a=i/\t.a<s.length/\0<t.l/\y.i=t.a+t.l/\t.a+t.l<=s.length:=by
   rintro⟨t,h1,h2,h3,h4,h5⟩;exact⟨t,h1,h2,zOm,h3,h4,h5⟩
  apply fin;cases hc:closes (s.getD i 0).toNat st with
  | true =>
   cases st with
   | nil=>cases hc
   | cons z st =>
    obtain⟨q,p⟩:=z;rw[(a7n h0 hi hc).2]at h;exact lit_go (a7C h).2
  | false =>
   by_cases h1:(s.getD i 0).toNat=34
   ·rw[a8U h0 hi hc h1]at h;exact lit_go (a7C h).2
   have hi1:i<=s.length:=by omega
   cases h2:O5 (s.getD i 0)with
   | true =>
    rw[a6r h0 hi hc h1 h2]at h;have hg:=a8B hi h2;have hl:=a7m (p:=O5) hi1;have h:=(a7C h).2;split at h
    ·cases h
    cases h;exact⟨_,rfl,rfl,by show 0<Z7 O5 s i-i;omega,by show Z7 O5 s i=i+(Z7 O5 s i-i);omega,by show i+(Z7 O5 s i-i)<=_;omega⟩
   | false =>
    cases h3:a1m (s.getD i 0)with
    | true =>
     rw[a6a h0 hi hc h1 h2 h3]at h;have hg:=a8B (p:=a0Z) hi (by simp only[a0Z,h3,Bool.true_or]);have hl:=a7m (p:=a0Z) hi1;have h:=(a7C h).2;split at h
     ·cases h
     cases h;exact⟨_,rfl,rfl,by show 0<Z7 a0Z s i-i;omega,by show Z7 a0Z s i=i+(Z7 a0Z s i-i);omega,by show i+(Z7 a0Z s i-i)<=_;omega⟩
    | false =>
     cases hw:a2J s i 2 with
     | nil=>rw[a8R h0 hi hc h1 h2 h3 hw]at h;cases h
     | cons b w =>
      rw[a6g h0 hi hc h1 h2 h3 hw zSi]at h;have hl:=b37 2 hi1;rw[hw]at hl;have h:=(a7C h).2;cases h;exact⟨_,rfl,rfl,by show 0<(b::w).length;simp,rfl,by show i+(b::w).length<=_;omega⟩
 cases st with
 | nil=>rw[a8S h0 hi]at h;cases h
 | cons z st=>obtain⟨q,p⟩:=z;rw[a8T h0 hi]at h;cases h
theorem c8J (h:Reach s x y):x.i<=s.length->Lay s 0 x.toks x.i->y.i<=s.length/\Lay s 0 y.toks y.i:=by
 induction h with
 | refl x=>exact fun h1 h2=>⟨h1,h2⟩
 | step x y z h1 _ ih =>
  intro h2 h3;obtain⟨t,g1,g2,g3,g4,g5,g6⟩:=stepM_go h1;exact ih zOm (by rw[g1,g5];exact h3.add g2 g3 g4 g6)
theorem b0d (h:roomy toks j r=.done l):r=.done l:=by
 unfold roomy at h;split at h
 ·cases h
 exact h
theorem b5w {r:PR}(h:a5Q toks st q j a b r=.done l):False:=by
 cases r<;>cases h
theorem b9w (h:stepM s x=.done l):x.toks=l/\s.length<=a0K s x.i:=by
 obtain⟨i0,toks,st⟩:=x;obtain⟨i,h0⟩:∃i,a0K s i0=i:=⟨_,rfl⟩
 show toks=l/\s.length<=a0K s i0;rw[h0];rcases Nat.lt_or_ge i s.length with hi|hi
 ·exfalso;cases hc:closes (s.getD i 0).toNat st with
  | true =>
   cases st with
   | nil=>cases hc
   | cons z st =>
    obtain⟨q,p⟩:=z;rw[(a7n h0 hi hc).2]at h;exact b5w (b0d h)
  | false =>
   by_cases h1:(s.getD i 0).toNat=34
   ·rw[a8U h0 hi hc h1]at h;exact b5w (b0d h)
   cases h2:O5 (s.getD i 0)with
   | true =>
    rw[a6r h0 hi hc h1 h2]at h;have h:=b0d h;split at h<;>cases h
   | false =>
    cases h3:a1m (s.getD i 0)with
    | true =>
     rw[a6a h0 hi hc h1 h2 h3]at h;have h:=b0d h;split at h<;>cases h
    | false =>
     cases hw:a2J s i 2 with
     | nil=>rw[a8R h0 hi hc h1 h2 h3 hw]at h;cases h
     | cons b w =>
      rw[a6g h0 hi hc h1 h2 h3 hw zSi]at h;have h:=b0d h;cases h
 cases st with
 | nil=>rw[a8S h0 hi]at h;cases h;exact⟨rfl,hi⟩
 | cons z st=>obtain⟨q,p⟩:=z;rw[a8T h0 hi]at h;cases h
theorem b1A {a:Nat}(h:roomy toks j r=.err c a):c=2∨r=.err c a:=by
 unfold roomy at h;split at h
 ·cases h;exact .inl rfl
 exact .inr h
theorem c7t {i:Nat}(h:a5Q toks st q j a b (part s q ins i [])=.err c p):c≠0:=by
 have hok:=c1X s q ins i [];cases hp:part s q ins i []with
 | err c' a'=>rw[hp]at h hok;cases h;rcases hok with rfl|rfl|rfl<;>decide
 | fin t e=>rw[hp]at h;cases h
 | more t e=>rw[hp]at h;cases h
theorem c8V (h:stepM s x=.err c p):c≠0:=by
 obtain⟨i0,toks,st⟩:=x;obtain⟨i,h0⟩:∃i,a0K s i0=i:=⟨_,rfl⟩
 rcases Nat.lt_or_ge i s.length with hi|hi
 ·cases hc:closes (s.getD i 0).toNat st with
  | true =>
   cases st with
   | nil=>cases hc
   | cons z st =>
    obtain⟨q,p⟩:=z;rw[(a7n h0 hi hc).2]at h;rcases b1A h with rfl|h
    ·decide
    exact c7t h
  | false =>
   by_cases h1:(s.getD i 0).toNat=34
   ·rw[a8U h0 hi hc h1]at h;rcases b1A h with rfl|h
    ·decide
    exact c7t h
   cases h2:O5 (s.getD i 0)with
   | true =>
    rw[a6r h0 hi hc h1 h2]at h;rcases b1A h with rfl|h
    ·decide
    split at h<;>cases h;decide
   | false =>
    cases h3:a1m (s.getD i 0)with
    | true =>
     rw[a6a h0 hi hc h1 h2 h3]at h;rcases b1A h with rfl|h
     ·decide
     split at h<;>cases h;decide
    | false =>
     cases hw:a2J s i 2 with
     | nil=>rw[a8R h0 hi hc h1 h2 h3 hw]at h;cases h;decide
     | cons b w =>
      rw[a6g h0 hi hc h1 h2 h3 hw zSi]at h;rcases b1A h with rfl|h
      ·decide
      cases h
 cases st with
 | nil=>rw[a8S h0 hi]at h;cases h
 | cons z st=>obtain⟨q,p⟩:=z;rw[a8T h0 hi]at h;cases h;decide
structure TokOk (s:List UInt8)(r:MR):Prop where
 bd:RBd r
 nz:∀c a,r=.err c a->c≠0
 lay:∀l,r=.done l->s.length<=8000 /\ ∃e,Lay s 0 l e/\s.length<=a0K s e/\e<=s.length
theorem ends_ok (hs:s.length<=8000)(h:Ends s ⟨0,[],[]⟩ r)(hr:RBd r):TokOk s r:=by
 obtain⟨y,h1,h2,h3⟩:=h;refine⟨hr,fun c a e=>?_,fun l e=>?_⟩
 ·subst e;exact c8V h2
 subst e;obtain⟨h4,h5⟩:=b9w h2;obtain⟨h6,h7⟩:=c8J h1 (Nat.zero_le _) rfl;rw[h4]at h7;exact⟨hs,y.i,h7,h5,h6⟩
theorem c4H (s:List UInt8):∃r,TokOk s r/\E env (.call 41 [.str s]) []=some (.ret (b3z r) [])/\E env (.call 34 [.str s]) []=some (.ret (b3z r) [])/\(s.length<=8000->Ends s ⟨0,[],[]⟩ r):=by
 rcases Nat.lt_or_ge 8000 s.length with h|h
 ·exact⟨.err 2 0,⟨trivial,fun c a e=>(by cases e;decide),fun l e=>(by cases e)⟩,c11big h,c12big h,fun h1=>absurd h1 zOm⟩
 obtain⟨r,h1,h2,h3⟩:=c11 h;obtain⟨r',h4,h5⟩:=c12 h;obtain rfl:=Ends.det s h1 h4;exact⟨r,ends_ok h h1 h2,h3,h5,fun _=>h1⟩
end Go.Proofs.YtimgnjbjbdgmaaaGreatDoor.Sc
namespace Go.Vm
variable {args:List V} {g:Nat}
variable {ρ:Rho} {lab:Lab} {w:World} {H:Hp}
theorem c1h {env:Env}(hE:a7M env){v:V}(h:E env (.call g args) []=some (.ret v []))(ha:a2r (a2K a7a dep) (args.map b1E)=some args)(hv:a2K a7a dep v=some v)
  (hc:Canon 0 H) (hS:Sim ρ lab H w) {xs:List Value} (hx:L6 ρ lab w args xs):Calls env.P g xs.toArray w (a9T ρ lab H w (.ret v H)):=by
 obtain⟨k,hk⟩:=(a3O env).at_ _ _ _ h;have q:a3B (run env k) g args H=some (.val v H):=by
  unfold a3B;rw[ha];simp only;rw[hk];simp only;rw[hv]
 refine(b7a (b4V hE k).1 hS hx q).1.mono fun e w' he=>?_;cases e with
 | returned x =>
  obtain⟨ρ',lab',h1,h2,h3,h4⟩:=he;exact⟨ρ',lab',h1,h2,a4B.of_le h3 _,h4,hc,Nat.le_refl _⟩
 | panicked ch=>exact he.elim
 | outgrown=>exact he.elim
def b0m (f:List V->Option V):List V->Hp->Option Out:=fun args H=>match f args with
 | some v=>some (.ret v H)
 | none=>none
theorem c2x {env:Env}(hE:a7M env){f:List V->Option V}
  (hf:∀args v,f args=some v->a2r (a2K a7a dep) (args.map b1E)=some args/\a2K a7a dep v=some v/\E env (.call g args) []=some (.ret v []))
  (hk:∃fn c,env.P.funcs[g]? = some fn/\(fn.name == "runtime.NumGoroutine")=false/\fn.body=some c):a7G env.P g (b0m f):=by
 refine⟨fun args H out h ρ lab w xs hc hS hx=>?_,hk⟩;unfold b0m at h;split at h
 ·rename_i v hv;cases h;obtain⟨h1,h2,h3⟩:=hf args v hv;exact c1h hE h3 h1 h2 hc hS hx
 cases h
theorem a7f {env:Env}{H:Hp}{out:Out}{h:List V->Hp->Option Out}(hi:env.intr g=some (.plain h))(ho:h args H=some out):E env (.call g args) H=some out:=by
 refine(a3O env).le 1 _ _ _ ?_;simp only[run,step,hi,ho]
end Go.Vm
namespace Go.Proofs.YtimgnjbjbdgmaaaGreatDoor.Sc
open Go Go.Vm
noncomputable def a6T (s:List UInt8):MR:=(c4H s).choose
theorem b0k (s:List UInt8):TokOk s (a6T s)/\E env (.call 41 [.str s]) []=some (.ret (b3z (a6T s)) [])/\E env (.call 34 [.str s]) []=some (.ret (b3z (a6T s)) [])/\(s.length<=8000->Ends s ⟨0,[],[]⟩ (a6T s)):=(c4H s).choose_spec
theorem b2t (s:List UInt8):RBd (a6T s)/\E env (.call 41 [.str s]) []=some (.ret (b3z (a6T s)) [])/\E env (.call 34 [.str s]) []=some (.ret (b3z (a6T s)) []):=⟨(b0k s).1.bd,(b0k s).2.1,(b0k s).2.2.1⟩
noncomputable def tokF:List V->Option V:=fun args=>match args with
 | [.str s]=>some (b3z (a6T s))
 | _=>none
theorem c4I {r:MR}(h:RBd r):a2K a7a dep (b3z r)=some (b3z r):=by
 cases r with
 | go x=>exact h.elim
 | done l=>rfl
 | err c a=>rfl
theorem c4L:a7G Tryz.prog 41 (b0m tokF):=by
 refine c2x b5j (fun args v h=>?_) ⟨_,_,Tryz.func41,zKr,rfl⟩;unfold tokF at h;split at h
 ·rename_i s;cases h;exact⟨rfl,c4I (b2t s).1,(b2t s).2.1⟩
 cases h
theorem c0Z:a7G Tryz.prog 34 (b0m tokF):=by
 refine c2x b5j (fun args v h=>?_) ⟨_,_,Tryz.func34,zKr,rfl⟩;unfold tokF at h;split at h
 ·rename_i s;cases h;exact⟨rfl,c4I (b2t s).1,(b2t s).2.2⟩
 cases h
end Go.Proofs.YtimgnjbjbdgmaaaGreatDoor.Sc
namespace Go.Proofs
open Go.Shelf
def Tryz.b65:Go.Shelf.Ren:=⟨fun|169=>30|n=>n,fun|70=>52|9=>9|0=>0|72=>55|37=>53|127=>95|3=>3|5=>5|n=>n,fun|n=>n⟩
theorem Tryz.lays169:Go.Proofs.Lays.n169 Tryz.prog Tryz.b65:={
 mixed:=by kernel_rfl
 f169:=Tryz.func30.trans (congrArg some (by kernel_rfl))
 t0:=Tryz.underlying0
 a0:=Tryz.isAgg0
 z0:=Tryz.sizeOf0
 v0:=Tryz.zeroValue0
 t3:=Tryz.underlying3
 a3:=Tryz.isAgg3
 z3:=Tryz.sizeOf3
 v3:=Tryz.zeroValue3
 t9:=Tryz.underlying9
 a9:=Tryz.isAgg9
 z9:=Tryz.sizeOf9
 v9:=Tryz.zeroValue9
 t37:=Tryz.underlying53
 a37:=Tryz.isAgg53
 z37:=Tryz.sizeOf53
 v37:=Tryz.zeroValue53
 t70:=Tryz.underlying52
 a70:=Tryz.isAgg52
 z70:=Tryz.sizeOf52
 v70:=Tryz.zeroValue52
 t72:=Tryz.underlying55
 a72:=Tryz.isAgg55
 z72:=Tryz.sizeOf55
 v72:=Tryz.zeroValue55
 t127:=Tryz.underlying95
 a127:=Tryz.isAgg95
 z127:=Tryz.sizeOf95
 v127:=Tryz.zeroValue95}
theorem Tryz.b49:Builder.Extra Tryz.prog Tryz.b65:={
 sizeBuilder:=by kernel_rfl
 liesBuilder:=by kernel_rfl
 t5:=Tryz.underlying5
 a5:=Tryz.isAgg5
 z5:=Tryz.sizeOf5
 v5:=Tryz.zeroValue5
 infoByte:=by kernel_rfl
 cellsByte:=by kernel_rfl
 sizeByte:=by kernel_rfl
 neB5:=by decide}
open Go.RowKit in
theorem Tryz.Builder_String_any (B b:Nat)(l:List UInt8)(w:World)(h:Lib.IsBuilder 55 5 B b (Lib.byteCells l) w)(hBw:B<=w.heap.size) :
  Calls Tryz.prog 30 #[.pointer (some ⟨b,0,none⟩)] w fun e w'=>e=.returned (.string ⟨l.toArray⟩)/\Below B w w':=Any.Builder_String_any Tryz.lays169 Tryz.b49 B b l w h hBw
def Tryz.b63:Go.Shelf.Ren:=⟨fun|156=>38|165=>76|166=>27|169=>30|240=>63|241=>128|276=>106|277=>155|n=>n,fun|31=>57|9=>9|3=>3|4=>4|0=>0|20=>20|72=>55|76=>63|70=>52|37=>53|75=>62|127=>95|164=>126|5=>5|80=>65|n=>n,fun|n=>n⟩
theorem Tryz.c1J:Go.Proofs.Lays.n156 Tryz.prog Tryz.b63:={
 mixed:=by kernel_rfl
 f156:=Tryz.func38.trans (congrArg some (by kernel_rfl))
 f165:=Tryz.func76.trans (congrArg some (by kernel_rfl))
 f166:=Tryz.func27.trans (congrArg some (by kernel_rfl))
 f169:=Tryz.func30.trans (congrArg some (by kernel_rfl))
 f240:=Tryz.func63.trans (congrArg some (by kernel_rfl))
 f241:=Tryz.func128.trans (congrArg some (by kernel_rfl))
 f276:=Tryz.func106.trans (congrArg some (by kernel_rfl))
 f277:=Tryz.func155.trans (congrArg some (by kernel_rfl))
 t0:=Tryz.underlying0
 a0:=Tryz.isAgg0
 z0:=Tryz.sizeOf0
 v0:=Tryz.zeroValue0
 t3:=Tryz.underlying3
 a3:=Tryz.isAgg3
 z3:=Tryz.sizeOf3
 v3:=Tryz.zeroValue3
 t4:=Tryz.underlying4
 a4:=Tryz.isAgg4
 z4:=Tryz.sizeOf4
 v4:=Tryz.zeroValue4
 t9:=Tryz.underlying9
 a9:=Tryz.isAgg9
 z9:=Tryz.sizeOf9
 v9:=Tryz.zeroValue9
 t20:=Tryz.underlying20
 a20:=Tryz.isAgg20
 z20:=Tryz.sizeOf20
 v20:=Tryz.zeroValue20
 t31:=Tryz.underlying57
 a31:=Tryz.isAgg57
 z31:=Tryz.sizeOf57
 v31:=Tryz.zeroValue57
 t37:=Tryz.underlying53
 a37:=Tryz.isAgg53
 z37:=Tryz.sizeOf53
 v37:=Tryz.zeroValue53
 t70:=Tryz.underlying52
 a70:=Tryz.isAgg52
 z70:=Tryz.sizeOf52
 v70:=Tryz.zeroValue52
 t72:=Tryz.underlying55
 a72:=Tryz.isAgg55
 z72:=Tryz.sizeOf55
 v72:=Tryz.zeroValue55
 t75:=Tryz.underlying62
 a75:=Tryz.isAgg62
 z75:=Tryz.sizeOf62
 v75:=Tryz.zeroValue62
 t76:=Tryz.underlying63
 a76:=Tryz.isAgg63
 z76:=Tryz.sizeOf63
 v76:=Tryz.zeroValue63
 t127:=Tryz.underlying95
 a127:=Tryz.isAgg95
 z127:=Tryz.sizeOf95
 v127:=Tryz.zeroValue95
 t164:=Tryz.underlying126
 a164:=Tryz.isAgg126
 z164:=Tryz.sizeOf126
 v164:=Tryz.zeroValue126}
theorem Tryz.a8f:Builder.Extra Tryz.prog Tryz.b63:={
 sizeBuilder:=by kernel_rfl
 liesBuilder:=by kernel_rfl
 t5:=Tryz.underlying5
 a5:=Tryz.isAgg5
 z5:=Tryz.sizeOf5
 v5:=Tryz.zeroValue5
 infoByte:=by kernel_rfl
 cellsByte:=by kernel_rfl
 sizeByte:=by kernel_rfl
 neB5:=by decide}
open Go.RowKit in
theorem Tryz.strings_Join_none (a:Option Addr)(c:Nat)(sep:ByteArray)(w:World) :
  Calls Tryz.prog 38 #[.slice a 0 c,.string sep] w fun e w'=>e=.returned (.string ⟨#[]⟩)/\w'=w:=Any.strings_Join_none Tryz.c1J Tryz.a8f a c sep w
open Go.RowKit in
theorem Tryz.strings_Join (bk o c:Nat)(xs:List ByteArray)(sep:ByteArray)(w:World)(hcells:∀(j:Nat) x,xs[j]? = some x->w.cell? ⟨bk,o+j,none⟩=some (.string x))(hbk:bk<w.heap.size)(hN:xs.length<=140737488355328)(hcap:xs.length<=c)(hlen:(Lib.join (xs.map (·.data.toList)) sep.data.toList).length<=140737488355328) :
  Calls Tryz.prog 38 #[.slice (some ⟨bk,o,none⟩) xs.length c,.string sep] w fun e w'=>e=.returned (.string ⟨(Lib.join (xs.map (·.data.toList)) sep.data.toList).toArray⟩)/\Below w.heap.size w w':=Any.strings_Join Tryz.c1J Tryz.a8f bk o c xs sep w hcells hbk hN hcap hlen
def Tryz.c3z:Go.Shelf.Ren:=⟨fun|167=>29|156=>38|165=>76|166=>27|169=>30|240=>63|241=>128|276=>106|277=>155|n=>n,fun|31=>57|9=>9|3=>3|4=>4|0=>0|20=>20|72=>55|76=>63|70=>52|37=>53|75=>62|127=>95|164=>126|5=>5|80=>65|n=>n,fun|n=>n⟩
theorem Tryz.layB167:Go.Proofs.Lays.n167 Tryz.prog Tryz.c3z:={
 mixed:=by kernel_rfl
 f167:=Tryz.func29.trans (congrArg some (by kernel_rfl))
 f240:=Tryz.func63.trans (congrArg some (by kernel_rfl))
 f276:=Tryz.func106.trans (congrArg some (by kernel_rfl))
 t0:=Tryz.underlying0
 a0:=Tryz.isAgg0
 z0:=Tryz.sizeOf0
 v0:=Tryz.zeroValue0
 t4:=Tryz.underlying4
 a4:=Tryz.isAgg4
 z4:=Tryz.sizeOf4
 v4:=Tryz.zeroValue4
 t5:=Tryz.underlying5
 a5:=Tryz.isAgg5
 z5:=Tryz.sizeOf5
 v5:=Tryz.zeroValue5
 t9:=Tryz.underlying9
 a9:=Tryz.isAgg9
 z9:=Tryz.sizeOf9
 v9:=Tryz.zeroValue9
 t20:=Tryz.underlying20
 a20:=Tryz.isAgg20
 z20:=Tryz.sizeOf20
 v20:=Tryz.zeroValue20
 t37:=Tryz.underlying53
 a37:=Tryz.isAgg53
 z37:=Tryz.sizeOf53
 v37:=Tryz.zeroValue53
 t70:=Tryz.underlying52
 a70:=Tryz.isAgg52
 z70:=Tryz.sizeOf52
 v70:=Tryz.zeroValue52
 t72:=Tryz.underlying55
 a72:=Tryz.isAgg55
 z72:=Tryz.sizeOf55
 v72:=Tryz.zeroValue55
 t75:=Tryz.underlying62
 a75:=Tryz.isAgg62
 z75:=Tryz.sizeOf62
 v75:=Tryz.zeroValue62
 t164:=Tryz.underlying126
 a164:=Tryz.isAgg126
 z164:=Tryz.sizeOf126
 v164:=Tryz.zeroValue126}
theorem Tryz.c5S:Builder.Extra Tryz.prog Tryz.c3z:={
 sizeBuilder:=by kernel_rfl
 liesBuilder:=by kernel_rfl
 t5:=Tryz.underlying5
 a5:=Tryz.isAgg5
 z5:=Tryz.sizeOf5
 v5:=Tryz.zeroValue5
 infoByte:=by kernel_rfl
 cellsByte:=by kernel_rfl
 sizeByte:=by kernel_rfl
 neB5:=by decide}
open Go.RowKit in
theorem Tryz.Builder_WriteByte (B b:Nat)(bs:List Value)(c:Int)(w:World)(h:Lib.IsBuilder 55 5 B b bs w)(hlen:bs.length+1<=140737488355328)(hBw:B<=w.heap.size) :
  Calls Tryz.prog 29 #[.pointer (some ⟨b,0,none⟩),.int .u8 c] w fun e w'=>e=.returned .nilIface/\(Lib.BuilderAt 55 5 B b (.pointer (some ⟨b,0,none⟩)) (bs++[.int .u8 c]) w'/\Below B w w'):=Any.Builder_WriteByte Tryz.layB167 Tryz.c5S B b bs c w h hlen hBw
open Go.RowKit in
theorem Tryz.Builder_WriteString (B b:Nat)(bs:List Value)(s:ByteArray)(w:World)(h:Lib.IsBuilder 55 5 B b bs w)(hlen:bs.length+s.size<=140737488355328)(hBw:B<=w.heap.size) :
  Calls Tryz.prog 27 #[.pointer (some ⟨b,0,none⟩),.string s] w fun e w'=>e=.returned (.tuple #[.int .i64 s.size,.nilIface])/\(Lib.BuilderAt 55 5 B b (.pointer (some ⟨b,0,none⟩)) (bs++Lib.strCells s) w'/\Below B w w'):=Any.Builder_WriteString {Tryz.c1J with} Tryz.a8f B b bs s w h hlen hBw
def Tryz.c1K:Go.Shelf.Ren:=⟨fun|172=>221|244=>233|245=>234|247=>248|279=>249|280=>250|281=>251|282=>252|287=>263|316=>264|171=>172|205=>265|321=>276|322=>277|243=>195|246=>209|283=>217|284=>218|285=>219|286=>220|129=>229|317=>228|318=>230|319=>231|320=>232|337=>246|338=>247|n=>n,fun|9=>9|3=>3|75=>62|76=>63|4=>4|5=>5|167=>218|37=>53|0=>0|85=>219|2=>2|168=>221|53=>188|175=>240|46=>199|210=>243|127=>95|145=>259|143=>257|21=>21|171=>187|173=>191|212=>197|51=>170|20=>20|213=>198|232=>238|233=>239|80=>65|n=>n,fun|15=>4|16=>5|17=>1|18=>2|19=>3|n=>n⟩
theorem Tryz.laysC172:Go.Proofs.LaysC.n172 Tryz.prog Tryz.c1K:={
 mixed:=by kernel_rfl
 f129:=Tryz.func229.trans (congrArg some (by kernel_rfl))
 f171:=Tryz.func172.trans (congrArg some (by kernel_rfl))
 f172:=Tryz.func221.trans (congrArg some (by kernel_rfl))
 f205:=Tryz.func265.trans (congrArg some (by kernel_rfl))
 f243:=Tryz.func195.trans (congrArg some (by kernel_rfl))
 f244:=Tryz.func233.trans (congrArg some (by kernel_rfl))
 f245:=Tryz.func234.trans (congrArg some (by kernel_rfl))
 f246:=Tryz.func209.trans (congrArg some (by kernel_rfl))
 f247:=Tryz.func248.trans (congrArg some (by kernel_rfl))
 f279:=Tryz.func249.trans (congrArg some (by kernel_rfl))
 f280:=Tryz.func250.trans (congrArg some (by kernel_rfl))
 f281:=Tryz.func251.trans (congrArg some (by kernel_rfl))
 f282:=Tryz.func252.trans (congrArg some (by kernel_rfl))
 f283:=Tryz.func217.trans (congrArg some (by kernel_rfl))
 f284:=Tryz.func218.trans (congrArg some (by kernel_rfl))
 f285:=Tryz.func219.trans (congrArg some (by kernel_rfl))
 f286:=Tryz.func220.trans (congrArg some (by kernel_rfl))
 f287:=Tryz.func263.trans (congrArg some (by kernel_rfl))
 f316:=Tryz.func264.trans (congrArg some (by kernel_rfl))
 f317:=Tryz.func228.trans (congrArg some (by kernel_rfl))
 f318:=Tryz.func230.trans (congrArg some (by kernel_rfl))
 f319:=Tryz.func231.trans (congrArg some (by kernel_rfl))
 f320:=Tryz.func232.trans (congrArg some (by kernel_rfl))
 f321:=Tryz.func276.trans (congrArg some (by kernel_rfl))
 f322:=Tryz.func277.trans (congrArg some (by kernel_rfl))
 f337:=Tryz.func246.trans (congrArg some (by kernel_rfl))
 f338:=Tryz.func247.trans (congrArg some (by kernel_rfl))
 t0:=Tryz.underlying0
 a0:=Tryz.isAgg0
 z0:=Tryz.sizeOf0
 v0:=Tryz.zeroValue0
 t2:=Tryz.underlying2
 a2:=Tryz.isAgg2
 z2:=Tryz.sizeOf2
 v2:=Tryz.zeroValue2
 t3:=Tryz.underlying3
 a3:=Tryz.isAgg3
 z3:=Tryz.sizeOf3
 v3:=Tryz.zeroValue3
 t4:=Tryz.underlying4
 a4:=Tryz.isAgg4
 z4:=Tryz.sizeOf4
 v4:=Tryz.zeroValue4
 t5:=Tryz.underlying5
 a5:=Tryz.isAgg5
 z5:=Tryz.sizeOf5
 v5:=Tryz.zeroValue5
 t9:=Tryz.underlying9
 a9:=Tryz.isAgg9
 z9:=Tryz.sizeOf9
 v9:=Tryz.zeroValue9
 t20:=Tryz.underlying20
 a20:=Tryz.isAgg20
 z20:=Tryz.sizeOf20
 v20:=Tryz.zeroValue20
 t21:=Tryz.underlying21
 a21:=Tryz.isAgg21
 z21:=Tryz.sizeOf21
 v21:=Tryz.zeroValue21
 t37:=Tryz.underlying53
 a37:=Tryz.isAgg53
 z37:=Tryz.sizeOf53
 v37:=Tryz.zeroValue53
 t46:=Tryz.underlying199
 a46:=Tryz.isAgg199
 z46:=Tryz.sizeOf199
 v46:=Tryz.zeroValue199
 t51:=Tryz.underlying170
 a51:=Tryz.isAgg170
 z51:=Tryz.sizeOf170
 v51:=Tryz.zeroValue170
 t53:=Tryz.underlying188
 a53:=Tryz.isAgg188
 z53:=Tryz.sizeOf188
 v53:=Tryz.zeroValue188
 t75:=Tryz.underlying62
 a75:=Tryz.isAgg62
 z75:=Tryz.sizeOf62
 v75:=Tryz.zeroValue62
 t76:=Tryz.underlying63
 a76:=Tryz.isAgg63
 z76:=Tryz.sizeOf63
 v76:=Tryz.zeroValue63
 t85:=Tryz.underlying219
 a85:=Tryz.isAgg219
 z85:=Tryz.sizeOf219
 v85:=Tryz.zeroValue219
 t127:=Tryz.underlying95
 a127:=Tryz.isAgg95
 z127:=Tryz.sizeOf95
 v127:=Tryz.zeroValue95
 t143:=Tryz.underlying257
 a143:=Tryz.isAgg257
 z143:=Tryz.sizeOf257
 v143:=Tryz.zeroValue257
 t145:=Tryz.underlying259
 a145:=Tryz.isAgg259
 z145:=Tryz.sizeOf259
 v145:=Tryz.zeroValue259
 t167:=Tryz.underlying218
 a167:=Tryz.isAgg218
 z167:=Tryz.sizeOf218
 v167:=Tryz.zeroValue218
 t168:=Tryz.underlying221
 a168:=Tryz.isAgg221
 z168:=Tryz.sizeOf221
 v168:=Tryz.zeroValue221
 t171:=Tryz.underlying187
 a171:=Tryz.isAgg187
 z171:=Tryz.sizeOf187
 v171:=Tryz.zeroValue187
 t173:=Tryz.underlying191
 a173:=Tryz.isAgg191
 z173:=Tryz.sizeOf191
 v173:=Tryz.zeroValue191
 t175:=Tryz.underlying240
 a175:=Tryz.isAgg240
 z175:=Tryz.sizeOf240
 v175:=Tryz.zeroValue240
 t210:=Tryz.underlying243
 a210:=Tryz.isAgg243
 z210:=Tryz.sizeOf243
 v210:=Tryz.zeroValue243
 t212:=Tryz.underlying197
 a212:=Tryz.isAgg197
 z212:=Tryz.sizeOf197
 v212:=Tryz.zeroValue197
 t213:=Tryz.underlying198
 a213:=Tryz.isAgg198
 z213:=Tryz.sizeOf198
 t232:=Tryz.underlying238
 a232:=Tryz.isAgg238
 z232:=Tryz.sizeOf238
 v232:=Tryz.zeroValue238
 t233:=Tryz.underlying239
 a233:=Tryz.isAgg239
 z233:=Tryz.sizeOf239
 v233:=Tryz.zeroValue239
 g15:=by kernel_rfl
 g16:=by kernel_rfl
 g17:=by kernel_rfl
 g18:=by kernel_rfl
 g19:=by kernel_rfl
 t80:=Tryz.underlying65
 a80:=Tryz.isAgg65
 z80:=Tryz.sizeOf65
 v80:=Tryz.zeroValue65
 i0:=by kernel_rfl
 i2:=by kernel_rfl
 i3:=by kernel_rfl
 i4:=by kernel_rfl
 i5:=by kernel_rfl
 i9:=by kernel_rfl
 i20:=by kernel_rfl
 i21:=by kernel_rfl
 i37:=by kernel_rfl
 i46:=by kernel_rfl
 i51:=by kernel_rfl
 i53:=by kernel_rfl
 i75:=by kernel_rfl
 i76:=by kernel_rfl
 i80:=by kernel_rfl
 i85:=by kernel_rfl
 i127:=by kernel_rfl
 i143:=by kernel_rfl
 i145:=by kernel_rfl
 i167:=by kernel_rfl
 i168:=by kernel_rfl
 i171:=by kernel_rfl
 i173:=by kernel_rfl
 i175:=by kernel_rfl
 i210:=by kernel_rfl
 i212:=by kernel_rfl
 i232:=by kernel_rfl
 i233:=by kernel_rfl
 m15:=by kernel_rfl
 m16:=by kernel_rfl
 m17:=by kernel_rfl
 m18:=by kernel_rfl
 m19:=by kernel_rfl
 c0:=by kernel_rfl
 c2:=by kernel_rfl
 c3:=by kernel_rfl
 c4:=by kernel_rfl
 c5:=by kernel_rfl
 c9:=by kernel_rfl
 c20:=by kernel_rfl
 c21:=by kernel_rfl
 c37:=by kernel_rfl
 c46:=by kernel_rfl
 c51:=by kernel_rfl
 c53:=by kernel_rfl
 c75:=by kernel_rfl
 c76:=by kernel_rfl
 c80:=by kernel_rfl
 c85:=by kernel_rfl
 c127:=by kernel_rfl
 c143:=by kernel_rfl
 c145:=by kernel_rfl
 c167:=by kernel_rfl
 c168:=by kernel_rfl
 c171:=by kernel_rfl
 c173:=by kernel_rfl
 c175:=by kernel_rfl
 c210:=by kernel_rfl
 c212:=by kernel_rfl
 c213:=by kernel_rfl
 c232:=by kernel_rfl
 c233:=by kernel_rfl}
open Go.RowKit in
theorem Tryz.strconv_Atoi_ok (s:ByteArray)(hmax:s.size<=9223372036854775806)(v:Int)(h:Lib.atoiAll s.data.toList=.ok v)(w:World) :
  Calls Tryz.prog 221 #[.string s] w fun e w'=>e=.returned (.tuple #[.int .i64 v,.nilIface])/\(w'=w ∨ ∃t,w'=Lib.bytesWorld w 5 t):=Any.strconv_Atoi_ok Tryz.laysC172 s hmax v h w
end Go.Proofs
namespace Go.Vm
open Go
variable {b:Nat}
variable {ρ ρ':Rho} {lab lab':Lab} {w w':World} {H:Hp}
theorem Rel.carry (hF:∀b o x,a7v lab w b o x->a7v lab' w' b o x){v:V}{x:Value}(h:Rel ρ lab w v x):Rel ρ lab' w' v x:=by
 induction h with
 | undef x=>exact .undef x
 | bool b=>exact .bool b
 | int k n=>exact .int k n
 | str s=>exact .str s
 | nilptr=>exact .nilptr
 | ptr r off b o c h=>exact .ptr r off b o c h
 | cptr cells xs b o hl hc _ hnf ih=>exact .cptr cells xs b o hl zGr ih hnf
 | slice ow n cells xs b o ao cap hl hn hb hz hc _ how h1 hnf ih=>exact .slice ow n cells xs b o ao cap hl hn hb hz zGr ih how h1 hnf
 | rslice r off n wh base g ao cap h1 h2 h3 h4 h5=>exact .rslice r off n wh base g ao cap h1 h2 h3 h4 h5
 | func fn a c xs ys h1 h2 _ _ ih1 ih2=>exact .func fn a c xs ys h1 h2 ih1 ih2
 | nilFunc=>exact .nilFunc
 | iface t v x _ ih=>exact .iface t v x ih
 | nilIface=>exact .nilIface
 | opq m=>exact .opq m
 | map r b c h=>exact .map r b c h
 | agg cells xs h1 _ ih=>exact .agg cells xs h1 ih
 | tuple cells xs h1 _ ih=>exact .tuple cells xs h1 ih
theorem L6.carry (hF:∀b o x,a7v lab w b o x->a7v lab' w' b o x){v:List V}{x:List Value}(h:L6 ρ lab w v x):L6 ρ lab' w' v x :=
 ⟨h.1,fun i v x hv hx=>(h.2 i v x hv hx).carry hF⟩
theorem Sim.relab (hkp:Kp lab' w')(hS:Sim ρ lab H w)(hF:∀b o x,a7v lab w b o x->a7v lab' w' b o x)(hO:∀b o k,a4X lab w k b o->a4X lab' w' k b o/\cellAt w' b o=cellAt w b o)
  (hM:∀b k ms c,a8E lab w k b ms c->a8E lab' w' k b ms c)
  (hl:∀b o k,lab' b o=some k->b<w'.heap.size):Sim ρ lab' H w' where
 kp:=hkp
 row:=fun k cs hk=>by
  obtain⟨b,o,xs,h1,h2,h3⟩:=hS.row k cs hk;exact⟨b,o,xs,h1,h2.carry hF,fun i x hx=>⟨(hO _ _ _ (h3 i x hx).1).1,(hO _ _ _ (h3 i x hx).1).2.trans (h3 i x hx).2⟩⟩
 grow:=fun k e cs hk=>by
  obtain⟨base,c,xs,h1,h2,h3,h4,h8,h9,h5⟩:=hS.grow k e cs hk;refine⟨base,c,xs,h1,h2.carry hF,h3,h4,h8,h9,fun b o hb=>?_⟩;obtain⟨h6,h7⟩:=h5 b o hb;refine⟨fun i hi=>(hO _ _ _ (h6 i hi)).1,fun i x hx=>?_⟩;have hi:i<c*e:=by
   have:i<xs.length:=by
    grind
   rw[h2.1]at this;omega
  grind
 tip:=fun k e n hk=>by
  obtain⟨ao,cap,h1,h2,h3,h4,h5⟩:=hS.tip k e n hk;grind
 mp:=fun k es hk=>by
  obtain⟨b,ms,c,h1,h2,h3⟩:=hS.mp k es hk;exact⟨b,ms,c,h1,⟨h2.1,fun i e m he hm=>have q:=h2.2 i e m he hm;⟨⟨q.1.1.carry hF,q.1.2.carry hF⟩,q.2⟩⟩,hM _ _ _ _ h3⟩
 hdom:=hS.hdom
 adom:=hS.adom
 ldom:=hl
def Lab.mine (lab:Lab)(B:Nat):Lab:=fun b o=>if b=B then some none else lab b o
def Lab.left (lab:Lab)(B:Nat):Lab:=fun b o=>if b=B then none else lab b o
theorem mineF (hg:a15 w w'):∀b o x,a7v lab w b o x->a7v (lab.mine w.heap.size) w' b o x:=fun b o x h=>by
 have hb:=a1K h.cell;refine⟨?_,(hg.cell hb o).trans h.cell⟩;simp only[Lab.mine];rw[if_neg zOm];exact h.lab
theorem Sim.mine (hS:Sim ρ lab H w)(hg:a15 w w')(hB:w.heap.size<w'.heap.size):Sim ρ (lab.mine w.heap.size) H w':=by
 refine Sim.relab ⟨(hS.kp.ext (hg.ext lab)).1,fun p hp o k h=>by
  simp only[Lab.mine]at h;rw[if_neg zGr]at h;exact hS.kp.2 p hp o k h⟩ hS (mineF hg) (fun b o k h=>?_) (fun b k ms c h=>⟨fun o=>by
  have hb:=h.lt;simp only[Lab.mine];rw[if_neg zOm];exact h.lab o,(hg.blk b h.lt).trans h.blk⟩) (fun b o k h=>?_)
 ·obtain⟨x,hx⟩:=h.cell;have hb:=a1K hx;refine⟨⟨?_,(hg.frozen hb o).trans h.free,x,(hg.cell hb o).trans hx⟩,hg.cell hb o⟩;simp only[Lab.mine];rw[if_neg zOm];exact h.lab
 simp only[Lab.mine]at h;split at h
 ·omega
 exact Nat.lt_of_lt_of_le (hS.ldom b o k h) hg.size
section
variable {w1 w2 w3:World} {B:Nat}
theorem b3Z (E:Ext (lab.mine B) w1 lab' w2)(hB:B<w1.heap.size)(o:Nat):cellAt w2 B o=cellAt w1 B o/\w2.frozen? ⟨B,o,none⟩=w1.frozen? ⟨B,o,none⟩ :=
 E.cl B o hB (fun k=>by simp[Lab.mine])
structure Wrote (B:Nat)(w w':World):Prop where
 size:w.heap.size<=w'.heap.size
 os:w'.os=w.os
 tape:w'.tape=w.tape
 output:w'.output=w.output
 blk:∀b,b<w.heap.size->b≠B->w'.heap[b]? = w.heap[b]?
theorem Wrote.cell (h:Wrote B w w')(hb:b<w.heap.size)(hn:b≠B)(o:Nat):cellAt w' b o=cellAt w b o:=by simp only[cellAt,World.cell?,h.blk b hb hn]
theorem Wrote.frozen (h:Wrote B w w')(hb:b<w.heap.size)(hn:b≠B)(o:Nat):w'.frozen? ⟨b,o,none⟩=w.frozen? ⟨b,o,none⟩:=by simp only[World.frozen?,h.blk b hb hn]
theorem Wrote.refl (B:Nat)(w:World):Wrote B w w:=⟨Nat.le_refl _,rfl,rfl,rfl,fun _ _ _=>rfl⟩
theorem leftF (E:Ext (lab.mine B) w1 lab' w2)(hw:Wrote B w2 w3):∀b o x,a7v lab' w2 b o x->a7v (lab'.left B) w3 b o x:=fun b o x h=>by
 have hb:=a1K h.cell;have hn:b≠B:=by
  rintro rfl;have:=(E.ctx b o).2 (by simp[Lab.mine]);rw[h.lab]at this;grind
 refine⟨?_,(hw.cell hb hn o).trans h.cell⟩;simp only[Lab.left];rw[if_neg hn];exact h.lab
theorem Sim.left (hBk:∀p∈kpL,p.1<B)(hS:Sim ρ' lab' H w2)(E:Ext (lab.mine B) w1 lab' w2)(hw:Wrote B w2 w3):Sim ρ' (lab'.left B) H w3:=by
 refine Sim.relab ⟨fun p hp=>⟨Nat.lt_of_lt_of_le (hS.kp.1 p hp).1 hw.size,by rw[hw.blk p.1 (hS.kp.1 p hp).1 zGr];exact(hS.kp.1 p hp).2⟩,fun p hp o k h=>by
  simp only[Lab.left]at h;rw[if_neg zGr]at h;exact hS.kp.2 p hp o k h⟩ hS (leftF E hw) (fun b o k h=>?_) (fun b k ms c h=>by
  have hn:b≠B:=by
   rintro rfl;have:=(E.ctx b 0).2 (by simp[Lab.mine]);rw[h.lab]at this;grind
  exact⟨fun o=>by
   simp only[Lab.left];rw[if_neg hn];exact h.lab o,(hw.blk b h.lt hn).trans h.blk⟩) (fun b o k h=>?_)
 ·obtain⟨x,hx⟩:=h.cell;have hb:=a1K hx;have hn:b≠B:=by
   rintro rfl;have:=(E.ctx b o).2 (by simp[Lab.mine]);rw[h.lab]at this;grind
  refine⟨⟨?_,(hw.frozen hb hn o).trans h.free,x,(hw.cell hb hn o).trans hx⟩,hw.cell hb hn o⟩;simp only[Lab.left];rw[if_neg hn];exact h.lab
 simp only[Lab.left]at h;split at h
 ·cases h
 exact Nat.lt_of_lt_of_le (hS.ldom b o k h) hw.size
theorem Ext.left (hS:Sim ρ lab H w)(hg:a15 w w1)(hB:w.heap.size<w1.heap.size)(E:Ext (lab.mine w.heap.size) w1 lab' w2)(hw:Wrote w.heap.size w2 w3):Ext lab w (lab'.left w.heap.size) w3 where
 size:=Nat.le_trans hg.size (Nat.le_trans E.size hw.size)
 os:=hw.os.trans (E.os.trans hg.os)
 tape:=hw.tape.trans (E.tape.trans hg.tape)
 output:=hw.output.trans (E.output.trans hg.output)
 lb:=fun b o hb hl=>by
  simp only[Lab.left];rw[if_neg zOm];exact E.lb b o zOm (by simp only[Lab.mine];grind)
 ctx:=fun b o=>by
  by_cases hb:b=w.heap.size
  ·subst hb;have h1:(lab'.left w.heap.size) w.heap.size o=none:=by simp[Lab.left]
   rw[h1];constructor
   ·grind
   intro h;have:=hS.ldom _ _ _ h;omega
  have:=E.ctx b o;simp only[Lab.left,Lab.mine,if_neg hb]at this ⊢;grind
 cl:=fun b o hb hl=>by
  have hb1:=Nat.lt_of_lt_of_le hb hg.size;have h1:=E.cl b o hb1 (fun k=>by simp only[Lab.mine];grind);have hb2:=Nat.lt_of_lt_of_le hb1 E.size;exact⟨(hw.cell hb2 zOm o).trans (h1.1.trans (hg.cell hb o)),(hw.frozen hb2 zOm o).trans (h1.2.trans (hg.frozen hb o))⟩
 blk:=fun b hb hl=>by
  have hb1:=Nat.lt_of_lt_of_le hb hg.size;have h1:=E.blk b hb1 (fun o k=>by simp only[Lab.mine];grind);have hb2:=Nat.lt_of_lt_of_le hb1 E.size;exact(hw.blk b hb2 zOm).trans (h1.trans (hg.blk b hb))
end
def b2z:Hp->Hp | []=>[] |(k,.row cs)::r=>(k,.row (cs.map b5T))::b2z r |(k,o)::r=>(k,o)::b2z r
def sealO:Obj->Obj | .row cs=>.row (cs.map b5T)|o=>o
theorem b4W (k:Nat)(o:Obj)(r:Hp):b2z ((k,o)::r) =(k,sealO o)::b2z r:=by cases o<;>rfl
theorem b1Q (j:Nat):∀H:Hp,hget j (b2z H) =(hget j H).map sealO
 | []=>rfl
 |(k,o)::r=>by
  rw[b4W];simp only[hget];cases Nat.beq k j with
  | true=>rfl
  | false=>exact b1Q j r
theorem b2r:∀H:Hp,(b2z H).length=H.length
 | []=>rfl
 |(k,o)::r=>by rw[b4W];simp only[List.length_cons,b2r r]
theorem b6Y:∀(n:Nat) (H:Hp),Canon n H->Canon n (b2z H)
 | _,[],_=>trivial
 | n,(k,o)::r,h=>by
  rw[b4W];exact⟨h.1,b6Y (n+1) r h.2⟩
theorem Sim.b2z (hS:Sim ρ lab H w):Sim ρ lab (Vm.b2z H) w:=by
 have hg:∀{j o},hget j (Vm.b2z H)=some o -> ∃o',hget j H=some o'/\o=sealO o':=fun{j o} h=>by
  rw[b1Q]at h;cases hq:hget j H with
  | none=>grind
  | some o'=>grind
 refine Sim.mk' hS.kp (fun j o hj=>?_) (fun j n x h=>?_) (fun j x h=>?_) hS.ldom
 ·obtain⟨o',h1,rfl⟩:=hg hj;cases o' with
  | row cs =>
   obtain⟨b,o,xs,g1,g2,g3⟩:=hS.row j cs h1;exact⟨b,o,xs,g1,g2.a9q,g3⟩
  | grow e cs=>exact hS.grow j e cs h1
  | tip e n=>exact hS.tip j e n h1
  | mp es=>exact hS.mp j es h1
  | gone=>trivial
 ·obtain⟨e,m,h1,h2⟩:=hS.hdom j n x h;exact⟨e,m,by rw[b1Q,h1];rfl,h2⟩
 have:=hS.adom j x h;rw[b1Q];simp_all
theorem E_via {env:Env}{g g':Nat}{args l:List V}{H H':Hp}{o out:Out}{pre:List V->Hp->Option (Nat×List V×Hp)}{post:List V->Hp->Out->Option Out}(hi:env.intr g=some (.via pre post))(hp:pre args H=some (g',l,H'))
  (hc:E env (.call g' l) H'=some o) (ho:post args H o=some out):E env (.call g args) H=some out :=
 c5c (by simp only[step,hi,hp,hc,ho])
end Go.Vm
namespace Go.Proofs.YtimgnjbjbdgmaaaGreatDoor
open Go Go.Vm
def strsOf:List V->Option (List (List UInt8))
 | []=>some []
 | .str s::r=>match strsOf r with
  | some l=>some (s::l)
  | none=>none
 | _=>none
def b4w:List V->Hp->Option Out:=fun args H=>match args with
 | [.slice _ n cs,.str sep]=>match strsOf cs with
  | some l=>gd (eqN l.length n&&leN n 140737488355328&&leN (Lib.join l sep).length 140737488355328) (some (.ret (.str (Lib.join l sep)) H))
  | none=>none
 | _=>none
theorem b9y:∀{cs:List V} {l:List (List UInt8)},strsOf cs=some l->cs=l.map .str
 | [],l,h=>by cases h;rfl
 | c::r,l,h=>by
  cases c with
  | str s =>
   simp only[strsOf]at h;split at h
   ·rename_i l' hl;cases h;rw[b9y hl];rfl
   cases h
  | _=>cases h
theorem a9X {w w':World}(h:RowKit.Below w.heap.size w w'):a15 w w':=⟨h.size,h.os,h.tape,h.output,fun b hb=>h.block b hb⟩
theorem b7E:a7G Tryz.prog 38 b4w:=by
 refine⟨fun args H out h ρ lab w xs hc hS hx=>?_,⟨_,_,Tryz.func38,rfl,rfl⟩⟩;unfold b4w at h;split at h
 ·rename_i ow n cs sep;split at h
  ·rename_i l hl;obtain⟨h1,h2⟩:=O3 h;cases h2;simp only[Bool.and_eq_true]at h1;obtain⟨⟨h1,h2⟩,h3⟩:=h1;have h1:=b3L h1;have h2:=a7j h2;have h3:=a7j h3;obtain⟨x1,r1,rfl,a1,a2⟩:=F8.1 hx;obtain⟨x2,r2,rfl,a3,a4⟩:=F8.1 a2;have:r2=[]:=by have:=a4.1;simpa using this
   subst this;cases a3;have hcs:=b9y hl;cases a1 with
   | slice _ _ _ xs b o ao cap g1 g2 g3 g4 g5 g6 g7 g8 g9 =>
   rcases Nat.eq_zero_or_pos n with h0|h0
   ·subst h0;have:l=[]:=List.length_eq_zero_iff.1 h1;subst this;refine(Tryz.strings_Join_none ao cap ⟨⟨sep⟩⟩ w).mono fun e w' ⟨he,hw⟩=>?_;subst he;subst hw;exact⟨ρ,lab,hS,Ext.refl _ _,⟨fun _ _ _ h=>h,fun _ _ _ _ h=>h⟩,.str _,hc,Nat.le_refl _⟩
   have hao:=g3 h0;subst hao;have hget:∀(j:Nat) (x:ByteArray),(l.map (fun s=>(⟨⟨s⟩⟩:ByteArray)))[j]? = some x->cellAt w b (o+j)=some (.string x):=by
    intro j x hj;rw[List.getElem?_map]at hj;cases hq:l[j]? with
    | none=>rw[hq]at hj;cases hj
    | some s =>
     rw[hq]at hj;cases hj;have hcj:cs[j]? = some (.str s):=by rw[hcs,List.getElem?_map,hq];rfl
     have hj2:j<xs.length:=by
      rw[g1];rcases Nat.lt_or_ge j cs.length with h|h
      ·exact h
      rw[List.getElem?_eq_none h]at hcj;cases hcj
     have hxj:xs[j]? = some xs[j]:=by simp[hj2]
     have hr:=g6 j _ _ hcj hxj;have hf:=(g5 j _ hxj).cell;generalize xs[j]=z at hr hf;cases hr;exact hf
   have hlen:(l.map (fun s=>(⟨⟨s⟩⟩:ByteArray))).length=n:=by rw[List.length_map];exact h1
   have hmap:(l.map (fun s=>(⟨⟨s⟩⟩:ByteArray))).map (·.data.toList)=l:=by rw[List.map_map];exact List.map_id l
   have hb:b<w.heap.size:=by
    have hj2:0<(l.map (fun s=>(⟨⟨s⟩⟩:ByteArray))).length:=zOm;exact a1K (hget 0 _ (List.getElem?_eq_getElem hj2))
   have K:=Tryz.strings_Join b o cap (l.map (fun s=>(⟨⟨s⟩⟩:ByteArray))) ⟨⟨sep⟩⟩ w hget hb zOm zOm (by rw[hmap];exact h3);rw[hlen,hmap]at K;refine K.mono fun e w' ⟨he,hw⟩=>?_;subst he;have G:=a9X hw;exact⟨ρ,lab,hS.grew G,G.ext lab,⟨fun _ _ _ h=>h,fun _ _ _ _ h=>h⟩,.str _,hc,Nat.le_refl _⟩
  cases h
 cases h
def a6w (s:List UInt8)(a:Nat):Nat:=s.foldl (fun a b=>a*10+(b.toNat-48)) a
def b6g (s:List UInt8):Bool:=s.all (fun b=>Nat.ble 48 b.toNat&&Nat.ble b.toNat 57)
def b4K (s:List UInt8):Bool:=b6g s&&(!s.isEmpty&&(Nat.ble s.length 19&&Nat.ble (a6w s 0) 9223372036854775807))
def c2R:List V->Hp->Option Out:=fun args H=>match args with
 | [.str s]=>match b4K s with
  | true=>some (.ret (.tuple [.int .i64 (a6w s 0:Nat),.nilIface]) H)
  | false=>none
 | _=>none
theorem a7O (b:UInt8)(r:List UInt8)(a:Nat):a6w (b::r) a=a6w r (a*10+(b.toNat-48)):=by simp only[a6w,List.foldl_cons]
theorem b07 {b:UInt8}{r:List UInt8}(h:b6g (b::r)=true):48<=b.toNat/\b.toNat<=57/\b6g r=true:=by
 simp only[b6g,List.all_cons,Bool.and_eq_true,Nat.ble_eq]at h;exact⟨h.1.1,h.1.2,h.2⟩
theorem c1k:∀(l:List UInt8) (x:Nat),x<=a6w l x
 | [],x=>Nat.le_refl _
 | b::r,x=>by rw[a7O];have:=c1k r (x*10+(b.toNat-48));omega
theorem c3V:∀(l:List UInt8) (x:Nat),b6g l=true->a6w l x<=9223372036854775807->Lib.parseUint10 x l=.ok (a6w l x)
 | [],x,h1,h2=>rfl
 | b::r,x,h1,h2=>by
  obtain⟨h3,h4,h5⟩:=b07 h1;rw[a7O]at h2;have:=c1k r (x*10+(b.toNat-48));rw[Lib.parseUint10,if_pos ⟨h3,h4⟩,if_neg zOm,if_neg zOm,a7O];exact c3V r _ h5 h2
theorem atoi_all {s:List UInt8}(h:b4K s=true):Lib.atoiAll s=.ok (a6w s 0:Nat):=by
 simp only[b4K,Bool.and_eq_true,Nat.ble_eq]at h;obtain⟨h1,h2,h3,h4⟩:=h;cases s with
 | nil=>cases h2
 | cons b r =>
  obtain⟨h5,h6,h7⟩:=b07 h1;have h8:¬(b.toNat=43∨b.toNat=45):=zOm;have h9:¬b.toNat=45:=zOm;unfold Lib.atoiAll;simp only[if_neg h8,Lib.parseMag];rw[if_neg zSi,c3V _ _ h1 h4];simp only[h9,not_false_eq_true,true_and,false_and,if_false];rw[if_neg zOm]
theorem b9X:a7G Tryz.prog 221 c2R:=by
 refine⟨fun args H out h ρ lab w xs hc hS hx=>?_,⟨_,_,Tryz.func221,rfl,rfl⟩⟩;unfold c2R at h;split at h
 ·rename_i s;split at h
  ·rename_i hb;cases h;have hb2:=hb;simp only[b4K,Bool.and_eq_true,Nat.ble_eq]at hb2;obtain⟨x1,r1,rfl,a1,a2⟩:=F8.1 hx;have:r1=[]:=by have:=a2.1;simpa using this
   subst this;cases a1;refine(Tryz.strconv_Atoi_ok ⟨⟨s⟩⟩ (by show s.length<=_;omega) _ (atoi_all hb) w).mono fun e w' ⟨he,hw⟩=>?_;subst he;have hg:a15 w w':=by
    rcases hw with rfl |⟨t,rfl⟩
    ·exact a9X (RowKit.Below.refl _ _)
    exact a9X (Lib.bytesWorld_below w _ t)
   have hr:Rel ρ lab w' (.tuple [.int .i64 (a6w s 0:Nat),.nilIface]) (.tuple #[.int .i64 (a6w s 0:Nat),.nilIface]):=by
    refine .tuple [.int .i64 (a6w s 0:Nat),.nilIface] [.int .i64 (a6w s 0:Nat),.nilIface] rfl fun i v x h1 h2=>?_;match i,h1,h2 with
    | 0,h1,h2=>cases h1;cases h2;exact .int _ _
    | 1,h1,h2=>cases h1;cases h2;exact .nilIface
    | i+2,h1,h2=>cases h1
   exact⟨ρ,lab,hS.grew hg,hg.ext lab,⟨fun _ _ _ h=>h,fun _ _ _ _ h=>h⟩,hr,hc,Nat.le_refl _⟩
  cases h
 cases h
end Go.Proofs.YtimgnjbjbdgmaaaGreatDoor
namespace Go.Proofs.YtimgnjbjbdgmaaaGreatDoor.Sc
open Go Go.Vm
variable {s w:List UInt8} {x y:MS}
def IntW (w:List UInt8):Prop:=w ≠ []/\(∀b∈w,O5 b=true) /\ ∃c,a0q w c=false
theorem c7U (p:UInt8->Bool):∀l:List UInt8,l.take (l.takeWhile p).length=l.takeWhile p
 | []=>rfl
 | b::r=>by
  rw[List.takeWhile_cons];cases p b
  ·rfl
  simp[c7U p r]
theorem run_text {p:UInt8->Bool}{i:Nat}:(s.take (Z7 p s i)).drop i =(s.drop i).takeWhile p:=by
 rw[List.drop_take,Z7,Nat.add_sub_cancel_left,c7U]
theorem tw_all {p:UInt8->Bool}:∀{l:List UInt8} {b:UInt8},b∈l.takeWhile p->p b=true
 | c::r,b,h=>by
  rw[List.takeWhile_cons]at h;cases hc:p c
  ·rw[hc]at h;cases h
  rw[hc]at h;rcases List.mem_cons.1 h with rfl|h
  ·exact hc
  exact tw_all h
theorem c3G {toks:List Tok}{st:List (Nat×Int)}{q j ins:Nat}{a b:Int}(ha:a≠3)(hb:b≠3)(h:a5Q toks st q j a b (part s q ins (j+1) [])=.go y) :
  ∃t:Tok,y.toks=toks++[t]/\(t.k=3->IntW t.t):=by
 cases hp:part s q ins (j+1) []with
 | err c a=>rw[hp]at h;cases h
 | fin t e =>
  rw[hp]at h;simp only[a5Q]at h;cases h;exact⟨_,rfl,fun h=>absurd h ha⟩
 | more t e =>
  rw[hp]at h;simp only[a5Q]at h;cases h;exact⟨_,rfl,fun h=>absurd h hb⟩
theorem kindB_ne (w:List UInt8):a6Q w≠3:=by
 unfold a6Q;split
 ·decide
 split<;>decide
theorem step_int (h:stepM s x=.go y):∃t:Tok,y.toks=x.toks++[t]/\(t.k=3->IntW t.t):=by
 obtain⟨i0,toks,st⟩:=x;obtain⟨i,h0⟩:∃i,a0K s i0=i:=⟨_,rfl⟩
 show ∃t:Tok,y.toks=toks++[t]/\_;rcases Nat.lt_or_ge i s.length with hi|hi
 ·cases hc:closes (s.getD i 0).toNat st with
  | true =>
   cases st with
   | nil=>cases hc
   | cons z st =>
    obtain⟨q,p⟩:=z;rw[(a7n h0 hi hc).2]at h;exact c3G zDe zDe (a7C h).2
  | false =>
   by_cases h1:(s.getD i 0).toNat=34
   ·rw[a8U h0 hi hc h1]at h;exact c3G zDe zDe (a7C h).2
   have hi1:i<=s.length:=by omega
   cases h2:O5 (s.getD i 0)with
   | true =>
    rw[a6r h0 hi hc h1 h2]at h;have hg:=a8B hi h2;have hl:=a7m (p:=O5) hi1;have h:=(a7C h).2;split at h
    ·cases h
    rename_i hbad;cases h;refine⟨_,rfl,fun _=>⟨?_,?_,_,hbad⟩⟩
    ·intro hnil;have:=congrArg List.length hnil;simp only[List.length_drop,List.length_take,List.length_nil]at this;omega
    intro b hb;have hb:b∈(s.take (Z7 O5 s i)).drop i:=hb;rw[run_text]at hb;exact tw_all hb
   | false =>
    cases h3:a1m (s.getD i 0)with
    | true =>
     rw[a6a h0 hi hc h1 h2 h3]at h;have h:=(a7C h).2;split at h
     ·cases h
     cases h;exact⟨_,rfl,fun h=>absurd h (kindB_ne _)⟩
    | false =>
     cases hw:a2J s i 2 with
     | nil=>rw[a8R h0 hi hc h1 h2 h3 hw]at h;cases h
     | cons b w =>
      rw[a6g h0 hi hc h1 h2 h3 hw zSi]at h;have h:=(a7C h).2;cases h;exact⟨_,rfl,fun h=>absurd h (show(8:Int)≠3 by decide)⟩
 cases st with
 | nil=>rw[a8S h0 hi]at h;cases h
 | cons z st=>obtain⟨q,p⟩:=z;rw[a8T h0 hi]at h;cases h
theorem c8I (h:Reach s x y):(∀t∈x.toks,t.k=3->IntW t.t) -> ∀t∈y.toks,t.k=3->IntW t.t:=by
 induction h with
 | refl x=>exact fun h=>h
 | step x y z h1 _ ih =>
  intro h2;obtain⟨t,g1,g2⟩:=step_int h1;refine ih fun u hu=>?_;rw[g1]at hu;rcases List.mem_append.1 hu with hu|hu
  ·exact h2 u hu
  rcases List.mem_singleton.1 hu with rfl;exact g2
theorem tok_int {l:List Tok}(h:a6T s=.done l):∀t∈l,t.k=3->IntW t.t:=by
 obtain⟨h1,_,_,h2⟩:=b0k s;have h3:=(h1.lay l h).1;obtain⟨y,g1,g2,_⟩:=h2 h3;rw[h]at g2;rw[<-(b9w g2).1];exact c8I g1 (fun t ht=>by cases ht)
theorem digs_of (h:∀b∈w,O5 b=true):b6g w=true:=by
 simp only[b6g,List.all_eq_true,Bool.and_eq_true,Nat.ble_eq];intro b hb;have:=h b hb;simpa [O5]using this
theorem c1l:∀(l:List UInt8) (x:Nat),b6g l=true->a6w l x<(x+1)*10^l.length
 | [],x,h=>by simp[a6w]
 | b::r,x,h=>by
  obtain⟨h1,h2,h3⟩:=b07 h;have:=c1l r (x*10+(b.toNat-48)) h3;rw[a7O,List.length_cons,Nat.pow_succ];refine Nat.lt_of_lt_of_le this ?_;rw[show(x+1)*(10^r.length*10) =(x*10+10)*10^r.length from by rw[Nat.mul_comm (10^r.length) 10,<-Nat.mul_assoc,Nat.add_mul]];exact Nat.mul_le_mul_right _ zOm
theorem c3c:∀(l:List UInt8) (x:Nat),x*10^l.length<=a6w l x
 | [],x=>by simp[a6w]
 | b::r,x=>by
  have:=c3c r (x*10+(b.toNat-48));rw[a7O,List.length_cons,Nat.pow_succ];refine Nat.le_trans ?_ this;rw[show x*(10^r.length*10) =(x*10)*10^r.length from by rw[Nat.mul_comm (10^r.length) 10,<-Nat.mul_assoc]];exact Nat.mul_le_mul_right _ zOm
theorem c7s:∀(a b:List UInt8),a.length=b.length->b6g a=true->b6g b=true->Op.bytesLess a b=true -> ∀x,a6w a x<=a6w b x
 | [],[],_,_,_,h,x=>by simp[Op.bytesLess]at h
 | [],b::y,h0,_,_,_,x=>by simp at h0
 | a::x',[],h0,_,_,_,x=>by simp at h0
 | a::u,b::v,h0,h1,h2,h3,x=>by
  obtain⟨a1,a2,a3⟩:=b07 h1;obtain⟨b1,b2,b3⟩:=b07 h2;have hl:u.length=v.length:=by simpa using h0
  simp only[Op.bytesLess,Bool.or_eq_true,Bool.and_eq_true,decide_eq_true_eq,beq_iff_eq]at h3;rw[a7O,a7O];rcases h3 with h3 |⟨h3,h4⟩
  ·have h3:a.toNat<b.toNat:=UInt8.lt_iff_toNat_lt.1 h3;have g1:=c1l u (x*10+(a.toNat-48)) a3;have g2:=c3c v (x*10+(b.toNat-48));rw[hl]at g1;have g3:(x*10+(a.toNat-48)+1)*10^v.length <=(x*10+(b.toNat-48))*10^v.length:=Nat.mul_le_mul_right _ zOm;omega
  subst h3;exact c7s u v hl a3 b3 h4 _
theorem int_digB (h:IntW w):b4K w=true:=by
 obtain⟨h1,h2,c,h3⟩:=h;have hd:=digs_of h2;unfold a0q at h3;simp only[Bool.or_eq_false_iff,Bool.and_eq_false_iff]at h3;obtain⟨⟨⟨_,h4⟩,h5⟩,_⟩:=h3;have h4:w.length<=19:=by simp[ltB]at h4;omega
 have hv:a6w w 0<=9223372036854775807:=by
  rcases Nat.lt_or_ge w.length 19 with h6|h6
  ·have g:=c1l w 0 hd;have g2:10^w.length<=10^18:=Nat.pow_le_pow_right zOm zOm;have g3:(10:Nat)^18=1000000000000000000:=zDe;omega
  have h7:w.length=19:=by omega
  rcases h5 with h5|h5
  ·simp[eqB,h7]at h5
  have hm:b6g a2N=true:=by decide
  have hmv:a6w a2N 0=9223372036854775807:=zDe;have h5:(ltS w a2N||eqS w a2N)=true:=by
   cases hq:(ltS w a2N||eqS w a2N)with
   | true=>rfl
   | false=>rw[hq]at h5;cases h5
  simp only[Bool.or_eq_true]at h5;rcases h5 with h5|h5
  ·unfold ltS at h5;have:=c7s w a2N (by rw[h7];rfl) hd hm h5 0;omega
  have:w=a2N:=by simpa [eqS]using h5
  rw[this];omega
 have hne:w.isEmpty=false:=by cases w with
  | nil=>exact absurd rfl h1
  | cons b r=>rfl
 simp only[b4K,hd,hne,Bool.not_false,Bool.true_and,Bool.and_eq_true,Nat.ble_eq];exact⟨h4,hv⟩
end Go.Proofs.YtimgnjbjbdgmaaaGreatDoor.Sc
