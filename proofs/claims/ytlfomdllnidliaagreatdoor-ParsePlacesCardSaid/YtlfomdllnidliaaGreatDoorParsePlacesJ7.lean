/- What the functions under ParsePlaces compute, step by step, as functions in Lean: texts that were built one by one, joined. -/
import Derived.Test.YtlfomdllnidliaaGreatDoorParsePlacesJ6
import Derived.Shelf.Strings.Builder1
import Derived.Shelf.Strings.OnBuilder
import Derived.Test.YtlfomdllnidliaaGreatDoorProg
import Derived.Shelf.LaysC
import Derived.Shelf.Strconv.AtoiAll
import Derived.KernelRfl
set_option maxRecDepth 100000
set_option maxHeartbeats 20000000
set_option linter.unusedSimpArgs false
set_option linter.unusedVariables false
set_option linter.unusedSectionVars false
namespace Go.Proofs.YtlfomdllnidliaaGreatDoor.Sc
open Go Go.Vm
def Lay (s:List UInt8):Nat -> List Tok -> Nat -> Prop
 | k,[],e=>k = e
 | k,t :: r,e=>t.a = a1C s k /\ t.a < s.length /\ 0 < t.l /\ t.a + t.l <= s.length /\ Lay s (t.a + t.l) r e
theorem Lay.add {s:List UInt8} {t:Tok}:∀ {l:List Tok} {k e:Nat},Lay s k l e -> t.a = a1C s e -> t.a < s.length -> 0 < t.l -> t.a + t.l <= s.length -> Lay s k (l ++ [t]) (t.a + t.l)
 | [],k,e,h,h1,h2,h3,h4=>by
  simp only [Lay] at h; subst h
  exact ⟨h1,h2,h3,h4,rfl⟩
 | u :: l,k,e,h,h1,h2,h3,h4=>⟨h.1,h.2.1,h.2.2.1,h.2.2.2.1,Lay.add h.2.2.2.2 h1 h2 h3 h4⟩
theorem a4W {toks:List Tok} {j:Nat} {r:MR} {y:MS} (h:roomy toks j r = .go y):toks.length < 3000 /\ r = .go y:=by
 unfold roomy at h
 split at h
 ·cases h
 ·rename_i h1
  simp only [decide_eq_false_iff_not] at h1
  exact ⟨by omega,h⟩
theorem lit_go {s:List UInt8} {toks:List Tok} {st:List (Nat × Int)} {q j ins:Nat} {a b:Int} {y:MS} (h:a3g toks st q j a b (part s q ins (j + 1) []) = .go y) :
  ∃ t:Tok,y.toks = toks ++ [t] /\ t.a = j /\ 0 < t.l /\ y.i = t.a + t.l /\ t.a + t.l <= s.length:=by
 have hok:=c0V s q ins (j + 1) []
 cases hp:part s q ins (j + 1) [] with
 | err c a=>rw [hp] at h; cases h
 | fin t e =>
  rw [hp] at h hok
  have h1:j + 1 < e:=hok.1
  have h2:e <= s.length:=hok.2
  simp only [a3g] at h
  cases h
  exact ⟨_,rfl,rfl,by show 0 < e - j; omega,by show e = j + (e - j); omega,by show j + (e - j) <= _; omega⟩
 | more t e =>
  rw [hp] at h hok
  have h1:j + 1 < e:=hok.1
  have h2:e <= s.length:=hok.2
  simp only [a3g] at h
  cases h
  exact ⟨_,rfl,rfl,by show 0 < e - j; omega,by show e = j + (e - j); omega,by show j + (e - j) <= _; omega⟩
theorem stepM_go {s:List UInt8} {x y:MS} (h:stepM s x = .go y):∃ t:Tok,y.toks = x.toks ++ [t] /\ t.a = a1C s x.i /\ t.a < s.length /\ 0 < t.l /\ y.i = t.a + t.l /\ t.a + t.l <= s.length:=by
 obtain ⟨i0,toks,st⟩:=x
 obtain ⟨i,h0⟩:∃ i,a1C s i0 = i:=⟨_,rfl⟩
 show ∃ t:Tok,y.toks = toks ++ [t] /\ t.a = a1C s i0 /\ _
 rw [h0]
 rcases Nat.lt_or_ge i s.length with hi | hi
 ·have fin:(∃ t:Tok,y.toks = toks ++ [t] /\ t.a = i /\ 0 < t.l /\ y.i = t.a + t.l /\ t.a + t.l <= s.length) -> ∃ t:Tok,y.toks = toks ++ [t] /\ t.a = i /\ t.a < s.length /\ 0 < t.l /\ y.i = t.a + t.l /\ t.a + t.l <= s.length:=by
   rintro ⟨t,h1,h2,h3,h4,h5⟩
   exact ⟨t,h1,h2,by omega,h3,h4,h5⟩
  apply fin
  cases hc:closes (s.getD i 0).toNat st with
  | true =>
   cases st with
   | nil=>cases hc
   | cons z st =>
    obtain ⟨q,p⟩:=z
    rw [(a6P h0 hi hc).2] at h
    exact lit_go (a4W h).2
  | false =>
   by_cases h1:(s.getD i 0).toNat = 34
   ·rw [a9p h0 hi hc h1] at h
    exact lit_go (a4W h).2
   ·have hi1:i <= s.length:=by omega
    cases h2:a0H (s.getD i 0) with
    | true =>
     rw [a5r h0 hi hc h1 h2] at h
     have hg:=b05 hi h2
     have hl:=a8g (p:=a0H) hi1
     have h:=(a4W h).2
     split at h
     ·cases h
     ·cases h; exact ⟨_,rfl,rfl,by show 0 < a1G a0H s i - i; omega,by show a1G a0H s i = i + (a1G a0H s i - i); omega,by show i + (a1G a0H s i - i) <= _; omega⟩
    | false =>
     cases h3:a3D (s.getD i 0) with
     | true =>
      rw [a4E h0 hi hc h1 h2 h3] at h
      have hg:=b05 (p:=a3y) hi (by simp only [a3y,h3,Bool.true_or])
      have hl:=a8g (p:=a3y) hi1
      have h:=(a4W h).2
      split at h
      ·cases h
      ·cases h; exact ⟨_,rfl,rfl,by show 0 < a1G a3y s i - i; omega,by show a1G a3y s i = i + (a1G a3y s i - i); omega,by show i + (a1G a3y s i - i) <= _; omega⟩
     | false =>
      cases hw:a5q s i 2 with
      | nil=>rw [a7x h0 hi hc h1 h2 h3 hw] at h; cases h
      | cons b w =>
       rw [a4v h0 hi hc h1 h2 h3 hw (by simp)] at h
       have hl:=b6Z 2 hi1
       rw [hw] at hl
       have h:=(a4W h).2
       cases h
       exact ⟨_,rfl,rfl,by show 0 < (b :: w).length; simp,rfl,by show i + (b :: w).length <= _; omega⟩
 ·cases st with
  | nil=>rw [a7y h0 hi] at h; cases h
  | cons z st=>obtain ⟨q,p⟩:=z; rw [a7z h0 hi] at h; cases h
theorem c1H {s:List UInt8} {x y:MS} (h:Reach s x y):x.i <= s.length -> Lay s 0 x.toks x.i -> y.i <= s.length /\ Lay s 0 y.toks y.i:=by
 induction h with
 | refl x=>exact fun h1 h2=>⟨h1,h2⟩
 | step x y z h1 _ ih =>
  intro h2 h3
  obtain ⟨t,g1,g2,g3,g4,g5,g6⟩:=stepM_go h1
  exact ih (by omega) (by rw [g1,g5]; exact h3.add g2 g3 g4 g6)
theorem a7t {toks l:List Tok} {j:Nat} {r:MR} (h:roomy toks j r = .done l):r = .done l:=by
 unfold roomy at h
 split at h
 ·cases h
 ·exact h
theorem b2r {toks l:List Tok} {st:List (Nat × Int)} {q j:Nat} {a b:Int} {r:PR} (h:a3g toks st q j a b r = .done l):False:=by
 cases r <;> cases h
theorem b5L {s:List UInt8} {x:MS} {l:List Tok} (h:stepM s x = .done l):x.toks = l /\ s.length <= a1C s x.i:=by
 obtain ⟨i0,toks,st⟩:=x
 obtain ⟨i,h0⟩:∃ i,a1C s i0 = i:=⟨_,rfl⟩
 show toks = l /\ s.length <= a1C s i0
 rw [h0]
 rcases Nat.lt_or_ge i s.length with hi | hi
 ·exfalso
  cases hc:closes (s.getD i 0).toNat st with
  | true =>
   cases st with
   | nil=>cases hc
   | cons z st =>
    obtain ⟨q,p⟩:=z
    rw [(a6P h0 hi hc).2] at h
    exact b2r (a7t h)
  | false =>
   by_cases h1:(s.getD i 0).toNat = 34
   ·rw [a9p h0 hi hc h1] at h
    exact b2r (a7t h)
   ·cases h2:a0H (s.getD i 0) with
    | true =>
     rw [a5r h0 hi hc h1 h2] at h
     have h:=a7t h
     split at h <;> cases h
    | false =>
     cases h3:a3D (s.getD i 0) with
     | true =>
      rw [a4E h0 hi hc h1 h2 h3] at h
      have h:=a7t h
      split at h <;> cases h
     | false =>
      cases hw:a5q s i 2 with
      | nil=>rw [a7x h0 hi hc h1 h2 h3 hw] at h; cases h
      | cons b w =>
       rw [a4v h0 hi hc h1 h2 h3 hw (by simp)] at h
       have h:=a7t h
       cases h
 ·cases st with
  | nil=>rw [a7y h0 hi] at h; cases h; exact ⟨rfl,hi⟩
  | cons z st=>obtain ⟨q,p⟩:=z; rw [a7z h0 hi] at h; cases h
theorem a9l {toks:List Tok} {j:Nat} {r:MR} {c:Int} {a:Nat} (h:roomy toks j r = .err c a):c = 2 ∨ r = .err c a:=by
 unfold roomy at h
 split at h
 ·cases h; exact .inl rfl
 ·exact .inr h
theorem c0M {s:List UInt8} {toks:List Tok} {st:List (Nat × Int)} {q j ins i:Nat} {a b:Int} {c:Int} {p:Nat} (h:a3g toks st q j a b (part s q ins i []) = .err c p):c ≠ 0:=by
 have hok:=c0V s q ins i []
 cases hp:part s q ins i [] with
 | err c' a'=>rw [hp] at h hok; cases h; rcases hok with rfl | rfl | rfl <;> decide
 | fin t e=>rw [hp] at h; cases h
 | more t e=>rw [hp] at h; cases h
theorem c1T {s:List UInt8} {x:MS} {c:Int} {p:Nat} (h:stepM s x = .err c p):c ≠ 0:=by
 obtain ⟨i0,toks,st⟩:=x
 obtain ⟨i,h0⟩:∃ i,a1C s i0 = i:=⟨_,rfl⟩
 rcases Nat.lt_or_ge i s.length with hi | hi
 ·cases hc:closes (s.getD i 0).toNat st with
  | true =>
   cases st with
   | nil=>cases hc
   | cons z st =>
    obtain ⟨q,p⟩:=z
    rw [(a6P h0 hi hc).2] at h
    rcases a9l h with rfl | h
    ·decide
    ·exact c0M h
  | false =>
   by_cases h1:(s.getD i 0).toNat = 34
   ·rw [a9p h0 hi hc h1] at h
    rcases a9l h with rfl | h
    ·decide
    ·exact c0M h
   ·cases h2:a0H (s.getD i 0) with
    | true =>
     rw [a5r h0 hi hc h1 h2] at h
     rcases a9l h with rfl | h
     ·decide
     ·split at h <;> cases h; decide
    | false =>
     cases h3:a3D (s.getD i 0) with
     | true =>
      rw [a4E h0 hi hc h1 h2 h3] at h
      rcases a9l h with rfl | h
      ·decide
      ·split at h <;> cases h; decide
     | false =>
      cases hw:a5q s i 2 with
      | nil=>rw [a7x h0 hi hc h1 h2 h3 hw] at h; cases h; decide
      | cons b w =>
       rw [a4v h0 hi hc h1 h2 h3 hw (by simp)] at h
       rcases a9l h with rfl | h
       ·decide
       ·cases h
 ·cases st with
  | nil=>rw [a7y h0 hi] at h; cases h
  | cons z st=>obtain ⟨q,p⟩:=z; rw [a7z h0 hi] at h; cases h; decide
structure TokOk (s:List UInt8) (r:MR):Prop where
 bd:RBd r
 nz:∀ c a,r = .err c a -> c ≠ 0
 lay:∀ l,r = .done l -> s.length <= 8000 /\ ∃ e,Lay s 0 l e /\ s.length <= a1C s e /\ e <= s.length
theorem ends_ok {s:List UInt8} (hs:s.length <= 8000) {r:MR} (h:Ends s ⟨0,[],[]⟩ r) (hr:RBd r):TokOk s r:=by
 obtain ⟨y,h1,h2,h3⟩:=h
 refine ⟨hr,fun c a e=>?_,fun l e=>?_⟩
 ·subst e; exact c1T h2
 ·subst e
  obtain ⟨h4,h5⟩:=b5L h2
  obtain ⟨h6,h7⟩:=c1H h1 (Nat.zero_le _) rfl
  rw [h4] at h7
  exact ⟨hs,y.i,h7,h5,h6⟩
theorem tokOne (s:List UInt8):∃ r,TokOk s r /\ E env (.call 7 [.str s]) [] = some (.ret (b5S r) []) /\ (s.length <= 8000 -> Ends s ⟨0,[],[]⟩ r):=by
 rcases Nat.lt_or_ge 8000 s.length with h | h
 ·exact ⟨.err 2 0,⟨trivial,fun c a e=>(by cases e; decide),fun l e=>(by cases e)⟩,c11big h,fun h1=>absurd h1 (by omega)⟩
 ·obtain ⟨r,h1,h2,h3⟩:=c11 h
  exact ⟨r,ends_ok h h1 h2,h3,fun _=>h1⟩
end Go.Proofs.YtlfomdllnidliaaGreatDoor.Sc
namespace Go.Vm
variable {ρ:Rho} {lab:Lab} {w:World} {H:Hp}
theorem b7j {env:Env} (hE:a7L env) {g:Nat} {args:List V} {v:V} (h:E env (.call g args) [] = some (.ret v [])) (ha:a1s (a11 a5y dep) (args.map a9m) = some args) (hv:a11 a5y dep v = some v)
  (hc:Canon 0 H) (hS:Sim ρ lab H w) {xs:List Value} (hx:M6 ρ lab w args xs):Calls env.P g xs.toArray w (a6Y ρ lab H w (.ret v H)):=by
 obtain ⟨k,hk⟩:=(a2N env).at_ _ _ _ h
 have q:a1N (run env k) g args H = some (.val v H):=by
  unfold a1N
  rw [ha]
  simp only
  rw [hk]
  simp only
  rw [hv]
 refine (b3K (b5D hE k).1 hS hx q).1.mono fun e w' he=>?_
 cases e with
 | returned x =>
  obtain ⟨ρ',lab',h1,h2,h3,h4⟩:=he
  exact ⟨ρ',lab',h1,h2,a2q.of_le h3 _,h4,hc,Nat.le_refl _⟩
 | panicked ch=>exact he.elim
 | outgrown=>exact he.elim
def valI (f:List V -> Option V):List V -> Hp -> Option Out:=fun args H=>match f args with
 | some v=>some (.ret v H)
 | none=>none
theorem c08 {env:Env} (hE:a7L env) {g:Nat} {f:List V -> Option V}
  (hf:∀ args v,f args = some v -> a1s (a11 a5y dep) (args.map a9m) = some args /\ a11 a5y dep v = some v /\ E env (.call g args) [] = some (.ret v []))
  (hk:∃ fn c,env.P.funcs[g]? = some fn /\ (fn.name == "runtime.NumGoroutine") = false /\ fn.body = some c):b1A env.P g (valI f):=by
 refine ⟨fun args H out h ρ lab w xs hc hS hx=>?_,hk⟩
 unfold valI at h
 split at h
 ·rename_i v hv
  cases h
  obtain ⟨h1,h2,h3⟩:=hf args v hv
  exact b7j hE h3 h1 h2 hc hS hx
 ·cases h
theorem b69 {env:Env} {g:Nat} {args:List V} {H:Hp} {out:Out} {h:List V -> Hp -> Option Out} (hi:env.intr g = some (.plain h)) (ho:h args H = some out):E env (.call g args) H = some out:=by
 refine (a2N env).le 1 _ _ _ ?_
 simp only [run,step,hi,ho]
end Go.Vm
namespace Go.Proofs.YtlfomdllnidliaaGreatDoor.Sc
open Go Go.Vm
noncomputable def a3f (s:List UInt8):MR:=(tokOne s).choose
theorem b0M (s:List UInt8):TokOk s (a3f s) /\ E env (.call 7 [.str s]) [] = some (.ret (b5S (a3f s)) []) /\ (s.length <= 8000 -> Ends s ⟨0,[],[]⟩ (a3f s)):=(tokOne s).choose_spec
theorem b4t (s:List UInt8):RBd (a3f s) /\ E env (.call 7 [.str s]) [] = some (.ret (b5S (a3f s)) []):=⟨(b0M s).1.bd,(b0M s).2.1⟩
noncomputable def tokF:List V -> Option V:=fun args=>match args with
 | [.str s]=>some (b5S (a3f s))
 | _=>none
theorem tokV_ren {r:MR} (h:RBd r):a11 a5y dep (b5S r) = some (b5S r):=by
 cases r with
 | go x=>exact h.elim
 | done l=>rfl
 | err c a=>rfl
theorem tok_intr:b1A Tryz.prog 7 (valI tokF):=by
 refine c08 b8k (fun args v h=>?_) ⟨_,_,Tryz.func7,by kernel_rfl,rfl⟩
 unfold tokF at h
 split at h
 ·rename_i s
  cases h
  exact ⟨rfl,tokV_ren (b4t s).1,(b4t s).2⟩
 ·cases h
end Go.Proofs.YtlfomdllnidliaaGreatDoor.Sc
namespace Go.Proofs
open Go.Shelf
def Tryz.b3A:Go.Shelf.Ren:=⟨fun | 169=>22 | n=>n,fun | 70=>61 | 9=>9 | 0=>0 | 72=>64 | 37=>62 | 127=>92 | 3=>3 | 5=>5 | n=>n,fun | n=>n⟩
theorem Tryz.lays169:Go.Proofs.Lays.n169 Tryz.prog Tryz.b3A:={
 mixed:=by kernel_rfl
 f169:=Tryz.func22.trans (congrArg some (by kernel_rfl))
 t0:=Tryz.underlying0
 a0:=Tryz.isAgg0
 z0:=Tryz.sizeOf0
 v0:=Tryz.zeroValue0
 t3:=Tryz.underlying3
 a3:=Tryz.isAgg3
 z3:=Tryz.sizeOf3
 v3:=Tryz.zeroValue3
 t9:=Tryz.underlying9
 a9:=Tryz.isAgg9
 z9:=Tryz.sizeOf9
 v9:=Tryz.zeroValue9
 t37:=Tryz.underlying62
 a37:=Tryz.isAgg62
 z37:=Tryz.sizeOf62
 v37:=Tryz.zeroValue62
 t70:=Tryz.underlying61
 a70:=Tryz.isAgg61
 z70:=Tryz.sizeOf61
 v70:=Tryz.zeroValue61
 t72:=Tryz.underlying64
 a72:=Tryz.isAgg64
 z72:=Tryz.sizeOf64
 v72:=Tryz.zeroValue64
 t127:=Tryz.underlying92
 a127:=Tryz.isAgg92
 z127:=Tryz.sizeOf92
 v127:=Tryz.zeroValue92 }
theorem Tryz.b2a:Builder.Extra Tryz.prog Tryz.b3A:={
 sizeBuilder:=by kernel_rfl
 liesBuilder:=by kernel_rfl
 t5:=Tryz.underlying5
 a5:=Tryz.isAgg5
 z5:=Tryz.sizeOf5
 v5:=Tryz.zeroValue5
 infoByte:=by kernel_rfl
 cellsByte:=by kernel_rfl
 sizeByte:=by kernel_rfl
 neB5:=by decide }
open Go.RowKit in
theorem Tryz.Builder_String_any (B b:Nat) (l:List UInt8) (w:World) (h:Lib.IsBuilder 64 5 B b (Lib.byteCells l) w) (hBw:B <= w.heap.size) :
  Calls Tryz.prog 22 #[.pointer (some ⟨b,0,none⟩)] w fun e w'=>e = .returned (.string ⟨l.toArray⟩) /\ Below B w w':=Any.Builder_String_any Tryz.lays169 Tryz.b2a B b l w h hBw
def Tryz.b3z:Go.Shelf.Ren:=⟨fun | 156=>56 | 165=>86 | 166=>19 | 169=>22 | 240=>55 | 241=>93 | 276=>85 | 277=>99 | n=>n,fun | 31=>66 | 9=>9 | 3=>3 | 4=>4 | 0=>0 | 20=>20 | 72=>64 | 76=>72 | 70=>61 | 37=>62 | 75=>71 | 127=>92 | 164=>109 | 5=>5 | 80=>74 | n=>n,fun | n=>n⟩
theorem Tryz.b7C:Go.Proofs.Lays.n156 Tryz.prog Tryz.b3z:={
 mixed:=by kernel_rfl
 f156:=Tryz.func56.trans (congrArg some (by kernel_rfl))
 f165:=Tryz.func86.trans (congrArg some (by kernel_rfl))
 f166:=Tryz.func19.trans (congrArg some (by kernel_rfl))
 f169:=Tryz.func22.trans (congrArg some (by kernel_rfl))
 f240:=Tryz.func55.trans (congrArg some (by kernel_rfl))
 f241:=Tryz.func93.trans (congrArg some (by kernel_rfl))
 f276:=Tryz.func85.trans (congrArg some (by kernel_rfl))
 f277:=Tryz.func99.trans (congrArg some (by kernel_rfl))
 t0:=Tryz.underlying0
 a0:=Tryz.isAgg0
 z0:=Tryz.sizeOf0
 v0:=Tryz.zeroValue0
 t3:=Tryz.underlying3
 a3:=Tryz.isAgg3
 z3:=Tryz.sizeOf3
 v3:=Tryz.zeroValue3
 t4:=Tryz.underlying4
 a4:=Tryz.isAgg4
 z4:=Tryz.sizeOf4
 v4:=Tryz.zeroValue4
 t9:=Tryz.underlying9
 a9:=Tryz.isAgg9
 z9:=Tryz.sizeOf9
 v9:=Tryz.zeroValue9
 t20:=Tryz.underlying20
 a20:=Tryz.isAgg20
 z20:=Tryz.sizeOf20
 v20:=Tryz.zeroValue20
 t31:=Tryz.underlying66
 a31:=Tryz.isAgg66
 z31:=Tryz.sizeOf66
 v31:=Tryz.zeroValue66
 t37:=Tryz.underlying62
 a37:=Tryz.isAgg62
 z37:=Tryz.sizeOf62
 v37:=Tryz.zeroValue62
 t70:=Tryz.underlying61
 a70:=Tryz.isAgg61
 z70:=Tryz.sizeOf61
 v70:=Tryz.zeroValue61
 t72:=Tryz.underlying64
 a72:=Tryz.isAgg64
 z72:=Tryz.sizeOf64
 v72:=Tryz.zeroValue64
 t75:=Tryz.underlying71
 a75:=Tryz.isAgg71
 z75:=Tryz.sizeOf71
 v75:=Tryz.zeroValue71
 t76:=Tryz.underlying72
 a76:=Tryz.isAgg72
 z76:=Tryz.sizeOf72
 v76:=Tryz.zeroValue72
 t127:=Tryz.underlying92
 a127:=Tryz.isAgg92
 z127:=Tryz.sizeOf92
 v127:=Tryz.zeroValue92
 t164:=Tryz.underlying109
 a164:=Tryz.isAgg109
 z164:=Tryz.sizeOf109
 v164:=Tryz.zeroValue109 }
theorem Tryz.a5u:Builder.Extra Tryz.prog Tryz.b3z:={
 sizeBuilder:=by kernel_rfl
 liesBuilder:=by kernel_rfl
 t5:=Tryz.underlying5
 a5:=Tryz.isAgg5
 z5:=Tryz.sizeOf5
 v5:=Tryz.zeroValue5
 infoByte:=by kernel_rfl
 cellsByte:=by kernel_rfl
 sizeByte:=by kernel_rfl
 neB5:=by decide }
open Go.RowKit in
theorem Tryz.strings_Join_none (a:Option Addr) (c:Nat) (sep:ByteArray) (w:World) :
  Calls Tryz.prog 56 #[.slice a 0 c,.string sep] w fun e w'=>e = .returned (.string ⟨#[]⟩) /\ w' = w:=Any.strings_Join_none Tryz.b7C Tryz.a5u a c sep w
open Go.RowKit in
theorem Tryz.strings_Join (bk o c:Nat) (xs:List ByteArray) (sep:ByteArray) (w:World) (hcells:∀ (j:Nat) x,xs[j]? = some x -> w.cell? ⟨bk,o + j,none⟩ = some (.string x)) (hbk:bk < w.heap.size) (hN:xs.length <= 140737488355328) (hcap:xs.length <= c) (hlen:(Lib.join (xs.map (·.data.toList)) sep.data.toList).length <= 140737488355328) :
  Calls Tryz.prog 56 #[.slice (some ⟨bk,o,none⟩) xs.length c,.string sep] w fun e w'=>e = .returned (.string ⟨(Lib.join (xs.map (·.data.toList)) sep.data.toList).toArray⟩) /\ Below w.heap.size w w':=Any.strings_Join Tryz.b7C Tryz.a5u bk o c xs sep w hcells hbk hN hcap hlen
def Tryz.b8y:Go.Shelf.Ren:=⟨fun | 167=>21 | 156=>56 | 165=>86 | 166=>19 | 169=>22 | 240=>55 | 241=>93 | 276=>85 | 277=>99 | n=>n,fun | 31=>66 | 9=>9 | 3=>3 | 4=>4 | 0=>0 | 20=>20 | 72=>64 | 76=>72 | 70=>61 | 37=>62 | 75=>71 | 127=>92 | 164=>109 | 5=>5 | 80=>74 | n=>n,fun | n=>n⟩
theorem Tryz.layB167:Go.Proofs.Lays.n167 Tryz.prog Tryz.b8y:={
 mixed:=by kernel_rfl
 f167:=Tryz.func21.trans (congrArg some (by kernel_rfl))
 f240:=Tryz.func55.trans (congrArg some (by kernel_rfl))
 f276:=Tryz.func85.trans (congrArg some (by kernel_rfl))
 t0:=Tryz.underlying0
 a0:=Tryz.isAgg0
 z0:=Tryz.sizeOf0
 v0:=Tryz.zeroValue0
 t4:=Tryz.underlying4
 a4:=Tryz.isAgg4
 z4:=Tryz.sizeOf4
 v4:=Tryz.zeroValue4
 t5:=Tryz.underlying5
 a5:=Tryz.isAgg5
 z5:=Tryz.sizeOf5
 v5:=Tryz.zeroValue5
 t9:=Tryz.underlying9
 a9:=Tryz.isAgg9
 z9:=Tryz.sizeOf9
 v9:=Tryz.zeroValue9
 t20:=Tryz.underlying20
 a20:=Tryz.isAgg20
 z20:=Tryz.sizeOf20
 v20:=Tryz.zeroValue20
 t37:=Tryz.underlying62
 a37:=Tryz.isAgg62
 z37:=Tryz.sizeOf62
 v37:=Tryz.zeroValue62
 t70:=Tryz.underlying61
 a70:=Tryz.isAgg61
 z70:=Tryz.sizeOf61
 v70:=Tryz.zeroValue61
 t72:=Tryz.underlying64
 a72:=Tryz.isAgg64
 z72:=Tryz.sizeOf64
 v72:=Tryz.zeroValue64
 t75:=Tryz.underlying71
 a75:=Tryz.isAgg71
 z75:=Tryz.sizeOf71
 v75:=Tryz.zeroValue71
 t164:=Tryz.underlying109
 a164:=Tryz.isAgg109
 z164:=Tryz.sizeOf109
 v164:=Tryz.zeroValue109 }
theorem Tryz.b9O:Builder.Extra Tryz.prog Tryz.b8y:={
 sizeBuilder:=by kernel_rfl
 liesBuilder:=by kernel_rfl
 t5:=Tryz.underlying5
 a5:=Tryz.isAgg5
 z5:=Tryz.sizeOf5
 v5:=Tryz.zeroValue5
 infoByte:=by kernel_rfl
 cellsByte:=by kernel_rfl
 sizeByte:=by kernel_rfl
 neB5:=by decide }
open Go.RowKit in
theorem Tryz.Builder_WriteByte (B b:Nat) (bs:List Value) (c:Int) (w:World) (h:Lib.IsBuilder 64 5 B b bs w) (hlen:bs.length + 1 <= 140737488355328) (hBw:B <= w.heap.size) :
  Calls Tryz.prog 21 #[.pointer (some ⟨b,0,none⟩),.int .u8 c] w fun e w'=>e = .returned .nilIface /\ (Lib.BuilderAt 64 5 B b (.pointer (some ⟨b,0,none⟩)) (bs ++ [.int .u8 c]) w' /\ Below B w w'):=Any.Builder_WriteByte Tryz.layB167 Tryz.b9O B b bs c w h hlen hBw
open Go.RowKit in
theorem Tryz.Builder_WriteString (B b:Nat) (bs:List Value) (s:ByteArray) (w:World) (h:Lib.IsBuilder 64 5 B b bs w) (hlen:bs.length + s.size <= 140737488355328) (hBw:B <= w.heap.size) :
  Calls Tryz.prog 19 #[.pointer (some ⟨b,0,none⟩),.string s] w fun e w'=>e = .returned (.tuple #[.int .i64 s.size,.nilIface]) /\ (Lib.BuilderAt 64 5 B b (.pointer (some ⟨b,0,none⟩)) (bs ++ Lib.strCells s) w' /\ Below B w w'):=Any.Builder_WriteString { Tryz.b7C with } Tryz.a5u B b bs s w h hlen hBw
end Go.Proofs
namespace Go.Proofs
open Go.Shelf
def Tryz.b7D:Go.Shelf.Ren:=⟨fun | 172=>126 | 244=>133 | 245=>134 | 247=>148 | 279=>149 | 280=>150 | 281=>151 | 282=>152 | 287=>164 | 316=>165 | 171=>116 | 205=>166 | 321=>179 | 322=>180 | 243=>123 | 246=>129 | 283=>138 | 284=>139 | 285=>140 | 286=>141 | 129=>154 | 317=>153 | 318=>155 | 319=>156 | 320=>157 | 337=>167 | 338=>168 | n=>n,fun | 9=>9 | 3=>3 | 75=>71 | 76=>72 | 4=>4 | 5=>5 | 167=>167 | 37=>62 | 0=>0 | 85=>168 | 2=>2 | 168=>170 | 53=>147 | 175=>193 | 46=>177 | 210=>196 | 127=>92 | 145=>213 | 143=>211 | 21=>21 | 171=>146 | 173=>150 | 212=>175 | 51=>128 | 20=>20 | 213=>176 | 232=>214 | 233=>215 | 80=>74 | n=>n,fun | 15=>2 | 16=>3 | 17=>1 | 18=>4 | 19=>5 | n=>n⟩
theorem Tryz.laysC172:Go.Proofs.LaysC.n172 Tryz.prog Tryz.b7D:={
 mixed:=by kernel_rfl
 f129:=Tryz.func154.trans (congrArg some (by kernel_rfl))
 f171:=Tryz.func116.trans (congrArg some (by kernel_rfl))
 f172:=Tryz.func126.trans (congrArg some (by kernel_rfl))
 f205:=Tryz.func166.trans (congrArg some (by kernel_rfl))
 f243:=Tryz.func123.trans (congrArg some (by kernel_rfl))
 f244:=Tryz.func133.trans (congrArg some (by kernel_rfl))
 f245:=Tryz.func134.trans (congrArg some (by kernel_rfl))
 f246:=Tryz.func129.trans (congrArg some (by kernel_rfl))
 f247:=Tryz.func148.trans (congrArg some (by kernel_rfl))
 f279:=Tryz.func149.trans (congrArg some (by kernel_rfl))
 f280:=Tryz.func150.trans (congrArg some (by kernel_rfl))
 f281:=Tryz.func151.trans (congrArg some (by kernel_rfl))
 f282:=Tryz.func152.trans (congrArg some (by kernel_rfl))
 f283:=Tryz.func138.trans (congrArg some (by kernel_rfl))
 f284:=Tryz.func139.trans (congrArg some (by kernel_rfl))
 f285:=Tryz.func140.trans (congrArg some (by kernel_rfl))
 f286:=Tryz.func141.trans (congrArg some (by kernel_rfl))
 f287:=Tryz.func164.trans (congrArg some (by kernel_rfl))
 f316:=Tryz.func165.trans (congrArg some (by kernel_rfl))
 f317:=Tryz.func153.trans (congrArg some (by kernel_rfl))
 f318:=Tryz.func155.trans (congrArg some (by kernel_rfl))
 f319:=Tryz.func156.trans (congrArg some (by kernel_rfl))
 f320:=Tryz.func157.trans (congrArg some (by kernel_rfl))
 f321:=Tryz.func179.trans (congrArg some (by kernel_rfl))
 f322:=Tryz.func180.trans (congrArg some (by kernel_rfl))
 f337:=Tryz.func167.trans (congrArg some (by kernel_rfl))
 f338:=Tryz.func168.trans (congrArg some (by kernel_rfl))
 t0:=Tryz.underlying0
 a0:=Tryz.isAgg0
 z0:=Tryz.sizeOf0
 v0:=Tryz.zeroValue0
 t2:=Tryz.underlying2
 a2:=Tryz.isAgg2
 z2:=Tryz.sizeOf2
 v2:=Tryz.zeroValue2
 t3:=Tryz.underlying3
 a3:=Tryz.isAgg3
 z3:=Tryz.sizeOf3
 v3:=Tryz.zeroValue3
 t4:=Tryz.underlying4
 a4:=Tryz.isAgg4
 z4:=Tryz.sizeOf4
 v4:=Tryz.zeroValue4
 t5:=Tryz.underlying5
 a5:=Tryz.isAgg5
 z5:=Tryz.sizeOf5
 v5:=Tryz.zeroValue5
 t9:=Tryz.underlying9
 a9:=Tryz.isAgg9
 z9:=Tryz.sizeOf9
 v9:=Tryz.zeroValue9
 t20:=Tryz.underlying20
 a20:=Tryz.isAgg20
 z20:=Tryz.sizeOf20
 v20:=Tryz.zeroValue20
 t21:=Tryz.underlying21
 a21:=Tryz.isAgg21
 z21:=Tryz.sizeOf21
 v21:=Tryz.zeroValue21
 t37:=Tryz.underlying62
 a37:=Tryz.isAgg62
 z37:=Tryz.sizeOf62
 v37:=Tryz.zeroValue62
 t46:=Tryz.underlying177
 a46:=Tryz.isAgg177
 z46:=Tryz.sizeOf177
 v46:=Tryz.zeroValue177
 t51:=Tryz.underlying128
 a51:=Tryz.isAgg128
 z51:=Tryz.sizeOf128
 v51:=Tryz.zeroValue128
 t53:=Tryz.underlying147
 a53:=Tryz.isAgg147
 z53:=Tryz.sizeOf147
 v53:=Tryz.zeroValue147
 t75:=Tryz.underlying71
 a75:=Tryz.isAgg71
 z75:=Tryz.sizeOf71
 v75:=Tryz.zeroValue71
 t76:=Tryz.underlying72
 a76:=Tryz.isAgg72
 z76:=Tryz.sizeOf72
 v76:=Tryz.zeroValue72
 t85:=Tryz.underlying168
 a85:=Tryz.isAgg168
 z85:=Tryz.sizeOf168
 v85:=Tryz.zeroValue168
 t127:=Tryz.underlying92
 a127:=Tryz.isAgg92
 z127:=Tryz.sizeOf92
 v127:=Tryz.zeroValue92
 t143:=Tryz.underlying211
 a143:=Tryz.isAgg211
 z143:=Tryz.sizeOf211
 v143:=Tryz.zeroValue211
 t145:=Tryz.underlying213
 a145:=Tryz.isAgg213
 z145:=Tryz.sizeOf213
 v145:=Tryz.zeroValue213
 t167:=Tryz.underlying167
 a167:=Tryz.isAgg167
 z167:=Tryz.sizeOf167
 v167:=Tryz.zeroValue167
 t168:=Tryz.underlying170
 a168:=Tryz.isAgg170
 z168:=Tryz.sizeOf170
 v168:=Tryz.zeroValue170
 t171:=Tryz.underlying146
 a171:=Tryz.isAgg146
 z171:=Tryz.sizeOf146
 v171:=Tryz.zeroValue146
 t173:=Tryz.underlying150
 a173:=Tryz.isAgg150
 z173:=Tryz.sizeOf150
 v173:=Tryz.zeroValue150
 t175:=Tryz.underlying193
 a175:=Tryz.isAgg193
 z175:=Tryz.sizeOf193
 v175:=Tryz.zeroValue193
 t210:=Tryz.underlying196
 a210:=Tryz.isAgg196
 z210:=Tryz.sizeOf196
 v210:=Tryz.zeroValue196
 t212:=Tryz.underlying175
 a212:=Tryz.isAgg175
 z212:=Tryz.sizeOf175
 v212:=Tryz.zeroValue175
 t213:=Tryz.underlying176
 a213:=Tryz.isAgg176
 z213:=Tryz.sizeOf176
 t232:=Tryz.underlying214
 a232:=Tryz.isAgg214
 z232:=Tryz.sizeOf214
 v232:=Tryz.zeroValue214
 t233:=Tryz.underlying215
 a233:=Tryz.isAgg215
 z233:=Tryz.sizeOf215
 v233:=Tryz.zeroValue215
 g15:=by kernel_rfl
 g16:=by kernel_rfl
 g17:=by kernel_rfl
 g18:=by kernel_rfl
 g19:=by kernel_rfl
 t80:=Tryz.underlying74
 a80:=Tryz.isAgg74
 z80:=Tryz.sizeOf74
 v80:=Tryz.zeroValue74
 i0:=by kernel_rfl
 i2:=by kernel_rfl
 i3:=by kernel_rfl
 i4:=by kernel_rfl
 i5:=by kernel_rfl
 i9:=by kernel_rfl
 i20:=by kernel_rfl
 i21:=by kernel_rfl
 i37:=by kernel_rfl
 i46:=by kernel_rfl
 i51:=by kernel_rfl
 i53:=by kernel_rfl
 i75:=by kernel_rfl
 i76:=by kernel_rfl
 i80:=by kernel_rfl
 i85:=by kernel_rfl
 i127:=by kernel_rfl
 i143:=by kernel_rfl
 i145:=by kernel_rfl
 i167:=by kernel_rfl
 i168:=by kernel_rfl
 i171:=by kernel_rfl
 i173:=by kernel_rfl
 i175:=by kernel_rfl
 i210:=by kernel_rfl
 i212:=by kernel_rfl
 i232:=by kernel_rfl
 i233:=by kernel_rfl
 m15:=by kernel_rfl
 m16:=by kernel_rfl
 m17:=by kernel_rfl
 m18:=by kernel_rfl
 m19:=by kernel_rfl
 c0:=by kernel_rfl
 c2:=by kernel_rfl
 c3:=by kernel_rfl
 c4:=by kernel_rfl
 c5:=by kernel_rfl
 c9:=by kernel_rfl
 c20:=by kernel_rfl
 c21:=by kernel_rfl
 c37:=by kernel_rfl
 c46:=by kernel_rfl
 c51:=by kernel_rfl
 c53:=by kernel_rfl
 c75:=by kernel_rfl
 c76:=by kernel_rfl
 c80:=by kernel_rfl
 c85:=by kernel_rfl
 c127:=by kernel_rfl
 c143:=by kernel_rfl
 c145:=by kernel_rfl
 c167:=by kernel_rfl
 c168:=by kernel_rfl
 c171:=by kernel_rfl
 c173:=by kernel_rfl
 c175:=by kernel_rfl
 c210:=by kernel_rfl
 c212:=by kernel_rfl
 c213:=by kernel_rfl
 c232:=by kernel_rfl
 c233:=by kernel_rfl }
open Go.RowKit in
theorem Tryz.strconv_Atoi_ok (s:ByteArray) (hmax:s.size <= 9223372036854775806) (v:Int) (h:Lib.atoiAll s.data.toList = .ok v) (w:World) :
  Calls Tryz.prog 126 #[.string s] w fun e w'=>e = .returned (.tuple #[.int .i64 v,.nilIface]) /\ (w' = w ∨ ∃ t,w' = Lib.bytesWorld w 5 t):=Any.strconv_Atoi_ok Tryz.laysC172 s hmax v h w
end Go.Proofs
namespace Go.Vm
open Go
variable {ρ ρ':Rho} {lab lab':Lab} {w w':World} {H:Hp}
theorem Rel.carry (hF:∀ b o x,a4M lab w b o x -> a4M lab' w' b o x) {v:V} {x:Value} (h:Rel ρ lab w v x):Rel ρ lab' w' v x:=by
 induction h with
 | undef x=>exact .undef x
 | bool b=>exact .bool b
 | int k n=>exact .int k n
 | str s=>exact .str s
 | nilptr=>exact .nilptr
 | ptr r off b o c h=>exact .ptr r off b o c h
 | cptr cells xs b o hl hc _ hnf ih=>exact .cptr cells xs b o hl (fun i x hx=>hF _ _ _ (hc i x hx)) ih hnf
 | slice ow n cells xs b o ao cap hl hn hb hz hc _ how h1 hnf ih=>exact .slice ow n cells xs b o ao cap hl hn hb hz (fun i x hx=>hF _ _ _ (hc i x hx)) ih how h1 hnf
 | rslice r off n wh base g ao cap h1 h2 h3 h4 h5=>exact .rslice r off n wh base g ao cap h1 h2 h3 h4 h5
 | func fn a c xs ys h1 h2 _ _ ih1 ih2=>exact .func fn a c xs ys h1 h2 ih1 ih2
 | nilFunc=>exact .nilFunc
 | iface t v x _ ih=>exact .iface t v x ih
 | nilIface=>exact .nilIface
 | opq m=>exact .opq m
 | map r b c h=>exact .map r b c h
 | agg cells xs h1 _ ih=>exact .agg cells xs h1 ih
 | tuple cells xs h1 _ ih=>exact .tuple cells xs h1 ih
theorem M6.carry (hF:∀ b o x,a4M lab w b o x -> a4M lab' w' b o x) {v:List V} {x:List Value} (h:M6 ρ lab w v x):M6 ρ lab' w' v x :=
 ⟨h.1,fun i v x hv hx=>(h.2 i v x hv hx).carry hF⟩
theorem Sim.relab (hS:Sim ρ lab H w) (hF:∀ b o x,a4M lab w b o x -> a4M lab' w' b o x) (hO:∀ b o k,a2p lab w k b o -> a2p lab' w' k b o /\ cellAt w' b o = cellAt w b o)
  (hM:∀ b k ms c,a5J lab w k b ms c -> a5J lab' w' k b ms c)
  (hl:∀ b o k,lab' b o = some k -> b < w'.heap.size):Sim ρ lab' H w' where
 row:=fun k cs hk=>by
  obtain ⟨b,o,xs,h1,h2,h3⟩:=hS.row k cs hk
  exact ⟨b,o,xs,h1,h2.carry hF,fun i x hx=>⟨(hO _ _ _ (h3 i x hx).1).1,(hO _ _ _ (h3 i x hx).1).2.trans (h3 i x hx).2⟩⟩
 grow:=fun k e cs hk=>by
  obtain ⟨base,c,xs,h1,h2,h3,h4,h8,h9,h5⟩:=hS.grow k e cs hk
  refine ⟨base,c,xs,h1,h2.carry hF,h3,h4,h8,h9,fun b o hb=>?_⟩
  obtain ⟨h6,h7⟩:=h5 b o hb
  refine ⟨fun i hi=>(hO _ _ _ (h6 i hi)).1,fun i x hx=>?_⟩
  have hi:i < c * e:=by
   have:i < xs.length:=by
    rcases Nat.lt_or_ge i xs.length with h | h
    ·exact h
    ·rw [List.getElem?_eq_none h] at hx; cases hx
   rw [h2.1] at this; omega
  exact (hO _ _ _ (h6 i hi)).2.trans (h7 i x hx)
 tip:=fun k e n hk=>by
  obtain ⟨ao,cap,h1,h2,h3,h4,h5⟩:=hS.tip k e n hk
  exact ⟨ao,cap,h1,h2,h3,h4,fun a ha=>⟨(h5 a ha).1,fun i hi hj=>(hO _ _ _ ((h5 a ha).2 i hi hj)).1⟩⟩
 mp:=fun k es hk=>by
  obtain ⟨b,ms,c,h1,h2,h3⟩:=hS.mp k es hk
  exact ⟨b,ms,c,h1,⟨h2.1,fun i e m he hm=>have q:=h2.2 i e m he hm; ⟨⟨q.1.1.carry hF,q.1.2.carry hF⟩,q.2⟩⟩,hM _ _ _ _ h3⟩
 hdom:=hS.hdom
 adom:=hS.adom
 ldom:=hl
def Lab.mine (lab:Lab) (B:Nat):Lab:=fun b o=>if b = B then some none else lab b o
def Lab.left (lab:Lab) (B:Nat):Lab:=fun b o=>if b = B then none else lab b o
theorem mineF (hg:a1g w w'):∀ b o x,a4M lab w b o x -> a4M (lab.mine w.heap.size) w' b o x:=fun b o x h=>by
 have hb:=a1h h.cell
 refine ⟨?_,(hg.cell hb o).trans h.cell⟩
 simp only [Lab.mine]
 rw [if_neg (by omega)]
 exact h.lab
theorem Sim.mine (hS:Sim ρ lab H w) (hg:a1g w w') (hB:w.heap.size < w'.heap.size):Sim ρ (lab.mine w.heap.size) H w':=by
 refine hS.relab (mineF hg) (fun b o k h=>?_) (fun b k ms c h=>⟨fun o=>by
  have hb:=h.lt
  simp only [Lab.mine]
  rw [if_neg (by omega)]
  exact h.lab o,(hg.blk b h.lt).trans h.blk⟩) (fun b o k h=>?_)
 ·obtain ⟨x,hx⟩:=h.cell
  have hb:=a1h hx
  refine ⟨⟨?_,(hg.frozen hb o).trans h.free,x,(hg.cell hb o).trans hx⟩,hg.cell hb o⟩
  simp only [Lab.mine]
  rw [if_neg (by omega)]
  exact h.lab
 ·simp only [Lab.mine] at h
  split at h
  ·rename_i hb; subst hb; exact hB
  ·exact Nat.lt_of_lt_of_le (hS.ldom b o k h) hg.size
section
variable {w1 w2 w3:World} {B:Nat}
theorem b0X (E:Ext (lab.mine B) w1 lab' w2) (hB:B < w1.heap.size) (o:Nat):cellAt w2 B o = cellAt w1 B o /\ w2.frozen? ⟨B,o,none⟩ = w1.frozen? ⟨B,o,none⟩ :=
 E.cl B o hB (fun k=>by simp [Lab.mine])
structure Wrote (B:Nat) (w w':World):Prop where
 size:w.heap.size <= w'.heap.size
 os:w'.os = w.os
 tape:w'.tape = w.tape
 output:w'.output = w.output
 blk:∀ b,b < w.heap.size -> b ≠ B -> w'.heap[b]? = w.heap[b]?
theorem Wrote.cell (h:Wrote B w w') {b:Nat} (hb:b < w.heap.size) (hn:b ≠ B) (o:Nat):cellAt w' b o = cellAt w b o:=by simp only [cellAt,World.cell?,h.blk b hb hn]
theorem Wrote.frozen (h:Wrote B w w') {b:Nat} (hb:b < w.heap.size) (hn:b ≠ B) (o:Nat):w'.frozen? ⟨b,o,none⟩ = w.frozen? ⟨b,o,none⟩:=by simp only [World.frozen?,h.blk b hb hn]
theorem Wrote.refl (B:Nat) (w:World):Wrote B w w:=⟨Nat.le_refl _,rfl,rfl,rfl,fun _ _ _=>rfl⟩
theorem leftF (E:Ext (lab.mine B) w1 lab' w2) (hw:Wrote B w2 w3):∀ b o x,a4M lab' w2 b o x -> a4M (lab'.left B) w3 b o x:=fun b o x h=>by
 have hb:=a1h h.cell
 have hn:b ≠ B:=by
  rintro rfl
  have:=(E.ctx b o).2 (by simp [Lab.mine])
  rw [h.lab] at this; cases this
 refine ⟨?_,(hw.cell hb hn o).trans h.cell⟩
 simp only [Lab.left]
 rw [if_neg hn]
 exact h.lab
theorem Sim.left (hS:Sim ρ' lab' H w2) (E:Ext (lab.mine B) w1 lab' w2) (hw:Wrote B w2 w3):Sim ρ' (lab'.left B) H w3:=by
 refine hS.relab (leftF E hw) (fun b o k h=>?_) (fun b k ms c h=>by
  have hn:b ≠ B:=by
   rintro rfl
   have:=(E.ctx b 0).2 (by simp [Lab.mine])
   rw [h.lab] at this; cases this
  exact ⟨fun o=>by
   simp only [Lab.left]
   rw [if_neg hn]
   exact h.lab o,(hw.blk b h.lt hn).trans h.blk⟩) (fun b o k h=>?_)
 ·obtain ⟨x,hx⟩:=h.cell
  have hb:=a1h hx
  have hn:b ≠ B:=by
   rintro rfl
   have:=(E.ctx b o).2 (by simp [Lab.mine])
   rw [h.lab] at this; cases this
  refine ⟨⟨?_,(hw.frozen hb hn o).trans h.free,x,(hw.cell hb hn o).trans hx⟩,hw.cell hb hn o⟩
  simp only [Lab.left]
  rw [if_neg hn]
  exact h.lab
 ·simp only [Lab.left] at h
  split at h
  ·cases h
  ·exact Nat.lt_of_lt_of_le (hS.ldom b o k h) hw.size
theorem Ext.left (hS:Sim ρ lab H w) (hg:a1g w w1) (hB:w.heap.size < w1.heap.size) (E:Ext (lab.mine w.heap.size) w1 lab' w2) (hw:Wrote w.heap.size w2 w3):Ext lab w (lab'.left w.heap.size) w3 where
 size:=Nat.le_trans hg.size (Nat.le_trans E.size hw.size)
 os:=hw.os.trans (E.os.trans hg.os)
 tape:=hw.tape.trans (E.tape.trans hg.tape)
 output:=hw.output.trans (E.output.trans hg.output)
 lb:=fun b o hb hl=>by
  simp only [Lab.left]
  rw [if_neg (by omega)]
  exact E.lb b o (Nat.lt_of_lt_of_le hb hg.size) (by simp only [Lab.mine]; rw [if_neg (by omega)]; exact hl)
 ctx:=fun b o=>by
  by_cases hb:b = w.heap.size
  ·subst hb
   have h1:(lab'.left w.heap.size) w.heap.size o = none:=by simp [Lab.left]
   rw [h1]
   constructor
   ·intro h; cases h
   ·intro h
    have:=hS.ldom _ _ _ h
    omega
  ·have:=E.ctx b o
   simp only [Lab.left,Lab.mine,if_neg hb] at this ⊢
   exact this
 cl:=fun b o hb hl=>by
  have hb1:=Nat.lt_of_lt_of_le hb hg.size
  have h1:=E.cl b o hb1 (fun k=>by simp only [Lab.mine]; rw [if_neg (by omega)]; exact hl k)
  have hb2:=Nat.lt_of_lt_of_le hb1 E.size
  exact ⟨(hw.cell hb2 (by omega) o).trans (h1.1.trans (hg.cell hb o)),(hw.frozen hb2 (by omega) o).trans (h1.2.trans (hg.frozen hb o))⟩
 blk:=fun b hb hl=>by
  have hb1:=Nat.lt_of_lt_of_le hb hg.size
  have h1:=E.blk b hb1 (fun o k=>by simp only [Lab.mine]; rw [if_neg (by omega)]; exact hl o k)
  have hb2:=Nat.lt_of_lt_of_le hb1 E.size
  exact (hw.blk b hb2 (by omega)).trans (h1.trans (hg.blk b hb))
end
def b0b:Hp -> Hp
 | []=>[]
 | (k,.row cs) :: r=>(k,.row (cs.map b2I)) :: b0b r
 | (k,o) :: r=>(k,o) :: b0b r
def sealO:Obj -> Obj
 | .row cs=>.row (cs.map b2I)
 | o=>o
theorem b1T (k:Nat) (o:Obj) (r:Hp):b0b ((k,o) :: r) = (k,sealO o) :: b0b r:=by cases o <;> rfl
theorem a9A (j:Nat):∀ H:Hp,hget j (b0b H) = (hget j H).map sealO
 | []=>rfl
 | (k,o) :: r=>by
  rw [b1T]
  simp only [hget]
  cases Nat.beq k j with
  | true=>rfl
  | false=>exact a9A j r
theorem a9U:∀ H:Hp,(b0b H).length = H.length
 | []=>rfl
 | (k,o) :: r=>by rw [b1T]; simp only [List.length_cons,a9U r]
theorem b3s:∀ (n:Nat) (H:Hp),Canon n H -> Canon n (b0b H)
 | _,[],_=>trivial
 | n,(k,o) :: r,h=>by
  rw [b1T]
  exact ⟨h.1,b3s (n + 1) r h.2⟩
theorem Sim.b0b (hS:Sim ρ lab H w):Sim ρ lab (Vm.b0b H) w:=by
 have hg:∀ {j o},hget j (Vm.b0b H) = some o -> ∃ o',hget j H = some o' /\ o = sealO o':=fun {j o} h=>by
  rw [a9A] at h
  cases hq:hget j H with
  | none=>rw [hq] at h; cases h
  | some o'=>rw [hq] at h; cases h; exact ⟨o',rfl,rfl⟩
 refine Sim.mk' (fun j o hj=>?_) (fun j n x h=>?_) (fun j x h=>?_) hS.ldom
 ·obtain ⟨o',h1,rfl⟩:=hg hj
  cases o' with
  | row cs =>
   obtain ⟨b,o,xs,g1,g2,g3⟩:=hS.row j cs h1
   exact ⟨b,o,xs,g1,g2.a6w,g3⟩
  | grow e cs=>exact hS.grow j e cs h1
  | tip e n=>exact hS.tip j e n h1
  | mp es=>exact hS.mp j es h1
  | gone=>trivial
 ·obtain ⟨e,m,h1,h2⟩:=hS.hdom j n x h
  exact ⟨e,m,by rw [a9A,h1]; rfl,h2⟩
 ·have:=hS.adom j x h
  rw [a9A]
  cases hq:hget j H with
  | none=>exact absurd hq this
  | some o=>simp
theorem E_via {env:Env} {g g':Nat} {args l:List V} {H H':Hp} {o out:Out} {pre:List V -> Hp -> Option (Nat × List V × Hp)} {post:List V -> Hp -> Out -> Option Out} (hi:env.intr g = some (.via pre post)) (hp:pre args H = some (g',l,H'))
  (hc:E env (.call g' l) H' = some o) (ho:post args H o = some out):E env (.call g args) H = some out :=
 b7a (by simp only [step,hi,hp,hc,ho])
end Go.Vm
namespace Go.Proofs.YtlfomdllnidliaaGreatDoor
open Go Go.Vm
def strsOf:List V -> Option (List (List UInt8))
 | []=>some []
 | .str s :: r=>match strsOf r with
  | some l=>some (s :: l)
  | none=>none
 | _=>none
def b6B:List V -> Hp -> Option Out:=fun args H=>match args with
 | [.slice _ n cs,.str sep]=>match strsOf cs with
  | some l=>gd (eqN l.length n && leN n 140737488355328 && leN (Lib.join l sep).length 140737488355328) (some (.ret (.str (Lib.join l sep)) H))
  | none=>none
 | _=>none
theorem b5N:∀ {cs:List V} {l:List (List UInt8)},strsOf cs = some l -> cs = l.map .str
 | [],l,h=>by cases h; rfl
 | c :: r,l,h=>by
  cases c with
  | str s =>
   simp only [strsOf] at h
   split at h
   ·rename_i l' hl
    cases h
    rw [b5N hl]; rfl
   ·cases h
  | _=>cases h
theorem b1C {w w':World} (h:RowKit.Below w.heap.size w w'):a1g w w':=⟨h.size,h.os,h.tape,h.output,fun b hb=>h.block b hb⟩
theorem b4g:b1A Tryz.prog 56 b6B:=by
 refine ⟨fun args H out h ρ lab w xs hc hS hx=>?_,⟨_,_,Tryz.func56,rfl,rfl⟩⟩
 unfold b6B at h
 split at h
 ·rename_i ow n cs sep
  split at h
  ·rename_i l hl
   obtain ⟨h1,h2⟩:=O9 h
   cases h2
   simp only [Bool.and_eq_true] at h1
   obtain ⟨⟨h1,h2⟩,h3⟩:=h1
   have h1:=b0P h1
   have h2:=a5x h2
   have h3:=a5x h3
   obtain ⟨x1,r1,rfl,a1,a2⟩:=J3.1 hx
   obtain ⟨x2,r2,rfl,a3,a4⟩:=J3.1 a2
   have:r2 = []:=by have:=a4.1; simpa using this
   subst this
   cases a3
   have hcs:=b5N hl
   cases a1 with
   | slice _ _ _ xs b o ao cap g1 g2 g3 g4 g5 g6 g7 g8 g9 =>
   rcases Nat.eq_zero_or_pos n with h0 | h0
   ·subst h0
    have:l = []:=List.length_eq_zero_iff.1 h1
    subst this
    refine (Tryz.strings_Join_none ao cap ⟨⟨sep⟩⟩ w).mono fun e w' ⟨he,hw⟩=>?_
    subst he; subst hw
    exact ⟨ρ,lab,hS,Ext.refl _ _,⟨fun _ _ _ h=>h,fun _ _ _ _ h=>h⟩,.str _,hc,Nat.le_refl _⟩
   ·have hao:=g3 h0
    subst hao
    have hget:∀ (j:Nat) (x:ByteArray),(l.map (fun s=>(⟨⟨s⟩⟩:ByteArray)))[j]? = some x -> cellAt w b (o + j) = some (.string x):=by
     intro j x hj
     rw [List.getElem?_map] at hj
     cases hq:l[j]? with
     | none=>rw [hq] at hj; cases hj
     | some s =>
      rw [hq] at hj
      cases hj
      have hcj:cs[j]? = some (.str s):=by rw [hcs,List.getElem?_map,hq]; rfl
      have hj2:j < xs.length:=by
       rw [g1]
       rcases Nat.lt_or_ge j cs.length with h | h
       ·exact h
       ·rw [List.getElem?_eq_none h] at hcj; cases hcj
      have hxj:xs[j]? = some xs[j]:=by simp [hj2]
      have hr:=g6 j _ _ hcj hxj
      have hf:=(g5 j _ hxj).cell
      generalize xs[j] = z at hr hf
      cases hr
      exact hf
    have hlen:(l.map (fun s=>(⟨⟨s⟩⟩:ByteArray))).length = n:=by rw [List.length_map]; exact h1
    have hmap:(l.map (fun s=>(⟨⟨s⟩⟩:ByteArray))).map (·.data.toList) = l:=by rw [List.map_map]; exact List.map_id l
    have hb:b < w.heap.size:=by
     have hj2:0 < (l.map (fun s=>(⟨⟨s⟩⟩:ByteArray))).length:=by omega
     exact a1h (hget 0 _ (List.getElem?_eq_getElem hj2))
    have K:=Tryz.strings_Join b o cap (l.map (fun s=>(⟨⟨s⟩⟩:ByteArray))) ⟨⟨sep⟩⟩ w hget hb (by omega) (by omega) (by rw [hmap]; exact h3)
    rw [hlen,hmap] at K
    refine K.mono fun e w' ⟨he,hw⟩=>?_
    subst he
    have G:=b1C hw
    exact ⟨ρ,lab,hS.grew G,G.ext lab,⟨fun _ _ _ h=>h,fun _ _ _ _ h=>h⟩,.str _,hc,Nat.le_refl _⟩
  ·cases h
 ·cases h
end Go.Proofs.YtlfomdllnidliaaGreatDoor
namespace Go.Proofs.YtlfomdllnidliaaGreatDoor
open Go Go.Vm
def a5t (s:List UInt8) (a:Nat):Nat:=s.foldl (fun a b=>a * 10 + (b.toNat - 48)) a
def b2V (s:List UInt8):Bool:=s.all (fun b=>Nat.ble 48 b.toNat && Nat.ble b.toNat 57)
def digB (s:List UInt8):Bool:=b2V s && (!s.isEmpty && (Nat.ble s.length 19 && Nat.ble (a5t s 0) 9223372036854775807))
def b8b:List V -> Hp -> Option Out:=fun args H=>match args with
 | [.str s]=>match digB s with
  | true=>some (.ret (.tuple [.int .i64 (a5t s 0:Nat),.nilIface]) H)
  | false=>none
 | _=>none
theorem a5h (b:UInt8) (r:List UInt8) (a:Nat):a5t (b :: r) a = a5t r (a * 10 + (b.toNat - 48)):=by simp only [a5t,List.foldl_cons]
theorem a8P {b:UInt8} {r:List UInt8} (h:b2V (b :: r) = true):48 <= b.toNat /\ b.toNat <= 57 /\ b2V r = true:=by
 simp only [b2V,List.all_cons,Bool.and_eq_true,Nat.ble_eq] at h
 exact ⟨h.1.1,h.1.2,h.2⟩
theorem b7k:∀ (l:List UInt8) (x:Nat),x <= a5t l x
 | [],x=>Nat.le_refl _
 | b :: r,x=>by rw [a5h]; have:=b7k r (x * 10 + (b.toNat - 48)); omega
theorem b8R:∀ (l:List UInt8) (x:Nat),b2V l = true -> a5t l x <= 9223372036854775807 -> Lib.parseUint10 x l = .ok (a5t l x)
 | [],x,h1,h2=>rfl
 | b :: r,x,h1,h2=>by
  obtain ⟨h3,h4,h5⟩:=a8P h1
  rw [a5h] at h2
  have:=b7k r (x * 10 + (b.toNat - 48))
  rw [Lib.parseUint10,if_pos ⟨h3,h4⟩,if_neg (by omega),if_neg (by omega),a5h]
  exact b8R r _ h5 h2
theorem atoi_all {s:List UInt8} (h:digB s = true):Lib.atoiAll s = .ok (a5t s 0:Nat):=by
 simp only [digB,Bool.and_eq_true,Nat.ble_eq] at h
 obtain ⟨h1,h2,h3,h4⟩:=h
 cases s with
 | nil=>cases h2
 | cons b r =>
  obtain ⟨h5,h6,h7⟩:=a8P h1
  have h8:¬ (b.toNat = 43 ∨ b.toNat = 45):=by omega
  have h9:¬ b.toNat = 45:=by omega
  unfold Lib.atoiAll
  simp only [if_neg h8,Lib.parseMag]
  rw [if_neg (by simp),b8R _ _ h1 h4]
  simp only [h9,not_false_eq_true,true_and,false_and,if_false]
  rw [if_neg (by omega)]
theorem b6c:b1A Tryz.prog 126 b8b:=by
 refine ⟨fun args H out h ρ lab w xs hc hS hx=>?_,⟨_,_,Tryz.func126,rfl,rfl⟩⟩
 unfold b8b at h
 split at h
 ·rename_i s
  split at h
  ·rename_i hb
   cases h
   have hb2:=hb
   simp only [digB,Bool.and_eq_true,Nat.ble_eq] at hb2
   obtain ⟨x1,r1,rfl,a1,a2⟩:=J3.1 hx
   have:r1 = []:=by have:=a2.1; simpa using this
   subst this
   cases a1
   refine (Tryz.strconv_Atoi_ok ⟨⟨s⟩⟩ (by show s.length <= _; omega) _ (atoi_all hb) w).mono fun e w' ⟨he,hw⟩=>?_
   subst he
   have hg:a1g w w':=by
    rcases hw with rfl | ⟨t,rfl⟩
    ·exact b1C (RowKit.Below.refl _ _)
    ·exact b1C (Lib.bytesWorld_below w _ t)
   have hr:Rel ρ lab w' (.tuple [.int .i64 (a5t s 0:Nat),.nilIface]) (.tuple #[.int .i64 (a5t s 0:Nat),.nilIface]):=by
    refine .tuple [.int .i64 (a5t s 0:Nat),.nilIface] [.int .i64 (a5t s 0:Nat),.nilIface] rfl fun i v x h1 h2=>?_
    match i,h1,h2 with
    | 0,h1,h2=>cases h1; cases h2; exact .int _ _
    | 1,h1,h2=>cases h1; cases h2; exact .nilIface
    | i + 2,h1,h2=>cases h1
   exact ⟨ρ,lab,hS.grew hg,hg.ext lab,⟨fun _ _ _ h=>h,fun _ _ _ _ h=>h⟩,hr,hc,Nat.le_refl _⟩
  ·cases h
 ·cases h
end Go.Proofs.YtlfomdllnidliaaGreatDoor
namespace Go.Proofs.YtlfomdllnidliaaGreatDoor.Sc
open Go Go.Vm
def IntW (w:List UInt8):Prop:=w ≠ [] /\ (∀ b ∈ w,a0H b = true) /\ ∃ c,a1V w c = false
theorem c04 (p:UInt8 -> Bool):∀ l:List UInt8,l.take (l.takeWhile p).length = l.takeWhile p
 | []=>rfl
 | b :: r=>by
  rw [List.takeWhile_cons]
  cases p b
  ·rfl
  ·simp [c04 p r]
theorem run_text {p:UInt8 -> Bool} {s:List UInt8} {i:Nat}:(s.take (a1G p s i)).drop i = (s.drop i).takeWhile p:=by
 rw [List.drop_take,a1G,Nat.add_sub_cancel_left,c04]
theorem tw_all {p:UInt8 -> Bool}:∀ {l:List UInt8} {b:UInt8},b ∈ l.takeWhile p -> p b = true
 | c :: r,b,h=>by
  rw [List.takeWhile_cons] at h
  cases hc:p c
  ·rw [hc] at h; cases h
  ·rw [hc] at h
   rcases List.mem_cons.1 h with rfl | h
   ·exact hc
   ·exact tw_all h
theorem b8E {s:List UInt8} {toks:List Tok} {st:List (Nat × Int)} {q j ins:Nat} {a b:Int} {y:MS} (ha:a ≠ 3) (hb:b ≠ 3) (h:a3g toks st q j a b (part s q ins (j + 1) []) = .go y) :
  ∃ t:Tok,y.toks = toks ++ [t] /\ (t.k = 3 -> IntW t.t):=by
 cases hp:part s q ins (j + 1) [] with
 | err c a=>rw [hp] at h; cases h
 | fin t e =>
  rw [hp] at h
  simp only [a3g] at h
  cases h
  exact ⟨_,rfl,fun h=>absurd h ha⟩
 | more t e =>
  rw [hp] at h
  simp only [a3g] at h
  cases h
  exact ⟨_,rfl,fun h=>absurd h hb⟩
theorem kindB_ne (w:List UInt8):a7T w ≠ 3:=by
 unfold a7T
 split
 ·decide
 ·split <;> decide
theorem step_int {s:List UInt8} {x y:MS} (h:stepM s x = .go y):∃ t:Tok,y.toks = x.toks ++ [t] /\ (t.k = 3 -> IntW t.t):=by
 obtain ⟨i0,toks,st⟩:=x
 obtain ⟨i,h0⟩:∃ i,a1C s i0 = i:=⟨_,rfl⟩
 show ∃ t:Tok,y.toks = toks ++ [t] /\ _
 rcases Nat.lt_or_ge i s.length with hi | hi
 ·cases hc:closes (s.getD i 0).toNat st with
  | true =>
   cases st with
   | nil=>cases hc
   | cons z st =>
    obtain ⟨q,p⟩:=z
    rw [(a6P h0 hi hc).2] at h
    exact b8E (by decide) (by decide) (a4W h).2
  | false =>
   by_cases h1:(s.getD i 0).toNat = 34
   ·rw [a9p h0 hi hc h1] at h
    exact b8E (by decide) (by decide) (a4W h).2
   ·have hi1:i <= s.length:=by omega
    cases h2:a0H (s.getD i 0) with
    | true =>
     rw [a5r h0 hi hc h1 h2] at h
     have hg:=b05 hi h2
     have hl:=a8g (p:=a0H) hi1
     have h:=(a4W h).2
     split at h
     ·cases h
     ·rename_i hbad
      cases h
      refine ⟨_,rfl,fun _=>⟨?_,?_,_,hbad⟩⟩
      ·intro hnil
       have:=congrArg List.length hnil
       simp only [List.length_drop,List.length_take,List.length_nil] at this
       omega
      ·intro b hb
       have hb:b ∈ (s.take (a1G a0H s i)).drop i:=hb
       rw [run_text] at hb
       exact tw_all hb
    | false =>
     cases h3:a3D (s.getD i 0) with
     | true =>
      rw [a4E h0 hi hc h1 h2 h3] at h
      have h:=(a4W h).2
      split at h
      ·cases h
      ·cases h; exact ⟨_,rfl,fun h=>absurd h (kindB_ne _)⟩
     | false =>
      cases hw:a5q s i 2 with
      | nil=>rw [a7x h0 hi hc h1 h2 h3 hw] at h; cases h
      | cons b w =>
       rw [a4v h0 hi hc h1 h2 h3 hw (by simp)] at h
       have h:=(a4W h).2
       cases h
       exact ⟨_,rfl,fun h=>absurd h (show (8:Int) ≠ 3 by decide)⟩
 ·cases st with
  | nil=>rw [a7y h0 hi] at h; cases h
  | cons z st=>obtain ⟨q,p⟩:=z; rw [a7z h0 hi] at h; cases h
theorem c1G {s:List UInt8} {x y:MS} (h:Reach s x y):(∀ t ∈ x.toks,t.k = 3 -> IntW t.t) -> ∀ t ∈ y.toks,t.k = 3 -> IntW t.t:=by
 induction h with
 | refl x=>exact fun h=>h
 | step x y z h1 _ ih =>
  intro h2
  obtain ⟨t,g1,g2⟩:=step_int h1
  refine ih fun u hu=>?_
  rw [g1] at hu
  rcases List.mem_append.1 hu with hu | hu
  ·exact h2 u hu
  ·rcases List.mem_singleton.1 hu with rfl
   exact g2
theorem tok_int {s:List UInt8} {l:List Tok} (h:a3f s = .done l):∀ t ∈ l,t.k = 3 -> IntW t.t:=by
 obtain ⟨h1,_,h2⟩:=b0M s
 have h3:=(h1.lay l h).1
 obtain ⟨y,g1,g2,_⟩:=h2 h3
 rw [h] at g2
 rw [<- (b5L g2).1]
 exact c1G g1 (fun t ht=>by cases ht)
theorem digs_of {w:List UInt8} (h:∀ b ∈ w,a0H b = true):b2V w = true:=by
 simp only [b2V,List.all_eq_true,Bool.and_eq_true,Nat.ble_eq]
 intro b hb
 have:=h b hb
 simpa [a0H] using this
theorem b7l:∀ (l:List UInt8) (x:Nat),b2V l = true -> a5t l x < (x + 1) * 10 ^ l.length
 | [],x,h=>by simp [a5t]
 | b :: r,x,h=>by
  obtain ⟨h1,h2,h3⟩:=a8P h
  have:=b7l r (x * 10 + (b.toNat - 48)) h3
  rw [a5h,List.length_cons,Nat.pow_succ]
  refine Nat.lt_of_lt_of_le this ?_
  rw [show (x + 1) * (10 ^ r.length * 10) = (x * 10 + 10) * 10 ^ r.length from by rw [Nat.mul_comm (10 ^ r.length) 10,<- Nat.mul_assoc,Nat.add_mul]]
  exact Nat.mul_le_mul_right _ (by omega)
theorem b8i:∀ (l:List UInt8) (x:Nat),x * 10 ^ l.length <= a5t l x
 | [],x=>by simp [a5t]
 | b :: r,x=>by
  have:=b8i r (x * 10 + (b.toNat - 48))
  rw [a5h,List.length_cons,Nat.pow_succ]
  refine Nat.le_trans ?_ this
  rw [show x * (10 ^ r.length * 10) = (x * 10) * 10 ^ r.length from by rw [Nat.mul_comm (10 ^ r.length) 10,<- Nat.mul_assoc]]
  exact Nat.mul_le_mul_right _ (by omega)
theorem c0L:∀ (a b:List UInt8),a.length = b.length -> b2V a = true -> b2V b = true -> Op.bytesLess a b = true -> ∀ x,a5t a x <= a5t b x
 | [],[],_,_,_,h,x=>by simp [Op.bytesLess] at h
 | [],b :: y,h0,_,_,_,x=>by simp at h0
 | a :: x',[],h0,_,_,_,x=>by simp at h0
 | a :: u,b :: v,h0,h1,h2,h3,x=>by
  obtain ⟨a1,a2,a3⟩:=a8P h1
  obtain ⟨b1,b2,b3⟩:=a8P h2
  have hl:u.length = v.length:=by simpa using h0
  simp only [Op.bytesLess,Bool.or_eq_true,Bool.and_eq_true,decide_eq_true_eq,beq_iff_eq] at h3
  rw [a5h,a5h]
  rcases h3 with h3 | ⟨h3,h4⟩
  ·have h3:a.toNat < b.toNat:=UInt8.lt_iff_toNat_lt.1 h3
   have g1:=b7l u (x * 10 + (a.toNat - 48)) a3
   have g2:=b8i v (x * 10 + (b.toNat - 48))
   rw [hl] at g1
   have g3:(x * 10 + (a.toNat - 48) + 1) * 10 ^ v.length <= (x * 10 + (b.toNat - 48)) * 10 ^ v.length:=Nat.mul_le_mul_right _ (by omega)
   omega
  ·subst h3
   exact c0L u v hl a3 b3 h4 _
theorem int_digB {w:List UInt8} (h:IntW w):digB w = true:=by
 obtain ⟨h1,h2,c,h3⟩:=h
 have hd:=digs_of h2
 unfold a1V at h3
 simp only [Bool.or_eq_false_iff,Bool.and_eq_false_iff] at h3
 obtain ⟨⟨⟨_,h4⟩,h5⟩,_⟩:=h3
 have h4:w.length <= 19:=by simp [ltB] at h4; omega
 have hv:a5t w 0 <= 9223372036854775807:=by
  rcases Nat.lt_or_ge w.length 19 with h6 | h6
  ·have g:=b7l w 0 hd
   have g2:10 ^ w.length <= 10 ^ 18:=Nat.pow_le_pow_right (by omega) (by omega)
   have g3:(10:Nat) ^ 18 = 1000000000000000000:=by decide
   omega
  ·have h7:w.length = 19:=by omega
   rcases h5 with h5 | h5
   ·simp [eqB,h7] at h5
   ·have hm:b2V a4l = true:=by decide
    have hmv:a5t a4l 0 = 9223372036854775807:=by decide
    have h5:(ltS w a4l || eqS w a4l) = true:=by
     cases hq:(ltS w a4l || eqS w a4l) with
     | true=>rfl
     | false=>rw [hq] at h5; cases h5
    simp only [Bool.or_eq_true] at h5
    rcases h5 with h5 | h5
    ·unfold ltS at h5
     have:=c0L w a4l (by rw [h7]; rfl) hd hm h5 0
     omega
    ·have:w = a4l:=by simpa [eqS] using h5
     rw [this]; omega
 have hne:w.isEmpty = false:=by cases w with
  | nil=>exact absurd rfl h1
  | cons b r=>rfl
 simp only [digB,hd,hne,Bool.not_false,Bool.true_and,Bool.and_eq_true,Nat.ble_eq]
 exact ⟨h4,hv⟩
end Go.Proofs.YtlfomdllnidliaaGreatDoor.Sc
namespace Go.Proofs.YtlfomdllnidliaaGreatDoor
open Go Go.Vm
def a98 (t:Sc.Tok):Tok:=⟨t.k,t.t,(t.a:Nat),(t.l:Nat)⟩
def a6b:Sc.MR -> List Tok
 | .done l=>l.map a98
 | _=>[]
def b1Y:Sc.MR -> Int
 | .err c _=>c
 | _=>0
def tokA:Sc.MR -> Int
 | .err _ a=>(a:Nat)
 | _=>0
theorem b8f:∀ l:List Sc.Tok,C8 (l.map a98) = Sc.a2w l
 | []=>rfl
 | t :: r=>by
  rw [List.map_cons,a8n.cons,b8f r]
  rfl
theorem tokV_cv {r:Sc.MR} (h:Sc.RBd r):Sc.b5S r = .tuple [.slice .sealed (List.length (a6b r)) (C8 (a6b r)),.agg [.int .i64 (b1Y r),.int .i64 (tokA r)]]:=by
 cases r with
 | go x=>exact h.elim
 | done l =>
  simp only [a6b,Sc.b5S,b8f,List.length_map,b1Y,tokA]
 | err c a=>rfl
theorem tok_call {env:Env} {g:Nat} {s:Str} (hi:env.intr g = some (.plain (valI Sc.tokF))) (h:Sc.RBd (Sc.a3f s)) :
  E env (.call g [.str s]) [] = some (.ret (.tuple [.slice .sealed (List.length (a6b (Sc.a3f s))) (C8 (a6b (Sc.a3f s))),.agg [.int .i64 (b1Y (Sc.a3f s)),.int .i64 (tokA (Sc.a3f s))]]) []):=by
 refine b69 hi ?_
 rw [<- tokV_cv h]
 rfl
theorem tok_code (s:Str):(b1Y (Sc.a3f s) = 0 /\ tokA (Sc.a3f s) = 0) ∨ (b1Y (Sc.a3f s) ≠ 0 /\ a6b (Sc.a3f s) = []):=by
 have h:=(Sc.b0M s).1
 generalize Sc.a3f s = r at h
 cases r with
 | go x=>exact h.bd.elim
 | done l=>exact .inl ⟨rfl,rfl⟩
 | err c a=>exact .inr ⟨h.nz c a rfl,rfl⟩
theorem tokL_len (s:Str):(a6b (Sc.a3f s)).length <= 3000:=by
 have h:=(Sc.b4t s).1
 generalize Sc.a3f s = r at h
 cases r with
 | go x=>exact h.elim
 | done l=>simpa [a6b,Sc.RBd] using h
 | err c a=>simp [a6b]
end Go.Proofs.YtlfomdllnidliaaGreatDoor
namespace Go.Proofs.YtlfomdllnidliaaGreatDoor
open Go Go.Vm
def b9r:Option Bool:=some true
noncomputable def b06 (a1P:Str):Option (List Tok × Int × Int):=some (a6b (Sc.a3f a1P),b1Y (Sc.a3f a1P),tokA (Sc.a3f a1P))
def atoi (s1:Str):Option Int:=match digB s1 with
 | true=>some ((a5t s1 0:Nat):Int)
 | false=>none
end Go.Proofs.YtlfomdllnidliaaGreatDoor
namespace Go.Proofs.YtlfomdllnidliaaGreatDoor
open Go Go.Vm
def a9D (a1P:Str):Option (Unit) :=
 some (())
def b40 (a1P:Str):Unit -> Out
 | _=>.ret (.bool (ltB 8200 (List.length a1P:Int))) []
noncomputable def a8d (a1P:Str):Option (Flt × List Tok) :=
 (b06 a1P).bind fun (l2,c3,a4) =>
 some (((⟨c3,a4⟩:Flt),l2))
def b3Z (a1P:Str):Flt × List Tok -> Out
 | (a1F,c2a)=>.ret (.tuple [.ptr 0 0,.agg [.i a1F.code,.i a1F.at_]]) [(0,.row [.sl C8 c2a,.i 0,.i (List.length a1P:Int)])]
def a0G (d9:List Tok) (at2:Int) (j6:Int):Option (Int) :=
 cond (ltB at2 (List.length d9:Int)) (
 (idx' d9 at2).bind fun x4 =>
 some (x4.at_)) (
 some (j6))
def b0f (d9:List Tok) (at2:Int) (j6:Int):Int -> Out
 | a1F=>.ret (.i a1F) (hP C8 d9 at2 j6)
def u7 (n1:Int) (b6D:Int) (b5P:Str) (a8j:List Tok) (at5:Int) (b60:Int):Option (Bool) :=
 cond (leB (List.length a8j:Int) (w64 (at5 + n1))) (
 some (false)) (
 (idx' a8j (w64 (at5 + n1))).bind fun x7 =>
 cond (eqB x7.kind b6D) (
 cond (eqS b5P []) (
 some (true)) (
 some ((eqS x7.text b5P)))) (
 some (false)))
def b1a (n1:Int) (b6D:Int) (b5P:Str) (a8j:List Tok) (at5:Int) (b60:Int):Bool -> Out
 | a1F=>.ret (.bool a1F) (hP C8 a8j at5 b60)
def E9 (op1:Int) (D8:List Tok) (at3:Int) (J7:Int):Option (Int) :=
 (a0G D8 at3 J7).bind fun r5 =>
 some (r5)
def b0h (op1:Int) (D8:List Tok) (at3:Int) (J7:Int):Int -> Out
 | a5L=>.ret (.agg [.i op1,.str [],.i 0,.i 0,.str [],.i 0,.sl p9 ([]:List Typ),.st 1 p9 ([]:List Typ),.st 2 F6 ([]:List Nod),.i a5L]) [(0,.row [.sl C8 D8,.i at3,.i J7]),(1,.tip 0 0),(2,.tip 0 0)]
def Z4 (d9:List Tok) (at2:Int) (j6:Int):Option (Rs Empty Int) :=
 (a0G d9 at2 j6).bind fun r4 =>
 some (.pan r4)
def b0e (d9:List Tok) (at2:Int) (j6:Int):Rs Empty Int -> Out
 | .pan a5L=>.pan (.iface 77 (.agg [.i 20,.i a5L])) (hP C8 d9 at2 j6)
def M0 (a7R:Int) (D8:List Tok) (at3:Int) (J7:Int):Option (Rs Tok Int) :=
 (u7 0 a7R [] D8 at3 J7).bind fun r5 =>
 cond (!r5) (
 C9 (Z4 D8 at3 J7) (fun (_:Empty)=>none) fun at6 =>
 some (.pan at6)) (
 (idx' D8 at3).bind fun x7 =>
 some (.ok x7))
def a9O (a7R:Int) (D8:List Tok) (at3:Int) (J7:Int):Rs Tok Int -> Out
 | .ok a1F=>.ret (.agg [.i a1F.kind,.str a1F.text,.i a1F.at_,.i a1F.len]) [(0,.row [.sl C8 D8,.i (w64 (at3 + 1)),.i J7])]
 | .pan a1y=>.pan (.iface 77 (.agg [.i 20,.i a1y])) (hP C8 D8 at3 J7)
def H7 (d9:List Tok) (at2:Int) (j6:Int):Option (Rs Str Int) :=
 C9 (M0 2 d9 at2 j6) (fun r4 =>
 some (.ok r4.text)) fun at5 =>
 some (.pan at5)
def a8v (d9:List Tok) (at2:Int) (j6:Int):Rs Str Int -> Out
 | .ok a1F=>.ret (.str a1F) [(0,.row [.sl C8 d9,.i (w64 (at2 + 1)),.i j6])]
 | .pan a1y=>.pan (.iface 77 (.agg [.i 20,.i a1y])) (hP C8 d9 at2 j6)
def F3 (a9r:Str) (D8:List Tok) (at3:Int) (J7:Int):Option (Bool × Int) :=
 (u7 0 9 a9r D8 at3 J7).bind fun r5 =>
 cond (!r5) (
 some ((false,at3))) (
 some ((true,(w64 (at3 + 1)))))
def b0D (a9r:Str) (D8:List Tok) (at3:Int) (J7:Int):Bool × Int -> Out
 | (a1F,a1y)=>.ret (.bool a1F) (hP C8 D8 a1y J7)
def J2 (a9r:Str) (D8:List Tok) (at3:Int) (J7:Int):Option (Rs Int (Int × Int)) :=
 (F3 a9r D8 at3 J7).bind fun (r5,at6) =>
 cond (!r5) (
 C9 (Z4 D8 at6 J7) (fun (_:Empty)=>none) fun at7 =>
 some (.pan (at7,at6))) (
 some (.ok at6))
def a8z (a9r:Str) (D8:List Tok) (at3:Int) (J7:Int):Rs Int (Int × Int) -> Out
 | .ok a5L=>.ret (.tuple []) (hP C8 D8 a5L J7)
 | .pan (a3m,a6j)=>.pan (.iface 77 (.agg [.i 20,.i a3m])) (hP C8 D8 a6j J7)
def A7 (a9n:Str) (D8:List Tok) (at3:Int) (J7:Int):Option (Bool × Int) :=
 (u7 0 8 a9n D8 at3 J7).bind fun r5 =>
 cond (!r5) (
 some ((false,at3))) (
 some ((true,(w64 (at3 + 1)))))
def b0j (a9n:Str) (D8:List Tok) (at3:Int) (J7:Int):Bool × Int -> Out
 | (a1F,a1y)=>.ret (.bool a1F) (hP C8 D8 a1y J7)
def q9 (a9n:Str) (D8:List Tok) (at3:Int) (J7:Int):Option (Rs Int (Int × Int)) :=
 (A7 a9n D8 at3 J7).bind fun (r5,at6) =>
 cond (!r5) (
 C9 (Z4 D8 at6 J7) (fun (_:Empty)=>none) fun at7 =>
 some (.pan (at7,at6))) (
 some (.ok at6))
def b0l (a9n:Str) (D8:List Tok) (at3:Int) (J7:Int):Rs Int (Int × Int) -> Out
 | .ok a5L=>.ret (.tuple []) (hP C8 D8 a5L J7)
 | .pan (a1y,a3m)=>.pan (.iface 77 (.agg [.i 20,.i a1y])) (hP C8 D8 a3m J7)
def Y2 (n:Nat) (j6:Int) (d9:List Tok):Nat -> (List Nod) -> Int -> Option (Rs (List Nod × Int) (Int × Int))
  | 0,_,_=>none
  | m4 + 1,l501,a1y =>
      (E9 9 d9 a1y j6).bind fun at6 =>
      C9 (H7 d9 a1y j6) (fun r7 =>
      (app 144 l501 ([(⟨9,r7,0,(⟨0,[],0,[]⟩:Typ),[],[],at6⟩:Nod)]:List Nod)).bind fun l8 =>
      (A7 [38] d9 (w64 (a1y + 1)) j6).bind fun (r9,at10) =>
      cond (!r9) (
      some (.ok (l8,at10))) (
      Y2 n j6 d9 m4 l8 at10)) fun at11 =>
      some (.pan (at11,a1y))
def a0y (n:Nat) (d9:List Tok) (at2:Int) (j6:Int):Option (Rs (List Nod × Int) (Int × Int)) :=
 (A7 [58] d9 at2 j6).bind fun (r4,at5) =>
 cond (!r4) (
 some (.ok (([]:List Nod),at5))) (
 Y2 n j6 d9 n ([]:List Nod) at5)
def a9a (d9:List Tok) (at2:Int) (j6:Int):Rs (List Nod × Int) (Int × Int) -> Out
 | .ok (r503,a6j)=>.ret (.sl F6 r503) (hP C8 d9 a6j j6)
 | .pan (a3n,a7M)=>.pan (.iface 77 (.agg [.i 20,.i a3n])) (hP C8 d9 a7M j6)
def Q7 (n:Nat) (j6:Int) (d9:List Tok):Nat -> (List Nod) -> Int -> Option (Lr (List Nod × Int) (Rs (List Nod × Int) (Int × Int)))
  | 0,_,_=>none
  | m4 + 1,b25,a3n =>
      (E9 8 d9 a3n j6).bind fun at6 =>
      C9 (H7 d9 a3n j6) (fun r7 =>
      C9 (a0y n d9 (w64 (a3n + 1)) j6) (fun (r8,at9) =>
      (app 144 b25 ([(⟨8,r7,0,(⟨0,[],0,[]⟩:Typ),[],r8,at6⟩:Nod)]:List Nod)).bind fun l10 =>
      (A7 [44] d9 at9 j6).bind fun (r11,at12) =>
      cond (!r11) (
      some (.brk (l10,at12))) (
      Q7 n j6 d9 m4 l10 at12)) fun (at13,at14) =>
      some (.out (.pan (at13,at14)))) fun at15 =>
      some (.out (.pan (at15,a3n)))
def N9 (n:Nat) (d9:List Tok) (at2:Int) (j6:Int):Option (Rs (List Nod × Int) (Int × Int)) :=
 (A7 [60] d9 at2 j6).bind fun (r4,at5) =>
 cond (!r4) (
 some (.ok (([]:List Nod),at5))) (
 R8 (α:=List Nod × Int) (
 Q7 n j6 d9 n ([]:List Nod) at5) fun (a9C,a4h) =>
 C9 (q9 [62] d9 a4h j6) (fun at16 =>
 some (.ok (a9C,at16))) fun (at17,at18) =>
 some (.pan (at17,at18)))
def a4H (d9:List Tok) (at2:Int) (j6:Int):Rs (List Nod × Int) (Int × Int) -> Out
 | .ok (a9Q,b0o)=>.ret (.st 1 F6 a9Q) [(0,.row [.sl C8 d9,.i b0o,.i j6]),(1,.tip (tpe 10 (List.length a9Q)) (List.length a9Q))]
 | .pan (a1y,a3m)=>.pan (.iface 77 (.agg [.i 20,.i a1y])) (hP C8 d9 a3m j6)
def a4n (a6D:Str) (a0u:List Typ):Option (Typ) :=
 R8 (α:=Int) (
 Option.bind (α:=Bool) (
 cond (eqB (List.length a0u:Int) 1) (
 some (eqS a6D [65,114,114,97,121])) (
 some false)) fun x505 =>
 cond x505 (
 some (.out ((⟨5,[],0,a0u⟩:Typ)))) (
 Option.bind (α:=Bool) (
 cond (eqB (List.length a0u:Int) 1) (
 some (eqS a6D [87,101,97,107])) (
 some false)) fun x503 =>
 cond x503 (
 some (.out ((⟨11,[],0,a0u⟩:Typ)))) (
 cond (ltB 0 (List.length a0u:Int)) (
 some (.brk 6)) (
 cond (eqS a6D [73,110,116]) (
 some (.brk 1)) (
 cond (eqS a6D [66,111,111,108]) (
 some (.brk 2)) (
 cond (eqS a6D [84,101,120,116]) (
 some (.brk 3)) (
 cond (eqS a6D [85,110,105,116]) (
 some (.brk 4)) (
 some (.brk 6))))))))) fun b4h =>
 cond (!eqB b4h 6) (
 some ((⟨b4h,[],0,[]⟩:Typ))) (
 some ((⟨b4h,a6D,0,a0u⟩:Typ)))
def b0a (a6D:Str) (a0u:List Typ):Typ -> Out
 | a9Q=>.ret (.agg [.i a9Q.kind,.str a9Q.name,.i a9Q.n,.sl p9 a9Q.args]) []
structure A9 where
 D6:(List Tok) -> Int -> Int -> Option (Rs (Typ × Int) (Int × Int))
 P6:Bool -> (List Tok) -> Int -> Int -> Option (Rs (Typ × Int) (Int × Int))
def P7 (n:Nat) (Φ:A9) (j6:Int) (d9:List Tok):Nat -> (List Typ) -> Int -> Option (Lr (List Typ × Int) (Rs (Typ × Int) (Int × Int)))
  | 0,_,_=>none
  | m8 + 1,b7e,a4h =>
      (A7 [44] d9 a4h j6).bind fun (r19,at20) =>
      cond r19 (
      C9 (Φ.D6 d9 at20 j6) (fun (r21,at22) =>
      (app 56 b7e ([r21]:List Typ)).bind fun l23 =>
      P7 n Φ j6 d9 m8 l23 at22) fun (at24,at25) =>
      some (.out (.pan (at24,at25)))) (
      some (.brk (b7e,at20)))
def a09 (n:Nat) (Φ:A9) (d9:List Tok) (at2:Int) (j6:Int):Option (Rs (Typ × Int) (Int × Int)) :=
 (F3 [97,110,121] d9 at2 j6).bind fun (r4,at5) =>
 cond r4 (
 C9 (H7 d9 at5 j6) (fun r6 =>
 some (.ok ((⟨9,r6,0,[]⟩:Typ),(w64 (at5 + 1))))) fun at7 =>
 some (.pan (at7,at5))) (
 (A7 [40] d9 at5 j6).bind fun (r8,at9) =>
 cond (!r8) (
 C9 (Φ.P6 false d9 at9 j6) (fun (r10,at11) =>
 some (.ok (r10,at11))) fun (at12,at13) =>
 some (.pan (at12,at13))) (
 R8 (α:=List Typ × Int) (
 (A7 [41] d9 at9 j6).bind fun (r14,at15) =>
 cond (!r14) (
 C9 (Φ.D6 d9 at15 j6) (fun (r16,at17) =>
 (app 56 ([]:List Typ) ([r16]:List Typ)).bind fun l18 =>
 a3Y (α:=List Typ × Int) (
 P7 n Φ j6 d9 n l18 at17) fun (c0o,a2F) =>
 C9 (q9 [41] d9 a2F j6) (fun at26 =>
 some (.brk (c0o,at26))) fun (at27,at28) =>
 some (.out (.pan (at27,at28)))) fun (at29,at30) =>
 some (.out (.pan (at29,at30)))) (
 some (.brk (([]:List Typ),at15)))) fun (c0l,a5M) =>
 C9 (q9 [45,62] d9 a5M j6) (fun at31 =>
 C9 (Φ.D6 d9 at31 j6) (fun (r32,at33) =>
 (app 56 c0l ([r32]:List Typ)).bind fun l34 =>
 some (.ok ((⟨10,[],0,l34⟩:Typ),at33))) fun (at35,at36) =>
 some (.pan (at35,at36))) fun (at37,at38) =>
 some (.pan (at37,at38))))
def a1Z (d9:List Tok) (at2:Int) (j6:Int):Rs (Typ × Int) (Int × Int) -> Out
 | .ok (a2u,a6k)=>.ret (.agg [.i a2u.kind,.str a2u.name,.i a2u.n,.sl p9 a2u.args]) (hP C8 d9 a6k j6)
 | .pan (a6j,a3n)=>.pan (.iface 77 (.agg [.i 20,.i a6j])) (hP C8 d9 a3n j6)
def a0i (n:Nat) (Φ:A9) (J7:Int) (D8:List Tok):Nat -> (List Typ) -> Int -> Option (Lr (List Typ × Int) (Rs (Typ × Int) (Int × Int)))
  | 0,_,_=>none
  | m5 + 1,b7d,a1y =>
      (A7 [44] D8 a1y J7).bind fun (r11,at12) =>
      cond r11 (
      C9 (Φ.D6 D8 at12 J7) (fun (r13,at14) =>
      (app 56 b7d ([r13]:List Typ)).bind fun l15 =>
      a0i n Φ J7 D8 m5 l15 at14) fun (at16,at17) =>
      some (.out (.pan (at16,at17)))) (
      some (.brk (b7d,at12)))
def K9 (n:Nat) (Φ:A9) (inExpr1:Bool) (J7:Int) (D8:List Tok):Nat -> Int -> Typ -> Option (Lr (Int × Typ) (Rs (Typ × Int) (Int × Int)))
  | 0,_,_=>none
  | m9 + 1,b1j,n533 =>
      Option.bind (α:=Bool) (
      (u7 0 8 [46] D8 b1j J7).bind fun r24 =>
      cond r24 (
      cond inExpr1 (
      (u7 1 1 [] D8 b1j J7).bind fun r25 =>
      some (!r25)) (
      some true)) (
      some false)) fun x546 =>
      cond x546 (
      C9 (H7 D8 (w64 (b1j + 1)) J7) (fun r26 =>
      K9 n Φ inExpr1 J7 D8 m9 (w64 ((w64 (b1j + 1)) + 1)) (⟨8,r26,0,[n533]⟩:Typ)) fun at27 =>
      some (.out (.pan (at27,(w64 (b1j + 1)))))) (
      some (.brk (b1j,n533)))
def Y0 (n:Nat) (Φ:A9) (inExpr1:Bool) (D8:List Tok) (at3:Int) (J7:Int):Option (Rs (Typ × Int) (Int × Int)) :=
 C9 (H7 D8 at3 J7) (fun r5 =>
 R8 (α:=List Typ × Int) (
 (A7 [60] D8 (w64 (at3 + 1)) J7).bind fun (r6,at7) =>
 cond r6 (
 C9 (Φ.D6 D8 at7 J7) (fun (r8,at9) =>
 (app 56 ([]:List Typ) ([r8]:List Typ)).bind fun l10 =>
 a3Y (α:=List Typ × Int) (
 a0i n Φ J7 D8 n l10 at9) fun (c0m,a2P) =>
 C9 (q9 [62] D8 a2P J7) (fun at18 =>
 some (.brk (c0m,at18))) fun (at19,at20) =>
 some (.out (.pan (at19,at20)))) fun (at21,at22) =>
 some (.out (.pan (at21,at22)))) (
 some (.brk (([]:List Typ),at7)))) fun (c0k,a3n) =>
 (a4n r5 c0k).bind fun r23 =>
 R8 (α:=Int × Typ) (
 K9 n Φ inExpr1 J7 D8 n a3n r23) fun (b2f,n550) =>
 some (.ok (n550,b2f))) fun at28 =>
 some (.pan (at28,at3))
def a1i (inExpr1:Bool) (D8:List Tok) (at3:Int) (J7:Int):Rs (Typ × Int) (Int × Int) -> Out
 | .ok (r534,b3m)=>.ret (.agg [.i r534.kind,.str r534.name,.i r534.n,.sl p9 r534.args]) (hP C8 D8 b3m J7)
 | .pan (a7M,a4h)=>.pan (.iface 77 (.agg [.i 20,.i a7M])) (hP C8 D8 a4h J7)
def A9.fs:Nat -> A9
 | 0=>⟨fun _ _ _=>none,fun _ _ _ _=>none⟩
 | n + 1=>⟨a09 n (A9.fs n),Y0 n (A9.fs n)⟩
def D6 (n:Nat) (d9:List Tok) (at2:Int) (j6:Int):Option (Rs (Typ × Int) (Int × Int)):=(A9.fs n).D6 d9 at2 j6
def P6 (n:Nat) (inExpr1:Bool) (D8:List Tok) (at3:Int) (J7:Int):Option (Rs (Typ × Int) (Int × Int)):=(A9.fs n).P6 inExpr1 D8 at3 J7
def X3 (n:Nat) (j6:Int) (d9:List Tok):Nat -> (List Nod) -> Int -> Option (Rs (List Nod × Int) (Int × Int))
  | 0,_,_=>none
  | m4 + 1,l509,a5M =>
      (E9 12 d9 a5M j6).bind fun at6 =>
      C9 (D6 n d9 a5M j6) (fun (r7,at8) =>
      R8 (α:=Int × Str × Int × List Typ) (
      (A7 [61,61] d9 at8 j6).bind fun (r9,at10) =>
      cond r9 (
      C9 (D6 n d9 at10 j6) (fun (r11,at12) =>
      some (.brk (at12,[],2,([r11]:List Typ)))) fun (at13,at14) =>
      some (.out (.pan (at13,at14)))) (
      C9 (q9 [58] d9 at10 j6) (fun at15 =>
      C9 (H7 d9 at15 j6) (fun r16 =>
      some (.brk ((w64 (at15 + 1)),r16,1,([]:List Typ)))) fun at17 =>
      some (.out (.pan (at17,at15)))) fun (at18,at19) =>
      some (.out (.pan (at18,at19))))) fun (a6C,s518,n519,ts520) =>
      (app 144 l509 ([(⟨12,s518,n519,r7,ts520,[],at6⟩:Nod)]:List Nod)).bind fun l20 =>
      (A7 [44] d9 a6C j6).bind fun (r21,at22) =>
      cond (!r21) (
      some (.ok (l20,at22))) (
      X3 n j6 d9 m4 l20 at22)) fun (at23,at24) =>
      some (.pan (at23,at24))
def a0U (n:Nat) (d9:List Tok) (at2:Int) (j6:Int):Option (Rs (List Nod × Int) (Int × Int)) :=
 (F3 [119,104,101,114,101] d9 at2 j6).bind fun (r4,at5) =>
 cond (!r4) (
 some (.ok (([]:List Nod),at5))) (
 X3 n j6 d9 n ([]:List Nod) at5)
def a5F (d9:List Tok) (at2:Int) (j6:Int):Rs (List Nod × Int) (Int × Int) -> Out
 | .ok (a1F,a1y)=>.ret (.st 1 F6 a1F) [(0,.row [.sl C8 d9,.i a1y,.i j6]),(1,.tip (tpe 10 (List.length a1F)) (List.length a1F))]
 | .pan (a3m,a6j)=>.pan (.iface 77 (.agg [.i 20,.i a3m])) (hP C8 d9 a6j j6)
def K5 (d9:List Tok) (at2:Int) (j6:Int):Option (Rs Str Int) :=
 C9 (M0 1 d9 at2 j6) (fun r4 =>
 some (.ok r4.text)) fun at5 =>
 some (.pan at5)
def b0g (d9:List Tok) (at2:Int) (j6:Int):Rs Str Int -> Out
 | .ok a1F=>.ret (.str a1F) [(0,.row [.sl C8 d9,.i (w64 (at2 + 1)),.i j6])]
 | .pan a1y=>.pan (.iface 77 (.agg [.i 20,.i a1y])) (hP C8 d9 at2 j6)
def U9 (n:Nat) (j6:Int) (d9:List Tok):Nat -> (List Nod) -> Int -> Option (Lr (List Nod × Int) (Rs (List Nod × Int) (Int × Int)))
  | 0,_,_=>none
  | m5 + 1,a9C,a4h =>
      (E9 10 d9 a4h j6).bind fun at7 =>
      Option.bind (α:=Int × Int) (
      (F3 [105,110,111,117,116] d9 a4h j6).bind fun (r8,at9) =>
      cond r8 (
      some (at9,1)) (
      (F3 [99,111,110,115,117,109,101] d9 at9 j6).bind fun (r10,at11) =>
      cond r10 (
      some (at11,2)) (
      some (at11,0)))) fun (b6a,n517) =>
      C9 (K5 d9 b6a j6) (fun r12 =>
      C9 (q9 [58] d9 (w64 (b6a + 1)) j6) (fun at13 =>
      C9 (D6 n d9 at13 j6) (fun (r14,at15) =>
      (app 144 a9C ([(⟨10,r12,n517,r14,[],[],at7⟩:Nod)]:List Nod)).bind fun l16 =>
      (A7 [44] d9 at15 j6).bind fun (r17,at18) =>
      cond (!r17) (
      some (.brk (l16,at18))) (
      U9 n j6 d9 m5 l16 at18)) fun (at19,at20) =>
      some (.out (.pan (at19,at20)))) fun (at21,at22) =>
      some (.out (.pan (at21,at22)))) fun at23 =>
      some (.out (.pan (at23,b6a)))
def U4 (n:Nat) (d9:List Tok) (at2:Int) (j6:Int):Option (Rs (List Nod × Int) (Int × Int)) :=
 C9 (q9 [40] d9 at2 j6) (fun at4 =>
 (A7 [41] d9 at4 j6).bind fun (r5,at6) =>
 cond r5 (
 some (.ok (([]:List Nod),at6))) (
 R8 (α:=List Nod × Int) (
 U9 n j6 d9 n ([]:List Nod) at6) fun (l508,b0o) =>
 C9 (q9 [41] d9 b0o j6) (fun at24 =>
 some (.ok (l508,at24))) fun (at25,at26) =>
 some (.pan (at25,at26)))) fun (at27,at28) =>
 some (.pan (at27,at28))
def a5k (d9:List Tok) (at2:Int) (j6:Int):Rs (List Nod × Int) (Int × Int) -> Out
 | .ok (r510,a2P)=>.ret (.st 1 F6 r510) [(0,.row [.sl C8 d9,.i a2P,.i j6]),(1,.tip (tpe 10 (List.length r510)) (List.length r510))]
 | .pan (a1y,a3m)=>.pan (.iface 77 (.agg [.i 20,.i a1y])) (hP C8 d9 a3m j6)
def R7 (n:Nat) (d9:List Tok) (at2:Int) (j6:Int):Option (Rs (Typ × Int) (Int × Int)) :=
 (A7 [45,62] d9 at2 j6).bind fun (r4,at5) =>
 cond r4 (
 C9 (D6 n d9 at5 j6) (fun (r6,at7) =>
 some (.ok (r6,at7))) fun (at8,at9) =>
 some (.pan (at8,at9))) (
 some (.ok ((⟨4,[],0,[]⟩:Typ),at5)))
def a9f (d9:List Tok) (at2:Int) (j6:Int):Rs (Typ × Int) (Int × Int) -> Out
 | .ok (a1F,a1y)=>.ret (.agg [.i a1F.kind,.str a1F.name,.i a1F.n,.sl p9 a1F.args]) (hP C8 d9 a1y j6)
 | .pan (a3m,a6j)=>.pan (.iface 77 (.agg [.i 20,.i a3m])) (hP C8 d9 a6j j6)
def V3 (n:Nat) (d9:List Tok) (at2:Int) (j6:Int):Option (Rs (Str × Typ × List Nod × Int × Int) (Int × Int)) :=
 (E9 7 d9 at2 j6).bind fun at4 =>
 C9 (J2 [102,117,110,99] d9 at2 j6) (fun at5 =>
 C9 (K5 d9 at5 j6) (fun r6 =>
 C9 (N9 n d9 (w64 (at5 + 1)) j6) (fun (r7,at8) =>
 C9 (U4 n d9 at8 j6) (fun (r9,at10) =>
 (app 144 r7 r9).bind fun l11 =>
 (E9 11 d9 at10 j6).bind fun at12 =>
 R8 (α:=Int × List Nod) (
 (F3 [116,104,114,111,119,115] d9 at10 j6).bind fun (r13,at14) =>
 cond r13 (
 C9 (q9 [40] d9 at14 j6) (fun at15 =>
 C9 (D6 n d9 at15 j6) (fun (r16,at17) =>
 C9 (q9 [41] d9 at17 j6) (fun at18 =>
 (app 144 l11 ([(⟨11,[],0,r16,[],[],at12⟩:Nod)]:List Nod)).bind fun l19 =>
 some (.brk (at18,l19))) fun (at20,at21) =>
 some (.out (.pan (at20,at21)))) fun (at22,at23) =>
 some (.out (.pan (at22,at23)))) fun (at24,at25) =>
 some (.out (.pan (at24,at25)))) (
 some (.brk (at14,l11)))) fun (a4h,l508) =>
 C9 (R7 n d9 a4h j6) (fun (r26,at27) =>
 C9 (a0U n d9 at27 j6) (fun (r28,at29) =>
 (app 144 l508 r28).bind fun l30 =>
 some (.ok (r6,r26,l30,at4,at29))) fun (at31,at32) =>
 some (.pan (at31,at32))) fun (at33,at34) =>
 some (.pan (at33,at34))) fun (at35,at36) =>
 some (.pan (at35,at36))) fun (at37,at38) =>
 some (.pan (at37,at38))) fun at39 =>
 some (.pan (at39,at5))) fun (at40,at41) =>
 some (.pan (at40,at41))
def a4q (d9:List Tok) (at2:Int) (j6:Int):Rs (Str × Typ × List Nod × Int × Int) (Int × Int) -> Out
 | .ok (s509,t510,b4Y,a6k,b2c)=>.ret (.agg (c0 7 s509 0 t510.kind t510.name t510.n (.sl p9 t510.args) (.sl p9 ([]:List Typ)) (.st 1 F6 b4Y) a6k)) [(0,.row [.sl C8 d9,.i b2c,.i j6]),(1,.tip (tpe 10 (List.length b4Y)) (List.length b4Y))]
 | .pan (a5L,a1y)=>.pan (.iface 77 (.agg [.i 20,.i a5L])) (hP C8 d9 a1y j6)
def Q8 (n:Nat) (j6:Int) (d9:List Tok):Nat -> Int -> (List Nod) -> Option (Lr (Int × List Nod) (Rs (Nod × Int) (Int × Int)))
  | 0,_,_=>none
  | m5 + 1,a3m,b25 =>
      (u7 0 9 [116,121,112,101] d9 a3m j6).bind fun r8 =>
      cond r8 (
      (E9 16 d9 a3m j6).bind fun at9 =>
      C9 (H7 d9 (w64 (a3m + 1)) j6) (fun r10 =>
      C9 (a0y n d9 (w64 ((w64 (a3m + 1)) + 1)) j6) (fun (r11,at12) =>
      C9 (q9 [59] d9 at12 j6) (fun at13 =>
      (app 144 b25 ([(⟨16,r10,0,(⟨0,[],0,[]⟩:Typ),[],r11,at9⟩:Nod)]:List Nod)).bind fun l14 =>
      Q8 n j6 d9 m5 at13 l14) fun (at15,at16) =>
      some (.out (.pan (at15,at16)))) fun (at17,at18) =>
      some (.out (.pan (at17,at18)))) fun at19 =>
      some (.out (.pan (at19,(w64 (a3m + 1)))))) (
      some (.brk (a3m,b25)))
def P8 (n:Nat) (j6:Int) (d9:List Tok):Nat -> Int -> (List Nod) -> Option (Lr (Int × List Nod) (Rs (Nod × Int) (Int × Int)))
  | 0,_,_=>none
  | m12 + 1,a92,b3S =>
      (u7 0 9 [102,117,110,99] d9 a92 j6).bind fun r20 =>
      cond r20 (
      C9 (V3 n d9 a92 j6) (fun (s21,t22,l23,at24,at25) =>
      C9 (q9 [59] d9 at25 j6) (fun at26 =>
      (app 144 b3S ([(⟨7,s21,0,t22,[],l23,at24⟩:Nod)]:List Nod)).bind fun l27 =>
      P8 n j6 d9 m12 at26 l27) fun (at28,at29) =>
      some (.out (.pan (at28,at29)))) fun (at30,at31) =>
      some (.out (.pan (at30,at31)))) (
      some (.brk (a92,b3S)))
def a0w (n:Nat) (d9:List Tok) (at2:Int) (j6:Int):Option (Rs (Nod × Int) (Int × Int)) :=
 (E9 5 d9 at2 j6).bind fun at4 =>
 C9 (J2 [112,114,111,116,111,99,111,108] d9 at2 j6) (fun at5 =>
 C9 (H7 d9 at5 j6) (fun r6 =>
 C9 (q9 [123] d9 (w64 (at5 + 1)) j6) (fun at7 =>
 R8 (α:=Int × List Nod) (
 Q8 n j6 d9 n at7 ([]:List Nod)) fun (a2P,l512) =>
 R8 (α:=Int × List Nod) (
 P8 n j6 d9 n a2P l512) fun (b1k,l534) =>
 C9 (q9 [125] d9 b1k j6) (fun at32 =>
 some (.ok ((⟨5,r6,0,(⟨0,[],0,[]⟩:Typ),[],l534,at4⟩:Nod),at32))) fun (at33,at34) =>
 some (.pan (at33,at34))) fun (at35,at36) =>
 some (.pan (at35,at36))) fun at37 =>
 some (.pan (at37,at5))) fun (at38,at39) =>
 some (.pan (at38,at39))
def a2K (d9:List Tok) (at2:Int) (j6:Int):Rs (Nod × Int) (Int × Int) -> Out
 | .ok (a8E,a7M)=>.ret (.agg (c0 a8E.op a8E.s a8E.n a8E.t.kind a8E.t.name a8E.t.n (.sl p9 a8E.t.args) (.sl p9 a8E.ts) (.sl F6 a8E.l) a8E.at_)) (hP C8 d9 a7M j6)
 | .pan (a5L,a1y)=>.pan (.iface 77 (.agg [.i 20,.i a5L])) (hP C8 d9 a1y j6)
def Y6 (d9:List Tok) (at2:Int) (j6:Int):Option (Rs Int Int) :=
 C9 (M0 3 d9 at2 j6) (fun r4 =>
 (atoi r4.text).bind fun n5 =>
 some (.ok n5)) fun at6 =>
 some (.pan at6)
def a8x (d9:List Tok) (at2:Int) (j6:Int):Rs Int Int -> Out
 | .ok a1F=>.ret (.i a1F) [(0,.row [.sl C8 d9,.i (w64 (at2 + 1)),.i j6])]
 | .pan a1y=>.pan (.iface 77 (.agg [.i 20,.i a1y])) (hP C8 d9 at2 j6)
def W9 (n:Nat) (at4:Int) (j6:Int) (d9:List Tok):Nat -> Int -> Int -> Str -> (List Nod) -> Option (Lr (Int × Int × Str × List Nod) (Rs (Nod × Int) (Int × Int)))
  | 0,_,_,_,_=>none
  | m3 + 1,a3m,op504,s505,a9C =>
      (A7 [46] d9 a3m j6).bind fun (r6,at7) =>
      cond r6 (
      C9 (K5 d9 at7 j6) (fun r8 =>
      W9 n at4 j6 d9 m3 (w64 (at7 + 1)) 55 r8 ([(⟨op504,s505,0,(⟨0,[],0,[]⟩:Typ),[],a9C,at4⟩:Nod)]:List Nod)) fun at9 =>
      some (.out (.pan (at9,at7)))) (
      some (.brk (at7,op504,s505,a9C)))
def a0q (n:Nat) (d9:List Tok) (at2:Int) (j6:Int):Option (Rs (Nod × Int) (Int × Int)) :=
 (E9 54 d9 at2 j6).bind fun at4 =>
 C9 (K5 d9 at2 j6) (fun r5 =>
 R8 (α:=Int × Int × Str × List Nod) (
 W9 n at4 j6 d9 n (w64 (at2 + 1)) 54 r5 ([]:List Nod)) fun (at520,op521,s522,l523) =>
 some (.ok ((⟨op521,s522,0,(⟨0,[],0,[]⟩:Typ),[],l523,at4⟩:Nod),at520))) fun at10 =>
 some (.pan (at10,at2))
def a5E (d9:List Tok) (at2:Int) (j6:Int):Rs (Nod × Int) (Int × Int) -> Out
 | .ok (a9Q,b0o)=>.ret (.agg (c0 a9Q.op a9Q.s a9Q.n a9Q.t.kind a9Q.t.name a9Q.t.n (.sl p9 a9Q.t.args) (.sl p9 a9Q.ts) (.sl F6 a9Q.l) a9Q.at_)) (hP C8 d9 b0o j6)
 | .pan (a5L,a1y)=>.pan (.iface 77 (.agg [.i 20,.i a5L])) (hP C8 d9 a1y j6)
def a5C:Option (Unit) :=
 some (())
def b3e:Unit -> Out
 | _=>.ret (.sl a1U ([(⟨[[124,124]],false⟩:J4),(⟨[[38,38]],false⟩:J4),(⟨[[61,61],[33,61],[60],[60,61],[62],[62,61]],true⟩:J4),(⟨[[43],[45]],false⟩:J4),(⟨[[42],[47],[37]],false⟩:J4)]:List J4)) []
def X6 (n:Nat) (s1:List Str) (v2:Str):Nat -> Int -> Option (Lr (Unit) (Int))
  | 0,_=>none
  | m2 + 1,x501 =>
      cond (ltB x501 (List.length s1:Int)) (
      (idx' s1 x501).bind fun x3 =>
      cond (eqS v2 x3) (
      some (.out (x501))) (
      X6 n s1 v2 m2 (w64 (x501 + 1)))) (
      some (.brk ()))
def a1K (n:Nat) (s1:List Str) (v2:Str):Option (Int) :=
 R8 (α:=Unit) (
 X6 n s1 v2 n 0) fun _ =>
 some ((-1))
def a3z (s1:List Str) (v2:Str):Int -> Out
 | r502=>.ret (.i r502) []
def R9 (n:Nat) (s1:List Str) (v2:Str):Option (Bool) :=
 (a1K n s1 v2).bind fun r3 =>
 some ((leB 0 r3))
def a5H (s1:List Str) (v2:Str):Bool -> Out
 | a1F=>.ret (.bool a1F) []
structure I7 where
 J8:(List Tok) -> Int -> Int -> Option (Rs (Nod × Int) (Int × Int))
def T9 (n:Nat) (Φ:I7) (j6:Int) (d9:List Tok):Nat -> Int -> (List Nod) -> Option (Lr (Int × List Nod) (Rs (Nod × Int) (Int × Int)))
  | 0,_,_=>none
  | m6 + 1,b0o,b26 =>
      (A7 [44] d9 b0o j6).bind fun (r30,at31) =>
      cond r30 (
      C9 (Φ.J8 d9 at31 j6) (fun (r32,at33) =>
      (app 144 b26 ([r32]:List Nod)).bind fun l34 =>
      T9 n Φ j6 d9 m6 at33 l34) fun (at35,at36) =>
      some (.out (.pan (at35,at36)))) (
      some (.brk (at31,b26)))
def a0j (n:Nat) (Φ:I7) (d9:List Tok) (at2:Int) (j6:Int):Option (Rs (Nod × Int) (Int × Int)) :=
 (E9 0 d9 at2 j6).bind fun at4 =>
 R8 (α:=Int × Int × Str × Int × List Nod) (
 (u7 0 1 [95] d9 at2 j6).bind fun r5 =>
 cond r5 (
 some (.brk ((w64 (at2 + 1)),40,[],0,([]:List Nod)))) (
 (u7 0 1 [] d9 at2 j6).bind fun r6 =>
 cond r6 (
 C9 (K5 d9 at2 j6) (fun r7 =>
 some (.brk ((w64 (at2 + 1)),41,r7,0,([]:List Nod)))) fun at8 =>
 some (.out (.pan (at8,at2)))) (
 (u7 0 3 [] d9 at2 j6).bind fun r9 =>
 cond r9 (
 C9 (Y6 d9 at2 j6) (fun r10 =>
 some (.brk ((w64 (at2 + 1)),42,[],r10,([]:List Nod)))) fun at11 =>
 some (.out (.pan (at11,at2)))) (
 (A7 [45] d9 at2 j6).bind fun (r12,at13) =>
 cond r12 (
 C9 (Y6 d9 at13 j6) (fun r14 =>
 some (.brk ((w64 (at13 + 1)),42,[],(w64 (0 - r14)),([]:List Nod)))) fun at15 =>
 some (.out (.pan (at15,at13)))) (
 (u7 0 4 [] d9 at13 j6).bind fun r16 =>
 cond r16 (
 C9 (M0 4 d9 at13 j6) (fun r17 =>
 some (.brk ((w64 (at13 + 1)),44,r17.text,0,([]:List Nod)))) fun at18 =>
 some (.out (.pan (at18,at13)))) (
 (F3 [116,114,117,101] d9 at13 j6).bind fun (r19,at20) =>
 cond r19 (
 some (.brk (at20,43,[],1,([]:List Nod)))) (
 (F3 [102,97,108,115,101] d9 at20 j6).bind fun (r21,at22) =>
 cond r21 (
 some (.brk (at22,43,[],0,([]:List Nod)))) (
 C9 (q9 [46] d9 at22 j6) (fun at23 =>
 C9 (K5 d9 at23 j6) (fun r24 =>
 (A7 [40] d9 (w64 (at23 + 1)) j6).bind fun (r25,at26) =>
 cond r25 (
 C9 (Φ.J8 d9 at26 j6) (fun (r27,at28) =>
 (app 144 ([]:List Nod) ([r27]:List Nod)).bind fun l29 =>
 a3Y (α:=Int × List Nod) (
 T9 n Φ j6 d9 n at28 l29) fun (a94,l524) =>
 C9 (q9 [41] d9 a94 j6) (fun at37 =>
 some (.brk (at37,45,r24,0,l524))) fun (at38,at39) =>
 some (.out (.pan (at38,at39)))) fun (at40,at41) =>
 some (.out (.pan (at40,at41)))) (
 some (.brk (at26,45,r24,0,([]:List Nod))))) fun at42 =>
 some (.out (.pan (at42,at23)))) fun (at43,at44) =>
 some (.out (.pan (at43,at44))))))))))) fun (a6k,op513,s514,n515,l516) =>
 some (.ok ((⟨op513,s514,n515,(⟨0,[],0,[]⟩:Typ),[],l516,at4⟩:Nod),a6k))
def a1m (d9:List Tok) (at2:Int) (j6:Int):Rs (Nod × Int) (Int × Int) -> Out
 | .ok (a8E,a7M)=>.ret (.agg (c0 a8E.op a8E.s a8E.n a8E.t.kind a8E.t.name a8E.t.n (.sl p9 a8E.t.args) (.sl p9 a8E.ts) (.sl F6 a8E.l) a8E.at_)) (hP C8 d9 a7M j6)
 | .pan (a4h,b77)=>.pan (.iface 77 (.agg [.i 20,.i a4h])) (hP C8 d9 b77 j6)
def I7.fs:Nat -> I7
 | 0=>⟨fun _ _ _=>none⟩
 | n + 1=>⟨a0j n (I7.fs n)⟩
def J8 (n:Nat) (d9:List Tok) (at2:Int) (j6:Int):Option (Rs (Nod × Int) (Int × Int)):=(I7.fs n).J8 d9 at2 j6
def a1A (n:Nat):Nat -> Nod -> Option (Nod)
  | 0,_=>none
  | m1 + 1,n501 =>
      cond (eqB n501.op 55) (
      (idx' n501.l 0).bind fun x2 =>
      a1A n m1 x2) (
      some n501)
def a5m (n:Nat) (e1:Nod):Option (Bool) :=
 Option.bind (α:=Nod) (
 a1A n n e1) fun n503 =>
 some ((eqB n503.op 54))
def b31 (e1:Nod):Bool -> Out
 | b33=>.ret (.bool b33) []
structure j5 where
 F8:(List Tok) -> Int -> Int -> Option (Rs (Nod × Int) (o6 × Int))
 N7:(List Tok) -> Int -> Int -> Option (Rs (List Nod × Int) (o6 × Int))
 O0:(List Tok) -> Int -> Int -> Option (Rs (Nod × Int) (o6 × Int))
 a0R:(List Tok) -> Int -> Int -> Option (Rs (Nod × Int) (o6 × Int))
 A8:(List Tok) -> Int -> Int -> Option (Rs (Nod × Int) (o6 × Int))
 I9:(List Tok) -> Int -> Int -> Option (Rs (Nod × Int) (o6 × Int))
 a0k:(List Tok) -> Int -> Int -> Option (Rs (Nod × Int) (o6 × Int))
 a0F:(List Tok) -> Int -> Int -> Option (Rs (Nod × Int) (o6 × Int))
 K7:(List Tok) -> Int -> Int -> Option (Rs (List Nod × Int) (o6 × Int))
 a0z:(List Tok) -> Int -> Int -> Option (Rs (Nod × Int) (o6 × Int))
 a0g:(List Tok) -> Int -> Int -> Option (Rs (Nod × Int) (o6 × Int))
 O4:Nod -> (List J4) -> (List Tok) -> Int -> Int -> Option (Rs (Nod × Int) (o6 × Int))
 M7:(List Tok) -> Int -> Int -> Option (Rs (Nod × Int) (o6 × Int))
 a0S:(List Tok) -> Int -> Int -> Option (Rs (Nod × Int) (o6 × Int))
 Y9:Int -> (List Tok) -> Int -> Int -> Option (Rs (List Nod × Int × Int) (o6 × Int))
def a0J (n:Nat) (Φ:j5) (d9:List Tok) (at2:Int) (j6:Int):Option (Rs (Nod × Int) (o6 × Int)) :=
 (E9 20 d9 at2 j6).bind fun at4 =>
 C9 (q9 [123] d9 at2 j6) (fun at5 =>
 C9 (Φ.N7 d9 at5 j6) (fun (r6,at7) =>
 some (.ok ((⟨20,[],0,(⟨0,[],0,[]⟩:Typ),[],r6,at4⟩:Nod),at7))) fun (e8,at9) =>
 some (.pan (e8,at9))) fun (at10,at11) =>
 some (.pan ((⟨(⟨20,at10⟩:Flt)⟩:o6),at11))
def a3F (d9:List Tok) (at2:Int) (j6:Int):Rs (Nod × Int) (o6 × Int) -> Out
 | .ok (a8F,b77)=>.ret (.agg (c0 a8F.op a8F.s a8F.n a8F.t.kind a8F.t.name a8F.t.n (.sl p9 a8F.t.args) (.sl p9 a8F.ts) (.sl F6 a8F.l) a8F.at_)) (hP C8 d9 b77 j6)
 | .pan (e529,a95)=>.pan (.iface 77 (.agg [.i e529.fault.code,.i e529.fault.at_])) (hP C8 d9 a95 j6)
def O7 (n:Nat) (Φ:j5) (j6:Int) (d9:List Tok):Nat -> (List Nod) -> Int -> Option (Lr (List Nod × Int) (Rs (List Nod × Int) (o6 × Int)))
  | 0,_,_=>none
  | m2 + 1,l503,a6j =>
      (A7 [125] d9 a6j j6).bind fun (r4,at5) =>
      cond (!r4) (
      C9 (Φ.O0 d9 at5 j6) (fun (r6,at7) =>
      (app 144 l503 ([r6]:List Nod)).bind fun l8 =>
      O7 n Φ j6 d9 m2 l8 at7) fun (e9,at10) =>
      some (.out (.pan (e9,at10)))) (
      some (.brk (l503,at5)))
def X7 (n:Nat) (Φ:j5) (d9:List Tok) (at2:Int) (j6:Int):Option (Rs (List Nod × Int) (o6 × Int)) :=
 R8 (α:=List Nod × Int) (
 O7 n Φ j6 d9 n ([]:List Nod) at2) fun (b4Y,a6k) =>
 some (.ok (b4Y,a6k))
def a2m (d9:List Tok) (at2:Int) (j6:Int):Rs (List Nod × Int) (o6 × Int) -> Out
 | .ok (r513,a6B)=>.ret (.sl F6 r513) (hP C8 d9 a6B j6)
 | .pan (e555,at556)=>.pan (.iface 77 (.agg [.i e555.fault.code,.i e555.fault.at_])) (hP C8 d9 at556 j6)
def I8 (n:Nat) (Φ:j5) (d9:List Tok) (at2:Int) (j6:Int):Option (Rs (Nod × Int) (o6 × Int)) :=
 Option.bind (α:=Str) (
 (u7 0 9 [] d9 at2 j6).bind fun r4 =>
 cond r4 (
 (idx' d9 at2).bind fun x5 =>
 some x5.text) (
 some [])) fun a5b =>
 Option.bind (α:=Bool) (
 cond (eqS a5b [108,101,116]) (
 some (eqS a5b [108,101,116])) (
 some (eqS a5b [118,97,114]))) fun x509 =>
 cond x509 (
 C9 (Φ.a0R d9 at2 j6) (fun (r6,at7) =>
 some (.ok (r6,at7))) fun (e8,at9) =>
 some (.pan (e8,at9))) (
 cond (eqS a5b [105,102]) (
 C9 (Φ.M7 d9 at2 j6) (fun (r10,at11) =>
 some (.ok (r10,at11))) fun (e12,at13) =>
 some (.pan (e12,at13))) (
 cond (eqS a5b [109,97,116,99,104]) (
 C9 (Φ.a0S d9 at2 j6) (fun (r14,at15) =>
 some (.ok (r14,at15))) fun (e16,at17) =>
 some (.pan (e16,at17))) (
 cond (eqS a5b [100,101,102,101,114]) (
 C9 (Φ.Y9 31 d9 at2 j6) (fun (l18,at19,at20) =>
 some (.ok ((⟨31,[],0,(⟨0,[],0,[]⟩:Typ),[],l18,at19⟩:Nod),at20))) fun (e21,at22) =>
 some (.pan (e21,at22))) (
 cond (eqS a5b [119,104,105,108,101]) (
 (E9 25 d9 at2 j6).bind fun at23 =>
 C9 (Φ.A8 d9 (w64 (at2 + 1)) j6) (fun (r24,at25) =>
 C9 (Φ.F8 d9 at25 j6) (fun (r26,at27) =>
 (app 144 ([r24]:List Nod) ([r26]:List Nod)).bind fun l28 =>
 some (.ok ((⟨25,[],0,(⟨0,[],0,[]⟩:Typ),[],l28,at23⟩:Nod),at27))) fun (e29,at30) =>
 some (.pan (e29,at30))) fun (e31,at32) =>
 some (.pan (e31,at32))) (
 cond (eqS a5b [114,101,116,117,114,110]) (
 (E9 28 d9 at2 j6).bind fun at33 =>
 R8 (α:=Int × List Nod) (
 (A7 [59] d9 (w64 (at2 + 1)) j6).bind fun (r34,at35) =>
 cond (!r34) (
 C9 (Φ.A8 d9 at35 j6) (fun (r36,at37) =>
 C9 (q9 [59] d9 at37 j6) (fun at38 =>
 some (.brk (at38,([r36]:List Nod)))) fun (at39,at40) =>
 some (.out (.pan ((⟨(⟨20,at39⟩:Flt)⟩:o6),at40)))) fun (e41,at42) =>
 some (.out (.pan (e41,at42)))) (
 some (.brk (at35,([]:List Nod))))) fun (b3l,l535) =>
 some (.ok ((⟨28,[],0,(⟨0,[],0,[]⟩:Typ),[],l535,at33⟩:Nod),b3l))) (
 cond (eqS a5b [116,104,114,111,119]) (
 (E9 29 d9 at2 j6).bind fun at43 =>
 C9 (Φ.A8 d9 (w64 (at2 + 1)) j6) (fun (r44,at45) =>
 C9 (q9 [59] d9 at45 j6) (fun at46 =>
 some (.ok ((⟨29,[],0,(⟨0,[],0,[]⟩:Typ),[],[r44],at43⟩:Nod),at46))) fun (at47,at48) =>
 some (.pan ((⟨(⟨20,at47⟩:Flt)⟩:o6),at48))) fun (e49,at50) =>
 some (.pan (e49,at50))) (
 cond (eqS a5b [100,111]) (
 C9 (Φ.Y9 30 d9 at2 j6) (fun (l51,at52,at53) =>
 C9 (J2 [99,97,116,99,104] d9 at53 j6) (fun at54 =>
 C9 (K5 d9 at54 j6) (fun r55 =>
 C9 (Φ.F8 d9 (w64 (at54 + 1)) j6) (fun (r56,at57) =>
 (app 144 l51 ([r56]:List Nod)).bind fun l58 =>
 some (.ok ((⟨30,r55,0,(⟨0,[],0,[]⟩:Typ),[],l58,at52⟩:Nod),at57))) fun (e59,at60) =>
 some (.pan (e59,at60))) fun at61 =>
 some (.pan ((⟨(⟨20,at61⟩:Flt)⟩:o6),at54))) fun (at62,at63) =>
 some (.pan ((⟨(⟨20,at62⟩:Flt)⟩:o6),at63))) fun (e64,at65) =>
 some (.pan (e64,at65))) (
 C9 (Φ.A8 d9 at2 j6) (fun (r66,at67) =>
 (u7 0 8 [61] d9 at67 j6).bind fun r68 =>
 cond r68 (
 (a5m n r66).bind fun r69 =>
 cond (!r69) (
 some (.pan ((⟨(⟨22,r66.at_⟩:Flt)⟩:o6),at67))) (
 C9 (Φ.A8 d9 (w64 (at67 + 1)) j6) (fun (r70,at71) =>
 (app 144 ([r66]:List Nod) ([r70]:List Nod)).bind fun l72 =>
 C9 (q9 [59] d9 at71 j6) (fun at73 =>
 some (.ok ((⟨22,[],0,(⟨0,[],0,[]⟩:Typ),[],l72,r66.at_⟩:Nod),at73))) fun (at74,at75) =>
 some (.pan ((⟨(⟨20,at74⟩:Flt)⟩:o6),at75))) fun (e76,at77) =>
 some (.pan (e76,at77)))) (
 C9 (q9 [59] d9 at67 j6) (fun at78 =>
 some (.ok ((⟨23,[],0,(⟨0,[],0,[]⟩:Typ),[],[r66],r66.at_⟩:Nod),at78))) fun (at79,at80) =>
 some (.pan ((⟨(⟨20,at79⟩:Flt)⟩:o6),at80)))) fun (e81,at82) =>
 some (.pan (e81,at82))))))))))
def a2y (d9:List Tok) (at2:Int) (j6:Int):Rs (Nod × Int) (o6 × Int) -> Out
 | .ok (b33,a3n)=>.ret (.agg (c0 b33.op b33.s b33.n b33.t.kind b33.t.name b33.t.n (.sl p9 b33.t.args) (.sl p9 b33.ts) (.sl F6 b33.l) b33.at_)) (hP C8 d9 a3n j6)
 | .pan (e546,at547)=>.pan (.iface 77 (.agg [.i e546.fault.code,.i e546.fault.at_])) (hP C8 d9 at547 j6)
def a0K (n:Nat) (Φ:j5) (d9:List Tok) (at2:Int) (j6:Int):Option (Rs (Nod × Int) (o6 × Int)) :=
 (E9 21 d9 at2 j6).bind fun at4 =>
 R8 (α:=Int × Int) (
 (F3 [118,97,114] d9 at2 j6).bind fun (r5,at6) =>
 cond r5 (
 some (.brk (at6,1))) (
 C9 (J2 [108,101,116] d9 at6 j6) (fun at7 =>
 some (.brk (at7,0))) fun (at8,at9) =>
 some (.out (.pan ((⟨(⟨20,at8⟩:Flt)⟩:o6),at9))))) fun (b2e,n523) =>
 C9 (K5 d9 b2e j6) (fun r10 =>
 (A7 [58] d9 (w64 (b2e + 1)) j6).bind fun (r11,at12) =>
 R8 (α:=Int × Int × Str × Int × List Typ) (
 cond r11 (
 C9 (D6 n d9 at12 j6) (fun (r13,at14) =>
 some (.brk (at14,r13.kind,r13.name,r13.n,r13.args))) fun (at15,at16) =>
 some (.out (.pan ((⟨(⟨20,at15⟩:Flt)⟩:o6),at16)))) (
 some (.brk (at12,0,[],0,([]:List Typ))))) fun (b1i,b4i,b4m,n527,b39) =>
 Option.bind (α:=Bool × Int) (
 cond (eqB n523 1) (
 cond r11 (
 (A7 [59] d9 b1i j6).bind fun (r17,at18) =>
 some (r17,at18)) (
 some (false,b1i))) (
 some (false,b1i))) fun (x529,a95) =>
 cond x529 (
 some (.ok ((⟨21,r10,n523,(⟨b4i,b4m,n527,b39⟩:Typ),[],[],at4⟩:Nod),a95))) (
 C9 (q9 [61] d9 a95 j6) (fun at19 =>
 C9 (Φ.A8 d9 at19 j6) (fun (r20,at21) =>
 C9 (q9 [59] d9 at21 j6) (fun at22 =>
 some (.ok ((⟨21,r10,n523,(⟨b4i,b4m,n527,b39⟩:Typ),[],[r20],at4⟩:Nod),at22))) fun (at23,at24) =>
 some (.pan ((⟨(⟨20,at23⟩:Flt)⟩:o6),at24))) fun (e25,at26) =>
 some (.pan (e25,at26))) fun (at27,at28) =>
 some (.pan ((⟨(⟨20,at27⟩:Flt)⟩:o6),at28)))) fun at29 =>
 some (.pan ((⟨(⟨20,at29⟩:Flt)⟩:o6),b2e))
def a2i (d9:List Tok) (at2:Int) (j6:Int):Rs (Nod × Int) (o6 × Int) -> Out
 | .ok (a1F,a1y)=>.ret (.agg (c0 a1F.op a1F.s a1F.n a1F.t.kind a1F.t.name a1F.t.n (.sl p9 a1F.t.args) (.sl p9 a1F.ts) (.sl F6 a1F.l) a1F.at_)) (hP C8 d9 a1y j6)
 | .pan (e598,at599)=>.pan (.iface 77 (.agg [.i e598.fault.code,.i e598.fault.at_])) (hP C8 d9 at599 j6)
def a01 (n:Nat) (Φ:j5) (d9:List Tok) (at2:Int) (j6:Int):Option (Rs (Nod × Int) (o6 × Int)) :=
 C9 (Φ.I9 d9 at2 j6) (fun (r4,at5) =>
 (a5C).bind fun _ =>
 C9 (Φ.O4 r4 ([(⟨[[124,124]],false⟩:J4),(⟨[[38,38]],false⟩:J4),(⟨[[61,61],[33,61],[60],[60,61],[62],[62,61]],true⟩:J4),(⟨[[43],[45]],false⟩:J4),(⟨[[42],[47],[37]],false⟩:J4)]:List J4) d9 at5 j6) (fun (r6,at7) =>
 some (.ok (r6,at7))) fun (e8,at9) =>
 some (.pan (e8,at9))) fun (e10,at11) =>
 some (.pan (e10,at11))
def a5R (d9:List Tok) (at2:Int) (j6:Int):Rs (Nod × Int) (o6 × Int) -> Out
 | .ok (a3c,a5M)=>.ret (.agg (c0 a3c.op a3c.s a3c.n a3c.t.kind a3c.t.name a3c.t.n (.sl p9 a3c.t.args) (.sl p9 a3c.ts) (.sl F6 a3c.l) a3c.at_)) (hP C8 d9 a5M j6)
 | .pan (e523,b1i)=>.pan (.iface 77 (.agg [.i e523.fault.code,.i e523.fault.at_])) (hP C8 d9 b1i j6)
def a0M (n:Nat) (Φ:j5) (d9:List Tok) (at2:Int) (j6:Int):Option (Rs (Nod × Int) (o6 × Int)) :=
 (E9 66 d9 at2 j6).bind fun at4 =>
 R8 (α:=Int × Int) (
 (A7 [45] d9 at2 j6).bind fun (r5,at6) =>
 cond (!r5) (
 (A7 [33] d9 at6 j6).bind fun (r7,at8) =>
 cond (!r7) (
 C9 (Φ.a0k d9 at8 j6) (fun (r9,at10) =>
 some (.out (.ok (r9,at10)))) fun (e11,at12) =>
 some (.out (.pan (e11,at12)))) (
 some (.brk (at8,65)))) (
 some (.brk (at6,66)))) fun (a5L,op502) =>
 C9 (Φ.I9 d9 a5L j6) (fun (r13,at14) =>
 some (.ok ((⟨op502,[],0,(⟨0,[],0,[]⟩:Typ),[],[r13],at4⟩:Nod),at14))) fun (e15,at16) =>
 some (.pan (e15,at16))
def a3G (d9:List Tok) (at2:Int) (j6:Int):Rs (Nod × Int) (o6 × Int) -> Out
 | .ok (a2u,a6k)=>.ret (.agg (c0 a2u.op a2u.s a2u.n a2u.t.kind a2u.t.name a2u.t.n (.sl p9 a2u.t.args) (.sl p9 a2u.ts) (.sl F6 a2u.l) a2u.at_)) (hP C8 d9 a6k j6)
 | .pan (e543,at544)=>.pan (.iface 77 (.agg [.i e543.fault.code,.i e543.fault.at_])) (hP C8 d9 at544 j6)
def M4 (n:Nat) (Φ:j5) (j6:Int) (d9:List Tok):Nat -> Bool -> Int -> Nod -> Option (Rs (Nod × Int) (o6 × Int))
  | 0,_,_,_=>none
  | m4 + 1,b7g,b3o,b5b =>
      R8 (α:=Int × Int × Str × List Nod) (
      (A7 [46] d9 b3o j6).bind fun (r7,at8) =>
      cond r7 (
      C9 (K5 d9 at8 j6) (fun r9 =>
      a3Y (α:=Int × Int × List Nod) (
      (u7 0 8 [40] d9 (w64 (at8 + 1)) j6).bind fun r10 =>
      cond r10 (
      C9 (Φ.K7 d9 (w64 (at8 + 1)) j6) (fun (r11,at12) =>
      (app 144 ([b5b]:List Nod) r11).bind fun l13 =>
      some (.brk (at12,57,l13))) fun (e14,at15) =>
      some (.out (.pan (e14,at15)))) (
      some (.brk ((w64 (at8 + 1)),55,([b5b]:List Nod))))) fun (at554,op555,l556) =>
      some (.brk (at554,op555,r9,l556))) fun at16 =>
      some (.out (.pan ((⟨(⟨20,at16⟩:Flt)⟩:o6),at8)))) (
      (u7 0 8 [40] d9 at8 j6).bind fun r17 =>
      cond r17 (
      cond b7g (
      C9 (Φ.K7 d9 at8 j6) (fun (r18,at19) =>
      some (.brk (at19,56,b5b.s,r18))) fun (e20,at21) =>
      some (.out (.pan (e20,at21)))) (
      C9 (Φ.K7 d9 at8 j6) (fun (r22,at23) =>
      (app 144 ([b5b]:List Nod) r22).bind fun l24 =>
      some (.brk (at23,60,[],l24))) fun (e25,at26) =>
      some (.out (.pan (e25,at26))))) (
      some (.out (.ok (b5b,at8)))))) fun (at557,op558,s559,l560) =>
      M4 n Φ j6 d9 m4 false at557 (⟨op558,s559,0,(⟨0,[],0,[]⟩:Typ),[],l560,b5b.at_⟩:Nod)
def a0l (n:Nat) (Φ:j5) (d9:List Tok) (at2:Int) (j6:Int):Option (Rs (Nod × Int) (o6 × Int)) :=
 (u7 0 1 [] d9 at2 j6).bind fun r4 =>
 C9 (Φ.a0F d9 at2 j6) (fun (r5,at6) =>
 M4 n Φ j6 d9 n r4 at6 r5) fun (e27,at28) =>
 some (.pan (e27,at28))
def a1X (d9:List Tok) (at2:Int) (j6:Int):Rs (Nod × Int) (o6 × Int) -> Out
 | .ok (a2u,a6k)=>.ret (.agg (c0 a2u.op a2u.s a2u.n a2u.t.kind a2u.t.name a2u.t.n (.sl p9 a2u.t.args) (.sl p9 a2u.ts) (.sl F6 a2u.l) a2u.at_)) (hP C8 d9 a6k j6)
 | .pan (e580,at581)=>.pan (.iface 77 (.agg [.i e580.fault.code,.i e580.fault.at_])) (hP C8 d9 at581 j6)
def V8 (n:Nat) (Φ:j5) (j6:Int) (d9:List Tok):Nat -> Int -> (List Nod) -> Option (Lr (Int × List Nod) (Rs (Nod × Int) (o6 × Int)))
  | 0,_,_=>none
  | m27 + 1,at569,l570 =>
      (A7 [44] d9 at569 j6).bind fun (r34,at35) =>
      cond r34 (
      C9 (Φ.A8 d9 at35 j6) (fun (r36,at37) =>
      (app 144 l570 ([r36]:List Nod)).bind fun l38 =>
      V8 n Φ j6 d9 m27 at37 l38) fun (e39,at40) =>
      some (.out (.pan (e39,at40)))) (
      some (.brk (at35,l570)))
def a0b (n:Nat) (Φ:j5) (d9:List Tok) (at2:Int) (j6:Int):Option (Rs (Nod × Int) (o6 × Int)) :=
 (E9 0 d9 at2 j6).bind fun at4 =>
 R8 (α:=Int × Int × Str × Int × Int × Str × Int × List Typ × List Nod) (
 (u7 0 3 [] d9 at2 j6).bind fun r5 =>
 cond r5 (
 C9 (Y6 d9 at2 j6) (fun r6 =>
 some (.brk ((w64 (at2 + 1)),50,[],r6,0,[],0,([]:List Typ),([]:List Nod)))) fun at7 =>
 some (.out (.pan ((⟨(⟨20,at7⟩:Flt)⟩:o6),at2)))) (
 (u7 0 4 [] d9 at2 j6).bind fun r8 =>
 cond r8 (
 C9 (M0 4 d9 at2 j6) (fun r9 =>
 some (.brk ((w64 (at2 + 1)),52,r9.text,0,0,[],0,([]:List Typ),([]:List Nod)))) fun at10 =>
 some (.out (.pan ((⟨(⟨20,at10⟩:Flt)⟩:o6),at2)))) (
 (u7 0 5 [] d9 at2 j6).bind fun r11 =>
 cond r11 (
 C9 (Φ.a0z d9 at2 j6) (fun (r12,at13) =>
 some (.out (.ok (r12,at13)))) fun (e14,at15) =>
 some (.out (.pan (e14,at15)))) (
 (F3 [116,114,117,101] d9 at2 j6).bind fun (r16,at17) =>
 cond r16 (
 some (.brk (at17,51,[],1,0,[],0,([]:List Typ),([]:List Nod)))) (
 (F3 [102,97,108,115,101] d9 at17 j6).bind fun (r18,at19) =>
 cond r18 (
 some (.brk (at19,51,[],0,0,[],0,([]:List Typ),([]:List Nod)))) (
 (u7 0 1 [] d9 at19 j6).bind fun r20 =>
 cond r20 (
 C9 (K5 d9 at19 j6) (fun r21 =>
 some (.brk ((w64 (at19 + 1)),54,r21,0,0,[],0,([]:List Typ),([]:List Nod)))) fun at22 =>
 some (.out (.pan ((⟨(⟨20,at22⟩:Flt)⟩:o6),at19)))) (
 (F3 [99,111,110,115,117,109,101] d9 at19 j6).bind fun (r23,at24) =>
 cond r23 (
 C9 (K5 d9 at24 j6) (fun r25 =>
 some (.brk ((w64 (at24 + 1)),61,r25,0,0,[],0,([]:List Typ),([]:List Nod)))) fun at26 =>
 some (.out (.pan ((⟨(⟨20,at26⟩:Flt)⟩:o6),at24)))) (
 (A7 [91] d9 at24 j6).bind fun (r27,at28) =>
 cond r27 (
 (A7 [93] d9 at28 j6).bind fun (r29,at30) =>
 cond r29 (
 some (.brk (at30,67,[],0,0,[],0,([]:List Typ),([]:List Nod)))) (
 C9 (Φ.A8 d9 at30 j6) (fun (r31,at32) =>
 (app 144 ([]:List Nod) ([r31]:List Nod)).bind fun l33 =>
 a3Y (α:=Int × List Nod) (
 V8 n Φ j6 d9 n at32 l33) fun (at587,l588) =>
 C9 (q9 [93] d9 at587 j6) (fun at41 =>
 some (.brk (at41,67,[],0,0,[],0,([]:List Typ),l588))) fun (at42,at43) =>
 some (.out (.pan ((⟨(⟨20,at42⟩:Flt)⟩:o6),at43)))) fun (e44,at45) =>
 some (.out (.pan (e44,at45))))) (
 (A7 [40] d9 at28 j6).bind fun (r46,at47) =>
 cond r46 (
 C9 (Φ.A8 d9 at47 j6) (fun (r48,at49) =>
 C9 (q9 [41] d9 at49 j6) (fun at50 =>
 some (.out (.ok (r48,at50)))) fun (at51,at52) =>
 some (.out (.pan ((⟨(⟨20,at51⟩:Flt)⟩:o6),at52)))) fun (e53,at54) =>
 some (.out (.pan (e53,at54)))) (
 (u7 0 8 [123] d9 at47 j6).bind fun r55 =>
 cond r55 (
 C9 (Φ.a0g d9 at47 j6) (fun (r56,at57) =>
 some (.out (.ok (r56,at57)))) fun (e58,at59) =>
 some (.out (.pan (e58,at59)))) (
 C9 (P6 n true d9 at47 j6) (fun (r60,at61) =>
 (u7 0 8 [40] d9 at61 j6).bind fun r62 =>
 cond r62 (
 C9 (Φ.K7 d9 at61 j6) (fun (r63,at64) =>
 some (.brk (at64,59,[],0,r60.kind,r60.name,r60.n,r60.args,r63))) fun (e65,at66) =>
 some (.out (.pan (e65,at66)))) (
 C9 (q9 [46] d9 at61 j6) (fun at67 =>
 C9 (K5 d9 at67 j6) (fun r68 =>
 (u7 0 8 [40] d9 (w64 (at67 + 1)) j6).bind fun r69 =>
 cond r69 (
 C9 (Φ.K7 d9 (w64 (at67 + 1)) j6) (fun (r70,at71) =>
 some (.brk (at71,58,r68,1,r60.kind,r60.name,r60.n,r60.args,r70))) fun (e72,at73) =>
 some (.out (.pan (e72,at73)))) (
 some (.brk ((w64 (at67 + 1)),58,r68,0,r60.kind,r60.name,r60.n,r60.args,([]:List Nod))))) fun at74 =>
 some (.out (.pan ((⟨(⟨20,at74⟩:Flt)⟩:o6),at67)))) fun (at75,at76) =>
 some (.out (.pan ((⟨(⟨20,at75⟩:Flt)⟩:o6),at76))))) fun (at77,at78) =>
 some (.out (.pan ((⟨(⟨20,at77⟩:Flt)⟩:o6),at78)))))))))))))) fun (a6C,op518,s519,n520,c0I,c0R,n523,c0q,l525) =>
 some (.ok ((⟨op518,s519,n520,(⟨c0I,c0R,n523,c0q⟩:Typ),[],l525,at4⟩:Nod),a6C))
def a2B (d9:List Tok) (at2:Int) (j6:Int):Rs (Nod × Int) (o6 × Int) -> Out
 | .ok (a3c,a5M)=>.ret (.agg (c0 a3c.op a3c.s a3c.n a3c.t.kind a3c.t.name a3c.t.n (.sl p9 a3c.t.args) (.sl p9 a3c.ts) (.sl F6 a3c.l) a3c.at_)) (hP C8 d9 a5M j6)
 | .pan (e617,at618)=>.pan (.iface 77 (.agg [.i e617.fault.code,.i e617.fault.at_])) (hP C8 d9 at618 j6)
def Y4 (n:Nat) (Φ:j5) (j6:Int) (d9:List Tok):Nat -> (List Nod) -> Int -> Option (Lr (List Nod × Int) (Rs (List Nod × Int) (o6 × Int)))
  | 0,_,_=>none
  | m5 + 1,b25,a3n =>
      (E9 62 d9 a3n j6).bind fun at7 =>
      a3Y (α:=List Nod × Int) (
      (A7 [38] d9 a3n j6).bind fun (r8,at9) =>
      cond r8 (
      C9 (a0q n d9 at9 j6) (fun (r10,at11) =>
      (app 144 b25 ([(⟨62,[],0,(⟨0,[],0,[]⟩:Typ),[],[r10],at7⟩:Nod)]:List Nod)).bind fun l12 =>
      some (.brk (l12,at11))) fun (at13,at14) =>
      some (.out (.pan ((⟨(⟨20,at13⟩:Flt)⟩:o6),at14)))) (
      C9 (Φ.A8 d9 at9 j6) (fun (r15,at16) =>
      (app 144 b25 ([r15]:List Nod)).bind fun l17 =>
      some (.brk (l17,at16))) fun (e18,at19) =>
      some (.out (.pan (e18,at19))))) fun (l551,at552) =>
      (A7 [44] d9 at552 j6).bind fun (r20,at21) =>
      cond (!r20) (
      some (.brk (l551,at21))) (
      Y4 n Φ j6 d9 m5 l551 at21)
def a00 (n:Nat) (Φ:j5) (d9:List Tok) (at2:Int) (j6:Int):Option (Rs (List Nod × Int) (o6 × Int)) :=
 C9 (q9 [40] d9 at2 j6) (fun at4 =>
 (A7 [41] d9 at4 j6).bind fun (r5,at6) =>
 cond r5 (
 some (.ok (([]:List Nod),at6))) (
 R8 (α:=List Nod × Int) (
 Y4 n Φ j6 d9 n ([]:List Nod) at6) fun (a9C,a4h) =>
 C9 (q9 [41] d9 a4h j6) (fun at22 =>
 some (.ok (a9C,at22))) fun (at23,at24) =>
 some (.pan ((⟨(⟨20,at23⟩:Flt)⟩:o6),at24)))) fun (at25,at26) =>
 some (.pan ((⟨(⟨20,at25⟩:Flt)⟩:o6),at26))
def a2A (d9:List Tok) (at2:Int) (j6:Int):Rs (List Nod × Int) (o6 × Int) -> Out
 | .ok (r557,at558)=>.ret (.sl F6 r557) (hP C8 d9 at558 j6)
 | .pan (e579,at580)=>.pan (.iface 77 (.agg [.i e579.fault.code,.i e579.fault.at_])) (hP C8 d9 at580 j6)
def Y3 (n:Nat) (Φ:j5) (at4:Int) (j6:Int) (d9:List Tok):Nat -> Int -> (List Nod) -> Str -> Int -> Option (Rs (Nod × Int) (o6 × Int))
  | 0,_,_,_,_=>none
  | m5 + 1,a2P,l512,s513,a6B =>
      C9 (Φ.A8 d9 a2P j6) (fun (r7,at8) =>
      (app 144 l512 ([r7]:List Nod)).bind fun l9 =>
      (E9 52 d9 at8 j6).bind fun at10 =>
      (u7 0 6 [] d9 at8 j6).bind fun r11 =>
      cond r11 (
      C9 (M0 6 d9 at8 j6) (fun r12 =>
      (app 144 l9 ([(⟨52,r12.text,0,(⟨0,[],0,[]⟩:Typ),[],[],at10⟩:Nod)]:List Nod)).bind fun l13 =>
      Y3 n Φ at4 j6 d9 m5 (w64 (at8 + 1)) l13 r12.text at10) fun at14 =>
      some (.pan ((⟨(⟨20,at14⟩:Flt)⟩:o6),at8))) (
      C9 (M0 7 d9 at8 j6) (fun r15 =>
      (app 144 l9 ([(⟨52,r15.text,0,(⟨0,[],0,[]⟩:Typ),[],[],at10⟩:Nod)]:List Nod)).bind fun l16 =>
      some (.ok ((⟨53,[],0,(⟨0,[],0,[]⟩:Typ),[],l16,at4⟩:Nod),(w64 (at8 + 1))))) fun at17 =>
      some (.pan ((⟨(⟨20,at17⟩:Flt)⟩:o6),at8)))) fun (e18,at19) =>
      some (.pan (e18,at19))
def a0v (n:Nat) (Φ:j5) (d9:List Tok) (at2:Int) (j6:Int):Option (Rs (Nod × Int) (o6 × Int)) :=
 (E9 53 d9 at2 j6).bind fun at4 =>
 (E9 52 d9 at2 j6).bind fun at5 =>
 C9 (M0 5 d9 at2 j6) (fun r6 =>
 Y3 n Φ at4 j6 d9 n (w64 (at2 + 1)) ([(⟨52,r6.text,0,(⟨0,[],0,[]⟩:Typ),[],[],at5⟩:Nod)]:List Nod) r6.text at5) fun at20 =>
 some (.pan ((⟨(⟨20,at20⟩:Flt)⟩:o6),at2))
def a5j (d9:List Tok) (at2:Int) (j6:Int):Rs (Nod × Int) (o6 × Int) -> Out
 | .ok (r515,b6a)=>.ret (.agg (c0 r515.op r515.s r515.n r515.t.kind r515.t.name r515.t.n (.sl p9 r515.t.args) (.sl p9 r515.ts) (.sl F6 r515.l) r515.at_)) (hP C8 d9 b6a j6)
 | .pan (e541,b3n)=>.pan (.iface 77 (.agg [.i e541.fault.code,.i e541.fault.at_])) (hP C8 d9 b3n j6)
def a0h (n:Nat) (Φ:j5) (d9:List Tok) (at2:Int) (j6:Int):Option (Rs (Nod × Int) (o6 × Int)) :=
 (E9 63 d9 at2 j6).bind fun at4 =>
 (E9 20 d9 at2 j6).bind fun at5 =>
 C9 (q9 [123] d9 at2 j6) (fun at6 =>
 C9 (U4 n d9 at6 j6) (fun (r7,at8) =>
 C9 (R7 n d9 at8 j6) (fun (r9,at10) =>
 C9 (J2 [105,110] d9 at10 j6) (fun at11 =>
 C9 (Φ.N7 d9 at11 j6) (fun (r12,at13) =>
 (app 144 r7 ([(⟨20,[],0,(⟨0,[],0,[]⟩:Typ),[],r12,at5⟩:Nod)]:List Nod)).bind fun l14 =>
 some (.ok ((⟨63,[],0,r9,[],l14,at4⟩:Nod),at13))) fun (e15,at16) =>
 some (.pan (e15,at16))) fun (at17,at18) =>
 some (.pan ((⟨(⟨20,at17⟩:Flt)⟩:o6),at18))) fun (at19,at20) =>
 some (.pan ((⟨(⟨20,at19⟩:Flt)⟩:o6),at20))) fun (at21,at22) =>
 some (.pan ((⟨(⟨20,at21⟩:Flt)⟩:o6),at22))) fun (at23,at24) =>
 some (.pan ((⟨(⟨20,at23⟩:Flt)⟩:o6),at24))
def a4S (d9:List Tok) (at2:Int) (j6:Int):Rs (Nod × Int) (o6 × Int) -> Out
 | .ok (a1F,a1y)=>.ret (.agg (c0 a1F.op a1F.s a1F.n a1F.t.kind a1F.t.name a1F.t.n (.sl p9 a1F.t.args) (.sl p9 a1F.ts) (.sl F6 a1F.l) a1F.at_)) (hP C8 d9 a1y j6)
 | .pan (e535,at536)=>.pan (.iface 77 (.agg [.i e535.fault.code,.i e535.fault.at_])) (hP C8 d9 at536 j6)
def Q6 (n:Nat) (Φ:j5) (a2t:Int) (a0W:List J4) (P5:List Tok):Nat -> Int -> Int -> Int -> Nod -> Option (Lr (Int × Int × Nod) (Rs (Nod × Int) (o6 × Int)))
  | 0,_,_,_,_=>none
  | m6 + 1,k553,x554,b2g,n556 =>
      Option.bind (α:=Bool) (
      cond (ltB b2g (List.length P5:Int)) (
      (idx' P5 b2g).bind fun x6 =>
      cond (eqB x6.kind 8) (
      (idx' a0W k553).bind fun x7 =>
      (idx' P5 b2g).bind fun x8 =>
      (R9 n x7.ops x8.text).bind fun r9 =>
      some r9) (
      some false)) (
      some false)) fun x557 =>
      cond x557 (
      (idx' P5 b2g).bind fun x10 =>
      (subL a0W (w64 (k553 + 1)) (List.length a0W:Int)).bind fun l11 =>
      C9 (Φ.I9 P5 (w64 (b2g + 1)) a2t) (fun (r12,at13) =>
      C9 (Φ.O4 r12 l11 P5 at13 a2t) (fun (r14,at15) =>
      (idx' a0W k553).bind fun x16 =>
      cond x16.once (
      some (.brk (x554,at15,(⟨64,x10.text,0,(⟨0,[],0,[]⟩:Typ),[],[n556,r14],n556.at_⟩:Nod)))) (
      Q6 n Φ a2t a0W P5 m6 k553 x554 at15 (⟨64,x10.text,0,(⟨0,[],0,[]⟩:Typ),[],[n556,r14],n556.at_⟩:Nod))) fun (e17,at18) =>
      some (.out (.pan (e17,at18)))) fun (e19,at20) =>
      some (.out (.pan (e19,at20)))) (
      some (.brk (x554,b2g,n556)))
def L6 (n:Nat) (Φ:j5) (a0W:List J4) (a2t:Int) (P5:List Tok):Nat -> Int -> Int -> Nod -> Option (Lr (Int × Nod) (Rs (Nod × Int) (o6 × Int)))
  | 0,_,_,_=>none
  | m3 + 1,x545,b8a,n547 =>
      cond (ltB x545 (List.length a0W:Int)) (
      a3Y (α:=Int × Int × Nod) (
      Q6 n Φ a2t a0W P5 n (w64 ((w64 ((List.length a0W:Int) - 1)) - x545)) x545 b8a n547) fun (x562,at563,n564) =>
      L6 n Φ a0W a2t P5 m3 (w64 (x562 + 1)) at563 n564) (
      some (.brk (b8a,n547)))
def a1u (n:Nat) (Φ:j5) (a1p:Nod) (a0W:List J4) (P5:List Tok) (at4:Int) (a2t:Int):Option (Rs (Nod × Int) (o6 × Int)) :=
 R8 (α:=Int × Nod) (
 L6 n Φ a0W a2t P5 n 0 at4 a1p) fun (at568,n569) =>
 some (.ok (n569,at568))
def a2g (a1p:Nod) (a0W:List J4) (P5:List Tok) (at4:Int) (a2t:Int):Rs (Nod × Int) (o6 × Int) -> Out
 | .ok (r570,at571)=>.ret (.agg (c0 r570.op r570.s r570.n r570.t.kind r570.t.name r570.t.n (.sl p9 r570.t.args) (.sl p9 r570.ts) (.sl F6 r570.l) r570.at_)) (hP C8 P5 at571 a2t)
 | .pan (e523,b1i)=>.pan (.iface 77 (.agg [.i e523.fault.code,.i e523.fault.at_])) (hP C8 P5 b1i a2t)
def V5 (n:Nat) (Φ:j5) (d9:List Tok) (at2:Int) (j6:Int):Option (Rs (Nod × Int) (o6 × Int)) :=
 (E9 24 d9 at2 j6).bind fun at4 =>
 C9 (J2 [105,102] d9 at2 j6) (fun at5 =>
 C9 (Φ.A8 d9 at5 j6) (fun (r6,at7) =>
 C9 (Φ.F8 d9 at7 j6) (fun (r8,at9) =>
 (app 144 ([r6]:List Nod) ([r8]:List Nod)).bind fun l10 =>
 R8 (α:=Int × List Nod) (
 (F3 [101,108,115,101] d9 at9 j6).bind fun (r11,at12) =>
 cond r11 (
 a3Y (α:=Int × Nod) (
 (u7 0 9 [105,102] d9 at12 j6).bind fun r13 =>
 cond r13 (
 C9 (Φ.M7 d9 at12 j6) (fun (r14,at15) =>
 some (.brk (at15,r14))) fun (e16,at17) =>
 some (.out (.pan (e16,at17)))) (
 C9 (Φ.F8 d9 at12 j6) (fun (r18,at19) =>
 some (.brk (at19,r18))) fun (e20,at21) =>
 some (.out (.pan (e20,at21))))) fun (a6C,n518) =>
 (app 144 l10 ([n518]:List Nod)).bind fun l22 =>
 some (.brk (a6C,l22))) (
 some (.brk (at12,l10)))) fun (b2d,l520) =>
 some (.ok ((⟨24,[],0,(⟨0,[],0,[]⟩:Typ),[],l520,at4⟩:Nod),b2d))) fun (e23,at24) =>
 some (.pan (e23,at24))) fun (e25,at26) =>
 some (.pan (e25,at26))) fun (at27,at28) =>
 some (.pan ((⟨(⟨20,at27⟩:Flt)⟩:o6),at28))
def a1o (d9:List Tok) (at2:Int) (j6:Int):Rs (Nod × Int) (o6 × Int) -> Out
 | .ok (a2u,a6k)=>.ret (.agg (c0 a2u.op a2u.s a2u.n a2u.t.kind a2u.t.name a2u.t.n (.sl p9 a2u.t.args) (.sl p9 a2u.ts) (.sl F6 a2u.l) a2u.at_)) (hP C8 d9 a6k j6)
 | .pan (e531,b1j)=>.pan (.iface 77 (.agg [.i e531.fault.code,.i e531.fault.at_])) (hP C8 d9 b1j j6)
def V9 (n:Nat) (Φ:j5) (j6:Int) (d9:List Tok):Nat -> Int -> (List Nod) -> Option (Lr (Int × List Nod) (Rs (Nod × Int) (o6 × Int)))
  | 0,_,_=>none
  | m5 + 1,b78,l516 =>
      (u7 0 9 [99,97,115,101] d9 b78 j6).bind fun r9 =>
      cond r9 (
      (E9 27 d9 b78 j6).bind fun at10 =>
      C9 (J8 n d9 (w64 (b78 + 1)) j6) (fun (r11,at12) =>
      C9 (Φ.F8 d9 at12 j6) (fun (r13,at14) =>
      (app 144 ([r11]:List Nod) ([r13]:List Nod)).bind fun l15 =>
      (app 144 l516 ([(⟨27,[],0,(⟨0,[],0,[]⟩:Typ),[],l15,at10⟩:Nod)]:List Nod)).bind fun l16 =>
      V9 n Φ j6 d9 m5 at14 l16) fun (e17,at18) =>
      some (.out (.pan (e17,at18)))) fun (at19,at20) =>
      some (.out (.pan ((⟨(⟨20,at19⟩:Flt)⟩:o6),at20)))) (
      some (.brk (b78,l516)))
def a0L (n:Nat) (Φ:j5) (d9:List Tok) (at2:Int) (j6:Int):Option (Rs (Nod × Int) (o6 × Int)) :=
 (E9 26 d9 at2 j6).bind fun at4 =>
 C9 (J2 [109,97,116,99,104] d9 at2 j6) (fun at5 =>
 C9 (Φ.A8 d9 at5 j6) (fun (r6,at7) =>
 C9 (q9 [123] d9 at7 j6) (fun at8 =>
 R8 (α:=Int × List Nod) (
 V9 n Φ j6 d9 n at8 ([r6]:List Nod)) fun (b0p,l526) =>
 (E9 27 d9 b0p j6).bind fun at21 =>
 (E9 40 d9 b0p j6).bind fun at22 =>
 R8 (α:=Int × List Nod) (
 (F3 [100,101,102,97,117,108,116] d9 b0p j6).bind fun (r23,at24) =>
 cond r23 (
 C9 (Φ.F8 d9 at24 j6) (fun (r25,at26) =>
 (app 144 ([(⟨40,[],0,(⟨0,[],0,[]⟩:Typ),[],[],at22⟩:Nod)]:List Nod) ([r25]:List Nod)).bind fun l27 =>
 (app 144 l526 ([(⟨27,[],0,(⟨0,[],0,[]⟩:Typ),[],l27,at21⟩:Nod)]:List Nod)).bind fun l28 =>
 some (.brk (at26,l28))) fun (e29,at30) =>
 some (.out (.pan (e29,at30)))) (
 some (.brk (at24,l526)))) fun (a6C,l518) =>
 C9 (q9 [125] d9 a6C j6) (fun at31 =>
 some (.ok ((⟨26,[],0,(⟨0,[],0,[]⟩:Typ),[],l518,at4⟩:Nod),at31))) fun (at32,at33) =>
 some (.pan ((⟨(⟨20,at32⟩:Flt)⟩:o6),at33))) fun (at34,at35) =>
 some (.pan ((⟨(⟨20,at34⟩:Flt)⟩:o6),at35))) fun (e36,at37) =>
 some (.pan (e36,at37))) fun (at38,at39) =>
 some (.pan ((⟨(⟨20,at38⟩:Flt)⟩:o6),at39))
def a2j (d9:List Tok) (at2:Int) (j6:Int):Rs (Nod × Int) (o6 × Int) -> Out
 | .ok (a2u,a6k)=>.ret (.agg (c0 a2u.op a2u.s a2u.n a2u.t.kind a2u.t.name a2u.t.n (.sl p9 a2u.t.args) (.sl p9 a2u.ts) (.sl F6 a2u.l) a2u.at_)) (hP C8 d9 a6k j6)
 | .pan (e541,b3n)=>.pan (.iface 77 (.agg [.i e541.fault.code,.i e541.fault.at_])) (hP C8 d9 b3n j6)
def a0p (n:Nat) (Φ:j5) (op1:Int) (D8:List Tok) (at3:Int) (J7:Int):Option (Rs (List Nod × Int × Int) (o6 × Int)) :=
 (E9 op1 D8 at3 J7).bind fun at5 =>
 C9 (Φ.F8 D8 (w64 (at3 + 1)) J7) (fun (r6,at7) =>
 some (.ok (([r6]:List Nod),at5,at7))) fun (e8,at9) =>
 some (.pan (e8,at9))
def a6s (op1:Int) (D8:List Tok) (at3:Int) (J7:Int):Rs (List Nod × Int × Int) (o6 × Int) -> Out
 | .ok (l505,a7M,a4h)=>.ret (.agg [.i op1,.str [],.i 0,.i 0,.str [],.i 0,.sl p9 ([]:List Typ),.sl p9 ([]:List Typ),.sf F6 l505,.i a7M]) (hP C8 D8 a4h J7)
 | .pan (e538,b4C)=>.pan (.iface 77 (.agg [.i e538.fault.code,.i e538.fault.at_])) (hP C8 D8 b4C J7)
def j5.fs:Nat -> j5
 | 0=>⟨fun _ _ _=>none,fun _ _ _=>none,fun _ _ _=>none,fun _ _ _=>none,fun _ _ _=>none,fun _ _ _=>none,fun _ _ _=>none,fun _ _ _=>none,fun _ _ _=>none,fun _ _ _=>none,fun _ _ _=>none,fun _ _ _ _ _=>none,fun _ _ _=>none,fun _ _ _=>none,fun _ _ _ _=>none⟩
 | n + 1=>⟨a0J n (j5.fs n),X7 n (j5.fs n),I8 n (j5.fs n),a0K n (j5.fs n),a01 n (j5.fs n),a0M n (j5.fs n),a0l n (j5.fs n),a0b n (j5.fs n),a00 n (j5.fs n),a0v n (j5.fs n),a0h n (j5.fs n),a1u n (j5.fs n),V5 n (j5.fs n),a0L n (j5.fs n),a0p n (j5.fs n)⟩
def F8 (n:Nat) (d9:List Tok) (at2:Int) (j6:Int):Option (Rs (Nod × Int) (o6 × Int)):=(j5.fs n).F8 d9 at2 j6
def N7 (n:Nat) (d9:List Tok) (at2:Int) (j6:Int):Option (Rs (List Nod × Int) (o6 × Int)):=(j5.fs n).N7 d9 at2 j6
def O0 (n:Nat) (d9:List Tok) (at2:Int) (j6:Int):Option (Rs (Nod × Int) (o6 × Int)):=(j5.fs n).O0 d9 at2 j6
def a0R (n:Nat) (d9:List Tok) (at2:Int) (j6:Int):Option (Rs (Nod × Int) (o6 × Int)):=(j5.fs n).a0R d9 at2 j6
def A8 (n:Nat) (d9:List Tok) (at2:Int) (j6:Int):Option (Rs (Nod × Int) (o6 × Int)):=(j5.fs n).A8 d9 at2 j6
def I9 (n:Nat) (d9:List Tok) (at2:Int) (j6:Int):Option (Rs (Nod × Int) (o6 × Int)):=(j5.fs n).I9 d9 at2 j6
def a0k (n:Nat) (d9:List Tok) (at2:Int) (j6:Int):Option (Rs (Nod × Int) (o6 × Int)):=(j5.fs n).a0k d9 at2 j6
def a0F (n:Nat) (d9:List Tok) (at2:Int) (j6:Int):Option (Rs (Nod × Int) (o6 × Int)):=(j5.fs n).a0F d9 at2 j6
def K7 (n:Nat) (d9:List Tok) (at2:Int) (j6:Int):Option (Rs (List Nod × Int) (o6 × Int)):=(j5.fs n).K7 d9 at2 j6
def a0z (n:Nat) (d9:List Tok) (at2:Int) (j6:Int):Option (Rs (Nod × Int) (o6 × Int)):=(j5.fs n).a0z d9 at2 j6
def a0g (n:Nat) (d9:List Tok) (at2:Int) (j6:Int):Option (Rs (Nod × Int) (o6 × Int)):=(j5.fs n).a0g d9 at2 j6
def O4 (n:Nat) (a1p:Nod) (a0W:List J4) (P5:List Tok) (at4:Int) (a2t:Int):Option (Rs (Nod × Int) (o6 × Int)):=(j5.fs n).O4 a1p a0W P5 at4 a2t
def M7 (n:Nat) (d9:List Tok) (at2:Int) (j6:Int):Option (Rs (Nod × Int) (o6 × Int)):=(j5.fs n).M7 d9 at2 j6
def a0S (n:Nat) (d9:List Tok) (at2:Int) (j6:Int):Option (Rs (Nod × Int) (o6 × Int)):=(j5.fs n).a0S d9 at2 j6
def Y9 (n:Nat) (op1:Int) (D8:List Tok) (at3:Int) (J7:Int):Option (Rs (List Nod × Int × Int) (o6 × Int)):=(j5.fs n).Y9 op1 D8 at3 J7
def Z8 (n:Nat) (d9:List Tok) (at2:Int) (j6:Int):Option (Rs (Nod × Int) (o6 × Int)) :=
 C9 (V3 n d9 at2 j6) (fun (s4,t5,l6,at7,at8) =>
 C9 (F8 n d9 at8 j6) (fun (r9,at10) =>
 (app 144 l6 ([r9]:List Nod)).bind fun l11 =>
 some (.ok ((⟨7,s4,1,t5,[],l11,at7⟩:Nod),at10))) fun (e12,at13) =>
 some (.pan (e12,at13))) fun (at14,at15) =>
 some (.pan ((⟨(⟨20,at14⟩:Flt)⟩:o6),at15))
def a7I (d9:List Tok) (at2:Int) (j6:Int):Rs (Nod × Int) (o6 × Int) -> Out
 | .ok (a3c,a5M)=>.ret (.agg (c0 a3c.op a3c.s a3c.n a3c.t.kind a3c.t.name a3c.t.n (.sl p9 a3c.t.args) (.sl p9 a3c.ts) (.sl F6 a3c.l) a3c.at_)) (hP C8 d9 a5M j6)
 | .pan (e535,at536)=>.pan (.iface 77 (.agg [.i e535.fault.code,.i e535.fault.at_])) (hP C8 d9 at536 j6)
def U7 (n:Nat) (j6:Int) (d9:List Tok):Nat -> Int -> (List Nod) -> Option (Lr (Int × List Nod) (Rs (Nod × Int) (o6 × Int)))
  | 0,_,_=>none
  | m8 + 1,a3n,a9C =>
      (u7 0 9 [116,121,112,101] d9 a3n j6).bind fun r13 =>
      cond r13 (
      (E9 17 d9 a3n j6).bind fun at14 =>
      C9 (H7 d9 (w64 (a3n + 1)) j6) (fun r15 =>
      C9 (q9 [61] d9 (w64 ((w64 (a3n + 1)) + 1)) j6) (fun at16 =>
      C9 (D6 n d9 at16 j6) (fun (r17,at18) =>
      C9 (q9 [59] d9 at18 j6) (fun at19 =>
      (app 144 a9C ([(⟨17,r15,0,r17,[],[],at14⟩:Nod)]:List Nod)).bind fun l20 =>
      U7 n j6 d9 m8 at19 l20) fun (at21,at22) =>
      some (.out (.pan ((⟨(⟨20,at21⟩:Flt)⟩:o6),at22)))) fun (at23,at24) =>
      some (.out (.pan ((⟨(⟨20,at23⟩:Flt)⟩:o6),at24)))) fun (at25,at26) =>
      some (.out (.pan ((⟨(⟨20,at25⟩:Flt)⟩:o6),at26)))) fun at27 =>
      some (.out (.pan ((⟨(⟨20,at27⟩:Flt)⟩:o6),(w64 (a3n + 1)))))) (
      some (.brk (a3n,a9C)))
def S9 (n:Nat) (j6:Int) (d9:List Tok):Nat -> Int -> (List Nod) -> Option (Lr (Int × List Nod) (Rs (Nod × Int) (o6 × Int)))
  | 0,_,_=>none
  | m16 + 1,a94,l524 =>
      (u7 0 9 [102,117,110,99] d9 a94 j6).bind fun r28 =>
      cond r28 (
      C9 (Z8 n d9 a94 j6) (fun (r29,at30) =>
      (app 144 l524 ([r29]:List Nod)).bind fun l31 =>
      S9 n j6 d9 m16 at30 l31) fun (e32,at33) =>
      some (.out (.pan (e32,at33)))) (
      some (.brk (a94,l524)))
def a02 (n:Nat) (d9:List Tok) (at2:Int) (j6:Int):Option (Rs (Nod × Int) (o6 × Int)) :=
 (E9 6 d9 at2 j6).bind fun at4 =>
 C9 (J2 [101,120,116,101,110,100] d9 at2 j6) (fun at5 =>
 C9 (D6 n d9 at5 j6) (fun (r6,at7) =>
 C9 (q9 [58] d9 at7 j6) (fun at8 =>
 C9 (H7 d9 at8 j6) (fun r9 =>
 C9 (a0U n d9 (w64 (at8 + 1)) j6) (fun (r10,at11) =>
 C9 (q9 [123] d9 at11 j6) (fun at12 =>
 R8 (α:=Int × List Nod) (
 U7 n j6 d9 n at12 r10) fun (b2c,l514) =>
 R8 (α:=Int × List Nod) (
 S9 n j6 d9 n b2c l514) fun (b3m,l536) =>
 C9 (q9 [125] d9 b3m j6) (fun at34 =>
 some (.ok ((⟨6,r9,0,r6,[],l536,at4⟩:Nod),at34))) fun (at35,at36) =>
 some (.pan ((⟨(⟨20,at35⟩:Flt)⟩:o6),at36))) fun (at37,at38) =>
 some (.pan ((⟨(⟨20,at37⟩:Flt)⟩:o6),at38))) fun (at39,at40) =>
 some (.pan ((⟨(⟨20,at39⟩:Flt)⟩:o6),at40))) fun at41 =>
 some (.pan ((⟨(⟨20,at41⟩:Flt)⟩:o6),at8))) fun (at42,at43) =>
 some (.pan ((⟨(⟨20,at42⟩:Flt)⟩:o6),at43))) fun (at44,at45) =>
 some (.pan ((⟨(⟨20,at44⟩:Flt)⟩:o6),at45))) fun (at46,at47) =>
 some (.pan ((⟨(⟨20,at46⟩:Flt)⟩:o6),at47))
def a3s (d9:List Tok) (at2:Int) (j6:Int):Rs (Nod × Int) (o6 × Int) -> Out
 | .ok (a8F,b77)=>.ret (.agg (c0 a8F.op a8F.s a8F.n a8F.t.kind a8F.t.name a8F.t.n (.sl p9 a8F.t.args) (.sl p9 a8F.ts) (.sl F6 a8F.l) a8F.at_)) (hP C8 d9 b77 j6)
 | .pan (e599,at600)=>.pan (.iface 77 (.agg [.i e599.fault.code,.i e599.fault.at_])) (hP C8 d9 at600 j6)
def U8 (n:Nat) (j6:Int) (d9:List Tok):Nat -> (List Nod) -> Int -> Option (Lr (List Nod × Int) (Rs (List Nod × Int) (o6 × Int)))
  | 0,_,_=>none
  | m3 + 1,b26,a2P =>
      Option.bind (α:=Bool) (
      (u7 0 9 [108,101,116] d9 a2P j6).bind fun r5 =>
      cond r5 (
      some true) (
      (u7 0 9 [118,97,114] d9 a2P j6).bind fun r6 =>
      some r6)) fun b5X =>
      cond b5X (
      (E9 13 d9 a2P j6).bind fun at7 =>
      Option.bind (α:=Int × Int) (
      (F3 [118,97,114] d9 a2P j6).bind fun (r8,at9) =>
      cond r8 (
      some (at9,1)) (
      some ((w64 (at9 + 1)),0))) fun (a2F,n519) =>
      C9 (K5 d9 a2F j6) (fun r10 =>
      C9 (q9 [58] d9 (w64 (a2F + 1)) j6) (fun at11 =>
      C9 (D6 n d9 at11 j6) (fun (r12,at13) =>
      C9 (q9 [59] d9 at13 j6) (fun at14 =>
      (app 144 b26 ([(⟨13,r10,n519,r12,[],[],at7⟩:Nod)]:List Nod)).bind fun l15 =>
      U8 n j6 d9 m3 l15 at14) fun (at16,at17) =>
      some (.out (.pan ((⟨(⟨20,at16⟩:Flt)⟩:o6),at17)))) fun (at18,at19) =>
      some (.out (.pan ((⟨(⟨20,at18⟩:Flt)⟩:o6),at19)))) fun (at20,at21) =>
      some (.out (.pan ((⟨(⟨20,at20⟩:Flt)⟩:o6),at21)))) fun at22 =>
      some (.out (.pan ((⟨(⟨20,at22⟩:Flt)⟩:o6),a2F)))) (
      some (.brk (b26,a2P)))
def X9 (n:Nat) (d9:List Tok) (at2:Int) (j6:Int):Option (Rs (List Nod × Int) (o6 × Int)) :=
 C9 (q9 [123] d9 at2 j6) (fun at4 =>
 R8 (α:=List Nod × Int) (
 U8 n j6 d9 n ([]:List Nod) at4) fun (l520,a92) =>
 (E9 15 d9 a92 j6).bind fun at23 =>
 R8 (α:=List Nod × Int) (
 (F3 [100,101,105,110,105,116] d9 a92 j6).bind fun (r24,at25) =>
 cond r24 (
 C9 (F8 n d9 at25 j6) (fun (r26,at27) =>
 (app 144 l520 ([(⟨15,[],0,(⟨0,[],0,[]⟩:Typ),[],[r26],at23⟩:Nod)]:List Nod)).bind fun l28 =>
 some (.brk (l28,at27))) fun (e29,at30) =>
 some (.out (.pan (e29,at30)))) (
 some (.brk (l520,at25)))) fun (l533,b3l) =>
 C9 (q9 [125] d9 b3l j6) (fun at31 =>
 some (.ok (l533,at31))) fun (at32,at33) =>
 some (.pan ((⟨(⟨20,at32⟩:Flt)⟩:o6),at33))) fun (at34,at35) =>
 some (.pan ((⟨(⟨20,at34⟩:Flt)⟩:o6),at35))
def a3t (d9:List Tok) (at2:Int) (j6:Int):Rs (List Nod × Int) (o6 × Int) -> Out
 | .ok (r522,a94)=>.ret (.sl F6 r522) (hP C8 d9 a94 j6)
 | .pan (e602,at603)=>.pan (.iface 77 (.agg [.i e602.fault.code,.i e602.fault.at_])) (hP C8 d9 at603 j6)
def U5 (n:Nat) (j6:Int) (d9:List Tok):Nat -> (List Nod) -> Int -> Int -> (List Typ) -> Option (Lr (List Nod × Int × Int × List Typ) (Rs (List Nod × Int) (Int × Int)))
  | 0,_,_,_,_=>none
  | m11 + 1,l532,b1k,n534,ts535 =>
      (A7 [44] d9 b1k j6).bind fun (r17,at18) =>
      cond r17 (
      C9 (D6 n d9 at18 j6) (fun (r19,at20) =>
      (app 56 ts535 ([r19]:List Typ)).bind fun l21 =>
      U5 n j6 d9 m11 l532 at20 n534 l21) fun (at22,at23) =>
      some (.out (.pan (at22,at23)))) (
      some (.brk (l532,at18,n534,ts535)))
def Q5 (n:Nat) (j6:Int) (d9:List Tok):Nat -> (List Nod) -> Int -> Option (Lr (List Nod × Int) (Rs (List Nod × Int) (Int × Int)))
  | 0,_,_=>none
  | m3 + 1,b3S,a94 =>
      (A7 [125] d9 a94 j6).bind fun (r5,at6) =>
      cond (!r5) (
      (E9 14 d9 at6 j6).bind fun at7 =>
      Option.bind (α:=Int × Int) (
      (F3 [105,110,100,105,114,101,99,116] d9 at6 j6).bind fun (r8,at9) =>
      cond r8 (
      some (at9,1)) (
      some (at9,0))) fun (a95,b5a) =>
      C9 (J2 [99,97,115,101] d9 a95 j6) (fun at10 =>
      C9 (K5 d9 at10 j6) (fun r11 =>
      a3Y (α:=List Nod × Int × Int × List Typ) (
      (A7 [40] d9 (w64 (at10 + 1)) j6).bind fun (r12,at13) =>
      cond r12 (
      C9 (D6 n d9 at13 j6) (fun (r14,at15) =>
      (app 56 ([]:List Typ) ([r14]:List Typ)).bind fun l16 =>
      a3Y (α:=List Nod × Int × Int × List Typ) (
      U5 n j6 d9 n b3S at15 b5a l16) fun (l540,at541,n542,ts543) =>
      C9 (q9 [41] d9 at541 j6) (fun at24 =>
      some (.brk (l540,at24,n542,ts543))) fun (at25,at26) =>
      some (.out (.pan (at25,at26)))) fun (at27,at28) =>
      some (.out (.pan (at27,at28)))) (
      some (.brk (b3S,at13,b5a,([]:List Typ))))) fun (l544,b3o,b5b,ts547) =>
      C9 (q9 [59] d9 b3o j6) (fun at29 =>
      (app 144 l544 ([(⟨14,r11,b5b,(⟨0,[],0,[]⟩:Typ),ts547,[],at7⟩:Nod)]:List Nod)).bind fun l30 =>
      Q5 n j6 d9 m3 l30 at29) fun (at31,at32) =>
      some (.out (.pan (at31,at32)))) fun at33 =>
      some (.out (.pan (at33,at10)))) fun (at34,at35) =>
      some (.out (.pan (at34,at35)))) (
      some (.brk (b3S,at6)))
def a0Q (n:Nat) (d9:List Tok) (at2:Int) (j6:Int):Option (Rs (List Nod × Int) (Int × Int)) :=
 C9 (q9 [123] d9 at2 j6) (fun at4 =>
 R8 (α:=List Nod × Int) (
 Q5 n j6 d9 n ([]:List Nod) at4) fun (l548,b2f) =>
 some (.ok (l548,b2f))) fun (at36,at37) =>
 some (.pan (at36,at37))
def a2f (d9:List Tok) (at2:Int) (j6:Int):Rs (List Nod × Int) (Int × Int) -> Out
 | .ok (r550,at551)=>.ret (.sl F6 r550) (hP C8 d9 at551 j6)
 | .pan (a7M,a4h)=>.pan (.iface 77 (.agg [.i 20,.i a7M])) (hP C8 d9 a4h j6)
def U6 (n:Nat) (d9:List Tok) (at2:Int) (j6:Int):Option (Rs (Nod × Int) (o6 × Int)) :=
 (u7 0 9 [112,114,111,116,111,99,111,108] d9 at2 j6).bind fun r4 =>
 cond r4 (
 C9 (a0w n d9 at2 j6) (fun (r5,at6) =>
 some (.ok (r5,at6))) fun (at7,at8) =>
 some (.pan ((⟨(⟨20,at7⟩:Flt)⟩:o6),at8))) (
 (u7 0 9 [101,120,116,101,110,100] d9 at2 j6).bind fun r9 =>
 cond r9 (
 C9 (a02 n d9 at2 j6) (fun (r10,at11) =>
 some (.ok (r10,at11))) fun (e12,at13) =>
 some (.pan (e12,at13))) (
 (u7 0 9 [102,117,110,99] d9 at2 j6).bind fun r14 =>
 cond r14 (
 C9 (Z8 n d9 at2 j6) (fun (r15,at16) =>
 some (.ok (r15,at16))) fun (e17,at18) =>
 some (.pan (e17,at18))) (
 (E9 2 d9 at2 j6).bind fun at19 =>
 (F3 [99,108,97,115,115] d9 at2 j6).bind fun (r20,at21) =>
 cond r20 (
 C9 (H7 d9 at21 j6) (fun r22 =>
 C9 (N9 n d9 (w64 (at21 + 1)) j6) (fun (r23,at24) =>
 C9 (X9 n d9 at24 j6) (fun (r25,at26) =>
 (app 144 r23 r25).bind fun l27 =>
 some (.ok ((⟨4,r22,0,(⟨0,[],0,[]⟩:Typ),[],l27,at19⟩:Nod),at26))) fun (e28,at29) =>
 some (.pan (e28,at29))) fun (at30,at31) =>
 some (.pan ((⟨(⟨20,at30⟩:Flt)⟩:o6),at31))) fun at32 =>
 some (.pan ((⟨(⟨20,at32⟩:Flt)⟩:o6),at21))) (
 Option.bind (α:=Int × Int) (
 (F3 [109,111,118,101,111,110,108,121] d9 at21 j6).bind fun (r33,at34) =>
 cond r33 (
 some (at34,(w64 (0 + 1)))) (
 some (at34,0))) fun (b1k,n534) =>
 Option.bind (α:=Int × Int) (
 (F3 [102,114,111,122,101,110] d9 b1k j6).bind fun (r35,at36) =>
 cond r35 (
 some (at36,(w64 (n534 + 2)))) (
 some (at36,n534))) fun (b3m,a9F) =>
 Option.bind (α:=Bool × Int) (
 cond (eqB (IntKind.wrap .i64 ((BitVec.ofInt 64 a9F &&& BitVec.ofInt 64 1).toNat:Nat)) 0) (
 (F3 [101,110,117,109] d9 b3m j6).bind fun (r37,at38) =>
 some (r37,at38)) (
 some (false,b3m))) fun (x537,b79) =>
 cond x537 (
 C9 (H7 d9 b79 j6) (fun r39 =>
 C9 (N9 n d9 (w64 (b79 + 1)) j6) (fun (r40,at41) =>
 C9 (a0Q n d9 at41 j6) (fun (r42,at43) =>
 (app 144 r40 r42).bind fun l44 =>
 some (.ok ((⟨3,r39,a9F,(⟨0,[],0,[]⟩:Typ),[],l44,at19⟩:Nod),at43))) fun (at45,at46) =>
 some (.pan ((⟨(⟨20,at45⟩:Flt)⟩:o6),at46))) fun (at47,at48) =>
 some (.pan ((⟨(⟨20,at47⟩:Flt)⟩:o6),at48))) fun at49 =>
 some (.pan ((⟨(⟨20,at49⟩:Flt)⟩:o6),b79))) (
 C9 (J2 [115,116,114,117,99,116] d9 b79 j6) (fun at50 =>
 C9 (H7 d9 at50 j6) (fun r51 =>
 C9 (N9 n d9 (w64 (at50 + 1)) j6) (fun (r52,at53) =>
 C9 (X9 n d9 at53 j6) (fun (r54,at55) =>
 (app 144 r52 r54).bind fun l56 =>
 some (.ok ((⟨2,r51,a9F,(⟨0,[],0,[]⟩:Typ),[],l56,at19⟩:Nod),at55))) fun (e57,at58) =>
 some (.pan (e57,at58))) fun (at59,at60) =>
 some (.pan ((⟨(⟨20,at59⟩:Flt)⟩:o6),at60))) fun at61 =>
 some (.pan ((⟨(⟨20,at61⟩:Flt)⟩:o6),at50))) fun (at62,at63) =>
 some (.pan ((⟨(⟨20,at62⟩:Flt)⟩:o6),at63)))))))
def a6y (d9:List Tok) (at2:Int) (j6:Int):Rs (Nod × Int) (o6 × Int) -> Out
 | .ok (a3c,a5M)=>.ret (.agg (c0 a3c.op a3c.s a3c.n a3c.t.kind a3c.t.name a3c.t.n (.sl p9 a3c.t.args) (.sl p9 a3c.ts) (.sl F6 a3c.l) a3c.at_)) (hP C8 d9 a5M j6)
 | .pan (e601,at602)=>.pan (.iface 77 (.agg [.i e601.fault.code,.i e601.fault.at_])) (hP C8 d9 at602 j6)
def a5a (n:Nat) (d9:List Tok) (at2:Int) (j6:Int) (op4:Int) (s5:Str) (n6:Int) (a7S:Int) (a7W:Str) (n9:Int) (a3A:List Typ) (ts11:List Typ) (l12:List Nod) (at13:Int) (a5X:List Typ) (a8q:List Typ) (a8r:List Nod):Option (Rs (Int × Nod) (o6 × Int)) :=
 C9 (U6 n d9 at2 j6) (fun (r17,at18) =>
 some (.ok (at18,r17))) fun (e19,at20) =>
 some (.pan (e19,at20))
def b09 (d9:List Tok) (at2:Int) (j6:Int) (op4:Int) (s5:Str) (n6:Int) (a7S:Int) (a7W:Str) (n9:Int) (a3A:List Typ) (ts11:List Typ) (l12:List Nod) (at13:Int) (a5X:List Typ) (a8q:List Typ) (a8r:List Nod):Rs (Int × Nod) (o6 × Int) -> Out
 | .ok (a3m,n504)=>.ret (.tuple []) [(0,.row [.sl C8 d9,.i a3m,.i j6]),(1,.row [.ptr 0 0]),(2,.row (c0 n504.op n504.s n504.n n504.t.kind n504.t.name n504.t.n (.sl p9 n504.t.args) (.sl p9 n504.ts) (.sl F6 n504.l) n504.at_)),(3,.tip (tpe 4 (List.length a5X)) (List.length a5X)),(4,.tip (tpe 4 (List.length a8q)) (List.length a8q)),(5,.tip (tpe 10 (List.length a8r)) (List.length a8r))]
 | .pan (e541,b3n)=>.pan (.iface 77 (.agg [.i e541.fault.code,.i e541.fault.at_])) [(0,.row [.sl C8 d9,.i b3n,.i j6]),(1,.row [.ptr 0 0]),(2,.row (c0 op4 s5 n6 a7S a7W n9 (.sl p9 a3A) (.sl p9 ts11) (.sl F6 l12) at13)),(3,.tip (tpe 4 (List.length a5X)) (List.length a5X)),(4,.tip (tpe 4 (List.length a8q)) (List.length a8q)),(5,.tip (tpe 10 (List.length a8r)) (List.length a8r))]
def a2U (n:Nat) (d9:List Tok) (at2:Int) (j6:Int) (op4:Int) (s5:Str) (n6:Int) (a7S:Int) (a7W:Str) (n9:Int) (a3A:List Typ) (ts11:List Typ) (l12:List Nod) (at13:Int):Option (Flt × Int × Nod) :=
 C9 (a5a n d9 at2 j6 op4 s5 n6 a7S a7W n9 a3A ts11 l12 at13 a3A ts11 l12) (fun (at14,n15) =>
 some ((⟨0,0⟩:Flt),at14,n15)) fun (e16,at17) =>
 some (e16.fault,at17,(⟨op4,s5,n6,(⟨a7S,a7W,n9,a3A⟩:Typ),ts11,l12,at13⟩:Nod))
def a8w (d9:List Tok) (at2:Int) (j6:Int) (op4:Int) (s5:Str) (n6:Int) (a7S:Int) (a7W:Str) (n9:Int) (a3A:List Typ) (ts11:List Typ) (l12:List Nod) (at13:Int):Flt × Int × Nod -> Out
 | (r503,a6j,b3V)=>.ret (.agg [.i r503.code,.i r503.at_]) [(0,.row [.sl C8 d9,.i a6j,.i j6]),(1,.row [.ptr 0 0]),(2,.row (c0 b3V.op b3V.s b3V.n b3V.t.kind b3V.t.name b3V.t.n (.sl p9 b3V.t.args) (.sl p9 b3V.ts) (.sl F6 b3V.l) b3V.at_)),(3,.tip (tpe 4 (List.length a3A)) (List.length a3A)),(4,.tip (tpe 4 (List.length ts11)) (List.length ts11)),(5,.tip (tpe 10 (List.length l12)) (List.length l12))]
def a0T (n:Nat) (D8:List Tok):Nat -> Int -> Int -> Int -> Option (Lr (Int) (Int))
  | 0,_,_,_=>none
  | m4 + 1,a8a,i513,a6B =>
      cond (ltB i513 (List.length D8:Int)) (
      a3Y (α:=Int) (
      (idx' D8 i513).bind fun x5 =>
      Option.bind (α:=Bool) (
      cond (leB a6B i513) (
      cond (leB a8a 0) (
      cond (eqB x5.kind 9) (
      (R9 n ([[115,116,114,117,99,116],[101,110,117,109],[99,108,97,115,115],[112,114,111,116,111,99,111,108],[101,120,116,101,110,100],[102,117,110,99],[109,111,118,101,111,110,108,121],[102,114,111,122,101,110]]:List Str) x5.text).bind fun r6 =>
      some r6) (
      some false)) (
      some false)) (
      some false)) fun x515 =>
      cond x515 (
      some (.out (i513))) (
      Option.bind (α:=Bool) (
      cond (eqB x5.kind 8) (
      some (eqS x5.text [123])) (
      some false)) fun x516 =>
      cond x516 (
      some (.brk (w64 (a8a + 1)))) (
      Option.bind (α:=Bool) (
      cond (eqB x5.kind 8) (
      some (eqS x5.text [125])) (
      some false)) fun b5X =>
      cond b5X (
      some (.brk (w64 (a8a - 1)))) (
      some (.brk a8a))))) fun c0S =>
      a0T n D8 m4 c0S (w64 (i513 + 1)) a6B) (
      some (.brk a6B))
def a1D (n:Nat) (a7w:Int) (D8:List Tok) (at3:Int) (J7:Int):Option (Int) :=
 Option.bind (α:=Int) (
 cond (eqB at3 a7w) (
 some (w64 (at3 + 1))) (
 some at3)) fun a2P =>
 R8 (α:=Int) (
 a0T n D8 n 0 a7w a2P) fun b2e =>
 some ((List.length D8:Int))
def a3u (a7w:Int) (D8:List Tok) (at3:Int) (J7:Int):Int -> Out
 | a5M=>.ret (.tuple []) (hP C8 D8 a5M J7)
structure a0f where
 a1T:Nod -> Option (Int × Int)
def a2s (n:Nat) (Φ:a0f) (n1:Nod):Nat -> Int -> Int -> Int -> Option (Int × Int)
  | 0,_,_,_=>none
  | m3 + 1,a7j,b2i,x503 =>
      cond (ltB x503 (List.length n1.l:Int)) (
      (idx' n1.l x503).bind fun x2 =>
      (Φ.a1T x2).bind fun (r3,r4) =>
      a2s n Φ n1 m3 (w64 (a7j + r3)) (max b2i r4) (w64 (x503 + 1))) (
      some (a7j,b2i))
def a5B (n:Nat) (Φ:a0f) (n1:Nod):Option (Int × Int) :=
 Option.bind (α:=Int × Int) (
 a2s n Φ n1 n 1 0 0) fun (b2u,b8h) =>
 some ((b2u,(w64 (b8h + 1))))
def a7n (n1:Nod):Int × Int -> Out
 | (r512,r513)=>.ret (.tuple [.i r512,.i r513]) []
def a0f.fs:Nat -> a0f
 | 0=>⟨fun _=>none⟩
 | n + 1=>⟨a5B n (a0f.fs n)⟩
def a1T (n:Nat) (n1:Nod):Option (Int × Int):=(a0f.fs n).a1T n1
noncomputable def a0A (n:Nat) (a1P:Str) (P5:List Tok):Nat -> Int -> (List Flt) -> (List Nod) -> Int -> Option (List Flt × List Nod)
  | 0,_,_,_,_=>none
  | m7 + 1,a7D,a3Q,b27,a2F =>
      Option.bind (α:=Bool) (
      cond (ltB a2F (List.length P5:Int)) (
      some (ltB (List.length a3Q:Int) 20)) (
      some false)) fun x525 =>
      cond x525 (
      (a0G P5 a2F (List.length a1P:Int)).bind fun r4 =>
      (a2U n P5 a2F (List.length a1P:Int) 0 [] 0 0 [] 0 ([]:List Typ) ([]:List Typ) ([]:List Nod) 0).bind fun (r5,at6,n7) =>
      cond (!((eqB r5.code 0) && ((eqB r5.at_ 0) && true))) (
      (app 16 a3Q ([r5]:List Flt)).bind fun l8 =>
      (a1D n a2F P5 at6 (List.length a1P:Int)).bind fun at9 =>
      a0A n a1P P5 m7 a7D l8 b27 at9) (
      (a1T n n7).bind fun (r10,r11) =>
      cond (ltB 40 (w64 (1 + r11))) (
      (app 16 a3Q ([(⟨21,r4⟩:Flt)]:List Flt)).bind fun l12 =>
      a0A n a1P P5 m7 a7D l12 b27 at6) (
      cond (ltB 4000 (w64 (a7D + r10))) (
      (app 16 a3Q ([(⟨2,r4⟩:Flt)]:List Flt)).bind fun l13 =>
      a0A n a1P P5 m7 a7D l13 b27 at6) (
      (app 144 b27 ([n7]:List Nod)).bind fun l14 =>
      a0A n a1P P5 m7 (w64 (a7D + r10)) a3Q l14 at6)))) (
      some (a3Q,b27))
noncomputable def a5A (n:Nat) (a1P:Str):Option (Nod × List Flt) :=
 (a8d a1P).bind fun (r2,P5) =>
 cond (!((eqB r2.code 0) && ((eqB r2.at_ 0) && true))) (
 some (((⟨0,[],0,(⟨0,[],0,[]⟩:Typ),[],[],0⟩:Nod),([r2]:List Flt)))) (
 Option.bind (α:=List Flt × List Nod) (
 a0A n a1P P5 n 1 ([]:List Flt) ([]:List Nod) 0) fun (b6p,l531) =>
 some (((⟨1,[],0,(⟨0,[],0,[]⟩:Typ),[],l531,0⟩:Nod),b6p)))
def b3d (a1P:Str):Nod × List Flt -> Out
 | (r532,r533)=>.ret (.tuple [.agg (c0 r532.op r532.s r532.n r532.t.kind r532.t.name r532.t.n (.sl p9 r532.t.args) (.sl p9 r532.ts) (.sl F6 r532.l) r532.at_),.sl a97 r533]) []
structure V4 where
 a1z:Nod -> (List (Int × Bool)) -> Option (Bool)
def a1H (n:Nat) (Φ:V4) (m2:List (Int × Bool)) (n1:Nod):Nat -> Int -> Option (Lr (Unit) (Bool))
  | 0,_=>none
  | m4 + 1,i504 =>
      cond (ltB i504 (List.length n1.l:Int)) (
      Option.bind (α:=Bool) (
      (idx' n1.l i504).bind fun x3 =>
      cond (ltB x3.at_ n1.at_) (
      some true) (
      (idx' n1.l i504).bind fun x4 =>
      (Φ.a1z x4 m2).bind fun r5 =>
      some (!r5))) fun x507 =>
      cond x507 (
      some (.out (false))) (
      a1H n Φ m2 n1 m4 (w64 (i504 + 1)))) (
      some (.brk ()))
def a4i (n:Nat) (Φ:V4) (n1:Nod) (m2:List (Int × Bool)):Option (Bool) :=
 cond (!((a9E eqB n1.at_ m2).getD false)) (
 some (false)) (
 R8 (α:=Unit) (
 a1H n Φ m2 n1 n 0) fun _ =>
 some (true))
def a4B (n1:Nod) (m2:List (Int × Bool)):Bool -> Out
 | r502=>.ret (.bool r502) [(0,.mp (a8Q (V.int .i64) V.bool m2))]
def V4.fs:Nat -> V4
 | 0=>⟨fun _ _=>none⟩
 | n + 1=>⟨a4i n (V4.fs n)⟩
def a1z (n:Nat) (n1:Nod) (m2:List (Int × Bool)):Option (Bool):=(V4.fs n).a1z n1 m2
noncomputable def a0I (n:Nat):Nat -> (List Tok) -> Int -> Nod -> (List (Int × Bool)) -> Option (Nod × (List (Int × Bool)))
  | 0,_,_,_,_=>none
  | m7 + 1,l551,i552,n553,m554 =>
      cond (ltB i552 (List.length l551:Int)) (
      (idx' l551 i552).bind fun x8 =>
      a0I n m7 l551 (w64 (i552 + 1)) n553 (mput eqB x8.at_ true m554)) (
      some (n553,m554))
noncomputable def Z7 (n:Nat):Nat -> Int -> Nod -> (List (Int × Bool)) -> Option (Lr (Unit) (Bool))
  | 0,_,_,_=>none
  | m11 + 1,i561,n562,m563 =>
      cond (ltB i561 (List.length n562.l:Int)) (
      Option.bind (α:=Bool) (
      (idx' n562.l i561).bind fun x9 =>
      (a1z n x9 m563).bind fun r10 =>
      cond (!r10) (
      some true) (
      cond (ltB 0 i561) (
      (idx' n562.l i561).bind fun x11 =>
      (idx' n562.l (w64 (i561 - 1))).bind fun x12 =>
      some (leB x11.at_ x12.at_)) (
      some false))) fun x564 =>
      cond x564 (
      some (.out (false))) (
      Z7 n m11 (w64 (i561 + 1)) n562 m563)) (
      some (.brk ()))
noncomputable def a3Z (n:Nat) (a1P:Str):Option (Bool) :=
 (a9D a1P).bind fun _ =>
 cond (ltB 8200 (List.length a1P:Int)) (
 (b9r).bind fun bb2 =>
 some (bb2)) (
 (a5A n a1P).bind fun (r3,r4) =>
 (b06 a1P).bind fun (l5,c6,a7) =>
 Option.bind (α:=Nod × (List (Int × Bool))) (
 a0I n n l5 0 r3 []) fun (n559,m560) =>
 R8 (α:=Unit) (
 Z7 n n 0 n559 m560) fun _ =>
 (b9r).bind fun bb13 =>
 some (bb13))
def a5P (a1P:Str):Bool -> Out
 | a1F=>.ret (.bool a1F) []
end Go.Proofs.YtlfomdllnidliaaGreatDoor
namespace Go.Proofs.YtlfomdllnidliaaGreatDoor
open Go Go.Vm
structure a4D where
 b1S:Nod -> Option (Int × Int)
def b1t (n:Nat) (Φ:a4D) (n1:Nod):Nat -> Int -> Int -> Int -> Option (Int × Int)
  | 0,_,_,_=>none
  | m3 + 1,a7j,c0w,i503 =>
      cond (ltB i503 (List.length n1.l:Int)) (
      (idx' n1.l i503).bind fun x2 =>
      (Φ.b1S x2).bind fun (r3,r4) =>
      b1t n Φ n1 m3 (w64 (a7j + r3)) (max c0w r4) (w64 (i503 + 1))) (
      some (a7j,c0w))
def b7V (n:Nat) (Φ:a4D) (n1:Nod):Option (Int × Int) :=
 Option.bind (α:=Int × Int) (
 b1t n Φ n1 n 1 0 0) fun (b2u,deep511) =>
 some ((b2u,(w64 (deep511 + 1))))
def a4D.fs:Nat -> a4D
 | 0=>⟨fun _=>none⟩
 | n + 1=>⟨b7V n (a4D.fs n)⟩
def b1S (n:Nat) (n1:Nod):Option (Int × Int):=(a4D.fs n).b1S n1
def L9 (l1:List Tok) (I4:Int) (at3:Int) (w9:Int):Option (Int) :=
 cond (ltB at3 (List.length l1:Int)) (
 (idx' l1 at3).bind fun x5 =>
 some (x5.at_)) (
 some (I4))
def J5 (a7R:Int) (text2:Str) (l3:List Tok) (end4:Int) (at5:Int) (place6:Int):Option (Bool) :=
 cond (ltB at5 (List.length l3:Int)) (
 (idx' l3 at5).bind fun x7 =>
 cond (eqB x7.kind a7R) (
 (idx' l3 at5).bind fun x8 =>
 some ((eqS x8.text text2))) (
 some (false))) (
 some (false))
def a4d (a7R:Int) (text2:Str) (l3:List Tok) (end4:Int) (at5:Int) (place6:Int):Option (Bool × Int) :=
 (J5 a7R text2 l3 end4 at5 place6).bind fun r7 =>
 cond r7 (
 some ((true,(w64 (at5 + 1))))) (
 some ((false,at5)))
def p8 (s1:Str) (l2:List Tok) (a1l:Int) (at4:Int) (a04:Int):Option (Bool × Int) :=
 (a4d 8 s1 l2 a1l at4 a04).bind fun (r6,at7) =>
 some ((r6,at7))
def a9R:Option (Unit) :=
 some (())
def a0c (a7R:Int) (l2:List Tok) (a1l:Int) (at4:Int) (a04:Int):Option (Bool) :=
 cond (ltB at4 (List.length l2:Int)) (
 (idx' l2 at4).bind fun x6 =>
 some ((eqB x6.kind a7R))) (
 some (false))
def F4 (a7R:Int) (l2:List Tok) (a1l:Int) (at4:Int) (a04:Int):Option (Str × Bool × Int) :=
 (a0c a7R l2 a1l at4 a04).bind fun r6 =>
 cond r6 (
 (idx' l2 at4).bind fun x7 =>
 some ((x7.text,true,(w64 (at4 + 1))))) (
 some (([],false,at4)))
def a0N (n:Nat) (I4:Int) (l1:List Tok) (w9:Int) (r5:Int):Nat -> Bool -> Int -> Int -> Str -> (List Nod) -> Option (Bool × Int × Int × Str × List Nod)
  | 0,_,_,_,_,_=>none
  | m4 + 1,ok503,a6j,op505,s506,l507 =>
      Option.bind (α:=Bool × Int) (
      cond ok503 (
      (p8 [46] l1 I4 a6j w9).bind fun (r9,at10) =>
      some (r9,at10)) (
      some (false,a6j))) fun (b5X,a2F) =>
      cond b5X (
      (F4 1 l1 I4 a2F w9).bind fun (r11,r12,at13) =>
      a0N n I4 l1 w9 r5 m4 r12 at13 55 r11 ([(⟨op505,s506,0,(⟨0,[],0,[]⟩:Typ),[],l507,r5⟩:Nod)]:List Nod)) (
      some (ok503,a2F,op505,s506,l507))
def a2X (n:Nat) (l1:List Tok) (I4:Int) (at3:Int) (w9:Int):Option (Nod × Bool × Int) :=
 (L9 l1 I4 at3 w9).bind fun r5 =>
 (F4 1 l1 I4 at3 w9).bind fun (r6,r7,at8) =>
 Option.bind (α:=Bool × Int × Int × Str × List Nod) (
 a0N n I4 l1 w9 r5 n r7 at8 54 r6 ([]:List Nod)) fun (ok524,b0p,op526,s527,l528) =>
 some (((⟨op526,s527,0,(⟨0,[],0,[]⟩:Typ),[],l528,r5⟩:Nod),ok524,b0p))
def a2M (n:Nat) (s1:Str):Nat -> Int -> Int -> Option (Int)
  | 0,_,_=>none
  | m3 + 1,n501,i502 =>
      cond (ltB i502 (List.length s1:Int)) (
      (idxS s1 i502).bind fun b2 =>
      a2M n s1 m3 (w64 ((w64 (n501 * 10)) + (w64 (IntKind.wrap .u8 (b2 - 48))))) (w64 (i502 + 1))) (
      some n501)
def a2n (n:Nat) (s1:Str):Option (Int) :=
 Option.bind (α:=Int) (
 a2M n s1 n 0 0) fun n507 =>
 some (n507)
def G9 (s1:Str) (l2:List Tok) (a1l:Int) (at4:Int) (a04:Int):Option (Bool × Int) :=
 (a4d 9 s1 l2 a1l at4 a04).bind fun (r6,at7) =>
 some ((r6,at7))
structure F5 where
 P9:(List Tok) -> Int -> Int -> Int -> Option (Typ × Bool × Int)
 a1q:(List Tok) -> Int -> Int -> Int -> Option (List Typ × Bool × Int)
 a1f:(List Tok) -> Int -> Int -> Int -> Option (Typ × Bool × Int)
def Y7 (n:Nat) (Φ:F5) (I4:Int) (l1:List Tok) (w9:Int):Nat -> Bool -> Int -> Typ -> Option (Bool × Int × Typ)
  | 0,_,_,_=>none
  | m18 + 1,ok558,at559,n560 =>
      Option.bind (α:=Bool × Int) (
      cond ok558 (
      (p8 [46] l1 I4 at559 w9).bind fun (r28,at29) =>
      some (r28,at29)) (
      some (false,at559))) fun (x572,at573) =>
      cond x572 (
      (F4 2 l1 I4 at573 w9).bind fun (r30,r31,at32) =>
      Y7 n Φ I4 l1 w9 m18 r31 at32 (⟨8,r30,0,[n560]⟩:Typ)) (
      some (ok558,at573,n560))
def a5g (n:Nat) (Φ:F5) (l1:List Tok) (I4:Int) (at3:Int) (w9:Int):Option (Typ × Bool × Int) :=
 (G9 [97,110,121] l1 I4 at3 w9).bind fun (r5,at6) =>
 cond r5 (
 (F4 2 l1 I4 at6 w9).bind fun (r7,r8,at9) =>
 some (((⟨9,r7,0,[]⟩:Typ),r8,at9))) (
 (p8 [40] l1 I4 at6 w9).bind fun (r10,at11) =>
 cond r10 (
 R8 (α:=Int × List Typ) (
 (p8 [41] l1 I4 at11 w9).bind fun (r12,at13) =>
 cond (!r12) (
 (Φ.a1q l1 I4 at13 w9).bind fun (r14,r15,at16) =>
 Option.bind (α:=Bool × Int) (
 cond (!r15) (
 some (true,at16)) (
 (p8 [41] l1 I4 at16 w9).bind fun (r17,at18) =>
 some ((!r17),at18))) fun (x510,a2P) =>
 cond x510 (
 some (.out (((⟨10,[],0,[]⟩:Typ),false,a2P)))) (
 some (.brk (a2P,r14)))) (
 some (.brk (at13,([]:List Typ))))) fun (a6C,c0p) =>
 (p8 [45,62] l1 I4 a6C w9).bind fun (r19,at20) =>
 cond (!r19) (
 some (((⟨10,[],0,c0p⟩:Typ),false,at20))) (
 (Φ.P9 l1 I4 at20 w9).bind fun (r21,r22,at23) =>
 (app 56 c0p ([r21]:List Typ)).bind fun l24 =>
 some (((⟨10,[],0,l24⟩:Typ),r22,at23)))) (
 (Φ.a1f l1 I4 at11 w9).bind fun (r25,r26,at27) =>
 Option.bind (α:=Bool × Int × Typ) (
 Y7 n Φ I4 l1 w9 n r26 at27 r25) fun (ok577,at578,n579) =>
 some ((n579,ok577,at578))))
def a1k (n:Nat) (Φ:F5) (I4:Int) (l1:List Tok) (w9:Int):Nat -> (List Typ) -> Bool -> Int -> Option (Lr (List Typ × Int) (List Typ × Bool × Int))
  | 0,_,_,_=>none
  | m3 + 1,l501,more502,a3m =>
      cond more502 (
      (Φ.P9 l1 I4 a3m w9).bind fun (r5,r6,at7) =>
      cond (!r6) (
      some (.out ((l501,false,at7)))) (
      (app 56 l501 ([r5]:List Typ)).bind fun l8 =>
      (p8 [44] l1 I4 at7 w9).bind fun (r9,at10) =>
      a1k n Φ I4 l1 w9 m3 l8 r9 at10)) (
      some (.brk (l501,a3m)))
def a0P (n:Nat) (Φ:F5) (l1:List Tok) (I4:Int) (at3:Int) (w9:Int):Option (List Typ × Bool × Int) :=
 R8 (α:=List Typ × Int) (
 a1k n Φ I4 l1 w9 n ([]:List Typ) true at3) fun (l508,b0o) =>
 some ((l508,true,b0o))
def a1E (n:Nat) (Φ:F5) (l1:List Tok) (I4:Int) (at3:Int) (w9:Int):Option (Typ × Bool × Int) :=
 (F4 2 l1 I4 at3 w9).bind fun (r5,r6,at7) =>
 cond (!r6) (
 some (((⟨0,[],0,[]⟩:Typ),false,at7))) (
 R8 (α:=List Typ × Int) (
 (p8 [60] l1 I4 at7 w9).bind fun (r8,at9) =>
 cond r8 (
 (Φ.a1q l1 I4 at9 w9).bind fun (r10,r11,at12) =>
 Option.bind (α:=Bool × Int) (
 cond (!r11) (
 some (true,at12)) (
 (p8 [62] l1 I4 at12 w9).bind fun (r13,at14) =>
 some ((!r13),at14))) fun (x510,a2P) =>
 cond x510 (
 some (.out (((⟨0,[],0,[]⟩:Typ),false,a2P)))) (
 some (.brk (r10,a2P)))) (
 some (.brk (([]:List Typ),at9)))) fun (l555,at556) =>
 Option.bind (α:=Int) (
 Option.bind (α:=Bool) (
 cond (eqB (List.length l555:Int) 0) (
 some (eqS r5 [73,110,116])) (
 some false)) fun x557 =>
 cond x557 (
 some 1) (
 Option.bind (α:=Bool) (
 cond (eqB (List.length l555:Int) 0) (
 some (eqS r5 [66,111,111,108])) (
 some false)) fun x558 =>
 cond x558 (
 some 2) (
 Option.bind (α:=Bool) (
 cond (eqB (List.length l555:Int) 0) (
 some (eqS r5 [84,101,120,116])) (
 some false)) fun x559 =>
 cond x559 (
 some 3) (
 Option.bind (α:=Bool) (
 cond (eqB (List.length l555:Int) 0) (
 some (eqS r5 [85,110,105,116])) (
 some false)) fun x560 =>
 cond x560 (
 some 4) (
 Option.bind (α:=Bool) (
 cond (eqB (List.length l555:Int) 1) (
 some (eqS r5 [65,114,114,97,121])) (
 some false)) fun x561 =>
 cond x561 (
 some 5) (
 Option.bind (α:=Bool) (
 cond (eqB (List.length l555:Int) 1) (
 some (eqS r5 [87,101,97,107])) (
 some false)) fun x562 =>
 cond x562 (
 some 11) (
 some 6))))))) fun c0J =>
 Option.bind (α:=Str) (
 cond (!eqB c0J 6) (
 some []) (
 some r5)) fun s564 =>
 some (((⟨c0J,s564,0,l555⟩:Typ),true,at556)))
def F5.fs:Nat -> F5
 | 0=>⟨fun _ _ _ _=>none,fun _ _ _ _=>none,fun _ _ _ _=>none⟩
 | n + 1=>⟨a5g n (F5.fs n),a0P n (F5.fs n),a1E n (F5.fs n)⟩
def P9 (n:Nat) (l1:List Tok) (I4:Int) (at3:Int) (w9:Int):Option (Typ × Bool × Int):=(F5.fs n).P9 l1 I4 at3 w9
def a1q (n:Nat) (l1:List Tok) (I4:Int) (at3:Int) (w9:Int):Option (List Typ × Bool × Int):=(F5.fs n).a1q l1 I4 at3 w9
def a1f (n:Nat) (l1:List Tok) (I4:Int) (at3:Int) (w9:Int):Option (Typ × Bool × Int):=(F5.fs n).a1f l1 I4 at3 w9
def a1c (n:Nat) (a1l:Int) (l2:List Tok) (a04:Int):Nat -> (List Nod) -> Bool -> Int -> Option (Lr (List Nod × Int) (List Nod × Bool × Int))
  | 0,_,_,_=>none
  | m4 + 1,b4Y,more512,b2c =>
      cond more512 (
      (L9 l2 a1l b2c a04).bind fun r8 =>
      Option.bind (α:=Int × Int) (
      (G9 [105,110,111,117,116] l2 a1l b2c a04).bind fun (r9,at10) =>
      cond r9 (
      some (at10,1)) (
      (G9 [99,111,110,115,117,109,101] l2 a1l at10 a04).bind fun (r11,at12) =>
      cond r11 (
      some (at12,2)) (
      some (at12,0)))) fun (b2d,n520) =>
      (F4 1 l2 a1l b2d a04).bind fun (r13,r14,at15) =>
      Option.bind (α:=Bool × Int) (
      cond (!r14) (
      some (true,at15)) (
      (p8 [58] l2 a1l at15 a04).bind fun (r16,at17) =>
      some ((!r16),at17))) fun (x521,b2e) =>
      cond x521 (
      some (.out ((b4Y,false,b2e)))) (
      (P9 n l2 a1l b2e a04).bind fun (r18,r19,at20) =>
      cond (!r19) (
      some (.out ((b4Y,false,at20)))) (
      (app 144 b4Y ([(⟨10,r13,n520,r18,[],[],r8⟩:Nod)]:List Nod)).bind fun l21 =>
      (p8 [44] l2 a1l at20 a04).bind fun (r22,at23) =>
      a1c n a1l l2 a04 m4 l21 r22 at23))) (
      some (.brk (b4Y,b2c)))
def a3h (n:Nat) (l1:List Nod) (l2:List Tok) (a1l:Int) (at4:Int) (a04:Int):Option (List Nod × Bool × Int) :=
 (p8 [41] l2 a1l at4 a04).bind fun (r6,at7) =>
 cond r6 (
 some ((l1,true,at7))) (
 R8 (α:=List Nod × Int) (
 a1c n a1l l2 a04 n l1 true at7) fun (l523,b1i) =>
 (p8 [41] l2 a1l b1i a04).bind fun (r24,at25) =>
 some ((l523,r24,at25)))
structure R5 where
 a0m:(List Tok) -> Int -> Int -> Int -> Option (Nod × Bool × Int)
def a0Z (n:Nat) (Φ:R5) (I4:Int) (l1:List Tok) (w9:Int) (r28:Str) (r5:Int):Nat -> (List Nod) -> Bool -> Int -> Option (Lr (List Nod × Int) (Nod × Bool × Int))
  | 0,_,_,_=>none
  | m37 + 1,b25,more505,a7M =>
      cond more505 (
      (Φ.a0m l1 I4 a7M w9).bind fun (r33,r34,at35) =>
      cond (!r34) (
      some (.out (((⟨45,r28,0,(⟨0,[],0,[]⟩:Typ),[],[],r5⟩:Nod),false,at35)))) (
      (app 144 b25 ([r33]:List Nod)).bind fun l36 =>
      (p8 [44] l1 I4 at35 w9).bind fun (r37,at38) =>
      a0Z n Φ I4 l1 w9 r28 r5 m37 l36 r37 at38)) (
      some (.brk (b25,a7M)))
def a3K (n:Nat) (Φ:R5) (l1:List Tok) (I4:Int) (at3:Int) (w9:Int):Option (Nod × Bool × Int) :=
 (L9 l1 I4 at3 w9).bind fun r5 =>
 (F4 1 l1 I4 at3 w9).bind fun (r6,r7,at8) =>
 cond r7 (
 cond (eqS r6 [95]) (
 some (((⟨40,[],0,(⟨0,[],0,[]⟩:Typ),[],[],r5⟩:Nod),true,at8))) (
 some (((⟨41,r6,0,(⟨0,[],0,[]⟩:Typ),[],[],r5⟩:Nod),true,at8)))) (
 (F4 3 l1 I4 at8 w9).bind fun (r9,r10,at11) =>
 cond r10 (
 (a2n n r9).bind fun r12 =>
 some (((⟨42,[],r12,(⟨0,[],0,[]⟩:Typ),[],[],r5⟩:Nod),true,at11))) (
 (p8 [45] l1 I4 at11 w9).bind fun (r13,at14) =>
 cond r13 (
 (F4 3 l1 I4 at14 w9).bind fun (r15,r16,at17) =>
 (a2n n r15).bind fun r18 =>
 some (((⟨42,[],(w64 (0 - r18)),(⟨0,[],0,[]⟩:Typ),[],[],r5⟩:Nod),r16,at17))) (
 (F4 4 l1 I4 at14 w9).bind fun (r19,r20,at21) =>
 cond r20 (
 some (((⟨44,r19,0,(⟨0,[],0,[]⟩:Typ),[],[],r5⟩:Nod),true,at21))) (
 (G9 [116,114,117,101] l1 I4 at21 w9).bind fun (r22,at23) =>
 cond r22 (
 some (((⟨43,[],1,(⟨0,[],0,[]⟩:Typ),[],[],r5⟩:Nod),true,at23))) (
 (G9 [102,97,108,115,101] l1 I4 at23 w9).bind fun (r24,at25) =>
 cond r24 (
 some (((⟨43,[],0,(⟨0,[],0,[]⟩:Typ),[],[],r5⟩:Nod),true,at25))) (
 (p8 [46] l1 I4 at25 w9).bind fun (r26,at27) =>
 cond (!r26) (
 some (((⟨0,[],0,(⟨0,[],0,[]⟩:Typ),[],[],r5⟩:Nod),false,at27))) (
 (F4 1 l1 I4 at27 w9).bind fun (r28,r29,at30) =>
 cond (!r29) (
 some (((⟨0,[],0,(⟨0,[],0,[]⟩:Typ),[],[],r5⟩:Nod),false,at30))) (
 (p8 [40] l1 I4 at30 w9).bind fun (r31,at32) =>
 cond (!r31) (
 some (((⟨45,r28,0,(⟨0,[],0,[]⟩:Typ),[],[],r5⟩:Nod),true,at32))) (
 R8 (α:=List Nod × Int) (
 a0Z n Φ I4 l1 w9 r28 r5 n ([]:List Nod) true at32) fun (l513,a6B) =>
 (p8 [41] l1 I4 a6B w9).bind fun (r39,at40) =>
 some (((⟨45,r28,0,(⟨0,[],0,[]⟩:Typ),[],l513,r5⟩:Nod),r39,at40)))))))))))
def R5.fs:Nat -> R5
 | 0=>⟨fun _ _ _ _=>none⟩
 | n + 1=>⟨a3K n (R5.fs n)⟩
def a0m (n:Nat) (l1:List Tok) (I4:Int) (at3:Int) (w9:Int):Option (Nod × Bool × Int):=(R5.fs n).a0m l1 I4 at3 w9
def a3v (n:Nat):Nat -> Nod -> Option (Nod)
  | 0,_=>none
  | m1 + 1,n502 =>
      Option.bind (α:=Bool) (
      cond (eqB n502.op 55) (
      some (eqB (List.length n502.l:Int) 1)) (
      some false)) fun x504 =>
      cond x504 (
      (idx' n502.l 0).bind fun x2 =>
      a3v n m1 x2) (
      some n502)
def b0H (n:Nat) (n1:Nod):Option (Bool) :=
 Option.bind (α:=Nod) (
 a3v n n n1) fun b3V =>
 some ((eqB b3V.op 54))
structure o5 where
 M5:(List Tok) -> Int -> Int -> Int -> Option (Nod × Bool × Int × Int)
 O5:Int -> (List Tok) -> Int -> Int -> Int -> Option (Nod × Bool × Int × Int)
 X5:(List Tok) -> Int -> Int -> Int -> Option (Nod × Bool × Int × Int)
 a2Y:(List Tok) -> Int -> Int -> Int -> Option (Nod × Bool × Int × Int)
 a2V:(List Tok) -> Int -> Int -> Int -> Option (Nod × Bool × Int × Int)
 Z5:(List Nod) -> (List Tok) -> Int -> Int -> Int -> Option (List Nod × Bool × Int × Int × List Nod)
 a1J:(List Tok) -> Int -> Int -> Int -> Option (Nod × Bool × Int × Int)
 a2W:(List Tok) -> Int -> Int -> Int -> Option (Nod × Bool × Int × Int)
 a06:(List Tok) -> Int -> Int -> Int -> Option (List Nod × Bool × Int × Int)
 a0n:(List Tok) -> Int -> Int -> Int -> Option (Nod × Bool × Int × Int)
 X4:(List Tok) -> Int -> Int -> Int -> Option (Nod × Bool × Int × Int)
 a3I:(List Tok) -> Int -> Int -> Int -> Option (Nod × Bool × Int × Int)
 a0Y:(List Tok) -> Int -> Int -> Int -> Option (Nod × Bool × Int × Int)
 a3J:Int -> (List Tok) -> Int -> Int -> Int -> Option (List Nod × Bool × Int × Int)
 a3i:(List Tok) -> Int -> Int -> Int -> Option (Nod × Bool × Int × Int)
 a4c:(List Tok) -> Int -> Int -> Int -> Option (Nod × Bool × Int × Int)
def a4J (n:Nat) (Φ:o5) (l1:List Tok) (I4:Int) (at3:Int) (w9:Int):Option (Nod × Bool × Int × Int) :=
 (Φ.O5 0 l1 I4 at3 w9).bind fun (r5,r6,at7,a8C) =>
 some ((r5,r6,at7,a8C))
def a1B (n:Nat) (Φ:o5) (a1l:Int) (k1:Int) (l2:List Tok):Nat -> Int -> Str -> Int -> Int -> Int -> Nod -> Option (Int × Str × Int × Int × Nod)
  | 0,_,_,_,_,_,_=>none
  | m10 + 1,n617,op618,i619,at620,b5r,n622 =>
      (idx' ([[[124,124]],[[38,38]],[[61,61],[33,61],[60],[60,61],[62],[62,61]],[[43],[45]],[[42],[47],[37]]]:List (List Str)) k1).bind fun x14 =>
      cond (ltB i619 (List.length x14:Int)) (
      Option.bind (α:=Str) (
      (idx' ([[[124,124]],[[38,38]],[[61,61],[33,61],[60],[60,61],[62],[62,61]],[[43],[45]],[[42],[47],[37]]]:List (List Str)) k1).bind fun x15 =>
      (idx' x15 i619).bind fun x16 =>
      (J5 8 x16 l2 a1l at620 b5r).bind fun r17 =>
      cond r17 (
      (idx' ([[[124,124]],[[38,38]],[[61,61],[33,61],[60],[60,61],[62],[62,61]],[[43],[45]],[[42],[47],[37]]]:List (List Str)) k1).bind fun x18 =>
      (idx' x18 i619).bind fun x19 =>
      some x19) (
      some op618)) fun op623 =>
      a1B n Φ a1l k1 l2 m10 n617 op623 (w64 (i619 + 1)) at620 b5r n622) (
      some (n617,op618,at620,b5r,n622))
def U1 (n:Nat) (Φ:o5) (a1l:Int) (k1:Int) (l2:List Tok):Nat -> Bool -> Int -> Int -> Int -> Nod -> Option (Lr (Bool × Int × Int × Nod) (Nod × Bool × Int × Int))
  | 0,_,_,_,_,_=>none
  | m6 + 1,ok602,n603,at604,b81,n606 =>
      Option.bind (α:=Bool) (
      cond ok602 (
      cond (!eqB k1 2) (
      some true) (
      some (eqB n603 0))) (
      some false)) fun x616 =>
      cond x616 (
      a3Y (α:=Bool × Int × Int × Int × Str × List Nod × Int) (
      Option.bind (α:=Int × Str × Int × Int × Nod) (
      a1B n Φ a1l k1 l2 n n603 [] 0 at604 b81 n606) fun (n630,op631,at632,b5s,n634) =>
      cond (eqS op631 []) (
      some (.out ((n634,true,at632,b5s)))) (
      (p8 op631 l2 a1l at632 b5s).bind fun (r20,at21) =>
      (Φ.O5 (w64 (k1 + 1)) l2 a1l at21 b5s).bind fun (r22,r23,at24,place25) =>
      some (.brk (r23,n630,at24,place25,op631,([n634,r22]:List Nod),n634.at_)))) fun (ok635,n636,at637,place638,s639,l640,at641) =>
      U1 n Φ a1l k1 l2 m6 ok635 (w64 (n636 + 1)) at637 place638 (⟨64,s639,0,(⟨0,[],0,[]⟩:Typ),[],l640,at641⟩:Nod)) (
      some (.brk (ok602,at604,b81,n606)))
def a10 (n:Nat) (Φ:o5) (k1:Int) (l2:List Tok) (a1l:Int) (at4:Int) (a04:Int):Option (Nod × Bool × Int × Int) :=
 (a9R).bind fun _ =>
 cond (eqB k1 (List.length ([[[124,124]],[[38,38]],[[61,61],[33,61],[60],[60,61],[62],[62,61]],[[43],[45]],[[42],[47],[37]]]:List (List Str)):Int)) (
 (Φ.X5 l2 a1l at4 a04).bind fun (r6,r7,at8,b5t) =>
 some ((r6,r7,at8,b5t))) (
 (Φ.O5 (w64 (k1 + 1)) l2 a1l at4 a04).bind fun (r10,r11,at12,a6N) =>
 R8 (α:=Bool × Int × Int × Nod) (
 U1 n Φ a1l k1 l2 n r11 0 at12 a6N r10) fun (b5i,b4D,a7r,n650) =>
 some ((n650,b5i,b4D,a7r)))
def a4u (n:Nat) (Φ:o5) (l1:List Tok) (I4:Int) (at3:Int) (w9:Int):Option (Nod × Bool × Int × Int) :=
 (L9 l1 I4 at3 w9).bind fun r5 =>
 (p8 [45] l1 I4 at3 w9).bind fun (r6,at7) =>
 cond r6 (
 (Φ.X5 l1 I4 at7 w9).bind fun (r8,r9,at10,a4C) =>
 some (((⟨66,[],0,(⟨0,[],0,[]⟩:Typ),[],[r8],r5⟩:Nod),r9,at10,a4C))) (
 (p8 [33] l1 I4 at7 w9).bind fun (r12,at13) =>
 cond r12 (
 (Φ.X5 l1 I4 at13 w9).bind fun (r14,r15,at16,b7K) =>
 some (((⟨65,[],0,(⟨0,[],0,[]⟩:Typ),[],[r14],r5⟩:Nod),r15,at16,b7K))) (
 (Φ.a2Y l1 I4 at13 w9).bind fun (r18,r19,at20,place21) =>
 some ((r18,r19,at20,place21))))
def a0a (n:Nat) (Φ:o5) (I4:Int) (l1:List Tok):Nat -> Bool -> Int -> Int -> Nod -> Option (Lr (Bool × Int × Int × Nod) (Nod × Bool × Int × Int))
  | 0,_,_,_,_=>none
  | m2 + 1,ok533,b3l,a4U,a9F =>
      cond ok533 (
      (p8 [46] l1 I4 b3l a4U).bind fun (r9,at10) =>
      cond r9 (
      (F4 1 l1 I4 at10 a4U).bind fun (r11,r12,at13) =>
      cond (!r12) (
      some (.out ((a9F,false,at13,a4U)))) (
      (J5 8 [40] l1 I4 at13 a4U).bind fun r14 =>
      cond r14 (
      (Φ.Z5 ([a9F]:List Nod) l1 I4 at13 a4U).bind fun (r15,r16,at17,b2A,gone19) =>
      a0a n Φ I4 l1 m2 r16 at17 b2A (⟨57,r11,0,(⟨0,[],0,[]⟩:Typ),[],r15,a9F.at_⟩:Nod)) (
      a0a n Φ I4 l1 m2 ok533 at13 a4U (⟨55,r11,0,(⟨0,[],0,[]⟩:Typ),[],[a9F],a9F.at_⟩:Nod)))) (
      (J5 8 [40] l1 I4 at10 a4U).bind fun r20 =>
      cond r20 (
      (Φ.Z5 ([a9F]:List Nod) l1 I4 at10 a4U).bind fun (r21,r22,at23,place24,gone25) =>
      a0a n Φ I4 l1 m2 r22 at23 place24 (⟨60,[],0,(⟨0,[],0,[]⟩:Typ),[],r21,a9F.at_⟩:Nod)) (
      some (.out ((a9F,true,at10,a4U)))))) (
      some (.brk (ok533,b3l,a4U,a9F)))
def a3L (n:Nat) (Φ:o5) (l1:List Tok) (I4:Int) (at3:Int) (w9:Int):Option (Nod × Bool × Int × Int) :=
 (Φ.a2V l1 I4 at3 w9).bind fun (r5,r6,at7,a8C) =>
 R8 (α:=Bool × Int × Int × Nod) (
 a0a n Φ I4 l1 n r6 at7 a8C r5) fun (b8N,b6b,a7q,n555) =>
 some ((n555,b8N,b6b,a7q))
def a1j (n:Nat) (Φ:o5) (I4:Int) (l1:List Tok) (r5:Int):Nat -> Bool -> Int -> Int -> (List Nod) -> Option (Lr (Int × Int × List Nod) (Nod × Bool × Int × Int))
  | 0,_,_,_,_=>none
  | m35 + 1,more541,b3n,b8X,l544 =>
      cond more541 (
      (Φ.M5 l1 I4 b3n b8X).bind fun (r40,r41,at42,b7O) =>
      cond (!r41) (
      some (.out (((⟨67,[],0,(⟨0,[],0,[]⟩:Typ),[],l544,r5⟩:Nod),false,at42,b7O)))) (
      (app 144 l544 ([r40]:List Nod)).bind fun l44 =>
      (p8 [44] l1 I4 at42 b7O).bind fun (r45,at46) =>
      a1j n Φ I4 l1 r5 m35 r45 at46 b7O l44)) (
      some (.brk (b3n,b8X,l544)))
def a2b (n:Nat) (Φ:o5) (l1:List Tok) (I4:Int) (at3:Int) (w9:Int):Option (Nod × Bool × Int × Int) :=
 (L9 l1 I4 at3 w9).bind fun r5 =>
 (F4 3 l1 I4 at3 w9).bind fun (r6,r7,at8) =>
 cond r7 (
 (a2n n r6).bind fun r9 =>
 some (((⟨50,[],r9,(⟨0,[],0,[]⟩:Typ),[],[],r5⟩:Nod),true,at8,w9))) (
 (F4 4 l1 I4 at8 w9).bind fun (r10,r11,at12) =>
 cond r11 (
 some (((⟨52,r10,0,(⟨0,[],0,[]⟩:Typ),[],[],r5⟩:Nod),true,at12,w9))) (
 (a0c 5 l1 I4 at12 w9).bind fun r13 =>
 cond r13 (
 (Φ.a1J l1 I4 at12 w9).bind fun (r14,r15,at16,b7K) =>
 some ((r14,r15,at16,b7K))) (
 (G9 [116,114,117,101] l1 I4 at12 w9).bind fun (r18,at19) =>
 cond r18 (
 some (((⟨51,[],1,(⟨0,[],0,[]⟩:Typ),[],[],r5⟩:Nod),true,at19,w9))) (
 (G9 [102,97,108,115,101] l1 I4 at19 w9).bind fun (r20,at21) =>
 cond r20 (
 some (((⟨51,[],0,(⟨0,[],0,[]⟩:Typ),[],[],r5⟩:Nod),true,at21,w9))) (
 (F4 1 l1 I4 at21 w9).bind fun (r22,r23,at24) =>
 cond r23 (
 (J5 8 [40] l1 I4 at24 w9).bind fun r25 =>
 cond r25 (
 (Φ.Z5 ([]:List Nod) l1 I4 at24 w9).bind fun (r26,r27,at28,b7M,gone30) =>
 some (((⟨56,r22,0,(⟨0,[],0,[]⟩:Typ),[],r26,r5⟩:Nod),r27,at28,b7M))) (
 some (((⟨54,r22,0,(⟨0,[],0,[]⟩:Typ),[],[],r5⟩:Nod),true,at24,w9)))) (
 (G9 [99,111,110,115,117,109,101] l1 I4 at24 w9).bind fun (r31,at32) =>
 cond r31 (
 (F4 1 l1 I4 at32 w9).bind fun (r33,r34,at35) =>
 some (((⟨61,r33,0,(⟨0,[],0,[]⟩:Typ),[],[],r5⟩:Nod),r34,at35,w9))) (
 R8 (α:=Int) (
 (p8 [91] l1 I4 at32 w9).bind fun (r36,at37) =>
 cond r36 (
 (p8 [93] l1 I4 at37 w9).bind fun (r38,at39) =>
 cond r38 (
 some (.out (((⟨67,[],0,(⟨0,[],0,[]⟩:Typ),[],[],r5⟩:Nod),true,at39,w9)))) (
 a3Y (α:=Int × Int × List Nod) (
 a1j n Φ I4 l1 r5 n true at39 w9 ([]:List Nod)) fun (at560,b8Z,l562) =>
 (p8 [93] l1 I4 at560 b8Z).bind fun (r47,at48) =>
 some (.out (((⟨67,[],0,(⟨0,[],0,[]⟩:Typ),[],l562,r5⟩:Nod),r47,at48,b8Z))))) (
 some (.brk at37))) fun a5L =>
 (p8 [40] l1 I4 a5L w9).bind fun (r49,at50) =>
 cond r49 (
 (Φ.M5 l1 I4 at50 w9).bind fun (r51,r52,at53,b7Q) =>
 cond r52 (
 (p8 [41] l1 I4 at53 b7Q).bind fun (r55,at56) =>
 some ((r51,r55,at56,b7Q))) (
 some ((r51,false,at53,b7Q)))) (
 (J5 8 [123] l1 I4 at50 w9).bind fun r57 =>
 cond r57 (
 (Φ.a2W l1 I4 at50 w9).bind fun (r58,r59,at60,place61) =>
 some ((r58,r59,at60,place61))) (
 (Φ.a4c l1 I4 at50 w9).bind fun (r62,r63,at64,b7R) =>
 some ((r62,r63,at64,b7R)))))))))))
def a1v (n:Nat) (Φ:o5) (a1l:Int) (l2:List Tok):Nat -> (List Nod) -> Bool -> Int -> Int -> Option (Lr (List Nod × Int × Int) (List Nod × Bool × Int × Int × List Nod))
  | 0,_,_,_,_=>none
  | m6 + 1,l537,more538,b4C,a5G =>
      cond more538 (
      (L9 l2 a1l b4C a5G).bind fun r10 =>
      Option.bind (α:=Bool × Int × Int × Nod) (
      (p8 [38] l2 a1l b4C a5G).bind fun (r11,at12) =>
      cond r11 (
      (a2X n l2 a1l at12 a5G).bind fun (r13,r14,at15) =>
      some (r14,at15,a5G,(⟨62,[],0,(⟨0,[],0,[]⟩:Typ),[],[r13],r10⟩:Nod))) (
      (Φ.M5 l2 a1l at12 a5G).bind fun (r16,r17,at18,b2B) =>
      some (r17,at18,b2B,r16))) fun (b8N,b6b,a7q,n555) =>
      cond (!b8N) (
      some (.out ((l537,false,b6b,a7q,l537)))) (
      (app 144 l537 ([n555]:List Nod)).bind fun l20 =>
      (p8 [44] l2 a1l b6b a7q).bind fun (r21,at22) =>
      a1v n Φ a1l l2 m6 l20 r21 at22 a7q)) (
      some (.brk (l537,b4C,a5G)))
def a4I (n:Nat) (Φ:o5) (l1:List Nod) (l2:List Tok) (a1l:Int) (at4:Int) (a04:Int):Option (List Nod × Bool × Int × Int × List Nod) :=
 (p8 [40] l2 a1l at4 a04).bind fun (r6,at7) =>
 cond (!r6) (
 some ((l1,false,at7,a04,l1))) (
 (p8 [41] l2 a1l at7 a04).bind fun (r8,at9) =>
 cond r8 (
 some ((l1,true,at9,a04,l1))) (
 R8 (α:=List Nod × Int × Int) (
 a1v n Φ a1l l2 n l1 true at9 a04) fun (l560,at561,b80) =>
 (p8 [41] l2 a1l at561 b80).bind fun (r23,at24) =>
 some ((l560,r23,at24,b80,l560))))
def a0V (n:Nat) (Φ:o5) (I4:Int) (l1:List Tok) (r5:Int):Nat -> Int -> Int -> (List Nod) -> Option (Nod × Bool × Int × Int)
  | 0,_,_,_=>none
  | m2 + 1,a92,b8W,l523 =>
      (idx' l1 a92).bind fun x6 =>
      (app 144 l523 ([(⟨52,x6.text,0,(⟨0,[],0,[]⟩:Typ),[],[],x6.at_⟩:Nod)]:List Nod)).bind fun l7 =>
      cond (eqB x6.kind 7) (
      some (((⟨53,[],0,(⟨0,[],0,[]⟩:Typ),[],l7,r5⟩:Nod),true,(w64 (a92 + 1)),b8W))) (
      (Φ.M5 l1 I4 (w64 (a92 + 1)) b8W).bind fun (r8,r9,at10,a4C) =>
      Option.bind (α:=Bool) (
      cond (!r9) (
      some true) (
      (a0c 6 l1 I4 at10 a4C).bind fun r12 =>
      cond (!r12) (
      (a0c 7 l1 I4 at10 a4C).bind fun r13 =>
      some (!r13)) (
      some false))) fun x520 =>
      cond x520 (
      some (((⟨53,[],0,(⟨0,[],0,[]⟩:Typ),[],l7,r5⟩:Nod),false,at10,a4C))) (
      (app 144 l7 ([r8]:List Nod)).bind fun l14 =>
      a0V n Φ I4 l1 r5 m2 at10 a4C l14))
def a2o (n:Nat) (Φ:o5) (l1:List Tok) (I4:Int) (at3:Int) (w9:Int):Option (Nod × Bool × Int × Int) :=
 (L9 l1 I4 at3 w9).bind fun r5 =>
 a0V n Φ I4 l1 r5 n at3 w9 ([]:List Nod)
def a3H (n:Nat) (Φ:o5) (l1:List Tok) (I4:Int) (at3:Int) (w9:Int):Option (Nod × Bool × Int × Int) :=
 (L9 l1 I4 at3 w9).bind fun r5 =>
 (p8 [123] l1 I4 at3 w9).bind fun (r6,at7) =>
 (p8 [40] l1 I4 at7 w9).bind fun (r8,at9) =>
 cond (!r8) (
 some (((⟨63,[],0,(⟨4,[],0,[]⟩:Typ),[],[],r5⟩:Nod),false,at9,w9))) (
 (a3h n ([]:List Nod) l1 I4 at9 w9).bind fun (r10,r11,at12) =>
 cond (!r11) (
 some (((⟨63,[],0,(⟨4,[],0,[]⟩:Typ),[],[],r5⟩:Nod),false,at12,w9))) (
 R8 (α:=Int × Int × Str × Int × List Typ) (
 (p8 [45,62] l1 I4 at12 w9).bind fun (r13,at14) =>
 cond r13 (
 (P9 n l1 I4 at14 w9).bind fun (r15,r16,at17) =>
 cond (!r16) (
 some (.out (((⟨63,[],0,(⟨4,[],0,[]⟩:Typ),[],[],r5⟩:Nod),false,at17,w9)))) (
 some (.brk (at17,r15.kind,r15.name,r15.n,r15.args)))) (
 some (.brk (at14,4,[],0,([]:List Typ))))) fun (a5M,c0H,c0Q,n513,c0n) =>
 (G9 [105,110] l1 I4 a5M w9).bind fun (r18,at19) =>
 cond (!r18) (
 some (((⟨63,[],0,(⟨c0H,c0Q,n513,c0n⟩:Typ),[],[],r5⟩:Nod),false,at19,w9))) (
 (Φ.a06 l1 I4 at19 w9).bind fun (r20,r21,at22,b4o) =>
 (app 144 r10 ([(⟨20,[],0,(⟨0,[],0,[]⟩:Typ),[],r20,r5⟩:Nod)]:List Nod)).bind fun l24 =>
 some (((⟨63,[],0,(⟨c0H,c0Q,n513,c0n⟩:Typ),[],l24,r5⟩:Nod),r21,at22,b4o)))))
def a1a (n:Nat) (Φ:o5) (I4:Int) (l1:List Tok):Nat -> (List Nod) -> Int -> Int -> Option (Lr (List Nod × Int × Int) (List Nod × Bool × Int × Int))
  | 0,_,_,_=>none
  | m2 + 1,b27,a2F,b5q =>
      (p8 [125] l1 I4 a2F b5q).bind fun (r5,at6) =>
      cond (!r5) (
      (Φ.a0n l1 I4 at6 b5q).bind fun (r7,r8,at9,c0X) =>
      cond (!r8) (
      some (.out ((b27,false,at9,c0X)))) (
      (app 144 b27 ([r7]:List Nod)).bind fun l11 =>
      a1a n Φ I4 l1 m2 l11 at9 c0X)) (
      some (.brk (b27,at6,b5q)))
def a2L (n:Nat) (Φ:o5) (l1:List Tok) (I4:Int) (at3:Int) (w9:Int):Option (List Nod × Bool × Int × Int) :=
 R8 (α:=List Nod × Int × Int) (
 a1a n Φ I4 l1 n ([]:List Nod) at3 w9) fun (l529,a95,place531) =>
 some ((l529,true,a95,place531))
def M8 (n:Nat) (Φ:o5) (l1:List Tok) (I4:Int) (at3:Int) (w9:Int):Option (Nod × Bool × Int × Int) :=
 (L9 l1 I4 at3 w9).bind fun r5 =>
 Option.bind (α:=Bool) (
 (J5 9 [108,101,116] l1 I4 at3 w9).bind fun r6 =>
 cond r6 (
 some true) (
 (J5 9 [118,97,114] l1 I4 at3 w9).bind fun r7 =>
 some r7)) fun x501 =>
 cond x501 (
 (Φ.a3I l1 I4 at3 w9).bind fun (r8,r9,at10,a4C) =>
 some ((r8,r9,at10,a4C))) (
 (J5 9 [105,102] l1 I4 at3 w9).bind fun r12 =>
 cond r12 (
 (Φ.a0Y l1 I4 at3 w9).bind fun (r13,r14,at15,place16) =>
 some ((r13,r14,at15,place16))) (
 (G9 [119,104,105,108,101] l1 I4 at3 w9).bind fun (r17,at18) =>
 cond r17 (
 (Φ.M5 l1 I4 at18 w9).bind fun (r19,r20,at21,a9P) =>
 cond (!r20) (
 some ((r19,false,at21,a9P))) (
 (Φ.X4 l1 I4 at21 a9P).bind fun (r23,r24,at25,b7L) =>
 some (((⟨25,[],0,(⟨0,[],0,[]⟩:Typ),[],[r19,r23],r5⟩:Nod),r24,at25,b7L)))) (
 (G9 [109,97,116,99,104] l1 I4 at18 w9).bind fun (r27,at28) =>
 cond r27 (
 (Φ.a3J r5 l1 I4 at28 w9).bind fun (l29,r30,at31,b2C) =>
 some (((⟨26,[],0,(⟨0,[],0,[]⟩:Typ),[],l29,r5⟩:Nod),r30,at31,b2C))) (
 (G9 [114,101,116,117,114,110] l1 I4 at28 w9).bind fun (r33,at34) =>
 cond r33 (
 (p8 [59] l1 I4 at34 w9).bind fun (r35,at36) =>
 cond r35 (
 some (((⟨28,[],0,(⟨0,[],0,[]⟩:Typ),[],[],r5⟩:Nod),true,at36,w9))) (
 (Φ.M5 l1 I4 at36 w9).bind fun (r37,r38,at39,b7N) =>
 cond r38 (
 (p8 [59] l1 I4 at39 b7N).bind fun (r41,at42) =>
 some (((⟨28,[],0,(⟨0,[],0,[]⟩:Typ),[],[r37],r5⟩:Nod),r41,at42,b7N))) (
 some (((⟨28,[],0,(⟨0,[],0,[]⟩:Typ),[],[r37],r5⟩:Nod),false,at39,b7N))))) (
 (G9 [116,104,114,111,119] l1 I4 at34 w9).bind fun (r43,at44) =>
 cond r43 (
 (Φ.M5 l1 I4 at44 w9).bind fun (r45,r46,at47,b7P) =>
 cond r46 (
 (p8 [59] l1 I4 at47 b7P).bind fun (r49,at50) =>
 some (((⟨29,[],0,(⟨0,[],0,[]⟩:Typ),[],[r45],r5⟩:Nod),r49,at50,b7P))) (
 some (((⟨29,[],0,(⟨0,[],0,[]⟩:Typ),[],[r45],r5⟩:Nod),false,at47,b7P)))) (
 (G9 [100,111] l1 I4 at44 w9).bind fun (r51,at52) =>
 cond r51 (
 (Φ.X4 l1 I4 at52 w9).bind fun (r53,r54,at55,b2D) =>
 Option.bind (α:=Bool × Int) (
 cond (!r54) (
 some (true,at55)) (
 (G9 [99,97,116,99,104] l1 I4 at55 b2D).bind fun (r57,at58) =>
 some ((!r57),at58))) fun (b5X,a2F) =>
 cond b5X (
 some ((r53,false,a2F,b2D))) (
 (F4 1 l1 I4 a2F b2D).bind fun (r59,r60,at61) =>
 cond (!r60) (
 some ((r53,false,at61,b2D))) (
 (Φ.X4 l1 I4 at61 b2D).bind fun (r62,r63,at64,b7R) =>
 some (((⟨30,r59,0,(⟨0,[],0,[]⟩:Typ),[],[r53,r62],r5⟩:Nod),r63,at64,b7R))))) (
 (G9 [100,101,102,101,114] l1 I4 at52 w9).bind fun (r66,at67) =>
 cond r66 (
 (Φ.X4 l1 I4 at67 w9).bind fun (r68,r69,at70,place71) =>
 some (((⟨31,[],0,(⟨0,[],0,[]⟩:Typ),[],[r68],r5⟩:Nod),r69,at70,place71))) (
 (Φ.a3i l1 I4 at67 w9).bind fun (r72,r73,at74,place75) =>
 some ((r72,r73,at74,place75))))))))))
def a4r (n:Nat) (Φ:o5) (l1:List Tok) (I4:Int) (at3:Int) (w9:Int):Option (Nod × Bool × Int × Int) :=
 (L9 l1 I4 at3 w9).bind fun r5 =>
 (p8 [123] l1 I4 at3 w9).bind fun (r6,at7) =>
 cond (!r6) (
 some (((⟨20,[],0,(⟨0,[],0,[]⟩:Typ),[],[],r5⟩:Nod),false,at7,w9))) (
 (Φ.a06 l1 I4 at7 w9).bind fun (r8,r9,at10,a4C) =>
 some (((⟨20,[],0,(⟨0,[],0,[]⟩:Typ),[],r8,r5⟩:Nod),r9,at10,a4C)))
def a4s (n:Nat) (Φ:o5) (l1:List Tok) (I4:Int) (at3:Int) (w9:Int):Option (Nod × Bool × Int × Int) :=
 (L9 l1 I4 at3 w9).bind fun r5 =>
 Option.bind (α:=Int × Int) (
 (G9 [118,97,114] l1 I4 at3 w9).bind fun (r6,at7) =>
 cond r6 (
 some (at7,1)) (
 (G9 [108,101,116] l1 I4 at7 w9).bind fun (r8,at9) =>
 some (at9,0))) fun (a95,b5a) =>
 (F4 1 l1 I4 a95 w9).bind fun (r10,r11,at12) =>
 cond (!r11) (
 some (((⟨21,[],b5a,(⟨0,[],0,[]⟩:Typ),[],[],r5⟩:Nod),false,at12,w9))) (
 R8 (α:=Bool × Int × Int × Str × Int × List Typ) (
 (p8 [58] l1 I4 at12 w9).bind fun (r13,at14) =>
 cond r13 (
 (P9 n l1 I4 at14 w9).bind fun (r15,r16,at17) =>
 cond (!r16) (
 some (.out (((⟨21,r10,b5a,(⟨0,[],0,[]⟩:Typ),[],[],r5⟩:Nod),false,at17,w9)))) (
 some (.brk (true,at17,r15.kind,r15.name,r15.n,r15.args)))) (
 some (.brk (false,at14,0,[],0,([]:List Typ))))) fun (typed532,b1k,b7B,b7F,a9F,b7f) =>
 R8 (α:=Int × Int × List Nod) (
 (p8 [61] l1 I4 b1k w9).bind fun (r18,at19) =>
 cond r18 (
 (Φ.M5 l1 I4 at19 w9).bind fun (r20,r21,at22,b4o) =>
 cond (!r21) (
 some (.out (((⟨21,r10,b5a,(⟨b7B,b7F,a9F,b7f⟩:Typ),[],[],r5⟩:Nod),false,at22,b4o)))) (
 some (.brk (at22,b4o,([r20]:List Nod))))) (
 Option.bind (α:=Bool) (
 cond (eqB b5a 0) (
 some true) (
 some (!typed532))) fun x538 =>
 cond x538 (
 some (.out (((⟨21,r10,b5a,(⟨b7B,b7F,a9F,b7f⟩:Typ),[],[],r5⟩:Nod),false,at19,w9)))) (
 some (.brk (at19,w9,([]:List Nod)))))) fun (b4C,a5G,l541) =>
 (p8 [59] l1 I4 b4C a5G).bind fun (r24,at25) =>
 some (((⟨21,r10,b5a,(⟨b7B,b7F,a9F,b7f⟩:Typ),[],l541,r5⟩:Nod),r24,at25,a5G)))
def a2z (n:Nat) (Φ:o5) (l1:List Tok) (I4:Int) (at3:Int) (w9:Int):Option (Nod × Bool × Int × Int) :=
 (L9 l1 I4 at3 w9).bind fun r5 =>
 (G9 [105,102] l1 I4 at3 w9).bind fun (r6,at7) =>
 (Φ.M5 l1 I4 at7 w9).bind fun (r8,r9,at10,a4C) =>
 cond (!r9) (
 some (((⟨24,[],0,(⟨0,[],0,[]⟩:Typ),[],[],r5⟩:Nod),false,at10,a4C))) (
 (Φ.X4 l1 I4 at10 a4C).bind fun (r12,r13,at14,b03) =>
 cond (!r13) (
 some (((⟨24,[],0,(⟨0,[],0,[]⟩:Typ),[],[],r5⟩:Nod),false,at14,b03))) (
 (G9 [101,108,115,101] l1 I4 at14 b03).bind fun (r16,at17) =>
 cond (!r16) (
 some (((⟨24,[],0,(⟨0,[],0,[]⟩:Typ),[],[r8,r12],r5⟩:Nod),true,at17,b03))) (
 Option.bind (α:=Bool × Int × Int × Nod) (
 (J5 9 [105,102] l1 I4 at17 b03).bind fun r18 =>
 cond r18 (
 (Φ.a0Y l1 I4 at17 b03).bind fun (r19,r20,at21,a9P) =>
 some (r20,at21,a9P,r19)) (
 (Φ.X4 l1 I4 at17 b03).bind fun (r23,r24,at25,b7L) =>
 some (r24,at25,b7L,r23))) fun (whole513,a6B,place515,n516) =>
 some (((⟨24,[],0,(⟨0,[],0,[]⟩:Typ),[],[r8,r12,n516],r5⟩:Nod),whole513,a6B,place515)))))
def a1O (n:Nat) (Φ:o5) (a1l:Int) (l2:List Tok):Nat -> (List Nod) -> Int -> Int -> Option (Lr (List Nod × Int × Int) (List Nod × Bool × Int × Int))
  | 0,_,_,_=>none
  | m6 + 1,l518,b2d,a7p =>
      (J5 9 [99,97,115,101] l2 a1l b2d a7p).bind fun r12 =>
      cond r12 (
      (L9 l2 a1l b2d a7p).bind fun r13 =>
      (G9 [99,97,115,101] l2 a1l b2d a7p).bind fun (r14,at15) =>
      (a0m n l2 a1l at15 a7p).bind fun (r16,r17,at18) =>
      cond (!r17) (
      some (.out ((([]:List Nod),false,at18,a7p)))) (
      (Φ.X4 l2 a1l at18 a7p).bind fun (r19,r20,at21,a9P) =>
      cond (!r20) (
      some (.out ((([]:List Nod),false,at21,a9P)))) (
      (app 144 l518 ([(⟨27,[],0,(⟨0,[],0,[]⟩:Typ),[],[r16,r19],r13⟩:Nod)]:List Nod)).bind fun l23 =>
      a1O n Φ a1l l2 m6 l23 at21 a9P))) (
      some (.brk (l518,b2d,a7p)))
def a4t (n:Nat) (Φ:o5) (at1:Int) (l2:List Tok) (a1l:Int) (at4:Int) (a04:Int):Option (List Nod × Bool × Int × Int) :=
 (Φ.M5 l2 a1l at4 a04).bind fun (r6,r7,at8,b5t) =>
 Option.bind (α:=Bool × Int) (
 cond (!r7) (
 some (true,at8)) (
 (p8 [123] l2 a1l at8 b5t).bind fun (r10,at11) =>
 some ((!r10),at11))) fun (x516,a6C) =>
 cond x516 (
 some ((([]:List Nod),false,a6C,b5t))) (
 R8 (α:=List Nod × Int × Int) (
 a1O n Φ a1l l2 n ([r6]:List Nod) a6C b5t) fun (l524,b0p,b0F) =>
 R8 (α:=List Nod × Int × Int) (
 (J5 9 [100,101,102,97,117,108,116] l2 a1l b0p b0F).bind fun r24 =>
 cond r24 (
 (L9 l2 a1l b0p b0F).bind fun r25 =>
 (G9 [100,101,102,97,117,108,116] l2 a1l b0p b0F).bind fun (r26,at27) =>
 (Φ.X4 l2 a1l at27 b0F).bind fun (r28,r29,at30,c0Y) =>
 cond (!r29) (
 some (.out ((([]:List Nod),false,at30,c0Y)))) (
 (app 144 l524 ([(⟨27,[],0,(⟨0,[],0,[]⟩:Typ),[],[(⟨40,[],0,(⟨0,[],0,[]⟩:Typ),[],[],r25⟩:Nod),r28],r25⟩:Nod)]:List Nod)).bind fun l32 =>
 some (.brk (l32,at30,c0Y)))) (
 some (.brk (l524,b0p,b0F)))) fun (l544,b3o,b8Y) =>
 (p8 [125] l2 a1l b3o b8Y).bind fun (r33,at34) =>
 some ((l544,r33,at34,b8Y)))
def a3U (n:Nat) (Φ:o5) (l1:List Tok) (I4:Int) (at3:Int) (w9:Int):Option (Nod × Bool × Int × Int) :=
 (Φ.M5 l1 I4 at3 w9).bind fun (r5,r6,at7,a8C) =>
 cond (!r6) (
 some ((r5,false,at7,a8C))) (
 (J5 8 [61] l1 I4 at7 a8C).bind fun r9 =>
 cond (!r9) (
 (p8 [59] l1 I4 at7 a8C).bind fun (r10,at11) =>
 some (((⟨23,[],0,(⟨0,[],0,[]⟩:Typ),[],[r5],r5.at_⟩:Nod),r10,at11,a8C))) (
 (b0H n r5).bind fun r12 =>
 cond (!r12) (
 some ((r5,false,at7,r5.at_))) (
 (p8 [61] l1 I4 at7 a8C).bind fun (r13,at14) =>
 (Φ.M5 l1 I4 at14 a8C).bind fun (r15,r16,at17,b2A) =>
 cond r16 (
 (p8 [59] l1 I4 at17 b2A).bind fun (r19,at20) =>
 some (((⟨22,[],0,(⟨0,[],0,[]⟩:Typ),[],[r5,r15],r5.at_⟩:Nod),r19,at20,b2A))) (
 some (((⟨22,[],0,(⟨0,[],0,[]⟩:Typ),[],[r5,r15],r5.at_⟩:Nod),false,at17,b2A))))))
def a0O (n:Nat) (Φ:o5) (I4:Int) (l1:List Tok) (w9:Int) (r5:Int) (r7:Bool):Nat -> Int -> Typ -> Option (Lr (Int) (Nod × Bool × Int × Int))
  | 0,_,_=>none
  | m3 + 1,a2F,n519 =>
      cond r7 (
      (J5 8 [40] l1 I4 a2F w9).bind fun r9 =>
      cond r9 (
      (Φ.Z5 ([]:List Nod) l1 I4 a2F w9).bind fun (r10,r11,at12,a6N,a5X) =>
      some (.out (((⟨59,[],0,n519,[],r10,r5⟩:Nod),r11,at12,a6N)))) (
      (p8 [46] l1 I4 a2F w9).bind fun (r15,at16) =>
      cond (!r15) (
      some (.out (((⟨0,[],0,(⟨0,[],0,[]⟩:Typ),[],[],r5⟩:Nod),false,at16,w9)))) (
      (F4 2 l1 I4 at16 w9).bind fun (r17,r18,at19) =>
      cond r18 (
      a0O n Φ I4 l1 w9 r5 r7 m3 at19 (⟨8,r17,0,[n519]⟩:Typ)) (
      (F4 1 l1 I4 at19 w9).bind fun (r20,r21,at22) =>
      cond (!r21) (
      some (.out (((⟨0,[],0,(⟨0,[],0,[]⟩:Typ),[],[],r5⟩:Nod),false,at22,w9)))) (
      (J5 8 [40] l1 I4 at22 w9).bind fun r23 =>
      cond r23 (
      (Φ.Z5 ([]:List Nod) l1 I4 at22 w9).bind fun (r24,r25,at26,place27,gone28) =>
      some (.out (((⟨58,r20,1,n519,[],r24,r5⟩:Nod),r25,at26,place27)))) (
      some (.out (((⟨58,r20,0,n519,[],[],r5⟩:Nod),true,at22,w9))))))))) (
      some (.brk a2F))
def a4K (n:Nat) (Φ:o5) (l1:List Tok) (I4:Int) (at3:Int) (w9:Int):Option (Nod × Bool × Int × Int) :=
 (L9 l1 I4 at3 w9).bind fun r5 =>
 (a1f n l1 I4 at3 w9).bind fun (r6,r7,at8) =>
 R8 (α:=Int) (
 a0O n Φ I4 l1 w9 r5 r7 n at8 r6) fun at528 =>
 some (((⟨0,[],0,(⟨0,[],0,[]⟩:Typ),[],[],r5⟩:Nod),false,at528,w9))
def o5.fs:Nat -> o5
 | 0=>⟨fun _ _ _ _=>none,fun _ _ _ _ _=>none,fun _ _ _ _=>none,fun _ _ _ _=>none,fun _ _ _ _=>none,fun _ _ _ _ _=>none,fun _ _ _ _=>none,fun _ _ _ _=>none,fun _ _ _ _=>none,fun _ _ _ _=>none,fun _ _ _ _=>none,fun _ _ _ _=>none,fun _ _ _ _=>none,fun _ _ _ _ _=>none,fun _ _ _ _=>none,fun _ _ _ _=>none⟩
 | n + 1=>⟨a4J n (o5.fs n),a10 n (o5.fs n),a4u n (o5.fs n),a3L n (o5.fs n),a2b n (o5.fs n),a4I n (o5.fs n),a2o n (o5.fs n),a3H n (o5.fs n),a2L n (o5.fs n),M8 n (o5.fs n),a4r n (o5.fs n),a4s n (o5.fs n),a2z n (o5.fs n),a4t n (o5.fs n),a3U n (o5.fs n),a4K n (o5.fs n)⟩
def M5 (n:Nat) (l1:List Tok) (I4:Int) (at3:Int) (w9:Int):Option (Nod × Bool × Int × Int):=(o5.fs n).M5 l1 I4 at3 w9
def O5 (n:Nat) (k1:Int) (l2:List Tok) (a1l:Int) (at4:Int) (a04:Int):Option (Nod × Bool × Int × Int):=(o5.fs n).O5 k1 l2 a1l at4 a04
def X5 (n:Nat) (l1:List Tok) (I4:Int) (at3:Int) (w9:Int):Option (Nod × Bool × Int × Int):=(o5.fs n).X5 l1 I4 at3 w9
def a2Y (n:Nat) (l1:List Tok) (I4:Int) (at3:Int) (w9:Int):Option (Nod × Bool × Int × Int):=(o5.fs n).a2Y l1 I4 at3 w9
def a2V (n:Nat) (l1:List Tok) (I4:Int) (at3:Int) (w9:Int):Option (Nod × Bool × Int × Int):=(o5.fs n).a2V l1 I4 at3 w9
def Z5 (n:Nat) (l1:List Nod) (l2:List Tok) (a1l:Int) (at4:Int) (a04:Int):Option (List Nod × Bool × Int × Int × List Nod):=(o5.fs n).Z5 l1 l2 a1l at4 a04
def a1J (n:Nat) (l1:List Tok) (I4:Int) (at3:Int) (w9:Int):Option (Nod × Bool × Int × Int):=(o5.fs n).a1J l1 I4 at3 w9
def a2W (n:Nat) (l1:List Tok) (I4:Int) (at3:Int) (w9:Int):Option (Nod × Bool × Int × Int):=(o5.fs n).a2W l1 I4 at3 w9
def a06 (n:Nat) (l1:List Tok) (I4:Int) (at3:Int) (w9:Int):Option (List Nod × Bool × Int × Int):=(o5.fs n).a06 l1 I4 at3 w9
def a0n (n:Nat) (l1:List Tok) (I4:Int) (at3:Int) (w9:Int):Option (Nod × Bool × Int × Int):=(o5.fs n).a0n l1 I4 at3 w9
def X4 (n:Nat) (l1:List Tok) (I4:Int) (at3:Int) (w9:Int):Option (Nod × Bool × Int × Int):=(o5.fs n).X4 l1 I4 at3 w9
def a3I (n:Nat) (l1:List Tok) (I4:Int) (at3:Int) (w9:Int):Option (Nod × Bool × Int × Int):=(o5.fs n).a3I l1 I4 at3 w9
def a0Y (n:Nat) (l1:List Tok) (I4:Int) (at3:Int) (w9:Int):Option (Nod × Bool × Int × Int):=(o5.fs n).a0Y l1 I4 at3 w9
def a3J (n:Nat) (at1:Int) (l2:List Tok) (a1l:Int) (at4:Int) (a04:Int):Option (List Nod × Bool × Int × Int):=(o5.fs n).a3J at1 l2 a1l at4 a04
def a3i (n:Nat) (l1:List Tok) (I4:Int) (at3:Int) (w9:Int):Option (Nod × Bool × Int × Int):=(o5.fs n).a3i l1 I4 at3 w9
def a4c (n:Nat) (l1:List Tok) (I4:Int) (at3:Int) (w9:Int):Option (Nod × Bool × Int × Int):=(o5.fs n).a4c l1 I4 at3 w9
end Go.Proofs.YtlfomdllnidliaaGreatDoor
namespace Go.Proofs.YtlfomdllnidliaaGreatDoor
open Go Go.Vm
theorem a3W {a:Int} (h1:-9223372036854775808 <= a) (h2:a <= 9223372036854775807):w64 a = a:=by
 unfold w64
 simp only [IntKind.wrap,IntKind.bits,IntKind.signed]
 simp
 omega
theorem a0d {k:Nat} (h:k <= 1000000):w64 ((k:Int) + 1) = ((k + 1:Nat):Int):=by rw [a3W (by omega) (by omega)]; rfl
theorem a4G {a b:Int} (h:a < b):ltB a b = true:=by simp [ltB,h]
theorem a4j {a b:Int} (h:¬ a < b):ltB a b = false:=by simp [ltB,h]
theorem leB_t {a b:Int} (h:a <= b):leB a b = true:=by simp [leB,h]
theorem b8C {a b:Int} (h:¬ a <= b):leB a b = false:=by simp [leB,h]
theorem a7e {a b:Int} (h:a = b):eqB a b = true:=by simp [eqB,h]
theorem a7d {a b:Int} (h:¬ a = b):eqB a b = false:=by simp [eqB,h]
theorem a2R (s:Str):eqS s s = true:=by simp [eqS]
theorem a19 (a:UInt8) (r:Str):eqS (a :: r) [] = false:=by simp [eqS]
theorem a2J {α:Type} {l:List α} {i:Nat} (h:i < l.length):idx' l (i:Int) = some l[i]:=by
 have h1:inR (i:Int) l.length = true:=by simp [inR,h]
 simp [idx',h1,h]
theorem b1B {α:Type} {b:Nat} {l m:List α} (h:(l.length + m.length) * (b + 1) <= 70368744177664):app b l m = some (l ++ m):=by
 unfold app leN
 rw [decide_eq_true h]
def isT (l:List Tok) (kind:Int) (s:Str) (k:Nat):Bool:=match l[k]? with
 | some t=>eqB t.kind kind && eqS t.text s
 | none=>false
def isK (l:List Tok) (kind:Int) (k:Nat):Bool:=match l[k]? with
 | some t=>eqB t.kind kind
 | none=>false
def H6 (l:List Tok) (size:Int) (k:Nat):Int:=match l[k]? with
 | some t=>t.at_
 | none=>size
def O8 (l:List Tok) (k:Nat):Str:=match l[k]? with
 | some t=>t.text
 | none=>[]
theorem a5Y {l:List Tok} {kind:Int} {s:Str} {k:Nat} (h:isT l kind s k = true):k < l.length:=by
 unfold isT at h
 rcases Nat.lt_or_ge k l.length with h1 | h1
 ·exact h1
 ·rw [List.getElem?_eq_none h1] at h; cases h
theorem b7w {l:List Tok} {kind:Int} {k:Nat} (h:isK l kind k = true):k < l.length:=by
 unfold isK at h
 rcases Nat.lt_or_ge k l.length with h1 | h1
 ·exact h1
 ·rw [List.getElem?_eq_none h1] at h; cases h
section
variable {l:List Tok} (hl:l.length <= 3000) {k:Nat} (hk:k <= l.length) (size pl:Int)
include hl hk
theorem b4X (kind:Int) (s:Str) (hs:eqS s [] = false):u7 0 kind s l k size = some (isT l kind s k):=by
 unfold u7 isT
 rw [Int.add_zero,a3W (by omega) (by omega)]
 rcases Nat.lt_or_ge k l.length with h | h
 ·rw [b8C (by omega),cond_false,a2J h,Option.bind_some,List.getElem?_eq_getElem h]
  simp only
  rw [hs]
  cases eqB l[k].kind kind <;> simp
 ·rw [leB_t (by omega),cond_true,List.getElem?_eq_none h]
theorem b4V (kind:Int):u7 0 kind [] l k size = some (isK l kind k):=by
 unfold u7 isK
 rw [Int.add_zero,a3W (by omega) (by omega)]
 rcases Nat.lt_or_ge k l.length with h | h
 ·rw [b8C (by omega),cond_false,a2J h,Option.bind_some,List.getElem?_eq_getElem h]
  simp only
  rw [a2R]
  cases eqB l[k].kind kind <;> simp
 ·rw [leB_t (by omega),cond_true,List.getElem?_eq_none h]
theorem b4e:a0G l k size = some (H6 l size k):=by
 unfold a0G H6
 rcases Nat.lt_or_ge k l.length with h | h
 ·rw [a4G (by omega),cond_true,a2J h,Option.bind_some,List.getElem?_eq_getElem h]
 ·rw [a4j (by omega),cond_false,List.getElem?_eq_none h]
theorem a6V:L9 l size k pl = some (H6 l size k):=by
 unfold L9 H6
 rcases Nat.lt_or_ge k l.length with h | h
 ·rw [a4G (by omega),cond_true,a2J h,Option.bind_some,List.getElem?_eq_getElem h]
 ·rw [a4j (by omega),cond_false,List.getElem?_eq_none h]
theorem b4c:Z4 l k size = some (.pan (H6 l size k)):=by
 unfold Z4
 rw [b4e hl hk]; rfl
theorem a7X (kind:Int) (s:Str):J5 kind s l size k pl = some (isT l kind s k):=by
 unfold J5 isT
 rcases Nat.lt_or_ge k l.length with h | h
 ·rw [a4G (by omega),cond_true,a2J h,Option.bind_some,Option.bind_some,List.getElem?_eq_getElem h]
  simp only
  cases eqB l[k].kind kind <;> simp
 ·rw [a4j (by omega),cond_false,List.getElem?_eq_none h]
theorem b87 (kind:Int):a0c kind l size k pl = some (isK l kind k):=by
 unfold a0c isK
 rcases Nat.lt_or_ge k l.length with h | h
 ·rw [a4G (by omega),cond_true,a2J h,Option.bind_some,List.getElem?_eq_getElem h]
 ·rw [a4j (by omega),cond_false,List.getElem?_eq_none h]
theorem sg (s:Str) (hs:eqS s [] = false) :
  (isT l 8 s k = true /\ k < l.length /\ A7 s l k size = some (true,((k + 1:Nat):Int)) /\ p8 s l size k pl = some (true,((k + 1:Nat):Int)) /\ q9 s l k size = some (.ok ((k + 1:Nat):Int))) ∨
  (isT l 8 s k = false /\ A7 s l k size = some (false,(k:Int)) /\ p8 s l size k pl = some (false,(k:Int)) /\ q9 s l k size = some (.pan (H6 l size k,(k:Int)))):=by
 have h1:A7 s l k size = (some (isT l 8 s k)).bind fun r5=>cond (!r5) (some ((false,(k:Int)))) (some ((true,(w64 (k + 1))))):=by unfold A7; rw [b4X hl hk size 8 s hs]
 have h2:p8 s l size k pl = ((some (isT l 8 s k)).bind fun r7=>cond r7 (some ((true,(w64 (k + 1))))) (some ((false,(k:Int))))).bind fun (r6,at7)=>some ((r6,at7)):=by
  unfold p8 a4d; rw [a7X hl hk size pl 8 s]
 have h3:∀ b:Bool,∀ q:Int,A7 s l k size = some (b,q) -> q9 s l k size = cond (!b) (C9 (Z4 l q size) (fun (_:Empty)=>none) fun at7=>some (.pan (at7,q))) (some (.ok q)):=by
  intro b q h; unfold q9; rw [h]; rfl
 cases hb:isT l 8 s k with
 | true =>
  have hlt:=a5Y hb
  rw [hb] at h1 h2
  simp only [Option.bind_some,Bool.not_true,cond_false,cond_true] at h1 h2
  rw [a0d (by omega)] at h1 h2
  refine .inl ⟨rfl,hlt,h1,h2,?_⟩
  rw [h3 _ _ h1]; rfl
 | false =>
  rw [hb] at h1 h2
  simp only [Option.bind_some,Bool.not_false,cond_false,cond_true] at h1 h2
  refine .inr ⟨rfl,h1,h2,?_⟩
  rw [h3 _ _ h1,b4c hl hk]; rfl
theorem ky (s:Str) (hs:eqS s [] = false) :
  (isT l 9 s k = true /\ k < l.length /\ F3 s l k size = some (true,((k + 1:Nat):Int)) /\ G9 s l size k pl = some (true,((k + 1:Nat):Int))) ∨
  (isT l 9 s k = false /\ F3 s l k size = some (false,(k:Int)) /\ G9 s l size k pl = some (false,(k:Int))):=by
 have h1:F3 s l k size = (some (isT l 9 s k)).bind fun r5=>cond (!r5) (some ((false,(k:Int)))) (some ((true,(w64 (k + 1))))):=by unfold F3; rw [b4X hl hk size 9 s hs]
 have h2:G9 s l size k pl = ((some (isT l 9 s k)).bind fun r7=>cond r7 (some ((true,(w64 (k + 1))))) (some ((false,(k:Int))))).bind fun (r6,at7)=>some ((r6,at7)):=by
  unfold G9 a4d; rw [a7X hl hk size pl 9 s]
 cases hb:isT l 9 s k with
 | true =>
  have hlt:=a5Y hb
  rw [hb] at h1 h2
  simp only [Option.bind_some,Bool.not_true,cond_false,cond_true] at h1 h2
  rw [a0d (by omega)] at h1 h2
  exact .inl ⟨rfl,hlt,h1,h2⟩
 | false =>
  rw [hb] at h1 h2
  simp only [Option.bind_some,Bool.not_false,cond_false,cond_true] at h1 h2
  exact .inr ⟨rfl,h1,h2⟩
theorem cap:(k < l.length /\ H7 l k size = some (.ok (O8 l k)) /\ F4 2 l size k pl = some (O8 l k,true,((k + 1:Nat):Int)) /\ w64 ((k:Int) + 1) = ((k + 1:Nat):Int)) ∨
  (H7 l k size = some (.pan (H6 l size k)) /\ F4 2 l size k pl = some ([],false,(k:Int))):=by
 have h1:H7 l k size = C9 ((some (isK l 2 k)).bind fun r5=>cond (!r5) (C9 (Z4 l k size) (fun (_:Empty)=>none) fun at6=>some (.pan at6)) ((idx' l k).bind fun x7=>some (.ok x7))) (fun r4=>some (.ok r4.text)) fun at5=>some (.pan at5):=by
  unfold H7 M0; rw [b4V hl hk size 2]
 have h2:F4 2 l size k pl = (some (isK l 2 k)).bind fun r6=>cond r6 ((idx' l k).bind fun x7=>some ((x7.text,true,(w64 (k + 1))))) (some (([],false,(k:Int)))):=by
  unfold F4; rw [b87 hl hk size pl 2]
 cases hb:isK l 2 k with
 | true =>
  have hlt:=b7w hb
  have ht:O8 l k = l[k].text:=by unfold O8; rw [List.getElem?_eq_getElem hlt]
  rw [hb,a2J hlt] at h1 h2
  simp only [Option.bind_some,Bool.not_true,cond_false,cond_true] at h1 h2
  rw [a0d (by omega)] at h2
  exact .inl ⟨hlt,by rw [h1,ht]; rfl,by rw [h2,ht],a0d (by omega)⟩
 | false =>
  rw [hb,b4c hl hk] at h1
  rw [hb] at h2
  exact .inr ⟨h1,h2⟩
end
mutual
def Typ.sz:Typ -> Nat
 | ⟨_,_,_,a⟩=>1 + szT a
def szT:List Typ -> Nat
 | []=>0
 | x :: r=>x.sz + szT r
end
theorem Typ.a13 (x:Typ):x.sz = 1 + szT x.args:=by cases x; rfl
theorem a9V:∀ a b:List Typ,szT (a ++ b) = szT a + szT b
 | [],b=>by simp [szT]
 | x :: a,b=>by rw [List.cons_append,szT,szT,a9V a b]; omega
theorem a9W (x:Typ):szT [x] = x.sz:=by simp [szT]
theorem b4s:∀ l:List Typ,l.length <= szT l
 | []=>Nat.le_refl _
 | x :: r=>by have:=b4s r; have:=x.a13; simp only [szT,List.length_cons]; omega
def kindOf (s:Str) (a:List Typ):Int :=
 cond (eqB (List.length a:Int) 0 && eqS s [73,110,116]) 1 (cond (eqB (List.length a:Int) 0 && eqS s [66,111,111,108]) 2 (cond (eqB (List.length a:Int) 0 && eqS s [84,101,120,116]) 3 (cond (eqB (List.length a:Int) 0 && eqS s [85,110,105,116]) 4
 (cond (eqB (List.length a:Int) 1 && eqS s [65,114,114,97,121]) 5 (cond (eqB (List.length a:Int) 1 && eqS s [87,101,97,107]) 11 6)))))
def a8M (s:Str) (a:List Typ):Typ:=⟨kindOf s a,cond (!eqB (kindOf s a) 6) [] s,0,a⟩
theorem b5c (s:Str) (a:List Typ):a4n s a = some (a8M s a):=by
 unfold a4n a8M kindOf
 rcases a with _ | ⟨x,_ | ⟨y,r⟩⟩
 ·rw [show eqB (List.length ([]:List Typ):Int) 0 = true from a7e rfl,show eqB (List.length ([]:List Typ):Int) 1 = false from a7d (by simp),show ltB 0 (List.length ([]:List Typ):Int) = false from a4j (by simp)]
  cases eqS s [73,110,116] <;> cases eqS s [66,111,111,108] <;> cases eqS s [84,101,120,116] <;> cases eqS s [85,110,105,116] <;> simp [R8,eqB]
 ·rw [show eqB (List.length [x]:Int) 0 = false from a7d (by simp),show eqB (List.length [x]:Int) 1 = true from a7e (by simp),show ltB 0 (List.length [x]:Int) = true from a4G (by simp)]
  cases h1:eqS s [65,114,114,97,121] <;> cases h2:eqS s [87,101,97,107] <;> simp [R8,eqB]
 ·rw [show eqB (List.length (x :: y :: r):Int) 0 = false from a7d (by simp; omega),show eqB (List.length (x :: y :: r):Int) 1 = false from a7d (by simp; omega),show ltB 0 (List.length (x :: y :: r):Int) = true from a4G (by simp; omega)]
  simp [R8,eqB]
end Go.Proofs.YtlfomdllnidliaaGreatDoor
namespace Go.Proofs.YtlfomdllnidliaaGreatDoor
open Go Go.Vm
def SimT (l:List Tok) (size:Int) (k:Nat) (p:Option (Rs (Typ × Int) (Int × Int))) (r:Option (Typ × Bool × Int)):Prop :=
 (∃ (t:Typ) (k':Nat),p = some (.ok (t,(k':Int))) /\ r = some (t,true,(k':Int)) /\ k < k' /\ k' <= l.length /\ t.sz + k <= k') ∨
 (∃ (t:Typ) (k':Nat),p = some (.pan (H6 l size k',(k':Int))) /\ r = some (t,false,(k':Int)) /\ k <= k' /\ k' <= l.length)
section
variable {l:List Tok} (hl:l.length <= 3000) (size pl:Int) {Φ:A9} {Ψ:F5} (n n':Nat) {c:Nat}
 (IH:∀ k,c <= k -> k <= l.length -> SimT l size k (Φ.D6 l k size) (Ψ.P9 l size k pl))
include hl IH
theorem b9g {k0:Nat}:∀ (m m':Nat) (args:List Typ) (k:Nat),c <= k + 1 -> k <= l.length -> l.length - k < m -> l.length - k < m' -> szT args + k0 <= k ->
  (∃ (args':List Typ) (k':Nat),P7 n Φ size l m args k = some (.brk (args',(k':Int))) /\ ((p8 [44] l size k pl).bind fun (r9,at10)=>a1k n' Ψ size l pl m' args r9 at10) = some (.brk (args',(k':Int))) /\ k <= k' /\ k' <= l.length /\ szT args' + k0 <= k') ∨
  (∃ (args':List Typ) (k':Nat),P7 n Φ size l m args k = some (.out (.pan (H6 l size k',(k':Int)))) /\ ((p8 [44] l size k pl).bind fun (r9,at10)=>a1k n' Ψ size l pl m' args r9 at10) = some (.out (args',false,(k':Int))) /\ k <= k' /\ k' <= l.length)
 | 0,m',args,k,h1,h2,h3,h5,h4=>by omega
 | m + 1,0,args,k,h1,h2,h3,h5,h4=>by omega
 | m + 1,m' + 1,args,k,h1,h2,h3,h5,h4=>by
  simp only [P7,a1k]
  rcases sg hl h2 size pl [44] (a19 _ _) with ⟨_,hlt,hp,hr,_⟩ | ⟨_,hp,hr,_⟩
  ·rw [hp,hr]
   simp only [Option.bind_some,cond_true]
   rcases IH (k + 1) h1 hlt with ⟨t,k',a,b,g1,g2,g3⟩ | ⟨t,k',a,b,g1,g2⟩
   ·rw [a,b]
    have hlen:=b4s args
    have hap:app 56 args [t] = some (args ++ [t]):=b1B (by simp only [List.length_singleton]; omega)
    simp only [C9,Option.bind_some,Bool.not_true,cond_false]
    rw [hap]
    simp only [Option.bind_some]
    rcases b9g (k0:=k0) m m' (args ++ [t]) k' (by omega) g2 (by omega) (by omega) (by rw [a9V,a9W]; omega) with ⟨x1,x2,x3,x4,x5,x6,x7⟩ | ⟨x1,x2,x3,x4,x5,x6⟩
    ·exact .inl ⟨x1,x2,x3,x4,by omega,x6,x7⟩
    ·exact .inr ⟨x1,x2,x3,x4,by omega,x6⟩
   ·rw [a,b]
    exact .inr ⟨_,k',rfl,rfl,by omega,g2⟩
  ·rw [hp,hr]
   exact .inl ⟨args,k,rfl,rfl,Nat.le_refl _,h2,h4⟩
theorem b3k {k:Nat} (hc:c <= k) (hk:k <= l.length) (hn:l.length < n) (hn':l.length < n') :
  (∃ (t:Typ) (k1:Nat) (args:List Typ) (k2:Nat),Φ.D6 l k size = some (.ok (t,(k1:Int))) /\ app 56 ([]:List Typ) [t] = some [t] /\ P7 n Φ size l n [t] k1 = some (.brk (args,(k2:Int))) /\ a0P n' Ψ l size k pl = some (args,true,(k2:Int)) /\ k < k2 /\ k2 <= l.length /\ szT args + k <= k2) ∨
  (∃ (args:List Typ) (k2:Nat),Φ.D6 l k size = some (.pan (H6 l size k2,(k2:Int))) /\ a0P n' Ψ l size k pl = some (args,false,(k2:Int)) /\ k <= k2 /\ k2 <= l.length) ∨
  (∃ (t:Typ) (k1:Nat) (args:List Typ) (k2:Nat),Φ.D6 l k size = some (.ok (t,(k1:Int))) /\ app 56 ([]:List Typ) [t] = some [t] /\ P7 n Φ size l n [t] k1 = some (.out (.pan (H6 l size k2,(k2:Int)))) /\ a0P n' Ψ l size k pl = some (args,false,(k2:Int)) /\ k <= k2 /\ k2 <= l.length):=by
 have hap:∀ t:Typ,app 56 ([]:List Typ) [t] = some [t]:=fun t=>b1B (by simp)
 obtain ⟨q,rfl⟩:∃ q,n' = q + 1:=⟨n' - 1,by omega⟩
 unfold a0P
 simp only [a1k,cond_true]
 rcases IH k hc hk with ⟨t,k1,a,b,g1,g2,g3⟩ | ⟨t,k1,a,b,g1,g2⟩
 ·rw [b]
  simp only [Option.bind_some,Bool.not_true,cond_false]
  rw [hap]
  simp only [Option.bind_some]
  rcases b9g hl size pl n (q + 1) IH (k0:=k) n q [t] k1 (by omega) g2 (by omega) (by omega) (by rw [a9W]; omega) with ⟨x1,x2,x3,x4,x5,x6,x7⟩ | ⟨x1,x2,x3,x4,x5,x6⟩
  ·refine .inl ⟨t,k1,x1,x2,a,hap t,x3,?_,by omega,x6,x7⟩
   rw [x4]; rfl
  ·refine .inr (.inr ⟨t,k1,x1,x2,a,hap t,x3,?_,by omega,x6⟩)
   rw [x4]; rfl
 ·rw [b]
  exact .inr (.inl ⟨[],k1,a,rfl,g1,g2⟩)
end
theorem l5_eq (n:Nat) (Φ:A9) (size:Int) (l:List Tok):∀ m args k,a0i n Φ size l m args k = P7 n Φ size l m args k
 | 0,args,k=>rfl
 | m + 1,args,k=>by simp only [a0i,P7,l5_eq n Φ size l m]
section
variable {l:List Tok} (hl:l.length <= 3000) (size pl:Int)
include hl
theorem b8j {Φ:A9} {Ψ:F5} (n n':Nat) {k0:Nat}:∀ (m m':Nat) (t:Typ) (k:Nat),k <= l.length -> l.length - k < m -> l.length - k + 1 < m' -> t.sz + k0 <= k ->
    (∃ (t':Typ) (k':Nat),K9 n Φ false size l m k t = some (.brk ((k':Int),t')) /\ Y7 n' Ψ size l pl m' true k t = some (true,(k':Int),t') /\ k <= k' /\ k' <= l.length /\ t'.sz + k0 <= k') ∨
    (∃ (t':Typ) (k':Nat),K9 n Φ false size l m k t = some (.out (.pan (H6 l size k',(k':Int)))) /\ Y7 n' Ψ size l pl m' true k t = some (false,(k':Int),t') /\ k <= k' /\ k' <= l.length)
  | 0,m',t,k,h1,h2,h3,h4=>by omega
  | m + 1,0,t,k,h1,h2,h3,h4=>by omega
  | m + 1,1,t,k,h1,h2,h3,h4=>by omega
  | m + 1,m' + 2,t,k,h1,h2,h3,h4=>by
    have e:∀ (b:Bool) (q:Int) (u:Typ),Y7 n' Ψ size l pl (m' + 2) b q u = Option.bind (α:=Bool × Int) (cond b ((p8 [46] l size q pl).bind fun (r28,at29)=>some (r28,at29)) (some (false,q))) fun (x590,at591) =>
        cond x590 ((F4 2 l size at591 pl).bind fun (r30,r31,at32)=>Y7 n' Ψ size l pl (m' + 1) r31 at32 (⟨8,r30,0,[u]⟩:Typ)) (some (b,at591,u)):=fun _ _ _=>rfl
    have e1:∀ (q:Int) (u:Typ),Y7 n' Ψ size l pl (m' + 1) false q u = some (false,q,u):=fun _ _=>rfl
    rw [e]
    simp only [K9,cond_true,cond_false]
    rcases sg hl h1 size pl [46] (a19 _ _) with ⟨hb,hlt,hp,hr,_⟩ | ⟨hb,hp,hr,_⟩
    · rw [b4X hl h1 size 8 [46] (a19 _ _),hb,hr]
      simp only [Option.bind_some,cond_true]
      rw [a0d (by omega)]
      rcases cap hl hlt size pl with ⟨c1,c2,c3,c4⟩ | ⟨c2,c3⟩
      · rw [c2,c3,c4]
        simp only [C9,Option.bind_some]
        rcases b8j (k0:=k0) n n' m (m' + 1) ⟨8,O8 l (k + 1),0,[t]⟩ (k + 1 + 1) (by omega) (by omega) (by omega) (by rw [Typ.a13]; simp only [a9W]; omega) with ⟨x1,x2,x3,x4,x5,x6,x7⟩ | ⟨x1,x2,x3,x4,x5,x6⟩
        · exact .inl ⟨x1,x2,x3,x4,by omega,x6,x7⟩
        · exact .inr ⟨x1,x2,x3,x4,by omega,x6⟩
      · rw [c2,c3]
        simp only [C9,Option.bind_some]
        rw [e1]
        exact .inr ⟨_,k + 1,rfl,rfl,by omega,hlt⟩
    · rw [b4X hl h1 size 8 [46] (a19 _ _),hb,hr]
      simp only [Option.bind_some,cond_false]
      exact .inl ⟨t,k,rfl,rfl,Nat.le_refl _,h1,h4⟩
theorem path_sim {R a b k:Nat} (ha:4 * R + l.length + 8 <= a) (hb:4 * R + l.length + 8 <= b) (hk:k <= l.length) (hR:l.length - k <= R)
    (IH:∀ q n n',k < q -> q <= l.length -> 4 * R + l.length + 6 <= n -> 4 * R + l.length + 6 <= n' -> SimT l size q ((A9.fs n).D6 l q size) ((F5.fs n').P9 l size q pl)) (n':Nat) (Ψ:F5) (m:Nat) (hm:l.length + 1 < m) :
    SimT l size k (Y0 a (A9.fs a) false l k size) ((a1E b (F5.fs b) l size k pl).bind fun (r25,r26,at27)=>Option.bind (α:=Bool × Int × Typ) (Y7 n' Ψ size l pl m r26 at27 r25) fun (ok595,at596,n597)=>some ((n597,ok595,at596))):=by
  obtain ⟨m,rfl⟩:∃ q,m = q + 1:=⟨m - 1,by omega⟩
  have e1:∀ (q:Int) (u:Typ),Y7 n' Ψ size l pl (m + 1) false q u = some (false,q,u):=fun _ _=>rfl
  unfold Y0 a1E
  rcases cap hl hk size pl with ⟨c1,c2,c3,c4⟩ | ⟨c2,c3⟩
  · rw [c2,c3,c4]
    simp only [C9,Option.bind_some,Bool.not_true,cond_false]
    have fin:∀ (args:List Typ) (q:Nat),k < q -> q <= l.length -> szT args + k + 1 <= q -> SimT l size k
        ((a4n (O8 l k) args).bind fun r23=>R8 (α:=Int × Typ) (K9 a (A9.fs a) false size l a q r23) fun (b2f,n550)=>some (.ok (n550,b2f)))
        (Option.bind (some (a8M (O8 l k) args,true,(q:Int))) fun (r25,r26,at27)=>Option.bind (α:=Bool × Int × Typ) (Y7 n' Ψ size l pl (m + 1) r26 at27 r25) fun (ok595,at596,n597)=>some ((n597,ok595,at596))):=by
      intro args q h1 h2 h3
      rw [b5c,Option.bind_some]
      simp only [Option.bind_some]
      rcases b8j hl size pl (Φ:=A9.fs a) (Ψ:=Ψ) a n' (k0:=k) a (m + 1) (a8M (O8 l k) args) q h2 (by omega) (by omega) (by rw [Typ.a13]; simp only [a8M]; omega) with ⟨x1,x2,x3,x4,x5,x6,x7⟩ | ⟨x1,x2,x3,x4,x5,x6⟩
      · rw [x3,x4]
        exact .inl ⟨x1,x2,rfl,rfl,by omega,x6,x7⟩
      · rw [x3,x4]
        exact .inr ⟨x1,x2,rfl,rfl,by omega,x6⟩
    have kind_ok:∀ (args:List Typ) (q:Int),(Option.bind (α:=Int) (
  Option.bind (α:=Bool) (
  cond (eqB (List.length args:Int) 0) (
  some (eqS (O8 l k) [73,110,116])) (
  some false)) fun x559 =>
  cond x559 (
  some 1) (
  Option.bind (α:=Bool) (
  cond (eqB (List.length args:Int) 0) (
  some (eqS (O8 l k) [66,111,111,108])) (
  some false)) fun x560 =>
  cond x560 (
  some 2) (
  Option.bind (α:=Bool) (
  cond (eqB (List.length args:Int) 0) (
  some (eqS (O8 l k) [84,101,120,116])) (
  some false)) fun x561 =>
  cond x561 (
  some 3) (
  Option.bind (α:=Bool) (
  cond (eqB (List.length args:Int) 0) (
  some (eqS (O8 l k) [85,110,105,116])) (
  some false)) fun x562 =>
  cond x562 (
  some 4) (
  Option.bind (α:=Bool) (
  cond (eqB (List.length args:Int) 1) (
  some (eqS (O8 l k) [65,114,114,97,121])) (
  some false)) fun x563 =>
  cond x563 (
  some 5) (
  Option.bind (α:=Bool) (
  cond (eqB (List.length args:Int) 1) (
  some (eqS (O8 l k) [87,101,97,107])) (
  some false)) fun x564 =>
  cond x564 (
  some 11) (
  some 6))))))) fun b2p =>
  Option.bind (α:=Str) (
  cond (!eqB b2p 6) (
  some []) (
  some (O8 l k))) fun s566 =>
  some (((⟨b2p,s566,0,args⟩:Typ),true,q))) = some (a8M (O8 l k) args,true,q):=by
      intro args q
      unfold a8M kindOf
      cases eqB (List.length args:Int) 0 <;> cases eqB (List.length args:Int) 1 <;> cases eqS (O8 l k) [73,110,116] <;> cases eqS (O8 l k) [66,111,111,108] <;> cases eqS (O8 l k) [84,101,120,116] <;> cases eqS (O8 l k) [85,110,105,116] <;>
        cases eqS (O8 l k) [65,114,114,97,121] <;> cases eqS (O8 l k) [87,101,97,107] <;> simp [eqB]
    rcases sg hl c1 size pl [60] (a19 _ _) with ⟨_,hlt,hp,hr,_⟩ | ⟨_,hp,hr,_⟩
    · rw [hp,hr]
      simp only [Option.bind_some,cond_true]
      obtain ⟨b',rfl⟩:∃ q,b = q + 1:=⟨b - 1,by omega⟩
      have hty:∀ q:Int,(F5.fs (b' + 1)).a1q l size q pl = a0P b' (F5.fs b') l size q pl:=fun _=>rfl
      rw [hty]
      simp only [l5_eq]
      rcases b3k hl size pl (Φ:=A9.fs a) (Ψ:=F5.fs b') a b' (c:=k + 1) (fun q h1 h2=>IH q a b' (by omega) h2 (by omega) (by omega)) (k:=k + 1 + 1) (by omega) hlt (by omega) (by omega) with
        ⟨t,k1,args,k2,y1,y2,y3,y4,y5,y6,y7⟩ | ⟨args,k2,y1,y2,y3,y4⟩ | ⟨t,k1,args,k2,y1,y2,y3,y4,y5,y6⟩
      · rw [y1,y4]
        simp only [C9,Option.bind_some]
        rw [y2]
        simp only [Option.bind_some]
        rw [y3]
        simp only [a3Y,Bool.not_true,cond_false]
        rcases sg hl y6 size pl [62] (a19 _ _) with ⟨_,hlt2,_,hr2,hw2⟩ | ⟨_,_,hr2,hw2⟩
        · rw [hw2,hr2]
          simp only [C9,R8,Option.bind_some,Bool.not_true,cond_false]
          rw [kind_ok]
          exact fin args (k2 + 1) (by omega) (by omega) (by omega)
        · rw [hw2,hr2]
          simp only [C9,R8,Option.bind_some,Bool.not_false,cond_true]
          rw [e1]
          exact .inr ⟨_,k2,rfl,rfl,by omega,y6⟩
      · rw [y1,y2]
        simp only [C9,R8,Option.bind_some,Bool.not_false,cond_true]
        rw [e1]
        exact .inr ⟨_,k2,rfl,rfl,by omega,y4⟩
      · rw [y1,y4]
        simp only [C9,Option.bind_some]
        rw [y2]
        simp only [Option.bind_some]
        rw [y3]
        simp only [a3Y,R8,Option.bind_some,Bool.not_false,cond_true]
        rw [e1]
        exact .inr ⟨_,k2,rfl,rfl,by omega,y6⟩
    · rw [hp,hr]
      simp only [R8,Option.bind_some,cond_false]
      rw [kind_ok]
      exact fin [] (k + 1) (by omega) c1 (by simp [szT])
  · rw [c2,c3]
    simp only [C9,Option.bind_some,Bool.not_false,cond_true]
    rw [e1]
    exact .inr ⟨_,k,rfl,rfl,Nat.le_refl _,hk⟩
theorem b9j {R n n' k:Nat} (ha:4 * R + l.length + 10 <= n) (hb:4 * R + l.length + 10 <= n') (hk:k <= l.length) (hR:l.length - k <= R)
    (IH:∀ q n n',k < q -> q <= l.length -> 4 * R + l.length + 6 <= n -> 4 * R + l.length + 6 <= n' -> SimT l size q ((A9.fs n).D6 l q size) ((F5.fs n').P9 l size q pl)) :
    SimT l size k ((A9.fs n).D6 l k size) ((F5.fs n').P9 l size k pl):=by
  obtain ⟨a,rfl⟩:∃ q,n = q + 2:=⟨n - 2,by omega⟩
  obtain ⟨b,rfl⟩:∃ q,n' = q + 2:=⟨n' - 2,by omega⟩
  show SimT l size k (a09 (a + 1) (A9.fs (a + 1)) l k size) (a5g (b + 1) (F5.fs (b + 1)) l size k pl)
  unfold a09 a5g
  rcases ky hl hk size pl [97,110,121] (a19 _ _) with ⟨_,hlt,hp,hr⟩ | ⟨_,hp,hr⟩
  · rw [hp,hr]
    simp only [Option.bind_some,cond_true]
    rcases cap hl hlt size pl with ⟨c1,c2,c3,c4⟩ | ⟨c2,c3⟩
    · rw [c2,c3,c4]
      exact .inl ⟨_,k + 1 + 1,rfl,rfl,by omega,c1,by rw [Typ.a13]; simp only [szT]; omega⟩
    · rw [c2,c3]
      exact .inr ⟨_,k + 1,rfl,rfl,by omega,hlt⟩
  · rw [hp,hr]
    simp only [Option.bind_some,cond_false]
    rcases sg hl hk size pl [40] (a19 _ _) with ⟨_,hlt,hp,hr,_⟩ | ⟨_,hp,hr,_⟩
    · rw [hp,hr]
      simp only [Option.bind_some,Bool.not_true,cond_false,cond_true]
      have fin:∀ (args:List Typ) (q:Nat),k < q -> q <= l.length -> szT args + k + 1 <= q -> SimT l size k
          (C9 (q9 [45,62] l q size) (fun at31=>C9 ((A9.fs (a + 1)).D6 l at31 size) (fun (r32,at33)=>(app 56 args ([r32]:List Typ)).bind fun l34=>some (.ok ((⟨10,[],0,l34⟩:Typ),at33))) fun (at35,at36)=>some (.pan (at35,at36))) fun (at37,at38)=>some (.pan (at37,at38)))
          ((p8 [45,62] l size q pl).bind fun (r19,at20)=>cond (!r19) (some (((⟨10,[],0,args⟩:Typ),false,at20))) (((F5.fs (b + 1)).P9 l size at20 pl).bind fun (r21,r22,at23)=>(app 56 args ([r21]:List Typ)).bind fun l24=>some (((⟨10,[],0,l24⟩:Typ),r22,at23)))):=by
        intro args q h1 h2 h3
        have hlen:=b4s args
        have hap:∀ t:Typ,app 56 args [t] = some (args ++ [t]):=fun t=>b1B (by simp only [List.length_singleton]; omega)
        rcases sg hl h2 size pl [45,62] (a19 _ _) with ⟨_,hlt2,_,hr2,hw2⟩ | ⟨_,_,hr2,hw2⟩
        · rw [hw2,hr2]
          simp only [C9,Option.bind_some,Bool.not_true,cond_false]
          rcases IH (q + 1) (a + 1) (b + 1) (by omega) hlt2 (by omega) (by omega) with ⟨t,k',x,y,g1,g2,g3⟩ | ⟨t,k',x,y,g1,g2⟩
          · rw [x,y]
            simp only [Option.bind_some]
            rw [hap]
            exact .inl ⟨_,k',rfl,rfl,by omega,g2,by rw [Typ.a13]; simp only [a9V,a9W]; omega⟩
          · rw [x,y]
            simp only [Option.bind_some]
            rw [hap]
            exact .inr ⟨_,k',rfl,rfl,by omega,g2⟩
        · rw [hw2,hr2]
          exact .inr ⟨_,q,rfl,rfl,by omega,h2⟩
      rcases sg hl hlt size pl [41] (a19 _ _) with ⟨_,hlt2,hp2,hr2,_⟩ | ⟨_,hp2,hr2,_⟩
      · rw [hp2,hr2]
        simp only [R8,Option.bind_some,Bool.not_true,cond_false]
        exact fin [] (k + 1 + 1) (by omega) hlt2 (by simp only [szT]; omega)
      · rw [hp2,hr2]
        simp only [Option.bind_some,Bool.not_false,cond_true]
        have hty:∀ q:Int,(F5.fs (b + 1)).a1q l size q pl = a0P b (F5.fs b) l size q pl:=fun _=>rfl
        rw [hty]
        rcases b3k hl size pl (Φ:=A9.fs (a + 1)) (Ψ:=F5.fs b) (a + 1) b (c:=k + 1) (fun q h1 h2=>IH q (a + 1) b (by omega) h2 (by omega) (by omega)) (k:=k + 1) (by omega) hlt (by omega) (by omega) with
          ⟨t,k1,args,k2,y1,y2,y3,y4,y5,y6,y7⟩ | ⟨args,k2,y1,y2,y3,y4⟩ | ⟨t,k1,args,k2,y1,y2,y3,y4,y5,y6⟩
        · rw [y1,y4]
          simp only [C9,Option.bind_some]
          rw [y2]
          simp only [Option.bind_some]
          rw [y3]
          simp only [a3Y,Bool.not_true,cond_false]
          rcases sg hl y6 size pl [41] (a19 _ _) with ⟨_,hlt2,_,hr2,hw2⟩ | ⟨_,_,hr2,hw2⟩
          · rw [hw2,hr2]
            simp only [C9,R8,Option.bind_some,Bool.not_true,cond_false]
            exact fin args (k2 + 1) (by omega) hlt2 (by omega)
          · rw [hw2,hr2]
            simp only [C9,R8,Option.bind_some,Bool.not_false,cond_true]
            exact .inr ⟨_,k2,rfl,rfl,by omega,y6⟩
        · rw [y1,y2]
          simp only [C9,R8,Option.bind_some,Bool.not_false,cond_true]
          exact .inr ⟨_,k2,rfl,rfl,by omega,y4⟩
        · rw [y1,y4]
          simp only [C9,Option.bind_some]
          rw [y2]
          simp only [Option.bind_some]
          rw [y3]
          simp only [a3Y,R8,Option.bind_some,Bool.not_false,cond_true]
          exact .inr ⟨_,k2,rfl,rfl,by omega,y6⟩
    · rw [hp,hr]
      simp only [Option.bind_some,Bool.not_false,cond_true,cond_false]
      have hpa:∀ q:Int,(A9.fs (a + 1)).P6 false l q size = Y0 a (A9.fs a) false l q size:=fun _=>rfl
      have hba:∀ q:Int,(F5.fs (b + 1)).a1f l size q pl = a1E b (F5.fs b) l size q pl:=fun _=>rfl
      rw [hpa,hba]
      rcases path_sim hl size pl (R:=R) (a:=a) (b:=b) (k:=k) (by omega) (by omega) hk hR IH (b + 1) (F5.fs (b + 1)) (b + 1) (by omega) with ⟨t,k',x,y,g1,g2,g3⟩ | ⟨t,k',x,y,g1,g2⟩
      · rw [x,y]
        exact .inl ⟨t,k',rfl,rfl,g1,g2,g3⟩
      · rw [x,y]
        exact .inr ⟨t,k',rfl,rfl,g1,g2⟩
theorem b7Z:∀ (R n n' k:Nat),4 * R + l.length + 10 <= n -> 4 * R + l.length + 10 <= n' -> k <= l.length -> l.length - k <= R ->
  SimT l size k ((A9.fs n).D6 l k size) ((F5.fs n').P9 l size k pl)
 | 0,n,n',k,h1,h2,h3,h4=>b9j hl size pl h1 h2 h3 h4 fun q _ _ g1 g2=>by omega
 | R + 1,n,n',k,h1,h2,h3,h4=>b9j hl size pl h1 h2 h3 h4 fun q m m' g1 g2 g3 g4=>b7Z R m m' q (by omega) (by omega) g2 (by omega)
end
end Go.Proofs.YtlfomdllnidliaaGreatDoor
namespace Go.Proofs.YtlfomdllnidliaaGreatDoor
open Go Go.Vm
section
variable {α β γ ρ:Type}
theorem I5 (a:α) (k:α -> Option γ) (p:β -> Option γ):C9 (some (.ok a)) k p = k a:=rfl
theorem O6 (b:β) (k:α -> Option γ) (p:β -> Option γ):C9 (some (.pan b)) k p = p b:=rfl
theorem Z9 (a:α) (k:α -> Option ρ):R8 (some (.brk a)) k = k a:=rfl
theorem a0r (r:ρ) (k:α -> Option ρ):R8 (some (.out r)) k = some r:=rfl
theorem a1Q (a:α) (k:α -> Option (Lr γ ρ)):a3Y (some (.brk a)) k = k a:=rfl
theorem a4y (r:ρ) (k:α -> Option (Lr γ ρ)):a3Y (some (.out r)) k = some (.out r):=rfl
theorem app_0 (b:Nat) (x:α) (hb:b <= 1000):app b [] [x] = some [x]:=b1B (by simp only [List.length_nil,List.length_singleton]; omega)
theorem b58 {b:Nat} (x y:α) (hb:b <= 1000):app b [x] [y] = some [x,y]:=b1B (by simp only [List.length_singleton]; omega)
theorem app_2 {b:Nat} (x y z:α) (hb:b <= 1000):app b [x,y] [z] = some [x,y,z]:=b1B (by simp only [List.length_singleton,List.length_cons,List.length_nil]; omega)
theorem a1L {b:Nat} {l m:List α} (hl:l.length <= 100000) (hm:m.length <= 100000) (hb:b <= 1000):app b l m = some (l ++ m):=by
 refine b1B ?_
 have:(l.length + m.length) * (b + 1) <= 200000 * 1001:=Nat.mul_le_mul (by omega) (by omega)
 omega
end
structure Cx (l:List Tok) (size:Int):Prop where
 hl:l.length <= 3000
 pos:∀ k,0 <= H6 l size k
 int:∀ k,isK l 3 k = true -> ∃ v:Int,0 <= v /\ atoi (O8 l k) = some v /\ ∀ n,10000 <= n -> a2n n (O8 l k) = some v
section
variable {l:List Tok} {size:Int} (C:Cx l size)
include C
theorem a4a {op:Int} {k:Nat} (hk:k <= l.length):E9 op l k size = some (H6 l size k):=by
 unfold E9; rw [b4e C.hl hk]; rfl
theorem is1_ok {k:Nat} (hk:k + 1 <= l.length) (kind:Int):u7 1 kind [] l k size = some (isK l kind (k + 1)):=by
 have h:=b4V C.hl hk size kind
 have hl:=C.hl
 unfold u7 at h ⊢
 rw [Int.add_zero,a3W (by omega) (by omega)] at h
 rw [a0d (by omega)]
 exact h
theorem SSx:(∀ {α β:Type} (a:α) (f:α -> Option β),(some a).bind f = f a) /\ (∀ {α:Type} (a b:α),cond true a b = a) /\ (∀ {α:Type} (a b:α),cond false a b = b) /\ (!true) = false /\ (!false) = true /\
  (∀ {α β γ:Type} (a:α) (k:α -> Option γ) (p:β -> Option γ),C9 (some (.ok a)) k p = k a) /\ (∀ {α β γ:Type} (b:β) (k:α -> Option γ) (p:β -> Option γ),C9 (some (.pan b)) k p = p b) /\
  (∀ {α ρ:Type} (a:α) (k:α -> Option ρ),R8 (some (.brk a)) k = k a) /\ (∀ {α ρ:Type} (r:ρ) (k:α -> Option ρ),R8 (some (.out r)) k = some r) /\
  (∀ {α γ ρ:Type} (a:α) (k:α -> Option (Lr γ ρ)),a3Y (some (.brk a)) k = k a) /\ (∀ {α γ ρ:Type} (r:ρ) (k:α -> Option (Lr γ ρ)),a3Y (some (.out r)) k = some (.out r)) /\
  (∀ k:Nat,k <= 1000000 -> w64 ((k:Int) + 1) = ((k + 1:Nat):Int)) /\ (∀ (op:Int) (k:Nat),k <= l.length -> E9 op l k size = some (H6 l size k)) /\
  (∀ (pl:Int) (k:Nat),k <= l.length -> L9 l size k pl = some (H6 l size k)) /\ ∀ k:Nat,k <= l.length -> a0G l k size = some (H6 l size k) :=
 ⟨fun _ _=>rfl,fun _ _=>rfl,fun _ _=>rfl,rfl,rfl,fun _ _ _=>rfl,fun _ _ _=>rfl,fun _ _=>rfl,fun _ _=>rfl,fun _ _=>rfl,fun _ _=>rfl,fun _ h=>a0d h,fun _ _ h=>a4a C h,fun pl _ h=>a6V C.hl h size pl,fun _ h=>b4e C.hl h size⟩
theorem sgx {k:Nat} (hk:k <= l.length) (a:UInt8) (r:Str) :
  (isT l 8 (a :: r) k = true /\ k + 1 <= l.length /\ A7 (a :: r) l k size = some (true,((k + 1:Nat):Int)) /\ p8 (a :: r) l size k (-1) = some (true,((k + 1:Nat):Int)) /\ q9 (a :: r) l k size = some (.ok ((k + 1:Nat):Int)) /\ u7 0 8 (a :: r) l k size = some true /\ J5 8 (a :: r) l size k (-1) = some true) ∨
  (isT l 8 (a :: r) k = false /\ A7 (a :: r) l k size = some (false,(k:Int)) /\ p8 (a :: r) l size k (-1) = some (false,(k:Int)) /\ q9 (a :: r) l k size = some (.pan (H6 l size k,(k:Int))) /\ u7 0 8 (a :: r) l k size = some false /\ J5 8 (a :: r) l size k (-1) = some false):=by
 have h1:=b4X C.hl hk size 8 (a :: r) (a19 _ _)
 have h2:=a7X C.hl hk size (-1) 8 (a :: r)
 rcases sg C.hl hk size (-1) (a :: r) (a19 _ _) with ⟨h,g1,g2,g3,g4⟩ | ⟨h,g2,g3,g4⟩
 ·rw [h] at h1 h2; exact .inl ⟨h,g1,g2,g3,g4,h1,h2⟩
 ·rw [h] at h1 h2; exact .inr ⟨h,g2,g3,g4,h1,h2⟩
theorem kyx {k:Nat} (hk:k <= l.length) (a:UInt8) (r:Str) :
  (isT l 9 (a :: r) k = true /\ k + 1 <= l.length /\ F3 (a :: r) l k size = some (true,((k + 1:Nat):Int)) /\ G9 (a :: r) l size k (-1) = some (true,((k + 1:Nat):Int)) /\ J2 (a :: r) l k size = some (.ok ((k + 1:Nat):Int)) /\ u7 0 9 (a :: r) l k size = some true /\ J5 9 (a :: r) l size k (-1) = some true) ∨
  (isT l 9 (a :: r) k = false /\ F3 (a :: r) l k size = some (false,(k:Int)) /\ G9 (a :: r) l size k (-1) = some (false,(k:Int)) /\ J2 (a :: r) l k size = some (.pan (H6 l size k,(k:Int))) /\ u7 0 9 (a :: r) l k size = some false /\ J5 9 (a :: r) l size k (-1) = some false):=by
 have h1:=b4X C.hl hk size 9 (a :: r) (a19 _ _)
 have h2:=a7X C.hl hk size (-1) 9 (a :: r)
 rcases ky C.hl hk size (-1) (a :: r) (a19 _ _) with ⟨h,g1,g2,g3⟩ | ⟨h,g2,g3⟩
 ·rw [h] at h1 h2
  refine .inl ⟨h,g1,g2,g3,?_,h1,h2⟩
  unfold J2; rw [g2]; rfl
 ·rw [h] at h1 h2
  refine .inr ⟨h,g2,g3,?_,h1,h2⟩
  unfold J2; rw [g2]
  simp only [Option.bind_some,Bool.not_false,cond_true]
  rw [b4c C.hl hk]; rfl
theorem kdx {k:Nat} (hk:k <= l.length) (kind:Int) :
  (isK l kind k = true /\ k + 1 <= l.length /\ ∃ t:Tok,idx' l (k:Int) = some t /\ t.text = O8 l k /\ t.at_ = H6 l size k /\ t.kind = kind /\ u7 0 kind [] l k size = some true /\ a0c kind l size k (-1) = some true /\ F4 kind l size k (-1) = some (O8 l k,true,((k + 1:Nat):Int)) /\ M0 kind l k size = some (.ok t)) ∨
  (isK l kind k = false /\ u7 0 kind [] l k size = some false /\ a0c kind l size k (-1) = some false /\ F4 kind l size k (-1) = some ([],false,(k:Int)) /\ M0 kind l k size = some (.pan (H6 l size k))):=by
 have h1:=b4V C.hl hk size kind
 have h2:=b87 C.hl hk size (-1) kind
 have h3:F4 kind l size k (-1) = (some (isK l kind k)).bind fun r6=>cond r6 ((idx' l k).bind fun x7=>some ((x7.text,true,(w64 (k + 1))))) (some (([],false,(k:Int)))):=by
  unfold F4; rw [h2]
 have h4:M0 kind l k size = (some (isK l kind k)).bind fun r5=>cond (!r5) (C9 (Z4 l k size) (fun (_:Empty)=>none) fun at6=>some (.pan at6)) ((idx' l k).bind fun x7=>some (.ok x7)):=by
  unfold M0; rw [h1]
 cases hb:isK l kind k with
 | true =>
  have hlt:=b7w hb
  have hl:=C.hl
  have ht:O8 l k = l[k].text:=by unfold O8; rw [List.getElem?_eq_getElem hlt]
  have ha:H6 l size k = l[k].at_:=by unfold H6; rw [List.getElem?_eq_getElem hlt]
  have hkd:l[k].kind = kind:=by
   unfold isK at hb; rw [List.getElem?_eq_getElem hlt] at hb
   simpa [eqB] using hb
  rw [hb] at h1 h2 h3 h4
  rw [a2J hlt] at h3 h4
  simp only [Option.bind_some,Bool.not_true,cond_false,cond_true] at h3 h4
  rw [a0d (by omega),<- ht] at h3
  exact .inl ⟨rfl,hlt,l[k],a2J hlt,ht.symm,ha.symm,hkd,h1,h2,h3,h4⟩
 | false =>
  rw [hb] at h1 h2 h3 h4
  rw [b4c C.hl hk] at h4
  exact .inr ⟨rfl,h1,h2,h3,h4⟩
theorem b6A (kind:Int) (s:Str) (k:Nat):isT l kind s k = (isK l kind k && eqS (O8 l k) s):=by
 unfold isT isK O8
 cases l[k]? <;> rfl
theorem nmx {k:Nat} (hk:k <= l.length) :
  (isK l 1 k = true /\ k + 1 <= l.length /\ K5 l k size = some (.ok (O8 l k)) /\ F4 1 l size k (-1) = some (O8 l k,true,((k + 1:Nat):Int)) /\ u7 0 1 [] l k size = some true) ∨
  (isK l 1 k = false /\ K5 l k size = some (.pan (H6 l size k)) /\ F4 1 l size k (-1) = some ([],false,(k:Int)) /\ u7 0 1 [] l k size = some false):=by
 unfold K5
 rcases kdx C hk 1 with ⟨h,g1,t,g2,g3,g4,g5,g6,g7,g8,g9⟩ | ⟨h,g6,g7,g8,g9⟩
 ·exact .inl ⟨h,g1,by rw [g9,I5,g3],g8,g6⟩
 ·exact .inr ⟨h,by rw [g9]; rfl,g8,g6⟩
theorem inx {k:Nat} (hk:k <= l.length) :
  (isK l 3 k = true /\ k + 1 <= l.length /\ ∃ v:Int,0 <= v /\ Y6 l k size = some (.ok v) /\ F4 3 l size k (-1) = some (O8 l k,true,((k + 1:Nat):Int)) /\ u7 0 3 [] l k size = some true /\ ∀ n,10000 <= n -> a2n n (O8 l k) = some v) ∨
  (isK l 3 k = false /\ Y6 l k size = some (.pan (H6 l size k)) /\ F4 3 l size k (-1) = some ([],false,(k:Int)) /\ u7 0 3 [] l k size = some false):=by
 unfold Y6
 rcases kdx C hk 3 with ⟨h,g1,t,g2,g3,g4,g5,g6,g7,g8,g9⟩ | ⟨h,g6,g7,g8,g9⟩
 ·obtain ⟨v,v0,v1,v2⟩:=C.int k h
  exact .inl ⟨h,g1,v,v0,by rw [g9,I5,g3,v1]; rfl,g8,g6,v2⟩
 ·exact .inr ⟨h,by rw [g9]; rfl,g8,g6⟩
end
mutual
def Nod.sz:Nod -> Nat
 | ⟨_,_,_,t,ts,l,_⟩=>1 + t.sz + szT ts + szN l
def szN:List Nod -> Nat
 | []=>0
 | x :: r=>x.sz + szN r
end
theorem Nod.a13 (x:Nod):x.sz = 1 + x.t.sz + szT x.ts + szN x.l:=by cases x; rfl
theorem nsz (op:Int) (s:Str) (n:Int) (t:Typ) (ts:List Typ) (l:List Nod) (a:Int):(⟨op,s,n,t,ts,l,a⟩:Nod).sz = 1 + t.sz + szT ts + szN l:=rfl
theorem tsz (k:Int) (s:Str) (n:Int) (a:List Typ):(⟨k,s,n,a⟩:Typ).sz = 1 + szT a:=rfl
theorem a8i:szT [] = 0:=rfl
theorem szT_cons (x:Typ) (r:List Typ):szT (x :: r) = x.sz + szT r:=rfl
theorem a8h:szN [] = 0:=rfl
theorem a7B (x:Nod) (r:List Nod):szN (x :: r) = x.sz + szN r:=rfl
theorem b1U:∀ a b:List Nod,szN (a ++ b) = szN a + szN b
 | [],b=>by simp [szN]
 | x :: a,b=>by rw [List.cons_append,szN,szN,b1U a b]; omega
theorem a0e:∀ l:List Nod,l.length <= szN l
 | []=>Nat.le_refl _
 | x :: r=>by have:=a0e r; have:=x.a13; simp only [szN,List.length_cons]; omega
theorem a6Q {x:Nod}:∀ {l:List Nod},x ∈ l -> x.sz <= szN l
 | y :: r,h=>by
  simp only [szN]
  rcases List.mem_cons.1 h with rfl | h
  ·omega
  ·have:=a6Q h; omega
theorem szs:(∀ (op:Int) (s:Str) (n:Int) (t:Typ) (ts:List Typ) (l:List Nod) (a:Int),(⟨op,s,n,t,ts,l,a⟩:Nod).sz = 1 + t.sz + szT ts + szN l) /\ (∀ (k:Int) (s:Str) (n:Int) (a:List Typ),(⟨k,s,n,a⟩:Typ).sz = 1 + szT a) /\ szT [] = 0 /\ szN [] = 0 /\ (∀ (x:Nod) (r:List Nod),szN (x :: r) = x.sz + szN r) /\ ∀ a b:List Nod,szN (a ++ b) = szN a + szN b :=
 ⟨fun _ _ _ _ _ _ _=>rfl,fun _ _ _ _=>rfl,rfl,rfl,fun _ _=>rfl,b1U⟩
theorem a7N (t:Typ):(⟨t.kind,t.name,t.n,t.args⟩:Typ) = t:=by cases t; rfl
@[reducible] def zT:Typ:=⟨0,[],0,[]⟩
inductive G:Nat -> Nod -> Prop
 | int {n a:Int}:0 <= n -> 0 <= a -> G 0 ⟨50,[],n,zT,[],[],a⟩
 | truth {n a:Int}:n = 0 ∨ n = 1 -> 0 <= a -> G 0 ⟨51,[],n,zT,[],[],a⟩
 | text {s:Str} {a:Int}:0 <= a -> G 0 ⟨52,s,0,zT,[],[],a⟩
 | interp {l:List Nod} {a:Int}:0 <= a -> (∀ x ∈ l,G 0 x) -> (∀ i x,l[2 * i]? = some x -> x.op = 52) -> 3 <= l.length -> l.length % 2 = 1 -> G 0 ⟨53,[],0,zT,[],l,a⟩
 | name {s:Str} {a:Int}:0 <= a -> G 0 ⟨54,s,0,zT,[],[],a⟩
 | use {s:Str} {a:Int}:0 <= a -> G 0 ⟨61,s,0,zT,[],[],a⟩
 | list {l:List Nod} {a:Int}:0 <= a -> (∀ x ∈ l,G 0 x) -> G 0 ⟨67,[],0,zT,[],l,a⟩
 | clos {t:Typ} {p b:List Nod} {a:Int}:0 <= a -> (∀ x ∈ p,G 4 x) -> (∀ x ∈ b,G 1 x) -> G 0 ⟨63,[],0,t,[],p ++ [⟨20,[],0,zT,[],b,a⟩],a⟩
 | bin {s:Str} {x y:Nod} {a:Int}:0 <= a -> G 0 x -> G 0 y -> G 0 ⟨64,s,0,zT,[],[x,y],a⟩
 | un {op:Int} {x:Nod} {a:Int}:op = 65 ∨ op = 66 -> 0 <= a -> G 0 x -> G 0 ⟨op,[],0,zT,[],[x],a⟩
 | field {s:Str} {x:Nod} {a:Int}:0 <= a -> G 0 x -> G 0 ⟨55,s,0,zT,[],[x],a⟩
 | call {s:Str} {l:List Nod} {a:Int}:0 <= a -> (∀ x ∈ l,G 6 x) -> G 0 ⟨56,s,0,zT,[],l,a⟩
 | method {s:Str} {x:Nod} {l:List Nod} {a:Int}:0 <= a -> G 0 x -> (∀ x ∈ l,G 6 x) -> G 0 ⟨57,s,0,zT,[],x :: l,a⟩
 | apply {x:Nod} {l:List Nod} {a:Int}:0 <= a -> G 0 x -> (∀ x ∈ l,G 6 x) -> G 0 ⟨60,[],0,zT,[],x :: l,a⟩
 | stat0 {t:Typ} {s:Str} {a:Int}:0 <= a -> G 0 ⟨58,s,0,t,[],[],a⟩
 | stat1 {t:Typ} {s:Str} {l:List Nod} {a:Int}:0 <= a -> (∀ x ∈ l,G 6 x) -> G 0 ⟨58,s,1,t,[],l,a⟩
 | make {t:Typ} {l:List Nod} {a:Int}:0 <= a -> (∀ x ∈ l,G 6 x) -> G 0 ⟨59,[],0,t,[],l,a⟩
 | arg {x:Nod}:G 0 x -> G 6 x
 | lend {x:Nod} {a:Int}:0 <= a -> G 0 x -> G 6 ⟨62,[],0,zT,[],[x],a⟩
 | let0 {s:Str} {t:Typ} {a:Int}:0 <= a -> G 1 ⟨21,s,1,t,[],[],a⟩
 | let1 {s:Str} {n:Int} {t:Typ} {x:Nod} {a:Int}:0 <= a -> n = 0 ∨ n = 1 -> G 0 x -> G 1 ⟨21,s,n,t,[],[x],a⟩
 | assign {x y:Nod} {a:Int}:0 <= a -> G 0 x -> G 0 y -> G 1 ⟨22,[],0,zT,[],[x,y],a⟩
 | sole {x:Nod} {a:Int}:0 <= a -> G 0 x -> G 1 ⟨23,[],0,zT,[],[x],a⟩
 | if2 {x b:Nod} {a:Int}:0 <= a -> G 0 x -> G 2 b -> G 1 ⟨24,[],0,zT,[],[x,b],a⟩
 | if3 {x b c:Nod} {a:Int}:0 <= a -> G 0 x -> G 2 b -> G 2 c -> G 1 ⟨24,[],0,zT,[],[x,b,c],a⟩
 | if4 {x b c:Nod} {a:Int}:0 <= a -> G 0 x -> G 2 b -> G 1 c -> c.op = 24 -> G 1 ⟨24,[],0,zT,[],[x,b,c],a⟩
 | whil {x b:Nod} {a:Int}:0 <= a -> G 0 x -> G 2 b -> G 1 ⟨25,[],0,zT,[],[x,b],a⟩
 | mat {x:Nod} {l:List Nod} {a:Int}:0 <= a -> G 0 x -> (∀ y ∈ l,G 5 y) -> G 1 ⟨26,[],0,zT,[],x :: l,a⟩
 | ret0 {a:Int}:0 <= a -> G 1 ⟨28,[],0,zT,[],[],a⟩
 | ret1 {x:Nod} {a:Int}:0 <= a -> G 0 x -> G 1 ⟨28,[],0,zT,[],[x],a⟩
 | throws {x:Nod} {a:Int}:0 <= a -> G 0 x -> G 1 ⟨29,[],0,zT,[],[x],a⟩
 | doc {s:Str} {b c:Nod} {a:Int}:0 <= a -> G 2 b -> G 2 c -> G 1 ⟨30,s,0,zT,[],[b,c],a⟩
 | defer {b:Nod} {a:Int}:0 <= a -> G 2 b -> G 1 ⟨31,[],0,zT,[],[b],a⟩
 | block {l:List Nod} {a:Int}:0 <= a -> (∀ x ∈ l,G 1 x) -> G 2 ⟨20,[],0,zT,[],l,a⟩
 | wild {a:Int}:0 <= a -> G 3 ⟨40,[],0,zT,[],[],a⟩
 | bnd {s:Str} {a:Int}:0 <= a -> G 3 ⟨41,s,0,zT,[],[],a⟩
 | pint {n a:Int}:0 <= a -> G 3 ⟨42,[],n,zT,[],[],a⟩
 | ptruth {n a:Int}:n = 0 ∨ n = 1 -> 0 <= a -> G 3 ⟨43,[],n,zT,[],[],a⟩
 | ptext {s:Str} {a:Int}:0 <= a -> G 3 ⟨44,s,0,zT,[],[],a⟩
 | pcase {s:Str} {l:List Nod} {a:Int}:0 <= a -> (∀ x ∈ l,G 3 x) -> G 3 ⟨45,s,0,zT,[],l,a⟩
 | param {s:Str} {n:Int} {t:Typ} {a:Int}:0 <= a -> G 4 ⟨10,s,n,t,[],[],a⟩
 | arm {p b:Nod} {a:Int}:0 <= a -> G 3 p -> G 2 b -> G 5 ⟨27,[],0,zT,[],[p,b],a⟩
theorem G.at {m:Nat} {x:Nod} (h:G m x):0 <= x.at_:=by
 induction h <;> assumption
theorem all_nil {m:Nat}:∀ x ∈ ([]:List Nod),G m x:=fun x h=>by cases h
theorem a5v {m:Nat} {a b:List Nod} (h1:∀ x ∈ a,G m x) (h2:∀ x ∈ b,G m x):∀ x ∈ a ++ b,G m x:=fun x h=>by
 rcases List.mem_append.1 h with h | h
 ·exact h1 x h
 ·exact h2 x h
theorem a4x {m:Nat} {a:Nod} (h:G m a):∀ x ∈ [a],G m x:=fun x hx=>by
 rcases List.mem_singleton.1 hx with rfl
 exact h
def a4w (l:List Tok) (size:Int) (k:Nat) (pl:Int) (f:o6):Prop:=(pl = -1 /\ f = ⟨⟨20,H6 l size k⟩⟩) ∨ (0 <= pl /\ f = ⟨⟨22,pl⟩⟩)
theorem a03 (l:List Tok) (size:Int) (k:Nat):a4w l size k (-1) ⟨⟨20,H6 l size k⟩⟩:=.inl ⟨rfl,rfl⟩
def SimS {α:Type} (l:List Tok) (size:Int) (k:Nat) (sz:α -> Nat) (Q:α -> Prop) (p:Option (Rs (α × Int) (Int × Int))) (r:Option (α × Bool × Int)):Prop :=
 (∃ (x:α) (q:Nat),p = some (.ok (x,(q:Int))) /\ r = some (x,true,(q:Int)) /\ k <= q /\ q <= l.length /\ sz x + 4 * k <= 4 * q /\ Q x) ∨
 (∃ (x:α) (q:Nat),p = some (.pan (H6 l size q,(q:Int))) /\ r = some (x,false,(q:Int)) /\ k <= q /\ q <= l.length)
section
variable {l:List Tok} {size:Int} (C:Cx l size)
include C
theorem b5u {a:Int} (ha:0 <= a) (n n' k0:Nat):∀ (m m' k:Nat) (op:Int) (s:Str) (xs:List Nod),k <= l.length -> k0 + 1 <= k -> l.length - k < m -> l.length - k + 1 < m' -> szN xs + 4 * k0 + 2 <= 4 * k -> G 0 ⟨op,s,0,zT,[],xs,a⟩ ->
  (∃ (q:Nat) (op':Int) (s':Str) (ys:List Nod),W9 n a size l m k op s xs = some (.brk ((q:Int),op',s',ys)) /\ a0N n' size l (-1) a m' true k op s xs = some (true,(q:Int),op',s',ys) /\ k <= q /\ q <= l.length /\ szN ys + 4 * k0 + 2 <= 4 * q /\ G 0 ⟨op',s',0,zT,[],ys,a⟩) ∨
  (∃ (q:Nat) (op':Int) (s':Str) (ys:List Nod),W9 n a size l m k op s xs = some (.out (.pan (H6 l size q,(q:Int)))) /\ a0N n' size l (-1) a m' true k op s xs = some (false,(q:Int),op',s',ys) /\ k <= q /\ q <= l.length)
 | 0,m',k,op,s,xs,h1,h0,h2,h3,h4,h5=>by omega
 | m + 1,0,k,op,s,xs,h1,h0,h2,h3,h4,h5=>by omega
 | m + 1,1,k,op,s,xs,h1,h0,h2,h3,h4,h5=>by omega
 | m + 1,m' + 2,k,op,s,xs,h1,h0,h2,h3,h4,h5=>by
  have hl:=C.hl
  have e0:∀ (b:Bool) (q:Int) (o:Int) (u:Str) (v:List Nod),a0N n' size l (-1) a (m' + 2) b q o u v = Option.bind (α:=Bool × Int) (cond b ((p8 [46] l size q (-1)).bind fun (r9,at10)=>some (r9,at10)) (some (false,q))) fun (b5X,a2F) =>
   cond b5X ((F4 1 l size a2F (-1)).bind fun (r11,r12,at13)=>a0N n' size l (-1) a (m' + 1) r12 at13 55 r11 ([(⟨o,u,0,(⟨0,[],0,[]⟩:Typ),[],v,a⟩:Nod)]:List Nod)) (some (b,a2F,o,u,v)):=fun _ _ _ _ _=>rfl
  have e9:∀ (q:Int) (o:Int) (u:Str) (v:List Nod),a0N n' size l (-1) a (m' + 1) false q o u v = some (false,q,o,u,v):=fun _ _ _ _=>rfl
  rw [e0]
  simp only [W9,cond_true]
  rcases sgx C h1 46 [] with ⟨b,hb,e1,e2,e3,e4,e5⟩ | ⟨b,e1,e2,e3,e4,e5⟩
  ·simp only [e1,e2,Option.bind_some,cond_true]
   rcases nmx C hb with ⟨c,hc,e1,e2,e3⟩ | ⟨c,e1,e2,e3⟩
   ·simp (disch:=omega) only [e1,e2,SSx C]
    rcases b5u ha n n' k0 m (m' + 1) (k + 1 + 1) 55 (O8 l (k + 1)) [⟨op,s,0,zT,[],xs,a⟩] hc (by omega) (by omega) (by omega) (by simp only [a7B,a8h,nsz,tsz,a8i]; omega) (.field ha h5) with ⟨q,o,u,v,g1,g2,g3,g4,g5,g6⟩ | ⟨q,o,u,v,g1,g2,g3,g4⟩
    ·exact .inl ⟨q,o,u,v,g1,g2,by omega,g4,g5,g6⟩
    ·exact .inr ⟨q,o,u,v,g1,g2,by omega,g4⟩
   ·simp (disch:=omega) only [e1,e2,SSx C]
    rw [e9]
    exact .inr ⟨k + 1,_,_,_,rfl,rfl,by omega,hb⟩
  ·simp only [e1,e2,Option.bind_some,cond_false]
   exact .inl ⟨k,op,s,xs,rfl,rfl,Nat.le_refl _,h1,h4,h5⟩
theorem c1A {n n' k:Nat} (hk:k <= l.length) (hn:l.length + 2 < n) (hn':l.length + 2 < n') :
  SimS l size k Nod.sz (fun x=>G 0 x /\ k + 1 <= l.length) (a0q n l k size) (a2X n' l size k (-1)):=by
 have hl:=C.hl
 unfold a0q a2X
 rcases nmx C hk with ⟨c,hc,e1,e2,e3⟩ | ⟨c,e1,e2,e3⟩
 ·simp (disch:=omega) only [e1,e2,SSx C]
  rcases b5u C (C.pos k) n n' k n n' (k + 1) 54 (O8 l k) [] hc (by omega) (by omega) (by omega) (by simp only [szs]; omega) (.name (C.pos k)) with ⟨q,o,u,v,g1,g2,g3,g4,g5,g6⟩ | ⟨q,o,u,v,g1,g2,g3,g4⟩
  ·simp (disch:=omega) only [g1,g2,SSx C]
   exact .inl ⟨_,q,rfl,rfl,by omega,g4,by simp only [szs]; omega,g6,hc⟩
  ·simp (disch:=omega) only [g1,g2,SSx C]
   exact .inr ⟨_,q,rfl,rfl,by omega,g4⟩
 ·simp (disch:=omega) only [e1,e2,SSx C]
  obtain ⟨m,rfl⟩:∃ m,n' = m + 1:=⟨n' - 1,by omega⟩
  simp only [a0N,cond_false,Option.bind_some]
  exact .inr ⟨_,k,rfl,rfl,Nat.le_refl _,hk⟩
theorem typ4 {n n' k:Nat} (hk:k <= l.length) (hn:20000 <= n) (hn':20000 <= n') :
  (∃ (t:Typ) (q:Nat),D6 n l k size = some (.ok (t,(q:Int))) /\ P9 n' l size k (-1) = some (t,true,(q:Int)) /\ k < q /\ q <= l.length /\ t.sz + k <= q) ∨
  (∃ (t:Typ) (q:Nat),D6 n l k size = some (.pan (H6 l size q,(q:Int))) /\ P9 n' l size k (-1) = some (t,false,(q:Int)) /\ k <= q /\ q <= l.length):=by
 have hl:=C.hl
 exact b7Z C.hl size (-1) l.length n n' k (by omega) (by omega) hk (by omega)
theorem b3G {m0:List Nod} (n n' k0:Nat) (hn:20000 <= n) (hn':20000 <= n') (hm0:m0.length <= 3000):∀ (m m' k:Nat) (xs:List Nod),k <= l.length -> l.length - k + 1 < m -> l.length - k + 2 < m' -> szN xs + 4 * k0 <= 4 * k -> (∀ x ∈ xs,G 4 x) ->
  (∃ (q:Nat) (ys:List Nod),U9 n size l m xs k = some (.brk (ys,(q:Int))) /\ a1c n' size l (-1) m' (m0 ++ xs) true k = some (.brk (m0 ++ ys,(q:Int))) /\ k <= q /\ q <= l.length /\ szN ys + 4 * k0 <= 4 * q /\ ∀ x ∈ ys,G 4 x) ∨
  (∃ (q:Nat) (ys:List Nod),U9 n size l m xs k = some (.out (.pan (H6 l size q,(q:Int)))) /\ a1c n' size l (-1) m' (m0 ++ xs) true k = some (.out (ys,false,(q:Int))) /\ k <= q /\ q <= l.length)
 | 0,m',k,xs,h1,h2,h3,h4,h5=>by omega
 | m + 1,0,k,xs,h1,h2,h3,h4,h5=>by omega
 | m + 1,1,k,xs,h1,h2,h3,h4,h5=>by omega
 | m + 1,m' + 2,k,xs,h1,h2,h3,h4,h5=>by
  have hl:=C.hl
  have hlen:=a0e xs
  have e0:∀ (b:Bool) (q:Int) (v:List Nod),a1c n' size l (-1) (m' + 1) v false q = some (.brk (v,q)):=fun _ _ _=>rfl
  obtain ⟨q,nn,m1,m2,g1,g2⟩:∃ (q:Nat) (nn:Int),((F3 [105,110,111,117,116] l k size).bind fun (r8,at9) =>
   cond r8 (
   some (at9,(1:Int))) (
   (F3 [99,111,110,115,117,109,101] l at9 size).bind fun (r10,at11) =>
   cond r10 (
   some (at11,2)) (
   some (at11,0)))) = some ((q:Int),nn) /\ ((G9 [105,110,111,117,116] l size k (-1)).bind fun (r9,at10) =>
   cond r9 (
   some (at10,(1:Int))) (
   (G9 [99,111,110,115,117,109,101] l size at10 (-1)).bind fun (r11,at12) =>
   cond r11 (
   some (at12,2)) (
   some (at12,0)))) = some ((q:Int),nn) /\ k <= q /\ q <= l.length:=by
   rcases kyx C h1 105 [110,111,117,116] with ⟨b,hb,e1,e2,e3,e4,e5⟩ | ⟨b,e1,e2,e3,e4,e5⟩
   ·rw [e1,e2]; exact ⟨k + 1,1,rfl,rfl,by omega,hb⟩
   ·rw [e1,e2]
    simp only [Option.bind_some,cond_false]
    rcases kyx C h1 99 [111,110,115,117,109,101] with ⟨b,hb,e1,e2,e3,e4,e5⟩ | ⟨b,e1,e2,e3,e4,e5⟩
    ·rw [e1,e2]; exact ⟨k + 1,2,rfl,rfl,by omega,hb⟩
    ·rw [e1,e2]; exact ⟨k,0,rfl,rfl,by omega,h1⟩
  rw [U9.eq_2,a1c.eq_2,a4a C h1,a6V C.hl h1,cond_true,Option.bind_some,Option.bind_some,m1,m2]
  rcases nmx C g2 with ⟨c,hc,e1,e2,e3⟩ | ⟨c,e1,e2,e3⟩
  ·simp (disch:=omega) only [e1,e2,SSx C]
   rcases sgx C hc 58 [] with ⟨b,hb,e1,e2,e3,e4,e5⟩ | ⟨b,e1,e2,e3,e4,e5⟩
   ·simp (disch:=omega) only [e2,e3,SSx C]
    rcases typ4 C (n:=n) (n':=n') hb hn hn' with ⟨t,r,p1,p2,p3,p4,p5⟩ | ⟨t,r,p1,p2,p3,p4⟩
    ·have hz:szN (xs ++ [(⟨10,O8 l q,nn,t,[],[],H6 l size k⟩:Nod)]) + 4 * k0 <= 4 * r:=by
      simp only [b1U,a7B,a8h,nsz,a8i]; omega
     have hG:∀ x ∈ xs ++ [(⟨10,O8 l q,nn,t,[],[],H6 l size k⟩:Nod)],G 4 x:=a5v h5 (a4x (.param (C.pos k)))
     have a1:app 144 xs [(⟨10,O8 l q,nn,t,[],[],H6 l size k⟩:Nod)] = some (xs ++ [(⟨10,O8 l q,nn,t,[],[],H6 l size k⟩:Nod)]):=a1L (by omega) (by simp) (by omega)
     have a2:app 144 (m0 ++ xs) [(⟨10,O8 l q,nn,t,[],[],H6 l size k⟩:Nod)] = some (m0 ++ (xs ++ [(⟨10,O8 l q,nn,t,[],[],H6 l size k⟩:Nod)])):=by
      rw [<- List.append_assoc]; exact a1L (by simp only [List.length_append]; omega) (by simp) (by omega)
     simp (disch:=omega) only [p1,p2,a1,a2,SSx C]
     rcases sgx C p4 44 [] with ⟨b,hb,e1,e2,e3,e4,e5⟩ | ⟨b,e1,e2,e3,e4,e5⟩
     ·simp (disch:=omega) only [e1,e2,SSx C]
      rcases b3G n n' k0 hn hn' hm0 m (m' + 1) (r + 1) _ hb (by omega) (by omega) (by omega) hG with ⟨q',ys,y1,y2,y3,y4,y5,y6⟩ | ⟨q',ys,y1,y2,y3,y4⟩
      ·exact .inl ⟨q',ys,y1,y2,by omega,y4,y5,y6⟩
      ·exact .inr ⟨q',ys,y1,y2,by omega,y4⟩
     ·simp (disch:=omega) only [e1,e2,SSx C]
      rw [e0 true]
      exact .inl ⟨r,_,rfl,rfl,by omega,p4,hz,hG⟩
    ·simp (disch:=omega) only [p1,p2,SSx C]
     exact .inr ⟨r,_,rfl,rfl,by omega,p4⟩
   ·simp (disch:=omega) only [e2,e3,SSx C]
    exact .inr ⟨q + 1,_,rfl,rfl,by omega,hc⟩
  ·simp (disch:=omega) only [e1,e2,SSx C]
   exact .inr ⟨q,_,rfl,rfl,by omega,g2⟩
theorem b5m {m0:List Nod} {n n' k:Nat} (hk:k <= l.length) (hn:20000 <= n) (hn':20000 <= n') (hm0:m0.length <= 3000) :
  (∃ (q:Nat) (ys:List Nod),U4 n l k size = some (.ok (ys,(q:Int))) /\ p8 [40] l size k (-1) = some (true,((k + 1:Nat):Int)) /\ a3h n' m0 l size ((k + 1:Nat):Int) (-1) = some (m0 ++ ys,true,(q:Int)) /\ k + 2 <= q /\ q <= l.length /\ szN ys + 4 * k + 8 <= 4 * q /\ ∀ x ∈ ys,G 4 x) ∨
  (∃ (q:Nat) (ys:List Nod),U4 n l k size = some (.pan (H6 l size q,(q:Int))) /\ p8 [40] l size k (-1) = some (true,((k + 1:Nat):Int)) /\ a3h n' m0 l size ((k + 1:Nat):Int) (-1) = some (ys,false,(q:Int)) /\ k <= q /\ q <= l.length) ∨
  (U4 n l k size = some (.pan (H6 l size k,(k:Int))) /\ p8 [40] l size k (-1) = some (false,(k:Int))):=by
 have hl:=C.hl
 unfold U4 a3h
 rcases sgx C hk 40 [] with ⟨b,hb,e1,e2,e3,e4,e5⟩ | ⟨b,e1,e2,e3,e4,e5⟩
 ·simp (disch:=omega) only [e2,e3,SSx C]
  rcases sgx C hb 41 [] with ⟨b,hb2,e1,e2,e3,e4,e5⟩ | ⟨b,e1,e2,e3,e4,e5⟩
  ·simp (disch:=omega) only [e1,e2,SSx C]
   exact .inl ⟨k + 1 + 1,[],rfl,trivial,by rw [List.append_nil],by omega,hb2,by simp only [szs]; omega,all_nil⟩
  ·simp (disch:=omega) only [e1,e2,SSx C]
   have h:=b3G C (m0:=m0) n n' (k + 1) hn hn' hm0 n n' (k + 1) [] hb (by omega) (by omega) (by simp only [szs]; omega) all_nil
   rw [List.append_nil] at h
   rcases h with ⟨q,ys,y1,y2,y3,y4,y5,y6⟩ | ⟨q,ys,y1,y2,y3,y4⟩
   ·simp (disch:=omega) only [y1,y2,SSx C]
    rcases sgx C y4 41 [] with ⟨b,hb2,e1,e2,e3,e4,e5⟩ | ⟨b,e1,e2,e3,e4,e5⟩
    ·simp (disch:=omega) only [e2,e3,SSx C]
     exact .inl ⟨q + 1,ys,rfl,trivial,rfl,by omega,hb2,by omega,y6⟩
    ·simp (disch:=omega) only [e2,e3,SSx C]
     exact .inr (.inl ⟨q,_,rfl,trivial,rfl,by omega,y4⟩)
   ·simp (disch:=omega) only [y1,y2,SSx C]
    exact .inr (.inl ⟨q,_,rfl,trivial,rfl,by omega,y4⟩)
 ·simp (disch:=omega) only [e2,e3,SSx C]
  exact .inr (.inr ⟨trivial,trivial⟩)
end
end Go.Proofs.YtlfomdllnidliaaGreatDoor
namespace Go.Proofs.YtlfomdllnidliaaGreatDoor
open Go Go.Vm
theorem num_nil {n:Nat} (hn:1 <= n):a2n n [] = some 0:=by
 obtain ⟨m,rfl⟩:∃ m,n = m + 1:=⟨n - 1,by omega⟩
 simp [a2n,a2M,ltB]
section
variable {l:List Tok} {size:Int} (C:Cx l size)
include C
def SimP (l:List Tok) (size:Int) (k:Nat) (p:Option (Rs (Nod × Int) (Int × Int))) (r:Option (Nod × Bool × Int)):Prop:=SimS l size k Nod.sz (G 3) p r
section
variable {Φ:I7} {Ψ:R5} (n n':Nat) {c:Nat} (IH:∀ k,c <= k -> k <= l.length -> SimP l size k (Φ.J8 l k size) (Ψ.a0m l size k (-1)))
include IH
theorem b8V {s:Str} {a:Int} {k0:Nat}:∀ (m m' k:Nat) (xs:List Nod),c <= k + 1 -> k <= l.length -> l.length - k < m -> l.length - k < m' -> szN xs + 4 * k0 <= 4 * k -> (∀ x ∈ xs,G 3 x) ->
  (∃ (q:Nat) (ys:List Nod),T9 n Φ size l m k xs = some (.brk ((q:Int),ys)) /\ ((p8 [44] l size k (-1)).bind fun (r9,at10)=>a0Z n' Ψ size l (-1) s a m' xs r9 at10) = some (.brk (ys,(q:Int))) /\ k <= q /\ q <= l.length /\ szN ys + 4 * k0 <= 4 * q /\ ∀ x ∈ ys,G 3 x) ∨
  (∃ (q:Nat) (y:Nod),T9 n Φ size l m k xs = some (.out (.pan (H6 l size q,(q:Int)))) /\ ((p8 [44] l size k (-1)).bind fun (r9,at10)=>a0Z n' Ψ size l (-1) s a m' xs r9 at10) = some (.out (y,false,(q:Int))) /\ k <= q /\ q <= l.length)
 | 0,m',k,xs,h1,h2,h3,h4,h5,h6=>by omega
 | m + 1,0,k,xs,h1,h2,h3,h4,h5,h6=>by omega
 | m + 1,m' + 1,k,xs,h1,h2,h3,h4,h5,h6=>by
  have hl:=C.hl
  have hlen:=a0e xs
  rw [T9.eq_2]
  rcases sgx C h2 44 [] with ⟨b,hb,e1,e2,e3,e4,e5⟩ | ⟨b,e1,e2,e3,e4,e5⟩
  ·rw [e1,e2]
   simp only [Option.bind_some,cond_true,a0Z.eq_2]
   rcases IH (k + 1) h1 hb with ⟨x,q,p1,p2,p3,p4,p5,p6⟩ | ⟨x,q,p1,p2,p3,p4⟩
   ·have a1:app 144 xs [x] = some (xs ++ [x]):=a1L (by omega) (by simp) (by omega)
    have hx:=x.a13
    simp only [p1,p2,a1,I5,Option.bind_some,Bool.not_true,cond_false]
    rcases b8V (k0:=k0) m m' q (xs ++ [x]) (by omega) p4 (by omega) (by omega) (by simp only [szs]; omega) (a5v h6 (a4x p6)) with ⟨q',ys,y1,y2,y3,y4,y5,y6⟩ | ⟨q',ys,y1,y2,y3,y4⟩
    ·exact .inl ⟨q',ys,y1,y2,by omega,y4,y5,y6⟩
    ·exact .inr ⟨q',ys,y1,y2,by omega,y4⟩
   ·simp only [p1,p2,O6,Option.bind_some,Bool.not_false,cond_true]
    exact .inr ⟨q,_,rfl,rfl,by omega,p4⟩
  ·rw [e1,e2]
   exact .inl ⟨k,xs,rfl,rfl,Nat.le_refl _,h2,h5,h6⟩
end
theorem b8U {N n n' k:Nat} (hN:20000 <= N) (ha:N + 1 <= n) (hb':N + 1 <= n') (hk:k <= l.length)
  (IH:∀ q n n',k < q -> q <= l.length -> N <= n -> N <= n' -> SimP l size q ((I7.fs n).J8 l q size) ((R5.fs n').a0m l size q (-1))) :
  SimP l size k ((I7.fs n).J8 l k size) ((R5.fs n').a0m l size k (-1)):=by
 have hl:=C.hl
 obtain ⟨n,rfl⟩:∃ q,n = q + 1:=⟨n - 1,by omega⟩
 obtain ⟨n',rfl⟩:∃ q,n' = q + 1:=⟨n' - 1,by omega⟩
 show SimP l size k (a0j n (I7.fs n) l k size) (a3K n' (R5.fs n') l size k (-1))
 unfold a0j a3K
 rw [b4X C.hl hk size 1 [95] (a19 _ _),b6A C]
 rcases nmx C hk with ⟨c,hc,e1,e2,e3⟩ | ⟨c,e1,e2,e3⟩
 ·simp (disch:=omega) only [c,e1,e2,e3,Bool.true_and,SSx C]
  cases eqS (O8 l k) [95]
  ·simp (disch:=omega) only [SSx C]
   exact .inl ⟨_,k + 1,rfl,rfl,by omega,hc,by simp only [szs]; omega,.bnd (C.pos k)⟩
  ·simp (disch:=omega) only [SSx C]
   exact .inl ⟨_,k + 1,rfl,rfl,by omega,hc,by simp only [szs]; omega,.wild (C.pos k)⟩
 simp (disch:=omega) only [c,e2,e3,Bool.false_and,SSx C]
 rcases inx C hk with ⟨c,hc,v,v0,e1,e2,e3,e4⟩ | ⟨c,e1,e2,e3⟩
 ·simp (disch:=omega) only [e1,e2,e3,e4,SSx C]
  exact .inl ⟨_,k + 1,rfl,rfl,by omega,hc,by simp only [szs]; omega,.pint (C.pos k)⟩
 simp (disch:=omega) only [e2,e3,SSx C]
 rcases sgx C hk 45 [] with ⟨b,hb,e1,e2,e3,e4,e5⟩ | ⟨b,e1,e2,e3,e4,e5⟩
 ·simp (disch:=omega) only [e1,e2,SSx C]
  rcases inx C hb with ⟨c,hc,v,v0,e1,e2,e3,e4⟩ | ⟨c,e1,e2,e3⟩
  ·simp (disch:=omega) only [e1,e2,e3,e4,SSx C]
   exact .inl ⟨_,k + 1 + 1,rfl,rfl,by omega,hc,by simp only [szs]; omega,.pint (C.pos k)⟩
  ·simp (disch:=omega) only [e1,e2,e3,num_nil,SSx C]
   exact .inr ⟨_,k + 1,rfl,rfl,by omega,hb⟩
 simp (disch:=omega) only [e1,e2,SSx C]
 rcases kdx C hk 4 with ⟨c,hc,t,t1,t2,t3,t4,e1,e2,e3,e4⟩ | ⟨c,e1,e2,e3,e4⟩
 ·simp (disch:=omega) only [e1,e3,e4,t2,SSx C]
  exact .inl ⟨_,k + 1,rfl,rfl,by omega,hc,by simp only [szs]; omega,.ptext (C.pos k)⟩
 simp (disch:=omega) only [e1,e3,SSx C]
 rcases kyx C hk 116 [114,117,101] with ⟨b,hb,e1,e2,e3,e4,e5⟩ | ⟨b,e1,e2,e3,e4,e5⟩
 ·simp (disch:=omega) only [e1,e2,SSx C]
  exact .inl ⟨_,k + 1,rfl,rfl,by omega,hb,by simp only [szs]; omega,.ptruth (.inr rfl) (C.pos k)⟩
 simp (disch:=omega) only [e1,e2,SSx C]
 rcases kyx C hk 102 [97,108,115,101] with ⟨b,hb,e1,e2,e3,e4,e5⟩ | ⟨b,e1,e2,e3,e4,e5⟩
 ·simp (disch:=omega) only [e1,e2,SSx C]
  exact .inl ⟨_,k + 1,rfl,rfl,by omega,hb,by simp only [szs]; omega,.ptruth (.inl rfl) (C.pos k)⟩
 simp (disch:=omega) only [e1,e2,SSx C]
 rcases sgx C hk 46 [] with ⟨b,hb,e1,e2,e3,e4,e5⟩ | ⟨b,e1,e2,e3,e4,e5⟩
 ·simp (disch:=omega) only [e2,e3,SSx C]
  rcases nmx C hb with ⟨c,hc,e1,e2,e3⟩ | ⟨c,e1,e2,e3⟩
  ·simp (disch:=omega) only [e1,e2,SSx C]
   rcases sgx C hc 40 [] with ⟨b,hb2,e1,e2,e3,e4,e5⟩ | ⟨b,e1,e2,e3,e4,e5⟩
   ·simp (disch:=omega) only [e1,e2,SSx C]
    obtain ⟨m',rfl⟩:∃ q,n' = q + 1:=⟨n' - 1,by omega⟩
    rw [a0Z.eq_2,cond_true]
    rcases IH (k + 1 + 1 + 1) n (m' + 1) (by omega) hb2 (by omega) (by omega) with ⟨x,q,p1,p2,p3,p4,p5,p6⟩ | ⟨x,q,p1,p2,p3,p4⟩
    ·rw [p1,p2,I5,Option.bind_some]
     simp only [app_0 144 x (by omega),Option.bind_some,Bool.not_true,cond_false]
     have hx:=x.a13
     rcases b8V C n (m' + 1) (fun q h1 h2=>IH q n (m' + 1) h1 h2 (by omega) (by omega)) (s:=O8 l (k + 1)) (a:=H6 l size k) (k0:=k + 1) n m' q [x] (by omega) p4 (by omega) (by omega) (by simp only [szs]; omega) (a4x p6) with ⟨q',ys,y1,y2,y3,y4,y5,y6⟩ | ⟨q',ys,y1,y2,y3,y4⟩
     ·rw [y1,y2,a1Q,Z9]
      rcases sgx C y4 41 [] with ⟨b,hb3,e1,e2,e3,e4,e5⟩ | ⟨b,e1,e2,e3,e4,e5⟩
      ·simp (disch:=omega) only [e2,e3,SSx C]
       exact .inl ⟨_,q' + 1,rfl,rfl,by omega,hb3,by simp only [szs]; omega,.pcase (C.pos k) y6⟩
      ·simp (disch:=omega) only [e2,e3,SSx C]
       exact .inr ⟨_,q',rfl,rfl,by omega,y4⟩
     ·rw [y1,y2,a4y,a0r,a0r]
      exact .inr ⟨_,q',rfl,rfl,by omega,y4⟩
    ·rw [p1,p2,O6,Option.bind_some]
     exact .inr ⟨_,q,rfl,rfl,by omega,p4⟩
   ·simp (disch:=omega) only [e1,e2,SSx C]
    exact .inl ⟨_,k + 1 + 1,rfl,rfl,by omega,hc,by simp only [szs]; omega,.pcase (C.pos k) all_nil⟩
  ·simp (disch:=omega) only [e1,e2,SSx C]
   exact .inr ⟨_,k + 1,rfl,rfl,by omega,hb⟩
 ·simp (disch:=omega) only [e2,e3,SSx C]
  exact .inr ⟨_,k,rfl,rfl,Nat.le_refl _,hk⟩
theorem c0W:∀ (R n n' k:Nat),20000 + R + 1 <= n -> 20000 + R + 1 <= n' -> k <= l.length -> l.length - k <= R -> SimP l size k ((I7.fs n).J8 l k size) ((R5.fs n').a0m l size k (-1))
 | 0,n,n',k,h1,h2,h3,h4=>b8U C (Nat.le_refl _) h1 h2 h3 fun q _ _ g1 g2=>by omega
 | R + 1,n,n',k,h1,h2,h3,h4=>b8U C (N:=20000 + R + 1) (by omega) h1 h2 h3 fun q m m' g1 g2 g3 g4=>c0W R m m' q g3 g4 g2 (by omega)
theorem pat_sim {n n' k:Nat} (hk:k <= l.length) (hn:24000 <= n) (hn':24000 <= n'):SimP l size k (J8 n l k size) (a0m n' l size k (-1)):=by
 have hl:=C.hl
 exact c0W C 3000 n n' k (by omega) (by omega) hk (by omega)
theorem base_sim {n n' k:Nat} (hk:k <= l.length) (hn:20000 <= n) (hn':20000 <= n') :
    (∃ (t:Typ) (q:Nat),(∀ b,P6 n b l k size = R8 (α:=Int × Typ) (K9 (n - 1) (A9.fs (n - 1)) b size l (n - 1) q t) fun (b2f,n550)=>some (.ok (n550,b2f))) /\ a1f n' l size k (-1) = some (t,true,(q:Int)) /\ k < q /\ q <= l.length /\ t.sz + k <= q) ∨
    (∃ (t:Typ) (q:Nat),(∀ b,P6 n b l k size = some (.pan (H6 l size q,(q:Int)))) /\ a1f n' l size k (-1) = some (t,false,(q:Int)) /\ k <= q /\ q <= l.length):=by
  have hl:=C.hl
  obtain ⟨a,rfl⟩:∃ q,n = q + 1:=⟨n - 1,by omega⟩
  obtain ⟨b',rfl⟩:∃ q,n' = q + 1:=⟨n' - 1,by omega⟩
  have hp:∀ bb,P6 (a + 1) bb l k size = Y0 a (A9.fs a) bb l k size:=fun _=>rfl
  have hr:a1f (b' + 1) l size k (-1) = a1E b' (F5.fs b') l size k (-1):=rfl
  simp only [hp,hr,Nat.add_sub_cancel]
  unfold Y0 a1E
  rcases cap C.hl hk size (-1) with ⟨c1,c2,c3,c4⟩ | ⟨c2,c3⟩
  · rw [c2,c3,c4]
    simp only [I5,Option.bind_some,Bool.not_true,cond_false]
    have kind_ok:∀ (args:List Typ) (q:Int),(Option.bind (α:=Int) (
  Option.bind (α:=Bool) (
  cond (eqB (List.length args:Int) 0) (
  some (eqS (O8 l k) [73,110,116])) (
  some false)) fun x559 =>
  cond x559 (
  some 1) (
  Option.bind (α:=Bool) (
  cond (eqB (List.length args:Int) 0) (
  some (eqS (O8 l k) [66,111,111,108])) (
  some false)) fun x560 =>
  cond x560 (
  some 2) (
  Option.bind (α:=Bool) (
  cond (eqB (List.length args:Int) 0) (
  some (eqS (O8 l k) [84,101,120,116])) (
  some false)) fun x561 =>
  cond x561 (
  some 3) (
  Option.bind (α:=Bool) (
  cond (eqB (List.length args:Int) 0) (
  some (eqS (O8 l k) [85,110,105,116])) (
  some false)) fun x562 =>
  cond x562 (
  some 4) (
  Option.bind (α:=Bool) (
  cond (eqB (List.length args:Int) 1) (
  some (eqS (O8 l k) [65,114,114,97,121])) (
  some false)) fun x563 =>
  cond x563 (
  some 5) (
  Option.bind (α:=Bool) (
  cond (eqB (List.length args:Int) 1) (
  some (eqS (O8 l k) [87,101,97,107])) (
  some false)) fun x564 =>
  cond x564 (
  some 11) (
  some 6))))))) fun b2p =>
  Option.bind (α:=Str) (
  cond (!eqB b2p 6) (
  some []) (
  some (O8 l k))) fun s566 =>
  some (((⟨b2p,s566,0,args⟩:Typ),true,q))) = some (a8M (O8 l k) args,true,q):=by
      intro args q
      unfold a8M kindOf
      cases eqB (List.length args:Int) 0 <;> cases eqB (List.length args:Int) 1 <;> cases eqS (O8 l k) [73,110,116] <;> cases eqS (O8 l k) [66,111,111,108] <;> cases eqS (O8 l k) [84,101,120,116] <;> cases eqS (O8 l k) [85,110,105,116] <;>
        cases eqS (O8 l k) [65,114,114,97,121] <;> cases eqS (O8 l k) [87,101,97,107] <;> simp [eqB]
    rcases sgx C c1 60 [] with ⟨b,hb,e1,e2,e3,e4,e5⟩ | ⟨b,e1,e2,e3,e4,e5⟩
    · rw [e1,e2]
      simp only [Option.bind_some,cond_true]
      obtain ⟨b',rfl⟩:∃ q,b' = q + 1:=⟨b' - 1,by omega⟩
      have hty:∀ q:Int,(F5.fs (b' + 1)).a1q l size q (-1) = a0P b' (F5.fs b') l size q (-1):=fun _=>rfl
      rw [hty]
      simp only [l5_eq]
      rcases b3k C.hl size (-1) (Φ:=A9.fs a) (Ψ:=F5.fs b') a b' (c:=k + 1) (fun q h1 h2=>b7Z C.hl size (-1) l.length a b' q (by omega) (by omega) h2 (by omega)) (k:=k + 1 + 1) (by omega) hb (by omega) (by omega) with
        ⟨t,k1,args,k2,y1,y2,y3,y4,y5,y6,y7⟩ | ⟨args,k2,y1,y2,y3,y4⟩ | ⟨t,k1,args,k2,y1,y2,y3,y4,y5,y6⟩
      · rw [y1,y4]
        simp only [I5,Option.bind_some]
        rw [y2]
        simp only [Option.bind_some]
        rw [y3]
        simp only [a1Q,Bool.not_true,cond_false]
        rcases sgx C y6 62 [] with ⟨b,hb2,e1,e2,e3,e4,e5⟩ | ⟨b,e1,e2,e3,e4,e5⟩
        · rw [e2,e3]
          simp only [I5,Z9,Option.bind_some,Bool.not_true,cond_false]
          rw [kind_ok]
          refine .inl ⟨a8M (O8 l k) args,k2 + 1,fun bb=>?_,rfl,by omega,hb2,by rw [Typ.a13]; simp only [a8M]; omega⟩
          rw [b5c,Option.bind_some]
        · rw [e2,e3]
          simp only [O6,a0r,Option.bind_some,Bool.not_false,cond_true]
          exact .inr ⟨_,k2,fun _=>rfl,rfl,by omega,y6⟩
      · rw [y1,y2]
        simp only [O6,a0r,Option.bind_some,Bool.not_false,cond_true]
        exact .inr ⟨_,k2,fun _=>rfl,rfl,by omega,y4⟩
      · rw [y1,y4]
        simp only [I5,Option.bind_some]
        rw [y2]
        simp only [Option.bind_some]
        rw [y3]
        simp only [a4y,a0r,Option.bind_some,Bool.not_false,cond_true]
        exact .inr ⟨_,k2,fun _=>rfl,rfl,by omega,y6⟩
    · rw [e1,e2]
      simp only [Z9,Option.bind_some,cond_false]
      rw [kind_ok]
      refine .inl ⟨a8M (O8 l k) [],k + 1,fun bb=>?_,rfl,by omega,c1,by rw [Typ.a13]; simp only [a8M,szT]; omega⟩
      rw [b5c,Option.bind_some]
  · rw [c2,c3]
    simp only [O6,Option.bind_some,Bool.not_false,cond_true]
    exact .inr ⟨_,k,fun _=>rfl,rfl,Nat.le_refl _,hk⟩
end
inductive b76:Nod -> Prop
 | leaf {x:Nod}:x.op ≠ 55 -> b76 x
 | step {x y:Nod}:x.l = [y] -> b76 y -> b76 x
theorem G.spine {m:Nat} {x:Nod} (h:G m x):m = 0 -> b76 x:=by
 induction h with
 | field _ _ ih=>exact fun _=>.step rfl (ih rfl)
 | un h _ _=>exact fun _=>.leaf (by rcases h with rfl | rfl <;> simp)
 | _=>first | exact fun h=>absurd h (by decide) | exact fun _=>.leaf (by simp)
theorem place_l1 (n n':Nat):∀ {x:Nod},b76 x -> ∀ m m',x.sz < m -> x.sz < m' -> ∃ y,a1A n m x = some y /\ a3v n' m' x = some y:=by
 intro x h
 induction h with
 | @leaf x h =>
  intro m m' h1 h2
  obtain ⟨m,rfl⟩:∃ q,m = q + 1:=⟨m - 1,by omega⟩
  obtain ⟨m',rfl⟩:∃ q,m' = q + 1:=⟨m' - 1,by omega⟩
  simp only [a1A,a3v,a7d h,cond_false,Option.bind_some]
  exact ⟨x,rfl,rfl⟩
 | @step x y hx hy ih =>
  intro m m' h1 h2
  obtain ⟨m,rfl⟩:∃ q,m = q + 1:=⟨m - 1,by omega⟩
  obtain ⟨m',rfl⟩:∃ q,m' = q + 1:=⟨m' - 1,by omega⟩
  have hz:=x.a13
  rw [hx] at hz
  simp only [a7B,a8h] at hz
  have h0:idx' x.l 0 = some y:=by rw [hx]; exact a2J (l:=[y]) (i:=0) (by simp)
  have h9:eqB (List.length x.l:Int) 1 = true:=by rw [hx]; exact a7e rfl
  cases ho:eqB x.op 55
  ·simp only [a1A,a3v,ho,cond_false,Option.bind_some]
   exact ⟨x,rfl,rfl⟩
  ·simp only [a1A,a3v,ho,cond_true,Option.bind_some,h0,h9]
   exact ih m m' (by omega) (by omega)
theorem c1B {x:Nod} (h:G 0 x) {n n':Nat} (hn:x.sz < n) (hn':x.sz < n'):∃ b,a5m n x = some b /\ b0H n' x = some b:=by
 obtain ⟨y,h1,h2⟩:=place_l1 n n' (h.spine rfl) n n' hn hn'
 unfold a5m b0H
 rw [h1,h2]
 exact ⟨_,rfl,rfl⟩
theorem b8s (n:Nat) (ops:List Str) (v:Str) (h2:ops.length <= 1000):∀ m i,i <= ops.length -> ops.length - i < m -> ∃ r,R8 (α:=Unit) (X6 n ops v m (i:Int)) (fun _=>some (-1)) = some r /\ leB 0 r = (ops.drop i).any (eqS v)
 | 0,i,h3,h4=>by omega
 | m + 1,i,h3,h4=>by
  simp only [X6]
  rcases Nat.lt_or_ge i ops.length with h | h
  ·rw [a4G (by omega),cond_true,a2J h,Option.bind_some,List.drop_eq_getElem_cons h,List.any_cons]
   cases hv:eqS v ops[i]
   ·rw [cond_false,a0d (by omega),Bool.false_or]
    exact b8s n ops v h2 m (i + 1) h (by omega)
   ·exact ⟨(i:Int),rfl,by rw [leB_t (by omega)]; rfl⟩
  ·rw [a4j (by omega),cond_false,List.drop_eq_nil_of_le h]
   exact ⟨-1,rfl,b8C (by decide)⟩
theorem b3u {n:Nat} (ops:List Str) (v:Str) (h2:ops.length <= 1000) (h:ops.length < n):R9 n ops v = some (ops.any (eqS v)):=by
 obtain ⟨r,h3,h4⟩:=b8s n ops v h2 n 0 (Nat.zero_le _) (by omega)
 unfold R9 a1K
 have h3:R8 (α:=Unit) (X6 n ops v n 0) (fun _=>some (-1)) = some r:=h3
 rw [h3,Option.bind_some,h4]; rfl
end Go.Proofs.YtlfomdllnidliaaGreatDoor
namespace Go.Proofs.YtlfomdllnidliaaGreatDoor
open Go Go.Vm
def a3l {α:Type} (l:List Tok) (size:Int) (k:Nat) (sz:α -> Nat) (Q:α -> Prop) (p:Option (Rs (α × Int) (o6 × Int))) (r:Option (α × Bool × Int × Int)):Prop :=
 (∃ (x:α) (q:Nat),p = some (.ok (x,(q:Int))) /\ r = some (x,true,(q:Int),-1) /\ k <= q /\ q <= l.length /\ sz x + 4 * k <= 4 * q /\ Q x) ∨
 (∃ (x:α) (q:Nat) (pl:Int) (f:o6),p = some (.pan (f,(q:Int))) /\ r = some (x,false,(q:Int),pl) /\ k <= q /\ q <= l.length /\ a4w l size q pl f)
def SimA (l:List Tok) (size:Int) (k:Nat) (m0:List Nod) (p:Option (Rs (List Nod × Int) (o6 × Int))) (r:Option (List Nod × Bool × Int × Int × List Nod)):Prop :=
 (∃ (ys:List Nod) (q:Nat),p = some (.ok (ys,(q:Int))) /\ r = some (m0 ++ ys,true,(q:Int),-1,m0 ++ ys) /\ k <= q /\ q <= l.length /\ szN ys + 4 * k + 8 <= 4 * q /\ ∀ x ∈ ys,G 6 x) ∨
 (∃ (x y:List Nod) (q:Nat) (pl:Int) (f:o6),p = some (.pan (f,(q:Int))) /\ r = some (x,false,(q:Int),pl,y) /\ k <= q /\ q <= l.length /\ a4w l size q pl f)
def LV:List J4:=[(⟨[[124,124]],false⟩:J4),(⟨[[38,38]],false⟩:J4),(⟨[[61,61],[33,61],[60],[60,61],[62],[62,61]],true⟩:J4),(⟨[[43],[45]],false⟩:J4),(⟨[[42],[47],[37]],false⟩:J4)]
def a8b:Nat -> List Str
 | 0=>[[124,124]]
 | 1=>[[38,38]]
 | 2=>[[61,61],[33,61],[60],[60,61],[62],[62,61]]
 | 3=>[[43],[45]]
 | _=>[[42],[47],[37]]
def lvAt (j:Nat):J4:=⟨a8b j,eqB (j:Int) 2⟩
def b75 (l:List Tok) (size:Int) (j k n n':Nat):Prop :=
 (∃ (u:Nod) (q0:Nat) (x:Nod) (q:Nat),(j5.fs n).I9 l k size = some (.ok (u,(q0:Int))) /\ (j5.fs n).O4 u (LV.drop j) l q0 size = some (.ok (x,(q:Int))) /\ (o5.fs n').O5 j l size k (-1) = some (x,true,(q:Int),-1) /\ k <= q /\ q <= l.length /\ x.sz + 4 * k <= 4 * q /\ G 0 x) ∨
 (∃ (x:Nod) (q:Nat) (pl:Int) (f:o6),(j5.fs n).I9 l k size = some (.pan (f,(q:Int))) /\ (o5.fs n').O5 j l size k (-1) = some (x,false,(q:Int),pl) /\ k <= q /\ q <= l.length /\ a4w l size q pl f) ∨
 (∃ (u:Nod) (q0:Nat) (x:Nod) (q:Nat) (pl:Int) (f:o6),(j5.fs n).I9 l k size = some (.ok (u,(q0:Int))) /\ (j5.fs n).O4 u (LV.drop j) l q0 size = some (.pan (f,(q:Int))) /\ (o5.fs n').O5 j l size k (-1) = some (x,false,(q:Int),pl) /\ k <= q /\ q <= l.length /\ a4w l size q pl f)
structure Hyp (l:List Tok) (size:Int) (c N:Nat):Prop where
 expr:∀ k n n',c <= k -> k <= l.length -> N <= n -> N <= n' -> a3l l size k Nod.sz (G 0) ((j5.fs n).A8 l k size) ((o5.fs n').M5 l size k (-1))
 unary:∀ k n n',c <= k -> k <= l.length -> N <= n -> N <= n' -> a3l l size k Nod.sz (G 0) ((j5.fs n).I9 l k size) ((o5.fs n').X5 l size k (-1))
 lev:∀ j k n n',j <= 5 -> c <= k -> k <= l.length -> N <= n -> N <= n' -> b75 l size j k n n'
 args:∀ m0 k n n',List.length m0 <= 3000 -> c <= k -> k <= l.length -> N <= n -> N <= n' -> SimA l size k m0 ((j5.fs n).K7 l k size) ((o5.fs n').Z5 m0 l size k (-1))
 stmts:∀ k n n',c <= k -> k <= l.length -> N <= n -> N <= n' -> a3l l size k (fun x=>szN x + 4) (fun x=>∀ y ∈ x,G 1 y) ((j5.fs n).N7 l k size) ((o5.fs n').a06 l size k (-1))
 stmt:∀ k n n',c <= k -> k <= l.length -> N <= n -> N <= n' -> a3l l size k Nod.sz (G 1) ((j5.fs n).O0 l k size) ((o5.fs n').a0n l size k (-1))
 block:∀ k n n',c <= k -> k <= l.length -> N <= n -> N <= n' -> a3l l size k Nod.sz (G 2) ((j5.fs n).F8 l k size) ((o5.fs n').X4 l size k (-1))
 iff:∀ k n n',isT l 9 [105,102] k = true -> c <= k -> k <= l.length -> N <= n -> N <= n' -> a3l l size k Nod.sz (fun x=>G 1 x /\ x.op = 24) ((j5.fs n).M7 l k size) ((o5.fs n').a0Y l size k (-1))
section
variable {l:List Tok} {size:Int} (C:Cx l size)
include C
theorem sgt {k:Nat} {a:UInt8} {r:Str} (h:isT l 8 (a :: r) k = true):k + 1 <= l.length /\ A7 (a :: r) l k size = some (true,((k + 1:Nat):Int)) /\ p8 (a :: r) l size k (-1) = some (true,((k + 1:Nat):Int)) /\ q9 (a :: r) l k size = some (.ok ((k + 1:Nat):Int)) /\ u7 0 8 (a :: r) l k size = some true /\ J5 8 (a :: r) l size k (-1) = some true:=by
 rcases sgx C (Nat.le_of_lt (a5Y h)) a r with ⟨_,h⟩ | ⟨h2,_⟩
 ·exact h
 ·rw [h] at h2; cases h2
theorem sgf {k:Nat} {a:UInt8} {r:Str} (hk:k <= l.length) (h:isT l 8 (a :: r) k = false):A7 (a :: r) l k size = some (false,(k:Int)) /\ p8 (a :: r) l size k (-1) = some (false,(k:Int)) /\ q9 (a :: r) l k size = some (.pan (H6 l size k,(k:Int))) /\ u7 0 8 (a :: r) l k size = some false /\ J5 8 (a :: r) l size k (-1) = some false:=by
 rcases sgx C hk a r with ⟨h2,_⟩ | ⟨_,h⟩
 ·rw [h] at h2; cases h2
 ·exact h
theorem nmt {k:Nat} (h:isK l 1 k = true):k + 1 <= l.length /\ K5 l k size = some (.ok (O8 l k)) /\ F4 1 l size k (-1) = some (O8 l k,true,((k + 1:Nat):Int)) /\ u7 0 1 [] l k size = some true:=by
 rcases nmx C (Nat.le_of_lt (b7w h)) with ⟨_,h⟩ | ⟨h2,_⟩
 ·exact h
 ·rw [h] at h2; cases h2
theorem nmf {k:Nat} (hk:k <= l.length) (h:isK l 1 k = false):K5 l k size = some (.pan (H6 l size k)) /\ F4 1 l size k (-1) = some ([],false,(k:Int)) /\ u7 0 1 [] l k size = some false:=by
 rcases nmx C hk with ⟨h2,_⟩ | ⟨_,h⟩
 ·rw [h] at h2; cases h2
 ·exact h
theorem kdt {k:Nat} {kind:Int} (h:isK l kind k = true):k + 1 <= l.length /\ ∃ t:Tok,idx' l (k:Int) = some t /\ t.text = O8 l k /\ t.at_ = H6 l size k /\ t.kind = kind /\ u7 0 kind [] l k size = some true /\ a0c kind l size k (-1) = some true /\ F4 kind l size k (-1) = some (O8 l k,true,((k + 1:Nat):Int)) /\ M0 kind l k size = some (.ok t):=by
 rcases kdx C (Nat.le_of_lt (b7w h)) kind with ⟨_,h⟩ | ⟨h2,_⟩
 ·exact h
 ·rw [h] at h2; cases h2
theorem b7x {kind:Int} {s u:Str} {k:Nat} (h:isT l kind s k = true) (hn:s ≠ u):isT l kind u k = false:=by
 rw [b6A C] at h ⊢
 simp only [Bool.and_eq_true] at h
 have:O8 l k = s:=by simpa [eqS] using h.2
 rw [this]
 simp [eqS,hn]
theorem b6T {Φ:A9} {Ψ:o5} (n n' k0:Nat) (a:Int):∀ (m m' k:Nat) (t:Typ),k <= l.length -> l.length - k < m -> l.length - k < m' -> t.sz + k0 <= k ->
  (∃ (t':Typ) (q:Nat),K9 n Φ true size l m k t = some (.brk ((q:Int),t')) /\ isT l 8 [40] q = true /\ a0O n' Ψ size l (-1) a true m' k t = ((Ψ.Z5 ([]:List Nod) l size q (-1)).bind fun (r10,r11,at12,a6N,a5X)=>some (.out (((⟨59,[],0,t',[],r10,a⟩:Nod),r11,at12,a6N)))) /\ k <= q /\ q <= l.length /\ t'.sz + k0 <= q) ∨
  (∃ (t':Typ) (q:Nat),K9 n Φ true size l m k t = some (.brk ((q:Int),t')) /\ isT l 8 [40] q = false /\ isT l 8 [46] q = true /\ isK l 1 (q + 1) = true /\ a0O n' Ψ size l (-1) a true m' k t = cond (isT l 8 [40] (q + 1 + 1)) ((Ψ.Z5 ([]:List Nod) l size ((q + 1 + 1:Nat):Int) (-1)).bind fun (r10,r11,at12,a6N,a5X)=>some (.out (((⟨58,O8 l (q + 1),1,t',[],r10,a⟩:Nod),r11,at12,a6N)))) (some (.out (((⟨58,O8 l (q + 1),0,t',[],[],a⟩:Nod),true,((q + 1 + 1:Nat):Int),-1)))) /\ k <= q /\ q + 2 <= l.length /\ t'.sz + k0 <= q) ∨
  (∃ (t':Typ) (q:Nat) (x:Nod),K9 n Φ true size l m k t = some (.brk ((q:Int),t')) /\ isT l 8 [40] q = false /\ isT l 8 [46] q = false /\ a0O n' Ψ size l (-1) a true m' k t = some (.out (x,false,(q:Int),-1)) /\ k <= q /\ q <= l.length) ∨
  (∃ (q:Nat) (x:Nod),K9 n Φ true size l m k t = some (.out (.pan (H6 l size q,(q:Int)))) /\ a0O n' Ψ size l (-1) a true m' k t = some (.out (x,false,(q:Int),-1)) /\ k <= q /\ q <= l.length)
 | 0,m',k,t,h1,h2,h3,h4=>by omega
 | m + 1,0,k,t,h1,h2,h3,h4=>by omega
 | m + 1,m' + 1,k,t,h1,h2,h3,h4=>by
  have hl:=C.hl
  rw [K9.eq_2,a0O.eq_2,cond_true]
  cases hd:isT l 8 [46] k
  ·obtain ⟨e1,e2,e3,e4,e5⟩:=sgf C h1 hd
   cases hp:isT l 8 [40] k
   ·obtain ⟨f1,f2,f3,f4,f5⟩:=sgf C h1 hp
    simp (disch:=omega) only [e4,e2,f5,SSx C]
    exact .inr (.inr (.inl ⟨t,k,_,rfl,hp,hd,rfl,Nat.le_refl _,h1⟩))
   ·obtain ⟨hb,f1,f2,f3,f4,f5⟩:=sgt C hp
    simp (disch:=omega) only [e4,f5,SSx C]
    exact .inl ⟨t,k,rfl,hp,rfl,Nat.le_refl _,h1,h4⟩
  ·obtain ⟨hb,e1,e2,e3,e4,e5⟩:=sgt C hd
   have hp:isT l 8 [40] k = false:=b7x C hd (by decide)
   obtain ⟨f1,f2,f3,f4,f5⟩:=sgf C h1 hp
   have i1:=is1_ok C hb 1
   cases hn:isK l 1 (k + 1)
   ·obtain ⟨g1,g2,g3⟩:=nmf C hb hn
    rw [hn] at i1
    rcases cap C.hl hb size (-1) with ⟨c1,c2,c3,c4⟩ | ⟨c2,c3⟩
    ·simp (disch:=omega) only [e4,e2,f5,i1,c2,c3,c4,SSx C]
     rcases b6T n n' k0 a m m' (k + 1 + 1) ⟨8,O8 l (k + 1),0,[t]⟩ c1 (by omega) (by omega) (by simp only [tsz,a9W]; omega) with ⟨t',q,y1,y2,y3,y4,y5,y6⟩ | ⟨t',q,y1,y2,y3,y4,y5,y6,y7,y8⟩ | ⟨t',q,x,y1,y2,y3,y4,y5,y6⟩ | ⟨q,x,y1,y2,y3,y4⟩
     ·exact .inl ⟨t',q,y1,y2,y3,by omega,y5,y6⟩
     ·exact .inr (.inl ⟨t',q,y1,y2,y3,y4,y5,by omega,y7,y8⟩)
     ·exact .inr (.inr (.inl ⟨t',q,x,y1,y2,y3,y4,by omega,y6⟩))
     ·exact .inr (.inr (.inr ⟨q,x,y1,y2,by omega,y4⟩))
    ·simp (disch:=omega) only [e4,e2,f5,i1,c2,c3,g2,SSx C]
     exact .inr (.inr (.inr ⟨k + 1,_,rfl,rfl,by omega,hb⟩))
   ·obtain ⟨hc,g1,g2,g3⟩:=nmt C hn
    rw [hn] at i1
    have w2:F4 2 l size ((k + 1:Nat):Int) (-1) = some ([],false,((k + 1:Nat):Int)):=by
     rcases kdx C hb 2 with ⟨c,_,t,t0,t1,t2,t3,_⟩ | ⟨c,_,_,e,_⟩
     ·rcases kdx C hb 1 with ⟨c',_,t',t0',t1',t2',t3',_⟩ | ⟨c',_⟩
      ·rw [t0] at t0'; cases t0'; rw [t3] at t3'; cases t3'
      ·rw [hn] at c'; cases c'
     ·exact e
    have nx:=a7X C.hl hc size (-1) 8 [40]
    simp (disch:=omega) only [e4,e2,f5,i1,w2,g2,nx,SSx C]
    exact .inr (.inl ⟨t,k,rfl,hp,hd,hn,rfl,Nat.le_refl _,hc,h4⟩)
omit C in
theorem five {j:Nat} (h:j < 5):j = 0 ∨ j = 1 ∨ j = 2 ∨ j = 3 ∨ j = 4:=by omega
omit C in
theorem lv_get:∀ {j:Nat},j < 5 -> LV[j]? = some (lvAt j):=by
 intro j h
 rcases five h with rfl | rfl | rfl | rfl | rfl <;> simp [LV,lvAt,a8b,eqB]
omit C in
theorem lk {i j:Nat} (hij:i <= j) (hj:j < 5):idx' (LV.drop i) ((j - i:Nat):Int) = some (lvAt j):=by
 have h:j - i < (LV.drop i).length:=by simp [LV]; omega
 rw [a2J h,List.getElem_drop]
 have:=lv_get hj
 rw [<- List.getElem?_eq_getElem,show i + (j - i) = j from by omega,this]
omit C in
theorem lsub {i j:Nat} (hij:i <= j) (hj:j < 5):subL (LV.drop i) (w64 (((j - i:Nat):Int) + 1)) ((LV.drop i).length:Int) = some (LV.drop (j + 1)):=by
 have h:(LV.drop i).length = 5 - i:=by simp [LV]
 rw [a0d (by omega)]
 have h2:inI ((j - i + 1:Nat):Int) ((LV.drop i).length:Int) (LV.drop i).length = true:=by rw [h]; simp [inI]; omega
 simp only [subL,h2,Int.toNat_natCast,List.take_length,List.drop_drop]
 rw [show i + (j - i + 1) = j + 1 from by omega]
omit C in
theorem rk {j:Nat} (hj:j < 5):idx' ([[[124,124]],[[38,38]],[[61,61],[33,61],[60],[60,61],[62],[62,61]],[[43],[45]],[[42],[47],[37]]]:List (List Str)) (j:Int) = some (a8b j):=by
 rw [a2J (by simpa using hj)]
 rcases five hj with rfl | rfl | rfl | rfl | rfl <;> rfl
omit C in
theorem b7H {j:Nat} (hj:j < 5):(a8b j).length <= 6:=by
 rcases five hj with rfl | rfl | rfl | rfl | rfl <;> simp [a8b]
omit C in
theorem ops_ne {j:Nat} (hj:j < 5) {s:Str} (h:(a8b j).any (eqS s) = true):eqS s [] = false:=by
 simp only [List.any_eq_true] at h
 obtain ⟨u,h1,h2⟩:=h
 have h2:s = u:=by simpa [eqS] using h2
 subst h2
 have h3:¬ s = []:=by
  intro h0
  subst h0
  rcases five hj with rfl | rfl | rfl | rfl | rfl <;> simp [a8b] at h1
 simp [eqS,h3]
theorem fold_eq (k:Nat):∀ (L:List Str) (o:Str),L.foldl (fun o s=>cond (isT l 8 s k) s o) o = cond (isK l 8 k && L.any (eqS (O8 l k))) (O8 l k) o
 | [],o=>by simp
 | s :: r,o=>by
  rw [List.foldl_cons,fold_eq k r,b6A C,List.any_cons]
  cases isK l 8 k
  ·rfl
  ·cases h:eqS (O8 l k) s
   ·simp
   ·have h:O8 l k = s:=by simpa [eqS] using h
    simp [h]
theorem find_ok {Ψ:o5} (n':Nat) {j k:Nat} (hj:j < 5) (hk:k <= l.length) (cnt:Int) (x:Nod):∀ (m i:Nat) (o:Str),i <= (a8b j).length -> (a8b j).length - i < m ->
  a1B n' Ψ size j l m cnt o i k (-1) x = some (cnt,((a8b j).drop i).foldl (fun o s=>cond (isT l 8 s k) s o) o,(k:Int),-1,x)
 | 0,i,o,h1,h2=>by omega
 | m + 1,i,o,h1,h2=>by
  have h6:=b7H hj
  simp only [a1B,rk hj,Option.bind_some]
  rcases Nat.lt_or_ge i (a8b j).length with h | h
  ·rw [a4G (by omega),cond_true,a2J h,Option.bind_some,a7X C.hl hk,Option.bind_some,List.drop_eq_getElem_cons h,List.foldl_cons,a0d (by omega)]
   cases hb:isT l 8 (a8b j)[i] k
   ·rw [cond_false,Option.bind_some,find_ok n' hj hk cnt x m (i + 1) o h (by omega)]; rfl
   ·simp only [cond_true,Option.bind_some]
    rw [find_ok n' hj hk cnt x m (i + 1) _ h (by omega)]
  ·rw [a4j (by omega),cond_false,List.drop_eq_nil_of_le h]; rfl
theorem hit_ok {n i j k:Nat} (hij:i <= j) (hj:j < 5) (hk:k <= l.length) (hn:10 <= n):(Option.bind (α:=Bool) (
      cond (ltB (k:Int) (List.length l:Int)) (
      (idx' l (k:Int)).bind fun x6 =>
      cond (eqB x6.kind 8) (
      (idx' (LV.drop i) ((j - i:Nat):Int)).bind fun x7 =>
      (idx' l (k:Int)).bind fun x8 =>
      (R9 n x7.ops x8.text).bind fun r9 =>
      some r9) (
      some false)) (
      some false)) fun x=>some x) = some (isK l 8 k && (a8b j).any (eqS (O8 l k))):=by
  have h6:=b7H hj
  rcases Nat.lt_or_ge k l.length with h | h
  · have hT:O8 l k = l[k].text:=by unfold O8; rw [List.getElem?_eq_getElem h]
    have hK:isK l 8 k = eqB l[k].kind 8:=by unfold isK; rw [List.getElem?_eq_getElem h]
    rw [a4G (by omega),cond_true,a2J h,Option.bind_some,hT,hK]
    cases eqB l[k].kind 8
    · rfl
    · rw [cond_true,lk hij hj,Option.bind_some,Option.bind_some]
      simp only [lvAt]
      rw [b3u _ _ (by omega) (by omega)]; rfl
  · have hK:isK l 8 k = false:=by unfold isK; rw [List.getElem?_eq_none h]
    rw [a4j (by omega),cond_false,hK]; rfl
theorem b6y {N n n' k0 i j:Nat} (hN:24000 <= N) (hn:N <= n) (hn':N <= n') (hij:i <= j) (hj:j < 5) (H:Hyp l size (k0 + 1) N) (z:Int):∀ (m m' k:Nat) (cnt:Int) (x:Nod),(j = 2 -> cnt = 0) -> k0 <= k -> k <= l.length -> l.length - k < m -> l.length - k + 1 < m' -> x.sz + 4 * k0 <= 4 * k -> G 0 x ->
  (∃ (y:Nod) (q:Nat),Q6 n (j5.fs n) size (LV.drop i) l m ((j - i:Nat):Int) z k x = some (.brk (z,(q:Int),y)) /\ R8 (α:=Bool × Int × Int × Nod) (U1 n' (o5.fs n') size j l m' true cnt k (-1) x) (fun (b5i,b4D,a7r,n650)=>some ((n650,b5i,b4D,a7r))) = some (y,true,(q:Int),-1) /\ k <= q /\ q <= l.length /\ y.sz + 4 * k0 <= 4 * q /\ G 0 y) ∨
  (∃ (y:Nod) (q:Nat) (pl:Int) (f:o6),Q6 n (j5.fs n) size (LV.drop i) l m ((j - i:Nat):Int) z k x = some (.out (.pan (f,(q:Int)))) /\ R8 (α:=Bool × Int × Int × Nod) (U1 n' (o5.fs n') size j l m' true cnt k (-1) x) (fun (b5i,b4D,a7r,n650)=>some ((n650,b5i,b4D,a7r))) = some (y,false,(q:Int),pl) /\ k <= q /\ q <= l.length /\ a4w l size q pl f)
 | 0,m',k,cnt,x,h1,h2,h3,h4,h5,h6,h7=>by omega
 | m + 1,0,k,cnt,x,h1,h2,h3,h4,h5,h6,h7=>by omega
 | m + 1,1,k,cnt,x,h1,h2,h3,h4,h5,h6,h7=>by omega
 | m + 1,m' + 2,k,cnt,x,h1,h2,h3,h4,h5,h6,h7=>by
  have hl:=C.hl
  have hol:=b7H hj
  have hit:=hit_ok C (n:=n) hij hj h3 (by omega)
  have hf:=find_ok C (Ψ:=o5.fs n') n' hj h3 cnt x n' 0 [] (Nat.zero_le _) (by omega)
  rw [List.drop_zero,fold_eq C] at hf
  have hmore:(Option.bind (α:=Bool) (cond true (cond (!eqB (j:Int) 2) (some true) (some (eqB cnt 0))) (some false)) fun x=>some x) = some true:=by
   by_cases h2:j = 2
   ·rw [h1 h2,a7e (show (j:Int) = 2 from by omega),a7e (show (0:Int) = 0 from rfl)]; rfl
   ·rw [a7d (show ¬ (j:Int) = 2 from by omega)]; rfl
  have oid:∀ {o:Option Bool} {b:Bool},(o.bind fun x=>some x) = some b -> o = some b:=fun {o b} h=>by cases o <;> exact h
  have hmore:=oid hmore
  have hit:=oid hit
  rw [Q6.eq_2,U1.eq_2,hmore,hit,Option.bind_some,Option.bind_some,cond_true]
  have hf:a1B n' (o5.fs n') size j l n' cnt [] 0 k (-1) x = _:=hf
  rw [hf,Option.bind_some]
  cases hh:(isK l 8 k && (a8b j).any (eqS (O8 l k)))
  ·simp only [cond_false,a2R,cond_true,a4y,a0r]
   exact .inl ⟨x,k,rfl,rfl,Nat.le_refl _,h3,h6,h7⟩
  ·simp only [Bool.and_eq_true] at hh
   have hs:=ops_ne hj hh.2
   obtain ⟨hb,t,t0,t1,t2,t3,_⟩:=kdt C hh.1
   have hT:isT l 8 (O8 l k) k = true:=by rw [b6A C,hh.1,a2R]; rfl
   have g3:p8 (O8 l k) l size k (-1) = some (true,((k + 1:Nat):Int)):=by
    rcases sg C.hl h3 size (-1) (O8 l k) hs with ⟨_,_,_,g3,_⟩ | ⟨g,_⟩
    ·exact g3
    ·rw [hT] at g; cases g
   simp only [cond_true,hs,cond_false,g3,Option.bind_some,t0,lsub hij hj,t1]
   rw [a0d (k:=k) (by omega),a0d (k:=j) (by omega)]
   rcases H.lev (j + 1) (k + 1) n n' (by omega) (by omega) hb hn hn' with ⟨u,q0,y,q,p1,p2,p3,p4,p5,p6,p7⟩ | ⟨y,q,pl,f,p1,p2,p3,p4,p5⟩ | ⟨u,q0,y,q,pl,f,p1,p2,p3,p4,p5,p6⟩
   ·simp only [p1,p2,p3,I5,Option.bind_some,a1Q,lk hij hj]
    have hz:(⟨64,O8 l k,0,zT,[],[x,y],x.at_⟩:Nod).sz + 4 * k0 <= 4 * q:=by simp only [szs]; omega
    have hG:G 0 ⟨64,O8 l k,0,zT,[],[x,y],x.at_⟩:=.bin h7.at h7 p7
    cases ho:(lvAt j).once
    ·have hj2:¬ j = 2:=fun h=>by subst h; simp [lvAt,eqB] at ho
     simp only [cond_false]
     rcases b6y hN hn hn' hij hj H z m (m' + 1) q (w64 (cnt + 1)) _ (fun h=>absurd h hj2) (by omega) p5 (by omega) (by omega) hz hG with ⟨y',q',y1,y2,y3,y4,y5,y6⟩ | ⟨y',q',pl,f,y1,y2,y3,y4,y5⟩
     ·exact .inl ⟨y',q',y1,y2,by omega,y4,y5,y6⟩
     ·exact .inr ⟨y',q',pl,f,y1,y2,by omega,y4,y5⟩
    ·have hj2:j = 2:=by
      rcases five hj with h | h | h | h | h <;> subst h <;> first | rfl | (simp [lvAt,eqB] at ho)
     have hc:=h1 hj2
     have e1:eqB (j:Int) 2 = true:=a7e (by omega)
     have e2:eqB (w64 (cnt + 1)) 0 = false:=by rw [hc,a3W (by omega) (by omega)]; exact a7d (by decide)
     simp only [cond_true,U1.eq_2,e1,e2,Bool.not_true,cond_false,Option.bind_some,Z9]
     exact .inl ⟨_,q,rfl,rfl,by omega,p5,hz,hG⟩
   ·simp only [p1,p2,O6,Option.bind_some,a1Q,U1.eq_2,cond_false,Z9]
    exact .inr ⟨_,q,pl,f,rfl,rfl,by omega,p4,p5⟩
   ·simp only [p1,p2,p3,I5,O6,Option.bind_some,a1Q,U1.eq_2,cond_false,Z9]
    exact .inr ⟨_,q,pl,f,rfl,rfl,by omega,p5,p6⟩
theorem chain {N n k i:Nat} (hN:24000 <= N) (hn:N <= n) (hk:k <= l.length) (H:Hyp l size (k + 1) N) (hi:i <= 5)
    (U:∀ n',N + 4 <= n' -> a3l l size k Nod.sz (G 0) ((j5.fs (n + 1)).I9 l k size) ((o5.fs n').X5 l size k (-1))) :
    ∀ (d j n':Nat),j + d = 5 -> i <= j -> N + 5 + d <= n' ->
    (∃ (u:Nod) (q0:Nat) (x:Nod) (q:Nat),(j5.fs (n + 1)).I9 l k size = some (.ok (u,(q0:Int))) /\ (∀ m,d < m -> L6 n (j5.fs n) (LV.drop i) size l m 0 q0 u = L6 n (j5.fs n) (LV.drop i) size l (m - d) d q x) /\ (o5.fs n').O5 j l size k (-1) = some (x,true,(q:Int),-1) /\ k <= q /\ q <= l.length /\ x.sz + 4 * k <= 4 * q /\ G 0 x) ∨
    (∃ (x:Nod) (q:Nat) (pl:Int) (f:o6),(j5.fs (n + 1)).I9 l k size = some (.pan (f,(q:Int))) /\ (o5.fs n').O5 j l size k (-1) = some (x,false,(q:Int),pl) /\ k <= q /\ q <= l.length /\ a4w l size q pl f) ∨
    (∃ (u:Nod) (q0:Nat) (x:Nod) (q:Nat) (pl:Int) (f:o6),(j5.fs (n + 1)).I9 l k size = some (.ok (u,(q0:Int))) /\ (∀ m,d < m -> L6 n (j5.fs n) (LV.drop i) size l m 0 q0 u = some (.out (.pan (f,(q:Int))))) /\ (o5.fs n').O5 j l size k (-1) = some (x,false,(q:Int),pl) /\ k <= q /\ q <= l.length /\ a4w l size q pl f)
  | 0,j,n',h1,h2,h3=>by
    obtain ⟨n',rfl⟩:∃ q,n' = q + 1:=⟨n' - 1,by omega⟩
    have hl5:(o5.fs (n' + 1)).O5 (j:Int) l size k (-1) = (o5.fs n').X5 l size k (-1):=by
      show a10 n' (o5.fs n') j l size k (-1) = _
      unfold a10 a9R
      rw [Option.bind_some,a7e (show (j:Int) = _ from by simp; omega),cond_true]
      cases (o5.fs n').X5 l size k (-1) <;> rfl
    rw [hl5]
    rcases U n' (by omega) with ⟨x,q,p1,p2,p3,p4,p5,p6⟩ | ⟨x,q,pl,f,p1,p2,p3,p4,p5⟩
    · exact .inl ⟨x,q,x,q,p1,fun m _=>rfl,p2,p3,p4,p5,p6⟩
    · exact .inr (.inl ⟨x,q,pl,f,p1,p2,p3,p4,p5⟩)
  | d + 1,j,n',h1,h2,h3=>by
    have hl:=C.hl
    have hj:j < 5:=by omega
    obtain ⟨n',rfl⟩:∃ q,n' = q + 1:=⟨n' - 1,by omega⟩
    have hlj:(o5.fs (n' + 1)).O5 (j:Int) l size k (-1) = ((o5.fs n').O5 ((j + 1:Nat):Int) l size k (-1)).bind fun (r10,r11,at12,a6N) =>
        R8 (α:=Bool × Int × Int × Nod) (U1 n' (o5.fs n') size j l n' r11 0 at12 a6N r10) fun (b5i,b4D,a7r,n650)=>some ((n650,b5i,b4D,a7r)):=by
      show a10 n' (o5.fs n') j l size k (-1) = _
      unfold a10 a9R
      rw [Option.bind_some,a7d (show ¬ (j:Int) = _ from by simp; omega),cond_false,a0d (by omega)]
    rw [hlj]
    rcases chain hN hn hk H hi U d (j + 1) n' (by omega) (by omega) (by omega) with ⟨u,q0,x,q,p1,p2,p3,p4,p5,p6,p7⟩ | ⟨x,q,pl,f,p1,p2,p3,p4,p5⟩ | ⟨u,q0,x,q,pl,f,p1,p2,p3,p4,p5,p6⟩
    · rw [p3,Option.bind_some]
      have hlen:(LV.drop i).length = 5 - i:=by simp [LV]
      have step:∀ m,0 < m -> L6 n (j5.fs n) (LV.drop i) size l m d q x = a3Y (α:=Int × Int × Nod) (Q6 n (j5.fs n) size (LV.drop i) l n ((j - i:Nat):Int) d q x) fun (x562,at563,n564)=>L6 n (j5.fs n) (LV.drop i) size l (m - 1) (w64 (x562 + 1)) at563 n564:=by
        intro m hm
        obtain ⟨m,rfl⟩:∃ q,m = q + 1:=⟨m - 1,by omega⟩
        rw [L6.eq_2,a4G (by rw [hlen]; omega),cond_true,Nat.add_sub_cancel]
        rw [show w64 (w64 (((LV.drop i).length:Int) - 1) - (d:Int)) = ((j - i:Nat):Int) from by
          rw [hlen,a3W (a:=((5 - i:Nat):Int) - 1) (by omega) (by omega),a3W (by omega) (by omega)]; omega]
      rcases b6y C hN (n':=n') hn (by omega) h2 hj H (d:Int) n n' q 0 x (fun _=>rfl) p4 p5 (by omega) (by omega) p6 p7 with ⟨y,q',y1,y2,y3,y4,y5,y6⟩ | ⟨y,q',pl,f,y1,y2,y3,y4,y5⟩
      · refine .inl ⟨u,q0,y,q',p1,fun m hm=>?_,y2,by omega,y4,y5,y6⟩
        rw [p2 m (by omega),step (m - d) (by omega),y1,a1Q]
        simp only
        rw [a0d (by omega),show m - d - 1 = m - (d + 1) from by omega]
      · refine .inr (.inr ⟨u,q0,y,q',pl,f,p1,fun m hm=>?_,y2,by omega,y4,y5⟩)
        rw [p2 m (by omega),step (m - d) (by omega),y1,a4y]
    · rw [p2,Option.bind_some]
      obtain ⟨n',rfl⟩:∃ q,n' = q + 1:=⟨n' - 1,by omega⟩
      simp only [U1.eq_2,cond_false,Option.bind_some,Z9]
      exact .inr (.inl ⟨x,q,pl,f,p1,rfl,p3,p4,p5⟩)
    · rw [p3,Option.bind_some]
      obtain ⟨n',rfl⟩:∃ q,n' = q + 1:=⟨n' - 1,by omega⟩
      simp only [U1.eq_2,cond_false,Option.bind_some,Z9]
      exact .inr (.inr ⟨u,q0,x,q,pl,f,p1,fun m hm=>p2 m (by omega),rfl,p4,p5,p6⟩)
theorem lev_at {N n n' k j:Nat} (hN:24000 <= N) (hn:N + 1 <= n) (hn':N + 10 <= n') (hk:k <= l.length) (H:Hyp l size (k + 1) N) (hj:j <= 5)
  (U:∀ n',N + 4 <= n' -> a3l l size k Nod.sz (G 0) ((j5.fs n).I9 l k size) ((o5.fs n').X5 l size k (-1))):b75 l size j k n n':=by
 obtain ⟨n,rfl⟩:∃ q,n = q + 1:=⟨n - 1,by omega⟩
 have hc:∀ (u:Nod) (q:Int),(j5.fs (n + 1)).O4 u (LV.drop j) l q size = R8 (α:=Int × Nod) (L6 n (j5.fs n) (LV.drop j) size l n 0 q u) fun (at568,n569)=>some (.ok (n569,at568)):=fun _ _=>rfl
 have hlen:(LV.drop j).length = 5 - j:=by simp [LV]
 unfold b75
 rcases chain C hN (by omega) hk H hj U (5 - j) j n' (by omega) (Nat.le_refl _) (by omega) with ⟨u,q0,x,q,p1,p2,p3,p4,p5,p6,p7⟩ | ⟨x,q,pl,f,p1,p2,p3,p4,p5⟩ | ⟨u,q0,x,q,pl,f,p1,p2,p3,p4,p5,p6⟩
 ·refine .inl ⟨u,q0,x,q,p1,?_,p3,p4,p5,p6,p7⟩
  rw [hc,p2 n (by omega)]
  obtain ⟨m,hm⟩:∃ m,n - (5 - j) = m + 1:=⟨n - (5 - j) - 1,by omega⟩
  rw [hm,L6.eq_2,a4j (by rw [hlen]; omega)]
  rfl
 ·exact .inr (.inl ⟨x,q,pl,f,p1,p2,p3,p4,p5⟩)
 ·refine .inr (.inr ⟨u,q0,x,q,pl,f,p1,?_,p3,p4,p5,p6⟩)
  rw [hc,p2 n (by omega)]
  rfl
theorem expr_at {N n n' k:Nat} (hn:N + 2 <= n) (hn':N + 11 <= n') (L:∀ n n',N + 1 <= n -> N + 10 <= n' -> b75 l size 0 k n n') :
  a3l l size k Nod.sz (G 0) ((j5.fs n).A8 l k size) ((o5.fs n').M5 l size k (-1)):=by
 obtain ⟨n,rfl⟩:∃ q,n = q + 1:=⟨n - 1,by omega⟩
 obtain ⟨n',rfl⟩:∃ q,n' = q + 1:=⟨n' - 1,by omega⟩
 show a3l l size k Nod.sz (G 0) (a01 n (j5.fs n) l k size) (a4J n' (o5.fs n') l size k (-1))
 unfold a01 a4J a5C
 have e0:∀ u (q:Int),(j5.fs n).O4 u ([(⟨[[124,124]],false⟩:J4),(⟨[[38,38]],false⟩:J4),(⟨[[61,61],[33,61],[60],[60,61],[62],[62,61]],true⟩:J4),(⟨[[43],[45]],false⟩:J4),(⟨[[42],[47],[37]],false⟩:J4)]:List J4) l q size = (j5.fs n).O4 u (LV.drop 0) l q size:=fun _ _=>rfl
 have e9:(o5.fs n').O5 0 l size k (-1) = (o5.fs n').O5 ((0:Nat):Int) l size k (-1):=rfl
 rw [e9]
 rcases L n n' (by omega) (by omega) with ⟨u,q0,x,q,p1,p2,p3,p4,p5,p6,p7⟩ | ⟨x,q,pl,f,p1,p2,p3,p4,p5⟩ | ⟨u,q0,x,q,pl,f,p1,p2,p3,p4,p5,p6⟩
 ·simp only [p1,p3,I5,Option.bind_some,e0,p2]
  exact .inl ⟨x,q,rfl,rfl,p4,p5,p6,p7⟩
 ·simp only [p1,p2,O6,Option.bind_some]
  exact .inr ⟨x,q,pl,f,rfl,rfl,p3,p4,p5⟩
 ·simp only [p1,p3,I5,O6,Option.bind_some,e0,p2]
  exact .inr ⟨x,q,pl,f,rfl,rfl,p4,p5,p6⟩
end
end Go.Proofs.YtlfomdllnidliaaGreatDoor
namespace Go.Proofs.YtlfomdllnidliaaGreatDoor
open Go Go.Vm
theorem ev_app {acc:List Nod} {t e:Nod} (he:acc.length % 2 = 0) (h:∀ i x,acc[2 * i]? = some x -> x.op = 52) (ht:t.op = 52):(∀ i x,(acc ++ [t])[2 * i]? = some x -> x.op = 52) /\ ∀ i x,(acc ++ [t] ++ [e])[2 * i]? = some x -> x.op = 52:=by
 have h1:∀ i x,(acc ++ [t])[2 * i]? = some x -> x.op = 52:=by
  intro i x hx
  rw [List.getElem?_append] at hx
  split at hx
  ·exact h i x hx
  ·rename_i h3
   rcases Nat.eq_or_lt_of_le (Nat.le_of_not_lt h3) with h4 | h4
   ·rw [<- h4,Nat.sub_self] at hx; cases hx; exact ht
   ·rw [List.getElem?_eq_none (by simp only [List.length_singleton]; omega)] at hx; cases hx
 refine ⟨h1,fun i x hx=>?_⟩
 rw [List.getElem?_append] at hx
 split at hx
 ·exact h1 i x hx
 ·rename_i h3
  rw [List.length_append,List.length_singleton] at h3 hx
  rw [List.getElem?_eq_none (by simp only [List.length_singleton]; omega)] at hx; cases hx
section
variable {l:List Tok} {size:Int} (C:Cx l size)
include C
theorem b4U {a b:Int} {k:Nat} (h:isK l a k = true) (hn:a ≠ b):isK l b k = false:=by
 unfold isK at h ⊢
 cases hk:l[k]? with
 | none=>rfl
 | some t =>
  rw [hk] at h
  have:t.kind = a:=by simpa [eqB] using h
  exact a7d (by rw [this]; exact hn)
theorem kdf {k:Nat} {kind:Int} (hk:k <= l.length) (h:isK l kind k = false):u7 0 kind [] l k size = some false /\ a0c kind l size k (-1) = some false /\ F4 kind l size k (-1) = some ([],false,(k:Int)) /\ M0 kind l k size = some (.pan (H6 l size k)):=by
 rcases kdx C hk kind with ⟨h2,_⟩ | ⟨_,h⟩
 ·rw [h] at h2; cases h2
 ·exact h
theorem kyf {k:Nat} (hk:k <= l.length) (h:isK l 9 k = false) (a:UInt8) (r:Str):F3 (a :: r) l k size = some (false,(k:Int)) /\ G9 (a :: r) l size k (-1) = some (false,(k:Int)):=by
 rcases kyx C hk a r with ⟨h2,_⟩ | ⟨_,h1,h2,_⟩
 ·rw [b6A C,h] at h2; cases h2
 ·exact ⟨h1,h2⟩
theorem b59 {N n n' k0:Nat} {m0:List Nod} (hN:24000 <= N) (hn:N <= n) (hn':N <= n') (H:Hyp l size (k0 + 1) N) (hm0:m0.length <= 3000):∀ (m m' k:Nat) (xs:List Nod),k0 + 1 <= k -> k <= l.length -> l.length - k < m -> l.length - k + 1 < m' -> szN xs + 4 * k0 + 4 <= 4 * k -> (∀ x ∈ xs,G 6 x) ->
  (∃ (q:Nat) (ys:List Nod),Y4 n (j5.fs n) size l m xs k = some (.brk (ys,(q:Int))) /\ a1v n' (o5.fs n') size l m' (m0 ++ xs) true k (-1) = some (.brk (m0 ++ ys,(q:Int),-1)) /\ k <= q /\ q <= l.length /\ szN ys + 4 * k0 + 4 <= 4 * q /\ ∀ x ∈ ys,G 6 x) ∨
  (∃ (q:Nat) (x y:List Nod) (pl:Int) (f:o6),Y4 n (j5.fs n) size l m xs k = some (.out (.pan (f,(q:Int)))) /\ a1v n' (o5.fs n') size l m' (m0 ++ xs) true k (-1) = some (.out (x,false,(q:Int),pl,y)) /\ k <= q /\ q <= l.length /\ a4w l size q pl f)
 | 0,m',k,xs,h0,h1,h2,h3,h4,h5=>by omega
 | m + 1,0,k,xs,h0,h1,h2,h3,h4,h5=>by omega
 | m + 1,1,k,xs,h0,h1,h2,h3,h4,h5=>by omega
 | m + 1,m' + 2,k,xs,h0,h1,h2,h3,h4,h5=>by
  have hl:=C.hl
  have hlen:=a0e xs
  have elem:(∃ (q:Nat) (y:Nod),((A7 [38] l k size).bind fun (r8,at9) =>
   cond r8 (
   C9 (a0q n l at9 size) (fun (r10,at11) =>
   (app 144 xs ([(⟨62,[],0,(⟨0,[],0,[]⟩:Typ),[],[r10],H6 l size k⟩:Nod)]:List Nod)).bind fun l12 =>
   some (.brk (l12,at11))) fun (at13,at14) =>
   some (.out (.pan ((⟨(⟨20,at13⟩:Flt)⟩:o6),at14)))) (
   C9 ((j5.fs n).A8 l at9 size) (fun (r15,at16) =>
   (app 144 xs ([r15]:List Nod)).bind fun l17 =>
   some (.brk (l17,at16))) fun (e18,at19) =>
   some (.out (.pan (e18,at19))))) = some (Lr.brk (α:=List Nod × Int) (ρ:=Rs (List Nod × Int) (o6 × Int)) (xs ++ [y],(q:Int))) /\ ((p8 [38] l size k (-1)).bind fun (r11,at12) =>
   cond r11 (
   (a2X n' l size at12 (-1)).bind fun (r13,r14,at15) =>
   some (r14,at15,-1,(⟨62,[],0,(⟨0,[],0,[]⟩:Typ),[],[r13],H6 l size k⟩:Nod))) (
   ((o5.fs n').M5 l size at12 (-1)).bind fun (r16,r17,at18,b2B) =>
   some (r17,at18,b2B,r16))) = some (true,(q:Int),-1,y) /\ k <= q /\ q <= l.length /\ y.sz + 4 * k <= 4 * q /\ G 6 y) ∨
   (∃ (q:Nat) (y:Nod) (pl:Int) (f:o6),((A7 [38] l k size).bind fun (r8,at9) =>
   cond r8 (
   C9 (a0q n l at9 size) (fun (r10,at11) =>
   (app 144 xs ([(⟨62,[],0,(⟨0,[],0,[]⟩:Typ),[],[r10],H6 l size k⟩:Nod)]:List Nod)).bind fun l12 =>
   some (.brk (l12,at11))) fun (at13,at14) =>
   some (.out (.pan ((⟨(⟨20,at13⟩:Flt)⟩:o6),at14)))) (
   C9 ((j5.fs n).A8 l at9 size) (fun (r15,at16) =>
   (app 144 xs ([r15]:List Nod)).bind fun l17 =>
   some (.brk (l17,at16))) fun (e18,at19) =>
   some (.out (.pan (e18,at19))))) = some (Lr.out (α:=List Nod × Int) (ρ:=Rs (List Nod × Int) (o6 × Int)) (.pan (f,(q:Int)))) /\ ((p8 [38] l size k (-1)).bind fun (r11,at12) =>
   cond r11 (
   (a2X n' l size at12 (-1)).bind fun (r13,r14,at15) =>
   some (r14,at15,-1,(⟨62,[],0,(⟨0,[],0,[]⟩:Typ),[],[r13],H6 l size k⟩:Nod))) (
   ((o5.fs n').M5 l size at12 (-1)).bind fun (r16,r17,at18,b2B) =>
   some (r17,at18,b2B,r16))) = some (false,(q:Int),pl,y) /\ k <= q /\ q <= l.length /\ a4w l size q pl f):=by
   rcases sgx C h1 38 [] with ⟨b,hb,e1,e2,e3,e4,e5⟩ | ⟨b,e1,e2,e3,e4,e5⟩
   ·rw [e1,e2]
    simp only [Option.bind_some,cond_true]
    rcases c1A C (n:=n) (n':=n') hb (by omega) (by omega) with ⟨x,q,p1,p2,p3,p4,p5,p6,p7⟩ | ⟨x,q,p1,p2,p3,p4⟩
    ·simp only [p1,p2,I5,Option.bind_some]
     rw [a1L (by omega) (by simp) (by omega)]
     exact .inl ⟨q,_,rfl,rfl,by omega,p4,by simp only [szs]; omega,.lend (C.pos k) p6⟩
    ·simp only [p1,p2,O6,Option.bind_some]
     exact .inr ⟨q,_,-1,_,rfl,rfl,by omega,p4,a03 l size q⟩
   ·rw [e1,e2]
    simp only [Option.bind_some,cond_false]
    rcases H.expr k n n' h0 h1 hn hn' with ⟨x,q,p1,p2,p3,p4,p5,p6⟩ | ⟨x,q,pl,f,p1,p2,p3,p4,p5⟩
    ·simp only [p1,p2,I5,Option.bind_some]
     rw [a1L (by omega) (by simp) (by omega)]
     exact .inl ⟨q,x,rfl,rfl,p3,p4,p5,.arg p6⟩
    ·simp only [p1,p2,O6,Option.bind_some]
     exact .inr ⟨q,_,pl,f,rfl,rfl,p3,p4,p5⟩
  rw [Y4.eq_2,a1v.eq_2,a4a C h1,a6V C.hl h1,cond_true,Option.bind_some,Option.bind_some]
  rcases elem with ⟨q,y,g1,g2,g3,g4,g5,g6⟩ | ⟨q,y,pl,f,g1,g2,g3,g4,g5⟩
  ·rw [g1,g2]
   have hy:=y.a13
   have a2:app 144 (m0 ++ xs) [y] = some (m0 ++ (xs ++ [y])):=by
    rw [<- List.append_assoc]; exact a1L (by simp only [List.length_append]; omega) (by simp) (by omega)
   simp only [a1Q,Option.bind_some,Bool.not_true,cond_false,a2]
   rcases sgx C g4 44 [] with ⟨b,hb,e1,e2,e3,e4,e5⟩ | ⟨b,e1,e2,e3,e4,e5⟩
   ·simp only [e1,e2,Option.bind_some,Bool.not_true,cond_false]
    rcases b59 hN hn hn' H hm0 m (m' + 1) (q + 1) (xs ++ [y]) (by omega) hb (by omega) (by omega) (by simp only [szs]; omega) (a5v h5 (a4x g6)) with ⟨q',ys,y1,y2,y3,y4,y5,y6⟩ | ⟨q',x',y',pl,f,y1,y2,y3,y4,y5⟩
    ·exact .inl ⟨q',ys,y1,y2,by omega,y4,y5,y6⟩
    ·exact .inr ⟨q',x',y',pl,f,y1,y2,by omega,y4,y5⟩
   ·simp only [e1,e2,Option.bind_some,Bool.not_false,cond_true,a1v.eq_2,cond_false]
    exact .inl ⟨q,_,rfl,rfl,by omega,g4,by simp only [szs]; omega,a5v h5 (a4x g6)⟩
  ·rw [g1,g2]
   simp only [a4y,Option.bind_some,Bool.not_false,cond_true]
   exact .inr ⟨q,_,_,pl,f,rfl,rfl,by omega,g4,g5⟩
theorem args_at {N n n' k:Nat} {m0:List Nod} (hN:24000 <= N) (hn:N + 1 <= n) (hn':N + 1 <= n') (hk:k <= l.length) (H:Hyp l size (k + 1) N) (hm0:m0.length <= 3000) :
  SimA l size k m0 ((j5.fs n).K7 l k size) ((o5.fs n').Z5 m0 l size k (-1)):=by
 have hl:=C.hl
 obtain ⟨n,rfl⟩:∃ q,n = q + 1:=⟨n - 1,by omega⟩
 obtain ⟨n',rfl⟩:∃ q,n' = q + 1:=⟨n' - 1,by omega⟩
 show SimA l size k m0 (a00 n (j5.fs n) l k size) (a4I n' (o5.fs n') m0 l size k (-1))
 unfold a00 a4I
 rcases sgx C hk 40 [] with ⟨b,hb,e1,e2,e3,e4,e5⟩ | ⟨b,e1,e2,e3,e4,e5⟩
 ·simp (disch:=omega) only [e2,e3,SSx C]
  rcases sgx C hb 41 [] with ⟨b,hb2,e1,e2,e3,e4,e5⟩ | ⟨b,e1,e2,e3,e4,e5⟩
  ·simp (disch:=omega) only [e1,e2,SSx C]
   exact .inl ⟨[],k + 1 + 1,rfl,by rw [List.append_nil],by omega,hb2,by simp only [szs]; omega,all_nil⟩
  ·simp (disch:=omega) only [e1,e2,SSx C]
   have h:=b59 C (n:=n) (n':=n') hN (by omega) (by omega) H hm0 n n' (k + 1) [] (by omega) hb (by omega) (by omega) (by simp only [szs]; omega) all_nil
   rw [List.append_nil] at h
   rcases h with ⟨q',ys,y1,y2,y3,y4,y5,y6⟩ | ⟨q',x',y',pl,f,y1,y2,y3,y4,y5⟩
   ·simp only [y1,y2,Z9]
    rcases sgx C y4 41 [] with ⟨b,hb2,e1,e2,e3,e4,e5⟩ | ⟨b,e1,e2,e3,e4,e5⟩
    ·simp (disch:=omega) only [e2,e3,SSx C]
     exact .inl ⟨ys,q' + 1,rfl,rfl,by omega,hb2,by omega,y6⟩
    ·simp (disch:=omega) only [e2,e3,SSx C]
     exact .inr ⟨_,_,q',-1,_,rfl,rfl,by omega,y4,a03 l size q'⟩
   ·simp only [y1,y2,a0r]
    exact .inr ⟨_,_,q',pl,f,rfl,rfl,by omega,y4,y5⟩
 ·simp (disch:=omega) only [e2,e3,SSx C]
  exact .inr ⟨_,_,k,-1,_,rfl,rfl,Nat.le_refl _,hk,a03 l size k⟩
theorem b3x {N n n' k0:Nat} {a:Int} (ha:0 <= a) (hN:24000 <= N) (hn:N <= n) (hn':N <= n') (H:Hyp l size (k0 + 1) N):∀ (m m' k:Nat) (xs:List Nod) (s:Str) (z:Int),k0 <= k -> k <= l.length -> l.length - k < m -> l.length - k + 1 < m' -> szN xs + 4 * k0 <= 4 * k -> (∀ x ∈ xs,G 0 x) -> xs.length % 2 = 0 -> (∀ i x,xs[2 * i]? = some x -> x.op = 52) -> (isK l 5 k = true ∨ isK l 6 k = true) ->
  a3l l size k0 Nod.sz (G 0) (Y3 n (j5.fs n) a size l m ((k + 1:Nat):Int) (xs ++ [(⟨52,O8 l k,0,zT,[],[],H6 l size k⟩:Nod)]) s z) (a0V n' (o5.fs n') size l a m' k (-1) xs)
 | 0,m',k,xs,s,z,h1,h2,h3,h4,h5,h6,h7,h8,h9=>by omega
 | m + 1,0,k,xs,s,z,h1,h2,h3,h4,h5,h6,h7,h8,h9=>by omega
 | m + 1,1,k,xs,s,z,h1,h2,h3,h4,h5,h6,h7,h8,h9=>by omega
 | m + 1,m' + 2,k,xs,s,z,h1,h2,h3,h4,h5,h6,h7,h8,h9=>by
  have hl:=C.hl
  have hlen:=a0e xs
  obtain ⟨kd,hkd,hK⟩:∃ kd,¬ kd = 7 /\ isK l kd k = true:=by
   rcases h9 with h | h
   ·exact ⟨5,by decide,h⟩
   ·exact ⟨6,by decide,h⟩
  obtain ⟨hb,t,t0,t1,t2,t3,_⟩:=kdt C hK
  rw [Y3.eq_2,a0V.eq_2,t0,Option.bind_some,t1,t2,t3,a7d hkd]
  have a1:app 144 xs [(⟨52,O8 l k,0,zT,[],[],H6 l size k⟩:Nod)] = some (xs ++ [(⟨52,O8 l k,0,zT,[],[],H6 l size k⟩:Nod)]):=a1L (by omega) (by simp) (by omega)
  rw [a1,Option.bind_some,cond_false,a0d (by omega)]
  rcases H.expr (k + 1) n n' (by omega) hb hn hn' with ⟨x,q,p1,p2,p3,p4,p5,p6⟩ | ⟨x,q,pl,f,p1,p2,p3,p4,p5⟩
  ·have hx:=x.a13
   have ev:=ev_app (t:=(⟨52,O8 l k,0,zT,[],[],H6 l size k⟩:Nod)) (e:=x) h7 h8 rfl
   have gt:G 0 (⟨52,O8 l k,0,zT,[],[],H6 l size k⟩:Nod):=.text (C.pos k)
   have a2:app 144 (xs ++ [(⟨52,O8 l k,0,zT,[],[],H6 l size k⟩:Nod)]) [x] = some (xs ++ [(⟨52,O8 l k,0,zT,[],[],H6 l size k⟩:Nod)] ++ [x]):=a1L (by simp only [List.length_append,List.length_singleton]; omega) (by simp) (by omega)
   simp (disch:=omega) only [p1,p2,a2,SSx C]
   generalize hys:xs ++ [(⟨52,O8 l k,0,zT,[],[],H6 l size k⟩:Nod)] ++ [x] = ys at *
   have hyl:ys.length = xs.length + 2:=by rw [<- hys]; simp
   have hyz:szN ys + 4 * k0 <= 4 * q:=by rw [<- hys]; simp only [szs]; omega
   have hyg:∀ x ∈ ys,G 0 x:=by rw [<- hys]; exact a5v (a5v h6 (a4x gt)) (a4x p6)
   have a3:app 144 ys [(⟨52,O8 l q,0,zT,[],[],H6 l size q⟩:Nod)] = some (ys ++ [(⟨52,O8 l q,0,zT,[],[],H6 l size q⟩:Nod)]):=a1L (by omega) (by simp) (by omega)
   rcases kdx C p4 6 with ⟨c,hc,u,u0,u1,u2,u3,e1,e2,e3,e4⟩ | ⟨c,e1,e2,e3,e4⟩
   ·simp (disch:=omega) only [e1,e2,e4,u1,a3,SSx C]
    have h:=b3x ha hN hn hn' H m (m' + 1) q ys (O8 l q) (H6 l size q) (by omega) p4 (by omega) (by omega) hyz hyg (by omega) ev.2 (.inr c)
    exact h
   ·simp (disch:=omega) only [e1,e2,SSx C]
    rcases kdx C p4 7 with ⟨c,hc,u,u0,u1,u2,u3,e1,e2,e3,e4⟩ | ⟨c,e1,e2,e3,e4⟩
    ·simp (disch:=omega) only [e2,e4,u1,a3,a0V.eq_2,u0,u2,u3,a7e (show (7:Int) = 7 from rfl),SSx C]
     refine .inl ⟨_,q + 1,rfl,rfl,by omega,hc,by simp only [szs]; omega,.interp ha (a5v hyg (a4x (.text (C.pos q)))) ?_ (by rw [List.length_append,List.length_singleton]; omega) (by rw [List.length_append,List.length_singleton]; omega)⟩
     exact (ev_app (t:=(⟨52,O8 l q,0,zT,[],[],H6 l size q⟩:Nod)) (e:=x) (by omega) ev.2 rfl).1
    ·simp (disch:=omega) only [e2,e4,SSx C]
     exact .inr ⟨_,q,-1,_,rfl,rfl,by omega,p4,a03 l size q⟩
  ·simp (disch:=omega) only [p1,p2,SSx C]
   exact .inr ⟨_,q,pl,f,rfl,rfl,by omega,p4,p5⟩
theorem c1q {N n n' k:Nat} (hN:24000 <= N) (hn:N + 1 <= n) (hn':N + 1 <= n') (hK:isK l 5 k = true) (H:Hyp l size (k + 1) N) :
  a3l l size k Nod.sz (G 0) ((j5.fs n).a0z l k size) ((o5.fs n').a1J l size k (-1)):=by
 have hl:=C.hl
 obtain ⟨n,rfl⟩:∃ q,n = q + 1:=⟨n - 1,by omega⟩
 obtain ⟨n',rfl⟩:∃ q,n' = q + 1:=⟨n' - 1,by omega⟩
 show a3l l size k Nod.sz (G 0) (a0v n (j5.fs n) l k size) (a2o n' (o5.fs n') l size k (-1))
 unfold a0v a2o
 obtain ⟨hb,t,t0,t1,t2,t3,e1,e2,e3,e4⟩:=kdt C hK
 have hk:k <= l.length:=by omega
 simp (disch:=omega) only [e4,t1,SSx C]
 exact b3x C (C.pos k) (n:=n) (n':=n') hN (by omega) (by omega) H n n' k [] _ _ (Nat.le_refl _) hk (by omega) (by omega) (by simp only [szs]; omega) all_nil rfl (fun i x h=>by cases h) (.inl hK)
theorem clos_at {N n n' k:Nat} (hN:24000 <= N) (hn:N + 1 <= n) (hn':N + 1 <= n') (hT:isT l 8 [123] k = true) (H:Hyp l size (k + 1) N) :
  a3l l size k Nod.sz (G 0) ((j5.fs n).a0g l k size) ((o5.fs n').a2W l size k (-1)):=by
 have hl:=C.hl
 obtain ⟨n,rfl⟩:∃ q,n = q + 1:=⟨n - 1,by omega⟩
 obtain ⟨n',rfl⟩:∃ q,n' = q + 1:=⟨n' - 1,by omega⟩
 show a3l l size k Nod.sz (G 0) (a0h n (j5.fs n) l k size) (a3H n' (o5.fs n') l size k (-1))
 unfold a0h a3H
 obtain ⟨hb,e1,e2,e3,e4,e5⟩:=sgt C hT
 have hk:k <= l.length:=by omega
 rw [a4a C hk,a4a C hk,a6V C.hl hk,e2,e3]
 simp only [Option.bind_some,I5]
 rcases b5m C (m0:=[]) (n:=n) (n':=n') hb (by omega) (by omega) (by simp) with ⟨q,ys,p1,p2,p3,p4,p5,p6,p7⟩ | ⟨q,ys,p1,p2,p3,p4,p5⟩ | ⟨p1,p2⟩
 ·rw [List.nil_append] at p3
  have hlen:=a0e ys
  simp only [p1,p2,p3,I5,Option.bind_some,Bool.not_true,cond_false]
  have res:(∃ (t:Typ) (q':Nat),R7 n l q size = some (.ok (t,(q':Int))) /\ ((p8 [45,62] l size q (-1)).bind fun (r13,at14) =>
   cond r13 (
   (P9 n' l size at14 (-1)).bind fun (r15,r16,at17) =>
   cond (!r16) (
   some (.out (((⟨63,[],0,(⟨4,[],0,[]⟩:Typ),[],[],H6 l size k⟩:Nod),false,at17,(-1:Int))))) (
   some (.brk (at17,r15.kind,r15.name,r15.n,r15.args)))) (
   some (.brk (at14,4,[],0,([]:List Typ))))) = some (Lr.brk (ρ:=Nod × Bool × Int × Int) ((q':Int),t.kind,t.name,t.n,t.args)) /\ q <= q' /\ q' <= l.length /\ t.sz + q <= q' + 1) ∨
   (∃ (x:Nod) (q':Nat),R7 n l q size = some (.pan (H6 l size q',(q':Int))) /\ ((p8 [45,62] l size q (-1)).bind fun (r13,at14) =>
   cond r13 (
   (P9 n' l size at14 (-1)).bind fun (r15,r16,at17) =>
   cond (!r16) (
   some (.out (((⟨63,[],0,(⟨4,[],0,[]⟩:Typ),[],[],H6 l size k⟩:Nod),false,at17,(-1:Int))))) (
   some (.brk (at17,r15.kind,r15.name,r15.n,r15.args)))) (
   some (.brk (at14,4,[],0,([]:List Typ))))) = some (Lr.out (α:=Int × Int × Str × Int × List Typ) (x,false,(q':Int),-1)) /\ q <= q' /\ q' <= l.length):=by
   unfold R7
   rcases sgx C p5 45 [62] with ⟨b,hb,e1,e2,e3,e4,e5⟩ | ⟨b,e1,e2,e3,e4,e5⟩
   ·rw [e1,e2]
    simp only [Option.bind_some,cond_true]
    rcases typ4 C (n:=n) (n':=n') hb (by omega) (by omega) with ⟨t,r,g1,g2,g3,g4,g5⟩ | ⟨t,r,g1,g2,g3,g4⟩
    ·simp only [g1,g2,Option.bind_some,I5,Bool.not_true,cond_false]
     exact .inl ⟨t,r,rfl,rfl,by omega,g4,by omega⟩
    ·simp only [g1,g2,Option.bind_some,O6,Bool.not_false,cond_true]
     exact .inr ⟨_,r,rfl,rfl,by omega,g4⟩
   ·rw [e1,e2]
    simp only [Option.bind_some,cond_false]
    exact .inl ⟨⟨4,[],0,[]⟩,q,rfl,rfl,Nat.le_refl _,p5,by simp only [tsz,a8i]; omega⟩
  rcases res with ⟨t,q',g1,g2,g3,g4,g5⟩ | ⟨x,q',g1,g2,g3,g4⟩
  ·simp only at g2
   simp only [g1,g2,I5,Z9]
   rcases kyx C g4 105 [110] with ⟨b,hb2,e1,e2,e3,e4,e5⟩ | ⟨b,e1,e2,e3,e4,e5⟩
   ·simp (disch:=omega) only [e2,e3,SSx C]
    rcases H.stmts (q' + 1) n n' (by omega) hb2 (by omega) (by omega) with ⟨x,q2,s1,s2,s3,s4,s5,s6⟩ | ⟨x,q2,pl,f,s1,s2,s3,s4,s5⟩
    ·have a1:app 144 ys [(⟨20,[],0,zT,[],x,H6 l size k⟩:Nod)] = some (ys ++ [(⟨20,[],0,zT,[],x,H6 l size k⟩:Nod)]):=a1L (by omega) (by simp) (by omega)
     simp (disch:=omega) only [s1,s2,a1,SSx C]
     have s5:szN x + 4 + 4 * (q' + 1) <= 4 * q2:=s5
     exact .inl ⟨⟨63,[],0,t,[],ys ++ [⟨20,[],0,zT,[],x,H6 l size k⟩],H6 l size k⟩,q2,rfl,by rw [a7N],by omega,s4,by simp only [szs]; omega,.clos (C.pos k) p7 s6⟩
    ·simp (disch:=omega) only [s1,s2,SSx C]
     have hx:x.length <= x.length:=Nat.le_refl _
     rcases hap:app 144 ys [(⟨20,[],0,zT,[],x,H6 l size k⟩:Nod)] with _ | L
     ·rw [a1L (by omega) (by simp) (by omega)] at hap; cases hap
     ·exact .inr ⟨_,q2,pl,f,rfl,rfl,by omega,s4,s5⟩
   ·simp (disch:=omega) only [e2,e3,SSx C]
    exact .inr ⟨_,q',-1,_,rfl,rfl,by omega,g4,a03 l size q'⟩
  ·simp only at g2
   simp only [g1,g2,O6,a0r]
   exact .inr ⟨_,q',-1,_,rfl,rfl,by omega,g4,a03 l size q'⟩
 ·simp only [p1,p2,p3,O6,Option.bind_some,Bool.not_true,Bool.not_false,cond_true,cond_false]
  exact .inr ⟨_,q,-1,_,rfl,rfl,by omega,p5,a03 l size q⟩
 ·simp only [p1,p2,O6,Option.bind_some,Bool.not_true,Bool.not_false,cond_true,cond_false]
  exact .inr ⟨_,k + 1,-1,_,rfl,rfl,by omega,hb,a03 l size (k + 1)⟩
end
end Go.Proofs.YtlfomdllnidliaaGreatDoor
