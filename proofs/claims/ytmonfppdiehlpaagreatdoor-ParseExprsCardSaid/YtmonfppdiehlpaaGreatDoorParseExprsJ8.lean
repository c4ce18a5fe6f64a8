/- What the functions under ParseExprs compute, step by step, as functions in Lean: texts that were built one by one, joined. -/
import Derived.Test.YtmonfppdiehlpaaGreatDoorParseExprsJ7
import Derived.Shelf.LaysC
import Derived.Shelf.Strconv.AtoiAll
import Derived.Test.YtmonfppdiehlpaaGreatDoorProg
import Derived.Shelf.Strings.Builder1
import Derived.Shelf.Strings.OnBuilder
import Derived.KernelRfl
set_option maxRecDepth 100000
set_option maxHeartbeats 20000000
set_option linter.unusedSimpArgs false
set_option linter.unusedVariables false
set_option linter.unusedSectionVars false
namespace Go.Proofs.YtmonfppdiehlpaaGreatDoor.Sc
open Go Go.Vm
def Lay (s:List UInt8):Nat -> List Tok -> Nat -> Prop
 | k,[],e=>k = e
 | k,t :: r,e=>t.a = a0f s k /\ t.a < s.length /\ 0 < t.l /\ t.a + t.l <= s.length /\ Lay s (t.a + t.l) r e
theorem Lay.add {s:List UInt8} {t:Tok}:∀ {l:List Tok} {k e:Nat},Lay s k l e -> t.a = a0f s e -> t.a < s.length -> 0 < t.l -> t.a + t.l <= s.length -> Lay s k (l ++ [t]) (t.a + t.l)
 | [],k,e,h,h1,h2,h3,h4=>by
  simp only [Lay] at h; subst h
  exact ⟨h1,h2,h3,h4,rfl⟩
 | u :: l,k,e,h,h1,h2,h3,h4=>⟨h.1,h.2.1,h.2.2.1,h.2.2.2.1,Lay.add h.2.2.2.2 h1 h2 h3 h4⟩
theorem a4I {toks:List Tok} {j:Nat} {r:MR} {y:MS} (h:roomy toks j r = .go y):toks.length < 3000 /\ r = .go y:=by
 unfold roomy at h
 split at h
 ·cases h
 ·rename_i h1
  simp only [decide_eq_false_iff_not] at h1
  exact ⟨by omega,h⟩
theorem lit_go {s:List UInt8} {toks:List Tok} {st:List (Nat × Int)} {q j ins:Nat} {a b:Int} {y:MS} (h:a3k toks st q j a b (part s q ins (j + 1) []) = .go y) :
  ∃ t:Tok,y.toks = toks ++ [t] /\ t.a = j /\ 0 < t.l /\ y.i = t.a + t.l /\ t.a + t.l <= s.length:=by
 have hok:=b7y s q ins (j + 1) []
 cases hp:part s q ins (j + 1) [] with
 | err c a=>rw [hp] at h; cases h
 | fin t e =>
  rw [hp] at h hok
  have h1:j + 1 < e:=hok.1
  have h2:e <= s.length:=hok.2
  simp only [a3k] at h
  cases h
  exact ⟨_,rfl,rfl,by show 0 < e - j; omega,by show e = j + (e - j); omega,by show j + (e - j) <= _; omega⟩
 | more t e =>
  rw [hp] at h hok
  have h1:j + 1 < e:=hok.1
  have h2:e <= s.length:=hok.2
  simp only [a3k] at h
  cases h
  exact ⟨_,rfl,rfl,by show 0 < e - j; omega,by show e = j + (e - j); omega,by show j + (e - j) <= _; omega⟩
theorem stepM_go {s:List UInt8} {x y:MS} (h:stepM s x = .go y):∃ t:Tok,y.toks = x.toks ++ [t] /\ t.a = a0f s x.i /\ t.a < s.length /\ 0 < t.l /\ y.i = t.a + t.l /\ t.a + t.l <= s.length:=by
 obtain ⟨i0,toks,st⟩:=x
 obtain ⟨i,h0⟩:∃ i,a0f s i0 = i:=⟨_,rfl⟩
 show ∃ t:Tok,y.toks = toks ++ [t] /\ t.a = a0f s i0 /\ _
 rw [h0]
 rcases Nat.lt_or_ge i s.length with hi | hi
 ·have fin:(∃ t:Tok,y.toks = toks ++ [t] /\ t.a = i /\ 0 < t.l /\ y.i = t.a + t.l /\ t.a + t.l <= s.length) -> ∃ t:Tok,y.toks = toks ++ [t] /\ t.a = i /\ t.a < s.length /\ 0 < t.l /\ y.i = t.a + t.l /\ t.a + t.l <= s.length:=by
   rintro ⟨t,h1,h2,h3,h4,h5⟩
   exact ⟨t,h1,h2,by omega,h3,h4,h5⟩
  apply fin
  cases hc:closes (s.getD i 0).toNat st with
  | true =>
   cases st with
   | nil=>cases hc
   | cons z st =>
    obtain ⟨q,p⟩:=z
    rw [(a4B h0 hi hc).2] at h
    exact lit_go (a4I h).2
  | false =>
   by_cases h1:(s.getD i 0).toNat = 34
   ·rw [a5Y h0 hi hc h1] at h
    exact lit_go (a4I h).2
   ·have hi1:i <= s.length:=by omega
    cases h2:O0 (s.getD i 0) with
    | true =>
     rw [a3G h0 hi hc h1 h2] at h
     have hg:=a5y hi h2
     have hl:=a4D (p:=O0) hi1
     have h:=(a4I h).2
     split at h
     ·cases h
     ·cases h; exact ⟨_,rfl,rfl,by show 0 < X6 O0 s i - i; omega,by show X6 O0 s i = i + (X6 O0 s i - i); omega,by show i + (X6 O0 s i - i) <= _; omega⟩
    | false =>
     cases h3:a0J (s.getD i 0) with
     | true =>
      rw [a3m h0 hi hc h1 h2 h3] at h
      have hg:=a5y (p:=a0q) hi (by simp only [a0q,h3,Bool.true_or])
      have hl:=a4D (p:=a0q) hi1
      have h:=(a4I h).2
      split at h
      ·cases h
      ·cases h; exact ⟨_,rfl,rfl,by show 0 < X6 a0q s i - i; omega,by show X6 a0q s i = i + (X6 a0q s i - i); omega,by show i + (X6 a0q s i - i) <= _; omega⟩
     | false =>
      cases hw:a1q s i 2 with
      | nil=>rw [a6f h0 hi hc h1 h2 h3 hw] at h; cases h
      | cons b w =>
       rw [a3p h0 hi hc h1 h2 h3 hw (by simp)] at h
       have hl:=b1b 2 hi1
       rw [hw] at hl
       have h:=(a4I h).2
       cases h
       exact ⟨_,rfl,rfl,by show 0 < (b :: w).length; simp,rfl,by show i + (b :: w).length <= _; omega⟩
 ·cases st with
  | nil=>rw [a5W h0 hi] at h; cases h
  | cons z st=>obtain ⟨q,p⟩:=z; rw [a5U h0 hi] at h; cases h
theorem c1h {s:List UInt8} {x y:MS} (h:Reach s x y):x.i <= s.length -> Lay s 0 x.toks x.i -> y.i <= s.length /\ Lay s 0 y.toks y.i:=by
 induction h with
 | refl x=>exact fun h1 h2=>⟨h1,h2⟩
 | step x y z h1 _ ih =>
  intro h2 h3
  obtain ⟨t,g1,g2,g3,g4,g5,g6⟩:=stepM_go h1
  exact ih (by omega) (by rw [g1,g5]; exact h3.add g2 g3 g4 g6)
theorem a7C {toks l:List Tok} {j:Nat} {r:MR} (h:roomy toks j r = .done l):r = .done l:=by
 unfold roomy at h
 split at h
 ·cases h
 ·exact h
theorem b2y {toks l:List Tok} {st:List (Nat × Int)} {q j:Nat} {a b:Int} {r:PR} (h:a3k toks st q j a b r = .done l):False:=by
 cases r <;> cases h
theorem b5U {s:List UInt8} {x:MS} {l:List Tok} (h:stepM s x = .done l):x.toks = l /\ s.length <= a0f s x.i:=by
 obtain ⟨i0,toks,st⟩:=x
 obtain ⟨i,h0⟩:∃ i,a0f s i0 = i:=⟨_,rfl⟩
 show toks = l /\ s.length <= a0f s i0
 rw [h0]
 rcases Nat.lt_or_ge i s.length with hi | hi
 ·exfalso
  cases hc:closes (s.getD i 0).toNat st with
  | true =>
   cases st with
   | nil=>cases hc
   | cons z st =>
    obtain ⟨q,p⟩:=z
    rw [(a4B h0 hi hc).2] at h
    exact b2y (a7C h)
  | false =>
   by_cases h1:(s.getD i 0).toNat = 34
   ·rw [a5Y h0 hi hc h1] at h
    exact b2y (a7C h)
   ·cases h2:O0 (s.getD i 0) with
    | true =>
     rw [a3G h0 hi hc h1 h2] at h
     have h:=a7C h
     split at h <;> cases h
    | false =>
     cases h3:a0J (s.getD i 0) with
     | true =>
      rw [a3m h0 hi hc h1 h2 h3] at h
      have h:=a7C h
      split at h <;> cases h
     | false =>
      cases hw:a1q s i 2 with
      | nil=>rw [a6f h0 hi hc h1 h2 h3 hw] at h; cases h
      | cons b w =>
       rw [a3p h0 hi hc h1 h2 h3 hw (by simp)] at h
       have h:=a7C h
       cases h
 ·cases st with
  | nil=>rw [a5W h0 hi] at h; cases h; exact ⟨rfl,hi⟩
  | cons z st=>obtain ⟨q,p⟩:=z; rw [a5U h0 hi] at h; cases h
theorem a8C {toks:List Tok} {j:Nat} {r:MR} {c:Int} {a:Nat} (h:roomy toks j r = .err c a):c = 2 ∨ r = .err c a:=by
 unfold roomy at h
 split at h
 ·cases h; exact .inl rfl
 ·exact .inr h
theorem c0L {s:List UInt8} {toks:List Tok} {st:List (Nat × Int)} {q j ins i:Nat} {a b:Int} {c:Int} {p:Nat} (h:a3k toks st q j a b (part s q ins i []) = .err c p):c ≠ 0:=by
 have hok:=b7y s q ins i []
 cases hp:part s q ins i [] with
 | err c' a'=>rw [hp] at h hok; cases h; rcases hok with rfl | rfl | rfl <;> decide
 | fin t e=>rw [hp] at h; cases h
 | more t e=>rw [hp] at h; cases h
theorem c1k {s:List UInt8} {x:MS} {c:Int} {p:Nat} (h:stepM s x = .err c p):c ≠ 0:=by
 obtain ⟨i0,toks,st⟩:=x
 obtain ⟨i,h0⟩:∃ i,a0f s i0 = i:=⟨_,rfl⟩
 rcases Nat.lt_or_ge i s.length with hi | hi
 ·cases hc:closes (s.getD i 0).toNat st with
  | true =>
   cases st with
   | nil=>cases hc
   | cons z st =>
    obtain ⟨q,p⟩:=z
    rw [(a4B h0 hi hc).2] at h
    rcases a8C h with rfl | h
    ·decide
    ·exact c0L h
  | false =>
   by_cases h1:(s.getD i 0).toNat = 34
   ·rw [a5Y h0 hi hc h1] at h
    rcases a8C h with rfl | h
    ·decide
    ·exact c0L h
   ·cases h2:O0 (s.getD i 0) with
    | true =>
     rw [a3G h0 hi hc h1 h2] at h
     rcases a8C h with rfl | h
     ·decide
     ·split at h <;> cases h; decide
    | false =>
     cases h3:a0J (s.getD i 0) with
     | true =>
      rw [a3m h0 hi hc h1 h2 h3] at h
      rcases a8C h with rfl | h
      ·decide
      ·split at h <;> cases h; decide
     | false =>
      cases hw:a1q s i 2 with
      | nil=>rw [a6f h0 hi hc h1 h2 h3 hw] at h; cases h; decide
      | cons b w =>
       rw [a3p h0 hi hc h1 h2 h3 hw (by simp)] at h
       rcases a8C h with rfl | h
       ·decide
       ·cases h
 ·cases st with
  | nil=>rw [a5W h0 hi] at h; cases h
  | cons z st=>obtain ⟨q,p⟩:=z; rw [a5U h0 hi] at h; cases h; decide
structure TokOk (s:List UInt8) (r:MR):Prop where
 bd:RBd r
 nz:∀ c a,r = .err c a -> c ≠ 0
 lay:∀ l,r = .done l -> s.length <= 8000 /\ ∃ e,Lay s 0 l e /\ s.length <= a0f s e /\ e <= s.length
theorem ends_ok {s:List UInt8} (hs:s.length <= 8000) {r:MR} (h:Ends s ⟨0,[],[]⟩ r) (hr:RBd r):TokOk s r:=by
 obtain ⟨y,h1,h2,h3⟩:=h
 refine ⟨hr,fun c a e=>?_,fun l e=>?_⟩
 ·subst e; exact c1k h2
 ·subst e
  obtain ⟨h4,h5⟩:=b5U h2
  obtain ⟨h6,h7⟩:=c1h h1 (Nat.zero_le _) rfl
  rw [h4] at h7
  exact ⟨hs,y.i,h7,h5,h6⟩
theorem b8L (s:List UInt8):∃ r,TokOk s r /\ E env (.call 81 [.str s]) [] = some (.ret (b06 r) []) /\ E env (.call 45 [.str s]) [] = some (.ret (b06 r) []) /\ (s.length <= 8000 -> Ends s ⟨0,[],[]⟩ r):=by
 rcases Nat.lt_or_ge 8000 s.length with h | h
 ·exact ⟨.err 2 0,⟨trivial,fun c a e=>(by cases e; decide),fun l e=>(by cases e)⟩,c11big h,c12big h,fun h1=>absurd h1 (by omega)⟩
 ·obtain ⟨r,h1,h2,h3⟩:=c11 h
  obtain ⟨r',h4,h5⟩:=c12 h
  obtain rfl:=Ends.det s h1 h4
  exact ⟨r,ends_ok h h1 h2,h3,h5,fun _=>h1⟩
end Go.Proofs.YtmonfppdiehlpaaGreatDoor.Sc
namespace Go.Vm
variable {ρ:Rho} {lab:Lab} {w:World} {H:Hp}
theorem b73 {env:Env} (hE:a8g env) {g:Nat} {args:List V} {v:V} (h:E env (.call g args) [] = some (.ret v [])) (ha:a1p (a2m a5o dep) (args.map a9w) = some args) (hv:a2m a5o dep v = some v)
  (hc:Canon 0 H) (hS:Sim ρ lab H w) {xs:List Value} (hx:L8 ρ lab w args xs):Calls env.P g xs.toArray w (a7t ρ lab H w (.ret v H)):=by
 obtain ⟨k,hk⟩:=(a2j env).at_ _ _ _ h
 have q:a1Q (run env k) g args H = some (.val v H):=by
  unfold a1Q
  rw [ha]
  simp only
  rw [hk]
  simp only
  rw [hv]
 refine (b3T (b44 hE k).1 hS hx q).1.mono fun e w' he=>?_
 cases e with
 | returned x =>
  obtain ⟨ρ',lab',h1,h2,h3,h4⟩:=he
  exact ⟨ρ',lab',h1,h2,a2R.of_le h3 _,h4,hc,Nat.le_refl _⟩
 | panicked ch=>exact he.elim
 | outgrown=>exact he.elim
def valI (f:List V -> Option V):List V -> Hp -> Option Out:=fun args H=>match f args with
 | some v=>some (.ret v H)
 | none=>none
theorem b77 {env:Env} (hE:a8g env) {g:Nat} {f:List V -> Option V}
  (hf:∀ args v,f args = some v -> a1p (a2m a5o dep) (args.map a9w) = some args /\ a2m a5o dep v = some v /\ E env (.call g args) [] = some (.ret v []))
  (hk:∃ fn c,env.P.funcs[g]? = some fn /\ (fn.name == "runtime.NumGoroutine") = false /\ fn.body = some c):b0V env.P g (valI f):=by
 refine ⟨fun args H out h ρ lab w xs hc hS hx=>?_,hk⟩
 unfold valI at h
 split at h
 ·rename_i v hv
  cases h
  obtain ⟨h1,h2,h3⟩:=hf args v hv
  exact b73 hE h3 h1 h2 hc hS hx
 ·cases h
theorem b7C {env:Env} {g:Nat} {args:List V} {H:Hp} {out:Out} {h:List V -> Hp -> Option Out} (hi:env.intr g = some (.plain h)) (ho:h args H = some out):E env (.call g args) H = some out:=by
 refine (a2j env).le 1 _ _ _ ?_
 simp only [run,step,hi,ho]
end Go.Vm
namespace Go.Proofs.YtmonfppdiehlpaaGreatDoor.Sc
open Go Go.Vm
noncomputable def a4F (s:List UInt8):MR:=(b8L s).choose
theorem b03 (s:List UInt8):TokOk s (a4F s) /\ E env (.call 81 [.str s]) [] = some (.ret (b06 (a4F s)) []) /\ E env (.call 45 [.str s]) [] = some (.ret (b06 (a4F s)) []) /\ (s.length <= 8000 -> Ends s ⟨0,[],[]⟩ (a4F s)):=(b8L s).choose_spec
theorem a96 (s:List UInt8):RBd (a4F s) /\ E env (.call 81 [.str s]) [] = some (.ret (b06 (a4F s)) []) /\ E env (.call 45 [.str s]) [] = some (.ret (b06 (a4F s)) []):=⟨(b03 s).1.bd,(b03 s).2.1,(b03 s).2.2.1⟩
noncomputable def tokF:List V -> Option V:=fun args=>match args with
 | [.str s]=>some (b06 (a4F s))
 | _=>none
theorem b9e {r:MR} (h:RBd r):a2m a5o dep (b06 r) = some (b06 r):=by
 cases r with
 | go x=>exact h.elim
 | done l=>rfl
 | err c a=>rfl
theorem tok_intr:b0V Tryz.prog 81 (valI tokF):=by
 refine b77 b6H (fun args v h=>?_) ⟨_,_,Tryz.func81,by kernel_rfl,rfl⟩
 unfold tokF at h
 split at h
 ·rename_i s
  cases h
  exact ⟨rfl,b9e (a96 s).1,(a96 s).2.1⟩
 ·cases h
theorem c1N:b0V Tryz.prog 45 (valI tokF):=by
 refine b77 b6H (fun args v h=>?_) ⟨_,_,Tryz.func45,by kernel_rfl,rfl⟩
 unfold tokF at h
 split at h
 ·rename_i s
  cases h
  exact ⟨rfl,b9e (a96 s).1,(a96 s).2.2⟩
 ·cases h
end Go.Proofs.YtmonfppdiehlpaaGreatDoor.Sc
namespace Go.Proofs
open Go.Shelf
def Tryz.b7V:Go.Shelf.Ren:=⟨fun | 172=>274 | 244=>286 | 245=>287 | 247=>298 | 279=>299 | 280=>300 | 281=>301 | 282=>302 | 287=>311 | 316=>312 | 171=>131 | 205=>313 | 321=>314 | 322=>315 | 243=>193 | 246=>222 | 283=>241 | 284=>242 | 285=>243 | 286=>244 | 129=>270 | 317=>269 | 318=>271 | 319=>272 | 320=>273 | 337=>284 | 338=>285 | n=>n,fun | 9=>9 | 3=>3 | 75=>90 | 76=>91 | 4=>4 | 5=>5 | 167=>262 | 37=>81 | 0=>0 | 85=>263 | 2=>2 | 168=>265 | 53=>207 | 175=>270 | 46=>232 | 210=>273 | 127=>132 | 145=>278 | 143=>276 | 21=>21 | 171=>206 | 173=>210 | 212=>230 | 51=>182 | 20=>20 | 213=>231 | 232=>260 | 233=>261 | 80=>93 | n=>n,fun | 15=>4 | 16=>5 | 17=>1 | 18=>2 | 19=>3 | n=>n⟩
theorem Tryz.laysC172:Go.Proofs.LaysC.n172 Tryz.prog Tryz.b7V:={
 mixed:=by kernel_rfl
 f129:=Tryz.func270.trans (congrArg some (by kernel_rfl))
 f171:=Tryz.func131.trans (congrArg some (by kernel_rfl))
 f172:=Tryz.func274.trans (congrArg some (by kernel_rfl))
 f205:=Tryz.func313.trans (congrArg some (by kernel_rfl))
 f243:=Tryz.func193.trans (congrArg some (by kernel_rfl))
 f244:=Tryz.func286.trans (congrArg some (by kernel_rfl))
 f245:=Tryz.func287.trans (congrArg some (by kernel_rfl))
 f246:=Tryz.func222.trans (congrArg some (by kernel_rfl))
 f247:=Tryz.func298.trans (congrArg some (by kernel_rfl))
 f279:=Tryz.func299.trans (congrArg some (by kernel_rfl))
 f280:=Tryz.func300.trans (congrArg some (by kernel_rfl))
 f281:=Tryz.func301.trans (congrArg some (by kernel_rfl))
 f282:=Tryz.func302.trans (congrArg some (by kernel_rfl))
 f283:=Tryz.func241.trans (congrArg some (by kernel_rfl))
 f284:=Tryz.func242.trans (congrArg some (by kernel_rfl))
 f285:=Tryz.func243.trans (congrArg some (by kernel_rfl))
 f286:=Tryz.func244.trans (congrArg some (by kernel_rfl))
 f287:=Tryz.func311.trans (congrArg some (by kernel_rfl))
 f316:=Tryz.func312.trans (congrArg some (by kernel_rfl))
 f317:=Tryz.func269.trans (congrArg some (by kernel_rfl))
 f318:=Tryz.func271.trans (congrArg some (by kernel_rfl))
 f319:=Tryz.func272.trans (congrArg some (by kernel_rfl))
 f320:=Tryz.func273.trans (congrArg some (by kernel_rfl))
 f321:=Tryz.func314.trans (congrArg some (by kernel_rfl))
 f322:=Tryz.func315.trans (congrArg some (by kernel_rfl))
 f337:=Tryz.func284.trans (congrArg some (by kernel_rfl))
 f338:=Tryz.func285.trans (congrArg some (by kernel_rfl))
 t0:=Tryz.underlying0
 a0:=Tryz.isAgg0
 z0:=Tryz.sizeOf0
 v0:=Tryz.zeroValue0
 t2:=Tryz.underlying2
 a2:=Tryz.isAgg2
 z2:=Tryz.sizeOf2
 v2:=Tryz.zeroValue2
 t3:=Tryz.underlying3
 a3:=Tryz.isAgg3
 z3:=Tryz.sizeOf3
 v3:=Tryz.zeroValue3
 t4:=Tryz.underlying4
 a4:=Tryz.isAgg4
 z4:=Tryz.sizeOf4
 v4:=Tryz.zeroValue4
 t5:=Tryz.underlying5
 a5:=Tryz.isAgg5
 z5:=Tryz.sizeOf5
 v5:=Tryz.zeroValue5
 t9:=Tryz.underlying9
 a9:=Tryz.isAgg9
 z9:=Tryz.sizeOf9
 v9:=Tryz.zeroValue9
 t20:=Tryz.underlying20
 a20:=Tryz.isAgg20
 z20:=Tryz.sizeOf20
 v20:=Tryz.zeroValue20
 t21:=Tryz.underlying21
 a21:=Tryz.isAgg21
 z21:=Tryz.sizeOf21
 v21:=Tryz.zeroValue21
 t37:=Tryz.underlying81
 a37:=Tryz.isAgg81
 z37:=Tryz.sizeOf81
 v37:=Tryz.zeroValue81
 t46:=Tryz.underlying232
 a46:=Tryz.isAgg232
 z46:=Tryz.sizeOf232
 v46:=Tryz.zeroValue232
 t51:=Tryz.underlying182
 a51:=Tryz.isAgg182
 z51:=Tryz.sizeOf182
 v51:=Tryz.zeroValue182
 t53:=Tryz.underlying207
 a53:=Tryz.isAgg207
 z53:=Tryz.sizeOf207
 v53:=Tryz.zeroValue207
 t75:=Tryz.underlying90
 a75:=Tryz.isAgg90
 z75:=Tryz.sizeOf90
 v75:=Tryz.zeroValue90
 t76:=Tryz.underlying91
 a76:=Tryz.isAgg91
 z76:=Tryz.sizeOf91
 v76:=Tryz.zeroValue91
 t85:=Tryz.underlying263
 a85:=Tryz.isAgg263
 z85:=Tryz.sizeOf263
 v85:=Tryz.zeroValue263
 t127:=Tryz.underlying132
 a127:=Tryz.isAgg132
 z127:=Tryz.sizeOf132
 v127:=Tryz.zeroValue132
 t143:=Tryz.underlying276
 a143:=Tryz.isAgg276
 z143:=Tryz.sizeOf276
 v143:=Tryz.zeroValue276
 t145:=Tryz.underlying278
 a145:=Tryz.isAgg278
 z145:=Tryz.sizeOf278
 v145:=Tryz.zeroValue278
 t167:=Tryz.underlying262
 a167:=Tryz.isAgg262
 z167:=Tryz.sizeOf262
 v167:=Tryz.zeroValue262
 t168:=Tryz.underlying265
 a168:=Tryz.isAgg265
 z168:=Tryz.sizeOf265
 v168:=Tryz.zeroValue265
 t171:=Tryz.underlying206
 a171:=Tryz.isAgg206
 z171:=Tryz.sizeOf206
 v171:=Tryz.zeroValue206
 t173:=Tryz.underlying210
 a173:=Tryz.isAgg210
 z173:=Tryz.sizeOf210
 v173:=Tryz.zeroValue210
 t175:=Tryz.underlying270
 a175:=Tryz.isAgg270
 z175:=Tryz.sizeOf270
 v175:=Tryz.zeroValue270
 t210:=Tryz.underlying273
 a210:=Tryz.isAgg273
 z210:=Tryz.sizeOf273
 v210:=Tryz.zeroValue273
 t212:=Tryz.underlying230
 a212:=Tryz.isAgg230
 z212:=Tryz.sizeOf230
 v212:=Tryz.zeroValue230
 t213:=Tryz.underlying231
 a213:=Tryz.isAgg231
 z213:=Tryz.sizeOf231
 t232:=Tryz.underlying260
 a232:=Tryz.isAgg260
 z232:=Tryz.sizeOf260
 v232:=Tryz.zeroValue260
 t233:=Tryz.underlying261
 a233:=Tryz.isAgg261
 z233:=Tryz.sizeOf261
 v233:=Tryz.zeroValue261
 g15:=by kernel_rfl
 g16:=by kernel_rfl
 g17:=by kernel_rfl
 g18:=by kernel_rfl
 g19:=by kernel_rfl
 t80:=Tryz.underlying93
 a80:=Tryz.isAgg93
 z80:=Tryz.sizeOf93
 v80:=Tryz.zeroValue93
 i0:=by kernel_rfl
 i2:=by kernel_rfl
 i3:=by kernel_rfl
 i4:=by kernel_rfl
 i5:=by kernel_rfl
 i9:=by kernel_rfl
 i20:=by kernel_rfl
 i21:=by kernel_rfl
 i37:=by kernel_rfl
 i46:=by kernel_rfl
 i51:=by kernel_rfl
 i53:=by kernel_rfl
 i75:=by kernel_rfl
 i76:=by kernel_rfl
 i80:=by kernel_rfl
 i85:=by kernel_rfl
 i127:=by kernel_rfl
 i143:=by kernel_rfl
 i145:=by kernel_rfl
 i167:=by kernel_rfl
 i168:=by kernel_rfl
 i171:=by kernel_rfl
 i173:=by kernel_rfl
 i175:=by kernel_rfl
 i210:=by kernel_rfl
 i212:=by kernel_rfl
 i232:=by kernel_rfl
 i233:=by kernel_rfl
 m15:=by kernel_rfl
 m16:=by kernel_rfl
 m17:=by kernel_rfl
 m18:=by kernel_rfl
 m19:=by kernel_rfl
 c0:=by kernel_rfl
 c2:=by kernel_rfl
 c3:=by kernel_rfl
 c4:=by kernel_rfl
 c5:=by kernel_rfl
 c9:=by kernel_rfl
 c20:=by kernel_rfl
 c21:=by kernel_rfl
 c37:=by kernel_rfl
 c46:=by kernel_rfl
 c51:=by kernel_rfl
 c53:=by kernel_rfl
 c75:=by kernel_rfl
 c76:=by kernel_rfl
 c80:=by kernel_rfl
 c85:=by kernel_rfl
 c127:=by kernel_rfl
 c143:=by kernel_rfl
 c145:=by kernel_rfl
 c167:=by kernel_rfl
 c168:=by kernel_rfl
 c171:=by kernel_rfl
 c173:=by kernel_rfl
 c175:=by kernel_rfl
 c210:=by kernel_rfl
 c212:=by kernel_rfl
 c213:=by kernel_rfl
 c232:=by kernel_rfl
 c233:=by kernel_rfl }
open Go.RowKit in
theorem Tryz.strconv_Atoi_ok (s:ByteArray) (hmax:s.size <= 9223372036854775806) (v:Int) (h:Lib.atoiAll s.data.toList = .ok v) (w:World) :
  Calls Tryz.prog 274 #[.string s] w fun e w'=>e = .returned (.tuple #[.int .i64 v,.nilIface]) /\ (w' = w ∨ ∃ t,w' = Lib.bytesWorld w 5 t):=Any.strconv_Atoi_ok Tryz.laysC172 s hmax v h w
end Go.Proofs
namespace Go.Proofs
open Go.Shelf
def Tryz.b3Q:Go.Shelf.Ren:=⟨fun | 169=>60 | n=>n,fun | 70=>80 | 9=>9 | 0=>0 | 72=>83 | 37=>81 | 127=>132 | 3=>3 | 5=>5 | n=>n,fun | n=>n⟩
theorem Tryz.lays169:Go.Proofs.Lays.n169 Tryz.prog Tryz.b3Q:={
 mixed:=by kernel_rfl
 f169:=Tryz.func60.trans (congrArg some (by kernel_rfl))
 t0:=Tryz.underlying0
 a0:=Tryz.isAgg0
 z0:=Tryz.sizeOf0
 v0:=Tryz.zeroValue0
 t3:=Tryz.underlying3
 a3:=Tryz.isAgg3
 z3:=Tryz.sizeOf3
 v3:=Tryz.zeroValue3
 t9:=Tryz.underlying9
 a9:=Tryz.isAgg9
 z9:=Tryz.sizeOf9
 v9:=Tryz.zeroValue9
 t37:=Tryz.underlying81
 a37:=Tryz.isAgg81
 z37:=Tryz.sizeOf81
 v37:=Tryz.zeroValue81
 t70:=Tryz.underlying80
 a70:=Tryz.isAgg80
 z70:=Tryz.sizeOf80
 v70:=Tryz.zeroValue80
 t72:=Tryz.underlying83
 a72:=Tryz.isAgg83
 z72:=Tryz.sizeOf83
 v72:=Tryz.zeroValue83
 t127:=Tryz.underlying132
 a127:=Tryz.isAgg132
 z127:=Tryz.sizeOf132
 v127:=Tryz.zeroValue132 }
theorem Tryz.b3d:Builder.Extra Tryz.prog Tryz.b3Q:={
 sizeBuilder:=by kernel_rfl
 liesBuilder:=by kernel_rfl
 t5:=Tryz.underlying5
 a5:=Tryz.isAgg5
 z5:=Tryz.sizeOf5
 v5:=Tryz.zeroValue5
 infoByte:=by kernel_rfl
 cellsByte:=by kernel_rfl
 sizeByte:=by kernel_rfl
 neB5:=by decide }
open Go.RowKit in
theorem Tryz.Builder_String_any (B b:Nat) (l:List UInt8) (w:World) (h:Lib.IsBuilder 83 5 B b (Lib.byteCells l) w) (hBw:B <= w.heap.size) :
  Calls Tryz.prog 60 #[.pointer (some ⟨b,0,none⟩)] w fun e w'=>e = .returned (.string ⟨l.toArray⟩) /\ Below B w w':=Any.Builder_String_any Tryz.lays169 Tryz.b3d B b l w h hBw
def Tryz.b38:Go.Shelf.Ren:=⟨fun | 156=>61 | 165=>117 | 166=>57 | 169=>60 | 240=>116 | 241=>179 | 276=>178 | 277=>216 | n=>n,fun | 31=>85 | 9=>9 | 3=>3 | 4=>4 | 0=>0 | 20=>20 | 72=>83 | 76=>91 | 70=>80 | 37=>81 | 75=>90 | 127=>132 | 164=>164 | 5=>5 | 80=>93 | n=>n,fun | n=>n⟩
theorem Tryz.b7A:Go.Proofs.Lays.n156 Tryz.prog Tryz.b38:={
 mixed:=by kernel_rfl
 f156:=Tryz.func61.trans (congrArg some (by kernel_rfl))
 f165:=Tryz.func117.trans (congrArg some (by kernel_rfl))
 f166:=Tryz.func57.trans (congrArg some (by kernel_rfl))
 f169:=Tryz.func60.trans (congrArg some (by kernel_rfl))
 f240:=Tryz.func116.trans (congrArg some (by kernel_rfl))
 f241:=Tryz.func179.trans (congrArg some (by kernel_rfl))
 f276:=Tryz.func178.trans (congrArg some (by kernel_rfl))
 f277:=Tryz.func216.trans (congrArg some (by kernel_rfl))
 t0:=Tryz.underlying0
 a0:=Tryz.isAgg0
 z0:=Tryz.sizeOf0
 v0:=Tryz.zeroValue0
 t3:=Tryz.underlying3
 a3:=Tryz.isAgg3
 z3:=Tryz.sizeOf3
 v3:=Tryz.zeroValue3
 t4:=Tryz.underlying4
 a4:=Tryz.isAgg4
 z4:=Tryz.sizeOf4
 v4:=Tryz.zeroValue4
 t9:=Tryz.underlying9
 a9:=Tryz.isAgg9
 z9:=Tryz.sizeOf9
 v9:=Tryz.zeroValue9
 t20:=Tryz.underlying20
 a20:=Tryz.isAgg20
 z20:=Tryz.sizeOf20
 v20:=Tryz.zeroValue20
 t31:=Tryz.underlying85
 a31:=Tryz.isAgg85
 z31:=Tryz.sizeOf85
 v31:=Tryz.zeroValue85
 t37:=Tryz.underlying81
 a37:=Tryz.isAgg81
 z37:=Tryz.sizeOf81
 v37:=Tryz.zeroValue81
 t70:=Tryz.underlying80
 a70:=Tryz.isAgg80
 z70:=Tryz.sizeOf80
 v70:=Tryz.zeroValue80
 t72:=Tryz.underlying83
 a72:=Tryz.isAgg83
 z72:=Tryz.sizeOf83
 v72:=Tryz.zeroValue83
 t75:=Tryz.underlying90
 a75:=Tryz.isAgg90
 z75:=Tryz.sizeOf90
 v75:=Tryz.zeroValue90
 t76:=Tryz.underlying91
 a76:=Tryz.isAgg91
 z76:=Tryz.sizeOf91
 v76:=Tryz.zeroValue91
 t127:=Tryz.underlying132
 a127:=Tryz.isAgg132
 z127:=Tryz.sizeOf132
 v127:=Tryz.zeroValue132
 t164:=Tryz.underlying164
 a164:=Tryz.isAgg164
 z164:=Tryz.sizeOf164
 v164:=Tryz.zeroValue164 }
theorem Tryz.a5J:Builder.Extra Tryz.prog Tryz.b38:={
 sizeBuilder:=by kernel_rfl
 liesBuilder:=by kernel_rfl
 t5:=Tryz.underlying5
 a5:=Tryz.isAgg5
 z5:=Tryz.sizeOf5
 v5:=Tryz.zeroValue5
 infoByte:=by kernel_rfl
 cellsByte:=by kernel_rfl
 sizeByte:=by kernel_rfl
 neB5:=by decide }
open Go.RowKit in
theorem Tryz.strings_Join_none (a:Option Addr) (c:Nat) (sep:ByteArray) (w:World) :
  Calls Tryz.prog 61 #[.slice a 0 c,.string sep] w fun e w'=>e = .returned (.string ⟨#[]⟩) /\ w' = w:=Any.strings_Join_none Tryz.b7A Tryz.a5J a c sep w
open Go.RowKit in
theorem Tryz.strings_Join (bk o c:Nat) (xs:List ByteArray) (sep:ByteArray) (w:World) (hcells:∀ (j:Nat) x,xs[j]? = some x -> w.cell? ⟨bk,o + j,none⟩ = some (.string x)) (hbk:bk < w.heap.size) (hN:xs.length <= 140737488355328) (hcap:xs.length <= c) (hlen:(Lib.join (xs.map (·.data.toList)) sep.data.toList).length <= 140737488355328) :
  Calls Tryz.prog 61 #[.slice (some ⟨bk,o,none⟩) xs.length c,.string sep] w fun e w'=>e = .returned (.string ⟨(Lib.join (xs.map (·.data.toList)) sep.data.toList).toArray⟩) /\ Below w.heap.size w w':=Any.strings_Join Tryz.b7A Tryz.a5J bk o c xs sep w hcells hbk hN hcap hlen
def Tryz.b9a:Go.Shelf.Ren:=⟨fun | 167=>59 | 156=>61 | 165=>117 | 166=>57 | 169=>60 | 240=>116 | 241=>179 | 276=>178 | 277=>216 | n=>n,fun | 31=>85 | 9=>9 | 3=>3 | 4=>4 | 0=>0 | 20=>20 | 72=>83 | 76=>91 | 70=>80 | 37=>81 | 75=>90 | 127=>132 | 164=>164 | 5=>5 | 80=>93 | n=>n,fun | n=>n⟩
theorem Tryz.layB167:Go.Proofs.Lays.n167 Tryz.prog Tryz.b9a:={
 mixed:=by kernel_rfl
 f167:=Tryz.func59.trans (congrArg some (by kernel_rfl))
 f240:=Tryz.func116.trans (congrArg some (by kernel_rfl))
 f276:=Tryz.func178.trans (congrArg some (by kernel_rfl))
 t0:=Tryz.underlying0
 a0:=Tryz.isAgg0
 z0:=Tryz.sizeOf0
 v0:=Tryz.zeroValue0
 t4:=Tryz.underlying4
 a4:=Tryz.isAgg4
 z4:=Tryz.sizeOf4
 v4:=Tryz.zeroValue4
 t5:=Tryz.underlying5
 a5:=Tryz.isAgg5
 z5:=Tryz.sizeOf5
 v5:=Tryz.zeroValue5
 t9:=Tryz.underlying9
 a9:=Tryz.isAgg9
 z9:=Tryz.sizeOf9
 v9:=Tryz.zeroValue9
 t20:=Tryz.underlying20
 a20:=Tryz.isAgg20
 z20:=Tryz.sizeOf20
 v20:=Tryz.zeroValue20
 t37:=Tryz.underlying81
 a37:=Tryz.isAgg81
 z37:=Tryz.sizeOf81
 v37:=Tryz.zeroValue81
 t70:=Tryz.underlying80
 a70:=Tryz.isAgg80
 z70:=Tryz.sizeOf80
 v70:=Tryz.zeroValue80
 t72:=Tryz.underlying83
 a72:=Tryz.isAgg83
 z72:=Tryz.sizeOf83
 v72:=Tryz.zeroValue83
 t75:=Tryz.underlying90
 a75:=Tryz.isAgg90
 z75:=Tryz.sizeOf90
 v75:=Tryz.zeroValue90
 t164:=Tryz.underlying164
 a164:=Tryz.isAgg164
 z164:=Tryz.sizeOf164
 v164:=Tryz.zeroValue164 }
theorem Tryz.b97:Builder.Extra Tryz.prog Tryz.b9a:={
 sizeBuilder:=by kernel_rfl
 liesBuilder:=by kernel_rfl
 t5:=Tryz.underlying5
 a5:=Tryz.isAgg5
 z5:=Tryz.sizeOf5
 v5:=Tryz.zeroValue5
 infoByte:=by kernel_rfl
 cellsByte:=by kernel_rfl
 sizeByte:=by kernel_rfl
 neB5:=by decide }
open Go.RowKit in
theorem Tryz.Builder_WriteByte (B b:Nat) (bs:List Value) (c:Int) (w:World) (h:Lib.IsBuilder 83 5 B b bs w) (hlen:bs.length + 1 <= 140737488355328) (hBw:B <= w.heap.size) :
  Calls Tryz.prog 59 #[.pointer (some ⟨b,0,none⟩),.int .u8 c] w fun e w'=>e = .returned .nilIface /\ (Lib.BuilderAt 83 5 B b (.pointer (some ⟨b,0,none⟩)) (bs ++ [.int .u8 c]) w' /\ Below B w w'):=Any.Builder_WriteByte Tryz.layB167 Tryz.b97 B b bs c w h hlen hBw
open Go.RowKit in
theorem Tryz.Builder_WriteString (B b:Nat) (bs:List Value) (s:ByteArray) (w:World) (h:Lib.IsBuilder 83 5 B b bs w) (hlen:bs.length + s.size <= 140737488355328) (hBw:B <= w.heap.size) :
  Calls Tryz.prog 57 #[.pointer (some ⟨b,0,none⟩),.string s] w fun e w'=>e = .returned (.tuple #[.int .i64 s.size,.nilIface]) /\ (Lib.BuilderAt 83 5 B b (.pointer (some ⟨b,0,none⟩)) (bs ++ Lib.strCells s) w' /\ Below B w w'):=Any.Builder_WriteString { Tryz.b7A with } Tryz.a5J B b bs s w h hlen hBw
end Go.Proofs
namespace Go.Vm
open Go
variable {ρ ρ':Rho} {lab lab':Lab} {w w':World} {H:Hp}
theorem Rel.carry (hF:∀ b o x,a4O lab w b o x -> a4O lab' w' b o x) {v:V} {x:Value} (h:Rel ρ lab w v x):Rel ρ lab' w' v x:=by
 induction h with
 | undef x=>exact .undef x
 | bool b=>exact .bool b
 | int k n=>exact .int k n
 | str s=>exact .str s
 | nilptr=>exact .nilptr
 | ptr r off b o c h=>exact .ptr r off b o c h
 | cptr cells xs b o hl hc _ hnf ih=>exact .cptr cells xs b o hl (fun i x hx=>hF _ _ _ (hc i x hx)) ih hnf
 | slice ow n cells xs b o ao cap hl hn hb hz hc _ how h1 hnf ih=>exact .slice ow n cells xs b o ao cap hl hn hb hz (fun i x hx=>hF _ _ _ (hc i x hx)) ih how h1 hnf
 | rslice r off n wh base g ao cap h1 h2 h3 h4 h5=>exact .rslice r off n wh base g ao cap h1 h2 h3 h4 h5
 | func fn a c xs ys h1 h2 _ _ ih1 ih2=>exact .func fn a c xs ys h1 h2 ih1 ih2
 | nilFunc=>exact .nilFunc
 | iface t v x _ ih=>exact .iface t v x ih
 | nilIface=>exact .nilIface
 | opq m=>exact .opq m
 | agg cells xs h1 _ ih=>exact .agg cells xs h1 ih
 | tuple cells xs h1 _ ih=>exact .tuple cells xs h1 ih
theorem L8.carry (hF:∀ b o x,a4O lab w b o x -> a4O lab' w' b o x) {v:List V} {x:List Value} (h:L8 ρ lab w v x):L8 ρ lab' w' v x :=
 ⟨h.1,fun i v x hv hx=>(h.2 i v x hv hx).carry hF⟩
theorem Sim.relab (hS:Sim ρ lab H w) (hF:∀ b o x,a4O lab w b o x -> a4O lab' w' b o x) (hO:∀ b o k,a3e lab w k b o -> a3e lab' w' k b o /\ cellAt w' b o = cellAt w b o)
  (hl:∀ b o k,lab' b o = some k -> b < w'.heap.size):Sim ρ lab' H w' where
 row:=fun k cs hk=>by
  obtain ⟨b,o,xs,h1,h2,h3⟩:=hS.row k cs hk
  exact ⟨b,o,xs,h1,h2.carry hF,fun i x hx=>⟨(hO _ _ _ (h3 i x hx).1).1,(hO _ _ _ (h3 i x hx).1).2.trans (h3 i x hx).2⟩⟩
 grow:=fun k e cs hk=>by
  obtain ⟨base,c,xs,h1,h2,h3,h4,h8,h9,h5⟩:=hS.grow k e cs hk
  refine ⟨base,c,xs,h1,h2.carry hF,h3,h4,h8,h9,fun b o hb=>?_⟩
  obtain ⟨h6,h7⟩:=h5 b o hb
  refine ⟨fun i hi=>(hO _ _ _ (h6 i hi)).1,fun i x hx=>?_⟩
  have hi:i < c * e:=by
   have:i < xs.length:=by
    rcases Nat.lt_or_ge i xs.length with h | h
    ·exact h
    ·rw [List.getElem?_eq_none h] at hx; cases hx
   rw [h2.1] at this; omega
  exact (hO _ _ _ (h6 i hi)).2.trans (h7 i x hx)
 tip:=fun k e n hk=>by
  obtain ⟨ao,cap,h1,h2,h3,h4,h5⟩:=hS.tip k e n hk
  exact ⟨ao,cap,h1,h2,h3,h4,fun a ha=>⟨(h5 a ha).1,fun i hi hj=>(hO _ _ _ ((h5 a ha).2 i hi hj)).1⟩⟩
 hdom:=hS.hdom
 adom:=hS.adom
 ldom:=hl
def Lab.mine (lab:Lab) (B:Nat):Lab:=fun b o=>if b = B then some none else lab b o
def Lab.left (lab:Lab) (B:Nat):Lab:=fun b o=>if b = B then none else lab b o
theorem mineF (hg:a1i w w'):∀ b o x,a4O lab w b o x -> a4O (lab.mine w.heap.size) w' b o x:=fun b o x h=>by
 have hb:=a1m h.cell
 refine ⟨?_,(hg.cell hb o).trans h.cell⟩
 simp only [Lab.mine]
 rw [if_neg (by omega)]
 exact h.lab
theorem Sim.mine (hS:Sim ρ lab H w) (hg:a1i w w') (hB:w.heap.size < w'.heap.size):Sim ρ (lab.mine w.heap.size) H w':=by
 refine hS.relab (mineF hg) (fun b o k h=>?_) (fun b o k h=>?_)
 ·obtain ⟨x,hx⟩:=h.cell
  have hb:=a1m hx
  refine ⟨⟨?_,(hg.frozen hb o).trans h.free,x,(hg.cell hb o).trans hx⟩,hg.cell hb o⟩
  simp only [Lab.mine]
  rw [if_neg (by omega)]
  exact h.lab
 ·simp only [Lab.mine] at h
  split at h
  ·rename_i hb; subst hb; exact hB
  ·exact Nat.lt_of_lt_of_le (hS.ldom b o k h) hg.size
section
variable {w1 w2 w3:World} {B:Nat}
theorem b1m (E:Ext (lab.mine B) w1 lab' w2) (hB:B < w1.heap.size) (o:Nat):cellAt w2 B o = cellAt w1 B o /\ w2.frozen? ⟨B,o,none⟩ = w1.frozen? ⟨B,o,none⟩ :=
 E.cl B o hB (fun k=>by simp [Lab.mine])
structure Wrote (B:Nat) (w w':World):Prop where
 size:w.heap.size <= w'.heap.size
 os:w'.os = w.os
 tape:w'.tape = w.tape
 output:w'.output = w.output
 blk:∀ b,b < w.heap.size -> b ≠ B -> w'.heap[b]? = w.heap[b]?
theorem Wrote.cell (h:Wrote B w w') {b:Nat} (hb:b < w.heap.size) (hn:b ≠ B) (o:Nat):cellAt w' b o = cellAt w b o:=by simp only [cellAt,World.cell?,h.blk b hb hn]
theorem Wrote.frozen (h:Wrote B w w') {b:Nat} (hb:b < w.heap.size) (hn:b ≠ B) (o:Nat):w'.frozen? ⟨b,o,none⟩ = w.frozen? ⟨b,o,none⟩:=by simp only [World.frozen?,h.blk b hb hn]
theorem Wrote.refl (B:Nat) (w:World):Wrote B w w:=⟨Nat.le_refl _,rfl,rfl,rfl,fun _ _ _=>rfl⟩
theorem leftF (E:Ext (lab.mine B) w1 lab' w2) (hw:Wrote B w2 w3):∀ b o x,a4O lab' w2 b o x -> a4O (lab'.left B) w3 b o x:=fun b o x h=>by
 have hb:=a1m h.cell
 have hn:b ≠ B:=by
  rintro rfl
  have:=(E.ctx b o).2 (by simp [Lab.mine])
  rw [h.lab] at this; cases this
 refine ⟨?_,(hw.cell hb hn o).trans h.cell⟩
 simp only [Lab.left]
 rw [if_neg hn]
 exact h.lab
theorem Sim.left (hS:Sim ρ' lab' H w2) (E:Ext (lab.mine B) w1 lab' w2) (hw:Wrote B w2 w3):Sim ρ' (lab'.left B) H w3:=by
 refine hS.relab (leftF E hw) (fun b o k h=>?_) (fun b o k h=>?_)
 ·obtain ⟨x,hx⟩:=h.cell
  have hb:=a1m hx
  have hn:b ≠ B:=by
   rintro rfl
   have:=(E.ctx b o).2 (by simp [Lab.mine])
   rw [h.lab] at this; cases this
  refine ⟨⟨?_,(hw.frozen hb hn o).trans h.free,x,(hw.cell hb hn o).trans hx⟩,hw.cell hb hn o⟩
  simp only [Lab.left]
  rw [if_neg hn]
  exact h.lab
 ·simp only [Lab.left] at h
  split at h
  ·cases h
  ·exact Nat.lt_of_lt_of_le (hS.ldom b o k h) hw.size
theorem Ext.left (hS:Sim ρ lab H w) (hg:a1i w w1) (hB:w.heap.size < w1.heap.size) (E:Ext (lab.mine w.heap.size) w1 lab' w2) (hw:Wrote w.heap.size w2 w3):Ext lab w (lab'.left w.heap.size) w3 where
 size:=Nat.le_trans hg.size (Nat.le_trans E.size hw.size)
 os:=hw.os.trans (E.os.trans hg.os)
 tape:=hw.tape.trans (E.tape.trans hg.tape)
 output:=hw.output.trans (E.output.trans hg.output)
 lb:=fun b o hb hl=>by
  simp only [Lab.left]
  rw [if_neg (by omega)]
  exact E.lb b o (Nat.lt_of_lt_of_le hb hg.size) (by simp only [Lab.mine]; rw [if_neg (by omega)]; exact hl)
 ctx:=fun b o=>by
  by_cases hb:b = w.heap.size
  ·subst hb
   have h1:(lab'.left w.heap.size) w.heap.size o = none:=by simp [Lab.left]
   rw [h1]
   constructor
   ·intro h; cases h
   ·intro h
    have:=hS.ldom _ _ _ h
    omega
  ·have:=E.ctx b o
   simp only [Lab.left,Lab.mine,if_neg hb] at this ⊢
   exact this
 cl:=fun b o hb hl=>by
  have hb1:=Nat.lt_of_lt_of_le hb hg.size
  have h1:=E.cl b o hb1 (fun k=>by simp only [Lab.mine]; rw [if_neg (by omega)]; exact hl k)
  have hb2:=Nat.lt_of_lt_of_le hb1 E.size
  exact ⟨(hw.cell hb2 (by omega) o).trans (h1.1.trans (hg.cell hb o)),(hw.frozen hb2 (by omega) o).trans (h1.2.trans (hg.frozen hb o))⟩
 blk:=fun b hb hl=>by
  have hb1:=Nat.lt_of_lt_of_le hb hg.size
  have h1:=E.blk b hb1 (fun o k=>by simp only [Lab.mine]; rw [if_neg (by omega)]; exact hl o k)
  have hb2:=Nat.lt_of_lt_of_le hb1 E.size
  exact (hw.blk b hb2 (by omega)).trans (h1.trans (hg.blk b hb))
end
def b0f:Hp -> Hp
 | []=>[]
 | (k,.row cs) :: r=>(k,.row (cs.map b2X)) :: b0f r
 | (k,o) :: r=>(k,o) :: b0f r
def sealO:Obj -> Obj
 | .row cs=>.row (cs.map b2X)
 | o=>o
theorem b1Z (k:Nat) (o:Obj) (r:Hp):b0f ((k,o) :: r) = (k,sealO o) :: b0f r:=by cases o <;> rfl
theorem a9M (j:Nat):∀ H:Hp,hget j (b0f H) = (hget j H).map sealO
 | []=>rfl
 | (k,o) :: r=>by
  rw [b1Z]
  simp only [hget]
  cases Nat.beq k j with
  | true=>rfl
  | false=>exact a9M j r
theorem a9X:∀ H:Hp,(b0f H).length = H.length
 | []=>rfl
 | (k,o) :: r=>by rw [b1Z]; simp only [List.length_cons,a9X r]
theorem b3R:∀ (n:Nat) (H:Hp),Canon n H -> Canon n (b0f H)
 | _,[],_=>trivial
 | n,(k,o) :: r,h=>by
  rw [b1Z]
  exact ⟨h.1,b3R (n + 1) r h.2⟩
theorem Sim.b0f (hS:Sim ρ lab H w):Sim ρ lab (Vm.b0f H) w:=by
 have hg:∀ {j o},hget j (Vm.b0f H) = some o -> ∃ o',hget j H = some o' /\ o = sealO o':=fun {j o} h=>by
  rw [a9M] at h
  cases hq:hget j H with
  | none=>rw [hq] at h; cases h
  | some o'=>rw [hq] at h; cases h; exact ⟨o',rfl,rfl⟩
 refine Sim.mk' (fun j o hj=>?_) (fun j n x h=>?_) (fun j x h=>?_) hS.ldom
 ·obtain ⟨o',h1,rfl⟩:=hg hj
  cases o' with
  | row cs =>
   obtain ⟨b,o,xs,g1,g2,g3⟩:=hS.row j cs h1
   exact ⟨b,o,xs,g1,g2.a6o,g3⟩
  | grow e cs=>exact hS.grow j e cs h1
  | tip e n=>exact hS.tip j e n h1
  | gone=>trivial
 ·obtain ⟨e,m,h1,h2⟩:=hS.hdom j n x h
  exact ⟨e,m,by rw [a9M,h1]; rfl,h2⟩
 ·have:=hS.adom j x h
  rw [a9M]
  cases hq:hget j H with
  | none=>exact absurd hq this
  | some o=>simp
theorem E_via {env:Env} {g g':Nat} {args l:List V} {H H':Hp} {o out:Out} {pre:List V -> Hp -> Option (Nat × List V × Hp)} {post:List V -> Hp -> Out -> Option Out} (hi:env.intr g = some (.via pre post)) (hp:pre args H = some (g',l,H'))
  (hc:E env (.call g' l) H' = some o) (ho:post args H o = some out):E env (.call g args) H = some out :=
 b7Q (by simp only [step,hi,hp,hc,ho])
end Go.Vm
namespace Go.Proofs.YtmonfppdiehlpaaGreatDoor
open Go Go.Vm
def strsOf:List V -> Option (List (List UInt8))
 | []=>some []
 | .str s :: r=>match strsOf r with
  | some l=>some (s :: l)
  | none=>none
 | _=>none
def b6M:List V -> Hp -> Option Out:=fun args H=>match args with
 | [.slice _ n cs,.str sep]=>match strsOf cs with
  | some l=>gd (eqN l.length n && leN n 140737488355328 && leN (Lib.join l sep).length 140737488355328) (some (.ret (.str (Lib.join l sep)) H))
  | none=>none
 | _=>none
theorem b55:∀ {cs:List V} {l:List (List UInt8)},strsOf cs = some l -> cs = l.map .str
 | [],l,h=>by cases h; rfl
 | c :: r,l,h=>by
  cases c with
  | str s =>
   simp only [strsOf] at h
   split at h
   ·rename_i l' hl
    cases h
    rw [b55 hl]; rfl
   ·cases h
  | _=>cases h
theorem b2g {w w':World} (h:RowKit.Below w.heap.size w w'):a1i w w':=⟨h.size,h.os,h.tape,h.output,fun b hb=>h.block b hb⟩
theorem b4E:b0V Tryz.prog 61 b6M:=by
 refine ⟨fun args H out h ρ lab w xs hc hS hx=>?_,⟨_,_,Tryz.func61,rfl,rfl⟩⟩
 unfold b6M at h
 split at h
 ·rename_i ow n cs sep
  split at h
  ·rename_i l hl
   obtain ⟨h1,h2⟩:=R7 h
   cases h2
   simp only [Bool.and_eq_true] at h1
   obtain ⟨⟨h1,h2⟩,h3⟩:=h1
   have h1:=b1o h1
   have h2:=a6S h2
   have h3:=a6S h3
   obtain ⟨x1,r1,rfl,a1,a2⟩:=H9.1 hx
   obtain ⟨x2,r2,rfl,a3,a4⟩:=H9.1 a2
   have:r2 = []:=by have:=a4.1; simpa using this
   subst this
   cases a3
   have hcs:=b55 hl
   cases a1 with
   | slice _ _ _ xs b o ao cap g1 g2 g3 g4 g5 g6 g7 g8 g9 =>
   rcases Nat.eq_zero_or_pos n with h0 | h0
   ·subst h0
    have:l = []:=List.length_eq_zero_iff.1 h1
    subst this
    refine (Tryz.strings_Join_none ao cap ⟨⟨sep⟩⟩ w).mono fun e w' ⟨he,hw⟩=>?_
    subst he; subst hw
    exact ⟨ρ,lab,hS,Ext.refl _ _,⟨fun _ _ _ h=>h,fun _ _ _ _ h=>h⟩,.str _,hc,Nat.le_refl _⟩
   ·have hao:=g3 h0
    subst hao
    have hget:∀ (j:Nat) (x:ByteArray),(l.map (fun s=>(⟨⟨s⟩⟩:ByteArray)))[j]? = some x -> cellAt w b (o + j) = some (.string x):=by
     intro j x hj
     rw [List.getElem?_map] at hj
     cases hq:l[j]? with
     | none=>rw [hq] at hj; cases hj
     | some s =>
      rw [hq] at hj
      cases hj
      have hcj:cs[j]? = some (.str s):=by rw [hcs,List.getElem?_map,hq]; rfl
      have hj2:j < xs.length:=by
       rw [g1]
       rcases Nat.lt_or_ge j cs.length with h | h
       ·exact h
       ·rw [List.getElem?_eq_none h] at hcj; cases hcj
      have hxj:xs[j]? = some xs[j]:=by simp [hj2]
      have hr:=g6 j _ _ hcj hxj
      have hf:=(g5 j _ hxj).cell
      generalize xs[j] = z at hr hf
      cases hr
      exact hf
    have hlen:(l.map (fun s=>(⟨⟨s⟩⟩:ByteArray))).length = n:=by rw [List.length_map]; exact h1
    have hmap:(l.map (fun s=>(⟨⟨s⟩⟩:ByteArray))).map (·.data.toList) = l:=by rw [List.map_map]; exact List.map_id l
    have hb:b < w.heap.size:=by
     have hj2:0 < (l.map (fun s=>(⟨⟨s⟩⟩:ByteArray))).length:=by omega
     exact a1m (hget 0 _ (List.getElem?_eq_getElem hj2))
    have K:=Tryz.strings_Join b o cap (l.map (fun s=>(⟨⟨s⟩⟩:ByteArray))) ⟨⟨sep⟩⟩ w hget hb (by omega) (by omega) (by rw [hmap]; exact h3)
    rw [hlen,hmap] at K
    refine K.mono fun e w' ⟨he,hw⟩=>?_
    subst he
    have G:=b2g hw
    exact ⟨ρ,lab,hS.grew G,G.ext lab,⟨fun _ _ _ h=>h,fun _ _ _ _ h=>h⟩,.str _,hc,Nat.le_refl _⟩
  ·cases h
 ·cases h
end Go.Proofs.YtmonfppdiehlpaaGreatDoor
namespace Go.Proofs.YtmonfppdiehlpaaGreatDoor
open Go Go.Vm
def a5m (s:List UInt8) (a:Nat):Nat:=s.foldl (fun a b=>a * 10 + (b.toNat - 48)) a
def b3G (s:List UInt8):Bool:=s.all (fun b=>Nat.ble 48 b.toNat && Nat.ble b.toNat 57)
def digB (s:List UInt8):Bool:=b3G s && (!s.isEmpty && (Nat.ble s.length 19 && Nat.ble (a5m s 0) 9223372036854775807))
def b8i:List V -> Hp -> Option Out:=fun args H=>match args with
 | [.str s]=>match digB s with
  | true=>some (.ret (.tuple [.int .i64 (a5m s 0:Nat),.nilIface]) H)
  | false=>none
 | _=>none
theorem a5e (b:UInt8) (r:List UInt8) (a:Nat):a5m (b :: r) a = a5m r (a * 10 + (b.toNat - 48)):=by simp only [a5m,List.foldl_cons]
theorem a9q {b:UInt8} {r:List UInt8} (h:b3G (b :: r) = true):48 <= b.toNat /\ b.toNat <= 57 /\ b3G r = true:=by
 simp only [b3G,List.all_cons,Bool.and_eq_true,Nat.ble_eq] at h
 exact ⟨h.1.1,h.1.2,h.2⟩
theorem b74:∀ (l:List UInt8) (x:Nat),x <= a5m l x
 | [],x=>Nat.le_refl _
 | b :: r,x=>by rw [a5e]; have:=b74 r (x * 10 + (b.toNat - 48)); omega
theorem b82:∀ (l:List UInt8) (x:Nat),b3G l = true -> a5m l x <= 9223372036854775807 -> Lib.parseUint10 x l = .ok (a5m l x)
 | [],x,h1,h2=>rfl
 | b :: r,x,h1,h2=>by
  obtain ⟨h3,h4,h5⟩:=a9q h1
  rw [a5e] at h2
  have:=b74 r (x * 10 + (b.toNat - 48))
  rw [Lib.parseUint10,if_pos ⟨h3,h4⟩,if_neg (by omega),if_neg (by omega),a5e]
  exact b82 r _ h5 h2
theorem atoi_all {s:List UInt8} (h:digB s = true):Lib.atoiAll s = .ok (a5m s 0:Nat):=by
 simp only [digB,Bool.and_eq_true,Nat.ble_eq] at h
 obtain ⟨h1,h2,h3,h4⟩:=h
 cases s with
 | nil=>cases h2
 | cons b r =>
  obtain ⟨h5,h6,h7⟩:=a9q h1
  have h8:¬ (b.toNat = 43 ∨ b.toNat = 45):=by omega
  have h9:¬ b.toNat = 45:=by omega
  unfold Lib.atoiAll
  simp only [if_neg h8,Lib.parseMag]
  rw [if_neg (by simp),b82 _ _ h1 h4]
  simp only [h9,not_false_eq_true,true_and,false_and,if_false]
  rw [if_neg (by omega)]
theorem b6A:b0V Tryz.prog 274 b8i:=by
 refine ⟨fun args H out h ρ lab w xs hc hS hx=>?_,⟨_,_,Tryz.func274,rfl,rfl⟩⟩
 unfold b8i at h
 split at h
 ·rename_i s
  split at h
  ·rename_i hb
   cases h
   have hb2:=hb
   simp only [digB,Bool.and_eq_true,Nat.ble_eq] at hb2
   obtain ⟨x1,r1,rfl,a1,a2⟩:=H9.1 hx
   have:r1 = []:=by have:=a2.1; simpa using this
   subst this
   cases a1
   refine (Tryz.strconv_Atoi_ok ⟨⟨s⟩⟩ (by show s.length <= _; omega) _ (atoi_all hb) w).mono fun e w' ⟨he,hw⟩=>?_
   subst he
   have hg:a1i w w':=by
    rcases hw with rfl | ⟨t,rfl⟩
    ·exact b2g (RowKit.Below.refl _ _)
    ·exact b2g (Lib.bytesWorld_below w _ t)
   have hr:Rel ρ lab w' (.tuple [.int .i64 (a5m s 0:Nat),.nilIface]) (.tuple #[.int .i64 (a5m s 0:Nat),.nilIface]):=by
    refine .tuple [.int .i64 (a5m s 0:Nat),.nilIface] [.int .i64 (a5m s 0:Nat),.nilIface] rfl fun i v x h1 h2=>?_
    match i,h1,h2 with
    | 0,h1,h2=>cases h1; cases h2; exact .int _ _
    | 1,h1,h2=>cases h1; cases h2; exact .nilIface
    | i + 2,h1,h2=>cases h1
   exact ⟨ρ,lab,hS.grew hg,hg.ext lab,⟨fun _ _ _ h=>h,fun _ _ _ _ h=>h⟩,hr,hc,Nat.le_refl _⟩
  ·cases h
 ·cases h
end Go.Proofs.YtmonfppdiehlpaaGreatDoor
namespace Go.Proofs.YtmonfppdiehlpaaGreatDoor.Sc
open Go Go.Vm
def IntW (w:List UInt8):Prop:=w ≠ [] /\ (∀ b ∈ w,O0 b = true) /\ ∃ c,Z6 w c = false
theorem c0P (p:UInt8 -> Bool):∀ l:List UInt8,l.take (l.takeWhile p).length = l.takeWhile p
 | []=>rfl
 | b :: r=>by
  rw [List.takeWhile_cons]
  cases p b
  ·rfl
  ·simp [c0P p r]
theorem run_text {p:UInt8 -> Bool} {s:List UInt8} {i:Nat}:(s.take (X6 p s i)).drop i = (s.drop i).takeWhile p:=by
 rw [List.drop_take,X6,Nat.add_sub_cancel_left,c0P]
theorem tw_all {p:UInt8 -> Bool}:∀ {l:List UInt8} {b:UInt8},b ∈ l.takeWhile p -> p b = true
 | c :: r,b,h=>by
  rw [List.takeWhile_cons] at h
  cases hc:p c
  ·rw [hc] at h; cases h
  ·rw [hc] at h
   rcases List.mem_cons.1 h with rfl | h
   ·exact hc
   ·exact tw_all h
theorem b8X {s:List UInt8} {toks:List Tok} {st:List (Nat × Int)} {q j ins:Nat} {a b:Int} {y:MS} (ha:a ≠ 3) (hb:b ≠ 3) (h:a3k toks st q j a b (part s q ins (j + 1) []) = .go y) :
  ∃ t:Tok,y.toks = toks ++ [t] /\ (t.k = 3 -> IntW t.t):=by
 cases hp:part s q ins (j + 1) [] with
 | err c a=>rw [hp] at h; cases h
 | fin t e =>
  rw [hp] at h
  simp only [a3k] at h
  cases h
  exact ⟨_,rfl,fun h=>absurd h ha⟩
 | more t e =>
  rw [hp] at h
  simp only [a3k] at h
  cases h
  exact ⟨_,rfl,fun h=>absurd h hb⟩
theorem kindB_ne (w:List UInt8):a4f w ≠ 3:=by
 unfold a4f
 split
 ·decide
 ·split <;> decide
theorem step_int {s:List UInt8} {x y:MS} (h:stepM s x = .go y):∃ t:Tok,y.toks = x.toks ++ [t] /\ (t.k = 3 -> IntW t.t):=by
 obtain ⟨i0,toks,st⟩:=x
 obtain ⟨i,h0⟩:∃ i,a0f s i0 = i:=⟨_,rfl⟩
 show ∃ t:Tok,y.toks = toks ++ [t] /\ _
 rcases Nat.lt_or_ge i s.length with hi | hi
 ·cases hc:closes (s.getD i 0).toNat st with
  | true =>
   cases st with
   | nil=>cases hc
   | cons z st =>
    obtain ⟨q,p⟩:=z
    rw [(a4B h0 hi hc).2] at h
    exact b8X (by decide) (by decide) (a4I h).2
  | false =>
   by_cases h1:(s.getD i 0).toNat = 34
   ·rw [a5Y h0 hi hc h1] at h
    exact b8X (by decide) (by decide) (a4I h).2
   ·have hi1:i <= s.length:=by omega
    cases h2:O0 (s.getD i 0) with
    | true =>
     rw [a3G h0 hi hc h1 h2] at h
     have hg:=a5y hi h2
     have hl:=a4D (p:=O0) hi1
     have h:=(a4I h).2
     split at h
     ·cases h
     ·rename_i hbad
      cases h
      refine ⟨_,rfl,fun _=>⟨?_,?_,_,hbad⟩⟩
      ·intro hnil
       have:=congrArg List.length hnil
       simp only [List.length_drop,List.length_take,List.length_nil] at this
       omega
      ·intro b hb
       have hb:b ∈ (s.take (X6 O0 s i)).drop i:=hb
       rw [run_text] at hb
       exact tw_all hb
    | false =>
     cases h3:a0J (s.getD i 0) with
     | true =>
      rw [a3m h0 hi hc h1 h2 h3] at h
      have h:=(a4I h).2
      split at h
      ·cases h
      ·cases h; exact ⟨_,rfl,fun h=>absurd h (kindB_ne _)⟩
     | false =>
      cases hw:a1q s i 2 with
      | nil=>rw [a6f h0 hi hc h1 h2 h3 hw] at h; cases h
      | cons b w =>
       rw [a3p h0 hi hc h1 h2 h3 hw (by simp)] at h
       have h:=(a4I h).2
       cases h
       exact ⟨_,rfl,fun h=>absurd h (show (8:Int) ≠ 3 by decide)⟩
 ·cases st with
  | nil=>rw [a5W h0 hi] at h; cases h
  | cons z st=>obtain ⟨q,p⟩:=z; rw [a5U h0 hi] at h; cases h
theorem c1z {s:List UInt8} {x y:MS} (h:Reach s x y):(∀ t ∈ x.toks,t.k = 3 -> IntW t.t) -> ∀ t ∈ y.toks,t.k = 3 -> IntW t.t:=by
 induction h with
 | refl x=>exact fun h=>h
 | step x y z h1 _ ih =>
  intro h2
  obtain ⟨t,g1,g2⟩:=step_int h1
  refine ih fun u hu=>?_
  rw [g1] at hu
  rcases List.mem_append.1 hu with hu | hu
  ·exact h2 u hu
  ·rcases List.mem_singleton.1 hu with rfl
   exact g2
theorem tok_int {s:List UInt8} {l:List Tok} (h:a4F s = .done l):∀ t ∈ l,t.k = 3 -> IntW t.t:=by
 obtain ⟨h1,_,_,h2⟩:=b03 s
 have h3:=(h1.lay l h).1
 obtain ⟨y,g1,g2,_⟩:=h2 h3
 rw [h] at g2
 rw [<- (b5U g2).1]
 exact c1z g1 (fun t ht=>by cases ht)
theorem digs_of {w:List UInt8} (h:∀ b ∈ w,O0 b = true):b3G w = true:=by
 simp only [b3G,List.all_eq_true,Bool.and_eq_true,Nat.ble_eq]
 intro b hb
 have:=h b hb
 simpa [O0] using this
theorem b7H:∀ (l:List UInt8) (x:Nat),b3G l = true -> a5m l x < (x + 1) * 10 ^ l.length
 | [],x,h=>by simp [a5m]
 | b :: r,x,h=>by
  obtain ⟨h1,h2,h3⟩:=a9q h
  have:=b7H r (x * 10 + (b.toNat - 48)) h3
  rw [a5e,List.length_cons,Nat.pow_succ]
  refine Nat.lt_of_lt_of_le this ?_
  rw [show (x + 1) * (10 ^ r.length * 10) = (x * 10 + 10) * 10 ^ r.length from by rw [Nat.mul_comm (10 ^ r.length) 10,<- Nat.mul_assoc,Nat.add_mul]]
  exact Nat.mul_le_mul_right _ (by omega)
theorem b8q:∀ (l:List UInt8) (x:Nat),x * 10 ^ l.length <= a5m l x
 | [],x=>by simp [a5m]
 | b :: r,x=>by
  have:=b8q r (x * 10 + (b.toNat - 48))
  rw [a5e,List.length_cons,Nat.pow_succ]
  refine Nat.le_trans ?_ this
  rw [show x * (10 ^ r.length * 10) = (x * 10) * 10 ^ r.length from by rw [Nat.mul_comm (10 ^ r.length) 10,<- Nat.mul_assoc]]
  exact Nat.mul_le_mul_right _ (by omega)
theorem c0Z:∀ (a b:List UInt8),a.length = b.length -> b3G a = true -> b3G b = true -> Op.bytesLess a b = true -> ∀ x,a5m a x <= a5m b x
 | [],[],_,_,_,h,x=>by simp [Op.bytesLess] at h
 | [],b :: y,h0,_,_,_,x=>by simp at h0
 | a :: x',[],h0,_,_,_,x=>by simp at h0
 | a :: u,b :: v,h0,h1,h2,h3,x=>by
  obtain ⟨a1,a2,a3⟩:=a9q h1
  obtain ⟨b1,b2,b3⟩:=a9q h2
  have hl:u.length = v.length:=by simpa using h0
  simp only [Op.bytesLess,Bool.or_eq_true,Bool.and_eq_true,decide_eq_true_eq,beq_iff_eq] at h3
  rw [a5e,a5e]
  rcases h3 with h3 | ⟨h3,h4⟩
  ·have h3:a.toNat < b.toNat:=UInt8.lt_iff_toNat_lt.1 h3
   have g1:=b7H u (x * 10 + (a.toNat - 48)) a3
   have g2:=b8q v (x * 10 + (b.toNat - 48))
   rw [hl] at g1
   have g3:(x * 10 + (a.toNat - 48) + 1) * 10 ^ v.length <= (x * 10 + (b.toNat - 48)) * 10 ^ v.length:=Nat.mul_le_mul_right _ (by omega)
   omega
  ·subst h3
   exact c0Z u v hl a3 b3 h4 _
theorem int_digB {w:List UInt8} (h:IntW w):digB w = true:=by
 obtain ⟨h1,h2,c,h3⟩:=h
 have hd:=digs_of h2
 unfold Z6 at h3
 simp only [Bool.or_eq_false_iff,Bool.and_eq_false_iff] at h3
 obtain ⟨⟨⟨_,h4⟩,h5⟩,_⟩:=h3
 have h4:w.length <= 19:=by simp [ltB] at h4; omega
 have hv:a5m w 0 <= 9223372036854775807:=by
  rcases Nat.lt_or_ge w.length 19 with h6 | h6
  ·have g:=b7H w 0 hd
   have g2:10 ^ w.length <= 10 ^ 18:=Nat.pow_le_pow_right (by omega) (by omega)
   have g3:(10:Nat) ^ 18 = 1000000000000000000:=by decide
   omega
  ·have h7:w.length = 19:=by omega
   rcases h5 with h5 | h5
   ·simp [eqB,h7] at h5
   ·have hm:b3G a1t = true:=by decide
    have hmv:a5m a1t 0 = 9223372036854775807:=by decide
    have h5:(ltS w a1t || eqS w a1t) = true:=by
     cases hq:(ltS w a1t || eqS w a1t) with
     | true=>rfl
     | false=>rw [hq] at h5; cases h5
    simp only [Bool.or_eq_true] at h5
    rcases h5 with h5 | h5
    ·unfold ltS at h5
     have:=c0Z w a1t (by rw [h7]; rfl) hd hm h5 0
     omega
    ·have:w = a1t:=by simpa [eqS] using h5
     rw [this]; omega
 have hne:w.isEmpty = false:=by cases w with
  | nil=>exact absurd rfl h1
  | cons b r=>rfl
 simp only [digB,hd,hne,Bool.not_false,Bool.true_and,Bool.and_eq_true,Nat.ble_eq]
 exact ⟨h4,hv⟩
end Go.Proofs.YtmonfppdiehlpaaGreatDoor.Sc
namespace Go.Proofs.YtmonfppdiehlpaaGreatDoor
open Go Go.Vm
def cvTok (t:Sc.Tok):Tok:=⟨t.k,t.t,(t.a:Nat),(t.l:Nat)⟩
def a9F:Sc.MR -> List Tok
 | .done l=>l.map cvTok
 | _=>[]
def b2Z:Sc.MR -> Int
 | .err c _=>c
 | _=>0
def tokA:Sc.MR -> Int
 | .err _ a=>(a:Nat)
 | _=>0
theorem b8M:∀ l:List Sc.Tok,q9 (l.map cvTok) = Sc.a2l l
 | []=>rfl
 | t :: r=>by
  rw [List.map_cons,a5x.cons,b8M r]
  rfl
theorem tokV_cv {r:Sc.MR} (h:Sc.RBd r):Sc.b06 r = .tuple [.slice .sealed (List.length (a9F r)) (q9 (a9F r)),.agg [.int .i64 (b2Z r),.int .i64 (tokA r)]]:=by
 cases r with
 | go x=>exact h.elim
 | done l =>
  simp only [a9F,Sc.b06,b8M,List.length_map,b2Z,tokA]
 | err c a=>rfl
theorem b8Q {env:Env} {g:Nat} {s:Str} (hi:env.intr g = some (.plain (valI Sc.tokF))) (h:Sc.RBd (Sc.a4F s)) :
  E env (.call g [.str s]) [] = some (.ret (.tuple [.slice .sealed (List.length (a9F (Sc.a4F s))) (q9 (a9F (Sc.a4F s))),.agg [.int .i64 (b2Z (Sc.a4F s)),.int .i64 (tokA (Sc.a4F s))]]) []):=by
 refine b7C hi ?_
 rw [<- tokV_cv h]
 rfl
theorem tok_code (s:Str):(b2Z (Sc.a4F s) = 0 /\ tokA (Sc.a4F s) = 0) ∨ (b2Z (Sc.a4F s) ≠ 0 /\ a9F (Sc.a4F s) = []):=by
 have h:=(Sc.b03 s).1
 generalize Sc.a4F s = r at h
 cases r with
 | go x=>exact h.bd.elim
 | done l=>exact .inl ⟨rfl,rfl⟩
 | err c a=>exact .inr ⟨h.nz c a rfl,rfl⟩
theorem tokL_len (s:Str):(a9F (Sc.a4F s)).length <= 3000:=by
 have h:=(Sc.a96 s).1
 generalize Sc.a4F s = r at h
 cases r with
 | go x=>exact h.elim
 | done l=>simpa [a9F,Sc.RBd] using h
 | err c a=>simp [a9F]
end Go.Proofs.YtmonfppdiehlpaaGreatDoor
namespace Go.Proofs.YtmonfppdiehlpaaGreatDoor
open Go Go.Vm
def b9x:Option Bool:=some true
noncomputable def a92 (a1K:Str):Option (List Tok × Int × Int):=some (a9F (Sc.a4F a1K),b2Z (Sc.a4F a1K),tokA (Sc.a4F a1K))
def atoi (s1:Str):Option Int:=match digB s1 with
 | true=>some ((a5m s1 0:Nat):Int)
 | false=>none
end Go.Proofs.YtmonfppdiehlpaaGreatDoor
namespace Go.Proofs.YtmonfppdiehlpaaGreatDoor
open Go Go.Vm
def a9z (a1K:Str):Option (Unit) :=
 some (())
def b4V (a1K:Str):Unit -> Out
 | _=>.ret (.bool (ltB 8200 (List.length a1K:Int))) []
structure K5 where
 a0C:Typ -> Typ -> Option (Bool)
 a0s:(List Typ) -> (List Typ) -> Option (Bool)
def a4o (n:Nat) (Φ:K5) (a1:Typ) (b2:Typ):Option (Bool) :=
 cond (eqB a1.kind b2.kind) (
 cond (eqS a1.name b2.name) (
 cond (eqB a1.n b2.n) (
 (Φ.a0s a1.args b2.args).bind fun r3 =>
 some (r3)) (
 some (false))) (
 some (false))) (
 some (false))
def a5X (a1:Typ) (b2:Typ):Bool -> Out
 | Y4=>.ret (.bool Y4) []
def a1U (n:Nat) (Φ:K5) (a1:List Typ) (b2:List Typ):Nat -> Int -> Option (Lr (Unit) (Bool))
  | 0,_=>none
  | m4 + 1,b09 =>
      cond (ltB b09 (List.length a1:Int)) (
      (idx' a1 b09).bind fun x3 =>
      (idx' b2 b09).bind fun x4 =>
      (Φ.a0C x3 x4).bind fun r5 =>
      cond (!r5) (
      some (.out (false))) (
      a1U n Φ a1 b2 m4 (w64 (b09 + 1)))) (
      some (.brk ()))
def a3V (n:Nat) (Φ:K5) (a1:List Typ) (b2:List Typ):Option (Bool) :=
 cond (!eqB (List.length a1:Int) (List.length b2:Int)) (
 some (false)) (
 V8 (α:=Unit) (
 a1U n Φ a1 b2 n 0) fun _ =>
 some (true))
def a4g (a1:List Typ) (b2:List Typ):Bool -> Out
 | Y4=>.ret (.bool Y4) []
def K5.fs:Nat -> K5
 | 0=>⟨fun _ _=>none,fun _ _=>none⟩
 | n + 1=>⟨a4o n (K5.fs n),a3V n (K5.fs n)⟩
def a0C (n:Nat) (a1:Typ) (b2:Typ):Option (Bool):=(K5.fs n).a0C a1 b2
def a0s (n:Nat) (a1:List Typ) (b2:List Typ):Option (Bool):=(K5.fs n).a0s a1 b2
structure M0 where
 a1c:Nod -> Nod -> Bool -> Option (Bool)
 a3v:(List Nod) -> (List Nod) -> Bool -> Option (Bool)
def a4p (n:Nat) (Φ:M0) (a1:Nod) (b2:Nod) (at3:Bool):Option (Bool) :=
 Option.bind (α:=Bool) (
 cond (!eqB a1.op b2.op) (
 some true) (
 cond (!eqS a1.s b2.s) (
 some true) (
 cond (!eqB a1.n b2.n) (
 some true) (
 cond at3 (
 cond (!eqB a1.at_ b2.at_) (
 some true) (
 (a0C n a1.t b2.t).bind fun r4 =>
 cond (!r4) (
 some true) (
 (a0s n a1.ts b2.ts).bind fun r5 =>
 some (!r5)))) (
 (a0C n a1.t b2.t).bind fun r6 =>
 cond (!r6) (
 some true) (
 (a0s n a1.ts b2.ts).bind fun r7 =>
 some (!r7))))))) fun b5O =>
 cond b5O (
 some (false)) (
 (Φ.a3v a1.l b2.l at3).bind fun r8 =>
 some (r8))
def a6d (a1:Nod) (b2:Nod) (at3:Bool):Bool -> Out
 | b4d=>.ret (.bool b4d) []
def a1V (n:Nat) (Φ:M0) (a1:List Nod) (at3:Bool) (b2:List Nod):Nat -> Int -> Option (Lr (Unit) (Bool))
  | 0,_=>none
  | m4 + 1,b09 =>
      cond (ltB b09 (List.length a1:Int)) (
      (idx' a1 b09).bind fun x4 =>
      (idx' b2 b09).bind fun x5 =>
      (Φ.a1c x4 x5 at3).bind fun r6 =>
      cond (!r6) (
      some (.out (false))) (
      a1V n Φ a1 at3 b2 m4 (w64 (b09 + 1)))) (
      some (.brk ()))
def a3T (n:Nat) (Φ:M0) (a1:List Nod) (b2:List Nod) (at3:Bool):Option (Bool) :=
 cond (!eqB (List.length a1:Int) (List.length b2:Int)) (
 some (false)) (
 V8 (α:=Unit) (
 a1V n Φ a1 at3 b2 n 0) fun _ =>
 some (true))
def a5n (a1:List Nod) (b2:List Nod) (at3:Bool):Bool -> Out
 | Y4=>.ret (.bool Y4) []
def M0.fs:Nat -> M0
 | 0=>⟨fun _ _ _=>none,fun _ _ _=>none⟩
 | n + 1=>⟨a4p n (M0.fs n),a3T n (M0.fs n)⟩
def a1c (n:Nat) (a1:Nod) (b2:Nod) (at3:Bool):Option (Bool):=(M0.fs n).a1c a1 b2 at3
def a3v (n:Nat) (a1:List Nod) (b2:List Nod) (at3:Bool):Option (Bool):=(M0.fs n).a3v a1 b2 at3
structure Y6 where
 a2N:Nod -> Option (Int × Int)
def a2M (n:Nat) (Φ:Y6) (n1:Nod):Nat -> Int -> Int -> Int -> Option (Int × Int)
  | 0,_,_,_=>none
  | m3 + 1,a5D,b4C,b09 =>
      cond (ltB b09 (List.length n1.l:Int)) (
      (idx' n1.l b09).bind fun x2 =>
      (Φ.a2N x2).bind fun (r3,r4) =>
      a2M n Φ n1 m3 (w64 (a5D + r3)) (max b4C r4) (w64 (b09 + 1))) (
      some (a5D,b4C))
def a5M (n:Nat) (Φ:Y6) (n1:Nod):Option (Int × Int) :=
 Option.bind (α:=Int × Int) (
 a2M n Φ n1 n 1 0 0) fun (b0T,c0C) =>
 some ((b0T,(w64 (c0C + 1))))
def a7n (n1:Nod):Int × Int -> Out
 | (b3h,b0z)=>.ret (.tuple [.i b3h,.i b0z]) []
def Y6.fs:Nat -> Y6
 | 0=>⟨fun _=>none⟩
 | n + 1=>⟨a5M n (Y6.fs n)⟩
def a2N (n:Nat) (n1:Nod):Option (Int × Int):=(Y6.fs n).a2N n1
def J3 (l1:List Tok) (p9:Int) (at3:Int) (j6:Int):Option (Int) :=
 cond (ltB at3 (List.length l1:Int)) (
 (idx' l1 at3).bind fun x5 =>
 some (x5.at_)) (
 some (p9))
def a8B (l1:List Tok) (p9:Int) (at3:Int) (j6:Int):Int -> Out
 | Y4=>.ret (.i Y4) (hR q9 l1 p9 at3 j6)
def G9 (a2h:Int) (a9h:Str) (l3:List Tok) (b3c:Int) (at5:Int) (a5K:Int):Option (Bool) :=
 cond (ltB at5 (List.length l3:Int)) (
 (idx' l3 at5).bind fun x7 =>
 cond (eqB x7.kind a2h) (
 (idx' l3 at5).bind fun x8 =>
 some ((eqS x8.text a9h))) (
 some (false))) (
 some (false))
def b0v (a2h:Int) (a9h:Str) (l3:List Tok) (b3c:Int) (at5:Int) (a5K:Int):Bool -> Out
 | Y4=>.ret (.bool Y4) (hR q9 l3 b3c at5 a5K)
def a2i (a2h:Int) (a9h:Str) (l3:List Tok) (b3c:Int) (at5:Int) (a5K:Int):Option (Bool × Int) :=
 (G9 a2h a9h l3 b3c at5 a5K).bind fun r7 =>
 cond r7 (
 some ((true,(w64 (at5 + 1))))) (
 some ((false,at5)))
def b0y (a2h:Int) (a9h:Str) (l3:List Tok) (b3c:Int) (at5:Int) (a5K:Int):Bool × Int -> Out
 | (Y4,a2H)=>.ret (.bool Y4) (hR q9 l3 b3c a2H a5K)
def o9 (s1:Str) (l2:List Tok) (L6:Int) (at4:Int) (G7:Int):Option (Bool × Int) :=
 (a2i 8 s1 l2 L6 at4 G7).bind fun (r6,at7) =>
 some ((r6,at7))
def b0j (s1:Str) (l2:List Tok) (L6:Int) (at4:Int) (G7:Int):Bool × Int -> Out
 | (Y4,a2H)=>.ret (.bool Y4) (hR q9 l2 L6 a2H G7)
def a5A:Option (Unit) :=
 some (())
def b3v:Unit -> Out
 | _=>.ret (.slice .sealed (List.length ([[[124,124]],[[38,38]],[[61,61],[33,61],[60],[60,61],[62],[62,61]],[[43],[45]],[[42],[47],[37]]]:List (List Str))) ((clSl clS) ([[[124,124]],[[38,38]],[[61,61],[33,61],[60],[60,61],[62],[62,61]],[[43],[45]],[[42],[47],[37]]]:List (List Str)))) []
def U2 (a2h:Int) (l2:List Tok) (L6:Int) (at4:Int) (G7:Int):Option (Bool) :=
 cond (ltB at4 (List.length l2:Int)) (
 (idx' l2 at4).bind fun x6 =>
 some ((eqB x6.kind a2h))) (
 some (false))
def a9k (a2h:Int) (l2:List Tok) (L6:Int) (at4:Int) (G7:Int):Bool -> Out
 | Y4=>.ret (.bool Y4) (hR q9 l2 L6 at4 G7)
def D8 (a2h:Int) (l2:List Tok) (L6:Int) (at4:Int) (G7:Int):Option (Str × Bool × Int) :=
 (U2 a2h l2 L6 at4 G7).bind fun r6 =>
 cond r6 (
 (idx' l2 at4).bind fun x7 =>
 some ((x7.text,true,(w64 (at4 + 1))))) (
 some (([],false,at4)))
def b0s (a2h:Int) (l2:List Tok) (L6:Int) (at4:Int) (G7:Int):Str × Bool × Int -> Out
 | (Y4,r502,a5i)=>.ret (.tuple [.str Y4,.bool r502]) (hR q9 l2 L6 a5i G7)
def V7 (n:Nat) (p9:Int) (l1:List Tok) (j6:Int) (r5:Int):Nat -> Bool -> Int -> Int -> Str -> (List Nod) -> Option (Bool × Int × Int × Str × List Nod)
  | 0,_,_,_,_,_=>none
  | m4 + 1,ok503,a8f,op505,s506,l507 =>
      Option.bind (α:=Bool × Int) (
      cond ok503 (
      (o9 [46] l1 p9 a8f j6).bind fun (r9,at10) =>
      some (r9,at10)) (
      some (false,a8f))) fun (x517,a3S) =>
      cond x517 (
      (D8 1 l1 p9 a3S j6).bind fun (r11,r12,at13) =>
      V7 n p9 l1 j6 r5 m4 r12 at13 55 r11 ([(⟨op505,s506,0,(⟨0,[],0,[]⟩:Typ),[],l507,r5⟩:Nod)]:List Nod)) (
      some (ok503,a3S,op505,s506,l507))
def a1C (n:Nat) (l1:List Tok) (p9:Int) (at3:Int) (j6:Int):Option (Nod × Bool × Int) :=
 (J3 l1 p9 at3 j6).bind fun r5 =>
 (D8 1 l1 p9 at3 j6).bind fun (r6,r7,at8) =>
 Option.bind (α:=Bool × Int × Int × Str × List Nod) (
 V7 n p9 l1 j6 r5 n r7 at8 54 r6 ([]:List Nod)) fun (ok524,b4c,op526,s527,l528) =>
 some (((⟨op526,s527,0,(⟨0,[],0,[]⟩:Typ),[],l528,r5⟩:Nod),ok524,b4c))
def b0r (l1:List Tok) (p9:Int) (at3:Int) (j6:Int):Nod × Bool × Int -> Out
 | (r509,a2a,a5c)=>.ret (.tuple [.agg (c0 r509.op r509.s r509.n r509.t.kind r509.t.name r509.t.n (.sl l6 r509.t.args) (.sl l6 r509.ts) (.sl A9 r509.l) r509.at_),.bool a2a]) (hR q9 l1 p9 a5c j6)
def a1L (n:Nat) (s1:Str):Nat -> Int -> Int -> Option (Int)
  | 0,_,_=>none
  | m3 + 1,n501,i502 =>
      cond (ltB i502 (List.length s1:Int)) (
      (idxS s1 i502).bind fun b2 =>
      a1L n s1 m3 (w64 ((w64 (n501 * 10)) + (w64 (IntKind.wrap .u8 (b2 - 48))))) (w64 (i502 + 1))) (
      some n501)
def a1F (n:Nat) (s1:Str):Option (Int) :=
 Option.bind (α:=Int) (
 a1L n s1 n 0 0) fun b3m =>
 some (b3m)
def b3l (s1:Str):Int -> Out
 | b0S=>.ret (.i b0S) []
def E9 (s1:Str) (l2:List Tok) (L6:Int) (at4:Int) (G7:Int):Option (Bool × Int) :=
 (a2i 9 s1 l2 L6 at4 G7).bind fun (r6,at7) =>
 some ((r6,at7))
def b0E (s1:Str) (l2:List Tok) (L6:Int) (at4:Int) (G7:Int):Bool × Int -> Out
 | (Y4,a2H)=>.ret (.bool Y4) (hR q9 l2 L6 a2H G7)
structure A7 where
 K6:(List Tok) -> Int -> Int -> Int -> Option (Typ × Bool × Int)
 X3:(List Tok) -> Int -> Int -> Int -> Option (List Typ × Bool × Int)
 U5:(List Tok) -> Int -> Int -> Int -> Option (Typ × Bool × Int)
def R8 (n:Nat) (Φ:A7) (p9:Int) (l1:List Tok) (j6:Int):Nat -> Bool -> Int -> Typ -> Option (Bool × Int × Typ)
  | 0,_,_,_=>none
  | m18 + 1,ok558,at559,n560 =>
      Option.bind (α:=Bool × Int) (
      cond ok558 (
      (o9 [46] l1 p9 at559 j6).bind fun (r28,at29) =>
      some (r28,at29)) (
      some (false,at559))) fun (x572,at573) =>
      cond x572 (
      (D8 2 l1 p9 at573 j6).bind fun (r30,r31,at32) =>
      R8 n Φ p9 l1 j6 m18 r31 at32 (⟨8,r30,0,[n560]⟩:Typ)) (
      some (ok558,at573,n560))
def a2S (n:Nat) (Φ:A7) (l1:List Tok) (p9:Int) (at3:Int) (j6:Int):Option (Typ × Bool × Int) :=
 (E9 [97,110,121] l1 p9 at3 j6).bind fun (r5,at6) =>
 cond r5 (
 (D8 2 l1 p9 at6 j6).bind fun (r7,r8,at9) =>
 some (((⟨9,r7,0,[]⟩:Typ),r8,at9))) (
 (o9 [40] l1 p9 at6 j6).bind fun (r10,at11) =>
 cond r10 (
 V8 (α:=Int × List Typ) (
 (o9 [41] l1 p9 at11 j6).bind fun (r12,at13) =>
 cond (!r12) (
 (Φ.X3 l1 p9 at13 j6).bind fun (r14,r15,at16) =>
 Option.bind (α:=Bool × Int) (
 cond (!r15) (
 some (true,at16)) (
 (o9 [41] l1 p9 at16 j6).bind fun (r17,at18) =>
 some ((!r17),at18))) fun (x510,a5c) =>
 cond x510 (
 some (.out (((⟨10,[],0,[]⟩:Typ),false,a5c)))) (
 some (.brk (a5c,r14)))) (
 some (.brk (at13,([]:List Typ))))) fun (b3g,b7o) =>
 (o9 [45,62] l1 p9 b3g j6).bind fun (r19,at20) =>
 cond (!r19) (
 some (((⟨10,[],0,b7o⟩:Typ),false,at20))) (
 (Φ.K6 l1 p9 at20 j6).bind fun (r21,r22,at23) =>
 (app 56 b7o ([r21]:List Typ)).bind fun l24 =>
 some (((⟨10,[],0,l24⟩:Typ),r22,at23)))) (
 (Φ.U5 l1 p9 at11 j6).bind fun (r25,r26,at27) =>
 Option.bind (α:=Bool × Int × Typ) (
 R8 n Φ p9 l1 j6 n r26 at27 r25) fun (ok577,at578,n579) =>
 some ((n579,ok577,at578))))
def a3i (l1:List Tok) (p9:Int) (at3:Int) (j6:Int):Typ × Bool × Int -> Out
 | (Y4,r502,a5i)=>.ret (.tuple [.agg [.i Y4.kind,.str Y4.name,.i Y4.n,.sl l6 Y4.args],.bool r502]) (hR q9 l1 p9 a5i j6)
def a0b (n:Nat) (Φ:A7) (p9:Int) (l1:List Tok) (j6:Int):Nat -> (List Typ) -> Bool -> Int -> Option (Lr (List Typ × Int) (List Typ × Bool × Int))
  | 0,_,_,_=>none
  | m3 + 1,l501,c04,a5i =>
      cond c04 (
      (Φ.K6 l1 p9 a5i j6).bind fun (r5,r6,at7) =>
      cond (!r6) (
      some (.out ((l501,false,at7)))) (
      (app 56 l501 ([r5]:List Typ)).bind fun l8 =>
      (o9 [44] l1 p9 at7 j6).bind fun (r9,at10) =>
      a0b n Φ p9 l1 j6 m3 l8 r9 at10)) (
      some (.brk (l501,a5i)))
def V6 (n:Nat) (Φ:A7) (l1:List Tok) (p9:Int) (at3:Int) (j6:Int):Option (List Typ × Bool × Int) :=
 V8 (α:=List Typ × Int) (
 a0b n Φ p9 l1 j6 n ([]:List Typ) true at3) fun (l508,a6P) =>
 some ((l508,true,a6P))
def a3L (l1:List Tok) (p9:Int) (at3:Int) (j6:Int):List Typ × Bool × Int -> Out
 | (a2a,a3Z,a5E)=>.ret (.tuple [.st 1 l6 a2a,.bool a3Z]) [(0,.row [.sl q9 l1,.i p9,.i a5E,.i j6]),(1,.tip (tpe 4 (List.length a2a)) (List.length a2a))]
def a0t (n:Nat) (Φ:A7) (l1:List Tok) (p9:Int) (at3:Int) (j6:Int):Option (Typ × Bool × Int) :=
 (D8 2 l1 p9 at3 j6).bind fun (r5,r6,at7) =>
 cond (!r6) (
 some (((⟨0,[],0,[]⟩:Typ),false,at7))) (
 V8 (α:=List Typ × Int) (
 (o9 [60] l1 p9 at7 j6).bind fun (r8,at9) =>
 cond r8 (
 (Φ.X3 l1 p9 at9 j6).bind fun (r10,r11,at12) =>
 Option.bind (α:=Bool × Int) (
 cond (!r11) (
 some (true,at12)) (
 (o9 [62] l1 p9 at12 j6).bind fun (r13,at14) =>
 some ((!r13),at14))) fun (x510,a5c) =>
 cond x510 (
 some (.out (((⟨0,[],0,[]⟩:Typ),false,a5c)))) (
 some (.brk (r10,a5c)))) (
 some (.brk (([]:List Typ),at9)))) fun (a4J,b0i) =>
 Option.bind (α:=Int) (
 Option.bind (α:=Bool) (
 cond (eqB (List.length a4J:Int) 0) (
 some (eqS r5 [73,110,116])) (
 some false)) fun x557 =>
 cond x557 (
 some 1) (
 Option.bind (α:=Bool) (
 cond (eqB (List.length a4J:Int) 0) (
 some (eqS r5 [66,111,111,108])) (
 some false)) fun x558 =>
 cond x558 (
 some 2) (
 Option.bind (α:=Bool) (
 cond (eqB (List.length a4J:Int) 0) (
 some (eqS r5 [84,101,120,116])) (
 some false)) fun x559 =>
 cond x559 (
 some 3) (
 Option.bind (α:=Bool) (
 cond (eqB (List.length a4J:Int) 0) (
 some (eqS r5 [85,110,105,116])) (
 some false)) fun x560 =>
 cond x560 (
 some 4) (
 Option.bind (α:=Bool) (
 cond (eqB (List.length a4J:Int) 1) (
 some (eqS r5 [65,114,114,97,121])) (
 some false)) fun x561 =>
 cond x561 (
 some 5) (
 Option.bind (α:=Bool) (
 cond (eqB (List.length a4J:Int) 1) (
 some (eqS r5 [87,101,97,107])) (
 some false)) fun b5M =>
 cond b5M (
 some 11) (
 some 6))))))) fun b4H =>
 Option.bind (α:=Str) (
 cond (!eqB b4H 6) (
 some []) (
 some r5)) fun s564 =>
 some (((⟨b4H,s564,0,a4J⟩:Typ),true,b0i)))
def a2X (l1:List Tok) (p9:Int) (at3:Int) (j6:Int):Typ × Bool × Int -> Out
 | (r550,r551,at552)=>.ret (.tuple [.agg [.i r550.kind,.str r550.name,.i r550.n,.sl l6 r550.args],.bool r551]) (hR q9 l1 p9 at552 j6)
def A7.fs:Nat -> A7
 | 0=>⟨fun _ _ _ _=>none,fun _ _ _ _=>none,fun _ _ _ _=>none⟩
 | n + 1=>⟨a2S n (A7.fs n),V6 n (A7.fs n),a0t n (A7.fs n)⟩
def K6 (n:Nat) (l1:List Tok) (p9:Int) (at3:Int) (j6:Int):Option (Typ × Bool × Int):=(A7.fs n).K6 l1 p9 at3 j6
def X3 (n:Nat) (l1:List Tok) (p9:Int) (at3:Int) (j6:Int):Option (List Typ × Bool × Int):=(A7.fs n).X3 l1 p9 at3 j6
def U5 (n:Nat) (l1:List Tok) (p9:Int) (at3:Int) (j6:Int):Option (Typ × Bool × Int):=(A7.fs n).U5 l1 p9 at3 j6
def Y8 (n:Nat) (L6:Int) (l2:List Tok) (G7:Int):Nat -> (List Nod) -> Bool -> Int -> Option (Lr (List Nod × Int) (List Nod × Bool × Int))
  | 0,_,_,_=>none
  | m4 + 1,b2t,c0j,b5R =>
      cond c0j (
      (J3 l2 L6 b5R G7).bind fun r8 =>
      Option.bind (α:=Int × Int) (
      (E9 [105,110,111,117,116] l2 L6 b5R G7).bind fun (r9,at10) =>
      cond r9 (
      some (at10,1)) (
      (E9 [99,111,110,115,117,109,101] l2 L6 at10 G7).bind fun (r11,at12) =>
      cond r11 (
      some (at12,2)) (
      some (at12,0)))) fun (a7l,n520) =>
      (D8 1 l2 L6 a7l G7).bind fun (r13,r14,at15) =>
      Option.bind (α:=Bool × Int) (
      cond (!r14) (
      some (true,at15)) (
      (o9 [58] l2 L6 at15 G7).bind fun (r16,at17) =>
      some ((!r16),at17))) fun (x521,a8c) =>
      cond x521 (
      some (.out ((b2t,false,a8c)))) (
      (K6 n l2 L6 a8c G7).bind fun (r18,r19,at20) =>
      cond (!r19) (
      some (.out ((b2t,false,at20)))) (
      (app 144 b2t ([(⟨10,r13,n520,r18,[],[],r8⟩:Nod)]:List Nod)).bind fun l21 =>
      (o9 [44] l2 L6 at20 G7).bind fun (r22,at23) =>
      Y8 n L6 l2 G7 m4 l21 r22 at23))) (
      some (.brk (b2t,b5R)))
def a1H (n:Nat) (l1:List Nod) (l2:List Tok) (L6:Int) (at4:Int) (G7:Int):Option (List Nod × Bool × Int) :=
 (o9 [41] l2 L6 at4 G7).bind fun (r6,at7) =>
 cond r6 (
 some ((l1,true,at7))) (
 V8 (α:=List Nod × Int) (
 Y8 n L6 l2 G7 n l1 true at7) fun (l523,b0B) =>
 (o9 [41] l2 L6 b0B G7).bind fun (r24,at25) =>
 some ((l523,r24,at25)))
def a5f (l1:List Nod) (l2:List Tok) (L6:Int) (at4:Int) (G7:Int):List Nod × Bool × Int -> Out
 | (r525,b4n,at527)=>.ret (.tuple [.st 1 A9 r525,.bool b4n]) [(0,.row [.sl q9 l2,.i L6,.i at527,.i G7]),(1,.tip (tpe 10 (List.length r525)) (List.length r525))]
structure I7 where
 O6:(List Tok) -> Int -> Int -> Int -> Option (Nod × Bool × Int)
def V9 (n:Nat) (Φ:I7) (p9:Int) (l1:List Tok) (j6:Int) (r28:Str) (r5:Int):Nat -> (List Nod) -> Bool -> Int -> Option (Lr (List Nod × Int) (Nod × Bool × Int))
  | 0,_,_,_=>none
  | m37 + 1,l504,c0K,a4K =>
      cond c0K (
      (Φ.O6 l1 p9 a4K j6).bind fun (r33,r34,at35) =>
      cond (!r34) (
      some (.out (((⟨45,r28,0,(⟨0,[],0,[]⟩:Typ),[],[],r5⟩:Nod),false,at35)))) (
      (app 144 l504 ([r33]:List Nod)).bind fun l36 =>
      (o9 [44] l1 p9 at35 j6).bind fun (r37,at38) =>
      V9 n Φ p9 l1 j6 r28 r5 m37 l36 r37 at38)) (
      some (.brk (l504,a4K)))
def a1s (n:Nat) (Φ:I7) (l1:List Tok) (p9:Int) (at3:Int) (j6:Int):Option (Nod × Bool × Int) :=
 (J3 l1 p9 at3 j6).bind fun r5 =>
 (D8 1 l1 p9 at3 j6).bind fun (r6,r7,at8) =>
 cond r7 (
 cond (eqS r6 [95]) (
 some (((⟨40,[],0,(⟨0,[],0,[]⟩:Typ),[],[],r5⟩:Nod),true,at8))) (
 some (((⟨41,r6,0,(⟨0,[],0,[]⟩:Typ),[],[],r5⟩:Nod),true,at8)))) (
 (D8 3 l1 p9 at8 j6).bind fun (r9,r10,at11) =>
 cond r10 (
 (a1F n r9).bind fun r12 =>
 some (((⟨42,[],r12,(⟨0,[],0,[]⟩:Typ),[],[],r5⟩:Nod),true,at11))) (
 (o9 [45] l1 p9 at11 j6).bind fun (r13,at14) =>
 cond r13 (
 (D8 3 l1 p9 at14 j6).bind fun (r15,r16,at17) =>
 (a1F n r15).bind fun r18 =>
 some (((⟨42,[],(w64 (0 - r18)),(⟨0,[],0,[]⟩:Typ),[],[],r5⟩:Nod),r16,at17))) (
 (D8 4 l1 p9 at14 j6).bind fun (r19,r20,at21) =>
 cond r20 (
 some (((⟨44,r19,0,(⟨0,[],0,[]⟩:Typ),[],[],r5⟩:Nod),true,at21))) (
 (E9 [116,114,117,101] l1 p9 at21 j6).bind fun (r22,at23) =>
 cond r22 (
 some (((⟨43,[],1,(⟨0,[],0,[]⟩:Typ),[],[],r5⟩:Nod),true,at23))) (
 (E9 [102,97,108,115,101] l1 p9 at23 j6).bind fun (r24,at25) =>
 cond r24 (
 some (((⟨43,[],0,(⟨0,[],0,[]⟩:Typ),[],[],r5⟩:Nod),true,at25))) (
 (o9 [46] l1 p9 at25 j6).bind fun (r26,at27) =>
 cond (!r26) (
 some (((⟨0,[],0,(⟨0,[],0,[]⟩:Typ),[],[],r5⟩:Nod),false,at27))) (
 (D8 1 l1 p9 at27 j6).bind fun (r28,r29,at30) =>
 cond (!r29) (
 some (((⟨0,[],0,(⟨0,[],0,[]⟩:Typ),[],[],r5⟩:Nod),false,at30))) (
 (o9 [40] l1 p9 at30 j6).bind fun (r31,at32) =>
 cond (!r31) (
 some (((⟨45,r28,0,(⟨0,[],0,[]⟩:Typ),[],[],r5⟩:Nod),true,at32))) (
 V8 (α:=List Nod × Int) (
 V9 n Φ p9 l1 j6 r28 r5 n ([]:List Nod) true at32) fun (l513,b2N) =>
 (o9 [41] l1 p9 b2N j6).bind fun (r39,at40) =>
 some (((⟨45,r28,0,(⟨0,[],0,[]⟩:Typ),[],l513,r5⟩:Nod),r39,at40)))))))))))
def a11 (l1:List Tok) (p9:Int) (at3:Int) (j6:Int):Nod × Bool × Int -> Out
 | (Y4,r502,a5i)=>.ret (.tuple [.agg (c0 Y4.op Y4.s Y4.n Y4.t.kind Y4.t.name Y4.t.n (.sl l6 Y4.t.args) (.sl l6 Y4.ts) (.sl A9 Y4.l) Y4.at_),.bool r502]) (hR q9 l1 p9 a5i j6)
def I7.fs:Nat -> I7
 | 0=>⟨fun _ _ _ _=>none⟩
 | n + 1=>⟨a1s n (I7.fs n)⟩
def O6 (n:Nat) (l1:List Tok) (p9:Int) (at3:Int) (j6:Int):Option (Nod × Bool × Int):=(I7.fs n).O6 l1 p9 at3 j6
def a1v (n:Nat):Nat -> Nod -> Option (Nod)
  | 0,_=>none
  | m1 + 1,n502 =>
      Option.bind (α:=Bool) (
      cond (eqB n502.op 55) (
      some (eqB (List.length n502.l:Int) 1)) (
      some false)) fun x504 =>
      cond x504 (
      (idx' n502.l 0).bind fun x2 =>
      a1v n m1 x2) (
      some n502)
def a6p (n:Nat) (n1:Nod):Option (Bool) :=
 Option.bind (α:=Nod) (
 a1v n n n1) fun n505 =>
 some ((eqB n505.op 54))
def b4t (n1:Nod):Bool -> Out
 | a7F=>.ret (.bool a7F) []
structure d9 where
 E5:(List Tok) -> Int -> Int -> Int -> Option (Nod × Bool × Int × Int)
 J7:Int -> (List Tok) -> Int -> Int -> Int -> Option (Nod × Bool × Int × Int)
 M8:(List Tok) -> Int -> Int -> Int -> Option (Nod × Bool × Int × Int)
 a0P:(List Tok) -> Int -> Int -> Int -> Option (Nod × Bool × Int × Int)
 a06:(List Tok) -> Int -> Int -> Int -> Option (Nod × Bool × Int × Int)
 L9:(List Nod) -> (List Tok) -> Int -> Int -> Int -> Option (List Nod × Bool × Int × Int × List Nod)
 Y1:(List Tok) -> Int -> Int -> Int -> Option (Nod × Bool × Int × Int)
 a0T:(List Tok) -> Int -> Int -> Int -> Option (Nod × Bool × Int × Int)
 S9:(List Tok) -> Int -> Int -> Int -> Option (List Nod × Bool × Int × Int)
 R5:(List Tok) -> Int -> Int -> Int -> Option (Nod × Bool × Int × Int)
 J4:(List Tok) -> Int -> Int -> Int -> Option (Nod × Bool × Int × Int)
 a1f:(List Tok) -> Int -> Int -> Int -> Option (Nod × Bool × Int × Int)
 Q8:(List Tok) -> Int -> Int -> Int -> Option (Nod × Bool × Int × Int)
 a1g:Int -> (List Tok) -> Int -> Int -> Int -> Option (List Nod × Bool × Int × Int)
 a05:(List Tok) -> Int -> Int -> Int -> Option (Nod × Bool × Int × Int)
 a1G:(List Tok) -> Int -> Int -> Int -> Option (Nod × Bool × Int × Int)
def a2p (n:Nat) (Φ:d9) (l1:List Tok) (p9:Int) (at3:Int) (j6:Int):Option (Nod × Bool × Int × Int) :=
 (Φ.J7 0 l1 p9 at3 j6).bind fun (r5,r6,at7,a3r) =>
 some ((r5,r6,at7,a3r))
def a4c (l1:List Tok) (p9:Int) (at3:Int) (j6:Int):Nod × Bool × Int × Int -> Out
 | (a2a,a3Z,a5E,b0U)=>.ret (.tuple [.agg (c0 a2a.op a2a.s a2a.n a2a.t.kind a2a.t.name a2a.t.n (.sl l6 a2a.t.args) (.sl l6 a2a.ts) (.sl A9 a2a.l) a2a.at_),.bool a3Z]) (hR q9 l1 p9 a5E b0U)
def Z5 (n:Nat) (Φ:d9) (L6:Int) (k1:Int) (l2:List Tok):Nat -> Int -> Str -> Int -> Int -> Int -> Nod -> Option (Int × Str × Int × Int × Nod)
  | 0,_,_,_,_,_,_=>none
  | m10 + 1,n617,op618,i619,b6P,a8M,n622 =>
      (idx' ([[[124,124]],[[38,38]],[[61,61],[33,61],[60],[60,61],[62],[62,61]],[[43],[45]],[[42],[47],[37]]]:List (List Str)) k1).bind fun x14 =>
      cond (ltB i619 (List.length x14:Int)) (
      Option.bind (α:=Str) (
      (idx' ([[[124,124]],[[38,38]],[[61,61],[33,61],[60],[60,61],[62],[62,61]],[[43],[45]],[[42],[47],[37]]]:List (List Str)) k1).bind fun x15 =>
      (idx' x15 i619).bind fun x16 =>
      (G9 8 x16 l2 L6 b6P a8M).bind fun r17 =>
      cond r17 (
      (idx' ([[[124,124]],[[38,38]],[[61,61],[33,61],[60],[60,61],[62],[62,61]],[[43],[45]],[[42],[47],[37]]]:List (List Str)) k1).bind fun x18 =>
      (idx' x18 i619).bind fun x19 =>
      some x19) (
      some op618)) fun op623 =>
      Z5 n Φ L6 k1 l2 m10 n617 op623 (w64 (i619 + 1)) b6P a8M n622) (
      some (n617,op618,b6P,a8M,n622))
def N7 (n:Nat) (Φ:d9) (L6:Int) (k1:Int) (l2:List Tok):Nat -> Bool -> Int -> Int -> Int -> Nod -> Option (Lr (Bool × Int × Int × Nod) (Nod × Bool × Int × Int))
  | 0,_,_,_,_,_=>none
  | m6 + 1,b8t,n603,b7g,a9j,n606 =>
      Option.bind (α:=Bool) (
      cond b8t (
      cond (!eqB k1 2) (
      some true) (
      some (eqB n603 0))) (
      some false)) fun x616 =>
      cond x616 (
      a5h (α:=Bool × Int × Int × Int × Str × List Nod × Int) (
      Option.bind (α:=Int × Str × Int × Int × Nod) (
      Z5 n Φ L6 k1 l2 n n603 [] 0 b7g a9j n606) fun (n630,op631,at632,b2R,n634) =>
      cond (eqS op631 []) (
      some (.out ((n634,true,at632,b2R)))) (
      (o9 op631 l2 L6 at632 b2R).bind fun (r20,at21) =>
      (Φ.J7 (w64 (k1 + 1)) l2 L6 at21 b2R).bind fun (r22,r23,at24,c0W) =>
      some (.brk (r23,n630,at24,c0W,op631,([n634,r22]:List Nod),n634.at_)))) fun (ok635,n636,at637,b9j,s639,l640,at641) =>
      N7 n Φ L6 k1 l2 m6 ok635 (w64 (n636 + 1)) at637 b9j (⟨64,s639,0,(⟨0,[],0,[]⟩:Typ),[],l640,at641⟩:Nod)) (
      some (.brk (b8t,b7g,a9j,n606)))
def a0R (n:Nat) (Φ:d9) (k1:Int) (l2:List Tok) (L6:Int) (at4:Int) (G7:Int):Option (Nod × Bool × Int × Int) :=
 (a5A).bind fun _ =>
 cond (eqB k1 (List.length ([[[124,124]],[[38,38]],[[61,61],[33,61],[60],[60,61],[62],[62,61]],[[43],[45]],[[42],[47],[37]]]:List (List Str)):Int)) (
 (Φ.M8 l2 L6 at4 G7).bind fun (r6,r7,at8,b0c) =>
 some ((r6,r7,at8,b0c))) (
 (Φ.J7 (w64 (k1 + 1)) l2 L6 at4 G7).bind fun (r10,r11,at12,a4R) =>
 V8 (α:=Bool × Int × Int × Nod) (
 N7 n Φ L6 k1 l2 n r11 0 at12 a4R r10) fun (b33,b36,a6A,n650) =>
 some ((n650,b33,b36,a6A)))
def a2C (k1:Int) (l2:List Tok) (L6:Int) (at4:Int) (G7:Int):Nod × Bool × Int × Int -> Out
 | (a6x,r535,b54,b41)=>.ret (.tuple [.agg (c0 a6x.op a6x.s a6x.n a6x.t.kind a6x.t.name a6x.t.n (.sl l6 a6x.t.args) (.sl l6 a6x.ts) (.sl A9 a6x.l) a6x.at_),.bool r535]) (hR q9 l2 L6 b54 b41)
def a2c (n:Nat) (Φ:d9) (l1:List Tok) (p9:Int) (at3:Int) (j6:Int):Option (Nod × Bool × Int × Int) :=
 (J3 l1 p9 at3 j6).bind fun r5 =>
 (o9 [45] l1 p9 at3 j6).bind fun (r6,at7) =>
 cond r6 (
 (Φ.M8 l1 p9 at7 j6).bind fun (r8,r9,at10,a2y) =>
 some (((⟨66,[],0,(⟨0,[],0,[]⟩:Typ),[],[r8],r5⟩:Nod),r9,at10,a2y))) (
 (o9 [33] l1 p9 at7 j6).bind fun (r12,at13) =>
 cond r12 (
 (Φ.M8 l1 p9 at13 j6).bind fun (r14,r15,at16,b2W) =>
 some (((⟨65,[],0,(⟨0,[],0,[]⟩:Typ),[],[r14],r5⟩:Nod),r15,at16,b2W))) (
 (Φ.a0P l1 p9 at13 j6).bind fun (r18,r19,at20,c0Q) =>
 some ((r18,r19,at20,c0Q))))
def a5G (l1:List Tok) (p9:Int) (at3:Int) (j6:Int):Nod × Bool × Int × Int -> Out
 | (a2a,a3Z,a5E,b0U)=>.ret (.tuple [.agg (c0 a2a.op a2a.s a2a.n a2a.t.kind a2a.t.name a2a.t.n (.sl l6 a2a.t.args) (.sl l6 a2a.ts) (.sl A9 a2a.l) a2a.at_),.bool a3Z]) (hR q9 l1 p9 a5E b0U)
def P8 (n:Nat) (Φ:d9) (p9:Int) (l1:List Tok):Nat -> Bool -> Int -> Int -> Nod -> Option (Lr (Bool × Int × Int × Nod) (Nod × Bool × Int × Int))
  | 0,_,_,_,_=>none
  | m2 + 1,b8k,b6G,a3Q,b0t =>
      cond b8k (
      (o9 [46] l1 p9 b6G a3Q).bind fun (r9,at10) =>
      cond r9 (
      (D8 1 l1 p9 at10 a3Q).bind fun (r11,r12,at13) =>
      cond (!r12) (
      some (.out ((b0t,false,at13,a3Q)))) (
      (G9 8 [40] l1 p9 at13 a3Q).bind fun r14 =>
      cond r14 (
      (Φ.L9 ([b0t]:List Nod) l1 p9 at13 a3Q).bind fun (r15,r16,at17,a9Z,gone19) =>
      P8 n Φ p9 l1 m2 r16 at17 a9Z (⟨57,r11,0,(⟨0,[],0,[]⟩:Typ),[],r15,b0t.at_⟩:Nod)) (
      P8 n Φ p9 l1 m2 b8k at13 a3Q (⟨55,r11,0,(⟨0,[],0,[]⟩:Typ),[],[b0t],b0t.at_⟩:Nod)))) (
      (G9 8 [40] l1 p9 at10 a3Q).bind fun r20 =>
      cond r20 (
      (Φ.L9 ([b0t]:List Nod) l1 p9 at10 a3Q).bind fun (r21,r22,at23,c0D,gone25) =>
      P8 n Φ p9 l1 m2 r22 at23 c0D (⟨60,[],0,(⟨0,[],0,[]⟩:Typ),[],r21,b0t.at_⟩:Nod)) (
      some (.out ((b0t,true,at10,a3Q)))))) (
      some (.brk (b8k,b6G,a3Q,b0t)))
def a1D (n:Nat) (Φ:d9) (l1:List Tok) (p9:Int) (at3:Int) (j6:Int):Option (Nod × Bool × Int × Int) :=
 (Φ.a06 l1 p9 at3 j6).bind fun (r5,r6,at7,a3r) =>
 V8 (α:=Bool × Int × Int × Nod) (
 P8 n Φ p9 l1 n r6 at7 a3r r5) fun (b5Y,b4a,a5u,n555) =>
 some ((n555,b5Y,b4a,a5u))
def a3u (l1:List Tok) (p9:Int) (at3:Int) (j6:Int):Nod × Bool × Int × Int -> Out
 | (b0z,r514,at515,place516)=>.ret (.tuple [.agg (c0 b0z.op b0z.s b0z.n b0z.t.kind b0z.t.name b0z.t.n (.sl l6 b0z.t.args) (.sl l6 b0z.ts) (.sl A9 b0z.l) b0z.at_),.bool r514]) (hR q9 l1 p9 at515 place516)
def Z9 (n:Nat) (Φ:d9) (p9:Int) (l1:List Tok) (r5:Int):Nat -> Bool -> Int -> Int -> (List Nod) -> Option (Lr (Int × Int × List Nod) (Nod × Bool × Int × Int))
  | 0,_,_,_,_=>none
  | m35 + 1,c0I,at542,b4T,l544 =>
      cond c0I (
      (Φ.E5 l1 p9 at542 b4T).bind fun (r40,r41,at42,b4x) =>
      cond (!r41) (
      some (.out (((⟨67,[],0,(⟨0,[],0,[]⟩:Typ),[],l544,r5⟩:Nod),false,at42,b4x)))) (
      (app 144 l544 ([r40]:List Nod)).bind fun l44 =>
      (o9 [44] l1 p9 at42 b4x).bind fun (r45,at46) =>
      Z9 n Φ p9 l1 r5 m35 r45 at46 b4x l44)) (
      some (.brk (at542,b4T,l544)))
def a01 (n:Nat) (Φ:d9) (l1:List Tok) (p9:Int) (at3:Int) (j6:Int):Option (Nod × Bool × Int × Int) :=
 (J3 l1 p9 at3 j6).bind fun r5 =>
 (D8 3 l1 p9 at3 j6).bind fun (r6,r7,at8) =>
 cond r7 (
 (a1F n r6).bind fun r9 =>
 some (((⟨50,[],r9,(⟨0,[],0,[]⟩:Typ),[],[],r5⟩:Nod),true,at8,j6))) (
 (D8 4 l1 p9 at8 j6).bind fun (r10,r11,at12) =>
 cond r11 (
 some (((⟨52,r10,0,(⟨0,[],0,[]⟩:Typ),[],[],r5⟩:Nod),true,at12,j6))) (
 (U2 5 l1 p9 at12 j6).bind fun r13 =>
 cond r13 (
 (Φ.Y1 l1 p9 at12 j6).bind fun (r14,r15,at16,b2W) =>
 some ((r14,r15,at16,b2W))) (
 (E9 [116,114,117,101] l1 p9 at12 j6).bind fun (r18,at19) =>
 cond r18 (
 some (((⟨51,[],1,(⟨0,[],0,[]⟩:Typ),[],[],r5⟩:Nod),true,at19,j6))) (
 (E9 [102,97,108,115,101] l1 p9 at19 j6).bind fun (r20,at21) =>
 cond r20 (
 some (((⟨51,[],0,(⟨0,[],0,[]⟩:Typ),[],[],r5⟩:Nod),true,at21,j6))) (
 (D8 1 l1 p9 at21 j6).bind fun (r22,r23,at24) =>
 cond r23 (
 (G9 8 [40] l1 p9 at24 j6).bind fun r25 =>
 cond r25 (
 (Φ.L9 ([]:List Nod) l1 p9 at24 j6).bind fun (r26,r27,at28,b4I,gone30) =>
 some (((⟨56,r22,0,(⟨0,[],0,[]⟩:Typ),[],r26,r5⟩:Nod),r27,at28,b4I))) (
 some (((⟨54,r22,0,(⟨0,[],0,[]⟩:Typ),[],[],r5⟩:Nod),true,at24,j6)))) (
 (E9 [99,111,110,115,117,109,101] l1 p9 at24 j6).bind fun (r31,at32) =>
 cond r31 (
 (D8 1 l1 p9 at32 j6).bind fun (r33,r34,at35) =>
 some (((⟨61,r33,0,(⟨0,[],0,[]⟩:Typ),[],[],r5⟩:Nod),r34,at35,j6))) (
 V8 (α:=Int) (
 (o9 [91] l1 p9 at32 j6).bind fun (r36,at37) =>
 cond r36 (
 (o9 [93] l1 p9 at37 j6).bind fun (r38,at39) =>
 cond r38 (
 some (.out (((⟨67,[],0,(⟨0,[],0,[]⟩:Typ),[],[],r5⟩:Nod),true,at39,j6)))) (
 a5h (α:=Int × Int × List Nod) (
 Z9 n Φ p9 l1 r5 n true at39 j6 ([]:List Nod)) fun (at560,b5N,l562) =>
 (o9 [93] l1 p9 at560 b5N).bind fun (r47,at48) =>
 some (.out (((⟨67,[],0,(⟨0,[],0,[]⟩:Typ),[],l562,r5⟩:Nod),r47,at48,b5N))))) (
 some (.brk at37))) fun a7y =>
 (o9 [40] l1 p9 a7y j6).bind fun (r49,at50) =>
 cond r49 (
 (Φ.E5 l1 p9 at50 j6).bind fun (r51,r52,at53,b4w) =>
 cond r52 (
 (o9 [41] l1 p9 at53 b4w).bind fun (r55,at56) =>
 some ((r51,r55,at56,b4w))) (
 some ((r51,false,at53,b4w)))) (
 (G9 8 [123] l1 p9 at50 j6).bind fun r57 =>
 cond r57 (
 (Φ.a0T l1 p9 at50 j6).bind fun (r58,r59,at60,c0h) =>
 some ((r58,r59,at60,c0h))) (
 (Φ.a1G l1 p9 at50 j6).bind fun (r62,r63,at64,b2T) =>
 some ((r62,r63,at64,b2T)))))))))))
def a2W (l1:List Tok) (p9:Int) (at3:Int) (j6:Int):Nod × Bool × Int × Int -> Out
 | (a6x,r535,b54,b41)=>.ret (.tuple [.agg (c0 a6x.op a6x.s a6x.n a6x.t.kind a6x.t.name a6x.t.n (.sl l6 a6x.t.args) (.sl l6 a6x.ts) (.sl A9 a6x.l) a6x.at_),.bool r535]) (hR q9 l1 p9 b54 b41)
def a0o (n:Nat) (Φ:d9) (L6:Int) (l2:List Tok):Nat -> (List Nod) -> Bool -> Int -> Int -> Option (Lr (List Nod × Int × Int) (List Nod × Bool × Int × Int × List Nod))
  | 0,_,_,_,_=>none
  | m6 + 1,l537,c0p,b5t,a4n =>
      cond c0p (
      (J3 l2 L6 b5t a4n).bind fun r10 =>
      Option.bind (α:=Bool × Int × Int × Nod) (
      (o9 [38] l2 L6 b5t a4n).bind fun (r11,at12) =>
      cond r11 (
      (a1C n l2 L6 at12 a4n).bind fun (r13,r14,at15) =>
      some (r14,at15,a4n,(⟨62,[],0,(⟨0,[],0,[]⟩:Typ),[],[r13],r10⟩:Nod))) (
      (Φ.E5 l2 L6 at12 a4n).bind fun (r16,r17,at18,b1d) =>
      some (r17,at18,b1d,r16))) fun (b5Y,b4a,a5u,n555) =>
      cond (!b5Y) (
      some (.out ((l537,false,b4a,a5u,l537)))) (
      (app 144 l537 ([n555]:List Nod)).bind fun l20 =>
      (o9 [44] l2 L6 b4a a5u).bind fun (r21,at22) =>
      a0o n Φ L6 l2 m6 l20 r21 at22 a5u)) (
      some (.brk (l537,b5t,a4n)))
def a2u (n:Nat) (Φ:d9) (l1:List Nod) (l2:List Tok) (L6:Int) (at4:Int) (G7:Int):Option (List Nod × Bool × Int × Int × List Nod) :=
 (o9 [40] l2 L6 at4 G7).bind fun (r6,at7) =>
 cond (!r6) (
 some ((l1,false,at7,G7,l1))) (
 (o9 [41] l2 L6 at7 G7).bind fun (r8,at9) =>
 cond r8 (
 some ((l1,true,at9,G7,l1))) (
 V8 (α:=List Nod × Int × Int) (
 a0o n Φ L6 l2 n l1 true at9 G7) fun (l560,at561,b5E) =>
 (o9 [41] l2 L6 at561 b5E).bind fun (r23,at24) =>
 some ((l560,r23,at24,b5E,l560))))
def a4e (l1:List Nod) (l2:List Tok) (L6:Int) (at4:Int) (G7:Int):List Nod × Bool × Int × Int × List Nod -> Out
 | (r543,r544,at545,b0A,c09)=>.ret (.tuple [.sl A9 r543,.bool r544]) [(0,.row [.sl q9 l2,.i L6,.i at545,.i b0A]),(1,.tip (tpe 10 (List.length c09)) (List.length c09))]
def U7 (n:Nat) (Φ:d9) (p9:Int) (l1:List Tok) (r5:Int):Nat -> Int -> Int -> (List Nod) -> Option (Nod × Bool × Int × Int)
  | 0,_,_,_=>none
  | m2 + 1,at521,b5u,l523 =>
      (idx' l1 at521).bind fun x6 =>
      (app 144 l523 ([(⟨52,x6.text,0,(⟨0,[],0,[]⟩:Typ),[],[],x6.at_⟩:Nod)]:List Nod)).bind fun l7 =>
      cond (eqB x6.kind 7) (
      some (((⟨53,[],0,(⟨0,[],0,[]⟩:Typ),[],l7,r5⟩:Nod),true,(w64 (at521 + 1)),b5u))) (
      (Φ.E5 l1 p9 (w64 (at521 + 1)) b5u).bind fun (r8,r9,at10,a2y) =>
      Option.bind (α:=Bool) (
      cond (!r9) (
      some true) (
      (U2 6 l1 p9 at10 a2y).bind fun r12 =>
      cond (!r12) (
      (U2 7 l1 p9 at10 a2y).bind fun r13 =>
      some (!r13)) (
      some false))) fun x520 =>
      cond x520 (
      some (((⟨53,[],0,(⟨0,[],0,[]⟩:Typ),[],l7,r5⟩:Nod),false,at10,a2y))) (
      (app 144 l7 ([r8]:List Nod)).bind fun l14 =>
      U7 n Φ p9 l1 r5 m2 at10 a2y l14))
def a0D (n:Nat) (Φ:d9) (l1:List Tok) (p9:Int) (at3:Int) (j6:Int):Option (Nod × Bool × Int × Int) :=
 (J3 l1 p9 at3 j6).bind fun r5 =>
 U7 n Φ p9 l1 r5 n at3 j6 ([]:List Nod)
def a3H (l1:List Tok) (p9:Int) (at3:Int) (j6:Int):Nod × Bool × Int × Int -> Out
 | (r524,r525,at526,place527)=>.ret (.tuple [.agg (c0 r524.op r524.s r524.n r524.t.kind r524.t.name r524.t.n (.sl l6 r524.t.args) (.sl l6 r524.ts) (.sl A9 r524.l) r524.at_),.bool r525]) (hR q9 l1 p9 at526 place527)
def a1r (n:Nat) (Φ:d9) (l1:List Tok) (p9:Int) (at3:Int) (j6:Int):Option (Nod × Bool × Int × Int) :=
 (J3 l1 p9 at3 j6).bind fun r5 =>
 (o9 [123] l1 p9 at3 j6).bind fun (r6,at7) =>
 (o9 [40] l1 p9 at7 j6).bind fun (r8,at9) =>
 cond (!r8) (
 some (((⟨63,[],0,(⟨4,[],0,[]⟩:Typ),[],[],r5⟩:Nod),false,at9,j6))) (
 (a1H n ([]:List Nod) l1 p9 at9 j6).bind fun (r10,r11,at12) =>
 cond (!r11) (
 some (((⟨63,[],0,(⟨4,[],0,[]⟩:Typ),[],[],r5⟩:Nod),false,at12,j6))) (
 V8 (α:=Int × Int × Str × Int × List Typ) (
 (o9 [45,62] l1 p9 at12 j6).bind fun (r13,at14) =>
 cond r13 (
 (K6 n l1 p9 at14 j6).bind fun (r15,r16,at17) =>
 cond (!r16) (
 some (.out (((⟨63,[],0,(⟨4,[],0,[]⟩:Typ),[],[],r5⟩:Nod),false,at17,j6)))) (
 some (.brk (at17,r15.kind,r15.name,r15.n,r15.args)))) (
 some (.brk (at14,4,[],0,([]:List Typ))))) fun (b49,b7s,b7J,n513,b7w) =>
 (E9 [105,110] l1 p9 b49 j6).bind fun (r18,at19) =>
 cond (!r18) (
 some (((⟨63,[],0,(⟨b7s,b7J,n513,b7w⟩:Typ),[],[],r5⟩:Nod),false,at19,j6))) (
 (Φ.S9 l1 p9 at19 j6).bind fun (r20,r21,at22,b1e) =>
 (app 144 r10 ([(⟨20,[],0,(⟨0,[],0,[]⟩:Typ),[],r20,r5⟩:Nod)]:List Nod)).bind fun l24 =>
 some (((⟨63,[],0,(⟨b7s,b7J,n513,b7w⟩:Typ),[],l24,r5⟩:Nod),r21,at22,b1e)))))
def a3t (l1:List Tok) (p9:Int) (at3:Int) (j6:Int):Nod × Bool × Int × Int -> Out
 | (r515,r516,b3g,place518)=>.ret (.tuple [.agg (c0 r515.op r515.s r515.n r515.t.kind r515.t.name r515.t.n (.sl l6 r515.t.args) (.sl l6 r515.ts) (.sl A9 r515.l) r515.at_),.bool r516]) (hR q9 l1 p9 b3g place518)
def X5 (n:Nat) (Φ:d9) (p9:Int) (l1:List Tok):Nat -> (List Nod) -> Int -> Int -> Option (Lr (List Nod × Int × Int) (List Nod × Bool × Int × Int))
  | 0,_,_,_=>none
  | m2 + 1,l517,a3S,b2G =>
      (o9 [125] l1 p9 a3S b2G).bind fun (r5,at6) =>
      cond (!r5) (
      (Φ.R5 l1 p9 at6 b2G).bind fun (r7,r8,at9,b7X) =>
      cond (!r8) (
      some (.out ((l517,false,at9,b7X)))) (
      (app 144 l517 ([r7]:List Nod)).bind fun l11 =>
      X5 n Φ p9 l1 m2 l11 at9 b7X)) (
      some (.brk (l517,at6,b2G)))
def a0Y (n:Nat) (Φ:d9) (l1:List Tok) (p9:Int) (at3:Int) (j6:Int):Option (List Nod × Bool × Int × Int) :=
 V8 (α:=List Nod × Int × Int) (
 X5 n Φ p9 l1 n ([]:List Nod) at3 j6) fun (l529,b2H,b85) =>
 some ((l529,true,b2H,b85))
def a2E (l1:List Tok) (p9:Int) (at3:Int) (j6:Int):List Nod × Bool × Int × Int -> Out
 | (r522,r523,b0B,place525)=>.ret (.tuple [.sl A9 r522,.bool r523]) (hR q9 l1 p9 b0B place525)
def J6 (n:Nat) (Φ:d9) (l1:List Tok) (p9:Int) (at3:Int) (j6:Int):Option (Nod × Bool × Int × Int) :=
 (J3 l1 p9 at3 j6).bind fun r5 =>
 Option.bind (α:=Bool) (
 (G9 9 [108,101,116] l1 p9 at3 j6).bind fun r6 =>
 cond r6 (
 some true) (
 (G9 9 [118,97,114] l1 p9 at3 j6).bind fun r7 =>
 some r7)) fun b5O =>
 cond b5O (
 (Φ.a1f l1 p9 at3 j6).bind fun (r8,r9,at10,a2y) =>
 some ((r8,r9,at10,a2y))) (
 (G9 9 [105,102] l1 p9 at3 j6).bind fun r12 =>
 cond r12 (
 (Φ.Q8 l1 p9 at3 j6).bind fun (r13,r14,at15,c02) =>
 some ((r13,r14,at15,c02))) (
 (E9 [119,104,105,108,101] l1 p9 at3 j6).bind fun (r17,at18) =>
 cond r17 (
 (Φ.E5 l1 p9 at18 j6).bind fun (r19,r20,at21,a6m) =>
 cond (!r20) (
 some ((r19,false,at21,a6m))) (
 (Φ.J4 l1 p9 at21 a6m).bind fun (r23,r24,at25,b2Q) =>
 some (((⟨25,[],0,(⟨0,[],0,[]⟩:Typ),[],[r19,r23],r5⟩:Nod),r24,at25,b2Q)))) (
 (E9 [109,97,116,99,104] l1 p9 at18 j6).bind fun (r27,at28) =>
 cond r27 (
 (Φ.a1g r5 l1 p9 at28 j6).bind fun (l29,r30,at31,b1i) =>
 some (((⟨26,[],0,(⟨0,[],0,[]⟩:Typ),[],l29,r5⟩:Nod),r30,at31,b1i))) (
 (E9 [114,101,116,117,114,110] l1 p9 at28 j6).bind fun (r33,at34) =>
 cond r33 (
 (o9 [59] l1 p9 at34 j6).bind fun (r35,at36) =>
 cond r35 (
 some (((⟨28,[],0,(⟨0,[],0,[]⟩:Typ),[],[],r5⟩:Nod),true,at36,j6))) (
 (Φ.E5 l1 p9 at36 j6).bind fun (r37,r38,at39,b4D) =>
 cond r38 (
 (o9 [59] l1 p9 at39 b4D).bind fun (r41,at42) =>
 some (((⟨28,[],0,(⟨0,[],0,[]⟩:Typ),[],[r37],r5⟩:Nod),r41,at42,b4D))) (
 some (((⟨28,[],0,(⟨0,[],0,[]⟩:Typ),[],[r37],r5⟩:Nod),false,at39,b4D))))) (
 (E9 [116,104,114,111,119] l1 p9 at34 j6).bind fun (r43,at44) =>
 cond r43 (
 (Φ.E5 l1 p9 at44 j6).bind fun (r45,r46,at47,b4G) =>
 cond r46 (
 (o9 [59] l1 p9 at47 b4G).bind fun (r49,at50) =>
 some (((⟨29,[],0,(⟨0,[],0,[]⟩:Typ),[],[r45],r5⟩:Nod),r49,at50,b4G))) (
 some (((⟨29,[],0,(⟨0,[],0,[]⟩:Typ),[],[r45],r5⟩:Nod),false,at47,b4G)))) (
 (E9 [100,111] l1 p9 at44 j6).bind fun (r51,at52) =>
 cond r51 (
 (Φ.J4 l1 p9 at52 j6).bind fun (r53,r54,at55,b0d) =>
 Option.bind (α:=Bool × Int) (
 cond (!r54) (
 some (true,at55)) (
 (E9 [99,97,116,99,104] l1 p9 at55 b0d).bind fun (r57,at58) =>
 some ((!r57),at58))) fun (x517,a3S) =>
 cond x517 (
 some ((r53,false,a3S,b0d))) (
 (D8 1 l1 p9 a3S b0d).bind fun (r59,r60,at61) =>
 cond (!r60) (
 some ((r53,false,at61,b0d))) (
 (Φ.J4 l1 p9 at61 b0d).bind fun (r62,r63,at64,b2T) =>
 some (((⟨30,r59,0,(⟨0,[],0,[]⟩:Typ),[],[r53,r62],r5⟩:Nod),r63,at64,b2T))))) (
 (E9 [100,101,102,101,114] l1 p9 at52 j6).bind fun (r66,at67) =>
 cond r66 (
 (Φ.J4 l1 p9 at67 j6).bind fun (r68,r69,at70,c0R) =>
 some (((⟨31,[],0,(⟨0,[],0,[]⟩:Typ),[],[r68],r5⟩:Nod),r69,at70,c0R))) (
 (Φ.a05 l1 p9 at67 j6).bind fun (r72,r73,at74,c0A) =>
 some ((r72,r73,at74,c0A))))))))))
def a4q (l1:List Tok) (p9:Int) (at3:Int) (j6:Int):Nod × Bool × Int × Int -> Out
 | (b3h,b0z,b2N,b2s)=>.ret (.tuple [.agg (c0 b3h.op b3h.s b3h.n b3h.t.kind b3h.t.name b3h.t.n (.sl l6 b3h.t.args) (.sl l6 b3h.ts) (.sl A9 b3h.l) b3h.at_),.bool b0z]) (hR q9 l1 p9 b2N b2s)
def a2b (n:Nat) (Φ:d9) (l1:List Tok) (p9:Int) (at3:Int) (j6:Int):Option (Nod × Bool × Int × Int) :=
 (J3 l1 p9 at3 j6).bind fun r5 =>
 (o9 [123] l1 p9 at3 j6).bind fun (r6,at7) =>
 cond (!r6) (
 some (((⟨20,[],0,(⟨0,[],0,[]⟩:Typ),[],[],r5⟩:Nod),false,at7,j6))) (
 (Φ.S9 l1 p9 at7 j6).bind fun (r8,r9,at10,a2y) =>
 some (((⟨20,[],0,(⟨0,[],0,[]⟩:Typ),[],r8,r5⟩:Nod),r9,at10,a2y)))
def a5F (l1:List Tok) (p9:Int) (at3:Int) (j6:Int):Nod × Bool × Int × Int -> Out
 | (a2a,a3Z,a5E,b0U)=>.ret (.tuple [.agg (c0 a2a.op a2a.s a2a.n a2a.t.kind a2a.t.name a2a.t.n (.sl l6 a2a.t.args) (.sl l6 a2a.ts) (.sl A9 a2a.l) a2a.at_),.bool a3Z]) (hR q9 l1 p9 a5E b0U)
def a2e (n:Nat) (Φ:d9) (l1:List Tok) (p9:Int) (at3:Int) (j6:Int):Option (Nod × Bool × Int × Int) :=
 (J3 l1 p9 at3 j6).bind fun r5 =>
 Option.bind (α:=Int × Int) (
 (E9 [118,97,114] l1 p9 at3 j6).bind fun (r6,at7) =>
 cond r6 (
 some (at7,1)) (
 (E9 [108,101,116] l1 p9 at7 j6).bind fun (r8,at9) =>
 some (at9,0))) fun (b2H,n531) =>
 (D8 1 l1 p9 b2H j6).bind fun (r10,r11,at12) =>
 cond (!r11) (
 some (((⟨21,[],n531,(⟨0,[],0,[]⟩:Typ),[],[],r5⟩:Nod),false,at12,j6))) (
 V8 (α:=Bool × Int × Int × Str × Int × List Typ) (
 (o9 [58] l1 p9 at12 j6).bind fun (r13,at14) =>
 cond r13 (
 (K6 n l1 p9 at14 j6).bind fun (r15,r16,at17) =>
 cond (!r16) (
 some (.out (((⟨21,r10,n531,(⟨0,[],0,[]⟩:Typ),[],[],r5⟩:Nod),false,at17,j6)))) (
 some (.brk (true,at17,r15.kind,r15.name,r15.n,r15.args)))) (
 some (.brk (false,at14,0,[],0,([]:List Typ))))) fun (b8n,at533,b1s,b1q,b0t,b1g) =>
 V8 (α:=Int × Int × List Nod) (
 (o9 [61] l1 p9 at533 j6).bind fun (r18,at19) =>
 cond r18 (
 (Φ.E5 l1 p9 at19 j6).bind fun (r20,r21,at22,b1e) =>
 cond (!r21) (
 some (.out (((⟨21,r10,n531,(⟨b1s,b1q,b0t,b1g⟩:Typ),[],[],r5⟩:Nod),false,at22,b1e)))) (
 some (.brk (at22,b1e,([r20]:List Nod))))) (
 Option.bind (α:=Bool) (
 cond (eqB n531 0) (
 some true) (
 some (!b8n))) fun x538 =>
 cond x538 (
 some (.out (((⟨21,r10,n531,(⟨b1s,b1q,b0t,b1g⟩:Typ),[],[],r5⟩:Nod),false,at19,j6)))) (
 some (.brk (at19,j6,([]:List Nod)))))) fun (b5t,a4n,l541) =>
 (o9 [59] l1 p9 b5t a4n).bind fun (r24,at25) =>
 some (((⟨21,r10,n531,(⟨b1s,b1q,b0t,b1g⟩:Typ),[],l541,r5⟩:Nod),r24,at25,a4n)))
def a2G (l1:List Tok) (p9:Int) (at3:Int) (j6:Int):Nod × Bool × Int × Int -> Out
 | (b4n,r527,b48,place529)=>.ret (.tuple [.agg (c0 b4n.op b4n.s b4n.n b4n.t.kind b4n.t.name b4n.t.n (.sl l6 b4n.t.args) (.sl l6 b4n.ts) (.sl A9 b4n.l) b4n.at_),.bool r527]) (hR q9 l1 p9 b48 place529)
def a0N (n:Nat) (Φ:d9) (l1:List Tok) (p9:Int) (at3:Int) (j6:Int):Option (Nod × Bool × Int × Int) :=
 (J3 l1 p9 at3 j6).bind fun r5 =>
 (E9 [105,102] l1 p9 at3 j6).bind fun (r6,at7) =>
 (Φ.E5 l1 p9 at7 j6).bind fun (r8,r9,at10,a2y) =>
 cond (!r9) (
 some (((⟨24,[],0,(⟨0,[],0,[]⟩:Typ),[],[],r5⟩:Nod),false,at10,a2y))) (
 (Φ.J4 l1 p9 at10 a2y).bind fun (r12,r13,at14,a9U) =>
 cond (!r13) (
 some (((⟨24,[],0,(⟨0,[],0,[]⟩:Typ),[],[],r5⟩:Nod),false,at14,a9U))) (
 (E9 [101,108,115,101] l1 p9 at14 a9U).bind fun (r16,at17) =>
 cond (!r16) (
 some (((⟨24,[],0,(⟨0,[],0,[]⟩:Typ),[],[r8,r12],r5⟩:Nod),true,at17,a9U))) (
 Option.bind (α:=Bool × Int × Int × Nod) (
 (G9 9 [105,102] l1 p9 at17 a9U).bind fun r18 =>
 cond r18 (
 (Φ.Q8 l1 p9 at17 a9U).bind fun (r19,r20,at21,a6m) =>
 some (r20,at21,a6m,r19)) (
 (Φ.J4 l1 p9 at17 a9U).bind fun (r23,r24,at25,b2Q) =>
 some (r24,at25,b2Q,r23))) fun (b8R,b2N,b2s,n516) =>
 some (((⟨24,[],0,(⟨0,[],0,[]⟩:Typ),[],[r8,r12,n516],r5⟩:Nod),b8R,b2N,b2s)))))
def a3U (l1:List Tok) (p9:Int) (at3:Int) (j6:Int):Nod × Bool × Int × Int -> Out
 | (r517,r518,a7l,a4N)=>.ret (.tuple [.agg (c0 r517.op r517.s r517.n r517.t.kind r517.t.name r517.t.n (.sl l6 r517.t.args) (.sl l6 r517.ts) (.sl A9 r517.l) r517.at_),.bool r518]) (hR q9 l1 p9 a7l a4N)
def a0w (n:Nat) (Φ:d9) (L6:Int) (l2:List Tok):Nat -> (List Nod) -> Int -> Int -> Option (Lr (List Nod × Int × Int) (List Nod × Bool × Int × Int))
  | 0,_,_,_=>none
  | m6 + 1,l518,a7l,a4N =>
      (G9 9 [99,97,115,101] l2 L6 a7l a4N).bind fun r12 =>
      cond r12 (
      (J3 l2 L6 a7l a4N).bind fun r13 =>
      (E9 [99,97,115,101] l2 L6 a7l a4N).bind fun (r14,at15) =>
      (O6 n l2 L6 at15 a4N).bind fun (r16,r17,at18) =>
      cond (!r17) (
      some (.out ((([]:List Nod),false,at18,a4N)))) (
      (Φ.J4 l2 L6 at18 a4N).bind fun (r19,r20,at21,a6m) =>
      cond (!r20) (
      some (.out ((([]:List Nod),false,at21,a6m)))) (
      (app 144 l518 ([(⟨27,[],0,(⟨0,[],0,[]⟩:Typ),[],[r16,r19],r13⟩:Nod)]:List Nod)).bind fun l23 =>
      a0w n Φ L6 l2 m6 l23 at21 a6m))) (
      some (.brk (l518,a7l,a4N)))
def a2d (n:Nat) (Φ:d9) (at1:Int) (l2:List Tok) (L6:Int) (at4:Int) (G7:Int):Option (List Nod × Bool × Int × Int) :=
 (Φ.E5 l2 L6 at4 G7).bind fun (r6,r7,at8,b0c) =>
 Option.bind (α:=Bool × Int) (
 cond (!r7) (
 some (true,at8)) (
 (o9 [123] l2 L6 at8 b0c).bind fun (r10,at11) =>
 some ((!r10),at11))) fun (x516,b3g) =>
 cond x516 (
 some ((([]:List Nod),false,b3g,b0c))) (
 V8 (α:=List Nod × Int × Int) (
 a0w n Φ L6 l2 n ([r6]:List Nod) b3g b0c) fun (l524,b4c,a9m) =>
 V8 (α:=List Nod × Int × Int) (
 (G9 9 [100,101,102,97,117,108,116] l2 L6 b4c a9m).bind fun r24 =>
 cond r24 (
 (J3 l2 L6 b4c a9m).bind fun r25 =>
 (E9 [100,101,102,97,117,108,116] l2 L6 b4c a9m).bind fun (r26,at27) =>
 (Φ.J4 l2 L6 at27 a9m).bind fun (r28,r29,at30,b7T) =>
 cond (!r29) (
 some (.out ((([]:List Nod),false,at30,b7T)))) (
 (app 144 l524 ([(⟨27,[],0,(⟨0,[],0,[]⟩:Typ),[],[(⟨40,[],0,(⟨0,[],0,[]⟩:Typ),[],[],r25⟩:Nod),r28],r25⟩:Nod)]:List Nod)).bind fun l32 =>
 some (.brk (l32,at30,b7T)))) (
 some (.brk (l524,b4c,a9m)))) fun (l544,at545,b0A) =>
 (o9 [125] l2 L6 at545 b0A).bind fun (r33,at34) =>
 some ((l544,r33,at34,b0A)))
def a2B (at1:Int) (l2:List Tok) (L6:Int) (at4:Int) (G7:Int):List Nod × Bool × Int × Int -> Out
 | (l529,r530,at531,place532)=>.ret (.tuple [.agg [.i 26,.str [],.i 0,.i 0,.str [],.i 0,.sl l6 ([]:List Typ),.sl l6 ([]:List Typ),.sl A9 l529,.i at1],.bool r530]) (hR q9 l2 L6 at531 place532)
def a1P (n:Nat) (Φ:d9) (l1:List Tok) (p9:Int) (at3:Int) (j6:Int):Option (Nod × Bool × Int × Int) :=
 (Φ.E5 l1 p9 at3 j6).bind fun (r5,r6,at7,a3r) =>
 cond (!r6) (
 some ((r5,false,at7,a3r))) (
 (G9 8 [61] l1 p9 at7 a3r).bind fun r9 =>
 cond (!r9) (
 (o9 [59] l1 p9 at7 a3r).bind fun (r10,at11) =>
 some (((⟨23,[],0,(⟨0,[],0,[]⟩:Typ),[],[r5],r5.at_⟩:Nod),r10,at11,a3r))) (
 (a6p n r5).bind fun r12 =>
 cond (!r12) (
 some ((r5,false,at7,r5.at_))) (
 (o9 [61] l1 p9 at7 a3r).bind fun (r13,at14) =>
 (Φ.E5 l1 p9 at14 a3r).bind fun (r15,r16,at17,a9Z) =>
 cond r16 (
 (o9 [59] l1 p9 at17 a9Z).bind fun (r19,at20) =>
 some (((⟨22,[],0,(⟨0,[],0,[]⟩:Typ),[],[r5,r15],r5.at_⟩:Nod),r19,at20,a9Z))) (
 some (((⟨22,[],0,(⟨0,[],0,[]⟩:Typ),[],[r5,r15],r5.at_⟩:Nod),false,at17,a9Z))))))
def a5d (l1:List Tok) (p9:Int) (at3:Int) (j6:Int):Nod × Bool × Int × Int -> Out
 | (b4l,a1x,a4K,place507)=>.ret (.tuple [.agg (c0 b4l.op b4l.s b4l.n b4l.t.kind b4l.t.name b4l.t.n (.sl l6 b4l.t.args) (.sl l6 b4l.ts) (.sl A9 b4l.l) b4l.at_),.bool a1x]) (hR q9 l1 p9 a4K place507)
def W9 (n:Nat) (Φ:d9) (p9:Int) (l1:List Tok) (j6:Int) (r5:Int) (r7:Bool):Nat -> Int -> Typ -> Option (Lr (Int) (Nod × Bool × Int × Int))
  | 0,_,_=>none
  | m3 + 1,a3S,n519 =>
      cond r7 (
      (G9 8 [40] l1 p9 a3S j6).bind fun r9 =>
      cond r9 (
      (Φ.L9 ([]:List Nod) l1 p9 a3S j6).bind fun (r10,r11,at12,a4R,a5I) =>
      some (.out (((⟨59,[],0,n519,[],r10,r5⟩:Nod),r11,at12,a4R)))) (
      (o9 [46] l1 p9 a3S j6).bind fun (r15,at16) =>
      cond (!r15) (
      some (.out (((⟨0,[],0,(⟨0,[],0,[]⟩:Typ),[],[],r5⟩:Nod),false,at16,j6)))) (
      (D8 2 l1 p9 at16 j6).bind fun (r17,r18,at19) =>
      cond r18 (
      W9 n Φ p9 l1 j6 r5 r7 m3 at19 (⟨8,r17,0,[n519]⟩:Typ)) (
      (D8 1 l1 p9 at19 j6).bind fun (r20,r21,at22) =>
      cond (!r21) (
      some (.out (((⟨0,[],0,(⟨0,[],0,[]⟩:Typ),[],[],r5⟩:Nod),false,at22,j6)))) (
      (G9 8 [40] l1 p9 at22 j6).bind fun r23 =>
      cond r23 (
      (Φ.L9 ([]:List Nod) l1 p9 at22 j6).bind fun (r24,r25,at26,c0M,gone28) =>
      some (.out (((⟨58,r20,1,n519,[],r24,r5⟩:Nod),r25,at26,c0M)))) (
      some (.out (((⟨58,r20,0,n519,[],[],r5⟩:Nod),true,at22,j6))))))))) (
      some (.brk a3S))
def a2q (n:Nat) (Φ:d9) (l1:List Tok) (p9:Int) (at3:Int) (j6:Int):Option (Nod × Bool × Int × Int) :=
 (J3 l1 p9 at3 j6).bind fun r5 =>
 (U5 n l1 p9 at3 j6).bind fun (r6,r7,at8) =>
 V8 (α:=Int) (
 W9 n Φ p9 l1 j6 r5 r7 n at8 r6) fun b48 =>
 some (((⟨0,[],0,(⟨0,[],0,[]⟩:Typ),[],[],r5⟩:Nod),false,b48,j6))
def a4b (l1:List Tok) (p9:Int) (at3:Int) (j6:Int):Nod × Bool × Int × Int -> Out
 | (r520,r521,a8c,place523)=>.ret (.tuple [.agg (c0 r520.op r520.s r520.n r520.t.kind r520.t.name r520.t.n (.sl l6 r520.t.args) (.sl l6 r520.ts) (.sl A9 r520.l) r520.at_),.bool r521]) (hR q9 l1 p9 a8c place523)
def d9.fs:Nat -> d9
 | 0=>⟨fun _ _ _ _=>none,fun _ _ _ _ _=>none,fun _ _ _ _=>none,fun _ _ _ _=>none,fun _ _ _ _=>none,fun _ _ _ _ _=>none,fun _ _ _ _=>none,fun _ _ _ _=>none,fun _ _ _ _=>none,fun _ _ _ _=>none,fun _ _ _ _=>none,fun _ _ _ _=>none,fun _ _ _ _=>none,fun _ _ _ _ _=>none,fun _ _ _ _=>none,fun _ _ _ _=>none⟩
 | n + 1=>⟨a2p n (d9.fs n),a0R n (d9.fs n),a2c n (d9.fs n),a1D n (d9.fs n),a01 n (d9.fs n),a2u n (d9.fs n),a0D n (d9.fs n),a1r n (d9.fs n),a0Y n (d9.fs n),J6 n (d9.fs n),a2b n (d9.fs n),a2e n (d9.fs n),a0N n (d9.fs n),a2d n (d9.fs n),a1P n (d9.fs n),a2q n (d9.fs n)⟩
def E5 (n:Nat) (l1:List Tok) (p9:Int) (at3:Int) (j6:Int):Option (Nod × Bool × Int × Int):=(d9.fs n).E5 l1 p9 at3 j6
def J7 (n:Nat) (k1:Int) (l2:List Tok) (L6:Int) (at4:Int) (G7:Int):Option (Nod × Bool × Int × Int):=(d9.fs n).J7 k1 l2 L6 at4 G7
def M8 (n:Nat) (l1:List Tok) (p9:Int) (at3:Int) (j6:Int):Option (Nod × Bool × Int × Int):=(d9.fs n).M8 l1 p9 at3 j6
def a0P (n:Nat) (l1:List Tok) (p9:Int) (at3:Int) (j6:Int):Option (Nod × Bool × Int × Int):=(d9.fs n).a0P l1 p9 at3 j6
def a06 (n:Nat) (l1:List Tok) (p9:Int) (at3:Int) (j6:Int):Option (Nod × Bool × Int × Int):=(d9.fs n).a06 l1 p9 at3 j6
def L9 (n:Nat) (l1:List Nod) (l2:List Tok) (L6:Int) (at4:Int) (G7:Int):Option (List Nod × Bool × Int × Int × List Nod):=(d9.fs n).L9 l1 l2 L6 at4 G7
def Y1 (n:Nat) (l1:List Tok) (p9:Int) (at3:Int) (j6:Int):Option (Nod × Bool × Int × Int):=(d9.fs n).Y1 l1 p9 at3 j6
def a0T (n:Nat) (l1:List Tok) (p9:Int) (at3:Int) (j6:Int):Option (Nod × Bool × Int × Int):=(d9.fs n).a0T l1 p9 at3 j6
def S9 (n:Nat) (l1:List Tok) (p9:Int) (at3:Int) (j6:Int):Option (List Nod × Bool × Int × Int):=(d9.fs n).S9 l1 p9 at3 j6
def R5 (n:Nat) (l1:List Tok) (p9:Int) (at3:Int) (j6:Int):Option (Nod × Bool × Int × Int):=(d9.fs n).R5 l1 p9 at3 j6
def J4 (n:Nat) (l1:List Tok) (p9:Int) (at3:Int) (j6:Int):Option (Nod × Bool × Int × Int):=(d9.fs n).J4 l1 p9 at3 j6
def a1f (n:Nat) (l1:List Tok) (p9:Int) (at3:Int) (j6:Int):Option (Nod × Bool × Int × Int):=(d9.fs n).a1f l1 p9 at3 j6
def Q8 (n:Nat) (l1:List Tok) (p9:Int) (at3:Int) (j6:Int):Option (Nod × Bool × Int × Int):=(d9.fs n).Q8 l1 p9 at3 j6
def a1g (n:Nat) (at1:Int) (l2:List Tok) (L6:Int) (at4:Int) (G7:Int):Option (List Nod × Bool × Int × Int):=(d9.fs n).a1g at1 l2 L6 at4 G7
def a05 (n:Nat) (l1:List Tok) (p9:Int) (at3:Int) (j6:Int):Option (Nod × Bool × Int × Int):=(d9.fs n).a05 l1 p9 at3 j6
def a1G (n:Nat) (l1:List Tok) (p9:Int) (at3:Int) (j6:Int):Option (Nod × Bool × Int × Int):=(d9.fs n).a1G l1 p9 at3 j6
noncomputable def a7s (n:Nat) (a1K:Str):Option (Nod × Flt) :=
 (a92 a1K).bind fun (l2,c3,a4) =>
 cond (!eqB c3 0) (
 some (((⟨0,[],0,(⟨0,[],0,[]⟩:Typ),[],[],0⟩:Nod),(⟨c3,a4⟩:Flt)))) (
 (E5 n l2 (List.length a1K:Int) 0 (-1)).bind fun (r5,r6,at7,a3r) =>
 Option.bind (α:=Bool) (
 cond (!r6) (
 some (leB 0 a3r)) (
 some false)) fun x512 =>
 cond x512 (
 some (((⟨0,[],0,(⟨0,[],0,[]⟩:Typ),[],[],0⟩:Nod),(⟨22,a3r⟩:Flt)))) (
 Option.bind (α:=Bool) (
 cond (!r6) (
 some true) (
 some (ltB at7 (List.length l2:Int)))) fun x513 =>
 cond x513 (
 (J3 l2 (List.length a1K:Int) at7 a3r).bind fun r9 =>
 some (((⟨0,[],0,(⟨0,[],0,[]⟩:Typ),[],[],0⟩:Nod),(⟨20,r9⟩:Flt)))) (
 (a2N n r5).bind fun (r10,r11) =>
 cond (ltB 40 r11) (
 some (((⟨0,[],0,(⟨0,[],0,[]⟩:Typ),[],[],0⟩:Nod),(⟨21,0⟩:Flt)))) (
 cond (ltB 4000 r10) (
 some (((⟨0,[],0,(⟨0,[],0,[]⟩:Typ),[],[],0⟩:Nod),(⟨2,0⟩:Flt)))) (
 some ((r5,(⟨0,0⟩:Flt))))))))
def b5P (a1K:Str):Nod × Flt -> Out
 | (a2a,a3Z)=>.ret (.tuple [.agg (c0 a2a.op a2a.s a2a.n a2a.t.kind a2a.t.name a2a.t.n (.sl l6 a2a.t.args) (.sl l6 a2a.ts) (.sl A9 a2a.l) a2a.at_),.agg [.i a3Z.code,.i a3Z.at_]]) []
structure Y7 where
 a2V:Nod -> Option (Int × Int)
def a2L (n:Nat) (Φ:Y7) (n1:Nod):Nat -> Int -> Int -> Int -> Option (Int × Int)
  | 0,_,_,_=>none
  | m3 + 1,a5D,b2r,x503 =>
      cond (ltB x503 (List.length n1.l:Int)) (
      (idx' n1.l x503).bind fun x2 =>
      (Φ.a2V x2).bind fun (r3,r4) =>
      a2L n Φ n1 m3 (w64 (a5D + r3)) (max b2r r4) (w64 (x503 + 1))) (
      some (a5D,b2r))
def a5s (n:Nat) (Φ:Y7) (n1:Nod):Option (Int × Int) :=
 Option.bind (α:=Int × Int) (
 a2L n Φ n1 n 1 0 0) fun (b0T,b87) =>
 some ((b0T,(w64 (b87 + 1))))
def a7B (n1:Nod):Int × Int -> Out
 | (b3h,b0z)=>.ret (.tuple [.i b3h,.i b0z]) []
def Y7.fs:Nat -> Y7
 | 0=>⟨fun _=>none⟩
 | n + 1=>⟨a5s n (Y7.fs n)⟩
def a2V (n:Nat) (n1:Nod):Option (Int × Int):=(Y7.fs n).a2V n1
noncomputable def a8d (a1K:Str):Option (Flt × List Tok) :=
 (a92 a1K).bind fun (l2,c3,a4) =>
 some (((⟨c3,a4⟩:Flt),l2))
def b4j (a1K:Str):Flt × List Tok -> Out
 | (Y4,c1x)=>.ret (.tuple [.ptr 0 0,.agg [.i Y4.code,.i Y4.at_]]) [(0,.row [.sl q9 c1x,.i 0,.i (List.length a1K:Int)])]
def D6 (n1:Int) (b6s:Int) (b4Q:Str) (a7Z:List Tok) (at5:Int) (b6T:Int):Option (Bool) :=
 cond (leB (List.length a7Z:Int) (w64 (at5 + n1))) (
 some (false)) (
 (idx' a7Z (w64 (at5 + n1))).bind fun x7 =>
 cond (eqB x7.kind b6s) (
 cond (eqS b4Q []) (
 some (true)) (
 some ((eqS x7.text b4Q)))) (
 some (false)))
def b1F (n1:Int) (b6s:Int) (b4Q:Str) (a7Z:List Tok) (at5:Int) (b6T:Int):Bool -> Out
 | Y4=>.ret (.bool Y4) (hP q9 a7Z at5 b6T)
def D9 (a8X:Str) (E8:List Tok) (at3:Int) (K3:Int):Option (Bool × Int) :=
 (D6 0 8 a8X E8 at3 K3).bind fun r5 =>
 cond (!r5) (
 some ((false,at3))) (
 some ((true,(w64 (at3 + 1)))))
def b0x (a8X:Str) (E8:List Tok) (at3:Int) (K3:Int):Bool × Int -> Out
 | (Y4,a2H)=>.ret (.bool Y4) (hP q9 E8 a2H K3)
def a1w (j4:List Tok) (at2:Int) (l5:Int):Option (Int) :=
 cond (ltB at2 (List.length j4:Int)) (
 (idx' j4 at2).bind fun x4 =>
 some (x4.at_)) (
 some (l5))
def b0l (j4:List Tok) (at2:Int) (l5:Int):Int -> Out
 | Y4=>.ret (.i Y4) (hP q9 j4 at2 l5)
def Y9 (j4:List Tok) (at2:Int) (l5:Int):Option (Rs Empty Int) :=
 (a1w j4 at2 l5).bind fun r4 =>
 some (.pan r4)
def b0m (j4:List Tok) (at2:Int) (l5:Int):Rs Empty Int -> Out
 | .pan a7y=>.pan (.iface 110 (.agg [.i 20,.i a7y])) (hP q9 j4 at2 l5)
def M7 (a2h:Int) (E8:List Tok) (at3:Int) (K3:Int):Option (Rs Tok Int) :=
 (D6 0 a2h [] E8 at3 K3).bind fun r5 =>
 cond (!r5) (
 F9 (Y9 E8 at3 K3) (fun (_:Empty)=>none) fun at6 =>
 some (.pan at6)) (
 (idx' E8 at3).bind fun x7 =>
 some (.ok x7))
def a9C (a2h:Int) (E8:List Tok) (at3:Int) (K3:Int):Rs Tok Int -> Out
 | .ok Y4=>.ret (.agg [.i Y4.kind,.str Y4.text,.i Y4.at_,.i Y4.len]) [(0,.row [.sl q9 E8,.i (w64 (at3 + 1)),.i K3])]
 | .pan a2H=>.pan (.iface 110 (.agg [.i 20,.i a2H])) (hP q9 E8 at3 K3)
def N8 (j4:List Tok) (at2:Int) (l5:Int):Option (Rs Str Int) :=
 F9 (M7 1 j4 at2 l5) (fun r4 =>
 some (.ok r4.text)) fun at5 =>
 some (.pan at5)
def b0o (j4:List Tok) (at2:Int) (l5:Int):Rs Str Int -> Out
 | .ok Y4=>.ret (.str Y4) [(0,.row [.sl q9 j4,.i (w64 (at2 + 1)),.i l5])]
 | .pan a2H=>.pan (.iface 110 (.agg [.i 20,.i a2H])) (hP q9 j4 at2 l5)
def F3 (a8X:Str) (E8:List Tok) (at3:Int) (K3:Int):Option (Rs Int (Int × Int)) :=
 (D9 a8X E8 at3 K3).bind fun (r5,at6) =>
 cond (!r5) (
 F9 (Y9 E8 at6 K3) (fun (_:Empty)=>none) fun at7 =>
 some (.pan (at7,at6))) (
 some (.ok at6))
def b0k (a8X:Str) (E8:List Tok) (at3:Int) (K3:Int):Rs Int (Int × Int) -> Out
 | .ok a7y=>.ret (.tuple []) (hP q9 E8 a7y K3)
 | .pan (a2H,a5i)=>.pan (.iface 110 (.agg [.i 20,.i a2H])) (hP q9 E8 a5i K3)
def a5j (a6M:Str) (Z8:List Typ):Option (Typ) :=
 V8 (α:=Int) (
 Option.bind (α:=Bool) (
 cond (eqB (List.length Z8:Int) 1) (
 some (eqS a6M [65,114,114,97,121])) (
 some false)) fun x505 =>
 cond x505 (
 some (.out ((⟨5,[],0,Z8⟩:Typ)))) (
 Option.bind (α:=Bool) (
 cond (eqB (List.length Z8:Int) 1) (
 some (eqS a6M [87,101,97,107])) (
 some false)) fun x503 =>
 cond x503 (
 some (.out ((⟨11,[],0,Z8⟩:Typ)))) (
 cond (ltB 0 (List.length Z8:Int)) (
 some (.brk 6)) (
 cond (eqS a6M [73,110,116]) (
 some (.brk 1)) (
 cond (eqS a6M [66,111,111,108]) (
 some (.brk 2)) (
 cond (eqS a6M [84,101,120,116]) (
 some (.brk 3)) (
 cond (eqS a6M [85,110,105,116]) (
 some (.brk 4)) (
 some (.brk 6))))))))) fun b4K =>
 cond (!eqB b4K 6) (
 some ((⟨b4K,[],0,[]⟩:Typ))) (
 some ((⟨b4K,a6M,0,Z8⟩:Typ)))
def b0g (a6M:Str) (Z8:List Typ):Typ -> Out
 | b0S=>.ret (.agg [.i b0S.kind,.str b0S.name,.i b0S.n,.sl l6 b0S.args]) []
def J5 (a8K:Str) (E8:List Tok) (at3:Int) (K3:Int):Option (Bool × Int) :=
 (D6 0 9 a8K E8 at3 K3).bind fun r5 =>
 cond (!r5) (
 some ((false,at3))) (
 some ((true,(w64 (at3 + 1)))))
def b05 (a8K:Str) (E8:List Tok) (at3:Int) (K3:Int):Bool × Int -> Out
 | (Y4,a2H)=>.ret (.bool Y4) (hP q9 E8 a2H K3)
def Z4 (j4:List Tok) (at2:Int) (l5:Int):Option (Rs Str Int) :=
 F9 (M7 2 j4 at2 l5) (fun r4 =>
 some (.ok r4.text)) fun at5 =>
 some (.pan at5)
def a8n (j4:List Tok) (at2:Int) (l5:Int):Rs Str Int -> Out
 | .ok Y4=>.ret (.str Y4) [(0,.row [.sl q9 j4,.i (w64 (at2 + 1)),.i l5])]
 | .pan a2H=>.pan (.iface 110 (.agg [.i 20,.i a2H])) (hP q9 j4 at2 l5)
structure C8 where
 U0:Bool -> (List Tok) -> Int -> Int -> Option (Rs (Typ × Int) (Int × Int))
 F5:(List Tok) -> Int -> Int -> Option (Rs (Typ × Int) (Int × Int))
def a1o (n:Nat) (Φ:C8) (K3:Int) (E8:List Tok):Nat -> (List Typ) -> Int -> Option (Lr (List Typ × Int) (Rs (Typ × Int) (Int × Int)))
  | 0,_,_=>none
  | m5 + 1,b7K,a2H =>
      (D9 [44] E8 a2H K3).bind fun (r11,at12) =>
      cond r11 (
      F9 (Φ.F5 E8 at12 K3) (fun (r13,at14) =>
      (app 56 b7K ([r13]:List Typ)).bind fun l15 =>
      a1o n Φ K3 E8 m5 l15 at14) fun (at16,at17) =>
      some (.out (.pan (at16,at17)))) (
      some (.brk (b7K,at12)))
def O7 (n:Nat) (Φ:C8) (inExpr1:Bool) (K3:Int) (E8:List Tok):Nat -> Int -> Typ -> Option (Lr (Int × Typ) (Rs (Typ × Int) (Int × Int)))
  | 0,_,_=>none
  | m9 + 1,a8S,n533 =>
      Option.bind (α:=Bool) (
      (D6 0 8 [46] E8 a8S K3).bind fun r24 =>
      cond r24 (
      cond inExpr1 (
      (D6 1 1 [] E8 a8S K3).bind fun r25 =>
      some (!r25)) (
      some true)) (
      some false)) fun x546 =>
      cond x546 (
      F9 (Z4 E8 (w64 (a8S + 1)) K3) (fun r26 =>
      O7 n Φ inExpr1 K3 E8 m9 (w64 ((w64 (a8S + 1)) + 1)) (⟨8,r26,0,[n533]⟩:Typ)) fun at27 =>
      some (.out (.pan (at27,(w64 (a8S + 1)))))) (
      some (.brk (a8S,n533)))
def a0v (n:Nat) (Φ:C8) (inExpr1:Bool) (E8:List Tok) (at3:Int) (K3:Int):Option (Rs (Typ × Int) (Int × Int)) :=
 F9 (Z4 E8 at3 K3) (fun r5 =>
 V8 (α:=List Typ × Int) (
 (D9 [60] E8 (w64 (at3 + 1)) K3).bind fun (r6,at7) =>
 cond r6 (
 F9 (Φ.F5 E8 at7 K3) (fun (r8,at9) =>
 (app 56 ([]:List Typ) ([r8]:List Typ)).bind fun l10 =>
 a5h (α:=List Typ × Int) (
 a1o n Φ K3 E8 n l10 at9) fun (c07,a5c) =>
 F9 (F3 [62] E8 a5c K3) (fun at18 =>
 some (.brk (c07,at18))) fun (at19,at20) =>
 some (.out (.pan (at19,at20)))) fun (at21,at22) =>
 some (.out (.pan (at21,at22)))) (
 some (.brk (([]:List Typ),at7)))) fun (c0F,b0J) =>
 (a5j r5 c0F).bind fun r23 =>
 V8 (α:=Int × Typ) (
 O7 n Φ inExpr1 K3 E8 n b0J r23) fun (b6J,n550) =>
 some (.ok (n550,b6J))) fun at28 =>
 some (.pan (at28,at3))
def a07 (inExpr1:Bool) (E8:List Tok) (at3:Int) (K3:Int):Rs (Typ × Int) (Int × Int) -> Out
 | .ok (a6x,at535)=>.ret (.agg [.i a6x.kind,.str a6x.name,.i a6x.n,.sl l6 a6x.args]) (hP q9 E8 at535 K3)
 | .pan (a4K,a5k)=>.pan (.iface 110 (.agg [.i 20,.i a4K])) (hP q9 E8 a5k K3)
def V3 (n:Nat) (Φ:C8) (l5:Int) (j4:List Tok):Nat -> (List Typ) -> Int -> Option (Lr (List Typ × Int) (Rs (Typ × Int) (Int × Int)))
  | 0,_,_=>none
  | m8 + 1,b78,a5k =>
      (D9 [44] j4 a5k l5).bind fun (r19,at20) =>
      cond r19 (
      F9 (Φ.F5 j4 at20 l5) (fun (r21,at22) =>
      (app 56 b78 ([r21]:List Typ)).bind fun l23 =>
      V3 n Φ l5 j4 m8 l23 at22) fun (at24,at25) =>
      some (.out (.pan (at24,at25)))) (
      some (.brk (b78,at20)))
def a2Q (n:Nat) (Φ:C8) (j4:List Tok) (at2:Int) (l5:Int):Option (Rs (Typ × Int) (Int × Int)) :=
 (J5 [97,110,121] j4 at2 l5).bind fun (r4,at5) =>
 cond r4 (
 F9 (Z4 j4 at5 l5) (fun r6 =>
 some (.ok ((⟨9,r6,0,[]⟩:Typ),(w64 (at5 + 1))))) fun at7 =>
 some (.pan (at7,at5))) (
 (D9 [40] j4 at5 l5).bind fun (r8,at9) =>
 cond (!r8) (
 F9 (Φ.U0 false j4 at9 l5) (fun (r10,at11) =>
 some (.ok (r10,at11))) fun (at12,at13) =>
 some (.pan (at12,at13))) (
 V8 (α:=List Typ × Int) (
 (D9 [41] j4 at9 l5).bind fun (r14,at15) =>
 cond (!r14) (
 F9 (Φ.F5 j4 at15 l5) (fun (r16,at17) =>
 (app 56 ([]:List Typ) ([r16]:List Typ)).bind fun l18 =>
 a5h (α:=List Typ × Int) (
 V3 n Φ l5 j4 n l18 at17) fun (c06,a3S) =>
 F9 (F3 [41] j4 a3S l5) (fun at26 =>
 some (.brk (c06,at26))) fun (at27,at28) =>
 some (.out (.pan (at27,at28)))) fun (at29,at30) =>
 some (.out (.pan (at29,at30)))) (
 some (.brk (([]:List Typ),at15)))) fun (c0G,b49) =>
 F9 (F3 [45,62] j4 b49 l5) (fun at31 =>
 F9 (Φ.F5 j4 at31 l5) (fun (r32,at33) =>
 (app 56 c0G ([r32]:List Typ)).bind fun l34 =>
 some (.ok ((⟨10,[],0,l34⟩:Typ),at33))) fun (at35,at36) =>
 some (.pan (at35,at36))) fun (at37,at38) =>
 some (.pan (at37,at38))))
def a13 (j4:List Tok) (at2:Int) (l5:Int):Rs (Typ × Int) (Int × Int) -> Out
 | .ok (a3Z,a5E)=>.ret (.agg [.i a3Z.kind,.str a3Z.name,.i a3Z.n,.sl l6 a3Z.args]) (hP q9 j4 a5E l5)
 | .pan (a8f,b0J)=>.pan (.iface 110 (.agg [.i 20,.i a8f])) (hP q9 j4 b0J l5)
def C8.fs:Nat -> C8
 | 0=>⟨fun _ _ _ _=>none,fun _ _ _=>none⟩
 | n + 1=>⟨a0v n (C8.fs n),a2Q n (C8.fs n)⟩
def U0 (n:Nat) (inExpr1:Bool) (E8:List Tok) (at3:Int) (K3:Int):Option (Rs (Typ × Int) (Int × Int)):=(C8.fs n).U0 inExpr1 E8 at3 K3
def F5 (n:Nat) (j4:List Tok) (at2:Int) (l5:Int):Option (Rs (Typ × Int) (Int × Int)):=(C8.fs n).F5 j4 at2 l5
def G8 (op1:Int) (E8:List Tok) (at3:Int) (K3:Int):Option (Int) :=
 (a1w E8 at3 K3).bind fun r5 =>
 some (r5)
def b0q (op1:Int) (E8:List Tok) (at3:Int) (K3:Int):Int -> Out
 | a7y=>.ret (.agg [.i op1,.str [],.i 0,.i 0,.str [],.i 0,.sl l6 ([]:List Typ),.st 1 l6 ([]:List Typ),.st 2 A9 ([]:List Nod),.i a7y]) [(0,.row [.sl q9 E8,.i at3,.i K3]),(1,.tip 0 0),(2,.tip 0 0)]
def a0z (n:Nat) (at4:Int) (l5:Int) (j4:List Tok):Nat -> Int -> Int -> Str -> (List Nod) -> Option (Lr (Int × Int × Str × List Nod) (Rs (Nod × Int) (Int × Int)))
  | 0,_,_,_,_=>none
  | m3 + 1,a5i,op504,s505,b4e =>
      (D9 [46] j4 a5i l5).bind fun (r6,at7) =>
      cond r6 (
      F9 (N8 j4 at7 l5) (fun r8 =>
      a0z n at4 l5 j4 m3 (w64 (at7 + 1)) 55 r8 ([(⟨op504,s505,0,(⟨0,[],0,[]⟩:Typ),[],b4e,at4⟩:Nod)]:List Nod)) fun at9 =>
      some (.out (.pan (at9,at7)))) (
      some (.brk (at7,op504,s505,b4e)))
def a1h (n:Nat) (j4:List Tok) (at2:Int) (l5:Int):Option (Rs (Nod × Int) (Int × Int)) :=
 (G8 54 j4 at2 l5).bind fun at4 =>
 F9 (N8 j4 at2 l5) (fun r5 =>
 V8 (α:=Int × Int × Str × List Nod) (
 a0z n at4 l5 j4 n (w64 (at2 + 1)) 54 r5 ([]:List Nod)) fun (at520,op521,s522,l523) =>
 some (.ok ((⟨op521,s522,0,(⟨0,[],0,[]⟩:Typ),[],l523,at4⟩:Nod),at520))) fun at10 =>
 some (.pan (at10,at2))
def a5p (j4:List Tok) (at2:Int) (l5:Int):Rs (Nod × Int) (Int × Int) -> Out
 | .ok (b0S,a6P)=>.ret (.agg (c0 b0S.op b0S.s b0S.n b0S.t.kind b0S.t.name b0S.t.n (.sl l6 b0S.t.args) (.sl l6 b0S.ts) (.sl A9 b0S.l) b0S.at_)) (hP q9 j4 a6P l5)
 | .pan (a7y,a2H)=>.pan (.iface 110 (.agg [.i 20,.i a7y])) (hP q9 j4 a2H l5)
def a0n (j4:List Tok) (at2:Int) (l5:Int):Option (Rs Int Int) :=
 F9 (M7 3 j4 at2 l5) (fun r4 =>
 (atoi r4.text).bind fun n5 =>
 some (.ok n5)) fun at6 =>
 some (.pan at6)
def a8i (j4:List Tok) (at2:Int) (l5:Int):Rs Int Int -> Out
 | .ok Y4=>.ret (.i Y4) [(0,.row [.sl q9 j4,.i (w64 (at2 + 1)),.i l5])]
 | .pan a2H=>.pan (.iface 110 (.agg [.i 20,.i a2H])) (hP q9 j4 at2 l5)
def a0p (n:Nat) (l5:Int) (j4:List Tok):Nat -> (List Nod) -> Int -> Option (Lr (List Nod × Int) (Rs (List Nod × Int) (Int × Int)))
  | 0,_,_=>none
  | m5 + 1,b4e,a5k =>
      (G8 10 j4 a5k l5).bind fun at7 =>
      Option.bind (α:=Int × Int) (
      (J5 [105,110,111,117,116] j4 a5k l5).bind fun (r8,at9) =>
      cond r8 (
      some (at9,1)) (
      (J5 [99,111,110,115,117,109,101] j4 at9 l5).bind fun (r10,at11) =>
      cond r10 (
      some (at11,2)) (
      some (at11,0)))) fun (at516,n517) =>
      F9 (N8 j4 at516 l5) (fun r12 =>
      F9 (F3 [58] j4 (w64 (at516 + 1)) l5) (fun at13 =>
      F9 (F5 n j4 at13 l5) (fun (r14,at15) =>
      (app 144 b4e ([(⟨10,r12,n517,r14,[],[],at7⟩:Nod)]:List Nod)).bind fun l16 =>
      (D9 [44] j4 at15 l5).bind fun (r17,at18) =>
      cond (!r17) (
      some (.brk (l16,at18))) (
      a0p n l5 j4 m5 l16 at18)) fun (at19,at20) =>
      some (.out (.pan (at19,at20)))) fun (at21,at22) =>
      some (.out (.pan (at21,at22)))) fun at23 =>
      some (.out (.pan (at23,at516)))
def a03 (n:Nat) (j4:List Tok) (at2:Int) (l5:Int):Option (Rs (List Nod × Int) (Int × Int)) :=
 F9 (F3 [40] j4 at2 l5) (fun at4 =>
 (D9 [41] j4 at4 l5).bind fun (r5,at6) =>
 cond r5 (
 some (.ok (([]:List Nod),at6))) (
 V8 (α:=List Nod × Int) (
 a0p n l5 j4 n ([]:List Nod) at6) fun (l508,a6P) =>
 F9 (F3 [41] j4 a6P l5) (fun at24 =>
 some (.ok (l508,at24))) fun (at25,at26) =>
 some (.pan (at25,at26)))) fun (at27,at28) =>
 some (.pan (at27,at28))
def a5a (j4:List Tok) (at2:Int) (l5:Int):Rs (List Nod × Int) (Int × Int) -> Out
 | .ok (a2a,a5c)=>.ret (.st 1 A9 a2a) [(0,.row [.sl q9 j4,.i a5c,.i l5]),(1,.tip (tpe 10 (List.length a2a)) (List.length a2a))]
 | .pan (a2H,a5i)=>.pan (.iface 110 (.agg [.i 20,.i a2H])) (hP q9 j4 a5i l5)
def a1J (n:Nat) (j4:List Tok) (at2:Int) (l5:Int):Option (Rs (Typ × Int) (Int × Int)) :=
 (D9 [45,62] j4 at2 l5).bind fun (r4,at5) =>
 cond r4 (
 F9 (F5 n j4 at5 l5) (fun (r6,at7) =>
 some (.ok (r6,at7))) fun (at8,at9) =>
 some (.pan (at8,at9))) (
 some (.ok ((⟨4,[],0,[]⟩:Typ),at5)))
def a9x (j4:List Tok) (at2:Int) (l5:Int):Rs (Typ × Int) (Int × Int) -> Out
 | .ok (Y4,a2H)=>.ret (.agg [.i Y4.kind,.str Y4.name,.i Y4.n,.sl l6 Y4.args]) (hP q9 j4 a2H l5)
 | .pan (a5i,a8f)=>.pan (.iface 110 (.agg [.i 20,.i a5i])) (hP q9 j4 a8f l5)
def P9 (a8K:Str) (E8:List Tok) (at3:Int) (K3:Int):Option (Rs Int (Int × Int)) :=
 (J5 a8K E8 at3 K3).bind fun (r5,at6) =>
 cond (!r5) (
 F9 (Y9 E8 at6 K3) (fun (_:Empty)=>none) fun at7 =>
 some (.pan (at7,at6))) (
 some (.ok at6))
def a8v (a8K:Str) (E8:List Tok) (at3:Int) (K3:Int):Rs Int (Int × Int) -> Out
 | .ok a7y=>.ret (.tuple []) (hP q9 E8 a7y K3)
 | .pan (a5i,a8f)=>.pan (.iface 110 (.agg [.i 20,.i a5i])) (hP q9 E8 a8f K3)
structure I8 where
 J9:(List Tok) -> Int -> Int -> Option (Rs (Nod × Int) (Int × Int))
def a0d (n:Nat) (Φ:I8) (l5:Int) (j4:List Tok):Nat -> Int -> (List Nod) -> Option (Lr (Int × List Nod) (Rs (Nod × Int) (Int × Int)))
  | 0,_,_=>none
  | m6 + 1,a6P,l510 =>
      (D9 [44] j4 a6P l5).bind fun (r30,at31) =>
      cond r30 (
      F9 (Φ.J9 j4 at31 l5) (fun (r32,at33) =>
      (app 144 l510 ([r32]:List Nod)).bind fun l34 =>
      a0d n Φ l5 j4 m6 at33 l34) fun (at35,at36) =>
      some (.out (.pan (at35,at36)))) (
      some (.brk (at31,l510)))
def a1z (n:Nat) (Φ:I8) (j4:List Tok) (at2:Int) (l5:Int):Option (Rs (Nod × Int) (Int × Int)) :=
 (G8 0 j4 at2 l5).bind fun at4 =>
 V8 (α:=Int × Int × Str × Int × List Nod) (
 (D6 0 1 [95] j4 at2 l5).bind fun r5 =>
 cond r5 (
 some (.brk ((w64 (at2 + 1)),40,[],0,([]:List Nod)))) (
 (D6 0 1 [] j4 at2 l5).bind fun r6 =>
 cond r6 (
 F9 (N8 j4 at2 l5) (fun r7 =>
 some (.brk ((w64 (at2 + 1)),41,r7,0,([]:List Nod)))) fun at8 =>
 some (.out (.pan (at8,at2)))) (
 (D6 0 3 [] j4 at2 l5).bind fun r9 =>
 cond r9 (
 F9 (a0n j4 at2 l5) (fun r10 =>
 some (.brk ((w64 (at2 + 1)),42,[],r10,([]:List Nod)))) fun at11 =>
 some (.out (.pan (at11,at2)))) (
 (D9 [45] j4 at2 l5).bind fun (r12,at13) =>
 cond r12 (
 F9 (a0n j4 at13 l5) (fun r14 =>
 some (.brk ((w64 (at13 + 1)),42,[],(w64 (0 - r14)),([]:List Nod)))) fun at15 =>
 some (.out (.pan (at15,at13)))) (
 (D6 0 4 [] j4 at13 l5).bind fun r16 =>
 cond r16 (
 F9 (M7 4 j4 at13 l5) (fun r17 =>
 some (.brk ((w64 (at13 + 1)),44,r17.text,0,([]:List Nod)))) fun at18 =>
 some (.out (.pan (at18,at13)))) (
 (J5 [116,114,117,101] j4 at13 l5).bind fun (r19,at20) =>
 cond r19 (
 some (.brk (at20,43,[],1,([]:List Nod)))) (
 (J5 [102,97,108,115,101] j4 at20 l5).bind fun (r21,at22) =>
 cond r21 (
 some (.brk (at22,43,[],0,([]:List Nod)))) (
 F9 (F3 [46] j4 at22 l5) (fun at23 =>
 F9 (N8 j4 at23 l5) (fun r24 =>
 (D9 [40] j4 (w64 (at23 + 1)) l5).bind fun (r25,at26) =>
 cond r25 (
 F9 (Φ.J9 j4 at26 l5) (fun (r27,at28) =>
 (app 144 ([]:List Nod) ([r27]:List Nod)).bind fun l29 =>
 a5h (α:=Int × List Nod) (
 a0d n Φ l5 j4 n at28 l29) fun (at523,l524) =>
 F9 (F3 [41] j4 at523 l5) (fun at37 =>
 some (.brk (at37,45,r24,0,l524))) fun (at38,at39) =>
 some (.out (.pan (at38,at39)))) fun (at40,at41) =>
 some (.out (.pan (at40,at41)))) (
 some (.brk (at26,45,r24,0,([]:List Nod))))) fun at42 =>
 some (.out (.pan (at42,at23)))) fun (at43,at44) =>
 some (.out (.pan (at43,at44))))))))))) fun (a5E,op513,s514,n515,l516) =>
 some (.ok ((⟨op513,s514,n515,(⟨0,[],0,[]⟩:Typ),[],l516,at4⟩:Nod),a5E))
def a09 (j4:List Tok) (at2:Int) (l5:Int):Rs (Nod × Int) (Int × Int) -> Out
 | .ok (a1x,a4K)=>.ret (.agg (c0 a1x.op a1x.s a1x.n a1x.t.kind a1x.t.name a1x.t.n (.sl l6 a1x.t.args) (.sl l6 a1x.ts) (.sl A9 a1x.l) a1x.at_)) (hP q9 j4 a4K l5)
 | .pan (a5k,at508)=>.pan (.iface 110 (.agg [.i 20,.i a5k])) (hP q9 j4 at508 l5)
def I8.fs:Nat -> I8
 | 0=>⟨fun _ _ _=>none⟩
 | n + 1=>⟨a1z n (I8.fs n)⟩
def J9 (n:Nat) (j4:List Tok) (at2:Int) (l5:Int):Option (Rs (Nod × Int) (Int × Int)):=(I8.fs n).J9 j4 at2 l5
def a1B (n:Nat):Nat -> Nod -> Option (Nod)
  | 0,_=>none
  | m1 + 1,n501 =>
      cond (eqB n501.op 55) (
      (idx' n501.l 0).bind fun x2 =>
      a1B n m1 x2) (
      some n501)
def a6s (n:Nat) (e1:Nod):Option (Bool) :=
 Option.bind (α:=Nod) (
 a1B n n e1) fun n503 =>
 some ((eqB n503.op 54))
def b4p (e1:Nod):Bool -> Out
 | b4l=>.ret (.bool b4l) []
def a7f:Option (Unit) :=
 some (())
def b3o:Unit -> Out
 | _=>.ret (.sl a10 ([(⟨[[124,124]],false⟩:K8),(⟨[[38,38]],false⟩:K8),(⟨[[61,61],[33,61],[60],[60,61],[62],[62,61]],true⟩:K8),(⟨[[43],[45]],false⟩:K8),(⟨[[42],[47],[37]],false⟩:K8)]:List K8)) []
def U8 (n:Nat) (s1:List Str) (v2:Str):Nat -> Int -> Option (Lr (Unit) (Int))
  | 0,_=>none
  | m2 + 1,b5O =>
      cond (ltB b5O (List.length s1:Int)) (
      (idx' s1 b5O).bind fun x3 =>
      cond (eqS v2 x3) (
      some (.out (b5O))) (
      U8 n s1 v2 m2 (w64 (b5O + 1)))) (
      some (.brk ()))
def a1M (n:Nat) (s1:List Str) (v2:Str):Option (Int) :=
 V8 (α:=Unit) (
 U8 n s1 v2 n 0) fun _ =>
 some ((-1))
def a3E (s1:List Str) (v2:Str):Int -> Out
 | r502=>.ret (.i r502) []
def Y2 (n:Nat) (s1:List Str) (v2:Str):Option (Bool) :=
 (a1M n s1 v2).bind fun r3 =>
 some ((leB 0 r3))
def a5L (s1:List Str) (v2:Str):Bool -> Out
 | Y4=>.ret (.bool Y4) []
structure j3 where
 x9:(List Tok) -> Int -> Int -> Option (Rs (Nod × Int) (o7 × Int))
 I4:(List Tok) -> Int -> Int -> Option (Rs (Nod × Int) (o7 × Int))
 a0k:(List Tok) -> Int -> Int -> Option (Rs (Nod × Int) (o7 × Int))
 a0B:(List Tok) -> Int -> Int -> Option (Rs (Nod × Int) (o7 × Int))
 K7:(List Tok) -> Int -> Int -> Option (Rs (List Nod × Int) (o7 × Int))
 a0u:(List Tok) -> Int -> Int -> Option (Rs (Nod × Int) (o7 × Int))
 a0m:(List Tok) -> Int -> Int -> Option (Rs (Nod × Int) (o7 × Int))
 O5:(List Tok) -> Int -> Int -> Option (Rs (List Nod × Int) (o7 × Int))
 P5:(List Tok) -> Int -> Int -> Option (Rs (Nod × Int) (o7 × Int))
 G5:(List Tok) -> Int -> Int -> Option (Rs (Nod × Int) (o7 × Int))
 a0O:(List Tok) -> Int -> Int -> Option (Rs (Nod × Int) (o7 × Int))
 M9:(List Tok) -> Int -> Int -> Option (Rs (Nod × Int) (o7 × Int))
 a0S:(List Tok) -> Int -> Int -> Option (Rs (Nod × Int) (o7 × Int))
 Y3:Int -> (List Tok) -> Int -> Int -> Option (Rs (List Nod × Int × Int) (o7 × Int))
 P6:Nod -> (List K8) -> (List Tok) -> Int -> Int -> Option (Rs (Nod × Int) (o7 × Int))
def a2w (n:Nat) (Φ:j3) (j4:List Tok) (at2:Int) (l5:Int):Option (Rs (Nod × Int) (o7 × Int)) :=
 F9 (Φ.I4 j4 at2 l5) (fun (r4,at5) =>
 (a7f).bind fun _ =>
 F9 (Φ.P6 r4 ([(⟨[[124,124]],false⟩:K8),(⟨[[38,38]],false⟩:K8),(⟨[[61,61],[33,61],[60],[60,61],[62],[62,61]],true⟩:K8),(⟨[[43],[45]],false⟩:K8),(⟨[[42],[47],[37]],false⟩:K8)]:List K8) j4 at5 l5) (fun (r6,at7) =>
 some (.ok (r6,at7))) fun (e8,at9) =>
 some (.pan (e8,at9))) fun (e10,at11) =>
 some (.pan (e10,at11))
def a3Y (j4:List Tok) (at2:Int) (l5:Int):Rs (Nod × Int) (o7 × Int) -> Out
 | .ok (a1x,a4K)=>.ret (.agg (c0 a1x.op a1x.s a1x.n a1x.t.kind a1x.t.name a1x.t.n (.sl l6 a1x.t.args) (.sl l6 a1x.ts) (.sl A9 a1x.l) a1x.at_)) (hP q9 j4 a4K l5)
 | .pan (e519,at520)=>.pan (.iface 110 (.agg [.i e519.fault.code,.i e519.fault.at_])) (hP q9 j4 at520 l5)
def a14 (n:Nat) (Φ:j3) (j4:List Tok) (at2:Int) (l5:Int):Option (Rs (Nod × Int) (o7 × Int)) :=
 (G8 66 j4 at2 l5).bind fun at4 =>
 V8 (α:=Int × Int) (
 (D9 [45] j4 at2 l5).bind fun (r5,at6) =>
 cond (!r5) (
 (D9 [33] j4 at6 l5).bind fun (r7,at8) =>
 cond (!r7) (
 F9 (Φ.a0k j4 at8 l5) (fun (r9,at10) =>
 some (.out (.ok (r9,at10)))) fun (e11,at12) =>
 some (.out (.pan (e11,at12)))) (
 some (.brk (at8,65)))) (
 some (.brk (at6,66)))) fun (a7y,op502) =>
 F9 (Φ.I4 j4 a7y l5) (fun (r13,at14) =>
 some (.ok ((⟨op502,[],0,(⟨0,[],0,[]⟩:Typ),[],[r13],at4⟩:Nod),at14))) fun (e15,at16) =>
 some (.pan (e15,at16))
def a3K (j4:List Tok) (at2:Int) (l5:Int):Rs (Nod × Int) (o7 × Int) -> Out
 | .ok (b4d,a8f)=>.ret (.agg (c0 b4d.op b4d.s b4d.n b4d.t.kind b4d.t.name b4d.t.n (.sl l6 b4d.t.args) (.sl l6 b4d.ts) (.sl A9 b4d.l) b4d.at_)) (hP q9 j4 a8f l5)
 | .pan (e535,b54)=>.pan (.iface 110 (.agg [.i e535.fault.code,.i e535.fault.at_])) (hP q9 j4 b54 l5)
def Q0 (n:Nat) (Φ:j3) (l5:Int) (j4:List Tok):Nat -> Bool -> Int -> Nod -> Option (Rs (Nod × Int) (o7 × Int))
  | 0,_,_,_=>none
  | m4 + 1,b7M,b9k,n539 =>
      V8 (α:=Int × Int × Str × List Nod) (
      (D9 [46] j4 b9k l5).bind fun (r7,at8) =>
      cond r7 (
      F9 (N8 j4 at8 l5) (fun r9 =>
      a5h (α:=Int × Int × List Nod) (
      (D6 0 8 [40] j4 (w64 (at8 + 1)) l5).bind fun r10 =>
      cond r10 (
      F9 (Φ.K7 j4 (w64 (at8 + 1)) l5) (fun (r11,at12) =>
      (app 144 ([n539]:List Nod) r11).bind fun l13 =>
      some (.brk (at12,57,l13))) fun (e14,at15) =>
      some (.out (.pan (e14,at15)))) (
      some (.brk ((w64 (at8 + 1)),55,([n539]:List Nod))))) fun (b8h,op548,l549) =>
      some (.brk (b8h,op548,r9,l549))) fun at16 =>
      some (.out (.pan ((⟨(⟨20,at16⟩:Flt)⟩:o7),at8)))) (
      (D6 0 8 [40] j4 at8 l5).bind fun r17 =>
      cond r17 (
      cond b7M (
      F9 (Φ.K7 j4 at8 l5) (fun (r18,at19) =>
      some (.brk (at19,56,n539.s,r18))) fun (e20,at21) =>
      some (.out (.pan (e20,at21)))) (
      F9 (Φ.K7 j4 at8 l5) (fun (r22,at23) =>
      (app 144 ([n539]:List Nod) r22).bind fun l24 =>
      some (.brk (at23,60,[],l24))) fun (e25,at26) =>
      some (.out (.pan (e25,at26))))) (
      some (.out (.ok (n539,at8)))))) fun (at550,op551,s552,l553) =>
      Q0 n Φ l5 j4 m4 false at550 (⟨op551,s552,0,(⟨0,[],0,[]⟩:Typ),[],l553,n539.at_⟩:Nod)
def a1y (n:Nat) (Φ:j3) (j4:List Tok) (at2:Int) (l5:Int):Option (Rs (Nod × Int) (o7 × Int)) :=
 (D6 0 1 [] j4 at2 l5).bind fun r4 =>
 F9 (Φ.a0B j4 at2 l5) (fun (r5,at6) =>
 Q0 n Φ l5 j4 n r4 at6 r5) fun (e27,at28) =>
 some (.pan (e27,at28))
def a1Z (j4:List Tok) (at2:Int) (l5:Int):Rs (Nod × Int) (o7 × Int) -> Out
 | .ok (Y4,a2H)=>.ret (.agg (c0 Y4.op Y4.s Y4.n Y4.t.kind Y4.t.name Y4.t.n (.sl l6 Y4.t.args) (.sl l6 Y4.ts) (.sl A9 Y4.l) Y4.at_)) (hP q9 j4 a2H l5)
 | .pan (e542,at543)=>.pan (.iface 110 (.agg [.i e542.fault.code,.i e542.fault.at_])) (hP q9 j4 at543 l5)
def a0x (n:Nat) (Φ:j3) (l5:Int) (j4:List Tok):Nat -> Int -> (List Nod) -> Option (Lr (Int × List Nod) (Rs (Nod × Int) (o7 × Int)))
  | 0,_,_=>none
  | m27 + 1,at529,l530 =>
      (D9 [44] j4 at529 l5).bind fun (r34,at35) =>
      cond r34 (
      F9 (Φ.x9 j4 at35 l5) (fun (r36,at37) =>
      (app 144 l530 ([r36]:List Nod)).bind fun l38 =>
      a0x n Φ l5 j4 m27 at37 l38) fun (e39,at40) =>
      some (.out (.pan (e39,at40)))) (
      some (.brk (at35,l530)))
def a04 (n:Nat) (Φ:j3) (j4:List Tok) (at2:Int) (l5:Int):Option (Rs (Nod × Int) (o7 × Int)) :=
 (G8 0 j4 at2 l5).bind fun at4 =>
 V8 (α:=Int × Int × Str × Int × Int × Str × Int × List Typ × List Nod) (
 (D6 0 3 [] j4 at2 l5).bind fun r5 =>
 cond r5 (
 F9 (a0n j4 at2 l5) (fun r6 =>
 some (.brk ((w64 (at2 + 1)),50,[],r6,0,[],0,([]:List Typ),([]:List Nod)))) fun at7 =>
 some (.out (.pan ((⟨(⟨20,at7⟩:Flt)⟩:o7),at2)))) (
 (D6 0 4 [] j4 at2 l5).bind fun r8 =>
 cond r8 (
 F9 (M7 4 j4 at2 l5) (fun r9 =>
 some (.brk ((w64 (at2 + 1)),52,r9.text,0,0,[],0,([]:List Typ),([]:List Nod)))) fun at10 =>
 some (.out (.pan ((⟨(⟨20,at10⟩:Flt)⟩:o7),at2)))) (
 (D6 0 5 [] j4 at2 l5).bind fun r11 =>
 cond r11 (
 F9 (Φ.a0u j4 at2 l5) (fun (r12,at13) =>
 some (.out (.ok (r12,at13)))) fun (e14,at15) =>
 some (.out (.pan (e14,at15)))) (
 (J5 [116,114,117,101] j4 at2 l5).bind fun (r16,at17) =>
 cond r16 (
 some (.brk (at17,51,[],1,0,[],0,([]:List Typ),([]:List Nod)))) (
 (J5 [102,97,108,115,101] j4 at17 l5).bind fun (r18,at19) =>
 cond r18 (
 some (.brk (at19,51,[],0,0,[],0,([]:List Typ),([]:List Nod)))) (
 (D6 0 1 [] j4 at19 l5).bind fun r20 =>
 cond r20 (
 F9 (N8 j4 at19 l5) (fun r21 =>
 some (.brk ((w64 (at19 + 1)),54,r21,0,0,[],0,([]:List Typ),([]:List Nod)))) fun at22 =>
 some (.out (.pan ((⟨(⟨20,at22⟩:Flt)⟩:o7),at19)))) (
 (J5 [99,111,110,115,117,109,101] j4 at19 l5).bind fun (r23,at24) =>
 cond r23 (
 F9 (N8 j4 at24 l5) (fun r25 =>
 some (.brk ((w64 (at24 + 1)),61,r25,0,0,[],0,([]:List Typ),([]:List Nod)))) fun at26 =>
 some (.out (.pan ((⟨(⟨20,at26⟩:Flt)⟩:o7),at24)))) (
 (D9 [91] j4 at24 l5).bind fun (r27,at28) =>
 cond r27 (
 (D9 [93] j4 at28 l5).bind fun (r29,at30) =>
 cond r29 (
 some (.brk (at30,67,[],0,0,[],0,([]:List Typ),([]:List Nod)))) (
 F9 (Φ.x9 j4 at30 l5) (fun (r31,at32) =>
 (app 144 ([]:List Nod) ([r31]:List Nod)).bind fun l33 =>
 a5h (α:=Int × List Nod) (
 a0x n Φ l5 j4 n at32 l33) fun (b8h,l548) =>
 F9 (F3 [93] j4 b8h l5) (fun at41 =>
 some (.brk (at41,67,[],0,0,[],0,([]:List Typ),l548))) fun (at42,at43) =>
 some (.out (.pan ((⟨(⟨20,at42⟩:Flt)⟩:o7),at43)))) fun (e44,at45) =>
 some (.out (.pan (e44,at45))))) (
 (D9 [40] j4 at28 l5).bind fun (r46,at47) =>
 cond r46 (
 F9 (Φ.x9 j4 at47 l5) (fun (r48,at49) =>
 F9 (F3 [41] j4 at49 l5) (fun at50 =>
 some (.out (.ok (r48,at50)))) fun (at51,at52) =>
 some (.out (.pan ((⟨(⟨20,at51⟩:Flt)⟩:o7),at52)))) fun (e53,at54) =>
 some (.out (.pan (e53,at54)))) (
 (D6 0 8 [123] j4 at47 l5).bind fun r55 =>
 cond r55 (
 F9 (Φ.a0m j4 at47 l5) (fun (r56,at57) =>
 some (.out (.ok (r56,at57)))) fun (e58,at59) =>
 some (.out (.pan (e58,at59)))) (
 F9 (U0 n true j4 at47 l5) (fun (r60,at61) =>
 (D6 0 8 [40] j4 at61 l5).bind fun r62 =>
 cond r62 (
 F9 (Φ.K7 j4 at61 l5) (fun (r63,at64) =>
 some (.brk (at64,59,[],0,r60.kind,r60.name,r60.n,r60.args,r63))) fun (e65,at66) =>
 some (.out (.pan (e65,at66)))) (
 F9 (F3 [46] j4 at61 l5) (fun at67 =>
 F9 (N8 j4 at67 l5) (fun r68 =>
 (D6 0 8 [40] j4 (w64 (at67 + 1)) l5).bind fun r69 =>
 cond r69 (
 F9 (Φ.K7 j4 (w64 (at67 + 1)) l5) (fun (r70,at71) =>
 some (.brk (at71,58,r68,1,r60.kind,r60.name,r60.n,r60.args,r70))) fun (e72,at73) =>
 some (.out (.pan (e72,at73)))) (
 some (.brk ((w64 (at67 + 1)),58,r68,0,r60.kind,r60.name,r60.n,r60.args,([]:List Nod))))) fun at74 =>
 some (.out (.pan ((⟨(⟨20,at74⟩:Flt)⟩:o7),at67)))) fun (at75,at76) =>
 some (.out (.pan ((⟨(⟨20,at75⟩:Flt)⟩:o7),at76))))) fun (at77,at78) =>
 some (.out (.pan ((⟨(⟨20,at77⟩:Flt)⟩:o7),at78)))))))))))))) fun (a8S,op533,s534,n535,c0N,c0t,n538,c0o,l540) =>
 some (.ok ((⟨op533,s534,n535,(⟨c0N,c0t,n538,c0o⟩:Typ),[],l540,at4⟩:Nod),a8S))
def a3a (j4:List Tok) (at2:Int) (l5:Int):Rs (Nod × Int) (o7 × Int) -> Out
 | .ok (a1x,a4K)=>.ret (.agg (c0 a1x.op a1x.s a1x.n a1x.t.kind a1x.t.name a1x.t.n (.sl l6 a1x.t.args) (.sl l6 a1x.ts) (.sl A9 a1x.l) a1x.at_)) (hP q9 j4 a4K l5)
 | .pan (e577,at578)=>.pan (.iface 110 (.agg [.i e577.fault.code,.i e577.fault.at_])) (hP q9 j4 at578 l5)
def a0U (n:Nat) (Φ:j3) (l5:Int) (j4:List Tok):Nat -> (List Nod) -> Int -> Option (Lr (List Nod × Int) (Rs (List Nod × Int) (o7 × Int)))
  | 0,_,_=>none
  | m5 + 1,l504,b0J =>
      (G8 62 j4 b0J l5).bind fun at7 =>
      a5h (α:=List Nod × Int) (
      (D9 [38] j4 b0J l5).bind fun (r8,at9) =>
      cond r8 (
      F9 (a1h n j4 at9 l5) (fun (r10,at11) =>
      (app 144 l504 ([(⟨62,[],0,(⟨0,[],0,[]⟩:Typ),[],[r10],at7⟩:Nod)]:List Nod)).bind fun l12 =>
      some (.brk (l12,at11))) fun (at13,at14) =>
      some (.out (.pan ((⟨(⟨20,at13⟩:Flt)⟩:o7),at14)))) (
      F9 (Φ.x9 j4 at9 l5) (fun (r15,at16) =>
      (app 144 l504 ([r15]:List Nod)).bind fun l17 =>
      some (.brk (l17,at16))) fun (e18,at19) =>
      some (.out (.pan (e18,at19))))) fun (l527,b48) =>
      (D9 [44] j4 b48 l5).bind fun (r20,at21) =>
      cond (!r20) (
      some (.brk (l527,at21))) (
      a0U n Φ l5 j4 m5 l527 at21)
def a2o (n:Nat) (Φ:j3) (j4:List Tok) (at2:Int) (l5:Int):Option (Rs (List Nod × Int) (o7 × Int)) :=
 F9 (F3 [40] j4 at2 l5) (fun at4 =>
 (D9 [41] j4 at4 l5).bind fun (r5,at6) =>
 cond r5 (
 some (.ok (([]:List Nod),at6))) (
 V8 (α:=List Nod × Int) (
 a0U n Φ l5 j4 n ([]:List Nod) at6) fun (b4e,a5k) =>
 F9 (F3 [41] j4 a5k l5) (fun at22 =>
 some (.ok (b4e,at22))) fun (at23,at24) =>
 some (.pan ((⟨(⟨20,at23⟩:Flt)⟩:o7),at24)))) fun (at25,at26) =>
 some (.pan ((⟨(⟨20,at25⟩:Flt)⟩:o7),at26))
def a2Z (j4:List Tok) (at2:Int) (l5:Int):Rs (List Nod × Int) (o7 × Int) -> Out
 | .ok (r533,b6G)=>.ret (.sl A9 r533) (hP q9 j4 b6G l5)
 | .pan (e555,b0i)=>.pan (.iface 110 (.agg [.i e555.fault.code,.i e555.fault.at_])) (hP q9 j4 b0i l5)
def a0V (n:Nat) (Φ:j3) (at4:Int) (l5:Int) (j4:List Tok):Nat -> Int -> (List Nod) -> Str -> Int -> Option (Rs (Nod × Int) (o7 × Int))
  | 0,_,_,_,_=>none
  | m5 + 1,a5k,l508,s509,b49 =>
      F9 (Φ.x9 j4 a5k l5) (fun (r7,at8) =>
      (app 144 l508 ([r7]:List Nod)).bind fun l9 =>
      (G8 52 j4 at8 l5).bind fun at10 =>
      (D6 0 6 [] j4 at8 l5).bind fun r11 =>
      cond r11 (
      F9 (M7 6 j4 at8 l5) (fun r12 =>
      (app 144 l9 ([(⟨52,r12.text,0,(⟨0,[],0,[]⟩:Typ),[],[],at10⟩:Nod)]:List Nod)).bind fun l13 =>
      a0V n Φ at4 l5 j4 m5 (w64 (at8 + 1)) l13 r12.text at10) fun at14 =>
      some (.pan ((⟨(⟨20,at14⟩:Flt)⟩:o7),at8))) (
      F9 (M7 7 j4 at8 l5) (fun r15 =>
      (app 144 l9 ([(⟨52,r15.text,0,(⟨0,[],0,[]⟩:Typ),[],[],at10⟩:Nod)]:List Nod)).bind fun l16 =>
      some (.ok ((⟨53,[],0,(⟨0,[],0,[]⟩:Typ),[],l16,at4⟩:Nod),(w64 (at8 + 1))))) fun at17 =>
      some (.pan ((⟨(⟨20,at17⟩:Flt)⟩:o7),at8)))) fun (e18,at19) =>
      some (.pan (e18,at19))
def a1O (n:Nat) (Φ:j3) (j4:List Tok) (at2:Int) (l5:Int):Option (Rs (Nod × Int) (o7 × Int)) :=
 (G8 53 j4 at2 l5).bind fun at4 =>
 (G8 52 j4 at2 l5).bind fun at5 =>
 F9 (M7 5 j4 at2 l5) (fun r6 =>
 a0V n Φ at4 l5 j4 n (w64 (at2 + 1)) ([(⟨52,r6.text,0,(⟨0,[],0,[]⟩:Typ),[],[],at5⟩:Nod)]:List Nod) r6.text at5) fun at20 =>
 some (.pan ((⟨(⟨20,at20⟩:Flt)⟩:o7),at2))
def a5b (j4:List Tok) (at2:Int) (l5:Int):Rs (Nod × Int) (o7 × Int) -> Out
 | .ok (a3Z,a5E)=>.ret (.agg (c0 a3Z.op a3Z.s a3Z.n a3Z.t.kind a3Z.t.name a3Z.t.n (.sl l6 a3Z.t.args) (.sl l6 a3Z.ts) (.sl A9 a3Z.l) a3Z.at_)) (hP q9 j4 a5E l5)
 | .pan (e537,b9k)=>.pan (.iface 110 (.agg [.i e537.fault.code,.i e537.fault.at_])) (hP q9 j4 b9k l5)
def a1A (n:Nat) (Φ:j3) (j4:List Tok) (at2:Int) (l5:Int):Option (Rs (Nod × Int) (o7 × Int)) :=
 (G8 63 j4 at2 l5).bind fun at4 =>
 (G8 20 j4 at2 l5).bind fun at5 =>
 F9 (F3 [123] j4 at2 l5) (fun at6 =>
 F9 (a03 n j4 at6 l5) (fun (r7,at8) =>
 F9 (a1J n j4 at8 l5) (fun (r9,at10) =>
 F9 (P9 [105,110] j4 at10 l5) (fun at11 =>
 F9 (Φ.O5 j4 at11 l5) (fun (r12,at13) =>
 (app 144 r7 ([(⟨20,[],0,(⟨0,[],0,[]⟩:Typ),[],r12,at5⟩:Nod)]:List Nod)).bind fun l14 =>
 some (.ok ((⟨63,[],0,r9,[],l14,at4⟩:Nod),at13))) fun (e15,at16) =>
 some (.pan (e15,at16))) fun (at17,at18) =>
 some (.pan ((⟨(⟨20,at17⟩:Flt)⟩:o7),at18))) fun (at19,at20) =>
 some (.pan ((⟨(⟨20,at19⟩:Flt)⟩:o7),at20))) fun (at21,at22) =>
 some (.pan ((⟨(⟨20,at21⟩:Flt)⟩:o7),at22))) fun (at23,at24) =>
 some (.pan ((⟨(⟨20,at23⟩:Flt)⟩:o7),at24))
def a4H (j4:List Tok) (at2:Int) (l5:Int):Rs (Nod × Int) (o7 × Int) -> Out
 | .ok (b3j,at508)=>.ret (.agg (c0 b3j.op b3j.s b3j.n b3j.t.kind b3j.t.name b3j.t.n (.sl l6 b3j.t.args) (.sl l6 b3j.ts) (.sl A9 b3j.l) b3j.at_)) (hP q9 j4 at508 l5)
 | .pan (e521,a8c)=>.pan (.iface 110 (.agg [.i e521.fault.code,.i e521.fault.at_])) (hP q9 j4 a8c l5)
def X4 (n:Nat) (Φ:j3) (l5:Int) (j4:List Tok):Nat -> (List Nod) -> Int -> Option (Lr (List Nod × Int) (Rs (List Nod × Int) (o7 × Int)))
  | 0,_,_=>none
  | m2 + 1,l503,a8f =>
      (D9 [125] j4 a8f l5).bind fun (r4,at5) =>
      cond (!r4) (
      F9 (Φ.P5 j4 at5 l5) (fun (r6,at7) =>
      (app 144 l503 ([r6]:List Nod)).bind fun l8 =>
      X4 n Φ l5 j4 m2 l8 at7) fun (e9,at10) =>
      some (.out (.pan (e9,at10)))) (
      some (.brk (l503,at5)))
def a00 (n:Nat) (Φ:j3) (j4:List Tok) (at2:Int) (l5:Int):Option (Rs (List Nod × Int) (o7 × Int)) :=
 V8 (α:=List Nod × Int) (
 X4 n Φ l5 j4 n ([]:List Nod) at2) fun (b2t,a5E) =>
 some (.ok (b2t,a5E))
def a2D (j4:List Tok) (at2:Int) (l5:Int):Rs (List Nod × Int) (o7 × Int) -> Out
 | .ok (b0z,b2N)=>.ret (.sl A9 b0z) (hP q9 j4 b2N l5)
 | .pan (e531,a8S)=>.pan (.iface 110 (.agg [.i e531.fault.code,.i e531.fault.at_])) (hP q9 j4 a8S l5)
def J8 (n:Nat) (Φ:j3) (j4:List Tok) (at2:Int) (l5:Int):Option (Rs (Nod × Int) (o7 × Int)) :=
 Option.bind (α:=Str) (
 (D6 0 9 [] j4 at2 l5).bind fun r4 =>
 cond r4 (
 (idx' j4 at2).bind fun x5 =>
 some x5.text) (
 some [])) fun a4S =>
 Option.bind (α:=Bool) (
 cond (eqS a4S [108,101,116]) (
 some (eqS a4S [108,101,116])) (
 some (eqS a4S [118,97,114]))) fun x511 =>
 cond x511 (
 F9 (Φ.a0O j4 at2 l5) (fun (r6,at7) =>
 some (.ok (r6,at7))) fun (e8,at9) =>
 some (.pan (e8,at9))) (
 cond (eqS a4S [105,102]) (
 F9 (Φ.M9 j4 at2 l5) (fun (r10,at11) =>
 some (.ok (r10,at11))) fun (e12,at13) =>
 some (.pan (e12,at13))) (
 cond (eqS a4S [109,97,116,99,104]) (
 F9 (Φ.a0S j4 at2 l5) (fun (r14,at15) =>
 some (.ok (r14,at15))) fun (e16,at17) =>
 some (.pan (e16,at17))) (
 cond (eqS a4S [100,101,102,101,114]) (
 F9 (Φ.Y3 31 j4 at2 l5) (fun (l18,at19,at20) =>
 some (.ok ((⟨31,[],0,(⟨0,[],0,[]⟩:Typ),[],l18,at19⟩:Nod),at20))) fun (e21,at22) =>
 some (.pan (e21,at22))) (
 cond (eqS a4S [119,104,105,108,101]) (
 (G8 25 j4 at2 l5).bind fun at23 =>
 F9 (Φ.x9 j4 (w64 (at2 + 1)) l5) (fun (r24,at25) =>
 F9 (Φ.G5 j4 at25 l5) (fun (r26,at27) =>
 (app 144 ([r24]:List Nod) ([r26]:List Nod)).bind fun l28 =>
 some (.ok ((⟨25,[],0,(⟨0,[],0,[]⟩:Typ),[],l28,at23⟩:Nod),at27))) fun (e29,at30) =>
 some (.pan (e29,at30))) fun (e31,at32) =>
 some (.pan (e31,at32))) (
 cond (eqS a4S [114,101,116,117,114,110]) (
 (G8 28 j4 at2 l5).bind fun at33 =>
 V8 (α:=Int × List Nod) (
 (D9 [59] j4 (w64 (at2 + 1)) l5).bind fun (r34,at35) =>
 cond (!r34) (
 F9 (Φ.x9 j4 at35 l5) (fun (r36,at37) =>
 F9 (F3 [59] j4 at37 l5) (fun at38 =>
 some (.brk (at38,([r36]:List Nod)))) fun (at39,at40) =>
 some (.out (.pan ((⟨(⟨20,at39⟩:Flt)⟩:o7),at40)))) fun (e41,at42) =>
 some (.out (.pan (e41,at42)))) (
 some (.brk (at35,([]:List Nod))))) fun (a3S,l519) =>
 some (.ok ((⟨28,[],0,(⟨0,[],0,[]⟩:Typ),[],l519,at33⟩:Nod),a3S))) (
 cond (eqS a4S [116,104,114,111,119]) (
 (G8 29 j4 at2 l5).bind fun at43 =>
 F9 (Φ.x9 j4 (w64 (at2 + 1)) l5) (fun (r44,at45) =>
 F9 (F3 [59] j4 at45 l5) (fun at46 =>
 some (.ok ((⟨29,[],0,(⟨0,[],0,[]⟩:Typ),[],[r44],at43⟩:Nod),at46))) fun (at47,at48) =>
 some (.pan ((⟨(⟨20,at47⟩:Flt)⟩:o7),at48))) fun (e49,at50) =>
 some (.pan (e49,at50))) (
 cond (eqS a4S [100,111]) (
 F9 (Φ.Y3 30 j4 at2 l5) (fun (l51,at52,at53) =>
 F9 (P9 [99,97,116,99,104] j4 at53 l5) (fun at54 =>
 F9 (N8 j4 at54 l5) (fun r55 =>
 F9 (Φ.G5 j4 (w64 (at54 + 1)) l5) (fun (r56,at57) =>
 (app 144 l51 ([r56]:List Nod)).bind fun l58 =>
 some (.ok ((⟨30,r55,0,(⟨0,[],0,[]⟩:Typ),[],l58,at52⟩:Nod),at57))) fun (e59,at60) =>
 some (.pan (e59,at60))) fun at61 =>
 some (.pan ((⟨(⟨20,at61⟩:Flt)⟩:o7),at54))) fun (at62,at63) =>
 some (.pan ((⟨(⟨20,at62⟩:Flt)⟩:o7),at63))) fun (e64,at65) =>
 some (.pan (e64,at65))) (
 F9 (Φ.x9 j4 at2 l5) (fun (r66,at67) =>
 (D6 0 8 [61] j4 at67 l5).bind fun r68 =>
 cond r68 (
 (a6s n r66).bind fun r69 =>
 cond (!r69) (
 some (.pan ((⟨(⟨22,r66.at_⟩:Flt)⟩:o7),at67))) (
 F9 (Φ.x9 j4 (w64 (at67 + 1)) l5) (fun (r70,at71) =>
 (app 144 ([r66]:List Nod) ([r70]:List Nod)).bind fun l72 =>
 F9 (F3 [59] j4 at71 l5) (fun at73 =>
 some (.ok ((⟨22,[],0,(⟨0,[],0,[]⟩:Typ),[],l72,r66.at_⟩:Nod),at73))) fun (at74,at75) =>
 some (.pan ((⟨(⟨20,at74⟩:Flt)⟩:o7),at75))) fun (e76,at77) =>
 some (.pan (e76,at77)))) (
 F9 (F3 [59] j4 at67 l5) (fun at78 =>
 some (.ok ((⟨23,[],0,(⟨0,[],0,[]⟩:Typ),[],[r66],r66.at_⟩:Nod),at78))) fun (at79,at80) =>
 some (.pan ((⟨(⟨20,at79⟩:Flt)⟩:o7),at80)))) fun (e81,at82) =>
 some (.pan (e81,at82))))))))))
def a2O (j4:List Tok) (at2:Int) (l5:Int):Rs (Nod × Int) (o7 × Int) -> Out
 | .ok (a7F,a5k)=>.ret (.agg (c0 a7F.op a7F.s a7F.n a7F.t.kind a7F.t.name a7F.t.n (.sl l6 a7F.t.args) (.sl l6 a7F.ts) (.sl A9 a7F.l) a7F.at_)) (hP q9 j4 a5k l5)
 | .pan (e530,at531)=>.pan (.iface 110 (.agg [.i e530.fault.code,.i e530.fault.at_])) (hP q9 j4 at531 l5)
def a2f (n:Nat) (Φ:j3) (j4:List Tok) (at2:Int) (l5:Int):Option (Rs (Nod × Int) (o7 × Int)) :=
 (G8 20 j4 at2 l5).bind fun at4 =>
 F9 (F3 [123] j4 at2 l5) (fun at5 =>
 F9 (Φ.O5 j4 at5 l5) (fun (r6,at7) =>
 some (.ok ((⟨20,[],0,(⟨0,[],0,[]⟩:Typ),[],r6,at4⟩:Nod),at7))) fun (e8,at9) =>
 some (.pan (e8,at9))) fun (at10,at11) =>
 some (.pan ((⟨(⟨20,at10⟩:Flt)⟩:o7),at11))
def a5N (j4:List Tok) (at2:Int) (l5:Int):Rs (Nod × Int) (o7 × Int) -> Out
 | .ok (a3Z,a5E)=>.ret (.agg (c0 a3Z.op a3Z.s a3Z.n a3Z.t.kind a3Z.t.name a3Z.t.n (.sl l6 a3Z.t.args) (.sl l6 a3Z.ts) (.sl A9 a3Z.l) a3Z.at_)) (hP q9 j4 a5E l5)
 | .pan (e521,a8c)=>.pan (.iface 110 (.agg [.i e521.fault.code,.i e521.fault.at_])) (hP q9 j4 a8c l5)
def a19 (n:Nat) (Φ:j3) (j4:List Tok) (at2:Int) (l5:Int):Option (Rs (Nod × Int) (o7 × Int)) :=
 (G8 21 j4 at2 l5).bind fun at4 =>
 V8 (α:=Int × Int) (
 (J5 [118,97,114] j4 at2 l5).bind fun (r5,at6) =>
 cond r5 (
 some (.brk (at6,1))) (
 F9 (P9 [108,101,116] j4 at6 l5) (fun at7 =>
 some (.brk (at7,0))) fun (at8,at9) =>
 some (.out (.pan ((⟨(⟨20,at8⟩:Flt)⟩:o7),at9))))) fun (a8c,n523) =>
 F9 (N8 j4 a8c l5) (fun r10 =>
 (D9 [58] j4 (w64 (a8c + 1)) l5).bind fun (r11,at12) =>
 V8 (α:=Int × Int × Str × Int × List Typ) (
 cond r11 (
 F9 (F5 n j4 at12 l5) (fun (r13,at14) =>
 some (.brk (at14,r13.kind,r13.name,r13.n,r13.args))) fun (at15,at16) =>
 some (.out (.pan ((⟨(⟨20,at15⟩:Flt)⟩:o7),at16)))) (
 some (.brk (at12,0,[],0,([]:List Typ))))) fun (b0B,b4v,b4y,n527,b4N) =>
 Option.bind (α:=Bool × Int) (
 cond (eqB n523 1) (
 cond r11 (
 (D9 [59] j4 b0B l5).bind fun (r17,at18) =>
 some (r17,at18)) (
 some (false,b0B))) (
 some (false,b0B))) fun (x529,b2H) =>
 cond x529 (
 some (.ok ((⟨21,r10,n523,(⟨b4v,b4y,n527,b4N⟩:Typ),[],[],at4⟩:Nod),b2H))) (
 F9 (F3 [61] j4 b2H l5) (fun at19 =>
 F9 (Φ.x9 j4 at19 l5) (fun (r20,at21) =>
 F9 (F3 [59] j4 at21 l5) (fun at22 =>
 some (.ok ((⟨21,r10,n523,(⟨b4v,b4y,n527,b4N⟩:Typ),[],[r20],at4⟩:Nod),at22))) fun (at23,at24) =>
 some (.pan ((⟨(⟨20,at23⟩:Flt)⟩:o7),at24))) fun (e25,at26) =>
 some (.pan (e25,at26))) fun (at27,at28) =>
 some (.pan ((⟨(⟨20,at27⟩:Flt)⟩:o7),at28)))) fun at29 =>
 some (.pan ((⟨(⟨20,at29⟩:Flt)⟩:o7),a8c))
def a2x (j4:List Tok) (at2:Int) (l5:Int):Rs (Nod × Int) (o7 × Int) -> Out
 | .ok (Y4,a2H)=>.ret (.agg (c0 Y4.op Y4.s Y4.n Y4.t.kind Y4.t.name Y4.t.n (.sl l6 Y4.t.args) (.sl l6 Y4.ts) (.sl A9 Y4.l) Y4.at_)) (hP q9 j4 a2H l5)
 | .pan (e559,at560)=>.pan (.iface 110 (.agg [.i e559.fault.code,.i e559.fault.at_])) (hP q9 j4 at560 l5)
def a0L (n:Nat) (Φ:j3) (j4:List Tok) (at2:Int) (l5:Int):Option (Rs (Nod × Int) (o7 × Int)) :=
 (G8 24 j4 at2 l5).bind fun at4 =>
 F9 (P9 [105,102] j4 at2 l5) (fun at5 =>
 F9 (Φ.x9 j4 at5 l5) (fun (r6,at7) =>
 F9 (Φ.G5 j4 at7 l5) (fun (r8,at9) =>
 (app 144 ([r6]:List Nod) ([r8]:List Nod)).bind fun l10 =>
 V8 (α:=Int × List Nod) (
 (J5 [101,108,115,101] j4 at9 l5).bind fun (r11,at12) =>
 cond r11 (
 a5h (α:=Int × Nod) (
 (D6 0 9 [105,102] j4 at12 l5).bind fun r13 =>
 cond r13 (
 F9 (Φ.M9 j4 at12 l5) (fun (r14,at15) =>
 some (.brk (at15,r14))) fun (e16,at17) =>
 some (.out (.pan (e16,at17)))) (
 F9 (Φ.G5 j4 at12 l5) (fun (r18,at19) =>
 some (.brk (at19,r18))) fun (e20,at21) =>
 some (.out (.pan (e20,at21))))) fun (a5c,n512) =>
 (app 144 l10 ([n512]:List Nod)).bind fun l22 =>
 some (.brk (a5c,l22))) (
 some (.brk (at12,l10)))) fun (b5R,l514) =>
 some (.ok ((⟨24,[],0,(⟨0,[],0,[]⟩:Typ),[],l514,at4⟩:Nod),b5R))) fun (e23,at24) =>
 some (.pan (e23,at24))) fun (e25,at26) =>
 some (.pan (e25,at26))) fun (at27,at28) =>
 some (.pan ((⟨(⟨20,at27⟩:Flt)⟩:o7),at28))
def a1b (j4:List Tok) (at2:Int) (l5:Int):Rs (Nod × Int) (o7 × Int) -> Out
 | .ok (a1x,a4K)=>.ret (.agg (c0 a1x.op a1x.s a1x.n a1x.t.kind a1x.t.name a1x.t.n (.sl l6 a1x.t.args) (.sl l6 a1x.ts) (.sl A9 a1x.l) a1x.at_)) (hP q9 j4 a4K l5)
 | .pan (e525,at526)=>.pan (.iface 110 (.agg [.i e525.fault.code,.i e525.fault.at_])) (hP q9 j4 at526 l5)
def a0y (n:Nat) (Φ:j3) (l5:Int) (j4:List Tok):Nat -> Int -> (List Nod) -> Option (Lr (Int × List Nod) (Rs (Nod × Int) (o7 × Int)))
  | 0,_,_=>none
  | m5 + 1,a6P,l510 =>
      (D6 0 9 [99,97,115,101] j4 a6P l5).bind fun r9 =>
      cond r9 (
      (G8 27 j4 a6P l5).bind fun at10 =>
      F9 (J9 n j4 (w64 (a6P + 1)) l5) (fun (r11,at12) =>
      F9 (Φ.G5 j4 at12 l5) (fun (r13,at14) =>
      (app 144 ([r11]:List Nod) ([r13]:List Nod)).bind fun l15 =>
      (app 144 l510 ([(⟨27,[],0,(⟨0,[],0,[]⟩:Typ),[],l15,at10⟩:Nod)]:List Nod)).bind fun l16 =>
      a0y n Φ l5 j4 m5 at14 l16) fun (e17,at18) =>
      some (.out (.pan (e17,at18)))) fun (at19,at20) =>
      some (.out (.pan ((⟨(⟨20,at19⟩:Flt)⟩:o7),at20)))) (
      some (.brk (a6P,l510)))
def a2g (n:Nat) (Φ:j3) (j4:List Tok) (at2:Int) (l5:Int):Option (Rs (Nod × Int) (o7 × Int)) :=
 (G8 26 j4 at2 l5).bind fun at4 =>
 F9 (P9 [109,97,116,99,104] j4 at2 l5) (fun at5 =>
 F9 (Φ.x9 j4 at5 l5) (fun (r6,at7) =>
 F9 (F3 [123] j4 at7 l5) (fun at8 =>
 V8 (α:=Int × List Nod) (
 a0y n Φ l5 j4 n at8 ([r6]:List Nod)) fun (a7l,l520) =>
 (G8 27 j4 a7l l5).bind fun at21 =>
 (G8 40 j4 a7l l5).bind fun at22 =>
 V8 (α:=Int × List Nod) (
 (J5 [100,101,102,97,117,108,116] j4 a7l l5).bind fun (r23,at24) =>
 cond r23 (
 F9 (Φ.G5 j4 at24 l5) (fun (r25,at26) =>
 (app 144 ([(⟨40,[],0,(⟨0,[],0,[]⟩:Typ),[],[],at22⟩:Nod)]:List Nod) ([r25]:List Nod)).bind fun l27 =>
 (app 144 l520 ([(⟨27,[],0,(⟨0,[],0,[]⟩:Typ),[],l27,at21⟩:Nod)]:List Nod)).bind fun l28 =>
 some (.brk (at26,l28))) fun (e29,at30) =>
 some (.out (.pan (e29,at30)))) (
 some (.brk (at24,l520)))) fun (a5c,l512) =>
 F9 (F3 [125] j4 a5c l5) (fun at31 =>
 some (.ok ((⟨26,[],0,(⟨0,[],0,[]⟩:Typ),[],l512,at4⟩:Nod),at31))) fun (at32,at33) =>
 some (.pan ((⟨(⟨20,at32⟩:Flt)⟩:o7),at33))) fun (at34,at35) =>
 some (.pan ((⟨(⟨20,at34⟩:Flt)⟩:o7),at35))) fun (e36,at37) =>
 some (.pan (e36,at37))) fun (at38,at39) =>
 some (.pan ((⟨(⟨20,at38⟩:Flt)⟩:o7),at39))
def a2A (j4:List Tok) (at2:Int) (l5:Int):Rs (Nod × Int) (o7 × Int) -> Out
 | .ok (a1x,a4K)=>.ret (.agg (c0 a1x.op a1x.s a1x.n a1x.t.kind a1x.t.name a1x.t.n (.sl l6 a1x.t.args) (.sl l6 a1x.ts) (.sl A9 a1x.l) a1x.at_)) (hP q9 j4 a4K l5)
 | .pan (e535,b54)=>.pan (.iface 110 (.agg [.i e535.fault.code,.i e535.fault.at_])) (hP q9 j4 b54 l5)
def a1d (n:Nat) (Φ:j3) (op1:Int) (E8:List Tok) (at3:Int) (K3:Int):Option (Rs (List Nod × Int × Int) (o7 × Int)) :=
 (G8 op1 E8 at3 K3).bind fun at5 =>
 F9 (Φ.G5 E8 (w64 (at3 + 1)) K3) (fun (r6,at7) =>
 some (.ok (([r6]:List Nod),at5,at7))) fun (e8,at9) =>
 some (.pan (e8,at9))
def a6B (op1:Int) (E8:List Tok) (at3:Int) (K3:Int):Rs (List Nod × Int × Int) (o7 × Int) -> Out
 | .ok (l505,a4K,a5k)=>.ret (.agg [.i op1,.str [],.i 0,.i 0,.str [],.i 0,.sl l6 ([]:List Typ),.sl l6 ([]:List Typ),.sf A9 l505,.i a4K]) (hP q9 E8 a5k K3)
 | .pan (e528,at529)=>.pan (.iface 110 (.agg [.i e528.fault.code,.i e528.fault.at_])) (hP q9 E8 at529 K3)
def X7 (n:Nat) (Φ:j3) (a2K:Int) (a0r:List K8) (V4:List Tok):Nat -> Int -> Int -> Int -> Nod -> Option (Lr (Int × Int × Nod) (Rs (Nod × Int) (o7 × Int)))
  | 0,_,_,_,_=>none
  | m6 + 1,k553,x554,b2q,n556 =>
      Option.bind (α:=Bool) (
      cond (ltB b2q (List.length V4:Int)) (
      (idx' V4 b2q).bind fun x6 =>
      cond (eqB x6.kind 8) (
      (idx' a0r k553).bind fun x7 =>
      (idx' V4 b2q).bind fun x8 =>
      (Y2 n x7.ops x8.text).bind fun r9 =>
      some r9) (
      some false)) (
      some false)) fun x557 =>
      cond x557 (
      (idx' V4 b2q).bind fun x10 =>
      (subL a0r (w64 (k553 + 1)) (List.length a0r:Int)).bind fun l11 =>
      F9 (Φ.I4 V4 (w64 (b2q + 1)) a2K) (fun (r12,at13) =>
      F9 (Φ.P6 r12 l11 V4 at13 a2K) (fun (r14,at15) =>
      (idx' a0r k553).bind fun x16 =>
      cond x16.once (
      some (.brk (x554,at15,(⟨64,x10.text,0,(⟨0,[],0,[]⟩:Typ),[],[n556,r14],n556.at_⟩:Nod)))) (
      X7 n Φ a2K a0r V4 m6 k553 x554 at15 (⟨64,x10.text,0,(⟨0,[],0,[]⟩:Typ),[],[n556,r14],n556.at_⟩:Nod))) fun (e17,at18) =>
      some (.out (.pan (e17,at18)))) fun (e19,at20) =>
      some (.out (.pan (e19,at20)))) (
      some (.brk (x554,b2q,n556)))
def O8 (n:Nat) (Φ:j3) (a0r:List K8) (a2K:Int) (V4:List Tok):Nat -> Int -> Int -> Nod -> Option (Lr (Int × Nod) (Rs (Nod × Int) (o7 × Int)))
  | 0,_,_,_=>none
  | m3 + 1,x545,b8W,n547 =>
      cond (ltB x545 (List.length a0r:Int)) (
      a5h (α:=Int × Int × Nod) (
      X7 n Φ a2K a0r V4 n (w64 ((w64 ((List.length a0r:Int) - 1)) - x545)) x545 b8W n547) fun (b5M,at563,n564) =>
      O8 n Φ a0r a2K V4 m3 (w64 (b5M + 1)) at563 n564) (
      some (.brk (b8W,n547)))
def a4l (n:Nat) (Φ:j3) (a1e:Nod) (a0r:List K8) (V4:List Tok) (at4:Int) (a2K:Int):Option (Rs (Nod × Int) (o7 × Int)) :=
 V8 (α:=Int × Nod) (
 O8 n Φ a0r a2K V4 n 0 at4 a1e) fun (at568,n569) =>
 some (.ok (n569,at568))
def a2F (a1e:Nod) (a0r:List K8) (V4:List Tok) (at4:Int) (a2K:Int):Rs (Nod × Int) (o7 × Int) -> Out
 | .ok (r570,at571)=>.ret (.agg (c0 r570.op r570.s r570.n r570.t.kind r570.t.name r570.t.n (.sl l6 r570.t.args) (.sl l6 r570.ts) (.sl A9 r570.l) r570.at_)) (hP q9 V4 at571 a2K)
 | .pan (e523,b0B)=>.pan (.iface 110 (.agg [.i e523.fault.code,.i e523.fault.at_])) (hP q9 V4 b0B a2K)
def j3.fs:Nat -> j3
 | 0=>⟨fun _ _ _=>none,fun _ _ _=>none,fun _ _ _=>none,fun _ _ _=>none,fun _ _ _=>none,fun _ _ _=>none,fun _ _ _=>none,fun _ _ _=>none,fun _ _ _=>none,fun _ _ _=>none,fun _ _ _=>none,fun _ _ _=>none,fun _ _ _=>none,fun _ _ _ _=>none,fun _ _ _ _ _=>none⟩
 | n + 1=>⟨a2w n (j3.fs n),a14 n (j3.fs n),a1y n (j3.fs n),a04 n (j3.fs n),a2o n (j3.fs n),a1O n (j3.fs n),a1A n (j3.fs n),a00 n (j3.fs n),J8 n (j3.fs n),a2f n (j3.fs n),a19 n (j3.fs n),a0L n (j3.fs n),a2g n (j3.fs n),a1d n (j3.fs n),a4l n (j3.fs n)⟩
def x9 (n:Nat) (j4:List Tok) (at2:Int) (l5:Int):Option (Rs (Nod × Int) (o7 × Int)):=(j3.fs n).x9 j4 at2 l5
def I4 (n:Nat) (j4:List Tok) (at2:Int) (l5:Int):Option (Rs (Nod × Int) (o7 × Int)):=(j3.fs n).I4 j4 at2 l5
def a0k (n:Nat) (j4:List Tok) (at2:Int) (l5:Int):Option (Rs (Nod × Int) (o7 × Int)):=(j3.fs n).a0k j4 at2 l5
def a0B (n:Nat) (j4:List Tok) (at2:Int) (l5:Int):Option (Rs (Nod × Int) (o7 × Int)):=(j3.fs n).a0B j4 at2 l5
def K7 (n:Nat) (j4:List Tok) (at2:Int) (l5:Int):Option (Rs (List Nod × Int) (o7 × Int)):=(j3.fs n).K7 j4 at2 l5
def a0u (n:Nat) (j4:List Tok) (at2:Int) (l5:Int):Option (Rs (Nod × Int) (o7 × Int)):=(j3.fs n).a0u j4 at2 l5
def a0m (n:Nat) (j4:List Tok) (at2:Int) (l5:Int):Option (Rs (Nod × Int) (o7 × Int)):=(j3.fs n).a0m j4 at2 l5
def O5 (n:Nat) (j4:List Tok) (at2:Int) (l5:Int):Option (Rs (List Nod × Int) (o7 × Int)):=(j3.fs n).O5 j4 at2 l5
def P5 (n:Nat) (j4:List Tok) (at2:Int) (l5:Int):Option (Rs (Nod × Int) (o7 × Int)):=(j3.fs n).P5 j4 at2 l5
def G5 (n:Nat) (j4:List Tok) (at2:Int) (l5:Int):Option (Rs (Nod × Int) (o7 × Int)):=(j3.fs n).G5 j4 at2 l5
def a0O (n:Nat) (j4:List Tok) (at2:Int) (l5:Int):Option (Rs (Nod × Int) (o7 × Int)):=(j3.fs n).a0O j4 at2 l5
def M9 (n:Nat) (j4:List Tok) (at2:Int) (l5:Int):Option (Rs (Nod × Int) (o7 × Int)):=(j3.fs n).M9 j4 at2 l5
def a0S (n:Nat) (j4:List Tok) (at2:Int) (l5:Int):Option (Rs (Nod × Int) (o7 × Int)):=(j3.fs n).a0S j4 at2 l5
def Y3 (n:Nat) (op1:Int) (E8:List Tok) (at3:Int) (K3:Int):Option (Rs (List Nod × Int × Int) (o7 × Int)):=(j3.fs n).Y3 op1 E8 at3 K3
def P6 (n:Nat) (a1e:Nod) (a0r:List K8) (V4:List Tok) (at4:Int) (a2K:Int):Option (Rs (Nod × Int) (o7 × Int)):=(j3.fs n).P6 a1e a0r V4 at4 a2K
def a6h (n:Nat) (j4:List Tok) (at2:Int) (l5:Int) (op4:Int) (s5:Str) (n6:Int) (a9o:Int) (a9g:Str) (n9:Int) (a4d:List Typ) (ts11:List Typ) (l12:List Nod) (at13:Int) (a5I:List Typ) (a8o:List Typ) (a8l:List Nod):Option (Rs (Int × Nod) (o7 × Int × Nod)) :=
 F9 (x9 n j4 at2 l5) (fun (r17,at18) =>
 cond (ltB at18 (List.length j4:Int)) (
 F9 (Y9 j4 at18 l5) (fun (_:Empty)=>none) fun at19 =>
 some (.pan ((⟨(⟨20,at19⟩:Flt)⟩:o7),at18,r17))) (
 some (.ok (at18,r17)))) fun (e20,at21) =>
 some (.pan (e20,at21,(⟨op4,s5,n6,(⟨a9o,a9g,n9,a4d⟩:Typ),ts11,l12,at13⟩:Nod)))
def b2p (j4:List Tok) (at2:Int) (l5:Int) (op4:Int) (s5:Str) (n6:Int) (a9o:Int) (a9g:Str) (n9:Int) (a4d:List Typ) (ts11:List Typ) (l12:List Nod) (at13:Int) (a5I:List Typ) (a8o:List Typ) (a8l:List Nod):Rs (Int × Nod) (o7 × Int × Nod) -> Out
 | .ok (b0J,n506)=>.ret (.tuple []) [(0,.row [.sl q9 j4,.i b0J,.i l5]),(1,.row [.ptr 0 0]),(2,.row (c0 n506.op n506.s n506.n n506.t.kind n506.t.name n506.t.n (.sl l6 n506.t.args) (.sl l6 n506.ts) (.sl A9 n506.l) n506.at_)),(3,.tip (tpe 4 (List.length a5I)) (List.length a5I)),(4,.tip (tpe 4 (List.length a8o)) (List.length a8o)),(5,.tip (tpe 10 (List.length a8l)) (List.length a8l))]
 | .pan (e522,at523,n524)=>.pan (.iface 110 (.agg [.i e522.fault.code,.i e522.fault.at_])) [(0,.row [.sl q9 j4,.i at523,.i l5]),(1,.row [.ptr 0 0]),(2,.row (c0 n524.op n524.s n524.n n524.t.kind n524.t.name n524.t.n (.sl l6 n524.t.args) (.sl l6 n524.ts) (.sl A9 n524.l) n524.at_)),(3,.tip (tpe 4 (List.length a5I)) (List.length a5I)),(4,.tip (tpe 4 (List.length a8o)) (List.length a8o)),(5,.tip (tpe 10 (List.length a8l)) (List.length a8l))]
def a3g (n:Nat) (j4:List Tok) (at2:Int) (l5:Int) (op4:Int) (s5:Str) (n6:Int) (a9o:Int) (a9g:Str) (n9:Int) (a4d:List Typ) (ts11:List Typ) (l12:List Nod) (at13:Int):Option (Flt × Int × Nod) :=
 F9 (a6h n j4 at2 l5 op4 s5 n6 a9o a9g n9 a4d ts11 l12 at13 a4d ts11 l12) (fun (at14,n15) =>
 some ((⟨0,0⟩:Flt),at14,n15)) fun (e16,at17,n18) =>
 some (e16.fault,at17,n18)
def a8t (j4:List Tok) (at2:Int) (l5:Int) (op4:Int) (s5:Str) (n6:Int) (a9o:Int) (a9g:Str) (n9:Int) (a4d:List Typ) (ts11:List Typ) (l12:List Nod) (at13:Int):Flt × Int × Nod -> Out
 | (a1x,a4K,b3m)=>.ret (.agg [.i a1x.code,.i a1x.at_]) [(0,.row [.sl q9 j4,.i a4K,.i l5]),(1,.row [.ptr 0 0]),(2,.row (c0 b3m.op b3m.s b3m.n b3m.t.kind b3m.t.name b3m.t.n (.sl l6 b3m.t.args) (.sl l6 b3m.ts) (.sl A9 b3m.l) b3m.at_)),(3,.tip (tpe 4 (List.length a4d)) (List.length a4d)),(4,.tip (tpe 4 (List.length ts11)) (List.length ts11)),(5,.tip (tpe 10 (List.length l12)) (List.length l12))]
noncomputable def a7w (n:Nat) (a1K:Str):Option (Nod × Flt) :=
 (a8d a1K).bind fun (r2,V4) =>
 cond (!((eqB r2.code 0) && ((eqB r2.at_ 0) && true))) (
 some (((⟨0,[],0,(⟨0,[],0,[]⟩:Typ),[],[],0⟩:Nod),r2))) (
 (a3g n V4 0 (List.length a1K:Int) 0 [] 0 0 [] 0 ([]:List Typ) ([]:List Typ) ([]:List Nod) 0).bind fun (r4,at5,n6) =>
 cond (!((eqB r4.code 0) && ((eqB r4.at_ 0) && true))) (
 some (((⟨0,[],0,(⟨0,[],0,[]⟩:Typ),[],[],0⟩:Nod),r4))) (
 (a2V n n6).bind fun (r7,r8) =>
 cond (ltB 40 r8) (
 some (((⟨0,[],0,(⟨0,[],0,[]⟩:Typ),[],[],0⟩:Nod),(⟨21,0⟩:Flt)))) (
 cond (ltB 4000 r7) (
 some (((⟨0,[],0,(⟨0,[],0,[]⟩:Typ),[],[],0⟩:Nod),(⟨2,0⟩:Flt)))) (
 some ((n6,(⟨0,0⟩:Flt)))))))
def b42 (a1K:Str):Nod × Flt -> Out
 | (a7F,b3j)=>.ret (.tuple [.agg (c0 a7F.op a7F.s a7F.n a7F.t.kind a7F.t.name a7F.t.n (.sl l6 a7F.t.args) (.sl l6 a7F.ts) (.sl A9 a7F.l) a7F.at_),.agg [.i b3j.code,.i b3j.at_]]) []
noncomputable def a4y (n:Nat) (a1K:Str):Option (Bool) :=
 (a9z a1K).bind fun _ =>
 cond (ltB 8200 (List.length a1K:Int)) (
 (b9x).bind fun bb2 =>
 some (bb2)) (
 (a7w n a1K).bind fun (r3,r4) =>
 (a7s n a1K).bind fun (r5,r6) =>
 cond ((eqB r4.code r6.code) && ((eqB r4.at_ r6.at_) && true)) (
 (a1c n r3 r5 true).bind fun r7 =>
 cond r7 (
 (b9x).bind fun bb8 =>
 some (bb8)) (
 some (false))) (
 some (false)))
def b0K (a1K:Str):Bool -> Out
 | Y4=>.ret (.bool Y4) []
end Go.Proofs.YtmonfppdiehlpaaGreatDoor
namespace Go.Proofs.YtmonfppdiehlpaaGreatDoor
open Go Go.Vm
theorem a5V {a:Int} (h1:-9223372036854775808 <= a) (h2:a <= 9223372036854775807):w64 a = a:=by
 unfold w64
 simp only [IntKind.wrap,IntKind.bits,IntKind.signed]
 simp
 omega
theorem a1E {k:Nat} (h:k <= 1000000):w64 ((k:Int) + 1) = ((k + 1:Nat):Int):=by rw [a5V (by omega) (by omega)]; rfl
theorem a7j {a b:Int} (h:a < b):ltB a b = true:=by simp [ltB,h]
theorem a7S {a b:Int} (h:¬ a < b):ltB a b = false:=by simp [ltB,h]
theorem leB_t {a b:Int} (h:a <= b):leB a b = true:=by simp [leB,h]
theorem leB_f {a b:Int} (h:¬ a <= b):leB a b = false:=by simp [leB,h]
theorem a4j {a b:Int} (h:a = b):eqB a b = true:=by simp [eqB,h]
theorem a6Q {a b:Int} (h:¬ a = b):eqB a b = false:=by simp [eqB,h]
theorem a2t (s:Str):eqS s s = true:=by simp [eqS]
theorem a2r (a:UInt8) (r:Str):eqS (a :: r) [] = false:=by simp [eqS]
theorem a4a {α:Type} {l:List α} {i:Nat} (h:i < l.length):idx' l (i:Int) = some l[i]:=by
 have h1:inR (i:Int) l.length = true:=by simp [inR,h]
 simp [idx',h1,h]
theorem b1S {α:Type} {b:Nat} {l m:List α} (h:(l.length + m.length) * (b + 1) <= 70368744177664):app b l m = some (l ++ m):=by
 unfold app leN
 rw [decide_eq_true h]
def isT (l:List Tok) (kind:Int) (s:Str) (k:Nat):Bool:=match l[k]? with
 | some t=>eqB t.kind kind && eqS t.text s
 | none=>false
def isK (l:List Tok) (kind:Int) (k:Nat):Bool:=match l[k]? with
 | some t=>eqB t.kind kind
 | none=>false
def O1 (l:List Tok) (size:Int) (k:Nat):Int:=match l[k]? with
 | some t=>t.at_
 | none=>size
def R4 (l:List Tok) (k:Nat):Str:=match l[k]? with
 | some t=>t.text
 | none=>[]
theorem a6a {l:List Tok} {kind:Int} {s:Str} {k:Nat} (h:isT l kind s k = true):k < l.length:=by
 unfold isT at h
 rcases Nat.lt_or_ge k l.length with h1 | h1
 ·exact h1
 ·rw [List.getElem?_eq_none h1] at h; cases h
theorem b70 {l:List Tok} {kind:Int} {k:Nat} (h:isK l kind k = true):k < l.length:=by
 unfold isK at h
 rcases Nat.lt_or_ge k l.length with h1 | h1
 ·exact h1
 ·rw [List.getElem?_eq_none h1] at h; cases h
section
variable {l:List Tok} (hl:l.length <= 3000) {k:Nat} (hk:k <= l.length) (size pl:Int)
include hl hk
theorem b5X (kind:Int) (s:Str) (hs:eqS s [] = false):D6 0 kind s l k size = some (isT l kind s k):=by
 unfold D6 isT
 rw [Int.add_zero,a5V (by omega) (by omega)]
 rcases Nat.lt_or_ge k l.length with h | h
 ·rw [leB_f (by omega),cond_false,a4a h,Option.bind_some,List.getElem?_eq_getElem h]
  simp only
  rw [hs]
  cases eqB l[k].kind kind <;> simp
 ·rw [leB_t (by omega),cond_true,List.getElem?_eq_none h]
theorem b53 (kind:Int):D6 0 kind [] l k size = some (isK l kind k):=by
 unfold D6 isK
 rw [Int.add_zero,a5V (by omega) (by omega)]
 rcases Nat.lt_or_ge k l.length with h | h
 ·rw [leB_f (by omega),cond_false,a4a h,Option.bind_some,List.getElem?_eq_getElem h]
  simp only
  rw [a2t]
  cases eqB l[k].kind kind <;> simp
 ·rw [leB_t (by omega),cond_true,List.getElem?_eq_none h]
theorem b7t:a1w l k size = some (O1 l size k):=by
 unfold a1w O1
 rcases Nat.lt_or_ge k l.length with h | h
 ·rw [a7j (by omega),cond_true,a4a h,Option.bind_some,List.getElem?_eq_getElem h]
 ·rw [a7S (by omega),cond_false,List.getElem?_eq_none h]
theorem a4Y:J3 l size k pl = some (O1 l size k):=by
 unfold J3 O1
 rcases Nat.lt_or_ge k l.length with h | h
 ·rw [a7j (by omega),cond_true,a4a h,Option.bind_some,List.getElem?_eq_getElem h]
 ·rw [a7S (by omega),cond_false,List.getElem?_eq_none h]
theorem b2B:Y9 l k size = some (.pan (O1 l size k)):=by
 unfold Y9
 rw [b7t hl hk]; rfl
theorem a7R (kind:Int) (s:Str):G9 kind s l size k pl = some (isT l kind s k):=by
 unfold G9 isT
 rcases Nat.lt_or_ge k l.length with h | h
 ·rw [a7j (by omega),cond_true,a4a h,Option.bind_some,Option.bind_some,List.getElem?_eq_getElem h]
  simp only
  cases eqB l[k].kind kind <;> simp
 ·rw [a7S (by omega),cond_false,List.getElem?_eq_none h]
theorem b9d (kind:Int):U2 kind l size k pl = some (isK l kind k):=by
 unfold U2 isK
 rcases Nat.lt_or_ge k l.length with h | h
 ·rw [a7j (by omega),cond_true,a4a h,Option.bind_some,List.getElem?_eq_getElem h]
 ·rw [a7S (by omega),cond_false,List.getElem?_eq_none h]
theorem sg (s:Str) (hs:eqS s [] = false) :
  (isT l 8 s k = true /\ k < l.length /\ D9 s l k size = some (true,((k + 1:Nat):Int)) /\ o9 s l size k pl = some (true,((k + 1:Nat):Int)) /\ F3 s l k size = some (.ok ((k + 1:Nat):Int))) ∨
  (isT l 8 s k = false /\ D9 s l k size = some (false,(k:Int)) /\ o9 s l size k pl = some (false,(k:Int)) /\ F3 s l k size = some (.pan (O1 l size k,(k:Int)))):=by
 have h1:D9 s l k size = (some (isT l 8 s k)).bind fun r5=>cond (!r5) (some ((false,(k:Int)))) (some ((true,(w64 (k + 1))))):=by unfold D9; rw [b5X hl hk size 8 s hs]
 have h2:o9 s l size k pl = ((some (isT l 8 s k)).bind fun r7=>cond r7 (some ((true,(w64 (k + 1))))) (some ((false,(k:Int))))).bind fun (r6,at7)=>some ((r6,at7)):=by
  unfold o9 a2i; rw [a7R hl hk size pl 8 s]
 have h3:∀ b:Bool,∀ q:Int,D9 s l k size = some (b,q) -> F3 s l k size = cond (!b) (F9 (Y9 l q size) (fun (_:Empty)=>none) fun at7=>some (.pan (at7,q))) (some (.ok q)):=by
  intro b q h; unfold F3; rw [h]; rfl
 cases hb:isT l 8 s k with
 | true =>
  have hlt:=a6a hb
  rw [hb] at h1 h2
  simp only [Option.bind_some,Bool.not_true,cond_false,cond_true] at h1 h2
  rw [a1E (by omega)] at h1 h2
  refine .inl ⟨rfl,hlt,h1,h2,?_⟩
  rw [h3 _ _ h1]; rfl
 | false =>
  rw [hb] at h1 h2
  simp only [Option.bind_some,Bool.not_false,cond_false,cond_true] at h1 h2
  refine .inr ⟨rfl,h1,h2,?_⟩
  rw [h3 _ _ h1,b2B hl hk]; rfl
theorem ky (s:Str) (hs:eqS s [] = false) :
  (isT l 9 s k = true /\ k < l.length /\ J5 s l k size = some (true,((k + 1:Nat):Int)) /\ E9 s l size k pl = some (true,((k + 1:Nat):Int))) ∨
  (isT l 9 s k = false /\ J5 s l k size = some (false,(k:Int)) /\ E9 s l size k pl = some (false,(k:Int))):=by
 have h1:J5 s l k size = (some (isT l 9 s k)).bind fun r5=>cond (!r5) (some ((false,(k:Int)))) (some ((true,(w64 (k + 1))))):=by unfold J5; rw [b5X hl hk size 9 s hs]
 have h2:E9 s l size k pl = ((some (isT l 9 s k)).bind fun r7=>cond r7 (some ((true,(w64 (k + 1))))) (some ((false,(k:Int))))).bind fun (r6,at7)=>some ((r6,at7)):=by
  unfold E9 a2i; rw [a7R hl hk size pl 9 s]
 cases hb:isT l 9 s k with
 | true =>
  have hlt:=a6a hb
  rw [hb] at h1 h2
  simp only [Option.bind_some,Bool.not_true,cond_false,cond_true] at h1 h2
  rw [a1E (by omega)] at h1 h2
  exact .inl ⟨rfl,hlt,h1,h2⟩
 | false =>
  rw [hb] at h1 h2
  simp only [Option.bind_some,Bool.not_false,cond_false,cond_true] at h1 h2
  exact .inr ⟨rfl,h1,h2⟩
theorem cap:(k < l.length /\ Z4 l k size = some (.ok (R4 l k)) /\ D8 2 l size k pl = some (R4 l k,true,((k + 1:Nat):Int)) /\ w64 ((k:Int) + 1) = ((k + 1:Nat):Int)) ∨
  (Z4 l k size = some (.pan (O1 l size k)) /\ D8 2 l size k pl = some ([],false,(k:Int))):=by
 have h1:Z4 l k size = F9 ((some (isK l 2 k)).bind fun r5=>cond (!r5) (F9 (Y9 l k size) (fun (_:Empty)=>none) fun at6=>some (.pan at6)) ((idx' l k).bind fun x7=>some (.ok x7))) (fun r4=>some (.ok r4.text)) fun at5=>some (.pan at5):=by
  unfold Z4 M7; rw [b53 hl hk size 2]
 have h2:D8 2 l size k pl = (some (isK l 2 k)).bind fun r6=>cond r6 ((idx' l k).bind fun x7=>some ((x7.text,true,(w64 (k + 1))))) (some (([],false,(k:Int)))):=by
  unfold D8; rw [b9d hl hk size pl 2]
 cases hb:isK l 2 k with
 | true =>
  have hlt:=b70 hb
  have ht:R4 l k = l[k].text:=by unfold R4; rw [List.getElem?_eq_getElem hlt]
  rw [hb,a4a hlt] at h1 h2
  simp only [Option.bind_some,Bool.not_true,cond_false,cond_true] at h1 h2
  rw [a1E (by omega)] at h2
  exact .inl ⟨hlt,by rw [h1,ht]; rfl,by rw [h2,ht],a1E (by omega)⟩
 | false =>
  rw [hb,b2B hl hk] at h1
  rw [hb] at h2
  exact .inr ⟨h1,h2⟩
end
mutual
def Typ.sz:Typ -> Nat
 | ⟨_,_,_,a⟩=>1 + szT a
def szT:List Typ -> Nat
 | []=>0
 | x :: r=>x.sz + szT r
end
theorem Typ.a2I (x:Typ):x.sz = 1 + szT x.args:=by cases x; rfl
theorem b2e:∀ a b:List Typ,szT (a ++ b) = szT a + szT b
 | [],b=>by simp [szT]
 | x :: a,b=>by rw [List.cons_append,szT,szT,b2e a b]; omega
theorem b25 (x:Typ):szT [x] = x.sz:=by simp [szT]
theorem b1y {x:Typ}:∀ {l:List Typ},x ∈ l -> x.sz <= szT l
 | y :: r,h=>by
  simp only [szT]
  rcases List.mem_cons.1 h with rfl | h
  ·omega
  ·have:=b1y h; omega
theorem b2F:∀ l:List Typ,l.length <= szT l
 | []=>Nat.le_refl _
 | x :: r=>by have:=b2F r; have:=x.a2I; simp only [szT,List.length_cons]; omega
def kindOf (s:Str) (a:List Typ):Int :=
 cond (eqB (List.length a:Int) 0 && eqS s [73,110,116]) 1 (cond (eqB (List.length a:Int) 0 && eqS s [66,111,111,108]) 2 (cond (eqB (List.length a:Int) 0 && eqS s [84,101,120,116]) 3 (cond (eqB (List.length a:Int) 0 && eqS s [85,110,105,116]) 4
 (cond (eqB (List.length a:Int) 1 && eqS s [65,114,114,97,121]) 5 (cond (eqB (List.length a:Int) 1 && eqS s [87,101,97,107]) 11 6)))))
def a9c (s:Str) (a:List Typ):Typ:=⟨kindOf s a,cond (!eqB (kindOf s a) 6) [] s,0,a⟩
theorem b57 (s:Str) (a:List Typ):a5j s a = some (a9c s a):=by
 unfold a5j a9c kindOf
 rcases a with _ | ⟨x,_ | ⟨y,r⟩⟩
 ·rw [show eqB (List.length ([]:List Typ):Int) 0 = true from a4j rfl,show eqB (List.length ([]:List Typ):Int) 1 = false from a6Q (by simp),show ltB 0 (List.length ([]:List Typ):Int) = false from a7S (by simp)]
  cases eqS s [73,110,116] <;> cases eqS s [66,111,111,108] <;> cases eqS s [84,101,120,116] <;> cases eqS s [85,110,105,116] <;> simp [V8,eqB]
 ·rw [show eqB (List.length [x]:Int) 0 = false from a6Q (by simp),show eqB (List.length [x]:Int) 1 = true from a4j (by simp),show ltB 0 (List.length [x]:Int) = true from a7j (by simp)]
  cases h1:eqS s [65,114,114,97,121] <;> cases h2:eqS s [87,101,97,107] <;> simp [V8,eqB]
 ·rw [show eqB (List.length (x :: y :: r):Int) 0 = false from a6Q (by simp; omega),show eqB (List.length (x :: y :: r):Int) 1 = false from a6Q (by simp; omega),show ltB 0 (List.length (x :: y :: r):Int) = true from a7j (by simp; omega)]
  simp [V8,eqB]
end Go.Proofs.YtmonfppdiehlpaaGreatDoor
namespace Go.Proofs.YtmonfppdiehlpaaGreatDoor
open Go Go.Vm
def SimT (l:List Tok) (size:Int) (k:Nat) (p:Option (Rs (Typ × Int) (Int × Int))) (r:Option (Typ × Bool × Int)):Prop :=
 (∃ (t:Typ) (k':Nat),p = some (.ok (t,(k':Int))) /\ r = some (t,true,(k':Int)) /\ k < k' /\ k' <= l.length /\ t.sz + k <= k') ∨
 (∃ (t:Typ) (k':Nat),p = some (.pan (O1 l size k',(k':Int))) /\ r = some (t,false,(k':Int)) /\ k <= k' /\ k' <= l.length)
section
variable {l:List Tok} (hl:l.length <= 3000) (size pl:Int) {Φ:C8} {Ψ:A7} (n n':Nat) {c:Nat}
 (IH:∀ k,c <= k -> k <= l.length -> SimT l size k (Φ.F5 l k size) (Ψ.K6 l size k pl))
include hl IH
theorem b9i {k0:Nat}:∀ (m m':Nat) (args:List Typ) (k:Nat),c <= k + 1 -> k <= l.length -> l.length - k < m -> l.length - k < m' -> szT args + k0 <= k ->
  (∃ (args':List Typ) (k':Nat),V3 n Φ size l m args k = some (.brk (args',(k':Int))) /\ ((o9 [44] l size k pl).bind fun (r9,at10)=>a0b n' Ψ size l pl m' args r9 at10) = some (.brk (args',(k':Int))) /\ k <= k' /\ k' <= l.length /\ szT args' + k0 <= k') ∨
  (∃ (args':List Typ) (k':Nat),V3 n Φ size l m args k = some (.out (.pan (O1 l size k',(k':Int)))) /\ ((o9 [44] l size k pl).bind fun (r9,at10)=>a0b n' Ψ size l pl m' args r9 at10) = some (.out (args',false,(k':Int))) /\ k <= k' /\ k' <= l.length)
 | 0,m',args,k,h1,h2,h3,h5,h4=>by omega
 | m + 1,0,args,k,h1,h2,h3,h5,h4=>by omega
 | m + 1,m' + 1,args,k,h1,h2,h3,h5,h4=>by
  simp only [V3,a0b]
  rcases sg hl h2 size pl [44] (a2r _ _) with ⟨_,hlt,hp,hr,_⟩ | ⟨_,hp,hr,_⟩
  ·rw [hp,hr]
   simp only [Option.bind_some,cond_true]
   rcases IH (k + 1) h1 hlt with ⟨t,k',a,b,g1,g2,g3⟩ | ⟨t,k',a,b,g1,g2⟩
   ·rw [a,b]
    have hlen:=b2F args
    have hap:app 56 args [t] = some (args ++ [t]):=b1S (by simp only [List.length_singleton]; omega)
    simp only [F9,Option.bind_some,Bool.not_true,cond_false]
    rw [hap]
    simp only [Option.bind_some]
    rcases b9i (k0:=k0) m m' (args ++ [t]) k' (by omega) g2 (by omega) (by omega) (by rw [b2e,b25]; omega) with ⟨x1,x2,x3,x4,x5,x6,x7⟩ | ⟨x1,x2,x3,x4,x5,x6⟩
    ·exact .inl ⟨x1,x2,x3,x4,by omega,x6,x7⟩
    ·exact .inr ⟨x1,x2,x3,x4,by omega,x6⟩
   ·rw [a,b]
    exact .inr ⟨_,k',rfl,rfl,by omega,g2⟩
  ·rw [hp,hr]
   exact .inl ⟨args,k,rfl,rfl,Nat.le_refl _,h2,h4⟩
theorem b3y {k:Nat} (hc:c <= k) (hk:k <= l.length) (hn:l.length < n) (hn':l.length < n') :
  (∃ (t:Typ) (k1:Nat) (args:List Typ) (k2:Nat),Φ.F5 l k size = some (.ok (t,(k1:Int))) /\ app 56 ([]:List Typ) [t] = some [t] /\ V3 n Φ size l n [t] k1 = some (.brk (args,(k2:Int))) /\ V6 n' Ψ l size k pl = some (args,true,(k2:Int)) /\ k < k2 /\ k2 <= l.length /\ szT args + k <= k2) ∨
  (∃ (args:List Typ) (k2:Nat),Φ.F5 l k size = some (.pan (O1 l size k2,(k2:Int))) /\ V6 n' Ψ l size k pl = some (args,false,(k2:Int)) /\ k <= k2 /\ k2 <= l.length) ∨
  (∃ (t:Typ) (k1:Nat) (args:List Typ) (k2:Nat),Φ.F5 l k size = some (.ok (t,(k1:Int))) /\ app 56 ([]:List Typ) [t] = some [t] /\ V3 n Φ size l n [t] k1 = some (.out (.pan (O1 l size k2,(k2:Int)))) /\ V6 n' Ψ l size k pl = some (args,false,(k2:Int)) /\ k <= k2 /\ k2 <= l.length):=by
 have hap:∀ t:Typ,app 56 ([]:List Typ) [t] = some [t]:=fun t=>b1S (by simp)
 obtain ⟨q,rfl⟩:∃ q,n' = q + 1:=⟨n' - 1,by omega⟩
 unfold V6
 simp only [a0b,cond_true]
 rcases IH k hc hk with ⟨t,k1,a,b,g1,g2,g3⟩ | ⟨t,k1,a,b,g1,g2⟩
 ·rw [b]
  simp only [Option.bind_some,Bool.not_true,cond_false]
  rw [hap]
  simp only [Option.bind_some]
  rcases b9i hl size pl n (q + 1) IH (k0:=k) n q [t] k1 (by omega) g2 (by omega) (by omega) (by rw [b25]; omega) with ⟨x1,x2,x3,x4,x5,x6,x7⟩ | ⟨x1,x2,x3,x4,x5,x6⟩
  ·refine .inl ⟨t,k1,x1,x2,a,hap t,x3,?_,by omega,x6,x7⟩
   rw [x4]; rfl
  ·refine .inr (.inr ⟨t,k1,x1,x2,a,hap t,x3,?_,by omega,x6⟩)
   rw [x4]; rfl
 ·rw [b]
  exact .inr (.inl ⟨[],k1,a,rfl,g1,g2⟩)
end
theorem l5_eq (n:Nat) (Φ:C8) (size:Int) (l:List Tok):∀ m args k,a1o n Φ size l m args k = V3 n Φ size l m args k
 | 0,args,k=>rfl
 | m + 1,args,k=>by simp only [a1o,V3,l5_eq n Φ size l m]
section
variable {l:List Tok} (hl:l.length <= 3000) (size pl:Int)
include hl
theorem b8N {Φ:C8} {Ψ:A7} (n n':Nat) {k0:Nat}:∀ (m m':Nat) (t:Typ) (k:Nat),k <= l.length -> l.length - k < m -> l.length - k + 1 < m' -> t.sz + k0 <= k ->
    (∃ (t':Typ) (k':Nat),O7 n Φ false size l m k t = some (.brk ((k':Int),t')) /\ R8 n' Ψ size l pl m' true k t = some (true,(k':Int),t') /\ k <= k' /\ k' <= l.length /\ t'.sz + k0 <= k') ∨
    (∃ (t':Typ) (k':Nat),O7 n Φ false size l m k t = some (.out (.pan (O1 l size k',(k':Int)))) /\ R8 n' Ψ size l pl m' true k t = some (false,(k':Int),t') /\ k <= k' /\ k' <= l.length)
  | 0,m',t,k,h1,h2,h3,h4=>by omega
  | m + 1,0,t,k,h1,h2,h3,h4=>by omega
  | m + 1,1,t,k,h1,h2,h3,h4=>by omega
  | m + 1,m' + 2,t,k,h1,h2,h3,h4=>by
    have e:∀ (b:Bool) (q:Int) (u:Typ),R8 n' Ψ size l pl (m' + 2) b q u = Option.bind (α:=Bool × Int) (cond b ((o9 [46] l size q pl).bind fun (r28,at29)=>some (r28,at29)) (some (false,q))) fun (x590,at591) =>
        cond x590 ((D8 2 l size at591 pl).bind fun (r30,r31,at32)=>R8 n' Ψ size l pl (m' + 1) r31 at32 (⟨8,r30,0,[u]⟩:Typ)) (some (b,at591,u)):=fun _ _ _=>rfl
    have e1:∀ (q:Int) (u:Typ),R8 n' Ψ size l pl (m' + 1) false q u = some (false,q,u):=fun _ _=>rfl
    rw [e]
    simp only [O7,cond_true,cond_false]
    rcases sg hl h1 size pl [46] (a2r _ _) with ⟨hb,hlt,hp,hr,_⟩ | ⟨hb,hp,hr,_⟩
    · rw [b5X hl h1 size 8 [46] (a2r _ _),hb,hr]
      simp only [Option.bind_some,cond_true]
      rw [a1E (by omega)]
      rcases cap hl hlt size pl with ⟨c1,c2,c3,c4⟩ | ⟨c2,c3⟩
      · rw [c2,c3,c4]
        simp only [F9,Option.bind_some]
        rcases b8N (k0:=k0) n n' m (m' + 1) ⟨8,R4 l (k + 1),0,[t]⟩ (k + 1 + 1) (by omega) (by omega) (by omega) (by rw [Typ.a2I]; simp only [b25]; omega) with ⟨x1,x2,x3,x4,x5,x6,x7⟩ | ⟨x1,x2,x3,x4,x5,x6⟩
        · exact .inl ⟨x1,x2,x3,x4,by omega,x6,x7⟩
        · exact .inr ⟨x1,x2,x3,x4,by omega,x6⟩
      · rw [c2,c3]
        simp only [F9,Option.bind_some]
        rw [e1]
        exact .inr ⟨_,k + 1,rfl,rfl,by omega,hlt⟩
    · rw [b5X hl h1 size 8 [46] (a2r _ _),hb,hr]
      simp only [Option.bind_some,cond_false]
      exact .inl ⟨t,k,rfl,rfl,Nat.le_refl _,h1,h4⟩
theorem path_sim {R a b k:Nat} (ha:4 * R + l.length + 8 <= a) (hb:4 * R + l.length + 8 <= b) (hk:k <= l.length) (hR:l.length - k <= R)
    (IH:∀ q n n',k < q -> q <= l.length -> 4 * R + l.length + 6 <= n -> 4 * R + l.length + 6 <= n' -> SimT l size q ((C8.fs n).F5 l q size) ((A7.fs n').K6 l size q pl)) (n':Nat) (Ψ:A7) (m:Nat) (hm:l.length + 1 < m) :
    SimT l size k (a0v a (C8.fs a) false l k size) ((a0t b (A7.fs b) l size k pl).bind fun (r25,r26,at27)=>Option.bind (α:=Bool × Int × Typ) (R8 n' Ψ size l pl m r26 at27 r25) fun (ok595,at596,n597)=>some ((n597,ok595,at596))):=by
  obtain ⟨m,rfl⟩:∃ q,m = q + 1:=⟨m - 1,by omega⟩
  have e1:∀ (q:Int) (u:Typ),R8 n' Ψ size l pl (m + 1) false q u = some (false,q,u):=fun _ _=>rfl
  unfold a0v a0t
  rcases cap hl hk size pl with ⟨c1,c2,c3,c4⟩ | ⟨c2,c3⟩
  · rw [c2,c3,c4]
    simp only [F9,Option.bind_some,Bool.not_true,cond_false]
    have fin:∀ (args:List Typ) (q:Nat),k < q -> q <= l.length -> szT args + k + 1 <= q -> SimT l size k
        ((a5j (R4 l k) args).bind fun r23=>V8 (α:=Int × Typ) (O7 a (C8.fs a) false size l a q r23) fun (b6J,n550)=>some (.ok (n550,b6J)))
        (Option.bind (some (a9c (R4 l k) args,true,(q:Int))) fun (r25,r26,at27)=>Option.bind (α:=Bool × Int × Typ) (R8 n' Ψ size l pl (m + 1) r26 at27 r25) fun (ok595,at596,n597)=>some ((n597,ok595,at596))):=by
      intro args q h1 h2 h3
      rw [b57,Option.bind_some]
      simp only [Option.bind_some]
      rcases b8N hl size pl (Φ:=C8.fs a) (Ψ:=Ψ) a n' (k0:=k) a (m + 1) (a9c (R4 l k) args) q h2 (by omega) (by omega) (by rw [Typ.a2I]; simp only [a9c]; omega) with ⟨x1,x2,x3,x4,x5,x6,x7⟩ | ⟨x1,x2,x3,x4,x5,x6⟩
      · rw [x3,x4]
        exact .inl ⟨x1,x2,rfl,rfl,by omega,x6,x7⟩
      · rw [x3,x4]
        exact .inr ⟨x1,x2,rfl,rfl,by omega,x6⟩
    have kind_ok:∀ (args:List Typ) (q:Int),(Option.bind (α:=Int) (
  Option.bind (α:=Bool) (
  cond (eqB (List.length args:Int) 0) (
  some (eqS (R4 l k) [73,110,116])) (
  some false)) fun x559 =>
  cond x559 (
  some 1) (
  Option.bind (α:=Bool) (
  cond (eqB (List.length args:Int) 0) (
  some (eqS (R4 l k) [66,111,111,108])) (
  some false)) fun x560 =>
  cond x560 (
  some 2) (
  Option.bind (α:=Bool) (
  cond (eqB (List.length args:Int) 0) (
  some (eqS (R4 l k) [84,101,120,116])) (
  some false)) fun x561 =>
  cond x561 (
  some 3) (
  Option.bind (α:=Bool) (
  cond (eqB (List.length args:Int) 0) (
  some (eqS (R4 l k) [85,110,105,116])) (
  some false)) fun b5M =>
  cond b5M (
  some 4) (
  Option.bind (α:=Bool) (
  cond (eqB (List.length args:Int) 1) (
  some (eqS (R4 l k) [65,114,114,97,121])) (
  some false)) fun x563 =>
  cond x563 (
  some 5) (
  Option.bind (α:=Bool) (
  cond (eqB (List.length args:Int) 1) (
  some (eqS (R4 l k) [87,101,97,107])) (
  some false)) fun x564 =>
  cond x564 (
  some 11) (
  some 6))))))) fun b2Y =>
  Option.bind (α:=Str) (
  cond (!eqB b2Y 6) (
  some []) (
  some (R4 l k))) fun s566 =>
  some (((⟨b2Y,s566,0,args⟩:Typ),true,q))) = some (a9c (R4 l k) args,true,q):=by
      intro args q
      unfold a9c kindOf
      cases eqB (List.length args:Int) 0 <;> cases eqB (List.length args:Int) 1 <;> cases eqS (R4 l k) [73,110,116] <;> cases eqS (R4 l k) [66,111,111,108] <;> cases eqS (R4 l k) [84,101,120,116] <;> cases eqS (R4 l k) [85,110,105,116] <;>
        cases eqS (R4 l k) [65,114,114,97,121] <;> cases eqS (R4 l k) [87,101,97,107] <;> simp [eqB]
    rcases sg hl c1 size pl [60] (a2r _ _) with ⟨_,hlt,hp,hr,_⟩ | ⟨_,hp,hr,_⟩
    · rw [hp,hr]
      simp only [Option.bind_some,cond_true]
      obtain ⟨b',rfl⟩:∃ q,b = q + 1:=⟨b - 1,by omega⟩
      have hty:∀ q:Int,(A7.fs (b' + 1)).X3 l size q pl = V6 b' (A7.fs b') l size q pl:=fun _=>rfl
      rw [hty]
      simp only [l5_eq]
      rcases b3y hl size pl (Φ:=C8.fs a) (Ψ:=A7.fs b') a b' (c:=k + 1) (fun q h1 h2=>IH q a b' (by omega) h2 (by omega) (by omega)) (k:=k + 1 + 1) (by omega) hlt (by omega) (by omega) with
        ⟨t,k1,args,k2,y1,y2,y3,y4,y5,y6,y7⟩ | ⟨args,k2,y1,y2,y3,y4⟩ | ⟨t,k1,args,k2,y1,y2,y3,y4,y5,y6⟩
      · rw [y1,y4]
        simp only [F9,Option.bind_some]
        rw [y2]
        simp only [Option.bind_some]
        rw [y3]
        simp only [a5h,Bool.not_true,cond_false]
        rcases sg hl y6 size pl [62] (a2r _ _) with ⟨_,hlt2,_,hr2,hw2⟩ | ⟨_,_,hr2,hw2⟩
        · rw [hw2,hr2]
          simp only [F9,V8,Option.bind_some,Bool.not_true,cond_false]
          rw [kind_ok]
          exact fin args (k2 + 1) (by omega) (by omega) (by omega)
        · rw [hw2,hr2]
          simp only [F9,V8,Option.bind_some,Bool.not_false,cond_true]
          rw [e1]
          exact .inr ⟨_,k2,rfl,rfl,by omega,y6⟩
      · rw [y1,y2]
        simp only [F9,V8,Option.bind_some,Bool.not_false,cond_true]
        rw [e1]
        exact .inr ⟨_,k2,rfl,rfl,by omega,y4⟩
      · rw [y1,y4]
        simp only [F9,Option.bind_some]
        rw [y2]
        simp only [Option.bind_some]
        rw [y3]
        simp only [a5h,V8,Option.bind_some,Bool.not_false,cond_true]
        rw [e1]
        exact .inr ⟨_,k2,rfl,rfl,by omega,y6⟩
    · rw [hp,hr]
      simp only [V8,Option.bind_some,cond_false]
      rw [kind_ok]
      exact fin [] (k + 1) (by omega) c1 (by simp [szT])
  · rw [c2,c3]
    simp only [F9,Option.bind_some,Bool.not_false,cond_true]
    rw [e1]
    exact .inr ⟨_,k,rfl,rfl,Nat.le_refl _,hk⟩
theorem b88 {R n n' k:Nat} (ha:4 * R + l.length + 10 <= n) (hb:4 * R + l.length + 10 <= n') (hk:k <= l.length) (hR:l.length - k <= R)
    (IH:∀ q n n',k < q -> q <= l.length -> 4 * R + l.length + 6 <= n -> 4 * R + l.length + 6 <= n' -> SimT l size q ((C8.fs n).F5 l q size) ((A7.fs n').K6 l size q pl)) :
    SimT l size k ((C8.fs n).F5 l k size) ((A7.fs n').K6 l size k pl):=by
  obtain ⟨a,rfl⟩:∃ q,n = q + 2:=⟨n - 2,by omega⟩
  obtain ⟨b,rfl⟩:∃ q,n' = q + 2:=⟨n' - 2,by omega⟩
  show SimT l size k (a2Q (a + 1) (C8.fs (a + 1)) l k size) (a2S (b + 1) (A7.fs (b + 1)) l size k pl)
  unfold a2Q a2S
  rcases ky hl hk size pl [97,110,121] (a2r _ _) with ⟨_,hlt,hp,hr⟩ | ⟨_,hp,hr⟩
  · rw [hp,hr]
    simp only [Option.bind_some,cond_true]
    rcases cap hl hlt size pl with ⟨c1,c2,c3,c4⟩ | ⟨c2,c3⟩
    · rw [c2,c3,c4]
      exact .inl ⟨_,k + 1 + 1,rfl,rfl,by omega,c1,by rw [Typ.a2I]; simp only [szT]; omega⟩
    · rw [c2,c3]
      exact .inr ⟨_,k + 1,rfl,rfl,by omega,hlt⟩
  · rw [hp,hr]
    simp only [Option.bind_some,cond_false]
    rcases sg hl hk size pl [40] (a2r _ _) with ⟨_,hlt,hp,hr,_⟩ | ⟨_,hp,hr,_⟩
    · rw [hp,hr]
      simp only [Option.bind_some,Bool.not_true,cond_false,cond_true]
      have fin:∀ (args:List Typ) (q:Nat),k < q -> q <= l.length -> szT args + k + 1 <= q -> SimT l size k
          (F9 (F3 [45,62] l q size) (fun at31=>F9 ((C8.fs (a + 1)).F5 l at31 size) (fun (r32,at33)=>(app 56 args ([r32]:List Typ)).bind fun l34=>some (.ok ((⟨10,[],0,l34⟩:Typ),at33))) fun (at35,at36)=>some (.pan (at35,at36))) fun (at37,at38)=>some (.pan (at37,at38)))
          ((o9 [45,62] l size q pl).bind fun (r19,at20)=>cond (!r19) (some (((⟨10,[],0,args⟩:Typ),false,at20))) (((A7.fs (b + 1)).K6 l size at20 pl).bind fun (r21,r22,at23)=>(app 56 args ([r21]:List Typ)).bind fun l24=>some (((⟨10,[],0,l24⟩:Typ),r22,at23)))):=by
        intro args q h1 h2 h3
        have hlen:=b2F args
        have hap:∀ t:Typ,app 56 args [t] = some (args ++ [t]):=fun t=>b1S (by simp only [List.length_singleton]; omega)
        rcases sg hl h2 size pl [45,62] (a2r _ _) with ⟨_,hlt2,_,hr2,hw2⟩ | ⟨_,_,hr2,hw2⟩
        · rw [hw2,hr2]
          simp only [F9,Option.bind_some,Bool.not_true,cond_false]
          rcases IH (q + 1) (a + 1) (b + 1) (by omega) hlt2 (by omega) (by omega) with ⟨t,k',x,y,g1,g2,g3⟩ | ⟨t,k',x,y,g1,g2⟩
          · rw [x,y]
            simp only [Option.bind_some]
            rw [hap]
            exact .inl ⟨_,k',rfl,rfl,by omega,g2,by rw [Typ.a2I]; simp only [b2e,b25]; omega⟩
          · rw [x,y]
            simp only [Option.bind_some]
            rw [hap]
            exact .inr ⟨_,k',rfl,rfl,by omega,g2⟩
        · rw [hw2,hr2]
          exact .inr ⟨_,q,rfl,rfl,by omega,h2⟩
      rcases sg hl hlt size pl [41] (a2r _ _) with ⟨_,hlt2,hp2,hr2,_⟩ | ⟨_,hp2,hr2,_⟩
      · rw [hp2,hr2]
        simp only [V8,Option.bind_some,Bool.not_true,cond_false]
        exact fin [] (k + 1 + 1) (by omega) hlt2 (by simp only [szT]; omega)
      · rw [hp2,hr2]
        simp only [Option.bind_some,Bool.not_false,cond_true]
        have hty:∀ q:Int,(A7.fs (b + 1)).X3 l size q pl = V6 b (A7.fs b) l size q pl:=fun _=>rfl
        rw [hty]
        rcases b3y hl size pl (Φ:=C8.fs (a + 1)) (Ψ:=A7.fs b) (a + 1) b (c:=k + 1) (fun q h1 h2=>IH q (a + 1) b (by omega) h2 (by omega) (by omega)) (k:=k + 1) (by omega) hlt (by omega) (by omega) with
          ⟨t,k1,args,k2,y1,y2,y3,y4,y5,y6,y7⟩ | ⟨args,k2,y1,y2,y3,y4⟩ | ⟨t,k1,args,k2,y1,y2,y3,y4,y5,y6⟩
        · rw [y1,y4]
          simp only [F9,Option.bind_some]
          rw [y2]
          simp only [Option.bind_some]
          rw [y3]
          simp only [a5h,Bool.not_true,cond_false]
          rcases sg hl y6 size pl [41] (a2r _ _) with ⟨_,hlt2,_,hr2,hw2⟩ | ⟨_,_,hr2,hw2⟩
          · rw [hw2,hr2]
            simp only [F9,V8,Option.bind_some,Bool.not_true,cond_false]
            exact fin args (k2 + 1) (by omega) hlt2 (by omega)
          · rw [hw2,hr2]
            simp only [F9,V8,Option.bind_some,Bool.not_false,cond_true]
            exact .inr ⟨_,k2,rfl,rfl,by omega,y6⟩
        · rw [y1,y2]
          simp only [F9,V8,Option.bind_some,Bool.not_false,cond_true]
          exact .inr ⟨_,k2,rfl,rfl,by omega,y4⟩
        · rw [y1,y4]
          simp only [F9,Option.bind_some]
          rw [y2]
          simp only [Option.bind_some]
          rw [y3]
          simp only [a5h,V8,Option.bind_some,Bool.not_false,cond_true]
          exact .inr ⟨_,k2,rfl,rfl,by omega,y6⟩
    · rw [hp,hr]
      simp only [Option.bind_some,Bool.not_false,cond_true,cond_false]
      have hpa:∀ q:Int,(C8.fs (a + 1)).U0 false l q size = a0v a (C8.fs a) false l q size:=fun _=>rfl
      have hba:∀ q:Int,(A7.fs (b + 1)).U5 l size q pl = a0t b (A7.fs b) l size q pl:=fun _=>rfl
      rw [hpa,hba]
      rcases path_sim hl size pl (R:=R) (a:=a) (b:=b) (k:=k) (by omega) (by omega) hk hR IH (b + 1) (A7.fs (b + 1)) (b + 1) (by omega) with ⟨t,k',x,y,g1,g2,g3⟩ | ⟨t,k',x,y,g1,g2⟩
      · rw [x,y]
        exact .inl ⟨t,k',rfl,rfl,g1,g2,g3⟩
      · rw [x,y]
        exact .inr ⟨t,k',rfl,rfl,g1,g2⟩
theorem b7B:∀ (R n n' k:Nat),4 * R + l.length + 10 <= n -> 4 * R + l.length + 10 <= n' -> k <= l.length -> l.length - k <= R ->
  SimT l size k ((C8.fs n).F5 l k size) ((A7.fs n').K6 l size k pl)
 | 0,n,n',k,h1,h2,h3,h4=>b88 hl size pl h1 h2 h3 h4 fun q _ _ g1 g2=>by omega
 | R + 1,n,n',k,h1,h2,h3,h4=>b88 hl size pl h1 h2 h3 h4 fun q m m' g1 g2 g3 g4=>b7B R m m' q (by omega) (by omega) g2 (by omega)
end
end Go.Proofs.YtmonfppdiehlpaaGreatDoor
namespace Go.Proofs.YtmonfppdiehlpaaGreatDoor
open Go Go.Vm
section
variable {α β γ ρ:Type}
theorem R9 (a:α) (k:α -> Option γ) (p:β -> Option γ):F9 (some (.ok a)) k p = k a:=rfl
theorem Q7 (b:β) (k:α -> Option γ) (p:β -> Option γ):F9 (some (.pan b)) k p = p b:=rfl
theorem a0W (a:α) (k:α -> Option ρ):V8 (some (.brk a)) k = k a:=rfl
theorem a0F (r:ρ) (k:α -> Option ρ):V8 (some (.out r)) k = some r:=rfl
theorem a3c (a:α) (k:α -> Option (Lr γ ρ)):a5h (some (.brk a)) k = k a:=rfl
theorem a4C (r:ρ) (k:α -> Option (Lr γ ρ)):a5h (some (.out r)) k = some (.out r):=rfl
theorem app_0 (b:Nat) (x:α) (hb:b <= 1000):app b [] [x] = some [x]:=b1S (by simp only [List.length_nil,List.length_singleton]; omega)
theorem b6o {b:Nat} (x y:α) (hb:b <= 1000):app b [x] [y] = some [x,y]:=b1S (by simp only [List.length_singleton]; omega)
theorem app_2 {b:Nat} (x y z:α) (hb:b <= 1000):app b [x,y] [z] = some [x,y,z]:=b1S (by simp only [List.length_singleton,List.length_cons,List.length_nil]; omega)
theorem a6N {b:Nat} {l m:List α} (hl:l.length <= 100000) (hm:m.length <= 100000) (hb:b <= 1000):app b l m = some (l ++ m):=by
 refine b1S ?_
 have:(l.length + m.length) * (b + 1) <= 200000 * 1001:=Nat.mul_le_mul (by omega) (by omega)
 omega
end
structure Cx (l:List Tok) (size:Int):Prop where
 hl:l.length <= 3000
 pos:∀ k,0 <= O1 l size k
 int:∀ k,isK l 3 k = true -> ∃ v:Int,0 <= v /\ atoi (R4 l k) = some v /\ ∀ n,10000 <= n -> a1F n (R4 l k) = some v
section
variable {l:List Tok} {size:Int} (C:Cx l size)
include C
theorem a8a {op:Int} {k:Nat} (hk:k <= l.length):G8 op l k size = some (O1 l size k):=by
 unfold G8; rw [b7t C.hl hk]; rfl
theorem is1_ok {k:Nat} (hk:k + 1 <= l.length) (kind:Int):D6 1 kind [] l k size = some (isK l kind (k + 1)):=by
 have h:=b53 C.hl hk size kind
 have hl:=C.hl
 unfold D6 at h ⊢
 rw [Int.add_zero,a5V (by omega) (by omega)] at h
 rw [a1E (by omega)]
 exact h
theorem SSx:(∀ {α β:Type} (a:α) (f:α -> Option β),(some a).bind f = f a) /\ (∀ {α:Type} (a b:α),cond true a b = a) /\ (∀ {α:Type} (a b:α),cond false a b = b) /\ (!true) = false /\ (!false) = true /\
  (∀ {α β γ:Type} (a:α) (k:α -> Option γ) (p:β -> Option γ),F9 (some (.ok a)) k p = k a) /\ (∀ {α β γ:Type} (b:β) (k:α -> Option γ) (p:β -> Option γ),F9 (some (.pan b)) k p = p b) /\
  (∀ {α ρ:Type} (a:α) (k:α -> Option ρ),V8 (some (.brk a)) k = k a) /\ (∀ {α ρ:Type} (r:ρ) (k:α -> Option ρ),V8 (some (.out r)) k = some r) /\
  (∀ {α γ ρ:Type} (a:α) (k:α -> Option (Lr γ ρ)),a5h (some (.brk a)) k = k a) /\ (∀ {α γ ρ:Type} (r:ρ) (k:α -> Option (Lr γ ρ)),a5h (some (.out r)) k = some (.out r)) /\
  (∀ k:Nat,k <= 1000000 -> w64 ((k:Int) + 1) = ((k + 1:Nat):Int)) /\ (∀ (op:Int) (k:Nat),k <= l.length -> G8 op l k size = some (O1 l size k)) /\
  (∀ (pl:Int) (k:Nat),k <= l.length -> J3 l size k pl = some (O1 l size k)) /\ ∀ k:Nat,k <= l.length -> a1w l k size = some (O1 l size k) :=
 ⟨fun _ _=>rfl,fun _ _=>rfl,fun _ _=>rfl,rfl,rfl,fun _ _ _=>rfl,fun _ _ _=>rfl,fun _ _=>rfl,fun _ _=>rfl,fun _ _=>rfl,fun _ _=>rfl,fun _ h=>a1E h,fun _ _ h=>a8a C h,fun pl _ h=>a4Y C.hl h size pl,fun _ h=>b7t C.hl h size⟩
theorem sgx {k:Nat} (hk:k <= l.length) (a:UInt8) (r:Str) :
  (isT l 8 (a :: r) k = true /\ k + 1 <= l.length /\ D9 (a :: r) l k size = some (true,((k + 1:Nat):Int)) /\ o9 (a :: r) l size k (-1) = some (true,((k + 1:Nat):Int)) /\ F3 (a :: r) l k size = some (.ok ((k + 1:Nat):Int)) /\ D6 0 8 (a :: r) l k size = some true /\ G9 8 (a :: r) l size k (-1) = some true) ∨
  (isT l 8 (a :: r) k = false /\ D9 (a :: r) l k size = some (false,(k:Int)) /\ o9 (a :: r) l size k (-1) = some (false,(k:Int)) /\ F3 (a :: r) l k size = some (.pan (O1 l size k,(k:Int))) /\ D6 0 8 (a :: r) l k size = some false /\ G9 8 (a :: r) l size k (-1) = some false):=by
 have h1:=b5X C.hl hk size 8 (a :: r) (a2r _ _)
 have h2:=a7R C.hl hk size (-1) 8 (a :: r)
 rcases sg C.hl hk size (-1) (a :: r) (a2r _ _) with ⟨h,g1,g2,g3,g4⟩ | ⟨h,g2,g3,g4⟩
 ·rw [h] at h1 h2; exact .inl ⟨h,g1,g2,g3,g4,h1,h2⟩
 ·rw [h] at h1 h2; exact .inr ⟨h,g2,g3,g4,h1,h2⟩
theorem kyx {k:Nat} (hk:k <= l.length) (a:UInt8) (r:Str) :
  (isT l 9 (a :: r) k = true /\ k + 1 <= l.length /\ J5 (a :: r) l k size = some (true,((k + 1:Nat):Int)) /\ E9 (a :: r) l size k (-1) = some (true,((k + 1:Nat):Int)) /\ P9 (a :: r) l k size = some (.ok ((k + 1:Nat):Int)) /\ D6 0 9 (a :: r) l k size = some true /\ G9 9 (a :: r) l size k (-1) = some true) ∨
  (isT l 9 (a :: r) k = false /\ J5 (a :: r) l k size = some (false,(k:Int)) /\ E9 (a :: r) l size k (-1) = some (false,(k:Int)) /\ P9 (a :: r) l k size = some (.pan (O1 l size k,(k:Int))) /\ D6 0 9 (a :: r) l k size = some false /\ G9 9 (a :: r) l size k (-1) = some false):=by
 have h1:=b5X C.hl hk size 9 (a :: r) (a2r _ _)
 have h2:=a7R C.hl hk size (-1) 9 (a :: r)
 rcases ky C.hl hk size (-1) (a :: r) (a2r _ _) with ⟨h,g1,g2,g3⟩ | ⟨h,g2,g3⟩
 ·rw [h] at h1 h2
  refine .inl ⟨h,g1,g2,g3,?_,h1,h2⟩
  unfold P9; rw [g2]; rfl
 ·rw [h] at h1 h2
  refine .inr ⟨h,g2,g3,?_,h1,h2⟩
  unfold P9; rw [g2]
  simp only [Option.bind_some,Bool.not_false,cond_true]
  rw [b2B C.hl hk]; rfl
theorem kdx {k:Nat} (hk:k <= l.length) (kind:Int) :
  (isK l kind k = true /\ k + 1 <= l.length /\ ∃ t:Tok,idx' l (k:Int) = some t /\ t.text = R4 l k /\ t.at_ = O1 l size k /\ t.kind = kind /\ D6 0 kind [] l k size = some true /\ U2 kind l size k (-1) = some true /\ D8 kind l size k (-1) = some (R4 l k,true,((k + 1:Nat):Int)) /\ M7 kind l k size = some (.ok t)) ∨
  (isK l kind k = false /\ D6 0 kind [] l k size = some false /\ U2 kind l size k (-1) = some false /\ D8 kind l size k (-1) = some ([],false,(k:Int)) /\ M7 kind l k size = some (.pan (O1 l size k))):=by
 have h1:=b53 C.hl hk size kind
 have h2:=b9d C.hl hk size (-1) kind
 have h3:D8 kind l size k (-1) = (some (isK l kind k)).bind fun r6=>cond r6 ((idx' l k).bind fun x7=>some ((x7.text,true,(w64 (k + 1))))) (some (([],false,(k:Int)))):=by
  unfold D8; rw [h2]
 have h4:M7 kind l k size = (some (isK l kind k)).bind fun r5=>cond (!r5) (F9 (Y9 l k size) (fun (_:Empty)=>none) fun at6=>some (.pan at6)) ((idx' l k).bind fun x7=>some (.ok x7)):=by
  unfold M7; rw [h1]
 cases hb:isK l kind k with
 | true =>
  have hlt:=b70 hb
  have hl:=C.hl
  have ht:R4 l k = l[k].text:=by unfold R4; rw [List.getElem?_eq_getElem hlt]
  have ha:O1 l size k = l[k].at_:=by unfold O1; rw [List.getElem?_eq_getElem hlt]
  have hkd:l[k].kind = kind:=by
   unfold isK at hb; rw [List.getElem?_eq_getElem hlt] at hb
   simpa [eqB] using hb
  rw [hb] at h1 h2 h3 h4
  rw [a4a hlt] at h3 h4
  simp only [Option.bind_some,Bool.not_true,cond_false,cond_true] at h3 h4
  rw [a1E (by omega),<- ht] at h3
  exact .inl ⟨rfl,hlt,l[k],a4a hlt,ht.symm,ha.symm,hkd,h1,h2,h3,h4⟩
 | false =>
  rw [hb] at h1 h2 h3 h4
  rw [b2B C.hl hk] at h4
  exact .inr ⟨rfl,h1,h2,h3,h4⟩
theorem b6l (kind:Int) (s:Str) (k:Nat):isT l kind s k = (isK l kind k && eqS (R4 l k) s):=by
 unfold isT isK R4
 cases l[k]? <;> rfl
theorem nmx {k:Nat} (hk:k <= l.length) :
  (isK l 1 k = true /\ k + 1 <= l.length /\ N8 l k size = some (.ok (R4 l k)) /\ D8 1 l size k (-1) = some (R4 l k,true,((k + 1:Nat):Int)) /\ D6 0 1 [] l k size = some true) ∨
  (isK l 1 k = false /\ N8 l k size = some (.pan (O1 l size k)) /\ D8 1 l size k (-1) = some ([],false,(k:Int)) /\ D6 0 1 [] l k size = some false):=by
 unfold N8
 rcases kdx C hk 1 with ⟨h,g1,t,g2,g3,g4,g5,g6,g7,g8,g9⟩ | ⟨h,g6,g7,g8,g9⟩
 ·exact .inl ⟨h,g1,by rw [g9,R9,g3],g8,g6⟩
 ·exact .inr ⟨h,by rw [g9]; rfl,g8,g6⟩
theorem inx {k:Nat} (hk:k <= l.length) :
  (isK l 3 k = true /\ k + 1 <= l.length /\ ∃ v:Int,0 <= v /\ a0n l k size = some (.ok v) /\ D8 3 l size k (-1) = some (R4 l k,true,((k + 1:Nat):Int)) /\ D6 0 3 [] l k size = some true /\ ∀ n,10000 <= n -> a1F n (R4 l k) = some v) ∨
  (isK l 3 k = false /\ a0n l k size = some (.pan (O1 l size k)) /\ D8 3 l size k (-1) = some ([],false,(k:Int)) /\ D6 0 3 [] l k size = some false):=by
 unfold a0n
 rcases kdx C hk 3 with ⟨h,g1,t,g2,g3,g4,g5,g6,g7,g8,g9⟩ | ⟨h,g6,g7,g8,g9⟩
 ·obtain ⟨v,v0,v1,v2⟩:=C.int k h
  exact .inl ⟨h,g1,v,v0,by rw [g9,R9,g3,v1]; rfl,g8,g6,v2⟩
 ·exact .inr ⟨h,by rw [g9]; rfl,g8,g6⟩
end
mutual
def Nod.sz:Nod -> Nat
 | ⟨_,_,_,t,ts,l,_⟩=>1 + t.sz + szT ts + szN l
def szN:List Nod -> Nat
 | []=>0
 | x :: r=>x.sz + szN r
end
theorem Nod.a2I (x:Nod):x.sz = 1 + x.t.sz + szT x.ts + szN x.l:=by cases x; rfl
theorem nsz (op:Int) (s:Str) (n:Int) (t:Typ) (ts:List Typ) (l:List Nod) (a:Int):(⟨op,s,n,t,ts,l,a⟩:Nod).sz = 1 + t.sz + szT ts + szN l:=rfl
theorem tsz (k:Int) (s:Str) (n:Int) (a:List Typ):(⟨k,s,n,a⟩:Typ).sz = 1 + szT a:=rfl
theorem a7e:szT [] = 0:=rfl
theorem a6X:szN [] = 0:=rfl
theorem a7D (x:Nod) (r:List Nod):szN (x :: r) = x.sz + szN r:=rfl
theorem b1Q:∀ a b:List Nod,szN (a ++ b) = szN a + szN b
 | [],b=>by simp [szN]
 | x :: a,b=>by rw [List.cons_append,szN,szN,b1Q a b]; omega
theorem a4w:∀ l:List Nod,l.length <= szN l
 | []=>Nat.le_refl _
 | x :: r=>by have:=a4w r; have:=x.a2I; simp only [szN,List.length_cons]; omega
theorem a9N {x:Nod}:∀ {l:List Nod},x ∈ l -> x.sz <= szN l
 | y :: r,h=>by
  simp only [szN]
  rcases List.mem_cons.1 h with rfl | h
  ·omega
  ·have:=a9N h; omega
theorem szs:(∀ (op:Int) (s:Str) (n:Int) (t:Typ) (ts:List Typ) (l:List Nod) (a:Int),(⟨op,s,n,t,ts,l,a⟩:Nod).sz = 1 + t.sz + szT ts + szN l) /\ (∀ (k:Int) (s:Str) (n:Int) (a:List Typ),(⟨k,s,n,a⟩:Typ).sz = 1 + szT a) /\ szT [] = 0 /\ szN [] = 0 /\ (∀ (x:Nod) (r:List Nod),szN (x :: r) = x.sz + szN r) /\ ∀ a b:List Nod,szN (a ++ b) = szN a + szN b :=
 ⟨fun _ _ _ _ _ _ _=>rfl,fun _ _ _ _=>rfl,rfl,rfl,fun _ _=>rfl,b1Q⟩
theorem a7X (t:Typ):(⟨t.kind,t.name,t.n,t.args⟩:Typ) = t:=by cases t; rfl
@[reducible] def zT:Typ:=⟨0,[],0,[]⟩
inductive G:Nat -> Nod -> Prop
 | int {n a:Int}:0 <= n -> 0 <= a -> G 0 ⟨50,[],n,zT,[],[],a⟩
 | truth {n a:Int}:n = 0 ∨ n = 1 -> 0 <= a -> G 0 ⟨51,[],n,zT,[],[],a⟩
 | text {s:Str} {a:Int}:0 <= a -> G 0 ⟨52,s,0,zT,[],[],a⟩
 | interp {l:List Nod} {a:Int}:0 <= a -> (∀ x ∈ l,G 0 x) -> (∀ i x,l[2 * i]? = some x -> x.op = 52) -> 3 <= l.length -> l.length % 2 = 1 -> G 0 ⟨53,[],0,zT,[],l,a⟩
 | name {s:Str} {a:Int}:0 <= a -> G 0 ⟨54,s,0,zT,[],[],a⟩
 | use {s:Str} {a:Int}:0 <= a -> G 0 ⟨61,s,0,zT,[],[],a⟩
 | list {l:List Nod} {a:Int}:0 <= a -> (∀ x ∈ l,G 0 x) -> G 0 ⟨67,[],0,zT,[],l,a⟩
 | clos {t:Typ} {p b:List Nod} {a:Int}:0 <= a -> (∀ x ∈ p,G 4 x) -> (∀ x ∈ b,G 1 x) -> G 0 ⟨63,[],0,t,[],p ++ [⟨20,[],0,zT,[],b,a⟩],a⟩
 | bin {s:Str} {x y:Nod} {a:Int}:0 <= a -> G 0 x -> G 0 y -> G 0 ⟨64,s,0,zT,[],[x,y],a⟩
 | un {op:Int} {x:Nod} {a:Int}:op = 65 ∨ op = 66 -> 0 <= a -> G 0 x -> G 0 ⟨op,[],0,zT,[],[x],a⟩
 | field {s:Str} {x:Nod} {a:Int}:0 <= a -> G 0 x -> G 0 ⟨55,s,0,zT,[],[x],a⟩
 | call {s:Str} {l:List Nod} {a:Int}:0 <= a -> (∀ x ∈ l,G 6 x) -> G 0 ⟨56,s,0,zT,[],l,a⟩
 | method {s:Str} {x:Nod} {l:List Nod} {a:Int}:0 <= a -> G 0 x -> (∀ x ∈ l,G 6 x) -> G 0 ⟨57,s,0,zT,[],x :: l,a⟩
 | apply {x:Nod} {l:List Nod} {a:Int}:0 <= a -> G 0 x -> (∀ x ∈ l,G 6 x) -> G 0 ⟨60,[],0,zT,[],x :: l,a⟩
 | stat0 {t:Typ} {s:Str} {a:Int}:0 <= a -> G 0 ⟨58,s,0,t,[],[],a⟩
 | stat1 {t:Typ} {s:Str} {l:List Nod} {a:Int}:0 <= a -> (∀ x ∈ l,G 6 x) -> G 0 ⟨58,s,1,t,[],l,a⟩
 | make {t:Typ} {l:List Nod} {a:Int}:0 <= a -> (∀ x ∈ l,G 6 x) -> G 0 ⟨59,[],0,t,[],l,a⟩
 | arg {x:Nod}:G 0 x -> G 6 x
 | lend {x:Nod} {a:Int}:0 <= a -> G 0 x -> G 6 ⟨62,[],0,zT,[],[x],a⟩
 | let0 {s:Str} {t:Typ} {a:Int}:0 <= a -> G 1 ⟨21,s,1,t,[],[],a⟩
 | let1 {s:Str} {n:Int} {t:Typ} {x:Nod} {a:Int}:0 <= a -> n = 0 ∨ n = 1 -> G 0 x -> G 1 ⟨21,s,n,t,[],[x],a⟩
 | assign {x y:Nod} {a:Int}:0 <= a -> G 0 x -> G 0 y -> G 1 ⟨22,[],0,zT,[],[x,y],a⟩
 | sole {x:Nod} {a:Int}:0 <= a -> G 0 x -> G 1 ⟨23,[],0,zT,[],[x],a⟩
 | if2 {x b:Nod} {a:Int}:0 <= a -> G 0 x -> G 2 b -> G 1 ⟨24,[],0,zT,[],[x,b],a⟩
 | if3 {x b c:Nod} {a:Int}:0 <= a -> G 0 x -> G 2 b -> G 2 c -> G 1 ⟨24,[],0,zT,[],[x,b,c],a⟩
 | if4 {x b c:Nod} {a:Int}:0 <= a -> G 0 x -> G 2 b -> G 1 c -> c.op = 24 -> G 1 ⟨24,[],0,zT,[],[x,b,c],a⟩
 | whil {x b:Nod} {a:Int}:0 <= a -> G 0 x -> G 2 b -> G 1 ⟨25,[],0,zT,[],[x,b],a⟩
 | mat {x:Nod} {l:List Nod} {a:Int}:0 <= a -> G 0 x -> (∀ y ∈ l,G 5 y) -> G 1 ⟨26,[],0,zT,[],x :: l,a⟩
 | ret0 {a:Int}:0 <= a -> G 1 ⟨28,[],0,zT,[],[],a⟩
 | ret1 {x:Nod} {a:Int}:0 <= a -> G 0 x -> G 1 ⟨28,[],0,zT,[],[x],a⟩
 | throws {x:Nod} {a:Int}:0 <= a -> G 0 x -> G 1 ⟨29,[],0,zT,[],[x],a⟩
 | doc {s:Str} {b c:Nod} {a:Int}:0 <= a -> G 2 b -> G 2 c -> G 1 ⟨30,s,0,zT,[],[b,c],a⟩
 | defer {b:Nod} {a:Int}:0 <= a -> G 2 b -> G 1 ⟨31,[],0,zT,[],[b],a⟩
 | block {l:List Nod} {a:Int}:0 <= a -> (∀ x ∈ l,G 1 x) -> G 2 ⟨20,[],0,zT,[],l,a⟩
 | wild {a:Int}:0 <= a -> G 3 ⟨40,[],0,zT,[],[],a⟩
 | bnd {s:Str} {a:Int}:0 <= a -> G 3 ⟨41,s,0,zT,[],[],a⟩
 | pint {n a:Int}:0 <= a -> G 3 ⟨42,[],n,zT,[],[],a⟩
 | ptruth {n a:Int}:n = 0 ∨ n = 1 -> 0 <= a -> G 3 ⟨43,[],n,zT,[],[],a⟩
 | ptext {s:Str} {a:Int}:0 <= a -> G 3 ⟨44,s,0,zT,[],[],a⟩
 | pcase {s:Str} {l:List Nod} {a:Int}:0 <= a -> (∀ x ∈ l,G 3 x) -> G 3 ⟨45,s,0,zT,[],l,a⟩
 | param {s:Str} {n:Int} {t:Typ} {a:Int}:0 <= a -> G 4 ⟨10,s,n,t,[],[],a⟩
 | arm {p b:Nod} {a:Int}:0 <= a -> G 3 p -> G 2 b -> G 5 ⟨27,[],0,zT,[],[p,b],a⟩
theorem G.at {m:Nat} {x:Nod} (h:G m x):0 <= x.at_:=by
 induction h <;> assumption
theorem all_nil {m:Nat}:∀ x ∈ ([]:List Nod),G m x:=fun x h=>by cases h
theorem a5r {m:Nat} {a b:List Nod} (h1:∀ x ∈ a,G m x) (h2:∀ x ∈ b,G m x):∀ x ∈ a ++ b,G m x:=fun x h=>by
 rcases List.mem_append.1 h with h | h
 ·exact h1 x h
 ·exact h2 x h
theorem a4A {m:Nat} {a:Nod} (h:G m a):∀ x ∈ [a],G m x:=fun x hx=>by
 rcases List.mem_singleton.1 hx with rfl
 exact h
def a4x (l:List Tok) (size:Int) (k:Nat) (pl:Int) (f:o7):Prop:=(pl = -1 /\ f = ⟨⟨20,O1 l size k⟩⟩) ∨ (0 <= pl /\ f = ⟨⟨22,pl⟩⟩)
theorem a0E (l:List Tok) (size:Int) (k:Nat):a4x l size k (-1) ⟨⟨20,O1 l size k⟩⟩:=.inl ⟨rfl,rfl⟩
def SimS {α:Type} (l:List Tok) (size:Int) (k:Nat) (sz:α -> Nat) (Q:α -> Prop) (p:Option (Rs (α × Int) (Int × Int))) (r:Option (α × Bool × Int)):Prop :=
 (∃ (x:α) (q:Nat),p = some (.ok (x,(q:Int))) /\ r = some (x,true,(q:Int)) /\ k <= q /\ q <= l.length /\ sz x + 4 * k <= 4 * q /\ Q x) ∨
 (∃ (x:α) (q:Nat),p = some (.pan (O1 l size q,(q:Int))) /\ r = some (x,false,(q:Int)) /\ k <= q /\ q <= l.length)
section
variable {l:List Tok} {size:Int} (C:Cx l size)
include C
theorem b5V {a:Int} (ha:0 <= a) (n n' k0:Nat):∀ (m m' k:Nat) (op:Int) (s:Str) (xs:List Nod),k <= l.length -> k0 + 1 <= k -> l.length - k < m -> l.length - k + 1 < m' -> szN xs + 4 * k0 + 2 <= 4 * k -> G 0 ⟨op,s,0,zT,[],xs,a⟩ ->
  (∃ (q:Nat) (op':Int) (s':Str) (ys:List Nod),a0z n a size l m k op s xs = some (.brk ((q:Int),op',s',ys)) /\ V7 n' size l (-1) a m' true k op s xs = some (true,(q:Int),op',s',ys) /\ k <= q /\ q <= l.length /\ szN ys + 4 * k0 + 2 <= 4 * q /\ G 0 ⟨op',s',0,zT,[],ys,a⟩) ∨
  (∃ (q:Nat) (op':Int) (s':Str) (ys:List Nod),a0z n a size l m k op s xs = some (.out (.pan (O1 l size q,(q:Int)))) /\ V7 n' size l (-1) a m' true k op s xs = some (false,(q:Int),op',s',ys) /\ k <= q /\ q <= l.length)
 | 0,m',k,op,s,xs,h1,h0,h2,h3,h4,h5=>by omega
 | m + 1,0,k,op,s,xs,h1,h0,h2,h3,h4,h5=>by omega
 | m + 1,1,k,op,s,xs,h1,h0,h2,h3,h4,h5=>by omega
 | m + 1,m' + 2,k,op,s,xs,h1,h0,h2,h3,h4,h5=>by
  have hl:=C.hl
  have e0:∀ (b:Bool) (q:Int) (o:Int) (u:Str) (v:List Nod),V7 n' size l (-1) a (m' + 2) b q o u v = Option.bind (α:=Bool × Int) (cond b ((o9 [46] l size q (-1)).bind fun (r9,at10)=>some (r9,at10)) (some (false,q))) fun (x517,a3S) =>
   cond x517 ((D8 1 l size a3S (-1)).bind fun (r11,r12,at13)=>V7 n' size l (-1) a (m' + 1) r12 at13 55 r11 ([(⟨o,u,0,(⟨0,[],0,[]⟩:Typ),[],v,a⟩:Nod)]:List Nod)) (some (b,a3S,o,u,v)):=fun _ _ _ _ _=>rfl
  have e9:∀ (q:Int) (o:Int) (u:Str) (v:List Nod),V7 n' size l (-1) a (m' + 1) false q o u v = some (false,q,o,u,v):=fun _ _ _ _=>rfl
  rw [e0]
  simp only [a0z,cond_true]
  rcases sgx C h1 46 [] with ⟨b,hb,e1,e2,e3,e4,e5⟩ | ⟨b,e1,e2,e3,e4,e5⟩
  ·simp only [e1,e2,Option.bind_some,cond_true]
   rcases nmx C hb with ⟨c,hc,e1,e2,e3⟩ | ⟨c,e1,e2,e3⟩
   ·simp (disch:=omega) only [e1,e2,SSx C]
    rcases b5V ha n n' k0 m (m' + 1) (k + 1 + 1) 55 (R4 l (k + 1)) [⟨op,s,0,zT,[],xs,a⟩] hc (by omega) (by omega) (by omega) (by simp only [a7D,a6X,nsz,tsz,a7e]; omega) (.field ha h5) with ⟨q,o,u,v,g1,g2,g3,g4,g5,g6⟩ | ⟨q,o,u,v,g1,g2,g3,g4⟩
    ·exact .inl ⟨q,o,u,v,g1,g2,by omega,g4,g5,g6⟩
    ·exact .inr ⟨q,o,u,v,g1,g2,by omega,g4⟩
   ·simp (disch:=omega) only [e1,e2,SSx C]
    rw [e9]
    exact .inr ⟨k + 1,_,_,_,rfl,rfl,by omega,hb⟩
  ·simp only [e1,e2,Option.bind_some,cond_false]
   exact .inl ⟨k,op,s,xs,rfl,rfl,Nat.le_refl _,h1,h4,h5⟩
theorem c1M {n n' k:Nat} (hk:k <= l.length) (hn:l.length + 2 < n) (hn':l.length + 2 < n') :
  SimS l size k Nod.sz (fun x=>G 0 x /\ k + 1 <= l.length) (a1h n l k size) (a1C n' l size k (-1)):=by
 have hl:=C.hl
 unfold a1h a1C
 rcases nmx C hk with ⟨c,hc,e1,e2,e3⟩ | ⟨c,e1,e2,e3⟩
 ·simp (disch:=omega) only [e1,e2,SSx C]
  rcases b5V C (C.pos k) n n' k n n' (k + 1) 54 (R4 l k) [] hc (by omega) (by omega) (by omega) (by simp only [szs]; omega) (.name (C.pos k)) with ⟨q,o,u,v,g1,g2,g3,g4,g5,g6⟩ | ⟨q,o,u,v,g1,g2,g3,g4⟩
  ·simp (disch:=omega) only [g1,g2,SSx C]
   exact .inl ⟨_,q,rfl,rfl,by omega,g4,by simp only [szs]; omega,g6,hc⟩
  ·simp (disch:=omega) only [g1,g2,SSx C]
   exact .inr ⟨_,q,rfl,rfl,by omega,g4⟩
 ·simp (disch:=omega) only [e1,e2,SSx C]
  obtain ⟨m,rfl⟩:∃ m,n' = m + 1:=⟨n' - 1,by omega⟩
  simp only [V7,cond_false,Option.bind_some]
  exact .inr ⟨_,k,rfl,rfl,Nat.le_refl _,hk⟩
theorem typ4 {n n' k:Nat} (hk:k <= l.length) (hn:20000 <= n) (hn':20000 <= n') :
  (∃ (t:Typ) (q:Nat),F5 n l k size = some (.ok (t,(q:Int))) /\ K6 n' l size k (-1) = some (t,true,(q:Int)) /\ k < q /\ q <= l.length /\ t.sz + k <= q) ∨
  (∃ (t:Typ) (q:Nat),F5 n l k size = some (.pan (O1 l size q,(q:Int))) /\ K6 n' l size k (-1) = some (t,false,(q:Int)) /\ k <= q /\ q <= l.length):=by
 have hl:=C.hl
 exact b7B C.hl size (-1) l.length n n' k (by omega) (by omega) hk (by omega)
theorem b3X {m0:List Nod} (n n' k0:Nat) (hn:20000 <= n) (hn':20000 <= n') (hm0:m0.length <= 3000):∀ (m m' k:Nat) (xs:List Nod),k <= l.length -> l.length - k + 1 < m -> l.length - k + 2 < m' -> szN xs + 4 * k0 <= 4 * k -> (∀ x ∈ xs,G 4 x) ->
  (∃ (q:Nat) (ys:List Nod),a0p n size l m xs k = some (.brk (ys,(q:Int))) /\ Y8 n' size l (-1) m' (m0 ++ xs) true k = some (.brk (m0 ++ ys,(q:Int))) /\ k <= q /\ q <= l.length /\ szN ys + 4 * k0 <= 4 * q /\ ∀ x ∈ ys,G 4 x) ∨
  (∃ (q:Nat) (ys:List Nod),a0p n size l m xs k = some (.out (.pan (O1 l size q,(q:Int)))) /\ Y8 n' size l (-1) m' (m0 ++ xs) true k = some (.out (ys,false,(q:Int))) /\ k <= q /\ q <= l.length)
 | 0,m',k,xs,h1,h2,h3,h4,h5=>by omega
 | m + 1,0,k,xs,h1,h2,h3,h4,h5=>by omega
 | m + 1,1,k,xs,h1,h2,h3,h4,h5=>by omega
 | m + 1,m' + 2,k,xs,h1,h2,h3,h4,h5=>by
  have hl:=C.hl
  have hlen:=a4w xs
  have e0:∀ (b:Bool) (q:Int) (v:List Nod),Y8 n' size l (-1) (m' + 1) v false q = some (.brk (v,q)):=fun _ _ _=>rfl
  obtain ⟨q,nn,m1,m2,g1,g2⟩:∃ (q:Nat) (nn:Int),((J5 [105,110,111,117,116] l k size).bind fun (r8,at9) =>
   cond r8 (
   some (at9,(1:Int))) (
   (J5 [99,111,110,115,117,109,101] l at9 size).bind fun (r10,at11) =>
   cond r10 (
   some (at11,2)) (
   some (at11,0)))) = some ((q:Int),nn) /\ ((E9 [105,110,111,117,116] l size k (-1)).bind fun (r9,at10) =>
   cond r9 (
   some (at10,(1:Int))) (
   (E9 [99,111,110,115,117,109,101] l size at10 (-1)).bind fun (r11,at12) =>
   cond r11 (
   some (at12,2)) (
   some (at12,0)))) = some ((q:Int),nn) /\ k <= q /\ q <= l.length:=by
   rcases kyx C h1 105 [110,111,117,116] with ⟨b,hb,e1,e2,e3,e4,e5⟩ | ⟨b,e1,e2,e3,e4,e5⟩
   ·rw [e1,e2]; exact ⟨k + 1,1,rfl,rfl,by omega,hb⟩
   ·rw [e1,e2]
    simp only [Option.bind_some,cond_false]
    rcases kyx C h1 99 [111,110,115,117,109,101] with ⟨b,hb,e1,e2,e3,e4,e5⟩ | ⟨b,e1,e2,e3,e4,e5⟩
    ·rw [e1,e2]; exact ⟨k + 1,2,rfl,rfl,by omega,hb⟩
    ·rw [e1,e2]; exact ⟨k,0,rfl,rfl,by omega,h1⟩
  rw [a0p.eq_2,Y8.eq_2,a8a C h1,a4Y C.hl h1,cond_true,Option.bind_some,Option.bind_some,m1,m2]
  rcases nmx C g2 with ⟨c,hc,e1,e2,e3⟩ | ⟨c,e1,e2,e3⟩
  ·simp (disch:=omega) only [e1,e2,SSx C]
   rcases sgx C hc 58 [] with ⟨b,hb,e1,e2,e3,e4,e5⟩ | ⟨b,e1,e2,e3,e4,e5⟩
   ·simp (disch:=omega) only [e2,e3,SSx C]
    rcases typ4 C (n:=n) (n':=n') hb hn hn' with ⟨t,r,p1,p2,p3,p4,p5⟩ | ⟨t,r,p1,p2,p3,p4⟩
    ·have hz:szN (xs ++ [(⟨10,R4 l q,nn,t,[],[],O1 l size k⟩:Nod)]) + 4 * k0 <= 4 * r:=by
      simp only [b1Q,a7D,a6X,nsz,a7e]; omega
     have hG:∀ x ∈ xs ++ [(⟨10,R4 l q,nn,t,[],[],O1 l size k⟩:Nod)],G 4 x:=a5r h5 (a4A (.param (C.pos k)))
     have a1:app 144 xs [(⟨10,R4 l q,nn,t,[],[],O1 l size k⟩:Nod)] = some (xs ++ [(⟨10,R4 l q,nn,t,[],[],O1 l size k⟩:Nod)]):=a6N (by omega) (by simp) (by omega)
     have a2:app 144 (m0 ++ xs) [(⟨10,R4 l q,nn,t,[],[],O1 l size k⟩:Nod)] = some (m0 ++ (xs ++ [(⟨10,R4 l q,nn,t,[],[],O1 l size k⟩:Nod)])):=by
      rw [<- List.append_assoc]; exact a6N (by simp only [List.length_append]; omega) (by simp) (by omega)
     simp (disch:=omega) only [p1,p2,a1,a2,SSx C]
     rcases sgx C p4 44 [] with ⟨b,hb,e1,e2,e3,e4,e5⟩ | ⟨b,e1,e2,e3,e4,e5⟩
     ·simp (disch:=omega) only [e1,e2,SSx C]
      rcases b3X n n' k0 hn hn' hm0 m (m' + 1) (r + 1) _ hb (by omega) (by omega) (by omega) hG with ⟨q',ys,y1,y2,y3,y4,y5,y6⟩ | ⟨q',ys,y1,y2,y3,y4⟩
      ·exact .inl ⟨q',ys,y1,y2,by omega,y4,y5,y6⟩
      ·exact .inr ⟨q',ys,y1,y2,by omega,y4⟩
     ·simp (disch:=omega) only [e1,e2,SSx C]
      rw [e0 true]
      exact .inl ⟨r,_,rfl,rfl,by omega,p4,hz,hG⟩
    ·simp (disch:=omega) only [p1,p2,SSx C]
     exact .inr ⟨r,_,rfl,rfl,by omega,p4⟩
   ·simp (disch:=omega) only [e2,e3,SSx C]
    exact .inr ⟨q + 1,_,rfl,rfl,by omega,hc⟩
  ·simp (disch:=omega) only [e1,e2,SSx C]
   exact .inr ⟨q,_,rfl,rfl,by omega,g2⟩
theorem b9T {m0:List Nod} {n n' k:Nat} (hk:k <= l.length) (hn:20000 <= n) (hn':20000 <= n') (hm0:m0.length <= 3000) :
  (∃ (q:Nat) (ys:List Nod),a03 n l k size = some (.ok (ys,(q:Int))) /\ o9 [40] l size k (-1) = some (true,((k + 1:Nat):Int)) /\ a1H n' m0 l size ((k + 1:Nat):Int) (-1) = some (m0 ++ ys,true,(q:Int)) /\ k + 2 <= q /\ q <= l.length /\ szN ys + 4 * k + 8 <= 4 * q /\ ∀ x ∈ ys,G 4 x) ∨
  (∃ (q:Nat) (ys:List Nod),a03 n l k size = some (.pan (O1 l size q,(q:Int))) /\ o9 [40] l size k (-1) = some (true,((k + 1:Nat):Int)) /\ a1H n' m0 l size ((k + 1:Nat):Int) (-1) = some (ys,false,(q:Int)) /\ k <= q /\ q <= l.length) ∨
  (a03 n l k size = some (.pan (O1 l size k,(k:Int))) /\ o9 [40] l size k (-1) = some (false,(k:Int))):=by
 have hl:=C.hl
 unfold a03 a1H
 rcases sgx C hk 40 [] with ⟨b,hb,e1,e2,e3,e4,e5⟩ | ⟨b,e1,e2,e3,e4,e5⟩
 ·simp (disch:=omega) only [e2,e3,SSx C]
  rcases sgx C hb 41 [] with ⟨b,hb2,e1,e2,e3,e4,e5⟩ | ⟨b,e1,e2,e3,e4,e5⟩
  ·simp (disch:=omega) only [e1,e2,SSx C]
   exact .inl ⟨k + 1 + 1,[],rfl,trivial,by rw [List.append_nil],by omega,hb2,by simp only [szs]; omega,all_nil⟩
  ·simp (disch:=omega) only [e1,e2,SSx C]
   have h:=b3X C (m0:=m0) n n' (k + 1) hn hn' hm0 n n' (k + 1) [] hb (by omega) (by omega) (by simp only [szs]; omega) all_nil
   rw [List.append_nil] at h
   rcases h with ⟨q,ys,y1,y2,y3,y4,y5,y6⟩ | ⟨q,ys,y1,y2,y3,y4⟩
   ·simp (disch:=omega) only [y1,y2,SSx C]
    rcases sgx C y4 41 [] with ⟨b,hb2,e1,e2,e3,e4,e5⟩ | ⟨b,e1,e2,e3,e4,e5⟩
    ·simp (disch:=omega) only [e2,e3,SSx C]
     exact .inl ⟨q + 1,ys,rfl,trivial,rfl,by omega,hb2,by omega,y6⟩
    ·simp (disch:=omega) only [e2,e3,SSx C]
     exact .inr (.inl ⟨q,_,rfl,trivial,rfl,by omega,y4⟩)
   ·simp (disch:=omega) only [y1,y2,SSx C]
    exact .inr (.inl ⟨q,_,rfl,trivial,rfl,by omega,y4⟩)
 ·simp (disch:=omega) only [e2,e3,SSx C]
  exact .inr (.inr ⟨trivial,trivial⟩)
end
end Go.Proofs.YtmonfppdiehlpaaGreatDoor
namespace Go.Proofs.YtmonfppdiehlpaaGreatDoor
open Go Go.Vm
theorem num_nil {n:Nat} (hn:1 <= n):a1F n [] = some 0:=by
 obtain ⟨m,rfl⟩:∃ m,n = m + 1:=⟨n - 1,by omega⟩
 simp [a1F,a1L,ltB]
section
variable {l:List Tok} {size:Int} (C:Cx l size)
include C
def SimP (l:List Tok) (size:Int) (k:Nat) (p:Option (Rs (Nod × Int) (Int × Int))) (r:Option (Nod × Bool × Int)):Prop:=SimS l size k Nod.sz (G 3) p r
section
variable {Φ:I8} {Ψ:I7} (n n':Nat) {c:Nat} (IH:∀ k,c <= k -> k <= l.length -> SimP l size k (Φ.J9 l k size) (Ψ.O6 l size k (-1)))
include IH
theorem b8s {s:Str} {a:Int} {k0:Nat}:∀ (m m' k:Nat) (xs:List Nod),c <= k + 1 -> k <= l.length -> l.length - k < m -> l.length - k < m' -> szN xs + 4 * k0 <= 4 * k -> (∀ x ∈ xs,G 3 x) ->
  (∃ (q:Nat) (ys:List Nod),a0d n Φ size l m k xs = some (.brk ((q:Int),ys)) /\ ((o9 [44] l size k (-1)).bind fun (r9,at10)=>V9 n' Ψ size l (-1) s a m' xs r9 at10) = some (.brk (ys,(q:Int))) /\ k <= q /\ q <= l.length /\ szN ys + 4 * k0 <= 4 * q /\ ∀ x ∈ ys,G 3 x) ∨
  (∃ (q:Nat) (y:Nod),a0d n Φ size l m k xs = some (.out (.pan (O1 l size q,(q:Int)))) /\ ((o9 [44] l size k (-1)).bind fun (r9,at10)=>V9 n' Ψ size l (-1) s a m' xs r9 at10) = some (.out (y,false,(q:Int))) /\ k <= q /\ q <= l.length)
 | 0,m',k,xs,h1,h2,h3,h4,h5,h6=>by omega
 | m + 1,0,k,xs,h1,h2,h3,h4,h5,h6=>by omega
 | m + 1,m' + 1,k,xs,h1,h2,h3,h4,h5,h6=>by
  have hl:=C.hl
  have hlen:=a4w xs
  rw [a0d.eq_2]
  rcases sgx C h2 44 [] with ⟨b,hb,e1,e2,e3,e4,e5⟩ | ⟨b,e1,e2,e3,e4,e5⟩
  ·rw [e1,e2]
   simp only [Option.bind_some,cond_true,V9.eq_2]
   rcases IH (k + 1) h1 hb with ⟨x,q,p1,p2,p3,p4,p5,p6⟩ | ⟨x,q,p1,p2,p3,p4⟩
   ·have a1:app 144 xs [x] = some (xs ++ [x]):=a6N (by omega) (by simp) (by omega)
    have hx:=x.a2I
    simp only [p1,p2,a1,R9,Option.bind_some,Bool.not_true,cond_false]
    rcases b8s (k0:=k0) m m' q (xs ++ [x]) (by omega) p4 (by omega) (by omega) (by simp only [szs]; omega) (a5r h6 (a4A p6)) with ⟨q',ys,y1,y2,y3,y4,y5,y6⟩ | ⟨q',ys,y1,y2,y3,y4⟩
    ·exact .inl ⟨q',ys,y1,y2,by omega,y4,y5,y6⟩
    ·exact .inr ⟨q',ys,y1,y2,by omega,y4⟩
   ·simp only [p1,p2,Q7,Option.bind_some,Bool.not_false,cond_true]
    exact .inr ⟨q,_,rfl,rfl,by omega,p4⟩
  ·rw [e1,e2]
   exact .inl ⟨k,xs,rfl,rfl,Nat.le_refl _,h2,h5,h6⟩
end
theorem b9f {N n n' k:Nat} (hN:20000 <= N) (ha:N + 1 <= n) (hb':N + 1 <= n') (hk:k <= l.length)
  (IH:∀ q n n',k < q -> q <= l.length -> N <= n -> N <= n' -> SimP l size q ((I8.fs n).J9 l q size) ((I7.fs n').O6 l size q (-1))) :
  SimP l size k ((I8.fs n).J9 l k size) ((I7.fs n').O6 l size k (-1)):=by
 have hl:=C.hl
 obtain ⟨n,rfl⟩:∃ q,n = q + 1:=⟨n - 1,by omega⟩
 obtain ⟨n',rfl⟩:∃ q,n' = q + 1:=⟨n' - 1,by omega⟩
 show SimP l size k (a1z n (I8.fs n) l k size) (a1s n' (I7.fs n') l size k (-1))
 unfold a1z a1s
 rw [b5X C.hl hk size 1 [95] (a2r _ _),b6l C]
 rcases nmx C hk with ⟨c,hc,e1,e2,e3⟩ | ⟨c,e1,e2,e3⟩
 ·simp (disch:=omega) only [c,e1,e2,e3,Bool.true_and,SSx C]
  cases eqS (R4 l k) [95]
  ·simp (disch:=omega) only [SSx C]
   exact .inl ⟨_,k + 1,rfl,rfl,by omega,hc,by simp only [szs]; omega,.bnd (C.pos k)⟩
  ·simp (disch:=omega) only [SSx C]
   exact .inl ⟨_,k + 1,rfl,rfl,by omega,hc,by simp only [szs]; omega,.wild (C.pos k)⟩
 simp (disch:=omega) only [c,e2,e3,Bool.false_and,SSx C]
 rcases inx C hk with ⟨c,hc,v,v0,e1,e2,e3,e4⟩ | ⟨c,e1,e2,e3⟩
 ·simp (disch:=omega) only [e1,e2,e3,e4,SSx C]
  exact .inl ⟨_,k + 1,rfl,rfl,by omega,hc,by simp only [szs]; omega,.pint (C.pos k)⟩
 simp (disch:=omega) only [e2,e3,SSx C]
 rcases sgx C hk 45 [] with ⟨b,hb,e1,e2,e3,e4,e5⟩ | ⟨b,e1,e2,e3,e4,e5⟩
 ·simp (disch:=omega) only [e1,e2,SSx C]
  rcases inx C hb with ⟨c,hc,v,v0,e1,e2,e3,e4⟩ | ⟨c,e1,e2,e3⟩
  ·simp (disch:=omega) only [e1,e2,e3,e4,SSx C]
   exact .inl ⟨_,k + 1 + 1,rfl,rfl,by omega,hc,by simp only [szs]; omega,.pint (C.pos k)⟩
  ·simp (disch:=omega) only [e1,e2,e3,num_nil,SSx C]
   exact .inr ⟨_,k + 1,rfl,rfl,by omega,hb⟩
 simp (disch:=omega) only [e1,e2,SSx C]
 rcases kdx C hk 4 with ⟨c,hc,t,t1,t2,t3,t4,e1,e2,e3,e4⟩ | ⟨c,e1,e2,e3,e4⟩
 ·simp (disch:=omega) only [e1,e3,e4,t2,SSx C]
  exact .inl ⟨_,k + 1,rfl,rfl,by omega,hc,by simp only [szs]; omega,.ptext (C.pos k)⟩
 simp (disch:=omega) only [e1,e3,SSx C]
 rcases kyx C hk 116 [114,117,101] with ⟨b,hb,e1,e2,e3,e4,e5⟩ | ⟨b,e1,e2,e3,e4,e5⟩
 ·simp (disch:=omega) only [e1,e2,SSx C]
  exact .inl ⟨_,k + 1,rfl,rfl,by omega,hb,by simp only [szs]; omega,.ptruth (.inr rfl) (C.pos k)⟩
 simp (disch:=omega) only [e1,e2,SSx C]
 rcases kyx C hk 102 [97,108,115,101] with ⟨b,hb,e1,e2,e3,e4,e5⟩ | ⟨b,e1,e2,e3,e4,e5⟩
 ·simp (disch:=omega) only [e1,e2,SSx C]
  exact .inl ⟨_,k + 1,rfl,rfl,by omega,hb,by simp only [szs]; omega,.ptruth (.inl rfl) (C.pos k)⟩
 simp (disch:=omega) only [e1,e2,SSx C]
 rcases sgx C hk 46 [] with ⟨b,hb,e1,e2,e3,e4,e5⟩ | ⟨b,e1,e2,e3,e4,e5⟩
 ·simp (disch:=omega) only [e2,e3,SSx C]
  rcases nmx C hb with ⟨c,hc,e1,e2,e3⟩ | ⟨c,e1,e2,e3⟩
  ·simp (disch:=omega) only [e1,e2,SSx C]
   rcases sgx C hc 40 [] with ⟨b,hb2,e1,e2,e3,e4,e5⟩ | ⟨b,e1,e2,e3,e4,e5⟩
   ·simp (disch:=omega) only [e1,e2,SSx C]
    obtain ⟨m',rfl⟩:∃ q,n' = q + 1:=⟨n' - 1,by omega⟩
    rw [V9.eq_2,cond_true]
    rcases IH (k + 1 + 1 + 1) n (m' + 1) (by omega) hb2 (by omega) (by omega) with ⟨x,q,p1,p2,p3,p4,p5,p6⟩ | ⟨x,q,p1,p2,p3,p4⟩
    ·rw [p1,p2,R9,Option.bind_some]
     simp only [app_0 144 x (by omega),Option.bind_some,Bool.not_true,cond_false]
     have hx:=x.a2I
     rcases b8s C n (m' + 1) (fun q h1 h2=>IH q n (m' + 1) h1 h2 (by omega) (by omega)) (s:=R4 l (k + 1)) (a:=O1 l size k) (k0:=k + 1) n m' q [x] (by omega) p4 (by omega) (by omega) (by simp only [szs]; omega) (a4A p6) with ⟨q',ys,y1,y2,y3,y4,y5,y6⟩ | ⟨q',ys,y1,y2,y3,y4⟩
     ·rw [y1,y2,a3c,a0W]
      rcases sgx C y4 41 [] with ⟨b,hb3,e1,e2,e3,e4,e5⟩ | ⟨b,e1,e2,e3,e4,e5⟩
      ·simp (disch:=omega) only [e2,e3,SSx C]
       exact .inl ⟨_,q' + 1,rfl,rfl,by omega,hb3,by simp only [szs]; omega,.pcase (C.pos k) y6⟩
      ·simp (disch:=omega) only [e2,e3,SSx C]
       exact .inr ⟨_,q',rfl,rfl,by omega,y4⟩
     ·rw [y1,y2,a4C,a0F,a0F]
      exact .inr ⟨_,q',rfl,rfl,by omega,y4⟩
    ·rw [p1,p2,Q7,Option.bind_some]
     exact .inr ⟨_,q,rfl,rfl,by omega,p4⟩
   ·simp (disch:=omega) only [e1,e2,SSx C]
    exact .inl ⟨_,k + 1 + 1,rfl,rfl,by omega,hc,by simp only [szs]; omega,.pcase (C.pos k) all_nil⟩
  ·simp (disch:=omega) only [e1,e2,SSx C]
   exact .inr ⟨_,k + 1,rfl,rfl,by omega,hb⟩
 ·simp (disch:=omega) only [e2,e3,SSx C]
  exact .inr ⟨_,k,rfl,rfl,Nat.le_refl _,hk⟩
theorem c0z:∀ (R n n' k:Nat),20000 + R + 1 <= n -> 20000 + R + 1 <= n' -> k <= l.length -> l.length - k <= R -> SimP l size k ((I8.fs n).J9 l k size) ((I7.fs n').O6 l size k (-1))
 | 0,n,n',k,h1,h2,h3,h4=>b9f C (Nat.le_refl _) h1 h2 h3 fun q _ _ g1 g2=>by omega
 | R + 1,n,n',k,h1,h2,h3,h4=>b9f C (N:=20000 + R + 1) (by omega) h1 h2 h3 fun q m m' g1 g2 g3 g4=>c0z R m m' q g3 g4 g2 (by omega)
theorem pat_sim {n n' k:Nat} (hk:k <= l.length) (hn:24000 <= n) (hn':24000 <= n'):SimP l size k (J9 n l k size) (O6 n' l size k (-1)):=by
 have hl:=C.hl
 exact c0z C 3000 n n' k (by omega) (by omega) hk (by omega)
theorem base_sim {n n' k:Nat} (hk:k <= l.length) (hn:20000 <= n) (hn':20000 <= n') :
    (∃ (t:Typ) (q:Nat),(∀ b,U0 n b l k size = V8 (α:=Int × Typ) (O7 (n - 1) (C8.fs (n - 1)) b size l (n - 1) q t) fun (b6J,n550)=>some (.ok (n550,b6J))) /\ U5 n' l size k (-1) = some (t,true,(q:Int)) /\ k < q /\ q <= l.length /\ t.sz + k <= q) ∨
    (∃ (t:Typ) (q:Nat),(∀ b,U0 n b l k size = some (.pan (O1 l size q,(q:Int)))) /\ U5 n' l size k (-1) = some (t,false,(q:Int)) /\ k <= q /\ q <= l.length):=by
  have hl:=C.hl
  obtain ⟨a,rfl⟩:∃ q,n = q + 1:=⟨n - 1,by omega⟩
  obtain ⟨b',rfl⟩:∃ q,n' = q + 1:=⟨n' - 1,by omega⟩
  have hp:∀ bb,U0 (a + 1) bb l k size = a0v a (C8.fs a) bb l k size:=fun _=>rfl
  have hr:U5 (b' + 1) l size k (-1) = a0t b' (A7.fs b') l size k (-1):=rfl
  simp only [hp,hr,Nat.add_sub_cancel]
  unfold a0v a0t
  rcases cap C.hl hk size (-1) with ⟨c1,c2,c3,c4⟩ | ⟨c2,c3⟩
  · rw [c2,c3,c4]
    simp only [R9,Option.bind_some,Bool.not_true,cond_false]
    have kind_ok:∀ (args:List Typ) (q:Int),(Option.bind (α:=Int) (
  Option.bind (α:=Bool) (
  cond (eqB (List.length args:Int) 0) (
  some (eqS (R4 l k) [73,110,116])) (
  some false)) fun x559 =>
  cond x559 (
  some 1) (
  Option.bind (α:=Bool) (
  cond (eqB (List.length args:Int) 0) (
  some (eqS (R4 l k) [66,111,111,108])) (
  some false)) fun x560 =>
  cond x560 (
  some 2) (
  Option.bind (α:=Bool) (
  cond (eqB (List.length args:Int) 0) (
  some (eqS (R4 l k) [84,101,120,116])) (
  some false)) fun x561 =>
  cond x561 (
  some 3) (
  Option.bind (α:=Bool) (
  cond (eqB (List.length args:Int) 0) (
  some (eqS (R4 l k) [85,110,105,116])) (
  some false)) fun b5M =>
  cond b5M (
  some 4) (
  Option.bind (α:=Bool) (
  cond (eqB (List.length args:Int) 1) (
  some (eqS (R4 l k) [65,114,114,97,121])) (
  some false)) fun x563 =>
  cond x563 (
  some 5) (
  Option.bind (α:=Bool) (
  cond (eqB (List.length args:Int) 1) (
  some (eqS (R4 l k) [87,101,97,107])) (
  some false)) fun x564 =>
  cond x564 (
  some 11) (
  some 6))))))) fun b2Y =>
  Option.bind (α:=Str) (
  cond (!eqB b2Y 6) (
  some []) (
  some (R4 l k))) fun s566 =>
  some (((⟨b2Y,s566,0,args⟩:Typ),true,q))) = some (a9c (R4 l k) args,true,q):=by
      intro args q
      unfold a9c kindOf
      cases eqB (List.length args:Int) 0 <;> cases eqB (List.length args:Int) 1 <;> cases eqS (R4 l k) [73,110,116] <;> cases eqS (R4 l k) [66,111,111,108] <;> cases eqS (R4 l k) [84,101,120,116] <;> cases eqS (R4 l k) [85,110,105,116] <;>
        cases eqS (R4 l k) [65,114,114,97,121] <;> cases eqS (R4 l k) [87,101,97,107] <;> simp [eqB]
    rcases sgx C c1 60 [] with ⟨b,hb,e1,e2,e3,e4,e5⟩ | ⟨b,e1,e2,e3,e4,e5⟩
    · rw [e1,e2]
      simp only [Option.bind_some,cond_true]
      obtain ⟨b',rfl⟩:∃ q,b' = q + 1:=⟨b' - 1,by omega⟩
      have hty:∀ q:Int,(A7.fs (b' + 1)).X3 l size q (-1) = V6 b' (A7.fs b') l size q (-1):=fun _=>rfl
      rw [hty]
      simp only [l5_eq]
      rcases b3y C.hl size (-1) (Φ:=C8.fs a) (Ψ:=A7.fs b') a b' (c:=k + 1) (fun q h1 h2=>b7B C.hl size (-1) l.length a b' q (by omega) (by omega) h2 (by omega)) (k:=k + 1 + 1) (by omega) hb (by omega) (by omega) with
        ⟨t,k1,args,k2,y1,y2,y3,y4,y5,y6,y7⟩ | ⟨args,k2,y1,y2,y3,y4⟩ | ⟨t,k1,args,k2,y1,y2,y3,y4,y5,y6⟩
      · rw [y1,y4]
        simp only [R9,Option.bind_some]
        rw [y2]
        simp only [Option.bind_some]
        rw [y3]
        simp only [a3c,Bool.not_true,cond_false]
        rcases sgx C y6 62 [] with ⟨b,hb2,e1,e2,e3,e4,e5⟩ | ⟨b,e1,e2,e3,e4,e5⟩
        · rw [e2,e3]
          simp only [R9,a0W,Option.bind_some,Bool.not_true,cond_false]
          rw [kind_ok]
          refine .inl ⟨a9c (R4 l k) args,k2 + 1,fun bb=>?_,rfl,by omega,hb2,by rw [Typ.a2I]; simp only [a9c]; omega⟩
          rw [b57,Option.bind_some]
        · rw [e2,e3]
          simp only [Q7,a0F,Option.bind_some,Bool.not_false,cond_true]
          exact .inr ⟨_,k2,fun _=>rfl,rfl,by omega,y6⟩
      · rw [y1,y2]
        simp only [Q7,a0F,Option.bind_some,Bool.not_false,cond_true]
        exact .inr ⟨_,k2,fun _=>rfl,rfl,by omega,y4⟩
      · rw [y1,y4]
        simp only [R9,Option.bind_some]
        rw [y2]
        simp only [Option.bind_some]
        rw [y3]
        simp only [a4C,a0F,Option.bind_some,Bool.not_false,cond_true]
        exact .inr ⟨_,k2,fun _=>rfl,rfl,by omega,y6⟩
    · rw [e1,e2]
      simp only [a0W,Option.bind_some,cond_false]
      rw [kind_ok]
      refine .inl ⟨a9c (R4 l k) [],k + 1,fun bb=>?_,rfl,by omega,c1,by rw [Typ.a2I]; simp only [a9c,szT]; omega⟩
      rw [b57,Option.bind_some]
  · rw [c2,c3]
    simp only [Q7,Option.bind_some,Bool.not_false,cond_true]
    exact .inr ⟨_,k,fun _=>rfl,rfl,Nat.le_refl _,hk⟩
end
inductive b8Y:Nod -> Prop
 | leaf {x:Nod}:x.op ≠ 55 -> b8Y x
 | step {x y:Nod}:x.l = [y] -> b8Y y -> b8Y x
theorem G.spine {m:Nat} {x:Nod} (h:G m x):m = 0 -> b8Y x:=by
 induction h with
 | field _ _ ih=>exact fun _=>.step rfl (ih rfl)
 | un h _ _=>exact fun _=>.leaf (by rcases h with rfl | rfl <;> simp)
 | _=>first | exact fun h=>absurd h (by decide) | exact fun _=>.leaf (by simp)
theorem place_l1 (n n':Nat):∀ {x:Nod},b8Y x -> ∀ m m',x.sz < m -> x.sz < m' -> ∃ y,a1B n m x = some y /\ a1v n' m' x = some y:=by
 intro x h
 induction h with
 | @leaf x h =>
  intro m m' h1 h2
  obtain ⟨m,rfl⟩:∃ q,m = q + 1:=⟨m - 1,by omega⟩
  obtain ⟨m',rfl⟩:∃ q,m' = q + 1:=⟨m' - 1,by omega⟩
  simp only [a1B,a1v,a6Q h,cond_false,Option.bind_some]
  exact ⟨x,rfl,rfl⟩
 | @step x y hx hy ih =>
  intro m m' h1 h2
  obtain ⟨m,rfl⟩:∃ q,m = q + 1:=⟨m - 1,by omega⟩
  obtain ⟨m',rfl⟩:∃ q,m' = q + 1:=⟨m' - 1,by omega⟩
  have hz:=x.a2I
  rw [hx] at hz
  simp only [a7D,a6X] at hz
  have h0:idx' x.l 0 = some y:=by rw [hx]; exact a4a (l:=[y]) (i:=0) (by simp)
  have h9:eqB (List.length x.l:Int) 1 = true:=by rw [hx]; exact a4j rfl
  cases ho:eqB x.op 55
  ·simp only [a1B,a1v,ho,cond_false,Option.bind_some]
   exact ⟨x,rfl,rfl⟩
  ·simp only [a1B,a1v,ho,cond_true,Option.bind_some,h0,h9]
   exact ih m m' (by omega) (by omega)
theorem c1C {x:Nod} (h:G 0 x) {n n':Nat} (hn:x.sz < n) (hn':x.sz < n'):∃ b,a6s n x = some b /\ a6p n' x = some b:=by
 obtain ⟨y,h1,h2⟩:=place_l1 n n' (h.spine rfl) n n' hn hn'
 unfold a6s a6p
 rw [h1,h2]
 exact ⟨_,rfl,rfl⟩
theorem b9h (n:Nat) (ops:List Str) (v:Str) (h2:ops.length <= 1000):∀ m i,i <= ops.length -> ops.length - i < m -> ∃ r,V8 (α:=Unit) (U8 n ops v m (i:Int)) (fun _=>some (-1)) = some r /\ leB 0 r = (ops.drop i).any (eqS v)
 | 0,i,h3,h4=>by omega
 | m + 1,i,h3,h4=>by
  simp only [U8]
  rcases Nat.lt_or_ge i ops.length with h | h
  ·rw [a7j (by omega),cond_true,a4a h,Option.bind_some,List.drop_eq_getElem_cons h,List.any_cons]
   cases hv:eqS v ops[i]
   ·rw [cond_false,a1E (by omega),Bool.false_or]
    exact b9h n ops v h2 m (i + 1) h (by omega)
   ·exact ⟨(i:Int),rfl,by rw [leB_t (by omega)]; rfl⟩
  ·rw [a7S (by omega),cond_false,List.drop_eq_nil_of_le h]
   exact ⟨-1,rfl,leB_f (by decide)⟩
theorem b8b {n:Nat} (ops:List Str) (v:Str) (h2:ops.length <= 1000) (h:ops.length < n):Y2 n ops v = some (ops.any (eqS v)):=by
 obtain ⟨r,h3,h4⟩:=b9h n ops v h2 n 0 (Nat.zero_le _) (by omega)
 unfold Y2 a1M
 have h3:V8 (α:=Unit) (U8 n ops v n 0) (fun _=>some (-1)) = some r:=h3
 rw [h3,Option.bind_some,h4]; rfl
end Go.Proofs.YtmonfppdiehlpaaGreatDoor
namespace Go.Proofs.YtmonfppdiehlpaaGreatDoor
open Go Go.Vm
def a3C {α:Type} (l:List Tok) (size:Int) (k:Nat) (sz:α -> Nat) (Q:α -> Prop) (p:Option (Rs (α × Int) (o7 × Int))) (r:Option (α × Bool × Int × Int)):Prop :=
 (∃ (x:α) (q:Nat),p = some (.ok (x,(q:Int))) /\ r = some (x,true,(q:Int),-1) /\ k <= q /\ q <= l.length /\ sz x + 4 * k <= 4 * q /\ Q x) ∨
 (∃ (x:α) (q:Nat) (pl:Int) (f:o7),p = some (.pan (f,(q:Int))) /\ r = some (x,false,(q:Int),pl) /\ k <= q /\ q <= l.length /\ a4x l size q pl f)
def SimA (l:List Tok) (size:Int) (k:Nat) (m0:List Nod) (p:Option (Rs (List Nod × Int) (o7 × Int))) (r:Option (List Nod × Bool × Int × Int × List Nod)):Prop :=
 (∃ (ys:List Nod) (q:Nat),p = some (.ok (ys,(q:Int))) /\ r = some (m0 ++ ys,true,(q:Int),-1,m0 ++ ys) /\ k <= q /\ q <= l.length /\ szN ys + 4 * k + 8 <= 4 * q /\ ∀ x ∈ ys,G 6 x) ∨
 (∃ (x y:List Nod) (q:Nat) (pl:Int) (f:o7),p = some (.pan (f,(q:Int))) /\ r = some (x,false,(q:Int),pl,y) /\ k <= q /\ q <= l.length /\ a4x l size q pl f)
def LV:List K8:=[(⟨[[124,124]],false⟩:K8),(⟨[[38,38]],false⟩:K8),(⟨[[61,61],[33,61],[60],[60,61],[62],[62,61]],true⟩:K8),(⟨[[43],[45]],false⟩:K8),(⟨[[42],[47],[37]],false⟩:K8)]
def a7Y:Nat -> List Str
 | 0=>[[124,124]]
 | 1=>[[38,38]]
 | 2=>[[61,61],[33,61],[60],[60,61],[62],[62,61]]
 | 3=>[[43],[45]]
 | _=>[[42],[47],[37]]
def lvAt (j:Nat):K8:=⟨a7Y j,eqB (j:Int) 2⟩
def b8w (l:List Tok) (size:Int) (j k n n':Nat):Prop :=
 (∃ (u:Nod) (q0:Nat) (x:Nod) (q:Nat),(j3.fs n).I4 l k size = some (.ok (u,(q0:Int))) /\ (j3.fs n).P6 u (LV.drop j) l q0 size = some (.ok (x,(q:Int))) /\ (d9.fs n').J7 j l size k (-1) = some (x,true,(q:Int),-1) /\ k <= q /\ q <= l.length /\ x.sz + 4 * k <= 4 * q /\ G 0 x) ∨
 (∃ (x:Nod) (q:Nat) (pl:Int) (f:o7),(j3.fs n).I4 l k size = some (.pan (f,(q:Int))) /\ (d9.fs n').J7 j l size k (-1) = some (x,false,(q:Int),pl) /\ k <= q /\ q <= l.length /\ a4x l size q pl f) ∨
 (∃ (u:Nod) (q0:Nat) (x:Nod) (q:Nat) (pl:Int) (f:o7),(j3.fs n).I4 l k size = some (.ok (u,(q0:Int))) /\ (j3.fs n).P6 u (LV.drop j) l q0 size = some (.pan (f,(q:Int))) /\ (d9.fs n').J7 j l size k (-1) = some (x,false,(q:Int),pl) /\ k <= q /\ q <= l.length /\ a4x l size q pl f)
structure Hyp (l:List Tok) (size:Int) (c N:Nat):Prop where
 expr:∀ k n n',c <= k -> k <= l.length -> N <= n -> N <= n' -> a3C l size k Nod.sz (G 0) ((j3.fs n).x9 l k size) ((d9.fs n').E5 l size k (-1))
 unary:∀ k n n',c <= k -> k <= l.length -> N <= n -> N <= n' -> a3C l size k Nod.sz (G 0) ((j3.fs n).I4 l k size) ((d9.fs n').M8 l size k (-1))
 lev:∀ j k n n',j <= 5 -> c <= k -> k <= l.length -> N <= n -> N <= n' -> b8w l size j k n n'
 args:∀ m0 k n n',List.length m0 <= 3000 -> c <= k -> k <= l.length -> N <= n -> N <= n' -> SimA l size k m0 ((j3.fs n).K7 l k size) ((d9.fs n').L9 m0 l size k (-1))
 stmts:∀ k n n',c <= k -> k <= l.length -> N <= n -> N <= n' -> a3C l size k (fun x=>szN x + 4) (fun x=>∀ y ∈ x,G 1 y) ((j3.fs n).O5 l k size) ((d9.fs n').S9 l size k (-1))
 stmt:∀ k n n',c <= k -> k <= l.length -> N <= n -> N <= n' -> a3C l size k Nod.sz (G 1) ((j3.fs n).P5 l k size) ((d9.fs n').R5 l size k (-1))
 block:∀ k n n',c <= k -> k <= l.length -> N <= n -> N <= n' -> a3C l size k Nod.sz (G 2) ((j3.fs n).G5 l k size) ((d9.fs n').J4 l size k (-1))
 iff:∀ k n n',isT l 9 [105,102] k = true -> c <= k -> k <= l.length -> N <= n -> N <= n' -> a3C l size k Nod.sz (fun x=>G 1 x /\ x.op = 24) ((j3.fs n).M9 l k size) ((d9.fs n').Q8 l size k (-1))
section
variable {l:List Tok} {size:Int} (C:Cx l size)
include C
theorem sgt {k:Nat} {a:UInt8} {r:Str} (h:isT l 8 (a :: r) k = true):k + 1 <= l.length /\ D9 (a :: r) l k size = some (true,((k + 1:Nat):Int)) /\ o9 (a :: r) l size k (-1) = some (true,((k + 1:Nat):Int)) /\ F3 (a :: r) l k size = some (.ok ((k + 1:Nat):Int)) /\ D6 0 8 (a :: r) l k size = some true /\ G9 8 (a :: r) l size k (-1) = some true:=by
 rcases sgx C (Nat.le_of_lt (a6a h)) a r with ⟨_,h⟩ | ⟨h2,_⟩
 ·exact h
 ·rw [h] at h2; cases h2
theorem sgf {k:Nat} {a:UInt8} {r:Str} (hk:k <= l.length) (h:isT l 8 (a :: r) k = false):D9 (a :: r) l k size = some (false,(k:Int)) /\ o9 (a :: r) l size k (-1) = some (false,(k:Int)) /\ F3 (a :: r) l k size = some (.pan (O1 l size k,(k:Int))) /\ D6 0 8 (a :: r) l k size = some false /\ G9 8 (a :: r) l size k (-1) = some false:=by
 rcases sgx C hk a r with ⟨h2,_⟩ | ⟨_,h⟩
 ·rw [h] at h2; cases h2
 ·exact h
theorem nmt {k:Nat} (h:isK l 1 k = true):k + 1 <= l.length /\ N8 l k size = some (.ok (R4 l k)) /\ D8 1 l size k (-1) = some (R4 l k,true,((k + 1:Nat):Int)) /\ D6 0 1 [] l k size = some true:=by
 rcases nmx C (Nat.le_of_lt (b70 h)) with ⟨_,h⟩ | ⟨h2,_⟩
 ·exact h
 ·rw [h] at h2; cases h2
theorem nmf {k:Nat} (hk:k <= l.length) (h:isK l 1 k = false):N8 l k size = some (.pan (O1 l size k)) /\ D8 1 l size k (-1) = some ([],false,(k:Int)) /\ D6 0 1 [] l k size = some false:=by
 rcases nmx C hk with ⟨h2,_⟩ | ⟨_,h⟩
 ·rw [h] at h2; cases h2
 ·exact h
theorem kdt {k:Nat} {kind:Int} (h:isK l kind k = true):k + 1 <= l.length /\ ∃ t:Tok,idx' l (k:Int) = some t /\ t.text = R4 l k /\ t.at_ = O1 l size k /\ t.kind = kind /\ D6 0 kind [] l k size = some true /\ U2 kind l size k (-1) = some true /\ D8 kind l size k (-1) = some (R4 l k,true,((k + 1:Nat):Int)) /\ M7 kind l k size = some (.ok t):=by
 rcases kdx C (Nat.le_of_lt (b70 h)) kind with ⟨_,h⟩ | ⟨h2,_⟩
 ·exact h
 ·rw [h] at h2; cases h2
theorem b9z {kind:Int} {s u:Str} {k:Nat} (h:isT l kind s k = true) (hn:s ≠ u):isT l kind u k = false:=by
 rw [b6l C] at h ⊢
 simp only [Bool.and_eq_true] at h
 have:R4 l k = s:=by simpa [eqS] using h.2
 rw [this]
 simp [eqS,hn]
theorem b6u {Φ:C8} {Ψ:d9} (n n' k0:Nat) (a:Int):∀ (m m' k:Nat) (t:Typ),k <= l.length -> l.length - k < m -> l.length - k < m' -> t.sz + k0 <= k ->
  (∃ (t':Typ) (q:Nat),O7 n Φ true size l m k t = some (.brk ((q:Int),t')) /\ isT l 8 [40] q = true /\ W9 n' Ψ size l (-1) a true m' k t = ((Ψ.L9 ([]:List Nod) l size q (-1)).bind fun (r10,r11,at12,a4R,a5I)=>some (.out (((⟨59,[],0,t',[],r10,a⟩:Nod),r11,at12,a4R)))) /\ k <= q /\ q <= l.length /\ t'.sz + k0 <= q) ∨
  (∃ (t':Typ) (q:Nat),O7 n Φ true size l m k t = some (.brk ((q:Int),t')) /\ isT l 8 [40] q = false /\ isT l 8 [46] q = true /\ isK l 1 (q + 1) = true /\ W9 n' Ψ size l (-1) a true m' k t = cond (isT l 8 [40] (q + 1 + 1)) ((Ψ.L9 ([]:List Nod) l size ((q + 1 + 1:Nat):Int) (-1)).bind fun (r10,r11,at12,a4R,a5I)=>some (.out (((⟨58,R4 l (q + 1),1,t',[],r10,a⟩:Nod),r11,at12,a4R)))) (some (.out (((⟨58,R4 l (q + 1),0,t',[],[],a⟩:Nod),true,((q + 1 + 1:Nat):Int),-1)))) /\ k <= q /\ q + 2 <= l.length /\ t'.sz + k0 <= q) ∨
  (∃ (t':Typ) (q:Nat) (x:Nod),O7 n Φ true size l m k t = some (.brk ((q:Int),t')) /\ isT l 8 [40] q = false /\ isT l 8 [46] q = false /\ W9 n' Ψ size l (-1) a true m' k t = some (.out (x,false,(q:Int),-1)) /\ k <= q /\ q <= l.length) ∨
  (∃ (q:Nat) (x:Nod),O7 n Φ true size l m k t = some (.out (.pan (O1 l size q,(q:Int)))) /\ W9 n' Ψ size l (-1) a true m' k t = some (.out (x,false,(q:Int),-1)) /\ k <= q /\ q <= l.length)
 | 0,m',k,t,h1,h2,h3,h4=>by omega
 | m + 1,0,k,t,h1,h2,h3,h4=>by omega
 | m + 1,m' + 1,k,t,h1,h2,h3,h4=>by
  have hl:=C.hl
  rw [O7.eq_2,W9.eq_2,cond_true]
  cases hd:isT l 8 [46] k
  ·obtain ⟨e1,e2,e3,e4,e5⟩:=sgf C h1 hd
   cases hp:isT l 8 [40] k
   ·obtain ⟨f1,f2,f3,f4,f5⟩:=sgf C h1 hp
    simp (disch:=omega) only [e4,e2,f5,SSx C]
    exact .inr (.inr (.inl ⟨t,k,_,rfl,hp,hd,rfl,Nat.le_refl _,h1⟩))
   ·obtain ⟨hb,f1,f2,f3,f4,f5⟩:=sgt C hp
    simp (disch:=omega) only [e4,f5,SSx C]
    exact .inl ⟨t,k,rfl,hp,rfl,Nat.le_refl _,h1,h4⟩
  ·obtain ⟨hb,e1,e2,e3,e4,e5⟩:=sgt C hd
   have hp:isT l 8 [40] k = false:=b9z C hd (by decide)
   obtain ⟨f1,f2,f3,f4,f5⟩:=sgf C h1 hp
   have i1:=is1_ok C hb 1
   cases hn:isK l 1 (k + 1)
   ·obtain ⟨g1,g2,g3⟩:=nmf C hb hn
    rw [hn] at i1
    rcases cap C.hl hb size (-1) with ⟨c1,c2,c3,c4⟩ | ⟨c2,c3⟩
    ·simp (disch:=omega) only [e4,e2,f5,i1,c2,c3,c4,SSx C]
     rcases b6u n n' k0 a m m' (k + 1 + 1) ⟨8,R4 l (k + 1),0,[t]⟩ c1 (by omega) (by omega) (by simp only [tsz,b25]; omega) with ⟨t',q,y1,y2,y3,y4,y5,y6⟩ | ⟨t',q,y1,y2,y3,y4,y5,y6,y7,y8⟩ | ⟨t',q,x,y1,y2,y3,y4,y5,y6⟩ | ⟨q,x,y1,y2,y3,y4⟩
     ·exact .inl ⟨t',q,y1,y2,y3,by omega,y5,y6⟩
     ·exact .inr (.inl ⟨t',q,y1,y2,y3,y4,y5,by omega,y7,y8⟩)
     ·exact .inr (.inr (.inl ⟨t',q,x,y1,y2,y3,y4,by omega,y6⟩))
     ·exact .inr (.inr (.inr ⟨q,x,y1,y2,by omega,y4⟩))
    ·simp (disch:=omega) only [e4,e2,f5,i1,c2,c3,g2,SSx C]
     exact .inr (.inr (.inr ⟨k + 1,_,rfl,rfl,by omega,hb⟩))
   ·obtain ⟨hc,g1,g2,g3⟩:=nmt C hn
    rw [hn] at i1
    have w2:D8 2 l size ((k + 1:Nat):Int) (-1) = some ([],false,((k + 1:Nat):Int)):=by
     rcases kdx C hb 2 with ⟨c,_,t,t0,t1,t2,t3,_⟩ | ⟨c,_,_,e,_⟩
     ·rcases kdx C hb 1 with ⟨c',_,t',t0',t1',t2',t3',_⟩ | ⟨c',_⟩
      ·rw [t0] at t0'; cases t0'; rw [t3] at t3'; cases t3'
      ·rw [hn] at c'; cases c'
     ·exact e
    have nx:=a7R C.hl hc size (-1) 8 [40]
    simp (disch:=omega) only [e4,e2,f5,i1,w2,g2,nx,SSx C]
    exact .inr (.inl ⟨t,k,rfl,hp,hd,hn,rfl,Nat.le_refl _,hc,h4⟩)
omit C in
theorem five {j:Nat} (h:j < 5):j = 0 ∨ j = 1 ∨ j = 2 ∨ j = 3 ∨ j = 4:=by omega
omit C in
theorem lv_get:∀ {j:Nat},j < 5 -> LV[j]? = some (lvAt j):=by
 intro j h
 rcases five h with rfl | rfl | rfl | rfl | rfl <;> simp [LV,lvAt,a7Y,eqB]
omit C in
theorem lk {i j:Nat} (hij:i <= j) (hj:j < 5):idx' (LV.drop i) ((j - i:Nat):Int) = some (lvAt j):=by
 have h:j - i < (LV.drop i).length:=by simp [LV]; omega
 rw [a4a h,List.getElem_drop]
 have:=lv_get hj
 rw [<- List.getElem?_eq_getElem,show i + (j - i) = j from by omega,this]
omit C in
theorem lsub {i j:Nat} (hij:i <= j) (hj:j < 5):subL (LV.drop i) (w64 (((j - i:Nat):Int) + 1)) ((LV.drop i).length:Int) = some (LV.drop (j + 1)):=by
 have h:(LV.drop i).length = 5 - i:=by simp [LV]
 rw [a1E (by omega)]
 have h2:inI ((j - i + 1:Nat):Int) ((LV.drop i).length:Int) (LV.drop i).length = true:=by rw [h]; simp [inI]; omega
 simp only [subL,h2,Int.toNat_natCast,List.take_length,List.drop_drop]
 rw [show i + (j - i + 1) = j + 1 from by omega]
omit C in
theorem rk {j:Nat} (hj:j < 5):idx' ([[[124,124]],[[38,38]],[[61,61],[33,61],[60],[60,61],[62],[62,61]],[[43],[45]],[[42],[47],[37]]]:List (List Str)) (j:Int) = some (a7Y j):=by
 rw [a4a (by simpa using hj)]
 rcases five hj with rfl | rfl | rfl | rfl | rfl <;> rfl
omit C in
theorem b7z {j:Nat} (hj:j < 5):(a7Y j).length <= 6:=by
 rcases five hj with rfl | rfl | rfl | rfl | rfl <;> simp [a7Y]
omit C in
theorem ops_ne {j:Nat} (hj:j < 5) {s:Str} (h:(a7Y j).any (eqS s) = true):eqS s [] = false:=by
 simp only [List.any_eq_true] at h
 obtain ⟨u,h1,h2⟩:=h
 have h2:s = u:=by simpa [eqS] using h2
 subst h2
 have h3:¬ s = []:=by
  intro h0
  subst h0
  rcases five hj with rfl | rfl | rfl | rfl | rfl <;> simp [a7Y] at h1
 simp [eqS,h3]
theorem fold_eq (k:Nat):∀ (L:List Str) (o:Str),L.foldl (fun o s=>cond (isT l 8 s k) s o) o = cond (isK l 8 k && L.any (eqS (R4 l k))) (R4 l k) o
 | [],o=>by simp
 | s :: r,o=>by
  rw [List.foldl_cons,fold_eq k r,b6l C,List.any_cons]
  cases isK l 8 k
  ·rfl
  ·cases h:eqS (R4 l k) s
   ·simp
   ·have h:R4 l k = s:=by simpa [eqS] using h
    simp [h]
theorem find_ok {Ψ:d9} (n':Nat) {j k:Nat} (hj:j < 5) (hk:k <= l.length) (cnt:Int) (x:Nod):∀ (m i:Nat) (o:Str),i <= (a7Y j).length -> (a7Y j).length - i < m ->
  Z5 n' Ψ size j l m cnt o i k (-1) x = some (cnt,((a7Y j).drop i).foldl (fun o s=>cond (isT l 8 s k) s o) o,(k:Int),-1,x)
 | 0,i,o,h1,h2=>by omega
 | m + 1,i,o,h1,h2=>by
  have h6:=b7z hj
  simp only [Z5,rk hj,Option.bind_some]
  rcases Nat.lt_or_ge i (a7Y j).length with h | h
  ·rw [a7j (by omega),cond_true,a4a h,Option.bind_some,a7R C.hl hk,Option.bind_some,List.drop_eq_getElem_cons h,List.foldl_cons,a1E (by omega)]
   cases hb:isT l 8 (a7Y j)[i] k
   ·rw [cond_false,Option.bind_some,find_ok n' hj hk cnt x m (i + 1) o h (by omega)]; rfl
   ·simp only [cond_true,Option.bind_some]
    rw [find_ok n' hj hk cnt x m (i + 1) _ h (by omega)]
  ·rw [a7S (by omega),cond_false,List.drop_eq_nil_of_le h]; rfl
theorem hit_ok {n i j k:Nat} (hij:i <= j) (hj:j < 5) (hk:k <= l.length) (hn:10 <= n):(Option.bind (α:=Bool) (
      cond (ltB (k:Int) (List.length l:Int)) (
      (idx' l (k:Int)).bind fun x6 =>
      cond (eqB x6.kind 8) (
      (idx' (LV.drop i) ((j - i:Nat):Int)).bind fun x7 =>
      (idx' l (k:Int)).bind fun x8 =>
      (Y2 n x7.ops x8.text).bind fun r9 =>
      some r9) (
      some false)) (
      some false)) fun x=>some x) = some (isK l 8 k && (a7Y j).any (eqS (R4 l k))):=by
  have h6:=b7z hj
  rcases Nat.lt_or_ge k l.length with h | h
  · have hT:R4 l k = l[k].text:=by unfold R4; rw [List.getElem?_eq_getElem h]
    have hK:isK l 8 k = eqB l[k].kind 8:=by unfold isK; rw [List.getElem?_eq_getElem h]
    rw [a7j (by omega),cond_true,a4a h,Option.bind_some,hT,hK]
    cases eqB l[k].kind 8
    · rfl
    · rw [cond_true,lk hij hj,Option.bind_some,Option.bind_some]
      simp only [lvAt]
      rw [b8b _ _ (by omega) (by omega)]; rfl
  · have hK:isK l 8 k = false:=by unfold isK; rw [List.getElem?_eq_none h]
    rw [a7S (by omega),cond_false,hK]; rfl
theorem b7c {N n n' k0 i j:Nat} (hN:24000 <= N) (hn:N <= n) (hn':N <= n') (hij:i <= j) (hj:j < 5) (H:Hyp l size (k0 + 1) N) (z:Int):∀ (m m' k:Nat) (cnt:Int) (x:Nod),(j = 2 -> cnt = 0) -> k0 <= k -> k <= l.length -> l.length - k < m -> l.length - k + 1 < m' -> x.sz + 4 * k0 <= 4 * k -> G 0 x ->
  (∃ (y:Nod) (q:Nat),X7 n (j3.fs n) size (LV.drop i) l m ((j - i:Nat):Int) z k x = some (.brk (z,(q:Int),y)) /\ V8 (α:=Bool × Int × Int × Nod) (N7 n' (d9.fs n') size j l m' true cnt k (-1) x) (fun (b33,b36,a6A,n650)=>some ((n650,b33,b36,a6A))) = some (y,true,(q:Int),-1) /\ k <= q /\ q <= l.length /\ y.sz + 4 * k0 <= 4 * q /\ G 0 y) ∨
  (∃ (y:Nod) (q:Nat) (pl:Int) (f:o7),X7 n (j3.fs n) size (LV.drop i) l m ((j - i:Nat):Int) z k x = some (.out (.pan (f,(q:Int)))) /\ V8 (α:=Bool × Int × Int × Nod) (N7 n' (d9.fs n') size j l m' true cnt k (-1) x) (fun (b33,b36,a6A,n650)=>some ((n650,b33,b36,a6A))) = some (y,false,(q:Int),pl) /\ k <= q /\ q <= l.length /\ a4x l size q pl f)
 | 0,m',k,cnt,x,h1,h2,h3,h4,h5,h6,h7=>by omega
 | m + 1,0,k,cnt,x,h1,h2,h3,h4,h5,h6,h7=>by omega
 | m + 1,1,k,cnt,x,h1,h2,h3,h4,h5,h6,h7=>by omega
 | m + 1,m' + 2,k,cnt,x,h1,h2,h3,h4,h5,h6,h7=>by
  have hl:=C.hl
  have hol:=b7z hj
  have hit:=hit_ok C (n:=n) hij hj h3 (by omega)
  have hf:=find_ok C (Ψ:=d9.fs n') n' hj h3 cnt x n' 0 [] (Nat.zero_le _) (by omega)
  rw [List.drop_zero,fold_eq C] at hf
  have hmore:(Option.bind (α:=Bool) (cond true (cond (!eqB (j:Int) 2) (some true) (some (eqB cnt 0))) (some false)) fun x=>some x) = some true:=by
   by_cases h2:j = 2
   ·rw [h1 h2,a4j (show (j:Int) = 2 from by omega),a4j (show (0:Int) = 0 from rfl)]; rfl
   ·rw [a6Q (show ¬ (j:Int) = 2 from by omega)]; rfl
  have oid:∀ {o:Option Bool} {b:Bool},(o.bind fun x=>some x) = some b -> o = some b:=fun {o b} h=>by cases o <;> exact h
  have hmore:=oid hmore
  have hit:=oid hit
  rw [X7.eq_2,N7.eq_2,hmore,hit,Option.bind_some,Option.bind_some,cond_true]
  have hf:Z5 n' (d9.fs n') size j l n' cnt [] 0 k (-1) x = _:=hf
  rw [hf,Option.bind_some]
  cases hh:(isK l 8 k && (a7Y j).any (eqS (R4 l k)))
  ·simp only [cond_false,a2t,cond_true,a4C,a0F]
   exact .inl ⟨x,k,rfl,rfl,Nat.le_refl _,h3,h6,h7⟩
  ·simp only [Bool.and_eq_true] at hh
   have hs:=ops_ne hj hh.2
   obtain ⟨hb,t,t0,t1,t2,t3,_⟩:=kdt C hh.1
   have hT:isT l 8 (R4 l k) k = true:=by rw [b6l C,hh.1,a2t]; rfl
   have g3:o9 (R4 l k) l size k (-1) = some (true,((k + 1:Nat):Int)):=by
    rcases sg C.hl h3 size (-1) (R4 l k) hs with ⟨_,_,_,g3,_⟩ | ⟨g,_⟩
    ·exact g3
    ·rw [hT] at g; cases g
   simp only [cond_true,hs,cond_false,g3,Option.bind_some,t0,lsub hij hj,t1]
   rw [a1E (k:=k) (by omega),a1E (k:=j) (by omega)]
   rcases H.lev (j + 1) (k + 1) n n' (by omega) (by omega) hb hn hn' with ⟨u,q0,y,q,p1,p2,p3,p4,p5,p6,p7⟩ | ⟨y,q,pl,f,p1,p2,p3,p4,p5⟩ | ⟨u,q0,y,q,pl,f,p1,p2,p3,p4,p5,p6⟩
   ·simp only [p1,p2,p3,R9,Option.bind_some,a3c,lk hij hj]
    have hz:(⟨64,R4 l k,0,zT,[],[x,y],x.at_⟩:Nod).sz + 4 * k0 <= 4 * q:=by simp only [szs]; omega
    have hG:G 0 ⟨64,R4 l k,0,zT,[],[x,y],x.at_⟩:=.bin h7.at h7 p7
    cases ho:(lvAt j).once
    ·have hj2:¬ j = 2:=fun h=>by subst h; simp [lvAt,eqB] at ho
     simp only [cond_false]
     rcases b7c hN hn hn' hij hj H z m (m' + 1) q (w64 (cnt + 1)) _ (fun h=>absurd h hj2) (by omega) p5 (by omega) (by omega) hz hG with ⟨y',q',y1,y2,y3,y4,y5,y6⟩ | ⟨y',q',pl,f,y1,y2,y3,y4,y5⟩
     ·exact .inl ⟨y',q',y1,y2,by omega,y4,y5,y6⟩
     ·exact .inr ⟨y',q',pl,f,y1,y2,by omega,y4,y5⟩
    ·have hj2:j = 2:=by
      rcases five hj with h | h | h | h | h <;> subst h <;> first | rfl | (simp [lvAt,eqB] at ho)
     have hc:=h1 hj2
     have e1:eqB (j:Int) 2 = true:=a4j (by omega)
     have e2:eqB (w64 (cnt + 1)) 0 = false:=by rw [hc,a5V (by omega) (by omega)]; exact a6Q (by decide)
     simp only [cond_true,N7.eq_2,e1,e2,Bool.not_true,cond_false,Option.bind_some,a0W]
     exact .inl ⟨_,q,rfl,rfl,by omega,p5,hz,hG⟩
   ·simp only [p1,p2,Q7,Option.bind_some,a3c,N7.eq_2,cond_false,a0W]
    exact .inr ⟨_,q,pl,f,rfl,rfl,by omega,p4,p5⟩
   ·simp only [p1,p2,p3,R9,Q7,Option.bind_some,a3c,N7.eq_2,cond_false,a0W]
    exact .inr ⟨_,q,pl,f,rfl,rfl,by omega,p5,p6⟩
theorem chain {N n k i:Nat} (hN:24000 <= N) (hn:N <= n) (hk:k <= l.length) (H:Hyp l size (k + 1) N) (hi:i <= 5)
    (U:∀ n',N + 4 <= n' -> a3C l size k Nod.sz (G 0) ((j3.fs (n + 1)).I4 l k size) ((d9.fs n').M8 l size k (-1))) :
    ∀ (d j n':Nat),j + d = 5 -> i <= j -> N + 5 + d <= n' ->
    (∃ (u:Nod) (q0:Nat) (x:Nod) (q:Nat),(j3.fs (n + 1)).I4 l k size = some (.ok (u,(q0:Int))) /\ (∀ m,d < m -> O8 n (j3.fs n) (LV.drop i) size l m 0 q0 u = O8 n (j3.fs n) (LV.drop i) size l (m - d) d q x) /\ (d9.fs n').J7 j l size k (-1) = some (x,true,(q:Int),-1) /\ k <= q /\ q <= l.length /\ x.sz + 4 * k <= 4 * q /\ G 0 x) ∨
    (∃ (x:Nod) (q:Nat) (pl:Int) (f:o7),(j3.fs (n + 1)).I4 l k size = some (.pan (f,(q:Int))) /\ (d9.fs n').J7 j l size k (-1) = some (x,false,(q:Int),pl) /\ k <= q /\ q <= l.length /\ a4x l size q pl f) ∨
    (∃ (u:Nod) (q0:Nat) (x:Nod) (q:Nat) (pl:Int) (f:o7),(j3.fs (n + 1)).I4 l k size = some (.ok (u,(q0:Int))) /\ (∀ m,d < m -> O8 n (j3.fs n) (LV.drop i) size l m 0 q0 u = some (.out (.pan (f,(q:Int))))) /\ (d9.fs n').J7 j l size k (-1) = some (x,false,(q:Int),pl) /\ k <= q /\ q <= l.length /\ a4x l size q pl f)
  | 0,j,n',h1,h2,h3=>by
    obtain ⟨n',rfl⟩:∃ q,n' = q + 1:=⟨n' - 1,by omega⟩
    have hl5:(d9.fs (n' + 1)).J7 (j:Int) l size k (-1) = (d9.fs n').M8 l size k (-1):=by
      show a0R n' (d9.fs n') j l size k (-1) = _
      unfold a0R a5A
      rw [Option.bind_some,a4j (show (j:Int) = _ from by simp; omega),cond_true]
      cases (d9.fs n').M8 l size k (-1) <;> rfl
    rw [hl5]
    rcases U n' (by omega) with ⟨x,q,p1,p2,p3,p4,p5,p6⟩ | ⟨x,q,pl,f,p1,p2,p3,p4,p5⟩
    · exact .inl ⟨x,q,x,q,p1,fun m _=>rfl,p2,p3,p4,p5,p6⟩
    · exact .inr (.inl ⟨x,q,pl,f,p1,p2,p3,p4,p5⟩)
  | d + 1,j,n',h1,h2,h3=>by
    have hl:=C.hl
    have hj:j < 5:=by omega
    obtain ⟨n',rfl⟩:∃ q,n' = q + 1:=⟨n' - 1,by omega⟩
    have hlj:(d9.fs (n' + 1)).J7 (j:Int) l size k (-1) = ((d9.fs n').J7 ((j + 1:Nat):Int) l size k (-1)).bind fun (r10,r11,at12,a4R) =>
        V8 (α:=Bool × Int × Int × Nod) (N7 n' (d9.fs n') size j l n' r11 0 at12 a4R r10) fun (b33,b36,a6A,n650)=>some ((n650,b33,b36,a6A)):=by
      show a0R n' (d9.fs n') j l size k (-1) = _
      unfold a0R a5A
      rw [Option.bind_some,a6Q (show ¬ (j:Int) = _ from by simp; omega),cond_false,a1E (by omega)]
    rw [hlj]
    rcases chain hN hn hk H hi U d (j + 1) n' (by omega) (by omega) (by omega) with ⟨u,q0,x,q,p1,p2,p3,p4,p5,p6,p7⟩ | ⟨x,q,pl,f,p1,p2,p3,p4,p5⟩ | ⟨u,q0,x,q,pl,f,p1,p2,p3,p4,p5,p6⟩
    · rw [p3,Option.bind_some]
      have hlen:(LV.drop i).length = 5 - i:=by simp [LV]
      have step:∀ m,0 < m -> O8 n (j3.fs n) (LV.drop i) size l m d q x = a5h (α:=Int × Int × Nod) (X7 n (j3.fs n) size (LV.drop i) l n ((j - i:Nat):Int) d q x) fun (b5M,at563,n564)=>O8 n (j3.fs n) (LV.drop i) size l (m - 1) (w64 (b5M + 1)) at563 n564:=by
        intro m hm
        obtain ⟨m,rfl⟩:∃ q,m = q + 1:=⟨m - 1,by omega⟩
        rw [O8.eq_2,a7j (by rw [hlen]; omega),cond_true,Nat.add_sub_cancel]
        rw [show w64 (w64 (((LV.drop i).length:Int) - 1) - (d:Int)) = ((j - i:Nat):Int) from by
          rw [hlen,a5V (a:=((5 - i:Nat):Int) - 1) (by omega) (by omega),a5V (by omega) (by omega)]; omega]
      rcases b7c C hN (n':=n') hn (by omega) h2 hj H (d:Int) n n' q 0 x (fun _=>rfl) p4 p5 (by omega) (by omega) p6 p7 with ⟨y,q',y1,y2,y3,y4,y5,y6⟩ | ⟨y,q',pl,f,y1,y2,y3,y4,y5⟩
      · refine .inl ⟨u,q0,y,q',p1,fun m hm=>?_,y2,by omega,y4,y5,y6⟩
        rw [p2 m (by omega),step (m - d) (by omega),y1,a3c]
        simp only
        rw [a1E (by omega),show m - d - 1 = m - (d + 1) from by omega]
      · refine .inr (.inr ⟨u,q0,y,q',pl,f,p1,fun m hm=>?_,y2,by omega,y4,y5⟩)
        rw [p2 m (by omega),step (m - d) (by omega),y1,a4C]
    · rw [p2,Option.bind_some]
      obtain ⟨n',rfl⟩:∃ q,n' = q + 1:=⟨n' - 1,by omega⟩
      simp only [N7.eq_2,cond_false,Option.bind_some,a0W]
      exact .inr (.inl ⟨x,q,pl,f,p1,rfl,p3,p4,p5⟩)
    · rw [p3,Option.bind_some]
      obtain ⟨n',rfl⟩:∃ q,n' = q + 1:=⟨n' - 1,by omega⟩
      simp only [N7.eq_2,cond_false,Option.bind_some,a0W]
      exact .inr (.inr ⟨u,q0,x,q,pl,f,p1,fun m hm=>p2 m (by omega),rfl,p4,p5,p6⟩)
theorem lev_at {N n n' k j:Nat} (hN:24000 <= N) (hn:N + 1 <= n) (hn':N + 10 <= n') (hk:k <= l.length) (H:Hyp l size (k + 1) N) (hj:j <= 5)
  (U:∀ n',N + 4 <= n' -> a3C l size k Nod.sz (G 0) ((j3.fs n).I4 l k size) ((d9.fs n').M8 l size k (-1))):b8w l size j k n n':=by
 obtain ⟨n,rfl⟩:∃ q,n = q + 1:=⟨n - 1,by omega⟩
 have hc:∀ (u:Nod) (q:Int),(j3.fs (n + 1)).P6 u (LV.drop j) l q size = V8 (α:=Int × Nod) (O8 n (j3.fs n) (LV.drop j) size l n 0 q u) fun (at568,n569)=>some (.ok (n569,at568)):=fun _ _=>rfl
 have hlen:(LV.drop j).length = 5 - j:=by simp [LV]
 unfold b8w
 rcases chain C hN (by omega) hk H hj U (5 - j) j n' (by omega) (Nat.le_refl _) (by omega) with ⟨u,q0,x,q,p1,p2,p3,p4,p5,p6,p7⟩ | ⟨x,q,pl,f,p1,p2,p3,p4,p5⟩ | ⟨u,q0,x,q,pl,f,p1,p2,p3,p4,p5,p6⟩
 ·refine .inl ⟨u,q0,x,q,p1,?_,p3,p4,p5,p6,p7⟩
  rw [hc,p2 n (by omega)]
  obtain ⟨m,hm⟩:∃ m,n - (5 - j) = m + 1:=⟨n - (5 - j) - 1,by omega⟩
  rw [hm,O8.eq_2,a7S (by rw [hlen]; omega)]
  rfl
 ·exact .inr (.inl ⟨x,q,pl,f,p1,p2,p3,p4,p5⟩)
 ·refine .inr (.inr ⟨u,q0,x,q,pl,f,p1,?_,p3,p4,p5,p6⟩)
  rw [hc,p2 n (by omega)]
  rfl
theorem expr_at {N n n' k:Nat} (hn:N + 2 <= n) (hn':N + 11 <= n') (L:∀ n n',N + 1 <= n -> N + 10 <= n' -> b8w l size 0 k n n') :
  a3C l size k Nod.sz (G 0) ((j3.fs n).x9 l k size) ((d9.fs n').E5 l size k (-1)):=by
 obtain ⟨n,rfl⟩:∃ q,n = q + 1:=⟨n - 1,by omega⟩
 obtain ⟨n',rfl⟩:∃ q,n' = q + 1:=⟨n' - 1,by omega⟩
 show a3C l size k Nod.sz (G 0) (a2w n (j3.fs n) l k size) (a2p n' (d9.fs n') l size k (-1))
 unfold a2w a2p a7f
 have e0:∀ u (q:Int),(j3.fs n).P6 u ([(⟨[[124,124]],false⟩:K8),(⟨[[38,38]],false⟩:K8),(⟨[[61,61],[33,61],[60],[60,61],[62],[62,61]],true⟩:K8),(⟨[[43],[45]],false⟩:K8),(⟨[[42],[47],[37]],false⟩:K8)]:List K8) l q size = (j3.fs n).P6 u (LV.drop 0) l q size:=fun _ _=>rfl
 have e9:(d9.fs n').J7 0 l size k (-1) = (d9.fs n').J7 ((0:Nat):Int) l size k (-1):=rfl
 rw [e9]
 rcases L n n' (by omega) (by omega) with ⟨u,q0,x,q,p1,p2,p3,p4,p5,p6,p7⟩ | ⟨x,q,pl,f,p1,p2,p3,p4,p5⟩ | ⟨u,q0,x,q,pl,f,p1,p2,p3,p4,p5,p6⟩
 ·simp only [p1,p3,R9,Option.bind_some,e0,p2]
  exact .inl ⟨x,q,rfl,rfl,p4,p5,p6,p7⟩
 ·simp only [p1,p2,Q7,Option.bind_some]
  exact .inr ⟨x,q,pl,f,rfl,rfl,p3,p4,p5⟩
 ·simp only [p1,p3,R9,Q7,Option.bind_some,e0,p2]
  exact .inr ⟨x,q,pl,f,rfl,rfl,p4,p5,p6⟩
end
end Go.Proofs.YtmonfppdiehlpaaGreatDoor
namespace Go.Proofs.YtmonfppdiehlpaaGreatDoor
open Go Go.Vm
theorem ev_app {acc:List Nod} {t e:Nod} (he:acc.length % 2 = 0) (h:∀ i x,acc[2 * i]? = some x -> x.op = 52) (ht:t.op = 52):(∀ i x,(acc ++ [t])[2 * i]? = some x -> x.op = 52) /\ ∀ i x,(acc ++ [t] ++ [e])[2 * i]? = some x -> x.op = 52:=by
 have h1:∀ i x,(acc ++ [t])[2 * i]? = some x -> x.op = 52:=by
  intro i x hx
  rw [List.getElem?_append] at hx
  split at hx
  ·exact h i x hx
  ·rename_i h3
   rcases Nat.eq_or_lt_of_le (Nat.le_of_not_lt h3) with h4 | h4
   ·rw [<- h4,Nat.sub_self] at hx; cases hx; exact ht
   ·rw [List.getElem?_eq_none (by simp only [List.length_singleton]; omega)] at hx; cases hx
 refine ⟨h1,fun i x hx=>?_⟩
 rw [List.getElem?_append] at hx
 split at hx
 ·exact h1 i x hx
 ·rename_i h3
  rw [List.length_append,List.length_singleton] at h3 hx
  rw [List.getElem?_eq_none (by simp only [List.length_singleton]; omega)] at hx; cases hx
section
variable {l:List Tok} {size:Int} (C:Cx l size)
include C
theorem b5r {a b:Int} {k:Nat} (h:isK l a k = true) (hn:a ≠ b):isK l b k = false:=by
 unfold isK at h ⊢
 cases hk:l[k]? with
 | none=>rfl
 | some t =>
  rw [hk] at h
  have:t.kind = a:=by simpa [eqB] using h
  exact a6Q (by rw [this]; exact hn)
theorem kdf {k:Nat} {kind:Int} (hk:k <= l.length) (h:isK l kind k = false):D6 0 kind [] l k size = some false /\ U2 kind l size k (-1) = some false /\ D8 kind l size k (-1) = some ([],false,(k:Int)) /\ M7 kind l k size = some (.pan (O1 l size k)):=by
 rcases kdx C hk kind with ⟨h2,_⟩ | ⟨_,h⟩
 ·rw [h] at h2; cases h2
 ·exact h
theorem kyf {k:Nat} (hk:k <= l.length) (h:isK l 9 k = false) (a:UInt8) (r:Str):J5 (a :: r) l k size = some (false,(k:Int)) /\ E9 (a :: r) l size k (-1) = some (false,(k:Int)):=by
 rcases kyx C hk a r with ⟨h2,_⟩ | ⟨_,h1,h2,_⟩
 ·rw [b6l C,h] at h2; cases h2
 ·exact ⟨h1,h2⟩
theorem b6X {N n n' k0:Nat} {m0:List Nod} (hN:24000 <= N) (hn:N <= n) (hn':N <= n') (H:Hyp l size (k0 + 1) N) (hm0:m0.length <= 3000):∀ (m m' k:Nat) (xs:List Nod),k0 + 1 <= k -> k <= l.length -> l.length - k < m -> l.length - k + 1 < m' -> szN xs + 4 * k0 + 4 <= 4 * k -> (∀ x ∈ xs,G 6 x) ->
  (∃ (q:Nat) (ys:List Nod),a0U n (j3.fs n) size l m xs k = some (.brk (ys,(q:Int))) /\ a0o n' (d9.fs n') size l m' (m0 ++ xs) true k (-1) = some (.brk (m0 ++ ys,(q:Int),-1)) /\ k <= q /\ q <= l.length /\ szN ys + 4 * k0 + 4 <= 4 * q /\ ∀ x ∈ ys,G 6 x) ∨
  (∃ (q:Nat) (x y:List Nod) (pl:Int) (f:o7),a0U n (j3.fs n) size l m xs k = some (.out (.pan (f,(q:Int)))) /\ a0o n' (d9.fs n') size l m' (m0 ++ xs) true k (-1) = some (.out (x,false,(q:Int),pl,y)) /\ k <= q /\ q <= l.length /\ a4x l size q pl f)
 | 0,m',k,xs,h0,h1,h2,h3,h4,h5=>by omega
 | m + 1,0,k,xs,h0,h1,h2,h3,h4,h5=>by omega
 | m + 1,1,k,xs,h0,h1,h2,h3,h4,h5=>by omega
 | m + 1,m' + 2,k,xs,h0,h1,h2,h3,h4,h5=>by
  have hl:=C.hl
  have hlen:=a4w xs
  have elem:(∃ (q:Nat) (y:Nod),((D9 [38] l k size).bind fun (r8,at9) =>
   cond r8 (
   F9 (a1h n l at9 size) (fun (r10,at11) =>
   (app 144 xs ([(⟨62,[],0,(⟨0,[],0,[]⟩:Typ),[],[r10],O1 l size k⟩:Nod)]:List Nod)).bind fun l12 =>
   some (.brk (l12,at11))) fun (at13,at14) =>
   some (.out (.pan ((⟨(⟨20,at13⟩:Flt)⟩:o7),at14)))) (
   F9 ((j3.fs n).x9 l at9 size) (fun (r15,at16) =>
   (app 144 xs ([r15]:List Nod)).bind fun l17 =>
   some (.brk (l17,at16))) fun (e18,at19) =>
   some (.out (.pan (e18,at19))))) = some (Lr.brk (α:=List Nod × Int) (ρ:=Rs (List Nod × Int) (o7 × Int)) (xs ++ [y],(q:Int))) /\ ((o9 [38] l size k (-1)).bind fun (r11,at12) =>
   cond r11 (
   (a1C n' l size at12 (-1)).bind fun (r13,r14,at15) =>
   some (r14,at15,-1,(⟨62,[],0,(⟨0,[],0,[]⟩:Typ),[],[r13],O1 l size k⟩:Nod))) (
   ((d9.fs n').E5 l size at12 (-1)).bind fun (r16,r17,at18,b1d) =>
   some (r17,at18,b1d,r16))) = some (true,(q:Int),-1,y) /\ k <= q /\ q <= l.length /\ y.sz + 4 * k <= 4 * q /\ G 6 y) ∨
   (∃ (q:Nat) (y:Nod) (pl:Int) (f:o7),((D9 [38] l k size).bind fun (r8,at9) =>
   cond r8 (
   F9 (a1h n l at9 size) (fun (r10,at11) =>
   (app 144 xs ([(⟨62,[],0,(⟨0,[],0,[]⟩:Typ),[],[r10],O1 l size k⟩:Nod)]:List Nod)).bind fun l12 =>
   some (.brk (l12,at11))) fun (at13,at14) =>
   some (.out (.pan ((⟨(⟨20,at13⟩:Flt)⟩:o7),at14)))) (
   F9 ((j3.fs n).x9 l at9 size) (fun (r15,at16) =>
   (app 144 xs ([r15]:List Nod)).bind fun l17 =>
   some (.brk (l17,at16))) fun (e18,at19) =>
   some (.out (.pan (e18,at19))))) = some (Lr.out (α:=List Nod × Int) (ρ:=Rs (List Nod × Int) (o7 × Int)) (.pan (f,(q:Int)))) /\ ((o9 [38] l size k (-1)).bind fun (r11,at12) =>
   cond r11 (
   (a1C n' l size at12 (-1)).bind fun (r13,r14,at15) =>
   some (r14,at15,-1,(⟨62,[],0,(⟨0,[],0,[]⟩:Typ),[],[r13],O1 l size k⟩:Nod))) (
   ((d9.fs n').E5 l size at12 (-1)).bind fun (r16,r17,at18,b1d) =>
   some (r17,at18,b1d,r16))) = some (false,(q:Int),pl,y) /\ k <= q /\ q <= l.length /\ a4x l size q pl f):=by
   rcases sgx C h1 38 [] with ⟨b,hb,e1,e2,e3,e4,e5⟩ | ⟨b,e1,e2,e3,e4,e5⟩
   ·rw [e1,e2]
    simp only [Option.bind_some,cond_true]
    rcases c1M C (n:=n) (n':=n') hb (by omega) (by omega) with ⟨x,q,p1,p2,p3,p4,p5,p6,p7⟩ | ⟨x,q,p1,p2,p3,p4⟩
    ·simp only [p1,p2,R9,Option.bind_some]
     rw [a6N (by omega) (by simp) (by omega)]
     exact .inl ⟨q,_,rfl,rfl,by omega,p4,by simp only [szs]; omega,.lend (C.pos k) p6⟩
    ·simp only [p1,p2,Q7,Option.bind_some]
     exact .inr ⟨q,_,-1,_,rfl,rfl,by omega,p4,a0E l size q⟩
   ·rw [e1,e2]
    simp only [Option.bind_some,cond_false]
    rcases H.expr k n n' h0 h1 hn hn' with ⟨x,q,p1,p2,p3,p4,p5,p6⟩ | ⟨x,q,pl,f,p1,p2,p3,p4,p5⟩
    ·simp only [p1,p2,R9,Option.bind_some]
     rw [a6N (by omega) (by simp) (by omega)]
     exact .inl ⟨q,x,rfl,rfl,p3,p4,p5,.arg p6⟩
    ·simp only [p1,p2,Q7,Option.bind_some]
     exact .inr ⟨q,_,pl,f,rfl,rfl,p3,p4,p5⟩
  rw [a0U.eq_2,a0o.eq_2,a8a C h1,a4Y C.hl h1,cond_true,Option.bind_some,Option.bind_some]
  rcases elem with ⟨q,y,g1,g2,g3,g4,g5,g6⟩ | ⟨q,y,pl,f,g1,g2,g3,g4,g5⟩
  ·rw [g1,g2]
   have hy:=y.a2I
   have a2:app 144 (m0 ++ xs) [y] = some (m0 ++ (xs ++ [y])):=by
    rw [<- List.append_assoc]; exact a6N (by simp only [List.length_append]; omega) (by simp) (by omega)
   simp only [a3c,Option.bind_some,Bool.not_true,cond_false,a2]
   rcases sgx C g4 44 [] with ⟨b,hb,e1,e2,e3,e4,e5⟩ | ⟨b,e1,e2,e3,e4,e5⟩
   ·simp only [e1,e2,Option.bind_some,Bool.not_true,cond_false]
    rcases b6X hN hn hn' H hm0 m (m' + 1) (q + 1) (xs ++ [y]) (by omega) hb (by omega) (by omega) (by simp only [szs]; omega) (a5r h5 (a4A g6)) with ⟨q',ys,y1,y2,y3,y4,y5,y6⟩ | ⟨q',x',y',pl,f,y1,y2,y3,y4,y5⟩
    ·exact .inl ⟨q',ys,y1,y2,by omega,y4,y5,y6⟩
    ·exact .inr ⟨q',x',y',pl,f,y1,y2,by omega,y4,y5⟩
   ·simp only [e1,e2,Option.bind_some,Bool.not_false,cond_true,a0o.eq_2,cond_false]
    exact .inl ⟨q,_,rfl,rfl,by omega,g4,by simp only [szs]; omega,a5r h5 (a4A g6)⟩
  ·rw [g1,g2]
   simp only [a4C,Option.bind_some,Bool.not_false,cond_true]
   exact .inr ⟨q,_,_,pl,f,rfl,rfl,by omega,g4,g5⟩
theorem args_at {N n n' k:Nat} {m0:List Nod} (hN:24000 <= N) (hn:N + 1 <= n) (hn':N + 1 <= n') (hk:k <= l.length) (H:Hyp l size (k + 1) N) (hm0:m0.length <= 3000) :
  SimA l size k m0 ((j3.fs n).K7 l k size) ((d9.fs n').L9 m0 l size k (-1)):=by
 have hl:=C.hl
 obtain ⟨n,rfl⟩:∃ q,n = q + 1:=⟨n - 1,by omega⟩
 obtain ⟨n',rfl⟩:∃ q,n' = q + 1:=⟨n' - 1,by omega⟩
 show SimA l size k m0 (a2o n (j3.fs n) l k size) (a2u n' (d9.fs n') m0 l size k (-1))
 unfold a2o a2u
 rcases sgx C hk 40 [] with ⟨b,hb,e1,e2,e3,e4,e5⟩ | ⟨b,e1,e2,e3,e4,e5⟩
 ·simp (disch:=omega) only [e2,e3,SSx C]
  rcases sgx C hb 41 [] with ⟨b,hb2,e1,e2,e3,e4,e5⟩ | ⟨b,e1,e2,e3,e4,e5⟩
  ·simp (disch:=omega) only [e1,e2,SSx C]
   exact .inl ⟨[],k + 1 + 1,rfl,by rw [List.append_nil],by omega,hb2,by simp only [szs]; omega,all_nil⟩
  ·simp (disch:=omega) only [e1,e2,SSx C]
   have h:=b6X C (n:=n) (n':=n') hN (by omega) (by omega) H hm0 n n' (k + 1) [] (by omega) hb (by omega) (by omega) (by simp only [szs]; omega) all_nil
   rw [List.append_nil] at h
   rcases h with ⟨q',ys,y1,y2,y3,y4,y5,y6⟩ | ⟨q',x',y',pl,f,y1,y2,y3,y4,y5⟩
   ·simp only [y1,y2,a0W]
    rcases sgx C y4 41 [] with ⟨b,hb2,e1,e2,e3,e4,e5⟩ | ⟨b,e1,e2,e3,e4,e5⟩
    ·simp (disch:=omega) only [e2,e3,SSx C]
     exact .inl ⟨ys,q' + 1,rfl,rfl,by omega,hb2,by omega,y6⟩
    ·simp (disch:=omega) only [e2,e3,SSx C]
     exact .inr ⟨_,_,q',-1,_,rfl,rfl,by omega,y4,a0E l size q'⟩
   ·simp only [y1,y2,a0F]
    exact .inr ⟨_,_,q',pl,f,rfl,rfl,by omega,y4,y5⟩
 ·simp (disch:=omega) only [e2,e3,SSx C]
  exact .inr ⟨_,_,k,-1,_,rfl,rfl,Nat.le_refl _,hk,a0E l size k⟩
theorem b3Y {N n n' k0:Nat} {a:Int} (ha:0 <= a) (hN:24000 <= N) (hn:N <= n) (hn':N <= n') (H:Hyp l size (k0 + 1) N):∀ (m m' k:Nat) (xs:List Nod) (s:Str) (z:Int),k0 <= k -> k <= l.length -> l.length - k < m -> l.length - k + 1 < m' -> szN xs + 4 * k0 <= 4 * k -> (∀ x ∈ xs,G 0 x) -> xs.length % 2 = 0 -> (∀ i x,xs[2 * i]? = some x -> x.op = 52) -> (isK l 5 k = true ∨ isK l 6 k = true) ->
  a3C l size k0 Nod.sz (G 0) (a0V n (j3.fs n) a size l m ((k + 1:Nat):Int) (xs ++ [(⟨52,R4 l k,0,zT,[],[],O1 l size k⟩:Nod)]) s z) (U7 n' (d9.fs n') size l a m' k (-1) xs)
 | 0,m',k,xs,s,z,h1,h2,h3,h4,h5,h6,h7,h8,h9=>by omega
 | m + 1,0,k,xs,s,z,h1,h2,h3,h4,h5,h6,h7,h8,h9=>by omega
 | m + 1,1,k,xs,s,z,h1,h2,h3,h4,h5,h6,h7,h8,h9=>by omega
 | m + 1,m' + 2,k,xs,s,z,h1,h2,h3,h4,h5,h6,h7,h8,h9=>by
  have hl:=C.hl
  have hlen:=a4w xs
  obtain ⟨kd,hkd,hK⟩:∃ kd,¬ kd = 7 /\ isK l kd k = true:=by
   rcases h9 with h | h
   ·exact ⟨5,by decide,h⟩
   ·exact ⟨6,by decide,h⟩
  obtain ⟨hb,t,t0,t1,t2,t3,_⟩:=kdt C hK
  rw [a0V.eq_2,U7.eq_2,t0,Option.bind_some,t1,t2,t3,a6Q hkd]
  have a1:app 144 xs [(⟨52,R4 l k,0,zT,[],[],O1 l size k⟩:Nod)] = some (xs ++ [(⟨52,R4 l k,0,zT,[],[],O1 l size k⟩:Nod)]):=a6N (by omega) (by simp) (by omega)
  rw [a1,Option.bind_some,cond_false,a1E (by omega)]
  rcases H.expr (k + 1) n n' (by omega) hb hn hn' with ⟨x,q,p1,p2,p3,p4,p5,p6⟩ | ⟨x,q,pl,f,p1,p2,p3,p4,p5⟩
  ·have hx:=x.a2I
   have ev:=ev_app (t:=(⟨52,R4 l k,0,zT,[],[],O1 l size k⟩:Nod)) (e:=x) h7 h8 rfl
   have gt:G 0 (⟨52,R4 l k,0,zT,[],[],O1 l size k⟩:Nod):=.text (C.pos k)
   have a2:app 144 (xs ++ [(⟨52,R4 l k,0,zT,[],[],O1 l size k⟩:Nod)]) [x] = some (xs ++ [(⟨52,R4 l k,0,zT,[],[],O1 l size k⟩:Nod)] ++ [x]):=a6N (by simp only [List.length_append,List.length_singleton]; omega) (by simp) (by omega)
   simp (disch:=omega) only [p1,p2,a2,SSx C]
   generalize hys:xs ++ [(⟨52,R4 l k,0,zT,[],[],O1 l size k⟩:Nod)] ++ [x] = ys at *
   have hyl:ys.length = xs.length + 2:=by rw [<- hys]; simp
   have hyz:szN ys + 4 * k0 <= 4 * q:=by rw [<- hys]; simp only [szs]; omega
   have hyg:∀ x ∈ ys,G 0 x:=by rw [<- hys]; exact a5r (a5r h6 (a4A gt)) (a4A p6)
   have a3:app 144 ys [(⟨52,R4 l q,0,zT,[],[],O1 l size q⟩:Nod)] = some (ys ++ [(⟨52,R4 l q,0,zT,[],[],O1 l size q⟩:Nod)]):=a6N (by omega) (by simp) (by omega)
   rcases kdx C p4 6 with ⟨c,hc,u,u0,u1,u2,u3,e1,e2,e3,e4⟩ | ⟨c,e1,e2,e3,e4⟩
   ·simp (disch:=omega) only [e1,e2,e4,u1,a3,SSx C]
    have h:=b3Y ha hN hn hn' H m (m' + 1) q ys (R4 l q) (O1 l size q) (by omega) p4 (by omega) (by omega) hyz hyg (by omega) ev.2 (.inr c)
    exact h
   ·simp (disch:=omega) only [e1,e2,SSx C]
    rcases kdx C p4 7 with ⟨c,hc,u,u0,u1,u2,u3,e1,e2,e3,e4⟩ | ⟨c,e1,e2,e3,e4⟩
    ·simp (disch:=omega) only [e2,e4,u1,a3,U7.eq_2,u0,u2,u3,a4j (show (7:Int) = 7 from rfl),SSx C]
     refine .inl ⟨_,q + 1,rfl,rfl,by omega,hc,by simp only [szs]; omega,.interp ha (a5r hyg (a4A (.text (C.pos q)))) ?_ (by rw [List.length_append,List.length_singleton]; omega) (by rw [List.length_append,List.length_singleton]; omega)⟩
     exact (ev_app (t:=(⟨52,R4 l q,0,zT,[],[],O1 l size q⟩:Nod)) (e:=x) (by omega) ev.2 rfl).1
    ·simp (disch:=omega) only [e2,e4,SSx C]
     exact .inr ⟨_,q,-1,_,rfl,rfl,by omega,p4,a0E l size q⟩
  ·simp (disch:=omega) only [p1,p2,SSx C]
   exact .inr ⟨_,q,pl,f,rfl,rfl,by omega,p4,p5⟩
theorem c1Q {N n n' k:Nat} (hN:24000 <= N) (hn:N + 1 <= n) (hn':N + 1 <= n') (hK:isK l 5 k = true) (H:Hyp l size (k + 1) N) :
  a3C l size k Nod.sz (G 0) ((j3.fs n).a0u l k size) ((d9.fs n').Y1 l size k (-1)):=by
 have hl:=C.hl
 obtain ⟨n,rfl⟩:∃ q,n = q + 1:=⟨n - 1,by omega⟩
 obtain ⟨n',rfl⟩:∃ q,n' = q + 1:=⟨n' - 1,by omega⟩
 show a3C l size k Nod.sz (G 0) (a1O n (j3.fs n) l k size) (a0D n' (d9.fs n') l size k (-1))
 unfold a1O a0D
 obtain ⟨hb,t,t0,t1,t2,t3,e1,e2,e3,e4⟩:=kdt C hK
 have hk:k <= l.length:=by omega
 simp (disch:=omega) only [e4,t1,SSx C]
 exact b3Y C (C.pos k) (n:=n) (n':=n') hN (by omega) (by omega) H n n' k [] _ _ (Nat.le_refl _) hk (by omega) (by omega) (by simp only [szs]; omega) all_nil rfl (fun i x h=>by cases h) (.inl hK)
theorem clos_at {N n n' k:Nat} (hN:24000 <= N) (hn:N + 1 <= n) (hn':N + 1 <= n') (hT:isT l 8 [123] k = true) (H:Hyp l size (k + 1) N) :
  a3C l size k Nod.sz (G 0) ((j3.fs n).a0m l k size) ((d9.fs n').a0T l size k (-1)):=by
 have hl:=C.hl
 obtain ⟨n,rfl⟩:∃ q,n = q + 1:=⟨n - 1,by omega⟩
 obtain ⟨n',rfl⟩:∃ q,n' = q + 1:=⟨n' - 1,by omega⟩
 show a3C l size k Nod.sz (G 0) (a1A n (j3.fs n) l k size) (a1r n' (d9.fs n') l size k (-1))
 unfold a1A a1r
 obtain ⟨hb,e1,e2,e3,e4,e5⟩:=sgt C hT
 have hk:k <= l.length:=by omega
 rw [a8a C hk,a8a C hk,a4Y C.hl hk,e2,e3]
 simp only [Option.bind_some,R9]
 rcases b9T C (m0:=[]) (n:=n) (n':=n') hb (by omega) (by omega) (by simp) with ⟨q,ys,p1,p2,p3,p4,p5,p6,p7⟩ | ⟨q,ys,p1,p2,p3,p4,p5⟩ | ⟨p1,p2⟩
 ·rw [List.nil_append] at p3
  have hlen:=a4w ys
  simp only [p1,p2,p3,R9,Option.bind_some,Bool.not_true,cond_false]
  have res:(∃ (t:Typ) (q':Nat),a1J n l q size = some (.ok (t,(q':Int))) /\ ((o9 [45,62] l size q (-1)).bind fun (r13,at14) =>
   cond r13 (
   (K6 n' l size at14 (-1)).bind fun (r15,r16,at17) =>
   cond (!r16) (
   some (.out (((⟨63,[],0,(⟨4,[],0,[]⟩:Typ),[],[],O1 l size k⟩:Nod),false,at17,(-1:Int))))) (
   some (.brk (at17,r15.kind,r15.name,r15.n,r15.args)))) (
   some (.brk (at14,4,[],0,([]:List Typ))))) = some (Lr.brk (ρ:=Nod × Bool × Int × Int) ((q':Int),t.kind,t.name,t.n,t.args)) /\ q <= q' /\ q' <= l.length /\ t.sz + q <= q' + 1) ∨
   (∃ (x:Nod) (q':Nat),a1J n l q size = some (.pan (O1 l size q',(q':Int))) /\ ((o9 [45,62] l size q (-1)).bind fun (r13,at14) =>
   cond r13 (
   (K6 n' l size at14 (-1)).bind fun (r15,r16,at17) =>
   cond (!r16) (
   some (.out (((⟨63,[],0,(⟨4,[],0,[]⟩:Typ),[],[],O1 l size k⟩:Nod),false,at17,(-1:Int))))) (
   some (.brk (at17,r15.kind,r15.name,r15.n,r15.args)))) (
   some (.brk (at14,4,[],0,([]:List Typ))))) = some (Lr.out (α:=Int × Int × Str × Int × List Typ) (x,false,(q':Int),-1)) /\ q <= q' /\ q' <= l.length):=by
   unfold a1J
   rcases sgx C p5 45 [62] with ⟨b,hb,e1,e2,e3,e4,e5⟩ | ⟨b,e1,e2,e3,e4,e5⟩
   ·rw [e1,e2]
    simp only [Option.bind_some,cond_true]
    rcases typ4 C (n:=n) (n':=n') hb (by omega) (by omega) with ⟨t,r,g1,g2,g3,g4,g5⟩ | ⟨t,r,g1,g2,g3,g4⟩
    ·simp only [g1,g2,Option.bind_some,R9,Bool.not_true,cond_false]
     exact .inl ⟨t,r,rfl,rfl,by omega,g4,by omega⟩
    ·simp only [g1,g2,Option.bind_some,Q7,Bool.not_false,cond_true]
     exact .inr ⟨_,r,rfl,rfl,by omega,g4⟩
   ·rw [e1,e2]
    simp only [Option.bind_some,cond_false]
    exact .inl ⟨⟨4,[],0,[]⟩,q,rfl,rfl,Nat.le_refl _,p5,by simp only [tsz,a7e]; omega⟩
  rcases res with ⟨t,q',g1,g2,g3,g4,g5⟩ | ⟨x,q',g1,g2,g3,g4⟩
  ·simp only at g2
   simp only [g1,g2,R9,a0W]
   rcases kyx C g4 105 [110] with ⟨b,hb2,e1,e2,e3,e4,e5⟩ | ⟨b,e1,e2,e3,e4,e5⟩
   ·simp (disch:=omega) only [e2,e3,SSx C]
    rcases H.stmts (q' + 1) n n' (by omega) hb2 (by omega) (by omega) with ⟨x,q2,s1,s2,s3,s4,s5,s6⟩ | ⟨x,q2,pl,f,s1,s2,s3,s4,s5⟩
    ·have a1:app 144 ys [(⟨20,[],0,zT,[],x,O1 l size k⟩:Nod)] = some (ys ++ [(⟨20,[],0,zT,[],x,O1 l size k⟩:Nod)]):=a6N (by omega) (by simp) (by omega)
     simp (disch:=omega) only [s1,s2,a1,SSx C]
     have s5:szN x + 4 + 4 * (q' + 1) <= 4 * q2:=s5
     exact .inl ⟨⟨63,[],0,t,[],ys ++ [⟨20,[],0,zT,[],x,O1 l size k⟩],O1 l size k⟩,q2,rfl,by rw [a7X],by omega,s4,by simp only [szs]; omega,.clos (C.pos k) p7 s6⟩
    ·simp (disch:=omega) only [s1,s2,SSx C]
     have hx:x.length <= x.length:=Nat.le_refl _
     rcases hap:app 144 ys [(⟨20,[],0,zT,[],x,O1 l size k⟩:Nod)] with _ | L
     ·rw [a6N (by omega) (by simp) (by omega)] at hap; cases hap
     ·exact .inr ⟨_,q2,pl,f,rfl,rfl,by omega,s4,s5⟩
   ·simp (disch:=omega) only [e2,e3,SSx C]
    exact .inr ⟨_,q',-1,_,rfl,rfl,by omega,g4,a0E l size q'⟩
  ·simp only at g2
   simp only [g1,g2,Q7,a0F]
   exact .inr ⟨_,q',-1,_,rfl,rfl,by omega,g4,a0E l size q'⟩
 ·simp only [p1,p2,p3,Q7,Option.bind_some,Bool.not_true,Bool.not_false,cond_true,cond_false]
  exact .inr ⟨_,q,-1,_,rfl,rfl,by omega,p5,a0E l size q⟩
 ·simp only [p1,p2,Q7,Option.bind_some,Bool.not_true,Bool.not_false,cond_true,cond_false]
  exact .inr ⟨_,k + 1,-1,_,rfl,rfl,by omega,hb,a0E l size (k + 1)⟩
end
end Go.Proofs.YtmonfppdiehlpaaGreatDoor
namespace Go.Proofs.YtmonfppdiehlpaaGreatDoor
open Go Go.Vm
section
variable {l:List Tok} {size:Int} (C:Cx l size)
include C
theorem b6Y {N n n' k0:Nat} {a:Int} (hN:24000 <= N) (hn:N <= n) (hn':N <= n') (H:Hyp l size (k0 + 1) N):∀ (m m' k:Nat) (xs:List Nod),k0 <= k -> k <= l.length -> l.length - k < m -> l.length - k < m' -> szN xs + 4 * k0 <= 4 * k -> (∀ x ∈ xs,G 0 x) ->
  (∃ (q:Nat) (ys:List Nod),a0x n (j3.fs n) size l m k xs = some (.brk ((q:Int),ys)) /\ ((o9 [44] l size k (-1)).bind fun (r45,at46)=>Z9 n' (d9.fs n') size l a m' r45 at46 (-1) xs) = some (.brk ((q:Int),-1,ys)) /\ k <= q /\ q <= l.length /\ szN ys + 4 * k0 <= 4 * q /\ ∀ x ∈ ys,G 0 x) ∨
  (∃ (q:Nat) (y:Nod) (pl:Int) (f:o7),a0x n (j3.fs n) size l m k xs = some (.out (.pan (f,(q:Int)))) /\ ((o9 [44] l size k (-1)).bind fun (r45,at46)=>Z9 n' (d9.fs n') size l a m' r45 at46 (-1) xs) = some (.out (y,false,(q:Int),pl)) /\ k <= q /\ q <= l.length /\ a4x l size q pl f)
 | 0,m',k,xs,h1,h2,h3,h4,h5,h6=>by omega
 | m + 1,0,k,xs,h1,h2,h3,h4,h5,h6=>by omega
 | m + 1,m' + 1,k,xs,h1,h2,h3,h4,h5,h6=>by
  have hl:=C.hl
  have hlen:=a4w xs
  rw [a0x.eq_2]
  rcases sgx C h2 44 [] with ⟨b,hb,e1,e2,e3,e4,e5⟩ | ⟨b,e1,e2,e3,e4,e5⟩
  ·rw [e1,e2]
   simp only [Option.bind_some,cond_true,Z9.eq_2]
   rcases H.expr (k + 1) n n' (by omega) hb hn hn' with ⟨x,q,p1,p2,p3,p4,p5,p6⟩ | ⟨x,q,pl,f,p1,p2,p3,p4,p5⟩
   ·have a1:app 144 xs [x] = some (xs ++ [x]):=a6N (by omega) (by simp) (by omega)
    have hx:=x.a2I
    simp only [p1,p2,a1,R9,Option.bind_some,Bool.not_true,cond_false]
    rcases b6Y hN hn hn' H m m' q (xs ++ [x]) (by omega) p4 (by omega) (by omega) (by simp only [szs]; omega) (a5r h6 (a4A p6)) with ⟨q',ys,y1,y2,y3,y4,y5,y6⟩ | ⟨q',y,pl,f,y1,y2,y3,y4,y5⟩
    ·exact .inl ⟨q',ys,y1,y2,by omega,y4,y5,y6⟩
    ·exact .inr ⟨q',y,pl,f,y1,y2,by omega,y4,y5⟩
   ·simp only [p1,p2,Q7,Option.bind_some,Bool.not_false,cond_true]
    exact .inr ⟨q,_,pl,f,rfl,rfl,by omega,p4,p5⟩
  ·rw [e1,e2]
   exact .inl ⟨k,xs,rfl,rfl,Nat.le_refl _,h2,h5,h6⟩
theorem atom_at {N n n' k:Nat} (hN:24000 <= N) (hn:N + 2 <= n) (hn':N + 2 <= n') (hk:k <= l.length) (H:Hyp l size (k + 1) N) (h1:isK l 1 k = false) :
  a3C l size k Nod.sz (G 0) ((j3.fs n).a0B l k size) ((d9.fs n').a06 l size k (-1)):=by
 have hl:=C.hl
 obtain ⟨n,rfl⟩:∃ q,n = q + 1:=⟨n - 1,by omega⟩
 obtain ⟨n',rfl⟩:∃ q,n' = q + 1:=⟨n' - 1,by omega⟩
 show a3C l size k Nod.sz (G 0) (a04 n (j3.fs n) l k size) (a01 n' (d9.fs n') l size k (-1))
 unfold a04 a01
 rcases inx C hk with ⟨c,hb,v,v0,e1,e2,e3,e4⟩ | ⟨c,e1,e2,e3⟩
 ·simp (disch:=omega) only [e1,e2,e3,e4,SSx C]
  exact .inl ⟨_,k + 1,rfl,rfl,by omega,hb,by simp only [szs]; omega,.int v0 (C.pos k)⟩
 simp (disch:=omega) only [e2,e3,SSx C]
 rcases kdx C hk 4 with ⟨c,hb,t,t1,t2,t3,t4,e1,e2,e3,e4⟩ | ⟨c,e1,e2,e3,e4⟩
 ·simp (disch:=omega) only [e1,e3,e4,t2,SSx C]
  exact .inl ⟨_,k + 1,rfl,rfl,by omega,hb,by simp only [szs]; omega,.text (C.pos k)⟩
 simp (disch:=omega) only [e1,e3,SSx C]
 rcases kdx C hk 5 with ⟨c,hb,t,t1,t2,t3,t4,e1,e2,e3,e4⟩ | ⟨c,e1,e2,e3,e4⟩
 ·simp (disch:=omega) only [e1,e2,SSx C]
  rcases c1Q C (n:=n) (n':=n') hN (by omega) (by omega) c H with ⟨x,q,p1,p2,p3,p4,p5,p6⟩ | ⟨x,q,pl,f,p1,p2,p3,p4,p5⟩
  ·simp only [p1,p2,R9,Option.bind_some,a0F]
   exact .inl ⟨x,q,rfl,rfl,p3,p4,p5,p6⟩
  ·simp only [p1,p2,Q7,Option.bind_some,a0F]
   exact .inr ⟨x,q,pl,f,rfl,rfl,p3,p4,p5⟩
 simp (disch:=omega) only [e1,e2,SSx C]
 rcases kyx C hk 116 [114,117,101] with ⟨b,hb,e1,e2,e3,e4,e5⟩ | ⟨b,e1,e2,e3,e4,e5⟩
 ·simp (disch:=omega) only [e1,e2,SSx C]
  exact .inl ⟨_,k + 1,rfl,rfl,by omega,hb,by simp only [szs]; omega,.truth (.inr rfl) (C.pos k)⟩
 simp (disch:=omega) only [e1,e2,SSx C]
 rcases kyx C hk 102 [97,108,115,101] with ⟨b,hb,e1,e2,e3,e4,e5⟩ | ⟨b,e1,e2,e3,e4,e5⟩
 ·simp (disch:=omega) only [e1,e2,SSx C]
  exact .inl ⟨_,k + 1,rfl,rfl,by omega,hb,by simp only [szs]; omega,.truth (.inl rfl) (C.pos k)⟩
 obtain ⟨n1,n2,n3⟩:=nmf C hk h1
 simp (disch:=omega) only [e1,e2,n2,n3,SSx C]
 rcases kyx C hk 99 [111,110,115,117,109,101] with ⟨b,hb,e1,e2,e3,e4,e5⟩ | ⟨b,e1,e2,e3,e4,e5⟩
 ·simp (disch:=omega) only [e1,e2,SSx C]
  rcases nmx C hb with ⟨c,hb,e1,e2,e3⟩ | ⟨c,e1,e2,e3⟩
  ·simp (disch:=omega) only [e1,e2,SSx C]
   exact .inl ⟨_,k + 1 + 1,rfl,rfl,by omega,hb,by simp only [szs]; omega,.use (C.pos k)⟩
  ·simp (disch:=omega) only [e1,e2,SSx C]
   exact .inr ⟨_,k + 1,-1,_,rfl,rfl,by omega,hb,a0E l size (k + 1)⟩
 simp (disch:=omega) only [e1,e2,SSx C]
 rcases sgx C hk 91 [] with ⟨b,hb,e1,e2,e3,e4,e5⟩ | ⟨b,e1,e2,e3,e4,e5⟩
 ·simp (disch:=omega) only [e1,e2,SSx C]
  rcases sgx C hb 93 [] with ⟨b,hb,e1,e2,e3,e4,e5⟩ | ⟨b,e1,e2,e3,e4,e5⟩
  ·simp (disch:=omega) only [e1,e2,SSx C]
   exact .inl ⟨_,k + 1 + 1,rfl,rfl,by omega,hb,by simp only [szs]; omega,.list (C.pos k) all_nil⟩
  simp (disch:=omega) only [e1,e2,SSx C]
  obtain ⟨m',rfl⟩:∃ q,n' = q + 1:=⟨n' - 1,by omega⟩
  rw [Z9.eq_2,cond_true]
  rcases H.expr (k + 1) n (m' + 1) (Nat.le_refl _) hb (by omega) (by omega) with ⟨x,q,p1,p2,p3,p4,p5,p6⟩ | ⟨x,q,pl,f,p1,p2,p3,p4,p5⟩
  ·rw [p1,p2,R9,Option.bind_some]
   simp only [app_0 144 x (by omega),Option.bind_some,Bool.not_true,cond_false]
   have hx:=x.a2I
   rcases b6Y C (a:=O1 l size k) (n:=n) (n':=m' + 1) hN (by omega) (by omega) H n m' q [x] (by omega) p4 (by omega) (by omega) (by simp only [szs]; omega) (a4A p6) with ⟨q',ys,y1,y2,y3,y4,y5,y6⟩ | ⟨q',y,pl,f,y1,y2,y3,y4,y5⟩
   ·rw [y1,y2,a3c,a3c]
    rcases sgx C y4 93 [] with ⟨b,hb,e1,e2,e3,e4,e5⟩ | ⟨b,e1,e2,e3,e4,e5⟩
    ·simp (disch:=omega) only [e2,e3,SSx C]
     exact .inl ⟨_,q' + 1,rfl,rfl,by omega,hb,by simp only [szs]; omega,.list (C.pos k) y6⟩
    ·simp (disch:=omega) only [e2,e3,SSx C]
     exact .inr ⟨_,q',-1,_,rfl,rfl,by omega,y4,a0E l size q'⟩
   ·rw [y1,y2,a4C,a4C,a0F,a0F]
    exact .inr ⟨_,q',pl,f,rfl,rfl,by omega,y4,y5⟩
  ·rw [p1,p2,Q7,Option.bind_some]
   exact .inr ⟨_,q,pl,f,rfl,rfl,by omega,p4,p5⟩
 simp (disch:=omega) only [e1,e2,SSx C]
 rcases sgx C hk 40 [] with ⟨b,hb,e1,e2,e3,e4,e5⟩ | ⟨b,e1,e2,e3,e4,e5⟩
 ·simp (disch:=omega) only [e1,e2,SSx C]
  rcases H.expr (k + 1) n n' (Nat.le_refl _) hb (by omega) (by omega) with ⟨x,q,p1,p2,p3,p4,p5,p6⟩ | ⟨x,q,pl,f,p1,p2,p3,p4,p5⟩
  ·simp (disch:=omega) only [p1,p2,SSx C]
   rcases sgx C p4 41 [] with ⟨b,hb,e1,e2,e3,e4,e5⟩ | ⟨b,e1,e2,e3,e4,e5⟩
   ·simp (disch:=omega) only [e2,e3,SSx C]
    exact .inl ⟨x,q + 1,rfl,rfl,by omega,hb,by omega,p6⟩
   ·simp (disch:=omega) only [e2,e3,SSx C]
    exact .inr ⟨_,q,-1,_,rfl,rfl,by omega,p4,a0E l size q⟩
  ·simp (disch:=omega) only [p1,p2,SSx C]
   exact .inr ⟨_,q,pl,f,rfl,rfl,by omega,p4,p5⟩
 simp (disch:=omega) only [e1,e2,SSx C]
 rcases sgx C hk 123 [] with ⟨b,hb,e1,e2,e3,e4,e5⟩ | ⟨b,e1,e2,e3,e4,e5⟩
 ·simp (disch:=omega) only [e4,e5,SSx C]
  rcases clos_at C (n:=n) (n':=n') hN (by omega) (by omega) b H with ⟨x,q,p1,p2,p3,p4,p5,p6⟩ | ⟨x,q,pl,f,p1,p2,p3,p4,p5⟩
  ·simp only [p1,p2,R9,Option.bind_some,a0F]
   exact .inl ⟨x,q,rfl,rfl,p3,p4,p5,p6⟩
  ·simp only [p1,p2,Q7,Option.bind_some,a0F]
   exact .inr ⟨x,q,pl,f,rfl,rfl,p3,p4,p5⟩
 simp (disch:=omega) only [e4,e5,SSx C]
 obtain ⟨n',rfl⟩:∃ q,n' = q + 1:=⟨n' - 1,by omega⟩
 have hpa:(d9.fs (n' + 1)).a1G l size k (-1) = a2q n' (d9.fs n') l size k (-1):=rfl
 rw [hpa]
 unfold a2q
 rw [a4Y C.hl hk,Option.bind_some]
 rcases base_sim C (n:=n) (n':=n') hk (by omega) (by omega) with ⟨t,q0,p1,p2,p3,p4,p5⟩ | ⟨t,q0,p1,p2,p3,p4⟩
 ·rw [p1 true,p2,Option.bind_some]
  simp only
  rcases b6u C (Φ:=C8.fs (n - 1)) (Ψ:=d9.fs n') (n - 1) n' k (O1 l size k) (n - 1) n' q0 t p4 (by omega) (by omega) p5 with ⟨t',q,y1,y2,y3,y4,y5,y6⟩ | ⟨t',q,y1,y2,y3,y4,y5,y6,y7,y8⟩ | ⟨t',q,x,y1,y2,y3,y4,y5,y6⟩ | ⟨q,x,y1,y2,y3,y4⟩
  ·obtain ⟨hb,e1,e2,e3,e4,e5⟩:=sgt C y2
   rw [y1,y3]
   simp (disch:=omega) only [e4,SSx C]
   rcases H.args [] q n n' (by simp) (by omega) y5 (by omega) (by omega) with ⟨ys,q2,g1,g2,g3,g4,g5,g6⟩ | ⟨x',y',q2,pl,f,g1,g2,g3,g4,g5⟩
   ·rw [List.nil_append] at g2
    simp (disch:=omega) only [g1,g2,SSx C]
    exact .inl ⟨_,q2,by rw [a7X],rfl,by omega,g4,by simp only [szs]; omega,.make (C.pos k) g6⟩
   ·simp (disch:=omega) only [g1,g2,SSx C]
    exact .inr ⟨_,q2,pl,f,rfl,rfl,by omega,g4,g5⟩
  ·obtain ⟨f1,f2,f3,f4,f5⟩:=sgf C (by omega) y2
   obtain ⟨hb,e1,e2,e3,e4,e5⟩:=sgt C y3
   obtain ⟨hc,g1,g2,g3⟩:=nmt C y4
   rw [y1,y5]
   simp (disch:=omega) only [f4,e3,g1,SSx C]
   rcases sgx C hc 40 [] with ⟨b,hb,e1,e2,e3,e4,e5⟩ | ⟨b,e1,e2,e3,e4,e5⟩
   ·simp (disch:=omega) only [e4,b,SSx C]
    rcases H.args [] (q + 1 + 1) n n' (by simp) (by omega) hc (by omega) (by omega) with ⟨ys,q2,g1,g2,g3,g4,g5,g6⟩ | ⟨x',y',q2,pl,f,g1,g2,g3,g4,g5⟩
    ·rw [List.nil_append] at g2
     simp (disch:=omega) only [g1,g2,SSx C]
     exact .inl ⟨_,q2,by rw [a7X],rfl,by omega,g4,by simp only [szs]; omega,.stat1 (C.pos k) g6⟩
    ·simp (disch:=omega) only [g1,g2,SSx C]
     exact .inr ⟨_,q2,pl,f,rfl,rfl,by omega,g4,g5⟩
   ·simp (disch:=omega) only [e4,b,SSx C]
    exact .inl ⟨_,q + 1 + 1,by rw [a7X],rfl,by omega,hc,by simp only [szs]; omega,.stat0 (C.pos k)⟩
  ·obtain ⟨f1,f2,f3,f4,f5⟩:=sgf C y6 y2
   obtain ⟨e1,e2,e3,e4,e5⟩:=sgf C y6 y3
   rw [y1,y4]
   simp (disch:=omega) only [f4,e3,SSx C]
   exact .inr ⟨_,q,-1,_,rfl,rfl,by omega,y6,a0E l size q⟩
  ·rw [y1,y2]
   simp (disch:=omega) only [SSx C]
   exact .inr ⟨_,q,-1,_,rfl,rfl,by omega,y4,a0E l size q⟩
 ·rw [p1 true,p2,Option.bind_some]
  obtain ⟨n',rfl⟩:∃ q,n' = q + 1:=⟨n' - 1,by omega⟩
  simp (disch:=omega) only [W9.eq_2,SSx C]
  exact .inr ⟨_,q0,-1,_,rfl,rfl,by omega,p4,a0E l size q0⟩
theorem c1J {n n' k:Nat} (h1:isK l 1 k = true) :
  (j3.fs (n + 1)).a0B l k size = some (.ok ((⟨54,R4 l k,0,zT,[],[],O1 l size k⟩:Nod),((k + 1:Nat):Int))) /\
  (d9.fs (n' + 1)).a06 l size k (-1) = cond (isT l 8 [40] (k + 1)) (((d9.fs n').L9 ([]:List Nod) l size ((k + 1:Nat):Int) (-1)).bind fun (r26,r27,at28,b4I,gone30)=>some (((⟨56,R4 l k,0,(⟨0,[],0,[]⟩:Typ),[],r26,O1 l size k⟩:Nod),r27,at28,b4I))) (some (((⟨54,R4 l k,0,(⟨0,[],0,[]⟩:Typ),[],[],O1 l size k⟩:Nod),true,((k + 1:Nat):Int),-1))):=by
 have hl:=C.hl
 obtain ⟨hb,g1,g2,g3⟩:=nmt C h1
 have hk:k <= l.length:=by omega
 obtain ⟨a1,a2,a3,a4⟩:=kdf C (kind:=3) hk (b5r C h1 (by decide))
 obtain ⟨b1,b2,b3,b4⟩:=kdf C (kind:=4) hk (b5r C h1 (by decide))
 obtain ⟨c1,c2,c3,c4⟩:=kdf C (kind:=5) hk (b5r C h1 (by decide))
 obtain ⟨d1,d2⟩:=kyf C hk (b5r C h1 (by decide)) 116 [114,117,101]
 obtain ⟨f1,f2⟩:=kyf C hk (b5r C h1 (by decide)) 102 [97,108,115,101]
 have nx:=a7R C.hl hb size (-1) 8 [40]
 constructor
 ·show a04 n (j3.fs n) l k size = _
  unfold a04
  simp (disch:=omega) only [a1,b1,c1,d1,f1,g1,g3,SSx C]
 ·show a01 n' (d9.fs n') l size k (-1) = _
  unfold a01
  simp (disch:=omega) only [a3,b3,c2,d2,f2,g2,nx,SSx C]
theorem a7g {N n n' k0:Nat} (hN:24000 <= N) (hn:N <= n) (hn':N <= n') (H:Hyp l size (k0 + 1) N):∀ (m m' k:Nat) (x:Nod),k0 + 1 <= k -> k <= l.length -> l.length - k < m -> l.length - k + 1 < m' -> x.sz + 4 * k0 <= 4 * k -> G 0 x ->
  a3C l size k0 Nod.sz (G 0) (Q0 n (j3.fs n) size l m false k x) (V8 (α:=Bool × Int × Int × Nod) (P8 n' (d9.fs n') size l m' true k (-1) x) fun (b5Y,b4a,a5u,n555)=>some ((n555,b5Y,b4a,a5u)))
 | 0,m',k,x,h1,h2,h3,h4,h5,h6=>by omega
 | m + 1,0,k,x,h1,h2,h3,h4,h5,h6=>by omega
 | m + 1,1,k,x,h1,h2,h3,h4,h5,h6=>by omega
 | m + 1,m' + 2,k,x,h1,h2,h3,h4,h5,h6=>by
  have hl:=C.hl
  have e0:∀ (q pl:Int) (y:Nod),P8 n' (d9.fs n') size l (m' + 1) false q pl y = some (.brk (false,q,pl,y)):=fun _ _ _=>rfl
  have one:∀ ys:List Nod,szN ys <= 20000 -> app 144 [x] ys = some ([x] ++ ys):=fun ys h=>a6N (by simp) (by have:=a4w ys; omega) (by omega)
  rw [Q0.eq_2,P8.eq_2,cond_true]
  rcases sgx C h2 46 [] with ⟨b,hb,e1,e2,e3,e4,e5⟩ | ⟨b,e1,e2,e3,e4,e5⟩
  ·rw [e1,e2]
   simp only [Option.bind_some,cond_true]
   rcases nmx C hb with ⟨c,hc,e1,e2,e3⟩ | ⟨c,e1,e2,e3⟩
   ·simp (disch:=omega) only [e1,e2,SSx C]
    rcases sgx C hc 40 [] with ⟨b,hb2,e1,e2,e3,e4,e5⟩ | ⟨b,e1,e2,e3,e4,e5⟩
    ·simp only [e4,e5,Option.bind_some,cond_true]
     rcases H.args [x] (k + 1 + 1) n n' (by simp) (by omega) hc hn hn' with ⟨ys,q,g1,g2,g3,g4,g5,g6⟩ | ⟨x',y',q,pl,f,g1,g2,g3,g4,g5⟩
     ·simp only [g1,g2,R9,Option.bind_some,one ys (by omega),a3c,a0W]
      exact a7g hN hn hn' H m (m' + 1) q ⟨57,R4 l (k + 1),0,zT,[],[x] ++ ys,x.at_⟩ (by omega) g4 (by omega) (by omega) (by simp only [szs]; omega) (.method h6.at h6 g6)
     ·simp only [g1,g2,Q7,Option.bind_some,a4C,a0F,e0,a0W]
      exact .inr ⟨_,q,pl,f,rfl,rfl,by omega,g4,g5⟩
    ·simp only [e4,e5,Option.bind_some,cond_false,a3c,a0W]
     exact a7g hN hn hn' H m (m' + 1) (k + 1 + 1) ⟨55,R4 l (k + 1),0,zT,[],[x],x.at_⟩ (by omega) hc (by omega) (by omega) (by simp only [szs]; omega) (.field h6.at h6)
   ·simp (disch:=omega) only [e1,e2,SSx C]
    exact .inr ⟨_,k + 1,-1,_,rfl,rfl,by omega,hb,a0E l size (k + 1)⟩
  ·rw [e1,e2]
   simp only [Option.bind_some,cond_false]
   rcases sgx C h2 40 [] with ⟨b,hb2,e1,e2,e3,e4,e5⟩ | ⟨b,e1,e2,e3,e4,e5⟩
   ·simp only [e4,e5,Option.bind_some,cond_true]
    rcases H.args [x] k n n' (by simp) (by omega) h2 hn hn' with ⟨ys,q,g1,g2,g3,g4,g5,g6⟩ | ⟨x',y',q,pl,f,g1,g2,g3,g4,g5⟩
    ·simp only [g1,g2,R9,Option.bind_some,one ys (by omega),a3c,a0W]
     exact a7g hN hn hn' H m (m' + 1) q ⟨60,[],0,zT,[],[x] ++ ys,x.at_⟩ (by omega) g4 (by omega) (by omega) (by simp only [szs]; omega) (.apply h6.at h6 g6)
    ·simp only [g1,g2,Q7,Option.bind_some,a4C,a0F,e0,a0W]
     exact .inr ⟨_,q,pl,f,rfl,rfl,by omega,g4,g5⟩
   ·simp only [e4,e5,Option.bind_some,cond_false,a0F]
    exact .inl ⟨x,k,rfl,rfl,by omega,h2,h5,h6⟩
theorem post_at {N n n' k:Nat} (hN:24000 <= N) (hn:N + 3 <= n) (hn':N + 3 <= n') (hk:k <= l.length) (H:Hyp l size (k + 1) N) :
  a3C l size k Nod.sz (G 0) ((j3.fs n).a0k l k size) ((d9.fs n').a0P l size k (-1)):=by
 have hl:=C.hl
 obtain ⟨n,rfl⟩:∃ q,n = q + 1:=⟨n - 1,by omega⟩
 obtain ⟨n',rfl⟩:∃ q,n' = q + 1:=⟨n' - 1,by omega⟩
 show a3C l size k Nod.sz (G 0) (a1y n (j3.fs n) l k size) (a1D n' (d9.fs n') l size k (-1))
 unfold a1y a1D
 have e0:∀ (q pl:Int) (y:Nod),P8 n' (d9.fs n') size l n' false q pl y = some (.brk (false,q,pl,y)):=by
  obtain ⟨m,rfl⟩:∃ q,n' = q + 1:=⟨n' - 1,by omega⟩
  exact fun _ _ _=>rfl
 rw [b53 C.hl hk size 1,Option.bind_some]
 cases h1:isK l 1 k
 ·rcases atom_at C (n:=n) (n':=n') hN (by omega) (by omega) hk H h1 with ⟨x,q,p1,p2,p3,p4,p5,p6⟩ | ⟨x,q,pl,f,p1,p2,p3,p4,p5⟩
  ·rw [p1,p2,R9,Option.bind_some]
   have hx:=x.a2I
   exact a7g C (n:=n) (n':=n') hN (by omega) (by omega) H n n' q x (by omega) p4 (by omega) (by omega) p5 p6
  ·rw [p1,p2,Q7,Option.bind_some]
   simp only [e0,a0W]
   exact .inr ⟨_,q,pl,f,rfl,rfl,p3,p4,p5⟩
 ·obtain ⟨n1,rfl⟩:∃ q,n = q + 1:=⟨n - 1,by omega⟩
  obtain ⟨n1',rfl⟩:∃ q,n' = q + 1:=⟨n' - 1,by omega⟩
  obtain ⟨a1,a2⟩:=c1J C (n:=n1) (n':=n1') h1
  obtain ⟨hb,_⟩:=nmt C h1
  have gn:G 0 (⟨54,R4 l k,0,zT,[],[],O1 l size k⟩:Nod):=.name (C.pos k)
  rw [a1,a2,R9]
  simp only
  rcases sgx C hb 40 [] with ⟨b,hb2,e1,e2,e3,e4,e5⟩ | ⟨b,e1,e2,e3,e4,e5⟩
  ·obtain ⟨f1,f2,f3,f4,f5⟩:=sgf C hb (b9z C b (u:=[46]) (by decide))
   rw [b,cond_true,Q0.eq_2,f1]
   simp only [e4,Option.bind_some,cond_false,cond_true]
   rcases H.args [] (k + 1) (n1 + 1) n1' (by simp) (Nat.le_refl _) hb (by omega) (by omega) with ⟨ys,q,g1,g2,g3,g4,g5,g6⟩ | ⟨x',y',q,pl,f,g1,g2,g3,g4,g5⟩
   ·rw [List.nil_append] at g2
    simp only [g1,g2,R9,Option.bind_some,a0W]
    exact a7g C (n:=n1 + 1) (n':=n1' + 1) hN (by omega) (by omega) H n1 (n1' + 1) q ⟨56,R4 l k,0,zT,[],ys,O1 l size k⟩ (by omega) g4 (by omega) (by omega) (by simp only [szs]; omega) (.call (C.pos k) g6)
   ·simp only [g1,g2,Q7,Option.bind_some,a0F,e0,a0W]
    exact .inr ⟨_,q,pl,f,rfl,rfl,by omega,g4,g5⟩
  ·rw [b,cond_false,Option.bind_some]
   have hb0:∀ m,Q0 (n1 + 1) (j3.fs (n1 + 1)) size l m true ((k + 1:Nat):Int) (⟨54,R4 l k,0,zT,[],[],O1 l size k⟩:Nod) = Q0 (n1 + 1) (j3.fs (n1 + 1)) size l m false ((k + 1:Nat):Int) (⟨54,R4 l k,0,zT,[],[],O1 l size k⟩:Nod):=by
    intro m
    cases m with
    | zero=>rfl
    | succ m =>
     rcases sgx C hb 46 [] with ⟨b,_,f1,f2,f3,f4,f5⟩ | ⟨b,f1,f2,f3,f4,f5⟩ <;> simp only [Q0.eq_2,e4,f1,Option.bind_some,cond_false,cond_true]
   rw [hb0]
   exact a7g C (n:=n1 + 1) (n':=n1' + 1) hN (by omega) (by omega) H (n1 + 1) (n1' + 1) (k + 1) _ (Nat.le_refl _) hb (by omega) (by omega) (by simp only [szs]; omega) gn
theorem unary_at {N n n' k:Nat} (hN:24000 <= N) (hn:N + 4 <= n) (hn':N + 4 <= n') (hk:k <= l.length) (H:Hyp l size (k + 1) N) :
  a3C l size k Nod.sz (G 0) ((j3.fs n).I4 l k size) ((d9.fs n').M8 l size k (-1)):=by
 have hl:=C.hl
 obtain ⟨n,rfl⟩:∃ q,n = q + 1:=⟨n - 1,by omega⟩
 obtain ⟨n',rfl⟩:∃ q,n' = q + 1:=⟨n' - 1,by omega⟩
 show a3C l size k Nod.sz (G 0) (a14 n (j3.fs n) l k size) (a2c n' (d9.fs n') l size k (-1))
 unfold a14 a2c
 rcases sgx C hk 45 [] with ⟨b,hb,e1,e2,e3,e4,e5⟩ | ⟨b,e1,e2,e3,e4,e5⟩
 ·simp (disch:=omega) only [e1,e2,SSx C]
  rcases H.unary (k + 1) n n' (Nat.le_refl _) hb (by omega) (by omega) with ⟨x,q,p1,p2,p3,p4,p5,p6⟩ | ⟨x,q,pl,f,p1,p2,p3,p4,p5⟩
  ·simp only [p1,p2,R9,Option.bind_some]
   exact .inl ⟨_,q,rfl,rfl,by omega,p4,by simp only [szs]; omega,.un (.inr rfl) (C.pos k) p6⟩
  ·simp only [p1,p2,Q7,Option.bind_some]
   exact .inr ⟨_,q,pl,f,rfl,rfl,by omega,p4,p5⟩
 simp (disch:=omega) only [e1,e2,SSx C]
 rcases sgx C hk 33 [] with ⟨b,hb,e1,e2,e3,e4,e5⟩ | ⟨b,e1,e2,e3,e4,e5⟩
 ·simp (disch:=omega) only [e1,e2,SSx C]
  rcases H.unary (k + 1) n n' (Nat.le_refl _) hb (by omega) (by omega) with ⟨x,q,p1,p2,p3,p4,p5,p6⟩ | ⟨x,q,pl,f,p1,p2,p3,p4,p5⟩
  ·simp only [p1,p2,R9,Option.bind_some]
   exact .inl ⟨_,q,rfl,rfl,by omega,p4,by simp only [szs]; omega,.un (.inl rfl) (C.pos k) p6⟩
  ·simp only [p1,p2,Q7,Option.bind_some]
   exact .inr ⟨_,q,pl,f,rfl,rfl,by omega,p4,p5⟩
 simp (disch:=omega) only [e1,e2,SSx C]
 rcases post_at C (n:=n) (n':=n') hN (by omega) (by omega) hk H with ⟨x,q,p1,p2,p3,p4,p5,p6⟩ | ⟨x,q,pl,f,p1,p2,p3,p4,p5⟩
 ·simp only [p1,p2,R9,Option.bind_some,a0F]
  exact .inl ⟨x,q,rfl,rfl,p3,p4,p5,p6⟩
 ·simp only [p1,p2,Q7,Option.bind_some,a0F]
  exact .inr ⟨x,q,pl,f,rfl,rfl,p3,p4,p5⟩
end
end Go.Proofs.YtmonfppdiehlpaaGreatDoor
