/- What the functions under ParseTypeBack compute, step by step, as functions in Lean: texts that were built one by one, joined. -/
import Derived.Test.YtamfchbgonekeaaGreatDoorParseTypeBackJ6
import Derived.Lib.Join
import Derived.KernelRfl
import Derived.Test.YtamfchbgonekeaaGreatDoorProg
import Derived.Tactics
import Derived.Tactics2
import Derived.Defers
import Derived.Recover
import Derived.Laws.Pointers
import Derived.Shelf.Strings.Builder1
import Derived.Shelf.Strings.OnBuilder
import Derived.BigCall
import Derived.BigGuard
set_option maxRecDepth 100000
set_option maxHeartbeats 20000000
set_option linter.unusedSimpArgs false
set_option linter.unusedVariables false
set_option linter.unusedSectionVars false
namespace Go.Proofs.YtamfchbgonekeaaGreatDoor.Sc
open Go Go.Vm
def Lay (s:List UInt8):Nat -> List Tok -> Nat -> Prop
 | k,[],e=>k = e
 | k,t :: r,e=>t.a = M8 s k /\ t.a < s.length /\ 0 < t.l /\ t.a + t.l <= s.length /\ Lay s (t.a + t.l) r e
theorem Lay.add {s:List UInt8} {t:Tok}:∀ {l:List Tok} {k e:Nat},Lay s k l e -> t.a = M8 s e -> t.a < s.length -> 0 < t.l -> t.a + t.l <= s.length -> Lay s k (l ++ [t]) (t.a + t.l)
 | [],k,e,h,h1,h2,h3,h4=>by
  simp only [Lay] at h; subst h
  exact ⟨h1,h2,h3,h4,rfl⟩
 | u :: l,k,e,h,h1,h2,h3,h4=>⟨h.1,h.2.1,h.2.2.1,h.2.2.2.1,Lay.add h.2.2.2.2 h1 h2 h3 h4⟩
theorem a0u {toks:List Tok} {j:Nat} {r:MR} {y:MS} (h:roomy toks j r = .go y):toks.length < 3000 /\ r = .go y:=by
 unfold roomy at h
 split at h
 ·cases h
 ·rename_i h1
  simp only [decide_eq_false_iff_not] at h1
  exact ⟨by omega,h⟩
theorem lit_go {s:List UInt8} {toks:List Tok} {st:List (Nat × Int)} {q j ins:Nat} {a b:Int} {y:MS} (h:Y7 toks st q j a b (part s q ins (j + 1) []) = .go y) :
  ∃ t:Tok,y.toks = toks ++ [t] /\ t.a = j /\ 0 < t.l /\ y.i = t.a + t.l /\ t.a + t.l <= s.length:=by
 have hok:=b26 s q ins (j + 1) []
 cases hp:part s q ins (j + 1) [] with
 | err c a=>rw [hp] at h; cases h
 | fin t e =>
  rw [hp] at h hok
  have h1:j + 1 < e:=hok.1
  have h2:e <= s.length:=hok.2
  simp only [Y7] at h
  cases h
  exact ⟨_,rfl,rfl,by show 0 < e - j; omega,by show e = j + (e - j); omega,by show j + (e - j) <= _; omega⟩
 | more t e =>
  rw [hp] at h hok
  have h1:j + 1 < e:=hok.1
  have h2:e <= s.length:=hok.2
  simp only [Y7] at h
  cases h
  exact ⟨_,rfl,rfl,by show 0 < e - j; omega,by show e = j + (e - j); omega,by show j + (e - j) <= _; omega⟩
theorem stepM_go {s:List UInt8} {x y:MS} (h:stepM s x = .go y):∃ t:Tok,y.toks = x.toks ++ [t] /\ t.a = M8 s x.i /\ t.a < s.length /\ 0 < t.l /\ y.i = t.a + t.l /\ t.a + t.l <= s.length:=by
 obtain ⟨i0,toks,st⟩:=x
 obtain ⟨i,h0⟩:∃ i,M8 s i0 = i:=⟨_,rfl⟩
 show ∃ t:Tok,y.toks = toks ++ [t] /\ t.a = M8 s i0 /\ _
 rw [h0]
 rcases Nat.lt_or_ge i s.length with hi | hi
 ·have fin:(∃ t:Tok,y.toks = toks ++ [t] /\ t.a = i /\ 0 < t.l /\ y.i = t.a + t.l /\ t.a + t.l <= s.length) -> ∃ t:Tok,y.toks = toks ++ [t] /\ t.a = i /\ t.a < s.length /\ 0 < t.l /\ y.i = t.a + t.l /\ t.a + t.l <= s.length:=by
   rintro ⟨t,h1,h2,h3,h4,h5⟩
   exact ⟨t,h1,h2,by omega,h3,h4,h5⟩
  apply fin
  cases hc:closes (s.getD i 0).toNat st with
  | true =>
   cases st with
   | nil=>cases hc
   | cons z st =>
    obtain ⟨q,p⟩:=z
    rw [(a1C h0 hi hc).2] at h
    exact lit_go (a0u h).2
  | false =>
   by_cases h1:(s.getD i 0).toNat = 34
   ·rw [a2R h0 hi hc h1] at h
    exact lit_go (a0u h).2
   ·have hi1:i <= s.length:=by omega
    cases h2:I7 (s.getD i 0) with
    | true =>
     rw [a0H h0 hi hc h1 h2] at h
     have hg:=a5R hi h2
     have hl:=a3s (p:=I7) hi1
     have h:=(a0u h).2
     split at h
     ·cases h
     ·cases h; exact ⟨_,rfl,rfl,by show 0 < K9 I7 s i - i; omega,by show K9 I7 s i = i + (K9 I7 s i - i); omega,by show i + (K9 I7 s i - i) <= _; omega⟩
    | false =>
     cases h3:Q6 (s.getD i 0) with
     | true =>
      rw [X9 h0 hi hc h1 h2 h3] at h
      have hg:=a5R (p:=R8) hi (by simp only [R8,h3,Bool.true_or])
      have hl:=a3s (p:=R8) hi1
      have h:=(a0u h).2
      split at h
      ·cases h
      ·cases h; exact ⟨_,rfl,rfl,by show 0 < K9 R8 s i - i; omega,by show K9 R8 s i = i + (K9 R8 s i - i); omega,by show i + (K9 R8 s i - i) <= _; omega⟩
     | false =>
      cases hw:a0e s i 2 with
      | nil=>rw [a1U h0 hi hc h1 h2 h3 hw] at h; cases h
      | cons b w =>
       rw [Y0 h0 hi hc h1 h2 h3 hw (by simp)] at h
       have hl:=a9S 2 hi1
       rw [hw] at hl
       have h:=(a0u h).2
       cases h
       exact ⟨_,rfl,rfl,by show 0 < (b :: w).length; simp,rfl,by show i + (b :: w).length <= _; omega⟩
 ·cases st with
  | nil=>rw [a05 h0 hi] at h; cases h
  | cons z st=>obtain ⟨q,p⟩:=z; rw [a1V h0 hi] at h; cases h
theorem b3K {s:List UInt8} {x y:MS} (h:Reach s x y):x.i <= s.length -> Lay s 0 x.toks x.i -> y.i <= s.length /\ Lay s 0 y.toks y.i:=by
 induction h with
 | refl x=>exact fun h1 h2=>⟨h1,h2⟩
 | step x y z h1 _ ih =>
  intro h2 h3
  obtain ⟨t,g1,g2,g3,g4,g5,g6⟩:=stepM_go h1
  exact ih (by omega) (by rw [g1,g5]; exact h3.add g2 g3 g4 g6)
theorem a1R {toks l:List Tok} {j:Nat} {r:MR} (h:roomy toks j r = .done l):r = .done l:=by
 unfold roomy at h
 split at h
 ·cases h
 ·exact h
theorem a5F {toks l:List Tok} {st:List (Nat × Int)} {q j:Nat} {a b:Int} {r:PR} (h:Y7 toks st q j a b r = .done l):False:=by
 cases r <;> cases h
theorem a8J {s:List UInt8} {x:MS} {l:List Tok} (h:stepM s x = .done l):x.toks = l /\ s.length <= M8 s x.i:=by
 obtain ⟨i0,toks,st⟩:=x
 obtain ⟨i,h0⟩:∃ i,M8 s i0 = i:=⟨_,rfl⟩
 show toks = l /\ s.length <= M8 s i0
 rw [h0]
 rcases Nat.lt_or_ge i s.length with hi | hi
 ·exfalso
  cases hc:closes (s.getD i 0).toNat st with
  | true =>
   cases st with
   | nil=>cases hc
   | cons z st =>
    obtain ⟨q,p⟩:=z
    rw [(a1C h0 hi hc).2] at h
    exact a5F (a1R h)
  | false =>
   by_cases h1:(s.getD i 0).toNat = 34
   ·rw [a2R h0 hi hc h1] at h
    exact a5F (a1R h)
   ·cases h2:I7 (s.getD i 0) with
    | true =>
     rw [a0H h0 hi hc h1 h2] at h
     have h:=a1R h
     split at h <;> cases h
    | false =>
     cases h3:Q6 (s.getD i 0) with
     | true =>
      rw [X9 h0 hi hc h1 h2 h3] at h
      have h:=a1R h
      split at h <;> cases h
     | false =>
      cases hw:a0e s i 2 with
      | nil=>rw [a1U h0 hi hc h1 h2 h3 hw] at h; cases h
      | cons b w =>
       rw [Y0 h0 hi hc h1 h2 h3 hw (by simp)] at h
       have h:=a1R h
       cases h
 ·cases st with
  | nil=>rw [a05 h0 hi] at h; cases h; exact ⟨rfl,hi⟩
  | cons z st=>obtain ⟨q,p⟩:=z; rw [a1V h0 hi] at h; cases h
theorem a2N {toks:List Tok} {j:Nat} {r:MR} {c:Int} {a:Nat} (h:roomy toks j r = .err c a):c = 2 ∨ r = .err c a:=by
 unfold roomy at h
 split at h
 ·cases h; exact .inl rfl
 ·exact .inr h
theorem b2X {s:List UInt8} {toks:List Tok} {st:List (Nat × Int)} {q j ins i:Nat} {a b:Int} {c:Int} {p:Nat} (h:Y7 toks st q j a b (part s q ins i []) = .err c p):c ≠ 0:=by
 have hok:=b26 s q ins i []
 cases hp:part s q ins i [] with
 | err c' a'=>rw [hp] at h hok; cases h; rcases hok with rfl | rfl | rfl <;> decide
 | fin t e=>rw [hp] at h; cases h
 | more t e=>rw [hp] at h; cases h
theorem b3V {s:List UInt8} {x:MS} {c:Int} {p:Nat} (h:stepM s x = .err c p):c ≠ 0:=by
 obtain ⟨i0,toks,st⟩:=x
 obtain ⟨i,h0⟩:∃ i,M8 s i0 = i:=⟨_,rfl⟩
 rcases Nat.lt_or_ge i s.length with hi | hi
 ·cases hc:closes (s.getD i 0).toNat st with
  | true =>
   cases st with
   | nil=>cases hc
   | cons z st =>
    obtain ⟨q,p⟩:=z
    rw [(a1C h0 hi hc).2] at h
    rcases a2N h with rfl | h
    ·decide
    ·exact b2X h
  | false =>
   by_cases h1:(s.getD i 0).toNat = 34
   ·rw [a2R h0 hi hc h1] at h
    rcases a2N h with rfl | h
    ·decide
    ·exact b2X h
   ·cases h2:I7 (s.getD i 0) with
    | true =>
     rw [a0H h0 hi hc h1 h2] at h
     rcases a2N h with rfl | h
     ·decide
     ·split at h <;> cases h; decide
    | false =>
     cases h3:Q6 (s.getD i 0) with
     | true =>
      rw [X9 h0 hi hc h1 h2 h3] at h
      rcases a2N h with rfl | h
      ·decide
      ·split at h <;> cases h; decide
     | false =>
      cases hw:a0e s i 2 with
      | nil=>rw [a1U h0 hi hc h1 h2 h3 hw] at h; cases h; decide
      | cons b w =>
       rw [Y0 h0 hi hc h1 h2 h3 hw (by simp)] at h
       rcases a2N h with rfl | h
       ·decide
       ·cases h
 ·cases st with
  | nil=>rw [a05 h0 hi] at h; cases h
  | cons z st=>obtain ⟨q,p⟩:=z; rw [a1V h0 hi] at h; cases h; decide
structure TokOk (s:List UInt8) (r:MR):Prop where
 bd:RBd r
 nz:∀ c a,r = .err c a -> c ≠ 0
 lay:∀ l,r = .done l -> s.length <= 8000 /\ ∃ e,Lay s 0 l e /\ s.length <= M8 s e /\ e <= s.length
theorem ends_ok {s:List UInt8} (hs:s.length <= 8000) {r:MR} (h:Ends s ⟨0,[],[]⟩ r) (hr:RBd r):TokOk s r:=by
 obtain ⟨y,h1,h2,h3⟩:=h
 refine ⟨hr,fun c a e=>?_,fun l e=>?_⟩
 ·subst e; exact b3V h2
 ·subst e
  obtain ⟨h4,h5⟩:=a8J h2
  obtain ⟨h6,h7⟩:=b3K h1 (Nat.zero_le _) rfl
  rw [h4] at h7
  exact ⟨hs,y.i,h7,h5,h6⟩
theorem tokOne (s:List UInt8):∃ r,TokOk s r /\ E env (.call 20 [.str s]) [] = some (.ret (a8R r) []) /\ (s.length <= 8000 -> Ends s ⟨0,[],[]⟩ r):=by
 rcases Nat.lt_or_ge 8000 s.length with h | h
 ·exact ⟨.err 2 0,⟨trivial,fun c a e=>(by cases e; decide),fun l e=>(by cases e)⟩,c11big h,fun h1=>absurd h1 (by omega)⟩
 ·obtain ⟨r,h1,h2,h3⟩:=c11 h
  exact ⟨r,ends_ok h h1 h2,h3,fun _=>h1⟩
end Go.Proofs.YtamfchbgonekeaaGreatDoor.Sc
namespace Go.Vm
variable {ρ:Rho} {lab:Lab} {w:World} {H:Hp}
theorem b0i {env:Env} (hE:a1Z env) {g:Nat} {args:List V} {v:V} (h:E env (.call g args) [] = some (.ret v [])) (ha:N7 (P6 a0M dep) (args.map a2O) = some args) (hv:P6 a0M dep v = some v)
  (hc:Canon 0 H) (hS:Sim ρ lab H w) {xs:List Value} (hx:o8 ρ lab w args xs):Calls env.P g xs.toArray w (a1F ρ lab H w (.ret v H)):=by
 obtain ⟨k,hk⟩:=(T9 env).at_ _ _ _ h
 have q:O3 (run env k) g args H = some (.val v H):=by
  unfold O3
  rw [ha]
  simp only
  rw [hk]
  simp only
  rw [hv]
 refine (a6X (a8A hE k).1 hS hx q).1.mono fun e w' he=>?_
 cases e with
 | returned x =>
  obtain ⟨ρ',lab',h1,h2,h3,h4⟩:=he
  exact ⟨ρ',lab',h1,h2,Q7.of_le h3 _,h4,hc,Nat.le_refl _⟩
 | panicked ch=>exact he.elim
 | outgrown=>exact he.elim
def valI (f:List V -> Option V):List V -> Hp -> Option Out:=fun args H=>match f args with
 | some v=>some (.ret v H)
 | none=>none
theorem b3g {env:Env} (hE:a1Z env) {g:Nat} {f:List V -> Option V}
  (hf:∀ args v,f args = some v -> N7 (P6 a0M dep) (args.map a2O) = some args /\ P6 a0M dep v = some v /\ E env (.call g args) [] = some (.ret v []))
  (hk:∃ fn c,env.P.funcs[g]? = some fn /\ (fn.name == "runtime.NumGoroutine") = false /\ fn.body = some c):a6d env.P g (valI f):=by
 refine ⟨fun args H out h ρ lab w xs hc hS hx=>?_,hk⟩
 unfold valI at h
 split at h
 ·rename_i v hv
  cases h
  obtain ⟨h1,h2,h3⟩:=hf args v hv
  exact b0i hE h3 h1 h2 hc hS hx
 ·cases h
theorem a96 {env:Env} {g:Nat} {args:List V} {H:Hp} {out:Out} {h:List V -> Hp -> Option Out} (hi:env.intr g = some (.plain h)) (ho:h args H = some out):E env (.call g args) H = some out:=by
 refine (T9 env).le 1 _ _ _ ?_
 simp only [run,step,hi,ho]
end Go.Vm
namespace Go.Proofs.YtamfchbgonekeaaGreatDoor.Sc
open Go Go.Vm
noncomputable def a0I (s:List UInt8):MR:=(tokOne s).choose
theorem a4l (s:List UInt8):TokOk s (a0I s) /\ E env (.call 20 [.str s]) [] = some (.ret (a8R (a0I s)) []) /\ (s.length <= 8000 -> Ends s ⟨0,[],[]⟩ (a0I s)):=(tokOne s).choose_spec
theorem a7A (s:List UInt8):RBd (a0I s) /\ E env (.call 20 [.str s]) [] = some (.ret (a8R (a0I s)) []):=⟨(a4l s).1.bd,(a4l s).2.1⟩
noncomputable def tokF:List V -> Option V:=fun args=>match args with
 | [.str s]=>some (a8R (a0I s))
 | _=>none
theorem tokV_ren {r:MR} (h:RBd r):P6 a0M dep (a8R r) = some (a8R r):=by
 cases r with
 | go x=>exact h.elim
 | done l=>rfl
 | err c a=>rfl
theorem tok_intr:a6d Tryz.prog 20 (valI tokF):=by
 refine b3g b0S (fun args v h=>?_) ⟨_,_,Tryz.func20,by kernel_rfl,rfl⟩
 unfold tokF at h
 split at h
 ·rename_i s
  cases h
  exact ⟨rfl,tokV_ren (a7A s).1,(a7A s).2⟩
 ·cases h
end Go.Proofs.YtamfchbgonekeaaGreatDoor.Sc
namespace Go.Proofs.YtamfchbgonekeaaGreatDoor
open Go Go.Vm
def a6K (t:Sc.Tok):Tok:=⟨t.k,t.t,(t.a:Nat),(t.l:Nat)⟩
def a5s:Sc.MR -> List Tok
 | .done l=>l.map a6K
 | _=>[]
def a6D:Sc.MR -> Int
 | .err c _=>c
 | _=>0
def tokA:Sc.MR -> Int
 | .err _ a=>(a:Nat)
 | _=>0
theorem b0Q:∀ l:List Sc.Tok,I8 (l.map a6K) = Sc.Q9 l
 | []=>rfl
 | t :: r=>by
  rw [List.map_cons,b0k.cons,b0Q r]
  rfl
theorem tokV_cv {r:Sc.MR} (h:Sc.RBd r):Sc.a8R r = .tuple [.slice .sealed (List.length (a5s r)) (I8 (a5s r)),.agg [.int .i64 (a6D r),.int .i64 (tokA r)]]:=by
 cases r with
 | go x=>exact h.elim
 | done l =>
  simp only [a5s,Sc.a8R,b0Q,List.length_map,a6D,tokA]
 | err c a=>rfl
theorem tok_call {env:Env} {g:Nat} {s:Str} (hi:env.intr g = some (.plain (valI Sc.tokF))) (h:Sc.RBd (Sc.a0I s)) :
  E env (.call g [.str s]) [] = some (.ret (.tuple [.slice .sealed (List.length (a5s (Sc.a0I s))) (I8 (a5s (Sc.a0I s))),.agg [.int .i64 (a6D (Sc.a0I s)),.int .i64 (tokA (Sc.a0I s))]]) []):=by
 refine a96 hi ?_
 rw [<- tokV_cv h]
 rfl
theorem tok_code (s:Str):(a6D (Sc.a0I s) = 0 /\ tokA (Sc.a0I s) = 0) ∨ (a6D (Sc.a0I s) ≠ 0 /\ a5s (Sc.a0I s) = []):=by
 have h:=(Sc.a4l s).1
 generalize Sc.a0I s = r at h
 cases r with
 | go x=>exact h.bd.elim
 | done l=>exact .inl ⟨rfl,rfl⟩
 | err c a=>exact .inr ⟨h.nz c a rfl,rfl⟩
theorem b1v (s:Str):(a5s (Sc.a0I s)).length <= 3000:=by
 have h:=(Sc.a7A s).1
 generalize Sc.a0I s = r at h
 cases r with
 | go x=>exact h.elim
 | done l=>simpa [a5s,Sc.RBd] using h
 | err c a=>simp [a5s]
end Go.Proofs.YtamfchbgonekeaaGreatDoor
namespace Go.Proofs.YtamfchbgonekeaaGreatDoor
open Go Go.Vm
def b0e:Option Bool:=some true
noncomputable def a1B (V4:Str):Option (List Tok × Int × Int):=some (a5s (Sc.a0I V4),a6D (Sc.a0I V4),tokA (Sc.a0I V4))
def joinG (elems1:List Str) (sep2:Str):Option Str:=match leN elems1.length 140737488355328 && leN (Lib.join elems1 sep2).length 140737488355328 with
 | true=>some (Lib.join elems1 sep2)
 | false=>none
def trimG (s1:Str):Option (Str):=none
end Go.Proofs.YtamfchbgonekeaaGreatDoor
namespace Go.Proofs.YtamfchbgonekeaaGreatDoor
open Go Go.Vm
def a3g (V4:Str):Option (Unit) :=
 some (())
def a8b (V4:Str):Unit -> Out
 | _=>.ret (.bool (ltB 8200 (List.length V4:Int))) []
noncomputable def a1i (V4:Str):Option (Flt × List Tok) :=
 (a1B V4).bind fun (l2,c3,a4) =>
 some (((⟨c3,a4⟩:Flt),l2))
def a7i (V4:Str):Flt × List Tok -> Out
 | (a0l,b34)=>.ret (.tuple [.ptr 0 0,.agg [.i a0l.code,.i a0l.at_]]) [(0,.row [.sl I8 b34,.i 0,.i (List.length V4:Int)])]
def I5 (n1:Int) (a9D:Int) (a8O:Str) (a2f:List Tok) (at5:Int) (a9T:Int):Option (Bool) :=
 cond (leB (List.length a2f:Int) (w64 (at5 + n1))) (
 some (false)) (
 (idx' a2f (w64 (at5 + n1))).bind fun x7 =>
 cond (eqB x7.kind a9D) (
 cond (eqS a8O []) (
 some (true)) (
 some ((eqS x7.text a8O)))) (
 some (false)))
def a4E (n1:Int) (a9D:Int) (a8O:Str) (a2f:List Tok) (at5:Int) (a9T:Int):Bool -> Out
 | a0l=>.ret (.bool a0l) (hP I8 a2f at5 a9T)
def J8 (a94:Str) (o5:List Tok) (at3:Int) (E8:Int):Option (Bool × Int) :=
 (I5 0 9 a94 o5 at3 E8).bind fun r5 =>
 cond (!r5) (
 some ((false,at3))) (
 some ((true,(w64 (at3 + 1)))))
def a4d (a94:Str) (o5:List Tok) (at3:Int) (E8:Int):Bool × Int -> Out
 | (a0l,a3y)=>.ret (.bool a0l) (hP I8 o5 a3y E8)
def U7 (l7:List Tok) (at2:Int) (C8:Int):Option (Int) :=
 cond (ltB at2 (List.length l7:Int)) (
 (idx' l7 at2).bind fun x4 =>
 some (x4.at_)) (
 some (C8))
def a3E (l7:List Tok) (at2:Int) (C8:Int):Int -> Out
 | a0l=>.ret (.i a0l) (hP I8 l7 at2 C8)
def I9 (l7:List Tok) (at2:Int) (C8:Int):Option (Rs Empty Int) :=
 (U7 l7 at2 C8).bind fun r4 =>
 some (.pan r4)
def a3D (l7:List Tok) (at2:Int) (C8:Int):Rs Empty Int -> Out
 | .pan at501=>.pan (.iface 76 (.agg [.i 20,.i at501])) (hP I8 l7 at2 C8)
def X8 (a9C:Int) (o5:List Tok) (at3:Int) (E8:Int):Option (Rs Tok Int) :=
 (I5 0 a9C [] o5 at3 E8).bind fun r5 =>
 cond (!r5) (
 I6 (I9 o5 at3 E8) (fun (_:Empty)=>none) fun at6 =>
 some (.pan at6)) (
 (idx' o5 at3).bind fun x7 =>
 some (.ok x7))
def a3n (a9C:Int) (o5:List Tok) (at3:Int) (E8:Int):Rs Tok Int -> Out
 | .ok a0l=>.ret (.agg [.i a0l.kind,.str a0l.text,.i a0l.at_,.i a0l.len]) [(0,.row [.sl I8 o5,.i (w64 (at3 + 1)),.i E8])]
 | .pan b0L=>.pan (.iface 76 (.agg [.i 20,.i b0L])) (hP I8 o5 at3 E8)
def D9 (l7:List Tok) (at2:Int) (C8:Int):Option (Rs Str Int) :=
 I6 (X8 2 l7 at2 C8) (fun r4 =>
 some (.ok r4.text)) fun at5 =>
 some (.pan at5)
def a2m (l7:List Tok) (at2:Int) (C8:Int):Rs Str Int -> Out
 | .ok a0l=>.ret (.str a0l) [(0,.row [.sl I8 l7,.i (w64 (at2 + 1)),.i C8])]
 | .pan a3y=>.pan (.iface 76 (.agg [.i 20,.i a3y])) (hP I8 l7 at2 C8)
def D7 (a2P:Str) (o5:List Tok) (at3:Int) (E8:Int):Option (Bool × Int) :=
 (I5 0 8 a2P o5 at3 E8).bind fun r5 =>
 cond (!r5) (
 some ((false,at3))) (
 some ((true,(w64 (at3 + 1)))))
def a3F (a2P:Str) (o5:List Tok) (at3:Int) (E8:Int):Bool × Int -> Out
 | (a0l,a3y)=>.ret (.bool a0l) (hP I8 o5 a3y E8)
def F5 (a2P:Str) (o5:List Tok) (at3:Int) (E8:Int):Option (Rs Int (Int × Int)) :=
 (D7 a2P o5 at3 E8).bind fun (r5,at6) =>
 cond (!r5) (
 I6 (I9 o5 at6 E8) (fun (_:Empty)=>none) fun at7 =>
 some (.pan (at7,at6))) (
 some (.ok at6))
def a3H (a2P:Str) (o5:List Tok) (at3:Int) (E8:Int):Rs Int (Int × Int) -> Out
 | .ok at501=>.ret (.tuple []) (hP I8 o5 at501 E8)
 | .pan (a3y,b0L)=>.pan (.iface 76 (.agg [.i 20,.i a3y])) (hP I8 o5 b0L E8)
def a0a (a1o:Str) (G7:List Typ):Option (Typ) :=
 a0E (α:=Int) (
 Option.bind (α:=Bool) (
 cond (eqB (List.length G7:Int) 1) (
 some (eqS a1o [65,114,114,97,121])) (
 some false)) fun x505 =>
 cond x505 (
 some (.out ((⟨5,[],0,G7⟩:Typ)))) (
 Option.bind (α:=Bool) (
 cond (eqB (List.length G7:Int) 1) (
 some (eqS a1o [87,101,97,107])) (
 some false)) fun x503 =>
 cond x503 (
 some (.out ((⟨11,[],0,G7⟩:Typ)))) (
 cond (ltB 0 (List.length G7:Int)) (
 some (.brk 6)) (
 cond (eqS a1o [73,110,116]) (
 some (.brk 1)) (
 cond (eqS a1o [66,111,111,108]) (
 some (.brk 2)) (
 cond (eqS a1o [84,101,120,116]) (
 some (.brk 3)) (
 cond (eqS a1o [85,110,105,116]) (
 some (.brk 4)) (
 some (.brk 6))))))))) fun a7u =>
 cond (!eqB a7u 6) (
 some ((⟨a7u,[],0,[]⟩:Typ))) (
 some ((⟨a7u,a1o,0,G7⟩:Typ)))
def a3A (a1o:Str) (G7:List Typ):Typ -> Out
 | r508=>.ret (.agg [.i r508.kind,.str r508.name,.i r508.n,.sl x9 r508.args]) []
structure d9 where
 j4:(List Tok) -> Int -> Int -> Option (Rs (Typ × Int) (Int × Int))
 J2:Bool -> (List Tok) -> Int -> Int -> Option (Rs (Typ × Int) (Int × Int))
def z8 (n:Nat) (Φ:d9) (C8:Int) (l7:List Tok):Nat -> (List Typ) -> Int -> Option (Lr (List Typ × Int) (Rs (Typ × Int) (Int × Int)))
  | 0,_,_=>none
  | m8 + 1,b0c,at507 =>
      (D7 [44] l7 at507 C8).bind fun (r19,at20) =>
      cond r19 (
      I6 (Φ.j4 l7 at20 C8) (fun (r21,at22) =>
      (app 56 b0c ([r21]:List Typ)).bind fun l23 =>
      z8 n Φ C8 l7 m8 l23 at22) fun (at24,at25) =>
      some (.out (.pan (at24,at25)))) (
      some (.brk (b0c,at20)))
def K7 (n:Nat) (Φ:d9) (l7:List Tok) (at2:Int) (C8:Int):Option (Rs (Typ × Int) (Int × Int)) :=
 (J8 [97,110,121] l7 at2 C8).bind fun (r4,at5) =>
 cond r4 (
 I6 (D9 l7 at5 C8) (fun r6 =>
 some (.ok ((⟨9,r6,0,[]⟩:Typ),(w64 (at5 + 1))))) fun at7 =>
 some (.pan (at7,at5))) (
 (D7 [40] l7 at5 C8).bind fun (r8,at9) =>
 cond (!r8) (
 I6 (Φ.J2 false l7 at9 C8) (fun (r10,at11) =>
 some (.ok (r10,at11))) fun (at12,at13) =>
 some (.pan (at12,at13))) (
 a0E (α:=List Typ × Int) (
 (D7 [41] l7 at9 C8).bind fun (r14,at15) =>
 cond (!r14) (
 I6 (Φ.j4 l7 at15 C8) (fun (r16,at17) =>
 (app 56 ([]:List Typ) ([r16]:List Typ)).bind fun l18 =>
 a7K (α:=List Typ × Int) (
 z8 n Φ C8 l7 n l18 at17) fun (b2G,at518) =>
 I6 (F5 [41] l7 at518 C8) (fun at26 =>
 some (.brk (b2G,at26))) fun (at27,at28) =>
 some (.out (.pan (at27,at28)))) fun (at29,at30) =>
 some (.out (.pan (at29,at30)))) (
 some (.brk (([]:List Typ),at15)))) fun (b2E,at510) =>
 I6 (F5 [45,62] l7 at510 C8) (fun at31 =>
 I6 (Φ.j4 l7 at31 C8) (fun (r32,at33) =>
 (app 56 b2E ([r32]:List Typ)).bind fun l34 =>
 some (.ok ((⟨10,[],0,l34⟩:Typ),at33))) fun (at35,at36) =>
 some (.pan (at35,at36))) fun (at37,at38) =>
 some (.pan (at37,at38))))
def O9 (l7:List Tok) (at2:Int) (C8:Int):Rs (Typ × Int) (Int × Int) -> Out
 | .ok (r511,at512)=>.ret (.agg [.i r511.kind,.str r511.name,.i r511.n,.sl x9 r511.args]) (hP I8 l7 at512 C8)
 | .pan (at504,b0M)=>.pan (.iface 76 (.agg [.i 20,.i at504])) (hP I8 l7 b0M C8)
def M4 (n:Nat) (Φ:d9) (E8:Int) (o5:List Tok):Nat -> (List Typ) -> Int -> Option (Lr (List Typ × Int) (Rs (Typ × Int) (Int × Int)))
  | 0,_,_=>none
  | m5 + 1,b0b,a3y =>
      (D7 [44] o5 a3y E8).bind fun (r11,at12) =>
      cond r11 (
      I6 (Φ.j4 o5 at12 E8) (fun (r13,at14) =>
      (app 56 b0b ([r13]:List Typ)).bind fun l15 =>
      M4 n Φ E8 o5 m5 l15 at14) fun (at16,at17) =>
      some (.out (.pan (at16,at17)))) (
      some (.brk (b0b,at12)))
def E5 (n:Nat) (Φ:d9) (inExpr1:Bool) (E8:Int) (o5:List Tok):Nat -> Int -> Typ -> Option (Lr (Int × Typ) (Rs (Typ × Int) (Int × Int)))
  | 0,_,_=>none
  | m9 + 1,a6F,n533 =>
      Option.bind (α:=Bool) (
      (I5 0 8 [46] o5 a6F E8).bind fun r24 =>
      cond r24 (
      cond inExpr1 (
      (I5 1 1 [] o5 a6F E8).bind fun r25 =>
      some (!r25)) (
      some true)) (
      some false)) fun x546 =>
      cond x546 (
      I6 (D9 o5 (w64 (a6F + 1)) E8) (fun r26 =>
      E5 n Φ inExpr1 E8 o5 m9 (w64 ((w64 (a6F + 1)) + 1)) (⟨8,r26,0,[n533]⟩:Typ)) fun at27 =>
      some (.out (.pan (at27,(w64 (a6F + 1)))))) (
      some (.brk (a6F,n533)))
def G9 (n:Nat) (Φ:d9) (inExpr1:Bool) (o5:List Tok) (at3:Int) (E8:Int):Option (Rs (Typ × Int) (Int × Int)) :=
 I6 (D9 o5 at3 E8) (fun r5 =>
 a0E (α:=List Typ × Int) (
 (D7 [60] o5 (w64 (at3 + 1)) E8).bind fun (r6,at7) =>
 cond r6 (
 I6 (Φ.j4 o5 at7 E8) (fun (r8,at9) =>
 (app 56 ([]:List Typ) ([r8]:List Typ)).bind fun l10 =>
 a7K (α:=List Typ × Int) (
 M4 n Φ E8 o5 n l10 at9) fun (b2F,at511) =>
 I6 (F5 [62] o5 at511 E8) (fun at18 =>
 some (.brk (b2F,at18))) fun (at19,at20) =>
 some (.out (.pan (at19,at20)))) fun (at21,at22) =>
 some (.out (.pan (at21,at22)))) (
 some (.brk (([]:List Typ),at7)))) fun (b2D,b0M) =>
 (a0a r5 b2D).bind fun r23 =>
 a0E (α:=Int × Typ) (
 E5 n Φ inExpr1 E8 o5 n b0M r23) fun (a9d,n550) =>
 some (.ok (n550,a9d))) fun at28 =>
 some (.pan (at28,at3))
def O1 (inExpr1:Bool) (o5:List Tok) (at3:Int) (E8:Int):Rs (Typ × Int) (Int × Int) -> Out
 | .ok (r534,at535)=>.ret (.agg [.i r534.kind,.str r534.name,.i r534.n,.sl x9 r534.args]) (hP I8 o5 at535 E8)
 | .pan (at506,at507)=>.pan (.iface 76 (.agg [.i 20,.i at506])) (hP I8 o5 at507 E8)
def d9.fs:Nat -> d9
 | 0=>⟨fun _ _ _=>none,fun _ _ _ _=>none⟩
 | n + 1=>⟨K7 n (d9.fs n),G9 n (d9.fs n)⟩
def j4 (n:Nat) (l7:List Tok) (at2:Int) (C8:Int):Option (Rs (Typ × Int) (Int × Int)):=(d9.fs n).j4 l7 at2 C8
def J2 (n:Nat) (inExpr1:Bool) (o5:List Tok) (at3:Int) (E8:Int):Option (Rs (Typ × Int) (Int × Int)):=(d9.fs n).J2 inExpr1 o5 at3 E8
def a0s (n:Nat) (l7:List Tok) (at2:Int) (C8:Int) (a2A:Int) (a2F:Str) (n6:Int) (a0Q:List Typ) (a4P:List Typ):Option (Rs (Int × Typ) (Int × Int × Typ)) :=
 I6 (j4 n l7 at2 C8) (fun (r9,at10) =>
 cond (ltB at10 (List.length l7:Int)) (
 I6 (I9 l7 at10 C8) (fun (_:Empty)=>none) fun at11 =>
 some (.pan (at11,at10,r9))) (
 some (.ok (at10,r9)))) fun (at12,at13) =>
 some (.pan (at12,at13,(⟨a2A,a2F,n6,a0Q⟩:Typ)))
def a5K (l7:List Tok) (at2:Int) (C8:Int) (a2A:Int) (a2F:Str) (n6:Int) (a0Q:List Typ) (a4P:List Typ):Rs (Int × Typ) (Int × Int × Typ) -> Out
 | .ok (at506,n507)=>.ret (.tuple []) [(0,.row [.sl I8 l7,.i at506,.i C8]),(1,.row [.ptr 0 0]),(2,.row [.i n507.kind,.str n507.name,.i n507.n,.sl x9 n507.args]),(3,.tip (tpe 4 (List.length a4P)) (List.length a4P))]
 | .pan (b0L,at504,n505)=>.pan (.iface 76 (.agg [.i 20,.i b0L])) [(0,.row [.sl I8 l7,.i at504,.i C8]),(1,.row [.ptr 0 0]),(2,.row [.i n505.kind,.str n505.name,.i n505.n,.sl x9 n505.args]),(3,.tip (tpe 4 (List.length a4P)) (List.length a4P))]
def O8 (n:Nat) (l7:List Tok) (at2:Int) (C8:Int) (a2A:Int) (a2F:Str) (n6:Int) (a0Q:List Typ):Option (Flt × Int × Typ) :=
 I6 (a0s n l7 at2 C8 a2A a2F n6 a0Q a0Q) (fun (at8,n9) =>
 some ((⟨0,0⟩:Flt),at8,n9)) fun (at10,at11,n12) =>
 some ((⟨20,at10⟩:Flt),at11,n12)
def a2n (l7:List Tok) (at2:Int) (C8:Int) (a2A:Int) (a2F:Str) (n6:Int) (a0Q:List Typ):Flt × Int × Typ -> Out
 | (a0l,a3y,n503)=>.ret (.agg [.i a0l.code,.i a0l.at_]) [(0,.row [.sl I8 l7,.i a3y,.i C8]),(1,.row [.ptr 0 0]),(2,.row [.i n503.kind,.str n503.name,.i n503.n,.sl x9 n503.args]),(3,.tip (tpe 4 (List.length a0Q)) (List.length a0Q))]
structure A9 where
 J6:Typ -> Option (Int)
def N8 (n:Nat) (Φ:A9) (t1:Typ):Nat -> Int -> Int -> Option (Int)
  | 0,_,_=>none
  | m3 + 1,n501,a8W =>
      cond (ltB a8W (List.length t1.args:Int)) (
      (idx' t1.args a8W).bind fun x2 =>
      (Φ.J6 x2).bind fun r3 =>
      N8 n Φ t1 m3 (w64 (n501 + r3)) (w64 (a8W + 1))) (
      some n501)
def X4 (n:Nat) (Φ:A9) (t1:Typ):Option (Int) :=
 Option.bind (α:=Int) (
 N8 n Φ t1 n 1 0) fun n507 =>
 some (n507)
def a0D (t1:Typ):Int -> Out
 | r508=>.ret (.i r508) []
def A9.fs:Nat -> A9
 | 0=>⟨fun _=>none⟩
 | n + 1=>⟨X4 n (A9.fs n)⟩
def J6 (n:Nat) (t1:Typ):Option (Int):=(A9.fs n).J6 t1
noncomputable def Z9 (n:Nat) (V4:Str):Option (Typ × Flt) :=
 (a1i V4).bind fun (r2,b3e) =>
 cond (!((eqB r2.code 0) && ((eqB r2.at_ 0) && true))) (
 some (((⟨0,[],0,[]⟩:Typ),r2))) (
 (O8 n b3e 0 (List.length V4:Int) 0 [] 0 ([]:List Typ)).bind fun (r4,at5,n6) =>
 cond (!((eqB r4.code 0) && ((eqB r4.at_ 0) && true))) (
 some (((⟨0,[],0,[]⟩:Typ),r4))) (
 (J6 n n6).bind fun r7 =>
 cond (ltB 40 r7) (
 some (((⟨0,[],0,[]⟩:Typ),(⟨2,0⟩:Flt)))) (
 some ((n6,(⟨0,0⟩:Flt))))))
def a8r (V4:Str):Typ × Flt -> Out
 | (r504,r505)=>.ret (.tuple [.agg [.i r504.kind,.str r504.name,.i r504.n,.sl x9 r504.args],.agg [.i r505.code,.i r505.at_]]) []
def p9 (l1:List Str) (words2:List Str):Option (List Str) :=
 (app 16 words2 l1).bind fun l3 =>
 some (l3)
def a4e (l1:List Str) (words2:List Str):List Str -> Out
 | a0g=>.ret (.tuple []) [(0,.row [.st 1 clS a0g]),(1,.tip (tpe 1 (List.length a0g)) (List.length a0g))]
structure j3 where
 F8:Typ -> (List Str) -> Option (List Str)
 F9:(List Typ) -> (List Str) -> Option (List Str)
 F7:(List Typ) -> (List Str) -> Option (List Str)
def R6 (n:Nat) (Φ:j3) (t1:Typ) (words2:List Str):Option (List Str) :=
 cond (eqB t1.kind 1) (
 (p9 ([[73,110,116]]:List Str) words2).bind fun words3 =>
 some (words3)) (
 cond (eqB t1.kind 2) (
 (p9 ([[66,111,111,108]]:List Str) words2).bind fun words4 =>
 some (words4)) (
 cond (eqB t1.kind 3) (
 (p9 ([[84,101,120,116]]:List Str) words2).bind fun words5 =>
 some (words5)) (
 cond (eqB t1.kind 4) (
 (p9 ([[85,110,105,116]]:List Str) words2).bind fun words6 =>
 some (words6)) (
 cond (eqB t1.kind 5) (
 (p9 ([[65,114,114,97,121]]:List Str) words2).bind fun words7 =>
 (Φ.F9 t1.args words7).bind fun words8 =>
 some (words8)) (
 cond (eqB t1.kind 11) (
 (p9 ([[87,101,97,107]]:List Str) words2).bind fun words9 =>
 (Φ.F9 t1.args words9).bind fun words10 =>
 some (words10)) (
 cond (eqB t1.kind 9) (
 (p9 ([[97,110,121],t1.name]:List Str) words2).bind fun words11 =>
 some (words11)) (
 cond (eqB t1.kind 8) (
 (Φ.F7 t1.args words2).bind fun words12 =>
 (p9 ([[46],t1.name]:List Str) words12).bind fun words13 =>
 some (words13)) (
 cond (eqB t1.kind 10) (
 (p9 ([[40]]:List Str) words2).bind fun words14 =>
 (a8L t1.args 0 (max (w64 ((List.length t1.args:Int) - 1)) 0)).bind fun l15 =>
 (Φ.F7 l15 words14).bind fun words16 =>
 (p9 ([[41],[45,62]]:List Str) words16).bind fun words17 =>
 (a8L t1.args (max (w64 ((List.length t1.args:Int) - 1)) 0) (List.length t1.args:Int)).bind fun l18 =>
 (Φ.F7 l18 words17).bind fun words19 =>
 some (words19)) (
 (p9 ([t1.name]:List Str) words2).bind fun words20 =>
 (Φ.F9 t1.args words20).bind fun words21 =>
 some (words21))))))))))
def a0c (t1:Typ) (words2:List Str):List Str -> Out
 | a0g=>.ret (.tuple []) [(0,.row [.st 1 clS a0g]),(1,.tip (tpe 1 (List.length a0g)) (List.length a0g))]
def P9 (n:Nat) (Φ:j3) (l1:List Typ) (words2:List Str):Option (List Str) :=
 cond (ltB 0 (List.length l1:Int)) (
 (p9 ([[60]]:List Str) words2).bind fun words3 =>
 (Φ.F7 l1 words3).bind fun words4 =>
 (p9 ([[62]]:List Str) words4).bind fun words5 =>
 some (words5)) (
 some (words2))
def a0W (l1:List Typ) (words2:List Str):List Str -> Out
 | a0g=>.ret (.tuple []) [(0,.row [.st 1 clS a0g]),(1,.tip (tpe 1 (List.length a0g)) (List.length a0g))]
def J5 (n:Nat) (Φ:j3) (l1:List Typ):Nat -> Int -> (List Str) -> Option (List Str)
  | 0,_,_=>none
  | m1 + 1,a8W,a6b =>
      cond (ltB a8W (List.length l1:Int)) (
      (idx' l1 a8W).bind fun x3 =>
      Option.bind (α:=List Str) (
      cond (ltB 0 a8W) (
      (p9 ([[44]]:List Str) a6b).bind fun words4 =>
      some words4) (
      some a6b)) fun b1B =>
      (Φ.F8 x3 b1B).bind fun words5 =>
      J5 n Φ l1 m1 (w64 (a8W + 1)) words5) (
      some (a6b))
def U6 (n:Nat) (Φ:j3) (l1:List Typ) (words2:List Str):Option (List Str) :=
 J5 n Φ l1 n 0 words2
def a1p (l1:List Typ) (words2:List Str):List Str -> Out
 | a8V=>.ret (.tuple []) [(0,.row [.st 1 clS a8V]),(1,.tip (tpe 1 (List.length a8V)) (List.length a8V))]
def j3.fs:Nat -> j3
 | 0=>⟨fun _ _=>none,fun _ _=>none,fun _ _=>none⟩
 | n + 1=>⟨R6 n (j3.fs n),P9 n (j3.fs n),U6 n (j3.fs n)⟩
def F8 (n:Nat) (t1:Typ) (words2:List Str):Option (List Str):=(j3.fs n).F8 t1 words2
def F9 (n:Nat) (l1:List Typ) (words2:List Str):Option (List Str):=(j3.fs n).F9 l1 words2
def F7 (n:Nat) (l1:List Typ) (words2:List Str):Option (List Str):=(j3.fs n).F7 l1 words2
def Y8 (words1:List Str):Option (Str) :=
 (joinG words1 [32]).bind fun rr2 =>
 some (rr2)
def a3I (words1:List Str):Str -> Out
 | a0l=>.ret (.str a0l) [(0,.row [.st 1 clS words1]),(1,.tip (tpe 1 (List.length words1)) (List.length words1))]
def S9 (n:Nat) (t1:Typ):Option (Str) :=
 (F8 n t1 ([]:List Str)).bind fun words2 =>
 (Y8 words2).bind fun r3 =>
 some (r3)
def a4D (t1:Typ):Str -> Out
 | a0l=>.ret (.str a0l) []
noncomputable def a1M (s1:Str):Option (Bool) :=
 cond (ltB 8000 (List.length s1:Int)) (
 some (false)) (
 (a1B s1).bind fun (l2,c3,a4) =>
 cond (ltB 0 (List.length l2:Int)) (
 some (true)) (
 (trimG s1).bind fun rr5 =>
 some ((eqS rr5 []))))
def a8a (s1:Str):Bool -> Out
 | a0l=>.ret (.bool a0l) []
structure o9 where
 K6:Typ -> Typ -> Option (Bool)
 V3:(List Typ) -> (List Typ) -> Option (Bool)
def a0d (n:Nat) (Φ:o9) (a1:Typ) (b2:Typ):Option (Bool) :=
 cond (eqB a1.kind b2.kind) (
 cond (eqS a1.name b2.name) (
 cond (eqB a1.n b2.n) (
 (Φ.V3 a1.args b2.args).bind fun r3 =>
 some (r3)) (
 some (false))) (
 some (false))) (
 some (false))
def a03 (a1:Typ) (b2:Typ):Bool -> Out
 | a0l=>.ret (.bool a0l) []
def O6 (n:Nat) (Φ:o9) (a1:List Typ) (b2:List Typ):Nat -> Int -> Option (Lr (Unit) (Bool))
  | 0,_=>none
  | m4 + 1,i503 =>
      cond (ltB i503 (List.length a1:Int)) (
      (idx' a1 i503).bind fun x3 =>
      (idx' b2 i503).bind fun x4 =>
      (Φ.K6 x3 x4).bind fun r5 =>
      cond (!r5) (
      some (.out (false))) (
      O6 n Φ a1 b2 m4 (w64 (i503 + 1)))) (
      some (.brk ()))
def Y4 (n:Nat) (Φ:o9) (a1:List Typ) (b2:List Typ):Option (Bool) :=
 cond (!eqB (List.length a1:Int) (List.length b2:Int)) (
 some (false)) (
 a0E (α:=Unit) (
 O6 n Φ a1 b2 n 0) fun _ =>
 some (true))
def a0O (a1:List Typ) (b2:List Typ):Bool -> Out
 | a0l=>.ret (.bool a0l) []
def o9.fs:Nat -> o9
 | 0=>⟨fun _ _=>none,fun _ _=>none⟩
 | n + 1=>⟨a0d n (o9.fs n),Y4 n (o9.fs n)⟩
def K6 (n:Nat) (a1:Typ) (b2:Typ):Option (Bool):=(o9.fs n).K6 a1 b2
def V3 (n:Nat) (a1:List Typ) (b2:List Typ):Option (Bool):=(o9.fs n).V3 a1 b2
noncomputable def V7 (n:Nat) (V4:Str):Option (Bool) :=
 (a3g V4).bind fun _ =>
 cond (ltB 8200 (List.length V4:Int)) (
 (b0e).bind fun bb2 =>
 some (bb2)) (
 (Z9 n V4).bind fun (r3,r4) =>
 (S9 n r3).bind fun r5 =>
 Option.bind (α:=Bool) (
 cond (!eqB r4.code 0) (
 some true) (
 (a1M r5).bind fun r6 =>
 some (!r6))) fun x506 =>
 cond x506 (
 (b0e).bind fun bb7 =>
 some (bb7)) (
 (Z9 n r5).bind fun (r8,r9) =>
 cond (eqB r9.code 0) (
 (K6 n r3 r8).bind fun r10 =>
 cond r10 (
 (S9 n r8).bind fun r11 =>
 cond (eqS r11 r5) (
 (b0e).bind fun bb12 =>
 some (bb12)) (
 some (false))) (
 some (false))) (
 some (false))))
def a2B (V4:Str):Bool -> Out
 | a0l=>.ret (.bool a0l) []
end Go.Proofs.YtamfchbgonekeaaGreatDoor
namespace Go.Proofs.YtamfchbgonekeaaGreatDoor.Sc
open Go Go.Vm
theorem getD_drop (q:List UInt8) (i k:Nat):q.getD (i + k) 0 = (q.drop i).getD k 0:=by
 rw [List.getD_eq_getElem?_getD,List.getD_eq_getElem?_getD,List.getElem?_drop]
theorem len_of {q:List UInt8} {i:Nat} {b:UInt8} {r:List UInt8} (h:q.drop i = b :: r):q.length = i + (r.length + 1):=by
 have:=congrArg List.length h
 rw [List.length_drop,List.length_cons] at this; omega
theorem a9n {q:List UInt8} {i:Nat} {a z:List UInt8} (h:q.drop i = a ++ z) {k:Nat} (hk:a.length = k):q.drop (i + k) = z:=by
 subst hk
 rw [<- List.drop_drop,h,List.drop_left]
theorem a8B (p:UInt8 -> Bool) (s:List UInt8) (i:Nat):(s.take (K9 p s i)).drop i = (s.drop i).takeWhile p:=by
 rw [List.drop_take]
 have h:K9 p s i - i = ((s.drop i).takeWhile p).length:=by unfold K9; omega
 rw [h]
 exact (List.prefix_iff_eq_take.1 (List.takeWhile_prefix p)).symm
theorem b1n {toks:List Tok} {j:Nat} {r:MR} (h:toks.length < 3000):roomy toks j r = r:=a5Q (by simp only [leB,decide_eq_false_iff_not]; omega)
theorem b1p {u:List UInt8} {e:Nat} {pre r:List UInt8} {b:UInt8} (hd:u.drop e = pre ++ (b :: r)) (hp:pre = [] ∨ pre = [32]) (hb:a0X b = false) (hc:b.toNat ≠ 47 ∨ (r.headD 0).toNat ≠ 47) :
  M8 u e = e + pre.length /\ e + pre.length < u.length /\ u.drop (e + pre.length) = b :: r /\ u.getD (e + pre.length) 0 = b:=by
 have h2:u.drop (e + pre.length) = b :: r:=a9n hd rfl
 have hl:=len_of h2
 have h0:u.getD (e + pre.length) 0 = b:=by have:=getD_drop u (e + pre.length) 0; rw [h2] at this; exact this
 have h1:u.getD (e + pre.length + 1) 0 = r.headD 0:=by
  have:=getD_drop u (e + pre.length) 1
  rw [h2] at this
  rw [this]; cases r <;> rfl
 have hs:M8 u (e + pre.length) = e + pre.length:=a8H (by omega) (by rw [h0]; exact hb) (by rw [h0,h1]; exact hc)
 refine ⟨?_,by omega,h2,h0⟩
 rcases hp with rfl | rfl
 ·exact hs
 ·have hb0:u.getD e 0 = 32:=by have:=getD_drop u e 0; rw [hd] at this; exact this
  have hle:e < u.length:=by simp only [List.length_cons,List.length_nil] at hl; omega
  rw [a7a hle (by rw [hb0]; decide)]
  exact hs
def sgnP (w:List UInt8):Bool:=(decide (w.length = 1) || decide (w.length = 2)) && (!a0X (w.headD 0) && (!decide ((w.headD 0).toNat = 34) && (!I7 (w.headD 0) && (!Q6 (w.headD 0) && (decide ((w.headD 0).toNat ≠ 47) || decide (w.length = 1))))))
theorem b3R:O7.all sgnP = true:=by decide
theorem sign_P {w:List UInt8} (h:a3V O7 w = true):sgnP w = true:=by
 simp only [a3V,List.any_eq_true,decide_eq_true_eq] at h
 obtain ⟨y,h1,rfl⟩:=h
 exact List.all_eq_true.1 b3R y h1
theorem no32 (b:UInt8):a3V O7 [b,32] = false:=by simp [a3V,O7]
theorem signK_at {u:List UInt8} {i:Nat} {w tl:List UInt8} (hd:u.drop i = w ++ tl) (hw:a3V O7 w = true) (ht:tl = [] ∨ ∃ r,tl = 32 :: r):a0e u i 2 = w:=by
 have hP:=sign_P hw
 simp only [sgnP,Bool.and_eq_true,Bool.or_eq_true,decide_eq_true_eq] at hP
 have hlen:=congrArg List.length hd
 rw [List.length_drop,List.length_append] at hlen
 match w,hP with
 | [b],_ =>
  simp only [List.length_cons,List.length_nil] at hlen
  have e1:(u.take (i + 1)).drop i = [b]:=by rw [List.drop_take,hd,show i + 1 - i = 1 by omega]; rfl
  have l1:leB ((i + 1:Nat):Int) u.length = true:=by simp only [leB,decide_eq_true_eq]; omega
  have e2:(leB ((i + (1 + 1):Nat):Int) u.length && a3V O7 ((u.take (i + (1 + 1))).drop i)) = false:=by
   rcases ht with rfl | ⟨r,rfl⟩
   ·have:leB ((i + (1 + 1):Nat):Int) u.length = false:=by simp only [leB,decide_eq_false_iff_not]; simp only [List.length_nil] at hlen; omega
    rw [this]; rfl
   ·have:(u.take (i + (1 + 1))).drop i = [b,32]:=by rw [List.drop_take,hd,show i + (1 + 1) - i = 2 by omega]; rfl
    rw [this,no32,Bool.and_false]
  simp only [a0e,e2]
  simp only [Nat.zero_add,e1,l1,hw,Bool.and_self]
 | [b,c],_ =>
  simp only [List.length_cons,List.length_nil] at hlen
  have e2:(u.take (i + (1 + 1))).drop i = [b,c]:=by rw [List.drop_take,hd,show i + (1 + 1) - i = 2 by omega]; rfl
  have l2:leB ((i + (1 + 1):Nat):Int) u.length = true:=by simp only [leB,decide_eq_true_eq]; omega
  simp only [a0e,e2,l2,hw,Bool.and_self]
 | [],hP=>simp at hP
 | _ :: _ :: _ :: _,hP=>simp at hP
theorem tw_all {p:UInt8 -> Bool} {tl:List UInt8} (ht:p (tl.headD 0) = false ∨ tl = []):∀ {w:List UInt8},w.all p = true -> (w ++ tl).takeWhile p = w
 | [],_=>by
  cases tl with
  | nil=>rfl
  | cons c tl =>
   rcases ht with h | h
   ·rw [List.nil_append,List.takeWhile_cons]
    have h:p c = false:=h
    rw [h]; rfl
   ·cases h
 | b :: w,h=>by
  rw [List.all_cons,Bool.and_eq_true] at h
  rw [List.cons_append,List.takeWhile_cons,h.1,if_pos rfl,tw_all ht h.2]
theorem run_at {p:UInt8 -> Bool} {u:List UInt8} {i:Nat} {w tl:List UInt8} (hd:u.drop i = w ++ tl) (ht:p (tl.headD 0) = false ∨ tl = []) (hw:w.all p = true):K9 p u i = i + w.length /\ (u.take (K9 p u i)).drop i = w /\ u.getD (K9 p u i) 0 = tl.headD 0:=by
 have h1:=tw_all ht hw
 have h2:K9 p u i = i + w.length:=by unfold K9; rw [hd,h1]
 refine ⟨h2,by rw [a8B,hd,h1],?_⟩
 have:=getD_drop u (i + w.length) 0
 rw [a9n hd rfl,Nat.add_zero] at this
 rw [h2,this]; cases tl <;> rfl
theorem b2Y {toks:List Tok} {st:List (Nat × Int)} {q j:Nat} {a b:Int} {r:PR} {y:MS} (h:Y7 toks st q j a b r = .go y) :
  (∃ T e,r = .fin T e /\ y = ⟨e,toks ++ [⟨a,T,j,e - j⟩],st⟩) ∨ (∃ T e,r = .more T e /\ y = ⟨e,toks ++ [⟨b,T,j,e - j⟩],(q,0) :: st⟩):=by
 cases r with
 | err c a=>cases h
 | fin T e=>cases h; exact .inl ⟨_,_,rfl,rfl⟩
 | more T e=>cases h; exact .inr ⟨_,_,rfl,rfl⟩
structure Wd (w:List UInt8):Prop where
 ne:w ≠ []
 hd:Q6 (w.headD 0) = true
 all:w.all R8 = true
 len:ltB 24 (w.length:Nat) = false
def Cap (w:List UInt8):Prop:=Wd w /\ a1L w = 2
theorem step_cap {s:List UInt8} {x y:MS} (h:stepM s x = .go y):∃ t:Tok,y.toks = x.toks ++ [t] /\ (t.k = 2 -> Cap t.t):=by
 obtain ⟨i0,toks,st⟩:=x
 obtain ⟨i,h0⟩:∃ i,M8 s i0 = i:=⟨_,rfl⟩
 rcases Nat.lt_or_ge i s.length with hi | hi
 ·cases hc:closes (s.getD i 0).toNat st with
  | true =>
   cases st with
   | nil=>cases hc
   | cons z st =>
    obtain ⟨q,p⟩:=z
    obtain ⟨rfl,e⟩:=a1C (toks:=toks) h0 hi hc
    rw [e] at h
    obtain ⟨hr,h⟩:=a0u h
    rcases b2Y h with ⟨T,e,h1,rfl⟩ | ⟨T,e,h1,rfl⟩ <;> exact ⟨_,rfl,fun h=>by simp at h⟩
  | false =>
   by_cases h1:(s.getD i 0).toNat = 34
   ·rw [a2R h0 hi hc h1] at h
    obtain ⟨hr,h⟩:=a0u h
    rcases b2Y h with ⟨T,e,h1,rfl⟩ | ⟨T,e,h1,rfl⟩ <;> exact ⟨_,rfl,fun h=>by simp at h⟩
   ·cases h2:I7 (s.getD i 0) with
    | true =>
     rw [a0H h0 hi hc h1 h2,a8B] at h
     obtain ⟨hr,h⟩:=a0u h
     split at h
     ·cases h
     ·cases h
      exact ⟨_,rfl,fun h=>absurd h (by show ¬ (3:Int) = 2; decide)⟩
    | false =>
     cases h3:Q6 (s.getD i 0) with
     | true =>
      rw [X9 h0 hi hc h1 h2 h3,a8B] at h
      obtain ⟨hr,h⟩:=a0u h
      split at h
      ·cases h
      ·rename_i hb
       cases h
       have hn:R8 (s.getD i 0) = true:=by simp only [R8,h3,Bool.true_or]
       refine ⟨_,rfl,fun hk=>⟨⟨?_,?_,List.all_takeWhile,hb⟩,hk⟩⟩
       ·rw [Z6 hi,List.takeWhile_cons,hn]; simp
       ·rw [Z6 hi,List.takeWhile_cons,hn]; exact h3
     | false =>
      cases hw:a0e s i 2 with
      | nil=>rw [a1U h0 hi hc h1 h2 h3 hw] at h; cases h
      | cons b w =>
       rw [Y0 h0 hi hc h1 h2 h3 hw (by simp)] at h
       obtain ⟨hr,h⟩:=a0u h
       cases h
       exact ⟨_,rfl,fun h=>absurd h (by show ¬ (8:Int) = 2; decide)⟩
 ·cases st with
  | nil=>rw [a05 h0 hi] at h; cases h
  | cons z st=>obtain ⟨q,p⟩:=z; rw [a1V h0 hi] at h; cases h
theorem b3J {s:List UInt8} {x y:MS} (h:Reach s x y):(∀ t ∈ x.toks,t.k = 2 -> Cap t.t) -> ∀ t ∈ y.toks,t.k = 2 -> Cap t.t:=by
 induction h with
 | refl x=>exact fun h=>h
 | step x y z h1 _ ih =>
  intro hx
  obtain ⟨t,e,ht⟩:=step_cap h1
  refine ih fun u hu=>?_
  rw [e] at hu
  rcases List.mem_append.1 hu with hu | hu
  ·exact hx u hu
  ·simp only [List.mem_singleton] at hu; subst hu; exact ht
theorem toks_cap {s:List UInt8} {l:List Tok} (h:a0I s = .done l):∀ t ∈ l,t.k = 2 -> Cap t.t:=by
 obtain ⟨ok,_,he⟩:=a4l s
 have he:=he (ok.lay l h).1
 rw [h] at he
 obtain ⟨z,h1,h2,_⟩:=he
 obtain ⟨h3,_⟩:=a8J h2
 rw [<- h3]
 exact b3J h1 fun t ht=>by cases ht
def WOk (p:Int × List UInt8):Prop:=(Wd p.2 /\ p.1 = a1L p.2) ∨ (a3V O7 p.2 = true /\ p.1 = 8)
theorem b3Y {u:List UInt8} {e:Nat} {pre tl:List UInt8} {toks:List Tok} {p:Int × List UInt8} (hd:u.drop e = pre ++ (p.2 ++ tl)) (hp:pre = [] ∨ pre = [32]) (ht:tl = [] ∨ ∃ r,tl = 32 :: r) (hT:WOk p) (hr:toks.length < 3000) :
  ∃ a l,stepM u ⟨e,toks,[]⟩ = .go ⟨e + pre.length + p.2.length,toks ++ [⟨p.1,p.2,a,l⟩],[]⟩:=by
 have ht2:∀ p:UInt8 -> Bool,p 32 = false -> p (tl.headD 0) = false ∨ tl = []:=fun p hp=>by
  rcases ht with rfl | ⟨r,rfl⟩
  ·exact .inr rfl
  ·exact .inl hp
 obtain ⟨k,x⟩:=p
 simp only at hd ⊢
 rcases hT with ⟨⟨h,h6,h1,h2⟩,hk⟩ | ⟨h,hk⟩
 ·simp only at h h6 h1 h2 hk
  subst hk
  cases x with
  | nil=>exact absurd rfl h
  | cons b w =>
  have hb:Q6 b = true:=h6
  have hb2:=hb
  simp only [Q6,decide_eq_true_eq] at hb2
  rw [List.cons_append] at hd
  obtain ⟨h0,hi,h3,h4⟩:=b1p hd hp (by simp only [a0X,decide_eq_false_iff_not]; omega) (.inl (by omega))
  have h5:u.drop (e + pre.length) = (b :: w) ++ tl:=h3
  obtain ⟨r1,r2,r3⟩:=run_at h5 (ht2 R8 (by decide)) h1
  rw [X9 h0 hi rfl (by rw [h4]; omega) (by rw [h4]; simp only [I7,decide_eq_false_iff_not]; omega) (by rw [h4]; exact hb),b1n hr,r2,h2,r1]
  exact ⟨_,_,rfl⟩
 ·simp only at h hk
  subst hk
  have hP:=sign_P h
  cases x with
  | nil=>exact absurd hP (by decide)
  | cons b w =>
  simp only [sgnP,List.headD_cons,Bool.and_eq_true,Bool.or_eq_true,Bool.not_eq_true',decide_eq_true_eq,decide_eq_false_iff_not] at hP
  obtain ⟨p1,p2,p3,p4,p5,p6⟩:=hP
  rw [List.cons_append] at hd
  obtain ⟨h0,hi,h3,h4⟩:=b1p hd hp p2 (by
   rcases p6 with p6 | p6
   ·exact .inl (of_decide_eq_true p6)
   ·right
    cases w with
    | nil =>
     rcases ht with rfl | ⟨r,rfl⟩
     ·decide
     ·show (32:UInt8).toNat ≠ 47
      decide
    | cons c w=>simp at p6)
  have h5:u.drop (e + pre.length) = (b :: w) ++ tl:=h3
  rw [Y0 (w:=b :: w) h0 hi rfl (by rw [h4]; exact of_decide_eq_false p3) (by rw [h4]; exact p4) (by rw [h4]; exact p5) (signK_at h5 h ht) (by simp),b1n hr]
  exact ⟨_,_,rfl⟩
def KT (l:List Tok):List (Int × List UInt8):=l.map fun t=>(t.k,t.t)
def a1A (l:List (Int × List UInt8)):List UInt8:=[32].intercalate (l.map Prod.snd)
theorem a9Q (p:Int × List UInt8) (l:List (Int × List UInt8)):a1A (p :: l) = p.2 ++ (match l with | []=>[] | _ :: _=>32 :: a1A l):=by
 cases l with
 | nil=>simp [a1A,List.intercalate]
 | cons u l=>simp [a1A,List.intercalate]
theorem a9R {u:List UInt8}:∀ (ws:List (Int × List UInt8)) (e:Nat) (toks:List Tok) (pre:List UInt8),(pre = [] ∨ pre = [32]) -> u.drop e = (match ws with | []=>[] | _ :: _=>pre ++ a1A ws) -> (∀ p ∈ ws,WOk p) -> toks.length + ws.length <= 3000 ->
  ∃ e' toks',Reach u ⟨e,toks,[]⟩ ⟨e',toks',[]⟩ /\ KT toks' = KT toks ++ ws /\ u.length <= e'
 | [],e,toks,pre,hp,hd,_,_=>⟨e,toks,.refl _,by simp,by simpa using hd⟩
 | p :: ws,e,toks,pre,hp,hd,hw,hl=>by
  simp only [List.length_cons] at hl
  simp only at hd
  rw [a9Q] at hd
  obtain ⟨a,l,h1⟩:=b3Y (toks:=toks) hd hp (by cases ws with
   | nil=>exact .inl rfl
   | cons _ _=>exact .inr ⟨_,rfl⟩) (hw p (by simp)) (by omega)
  obtain ⟨e',toks',h2,h3,h4⟩:=a9R ws (e + pre.length + p.2.length) (toks ++ [⟨p.1,p.2,a,l⟩]) [32] (.inr rfl) (by
   rw [<- List.drop_drop,<- List.drop_drop,hd,List.drop_left,List.drop_left]
   cases ws <;> rfl) (fun q hq=>hw q (by simp [hq])) (by simp; omega)
  exact ⟨e',toks',.step _ _ _ h1 h2,by rw [h3]; simp [KT],h4⟩
theorem say {ws:List (Int × List UInt8)} (hw:∀ p ∈ ws,WOk p) (hl:ws.length <= 3000) (h8:(a1A ws).length <= 8000):∃ m,a0I (a1A ws) = .done m /\ KT m = ws:=by
 obtain ⟨e',toks',h1,h2,h3⟩:=a9R (u:=a1A ws) ws 0 [] [] (.inl rfl) (by cases ws <;> rfl) hw (by simpa using hl)
 refine ⟨toks',Ends.det _ ((a4l (a1A ws)).2.2 h8) ⟨_,h1,a05 (a9U h3) h3,fun z hz=>(by cases hz)⟩,by simpa [KT] using h2⟩
end Go.Proofs.YtamfchbgonekeaaGreatDoor.Sc
namespace Go.Proofs.YtamfchbgonekeaaGreatDoor
open Go Go.Vm
theorem a5u {a:Int} (h1:-9223372036854775808 <= a) (h2:a <= 9223372036854775807):w64 a = a:=by
 unfold w64
 simp only [IntKind.wrap,IntKind.bits,IntKind.signed]
 simp
 omega
theorem a2T {k:Nat} (h:k <= 1000000):w64 ((k:Int) + 1) = ((k + 1:Nat):Int):=by rw [a5u (by omega) (by omega)]; rfl
theorem a3Z {a b:Int} (h:a < b):ltB a b = true:=by simp [ltB,h]
theorem a3z {a b:Int} (h:¬ a < b):ltB a b = false:=by simp [ltB,h]
theorem leB_t {a b:Int} (h:a <= b):leB a b = true:=by simp [leB,h]
theorem leB_f {a b:Int} (h:¬ a <= b):leB a b = false:=by simp [leB,h]
theorem U3 {a b:Int} (h:a = b):eqB a b = true:=by simp [eqB,h]
theorem a0U {a b:Int} (h:¬ a = b):eqB a b = false:=by simp [eqB,h]
theorem a3R (s:Str):eqS s s = true:=by simp [eqS]
theorem G6 (a:UInt8) (r:Str):eqS (a :: r) [] = false:=by simp [eqS]
theorem a5c {α:Type} {l:List α} {i:Nat} (h:i < l.length):idx' l (i:Int) = some l[i]:=by
 have h1:inR (i:Int) l.length = true:=by simp [inR,h]
 simp [idx',h1,h]
theorem a3N {α:Type} {b:Nat} {l m:List α} (h:(l.length + m.length) * (b + 1) <= 70368744177664):app b l m = some (l ++ m):=by
 unfold app leN
 rw [decide_eq_true h]
def isT (l:List Tok) (kind:Int) (s:Str) (k:Nat):Bool:=match l[k]? with
 | some t=>eqB t.kind kind && eqS t.text s
 | none=>false
def isK (l:List Tok) (kind:Int) (k:Nat):Bool:=match l[k]? with
 | some t=>eqB t.kind kind
 | none=>false
def a9y (l:List Tok) (size:Int) (k:Nat):Int:=match l[k]? with
 | some t=>t.at_
 | none=>size
def a6E (l:List Tok) (k:Nat):Str:=match l[k]? with
 | some t=>t.text
 | none=>[]
theorem b0u {l:List Tok} {kind:Int} {s:Str} {k:Nat} (h:isT l kind s k = true):k < l.length:=by
 unfold isT at h
 rcases Nat.lt_or_ge k l.length with h1 | h1
 ·exact h1
 ·rw [List.getElem?_eq_none h1] at h; cases h
theorem isK_lt {l:List Tok} {kind:Int} {k:Nat} (h:isK l kind k = true):k < l.length:=by
 unfold isK at h
 rcases Nat.lt_or_ge k l.length with h1 | h1
 ·exact h1
 ·rw [List.getElem?_eq_none h1] at h; cases h
mutual
def Typ.sz:Typ -> Nat
 | ⟨_,_,_,a⟩=>1 + szT a
def szT:List Typ -> Nat
 | []=>0
 | x :: r=>x.sz + szT r
end
theorem Typ.a1s (x:Typ):x.sz = 1 + szT x.args:=by cases x; rfl
theorem a06:∀ a b:List Typ,szT (a ++ b) = szT a + szT b
 | [],b=>by simp [szT]
 | x :: a,b=>by rw [List.cons_append,szT,szT,a06 a b]; omega
theorem a3u (x:Typ):szT [x] = x.sz:=by simp [szT]
theorem R7 {x:Typ}:∀ {l:List Typ},x ∈ l -> x.sz <= szT l
 | y :: r,h=>by
  simp only [szT]
  rcases List.mem_cons.1 h with rfl | h
  ·omega
  ·have:=R7 h; omega
theorem a1b:∀ l:List Typ,l.length <= szT l
 | []=>Nat.le_refl _
 | x :: r=>by have:=a1b r; have:=x.a1s; simp only [szT,List.length_cons]; omega
def kindOf (s:Str) (a:List Typ):Int :=
 cond (eqB (List.length a:Int) 0 && eqS s [73,110,116]) 1 (cond (eqB (List.length a:Int) 0 && eqS s [66,111,111,108]) 2 (cond (eqB (List.length a:Int) 0 && eqS s [84,101,120,116]) 3 (cond (eqB (List.length a:Int) 0 && eqS s [85,110,105,116]) 4
 (cond (eqB (List.length a:Int) 1 && eqS s [65,114,114,97,121]) 5 (cond (eqB (List.length a:Int) 1 && eqS s [87,101,97,107]) 11 6)))))
def a0R (s:Str) (a:List Typ):Typ:=⟨kindOf s a,cond (!eqB (kindOf s a) 6) [] s,0,a⟩
theorem b1h (s:Str) (a:List Typ):a0a s a = some (a0R s a):=by
 unfold a0a a0R kindOf
 rcases a with _ | ⟨x,_ | ⟨y,r⟩⟩
 ·rw [show eqB (List.length ([]:List Typ):Int) 0 = true from U3 rfl,show eqB (List.length ([]:List Typ):Int) 1 = false from a0U (by simp),show ltB 0 (List.length ([]:List Typ):Int) = false from a3z (by simp)]
  cases eqS s [73,110,116] <;> cases eqS s [66,111,111,108] <;> cases eqS s [84,101,120,116] <;> cases eqS s [85,110,105,116] <;> simp [a0E,eqB]
 ·rw [show eqB (List.length [x]:Int) 0 = false from a0U (by simp),show eqB (List.length [x]:Int) 1 = true from U3 (by simp),show ltB 0 (List.length [x]:Int) = true from a3Z (by simp)]
  cases h1:eqS s [65,114,114,97,121] <;> cases h2:eqS s [87,101,97,107] <;> simp [a0E,eqB]
 ·rw [show eqB (List.length (x :: y :: r):Int) 0 = false from a0U (by simp; omega),show eqB (List.length (x :: y :: r):Int) 1 = false from a0U (by simp; omega),show ltB 0 (List.length (x :: y :: r):Int) = true from a3Z (by simp; omega)]
  simp [a0E,eqB]
theorem eqS_t {a b:Str} (h:a = b):eqS a b = true:=by simp [eqS,h]
theorem eqB_i {a b:Int} (h:eqB a b = true):a = b:=by simpa [eqB] using h
theorem a6L {a b:Str} (h:eqS a b = true):a = b:=by simpa [eqS] using h
def kt (l:List Tok):List (Int × Str):=l.map fun t=>(t.kind,t.text)
theorem a15 {l:List Tok} {k:Nat} {p:Int × Str} {r:List (Int × Str)} (h:kt (l.drop k) = p :: r):∃ hk:k < l.length,(l[k]).kind = p.1 /\ (l[k]).text = p.2 /\ kt (l.drop (k + 1)) = r:=by
 have hk:k < l.length:=by
  rcases Nat.lt_or_ge k l.length with h1 | h1
  ·exact h1
  ·rw [List.drop_eq_nil_of_le h1] at h; cases h
 rw [List.drop_eq_getElem_cons hk] at h
 simp only [kt,List.map_cons,List.cons.injEq] at h
 obtain ⟨h1,h2⟩:=h
 exact ⟨hk,by rw [<- h1],by rw [<- h1],h2⟩
section
variable {l:List Tok} (hl:l.length <= 3000) {k:Nat} (hk:k <= l.length) (size:Int)
include hl hk
theorem a9A (kind:Int) (s:Str) (hs:eqS s [] = false):I5 0 kind s l k size = some (isT l kind s k):=by
 unfold I5 isT
 rw [Int.add_zero,a5u (by omega) (by omega)]
 rcases Nat.lt_or_ge k l.length with h | h
 ·rw [leB_f (by omega),cond_false,a5c h,Option.bind_some,List.getElem?_eq_getElem h]
  simp only
  rw [hs]
  cases eqB l[k].kind kind <;> simp
 ·rw [leB_t (by omega),cond_true,List.getElem?_eq_none h]
theorem isK_ok (kind:Int):I5 0 kind [] l k size = some (isK l kind k):=by
 unfold I5 isK
 rw [Int.add_zero,a5u (by omega) (by omega)]
 rcases Nat.lt_or_ge k l.length with h | h
 ·rw [leB_f (by omega),cond_false,a5c h,Option.bind_some,List.getElem?_eq_getElem h]
  simp only
  rw [a3R]
  cases eqB l[k].kind kind <;> simp
 ·rw [leB_t (by omega),cond_true,List.getElem?_eq_none h]
theorem here_ok:U7 l k size = some (a9y l size k):=by
 unfold U7 a9y
 rcases Nat.lt_or_ge k l.length with h | h
 ·rw [a3Z (by omega),cond_true,a5c h,Option.bind_some,List.getElem?_eq_getElem h]
 ·rw [a3z (by omega),cond_false,List.getElem?_eq_none h]
theorem b0s:I9 l k size = some (.pan (a9y l size k)):=by
 unfold I9
 rw [here_ok hl hk]; rfl
theorem sg (s:Str) (hs:eqS s [] = false) :
  (isT l 8 s k = true /\ k < l.length /\ D7 s l k size = some (true,((k + 1:Nat):Int)) /\ F5 s l k size = some (.ok ((k + 1:Nat):Int))) ∨
  (isT l 8 s k = false /\ D7 s l k size = some (false,(k:Int)) /\ F5 s l k size = some (.pan (a9y l size k,(k:Int)))):=by
 have h1:D7 s l k size = (some (isT l 8 s k)).bind fun r5=>cond (!r5) (some ((false,(k:Int)))) (some ((true,(w64 (k + 1))))):=by unfold D7; rw [a9A hl hk size 8 s hs]
 have h3:∀ b:Bool,∀ q:Int,D7 s l k size = some (b,q) -> F5 s l k size = cond (!b) (I6 (I9 l q size) (fun (_:Empty)=>none) fun at7=>some (.pan (at7,q))) (some (.ok q)):=by
  intro b q h; unfold F5; rw [h]; rfl
 cases hb:isT l 8 s k with
 | true =>
  have hlt:=b0u hb
  rw [hb] at h1
  simp only [Option.bind_some,Bool.not_true,cond_false,cond_true] at h1
  rw [a2T (by omega)] at h1
  refine .inl ⟨rfl,hlt,h1,?_⟩
  rw [h3 _ _ h1]; rfl
 | false =>
  rw [hb] at h1
  simp only [Option.bind_some,Bool.not_false,cond_false,cond_true] at h1
  refine .inr ⟨rfl,h1,?_⟩
  rw [h3 _ _ h1,b0s hl hk]; rfl
theorem ky (s:Str) (hs:eqS s [] = false) :
  (isT l 9 s k = true /\ k < l.length /\ J8 s l k size = some (true,((k + 1:Nat):Int))) ∨
  (isT l 9 s k = false /\ J8 s l k size = some (false,(k:Int))):=by
 have h1:J8 s l k size = (some (isT l 9 s k)).bind fun r5=>cond (!r5) (some ((false,(k:Int)))) (some ((true,(w64 (k + 1))))):=by unfold J8; rw [a9A hl hk size 9 s hs]
 cases hb:isT l 9 s k with
 | true =>
  have hlt:=b0u hb
  rw [hb] at h1
  simp only [Option.bind_some,Bool.not_true,cond_false,cond_true] at h1
  rw [a2T (by omega)] at h1
  exact .inl ⟨rfl,hlt,h1⟩
 | false =>
  rw [hb] at h1
  simp only [Option.bind_some,Bool.not_false,cond_false,cond_true] at h1
  exact .inr ⟨rfl,h1⟩
theorem b2K:(isK l 2 k = true /\ k < l.length /\ D9 l k size = some (.ok (a6E l k)) /\ w64 ((k:Int) + 1) = ((k + 1:Nat):Int)) ∨
  (isK l 2 k = false /\ D9 l k size = some (.pan (a9y l size k))):=by
 have h1:D9 l k size = I6 ((some (isK l 2 k)).bind fun r5=>cond (!r5) (I6 (I9 l k size) (fun (_:Empty)=>none) fun at6=>some (.pan at6)) ((idx' l k).bind fun x7=>some (.ok x7))) (fun r4=>some (.ok r4.text)) fun at5=>some (.pan at5):=by
  unfold D9 X8; rw [isK_ok hl hk size 2]
 cases hb:isK l 2 k with
 | true =>
  have hlt:=isK_lt hb
  have ht:a6E l k = l[k].text:=by unfold a6E; rw [List.getElem?_eq_getElem hlt]
  rw [hb,a5c hlt] at h1
  simp only [Option.bind_some,Bool.not_true,cond_false,cond_true] at h1
  exact .inl ⟨rfl,hlt,by rw [h1,ht]; rfl,a2T (by omega)⟩
 | false =>
  rw [hb,b0s hl hk] at h1
  exact .inr ⟨rfl,h1⟩
end
def dots (b:Typ) (ds:List Str):Typ:=ds.foldl (fun t s=>⟨8,s,0,[t]⟩) b
inductive Wf:Typ -> Prop
 | path (s:Str) (args:List Typ) (ds:List Str) (h:Sc.Cap s) (g:∀ x ∈ args,Wf x) (hd:∀ d ∈ ds,Sc.Cap d):Wf (dots (a0R s args) ds)
 | any (s:Str) (h:Sc.Cap s):Wf ⟨9,s,0,[]⟩
 | func (args:List Typ) (r:Typ) (g:∀ x ∈ args,Wf x) (h:Wf r):Wf ⟨10,[],0,args ++ [r]⟩
def a7D (t:Typ):Prop:=∃ s args ds,Sc.Cap s /\ (∀ x ∈ args,Wf x) /\ (∀ d ∈ ds,Sc.Cap d) /\ t = dots (a0R s args) ds
theorem a7D.wf {t:Typ} (h:a7D t):Wf t:=by
 obtain ⟨s,args,ds,h1,h2,h3,rfl⟩:=h
 exact .path s args ds h1 h2 h3
theorem a7D.dot {t:Typ} (h:a7D t) {w:Str} (hw:Sc.Cap w):a7D ⟨8,w,0,[t]⟩:=by
 obtain ⟨s,args,ds,h1,h2,h3,rfl⟩:=h
 refine ⟨s,args,ds ++ [w],h1,h2,fun d hd=>?_,by simp [dots,List.foldl_append]⟩
 rcases List.mem_append.1 hd with hd | hd
 ·exact h3 d hd
 ·simp only [List.mem_singleton] at hd; subst hd; exact hw
def Sm (l:List Tok) (k:Nat) (p:Option (Rs (Typ × Int) (Int × Int))):Prop :=
 (∃ (t:Typ) (k':Nat),p = some (.ok (t,(k':Int))) /\ k < k' /\ k' <= l.length /\ t.sz + k <= k' /\ Wf t) ∨ (∃ (a:Int) (k':Nat),p = some (.pan (a,(k':Int))))
def CapL (l:List Tok):Prop:=∀ t ∈ l,t.kind = 2 -> Sc.Cap t.text
section
variable {l:List Tok} (hl:l.length <= 3000) (hc2:CapL l) (size:Int)
include hl hc2
theorem cap {k:Nat} (hk:k <= l.length):(k < l.length /\ D9 l k size = some (.ok (a6E l k)) /\ w64 ((k:Int) + 1) = ((k + 1:Nat):Int) /\ Sc.Cap (a6E l k)) ∨
  D9 l k size = some (.pan (a9y l size k)):=by
 rcases b2K hl hk size with ⟨h0,h1,h2,h3⟩ | ⟨h0,h1⟩
 ·refine .inl ⟨h1,h2,h3,?_⟩
  have ht:a6E l k = l[k].text:=by unfold a6E; rw [List.getElem?_eq_getElem h1]
  rw [ht]
  refine hc2 _ (List.getElem_mem h1) ?_
  unfold isK at h0
  rw [List.getElem?_eq_getElem h1] at h0
  exact eqB_i h0
 ·exact .inr h1
variable {Φ:d9} (n:Nat) {c:Nat} (IH:∀ k,c <= k -> k <= l.length -> Sm l k (Φ.j4 l k size))
include IH
theorem tail1 {k0:Nat}:∀ (m:Nat) (args:List Typ) (k:Nat),c <= k + 1 -> k <= l.length -> l.length - k < m -> szT args + k0 <= k -> (∀ x ∈ args,Wf x) ->
  (∃ (args':List Typ) (k':Nat),z8 n Φ size l m args k = some (.brk (args',(k':Int))) /\ k <= k' /\ k' <= l.length /\ szT args' + k0 <= k' /\ (∀ x ∈ args',Wf x)) ∨
  (∃ (a:Int) (k':Nat),z8 n Φ size l m args k = some (.out (.pan (a,(k':Int)))))
 | 0,args,k,h1,h2,h3,h4,_=>by omega
 | m + 1,args,k,h1,h2,h3,h4,h6=>by
  simp only [z8]
  rcases sg hl h2 size [44] (G6 _ _) with ⟨_,hlt,hp,_⟩ | ⟨_,hp,_⟩
  ·rw [hp]
   simp only [Option.bind_some,cond_true]
   rcases IH (k + 1) h1 hlt with ⟨t,k',a,g1,g2,g3,g4⟩ | ⟨a,k',b⟩
   ·rw [a]
    have hlen:=a1b args
    have hap:app 56 args [t] = some (args ++ [t]):=a3N (by simp only [List.length_singleton]; omega)
    simp only [I6]
    rw [hap]
    simp only [Option.bind_some]
    rcases tail1 (k0:=k0) m (args ++ [t]) k' (by omega) g2 (by omega) (by rw [a06,a3u]; omega) (fun x hx=>by
     rcases List.mem_append.1 hx with hx | hx
     ·exact h6 x hx
     ·simp only [List.mem_singleton] at hx; subst hx; exact g4) with ⟨x1,x2,x3,x5,x6,x7,x8⟩ | x
    ·exact .inl ⟨x1,x2,x3,by omega,x6,x7,x8⟩
    ·exact .inr x
   ·rw [b]
    exact .inr ⟨a,k',rfl⟩
  ·rw [hp]
   exact .inl ⟨args,k,rfl,Nat.le_refl _,h2,h4,h6⟩
theorem types1 {k:Nat} (hc:c <= k) (hk:k <= l.length) (hn:l.length < n) :
  (∃ (t:Typ) (k1:Nat) (args:List Typ) (k2:Nat),Φ.j4 l k size = some (.ok (t,(k1:Int))) /\ app 56 ([]:List Typ) [t] = some [t] /\ z8 n Φ size l n [t] k1 = some (.brk (args,(k2:Int))) /\ k < k2 /\ k2 <= l.length /\ szT args + k <= k2 /\ (∀ x ∈ args,Wf x)) ∨
  (∃ (a:Int) (k2:Nat),Φ.j4 l k size = some (.pan (a,(k2:Int)))) ∨
  (∃ (t:Typ) (k1:Nat) (a:Int) (k2:Nat),Φ.j4 l k size = some (.ok (t,(k1:Int))) /\ app 56 ([]:List Typ) [t] = some [t] /\ z8 n Φ size l n [t] k1 = some (.out (.pan (a,(k2:Int))))):=by
 have hap:∀ t:Typ,app 56 ([]:List Typ) [t] = some [t]:=fun t=>a3N (by simp)
 rcases IH k hc hk with ⟨t,k1,a,g1,g2,g3,g4⟩ | ⟨a,k1,b⟩
 ·rcases tail1 hl hc2 size n IH (k0:=k) n [t] k1 (by omega) g2 (by omega) (by rw [a3u]; omega) (fun x hx=>by simp only [List.mem_singleton] at hx; subst hx; exact g4) with ⟨x1,x2,x3,x5,x6,x7,x8⟩ | ⟨x1,x2,x3⟩
  ·exact .inl ⟨t,k1,x1,x2,a,hap t,x3,by omega,x6,x7,x8⟩
  ·exact .inr (.inr ⟨t,k1,x1,x2,a,hap t,x3⟩)
 ·exact .inr (.inl ⟨a,k1,b⟩)
end
theorem l5_eq (n:Nat) (Φ:d9) (size:Int) (l:List Tok):∀ m args k,M4 n Φ size l m args k = z8 n Φ size l m args k
 | 0,args,k=>rfl
 | m + 1,args,k=>by simp only [M4,z8,l5_eq n Φ size l m]
section
variable {l:List Tok} (hl:l.length <= 3000) (hc2:CapL l) (size:Int)
include hl hc2
theorem dots1 {Φ:d9} (n:Nat) {k0:Nat}:∀ (m:Nat) (t:Typ) (k:Nat),k <= l.length -> l.length - k < m -> t.sz + k0 <= k -> a7D t ->
  (∃ (t':Typ) (k':Nat),E5 n Φ false size l m k t = some (.brk ((k':Int),t')) /\ k <= k' /\ k' <= l.length /\ t'.sz + k0 <= k' /\ a7D t') ∨
  (∃ (a:Int) (k':Nat),E5 n Φ false size l m k t = some (.out (.pan (a,(k':Int)))))
 | 0,t,k,h1,h2,h4,_=>by omega
 | m + 1,t,k,h1,h2,h4,h5=>by
  simp only [E5,cond_true,cond_false]
  rcases sg hl h1 size [46] (G6 _ _) with ⟨hb,hlt,hp,_⟩ | ⟨hb,hp,_⟩
  ·rw [a9A hl h1 size 8 [46] (G6 _ _),hb]
   simp only [Option.bind_some,cond_true]
   rw [a2T (by omega)]
   rcases cap hl hc2 size hlt with ⟨c1,c2,c4,c5⟩ | c2
   ·rw [c2,c4]
    simp only [I6]
    rcases dots1 (k0:=k0) n m ⟨8,a6E l (k + 1),0,[t]⟩ (k + 1 + 1) (by omega) (by omega) (by rw [Typ.a1s]; simp only [a3u]; omega) (h5.dot c5) with ⟨x1,x2,x3,x5,x6,x7,x8⟩ | x
    ·exact .inl ⟨x1,x2,x3,by omega,x6,x7,x8⟩
    ·exact .inr x
   ·rw [c2]
    exact .inr ⟨_,k + 1,rfl⟩
  ·rw [a9A hl h1 size 8 [46] (G6 _ _),hb]
   exact .inl ⟨t,k,rfl,Nat.le_refl _,h1,h4,h5⟩
theorem path1 {R a k:Nat} (ha:4 * R + l.length + 8 <= a) (hk:k <= l.length) (hR:l.length - k <= R)
    (IH:∀ q n,k < q -> q <= l.length -> 4 * R + l.length + 6 <= n -> Sm l q ((d9.fs n).j4 l q size)) :
    Sm l k (G9 a (d9.fs a) false l k size):=by
  unfold G9
  rcases cap hl hc2 size hk with ⟨c1,c2,c4,c5⟩ | c2
  · rw [c2,c4]
    simp only [I6]
    have fin:∀ (args:List Typ) (q:Nat),k < q -> q <= l.length -> szT args + k + 1 <= q -> (∀ x ∈ args,Wf x) -> Sm l k
        ((a0a (a6E l k) args).bind fun r23=>a0E (α:=Int × Typ) (E5 a (d9.fs a) false size l a q r23) fun (a9d,n550)=>some (.ok (n550,a9d))):=by
      intro args q h1 h2 h3 h4
      rw [b1h,Option.bind_some]
      rcases dots1 hl hc2 size (Φ:=d9.fs a) a (k0:=k) a (a0R (a6E l k) args) q h2 (by omega) (by rw [Typ.a1s]; simp only [a0R]; omega) ⟨a6E l k,args,[],c5,h4,(fun d hd=>by cases hd),rfl⟩ with ⟨x1,x2,x3,x5,x6,x7,x8⟩ | ⟨x1,x2,x3⟩
      · rw [x3]
        exact .inl ⟨x1,x2,rfl,by omega,x6,x7,x8.wf⟩
      · rw [x3]
        exact .inr ⟨x1,x2,rfl⟩
    rcases sg hl c1 size [60] (G6 _ _) with ⟨_,hlt,hp,_⟩ | ⟨_,hp,_⟩
    · rw [hp]
      simp only [Option.bind_some,cond_true]
      simp only [l5_eq]
      rcases types1 hl hc2 size (Φ:=d9.fs a) a (c:=k + 1) (fun q h1 h2=>IH q a (by omega) h2 (by omega)) (k:=k + 1 + 1) (by omega) hlt (by omega) with
        ⟨t,k1,args,k2,y1,y2,y3,y5,y6,y7,y8⟩ | ⟨b,k2,y1⟩ | ⟨t,k1,b,k2,y1,y2,y3⟩
      · rw [y1]
        simp only [I6]
        rw [y2]
        simp only [Option.bind_some]
        rw [y3]
        simp only [a7K]
        rcases sg hl y6 size [62] (G6 _ _) with ⟨_,hlt2,_,hw2⟩ | ⟨_,_,hw2⟩
        · rw [hw2]
          simp only [I6,a0E]
          exact fin args (k2 + 1) (by omega) (by omega) (by omega) y8
        · rw [hw2]
          exact .inr ⟨_,k2,rfl⟩
      · rw [y1]
        exact .inr ⟨_,k2,rfl⟩
      · rw [y1]
        simp only [I6]
        rw [y2]
        simp only [Option.bind_some]
        rw [y3]
        exact .inr ⟨_,k2,rfl⟩
    · rw [hp]
      simp only [a0E,Option.bind_some,cond_false]
      exact fin [] (k + 1) (by omega) c1 (by simp [szT]) (fun x hx=>by cases hx)
  · rw [c2]
    exact .inr ⟨_,k,rfl⟩
theorem b1x {R n k:Nat} (ha:4 * R + l.length + 10 <= n) (hk:k <= l.length) (hR:l.length - k <= R)
    (IH:∀ q n,k < q -> q <= l.length -> 4 * R + l.length + 6 <= n -> Sm l q ((d9.fs n).j4 l q size)) :
    Sm l k ((d9.fs n).j4 l k size):=by
  obtain ⟨a,rfl⟩:∃ q,n = q + 2:=⟨n - 2,by omega⟩
  show Sm l k (K7 (a + 1) (d9.fs (a + 1)) l k size)
  unfold K7
  rcases ky hl hk size [97,110,121] (G6 _ _) with ⟨_,hlt,hp⟩ | ⟨_,hp⟩
  · rw [hp]
    simp only [Option.bind_some,cond_true]
    rcases cap hl hc2 size hlt with ⟨c1,c2,c4,c5⟩ | c2
    · rw [c2,c4]
      exact .inl ⟨_,k + 1 + 1,rfl,by omega,c1,by rw [Typ.a1s]; simp only [szT]; omega,.any _ c5⟩
    · rw [c2]
      exact .inr ⟨_,k + 1,rfl⟩
  · rw [hp]
    simp only [Option.bind_some,cond_false]
    rcases sg hl hk size [40] (G6 _ _) with ⟨_,hlt,hp,_⟩ | ⟨_,hp,_⟩
    · rw [hp]
      simp only [Option.bind_some,Bool.not_true,cond_false]
      have fin:∀ (args:List Typ) (q:Nat),k < q -> q <= l.length -> szT args + k + 1 <= q -> (∀ x ∈ args,Wf x) -> Sm l k
          (I6 (F5 [45,62] l q size) (fun at31=>I6 ((d9.fs (a + 1)).j4 l at31 size) (fun (r32,at33)=>(app 56 args ([r32]:List Typ)).bind fun l34=>some (.ok ((⟨10,[],0,l34⟩:Typ),at33))) fun (at35,at36)=>some (.pan (at35,at36))) fun (at37,at38)=>some (.pan (at37,at38))):=by
        intro args q h1 h2 h3 h4
        have hlen:=a1b args
        have hap:∀ t:Typ,app 56 args [t] = some (args ++ [t]):=fun t=>a3N (by simp only [List.length_singleton]; omega)
        rcases sg hl h2 size [45,62] (G6 _ _) with ⟨_,hlt2,_,hw2⟩ | ⟨_,_,hw2⟩
        · rw [hw2]
          simp only [I6]
          rcases IH (q + 1) (a + 1) (by omega) hlt2 (by omega) with ⟨t,k',x,g1,g2,g3,g4⟩ | ⟨b,k',x⟩
          · rw [x]
            simp only
            rw [hap]
            exact .inl ⟨_,k',rfl,by omega,g2,by rw [Typ.a1s]; simp only [a06,a3u]; omega,.func args t h4 g4⟩
          · rw [x]
            exact .inr ⟨_,k',rfl⟩
        · rw [hw2]
          exact .inr ⟨_,q,rfl⟩
      rcases sg hl hlt size [41] (G6 _ _) with ⟨_,hlt2,hp2,_⟩ | ⟨_,hp2,_⟩
      · rw [hp2]
        simp only [a0E,Option.bind_some,Bool.not_true,cond_false]
        exact fin [] (k + 1 + 1) (by omega) hlt2 (by simp only [szT]; omega) (fun x hx=>by cases hx)
      · rw [hp2]
        simp only [Option.bind_some,Bool.not_false,cond_true]
        rcases types1 hl hc2 size (Φ:=d9.fs (a + 1)) (a + 1) (c:=k + 1) (fun q h1 h2=>IH q (a + 1) (by omega) h2 (by omega)) (k:=k + 1) (by omega) hlt (by omega) with
          ⟨t,k1,args,k2,y1,y2,y3,y5,y6,y7,y8⟩ | ⟨b,k2,y1⟩ | ⟨t,k1,b,k2,y1,y2,y3⟩
        · rw [y1]
          simp only [I6]
          rw [y2]
          simp only [Option.bind_some]
          rw [y3]
          simp only [a7K]
          rcases sg hl y6 size [41] (G6 _ _) with ⟨_,hlt2,_,hw2⟩ | ⟨_,_,hw2⟩
          · rw [hw2]
            simp only [I6,a0E]
            exact fin args (k2 + 1) (by omega) hlt2 (by omega) y8
          · rw [hw2]
            exact .inr ⟨_,k2,rfl⟩
        · rw [y1]
          exact .inr ⟨_,k2,rfl⟩
        · rw [y1]
          simp only [I6]
          rw [y2]
          simp only [Option.bind_some]
          rw [y3]
          exact .inr ⟨_,k2,rfl⟩
    · rw [hp]
      simp only [Option.bind_some,Bool.not_false,cond_true]
      have hpa:∀ q:Int,(d9.fs (a + 1)).J2 false l q size = G9 a (d9.fs a) false l q size:=fun _=>rfl
      rw [hpa]
      rcases path1 hl hc2 size (R:=R) (a:=a) (k:=k) (by omega) hk hR IH with ⟨t,k',x,g⟩ | ⟨b,k',x⟩
      · rw [x]
        exact .inl ⟨t,k',rfl,g⟩
      · rw [x]
        exact .inr ⟨b,k',rfl⟩
theorem typ1:∀ (R n k:Nat),4 * R + l.length + 10 <= n -> k <= l.length -> l.length - k <= R -> Sm l k ((d9.fs n).j4 l k size)
 | 0,n,k,h1,h3,h4=>b1x hl hc2 size h1 h3 h4 fun q _ g1 g2=>by omega
 | R + 1,n,k,h1,h3,h4=>b1x hl hc2 size h1 h3 h4 fun q m g1 g2 g3=>typ1 R m q (by omega) g2 (by omega)
end
end Go.Proofs.YtamfchbgonekeaaGreatDoor
namespace Go.Proofs.YtamfchbgonekeaaGreatDoor
open Go Go.Vm
theorem Typ.a4k (x:Typ):1 <= x.sz:=by rw [x.a1s]; omega
theorem b1r:∀ {l:List Typ} {i:Nat} (h:i < l.length),szT (l.take (i + 1)) = szT (l.take i) + l[i].sz
 | y :: r,0,h=>by simp [szT]
 | y :: r,i + 1,h=>by
  have:=b1r (l:=r) (i:=i) (by simpa using h)
  simp only [List.take_succ_cons,szT,List.getElem_cons_succ]
  omega
theorem a7b:∀ (l:List Typ) (i:Nat),szT (l.take i) <= szT l
 | [],i=>by simp
 | y :: r,0=>by simp [szT]
 | y :: r,i + 1=>by
  have:=a7b r i
  simp only [List.take_succ_cons,szT]
  omega
theorem b3f {n:Nat} {t:Typ} {Φ:A9} (hsz:t.sz <= 3000) (hΦ:∀ x ∈ t.args,Φ.J6 x = some (x.sz:Int)) :
  ∀ (m i:Nat),i <= t.args.length -> t.args.length - i < m -> N8 n Φ t m ((1 + szT (t.args.take i):Nat):Int) (i:Int) = some (t.sz:Int)
 | 0,i,h1,h2=>by omega
 | m + 1,i,h1,h2=>by
  have hs:=t.a1s
  have hl:=a1b t.args
  simp only [N8]
  by_cases hi:i < t.args.length
  ·have e:=b1r hi
   have e2:=a7b t.args (i + 1)
   rw [a3Z (by omega),cond_true,a5c hi,Option.bind_some,hΦ _ (List.getElem_mem hi),Option.bind_some,a5u (by omega) (by omega),a5u (by omega) (by omega)]
   have h:=b3f (n:=n) hsz hΦ m (i + 1) hi (by omega)
   rw [e] at h
   rw [show ((1 + szT (t.args.take i):Nat):Int) + ((t.args[i].sz:Nat):Int) = ((1 + (szT (t.args.take i) + t.args[i].sz):Nat):Int) from by omega]
   exact h
  ·rw [a3z (by omega),cond_false]
   rw [List.take_of_length_le (by omega),hs]
theorem ts_ok:∀ (k:Nat) (t:Typ) (n:Nat),t.sz <= k -> t.sz <= 3000 -> t.sz + 1 <= n -> J6 n t = some (t.sz:Int)
 | 0,t,n,h1,h2,h3=>by have:=t.a4k; omega
 | k + 1,t,0,h1,h2,h3=>by omega
 | k + 1,t,n + 1,h1,h2,h3=>by
  have hs:=t.a1s
  have hl:=a1b t.args
  show X4 n (A9.fs n) t = _
  unfold X4
  have g:N8 n (A9.fs n) t n 1 0 = some (t.sz:Int):=by
   have:=b3f (n:=n) (t:=t) (Φ:=A9.fs n) h2 (fun x hx=>ts_ok k x n (by have:=R7 hx; omega) (by have:=R7 hx; omega) (by have:=R7 hx; omega)) n 0 (Nat.zero_le _) (by omega)
   simpa [szT] using this
  rw [g]; rfl
theorem b2N {n:Nat} {l:List Typ} {Φ:o9} (hlen:l.length <= 3000) (hΦ:∀ y ∈ l,Φ.K6 y y = some true):∀ (m i:Nat),i <= l.length -> l.length - i < m -> O6 n Φ l l m (i:Int) = some (.brk ())
 | 0,i,h1,h2=>by omega
 | m + 1,i,h1,h2=>by
  simp only [O6]
  by_cases hi:i < l.length
  ·rw [a3Z (by omega),cond_true,a5c hi,Option.bind_some,Option.bind_some,hΦ _ (List.getElem_mem hi),Option.bind_some]
   simp only [Bool.not_true,cond_false]
   rw [a5u (by omega) (by omega)]
   exact b2N (n:=n) hlen hΦ m (i + 1) hi (by omega)
  ·rw [a3z (by omega),cond_false]
theorem et_ok:∀ (k:Nat) (t:Typ) (n:Nat),t.sz <= k -> t.sz <= 3000 -> 2 * t.sz + 1 <= n -> (o9.fs n).K6 t t = some true
 | 0,t,n,h1,h2,h3=>by have:=t.a4k; omega
 | k + 1,t,0,h1,h2,h3=>by omega
 | k + 1,t,1,h1,h2,h3=>by have:=t.a4k; omega
 | k + 1,t,n + 2,h1,h2,h3=>by
  have hs:=t.a1s
  have hl:=a1b t.args
  show a0d (n + 1) (o9.fs (n + 1)) t t = some true
  unfold a0d
  have hg:(o9.fs (n + 1)).V3 t.args t.args = some true:=by
   show Y4 n (o9.fs n) t.args t.args = some true
   unfold Y4
   rw [U3 rfl]
   simp only [Bool.not_true,cond_false]
   have h:O6 n (o9.fs n) t.args t.args n 0 = some (.brk ()):=b2N (by omega) (fun y hy=>et_ok k y n (by have:=R7 hy; omega) (by have:=R7 hy; omega) (by have:=R7 hy; omega)) n 0 (Nat.zero_le _) (by omega)
   rw [h]; rfl
  rw [U3 rfl,a3R,U3 rfl,cond_true,cond_true,cond_true,hg]
  rfl
theorem b3a {α:Type} {l:List α} {i j:Nat} (h:i <= j) (h2:j <= l.length):a8L l (i:Int) (j:Int) = some ((l.take j).drop i):=by
 have:inI (i:Int) (j:Int) l.length = true:=by simp [inI,h,h2]
 simp [a8L,this]
def jo:List (List (Int × Str)) -> List (Int × Str)
 | []=>[]
 | [a]=>a
 | a :: b :: r=>a ++ ((8,[44]) :: jo (b :: r))
def an (ws:List (List (Int × Str))):List (Int × Str):=match ws with
 | []=>[]
 | _ :: _=>(8,[60]) :: (jo ws ++ [(8,[62])])
def wk (k:Int) (s:Str) (ws:List (List (Int × Str))):List (Int × Str) :=
 if k = 1 then [(2,[73,110,116])] else if k = 2 then [(2,[66,111,111,108])] else if k = 3 then [(2,[84,101,120,116])] else if k = 4 then [(2,[85,110,105,116])] else
 if k = 5 then (2,[65,114,114,97,121]) :: an ws else if k = 11 then (2,[87,101,97,107]) :: an ws else if k = 9 then [(9,[97,110,121]),(2,s)] else if k = 8 then jo ws ++ [(8,[46]),(2,s)] else
 if k = 10 then (8,[40]) :: (jo (ws.take (ws.length - 1)) ++ ((8,[41]) :: (8,[45,62]) :: jo (ws.drop (ws.length - 1)))) else (2,s) :: an ws
mutual
def W:Typ -> List (Int × Str)
 | ⟨k,s,_,a⟩=>wk k s (WW a)
def WW:List Typ -> List (List (Int × Str))
 | []=>[]
 | t :: r=>W t :: WW r
end
theorem W_eq (t:Typ):W t = wk t.kind t.name (WW t.args):=by cases t; rw [W]
theorem a3L:∀ l:List Typ,WW l = l.map W
 | []=>by rw [WW]; rfl
 | t :: r=>by rw [WW,a3L r]; rfl
def a8M (ws:List (List (Int × Str))):Nat:=(ws.map fun a=>a.length + 1).sum
theorem a6A (a:List (Int × Str)) (r:List (List (Int × Str))):a8M (a :: r) = a.length + 1 + a8M r:=by simp [a8M]
theorem b2y (ws:List (List (Int × Str))) (i:Nat):a8M (ws.take i) + a8M (ws.drop i) = a8M ws:=by
 unfold a8M
 rw [<- List.sum_append,<- List.map_append,List.take_append_drop]
theorem a3X:∀ ws,(jo ws).length <= a8M ws
 | []=>by simp [jo]
 | [a]=>by simp only [jo,a6A]; omega
 | a :: b :: r=>by
  have:=a3X (b :: r)
  simp only [jo,List.length_append,List.length_cons]
  rw [a6A a]; omega
theorem an_len (ws:List (List (Int × Str))):(an ws).length <= a8M ws + 2:=by
 cases ws with
 | nil=>simp [an]
 | cons a r=>have:=a3X (a :: r); simp only [an,List.length_cons,List.length_append,List.length_nil]; omega
theorem sumW:∀ a:List Typ,(∀ x ∈ a,(W x).length + 1 <= 6 * x.sz) -> a8M (WW a) <= 6 * szT a
 | [],_=>by rw [WW]; simp [a8M]
 | x :: r,h=>by
  have h1:=sumW r fun y hy=>h y (by simp [hy])
  have h2:=h x (by simp)
  rw [WW,a6A]
  simp only [szT]; omega
theorem a7F:∀ (N:Nat) (t:Typ),t.sz <= N -> (W t).length + 1 <= 6 * t.sz
 | 0,t,h=>by have:=t.a4k; omega
 | N + 1,t,h=>by
  have hs:=t.a1s
  have h1:=sumW t.args fun x hx=>a7F N x (by have:=R7 hx; omega)
  have h2:=an_len (WW t.args)
  have h3:=a3X (WW t.args)
  have h4:=a3X ((WW t.args).take ((WW t.args).length - 1))
  have h5:=a3X ((WW t.args).drop ((WW t.args).length - 1))
  have h6:=b2y (WW t.args) ((WW t.args).length - 1)
  rw [W_eq]
  unfold wk
  repeat' split
  all_goals simp only [List.length_cons,List.length_append,List.length_nil]
  all_goals omega
def sn (p:List (Int × Str)):List Str:=p.map Prod.snd
theorem sn_app (a b:List (Int × Str)):sn (a ++ b) = sn a ++ sn b:=by simp [sn]
theorem b0H (a:Int × Str) (b:List (Int × Str)):sn (a :: b) = a.2 :: sn b:=rfl
theorem a0N {l ws:List Str} (h:ws.length + l.length <= 1000000):p9 l ws = some (ws ++ l):=by
 unfold p9
 rw [a3N (by omega)]; rfl
theorem b27 {n:Nat} {Φ:j3} {l:List Typ} (hl:l.length <= 100000):∀ (rest pre:List Typ) (m:Nat) (ws:List Str),l = pre ++ rest -> rest.length < m ->
  (∀ x ∈ rest,∀ us:List Str,us.length + 8 * x.sz <= 500000 -> Φ.F8 x us = some (us ++ sn (W x))) -> ws.length + 8 * szT rest + 1 <= 500000 ->
  J5 n Φ l m pre.length ws = some (ws ++ sn (match rest with | []=>[] | _ :: _=>(if pre.length = 0 then [] else [(8,[44])]) ++ jo (WW rest)))
 | rest,pre,0,ws,_,h,_,_=>absurd h (by omega)
 | [],pre,m + 1,ws,e,_,_,_=>by
  rw [J5,a3z (by rw [e,List.append_nil]; omega),cond_false]; simp [sn]
 | t :: r,pre,m + 1,ws,e,hm,hΦ,hb=>by
  have hln:l.length = pre.length + (r.length + 1):=by rw [e]; simp
  have hi:pre.length < l.length:=by omega
  have hx:idx' l (pre.length:Int) = some t:=by rw [a5c hi]; subst e; simp
  have hW:=a7F _ t (Nat.le_refl _)
  simp only [szT] at hb
  have hz:=t.a4k
  have hin:∀ {ρ:Type} (k:List Str -> Option ρ),Option.bind (α:=List Str) (cond (ltB 0 (pre.length:Int)) ((p9 ([[44]]:List Str) ws).bind fun words4=>some words4) (some ws)) k = k (ws ++ sn (if pre.length = 0 then [] else [(8,[44])])):=by
   intro ρ k
   by_cases h0:pre.length = 0
   ·rw [a3z (by omega),if_pos h0]; simp [sn]
   ·rw [a3Z (by omega),if_neg h0,cond_true,a0N (by simp only [List.length_cons,List.length_nil]; omega)]; rfl
  rw [J5,a3Z (by omega),cond_true,hx,Option.bind_some,hin]
  have hl1:(ws ++ sn (if pre.length = 0 then [] else [(8,[44])])).length <= ws.length + 1:=by split <;> simp [sn]
  rw [hΦ t (by simp) _ (by omega),Option.bind_some,a2T (by omega)]
  have ih:=b27 (n:=n) hl r (pre ++ [t]) m (ws ++ sn (if pre.length = 0 then [] else [(8,[44])]) ++ sn (W t)) (by rw [e]; simp) (by simp only [List.length_cons] at hm; omega) (fun x hx=>hΦ x (by simp [hx])) (by
   rw [List.length_append]
   have:(sn (W t)).length = (W t).length:=by simp [sn]
   omega)
  rw [List.length_append] at ih
  have e2:((pre.length + [t].length:Nat):Int) = ((pre.length + 1:Nat):Int):=rfl
  rw [e2] at ih
  rw [ih]
  congr 1
  cases r with
  | nil=>simp [sn,WW,jo]
  | cons u r=>simp [sn,WW,jo]
theorem pr:∀ (N:Nat) (t:Typ) (n:Nat) (ws:List Str),t.sz <= N -> 3 * t.sz + 4 <= n -> ws.length + 8 * t.sz <= 500000 -> (j3.fs n).F8 t ws = some (ws ++ sn (W t))
 | 0,t,n,ws,h,_,_=>by have:=t.a4k; omega
 | N + 1,t,n,ws,h,hn,hb=>by
  have hs:=t.a1s
  have hsl:=a1b t.args
  obtain ⟨q,rfl⟩:∃ q,n = q + 3:=⟨n - 3,by omega⟩
  have hlist:∀ (q':Nat) (a:List Typ) (us:List Str),q <= q' -> (∀ x ∈ a,x ∈ t.args) -> szT a <= szT t.args -> us.length + 8 * szT a + 1 <= 500000 -> (j3.fs (q' + 1)).F7 a us = some (us ++ sn (jo (WW a))):=by
   intro q' a us h1 h2 h3 h4
   have hal:=a1b a
   have g:=b27 (n:=q') (Φ:=j3.fs q') (l:=a) (by omega) a [] q' us rfl (by omega) (fun x hx vs hv=>pr N x q' vs (by have:=R7 (h2 x hx); omega) (by have:=R7 (h2 x hx); omega) hv) h4
   show U6 q' (j3.fs q') a us = _
   unfold U6
   have g:J5 q' (j3.fs q') a q' 0 us = _:=g
   rw [g]
   cases a with
   | nil=>simp [WW,jo,sn]
   | cons x r=>rfl
  have hargs:∀ us:List Str,us.length + 8 * szT t.args + 2 <= 500000 -> (j3.fs (q + 2)).F9 t.args us = some (us ++ sn (an (WW t.args))):=by
   intro us h4
   show P9 (q + 1) (j3.fs (q + 1)) t.args us = _
   unfold P9
   have hjl:=a3X (WW t.args)
   have hsw:=sumW t.args fun x hx=>a7F _ x (Nat.le_refl _)
   cases ha:t.args with
   | nil=>rw [a3z (by simp),cond_false]; simp [WW,an,sn]
   | cons x r =>
    rw [<- ha]
    rw [a3Z (by rw [ha]; simp only [List.length_cons]; omega),cond_true,a0N (by simp only [List.length_cons,List.length_nil]; omega),Option.bind_some,
     hlist q t.args _ (Nat.le_refl _) (fun x hx=>hx) (Nat.le_refl _) (by simp only [List.length_append,List.length_cons,List.length_nil]; omega),Option.bind_some,
     a0N (by simp only [List.length_append,List.length_cons,List.length_nil,sn,List.length_map]; omega)]
    rw [ha]
    simp [WW,an,sn]
  have hjl:=a3X (WW t.args)
  have hsw:=sumW t.args fun x hx=>a7F _ x (Nat.le_refl _)
  show R6 (q + 2) (j3.fs (q + 2)) t ws = _
  unfold R6
  rw [W_eq]
  unfold wk
  by_cases k1:t.kind = 1
  ·rw [U3 k1,cond_true,if_pos k1,a0N (by simp only [List.length_cons,List.length_nil]; omega)]; rfl
  rw [a0U k1,cond_false,if_neg k1]
  by_cases k2:t.kind = 2
  ·rw [U3 k2,cond_true,if_pos k2,a0N (by simp only [List.length_cons,List.length_nil]; omega)]; rfl
  rw [a0U k2,cond_false,if_neg k2]
  by_cases k3:t.kind = 3
  ·rw [U3 k3,cond_true,if_pos k3,a0N (by simp only [List.length_cons,List.length_nil]; omega)]; rfl
  rw [a0U k3,cond_false,if_neg k3]
  by_cases k4:t.kind = 4
  ·rw [U3 k4,cond_true,if_pos k4,a0N (by simp only [List.length_cons,List.length_nil]; omega)]; rfl
  rw [a0U k4,cond_false,if_neg k4]
  by_cases k5:t.kind = 5
  ·rw [U3 k5,cond_true,if_pos k5,a0N (by simp only [List.length_cons,List.length_nil]; omega),Option.bind_some,hargs _ (by simp only [List.length_append,List.length_cons,List.length_nil]; omega),Option.bind_some,b0H,List.append_assoc]; rfl
  rw [a0U k5,cond_false,if_neg k5]
  by_cases k11:t.kind = 11
  ·rw [U3 k11,cond_true,if_pos k11,a0N (by simp only [List.length_cons,List.length_nil]; omega),Option.bind_some,hargs _ (by simp only [List.length_append,List.length_cons,List.length_nil]; omega),Option.bind_some,b0H,List.append_assoc]; rfl
  rw [a0U k11,cond_false,if_neg k11]
  by_cases k9:t.kind = 9
  ·rw [U3 k9,cond_true,if_pos k9,a0N (by simp only [List.length_cons,List.length_nil]; omega)]; rfl
  rw [a0U k9,cond_false,if_neg k9]
  by_cases k8:t.kind = 8
  ·rw [U3 k8,cond_true,if_pos k8,hlist (q + 1) t.args ws (by omega) (fun x hx=>hx) (Nat.le_refl _) (by omega),Option.bind_some,a0N (by simp only [List.length_append,List.length_cons,List.length_nil,sn,List.length_map]; omega),Option.bind_some,sn_app,List.append_assoc]; rfl
  rw [a0U k8,cond_false,if_neg k8]
  by_cases k10:t.kind = 10
  ·have hmx:max (w64 ((t.args.length:Int) - 1)) 0 = ((t.args.length - 1:Nat):Int):=by
    rw [a5u (by omega) (by omega),Int.max_def]
    split <;> omega
   have hwl:(WW t.args).length = t.args.length:=by rw [a3L,List.length_map]
   have ht1:∀ x ∈ t.args.take (t.args.length - 1),x ∈ t.args:=fun x hx=>List.mem_of_mem_take hx
   have ht2:∀ x ∈ t.args.drop (t.args.length - 1),x ∈ t.args:=fun x hx=>List.mem_of_mem_drop hx
   have hsz:szT (t.args.take (t.args.length - 1)) + szT (t.args.drop (t.args.length - 1)) = szT t.args:=by rw [<- a06,List.take_append_drop]
   have hj1:=a3X (WW (t.args.take (t.args.length - 1)))
   have hs1:=sumW (t.args.take (t.args.length - 1)) fun x hx=>a7F _ x (Nat.le_refl _)
   have s1:a8L t.args 0 ((t.args.length - 1:Nat):Int) = some (t.args.take (t.args.length - 1)):=by
    rw [show (0:Int) = ((0:Nat):Int) from rfl,b3a (by omega) (by omega)]; rfl
   have s2:a8L t.args ((t.args.length - 1:Nat):Int) (t.args.length:Int) = some (t.args.drop (t.args.length - 1)):=by
    rw [b3a (by omega) (Nat.le_refl _),List.take_length]
   rw [U3 k10,cond_true,if_pos k10,a0N (by simp only [List.length_cons,List.length_nil]; omega),Option.bind_some,hmx,s1,Option.bind_some,
    hlist (q + 1) _ _ (by omega) ht1 (by omega) (by simp only [List.length_append,List.length_cons,List.length_nil]; omega),Option.bind_some,
    a0N (by simp only [List.length_append,List.length_cons,List.length_nil,sn,List.length_map]; omega),Option.bind_some,s2,Option.bind_some,
    hlist (q + 1) _ _ (by omega) ht2 (by omega) (by simp only [List.length_append,List.length_cons,List.length_nil,sn,List.length_map]; omega),Option.bind_some]
   rw [hwl,a3L,a3L,a3L,List.map_take,List.map_drop]
   simp [sn]
  rw [a0U k10,cond_false,if_neg k10,a0N (by simp only [List.length_cons,List.length_nil]; omega),Option.bind_some,hargs _ (by simp only [List.length_append,List.length_cons,List.length_nil]; omega),Option.bind_some,b0H,List.append_assoc]; rfl
theorem a4g {t:Typ} (h:t.sz <= 1000) (h8:(Sc.a1A (W t)).length <= 1000000):S9 20000 t = some (Sc.a1A (W t)):=by
 have hW:=a7F _ t (Nat.le_refl _)
 have e:F8 20000 t [] = some (sn (W t)):=pr t.sz t 20000 [] (Nat.le_refl _) (by omega) (by simp; omega)
 have ej:Lib.join (sn (W t)) [32] = Sc.a1A (W t):=rfl
 unfold S9 Y8 joinG
 rw [e,Option.bind_some,ej,a8c (by simp [sn]; omega),a8c (by omega)]
 rfl
def nd (r:List (Int × Str)):Prop:=(∀ q,r ≠ (8,[46]) :: q) /\ (∀ q,r ≠ (8,[60]) :: q)
theorem a7Y {l:List Tok} {k:Nat} {a b:List (Int × Str)} (h:kt (l.drop k) = a ++ b) (hk:k <= l.length):k + a.length <= l.length:=by
 have:=congrArg List.length h
 simp only [kt,List.length_map,List.length_drop,List.length_append] at this
 omega
theorem a5D {l:List Tok} {k:Nat} {a b:List (Int × Str)} (h:kt (l.drop k) = a ++ b):kt (l.drop (k + a.length)) = b:=by
 have e:kt (l.drop (k + a.length)) = (kt (l.drop k)).drop a.length:=by simp [kt,List.drop_drop]
 rw [e,h,List.drop_left]
section
variable {l:List Tok} (hl:l.length <= 3000) (size:Int)
include hl
theorem tk_t {k:Nat} {s:Str} {r:List (Int × Str)} (hs:eqS s [] = false) (h:kt (l.drop k) = (8,s) :: r):D7 s l k size = some (true,((k + 1:Nat):Int)) /\ F5 s l k size = some (.ok ((k + 1:Nat):Int)):=by
 obtain ⟨hk,h1,h2,_⟩:=a15 h
 have ht:isT l 8 s k = true:=by unfold isT; rw [List.getElem?_eq_getElem hk]; simp only; rw [U3 h1,eqS_t h2]; rfl
 rcases sg hl (Nat.le_of_lt hk) size s hs with ⟨_,_,h3,h4⟩ | ⟨h3,_⟩
 ·exact ⟨h3,h4⟩
 ·rw [ht] at h3; cases h3
theorem tk_f {k:Nat} (hk:k <= l.length) {s:Str} (hs:eqS s [] = false) (h:∀ r,kt (l.drop k) ≠ (8,s) :: r):isT l 8 s k = false /\ D7 s l k size = some (false,(k:Int)):=by
 have ht:isT l 8 s k = false:=by
  cases hb:isT l 8 s k with
  | false=>rfl
  | true =>
   have hlt:=b0u hb
   unfold isT at hb
   rw [List.getElem?_eq_getElem hlt] at hb
   simp only [Bool.and_eq_true] at hb
   refine absurd ?_ (h (kt (l.drop (k + 1))))
   rw [List.drop_eq_getElem_cons hlt]
   show (_,_) :: _ = _
   rw [eqB_i hb.1,a6L hb.2]; rfl
 rcases sg hl hk size s hs with ⟨h3,_⟩ | ⟨_,h3,_⟩
 ·rw [ht] at h3; cases h3
 ·exact ⟨ht,h3⟩
theorem ky_t {k:Nat} {s:Str} {r:List (Int × Str)} (hs:eqS s [] = false) (h:kt (l.drop k) = (9,s) :: r):J8 s l k size = some (true,((k + 1:Nat):Int)):=by
 obtain ⟨hk,h1,h2,_⟩:=a15 h
 have ht:isT l 9 s k = true:=by unfold isT; rw [List.getElem?_eq_getElem hk]; simp only; rw [U3 h1,eqS_t h2]; rfl
 rcases ky hl (Nat.le_of_lt hk) size s hs with ⟨_,_,h3⟩ | ⟨h3,_⟩
 ·exact h3
 ·rw [ht] at h3; cases h3
theorem ky_f {k:Nat} (hk:k <= l.length) {s:Str} (hs:eqS s [] = false) (h:∀ r,kt (l.drop k) ≠ (9,s) :: r):J8 s l k size = some (false,(k:Int)):=by
 have ht:isT l 9 s k = false:=by
  cases hb:isT l 9 s k with
  | false=>rfl
  | true =>
   have hlt:=b0u hb
   unfold isT at hb
   rw [List.getElem?_eq_getElem hlt] at hb
   simp only [Bool.and_eq_true] at hb
   refine absurd ?_ (h (kt (l.drop (k + 1))))
   rw [List.drop_eq_getElem_cons hlt]
   show (_,_) :: _ = _
   rw [eqB_i hb.1,a6L hb.2]; rfl
 rcases ky hl hk size s hs with ⟨h3,_⟩ | ⟨_,h3⟩
 ·rw [ht] at h3; cases h3
 ·exact h3
theorem cp_t {k:Nat} {s:Str} {r:List (Int × Str)} (h:kt (l.drop k) = (2,s) :: r):D9 l k size = some (.ok s) /\ w64 ((k:Int) + 1) = ((k + 1:Nat):Int):=by
 obtain ⟨hk,h1,h2,_⟩:=a15 h
 have ht:isK l 2 k = true:=by unfold isK; rw [List.getElem?_eq_getElem hk]; exact U3 h1
 have hx:a6E l k = s:=by unfold a6E; rw [List.getElem?_eq_getElem hk]; exact h2
 rcases b2K hl (Nat.le_of_lt hk) size with ⟨_,_,h3,h4⟩ | ⟨h3,_⟩
 ·rw [hx] at h3; exact ⟨h3,h4⟩
 ·rw [ht] at h3; cases h3
def RdT (l:List Tok) (size:Int) (Φ:d9) (t:Typ):Prop:=∀ (k:Nat) (rest:List (Int × Str)),k <= l.length -> kt (l.drop k) = W t ++ rest -> nd rest -> Φ.j4 l k size = some (.ok (t,((k + (W t).length:Nat):Int)))
def fl (r:List Typ):List (Int × Str):=r.flatMap fun t=>(8,[44]) :: W t
omit hl in
theorem a7q (t:Typ) (r:List Typ):fl (t :: r) = (8,[44]) :: (W t ++ fl r):=by simp [fl]
omit hl in
theorem jo_fl (t:Typ):∀ r:List Typ,jo (WW (t :: r)) = W t ++ fl r
 | []=>by simp [WW,jo,fl]
 | u :: r=>by
  have ih:=jo_fl u r
  rw [WW] at ih ⊢
  rw [WW,jo,ih,a7q]
omit hl in
theorem nd_fl {r:List Typ} {rest:List (Int × Str)} (h:nd rest):nd (fl r ++ rest):=by
 cases r with
 | nil=>exact h
 | cons t r=>rw [a7q]; exact ⟨fun q e=>by simp at e,fun q e=>by simp at e⟩
theorem tail2 {Φ:d9} (n:Nat):∀ (r:List Typ) (m:Nat) (args:List Typ) (k:Nat) (rest:List (Int × Str)),(∀ x ∈ r,RdT l size Φ x) -> k <= l.length -> kt (l.drop k) = fl r ++ rest -> nd rest -> (∀ q,rest ≠ (8,[44]) :: q) -> r.length < m -> args.length + r.length <= 10000 ->
  z8 n Φ size l m args k = some (.brk (args ++ r,((k + (fl r).length:Nat):Int)))
 | r,0,args,k,rest,_,_,_,_,_,h,_=>absurd h (by omega)
 | [],m + 1,args,k,rest,_,hk,h,h1,h2,_,_=>by
  simp only [z8]
  rw [(tk_f hl size hk (G6 _ _) (fun q=>by rw [h]; exact h2 q)).2]
  simp [fl]
 | t :: r,m + 1,args,k,rest,hr,hk,h,h1,h2,hm,ha=>by
  rw [a7q,List.cons_append] at h
  simp only [z8]
  rw [(tk_t hl size (G6 _ _) h).1]
  simp only [Option.bind_some,cond_true]
  obtain ⟨hk1,_,_,h3⟩:=a15 h
  rw [List.append_assoc] at h3
  rw [hr t (by simp) (k + 1) _ hk1 h3 (nd_fl h1)]
  simp only [I6]
  simp only [List.length_cons] at hm ha
  rw [a3N (by simp only [List.length_cons,List.length_nil]; omega)]
  simp only [Option.bind_some]
  rw [tail2 n r m (args ++ [t]) (k + 1 + (W t).length) rest (fun x hx=>hr x (by simp [hx])) (a7Y h3 hk1) (a5D h3) h1 h2 (by omega) (by simp only [List.length_append,List.length_cons,List.length_nil]; omega),a7q]
  simp only [List.length_cons,List.length_append,List.append_assoc,List.cons_append,List.nil_append]
  congr 3
  omega
def fd (ds:List Str):List (Int × Str):=ds.flatMap fun d=>[(8,[46]),(2,d)]
omit hl in
theorem a7p (d:Str) (ds:List Str):fd (d :: ds) = (8,[46]) :: (2,d) :: fd ds:=by simp [fd]
theorem dots2 {Φ:d9} (n:Nat):∀ (ds:List Str) (m:Nat) (t:Typ) (k:Nat) (rest:List (Int × Str)),k <= l.length -> kt (l.drop k) = fd ds ++ rest -> nd rest -> ds.length < m ->
  E5 n Φ false size l m k t = some (.brk (((k + (fd ds).length:Nat):Int),dots t ds))
 | ds,0,t,k,rest,_,_,_,h=>absurd h (by omega)
 | [],m + 1,t,k,rest,hk,h,h1,_=>by
  simp only [E5,cond_true,cond_false]
  rw [a9A hl hk size 8 [46] (G6 _ _),(tk_f hl size hk (G6 _ _) (fun q=>by rw [h]; exact h1.1 q)).1]
  simp [fd,dots]
 | d :: ds,m + 1,t,k,rest,hk,h,h1,hm=>by
  rw [a7p,List.cons_append,List.cons_append] at h
  obtain ⟨hk1,g1,g2,h3⟩:=a15 h
  obtain ⟨hk2,_,_,h4⟩:=a15 h3
  have ht:isT l 8 [46] k = true:=by unfold isT; rw [List.getElem?_eq_getElem hk1]; simp only; rw [U3 g1,eqS_t g2]; rfl
  simp only [E5,cond_true,cond_false]
  rw [a9A hl hk size 8 [46] (G6 _ _),ht]
  simp only [Option.bind_some,cond_true]
  rw [a2T (by omega),(cp_t hl size h3).1,(cp_t hl size h3).2]
  simp only [I6]
  simp only [List.length_cons] at hm
  rw [dots2 n ds m ⟨8,d,0,[t]⟩ (k + 1 + 1) rest hk2 h4 h1 (by omega),a7p]
  simp only [List.length_cons,dots,List.foldl_cons]
  congr 3
  omega
omit hl in
theorem a7E (s:Str) (a:List Typ):W (a0R s a) = (2,s) :: an (WW a):=by
 rw [W_eq]
 unfold a0R kindOf
 simp only
 cases h0:eqB (List.length a:Int) 0 with
 | true =>
  have ha:a = []:=List.length_eq_zero_iff.1 (by have:=eqB_i h0; omega)
  subst ha
  have h1:eqB (List.length ([]:List Typ):Int) 1 = false:=a0U (by simp)
  rw [h1]
  cases i1:eqS s [73,110,116] with
  | true=>rw [a6L i1]; rfl
  | false =>
   cases i2:eqS s [66,111,111,108] with
   | true=>rw [a6L i2]; rfl
   | false =>
    cases i3:eqS s [84,101,120,116] with
    | true=>rw [a6L i3]; rfl
    | false =>
     cases i4:eqS s [85,110,105,116] with
     | true=>rw [a6L i4]; rfl
     | false =>
      simp only [Bool.true_and,Bool.false_and,cond_false]
      rw [U3 (a:=6) rfl]; rfl
 | false =>
  simp only [Bool.false_and,cond_false]
  cases h1:eqB (List.length a:Int) 1 with
  | true =>
   simp only [Bool.true_and]
   cases i5:eqS s [65,114,114,97,121] with
   | true=>rw [a6L i5]; rfl
   | false =>
    cases i6:eqS s [87,101,97,107] with
    | true=>rw [a6L i6]; rfl
    | false =>
     simp only [cond_false]
     rw [U3 (a:=6) rfl]; rfl
  | false =>
   simp only [Bool.false_and,cond_false]
   rw [U3 (a:=6) rfl]; rfl
omit hl in
theorem a6f:∀ (ds:List Str) (b:Typ),W (dots b ds) = W b ++ fd ds
 | [],b=>by simp [dots,fd]
 | d :: ds,b=>by
  have ih:=a6f ds ⟨8,d,0,[b]⟩
  have e:W ⟨8,d,0,[b]⟩ = W b ++ [(8,[46]),(2,d)]:=by rw [W_eq]; simp [wk,WW,jo]
  show W (dots ⟨8,d,0,[b]⟩ ds) = _
  rw [ih,e,a7p]; simp
omit hl in
theorem b0j:∀ (ds:List Str) (b:Typ),(dots b ds).sz = b.sz + ds.length
 | [],b=>rfl
 | d :: ds,b=>by
  have ih:=b0j ds ⟨8,d,0,[b]⟩
  show (dots ⟨8,d,0,[b]⟩ ds).sz = _
  rw [ih,Typ.a1s]; simp only [a3u,List.length_cons]; omega
omit hl in
theorem b2H (s:Str) (a:List Typ):(a0R s a).sz = 1 + szT a:=Typ.a1s _
omit hl in
theorem nd_fd {ds:List Str} {rest:List (Int × Str)} (h:nd rest):∀ q,fd ds ++ rest ≠ (8,[60]) :: q:=by
 cases ds with
 | nil=>exact h.2
 | cons d r=>rw [a7p]; intro q e; simp at e
theorem path2 {Φ:d9} {n:Nat} {s:Str} {args:List Typ} {ds:List Str} (hn:args.length + ds.length < n) (IH:∀ x ∈ args,RdT l size Φ x) {k:Nat} {rest:List (Int × Str)} (hk:k <= l.length) (ha:args.length <= 5000)
    (h:kt (l.drop k) = W (dots (a0R s args) ds) ++ rest) (hr:nd rest):G9 n Φ false l k size = some (.ok (dots (a0R s args) ds,((k + (W (dots (a0R s args) ds)).length:Nat):Int))):=by
  rw [a6f,a7E,List.cons_append,List.cons_append] at h
  obtain ⟨hk1,_,_,h1⟩:=a15 h
  have hl2:(W (dots (a0R s args) ds)).length = 1 + (an (WW args)).length + (fd ds).length:=by rw [a6f,a7E]; simp; omega
  unfold G9
  rw [(cp_t hl size h).1,(cp_t hl size h).2]
  simp only [I6]
  have fin:∀ (q:Nat),q <= l.length -> kt (l.drop q) = fd ds ++ rest -> q = k + 1 + (an (WW args)).length ->
      ((a0a s args).bind fun r23=>a0E (α:=Int × Typ) (E5 n Φ false size l n q r23) fun (a9d,n550)=>some (.ok (n550,a9d))) = some (.ok (dots (a0R s args) ds,((k + (W (dots (a0R s args) ds)).length:Nat):Int)):Rs (Typ × Int) (Int × Int)):=by
    intro q g1 g2 g3
    rw [b1h,Option.bind_some,dots2 hl size n ds n (a0R s args) q rest g1 g2 hr (by omega),hl2,g3]
    simp only [a0E]
    congr 3
    omega
  cases args with
  | nil =>
    have ea:an (WW ([]:List Typ)) = []:=by simp [WW,an]
    rw [ea] at h1 fin
    have h1:kt (l.drop (k + 1)) = fd ds ++ rest:=h1
    rw [(tk_f hl size hk1 (G6 _ _) (fun q=>by rw [h1]; exact nd_fd hr q)).2]
    simp only [Option.bind_some,cond_false,a0E]
    exact fin (k + 1) hk1 h1 rfl
  | cons t r =>
    have ea:an (WW (t :: r)) = (8,[60]) :: (W t ++ fl r ++ [(8,[62])]):=by
      rw [<- jo_fl,WW]; rfl
    rw [ea] at h1 fin
    rw [List.cons_append] at h1
    rw [(tk_t hl size (G6 _ _) h1).1]
    simp only [Option.bind_some,cond_true]
    obtain ⟨hk2,_,_,h2⟩:=a15 h1
    have h2:kt (l.drop (k + 1 + 1)) = W t ++ (fl r ++ ((8,[62]) :: (fd ds ++ rest))):=by rw [h2]; simp
    have nd1:nd ((8,[62]) :: (fd ds ++ rest)):=⟨fun q e=>by simp at e,fun q e=>by simp at e⟩
    rw [IH t (by simp) (k + 1 + 1) _ hk2 h2 (nd_fl nd1)]
    simp only [I6]
    rw [a3N (by simp)]
    simp only [Option.bind_some,List.nil_append,l5_eq]
    have h3:=a5D h2
    have h3k:=a7Y h2 hk2
    simp only [List.length_cons] at ha hn
    rw [tail2 hl size n r n [t] _ _ (fun x hx=>IH x (by simp [hx])) h3k h3 nd1 (fun q e=>by simp at e) (by omega) (by simp only [List.length_cons,List.length_nil]; omega)]
    simp only [a7K]
    have h4:=a5D h3
    have h4k:=a7Y h3 h3k
    rw [(tk_t hl size (G6 _ _) h4).2]
    simp only [I6,a0E]
    obtain ⟨h5k,_,_,h5⟩:=a15 h4
    exact fin _ h5k h5 (by simp only [List.length_cons,List.length_append,List.length_nil]; omega)
omit hl in
theorem W_hd {t:Typ} (h:Wf t):∃ p r,W t = p :: r /\ (p.1 = 2 ∨ p = (9,[97,110,121]) ∨ p = (8,[40])):=by
 cases h with
 | path s args ds h g hd=>rw [a6f,a7E]; exact ⟨_,_,rfl,.inl rfl⟩
 | any s h=>rw [W_eq]; exact ⟨_,_,rfl,.inr (.inl rfl)⟩
 | func args r g h=>rw [W_eq]; exact ⟨_,_,rfl,.inr (.inr rfl)⟩
omit hl in
theorem W_func (args:List Typ) (r:Typ):W ⟨10,[],0,args ++ [r]⟩ = (8,[40]) :: (jo (WW args) ++ ((8,[41]) :: (8,[45,62]) :: W r)):=by
 rw [W_eq]
 have e:WW (args ++ [r]) = WW args ++ [W r]:=by rw [a3L,a3L,List.map_append]; rfl
 show wk 10 [] (WW (args ++ [r])) = _
 rw [e]
 have e1:(WW args ++ [W r]).length - 1 = (WW args).length:=by simp
 unfold wk
 simp only [e1,List.take_left',List.drop_left',List.take_left,List.drop_left]
 rfl
theorem rd:∀ (N:Nat) (t:Typ) (n:Nat),t.sz <= N -> Wf t -> t.sz <= 4000 -> 2 * t.sz + 6 <= n -> RdT l size (d9.fs n) t
  | 0,t,n,h,_,_,_=>by have:=t.a4k; omega
  | N + 1,t,n,hN,hw,h4,hn=>by
    obtain ⟨a,rfl⟩:∃ q,n = q + 2:=⟨n - 2,by omega⟩
    intro k rest hk hkt hr
    show K7 (a + 1) (d9.fs (a + 1)) l k size = _
    unfold K7
    cases hw with
    | path s args ds hc g hd =>
      have hz:=b0j ds (a0R s args)
      have hz2:=b2H s args
      have hal:=a1b args
      have hd0:=hkt
      rw [a6f,a7E,List.cons_append,List.cons_append] at hd0
      rw [ky_f hl size hk (G6 _ _) (fun q e=>by rw [hd0] at e; simp at e)]
      simp only [Option.bind_some,cond_false]
      rw [(tk_f hl size hk (G6 _ _) (fun q e=>by rw [hd0] at e; simp at e)).2]
      simp only [Option.bind_some,Bool.not_false,cond_true]
      have hpa:∀ q:Int,(d9.fs (a + 1)).J2 false l q size = G9 a (d9.fs a) false l q size:=fun _=>rfl
      rw [hpa,path2 hl size (by omega) (fun x hx=>rd N x a (by have:=R7 hx; omega) (g x hx) (by have:=R7 hx; omega) (by have:=R7 hx; omega)) hk (by omega) hkt hr]
      rfl
    | any s hc =>
      have e:W ⟨9,s,0,[]⟩ = [(9,[97,110,121]),(2,s)]:=by rw [W_eq]; rfl
      rw [e] at hkt
      rw [ky_t hl size (G6 _ _) hkt]
      simp only [Option.bind_some,cond_true]
      obtain ⟨hk1,_,_,h1⟩:=a15 hkt
      rw [(cp_t hl size h1).1,(cp_t hl size h1).2,e]
      rfl
    | func args r g hr2 =>
      have hz:=Typ.a1s ⟨10,[],0,args ++ [r]⟩
      simp only [a06,a3u] at hz
      have hal:=a1b args
      rw [W_func] at hkt ⊢
      have h0:=hkt
      rw [List.cons_append] at h0
      rw [ky_f hl size hk (G6 _ _) (fun q e=>by rw [h0] at e; simp at e)]
      simp only [Option.bind_some,cond_false]
      rw [(tk_t hl size (G6 _ _) h0).1]
      simp only [Option.bind_some,Bool.not_true,cond_false]
      obtain ⟨hk1,_,_,h1⟩:=a15 h0
      have hrR:RdT l size (d9.fs (a + 1)) r:=rd N r (a + 1) (by omega) hr2 (by omega) (by omega)
      have fin:∀ (q:Nat),q <= l.length -> kt (l.drop q) = (8,[45,62]) :: (W r ++ rest) -> q = k + 1 + (jo (WW args)).length + 1 ->
          (I6 (F5 [45,62] l q size) (fun at31=>I6 ((d9.fs (a + 1)).j4 l at31 size) (fun (r32,at33)=>(app 56 args ([r32]:List Typ)).bind fun l34=>some (.ok ((⟨10,[],0,l34⟩:Typ),at33))) fun (at35,at36)=>some (.pan (at35,at36))) fun (at37,at38)=>some (.pan (at37,at38))) = some (.ok ((⟨10,[],0,args ++ [r]⟩:Typ),((k + ((8,[40]) :: (jo (WW args) ++ ((8,[41]) :: (8,[45,62]) :: W r)):List (Int × Str)).length:Nat):Int)):Rs (Typ × Int) (Int × Int)):=by
        intro q g1 g2 g3
        rw [(tk_t hl size (G6 _ _) g2).2]
        simp only [I6]
        obtain ⟨g4,_,_,g5⟩:=a15 g2
        rw [hrR (q + 1) rest g4 g5 hr]
        simp only
        rw [a3N (by simp only [List.length_cons,List.length_nil]; omega),Option.bind_some,g3]
        simp only [List.length_cons,List.length_append]
        congr 3
        omega
      cases args with
      | nil =>
        have h1:kt (l.drop (k + 1)) = (8,[41]) :: ((8,[45,62]) :: (W r ++ rest)):=by rw [h1]; simp [WW,jo]
        rw [(tk_t hl size (G6 _ _) h1).1]
        simp only [a0E,Option.bind_some,Bool.not_true,cond_false]
        obtain ⟨hk2,_,_,h2⟩:=a15 h1
        exact fin (k + 1 + 1) hk2 h2 (by simp [WW,jo])
      | cons t r0 =>
        have ej:jo (WW (t :: r0)) = W t ++ fl r0:=jo_fl t r0
        rw [ej] at h1 fin ⊢
        have h1:kt (l.drop (k + 1)) = W t ++ (fl r0 ++ ((8,[41]) :: (8,[45,62]) :: (W r ++ rest))):=by rw [h1]; simp
        obtain ⟨p,r1,hp1,hp2⟩:=W_hd (g t (by simp))
        rw [(tk_f hl size hk1 (G6 _ _) (fun q e=>by
          rw [h1,hp1,List.cons_append,List.cons.injEq] at e
          rw [e.1] at hp2
          simp at hp2)).2]
        simp only [Option.bind_some,Bool.not_false,cond_true]
        have IH:∀ x ∈ t :: r0,RdT l size (d9.fs (a + 1)) x:=fun x hx=>rd N x (a + 1) (by have:=R7 hx; omega) (g x hx) (by have:=R7 hx; omega) (by have:=R7 hx; omega)
        have nd1:nd ((8,[41]) :: (8,[45,62]) :: (W r ++ rest)):=⟨fun q e=>by simp at e,fun q e=>by simp at e⟩
        rw [IH t (by simp) (k + 1) _ hk1 h1 (nd_fl nd1)]
        simp only [I6]
        rw [a3N (by simp)]
        simp only [Option.bind_some,List.nil_append]
        have h3:=a5D h1
        have h3k:=a7Y h1 hk1
        simp only [List.length_cons] at hal
        rw [tail2 hl size (a + 1) r0 (a + 1) [t] _ _ (fun x hx=>IH x (by simp [hx])) h3k h3 nd1 (fun q e=>by simp at e) (by omega) (by simp only [List.length_cons,List.length_nil]; omega)]
        simp only [a7K]
        have h4:=a5D h3
        have h4k:=a7Y h3 h3k
        rw [(tk_t hl size (G6 _ _) h4).2]
        simp only [I6,a0E]
        obtain ⟨h5k,_,_,h5⟩:=a15 h4
        exact fin _ h5k h5 (by simp only [List.length_append]; omega)
end
theorem mem_jo {p:Int × Str}:∀ {ws:List (List (Int × Str))},p ∈ jo ws -> (∃ a ∈ ws,p ∈ a) ∨ p = (8,[44])
 | [],h=>by cases h
 | [a],h=>.inl ⟨a,by simp,h⟩
 | a :: b :: r,h=>by
  simp only [jo,List.mem_append,List.mem_cons] at h
  rcases h with h | h | h
  ·exact .inl ⟨a,by simp,h⟩
  ·exact .inr h
  ·rcases mem_jo h with ⟨c,h1,h2⟩ | h
   ·exact .inl ⟨c,by simp only [List.mem_cons] at h1 ⊢; exact .inr h1,h2⟩
   ·exact .inr h
def Ok (p:Int × Str):Prop:=Sc.WOk p /\ p.2.length <= 24
theorem a3j {s:Str} (h:Sc.a3V Sc.O7 s = true) (h2:s.length <= 24):Ok (8,s):=⟨.inr ⟨h,rfl⟩,h2⟩
theorem b2f {s:Str} (h:Sc.Cap s):Ok (2,s):=⟨.inl ⟨h.1,h.2.symm⟩,by
 have:=h.1.len
 simp only [ltB,decide_eq_false_iff_not] at this
 show s.length <= 24
 omega⟩
theorem ok_any:Ok (9,[97,110,121]):=⟨.inl ⟨⟨by decide,by decide,by decide,by simp [ltB]⟩,by simp [Sc.a1L,Sc.a3V,Sc.Y2]⟩,by decide⟩
theorem ok_jo {a:List Typ} (h:∀ x ∈ a,∀ p ∈ W x,Ok p):∀ p ∈ jo (WW a),Ok p:=by
 intro p hp
 rcases mem_jo hp with ⟨w,h1,h2⟩ | rfl
 ·rw [a3L] at h1
  obtain ⟨x,hx,rfl⟩:=List.mem_map.1 h1
  exact h x hx p h2
 ·exact a3j (by decide) (by decide)
theorem W_ok:∀ (N:Nat) (t:Typ),t.sz <= N -> Wf t -> ∀ p ∈ W t,Ok p
 | 0,t,h,_=>by have:=t.a4k; omega
 | N + 1,t,h,hw=>by
  cases hw with
  | path s args ds hc g hd =>
   have hz:=b0j ds (a0R s args)
   have hz2:=b2H s args
   have hj:=ok_jo (a:=args) fun x hx=>W_ok N x (by have:=R7 hx; omega) (g x hx)
   intro p hp
   rw [a6f,a7E] at hp
   simp only [List.cons_append,List.mem_cons,List.mem_append] at hp
   rcases hp with rfl | hp | hp
   ·exact b2f hc
   ·cases ha:WW args with
    | nil=>rw [ha] at hp; cases hp
    | cons x r =>
     rw [ha] at hp hj
     simp only [an,List.mem_cons,List.mem_append,List.not_mem_nil,or_false] at hp
     rcases hp with rfl | hp | rfl
     ·exact a3j (by decide) (by decide)
     ·exact hj p hp
     ·exact a3j (by decide) (by decide)
   ·simp only [fd,List.mem_flatMap,List.mem_cons,List.not_mem_nil,or_false] at hp
    obtain ⟨d,hd1,rfl | rfl⟩:=hp
    ·exact a3j (by decide) (by decide)
    ·exact b2f (hd d hd1)
  | any s hc =>
   intro p hp
   have e:W ⟨9,s,0,[]⟩ = [(9,[97,110,121]),(2,s)]:=by rw [W_eq]; rfl
   rw [e] at hp
   simp only [List.mem_cons,List.not_mem_nil,or_false] at hp
   rcases hp with rfl | rfl
   ·exact ok_any
   ·exact b2f hc
  | func args r g hr =>
   have hz:=Typ.a1s ⟨10,[],0,args ++ [r]⟩
   simp only [a06,a3u] at hz
   have hj:=ok_jo (a:=args) fun x hx=>W_ok N x (by have:=R7 hx; omega) (g x hx)
   intro p hp
   rw [W_func] at hp
   simp only [List.mem_cons,List.mem_append] at hp
   rcases hp with rfl | hp | rfl | rfl | hp
   ·exact a3j (by decide) (by decide)
   ·exact hj p hp
   ·exact a3j (by decide) (by decide)
   ·exact a3j (by decide) (by decide)
   ·exact W_ok N r (by omega) hr p hp
theorem b29:∀ ws:List (Int × Str),(∀ p ∈ ws,Ok p) -> (Sc.a1A ws).length <= 25 * ws.length
 | [],_=>by simp [Sc.a1A,List.intercalate]
 | p :: ws,h=>by
  have ih:=b29 ws fun q hq=>h q (by simp [hq])
  have h1:=(h p (by simp)).2
  rw [Sc.a9Q,List.length_append]
  cases ws with
  | nil=>simp; omega
  | cons q r=>simp only [List.length_cons] at ih ⊢; omega
theorem capL (s:Str):CapL (a5s (Sc.a0I s)):=by
 intro t ht h2
 cases hr:Sc.a0I s with
 | go x=>rw [hr] at ht; cases ht
 | err c a=>rw [hr] at ht; cases ht
 | done l =>
  rw [hr] at ht
  simp only [a5s] at ht
  obtain ⟨u,hu,rfl⟩:=List.mem_map.1 ht
  exact Sc.toks_cap hr u hu h2
theorem type_one (s:Str):∃ (t:Typ) (f:Flt),Z9 20000 s = some (t,f) /\ ((f.code = 0 /\ Wf t /\ t.sz <= 40) ∨ (f.code ≠ 0 /\ t = ⟨0,[],0,[]⟩)):=by
 have hs:a1B s = some (a5s (Sc.a0I s),a6D (Sc.a0I s),tokA (Sc.a0I s)):=rfl
 have hlen:=b1v s
 have hcap:=capL s
 unfold Z9 a1i
 rw [hs]
 simp only [Option.bind_some]
 rcases tok_code s with ⟨h1,h2⟩ | ⟨h1,h2⟩
 ·rw [h1,h2]
  generalize hL:a5s (Sc.a0I s) = l at hlen hcap
  rw [U3 (a:=(0:Int)) rfl]
  simp only [Bool.and_self,Bool.not_true,cond_false]
  unfold O8 a0s
  rcases typ1 hlen hcap (List.length s:Int) l.length 20000 0 (by omega) (Nat.zero_le _) (by omega) with ⟨t,k',a,g1,g2,g3,g4⟩ | ⟨b,k',a⟩
  ·have a:j4 20000 l 0 (List.length s:Int) = some (.ok (t,(k':Int))):=a
   rw [a]
   simp only [I6]
   rcases Nat.lt_or_ge k' l.length with h3 | h3
   ·rw [a3Z (by omega),cond_true,b0s hlen g2]
    simp only [I6,Option.bind_some]
    rw [show eqB 20 0 = false from a0U (by decide)]
    exact ⟨_,_,rfl,.inr ⟨by show ¬ (20:Int) = 0; decide,rfl⟩⟩
   ·rw [a3z (by omega),cond_false]
    simp only [I6,Option.bind_some]
    rw [show eqB (0:Int) 0 = true from U3 rfl]
    simp only [Bool.and_self,Bool.not_true,cond_false]
    rw [ts_ok t.sz t 20000 (Nat.le_refl _) (by omega) (by omega),Option.bind_some]
    by_cases h4:40 < t.sz
    ·rw [a3Z (by omega)]
     exact ⟨_,_,rfl,.inr ⟨by show ¬ (2:Int) = 0; decide,rfl⟩⟩
    ·rw [a3z (by omega)]
     exact ⟨_,_,rfl,.inl ⟨rfl,g4,by omega⟩⟩
  ·have a:j4 20000 l 0 (List.length s:Int) = some (.pan (b,(k':Int))):=a
   rw [a]
   simp only [I6,Option.bind_some]
   rw [show eqB 20 0 = false from a0U (by decide)]
   exact ⟨_,_,rfl,.inr ⟨by show ¬ (20:Int) = 0; decide,rfl⟩⟩
 ·rw [a0U h1]
  exact ⟨_,_,rfl,.inr ⟨h1,rfl⟩⟩
theorem kt_cv (l:List Sc.Tok):kt (l.map a6K) = Sc.KT l:=by simp [kt,Sc.KT,a6K,List.map_map,Function.comp_def]
theorem nd_nil:nd []:=⟨fun q e=>(by cases e),fun q e=>(by cases e)⟩
theorem say_ok {t:Typ} (hw:Wf t) (h:t.sz <= 40):(Sc.a1A (W t)).length <= 8000 /\ ∃ m,Sc.a0I (Sc.a1A (W t)) = .done m /\ kt (m.map a6K) = W t /\ 0 < m.length:=by
 have hW:=a7F _ t (Nat.le_refl _)
 have ho:=W_ok _ t (Nat.le_refl _) hw
 have hl:=b29 (W t) ho
 have h8:(Sc.a1A (W t)).length <= 8000:=by omega
 obtain ⟨m,h1,h2⟩:=Sc.say (fun p hp=>(ho p hp).1) (by omega) h8
 refine ⟨h8,m,h1,by rw [kt_cv]; exact h2,?_⟩
 obtain ⟨p,r,hp,_⟩:=W_hd hw
 have:=congrArg List.length h2
 rw [hp] at this
 simp only [Sc.KT,List.length_map,List.length_cons] at this
 omega
theorem read_ok {t:Typ} (hw:Wf t) (h:t.sz <= 40):Z9 20000 (Sc.a1A (W t)) = some (t,⟨0,0⟩):=by
 obtain ⟨h8,m,h1,h2,_⟩:=say_ok hw h
 have hs:a1B (Sc.a1A (W t)) = some (m.map a6K,0,0):=by unfold a1B; rw [h1]; rfl
 have hlen:=b1v (Sc.a1A (W t))
 rw [h1] at hlen
 simp only [a5s] at hlen
 unfold Z9 a1i
 rw [hs]
 simp only [Option.bind_some]
 generalize hL:m.map a6K = l at hlen h2
 generalize (List.length (Sc.a1A (W t)):Int) = size
 rw [U3 (a:=(0:Int)) rfl]
 simp only [Bool.and_self,Bool.not_true,cond_false]
 unfold O8 a0s
 have hll:l.length = (W t).length:=by rw [<- h2]; simp [kt]
 have a:=rd hlen size t.sz t 20000 (Nat.le_refl _) hw (by omega) (by omega) 0 [] (Nat.zero_le _) (by rw [List.append_nil,List.drop_zero]; exact h2) nd_nil
 have a:j4 20000 l 0 size = some (.ok (t,((0 + (W t).length:Nat):Int))):=a
 rw [a]
 simp only [I6]
 rw [a3z (by omega),cond_false]
 simp only [I6,Option.bind_some]
 rw [show eqB (0:Int) 0 = true from U3 rfl]
 simp only [Bool.and_self,Bool.not_true,cond_false]
 rw [ts_ok t.sz t 20000 (Nat.le_refl _) (by omega) (by omega),Option.bind_some,a3z (by omega)]
 rfl
theorem b3h (s:Str):V7 20000 s = some true:=by
 unfold V7 a3g
 rw [Option.bind_some]
 cases h:ltB 8200 (List.length s:Int) with
 | true=>rfl
 | false =>
  rw [cond_false]
  obtain ⟨t,f,h1,h2⟩:=type_one s
  rw [h1]
  simp only [Option.bind_some]
  rcases h2 with ⟨h2,h3,h4⟩ | ⟨h2,rfl⟩
  ·obtain ⟨h8,m,g1,g2,g3⟩:=say_ok h3 h4
   have hfit:a1M (Sc.a1A (W t)) = some true:=by
    have hs:a1B (Sc.a1A (W t)) = some (m.map a6K,0,0):=by unfold a1B; rw [g1]; rfl
    unfold a1M
    rw [a3z (by omega),cond_false,hs,Option.bind_some]
    simp only
    rw [a3Z (by rw [List.length_map]; omega)]
    rfl
   rw [a4g (by omega) (by omega)]
   simp only [Option.bind_some]
   rw [U3 h2,hfit,read_ok h3 h4]
   simp only [Option.bind_some,Bool.not_true,cond_false]
   rw [U3 (a:=(0:Int)) rfl,show K6 20000 t t = some true from et_ok t.sz t 20000 (Nat.le_refl _) (by omega) (by omega)]
   simp only [Option.bind_some,cond_true]
   rw [a4g (by omega) (by omega)]
   simp only [Option.bind_some]
   rw [a3R]
   rfl
  ·have e:W ⟨0,[],0,[]⟩ = [(2,[])]:=by rw [W_eq]; rfl
   have hz:(⟨0,[],0,[]⟩:Typ).sz <= 1000:=by rw [Typ.a1s]; simp [szT]
   rw [a4g hz (by rw [e]; simp [Sc.a1A,List.intercalate])]
   simp only [Option.bind_some]
   rw [a0U h2]
   rfl
end Go.Proofs.YtamfchbgonekeaaGreatDoor
namespace Go.Vm
open Go
variable {ρ ρ':Rho} {lab lab':Lab} {w w':World} {H:Hp}
theorem Rel.carry (hF:∀ b o x,a0m lab w b o x -> a0m lab' w' b o x) {v:V} {x:Value} (h:Rel ρ lab w v x):Rel ρ lab' w' v x:=by
 induction h with
 | undef x=>exact .undef x
 | bool b=>exact .bool b
 | int k n=>exact .int k n
 | str s=>exact .str s
 | nilptr=>exact .nilptr
 | ptr r off b o c h=>exact .ptr r off b o c h
 | cptr cells xs b o hl hc _ hnf ih=>exact .cptr cells xs b o hl (fun i x hx=>hF _ _ _ (hc i x hx)) ih hnf
 | slice ow n cells xs b o ao cap hl hn hb hz hc _ how h1 hnf ih=>exact .slice ow n cells xs b o ao cap hl hn hb hz (fun i x hx=>hF _ _ _ (hc i x hx)) ih how h1 hnf
 | rslice r off n wh base g ao cap h1 h2 h3 h4 h5=>exact .rslice r off n wh base g ao cap h1 h2 h3 h4 h5
 | func fn a c xs ys h1 h2 _ _ ih1 ih2=>exact .func fn a c xs ys h1 h2 ih1 ih2
 | nilFunc=>exact .nilFunc
 | iface t v x _ ih=>exact .iface t v x ih
 | nilIface=>exact .nilIface
 | opq m=>exact .opq m
 | agg cells xs h1 _ ih=>exact .agg cells xs h1 ih
 | tuple cells xs h1 _ ih=>exact .tuple cells xs h1 ih
theorem o8.carry (hF:∀ b o x,a0m lab w b o x -> a0m lab' w' b o x) {v:List V} {x:List Value} (h:o8 ρ lab w v x):o8 ρ lab' w' v x :=
 ⟨h.1,fun i v x hv hx=>(h.2 i v x hv hx).carry hF⟩
theorem Sim.relab (hS:Sim ρ lab H w) (hF:∀ b o x,a0m lab w b o x -> a0m lab' w' b o x) (hO:∀ b o k,U0 lab w k b o -> U0 lab' w' k b o /\ cellAt w' b o = cellAt w b o)
  (hl:∀ b o k,lab' b o = some k -> b < w'.heap.size):Sim ρ lab' H w' where
 row:=fun k cs hk=>by
  obtain ⟨b,o,xs,h1,h2,h3⟩:=hS.row k cs hk
  exact ⟨b,o,xs,h1,h2.carry hF,fun i x hx=>⟨(hO _ _ _ (h3 i x hx).1).1,(hO _ _ _ (h3 i x hx).1).2.trans (h3 i x hx).2⟩⟩
 grow:=fun k e cs hk=>by
  obtain ⟨base,c,xs,h1,h2,h3,h4,h8,h9,h5⟩:=hS.grow k e cs hk
  refine ⟨base,c,xs,h1,h2.carry hF,h3,h4,h8,h9,fun b o hb=>?_⟩
  obtain ⟨h6,h7⟩:=h5 b o hb
  refine ⟨fun i hi=>(hO _ _ _ (h6 i hi)).1,fun i x hx=>?_⟩
  have hi:i < c * e:=by
   have:i < xs.length:=by
    rcases Nat.lt_or_ge i xs.length with h | h
    ·exact h
    ·rw [List.getElem?_eq_none h] at hx; cases hx
   rw [h2.1] at this; omega
  exact (hO _ _ _ (h6 i hi)).2.trans (h7 i x hx)
 tip:=fun k e n hk=>by
  obtain ⟨ao,cap,h1,h2,h3,h4,h5⟩:=hS.tip k e n hk
  exact ⟨ao,cap,h1,h2,h3,h4,fun a ha=>⟨(h5 a ha).1,fun i hi hj=>(hO _ _ _ ((h5 a ha).2 i hi hj)).1⟩⟩
 hdom:=hS.hdom
 adom:=hS.adom
 ldom:=hl
def Lab.mine (lab:Lab) (B:Nat):Lab:=fun b o=>if b = B then some none else lab b o
def Lab.left (lab:Lab) (B:Nat):Lab:=fun b o=>if b = B then none else lab b o
theorem mineF (hg:L6 w w'):∀ b o x,a0m lab w b o x -> a0m (lab.mine w.heap.size) w' b o x:=fun b o x h=>by
 have hb:=L9 h.cell
 refine ⟨?_,(hg.cell hb o).trans h.cell⟩
 simp only [Lab.mine]
 rw [if_neg (by omega)]
 exact h.lab
theorem Sim.mine (hS:Sim ρ lab H w) (hg:L6 w w') (hB:w.heap.size < w'.heap.size):Sim ρ (lab.mine w.heap.size) H w':=by
 refine hS.relab (mineF hg) (fun b o k h=>?_) (fun b o k h=>?_)
 ·obtain ⟨x,hx⟩:=h.cell
  have hb:=L9 hx
  refine ⟨⟨?_,(hg.frozen hb o).trans h.free,x,(hg.cell hb o).trans hx⟩,hg.cell hb o⟩
  simp only [Lab.mine]
  rw [if_neg (by omega)]
  exact h.lab
 ·simp only [Lab.mine] at h
  split at h
  ·rename_i hb; subst hb; exact hB
  ·exact Nat.lt_of_lt_of_le (hS.ldom b o k h) hg.size
section
variable {w1 w2 w3:World} {B:Nat}
theorem a4v (E:Ext (lab.mine B) w1 lab' w2) (hB:B < w1.heap.size) (o:Nat):cellAt w2 B o = cellAt w1 B o /\ w2.frozen? ⟨B,o,none⟩ = w1.frozen? ⟨B,o,none⟩ :=
 E.cl B o hB (fun k=>by simp [Lab.mine])
structure Wrote (B:Nat) (w w':World):Prop where
 size:w.heap.size <= w'.heap.size
 os:w'.os = w.os
 tape:w'.tape = w.tape
 output:w'.output = w.output
 blk:∀ b,b < w.heap.size -> b ≠ B -> w'.heap[b]? = w.heap[b]?
theorem Wrote.cell (h:Wrote B w w') {b:Nat} (hb:b < w.heap.size) (hn:b ≠ B) (o:Nat):cellAt w' b o = cellAt w b o:=by simp only [cellAt,World.cell?,h.blk b hb hn]
theorem Wrote.frozen (h:Wrote B w w') {b:Nat} (hb:b < w.heap.size) (hn:b ≠ B) (o:Nat):w'.frozen? ⟨b,o,none⟩ = w.frozen? ⟨b,o,none⟩:=by simp only [World.frozen?,h.blk b hb hn]
theorem Wrote.refl (B:Nat) (w:World):Wrote B w w:=⟨Nat.le_refl _,rfl,rfl,rfl,fun _ _ _=>rfl⟩
theorem leftF (E:Ext (lab.mine B) w1 lab' w2) (hw:Wrote B w2 w3):∀ b o x,a0m lab' w2 b o x -> a0m (lab'.left B) w3 b o x:=fun b o x h=>by
 have hb:=L9 h.cell
 have hn:b ≠ B:=by
  rintro rfl
  have:=(E.ctx b o).2 (by simp [Lab.mine])
  rw [h.lab] at this; cases this
 refine ⟨?_,(hw.cell hb hn o).trans h.cell⟩
 simp only [Lab.left]
 rw [if_neg hn]
 exact h.lab
theorem Sim.left (hS:Sim ρ' lab' H w2) (E:Ext (lab.mine B) w1 lab' w2) (hw:Wrote B w2 w3):Sim ρ' (lab'.left B) H w3:=by
 refine hS.relab (leftF E hw) (fun b o k h=>?_) (fun b o k h=>?_)
 ·obtain ⟨x,hx⟩:=h.cell
  have hb:=L9 hx
  have hn:b ≠ B:=by
   rintro rfl
   have:=(E.ctx b o).2 (by simp [Lab.mine])
   rw [h.lab] at this; cases this
  refine ⟨⟨?_,(hw.frozen hb hn o).trans h.free,x,(hw.cell hb hn o).trans hx⟩,hw.cell hb hn o⟩
  simp only [Lab.left]
  rw [if_neg hn]
  exact h.lab
 ·simp only [Lab.left] at h
  split at h
  ·cases h
  ·exact Nat.lt_of_lt_of_le (hS.ldom b o k h) hw.size
theorem Ext.left (hS:Sim ρ lab H w) (hg:L6 w w1) (hB:w.heap.size < w1.heap.size) (E:Ext (lab.mine w.heap.size) w1 lab' w2) (hw:Wrote w.heap.size w2 w3):Ext lab w (lab'.left w.heap.size) w3 where
 size:=Nat.le_trans hg.size (Nat.le_trans E.size hw.size)
 os:=hw.os.trans (E.os.trans hg.os)
 tape:=hw.tape.trans (E.tape.trans hg.tape)
 output:=hw.output.trans (E.output.trans hg.output)
 lb:=fun b o hb hl=>by
  simp only [Lab.left]
  rw [if_neg (by omega)]
  exact E.lb b o (Nat.lt_of_lt_of_le hb hg.size) (by simp only [Lab.mine]; rw [if_neg (by omega)]; exact hl)
 ctx:=fun b o=>by
  by_cases hb:b = w.heap.size
  ·subst hb
   have h1:(lab'.left w.heap.size) w.heap.size o = none:=by simp [Lab.left]
   rw [h1]
   constructor
   ·intro h; cases h
   ·intro h
    have:=hS.ldom _ _ _ h
    omega
  ·have:=E.ctx b o
   simp only [Lab.left,Lab.mine,if_neg hb] at this ⊢
   exact this
 cl:=fun b o hb hl=>by
  have hb1:=Nat.lt_of_lt_of_le hb hg.size
  have h1:=E.cl b o hb1 (fun k=>by simp only [Lab.mine]; rw [if_neg (by omega)]; exact hl k)
  have hb2:=Nat.lt_of_lt_of_le hb1 E.size
  exact ⟨(hw.cell hb2 (by omega) o).trans (h1.1.trans (hg.cell hb o)),(hw.frozen hb2 (by omega) o).trans (h1.2.trans (hg.frozen hb o))⟩
 blk:=fun b hb hl=>by
  have hb1:=Nat.lt_of_lt_of_le hb hg.size
  have h1:=E.blk b hb1 (fun o k=>by simp only [Lab.mine]; rw [if_neg (by omega)]; exact hl o k)
  have hb2:=Nat.lt_of_lt_of_le hb1 E.size
  exact (hw.blk b hb2 (by omega)).trans (h1.trans (hg.blk b hb))
end
def a3B:Hp -> Hp
 | []=>[]
 | (k,.row cs) :: r=>(k,.row (cs.map a5T)) :: a3B r
 | (k,o) :: r=>(k,o) :: a3B r
def sealO:Obj -> Obj
 | .row cs=>.row (cs.map a5T)
 | o=>o
theorem a5o (k:Nat) (o:Obj) (r:Hp):a3B ((k,o) :: r) = (k,sealO o) :: a3B r:=by cases o <;> rfl
theorem a3d (j:Nat):∀ H:Hp,hget j (a3B H) = (hget j H).map sealO
 | []=>rfl
 | (k,o) :: r=>by
  rw [a5o]
  simp only [hget]
  cases Nat.beq k j with
  | true=>rfl
  | false=>exact a3d j r
theorem a3t:∀ H:Hp,(a3B H).length = H.length
 | []=>rfl
 | (k,o) :: r=>by rw [a5o]; simp only [List.length_cons,a3t r]
theorem a6I:∀ (n:Nat) (H:Hp),Canon n H -> Canon n (a3B H)
 | _,[],_=>trivial
 | n,(k,o) :: r,h=>by
  rw [a5o]
  exact ⟨h.1,a6I (n + 1) r h.2⟩
theorem Sim.a3B (hS:Sim ρ lab H w):Sim ρ lab (Vm.a3B H) w:=by
 have hg:∀ {j o},hget j (Vm.a3B H) = some o -> ∃ o',hget j H = some o' /\ o = sealO o':=fun {j o} h=>by
  rw [a3d] at h
  cases hq:hget j H with
  | none=>rw [hq] at h; cases h
  | some o'=>rw [hq] at h; cases h; exact ⟨o',rfl,rfl⟩
 refine Sim.mk' (fun j o hj=>?_) (fun j n x h=>?_) (fun j x h=>?_) hS.ldom
 ·obtain ⟨o',h1,rfl⟩:=hg hj
  cases o' with
  | row cs =>
   obtain ⟨b,o,xs,g1,g2,g3⟩:=hS.row j cs h1
   exact ⟨b,o,xs,g1,g2.a1l,g3⟩
  | grow e cs=>exact hS.grow j e cs h1
  | tip e n=>exact hS.tip j e n h1
  | gone=>trivial
 ·obtain ⟨e,m,h1,h2⟩:=hS.hdom j n x h
  exact ⟨e,m,by rw [a3d,h1]; rfl,h2⟩
 ·have:=hS.adom j x h
  rw [a3d]
  cases hq:hget j H with
  | none=>exact absurd hq this
  | some o=>simp
theorem E_via {env:Env} {g g':Nat} {args l:List V} {H H':Hp} {o out:Out} {pre:List V -> Hp -> Option (Nat × List V × Hp)} {post:List V -> Hp -> Out -> Option Out} (hi:env.intr g = some (.via pre post)) (hp:pre args H = some (g',l,H'))
  (hc:E env (.call g' l) H' = some o) (ho:post args H o = some out):E env (.call g args) H = some out :=
 a97 (by simp only [step,hi,hp,hc,ho])
end Go.Vm
namespace Go.Proofs.YtamfchbgonekeaaGreatDoor
open Go Go.Vm
theorem cell_lt {w:World} {b o:Nat} {x:Value} (h:w.cell? ⟨b,o,none⟩ = some x):b < w.heap.size:=L9 h
theorem b1P (b o:Nat) (x y:Int) (fa fb:Int) (u:Value) (older:List PanicEntry) (w:World) (h0:w.cell? ⟨b,o,none⟩ = some (.int .i64 x)) (h1:w.cell? ⟨b,o + 1,none⟩ = some (.int .i64 y)) (z0:w.frozen? ⟨b,o,none⟩ = false) (z1:w.frozen? ⟨b,o + 1,none⟩ = false) :
  CallsD Tryz.prog 32 #[.pointer (some ⟨b,o,none⟩)] (.panicking ({ v:=.iface 76 (.agg #[.int .i64 fa,.int .i64 fb]),recovered:=false } :: older)) w fun e u' w' =>
   e = .returned (.tuple #[]) /\ u' = .panicking ({ v:=.iface 76 (.agg #[.int .i64 fa,.int .i64 fb]),recovered:=true } :: older) /\
   w' = ((w.setCell ⟨b,o,none⟩ (.int .i64 fa)).setCell ⟨b,o + 1,none⟩ (.int .i64 fb)).alloc (.cells #[.int .i64 fa,.int .i64 fb] 76):=by
 refine callsD_of_wpS Tryz.func32 rfl fun c₀ cs hu=>?_
 apply wpS_seq
 apply wpS_region
 simp [wpOpsS,go_sem,recoverD,hu,Tryz.ntmps32,Exit.thenS]
 refine wpS_of_wp ?_
 go_wp2
 have hta:(Instr.typeAssert (.iface 76 (.agg #[.int .i64 fa,.int .i64 fb])) 20 76 true).run Tryz.prog w = .ok (.tuple #[.agg #[.int .i64 fa,.int .i64 fb],.bool true]) w:=by
  simp only [Instr.typeAssert,Sem.run_bind,run_underlying Tryz.underlying76,Result.andThen_ok]
  simp
 rw [hta]
 simp only [Result.andThen]
 rw [Oper.upon_value]
 have hb:=cell_lt h0
 have G:L6 w (w.alloc (.cells #[.int .i64 fa,.int .i64 fb] 76)):=L6.push w _
 have a0:=(G.cell hb o).trans h0
 have a1:=(G.cell hb (o + 1)).trans h1
 have y0:=(G.frozen hb o).trans z0
 have y1:=(G.frozen hb (o + 1)).trans z1
 unfold cellAt at a0 a1
 have a2:((w.alloc (.cells #[.int .i64 fa,.int .i64 fb] 76)).setCell ⟨b,o,none⟩ (.int .i64 fa)).cell? ⟨b,o + 1,none⟩ = some (.int .i64 y):=(World.cell?_setCell_other _ _ _ _ (by simp)).trans a1
 have y2:((w.alloc (.cells #[.int .i64 fa,.int .i64 fb] 76)).setCell ⟨b,o,none⟩ (.int .i64 fa)).frozen? ⟨b,o + 1,none⟩ = false:=by simp [y1]
 go_wp2
 obtain ⟨a₀,b₀,e₀,d₀,f₀,g₀,h₀⟩:=c₀
 subst hu
 simp [bodyPostS,results,Tryz.results32]
theorem b1O (p:Addr) (w:World) :
  CallsD Tryz.prog 32 #[.pointer (some p)] .returning w fun e u' w'=>e = .returned (.tuple #[]) /\ u' = .returning /\ w' = w:=by
 refine callsD_of_wpS Tryz.func32 rfl fun c₀ cs hu=>?_
 apply wpS_seq
 apply wpS_region
 simp [wpOpsS,go_sem,recoverD,hu,Tryz.ntmps32,Exit.thenS]
 refine wpS_of_wp ?_
 go_wp2
 cases c₀
 simp_all [bodyPostS,results,Tryz.results32]
def gClo:List Nat:=[24,14,2]
def gPre:List V -> Hp -> Option (Nat × List V × Hp):=fun args H=>match args with
 | [.ptr _ _,.func (.func g) a c]=>gd (has g gClo) (some (g,a ++ c,a3B H))
 | _=>none
def a9v:List V -> Hp -> Out -> Option Out:=fun _ _ o=>match o with
 | .ret (.tuple []) H1=>some (.ret (.agg [.int .i64 0,.int .i64 0]) H1)
 | .pan (.iface t (.agg [.int .i64 a,.int .i64 b])) H1=>gd (Nat.beq t 76) (some (.ret (.agg [.int .i64 a,.int .i64 b]) H1))
 | _=>none
theorem b3n {g:Nat} (h:has g gClo = true):∃ fn c,Tryz.prog.funcs[g]? = some fn /\ (fn.name == "runtime.NumGoroutine") = false /\ fn.body = some c:=by
 have:g = 24 ∨ g = 14 ∨ g = 2:=by
  simp only [has,gClo] at h
  split at h
  ·exact .inl (Nat.eq_of_beq_eq_true (by assumption)).symm
  ·split at h
   ·exact .inr (.inl (Nat.eq_of_beq_eq_true (by assumption)).symm)
   ·split at h
    ·exact .inr (.inr (Nat.eq_of_beq_eq_true (by assumption)).symm)
    ·cases h
 rcases this with rfl | rfl | rfl
 ·exact ⟨_,_,Tryz.func24,rfl,rfl⟩
 ·exact ⟨_,_,Tryz.func14,rfl,rfl⟩
 ·exact ⟨_,_,Tryz.func2,rfl,rfl⟩
theorem agg2 {ρ:Rho} {lab:Lab} {w:World} (a b:Int):∀ (i:Nat) (v:V) (x:Value),[V.int .i64 a,.int .i64 b][i]? = some v -> [Value.int .i64 a,.int .i64 b][i]? = some x -> Rel ρ lab w v x
 | 0,_,_,h,g=>by cases h; cases g; exact .int _ _
 | 1,_,_,h,g=>by cases h; cases g; exact .int _ _
 | i + 2,_,_,h,g=>by simp at h
theorem a13:ViaOk Tryz.prog 13 gPre a9v:=by
 refine ⟨fun args H g' l H' o out hp ho ρ lab w xs hc hS hx hcall=>?_,⟨_,_,Tryz.func13,rfl,rfl⟩⟩
 unfold gPre at hp
 split at hp
 ·rename_i args0 r off g0 a c
  obtain ⟨hg,hp⟩:=D8 hp
  cases hp
  obtain ⟨x1,xr0,rfl,r1,r2⟩:=l9.1 hx
  obtain ⟨x2,xr,rfl,r3,r4⟩:=l9.1 r2
  have:xr = []:=by have:=r4.1; simpa using this
  subst this
  cases r3 with
  | func _ _ _ us ys u1 u2 u3 u4 =>
  obtain ⟨fn,cd,k1,k2,k3⟩:=b3n hg
  have hrun:∀ args w,(callFunc g' args).run Tryz.prog w = .ok (.enter g' args) w:=fun args w=>by
   have h1:fn.name ≠ "runtime.NumGoroutine":=by simpa using k2
   simp [callFunc,k1,h1,k3]
  have G:L6 w (w.alloc (.cells #[.int .i64 0,.int .i64 0] 29)):=L6.push w _
  have hB:w.heap.size < (w.alloc (.cells #[.int .i64 0,.int .i64 0] 29)).heap.size:=by
   show w.heap.size < (w.heap.push _).size
   rw [Array.size_push]; omega
  have hS1:=(hS.mine G hB).a3B
  have hl:o8 ρ lab w (a ++ c) (us ++ ys):=o8.append ⟨u1,u3⟩ ⟨u2,u4⟩
  have hl1:=hl.carry (mineF G)
  have hK:=hcall ρ _ _ (us ++ ys) (a6I _ _ hc) hS1 hl1
  have C0:(w.alloc (.cells #[.int .i64 0,.int .i64 0] 29)).cell? ⟨w.heap.size,0,none⟩ = some (.int .i64 0):=by simp
  have C1:(w.alloc (.cells #[.int .i64 0,.int .i64 0] 29)).cell? ⟨w.heap.size,1,none⟩ = some (.int .i64 0):=by simp
  have Z0:(w.alloc (.cells #[.int .i64 0,.int .i64 0] 29)).frozen? ⟨w.heap.size,0,none⟩ = false:=by simp
  have Z1:(w.alloc (.cells #[.int .i64 0,.int .i64 0] 29)).frozen? ⟨w.heap.size,1,none⟩ = false:=by simp
  have hmf:∀ (fn:Fn) (first cap:Array Value) (w:World),(Instr.makeFunc fn first cap).run Tryz.prog w = .ok (.func fn first cap) w:=fun _ _ _ _=>rfl
  clear hcall hx r1 r2 r4 u3 u4 hl hl1 hS1
  generalize hw1:w.alloc (.cells #[.int .i64 0,.int .i64 0] 29) = w1 at *
  go_enter_defers Tryz.func13,Tryz.ntmps13
  go_wp2
  refine hK.mono ?_
  intro e w2 hP
  unfold a9v at ho
  split at ho
  ·rename_i H1
   cases ho
   cases e with
   | returned x =>
    obtain ⟨ρ',lab',s1,s2,s3,s4,s5,s6⟩:=hP
    have hx0:x = .tuple #[]:=by
     cases s4 with
     | tuple _ zs h1 h2 =>
      have:zs = []:=by simpa using h1
      subst this; rfl
    subst hx0
    obtain ⟨d0,e0⟩:=a4v s2 hB 0
    obtain ⟨d1,e1⟩:=a4v s2 hB 1
    have d0:=d0.trans C0
    have d1:=d1.trans C1
    have E:=Ext.left hS G hB s2 (Wrote.refl _ w2)
    have S:=s1.left s2 (Wrote.refl _ w2)
    unfold cellAt at d0 d1
    go_wp2
    refine leaves_cons (f:=32) (args:=#[.pointer (some ⟨w.heap.size,0,none⟩)]) (by simp) (by simp [go_sem]) ?_
    refine (b1O ⟨w.heap.size,0,none⟩ _).mono ?_
    rintro e u' w'' ⟨rfl,rfl,rfl⟩
    simp [Leaves,settle,results,Tryz.results13,go_sem,d0,d1]
    rw [a3t] at s3 s6
    exact ⟨ρ',_,S,E,s3,.agg _ [.int .i64 0,.int .i64 0] rfl (agg2 _ _),s5,s6⟩
   | panicked ch=>exact hP.elim
   | outgrown=>exact hP.elim
  ·rename_i t fa fb H1
   obtain ⟨ht,ho⟩:=D8 ho
   cases ho
   have ht:=Nat.eq_of_beq_eq_true ht
   subst ht
   cases e with
   | returned x=>exact hP.elim
   | panicked ch =>
    obtain ⟨x,rfl,ρ',lab',s1,s2,s3,s4,s5,s6⟩:=hP
    obtain ⟨xv,rfl,s7⟩:∃ xv,x = .iface 76 xv /\ xv = .agg #[.int .i64 fa,.int .i64 fb]:=by
     cases s4 with
     | iface _ _ xv h =>
      refine ⟨xv,rfl,?_⟩
      cases h with
      | agg _ zs h1 h2 =>
       match zs,h1,h2 with
       | [z0,z1],_,h2 =>
        have q0:=h2 0 _ z0 rfl rfl
        have q1:=h2 1 _ z1 rfl rfl
        cases q0; cases q1; rfl
    subst s7
    obtain ⟨d0,e0⟩:=a4v s2 hB 0
    obtain ⟨d1,e1⟩:=a4v s2 hB 1
    have d0:=d0.trans C0
    have d1:=d1.trans C1
    have e0:=e0.trans Z0
    have e1:=e1.trans Z1
    unfold cellAt at d0 d1
    have hsz:w.heap.size < w2.heap.size:=Nat.lt_of_lt_of_le hB s2.size
    have hW:Wrote w.heap.size w2 (((w2.setCell ⟨w.heap.size,0,none⟩ (.int .i64 fa)).setCell ⟨w.heap.size,0 + 1,none⟩ (.int .i64 fb)).alloc (.cells #[.int .i64 fa,.int .i64 fb] 76)):=by
     refine ⟨?_,rfl,rfl,rfl,fun b hb hn=>?_⟩
     ·refine Nat.le_trans ?_ (L6.push _ _).size
      rw [World.size_setCell,World.size_setCell]
      exact Nat.le_refl _
     ·refine ((L6.push _ _).blk b (by rw [World.size_setCell,World.size_setCell]; exact hb)).trans ?_
      rw [heap_setCell_other _ _ _ _ hn,heap_setCell_other _ _ _ _ hn]
    have c0:(w2.setCell ⟨w.heap.size,0,none⟩ (.int .i64 fa)).cell? ⟨w.heap.size,0 + 1,none⟩ = some (.int .i64 0):=(World.cell?_setCell_other _ _ _ _ (by simp)).trans d1
    have f1:((w2.setCell ⟨w.heap.size,0,none⟩ (.int .i64 fa)).setCell ⟨w.heap.size,0 + 1,none⟩ (.int .i64 fb)).cell? ⟨w.heap.size,0 + 1,none⟩ = some (.int .i64 fb):=World.cell?_setCell_same _ _ _ c0
    have f0:((w2.setCell ⟨w.heap.size,0,none⟩ (.int .i64 fa)).setCell ⟨w.heap.size,0 + 1,none⟩ (.int .i64 fb)).cell? ⟨w.heap.size,0,none⟩ = some (.int .i64 fa):=(World.cell?_setCell_other _ _ _ _ (by simp)).trans (World.cell?_setCell_same _ _ _ d0)
    have hsz2:w.heap.size < ((w2.setCell ⟨w.heap.size,0,none⟩ (.int .i64 fa)).setCell ⟨w.heap.size,0 + 1,none⟩ (.int .i64 fb)).heap.size:=by rw [World.size_setCell,World.size_setCell]; exact hsz
    have GT:L6 _ (((w2.setCell ⟨w.heap.size,0,none⟩ (.int .i64 fa)).setCell ⟨w.heap.size,0 + 1,none⟩ (.int .i64 fb)).alloc (.cells #[.int .i64 fa,.int .i64 fb] 76)):=L6.push _ _
    have f0:=(GT.cell hsz2 0).trans f0
    have f1:=(GT.cell hsz2 (0 + 1)).trans f1
    unfold cellAt at f0 f1
    simp only [Nat.zero_add] at f0 f1
    have E:=Ext.left hS G hB s2 hW
    have S:=s1.left s2 hW
    go_wp2
    refine leaves_cons (f:=32) (args:=#[.pointer (some ⟨w.heap.size,0,none⟩)]) (by simp) (by simp [go_sem]) ?_
    refine (b1P w.heap.size 0 0 0 fa fb .nilIface [] w2 d0 d1 e0 e1).mono ?_
    rintro e u' w'' ⟨rfl,rfl,rfl⟩
    simp [Leaves,settle,results,Tryz.results13,go_sem,f0,f1]
    rw [a3t] at s3 s6
    exact ⟨ρ',_,S,E,s3,.agg _ [.int .i64 fa,.int .i64 fb] rfl (agg2 _ _),s5,s6⟩
   | outgrown=>exact hP.elim
  ·cases ho
 ·cases hp
end Go.Proofs.YtamfchbgonekeaaGreatDoor
namespace Go.Proofs
open Go.Shelf
def Tryz.a6R:Go.Shelf.Ren:=⟨fun | 169=>31 | n=>n,fun | 70=>65 | 9=>9 | 0=>0 | 72=>68 | 37=>66 | 127=>100 | 3=>3 | 5=>5 | n=>n,fun | n=>n⟩
theorem Tryz.lays169:Go.Proofs.Lays.n169 Tryz.prog Tryz.a6R:={
 mixed:=by kernel_rfl
 f169:=Tryz.func31.trans (congrArg some (by kernel_rfl))
 t0:=Tryz.underlying0
 a0:=Tryz.isAgg0
 z0:=Tryz.sizeOf0
 v0:=Tryz.zeroValue0
 t3:=Tryz.underlying3
 a3:=Tryz.isAgg3
 z3:=Tryz.sizeOf3
 v3:=Tryz.zeroValue3
 t9:=Tryz.underlying9
 a9:=Tryz.isAgg9
 z9:=Tryz.sizeOf9
 v9:=Tryz.zeroValue9
 t37:=Tryz.underlying66
 a37:=Tryz.isAgg66
 z37:=Tryz.sizeOf66
 v37:=Tryz.zeroValue66
 t70:=Tryz.underlying65
 a70:=Tryz.isAgg65
 z70:=Tryz.sizeOf65
 v70:=Tryz.zeroValue65
 t72:=Tryz.underlying68
 a72:=Tryz.isAgg68
 z72:=Tryz.sizeOf68
 v72:=Tryz.zeroValue68
 t127:=Tryz.underlying100
 a127:=Tryz.isAgg100
 z127:=Tryz.sizeOf100
 v127:=Tryz.zeroValue100 }
theorem Tryz.a5v:Builder.Extra Tryz.prog Tryz.a6R:={
 sizeBuilder:=by kernel_rfl
 liesBuilder:=by kernel_rfl
 t5:=Tryz.underlying5
 a5:=Tryz.isAgg5
 z5:=Tryz.sizeOf5
 v5:=Tryz.zeroValue5
 infoByte:=by kernel_rfl
 cellsByte:=by kernel_rfl
 sizeByte:=by kernel_rfl
 neB5:=by decide }
open Go.RowKit in
theorem Tryz.Builder_String_any (B b:Nat) (l:List UInt8) (w:World) (h:Lib.IsBuilder 68 5 B b (Lib.byteCells l) w) (hBw:B <= w.heap.size) :
  Calls Tryz.prog 31 #[.pointer (some ⟨b,0,none⟩)] w fun e w'=>e = .returned (.string ⟨l.toArray⟩) /\ Below B w w':=Any.Builder_String_any Tryz.lays169 Tryz.a5v B b l w h hBw
def Tryz.a6Q:Go.Shelf.Ren:=⟨fun | 156=>41 | 165=>65 | 166=>29 | 169=>31 | 240=>62 | 241=>95 | 276=>94 | 277=>114 | n=>n,fun | 31=>51 | 9=>9 | 3=>3 | 4=>4 | 0=>0 | 20=>20 | 72=>68 | 76=>72 | 70=>65 | 37=>66 | 75=>71 | 127=>100 | 164=>118 | 5=>5 | 80=>55 | n=>n,fun | n=>n⟩
theorem Tryz.b0x:Go.Proofs.Lays.n156 Tryz.prog Tryz.a6Q:={
 mixed:=by kernel_rfl
 f156:=Tryz.func41.trans (congrArg some (by kernel_rfl))
 f165:=Tryz.func65.trans (congrArg some (by kernel_rfl))
 f166:=Tryz.func29.trans (congrArg some (by kernel_rfl))
 f169:=Tryz.func31.trans (congrArg some (by kernel_rfl))
 f240:=Tryz.func62.trans (congrArg some (by kernel_rfl))
 f241:=Tryz.func95.trans (congrArg some (by kernel_rfl))
 f276:=Tryz.func94.trans (congrArg some (by kernel_rfl))
 f277:=Tryz.func114.trans (congrArg some (by kernel_rfl))
 t0:=Tryz.underlying0
 a0:=Tryz.isAgg0
 z0:=Tryz.sizeOf0
 v0:=Tryz.zeroValue0
 t3:=Tryz.underlying3
 a3:=Tryz.isAgg3
 z3:=Tryz.sizeOf3
 v3:=Tryz.zeroValue3
 t4:=Tryz.underlying4
 a4:=Tryz.isAgg4
 z4:=Tryz.sizeOf4
 v4:=Tryz.zeroValue4
 t9:=Tryz.underlying9
 a9:=Tryz.isAgg9
 z9:=Tryz.sizeOf9
 v9:=Tryz.zeroValue9
 t20:=Tryz.underlying20
 a20:=Tryz.isAgg20
 z20:=Tryz.sizeOf20
 v20:=Tryz.zeroValue20
 t31:=Tryz.underlying51
 a31:=Tryz.isAgg51
 z31:=Tryz.sizeOf51
 v31:=Tryz.zeroValue51
 t37:=Tryz.underlying66
 a37:=Tryz.isAgg66
 z37:=Tryz.sizeOf66
 v37:=Tryz.zeroValue66
 t70:=Tryz.underlying65
 a70:=Tryz.isAgg65
 z70:=Tryz.sizeOf65
 v70:=Tryz.zeroValue65
 t72:=Tryz.underlying68
 a72:=Tryz.isAgg68
 z72:=Tryz.sizeOf68
 v72:=Tryz.zeroValue68
 t75:=Tryz.underlying71
 a75:=Tryz.isAgg71
 z75:=Tryz.sizeOf71
 v75:=Tryz.zeroValue71
 t76:=Tryz.underlying72
 a76:=Tryz.isAgg72
 z76:=Tryz.sizeOf72
 v76:=Tryz.zeroValue72
 t127:=Tryz.underlying100
 a127:=Tryz.isAgg100
 z127:=Tryz.sizeOf100
 v127:=Tryz.zeroValue100
 t164:=Tryz.underlying118
 a164:=Tryz.isAgg118
 z164:=Tryz.sizeOf118
 v164:=Tryz.zeroValue118 }
theorem Tryz.a0J:Builder.Extra Tryz.prog Tryz.a6Q:={
 sizeBuilder:=by kernel_rfl
 liesBuilder:=by kernel_rfl
 t5:=Tryz.underlying5
 a5:=Tryz.isAgg5
 z5:=Tryz.sizeOf5
 v5:=Tryz.zeroValue5
 infoByte:=by kernel_rfl
 cellsByte:=by kernel_rfl
 sizeByte:=by kernel_rfl
 neB5:=by decide }
open Go.RowKit in
theorem Tryz.strings_Join_none (a:Option Addr) (c:Nat) (sep:ByteArray) (w:World) :
  Calls Tryz.prog 41 #[.slice a 0 c,.string sep] w fun e w'=>e = .returned (.string ⟨#[]⟩) /\ w' = w:=Any.strings_Join_none Tryz.b0x Tryz.a0J a c sep w
open Go.RowKit in
theorem Tryz.strings_Join (bk o c:Nat) (xs:List ByteArray) (sep:ByteArray) (w:World) (hcells:∀ (j:Nat) x,xs[j]? = some x -> w.cell? ⟨bk,o + j,none⟩ = some (.string x)) (hbk:bk < w.heap.size) (hN:xs.length <= 140737488355328) (hcap:xs.length <= c) (hlen:(Lib.join (xs.map (·.data.toList)) sep.data.toList).length <= 140737488355328) :
  Calls Tryz.prog 41 #[.slice (some ⟨bk,o,none⟩) xs.length c,.string sep] w fun e w'=>e = .returned (.string ⟨(Lib.join (xs.map (·.data.toList)) sep.data.toList).toArray⟩) /\ Below w.heap.size w w':=Any.strings_Join Tryz.b0x Tryz.a0J bk o c xs sep w hcells hbk hN hcap hlen
def Tryz.b08:Go.Shelf.Ren:=⟨fun | 167=>30 | 156=>41 | 165=>65 | 166=>29 | 169=>31 | 240=>62 | 241=>95 | 276=>94 | 277=>114 | n=>n,fun | 31=>51 | 9=>9 | 3=>3 | 4=>4 | 0=>0 | 20=>20 | 72=>68 | 76=>72 | 70=>65 | 37=>66 | 75=>71 | 127=>100 | 164=>118 | 5=>5 | 80=>55 | n=>n,fun | n=>n⟩
theorem Tryz.layB167:Go.Proofs.Lays.n167 Tryz.prog Tryz.b08:={
 mixed:=by kernel_rfl
 f167:=Tryz.func30.trans (congrArg some (by kernel_rfl))
 f240:=Tryz.func62.trans (congrArg some (by kernel_rfl))
 f276:=Tryz.func94.trans (congrArg some (by kernel_rfl))
 t0:=Tryz.underlying0
 a0:=Tryz.isAgg0
 z0:=Tryz.sizeOf0
 v0:=Tryz.zeroValue0
 t4:=Tryz.underlying4
 a4:=Tryz.isAgg4
 z4:=Tryz.sizeOf4
 v4:=Tryz.zeroValue4
 t5:=Tryz.underlying5
 a5:=Tryz.isAgg5
 z5:=Tryz.sizeOf5
 v5:=Tryz.zeroValue5
 t9:=Tryz.underlying9
 a9:=Tryz.isAgg9
 z9:=Tryz.sizeOf9
 v9:=Tryz.zeroValue9
 t20:=Tryz.underlying20
 a20:=Tryz.isAgg20
 z20:=Tryz.sizeOf20
 v20:=Tryz.zeroValue20
 t37:=Tryz.underlying66
 a37:=Tryz.isAgg66
 z37:=Tryz.sizeOf66
 v37:=Tryz.zeroValue66
 t70:=Tryz.underlying65
 a70:=Tryz.isAgg65
 z70:=Tryz.sizeOf65
 v70:=Tryz.zeroValue65
 t72:=Tryz.underlying68
 a72:=Tryz.isAgg68
 z72:=Tryz.sizeOf68
 v72:=Tryz.zeroValue68
 t75:=Tryz.underlying71
 a75:=Tryz.isAgg71
 z75:=Tryz.sizeOf71
 v75:=Tryz.zeroValue71
 t164:=Tryz.underlying118
 a164:=Tryz.isAgg118
 z164:=Tryz.sizeOf118
 v164:=Tryz.zeroValue118 }
theorem Tryz.b1Z:Builder.Extra Tryz.prog Tryz.b08:={
 sizeBuilder:=by kernel_rfl
 liesBuilder:=by kernel_rfl
 t5:=Tryz.underlying5
 a5:=Tryz.isAgg5
 z5:=Tryz.sizeOf5
 v5:=Tryz.zeroValue5
 infoByte:=by kernel_rfl
 cellsByte:=by kernel_rfl
 sizeByte:=by kernel_rfl
 neB5:=by decide }
open Go.RowKit in
theorem Tryz.Builder_WriteByte (B b:Nat) (bs:List Value) (c:Int) (w:World) (h:Lib.IsBuilder 68 5 B b bs w) (hlen:bs.length + 1 <= 140737488355328) (hBw:B <= w.heap.size) :
  Calls Tryz.prog 30 #[.pointer (some ⟨b,0,none⟩),.int .u8 c] w fun e w'=>e = .returned .nilIface /\ (Lib.BuilderAt 68 5 B b (.pointer (some ⟨b,0,none⟩)) (bs ++ [.int .u8 c]) w' /\ Below B w w'):=Any.Builder_WriteByte Tryz.layB167 Tryz.b1Z B b bs c w h hlen hBw
open Go.RowKit in
theorem Tryz.Builder_WriteString (B b:Nat) (bs:List Value) (s:ByteArray) (w:World) (h:Lib.IsBuilder 68 5 B b bs w) (hlen:bs.length + s.size <= 140737488355328) (hBw:B <= w.heap.size) :
  Calls Tryz.prog 29 #[.pointer (some ⟨b,0,none⟩),.string s] w fun e w'=>e = .returned (.tuple #[.int .i64 s.size,.nilIface]) /\ (Lib.BuilderAt 68 5 B b (.pointer (some ⟨b,0,none⟩)) (bs ++ Lib.strCells s) w' /\ Below B w w'):=Any.Builder_WriteString { Tryz.b0x with } Tryz.a0J B b bs s w h hlen hBw
end Go.Proofs
namespace Go.Proofs.YtamfchbgonekeaaGreatDoor
open Go Go.Vm
def strsOf:List V -> Option (List (List UInt8))
 | []=>some []
 | .str s :: r=>match strsOf r with
  | some l=>some (s :: l)
  | none=>none
 | _=>none
def a6P:List V -> Hp -> Option Out:=fun args H=>match args with
 | [.slice _ n cs,.str sep]=>match strsOf cs with
  | some l=>gd (eqN l.length n && leN n 140737488355328 && leN (Lib.join l sep).length 140737488355328) (some (.ret (.str (Lib.join l sep)) H))
  | none=>none
 | _=>none
theorem a8K:∀ {cs:List V} {l:List (List UInt8)},strsOf cs = some l -> cs = l.map .str
 | [],l,h=>by cases h; rfl
 | c :: r,l,h=>by
  cases c with
  | str s =>
   simp only [strsOf] at h
   split at h
   ·rename_i l' hl
    cases h
    rw [a8K hl]; rfl
   ·cases h
  | _=>cases h
theorem b1I {w w':World} (h:RowKit.Below w.heap.size w w'):L6 w w':=⟨h.size,h.os,h.tape,h.output,fun b hb=>h.block b hb⟩
theorem a7t:a6d Tryz.prog 41 a6P:=by
 refine ⟨fun args H out h ρ lab w xs hc hS hx=>?_,⟨_,_,Tryz.func41,rfl,rfl⟩⟩
 unfold a6P at h
 split at h
 ·rename_i ow n cs sep
  split at h
  ·rename_i l hl
   obtain ⟨h1,h2⟩:=D8 h
   cases h2
   simp only [Bool.and_eq_true] at h1
   obtain ⟨⟨h1,h2⟩,h3⟩:=h1
   have h1:=a4o h1
   have h2:=a19 h2
   have h3:=a19 h3
   obtain ⟨x1,r1,rfl,a1,a2⟩:=l9.1 hx
   obtain ⟨x2,r2,rfl,a3,a4⟩:=l9.1 a2
   have:r2 = []:=by have:=a4.1; simpa using this
   subst this
   cases a3
   have hcs:=a8K hl
   cases a1 with
   | slice _ _ _ xs b o ao cap g1 g2 g3 g4 g5 g6 g7 g8 g9 =>
   rcases Nat.eq_zero_or_pos n with h0 | h0
   ·subst h0
    have:l = []:=List.length_eq_zero_iff.1 h1
    subst this
    refine (Tryz.strings_Join_none ao cap ⟨⟨sep⟩⟩ w).mono fun e w' ⟨he,hw⟩=>?_
    subst he; subst hw
    exact ⟨ρ,lab,hS,Ext.refl _ _,⟨fun _ _ _ h=>h,fun _ _ _ _ h=>h⟩,.str _,hc,Nat.le_refl _⟩
   ·have hao:=g3 h0
    subst hao
    have hget:∀ (j:Nat) (x:ByteArray),(l.map (fun s=>(⟨⟨s⟩⟩:ByteArray)))[j]? = some x -> cellAt w b (o + j) = some (.string x):=by
     intro j x hj
     rw [List.getElem?_map] at hj
     cases hq:l[j]? with
     | none=>rw [hq] at hj; cases hj
     | some s =>
      rw [hq] at hj
      cases hj
      have hcj:cs[j]? = some (.str s):=by rw [hcs,List.getElem?_map,hq]; rfl
      have hj2:j < xs.length:=by
       rw [g1]
       rcases Nat.lt_or_ge j cs.length with h | h
       ·exact h
       ·rw [List.getElem?_eq_none h] at hcj; cases hcj
      have hxj:xs[j]? = some xs[j]:=by simp [hj2]
      have hr:=g6 j _ _ hcj hxj
      have hf:=(g5 j _ hxj).cell
      generalize xs[j] = z at hr hf
      cases hr
      exact hf
    have hlen:(l.map (fun s=>(⟨⟨s⟩⟩:ByteArray))).length = n:=by rw [List.length_map]; exact h1
    have hmap:(l.map (fun s=>(⟨⟨s⟩⟩:ByteArray))).map (·.data.toList) = l:=by rw [List.map_map]; exact List.map_id l
    have hb:b < w.heap.size:=by
     have hj2:0 < (l.map (fun s=>(⟨⟨s⟩⟩:ByteArray))).length:=by omega
     exact L9 (hget 0 _ (List.getElem?_eq_getElem hj2))
    have K:=Tryz.strings_Join b o cap (l.map (fun s=>(⟨⟨s⟩⟩:ByteArray))) ⟨⟨sep⟩⟩ w hget hb (by omega) (by omega) (by rw [hmap]; exact h3)
    rw [hlen,hmap] at K
    refine K.mono fun e w' ⟨he,hw⟩=>?_
    subst he
    have G:=b1I hw
    exact ⟨ρ,lab,hS.grew G,G.ext lab,⟨fun _ _ _ h=>h,fun _ _ _ _ h=>h⟩,.str _,hc,Nat.le_refl _⟩
  ·cases h
 ·cases h
end Go.Proofs.YtamfchbgonekeaaGreatDoor
namespace Go.Proofs.YtamfchbgonekeaaGreatDoor
open Go Go.Vm
def T:List (Nat × Ty):=[
 (1,⟨.func,1,8,[.nilFunc]⟩),
 (3,⟨.int .i64,1,8,[.i 0]⟩),
 (4,⟨.bool,1,1,[.bool false]⟩),
 (5,⟨.int .u8,1,1,[.int .u8 0]⟩),
 (9,⟨.string,1,16,[.str []]⟩),
 (24,⟨.slice 26,1,24,[.slice .nil 0 []]⟩),
 (26,⟨.struct [(3,0),(9,1),(3,2),(24,3)],4,56,[.i 0,.str [],.i 0,.slice .nil 0 []]⟩),
 (27,⟨.int .i64,1,8,[.i 0]⟩),
 (29,⟨.struct [(27,0),(3,1)],2,16,[.i 0,.i 0]⟩),
 (41,⟨.ptr 48,1,8,[.nilptr]⟩),
 (46,⟨.slice 93,1,24,[.slice .nil 0 []]⟩),
 (48,⟨.struct [(46,0),(3,1),(3,2)],3,40,[.slice .nil 0 [],.i 0,.i 0]⟩),
 (50,⟨.ptr 53,1,8,[.nilptr]⟩),
 (51,⟨.slice 9,1,24,[.slice .nil 0 []]⟩),
 (53,⟨.struct [(51,0)],1,24,[.slice .nil 0 []]⟩),
 (54,⟨.func,1,8,[.nilFunc]⟩),
 (66,⟨.slice 5,1,24,[.slice .nil 0 []]⟩),
 (76,⟨.struct [(29,0)],2,16,[.i 0,.i 0]⟩),
 (90,⟨.func,1,8,[.nilFunc]⟩),
 (91,⟨.array 256 5,256,256,[.int .u8 0,.int .u8 0,.int .u8 0,.int .u8 0,.int .u8 0,.int .u8 0,.int .u8 0,.int .u8 0,.int .u8 0,.int .u8 0,.int .u8 0,.int .u8 0,.int .u8 0,.int .u8 0,.int .u8 0,.int .u8 0,.int .u8 0,.int .u8 0,.int .u8 0,.int .u8 0,.int .u8 0,.int .u8 0,.int .u8 0,.int .u8 0,.int .u8 0,.int .u8 0,.int .u8 0,.int .u8 0,.int .u8 0,.int .u8 0,.int .u8 0,.int .u8 0,.int .u8 0,.int .u8 0,.int .u8 0,.int .u8 0,.int .u8 0,.int .u8 0,.int .u8 0,.int .u8 0,.int .u8 0,.int .u8 0,.int .u8 0,.int .u8 0,.int .u8 0,.int .u8 0,.int .u8 0,.int .u8 0,.int .u8 0,.int .u8 0,.int .u8 0,.int .u8 0,.int .u8 0,.int .u8 0,.int .u8 0,.int .u8 0,.int .u8 0,.int .u8 0,.int .u8 0,.int .u8 0,.int .u8 0,.int .u8 0,.int .u8 0,.int .u8 0,.int .u8 0,.int .u8 0,.int .u8 0,.int .u8 0,.int .u8 0,.int .u8 0,.int .u8 0,.int .u8 0,.int .u8 0,.int .u8 0,.int .u8 0,.int .u8 0,.int .u8 0,.int .u8 0,.int .u8 0,.int .u8 0,.int .u8 0,.int .u8 0,.int .u8 0,.int .u8 0,.int .u8 0,.int .u8 0,.int .u8 0,.int .u8 0,.int .u8 0,.int .u8 0,.int .u8 0,.int .u8 0,.int .u8 0,.int .u8 0,.int .u8 0,.int .u8 0,.int .u8 0,.int .u8 0,.int .u8 0,.int .u8 0,.int .u8 0,.int .u8 0,.int .u8 0,.int .u8 0,.int .u8 0,.int .u8 0,.int .u8 0,.int .u8 0,.int .u8 0,.int .u8 0,.int .u8 0,.int .u8 0,.int .u8 0,.int .u8 0,.int .u8 0,.int .u8 0,.int .u8 0,.int .u8 0,.int .u8 0,.int .u8 0,.int .u8 0,.int .u8 0,.int .u8 0,.int .u8 0,.int .u8 0,.int .u8 0,.int .u8 0,.int .u8 0,.int .u8 0,.int .u8 0,.int .u8 0,.int .u8 0,.int .u8 0,.int .u8 0,.int .u8 0,.int .u8 0,.int .u8 0,.int .u8 0,.int .u8 0,.int .u8 0,.int .u8 0,.int .u8 0,.int .u8 0,.int .u8 0,.int .u8 0,.int .u8 0,.int .u8 0,.int .u8 0,.int .u8 0,.int .u8 0,.int .u8 0,.int .u8 0,.int .u8 0,.int .u8 0,.int .u8 0,.int .u8 0,.int .u8 0,.int .u8 0,.int .u8 0,.int .u8 0,.int .u8 0,.int .u8 0,.int .u8 0,.int .u8 0,.int .u8 0,.int .u8 0,.int .u8 0,.int .u8 0,.int .u8 0,.int .u8 0,.int .u8 0,.int .u8 0,.int .u8 0,.int .u8 0,.int .u8 0,.int .u8 0,.int .u8 0,.int .u8 0,.int .u8 0,.int .u8 0,.int .u8 0,.int .u8 0,.int .u8 0,.int .u8 0,.int .u8 0,.int .u8 0,.int .u8 0,.int .u8 0,.int .u8 0,.int .u8 0,.int .u8 0,.int .u8 0,.int .u8 0,.int .u8 0,.int .u8 0,.int .u8 0,.int .u8 0,.int .u8 0,.int .u8 0,.int .u8 0,.int .u8 0,.int .u8 0,.int .u8 0,.int .u8 0,.int .u8 0,.int .u8 0,.int .u8 0,.int .u8 0,.int .u8 0,.int .u8 0,.int .u8 0,.int .u8 0,.int .u8 0,.int .u8 0,.int .u8 0,.int .u8 0,.int .u8 0,.int .u8 0,.int .u8 0,.int .u8 0,.int .u8 0,.int .u8 0,.int .u8 0,.int .u8 0,.int .u8 0,.int .u8 0,.int .u8 0,.int .u8 0,.int .u8 0,.int .u8 0,.int .u8 0,.int .u8 0,.int .u8 0,.int .u8 0,.int .u8 0,.int .u8 0,.int .u8 0,.int .u8 0,.int .u8 0,.int .u8 0,.int .u8 0,.int .u8 0,.int .u8 0,.int .u8 0,.int .u8 0,.int .u8 0,.int .u8 0,.int .u8 0,.int .u8 0,.int .u8 0,.int .u8 0,.int .u8 0,.int .u8 0,.int .u8 0,.int .u8 0,.int .u8 0]⟩),
 (93,⟨.struct [(3,0),(9,1),(3,2),(3,3)],4,40,[.i 0,.str [],.i 0,.i 0]⟩)]
def keep:Nat -> Nat -> List Nat
 | 3,130007=>[3,5,25]
 | 15,8=>[0,2,3]
 | 15,100011=>[0,2,3]
 | 15,100012=>[0,2,3]
 | 17,3=>[3,7,8,9]
 | 17,100008=>[3]
 | 21,2=>[0,8,9,10]
 | 21,9=>[0,5,8,9,10]
 | 22,4=>[0,1,5]
 | 22,100009=>[]
 | 36,5=>[0,1,4,5,6]
 | 36,9=>[0,1,4,7]
 | 36,100008=>[0,1,4,5,6]
 | 36,100009=>[0,1,4,5,6]
 | 36,100013=>[4,7]
 | 36,190038=>[0,1,4,7,38]
 | 40,1=>[0,2,8,9,10]
 | 40,100006=>[0,2,7,8,9,10]
 | 64,100016=>[0,1,4,5]
 | 64,130004=>[0,1,4,5,6]
 | 64,130006=>[0,1,4,5,16]
 | _,_=>[]
def cut:Nat -> Nat -> Bool
 | 3,30007=>true
 | 15,11=>true
 | 15,12=>true
 | 17,8=>true
 | 22,9=>true
 | 36,8=>true
 | 36,9=>true
 | 36,13=>true
 | 36,90038=>true
 | 40,6=>true
 | 64,16=>true
 | 64,30004=>true
 | 64,30006=>true
 | _,_=>false
def a5G:List Nat:=[]
def a4I:Nat -> Nat -> Bool
 | f,_=>has f a5G
def a1m:Nat -> Nat -> Bool
 | f,_=>has f a5G
def slk:Nat -> Nat -> List (Nat × Nat)
 | 36,9=>[(7,3)]
 | _,_=>[]
def sep:Nat -> Nat -> Option (List Nat × List Nat)
 | 6,3=>some ([0,1,2,3],[5,1000002])
 | 6,7=>some ([0,1,2,3],[5,1000002])
 | 12,2=>some ([0,1,2,3,5,4,6,7],[5])
 | 36,11=>some ([0,2,3,1,4,5],[7])
 | 46,3=>some ([0,1,2,3,4,5,6,7,8,9,10,11,12,13],[32,28,24])
 | 63,3=>some ([0,1,2,3,4,5,6,7,8,9,10,11],[20,18,14])
 | _,_=>none
def mask:Nat -> Nat -> List Nat
 | 6,3=>[0,0,1,7]
 | 6,7=>[0,0,1,7]
 | 12,2=>[0,0,2,7,15,0,31,127]
 | 36,11=>[0,1,0,4,15,31]
 | 46,3=>[0,1,3,7,0,16,48,112,0,496,1023,2047,0,8191]
 | 63,3=>[0,1,3,7,0,16,48,112,255,511,0,2047]
 | _,_=>[]
def okL:List Nat:=[3,4,6,7,8,9,12,14,15,16,17,18,19,21,22,23,33,34,35,36,37,38,39,40,46,63,64]
def b1e:List Nat:=[23]
def a5l:List Nat:=[3,4,5,6,7,8,9,17,20,21,22,41,64]
def a7f:List Nat:=[]
def tagL:List Nat:=[] ++ a5G
def argL:List Nat:=[] ++ a5G
theorem tys:tysB Tryz.prog T = true:=by kernel_rfl
theorem mixed:Tryz.prog.follows .mixedOrders = true:=by kernel_rfl
def a7U:Nat -> Option Hand
 | 41=>some (.plain a6P)
 | 13=>some (.via gPre a9v)
 | _=>none
noncomputable def a3P:Env:={ P:=Tryz.prog,T:=T,keep:=keep,byref:=fun _ _=>none,meth:=fun _ _=>none,tags:=fun g=>has g tagL,argTags:=fun g=>has g argL,quiet:=fun g=>has g a5l,loose:=fun _=>false,ok:=fun g=>has g okL,cut:=cut,a4I:=a4I,a1m:=a1m,sep:=sep,mask:=mask,look:=fun g=>has g b1e,frz:=fun g=>has g a7f,slk:=slk,full:=true,intr:=a7U }
theorem b1R:a4Z a3P okL = true:=by kernel_rfl
theorem b0y:a2i a3P:=by
 intro _ _ _ h
 cases h
theorem envOk0:a1Z a3P:=⟨b0y,a4B tys,mixed,a2u (fun _ h=>h) b1R,(fun g h hg=>by simp only [a3P,a7U] at hg; split at hg <;> first | (cases hg; done) | (cases hg; exact a7t)),(fun g pre post hg=>by simp only [a3P,a7U] at hg; split at hg <;> first | (cases hg; done) | (cases hg; exact a13))⟩
end Go.Proofs.YtamfchbgonekeaaGreatDoor
namespace Go.Proofs.YtamfchbgonekeaaGreatDoor.Aw
open Go Go.Vm
structure Flt where
 code:Int
 at_:Int
def a9j:List Flt -> List V
 | []=>[]
 | x :: r=>.i x.code :: .i x.at_ :: a9j r
structure Typ where
 kind:Int
 name:Str
 n:Int
 args:List Typ
mutual
def Typ.sub:Typ -> List V
 | ⟨_,_,_,a3⟩=>x9 a3
def x9:List Typ -> List V
 | []=>[]
 | x :: r=>.i x.kind :: .str x.name :: .i x.n :: .slice .sealed (List.length x.args) (x.sub) :: x9 r
end
def c1Typ (x:Typ):List V:=[.i x.kind,.str x.name,.i x.n,.sl x9 x.args]
theorem a1n:a0n 4 c1Typ x9:=⟨fun _=>rfl,rfl,fun x r=>by cases x; rfl⟩
structure Nod where
 op:Int
 s:Str
 n:Int
 t:Typ
 ts:List Typ
 l:List Nod
 at_:Int
mutual
def Nod.sub:Nod -> List V
 | ⟨_,_,_,_,_,a5,_⟩=>a9k a5
def a9k:List Nod -> List V
 | []=>[]
 | x :: r=>.i x.op :: .str x.s :: .i x.n :: .i x.t.kind :: .str x.t.name :: .i x.t.n :: .sl x9 x.t.args :: .sl x9 x.ts :: .slice .sealed (List.length x.l) (x.sub) :: .i x.at_ :: a9k r
end
def a5x (x:Nod):List V:=(c0 x.op x.s x.n x.t.kind x.t.name x.t.n (.sl x9 x.t.args) (.sl x9 x.ts) (.sl a9k x.l) x.at_)
end Go.Proofs.YtamfchbgonekeaaGreatDoor.Aw
namespace Go.Proofs.YtamfchbgonekeaaGreatDoor.Aw
open Go Go.Vm
def T:List (Nat × Ty):=[
 (1,⟨.func,1,8,[.nilFunc]⟩),
 (2,⟨.int .i64,1,8,[.i 0]⟩),
 (3,⟨.int .i64,1,8,[.i 0]⟩),
 (4,⟨.bool,1,1,[.bool false]⟩),
 (5,⟨.int .u8,1,1,[.int .u8 0]⟩),
 (9,⟨.string,1,16,[.str []]⟩),
 (24,⟨.slice 26,1,24,[.slice .nil 0 []]⟩),
 (26,⟨.struct [(3,0),(9,1),(3,2),(24,3)],4,56,[.i 0,.str [],.i 0,.slice .nil 0 []]⟩),
 (27,⟨.int .i64,1,8,[.i 0]⟩),
 (29,⟨.struct [(27,0),(3,1)],2,16,[.i 0,.i 0]⟩),
 (34,⟨.slice 36,1,24,[.slice .nil 0 []]⟩),
 (36,⟨.struct [(3,0),(9,1),(3,2),(26,3),(24,7),(34,8),(3,9)],10,144,[.i 0,.str [],.i 0,.i 0,.str [],.i 0,.slice .nil 0 [],.slice .nil 0 [],.slice .nil 0 [],.i 0]⟩),
 (37,⟨.slice 29,1,24,[.slice .nil 0 []]⟩),
 (41,⟨.ptr 48,1,8,[.nilptr]⟩),
 (46,⟨.slice 93,1,24,[.slice .nil 0 []]⟩),
 (48,⟨.struct [(46,0),(3,1),(3,2)],3,40,[.slice .nil 0 [],.i 0,.i 0]⟩),
 (50,⟨.ptr 53,1,8,[.nilptr]⟩),
 (51,⟨.slice 9,1,24,[.slice .nil 0 []]⟩),
 (53,⟨.struct [(51,0)],1,24,[.slice .nil 0 []]⟩),
 (54,⟨.func,1,8,[.nilFunc]⟩),
 (66,⟨.slice 5,1,24,[.slice .nil 0 []]⟩),
 (69,⟨.func,1,8,[.nilFunc]⟩),
 (71,⟨.iface,1,16,[.nilIface]⟩),
 (76,⟨.struct [(29,0)],2,16,[.i 0,.i 0]⟩),
 (83,⟨.ptr 87,1,8,[.nilptr]⟩),
 (85,⟨.struct [(9,0),(3,1)],2,24,[.str [],.i 0]⟩),
 (87,⟨.struct [(85,0),(46,2),(29,3)],5,64,[.str [],.i 0,.slice .nil 0 [],.i 0,.i 0]⟩),
 (93,⟨.struct [(3,0),(9,1),(3,2),(3,3)],4,40,[.i 0,.str [],.i 0,.i 0]⟩),
 (105,⟨.func,1,8,[.nilFunc]⟩),
 (115,⟨.slice 3,1,24,[.slice .nil 0 []]⟩),
 (120,⟨.ptr 85,1,8,[.nilptr]⟩),
 (123,⟨.array 32 9,32,512,[.str [],.str [],.str [],.str [],.str [],.str [],.str [],.str [],.str [],.str [],.str [],.str [],.str [],.str [],.str [],.str [],.str [],.str [],.str [],.str [],.str [],.str [],.str [],.str [],.str [],.str [],.str [],.str [],.str [],.str [],.str [],.str []]⟩),
 (125,⟨.array 27 9,27,432,[.str [],.str [],.str [],.str [],.str [],.str [],.str [],.str [],.str [],.str [],.str [],.str [],.str [],.str [],.str [],.str [],.str [],.str [],.str [],.str [],.str [],.str [],.str [],.str [],.str [],.str [],.str []]⟩),
 (147,⟨.slice 154,1,24,[.slice .nil 0 []]⟩),
 (154,⟨.struct [(51,0),(4,1)],2,32,[.slice .nil 0 [],.bool false]⟩),
 (175,⟨.array 24 5,24,24,[.int .u8 0,.int .u8 0,.int .u8 0,.int .u8 0,.int .u8 0,.int .u8 0,.int .u8 0,.int .u8 0,.int .u8 0,.int .u8 0,.int .u8 0,.int .u8 0,.int .u8 0,.int .u8 0,.int .u8 0,.int .u8 0,.int .u8 0,.int .u8 0,.int .u8 0,.int .u8 0,.int .u8 0,.int .u8 0,.int .u8 0,.int .u8 0]⟩),
 (176,⟨.int .u64,1,8,[.int .u64 0]⟩),
 (195,⟨.int .i64,1,8,[.i 0]⟩)]
def keep:Nat -> Nat -> List Nat
 | 10,7=>[2,4,6,7,8]
 | 15,8=>[0,2,3]
 | 27,3=>[2,3,9,10,11]
 | 28,13=>[0,48,49,50]
 | 28,21=>[0,69,70,71]
 | 28,37=>[0,118,119,120]
 | 36,5=>[0,1,4,5,6]
 | 36,9=>[0,1,4,7]
 | 42,2=>[0,1,2,7]
 | 51,4=>[0,3]
 | 57,3=>[1,5,11,12,13]
 | 57,6=>[1,5,7,11,12,13,17,18,19]
 | 60,5=>[0,3,23,24,25]
 | 60,15=>[0,52,53,54]
 | 66,0=>[0]
 | 75,3=>[0,3,4]
 | 83,4=>[0,3]
 | 86,2=>[0,1,7,8]
 | 87,1=>[0,2,8,9,10]
 | 89,3=>[0,10,11,12]
 | 98,2=>[0,1,5]
 | 102,2=>[0,1,5,6]
 | 109,5=>[0,3]
 | 111,2=>[0,3]
 | 112,40=>[0,140,141,142]
 | 135,3=>[0,2,6,7,14,15]
 | 135,6=>[0,2,6,7,9,14,15]
 | 142,4=>[0,2,3,4]
 | 147,27=>[0,2,3]
 | 153,10=>[5,6,47,48,49]
 | _,_=>[]
def cut:Nat -> Nat -> Bool
 | _,_=>false
def a5G:List Nat:=[12,15,18,19,20,23,24,25,27,28,33,34,35,36,37,38,42,46,49,50,51,54,56,57,60,61,63,64,66,67,69,72,74,75,76,82,83,84,85,87,89,90,91,92,97,98,101,102,103,109,110,111,112,113,116,117,124,126,133,134,135,141,142,146,147,153]
def a4I:Nat -> Nat -> Bool
 | f,_=>has f a5G
def a1m:Nat -> Nat -> Bool
 | f,_=>has f a5G
def slk:Nat -> Nat -> List (Nat × Nat)
 | _,_=>[]
def sep:Nat -> Nat -> Option (List Nat × List Nat)
 | 10,3=>some ([0,1,2,3,4],[5,1000002])
 | 12,2=>some ([0,1,2,3,5,4,6,7],[5])
 | 25,12=>some ([0,1,2,3,4,5,6],[30])
 | 25,22=>some ([0,1,2,3,4,5,6],[64])
 | 25,27=>some ([0,1,2,3,4,5,6],[79])
 | 36,11=>some ([0,2,3,1,4,5],[7])
 | 46,3=>some ([0,1,2,3,4,5,6,7,8,9,10,11,12,13],[32,28,24])
 | 49,3=>some ([0,1,2,3,4,5,6,7],[7])
 | 63,3=>some ([0,1,2,3,4,5,6,7,8,9,10,11],[20,18,14])
 | 82,5=>some ([0,1,2,3,4,5,6],[15])
 | 82,13=>some ([0,1,2,3,4,5,6],[41])
 | 116,18=>some ([0,1,2,3,4,5,6,7],[56])
 | 116,37=>some ([0,1,2,3,4,5,6,7],[112])
 | 116,45=>some ([0,1,2,3,4,5,6,7],[144])
 | 135,7=>some ([0,1,2,3,4,5,6,7,8,9,10,11,12,13,14,15],[77,75,72,68])
 | 135,9=>some ([0,1,3,4,5,6,2,7,8,9],[])
 | 142,5=>some ([0,2,3,4,5,1,6,7,8],[4,17])
 | 142,8=>some ([0,1,2,3,4,5,6],[25])
 | 142,12=>some ([0,1,2,3,4,5,6,7],[38,36])
 | 142,14=>some ([0,1,2,3,4,5,6],[48])
 | 147,26=>some ([0,1,2,3,4,5,6,7],[77])
 | 147,28=>some ([0,1,2,3,4,5,6,7],[86])
 | _,_=>none
def mask:Nat -> Nat -> List Nat
 | 10,3=>[0,0,2,1,15]
 | 12,2=>[0,0,2,7,15,0,31,127]
 | 25,12=>[0,1,0,4,15,31,63]
 | 25,22=>[0,1,0,4,15,31,63]
 | 25,27=>[0,1,0,4,15,31,63]
 | 36,11=>[0,1,0,4,15,31]
 | 46,3=>[0,1,3,7,0,16,48,112,0,496,1023,2047,0,8191]
 | 49,3=>[0,1,0,4,12,31,63,127]
 | 63,3=>[0,1,3,7,0,16,48,112,255,511,0,2047]
 | 82,5=>[0,1,0,4,15,31,63]
 | 82,13=>[0,1,0,4,15,31,63]
 | 116,18=>[0,1,0,4,12,31,63,127]
 | 116,37=>[0,1,0,4,12,31,63,127]
 | 116,45=>[0,1,0,4,12,31,63,127]
 | 135,7=>[0,1,3,7,0,16,48,112,255,511,1023,0,2048,8191,0,32767]
 | 135,9=>[0,0,2,0,0,16,56,127,0,511]
 | 142,5=>[0,1,0,4,0,16,63,0,255]
 | 142,8=>[0,1,0,4,15,31,63]
 | 142,12=>[0,1,0,4,0,16,63,127]
 | 142,14=>[0,1,0,4,15,31,63]
 | 147,26=>[0,1,0,4,12,31,63,127]
 | 147,28=>[0,1,0,4,12,31,63,127]
 | _,_=>[]
def okL:List Nat:=[5,10,12,15,18,19,20,23,24,25,27,28,33,34,35,36,37,38,42,46,49,50,51,54,55,56,57,60,61,63,64,66,67,69,71,72,73,74,75,76,82,83,84,85,86,87,89,90,91,92,96,97,98,100,101,102,103,109,110,111,112,113,116,117,124,126,133,134,135,136,141,142,143,146,147,149,153,158]
def b1e:List Nat:=[23]
def a5l:List Nat:=[5,10,11,55,71,73,86,96,100,136,143,149,158]
def a7f:List Nat:=[]
def tagL:List Nat:=[] ++ a5G
def argL:List Nat:=[] ++ a5G
theorem tys:tysB Tryz.prog T = true:=by kernel_rfl
theorem mixed:Tryz.prog.follows .mixedOrders = true:=by kernel_rfl
def a7U:Nat -> Option Hand
 | 41=>some (.plain a6P)
 | 13=>some (.via gPre a9v)
 | _=>none
noncomputable def a3P:Env:={ P:=Tryz.prog,T:=T,keep:=keep,byref:=fun _ _=>none,meth:=fun _ _=>none,tags:=fun g=>has g tagL,argTags:=fun g=>has g argL,quiet:=fun g=>has g a5l,loose:=fun _=>false,ok:=fun g=>has g okL,cut:=cut,a4I:=a4I,a1m:=a1m,sep:=sep,mask:=mask,look:=fun g=>has g b1e,frz:=fun g=>has g a7f,slk:=slk,full:=true,intr:=a7U }
theorem b1R:a4Z a3P okL = true:=by kernel_rfl
theorem b0y:a2i a3P:=by
 intro _ _ _ h
 cases h
theorem envOk0:a1Z a3P:=⟨b0y,a4B tys,mixed,a2u (fun _ h=>h) b1R,(fun g h hg=>by simp only [a3P,a7U] at hg; split at hg <;> first | (cases hg; done) | (cases hg; exact a7t)),(fun g pre post hg=>by simp only [a3P,a7U] at hg; split at hg <;> first | (cases hg; done) | (cases hg; exact a13))⟩
end Go.Proofs.YtamfchbgonekeaaGreatDoor.Aw
namespace Go.Vm
open Go
variable {env:Env}
def rho0:Rho:=⟨fun _=>none,fun _ _=>none⟩
def lab0:Lab:=fun _ _=>none
theorem rho0_le (ρ:Rho):rho0.le ρ:=⟨fun _ _ h=>(by cases h),fun _ _ _ h=>(by cases h)⟩
def a7l (B:Nat):Rho:=⟨fun k=>if k = 0 then some (some (B,0),none) else none,fun k n=>if k = 1 /\ n = 0 then some (none,0) else none⟩
def X5 (B:Nat):Lab:=fun b o=>if b = B /\ o = 0 then some (some 0) else none
def hp1:Hp:=[(0,.row [.slice (.tag 1) 0 []]),(1,.tip 0 0)]
theorem old_rel {w0 w:World} {B:Nat} (hB:w0.heap.size <= B) (hk:∀ b,b < w0.heap.size -> w.heap[b]? = w0.heap[b]?) {v:V} {x:Value} (h:Rel rho0 lab0 w0 v x):Rel (a7l B) (X5 B) w v x:=by
 have h1:Rel rho0 (X5 B) w v x:=by
  refine h.carry fun b o x h=>?_
  have hb:=L9 h.cell
  refine ⟨?_,?_⟩
  ·simp only [X5]
   rw [if_neg (by omega)]
  ·simp only [cellAt,World.cell?,hk b hb]
   exact h.cell
 exact h1.ext (Ext.refl _ _) (rho0_le _)
theorem sim1 {w:World} {B:Nat} (hc:w.cell? ⟨B,0,none⟩ = some (.slice none 0 0)) (hz:w.frozen? ⟨B,0,none⟩ = false):Sim (a7l B) (X5 B) hp1 w where
 row:=fun k cs h=>by
  have:k = 0 /\ cs = [.slice (.tag 1) 0 []]:=by
   simp only [hp1,hget] at h
   split at h
   ·rename_i hb; cases h; exact ⟨(Nat.eq_of_beq_eq_true hb).symm,rfl⟩
   ·split at h
    ·cases h
    ·cases h
  obtain ⟨rfl,rfl⟩:=this
  refine ⟨B,0,[.slice none 0 0],by simp [a7l],?_,fun i x hx=>?_⟩
  ·refine l9.2 ⟨_,_,rfl,.slice _ 0 [] [] 0 0 none 0 rfl (Nat.le_refl _) (fun h=>by omega) (fun _=>rfl) (fun i x h=>by simp at h) (fun i v x h=>by simp at h) (by simp [a7l]) (by simp) (by simp),⟨rfl,by simp⟩⟩
  ·match i,hx with
   | 0,hx =>
    cases hx
    exact ⟨⟨by simp [X5],hz,_,hc⟩,hc⟩
   | i + 1,hx=>simp at hx
 grow:=fun k e cs h=>by
  simp only [hp1,hget] at h
  split at h
  ·cases h
  ·split at h <;> cases h
 tip:=fun k e n h=>by
  have:k = 1 /\ e = 0 /\ n = 0:=by
   simp only [hp1,hget] at h
   split at h
   ·cases h
   ·split at h
    ·rename_i hb; cases h; exact ⟨(Nat.eq_of_beq_eq_true hb).symm,rfl,rfl⟩
    ·cases h
  obtain ⟨rfl,rfl,rfl⟩:=this
  exact ⟨none,0,by simp [a7l],Nat.le_refl _,fun _=>rfl,fun _=>rfl,fun a h=>by cases h⟩
 hdom:=fun k n x h=>by
  simp only [a7l] at h
  split at h
  ·rename_i hk
   obtain ⟨rfl,rfl⟩:=hk
   exact ⟨0,0,rfl,Nat.le_refl _⟩
  ·cases h
 adom:=fun k x h=>by
  simp only [a7l] at h
  split at h
  ·rename_i hk
   subst hk
   simp [hp1,hget]
  ·cases h
 ldom:=fun b o k h=>by
  simp only [X5] at h
  split at h
  ·rename_i hb
   obtain ⟨rfl,rfl⟩:=hb
   exact L9 hc
  ·cases h
theorem a6c {w w':World} {B:Nat} {lab':Lab} (E:Ext (X5 B) w lab' w'):Wrote B w w' :=
 ⟨E.size,E.os,E.tape,E.output,fun b hb hn=>E.blk b hb (fun o k h=>by
  simp only [X5] at h
  rw [if_neg (fun h=>hn h.1)] at h
  cases h)⟩
theorem b35 (hE:a1Z env) {g1 g2:Nat} {c:V} {H1 H2:Hp} {s:List UInt8}
  (h1:E env (.call g1 [.ptr 0 0,c]) hp1 = some (.ret (.tuple []) H1)) (h2:E env (.call g2 [.ptr 0 0]) H1 = some (.ret (.str s) H2))
  {w0 w:World} {B:Nat} (hB:w0.heap.size <= B) (hk:∀ b,b < w0.heap.size -> w.heap[b]? = w0.heap[b]?) (hc:w.cell? ⟨B,0,none⟩ = some (.slice none 0 0)) (hz:w.frozen? ⟨B,0,none⟩ = false) {x:Value} (hx:Rel rho0 lab0 w0 c x) :
  Calls env.P g1 #[.pointer (some ⟨B,0,none⟩),x] w fun e w1=>e = .returned (.tuple #[]) /\ Wrote B w w1 /\
   Calls env.P g2 #[.pointer (some ⟨B,0,none⟩)] w1 fun e w2=>e = .returned (.string ⟨⟨s⟩⟩) /\ Wrote B w w2:=by
 obtain ⟨k1,hk1⟩:=(T9 env).at_ _ _ _ h1
 obtain ⟨k2,hk2⟩:=(T9 env).at_ _ _ _ h2
 have hS:=sim1 hc hz
 have hp:Rel (a7l B) (X5 B) w (.ptr 0 0) (.pointer (some ⟨B,0 + 0,none⟩)):=.ptr 0 0 B 0 none (by simp [a7l])
 have hL:o8 (a7l B) (X5 B) w [.ptr 0 0,c] [.pointer (some ⟨B,0,none⟩),x]:=l9.2 ⟨_,_,rfl,hp,l9.2 ⟨_,_,rfl,old_rel hB hk hx,⟨rfl,by simp⟩⟩⟩
 have C1:=(a8A hE k1).1.call g1 _ _ _ hk1 (a7l B) (X5 B) w _ ⟨rfl,rfl,trivial⟩ hS hL
 refine C1.mono fun e w1 hP=>?_
 cases e with
 | returned v =>
  obtain ⟨ρ',lab',s1,s2,s3,s4,s5,s6⟩:=hP
  have hv:v = .tuple #[]:=by
   cases s4 with
   | tuple _ zs h1 h2 =>
    have:zs = []:=by simpa using h1
    subst this; rfl
  refine ⟨by rw [hv],a6c s2,?_⟩
  have ha:ρ'.at_ 0 = some (some (B,0),none):=s3.at_ 0 _ (by decide) (by simp [a7l])
  have hp2:Rel ρ' lab' w1 (.ptr 0 0) (.pointer (some ⟨B,0 + 0,none⟩)):=.ptr 0 0 B 0 none ha
  have hL2:o8 ρ' lab' w1 [.ptr 0 0] [.pointer (some ⟨B,0,none⟩)]:=l9.2 ⟨_,_,rfl,hp2,⟨rfl,by simp⟩⟩
  have C2:=(a8A hE k2).1.call g2 _ _ _ hk2 ρ' lab' w1 _ s5 s1 hL2
  refine C2.mono fun e w2 hP=>?_
  cases e with
  | returned v2 =>
   obtain ⟨ρ2,lab2,t1,t2,t3,t4,t5,t6⟩:=hP
   have hv2:v2 = .string ⟨⟨s⟩⟩:=by cases t4; rfl
   exact ⟨by rw [hv2],a6c (s2.trans t2)⟩
  | panicked ch=>exact hP.elim
  | outgrown=>exact hP.elim
 | panicked ch=>exact hP.elim
 | outgrown=>exact hP.elim
end Go.Vm
namespace Go.Proofs.YtamfchbgonekeaaGreatDoor.Aw
open Go Go.Vm Go.RowKit Go.Lib
theorem nf_rel0 {ρ:Rho} {lab:Lab} {w:World} {v:V} {x:Value} (h:Rel ρ lab w v x) (hn:NF v):Rel rho0 lab0 w v x:=NF.rel (fun _ _ _=>rfl) h hn
theorem a2y {p:Prop} (h:p):Hid p:=h
def a6r (c:List V) (s:List UInt8):Prop:=∃ H1 H2,E a3P (.call 28 [.ptr 0 0,.agg c]) hp1 = some (.ret (.tuple []) H1) /\ E a3P (.call 19 [.ptr 0 0]) H1 = some (.ret (.str s) H2)
def printed (l:List (List UInt8)):List UInt8:=(l.map (· ++ [10])).flatten
theorem b0C {l:List (List UInt8)} {k:Nat} {s:List UInt8} (h:l[k]? = some s):printed (l.take (k + 1)) = printed (l.take k) ++ s ++ [10]:=by
 unfold printed
 rw [List.take_add_one,h]
 simp
theorem b2n (l:List (List UInt8)) (k:Nat):(printed (l.take k)).length <= (printed l).length:=by
 have h:printed l = printed (l.take k) ++ printed (l.drop k):=by
  unfold printed
  rw [<- List.flatten_append,<- List.map_append,List.take_append_drop]
 rw [h,List.length_append]; omega
theorem bld_kept {T e:TypeId} {B0 b:Nat} {bs:List Value} {w w':World} (h:IsBuilder T e B0 b bs w) (hk:∀ k,k < w.heap.size -> w'.heap[k]? = w.heap[k]?):IsBuilder T e B0 b bs w':=by
 have key:∀ {p:Value},BuilderAt T e B0 b p bs w -> BuilderAt T e B0 b p bs w':=by
  rintro p ⟨h1,v,h2,h3,h4⟩
  have hb:b < w.heap.size:=by
   rcases Nat.lt_or_ge b w.heap.size with h | h
   ·exact h
   ·rw [Array.getElem?_eq_none h] at h2; cases h2
  refine ⟨h1,v,(hk b hb).trans h2,?_,h4⟩
  refine ⟨h3.1,?_⟩
  rcases h3.2 with h5 | ⟨g,cap,cur,h5,h6,h7,h8⟩
  ·exact .inl h5
  ·have hg:g < w.heap.size:=by
    rcases Nat.lt_or_ge g w.heap.size with h | h
    ·exact h
    ·rw [Array.getElem?_eq_none h] at h7; cases h7
   exact .inr ⟨g,cap,cur,h5,h6,(hk g hg).trans h7,h8⟩
 rcases h with h | h
 ·exact .inl (key h)
 ·exact .inr (key h)
theorem b0Y (T e:TypeId) (B0:Nat) (w:World) (hB:B0 <= w.heap.size):IsBuilder T e B0 w.heap.size [] (w.alloc (.cells #[.pointer none,.slice none 0 0] T)):=by
 have key:∀ {p:Value},BuilderAt T e w.heap.size w.heap.size p [] (w.alloc (.cells #[.pointer none,.slice none 0 0] T)) -> BuilderAt T e B0 w.heap.size p [] (w.alloc (.cells #[.pointer none,.slice none 0 0] T)):=by
  rintro p ⟨h1,v,h2,h3,h4⟩
  refine ⟨hB,v,h2,⟨h3.1,?_⟩,h4⟩
  rcases h3.2 with h5 | ⟨g,cp,cur,h5,h6,r⟩
  ·exact .inl h5
  ·exact .inr ⟨g,cp,cur,h5,by omega,r⟩
 rcases fresh_isBuilder T e w with h | h
 ·exact .inl (key h)
 ·exact .inr (key h)
structure Kid (w:World) (b o:Nat) (s:List UInt8) (k:Nat):Prop where
 ex:∃ c y0 y1 y2 y3 y4 y5 y6 y7 y8 y9,w.cell? ⟨b,o + k * 10,none⟩ = some y0 /\ w.cell? ⟨b,o + k * 10 + 1,none⟩ = some y1 /\ w.cell? ⟨b,o + k * 10 + 2,none⟩ = some y2 /\ w.cell? ⟨b,o + k * 10 + 3,none⟩ = some y3 /\
  w.cell? ⟨b,o + k * 10 + 4,none⟩ = some y4 /\ w.cell? ⟨b,o + k * 10 + 5,none⟩ = some y5 /\ w.cell? ⟨b,o + k * 10 + 6,none⟩ = some y6 /\ w.cell? ⟨b,o + k * 10 + 7,none⟩ = some y7 /\ w.cell? ⟨b,o + k * 10 + 8,none⟩ = some y8 /\ w.cell? ⟨b,o + k * 10 + 9,none⟩ = some y9 /\
  Rel rho0 lab0 w (.agg c) (.agg #[y0,y1,y2,y3,y4,y5,y6,y7,y8,y9]) /\ a6r c s /\ ∀ y ∈ [y0,y1,y2,y3,y4,y5,y6,y7,y8,y9],y.oneCell' = true
theorem b1H {a b:Nat} {w w':World} (h:a <= b) (hB:Below b w w'):Below a w w':=⟨hB.os,hB.tape,hB.output,hB.size,fun k hk=>hB.block k (by omega)⟩
theorem a9W (w:World) (cs:Array Value) (t:TypeId) (i:Nat) (v:Value) (hi:i < cs.size) (hv:v.oneCell' = true):(store ⟨w.heap.size,i,none⟩ v).run Tryz.prog (w.alloc (.cells cs t)) = .ok () (w.alloc (.cells (cs.setIfInBounds i v) t)):=by
 have h1:(w.alloc (.cells cs t)).cell? ⟨w.heap.size,i,none⟩ = some cs[i]:=by simp [hi]
 have h2:(w.alloc (.cells cs t)).frozen? ⟨w.heap.size,i,none⟩ = false:=by simp
 rw [run_store _ _ _ _ _ hv]
 simp [stored,go_sem,h1,h2,World.setCell_alloc_new]
theorem b2m (v0 v1 v2 v3 v4 v5 v6 v7 v9:Value) (ao:Option Addr) (b o cap:Nat) (l:List (List UInt8)) (w:World) (hn:l.length <= cap) (hao:0 < l.length -> ao = some ⟨b,o,none⟩)
  (hb:0 < l.length -> b < w.heap.size) (hN:l.length <= 140737488355328) (hK:∀ (k:Nat) s,l[k]? = some s -> Kid w b o s k) (hlen:(printed l).length <= 140737488355328) :
  Calls Tryz.prog 11 #[.agg #[v0,v1,v2,v3,v4,v5,v6,v7,.slice ao l.length cap,v9]] w fun e w'=>e = .returned (.string ⟨(printed l).toArray⟩) /\ Below w.heap.size w w':=by
 have HK:=a2y hK
 have Hlen:=a2y hlen
 have Hao:=a2y hao
 have Hb:=a2y hb
 clear hK hlen hao hb
 go_enter Tryz.func11,Tryz.ntmps11
 go_wp2_with fail
 go_loopw [10] (fun i wr=>∃ k:Nat,k <= l.length /\ i = .int .i64 k /\ Hid (IsBuilder 68 5 w.heap.size (w.heap.size + 1) (byteCells (printed (l.take k))) wr) /\ Hid (Below w.heap.size w wr)) (fun i _=>l.length - (RowKit.intOf i).toNat)
 case atStart =>
  refine ⟨0,Nat.zero_le _,rfl,a2y ?_,a2y ?_⟩
  ·have:=b0Y 68 5 w.heap.size (w.alloc (.cells #[v0,v1,v2,v3,v4,v5,v6,v7,.slice ao l.length cap,v9] 36)) (by rw [World.size_alloc]; omega)
   rw [World.size_alloc] at this
   exact this
  ·exact ((Below.refl w.heap.size w).alloc (Nat.le_refl _) _).alloc (by rw [World.size_alloc]; omega) _
 case round =>
  obtain ⟨k,hk,rfl,HB,HW⟩:=hrel
  by_cases hkn:k < l.length
  ·obtain ⟨s,hs⟩:∃ s,l[k]? = some s:=⟨l[k],List.getElem?_eq_getElem hkn⟩
   have hao:=Hao.out (by omega)
   subst hao
   have hbw:=Hb.out (by omega)
   obtain ⟨c,y0,y1,y2,y3,y4,y5,y6,y7,y8,y9,c0,c1,c2,c3,c4,c5,c6,c7,c8,c9,hr,hline,hone⟩:=(HK.out k s hs).ex
   have cc:∀ j,wr.cell? ⟨b,j,none⟩ = w.cell? ⟨b,j,none⟩:=fun j=>HW.out.cell (p:=⟨b,j,none⟩) hbw
   rw [<- cc] at c0 c1 c2 c3 c4 c5 c6 c7 c8 c9
   obtain ⟨H1,H2,q1,q2⟩:=hline
   have Q1:=a2y q1
   have Q2:=a2y q2
   have HR:=a2y hr
   have Hs:=a2y hs
   have hBw:=HW.out.size
   clear q1 q2 hr hs cc
   go_wp2_with fail
   rw [a9W _ _ _ _ _ (by simp) (hone _ (by simp))]
   simp only [Result.andThen]
   repeat (rw [a9W _ _ _ _ _ (by simp) (hone _ (by simp))]; simp only [Result.andThen])
   have hset:((((((((((#[Value.int .i64 0,.string { data:=#[] },.int .i64 0,.int .i64 0,.string { data:=#[] },.int .i64 0,.slice none 0 0,.slice none 0 0,.slice none 0 0,.int .i64 0].setIfInBounds 0 y0).setIfInBounds 1 y1).setIfInBounds 2 y2).setIfInBounds 3 y3).setIfInBounds 4 y4).setIfInBounds 5 y5).setIfInBounds 6 y6).setIfInBounds 7 y7).setIfInBounds 8 y8).setIfInBounds 9 y9) = #[y0,y1,y2,y3,y4,y5,y6,y7,y8,y9]:=by simp
   rw [hset]
   clear hset
   go_wp2_with fail
   have hsz:((wr.alloc (.cells #[y0,y1,y2,y3,y4,y5,y6,y7,y8,y9] 36)).alloc (.cells #[.slice none 0 0] 53)).heap.size = wr.heap.size + 2:=by rw [World.size_alloc,World.size_alloc]
   have hold:∀ j,j < wr.heap.size -> ((wr.alloc (.cells #[y0,y1,y2,y3,y4,y5,y6,y7,y8,y9] 36)).alloc (.cells #[.slice none 0 0] 53)).heap[j]? = wr.heap[j]?:=fun j hj =>
    (alloc_old _ _ j (by rw [World.size_alloc]; omega)).trans (alloc_old _ _ j hj)
   have hcW:((wr.alloc (.cells #[y0,y1,y2,y3,y4,y5,y6,y7,y8,y9] 36)).alloc (.cells #[.slice none 0 0] 53)).cell? ⟨wr.heap.size + 1,0,none⟩ = some (.slice none 0 0):=by
    have:=World.cell?_alloc_new (wr.alloc (.cells #[y0,y1,y2,y3,y4,y5,y6,y7,y8,y9] 36)) #[.slice none 0 0] 53 0
    rw [World.size_alloc] at this
    exact this
   have hzW:((wr.alloc (.cells #[y0,y1,y2,y3,y4,y5,y6,y7,y8,y9] 36)).alloc (.cells #[.slice none 0 0] 53)).frozen? ⟨wr.heap.size + 1,0,none⟩ = false:=by
    have:=World.frozen?_alloc_new (wr.alloc (.cells #[y0,y1,y2,y3,y4,y5,y6,y7,y8,y9] 36)) #[.slice none 0 0] 53 0
    rw [World.size_alloc] at this
    exact this
   refine (b35 envOk0 Q1.out Q2.out (w0:=w) (w:=((wr.alloc (.cells #[y0,y1,y2,y3,y4,y5,y6,y7,y8,y9] 36)).alloc (.cells #[.slice none 0 0] 53))) (B:=wr.heap.size + 1) (by omega) (fun j hj=>(hold j (by omega)).trans (HW.out.block j hj)) hcW hzW HR.out).mono ?_
   rintro e w1 ⟨rfl,hw1,C2⟩
   have CC:=a2y C2
   clear C2 hcW hzW
   go_wp2_with fail
   refine CC.out.mono ?_
   rintro e w2 ⟨rfl,hw2⟩
   have hk2:∀ j,j < wr.heap.size -> w2.heap[j]? = wr.heap[j]?:=fun j hj=>(hw2.blk j (by omega) (by omega)).trans (hold j hj)
   have hs2:wr.heap.size <= w2.heap.size:=by have:=hw2.size; omega
   have hlen:=Hlen.out
   have hlk:=b2n l (k + 1)
   have hpt:=b0C Hs.out
   rw [hpt,List.length_append,List.length_append,List.length_singleton] at hlk
   have HB2:=a2y (bld_kept HB.out hk2)
   have HW2:=a2y (⟨hw2.os,hw2.tape,hw2.output,hs2,fun j hj=>hk2 j (by omega)⟩:Below wr.heap.size wr w2)
   have Hpt:=a2y hpt
   clear hw1 hw2 hk2 CC hold hsz hpt
   go_wp2_with fail
   refine (Tryz.Builder_WriteString w.heap.size (w.heap.size + 1) _ ⟨⟨s⟩⟩ w2 HB2.out (by rw [byteCells_length]; simp only [ByteArray.size]; simp; omega) (by omega)).mono ?_
   rintro e w3 ⟨rfl,h3,hb3⟩
   have H3:=a2y h3
   have Hb3:=a2y hb3
   clear h3 hb3
   go_wp2_with fail
   refine (Tryz.Builder_WriteByte w.heap.size (w.heap.size + 1) _ 10 w3 (.inr H3.out) (by rw [List.length_append,byteCells_length,strCells_length]; simp only [ByteArray.size]; simp; omega) (by have:=Hb3.out.size; omega)).mono ?_
   rintro e w4 ⟨rfl,h4,hb4⟩
   have hnext:byteCells (printed (l.take k)) ++ strCells ⟨⟨s⟩⟩ ++ [.int .u8 10] = byteCells (printed (l.take (k + 1))):=by
    rw [Hpt.out,strCells_eq,byteCells_append,byteCells_append]
    rfl
   rw [hnext] at h4
   have H4:=a2y (Or.inr h4:IsBuilder 68 5 w.heap.size (w.heap.size + 1) _ w4)
   have Hb4:=a2y ((HW.out.trans (b1H hBw HW2.out)).trans (Hb3.out.trans hb4))
   clear h4 hb4 hnext
   go_wp2
   exact ⟨⟨k + 1,by omega,by go_num,H4,Hb4⟩,by simp [RowKit.intOf]; omega⟩
  ·have hke:k = l.length:=by omega
   subst hke
   have hB':=HB.out
   rw [List.take_length] at hB'
   have hBw:=HW.out.size
   have HB2:=a2y hB'
   clear hB'
   go_wp2_with fail
   refine (Tryz.Builder_String_any w.heap.size (w.heap.size + 1) _ wr HB2.out hBw).mono ?_
   rintro e w5 ⟨rfl,hb5⟩
   have Hb5:=a2y (HW.out.trans hb5)
   clear hb5
   go_wp2
   go_ret
   exact ⟨rfl,Hb5.out⟩
theorem b2b {c:List V} {s s':List UInt8} (h:a6r c s) (g:a6r c s'):s = s':=by
 obtain ⟨H1,H2,a1,a2⟩:=h
 obtain ⟨K1,K2,b1,b2⟩:=g
 rw [a1] at b1
 cases b1
 rw [a2] at b2
 cases b2
 rfl
inductive Lines:List V -> List (List UInt8) -> Prop
 | nil:Lines [] []
 | cons (c r:List V) (s:List UInt8) (l:List (List UInt8)):c.length = 10 -> a6r c s -> Lines r l -> Lines (c ++ r) (s :: l)
theorem Lines.det {cs:List V} {l:List (List UInt8)} (h:Lines cs l):∀ {l'},Lines cs l' -> l = l':=by
 induction h with
 | nil =>
  intro l' g
  generalize hq:([]:List V) = q at g
  cases g with
  | nil=>rfl
  | cons c r s l h1 h2 h3 =>
   have:=congrArg List.length hq
   rw [List.length_append] at this
   simp at this
   omega
 | cons c r s l h1 h2 h3 ih =>
  intro l' g
  generalize hq:c ++ r = q at g
  cases g with
  | nil =>
   have:=congrArg List.length hq
   rw [List.length_append,h1] at this
   simp only [List.length_nil] at this
   omega
  | cons c' r' s' l'' g1 g2 g3 =>
   obtain ⟨rfl,rfl⟩:=List.append_inj hq (by rw [h1,g1])
   rw [b2b h2 g2,ih g3]
theorem Lines.get {cs:List V} {l:List (List UInt8)} (h:Lines cs l):∀ {k:Nat} {s:List UInt8},l[k]? = some s -> a6r ((cs.drop (k * 10)).take 10) s /\ k * 10 + 10 <= cs.length:=by
 induction h with
 | nil=>intro k s h; simp at h
 | cons c r s0 l h1 h2 h3 ih =>
  intro k s hk
  cases k with
  | zero =>
   simp only [List.getElem?_cons_zero,Option.some.injEq] at hk
   subst hk
   refine ⟨?_,by rw [List.length_append]; omega⟩
   rw [Nat.zero_mul,List.drop_zero,List.take_append_of_le_length (by omega),List.take_of_length_le (by omega)]
   exact h2
  | succ k =>
   simp only [List.getElem?_cons_succ] at hk
   obtain ⟨g1,g2⟩:=ih hk
   refine ⟨?_,by rw [List.length_append]; omega⟩
   rw [show (k + 1) * 10 = c.length + k * 10 from by omega,<- List.drop_drop,List.drop_left]
   exact g1
noncomputable def a5k:List V -> Hp -> Option Out:=fun args H=>match args with
 | [.agg [_,_,_,_,_,_,_,_,.slice _ n cs,_]]=>@dite _ (∃ l,Lines cs l /\ l.length = n /\ l.length <= 140737488355328 /\ (printed l).length <= 140737488355328) (Classical.propDecidable _) (fun h=>some (.ret (.str (printed h.choose)) H)) (fun _=>none)
 | _=>none
theorem b3H {c0 c1 c2 c3 c4 c5 c6 c7 c9:V} {ow:Own} {n:Nat} {cs:List V} {l:List (List UInt8)} {H:Hp} (h:Lines cs l) (hn:l.length = n) (hN:l.length <= 140737488355328) (hl:(printed l).length <= 140737488355328) :
  a5k [.agg [c0,c1,c2,c3,c4,c5,c6,c7,.slice ow n cs,c9]] H = some (.ret (.str (printed l)) H):=by
 have hex:∃ l,Lines cs l /\ l.length = n /\ l.length <= 140737488355328 /\ (printed l).length <= 140737488355328:=⟨l,h,hn,hN,hl⟩
 have he:hex.choose = l:=(h.det hex.choose_spec.1).symm
 simp only [a5k]
 rw [dif_pos hex,he]
theorem ten {α:Type} (l:List α) (h:l.length = 10):∃ y0 y1 y2 y3 y4 y5 y6 y7 y8 y9,l = [y0,y1,y2,y3,y4,y5,y6,y7,y8,y9]:=by
 match l,h with
 | [y0,y1,y2,y3,y4,y5,y6,y7,y8,y9],_=>exact ⟨_,_,_,_,_,_,_,_,_,_,rfl⟩
theorem a4g:a6d Tryz.prog 11 a5k:=by
 refine ⟨fun args H out h ρ lab w xs hc hS hx=>?_,⟨_,_,Tryz.func11,rfl,rfl⟩⟩
 unfold a5k at h
 split at h
 ·rename_i c0 c1 c2 c3 c4 c5 c6 c7 ow n cs c9
  split at h
  ·rename_i hex
   cases h
   obtain ⟨hL,hn,hN,hlen⟩:=hex.choose_spec
   generalize hex.choose = l at hL hn hN hlen
   obtain ⟨x1,r1,rfl,a1,a2⟩:=l9.1 hx
   have:r1 = []:=by have:=a2.1; simpa using this
   subst this
   cases a1 with
   | agg _ vs e1 e2 =>
   obtain ⟨v0,v1,v2,v3,v4,v5,v6,v7,v8,v9,rfl⟩:=ten vs (by rw [e1]; rfl)
   have q8:=e2 8 _ _ rfl rfl
   cases q8 with
   | slice _ _ _ ys b o ao cap g1 g2 g3 g4 g5 g6 g7 g8 g9 =>
   subst hn
   have K:=b2m v0 v1 v2 v3 v4 v5 v6 v7 v9 ao b o cap l w g2 g3 (fun h0=>?_) hN (fun k s hk=>⟨?_⟩) hlen
   ·refine K.mono fun e w' ⟨he,hw⟩=>?_
    subst he
    have G:L6 w w':=⟨hw.size,hw.os,hw.tape,hw.output,fun b hb=>hw.block b hb⟩
    exact ⟨ρ,lab,hS.grew G,G.ext lab,⟨fun _ _ _ h=>h,fun _ _ _ _ h=>h⟩,.str _,hc,Nat.le_refl _⟩
   ·obtain ⟨_,h2⟩:=hL.get (List.getElem?_eq_getElem h0)
    have hy:0 < ys.length:=by rw [g1]; omega
    have:=g5 0 ys[0] (by simp [hy])
    exact L9 this.cell
   ·obtain ⟨h1,h2⟩:=hL.get hk
    have hlen2:((ys.drop (k * 10)).take 10).length = 10:=by
     rw [List.length_take,List.length_drop,g1]; omega
    obtain ⟨y0,y1,y2,y3,y4,y5,y6,y7,y8,y9,hy⟩:=ten _ hlen2
    have get:∀ j,j < 10 -> ∀ y,[y0,y1,y2,y3,y4,y5,y6,y7,y8,y9][j]? = some y -> ys[k * 10 + j]? = some y:=by
     intro j hj y hyj
     rw [<- hy,List.getElem?_take,if_pos hj,List.getElem?_drop] at hyj
     exact hyj
    have cell:∀ j,j < 10 -> ∀ y,[y0,y1,y2,y3,y4,y5,y6,y7,y8,y9][j]? = some y -> w.cell? ⟨b,o + k * 10 + j,none⟩ = some y:=by
     intro j hj y hyj
     have:=(g5 _ _ (get j hj y hyj)).cell
     rw [<- Nat.add_assoc] at this
     exact this
    refine ⟨(cs.drop (k * 10)).take 10,y0,y1,y2,y3,y4,y5,y6,y7,y8,y9,cell 0 (by omega) _ rfl,cell 1 (by omega) _ rfl,cell 2 (by omega) _ rfl,cell 3 (by omega) _ rfl,cell 4 (by omega) _ rfl,cell 5 (by omega) _ rfl,cell 6 (by omega) _ rfl,cell 7 (by omega) _ rfl,cell 8 (by omega) _ rfl,cell 9 (by omega) _ rfl,?_,h1,?_⟩
    ·refine .agg _ [y0,y1,y2,y3,y4,y5,y6,y7,y8,y9] ?_ (fun i v x hv hx=>?_)
     ·rw [List.length_take,List.length_drop]
      show 10 = _
      omega
     ·have hi:i < 10:=by
       rcases Nat.lt_or_ge i 10 with h | h
       ·exact h
       ·rw [List.getElem?_eq_none (by simpa using h)] at hx; cases hx
      rw [List.getElem?_take,if_pos hi,List.getElem?_drop] at hv
      exact nf_rel0 (g6 _ _ _ hv (get i hi x hx)) (g9 v (List.mem_of_getElem? hv))
    ·intro y hyy
     obtain ⟨j,hj,rfl⟩:=List.mem_iff_getElem.1 hyy
     exact g8 _ (List.mem_of_getElem? (get j (by simpa using hj) _ (by simp [hj])))
  ·cases h
 ·cases h
end Go.Proofs.YtamfchbgonekeaaGreatDoor.Aw
namespace Go.Proofs.YtamfchbgonekeaaGreatDoor.Aw
open Go Go.Vm
noncomputable def a7V:Nat -> Option Hand
 | 41=>some (.plain a6P)
 | 11=>some (.plain a5k)
 | 13=>some (.via gPre a9v)
 | _=>none
noncomputable def env:Env:={ P:=Tryz.prog,T:=T,keep:=keep,byref:=fun _ _=>none,meth:=fun _ _=>none,tags:=fun g=>has g tagL,argTags:=fun g=>has g argL,quiet:=fun g=>has g a5l,loose:=fun _=>false,ok:=fun g=>has g okL,cut:=cut,a4I:=a4I,a1m:=a1m,sep:=sep,mask:=mask,look:=fun g=>has g b1e,frz:=fun g=>has g a7f,slk:=slk,full:=true,intr:=a7V }
theorem codes:a4Z env okL = true:=by kernel_rfl
theorem a8i:a2i env:=by
 intro _ _ _ h
 cases h
theorem b0S:a1Z env:=⟨a8i,a4B tys,mixed,a2u (fun _ h=>h) codes,(fun g h hg=>by simp only [env,a7V] at hg; split at hg <;> first | (cases hg; done) | (cases hg; exact a7t) | (cases hg; exact a4g)),(fun g pre post hg=>by simp only [env,a7V] at hg; split at hg <;> first | (cases hg; done) | (cases hg; exact a13))⟩
end Go.Proofs.YtamfchbgonekeaaGreatDoor.Aw
namespace Go.Proofs.YtamfchbgonekeaaGreatDoor.Aw
open Go Go.Vm
def srcA:List UInt8:=[102,117,110,99,32,102,40,120,58,32,73,110,116,41,32,45,62,32,73,110,116,32,123,32,114,101,116,117,114,110,32,120,32,43,32,50,32,42,32,51,59,32,125]
def decA:List V:=[.i 7,.str [102],.i 1,.i 1,.str [],.i 0,.slice .sealed 0 [],.slice .sealed 0 [],.slice .sealed 2 [.i 10,.str [120],.i 0,.i 1,.str [],.i 0,.slice .sealed 0 [],.slice .sealed 0 [],.slice .sealed 0 [],.i 7,.i 20,.str [],.i 0,.i 0,.str [],.i 0,.slice .sealed 0 [],.slice .sealed 0 [],.slice .sealed 1 [.i 28,.str [],.i 0,.i 0,.str [],.i 0,.slice .sealed 0 [],.slice .sealed 0 [],.slice .sealed 1 [.i 64,.str [43],.i 0,.i 0,.str [],.i 0,.slice .sealed 0 [],.slice .sealed 0 [],.slice .sealed 2 [.i 54,.str [120],.i 0,.i 0,.str [],.i 0,.slice .sealed 0 [],.slice .sealed 0 [],.slice .sealed 0 [],.i 31,.i 64,.str [42],.i 0,.i 0,.str [],.i 0,.slice .sealed 0 [],.slice .sealed 0 [],.slice .sealed 2 [.i 50,.str [],.i 2,.i 0,.str [],.i 0,.slice .sealed 0 [],.slice .sealed 0 [],.slice .sealed 0 [],.i 35,.i 50,.str [],.i 3,.i 0,.str [],.i 0,.slice .sealed 0 [],.slice .sealed 0 [],.slice .sealed 0 [],.i 39],.i 35],.i 31],.i 24],.i 22],.i 0]
def cellsA:List V:=[.i 1,.str [],.i 0,.i 0,.str [],.i 0,.slice .sealed 0 [],.slice .sealed 0 [],.slice .sealed 1 [.i 7,.str [102],.i 1,.i 1,.str [],.i 0,.slice .sealed 0 [],.slice .sealed 0 [],.slice .sealed 2 [.i 10,.str [120],.i 0,.i 1,.str [],.i 0,.slice .sealed 0 [],.slice .sealed 0 [],.slice .sealed 0 [],.i 7,.i 20,.str [],.i 0,.i 0,.str [],.i 0,.slice .sealed 0 [],.slice .sealed 0 [],.slice .sealed 1 [.i 28,.str [],.i 0,.i 0,.str [],.i 0,.slice .sealed 0 [],.slice .sealed 0 [],.slice .sealed 1 [.i 64,.str [43],.i 0,.i 0,.str [],.i 0,.slice .sealed 0 [],.slice .sealed 0 [],.slice .sealed 2 [.i 54,.str [120],.i 0,.i 0,.str [],.i 0,.slice .sealed 0 [],.slice .sealed 0 [],.slice .sealed 0 [],.i 31,.i 64,.str [42],.i 0,.i 0,.str [],.i 0,.slice .sealed 0 [],.slice .sealed 0 [],.slice .sealed 2 [.i 50,.str [],.i 2,.i 0,.str [],.i 0,.slice .sealed 0 [],.slice .sealed 0 [],.slice .sealed 0 [],.i 35,.i 50,.str [],.i 3,.i 0,.str [],.i 0,.slice .sealed 0 [],.slice .sealed 0 [],.slice .sealed 0 [],.i 39],.i 35],.i 31],.i 24],.i 22],.i 0],.i 0]
def hpA:Hp:=[(0,.row [.slice (.tag 1) 22 [.str [102,117,110,99],.str [102],.str [40],.str [120],.str [58],.str [73,110,116],.str [41],.str [45,62],.str [73,110,116],.str [123],.str [114,101,116,117,114,110],.str [40],.str [120],.str [43],.str [40],.str [50],.str [42],.str [51],.str [41],.str [41],.str [59],.str [125]]]),(1,.tip 1 22)]
def hpB:Hp:=[(0,.row [.slice (.tag 1) 22 [.str [102,117,110,99],.str [102],.str [40],.str [120],.str [58],.str [73,110,116],.str [41],.str [45,62],.str [73,110,116],.str [123],.str [114,101,116,117,114,110],.str [40],.str [120],.str [43],.str [40],.str [50],.str [42],.str [51],.str [41],.str [41],.str [59],.str [125]]]),(1,.tip 1 22)]
def a6S:List UInt8:=[102,117,110,99,32,102,32,40,32,120,32,58,32,73,110,116,32,41,32,45,62,32,73,110,116,32,123,32,114,101,116,117,114,110,32,40,32,120,32,43,32,40,32,50,32,42,32,51,32,41,32,41,32,59,32,125]
def a8k:Nod:=⟨1,[],0,⟨0,[],0,[]⟩,[],[⟨7,[102],1,⟨1,[],0,[]⟩,[],[⟨10,[120],0,⟨1,[],0,[]⟩,[],[],7⟩,⟨20,[],0,⟨0,[],0,[]⟩,[],[⟨28,[],0,⟨0,[],0,[]⟩,[],[⟨64,[43],0,⟨0,[],0,[]⟩,[],[⟨54,[120],0,⟨0,[],0,[]⟩,[],[],31⟩,⟨64,[42],0,⟨0,[],0,[]⟩,[],[⟨50,[],2,⟨0,[],0,[]⟩,[],[],35⟩,⟨50,[],3,⟨0,[],0,[]⟩,[],[],39⟩],35⟩],31⟩],24⟩],22⟩],0⟩],0⟩
theorem modA_run:run env 400 (.call 10 [.str srcA]) [] = some (.ret (.tuple [.agg cellsA,.slice .sealed 0 []]) []):=by kernel_rfl
theorem b3o:run a3P 400 (.call 28 [.ptr 0 0,.agg decA]) hp1 = some (.ret (.tuple []) hpA):=by kernel_rfl
theorem b33:run a3P 400 (.call 19 [.ptr 0 0]) hpA = some (.ret (.str a6S) hpB):=by kernel_rfl
theorem modA_enc:(some (.ret (.tuple [.agg cellsA,.slice .sealed 0 []]) []):Option Out) = some (.ret (.tuple [.agg (a5x a8k),.slice .sealed 0 (a9j [])]) []):=by kernel_rfl
theorem modA_E:E env (.call 10 [.str srcA]) [] = some (.ret (.tuple [.agg (a5x a8k),.slice .sealed 0 (a9j [])]) []):=((T9 env).le 400 _ _ _ modA_run).trans modA_enc
theorem lineA_ok:a6r decA a6S:=⟨hpA,hpB,(T9 a3P).le 400 _ _ _ b3o,(T9 a3P).le 400 _ _ _ b33⟩
theorem linesA:Lines (decA ++ []) [a6S]:=.cons decA [] a6S [] (by kernel_rfl) lineA_ok .nil
theorem printA_E:E env (.call 11 [.agg (a5x a8k)]) [] = some (.ret (.str (printed [a6S])) []):=by
 refine a97 ?_
 have hi:env.intr 11 = some (.plain a5k):=rfl
 show (match env.intr 11 with
  | some (.plain h)=>h [.agg (a5x a8k)] []
  | some (.via pre post)=>match pre [.agg (a5x a8k)] [] with
   | some (g',l,H')=>match E env (.call g' l) H' with
    | some o=>post [.agg (a5x a8k)] [] o
    | none=>none
   | none=>none
  | none=>Y9 env (E env) 11 [.agg (a5x a8k)] []) = _
 rw [hi]
 show a5k _ _ = _
 have hc:(a5x a8k) = [.i 1,.str [],.i 0,.i 0,.str [],.i 0,.slice .sealed 0 [],.slice .sealed 0 [],.slice .sealed 1 (decA ++ []),.i 0]:=by kernel_rfl
 rw [hc]
 exact b3H linesA rfl (by decide) (by decide)
end Go.Proofs.YtamfchbgonekeaaGreatDoor.Aw
namespace Go.Proofs.YtamfchbgonekeaaGreatDoor.Aw
open Go Go.Vm
def modG (V4:Str):Option (Nod × List Flt):=match decide (V4 = srcA) with
 | true=>some (a8k,[])
 | false=>none
noncomputable def a8u (n1:Nod):Option Str:=match E env (.call 11 [.agg (c0 n1.op n1.s n1.n n1.t.kind n1.t.name n1.t.n (.sl x9 n1.t.args) (.sl x9 n1.ts) (.sl a9k n1.l) n1.at_)]) [] with
 | some (.ret (.str s) [])=>some s
 | _=>none
end Go.Proofs.YtamfchbgonekeaaGreatDoor.Aw
namespace Go.Proofs.YtamfchbgonekeaaGreatDoor.Aw
open Go Go.Vm
noncomputable def a18:Option (Bool) :=
 (modG [102,117,110,99,32,102,40,120,58,32,73,110,116,41,32,45,62,32,73,110,116,32,123,32,114,101,116,117,114,110,32,120,32,43,32,50,32,42,32,51,59,32,125]).bind fun (nn1,ll2) =>
 cond (eqB (List.length ll2:Int) 0) (
 (a8u nn1).bind fun rr3 =>
 some ((eqS rr3 [102,117,110,99,32,102,32,40,32,120,32,58,32,73,110,116,32,41,32,45,62,32,73,110,116,32,123,32,114,101,116,117,114,110,32,40,32,120,32,43,32,40,32,50,32,42,32,51,32,41,32,41,32,59,32,125,10]))) (
 some (false))
def a7g:Bool -> Out
 | a0l=>.ret (.bool a0l) []
end Go.Proofs.YtamfchbgonekeaaGreatDoor.Aw
namespace Go.Proofs.YtamfchbgonekeaaGreatDoor.Aw
open Go Go.Vm
theorem modG_ok {V4:Str} {nn:Nod} {ll:List Flt} (h:modG V4 = some (nn,ll)):E env (.call 10 [.str V4]) [] = some (.ret (.tuple [.agg (c0 nn.op nn.s nn.n nn.t.kind nn.t.name nn.t.n (.sl x9 nn.t.args) (.sl x9 nn.ts) (.sl a9k nn.l) nn.at_),.sl a9j ll]) []):=by
 unfold modG at h
 split at h
 ·rename_i hs
  have hs:=of_decide_eq_true hs
  subst hs
  cases h
  exact modA_E
 ·cases h
theorem b3G {n1:Nod} {rr:Str} (h:a8u n1 = some rr):E env (.call 11 [.agg (c0 n1.op n1.s n1.n n1.t.kind n1.t.name n1.t.n (.sl x9 n1.t.args) (.sl x9 n1.ts) (.sl a9k n1.l) n1.at_)]) [] = some (.ret (.str rr) []):=by
 unfold a8u at h
 split at h
 ·rename_i he
  cases h
  exact he
 ·cases h
end Go.Proofs.YtamfchbgonekeaaGreatDoor.Aw
namespace Go.Proofs.YtamfchbgonekeaaGreatDoor.Aw
open Go Go.Vm
theorem a7Z {r:Bool} (h:a18 = some r) :
  E env (.call 5 []) [] = some (a7g r):=by
 unfold a18 at h
 refine H6 rfl Tryz.func5 rfl rfl ?_
 refine eSG (oB 1 rfl (eSG ?_))
 obtain ⟨⟨nn1,ll2⟩,g1,h⟩:=l8 h
 obtain ⟨nn1_0,nn1_1,nn1_2,⟨nn1_3,nn1_4,nn1_5,nn1_6⟩,nn1_7,nn1_8,nn1_9⟩:=nn1
 refine F4 rfl rfl rfl rfl rfl (modG_ok g1) rfl ?_
 refine oB 6 rfl (eSG (oA 4 rfl ?_))
 refine A8 rfl rfl rfl (fun g2=>?_) (fun g2=>?_)
 ·replace h:=a0y h g2
  refine oA 1 rfl ?_
  obtain ⟨rr3,g3,h⟩:=l8 h
  refine F4 rfl rfl rfl rfl rfl (b3G g3) rfl ?_
  refine oB 3 rfl ?_
  cases h
  exact j5 ⟨_,_,_,rfl,rfl,rfl⟩
 ·replace h:=a0x h g2
  refine oB 5 rfl ?_
  cases h
  exact j5 ⟨_,_,_,rfl,rfl,rfl⟩
end Go.Proofs.YtamfchbgonekeaaGreatDoor.Aw
namespace Go.Proofs.YtamfchbgonekeaaGreatDoor.Aw
open Go Go.Vm
theorem U3 {a b:Int} (h:a = b):eqB a b = true:=by simp [eqB,h]
theorem a3R (s:Str):eqS s s = true:=by simp [eqS]
theorem awake_ok:a18 = some true:=by
 unfold a18
 have h1:modG [102,117,110,99,32,102,40,120,58,32,73,110,116,41,32,45,62,32,73,110,116,32,123,32,114,101,116,117,114,110,32,120,32,43,32,50,32,42,32,51,59,32,125] = some (a8k,[]):=by
  unfold modG
  rw [show decide (_ = srcA) = true from by decide]
 rw [h1,Option.bind_some]
 simp only [List.length_nil]
 rw [show eqB ((0:Nat):Int) 0 = true from U3 rfl,cond_true]
 have h2:a8u a8k = some (printed [a6S]):=by
  unfold a8u
  have h3:=printA_E
  unfold a5x at h3
  rw [h3]
 rw [h2,Option.bind_some]
 have h4:eqS (printed [a6S]) [102,117,110,99,32,102,32,40,32,120,32,58,32,73,110,116,32,41,32,45,62,32,73,110,116,32,123,32,114,101,116,117,114,110,32,40,32,120,32,43,32,40,32,50,32,42,32,51,32,41,32,41,32,59,32,125,10] = true:=by
  have:printed [a6S] = [102,117,110,99,32,102,32,40,32,120,32,58,32,73,110,116,32,41,32,45,62,32,73,110,116,32,123,32,114,101,116,117,114,110,32,40,32,120,32,43,32,40,32,50,32,42,32,51,32,41,32,41,32,59,32,125,10]:=by decide
  rw [this,a3R]
 rw [h4]
theorem awake_E:E env (.call 5 []) [] = some (.ret (.bool true) []):=a7Z awake_ok
def b1F:List V -> Option V:=fun args=>match args with
 | []=>some (.bool true)
 | _=>none
theorem b1G:a6d Tryz.prog 5 (valI b1F):=by
 refine b3g b0S (fun args v h=>?_) ⟨_,_,Tryz.func5,by kernel_rfl,rfl⟩
 unfold b1F at h
 split at h
 ·cases h
  exact ⟨rfl,rfl,awake_E⟩
 ·cases h
end Go.Proofs.YtamfchbgonekeaaGreatDoor.Aw
namespace Go.Proofs.YtamfchbgonekeaaGreatDoor
open Go Go.Vm
noncomputable def a7V:Nat -> Option Hand
 | 41=>some (.plain a6P)
 | 20=>some (.plain (valI Sc.tokF))
 | 5=>some (.plain (valI Aw.b1F))
 | 13=>some (.via gPre a9v)
 | _=>none
noncomputable def env:Env:={ P:=Tryz.prog,T:=T,keep:=keep,byref:=fun _ _=>none,meth:=fun _ _=>none,tags:=fun g=>has g tagL,argTags:=fun g=>has g argL,quiet:=fun g=>has g a5l,loose:=fun _=>false,ok:=fun g=>has g okL,cut:=cut,a4I:=a4I,a1m:=a1m,sep:=sep,mask:=mask,look:=fun g=>has g b1e,frz:=fun g=>has g a7f,slk:=slk,full:=true,intr:=a7V }
theorem codes:a4Z env okL = true:=by kernel_rfl
theorem a8i:a2i env:=by
 intro _ _ _ h
 cases h
theorem b0S:a1Z env:=⟨a8i,a4B tys,mixed,a2u (fun _ h=>h) codes,(fun g h hg=>by simp only [env,a7V] at hg; split at hg <;> first | (cases hg; done) | (cases hg; exact a7t) | (cases hg; exact Sc.tok_intr) | (cases hg; exact Aw.b1G)),(fun g pre post hg=>by simp only [env,a7V] at hg; split at hg <;> first | (cases hg; done) | (cases hg; exact a13))⟩
end Go.Proofs.YtamfchbgonekeaaGreatDoor
namespace Go.Proofs.YtamfchbgonekeaaGreatDoor
open Go Go.Vm
theorem a9X:∀ l:List Str,strsOf (clS l) = some l
 | []=>rfl
 | s :: r=>by
  show (match strsOf (clS r) with | some l=>some (s :: l) | none=>none) = _
  rw [a9X r]
theorem joinI_at {a:List Str} {b:Str} (h:(leN a.length 140737488355328 && leN (Lib.join a b).length 140737488355328) = true):a6P [.slice .sealed (List.length a) (clS a),.str b] [] = some (.ret (.str (Lib.join a b)) []):=by
 rw [Bool.and_eq_true] at h
 have e:eqN a.length (List.length a) = true:=a0z rfl
 unfold a6P
 simp only [a9X,e,h.1,h.2,gd,Bool.and_self]
end Go.Proofs.YtamfchbgonekeaaGreatDoor
namespace Go.Proofs.YtamfchbgonekeaaGreatDoor
open Go Go.Vm
theorem a6h {bb:Bool} (h:b0e = some bb):E env (.call 5 []) [] = some (.ret (.bool bb) []):=by
 cases h
 exact a96 rfl rfl
theorem a8D {V4:Str} {l2:List Tok} {c3:Int} {a4:Int} (h:a1B V4 = some (l2,c3,a4)):E env (.call 20 [.str V4]) [] = some (.ret (.tuple [.sl I8 l2,.agg [.i c3,.i a4]]) []):=by
 unfold a1B at h
 cases h
 exact tok_call rfl (Sc.a7A _).1
theorem joinG_ok {elems1:List Str} {sep2:Str} {rr:Str} (h:joinG elems1 sep2 = some rr):E env (.call 41 [.sl clS elems1,.str sep2]) [] = some (.ret (.str rr) []):=by
 unfold joinG at h
 split at h
 ·rename_i hs
  cases h
  exact a96 rfl (joinI_at hs)
 ·cases h
theorem trimG_ok {s1:Str} {rr:Str} (h:trimG s1 = some rr):E env (.call 21 [.str s1]) [] = some (.ret (.str rr) []):=by cases h
end Go.Proofs.YtamfchbgonekeaaGreatDoor
namespace Go.Proofs.YtamfchbgonekeaaGreatDoor
open Go Go.Vm
theorem a88 {V4:Str} {r:Unit} (h:a3g V4 = some r) :
  E env (.call 4 [.str V4]) [] = some (a8b V4 r):=by
 unfold a3g at h
 refine H6 rfl Tryz.func4 rfl rfl ?_
 refine eSG (oB 1 rfl (eSG (oB 4 rfl ?_)))
 cases h
 exact j5 ⟨_,_,_,rfl,rfl,rfl⟩
theorem a8s {V4:Str} {r:Flt × List Tok} (h:a1i V4 = some r) :
  E env (.call 12 [.str V4]) [] = some (a7i V4 r):=by
 unfold a1i at h
 refine H6 rfl Tryz.func12 rfl rfl ?_
 refine eSG (oB 2 rfl (eSG (oA 1 rfl ?_)))
 obtain ⟨⟨l2,c3,a4⟩,g1,h⟩:=l8 h
 refine F4 rfl rfl rfl rfl rfl (a8D g1) rfl ?_
 refine oB 6 rfl (w9 ?_)
 refine a0Z [384] rfl ?_
 refine oC rfl rfl (oC rfl rfl (oC rfl rfl (a0r rfl ?_)))
 refine oD ?_
 refine D6 (oC rfl rfl (oC rfl rfl (oC rfl rfl (oC rfl rfl ?_))))
 refine a4w ?_
 refine ⟨rfl,?_⟩
 cases h
 exact j5 ⟨_,_,_,rfl,rfl,rfl⟩
theorem R5 {n1:Int} {a9D:Int} {a8O:Str} {a2f:List Tok} {at5:Int} {a9T:Int} {r:Bool} (h:I5 n1 a9D a8O a2f at5 a9T = some r) :
  E env (.call 46 [.ptr 0 0,.i n1,.i a9D,.str a8O]) (hP I8 a2f at5 a9T) = some (a4E n1 a9D a8O a2f at5 a9T r):=by
 unfold I5 at h
 refine H6 rfl Tryz.func46 rfl rfl ?_
 refine eSG (oB 1 rfl (w9 (eSG (oB 12 rfl ?_))))
 refine eI rfl h (fun h=>?_) fun h=>?_
 ·refine eSG (oB 1 rfl ?_)
  cases h
  exact j5 ⟨_,_,_,rfl,rfl,rfl⟩
 ·refine o7 (w9 ?_)
  refine a0Z [0,0] rfl ?_
  refine oC rfl rfl (oC rfl rfl (oC rfl rfl (oC rfl rfl (oC rfl rfl (oC rfl rfl (oC rfl rfl (oC rfl rfl (oC rfl rfl (oC rfl rfl (a0r rfl ?_))))))))))
  obtain ⟨x7,g2,h⟩:=l8 h
  refine a5i b0k g2 rfl rfl rfl rfl rfl rfl rfl rfl ?_
  refine D6 (a0r rfl ?_)
  refine a2H (c:=[.i x7.kind,.str x7.text,.i x7.at_,.i x7.len]) rfl rfl rfl rfl rfl rfl rfl ?_
  refine D6 (oC rfl rfl (oC rfl rfl ?_))
  refine a4w ?_
  refine ⟨rfl,?_⟩
  refine eSG (oA 5 rfl ?_)
  refine A8 rfl rfl rfl (fun g3=>?_) (fun g3=>?_)
  ·replace h:=a0y h g3
   refine oA 3 rfl ?_
   refine A8 rfl rfl rfl (fun g4=>?_) (fun g4=>?_)
   ·replace h:=a0y h g4
    refine oB 7 rfl ?_
    cases h
    exact j5 ⟨_,_,_,rfl,rfl,rfl⟩
   ·replace h:=a0x h g4
    refine oB 7 rfl ?_
    cases h
    exact j5 ⟨_,_,_,rfl,rfl,rfl⟩
  ·replace h:=a0x h g3
   refine oB 10 rfl ?_
   cases h
   exact j5 ⟨_,_,_,rfl,rfl,rfl⟩
theorem a4F {a94:Str} {o5:List Tok} {at3:Int} {E8:Int} {r:Bool × Int} (h:J8 a94 o5 at3 E8 = some r) :
  E env (.call 33 [.ptr 0 0,.str a94]) (hP I8 o5 at3 E8) = some (a4d a94 o5 at3 E8 r):=by
 unfold J8 at h
 refine H6 rfl Tryz.func33 rfl rfl ?_
 refine eSG (oB 1 rfl (w9 (eSG (oA 2 rfl ?_))))
 obtain ⟨r5,g1,h⟩:=l8 h
 refine oV (R5 g1) ?_
 refine oB 1 rfl ?_
 refine eI rfl h (fun h=>?_) fun h=>?_
 ·refine eSG (oB 1 rfl ?_)
  cases h
  exact j5 ⟨_,_,_,rfl,rfl,rfl⟩
 ·refine o7 (eSG (oB 8 rfl (eSG (oB 1 rfl ?_))))
  cases h
  exact j5 ⟨_,_,_,rfl,rfl,rfl⟩
theorem a4c {l7:List Tok} {at2:Int} {C8:Int} {r:Int} (h:U7 l7 at2 C8 = some r) :
  E env (.call 23 [.ptr 0 0]) (hP I8 l7 at2 C8) = some (a3E l7 at2 C8 r):=by
 unfold U7 at h
 refine H6 rfl Tryz.func23 rfl rfl ?_
 refine eSG (oB 1 rfl (w9 (eSG (oB 10 rfl ?_))))
 refine eI rfl h (fun h=>?_) fun h=>?_
 ·refine eSG (oA 8 rfl ?_)
  obtain ⟨x4,g2,h⟩:=l8 h
  refine a5i b0k g2 rfl rfl rfl rfl rfl rfl rfl rfl ?_
  refine oB 3 rfl ?_
  cases h
  exact j5 ⟨_,_,_,rfl,rfl,rfl⟩
 ·refine o7 (eSG (oB 5 rfl ?_))
  cases h
  exact j5 ⟨_,_,_,rfl,rfl,rfl⟩
theorem a0b {l7:List Tok} {at2:Int} {C8:Int} {r:Rs Empty Int} (h:I9 l7 at2 C8 = some r) :
  E env (.call 16 [.ptr 0 0]) (hP I8 l7 at2 C8) = some (a3D l7 at2 C8 r):=by
 unfold I9 at h
 refine H6 rfl Tryz.func16 rfl rfl ?_
 refine j6 (oA 1 rfl ?_)
 obtain ⟨r4,g1,h⟩:=l8 h
 refine a7y rfl rfl rfl (b0h rfl rfl rfl (a4c g1) rfl rfl rfl) ?_
 refine oD ?_
 refine oD ?_
 refine oA 1 rfl ?_
 refine os_panic rfl rfl rfl ?_
 cases h
 exact ⟨_,_,rfl,rfl⟩
theorem a0V {a9C:Int} {o5:List Tok} {at3:Int} {E8:Int} {r:Rs Tok Int} (h:X8 a9C o5 at3 E8 = some r) :
  E env (.call 63 [.ptr 0 0,.i a9C]) (hP I8 o5 at3 E8) = some (a3n a9C o5 at3 E8 r):=by
 unfold X8 at h
 refine H6 rfl Tryz.func63 rfl rfl ?_
 refine eSG (oB 1 rfl (w9 (eSG (oA 2 rfl ?_))))
 obtain ⟨r5,g1,h⟩:=l8 h
 refine oV (R5 g1) ?_
 refine oB 1 rfl ?_
 refine eI rfl h (fun h=>?_) fun h=>?_
 ·refine j6 (oA 1 rfl ?_)
  rcases K4 h with ⟨x,_,_⟩ | ⟨at6,g3,h⟩
  ·exact x.elim
  ·refine oW (a0b g3) ?_
   cases h
   exact ⟨_,_,rfl,rfl⟩
 ·refine o7 (w9 ?_)
  refine a0Z [0,0] rfl ?_
  refine oC rfl rfl (oC rfl rfl (oC rfl rfl (oC rfl rfl (oC rfl rfl (oC rfl rfl (oC rfl rfl (oC rfl rfl (a0r rfl ?_))))))))
  obtain ⟨x7,g4,h⟩:=l8 h
  refine a5i b0k g4 rfl rfl rfl rfl rfl rfl rfl rfl ?_
  refine D6 (a0r rfl ?_)
  refine a2H (c:=[.i x7.kind,.str x7.text,.i x7.at_,.i x7.len]) rfl rfl rfl rfl rfl rfl rfl ?_
  refine D6 (oC rfl rfl (oC rfl rfl ?_))
  refine a4w ?_
  refine ⟨rfl,?_⟩
  refine eSG (oB 8 rfl (eSG (oB 2 rfl ?_)))
  cases h
  exact j5 ⟨_,_,_,rfl,rfl,rfl⟩
theorem J3 {l7:List Tok} {at2:Int} {C8:Int} {r:Rs Str Int} (h:D9 l7 at2 C8 = some r) :
  E env (.call 34 [.ptr 0 0]) (hP I8 l7 at2 C8) = some (a2m l7 at2 C8 r):=by
 unfold D9 at h
 refine H6 rfl Tryz.func34 rfl rfl ?_
 refine eSG (oB 1 rfl (eSG (oA 1 rfl ?_)))
 rcases K4 h with ⟨r4,g1,h⟩ | ⟨at5,g2,h⟩
 ·refine oV (a0V g1) ?_
  refine oB 2 rfl ?_
  cases h
  exact j5 ⟨_,_,_,rfl,rfl,rfl⟩
 ·refine oW (a0V g2) ?_
  cases h
  exact ⟨_,_,rfl,rfl⟩
theorem M5 {a2P:Str} {o5:List Tok} {at3:Int} {E8:Int} {r:Bool × Int} (h:D7 a2P o5 at3 E8 = some r) :
  E env (.call 35 [.ptr 0 0,.str a2P]) (hP I8 o5 at3 E8) = some (a3F a2P o5 at3 E8 r):=by
 unfold D7 at h
 refine H6 rfl Tryz.func35 rfl rfl ?_
 refine eSG (oB 1 rfl (w9 (eSG (oA 2 rfl ?_))))
 obtain ⟨r5,g1,h⟩:=l8 h
 refine oV (R5 g1) ?_
 refine oB 1 rfl ?_
 refine eI rfl h (fun h=>?_) fun h=>?_
 ·refine eSG (oB 1 rfl ?_)
  cases h
  exact j5 ⟨_,_,_,rfl,rfl,rfl⟩
 ·refine o7 (eSG (oB 8 rfl (eSG (oB 1 rfl ?_))))
  cases h
  exact j5 ⟨_,_,_,rfl,rfl,rfl⟩
theorem M6 {a2P:Str} {o5:List Tok} {at3:Int} {E8:Int} {r:Rs Int (Int × Int)} (h:F5 a2P o5 at3 E8 = some r) :
  E env (.call 37 [.ptr 0 0,.str a2P]) (hP I8 o5 at3 E8) = some (a3H a2P o5 at3 E8 r):=by
 unfold F5 at h
 refine H6 rfl Tryz.func37 rfl rfl ?_
 refine eSG (oA 2 rfl ?_)
 obtain ⟨⟨r5,at6⟩,g1,h⟩:=l8 h
 refine oV (M5 g1) ?_
 refine oB 1 rfl ?_
 refine eI rfl h (fun h=>?_) fun h=>?_
 ·refine j6 (oA 1 rfl ?_)
  rcases K4 h with ⟨x,_,_⟩ | ⟨at7,g3,h⟩
  ·exact x.elim
  ·refine oW (a0b g3) ?_
   cases h
   exact ⟨_,_,rfl,rfl⟩
 ·refine o7 ?_
  cases h
  exact ⟨_,_,_,rfl,rfl,rfl⟩
theorem a8t {a1o:Str} {G7:List Typ} {r:Typ} (h:a0a a1o G7 = some r) :
  E env (.call 64 [.str a1o,.sl x9 G7]) [] = some (a3A a1o G7 r):=by
 unfold a0a at h
 refine H6 rfl Tryz.func64 rfl rfl ?_
 refine eSG (oB 1 rfl (eSG (oB 1 rfl ?_)))
 obtain ⟨y1,g2,h⟩:=a2r h
 refine a2Z (KR:=fun r=>OutK env 64 0 Tryz.f64.results.toList (a3A a1o G7 r)) y1 (fun z17=>[(0,.str a1o),(1,.sl x9 G7),(4,.ptr 0 0),(5,.i z17)]) (fun z17=>[(0,.row [.i 0,.str [],.i 0,.st 1 x9 ([]:List Typ)]),(1,.tip 0 0)]) rfl ?_ (fun z17 hx=>?_) (fun r res hz hr hn=>?_)
 ·replace h:=g2
  clear g2
  refine E9 ?_
  obtain ⟨y3,g4,h⟩:=l8 h
  refine a6m [(0,.str a1o),(1,.sl x9 G7),(4,.ptr 0 0),(5,.i 6),(6,.bool y3)] [(0,.row [.i 0,.str [],.i 0,.st 1 x9 ([]:List Typ)]),(1,.tip 0 0)] rfl ?_ ?_
  ·replace h:=g4
   clear g4
   refine j6 (oA 4 rfl ?_)
   refine A8 rfl rfl rfl (fun g5=>?_) (fun g5=>?_)
   ·replace h:=a0y h g5
    refine oB 4 rfl ?_
    cases h
    exact rfl
   ·replace h:=a0x h g5
    refine oB 4 rfl ?_
    cases h
    exact rfl
  ·obtain ⟨x505,rfl⟩:∃ q,q = y3:=⟨_,rfl⟩
   refine eI rfl h (fun h=>?_) fun h=>?_
   ·refine eSG (oA 1 rfl ?_)
    refine oD ?_
    refine oB 1 rfl ?_
    cases h
    exact j5 ⟨_,rfl,_,_,_,rfl,rfl,rfl⟩
   ·obtain ⟨y7,g8,h⟩:=l8 h
    refine a6m [(0,.str a1o),(1,.sl x9 G7),(4,.ptr 0 0),(5,.i 6),(16,.bool y7)] [(0,.row [.i 0,.str [],.i 0,.st 1 x9 ([]:List Typ)]),(1,.tip 0 0)] rfl ?_ ?_
    ·replace h:=g8
     clear g8
     refine j6 (oA 4 rfl ?_)
     refine A8 rfl rfl rfl (fun g9=>?_) (fun g9=>?_)
     ·replace h:=a0y h g9
      refine oB 4 rfl ?_
      cases h
      exact rfl
     ·replace h:=a0x h g9
      refine oB 4 rfl ?_
      cases h
      exact rfl
    ·obtain ⟨x503,rfl⟩:∃ q,q = y7:=⟨_,rfl⟩
     refine eI rfl h (fun h=>?_) fun h=>?_
     ·refine eSG (oA 1 rfl ?_)
      refine oD ?_
      refine oB 1 rfl ?_
      cases h
      exact j5 ⟨_,rfl,_,_,_,rfl,rfl,rfl⟩
     ·refine eSG (oB 4 rfl ?_)
      refine eI rfl h (fun h=>?_) fun h=>?_
      ·refine o7 ?_
       cases h
       exact ⟨_,rfl,rfl⟩
      ·refine eSG (oB 3 rfl ?_)
       refine eI rfl h (fun h=>?_) fun h=>?_
       ·refine j6 (oB 1 rfl ?_)
        cases h
        exact ⟨_,rfl,rfl⟩
       ·refine eSG (oB 3 rfl ?_)
        refine eI rfl h (fun h=>?_) fun h=>?_
        ·refine j6 (oB 1 rfl ?_)
         cases h
         exact ⟨_,rfl,rfl⟩
        ·refine eSG (oB 3 rfl ?_)
         refine eI rfl h (fun h=>?_) fun h=>?_
         ·refine j6 (oB 1 rfl ?_)
          cases h
          exact ⟨_,rfl,rfl⟩
         ·refine eSG (oB 3 rfl ?_)
          refine eI rfl h (fun h=>?_) fun h=>?_
          ·refine j6 (oB 1 rfl ?_)
           cases h
           exact ⟨_,rfl,rfl⟩
          ·refine o7 ?_
           cases h
           exact ⟨_,rfl,rfl⟩
 ·subst hx
  obtain ⟨a7u,rfl⟩:∃ q,q = z17:=⟨_,rfl⟩
  refine w9 (eSG (oB 2 rfl ?_))
  refine eI rfl h (fun h=>?_) fun h=>?_
  ·refine eSG (oA 1 rfl ?_)
   refine oD ?_
   refine oB 1 rfl ?_
   cases h
   exact j5 ⟨_,_,_,rfl,rfl,rfl⟩
  ·refine o7 (eSG (oA 3 rfl ?_))
   refine oD ?_
   refine oB 1 rfl ?_
   cases h
   exact j5 ⟨_,_,_,rfl,rfl,rfl⟩
 ·subst hz
  rcases res with ⟨_ | _ | _ | _,_,_⟩ <;> first | exact absurd rfl hn | exact hr.elim | (cases h; exact hr)
structure d9.Ok (Φ:d9):Prop where
 j4:∀ {l7:List Tok} {at2:Int} {C8:Int} {r:Rs (Typ × Int) (Int × Int)},Φ.j4 l7 at2 C8 = some r -> E env (.call 15 [.ptr 0 0]) (hP I8 l7 at2 C8) = some (O9 l7 at2 C8 r)
 J2:∀ {inExpr1:Bool} {o5:List Tok} {at3:Int} {E8:Int} {r:Rs (Typ × Int) (Int × Int)},Φ.J2 inExpr1 o5 at3 E8 = some r -> E env (.call 36 [.ptr 0 0,.bool inExpr1]) (hP I8 o5 at3 E8) = some (O1 inExpr1 o5 at3 E8 r)
theorem a3G (n:Nat) {Φ:d9} (hΦ:Φ.Ok) {l7:List Tok} {at2:Int} {C8:Int} {r:Rs (Typ × Int) (Int × Int)} (h:K7 n Φ l7 at2 C8 = some r) :
  E env (.call 15 [.ptr 0 0]) (hP I8 l7 at2 C8) = some (O9 l7 at2 C8 r):=by
 unfold K7 at h
 refine H6 rfl Tryz.func15 rfl rfl ?_
 refine eSG (oB 1 rfl (w9 (eSG (oA 1 rfl ?_))))
 obtain ⟨⟨r4,at5⟩,g1,h⟩:=l8 h
 refine oV (a4F g1) ?_
 refine D6 ?_
 refine eI rfl h (fun h=>?_) fun h=>?_
 ·refine eSG (oA 1 rfl ?_)
  rcases K4 h with ⟨r6,g3,h⟩ | ⟨at7,g4,h⟩
  ·refine oV (J3 g3) ?_
   refine oD ?_
   refine oB 1 rfl ?_
   cases h
   exact j5 ⟨_,_,_,rfl,rfl,rfl⟩
  ·refine oW (J3 g4) ?_
   cases h
   exact ⟨_,_,rfl,rfl⟩
 ·refine o7 (w9 (eSG (oA 1 rfl ?_)))
  obtain ⟨⟨r8,at9⟩,g5,h⟩:=l8 h
  refine oV (M5 g5) ?_
  refine oB 1 rfl ?_
  refine eI rfl h (fun h=>?_) fun h=>?_
  ·refine eSG (oA 1 rfl ?_)
   rcases K4 h with ⟨⟨r10,at11⟩,g7,h⟩ | ⟨⟨at12,at13⟩,g8,h⟩
   ·obtain ⟨r10_0,r10_1,r10_2,r10_3⟩:=r10
    refine oV (hΦ.J2 g7) ?_
    refine oB 1 rfl ?_
    cases h
    exact j5 ⟨_,_,_,rfl,rfl,rfl⟩
   ·refine oW (hΦ.J2 g8) ?_
    cases h
    exact ⟨_,_,rfl,rfl⟩
  ·refine o7 (eSG (oB 1 rfl ?_))
   obtain ⟨y9,g10,h⟩:=a2r h
   refine a2Z (KR:=fun r=>OutK env 15 1 Tryz.f15.results.toList (O9 l7 at2 C8 r)) y9 (fun z31=>[(0,.ptr 0 0),(2,.ptr 1 0),(3,.st 2 x9 z31.1)]) (fun z31=>[(0,.row [.sl I8 l7,.i z31.2,.i C8]),(1,.row [.i 0,.str [],.i 0,.st 3 x9 ([]:List Typ)]),(2,.tip (tpe 4 (List.length z31.1)) (List.length z31.1)),(3,.tip 0 0)]) rfl ?_ (fun z31 hx=>?_) (fun r res hz hr hn=>?_)
   ·replace h:=g10
    clear g10
    refine eSG (oA 1 rfl ?_)
    obtain ⟨⟨r14,at15⟩,g11,h⟩:=l8 h
    refine oV (M5 g11) ?_
    refine oB 1 rfl ?_
    refine eI rfl h (fun h=>?_) fun h=>?_
    ·refine eSG (oA 2 rfl ?_)
     rcases K4 h with ⟨⟨r16,at17⟩,g13,h⟩ | ⟨⟨at29,at30⟩,g25,h⟩
     ·obtain ⟨r16_0,r16_1,r16_2,r16_3⟩:=r16
      refine oV (hΦ.j4 g13) ?_
      refine oA 1 rfl ?_
      obtain ⟨l18,g14,h⟩:=l8 h
      refine b23 a1n g14 rfl rfl rfl rfl (.inl rfl) rfl rfl rfl rfl rfl rfl rfl rfl rfl rfl (a7R (a0z rfl) rfl) rfl rfl rfl ?_
      refine oB 1 rfl ?_
      obtain ⟨y15,g16,h⟩:=a9e h
      refine a2Z (KR:=fun r=>OutK env 15 1 Tryz.f15.results.toList (O9 l7 at2 C8 r)) y15 (fun z24=>[(0,.ptr 0 0),(2,.ptr 1 0),(3,.st 2 x9 z24.1)]) (fun z24=>[(0,.row [.sl I8 l7,.i z24.2,.i C8]),(1,.row [.i 0,.str [],.i 0,.st 3 x9 ([]:List Typ)]),(2,.tip (tpe 4 (List.length z24.1)) (List.length z24.1)),(3,.tip 0 0)]) rfl ?_ (fun z24 hx=>?_) (fun r res hz hr hn=>?_)
      ·replace h:=g16
       clear g16
       refine E9 ?_
       refine a0h rfl ?_
       revert y15
       refine a3h (fun m (x:List Typ × Int)=>z8 n Φ C8 l7 m x.1 x.2) (fun x=>[(0,.ptr 0 0),(2,.ptr 1 0),(3,.st 2 x9 x.1)]) (fun x=>[(0,.row [.sl I8 l7,.i x.2,.i C8]),(1,.row [.i 0,.str [],.i 0,.st 3 x9 ([]:List Typ)]),(2,.tip (tpe 4 (List.length x.1)) (List.length x.1)),(3,.tip 0 0)]) _ (fun _=>rfl) (fun m8 x y ih h=>?_) n (l18,at17)
       obtain ⟨b0c,at507⟩:=x
       rw [z8] at h
       refine w9 (eSG (oA 1 rfl ?_))
       obtain ⟨⟨r19,at20⟩,g17,h⟩:=l8 h
       refine oV (M5 g17) ?_
       refine D6 ?_
       refine eI rfl h (fun h=>?_) fun h=>?_
       ·refine o7 ?_
        refine E9 ?_
        refine j6 (oA 2 rfl ?_)
        rcases K4 h with ⟨⟨r21,at22⟩,g19,h⟩ | ⟨⟨at24,at25⟩,g21,h⟩
        ·obtain ⟨r21_0,r21_1,r21_2,r21_3⟩:=r21
         refine oV (hΦ.j4 g19) ?_
         refine oA 1 rfl ?_
         obtain ⟨l23,g20,h⟩:=l8 h
         refine oP a1n g20 ?_
         refine oB 1 rfl ?_
         exact ⟨_,_,rfl,ih (_,_) _ h⟩
        ·refine oW (hΦ.j4 g21) ?_
         cases h
         exact ⟨_,rfl,_,_,rfl,rfl⟩
       ·refine X7 ?_
        cases h
        exact ⟨_,rfl,rfl⟩
      ·subst hx
       obtain ⟨b2G,at518⟩:=z24
       refine j6 (oA 1 rfl ?_)
       rcases K4 h with ⟨at26,g22,h⟩ | ⟨⟨at27,at28⟩,g23,h⟩
       ·refine oV (M6 g22) ?_
        refine D6 ?_
        cases h
        exact ⟨_,rfl,rfl⟩
       ·refine oW (M6 g23) ?_
        cases h
        exact ⟨_,rfl,_,_,rfl,rfl⟩
      ·subst hz
       rcases res with ⟨_ | _ | _ | _,_,_⟩ <;> first | exact absurd rfl hn | exact hr.elim | (cases h; exact ⟨_,rfl,hr⟩)
     ·refine oW (hΦ.j4 g25) ?_
      cases h
      exact ⟨_,rfl,_,_,rfl,rfl⟩
    ·refine o7 ?_
     cases h
     exact ⟨_,rfl,rfl⟩
   ·subst hx
    obtain ⟨b2E,at510⟩:=z31
    refine eSG (oA 1 rfl ?_)
    rcases K4 h with ⟨at31,g26,h⟩ | ⟨⟨at37,at38⟩,g30,h⟩
    ·refine oV (M6 g26) ?_
     refine D6 (eSG (oA 2 rfl ?_))
     rcases K4 h with ⟨⟨r32,at33⟩,g27,h⟩ | ⟨⟨at35,at36⟩,g29,h⟩
     ·obtain ⟨r32_0,r32_1,r32_2,r32_3⟩:=r32
      refine oV (hΦ.j4 g27) ?_
      refine oA 1 rfl ?_
      obtain ⟨l34,g28,h⟩:=l8 h
      refine oP a1n g28 ?_
      refine oB 1 rfl (eSG (oA 1 rfl ?_))
      refine oD ?_
      refine oB 1 rfl ?_
      cases h
      exact j5 ⟨_,_,_,rfl,rfl,rfl⟩
     ·refine oW (hΦ.j4 g29) ?_
      cases h
      exact ⟨_,_,rfl,rfl⟩
    ·refine oW (M6 g30) ?_
     cases h
     exact ⟨_,_,rfl,rfl⟩
   ·subst hz
    rcases res with ⟨_ | _ | _ | _,_,_⟩ <;> first | exact absurd rfl hn | exact hr.elim | (cases h; exact hr)
theorem a3m (n:Nat) {Φ:d9} (hΦ:Φ.Ok) {inExpr1:Bool} {o5:List Tok} {at3:Int} {E8:Int} {r:Rs (Typ × Int) (Int × Int)} (h:G9 n Φ inExpr1 o5 at3 E8 = some r) :
  E env (.call 36 [.ptr 0 0,.bool inExpr1]) (hP I8 o5 at3 E8) = some (O1 inExpr1 o5 at3 E8 r):=by
 unfold G9 at h
 refine H6 rfl Tryz.func36 rfl rfl ?_
 refine eSG (oB 1 rfl (eSG (oA 1 rfl ?_)))
 rcases K4 h with ⟨r5,g1,h⟩ | ⟨at28,g33,h⟩
 ·refine oV (J3 g1) ?_
  refine oB 1 rfl (eSG (oB 1 rfl ?_))
  obtain ⟨y2,g3,h⟩:=a2r h
  refine a2Z (KR:=fun r=>OutK env 36 1 Tryz.f36.results.toList (O1 inExpr1 o5 at3 E8 r)) y2 (fun z32=>[(0,.ptr 0 0),(1,.bool inExpr1),(4,.ptr 1 0),(5,.str r5),(6,.st 2 x9 z32.1)]) (fun z32=>[(0,.row [.sl I8 o5,.i z32.2,.i E8]),(1,.row [.i 0,.str [],.i 0,.st 3 x9 ([]:List Typ)]),(2,.tip (tpe 4 (List.length z32.1)) (List.length z32.1)),(3,.tip 0 0)]) rfl ?_ (fun z32 hx=>?_) (fun r res hz hr hn=>?_)
  ·replace h:=g3
   clear g3
   refine eSG (oA 1 rfl ?_)
   obtain ⟨⟨r6,at7⟩,g4,h⟩:=l8 h
   refine oV (M5 g4) ?_
   refine D6 ?_
   refine eI rfl h (fun h=>?_) fun h=>?_
   ·refine eSG (oA 2 rfl ?_)
    rcases K4 h with ⟨⟨r8,at9⟩,g6,h⟩ | ⟨⟨at21,at22⟩,g18,h⟩
    ·obtain ⟨r8_0,r8_1,r8_2,r8_3⟩:=r8
     refine oV (hΦ.j4 g6) ?_
     refine oA 1 rfl ?_
     obtain ⟨l10,g7,h⟩:=l8 h
     refine b23 a1n g7 rfl rfl rfl rfl (.inl rfl) rfl rfl rfl rfl rfl rfl rfl rfl rfl rfl (a7R (a0z rfl) rfl) rfl rfl rfl ?_
     refine oB 1 rfl ?_
     obtain ⟨y8,g9,h⟩:=a9e h
     refine a2Z (KR:=fun r=>OutK env 36 1 Tryz.f36.results.toList (O1 inExpr1 o5 at3 E8 r)) y8 (fun z17=>[(0,.ptr 0 0),(1,.bool inExpr1),(4,.ptr 1 0),(5,.str r5),(6,.st 2 x9 z17.1)]) (fun z17=>[(0,.row [.sl I8 o5,.i z17.2,.i E8]),(1,.row [.i 0,.str [],.i 0,.st 3 x9 ([]:List Typ)]),(2,.tip (tpe 4 (List.length z17.1)) (List.length z17.1)),(3,.tip 0 0)]) rfl ?_ (fun z17 hx=>?_) (fun r res hz hr hn=>?_)
     ·replace h:=g9
      clear g9
      refine E9 ?_
      refine a0h rfl ?_
      revert y8
      refine a3h (fun m (x:List Typ × Int)=>M4 n Φ E8 o5 m x.1 x.2) (fun x=>[(0,.ptr 0 0),(1,.bool inExpr1),(4,.ptr 1 0),(5,.str r5),(6,.st 2 x9 x.1)]) (fun x=>[(0,.row [.sl I8 o5,.i x.2,.i E8]),(1,.row [.i 0,.str [],.i 0,.st 3 x9 ([]:List Typ)]),(2,.tip (tpe 4 (List.length x.1)) (List.length x.1)),(3,.tip 0 0)]) _ (fun _=>rfl) (fun m5 x y ih h=>?_) n (l10,at9)
      obtain ⟨b0b,a3y⟩:=x
      rw [M4] at h
      refine w9 (eSG (oA 1 rfl ?_))
      obtain ⟨⟨r11,at12⟩,g10,h⟩:=l8 h
      refine oV (M5 g10) ?_
      refine D6 ?_
      refine eI rfl h (fun h=>?_) fun h=>?_
      ·refine o7 ?_
       refine E9 ?_
       refine j6 (oA 2 rfl ?_)
       rcases K4 h with ⟨⟨r13,at14⟩,g12,h⟩ | ⟨⟨at16,at17⟩,g14,h⟩
       ·obtain ⟨r13_0,r13_1,r13_2,r13_3⟩:=r13
        refine oV (hΦ.j4 g12) ?_
        refine oA 1 rfl ?_
        obtain ⟨l15,g13,h⟩:=l8 h
        refine oP a1n g13 ?_
        refine oB 1 rfl ?_
        exact ⟨_,_,rfl,ih (_,_) _ h⟩
       ·refine oW (hΦ.j4 g14) ?_
        cases h
        exact ⟨_,rfl,_,_,rfl,rfl⟩
      ·refine X7 ?_
       cases h
       exact ⟨_,rfl,rfl⟩
     ·subst hx
      obtain ⟨b2F,at511⟩:=z17
      refine j6 (oA 1 rfl ?_)
      rcases K4 h with ⟨at18,g15,h⟩ | ⟨⟨at19,at20⟩,g16,h⟩
      ·refine oV (M6 g15) ?_
       refine D6 ?_
       cases h
       exact ⟨_,rfl,rfl⟩
      ·refine oW (M6 g16) ?_
       cases h
       exact ⟨_,rfl,_,_,rfl,rfl⟩
     ·subst hz
      rcases res with ⟨_ | _ | _ | _,_,_⟩ <;> first | exact absurd rfl hn | exact hr.elim | (cases h; exact ⟨_,rfl,hr⟩)
    ·refine oW (hΦ.j4 g18) ?_
     cases h
     exact ⟨_,rfl,_,_,rfl,rfl⟩
   ·refine o7 ?_
    cases h
    exact ⟨_,rfl,rfl⟩
  ·subst hx
   obtain ⟨b2D,b0M⟩:=z32
   refine eSG (oA 2 rfl ?_)
   obtain ⟨r23,g19,h⟩:=l8 h
   obtain ⟨r23_0,r23_1,r23_2,r23_3⟩:=r23
   refine F4 rfl rfl rfl rfl rfl (a8t g19) rfl ?_
   refine oB 2 rfl ?_
   obtain ⟨y20,g21,h⟩:=a2r h
   refine a2Z (KR:=fun r=>OutK env 36 1 Tryz.f36.results.toList (O1 inExpr1 o5 at3 E8 r)) y20 (fun z31=>[(4,.ptr 1 0),(7,.ptr 2 0)]) (fun z31=>[(0,.row [.sl I8 o5,.i z31.1,.i E8]),(1,.row [.i 0,.str [],.i 0,.st 3 x9 ([]:List Typ)]),(2,.row [.i z31.2.kind,.str z31.2.name,.i z31.2.n,.sl x9 z31.2.args]),(3,.tip 0 0)]) rfl ?_ (fun z31 hx=>?_) (fun r res hz hr hn=>?_)
   ·replace h:=g21
    clear g21
    refine E9 ?_
    refine a0h rfl ?_
    revert y20
    refine a3h (fun m (x:Int × Typ)=>E5 n Φ inExpr1 E8 o5 m x.1 x.2) (fun x=>[(0,.ptr 0 0),(1,.bool inExpr1),(4,.ptr 1 0),(7,.ptr 2 0)]) (fun x=>[(0,.row [.sl I8 o5,.i x.1,.i E8]),(1,.row [.i 0,.str [],.i 0,.st 3 x9 ([]:List Typ)]),(2,.row [.i x.2.kind,.str x.2.name,.i x.2.n,.sl x9 x.2.args]),(3,.tip 0 0)]) _ (fun _=>rfl) (fun m9 x y ih h=>?_) n (b0M,(Typ.mk r23_0 r23_1 r23_2 r23_3))
    obtain ⟨a6F,n533⟩:=x
    obtain ⟨n533_0,n533_1,n533_2,n533_3⟩:=n533
    rw [E5] at h
    refine w9 ?_
    obtain ⟨y22,g23,h⟩:=l8 h
    refine a6m [(0,.ptr 0 0),(1,.bool inExpr1),(4,.ptr 1 0),(7,.ptr 2 0),(38,.bool y22)] [(0,.row [.sl I8 o5,.i a6F,.i E8]),(1,.row [.i 0,.str [],.i 0,.st 3 x9 ([]:List Typ)]),(2,.row [.i n533_0,.str n533_1,.i n533_2,.sl x9 n533_3]),(3,.tip 0 0)] rfl ?_ ?_
    ·replace h:=g23
     clear g23
     refine j6 (oA 1 rfl ?_)
     obtain ⟨r24,g24,h⟩:=l8 h
     refine oV (R5 g24) ?_
     refine oA 1 rfl ?_
     refine A8 rfl rfl rfl (fun g25=>?_) (fun g25=>?_)
     ·replace h:=a0y h g25
      refine oA 2 rfl ?_
      refine A8 rfl rfl rfl (fun g26=>?_) (fun g26=>?_)
      ·replace h:=a0y h g26
       refine oA 1 rfl ?_
       obtain ⟨r25,g27,h⟩:=l8 h
       refine oV (R5 g27) ?_
       refine oB 3 rfl ?_
       cases h
       exact rfl
      ·replace h:=a0x h g26
       refine oB 5 rfl ?_
       cases h
       exact rfl
     ·replace h:=a0x h g25
      refine oB 7 rfl ?_
      cases h
      exact rfl
    ·obtain ⟨x546,rfl⟩:∃ q,q = y22:=⟨_,rfl⟩
     refine eI rfl h (fun h=>?_) fun h=>?_
     ·refine o7 ?_
      refine E9 ?_
      refine eSG (oB 8 rfl ?_)
      refine a0Z [2] rfl ?_
      refine oC rfl rfl (oC rfl rfl (oC rfl rfl (a0r rfl ?_)))
      rcases K4 h with ⟨r26,g29,h⟩ | ⟨at27,g30,h⟩
      ·refine oV (J3 g29) ?_
       refine D6 (a0r rfl ?_)
       refine oD ?_
       refine D6 (oC rfl rfl ?_)
       refine a4w ?_
       refine ⟨rfl,?_⟩
       exact ⟨_,_,rfl,ih (_,_) _ h⟩
      ·refine oW (J3 g30) ?_
       refine ⟨rfl,rfl,_,_,rfl,?_⟩
       cases h
       exact ⟨_,rfl,_,_,rfl,rfl⟩
     ·refine X7 ?_
      cases h
      exact ⟨_,rfl,rfl⟩
   ·subst hx
    obtain ⟨a9d,n550⟩:=z31
    obtain ⟨n550_0,n550_1,n550_2,n550_3⟩:=n550
    refine eSG (oB 2 rfl ?_)
    cases h
    exact j5 ⟨_,_,_,rfl,rfl,rfl⟩
   ·subst hz
    rcases res with ⟨_ | _ | _ | _,_,_⟩ <;> first | exact absurd rfl hn | exact hr.elim | (cases h; exact hr)
  ·subst hz
   rcases res with ⟨_ | _ | _ | _,_,_⟩ <;> first | exact absurd rfl hn | exact hr.elim | (cases h; exact hr)
 ·refine oW (J3 g33) ?_
  cases h
  exact ⟨_,_,rfl,rfl⟩
theorem d9.ok:∀ n,(d9.fs n).Ok
 | 0=>⟨(fun h=>by cases h),(fun h=>by cases h)⟩
 | n + 1=>⟨(fun h=>a3G n (d9.ok n) h),(fun h=>a3m n (d9.ok n) h)⟩
theorem a1q {n:Nat} {l7:List Tok} {at2:Int} {C8:Int} {r:Rs (Typ × Int) (Int × Int)} (h:j4 n l7 at2 C8 = some r) :
  E env (.call 15 [.ptr 0 0]) (hP I8 l7 at2 C8) = some (O9 l7 at2 C8 r):=(d9.ok n).j4 h
theorem a2I {n:Nat} {l7:List Tok} {at2:Int} {C8:Int} {a2A:Int} {a2F:Str} {n6:Int} {a0Q:List Typ} {a4P:List Typ} {r:Rs (Int × Typ) (Int × Int × Typ)} (h:a0s n l7 at2 C8 a2A a2F n6 a0Q a4P = some r) :
  E env (.call 14 [.ptr 1 0,.ptr 2 0]) [(0,.row [.sl I8 l7,.i at2,.i C8]),(1,.row [.ptr 0 0]),(2,.row [.i a2A,.str a2F,.i n6,.sl x9 a0Q]),(3,.tip (tpe 4 (List.length a4P)) (List.length a4P))] = some (a5K l7 at2 C8 a2A a2F n6 a0Q a4P r):=by
 unfold a0s at h
 refine H6 rfl Tryz.func14 rfl rfl ?_
 refine eSG (oA 1 rfl ?_)
 rcases K4 h with ⟨⟨r9,at10⟩,g1,h⟩ | ⟨⟨at12,at13⟩,g4,h⟩
 ·obtain ⟨r9_0,r9_1,r9_2,r9_3⟩:=r9
  refine oV (a1q g1) ?_
  refine oB 1 rfl (eSG (oB 10 rfl ?_))
  refine eI rfl h (fun h=>?_) fun h=>?_
  ·refine j6 (oA 1 rfl ?_)
   rcases K4 h with ⟨x,_,_⟩ | ⟨at11,g3,h⟩
   ·exact x.elim
   ·refine oW (a0b g3) ?_
    cases h
    exact ⟨_,_,rfl,rfl⟩
  ·refine o7 ?_
   cases h
   exact ⟨_,_,_,rfl,rfl,rfl⟩
 ·refine oW (a1q g4) ?_
  cases h
  exact ⟨_,_,rfl,rfl⟩
theorem a2J {n:Nat} {l7:List Tok} {at2:Int} {C8:Int} {a2A:Int} {a2F:Str} {n6:Int} {a0Q:List Typ} {r:Flt × Int × Typ} (h:O8 n l7 at2 C8 a2A a2F n6 a0Q = some r) :
  E env (.call 13 [.ptr 0 0,.func (.func 14) [] [.ptr 1 0,.ptr 2 0]]) [(0,.row [.sl I8 l7,.i at2,.i C8]),(1,.row [.ptr 0 0]),(2,.row [.i a2A,.str a2F,.i n6,.st 3 x9 a0Q]),(3,.tip (tpe 4 (List.length a0Q)) (List.length a0Q))] = some (a2n l7 at2 C8 a2A a2F n6 a0Q r):=by
 unfold O8 at h
 rcases K4 h with ⟨⟨at8,n9⟩,g1,h⟩ | ⟨⟨at10,at11,n12⟩,g2,h⟩
 ·obtain ⟨n9_0,n9_1,n9_2,n9_3⟩:=n9
  cases h
  exact E_via rfl rfl (a2I g1) rfl
 ·obtain ⟨n12_0,n12_1,n12_2,n12_3⟩:=n12
  cases h
  exact E_via rfl rfl (a2I g2) rfl
end Go.Proofs.YtamfchbgonekeaaGreatDoor
namespace Go.Proofs.YtamfchbgonekeaaGreatDoor
open Go Go.Vm
structure A9.Ok (Φ:A9):Prop where
 J6:∀ {t1:Typ} {r:Int},Φ.J6 t1 = some r -> E env (.call 17 [.agg [.i t1.kind,.str t1.name,.i t1.n,.sl x9 t1.args]]) [] = some (a0D t1 r)
theorem a4G (n:Nat) {Φ:A9} (hΦ:Φ.Ok) {t1:Typ} {r:Int} (h:X4 n Φ t1 = some r) :
  E env (.call 17 [.agg [.i t1.kind,.str t1.name,.i t1.n,.sl x9 t1.args]]) [] = some (a0D t1 r):=by
 unfold X4 at h
 obtain ⟨t1_0,t1_1,t1_2,t1_3⟩:=t1
 refine H6 rfl Tryz.func17 rfl rfl ?_
 refine eSG (oB 2 rfl (eSG (oB 1 rfl ?_)))
 obtain ⟨y1,g2,h⟩:=l8 h
 refine a6m [(3,.i y1)] [] rfl ?_ ?_
 ·replace h:=g2
  clear g2
  refine eSG (oB 4 rfl ?_)
  refine E9 ?_
  refine a0h rfl ?_
  revert y1
  refine a3h (fun m (x:Int × Int)=>N8 n Φ (Typ.mk t1_0 t1_1 t1_2 t1_3) m x.1 x.2) (fun x=>[(3,.i x.1),(7,.sl x9 t1_3),(8,.i (List.length t1_3:Int)),(9,.i x.2)]) (fun x=>[]) _ (fun _=>rfl) (fun m3 x y ih h=>?_) n (1,0)
  obtain ⟨n501,a8W⟩:=x
  rw [N8] at h
  refine eSG (oB 1 rfl (w9 ?_))
  refine eI rfl h (fun h=>?_) fun h=>?_
  ·refine o7 (w9 ?_)
   refine E9 ?_
   refine eSG ?_
   obtain ⟨x2,g4,h⟩:=l8 h
   obtain ⟨x2_0,x2_1,x2_2,x2_3⟩:=x2
   refine a5i a1n g4 rfl rfl rfl rfl rfl rfl rfl rfl ?_
   refine a2H (c:=[.i x2_0,.str x2_1,.i x2_2,.sl x9 x2_3]) rfl rfl rfl rfl rfl rfl rfl ?_
   refine oB 2 rfl (j6 (oA 2 rfl ?_))
   obtain ⟨r3,g5,h⟩:=l8 h
   refine F4 rfl rfl rfl rfl rfl (hΦ.J6 g5) rfl ?_
   refine oB 2 rfl (j6 (oB 2 rfl ?_))
   exact ⟨_,_,rfl,ih (_,_) _ h⟩
  ·refine X7 ?_
   cases h
   exact rfl
 ·obtain ⟨n507,rfl⟩:∃ q,q = y1:=⟨_,rfl⟩
  refine eSG (oB 2 rfl ?_)
  cases h
  exact j5 ⟨_,_,_,rfl,rfl,rfl⟩
theorem A9.ok:∀ n,(A9.fs n).Ok
 | 0=>⟨(fun h=>by cases h)⟩
 | n + 1=>⟨(fun h=>a4G n (A9.ok n) h)⟩
theorem a5L {n:Nat} {t1:Typ} {r:Int} (h:J6 n t1 = some r) :
  E env (.call 17 [.agg [.i t1.kind,.str t1.name,.i t1.n,.sl x9 t1.args]]) [] = some (a0D t1 r):=(A9.ok n).J6 h
theorem a4Q {n:Nat} {V4:Str} {r:Typ × Flt} (h:Z9 n V4 = some r) :
  E env (.call 6 [.str V4]) [] = some (a8r V4 r):=by
 unfold Z9 at h
 refine H6 rfl Tryz.func6 rfl rfl ?_
 refine eSG (oB 2 rfl (eSG (oA 1 rfl ?_)))
 obtain ⟨⟨r2,b3e⟩,g1,h⟩:=l8 h
 refine oV (a8s g1) ?_
 refine oB 7 rfl (w9 (eSG (oA 1 rfl ?_)))
 refine oD ?_
 refine oB 1 rfl ?_
 refine eI rfl h (fun h=>?_) fun h=>?_
 ·refine w9 ?_
  refine a0Z [384] rfl ?_
  refine a0r rfl ?_
  refine oD ?_
  refine D6 (oC rfl rfl (oC rfl rfl (oC rfl rfl ?_)))
  refine a4w ?_
  refine ⟨rfl,?_⟩
  cases h
  exact j5 ⟨_,_,_,rfl,rfl,rfl⟩
 ·refine o7 (eSG (oB 1 rfl (eSG (oA 2 rfl ?_))))
  obtain ⟨⟨r4,at5,n6⟩,g3,h⟩:=l8 h
  obtain ⟨n6_0,n6_1,n6_2,n6_3⟩:=n6
  refine oV (a2J g3) ?_
  refine oB 1 rfl (w9 (eSG (oA 1 rfl ?_)))
  refine oD ?_
  refine oB 1 rfl ?_
  refine eI rfl h (fun h=>?_) fun h=>?_
  ·refine w9 ?_
   refine a0Z [384] rfl ?_
   refine a0r rfl ?_
   refine oD ?_
   refine D6 (oC rfl rfl (oC rfl rfl (oC rfl rfl ?_)))
   refine a4w ?_
   refine ⟨rfl,?_⟩
   cases h
   exact j5 ⟨_,_,_,rfl,rfl,rfl⟩
  ·refine o7 (w9 (eSG (oA 1 rfl ?_)))
   obtain ⟨r7,g5,h⟩:=l8 h
   refine F4 rfl rfl rfl rfl rfl (a5L g5) rfl ?_
   refine oB 1 rfl ?_
   refine eI rfl h (fun h=>?_) fun h=>?_
   ·refine eSG ?_
    refine oD ?_
    refine oD ?_
    refine oB 2 rfl ?_
    cases h
    exact j5 ⟨_,_,_,rfl,rfl,rfl⟩
   ·refine o7 (eSG (oA 1 rfl ?_))
    refine oD ?_
    refine oB 2 rfl ?_
    cases h
    exact j5 ⟨_,_,_,rfl,rfl,rfl⟩
theorem A7 {l1:List Str} {words2:List Str} {r:List Str} (h:p9 l1 words2 = some r) :
  E env (.call 38 [.ptr 0 0,.sl clS l1]) [(0,.row [.st 1 clS words2]),(1,.tip (tpe 1 (List.length words2)) (List.length words2))] = some (a4e l1 words2 r):=by
 unfold p9 at h
 refine H6 rfl Tryz.func38 rfl rfl ?_
 refine j6 (oA 6 rfl ?_)
 obtain ⟨l3,g1,h⟩:=l8 h
 refine os_appD encS g1 rfl rfl rfl rfl rfl rfl rfl rfl rfl rfl rfl rfl rfl rfl (a7R (a0z (a0n.length encS _).symm) rfl) rfl rfl rfl ?_
 refine oB 3 rfl ?_
 cases h
 exact ⟨_,_,_,rfl,rfl,rfl⟩
structure j3.Ok (Φ:j3):Prop where
 F8:∀ {t1:Typ} {words2:List Str} {r:List Str},Φ.F8 t1 words2 = some r -> E env (.call 18 [.ptr 0 0,.agg [.i t1.kind,.str t1.name,.i t1.n,.sl x9 t1.args]]) [(0,.row [.st 1 clS words2]),(1,.tip (tpe 1 (List.length words2)) (List.length words2))] = some (a0c t1 words2 r)
 F9:∀ {l1:List Typ} {words2:List Str} {r:List Str},Φ.F9 l1 words2 = some r -> E env (.call 39 [.ptr 0 0,.sl x9 l1]) [(0,.row [.st 1 clS words2]),(1,.tip (tpe 1 (List.length words2)) (List.length words2))] = some (a0W l1 words2 r)
 F7:∀ {l1:List Typ} {words2:List Str} {r:List Str},Φ.F7 l1 words2 = some r -> E env (.call 40 [.ptr 0 0,.sl x9 l1,.func (.func 18) [.ptr 0 0] []]) [(0,.row [.st 1 clS words2]),(1,.tip (tpe 1 (List.length words2)) (List.length words2))] = some (a1p l1 words2 r)
theorem a3J (n:Nat) {Φ:j3} (hΦ:Φ.Ok) {t1:Typ} {words2:List Str} {r:List Str} (h:R6 n Φ t1 words2 = some r) :
  E env (.call 18 [.ptr 0 0,.agg [.i t1.kind,.str t1.name,.i t1.n,.sl x9 t1.args]]) [(0,.row [.st 1 clS words2]),(1,.tip (tpe 1 (List.length words2)) (List.length words2))] = some (a0c t1 words2 r):=by
 unfold R6 at h
 obtain ⟨t1_0,t1_1,t1_2,t1_3⟩:=t1
 refine H6 rfl Tryz.func18 rfl rfl ?_
 refine eSG (oB 1 rfl (eSG (oB 2 rfl ?_)))
 refine E9 ?_
 refine eSG (oB 2 rfl ?_)
 refine eI rfl h (fun h=>?_) fun h=>?_
 ·refine j6 (oA 2 rfl ?_)
  obtain ⟨words3,g2,h⟩:=l8 h
  refine oV (A7 g2) ?_
  refine D6 ?_
  cases h
  exact ⟨_,_,_,rfl,rfl,rfl⟩
 ·refine eSG (oB 2 rfl ?_)
  refine eI rfl h (fun h=>?_) fun h=>?_
  ·refine j6 (oA 2 rfl ?_)
   obtain ⟨words4,g4,h⟩:=l8 h
   refine oV (A7 g4) ?_
   refine D6 ?_
   cases h
   exact ⟨_,_,_,rfl,rfl,rfl⟩
  ·refine eSG (oB 2 rfl ?_)
   refine eI rfl h (fun h=>?_) fun h=>?_
   ·refine j6 (oA 2 rfl ?_)
    obtain ⟨words5,g6,h⟩:=l8 h
    refine oV (A7 g6) ?_
    refine D6 ?_
    cases h
    exact ⟨_,_,_,rfl,rfl,rfl⟩
   ·refine eSG (oB 2 rfl ?_)
    refine eI rfl h (fun h=>?_) fun h=>?_
    ·refine j6 (oA 2 rfl ?_)
     obtain ⟨words6,g8,h⟩:=l8 h
     refine oV (A7 g8) ?_
     refine D6 ?_
     cases h
     exact ⟨_,_,_,rfl,rfl,rfl⟩
    ·refine eSG (oB 2 rfl ?_)
     refine eI rfl h (fun h=>?_) fun h=>?_
     ·refine eSG (oA 2 rfl ?_)
      obtain ⟨words7,g10,h⟩:=l8 h
      refine oV (A7 g10) ?_
      refine D6 (j6 (oA 3 rfl ?_))
      obtain ⟨words8,g11,h⟩:=l8 h
      refine oV (hΦ.F9 g11) ?_
      refine D6 ?_
      cases h
      exact ⟨_,_,_,rfl,rfl,rfl⟩
     ·refine eSG (oB 2 rfl ?_)
      refine eI rfl h (fun h=>?_) fun h=>?_
      ·refine eSG (oA 2 rfl ?_)
       obtain ⟨words9,g13,h⟩:=l8 h
       refine oV (A7 g13) ?_
       refine D6 (j6 (oA 3 rfl ?_))
       obtain ⟨words10,g14,h⟩:=l8 h
       refine oV (hΦ.F9 g14) ?_
       refine D6 ?_
       cases h
       exact ⟨_,_,_,rfl,rfl,rfl⟩
      ·refine eSG (oB 2 rfl ?_)
       refine eI rfl h (fun h=>?_) fun h=>?_
       ·refine j6 (oA 4 rfl ?_)
        obtain ⟨words11,g16,h⟩:=l8 h
        refine oV (A7 g16) ?_
        refine D6 ?_
        cases h
        exact ⟨_,_,_,rfl,rfl,rfl⟩
       ·refine eSG (oB 2 rfl ?_)
        refine eI rfl h (fun h=>?_) fun h=>?_
        ·refine eSG (oA 5 rfl ?_)
         obtain ⟨words12,g18,h⟩:=l8 h
         refine oV (hΦ.F7 g18) ?_
         refine D6 (j6 (oA 4 rfl ?_))
         obtain ⟨words13,g19,h⟩:=l8 h
         refine oV (A7 g19) ?_
         refine D6 ?_
         cases h
         exact ⟨_,_,_,rfl,rfl,rfl⟩
        ·refine eSG (oB 2 rfl ?_)
         refine eI rfl h (fun h=>?_) fun h=>?_
         ·refine eSG (oB 6 rfl (eSG (oA 2 rfl ?_)))
          obtain ⟨words14,g21,h⟩:=l8 h
          refine oV (A7 g21) ?_
          refine D6 (eSG (oA 4 rfl ?_))
          obtain ⟨l15,g22,h⟩:=l8 h
          refine b24 a1n g22 rfl rfl rfl rfl rfl rfl rfl rfl rfl rfl rfl rfl ?_
          refine oA 2 rfl ?_
          obtain ⟨words16,g23,h⟩:=l8 h
          refine oV (hΦ.F7 g23) ?_
          refine D6 (eSG (oA 2 rfl ?_))
          obtain ⟨words17,g24,h⟩:=l8 h
          refine oV (A7 g24) ?_
          refine D6 (j6 (oA 4 rfl ?_))
          obtain ⟨l18,g25,h⟩:=l8 h
          refine b24 a1n g25 rfl rfl rfl rfl rfl rfl rfl rfl rfl rfl rfl rfl ?_
          refine oA 2 rfl ?_
          obtain ⟨words19,g26,h⟩:=l8 h
          refine oV (hΦ.F7 g26) ?_
          refine D6 ?_
          cases h
          exact ⟨_,_,_,rfl,rfl,rfl⟩
         ·refine eSG (oA 4 rfl ?_)
          obtain ⟨words20,g27,h⟩:=l8 h
          refine oV (A7 g27) ?_
          refine D6 (j6 (oA 3 rfl ?_))
          obtain ⟨words21,g28,h⟩:=l8 h
          refine oV (hΦ.F9 g28) ?_
          refine D6 ?_
          cases h
          exact ⟨_,_,_,rfl,rfl,rfl⟩
theorem a3o (n:Nat) {Φ:j3} (hΦ:Φ.Ok) {l1:List Typ} {words2:List Str} {r:List Str} (h:P9 n Φ l1 words2 = some r) :
  E env (.call 39 [.ptr 0 0,.sl x9 l1]) [(0,.row [.st 1 clS words2]),(1,.tip (tpe 1 (List.length words2)) (List.length words2))] = some (a0W l1 words2 r):=by
 unfold P9 at h
 refine H6 rfl Tryz.func39 rfl rfl ?_
 refine eSG (oB 3 rfl ?_)
 refine eI rfl h (fun h=>?_) fun h=>?_
 ·refine eSG (oA 2 rfl ?_)
  obtain ⟨words3,g2,h⟩:=l8 h
  refine oV (A7 g2) ?_
  refine D6 (eSG (oA 4 rfl ?_))
  obtain ⟨words4,g3,h⟩:=l8 h
  refine oV (hΦ.F7 g3) ?_
  refine D6 (j6 (oA 2 rfl ?_))
  obtain ⟨words5,g4,h⟩:=l8 h
  refine oV (A7 g4) ?_
  refine D6 ?_
  cases h
  exact ⟨_,_,_,rfl,rfl,rfl⟩
 ·refine o7 ?_
  cases h
  exact ⟨_,_,_,rfl,rfl,rfl⟩
theorem a4b (n:Nat) {Φ:j3} (hΦ:Φ.Ok) {l1:List Typ} {words2:List Str} {r:List Str} (h:U6 n Φ l1 words2 = some r) :
  E env (.call 40 [.ptr 0 0,.sl x9 l1,.func (.func 18) [.ptr 0 0] []]) [(0,.row [.st 1 clS words2]),(1,.tip (tpe 1 (List.length words2)) (List.length words2))] = some (a1p l1 words2 r):=by
 unfold U6 at h
 refine H6 rfl Tryz.func40 rfl rfl ?_
 refine eSG (oB 3 rfl ?_)
 refine E9 ?_
 refine a0h rfl ?_
 obtain ⟨yq,hq⟩:∃ y,y = r:=⟨_,rfl⟩
 rw [<- hq] at h ⊢
 clear hq
 revert yq
 refine a3h (fun m (x:Int × List Str)=>J5 n Φ l1 m x.1 x.2) (fun x=>[(0,.ptr 0 0),(2,.func (.func 18) [.ptr 0 0] []),(8,.sl x9 l1),(9,.i (List.length l1:Int)),(10,.i x.1)]) (fun x=>[(0,.row [.st 1 clS x.2]),(1,.tip (tpe 1 (List.length x.2)) (List.length x.2))]) _ (fun _=>rfl) (fun m1 x y ih h=>?_) n (0,words2)
 obtain ⟨a8W,a6b⟩:=x
 rw [J5] at h
 refine eSG (oB 1 rfl (w9 ?_))
 refine eI rfl h (fun h=>?_) fun h=>?_
 ·refine o7 (w9 ?_)
  refine E9 ?_
  refine eSG (oA 1 rfl ?_)
  obtain ⟨x3,g2,h⟩:=l8 h
  obtain ⟨x3_0,x3_1,x3_2,x3_3⟩:=x3
  refine a5i a1n g2 rfl rfl rfl rfl rfl rfl rfl rfl ?_
  refine a2H (c:=[.i x3_0,.str x3_1,.i x3_2,.sl x9 x3_3]) rfl rfl rfl rfl rfl rfl rfl ?_
  refine oB 3 rfl ?_
  obtain ⟨y3,g4,h⟩:=l8 h
  refine a6m [(0,.ptr 0 0),(2,.func (.func 18) [.ptr 0 0] []),(7,.ptr 2 0),(8,.sl x9 l1),(9,.i (List.length l1:Int)),(10,.i a8W)] [(0,.row [.st 1 clS y3]),(1,.tip (tpe 1 (List.length y3)) (List.length y3)),(2,.row [.i x3_0,.str x3_1,.i x3_2,.sl x9 x3_3])] rfl ?_ ?_
  ·replace h:=g4
   clear g4
   refine eSG (oB 2 rfl ?_)
   refine eI rfl h (fun h=>?_) fun h=>?_
   ·refine j6 (oA 2 rfl ?_)
    obtain ⟨words4,g6,h⟩:=l8 h
    refine oV (A7 g6) ?_
    refine D6 ?_
    cases h
    exact rfl
   ·refine o7 ?_
    cases h
    exact rfl
  ·obtain ⟨b1B,rfl⟩:∃ q,q = y3:=⟨_,rfl⟩
   refine j6 (oA 2 rfl ?_)
   obtain ⟨words5,g7,h⟩:=l8 h
   refine os_callF rfl rfl rfl rfl (a2X rfl rfl (hΦ.F8 g7) rfl rfl rfl) ?_
   refine D6 (j6 (oB 2 rfl ?_))
   exact ⟨_,_,rfl,ih (_,_) _ h⟩
 ·refine X7 ?_
  cases h
  exact ⟨_,_,_,rfl,rfl,rfl⟩
theorem j3.ok:∀ n,(j3.fs n).Ok
 | 0=>⟨(fun h=>by cases h),(fun h=>by cases h),(fun h=>by cases h)⟩
 | n + 1=>⟨(fun h=>a3J n (j3.ok n) h),(fun h=>a3o n (j3.ok n) h),(fun h=>a4b n (j3.ok n) h)⟩
theorem a4H {n:Nat} {t1:Typ} {words2:List Str} {r:List Str} (h:F8 n t1 words2 = some r) :
  E env (.call 18 [.ptr 0 0,.agg [.i t1.kind,.str t1.name,.i t1.n,.sl x9 t1.args]]) [(0,.row [.st 1 clS words2]),(1,.tip (tpe 1 (List.length words2)) (List.length words2))] = some (a0c t1 words2 r):=(j3.ok n).F8 h
theorem a4f {words1:List Str} {r:Str} (h:Y8 words1 = some r) :
  E env (.call 19 [.ptr 0 0]) [(0,.row [.st 1 clS words1]),(1,.tip (tpe 1 (List.length words1)) (List.length words1))] = some (a3I words1 r):=by
 unfold Y8 at h
 refine H6 rfl Tryz.func19 rfl rfl ?_
 refine eSG (oB 1 rfl (eSG (oA 4 rfl ?_)))
 obtain ⟨rr2,g1,h⟩:=l8 h
 refine F4 rfl rfl rfl rfl rfl (joinG_ok g1) rfl ?_
 refine oB 1 rfl ?_
 cases h
 exact j5 ⟨_,_,_,rfl,rfl,rfl⟩
theorem a1P {n:Nat} {t1:Typ} {r:Str} (h:S9 n t1 = some r) :
  E env (.call 7 [.agg [.i t1.kind,.str t1.name,.i t1.n,.sl x9 t1.args]]) [] = some (a4D t1 r):=by
 unfold S9 at h
 obtain ⟨t1_0,t1_1,t1_2,t1_3⟩:=t1
 refine H6 rfl Tryz.func7 rfl rfl ?_
 refine eSG (oB 2 rfl (eSG ?_))
 refine oD ?_
 refine oB 2 rfl (eSG (oA 2 rfl ?_))
 obtain ⟨words2,g1,h⟩:=l8 h
 refine oV (a4H g1) ?_
 refine D6 (eSG (oA 1 rfl ?_))
 obtain ⟨r3,g2,h⟩:=l8 h
 refine oV (a4f g2) ?_
 refine oB 1 rfl ?_
 cases h
 exact j5 ⟨_,_,_,rfl,rfl,rfl⟩
theorem a81 {s1:Str} {r:Bool} (h:a1M s1 = some r) :
  E env (.call 8 [.str s1]) [] = some (a8a s1 r):=by
 unfold a1M at h
 refine H6 rfl Tryz.func8 rfl rfl ?_
 refine eSG (oB 1 rfl (w9 (eSG (oB 3 rfl ?_))))
 refine eI rfl h (fun h=>?_) fun h=>?_
 ·refine eSG (oB 1 rfl ?_)
  cases h
  exact j5 ⟨_,_,_,rfl,rfl,rfl⟩
 ·refine o7 (eSG (oA 1 rfl ?_))
  obtain ⟨⟨l2,c3,a4⟩,g2,h⟩:=l8 h
  refine F4 rfl rfl rfl rfl rfl (a8D g2) rfl ?_
  refine oB 6 rfl (eSG (oA 4 rfl ?_))
  refine A8 rfl rfl rfl (fun g3=>?_) (fun g3=>?_)
  ·replace h:=a0y h g3
   refine oB 5 rfl ?_
   cases h
   exact j5 ⟨_,_,_,rfl,rfl,rfl⟩
  ·replace h:=a0x h g3
   refine oA 1 rfl ?_
   obtain ⟨rr5,g4,h⟩:=l8 h
   refine F4 rfl rfl rfl rfl rfl (trimG_ok g4) rfl ?_
   refine oB 3 rfl ?_
   cases h
   exact j5 ⟨_,_,_,rfl,rfl,rfl⟩
structure o9.Ok (Φ:o9):Prop where
 K6:∀ {a1:Typ} {b2:Typ} {r:Bool},Φ.K6 a1 b2 = some r -> E env (.call 9 [.agg [.i a1.kind,.str a1.name,.i a1.n,.sl x9 a1.args],.agg [.i b2.kind,.str b2.name,.i b2.n,.sl x9 b2.args]]) [] = some (a03 a1 b2 r)
 V3:∀ {a1:List Typ} {b2:List Typ} {r:Bool},Φ.V3 a1 b2 = some r -> E env (.call 22 [.sl x9 a1,.sl x9 b2]) [] = some (a0O a1 b2 r)
theorem a5O (n:Nat) {Φ:o9} (hΦ:Φ.Ok) {a1:Typ} {b2:Typ} {r:Bool} (h:a0d n Φ a1 b2 = some r) :
  E env (.call 9 [.agg [.i a1.kind,.str a1.name,.i a1.n,.sl x9 a1.args],.agg [.i b2.kind,.str b2.name,.i b2.n,.sl x9 b2.args]]) [] = some (a03 a1 b2 r):=by
 unfold a0d at h
 obtain ⟨a1_0,a1_1,a1_2,a1_3⟩:=a1
 obtain ⟨b2_0,b2_1,b2_2,b2_3⟩:=b2
 refine H6 rfl Tryz.func9 rfl rfl ?_
 refine eSG (oB 3 rfl (eSG (oA 6 rfl ?_)))
 refine A8 rfl rfl rfl (fun g1=>?_) (fun g1=>?_)
 ·replace h:=a0y h g1
  refine oA 7 rfl ?_
  refine A8 rfl rfl rfl (fun g2=>?_) (fun g2=>?_)
  ·replace h:=a0y h g2
   refine oA 7 rfl ?_
   refine A8 rfl rfl rfl (fun g3=>?_) (fun g3=>?_)
   ·replace h:=a0y h g3
    refine oA 4 rfl ?_
    obtain ⟨r3,g4,h⟩:=l8 h
    refine F4 rfl rfl rfl rfl rfl (hΦ.V3 g4) rfl ?_
    refine oB 2 rfl ?_
    cases h
    exact j5 ⟨_,_,_,rfl,rfl,rfl⟩
   ·replace h:=a0x h g3
    refine oB 7 rfl ?_
    cases h
    exact j5 ⟨_,_,_,rfl,rfl,rfl⟩
  ·replace h:=a0x h g2
   refine oB 14 rfl ?_
   cases h
   exact j5 ⟨_,_,_,rfl,rfl,rfl⟩
 ·replace h:=a0x h g1
  refine oB 21 rfl ?_
  cases h
  exact j5 ⟨_,_,_,rfl,rfl,rfl⟩
theorem a5m (n:Nat) {Φ:o9} (hΦ:Φ.Ok) {a1:List Typ} {b2:List Typ} {r:Bool} (h:Y4 n Φ a1 b2 = some r) :
  E env (.call 22 [.sl x9 a1,.sl x9 b2]) [] = some (a0O a1 b2 r):=by
 unfold Y4 at h
 refine H6 rfl Tryz.func22 rfl rfl ?_
 refine eSG (oB 1 rfl (w9 (eSG (oB 5 rfl ?_))))
 refine eI rfl h (fun h=>?_) fun h=>?_
 ·refine eSG (oB 1 rfl ?_)
  cases h
  exact j5 ⟨_,_,_,rfl,rfl,rfl⟩
 ·refine o7 ?_
  obtain ⟨y2,g3,h⟩:=a2r h
  refine a2Z (KR:=fun r=>OutK env 22 0 Tryz.f22.results.toList (a0O a1 b2 r)) y2 (fun z9=>[]) (fun z9=>[]) rfl ?_ (fun z9 hx=>?_) (fun r res hz hr hn=>?_)
  ·replace h:=g3
   clear g3
   refine eSG (oB 1 rfl ?_)
   refine E9 ?_
   refine a0h rfl ?_
   revert y2
   refine a3h (fun m (x:Int)=>O6 n Φ a1 b2 m x) (fun x=>[(0,.sl x9 a1),(1,.sl x9 b2),(5,.i x)]) (fun x=>[]) _ (fun _=>rfl) (fun m4 x y ih h=>?_) n 0
   obtain ⟨i503,rfl⟩:∃ q,q = x:=⟨_,rfl⟩
   rw [O6] at h
   refine w9 (eSG (oB 4 rfl ?_))
   refine eI rfl h (fun h=>?_) fun h=>?_
   ·refine o7 (w9 ?_)
    refine E9 ?_
    refine eSG (oA 2 rfl ?_)
    obtain ⟨x3,g5,h⟩:=l8 h
    obtain ⟨x3_0,x3_1,x3_2,x3_3⟩:=x3
    refine a5i a1n g5 rfl rfl rfl rfl rfl rfl rfl rfl ?_
    refine a2H (c:=[.i x3_0,.str x3_1,.i x3_2,.sl x9 x3_3]) rfl rfl rfl rfl rfl rfl rfl ?_
    refine oA 2 rfl ?_
    obtain ⟨x4,g6,h⟩:=l8 h
    obtain ⟨x4_0,x4_1,x4_2,x4_3⟩:=x4
    refine a5i a1n g6 rfl rfl rfl rfl rfl rfl rfl rfl ?_
    refine a2H (c:=[.i x4_0,.str x4_1,.i x4_2,.sl x9 x4_3]) rfl rfl rfl rfl rfl rfl rfl ?_
    obtain ⟨r5,g7,h⟩:=l8 h
    refine F4 rfl rfl rfl rfl rfl (hΦ.K6 g7) rfl ?_
    refine oB 1 rfl ?_
    refine eI rfl h (fun h=>?_) fun h=>?_
    ·refine eSG (oB 1 rfl ?_)
     cases h
     exact j5 ⟨_,rfl,_,_,_,rfl,rfl,rfl⟩
    ·refine o7 (j6 (oB 3 rfl ?_))
     exact ⟨_,_,rfl,ih _ _ h⟩
   ·refine X7 ?_
    cases h
    exact ⟨_,rfl,rfl⟩
  ·subst hx
   refine eSG (oB 1 rfl ?_)
   cases h
   exact j5 ⟨_,_,_,rfl,rfl,rfl⟩
  ·subst hz
   rcases res with ⟨_ | _ | _ | _,_,_⟩ <;> first | exact absurd rfl hn | exact hr.elim | (cases h; exact hr)
theorem o9.ok:∀ n,(o9.fs n).Ok
 | 0=>⟨(fun h=>by cases h),(fun h=>by cases h)⟩
 | n + 1=>⟨(fun h=>a5O n (o9.ok n) h),(fun h=>a5m n (o9.ok n) h)⟩
theorem a7j {n:Nat} {a1:Typ} {b2:Typ} {r:Bool} (h:K6 n a1 b2 = some r) :
  E env (.call 9 [.agg [.i a1.kind,.str a1.name,.i a1.n,.sl x9 a1.args],.agg [.i b2.kind,.str b2.name,.i b2.n,.sl x9 b2.args]]) [] = some (a03 a1 b2 r):=(o9.ok n).K6 h
theorem a3f {n:Nat} {V4:Str} {r:Bool} (h:V7 n V4 = some r) :
  E env (.call 3 [.str V4]) [] = some (a2B V4 r):=by
 unfold V7 at h
 refine H6 rfl Tryz.func3 rfl rfl ?_
 refine eSG (oB 1 rfl (w9 (eSG (oA 1 rfl ?_))))
 obtain ⟨_,g1,h⟩:=l8 h
 refine F4 rfl rfl rfl rfl rfl (a88 g1) rfl ?_
 refine D6 ?_
 refine eI rfl h (fun h=>?_) fun h=>?_
 ·refine eSG ?_
  obtain ⟨bb2,g3,h⟩:=l8 h
  refine F4 rfl rfl rfl rfl rfl (a6h g3) rfl ?_
  refine oB 1 rfl ?_
  cases h
  exact j5 ⟨_,_,_,rfl,rfl,rfl⟩
 ·refine o7 (eSG (oA 1 rfl ?_))
  obtain ⟨⟨r3,r4⟩,g4,h⟩:=l8 h
  obtain ⟨r3_0,r3_1,r3_2,r3_3⟩:=r3
  refine F4 rfl rfl rfl rfl rfl (a4Q g4) rfl ?_
  refine oB 7 rfl (eSG (oA 1 rfl ?_))
  obtain ⟨r5,g5,h⟩:=l8 h
  refine F4 rfl rfl rfl rfl rfl (a1P g5) rfl ?_
  refine oB 1 rfl (w9 ?_)
  obtain ⟨y6,g7,h⟩:=l8 h
  refine a6m [(3,.ptr 0 0),(5,.str r5),(25,.bool y6)] [(0,.row [.i r3_0,.str r3_1,.i r3_2,.sl x9 r3_3])] rfl ?_ ?_
  ·replace h:=g7
   clear g7
   refine j6 (oA 4 rfl ?_)
   refine A8 rfl rfl rfl (fun g8=>?_) (fun g8=>?_)
   ·replace h:=a0y h g8
    refine oB 4 rfl ?_
    cases h
    exact rfl
   ·replace h:=a0x h g8
    refine oA 1 rfl ?_
    obtain ⟨r6,g9,h⟩:=l8 h
    refine F4 rfl rfl rfl rfl rfl (a81 g9) rfl ?_
    refine oB 2 rfl ?_
    cases h
    exact rfl
  ·obtain ⟨x506,rfl⟩:∃ q,q = y6:=⟨_,rfl⟩
   refine eI rfl h (fun h=>?_) fun h=>?_
   ·refine eSG ?_
    obtain ⟨bb7,g11,h⟩:=l8 h
    refine F4 rfl rfl rfl rfl rfl (a6h g11) rfl ?_
    refine oB 1 rfl ?_
    cases h
    exact j5 ⟨_,_,_,rfl,rfl,rfl⟩
   ·refine o7 (eSG (oA 1 rfl ?_))
    obtain ⟨⟨r8,r9⟩,g12,h⟩:=l8 h
    obtain ⟨r8_0,r8_1,r8_2,r8_3⟩:=r8
    refine F4 rfl rfl rfl rfl rfl (a4Q g12) rfl ?_
    refine oB 7 rfl (eSG (oA 4 rfl ?_))
    refine A8 rfl rfl rfl (fun g13=>?_) (fun g13=>?_)
    ·replace h:=a0y h g13
     refine oA 2 rfl ?_
     obtain ⟨r10,g14,h⟩:=l8 h
     refine F4 rfl rfl rfl rfl rfl (a7j g14) rfl ?_
     refine oA 2 rfl ?_
     refine A8 rfl rfl rfl (fun g15=>?_) (fun g15=>?_)
     ·replace h:=a0y h g15
      refine oA 1 rfl ?_
      obtain ⟨r11,g16,h⟩:=l8 h
      refine F4 rfl rfl rfl rfl rfl (a1P g16) rfl ?_
      refine oA 4 rfl ?_
      refine A8 rfl rfl rfl (fun g17=>?_) (fun g17=>?_)
      ·replace h:=a0y h g17
       obtain ⟨bb12,g18,h⟩:=l8 h
       refine F4 rfl rfl rfl rfl rfl (a6h g18) rfl ?_
       refine oB 2 rfl ?_
       cases h
       exact j5 ⟨_,_,_,rfl,rfl,rfl⟩
      ·replace h:=a0x h g17
       refine oB 3 rfl ?_
       cases h
       exact j5 ⟨_,_,_,rfl,rfl,rfl⟩
     ·replace h:=a0x h g15
      refine oB 9 rfl ?_
      cases h
      exact j5 ⟨_,_,_,rfl,rfl,rfl⟩
    ·replace h:=a0x h g13
     refine oB 14 rfl ?_
     cases h
     exact j5 ⟨_,_,_,rfl,rfl,rfl⟩
end Go.Proofs.YtamfchbgonekeaaGreatDoor
namespace Go.Proofs.YtamfchbgonekeaaGreatDoor
open Go Go.Vm
theorem back_E (s:Str):E env (.call 3 [.str s]) [] = some (.ret (.bool true) []):=a3f (b3h s)
end Go.Proofs.YtamfchbgonekeaaGreatDoor
