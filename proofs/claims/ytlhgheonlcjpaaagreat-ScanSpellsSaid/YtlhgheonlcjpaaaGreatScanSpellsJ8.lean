/- What the functions under ScanSpells compute, step by step, as functions in Lean: texts that were built one by one, joined. -/
import Derived.Test.YtlhgheonlcjpaaaGreatScanSpellsJ7
import Derived.Test.YtlhgheonlcjpaaaGreatProg
import Derived.Tactics
import Derived.Tactics2
import Derived.Defers
import Derived.Laws.Pointers
import Derived.Laws.LoneSync
import Derived.RegionTactic
import Derived.RegionCalls
import Derived.ChangeAlike
import Derived.Laws.World
import Derived.KernelRfl
import Derived.Shelf.Strings.Count
import Derived.Lib.Join
import Derived.Shelf.Strings.Builder1
import Derived.Shelf.Strings.OnBuilder
import Derived.ChangeArms
import Derived.DataReads
import Derived.ChangeStays
import Derived.ReadAgain
set_option maxRecDepth 100000
set_option maxHeartbeats 20000000
set_option linter.unusedSimpArgs false
set_option linter.unusedVariables false
set_option linter.unusedSectionVars false
namespace Go.Proofs.YtlhgheonlcjpaaaGreat.Sc
open Go Go.Vm
def Lay (s:List UInt8):Nat -> List Tok -> Nat -> Prop
 | k,[],e=>k = e
 | k,t :: r,e=>t.a = F7 s k /\ t.a < s.length /\ 0 < t.l /\ t.a + t.l <= s.length /\ Lay s (t.a + t.l) r e
theorem Lay.add {s:List UInt8} {t:Tok}:∀ {l:List Tok} {k e:Nat},Lay s k l e -> t.a = F7 s e -> t.a < s.length -> 0 < t.l -> t.a + t.l <= s.length -> Lay s k (l ++ [t]) (t.a + t.l)
 | [],k,e,h,h1,h2,h3,h4=>by
  simp only [Lay] at h; subst h
  exact ⟨h1,h2,h3,h4,rfl⟩
 | u :: l,k,e,h,h1,h2,h3,h4=>⟨h.1,h.2.1,h.2.2.1,h.2.2.2.1,Lay.add h.2.2.2.2 h1 h2 h3 h4⟩
theorem a2S {toks:List Tok} {j:Nat} {r:MR} {y:MS} (h:roomy toks j r = .go y):toks.length < 3000 /\ r = .go y:=by
 unfold roomy at h
 split at h
 ·cases h
 ·rename_i h1
  simp only [decide_eq_false_iff_not] at h1
  exact ⟨by omega,h⟩
theorem lit_go {s:List UInt8} {toks:List Tok} {st:List (Nat × Int)} {q j ins:Nat} {a b:Int} {y:MS} (h:U9 toks st q j a b (part s q ins (j + 1) []) = .go y) :
  ∃ t:Tok,y.toks = toks ++ [t] /\ t.a = j /\ 0 < t.l /\ y.i = t.a + t.l /\ t.a + t.l <= s.length:=by
 have hok:=a8E s q ins (j + 1) []
 cases hp:part s q ins (j + 1) [] with
 | err c a=>rw [hp] at h; cases h
 | fin t e =>
  rw [hp] at h hok
  have h1:j + 1 < e:=hok.1
  have h2:e <= s.length:=hok.2
  simp only [U9] at h
  cases h
  exact ⟨_,rfl,rfl,by show 0 < e - j; omega,by show e = j + (e - j); omega,by show j + (e - j) <= _; omega⟩
 | more t e =>
  rw [hp] at h hok
  have h1:j + 1 < e:=hok.1
  have h2:e <= s.length:=hok.2
  simp only [U9] at h
  cases h
  exact ⟨_,rfl,rfl,by show 0 < e - j; omega,by show e = j + (e - j); omega,by show j + (e - j) <= _; omega⟩
theorem stepM_go {s:List UInt8} {x y:MS} (h:stepM s x = .go y):∃ t:Tok,y.toks = x.toks ++ [t] /\ t.a = F7 s x.i /\ t.a < s.length /\ 0 < t.l /\ y.i = t.a + t.l /\ t.a + t.l <= s.length:=by
 obtain ⟨i0,toks,st⟩:=x
 obtain ⟨i,h0⟩:∃ i,F7 s i0 = i:=⟨_,rfl⟩
 show ∃ t:Tok,y.toks = toks ++ [t] /\ t.a = F7 s i0 /\ _
 rw [h0]
 rcases Nat.lt_or_ge i s.length with hi | hi
 ·have fin:(∃ t:Tok,y.toks = toks ++ [t] /\ t.a = i /\ 0 < t.l /\ y.i = t.a + t.l /\ t.a + t.l <= s.length) -> ∃ t:Tok,y.toks = toks ++ [t] /\ t.a = i /\ t.a < s.length /\ 0 < t.l /\ y.i = t.a + t.l /\ t.a + t.l <= s.length:=by
   rintro ⟨t,h1,h2,h3,h4,h5⟩
   exact ⟨t,h1,h2,by omega,h3,h4,h5⟩
  apply fin
  cases hc:closes (s.getD i 0).toNat st with
  | true =>
   cases st with
   | nil=>cases hc
   | cons z st =>
    obtain ⟨q,p⟩:=z
    rw [(a0o h0 hi hc).2] at h
    exact lit_go (a2S h).2
  | false =>
   by_cases h1:(s.getD i 0).toNat = 34
   ·rw [a01 h0 hi hc h1] at h
    exact lit_go (a2S h).2
   ·have hi1:i <= s.length:=by omega
    cases h2:u6 (s.getD i 0) with
    | true =>
     rw [X4 h0 hi hc h1 h2] at h
     have hg:=a0B hi h2
     have hl:=Z8 (p:=u6) hi1
     have h:=(a2S h).2
     split at h
     ·cases h
     ·cases h; exact ⟨_,rfl,rfl,by show 0 < D7 u6 s i - i; omega,by show D7 u6 s i = i + (D7 u6 s i - i); omega,by show i + (D7 u6 s i - i) <= _; omega⟩
    | false =>
     cases h3:G7 (s.getD i 0) with
     | true =>
      rw [U1 h0 hi hc h1 h2 h3] at h
      have hg:=a0B (p:=F9) hi (by simp only [F9,h3,Bool.true_or])
      have hl:=Z8 (p:=F9) hi1
      have h:=(a2S h).2
      split at h
      ·cases h
      ·cases h; exact ⟨_,rfl,rfl,by show 0 < D7 F9 s i - i; omega,by show D7 F9 s i = i + (D7 F9 s i - i); omega,by show i + (D7 F9 s i - i) <= _; omega⟩
     | false =>
      cases hw:J7 s i 2 with
      | nil=>rw [a1j h0 hi hc h1 h2 h3 hw] at h; cases h
      | cons b w =>
       rw [U2 h0 hi hc h1 h2 h3 hw (by simp)] at h
       have hl:=a3r 2 hi1
       rw [hw] at hl
       have h:=(a2S h).2
       cases h
       exact ⟨_,rfl,rfl,by show 0 < (b :: w).length; simp,rfl,by show i + (b :: w).length <= _; omega⟩
 ·cases st with
  | nil=>rw [a1k h0 hi] at h; cases h
  | cons z st=>obtain ⟨q,p⟩:=z; rw [a1l h0 hi] at h; cases h
theorem b1G {s:List UInt8} {x y:MS} (h:Reach s x y):x.i <= s.length -> Lay s 0 x.toks x.i -> y.i <= s.length /\ Lay s 0 y.toks y.i:=by
 induction h with
 | refl x=>exact fun h1 h2=>⟨h1,h2⟩
 | step x y z h1 _ ih =>
  intro h2 h3
  obtain ⟨t,g1,g2,g3,g4,g5,g6⟩:=stepM_go h1
  exact ih (by omega) (by rw [g1,g5]; exact h3.add g2 g3 g4 g6)
theorem a1d {toks l:List Tok} {j:Nat} {r:MR} (h:roomy toks j r = .done l):r = .done l:=by
 unfold roomy at h
 split at h
 ·cases h
 ·exact h
theorem a4l {toks l:List Tok} {st:List (Nat × Int)} {q j:Nat} {a b:Int} {r:PR} (h:U9 toks st q j a b r = .done l):False:=by
 cases r <;> cases h
theorem b0A {s:List UInt8} {x:MS} {l:List Tok} (h:stepM s x = .done l):x.toks = l /\ s.length <= F7 s x.i:=by
 obtain ⟨i0,toks,st⟩:=x
 obtain ⟨i,h0⟩:∃ i,F7 s i0 = i:=⟨_,rfl⟩
 show toks = l /\ s.length <= F7 s i0
 rw [h0]
 rcases Nat.lt_or_ge i s.length with hi | hi
 ·exfalso
  cases hc:closes (s.getD i 0).toNat st with
  | true =>
   cases st with
   | nil=>cases hc
   | cons z st =>
    obtain ⟨q,p⟩:=z
    rw [(a0o h0 hi hc).2] at h
    exact a4l (a1d h)
  | false =>
   by_cases h1:(s.getD i 0).toNat = 34
   ·rw [a01 h0 hi hc h1] at h
    exact a4l (a1d h)
   ·cases h2:u6 (s.getD i 0) with
    | true =>
     rw [X4 h0 hi hc h1 h2] at h
     have h:=a1d h
     split at h <;> cases h
    | false =>
     cases h3:G7 (s.getD i 0) with
     | true =>
      rw [U1 h0 hi hc h1 h2 h3] at h
      have h:=a1d h
      split at h <;> cases h
     | false =>
      cases hw:J7 s i 2 with
      | nil=>rw [a1j h0 hi hc h1 h2 h3 hw] at h; cases h
      | cons b w =>
       rw [U2 h0 hi hc h1 h2 h3 hw (by simp)] at h
       have h:=a1d h
       cases h
 ·cases st with
  | nil=>rw [a1k h0 hi] at h; cases h; exact ⟨rfl,hi⟩
  | cons z st=>obtain ⟨q,p⟩:=z; rw [a1l h0 hi] at h; cases h
theorem a14 {toks:List Tok} {j:Nat} {r:MR} {c:Int} {a:Nat} (h:roomy toks j r = .err c a):c = 2 ∨ r = .err c a:=by
 unfold roomy at h
 split at h
 ·cases h; exact .inl rfl
 ·exact .inr h
theorem b07 {s:List UInt8} {toks:List Tok} {st:List (Nat × Int)} {q j ins i:Nat} {a b:Int} {c:Int} {p:Nat} (h:U9 toks st q j a b (part s q ins i []) = .err c p):c ≠ 0:=by
 have hok:=a8E s q ins i []
 cases hp:part s q ins i [] with
 | err c' a'=>rw [hp] at h hok; cases h; rcases hok with rfl | rfl | rfl <;> decide
 | fin t e=>rw [hp] at h; cases h
 | more t e=>rw [hp] at h; cases h
theorem b1O {s:List UInt8} {x:MS} {c:Int} {p:Nat} (h:stepM s x = .err c p):c ≠ 0:=by
 obtain ⟨i0,toks,st⟩:=x
 obtain ⟨i,h0⟩:∃ i,F7 s i0 = i:=⟨_,rfl⟩
 rcases Nat.lt_or_ge i s.length with hi | hi
 ·cases hc:closes (s.getD i 0).toNat st with
  | true =>
   cases st with
   | nil=>cases hc
   | cons z st =>
    obtain ⟨q,p⟩:=z
    rw [(a0o h0 hi hc).2] at h
    rcases a14 h with rfl | h
    ·decide
    ·exact b07 h
  | false =>
   by_cases h1:(s.getD i 0).toNat = 34
   ·rw [a01 h0 hi hc h1] at h
    rcases a14 h with rfl | h
    ·decide
    ·exact b07 h
   ·cases h2:u6 (s.getD i 0) with
    | true =>
     rw [X4 h0 hi hc h1 h2] at h
     rcases a14 h with rfl | h
     ·decide
     ·split at h <;> cases h; decide
    | false =>
     cases h3:G7 (s.getD i 0) with
     | true =>
      rw [U1 h0 hi hc h1 h2 h3] at h
      rcases a14 h with rfl | h
      ·decide
      ·split at h <;> cases h; decide
     | false =>
      cases hw:J7 s i 2 with
      | nil=>rw [a1j h0 hi hc h1 h2 h3 hw] at h; cases h; decide
      | cons b w =>
       rw [U2 h0 hi hc h1 h2 h3 hw (by simp)] at h
       rcases a14 h with rfl | h
       ·decide
       ·cases h
 ·cases st with
  | nil=>rw [a1k h0 hi] at h; cases h
  | cons z st=>obtain ⟨q,p⟩:=z; rw [a1l h0 hi] at h; cases h; decide
structure TokOk (s:List UInt8) (r:MR):Prop where
 bd:RBd r
 nz:∀ c a,r = .err c a -> c ≠ 0
 lay:∀ l,r = .done l -> s.length <= 8000 /\ ∃ e,Lay s 0 l e /\ s.length <= F7 s e /\ e <= s.length
theorem ends_ok {s:List UInt8} (hs:s.length <= 8000) {r:MR} (h:Ends s ⟨0,[],[]⟩ r) (hr:RBd r):TokOk s r:=by
 obtain ⟨y,h1,h2,h3⟩:=h
 refine ⟨hr,fun c a e=>?_,fun l e=>?_⟩
 ·subst e; exact b1O h2
 ·subst e
  obtain ⟨h4,h5⟩:=b0A h2
  obtain ⟨h6,h7⟩:=b1G h1 (Nat.zero_le _) rfl
  rw [h4] at h7
  exact ⟨hs,y.i,h7,h5,h6⟩
theorem a9D (s:List UInt8):∃ r,TokOk s r /\ E env (.call 13 [.str s]) [] = some (.ret (a2Z r) []) /\ E env (.call 18 [.str s]) [] = some (.ret (a2Z r) []) /\ (s.length <= 8000 -> Ends s ⟨0,[],[]⟩ r):=by
 rcases Nat.lt_or_ge 8000 s.length with h | h
 ·exact ⟨.err 2 0,⟨trivial,fun c a e=>(by cases e; decide),fun l e=>(by cases e)⟩,c11big h,c12big h,fun h1=>absurd h1 (by omega)⟩
 ·obtain ⟨r,h1,h2,h3⟩:=c11 h
  obtain ⟨r',h4,h5⟩:=c12 h
  obtain rfl:=Ends.det s h1 h4
  exact ⟨r,ends_ok h h1 h2,h3,h5,fun _=>h1⟩
end Go.Proofs.YtlhgheonlcjpaaaGreat.Sc
namespace Go.Vm
variable {ρ:Rho} {lab:Lab} {w:World} {H:Hp}
theorem a8l {env:Env} (hE:a2A env) {g:Nat} {args:List V} {v:V} (h:E env (.call g args) [] = some (.ret v [])) (ha:J4 (M9 a0m dep) (args.map a19) = some args) (hv:M9 a0m dep v = some v)
  (hc:Canon 0 H) (hS:Sim ρ lab H w) {xs:List Value} (hx:p9 ρ lab w args xs):Calls env.P g xs.toArray w (a02 ρ lab H w (.ret v H)):=by
 obtain ⟨k,hk⟩:=(S9 env).at_ _ _ _ h
 have q:K4 (run env k) g args H = some (.val v H):=by
  unfold K4
  rw [ha]
  simp only
  rw [hk]
  simp only
  rw [hv]
 refine (a5t (b0y hE k).1 hS hx q).1.mono fun e w' he=>?_
 cases e with
 | returned x =>
  obtain ⟨ρ',lab',h1,h2,h3,h4⟩:=he
  exact ⟨ρ',lab',h1,h2,M7.of_le h3 _,h4,hc,Nat.le_refl _⟩
 | panicked ch=>exact he.elim
 | outgrown=>exact he.elim
def valI (f:List V -> Option V):List V -> Hp -> Option Out:=fun args H=>match f args with
 | some v=>some (.ret v H)
 | none=>none
theorem a8S {env:Env} (hE:a2A env) {g:Nat} {f:List V -> Option V}
  (hf:∀ args v,f args = some v -> J4 (M9 a0m dep) (args.map a19) = some args /\ M9 a0m dep v = some v /\ E env (.call g args) [] = some (.ret v []))
  (hk:∃ fn c,env.P.funcs[g]? = some fn /\ (fn.name == "runtime.NumGoroutine") = false /\ fn.body = some c):a3H env.P g (valI f):=by
 refine ⟨fun args H out h ρ lab w xs hc hS hx=>?_,hk⟩
 unfold valI at h
 split at h
 ·rename_i v hv
  cases h
  obtain ⟨h1,h2,h3⟩:=hf args v hv
  exact a8l hE h3 h1 h2 hc hS hx
 ·cases h
theorem a5I {env:Env} {g:Nat} {args:List V} {H:Hp} {out:Out} {h:List V -> Hp -> Option Out} (hi:env.intr g = some (.plain h)) (ho:h args H = some out):E env (.call g args) H = some out:=by
 refine (S9 env).le 1 _ _ _ ?_
 simp only [run,step,hi,ho]
end Go.Vm
namespace Go.Proofs.YtlhgheonlcjpaaaGreat.Sc
open Go Go.Vm
noncomputable def Z7 (s:List UInt8):MR:=(a9D s).choose
theorem a2Y (s:List UInt8):TokOk s (Z7 s) /\ E env (.call 13 [.str s]) [] = some (.ret (a2Z (Z7 s)) []) /\ E env (.call 18 [.str s]) [] = some (.ret (a2Z (Z7 s)) []) /\ (s.length <= 8000 -> Ends s ⟨0,[],[]⟩ (Z7 s)):=(a9D s).choose_spec
theorem a2t (s:List UInt8):RBd (Z7 s) /\ E env (.call 13 [.str s]) [] = some (.ret (a2Z (Z7 s)) []) /\ E env (.call 18 [.str s]) [] = some (.ret (a2Z (Z7 s)) []):=⟨(a2Y s).1.bd,(a2Y s).2.1,(a2Y s).2.2.1⟩
noncomputable def tokF:List V -> Option V:=fun args=>match args with
 | [.str s]=>some (a2Z (Z7 s))
 | _=>none
theorem a9E {r:MR} (h:RBd r):M9 a0m dep (a2Z r) = some (a2Z r):=by
 cases r with
 | go x=>exact h.elim
 | done l=>rfl
 | err c a=>rfl
theorem tok_intr:a3H Tryz.prog 13 (valI tokF):=by
 refine a8S a7p (fun args v h=>?_) ⟨_,_,Tryz.func13,by kernel_rfl,rfl⟩
 unfold tokF at h
 split at h
 ·rename_i s
  cases h
  exact ⟨rfl,a9E (a2t s).1,(a2t s).2.1⟩
 ·cases h
theorem b1U:a3H Tryz.prog 18 (valI tokF):=by
 refine a8S a7p (fun args v h=>?_) ⟨_,_,Tryz.func18,by kernel_rfl,rfl⟩
 unfold tokF at h
 split at h
 ·rename_i s
  cases h
  exact ⟨rfl,a9E (a2t s).1,(a2t s).2.2⟩
 ·cases h
end Go.Proofs.YtlhgheonlcjpaaaGreat.Sc
namespace Go.Proofs.YtlhgheonlcjpaaaGreat.Sc
open Go
theorem disable (w:World):(callFunc 83 #[]).run Tryz.prog w = .ok (.value (.tuple #[])) w:=run_call_mark0 Tryz.func83 (by kernel_rfl) (by kernel_rfl) (by kernel_rfl) .disable (by kernel_rfl) w
theorem enable (w:World):(callFunc 85 #[]).run Tryz.prog w = .ok (.value (.tuple #[])) w:=run_call_mark0 Tryz.func85 (by kernel_rfl) (by kernel_rfl) (by kernel_rfl) .enable (by kernel_rfl) w
theorem acquire (a:Addr) (w:World):(callFunc 86 #[.pointer (some a)]).run Tryz.prog w = .ok (.value (.tuple #[])) w:=run_call_marked Tryz.func86 (by kernel_rfl) (by kernel_rfl) (by kernel_rfl) .acquire (by kernel_rfl) a w
theorem releaseMerge (a:Addr) (w:World):(callFunc 88 #[.pointer (some a)]).run Tryz.prog w = .ok (.value (.tuple #[])) w:=run_call_marked Tryz.func88 (by kernel_rfl) (by kernel_rfl) (by kernel_rfl) .releaseMerge (by kernel_rfl) a w
theorem lock_in (a:Addr) (w:World) (hc:w.cell? a = some (.int .i32 0)) (hz:w.frozen? a = false) :
  Calls Tryz.prog 77 #[.pointer (some a)] w fun e w'=>e = .returned (.tuple #[]) /\ w' = w.setCell a (.int .i32 1):=by
 have hd:=disable
 have he:=enable
 have ha:=acquire
 have hcas:=run_call_cas_hit (P:=Tryz.prog) Tryz.func84 (by kernel_rfl) (by kernel_rfl) (by kernel_rfl) .i32 (by kernel_rfl) (y:=1) hc hz
 have hc':(w.setCell a (.int .i32 1)).cell? a = some (.int .i32 1):=World.cell?_setCell_same w a _ hc
 have hcv:=run_convert_to_unsafe (P:=Tryz.prog) (src:=136) (dst:=104) Tryz.underlying136 Tryz.underlying104 (by kernel_rfl) hc'
 go_enter Tryz.func77,Tryz.ntmps77
 go_wp2
 first | go_end0 | (simp only [Exit.inBlock,Exit.then]; refine bodyPost_ret (results_none rfl _ _ _) rfl ?_) | refine bodyPost_ret (results_none rfl _ _ _) rfl ?_
 all_goals (go_wp2 <;> (go_end0 <;> exact ⟨rfl,rfl⟩))
theorem lock_free (a:Addr) (w:World) (hc:w.cell? a = some (.int .i32 0)) (hz:w.frozen? a = false) :
  Calls Tryz.prog 72 #[.pointer (some a)] w fun e w'=>e = .returned (.tuple #[]) /\ w' = w.setCell a (.int .i32 1):=by
 go_enter Tryz.func72,Tryz.ntmps72
 go_wp2_with (go_at_call 77; refine (lock_in a _ hc hz).mono ?_; rintro e w' ⟨rfl,rfl⟩)
 go_end0
 exact ⟨rfl,rfl⟩
theorem b1V (a:Addr) (w:World) (hc:w.cell? a = some (.int .i32 1)) (hz:w.frozen? a = false) :
  Calls Tryz.prog 78 #[.pointer (some a)] w fun e w'=>e = .returned (.tuple #[]) /\ w' = w.setCell a (.int .i32 0):=by
 have hd:=disable
 have he:=enable
 have hr:=releaseMerge
 have hadd:=run_call_add (P:=Tryz.prog) Tryz.func89 (by kernel_rfl) (by kernel_rfl) (by kernel_rfl) .i32 (by kernel_rfl) (y:=-1) (s:=0) hc hz (by simp [go_sem]; rfl)
 have hcv:=run_convert_to_unsafe (P:=Tryz.prog) (src:=136) (dst:=104) Tryz.underlying136 Tryz.underlying104 (by kernel_rfl) hc
 go_enter Tryz.func78,Tryz.ntmps78
 go_wp2
 go_end0
 all_goals (go_wp2 <;> (go_end0 <;> exact ⟨rfl,rfl⟩))
theorem unlock_deferred (a:Addr) (u:FrameMode) (w:World) (hc:w.cell? a = some (.int .i32 1)) (hz:w.frozen? a = false) :
  CallsD Tryz.prog 73 #[.pointer (some a)] u w fun e u' w'=>u' = u /\ (e = .returned (.tuple #[]) /\ w' = w.setCell a (.int .i32 0)):=by
 go_enter_d Tryz.func73,Tryz.ntmps73
 go_wp2_with (go_at_call 78; refine (b1V a _ hc hz).mono ?_; rintro e w' ⟨rfl,rfl⟩)
 go_end0
 exact ⟨rfl,rfl⟩
theorem a6T (a:Addr) (x:Value) (u:FrameMode) (w:World) (hc:w.cell? a = some x) (hz:w.frozen? a = false) :
  CallsD Tryz.prog 74 #[.pointer (some a),.bool true] u w fun e u' w'=>u' = u /\ (e = .returned (.tuple #[]) /\ w' = w.drew.setCell a (.int .u32 1)):=by
 have hc':w.drew.cell? a = some x:=by go_simp
 have hz':w.drew.frozen? a = false:=by go_simp
 have hst:=run_call_store (P:=Tryz.prog) Tryz.func79 (by kernel_rfl) (by kernel_rfl) (by kernel_rfl) (by kernel_rfl) (k:=.u32) (y:=1) hc' hz'
 go_enter_d Tryz.func74,Tryz.ntmps74
 go_wp2
 go_region_calls
 all_goals (go_end0; exact ⟨rfl,rfl⟩)
end Go.Proofs.YtlhgheonlcjpaaaGreat.Sc
namespace Go.Proofs.YtlhgheonlcjpaaaGreat.Sc
open Go
theorem slow_any (b off:Nat) (fv:Value) (w:World) (Q:World -> Prop) (g:Nat) (cap:Array Value) (hfv:fv = .func (.func g) cap #[]) {fn:Func} (hg:Tryz.prog.funcs[g]? = some fn) (hname:(fn.name == "runtime.NumGoroutine") = false) {c:Code} (hbody:fn.body = some c)
  (h0:w.cell? ⟨b,off,none⟩ = some (.int .u32 0)) (h1:w.cell? ⟨b,off + 1,none⟩ = some (.int .i32 0))
  (f0:w.frozen? ⟨b,off,none⟩ = false) (f1:w.frozen? ⟨b,off + 1,none⟩ = false)
  (hQ:Calls Tryz.prog g cap (w.setCell ⟨b,off + 1,none⟩ (.int .i32 1)) fun e w'=>e = .returned (.tuple #[]) /\ Q w' /\ w'.cell? ⟨b,off,none⟩ = some (.int .u32 0) /\ w'.cell? ⟨b,off + 1,none⟩ = some (.int .i32 1) /\ w'.frozen? ⟨b,off,none⟩ = false /\ w'.frozen? ⟨b,off + 1,none⟩ = false) :
  Calls Tryz.prog 66 #[.pointer (some ⟨b,off,none⟩),fv] w fun e w'=>e = .returned (.tuple #[]) /\ ∃ w1,Q w1 /\
   w' = (w1.drew.setCell ⟨b,off,none⟩ (.int .u32 1)).setCell ⟨b,off + 1,none⟩ (.int .i32 0):=by
 subst hfv
 have hl:=run_call_load (P:=Tryz.prog) Tryz.func71 (by kernel_rfl) (by kernel_rfl) (by kernel_rfl) .u32 (by kernel_rfl) (w:=w.setCell ⟨b,off + 1,none⟩ (.int .i32 1)) (a:=⟨b,off,none⟩) (x:=0) ((World.cell?_setCell_other _ ⟨b,off + 1,none⟩ ⟨b,off,none⟩ _ (by simp)).trans h0)
 have hnot:∀ (x:Bool) (w:World),(Op.unary .not (.bool x)).run Tryz.prog w = .ok (.bool (!x)) w:=fun _ _=>rfl
 go_enter_defers Tryz.func66,Tryz.ntmps66
 go_wp2_with (go_at_call 72; refine (lock_free ⟨b,off + 1,none⟩ _ (by go_simp) (by go_simp)).mono ?_; rintro e w' ⟨rfl,rfl⟩)
 go_wp2
 have hrun:∀ w,(callFunc g cap).run Tryz.prog w = .ok (.enter g cap) w:=fun w=>by
  have h1:fn.name ≠ "runtime.NumGoroutine":=by simpa using hname
  simp [callFunc,hg,h1,hbody]
 rw [hrun,Oper.upon_enter]
 refine hQ.mono ?_
 rintro e w' ⟨rfl,hq,c0,c1,z0,z1⟩
 go_wp2
 refine leaves_cons (f:=74) (args:=#[.pointer (some ⟨b,off,none⟩),.bool true]) (by simp) (by simp [go_sem]) ?_
 refine (a6T ⟨b,off,none⟩ (.int .u32 0) .returning _ c0 z0).mono ?_
 rintro e u' w'' ⟨rfl,rfl,rfl⟩
 refine leaves_cons (f:=73) (args:=#[.pointer (some ⟨b,off + 1,none⟩)]) (by simp [settle]) (by simp [go_sem]) ?_
 refine (unlock_deferred ⟨b,off + 1,none⟩ _ _ ?_ (by simp [z1])).mono ?_
 ·refine (World.cell?_setCell_other _ ⟨b,off,none⟩ ⟨b,off + 1,none⟩ _ (by simp)).trans ?_
  rw [World.cell?_drew]
  exact c1
 rintro e u' w'' ⟨rfl,rfl,rfl⟩
 simp [Leaves,settle,results,Tryz.results66]
 exact ⟨w',hq,rfl⟩
theorem do_any (b off:Nat) (fv:Value) (w:World) (Q:World -> Prop) (g:Nat) (cap:Array Value) (hfv:fv = .func (.func g) cap #[]) {fn:Func} (hg:Tryz.prog.funcs[g]? = some fn) (hname:(fn.name == "runtime.NumGoroutine") = false) {c:Code} (hbody:fn.body = some c)
  (h0:w.cell? ⟨b,off,none⟩ = some (.int .u32 0)) (h1:w.cell? ⟨b,off + 1,none⟩ = some (.int .i32 0))
  (f0:w.frozen? ⟨b,off,none⟩ = false) (f1:w.frozen? ⟨b,off + 1,none⟩ = false)
  (hQ:Calls Tryz.prog g cap (w.setCell ⟨b,off + 1,none⟩ (.int .i32 1)) fun e w'=>e = .returned (.tuple #[]) /\ Q w' /\ w'.cell? ⟨b,off,none⟩ = some (.int .u32 0) /\ w'.cell? ⟨b,off + 1,none⟩ = some (.int .i32 1) /\ w'.frozen? ⟨b,off,none⟩ = false /\ w'.frozen? ⟨b,off + 1,none⟩ = false) :
  Calls Tryz.prog 43 #[.pointer (some ⟨b,off,none⟩),fv] w fun e w'=>e = .returned (.tuple #[]) /\ ∃ w1,Q w1 /\
   w' = (w1.drew.setCell ⟨b,off,none⟩ (.int .u32 1)).setCell ⟨b,off + 1,none⟩ (.int .i32 0):=by
 have hl:=run_call_load (P:=Tryz.prog) Tryz.func71 (by kernel_rfl) (by kernel_rfl) (by kernel_rfl) .u32 (by kernel_rfl) h0
 have hnot:∀ (x:Bool) (w:World),(Op.unary .not (.bool x)).run Tryz.prog w = .ok (.bool (!x)) w:=fun _ _=>rfl
 go_enter Tryz.func43,Tryz.ntmps43
 have hS:=slow_any b off fv w Q g cap hfv hg hname hbody h0 h1 f0 f1 hQ
 clear hfv hg hname hbody hQ
 go_wp2_with (first | (go_at_call 66; refine hS.mono ?_; rintro e w' ⟨rfl,w1,hw1,rfl⟩) | (go_at_call 65; go_in))
 go_end0
 exact ⟨rfl,w1,hw1,rfl⟩
end Go.Proofs.YtlhgheonlcjpaaaGreat.Sc
namespace Go.Vm
open Go
variable {P:Program} {T:List (Nat × Ty)} {ρ:Rho} {lab:Lab} {H:Hp} {w:World}
theorem Rel.drew {v:V} {x:Value} (h:Rel ρ lab w v x):Rel ρ lab w.drew v x:=by
 have E:Ext lab w lab w.drew:=⟨Nat.le_refl _,rfl,rfl,rfl,fun _ _ _ h=>h,fun _ _=>.rfl,fun _ _ _ _=>⟨rfl,rfl⟩,fun _ _ _=>rfl⟩
 exact h.ext E (.refl _)
theorem a88:Ext lab w lab w.drew:=⟨Nat.le_refl _,rfl,rfl,rfl,fun _ _ _ h=>h,fun _ _=>.rfl,fun _ _ _ _=>⟨rfl,rfl⟩,fun _ _ _=>rfl⟩
theorem sim_drew (hS:Sim ρ lab H w):Sim ρ lab H w.drew:=by
 refine Sim.mk' (fun k o hk=>?_) hS.hdom hS.adom hS.ldom
 have h1:a0f ρ lab w k o:=by
  cases o with
  | row cs=>exact hS.row k cs hk
  | grow e cs=>exact hS.grow k e cs hk
  | tip e n=>exact hS.tip k e n hk
  | gone=>trivial
 exact h1.carry a88 (.refl _) fun b p hc=>⟨⟨hc.lab,hc.free,hc.cell⟩,rfl⟩
theorem a8M {t:Nat} {k:IntKind} {n:Int} {b p:Nat} {u:Value} (hz:∀ w,(sizeOf t).run P w = .ok 1 w) (hc:w.cell? ⟨b,p,none⟩ = some u) (hf:w.frozen? ⟨b,p,none⟩ = false) :
  (Instr.storeAt t (.pointer (some ⟨b,p,none⟩)) (.int k n)).run P w = .ok () (w.setCell ⟨b,p,none⟩ (.int k n)):=by
 have:=run_storeCells_cells (P:=P) b p [.int k n] 0 w (fun j hj=>by
  have:j = 0:=by simpa using hj
  subst this; simp [hc]) (fun j hj=>by
  have:j = 0:=by simpa using hj
  subst this; simpa using hf) (fun j hj=>by
  have:j = .int k n:=by simpa using hj
  subst this; rfl)
 have hs:(Value.int k n).cells = #[.int k n]:=rfl
 simp only [Instr.storeAt,Instr.sureAddr,storeVar,Sem.run_bind,Sem.run_pure,Result.andThen_ok,hz,hs,List.size_toArray,List.length_singleton,ne_eq,not_true_eq_false,if_false]
 refine Eq.trans ?_ this
 simp
theorem a3S (hT:TOk P T) (hS:Sim ρ lab H w) {t:Nat} {y:Ty} (hy:D6 t T = some y) (h1:y.size = 1) {r off b p:Nat} {k:IntKind} {n:Int} {H':Hp} {u:Value}
  (hx:Rel ρ lab w (.ptr r off) (.pointer (some ⟨b,p,none⟩))) (hc:w.cell? ⟨b,p,none⟩ = some u) (hf:w.frozen? ⟨b,p,none⟩ = false) (h:X5 T t (.ptr r off) (.int k n) H = some H') :
  Sim ρ lab H' (w.setCell ⟨b,p,none⟩ (.int k n)) /\ Ext lab w lab (w.setCell ⟨b,p,none⟩ (.int k n)):=by
 obtain ⟨w',g1,g2,g3⟩:=a7U hT hS hx (.int k n) h
 have hz:∀ w,(sizeOf t).run P w = .ok 1 w:=fun w=>by
  have:=H7 (hT t y hy) w
  rwa [h1] at this
 rw [a8M hz hc hf] at g1
 cases g1
 exact ⟨g2,g3⟩
theorem a2E {t:Nat} {v:V} {r off:Nat} {H':Hp} (hc:Canon 0 H) (h:X5 T t (.ptr r off) v H = some H'):Canon 0 H' /\ H'.length = H.length:=by
 unfold X5 at h
 split at h
 ·rename_i y r off hy he
  cases he
  split at h
  ·split at h
   ·rename_i cs hg
    unfold gd at h
    split at h
    ·cases h; exact a2e hc (by rw [hg]; simp)
    ·cases h
   ·rename_i e cs hg
    split at h
    ·unfold gd at h
     split at h
     ·cases h; exact a2e hc (by rw [hg]; simp)
     ·cases h
    ·cases h
   ·cases h
  ·cases h
 ·cases h
end Go.Vm
namespace Go.Proofs.YtlhgheonlcjpaaaGreat.Sc
open Go Go.Vm
def OT:List (Nat × Ty):=[(21,⟨.int .i32,1,4,[.int .i32 0]⟩),(77,⟨.int .u32,1,4,[.int .u32 0]⟩)]
theorem otOk:TOk Tryz.prog OT:=a4F (by kernel_rfl)
def doPre:List V -> Hp -> Option (Nat × List V × Hp):=fun args H=>match args with
 | [.ptr r off,.func (.func g) cap []]=>match hget r H with
  | some (.row cs)=>match cs[off]?,cs[off + 1]?,X5 OT 21 (.ptr r (off + 1)) (.int .i32 1) H with
   | some (.int .u32 0),some (.int .i32 0),some H'=>gd (Nat.beq g 44) (some (g,cap,H'))
   | _,_,_=>none
  | _=>none
 | _=>none
def a92:List V -> Hp -> Out -> Option Out:=fun args H o=>match args,o with
 | [.ptr r off,.func (.func g) cap []],.ret (.tuple []) H1=>match hget r H1 with
  | some (.row cs)=>match cs[off]?,cs[off + 1]?,X5 OT 77 (.ptr r off) (.int .u32 1) H1 with
   | some (.int .u32 0),some (.int .i32 1),some H2=>match X5 OT 21 (.ptr r (off + 1)) (.int .i32 0) H2 with
    | some H3=>some (.ret (.tuple []) H3)
    | none=>none
   | _,_,_=>none
  | _=>none
 | _,_=>none
theorem do_via:ViaOk Tryz.prog 43 doPre a92:=by
 refine ⟨fun args H g' l H' o out hp ho ρ lab w xs hc hS hx hcall=>?_,⟨_,_,Tryz.func43,rfl,rfl⟩⟩
 unfold doPre at hp
 split at hp
 ·rename_i args0 r off g cap
  split at hp
  ·rename_i cs hg
   split at hp
   ·rename_i e0 e1 H1 c0 c1 hst
    unfold gd at hp
    split at hp
    ·rename_i hb
     cases hp
     have hb:=Nat.eq_of_beq_eq_true hb
     obtain ⟨b,o1,zs,a1,a2,a3⟩:=hS.row r cs hg
     obtain ⟨x1,xr0,rfl,r1,r2⟩:=o9.1 hx
     obtain ⟨x2,xr,rfl,r3,r4⟩:=o9.1 r2
     have:xr = []:=by have:=r4.1; simpa using this
     subst this
     cases r3 with
     | func _ _ _ us ys u1 u2 u3 u4 =>
     have:ys = []:=by simpa using u2
     subst this
     have hp1:x1 = .pointer (some ⟨b,o1 + off,none⟩):=by
      cases r1 with
      | ptr _ _ b' o' c' h=>rw [a1] at h; cases h; rfl
     subst hp1
     have cell:∀ {ρ:Rho} {lab:Lab} {w:World} {H:Hp} {cs:List V} {b o1 i:Nat} {k:IntKind} {n:Int},Sim ρ lab H w -> hget r H = some (.row cs) -> ρ.at_ r = some (some (b,o1),none) -> cs[i]? = some (.int k n) -> w.cell? ⟨b,o1 + i,none⟩ = some (.int k n) /\ w.frozen? ⟨b,o1 + i,none⟩ = false:=by
      intro ρ lab w H cs b o1 i k n hS hg ha hi
      obtain ⟨b2,o2,zs,a1,a2,a3⟩:=hS.row r cs hg
      rw [ha] at a1
      cases a1
      have hl:i < zs.length:=by
       rw [a2.1]
       rcases Nat.lt_or_ge i cs.length with h | h
       ·exact h
       ·rw [List.getElem?_eq_none h] at hi; cases hi
      have hz:zs[i]? = some zs[i]:=by simp [hl]
      have hr:=a2.2 i _ _ hi hz
      obtain ⟨q1,q2⟩:=a3 i _ hz
      have:zs[i] = .int k n:=by
       generalize zs[i] = z at hr
       cases hr; rfl
      rw [this] at q2
      exact ⟨q2,q1.free⟩
     obtain ⟨m0,f0⟩:=cell hS hg a1 c0
     obtain ⟨m1,f1⟩:=cell hS hg a1 c1
     obtain ⟨t1,t2⟩:=a3S otOk hS (y:=⟨.int .i32,1,4,[.int .i32 0]⟩) (by kernel_rfl) rfl (.ptr r (off + 1) b o1 none a1) m1 f1 hst
     obtain ⟨cn1,ln1⟩:=a2E hc hst
     have cap':p9 ρ lab (w.setCell ⟨b,o1 + (off + 1),none⟩ (.int .i32 1)) _ us:=p9.ext t2 (.refl _) ⟨u1,u3⟩
     have hK:=hcall ρ lab _ us cn1 t1 cap'
     unfold a92 at ho
     split at ho
     ·rename_i r' off' g' cap2 H2 hargs
      cases hargs
      split at ho
      ·rename_i cs1 hg1
       split at ho
       ·rename_i e2 e3 H3 d0 d1 hst2
        split at ho
        ·rename_i H4 hst3
         cases ho
         have hD:=fun hq=>do_any b (o1 + off) (.func (.func 44) us.toArray #[]) w (fun w'=>∃ ρ' lab',Sim ρ' lab' H2 w' /\ Ext lab (w.setCell ⟨b,o1 + (off + 1),none⟩ (.int .i32 1)) lab' w' /\ M7 H'.length ρ ρ' /\ Canon 0 H2 /\ H'.length <= H2.length) 44 us.toArray rfl Tryz.func44 rfl rfl m0 m1 f0 f1 hq
         subst hb
         refine (hD ?_).mono ?_
         ·refine hK.mono ?_
          intro e w' hP
          cases e with
          | returned x =>
           obtain ⟨ρ',lab',s1,s2,s3,s4,s5,s6⟩:=hP
           have hx0:x = .tuple #[]:=by
            cases s4 with
            | tuple _ zs h1 h2 =>
             have:zs = []:=by simpa using h1
             subst this; rfl
           have hr:r < H'.length:=by
            have:=O8 hc r _ hg
            omega
           have ha1:=s3.at_ r _ hr a1
           obtain ⟨n0,k0⟩:=cell s1 hg1 ha1 d0
           obtain ⟨n1,k1⟩:=cell s1 hg1 ha1 d1
           exact ⟨by rw [hx0],⟨ρ',lab',s1,s2,s3,s5,s6⟩,n0,n1,k0,k1⟩
          | _=>exact hP.elim
         ·rintro e w' ⟨rfl,w1,⟨ρ',lab',s1,s2,s3,s4,s5⟩,rfl⟩
          have hr:r < H'.length:=by
           have:=O8 hc r _ hg
           omega
          have ha1:=s3.at_ r _ hr a1
          obtain ⟨n0,k0⟩:=cell s1 hg1 ha1 d0
          obtain ⟨p1,p2⟩:=a3S otOk (sim_drew s1) (y:=⟨.int .u32,1,4,[.int .u32 0]⟩) (by kernel_rfl) rfl (.ptr r off b o1 none ha1) n0 k0 hst2
          obtain ⟨cn2,ln2⟩:=a2E s4 hst2
          obtain ⟨n1,k1⟩:=cell s1 hg1 ha1 d1
          have hne:(⟨b,o1 + off,none⟩:Addr) ≠ ⟨b,o1 + (off + 1),none⟩:=by simp
          have q1:(w1.drew.setCell ⟨b,o1 + off,none⟩ (.int .u32 1)).cell? ⟨b,o1 + (off + 1),none⟩ = some (.int .i32 1):=(World.cell?_setCell_other _ _ _ _ hne).trans n1
          have q2:(w1.drew.setCell ⟨b,o1 + off,none⟩ (.int .u32 1)).frozen? ⟨b,o1 + (off + 1),none⟩ = false:=by simp [k1]
          obtain ⟨p3,p4⟩:=a3S otOk p1 (y:=⟨.int .i32,1,4,[.int .i32 0]⟩) (by kernel_rfl) rfl (.ptr r (off + 1) b o1 none ha1) q1 q2 hst3
          obtain ⟨cn3,ln3⟩:=a2E cn2 hst3
          refine ⟨ρ',lab',p3,t2.trans (s2.trans (a88.trans (p2.trans p4))),?_,.tuple [] [] rfl (by simp),cn3,by omega⟩
          rw [<- ln1]
          exact s3
        ·cases ho
       ·cases ho
      ·cases ho
     ·cases ho
    ·cases hp
   ·cases hp
  ·cases hp
 ·cases hp
end Go.Proofs.YtlhgheonlcjpaaaGreat.Sc
namespace Go.Proofs
open Go.Shelf
def Tryz.a9h:Go.Shelf.Ren:=⟨fun | 138=>128 | 195=>129 | 218=>130 | 143=>131 | 219=>132 | 217=>133 | 225=>134 | 224=>135 | 267=>136 | 266=>137 | 314=>138 | n=>n,fun | 9=>9 | 3=>3 | 4=>4 | 5=>5 | 0=>0 | 46=>147 | 146=>181 | 51=>77 | n=>n,fun | 1=>0 | n=>n⟩
theorem Tryz.lays138:Go.Proofs.Lays.n138 Tryz.prog Tryz.a9h:={
 mixed:=by kernel_rfl
 f138:=Tryz.func128.trans (congrArg some (by kernel_rfl))
 f143:=Tryz.func131.trans (congrArg some (by kernel_rfl))
 f195:=Tryz.func129.trans (congrArg some (by kernel_rfl))
 f217:=Tryz.func133.trans (congrArg some (by kernel_rfl))
 f218:=Tryz.func130.trans (congrArg some (by kernel_rfl))
 f219:=Tryz.func132.trans (congrArg some (by kernel_rfl))
 f224:=Tryz.func135.trans (congrArg some (by kernel_rfl))
 f225:=Tryz.func134.trans (congrArg some (by kernel_rfl))
 f266:=Tryz.func137.trans (congrArg some (by kernel_rfl))
 f267:=Tryz.func136.trans (congrArg some (by kernel_rfl))
 f314:=Tryz.func138.trans (congrArg some (by kernel_rfl))
 t0:=Tryz.underlying0
 a0:=Tryz.isAgg0
 z0:=Tryz.sizeOf0
 v0:=Tryz.zeroValue0
 t3:=Tryz.underlying3
 a3:=Tryz.isAgg3
 z3:=Tryz.sizeOf3
 v3:=Tryz.zeroValue3
 t4:=Tryz.underlying4
 a4:=Tryz.isAgg4
 z4:=Tryz.sizeOf4
 v4:=Tryz.zeroValue4
 t5:=Tryz.underlying5
 a5:=Tryz.isAgg5
 z5:=Tryz.sizeOf5
 v5:=Tryz.zeroValue5
 t9:=Tryz.underlying9
 a9:=Tryz.isAgg9
 z9:=Tryz.sizeOf9
 v9:=Tryz.zeroValue9
 t46:=Tryz.underlying147
 a46:=Tryz.isAgg147
 z46:=Tryz.sizeOf147
 v46:=Tryz.zeroValue147
 t51:=Tryz.underlying77
 a51:=Tryz.isAgg77
 z51:=Tryz.sizeOf77
 v51:=Tryz.zeroValue77
 t146:=Tryz.underlying181
 a146:=Tryz.isAgg181
 z146:=Tryz.sizeOf181
 v146:=Tryz.zeroValue181
 g1:=by kernel_rfl }
open Go.RowKit Go.Lib in
theorem Tryz.strings_Count_one (s:ByteArray) (c:UInt8) (w:World) :
  Calls Tryz.prog 128 #[.string s,.string ⟨#[c]⟩] w fun e w'=>e = .returned (.int .i64 (Lib.countByte s.data.toList c)) /\ w' = w:=Any.strings_Count_one Tryz.lays138 s c w
end Go.Proofs
namespace Go.Proofs.YtlhgheonlcjpaaaGreat.Rp
open Go Go.Vm
def T:List (Nat × Ty):=[
 (1,⟨.func,1,8,[.nilFunc]⟩),
 (3,⟨.int .i64,1,8,[.int .i64 0]⟩),
 (4,⟨.bool,1,1,[.bool false]⟩),
 (5,⟨.int .u8,1,1,[.int .u8 0]⟩),
 (9,⟨.string,1,16,[.str []]⟩),
 (21,⟨.int .i32,1,4,[.int .i32 0]⟩),
 (40,⟨.slice 9,1,24,[.slice .nil 0 []]⟩),
 (49,⟨.ptr 89,1,8,[.nilptr]⟩),
 (51,⟨.slice 5,1,24,[.slice .nil 0 []]⟩),
 (75,⟨.blk [],0,0,[]⟩),
 (76,⟨.blk [],0,0,[]⟩),
 (77,⟨.int .u32,1,4,[.int .u32 0]⟩),
 (79,⟨.blk [(76,0),(77,0)],1,4,[.int .u32 0]⟩),
 (81,⟨.blk [(21,0),(77,1)],2,8,[.int .i32 0,.int .u32 0]⟩),
 (83,⟨.blk [(75,0),(81,0)],2,8,[.int .i32 0,.int .u32 0]⟩),
 (85,⟨.blk [(75,0),(79,0),(83,1)],3,12,[.int .u32 0,.int .i32 0,.int .u32 0]⟩),
 (87,⟨.iface,1,16,[.nilIface]⟩),
 (89,⟨.blk [(85,0),(87,3),(40,4)],5,56,[.int .u32 0,.int .i32 0,.int .u32 0,.nilIface,.slice .nil 0 []]⟩),
 (111,⟨.ptr 128,1,8,[.nilptr]⟩),
 (113,⟨.ptr 134,1,8,[.nilptr]⟩),
 (116,⟨.array 256 5,256,256,List.replicate 256 (.int .u8 0)⟩),
 (117,⟨.ptr 116,1,8,[.nilptr]⟩),
 (118,⟨.array 256 51,256,6144,List.replicate 256 (.slice .nil 0 [])⟩),
 (120,⟨.blk [(118,0),(40,256)],257,6168,List.replicate 256 (.slice .nil 0 []) ++ [.slice .nil 0 []]⟩),
 (121,⟨.ptr 120,1,8,[.nilptr]⟩)]
theorem tys:tysB Tryz.prog T = true:=by kernel_rfl
theorem mixed:Tryz.prog.follows .mixedOrders = true:=by kernel_rfl
def keep:Nat -> Nat -> List Nat
 | 67,6=>[3,4,5]
 | 67,15=>[3,6,61]
 | 67,20=>[3,6,8]
 | 67,28=>[3,11,12]
 | 126,5=>[0,1,5,6,30,31,32]
 | 126,13=>[0,1,5,6,10]
 | 126,24=>[0,1,12,13,14]
 | 126,100032=>[12]
 | _,_=>[]
def a8n:List V -> Hp -> Option Out:=fun args H=>match args with
 | [.str s,.str [c]]=>some (.ret (.int .i64 ((s.count c:Nat):Int)) H)
 | _=>none
theorem b1o:a3H Tryz.prog 128 a8n:=by
 refine ⟨fun args H out h ρ lab w xs hc hS hx=>?_,⟨_,_,Tryz.func128,rfl,rfl⟩⟩
 unfold a8n at h
 split at h
 ·rename_i s c
  cases h
  obtain ⟨x1,r1,rfl,h1,h2⟩:=o9.1 hx
  obtain ⟨x2,r2,rfl,h3,h4⟩:=o9.1 h2
  have:r2 = []:=by have:=h4.1; simpa using this
  subst this
  cases h1
  cases h3
  refine (Tryz.strings_Count_one ⟨⟨s⟩⟩ c w).mono fun e w' ⟨he,hw⟩=>?_
  subst he; subst hw
  exact ⟨ρ,lab,hS,Ext.refl _ _,⟨fun _ _ _ h=>h,fun _ _ _ _ h=>h⟩,.int _ _,hc,Nat.le_refl _⟩
 ·cases h
def okL:List Nat:=[16,23,24,44,67,126]
def a6I:List Nat:=[128,16]
def a6k:Nat -> Option Hand
 | 43=>some (.via Sc.doPre Sc.a92)
 | 128=>some (.plain a8n)
 | _=>none
noncomputable def env:Env:={ P:=Tryz.prog,T:=T,keep:=keep,byref:=fun _ _=>none,meth:=fun t s=>match t,s with | 121,"Replace"=>some 126 | _,_=>none,tags:=fun _=>false,argTags:=fun _=>false,quiet:=fun g=>has g a6I,loose:=fun _=>false,ok:=fun g=>has g okL,cut:=fun f c=>Nat.beq f 126 && Nat.beq c 32,ice:=fun f l=>match f,l with | 126,100032=>some 12 | _,_=>none,intr:=a6k }
theorem codes:a6c env okL = true:=by kernel_rfl
theorem methOk:a2B env:=by
 intro t name g h
 simp only [env] at h
 split at h
 ·cases h; exact (by kernel_rfl:methB Tryz.prog 121 "Replace" 126 = true)
 ·cases h
theorem a7p:a2A env:=⟨methOk,a4F tys,mixed,a4N (fun _ h=>h) codes,(fun g h hg=>by simp only [env,a6k] at hg; split at hg <;> first | (cases hg; done) | (cases hg; exact b1o)),(fun g pre post hg=>by simp only [env,a6k] at hg; split at hg <;> first | (cases hg; done) | (cases hg; exact Sc.do_via))⟩
def pairs:List V:=[.str [10],.str [92,110],.str [9],.str [92,116],.str [92],.str [92,92],.str [34],.str [92,34]]
def cell (b:Nat):V:=match b with
 | 10=>.slice .sealed 2 [.int .u8 92,.int .u8 110]
 | 9=>.slice .sealed 2 [.int .u8 92,.int .u8 116]
 | 92=>.slice .sealed 2 [.int .u8 92,.int .u8 92]
 | 34=>.slice .sealed 2 [.int .u8 92,.int .u8 34]
 | _=>.slice .nil 0 []
def RR:List V:=(List.range 256).map cell ++ [.rslice 1 0 4 true]
def TR:List V:=[.str [34],.str [92],.str [9],.str [10]]
theorem nr_E:E env (.call 23 [.slice .sealed 8 pairs]) [] = some (.ret (.ptr 0 0) [(0,.row [.int .u32 0,.int .i32 0,.int .u32 0,.nilIface,.slice (.tag 1) 8 pairs]),(1,.tip 1 8)]):=(S9 env).le 9 _ _ _ (by kernel_rfl)
theorem bu_E:E env (.call 44 [.ptr 0 0]) [(0,.row [.int .u32 0,.int .i32 1,.int .u32 0,.nilIface,.slice (.tag 1) 8 pairs]),(1,.tip 1 8)] = some (.ret (.tuple []) [(0,.row [.int .u32 0,.int .i32 1,.int .u32 0,.iface 121 (.ptr 2 0),.slice .nil 0 []]),(1,.tip 1 8),(2,.row ((List.range 256).map cell ++ [.rslice 3 0 4 true])),(3,.grow 1 TR)]):=(S9 env).le 40 _ _ _ (by kernel_rfl)
end Go.Proofs.YtlhgheonlcjpaaaGreat.Rp
namespace Go.Proofs.YtlhgheonlcjpaaaGreat.Rp
open Go Go.Vm
def Y3 (b:UInt8):List UInt8:=if b = 10 then [92,110] else if b = 9 then [92,116] else if b = 92 then [92,92] else if b = 34 then [92,34] else [b]
def esc (s:List UInt8):List UInt8:=s.flatMap Y3
def cn (s:List UInt8):Nat -> Nat
 | 0=>0
 | 1=>s.count 34
 | 2=>s.count 34 + s.count 92
 | 3=>s.count 34 + s.count 92 + s.count 9
 | _=>s.count 34 + s.count 92 + s.count 9 + s.count 10
theorem V5 (b:UInt8) (s:List UInt8):esc (b :: s) = Y3 b ++ esc s:=by simp [esc]
theorem b0S (a b:List UInt8):esc (a ++ b) = esc a ++ esc b:=by simp [esc]
theorem a9X {b:UInt8} (h1:b ≠ 10) (h2:b ≠ 9) (h3:b ≠ 92) (h4:b ≠ 34):cell b.toNat = .slice .nil 0 []:=by
 have k1:b.toNat ≠ 10:=fun h=>h1 (UInt8.toNat_inj.1 h)
 have k2:b.toNat ≠ 9:=fun h=>h2 (UInt8.toNat_inj.1 h)
 have k3:b.toNat ≠ 92:=fun h=>h3 (UInt8.toNat_inj.1 h)
 have k4:b.toNat ≠ 34:=fun h=>h4 (UInt8.toNat_inj.1 h)
 unfold cell
 split <;> first | contradiction | rfl
theorem a05 (b:UInt8):(∃ c:UInt8,cell b.toNat = .slice .sealed 2 [.int .u8 92,.int .u8 ((c.toNat:Nat):Int)] /\ Y3 b = [92,c]) ∨ (cell b.toNat = .slice .nil 0 [] /\ Y3 b = [b]):=by
 by_cases h1:b = 10
 ·subst h1; exact .inl ⟨110,rfl,rfl⟩
 by_cases h2:b = 9
 ·subst h2; exact .inl ⟨116,rfl,rfl⟩
 by_cases h3:b = 92
 ·subst h3; exact .inl ⟨92,rfl,rfl⟩
 by_cases h4:b = 34
 ·subst h4; exact .inl ⟨34,rfl,rfl⟩
 exact .inr ⟨a9X h1 h2 h3 h4,by simp only [Y3,if_neg h1,if_neg h2,if_neg h3,if_neg h4]⟩
theorem a4c (b:UInt8):1 <= (Y3 b).length /\ (Y3 b).length <= 2:=by
 rcases a05 b with ⟨c,_,h⟩ | ⟨_,h⟩ <;> rw [h] <;> simp
theorem a95:∀ s,s.length <= (esc s).length
 | []=>Nat.le_refl _
 | b :: s=>by have:=a95 s; have:=a4c b; rw [V5,List.length_append,List.length_cons]; omega
theorem a1E:∀ s,(esc s).length <= 2 * s.length
 | []=>Nat.le_refl _
 | b :: s=>by have:=a1E s; have:=a4c b; rw [V5,List.length_append,List.length_cons]; omega
theorem a8o:∀ s,(esc s).length = s.length + (s.count 34 + s.count 92 + s.count 9 + s.count 10)
 | []=>rfl
 | b :: s=>by
  have ih:=a8o s
  rw [V5,List.length_append,ih]
  simp only [List.count_cons,List.length_cons]
  by_cases h1:b = 10
  ·subst h1; simp [Y3]; omega
  by_cases h2:b = 9
  ·subst h2; simp [Y3]; omega
  by_cases h3:b = 92
  ·subst h3; simp [Y3]; omega
  by_cases h4:b = 34
  ·subst h4; simp [Y3]; omega
  simp [Y3,h1,h2,h3,h4]; omega
theorem a6d:∀ {s:List UInt8},¬ s.length < (esc s).length -> esc s = s
 | [],_=>rfl
 | b :: s,h=>by
  have h0:=a95 s
  have h1:=a4c b
  rw [V5,List.length_append,List.length_cons] at h
  rcases a05 b with ⟨c,_,he⟩ | ⟨_,he⟩
  ·rw [he] at h; simp at h; omega
  ·rw [V5,he,a6d (s:=s) (by rw [he] at h; simp at h; omega)]; rfl
theorem a2J {s:List UInt8} {i:Nat} (h:i < s.length):esc (s.take (i + 1)) = esc (s.take i) ++ Y3 (s.getD i 0):=by
 rw [List.take_succ_eq_append_getElem h,b0S]
 congr 1
 simp [esc,h]
theorem a3g (s:List UInt8) (i:Nat):(esc (s.take i)).length <= (esc s).length:=by
 conv=>rhs; rw [<- List.take_append_drop i s,b0S,List.length_append]
 omega
theorem cn_le (s:List UInt8):∀ k,cn s k <= 4 * s.length:=by
 have a:=List.count_le_length (a:=(34:UInt8)) (l:=s)
 have b:=List.count_le_length (a:=(92:UInt8)) (l:=s)
 have c:=List.count_le_length (a:=(9:UInt8)) (l:=s)
 have d:=List.count_le_length (a:=(10:UInt8)) (l:=s)
 intro k
 unfold cn
 split <;> omega
theorem RR_get (b:UInt8):RR[b.toNat]? = some (cell b.toNat):=by
 have:=UInt8.toNat_lt b
 unfold RR
 rw [List.getElem?_append_left (by simp; omega),List.getElem?_map,List.getElem?_range (by omega)]
 rfl
theorem RR_256:RR[256]? = some (.rslice 1 0 4 true):=by kernel_rfl
theorem a1T (b:UInt8) {off:Nat} {H:Hp} (ho:off = b.toNat):Q6 env.T 51 (.ptr 0 off) ((0,.row RR) :: H) = some (cell b.toNat):=by
 subst ho
 exact RR_get b
theorem ld_TL {H:Hp}:Q6 env.T 40 (.ptr 0 (0 + 256)) ((0,.row RR) :: H) = some (.rslice 1 0 4 true):=RR_256
theorem ct_E (s:List UInt8) (c:UInt8):E env (.call 128 [.str s,.str [c]]) [] = some (.ret (.int .i64 ((s.count c:Nat):Int)) []):=a5I (h:=a8n) rfl rfl
theorem mul1 {a:Nat} (h:a < 9223372036854775808):R6 (some (.int .i64 (IntKind.wrap .i64 ((a:Int) * 1)))) = some (.int .i64 (a:Nat)):=by
 rw [Int.mul_one,wrap64 (by omega) (by omega)]; rfl
theorem addE {j k m:Nat} (h:m = j + k) (hb:j + k < 9223372036854775808):R6 (some (.int .i64 (IntKind.wrap .i64 ((j:Int) + (k:Int))))) = some (.int .i64 (m:Nat)):=by
 rw [h]; exact addN hb
theorem b0h (n:Nat) {m:Nat} {x:Option V} (h:x = match gd (ltB 0 ((m + 1:Nat):Int)) (some false) with | some b=>some (.bool (!b)) | none=>none):R6 x = some (.bool true):=by
 rw [h]
 have:ltB 0 ((m + 1:Nat):Int) = true:=by simp only [ltB,decide_eq_true_eq]; omega
 rw [this]; rfl
theorem a7L {env:Env} {orc:Orc} {ops:Array Oper} {o:Oper} {rest:List Oper} {fr:Fr} {H H1:Hp} {K:Res -> Prop} {t:Nat} {a b:Operand} {x v:V} (hw:p8 ops o fr = some true) (ho:o.op = .store t a b) (ha:ev fr a = some x) (hb:ev fr b = some v) (hs:X5 env.T t x v H = some H1) (h:Go.Vm.Os env orc ops rest (I6 o.dst .undef fr) H1 K):Go.Vm.Os env orc ops (o :: rest) fr H K:=by
 refine Q7 hw (by rw [ho]; rfl) (v:=.undef) (H1:=H1) ?_ h
 unfold E5
 rw [ho]
 simp only [ha,hb,hs]
def BUF (s:List UInt8) (i:Nat):List V:=H9 (esc (s.take i)) ++ List.replicate ((esc s).length - (esc (s.take i)).length) (.int .u8 0)
theorem b0H (s:List UInt8) (i:Nat):(BUF s i).length = (esc s).length:=by
 have:=a3g s i
 simp only [BUF,List.length_append,H9,List.length_map,List.length_replicate]; omega
theorem set_mid {α:Type} (a new:List α) (z:α) {n:Nat} (h:new.length <= n):(a ++ List.replicate n z).take a.length ++ new ++ (a ++ List.replicate n z).drop (a.length + new.length) = a ++ new ++ List.replicate (n - new.length) z:=by
 rw [List.take_left,List.drop_append,List.drop_eq_nil_of_le (by omega),List.nil_append,List.drop_replicate]
 congr 2; omega
theorem b0J {s:List UInt8} {i:Nat} (h:i < s.length) {b:UInt8} (hb:s.getD i 0 = b) {news:List V} (hn:news = H9 (Y3 b)) {off:Nat} (ho:off = (esc (s.take i)).length):w9 (BUF s i) off news = BUF s (i + 1):=by
 have h1:=a2J h
 rw [hb] at h1
 have h2:=a3g s (i + 1)
 rw [h1,List.length_append] at h2
 have h3:(esc (s.take i)).length = (H9 (esc (s.take i))).length:=by simp [H9]
 have h4:news.length = (Y3 b).length:=by rw [hn]; simp [H9]
 subst ho
 unfold w9 BUF
 rw [h3,set_mid _ _ _ (by omega),hn,h1]
 simp only [H9,List.map_append,List.length_append,List.length_map]
 congr 2
 omega
theorem b0K {s:List UInt8} {i:Nat} (h:i < s.length) {b c:UInt8} (hb:s.getD i 0 = b) (he:Y3 b = [92,c]):w9 (BUF s i) (0 + (esc (s.take i)).length * 1) [.int .u8 92,.int .u8 ((c.toNat:Nat):Int)] = BUF s (i + 1):=b0J h hb (by rw [he]; rfl) (by omega)
theorem b0I {s:List UInt8} {i:Nat} (h:i < s.length) {b:UInt8} (hb:s.getD i 0 = b) (he:Y3 b = [b]):w9 (BUF s i) (0 + (esc (s.take i)).length * 1) [.int .u8 ((b.toNat:Nat):Int)] = BUF s (i + 1):=b0J h hb (by rw [he]; rfl) (by omega)
theorem cp_ok {j n:Nat} {cs B:List V} {a b:V} {G:Hp} (hG:G = [(0,.row RR),(1,.grow 1 TR),(2,.grow 1 cs)]) (h1:2 <= n) (h2:j + 2 <= cs.length) (hB:w9 cs (0 + j * 1) [a,b] = B) :
    a7Y env.T 51 (.rslice 2 (0 + j * 1) n false) (.slice .sealed 2 [a,b]) G = some (.val (.int .i64 ((2:Nat):Int)) [(0,.row RR),(1,.grow 1 TR),(2,.grow 1 B)]):=by
  subst hG
  have e:a7Y env.T 51 (.rslice 2 (0 + j * 1) n false) (.slice .sealed 2 [a,b]) [(0,.row RR),(1,.grow 1 TR),(2,.grow 1 cs)] = (match gd (eqN (2 * 1) [a,b].length) (some (2,[a,b])) with
    | some (m,news)=>(match Nat.beq m 0 with
        | true=>some (OpR.val (.int .i64 0) [(0,.row RR),(1,.grow 1 TR),(2,.grow 1 cs)])
        | false=>gd (leN m n && leN (0 + j * 1 + m * 1) cs.length) (some (.val (.int .i64 (m:Int)) [(0,.row RR),(1,.grow 1 TR),(2,.grow 1 (w9 cs (0 + j * 1) news))])))
    | none=>none):=by kernel_rfl
  rw [e,J6 (show 2 * 1 = [a,b].length from rfl)]
  simp only [gd]
  rw [a09 h1,a09 (show 0 + j * 1 + 2 * 1 <= cs.length by omega),hB]
  rfl
theorem st_ok {j:Nat} {cs B:List V} {b:Nat} {G:Hp} (hG:G = [(0,.row RR),(1,.grow 1 TR),(2,.grow 1 cs)]) (h2:j + 1 <= cs.length) (hB:w9 cs (0 + j * 1) [.int .u8 (b:Int)] = B) :
  X5 env.T 5 (.ptr 2 (0 + j * 1)) (.int .u8 (b:Int)) G = some [(0,.row RR),(1,.grow 1 TR),(2,.grow 1 B)]:=by
 subst hG
 have e:X5 env.T 5 (.ptr 2 (0 + j * 1)) (.int .u8 (b:Int)) [(0,.row RR),(1,.grow 1 TR),(2,.grow 1 cs)] = gd (leN (0 + j * 1 + 1) cs.length) (some [(0,.row RR),(1,.grow 1 TR),(2,.grow 1 (w9 cs (0 + j * 1) [.int .u8 (b:Int)]))]):=by kernel_rfl
 rw [e,a09 (by omega),hB]
 rfl
theorem mk_ok (n:Nat) (hn:n <= 4000000) {G:Hp} (hG:G = [(0,.row RR),(1,.grow 1 TR)]):a8a env.T 51 (.int .i64 (n:Int)) (.int .i64 (n:Int)) G 5504 = some (.val (.rslice 5504 0 n true) [(0,.row RR),(1,.grow 1 TR),(5504,.grow 1 (List.replicate n (.int .u8 0)))]):=by
 subst hG
 have e:a8a env.T 51 (.int .i64 (n:Int)) (.int .i64 (n:Int)) [(0,.row RR),(1,.grow 1 TR)] 5504 = gd (leB 0 (n:Int) && leB (n:Int) (n:Int) && leB ((n:Int) * ((1:Nat) + 1:Nat)) 70368744177664) (some (.val (.rslice 5504 0 n true) [(0,.row RR),(1,.grow 1 TR),(5504,.grow 1 (List.replicate n [.int .u8 0]).flatten)])):=by kernel_rfl
 rw [e]
 have h1:(leB 0 (n:Int) && leB (n:Int) (n:Int) && leB ((n:Int) * ((1:Nat) + 1:Nat)) 70368744177664) = true:=by simp only [leB,Bool.and_eq_true,decide_eq_true_eq]; omega
 rw [h1]
 have h2:(List.replicate n [V.int .u8 0]).flatten = List.replicate n (.int .u8 0):=by
  induction n with
  | zero=>rfl
  | succ n ih=>rw [List.replicate_succ,List.flatten_cons,List.replicate_succ]; simp [List.flatten_replicate_singleton]
 rw [h2]
 rfl
theorem cv_ok (s:List UInt8):a5z env.T 51 9 (.slice .sealed (esc s).length ((BUF s s.length).take ((esc s).length * 1))) = some (.str (esc s)):=by
 have e:(BUF s s.length).take ((esc s).length * 1) = H9 (esc s):=by
  unfold BUF
  rw [List.take_length,Nat.sub_self,List.replicate_zero,List.append_nil,Nat.mul_one]
  exact List.take_of_length_le (by simp [H9])
 rw [e]
 have e2:a5z env.T 51 9 (.slice .sealed (esc s).length (H9 (esc s))) = (match Y2 (H9 (esc s)) with | some l=>gd (eqN (esc s).length l.length) (some (.str l)) | none=>none):=by kernel_rfl
 rw [e2,a3W]
 simp only [J6 rfl,gd]
theorem bs_E (s:List UInt8) (hs:s.length <= 1000000):E env (.call 126 [.ptr 0 0,.str s]) [(0,.row RR),(1,.grow 1 TR)] = some (.ret (.str (esc s)) [(0,.row RR),(1,.grow 1 TR)]):=by
 refine y9 (env:=env) rfl Tryz.func126 rfl rfl ?_
 refine j4 ?_
 refine j3 ?_
 refine d9 rfl rfl rfl ?_
 refine o5 ?_
 refine j4 ?_
 refine j3 ?_
 refine d9 rfl rfl rfl ?_
 refine d9 rfl rfl rfl ?_
 refine d9 rfl rfl rfl ?_
 refine o5 ?_
 refine j4 ?_
 refine j3 ?_
 refine d9 rfl rfl rfl ?_
 refine o5 ?_
 refine j4 ?_
 refine j4 ?_
 refine j3 ?_
 refine d9 rfl rfl rfl ?_
 refine d9 rfl rfl rfl ?_
 refine d9 rfl rfl rfl ?_
 refine F8 rfl rfl rfl (v:=.rslice 1 0 4 true) ld_TL ?_
 refine d9 rfl rfl rfl ?_
 refine d9 rfl rfl rfl ?_
 refine d9 rfl rfl rfl ?_
 refine d9 rfl rfl rfl ?_
 refine d9 rfl rfl rfl ?_
 refine o5 ?_
 refine q9 rfl (fun g26=>?_) (fun g26=>?_)
 ·refine j4 ?_
  refine j3 ?_
  refine d9 rfl rfl rfl ?_
  refine d9 rfl rfl rfl ?_
  refine d9 rfl rfl rfl ?_
  refine F8 rfl rfl rfl (v:=.rslice 1 0 4 true) ld_TL ?_
  refine d9 rfl rfl rfl ?_
  refine d9 rfl rfl rfl ?_
  refine o5 ?_
  refine o7 ?_
  refine J3 (fr1:=[(0,.ptr 0 0),(1,.str s),(5,.int .i64 ((s.length:Nat):Int)),(6,.bool false),(30,.rslice 1 0 4 true),(31,.int .i64 4),(32,.int .i64 ((0:Nat):Int))]) (H1:=[(0,.row RR),(1,.grow 1 TR)]) (by kernel_rfl) ?_
  refine U4 (fun x:Nat × Nat × Bool=>[(0,.ptr 0 0),(1,.str s),(5,.int .i64 ((x.2.1:Nat):Int)),(6,.bool x.2.2),(30,.rslice 1 0 4 true),(31,.int .i64 4),(32,.int .i64 ((x.1:Nat):Int))]) (fun _=>[(0,.row RR),(1,.grow 1 TR)]) (fun x=>x.1 <= 4 /\ x.2.1 = s.length + cn s x.1 /\ x.2.2 = decide (0 < cn s x.1)) (fun x=>4 - x.1) (0,s.length,false) ⟨by simp,rfl,rfl⟩ ?_
  rintro ⟨k,ns,any⟩ ⟨hk,hns,hany⟩ ih
  simp only at hk hns hany ih ⊢
  have hcn:=cn_le s k
  rcases (by omega:k = 0 ∨ k = 1 ∨ k = 2 ∨ k = 3 ∨ k = 4) with rfl | rfl | rfl | rfl | rfl
  ·have hc:=List.count_le_length (a:=(34:UInt8)) (l:=s)
   refine j4 ?_
   refine j3 ?_
   refine d9 rfl rfl rfl ?_
   refine o5 ?_
   refine j4 ?_
   refine D8 rfl (by simp [ltB]) ?_
   refine j6 ?_
   refine j4 ?_
   refine o7 ?_
   refine j4 ?_
   refine j3 ?_
   refine d9 rfl rfl (F6 (by simp [inR]) rfl) ?_
   refine F8 rfl rfl rfl (v:=.str [34]) rfl ?_
   refine d9 rfl rfl rfl ?_
   refine o5 ?_
   refine j4 ?_
   refine j3 ?_
   refine d9 rfl rfl rfl ?_
   refine d9 rfl rfl rfl ?_
   refine o6 rfl rfl rfl rfl rfl (ct_E s 34) rfl ?_
   refine d9 rfl rfl rfl ?_
   refine o5 ?_
   refine j4 ?_
   refine j3 ?_
   refine d9 rfl rfl rfl ?_
   refine d9 rfl rfl rfl ?_
   refine o5 ?_
   refine q9 rfl (fun g40=>?_) (fun g40=>?_)
   ·replace g40:s.count 34 ≠ 0:=by intro h; rw [h] at g40; simp [eqB] at g40
    refine j4 ?_
    refine j3 ?_
    refine d9 rfl rfl rfl ?_
    refine d9 rfl rfl rfl ?_
    refine d9 rfl rfl rfl ?_
    refine d9 rfl rfl rfl ?_
    refine d9 rfl rfl (F6 (by simp [inR]) (show _ = some (.int .u8 (((34:UInt8).toNat:Nat):Int)) from rfl)) ?_
    refine d9 rfl rfl rfl ?_
    refine d9 rfl rfl rfl ?_
    refine d9 rfl rfl (F6 (by simp [inR]) rfl) ?_
    refine F8 rfl rfl rfl (a1T 34 rfl) ?_
    refine d9 rfl rfl rfl ?_
    refine d9 rfl rfl rfl ?_
    refine d9 rfl rfl (mul1 (by omega)) ?_
    refine d9 rfl rfl (addN (by omega)) ?_
    refine d9 rfl rfl rfl ?_
    refine o5 ?_
    refine j3 ?_
    refine d9 rfl rfl rfl ?_
    refine o5 ?_
    refine j3 ?_
    refine d9 rfl rfl rfl ?_
    refine d9 rfl rfl rfl ?_
    refine o5 ?_
    exact ⟨[(0,.ptr 0 0),(1,.str s),(5,.int .i64 ((ns + s.count 34:Nat):Int)),(6,.bool true),(30,.rslice 1 0 4 true),(31,.int .i64 4),(32,.int .i64 ((1:Nat):Int))],[(0,.row RR),(1,.grow 1 TR)],by kernel_rfl,ih (1,ns + s.count 34,true) (by simp) ⟨by simp,by rw [hns]; simp only [cn]; omega,by simp only [cn]; symm; simp only [decide_eq_true_eq]; omega⟩⟩
   ·replace g40:s.count 34 = 0:=by simp only [eqB,Bool.not_eq_false',beq_iff_eq] at g40; omega
    refine j6 ?_
    refine j3 ?_
    refine d9 rfl rfl rfl ?_
    refine d9 rfl rfl rfl ?_
    refine o5 ?_
    exact ⟨[(0,.ptr 0 0),(1,.str s),(5,.int .i64 ((ns:Nat):Int)),(6,.bool any),(30,.rslice 1 0 4 true),(31,.int .i64 4),(32,.int .i64 ((1:Nat):Int))],[(0,.row RR),(1,.grow 1 TR)],by kernel_rfl,ih (1,ns,any) (by simp) ⟨by simp,by rw [hns]; simp only [cn]; omega,by rw [hany]; simp only [cn]; congr 1; simp only [eq_iff_iff]; omega⟩⟩
  ·have hc:=List.count_le_length (a:=(92:UInt8)) (l:=s)
   refine j4 ?_
   refine j3 ?_
   refine d9 rfl rfl rfl ?_
   refine o5 ?_
   refine j4 ?_
   refine D8 rfl (by simp [ltB]) ?_
   refine j6 ?_
   refine j4 ?_
   refine o7 ?_
   refine j4 ?_
   refine j3 ?_
   refine d9 rfl rfl (F6 (by simp [inR]) rfl) ?_
   refine F8 rfl rfl rfl (v:=.str [92]) rfl ?_
   refine d9 rfl rfl rfl ?_
   refine o5 ?_
   refine j4 ?_
   refine j3 ?_
   refine d9 rfl rfl rfl ?_
   refine d9 rfl rfl rfl ?_
   refine o6 rfl rfl rfl rfl rfl (ct_E s 92) rfl ?_
   refine d9 rfl rfl rfl ?_
   refine o5 ?_
   refine j4 ?_
   refine j3 ?_
   refine d9 rfl rfl rfl ?_
   refine d9 rfl rfl rfl ?_
   refine o5 ?_
   refine q9 rfl (fun g40=>?_) (fun g40=>?_)
   ·replace g40:s.count 92 ≠ 0:=by intro h; rw [h] at g40; simp [eqB] at g40
    refine j4 ?_
    refine j3 ?_
    refine d9 rfl rfl rfl ?_
    refine d9 rfl rfl rfl ?_
    refine d9 rfl rfl rfl ?_
    refine d9 rfl rfl rfl ?_
    refine d9 rfl rfl (F6 (by simp [inR]) (show _ = some (.int .u8 (((92:UInt8).toNat:Nat):Int)) from rfl)) ?_
    refine d9 rfl rfl rfl ?_
    refine d9 rfl rfl rfl ?_
    refine d9 rfl rfl (F6 (by simp [inR]) rfl) ?_
    refine F8 rfl rfl rfl (a1T 92 rfl) ?_
    refine d9 rfl rfl rfl ?_
    refine d9 rfl rfl rfl ?_
    refine d9 rfl rfl (mul1 (by omega)) ?_
    refine d9 rfl rfl (addN (by omega)) ?_
    refine d9 rfl rfl rfl ?_
    refine o5 ?_
    refine j3 ?_
    refine d9 rfl rfl rfl ?_
    refine o5 ?_
    refine j3 ?_
    refine d9 rfl rfl rfl ?_
    refine d9 rfl rfl rfl ?_
    refine o5 ?_
    exact ⟨[(0,.ptr 0 0),(1,.str s),(5,.int .i64 ((ns + s.count 92:Nat):Int)),(6,.bool true),(30,.rslice 1 0 4 true),(31,.int .i64 4),(32,.int .i64 ((2:Nat):Int))],[(0,.row RR),(1,.grow 1 TR)],by kernel_rfl,ih (2,ns + s.count 92,true) (by simp) ⟨by simp,by rw [hns]; simp only [cn]; omega,by simp only [cn]; symm; simp only [decide_eq_true_eq]; omega⟩⟩
   ·replace g40:s.count 92 = 0:=by simp only [eqB,Bool.not_eq_false',beq_iff_eq] at g40; omega
    refine j6 ?_
    refine j3 ?_
    refine d9 rfl rfl rfl ?_
    refine d9 rfl rfl rfl ?_
    refine o5 ?_
    exact ⟨[(0,.ptr 0 0),(1,.str s),(5,.int .i64 ((ns:Nat):Int)),(6,.bool any),(30,.rslice 1 0 4 true),(31,.int .i64 4),(32,.int .i64 ((2:Nat):Int))],[(0,.row RR),(1,.grow 1 TR)],by kernel_rfl,ih (2,ns,any) (by simp) ⟨by simp,by rw [hns]; simp only [cn]; omega,by rw [hany]; simp only [cn]; congr 1; simp only [eq_iff_iff]; omega⟩⟩
  ·have hc:=List.count_le_length (a:=(9:UInt8)) (l:=s)
   refine j4 ?_
   refine j3 ?_
   refine d9 rfl rfl rfl ?_
   refine o5 ?_
   refine j4 ?_
   refine D8 rfl (by simp [ltB]) ?_
   refine j6 ?_
   refine j4 ?_
   refine o7 ?_
   refine j4 ?_
   refine j3 ?_
   refine d9 rfl rfl (F6 (by simp [inR]) rfl) ?_
   refine F8 rfl rfl rfl (v:=.str [9]) rfl ?_
   refine d9 rfl rfl rfl ?_
   refine o5 ?_
   refine j4 ?_
   refine j3 ?_
   refine d9 rfl rfl rfl ?_
   refine d9 rfl rfl rfl ?_
   refine o6 rfl rfl rfl rfl rfl (ct_E s 9) rfl ?_
   refine d9 rfl rfl rfl ?_
   refine o5 ?_
   refine j4 ?_
   refine j3 ?_
   refine d9 rfl rfl rfl ?_
   refine d9 rfl rfl rfl ?_
   refine o5 ?_
   refine q9 rfl (fun g40=>?_) (fun g40=>?_)
   ·replace g40:s.count 9 ≠ 0:=by intro h; rw [h] at g40; simp [eqB] at g40
    refine j4 ?_
    refine j3 ?_
    refine d9 rfl rfl rfl ?_
    refine d9 rfl rfl rfl ?_
    refine d9 rfl rfl rfl ?_
    refine d9 rfl rfl rfl ?_
    refine d9 rfl rfl (F6 (by simp [inR]) (show _ = some (.int .u8 (((9:UInt8).toNat:Nat):Int)) from rfl)) ?_
    refine d9 rfl rfl rfl ?_
    refine d9 rfl rfl rfl ?_
    refine d9 rfl rfl (F6 (by simp [inR]) rfl) ?_
    refine F8 rfl rfl rfl (a1T 9 rfl) ?_
    refine d9 rfl rfl rfl ?_
    refine d9 rfl rfl rfl ?_
    refine d9 rfl rfl (mul1 (by omega)) ?_
    refine d9 rfl rfl (addN (by omega)) ?_
    refine d9 rfl rfl rfl ?_
    refine o5 ?_
    refine j3 ?_
    refine d9 rfl rfl rfl ?_
    refine o5 ?_
    refine j3 ?_
    refine d9 rfl rfl rfl ?_
    refine d9 rfl rfl rfl ?_
    refine o5 ?_
    exact ⟨[(0,.ptr 0 0),(1,.str s),(5,.int .i64 ((ns + s.count 9:Nat):Int)),(6,.bool true),(30,.rslice 1 0 4 true),(31,.int .i64 4),(32,.int .i64 ((3:Nat):Int))],[(0,.row RR),(1,.grow 1 TR)],by kernel_rfl,ih (3,ns + s.count 9,true) (by simp) ⟨by simp,by rw [hns]; simp only [cn]; omega,by simp only [cn]; symm; simp only [decide_eq_true_eq]; omega⟩⟩
   ·replace g40:s.count 9 = 0:=by simp only [eqB,Bool.not_eq_false',beq_iff_eq] at g40; omega
    refine j6 ?_
    refine j3 ?_
    refine d9 rfl rfl rfl ?_
    refine d9 rfl rfl rfl ?_
    refine o5 ?_
    exact ⟨[(0,.ptr 0 0),(1,.str s),(5,.int .i64 ((ns:Nat):Int)),(6,.bool any),(30,.rslice 1 0 4 true),(31,.int .i64 4),(32,.int .i64 ((3:Nat):Int))],[(0,.row RR),(1,.grow 1 TR)],by kernel_rfl,ih (3,ns,any) (by simp) ⟨by simp,by rw [hns]; simp only [cn]; omega,by rw [hany]; simp only [cn]; congr 1; simp only [eq_iff_iff]; omega⟩⟩
  ·have hc:=List.count_le_length (a:=(10:UInt8)) (l:=s)
   refine j4 ?_
   refine j3 ?_
   refine d9 rfl rfl rfl ?_
   refine o5 ?_
   refine j4 ?_
   refine D8 rfl (by simp [ltB]) ?_
   refine j6 ?_
   refine j4 ?_
   refine o7 ?_
   refine j4 ?_
   refine j3 ?_
   refine d9 rfl rfl (F6 (by simp [inR]) rfl) ?_
   refine F8 rfl rfl rfl (v:=.str [10]) rfl ?_
   refine d9 rfl rfl rfl ?_
   refine o5 ?_
   refine j4 ?_
   refine j3 ?_
   refine d9 rfl rfl rfl ?_
   refine d9 rfl rfl rfl ?_
   refine o6 rfl rfl rfl rfl rfl (ct_E s 10) rfl ?_
   refine d9 rfl rfl rfl ?_
   refine o5 ?_
   refine j4 ?_
   refine j3 ?_
   refine d9 rfl rfl rfl ?_
   refine d9 rfl rfl rfl ?_
   refine o5 ?_
   refine q9 rfl (fun g40=>?_) (fun g40=>?_)
   ·replace g40:s.count 10 ≠ 0:=by intro h; rw [h] at g40; simp [eqB] at g40
    refine j4 ?_
    refine j3 ?_
    refine d9 rfl rfl rfl ?_
    refine d9 rfl rfl rfl ?_
    refine d9 rfl rfl rfl ?_
    refine d9 rfl rfl rfl ?_
    refine d9 rfl rfl (F6 (by simp [inR]) (show _ = some (.int .u8 (((10:UInt8).toNat:Nat):Int)) from rfl)) ?_
    refine d9 rfl rfl rfl ?_
    refine d9 rfl rfl rfl ?_
    refine d9 rfl rfl (F6 (by simp [inR]) rfl) ?_
    refine F8 rfl rfl rfl (a1T 10 rfl) ?_
    refine d9 rfl rfl rfl ?_
    refine d9 rfl rfl rfl ?_
    refine d9 rfl rfl (mul1 (by omega)) ?_
    refine d9 rfl rfl (addN (by omega)) ?_
    refine d9 rfl rfl rfl ?_
    refine o5 ?_
    refine j3 ?_
    refine d9 rfl rfl rfl ?_
    refine o5 ?_
    refine j3 ?_
    refine d9 rfl rfl rfl ?_
    refine d9 rfl rfl rfl ?_
    refine o5 ?_
    exact ⟨[(0,.ptr 0 0),(1,.str s),(5,.int .i64 ((ns + s.count 10:Nat):Int)),(6,.bool true),(30,.rslice 1 0 4 true),(31,.int .i64 4),(32,.int .i64 ((4:Nat):Int))],[(0,.row RR),(1,.grow 1 TR)],by kernel_rfl,ih (4,ns + s.count 10,true) (by simp) ⟨by simp,by rw [hns]; simp only [cn]; omega,by simp only [cn]; symm; simp only [decide_eq_true_eq]; omega⟩⟩
   ·replace g40:s.count 10 = 0:=by simp only [eqB,Bool.not_eq_false',beq_iff_eq] at g40; omega
    refine j6 ?_
    refine j3 ?_
    refine d9 rfl rfl rfl ?_
    refine d9 rfl rfl rfl ?_
    refine o5 ?_
    exact ⟨[(0,.ptr 0 0),(1,.str s),(5,.int .i64 ((ns:Nat):Int)),(6,.bool any),(30,.rslice 1 0 4 true),(31,.int .i64 4),(32,.int .i64 ((4:Nat):Int))],[(0,.row RR),(1,.grow 1 TR)],by kernel_rfl,ih (4,ns,any) (by simp) ⟨by simp,by rw [hns]; simp only [cn]; omega,by rw [hany]; simp only [cn]; congr 1; simp only [eq_iff_iff]; omega⟩⟩
  ·have hN:ns = (esc s).length:=by rw [hns,a8o]; rfl
   replace hany:any = decide (s.length < (esc s).length):=by rw [hany,a8o]; simp only [cn]; congr 1; simp only [eq_iff_iff]; omega
   subst hN
   refine j4 ?_
   refine j3 ?_
   refine d9 rfl rfl rfl ?_
   refine o5 ?_
   refine j4 ?_
   refine F5 rfl (by simp [ltB]) ?_
   refine G5 ?_
   refine j4 ?_
   refine j4 ?_
   refine j3 ?_
   refine d9 rfl rfl rfl ?_
   refine d9 rfl rfl rfl ?_
   refine o5 ?_
   refine q9 rfl (fun g82=>?_) (fun g82=>?_)
   ·have hs1:=a6d (s:=s) (by rw [hany] at g82; simpa using g82)
    rw [hs1]
    refine j4 ?_
    refine j3 ?_
    refine d9 rfl rfl rfl ?_
    refine d9 rfl rfl rfl ?_
    refine o5 ?_
    exact j5 ⟨_,rfl,by kernel_rfl⟩
   ·refine j6 ?_
    refine j4 ?_
    refine j3 ?_
    refine d9 rfl rfl rfl ?_
    refine Q7 rfl rfl (mk_ok (esc s).length (by have:=a1E s; omega) rfl) ?_
    refine d9 rfl rfl rfl ?_
    refine o5 ?_
    refine j4 ?_
    refine j3 ?_
    refine d9 rfl rfl rfl ?_
    refine o5 ?_
    refine a8s rfl ?_
    refine j4 ?_
    refine j3 ?_
    refine d9 rfl rfl rfl ?_
    refine o5 ?_
    refine o7 ?_
    refine J3 (fr1:=[(0,.ptr 0 0),(1,.str s),(12,.rslice 2 0 (esc s).length true),(13,.int .i64 (((esc (s.take 0)).length:Nat):Int)),(14,.int .i64 ((0:Nat):Int))]) (H1:=[(0,.row RR),(1,.grow 1 TR),(2,.grow 1 (BUF s 0))]) (by kernel_rfl) ?_
    refine U4 (fun i:Nat=>[(0,.ptr 0 0),(1,.str s),(12,.rslice 2 0 (esc s).length true),(13,.int .i64 (((esc (s.take i)).length:Nat):Int)),(14,.int .i64 ((i:Nat):Int))]) (fun i=>[(0,.row RR),(1,.grow 1 TR),(2,.grow 1 (BUF s i))]) (fun i=>i <= s.length) (fun i=>s.length - i) 0 (Nat.zero_le _) ?_
    intro i hi ih
    have hles:=a1E s
    have hpre:=a3g s i
    have hbl:=b0H s i
    refine j4 ?_
    refine j4 ?_
    refine j3 ?_
    refine d9 rfl rfl rfl ?_
    refine d9 rfl rfl rfl ?_
    refine d9 rfl rfl rfl ?_
    refine d9 rfl rfl rfl ?_
    refine o5 ?_
    refine q9 rfl (fun g89=>?_) (fun g89=>?_)
    ·replace g89:i < s.length:=by simpa [ltN] using g89
     obtain ⟨b,hb⟩:∃ b,s.getD i 0 = b:=⟨_,rfl⟩
     have htk:=a2J g89
     rw [hb] at htk
     have hpre2:=a3g s (i + 1)
     refine j6 ?_
     refine j4 ?_
     refine o7 ?_
     refine j4 ?_
     refine j3 ?_
     refine d9 rfl rfl rfl ?_
     refine d9 rfl rfl rfl ?_
     refine d9 rfl rfl (F6 (C8 g89) (show _ = some (.int .u8 (((s.getD i 0).toNat:Nat):Int)) from rfl)) ?_
     rw [hb]
     refine d9 rfl rfl rfl ?_
     refine o5 ?_
     refine j4 ?_
     refine j3 ?_
     refine d9 rfl rfl rfl ?_
     refine d9 rfl rfl rfl ?_
     refine d9 rfl rfl rfl ?_
     refine d9 rfl rfl rfl ?_
     refine d9 rfl rfl (F6 (C8 (UInt8.toNat_lt b)) rfl) ?_
     rcases a05 b with ⟨c,hc,he⟩ | ⟨hc,he⟩
     ·refine F8 rfl rfl rfl ((a1T b (by simp)).trans (congrArg some hc)) ?_
      refine d9 rfl rfl (b0h 2 rfl) ?_
      refine o5 ?_
      refine D8 rfl (rfl) ?_
      refine j3 ?_
      refine d9 rfl rfl rfl ?_
      refine d9 rfl rfl rfl ?_
      refine d9 rfl rfl rfl ?_
      have hL:(esc (s.take (i + 1))).length = (esc (s.take i)).length + 2:=by rw [htk,he,List.length_append]; rfl
      refine d9 rfl rfl (F6 (V7 (by omega) (Nat.le_refl _)) rfl) ?_
      refine d9 rfl rfl rfl ?_
      refine d9 rfl rfl rfl ?_
      refine d9 rfl rfl rfl ?_
      refine d9 rfl rfl rfl ?_
      refine d9 rfl rfl (F6 (C8 (UInt8.toNat_lt b)) rfl) ?_
      refine F8 rfl rfl rfl ((a1T b (by simp)).trans (congrArg some hc)) ?_
      refine Q7 rfl rfl (cp_ok (B:=BUF s (i + 1)) (n:=(esc s).length - (esc (s.take i)).length) rfl (by omega) (by omega) (b0K g89 hb he)) ?_
      refine d9 rfl rfl (addE (k:=2) hL (by omega)) ?_
      refine d9 rfl rfl rfl ?_
      refine o5 ?_
      refine j3 ?_
      refine d9 rfl rfl rfl ?_
      refine d9 rfl rfl (add1 (by omega)) ?_
      refine d9 rfl rfl rfl ?_
      refine o5 ?_
      exact ⟨[(0,.ptr 0 0),(1,.str s),(12,.rslice 2 0 (esc s).length true),(13,.int .i64 (((esc (s.take (i + 1))).length:Nat):Int)),(14,.int .i64 (((i + 1):Nat):Int))],[(0,.row RR),(1,.grow 1 TR),(2,.grow 1 (BUF s (i + 1)))],by kernel_rfl,ih (i + 1) (by omega) (by omega)⟩
     ·refine F8 rfl rfl rfl ((a1T b (by simp)).trans (congrArg some hc)) ?_
      refine d9 rfl rfl rfl ?_
      refine o5 ?_
      refine F5 rfl (rfl) ?_
      refine j4 ?_
      refine j3 ?_
      refine d9 rfl rfl rfl ?_
      refine d9 rfl rfl rfl ?_
      refine d9 rfl rfl rfl ?_
      have hL:(esc (s.take (i + 1))).length = (esc (s.take i)).length + 1:=by rw [htk,he,List.length_append]; rfl
      refine d9 rfl rfl (F6 (C8 (by omega)) rfl) ?_
      refine a7L rfl rfl rfl rfl (st_ok (B:=BUF s (i + 1)) rfl (by omega) (b0I g89 hb he)) ?_
      refine o5 ?_
      refine j3 ?_
      refine d9 rfl rfl rfl ?_
      refine d9 rfl rfl (addE (k:=1) hL (by omega)) ?_
      refine d9 rfl rfl rfl ?_
      refine o5 ?_
      refine j3 ?_
      refine d9 rfl rfl rfl ?_
      refine d9 rfl rfl (add1 (by omega)) ?_
      refine d9 rfl rfl rfl ?_
      refine o5 ?_
      exact ⟨[(0,.ptr 0 0),(1,.str s),(12,.rslice 2 0 (esc s).length true),(13,.int .i64 (((esc (s.take (i + 1))).length:Nat):Int)),(14,.int .i64 (((i + 1):Nat):Int))],[(0,.row RR),(1,.grow 1 TR),(2,.grow 1 (BUF s (i + 1)))],by kernel_rfl,ih (i + 1) (by omega) (by omega)⟩
    ·replace g89:¬ i < s.length:=by simpa [ltN] using g89
     obtain rfl:i = s.length:=by omega
     refine G5 ?_
     refine ⟨[(12,.slice .sealed (esc s).length ((BUF s s.length).take ((esc s).length * 1)))],[(0,.row RR),(1,.grow 1 TR)],by kernel_rfl,?_⟩
     refine j4 ?_
     refine j3 ?_
     refine d9 rfl rfl rfl ?_
     refine a1y rfl rfl rfl (cv_ok s) ?_
     refine d9 rfl rfl rfl ?_
     refine o5 ?_
     exact j5 ⟨_,rfl,by kernel_rfl⟩
 ·refine j4 ?_
  refine j3 ?_
  refine d9 rfl rfl rfl ?_
  refine o5 ?_
  refine o7 ?_
  refine J3 (fr1:=[(0,.ptr 0 0),(1,.str s),(5,.int .i64 ((s.length:Nat):Int)),(6,.bool false),(10,.int .i64 ((0:Nat):Int))]) (H1:=[(0,.row RR),(1,.grow 1 TR)]) (by kernel_rfl) ?_
  refine U4 (fun x:Nat × Nat × Bool=>[(0,.ptr 0 0),(1,.str s),(5,.int .i64 ((x.2.1:Nat):Int)),(6,.bool x.2.2),(10,.int .i64 ((x.1:Nat):Int))]) (fun _=>[(0,.row RR),(1,.grow 1 TR)]) (fun x=>x.1 <= s.length /\ x.2.1 + x.1 = s.length + (esc (s.take x.1)).length /\ x.2.2 = decide (x.1 < (esc (s.take x.1)).length)) (fun x=>s.length - x.1) (0,s.length,false) ⟨by simp,by simp [esc],by simp [esc]⟩ ?_
  rintro ⟨i,ns,any⟩ ⟨hi,hns,hany⟩ ih
  simp only at hi hns hany ih ⊢
  have hge:=a95 (s.take i)
  have hle:=a1E (s.take i)
  rw [List.length_take,Nat.min_eq_left hi] at hge hle
  refine j4 ?_
  refine j4 ?_
  refine j3 ?_
  refine d9 rfl rfl rfl ?_
  refine d9 rfl rfl rfl ?_
  refine d9 rfl rfl rfl ?_
  refine d9 rfl rfl rfl ?_
  refine o5 ?_
  refine q9 rfl (fun g58=>?_) (fun g58=>?_)
  ·replace g58:i < s.length:=by simpa [ltN] using g58
   obtain ⟨b,hb⟩:∃ b,s.getD i 0 = b:=⟨_,rfl⟩
   have htk:=a2J g58
   rw [hb] at htk
   refine j6 ?_
   refine j4 ?_
   refine o7 ?_
   refine j4 ?_
   refine j3 ?_
   refine d9 rfl rfl rfl ?_
   refine d9 rfl rfl rfl ?_
   refine d9 rfl rfl (F6 (C8 g58) (show _ = some (.int .u8 (((s.getD i 0).toNat:Nat):Int)) from rfl)) ?_
   rw [hb]
   refine d9 rfl rfl rfl ?_
   refine o5 ?_
   refine j4 ?_
   refine j3 ?_
   refine d9 rfl rfl rfl ?_
   refine d9 rfl rfl rfl ?_
   refine d9 rfl rfl rfl ?_
   refine d9 rfl rfl rfl ?_
   refine d9 rfl rfl (F6 (C8 (UInt8.toNat_lt b)) rfl) ?_
   rcases a05 b with ⟨c,hc,he⟩ | ⟨hc,he⟩
   ·refine F8 rfl rfl rfl ((a1T b (by simp)).trans (congrArg some hc)) ?_
    refine d9 rfl rfl (b0h 2 rfl) ?_
    refine o5 ?_
    refine D8 rfl (rfl) ?_
    refine j4 ?_
    refine j3 ?_
    refine d9 rfl rfl rfl ?_
    refine d9 rfl rfl rfl ?_
    refine d9 rfl rfl rfl ?_
    refine d9 rfl rfl rfl ?_
    refine d9 rfl rfl rfl ?_
    refine d9 rfl rfl (F6 (C8 (UInt8.toNat_lt b)) rfl) ?_
    refine F8 rfl rfl rfl ((a1T b (by simp)).trans (congrArg some hc)) ?_
    refine d9 rfl rfl rfl ?_
    refine d9 rfl rfl rfl ?_
    refine d9 rfl rfl (addN (k:=1) (by omega)) ?_
    refine d9 rfl rfl rfl ?_
    refine o5 ?_
    refine j3 ?_
    refine d9 rfl rfl rfl ?_
    refine o5 ?_
    refine j3 ?_
    refine d9 rfl rfl rfl ?_
    refine d9 rfl rfl (add1 (by omega)) ?_
    refine d9 rfl rfl rfl ?_
    refine o5 ?_
    exact ⟨[(0,.ptr 0 0),(1,.str s),(5,.int .i64 ((ns + 1:Nat):Int)),(6,.bool true),(10,.int .i64 ((i + 1:Nat):Int))],[(0,.row RR),(1,.grow 1 TR)],by kernel_rfl,ih (i + 1,ns + 1,true) (by simp only; omega) ⟨by simp only; omega,by rw [htk,he]; simp only [List.length_append,List.length_cons,List.length_nil]; omega,by rw [htk,he]; simp only [List.length_append,List.length_cons,List.length_nil]; symm; simp only [decide_eq_true_eq]; omega⟩⟩
   ·refine F8 rfl rfl rfl ((a1T b (by simp)).trans (congrArg some hc)) ?_
    refine d9 rfl rfl rfl ?_
    refine o5 ?_
    refine F5 rfl (rfl) ?_
    refine j6 ?_
    refine j3 ?_
    refine d9 rfl rfl rfl ?_
    refine d9 rfl rfl (add1 (by omega)) ?_
    refine d9 rfl rfl rfl ?_
    refine o5 ?_
    exact ⟨[(0,.ptr 0 0),(1,.str s),(5,.int .i64 ((ns:Nat):Int)),(6,.bool any),(10,.int .i64 ((i + 1:Nat):Int))],[(0,.row RR),(1,.grow 1 TR)],by kernel_rfl,ih (i + 1,ns,any) (by simp only; omega) ⟨by simp only; omega,by rw [htk,he]; simp only [List.length_append,List.length_cons,List.length_nil]; omega,by rw [hany,htk,he]; simp only [List.length_append,List.length_cons,List.length_nil]; congr 1; simp only [eq_iff_iff]; omega⟩⟩
  ·replace g58:¬ i < s.length:=by simpa [ltN] using g58
   obtain rfl:i = s.length:=by omega
   rw [List.take_length] at hns hany
   obtain rfl:ns = (esc s).length:=by omega
   refine G5 ?_
   refine j4 ?_
   refine j4 ?_
   refine j3 ?_
   refine d9 rfl rfl rfl ?_
   refine d9 rfl rfl rfl ?_
   refine o5 ?_
   refine q9 rfl (fun g82=>?_) (fun g82=>?_)
   ·have hs1:=a6d (s:=s) (by rw [hany] at g82; simpa using g82)
    rw [hs1]
    refine j4 ?_
    refine j3 ?_
    refine d9 rfl rfl rfl ?_
    refine d9 rfl rfl rfl ?_
    refine o5 ?_
    exact j5 ⟨_,rfl,by kernel_rfl⟩
   ·refine j6 ?_
    refine j4 ?_
    refine j3 ?_
    refine d9 rfl rfl rfl ?_
    refine Q7 rfl rfl (mk_ok (esc s).length (by have:=a1E s; omega) rfl) ?_
    refine d9 rfl rfl rfl ?_
    refine o5 ?_
    refine j4 ?_
    refine j3 ?_
    refine d9 rfl rfl rfl ?_
    refine o5 ?_
    refine a8s rfl ?_
    refine j4 ?_
    refine j3 ?_
    refine d9 rfl rfl rfl ?_
    refine o5 ?_
    refine o7 ?_
    refine J3 (fr1:=[(0,.ptr 0 0),(1,.str s),(12,.rslice 2 0 (esc s).length true),(13,.int .i64 (((esc (s.take 0)).length:Nat):Int)),(14,.int .i64 ((0:Nat):Int))]) (H1:=[(0,.row RR),(1,.grow 1 TR),(2,.grow 1 (BUF s 0))]) (by kernel_rfl) ?_
    refine U4 (fun i:Nat=>[(0,.ptr 0 0),(1,.str s),(12,.rslice 2 0 (esc s).length true),(13,.int .i64 (((esc (s.take i)).length:Nat):Int)),(14,.int .i64 ((i:Nat):Int))]) (fun i=>[(0,.row RR),(1,.grow 1 TR),(2,.grow 1 (BUF s i))]) (fun i=>i <= s.length) (fun i=>s.length - i) 0 (Nat.zero_le _) ?_
    intro i hi ih
    have hles:=a1E s
    have hpre:=a3g s i
    have hbl:=b0H s i
    refine j4 ?_
    refine j4 ?_
    refine j3 ?_
    refine d9 rfl rfl rfl ?_
    refine d9 rfl rfl rfl ?_
    refine d9 rfl rfl rfl ?_
    refine d9 rfl rfl rfl ?_
    refine o5 ?_
    refine q9 rfl (fun g89=>?_) (fun g89=>?_)
    ·replace g89:i < s.length:=by simpa [ltN] using g89
     obtain ⟨b,hb⟩:∃ b,s.getD i 0 = b:=⟨_,rfl⟩
     have htk:=a2J g89
     rw [hb] at htk
     have hpre2:=a3g s (i + 1)
     refine j6 ?_
     refine j4 ?_
     refine o7 ?_
     refine j4 ?_
     refine j3 ?_
     refine d9 rfl rfl rfl ?_
     refine d9 rfl rfl rfl ?_
     refine d9 rfl rfl (F6 (C8 g89) (show _ = some (.int .u8 (((s.getD i 0).toNat:Nat):Int)) from rfl)) ?_
     rw [hb]
     refine d9 rfl rfl rfl ?_
     refine o5 ?_
     refine j4 ?_
     refine j3 ?_
     refine d9 rfl rfl rfl ?_
     refine d9 rfl rfl rfl ?_
     refine d9 rfl rfl rfl ?_
     refine d9 rfl rfl rfl ?_
     refine d9 rfl rfl (F6 (C8 (UInt8.toNat_lt b)) rfl) ?_
     rcases a05 b with ⟨c,hc,he⟩ | ⟨hc,he⟩
     ·refine F8 rfl rfl rfl ((a1T b (by simp)).trans (congrArg some hc)) ?_
      refine d9 rfl rfl (b0h 2 rfl) ?_
      refine o5 ?_
      refine D8 rfl (rfl) ?_
      refine j3 ?_
      refine d9 rfl rfl rfl ?_
      refine d9 rfl rfl rfl ?_
      refine d9 rfl rfl rfl ?_
      have hL:(esc (s.take (i + 1))).length = (esc (s.take i)).length + 2:=by rw [htk,he,List.length_append]; rfl
      refine d9 rfl rfl (F6 (V7 (by omega) (Nat.le_refl _)) rfl) ?_
      refine d9 rfl rfl rfl ?_
      refine d9 rfl rfl rfl ?_
      refine d9 rfl rfl rfl ?_
      refine d9 rfl rfl rfl ?_
      refine d9 rfl rfl (F6 (C8 (UInt8.toNat_lt b)) rfl) ?_
      refine F8 rfl rfl rfl ((a1T b (by simp)).trans (congrArg some hc)) ?_
      refine Q7 rfl rfl (cp_ok (B:=BUF s (i + 1)) (n:=(esc s).length - (esc (s.take i)).length) rfl (by omega) (by omega) (b0K g89 hb he)) ?_
      refine d9 rfl rfl (addE (k:=2) hL (by omega)) ?_
      refine d9 rfl rfl rfl ?_
      refine o5 ?_
      refine j3 ?_
      refine d9 rfl rfl rfl ?_
      refine d9 rfl rfl (add1 (by omega)) ?_
      refine d9 rfl rfl rfl ?_
      refine o5 ?_
      exact ⟨[(0,.ptr 0 0),(1,.str s),(12,.rslice 2 0 (esc s).length true),(13,.int .i64 (((esc (s.take (i + 1))).length:Nat):Int)),(14,.int .i64 (((i + 1):Nat):Int))],[(0,.row RR),(1,.grow 1 TR),(2,.grow 1 (BUF s (i + 1)))],by kernel_rfl,ih (i + 1) (by omega) (by omega)⟩
     ·refine F8 rfl rfl rfl ((a1T b (by simp)).trans (congrArg some hc)) ?_
      refine d9 rfl rfl rfl ?_
      refine o5 ?_
      refine F5 rfl (rfl) ?_
      refine j4 ?_
      refine j3 ?_
      refine d9 rfl rfl rfl ?_
      refine d9 rfl rfl rfl ?_
      refine d9 rfl rfl rfl ?_
      have hL:(esc (s.take (i + 1))).length = (esc (s.take i)).length + 1:=by rw [htk,he,List.length_append]; rfl
      refine d9 rfl rfl (F6 (C8 (by omega)) rfl) ?_
      refine a7L rfl rfl rfl rfl (st_ok (B:=BUF s (i + 1)) rfl (by omega) (b0I g89 hb he)) ?_
      refine o5 ?_
      refine j3 ?_
      refine d9 rfl rfl rfl ?_
      refine d9 rfl rfl (addE (k:=1) hL (by omega)) ?_
      refine d9 rfl rfl rfl ?_
      refine o5 ?_
      refine j3 ?_
      refine d9 rfl rfl rfl ?_
      refine d9 rfl rfl (add1 (by omega)) ?_
      refine d9 rfl rfl rfl ?_
      refine o5 ?_
      exact ⟨[(0,.ptr 0 0),(1,.str s),(12,.rslice 2 0 (esc s).length true),(13,.int .i64 (((esc (s.take (i + 1))).length:Nat):Int)),(14,.int .i64 (((i + 1):Nat):Int))],[(0,.row RR),(1,.grow 1 TR),(2,.grow 1 (BUF s (i + 1)))],by kernel_rfl,ih (i + 1) (by omega) (by omega)⟩
    ·replace g89:¬ i < s.length:=by simpa [ltN] using g89
     obtain rfl:i = s.length:=by omega
     refine G5 ?_
     refine ⟨[(12,.slice .sealed (esc s).length ((BUF s s.length).take ((esc s).length * 1)))],[(0,.row RR),(1,.grow 1 TR)],by kernel_rfl,?_⟩
     refine j4 ?_
     refine j3 ?_
     refine d9 rfl rfl rfl ?_
     refine a1y rfl rfl rfl (cv_ok s) ?_
     refine d9 rfl rfl rfl ?_
     refine o5 ?_
     exact j5 ⟨_,rfl,by kernel_rfl⟩
end Go.Proofs.YtlhgheonlcjpaaaGreat.Rp
namespace Go.Vm
open Go
variable {ρ ρ':Rho} {lab lab':Lab} {w w':World} {H:Hp}
theorem Rel.carry (hF:∀ b o x,Y6 lab w b o x -> Y6 lab' w' b o x) {v:V} {x:Value} (h:Rel ρ lab w v x):Rel ρ lab' w' v x:=by
 induction h with
 | undef x=>exact .undef x
 | bool b=>exact .bool b
 | int k n=>exact .int k n
 | str s=>exact .str s
 | nilptr=>exact .nilptr
 | ptr r off b o c h=>exact .ptr r off b o c h
 | cptr cells xs b o hl hc _ hnf ih=>exact .cptr cells xs b o hl (fun i x hx=>hF _ _ _ (hc i x hx)) ih hnf
 | slice ow n cells xs b o ao cap hl hn hb hz hc _ how h1 hnf ih=>exact .slice ow n cells xs b o ao cap hl hn hb hz (fun i x hx=>hF _ _ _ (hc i x hx)) ih how h1 hnf
 | rslice r off n wh base g ao cap h1 h2 h3 h4 h5=>exact .rslice r off n wh base g ao cap h1 h2 h3 h4 h5
 | func fn a c xs ys h1 h2 _ _ ih1 ih2=>exact .func fn a c xs ys h1 h2 ih1 ih2
 | nilFunc=>exact .nilFunc
 | iface t v x _ ih=>exact .iface t v x ih
 | nilIface=>exact .nilIface
 | opq m=>exact .opq m
 | agg cells xs h1 _ ih=>exact .agg cells xs h1 ih
 | tuple cells xs h1 _ ih=>exact .tuple cells xs h1 ih
theorem p9.carry (hF:∀ b o x,Y6 lab w b o x -> Y6 lab' w' b o x) {v:List V} {x:List Value} (h:p9 ρ lab w v x):p9 ρ lab' w' v x :=
 ⟨h.1,fun i v x hv hx=>(h.2 i v x hv hx).carry hF⟩
theorem Sim.relab (hS:Sim ρ lab H w) (hF:∀ b o x,Y6 lab w b o x -> Y6 lab' w' b o x) (hO:∀ b o k,N7 lab w k b o -> N7 lab' w' k b o /\ cellAt w' b o = cellAt w b o)
  (hl:∀ b o k,lab' b o = some k -> b < w'.heap.size):Sim ρ lab' H w' where
 row:=fun k cs hk=>by
  obtain ⟨b,o,xs,h1,h2,h3⟩:=hS.row k cs hk
  exact ⟨b,o,xs,h1,h2.carry hF,fun i x hx=>⟨(hO _ _ _ (h3 i x hx).1).1,(hO _ _ _ (h3 i x hx).1).2.trans (h3 i x hx).2⟩⟩
 grow:=fun k e cs hk=>by
  obtain ⟨base,c,xs,h1,h2,h3,h4,h8,h9,h5⟩:=hS.grow k e cs hk
  refine ⟨base,c,xs,h1,h2.carry hF,h3,h4,h8,h9,fun b o hb=>?_⟩
  obtain ⟨h6,h7⟩:=h5 b o hb
  refine ⟨fun i hi=>(hO _ _ _ (h6 i hi)).1,fun i x hx=>?_⟩
  have hi:i < c * e:=by
   have:i < xs.length:=by
    rcases Nat.lt_or_ge i xs.length with h | h
    ·exact h
    ·rw [List.getElem?_eq_none h] at hx; cases hx
   rw [h2.1] at this; omega
  exact (hO _ _ _ (h6 i hi)).2.trans (h7 i x hx)
 tip:=fun k e n hk=>by
  obtain ⟨ao,cap,h1,h2,h3,h4,h5⟩:=hS.tip k e n hk
  exact ⟨ao,cap,h1,h2,h3,h4,fun a ha=>⟨(h5 a ha).1,fun i hi hj=>(hO _ _ _ ((h5 a ha).2 i hi hj)).1⟩⟩
 hdom:=hS.hdom
 adom:=hS.adom
 ldom:=hl
def Lab.mine (lab:Lab) (B:Nat):Lab:=fun b o=>if b = B then some none else lab b o
def Lab.left (lab:Lab) (B:Nat):Lab:=fun b o=>if b = B then none else lab b o
theorem mineF (hg:K8 w w'):∀ b o x,Y6 lab w b o x -> Y6 (lab.mine w.heap.size) w' b o x:=fun b o x h=>by
 have hb:=N9 h.cell
 refine ⟨?_,(hg.cell hb o).trans h.cell⟩
 simp only [Lab.mine]
 rw [if_neg (by omega)]
 exact h.lab
theorem Sim.mine (hS:Sim ρ lab H w) (hg:K8 w w') (hB:w.heap.size < w'.heap.size):Sim ρ (lab.mine w.heap.size) H w':=by
 refine hS.relab (mineF hg) (fun b o k h=>?_) (fun b o k h=>?_)
 ·obtain ⟨x,hx⟩:=h.cell
  have hb:=N9 hx
  refine ⟨⟨?_,(hg.frozen hb o).trans h.free,x,(hg.cell hb o).trans hx⟩,hg.cell hb o⟩
  simp only [Lab.mine]
  rw [if_neg (by omega)]
  exact h.lab
 ·simp only [Lab.mine] at h
  split at h
  ·rename_i hb; subst hb; exact hB
  ·exact Nat.lt_of_lt_of_le (hS.ldom b o k h) hg.size
section
variable {w1 w2 w3:World} {B:Nat}
structure Wrote (B:Nat) (w w':World):Prop where
 size:w.heap.size <= w'.heap.size
 os:w'.os = w.os
 tape:w'.tape = w.tape
 output:w'.output = w.output
 blk:∀ b,b < w.heap.size -> b ≠ B -> w'.heap[b]? = w.heap[b]?
theorem Wrote.cell (h:Wrote B w w') {b:Nat} (hb:b < w.heap.size) (hn:b ≠ B) (o:Nat):cellAt w' b o = cellAt w b o:=by simp only [cellAt,World.cell?,h.blk b hb hn]
theorem Wrote.frozen (h:Wrote B w w') {b:Nat} (hb:b < w.heap.size) (hn:b ≠ B) (o:Nat):w'.frozen? ⟨b,o,none⟩ = w.frozen? ⟨b,o,none⟩:=by simp only [World.frozen?,h.blk b hb hn]
theorem Wrote.refl (B:Nat) (w:World):Wrote B w w:=⟨Nat.le_refl _,rfl,rfl,rfl,fun _ _ _=>rfl⟩
theorem leftF (E:Ext (lab.mine B) w1 lab' w2) (hw:Wrote B w2 w3):∀ b o x,Y6 lab' w2 b o x -> Y6 (lab'.left B) w3 b o x:=fun b o x h=>by
 have hb:=N9 h.cell
 have hn:b ≠ B:=by
  rintro rfl
  have:=(E.ctx b o).2 (by simp [Lab.mine])
  rw [h.lab] at this; cases this
 refine ⟨?_,(hw.cell hb hn o).trans h.cell⟩
 simp only [Lab.left]
 rw [if_neg hn]
 exact h.lab
theorem Sim.left (hS:Sim ρ' lab' H w2) (E:Ext (lab.mine B) w1 lab' w2) (hw:Wrote B w2 w3):Sim ρ' (lab'.left B) H w3:=by
 refine hS.relab (leftF E hw) (fun b o k h=>?_) (fun b o k h=>?_)
 ·obtain ⟨x,hx⟩:=h.cell
  have hb:=N9 hx
  have hn:b ≠ B:=by
   rintro rfl
   have:=(E.ctx b o).2 (by simp [Lab.mine])
   rw [h.lab] at this; cases this
  refine ⟨⟨?_,(hw.frozen hb hn o).trans h.free,x,(hw.cell hb hn o).trans hx⟩,hw.cell hb hn o⟩
  simp only [Lab.left]
  rw [if_neg hn]
  exact h.lab
 ·simp only [Lab.left] at h
  split at h
  ·cases h
  ·exact Nat.lt_of_lt_of_le (hS.ldom b o k h) hw.size
theorem Ext.left (hS:Sim ρ lab H w) (hg:K8 w w1) (hB:w.heap.size < w1.heap.size) (E:Ext (lab.mine w.heap.size) w1 lab' w2) (hw:Wrote w.heap.size w2 w3):Ext lab w (lab'.left w.heap.size) w3 where
 size:=Nat.le_trans hg.size (Nat.le_trans E.size hw.size)
 os:=hw.os.trans (E.os.trans hg.os)
 tape:=hw.tape.trans (E.tape.trans hg.tape)
 output:=hw.output.trans (E.output.trans hg.output)
 lb:=fun b o hb hl=>by
  simp only [Lab.left]
  rw [if_neg (by omega)]
  exact E.lb b o (Nat.lt_of_lt_of_le hb hg.size) (by simp only [Lab.mine]; rw [if_neg (by omega)]; exact hl)
 ctx:=fun b o=>by
  by_cases hb:b = w.heap.size
  ·subst hb
   have h1:(lab'.left w.heap.size) w.heap.size o = none:=by simp [Lab.left]
   rw [h1]
   constructor
   ·intro h; cases h
   ·intro h
    have:=hS.ldom _ _ _ h
    omega
  ·have:=E.ctx b o
   simp only [Lab.left,Lab.mine,if_neg hb] at this ⊢
   exact this
 cl:=fun b o hb hl=>by
  have hb1:=Nat.lt_of_lt_of_le hb hg.size
  have h1:=E.cl b o hb1 (fun k=>by simp only [Lab.mine]; rw [if_neg (by omega)]; exact hl k)
  have hb2:=Nat.lt_of_lt_of_le hb1 E.size
  exact ⟨(hw.cell hb2 (by omega) o).trans (h1.1.trans (hg.cell hb o)),(hw.frozen hb2 (by omega) o).trans (h1.2.trans (hg.frozen hb o))⟩
 blk:=fun b hb hl=>by
  have hb1:=Nat.lt_of_lt_of_le hb hg.size
  have h1:=E.blk b hb1 (fun o k=>by simp only [Lab.mine]; rw [if_neg (by omega)]; exact hl o k)
  have hb2:=Nat.lt_of_lt_of_le hb1 E.size
  exact (hw.blk b hb2 (by omega)).trans (h1.trans (hg.blk b hb))
end
theorem E_via {env:Env} {g g':Nat} {args l:List V} {H H':Hp} {o out:Out} {pre:List V -> Hp -> Option (Nat × List V × Hp)} {post:List V -> Hp -> Out -> Option Out} (hi:env.intr g = some (.via pre post)) (hp:pre args H = some (g',l,H'))
  (hc:E env (.call g' l) H' = some o) (ho:post args H o = some out):E env (.call g args) H = some out :=
 a9K (by simp only [step,hi,hp,hc,ho])
end Go.Vm
namespace Go.Proofs.YtlhgheonlcjpaaaGreat.Rp
open Go Go.Vm
theorem a8U {env:Env} {orc:Orc} {H:Hp} {k g:Nat} {args ac:List V} {ns:List Nat} {H3 H4 Hc:Hp} {v v4:V} (hq:env.quiet g = false) (hp:a4a env g args H = some (ns,ac,Hc)) (hc:orc (.call g ac) Hc = some (.ret v H3)) (h7:a3L (M9 (A8 ns k) dep v) = some v4)
  (h8:X8 (P8 (A8 ns k) H3 H) = some H4) (h9:a06 H H3 k ns.length = true):E8 env orc k g args H = some (.val v4 H4):=by
 rw [V6] at h8
 rw [a4Q] at h7
 obtain ⟨J5,H2,h1,h2,h3,h4⟩:=a4b hp
 simp only [E8,hq,h1,h2,h3,h4,hc,h7,h8,h9]
theorem b1A {env:Env} {orc:Orc} {ops:Array Oper} {o:Oper} {rest:List Oper} {fr:Fr} {H H1:Hp} {K:Res -> Prop} {rc:Operand} {m:String} {args:Array Operand} {at_:Array TypeId} {t g:Nat} {v0 v:V} {l:List V}
  (hw:p8 ops o fr = some true) (ho:o.op = .call ⟨.invoke rc m,args,at_⟩) (hr:ev fr rc = some (.iface t v0)) (hl:evL fr args.toList = some l) (hm:env.meth t m = some g) (hc:E8 env orc (newName o) g (v0 :: l) H = some (.val v H1))
  (h:Go.Vm.Os env orc ops rest (I6 o.dst v fr) H1 K):Go.Vm.Os env orc ops (o :: rest) fr H K:=by
 have hp:D5 o.op = false:=by rw [ho]; rfl
 refine Q7 hw hp (v:=v) (H1:=H1) ?_ h
 unfold E5
 rw [ho]
 simp only [hr,hl,hm,hc]
theorem do_E:E env (.call 43 [.ptr 0 0,.func (.func 44) [.ptr 0 0] []]) [(0,.row [.int .u32 0,.int .i32 0,.int .u32 0,.nilIface,.slice (.tag 1) 8 pairs]),(1,.tip 1 8)] = some (.ret (.tuple []) [(0,.row [.int .u32 1,.int .i32 0,.int .u32 0,.iface 121 (.ptr 2 0),.slice .nil 0 []]),(1,.tip 1 8),(2,.row ((List.range 256).map cell ++ [.rslice 3 0 4 true])),(3,.grow 1 TR)]) :=
 E_via (g':=44) (l:=[.ptr 0 0]) (H':=[(0,.row [.int .u32 0,.int .i32 1,.int .u32 0,.nilIface,.slice (.tag 1) 8 pairs]),(1,.tip 1 8)]) rfl (by kernel_rfl) bu_E (by kernel_rfl)
theorem rp_E (s:List UInt8) (hs:s.length <= 1000000):E env (.call 24 [.ptr 0 0,.str s]) [(0,.row [.int .u32 0,.int .i32 0,.int .u32 0,.nilIface,.slice (.tag 1) 8 pairs]),(1,.tip 1 8)] = some (.ret (.str (esc s)) [(0,.row [.int .u32 1,.int .i32 0,.int .u32 0,.iface 121 (.ptr 2 0),.slice .nil 0 []]),(1,.tip 1 8),(2,.row ((List.range 256).map cell ++ [.rslice 3 0 4 true])),(3,.grow 1 TR)]):=by
 refine y9 (env:=env) rfl Tryz.func24 rfl rfl ?_
 refine j4 ?_
 refine j3 ?_
 refine d9 rfl rfl rfl ?_
 refine o5 ?_
 refine j4 ?_
 refine j3 ?_
 refine d9 rfl rfl rfl ?_
 refine d9 rfl rfl rfl ?_
 refine d9 rfl rfl rfl ?_
 refine d9 rfl rfl rfl ?_
 refine d9 rfl rfl rfl ?_
 refine a3m (v:=.tuple []) (H1:=[(0,.row [.int .u32 1,.int .i32 0,.int .u32 0,.iface 121 (.ptr 704 0),.slice .nil 0 []]),(1,.tip 1 8),(704,.row ((List.range 256).map cell ++ [.rslice 705 0 4 true])),(705,.grow 1 TR)]) rfl rfl rfl (a0u (ns:=[0,1]) (ac:=[.ptr 0 0,.func (.func 44) [.ptr 0 0] []]) (Hc:=[(0,.row [.int .u32 0,.int .i32 0,.int .u32 0,.nilIface,.slice (.tag 1) 8 pairs]),(1,.tip 1 8)]) rfl (by kernel_rfl) do_E (by kernel_rfl) (by kernel_rfl) (by kernel_rfl)) ?_
 refine o5 ?_
 refine j4 ?_
 refine j3 ?_
 refine d9 rfl rfl rfl ?_
 refine d9 rfl rfl rfl ?_
 refine d9 rfl rfl rfl ?_
 refine F8 rfl rfl rfl (v:=.iface 121 (.ptr 704 0)) (by kernel_rfl) ?_
 refine d9 rfl rfl rfl ?_
 refine b1A (g:=126) (v:=.str (esc s)) (H1:=[(0,.row [.int .u32 1,.int .i32 0,.int .u32 0,.iface 121 (.ptr 704 0),.slice .nil 0 []]),(1,.tip 1 8),(704,.row ((List.range 256).map cell ++ [.rslice 705 0 4 true])),(705,.grow 1 TR)]) rfl rfl rfl rfl rfl (a8U (ns:=[704,705]) (ac:=[.ptr 0 0,.str s]) (Hc:=[(0,.row RR),(1,.grow 1 TR)]) rfl (by kernel_rfl) (bs_E s hs) (by kernel_rfl) (by kernel_rfl) (by kernel_rfl)) ?_
 refine d9 rfl rfl rfl ?_
 refine o5 ?_
 exact j5 ⟨.str (esc s),by kernel_rfl,by kernel_rfl⟩
theorem esc_E (s:List UInt8) (hs:s.length <= 1000000):E env (.call 16 [.str s]) [] = some (.ret (.str (esc s)) []):=by
 refine y9 (env:=env) rfl Tryz.func16 rfl rfl ?_
 refine j4 ?_
 refine j3 ?_
 refine d9 rfl rfl rfl ?_
 refine o5 ?_
 refine j4 ?_
 refine j3 ?_
 refine d9 rfl rfl rfl ?_
 refine a3m (v:=.ptr 320 0) (H1:=[(320,.row [.int .u32 0,.int .i32 0,.int .u32 0,.nilIface,.slice (.tag 321) 8 pairs]),(321,.tip 1 8)]) rfl rfl rfl (a0u (ns:=[]) (ac:=[.slice .sealed 8 pairs]) (Hc:=[]) rfl (by kernel_rfl) nr_E (by kernel_rfl) (by kernel_rfl) (by kernel_rfl)) ?_
 refine d9 rfl rfl rfl ?_
 refine a3m (v:=.str (esc s)) (H1:=[(320,.row [.int .u32 1,.int .i32 0,.int .u32 0,.iface 121 (.ptr 448 0),.slice .nil 0 []]),(321,.tip 1 8),(448,.row ((List.range 256).map cell ++ [.rslice 449 0 4 true])),(449,.grow 1 TR)]) rfl rfl rfl (a0u (ns:=[320,321]) (ac:=[.ptr 0 0,.str s]) (Hc:=[(0,.row [.int .u32 0,.int .i32 0,.int .u32 0,.nilIface,.slice (.tag 1) 8 pairs]),(1,.tip 1 8)]) rfl (by kernel_rfl) (rp_E s hs) (by kernel_rfl) (by kernel_rfl) (by kernel_rfl)) ?_
 refine d9 rfl rfl rfl ?_
 refine o5 ?_
 exact j5 ⟨.str (esc s),by kernel_rfl,by kernel_rfl⟩
def escF:List V -> Option V:=fun args=>match args with
 | [.str s]=>match leN s.length 1000000 with
  | true=>some (.str (esc s))
  | false=>none
 | _=>none
theorem esc_intr:a3H Tryz.prog 16 (valI escF):=by
 refine a8S a7p (fun args v h=>?_) ⟨_,_,Tryz.func16,by kernel_rfl,rfl⟩
 unfold escF at h
 split at h
 ·rename_i s
  split at h
  ·rename_i hs
   cases h
   exact ⟨rfl,rfl,esc_E s (a0k hs)⟩
  ·cases h
 ·cases h
end Go.Proofs.YtlhgheonlcjpaaaGreat.Rp
namespace Go.Vm
open Go
section
variable {env:Env} {orc:Orc} {ops:Array Oper} {o:Oper} {rest:List Oper} {fr:Fr} {H H1:Hp} {K:Res -> Prop}
def mkOk (bytes:Nat) (c:Int):Bool:=leB 0 c && leB (c * ((bytes:Int) + 1)) 70368744177664
theorem os_mk0 {sz bytes:Nat} {t e:Nat} {l c:Operand} {kl kc:IntKind} {n:Int} {y ye:Ty} (hx:mkOk bytes n = true)
  (hw:p8 ops o fr = some true) (ho:o.op = .makeSlice t l c) (hm:env.mk0 = true) (hl:ev fr l = some (.int kl 0)) (hc:ev fr c = some (.int kc n))
  (h1:D6 t env.T = some y) (h3:y.sh = .slice e) (h5:D6 e env.T = some ye) (h6:ye.size = sz) (h7:ye.bytes = bytes) (h8:Nat.beq sz 0 = false)
  (h10:hget (newName o) H = none) (hH:X8 (some (hset (newName o) (.tip sz 0) H)) = some H1)
  (h:Os env orc ops rest (I6 o.dst (.slice (.tag (newName o)) 0 []) fr) H1 K):Os env orc ops (o :: rest) fr H K:=by
 have hp:D5 o.op = false:=by rw [ho]; rfl
 rw [V6,Option.some.injEq] at hH
 subst hH h6 h7
 refine Q7 hw hp ?_ h
 unfold E5
 rw [ho]
 have hz:(env.mk0 && isZero (.int kl 0)) = true:=by rw [hm]; rfl
 simp only [hl,hc,hz,a6Z,h1,h3,h5,h10,h8]
 exact a0W hx rfl
theorem os_appK {α:Type} {sz:Nat} {c1:α -> List V} {cl:List α -> List V} (he:a0q sz c1 cl) {l m x:List α} {bytes:Nat} {args:Array Operand} {at_:Array TypeId} {a b:Operand} {t xt e g:Nat} {y yx ye:Ty} {v:V} (hx:app bytes l m = some x)
  (hw:p8 ops o fr = some true) (ho:o.op = .call ⟨.builtin .append,args,at_⟩)
  (ha:args.toList = [a,b]) (ht:at_.toList = [t,xt]) (hs:ev fr a = some (.slice (.tag g) l.length (cl l))) (hv:ev fr b = some v)
  (h1:D6 t env.T = some y) (h2:D6 xt env.T = some yx) (h3:y.sh = .slice e) (h4:a6n yx.sh = true) (h5:D6 e env.T = some ye) (h6:ye.size = sz) (h7:ye.bytes = bytes) (h8:Nat.beq sz 0 = false)
  (h9:a4H env.T e v H = some (m.length,cl m)) (hm:Nat.beq m.length 0 = false) (h10:hget g H = some (.tip sz l.length)) (hH:X8 (some (hset g (.tip sz x.length) H)) = some H1)
  (h:Os env orc ops rest (I6 o.dst (.slice (.tag g) x.length (cl x)) fr) H1 K):Os env orc ops (o :: rest) fr H K:=by
 have hp:D5 o.op = false:=by rw [ho]; rfl
 obtain ⟨g1,rfl⟩:=b0N hx
 rw [V6,Option.some.injEq] at hH
 subst hH h6 h7
 refine Q7 hw hp ?_ h
 unfold E5
 rw [ho]
 simp only [ha,ht,hs,hv]
 rw [a8h h1 h2 h3 h4 h5 h9 hm h10 (.inr rfl) h8 (he.length l).symm g1,he.append,List.length_append]
end
end Go.Vm
namespace Go.Proofs.YtlhgheonlcjpaaaGreat
open Go Go.Vm
def cvTok (t:Sc.Tok):Tok:=⟨t.k,t.t,(t.a:Nat),(t.l:Nat)⟩
def a4E:Sc.MR -> List Tok
 | .done l=>l.map cvTok
 | _=>[]
def a2X:Sc.MR -> Int
 | .err c _=>c
 | _=>0
def tokA:Sc.MR -> Int
 | .err _ a=>(a:Nat)
 | _=>0
theorem a8W:∀ l:List Sc.Tok,M0 (l.map cvTok) = Sc.M5 l
 | []=>rfl
 | t :: r=>by
  rw [List.map_cons,R5.cons,a8W r]
  rfl
theorem tokV_cv {r:Sc.MR} (h:Sc.RBd r):Sc.a2Z r = .tuple [.slice .sealed (List.length (a4E r)) (M0 (a4E r)),.agg [.int .i64 (a2X r),.int .i64 (tokA r)]]:=by
 cases r with
 | go x=>exact h.elim
 | done l =>
  simp only [a4E,Sc.a2Z,a8W,List.length_map,a2X,tokA]
 | err c a=>rfl
theorem a9F {env:Env} {g:Nat} {s:Str} (hi:env.intr g = some (.plain (valI Sc.tokF))) (h:Sc.RBd (Sc.Z7 s)) :
  E env (.call g [.str s]) [] = some (.ret (.tuple [.slice .sealed (List.length (a4E (Sc.Z7 s))) (M0 (a4E (Sc.Z7 s))),.agg [.int .i64 (a2X (Sc.Z7 s)),.int .i64 (tokA (Sc.Z7 s))]]) []):=by
 refine a5I hi ?_
 rw [<- tokV_cv h]
 rfl
theorem a9G (s:Str):(a2X (Sc.Z7 s) = 0 /\ tokA (Sc.Z7 s) = 0) ∨ (a2X (Sc.Z7 s) ≠ 0 /\ a4E (Sc.Z7 s) = []):=by
 have h:=(Sc.a2Y s).1
 generalize Sc.Z7 s = r at h
 cases r with
 | go x=>exact h.bd.elim
 | done l=>exact .inl ⟨rfl,rfl⟩
 | err c a=>exact .inr ⟨h.nz c a rfl,rfl⟩
theorem a6Y (s:Str):(a4E (Sc.Z7 s)).length <= 3000:=by
 have h:=(Sc.a2t s).1
 generalize Sc.Z7 s = r at h
 cases r with
 | go x=>exact h.elim
 | done l=>simpa [a4E,Sc.RBd] using h
 | err c a=>simp [a4E]
end Go.Proofs.YtlhgheonlcjpaaaGreat
namespace Go.Proofs.YtlhgheonlcjpaaaGreat
open Go Go.Vm
noncomputable def a0D (src1:Str):Option (List Tok × Int × Int):=some (a4E (Sc.Z7 src1),a2X (Sc.Z7 src1),tokA (Sc.Z7 src1))
def a9e (elems1:List Str) (sep2:Str):Option Str:=match leN elems1.length 140737488355328 && leN (Lib.join elems1 sep2).length 140737488355328 with
 | true=>some (Lib.join elems1 sep2)
 | false=>none
def escG (s1:Str):Option Str:=match leN s1.length 1000000 with
 | true=>some (Rp.esc s1)
 | false=>none
end Go.Proofs.YtlhgheonlcjpaaaGreat
namespace Go.Proofs.YtlhgheonlcjpaaaGreat
open Go Go.Vm
noncomputable def a0H:Option (Bool) :=
 (a0D [108,101,116,32,120]).bind fun (l1,c2,a3) =>
 cond ((eqB c2 0) && ((eqB a3 0) && true)) (
 cond (eqB (List.length l1:Int) 2) (
 (idx' l1 0).bind fun x4 =>
 cond ((eqB x4.kind 9) && ((eqS x4.text [108,101,116]) && ((eqB x4.at_ 0) && ((eqB x4.len 3) && true)))) (
 (idx' l1 1).bind fun x5 =>
 some (((eqB x5.kind 1) && ((eqS x5.text [120]) && ((eqB x5.at_ 4) && ((eqB x5.len 1) && true)))))) (
 some (false))) (
 some (false))) (
 some (false))
def a5C:Bool -> Out
 | r501=>.ret (.bool r501) []
def a0n (t1:Tok):Option (Str) :=
 cond (eqB t1.kind 4) (
 (escG t1.text).bind fun rr2 =>
 (cat [34] rr2).bind fun s3 =>
 (cat s3 [34]).bind fun s4 =>
 some (s4)) (
 cond (eqB t1.kind 5) (
 (escG t1.text).bind fun rr5 =>
 (cat [34] rr5).bind fun s6 =>
 (cat s6 [92,40]).bind fun s7 =>
 some (s7)) (
 cond (eqB t1.kind 6) (
 (escG t1.text).bind fun rr8 =>
 (cat [41] rr8).bind fun s9 =>
 (cat s9 [92,40]).bind fun s10 =>
 some (s10)) (
 cond (eqB t1.kind 7) (
 (escG t1.text).bind fun rr11 =>
 (cat [41] rr11).bind fun s12 =>
 (cat s12 [34]).bind fun s13 =>
 some (s13)) (
 some (t1.text)))))
def a5f (t1:Tok):Str -> Out
 | r501=>.ret (.str r501) []
noncomputable def N8 (n:Nat) (l1:List Tok):Nat -> (List Str) -> Int -> Int -> Option (Lr (List Str) (Str × Int))
  | 0,_,_,_=>none
  | m6 + 1,a6G,a8K,x503 =>
      cond (ltB x503 (List.length l1:Int)) (
      (idx' l1 x503).bind fun x2 =>
      cond (ltB 8000 (List.length x2.text:Int)) (
      some (.out (([],4)))) (
      (a0n x2).bind fun r3 =>
      cond (ltB 8001 (w64 (a8K + (w64 ((List.length r3:Int) + 1))))) (
      some (.out (([],4)))) (
      (app 16 a6G ([r3]:List Str)).bind fun l4 =>
      N8 n l1 m6 l4 (w64 (a8K + (w64 ((List.length r3:Int) + 1)))) (w64 (x503 + 1))))) (
      some (.brk a6G))
noncomputable def L9 (n:Nat) (l1:List Tok) (l6:List Tok):Nat -> Int -> Option (Lr (Unit) (Str × Int))
  | 0,_=>none
  | m21 + 1,x514 =>
      cond (ltB x514 (List.length l6:Int)) (
      (idx' l6 x514).bind fun x9 =>
      Option.bind (α:=Bool) (
      (idx' l1 x514).bind fun x10 =>
      cond (!eqB x9.kind x10.kind) (
      some true) (
      (idx' l1 x514).bind fun x11 =>
      some (!eqS x9.text x11.text))) fun x523 =>
      cond x523 (
      some (.out (([],4)))) (
      L9 n l1 l6 m21 (w64 (x514 + 1)))) (
      some (.brk ()))
noncomputable def a1e (n:Nat) (l1:List Tok):Option (Str × Int) :=
 cond (ltB 3000 (List.length l1:Int)) (
 some (([],4))) (
 gdO (mkOk 16 (List.length l1:Int)) <|
 a5Z (α:=List Str) (
 N8 n l1 n ([]:List Str) 0 0) fun a9t =>
 (a9e a9t [32]).bind fun rr5 =>
 (a0D rr5).bind fun (l6,c7,a8) =>
 Option.bind (α:=Bool) (
 cond (!((eqB c7 0) && ((eqB a8 0) && true))) (
 some true) (
 some (!eqB (List.length l6:Int) (List.length l1:Int)))) fun x504 =>
 cond x504 (
 some (([],4))) (
 a5Z (α:=Unit) (
 L9 n l1 l6 n 0) fun _ =>
 some ((rr5,0))))
def a1f (l1:List Tok):Str × Int -> Out
 | (r515,r516)=>.ret (.tuple [.str r515,.i r516]) []
def O0 (n:Nat) (s1:Str):Nat -> (List Int) -> Int -> Option (List Int)
  | 0,_,_=>none
  | m3 + 1,b503,i504 =>
      cond (ltB i504 (List.length s1:Int)) (
      Option.bind (α:=List Int) (
      (idxS s1 i504).bind fun b2 =>
      cond (eqB b2 10) (
      (app 1 b503 ([92,110]:List Int)).bind fun l3 =>
      some l3) (
      cond (eqB b2 9) (
      (app 1 b503 ([92,116]:List Int)).bind fun l4 =>
      some l4) (
      Option.bind (α:=Bool) (
      cond (eqB b2 92) (
      some (eqB b2 92)) (
      some (eqB b2 34))) fun x507 =>
      cond x507 (
      (idxS s1 i504).bind fun b5 =>
      (app 1 b503 ([92,b5]:List Int)).bind fun l6 =>
      some l6) (
      (idxS s1 i504).bind fun b7 =>
      (app 1 b503 ([b7]:List Int)).bind fun l8 =>
      some l8)))) fun b508 =>
      O0 n s1 m3 b508 (w64 (i504 + 1))) (
      some b503)
def K9 (n:Nat) (s1:Str):Option (Str) :=
 Option.bind (α:=List Int) (
 O0 n s1 n ([]:List Int) 0) fun b511 =>
 some ((bytesOf b511))
def a4t (s1:Str):Str -> Out
 | r512=>.ret (.str r512) []
def Z5 (n:Nat) (t1:Tok):Option (Str) :=
 cond (eqB t1.kind 4) (
 (K9 n t1.text).bind fun r2 =>
 (cat [34] r2).bind fun s3 =>
 (cat s3 [34]).bind fun s4 =>
 some (s4)) (
 cond (eqB t1.kind 5) (
 (K9 n t1.text).bind fun r5 =>
 (cat [34] r5).bind fun s6 =>
 (cat s6 [92,40]).bind fun s7 =>
 some (s7)) (
 cond (eqB t1.kind 6) (
 (K9 n t1.text).bind fun r8 =>
 (cat [41] r8).bind fun s9 =>
 (cat s9 [92,40]).bind fun s10 =>
 some (s10)) (
 cond (eqB t1.kind 7) (
 (K9 n t1.text).bind fun r11 =>
 (cat [41] r11).bind fun s12 =>
 (cat s12 [34]).bind fun s13 =>
 some (s13)) (
 some (t1.text)))))
def a4u (t1:Tok):Str -> Out
 | r501=>.ret (.str r501) []
def A9 (n:Nat) (l1:List Tok):Nat -> Str -> Int -> Option (Lr (Str) (Str × Bool))
  | 0,_,_=>none
  | m3 + 1,s504,i505 =>
      cond (ltB i505 (List.length l1:Int)) (
      Option.bind (α:=Str) (
      cond (ltB 0 i505) (
      (cat s504 [32]).bind fun s2 =>
      some s2) (
      some s504)) fun s509 =>
      Option.bind (α:=Bool) (
      (idx' l1 i505).bind fun x3 =>
      cond (ltB 8000 (List.length x3.text:Int)) (
      some true) (
      some (ltB 8000 (List.length s509:Int)))) fun x510 =>
      cond x510 (
      some (.out (([],false)))) (
      (idx' l1 i505).bind fun x4 =>
      (Z5 n x4).bind fun r5 =>
      (cat s509 r5).bind fun s6 =>
      A9 n l1 m3 s6 (w64 (i505 + 1)))) (
      some (.brk s504))
def P9 (n:Nat) (l1:List Tok):Option (Str × Bool) :=
 a5Z (α:=Str) (
 A9 n l1 n [] 0) fun s513 =>
 some ((s513,(leB (List.length s513:Int) 8000)))
def a1B (l1:List Tok):Str × Bool -> Out
 | (r514,r515)=>.ret (.tuple [.str r514,.bool r515]) []
def I5 (n:Nat) (a1:List Tok) (b2:List Tok) (places3:Bool):Nat -> Int -> Option (Lr (Unit) (Bool))
  | 0,_=>none
  | m4 + 1,a5B =>
      cond (ltB a5B (List.length a1:Int)) (
      Option.bind (α:=Bool) (
      (idx' a1 a5B).bind fun x4 =>
      (idx' b2 a5B).bind fun x5 =>
      cond (!eqB x4.kind x5.kind) (
      some true) (
      (idx' a1 a5B).bind fun x6 =>
      (idx' b2 a5B).bind fun x7 =>
      cond (!eqS x6.text x7.text) (
      some true) (
      cond places3 (
      (idx' a1 a5B).bind fun x8 =>
      (idx' b2 a5B).bind fun x9 =>
      cond (!eqB x8.at_ x9.at_) (
      some true) (
      (idx' a1 a5B).bind fun x10 =>
      (idx' b2 a5B).bind fun x11 =>
      some (!eqB x10.len x11.len))) (
      some false)))) fun x505 =>
      cond x505 (
      some (.out (false))) (
      I5 n a1 b2 places3 m4 (w64 (a5B + 1)))) (
      some (.brk ()))
def X3 (n:Nat) (a1:List Tok) (b2:List Tok) (places3:Bool):Option (Bool) :=
 cond (!eqB (List.length a1:Int) (List.length b2:Int)) (
 some (false)) (
 a5Z (α:=Unit) (
 I5 n a1 b2 places3 n 0) fun _ =>
 some (true))
def a1c (a1:List Tok) (b2:List Tok) (places3:Bool):Bool -> Out
 | r503=>.ret (.bool r503) []
noncomputable def a0K (n:Nat) (l1:List Tok):Option (Str × Int) :=
 (P9 n l1).bind fun (r2,r3) =>
 cond (!r3) (
 some (([],4))) (
 (a0D r2).bind fun (l4,c5,a6) =>
 Option.bind (α:=Bool) (
 cond (!eqB c5 0) (
 some true) (
 (X3 n l1 l4 false).bind fun r7 =>
 some (!r7))) fun x501 =>
 cond x501 (
 some (([],4))) (
 some ((r2,0))))
def a5E (l1:List Tok):Str × Int -> Out
 | (r502,r503)=>.ret (.tuple [.str r502,.i r503]) []
noncomputable def I4 (n:Nat) (l1:List Tok):Nat -> Int -> Int -> Option (Lr (Unit) (Bool))
  | 0,_,_=>none
  | m3 + 1,n502,i503 =>
      cond (ltB i503 (List.length l1:Int)) (
      Option.bind (α:=Bool) (
      cond (eqB i503 3100) (
      some true) (
      (idx' l1 i503).bind fun x2 =>
      some (ltB (w64 (12000 - n502)) (List.length x2.text:Int)))) fun x506 =>
      cond x506 (
      some (.out (true))) (
      (idx' l1 i503).bind fun x3 =>
      I4 n l1 m3 (w64 (n502 + (List.length x3.text:Int))) (w64 (i503 + 1)))) (
      some (.brk ()))
noncomputable def X9 (n:Nat) (l1:List Tok):Option (Bool) :=
 a5Z (α:=Unit) (
 I4 n l1 n 0 0) fun _ =>
 (a1e n l1).bind fun (r4,r5) =>
 (a0K n l1).bind fun (r6,r7) =>
 cond (eqS r4 r6) (
 cond (eqB r5 r7) (
 (a0H).bind fun r8 =>
 some (r8)) (
 some (false))) (
 some (false))
def a0G (l1:List Tok):Bool -> Out
 | r509=>.ret (.bool r509) []
end Go.Proofs.YtlhgheonlcjpaaaGreat
namespace Go.Proofs.YtlhgheonlcjpaaaGreat.Sc
open Go Go.Vm
def okB (b:UInt8):Bool:=decide (32 <= b.toNat) || decide (b.toNat = 10) || decide (b.toNat = 9)
theorem getD_drop (q:List UInt8) (i k:Nat):q.getD (i + k) 0 = (q.drop i).getD k 0:=by
 rw [List.getD_eq_getElem?_getD,List.getD_eq_getElem?_getD,List.getElem?_drop]
theorem b1p {q:List UInt8} {i:Nat} {a z:List UInt8} (h:q.drop i = a ++ z) {k:Nat} (hk:a.length = k):q.drop (i + k) = z:=by
 subst hk
 rw [<- List.drop_drop,h,List.drop_left]
theorem a8N {b:UInt8} {n:Nat} (h:b.toNat = n):b = UInt8.ofNat n:=by rw [<- h]; simp
theorem Z4 {q:List UInt8} {o ins:Nat}:∀ (r z:List UInt8) (i:Nat) (text:List UInt8),q.drop i = Rp.esc r ++ z -> r.all okB = true -> part q o ins i text = part q o ins (i + (Rp.esc r).length) (text ++ r)
 | [],z,i,text,hd,_=>by simp [Rp.esc]
 | b :: r,z,i,text,hd,hok=>by
  rw [List.all_cons,Bool.and_eq_true] at hok
  rw [Rp.V5] at hd
  have hlen:i + ((Rp.Y3 b).length + (Rp.esc r).length + z.length) <= q.length ∨ q.length < i:=by
   have:=congrArg List.length hd
   rw [List.length_drop] at this
   simp only [List.length_append] at this
   omega
  have h0:=getD_drop q i 0
  have h1:=getD_drop q i 1
  rw [hd] at h0 h1
  have hl1:=Rp.a4c b
  have hlen:i + ((Rp.Y3 b).length + (Rp.esc r).length + z.length) <= q.length:=by
   rcases hlen with h | h
   ·exact h
   ·rw [List.drop_eq_nil_of_le (by omega)] at hd
    have:=congrArg List.length hd
    simp only [List.length_append,List.length_nil] at this; omega
  have fin:∀ k,(Rp.Y3 b).length = k -> q.drop (i + k) = Rp.esc r ++ z:=fun k hk=>b1p (by rw [hd,List.append_assoc]) hk
  by_cases c1:b = 10
  ·subst c1
   have e:Rp.Y3 10 = [92,110]:=rfl
   rw [e] at h0 h1 hlen
   simp only [List.length_cons,List.length_nil] at hlen
   rw [b0q (by omega) (by rw [show q.getD i 0 = 92 from h0]; decide) (by rw [show q.getD i 0 = 92 from h0]; rfl) (by rw [show q.getD (i + 1) 0 = 110 from h1]; rfl),Z4 r z (i + 2) _ (fin 2 rfl) hok.2]
   rw [Rp.V5,e]; simp; congr 1; omega
  by_cases c2:b = 9
  ·subst c2
   have e:Rp.Y3 9 = [92,116]:=rfl
   rw [e] at h0 h1 hlen
   simp only [List.length_cons,List.length_nil] at hlen
   rw [b0r (by omega) (by rw [show q.getD i 0 = 92 from h0]; decide) (by rw [show q.getD i 0 = 92 from h0]; rfl) (by rw [show q.getD (i + 1) 0 = 116 from h1]; rfl),Z4 r z (i + 2) _ (fin 2 rfl) hok.2]
   rw [Rp.V5,e]; simp; congr 1; omega
  by_cases c3:b = 92
  ·subst c3
   have e:Rp.Y3 92 = [92,92]:=rfl
   rw [e] at h0 h1 hlen
   simp only [List.length_cons,List.length_nil] at hlen
   rw [a10 (by omega) (by rw [show q.getD i 0 = 92 from h0]; decide) (by rw [show q.getD i 0 = 92 from h0]; rfl) (.inl (by rw [show q.getD (i + 1) 0 = 92 from h1]; rfl)),Z4 r z (i + 2) _ (fin 2 rfl) hok.2,show q.getD (i + 1) 0 = 92 from h1]
   rw [Rp.V5,e]; simp; congr 1; omega
  by_cases c4:b = 34
  ·subst c4
   have e:Rp.Y3 34 = [92,34]:=rfl
   rw [e] at h0 h1 hlen
   simp only [List.length_cons,List.length_nil] at hlen
   rw [a10 (by omega) (by rw [show q.getD i 0 = 92 from h0]; decide) (by rw [show q.getD i 0 = 92 from h0]; rfl) (.inr (by rw [show q.getD (i + 1) 0 = 34 from h1]; rfl)),Z4 r z (i + 2) _ (fin 2 rfl) hok.2,show q.getD (i + 1) 0 = 34 from h1]
   rw [Rp.V5,e]; simp; congr 1; omega
  have e:Rp.Y3 b = [b]:=by simp only [Rp.Y3,if_neg c1,if_neg c2,if_neg c3,if_neg c4]
  rw [e] at h0 h1 hlen
  simp only [List.length_cons,List.length_nil] at hlen
  have hb:32 <= b.toNat:=by
   have:=hok.1
   simp only [okB,Bool.or_eq_true,decide_eq_true_eq] at this
   rcases this with (h | h) | h
   ·exact h
   ·exact absurd (a8N h) c1
   ·exact absurd (a8N h) c2
  have h0:q.getD i 0 = b:=h0
  rw [a4Y (by omega) (by rw [h0]; exact hb) (by rw [h0]; intro h; exact c4 (a8N (n:=34) h)) (by rw [h0]; intro h; exact c3 (a8N (n:=92) h)),Z4 r z (i + 1) _ (fin 1 (by rw [e]; rfl)) hok.2,h0]
  rw [Rp.V5,e]; simp; congr 1; omega
def spK (k:Int) (x:List UInt8):List UInt8 :=
 if k = 4 then 34 :: (Rp.esc x ++ [34]) else if k = 5 then 34 :: (Rp.esc x ++ [92,40]) else if k = 6 then 41 :: (Rp.esc x ++ [92,40]) else if k = 7 then 41 :: (Rp.esc x ++ [34]) else x
def closeS (b:Nat):List Int -> Bool
 | []=>false
 | p :: _=>decide (p = 0) && decide (b = 41)
def bumpS (w:List UInt8):List Int -> List Int
 | []=>[]
 | p :: r=>match decide (w = [40]) with
  | true=>(p + 1) :: r
  | false=>match decide (w = [41]) with
   | true=>(p - 1) :: r
   | false=>p :: r
inductive TS:List Int -> Int -> List UInt8 -> List Int -> Prop
 | tail (x:List UInt8) (st:List Int) (h:x.all okB = true):TS (0 :: st) 7 x st
 | mid (x:List UInt8) (st:List Int) (h:x.all okB = true) (h2:st.length < 3):TS (0 :: st) 6 x (0 :: st)
 | text (x:List UInt8) (st:List Int) (h:x.all okB = true):TS st 4 x st
 | head (x:List UInt8) (st:List Int) (h:x.all okB = true) (h2:st.length < 3):TS st 5 x (0 :: st)
 | int (w:List UInt8) (st:List Int) (h:w ≠ []) (h1:w.all u6 = true) (h2:∀ c,G7 c = false -> E9 w c = false):TS st 3 w st
 | name (w:List UInt8) (st:List Int) (h:w ≠ []) (h0:G7 (w.headD 0) = true) (h1:w.all F9 = true) (h2:ltB 24 (w.length:Nat) = false):TS st (V8 w) w st
 | sign (w:List UInt8) (st:List Int) (h:a3s J8 w = true) (h1:closeS (w.headD 0).toNat st = false):TS st 8 w (bumpS w st)
end Go.Proofs.YtlhgheonlcjpaaaGreat.Sc
namespace Go.Proofs.YtlhgheonlcjpaaaGreat
open Go Go.Vm
theorem a7a {a:Int} (h1:-9223372036854775808 <= a) (h2:a <= 9223372036854775807):w64 a = a:=by
 unfold w64
 simp only [IntKind.wrap,IntKind.bits,IntKind.signed]
 simp
 omega
theorem a1p {k:Nat} (h:k <= 1000000):w64 ((k:Int) + 1) = ((k + 1:Nat):Int):=by rw [a7a (by omega) (by omega)]; rfl
theorem a0P {a b:Int} (h:a < b):ltB a b = true:=by simp [ltB,h]
theorem a0O {a b:Int} (h:¬ a < b):ltB a b = false:=by simp [ltB,h]
theorem U8 {a b:Int} (h:a = b):eqB a b = true:=by simp [eqB,h]
theorem O1 {a b:Int} (h:¬ a = b):eqB a b = false:=by simp [eqB,h]
theorem a2I (s:Str):eqS s s = true:=by simp [eqS]
theorem a2i {α:Type} {l:List α} {i:Nat} (h:i < l.length):idx' l (i:Int) = some l[i]:=by
 have h1:inR (i:Int) l.length = true:=by simp [inR,h]
 simp [idx',h1,h]
theorem idxS_ok {s:Str} {i:Nat} (h:i < s.length):idxS s (i:Int) = some (((s.getD i 0).toNat:Nat):Int):=by
 have h1:inR (i:Int) s.length = true:=by simp [inR,h]
 simp [idxS,h1]
theorem a9M {α:Type} {b:Nat} {l m:List α} (h:(l.length + m.length) * (b + 1) <= 70368744177664):app b l m = some (l ++ m):=by
 unfold app leN
 rw [decide_eq_true h]
theorem a6b {a b:Str} (h:a.length + b.length <= 9223372036854775807):cat a b = some (a ++ b):=by
 have:leB ((a.length + b.length:Nat):Int) 9223372036854775807 = true:=by simp only [leB,decide_eq_true_eq]; omega
 simp only [cat,this]
theorem a9R (s:Str):bytesOf (Y4 s) = s:=by
 simp [bytesOf,Y4,List.map_map,Function.comp_def]
theorem ints_app (a b:Str):Y4 (a ++ b) = Y4 a ++ Y4 b:=by simp [Y4]
theorem ints_len (a:Str):(Y4 a).length = a.length:=by simp [Y4]
theorem a4d {b:UInt8} {n:Nat} (h:b.toNat = n) (hn:n < 256):b = UInt8.ofNat n:=by rw [<- h]; simp
theorem one_step {b:UInt8} {l:List Int} (hl:l.length <= 1000000):(cond (eqB ((b.toNat:Nat):Int) 10) ((app 1 l ([92,110]:List Int)).bind fun l3=>some l3) (
      cond (eqB ((b.toNat:Nat):Int) 9) ((app 1 l ([92,116]:List Int)).bind fun l4=>some l4) (
      Option.bind (α:=Bool) (cond (eqB ((b.toNat:Nat):Int) 92) (some (eqB ((b.toNat:Nat):Int) 92)) (some (eqB ((b.toNat:Nat):Int) 34))) fun x507 =>
      cond x507 ((app 1 l ([92,((b.toNat:Nat):Int)]:List Int)).bind fun l6=>some l6) ((app 1 l ([((b.toNat:Nat):Int)]:List Int)).bind fun l8=>some l8)))) = some (l ++ Y4 (Rp.Y3 b)):=by
  have a2:∀ x y:Int,app 1 l [x,y] = some (l ++ [x,y]):=fun x y=>a9M (by simp only [List.length_cons,List.length_nil]; omega)
  have a1:∀ x:Int,app 1 l [x] = some (l ++ [x]):=fun x=>a9M (by simp only [List.length_cons,List.length_nil]; omega)
  simp only [a2,a1,Option.bind_some]
  by_cases h1:b.toNat = 10
  · have:=a4d h1 (by omega); subst this; simp [eqB,Rp.Y3,Y4]
  by_cases h2:b.toNat = 9
  · have:=a4d h2 (by omega); subst this; simp [eqB,Rp.Y3,Y4]
  by_cases h3:b.toNat = 92
  · have:=a4d h3 (by omega); subst this; simp [eqB,Rp.Y3,Y4]
  by_cases h4:b.toNat = 34
  · have:=a4d h4 (by omega); subst this; simp [eqB,Rp.Y3,Y4]
  rw [O1 (a:=((b.toNat:Nat):Int)) (b:=10) (by omega),O1 (a:=((b.toNat:Nat):Int)) (b:=9) (by omega),O1 (a:=((b.toNat:Nat):Int)) (b:=92) (by omega),O1 (a:=((b.toNat:Nat):Int)) (b:=34) (by omega)]
  have e:Rp.Y3 b = [b]:=by
    unfold Rp.Y3
    rw [if_neg (fun e=>h1 (by rw [e]; rfl)),if_neg (fun e=>h2 (by rw [e]; rfl)),if_neg (fun e=>h3 (by rw [e]; rfl)),if_neg (fun e=>h4 (by rw [e]; rfl))]
  rw [e]; rfl
theorem a7q {s:Str} (hs:s.length <= 100000) (n:Nat):∀ (m i:Nat),i <= s.length -> s.length - i < m -> O0 n s m (Y4 (Rp.esc (s.take i))) i = some (Y4 (Rp.esc s))
 | 0,i,_,h=>absurd h (by omega)
 | m + 1,i,hi,hm=>by
  rw [O0]
  by_cases h:i < s.length
  ·have hl:=Rp.a1E (s.take i)
   rw [List.length_take] at hl
   rw [a0P (by omega),cond_true,idxS_ok h]
   simp only [Option.bind_some]
   rw [one_step (by rw [ints_len]; omega),Option.bind_some,a1p (by omega),<- ints_app,<- Rp.a2J h]
   exact a7q hs n m (i + 1) (by omega) (by omega)
  ·rw [a0O (by omega),cond_false,List.take_of_length_le (by omega)]
theorem a96 {s:Str} (hs:s.length <= 100000) {n:Nat} (hn:s.length < n):K9 n s = some (Rp.esc s):=by
 have h:=a7q hs n n 0 (Nat.zero_le _) (by omega)
 rw [K9,show ([]:List Int) = Y4 (Rp.esc (s.take 0)) from rfl,show (0:Int) = ((0:Nat):Int) from rfl,h,Option.bind_some,a9R]
theorem a3b {α ρ:Type} {a:α} {k:α -> Option ρ}:a5Z (some (.brk a)) k = k a:=rfl
theorem awake_ok:a0H = some true:=by
 have h:Sc.Z7 [108,101,116,32,120] = .done [⟨9,[108,101,116],0,3⟩,⟨1,[120],4,1⟩]:=by
  have h:=(Sc.a2Y [108,101,116,32,120]).2.2.2 (by decide)
  exact Sc.Ends.det _ h (Sc.a7O _ (f:=5) (by kernel_rfl))
 rw [a0H]
 unfold a0D
 rw [h]
 simp only [Option.bind_some,a4E,a2X,tokA,List.map_cons,List.map_nil]
 have e0:∀ a b:Tok,idx' [a,b] 0 = some a:=fun a b=>a2i (l:=[a,b]) (i:=0) (by simp)
 have e1:∀ a b:Tok,idx' [a,b] 1 = some b:=fun a b=>a2i (l:=[a,b]) (i:=1) (by simp)
 rw [e0,e1]
 simp only [Option.bind_some,cvTok]
 rw [U8 (a:=0) rfl,show ∀ a b:Tok,(([a,b]:List Tok).length:Int) = 2 from fun _ _=>rfl,U8 (a:=2) rfl,U8 (a:=9) rfl,U8 (a:=((0:Nat):Int)) (b:=0) rfl,U8 (a:=((3:Nat):Int)) (b:=3) rfl,U8 (a:=1) rfl,U8 (a:=((4:Nat):Int)) (b:=4) rfl,U8 (a:=((1:Nat):Int)) (b:=1) rfl,a2I,a2I]
 rfl
theorem eqS_f {a b:Str} (h:¬ a = b):eqS a b = false:=by simp [eqS,h]
def spl (t:Tok):Str:=Sc.spK t.kind t.text
theorem spl_p {t:Tok} (h:t.text.length <= 100000):a0n t = some (spl t):=by
 have e:escG t.text = some (Rp.esc t.text):=by simp only [escG,a09 (show t.text.length <= 1000000 by omega)]
 have hl:=Rp.a1E t.text
 have cc:∀ a b:Str,a.length <= 300000 -> b.length <= 300000 -> cat a b = some (a ++ b):=fun a b h1 h2=>a6b (by omega)
 rw [a0n]
 unfold spl Sc.spK
 by_cases h4:t.kind = 4
 ·rw [U8 h4,cond_true,e,Option.bind_some,cc _ _ (by decide) (by omega),Option.bind_some,cc _ _ (by simp; omega) (by decide),Option.bind_some,if_pos h4]; rfl
 by_cases h5:t.kind = 5
 ·rw [O1 h4,cond_false,U8 h5,cond_true,e,Option.bind_some,cc _ _ (by decide) (by omega),Option.bind_some,cc _ _ (by simp; omega) (by decide),Option.bind_some,if_neg h4,if_pos h5]; rfl
 by_cases h6:t.kind = 6
 ·rw [O1 h4,cond_false,O1 h5,cond_false,U8 h6,cond_true,e,Option.bind_some,cc _ _ (by decide) (by omega),Option.bind_some,cc _ _ (by simp; omega) (by decide),Option.bind_some,if_neg h4,if_neg h5,if_pos h6]; rfl
 by_cases h7:t.kind = 7
 ·rw [O1 h4,cond_false,O1 h5,cond_false,O1 h6,cond_false,U8 h7,cond_true,e,Option.bind_some,cc _ _ (by decide) (by omega),Option.bind_some,cc _ _ (by simp; omega) (by decide),Option.bind_some,if_neg h4,if_neg h5,if_neg h6,if_pos h7]; rfl
 rw [O1 h4,cond_false,O1 h5,cond_false,O1 h6,cond_false,O1 h7,cond_false,if_neg h4,if_neg h5,if_neg h6,if_neg h7]
theorem spl_r {t:Tok} {n:Nat} (h:t.text.length <= 100000) (hn:t.text.length < n):Z5 n t = some (spl t):=by
 have e:K9 n t.text = some (Rp.esc t.text):=a96 h hn
 have hl:=Rp.a1E t.text
 have cc:∀ a b:Str,a.length <= 300000 -> b.length <= 300000 -> cat a b = some (a ++ b):=fun a b h1 h2=>a6b (by omega)
 rw [Z5]
 unfold spl Sc.spK
 by_cases h4:t.kind = 4
 ·rw [U8 h4,cond_true,e,Option.bind_some,cc _ _ (by decide) (by omega),Option.bind_some,cc _ _ (by simp; omega) (by decide),Option.bind_some,if_pos h4]; rfl
 by_cases h5:t.kind = 5
 ·rw [O1 h4,cond_false,U8 h5,cond_true,e,Option.bind_some,cc _ _ (by decide) (by omega),Option.bind_some,cc _ _ (by simp; omega) (by decide),Option.bind_some,if_neg h4,if_pos h5]; rfl
 by_cases h6:t.kind = 6
 ·rw [O1 h4,cond_false,O1 h5,cond_false,U8 h6,cond_true,e,Option.bind_some,cc _ _ (by decide) (by omega),Option.bind_some,cc _ _ (by simp; omega) (by decide),Option.bind_some,if_neg h4,if_neg h5,if_pos h6]; rfl
 by_cases h7:t.kind = 7
 ·rw [O1 h4,cond_false,O1 h5,cond_false,O1 h6,cond_false,U8 h7,cond_true,e,Option.bind_some,cc _ _ (by decide) (by omega),Option.bind_some,cc _ _ (by simp; omega) (by decide),Option.bind_some,if_neg h4,if_neg h5,if_neg h6,if_pos h7]; rfl
 rw [O1 h4,cond_false,O1 h5,cond_false,O1 h6,cond_false,O1 h7,cond_false,if_neg h4,if_neg h5,if_neg h6,if_neg h7]
theorem a8L (t:Tok):(spl t).length <= 2 * t.text.length + 3:=by
 have hl:=Rp.a1E t.text
 unfold spl Sc.spK
 repeat' split
 all_goals first | omega | (simp only [List.length_cons,List.length_append,List.length_nil]; omega)
def a1r:Nat -> List Tok -> Bool
 | _,[]=>true
 | z,t :: r=>decide (t.text.length <= 8000) && (decide (z + ((spl t).length + 1) <= 8001) && a1r (z + ((spl t).length + 1)) r)
def szL:List Tok -> Nat
 | []=>0
 | t :: r=>(spl t).length + 1 + szL r
theorem a2W (t:Tok):∀ l,szL (l ++ [t]) = szL l + ((spl t).length + 1)
 | []=>by simp [szL]
 | u :: l=>by simp only [List.cons_append,szL,a2W t l]; omega
theorem b1b:∀ (l:List Tok) (z:Nat),a1r z l = true -> z <= 8001 -> z + szL l <= 8001
 | [],z,_,h=>by simpa [szL] using h
 | t :: r,z,h,_=>by
  simp only [a1r,Bool.and_eq_true,decide_eq_true_eq] at h
  have:=b1b r _ h.2.2 h.2.1
  simp only [szL]; omega
theorem b1g {l:List Tok} (hl:l.length <= 3000) (n:Nat):∀ (rest pre:List Tok) (m z:Nat),l = pre ++ rest -> rest.length < m -> z <= 8001 ->
  N8 n l m (pre.map spl) z pre.length = some (match a1r z rest with | true=>.brk (l.map spl) | false=>.out ([],4))
 | rest,pre,0,z,_,h,_=>absurd h (by omega)
 | [],pre,m + 1,z,e,_,_=>by
  rw [N8,a0O (by rw [e,List.append_nil]; omega),cond_false,e,List.append_nil]; rfl
 | t :: r,pre,m + 1,z,e,hm,hz=>by
  have hln:l.length = pre.length + (r.length + 1):=by rw [e]; simp
  have hi:pre.length < l.length:=by omega
  have ht:l[pre.length] = t:=by subst e; simp
  have hs:=a8L t
  rw [N8,a0P (by omega),cond_true,a2i hi,Option.bind_some,ht]
  by_cases h1:8000 < t.text.length
  ·rw [a0P (by omega),cond_true]
   have:a1r z (t :: r) = false:=by simp only [a1r]; rw [decide_eq_false (by omega)]; rfl
   rw [this]
  ·have ew:w64 ((z:Int) + w64 (((spl t).length:Int) + 1)) = ((z + ((spl t).length + 1):Nat):Int):=by
    rw [a7a (a:=((spl t).length:Int) + 1) (by omega) (by omega),a7a (by omega) (by omega)]; omega
   rw [a0O (by omega),cond_false,spl_p (by omega),Option.bind_some,ew]
   by_cases h2:8001 < z + ((spl t).length + 1)
   ·rw [a0P (by omega),cond_true]
    have:a1r z (t :: r) = false:=by simp only [a1r]; rw [decide_eq_false (show ¬ z + ((spl t).length + 1) <= 8001 by omega)]; simp
    rw [this]
   ·rw [a0O (by omega),cond_false,a9M (by simp only [List.length_map,List.length_cons,List.length_nil]; omega),Option.bind_some,a1p (by omega)]
    have ih:=b1g hl n r (pre ++ [t]) m (z + ((spl t).length + 1)) (by rw [e]; simp) (by simp only [List.length_cons] at hm; omega) (by omega)
    rw [List.map_append,List.map_cons,List.map_nil,List.length_append] at ih
    have:a1r z (t :: r) = a1r (z + ((spl t).length + 1)) r:=by simp only [a1r]; rw [decide_eq_true (by omega),decide_eq_true (by omega)]; rfl
    rw [this]
    exact ih
def Jn (l:List Tok):Str:=[32].intercalate (l.map spl)
def Jx:List Tok -> Str
 | []=>[]
 | t :: r=>Jn (t :: r) ++ [32]
theorem a3Y (a b:Tok) (r:List Tok):Jn (a :: b :: r) = spl a ++ 32 :: Jn (b :: r):=by simp [Jn,List.intercalate]
theorem a8f (a:Tok):Jn [a] = spl a:=by simp [Jn,List.intercalate]
theorem a5J (t:Tok):∀ l,Jn (l ++ [t]) = Jx l ++ spl t
 | []=>a8f t
 | [a]=>by
  show Jn [a,t] = Jn [a] ++ [32] ++ spl t
  rw [a3Y,a8f,a8f]; simp
 | a :: b :: r=>by
  have ih:=a5J t (b :: r)
  show Jn (a :: b :: (r ++ [t])) = Jn (a :: b :: r) ++ [32] ++ spl t
  rw [a3Y,a3Y]
  have ih:Jn (b :: (r ++ [t])) = Jn (b :: r) ++ [32] ++ spl t:=ih
  rw [ih]; simp
theorem a8e:∀ (t:Tok) (l:List Tok),(Jn (t :: l)).length + 1 = szL (t :: l)
 | t,[]=>by rw [a8f]; simp [szL]
 | t,b :: r=>by
  have ih:=a8e b r
  rw [a3Y,List.length_append,List.length_cons]
  simp only [szL] at ih ⊢; omega
theorem a9L:∀ l,(Jx l).length = szL l
 | []=>rfl
 | t :: r=>by have:=a8e t r; simp only [Jx,List.length_append,List.length_cons,List.length_nil]; omega
theorem Jn_le:∀ l,(Jn l).length <= szL l
 | []=>by simp [Jn,List.intercalate]
 | t :: r=>by have:=a8e t r; omega
theorem in1' {pre:List Tok} {ρ:Type} {k:Str -> Option ρ} (h:(Jn pre).length <= 1000000):Option.bind (α:=Str) (cond (ltB 0 (pre.length:Int)) ((cat (Jn pre) [32]).bind fun s2=>some s2) (some (Jn pre))) k = k (Jx pre):=by
 cases pre with
 | nil=>rw [a0O (by simp)]; rfl
 | cons t r=>rw [a0P (by simp only [List.length_cons]; omega),cond_true,a6b (by simp only [List.length_cons,List.length_nil]; omega)]; rfl
theorem in2 {l pre r:List Tok} {t:Tok} (e:l = pre ++ t :: r):idx' l (pre.length:Int) = some t:=by
 have hi:pre.length < l.length:=by rw [e]; simp
 rw [a2i hi]; subst e; simp
theorem b1e {l:List Tok} (hl:l.length <= 100000) {n:Nat} (hn:8001 <= n):∀ (rest pre:List Tok) (m:Nat),l = pre ++ rest -> rest.length < m -> a1r (szL pre) rest = true -> szL pre <= 8001 ->
  A9 n l m (Jn pre) pre.length = some (.brk (Jn l))
 | rest,pre,0,_,h,_,_=>absurd h (by omega)
 | [],pre,m + 1,e,_,_,_=>by
  rw [A9,a0O (by rw [e,List.append_nil]; omega),cond_false,e,List.append_nil]
 | t :: r,pre,m + 1,e,hm,hok,hz=>by
  have hln:l.length = pre.length + (r.length + 1):=by rw [e]; simp
  have hj:=Jn_le pre
  have hx:=a9L pre
  have hs:=a8L t
  simp only [a1r,Bool.and_eq_true,decide_eq_true_eq] at hok
  obtain ⟨h1,h2,h3⟩:=hok
  rw [A9,a0P (by omega),cond_true,in1' (by omega),in2 e,Option.bind_some,Option.bind_some,a0O (by omega),cond_false,a0O (by omega),Option.bind_some,cond_false,spl_r (by omega) (by omega),Option.bind_some,a6b (by omega),Option.bind_some,a1p (by omega),<- a5J]
  have ih:=b1e hl hn r (pre ++ [t]) m (by rw [e]; simp) (by simp only [List.length_cons] at hm; omega) (by rw [a2W]; exact h3) (by rw [a2W]; exact h2)
  rw [List.length_append] at ih
  exact ih
theorem refS_big {l:List Tok} (hl:l.length <= 100000) {n:Nat} (rest pre:List Tok) (m:Nat) (e:l = pre ++ rest) (hm:rest.length < m) (hb:8000 < (Jn pre).length) (hc:(Jn pre).length <= 1000000) :
  ∃ r,A9 n l m (Jn pre) pre.length = some r /\ (r = .out ([],false) ∨ ∃ s,r = .brk s /\ 8000 < s.length):=by
 cases m with
 | zero=>exact absurd hm (by omega)
 | succ m =>
 cases rest with
 | nil =>
  rw [A9,a0O (by rw [e,List.append_nil]; omega),cond_false]
  exact ⟨_,rfl,.inr ⟨_,rfl,hb⟩⟩
 | cons t r =>
  have hln:l.length = pre.length + (r.length + 1):=by rw [e]; simp
  have hj:=Jn_le pre
  have hx:=a9L pre
  rw [A9,a0P (by omega),cond_true,in1' (by omega),in2 e,Option.bind_some,Option.bind_some,a0P (a:=8000) (b:=((Jx pre).length:Int)) (by omega)]
  cases ltB 8000 (t.text.length:Int) <;> exact ⟨_,rfl,.inl rfl⟩
theorem b1d {l:List Tok} (hl:l.length <= 100000) {n:Nat} (hn:8001 <= n):∀ (rest pre:List Tok) (m:Nat),l = pre ++ rest -> rest.length < m -> a1r (szL pre) rest = false -> szL pre <= 8001 ->
  ∃ r,A9 n l m (Jn pre) pre.length = some r /\ (r = .out ([],false) ∨ ∃ s,r = .brk s /\ 8000 < s.length)
 | rest,pre,0,_,h,_,_=>absurd h (by omega)
 | [],pre,m + 1,e,_,h,_=>by cases h
 | t :: r,pre,m + 1,e,hm,hok,hz=>by
  have hln:l.length = pre.length + (r.length + 1):=by rw [e]; simp
  have hj:=Jn_le pre
  have hx:=a9L pre
  have hs:=a8L t
  rw [A9,a0P (by omega),cond_true,in1' (by omega),in2 e,Option.bind_some,Option.bind_some]
  by_cases h1:8000 < t.text.length
  ·rw [a0P (by omega)]; exact ⟨_,rfl,.inl rfl⟩
  rw [a0O (a:=8000) (b:=(t.text.length:Int)) (by omega),cond_false]
  by_cases h2:8000 < szL pre
  ·rw [a0P (by omega)]; exact ⟨_,rfl,.inl rfl⟩
  rw [a0O (by omega),Option.bind_some,cond_false,spl_r (by omega) (by omega),Option.bind_some,a6b (by omega),Option.bind_some,a1p (by omega),<- a5J]
  have el:((pre.length + 1:Nat):Int) = ((pre ++ [t]).length:Int):=by simp
  rw [el]
  by_cases h3:szL pre + ((spl t).length + 1) <= 8001
  ·have hok2:a1r (szL pre + ((spl t).length + 1)) r = false:=by
    simp only [a1r] at hok
    rw [decide_eq_true (by omega),decide_eq_true h3] at hok
    simpa using hok
   exact b1d hl hn r (pre ++ [t]) m (by rw [e]; simp) (by simp only [List.length_cons] at hm; omega) (by rw [a2W]; exact hok2) (by rw [a2W]; exact h3)
  ·have hlen:(Jn (pre ++ [t])).length = szL pre + (spl t).length:=by rw [a5J,List.length_append,hx]
   exact refS_big hl r (pre ++ [t]) m (by rw [e]; simp) (by simp only [List.length_cons] at hm; omega) (by omega) (by omega)
theorem b0L {l:List Tok} (h:a1r 0 l = true):(Jn l).length <= 8000:=by
 have:=b1b l 0 h (by omega)
 cases l with
 | nil=>simp [Jn,List.intercalate]
 | cons t r=>have:=a8e t r; omega
theorem b1N {l:List Tok} (hl:l.length <= 3100) (h:a1r 0 l = true):P9 12001 l = some (Jn l,true):=by
 have h8:=b0L h
 have e:=b1e (l:=l) (by omega) (n:=12001) (by omega) l [] 12001 rfl (by omega) h (by simp [szL])
 have e:A9 12001 l 12001 [] 0 = some (.brk (Jn l)):=e
 rw [P9,e,a3b]
 have:leB ((Jn l).length:Int) 8000 = true:=by simp only [leB,decide_eq_true_eq]; omega
 rw [this]
theorem b1M {l:List Tok} (hl:l.length <= 3100) (h:a1r 0 l = false):∃ s,P9 12001 l = some (s,false):=by
 obtain ⟨r,e,hr⟩:=b1d (l:=l) (by omega) (n:=12001) (by omega) l [] 12001 rfl (by omega) h (by simp [szL])
 have e:A9 12001 l 12001 [] 0 = some r:=e
 rw [P9,e]
 rcases hr with rfl | ⟨s,rfl,hs⟩
 ·exact ⟨_,rfl⟩
 ·rw [a3b]
  have:leB (s.length:Int) 8000 = false:=by simp only [leB,decide_eq_false_iff_not]; omega
  rw [this]; exact ⟨_,rfl⟩
def kt (l:List Tok):List (Int × Str):=l.map fun t=>(t.kind,t.text)
theorem a5O {l:List Tok} {i:Nat} (h:i < l.length):kt (l.drop i) = (l[i].kind,l[i].text) :: kt (l.drop (i + 1)):=by
 rw [List.drop_eq_getElem_cons h]; rfl
theorem cmp_p {l b:List Tok} (hlb:b.length = l.length) (hb:b.length <= 3000) (n:Nat):∀ (k i m:Nat),i + k = b.length -> k < m ->
  L9 n l b m i = some (match decide (kt (b.drop i) = kt (l.drop i)) with | true=>.brk () | false=>.out ([],4))
 | k,i,0,_,h=>absurd h (by omega)
 | 0,i,m + 1,hi,_=>by
  rw [L9,a0O (by omega),cond_false,List.drop_eq_nil_of_le (by omega),List.drop_eq_nil_of_le (by omega)]; rfl
 | k + 1,i,m + 1,hi,hm=>by
  have h1:i < b.length:=by omega
  have h2:i < l.length:=by omega
  rw [L9,a0P (by omega),cond_true,a2i h1,a2i h2]
  simp only [Option.bind_some]
  rw [a5O h1,a5O h2]
  by_cases h3:b[i].kind = l[i].kind
  ·rw [U8 h3,Bool.not_true,cond_false]
   by_cases h4:b[i].text = l[i].text
   ·rw [h4,a2I,Bool.not_true,Option.bind_some,cond_false,a1p (by omega),cmp_p hlb hb n k (i + 1) m (by omega) (by omega),h3]
    simp
   ·rw [eqS_f h4,Bool.not_false,Option.bind_some,cond_true,decide_eq_false (by simp [h4])]
  ·rw [O1 h3,Bool.not_false,cond_true,Option.bind_some,cond_true,decide_eq_false (by simp [h3])]
theorem cmp_r {l b:List Tok} (hlb:b.length = l.length) (hb:b.length <= 3100) (n:Nat):∀ (k i m:Nat),i + k = l.length -> k < m ->
  I5 n l b false m i = some (match decide (kt (l.drop i) = kt (b.drop i)) with | true=>.brk () | false=>.out false)
 | k,i,0,_,h=>absurd h (by omega)
 | 0,i,m + 1,hi,_=>by
  rw [I5,a0O (by omega),cond_false,List.drop_eq_nil_of_le (by omega),List.drop_eq_nil_of_le (by omega)]; rfl
 | k + 1,i,m + 1,hi,hm=>by
  have h1:i < b.length:=by omega
  have h2:i < l.length:=by omega
  rw [I5,a0P (by omega),cond_true,a2i h1,a2i h2]
  simp only [Option.bind_some]
  rw [a5O h1,a5O h2]
  by_cases h3:l[i].kind = b[i].kind
  ·rw [U8 h3,Bool.not_true,cond_false]
   by_cases h4:l[i].text = b[i].text
   ·rw [h4,a2I,Bool.not_true,cond_false,cond_false,Option.bind_some,cond_false,a1p (by omega),cmp_r hlb hb n k (i + 1) m (by omega) (by omega),h3]
    simp
   ·rw [eqS_f h4,Bool.not_false,cond_true,Option.bind_some,cond_true,decide_eq_false (by simp [h4])]
  ·rw [O1 h3,Bool.not_false,cond_true,Option.bind_some,cond_true,decide_eq_false (by simp [h3])]
theorem eqTokens {l b:List Tok} (hb:b.length <= 3100):X3 12001 l b false = some (decide (kt l = kt b)):=by
 rw [X3]
 by_cases h:l.length = b.length
 ·rw [U8 (by omega),Bool.not_true,cond_false]
  have e:=cmp_r (l:=l) (b:=b) h.symm hb 12001 l.length 0 12001 (by omega) (by omega)
  rw [List.drop_zero,List.drop_zero] at e
  have e:I5 12001 l b false 12001 0 = _:=e
  rw [e]
  cases decide (kt l = kt b) <;> rfl
 ·rw [O1 (by omega),Bool.not_false,cond_true,decide_eq_false]
  intro e
  have:=congrArg List.length e
  simp only [kt,List.length_map] at this
  exact h this
noncomputable def a5g (l:List Tok):Str × Int:=match a1r 0 l && (decide (a2X (Sc.Z7 (Jn l)) = 0) && decide (kt l = kt (a4E (Sc.Z7 (Jn l))))) with
 | true=>(Jn l,0)
 | false=>([],4)
theorem kt_len {a b:List Tok} (h:kt a = kt b):a.length = b.length:=by
 have:=congrArg List.length h
 simpa only [kt,List.length_map] using this
theorem joinG_J {l:List Tok} (hl:l.length <= 3000) (h8:(Jn l).length <= 8000):a9e (l.map spl) [32] = some (Jn l):=by
 have e:Lib.join (l.map spl) [32] = Jn l:=rfl
 unfold a9e
 rw [e,a09 (by rw [List.length_map]; omega),a09 (by omega)]
 rfl
theorem mk_t {l:List Tok} (hl:l.length <= 3000):mkOk 16 (l.length:Int) = true:=by
 simp only [mkOk,leB,Bool.and_eq_true,decide_eq_true_eq]; omega
theorem spell_p {l:List Tok} (hl:l.length <= 3100):a1e 12001 l = some (a5g l):=by
 rw [a1e]
 by_cases h3:3000 < l.length
 ·rw [a0P (by omega),cond_true]
  unfold a5g
  rw [decide_eq_false (p:=kt l = _) (fun e=>by have:=kt_len e; have:=a6Y (Jn l); omega)]
  simp
 ·have e:=b1g (l:=l) (by omega) 12001 l [] 12001 0 rfl (by omega) (by omega)
  have e:N8 12001 l 12001 [] 0 0 = _:=e
  rw [a0O (by omega),cond_false,mk_t (by omega),gdO,e]
  unfold a5g
  cases ho:a1r 0 l with
  | false=>rfl
  | true =>
   have h8:=b0L ho
   have hc:=a9G (Jn l)
   have hn:=a6Y (Jn l)
   simp only [a3b]
   rw [joinG_J (by omega) h8,Option.bind_some]
   unfold a0D
   simp only [Option.bind_some,Bool.true_and]
   generalize a4E (Sc.Z7 (Jn l)) = b at hc hn ⊢
   generalize a2X (Sc.Z7 (Jn l)) = c at hc ⊢
   generalize tokA (Sc.Z7 (Jn l)) = a at hc ⊢
   rcases hc with ⟨rfl,rfl⟩ | ⟨h1,rfl⟩
   ·rw [U8 (a:=0) rfl,decide_eq_true (p:=(0:Int) = 0) rfl]
    simp only [Bool.and_self,Bool.not_true,cond_false,Bool.true_and,Option.bind_some]
    by_cases h5:b.length = l.length
    ·have e2:=cmp_p (l:=l) (b:=b) h5 hn 12001 b.length 0 12001 (by omega) (by omega)
     rw [List.drop_zero,List.drop_zero] at e2
     have e2:L9 12001 l b 12001 0 = _:=e2
     rw [U8 (by omega),Bool.not_true,cond_false,e2]
     by_cases h6:kt b = kt l
     ·rw [decide_eq_true h6,decide_eq_true h6.symm]; rfl
     ·rw [decide_eq_false h6,decide_eq_false (fun h=>h6 h.symm)]; rfl
    ·rw [O1 (by omega),Bool.not_false,cond_true,decide_eq_false (fun h=>h5 (kt_len h).symm)]
   ·rw [O1 h1,decide_eq_false h1]; rfl
theorem spell_r {l:List Tok} (hl:l.length <= 3100):a0K 12001 l = some (a5g l):=by
 rw [a0K]
 unfold a5g
 cases ho:a1r 0 l with
 | false =>
  obtain ⟨s,e⟩:=b1M hl ho
  rw [e]; rfl
 | true =>
  have hc:=a9G (Jn l)
  have hn:=a6Y (Jn l)
  rw [b1N hl ho]
  simp only [Option.bind_some,Bool.not_true,cond_false,Bool.true_and]
  unfold a0D
  simp only [Option.bind_some]
  generalize a4E (Sc.Z7 (Jn l)) = b at hc hn ⊢
  generalize a2X (Sc.Z7 (Jn l)) = c at hc ⊢
  generalize tokA (Sc.Z7 (Jn l)) = a at hc ⊢
  rcases hc with ⟨rfl,rfl⟩ | ⟨h1,rfl⟩
  ·rw [U8 (a:=0) rfl,decide_eq_true (p:=(0:Int) = 0) rfl,eqTokens (by omega)]
   simp only [Bool.not_true,cond_false,Bool.true_and,Option.bind_some]
   cases decide (kt l = kt b) <;> rfl
  ·rw [O1 h1,decide_eq_false h1]; rfl
theorem loop_s (l:List Tok) (n:Nat):∀ (k i m z:Nat),i + k = 3100 -> k < m -> i <= l.length -> z <= 12000 -> ∃ r,I4 n l m z i = some r /\ (r = .out true ∨ (r = .brk () /\ l.length <= 3100))
 | k,i,0,z,_,h,_,_=>absurd h (by omega)
 | k,i,m + 1,z,hk,hm,hi,hz=>by
  rw [I4]
  by_cases h:i < l.length
  ·rw [a0P (by omega),cond_true]
   by_cases h1:i = 3100
   ·rw [U8 (by omega),cond_true,Option.bind_some,cond_true]; exact ⟨_,rfl,.inl rfl⟩
   ·rw [O1 (by omega),cond_false,a2i h]
    simp only [Option.bind_some]
    rw [a7a (a:=12000 - (z:Int)) (by omega) (by omega)]
    by_cases h2:12000 - (z:Int) < (l[i].text.length:Int)
    ·rw [a0P h2,cond_true]; exact ⟨_,rfl,.inl rfl⟩
    ·rw [a0O h2,cond_false,a1p (by omega),a7a (by omega) (by omega)]
     match k with
     | 0=>exact absurd hk (by omega)
     | k + 1=>exact loop_s l n k (i + 1) m (z + l[i].text.length) (by omega) (by omega) (by omega) (by omega)
  ·rw [a0O (by omega),cond_false]; exact ⟨_,rfl,.inr ⟨rfl,by omega⟩⟩
theorem a9y (l:List Tok):X9 12001 l = some true:=by
 obtain ⟨r,e,hr⟩:=loop_s l 12001 3100 0 12001 0 (by omega) (by omega) (by omega) (by omega)
 have e:I4 12001 l 12001 0 0 = some r:=e
 rw [X9,e]
 rcases hr with rfl | ⟨rfl,hl⟩
 ·rfl
 ·rw [a3b,spell_p hl,spell_r hl]
  simp only [Option.bind_some]
  rw [a2I,U8 (a:=(a5g l).2) rfl,awake_ok]
  rfl
end Go.Proofs.YtlhgheonlcjpaaaGreat
namespace Go.Proofs.YtlhgheonlcjpaaaGreat
open Go Go.Vm
def T:List (Nat × Ty):=[
 (3,⟨.int .i64,1,8,[.i 0]⟩),
 (4,⟨.bool,1,1,[.bool false]⟩),
 (5,⟨.int .u8,1,1,[.int .u8 0]⟩),
 (9,⟨.string,1,16,[.str []]⟩),
 (22,⟨.int .i64,1,8,[.i 0]⟩),
 (27,⟨.slice 29,1,24,[.slice .nil 0 []]⟩),
 (29,⟨.struct [(3,0),(9,1),(3,2),(3,3)],4,40,[.i 0,.str [],.i 0,.i 0]⟩),
 (33,⟨.struct [(22,0),(3,1)],2,16,[.i 0,.i 0]⟩),
 (40,⟨.slice 9,1,24,[.slice .nil 0 []]⟩),
 (51,⟨.slice 5,1,24,[.slice .nil 0 []]⟩)]
def keep:Nat -> Nat -> List Nat
 | 4,3=>[0,3,4]
 | 4,100009=>[0]
 | 4,130007=>[0,3,4,27]
 | 11,6=>[0,4,5,20,21,22]
 | 11,21=>[0,9,61,62,63]
 | 11,100017=>[0,4]
 | 11,100027=>[9]
 | 11,130020=>[0,9,10,60]
 | 11,130025=>[0,9,61,62,63,85]
 | 12,130007=>[4,28]
 | 14,3=>[0,4,5]
 | 14,100008=>[0,4,5]
 | 14,100011=>[4]
 | 14,130009=>[0,4,5,27]
 | 15,4=>[0,1,2,7]
 | 15,100009=>[]
 | 15,130008=>[0,1,2,7,71]
 | 17,3=>[0,3,4]
 | 17,100005=>[0,3,4]
 | 17,100015=>[3]
 | 17,130014=>[0,3,4,30]
 | _,_=>[]
def cut:Nat -> Nat -> Bool
 | 4,9=>true
 | 4,30007=>true
 | 11,17=>true
 | 11,27=>true
 | 11,30020=>true
 | 11,30025=>true
 | 12,30007=>true
 | 14,8=>true
 | 14,11=>true
 | 14,30009=>true
 | 15,9=>true
 | 15,30008=>true
 | 17,5=>true
 | 17,15=>true
 | 17,30014=>true
 | _,_=>false
def moreL:List Nat:=[]
def tagc:Nat -> Nat -> Bool
 | f,_=>has f moreL
def a2x:Nat -> Nat -> Bool
 | f,_=>has f moreL
def slk:Nat -> Nat -> List (Nat × Nat)
 | _,_=>[]
def sep:Nat -> Nat -> Option (List Nat × List Nat)
 | _,_=>none
def mask:Nat -> Nat -> List Nat
 | _,_=>[]
def okL:List Nat:=[4,5,10,11,12,14,15,17,19,22]
def lookL:List Nat:=[]
def a6I:List Nat:=[4,5,10,11,12,13,14,15,16,17,18,19,20,22]
def frzL:List Nat:=[]
def tagL:List Nat:=[] ++ moreL
def argL:List Nat:=[] ++ moreL
theorem tys:tysB Tryz.prog T = true:=by kernel_rfl
theorem mixed:Tryz.prog.follows .mixedOrders = true:=by kernel_rfl
end Go.Proofs.YtlhgheonlcjpaaaGreat
namespace Go.Proofs
open Go.Shelf
def Tryz.a5o:Go.Shelf.Ren:=⟨fun | 156=>20 | 165=>29 | 166=>30 | 169=>31 | 240=>55 | 241=>56 | 276=>69 | 277=>70 | n=>n,fun | 31=>40 | 9=>9 | 3=>3 | 4=>4 | 0=>0 | 20=>20 | 72=>63 | 76=>67 | 70=>61 | 37=>51 | 75=>66 | 127=>93 | 164=>104 | 5=>5 | 80=>69 | n=>n,fun | n=>n⟩
theorem Tryz.b06:Go.Proofs.Lays.n156 Tryz.prog Tryz.a5o:={
 mixed:=by kernel_rfl
 f156:=Tryz.func20.trans (congrArg some (by kernel_rfl))
 f165:=Tryz.func29.trans (congrArg some (by kernel_rfl))
 f166:=Tryz.func30.trans (congrArg some (by kernel_rfl))
 f169:=Tryz.func31.trans (congrArg some (by kernel_rfl))
 f240:=Tryz.func55.trans (congrArg some (by kernel_rfl))
 f241:=Tryz.func56.trans (congrArg some (by kernel_rfl))
 f276:=Tryz.func69.trans (congrArg some (by kernel_rfl))
 f277:=Tryz.func70.trans (congrArg some (by kernel_rfl))
 t0:=Tryz.underlying0
 a0:=Tryz.isAgg0
 z0:=Tryz.sizeOf0
 v0:=Tryz.zeroValue0
 t3:=Tryz.underlying3
 a3:=Tryz.isAgg3
 z3:=Tryz.sizeOf3
 v3:=Tryz.zeroValue3
 t4:=Tryz.underlying4
 a4:=Tryz.isAgg4
 z4:=Tryz.sizeOf4
 v4:=Tryz.zeroValue4
 t9:=Tryz.underlying9
 a9:=Tryz.isAgg9
 z9:=Tryz.sizeOf9
 v9:=Tryz.zeroValue9
 t20:=Tryz.underlying20
 a20:=Tryz.isAgg20
 z20:=Tryz.sizeOf20
 v20:=Tryz.zeroValue20
 t31:=Tryz.underlying40
 a31:=Tryz.isAgg40
 z31:=Tryz.sizeOf40
 v31:=Tryz.zeroValue40
 t37:=Tryz.underlying51
 a37:=Tryz.isAgg51
 z37:=Tryz.sizeOf51
 v37:=Tryz.zeroValue51
 t70:=Tryz.underlying61
 a70:=Tryz.isAgg61
 z70:=Tryz.sizeOf61
 v70:=Tryz.zeroValue61
 t72:=Tryz.underlying63
 a72:=Tryz.isAgg63
 z72:=Tryz.sizeOf63
 v72:=Tryz.zeroValue63
 t75:=Tryz.underlying66
 a75:=Tryz.isAgg66
 z75:=Tryz.sizeOf66
 v75:=Tryz.zeroValue66
 t76:=Tryz.underlying67
 a76:=Tryz.isAgg67
 z76:=Tryz.sizeOf67
 v76:=Tryz.zeroValue67
 t127:=Tryz.underlying93
 a127:=Tryz.isAgg93
 z127:=Tryz.sizeOf93
 v127:=Tryz.zeroValue93
 t164:=Tryz.underlying104
 a164:=Tryz.isAgg104
 z164:=Tryz.sizeOf104
 v164:=Tryz.zeroValue104 }
theorem Tryz.a1s:Builder.Extra Tryz.prog Tryz.a5o:={
 sizeBuilder:=by kernel_rfl
 liesBuilder:=by kernel_rfl
 t5:=Tryz.underlying5
 a5:=Tryz.isAgg5
 z5:=Tryz.sizeOf5
 v5:=Tryz.zeroValue5
 infoByte:=by kernel_rfl
 cellsByte:=by kernel_rfl
 sizeByte:=by kernel_rfl
 neB5:=by decide }
open Go.RowKit in
theorem Tryz.strings_Join_none (a:Option Addr) (c:Nat) (sep:ByteArray) (w:World) :
  Calls Tryz.prog 20 #[.slice a 0 c,.string sep] w fun e w'=>e = .returned (.string ⟨#[]⟩) /\ w' = w:=Any.strings_Join_none Tryz.b06 Tryz.a1s a c sep w
open Go.RowKit in
theorem Tryz.strings_Join (bk o c:Nat) (xs:List ByteArray) (sep:ByteArray) (w:World) (hcells:∀ (j:Nat) x,xs[j]? = some x -> w.cell? ⟨bk,o + j,none⟩ = some (.string x)) (hbk:bk < w.heap.size) (hN:xs.length <= 140737488355328) (hcap:xs.length <= c) (hlen:(Lib.join (xs.map (·.data.toList)) sep.data.toList).length <= 140737488355328) :
  Calls Tryz.prog 20 #[.slice (some ⟨bk,o,none⟩) xs.length c,.string sep] w fun e w'=>e = .returned (.string ⟨(Lib.join (xs.map (·.data.toList)) sep.data.toList).toArray⟩) /\ Below w.heap.size w w':=Any.strings_Join Tryz.b06 Tryz.a1s bk o c xs sep w hcells hbk hN hcap hlen
end Go.Proofs
namespace Go.Proofs.YtlhgheonlcjpaaaGreat
open Go Go.Vm
def strsOf:List V -> Option (List (List UInt8))
 | []=>some []
 | .str s :: r=>match strsOf r with
  | some l=>some (s :: l)
  | none=>none
 | _=>none
def a9f:List V -> Hp -> Option Out:=fun args H=>match args with
 | [.slice _ n cs,.str sep]=>match strsOf cs with
  | some l=>gd (eqN l.length n && leN n 140737488355328 && leN (Lib.join l sep).length 140737488355328) (some (.ret (.str (Lib.join l sep)) H))
  | none=>none
 | _=>none
theorem a6U:∀ {cs:List V} {l:List (List UInt8)},strsOf cs = some l -> cs = l.map .str
 | [],l,h=>by cases h; rfl
 | c :: r,l,h=>by
  cases c with
  | str s =>
   simp only [strsOf] at h
   split at h
   ·rename_i l' hl
    cases h
    rw [a6U hl]; rfl
   ·cases h
  | _=>cases h
theorem a9Q {w w':World} (h:RowKit.Below w.heap.size w w'):K8 w w':=⟨h.size,h.os,h.tape,h.output,fun b hb=>h.block b hb⟩
theorem join_ok:a3H Tryz.prog 20 a9f:=by
 refine ⟨fun args H out h ρ lab w xs hc hS hx=>?_,⟨_,_,Tryz.func20,rfl,rfl⟩⟩
 unfold a9f at h
 split at h
 ·rename_i ow n cs sep
  split at h
  ·rename_i l hl
   obtain ⟨h1,h2⟩:=y7 h
   cases h2
   simp only [Bool.and_eq_true] at h1
   obtain ⟨⟨h1,h2⟩,h3⟩:=h1
   have h1:=a3f h1
   have h2:=a0k h2
   have h3:=a0k h3
   obtain ⟨x1,r1,rfl,a1,a2⟩:=o9.1 hx
   obtain ⟨x2,r2,rfl,a3,a4⟩:=o9.1 a2
   have:r2 = []:=by have:=a4.1; simpa using this
   subst this
   cases a3
   have hcs:=a6U hl
   cases a1 with
   | slice _ _ _ xs b o ao cap g1 g2 g3 g4 g5 g6 g7 g8 g9 =>
   rcases Nat.eq_zero_or_pos n with h0 | h0
   ·subst h0
    have:l = []:=List.length_eq_zero_iff.1 h1
    subst this
    refine (Tryz.strings_Join_none ao cap ⟨⟨sep⟩⟩ w).mono fun e w' ⟨he,hw⟩=>?_
    subst he; subst hw
    exact ⟨ρ,lab,hS,Ext.refl _ _,⟨fun _ _ _ h=>h,fun _ _ _ _ h=>h⟩,.str _,hc,Nat.le_refl _⟩
   ·have hao:=g3 h0
    subst hao
    have hget:∀ (j:Nat) (x:ByteArray),(l.map (fun s=>(⟨⟨s⟩⟩:ByteArray)))[j]? = some x -> cellAt w b (o + j) = some (.string x):=by
     intro j x hj
     rw [List.getElem?_map] at hj
     cases hq:l[j]? with
     | none=>rw [hq] at hj; cases hj
     | some s =>
      rw [hq] at hj
      cases hj
      have hcj:cs[j]? = some (.str s):=by rw [hcs,List.getElem?_map,hq]; rfl
      have hj2:j < xs.length:=by
       rw [g1]
       rcases Nat.lt_or_ge j cs.length with h | h
       ·exact h
       ·rw [List.getElem?_eq_none h] at hcj; cases hcj
      have hxj:xs[j]? = some xs[j]:=by simp [hj2]
      have hr:=g6 j _ _ hcj hxj
      have hf:=(g5 j _ hxj).cell
      generalize xs[j] = z at hr hf
      cases hr
      exact hf
    have hlen:(l.map (fun s=>(⟨⟨s⟩⟩:ByteArray))).length = n:=by rw [List.length_map]; exact h1
    have hmap:(l.map (fun s=>(⟨⟨s⟩⟩:ByteArray))).map (·.data.toList) = l:=by rw [List.map_map]; exact List.map_id l
    have hb:b < w.heap.size:=by
     have hj2:0 < (l.map (fun s=>(⟨⟨s⟩⟩:ByteArray))).length:=by omega
     exact N9 (hget 0 _ (List.getElem?_eq_getElem hj2))
    have K:=Tryz.strings_Join b o cap (l.map (fun s=>(⟨⟨s⟩⟩:ByteArray))) ⟨⟨sep⟩⟩ w hget hb (by omega) (by omega) (by rw [hmap]; exact h3)
    rw [hlen,hmap] at K
    refine K.mono fun e w' ⟨he,hw⟩=>?_
    subst he
    have G:=a9Q hw
    exact ⟨ρ,lab,hS.grew G,G.ext lab,⟨fun _ _ _ h=>h,fun _ _ _ _ h=>h⟩,.str _,hc,Nat.le_refl _⟩
  ·cases h
 ·cases h
end Go.Proofs.YtlhgheonlcjpaaaGreat
namespace Go.Proofs.YtlhgheonlcjpaaaGreat
open Go Go.Vm
noncomputable def a6k:Nat -> Option Hand
 | 13=>some (.plain (valI Sc.tokF))
 | 18=>some (.plain (valI Sc.tokF))
 | 16=>some (.plain (valI Rp.escF))
 | 20=>some (.plain a9f)
 | _=>none
noncomputable def env:Env:={ P:=Tryz.prog,T:=T,keep:=keep,byref:=fun _ _=>none,meth:=fun _ _=>none,tags:=fun g=>has g tagL,argTags:=fun g=>has g argL,quiet:=fun g=>has g a6I,loose:=fun _=>false,ok:=fun g=>has g okL,cut:=cut,tagc:=tagc,a2x:=a2x,sep:=sep,mask:=mask,look:=fun g=>has g lookL,frz:=fun g=>has g frzL,slk:=slk,full:=true,mk0:=true,intr:=a6k }
theorem codes:a6c env okL = true:=by kernel_rfl
theorem b0e:a2B env:=by
 intro _ _ _ h
 cases h
theorem a7p:a2A env:=⟨b0e,a4F tys,mixed,a4N (fun _ h=>h) codes,(fun g h hg=>by simp only [env,a6k] at hg; first | (cases hg; done) | (split at hg <;> first | (cases hg; done) | (cases hg; exact Sc.tok_intr) | (cases hg; exact Sc.b1U) | (cases hg; exact Rp.esc_intr) | (cases hg; exact join_ok))),(fun g pre post hg=>by simp only [env,a6k] at hg; first | (cases hg; done) | (split at hg <;> first | (cases hg; done)))⟩
end Go.Proofs.YtlhgheonlcjpaaaGreat
namespace Go.Proofs.YtlhgheonlcjpaaaGreat
open Go Go.Vm
theorem a7V:∀ l:List Str,strsOf (clS l) = some l
 | []=>rfl
 | s :: r=>by
  show (match strsOf (clS r) with | some l=>some (s :: l) | none=>none) = _
  rw [a7V r]
theorem joinI_at {a:List Str} {b:Str} (h:(leN a.length 140737488355328 && leN (Lib.join a b).length 140737488355328) = true):a9f [.slice .sealed (List.length a) (clS a),.str b] [] = some (.ret (.str (Lib.join a b)) []):=by
 rw [Bool.and_eq_true] at h
 have e:eqN a.length (List.length a) = true:=J6 rfl
 unfold a9f
 simp only [a7V,e,h.1,h.2,gd,Bool.and_self]
end Go.Proofs.YtlhgheonlcjpaaaGreat
namespace Go.Proofs.YtlhgheonlcjpaaaGreat
open Go Go.Vm
theorem a6M {src1:Str} {l2:List Tok} {c3:Int} {a4:Int} (h:a0D src1 = some (l2,c3,a4)):E env (.call 13 [.str src1]) [] = some (.ret (.tuple [.sl M0 l2,.agg [.i c3,.i a4]]) []):=by
 unfold a0D at h
 cases h
 exact a9F rfl (Sc.a2t _).1
theorem joinG_ok {elems1:List Str} {sep2:Str} {rr:Str} (h:a9e elems1 sep2 = some rr):E env (.call 20 [.sl clS elems1,.str sep2]) [] = some (.ret (.str rr) []):=by
 unfold a9e at h
 split at h
 ·rename_i hs
  cases h
  exact a5I rfl (joinI_at hs)
 ·cases h
theorem a5L {s1:Str} {rr:Str} (h:escG s1 = some rr):E env (.call 16 [.str s1]) [] = some (.ret (.str rr) []):=by
 unfold escG at h
 split at h
 ·rename_i hs
  cases h
  exact a5I rfl (by simp only [valI,Rp.escF,hs])
 ·cases h
theorem a9x {src1:Str} {l2:List Tok} {c3:Int} {a4:Int} (h:a0D src1 = some (l2,c3,a4)):E env (.call 18 [.str src1]) [] = some (.ret (.tuple [.sl M0 l2,.agg [.i c3,.i a4]]) []):=by
 unfold a0D at h
 cases h
 exact a9F rfl (Sc.a2t _).1
end Go.Proofs.YtlhgheonlcjpaaaGreat
namespace Go.Proofs.YtlhgheonlcjpaaaGreat
open Go Go.Vm
theorem a6o {r:Bool} (h:a0H = some r) :
  E env (.call 10 []) [] = some (a5C r):=by
 unfold a0H at h
 refine a0g rfl Tryz.func10 rfl rfl ?_
 refine eSG (oB 1 rfl (eSG ?_))
 obtain ⟨⟨l1,c2,a3⟩,g1,h⟩:=o8 h
 refine o6 rfl rfl rfl rfl rfl (a6M g1) rfl ?_
 refine oB 6 rfl (eSG (oA 1 rfl ?_))
 refine oD ?_
 refine oA 2 rfl ?_
 refine l7 rfl rfl rfl (fun g2=>?_) (fun g2=>?_)
 ·replace h:=a0i h g2
  refine oA 5 rfl ?_
  refine l7 rfl rfl rfl (fun g3=>?_) (fun g3=>?_)
  ·replace h:=a0i h g3
   refine oA 1 rfl ?_
   obtain ⟨x4,g4,h⟩:=o8 h
   refine U6 R5 g4 rfl rfl rfl rfl rfl rfl rfl rfl ?_
   refine a2P (c:=[.i x4.kind,.str x4.text,.i x4.at_,.i x4.len]) rfl rfl rfl rfl rfl rfl rfl ?_
   refine oD ?_
   refine oA 3 rfl ?_
   refine l7 rfl rfl rfl (fun g5=>?_) (fun g5=>?_)
   ·replace h:=a0i h g5
    refine oA 1 rfl ?_
    obtain ⟨x5,g6,h⟩:=o8 h
    refine U6 R5 g6 rfl rfl rfl rfl rfl rfl rfl rfl ?_
    refine a2P (c:=[.i x5.kind,.str x5.text,.i x5.at_,.i x5.len]) rfl rfl rfl rfl rfl rfl rfl ?_
    refine oD ?_
    refine oB 3 rfl ?_
    cases h
    exact j5 ⟨_,_,_,rfl,rfl,rfl⟩
   ·replace h:=a0h h g5
    refine oB 7 rfl ?_
    cases h
    exact j5 ⟨_,_,_,rfl,rfl,rfl⟩
  ·replace h:=a0h h g3
   refine oB 14 rfl ?_
   cases h
   exact j5 ⟨_,_,_,rfl,rfl,rfl⟩
 ·replace h:=a0h h g2
  refine oB 19 rfl ?_
  cases h
  exact j5 ⟨_,_,_,rfl,rfl,rfl⟩
theorem a5G {t1:Tok} {r:Str} (h:a0n t1 = some r) :
  E env (.call 19 [.agg [.i t1.kind,.str t1.text,.i t1.at_,.i t1.len]]) [] = some (a5f t1 r):=by
 unfold a0n at h
 refine a0g rfl Tryz.func19 rfl rfl ?_
 refine eSG (oB 2 rfl (j4 (eSG (oB 2 rfl ?_))))
 refine o7 ?_
 refine eSG (oB 2 rfl ?_)
 refine eI rfl h (fun h=>?_) fun h=>?_
 ·refine eSG (oA 2 rfl ?_)
  obtain ⟨rr2,g2,h⟩:=o8 h
  refine o6 rfl rfl rfl rfl rfl (a5L g2) rfl ?_
  obtain ⟨s3,g3,h⟩:=o8 h
  refine U5 g3 rfl rfl rfl rfl ?_
  obtain ⟨s4,g4,h⟩:=o8 h
  refine U5 g4 rfl rfl rfl rfl ?_
  refine oB 1 rfl ?_
  cases h
  exact j5 ⟨_,_,_,rfl,rfl,rfl⟩
 ·refine eSG (oB 2 rfl ?_)
  refine eI rfl h (fun h=>?_) fun h=>?_
  ·refine eSG (oA 2 rfl ?_)
   obtain ⟨rr5,g6,h⟩:=o8 h
   refine o6 rfl rfl rfl rfl rfl (a5L g6) rfl ?_
   obtain ⟨s6,g7,h⟩:=o8 h
   refine U5 g7 rfl rfl rfl rfl ?_
   obtain ⟨s7,g8,h⟩:=o8 h
   refine U5 g8 rfl rfl rfl rfl ?_
   refine oB 1 rfl ?_
   cases h
   exact j5 ⟨_,_,_,rfl,rfl,rfl⟩
  ·refine eSG (oB 2 rfl ?_)
   refine eI rfl h (fun h=>?_) fun h=>?_
   ·refine eSG (oA 2 rfl ?_)
    obtain ⟨rr8,g10,h⟩:=o8 h
    refine o6 rfl rfl rfl rfl rfl (a5L g10) rfl ?_
    obtain ⟨s9,g11,h⟩:=o8 h
    refine U5 g11 rfl rfl rfl rfl ?_
    obtain ⟨s10,g12,h⟩:=o8 h
    refine U5 g12 rfl rfl rfl rfl ?_
    refine oB 1 rfl ?_
    cases h
    exact j5 ⟨_,_,_,rfl,rfl,rfl⟩
   ·refine eSG (oB 2 rfl ?_)
    refine eI rfl h (fun h=>?_) fun h=>?_
    ·refine eSG (oA 2 rfl ?_)
     obtain ⟨rr11,g14,h⟩:=o8 h
     refine o6 rfl rfl rfl rfl rfl (a5L g14) rfl ?_
     obtain ⟨s12,g15,h⟩:=o8 h
     refine U5 g15 rfl rfl rfl rfl ?_
     obtain ⟨s13,g16,h⟩:=o8 h
     refine U5 g16 rfl rfl rfl rfl ?_
     refine oB 1 rfl ?_
     cases h
     exact j5 ⟨_,_,_,rfl,rfl,rfl⟩
    ·refine j6 (eSG (oB 3 rfl ?_))
     cases h
     exact j5 ⟨_,_,_,rfl,rfl,rfl⟩
theorem a7h {n:Nat} {l1:List Tok} {r:Str × Int} (h:a1e n l1 = some r) :
  E env (.call 11 [.sl M0 l1]) [] = some (a1f l1 r):=by
 unfold a1e at h
 refine a0g rfl Tryz.func11 rfl rfl ?_
 refine eSG (oB 2 rfl (j4 (eSG (oB 3 rfl ?_))))
 refine eI rfl h (fun h=>?_) fun h=>?_
 ·refine eSG (oB 2 rfl ?_)
  cases h
  exact j5 ⟨_,_,_,rfl,rfl,rfl⟩
 ·refine j6 (eSG (oA 2 rfl ?_))
  obtain ⟨g2,h⟩:=gdO_inv h
  refine os_mk0 g2 rfl rfl rfl rfl rfl rfl rfl rfl rfl rfl rfl rfl rfl ?_
  refine oB 1 rfl (eSG (oB 1 rfl ?_))
  obtain ⟨y3,g4,h⟩:=a1N h
  refine a4f (KR:=fun r=>OutK env 11 0 Tryz.f11.results.toList (a1f l1 r)) y3 (fun z28=>[(0,.sl M0 l1),(4,.st 0 clS z28)]) (fun z28=>[(0,.tip 1 (List.length z28))]) rfl ?_ (fun z28 hx=>?_) (fun r res hz hr hn=>?_)
  ·replace h:=g4
   clear g4
   refine eSG (oB 3 rfl ?_)
   refine o7 ?_
   refine J3 rfl ?_
   revert y3
   refine a2k (fun m (x:List Str × Int × Int)=>N8 n l1 m x.1 x.2.1 x.2.2) (fun x=>[(0,.sl M0 l1),(4,.st 0 clS x.1),(5,.i x.2.1),(20,.sl M0 l1),(21,.i (List.length l1:Int)),(22,.i x.2.2)]) (fun x=>[(0,.tip 1 (List.length x.1))]) _ (fun _=>rfl) (fun m6 x y ih h=>?_) n (([]:List Str),0,0)
   obtain ⟨a6G,a8K,x503⟩:=x
   rw [N8] at h
   refine eSG (oB 1 rfl (j4 ?_))
   refine eI rfl h (fun h=>?_) fun h=>?_
   ·refine j6 (j4 ?_)
    refine o7 ?_
    refine eSG ?_
    obtain ⟨x2,g6,h⟩:=o8 h
    refine U6 R5 g6 rfl rfl rfl rfl rfl rfl rfl rfl ?_
    refine a2P (c:=[.i x2.kind,.str x2.text,.i x2.at_,.i x2.len]) rfl rfl rfl rfl rfl rfl rfl ?_
    refine oB 2 rfl (j4 (eSG (oB 4 rfl ?_)))
    refine eI rfl h (fun h=>?_) fun h=>?_
    ·refine eSG (oB 2 rfl ?_)
     cases h
     exact j5 ⟨_,rfl,_,_,_,rfl,rfl,rfl⟩
    ·refine j6 (eSG (oA 1 rfl ?_))
     obtain ⟨r3,g8,h⟩:=o8 h
     refine o6 rfl rfl rfl rfl rfl (a5G g8) rfl ?_
     refine oB 1 rfl (eSG (oB 6 rfl (j4 (eSG (oB 2 rfl ?_)))))
     refine eI rfl h (fun h=>?_) fun h=>?_
     ·refine eSG (oB 2 rfl ?_)
      cases h
      exact j5 ⟨_,rfl,_,_,_,rfl,rfl,rfl⟩
     ·refine j6 (j3 (oA 3 rfl ?_))
      obtain ⟨l4,g10,h⟩:=o8 h
      refine os_appK encS g10 rfl rfl rfl rfl rfl rfl rfl rfl rfl rfl rfl rfl rfl rfl (a0W (J6 rfl) rfl) rfl rfl rfl ?_
      refine oB 1 rfl (j3 (oB 2 rfl ?_))
      exact ⟨_,_,rfl,ih (_,_,_) _ h⟩
   ·refine G5 ?_
    cases h
    exact ⟨_,rfl,rfl⟩
  ·subst hx
   obtain ⟨a9t,rfl⟩:∃ q,q = z28:=⟨_,rfl⟩
   refine eSG (oA 1 rfl ?_)
   obtain ⟨rr5,g11,h⟩:=o8 h
   refine o6 rfl rfl rfl rfl rfl (joinG_ok g11) rfl ?_
   refine oB 1 rfl (eSG (oA 1 rfl ?_))
   obtain ⟨⟨l6,c7,a8⟩,g12,h⟩:=o8 h
   refine o6 rfl rfl rfl rfl rfl (a6M g12) rfl ?_
   refine oB 6 rfl (j4 ?_)
   obtain ⟨y13,g14,h⟩:=o8 h
   refine a1F [(0,.sl M0 l1),(9,.str rr5),(10,.sl M0 l6),(60,.bool y13)] [] rfl ?_ ?_
   ·replace h:=g14
    clear g14
    refine j3 (oA 1 rfl ?_)
    refine oD ?_
    refine oA 2 rfl ?_
    refine l7 rfl rfl rfl (fun g15=>?_) (fun g15=>?_)
    ·replace h:=a0i h g15
     refine oB 6 rfl ?_
     cases h
     exact rfl
    ·replace h:=a0h h g15
     refine oB 6 rfl ?_
     cases h
     exact rfl
   ·obtain ⟨x504,rfl⟩:∃ q,q = y13:=⟨_,rfl⟩
    refine eI rfl h (fun h=>?_) fun h=>?_
    ·refine eSG (oB 2 rfl ?_)
     cases h
     exact j5 ⟨_,_,_,rfl,rfl,rfl⟩
    ·refine j6 ?_
     obtain ⟨y17,g18,h⟩:=a1N h
     refine a4f (KR:=fun r=>OutK env 11 0 Tryz.f11.results.toList (a1f l1 r)) y17 (fun z27=>[(9,.str rr5)]) (fun z27=>[]) rfl ?_ (fun z27 hx=>?_) (fun r res hz hr hn=>?_)
     ·replace h:=g18
      clear g18
      refine eSG (oB 3 rfl ?_)
      refine o7 ?_
      refine J3 rfl ?_
      revert y17
      refine a2k (fun m (x:Int)=>L9 n l1 l6 m x) (fun x=>[(0,.sl M0 l1),(9,.str rr5),(61,.sl M0 l6),(62,.i (List.length l6:Int)),(63,.i x)]) (fun x=>[]) _ (fun _=>rfl) (fun m21 x y ih h=>?_) n 0
      obtain ⟨x514,rfl⟩:∃ q,q = x:=⟨_,rfl⟩
      rw [L9] at h
      refine eSG (oB 1 rfl (j4 ?_))
      refine eI rfl h (fun h=>?_) fun h=>?_
      ·refine j6 (j4 ?_)
       refine o7 ?_
       refine eSG (oA 1 rfl ?_)
       obtain ⟨x9,g20,h⟩:=o8 h
       refine U6 R5 g20 rfl rfl rfl rfl rfl rfl rfl rfl ?_
       refine a2P (c:=[.i x9.kind,.str x9.text,.i x9.at_,.i x9.len]) rfl rfl rfl rfl rfl rfl rfl ?_
       refine oB 3 rfl ?_
       obtain ⟨y21,g22,h⟩:=o8 h
       refine a1F [(0,.sl M0 l1),(9,.str rr5),(61,.sl M0 l6),(62,.i (List.length l6:Int)),(63,.i x514),(85,.bool y21)] [] rfl ?_ ?_
       ·replace h:=g22
        clear g22
        refine j3 (oA 4 rfl ?_)
        obtain ⟨x10,g23,h⟩:=o8 h
        refine U6 R5 g23 rfl rfl rfl rfl rfl rfl rfl rfl ?_
        refine oA 4 rfl ?_
        refine l7 rfl rfl rfl (fun g24=>?_) (fun g24=>?_)
        ·replace h:=a0i h g24
         refine oB 9 rfl ?_
         cases h
         exact rfl
        ·replace h:=a0h h g24
         refine oA 4 rfl ?_
         obtain ⟨x11,g25,h⟩:=o8 h
         refine U6 R5 g25 rfl rfl rfl rfl rfl rfl rfl rfl ?_
         refine oB 4 rfl ?_
         cases h
         exact rfl
       ·obtain ⟨x523,rfl⟩:∃ q,q = y21:=⟨_,rfl⟩
        refine eI rfl h (fun h=>?_) fun h=>?_
        ·refine eSG (oB 2 rfl ?_)
         cases h
         exact j5 ⟨_,rfl,_,_,_,rfl,rfl,rfl⟩
        ·refine j6 (j3 (oB 2 rfl ?_))
         exact ⟨_,_,rfl,ih _ _ h⟩
      ·refine G5 ?_
       cases h
       exact ⟨_,rfl,rfl⟩
     ·subst hx
      refine eSG (oB 3 rfl ?_)
      cases h
      exact j5 ⟨_,_,_,rfl,rfl,rfl⟩
     ·subst hz
      rcases res with ⟨_ | _ | _ | _,_,_⟩ <;> first | exact absurd rfl hn | exact hr.elim | (cases h; exact hr)
  ·subst hz
   rcases res with ⟨_ | _ | _ | _,_,_⟩ <;> first | exact absurd rfl hn | exact hr.elim | (cases h; exact hr)
theorem Y0 {n:Nat} {s1:Str} {r:Str} (h:K9 n s1 = some r) :
  E env (.call 17 [.str s1]) [] = some (a4t s1 r):=by
 unfold K9 at h
 refine a0g rfl Tryz.func17 rfl rfl ?_
 refine eSG (oB 1 rfl (eSG (oB 1 rfl ?_)))
 obtain ⟨y1,g2,h⟩:=o8 h
 refine a1F [(3,.slice (.tag 0) (List.length y1) ((clI .u8) y1))] [(0,.tip (tpe 1 (List.length y1)) (List.length y1))] rfl ?_ ?_
 ·replace h:=g2
  clear g2
  refine eSG (oB 1 rfl ?_)
  refine o7 ?_
  refine J3 rfl ?_
  revert y1
  refine a2k (fun m (x:List Int × Int)=>O0 n s1 m x.1 x.2) (fun x=>[(0,.str s1),(3,.slice (.tag 0) (List.length x.1) ((clI .u8) x.1)),(4,.i x.2)]) (fun x=>[(0,.tip (tpe 1 (List.length x.1)) (List.length x.1))]) _ (fun _=>rfl) (fun m3 x y ih h=>?_) n (([]:List Int),0)
  obtain ⟨b503,i504⟩:=x
  rw [O0] at h
  refine j4 (eSG (oB 4 rfl ?_))
  refine eI rfl h (fun h=>?_) fun h=>?_
  ·refine j6 ?_
   obtain ⟨y4,g5,h⟩:=o8 h
   refine a1F [(0,.str s1),(3,.slice (.tag 0) (List.length y4) ((clI .u8) y4)),(4,.i i504)] [(0,.tip (tpe 1 (List.length y4)) (List.length y4))] rfl ?_ ?_
   ·replace h:=g5
    clear g5
    refine o7 ?_
    refine eSG (oA 2 rfl ?_)
    obtain ⟨b2,g6,h⟩:=o8 h
    refine a8B g6 rfl rfl rfl rfl rfl rfl ?_
    refine o5 ?_
    refine o7 ?_
    refine eSG (oB 2 rfl ?_)
    refine eI rfl h (fun h=>?_) fun h=>?_
    ·refine j3 (oA 2 rfl ?_)
     obtain ⟨l3,g8,h⟩:=o8 h
     refine a8A (encI .u8) g8 rfl rfl rfl rfl rfl rfl rfl rfl rfl rfl rfl rfl rfl rfl (a0W (J6 rfl) rfl) rfl rfl rfl ?_
     refine oB 1 rfl ?_
     cases h
     exact rfl
    ·refine eSG (oB 2 rfl ?_)
     refine eI rfl h (fun h=>?_) fun h=>?_
     ·refine j3 (oA 2 rfl ?_)
      obtain ⟨l4,g10,h⟩:=o8 h
      refine a8A (encI .u8) g10 rfl rfl rfl rfl rfl rfl rfl rfl rfl rfl rfl rfl rfl rfl (a0W (J6 rfl) rfl) rfl rfl rfl ?_
      refine oB 1 rfl ?_
      cases h
      exact rfl
     ·obtain ⟨y11,g12,h⟩:=o8 h
      refine a1F [(0,.str s1),(3,.slice (.tag 0) (List.length b503) ((clI .u8) b503)),(4,.i i504),(30,.bool y11)] [(0,.tip (tpe 1 (List.length b503)) (List.length b503))] rfl ?_ ?_
      ·replace h:=g12
       clear g12
       refine eSG (oB 2 rfl ?_)
       refine eI rfl h (fun h=>?_) fun h=>?_
       ·refine j6 ?_
        cases h
        exact rfl
       ·refine j3 (oB 2 rfl ?_)
        cases h
        exact rfl
      ·obtain ⟨x507,rfl⟩:∃ q,q = y11:=⟨_,rfl⟩
       refine eI rfl h (fun h=>?_) fun h=>?_
       ·refine j3 (oA 3 rfl ?_)
        obtain ⟨b5,g15,h⟩:=o8 h
        refine a8B g15 rfl rfl rfl rfl rfl rfl ?_
        refine oA 1 rfl ?_
        obtain ⟨l6,g16,h⟩:=o8 h
        refine a8A (encI .u8) g16 rfl rfl rfl rfl rfl rfl rfl rfl rfl rfl rfl rfl rfl rfl (a0W (J6 rfl) rfl) rfl rfl rfl ?_
        refine oB 1 rfl ?_
        cases h
        exact rfl
       ·refine j3 (oA 3 rfl ?_)
        obtain ⟨b7,g17,h⟩:=o8 h
        refine a8B g17 rfl rfl rfl rfl rfl rfl ?_
        refine oA 1 rfl ?_
        obtain ⟨l8,g18,h⟩:=o8 h
        refine a8A (encI .u8) g18 rfl rfl rfl rfl rfl rfl rfl rfl rfl rfl rfl rfl rfl rfl (a0W (J6 rfl) rfl) rfl rfl rfl ?_
        refine oB 1 rfl ?_
        cases h
        exact rfl
   ·obtain ⟨b508,rfl⟩:∃ q,q = y4:=⟨_,rfl⟩
    refine j3 (oB 3 rfl ?_)
    exact ⟨_,_,rfl,ih (_,_) _ h⟩
  ·refine G5 ?_
   cases h
   exact rfl
 ·obtain ⟨b511,rfl⟩:∃ q,q = y1:=⟨_,rfl⟩
  refine eSG (oA 1 rfl ?_)
  refine os_toStr rfl rfl rfl rfl rfl rfl rfl rfl rfl ?_
  refine oB 1 rfl ?_
  cases h
  exact j5 ⟨_,_,_,rfl,rfl,rfl⟩
theorem a5c {n:Nat} {t1:Tok} {r:Str} (h:Z5 n t1 = some r) :
  E env (.call 22 [.agg [.i t1.kind,.str t1.text,.i t1.at_,.i t1.len]]) [] = some (a4u t1 r):=by
 unfold Z5 at h
 refine a0g rfl Tryz.func22 rfl rfl ?_
 refine eSG (oB 2 rfl (j4 (eSG (oB 2 rfl ?_))))
 refine o7 ?_
 refine eSG (oB 2 rfl ?_)
 refine eI rfl h (fun h=>?_) fun h=>?_
 ·refine eSG (oA 2 rfl ?_)
  obtain ⟨r2,g2,h⟩:=o8 h
  refine o6 rfl rfl rfl rfl rfl (Y0 g2) rfl ?_
  obtain ⟨s3,g3,h⟩:=o8 h
  refine U5 g3 rfl rfl rfl rfl ?_
  obtain ⟨s4,g4,h⟩:=o8 h
  refine U5 g4 rfl rfl rfl rfl ?_
  refine oB 1 rfl ?_
  cases h
  exact j5 ⟨_,_,_,rfl,rfl,rfl⟩
 ·refine eSG (oB 2 rfl ?_)
  refine eI rfl h (fun h=>?_) fun h=>?_
  ·refine eSG (oA 2 rfl ?_)
   obtain ⟨r5,g6,h⟩:=o8 h
   refine o6 rfl rfl rfl rfl rfl (Y0 g6) rfl ?_
   obtain ⟨s6,g7,h⟩:=o8 h
   refine U5 g7 rfl rfl rfl rfl ?_
   obtain ⟨s7,g8,h⟩:=o8 h
   refine U5 g8 rfl rfl rfl rfl ?_
   refine oB 1 rfl ?_
   cases h
   exact j5 ⟨_,_,_,rfl,rfl,rfl⟩
  ·refine eSG (oB 2 rfl ?_)
   refine eI rfl h (fun h=>?_) fun h=>?_
   ·refine eSG (oA 2 rfl ?_)
    obtain ⟨r8,g10,h⟩:=o8 h
    refine o6 rfl rfl rfl rfl rfl (Y0 g10) rfl ?_
    obtain ⟨s9,g11,h⟩:=o8 h
    refine U5 g11 rfl rfl rfl rfl ?_
    obtain ⟨s10,g12,h⟩:=o8 h
    refine U5 g12 rfl rfl rfl rfl ?_
    refine oB 1 rfl ?_
    cases h
    exact j5 ⟨_,_,_,rfl,rfl,rfl⟩
   ·refine eSG (oB 2 rfl ?_)
    refine eI rfl h (fun h=>?_) fun h=>?_
    ·refine eSG (oA 2 rfl ?_)
     obtain ⟨r11,g14,h⟩:=o8 h
     refine o6 rfl rfl rfl rfl rfl (Y0 g14) rfl ?_
     obtain ⟨s12,g15,h⟩:=o8 h
     refine U5 g15 rfl rfl rfl rfl ?_
     obtain ⟨s13,g16,h⟩:=o8 h
     refine U5 g16 rfl rfl rfl rfl ?_
     refine oB 1 rfl ?_
     cases h
     exact j5 ⟨_,_,_,rfl,rfl,rfl⟩
    ·refine j6 (eSG (oB 3 rfl ?_))
     cases h
     exact j5 ⟨_,_,_,rfl,rfl,rfl⟩
theorem a5b {n:Nat} {l1:List Tok} {r:Str × Bool} (h:P9 n l1 = some r) :
  E env (.call 14 [.sl M0 l1]) [] = some (a1B l1 r):=by
 unfold P9 at h
 refine a0g rfl Tryz.func14 rfl rfl ?_
 refine eSG (oB 2 rfl (eSG (oB 1 rfl ?_)))
 obtain ⟨y1,g2,h⟩:=a1N h
 refine a4f (KR:=fun r=>OutK env 14 0 Tryz.f14.results.toList (a1B l1 r)) y1 (fun z16=>[(4,.str z16)]) (fun z16=>[]) rfl ?_ (fun z16 hx=>?_) (fun r res hz hr hn=>?_)
 ·replace h:=g2
  clear g2
  refine eSG (oB 1 rfl ?_)
  refine o7 ?_
  refine J3 rfl ?_
  revert y1
  refine a2k (fun m (x:Str × Int)=>A9 n l1 m x.1 x.2) (fun x=>[(0,.sl M0 l1),(4,.str x.1),(5,.i x.2)]) (fun x=>[]) _ (fun _=>rfl) (fun m3 x y ih h=>?_) n ([],0)
  obtain ⟨s504,i505⟩:=x
  rw [A9] at h
  refine j4 (eSG (oB 4 rfl ?_))
  refine eI rfl h (fun h=>?_) fun h=>?_
  ·refine j6 (j4 ?_)
   refine o7 ?_
   obtain ⟨y4,g5,h⟩:=o8 h
   refine a1F [(0,.sl M0 l1),(4,.str y4),(5,.i i505)] [] rfl ?_ ?_
   ·replace h:=g5
    clear g5
    refine eSG (oB 2 rfl ?_)
    refine eI rfl h (fun h=>?_) fun h=>?_
    ·refine j3 (oA 1 rfl ?_)
     obtain ⟨s2,g7,h⟩:=o8 h
     refine U5 g7 rfl rfl rfl rfl ?_
     refine oB 1 rfl ?_
     cases h
     exact rfl
    ·refine j6 ?_
     cases h
     exact rfl
   ·obtain ⟨s509,rfl⟩:∃ q,q = y4:=⟨_,rfl⟩
    refine j4 ?_
    obtain ⟨y8,g9,h⟩:=o8 h
    refine a1F [(0,.sl M0 l1),(4,.str s509),(5,.i i505),(27,.bool y8)] [] rfl ?_ ?_
    ·replace h:=g9
     clear g9
     refine j3 (oA 2 rfl ?_)
     obtain ⟨x3,g10,h⟩:=o8 h
     refine U6 R5 g10 rfl rfl rfl rfl rfl rfl rfl rfl ?_
     refine oA 5 rfl ?_
     refine l7 rfl rfl rfl (fun g11=>?_) (fun g11=>?_)
     ·replace h:=a0i h g11
      refine oB 4 rfl ?_
      cases h
      exact rfl
     ·replace h:=a0h h g11
      refine oB 4 rfl ?_
      cases h
      exact rfl
    ·obtain ⟨x510,rfl⟩:∃ q,q = y8:=⟨_,rfl⟩
     refine eI rfl h (fun h=>?_) fun h=>?_
     ·refine eSG (oB 2 rfl ?_)
      cases h
      exact j5 ⟨_,rfl,_,_,_,rfl,rfl,rfl⟩
     ·refine j6 (j3 (oA 3 rfl ?_))
      obtain ⟨x4,g13,h⟩:=o8 h
      refine U6 R5 g13 rfl rfl rfl rfl rfl rfl rfl rfl ?_
      refine a2P (c:=[.i x4.kind,.str x4.text,.i x4.at_,.i x4.len]) rfl rfl rfl rfl rfl rfl rfl ?_
      obtain ⟨r5,g14,h⟩:=o8 h
      refine o6 rfl rfl rfl rfl rfl (a5c g14) rfl ?_
      obtain ⟨s6,g15,h⟩:=o8 h
      refine U5 g15 rfl rfl rfl rfl ?_
      refine oB 1 rfl (j3 (oB 3 rfl ?_))
      exact ⟨_,_,rfl,ih (_,_) _ h⟩
  ·refine G5 ?_
   cases h
   exact ⟨_,rfl,rfl⟩
 ·subst hx
  obtain ⟨s513,rfl⟩:∃ q,q = z16:=⟨_,rfl⟩
  refine eSG (oB 6 rfl ?_)
  cases h
  exact j5 ⟨_,_,_,rfl,rfl,rfl⟩
 ·subst hz
  rcases res with ⟨_ | _ | _ | _,_,_⟩ <;> first | exact absurd rfl hn | exact hr.elim | (cases h; exact hr)
theorem a4s {n:Nat} {a1:List Tok} {b2:List Tok} {places3:Bool} {r:Bool} (h:X3 n a1 b2 places3 = some r) :
  E env (.call 15 [.sl M0 a1,.sl M0 b2,.bool places3]) [] = some (a1c a1 b2 places3 r):=by
 unfold X3 at h
 refine a0g rfl Tryz.func15 rfl rfl ?_
 refine eSG (oB 1 rfl (j4 (eSG (oB 5 rfl ?_))))
 refine eI rfl h (fun h=>?_) fun h=>?_
 ·refine eSG (oB 1 rfl ?_)
  cases h
  exact j5 ⟨_,_,_,rfl,rfl,rfl⟩
 ·refine j6 ?_
  obtain ⟨y2,g3,h⟩:=a1N h
  refine a4f (KR:=fun r=>OutK env 15 0 Tryz.f15.results.toList (a1c a1 b2 places3 r)) y2 (fun z20=>[]) (fun z20=>[]) rfl ?_ (fun z20 hx=>?_) (fun r res hz hr hn=>?_)
  ·replace h:=g3
   clear g3
   refine eSG (oB 1 rfl ?_)
   refine o7 ?_
   refine J3 rfl ?_
   revert y2
   refine a2k (fun m (x:Int)=>I5 n a1 b2 places3 m x) (fun x=>[(0,.sl M0 a1),(1,.sl M0 b2),(2,.bool places3),(7,.i x)]) (fun x=>[]) _ (fun _=>rfl) (fun m4 x y ih h=>?_) n 0
   obtain ⟨a5B,rfl⟩:∃ q,q = x:=⟨_,rfl⟩
   rw [I5] at h
   refine j4 (eSG (oB 4 rfl ?_))
   refine eI rfl h (fun h=>?_) fun h=>?_
   ·refine j6 (j4 ?_)
    refine o7 ?_
    obtain ⟨y5,g6,h⟩:=o8 h
    refine a1F [(0,.sl M0 a1),(1,.sl M0 b2),(2,.bool places3),(7,.i a5B),(71,.bool y5)] [] rfl ?_ ?_
    ·replace h:=g6
     clear g6
     refine j3 (oA 2 rfl ?_)
     obtain ⟨x4,g7,h⟩:=o8 h
     refine U6 R5 g7 rfl rfl rfl rfl rfl rfl rfl rfl ?_
     refine oA 4 rfl ?_
     obtain ⟨x5,g8,h⟩:=o8 h
     refine U6 R5 g8 rfl rfl rfl rfl rfl rfl rfl rfl ?_
     refine oA 4 rfl ?_
     refine l7 rfl rfl rfl (fun g9=>?_) (fun g9=>?_)
     ·replace h:=a0i h g9
      refine oB 41 rfl ?_
      cases h
      exact rfl
     ·replace h:=a0h h g9
      refine oA 2 rfl ?_
      obtain ⟨x6,g10,h⟩:=o8 h
      refine U6 R5 g10 rfl rfl rfl rfl rfl rfl rfl rfl ?_
      refine oA 4 rfl ?_
      obtain ⟨x7,g11,h⟩:=o8 h
      refine U6 R5 g11 rfl rfl rfl rfl rfl rfl rfl rfl ?_
      refine oA 5 rfl ?_
      refine l7 rfl rfl rfl (fun g12=>?_) (fun g12=>?_)
      ·replace h:=a0i h g12
       refine oB 28 rfl ?_
       cases h
       exact rfl
      ·replace h:=a0h h g12
       refine oA 2 rfl ?_
       refine l7 rfl rfl rfl (fun g13=>?_) (fun g13=>?_)
       ·replace h:=a0i h g13
        refine oA 2 rfl ?_
        obtain ⟨x8,g14,h⟩:=o8 h
        refine U6 R5 g14 rfl rfl rfl rfl rfl rfl rfl rfl ?_
        refine oA 4 rfl ?_
        obtain ⟨x9,g15,h⟩:=o8 h
        refine U6 R5 g15 rfl rfl rfl rfl rfl rfl rfl rfl ?_
        refine oA 4 rfl ?_
        refine l7 rfl rfl rfl (fun g16=>?_) (fun g16=>?_)
        ·replace h:=a0i h g16
         refine oB 14 rfl ?_
         cases h
         exact rfl
        ·replace h:=a0h h g16
         refine oA 2 rfl ?_
         obtain ⟨x10,g17,h⟩:=o8 h
         refine U6 R5 g17 rfl rfl rfl rfl rfl rfl rfl rfl ?_
         refine oA 4 rfl ?_
         obtain ⟨x11,g18,h⟩:=o8 h
         refine U6 R5 g18 rfl rfl rfl rfl rfl rfl rfl rfl ?_
         refine oB 6 rfl ?_
         cases h
         exact rfl
       ·replace h:=a0h h g13
        refine oB 26 rfl ?_
        cases h
        exact rfl
    ·obtain ⟨x505,rfl⟩:∃ q,q = y5:=⟨_,rfl⟩
     refine eI rfl h (fun h=>?_) fun h=>?_
     ·refine eSG (oB 1 rfl ?_)
      cases h
      exact j5 ⟨_,rfl,_,_,_,rfl,rfl,rfl⟩
     ·refine j6 (j3 (oB 3 rfl ?_))
      exact ⟨_,_,rfl,ih _ _ h⟩
   ·refine G5 ?_
    cases h
    exact ⟨_,rfl,rfl⟩
  ·subst hx
   refine eSG (oB 1 rfl ?_)
   cases h
   exact j5 ⟨_,_,_,rfl,rfl,rfl⟩
  ·subst hz
   rcases res with ⟨_ | _ | _ | _,_,_⟩ <;> first | exact absurd rfl hn | exact hr.elim | (cases h; exact hr)
theorem a6J {n:Nat} {l1:List Tok} {r:Str × Int} (h:a0K n l1 = some r) :
  E env (.call 12 [.sl M0 l1]) [] = some (a5E l1 r):=by
 unfold a0K at h
 refine a0g rfl Tryz.func12 rfl rfl ?_
 refine eSG (oB 2 rfl (eSG (oA 1 rfl ?_)))
 obtain ⟨⟨r2,r3⟩,g1,h⟩:=o8 h
 refine o6 rfl rfl rfl rfl rfl (a5b g1) rfl ?_
 refine oB 5 rfl (j4 (eSG (oB 2 rfl ?_)))
 refine eI rfl h (fun h=>?_) fun h=>?_
 ·refine eSG (oB 2 rfl ?_)
  cases h
  exact j5 ⟨_,_,_,rfl,rfl,rfl⟩
 ·refine j6 (eSG (oA 1 rfl ?_))
  obtain ⟨⟨l4,c5,a6⟩,g3,h⟩:=o8 h
  refine o6 rfl rfl rfl rfl rfl (a9x g3) rfl ?_
  refine oB 6 rfl (j4 ?_)
  obtain ⟨y4,g5,h⟩:=o8 h
  refine a1F [(4,.str r2),(28,.bool y4)] [] rfl ?_ ?_
  ·replace h:=g5
   clear g5
   refine j3 (oA 4 rfl ?_)
   refine l7 rfl rfl rfl (fun g6=>?_) (fun g6=>?_)
   ·replace h:=a0i h g6
    refine oB 5 rfl ?_
    cases h
    exact rfl
   ·replace h:=a0h h g6
    refine oA 2 rfl ?_
    obtain ⟨r7,g7,h⟩:=o8 h
    refine o6 rfl rfl rfl rfl rfl (a4s g7) rfl ?_
    refine oB 2 rfl ?_
    cases h
    exact rfl
  ·obtain ⟨x501,rfl⟩:∃ q,q = y4:=⟨_,rfl⟩
   refine eI rfl h (fun h=>?_) fun h=>?_
   ·refine eSG (oB 2 rfl ?_)
    cases h
    exact j5 ⟨_,_,_,rfl,rfl,rfl⟩
   ·refine j6 (eSG (oB 3 rfl ?_))
    cases h
    exact j5 ⟨_,_,_,rfl,rfl,rfl⟩
end Go.Proofs.YtlhgheonlcjpaaaGreat
namespace Go.Proofs.YtlhgheonlcjpaaaGreat
open Go Go.Vm
theorem a3t {n:Nat} {l1:List Tok} {r:Bool} (h:X9 n l1 = some r) :
  E env (.call 4 [.sl M0 l1]) [] = some (a0G l1 r):=by
 unfold X9 at h
 refine a0g rfl Tryz.func4 rfl rfl ?_
 refine eSG (oB 1 rfl (eSG (oB 1 rfl ?_)))
 obtain ⟨y1,g2,h⟩:=a1N h
 refine a4f (KR:=fun r=>OutK env 4 0 Tryz.f4.results.toList (a0G l1 r)) y1 (fun z15=>[(0,.sl M0 l1)]) (fun z15=>[]) rfl ?_ (fun z15 hx=>?_) (fun r res hz hr hn=>?_)
 ·replace h:=g2
  clear g2
  refine eSG (oB 1 rfl ?_)
  refine o7 ?_
  refine J3 rfl ?_
  revert y1
  refine a2k (fun m (x:Int × Int)=>I4 n l1 m x.1 x.2) (fun x=>[(0,.sl M0 l1),(3,.i x.1),(4,.i x.2)]) (fun x=>[]) _ (fun _=>rfl) (fun m3 x y ih h=>?_) n (0,0)
  obtain ⟨n502,i503⟩:=x
  rw [I4] at h
  refine j4 (eSG (oB 4 rfl ?_))
  refine eI rfl h (fun h=>?_) fun h=>?_
  ·refine j6 (j4 ?_)
   refine o7 ?_
   refine j4 ?_
   obtain ⟨y4,g5,h⟩:=o8 h
   refine a1F [(0,.sl M0 l1),(3,.i n502),(4,.i i503),(27,.bool y4)] [] rfl ?_ ?_
   ·replace h:=g5
    clear g5
    refine j3 (oA 3 rfl ?_)
    refine l7 rfl rfl rfl (fun g6=>?_) (fun g6=>?_)
    ·replace h:=a0i h g6
     refine oB 10 rfl ?_
     cases h
     exact rfl
    ·replace h:=a0h h g6
     refine oA 2 rfl ?_
     obtain ⟨x2,g7,h⟩:=o8 h
     refine U6 R5 g7 rfl rfl rfl rfl rfl rfl rfl rfl ?_
     refine oB 7 rfl ?_
     cases h
     exact rfl
   ·obtain ⟨x506,rfl⟩:∃ q,q = y4:=⟨_,rfl⟩
    refine eI rfl h (fun h=>?_) fun h=>?_
    ·refine eSG (oB 1 rfl ?_)
     cases h
     exact j5 ⟨_,rfl,_,_,_,rfl,rfl,rfl⟩
    ·refine j6 (j3 (oA 3 rfl ?_))
     obtain ⟨x3,g9,h⟩:=o8 h
     refine U6 R5 g9 rfl rfl rfl rfl rfl rfl rfl rfl ?_
     refine oB 5 rfl (j3 (oB 3 rfl ?_))
     exact ⟨_,_,rfl,ih (_,_) _ h⟩
  ·refine G5 ?_
   cases h
   exact ⟨_,rfl,rfl⟩
 ·subst hx
  refine eSG (oA 1 rfl ?_)
  obtain ⟨⟨r4,r5⟩,g10,h⟩:=o8 h
  refine o6 rfl rfl rfl rfl rfl (a7h g10) rfl ?_
  refine oB 5 rfl (eSG (oA 1 rfl ?_))
  obtain ⟨⟨r6,r7⟩,g11,h⟩:=o8 h
  refine o6 rfl rfl rfl rfl rfl (a6J g11) rfl ?_
  refine oB 5 rfl (eSG (oA 4 rfl ?_))
  refine l7 rfl rfl rfl (fun g12=>?_) (fun g12=>?_)
  ·replace h:=a0i h g12
   refine oA 5 rfl ?_
   refine l7 rfl rfl rfl (fun g13=>?_) (fun g13=>?_)
   ·replace h:=a0i h g13
    obtain ⟨r8,g14,h⟩:=o8 h
    refine o6 rfl rfl rfl rfl rfl (a6o g14) rfl ?_
    refine oB 2 rfl ?_
    cases h
    exact j5 ⟨_,_,_,rfl,rfl,rfl⟩
   ·replace h:=a0h h g13
    refine oB 3 rfl ?_
    cases h
    exact j5 ⟨_,_,_,rfl,rfl,rfl⟩
  ·replace h:=a0h h g12
   refine oB 8 rfl ?_
   cases h
   exact j5 ⟨_,_,_,rfl,rfl,rfl⟩
 ·subst hz
  rcases res with ⟨_ | _ | _ | _,_,_⟩ <;> first | exact absurd rfl hn | exact hr.elim | (cases h; exact hr)
end Go.Proofs.YtlhgheonlcjpaaaGreat
namespace Go.Proofs.YtlhgheonlcjpaaaGreat
open Go Go.Vm
theorem spells_E (l:List Tok):E env (.call 4 [.slice .sealed (List.length l) (M0 l)]) [] = some (.ret (.bool true) []):=a3t (a9y l)
end Go.Proofs.YtlhgheonlcjpaaaGreat
namespace Go.Vm
open Go
variable {env:Env}
def rho0:Rho:=⟨fun _=>none,fun _ _=>none⟩
def lab0:Lab:=fun _ _=>none
def a0j (B:Nat):Lab:=fun b o=>if b = B /\ o = 0 then some (some 0) else none
def hp1:Hp:=[(0,.row [.slice (.tag 1) 0 []]),(1,.tip 0 0)]
end Go.Vm
namespace Go.Proofs.YtlhgheonlcjpaaaGreat
open Go Go.Vm
def M63:Nat:=9223372036854775807
theorem b1z:maxLen = M63:=by kernel_rfl
structure Rd (W:World) (vs:List V) (cs:List Value):Prop where
 rel:p9 rho0 lab0 W vs cs
 nf:∀ v ∈ vs,NF v
 one:∀ x ∈ cs,x.oneCell' = true
theorem Rd.nil (W:World):Rd W [] []:=⟨⟨rfl,by simp⟩,by simp,by simp⟩
theorem Rd.cons {W:World} {v:V} {x:Value} {vs:List V} {cs:List Value} (h:Rel rho0 lab0 W v x) (hn:NF v) (ho:x.oneCell' = true) (g:Rd W vs cs):Rd W (v :: vs) (x :: cs) :=
 ⟨o9.2 ⟨_,_,rfl,h,g.rel⟩,fun u hu=>(List.mem_cons.1 hu).elim (fun e=>e ▸ hn) (g.nf u),fun u hu=>(List.mem_cons.1 hu).elim (fun e=>e ▸ ho) (g.one u)⟩
theorem Rd.append {W:World} {vs us:List V} {cs ds:List Value} (h:Rd W vs cs) (g:Rd W us ds):Rd W (vs ++ us) (cs ++ ds) :=
 ⟨p9.append h.rel g.rel,fun u hu=>(List.mem_append.1 hu).elim (h.nf u) (g.nf u),fun u hu=>(List.mem_append.1 hu).elim (h.one u) (g.one u)⟩
theorem a8x {α:Type} {Q:Nat -> α -> Prop}:∀ n,(∀ i,i < n -> ∃ x,Q i x) -> ∃ l:List α,l.length = n /\ ∀ i x,l[i]? = some x -> Q i x
 | 0,_=>⟨[],rfl,fun i x h=>by simp at h⟩
 | n + 1,h=>by
  obtain ⟨l,h1,h2⟩:=a8x n fun i hi=>h i (by omega)
  obtain ⟨x,hx⟩:=h n (by omega)
  refine ⟨l ++ [x],by simp [h1],fun i y hy=>?_⟩
  rw [List.getElem?_append] at hy
  split at hy
  ·exact h2 i y hy
  ·rename_i hi
   have:i = n:=by
    rcases Nat.lt_or_ge (i - l.length) 1 with h3 | h3
    ·omega
    ·rw [List.getElem?_eq_none (by simpa using h3)] at hy; cases hy
   subst this
   rw [h1,Nat.sub_self] at hy
   simp at hy
   subst hy
   exact hx
theorem rd_list {α:Type} {sz:Nat} {c1:α -> List V} {cl:List α -> List V} (he:a0q sz c1 cl) (hsz:0 < sz) {F:α -> Prop} {W:World} {a:Addr} {len cap:Nat} (hlc:len <= cap)
  (hel:∀ i,i < len -> ∃ cs,W.cells? 0 (a.add (i * sz)) sz = some cs /\ ∃ x,Rd W (c1 x) cs /\ F x) :
  ∃ l:List α,l.length = len /\ (∀ x ∈ l,F x) /\ Rel rho0 lab0 W (.slice .sealed (List.length l) (cl l)) (.slice (some a) len cap) /\ NF (.slice .sealed (List.length l) (cl l)):=by
 obtain ⟨l,h1,h2⟩:=a8x (Q:=fun i x=>∃ cs,W.cells? 0 (a.add (i * sz)) sz = some cs /\ Rd W (c1 x) cs /\ F x) len fun i hi=>by
  obtain ⟨cs,g1,x,g2,g3⟩:=hel i hi
  exact ⟨x,cs,g1,g2,g3⟩
 subst h1
 have hF:∀ x ∈ l,F x:=fun x hx=>by
  obtain ⟨i,hi⟩:=List.getElem?_of_mem hx
  obtain ⟨_,_,_,h⟩:=h2 i x hi
  exact h
 have hlen:=he.length l
 have part:∀ q v,(cl l)[q]? = some v -> ∃ x cs,l[q / sz]? = some x /\ W.cells? 0 (a.add (q / sz * sz)) sz = some cs /\ Rd W (c1 x) cs /\ (c1 x)[q % sz]? = some v:=by
  intro q v hv
  have hq:q < l.length * sz:=by
   rw [<- hlen]
   rcases Nat.lt_or_ge q (cl l).length with h | h
   ·exact h
   ·rw [List.getElem?_eq_none h] at hv; cases hv
  have hi:q / sz < l.length:=Nat.div_lt_of_lt_mul (by rw [Nat.mul_comm]; exact hq)
  have hx:l[q / sz]? = some l[q / sz]:=List.getElem?_eq_getElem hi
  obtain ⟨cs,g1,g2,g3⟩:=h2 _ _ hx
  refine ⟨_,cs,hx,g1,g2,?_⟩
  have h3:=he.at hx
  have h4:((cl l).drop (q / sz * sz))[q % sz]? = some v:=by
   rw [List.getElem?_drop,Nat.mul_comm,Nat.div_add_mod]; exact hv
  rw [h3,List.getElem?_append_left (by rw [he.len]; exact Nat.mod_lt _ hsz)] at h4
  exact h4
 refine ⟨l,rfl,hF,?_,.slice _ _ _ (fun g h=>by cases h) (fun v hv=>?_)⟩
 ·rcases Nat.eq_zero_or_pos l.length with h0 | h0
  ·have:l = []:=List.length_eq_zero_iff.1 h0
   subst this
   rw [he.nil]
   exact .slice _ 0 [] [] 0 0 (some a) cap rfl (Nat.zero_le _) (fun h=>by omega) (fun _=>rfl) (fun i x h=>by simp at h) (fun i v x h=>by simp at h) trivial (by simp) (by simp)
  ·
   have hs:a.spot = none:=by
    obtain ⟨cs,g1,g2,g3⟩:=h2 0 l[0] (List.getElem?_eq_getElem h0)
    obtain ⟨_,c2,c3⟩:=World.cells?_some g1
    have c4:=c3 0 hsz
    simp only [Nat.zero_mul,Addr.add,if_true] at c4
    have hc:0 < cs.length:=by omega
    rw [List.getElem?_eq_getElem hc] at c4
    unfold World.cell? at c4
    split at c4
    ·split at c4
     ·cases c4
     ·rename_i hsp
      cases hq:a.spot with
      | none=>rfl
      | some s=>rw [hq] at hsp; simp at hsp
    ·cases c4
   obtain ⟨b,o,sp⟩:=a
   simp only at hs
   subst hs
   have hadd:∀ o n,(⟨b,o,none⟩:Addr).add n = ⟨b,o + n,none⟩:=fun o n=>by
    unfold Addr.add
    split
    ·rename_i h; subst h; rfl
    ·rfl
   have cells:∀ q v,(cl l)[q]? = some v -> ∃ x,W.cell? ⟨b,o + q,none⟩ = some x /\ Rel rho0 lab0 W v x /\ x.oneCell' = true:=by
    intro q v hv
    obtain ⟨x,cs,_,g1,g2,g3⟩:=part q v hv
    obtain ⟨_,c2,c3⟩:=World.cells?_some g1
    have c4:=c3 (q % sz) (Nat.mod_lt _ hsz)
    rw [hadd,hadd,Nat.add_assoc,Nat.mul_comm,Nat.div_add_mod] at c4
    have hj:q % sz < cs.length:=by rw [c2]; exact Nat.mod_lt _ hsz
    rw [List.getElem?_eq_getElem hj] at c4
    exact ⟨_,c4,g2.rel.2 _ _ _ g3 (List.getElem?_eq_getElem hj),g2.one _ (List.getElem_mem hj)⟩
   have hget:∀ q,q < (cl l).length -> ∃ x,W.cell? ⟨b,o + q,none⟩ = some x /\ Rel rho0 lab0 W ((cl l)[q]?.getD .undef) x /\ x.oneCell' = true:=fun q hq=>by
    have hv:(cl l)[q]? = some (cl l)[q]:=List.getElem?_eq_getElem hq
    rw [hv]
    exact cells q _ hv
   obtain ⟨xs,e1,e2⟩:=a8x (cl l).length hget
   refine .slice _ l.length (cl l) xs b o (some ⟨b,o,none⟩) cap e1 hlc (fun _=>rfl) (fun h=>by omega) (fun i x hx=>⟨rfl,(e2 i x hx).1⟩) (fun i v x hv hx=>?_) trivial (fun x hx=>?_) (fun v hv=>?_)
   ·have:=(e2 i x hx).2.1
    rw [hv] at this
    exact this
   ·obtain ⟨i,hi⟩:=List.getElem?_of_mem hx
    exact (e2 i x hi).2.2
   ·obtain ⟨q,hq⟩:=List.getElem?_of_mem hv
    obtain ⟨x,cs,_,_,g2,g3⟩:=part q v hq
    exact g2.nf v (List.mem_of_getElem? g3)
 ·obtain ⟨q,hq⟩:=List.getElem?_of_mem hv
  obtain ⟨x,cs,_,_,g2,g3⟩:=part q v hq
  exact g2.nf v (List.mem_of_getElem? g3)
section
variable {H:Type} {enc:TypeId × Value -> H} {W:World} {spare:Nat -> Bool} {held:Bool}
theorem rd_slice {α:Type} {sz t e:Nat} {c1:α -> List V} {cl:List α -> List V} (he:a0q sz c1 cl) (hsz:0 < sz) {F:α -> Prop} {n:Nat} {cs:List Value} {x:DataW H × List MemPlace} (ht:Tryz.prog.underlying t = some (.slice e)) (hc:Tryz.prog.cellsOf e = sz)
  (hel:∀ m cs x,m < n -> DataW.trod enc Tryz.prog W 0 spare held m e cs = some x -> ∃ a,Rd W (c1 a) cs /\ F a) (h:DataW.trod enc Tryz.prog W 0 spare held n t cs = some x) :
  ∃ l:List α,(∀ a ∈ l,F a) /\ l.length <= M63 /\ Rd W [.slice .sealed (List.length l) (cl l)] cs:=by
 rcases DataW.trod_slice ht h with ⟨rfl,_⟩ | ⟨a,len,cap,elems,rest,m,rfl,rfl,_,hb,hl,hm,hlen,hE,_⟩
 ·refine ⟨[],by simp,by simp [M63],?_⟩
  rw [he.nil]
  exact Rd.cons (.slice _ 0 [] [] 0 0 none 0 rfl (Nat.zero_le _) (fun h=>by omega) (fun _=>rfl) (fun i x h=>by simp at h) (fun i v x h=>by simp at h) trivial (by simp) (by simp)) (.slice _ _ _ (fun g h=>by cases h) (by simp)) rfl (Rd.nil W)
 ·obtain ⟨l,h1,h2,h3,h4⟩:=rd_list he hsz (F:=F) (W:=W) (a:=a) hl (fun i hi=>by
   have h5:=hE i hi
   rw [List.getElem?_eq_getElem (by rw [hlen]; exact hi),hc,Option.bind_eq_some_iff] at h5
   obtain ⟨ds,h6,h7⟩:=h5
   obtain ⟨y,h8,h9⟩:=hel m ds _ (Nat.lt_succ_self m) h7
   exact ⟨ds,h6,y,h8,h9⟩)
  refine ⟨l,h2,?_,Rd.cons h3 h4 rfl (Rd.nil W)⟩
  rw [h1]
  rw [b1z] at hm
  omega
theorem cellsE:Tryz.prog.cellsOf 29 = 4:=by kernel_rfl
theorem cellsI:Tryz.prog.cellsOf 3 = 1:=by kernel_rfl
theorem cellsS:Tryz.prog.cellsOf 9 = 1:=by kernel_rfl
theorem four {α:Type} (l:List α) (h:l.length = 4):∃ y0 y1 y2 y3,l = [y0,y1,y2,y3]:=by
 match l,h with
 | [y0,y1,y2,y3],_=>exact ⟨_,_,_,_,rfl⟩
theorem rd_el (n:Nat) (cs:List Value) (x:DataW H × List MemPlace) (h:DataW.trod enc Tryz.prog W 0 spare held n 29 cs = some x):∃ t:Tok,Rd W (c1Tok t) cs /\ True:=by
 obtain ⟨xs,m,rfl,_,hl,hxs,hf⟩:=DataW.trod_struct Tryz.underlying29 h
 rw [cellsE] at hl
 obtain ⟨z0,z1,z2,z3,rfl⟩:∃ z0 z1 z2 z3,cs = [z0,z1,z2,z3]:=four cs hl
 have hx:∀ i,i < 4 -> ∃ y,xs[i]? = some y:=fun i hi=>⟨xs[i]'(by rw [hxs]; exact hi),List.getElem?_eq_getElem _⟩
 obtain ⟨y0,k0⟩:=hx 0 (by omega)
 obtain ⟨y1,k1⟩:=hx 1 (by omega)
 obtain ⟨y2,k2⟩:=hx 2 (by omega)
 obtain ⟨y3,k3⟩:=hx 3 (by omega)
 have f0:=hf 0 _ rfl
 have f1:=hf 1 _ rfl
 have f2:=hf 2 _ rfl
 have f3:=hf 3 _ rfl
 simp only [k0,k1,k2,k3,cellsI,cellsS,List.drop,List.take] at f0 f1 f2 f3
 obtain ⟨a0,e0,_,_⟩:=DataW.trod_int Tryz.underlying3 f0
 obtain ⟨a1,e1,_,b1⟩:=DataW.trod_string Tryz.underlying9 f1
 obtain ⟨a2,e2,_,_⟩:=DataW.trod_int Tryz.underlying3 f2
 obtain ⟨a3,e3,_,_⟩:=DataW.trod_int Tryz.underlying3 f3
 obtain ⟨rfl,_⟩:=List.cons.inj e0
 obtain ⟨rfl,_⟩:=List.cons.inj e1
 obtain ⟨rfl,_⟩:=List.cons.inj e2
 obtain ⟨rfl,_⟩:=List.cons.inj e3
 exact ⟨⟨a0,a1.data.toList,a2,a3⟩,Rd.cons (.int _ _) (.int _ _) rfl (Rd.cons (.str a1.data.toList) (.str _) rfl (Rd.cons (.int _ _) (.int _ _) rfl (Rd.cons (.int _ _) (.int _ _) rfl (Rd.nil W)))),trivial⟩
theorem rd_arg {n:Nat} {cs:List Value} {x:DataW H × List MemPlace} (h:DataW.trod enc Tryz.prog W 0 spare held n 27 cs = some x) :
  ∃ l:List Tok,l.length <= M63 /\ Rd W [.slice .sealed (List.length l) (M0 l)] cs:=by
 obtain ⟨l,_,h2,h3⟩:=rd_slice R5 (by omega) (F:=fun _=>True) Tryz.underlying27 cellsE (fun m cs x _ hh=>rd_el m cs x hh) h
 exact ⟨l,h2,h3⟩
end
end Go.Proofs.YtlhgheonlcjpaaaGreat
