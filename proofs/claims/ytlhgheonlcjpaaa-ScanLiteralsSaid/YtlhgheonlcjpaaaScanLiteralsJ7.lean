/- What the functions under ScanLiterals compute, step by step, as functions in Lean: texts that were built one by one, joined. -/
import Derived.Test.YtlhgheonlcjpaaaScanLiteralsJ6
import Derived.Test.YtlhgheonlcjpaaaProg
import Derived.Tactics
import Derived.Tactics2
import Derived.Defers
import Derived.Laws.Pointers
import Derived.Laws.LoneSync
import Derived.RegionTactic
import Derived.RegionCalls
import Derived.ChangeAlike
import Derived.Laws.World
import Derived.KernelRfl
import Derived.Shelf.Strings.Count
import Derived.ChangeArms
import Derived.DataReads
import Derived.ChangeStays
import Derived.ReadAgain
set_option maxRecDepth 100000
set_option maxHeartbeats 20000000
set_option linter.unusedSimpArgs false
set_option linter.unusedVariables false
set_option linter.unusedSectionVars false
namespace Go.Proofs.Ytlhgheonlcjpaaa.Sc
open Go Go.Vm
def Lay (s:List UInt8):Nat -> List Tok -> Nat -> Prop
 | k,[],e=>k = e
 | k,t :: r,e=>t.a = G6 s k /\ t.a < s.length /\ 0 < t.l /\ t.a + t.l <= s.length /\ Lay s (t.a + t.l) r e
theorem Lay.add {s:List UInt8} {t:Tok}:∀ {l:List Tok} {k e:Nat},Lay s k l e -> t.a = G6 s e -> t.a < s.length -> 0 < t.l -> t.a + t.l <= s.length -> Lay s k (l ++ [t]) (t.a + t.l)
 | [],k,e,h,h1,h2,h3,h4=>by
  simp only [Lay] at h; subst h
  exact ⟨h1,h2,h3,h4,rfl⟩
 | u :: l,k,e,h,h1,h2,h3,h4=>⟨h.1,h.2.1,h.2.2.1,h.2.2.2.1,Lay.add h.2.2.2.2 h1 h2 h3 h4⟩
theorem a1Z {toks:List Tok} {j:Nat} {r:MR} {y:MS} (h:roomy toks j r = .go y):toks.length < 3000 /\ r = .go y:=by
 unfold roomy at h
 split at h
 ·cases h
 ·rename_i h1
  simp only [decide_eq_false_iff_not] at h1
  exact ⟨by omega,h⟩
theorem lit_go {s:List UInt8} {toks:List Tok} {st:List (Nat × Int)} {q j ins:Nat} {a b:Int} {y:MS} (h:K4 toks st q j a b (part s q ins (j + 1) []) = .go y) :
  ∃ t:Tok,y.toks = toks ++ [t] /\ t.a = j /\ 0 < t.l /\ y.i = t.a + t.l /\ t.a + t.l <= s.length:=by
 have hok:=a9P s q ins (j + 1) []
 cases hp:part s q ins (j + 1) [] with
 | err c a=>rw [hp] at h; cases h
 | fin t e =>
  rw [hp] at h hok
  have h1:j + 1 < e:=hok.1
  have h2:e <= s.length:=hok.2
  simp only [K4] at h
  cases h
  exact ⟨_,rfl,rfl,by show 0 < e - j; omega,by show e = j + (e - j); omega,by show j + (e - j) <= _; omega⟩
 | more t e =>
  rw [hp] at h hok
  have h1:j + 1 < e:=hok.1
  have h2:e <= s.length:=hok.2
  simp only [K4] at h
  cases h
  exact ⟨_,rfl,rfl,by show 0 < e - j; omega,by show e = j + (e - j); omega,by show j + (e - j) <= _; omega⟩
theorem stepM_go {s:List UInt8} {x y:MS} (h:stepM s x = .go y):∃ t:Tok,y.toks = x.toks ++ [t] /\ t.a = G6 s x.i /\ t.a < s.length /\ 0 < t.l /\ y.i = t.a + t.l /\ t.a + t.l <= s.length:=by
 obtain ⟨i0,toks,st⟩:=x
 obtain ⟨i,h0⟩:∃ i,G6 s i0 = i:=⟨_,rfl⟩
 show ∃ t:Tok,y.toks = toks ++ [t] /\ t.a = G6 s i0 /\ _
 rw [h0]
 rcases Nat.lt_or_ge i s.length with hi | hi
 ·have fin:(∃ t:Tok,y.toks = toks ++ [t] /\ t.a = i /\ 0 < t.l /\ y.i = t.a + t.l /\ t.a + t.l <= s.length) -> ∃ t:Tok,y.toks = toks ++ [t] /\ t.a = i /\ t.a < s.length /\ 0 < t.l /\ y.i = t.a + t.l /\ t.a + t.l <= s.length:=by
   rintro ⟨t,h1,h2,h3,h4,h5⟩
   exact ⟨t,h1,h2,by omega,h3,h4,h5⟩
  apply fin
  cases hc:closes (s.getD i 0).toNat st with
  | true =>
   cases st with
   | nil=>cases hc
   | cons z st =>
    obtain ⟨q,p⟩:=z
    rw [(V9 h0 hi hc).2] at h
    exact lit_go (a1Z h).2
  | false =>
   by_cases h1:(s.getD i 0).toNat = 34
   ·rw [a1h h0 hi hc h1] at h
    exact lit_go (a1Z h).2
   ·have hi1:i <= s.length:=by omega
    cases h2:E9 (s.getD i 0) with
    | true =>
     rw [a0b h0 hi hc h1 h2] at h
     have hg:=a3r hi h2
     have hl:=a1y (p:=E9) hi1
     have h:=(a1Z h).2
     split at h
     ·cases h
     ·cases h; exact ⟨_,rfl,rfl,by show 0 < F8 E9 s i - i; omega,by show F8 E9 s i = i + (F8 E9 s i - i); omega,by show i + (F8 E9 s i - i) <= _; omega⟩
    | false =>
     cases h3:O8 (s.getD i 0) with
     | true =>
      rw [R4 h0 hi hc h1 h2 h3] at h
      have hg:=a3r (p:=L6) hi (by simp only [L6,h3,Bool.true_or])
      have hl:=a1y (p:=L6) hi1
      have h:=(a1Z h).2
      split at h
      ·cases h
      ·cases h; exact ⟨_,rfl,rfl,by show 0 < F8 L6 s i - i; omega,by show F8 L6 s i = i + (F8 L6 s i - i); omega,by show i + (F8 L6 s i - i) <= _; omega⟩
     | false =>
      cases hw:V8 s i 2 with
      | nil=>rw [a1z h0 hi hc h1 h2 h3 hw] at h; cases h
      | cons b w =>
       rw [U4 h0 hi hc h1 h2 h3 hw (by simp)] at h
       have hl:=a6J 2 hi1
       rw [hw] at hl
       have h:=(a1Z h).2
       cases h
       exact ⟨_,rfl,rfl,by show 0 < (b :: w).length; simp,rfl,by show i + (b :: w).length <= _; omega⟩
 ·cases st with
  | nil=>rw [a0G h0 hi] at h; cases h
  | cons z st=>obtain ⟨q,p⟩:=z; rw [a1A h0 hi] at h; cases h
theorem b0s {s:List UInt8} {x y:MS} (h:Reach s x y):x.i <= s.length -> Lay s 0 x.toks x.i -> y.i <= s.length /\ Lay s 0 y.toks y.i:=by
 induction h with
 | refl x=>exact fun h1 h2=>⟨h1,h2⟩
 | step x y z h1 _ ih =>
  intro h2 h3
  obtain ⟨t,g1,g2,g3,g4,g5,g6⟩:=stepM_go h1
  exact ih (by omega) (by rw [g1,g5]; exact h3.add g2 g3 g4 g6)
theorem a0E {toks l:List Tok} {j:Nat} {r:MR} (h:roomy toks j r = .done l):r = .done l:=by
 unfold roomy at h
 split at h
 ·cases h
 ·exact h
theorem a3i {toks l:List Tok} {st:List (Nat × Int)} {q j:Nat} {a b:Int} {r:PR} (h:K4 toks st q j a b r = .done l):False:=by
 cases r <;> cases h
theorem a9e {s:List UInt8} {x:MS} {l:List Tok} (h:stepM s x = .done l):x.toks = l /\ s.length <= G6 s x.i:=by
 obtain ⟨i0,toks,st⟩:=x
 obtain ⟨i,h0⟩:∃ i,G6 s i0 = i:=⟨_,rfl⟩
 show toks = l /\ s.length <= G6 s i0
 rw [h0]
 rcases Nat.lt_or_ge i s.length with hi | hi
 ·exfalso
  cases hc:closes (s.getD i 0).toNat st with
  | true =>
   cases st with
   | nil=>cases hc
   | cons z st =>
    obtain ⟨q,p⟩:=z
    rw [(V9 h0 hi hc).2] at h
    exact a3i (a0E h)
  | false =>
   by_cases h1:(s.getD i 0).toNat = 34
   ·rw [a1h h0 hi hc h1] at h
    exact a3i (a0E h)
   ·cases h2:E9 (s.getD i 0) with
    | true =>
     rw [a0b h0 hi hc h1 h2] at h
     have h:=a0E h
     split at h <;> cases h
    | false =>
     cases h3:O8 (s.getD i 0) with
     | true =>
      rw [R4 h0 hi hc h1 h2 h3] at h
      have h:=a0E h
      split at h <;> cases h
     | false =>
      cases hw:V8 s i 2 with
      | nil=>rw [a1z h0 hi hc h1 h2 h3 hw] at h; cases h
      | cons b w =>
       rw [U4 h0 hi hc h1 h2 h3 hw (by simp)] at h
       have h:=a0E h
       cases h
 ·cases st with
  | nil=>rw [a0G h0 hi] at h; cases h; exact ⟨rfl,hi⟩
  | cons z st=>obtain ⟨q,p⟩:=z; rw [a1A h0 hi] at h; cases h
theorem a1e {toks:List Tok} {j:Nat} {r:MR} {c:Int} {a:Nat} (h:roomy toks j r = .err c a):c = 2 ∨ r = .err c a:=by
 unfold roomy at h
 split at h
 ·cases h; exact .inl rfl
 ·exact .inr h
theorem a9J {s:List UInt8} {toks:List Tok} {st:List (Nat × Int)} {q j ins i:Nat} {a b:Int} {c:Int} {p:Nat} (h:K4 toks st q j a b (part s q ins i []) = .err c p):c ≠ 0:=by
 have hok:=a9P s q ins i []
 cases hp:part s q ins i [] with
 | err c' a'=>rw [hp] at h hok; cases h; rcases hok with rfl | rfl | rfl <;> decide
 | fin t e=>rw [hp] at h; cases h
 | more t e=>rw [hp] at h; cases h
theorem b0C {s:List UInt8} {x:MS} {c:Int} {p:Nat} (h:stepM s x = .err c p):c ≠ 0:=by
 obtain ⟨i0,toks,st⟩:=x
 obtain ⟨i,h0⟩:∃ i,G6 s i0 = i:=⟨_,rfl⟩
 rcases Nat.lt_or_ge i s.length with hi | hi
 ·cases hc:closes (s.getD i 0).toNat st with
  | true =>
   cases st with
   | nil=>cases hc
   | cons z st =>
    obtain ⟨q,p⟩:=z
    rw [(V9 h0 hi hc).2] at h
    rcases a1e h with rfl | h
    ·decide
    ·exact a9J h
  | false =>
   by_cases h1:(s.getD i 0).toNat = 34
   ·rw [a1h h0 hi hc h1] at h
    rcases a1e h with rfl | h
    ·decide
    ·exact a9J h
   ·cases h2:E9 (s.getD i 0) with
    | true =>
     rw [a0b h0 hi hc h1 h2] at h
     rcases a1e h with rfl | h
     ·decide
     ·split at h <;> cases h; decide
    | false =>
     cases h3:O8 (s.getD i 0) with
     | true =>
      rw [R4 h0 hi hc h1 h2 h3] at h
      rcases a1e h with rfl | h
      ·decide
      ·split at h <;> cases h; decide
     | false =>
      cases hw:V8 s i 2 with
      | nil=>rw [a1z h0 hi hc h1 h2 h3 hw] at h; cases h; decide
      | cons b w =>
       rw [U4 h0 hi hc h1 h2 h3 hw (by simp)] at h
       rcases a1e h with rfl | h
       ·decide
       ·cases h
 ·cases st with
  | nil=>rw [a0G h0 hi] at h; cases h
  | cons z st=>obtain ⟨q,p⟩:=z; rw [a1A h0 hi] at h; cases h; decide
structure TokOk (s:List UInt8) (r:MR):Prop where
 bd:RBd r
 nz:∀ c a,r = .err c a -> c ≠ 0
 lay:∀ l,r = .done l -> s.length <= 8000 /\ ∃ e,Lay s 0 l e /\ s.length <= G6 s e /\ e <= s.length
theorem ends_ok {s:List UInt8} (hs:s.length <= 8000) {r:MR} (h:Ends s ⟨0,[],[]⟩ r) (hr:RBd r):TokOk s r:=by
 obtain ⟨y,h1,h2,h3⟩:=h
 refine ⟨hr,fun c a e=>?_,fun l e=>?_⟩
 ·subst e; exact b0C h2
 ·subst e
  obtain ⟨h4,h5⟩:=a9e h2
  obtain ⟨h6,h7⟩:=b0s h1 (Nat.zero_le _) rfl
  rw [h4] at h7
  exact ⟨hs,y.i,h7,h5,h6⟩
theorem tokOne (s:List UInt8):∃ r,TokOk s r /\ E env (.call 6 [.str s]) [] = some (.ret (a5O r) []) /\ (s.length <= 8000 -> Ends s ⟨0,[],[]⟩ r):=by
 rcases Nat.lt_or_ge 8000 s.length with h | h
 ·exact ⟨.err 2 0,⟨trivial,fun c a e=>(by cases e; decide),fun l e=>(by cases e)⟩,c11big h,fun h1=>absurd h1 (by omega)⟩
 ·obtain ⟨r,h1,h2,h3⟩:=c11 h
  exact ⟨r,ends_ok h h1 h2,h3,fun _=>h1⟩
end Go.Proofs.Ytlhgheonlcjpaaa.Sc
namespace Go.Vm
variable {ρ:Rho} {lab:Lab} {w:World} {H:Hp}
theorem a7a {env:Env} (hE:a1I env) {g:Nat} {args:List V} {v:V} (h:E env (.call g args) [] = some (.ret v [])) (ha:G5 (J2 V7 dep) (args.map a1f) = some args) (hv:J2 V7 dep v = some v)
  (hc:Canon 0 H) (hS:Sim ρ lab H w) {xs:List Value} (hx:o6 ρ lab w args xs):Calls env.P g xs.toArray w (a0p ρ lab H w (.ret v H)):=by
 obtain ⟨k,hk⟩:=(Q9 env).at_ _ _ _ h
 have q:H6 (run env k) g args H = some (.val v H):=by
  unfold H6
  rw [ha]
  simp only
  rw [hk]
  simp only
  rw [hv]
 refine (a4m (a9c hE k).1 hS hx q).1.mono fun e w' he=>?_
 cases e with
 | returned x =>
  obtain ⟨ρ',lab',h1,h2,h3,h4⟩:=he
  exact ⟨ρ',lab',h1,h2,I7.of_le h3 _,h4,hc,Nat.le_refl _⟩
 | panicked ch=>exact he.elim
 | outgrown=>exact he.elim
def valI (f:List V -> Option V):List V -> Hp -> Option Out:=fun args H=>match f args with
 | some v=>some (.ret v H)
 | none=>none
theorem a9W {env:Env} (hE:a1I env) {g:Nat} {f:List V -> Option V}
  (hf:∀ args v,f args = some v -> G5 (J2 V7 dep) (args.map a1f) = some args /\ J2 V7 dep v = some v /\ E env (.call g args) [] = some (.ret v []))
  (hk:∃ fn c,env.P.funcs[g]? = some fn /\ (fn.name == "runtime.NumGoroutine") = false /\ fn.body = some c):a4L env.P g (valI f):=by
 refine ⟨fun args H out h ρ lab w xs hc hS hx=>?_,hk⟩
 unfold valI at h
 split at h
 ·rename_i v hv
  cases h
  obtain ⟨h1,h2,h3⟩:=hf args v hv
  exact a7a hE h3 h1 h2 hc hS hx
 ·cases h
theorem a6V {env:Env} {g:Nat} {args:List V} {H:Hp} {out:Out} {h:List V -> Hp -> Option Out} (hi:env.intr g = some (.plain h)) (ho:h args H = some out):E env (.call g args) H = some out:=by
 refine (Q9 env).le 1 _ _ _ ?_
 simp only [run,step,hi,ho]
end Go.Vm
namespace Go.Proofs.Ytlhgheonlcjpaaa.Sc
open Go Go.Vm
noncomputable def a18 (s:List UInt8):MR:=(tokOne s).choose
theorem a5N (s:List UInt8):TokOk s (a18 s) /\ E env (.call 6 [.str s]) [] = some (.ret (a5O (a18 s)) []) /\ (s.length <= 8000 -> Ends s ⟨0,[],[]⟩ (a18 s)):=(tokOne s).choose_spec
theorem a7y (s:List UInt8):RBd (a18 s) /\ E env (.call 6 [.str s]) [] = some (.ret (a5O (a18 s)) []):=⟨(a5N s).1.bd,(a5N s).2.1⟩
noncomputable def tokF:List V -> Option V:=fun args=>match args with
 | [.str s]=>some (a5O (a18 s))
 | _=>none
theorem tokV_ren {r:MR} (h:RBd r):J2 V7 dep (a5O r) = some (a5O r):=by
 cases r with
 | go x=>exact h.elim
 | done l=>rfl
 | err c a=>rfl
theorem tok_intr:a4L Try.prog 6 (valI tokF):=by
 refine a9W a7M (fun args v h=>?_) ⟨_,_,Try.func6,by kernel_rfl,rfl⟩
 unfold tokF at h
 split at h
 ·rename_i s
  cases h
  exact ⟨rfl,tokV_ren (a7y s).1,(a7y s).2⟩
 ·cases h
end Go.Proofs.Ytlhgheonlcjpaaa.Sc
namespace Go.Proofs.Ytlhgheonlcjpaaa.Sc
open Go
theorem disable (w:World):(callFunc 49 #[]).run Try.prog w = .ok (.value (.tuple #[])) w:=run_call_mark0 Try.func49 (by kernel_rfl) (by kernel_rfl) (by kernel_rfl) .disable (by kernel_rfl) w
theorem enable (w:World):(callFunc 51 #[]).run Try.prog w = .ok (.value (.tuple #[])) w:=run_call_mark0 Try.func51 (by kernel_rfl) (by kernel_rfl) (by kernel_rfl) .enable (by kernel_rfl) w
theorem acquire (a:Addr) (w:World):(callFunc 52 #[.pointer (some a)]).run Try.prog w = .ok (.value (.tuple #[])) w:=run_call_marked Try.func52 (by kernel_rfl) (by kernel_rfl) (by kernel_rfl) .acquire (by kernel_rfl) a w
theorem releaseMerge (a:Addr) (w:World):(callFunc 54 #[.pointer (some a)]).run Try.prog w = .ok (.value (.tuple #[])) w:=run_call_marked Try.func54 (by kernel_rfl) (by kernel_rfl) (by kernel_rfl) .releaseMerge (by kernel_rfl) a w
theorem lock_in (a:Addr) (w:World) (hc:w.cell? a = some (.int .i32 0)) (hz:w.frozen? a = false) :
  Calls Try.prog 43 #[.pointer (some a)] w fun e w'=>e = .returned (.tuple #[]) /\ w' = w.setCell a (.int .i32 1):=by
 have hd:=disable
 have he:=enable
 have ha:=acquire
 have hcas:=run_call_cas_hit (P:=Try.prog) Try.func50 (by kernel_rfl) (by kernel_rfl) (by kernel_rfl) .i32 (by kernel_rfl) (y:=1) hc hz
 have hc':(w.setCell a (.int .i32 1)).cell? a = some (.int .i32 1):=World.cell?_setCell_same w a _ hc
 have hcv:=run_convert_to_unsafe (P:=Try.prog) (src:=109) (dst:=113) Try.underlying109 Try.underlying113 (by kernel_rfl) hc'
 go_enter Try.func43,Try.ntmps43
 go_wp2
 first | go_end0 | (simp only [Exit.inBlock,Exit.then]; refine bodyPost_ret (results_none rfl _ _ _) rfl ?_) | refine bodyPost_ret (results_none rfl _ _ _) rfl ?_
 all_goals (go_wp2 <;> (go_end0 <;> exact ⟨rfl,rfl⟩))
theorem lock_free (a:Addr) (w:World) (hc:w.cell? a = some (.int .i32 0)) (hz:w.frozen? a = false) :
  Calls Try.prog 38 #[.pointer (some a)] w fun e w'=>e = .returned (.tuple #[]) /\ w' = w.setCell a (.int .i32 1):=by
 go_enter Try.func38,Try.ntmps38
 go_wp2_with (go_at_call 43; refine (lock_in a _ hc hz).mono ?_; rintro e w' ⟨rfl,rfl⟩)
 go_end0
 exact ⟨rfl,rfl⟩
theorem b0H (a:Addr) (w:World) (hc:w.cell? a = some (.int .i32 1)) (hz:w.frozen? a = false) :
  Calls Try.prog 44 #[.pointer (some a)] w fun e w'=>e = .returned (.tuple #[]) /\ w' = w.setCell a (.int .i32 0):=by
 have hd:=disable
 have he:=enable
 have hr:=releaseMerge
 have hadd:=run_call_add (P:=Try.prog) Try.func55 (by kernel_rfl) (by kernel_rfl) (by kernel_rfl) .i32 (by kernel_rfl) (y:=-1) (s:=0) hc hz (by simp [go_sem]; rfl)
 have hcv:=run_convert_to_unsafe (P:=Try.prog) (src:=109) (dst:=113) Try.underlying109 Try.underlying113 (by kernel_rfl) hc
 go_enter Try.func44,Try.ntmps44
 go_wp2
 go_end0
 all_goals (go_wp2 <;> (go_end0 <;> exact ⟨rfl,rfl⟩))
theorem unlock_deferred (a:Addr) (u:FrameMode) (w:World) (hc:w.cell? a = some (.int .i32 1)) (hz:w.frozen? a = false) :
  CallsD Try.prog 39 #[.pointer (some a)] u w fun e u' w'=>u' = u /\ (e = .returned (.tuple #[]) /\ w' = w.setCell a (.int .i32 0)):=by
 go_enter_d Try.func39,Try.ntmps39
 go_wp2_with (go_at_call 44; refine (b0H a _ hc hz).mono ?_; rintro e w' ⟨rfl,rfl⟩)
 go_end0
 exact ⟨rfl,rfl⟩
theorem a5I (a:Addr) (x:Value) (u:FrameMode) (w:World) (hc:w.cell? a = some x) (hz:w.frozen? a = false) :
  CallsD Try.prog 40 #[.pointer (some a),.bool true] u w fun e u' w'=>u' = u /\ (e = .returned (.tuple #[]) /\ w' = w.drew.setCell a (.int .u32 1)):=by
 have hc':w.drew.cell? a = some x:=by go_simp
 have hz':w.drew.frozen? a = false:=by go_simp
 have hst:=run_call_store (P:=Try.prog) Try.func45 (by kernel_rfl) (by kernel_rfl) (by kernel_rfl) (by kernel_rfl) (k:=.u32) (y:=1) hc' hz'
 go_enter_d Try.func40,Try.ntmps40
 go_wp2
 go_region_calls
 all_goals (go_end0; exact ⟨rfl,rfl⟩)
end Go.Proofs.Ytlhgheonlcjpaaa.Sc
namespace Go.Proofs.Ytlhgheonlcjpaaa.Sc
open Go
theorem slow_any (b off:Nat) (fv:Value) (w:World) (Q:World -> Prop) (g:Nat) (cap:Array Value) (hfv:fv = .func (.func g) cap #[]) {fn:Func} (hg:Try.prog.funcs[g]? = some fn) (hname:(fn.name == "runtime.NumGoroutine") = false) {c:Code} (hbody:fn.body = some c)
  (h0:w.cell? ⟨b,off,none⟩ = some (.int .u32 0)) (h1:w.cell? ⟨b,off + 1,none⟩ = some (.int .i32 0))
  (f0:w.frozen? ⟨b,off,none⟩ = false) (f1:w.frozen? ⟨b,off + 1,none⟩ = false)
  (hQ:Calls Try.prog g cap (w.setCell ⟨b,off + 1,none⟩ (.int .i32 1)) fun e w'=>e = .returned (.tuple #[]) /\ Q w' /\ w'.cell? ⟨b,off,none⟩ = some (.int .u32 0) /\ w'.cell? ⟨b,off + 1,none⟩ = some (.int .i32 1) /\ w'.frozen? ⟨b,off,none⟩ = false /\ w'.frozen? ⟨b,off + 1,none⟩ = false) :
  Calls Try.prog 35 #[.pointer (some ⟨b,off,none⟩),fv] w fun e w'=>e = .returned (.tuple #[]) /\ ∃ w1,Q w1 /\
   w' = (w1.drew.setCell ⟨b,off,none⟩ (.int .u32 1)).setCell ⟨b,off + 1,none⟩ (.int .i32 0):=by
 subst hfv
 have hl:=run_call_load (P:=Try.prog) Try.func37 (by kernel_rfl) (by kernel_rfl) (by kernel_rfl) .u32 (by kernel_rfl) (w:=w.setCell ⟨b,off + 1,none⟩ (.int .i32 1)) (a:=⟨b,off,none⟩) (x:=0) ((World.cell?_setCell_other _ ⟨b,off + 1,none⟩ ⟨b,off,none⟩ _ (by simp)).trans h0)
 have hnot:∀ (x:Bool) (w:World),(Op.unary .not (.bool x)).run Try.prog w = .ok (.bool (!x)) w:=fun _ _=>rfl
 go_enter_defers Try.func35,Try.ntmps35
 go_wp2_with (go_at_call 38; refine (lock_free ⟨b,off + 1,none⟩ _ (by go_simp) (by go_simp)).mono ?_; rintro e w' ⟨rfl,rfl⟩)
 go_wp2
 have hrun:∀ w,(callFunc g cap).run Try.prog w = .ok (.enter g cap) w:=fun w=>by
  have h1:fn.name ≠ "runtime.NumGoroutine":=by simpa using hname
  simp [callFunc,hg,h1,hbody]
 rw [hrun,Oper.upon_enter]
 refine hQ.mono ?_
 rintro e w' ⟨rfl,hq,c0,c1,z0,z1⟩
 go_wp2
 refine leaves_cons (f:=40) (args:=#[.pointer (some ⟨b,off,none⟩),.bool true]) (by simp) (by simp [go_sem]) ?_
 refine (a5I ⟨b,off,none⟩ (.int .u32 0) .returning _ c0 z0).mono ?_
 rintro e u' w'' ⟨rfl,rfl,rfl⟩
 refine leaves_cons (f:=39) (args:=#[.pointer (some ⟨b,off + 1,none⟩)]) (by simp [settle]) (by simp [go_sem]) ?_
 refine (unlock_deferred ⟨b,off + 1,none⟩ _ _ ?_ (by simp [z1])).mono ?_
 ·refine (World.cell?_setCell_other _ ⟨b,off,none⟩ ⟨b,off + 1,none⟩ _ (by simp)).trans ?_
  rw [World.cell?_drew]
  exact c1
 rintro e u' w'' ⟨rfl,rfl,rfl⟩
 simp [Leaves,settle,results,Try.results35]
 exact ⟨w',hq,rfl⟩
theorem do_any (b off:Nat) (fv:Value) (w:World) (Q:World -> Prop) (g:Nat) (cap:Array Value) (hfv:fv = .func (.func g) cap #[]) {fn:Func} (hg:Try.prog.funcs[g]? = some fn) (hname:(fn.name == "runtime.NumGoroutine") = false) {c:Code} (hbody:fn.body = some c)
  (h0:w.cell? ⟨b,off,none⟩ = some (.int .u32 0)) (h1:w.cell? ⟨b,off + 1,none⟩ = some (.int .i32 0))
  (f0:w.frozen? ⟨b,off,none⟩ = false) (f1:w.frozen? ⟨b,off + 1,none⟩ = false)
  (hQ:Calls Try.prog g cap (w.setCell ⟨b,off + 1,none⟩ (.int .i32 1)) fun e w'=>e = .returned (.tuple #[]) /\ Q w' /\ w'.cell? ⟨b,off,none⟩ = some (.int .u32 0) /\ w'.cell? ⟨b,off + 1,none⟩ = some (.int .i32 1) /\ w'.frozen? ⟨b,off,none⟩ = false /\ w'.frozen? ⟨b,off + 1,none⟩ = false) :
  Calls Try.prog 32 #[.pointer (some ⟨b,off,none⟩),fv] w fun e w'=>e = .returned (.tuple #[]) /\ ∃ w1,Q w1 /\
   w' = (w1.drew.setCell ⟨b,off,none⟩ (.int .u32 1)).setCell ⟨b,off + 1,none⟩ (.int .i32 0):=by
 have hl:=run_call_load (P:=Try.prog) Try.func37 (by kernel_rfl) (by kernel_rfl) (by kernel_rfl) .u32 (by kernel_rfl) h0
 have hnot:∀ (x:Bool) (w:World),(Op.unary .not (.bool x)).run Try.prog w = .ok (.bool (!x)) w:=fun _ _=>rfl
 go_enter Try.func32,Try.ntmps32
 have hS:=slow_any b off fv w Q g cap hfv hg hname hbody h0 h1 f0 f1 hQ
 clear hfv hg hname hbody hQ
 go_wp2_with (first | (go_at_call 35; refine hS.mono ?_; rintro e w' ⟨rfl,w1,hw1,rfl⟩) | (go_at_call 34; go_in))
 go_end0
 exact ⟨rfl,w1,hw1,rfl⟩
end Go.Proofs.Ytlhgheonlcjpaaa.Sc
namespace Go.Vm
open Go
variable {P:Program} {T:List (Nat × Ty)} {ρ:Rho} {lab:Lab} {H:Hp} {w:World}
theorem Rel.drew {v:V} {x:Value} (h:Rel ρ lab w v x):Rel ρ lab w.drew v x:=by
 have E:Ext lab w lab w.drew:=⟨Nat.le_refl _,rfl,rfl,rfl,fun _ _ _ h=>h,fun _ _=>.rfl,fun _ _ _ _=>⟨rfl,rfl⟩,fun _ _ _=>rfl⟩
 exact h.ext E (.refl _)
theorem a7Q:Ext lab w lab w.drew:=⟨Nat.le_refl _,rfl,rfl,rfl,fun _ _ _ h=>h,fun _ _=>.rfl,fun _ _ _ _=>⟨rfl,rfl⟩,fun _ _ _=>rfl⟩
theorem sim_drew (hS:Sim ρ lab H w):Sim ρ lab H w.drew:=by
 refine Sim.mk' (fun k o hk=>?_) hS.hdom hS.adom hS.ldom
 have h1:U8 ρ lab w k o:=by
  cases o with
  | row cs=>exact hS.row k cs hk
  | grow e cs=>exact hS.grow k e cs hk
  | tip e n=>exact hS.tip k e n hk
  | gone=>trivial
 exact h1.carry a7Q (.refl _) fun b p hc=>⟨⟨hc.lab,hc.free,hc.cell⟩,rfl⟩
theorem a7x {t:Nat} {k:IntKind} {n:Int} {b p:Nat} {u:Value} (hz:∀ w,(sizeOf t).run P w = .ok 1 w) (hc:w.cell? ⟨b,p,none⟩ = some u) (hf:w.frozen? ⟨b,p,none⟩ = false) :
  (Instr.storeAt t (.pointer (some ⟨b,p,none⟩)) (.int k n)).run P w = .ok () (w.setCell ⟨b,p,none⟩ (.int k n)):=by
 have:=run_storeCells_cells (P:=P) b p [.int k n] 0 w (fun j hj=>by
  have:j = 0:=by simpa using hj
  subst this; simp [hc]) (fun j hj=>by
  have:j = 0:=by simpa using hj
  subst this; simpa using hf) (fun j hj=>by
  have:j = .int k n:=by simpa using hj
  subst this; rfl)
 have hs:(Value.int k n).cells = #[.int k n]:=rfl
 simp only [Instr.storeAt,Instr.sureAddr,storeVar,Sem.run_bind,Sem.run_pure,Result.andThen_ok,hz,hs,List.size_toArray,List.length_singleton,ne_eq,not_true_eq_false,if_false]
 refine Eq.trans ?_ this
 simp
theorem a2Q (hT:TOk P T) (hS:Sim ρ lab H w) {t:Nat} {y:Ty} (hy:y8 t T = some y) (h1:y.size = 1) {r off b p:Nat} {k:IntKind} {n:Int} {H':Hp} {u:Value}
  (hx:Rel ρ lab w (.ptr r off) (.pointer (some ⟨b,p,none⟩))) (hc:w.cell? ⟨b,p,none⟩ = some u) (hf:w.frozen? ⟨b,p,none⟩ = false) (h:X4 T t (.ptr r off) (.int k n) H = some H') :
  Sim ρ lab H' (w.setCell ⟨b,p,none⟩ (.int k n)) /\ Ext lab w lab (w.setCell ⟨b,p,none⟩ (.int k n)):=by
 obtain ⟨w',g1,g2,g3⟩:=a6M hT hS hx (.int k n) h
 have hz:∀ w,(sizeOf t).run P w = .ok 1 w:=fun w=>by
  have:=E5 (hT t y hy) w
  rwa [h1] at this
 rw [a7x hz hc hf] at g1
 cases g1
 exact ⟨g2,g3⟩
theorem a1N {t:Nat} {v:V} {r off:Nat} {H':Hp} (hc:Canon 0 H) (h:X4 T t (.ptr r off) v H = some H'):Canon 0 H' /\ H'.length = H.length:=by
 unfold X4 at h
 split at h
 ·rename_i y r off hy he
  cases he
  split at h
  ·split at h
   ·rename_i cs hg
    unfold gd at h
    split at h
    ·cases h; exact a1l hc (by rw [hg]; simp)
    ·cases h
   ·rename_i e cs hg
    split at h
    ·unfold gd at h
     split at h
     ·cases h; exact a1l hc (by rw [hg]; simp)
     ·cases h
    ·cases h
   ·cases h
  ·cases h
 ·cases h
end Go.Vm
namespace Go.Proofs.Ytlhgheonlcjpaaa.Sc
open Go Go.Vm
def OT:List (Nat × Ty):=[(21,⟨.int .i32,1,4,[.int .i32 0]⟩),(64,⟨.int .u32,1,4,[.int .u32 0]⟩)]
theorem otOk:TOk Try.prog OT:=a3z (by kernel_rfl)
def doPre:List V -> Hp -> Option (Nat × List V × Hp):=fun args H=>match args with
 | [.ptr r off,.func (.func g) cap []]=>match hget r H with
  | some (.row cs)=>match cs[off]?,cs[off + 1]?,X4 OT 21 (.ptr r (off + 1)) (.int .i32 1) H with
   | some (.int .u32 0),some (.int .i32 0),some H'=>gd (Nat.beq g 33) (some (g,cap,H'))
   | _,_,_=>none
  | _=>none
 | _=>none
def a8A:List V -> Hp -> Out -> Option Out:=fun args H o=>match args,o with
 | [.ptr r off,.func (.func g) cap []],.ret (.tuple []) H1=>match hget r H1 with
  | some (.row cs)=>match cs[off]?,cs[off + 1]?,X4 OT 64 (.ptr r off) (.int .u32 1) H1 with
   | some (.int .u32 0),some (.int .i32 1),some H2=>match X4 OT 21 (.ptr r (off + 1)) (.int .i32 0) H2 with
    | some H3=>some (.ret (.tuple []) H3)
    | none=>none
   | _,_,_=>none
  | _=>none
 | _,_=>none
theorem do_via:ViaOk Try.prog 32 doPre a8A:=by
 refine ⟨fun args H g' l H' o out hp ho ρ lab w xs hc hS hx hcall=>?_,⟨_,_,Try.func32,rfl,rfl⟩⟩
 unfold doPre at hp
 split at hp
 ·rename_i args0 r off g cap
  split at hp
  ·rename_i cs hg
   split at hp
   ·rename_i e0 e1 H1 c0 c1 hst
    unfold gd at hp
    split at hp
    ·rename_i hb
     cases hp
     have hb:=Nat.eq_of_beq_eq_true hb
     obtain ⟨b,o1,zs,a1,a2,a3⟩:=hS.row r cs hg
     obtain ⟨x1,xr0,rfl,r1,r2⟩:=l9.1 hx
     obtain ⟨x2,xr,rfl,r3,r4⟩:=l9.1 r2
     have:xr = []:=by have:=r4.1; simpa using this
     subst this
     cases r3 with
     | func _ _ _ us ys u1 u2 u3 u4 =>
     have:ys = []:=by simpa using u2
     subst this
     have hp1:x1 = .pointer (some ⟨b,o1 + off,none⟩):=by
      cases r1 with
      | ptr _ _ b' o' c' h=>rw [a1] at h; cases h; rfl
     subst hp1
     have cell:∀ {ρ:Rho} {lab:Lab} {w:World} {H:Hp} {cs:List V} {b o1 i:Nat} {k:IntKind} {n:Int},Sim ρ lab H w -> hget r H = some (.row cs) -> ρ.at_ r = some (some (b,o1),none) -> cs[i]? = some (.int k n) -> w.cell? ⟨b,o1 + i,none⟩ = some (.int k n) /\ w.frozen? ⟨b,o1 + i,none⟩ = false:=by
      intro ρ lab w H cs b o1 i k n hS hg ha hi
      obtain ⟨b2,o2,zs,a1,a2,a3⟩:=hS.row r cs hg
      rw [ha] at a1
      cases a1
      have hl:i < zs.length:=by
       rw [a2.1]
       rcases Nat.lt_or_ge i cs.length with h | h
       ·exact h
       ·rw [List.getElem?_eq_none h] at hi; cases hi
      have hz:zs[i]? = some zs[i]:=by simp [hl]
      have hr:=a2.2 i _ _ hi hz
      obtain ⟨q1,q2⟩:=a3 i _ hz
      have:zs[i] = .int k n:=by
       generalize zs[i] = z at hr
       cases hr; rfl
      rw [this] at q2
      exact ⟨q2,q1.free⟩
     obtain ⟨m0,f0⟩:=cell hS hg a1 c0
     obtain ⟨m1,f1⟩:=cell hS hg a1 c1
     obtain ⟨t1,t2⟩:=a2Q otOk hS (y:=⟨.int .i32,1,4,[.int .i32 0]⟩) (by kernel_rfl) rfl (.ptr r (off + 1) b o1 none a1) m1 f1 hst
     obtain ⟨cn1,ln1⟩:=a1N hc hst
     have cap':o6 ρ lab (w.setCell ⟨b,o1 + (off + 1),none⟩ (.int .i32 1)) _ us:=o6.ext t2 (.refl _) ⟨u1,u3⟩
     have hK:=hcall ρ lab _ us cn1 t1 cap'
     unfold a8A at ho
     split at ho
     ·rename_i r' off' g' cap2 H2 hargs
      cases hargs
      split at ho
      ·rename_i cs1 hg1
       split at ho
       ·rename_i e2 e3 H3 d0 d1 hst2
        split at ho
        ·rename_i H4 hst3
         cases ho
         have hD:=fun hq=>do_any b (o1 + off) (.func (.func 33) us.toArray #[]) w (fun w'=>∃ ρ' lab',Sim ρ' lab' H2 w' /\ Ext lab (w.setCell ⟨b,o1 + (off + 1),none⟩ (.int .i32 1)) lab' w' /\ I7 H'.length ρ ρ' /\ Canon 0 H2 /\ H'.length <= H2.length) 33 us.toArray rfl Try.func33 rfl rfl m0 m1 f0 f1 hq
         subst hb
         refine (hD ?_).mono ?_
         ·refine hK.mono ?_
          intro e w' hP
          cases e with
          | returned x =>
           obtain ⟨ρ',lab',s1,s2,s3,s4,s5,s6⟩:=hP
           have hx0:x = .tuple #[]:=by
            cases s4 with
            | tuple _ zs h1 h2 =>
             have:zs = []:=by simpa using h1
             subst this; rfl
           have hr:r < H'.length:=by
            have:=J9 hc r _ hg
            omega
           have ha1:=s3.at_ r _ hr a1
           obtain ⟨n0,k0⟩:=cell s1 hg1 ha1 d0
           obtain ⟨n1,k1⟩:=cell s1 hg1 ha1 d1
           exact ⟨by rw [hx0],⟨ρ',lab',s1,s2,s3,s5,s6⟩,n0,n1,k0,k1⟩
          | _=>exact hP.elim
         ·rintro e w' ⟨rfl,w1,⟨ρ',lab',s1,s2,s3,s4,s5⟩,rfl⟩
          have hr:r < H'.length:=by
           have:=J9 hc r _ hg
           omega
          have ha1:=s3.at_ r _ hr a1
          obtain ⟨n0,k0⟩:=cell s1 hg1 ha1 d0
          obtain ⟨p1,p2⟩:=a2Q otOk (sim_drew s1) (y:=⟨.int .u32,1,4,[.int .u32 0]⟩) (by kernel_rfl) rfl (.ptr r off b o1 none ha1) n0 k0 hst2
          obtain ⟨cn2,ln2⟩:=a1N s4 hst2
          obtain ⟨n1,k1⟩:=cell s1 hg1 ha1 d1
          have hne:(⟨b,o1 + off,none⟩:Addr) ≠ ⟨b,o1 + (off + 1),none⟩:=by simp
          have q1:(w1.drew.setCell ⟨b,o1 + off,none⟩ (.int .u32 1)).cell? ⟨b,o1 + (off + 1),none⟩ = some (.int .i32 1):=(World.cell?_setCell_other _ _ _ _ hne).trans n1
          have q2:(w1.drew.setCell ⟨b,o1 + off,none⟩ (.int .u32 1)).frozen? ⟨b,o1 + (off + 1),none⟩ = false:=by simp [k1]
          obtain ⟨p3,p4⟩:=a2Q otOk p1 (y:=⟨.int .i32,1,4,[.int .i32 0]⟩) (by kernel_rfl) rfl (.ptr r (off + 1) b o1 none ha1) q1 q2 hst3
          obtain ⟨cn3,ln3⟩:=a1N cn2 hst3
          refine ⟨ρ',lab',p3,t2.trans (s2.trans (a7Q.trans (p2.trans p4))),?_,.tuple [] [] rfl (by simp),cn3,by omega⟩
          rw [<- ln1]
          exact s3
        ·cases ho
       ·cases ho
      ·cases ho
     ·cases ho
    ·cases hp
   ·cases hp
  ·cases hp
 ·cases hp
end Go.Proofs.Ytlhgheonlcjpaaa.Sc
namespace Go.Proofs
open Go.Shelf
def Try.a7W:Go.Shelf.Ren:=⟨fun | 138=>100 | 195=>101 | 218=>102 | 143=>103 | 219=>104 | 217=>105 | 225=>106 | 224=>107 | 267=>108 | 266=>109 | 314=>110 | n=>n,fun | 9=>9 | 3=>3 | 4=>4 | 5=>5 | 0=>0 | 46=>122 | 146=>167 | 51=>64 | n=>n,fun | 1=>0 | n=>n⟩
theorem Try.lays138:Go.Proofs.Lays.n138 Try.prog Try.a7W:={
 mixed:=by kernel_rfl
 f138:=Try.func100.trans (congrArg some (by kernel_rfl))
 f143:=Try.func103.trans (congrArg some (by kernel_rfl))
 f195:=Try.func101.trans (congrArg some (by kernel_rfl))
 f217:=Try.func105.trans (congrArg some (by kernel_rfl))
 f218:=Try.func102.trans (congrArg some (by kernel_rfl))
 f219:=Try.func104.trans (congrArg some (by kernel_rfl))
 f224:=Try.func107.trans (congrArg some (by kernel_rfl))
 f225:=Try.func106.trans (congrArg some (by kernel_rfl))
 f266:=Try.func109.trans (congrArg some (by kernel_rfl))
 f267:=Try.func108.trans (congrArg some (by kernel_rfl))
 f314:=Try.func110.trans (congrArg some (by kernel_rfl))
 t0:=Try.underlying0
 a0:=Try.isAgg0
 z0:=Try.sizeOf0
 v0:=Try.zeroValue0
 t3:=Try.underlying3
 a3:=Try.isAgg3
 z3:=Try.sizeOf3
 v3:=Try.zeroValue3
 t4:=Try.underlying4
 a4:=Try.isAgg4
 z4:=Try.sizeOf4
 v4:=Try.zeroValue4
 t5:=Try.underlying5
 a5:=Try.isAgg5
 z5:=Try.sizeOf5
 v5:=Try.zeroValue5
 t9:=Try.underlying9
 a9:=Try.isAgg9
 z9:=Try.sizeOf9
 v9:=Try.zeroValue9
 t46:=Try.underlying122
 a46:=Try.isAgg122
 z46:=Try.sizeOf122
 v46:=Try.zeroValue122
 t51:=Try.underlying64
 a51:=Try.isAgg64
 z51:=Try.sizeOf64
 v51:=Try.zeroValue64
 t146:=Try.underlying167
 a146:=Try.isAgg167
 z146:=Try.sizeOf167
 v146:=Try.zeroValue167
 g1:=by kernel_rfl }
open Go.RowKit Go.Lib in
theorem Try.strings_Count_one (s:ByteArray) (c:UInt8) (w:World) :
  Calls Try.prog 100 #[.string s,.string ⟨#[c]⟩] w fun e w'=>e = .returned (.int .i64 (Lib.countByte s.data.toList c)) /\ w' = w:=Any.strings_Count_one Try.lays138 s c w
end Go.Proofs
namespace Go.Proofs.Ytlhgheonlcjpaaa.Rp
open Go Go.Vm
def T:List (Nat × Ty):=[
 (1,⟨.func,1,8,[.nilFunc]⟩),
 (3,⟨.int .i64,1,8,[.int .i64 0]⟩),
 (4,⟨.bool,1,1,[.bool false]⟩),
 (5,⟨.int .u8,1,1,[.int .u8 0]⟩),
 (9,⟨.string,1,16,[.str []]⟩),
 (21,⟨.int .i32,1,4,[.int .i32 0]⟩),
 (22,⟨.slice 9,1,24,[.slice .nil 0 []]⟩),
 (50,⟨.ptr 76,1,8,[.nilptr]⟩),
 (55,⟨.slice 5,1,24,[.slice .nil 0 []]⟩),
 (62,⟨.blk [],0,0,[]⟩),
 (63,⟨.blk [],0,0,[]⟩),
 (64,⟨.int .u32,1,4,[.int .u32 0]⟩),
 (66,⟨.blk [(63,0),(64,0)],1,4,[.int .u32 0]⟩),
 (68,⟨.blk [(21,0),(64,1)],2,8,[.int .i32 0,.int .u32 0]⟩),
 (70,⟨.blk [(62,0),(68,0)],2,8,[.int .i32 0,.int .u32 0]⟩),
 (72,⟨.blk [(62,0),(66,0),(70,1)],3,12,[.int .u32 0,.int .i32 0,.int .u32 0]⟩),
 (74,⟨.iface,1,16,[.nilIface]⟩),
 (76,⟨.blk [(72,0),(74,3),(22,4)],5,56,[.int .u32 0,.int .i32 0,.int .u32 0,.nilIface,.slice .nil 0 []]⟩),
 (84,⟨.ptr 101,1,8,[.nilptr]⟩),
 (86,⟨.ptr 107,1,8,[.nilptr]⟩),
 (89,⟨.array 256 5,256,256,List.replicate 256 (.int .u8 0)⟩),
 (90,⟨.ptr 89,1,8,[.nilptr]⟩),
 (91,⟨.array 256 55,256,6144,List.replicate 256 (.slice .nil 0 [])⟩),
 (93,⟨.blk [(91,0),(22,256)],257,6168,List.replicate 256 (.slice .nil 0 []) ++ [.slice .nil 0 []]⟩),
 (94,⟨.ptr 93,1,8,[.nilptr]⟩)]
theorem tys:tysB Try.prog T = true:=by kernel_rfl
theorem mixed:Try.prog.follows .mixedOrders = true:=by kernel_rfl
def keep:Nat -> Nat -> List Nat
 | 36,6=>[3,4,5]
 | 36,15=>[3,6,61]
 | 36,20=>[3,6,8]
 | 36,28=>[3,11,12]
 | 98,5=>[0,1,5,6,30,31,32]
 | 98,13=>[0,1,5,6,10]
 | 98,24=>[0,1,12,13,14]
 | 98,100032=>[12]
 | _,_=>[]
def a7c:List V -> Hp -> Option Out:=fun args H=>match args with
 | [.str s,.str [c]]=>some (.ret (.int .i64 ((s.count c:Nat):Int)) H)
 | _=>none
theorem a97:a4L Try.prog 100 a7c:=by
 refine ⟨fun args H out h ρ lab w xs hc hS hx=>?_,⟨_,_,Try.func100,rfl,rfl⟩⟩
 unfold a7c at h
 split at h
 ·rename_i s c
  cases h
  obtain ⟨x1,r1,rfl,h1,h2⟩:=l9.1 hx
  obtain ⟨x2,r2,rfl,h3,h4⟩:=l9.1 h2
  have:r2 = []:=by have:=h4.1; simpa using this
  subst this
  cases h1
  cases h3
  refine (Try.strings_Count_one ⟨⟨s⟩⟩ c w).mono fun e w' ⟨he,hw⟩=>?_
  subst he; subst hw
  exact ⟨ρ,lab,hS,Ext.refl _ _,⟨fun _ _ _ h=>h,fun _ _ _ _ h=>h⟩,.int _ _,hc,Nat.le_refl _⟩
 ·cases h
def okL:List Nat:=[10,22,23,33,36,98]
def a5x:List Nat:=[100,10]
def a5c:Nat -> Option Hand
 | 32=>some (.via Sc.doPre Sc.a8A)
 | 100=>some (.plain a7c)
 | _=>none
noncomputable def env:Env:={ P:=Try.prog,T:=T,keep:=keep,byref:=fun _ _=>none,meth:=fun t s=>match t,s with | 94,"Replace"=>some 98 | _,_=>none,tags:=fun _=>false,argTags:=fun _=>false,quiet:=fun g=>has g a5x,loose:=fun _=>false,ok:=fun g=>has g okL,cut:=fun f c=>Nat.beq f 98 && Nat.beq c 32,ice:=fun f l=>match f,l with | 98,100032=>some 12 | _,_=>none,intr:=a5c }
theorem codes:a4S env okL = true:=by kernel_rfl
theorem methOk:a1J env:=by
 intro t name g h
 simp only [env] at h
 split at h
 ·cases h; exact (by kernel_rfl:methB Try.prog 94 "Replace" 98 = true)
 ·cases h
theorem a7M:a1I env:=⟨methOk,a3z tys,mixed,a3K (fun _ h=>h) codes,(fun g h hg=>by simp only [env,a5c] at hg; split at hg <;> first | (cases hg; done) | (cases hg; exact a97)),(fun g pre post hg=>by simp only [env,a5c] at hg; split at hg <;> first | (cases hg; done) | (cases hg; exact Sc.do_via))⟩
def pairs:List V:=[.str [10],.str [92,110],.str [9],.str [92,116],.str [92],.str [92,92],.str [34],.str [92,34]]
def cell (b:Nat):V:=match b with
 | 10=>.slice .sealed 2 [.int .u8 92,.int .u8 110]
 | 9=>.slice .sealed 2 [.int .u8 92,.int .u8 116]
 | 92=>.slice .sealed 2 [.int .u8 92,.int .u8 92]
 | 34=>.slice .sealed 2 [.int .u8 92,.int .u8 34]
 | _=>.slice .nil 0 []
def RR:List V:=(List.range 256).map cell ++ [.rslice 1 0 4 true]
def TR:List V:=[.str [34],.str [92],.str [9],.str [10]]
theorem nr_E:E env (.call 22 [.slice .sealed 8 pairs]) [] = some (.ret (.ptr 0 0) [(0,.row [.int .u32 0,.int .i32 0,.int .u32 0,.nilIface,.slice (.tag 1) 8 pairs]),(1,.tip 1 8)]):=(Q9 env).le 9 _ _ _ (by kernel_rfl)
theorem bu_E:E env (.call 33 [.ptr 0 0]) [(0,.row [.int .u32 0,.int .i32 1,.int .u32 0,.nilIface,.slice (.tag 1) 8 pairs]),(1,.tip 1 8)] = some (.ret (.tuple []) [(0,.row [.int .u32 0,.int .i32 1,.int .u32 0,.iface 94 (.ptr 2 0),.slice .nil 0 []]),(1,.tip 1 8),(2,.row ((List.range 256).map cell ++ [.rslice 3 0 4 true])),(3,.grow 1 TR)]):=(Q9 env).le 40 _ _ _ (by kernel_rfl)
end Go.Proofs.Ytlhgheonlcjpaaa.Rp
namespace Go.Proofs.Ytlhgheonlcjpaaa.Rp
open Go Go.Vm
def Z5 (b:UInt8):List UInt8:=if b = 10 then [92,110] else if b = 9 then [92,116] else if b = 92 then [92,92] else if b = 34 then [92,34] else [b]
def esc (s:List UInt8):List UInt8:=s.flatMap Z5
def cn (s:List UInt8):Nat -> Nat
 | 0=>0
 | 1=>s.count 34
 | 2=>s.count 34 + s.count 92
 | 3=>s.count 34 + s.count 92 + s.count 9
 | _=>s.count 34 + s.count 92 + s.count 9 + s.count 10
theorem P5 (b:UInt8) (s:List UInt8):esc (b :: s) = Z5 b ++ esc s:=by simp [esc]
theorem a9u (a b:List UInt8):esc (a ++ b) = esc a ++ esc b:=by simp [esc]
theorem a8y {b:UInt8} (h1:b ≠ 10) (h2:b ≠ 9) (h3:b ≠ 92) (h4:b ≠ 34):cell b.toNat = .slice .nil 0 []:=by
 have k1:b.toNat ≠ 10:=fun h=>h1 (UInt8.toNat_inj.1 h)
 have k2:b.toNat ≠ 9:=fun h=>h2 (UInt8.toNat_inj.1 h)
 have k3:b.toNat ≠ 92:=fun h=>h3 (UInt8.toNat_inj.1 h)
 have k4:b.toNat ≠ 34:=fun h=>h4 (UInt8.toNat_inj.1 h)
 unfold cell
 split <;> first | contradiction | rfl
theorem a0t (b:UInt8):(∃ c:UInt8,cell b.toNat = .slice .sealed 2 [.int .u8 92,.int .u8 ((c.toNat:Nat):Int)] /\ Z5 b = [92,c]) ∨ (cell b.toNat = .slice .nil 0 [] /\ Z5 b = [b]):=by
 by_cases h1:b = 10
 ·subst h1; exact .inl ⟨110,rfl,rfl⟩
 by_cases h2:b = 9
 ·subst h2; exact .inl ⟨116,rfl,rfl⟩
 by_cases h3:b = 92
 ·subst h3; exact .inl ⟨92,rfl,rfl⟩
 by_cases h4:b = 34
 ·subst h4; exact .inl ⟨34,rfl,rfl⟩
 exact .inr ⟨a8y h1 h2 h3 h4,by simp only [Z5,if_neg h1,if_neg h2,if_neg h3,if_neg h4]⟩
theorem a3b (b:UInt8):1 <= (Z5 b).length /\ (Z5 b).length <= 2:=by
 rcases a0t b with ⟨c,_,h⟩ | ⟨_,h⟩ <;> rw [h] <;> simp
theorem a8C:∀ s,s.length <= (esc s).length
 | []=>Nat.le_refl _
 | b :: s=>by have:=a8C s; have:=a3b b; rw [P5,List.length_append,List.length_cons]; omega
theorem a1n:∀ s,(esc s).length <= 2 * s.length
 | []=>Nat.le_refl _
 | b :: s=>by have:=a1n s; have:=a3b b; rw [P5,List.length_append,List.length_cons]; omega
theorem a7d:∀ s,(esc s).length = s.length + (s.count 34 + s.count 92 + s.count 9 + s.count 10)
 | []=>rfl
 | b :: s=>by
  have ih:=a7d s
  rw [P5,List.length_append,ih]
  simp only [List.count_cons,List.length_cons]
  by_cases h1:b = 10
  ·subst h1; simp [Z5]; omega
  by_cases h2:b = 9
  ·subst h2; simp [Z5]; omega
  by_cases h3:b = 92
  ·subst h3; simp [Z5]; omega
  by_cases h4:b = 34
  ·subst h4; simp [Z5]; omega
  simp [Z5,h1,h2,h3,h4]; omega
theorem a4V:∀ {s:List UInt8},¬ s.length < (esc s).length -> esc s = s
 | [],_=>rfl
 | b :: s,h=>by
  have h0:=a8C s
  have h1:=a3b b
  rw [P5,List.length_append,List.length_cons] at h
  rcases a0t b with ⟨c,_,he⟩ | ⟨_,he⟩
  ·rw [he] at h; simp at h; omega
  ·rw [P5,he,a4V (s:=s) (by rw [he] at h; simp at h; omega)]; rfl
theorem a3c {s:List UInt8} {i:Nat} (h:i < s.length):esc (s.take (i + 1)) = esc (s.take i) ++ Z5 (s.getD i 0):=by
 rw [List.take_succ_eq_append_getElem h,a9u]
 congr 1
 simp [esc,h]
theorem a2a (s:List UInt8) (i:Nat):(esc (s.take i)).length <= (esc s).length:=by
 conv=>rhs; rw [<- List.take_append_drop i s,a9u,List.length_append]
 omega
theorem cn_le (s:List UInt8):∀ k,cn s k <= 4 * s.length:=by
 have a:=List.count_le_length (a:=(34:UInt8)) (l:=s)
 have b:=List.count_le_length (a:=(92:UInt8)) (l:=s)
 have c:=List.count_le_length (a:=(9:UInt8)) (l:=s)
 have d:=List.count_le_length (a:=(10:UInt8)) (l:=s)
 intro k
 unfold cn
 split <;> omega
theorem RR_get (b:UInt8):RR[b.toNat]? = some (cell b.toNat):=by
 have:=UInt8.toNat_lt b
 unfold RR
 rw [List.getElem?_append_left (by simp; omega),List.getElem?_map,List.getElem?_range (by omega)]
 rfl
theorem RR_256:RR[256]? = some (.rslice 1 0 4 true):=by kernel_rfl
theorem a06 (b:UInt8) {off:Nat} {H:Hp} (ho:off = b.toNat):N7 env.T 55 (.ptr 0 off) ((0,.row RR) :: H) = some (cell b.toNat):=by
 subst ho
 exact RR_get b
theorem ld_TL {H:Hp}:N7 env.T 22 (.ptr 0 (0 + 256)) ((0,.row RR) :: H) = some (.rslice 1 0 4 true):=RR_256
theorem ct_E (s:List UInt8) (c:UInt8):E env (.call 100 [.str s,.str [c]]) [] = some (.ret (.int .i64 ((s.count c:Nat):Int)) []):=a6V (h:=a7c) rfl rfl
theorem mul1 {a:Nat} (h:a < 9223372036854775808):O5 (some (.int .i64 (IntKind.wrap .i64 ((a:Int) * 1)))) = some (.int .i64 (a:Nat)):=by
 rw [Int.mul_one,wrap64 (by omega) (by omega)]; rfl
theorem addE {j k m:Nat} (h:m = j + k) (hb:j + k < 9223372036854775808):O5 (some (.int .i64 (IntKind.wrap .i64 ((j:Int) + (k:Int))))) = some (.int .i64 (m:Nat)):=by
 rw [h]; exact addN hb
theorem a8P (n:Nat) {m:Nat} {x:Option V} (h:x = match gd (ltB 0 ((m + 1:Nat):Int)) (some false) with | some b=>some (.bool (!b)) | none=>none):O5 x = some (.bool true):=by
 rw [h]
 have:ltB 0 ((m + 1:Nat):Int) = true:=by simp only [ltB,decide_eq_true_eq]; omega
 rw [this]; rfl
theorem a6C {env:Env} {orc:Orc} {ops:Array Oper} {o:Oper} {rest:List Oper} {fr:Fr} {H H1:Hp} {K:Res -> Prop} {t:Nat} {a b:Operand} {x v:V} (hw:o5 ops o fr = some true) (ho:o.op = .store t a b) (ha:ev fr a = some x) (hb:ev fr b = some v) (hs:X4 env.T t x v H = some H1) (h:Go.Vm.Os env orc ops rest (F7 o.dst .undef fr) H1 K):Go.Vm.Os env orc ops (o :: rest) fr H K:=by
 refine U0 hw (by rw [ho]; rfl) (v:=.undef) (H1:=H1) ?_ h
 unfold D5
 rw [ho]
 simp only [ha,hb,hs]
def BUF (s:List UInt8) (i:Nat):List V:=F4 (esc (s.take i)) ++ List.replicate ((esc s).length - (esc (s.take i)).length) (.int .u8 0)
theorem a9k (s:List UInt8) (i:Nat):(BUF s i).length = (esc s).length:=by
 have:=a2a s i
 simp only [BUF,List.length_append,F4,List.length_map,List.length_replicate]; omega
theorem set_mid {α:Type} (a new:List α) (z:α) {n:Nat} (h:new.length <= n):(a ++ List.replicate n z).take a.length ++ new ++ (a ++ List.replicate n z).drop (a.length + new.length) = a ++ new ++ List.replicate (n - new.length) z:=by
 rw [List.take_left,List.drop_append,List.drop_eq_nil_of_le (by omega),List.nil_append,List.drop_replicate]
 congr 2; omega
theorem a9m {s:List UInt8} {i:Nat} (h:i < s.length) {b:UInt8} (hb:s.getD i 0 = b) {news:List V} (hn:news = F4 (Z5 b)) {off:Nat} (ho:off = (esc (s.take i)).length):u7 (BUF s i) off news = BUF s (i + 1):=by
 have h1:=a3c h
 rw [hb] at h1
 have h2:=a2a s (i + 1)
 rw [h1,List.length_append] at h2
 have h3:(esc (s.take i)).length = (F4 (esc (s.take i))).length:=by simp [F4]
 have h4:news.length = (Z5 b).length:=by rw [hn]; simp [F4]
 subst ho
 unfold u7 BUF
 rw [h3,set_mid _ _ _ (by omega),hn,h1]
 simp only [F4,List.map_append,List.length_append,List.length_map]
 congr 2
 omega
theorem a9n {s:List UInt8} {i:Nat} (h:i < s.length) {b c:UInt8} (hb:s.getD i 0 = b) (he:Z5 b = [92,c]):u7 (BUF s i) (0 + (esc (s.take i)).length * 1) [.int .u8 92,.int .u8 ((c.toNat:Nat):Int)] = BUF s (i + 1):=a9m h hb (by rw [he]; rfl) (by omega)
theorem a9l {s:List UInt8} {i:Nat} (h:i < s.length) {b:UInt8} (hb:s.getD i 0 = b) (he:Z5 b = [b]):u7 (BUF s i) (0 + (esc (s.take i)).length * 1) [.int .u8 ((b.toNat:Nat):Int)] = BUF s (i + 1):=a9m h hb (by rw [he]; rfl) (by omega)
theorem cp_ok {j n:Nat} {cs B:List V} {a b:V} {G:Hp} (hG:G = [(0,.row RR),(1,.grow 1 TR),(2,.grow 1 cs)]) (h1:2 <= n) (h2:j + 2 <= cs.length) (hB:u7 cs (0 + j * 1) [a,b] = B) :
    a6Q env.T 55 (.rslice 2 (0 + j * 1) n false) (.slice .sealed 2 [a,b]) G = some (.val (.int .i64 ((2:Nat):Int)) [(0,.row RR),(1,.grow 1 TR),(2,.grow 1 B)]):=by
  subst hG
  have e:a6Q env.T 55 (.rslice 2 (0 + j * 1) n false) (.slice .sealed 2 [a,b]) [(0,.row RR),(1,.grow 1 TR),(2,.grow 1 cs)] = (match gd (eqN (2 * 1) [a,b].length) (some (2,[a,b])) with
    | some (m,news)=>(match Nat.beq m 0 with
        | true=>some (OpR.val (.int .i64 0) [(0,.row RR),(1,.grow 1 TR),(2,.grow 1 cs)])
        | false=>gd (leN m n && leN (0 + j * 1 + m * 1) cs.length) (some (.val (.int .i64 (m:Int)) [(0,.row RR),(1,.grow 1 TR),(2,.grow 1 (u7 cs (0 + j * 1) news))])))
    | none=>none):=by kernel_rfl
  rw [e,a0d (show 2 * 1 = [a,b].length from rfl)]
  simp only [gd]
  rw [a3R h1,a3R (show 0 + j * 1 + 2 * 1 <= cs.length by omega),hB]
  rfl
theorem st_ok {j:Nat} {cs B:List V} {b:Nat} {G:Hp} (hG:G = [(0,.row RR),(1,.grow 1 TR),(2,.grow 1 cs)]) (h2:j + 1 <= cs.length) (hB:u7 cs (0 + j * 1) [.int .u8 (b:Int)] = B) :
  X4 env.T 5 (.ptr 2 (0 + j * 1)) (.int .u8 (b:Int)) G = some [(0,.row RR),(1,.grow 1 TR),(2,.grow 1 B)]:=by
 subst hG
 have e:X4 env.T 5 (.ptr 2 (0 + j * 1)) (.int .u8 (b:Int)) [(0,.row RR),(1,.grow 1 TR),(2,.grow 1 cs)] = gd (leN (0 + j * 1 + 1) cs.length) (some [(0,.row RR),(1,.grow 1 TR),(2,.grow 1 (u7 cs (0 + j * 1) [.int .u8 (b:Int)]))]):=by kernel_rfl
 rw [e,a3R (by omega),hB]
 rfl
theorem mk_ok (n:Nat) (hn:n <= 4000000) {G:Hp} (hG:G = [(0,.row RR),(1,.grow 1 TR)]):a6S env.T 55 (.int .i64 (n:Int)) (.int .i64 (n:Int)) G 5504 = some (.val (.rslice 5504 0 n true) [(0,.row RR),(1,.grow 1 TR),(5504,.grow 1 (List.replicate n (.int .u8 0)))]):=by
 subst hG
 have e:a6S env.T 55 (.int .i64 (n:Int)) (.int .i64 (n:Int)) [(0,.row RR),(1,.grow 1 TR)] 5504 = gd (leB 0 (n:Int) && leB (n:Int) (n:Int) && leB ((n:Int) * ((1:Nat) + 1:Nat)) 70368744177664) (some (.val (.rslice 5504 0 n true) [(0,.row RR),(1,.grow 1 TR),(5504,.grow 1 (List.replicate n [.int .u8 0]).flatten)])):=by kernel_rfl
 rw [e]
 have h1:(leB 0 (n:Int) && leB (n:Int) (n:Int) && leB ((n:Int) * ((1:Nat) + 1:Nat)) 70368744177664) = true:=by simp only [leB,Bool.and_eq_true,decide_eq_true_eq]; omega
 rw [h1]
 have h2:(List.replicate n [V.int .u8 0]).flatten = List.replicate n (.int .u8 0):=by
  induction n with
  | zero=>rfl
  | succ n ih=>rw [List.replicate_succ,List.flatten_cons,List.replicate_succ]; simp [List.flatten_replicate_singleton]
 rw [h2]
 rfl
theorem cv_ok (s:List UInt8):a5P env.T 55 9 (.slice .sealed (esc s).length ((BUF s s.length).take ((esc s).length * 1))) = some (.str (esc s)):=by
 have e:(BUF s s.length).take ((esc s).length * 1) = F4 (esc s):=by
  unfold BUF
  rw [List.take_length,Nat.sub_self,List.replicate_zero,List.append_nil,Nat.mul_one]
  exact List.take_of_length_le (by simp [F4])
 rw [e]
 have e2:a5P env.T 55 9 (.slice .sealed (esc s).length (F4 (esc s))) = (match X3 (F4 (esc s)) with | some l=>gd (eqN (esc s).length l.length) (some (.str l)) | none=>none):=by kernel_rfl
 rw [e2,a2U]
 simp only [a0d rfl,gd]
theorem bs_E (s:List UInt8) (hs:s.length <= 1000000):E env (.call 98 [.ptr 0 0,.str s]) [(0,.row RR),(1,.grow 1 TR)] = some (.ret (.str (esc s)) [(0,.row RR),(1,.grow 1 TR)]):=by
 refine D8 (env:=env) rfl Try.func98 rfl rfl ?_
 refine j5 ?_
 refine j3 ?_
 refine d9 rfl rfl rfl ?_
 refine l5 ?_
 refine j5 ?_
 refine j3 ?_
 refine d9 rfl rfl rfl ?_
 refine d9 rfl rfl rfl ?_
 refine d9 rfl rfl rfl ?_
 refine l5 ?_
 refine j5 ?_
 refine j3 ?_
 refine d9 rfl rfl rfl ?_
 refine l5 ?_
 refine j5 ?_
 refine j5 ?_
 refine j3 ?_
 refine d9 rfl rfl rfl ?_
 refine d9 rfl rfl rfl ?_
 refine d9 rfl rfl rfl ?_
 refine F6 rfl rfl rfl (v:=.rslice 1 0 4 true) ld_TL ?_
 refine d9 rfl rfl rfl ?_
 refine d9 rfl rfl rfl ?_
 refine d9 rfl rfl rfl ?_
 refine d9 rfl rfl rfl ?_
 refine d9 rfl rfl rfl ?_
 refine l5 ?_
 refine A9 rfl (fun g26=>?_) (fun g26=>?_)
 ·refine j5 ?_
  refine j3 ?_
  refine d9 rfl rfl rfl ?_
  refine d9 rfl rfl rfl ?_
  refine d9 rfl rfl rfl ?_
  refine F6 rfl rfl rfl (v:=.rslice 1 0 4 true) ld_TL ?_
  refine d9 rfl rfl rfl ?_
  refine d9 rfl rfl rfl ?_
  refine l5 ?_
  refine q8 ?_
  refine O7 (fr1:=[(0,.ptr 0 0),(1,.str s),(5,.int .i64 ((s.length:Nat):Int)),(6,.bool false),(30,.rslice 1 0 4 true),(31,.int .i64 4),(32,.int .i64 ((0:Nat):Int))]) (H1:=[(0,.row RR),(1,.grow 1 TR)]) (by kernel_rfl) ?_
  refine a0z (fun x:Nat × Nat × Bool=>[(0,.ptr 0 0),(1,.str s),(5,.int .i64 ((x.2.1:Nat):Int)),(6,.bool x.2.2),(30,.rslice 1 0 4 true),(31,.int .i64 4),(32,.int .i64 ((x.1:Nat):Int))]) (fun _=>[(0,.row RR),(1,.grow 1 TR)]) (fun x=>x.1 <= 4 /\ x.2.1 = s.length + cn s x.1 /\ x.2.2 = decide (0 < cn s x.1)) (fun x=>4 - x.1) (0,s.length,false) ⟨by simp,rfl,rfl⟩ ?_
  rintro ⟨k,ns,any⟩ ⟨hk,hns,hany⟩ ih
  simp only at hk hns hany ih ⊢
  have hcn:=cn_le s k
  rcases (by omega:k = 0 ∨ k = 1 ∨ k = 2 ∨ k = 3 ∨ k = 4) with rfl | rfl | rfl | rfl | rfl
  ·have hc:=List.count_le_length (a:=(34:UInt8)) (l:=s)
   refine j5 ?_
   refine j3 ?_
   refine d9 rfl rfl rfl ?_
   refine l5 ?_
   refine j5 ?_
   refine C9 rfl (by simp [ltB]) ?_
   refine l7 ?_
   refine j5 ?_
   refine q8 ?_
   refine j5 ?_
   refine j3 ?_
   refine d9 rfl rfl (J5 (by simp [inR]) rfl) ?_
   refine F6 rfl rfl rfl (v:=.str [34]) rfl ?_
   refine d9 rfl rfl rfl ?_
   refine l5 ?_
   refine j5 ?_
   refine j3 ?_
   refine d9 rfl rfl rfl ?_
   refine d9 rfl rfl rfl ?_
   refine D7 rfl rfl rfl rfl rfl (ct_E s 34) rfl ?_
   refine d9 rfl rfl rfl ?_
   refine l5 ?_
   refine j5 ?_
   refine j3 ?_
   refine d9 rfl rfl rfl ?_
   refine d9 rfl rfl rfl ?_
   refine l5 ?_
   refine A9 rfl (fun g40=>?_) (fun g40=>?_)
   ·replace g40:s.count 34 ≠ 0:=by intro h; rw [h] at g40; simp [eqB] at g40
    refine j5 ?_
    refine j3 ?_
    refine d9 rfl rfl rfl ?_
    refine d9 rfl rfl rfl ?_
    refine d9 rfl rfl rfl ?_
    refine d9 rfl rfl rfl ?_
    refine d9 rfl rfl (J5 (by simp [inR]) (show _ = some (.int .u8 (((34:UInt8).toNat:Nat):Int)) from rfl)) ?_
    refine d9 rfl rfl rfl ?_
    refine d9 rfl rfl rfl ?_
    refine d9 rfl rfl (J5 (by simp [inR]) rfl) ?_
    refine F6 rfl rfl rfl (a06 34 rfl) ?_
    refine d9 rfl rfl rfl ?_
    refine d9 rfl rfl rfl ?_
    refine d9 rfl rfl (mul1 (by omega)) ?_
    refine d9 rfl rfl (addN (by omega)) ?_
    refine d9 rfl rfl rfl ?_
    refine l5 ?_
    refine j3 ?_
    refine d9 rfl rfl rfl ?_
    refine l5 ?_
    refine j3 ?_
    refine d9 rfl rfl rfl ?_
    refine d9 rfl rfl rfl ?_
    refine l5 ?_
    exact ⟨[(0,.ptr 0 0),(1,.str s),(5,.int .i64 ((ns + s.count 34:Nat):Int)),(6,.bool true),(30,.rslice 1 0 4 true),(31,.int .i64 4),(32,.int .i64 ((1:Nat):Int))],[(0,.row RR),(1,.grow 1 TR)],by kernel_rfl,ih (1,ns + s.count 34,true) (by simp) ⟨by simp,by rw [hns]; simp only [cn]; omega,by simp only [cn]; symm; simp only [decide_eq_true_eq]; omega⟩⟩
   ·replace g40:s.count 34 = 0:=by simp only [eqB,Bool.not_eq_false',beq_iff_eq] at g40; omega
    refine l7 ?_
    refine j3 ?_
    refine d9 rfl rfl rfl ?_
    refine d9 rfl rfl rfl ?_
    refine l5 ?_
    exact ⟨[(0,.ptr 0 0),(1,.str s),(5,.int .i64 ((ns:Nat):Int)),(6,.bool any),(30,.rslice 1 0 4 true),(31,.int .i64 4),(32,.int .i64 ((1:Nat):Int))],[(0,.row RR),(1,.grow 1 TR)],by kernel_rfl,ih (1,ns,any) (by simp) ⟨by simp,by rw [hns]; simp only [cn]; omega,by rw [hany]; simp only [cn]; congr 1; simp only [eq_iff_iff]; omega⟩⟩
  ·have hc:=List.count_le_length (a:=(92:UInt8)) (l:=s)
   refine j5 ?_
   refine j3 ?_
   refine d9 rfl rfl rfl ?_
   refine l5 ?_
   refine j5 ?_
   refine C9 rfl (by simp [ltB]) ?_
   refine l7 ?_
   refine j5 ?_
   refine q8 ?_
   refine j5 ?_
   refine j3 ?_
   refine d9 rfl rfl (J5 (by simp [inR]) rfl) ?_
   refine F6 rfl rfl rfl (v:=.str [92]) rfl ?_
   refine d9 rfl rfl rfl ?_
   refine l5 ?_
   refine j5 ?_
   refine j3 ?_
   refine d9 rfl rfl rfl ?_
   refine d9 rfl rfl rfl ?_
   refine D7 rfl rfl rfl rfl rfl (ct_E s 92) rfl ?_
   refine d9 rfl rfl rfl ?_
   refine l5 ?_
   refine j5 ?_
   refine j3 ?_
   refine d9 rfl rfl rfl ?_
   refine d9 rfl rfl rfl ?_
   refine l5 ?_
   refine A9 rfl (fun g40=>?_) (fun g40=>?_)
   ·replace g40:s.count 92 ≠ 0:=by intro h; rw [h] at g40; simp [eqB] at g40
    refine j5 ?_
    refine j3 ?_
    refine d9 rfl rfl rfl ?_
    refine d9 rfl rfl rfl ?_
    refine d9 rfl rfl rfl ?_
    refine d9 rfl rfl rfl ?_
    refine d9 rfl rfl (J5 (by simp [inR]) (show _ = some (.int .u8 (((92:UInt8).toNat:Nat):Int)) from rfl)) ?_
    refine d9 rfl rfl rfl ?_
    refine d9 rfl rfl rfl ?_
    refine d9 rfl rfl (J5 (by simp [inR]) rfl) ?_
    refine F6 rfl rfl rfl (a06 92 rfl) ?_
    refine d9 rfl rfl rfl ?_
    refine d9 rfl rfl rfl ?_
    refine d9 rfl rfl (mul1 (by omega)) ?_
    refine d9 rfl rfl (addN (by omega)) ?_
    refine d9 rfl rfl rfl ?_
    refine l5 ?_
    refine j3 ?_
    refine d9 rfl rfl rfl ?_
    refine l5 ?_
    refine j3 ?_
    refine d9 rfl rfl rfl ?_
    refine d9 rfl rfl rfl ?_
    refine l5 ?_
    exact ⟨[(0,.ptr 0 0),(1,.str s),(5,.int .i64 ((ns + s.count 92:Nat):Int)),(6,.bool true),(30,.rslice 1 0 4 true),(31,.int .i64 4),(32,.int .i64 ((2:Nat):Int))],[(0,.row RR),(1,.grow 1 TR)],by kernel_rfl,ih (2,ns + s.count 92,true) (by simp) ⟨by simp,by rw [hns]; simp only [cn]; omega,by simp only [cn]; symm; simp only [decide_eq_true_eq]; omega⟩⟩
   ·replace g40:s.count 92 = 0:=by simp only [eqB,Bool.not_eq_false',beq_iff_eq] at g40; omega
    refine l7 ?_
    refine j3 ?_
    refine d9 rfl rfl rfl ?_
    refine d9 rfl rfl rfl ?_
    refine l5 ?_
    exact ⟨[(0,.ptr 0 0),(1,.str s),(5,.int .i64 ((ns:Nat):Int)),(6,.bool any),(30,.rslice 1 0 4 true),(31,.int .i64 4),(32,.int .i64 ((2:Nat):Int))],[(0,.row RR),(1,.grow 1 TR)],by kernel_rfl,ih (2,ns,any) (by simp) ⟨by simp,by rw [hns]; simp only [cn]; omega,by rw [hany]; simp only [cn]; congr 1; simp only [eq_iff_iff]; omega⟩⟩
  ·have hc:=List.count_le_length (a:=(9:UInt8)) (l:=s)
   refine j5 ?_
   refine j3 ?_
   refine d9 rfl rfl rfl ?_
   refine l5 ?_
   refine j5 ?_
   refine C9 rfl (by simp [ltB]) ?_
   refine l7 ?_
   refine j5 ?_
   refine q8 ?_
   refine j5 ?_
   refine j3 ?_
   refine d9 rfl rfl (J5 (by simp [inR]) rfl) ?_
   refine F6 rfl rfl rfl (v:=.str [9]) rfl ?_
   refine d9 rfl rfl rfl ?_
   refine l5 ?_
   refine j5 ?_
   refine j3 ?_
   refine d9 rfl rfl rfl ?_
   refine d9 rfl rfl rfl ?_
   refine D7 rfl rfl rfl rfl rfl (ct_E s 9) rfl ?_
   refine d9 rfl rfl rfl ?_
   refine l5 ?_
   refine j5 ?_
   refine j3 ?_
   refine d9 rfl rfl rfl ?_
   refine d9 rfl rfl rfl ?_
   refine l5 ?_
   refine A9 rfl (fun g40=>?_) (fun g40=>?_)
   ·replace g40:s.count 9 ≠ 0:=by intro h; rw [h] at g40; simp [eqB] at g40
    refine j5 ?_
    refine j3 ?_
    refine d9 rfl rfl rfl ?_
    refine d9 rfl rfl rfl ?_
    refine d9 rfl rfl rfl ?_
    refine d9 rfl rfl rfl ?_
    refine d9 rfl rfl (J5 (by simp [inR]) (show _ = some (.int .u8 (((9:UInt8).toNat:Nat):Int)) from rfl)) ?_
    refine d9 rfl rfl rfl ?_
    refine d9 rfl rfl rfl ?_
    refine d9 rfl rfl (J5 (by simp [inR]) rfl) ?_
    refine F6 rfl rfl rfl (a06 9 rfl) ?_
    refine d9 rfl rfl rfl ?_
    refine d9 rfl rfl rfl ?_
    refine d9 rfl rfl (mul1 (by omega)) ?_
    refine d9 rfl rfl (addN (by omega)) ?_
    refine d9 rfl rfl rfl ?_
    refine l5 ?_
    refine j3 ?_
    refine d9 rfl rfl rfl ?_
    refine l5 ?_
    refine j3 ?_
    refine d9 rfl rfl rfl ?_
    refine d9 rfl rfl rfl ?_
    refine l5 ?_
    exact ⟨[(0,.ptr 0 0),(1,.str s),(5,.int .i64 ((ns + s.count 9:Nat):Int)),(6,.bool true),(30,.rslice 1 0 4 true),(31,.int .i64 4),(32,.int .i64 ((3:Nat):Int))],[(0,.row RR),(1,.grow 1 TR)],by kernel_rfl,ih (3,ns + s.count 9,true) (by simp) ⟨by simp,by rw [hns]; simp only [cn]; omega,by simp only [cn]; symm; simp only [decide_eq_true_eq]; omega⟩⟩
   ·replace g40:s.count 9 = 0:=by simp only [eqB,Bool.not_eq_false',beq_iff_eq] at g40; omega
    refine l7 ?_
    refine j3 ?_
    refine d9 rfl rfl rfl ?_
    refine d9 rfl rfl rfl ?_
    refine l5 ?_
    exact ⟨[(0,.ptr 0 0),(1,.str s),(5,.int .i64 ((ns:Nat):Int)),(6,.bool any),(30,.rslice 1 0 4 true),(31,.int .i64 4),(32,.int .i64 ((3:Nat):Int))],[(0,.row RR),(1,.grow 1 TR)],by kernel_rfl,ih (3,ns,any) (by simp) ⟨by simp,by rw [hns]; simp only [cn]; omega,by rw [hany]; simp only [cn]; congr 1; simp only [eq_iff_iff]; omega⟩⟩
  ·have hc:=List.count_le_length (a:=(10:UInt8)) (l:=s)
   refine j5 ?_
   refine j3 ?_
   refine d9 rfl rfl rfl ?_
   refine l5 ?_
   refine j5 ?_
   refine C9 rfl (by simp [ltB]) ?_
   refine l7 ?_
   refine j5 ?_
   refine q8 ?_
   refine j5 ?_
   refine j3 ?_
   refine d9 rfl rfl (J5 (by simp [inR]) rfl) ?_
   refine F6 rfl rfl rfl (v:=.str [10]) rfl ?_
   refine d9 rfl rfl rfl ?_
   refine l5 ?_
   refine j5 ?_
   refine j3 ?_
   refine d9 rfl rfl rfl ?_
   refine d9 rfl rfl rfl ?_
   refine D7 rfl rfl rfl rfl rfl (ct_E s 10) rfl ?_
   refine d9 rfl rfl rfl ?_
   refine l5 ?_
   refine j5 ?_
   refine j3 ?_
   refine d9 rfl rfl rfl ?_
   refine d9 rfl rfl rfl ?_
   refine l5 ?_
   refine A9 rfl (fun g40=>?_) (fun g40=>?_)
   ·replace g40:s.count 10 ≠ 0:=by intro h; rw [h] at g40; simp [eqB] at g40
    refine j5 ?_
    refine j3 ?_
    refine d9 rfl rfl rfl ?_
    refine d9 rfl rfl rfl ?_
    refine d9 rfl rfl rfl ?_
    refine d9 rfl rfl rfl ?_
    refine d9 rfl rfl (J5 (by simp [inR]) (show _ = some (.int .u8 (((10:UInt8).toNat:Nat):Int)) from rfl)) ?_
    refine d9 rfl rfl rfl ?_
    refine d9 rfl rfl rfl ?_
    refine d9 rfl rfl (J5 (by simp [inR]) rfl) ?_
    refine F6 rfl rfl rfl (a06 10 rfl) ?_
    refine d9 rfl rfl rfl ?_
    refine d9 rfl rfl rfl ?_
    refine d9 rfl rfl (mul1 (by omega)) ?_
    refine d9 rfl rfl (addN (by omega)) ?_
    refine d9 rfl rfl rfl ?_
    refine l5 ?_
    refine j3 ?_
    refine d9 rfl rfl rfl ?_
    refine l5 ?_
    refine j3 ?_
    refine d9 rfl rfl rfl ?_
    refine d9 rfl rfl rfl ?_
    refine l5 ?_
    exact ⟨[(0,.ptr 0 0),(1,.str s),(5,.int .i64 ((ns + s.count 10:Nat):Int)),(6,.bool true),(30,.rslice 1 0 4 true),(31,.int .i64 4),(32,.int .i64 ((4:Nat):Int))],[(0,.row RR),(1,.grow 1 TR)],by kernel_rfl,ih (4,ns + s.count 10,true) (by simp) ⟨by simp,by rw [hns]; simp only [cn]; omega,by simp only [cn]; symm; simp only [decide_eq_true_eq]; omega⟩⟩
   ·replace g40:s.count 10 = 0:=by simp only [eqB,Bool.not_eq_false',beq_iff_eq] at g40; omega
    refine l7 ?_
    refine j3 ?_
    refine d9 rfl rfl rfl ?_
    refine d9 rfl rfl rfl ?_
    refine l5 ?_
    exact ⟨[(0,.ptr 0 0),(1,.str s),(5,.int .i64 ((ns:Nat):Int)),(6,.bool any),(30,.rslice 1 0 4 true),(31,.int .i64 4),(32,.int .i64 ((4:Nat):Int))],[(0,.row RR),(1,.grow 1 TR)],by kernel_rfl,ih (4,ns,any) (by simp) ⟨by simp,by rw [hns]; simp only [cn]; omega,by rw [hany]; simp only [cn]; congr 1; simp only [eq_iff_iff]; omega⟩⟩
  ·have hN:ns = (esc s).length:=by rw [hns,a7d]; rfl
   replace hany:any = decide (s.length < (esc s).length):=by rw [hany,a7d]; simp only [cn]; congr 1; simp only [eq_iff_iff]; omega
   subst hN
   refine j5 ?_
   refine j3 ?_
   refine d9 rfl rfl rfl ?_
   refine l5 ?_
   refine j5 ?_
   refine F9 rfl (by simp [ltB]) ?_
   refine L9 ?_
   refine j5 ?_
   refine j5 ?_
   refine j3 ?_
   refine d9 rfl rfl rfl ?_
   refine d9 rfl rfl rfl ?_
   refine l5 ?_
   refine A9 rfl (fun g82=>?_) (fun g82=>?_)
   ·have hs1:=a4V (s:=s) (by rw [hany] at g82; simpa using g82)
    rw [hs1]
    refine j5 ?_
    refine j3 ?_
    refine d9 rfl rfl rfl ?_
    refine d9 rfl rfl rfl ?_
    refine l5 ?_
    exact l6 ⟨_,rfl,by kernel_rfl⟩
   ·refine l7 ?_
    refine j5 ?_
    refine j3 ?_
    refine d9 rfl rfl rfl ?_
    refine U0 rfl rfl (mk_ok (esc s).length (by have:=a1n s; omega) rfl) ?_
    refine d9 rfl rfl rfl ?_
    refine l5 ?_
    refine j5 ?_
    refine j3 ?_
    refine d9 rfl rfl rfl ?_
    refine l5 ?_
    refine a7h rfl ?_
    refine j5 ?_
    refine j3 ?_
    refine d9 rfl rfl rfl ?_
    refine l5 ?_
    refine q8 ?_
    refine O7 (fr1:=[(0,.ptr 0 0),(1,.str s),(12,.rslice 2 0 (esc s).length true),(13,.int .i64 (((esc (s.take 0)).length:Nat):Int)),(14,.int .i64 ((0:Nat):Int))]) (H1:=[(0,.row RR),(1,.grow 1 TR),(2,.grow 1 (BUF s 0))]) (by kernel_rfl) ?_
    refine a0z (fun i:Nat=>[(0,.ptr 0 0),(1,.str s),(12,.rslice 2 0 (esc s).length true),(13,.int .i64 (((esc (s.take i)).length:Nat):Int)),(14,.int .i64 ((i:Nat):Int))]) (fun i=>[(0,.row RR),(1,.grow 1 TR),(2,.grow 1 (BUF s i))]) (fun i=>i <= s.length) (fun i=>s.length - i) 0 (Nat.zero_le _) ?_
    intro i hi ih
    have hles:=a1n s
    have hpre:=a2a s i
    have hbl:=a9k s i
    refine j5 ?_
    refine j5 ?_
    refine j3 ?_
    refine d9 rfl rfl rfl ?_
    refine d9 rfl rfl rfl ?_
    refine d9 rfl rfl rfl ?_
    refine d9 rfl rfl rfl ?_
    refine l5 ?_
    refine A9 rfl (fun g89=>?_) (fun g89=>?_)
    ·replace g89:i < s.length:=by simpa [ltN] using g89
     obtain ⟨b,hb⟩:∃ b,s.getD i 0 = b:=⟨_,rfl⟩
     have htk:=a3c g89
     rw [hb] at htk
     have hpre2:=a2a s (i + 1)
     refine l7 ?_
     refine j5 ?_
     refine q8 ?_
     refine j5 ?_
     refine j3 ?_
     refine d9 rfl rfl rfl ?_
     refine d9 rfl rfl rfl ?_
     refine d9 rfl rfl (J5 (I6 g89) (show _ = some (.int .u8 (((s.getD i 0).toNat:Nat):Int)) from rfl)) ?_
     rw [hb]
     refine d9 rfl rfl rfl ?_
     refine l5 ?_
     refine j5 ?_
     refine j3 ?_
     refine d9 rfl rfl rfl ?_
     refine d9 rfl rfl rfl ?_
     refine d9 rfl rfl rfl ?_
     refine d9 rfl rfl rfl ?_
     refine d9 rfl rfl (J5 (I6 (UInt8.toNat_lt b)) rfl) ?_
     rcases a0t b with ⟨c,hc,he⟩ | ⟨hc,he⟩
     ·refine F6 rfl rfl rfl ((a06 b (by simp)).trans (congrArg some hc)) ?_
      refine d9 rfl rfl (a8P 2 rfl) ?_
      refine l5 ?_
      refine C9 rfl (rfl) ?_
      refine j3 ?_
      refine d9 rfl rfl rfl ?_
      refine d9 rfl rfl rfl ?_
      refine d9 rfl rfl rfl ?_
      have hL:(esc (s.take (i + 1))).length = (esc (s.take i)).length + 2:=by rw [htk,he,List.length_append]; rfl
      refine d9 rfl rfl (J5 (a1T (by omega) (Nat.le_refl _)) rfl) ?_
      refine d9 rfl rfl rfl ?_
      refine d9 rfl rfl rfl ?_
      refine d9 rfl rfl rfl ?_
      refine d9 rfl rfl rfl ?_
      refine d9 rfl rfl (J5 (I6 (UInt8.toNat_lt b)) rfl) ?_
      refine F6 rfl rfl rfl ((a06 b (by simp)).trans (congrArg some hc)) ?_
      refine U0 rfl rfl (cp_ok (B:=BUF s (i + 1)) (n:=(esc s).length - (esc (s.take i)).length) rfl (by omega) (by omega) (a9n g89 hb he)) ?_
      refine d9 rfl rfl (addE (k:=2) hL (by omega)) ?_
      refine d9 rfl rfl rfl ?_
      refine l5 ?_
      refine j3 ?_
      refine d9 rfl rfl rfl ?_
      refine d9 rfl rfl (add1 (by omega)) ?_
      refine d9 rfl rfl rfl ?_
      refine l5 ?_
      exact ⟨[(0,.ptr 0 0),(1,.str s),(12,.rslice 2 0 (esc s).length true),(13,.int .i64 (((esc (s.take (i + 1))).length:Nat):Int)),(14,.int .i64 (((i + 1):Nat):Int))],[(0,.row RR),(1,.grow 1 TR),(2,.grow 1 (BUF s (i + 1)))],by kernel_rfl,ih (i + 1) (by omega) (by omega)⟩
     ·refine F6 rfl rfl rfl ((a06 b (by simp)).trans (congrArg some hc)) ?_
      refine d9 rfl rfl rfl ?_
      refine l5 ?_
      refine F9 rfl (rfl) ?_
      refine j5 ?_
      refine j3 ?_
      refine d9 rfl rfl rfl ?_
      refine d9 rfl rfl rfl ?_
      refine d9 rfl rfl rfl ?_
      have hL:(esc (s.take (i + 1))).length = (esc (s.take i)).length + 1:=by rw [htk,he,List.length_append]; rfl
      refine d9 rfl rfl (J5 (I6 (by omega)) rfl) ?_
      refine a6C rfl rfl rfl rfl (st_ok (B:=BUF s (i + 1)) rfl (by omega) (a9l g89 hb he)) ?_
      refine l5 ?_
      refine j3 ?_
      refine d9 rfl rfl rfl ?_
      refine d9 rfl rfl (addE (k:=1) hL (by omega)) ?_
      refine d9 rfl rfl rfl ?_
      refine l5 ?_
      refine j3 ?_
      refine d9 rfl rfl rfl ?_
      refine d9 rfl rfl (add1 (by omega)) ?_
      refine d9 rfl rfl rfl ?_
      refine l5 ?_
      exact ⟨[(0,.ptr 0 0),(1,.str s),(12,.rslice 2 0 (esc s).length true),(13,.int .i64 (((esc (s.take (i + 1))).length:Nat):Int)),(14,.int .i64 (((i + 1):Nat):Int))],[(0,.row RR),(1,.grow 1 TR),(2,.grow 1 (BUF s (i + 1)))],by kernel_rfl,ih (i + 1) (by omega) (by omega)⟩
    ·replace g89:¬ i < s.length:=by simpa [ltN] using g89
     obtain rfl:i = s.length:=by omega
     refine L9 ?_
     refine ⟨[(12,.slice .sealed (esc s).length ((BUF s s.length).take ((esc s).length * 1)))],[(0,.row RR),(1,.grow 1 TR)],by kernel_rfl,?_⟩
     refine j5 ?_
     refine j3 ?_
     refine d9 rfl rfl rfl ?_
     refine a2h rfl rfl rfl (cv_ok s) ?_
     refine d9 rfl rfl rfl ?_
     refine l5 ?_
     exact l6 ⟨_,rfl,by kernel_rfl⟩
 ·refine j5 ?_
  refine j3 ?_
  refine d9 rfl rfl rfl ?_
  refine l5 ?_
  refine q8 ?_
  refine O7 (fr1:=[(0,.ptr 0 0),(1,.str s),(5,.int .i64 ((s.length:Nat):Int)),(6,.bool false),(10,.int .i64 ((0:Nat):Int))]) (H1:=[(0,.row RR),(1,.grow 1 TR)]) (by kernel_rfl) ?_
  refine a0z (fun x:Nat × Nat × Bool=>[(0,.ptr 0 0),(1,.str s),(5,.int .i64 ((x.2.1:Nat):Int)),(6,.bool x.2.2),(10,.int .i64 ((x.1:Nat):Int))]) (fun _=>[(0,.row RR),(1,.grow 1 TR)]) (fun x=>x.1 <= s.length /\ x.2.1 + x.1 = s.length + (esc (s.take x.1)).length /\ x.2.2 = decide (x.1 < (esc (s.take x.1)).length)) (fun x=>s.length - x.1) (0,s.length,false) ⟨by simp,by simp [esc],by simp [esc]⟩ ?_
  rintro ⟨i,ns,any⟩ ⟨hi,hns,hany⟩ ih
  simp only at hi hns hany ih ⊢
  have hge:=a8C (s.take i)
  have hle:=a1n (s.take i)
  rw [List.length_take,Nat.min_eq_left hi] at hge hle
  refine j5 ?_
  refine j5 ?_
  refine j3 ?_
  refine d9 rfl rfl rfl ?_
  refine d9 rfl rfl rfl ?_
  refine d9 rfl rfl rfl ?_
  refine d9 rfl rfl rfl ?_
  refine l5 ?_
  refine A9 rfl (fun g58=>?_) (fun g58=>?_)
  ·replace g58:i < s.length:=by simpa [ltN] using g58
   obtain ⟨b,hb⟩:∃ b,s.getD i 0 = b:=⟨_,rfl⟩
   have htk:=a3c g58
   rw [hb] at htk
   refine l7 ?_
   refine j5 ?_
   refine q8 ?_
   refine j5 ?_
   refine j3 ?_
   refine d9 rfl rfl rfl ?_
   refine d9 rfl rfl rfl ?_
   refine d9 rfl rfl (J5 (I6 g58) (show _ = some (.int .u8 (((s.getD i 0).toNat:Nat):Int)) from rfl)) ?_
   rw [hb]
   refine d9 rfl rfl rfl ?_
   refine l5 ?_
   refine j5 ?_
   refine j3 ?_
   refine d9 rfl rfl rfl ?_
   refine d9 rfl rfl rfl ?_
   refine d9 rfl rfl rfl ?_
   refine d9 rfl rfl rfl ?_
   refine d9 rfl rfl (J5 (I6 (UInt8.toNat_lt b)) rfl) ?_
   rcases a0t b with ⟨c,hc,he⟩ | ⟨hc,he⟩
   ·refine F6 rfl rfl rfl ((a06 b (by simp)).trans (congrArg some hc)) ?_
    refine d9 rfl rfl (a8P 2 rfl) ?_
    refine l5 ?_
    refine C9 rfl (rfl) ?_
    refine j5 ?_
    refine j3 ?_
    refine d9 rfl rfl rfl ?_
    refine d9 rfl rfl rfl ?_
    refine d9 rfl rfl rfl ?_
    refine d9 rfl rfl rfl ?_
    refine d9 rfl rfl rfl ?_
    refine d9 rfl rfl (J5 (I6 (UInt8.toNat_lt b)) rfl) ?_
    refine F6 rfl rfl rfl ((a06 b (by simp)).trans (congrArg some hc)) ?_
    refine d9 rfl rfl rfl ?_
    refine d9 rfl rfl rfl ?_
    refine d9 rfl rfl (addN (k:=1) (by omega)) ?_
    refine d9 rfl rfl rfl ?_
    refine l5 ?_
    refine j3 ?_
    refine d9 rfl rfl rfl ?_
    refine l5 ?_
    refine j3 ?_
    refine d9 rfl rfl rfl ?_
    refine d9 rfl rfl (add1 (by omega)) ?_
    refine d9 rfl rfl rfl ?_
    refine l5 ?_
    exact ⟨[(0,.ptr 0 0),(1,.str s),(5,.int .i64 ((ns + 1:Nat):Int)),(6,.bool true),(10,.int .i64 ((i + 1:Nat):Int))],[(0,.row RR),(1,.grow 1 TR)],by kernel_rfl,ih (i + 1,ns + 1,true) (by simp only; omega) ⟨by simp only; omega,by rw [htk,he]; simp only [List.length_append,List.length_cons,List.length_nil]; omega,by rw [htk,he]; simp only [List.length_append,List.length_cons,List.length_nil]; symm; simp only [decide_eq_true_eq]; omega⟩⟩
   ·refine F6 rfl rfl rfl ((a06 b (by simp)).trans (congrArg some hc)) ?_
    refine d9 rfl rfl rfl ?_
    refine l5 ?_
    refine F9 rfl (rfl) ?_
    refine l7 ?_
    refine j3 ?_
    refine d9 rfl rfl rfl ?_
    refine d9 rfl rfl (add1 (by omega)) ?_
    refine d9 rfl rfl rfl ?_
    refine l5 ?_
    exact ⟨[(0,.ptr 0 0),(1,.str s),(5,.int .i64 ((ns:Nat):Int)),(6,.bool any),(10,.int .i64 ((i + 1:Nat):Int))],[(0,.row RR),(1,.grow 1 TR)],by kernel_rfl,ih (i + 1,ns,any) (by simp only; omega) ⟨by simp only; omega,by rw [htk,he]; simp only [List.length_append,List.length_cons,List.length_nil]; omega,by rw [hany,htk,he]; simp only [List.length_append,List.length_cons,List.length_nil]; congr 1; simp only [eq_iff_iff]; omega⟩⟩
  ·replace g58:¬ i < s.length:=by simpa [ltN] using g58
   obtain rfl:i = s.length:=by omega
   rw [List.take_length] at hns hany
   obtain rfl:ns = (esc s).length:=by omega
   refine L9 ?_
   refine j5 ?_
   refine j5 ?_
   refine j3 ?_
   refine d9 rfl rfl rfl ?_
   refine d9 rfl rfl rfl ?_
   refine l5 ?_
   refine A9 rfl (fun g82=>?_) (fun g82=>?_)
   ·have hs1:=a4V (s:=s) (by rw [hany] at g82; simpa using g82)
    rw [hs1]
    refine j5 ?_
    refine j3 ?_
    refine d9 rfl rfl rfl ?_
    refine d9 rfl rfl rfl ?_
    refine l5 ?_
    exact l6 ⟨_,rfl,by kernel_rfl⟩
   ·refine l7 ?_
    refine j5 ?_
    refine j3 ?_
    refine d9 rfl rfl rfl ?_
    refine U0 rfl rfl (mk_ok (esc s).length (by have:=a1n s; omega) rfl) ?_
    refine d9 rfl rfl rfl ?_
    refine l5 ?_
    refine j5 ?_
    refine j3 ?_
    refine d9 rfl rfl rfl ?_
    refine l5 ?_
    refine a7h rfl ?_
    refine j5 ?_
    refine j3 ?_
    refine d9 rfl rfl rfl ?_
    refine l5 ?_
    refine q8 ?_
    refine O7 (fr1:=[(0,.ptr 0 0),(1,.str s),(12,.rslice 2 0 (esc s).length true),(13,.int .i64 (((esc (s.take 0)).length:Nat):Int)),(14,.int .i64 ((0:Nat):Int))]) (H1:=[(0,.row RR),(1,.grow 1 TR),(2,.grow 1 (BUF s 0))]) (by kernel_rfl) ?_
    refine a0z (fun i:Nat=>[(0,.ptr 0 0),(1,.str s),(12,.rslice 2 0 (esc s).length true),(13,.int .i64 (((esc (s.take i)).length:Nat):Int)),(14,.int .i64 ((i:Nat):Int))]) (fun i=>[(0,.row RR),(1,.grow 1 TR),(2,.grow 1 (BUF s i))]) (fun i=>i <= s.length) (fun i=>s.length - i) 0 (Nat.zero_le _) ?_
    intro i hi ih
    have hles:=a1n s
    have hpre:=a2a s i
    have hbl:=a9k s i
    refine j5 ?_
    refine j5 ?_
    refine j3 ?_
    refine d9 rfl rfl rfl ?_
    refine d9 rfl rfl rfl ?_
    refine d9 rfl rfl rfl ?_
    refine d9 rfl rfl rfl ?_
    refine l5 ?_
    refine A9 rfl (fun g89=>?_) (fun g89=>?_)
    ·replace g89:i < s.length:=by simpa [ltN] using g89
     obtain ⟨b,hb⟩:∃ b,s.getD i 0 = b:=⟨_,rfl⟩
     have htk:=a3c g89
     rw [hb] at htk
     have hpre2:=a2a s (i + 1)
     refine l7 ?_
     refine j5 ?_
     refine q8 ?_
     refine j5 ?_
     refine j3 ?_
     refine d9 rfl rfl rfl ?_
     refine d9 rfl rfl rfl ?_
     refine d9 rfl rfl (J5 (I6 g89) (show _ = some (.int .u8 (((s.getD i 0).toNat:Nat):Int)) from rfl)) ?_
     rw [hb]
     refine d9 rfl rfl rfl ?_
     refine l5 ?_
     refine j5 ?_
     refine j3 ?_
     refine d9 rfl rfl rfl ?_
     refine d9 rfl rfl rfl ?_
     refine d9 rfl rfl rfl ?_
     refine d9 rfl rfl rfl ?_
     refine d9 rfl rfl (J5 (I6 (UInt8.toNat_lt b)) rfl) ?_
     rcases a0t b with ⟨c,hc,he⟩ | ⟨hc,he⟩
     ·refine F6 rfl rfl rfl ((a06 b (by simp)).trans (congrArg some hc)) ?_
      refine d9 rfl rfl (a8P 2 rfl) ?_
      refine l5 ?_
      refine C9 rfl (rfl) ?_
      refine j3 ?_
      refine d9 rfl rfl rfl ?_
      refine d9 rfl rfl rfl ?_
      refine d9 rfl rfl rfl ?_
      have hL:(esc (s.take (i + 1))).length = (esc (s.take i)).length + 2:=by rw [htk,he,List.length_append]; rfl
      refine d9 rfl rfl (J5 (a1T (by omega) (Nat.le_refl _)) rfl) ?_
      refine d9 rfl rfl rfl ?_
      refine d9 rfl rfl rfl ?_
      refine d9 rfl rfl rfl ?_
      refine d9 rfl rfl rfl ?_
      refine d9 rfl rfl (J5 (I6 (UInt8.toNat_lt b)) rfl) ?_
      refine F6 rfl rfl rfl ((a06 b (by simp)).trans (congrArg some hc)) ?_
      refine U0 rfl rfl (cp_ok (B:=BUF s (i + 1)) (n:=(esc s).length - (esc (s.take i)).length) rfl (by omega) (by omega) (a9n g89 hb he)) ?_
      refine d9 rfl rfl (addE (k:=2) hL (by omega)) ?_
      refine d9 rfl rfl rfl ?_
      refine l5 ?_
      refine j3 ?_
      refine d9 rfl rfl rfl ?_
      refine d9 rfl rfl (add1 (by omega)) ?_
      refine d9 rfl rfl rfl ?_
      refine l5 ?_
      exact ⟨[(0,.ptr 0 0),(1,.str s),(12,.rslice 2 0 (esc s).length true),(13,.int .i64 (((esc (s.take (i + 1))).length:Nat):Int)),(14,.int .i64 (((i + 1):Nat):Int))],[(0,.row RR),(1,.grow 1 TR),(2,.grow 1 (BUF s (i + 1)))],by kernel_rfl,ih (i + 1) (by omega) (by omega)⟩
     ·refine F6 rfl rfl rfl ((a06 b (by simp)).trans (congrArg some hc)) ?_
      refine d9 rfl rfl rfl ?_
      refine l5 ?_
      refine F9 rfl (rfl) ?_
      refine j5 ?_
      refine j3 ?_
      refine d9 rfl rfl rfl ?_
      refine d9 rfl rfl rfl ?_
      refine d9 rfl rfl rfl ?_
      have hL:(esc (s.take (i + 1))).length = (esc (s.take i)).length + 1:=by rw [htk,he,List.length_append]; rfl
      refine d9 rfl rfl (J5 (I6 (by omega)) rfl) ?_
      refine a6C rfl rfl rfl rfl (st_ok (B:=BUF s (i + 1)) rfl (by omega) (a9l g89 hb he)) ?_
      refine l5 ?_
      refine j3 ?_
      refine d9 rfl rfl rfl ?_
      refine d9 rfl rfl (addE (k:=1) hL (by omega)) ?_
      refine d9 rfl rfl rfl ?_
      refine l5 ?_
      refine j3 ?_
      refine d9 rfl rfl rfl ?_
      refine d9 rfl rfl (add1 (by omega)) ?_
      refine d9 rfl rfl rfl ?_
      refine l5 ?_
      exact ⟨[(0,.ptr 0 0),(1,.str s),(12,.rslice 2 0 (esc s).length true),(13,.int .i64 (((esc (s.take (i + 1))).length:Nat):Int)),(14,.int .i64 (((i + 1):Nat):Int))],[(0,.row RR),(1,.grow 1 TR),(2,.grow 1 (BUF s (i + 1)))],by kernel_rfl,ih (i + 1) (by omega) (by omega)⟩
    ·replace g89:¬ i < s.length:=by simpa [ltN] using g89
     obtain rfl:i = s.length:=by omega
     refine L9 ?_
     refine ⟨[(12,.slice .sealed (esc s).length ((BUF s s.length).take ((esc s).length * 1)))],[(0,.row RR),(1,.grow 1 TR)],by kernel_rfl,?_⟩
     refine j5 ?_
     refine j3 ?_
     refine d9 rfl rfl rfl ?_
     refine a2h rfl rfl rfl (cv_ok s) ?_
     refine d9 rfl rfl rfl ?_
     refine l5 ?_
     exact l6 ⟨_,rfl,by kernel_rfl⟩
end Go.Proofs.Ytlhgheonlcjpaaa.Rp
namespace Go.Vm
open Go
variable {ρ ρ':Rho} {lab lab':Lab} {w w':World} {H:Hp}
theorem Rel.carry (hF:∀ b o x,R6 lab w b o x -> R6 lab' w' b o x) {v:V} {x:Value} (h:Rel ρ lab w v x):Rel ρ lab' w' v x:=by
 induction h with
 | undef x=>exact .undef x
 | bool b=>exact .bool b
 | int k n=>exact .int k n
 | str s=>exact .str s
 | nilptr=>exact .nilptr
 | ptr r off b o c h=>exact .ptr r off b o c h
 | cptr cells xs b o hl hc _ hnf ih=>exact .cptr cells xs b o hl (fun i x hx=>hF _ _ _ (hc i x hx)) ih hnf
 | slice ow n cells xs b o ao cap hl hn hb hz hc _ how h1 hnf ih=>exact .slice ow n cells xs b o ao cap hl hn hb hz (fun i x hx=>hF _ _ _ (hc i x hx)) ih how h1 hnf
 | rslice r off n wh base g ao cap h1 h2 h3 h4 h5=>exact .rslice r off n wh base g ao cap h1 h2 h3 h4 h5
 | func fn a c xs ys h1 h2 _ _ ih1 ih2=>exact .func fn a c xs ys h1 h2 ih1 ih2
 | nilFunc=>exact .nilFunc
 | iface t v x _ ih=>exact .iface t v x ih
 | nilIface=>exact .nilIface
 | opq m=>exact .opq m
 | agg cells xs h1 _ ih=>exact .agg cells xs h1 ih
 | tuple cells xs h1 _ ih=>exact .tuple cells xs h1 ih
theorem o6.carry (hF:∀ b o x,R6 lab w b o x -> R6 lab' w' b o x) {v:List V} {x:List Value} (h:o6 ρ lab w v x):o6 ρ lab' w' v x :=
 ⟨h.1,fun i v x hv hx=>(h.2 i v x hv hx).carry hF⟩
theorem Sim.relab (hS:Sim ρ lab H w) (hF:∀ b o x,R6 lab w b o x -> R6 lab' w' b o x) (hO:∀ b o k,J3 lab w k b o -> J3 lab' w' k b o /\ cellAt w' b o = cellAt w b o)
  (hl:∀ b o k,lab' b o = some k -> b < w'.heap.size):Sim ρ lab' H w' where
 row:=fun k cs hk=>by
  obtain ⟨b,o,xs,h1,h2,h3⟩:=hS.row k cs hk
  exact ⟨b,o,xs,h1,h2.carry hF,fun i x hx=>⟨(hO _ _ _ (h3 i x hx).1).1,(hO _ _ _ (h3 i x hx).1).2.trans (h3 i x hx).2⟩⟩
 grow:=fun k e cs hk=>by
  obtain ⟨base,c,xs,h1,h2,h3,h4,h8,h9,h5⟩:=hS.grow k e cs hk
  refine ⟨base,c,xs,h1,h2.carry hF,h3,h4,h8,h9,fun b o hb=>?_⟩
  obtain ⟨h6,h7⟩:=h5 b o hb
  refine ⟨fun i hi=>(hO _ _ _ (h6 i hi)).1,fun i x hx=>?_⟩
  have hi:i < c * e:=by
   have:i < xs.length:=by
    rcases Nat.lt_or_ge i xs.length with h | h
    ·exact h
    ·rw [List.getElem?_eq_none h] at hx; cases hx
   rw [h2.1] at this; omega
  exact (hO _ _ _ (h6 i hi)).2.trans (h7 i x hx)
 tip:=fun k e n hk=>by
  obtain ⟨ao,cap,h1,h2,h3,h4,h5⟩:=hS.tip k e n hk
  exact ⟨ao,cap,h1,h2,h3,h4,fun a ha=>⟨(h5 a ha).1,fun i hi hj=>(hO _ _ _ ((h5 a ha).2 i hi hj)).1⟩⟩
 hdom:=hS.hdom
 adom:=hS.adom
 ldom:=hl
def Lab.mine (lab:Lab) (B:Nat):Lab:=fun b o=>if b = B then some none else lab b o
def Lab.left (lab:Lab) (B:Nat):Lab:=fun b o=>if b = B then none else lab b o
theorem mineF (hg:I4 w w'):∀ b o x,R6 lab w b o x -> R6 (lab.mine w.heap.size) w' b o x:=fun b o x h=>by
 have hb:=J6 h.cell
 refine ⟨?_,(hg.cell hb o).trans h.cell⟩
 simp only [Lab.mine]
 rw [if_neg (by omega)]
 exact h.lab
theorem Sim.mine (hS:Sim ρ lab H w) (hg:I4 w w') (hB:w.heap.size < w'.heap.size):Sim ρ (lab.mine w.heap.size) H w':=by
 refine hS.relab (mineF hg) (fun b o k h=>?_) (fun b o k h=>?_)
 ·obtain ⟨x,hx⟩:=h.cell
  have hb:=J6 hx
  refine ⟨⟨?_,(hg.frozen hb o).trans h.free,x,(hg.cell hb o).trans hx⟩,hg.cell hb o⟩
  simp only [Lab.mine]
  rw [if_neg (by omega)]
  exact h.lab
 ·simp only [Lab.mine] at h
  split at h
  ·rename_i hb; subst hb; exact hB
  ·exact Nat.lt_of_lt_of_le (hS.ldom b o k h) hg.size
section
variable {w1 w2 w3:World} {B:Nat}
structure Wrote (B:Nat) (w w':World):Prop where
 size:w.heap.size <= w'.heap.size
 os:w'.os = w.os
 tape:w'.tape = w.tape
 output:w'.output = w.output
 blk:∀ b,b < w.heap.size -> b ≠ B -> w'.heap[b]? = w.heap[b]?
theorem Wrote.cell (h:Wrote B w w') {b:Nat} (hb:b < w.heap.size) (hn:b ≠ B) (o:Nat):cellAt w' b o = cellAt w b o:=by simp only [cellAt,World.cell?,h.blk b hb hn]
theorem Wrote.frozen (h:Wrote B w w') {b:Nat} (hb:b < w.heap.size) (hn:b ≠ B) (o:Nat):w'.frozen? ⟨b,o,none⟩ = w.frozen? ⟨b,o,none⟩:=by simp only [World.frozen?,h.blk b hb hn]
theorem Wrote.refl (B:Nat) (w:World):Wrote B w w:=⟨Nat.le_refl _,rfl,rfl,rfl,fun _ _ _=>rfl⟩
theorem leftF (E:Ext (lab.mine B) w1 lab' w2) (hw:Wrote B w2 w3):∀ b o x,R6 lab' w2 b o x -> R6 (lab'.left B) w3 b o x:=fun b o x h=>by
 have hb:=J6 h.cell
 have hn:b ≠ B:=by
  rintro rfl
  have:=(E.ctx b o).2 (by simp [Lab.mine])
  rw [h.lab] at this; cases this
 refine ⟨?_,(hw.cell hb hn o).trans h.cell⟩
 simp only [Lab.left]
 rw [if_neg hn]
 exact h.lab
theorem Sim.left (hS:Sim ρ' lab' H w2) (E:Ext (lab.mine B) w1 lab' w2) (hw:Wrote B w2 w3):Sim ρ' (lab'.left B) H w3:=by
 refine hS.relab (leftF E hw) (fun b o k h=>?_) (fun b o k h=>?_)
 ·obtain ⟨x,hx⟩:=h.cell
  have hb:=J6 hx
  have hn:b ≠ B:=by
   rintro rfl
   have:=(E.ctx b o).2 (by simp [Lab.mine])
   rw [h.lab] at this; cases this
  refine ⟨⟨?_,(hw.frozen hb hn o).trans h.free,x,(hw.cell hb hn o).trans hx⟩,hw.cell hb hn o⟩
  simp only [Lab.left]
  rw [if_neg hn]
  exact h.lab
 ·simp only [Lab.left] at h
  split at h
  ·cases h
  ·exact Nat.lt_of_lt_of_le (hS.ldom b o k h) hw.size
theorem Ext.left (hS:Sim ρ lab H w) (hg:I4 w w1) (hB:w.heap.size < w1.heap.size) (E:Ext (lab.mine w.heap.size) w1 lab' w2) (hw:Wrote w.heap.size w2 w3):Ext lab w (lab'.left w.heap.size) w3 where
 size:=Nat.le_trans hg.size (Nat.le_trans E.size hw.size)
 os:=hw.os.trans (E.os.trans hg.os)
 tape:=hw.tape.trans (E.tape.trans hg.tape)
 output:=hw.output.trans (E.output.trans hg.output)
 lb:=fun b o hb hl=>by
  simp only [Lab.left]
  rw [if_neg (by omega)]
  exact E.lb b o (Nat.lt_of_lt_of_le hb hg.size) (by simp only [Lab.mine]; rw [if_neg (by omega)]; exact hl)
 ctx:=fun b o=>by
  by_cases hb:b = w.heap.size
  ·subst hb
   have h1:(lab'.left w.heap.size) w.heap.size o = none:=by simp [Lab.left]
   rw [h1]
   constructor
   ·intro h; cases h
   ·intro h
    have:=hS.ldom _ _ _ h
    omega
  ·have:=E.ctx b o
   simp only [Lab.left,Lab.mine,if_neg hb] at this ⊢
   exact this
 cl:=fun b o hb hl=>by
  have hb1:=Nat.lt_of_lt_of_le hb hg.size
  have h1:=E.cl b o hb1 (fun k=>by simp only [Lab.mine]; rw [if_neg (by omega)]; exact hl k)
  have hb2:=Nat.lt_of_lt_of_le hb1 E.size
  exact ⟨(hw.cell hb2 (by omega) o).trans (h1.1.trans (hg.cell hb o)),(hw.frozen hb2 (by omega) o).trans (h1.2.trans (hg.frozen hb o))⟩
 blk:=fun b hb hl=>by
  have hb1:=Nat.lt_of_lt_of_le hb hg.size
  have h1:=E.blk b hb1 (fun o k=>by simp only [Lab.mine]; rw [if_neg (by omega)]; exact hl o k)
  have hb2:=Nat.lt_of_lt_of_le hb1 E.size
  exact (hw.blk b hb2 (by omega)).trans (h1.trans (hg.blk b hb))
end
theorem E_via {env:Env} {g g':Nat} {args l:List V} {H H':Hp} {o out:Out} {pre:List V -> Hp -> Option (Nat × List V × Hp)} {post:List V -> Hp -> Out -> Option Out} (hi:env.intr g = some (.via pre post)) (hp:pre args H = some (g',l,H'))
  (hc:E env (.call g' l) H' = some o) (ho:post args H o = some out):E env (.call g args) H = some out :=
 a8p (by simp only [step,hi,hp,hc,ho])
end Go.Vm
namespace Go.Proofs.Ytlhgheonlcjpaaa.Rp
open Go Go.Vm
theorem a7H {env:Env} {orc:Orc} {H:Hp} {k g:Nat} {args ac:List V} {ns:List Nat} {H3 H4 Hc:Hp} {v v4:V} (hq:env.quiet g = false) (hp:a2Y env g args H = some (ns,ac,Hc)) (hc:orc (.call g ac) Hc = some (.ret v H3)) (h7:a2I (J2 (u6 ns k) dep v) = some v4)
  (h8:a0N (K7 (u6 ns k) H3 H) = some H4) (h9:a0v H H3 k ns.length = true):A8 env orc k g args H = some (.val v4 H4):=by
 rw [a1p] at h8
 rw [a3N] at h7
 obtain ⟨G7,H2,h1,h2,h3,h4⟩:=a2Z hp
 simp only [A8,hq,h1,h2,h3,h4,hc,h7,h8,h9]
theorem b0l {env:Env} {orc:Orc} {ops:Array Oper} {o:Oper} {rest:List Oper} {fr:Fr} {H H1:Hp} {K:Res -> Prop} {rc:Operand} {m:String} {args:Array Operand} {at_:Array TypeId} {t g:Nat} {v0 v:V} {l:List V}
  (hw:o5 ops o fr = some true) (ho:o.op = .call ⟨.invoke rc m,args,at_⟩) (hr:ev fr rc = some (.iface t v0)) (hl:evL fr args.toList = some l) (hm:env.meth t m = some g) (hc:A8 env orc (newName o) g (v0 :: l) H = some (.val v H1))
  (h:Go.Vm.Os env orc ops rest (F7 o.dst v fr) H1 K):Go.Vm.Os env orc ops (o :: rest) fr H K:=by
 have hp:y9 o.op = false:=by rw [ho]; rfl
 refine U0 hw hp (v:=v) (H1:=H1) ?_ h
 unfold D5
 rw [ho]
 simp only [hr,hl,hm,hc]
theorem do_E:E env (.call 32 [.ptr 0 0,.func (.func 33) [.ptr 0 0] []]) [(0,.row [.int .u32 0,.int .i32 0,.int .u32 0,.nilIface,.slice (.tag 1) 8 pairs]),(1,.tip 1 8)] = some (.ret (.tuple []) [(0,.row [.int .u32 1,.int .i32 0,.int .u32 0,.iface 94 (.ptr 2 0),.slice .nil 0 []]),(1,.tip 1 8),(2,.row ((List.range 256).map cell ++ [.rslice 3 0 4 true])),(3,.grow 1 TR)]) :=
 E_via (g':=33) (l:=[.ptr 0 0]) (H':=[(0,.row [.int .u32 0,.int .i32 1,.int .u32 0,.nilIface,.slice (.tag 1) 8 pairs]),(1,.tip 1 8)]) rfl (by kernel_rfl) bu_E (by kernel_rfl)
theorem rp_E (s:List UInt8) (hs:s.length <= 1000000):E env (.call 23 [.ptr 0 0,.str s]) [(0,.row [.int .u32 0,.int .i32 0,.int .u32 0,.nilIface,.slice (.tag 1) 8 pairs]),(1,.tip 1 8)] = some (.ret (.str (esc s)) [(0,.row [.int .u32 1,.int .i32 0,.int .u32 0,.iface 94 (.ptr 2 0),.slice .nil 0 []]),(1,.tip 1 8),(2,.row ((List.range 256).map cell ++ [.rslice 3 0 4 true])),(3,.grow 1 TR)]):=by
 refine D8 (env:=env) rfl Try.func23 rfl rfl ?_
 refine j5 ?_
 refine j3 ?_
 refine d9 rfl rfl rfl ?_
 refine l5 ?_
 refine j5 ?_
 refine j3 ?_
 refine d9 rfl rfl rfl ?_
 refine d9 rfl rfl rfl ?_
 refine d9 rfl rfl rfl ?_
 refine d9 rfl rfl rfl ?_
 refine d9 rfl rfl rfl ?_
 refine a2g (v:=.tuple []) (H1:=[(0,.row [.int .u32 1,.int .i32 0,.int .u32 0,.iface 94 (.ptr 704 0),.slice .nil 0 []]),(1,.tip 1 8),(704,.row ((List.range 256).map cell ++ [.rslice 705 0 4 true])),(705,.grow 1 TR)]) rfl rfl rfl (X8 (ns:=[0,1]) (ac:=[.ptr 0 0,.func (.func 33) [.ptr 0 0] []]) (Hc:=[(0,.row [.int .u32 0,.int .i32 0,.int .u32 0,.nilIface,.slice (.tag 1) 8 pairs]),(1,.tip 1 8)]) rfl (by kernel_rfl) do_E (by kernel_rfl) (by kernel_rfl) (by kernel_rfl)) ?_
 refine l5 ?_
 refine j5 ?_
 refine j3 ?_
 refine d9 rfl rfl rfl ?_
 refine d9 rfl rfl rfl ?_
 refine d9 rfl rfl rfl ?_
 refine F6 rfl rfl rfl (v:=.iface 94 (.ptr 704 0)) (by kernel_rfl) ?_
 refine d9 rfl rfl rfl ?_
 refine b0l (g:=98) (v:=.str (esc s)) (H1:=[(0,.row [.int .u32 1,.int .i32 0,.int .u32 0,.iface 94 (.ptr 704 0),.slice .nil 0 []]),(1,.tip 1 8),(704,.row ((List.range 256).map cell ++ [.rslice 705 0 4 true])),(705,.grow 1 TR)]) rfl rfl rfl rfl rfl (a7H (ns:=[704,705]) (ac:=[.ptr 0 0,.str s]) (Hc:=[(0,.row RR),(1,.grow 1 TR)]) rfl (by kernel_rfl) (bs_E s hs) (by kernel_rfl) (by kernel_rfl) (by kernel_rfl)) ?_
 refine d9 rfl rfl rfl ?_
 refine l5 ?_
 exact l6 ⟨.str (esc s),by kernel_rfl,by kernel_rfl⟩
theorem esc_E (s:List UInt8) (hs:s.length <= 1000000):E env (.call 10 [.str s]) [] = some (.ret (.str (esc s)) []):=by
 refine D8 (env:=env) rfl Try.func10 rfl rfl ?_
 refine j5 ?_
 refine j3 ?_
 refine d9 rfl rfl rfl ?_
 refine l5 ?_
 refine j5 ?_
 refine j3 ?_
 refine d9 rfl rfl rfl ?_
 refine a2g (v:=.ptr 320 0) (H1:=[(320,.row [.int .u32 0,.int .i32 0,.int .u32 0,.nilIface,.slice (.tag 321) 8 pairs]),(321,.tip 1 8)]) rfl rfl rfl (X8 (ns:=[]) (ac:=[.slice .sealed 8 pairs]) (Hc:=[]) rfl (by kernel_rfl) nr_E (by kernel_rfl) (by kernel_rfl) (by kernel_rfl)) ?_
 refine d9 rfl rfl rfl ?_
 refine a2g (v:=.str (esc s)) (H1:=[(320,.row [.int .u32 1,.int .i32 0,.int .u32 0,.iface 94 (.ptr 448 0),.slice .nil 0 []]),(321,.tip 1 8),(448,.row ((List.range 256).map cell ++ [.rslice 449 0 4 true])),(449,.grow 1 TR)]) rfl rfl rfl (X8 (ns:=[320,321]) (ac:=[.ptr 0 0,.str s]) (Hc:=[(0,.row [.int .u32 0,.int .i32 0,.int .u32 0,.nilIface,.slice (.tag 1) 8 pairs]),(1,.tip 1 8)]) rfl (by kernel_rfl) (rp_E s hs) (by kernel_rfl) (by kernel_rfl) (by kernel_rfl)) ?_
 refine d9 rfl rfl rfl ?_
 refine l5 ?_
 exact l6 ⟨.str (esc s),by kernel_rfl,by kernel_rfl⟩
def escF:List V -> Option V:=fun args=>match args with
 | [.str s]=>match leN s.length 1000000 with
  | true=>some (.str (esc s))
  | false=>none
 | _=>none
theorem esc_intr:a4L Try.prog 10 (valI escF):=by
 refine a9W a7M (fun args v h=>?_) ⟨_,_,Try.func10,by kernel_rfl,rfl⟩
 unfold escF at h
 split at h
 ·rename_i s
  split at h
  ·rename_i hs
   cases h
   exact ⟨rfl,rfl,esc_E s (a0k hs)⟩
  ·cases h
 ·cases h
end Go.Proofs.Ytlhgheonlcjpaaa.Rp
namespace Go.Proofs.Ytlhgheonlcjpaaa
open Go Go.Vm
def a7L (t:Sc.Tok):Tok:=⟨t.k,t.t,(t.a:Nat),(t.l:Nat)⟩
def tokL:Sc.MR -> List Tok
 | .done l=>l.map a7L
 | _=>[]
def a4z:Sc.MR -> Int
 | .err c _=>c
 | _=>0
def tokA:Sc.MR -> Int
 | .err _ a=>(a:Nat)
 | _=>0
theorem a7J:∀ l:List Sc.Tok,U9 (l.map a7L) = Sc.J4 l
 | []=>rfl
 | t :: r=>by
  rw [List.map_cons,Y1.cons,a7J r]
  rfl
theorem tokV_cv {r:Sc.MR} (h:Sc.RBd r):Sc.a5O r = .tuple [.slice .sealed (List.length (tokL r)) (U9 (tokL r)),.agg [.int .i64 (a4z r),.int .i64 (tokA r)]]:=by
 cases r with
 | go x=>exact h.elim
 | done l =>
  simp only [tokL,Sc.a5O,a7J,List.length_map,a4z,tokA]
 | err c a=>rfl
theorem tok_call {env:Env} {g:Nat} {s:Str} (hi:env.intr g = some (.plain (valI Sc.tokF))) (h:Sc.RBd (Sc.a18 s)) :
  E env (.call g [.str s]) [] = some (.ret (.tuple [.slice .sealed (List.length (tokL (Sc.a18 s))) (U9 (tokL (Sc.a18 s))),.agg [.int .i64 (a4z (Sc.a18 s)),.int .i64 (tokA (Sc.a18 s))]]) []):=by
 refine a6V hi ?_
 rw [<- tokV_cv h]
 rfl
end Go.Proofs.Ytlhgheonlcjpaaa
namespace Go.Proofs.Ytlhgheonlcjpaaa
open Go Go.Vm
noncomputable def a2m (src1:Str):Option (List Tok × Int × Int):=some (tokL (Sc.a18 src1),a4z (Sc.a18 src1),tokA (Sc.a18 src1))
def escG (s1:Str):Option Str:=match leN s1.length 1000000 with
 | true=>some (Rp.esc s1)
 | false=>none
end Go.Proofs.Ytlhgheonlcjpaaa
namespace Go.Proofs.Ytlhgheonlcjpaaa
open Go Go.Vm
def K8 (n:Nat) (s1:Str):Nat -> Int -> Option (Lr (Unit) (Str × Int))
  | 0,_=>none
  | m2 + 1,x502 =>
      cond (ltB x502 (List.length s1:Int)) (
      Option.bind (α:=Bool) (
      (idxS s1 x502).bind fun b2 =>
      cond (ltB b2 32) (
      (idxS s1 x502).bind fun b3 =>
      cond (!eqB b3 10) (
      (idxS s1 x502).bind fun b4 =>
      some (!eqB b4 9)) (
      some false)) (
      some false)) fun x506 =>
      cond x506 (
      some (.out (([],4)))) (
      K8 n s1 m2 (w64 (x502 + 1)))) (
      some (.brk ()))
def Q5 (n:Nat) (s1:Str):Option (Str × Int) :=
 a5Y (α:=Unit) (
 K8 n s1 n 0) fun _ =>
 (escG s1).bind fun rr5 =>
 (cat [34] rr5).bind fun s6 =>
 (cat s6 [34]).bind fun s7 =>
 cond (ltB 8000 (List.length s7:Int)) (
 some (([],2))) (
 some ((s7,0)))
def a13 (s1:Str):Str × Int -> Out
 | (r503,r504)=>.ret (.tuple [.str r503,.i r504]) []
def P7 (n:Nat) (s1:Str):Option (Str × Bool) :=
 (Q5 n s1).bind fun (r2,r3) =>
 Option.bind (α:=Bool) (
 cond (!eqB r3 0) (
 some true) (
 some (ltB (List.length r2:Int) 2))) fun x501 =>
 cond x501 (
 some (([],false))) (
 (subS r2 1 (w64 ((List.length r2:Int) - 1))).bind fun s4 =>
 some ((s4,true)))
def a4w (s1:Str):Str × Bool -> Out
 | (r502,r503)=>.ret (.tuple [.str r502,.bool r503]) []
noncomputable def P6:Option (Bool) :=
 (a2m [108,101,116,32,120]).bind fun (l1,c2,a3) =>
 cond ((eqB c2 0) && ((eqB a3 0) && true)) (
 cond (eqB (List.length l1:Int) 2) (
 (idx' l1 0).bind fun x4 =>
 cond ((eqB x4.kind 9) && ((eqS x4.text [108,101,116]) && ((eqB x4.at_ 0) && ((eqB x4.len 3) && true)))) (
 (idx' l1 1).bind fun x5 =>
 some (((eqB x5.kind 1) && ((eqS x5.text [120]) && ((eqB x5.at_ 4) && ((eqB x5.len 1) && true)))))) (
 some (false))) (
 some (false))) (
 some (false))
def a4v:Bool -> Out
 | r501=>.ret (.bool r501) []
def F3 (n:Nat) (a1:List Tok) (b2:List Tok) (places3:Bool):Nat -> Int -> Option (Lr (Unit) (Bool))
  | 0,_=>none
  | m4 + 1,a4u =>
      cond (ltB a4u (List.length a1:Int)) (
      Option.bind (α:=Bool) (
      (idx' a1 a4u).bind fun x4 =>
      (idx' b2 a4u).bind fun x5 =>
      cond (!eqB x4.kind x5.kind) (
      some true) (
      (idx' a1 a4u).bind fun x6 =>
      (idx' b2 a4u).bind fun x7 =>
      cond (!eqS x6.text x7.text) (
      some true) (
      cond places3 (
      (idx' a1 a4u).bind fun x8 =>
      (idx' b2 a4u).bind fun x9 =>
      cond (!eqB x8.at_ x9.at_) (
      some true) (
      (idx' a1 a4u).bind fun x10 =>
      (idx' b2 a4u).bind fun x11 =>
      some (!eqB x10.len x11.len))) (
      some false)))) fun x505 =>
      cond x505 (
      some (.out (false))) (
      F3 n a1 b2 places3 m4 (w64 (a4u + 1)))) (
      some (.brk ()))
def Q0 (n:Nat) (a1:List Tok) (b2:List Tok) (places3:Bool):Option (Bool) :=
 cond (!eqB (List.length a1:Int) (List.length b2:Int)) (
 some (false)) (
 a5Y (α:=Unit) (
 F3 n a1 b2 places3 n 0) fun _ =>
 some (true))
def a0D (a1:List Tok) (b2:List Tok) (places3:Bool):Bool -> Out
 | r503=>.ret (.bool r503) []
noncomputable def A7 (n:Nat) (parts1:List Str):Nat -> Str -> (List Tok) -> Int -> Option (Lr (Str × List Tok) (Bool))
  | 0,_,_,_=>none
  | m4 + 1,a4a,U1,a2J =>
      cond (ltB a2J (List.length parts1:Int)) (
      bindQ (α:=Str × List Tok) (
      Option.bind (α:=Bool) (
      cond (eqB a2J 30) (
      some true) (
      (idx' parts1 a2J).bind fun x2 =>
      some (ltB 200 (List.length x2:Int)))) fun x525 =>
      cond x525 (
      some (.out (true))) (
      (idx' parts1 a2J).bind fun x3 =>
      (P7 n x3).bind fun (r4,r5) =>
      cond (!r5) (
      (P6).bind fun r6 =>
      some (.out (r6))) (
      Option.bind (α:=Int) (
      cond (eqB a2J 0) (
      some 5) (
      some 6)) fun a9F =>
      Option.bind (α:=Int) (
      cond (eqB a2J (w64 ((List.length parts1:Int) - 1))) (
      cond (eqB a2J 0) (
      some 4) (
      some 7)) (
      some a9F)) fun a9G =>
      (idx' parts1 a2J).bind fun x7 =>
      (app 40 U1 ([(⟨a9G,x7,0,0⟩:Tok)]:List Tok)).bind fun l8 =>
      (cat a4a r4).bind fun s9 =>
      cond (ltB a2J (w64 ((List.length parts1:Int) - 1))) (
      (app 40 l8 ([(⟨1,[120],0,0⟩:Tok)]:List Tok)).bind fun l10 =>
      (cat s9 [92,40,120,41]).bind fun s11 =>
      some (.brk (s11,l10))) (
      some (.brk (s9,l8)))))) fun (src528,a9X) =>
      A7 n parts1 m4 src528 a9X (w64 (a2J + 1))) (
      some (.brk (a4a,U1)))
noncomputable def N8 (n:Nat) (parts1:List Str):Option (Bool) :=
 a5Y (α:=Str × List Tok) (
 A7 n parts1 n [34] ([]:List Tok) 0) fun (a7w,a3B) =>
 Option.bind (α:=Bool) (
 cond (eqB (List.length parts1:Int) 0) (
 some true) (
 some (leB 8000 (List.length a7w:Int)))) fun x535 =>
 cond x535 (
 (P6).bind fun r12 =>
 some (r12)) (
 (cat a7w [34]).bind fun s13 =>
 (a2m s13).bind fun (l14,c15,a16) =>
 cond (eqB c15 0) (
 (Q0 n l14 a3B false).bind fun r17 =>
 cond r17 (
 (P6).bind fun r18 =>
 some (r18)) (
 some (false))) (
 some (false)))
def N9 (parts1:List Str):Bool -> Out
 | r504=>.ret (.bool r504) []
end Go.Proofs.Ytlhgheonlcjpaaa
namespace Go.Proofs.Ytlhgheonlcjpaaa.Sc
open Go Go.Vm
def okB (b:UInt8):Bool:=decide (32 <= b.toNat) || decide (b.toNat = 10) || decide (b.toNat = 9)
theorem getD_drop (q:List UInt8) (i k:Nat):q.getD (i + k) 0 = (q.drop i).getD k 0:=by
 rw [List.getD_eq_getElem?_getD,List.getD_eq_getElem?_getD,List.getElem?_drop]
theorem a8I {q:List UInt8} {i:Nat} {b:UInt8} {r:List UInt8} (h:q.drop i = b :: r):q.length = i + (r.length + 1):=by
 have:=congrArg List.length h
 rw [List.length_drop,List.length_cons] at this; omega
theorem H7 {q:List UInt8} {i:Nat} {a z:List UInt8} (h:q.drop i = a ++ z) {k:Nat} (hk:a.length = k):q.drop (i + k) = z:=by
 subst hk
 rw [<- List.drop_drop,h,List.drop_left]
theorem a7z {b:UInt8} {n:Nat} (h:b.toNat = n):b = UInt8.ofNat n:=by rw [<- h]; simp
theorem O4 {q:List UInt8} {o ins:Nat}:∀ (r z:List UInt8) (i:Nat) (text:List UInt8),q.drop i = Rp.esc r ++ z -> r.all okB = true -> part q o ins i text = part q o ins (i + (Rp.esc r).length) (text ++ r)
 | [],z,i,text,hd,_=>by simp [Rp.esc]
 | b :: r,z,i,text,hd,hok=>by
  rw [List.all_cons,Bool.and_eq_true] at hok
  rw [Rp.P5] at hd
  have hlen:i + ((Rp.Z5 b).length + (Rp.esc r).length + z.length) <= q.length ∨ q.length < i:=by
   have:=congrArg List.length hd
   rw [List.length_drop] at this
   simp only [List.length_append] at this
   omega
  have h0:=getD_drop q i 0
  have h1:=getD_drop q i 1
  rw [hd] at h0 h1
  have hl1:=Rp.a3b b
  have hlen:i + ((Rp.Z5 b).length + (Rp.esc r).length + z.length) <= q.length:=by
   rcases hlen with h | h
   ·exact h
   ·rw [List.drop_eq_nil_of_le (by omega)] at hd
    have:=congrArg List.length hd
    simp only [List.length_append,List.length_nil] at this; omega
  have fin:∀ k,(Rp.Z5 b).length = k -> q.drop (i + k) = Rp.esc r ++ z:=fun k hk=>H7 (by rw [hd,List.append_assoc]) hk
  by_cases c1:b = 10
  ·subst c1
   have e:Rp.Z5 10 = [92,110]:=rfl
   rw [e] at h0 h1 hlen
   simp only [List.length_cons,List.length_nil] at hlen
   rw [part_n (by omega) (by rw [show q.getD i 0 = 92 from h0]; decide) (by rw [show q.getD i 0 = 92 from h0]; rfl) (by rw [show q.getD (i + 1) 0 = 110 from h1]; rfl),O4 r z (i + 2) _ (fin 2 rfl) hok.2]
   rw [Rp.P5,e]; simp; congr 1; omega
  by_cases c2:b = 9
  ·subst c2
   have e:Rp.Z5 9 = [92,116]:=rfl
   rw [e] at h0 h1 hlen
   simp only [List.length_cons,List.length_nil] at hlen
   rw [part_t (by omega) (by rw [show q.getD i 0 = 92 from h0]; decide) (by rw [show q.getD i 0 = 92 from h0]; rfl) (by rw [show q.getD (i + 1) 0 = 116 from h1]; rfl),O4 r z (i + 2) _ (fin 2 rfl) hok.2]
   rw [Rp.P5,e]; simp; congr 1; omega
  by_cases c3:b = 92
  ·subst c3
   have e:Rp.Z5 92 = [92,92]:=rfl
   rw [e] at h0 h1 hlen
   simp only [List.length_cons,List.length_nil] at hlen
   rw [a2i (by omega) (by rw [show q.getD i 0 = 92 from h0]; decide) (by rw [show q.getD i 0 = 92 from h0]; rfl) (.inl (by rw [show q.getD (i + 1) 0 = 92 from h1]; rfl)),O4 r z (i + 2) _ (fin 2 rfl) hok.2,show q.getD (i + 1) 0 = 92 from h1]
   rw [Rp.P5,e]; simp; congr 1; omega
  by_cases c4:b = 34
  ·subst c4
   have e:Rp.Z5 34 = [92,34]:=rfl
   rw [e] at h0 h1 hlen
   simp only [List.length_cons,List.length_nil] at hlen
   rw [a2i (by omega) (by rw [show q.getD i 0 = 92 from h0]; decide) (by rw [show q.getD i 0 = 92 from h0]; rfl) (.inr (by rw [show q.getD (i + 1) 0 = 34 from h1]; rfl)),O4 r z (i + 2) _ (fin 2 rfl) hok.2,show q.getD (i + 1) 0 = 34 from h1]
   rw [Rp.P5,e]; simp; congr 1; omega
  have e:Rp.Z5 b = [b]:=by simp only [Rp.Z5,if_neg c1,if_neg c2,if_neg c3,if_neg c4]
  rw [e] at h0 h1 hlen
  simp only [List.length_cons,List.length_nil] at hlen
  have hb:32 <= b.toNat:=by
   have:=hok.1
   simp only [okB,Bool.or_eq_true,decide_eq_true_eq] at this
   rcases this with (h | h) | h
   ·exact h
   ·exact absurd (a7z h) c1
   ·exact absurd (a7z h) c2
  have h0:q.getD i 0 = b:=h0
  rw [a6D (by omega) (by rw [h0]; exact hb) (by rw [h0]; intro h; exact c4 (a7z (n:=34) h)) (by rw [h0]; intro h; exact c3 (a7z (n:=92) h)),O4 r z (i + 1) _ (fin 1 (by rw [e]; rfl)) hok.2,h0]
  rw [Rp.P5,e]; simp; congr 1; omega
theorem a6E {q:List UInt8} {o ins i:Nat} {r z text:List UInt8} (hd:q.drop i = Rp.esc r ++ (34 :: z)) (hok:r.all okB = true):part q o ins i text = .fin (text ++ r) (i + (Rp.esc r).length + 1):=by
 have h2:q.drop (i + (Rp.esc r).length) = 34 :: z:=H7 hd rfl
 have h0:q.getD (i + (Rp.esc r).length) 0 = 34:=by have:=getD_drop q (i + (Rp.esc r).length) 0; rw [h2] at this; exact this
 have hl:=a8I h2
 rw [O4 r _ i text hd hok,a5u (by omega) (by rw [h0]; decide) (by rw [h0]; rfl)]
theorem a5v {q:List UInt8} {o ins i:Nat} {r z text:List UInt8} (hd:q.drop i = Rp.esc r ++ (92 :: 40 :: z)) (hok:r.all okB = true) (hi:ins < 3):part q o ins i text = .more (text ++ r) (i + (Rp.esc r).length + 2):=by
 have h2:q.drop (i + (Rp.esc r).length) = 92 :: 40 :: z:=H7 hd rfl
 have h0:q.getD (i + (Rp.esc r).length) 0 = 92:=by have:=getD_drop q (i + (Rp.esc r).length) 0; rw [h2] at this; exact this
 have h1:q.getD (i + (Rp.esc r).length + 1) 0 = 40:=by have:=getD_drop q (i + (Rp.esc r).length) 1; rw [h2] at this; exact this
 have hl:=a8I h2
 rw [O4 r _ i text hd hok,a3W (by omega) (by rw [h0]; decide) (by rw [h0]; rfl) (by rw [h1]; rfl) (by omega)]
theorem run_take (p:UInt8 -> Bool) (s:List UInt8) (i:Nat):(s.take (F8 p s i)).drop i = (s.drop i).takeWhile p:=by
 rw [List.drop_take]
 have h:F8 p s i - i = ((s.drop i).takeWhile p).length:=by unfold F8; omega
 rw [h]
 exact (List.prefix_iff_eq_take.1 (List.takeWhile_prefix p)).symm
theorem a10 {toks:List Tok} {j:Nat} {r:MR} (h:toks.length < 3000):roomy toks j r = r:=a3q (by simp only [leB,decide_eq_false_iff_not]; omega)
theorem a3u {u:List UInt8} {e:Nat} {pre r:List UInt8} {b:UInt8} (hd:u.drop e = pre ++ (b :: r)) (hp:pre = [] ∨ pre = [32]) (hb:a0r b = false) (hc:b.toNat ≠ 47 ∨ (r.headD 0).toNat ≠ 47) :
  G6 u e = e + pre.length /\ e + pre.length < u.length /\ u.drop (e + pre.length) = b :: r /\ u.getD (e + pre.length) 0 = b:=by
 have h2:u.drop (e + pre.length) = b :: r:=H7 hd rfl
 have hl:=a8I h2
 have h0:u.getD (e + pre.length) 0 = b:=by have:=getD_drop u (e + pre.length) 0; rw [h2] at this; exact this
 have h1:u.getD (e + pre.length + 1) 0 = r.headD 0:=by
  have:=getD_drop u (e + pre.length) 1
  rw [h2] at this
  rw [this]; cases r <;> rfl
 have hs:G6 u (e + pre.length) = e + pre.length:=a5G (by omega) (by rw [h0]; exact hb) (by rw [h0,h1]; exact hc)
 refine ⟨?_,by omega,h2,h0⟩
 rcases hp with rfl | rfl
 ·exact hs
 ·have hb0:u.getD e 0 = 32:=by have:=getD_drop u e 0; rw [hd] at this; exact this
  have hle:e < u.length:=by simp only [List.length_cons,List.length_nil] at hl; omega
  rw [a4p hle (by rw [hb0]; decide)]
  exact hs
theorem tw_all {p:UInt8 -> Bool} {tl:List UInt8} (ht:p (tl.headD 0) = false ∨ tl = []):∀ {w:List UInt8},w.all p = true -> (w ++ tl).takeWhile p = w
 | [],_=>by
  cases tl with
  | nil=>rfl
  | cons c tl =>
   rcases ht with h | h
   ·rw [List.nil_append,List.takeWhile_cons]
    have h:p c = false:=h
    rw [h]; rfl
   ·cases h
 | b :: w,h=>by
  rw [List.all_cons,Bool.and_eq_true] at h
  rw [List.cons_append,List.takeWhile_cons,h.1,if_pos rfl,tw_all ht h.2]
theorem run_at {p:UInt8 -> Bool} {u:List UInt8} {i:Nat} {w tl:List UInt8} (hd:u.drop i = w ++ tl) (ht:p (tl.headD 0) = false ∨ tl = []) (hw:w.all p = true):F8 p u i = i + w.length /\ (u.take (F8 p u i)).drop i = w /\ u.getD (F8 p u i) 0 = tl.headD 0:=by
 have h1:=tw_all ht hw
 have h2:F8 p u i = i + w.length:=by unfold F8; rw [hd,h1]
 refine ⟨h2,by rw [run_take,hd,h1],?_⟩
 have:=getD_drop u (i + w.length) 0
 rw [H7 hd rfl,Nat.add_zero] at this
 rw [h2,this]; cases tl <;> rfl
def KT (l:List Tok):List (Int × List UInt8):=l.map fun t=>(t.k,t.t)
theorem a6P (s:List UInt8) (h:s.length <= 8000):Ends s ⟨0,[],[]⟩ (a18 s):=(a5N s).2.2 h
end Go.Proofs.Ytlhgheonlcjpaaa.Sc
namespace Go.Proofs.Ytlhgheonlcjpaaa
open Go Go.Vm
theorem a9j {a:Int} (h1:-9223372036854775808 <= a) (h2:a <= 9223372036854775807):w64 a = a:=by
 unfold w64
 simp only [IntKind.wrap,IntKind.bits,IntKind.signed]
 simp
 omega
theorem a3A {k:Nat} (h:k <= 1000000):w64 ((k:Int) + 1) = ((k + 1:Nat):Int):=by rw [a9j (by omega) (by omega)]; rfl
theorem a6v {a b:Int} (h:a < b):ltB a b = true:=by simp [ltB,h]
theorem a3j {a b:Int} (h:¬ a < b):ltB a b = false:=by simp [ltB,h]
theorem V5 {a b:Int} (h:a = b):eqB a b = true:=by simp [eqB,h]
theorem a2u {a b:Int} (h:¬ a = b):eqB a b = false:=by simp [eqB,h]
theorem a4U (s:Str):eqS s s = true:=by simp [eqS]
theorem a5b {α:Type} {l:List α} {i:Nat} (h:i < l.length):idx' l (i:Int) = some l[i]:=by
 have h1:inR (i:Int) l.length = true:=by simp [inR,h]
 simp [idx',h1,h]
theorem idxS_ok {s:Str} {i:Nat} (h:i < s.length):idxS s (i:Int) = some (((s.getD i 0).toNat:Nat):Int):=by
 have h1:inR (i:Int) s.length = true:=by simp [inR,h]
 simp [idxS,h1]
theorem app_ok {α:Type} {b:Nat} {l m:List α} (h:(l.length + m.length) * (b + 1) <= 70368744177664):app b l m = some (l ++ m):=by
 unfold app leN
 rw [decide_eq_true h]
theorem a7b {a b:Str} (h:a.length + b.length <= 9223372036854775807):cat a b = some (a ++ b):=by
 have:leB ((a.length + b.length:Nat):Int) 9223372036854775807 = true:=by simp only [leB,decide_eq_true_eq]; omega
 simp only [cat,this]
def okB (b:UInt8):Bool:=decide (32 <= b.toNat) || decide (b.toNat = 10) || decide (b.toNat = 9)
theorem bad_a (n:Nat):cond (ltB (n:Int) 32) (cond (!eqB (n:Int) 10) (some (!eqB (n:Int) 9)) (some false)) (some false) = some (!(decide (32 <= n) || decide (n = 10) || decide (n = 9))):=by
 by_cases h:32 <= n
 ·rw [a3j (by omega)]; simp [h]
 ·rw [a6v (by omega)]
  by_cases h1:n = 10
  ·subst h1; rw [V5 (by rfl)]; rfl
  ·rw [a2u (a:=(n:Int)) (b:=10) (by omega)]
   by_cases h2:n = 9
   ·subst h2; rw [V5 (by rfl)]; rfl
   ·rw [a2u (a:=(n:Int)) (b:=9) (by omega)]; simp [h,h1,h2]
def allL (s:Str):Lr Unit (Str × Int):=match s.all okB with
 | true=>.brk ()
 | false=>.out ([],4)
theorem a99 {s:Str} {i:Nat} (h:i < s.length):s.drop i = s.getD i 0 :: s.drop (i + 1):=by
 rw [List.drop_eq_getElem_cons h]; simp [h]
theorem a9R {s:Str} (hs:s.length <= 100000) (n:Nat):∀ (m i:Nat),i <= s.length -> s.length - i < m -> K8 n s m i = some (allL (s.drop i))
 | 0,i,_,h=>absurd h (by omega)
 | m + 1,i,hi,hm=>by
  rw [K8]
  by_cases h:i < s.length
  ·rw [a6v (by omega),cond_true,idxS_ok h]
   simp only [Option.bind_some]
   rw [bad_a,Option.bind_some,a3A (by omega),a9R hs n m (i + 1) (by omega) (by omega),a99 h]
   simp only [allL,List.all_cons]
   generalize he:(decide (32 <= (s.getD i 0).toNat) || decide ((s.getD i 0).toNat = 10) || decide ((s.getD i 0).toNat = 9)) = e
   have:okB (s.getD i 0) = e:=he
   rw [this]
   cases e <;> simp
  ·rw [a3j (by omega),cond_false,List.drop_eq_nil_of_le (by omega)]; rfl
def lit (s:Str):Str:=34 :: (Rp.esc s ++ [34])
theorem a9K (s:Str):(lit s).length = (Rp.esc s).length + 2:=by simp [lit]
theorem a5Z {α ρ:Type} {a:α} {k:α -> Option ρ}:a5Y (some (.brk a)) k = k a:=rfl
theorem a9Y {α ρ:Type} {r:ρ} {k:α -> Option ρ}:a5Y (some (.out r)) k = some r:=rfl
theorem all_t {s:Str} (h:s.all okB = true):allL s = .brk ():=by unfold allL; rw [h]
theorem all_f {s:Str} (h:s.all okB = false):allL s = .out ([],4):=by unfold allL; rw [h]
theorem a9Q {s:Str} (hs:s.length <= 100000) {n:Nat} (hn:s.length < n):K8 n s n 0 = some (allL s):=by
 have e1:=a9R hs n n 0 (Nat.zero_le _) (by omega)
 rw [List.drop_zero] at e1
 exact e1
theorem cat_lit (s:Str):[34] ++ Rp.esc s ++ [34] = lit s:=rfl
theorem quote_t {s:Str} (hs:s.length <= 100000) {n:Nat} (hn:s.length < n) (h:s.all okB = true):Q5 n s = cond (ltB 8000 (((Rp.esc s).length + 2:Nat):Int)) (some ([],2)) (some (lit s,0)):=by
 have hl:=Rp.a1n s
 have e:escG s = some (Rp.esc s):=by simp only [escG,a3R (show s.length <= 1000000 by omega)]
 rw [Q5,a9Q hs hn,all_t h,a5Z,e,Option.bind_some,a7b (by simp only [List.length_cons,List.length_nil]; omega),Option.bind_some,a7b (by simp only [List.length_cons,List.length_nil,List.length_append]; omega),Option.bind_some,cat_lit,a9K]
theorem a2W:P6 = some true:=by
 have h:Sc.a18 [108,101,116,32,120] = .done [⟨9,[108,101,116],0,3⟩,⟨1,[120],4,1⟩]:=by
  have h:=Sc.a6P [108,101,116,32,120] (by decide)
  exact Sc.Ends.det _ h (Sc.a6G _ (f:=5) (by kernel_rfl))
 rw [P6]
 unfold a2m
 rw [h]
 simp only [Option.bind_some,tokL,a4z,tokA,List.map_cons,List.map_nil]
 have e0:∀ a b:Tok,idx' [a,b] 0 = some a:=fun a b=>a5b (l:=[a,b]) (i:=0) (by simp)
 have e1:∀ a b:Tok,idx' [a,b] 1 = some b:=fun a b=>a5b (l:=[a,b]) (i:=1) (by simp)
 rw [e0,e1]
 simp only [Option.bind_some,a7L]
 rw [V5 (a:=0) rfl,show ∀ a b:Tok,(([a,b]:List Tok).length:Int) = 2 from fun _ _=>rfl,V5 (a:=2) rfl,V5 (a:=9) rfl,V5 (a:=((0:Nat):Int)) (b:=0) rfl,V5 (a:=((3:Nat):Int)) (b:=3) rfl,V5 (a:=1) rfl,V5 (a:=((4:Nat):Int)) (b:=4) rfl,V5 (a:=((1:Nat):Int)) (b:=1) rfl,a4U,a4U]
 rfl
theorem eqS_f {a b:Str} (h:¬ a = b):eqS a b = false:=by simp [eqS,h]
theorem subS_ok {s:Str} {i j:Nat} (h:i <= j) (h2:j <= s.length):subS s (i:Int) (j:Int) = some ((s.take j).drop i):=by
 have:inI (i:Int) (j:Int) s.length = true:=by simp [inI,h,h2]
 simp [subS,this]
theorem a6a {α γ ρ:Type} {a:α} {k:α -> Option (Lr γ ρ)}:bindQ (some (.brk a)) k = k a:=rfl
theorem inner_f {s:Str} (hs:s.length <= 200) (h:s.all okB = false):P7 12001 s = some ([],false):=by
 have e:Q5 12001 s = some ([],4):=by
  rw [Q5,a9Q (by omega) (by omega),all_f h,a9Y]
 rw [P7,e]
 simp only [Option.bind_some]
 rw [a2u (a:=4) (b:=0) (by decide)]
 rfl
theorem inner_t {s:Str} (hs:s.length <= 200) (h:s.all okB = true):P7 12001 s = some (Rp.esc s,true):=by
 have hl:=Rp.a1n s
 have h2:=a9K s
 have e:Q5 12001 s = some (lit s,0):=by
  rw [quote_t (by omega) (by omega) h,a3j (by omega),cond_false]
 have e2:subS (lit s) 1 (w64 (((lit s).length:Int) - 1)) = some (Rp.esc s):=by
  rw [a9j (by omega) (by omega),h2]
  have h3:(((Rp.esc s).length + 2:Nat):Int) - 1 = ((Rp.esc s).length + 1:Nat):=by omega
  rw [h3,show (1:Int) = ((1:Nat):Int) from rfl,subS_ok (by omega) (by omega)]
  congr 1
  show ((34 :: (Rp.esc s ++ [34])).take ((Rp.esc s).length + 1)).drop 1 = Rp.esc s
  rw [List.take_succ_cons,List.drop_succ_cons,List.drop_zero,List.take_left]
 rw [P7,e]
 simp only [Option.bind_some]
 rw [V5 (a:=0) rfl,Bool.not_true,cond_false,a3j (by omega)]
 simp only [Option.bind_some,cond_false]
 rw [e2]; rfl
def gS:List Str -> Str
 | []=>[]
 | [p]=>Rp.esc p
 | p :: q :: r=>Rp.esc p ++ ([92,40,120,41] ++ gS (q :: r))
def gW (b:Bool):List Str -> List Tok
 | []=>[]
 | [p]=>[⟨cond b 4 7,p,0,0⟩]
 | p :: q :: r=>⟨cond b 5 6,p,0,0⟩ :: ⟨1,[120],0,0⟩ :: gW false (q :: r)
theorem lit_l {parts:List Str} (hpl:parts.length <= 9223372036854775807):∀ (k:Nat) (rest pre:List Str) (m:Nat) (src:Str) (want:List Tok),parts = pre ++ rest -> pre.length + k = 30 -> k + 1 < m -> src.length <= 1 + 500 * pre.length -> want.length <= 2 * pre.length ->
  A7 12001 parts m src want pre.length = some (.out true) ∨ (A7 12001 parts m src want pre.length = some (.brk (src ++ gS rest,want ++ gW (decide (pre.length = 0)) rest)) /\ parts.length <= 30 /\ ∀ p ∈ rest,p.all okB = true)
 | k,rest,pre,0,src,want,_,_,h,_,_=>absurd h (by omega)
 | k,[],pre,m + 1,src,want,e,hk,hm,h1,h2=>by
  have hln:parts.length = pre.length:=by rw [e]; simp
  right
  refine ⟨?_,by omega,fun p hp=>(by cases hp)⟩
  rw [A7,a3j (by omega),cond_false]
  simp [gS,gW]
 | k,p :: r,pre,m + 1,src,want,e,hk,hm,h1,h2=>by
  have hln:parts.length = pre.length + (r.length + 1):=by rw [e]; simp
  have hi:pre.length < parts.length:=by omega
  have hp:idx' parts (pre.length:Int) = some p:=by rw [a5b hi]; subst e; simp
  rw [A7,a6v (by omega),cond_true,hp]
  simp only [Option.bind_some]
  by_cases c0:pre.length = 30
  ·rw [V5 (by omega)]; exact .inl rfl
  rw [a2u (a:=(pre.length:Int)) (b:=30) (by omega),cond_false]
  by_cases c1:200 < p.length
  ·rw [a6v (by omega)]; exact .inl rfl
  rw [a3j (a:=200) (by omega)]
  simp only [Option.bind_some,cond_false]
  cases hp2:p.all okB with
  | false =>
   rw [inner_f (by omega) hp2]
   simp only [Option.bind_some,Bool.not_false,cond_true]
   rw [a2W]; exact .inl rfl
  | true =>
   have hes:=Rp.a1n p
   rw [inner_t (by omega) hp2]
   simp only [Option.bind_some,Bool.not_true,cond_false]
   have ew:w64 ((parts.length:Int) - 1) = ((parts.length - 1:Nat):Int):=by rw [a9j (by omega) (by omega)]; omega
   rw [ew]
   have a1:∀ (l:List Tok) (x:Tok),l.length <= 1000 -> app 40 l [x] = some (l ++ [x]):=fun l x h=>app_ok (by simp only [List.length_cons,List.length_nil]; omega)
   have cc:∀ a b:Str,a.length <= 300000 -> b.length <= 300000 -> cat a b = some (a ++ b):=fun a b h1 h2=>a7b (by omega)
   have k1:(cond (eqB (pre.length:Int) 0) (some (5:Int)) (some 6)) = some (cond (decide (pre.length = 0)) 5 6):=by
    by_cases c:pre.length = 0
    ·rw [V5 (by omega),decide_eq_true c]; rfl
    ·rw [a2u (by omega),decide_eq_false c]; rfl
   rw [k1,Option.bind_some]
   cases r with
   | nil =>
    simp only [List.length_nil] at hln
    have k2:(cond (eqB (pre.length:Int) 0) (some (4:Int)) (some 7)) = some (cond (decide (pre.length = 0)) 4 7):=by
     by_cases c:pre.length = 0
     ·rw [V5 (by omega),decide_eq_true c]; rfl
     ·rw [a2u (by omega),decide_eq_false c]; rfl
    rw [V5 (a:=(pre.length:Int)) (b:=((parts.length - 1:Nat):Int)) (by omega),cond_true,k2,Option.bind_some,a1 _ _ (by omega),Option.bind_some,cc _ _ (by omega) (by omega),Option.bind_some,a3j (a:=(pre.length:Int)) (b:=((parts.length - 1:Nat):Int)) (by omega),cond_false,a6a]
    simp only
    rw [a3A (by omega)]
    have hd:parts = (pre ++ [p]) ++ []:=by rw [e]; simp
    have el:((pre.length + 1:Nat):Int) = ((pre ++ [p]).length:Int):=by simp
    rw [el]
    match k,hk with
    | 0,hk=>exact absurd hk (by omega)
    | k + 1,hk =>
     rcases lit_l hpl k [] (pre ++ [p]) m (src ++ Rp.esc p) (want ++ [⟨cond (decide (pre.length = 0)) 4 7,p,0,0⟩]) hd (by simp; omega) (by omega) (by simp only [List.length_append,List.length_cons,List.length_nil]; omega) (by simp only [List.length_append,List.length_cons,List.length_nil]; omega) with h | ⟨h,g1,g2⟩
     ·exact .inl h
     ·right
      refine ⟨?_,g1,fun q hq=>?_⟩
      ·rw [h]; simp [gS,gW]
      ·simp only [List.mem_singleton] at hq; subst hq; exact hp2
   | cons q r =>
    simp only [List.length_cons] at hln
    rw [a2u (a:=(pre.length:Int)) (b:=((parts.length - 1:Nat):Int)) (by omega),cond_false,Option.bind_some,a1 _ _ (by omega),Option.bind_some,cc _ _ (by omega) (by omega),Option.bind_some,a6v (a:=(pre.length:Int)) (b:=((parts.length - 1:Nat):Int)) (by omega),cond_true,a1 _ _ (by simp only [List.length_append,List.length_cons,List.length_nil]; omega),Option.bind_some,cc _ _ (by simp only [List.length_append]; omega) (by decide),Option.bind_some,a6a]
    simp only
    rw [a3A (by omega)]
    have hd:parts = (pre ++ [p]) ++ (q :: r):=by rw [e]; simp
    have el:((pre.length + 1:Nat):Int) = ((pre ++ [p]).length:Int):=by simp
    rw [el]
    match k,hk with
    | 0,hk=>exact absurd hk (by omega)
    | k + 1,hk =>
     rcases lit_l hpl k (q :: r) (pre ++ [p]) m (src ++ Rp.esc p ++ [92,40,120,41]) (want ++ [⟨cond (decide (pre.length = 0)) 5 6,p,0,0⟩] ++ [⟨1,[120],0,0⟩]) hd (by simp; omega) (by omega) (by simp only [List.length_append,List.length_cons,List.length_nil]; omega) (by simp only [List.length_append,List.length_cons,List.length_nil]; omega) with h | ⟨h,g1,g2⟩
     ·exact .inl h
     ·right
      refine ⟨?_,g1,fun x hx=>?_⟩
      ·have:decide ((pre ++ [p]).length = 0) = false:=by simp
       rw [h,this]; simp [gS,gW]
      ·simp only [List.mem_cons] at hx
       rcases hx with rfl | hx
       ·exact hp2
       ·exact g2 x (by simpa using hx)
def kt (l:List Tok):List (Int × Str):=l.map fun t=>(t.kind,t.text)
theorem a9H {l:List Tok} {i:Nat} (h:i < l.length):kt (l.drop i) = (l[i].kind,l[i].text) :: kt (l.drop (i + 1)):=by
 rw [List.drop_eq_getElem_cons h]; rfl
theorem cmp_r {l b:List Tok} (hlb:b.length = l.length) (hb:b.length <= 3100) (n:Nat):∀ (k i m:Nat),i + k = l.length -> k < m ->
  F3 n l b false m i = some (match decide (kt (l.drop i) = kt (b.drop i)) with | true=>.brk () | false=>.out false)
 | k,i,0,_,h=>absurd h (by omega)
 | 0,i,m + 1,hi,_=>by
  rw [F3,a3j (by omega),cond_false,List.drop_eq_nil_of_le (by omega),List.drop_eq_nil_of_le (by omega)]; rfl
 | k + 1,i,m + 1,hi,hm=>by
  have h1:i < b.length:=by omega
  have h2:i < l.length:=by omega
  rw [F3,a6v (by omega),cond_true,a5b h1,a5b h2]
  simp only [Option.bind_some]
  rw [a9H h1,a9H h2]
  by_cases h3:l[i].kind = b[i].kind
  ·rw [V5 h3,Bool.not_true,cond_false]
   by_cases h4:l[i].text = b[i].text
   ·rw [h4,a4U,Bool.not_true,cond_false,cond_false,Option.bind_some,cond_false,a3A (by omega),cmp_r hlb hb n k (i + 1) m (by omega) (by omega),h3]
    simp
   ·rw [eqS_f h4,Bool.not_false,cond_true,Option.bind_some,cond_true,decide_eq_false (by simp [h4])]
  ·rw [a2u h3,Bool.not_false,cond_true,Option.bind_some,cond_true,decide_eq_false (by simp [h3])]
theorem eqTokens {l b:List Tok} (hb:b.length <= 3100):Q0 12001 l b false = some (decide (kt l = kt b)):=by
 rw [Q0]
 by_cases h:l.length = b.length
 ·rw [V5 (by omega),Bool.not_true,cond_false]
  have e:=cmp_r (l:=l) (b:=b) h.symm hb 12001 l.length 0 12001 (by omega) (by omega)
  rw [List.drop_zero,List.drop_zero] at e
  have e:F3 12001 l b false 12001 0 = _:=e
  rw [e]
  cases decide (kt l = kt b) <;> rfl
 ·rw [a2u (by omega),Bool.not_false,cond_true,decide_eq_false]
  intro e
  have:=congrArg List.length e
  simp only [kt,List.length_map] at this
  exact h this
theorem kt_cv (l:List Sc.Tok):kt (l.map a7L) = Sc.KT l:=by simp [kt,Sc.KT,a7L,List.map_map,Function.comp_def]
open Sc in
theorem x_step {u:Str} {e:Nat} {z:Str} {toks:List Sc.Tok} {st:List (Nat × Int)} (hd:u.drop e = 120 :: 41 :: z) (hr:toks.length < 3000) :
  ∃ y,stepM u ⟨e,toks,st⟩ = .go y /\ (∃ a l,y.toks = toks ++ [⟨1,[120],a,l⟩]) /\ y.i = e + 1 /\ y.st = st:=by
 obtain ⟨h0,hi,h3,h4⟩:=a3u (pre:=[]) (b:=120) (r:=41 :: z) hd (.inl rfl) (by decide) (.inl (by decide))
 simp only [List.length_nil,Nat.add_zero] at h0 hi h3 h4
 obtain ⟨r1,r2,r3⟩:=run_at (p:=L6) (w:=[120]) (tl:=41 :: z) h3 (.inl (show L6 41 = false by decide)) (by decide)
 have hb:ltB 24 (([120]:List UInt8).length:Nat) = false:=a3j (by decide)
 have hk:a0P [120] = 1:=by simp [a0P,hasL,O3,leB]
 rw [R4 h0 hi (by rw [h4]; exact a3J (by decide)) (by rw [h4]; decide) (by rw [h4]; decide) (by rw [h4]; decide),a10 hr,r2,hb,r1,hk]
 exact ⟨_,rfl,⟨_,_,rfl⟩,rfl,rfl⟩
theorem a9B (p q:Str) (r:List Str):gS (p :: q :: r) ++ [34] = Rp.esc p ++ (92 :: 40 :: (120 :: 41 :: (gS (q :: r) ++ [34]))):=by simp [gS]
open Sc in
theorem a5K {u:Str} {q:Nat}:∀ (r:List Str) (p:Str) (e:Nat) (toks:List Sc.Tok),u.drop e = 41 :: (gS (p :: r) ++ [34]) -> (∀ x ∈ p :: r,x.all okB = true) -> toks.length + 2 * (r.length + 1) < 3000 ->
  ∃ toks',Sc.Reach u ⟨e,toks,[(q,0)]⟩ ⟨u.length,toks',[]⟩ /\ KT toks' = KT toks ++ kt (gW false (p :: r))
 | [],p,e,toks,hd,ha,ht=>by
  have hp:p.all Sc.okB = true:=ha p (by simp)
  obtain ⟨h0,hi,h2,h3⟩:=a3u (pre:=[]) hd (.inl rfl) (by decide) (.inl (by decide))
  simp only [List.length_nil,Nat.add_zero] at h0 hi h2 h3
  obtain ⟨-,e1⟩:=V9 (toks:=toks) (st:=[]) (q:=q) (p:=0) h0 hi (by rw [h3]; rfl)
  have hd2:u.drop (e + 1) = Rp.esc p ++ (34 :: []):=H7 (a:=[41]) h2 rfl
  rw [a10 (by omega),a6E hd2 hp] at e1
  have hl:e + 1 + (Rp.esc p).length + 1 = u.length:=by
   have:=congrArg List.length hd2
   simp only [List.length_drop,List.length_append,List.length_cons,List.length_nil] at this; omega
  simp only [K4,hl] at e1
  exact ⟨_,Sc.Reach.one _ e1,by simp [KT,kt,gW]⟩
 | x :: r,p,e,toks,hd,ha,ht=>by
  have hp:p.all Sc.okB = true:=ha p (by simp)
  obtain ⟨h0,hi,h2,h3⟩:=a3u (pre:=[]) hd (.inl rfl) (by decide) (.inl (by decide))
  simp only [List.length_nil,Nat.add_zero] at h0 hi h2 h3
  obtain ⟨-,e1⟩:=V9 (toks:=toks) (st:=[]) (q:=q) (p:=0) h0 hi (by rw [h3]; rfl)
  have hd2:u.drop (e + 1) = Rp.esc p ++ (92 :: 40 :: (120 :: 41 :: (gS (x :: r) ++ [34]))):=by rw [<- a9B]; exact H7 (a:=[41]) h2 rfl
  rw [a10 (by omega),a5v hd2 hp (by decide)] at e1
  simp only [K4] at e1
  have hd3:u.drop (e + 1 + (Rp.esc p).length + 2) = 120 :: 41 :: (gS (x :: r) ++ [34]):=by
   have:=H7 hd2 rfl
   exact H7 (a:=[92,40]) this rfl
  simp only [List.length_cons] at ht
  obtain ⟨y,g1,⟨a,l,g2⟩,g3,g4⟩:=x_step (st:=[(q,0)]) (toks:=toks ++ [⟨6,[] ++ p,e,e + 1 + (Rp.esc p).length + 2 - e⟩]) hd3 (by simp; omega)
  obtain ⟨yi,yt,ys⟩:=y
  simp only at g2 g3 g4
  subst g2 g3 g4
  obtain ⟨toks',k1,k2⟩:=a5K (q:=q) r x (e + 1 + (Rp.esc p).length + 2 + 1) (toks ++ [⟨6,[] ++ p,e,e + 1 + (Rp.esc p).length + 2 - e⟩] ++ [⟨1,[120],a,l⟩]) (H7 (a:=[120]) hd3 rfl) (fun z hz=>ha z (by simp only [List.mem_cons] at hz ⊢; exact .inr hz)) (by simp only [List.length_append,List.length_cons,List.length_nil]; omega)
  refine ⟨toks',.step _ _ _ e1 (.step _ _ _ g1 k1),?_⟩
  rw [k2]
  simp [KT,kt,gW]
open Sc in
theorem b0h (p:Str) (r:List Str) (ha:∀ x ∈ p :: r,x.all okB = true) (ht:r.length <= 1000):∃ toks',Sc.Reach (34 :: (gS (p :: r) ++ [34])) ⟨0,[],[]⟩ ⟨(34 :: (gS (p :: r) ++ [34])).length,toks',[]⟩ /\ KT toks' = kt (gW true (p :: r)):=by
 have hp:p.all Sc.okB = true:=ha p (by simp)
 generalize hu:34 :: (gS (p :: r) ++ [34]) = u
 have hd:u.drop 0 = 34 :: (gS (p :: r) ++ [34]):=by rw [hu]; rfl
 obtain ⟨h0,hi,h2,h3⟩:=a3u (pre:=[]) hd (.inl rfl) (by decide) (.inl (by decide))
 simp only [List.length_nil,Nat.add_zero] at h0 hi h2 h3
 have e1:=a1h (toks:=[]) (st:=[]) h0 hi (by rw [h3]; rfl) (by rw [h3]; rfl)
 cases r with
 | nil =>
  have hd2:u.drop (0 + 1) = Rp.esc p ++ (34 :: []):=H7 (a:=[34]) h2 rfl
  rw [a10 (by decide),a6E hd2 hp] at e1
  have hl:0 + 1 + (Rp.esc p).length + 1 = u.length:=by
   have:=congrArg List.length hd2
   simp only [List.length_drop,List.length_append,List.length_cons,List.length_nil] at this; omega
  simp only [K4,hl] at e1
  exact ⟨_,Sc.Reach.one _ e1,by simp [KT,kt,gW]⟩
 | cons x r =>
  have hd2:u.drop (0 + 1) = Rp.esc p ++ (92 :: 40 :: (120 :: 41 :: (gS (x :: r) ++ [34]))):=by rw [<- a9B]; exact H7 (a:=[34]) h2 rfl
  rw [a10 (by decide),a5v hd2 hp (by decide)] at e1
  simp only [K4] at e1
  have hd3:u.drop (0 + 1 + (Rp.esc p).length + 2) = 120 :: 41 :: (gS (x :: r) ++ [34]):=by
   have:=H7 hd2 rfl
   exact H7 (a:=[92,40]) this rfl
  simp only [List.length_cons] at ht
  obtain ⟨y,g1,⟨a,l,g2⟩,g3,g4⟩:=x_step (st:=[(0,0)]) (toks:=[] ++ [⟨5,[] ++ p,0,0 + 1 + (Rp.esc p).length + 2 - 0⟩]) hd3 (by simp)
  obtain ⟨yi,yt,ys⟩:=y
  simp only at g2 g3 g4
  subst g2 g3 g4
  obtain ⟨toks',k1,k2⟩:=a5K (q:=0) r x (0 + 1 + (Rp.esc p).length + 2 + 1) ([] ++ [⟨5,[] ++ p,0,0 + 1 + (Rp.esc p).length + 2 - 0⟩] ++ [⟨1,[120],a,l⟩]) (H7 (a:=[120]) hd3 rfl) (fun z hz=>ha z (by simp only [List.mem_cons] at hz ⊢; exact .inr hz)) (by simp only [List.length_append,List.length_cons,List.length_nil]; omega)
  refine ⟨toks',.step _ _ _ e1 (.step _ _ _ g1 k1),?_⟩
  rw [k2]
  simp [KT,kt,gW]
theorem gW_len (b:Bool):∀ l:List Str,(gW b l).length <= 2 * l.length
 | []=>by simp [gW]
 | [p]=>by simp [gW]
 | p :: q :: r=>by have:=gW_len false (q :: r); simp only [gW,List.length_cons] at this ⊢; omega
theorem a5T (parts:List Str) (hpl:parts.length <= 9223372036854775807):N8 12001 parts = some true:=by
 rw [N8]
 have h:=lit_l hpl 30 parts [] 12001 [34] [] rfl rfl (by omega) (by simp) (by simp)
 have e0:(([]:List Str).length:Int) = 0:=rfl
 rw [e0] at h
 rcases h with h | ⟨h,h1,h2⟩
 ·rw [h]; rfl
 ·rw [h,a5Z]
  simp only [List.nil_append,List.length_nil,decide_true]
  cases parts with
  | nil=>rw [V5 (by rfl),cond_true,Option.bind_some,cond_true,a2W]; rfl
  | cons p r =>
   rw [a2u (by simp only [List.length_cons]; omega),cond_false,Option.bind_some]
   cases hl:leB 8000 (([34] ++ gS (p :: r)).length:Int) with
   | true=>rw [cond_true,a2W]; rfl
   | false =>
    simp only [leB,decide_eq_false_iff_not] at hl
    have hlen:([34] ++ gS (p :: r)).length < 8000:=by omega
    rw [cond_false,a7b (by simp only [List.length_cons,List.length_nil]; omega),Option.bind_some]
    have eu:[34] ++ gS (p :: r) ++ [34] = 34 :: (gS (p :: r) ++ [34]):=rfl
    rw [eu]
    simp only [List.length_cons] at h1
    obtain ⟨toks',k1,k2⟩:=b0h p r h2 (by omega)
    have ht:Sc.a18 (34 :: (gS (p :: r) ++ [34])) = .done toks':=by
     refine Sc.Ends.det _ (Sc.a6P _ ?_) ⟨_,k1,?_,fun z hz=>(by cases hz)⟩
     ·simp only [List.length_cons,List.length_append,List.length_nil] at hlen ⊢; omega
     ·exact Sc.a0G (Sc.a6K (Nat.le_refl _)) (Nat.le_refl _)
    unfold a2m
    rw [ht]
    simp only [Option.bind_some,tokL,a4z]
    have hg:=gW_len true (p :: r)
    simp only [List.length_cons] at hg
    rw [V5 (a:=0) rfl,cond_true,eqTokens (by omega),kt_cv,k2,decide_eq_true rfl]
    simp only [Option.bind_some,cond_true]
    rw [a2W]; rfl
end Go.Proofs.Ytlhgheonlcjpaaa
namespace Go.Proofs.Ytlhgheonlcjpaaa
open Go Go.Vm
def T:List (Nat × Ty):=[
 (3,⟨.int .i64,1,8,[.i 0]⟩),
 (4,⟨.bool,1,1,[.bool false]⟩),
 (5,⟨.int .u8,1,1,[.int .u8 0]⟩),
 (9,⟨.string,1,16,[.str []]⟩),
 (22,⟨.slice 9,1,24,[.slice .nil 0 []]⟩),
 (23,⟨.slice 28,1,24,[.slice .nil 0 []]⟩),
 (28,⟨.struct [(3,0),(9,1),(3,2),(3,3)],4,40,[.i 0,.str [],.i 0,.i 0]⟩),
 (29,⟨.int .i64,1,8,[.i 0]⟩),
 (31,⟨.struct [(29,0),(3,1)],2,16,[.i 0,.i 0]⟩)]
def keep:Nat -> Nat -> List Nat
 | 3,4=>[0,3,4,5]
 | 3,100006=>[0,3,4,5]
 | 3,100015=>[0,3,4,5,6,8]
 | 3,100019=>[0,3,4,5,6,8]
 | 3,100024=>[0,3,4]
 | 3,130008=>[0,3,4,5,26]
 | 3,130025=>[3,4,77]
 | 4,130004=>[4,17]
 | 7,4=>[0,1,2,7]
 | 7,100009=>[]
 | 7,130008=>[0,1,2,7,71]
 | 8,2=>[0,7,8]
 | 8,100008=>[0]
 | 8,130006=>[0,7,8,26]
 | _,_=>[]
def cut:Nat -> Nat -> Bool
 | 3,6=>true
 | 3,15=>true
 | 3,19=>true
 | 3,24=>true
 | 3,30008=>true
 | 3,30025=>true
 | 4,30004=>true
 | 7,9=>true
 | 7,30008=>true
 | 8,8=>true
 | 8,30006=>true
 | _,_=>false
def moreL:List Nat:=[]
def tagc:Nat -> Nat -> Bool
 | f,_=>has f moreL
def a1E:Nat -> Nat -> Bool
 | f,_=>has f moreL
def slk:Nat -> Nat -> List (Nat × Nat)
 | _,_=>[]
def sep:Nat -> Nat -> Option (List Nat × List Nat)
 | _,_=>none
def mask:Nat -> Nat -> List Nat
 | _,_=>[]
def okL:List Nat:=[3,4,5,7,8]
def lookL:List Nat:=[]
def a5x:List Nat:=[3,4,5,6,7,8,10]
def frzL:List Nat:=[]
def tagL:List Nat:=[] ++ moreL
def argL:List Nat:=[] ++ moreL
theorem tys:tysB Try.prog T = true:=by kernel_rfl
theorem mixed:Try.prog.follows .mixedOrders = true:=by kernel_rfl
end Go.Proofs.Ytlhgheonlcjpaaa
namespace Go.Proofs.Ytlhgheonlcjpaaa
open Go Go.Vm
noncomputable def a5c:Nat -> Option Hand
 | 6=>some (.plain (valI Sc.tokF))
 | 10=>some (.plain (valI Rp.escF))
 | _=>none
noncomputable def env:Env:={ P:=Try.prog,T:=T,keep:=keep,byref:=fun _ _=>none,meth:=fun _ _=>none,tags:=fun g=>has g tagL,argTags:=fun g=>has g argL,quiet:=fun g=>has g a5x,loose:=fun _=>false,ok:=fun g=>has g okL,cut:=cut,tagc:=tagc,a1E:=a1E,sep:=sep,mask:=mask,look:=fun g=>has g lookL,frz:=fun g=>has g frzL,slk:=slk,full:=true,intr:=a5c }
theorem codes:a4S env okL = true:=by kernel_rfl
theorem a8N:a1J env:=by
 intro _ _ _ h
 cases h
theorem a7M:a1I env:=⟨a8N,a3z tys,mixed,a3K (fun _ h=>h) codes,(fun g h hg=>by simp only [env,a5c] at hg; first | (cases hg; done) | (split at hg <;> first | (cases hg; done) | (cases hg; exact Sc.tok_intr) | (cases hg; exact Rp.esc_intr))),(fun g pre post hg=>by simp only [env,a5c] at hg; first | (cases hg; done) | (split at hg <;> first | (cases hg; done)))⟩
end Go.Proofs.Ytlhgheonlcjpaaa
namespace Go.Proofs.Ytlhgheonlcjpaaa
open Go Go.Vm
theorem a5B {src1:Str} {l2:List Tok} {c3:Int} {a4:Int} (h:a2m src1 = some (l2,c3,a4)):E env (.call 6 [.str src1]) [] = some (.ret (.tuple [.sl U9 l2,.agg [.i c3,.i a4]]) []):=by
 unfold a2m at h
 cases h
 exact tok_call rfl (Sc.a7y _).1
theorem escG_ok {s1:Str} {rr:Str} (h:escG s1 = some rr):E env (.call 10 [.str s1]) [] = some (.ret (.str rr) []):=by
 unfold escG at h
 split at h
 ·rename_i hs
  cases h
  exact a6V rfl (by simp only [valI,Rp.escF,hs])
 ·cases h
end Go.Proofs.Ytlhgheonlcjpaaa
namespace Go.Proofs.Ytlhgheonlcjpaaa
open Go Go.Vm
theorem a5X {n:Nat} {s1:Str} {r:Str × Int} (h:Q5 n s1 = some r) :
  E env (.call 8 [.str s1]) [] = some (a13 s1 r):=by
 unfold Q5 at h
 refine a1M rfl Try.func8 rfl rfl ?_
 refine eSG (oB 2 rfl ?_)
 obtain ⟨y1,g2,h⟩:=a3G h
 refine a4D (KR:=fun r=>OutK env 8 0 Try.f8.results.toList (a13 s1 r)) y1 (fun z16=>[(0,.str s1)]) (fun z16=>[]) rfl ?_ (fun z16 hx=>?_) (fun r res hz hr hn=>?_)
 ·replace h:=g2
  clear g2
  refine eSG (oB 3 rfl ?_)
  refine q8 ?_
  refine O7 rfl ?_
  revert y1
  refine a4H (fun m (x:Int)=>K8 n s1 m x) (fun x=>[(0,.str s1),(7,.i (List.length s1:Int)),(8,.i x)]) (fun x=>[]) _ (fun _=>rfl) (fun m2 x y ih h=>?_) n 0
  obtain ⟨x502,rfl⟩:∃ q,q = x:=⟨_,rfl⟩
  rw [K8] at h
  refine eSG (oB 1 rfl (j5 ?_))
  refine eI rfl h (fun h=>?_) fun h=>?_
  ·refine l7 (j5 ?_)
   refine q8 ?_
   refine eSG (oB 2 rfl ?_)
   obtain ⟨y4,g5,h⟩:=w9 h
   refine a2G [(0,.str s1),(7,.i (List.length s1:Int)),(8,.i x502),(26,.bool y4)] [] rfl ?_ ?_
   ·replace h:=g5
    clear g5
    refine j3 (oA 2 rfl ?_)
    obtain ⟨b2,g6,h⟩:=w9 h
    refine a7p g6 rfl rfl rfl rfl rfl rfl ?_
    refine oA 2 rfl ?_
    refine p8 rfl rfl rfl (fun g7=>?_) (fun g7=>?_)
    ·replace h:=V4 h g7
     refine oA 2 rfl ?_
     obtain ⟨b3,g8,h⟩:=w9 h
     refine a7p g8 rfl rfl rfl rfl rfl rfl ?_
     refine oA 3 rfl ?_
     refine p8 rfl rfl rfl (fun g9=>?_) (fun g9=>?_)
     ·replace h:=V4 h g9
      refine oA 2 rfl ?_
      obtain ⟨b4,g10,h⟩:=w9 h
      refine a7p g10 rfl rfl rfl rfl rfl rfl ?_
      refine oB 2 rfl ?_
      cases h
      exact rfl
     ·replace h:=V3 h g9
      refine oB 5 rfl ?_
      cases h
      exact rfl
    ·replace h:=V3 h g7
     refine oB 11 rfl ?_
     cases h
     exact rfl
   ·obtain ⟨x506,rfl⟩:∃ q,q = y4:=⟨_,rfl⟩
    refine eI rfl h (fun h=>?_) fun h=>?_
    ·refine eSG (oB 2 rfl ?_)
     cases h
     exact l6 ⟨_,rfl,_,_,_,rfl,rfl,rfl⟩
    ·refine l7 (j3 (oB 2 rfl ?_))
     exact ⟨_,_,rfl,ih _ _ h⟩
  ·refine L9 ?_
   cases h
   exact ⟨_,rfl,rfl⟩
 ·subst hx
  refine eSG (oA 1 rfl ?_)
  obtain ⟨rr5,g12,h⟩:=w9 h
  refine D7 rfl rfl rfl rfl rfl (escG_ok g12) rfl ?_
  obtain ⟨s6,g13,h⟩:=w9 h
  refine a5t g13 rfl rfl rfl rfl ?_
  obtain ⟨s7,g14,h⟩:=w9 h
  refine a5t g14 rfl rfl rfl rfl ?_
  refine oB 1 rfl (j5 (eSG (oB 3 rfl ?_)))
  refine eI rfl h (fun h=>?_) fun h=>?_
  ·refine eSG (oB 2 rfl ?_)
   cases h
   exact l6 ⟨_,_,_,rfl,rfl,rfl⟩
  ·refine l7 (eSG (oB 3 rfl ?_))
   cases h
   exact l6 ⟨_,_,_,rfl,rfl,rfl⟩
 ·subst hz
  rcases res with ⟨_ | _ | _ | _,_,_⟩ <;> first | exact absurd rfl hn | exact hr.elim | (cases h; exact hr)
theorem a5f {n:Nat} {s1:Str} {r:Str × Bool} (h:P7 n s1 = some r) :
  E env (.call 4 [.str s1]) [] = some (a4w s1 r):=by
 unfold P7 at h
 refine a1M rfl Try.func4 rfl rfl ?_
 refine eSG (oB 2 rfl (eSG (oA 1 rfl ?_)))
 obtain ⟨⟨r2,r3⟩,g1,h⟩:=w9 h
 refine D7 rfl rfl rfl rfl rfl (a5X g1) rfl ?_
 refine oB 5 rfl (j5 ?_)
 obtain ⟨y2,g3,h⟩:=w9 h
 refine a2G [(4,.str r2),(17,.bool y2)] [] rfl ?_ ?_
 ·replace h:=g3
  clear g3
  refine j3 (oA 3 rfl ?_)
  refine p8 rfl rfl rfl (fun g4=>?_) (fun g4=>?_)
  ·replace h:=V4 h g4
   refine oB 4 rfl ?_
   cases h
   exact rfl
  ·replace h:=V3 h g4
   refine oB 4 rfl ?_
   cases h
   exact rfl
 ·obtain ⟨x501,rfl⟩:∃ q,q = y2:=⟨_,rfl⟩
  refine eI rfl h (fun h=>?_) fun h=>?_
  ·refine eSG (oB 2 rfl ?_)
   cases h
   exact l6 ⟨_,_,_,rfl,rfl,rfl⟩
  ·refine l7 (eSG (oA 4 rfl ?_))
   obtain ⟨s4,g6,h⟩:=w9 h
   refine os_subS g6 rfl rfl rfl rfl rfl rfl rfl rfl rfl ?_
   refine oB 2 rfl ?_
   cases h
   exact l6 ⟨_,_,_,rfl,rfl,rfl⟩
theorem a0y {r:Bool} (h:P6 = some r) :
  E env (.call 5 []) [] = some (a4v r):=by
 unfold P6 at h
 refine a1M rfl Try.func5 rfl rfl ?_
 refine eSG (oB 1 rfl (eSG ?_))
 obtain ⟨⟨l1,c2,a3⟩,g1,h⟩:=w9 h
 refine D7 rfl rfl rfl rfl rfl (a5B g1) rfl ?_
 refine oB 6 rfl (eSG (oA 1 rfl ?_))
 refine oD ?_
 refine oA 2 rfl ?_
 refine p8 rfl rfl rfl (fun g2=>?_) (fun g2=>?_)
 ·replace h:=V4 h g2
  refine oA 5 rfl ?_
  refine p8 rfl rfl rfl (fun g3=>?_) (fun g3=>?_)
  ·replace h:=V4 h g3
   refine oA 1 rfl ?_
   obtain ⟨x4,g4,h⟩:=w9 h
   refine Y2 Y1 g4 rfl rfl rfl rfl rfl rfl rfl rfl ?_
   refine a8c (c:=[.i x4.kind,.str x4.text,.i x4.at_,.i x4.len]) rfl rfl rfl rfl rfl rfl rfl ?_
   refine oD ?_
   refine oA 3 rfl ?_
   refine p8 rfl rfl rfl (fun g5=>?_) (fun g5=>?_)
   ·replace h:=V4 h g5
    refine oA 1 rfl ?_
    obtain ⟨x5,g6,h⟩:=w9 h
    refine Y2 Y1 g6 rfl rfl rfl rfl rfl rfl rfl rfl ?_
    refine a8c (c:=[.i x5.kind,.str x5.text,.i x5.at_,.i x5.len]) rfl rfl rfl rfl rfl rfl rfl ?_
    refine oD ?_
    refine oB 3 rfl ?_
    cases h
    exact l6 ⟨_,_,_,rfl,rfl,rfl⟩
   ·replace h:=V3 h g5
    refine oB 7 rfl ?_
    cases h
    exact l6 ⟨_,_,_,rfl,rfl,rfl⟩
  ·replace h:=V3 h g3
   refine oB 14 rfl ?_
   cases h
   exact l6 ⟨_,_,_,rfl,rfl,rfl⟩
 ·replace h:=V3 h g2
  refine oB 19 rfl ?_
  cases h
  exact l6 ⟨_,_,_,rfl,rfl,rfl⟩
theorem a3o {n:Nat} {a1:List Tok} {b2:List Tok} {places3:Bool} {r:Bool} (h:Q0 n a1 b2 places3 = some r) :
  E env (.call 7 [.sl U9 a1,.sl U9 b2,.bool places3]) [] = some (a0D a1 b2 places3 r):=by
 unfold Q0 at h
 refine a1M rfl Try.func7 rfl rfl ?_
 refine eSG (oB 1 rfl (j5 (eSG (oB 5 rfl ?_))))
 refine eI rfl h (fun h=>?_) fun h=>?_
 ·refine eSG (oB 1 rfl ?_)
  cases h
  exact l6 ⟨_,_,_,rfl,rfl,rfl⟩
 ·refine l7 ?_
  obtain ⟨y2,g3,h⟩:=a3G h
  refine a4D (KR:=fun r=>OutK env 7 0 Try.f7.results.toList (a0D a1 b2 places3 r)) y2 (fun z20=>[]) (fun z20=>[]) rfl ?_ (fun z20 hx=>?_) (fun r res hz hr hn=>?_)
  ·replace h:=g3
   clear g3
   refine eSG (oB 1 rfl ?_)
   refine q8 ?_
   refine O7 rfl ?_
   revert y2
   refine a4H (fun m (x:Int)=>F3 n a1 b2 places3 m x) (fun x=>[(0,.sl U9 a1),(1,.sl U9 b2),(2,.bool places3),(7,.i x)]) (fun x=>[]) _ (fun _=>rfl) (fun m4 x y ih h=>?_) n 0
   obtain ⟨a4u,rfl⟩:∃ q,q = x:=⟨_,rfl⟩
   rw [F3] at h
   refine j5 (eSG (oB 4 rfl ?_))
   refine eI rfl h (fun h=>?_) fun h=>?_
   ·refine l7 (j5 ?_)
    refine q8 ?_
    obtain ⟨y5,g6,h⟩:=w9 h
    refine a2G [(0,.sl U9 a1),(1,.sl U9 b2),(2,.bool places3),(7,.i a4u),(71,.bool y5)] [] rfl ?_ ?_
    ·replace h:=g6
     clear g6
     refine j3 (oA 2 rfl ?_)
     obtain ⟨x4,g7,h⟩:=w9 h
     refine Y2 Y1 g7 rfl rfl rfl rfl rfl rfl rfl rfl ?_
     refine oA 4 rfl ?_
     obtain ⟨x5,g8,h⟩:=w9 h
     refine Y2 Y1 g8 rfl rfl rfl rfl rfl rfl rfl rfl ?_
     refine oA 4 rfl ?_
     refine p8 rfl rfl rfl (fun g9=>?_) (fun g9=>?_)
     ·replace h:=V4 h g9
      refine oB 41 rfl ?_
      cases h
      exact rfl
     ·replace h:=V3 h g9
      refine oA 2 rfl ?_
      obtain ⟨x6,g10,h⟩:=w9 h
      refine Y2 Y1 g10 rfl rfl rfl rfl rfl rfl rfl rfl ?_
      refine oA 4 rfl ?_
      obtain ⟨x7,g11,h⟩:=w9 h
      refine Y2 Y1 g11 rfl rfl rfl rfl rfl rfl rfl rfl ?_
      refine oA 5 rfl ?_
      refine p8 rfl rfl rfl (fun g12=>?_) (fun g12=>?_)
      ·replace h:=V4 h g12
       refine oB 28 rfl ?_
       cases h
       exact rfl
      ·replace h:=V3 h g12
       refine oA 2 rfl ?_
       refine p8 rfl rfl rfl (fun g13=>?_) (fun g13=>?_)
       ·replace h:=V4 h g13
        refine oA 2 rfl ?_
        obtain ⟨x8,g14,h⟩:=w9 h
        refine Y2 Y1 g14 rfl rfl rfl rfl rfl rfl rfl rfl ?_
        refine oA 4 rfl ?_
        obtain ⟨x9,g15,h⟩:=w9 h
        refine Y2 Y1 g15 rfl rfl rfl rfl rfl rfl rfl rfl ?_
        refine oA 4 rfl ?_
        refine p8 rfl rfl rfl (fun g16=>?_) (fun g16=>?_)
        ·replace h:=V4 h g16
         refine oB 14 rfl ?_
         cases h
         exact rfl
        ·replace h:=V3 h g16
         refine oA 2 rfl ?_
         obtain ⟨x10,g17,h⟩:=w9 h
         refine Y2 Y1 g17 rfl rfl rfl rfl rfl rfl rfl rfl ?_
         refine oA 4 rfl ?_
         obtain ⟨x11,g18,h⟩:=w9 h
         refine Y2 Y1 g18 rfl rfl rfl rfl rfl rfl rfl rfl ?_
         refine oB 6 rfl ?_
         cases h
         exact rfl
       ·replace h:=V3 h g13
        refine oB 26 rfl ?_
        cases h
        exact rfl
    ·obtain ⟨x505,rfl⟩:∃ q,q = y5:=⟨_,rfl⟩
     refine eI rfl h (fun h=>?_) fun h=>?_
     ·refine eSG (oB 1 rfl ?_)
      cases h
      exact l6 ⟨_,rfl,_,_,_,rfl,rfl,rfl⟩
     ·refine l7 (j3 (oB 3 rfl ?_))
      exact ⟨_,_,rfl,ih _ _ h⟩
   ·refine L9 ?_
    cases h
    exact ⟨_,rfl,rfl⟩
  ·subst hx
   refine eSG (oB 1 rfl ?_)
   cases h
   exact l6 ⟨_,_,_,rfl,rfl,rfl⟩
  ·subst hz
   rcases res with ⟨_ | _ | _ | _,_,_⟩ <;> first | exact absurd rfl hn | exact hr.elim | (cases h; exact hr)
theorem a1G {n:Nat} {parts1:List Str} {r:Bool} (h:N8 n parts1 = some r) :
  E env (.call 3 [.sl clS parts1]) [] = some (N9 parts1 r):=by
 unfold N8 at h
 refine a1M rfl Try.func3 rfl rfl ?_
 refine eSG (oB 1 rfl (eSG (oB 1 rfl (eSG (oB 1 rfl ?_)))))
 obtain ⟨y1,g2,h⟩:=a3G h
 refine a4D (KR:=fun r=>OutK env 3 0 Try.f3.results.toList (N9 parts1 r)) y1 (fun z40=>[(0,.sl clS parts1),(3,.str z40.1),(4,.st 0 U9 z40.2)]) (fun z40=>[(0,.tip (tpe 4 (List.length z40.2)) (List.length z40.2))]) rfl ?_ (fun z40 hx=>?_) (fun r res hz hr hn=>?_)
 ·replace h:=g2
  clear g2
  refine eSG (oB 1 rfl ?_)
  refine q8 ?_
  refine O7 rfl ?_
  revert y1
  refine a4H (fun m (x:Str × List Tok × Int)=>A7 n parts1 m x.1 x.2.1 x.2.2) (fun x=>[(0,.sl clS parts1),(3,.str x.1),(4,.st 0 U9 x.2.1),(5,.i x.2.2)]) (fun x=>[(0,.tip (tpe 4 (List.length x.2.1)) (List.length x.2.1))]) _ (fun _=>rfl) (fun m4 x y ih h=>?_) n ([34],([]:List Tok),0)
  obtain ⟨a4a,U1,a2J⟩:=x
  rw [A7] at h
  refine j5 (eSG (oB 4 rfl ?_))
  refine eI rfl h (fun h=>?_) fun h=>?_
  ·refine l7 ?_
   obtain ⟨y4,g5,h⟩:=a9Z h
   refine a4D (KR:=fun r=>OutK env 3 0 Try.f3.results.toList (N9 parts1 r)) y4 (fun z28=>[(0,.sl clS parts1),(3,.str z28.1),(4,.st 0 U9 z28.2),(5,.i a2J)]) (fun z28=>[(0,.tip (tpe 4 (List.length z28.2)) (List.length z28.2))]) rfl ?_ (fun z28 hx=>?_) (fun r res hz hr hn=>?_)
   ·replace h:=g5
    clear g5
    refine q8 ?_
    refine j5 ?_
    obtain ⟨y6,g7,h⟩:=w9 h
    refine a2G [(0,.sl clS parts1),(3,.str a4a),(4,.st 0 U9 U1),(5,.i a2J),(26,.bool y6)] [(0,.tip (tpe 4 (List.length U1)) (List.length U1))] rfl ?_ ?_
    ·replace h:=g7
     clear g7
     refine j3 (oA 3 rfl ?_)
     refine p8 rfl rfl rfl (fun g8=>?_) (fun g8=>?_)
     ·replace h:=V4 h g8
      refine oB 7 rfl ?_
      cases h
      exact rfl
     ·replace h:=V3 h g8
      refine oA 2 rfl ?_
      obtain ⟨x2,g9,h⟩:=w9 h
      refine Y2 encS g9 rfl rfl rfl rfl rfl rfl rfl rfl ?_
      refine oB 4 rfl ?_
      cases h
      exact rfl
    ·obtain ⟨x525,rfl⟩:∃ q,q = y6:=⟨_,rfl⟩
     refine eI rfl h (fun h=>?_) fun h=>?_
     ·refine eSG (oB 1 rfl ?_)
      cases h
      exact l6 ⟨_,rfl,_,_,_,rfl,rfl,rfl⟩
     ·refine l7 (eSG (oA 2 rfl ?_))
      obtain ⟨x3,g11,h⟩:=w9 h
      refine Y2 encS g11 rfl rfl rfl rfl rfl rfl rfl rfl ?_
      refine oA 1 rfl ?_
      obtain ⟨⟨r4,r5⟩,g12,h⟩:=w9 h
      refine D7 rfl rfl rfl rfl rfl (a5f g12) rfl ?_
      refine oB 5 rfl (j5 (eSG (oB 2 rfl ?_)))
      refine eI rfl h (fun h=>?_) fun h=>?_
      ·refine eSG ?_
       obtain ⟨r6,g14,h⟩:=w9 h
       refine D7 rfl rfl rfl rfl rfl (a0y g14) rfl ?_
       refine oB 1 rfl ?_
       cases h
       exact l6 ⟨_,rfl,_,_,_,rfl,rfl,rfl⟩
      ·refine l7 (eSG (oB 1 rfl ?_))
       obtain ⟨y15,g16,h⟩:=w9 h
       refine a2G [(0,.sl clS parts1),(3,.str a4a),(4,.st 0 U9 U1),(5,.i a2J),(6,.str r4),(8,.i y15)] [(0,.tip (tpe 4 (List.length U1)) (List.length U1))] rfl ?_ ?_
       ·replace h:=g16
        clear g16
        refine eSG (oB 2 rfl ?_)
        refine eI rfl h (fun h=>?_) fun h=>?_
        ·refine j3 (oB 1 rfl ?_)
         cases h
         exact rfl
        ·refine l7 ?_
         cases h
         exact rfl
       ·obtain ⟨a9F,rfl⟩:∃ q,q = y15:=⟨_,rfl⟩
        obtain ⟨y18,g19,h⟩:=w9 h
        refine a2G [(0,.sl clS parts1),(3,.str a4a),(4,.st 0 U9 U1),(5,.i a2J),(6,.str r4),(8,.i y18)] [(0,.tip (tpe 4 (List.length U1)) (List.length U1))] rfl ?_ ?_
        ·replace h:=g19
         clear g19
         refine eSG (oB 5 rfl ?_)
         refine eI rfl h (fun h=>?_) fun h=>?_
         ·refine eSG (oB 1 rfl (eSG (oB 2 rfl ?_)))
          refine eI rfl h (fun h=>?_) fun h=>?_
          ·refine j3 (oB 1 rfl ?_)
           cases h
           exact rfl
          ·refine l7 ?_
           cases h
           exact rfl
         ·refine l7 ?_
          cases h
          exact rfl
        ·obtain ⟨a9G,rfl⟩:∃ q,q = y18:=⟨_,rfl⟩
         refine eSG (oA 4 rfl ?_)
         obtain ⟨x7,g22,h⟩:=w9 h
         refine Y2 encS g22 rfl rfl rfl rfl rfl rfl rfl rfl ?_
         refine oA 1 rfl ?_
         refine oD ?_
         refine oA 1 rfl ?_
         obtain ⟨l8,g23,h⟩:=w9 h
         refine oP Y1 g23 ?_
         refine oB 1 rfl (eSG (oA 2 rfl ?_))
         obtain ⟨s9,g24,h⟩:=w9 h
         refine a5t g24 rfl rfl rfl rfl ?_
         refine oB 1 rfl (eSG (oB 5 rfl ?_))
         refine eI rfl h (fun h=>?_) fun h=>?_
         ·refine eSG (oA 1 rfl ?_)
          refine oD ?_
          refine oA 1 rfl ?_
          obtain ⟨l10,g26,h⟩:=w9 h
          refine oP Y1 g26 ?_
          refine oB 1 rfl (j3 (oA 1 rfl ?_))
          obtain ⟨s11,g27,h⟩:=w9 h
          refine a5t g27 rfl rfl rfl rfl ?_
          refine oB 1 rfl ?_
          cases h
          exact ⟨_,rfl,rfl⟩
         ·refine l7 ?_
          cases h
          exact ⟨_,rfl,rfl⟩
   ·subst hx
    obtain ⟨src528,a9X⟩:=z28
    refine j3 (oB 3 rfl ?_)
    exact ⟨_,_,rfl,ih (_,_,_) _ h⟩
   ·subst hz
    rcases res with ⟨_ | _ | _ | _,_,_⟩ <;> first | exact absurd rfl hn | exact hr.elim | (cases h; exact ⟨_,rfl,hr⟩)
  ·refine L9 ?_
   cases h
   exact ⟨_,rfl,rfl⟩
 ·subst hx
  obtain ⟨a7w,a3B⟩:=z40
  refine j5 ?_
  obtain ⟨y29,g30,h⟩:=w9 h
  refine a2G [(3,.str a7w),(4,.st 0 U9 a3B),(77,.bool y29)] [(0,.tip (tpe 4 (List.length a3B)) (List.length a3B))] rfl ?_ ?_
  ·replace h:=g30
   clear g30
   refine j3 (oA 4 rfl ?_)
   refine p8 rfl rfl rfl (fun g31=>?_) (fun g31=>?_)
   ·replace h:=V4 h g31
    refine oB 4 rfl ?_
    cases h
    exact rfl
   ·replace h:=V3 h g31
    refine oB 4 rfl ?_
    cases h
    exact rfl
  ·obtain ⟨x535,rfl⟩:∃ q,q = y29:=⟨_,rfl⟩
   refine eI rfl h (fun h=>?_) fun h=>?_
   ·refine eSG ?_
    obtain ⟨r12,g33,h⟩:=w9 h
    refine D7 rfl rfl rfl rfl rfl (a0y g33) rfl ?_
    refine oB 1 rfl ?_
    cases h
    exact l6 ⟨_,_,_,rfl,rfl,rfl⟩
   ·refine l7 (eSG (oA 1 rfl ?_))
    obtain ⟨s13,g34,h⟩:=w9 h
    refine a5t g34 rfl rfl rfl rfl ?_
    obtain ⟨⟨l14,c15,a16⟩,g35,h⟩:=w9 h
    refine D7 rfl rfl rfl rfl rfl (a5B g35) rfl ?_
    refine oB 6 rfl (eSG (oA 4 rfl ?_))
    refine p8 rfl rfl rfl (fun g36=>?_) (fun g36=>?_)
    ·replace h:=V4 h g36
     refine oA 2 rfl ?_
     obtain ⟨r17,g37,h⟩:=w9 h
     refine D7 rfl rfl rfl rfl rfl (a3o g37) rfl ?_
     refine oA 2 rfl ?_
     refine p8 rfl rfl rfl (fun g38=>?_) (fun g38=>?_)
     ·replace h:=V4 h g38
      obtain ⟨r18,g39,h⟩:=w9 h
      refine D7 rfl rfl rfl rfl rfl (a0y g39) rfl ?_
      refine oB 2 rfl ?_
      cases h
      exact l6 ⟨_,_,_,rfl,rfl,rfl⟩
     ·replace h:=V3 h g38
      refine oB 3 rfl ?_
      cases h
      exact l6 ⟨_,_,_,rfl,rfl,rfl⟩
    ·replace h:=V3 h g36
     refine oB 8 rfl ?_
     cases h
     exact l6 ⟨_,_,_,rfl,rfl,rfl⟩
 ·subst hz
  rcases res with ⟨_ | _ | _ | _,_,_⟩ <;> first | exact absurd rfl hn | exact hr.elim | (cases h; exact hr)
end Go.Proofs.Ytlhgheonlcjpaaa
namespace Go.Proofs.Ytlhgheonlcjpaaa
open Go Go.Vm
theorem a8K (l:List Str) (hl:l.length <= 9223372036854775807):E env (.call 3 [.slice .sealed (List.length l) (clS l)]) [] = some (.ret (.bool true) []):=a1G (a5T l hl)
end Go.Proofs.Ytlhgheonlcjpaaa
namespace Go.Vm
open Go
variable {env:Env}
def rho0:Rho:=⟨fun _=>none,fun _ _=>none⟩
def lab0:Lab:=fun _ _=>none
def V6 (B:Nat):Lab:=fun b o=>if b = B /\ o = 0 then some (some 0) else none
def hp1:Hp:=[(0,.row [.slice (.tag 1) 0 []]),(1,.tip 0 0)]
end Go.Vm
namespace Go.Proofs.Ytlhgheonlcjpaaa
open Go Go.Vm
def M63:Nat:=9223372036854775807
theorem b0k:maxLen = M63:=by kernel_rfl
structure Rd (W:World) (vs:List V) (cs:List Value):Prop where
 rel:o6 rho0 lab0 W vs cs
 nf:∀ v ∈ vs,NF v
 one:∀ x ∈ cs,x.oneCell' = true
theorem Rd.nil (W:World):Rd W [] []:=⟨⟨rfl,by simp⟩,by simp,by simp⟩
theorem Rd.cons {W:World} {v:V} {x:Value} {vs:List V} {cs:List Value} (h:Rel rho0 lab0 W v x) (hn:NF v) (ho:x.oneCell' = true) (g:Rd W vs cs):Rd W (v :: vs) (x :: cs) :=
 ⟨l9.2 ⟨_,_,rfl,h,g.rel⟩,fun u hu=>(List.mem_cons.1 hu).elim (fun e=>e ▸ hn) (g.nf u),fun u hu=>(List.mem_cons.1 hu).elim (fun e=>e ▸ ho) (g.one u)⟩
theorem Rd.append {W:World} {vs us:List V} {cs ds:List Value} (h:Rd W vs cs) (g:Rd W us ds):Rd W (vs ++ us) (cs ++ ds) :=
 ⟨o6.append h.rel g.rel,fun u hu=>(List.mem_append.1 hu).elim (h.nf u) (g.nf u),fun u hu=>(List.mem_append.1 hu).elim (h.one u) (g.one u)⟩
theorem a7m {α:Type} {Q:Nat -> α -> Prop}:∀ n,(∀ i,i < n -> ∃ x,Q i x) -> ∃ l:List α,l.length = n /\ ∀ i x,l[i]? = some x -> Q i x
 | 0,_=>⟨[],rfl,fun i x h=>by simp at h⟩
 | n + 1,h=>by
  obtain ⟨l,h1,h2⟩:=a7m n fun i hi=>h i (by omega)
  obtain ⟨x,hx⟩:=h n (by omega)
  refine ⟨l ++ [x],by simp [h1],fun i y hy=>?_⟩
  rw [List.getElem?_append] at hy
  split at hy
  ·exact h2 i y hy
  ·rename_i hi
   have:i = n:=by
    rcases Nat.lt_or_ge (i - l.length) 1 with h3 | h3
    ·omega
    ·rw [List.getElem?_eq_none (by simpa using h3)] at hy; cases hy
   subst this
   rw [h1,Nat.sub_self] at hy
   simp at hy
   subst hy
   exact hx
theorem rd_list {α:Type} {sz:Nat} {c1:α -> List V} {cl:List α -> List V} (he:Z0 sz c1 cl) (hsz:0 < sz) {F:α -> Prop} {W:World} {a:Addr} {len cap:Nat} (hlc:len <= cap)
  (hel:∀ i,i < len -> ∃ cs,W.cells? 0 (a.add (i * sz)) sz = some cs /\ ∃ x,Rd W (c1 x) cs /\ F x) :
  ∃ l:List α,l.length = len /\ (∀ x ∈ l,F x) /\ Rel rho0 lab0 W (.slice .sealed (List.length l) (cl l)) (.slice (some a) len cap) /\ NF (.slice .sealed (List.length l) (cl l)):=by
 obtain ⟨l,h1,h2⟩:=a7m (Q:=fun i x=>∃ cs,W.cells? 0 (a.add (i * sz)) sz = some cs /\ Rd W (c1 x) cs /\ F x) len fun i hi=>by
  obtain ⟨cs,g1,x,g2,g3⟩:=hel i hi
  exact ⟨x,cs,g1,g2,g3⟩
 subst h1
 have hF:∀ x ∈ l,F x:=fun x hx=>by
  obtain ⟨i,hi⟩:=List.getElem?_of_mem hx
  obtain ⟨_,_,_,h⟩:=h2 i x hi
  exact h
 have hlen:=he.length l
 have part:∀ q v,(cl l)[q]? = some v -> ∃ x cs,l[q / sz]? = some x /\ W.cells? 0 (a.add (q / sz * sz)) sz = some cs /\ Rd W (c1 x) cs /\ (c1 x)[q % sz]? = some v:=by
  intro q v hv
  have hq:q < l.length * sz:=by
   rw [<- hlen]
   rcases Nat.lt_or_ge q (cl l).length with h | h
   ·exact h
   ·rw [List.getElem?_eq_none h] at hv; cases hv
  have hi:q / sz < l.length:=Nat.div_lt_of_lt_mul (by rw [Nat.mul_comm]; exact hq)
  have hx:l[q / sz]? = some l[q / sz]:=List.getElem?_eq_getElem hi
  obtain ⟨cs,g1,g2,g3⟩:=h2 _ _ hx
  refine ⟨_,cs,hx,g1,g2,?_⟩
  have h3:=he.at hx
  have h4:((cl l).drop (q / sz * sz))[q % sz]? = some v:=by
   rw [List.getElem?_drop,Nat.mul_comm,Nat.div_add_mod]; exact hv
  rw [h3,List.getElem?_append_left (by rw [he.len]; exact Nat.mod_lt _ hsz)] at h4
  exact h4
 refine ⟨l,rfl,hF,?_,.slice _ _ _ (fun g h=>by cases h) (fun v hv=>?_)⟩
 ·rcases Nat.eq_zero_or_pos l.length with h0 | h0
  ·have:l = []:=List.length_eq_zero_iff.1 h0
   subst this
   rw [he.nil]
   exact .slice _ 0 [] [] 0 0 (some a) cap rfl (Nat.zero_le _) (fun h=>by omega) (fun _=>rfl) (fun i x h=>by simp at h) (fun i v x h=>by simp at h) trivial (by simp) (by simp)
  ·
   have hs:a.spot = none:=by
    obtain ⟨cs,g1,g2,g3⟩:=h2 0 l[0] (List.getElem?_eq_getElem h0)
    obtain ⟨_,c2,c3⟩:=World.cells?_some g1
    have c4:=c3 0 hsz
    simp only [Nat.zero_mul,Addr.add,if_true] at c4
    have hc:0 < cs.length:=by omega
    rw [List.getElem?_eq_getElem hc] at c4
    unfold World.cell? at c4
    split at c4
    ·split at c4
     ·cases c4
     ·rename_i hsp
      cases hq:a.spot with
      | none=>rfl
      | some s=>rw [hq] at hsp; simp at hsp
    ·cases c4
   obtain ⟨b,o,sp⟩:=a
   simp only at hs
   subst hs
   have hadd:∀ o n,(⟨b,o,none⟩:Addr).add n = ⟨b,o + n,none⟩:=fun o n=>by
    unfold Addr.add
    split
    ·rename_i h; subst h; rfl
    ·rfl
   have cells:∀ q v,(cl l)[q]? = some v -> ∃ x,W.cell? ⟨b,o + q,none⟩ = some x /\ Rel rho0 lab0 W v x /\ x.oneCell' = true:=by
    intro q v hv
    obtain ⟨x,cs,_,g1,g2,g3⟩:=part q v hv
    obtain ⟨_,c2,c3⟩:=World.cells?_some g1
    have c4:=c3 (q % sz) (Nat.mod_lt _ hsz)
    rw [hadd,hadd,Nat.add_assoc,Nat.mul_comm,Nat.div_add_mod] at c4
    have hj:q % sz < cs.length:=by rw [c2]; exact Nat.mod_lt _ hsz
    rw [List.getElem?_eq_getElem hj] at c4
    exact ⟨_,c4,g2.rel.2 _ _ _ g3 (List.getElem?_eq_getElem hj),g2.one _ (List.getElem_mem hj)⟩
   have hget:∀ q,q < (cl l).length -> ∃ x,W.cell? ⟨b,o + q,none⟩ = some x /\ Rel rho0 lab0 W ((cl l)[q]?.getD .undef) x /\ x.oneCell' = true:=fun q hq=>by
    have hv:(cl l)[q]? = some (cl l)[q]:=List.getElem?_eq_getElem hq
    rw [hv]
    exact cells q _ hv
   obtain ⟨xs,e1,e2⟩:=a7m (cl l).length hget
   refine .slice _ l.length (cl l) xs b o (some ⟨b,o,none⟩) cap e1 hlc (fun _=>rfl) (fun h=>by omega) (fun i x hx=>⟨rfl,(e2 i x hx).1⟩) (fun i v x hv hx=>?_) trivial (fun x hx=>?_) (fun v hv=>?_)
   ·have:=(e2 i x hx).2.1
    rw [hv] at this
    exact this
   ·obtain ⟨i,hi⟩:=List.getElem?_of_mem hx
    exact (e2 i x hi).2.2
   ·obtain ⟨q,hq⟩:=List.getElem?_of_mem hv
    obtain ⟨x,cs,_,_,g2,g3⟩:=part q v hq
    exact g2.nf v (List.mem_of_getElem? g3)
 ·obtain ⟨q,hq⟩:=List.getElem?_of_mem hv
  obtain ⟨x,cs,_,_,g2,g3⟩:=part q v hq
  exact g2.nf v (List.mem_of_getElem? g3)
section
variable {H:Type} {enc:TypeId × Value -> H} {W:World} {spare:Nat -> Bool} {held:Bool}
theorem rd_slice {α:Type} {sz t e:Nat} {c1:α -> List V} {cl:List α -> List V} (he:Z0 sz c1 cl) (hsz:0 < sz) {F:α -> Prop} {n:Nat} {cs:List Value} {x:DataW H × List MemPlace} (ht:Try.prog.underlying t = some (.slice e)) (hc:Try.prog.cellsOf e = sz)
  (hel:∀ m cs x,m < n -> DataW.trod enc Try.prog W 0 spare held m e cs = some x -> ∃ a,Rd W (c1 a) cs /\ F a) (h:DataW.trod enc Try.prog W 0 spare held n t cs = some x) :
  ∃ l:List α,(∀ a ∈ l,F a) /\ l.length <= M63 /\ Rd W [.slice .sealed (List.length l) (cl l)] cs:=by
 rcases DataW.trod_slice ht h with ⟨rfl,_⟩ | ⟨a,len,cap,elems,rest,m,rfl,rfl,_,hb,hl,hm,hlen,hE,_⟩
 ·refine ⟨[],by simp,by simp [M63],?_⟩
  rw [he.nil]
  exact Rd.cons (.slice _ 0 [] [] 0 0 none 0 rfl (Nat.zero_le _) (fun h=>by omega) (fun _=>rfl) (fun i x h=>by simp at h) (fun i v x h=>by simp at h) trivial (by simp) (by simp)) (.slice _ _ _ (fun g h=>by cases h) (by simp)) rfl (Rd.nil W)
 ·obtain ⟨l,h1,h2,h3,h4⟩:=rd_list he hsz (F:=F) (W:=W) (a:=a) hl (fun i hi=>by
   have h5:=hE i hi
   rw [List.getElem?_eq_getElem (by rw [hlen]; exact hi),hc,Option.bind_eq_some_iff] at h5
   obtain ⟨ds,h6,h7⟩:=h5
   obtain ⟨y,h8,h9⟩:=hel m ds _ (Nat.lt_succ_self m) h7
   exact ⟨ds,h6,y,h8,h9⟩)
  refine ⟨l,h2,?_,Rd.cons h3 h4 rfl (Rd.nil W)⟩
  rw [h1]
  rw [b0k] at hm
  omega
theorem cellsE:Try.prog.cellsOf 9 = 1:=by kernel_rfl
theorem rd_el (n:Nat) (cs:List Value) (x:DataW H × List MemPlace) (h:DataW.trod enc Try.prog W 0 spare held n 9 cs = some x):∃ t:Str,Rd W [V.str t] cs /\ True:=by
 obtain ⟨a1,e1,_,b1⟩:=DataW.trod_string Try.underlying9 h
 subst e1
 exact ⟨a1.data.toList,Rd.cons (.str a1.data.toList) (.str _) rfl (Rd.nil W),trivial⟩
theorem rd_arg {n:Nat} {cs:List Value} {x:DataW H × List MemPlace} (h:DataW.trod enc Try.prog W 0 spare held n 22 cs = some x) :
  ∃ l:List Str,l.length <= M63 /\ Rd W [.slice .sealed (List.length l) (clS l)] cs:=by
 obtain ⟨l,_,h2,h3⟩:=rd_slice encS (by omega) (F:=fun _=>True) Try.underlying22 cellsE (fun m cs x _ hh=>rd_el m cs x hh) h
 exact ⟨l,h2,h3⟩
end
end Go.Proofs.Ytlhgheonlcjpaaa
