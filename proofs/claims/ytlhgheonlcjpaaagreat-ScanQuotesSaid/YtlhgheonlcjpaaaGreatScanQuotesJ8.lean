/- What the functions under ScanQuotes compute, step by step, as functions in Lean: texts that were built one by one, joined. -/
import Derived.Test.YtlhgheonlcjpaaaGreatScanQuotesJ7
import Derived.Test.YtlhgheonlcjpaaaGreatProg
import Derived.Tactics
import Derived.Tactics2
import Derived.Defers
import Derived.Laws.Pointers
import Derived.Laws.LoneSync
import Derived.RegionTactic
import Derived.RegionCalls
import Derived.ChangeAlike
import Derived.Laws.World
import Derived.KernelRfl
import Derived.Shelf.Strings.Count
set_option maxRecDepth 100000
set_option maxHeartbeats 20000000
set_option linter.unusedSimpArgs false
set_option linter.unusedVariables false
set_option linter.unusedSectionVars false
namespace Go.Proofs.YtlhgheonlcjpaaaGreat.Sc
open Go Go.Vm
def Lay (s:List UInt8):Nat -> List Tok -> Nat -> Prop
 | k,[],e=>k = e
 | k,t :: r,e=>t.a = E9 s k /\ t.a < s.length /\ 0 < t.l /\ t.a + t.l <= s.length /\ Lay s (t.a + t.l) r e
theorem Lay.add {s:List UInt8} {t:Tok}:∀ {l:List Tok} {k e:Nat},Lay s k l e -> t.a = E9 s e -> t.a < s.length -> 0 < t.l -> t.a + t.l <= s.length -> Lay s k (l ++ [t]) (t.a + t.l)
 | [],k,e,h,h1,h2,h3,h4=>by
  simp only [Lay] at h; subst h
  exact ⟨h1,h2,h3,h4,rfl⟩
 | u :: l,k,e,h,h1,h2,h3,h4=>⟨h.1,h.2.1,h.2.2.1,h.2.2.2.1,Lay.add h.2.2.2.2 h1 h2 h3 h4⟩
theorem a2A {toks:List Tok} {j:Nat} {r:MR} {y:MS} (h:roomy toks j r = .go y):toks.length < 3000 /\ r = .go y:=by
 unfold roomy at h
 split at h
 ·cases h
 ·rename_i h1
  simp only [decide_eq_false_iff_not] at h1
  exact ⟨by omega,h⟩
theorem lit_go {s:List UInt8} {toks:List Tok} {st:List (Nat × Int)} {q j ins:Nat} {a b:Int} {y:MS} (h:R5 toks st q j a b (part s q ins (j + 1) []) = .go y) :
  ∃ t:Tok,y.toks = toks ++ [t] /\ t.a = j /\ 0 < t.l /\ y.i = t.a + t.l /\ t.a + t.l <= s.length:=by
 have hok:=a8d s q ins (j + 1) []
 cases hp:part s q ins (j + 1) [] with
 | err c a=>rw [hp] at h; cases h
 | fin t e =>
  rw [hp] at h hok
  have h1:j + 1 < e:=hok.1
  have h2:e <= s.length:=hok.2
  simp only [R5] at h
  cases h
  exact ⟨_,rfl,rfl,by show 0 < e - j; omega,by show e = j + (e - j); omega,by show j + (e - j) <= _; omega⟩
 | more t e =>
  rw [hp] at h hok
  have h1:j + 1 < e:=hok.1
  have h2:e <= s.length:=hok.2
  simp only [R5] at h
  cases h
  exact ⟨_,rfl,rfl,by show 0 < e - j; omega,by show e = j + (e - j); omega,by show j + (e - j) <= _; omega⟩
theorem stepM_go {s:List UInt8} {x y:MS} (h:stepM s x = .go y):∃ t:Tok,y.toks = x.toks ++ [t] /\ t.a = E9 s x.i /\ t.a < s.length /\ 0 < t.l /\ y.i = t.a + t.l /\ t.a + t.l <= s.length:=by
 obtain ⟨i0,toks,st⟩:=x
 obtain ⟨i,h0⟩:∃ i,E9 s i0 = i:=⟨_,rfl⟩
 show ∃ t:Tok,y.toks = toks ++ [t] /\ t.a = E9 s i0 /\ _
 rw [h0]
 rcases Nat.lt_or_ge i s.length with hi | hi
 ·have fin:(∃ t:Tok,y.toks = toks ++ [t] /\ t.a = i /\ 0 < t.l /\ y.i = t.a + t.l /\ t.a + t.l <= s.length) -> ∃ t:Tok,y.toks = toks ++ [t] /\ t.a = i /\ t.a < s.length /\ 0 < t.l /\ y.i = t.a + t.l /\ t.a + t.l <= s.length:=by
   rintro ⟨t,h1,h2,h3,h4,h5⟩
   exact ⟨t,h1,h2,by omega,h3,h4,h5⟩
  apply fin
  cases hc:closes (s.getD i 0).toNat st with
  | true =>
   cases st with
   | nil=>cases hc
   | cons z st =>
    obtain ⟨q,p⟩:=z
    rw [(Z9 h0 hi hc).2] at h
    exact lit_go (a2A h).2
  | false =>
   by_cases h1:(s.getD i 0).toNat = 34
   ·rw [a0k h0 hi hc h1] at h
    exact lit_go (a2A h).2
   ·have hi1:i <= s.length:=by omega
    cases h2:u6 (s.getD i 0) with
    | true =>
     rw [U9 h0 hi hc h1 h2] at h
     have hg:=a0o hi h2
     have hl:=Y1 (p:=u6) hi1
     have h:=(a2A h).2
     split at h
     ·cases h
     ·cases h; exact ⟨_,rfl,rfl,by show 0 < C8 u6 s i - i; omega,by show C8 u6 s i = i + (C8 u6 s i - i); omega,by show i + (C8 u6 s i - i) <= _; omega⟩
    | false =>
     cases h3:G9 (s.getD i 0) with
     | true =>
      rw [R6 h0 hi hc h1 h2 h3] at h
      have hg:=a0o (p:=F6) hi (by simp only [F6,h3,Bool.true_or])
      have hl:=Y1 (p:=F6) hi1
      have h:=(a2A h).2
      split at h
      ·cases h
      ·cases h; exact ⟨_,rfl,rfl,by show 0 < C8 F6 s i - i; omega,by show C8 F6 s i = i + (C8 F6 s i - i); omega,by show i + (C8 F6 s i - i) <= _; omega⟩
     | false =>
      cases hw:I8 s i 2 with
      | nil=>rw [a0Z h0 hi hc h1 h2 h3 hw] at h; cases h
      | cons b w =>
       rw [R7 h0 hi hc h1 h2 h3 hw (by simp)] at h
       have hl:=a2V 2 hi1
       rw [hw] at hl
       have h:=(a2A h).2
       cases h
       exact ⟨_,rfl,rfl,by show 0 < (b :: w).length; simp,rfl,by show i + (b :: w).length <= _; omega⟩
 ·cases st with
  | nil=>rw [a0j h0 hi] at h; cases h
  | cons z st=>obtain ⟨q,p⟩:=z; rw [a00 h0 hi] at h; cases h
theorem b06 {s:List UInt8} {x y:MS} (h:Reach s x y):x.i <= s.length -> Lay s 0 x.toks x.i -> y.i <= s.length /\ Lay s 0 y.toks y.i:=by
 induction h with
 | refl x=>exact fun h1 h2=>⟨h1,h2⟩
 | step x y z h1 _ ih =>
  intro h2 h3
  obtain ⟨t,g1,g2,g3,g4,g5,g6⟩:=stepM_go h1
  exact ih (by omega) (by rw [g1,g5]; exact h3.add g2 g3 g4 g6)
theorem a0U {toks l:List Tok} {j:Nat} {r:MR} (h:roomy toks j r = .done l):r = .done l:=by
 unfold roomy at h
 split at h
 ·cases h
 ·exact h
theorem a3Q {toks l:List Tok} {st:List (Nat × Int)} {q j:Nat} {a b:Int} {r:PR} (h:R5 toks st q j a b r = .done l):False:=by
 cases r <;> cases h
theorem a92 {s:List UInt8} {x:MS} {l:List Tok} (h:stepM s x = .done l):x.toks = l /\ s.length <= E9 s x.i:=by
 obtain ⟨i0,toks,st⟩:=x
 obtain ⟨i,h0⟩:∃ i,E9 s i0 = i:=⟨_,rfl⟩
 show toks = l /\ s.length <= E9 s i0
 rw [h0]
 rcases Nat.lt_or_ge i s.length with hi | hi
 ·exfalso
  cases hc:closes (s.getD i 0).toNat st with
  | true =>
   cases st with
   | nil=>cases hc
   | cons z st =>
    obtain ⟨q,p⟩:=z
    rw [(Z9 h0 hi hc).2] at h
    exact a3Q (a0U h)
  | false =>
   by_cases h1:(s.getD i 0).toNat = 34
   ·rw [a0k h0 hi hc h1] at h
    exact a3Q (a0U h)
   ·cases h2:u6 (s.getD i 0) with
    | true =>
     rw [U9 h0 hi hc h1 h2] at h
     have h:=a0U h
     split at h <;> cases h
    | false =>
     cases h3:G9 (s.getD i 0) with
     | true =>
      rw [R6 h0 hi hc h1 h2 h3] at h
      have h:=a0U h
      split at h <;> cases h
     | false =>
      cases hw:I8 s i 2 with
      | nil=>rw [a0Z h0 hi hc h1 h2 h3 hw] at h; cases h
      | cons b w =>
       rw [R7 h0 hi hc h1 h2 h3 hw (by simp)] at h
       have h:=a0U h
       cases h
 ·cases st with
  | nil=>rw [a0j h0 hi] at h; cases h; exact ⟨rfl,hi⟩
  | cons z st=>obtain ⟨q,p⟩:=z; rw [a00 h0 hi] at h; cases h
theorem a1I {toks:List Tok} {j:Nat} {r:MR} {c:Int} {a:Nat} (h:roomy toks j r = .err c a):c = 2 ∨ r = .err c a:=by
 unfold roomy at h
 split at h
 ·cases h; exact .inl rfl
 ·exact .inr h
theorem b0y {s:List UInt8} {toks:List Tok} {st:List (Nat × Int)} {q j ins i:Nat} {a b:Int} {c:Int} {p:Nat} (h:R5 toks st q j a b (part s q ins i []) = .err c p):c ≠ 0:=by
 have hok:=a8d s q ins i []
 cases hp:part s q ins i [] with
 | err c' a'=>rw [hp] at h hok; cases h; rcases hok with rfl | rfl | rfl <;> decide
 | fin t e=>rw [hp] at h; cases h
 | more t e=>rw [hp] at h; cases h
theorem b1c {s:List UInt8} {x:MS} {c:Int} {p:Nat} (h:stepM s x = .err c p):c ≠ 0:=by
 obtain ⟨i0,toks,st⟩:=x
 obtain ⟨i,h0⟩:∃ i,E9 s i0 = i:=⟨_,rfl⟩
 rcases Nat.lt_or_ge i s.length with hi | hi
 ·cases hc:closes (s.getD i 0).toNat st with
  | true =>
   cases st with
   | nil=>cases hc
   | cons z st =>
    obtain ⟨q,p⟩:=z
    rw [(Z9 h0 hi hc).2] at h
    rcases a1I h with rfl | h
    ·decide
    ·exact b0y h
  | false =>
   by_cases h1:(s.getD i 0).toNat = 34
   ·rw [a0k h0 hi hc h1] at h
    rcases a1I h with rfl | h
    ·decide
    ·exact b0y h
   ·cases h2:u6 (s.getD i 0) with
    | true =>
     rw [U9 h0 hi hc h1 h2] at h
     rcases a1I h with rfl | h
     ·decide
     ·split at h <;> cases h; decide
    | false =>
     cases h3:G9 (s.getD i 0) with
     | true =>
      rw [R6 h0 hi hc h1 h2 h3] at h
      rcases a1I h with rfl | h
      ·decide
      ·split at h <;> cases h; decide
     | false =>
      cases hw:I8 s i 2 with
      | nil=>rw [a0Z h0 hi hc h1 h2 h3 hw] at h; cases h; decide
      | cons b w =>
       rw [R7 h0 hi hc h1 h2 h3 hw (by simp)] at h
       rcases a1I h with rfl | h
       ·decide
       ·cases h
 ·cases st with
  | nil=>rw [a0j h0 hi] at h; cases h
  | cons z st=>obtain ⟨q,p⟩:=z; rw [a00 h0 hi] at h; cases h; decide
structure TokOk (s:List UInt8) (r:MR):Prop where
 bd:RBd r
 nz:∀ c a,r = .err c a -> c ≠ 0
 lay:∀ l,r = .done l -> s.length <= 8000 /\ ∃ e,Lay s 0 l e /\ s.length <= E9 s e /\ e <= s.length
theorem ends_ok {s:List UInt8} (hs:s.length <= 8000) {r:MR} (h:Ends s ⟨0,[],[]⟩ r) (hr:RBd r):TokOk s r:=by
 obtain ⟨y,h1,h2,h3⟩:=h
 refine ⟨hr,fun c a e=>?_,fun l e=>?_⟩
 ·subst e; exact b1c h2
 ·subst e
  obtain ⟨h4,h5⟩:=a92 h2
  obtain ⟨h6,h7⟩:=b06 h1 (Nat.zero_le _) rfl
  rw [h4] at h7
  exact ⟨hs,y.i,h7,h5,h6⟩
theorem a9b (s:List UInt8):∃ r,TokOk s r /\ E env (.call 13 [.str s]) [] = some (.ret (a2E r) []) /\ E env (.call 18 [.str s]) [] = some (.ret (a2E r) []) /\ (s.length <= 8000 -> Ends s ⟨0,[],[]⟩ r):=by
 rcases Nat.lt_or_ge 8000 s.length with h | h
 ·exact ⟨.err 2 0,⟨trivial,fun c a e=>(by cases e; decide),fun l e=>(by cases e)⟩,c11big h,c12big h,fun h1=>absurd h1 (by omega)⟩
 ·obtain ⟨r,h1,h2,h3⟩:=c11 h
  obtain ⟨r',h4,h5⟩:=c12 h
  obtain rfl:=Ends.det s h1 h4
  exact ⟨r,ends_ok h h1 h2,h3,h5,fun _=>h1⟩
end Go.Proofs.YtlhgheonlcjpaaaGreat.Sc
namespace Go.Vm
variable {ρ:Rho} {lab:Lab} {w:World} {H:Hp}
theorem a7H {env:Env} (hE:a2h env) {g:Nat} {args:List V} {v:V} (h:E env (.call g args) [] = some (.ret v [])) (ha:I6 (L8 Z8 dep) (args.map a1K) = some args) (hv:L8 Z8 dep v = some v)
  (hc:Canon 0 H) (hS:Sim ρ lab H w) {xs:List Value} (hx:p8 ρ lab w args xs):Calls env.P g xs.toArray w (a0K ρ lab H w (.ret v H)):=by
 obtain ⟨k,hk⟩:=(Q6 env).at_ _ _ _ h
 have q:J3 (run env k) g args H = some (.val v H):=by
  unfold J3
  rw [ha]
  simp only
  rw [hk]
  simp only
  rw [hv]
 refine (a4Y (a90 hE k).1 hS hx q).1.mono fun e w' he=>?_
 cases e with
 | returned x =>
  obtain ⟨ρ',lab',h1,h2,h3,h4⟩:=he
  exact ⟨ρ',lab',h1,h2,K9.of_le h3 _,h4,hc,Nat.le_refl _⟩
 | panicked ch=>exact he.elim
 | outgrown=>exact he.elim
def valI (f:List V -> Option V):List V -> Hp -> Option Out:=fun args H=>match f args with
 | some v=>some (.ret v H)
 | none=>none
theorem a8o {env:Env} (hE:a2h env) {g:Nat} {f:List V -> Option V}
  (hf:∀ args v,f args = some v -> I6 (L8 Z8 dep) (args.map a1K) = some args /\ L8 Z8 dep v = some v /\ E env (.call g args) [] = some (.ret v []))
  (hk:∃ fn c,env.P.funcs[g]? = some fn /\ (fn.name == "runtime.NumGoroutine") = false /\ fn.body = some c):a4p env.P g (valI f):=by
 refine ⟨fun args H out h ρ lab w xs hc hS hx=>?_,hk⟩
 unfold valI at h
 split at h
 ·rename_i v hv
  cases h
  obtain ⟨h1,h2,h3⟩:=hf args v hv
  exact a7H hE h3 h1 h2 hc hS hx
 ·cases h
theorem a7C {env:Env} {g:Nat} {args:List V} {H:Hp} {out:Out} {h:List V -> Hp -> Option Out} (hi:env.intr g = some (.plain h)) (ho:h args H = some out):E env (.call g args) H = some out:=by
 refine (Q6 env).le 1 _ _ _ ?_
 simp only [run,step,hi,ho]
end Go.Vm
namespace Go.Proofs.YtlhgheonlcjpaaaGreat.Sc
open Go Go.Vm
noncomputable def a0x (s:List UInt8):MR:=(a9b s).choose
theorem a1N (s:List UInt8):TokOk s (a0x s) /\ E env (.call 13 [.str s]) [] = some (.ret (a2E (a0x s)) []) /\ E env (.call 18 [.str s]) [] = some (.ret (a2E (a0x s)) []) /\ (s.length <= 8000 -> Ends s ⟨0,[],[]⟩ (a0x s)):=(a9b s).choose_spec
theorem a2W (s:List UInt8):RBd (a0x s) /\ E env (.call 13 [.str s]) [] = some (.ret (a2E (a0x s)) []) /\ E env (.call 18 [.str s]) [] = some (.ret (a2E (a0x s)) []):=⟨(a1N s).1.bd,(a1N s).2.1,(a1N s).2.2.1⟩
noncomputable def tokF:List V -> Option V:=fun args=>match args with
 | [.str s]=>some (a2E (a0x s))
 | _=>none
theorem a9c {r:MR} (h:RBd r):L8 Z8 dep (a2E r) = some (a2E r):=by
 cases r with
 | go x=>exact h.elim
 | done l=>rfl
 | err c a=>rfl
theorem tok_intr:a4p Tryz.prog 13 (valI tokF):=by
 refine a8o a6O (fun args v h=>?_) ⟨_,_,Tryz.func13,by kernel_rfl,rfl⟩
 unfold tokF at h
 split at h
 ·rename_i s
  cases h
  exact ⟨rfl,a9c (a2W s).1,(a2W s).2.1⟩
 ·cases h
theorem b1i:a4p Tryz.prog 18 (valI tokF):=by
 refine a8o a6O (fun args v h=>?_) ⟨_,_,Tryz.func18,by kernel_rfl,rfl⟩
 unfold tokF at h
 split at h
 ·rename_i s
  cases h
  exact ⟨rfl,a9c (a2W s).1,(a2W s).2.2⟩
 ·cases h
end Go.Proofs.YtlhgheonlcjpaaaGreat.Sc
namespace Go.Proofs.YtlhgheonlcjpaaaGreat.Sc
open Go
theorem disable (w:World):(callFunc 83 #[]).run Tryz.prog w = .ok (.value (.tuple #[])) w:=run_call_mark0 Tryz.func83 (by kernel_rfl) (by kernel_rfl) (by kernel_rfl) .disable (by kernel_rfl) w
theorem enable (w:World):(callFunc 85 #[]).run Tryz.prog w = .ok (.value (.tuple #[])) w:=run_call_mark0 Tryz.func85 (by kernel_rfl) (by kernel_rfl) (by kernel_rfl) .enable (by kernel_rfl) w
theorem acquire (a:Addr) (w:World):(callFunc 86 #[.pointer (some a)]).run Tryz.prog w = .ok (.value (.tuple #[])) w:=run_call_marked Tryz.func86 (by kernel_rfl) (by kernel_rfl) (by kernel_rfl) .acquire (by kernel_rfl) a w
theorem releaseMerge (a:Addr) (w:World):(callFunc 88 #[.pointer (some a)]).run Tryz.prog w = .ok (.value (.tuple #[])) w:=run_call_marked Tryz.func88 (by kernel_rfl) (by kernel_rfl) (by kernel_rfl) .releaseMerge (by kernel_rfl) a w
theorem lock_in (a:Addr) (w:World) (hc:w.cell? a = some (.int .i32 0)) (hz:w.frozen? a = false) :
  Calls Tryz.prog 77 #[.pointer (some a)] w fun e w'=>e = .returned (.tuple #[]) /\ w' = w.setCell a (.int .i32 1):=by
 have hd:=disable
 have he:=enable
 have ha:=acquire
 have hcas:=run_call_cas_hit (P:=Tryz.prog) Tryz.func84 (by kernel_rfl) (by kernel_rfl) (by kernel_rfl) .i32 (by kernel_rfl) (y:=1) hc hz
 have hc':(w.setCell a (.int .i32 1)).cell? a = some (.int .i32 1):=World.cell?_setCell_same w a _ hc
 have hcv:=run_convert_to_unsafe (P:=Tryz.prog) (src:=136) (dst:=104) Tryz.underlying136 Tryz.underlying104 (by kernel_rfl) hc'
 go_enter Tryz.func77,Tryz.ntmps77
 go_wp2
 first | go_end0 | (simp only [Exit.inBlock,Exit.then]; refine bodyPost_ret (results_none rfl _ _ _) rfl ?_) | refine bodyPost_ret (results_none rfl _ _ _) rfl ?_
 all_goals (go_wp2 <;> (go_end0 <;> exact ⟨rfl,rfl⟩))
theorem lock_free (a:Addr) (w:World) (hc:w.cell? a = some (.int .i32 0)) (hz:w.frozen? a = false) :
  Calls Tryz.prog 72 #[.pointer (some a)] w fun e w'=>e = .returned (.tuple #[]) /\ w' = w.setCell a (.int .i32 1):=by
 go_enter Tryz.func72,Tryz.ntmps72
 go_wp2_with (go_at_call 77; refine (lock_in a _ hc hz).mono ?_; rintro e w' ⟨rfl,rfl⟩)
 go_end0
 exact ⟨rfl,rfl⟩
theorem b1j (a:Addr) (w:World) (hc:w.cell? a = some (.int .i32 1)) (hz:w.frozen? a = false) :
  Calls Tryz.prog 78 #[.pointer (some a)] w fun e w'=>e = .returned (.tuple #[]) /\ w' = w.setCell a (.int .i32 0):=by
 have hd:=disable
 have he:=enable
 have hr:=releaseMerge
 have hadd:=run_call_add (P:=Tryz.prog) Tryz.func89 (by kernel_rfl) (by kernel_rfl) (by kernel_rfl) .i32 (by kernel_rfl) (y:=-1) (s:=0) hc hz (by simp [go_sem]; rfl)
 have hcv:=run_convert_to_unsafe (P:=Tryz.prog) (src:=136) (dst:=104) Tryz.underlying136 Tryz.underlying104 (by kernel_rfl) hc
 go_enter Tryz.func78,Tryz.ntmps78
 go_wp2
 go_end0
 all_goals (go_wp2 <;> (go_end0 <;> exact ⟨rfl,rfl⟩))
theorem unlock_deferred (a:Addr) (u:FrameMode) (w:World) (hc:w.cell? a = some (.int .i32 1)) (hz:w.frozen? a = false) :
  CallsD Tryz.prog 73 #[.pointer (some a)] u w fun e u' w'=>u' = u /\ (e = .returned (.tuple #[]) /\ w' = w.setCell a (.int .i32 0)):=by
 go_enter_d Tryz.func73,Tryz.ntmps73
 go_wp2_with (go_at_call 78; refine (b1j a _ hc hz).mono ?_; rintro e w' ⟨rfl,rfl⟩)
 go_end0
 exact ⟨rfl,rfl⟩
theorem a6r (a:Addr) (x:Value) (u:FrameMode) (w:World) (hc:w.cell? a = some x) (hz:w.frozen? a = false) :
  CallsD Tryz.prog 74 #[.pointer (some a),.bool true] u w fun e u' w'=>u' = u /\ (e = .returned (.tuple #[]) /\ w' = w.drew.setCell a (.int .u32 1)):=by
 have hc':w.drew.cell? a = some x:=by go_simp
 have hz':w.drew.frozen? a = false:=by go_simp
 have hst:=run_call_store (P:=Tryz.prog) Tryz.func79 (by kernel_rfl) (by kernel_rfl) (by kernel_rfl) (by kernel_rfl) (k:=.u32) (y:=1) hc' hz'
 go_enter_d Tryz.func74,Tryz.ntmps74
 go_wp2
 go_region_calls
 all_goals (go_end0; exact ⟨rfl,rfl⟩)
end Go.Proofs.YtlhgheonlcjpaaaGreat.Sc
namespace Go.Proofs.YtlhgheonlcjpaaaGreat.Sc
open Go
theorem slow_any (b off:Nat) (fv:Value) (w:World) (Q:World -> Prop) (g:Nat) (cap:Array Value) (hfv:fv = .func (.func g) cap #[]) {fn:Func} (hg:Tryz.prog.funcs[g]? = some fn) (hname:(fn.name == "runtime.NumGoroutine") = false) {c:Code} (hbody:fn.body = some c)
  (h0:w.cell? ⟨b,off,none⟩ = some (.int .u32 0)) (h1:w.cell? ⟨b,off + 1,none⟩ = some (.int .i32 0))
  (f0:w.frozen? ⟨b,off,none⟩ = false) (f1:w.frozen? ⟨b,off + 1,none⟩ = false)
  (hQ:Calls Tryz.prog g cap (w.setCell ⟨b,off + 1,none⟩ (.int .i32 1)) fun e w'=>e = .returned (.tuple #[]) /\ Q w' /\ w'.cell? ⟨b,off,none⟩ = some (.int .u32 0) /\ w'.cell? ⟨b,off + 1,none⟩ = some (.int .i32 1) /\ w'.frozen? ⟨b,off,none⟩ = false /\ w'.frozen? ⟨b,off + 1,none⟩ = false) :
  Calls Tryz.prog 66 #[.pointer (some ⟨b,off,none⟩),fv] w fun e w'=>e = .returned (.tuple #[]) /\ ∃ w1,Q w1 /\
   w' = (w1.drew.setCell ⟨b,off,none⟩ (.int .u32 1)).setCell ⟨b,off + 1,none⟩ (.int .i32 0):=by
 subst hfv
 have hl:=run_call_load (P:=Tryz.prog) Tryz.func71 (by kernel_rfl) (by kernel_rfl) (by kernel_rfl) .u32 (by kernel_rfl) (w:=w.setCell ⟨b,off + 1,none⟩ (.int .i32 1)) (a:=⟨b,off,none⟩) (x:=0) ((World.cell?_setCell_other _ ⟨b,off + 1,none⟩ ⟨b,off,none⟩ _ (by simp)).trans h0)
 have hnot:∀ (x:Bool) (w:World),(Op.unary .not (.bool x)).run Tryz.prog w = .ok (.bool (!x)) w:=fun _ _=>rfl
 go_enter_defers Tryz.func66,Tryz.ntmps66
 go_wp2_with (go_at_call 72; refine (lock_free ⟨b,off + 1,none⟩ _ (by go_simp) (by go_simp)).mono ?_; rintro e w' ⟨rfl,rfl⟩)
 go_wp2
 have hrun:∀ w,(callFunc g cap).run Tryz.prog w = .ok (.enter g cap) w:=fun w=>by
  have h1:fn.name ≠ "runtime.NumGoroutine":=by simpa using hname
  simp [callFunc,hg,h1,hbody]
 rw [hrun,Oper.upon_enter]
 refine hQ.mono ?_
 rintro e w' ⟨rfl,hq,c0,c1,z0,z1⟩
 go_wp2
 refine leaves_cons (f:=74) (args:=#[.pointer (some ⟨b,off,none⟩),.bool true]) (by simp) (by simp [go_sem]) ?_
 refine (a6r ⟨b,off,none⟩ (.int .u32 0) .returning _ c0 z0).mono ?_
 rintro e u' w'' ⟨rfl,rfl,rfl⟩
 refine leaves_cons (f:=73) (args:=#[.pointer (some ⟨b,off + 1,none⟩)]) (by simp [settle]) (by simp [go_sem]) ?_
 refine (unlock_deferred ⟨b,off + 1,none⟩ _ _ ?_ (by simp [z1])).mono ?_
 ·refine (World.cell?_setCell_other _ ⟨b,off,none⟩ ⟨b,off + 1,none⟩ _ (by simp)).trans ?_
  rw [World.cell?_drew]
  exact c1
 rintro e u' w'' ⟨rfl,rfl,rfl⟩
 simp [Leaves,settle,results,Tryz.results66]
 exact ⟨w',hq,rfl⟩
theorem do_any (b off:Nat) (fv:Value) (w:World) (Q:World -> Prop) (g:Nat) (cap:Array Value) (hfv:fv = .func (.func g) cap #[]) {fn:Func} (hg:Tryz.prog.funcs[g]? = some fn) (hname:(fn.name == "runtime.NumGoroutine") = false) {c:Code} (hbody:fn.body = some c)
  (h0:w.cell? ⟨b,off,none⟩ = some (.int .u32 0)) (h1:w.cell? ⟨b,off + 1,none⟩ = some (.int .i32 0))
  (f0:w.frozen? ⟨b,off,none⟩ = false) (f1:w.frozen? ⟨b,off + 1,none⟩ = false)
  (hQ:Calls Tryz.prog g cap (w.setCell ⟨b,off + 1,none⟩ (.int .i32 1)) fun e w'=>e = .returned (.tuple #[]) /\ Q w' /\ w'.cell? ⟨b,off,none⟩ = some (.int .u32 0) /\ w'.cell? ⟨b,off + 1,none⟩ = some (.int .i32 1) /\ w'.frozen? ⟨b,off,none⟩ = false /\ w'.frozen? ⟨b,off + 1,none⟩ = false) :
  Calls Tryz.prog 43 #[.pointer (some ⟨b,off,none⟩),fv] w fun e w'=>e = .returned (.tuple #[]) /\ ∃ w1,Q w1 /\
   w' = (w1.drew.setCell ⟨b,off,none⟩ (.int .u32 1)).setCell ⟨b,off + 1,none⟩ (.int .i32 0):=by
 have hl:=run_call_load (P:=Tryz.prog) Tryz.func71 (by kernel_rfl) (by kernel_rfl) (by kernel_rfl) .u32 (by kernel_rfl) h0
 have hnot:∀ (x:Bool) (w:World),(Op.unary .not (.bool x)).run Tryz.prog w = .ok (.bool (!x)) w:=fun _ _=>rfl
 go_enter Tryz.func43,Tryz.ntmps43
 have hS:=slow_any b off fv w Q g cap hfv hg hname hbody h0 h1 f0 f1 hQ
 clear hfv hg hname hbody hQ
 go_wp2_with (first | (go_at_call 66; refine hS.mono ?_; rintro e w' ⟨rfl,w1,hw1,rfl⟩) | (go_at_call 65; go_in))
 go_end0
 exact ⟨rfl,w1,hw1,rfl⟩
end Go.Proofs.YtlhgheonlcjpaaaGreat.Sc
namespace Go.Vm
open Go
variable {P:Program} {T:List (Nat × Ty)} {ρ:Rho} {lab:Lab} {H:Hp} {w:World}
theorem Rel.drew {v:V} {x:Value} (h:Rel ρ lab w v x):Rel ρ lab w.drew v x:=by
 have E:Ext lab w lab w.drew:=⟨Nat.le_refl _,rfl,rfl,rfl,fun _ _ _ h=>h,fun _ _=>.rfl,fun _ _ _ _=>⟨rfl,rfl⟩,fun _ _ _=>rfl⟩
 exact h.ext E (.refl _)
theorem a8y:Ext lab w lab w.drew:=⟨Nat.le_refl _,rfl,rfl,rfl,fun _ _ _ h=>h,fun _ _=>.rfl,fun _ _ _ _=>⟨rfl,rfl⟩,fun _ _ _=>rfl⟩
theorem sim_drew (hS:Sim ρ lab H w):Sim ρ lab H w.drew:=by
 refine Sim.mk' (fun k o hk=>?_) hS.hdom hS.adom hS.ldom
 have h1:Z0 ρ lab w k o:=by
  cases o with
  | row cs=>exact hS.row k cs hk
  | grow e cs=>exact hS.grow k e cs hk
  | tip e n=>exact hS.tip k e n hk
  | gone=>trivial
 exact h1.carry a8y (.refl _) fun b p hc=>⟨⟨hc.lab,hc.free,hc.cell⟩,rfl⟩
theorem a8j {t:Nat} {k:IntKind} {n:Int} {b p:Nat} {u:Value} (hz:∀ w,(sizeOf t).run P w = .ok 1 w) (hc:w.cell? ⟨b,p,none⟩ = some u) (hf:w.frozen? ⟨b,p,none⟩ = false) :
  (Instr.storeAt t (.pointer (some ⟨b,p,none⟩)) (.int k n)).run P w = .ok () (w.setCell ⟨b,p,none⟩ (.int k n)):=by
 have:=run_storeCells_cells (P:=P) b p [.int k n] 0 w (fun j hj=>by
  have:j = 0:=by simpa using hj
  subst this; simp [hc]) (fun j hj=>by
  have:j = 0:=by simpa using hj
  subst this; simpa using hf) (fun j hj=>by
  have:j = .int k n:=by simpa using hj
  subst this; rfl)
 have hs:(Value.int k n).cells = #[.int k n]:=rfl
 simp only [Instr.storeAt,Instr.sureAddr,storeVar,Sem.run_bind,Sem.run_pure,Result.andThen_ok,hz,hs,List.size_toArray,List.length_singleton,ne_eq,not_true_eq_false,if_false]
 refine Eq.trans ?_ this
 simp
theorem a3y (hT:TOk P T) (hS:Sim ρ lab H w) {t:Nat} {y:Ty} (hy:D5 t T = some y) (h1:y.size = 1) {r off b p:Nat} {k:IntKind} {n:Int} {H':Hp} {u:Value}
  (hx:Rel ρ lab w (.ptr r off) (.pointer (some ⟨b,p,none⟩))) (hc:w.cell? ⟨b,p,none⟩ = some u) (hf:w.frozen? ⟨b,p,none⟩ = false) (h:V3 T t (.ptr r off) (.int k n) H = some H') :
  Sim ρ lab H' (w.setCell ⟨b,p,none⟩ (.int k n)) /\ Ext lab w lab (w.setCell ⟨b,p,none⟩ (.int k n)):=by
 obtain ⟨w',g1,g2,g3⟩:=a7t hT hS hx (.int k n) h
 have hz:∀ w,(sizeOf t).run P w = .ok 1 w:=fun w=>by
  have:=H6 (hT t y hy) w
  rwa [h1] at this
 rw [a8j hz hc hf] at g1
 cases g1
 exact ⟨g2,g3⟩
theorem a2l {t:Nat} {v:V} {r off:Nat} {H':Hp} (hc:Canon 0 H) (h:V3 T t (.ptr r off) v H = some H'):Canon 0 H' /\ H'.length = H.length:=by
 unfold V3 at h
 split at h
 ·rename_i y r off hy he
  cases he
  split at h
  ·split at h
   ·rename_i cs hg
    unfold gd at h
    split at h
    ·cases h; exact a1P hc (by rw [hg]; simp)
    ·cases h
   ·rename_i e cs hg
    split at h
    ·unfold gd at h
     split at h
     ·cases h; exact a1P hc (by rw [hg]; simp)
     ·cases h
    ·cases h
   ·cases h
  ·cases h
 ·cases h
end Go.Vm
namespace Go.Proofs.YtlhgheonlcjpaaaGreat.Sc
open Go Go.Vm
def OT:List (Nat × Ty):=[(21,⟨.int .i32,1,4,[.int .i32 0]⟩),(77,⟨.int .u32,1,4,[.int .u32 0]⟩)]
theorem otOk:TOk Tryz.prog OT:=a4m (by kernel_rfl)
def doPre:List V -> Hp -> Option (Nat × List V × Hp):=fun args H=>match args with
 | [.ptr r off,.func (.func g) cap []]=>match hget r H with
  | some (.row cs)=>match cs[off]?,cs[off + 1]?,V3 OT 21 (.ptr r (off + 1)) (.int .i32 1) H with
   | some (.int .u32 0),some (.int .i32 0),some H'=>gd (Nat.beq g 44) (some (g,cap,H'))
   | _,_,_=>none
  | _=>none
 | _=>none
def a9w:List V -> Hp -> Out -> Option Out:=fun args H o=>match args,o with
 | [.ptr r off,.func (.func g) cap []],.ret (.tuple []) H1=>match hget r H1 with
  | some (.row cs)=>match cs[off]?,cs[off + 1]?,V3 OT 77 (.ptr r off) (.int .u32 1) H1 with
   | some (.int .u32 0),some (.int .i32 1),some H2=>match V3 OT 21 (.ptr r (off + 1)) (.int .i32 0) H2 with
    | some H3=>some (.ret (.tuple []) H3)
    | none=>none
   | _,_,_=>none
  | _=>none
 | _,_=>none
theorem do_via:ViaOk Tryz.prog 43 doPre a9w:=by
 refine ⟨fun args H g' l H' o out hp ho ρ lab w xs hc hS hx hcall=>?_,⟨_,_,Tryz.func43,rfl,rfl⟩⟩
 unfold doPre at hp
 split at hp
 ·rename_i args0 r off g cap
  split at hp
  ·rename_i cs hg
   split at hp
   ·rename_i e0 e1 H1 c0 c1 hst
    unfold gd at hp
    split at hp
    ·rename_i hb
     cases hp
     have hb:=Nat.eq_of_beq_eq_true hb
     obtain ⟨b,o1,zs,a1,a2,a3⟩:=hS.row r cs hg
     obtain ⟨x1,xr0,rfl,r1,r2⟩:=o7.1 hx
     obtain ⟨x2,xr,rfl,r3,r4⟩:=o7.1 r2
     have:xr = []:=by have:=r4.1; simpa using this
     subst this
     cases r3 with
     | func _ _ _ us ys u1 u2 u3 u4 =>
     have:ys = []:=by simpa using u2
     subst this
     have hp1:x1 = .pointer (some ⟨b,o1 + off,none⟩):=by
      cases r1 with
      | ptr _ _ b' o' c' h=>rw [a1] at h; cases h; rfl
     subst hp1
     have cell:∀ {ρ:Rho} {lab:Lab} {w:World} {H:Hp} {cs:List V} {b o1 i:Nat} {k:IntKind} {n:Int},Sim ρ lab H w -> hget r H = some (.row cs) -> ρ.at_ r = some (some (b,o1),none) -> cs[i]? = some (.int k n) -> w.cell? ⟨b,o1 + i,none⟩ = some (.int k n) /\ w.frozen? ⟨b,o1 + i,none⟩ = false:=by
      intro ρ lab w H cs b o1 i k n hS hg ha hi
      obtain ⟨b2,o2,zs,a1,a2,a3⟩:=hS.row r cs hg
      rw [ha] at a1
      cases a1
      have hl:i < zs.length:=by
       rw [a2.1]
       rcases Nat.lt_or_ge i cs.length with h | h
       ·exact h
       ·rw [List.getElem?_eq_none h] at hi; cases hi
      have hz:zs[i]? = some zs[i]:=by simp [hl]
      have hr:=a2.2 i _ _ hi hz
      obtain ⟨q1,q2⟩:=a3 i _ hz
      have:zs[i] = .int k n:=by
       generalize zs[i] = z at hr
       cases hr; rfl
      rw [this] at q2
      exact ⟨q2,q1.free⟩
     obtain ⟨m0,f0⟩:=cell hS hg a1 c0
     obtain ⟨m1,f1⟩:=cell hS hg a1 c1
     obtain ⟨t1,t2⟩:=a3y otOk hS (y:=⟨.int .i32,1,4,[.int .i32 0]⟩) (by kernel_rfl) rfl (.ptr r (off + 1) b o1 none a1) m1 f1 hst
     obtain ⟨cn1,ln1⟩:=a2l hc hst
     have cap':p8 ρ lab (w.setCell ⟨b,o1 + (off + 1),none⟩ (.int .i32 1)) _ us:=p8.ext t2 (.refl _) ⟨u1,u3⟩
     have hK:=hcall ρ lab _ us cn1 t1 cap'
     unfold a9w at ho
     split at ho
     ·rename_i r' off' g' cap2 H2 hargs
      cases hargs
      split at ho
      ·rename_i cs1 hg1
       split at ho
       ·rename_i e2 e3 H3 d0 d1 hst2
        split at ho
        ·rename_i H4 hst3
         cases ho
         have hD:=fun hq=>do_any b (o1 + off) (.func (.func 44) us.toArray #[]) w (fun w'=>∃ ρ' lab',Sim ρ' lab' H2 w' /\ Ext lab (w.setCell ⟨b,o1 + (off + 1),none⟩ (.int .i32 1)) lab' w' /\ K9 H'.length ρ ρ' /\ Canon 0 H2 /\ H'.length <= H2.length) 44 us.toArray rfl Tryz.func44 rfl rfl m0 m1 f0 f1 hq
         subst hb
         refine (hD ?_).mono ?_
         ·refine hK.mono ?_
          intro e w' hP
          cases e with
          | returned x =>
           obtain ⟨ρ',lab',s1,s2,s3,s4,s5,s6⟩:=hP
           have hx0:x = .tuple #[]:=by
            cases s4 with
            | tuple _ zs h1 h2 =>
             have:zs = []:=by simpa using h1
             subst this; rfl
           have hr:r < H'.length:=by
            have:=N8 hc r _ hg
            omega
           have ha1:=s3.at_ r _ hr a1
           obtain ⟨n0,k0⟩:=cell s1 hg1 ha1 d0
           obtain ⟨n1,k1⟩:=cell s1 hg1 ha1 d1
           exact ⟨by rw [hx0],⟨ρ',lab',s1,s2,s3,s5,s6⟩,n0,n1,k0,k1⟩
          | _=>exact hP.elim
         ·rintro e w' ⟨rfl,w1,⟨ρ',lab',s1,s2,s3,s4,s5⟩,rfl⟩
          have hr:r < H'.length:=by
           have:=N8 hc r _ hg
           omega
          have ha1:=s3.at_ r _ hr a1
          obtain ⟨n0,k0⟩:=cell s1 hg1 ha1 d0
          obtain ⟨p1,p2⟩:=a3y otOk (sim_drew s1) (y:=⟨.int .u32,1,4,[.int .u32 0]⟩) (by kernel_rfl) rfl (.ptr r off b o1 none ha1) n0 k0 hst2
          obtain ⟨cn2,ln2⟩:=a2l s4 hst2
          obtain ⟨n1,k1⟩:=cell s1 hg1 ha1 d1
          have hne:(⟨b,o1 + off,none⟩:Addr) ≠ ⟨b,o1 + (off + 1),none⟩:=by simp
          have q1:(w1.drew.setCell ⟨b,o1 + off,none⟩ (.int .u32 1)).cell? ⟨b,o1 + (off + 1),none⟩ = some (.int .i32 1):=(World.cell?_setCell_other _ _ _ _ hne).trans n1
          have q2:(w1.drew.setCell ⟨b,o1 + off,none⟩ (.int .u32 1)).frozen? ⟨b,o1 + (off + 1),none⟩ = false:=by simp [k1]
          obtain ⟨p3,p4⟩:=a3y otOk p1 (y:=⟨.int .i32,1,4,[.int .i32 0]⟩) (by kernel_rfl) rfl (.ptr r (off + 1) b o1 none ha1) q1 q2 hst3
          obtain ⟨cn3,ln3⟩:=a2l cn2 hst3
          refine ⟨ρ',lab',p3,t2.trans (s2.trans (a8y.trans (p2.trans p4))),?_,.tuple [] [] rfl (by simp),cn3,by omega⟩
          rw [<- ln1]
          exact s3
        ·cases ho
       ·cases ho
      ·cases ho
     ·cases ho
    ·cases hp
   ·cases hp
  ·cases hp
 ·cases hp
end Go.Proofs.YtlhgheonlcjpaaaGreat.Sc
namespace Go.Proofs
open Go.Shelf
def Tryz.a8E:Go.Shelf.Ren:=⟨fun | 138=>128 | 195=>129 | 218=>130 | 143=>131 | 219=>132 | 217=>133 | 225=>134 | 224=>135 | 267=>136 | 266=>137 | 314=>138 | n=>n,fun | 9=>9 | 3=>3 | 4=>4 | 5=>5 | 0=>0 | 46=>147 | 146=>181 | 51=>77 | n=>n,fun | 1=>0 | n=>n⟩
theorem Tryz.lays138:Go.Proofs.Lays.n138 Tryz.prog Tryz.a8E:={
 mixed:=by kernel_rfl
 f138:=Tryz.func128.trans (congrArg some (by kernel_rfl))
 f143:=Tryz.func131.trans (congrArg some (by kernel_rfl))
 f195:=Tryz.func129.trans (congrArg some (by kernel_rfl))
 f217:=Tryz.func133.trans (congrArg some (by kernel_rfl))
 f218:=Tryz.func130.trans (congrArg some (by kernel_rfl))
 f219:=Tryz.func132.trans (congrArg some (by kernel_rfl))
 f224:=Tryz.func135.trans (congrArg some (by kernel_rfl))
 f225:=Tryz.func134.trans (congrArg some (by kernel_rfl))
 f266:=Tryz.func137.trans (congrArg some (by kernel_rfl))
 f267:=Tryz.func136.trans (congrArg some (by kernel_rfl))
 f314:=Tryz.func138.trans (congrArg some (by kernel_rfl))
 t0:=Tryz.underlying0
 a0:=Tryz.isAgg0
 z0:=Tryz.sizeOf0
 v0:=Tryz.zeroValue0
 t3:=Tryz.underlying3
 a3:=Tryz.isAgg3
 z3:=Tryz.sizeOf3
 v3:=Tryz.zeroValue3
 t4:=Tryz.underlying4
 a4:=Tryz.isAgg4
 z4:=Tryz.sizeOf4
 v4:=Tryz.zeroValue4
 t5:=Tryz.underlying5
 a5:=Tryz.isAgg5
 z5:=Tryz.sizeOf5
 v5:=Tryz.zeroValue5
 t9:=Tryz.underlying9
 a9:=Tryz.isAgg9
 z9:=Tryz.sizeOf9
 v9:=Tryz.zeroValue9
 t46:=Tryz.underlying147
 a46:=Tryz.isAgg147
 z46:=Tryz.sizeOf147
 v46:=Tryz.zeroValue147
 t51:=Tryz.underlying77
 a51:=Tryz.isAgg77
 z51:=Tryz.sizeOf77
 v51:=Tryz.zeroValue77
 t146:=Tryz.underlying181
 a146:=Tryz.isAgg181
 z146:=Tryz.sizeOf181
 v146:=Tryz.zeroValue181
 g1:=by kernel_rfl }
open Go.RowKit Go.Lib in
theorem Tryz.strings_Count_one (s:ByteArray) (c:UInt8) (w:World) :
  Calls Tryz.prog 128 #[.string s,.string ⟨#[c]⟩] w fun e w'=>e = .returned (.int .i64 (Lib.countByte s.data.toList c)) /\ w' = w:=Any.strings_Count_one Tryz.lays138 s c w
end Go.Proofs
namespace Go.Proofs.YtlhgheonlcjpaaaGreat.Rp
open Go Go.Vm
def T:List (Nat × Ty):=[
 (1,⟨.func,1,8,[.nilFunc]⟩),
 (3,⟨.int .i64,1,8,[.int .i64 0]⟩),
 (4,⟨.bool,1,1,[.bool false]⟩),
 (5,⟨.int .u8,1,1,[.int .u8 0]⟩),
 (9,⟨.string,1,16,[.str []]⟩),
 (21,⟨.int .i32,1,4,[.int .i32 0]⟩),
 (40,⟨.slice 9,1,24,[.slice .nil 0 []]⟩),
 (49,⟨.ptr 89,1,8,[.nilptr]⟩),
 (51,⟨.slice 5,1,24,[.slice .nil 0 []]⟩),
 (75,⟨.blk [],0,0,[]⟩),
 (76,⟨.blk [],0,0,[]⟩),
 (77,⟨.int .u32,1,4,[.int .u32 0]⟩),
 (79,⟨.blk [(76,0),(77,0)],1,4,[.int .u32 0]⟩),
 (81,⟨.blk [(21,0),(77,1)],2,8,[.int .i32 0,.int .u32 0]⟩),
 (83,⟨.blk [(75,0),(81,0)],2,8,[.int .i32 0,.int .u32 0]⟩),
 (85,⟨.blk [(75,0),(79,0),(83,1)],3,12,[.int .u32 0,.int .i32 0,.int .u32 0]⟩),
 (87,⟨.iface,1,16,[.nilIface]⟩),
 (89,⟨.blk [(85,0),(87,3),(40,4)],5,56,[.int .u32 0,.int .i32 0,.int .u32 0,.nilIface,.slice .nil 0 []]⟩),
 (111,⟨.ptr 128,1,8,[.nilptr]⟩),
 (113,⟨.ptr 134,1,8,[.nilptr]⟩),
 (116,⟨.array 256 5,256,256,List.replicate 256 (.int .u8 0)⟩),
 (117,⟨.ptr 116,1,8,[.nilptr]⟩),
 (118,⟨.array 256 51,256,6144,List.replicate 256 (.slice .nil 0 [])⟩),
 (120,⟨.blk [(118,0),(40,256)],257,6168,List.replicate 256 (.slice .nil 0 []) ++ [.slice .nil 0 []]⟩),
 (121,⟨.ptr 120,1,8,[.nilptr]⟩)]
theorem tys:tysB Tryz.prog T = true:=by kernel_rfl
theorem mixed:Tryz.prog.follows .mixedOrders = true:=by kernel_rfl
def keep:Nat -> Nat -> List Nat
 | 67,6=>[3,4,5]
 | 67,15=>[3,6,61]
 | 67,20=>[3,6,8]
 | 67,28=>[3,11,12]
 | 126,5=>[0,1,5,6,30,31,32]
 | 126,13=>[0,1,5,6,10]
 | 126,24=>[0,1,12,13,14]
 | 126,100032=>[12]
 | _,_=>[]
def a7K:List V -> Hp -> Option Out:=fun args H=>match args with
 | [.str s,.str [c]]=>some (.ret (.int .i64 ((s.count c:Nat):Int)) H)
 | _=>none
theorem b0O:a4p Tryz.prog 128 a7K:=by
 refine ⟨fun args H out h ρ lab w xs hc hS hx=>?_,⟨_,_,Tryz.func128,rfl,rfl⟩⟩
 unfold a7K at h
 split at h
 ·rename_i s c
  cases h
  obtain ⟨x1,r1,rfl,h1,h2⟩:=o7.1 hx
  obtain ⟨x2,r2,rfl,h3,h4⟩:=o7.1 h2
  have:r2 = []:=by have:=h4.1; simpa using this
  subst this
  cases h1
  cases h3
  refine (Tryz.strings_Count_one ⟨⟨s⟩⟩ c w).mono fun e w' ⟨he,hw⟩=>?_
  subst he; subst hw
  exact ⟨ρ,lab,hS,Ext.refl _ _,⟨fun _ _ _ h=>h,fun _ _ _ _ h=>h⟩,.int _ _,hc,Nat.le_refl _⟩
 ·cases h
def okL:List Nat:=[16,23,24,44,67,126]
def a6g:List Nat:=[128,16]
def a5N:Nat -> Option Hand
 | 43=>some (.via Sc.doPre Sc.a9w)
 | 128=>some (.plain a7K)
 | _=>none
noncomputable def env:Env:={ P:=Tryz.prog,T:=T,keep:=keep,byref:=fun _ _=>none,meth:=fun t s=>match t,s with | 121,"Replace"=>some 126 | _,_=>none,tags:=fun _=>false,argTags:=fun _=>false,quiet:=fun g=>has g a6g,loose:=fun _=>false,ok:=fun g=>has g okL,cut:=fun f c=>Nat.beq f 126 && Nat.beq c 32,ice:=fun f l=>match f,l with | 126,100032=>some 12 | _,_=>none,intr:=a5N }
theorem codes:a5D env okL = true:=by kernel_rfl
theorem methOk:a2i env:=by
 intro t name g h
 simp only [env] at h
 split at h
 ·cases h; exact (by kernel_rfl:methB Tryz.prog 121 "Replace" 126 = true)
 ·cases h
theorem a6O:a2h env:=⟨methOk,a4m tys,mixed,a4u (fun _ h=>h) codes,(fun g h hg=>by simp only [env,a5N] at hg; split at hg <;> first | (cases hg; done) | (cases hg; exact b0O)),(fun g pre post hg=>by simp only [env,a5N] at hg; split at hg <;> first | (cases hg; done) | (cases hg; exact Sc.do_via))⟩
def pairs:List V:=[.str [10],.str [92,110],.str [9],.str [92,116],.str [92],.str [92,92],.str [34],.str [92,34]]
def cell (b:Nat):V:=match b with
 | 10=>.slice .sealed 2 [.int .u8 92,.int .u8 110]
 | 9=>.slice .sealed 2 [.int .u8 92,.int .u8 116]
 | 92=>.slice .sealed 2 [.int .u8 92,.int .u8 92]
 | 34=>.slice .sealed 2 [.int .u8 92,.int .u8 34]
 | _=>.slice .nil 0 []
def RR:List V:=(List.range 256).map cell ++ [.rslice 1 0 4 true]
def TR:List V:=[.str [34],.str [92],.str [9],.str [10]]
theorem nr_E:E env (.call 23 [.slice .sealed 8 pairs]) [] = some (.ret (.ptr 0 0) [(0,.row [.int .u32 0,.int .i32 0,.int .u32 0,.nilIface,.slice (.tag 1) 8 pairs]),(1,.tip 1 8)]):=(Q6 env).le 9 _ _ _ (by kernel_rfl)
theorem bu_E:E env (.call 44 [.ptr 0 0]) [(0,.row [.int .u32 0,.int .i32 1,.int .u32 0,.nilIface,.slice (.tag 1) 8 pairs]),(1,.tip 1 8)] = some (.ret (.tuple []) [(0,.row [.int .u32 0,.int .i32 1,.int .u32 0,.iface 121 (.ptr 2 0),.slice .nil 0 []]),(1,.tip 1 8),(2,.row ((List.range 256).map cell ++ [.rslice 3 0 4 true])),(3,.grow 1 TR)]):=(Q6 env).le 40 _ _ _ (by kernel_rfl)
end Go.Proofs.YtlhgheonlcjpaaaGreat.Rp
namespace Go.Proofs.YtlhgheonlcjpaaaGreat.Rp
open Go Go.Vm
def X6 (b:UInt8):List UInt8:=if b = 10 then [92,110] else if b = 9 then [92,116] else if b = 92 then [92,92] else if b = 34 then [92,34] else [b]
def esc (s:List UInt8):List UInt8:=s.flatMap X6
def cn (s:List UInt8):Nat -> Nat
 | 0=>0
 | 1=>s.count 34
 | 2=>s.count 34 + s.count 92
 | 3=>s.count 34 + s.count 92 + s.count 9
 | _=>s.count 34 + s.count 92 + s.count 9 + s.count 10
theorem U4 (b:UInt8) (s:List UInt8):esc (b :: s) = X6 b ++ esc s:=by simp [esc]
theorem b0m (a b:List UInt8):esc (a ++ b) = esc a ++ esc b:=by simp [esc]
theorem a9s {b:UInt8} (h1:b ≠ 10) (h2:b ≠ 9) (h3:b ≠ 92) (h4:b ≠ 34):cell b.toNat = .slice .nil 0 []:=by
 have k1:b.toNat ≠ 10:=fun h=>h1 (UInt8.toNat_inj.1 h)
 have k2:b.toNat ≠ 9:=fun h=>h2 (UInt8.toNat_inj.1 h)
 have k3:b.toNat ≠ 92:=fun h=>h3 (UInt8.toNat_inj.1 h)
 have k4:b.toNat ≠ 34:=fun h=>h4 (UInt8.toNat_inj.1 h)
 unfold cell
 split <;> first | contradiction | rfl
theorem a0O (b:UInt8):(∃ c:UInt8,cell b.toNat = .slice .sealed 2 [.int .u8 92,.int .u8 ((c.toNat:Nat):Int)] /\ X6 b = [92,c]) ∨ (cell b.toNat = .slice .nil 0 [] /\ X6 b = [b]):=by
 by_cases h1:b = 10
 ·subst h1; exact .inl ⟨110,rfl,rfl⟩
 by_cases h2:b = 9
 ·subst h2; exact .inl ⟨116,rfl,rfl⟩
 by_cases h3:b = 92
 ·subst h3; exact .inl ⟨92,rfl,rfl⟩
 by_cases h4:b = 34
 ·subst h4; exact .inl ⟨34,rfl,rfl⟩
 exact .inr ⟨a9s h1 h2 h3 h4,by simp only [X6,if_neg h1,if_neg h2,if_neg h3,if_neg h4]⟩
theorem a5F (b:UInt8):1 <= (X6 b).length /\ (X6 b).length <= 2:=by
 rcases a0O b with ⟨c,_,h⟩ | ⟨_,h⟩ <;> rw [h] <;> simp
theorem a7L:∀ s,s.length <= (esc s).length
 | []=>Nat.le_refl _
 | b :: s=>by have:=a7L s; have:=a5F b; rw [U4,List.length_append,List.length_cons]; omega
theorem a1S:∀ s,(esc s).length <= 2 * s.length
 | []=>Nat.le_refl _
 | b :: s=>by have:=a1S s; have:=a5F b; rw [U4,List.length_append,List.length_cons]; omega
theorem a7M:∀ s,(esc s).length = s.length + (s.count 34 + s.count 92 + s.count 9 + s.count 10)
 | []=>rfl
 | b :: s=>by
  have ih:=a7M s
  rw [U4,List.length_append,ih]
  simp only [List.count_cons,List.length_cons]
  by_cases h1:b = 10
  ·subst h1; simp [X6]; omega
  by_cases h2:b = 9
  ·subst h2; simp [X6]; omega
  by_cases h3:b = 92
  ·subst h3; simp [X6]; omega
  by_cases h4:b = 34
  ·subst h4; simp [X6]; omega
  simp [X6,h1,h2,h3,h4]; omega
theorem a5G:∀ {s:List UInt8},¬ s.length < (esc s).length -> esc s = s
 | [],_=>rfl
 | b :: s,h=>by
  have h0:=a7L s
  have h1:=a5F b
  rw [U4,List.length_append,List.length_cons] at h
  rcases a0O b with ⟨c,_,he⟩ | ⟨_,he⟩
  ·rw [he] at h; simp at h; omega
  ·rw [U4,he,a5G (s:=s) (by rw [he] at h; simp at h; omega)]; rfl
theorem a2p {s:List UInt8} {i:Nat} (h:i < s.length):esc (s.take (i + 1)) = esc (s.take i) ++ X6 (s.getD i 0):=by
 rw [List.take_succ_eq_append_getElem h,b0m]
 congr 1
 simp [esc,h]
theorem a2K (s:List UInt8) (i:Nat):(esc (s.take i)).length <= (esc s).length:=by
 conv=>rhs; rw [<- List.take_append_drop i s,b0m,List.length_append]
 omega
theorem cn_le (s:List UInt8):∀ k,cn s k <= 4 * s.length:=by
 have a:=List.count_le_length (a:=(34:UInt8)) (l:=s)
 have b:=List.count_le_length (a:=(92:UInt8)) (l:=s)
 have c:=List.count_le_length (a:=(9:UInt8)) (l:=s)
 have d:=List.count_le_length (a:=(10:UInt8)) (l:=s)
 intro k
 unfold cn
 split <;> omega
theorem RR_get (b:UInt8):RR[b.toNat]? = some (cell b.toNat):=by
 have:=UInt8.toNat_lt b
 unfold RR
 rw [List.getElem?_append_left (by simp; omega),List.getElem?_map,List.getElem?_range (by omega)]
 rfl
theorem RR_256:RR[256]? = some (.rslice 1 0 4 true):=by kernel_rfl
theorem a1w (b:UInt8) {off:Nat} {H:Hp} (ho:off = b.toNat):O9 env.T 51 (.ptr 0 off) ((0,.row RR) :: H) = some (cell b.toNat):=by
 subst ho
 exact RR_get b
theorem ld_TL {H:Hp}:O9 env.T 40 (.ptr 0 (0 + 256)) ((0,.row RR) :: H) = some (.rslice 1 0 4 true):=RR_256
theorem ct_E (s:List UInt8) (c:UInt8):E env (.call 128 [.str s,.str [c]]) [] = some (.ret (.int .i64 ((s.count c:Nat):Int)) []):=a7C (h:=a7K) rfl rfl
theorem mul1 {a:Nat} (h:a < 9223372036854775808):P8 (some (.int .i64 (IntKind.wrap .i64 ((a:Int) * 1)))) = some (.int .i64 (a:Nat)):=by
 rw [Int.mul_one,wrap64 (by omega) (by omega)]; rfl
theorem addE {j k m:Nat} (h:m = j + k) (hb:j + k < 9223372036854775808):P8 (some (.int .i64 (IntKind.wrap .i64 ((j:Int) + (k:Int))))) = some (.int .i64 (m:Nat)):=by
 rw [h]; exact addN hb
theorem a9J (n:Nat) {m:Nat} {x:Option V} (h:x = match gd (ltB 0 ((m + 1:Nat):Int)) (some false) with | some b=>some (.bool (!b)) | none=>none):P8 x = some (.bool true):=by
 rw [h]
 have:ltB 0 ((m + 1:Nat):Int) = true:=by simp only [ltB,decide_eq_true_eq]; omega
 rw [this]; rfl
theorem a7l {env:Env} {orc:Orc} {ops:Array Oper} {o:Oper} {rest:List Oper} {fr:Fr} {H H1:Hp} {K:Res -> Prop} {t:Nat} {a b:Operand} {x v:V} (hw:o8 ops o fr = some true) (ho:o.op = .store t a b) (ha:ev fr a = some x) (hb:ev fr b = some v) (hs:V3 env.T t x v H = some H1) (h:Go.Vm.Os env orc ops rest (H8 o.dst .undef fr) H1 K):Go.Vm.Os env orc ops (o :: rest) fr H K:=by
 refine U1 hw (by rw [ho]; rfl) (v:=.undef) (H1:=H1) ?_ h
 unfold E8
 rw [ho]
 simp only [ha,hb,hs]
def BUF (s:List UInt8) (i:Nat):List V:=G7 (esc (s.take i)) ++ List.replicate ((esc s).length - (esc (s.take i)).length) (.int .u8 0)
theorem b0b (s:List UInt8) (i:Nat):(BUF s i).length = (esc s).length:=by
 have:=a2K s i
 simp only [BUF,List.length_append,G7,List.length_map,List.length_replicate]; omega
theorem set_mid {α:Type} (a new:List α) (z:α) {n:Nat} (h:new.length <= n):(a ++ List.replicate n z).take a.length ++ new ++ (a ++ List.replicate n z).drop (a.length + new.length) = a ++ new ++ List.replicate (n - new.length) z:=by
 rw [List.take_left,List.drop_append,List.drop_eq_nil_of_le (by omega),List.nil_append,List.drop_replicate]
 congr 2; omega
theorem b0d {s:List UInt8} {i:Nat} (h:i < s.length) {b:UInt8} (hb:s.getD i 0 = b) {news:List V} (hn:news = G7 (X6 b)) {off:Nat} (ho:off = (esc (s.take i)).length):w9 (BUF s i) off news = BUF s (i + 1):=by
 have h1:=a2p h
 rw [hb] at h1
 have h2:=a2K s (i + 1)
 rw [h1,List.length_append] at h2
 have h3:(esc (s.take i)).length = (G7 (esc (s.take i))).length:=by simp [G7]
 have h4:news.length = (X6 b).length:=by rw [hn]; simp [G7]
 subst ho
 unfold w9 BUF
 rw [h3,set_mid _ _ _ (by omega),hn,h1]
 simp only [G7,List.map_append,List.length_append,List.length_map]
 congr 2
 omega
theorem b0e {s:List UInt8} {i:Nat} (h:i < s.length) {b c:UInt8} (hb:s.getD i 0 = b) (he:X6 b = [92,c]):w9 (BUF s i) (0 + (esc (s.take i)).length * 1) [.int .u8 92,.int .u8 ((c.toNat:Nat):Int)] = BUF s (i + 1):=b0d h hb (by rw [he]; rfl) (by omega)
theorem b0c {s:List UInt8} {i:Nat} (h:i < s.length) {b:UInt8} (hb:s.getD i 0 = b) (he:X6 b = [b]):w9 (BUF s i) (0 + (esc (s.take i)).length * 1) [.int .u8 ((b.toNat:Nat):Int)] = BUF s (i + 1):=b0d h hb (by rw [he]; rfl) (by omega)
theorem cp_ok {j n:Nat} {cs B:List V} {a b:V} {G:Hp} (hG:G = [(0,.row RR),(1,.grow 1 TR),(2,.grow 1 cs)]) (h1:2 <= n) (h2:j + 2 <= cs.length) (hB:w9 cs (0 + j * 1) [a,b] = B) :
    a7w env.T 51 (.rslice 2 (0 + j * 1) n false) (.slice .sealed 2 [a,b]) G = some (.val (.int .i64 ((2:Nat):Int)) [(0,.row RR),(1,.grow 1 TR),(2,.grow 1 B)]):=by
  subst hG
  have e:a7w env.T 51 (.rslice 2 (0 + j * 1) n false) (.slice .sealed 2 [a,b]) [(0,.row RR),(1,.grow 1 TR),(2,.grow 1 cs)] = (match gd (eqN (2 * 1) [a,b].length) (some (2,[a,b])) with
    | some (m,news)=>(match Nat.beq m 0 with
        | true=>some (OpR.val (.int .i64 0) [(0,.row RR),(1,.grow 1 TR),(2,.grow 1 cs)])
        | false=>gd (leN m n && leN (0 + j * 1 + m * 1) cs.length) (some (.val (.int .i64 (m:Int)) [(0,.row RR),(1,.grow 1 TR),(2,.grow 1 (w9 cs (0 + j * 1) news))])))
    | none=>none):=by kernel_rfl
  rw [e,J4 (show 2 * 1 = [a,b].length from rfl)]
  simp only [gd]
  rw [a1X h1,a1X (show 0 + j * 1 + 2 * 1 <= cs.length by omega),hB]
  rfl
theorem st_ok {j:Nat} {cs B:List V} {b:Nat} {G:Hp} (hG:G = [(0,.row RR),(1,.grow 1 TR),(2,.grow 1 cs)]) (h2:j + 1 <= cs.length) (hB:w9 cs (0 + j * 1) [.int .u8 (b:Int)] = B) :
  V3 env.T 5 (.ptr 2 (0 + j * 1)) (.int .u8 (b:Int)) G = some [(0,.row RR),(1,.grow 1 TR),(2,.grow 1 B)]:=by
 subst hG
 have e:V3 env.T 5 (.ptr 2 (0 + j * 1)) (.int .u8 (b:Int)) [(0,.row RR),(1,.grow 1 TR),(2,.grow 1 cs)] = gd (leN (0 + j * 1 + 1) cs.length) (some [(0,.row RR),(1,.grow 1 TR),(2,.grow 1 (w9 cs (0 + j * 1) [.int .u8 (b:Int)]))]):=by kernel_rfl
 rw [e,a1X (by omega),hB]
 rfl
theorem mk_ok (n:Nat) (hn:n <= 4000000) {G:Hp} (hG:G = [(0,.row RR),(1,.grow 1 TR)]):a7y env.T 51 (.int .i64 (n:Int)) (.int .i64 (n:Int)) G 5504 = some (.val (.rslice 5504 0 n true) [(0,.row RR),(1,.grow 1 TR),(5504,.grow 1 (List.replicate n (.int .u8 0)))]):=by
 subst hG
 have e:a7y env.T 51 (.int .i64 (n:Int)) (.int .i64 (n:Int)) [(0,.row RR),(1,.grow 1 TR)] 5504 = gd (leB 0 (n:Int) && leB (n:Int) (n:Int) && leB ((n:Int) * ((1:Nat) + 1:Nat)) 70368744177664) (some (.val (.rslice 5504 0 n true) [(0,.row RR),(1,.grow 1 TR),(5504,.grow 1 (List.replicate n [.int .u8 0]).flatten)])):=by kernel_rfl
 rw [e]
 have h1:(leB 0 (n:Int) && leB (n:Int) (n:Int) && leB ((n:Int) * ((1:Nat) + 1:Nat)) 70368744177664) = true:=by simp only [leB,Bool.and_eq_true,decide_eq_true_eq]; omega
 rw [h1]
 have h2:(List.replicate n [V.int .u8 0]).flatten = List.replicate n (.int .u8 0):=by
  induction n with
  | zero=>rfl
  | succ n ih=>rw [List.replicate_succ,List.flatten_cons,List.replicate_succ]; simp [List.flatten_replicate_singleton]
 rw [h2]
 rfl
theorem cv_ok (s:List UInt8):a5f env.T 51 9 (.slice .sealed (esc s).length ((BUF s s.length).take ((esc s).length * 1))) = some (.str (esc s)):=by
 have e:(BUF s s.length).take ((esc s).length * 1) = G7 (esc s):=by
  unfold BUF
  rw [List.take_length,Nat.sub_self,List.replicate_zero,List.append_nil,Nat.mul_one]
  exact List.take_of_length_le (by simp [G7])
 rw [e]
 have e2:a5f env.T 51 9 (.slice .sealed (esc s).length (G7 (esc s))) = (match V8 (G7 (esc s)) with | some l=>gd (eqN (esc s).length l.length) (some (.str l)) | none=>none):=by kernel_rfl
 rw [e2,a3C]
 simp only [J4 rfl,gd]
theorem bs_E (s:List UInt8) (hs:s.length <= 1000000):E env (.call 126 [.ptr 0 0,.str s]) [(0,.row RR),(1,.grow 1 TR)] = some (.ret (.str (esc s)) [(0,.row RR),(1,.grow 1 TR)]):=by
 refine y7 (env:=env) rfl Tryz.func126 rfl rfl ?_
 refine j4 ?_
 refine j3 ?_
 refine d9 rfl rfl rfl ?_
 refine o5 ?_
 refine j4 ?_
 refine j3 ?_
 refine d9 rfl rfl rfl ?_
 refine d9 rfl rfl rfl ?_
 refine d9 rfl rfl rfl ?_
 refine o5 ?_
 refine j4 ?_
 refine j3 ?_
 refine d9 rfl rfl rfl ?_
 refine o5 ?_
 refine j4 ?_
 refine j4 ?_
 refine j3 ?_
 refine d9 rfl rfl rfl ?_
 refine d9 rfl rfl rfl ?_
 refine d9 rfl rfl rfl ?_
 refine F5 rfl rfl rfl (v:=.rslice 1 0 4 true) ld_TL ?_
 refine d9 rfl rfl rfl ?_
 refine d9 rfl rfl rfl ?_
 refine d9 rfl rfl rfl ?_
 refine d9 rfl rfl rfl ?_
 refine d9 rfl rfl rfl ?_
 refine o5 ?_
 refine q8 rfl (fun g26=>?_) (fun g26=>?_)
 ·refine j4 ?_
  refine j3 ?_
  refine d9 rfl rfl rfl ?_
  refine d9 rfl rfl rfl ?_
  refine d9 rfl rfl rfl ?_
  refine F5 rfl rfl rfl (v:=.rslice 1 0 4 true) ld_TL ?_
  refine d9 rfl rfl rfl ?_
  refine d9 rfl rfl rfl ?_
  refine o5 ?_
  refine o9 ?_
  refine J9 (fr1:=[(0,.ptr 0 0),(1,.str s),(5,.int .i64 ((s.length:Nat):Int)),(6,.bool false),(30,.rslice 1 0 4 true),(31,.int .i64 4),(32,.int .i64 ((0:Nat):Int))]) (H1:=[(0,.row RR),(1,.grow 1 TR)]) (by kernel_rfl) ?_
  refine T9 (fun x:Nat × Nat × Bool=>[(0,.ptr 0 0),(1,.str s),(5,.int .i64 ((x.2.1:Nat):Int)),(6,.bool x.2.2),(30,.rslice 1 0 4 true),(31,.int .i64 4),(32,.int .i64 ((x.1:Nat):Int))]) (fun _=>[(0,.row RR),(1,.grow 1 TR)]) (fun x=>x.1 <= 4 /\ x.2.1 = s.length + cn s x.1 /\ x.2.2 = decide (0 < cn s x.1)) (fun x=>4 - x.1) (0,s.length,false) ⟨by simp,rfl,rfl⟩ ?_
  rintro ⟨k,ns,any⟩ ⟨hk,hns,hany⟩ ih
  simp only at hk hns hany ih ⊢
  have hcn:=cn_le s k
  rcases (by omega:k = 0 ∨ k = 1 ∨ k = 2 ∨ k = 3 ∨ k = 4) with rfl | rfl | rfl | rfl | rfl
  ·have hc:=List.count_le_length (a:=(34:UInt8)) (l:=s)
   refine j4 ?_
   refine j3 ?_
   refine d9 rfl rfl rfl ?_
   refine o5 ?_
   refine j4 ?_
   refine C9 rfl (by simp [ltB]) ?_
   refine j6 ?_
   refine j4 ?_
   refine o9 ?_
   refine j4 ?_
   refine j3 ?_
   refine d9 rfl rfl (F4 (by simp [inR]) rfl) ?_
   refine F5 rfl rfl rfl (v:=.str [34]) rfl ?_
   refine d9 rfl rfl rfl ?_
   refine o5 ?_
   refine j4 ?_
   refine j3 ?_
   refine d9 rfl rfl rfl ?_
   refine d9 rfl rfl rfl ?_
   refine o6 rfl rfl rfl rfl rfl (ct_E s 34) rfl ?_
   refine d9 rfl rfl rfl ?_
   refine o5 ?_
   refine j4 ?_
   refine j3 ?_
   refine d9 rfl rfl rfl ?_
   refine d9 rfl rfl rfl ?_
   refine o5 ?_
   refine q8 rfl (fun g40=>?_) (fun g40=>?_)
   ·replace g40:s.count 34 ≠ 0:=by intro h; rw [h] at g40; simp [eqB] at g40
    refine j4 ?_
    refine j3 ?_
    refine d9 rfl rfl rfl ?_
    refine d9 rfl rfl rfl ?_
    refine d9 rfl rfl rfl ?_
    refine d9 rfl rfl rfl ?_
    refine d9 rfl rfl (F4 (by simp [inR]) (show _ = some (.int .u8 (((34:UInt8).toNat:Nat):Int)) from rfl)) ?_
    refine d9 rfl rfl rfl ?_
    refine d9 rfl rfl rfl ?_
    refine d9 rfl rfl (F4 (by simp [inR]) rfl) ?_
    refine F5 rfl rfl rfl (a1w 34 rfl) ?_
    refine d9 rfl rfl rfl ?_
    refine d9 rfl rfl rfl ?_
    refine d9 rfl rfl (mul1 (by omega)) ?_
    refine d9 rfl rfl (addN (by omega)) ?_
    refine d9 rfl rfl rfl ?_
    refine o5 ?_
    refine j3 ?_
    refine d9 rfl rfl rfl ?_
    refine o5 ?_
    refine j3 ?_
    refine d9 rfl rfl rfl ?_
    refine d9 rfl rfl rfl ?_
    refine o5 ?_
    exact ⟨[(0,.ptr 0 0),(1,.str s),(5,.int .i64 ((ns + s.count 34:Nat):Int)),(6,.bool true),(30,.rslice 1 0 4 true),(31,.int .i64 4),(32,.int .i64 ((1:Nat):Int))],[(0,.row RR),(1,.grow 1 TR)],by kernel_rfl,ih (1,ns + s.count 34,true) (by simp) ⟨by simp,by rw [hns]; simp only [cn]; omega,by simp only [cn]; symm; simp only [decide_eq_true_eq]; omega⟩⟩
   ·replace g40:s.count 34 = 0:=by simp only [eqB,Bool.not_eq_false',beq_iff_eq] at g40; omega
    refine j6 ?_
    refine j3 ?_
    refine d9 rfl rfl rfl ?_
    refine d9 rfl rfl rfl ?_
    refine o5 ?_
    exact ⟨[(0,.ptr 0 0),(1,.str s),(5,.int .i64 ((ns:Nat):Int)),(6,.bool any),(30,.rslice 1 0 4 true),(31,.int .i64 4),(32,.int .i64 ((1:Nat):Int))],[(0,.row RR),(1,.grow 1 TR)],by kernel_rfl,ih (1,ns,any) (by simp) ⟨by simp,by rw [hns]; simp only [cn]; omega,by rw [hany]; simp only [cn]; congr 1; simp only [eq_iff_iff]; omega⟩⟩
  ·have hc:=List.count_le_length (a:=(92:UInt8)) (l:=s)
   refine j4 ?_
   refine j3 ?_
   refine d9 rfl rfl rfl ?_
   refine o5 ?_
   refine j4 ?_
   refine C9 rfl (by simp [ltB]) ?_
   refine j6 ?_
   refine j4 ?_
   refine o9 ?_
   refine j4 ?_
   refine j3 ?_
   refine d9 rfl rfl (F4 (by simp [inR]) rfl) ?_
   refine F5 rfl rfl rfl (v:=.str [92]) rfl ?_
   refine d9 rfl rfl rfl ?_
   refine o5 ?_
   refine j4 ?_
   refine j3 ?_
   refine d9 rfl rfl rfl ?_
   refine d9 rfl rfl rfl ?_
   refine o6 rfl rfl rfl rfl rfl (ct_E s 92) rfl ?_
   refine d9 rfl rfl rfl ?_
   refine o5 ?_
   refine j4 ?_
   refine j3 ?_
   refine d9 rfl rfl rfl ?_
   refine d9 rfl rfl rfl ?_
   refine o5 ?_
   refine q8 rfl (fun g40=>?_) (fun g40=>?_)
   ·replace g40:s.count 92 ≠ 0:=by intro h; rw [h] at g40; simp [eqB] at g40
    refine j4 ?_
    refine j3 ?_
    refine d9 rfl rfl rfl ?_
    refine d9 rfl rfl rfl ?_
    refine d9 rfl rfl rfl ?_
    refine d9 rfl rfl rfl ?_
    refine d9 rfl rfl (F4 (by simp [inR]) (show _ = some (.int .u8 (((92:UInt8).toNat:Nat):Int)) from rfl)) ?_
    refine d9 rfl rfl rfl ?_
    refine d9 rfl rfl rfl ?_
    refine d9 rfl rfl (F4 (by simp [inR]) rfl) ?_
    refine F5 rfl rfl rfl (a1w 92 rfl) ?_
    refine d9 rfl rfl rfl ?_
    refine d9 rfl rfl rfl ?_
    refine d9 rfl rfl (mul1 (by omega)) ?_
    refine d9 rfl rfl (addN (by omega)) ?_
    refine d9 rfl rfl rfl ?_
    refine o5 ?_
    refine j3 ?_
    refine d9 rfl rfl rfl ?_
    refine o5 ?_
    refine j3 ?_
    refine d9 rfl rfl rfl ?_
    refine d9 rfl rfl rfl ?_
    refine o5 ?_
    exact ⟨[(0,.ptr 0 0),(1,.str s),(5,.int .i64 ((ns + s.count 92:Nat):Int)),(6,.bool true),(30,.rslice 1 0 4 true),(31,.int .i64 4),(32,.int .i64 ((2:Nat):Int))],[(0,.row RR),(1,.grow 1 TR)],by kernel_rfl,ih (2,ns + s.count 92,true) (by simp) ⟨by simp,by rw [hns]; simp only [cn]; omega,by simp only [cn]; symm; simp only [decide_eq_true_eq]; omega⟩⟩
   ·replace g40:s.count 92 = 0:=by simp only [eqB,Bool.not_eq_false',beq_iff_eq] at g40; omega
    refine j6 ?_
    refine j3 ?_
    refine d9 rfl rfl rfl ?_
    refine d9 rfl rfl rfl ?_
    refine o5 ?_
    exact ⟨[(0,.ptr 0 0),(1,.str s),(5,.int .i64 ((ns:Nat):Int)),(6,.bool any),(30,.rslice 1 0 4 true),(31,.int .i64 4),(32,.int .i64 ((2:Nat):Int))],[(0,.row RR),(1,.grow 1 TR)],by kernel_rfl,ih (2,ns,any) (by simp) ⟨by simp,by rw [hns]; simp only [cn]; omega,by rw [hany]; simp only [cn]; congr 1; simp only [eq_iff_iff]; omega⟩⟩
  ·have hc:=List.count_le_length (a:=(9:UInt8)) (l:=s)
   refine j4 ?_
   refine j3 ?_
   refine d9 rfl rfl rfl ?_
   refine o5 ?_
   refine j4 ?_
   refine C9 rfl (by simp [ltB]) ?_
   refine j6 ?_
   refine j4 ?_
   refine o9 ?_
   refine j4 ?_
   refine j3 ?_
   refine d9 rfl rfl (F4 (by simp [inR]) rfl) ?_
   refine F5 rfl rfl rfl (v:=.str [9]) rfl ?_
   refine d9 rfl rfl rfl ?_
   refine o5 ?_
   refine j4 ?_
   refine j3 ?_
   refine d9 rfl rfl rfl ?_
   refine d9 rfl rfl rfl ?_
   refine o6 rfl rfl rfl rfl rfl (ct_E s 9) rfl ?_
   refine d9 rfl rfl rfl ?_
   refine o5 ?_
   refine j4 ?_
   refine j3 ?_
   refine d9 rfl rfl rfl ?_
   refine d9 rfl rfl rfl ?_
   refine o5 ?_
   refine q8 rfl (fun g40=>?_) (fun g40=>?_)
   ·replace g40:s.count 9 ≠ 0:=by intro h; rw [h] at g40; simp [eqB] at g40
    refine j4 ?_
    refine j3 ?_
    refine d9 rfl rfl rfl ?_
    refine d9 rfl rfl rfl ?_
    refine d9 rfl rfl rfl ?_
    refine d9 rfl rfl rfl ?_
    refine d9 rfl rfl (F4 (by simp [inR]) (show _ = some (.int .u8 (((9:UInt8).toNat:Nat):Int)) from rfl)) ?_
    refine d9 rfl rfl rfl ?_
    refine d9 rfl rfl rfl ?_
    refine d9 rfl rfl (F4 (by simp [inR]) rfl) ?_
    refine F5 rfl rfl rfl (a1w 9 rfl) ?_
    refine d9 rfl rfl rfl ?_
    refine d9 rfl rfl rfl ?_
    refine d9 rfl rfl (mul1 (by omega)) ?_
    refine d9 rfl rfl (addN (by omega)) ?_
    refine d9 rfl rfl rfl ?_
    refine o5 ?_
    refine j3 ?_
    refine d9 rfl rfl rfl ?_
    refine o5 ?_
    refine j3 ?_
    refine d9 rfl rfl rfl ?_
    refine d9 rfl rfl rfl ?_
    refine o5 ?_
    exact ⟨[(0,.ptr 0 0),(1,.str s),(5,.int .i64 ((ns + s.count 9:Nat):Int)),(6,.bool true),(30,.rslice 1 0 4 true),(31,.int .i64 4),(32,.int .i64 ((3:Nat):Int))],[(0,.row RR),(1,.grow 1 TR)],by kernel_rfl,ih (3,ns + s.count 9,true) (by simp) ⟨by simp,by rw [hns]; simp only [cn]; omega,by simp only [cn]; symm; simp only [decide_eq_true_eq]; omega⟩⟩
   ·replace g40:s.count 9 = 0:=by simp only [eqB,Bool.not_eq_false',beq_iff_eq] at g40; omega
    refine j6 ?_
    refine j3 ?_
    refine d9 rfl rfl rfl ?_
    refine d9 rfl rfl rfl ?_
    refine o5 ?_
    exact ⟨[(0,.ptr 0 0),(1,.str s),(5,.int .i64 ((ns:Nat):Int)),(6,.bool any),(30,.rslice 1 0 4 true),(31,.int .i64 4),(32,.int .i64 ((3:Nat):Int))],[(0,.row RR),(1,.grow 1 TR)],by kernel_rfl,ih (3,ns,any) (by simp) ⟨by simp,by rw [hns]; simp only [cn]; omega,by rw [hany]; simp only [cn]; congr 1; simp only [eq_iff_iff]; omega⟩⟩
  ·have hc:=List.count_le_length (a:=(10:UInt8)) (l:=s)
   refine j4 ?_
   refine j3 ?_
   refine d9 rfl rfl rfl ?_
   refine o5 ?_
   refine j4 ?_
   refine C9 rfl (by simp [ltB]) ?_
   refine j6 ?_
   refine j4 ?_
   refine o9 ?_
   refine j4 ?_
   refine j3 ?_
   refine d9 rfl rfl (F4 (by simp [inR]) rfl) ?_
   refine F5 rfl rfl rfl (v:=.str [10]) rfl ?_
   refine d9 rfl rfl rfl ?_
   refine o5 ?_
   refine j4 ?_
   refine j3 ?_
   refine d9 rfl rfl rfl ?_
   refine d9 rfl rfl rfl ?_
   refine o6 rfl rfl rfl rfl rfl (ct_E s 10) rfl ?_
   refine d9 rfl rfl rfl ?_
   refine o5 ?_
   refine j4 ?_
   refine j3 ?_
   refine d9 rfl rfl rfl ?_
   refine d9 rfl rfl rfl ?_
   refine o5 ?_
   refine q8 rfl (fun g40=>?_) (fun g40=>?_)
   ·replace g40:s.count 10 ≠ 0:=by intro h; rw [h] at g40; simp [eqB] at g40
    refine j4 ?_
    refine j3 ?_
    refine d9 rfl rfl rfl ?_
    refine d9 rfl rfl rfl ?_
    refine d9 rfl rfl rfl ?_
    refine d9 rfl rfl rfl ?_
    refine d9 rfl rfl (F4 (by simp [inR]) (show _ = some (.int .u8 (((10:UInt8).toNat:Nat):Int)) from rfl)) ?_
    refine d9 rfl rfl rfl ?_
    refine d9 rfl rfl rfl ?_
    refine d9 rfl rfl (F4 (by simp [inR]) rfl) ?_
    refine F5 rfl rfl rfl (a1w 10 rfl) ?_
    refine d9 rfl rfl rfl ?_
    refine d9 rfl rfl rfl ?_
    refine d9 rfl rfl (mul1 (by omega)) ?_
    refine d9 rfl rfl (addN (by omega)) ?_
    refine d9 rfl rfl rfl ?_
    refine o5 ?_
    refine j3 ?_
    refine d9 rfl rfl rfl ?_
    refine o5 ?_
    refine j3 ?_
    refine d9 rfl rfl rfl ?_
    refine d9 rfl rfl rfl ?_
    refine o5 ?_
    exact ⟨[(0,.ptr 0 0),(1,.str s),(5,.int .i64 ((ns + s.count 10:Nat):Int)),(6,.bool true),(30,.rslice 1 0 4 true),(31,.int .i64 4),(32,.int .i64 ((4:Nat):Int))],[(0,.row RR),(1,.grow 1 TR)],by kernel_rfl,ih (4,ns + s.count 10,true) (by simp) ⟨by simp,by rw [hns]; simp only [cn]; omega,by simp only [cn]; symm; simp only [decide_eq_true_eq]; omega⟩⟩
   ·replace g40:s.count 10 = 0:=by simp only [eqB,Bool.not_eq_false',beq_iff_eq] at g40; omega
    refine j6 ?_
    refine j3 ?_
    refine d9 rfl rfl rfl ?_
    refine d9 rfl rfl rfl ?_
    refine o5 ?_
    exact ⟨[(0,.ptr 0 0),(1,.str s),(5,.int .i64 ((ns:Nat):Int)),(6,.bool any),(30,.rslice 1 0 4 true),(31,.int .i64 4),(32,.int .i64 ((4:Nat):Int))],[(0,.row RR),(1,.grow 1 TR)],by kernel_rfl,ih (4,ns,any) (by simp) ⟨by simp,by rw [hns]; simp only [cn]; omega,by rw [hany]; simp only [cn]; congr 1; simp only [eq_iff_iff]; omega⟩⟩
  ·have hN:ns = (esc s).length:=by rw [hns,a7M]; rfl
   replace hany:any = decide (s.length < (esc s).length):=by rw [hany,a7M]; simp only [cn]; congr 1; simp only [eq_iff_iff]; omega
   subst hN
   refine j4 ?_
   refine j3 ?_
   refine d9 rfl rfl rfl ?_
   refine o5 ?_
   refine j4 ?_
   refine F3 rfl (by simp [ltB]) ?_
   refine G8 ?_
   refine j4 ?_
   refine j4 ?_
   refine j3 ?_
   refine d9 rfl rfl rfl ?_
   refine d9 rfl rfl rfl ?_
   refine o5 ?_
   refine q8 rfl (fun g82=>?_) (fun g82=>?_)
   ·have hs1:=a5G (s:=s) (by rw [hany] at g82; simpa using g82)
    rw [hs1]
    refine j4 ?_
    refine j3 ?_
    refine d9 rfl rfl rfl ?_
    refine d9 rfl rfl rfl ?_
    refine o5 ?_
    exact j5 ⟨_,rfl,by kernel_rfl⟩
   ·refine j6 ?_
    refine j4 ?_
    refine j3 ?_
    refine d9 rfl rfl rfl ?_
    refine U1 rfl rfl (mk_ok (esc s).length (by have:=a1S s; omega) rfl) ?_
    refine d9 rfl rfl rfl ?_
    refine o5 ?_
    refine j4 ?_
    refine j3 ?_
    refine d9 rfl rfl rfl ?_
    refine o5 ?_
    refine a7Q rfl ?_
    refine j4 ?_
    refine j3 ?_
    refine d9 rfl rfl rfl ?_
    refine o5 ?_
    refine o9 ?_
    refine J9 (fr1:=[(0,.ptr 0 0),(1,.str s),(12,.rslice 2 0 (esc s).length true),(13,.int .i64 (((esc (s.take 0)).length:Nat):Int)),(14,.int .i64 ((0:Nat):Int))]) (H1:=[(0,.row RR),(1,.grow 1 TR),(2,.grow 1 (BUF s 0))]) (by kernel_rfl) ?_
    refine T9 (fun i:Nat=>[(0,.ptr 0 0),(1,.str s),(12,.rslice 2 0 (esc s).length true),(13,.int .i64 (((esc (s.take i)).length:Nat):Int)),(14,.int .i64 ((i:Nat):Int))]) (fun i=>[(0,.row RR),(1,.grow 1 TR),(2,.grow 1 (BUF s i))]) (fun i=>i <= s.length) (fun i=>s.length - i) 0 (Nat.zero_le _) ?_
    intro i hi ih
    have hles:=a1S s
    have hpre:=a2K s i
    have hbl:=b0b s i
    refine j4 ?_
    refine j4 ?_
    refine j3 ?_
    refine d9 rfl rfl rfl ?_
    refine d9 rfl rfl rfl ?_
    refine d9 rfl rfl rfl ?_
    refine d9 rfl rfl rfl ?_
    refine o5 ?_
    refine q8 rfl (fun g89=>?_) (fun g89=>?_)
    ·replace g89:i < s.length:=by simpa [ltN] using g89
     obtain ⟨b,hb⟩:∃ b,s.getD i 0 = b:=⟨_,rfl⟩
     have htk:=a2p g89
     rw [hb] at htk
     have hpre2:=a2K s (i + 1)
     refine j6 ?_
     refine j4 ?_
     refine o9 ?_
     refine j4 ?_
     refine j3 ?_
     refine d9 rfl rfl rfl ?_
     refine d9 rfl rfl rfl ?_
     refine d9 rfl rfl (F4 (A7 g89) (show _ = some (.int .u8 (((s.getD i 0).toNat:Nat):Int)) from rfl)) ?_
     rw [hb]
     refine d9 rfl rfl rfl ?_
     refine o5 ?_
     refine j4 ?_
     refine j3 ?_
     refine d9 rfl rfl rfl ?_
     refine d9 rfl rfl rfl ?_
     refine d9 rfl rfl rfl ?_
     refine d9 rfl rfl rfl ?_
     refine d9 rfl rfl (F4 (A7 (UInt8.toNat_lt b)) rfl) ?_
     rcases a0O b with ⟨c,hc,he⟩ | ⟨hc,he⟩
     ·refine F5 rfl rfl rfl ((a1w b (by simp)).trans (congrArg some hc)) ?_
      refine d9 rfl rfl (a9J 2 rfl) ?_
      refine o5 ?_
      refine C9 rfl (rfl) ?_
      refine j3 ?_
      refine d9 rfl rfl rfl ?_
      refine d9 rfl rfl rfl ?_
      refine d9 rfl rfl rfl ?_
      have hL:(esc (s.take (i + 1))).length = (esc (s.take i)).length + 2:=by rw [htk,he,List.length_append]; rfl
      refine d9 rfl rfl (F4 (U5 (by omega) (Nat.le_refl _)) rfl) ?_
      refine d9 rfl rfl rfl ?_
      refine d9 rfl rfl rfl ?_
      refine d9 rfl rfl rfl ?_
      refine d9 rfl rfl rfl ?_
      refine d9 rfl rfl (F4 (A7 (UInt8.toNat_lt b)) rfl) ?_
      refine F5 rfl rfl rfl ((a1w b (by simp)).trans (congrArg some hc)) ?_
      refine U1 rfl rfl (cp_ok (B:=BUF s (i + 1)) (n:=(esc s).length - (esc (s.take i)).length) rfl (by omega) (by omega) (b0e g89 hb he)) ?_
      refine d9 rfl rfl (addE (k:=2) hL (by omega)) ?_
      refine d9 rfl rfl rfl ?_
      refine o5 ?_
      refine j3 ?_
      refine d9 rfl rfl rfl ?_
      refine d9 rfl rfl (add1 (by omega)) ?_
      refine d9 rfl rfl rfl ?_
      refine o5 ?_
      exact ⟨[(0,.ptr 0 0),(1,.str s),(12,.rslice 2 0 (esc s).length true),(13,.int .i64 (((esc (s.take (i + 1))).length:Nat):Int)),(14,.int .i64 (((i + 1):Nat):Int))],[(0,.row RR),(1,.grow 1 TR),(2,.grow 1 (BUF s (i + 1)))],by kernel_rfl,ih (i + 1) (by omega) (by omega)⟩
     ·refine F5 rfl rfl rfl ((a1w b (by simp)).trans (congrArg some hc)) ?_
      refine d9 rfl rfl rfl ?_
      refine o5 ?_
      refine F3 rfl (rfl) ?_
      refine j4 ?_
      refine j3 ?_
      refine d9 rfl rfl rfl ?_
      refine d9 rfl rfl rfl ?_
      refine d9 rfl rfl rfl ?_
      have hL:(esc (s.take (i + 1))).length = (esc (s.take i)).length + 1:=by rw [htk,he,List.length_append]; rfl
      refine d9 rfl rfl (F4 (A7 (by omega)) rfl) ?_
      refine a7l rfl rfl rfl rfl (st_ok (B:=BUF s (i + 1)) rfl (by omega) (b0c g89 hb he)) ?_
      refine o5 ?_
      refine j3 ?_
      refine d9 rfl rfl rfl ?_
      refine d9 rfl rfl (addE (k:=1) hL (by omega)) ?_
      refine d9 rfl rfl rfl ?_
      refine o5 ?_
      refine j3 ?_
      refine d9 rfl rfl rfl ?_
      refine d9 rfl rfl (add1 (by omega)) ?_
      refine d9 rfl rfl rfl ?_
      refine o5 ?_
      exact ⟨[(0,.ptr 0 0),(1,.str s),(12,.rslice 2 0 (esc s).length true),(13,.int .i64 (((esc (s.take (i + 1))).length:Nat):Int)),(14,.int .i64 (((i + 1):Nat):Int))],[(0,.row RR),(1,.grow 1 TR),(2,.grow 1 (BUF s (i + 1)))],by kernel_rfl,ih (i + 1) (by omega) (by omega)⟩
    ·replace g89:¬ i < s.length:=by simpa [ltN] using g89
     obtain rfl:i = s.length:=by omega
     refine G8 ?_
     refine ⟨[(12,.slice .sealed (esc s).length ((BUF s s.length).take ((esc s).length * 1)))],[(0,.row RR),(1,.grow 1 TR)],by kernel_rfl,?_⟩
     refine j4 ?_
     refine j3 ?_
     refine d9 rfl rfl rfl ?_
     refine a1d rfl rfl rfl (cv_ok s) ?_
     refine d9 rfl rfl rfl ?_
     refine o5 ?_
     exact j5 ⟨_,rfl,by kernel_rfl⟩
 ·refine j4 ?_
  refine j3 ?_
  refine d9 rfl rfl rfl ?_
  refine o5 ?_
  refine o9 ?_
  refine J9 (fr1:=[(0,.ptr 0 0),(1,.str s),(5,.int .i64 ((s.length:Nat):Int)),(6,.bool false),(10,.int .i64 ((0:Nat):Int))]) (H1:=[(0,.row RR),(1,.grow 1 TR)]) (by kernel_rfl) ?_
  refine T9 (fun x:Nat × Nat × Bool=>[(0,.ptr 0 0),(1,.str s),(5,.int .i64 ((x.2.1:Nat):Int)),(6,.bool x.2.2),(10,.int .i64 ((x.1:Nat):Int))]) (fun _=>[(0,.row RR),(1,.grow 1 TR)]) (fun x=>x.1 <= s.length /\ x.2.1 + x.1 = s.length + (esc (s.take x.1)).length /\ x.2.2 = decide (x.1 < (esc (s.take x.1)).length)) (fun x=>s.length - x.1) (0,s.length,false) ⟨by simp,by simp [esc],by simp [esc]⟩ ?_
  rintro ⟨i,ns,any⟩ ⟨hi,hns,hany⟩ ih
  simp only at hi hns hany ih ⊢
  have hge:=a7L (s.take i)
  have hle:=a1S (s.take i)
  rw [List.length_take,Nat.min_eq_left hi] at hge hle
  refine j4 ?_
  refine j4 ?_
  refine j3 ?_
  refine d9 rfl rfl rfl ?_
  refine d9 rfl rfl rfl ?_
  refine d9 rfl rfl rfl ?_
  refine d9 rfl rfl rfl ?_
  refine o5 ?_
  refine q8 rfl (fun g58=>?_) (fun g58=>?_)
  ·replace g58:i < s.length:=by simpa [ltN] using g58
   obtain ⟨b,hb⟩:∃ b,s.getD i 0 = b:=⟨_,rfl⟩
   have htk:=a2p g58
   rw [hb] at htk
   refine j6 ?_
   refine j4 ?_
   refine o9 ?_
   refine j4 ?_
   refine j3 ?_
   refine d9 rfl rfl rfl ?_
   refine d9 rfl rfl rfl ?_
   refine d9 rfl rfl (F4 (A7 g58) (show _ = some (.int .u8 (((s.getD i 0).toNat:Nat):Int)) from rfl)) ?_
   rw [hb]
   refine d9 rfl rfl rfl ?_
   refine o5 ?_
   refine j4 ?_
   refine j3 ?_
   refine d9 rfl rfl rfl ?_
   refine d9 rfl rfl rfl ?_
   refine d9 rfl rfl rfl ?_
   refine d9 rfl rfl rfl ?_
   refine d9 rfl rfl (F4 (A7 (UInt8.toNat_lt b)) rfl) ?_
   rcases a0O b with ⟨c,hc,he⟩ | ⟨hc,he⟩
   ·refine F5 rfl rfl rfl ((a1w b (by simp)).trans (congrArg some hc)) ?_
    refine d9 rfl rfl (a9J 2 rfl) ?_
    refine o5 ?_
    refine C9 rfl (rfl) ?_
    refine j4 ?_
    refine j3 ?_
    refine d9 rfl rfl rfl ?_
    refine d9 rfl rfl rfl ?_
    refine d9 rfl rfl rfl ?_
    refine d9 rfl rfl rfl ?_
    refine d9 rfl rfl rfl ?_
    refine d9 rfl rfl (F4 (A7 (UInt8.toNat_lt b)) rfl) ?_
    refine F5 rfl rfl rfl ((a1w b (by simp)).trans (congrArg some hc)) ?_
    refine d9 rfl rfl rfl ?_
    refine d9 rfl rfl rfl ?_
    refine d9 rfl rfl (addN (k:=1) (by omega)) ?_
    refine d9 rfl rfl rfl ?_
    refine o5 ?_
    refine j3 ?_
    refine d9 rfl rfl rfl ?_
    refine o5 ?_
    refine j3 ?_
    refine d9 rfl rfl rfl ?_
    refine d9 rfl rfl (add1 (by omega)) ?_
    refine d9 rfl rfl rfl ?_
    refine o5 ?_
    exact ⟨[(0,.ptr 0 0),(1,.str s),(5,.int .i64 ((ns + 1:Nat):Int)),(6,.bool true),(10,.int .i64 ((i + 1:Nat):Int))],[(0,.row RR),(1,.grow 1 TR)],by kernel_rfl,ih (i + 1,ns + 1,true) (by simp only; omega) ⟨by simp only; omega,by rw [htk,he]; simp only [List.length_append,List.length_cons,List.length_nil]; omega,by rw [htk,he]; simp only [List.length_append,List.length_cons,List.length_nil]; symm; simp only [decide_eq_true_eq]; omega⟩⟩
   ·refine F5 rfl rfl rfl ((a1w b (by simp)).trans (congrArg some hc)) ?_
    refine d9 rfl rfl rfl ?_
    refine o5 ?_
    refine F3 rfl (rfl) ?_
    refine j6 ?_
    refine j3 ?_
    refine d9 rfl rfl rfl ?_
    refine d9 rfl rfl (add1 (by omega)) ?_
    refine d9 rfl rfl rfl ?_
    refine o5 ?_
    exact ⟨[(0,.ptr 0 0),(1,.str s),(5,.int .i64 ((ns:Nat):Int)),(6,.bool any),(10,.int .i64 ((i + 1:Nat):Int))],[(0,.row RR),(1,.grow 1 TR)],by kernel_rfl,ih (i + 1,ns,any) (by simp only; omega) ⟨by simp only; omega,by rw [htk,he]; simp only [List.length_append,List.length_cons,List.length_nil]; omega,by rw [hany,htk,he]; simp only [List.length_append,List.length_cons,List.length_nil]; congr 1; simp only [eq_iff_iff]; omega⟩⟩
  ·replace g58:¬ i < s.length:=by simpa [ltN] using g58
   obtain rfl:i = s.length:=by omega
   rw [List.take_length] at hns hany
   obtain rfl:ns = (esc s).length:=by omega
   refine G8 ?_
   refine j4 ?_
   refine j4 ?_
   refine j3 ?_
   refine d9 rfl rfl rfl ?_
   refine d9 rfl rfl rfl ?_
   refine o5 ?_
   refine q8 rfl (fun g82=>?_) (fun g82=>?_)
   ·have hs1:=a5G (s:=s) (by rw [hany] at g82; simpa using g82)
    rw [hs1]
    refine j4 ?_
    refine j3 ?_
    refine d9 rfl rfl rfl ?_
    refine d9 rfl rfl rfl ?_
    refine o5 ?_
    exact j5 ⟨_,rfl,by kernel_rfl⟩
   ·refine j6 ?_
    refine j4 ?_
    refine j3 ?_
    refine d9 rfl rfl rfl ?_
    refine U1 rfl rfl (mk_ok (esc s).length (by have:=a1S s; omega) rfl) ?_
    refine d9 rfl rfl rfl ?_
    refine o5 ?_
    refine j4 ?_
    refine j3 ?_
    refine d9 rfl rfl rfl ?_
    refine o5 ?_
    refine a7Q rfl ?_
    refine j4 ?_
    refine j3 ?_
    refine d9 rfl rfl rfl ?_
    refine o5 ?_
    refine o9 ?_
    refine J9 (fr1:=[(0,.ptr 0 0),(1,.str s),(12,.rslice 2 0 (esc s).length true),(13,.int .i64 (((esc (s.take 0)).length:Nat):Int)),(14,.int .i64 ((0:Nat):Int))]) (H1:=[(0,.row RR),(1,.grow 1 TR),(2,.grow 1 (BUF s 0))]) (by kernel_rfl) ?_
    refine T9 (fun i:Nat=>[(0,.ptr 0 0),(1,.str s),(12,.rslice 2 0 (esc s).length true),(13,.int .i64 (((esc (s.take i)).length:Nat):Int)),(14,.int .i64 ((i:Nat):Int))]) (fun i=>[(0,.row RR),(1,.grow 1 TR),(2,.grow 1 (BUF s i))]) (fun i=>i <= s.length) (fun i=>s.length - i) 0 (Nat.zero_le _) ?_
    intro i hi ih
    have hles:=a1S s
    have hpre:=a2K s i
    have hbl:=b0b s i
    refine j4 ?_
    refine j4 ?_
    refine j3 ?_
    refine d9 rfl rfl rfl ?_
    refine d9 rfl rfl rfl ?_
    refine d9 rfl rfl rfl ?_
    refine d9 rfl rfl rfl ?_
    refine o5 ?_
    refine q8 rfl (fun g89=>?_) (fun g89=>?_)
    ·replace g89:i < s.length:=by simpa [ltN] using g89
     obtain ⟨b,hb⟩:∃ b,s.getD i 0 = b:=⟨_,rfl⟩
     have htk:=a2p g89
     rw [hb] at htk
     have hpre2:=a2K s (i + 1)
     refine j6 ?_
     refine j4 ?_
     refine o9 ?_
     refine j4 ?_
     refine j3 ?_
     refine d9 rfl rfl rfl ?_
     refine d9 rfl rfl rfl ?_
     refine d9 rfl rfl (F4 (A7 g89) (show _ = some (.int .u8 (((s.getD i 0).toNat:Nat):Int)) from rfl)) ?_
     rw [hb]
     refine d9 rfl rfl rfl ?_
     refine o5 ?_
     refine j4 ?_
     refine j3 ?_
     refine d9 rfl rfl rfl ?_
     refine d9 rfl rfl rfl ?_
     refine d9 rfl rfl rfl ?_
     refine d9 rfl rfl rfl ?_
     refine d9 rfl rfl (F4 (A7 (UInt8.toNat_lt b)) rfl) ?_
     rcases a0O b with ⟨c,hc,he⟩ | ⟨hc,he⟩
     ·refine F5 rfl rfl rfl ((a1w b (by simp)).trans (congrArg some hc)) ?_
      refine d9 rfl rfl (a9J 2 rfl) ?_
      refine o5 ?_
      refine C9 rfl (rfl) ?_
      refine j3 ?_
      refine d9 rfl rfl rfl ?_
      refine d9 rfl rfl rfl ?_
      refine d9 rfl rfl rfl ?_
      have hL:(esc (s.take (i + 1))).length = (esc (s.take i)).length + 2:=by rw [htk,he,List.length_append]; rfl
      refine d9 rfl rfl (F4 (U5 (by omega) (Nat.le_refl _)) rfl) ?_
      refine d9 rfl rfl rfl ?_
      refine d9 rfl rfl rfl ?_
      refine d9 rfl rfl rfl ?_
      refine d9 rfl rfl rfl ?_
      refine d9 rfl rfl (F4 (A7 (UInt8.toNat_lt b)) rfl) ?_
      refine F5 rfl rfl rfl ((a1w b (by simp)).trans (congrArg some hc)) ?_
      refine U1 rfl rfl (cp_ok (B:=BUF s (i + 1)) (n:=(esc s).length - (esc (s.take i)).length) rfl (by omega) (by omega) (b0e g89 hb he)) ?_
      refine d9 rfl rfl (addE (k:=2) hL (by omega)) ?_
      refine d9 rfl rfl rfl ?_
      refine o5 ?_
      refine j3 ?_
      refine d9 rfl rfl rfl ?_
      refine d9 rfl rfl (add1 (by omega)) ?_
      refine d9 rfl rfl rfl ?_
      refine o5 ?_
      exact ⟨[(0,.ptr 0 0),(1,.str s),(12,.rslice 2 0 (esc s).length true),(13,.int .i64 (((esc (s.take (i + 1))).length:Nat):Int)),(14,.int .i64 (((i + 1):Nat):Int))],[(0,.row RR),(1,.grow 1 TR),(2,.grow 1 (BUF s (i + 1)))],by kernel_rfl,ih (i + 1) (by omega) (by omega)⟩
     ·refine F5 rfl rfl rfl ((a1w b (by simp)).trans (congrArg some hc)) ?_
      refine d9 rfl rfl rfl ?_
      refine o5 ?_
      refine F3 rfl (rfl) ?_
      refine j4 ?_
      refine j3 ?_
      refine d9 rfl rfl rfl ?_
      refine d9 rfl rfl rfl ?_
      refine d9 rfl rfl rfl ?_
      have hL:(esc (s.take (i + 1))).length = (esc (s.take i)).length + 1:=by rw [htk,he,List.length_append]; rfl
      refine d9 rfl rfl (F4 (A7 (by omega)) rfl) ?_
      refine a7l rfl rfl rfl rfl (st_ok (B:=BUF s (i + 1)) rfl (by omega) (b0c g89 hb he)) ?_
      refine o5 ?_
      refine j3 ?_
      refine d9 rfl rfl rfl ?_
      refine d9 rfl rfl (addE (k:=1) hL (by omega)) ?_
      refine d9 rfl rfl rfl ?_
      refine o5 ?_
      refine j3 ?_
      refine d9 rfl rfl rfl ?_
      refine d9 rfl rfl (add1 (by omega)) ?_
      refine d9 rfl rfl rfl ?_
      refine o5 ?_
      exact ⟨[(0,.ptr 0 0),(1,.str s),(12,.rslice 2 0 (esc s).length true),(13,.int .i64 (((esc (s.take (i + 1))).length:Nat):Int)),(14,.int .i64 (((i + 1):Nat):Int))],[(0,.row RR),(1,.grow 1 TR),(2,.grow 1 (BUF s (i + 1)))],by kernel_rfl,ih (i + 1) (by omega) (by omega)⟩
    ·replace g89:¬ i < s.length:=by simpa [ltN] using g89
     obtain rfl:i = s.length:=by omega
     refine G8 ?_
     refine ⟨[(12,.slice .sealed (esc s).length ((BUF s s.length).take ((esc s).length * 1)))],[(0,.row RR),(1,.grow 1 TR)],by kernel_rfl,?_⟩
     refine j4 ?_
     refine j3 ?_
     refine d9 rfl rfl rfl ?_
     refine a1d rfl rfl rfl (cv_ok s) ?_
     refine d9 rfl rfl rfl ?_
     refine o5 ?_
     exact j5 ⟨_,rfl,by kernel_rfl⟩
end Go.Proofs.YtlhgheonlcjpaaaGreat.Rp
namespace Go.Vm
open Go
variable {ρ ρ':Rho} {lab lab':Lab} {w w':World} {H:Hp}
theorem Rel.carry (hF:∀ b o x,X4 lab w b o x -> X4 lab' w' b o x) {v:V} {x:Value} (h:Rel ρ lab w v x):Rel ρ lab' w' v x:=by
 induction h with
 | undef x=>exact .undef x
 | bool b=>exact .bool b
 | int k n=>exact .int k n
 | str s=>exact .str s
 | nilptr=>exact .nilptr
 | ptr r off b o c h=>exact .ptr r off b o c h
 | cptr cells xs b o hl hc _ hnf ih=>exact .cptr cells xs b o hl (fun i x hx=>hF _ _ _ (hc i x hx)) ih hnf
 | slice ow n cells xs b o ao cap hl hn hb hz hc _ how h1 hnf ih=>exact .slice ow n cells xs b o ao cap hl hn hb hz (fun i x hx=>hF _ _ _ (hc i x hx)) ih how h1 hnf
 | rslice r off n wh base g ao cap h1 h2 h3 h4 h5=>exact .rslice r off n wh base g ao cap h1 h2 h3 h4 h5
 | func fn a c xs ys h1 h2 _ _ ih1 ih2=>exact .func fn a c xs ys h1 h2 ih1 ih2
 | nilFunc=>exact .nilFunc
 | iface t v x _ ih=>exact .iface t v x ih
 | nilIface=>exact .nilIface
 | opq m=>exact .opq m
 | agg cells xs h1 _ ih=>exact .agg cells xs h1 ih
 | tuple cells xs h1 _ ih=>exact .tuple cells xs h1 ih
theorem p8.carry (hF:∀ b o x,X4 lab w b o x -> X4 lab' w' b o x) {v:List V} {x:List Value} (h:p8 ρ lab w v x):p8 ρ lab' w' v x :=
 ⟨h.1,fun i v x hv hx=>(h.2 i v x hv hx).carry hF⟩
theorem Sim.relab (hS:Sim ρ lab H w) (hF:∀ b o x,X4 lab w b o x -> X4 lab' w' b o x) (hO:∀ b o k,L9 lab w k b o -> L9 lab' w' k b o /\ cellAt w' b o = cellAt w b o)
  (hl:∀ b o k,lab' b o = some k -> b < w'.heap.size):Sim ρ lab' H w' where
 row:=fun k cs hk=>by
  obtain ⟨b,o,xs,h1,h2,h3⟩:=hS.row k cs hk
  exact ⟨b,o,xs,h1,h2.carry hF,fun i x hx=>⟨(hO _ _ _ (h3 i x hx).1).1,(hO _ _ _ (h3 i x hx).1).2.trans (h3 i x hx).2⟩⟩
 grow:=fun k e cs hk=>by
  obtain ⟨base,c,xs,h1,h2,h3,h4,h8,h9,h5⟩:=hS.grow k e cs hk
  refine ⟨base,c,xs,h1,h2.carry hF,h3,h4,h8,h9,fun b o hb=>?_⟩
  obtain ⟨h6,h7⟩:=h5 b o hb
  refine ⟨fun i hi=>(hO _ _ _ (h6 i hi)).1,fun i x hx=>?_⟩
  have hi:i < c * e:=by
   have:i < xs.length:=by
    rcases Nat.lt_or_ge i xs.length with h | h
    ·exact h
    ·rw [List.getElem?_eq_none h] at hx; cases hx
   rw [h2.1] at this; omega
  exact (hO _ _ _ (h6 i hi)).2.trans (h7 i x hx)
 tip:=fun k e n hk=>by
  obtain ⟨ao,cap,h1,h2,h3,h4,h5⟩:=hS.tip k e n hk
  exact ⟨ao,cap,h1,h2,h3,h4,fun a ha=>⟨(h5 a ha).1,fun i hi hj=>(hO _ _ _ ((h5 a ha).2 i hi hj)).1⟩⟩
 hdom:=hS.hdom
 adom:=hS.adom
 ldom:=hl
def Lab.mine (lab:Lab) (B:Nat):Lab:=fun b o=>if b = B then some none else lab b o
def Lab.left (lab:Lab) (B:Nat):Lab:=fun b o=>if b = B then none else lab b o
theorem mineF (hg:K5 w w'):∀ b o x,X4 lab w b o x -> X4 (lab.mine w.heap.size) w' b o x:=fun b o x h=>by
 have hb:=M7 h.cell
 refine ⟨?_,(hg.cell hb o).trans h.cell⟩
 simp only [Lab.mine]
 rw [if_neg (by omega)]
 exact h.lab
theorem Sim.mine (hS:Sim ρ lab H w) (hg:K5 w w') (hB:w.heap.size < w'.heap.size):Sim ρ (lab.mine w.heap.size) H w':=by
 refine hS.relab (mineF hg) (fun b o k h=>?_) (fun b o k h=>?_)
 ·obtain ⟨x,hx⟩:=h.cell
  have hb:=M7 hx
  refine ⟨⟨?_,(hg.frozen hb o).trans h.free,x,(hg.cell hb o).trans hx⟩,hg.cell hb o⟩
  simp only [Lab.mine]
  rw [if_neg (by omega)]
  exact h.lab
 ·simp only [Lab.mine] at h
  split at h
  ·rename_i hb; subst hb; exact hB
  ·exact Nat.lt_of_lt_of_le (hS.ldom b o k h) hg.size
section
variable {w1 w2 w3:World} {B:Nat}
structure Wrote (B:Nat) (w w':World):Prop where
 size:w.heap.size <= w'.heap.size
 os:w'.os = w.os
 tape:w'.tape = w.tape
 output:w'.output = w.output
 blk:∀ b,b < w.heap.size -> b ≠ B -> w'.heap[b]? = w.heap[b]?
theorem Wrote.cell (h:Wrote B w w') {b:Nat} (hb:b < w.heap.size) (hn:b ≠ B) (o:Nat):cellAt w' b o = cellAt w b o:=by simp only [cellAt,World.cell?,h.blk b hb hn]
theorem Wrote.frozen (h:Wrote B w w') {b:Nat} (hb:b < w.heap.size) (hn:b ≠ B) (o:Nat):w'.frozen? ⟨b,o,none⟩ = w.frozen? ⟨b,o,none⟩:=by simp only [World.frozen?,h.blk b hb hn]
theorem Wrote.refl (B:Nat) (w:World):Wrote B w w:=⟨Nat.le_refl _,rfl,rfl,rfl,fun _ _ _=>rfl⟩
theorem leftF (E:Ext (lab.mine B) w1 lab' w2) (hw:Wrote B w2 w3):∀ b o x,X4 lab' w2 b o x -> X4 (lab'.left B) w3 b o x:=fun b o x h=>by
 have hb:=M7 h.cell
 have hn:b ≠ B:=by
  rintro rfl
  have:=(E.ctx b o).2 (by simp [Lab.mine])
  rw [h.lab] at this; cases this
 refine ⟨?_,(hw.cell hb hn o).trans h.cell⟩
 simp only [Lab.left]
 rw [if_neg hn]
 exact h.lab
theorem Sim.left (hS:Sim ρ' lab' H w2) (E:Ext (lab.mine B) w1 lab' w2) (hw:Wrote B w2 w3):Sim ρ' (lab'.left B) H w3:=by
 refine hS.relab (leftF E hw) (fun b o k h=>?_) (fun b o k h=>?_)
 ·obtain ⟨x,hx⟩:=h.cell
  have hb:=M7 hx
  have hn:b ≠ B:=by
   rintro rfl
   have:=(E.ctx b o).2 (by simp [Lab.mine])
   rw [h.lab] at this; cases this
  refine ⟨⟨?_,(hw.frozen hb hn o).trans h.free,x,(hw.cell hb hn o).trans hx⟩,hw.cell hb hn o⟩
  simp only [Lab.left]
  rw [if_neg hn]
  exact h.lab
 ·simp only [Lab.left] at h
  split at h
  ·cases h
  ·exact Nat.lt_of_lt_of_le (hS.ldom b o k h) hw.size
theorem Ext.left (hS:Sim ρ lab H w) (hg:K5 w w1) (hB:w.heap.size < w1.heap.size) (E:Ext (lab.mine w.heap.size) w1 lab' w2) (hw:Wrote w.heap.size w2 w3):Ext lab w (lab'.left w.heap.size) w3 where
 size:=Nat.le_trans hg.size (Nat.le_trans E.size hw.size)
 os:=hw.os.trans (E.os.trans hg.os)
 tape:=hw.tape.trans (E.tape.trans hg.tape)
 output:=hw.output.trans (E.output.trans hg.output)
 lb:=fun b o hb hl=>by
  simp only [Lab.left]
  rw [if_neg (by omega)]
  exact E.lb b o (Nat.lt_of_lt_of_le hb hg.size) (by simp only [Lab.mine]; rw [if_neg (by omega)]; exact hl)
 ctx:=fun b o=>by
  by_cases hb:b = w.heap.size
  ·subst hb
   have h1:(lab'.left w.heap.size) w.heap.size o = none:=by simp [Lab.left]
   rw [h1]
   constructor
   ·intro h; cases h
   ·intro h
    have:=hS.ldom _ _ _ h
    omega
  ·have:=E.ctx b o
   simp only [Lab.left,Lab.mine,if_neg hb] at this ⊢
   exact this
 cl:=fun b o hb hl=>by
  have hb1:=Nat.lt_of_lt_of_le hb hg.size
  have h1:=E.cl b o hb1 (fun k=>by simp only [Lab.mine]; rw [if_neg (by omega)]; exact hl k)
  have hb2:=Nat.lt_of_lt_of_le hb1 E.size
  exact ⟨(hw.cell hb2 (by omega) o).trans (h1.1.trans (hg.cell hb o)),(hw.frozen hb2 (by omega) o).trans (h1.2.trans (hg.frozen hb o))⟩
 blk:=fun b hb hl=>by
  have hb1:=Nat.lt_of_lt_of_le hb hg.size
  have h1:=E.blk b hb1 (fun o k=>by simp only [Lab.mine]; rw [if_neg (by omega)]; exact hl o k)
  have hb2:=Nat.lt_of_lt_of_le hb1 E.size
  exact (hw.blk b hb2 (by omega)).trans (h1.trans (hg.blk b hb))
end
theorem E_via {env:Env} {g g':Nat} {args l:List V} {H H':Hp} {o out:Out} {pre:List V -> Hp -> Option (Nat × List V × Hp)} {post:List V -> Hp -> Out -> Option Out} (hi:env.intr g = some (.via pre post)) (hp:pre args H = some (g',l,H'))
  (hc:E env (.call g' l) H' = some o) (ho:post args H o = some out):E env (.call g args) H = some out :=
 a9i (by simp only [step,hi,hp,hc,ho])
end Go.Vm
namespace Go.Proofs.YtlhgheonlcjpaaaGreat.Rp
open Go Go.Vm
theorem a8r {env:Env} {orc:Orc} {H:Hp} {k g:Nat} {args ac:List V} {ns:List Nat} {H3 H4 Hc:Hp} {v v4:V} (hq:env.quiet g = false) (hp:a3F env g args H = some (ns,ac,Hc)) (hc:orc (.call g ac) Hc = some (.ret v H3)) (h7:a3q (L8 (z8 ns k) dep v) = some v4)
  (h8:Z5 (O5 (z8 ns k) H3 H) = some H4) (h9:a0P H H3 k ns.length = true):D7 env orc k g args H = some (.val v4 H4):=by
 rw [a0h] at h8
 rw [a4x] at h7
 obtain ⟨I7,H2,h1,h2,h3,h4⟩:=a3G hp
 simp only [D7,hq,h1,h2,h3,h4,hc,h7,h8,h9]
theorem b0X {env:Env} {orc:Orc} {ops:Array Oper} {o:Oper} {rest:List Oper} {fr:Fr} {H H1:Hp} {K:Res -> Prop} {rc:Operand} {m:String} {args:Array Operand} {at_:Array TypeId} {t g:Nat} {v0 v:V} {l:List V}
  (hw:o8 ops o fr = some true) (ho:o.op = .call ⟨.invoke rc m,args,at_⟩) (hr:ev fr rc = some (.iface t v0)) (hl:evL fr args.toList = some l) (hm:env.meth t m = some g) (hc:D7 env orc (newName o) g (v0 :: l) H = some (.val v H1))
  (h:Go.Vm.Os env orc ops rest (H8 o.dst v fr) H1 K):Go.Vm.Os env orc ops (o :: rest) fr H K:=by
 have hp:A9 o.op = false:=by rw [ho]; rfl
 refine U1 hw hp (v:=v) (H1:=H1) ?_ h
 unfold E8
 rw [ho]
 simp only [hr,hl,hm,hc]
theorem do_E:E env (.call 43 [.ptr 0 0,.func (.func 44) [.ptr 0 0] []]) [(0,.row [.int .u32 0,.int .i32 0,.int .u32 0,.nilIface,.slice (.tag 1) 8 pairs]),(1,.tip 1 8)] = some (.ret (.tuple []) [(0,.row [.int .u32 1,.int .i32 0,.int .u32 0,.iface 121 (.ptr 2 0),.slice .nil 0 []]),(1,.tip 1 8),(2,.row ((List.range 256).map cell ++ [.rslice 3 0 4 true])),(3,.grow 1 TR)]) :=
 E_via (g':=44) (l:=[.ptr 0 0]) (H':=[(0,.row [.int .u32 0,.int .i32 1,.int .u32 0,.nilIface,.slice (.tag 1) 8 pairs]),(1,.tip 1 8)]) rfl (by kernel_rfl) bu_E (by kernel_rfl)
theorem rp_E (s:List UInt8) (hs:s.length <= 1000000):E env (.call 24 [.ptr 0 0,.str s]) [(0,.row [.int .u32 0,.int .i32 0,.int .u32 0,.nilIface,.slice (.tag 1) 8 pairs]),(1,.tip 1 8)] = some (.ret (.str (esc s)) [(0,.row [.int .u32 1,.int .i32 0,.int .u32 0,.iface 121 (.ptr 2 0),.slice .nil 0 []]),(1,.tip 1 8),(2,.row ((List.range 256).map cell ++ [.rslice 3 0 4 true])),(3,.grow 1 TR)]):=by
 refine y7 (env:=env) rfl Tryz.func24 rfl rfl ?_
 refine j4 ?_
 refine j3 ?_
 refine d9 rfl rfl rfl ?_
 refine o5 ?_
 refine j4 ?_
 refine j3 ?_
 refine d9 rfl rfl rfl ?_
 refine d9 rfl rfl rfl ?_
 refine d9 rfl rfl rfl ?_
 refine d9 rfl rfl rfl ?_
 refine d9 rfl rfl rfl ?_
 refine a2Q (v:=.tuple []) (H1:=[(0,.row [.int .u32 1,.int .i32 0,.int .u32 0,.iface 121 (.ptr 704 0),.slice .nil 0 []]),(1,.tip 1 8),(704,.row ((List.range 256).map cell ++ [.rslice 705 0 4 true])),(705,.grow 1 TR)]) rfl rfl rfl (a0e (ns:=[0,1]) (ac:=[.ptr 0 0,.func (.func 44) [.ptr 0 0] []]) (Hc:=[(0,.row [.int .u32 0,.int .i32 0,.int .u32 0,.nilIface,.slice (.tag 1) 8 pairs]),(1,.tip 1 8)]) rfl (by kernel_rfl) do_E (by kernel_rfl) (by kernel_rfl) (by kernel_rfl)) ?_
 refine o5 ?_
 refine j4 ?_
 refine j3 ?_
 refine d9 rfl rfl rfl ?_
 refine d9 rfl rfl rfl ?_
 refine d9 rfl rfl rfl ?_
 refine F5 rfl rfl rfl (v:=.iface 121 (.ptr 704 0)) (by kernel_rfl) ?_
 refine d9 rfl rfl rfl ?_
 refine b0X (g:=126) (v:=.str (esc s)) (H1:=[(0,.row [.int .u32 1,.int .i32 0,.int .u32 0,.iface 121 (.ptr 704 0),.slice .nil 0 []]),(1,.tip 1 8),(704,.row ((List.range 256).map cell ++ [.rslice 705 0 4 true])),(705,.grow 1 TR)]) rfl rfl rfl rfl rfl (a8r (ns:=[704,705]) (ac:=[.ptr 0 0,.str s]) (Hc:=[(0,.row RR),(1,.grow 1 TR)]) rfl (by kernel_rfl) (bs_E s hs) (by kernel_rfl) (by kernel_rfl) (by kernel_rfl)) ?_
 refine d9 rfl rfl rfl ?_
 refine o5 ?_
 exact j5 ⟨.str (esc s),by kernel_rfl,by kernel_rfl⟩
theorem esc_E (s:List UInt8) (hs:s.length <= 1000000):E env (.call 16 [.str s]) [] = some (.ret (.str (esc s)) []):=by
 refine y7 (env:=env) rfl Tryz.func16 rfl rfl ?_
 refine j4 ?_
 refine j3 ?_
 refine d9 rfl rfl rfl ?_
 refine o5 ?_
 refine j4 ?_
 refine j3 ?_
 refine d9 rfl rfl rfl ?_
 refine a2Q (v:=.ptr 320 0) (H1:=[(320,.row [.int .u32 0,.int .i32 0,.int .u32 0,.nilIface,.slice (.tag 321) 8 pairs]),(321,.tip 1 8)]) rfl rfl rfl (a0e (ns:=[]) (ac:=[.slice .sealed 8 pairs]) (Hc:=[]) rfl (by kernel_rfl) nr_E (by kernel_rfl) (by kernel_rfl) (by kernel_rfl)) ?_
 refine d9 rfl rfl rfl ?_
 refine a2Q (v:=.str (esc s)) (H1:=[(320,.row [.int .u32 1,.int .i32 0,.int .u32 0,.iface 121 (.ptr 448 0),.slice .nil 0 []]),(321,.tip 1 8),(448,.row ((List.range 256).map cell ++ [.rslice 449 0 4 true])),(449,.grow 1 TR)]) rfl rfl rfl (a0e (ns:=[320,321]) (ac:=[.ptr 0 0,.str s]) (Hc:=[(0,.row [.int .u32 0,.int .i32 0,.int .u32 0,.nilIface,.slice (.tag 1) 8 pairs]),(1,.tip 1 8)]) rfl (by kernel_rfl) (rp_E s hs) (by kernel_rfl) (by kernel_rfl) (by kernel_rfl)) ?_
 refine d9 rfl rfl rfl ?_
 refine o5 ?_
 exact j5 ⟨.str (esc s),by kernel_rfl,by kernel_rfl⟩
def escF:List V -> Option V:=fun args=>match args with
 | [.str s]=>match leN s.length 1000000 with
  | true=>some (.str (esc s))
  | false=>none
 | _=>none
theorem esc_intr:a4p Tryz.prog 16 (valI escF):=by
 refine a8o a6O (fun args v h=>?_) ⟨_,_,Tryz.func16,by kernel_rfl,rfl⟩
 unfold escF at h
 split at h
 ·rename_i s
  split at h
  ·rename_i hs
   cases h
   exact ⟨rfl,rfl,esc_E s (a0F hs)⟩
  ·cases h
 ·cases h
end Go.Proofs.YtlhgheonlcjpaaaGreat.Rp
namespace Go.Proofs.YtlhgheonlcjpaaaGreat
open Go Go.Vm
def a5E (t:Sc.Tok):Tok:=⟨t.k,t.t,(t.a:Nat),(t.l:Nat)⟩
def tokL:Sc.MR -> List Tok
 | .done l=>l.map a5E
 | _=>[]
def a3b:Sc.MR -> Int
 | .err c _=>c
 | _=>0
def tokA:Sc.MR -> Int
 | .err _ a=>(a:Nat)
 | _=>0
theorem a8t:∀ l:List Sc.Tok,a3H (l.map a5E) = Sc.K7 l
 | []=>rfl
 | t :: r=>by
  rw [List.map_cons,a1Q.cons,a8t r]
  rfl
theorem tokV_cv {r:Sc.MR} (h:Sc.RBd r):Sc.a2E r = .tuple [.slice .sealed (List.length (tokL r)) (a3H (tokL r)),.agg [.int .i64 (a3b r),.int .i64 (tokA r)]]:=by
 cases r with
 | go x=>exact h.elim
 | done l =>
  simp only [tokL,Sc.a2E,a8t,List.length_map,a3b,tokA]
 | err c a=>rfl
theorem a9d {env:Env} {g:Nat} {s:Str} (hi:env.intr g = some (.plain (valI Sc.tokF))) (h:Sc.RBd (Sc.a0x s)) :
  E env (.call g [.str s]) [] = some (.ret (.tuple [.slice .sealed (List.length (tokL (Sc.a0x s))) (a3H (tokL (Sc.a0x s))),.agg [.int .i64 (a3b (Sc.a0x s)),.int .i64 (tokA (Sc.a0x s))]]) []):=by
 refine a7C hi ?_
 rw [<- tokV_cv h]
 rfl
theorem tok_code (s:Str):(a3b (Sc.a0x s) = 0 /\ tokA (Sc.a0x s) = 0) ∨ (a3b (Sc.a0x s) ≠ 0 /\ tokL (Sc.a0x s) = []):=by
 have h:=(Sc.a1N s).1
 generalize Sc.a0x s = r at h
 cases r with
 | go x=>exact h.bd.elim
 | done l=>exact .inl ⟨rfl,rfl⟩
 | err c a=>exact .inr ⟨h.nz c a rfl,rfl⟩
end Go.Proofs.YtlhgheonlcjpaaaGreat
namespace Go.Proofs.YtlhgheonlcjpaaaGreat
open Go Go.Vm
def escG (s1:Str):Option Str:=match leN s1.length 1000000 with
 | true=>some (Rp.esc s1)
 | false=>none
noncomputable def a0q (src1:Str):Option (List Tok × Int × Int):=some (tokL (Sc.a0x src1),a3b (Sc.a0x src1),tokA (Sc.a0x src1))
end Go.Proofs.YtlhgheonlcjpaaaGreat
namespace Go.Proofs.YtlhgheonlcjpaaaGreat
open Go Go.Vm
noncomputable def Y6:Option (Bool) :=
 (a0q [108,101,116,32,120]).bind fun (l1,c2,a3) =>
 cond ((eqB c2 0) && ((eqB a3 0) && true)) (
 cond (eqB (List.length l1:Int) 2) (
 (idx' l1 0).bind fun x4 =>
 cond ((eqB x4.kind 9) && ((eqS x4.text [108,101,116]) && ((eqB x4.at_ 0) && ((eqB x4.len 3) && true)))) (
 (idx' l1 1).bind fun x5 =>
 some (((eqB x5.kind 1) && ((eqS x5.text [120]) && ((eqB x5.at_ 4) && ((eqB x5.len 1) && true)))))) (
 some (false))) (
 some (false))) (
 some (false))
def a5i:Bool -> Out
 | r501=>.ret (.bool r501) []
def O6 (n:Nat) (s1:Str):Nat -> Int -> Option (Lr (Unit) (Str × Int))
  | 0,_=>none
  | m2 + 1,x502 =>
      cond (ltB x502 (List.length s1:Int)) (
      Option.bind (α:=Bool) (
      (a3N s1 x502).bind fun b2 =>
      cond (ltB b2 32) (
      (a3N s1 x502).bind fun b3 =>
      cond (!eqB b3 10) (
      (a3N s1 x502).bind fun b4 =>
      some (!eqB b4 9)) (
      some false)) (
      some false)) fun x506 =>
      cond x506 (
      some (.out (([],4)))) (
      O6 n s1 m2 (w64 (x502 + 1)))) (
      some (.brk ()))
def Y5 (n:Nat) (s1:Str):Option (Str × Int) :=
 a8p (α:=Unit) (
 O6 n s1 n 0) fun _ =>
 (escG s1).bind fun rr5 =>
 (cat [34] rr5).bind fun s6 =>
 (cat s6 [34]).bind fun s7 =>
 cond (ltB 8000 (List.length s7:Int)) (
 some (([],2))) (
 some ((s7,0)))
def a2C (s1:Str):Str × Int -> Out
 | (r503,r504)=>.ret (.tuple [.str r503,.i r504]) []
def M0 (n:Nat) (s1:Str):Nat -> (List Int) -> Int -> Option (List Int)
  | 0,_,_=>none
  | m3 + 1,b503,i504 =>
      cond (ltB i504 (List.length s1:Int)) (
      Option.bind (α:=List Int) (
      (a3N s1 i504).bind fun b2 =>
      cond (eqB b2 10) (
      (app 1 b503 ([92,110]:List Int)).bind fun l3 =>
      some l3) (
      cond (eqB b2 9) (
      (app 1 b503 ([92,116]:List Int)).bind fun l4 =>
      some l4) (
      Option.bind (α:=Bool) (
      cond (eqB b2 92) (
      some (eqB b2 92)) (
      some (eqB b2 34))) fun x507 =>
      cond x507 (
      (a3N s1 i504).bind fun b5 =>
      (app 1 b503 ([92,b5]:List Int)).bind fun l6 =>
      some l6) (
      (a3N s1 i504).bind fun b7 =>
      (app 1 b503 ([b7]:List Int)).bind fun l8 =>
      some l8)))) fun b508 =>
      M0 n s1 m3 b508 (w64 (i504 + 1))) (
      some b503)
def S9 (n:Nat) (s1:Str):Option (Str) :=
 Option.bind (α:=List Int) (
 M0 n s1 n ([]:List Int) 0) fun b511 =>
 some ((bytesOf b511))
def a4a (s1:Str):Str -> Out
 | r512=>.ret (.str r512) []
def M5 (n:Nat) (s1:Str):Nat -> Int -> Option (Lr (Unit) (Str × Int))
  | 0,_=>none
  | m2 + 1,i502 =>
      cond (ltB i502 (List.length s1:Int)) (
      Option.bind (α:=Bool) (
      (a3N s1 i502).bind fun b2 =>
      cond (ltB b2 32) (
      (a3N s1 i502).bind fun b3 =>
      cond (!eqB b3 9) (
      (a3N s1 i502).bind fun b4 =>
      some (!eqB b4 10)) (
      some false)) (
      some false)) fun x505 =>
      cond x505 (
      some (.out (([],4)))) (
      M5 n s1 m2 (w64 (i502 + 1)))) (
      some (.brk ()))
def U8 (n:Nat) (s1:Str):Option (Str × Int) :=
 a8p (α:=Unit) (
 M5 n s1 n 0) fun _ =>
 Option.bind (α:=Bool) (
 cond (ltB 8000 (List.length s1:Int)) (
 some true) (
 (S9 n s1).bind fun r5 =>
 some (ltB 8000 (w64 ((List.length r5:Int) + 2))))) fun x513 =>
 cond x513 (
 some (([],2))) (
 (S9 n s1).bind fun r6 =>
 (cat [34] r6).bind fun s7 =>
 (cat s7 [34]).bind fun s8 =>
 some ((s8,0)))
def a2c (s1:Str):Str × Int -> Out
 | (r514,r515)=>.ret (.tuple [.str r514,.i r515]) []
noncomputable def O1 (s1:Str):Option (Str × Int) :=
 (a0q s1).bind fun (l2,c3,a4) =>
 Option.bind (α:=Bool) (
 cond (!((eqB c3 0) && ((eqB a4 0) && true))) (
 some true) (
 cond (!eqB (List.length l2:Int) 1) (
 some true) (
 (idx' l2 0).bind fun x5 =>
 cond (!eqB x5.kind 4) (
 some true) (
 (idx' l2 0).bind fun x6 =>
 some (!eqB x6.len (List.length s1:Int)))))) fun x501 =>
 cond x501 (
 some (([],4))) (
 (idx' l2 0).bind fun x7 =>
 some ((x7.text,0)))
def a4L (s1:Str):Str × Int -> Out
 | (r502,r503)=>.ret (.tuple [.str r502,.i r503]) []
noncomputable def X9 (s1:Str):Option (Str × Int) :=
 (a0q s1).bind fun (l2,c3,a4) =>
 Option.bind (α:=Bool) (
 cond (!eqB c3 0) (
 some true) (
 cond (!eqB (List.length l2:Int) 1) (
 some true) (
 (idx' l2 0).bind fun x5 =>
 cond (!eqB x5.kind 4) (
 some true) (
 (idx' l2 0).bind fun x6 =>
 some (!eqB x6.len (List.length s1:Int)))))) fun x501 =>
 cond x501 (
 some (([],4))) (
 (idx' l2 0).bind fun x7 =>
 some ((x7.text,0)))
def a4b (s1:Str):Str × Int -> Out
 | (r502,r503)=>.ret (.tuple [.str r502,.i r503]) []
noncomputable def V6 (n:Nat) (s1:Str):Option (Bool) :=
 cond (ltB 12000 (List.length s1:Int)) (
 some (true)) (
 (Y5 n s1).bind fun (r2,r3) =>
 (U8 n s1).bind fun (r4,r5) =>
 (O1 s1).bind fun (r6,r7) =>
 (X9 s1).bind fun (r8,r9) =>
 Option.bind (α:=Bool) (
 cond (!eqS r2 r4) (
 some true) (
 cond (!eqB r3 r5) (
 some true) (
 cond (!eqS r6 r8) (
 some true) (
 some (!eqB r7 r9))))) fun x502 =>
 cond x502 (
 some (false)) (
 cond (eqB r3 0) (
 (O1 r2).bind fun (r10,r11) =>
 cond (eqB r11 0) (
 cond (eqS r10 s1) (
 (Y6).bind fun r12 =>
 some (r12)) (
 some (false))) (
 some (false))) (
 (Y6).bind fun r13 =>
 some (r13))))
def a2u (s1:Str):Bool -> Out
 | r501=>.ret (.bool r501) []
end Go.Proofs.YtlhgheonlcjpaaaGreat
namespace Go.Proofs.YtlhgheonlcjpaaaGreat
open Go Go.Vm
theorem w64_id {a:Int} (h1:-9223372036854775808 <= a) (h2:a <= 9223372036854775807):w64 a = a:=by
 unfold w64
 simp only [IntKind.wrap,IntKind.bits,IntKind.signed]
 simp
 omega
theorem a6v {k:Nat} (h:k <= 1000000):w64 ((k:Int) + 1) = ((k + 1:Nat):Int):=by rw [w64_id (by omega) (by omega)]; rfl
theorem a3R {a b:Int} (h:a < b):ltB a b = true:=by simp [ltB,h]
theorem a3i {a b:Int} (h:¬ a < b):ltB a b = false:=by simp [ltB,h]
theorem R9 {a b:Int} (h:a = b):eqB a b = true:=by simp [eqB,h]
theorem a1r {a b:Int} (h:¬ a = b):eqB a b = false:=by simp [eqB,h]
theorem Z4 (s:Str):eqS s s = true:=by simp [eqS]
theorem a7X {α:Type} {l:List α} {i:Nat} (h:i < l.length):idx' l (i:Int) = some l[i]:=by
 have h1:inR (i:Int) l.length = true:=by simp [inR,h]
 simp [idx',h1,h]
theorem a7W {s:Str} {i:Nat} (h:i < s.length):a3N s (i:Int) = some (((s.getD i 0).toNat:Nat):Int):=by
 have h1:inR (i:Int) s.length = true:=by simp [inR,h]
 simp [a3N,h1]
theorem app_ok {α:Type} {b:Nat} {l m:List α} (h:(l.length + m.length) * (b + 1) <= 70368744177664):app b l m = some (l ++ m):=by
 unfold app leN
 rw [decide_eq_true h]
theorem a7J {a b:Str} (h:a.length + b.length <= 9223372036854775807):cat a b = some (a ++ b):=by
 have:leB ((a.length + b.length:Nat):Int) 9223372036854775807 = true:=by simp only [leB,decide_eq_true_eq]; omega
 simp only [cat,this]
theorem a9m (s:Str):bytesOf (W9 s) = s:=by
 simp [bytesOf,W9,List.map_map,Function.comp_def]
def okB (b:UInt8):Bool:=decide (32 <= b.toNat) || decide (b.toNat = 10) || decide (b.toNat = 9)
theorem bad_a (n:Nat):cond (ltB (n:Int) 32) (cond (!eqB (n:Int) 10) (some (!eqB (n:Int) 9)) (some false)) (some false) = some (!(decide (32 <= n) || decide (n = 10) || decide (n = 9))):=by
 by_cases h:32 <= n
 ·rw [a3i (by omega)]; simp [h]
 ·rw [a3R (by omega)]
  by_cases h1:n = 10
  ·subst h1; rw [R9 (by rfl)]; rfl
  ·rw [a1r (a:=(n:Int)) (b:=10) (by omega)]
   by_cases h2:n = 9
   ·subst h2; rw [R9 (by rfl)]; rfl
   ·rw [a1r (a:=(n:Int)) (b:=9) (by omega)]; simp [h,h1,h2]
theorem bad_b (n:Nat):cond (ltB (n:Int) 32) (cond (!eqB (n:Int) 9) (some (!eqB (n:Int) 10)) (some false)) (some false) = some (!(decide (32 <= n) || decide (n = 10) || decide (n = 9))):=by
 by_cases h:32 <= n
 ·rw [a3i (by omega)]; simp [h]
 ·rw [a3R (by omega)]
  by_cases h1:n = 9
  ·subst h1; rw [R9 (by rfl)]; rfl
  ·rw [a1r (a:=(n:Int)) (b:=9) (by omega)]
   by_cases h2:n = 10
   ·subst h2; rw [R9 (by rfl)]; rfl
   ·rw [a1r (a:=(n:Int)) (b:=10) (by omega)]; simp [h,h1,h2]
def allL (s:Str):Lr Unit (Str × Int):=match s.all okB with
 | true=>.brk ()
 | false=>.out ([],4)
theorem a6N {s:Str} {i:Nat} (h:i < s.length):s.drop i = s.getD i 0 :: s.drop (i + 1):=by
 rw [List.drop_eq_getElem_cons h]; simp [h]
theorem b0E {s:Str} (hs:s.length <= 100000) (n:Nat):∀ (m i:Nat),i <= s.length -> s.length - i < m -> O6 n s m i = some (allL (s.drop i))
 | 0,i,_,h=>absurd h (by omega)
 | m + 1,i,hi,hm=>by
  rw [O6]
  by_cases h:i < s.length
  ·rw [a3R (by omega),cond_true,a7W h]
   simp only [Option.bind_some]
   rw [bad_a,Option.bind_some,a6v (by omega),b0E hs n m (i + 1) (by omega) (by omega),a6N h]
   simp only [allL,List.all_cons]
   generalize he:(decide (32 <= (s.getD i 0).toNat) || decide ((s.getD i 0).toNat = 10) || decide ((s.getD i 0).toNat = 9)) = e
   have:okB (s.getD i 0) = e:=he
   rw [this]
   cases e <;> simp
  ·rw [a3i (by omega),cond_false,List.drop_eq_nil_of_le (by omega)]; rfl
theorem a8W {s:Str} (hs:s.length <= 100000) (n:Nat):∀ (m i:Nat),i <= s.length -> s.length - i < m -> M5 n s m i = some (allL (s.drop i))
 | 0,i,_,h=>absurd h (by omega)
 | m + 1,i,hi,hm=>by
  rw [M5]
  by_cases h:i < s.length
  ·rw [a3R (by omega),cond_true,a7W h]
   simp only [Option.bind_some]
   rw [bad_b,Option.bind_some,a6v (by omega),a8W hs n m (i + 1) (by omega) (by omega),a6N h]
   simp only [allL,List.all_cons]
   generalize he:(decide (32 <= (s.getD i 0).toNat) || decide ((s.getD i 0).toNat = 10) || decide ((s.getD i 0).toNat = 9)) = e
   have:okB (s.getD i 0) = e:=he
   rw [this]
   cases e <;> simp
  ·rw [a3i (by omega),cond_false,List.drop_eq_nil_of_le (by omega)]; rfl
theorem ints_app (a b:Str):W9 (a ++ b) = W9 a ++ W9 b:=by simp [W9]
theorem ints_len (a:Str):(W9 a).length = a.length:=by simp [W9]
theorem a0r {b:UInt8} {n:Nat} (h:b.toNat = n) (hn:n < 256):b = UInt8.ofNat n:=by rw [<- h]; simp
theorem one_step {b:UInt8} {l:List Int} (hl:l.length <= 1000000):(cond (eqB ((b.toNat:Nat):Int) 10) ((app 1 l ([92,110]:List Int)).bind fun l3=>some l3) (
      cond (eqB ((b.toNat:Nat):Int) 9) ((app 1 l ([92,116]:List Int)).bind fun l4=>some l4) (
      Option.bind (α:=Bool) (cond (eqB ((b.toNat:Nat):Int) 92) (some (eqB ((b.toNat:Nat):Int) 92)) (some (eqB ((b.toNat:Nat):Int) 34))) fun x507 =>
      cond x507 ((app 1 l ([92,((b.toNat:Nat):Int)]:List Int)).bind fun l6=>some l6) ((app 1 l ([((b.toNat:Nat):Int)]:List Int)).bind fun l8=>some l8)))) = some (l ++ W9 (Rp.X6 b)):=by
  have a2:∀ x y:Int,app 1 l [x,y] = some (l ++ [x,y]):=fun x y=>app_ok (by simp only [List.length_cons,List.length_nil]; omega)
  have a1:∀ x:Int,app 1 l [x] = some (l ++ [x]):=fun x=>app_ok (by simp only [List.length_cons,List.length_nil]; omega)
  simp only [a2,a1,Option.bind_some]
  by_cases h1:b.toNat = 10
  · have:=a0r h1 (by omega); subst this; simp [eqB,Rp.X6,W9]
  by_cases h2:b.toNat = 9
  · have:=a0r h2 (by omega); subst this; simp [eqB,Rp.X6,W9]
  by_cases h3:b.toNat = 92
  · have:=a0r h3 (by omega); subst this; simp [eqB,Rp.X6,W9]
  by_cases h4:b.toNat = 34
  · have:=a0r h4 (by omega); subst this; simp [eqB,Rp.X6,W9]
  rw [a1r (a:=((b.toNat:Nat):Int)) (b:=10) (by omega),a1r (a:=((b.toNat:Nat):Int)) (b:=9) (by omega),a1r (a:=((b.toNat:Nat):Int)) (b:=92) (by omega),a1r (a:=((b.toNat:Nat):Int)) (b:=34) (by omega)]
  have e:Rp.X6 b = [b]:=by
    unfold Rp.X6
    rw [if_neg (fun e=>h1 (by rw [e]; rfl)),if_neg (fun e=>h2 (by rw [e]; rfl)),if_neg (fun e=>h3 (by rw [e]; rfl)),if_neg (fun e=>h4 (by rw [e]; rfl))]
  rw [e]; rfl
theorem a6P {s:Str} (hs:s.length <= 100000) (n:Nat):∀ (m i:Nat),i <= s.length -> s.length - i < m -> M0 n s m (W9 (Rp.esc (s.take i))) i = some (W9 (Rp.esc s))
 | 0,i,_,h=>absurd h (by omega)
 | m + 1,i,hi,hm=>by
  rw [M0]
  by_cases h:i < s.length
  ·have hl:=Rp.a1S (s.take i)
   rw [List.length_take] at hl
   rw [a3R (by omega),cond_true,a7W h]
   simp only [Option.bind_some]
   rw [one_step (by rw [ints_len]; omega),Option.bind_some,a6v (by omega),<- ints_app,<- Rp.a2p h]
   exact a6P hs n m (i + 1) (by omega) (by omega)
  ·rw [a3i (by omega),cond_false,List.take_of_length_le (by omega)]
theorem a9y {s:Str} (hs:s.length <= 100000) {n:Nat} (hn:s.length < n):S9 n s = some (Rp.esc s):=by
 have h:=a6P hs n n 0 (Nat.zero_le _) (by omega)
 rw [S9,show ([]:List Int) = W9 (Rp.esc (s.take 0)) from rfl,show (0:Int) = ((0:Nat):Int) from rfl,h,Option.bind_some,a9m]
def lit (s:Str):Str:=34 :: (Rp.esc s ++ [34])
theorem a5q (s:Str):(lit s).length = (Rp.esc s).length + 2:=by simp [lit]
theorem a6D {α ρ:Type} {a:α} {k:α -> Option ρ}:a8p (some (.brk a)) k = k a:=rfl
theorem a6F {α ρ:Type} {r:ρ} {k:α -> Option ρ}:a8p (some (.out r)) k = some r:=rfl
theorem all_t {s:Str} (h:s.all okB = true):allL s = .brk ():=by unfold allL; rw [h]
theorem all_f {s:Str} (h:s.all okB = false):allL s = .out ([],4):=by unfold allL; rw [h]
theorem b0D {s:Str} (hs:s.length <= 100000) {n:Nat} (hn:s.length < n):O6 n s n 0 = some (allL s):=by
 have e1:=b0E hs n n 0 (Nat.zero_le _) (by omega)
 rw [List.drop_zero] at e1
 exact e1
theorem a8V {s:Str} (hs:s.length <= 100000) {n:Nat} (hn:s.length < n):M5 n s n 0 = some (allL s):=by
 have e1:=a8W hs n n 0 (Nat.zero_le _) (by omega)
 rw [List.drop_zero] at e1
 exact e1
theorem quote_f {s:Str} (hs:s.length <= 100000) {n:Nat} (hn:s.length < n) (h:s.all okB = false):Y5 n s = some ([],4) /\ U8 n s = some ([],4):=by
 rw [Y5,U8,b0D hs hn,a8V hs hn,all_f h,a6F,a6F]
 exact ⟨rfl,rfl⟩
theorem lim_eq (a b:Nat) (h:a <= b):cond (ltB 8000 (a:Int)) (some true) (some (ltB 8000 ((b + 2:Nat):Int))) = some (ltB 8000 ((b + 2:Nat):Int)):=by
 by_cases h1:8000 < a
 ·rw [a3R (by omega),cond_true,a3R (by omega)]
 ·rw [a3i (a:=8000) (b:=(a:Int)) (by omega),cond_false]
theorem w64_two (n:Nat) (h:n <= 1000000):w64 ((n:Int) + 2) = ((n + 2:Nat):Int):=by rw [w64_id (by omega) (by omega)]; rfl
theorem tc1 {s:Str} (hl:(Rp.esc s).length <= 2 * s.length) (hs:s.length <= 100000) (hg:s.length <= (Rp.esc s).length):cond (ltB 8000 (List.length s:Int)) (some true) (some (ltB 8000 (w64 ((List.length (Rp.esc s):Int) + 2)))) = some (ltB 8000 (((Rp.esc s).length + 2:Nat):Int)):=by
 rw [w64_two _ (by omega),lim_eq _ _ hg]
theorem b0j (s:Str):[34] ++ Rp.esc s ++ [34] = lit s:=rfl
theorem b0F {s:Str} (hs:s.length <= 100000) {n:Nat} (hn:s.length < n) (h:s.all okB = true):Y5 n s = cond (ltB 8000 (((Rp.esc s).length + 2:Nat):Int)) (some ([],2)) (some (lit s,0)):=by
 have hl:=Rp.a1S s
 have e:escG s = some (Rp.esc s):=by simp only [escG,a1X (show s.length <= 1000000 by omega)]
 rw [Y5,b0D hs hn,all_t h,a6D,e,Option.bind_some,a7J (by simp only [List.length_cons,List.length_nil]; omega),Option.bind_some,a7J (by simp only [List.length_cons,List.length_nil,List.length_append]; omega),Option.bind_some,b0j,a5q]
theorem a8X {s:Str} (hs:s.length <= 100000) {n:Nat} (hn:s.length < n) (h:s.all okB = true):U8 n s = cond (ltB 8000 (((Rp.esc s).length + 2:Nat):Int)) (some ([],2)) (some (lit s,0)):=by
 have hl:=Rp.a1S s
 have hg:=Rp.a7L s
 rw [U8,a8V hs hn,all_t h,a6D,a9y hs hn,Option.bind_some,tc1 hl hs hg,Option.bind_some,Option.bind_some,a7J (by simp only [List.length_cons,List.length_nil]; omega),Option.bind_some,a7J (by simp only [List.length_cons,List.length_nil,List.length_append]; omega),Option.bind_some,b0j]
theorem a97 (s:Str):∃ r,O1 s = some r /\ X9 s = some r:=by
 have hc:=tok_code s
 rw [O1,X9]
 unfold a0q
 simp only [Option.bind_some]
 generalize tokL (Sc.a0x s) = l at hc
 generalize a3b (Sc.a0x s) = c at hc
 generalize tokA (Sc.a0x s) = a at hc
 rcases hc with ⟨rfl,rfl⟩ | ⟨h1,rfl⟩
 ·rw [R9 (a:=0) rfl]
  simp only [Bool.and_self,Bool.not_true,cond_false]
  match l with
  | [] =>
   rw [show (([]:List Tok).length:Int) = 0 from rfl,a1r (a:=0) (b:=1) (by decide)]
   exact ⟨_,rfl,rfl⟩
  | [t] =>
   have:idx' [t] 0 = some t:=a7X (l:=[t]) (i:=0) (by simp)
   rw [this]
   simp only [Option.bind_some]
   rw [show (([t]:List Tok).length:Int) = 1 from rfl,R9 (a:=1) rfl]
   simp only [Bool.not_true,cond_false]
   cases eqB t.kind 4 with
   | false=>exact ⟨_,rfl,rfl⟩
   | true=>cases eqB t.len (s.length:Int) <;> exact ⟨_,rfl,rfl⟩
  | t :: u :: r =>
   rw [a1r (a:=((t :: u :: r).length:Int)) (b:=1) (by simp only [List.length_cons]; omega)]
   exact ⟨_,rfl,rfl⟩
 ·rw [a1r h1]; exact ⟨_,rfl,rfl⟩
theorem getD_drop (q:Str) (i k:Nat):q.getD (i + k) 0 = (q.drop i).getD k 0:=by
 rw [List.getD_eq_getElem?_getD,List.getD_eq_getElem?_getD,List.getElem?_drop]
theorem a1D {q:Str} {o ins:Nat}:∀ (r:Str) (i:Nat) (text:Str),q.drop i = Rp.esc r ++ [34] -> r.all okB = true -> Sc.part q o ins i text = .fin (text ++ r) (i + (Rp.esc r).length + 1)
 | [],i,text,hd,_=>by
  have h0:q.getD i 0 = 34:=by have:=getD_drop q i 0; rw [hd] at this; exact this
  have hi:i < q.length:=by
   have:=congrArg List.length hd
   rw [List.length_drop] at this; simp [Rp.esc] at this; omega
  rw [Sc.a3X hi (by rw [h0]; decide) (by rw [h0]; rfl)]
  simp [Rp.esc]
 | b :: r,i,text,hd,hok=>by
  rw [List.all_cons,Bool.and_eq_true] at hok
  rw [Rp.U4] at hd
  have hlen:i + ((Rp.X6 b).length + (Rp.esc r).length + 1) = q.length:=by
   have:=congrArg List.length hd
   rw [List.length_drop] at this
   simp only [List.length_append,List.length_cons,List.length_nil] at this
   omega
  have h0:=getD_drop q i 0
  have h1:=getD_drop q i 1
  rw [hd] at h0 h1
  have fin:∀ k,(Rp.X6 b).length = k -> q.drop (i + k) = Rp.esc r ++ [34]:=fun k hk=>by
   rw [<- List.drop_drop,hd,List.append_assoc,<- hk,List.drop_left]
  by_cases c1:b = 10
  ·subst c1
   have e:Rp.X6 10 = [92,110]:=rfl
   rw [e] at h0 h1 hlen
   simp only [List.length_cons,List.length_nil] at hlen
   rw [Sc.a9S (by omega) (by rw [show q.getD i 0 = 92 from h0]; decide) (by rw [show q.getD i 0 = 92 from h0]; rfl) (by rw [show q.getD (i + 1) 0 = 110 from h1]; rfl),a1D r (i + 2) _ (fin 2 rfl) hok.2]
   rw [Rp.U4,e]; simp; omega
  by_cases c2:b = 9
  ·subst c2
   have e:Rp.X6 9 = [92,116]:=rfl
   rw [e] at h0 h1 hlen
   simp only [List.length_cons,List.length_nil] at hlen
   rw [Sc.a9T (by omega) (by rw [show q.getD i 0 = 92 from h0]; decide) (by rw [show q.getD i 0 = 92 from h0]; rfl) (by rw [show q.getD (i + 1) 0 = 116 from h1]; rfl),a1D r (i + 2) _ (fin 2 rfl) hok.2]
   rw [Rp.U4,e]; simp; omega
  by_cases c3:b = 92
  ·subst c3
   have e:Rp.X6 92 = [92,92]:=rfl
   rw [e] at h0 h1 hlen
   simp only [List.length_cons,List.length_nil] at hlen
   rw [Sc.a1E (by omega) (by rw [show q.getD i 0 = 92 from h0]; decide) (by rw [show q.getD i 0 = 92 from h0]; rfl) (.inl (by rw [show q.getD (i + 1) 0 = 92 from h1]; rfl)),a1D r (i + 2) _ (fin 2 rfl) hok.2,show q.getD (i + 1) 0 = 92 from h1]
   rw [Rp.U4,e]; simp; omega
  by_cases c4:b = 34
  ·subst c4
   have e:Rp.X6 34 = [92,34]:=rfl
   rw [e] at h0 h1 hlen
   simp only [List.length_cons,List.length_nil] at hlen
   rw [Sc.a1E (by omega) (by rw [show q.getD i 0 = 92 from h0]; decide) (by rw [show q.getD i 0 = 92 from h0]; rfl) (.inr (by rw [show q.getD (i + 1) 0 = 34 from h1]; rfl)),a1D r (i + 2) _ (fin 2 rfl) hok.2,show q.getD (i + 1) 0 = 34 from h1]
   rw [Rp.U4,e]; simp; omega
  have e:Rp.X6 b = [b]:=by simp only [Rp.X6,if_neg c1,if_neg c2,if_neg c3,if_neg c4]
  rw [e] at h0 h1 hlen
  simp only [List.length_cons,List.length_nil] at hlen
  have hb:32 <= b.toNat:=by
   have:=hok.1
   simp only [okB,Bool.or_eq_true,decide_eq_true_eq] at this
   rcases this with (h | h) | h
   ·exact h
   ·exact absurd (a0r h (by omega)) c1
   ·exact absurd (a0r h (by omega)) c2
  have h0:q.getD i 0 = b:=h0
  rw [Sc.a4F (by omega) (by rw [h0]; exact hb) (by rw [h0]; intro h; exact c4 (a0r (n:=34) h (by decide))) (by rw [h0]; intro h; exact c3 (a0r (n:=92) h (by decide))),a1D r (i + 1) _ (fin 1 (by rw [e]; rfl)) hok.2,h0]
  rw [Rp.U4,e]; simp; omega
theorem tok_lit {s:Str} (hok:s.all okB = true) (hl:(lit s).length <= 8000):Sc.a0x (lit s) = .done [⟨4,s,0,(lit s).length⟩]:=by
 have h:=(Sc.a1N (lit s)).2.2.2 hl
 refine Sc.Ends.det _ h ?_
 have hlen:=a5q s
 have h0:Sc.E9 (lit s) 0 = 0:=Sc.a4f (by omega) (by rfl) (.inl (by rw [show (lit s).getD 0 0 = 34 from rfl]; decide))
 have st1:Sc.stepM (lit s) ⟨0,[],[]⟩ = .go ⟨(lit s).length,[⟨4,s,0,(lit s).length⟩],[]⟩:=by
  rw [Sc.a0k h0 (by omega) (by rfl) (by rfl),Sc.a0V (by simp [leB])]
  rw [a1D s 1 [] rfl hok]
  simp only [Sc.R5,List.nil_append]
  rw [show 1 + (Rp.esc s).length + 1 = (lit s).length from by omega,Nat.sub_zero]
 refine ⟨_,Sc.Reach.one _ st1,?_,fun z hz=>(by cases hz)⟩
 exact Sc.a0j (Sc.a4M (Nat.le_refl _)) (Nat.le_refl _)
theorem a9f {s:Str} (hok:s.all okB = true) (hl:(lit s).length <= 8000):O1 (lit s) = some (s,0):=by
 rw [O1]
 unfold a0q
 rw [tok_lit hok hl]
 simp only [Option.bind_some,tokL,a3b,tokA,List.map_cons,List.map_nil]
 have:idx' [a5E ⟨4,s,0,(lit s).length⟩] 0 = some (a5E ⟨4,s,0,(lit s).length⟩):=a7X (l:=[a5E ⟨4,s,0,(lit s).length⟩]) (i:=0) (by simp)
 rw [this]
 simp only [Option.bind_some,a5E]
 rw [R9 (a:=0) rfl,show (([(⟨4,s,(0:Nat),((lit s).length:Nat)⟩:Tok)]:List Tok).length:Int) = 1 from rfl,R9 (a:=1) rfl,R9 (a:=4) rfl,R9 (a:=(((lit s).length:Nat):Int)) rfl]
 rfl
theorem a5B:Y6 = some true:=by
 have h:Sc.a0x [108,101,116,32,120] = .done [⟨9,[108,101,116],0,3⟩,⟨1,[120],4,1⟩]:=by
  have h:=(Sc.a1N [108,101,116,32,120]).2.2.2 (by decide)
  exact Sc.Ends.det _ h (Sc.a7o _ (f:=5) (by kernel_rfl))
 rw [Y6]
 unfold a0q
 rw [h]
 simp only [Option.bind_some,tokL,a3b,tokA,List.map_cons,List.map_nil]
 have e0:∀ a b:Tok,idx' [a,b] 0 = some a:=fun a b=>a7X (l:=[a,b]) (i:=0) (by simp)
 have e1:∀ a b:Tok,idx' [a,b] 1 = some b:=fun a b=>a7X (l:=[a,b]) (i:=1) (by simp)
 rw [e0,e1]
 simp only [Option.bind_some,a5E]
 rw [R9 (a:=0) rfl,show ∀ a b:Tok,(([a,b]:List Tok).length:Int) = 2 from fun _ _=>rfl,R9 (a:=2) rfl,R9 (a:=9) rfl,R9 (a:=((0:Nat):Int)) (b:=0) rfl,R9 (a:=((3:Nat):Int)) (b:=3) rfl,R9 (a:=1) rfl,R9 (a:=((4:Nat):Int)) (b:=4) rfl,R9 (a:=((1:Nat):Int)) (b:=1) rfl,Z4,Z4]
 rfl
theorem a8T (s:Str):V6 12001 s = some true:=by
 rw [V6]
 by_cases h:12000 < s.length
 ·rw [a3R (by omega),cond_true]
 obtain ⟨⟨r1,r2⟩,h1,h2⟩:=a97 s
 cases ha:s.all okB with
 | false =>
  obtain ⟨g1,g2⟩:=quote_f (n:=12001) (by omega) (by omega) ha
  rw [a3i (by omega),cond_false,g1,g2,h1,h2]
  simp only [Option.bind_some]
  rw [Z4,Z4,R9 (a:=4) (b:=4) rfl,R9 (a:=r2) rfl,a5B,a1r (a:=4) (b:=0) (by decide)]
  rfl
 | true =>
  by_cases hl:8000 < (lit s).length
  ·rw [a5q] at hl
   rw [a3i (by omega),cond_false,b0F (by omega) (by omega) ha,a8X (by omega) (by omega) ha,a3R (a:=8000) (by omega),cond_true,h1,h2]
   simp only [Option.bind_some]
   rw [Z4,Z4,R9 (a:=2) (b:=2) rfl,R9 (a:=r2) rfl,a5B,a1r (a:=2) (b:=0) (by decide)]
   rfl
  ·have hl2:=hl
   rw [a5q] at hl
   rw [a3i (by omega),cond_false,b0F (by omega) (by omega) ha,a8X (by omega) (by omega) ha,a3i (a:=8000) (by omega),cond_false,h1,h2]
   simp only [Option.bind_some]
   rw [Z4,Z4,R9 (a:=0) (b:=0) rfl,R9 (a:=r2) rfl,a5B,a9f ha (by omega),Option.bind_some]
   simp only [Bool.not_true,cond_false,cond_true,Option.bind_some]
   rw [R9 (a:=0) (b:=0) rfl,Z4]
   rfl
end Go.Proofs.YtlhgheonlcjpaaaGreat
namespace Go.Proofs.YtlhgheonlcjpaaaGreat
open Go Go.Vm
def T:List (Nat × Ty):=[
 (3,⟨.int .i64,1,8,[.i 0]⟩),
 (5,⟨.int .u8,1,1,[.int .u8 0]⟩),
 (9,⟨.string,1,16,[.str []]⟩),
 (22,⟨.int .i64,1,8,[.i 0]⟩),
 (27,⟨.slice 29,1,24,[.slice .nil 0 []]⟩),
 (29,⟨.struct [(3,0),(9,1),(3,2),(3,3)],4,40,[.i 0,.str [],.i 0,.i 0]⟩),
 (33,⟨.struct [(22,0),(3,1)],2,16,[.i 0,.i 0]⟩),
 (51,⟨.slice 5,1,24,[.slice .nil 0 []]⟩)]
def keep:Nat -> Nat -> List Nat
 | 3,130009=>[0,3,4,53]
 | 6,2=>[0,7,8]
 | 6,100008=>[0]
 | 6,130006=>[0,7,8,26]
 | 7,2=>[0,4]
 | 7,100007=>[0]
 | 7,130006=>[0,4,26]
 | 7,130008=>[0,36]
 | 8,130004=>[4,34]
 | 9,130004=>[4,34]
 | 17,3=>[0,3,4]
 | 17,100005=>[0,3,4]
 | 17,100015=>[3]
 | 17,130014=>[0,3,4,30]
 | _,_=>[]
def cut:Nat -> Nat -> Bool
 | 3,30009=>true
 | 6,8=>true
 | 6,30006=>true
 | 7,7=>true
 | 7,30006=>true
 | 7,30008=>true
 | 8,30004=>true
 | 9,30004=>true
 | 17,5=>true
 | 17,15=>true
 | 17,30014=>true
 | _,_=>false
def moreL:List Nat:=[]
def tagc:Nat -> Nat -> Bool
 | f,_=>has f moreL
def a2e:Nat -> Nat -> Bool
 | f,_=>has f moreL
def slk:Nat -> Nat -> List (Nat × Nat)
 | _,_=>[]
def sep:Nat -> Nat -> Option (List Nat × List Nat)
 | _,_=>none
def mask:Nat -> Nat -> List Nat
 | _,_=>[]
def okL:List Nat:=[3,6,7,8,9,10,17]
def lookL:List Nat:=[]
def a6g:List Nat:=[3,6,7,8,9,10,13,16,17,18]
def frzL:List Nat:=[]
def tagL:List Nat:=[] ++ moreL
def argL:List Nat:=[] ++ moreL
theorem tys:tysB Tryz.prog T = true:=by kernel_rfl
theorem mixed:Tryz.prog.follows .mixedOrders = true:=by kernel_rfl
end Go.Proofs.YtlhgheonlcjpaaaGreat
namespace Go.Proofs.YtlhgheonlcjpaaaGreat
open Go Go.Vm
noncomputable def a5N:Nat -> Option Hand
 | 13=>some (.plain (valI Sc.tokF))
 | 18=>some (.plain (valI Sc.tokF))
 | 16=>some (.plain (valI Rp.escF))
 | _=>none
noncomputable def env:Env:={ P:=Tryz.prog,T:=T,keep:=keep,byref:=fun _ _=>none,meth:=fun _ _=>none,tags:=fun g=>has g tagL,argTags:=fun g=>has g argL,quiet:=fun g=>has g a6g,loose:=fun _=>false,ok:=fun g=>has g okL,cut:=cut,tagc:=tagc,a2e:=a2e,sep:=sep,mask:=mask,look:=fun g=>has g lookL,frz:=fun g=>has g frzL,slk:=slk,full:=true,intr:=a5N }
theorem codes:a5D env okL = true:=by kernel_rfl
theorem a9G:a2i env:=by
 intro _ _ _ h
 cases h
theorem a6O:a2h env:=⟨a9G,a4m tys,mixed,a4u (fun _ h=>h) codes,(fun g h hg=>by simp only [env,a5N] at hg; first | (cases hg; done) | (split at hg <;> first | (cases hg; done) | (cases hg; exact Sc.tok_intr) | (cases hg; exact Sc.b1i) | (cases hg; exact Rp.esc_intr))),(fun g pre post hg=>by simp only [env,a5N] at hg; first | (cases hg; done) | (split at hg <;> first | (cases hg; done)))⟩
end Go.Proofs.YtlhgheonlcjpaaaGreat
namespace Go.Proofs.YtlhgheonlcjpaaaGreat
open Go Go.Vm
theorem escG_ok {s1:Str} {rr:Str} (h:escG s1 = some rr):E env (.call 16 [.str s1]) [] = some (.ret (.str rr) []):=by
 unfold escG at h
 split at h
 ·rename_i hs
  cases h
  exact a7C rfl (by simp only [valI,Rp.escF,hs])
 ·cases h
theorem a6l {src1:Str} {l2:List Tok} {c3:Int} {a4:Int} (h:a0q src1 = some (l2,c3,a4)):E env (.call 13 [.str src1]) [] = some (.ret (.tuple [.sl a3H l2,.agg [.i c3,.i a4]]) []):=by
 unfold a0q at h
 cases h
 exact a9d rfl (Sc.a2W _).1
theorem a8Y {src1:Str} {l2:List Tok} {c3:Int} {a4:Int} (h:a0q src1 = some (l2,c3,a4)):E env (.call 18 [.str src1]) [] = some (.ret (.tuple [.sl a3H l2,.agg [.i c3,.i a4]]) []):=by
 unfold a0q at h
 cases h
 exact a9d rfl (Sc.a2W _).1
end Go.Proofs.YtlhgheonlcjpaaaGreat
namespace Go.Proofs.YtlhgheonlcjpaaaGreat
open Go Go.Vm
theorem a2v {r:Bool} (h:Y6 = some r) :
  E env (.call 10 []) [] = some (a5i r):=by
 unfold Y6 at h
 refine a0N rfl Tryz.func10 rfl rfl ?_
 refine eSG (oB 1 rfl (eSG ?_))
 obtain ⟨⟨l1,c2,a3⟩,g1,h⟩:=x9 h
 refine o6 rfl rfl rfl rfl rfl (a6l g1) rfl ?_
 refine oB 6 rfl (eSG (oA 1 rfl ?_))
 refine oD ?_
 refine oA 2 rfl ?_
 refine l5 rfl rfl rfl (fun g2=>?_) (fun g2=>?_)
 ·replace h:=R4 h g2
  refine oA 5 rfl ?_
  refine l5 rfl rfl rfl (fun g3=>?_) (fun g3=>?_)
  ·replace h:=R4 h g3
   refine oA 1 rfl ?_
   obtain ⟨x4,g4,h⟩:=x9 h
   refine a2x a1Q g4 rfl rfl rfl rfl rfl rfl rfl rfl ?_
   refine a8L (c:=[.i x4.kind,.str x4.text,.i x4.at_,.i x4.len]) rfl rfl rfl rfl rfl rfl rfl ?_
   refine oD ?_
   refine oA 3 rfl ?_
   refine l5 rfl rfl rfl (fun g5=>?_) (fun g5=>?_)
   ·replace h:=R4 h g5
    refine oA 1 rfl ?_
    obtain ⟨x5,g6,h⟩:=x9 h
    refine a2x a1Q g6 rfl rfl rfl rfl rfl rfl rfl rfl ?_
    refine a8L (c:=[.i x5.kind,.str x5.text,.i x5.at_,.i x5.len]) rfl rfl rfl rfl rfl rfl rfl ?_
    refine oD ?_
    refine oB 3 rfl ?_
    cases h
    exact j5 ⟨_,_,_,rfl,rfl,rfl⟩
   ·replace h:=Q9 h g5
    refine oB 7 rfl ?_
    cases h
    exact j5 ⟨_,_,_,rfl,rfl,rfl⟩
  ·replace h:=Q9 h g3
   refine oB 14 rfl ?_
   cases h
   exact j5 ⟨_,_,_,rfl,rfl,rfl⟩
 ·replace h:=Q9 h g2
  refine oB 19 rfl ?_
  cases h
  exact j5 ⟨_,_,_,rfl,rfl,rfl⟩
theorem a6C {n:Nat} {s1:Str} {r:Str × Int} (h:Y5 n s1 = some r) :
  E env (.call 6 [.str s1]) [] = some (a2C s1 r):=by
 unfold Y5 at h
 refine a0N rfl Tryz.func6 rfl rfl ?_
 refine eSG (oB 2 rfl ?_)
 obtain ⟨y1,g2,h⟩:=a6E h
 refine b0n (KR:=fun r=>OutK env 6 0 Tryz.f6.results.toList (a2C s1 r)) y1 (fun z16=>[(0,.str s1)]) (fun z16=>[]) rfl ?_ (fun z16 hx=>?_) (fun r res hz hr hn=>?_)
 ·replace h:=g2
  clear g2
  refine eSG (oB 3 rfl ?_)
  refine o9 ?_
  refine J9 rfl ?_
  revert y1
  refine a5r (fun m (x:Int)=>O6 n s1 m x) (fun x=>[(0,.str s1),(7,.i (List.length s1:Int)),(8,.i x)]) (fun x=>[]) _ (fun _=>rfl) (fun m2 x y ih h=>?_) n 0
  obtain ⟨x502,rfl⟩:∃ q,q = x:=⟨_,rfl⟩
  rw [O6] at h
  refine eSG (oB 1 rfl (j4 ?_))
  refine eI rfl h (fun h=>?_) fun h=>?_
  ·refine j6 (j4 ?_)
   refine o9 ?_
   refine eSG (oB 2 rfl ?_)
   obtain ⟨y4,g5,h⟩:=x9 h
   refine a1T [(0,.str s1),(7,.i (List.length s1:Int)),(8,.i x502),(26,.bool y4)] [] rfl ?_ ?_
   ·replace h:=g5
    clear g5
    refine j3 (oA 2 rfl ?_)
    obtain ⟨b2,g6,h⟩:=x9 h
    refine a0H g6 rfl rfl rfl rfl rfl rfl ?_
    refine oA 2 rfl ?_
    refine l5 rfl rfl rfl (fun g7=>?_) (fun g7=>?_)
    ·replace h:=R4 h g7
     refine oA 2 rfl ?_
     obtain ⟨b3,g8,h⟩:=x9 h
     refine a0H g8 rfl rfl rfl rfl rfl rfl ?_
     refine oA 3 rfl ?_
     refine l5 rfl rfl rfl (fun g9=>?_) (fun g9=>?_)
     ·replace h:=R4 h g9
      refine oA 2 rfl ?_
      obtain ⟨b4,g10,h⟩:=x9 h
      refine a0H g10 rfl rfl rfl rfl rfl rfl ?_
      refine oB 2 rfl ?_
      cases h
      exact rfl
     ·replace h:=Q9 h g9
      refine oB 5 rfl ?_
      cases h
      exact rfl
    ·replace h:=Q9 h g7
     refine oB 11 rfl ?_
     cases h
     exact rfl
   ·obtain ⟨x506,rfl⟩:∃ q,q = y4:=⟨_,rfl⟩
    refine eI rfl h (fun h=>?_) fun h=>?_
    ·refine eSG (oB 2 rfl ?_)
     cases h
     exact j5 ⟨_,rfl,_,_,_,rfl,rfl,rfl⟩
    ·refine j6 (j3 (oB 2 rfl ?_))
     exact ⟨_,_,rfl,ih _ _ h⟩
  ·refine G8 ?_
   cases h
   exact ⟨_,rfl,rfl⟩
 ·subst hx
  refine eSG (oA 1 rfl ?_)
  obtain ⟨rr5,g12,h⟩:=x9 h
  refine o6 rfl rfl rfl rfl rfl (escG_ok g12) rfl ?_
  obtain ⟨s6,g13,h⟩:=x9 h
  refine a8a g13 rfl rfl rfl rfl ?_
  obtain ⟨s7,g14,h⟩:=x9 h
  refine a8a g14 rfl rfl rfl rfl ?_
  refine oB 1 rfl (j4 (eSG (oB 3 rfl ?_)))
  refine eI rfl h (fun h=>?_) fun h=>?_
  ·refine eSG (oB 2 rfl ?_)
   cases h
   exact j5 ⟨_,_,_,rfl,rfl,rfl⟩
  ·refine j6 (eSG (oB 3 rfl ?_))
   cases h
   exact j5 ⟨_,_,_,rfl,rfl,rfl⟩
 ·subst hz
  rcases res with ⟨_ | _ | _ | _,_,_⟩ <;> first | exact absurd rfl hn | exact hr.elim | (cases h; exact hr)
theorem a1H {n:Nat} {s1:Str} {r:Str} (h:S9 n s1 = some r) :
  E env (.call 17 [.str s1]) [] = some (a4a s1 r):=by
 unfold S9 at h
 refine a0N rfl Tryz.func17 rfl rfl ?_
 refine eSG (oB 1 rfl (eSG (oB 1 rfl ?_)))
 obtain ⟨y1,g2,h⟩:=x9 h
 refine a1T [(3,.slice (.tag 0) (List.length y1) ((clI .u8) y1))] [(0,.tip (tpe 1 (List.length y1)) (List.length y1))] rfl ?_ ?_
 ·replace h:=g2
  clear g2
  refine eSG (oB 1 rfl ?_)
  refine o9 ?_
  refine J9 rfl ?_
  revert y1
  refine a5r (fun m (x:List Int × Int)=>M0 n s1 m x.1 x.2) (fun x=>[(0,.str s1),(3,.slice (.tag 0) (List.length x.1) ((clI .u8) x.1)),(4,.i x.2)]) (fun x=>[(0,.tip (tpe 1 (List.length x.1)) (List.length x.1))]) _ (fun _=>rfl) (fun m3 x y ih h=>?_) n (([]:List Int),0)
  obtain ⟨b503,i504⟩:=x
  rw [M0] at h
  refine j4 (eSG (oB 4 rfl ?_))
  refine eI rfl h (fun h=>?_) fun h=>?_
  ·refine j6 ?_
   obtain ⟨y4,g5,h⟩:=x9 h
   refine a1T [(0,.str s1),(3,.slice (.tag 0) (List.length y4) ((clI .u8) y4)),(4,.i i504)] [(0,.tip (tpe 1 (List.length y4)) (List.length y4))] rfl ?_ ?_
   ·replace h:=g5
    clear g5
    refine o9 ?_
    refine eSG (oA 2 rfl ?_)
    obtain ⟨b2,g6,h⟩:=x9 h
    refine a0H g6 rfl rfl rfl rfl rfl rfl ?_
    refine o5 ?_
    refine o9 ?_
    refine eSG (oB 2 rfl ?_)
    refine eI rfl h (fun h=>?_) fun h=>?_
    ·refine j3 (oA 2 rfl ?_)
     obtain ⟨l3,g8,h⟩:=x9 h
     refine a7Z (encI .u8) g8 rfl rfl rfl rfl rfl rfl rfl rfl rfl rfl rfl rfl rfl rfl (a05 (J4 rfl) rfl) rfl rfl rfl ?_
     refine oB 1 rfl ?_
     cases h
     exact rfl
    ·refine eSG (oB 2 rfl ?_)
     refine eI rfl h (fun h=>?_) fun h=>?_
     ·refine j3 (oA 2 rfl ?_)
      obtain ⟨l4,g10,h⟩:=x9 h
      refine a7Z (encI .u8) g10 rfl rfl rfl rfl rfl rfl rfl rfl rfl rfl rfl rfl rfl rfl (a05 (J4 rfl) rfl) rfl rfl rfl ?_
      refine oB 1 rfl ?_
      cases h
      exact rfl
     ·obtain ⟨y11,g12,h⟩:=x9 h
      refine a1T [(0,.str s1),(3,.slice (.tag 0) (List.length b503) ((clI .u8) b503)),(4,.i i504),(30,.bool y11)] [(0,.tip (tpe 1 (List.length b503)) (List.length b503))] rfl ?_ ?_
      ·replace h:=g12
       clear g12
       refine eSG (oB 2 rfl ?_)
       refine eI rfl h (fun h=>?_) fun h=>?_
       ·refine j6 ?_
        cases h
        exact rfl
       ·refine j3 (oB 2 rfl ?_)
        cases h
        exact rfl
      ·obtain ⟨x507,rfl⟩:∃ q,q = y11:=⟨_,rfl⟩
       refine eI rfl h (fun h=>?_) fun h=>?_
       ·refine j3 (oA 3 rfl ?_)
        obtain ⟨b5,g15,h⟩:=x9 h
        refine a0H g15 rfl rfl rfl rfl rfl rfl ?_
        refine oA 1 rfl ?_
        obtain ⟨l6,g16,h⟩:=x9 h
        refine a7Z (encI .u8) g16 rfl rfl rfl rfl rfl rfl rfl rfl rfl rfl rfl rfl rfl rfl (a05 (J4 rfl) rfl) rfl rfl rfl ?_
        refine oB 1 rfl ?_
        cases h
        exact rfl
       ·refine j3 (oA 3 rfl ?_)
        obtain ⟨b7,g17,h⟩:=x9 h
        refine a0H g17 rfl rfl rfl rfl rfl rfl ?_
        refine oA 1 rfl ?_
        obtain ⟨l8,g18,h⟩:=x9 h
        refine a7Z (encI .u8) g18 rfl rfl rfl rfl rfl rfl rfl rfl rfl rfl rfl rfl rfl rfl (a05 (J4 rfl) rfl) rfl rfl rfl ?_
        refine oB 1 rfl ?_
        cases h
        exact rfl
   ·obtain ⟨b508,rfl⟩:∃ q,q = y4:=⟨_,rfl⟩
    refine j3 (oB 3 rfl ?_)
    exact ⟨_,_,rfl,ih (_,_) _ h⟩
  ·refine G8 ?_
   cases h
   exact rfl
 ·obtain ⟨b511,rfl⟩:∃ q,q = y1:=⟨_,rfl⟩
  refine eSG (oA 1 rfl ?_)
  refine os_toStr rfl rfl rfl rfl rfl rfl rfl rfl rfl ?_
  refine oB 1 rfl ?_
  cases h
  exact j5 ⟨_,_,_,rfl,rfl,rfl⟩
theorem a6h {n:Nat} {s1:Str} {r:Str × Int} (h:U8 n s1 = some r) :
  E env (.call 7 [.str s1]) [] = some (a2c s1 r):=by
 unfold U8 at h
 refine a0N rfl Tryz.func7 rfl rfl ?_
 refine eSG (oB 2 rfl ?_)
 obtain ⟨y1,g2,h⟩:=a6E h
 refine b0n (KR:=fun r=>OutK env 7 0 Tryz.f7.results.toList (a2c s1 r)) y1 (fun z20=>[(0,.str s1)]) (fun z20=>[]) rfl ?_ (fun z20 hx=>?_) (fun r res hz hr hn=>?_)
 ·replace h:=g2
  clear g2
  refine eSG (oB 1 rfl ?_)
  refine o9 ?_
  refine J9 rfl ?_
  revert y1
  refine a5r (fun m (x:Int)=>M5 n s1 m x) (fun x=>[(0,.str s1),(4,.i x)]) (fun x=>[]) _ (fun _=>rfl) (fun m2 x y ih h=>?_) n 0
  obtain ⟨i502,rfl⟩:∃ q,q = x:=⟨_,rfl⟩
  rw [M5] at h
  refine j4 (eSG (oB 4 rfl ?_))
  refine eI rfl h (fun h=>?_) fun h=>?_
  ·refine j6 (j4 ?_)
   refine o9 ?_
   obtain ⟨y4,g5,h⟩:=x9 h
   refine a1T [(0,.str s1),(4,.i i502),(26,.bool y4)] [] rfl ?_ ?_
   ·replace h:=g5
    clear g5
    refine j3 (oA 2 rfl ?_)
    obtain ⟨b2,g6,h⟩:=x9 h
    refine a0H g6 rfl rfl rfl rfl rfl rfl ?_
    refine oA 2 rfl ?_
    refine l5 rfl rfl rfl (fun g7=>?_) (fun g7=>?_)
    ·replace h:=R4 h g7
     refine oA 2 rfl ?_
     obtain ⟨b3,g8,h⟩:=x9 h
     refine a0H g8 rfl rfl rfl rfl rfl rfl ?_
     refine oA 3 rfl ?_
     refine l5 rfl rfl rfl (fun g9=>?_) (fun g9=>?_)
     ·replace h:=R4 h g9
      refine oA 2 rfl ?_
      obtain ⟨b4,g10,h⟩:=x9 h
      refine a0H g10 rfl rfl rfl rfl rfl rfl ?_
      refine oB 2 rfl ?_
      cases h
      exact rfl
     ·replace h:=Q9 h g9
      refine oB 5 rfl ?_
      cases h
      exact rfl
    ·replace h:=Q9 h g7
     refine oB 11 rfl ?_
     cases h
     exact rfl
   ·obtain ⟨x505,rfl⟩:∃ q,q = y4:=⟨_,rfl⟩
    refine eI rfl h (fun h=>?_) fun h=>?_
    ·refine eSG (oB 2 rfl ?_)
     cases h
     exact j5 ⟨_,rfl,_,_,_,rfl,rfl,rfl⟩
    ·refine j6 (j3 (oB 3 rfl ?_))
     exact ⟨_,_,rfl,ih _ _ h⟩
  ·refine G8 ?_
   cases h
   exact ⟨_,rfl,rfl⟩
 ·subst hx
  refine j4 ?_
  obtain ⟨y12,g13,h⟩:=x9 h
  refine a1T [(0,.str s1),(36,.bool y12)] [] rfl ?_ ?_
  ·replace h:=g13
   clear g13
   refine j3 (oA 4 rfl ?_)
   refine l5 rfl rfl rfl (fun g14=>?_) (fun g14=>?_)
   ·replace h:=R4 h g14
    refine oB 6 rfl ?_
    cases h
    exact rfl
   ·replace h:=Q9 h g14
    refine oA 1 rfl ?_
    obtain ⟨r5,g15,h⟩:=x9 h
    refine o6 rfl rfl rfl rfl rfl (a1H g15) rfl ?_
    refine oB 4 rfl ?_
    cases h
    exact rfl
  ·obtain ⟨x513,rfl⟩:∃ q,q = y12:=⟨_,rfl⟩
   refine eI rfl h (fun h=>?_) fun h=>?_
   ·refine eSG (oB 2 rfl ?_)
    cases h
    exact j5 ⟨_,_,_,rfl,rfl,rfl⟩
   ·refine j6 (eSG (oA 1 rfl ?_))
    obtain ⟨r6,g17,h⟩:=x9 h
    refine o6 rfl rfl rfl rfl rfl (a1H g17) rfl ?_
    obtain ⟨s7,g18,h⟩:=x9 h
    refine a8a g18 rfl rfl rfl rfl ?_
    obtain ⟨s8,g19,h⟩:=x9 h
    refine a8a g19 rfl rfl rfl rfl ?_
    refine oB 2 rfl ?_
    cases h
    exact j5 ⟨_,_,_,rfl,rfl,rfl⟩
 ·subst hz
  rcases res with ⟨_ | _ | _ | _,_,_⟩ <;> first | exact absurd rfl hn | exact hr.elim | (cases h; exact hr)
theorem a2d {s1:Str} {r:Str × Int} (h:O1 s1 = some r) :
  E env (.call 8 [.str s1]) [] = some (a4L s1 r):=by
 unfold O1 at h
 refine a0N rfl Tryz.func8 rfl rfl ?_
 refine eSG (oB 2 rfl (eSG (oA 1 rfl ?_)))
 obtain ⟨⟨l2,c3,a4⟩,g1,h⟩:=x9 h
 refine o6 rfl rfl rfl rfl rfl (a6l g1) rfl ?_
 refine oB 6 rfl (j4 ?_)
 obtain ⟨y2,g3,h⟩:=x9 h
 refine a1T [(4,.sl a3H l2),(34,.bool y2)] [] rfl ?_ ?_
 ·replace h:=g3
  clear g3
  refine j3 (oA 1 rfl ?_)
  refine oD ?_
  refine oA 2 rfl ?_
  refine l5 rfl rfl rfl (fun g4=>?_) (fun g4=>?_)
  ·replace h:=R4 h g4
   refine oB 20 rfl ?_
   cases h
   exact rfl
  ·replace h:=Q9 h g4
   refine oA 5 rfl ?_
   refine l5 rfl rfl rfl (fun g5=>?_) (fun g5=>?_)
   ·replace h:=R4 h g5
    refine oB 15 rfl ?_
    cases h
    exact rfl
   ·replace h:=Q9 h g5
    refine oA 1 rfl ?_
    obtain ⟨x5,g6,h⟩:=x9 h
    refine a2x a1Q g6 rfl rfl rfl rfl rfl rfl rfl rfl ?_
    refine oA 5 rfl ?_
    refine l5 rfl rfl rfl (fun g7=>?_) (fun g7=>?_)
    ·replace h:=R4 h g7
     refine oB 8 rfl ?_
     cases h
     exact rfl
    ·replace h:=Q9 h g7
     refine oA 1 rfl ?_
     obtain ⟨x6,g8,h⟩:=x9 h
     refine a2x a1Q g8 rfl rfl rfl rfl rfl rfl rfl rfl ?_
     refine oB 6 rfl ?_
     cases h
     exact rfl
 ·obtain ⟨x501,rfl⟩:∃ q,q = y2:=⟨_,rfl⟩
  refine eI rfl h (fun h=>?_) fun h=>?_
  ·refine eSG (oB 2 rfl ?_)
   cases h
   exact j5 ⟨_,_,_,rfl,rfl,rfl⟩
  ·refine j6 (eSG (oA 1 rfl ?_))
   obtain ⟨x7,g10,h⟩:=x9 h
   refine a2x a1Q g10 rfl rfl rfl rfl rfl rfl rfl rfl ?_
   refine oB 4 rfl ?_
   cases h
   exact j5 ⟨_,_,_,rfl,rfl,rfl⟩
theorem a4I {s1:Str} {r:Str × Int} (h:X9 s1 = some r) :
  E env (.call 9 [.str s1]) [] = some (a4b s1 r):=by
 unfold X9 at h
 refine a0N rfl Tryz.func9 rfl rfl ?_
 refine eSG (oB 2 rfl (eSG (oA 1 rfl ?_)))
 obtain ⟨⟨l2,c3,a4⟩,g1,h⟩:=x9 h
 refine o6 rfl rfl rfl rfl rfl (a8Y g1) rfl ?_
 refine oB 6 rfl (j4 ?_)
 obtain ⟨y2,g3,h⟩:=x9 h
 refine a1T [(4,.sl a3H l2),(34,.bool y2)] [] rfl ?_ ?_
 ·replace h:=g3
  clear g3
  refine j3 (oA 4 rfl ?_)
  refine l5 rfl rfl rfl (fun g4=>?_) (fun g4=>?_)
  ·replace h:=R4 h g4
   refine oB 20 rfl ?_
   cases h
   exact rfl
  ·replace h:=Q9 h g4
   refine oA 5 rfl ?_
   refine l5 rfl rfl rfl (fun g5=>?_) (fun g5=>?_)
   ·replace h:=R4 h g5
    refine oB 15 rfl ?_
    cases h
    exact rfl
   ·replace h:=Q9 h g5
    refine oA 1 rfl ?_
    obtain ⟨x5,g6,h⟩:=x9 h
    refine a2x a1Q g6 rfl rfl rfl rfl rfl rfl rfl rfl ?_
    refine oA 5 rfl ?_
    refine l5 rfl rfl rfl (fun g7=>?_) (fun g7=>?_)
    ·replace h:=R4 h g7
     refine oB 8 rfl ?_
     cases h
     exact rfl
    ·replace h:=Q9 h g7
     refine oA 1 rfl ?_
     obtain ⟨x6,g8,h⟩:=x9 h
     refine a2x a1Q g8 rfl rfl rfl rfl rfl rfl rfl rfl ?_
     refine oB 6 rfl ?_
     cases h
     exact rfl
 ·obtain ⟨x501,rfl⟩:∃ q,q = y2:=⟨_,rfl⟩
  refine eI rfl h (fun h=>?_) fun h=>?_
  ·refine eSG (oB 2 rfl ?_)
   cases h
   exact j5 ⟨_,_,_,rfl,rfl,rfl⟩
  ·refine j6 (eSG (oA 1 rfl ?_))
   obtain ⟨x7,g10,h⟩:=x9 h
   refine a2x a1Q g10 rfl rfl rfl rfl rfl rfl rfl rfl ?_
   refine oB 4 rfl ?_
   cases h
   exact j5 ⟨_,_,_,rfl,rfl,rfl⟩
theorem a2X {n:Nat} {s1:Str} {r:Bool} (h:V6 n s1 = some r) :
  E env (.call 3 [.str s1]) [] = some (a2u s1 r):=by
 unfold V6 at h
 refine a0N rfl Tryz.func3 rfl rfl ?_
 refine eSG (oB 1 rfl (j4 (eSG (oB 3 rfl ?_))))
 refine eI rfl h (fun h=>?_) fun h=>?_
 ·refine eSG (oB 1 rfl ?_)
  cases h
  exact j5 ⟨_,_,_,rfl,rfl,rfl⟩
 ·refine j6 (eSG (oA 1 rfl ?_))
  obtain ⟨⟨r2,r3⟩,g2,h⟩:=x9 h
  refine o6 rfl rfl rfl rfl rfl (a6C g2) rfl ?_
  refine oB 5 rfl (eSG (oA 1 rfl ?_))
  obtain ⟨⟨r4,r5⟩,g3,h⟩:=x9 h
  refine o6 rfl rfl rfl rfl rfl (a6h g3) rfl ?_
  refine oB 5 rfl (eSG (oA 1 rfl ?_))
  obtain ⟨⟨r6,r7⟩,g4,h⟩:=x9 h
  refine o6 rfl rfl rfl rfl rfl (a2d g4) rfl ?_
  refine oB 5 rfl (eSG (oA 1 rfl ?_))
  obtain ⟨⟨r8,r9⟩,g5,h⟩:=x9 h
  refine o6 rfl rfl rfl rfl rfl (a4I g5) rfl ?_
  refine oB 5 rfl (j4 ?_)
  obtain ⟨y6,g7,h⟩:=x9 h
  refine a1T [(0,.str s1),(3,.str r2),(4,.i r3),(53,.bool y6)] [] rfl ?_ ?_
  ·replace h:=g7
   clear g7
   refine j3 (oA 4 rfl ?_)
   refine l5 rfl rfl rfl (fun g8=>?_) (fun g8=>?_)
   ·replace h:=R4 h g8
    refine oB 14 rfl ?_
    cases h
    exact rfl
   ·replace h:=Q9 h g8
    refine oA 5 rfl ?_
    refine l5 rfl rfl rfl (fun g9=>?_) (fun g9=>?_)
    ·replace h:=R4 h g9
     refine oB 9 rfl ?_
     cases h
     exact rfl
    ·replace h:=Q9 h g9
     refine oA 5 rfl ?_
     refine l5 rfl rfl rfl (fun g10=>?_) (fun g10=>?_)
     ·replace h:=R4 h g10
      refine oB 4 rfl ?_
      cases h
      exact rfl
     ·replace h:=Q9 h g10
      refine oB 4 rfl ?_
      cases h
      exact rfl
  ·obtain ⟨x502,rfl⟩:∃ q,q = y6:=⟨_,rfl⟩
   refine eI rfl h (fun h=>?_) fun h=>?_
   ·refine eSG (oB 1 rfl ?_)
    cases h
    exact j5 ⟨_,_,_,rfl,rfl,rfl⟩
   ·refine j6 (j4 (eSG (oB 2 rfl ?_)))
    refine eI rfl h (fun h=>?_) fun h=>?_
    ·refine eSG (oA 1 rfl ?_)
     obtain ⟨⟨r10,r11⟩,g13,h⟩:=x9 h
     refine o6 rfl rfl rfl rfl rfl (a2d g13) rfl ?_
     refine oB 5 rfl (eSG (oA 3 rfl ?_))
     refine l5 rfl rfl rfl (fun g14=>?_) (fun g14=>?_)
     ·replace h:=R4 h g14
      refine oA 5 rfl ?_
      refine l5 rfl rfl rfl (fun g15=>?_) (fun g15=>?_)
      ·replace h:=R4 h g15
       obtain ⟨r12,g16,h⟩:=x9 h
       refine o6 rfl rfl rfl rfl rfl (a2v g16) rfl ?_
       refine oB 2 rfl ?_
       cases h
       exact j5 ⟨_,_,_,rfl,rfl,rfl⟩
      ·replace h:=Q9 h g15
       refine oB 3 rfl ?_
       cases h
       exact j5 ⟨_,_,_,rfl,rfl,rfl⟩
     ·replace h:=Q9 h g14
      refine oB 8 rfl ?_
      cases h
      exact j5 ⟨_,_,_,rfl,rfl,rfl⟩
    ·refine j6 (eSG ?_)
     obtain ⟨r13,g17,h⟩:=x9 h
     refine o6 rfl rfl rfl rfl rfl (a2v g17) rfl ?_
     refine oB 1 rfl ?_
     cases h
     exact j5 ⟨_,_,_,rfl,rfl,rfl⟩
end Go.Proofs.YtlhgheonlcjpaaaGreat
namespace Go.Proofs.YtlhgheonlcjpaaaGreat
open Go Go.Vm
theorem quotes_E (s:Str):E env (.call 3 [.str s]) [] = some (.ret (.bool true) []):=a2X (a8T s)
end Go.Proofs.YtlhgheonlcjpaaaGreat
