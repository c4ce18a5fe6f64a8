/- What the functions under ScanAgain compute, step by step, as functions in Lean: texts that were built one by one, joined. -/
import Derived.Test.YtlhgheonlcjpaaaGreatScanAgainJ7
import Derived.Test.YtlhgheonlcjpaaaGreatProg
import Derived.Tactics
import Derived.Tactics2
import Derived.Defers
import Derived.Laws.Pointers
import Derived.Laws.LoneSync
import Derived.RegionTactic
import Derived.RegionCalls
import Derived.ChangeAlike
import Derived.Laws.World
import Derived.KernelRfl
import Derived.Shelf.Strings.Count
import Derived.Lib.Join
import Derived.Shelf.Strings.Builder1
import Derived.Shelf.Strings.OnBuilder
set_option maxRecDepth 100000
set_option maxHeartbeats 20000000
set_option linter.unusedSimpArgs false
set_option linter.unusedVariables false
set_option linter.unusedSectionVars false
namespace Go.Proofs.YtlhgheonlcjpaaaGreat.Sc
open Go Go.Vm
def Lay (s:List UInt8):Nat -> List Tok -> Nat -> Prop
 | k,[],e=>k = e
 | k,t :: r,e=>t.a = E9 s k /\ t.a < s.length /\ 0 < t.l /\ t.a + t.l <= s.length /\ Lay s (t.a + t.l) r e
theorem Lay.add {s:List UInt8} {t:Tok}:∀ {l:List Tok} {k e:Nat},Lay s k l e -> t.a = E9 s e -> t.a < s.length -> 0 < t.l -> t.a + t.l <= s.length -> Lay s k (l ++ [t]) (t.a + t.l)
 | [],k,e,h,h1,h2,h3,h4=>by
  simp only [Lay] at h; subst h
  exact ⟨h1,h2,h3,h4,rfl⟩
 | u :: l,k,e,h,h1,h2,h3,h4=>⟨h.1,h.2.1,h.2.2.1,h.2.2.2.1,Lay.add h.2.2.2.2 h1 h2 h3 h4⟩
theorem a0d {toks:List Tok} {j:Nat} {r:MR} {y:MS} (h:roomy toks j r = .go y):toks.length < 3000 /\ r = .go y:=by
 unfold roomy at h
 split at h
 ·cases h
 ·rename_i h1
  simp only [decide_eq_false_iff_not] at h1
  exact ⟨by omega,h⟩
theorem lit_go {s:List UInt8} {toks:List Tok} {st:List (Nat × Int)} {q j ins:Nat} {a b:Int} {y:MS} (h:U5 toks st q j a b (part s q ins (j + 1) []) = .go y) :
  ∃ t:Tok,y.toks = toks ++ [t] /\ t.a = j /\ 0 < t.l /\ y.i = t.a + t.l /\ t.a + t.l <= s.length:=by
 have hok:=a8O s q ins (j + 1) []
 cases hp:part s q ins (j + 1) [] with
 | err c a=>rw [hp] at h; cases h
 | fin t e =>
  rw [hp] at h hok
  have h1:j + 1 < e:=hok.1
  have h2:e <= s.length:=hok.2
  simp only [U5] at h
  cases h
  exact ⟨_,rfl,rfl,by show 0 < e - j; omega,by show e = j + (e - j); omega,by show j + (e - j) <= _; omega⟩
 | more t e =>
  rw [hp] at h hok
  have h1:j + 1 < e:=hok.1
  have h2:e <= s.length:=hok.2
  simp only [U5] at h
  cases h
  exact ⟨_,rfl,rfl,by show 0 < e - j; omega,by show e = j + (e - j); omega,by show j + (e - j) <= _; omega⟩
theorem stepM_go {s:List UInt8} {x y:MS} (h:stepM s x = .go y):∃ t:Tok,y.toks = x.toks ++ [t] /\ t.a = E9 s x.i /\ t.a < s.length /\ 0 < t.l /\ y.i = t.a + t.l /\ t.a + t.l <= s.length:=by
 obtain ⟨i0,toks,st⟩:=x
 obtain ⟨i,h0⟩:∃ i,E9 s i0 = i:=⟨_,rfl⟩
 show ∃ t:Tok,y.toks = toks ++ [t] /\ t.a = E9 s i0 /\ _
 rw [h0]
 rcases Nat.lt_or_ge i s.length with hi | hi
 ·have fin:(∃ t:Tok,y.toks = toks ++ [t] /\ t.a = i /\ 0 < t.l /\ y.i = t.a + t.l /\ t.a + t.l <= s.length) -> ∃ t:Tok,y.toks = toks ++ [t] /\ t.a = i /\ t.a < s.length /\ 0 < t.l /\ y.i = t.a + t.l /\ t.a + t.l <= s.length:=by
   rintro ⟨t,h1,h2,h3,h4,h5⟩
   exact ⟨t,h1,h2,by omega,h3,h4,h5⟩
  apply fin
  cases hc:closes (s.getD i 0).toNat st with
  | true =>
   cases st with
   | nil=>cases hc
   | cons z st =>
    obtain ⟨q,p⟩:=z
    rw [(P7 h0 hi hc).2] at h
    exact lit_go (a0d h).2
  | false =>
   by_cases h1:(s.getD i 0).toNat = 34
   ·rw [Y7 h0 hi hc h1] at h
    exact lit_go (a0d h).2
   ·have hi1:i <= s.length:=by omega
    cases h2:q9 (s.getD i 0) with
    | true =>
     rw [P8 h0 hi hc h1 h2] at h
     have hg:=a0I hi h2
     have hl:=a0g (p:=q9) hi1
     have h:=(a0d h).2
     split at h
     ·cases h
     ·cases h; exact ⟨_,rfl,rfl,by show 0 < D6 q9 s i - i; omega,by show D6 q9 s i = i + (D6 q9 s i - i); omega,by show i + (D6 q9 s i - i) <= _; omega⟩
    | false =>
     cases h3:F5 (s.getD i 0) with
     | true =>
      rw [M9 h0 hi hc h1 h2 h3] at h
      have hg:=a0I (p:=F7) hi (by simp only [F7,h3,Bool.true_or])
      have hl:=a0g (p:=F7) hi1
      have h:=(a0d h).2
      split at h
      ·cases h
      ·cases h; exact ⟨_,rfl,rfl,by show 0 < D6 F7 s i - i; omega,by show D6 F7 s i = i + (D6 F7 s i - i); omega,by show i + (D6 F7 s i - i) <= _; omega⟩
     | false =>
      cases hw:I6 s i 2 with
      | nil=>rw [a0E h0 hi hc h1 h2 h3 hw] at h; cases h
      | cons b w =>
       rw [O3 h0 hi hc h1 h2 h3 hw (by simp)] at h
       have hl:=a3z 2 hi1
       rw [hw] at hl
       have h:=(a0d h).2
       cases h
       exact ⟨_,rfl,rfl,by show 0 < (b :: w).length; simp,rfl,by show i + (b :: w).length <= _; omega⟩
 ·cases st with
  | nil=>rw [a0l h0 hi] at h; cases h
  | cons z st=>obtain ⟨q,p⟩:=z; rw [a0m h0 hi] at h; cases h
theorem b1R {s:List UInt8} {x y:MS} (h:Reach s x y):x.i <= s.length -> Lay s 0 x.toks x.i -> y.i <= s.length /\ Lay s 0 y.toks y.i:=by
 induction h with
 | refl x=>exact fun h1 h2=>⟨h1,h2⟩
 | step x y z h1 _ ih =>
  intro h2 h3
  obtain ⟨t,g1,g2,g3,g4,g5,g6⟩:=stepM_go h1
  exact ih (by omega) (by rw [g1,g5]; exact h3.add g2 g3 g4 g6)
theorem a1n {toks l:List Tok} {j:Nat} {r:MR} (h:roomy toks j r = .done l):r = .done l:=by
 unfold roomy at h
 split at h
 ·cases h
 ·exact h
theorem a4u {toks l:List Tok} {st:List (Nat × Int)} {q j:Nat} {a b:Int} {r:PR} (h:U5 toks st q j a b r = .done l):False:=by
 cases r <;> cases h
theorem a4b {s:List UInt8} {x:MS} {l:List Tok} (h:stepM s x = .done l):x.toks = l /\ s.length <= E9 s x.i:=by
 obtain ⟨i0,toks,st⟩:=x
 obtain ⟨i,h0⟩:∃ i,E9 s i0 = i:=⟨_,rfl⟩
 show toks = l /\ s.length <= E9 s i0
 rw [h0]
 rcases Nat.lt_or_ge i s.length with hi | hi
 ·exfalso
  cases hc:closes (s.getD i 0).toNat st with
  | true =>
   cases st with
   | nil=>cases hc
   | cons z st =>
    obtain ⟨q,p⟩:=z
    rw [(P7 h0 hi hc).2] at h
    exact a4u (a1n h)
  | false =>
   by_cases h1:(s.getD i 0).toNat = 34
   ·rw [Y7 h0 hi hc h1] at h
    exact a4u (a1n h)
   ·cases h2:q9 (s.getD i 0) with
    | true =>
     rw [P8 h0 hi hc h1 h2] at h
     have h:=a1n h
     split at h <;> cases h
    | false =>
     cases h3:F5 (s.getD i 0) with
     | true =>
      rw [M9 h0 hi hc h1 h2 h3] at h
      have h:=a1n h
      split at h <;> cases h
     | false =>
      cases hw:I6 s i 2 with
      | nil=>rw [a0E h0 hi hc h1 h2 h3 hw] at h; cases h
      | cons b w =>
       rw [O3 h0 hi hc h1 h2 h3 hw (by simp)] at h
       have h:=a1n h
       cases h
 ·cases st with
  | nil=>rw [a0l h0 hi] at h; cases h; exact ⟨rfl,hi⟩
  | cons z st=>obtain ⟨q,p⟩:=z; rw [a0m h0 hi] at h; cases h
theorem a2c {toks:List Tok} {j:Nat} {r:MR} {c:Int} {a:Nat} (h:roomy toks j r = .err c a):c = 2 ∨ r = .err c a:=by
 unfold roomy at h
 split at h
 ·cases h; exact .inl rfl
 ·exact .inr h
theorem b1h {s:List UInt8} {toks:List Tok} {st:List (Nat × Int)} {q j ins i:Nat} {a b:Int} {c:Int} {p:Nat} (h:U5 toks st q j a b (part s q ins i []) = .err c p):c ≠ 0:=by
 have hok:=a8O s q ins i []
 cases hp:part s q ins i [] with
 | err c' a'=>rw [hp] at h hok; cases h; rcases hok with rfl | rfl | rfl <;> decide
 | fin t e=>rw [hp] at h; cases h
 | more t e=>rw [hp] at h; cases h
theorem b2b {s:List UInt8} {x:MS} {c:Int} {p:Nat} (h:stepM s x = .err c p):c ≠ 0:=by
 obtain ⟨i0,toks,st⟩:=x
 obtain ⟨i,h0⟩:∃ i,E9 s i0 = i:=⟨_,rfl⟩
 rcases Nat.lt_or_ge i s.length with hi | hi
 ·cases hc:closes (s.getD i 0).toNat st with
  | true =>
   cases st with
   | nil=>cases hc
   | cons z st =>
    obtain ⟨q,p⟩:=z
    rw [(P7 h0 hi hc).2] at h
    rcases a2c h with rfl | h
    ·decide
    ·exact b1h h
  | false =>
   by_cases h1:(s.getD i 0).toNat = 34
   ·rw [Y7 h0 hi hc h1] at h
    rcases a2c h with rfl | h
    ·decide
    ·exact b1h h
   ·cases h2:q9 (s.getD i 0) with
    | true =>
     rw [P8 h0 hi hc h1 h2] at h
     rcases a2c h with rfl | h
     ·decide
     ·split at h <;> cases h; decide
    | false =>
     cases h3:F5 (s.getD i 0) with
     | true =>
      rw [M9 h0 hi hc h1 h2 h3] at h
      rcases a2c h with rfl | h
      ·decide
      ·split at h <;> cases h; decide
     | false =>
      cases hw:I6 s i 2 with
      | nil=>rw [a0E h0 hi hc h1 h2 h3 hw] at h; cases h; decide
      | cons b w =>
       rw [O3 h0 hi hc h1 h2 h3 hw (by simp)] at h
       rcases a2c h with rfl | h
       ·decide
       ·cases h
 ·cases st with
  | nil=>rw [a0l h0 hi] at h; cases h
  | cons z st=>obtain ⟨q,p⟩:=z; rw [a0m h0 hi] at h; cases h; decide
structure TokOk (s:List UInt8) (r:MR):Prop where
 bd:RBd r
 nz:∀ c a,r = .err c a -> c ≠ 0
 lay:∀ l,r = .done l -> s.length <= 8000 /\ ∃ e,Lay s 0 l e /\ s.length <= E9 s e /\ e <= s.length
theorem ends_ok {s:List UInt8} (hs:s.length <= 8000) {r:MR} (h:Ends s ⟨0,[],[]⟩ r) (hr:RBd r):TokOk s r:=by
 obtain ⟨y,h1,h2,h3⟩:=h
 refine ⟨hr,fun c a e=>?_,fun l e=>?_⟩
 ·subst e; exact b2b h2
 ·subst e
  obtain ⟨h4,h5⟩:=a4b h2
  obtain ⟨h6,h7⟩:=b1R h1 (Nat.zero_le _) rfl
  rw [h4] at h7
  exact ⟨hs,y.i,h7,h5,h6⟩
theorem a9M (s:List UInt8):∃ r,TokOk s r /\ E env (.call 13 [.str s]) [] = some (.ret (a3g r) []) /\ E env (.call 18 [.str s]) [] = some (.ret (a3g r) []) /\ (s.length <= 8000 -> Ends s ⟨0,[],[]⟩ r):=by
 rcases Nat.lt_or_ge 8000 s.length with h | h
 ·exact ⟨.err 2 0,⟨trivial,fun c a e=>(by cases e; decide),fun l e=>(by cases e)⟩,c11big h,c12big h,fun h1=>absurd h1 (by omega)⟩
 ·obtain ⟨r,h1,h2,h3⟩:=c11 h
  obtain ⟨r',h4,h5⟩:=c12 h
  obtain rfl:=Ends.det s h1 h4
  exact ⟨r,ends_ok h h1 h2,h3,h5,fun _=>h1⟩
end Go.Proofs.YtlhgheonlcjpaaaGreat.Sc
namespace Go.Vm
variable {ρ:Rho} {lab:Lab} {w:World} {H:Hp}
theorem a8w {env:Env} (hE:a2H env) {g:Nat} {args:List V} {v:V} (h:E env (.call g args) [] = some (.ret v [])) (ha:J5 (M8 a0u dep) (args.map a2e) = some args) (hv:M8 a0u dep v = some v)
  (hc:Canon 0 H) (hS:Sim ρ lab H w) {xs:List Value} (hx:p9 ρ lab w args xs):Calls env.P g xs.toArray w (a08 ρ lab H w (.ret v H)):=by
 obtain ⟨k,hk⟩:=(U1 env).at_ _ _ _ h
 have q:K4 (run env k) g args H = some (.val v H):=by
  unfold K4
  rw [ha]
  simp only
  rw [hk]
  simp only
  rw [hv]
 refine (a5E (b0K hE k).1 hS hx q).1.mono fun e w' he=>?_
 cases e with
 | returned x =>
  obtain ⟨ρ',lab',h1,h2,h3,h4⟩:=he
  exact ⟨ρ',lab',h1,h2,M6.of_le h3 _,h4,hc,Nat.le_refl _⟩
 | panicked ch=>exact he.elim
 | outgrown=>exact he.elim
def valI (f:List V -> Option V):List V -> Hp -> Option Out:=fun args H=>match f args with
 | some v=>some (.ret v H)
 | none=>none
theorem a9a {env:Env} (hE:a2H env) {g:Nat} {f:List V -> Option V}
  (hf:∀ args v,f args = some v -> J5 (M8 a0u dep) (args.map a2e) = some args /\ M8 a0u dep v = some v /\ E env (.call g args) [] = some (.ret v []))
  (hk:∃ fn c,env.P.funcs[g]? = some fn /\ (fn.name == "runtime.NumGoroutine") = false /\ fn.body = some c):a3P env.P g (valI f):=by
 refine ⟨fun args H out h ρ lab w xs hc hS hx=>?_,hk⟩
 unfold valI at h
 split at h
 ·rename_i v hv
  cases h
  obtain ⟨h1,h2,h3⟩:=hf args v hv
  exact a8w hE h3 h1 h2 hc hS hx
 ·cases h
theorem a5R {env:Env} {g:Nat} {args:List V} {H:Hp} {out:Out} {h:List V -> Hp -> Option Out} (hi:env.intr g = some (.plain h)) (ho:h args H = some out):E env (.call g args) H = some out:=by
 refine (U1 env).le 1 _ _ _ ?_
 simp only [run,step,hi,ho]
end Go.Vm
namespace Go.Proofs.YtlhgheonlcjpaaaGreat.Sc
open Go Go.Vm
noncomputable def a0e (s:List UInt8):MR:=(a9M s).choose
theorem a0R (s:List UInt8):TokOk s (a0e s) /\ E env (.call 13 [.str s]) [] = some (.ret (a3g (a0e s)) []) /\ E env (.call 18 [.str s]) [] = some (.ret (a3g (a0e s)) []) /\ (s.length <= 8000 -> Ends s ⟨0,[],[]⟩ (a0e s)):=(a9M s).choose_spec
theorem a2A (s:List UInt8):RBd (a0e s) /\ E env (.call 13 [.str s]) [] = some (.ret (a3g (a0e s)) []) /\ E env (.call 18 [.str s]) [] = some (.ret (a3g (a0e s)) []):=⟨(a0R s).1.bd,(a0R s).2.1,(a0R s).2.2.1⟩
noncomputable def tokF:List V -> Option V:=fun args=>match args with
 | [.str s]=>some (a3g (a0e s))
 | _=>none
theorem a9N {r:MR} (h:RBd r):M8 a0u dep (a3g r) = some (a3g r):=by
 cases r with
 | go x=>exact h.elim
 | done l=>rfl
 | err c a=>rfl
theorem tok_intr:a3P Tryz.prog 13 (valI tokF):=by
 refine a9a a7x (fun args v h=>?_) ⟨_,_,Tryz.func13,by kernel_rfl,rfl⟩
 unfold tokF at h
 split at h
 ·rename_i s
  cases h
  exact ⟨rfl,a9N (a2A s).1,(a2A s).2.1⟩
 ·cases h
theorem b2h:a3P Tryz.prog 18 (valI tokF):=by
 refine a9a a7x (fun args v h=>?_) ⟨_,_,Tryz.func18,by kernel_rfl,rfl⟩
 unfold tokF at h
 split at h
 ·rename_i s
  cases h
  exact ⟨rfl,a9N (a2A s).1,(a2A s).2.2⟩
 ·cases h
end Go.Proofs.YtlhgheonlcjpaaaGreat.Sc
namespace Go.Proofs.YtlhgheonlcjpaaaGreat.Sc
open Go
theorem disable (w:World):(callFunc 83 #[]).run Tryz.prog w = .ok (.value (.tuple #[])) w:=run_call_mark0 Tryz.func83 (by kernel_rfl) (by kernel_rfl) (by kernel_rfl) .disable (by kernel_rfl) w
theorem enable (w:World):(callFunc 85 #[]).run Tryz.prog w = .ok (.value (.tuple #[])) w:=run_call_mark0 Tryz.func85 (by kernel_rfl) (by kernel_rfl) (by kernel_rfl) .enable (by kernel_rfl) w
theorem acquire (a:Addr) (w:World):(callFunc 86 #[.pointer (some a)]).run Tryz.prog w = .ok (.value (.tuple #[])) w:=run_call_marked Tryz.func86 (by kernel_rfl) (by kernel_rfl) (by kernel_rfl) .acquire (by kernel_rfl) a w
theorem releaseMerge (a:Addr) (w:World):(callFunc 88 #[.pointer (some a)]).run Tryz.prog w = .ok (.value (.tuple #[])) w:=run_call_marked Tryz.func88 (by kernel_rfl) (by kernel_rfl) (by kernel_rfl) .releaseMerge (by kernel_rfl) a w
theorem lock_in (a:Addr) (w:World) (hc:w.cell? a = some (.int .i32 0)) (hz:w.frozen? a = false) :
  Calls Tryz.prog 77 #[.pointer (some a)] w fun e w'=>e = .returned (.tuple #[]) /\ w' = w.setCell a (.int .i32 1):=by
 have hd:=disable
 have he:=enable
 have ha:=acquire
 have hcas:=run_call_cas_hit (P:=Tryz.prog) Tryz.func84 (by kernel_rfl) (by kernel_rfl) (by kernel_rfl) .i32 (by kernel_rfl) (y:=1) hc hz
 have hc':(w.setCell a (.int .i32 1)).cell? a = some (.int .i32 1):=World.cell?_setCell_same w a _ hc
 have hcv:=run_convert_to_unsafe (P:=Tryz.prog) (src:=136) (dst:=104) Tryz.underlying136 Tryz.underlying104 (by kernel_rfl) hc'
 go_enter Tryz.func77,Tryz.ntmps77
 go_wp2
 first | go_end0 | (simp only [Exit.inBlock,Exit.then]; refine bodyPost_ret (results_none rfl _ _ _) rfl ?_) | refine bodyPost_ret (results_none rfl _ _ _) rfl ?_
 all_goals (go_wp2 <;> (go_end0 <;> exact ⟨rfl,rfl⟩))
theorem lock_free (a:Addr) (w:World) (hc:w.cell? a = some (.int .i32 0)) (hz:w.frozen? a = false) :
  Calls Tryz.prog 72 #[.pointer (some a)] w fun e w'=>e = .returned (.tuple #[]) /\ w' = w.setCell a (.int .i32 1):=by
 go_enter Tryz.func72,Tryz.ntmps72
 go_wp2_with (go_at_call 77; refine (lock_in a _ hc hz).mono ?_; rintro e w' ⟨rfl,rfl⟩)
 go_end0
 exact ⟨rfl,rfl⟩
theorem b2i (a:Addr) (w:World) (hc:w.cell? a = some (.int .i32 1)) (hz:w.frozen? a = false) :
  Calls Tryz.prog 78 #[.pointer (some a)] w fun e w'=>e = .returned (.tuple #[]) /\ w' = w.setCell a (.int .i32 0):=by
 have hd:=disable
 have he:=enable
 have hr:=releaseMerge
 have hadd:=run_call_add (P:=Tryz.prog) Tryz.func89 (by kernel_rfl) (by kernel_rfl) (by kernel_rfl) .i32 (by kernel_rfl) (y:=-1) (s:=0) hc hz (by simp [go_sem]; rfl)
 have hcv:=run_convert_to_unsafe (P:=Tryz.prog) (src:=136) (dst:=104) Tryz.underlying136 Tryz.underlying104 (by kernel_rfl) hc
 go_enter Tryz.func78,Tryz.ntmps78
 go_wp2
 go_end0
 all_goals (go_wp2 <;> (go_end0 <;> exact ⟨rfl,rfl⟩))
theorem unlock_deferred (a:Addr) (u:FrameMode) (w:World) (hc:w.cell? a = some (.int .i32 1)) (hz:w.frozen? a = false) :
  CallsD Tryz.prog 73 #[.pointer (some a)] u w fun e u' w'=>u' = u /\ (e = .returned (.tuple #[]) /\ w' = w.setCell a (.int .i32 0)):=by
 go_enter_d Tryz.func73,Tryz.ntmps73
 go_wp2_with (go_at_call 78; refine (b2i a _ hc hz).mono ?_; rintro e w' ⟨rfl,rfl⟩)
 go_end0
 exact ⟨rfl,rfl⟩
theorem a7c (a:Addr) (x:Value) (u:FrameMode) (w:World) (hc:w.cell? a = some x) (hz:w.frozen? a = false) :
  CallsD Tryz.prog 74 #[.pointer (some a),.bool true] u w fun e u' w'=>u' = u /\ (e = .returned (.tuple #[]) /\ w' = w.drew.setCell a (.int .u32 1)):=by
 have hc':w.drew.cell? a = some x:=by go_simp
 have hz':w.drew.frozen? a = false:=by go_simp
 have hst:=run_call_store (P:=Tryz.prog) Tryz.func79 (by kernel_rfl) (by kernel_rfl) (by kernel_rfl) (by kernel_rfl) (k:=.u32) (y:=1) hc' hz'
 go_enter_d Tryz.func74,Tryz.ntmps74
 go_wp2
 go_region_calls
 all_goals (go_end0; exact ⟨rfl,rfl⟩)
end Go.Proofs.YtlhgheonlcjpaaaGreat.Sc
namespace Go.Proofs.YtlhgheonlcjpaaaGreat.Sc
open Go
theorem slow_any (b off:Nat) (fv:Value) (w:World) (Q:World -> Prop) (g:Nat) (cap:Array Value) (hfv:fv = .func (.func g) cap #[]) {fn:Func} (hg:Tryz.prog.funcs[g]? = some fn) (hname:(fn.name == "runtime.NumGoroutine") = false) {c:Code} (hbody:fn.body = some c)
  (h0:w.cell? ⟨b,off,none⟩ = some (.int .u32 0)) (h1:w.cell? ⟨b,off + 1,none⟩ = some (.int .i32 0))
  (f0:w.frozen? ⟨b,off,none⟩ = false) (f1:w.frozen? ⟨b,off + 1,none⟩ = false)
  (hQ:Calls Tryz.prog g cap (w.setCell ⟨b,off + 1,none⟩ (.int .i32 1)) fun e w'=>e = .returned (.tuple #[]) /\ Q w' /\ w'.cell? ⟨b,off,none⟩ = some (.int .u32 0) /\ w'.cell? ⟨b,off + 1,none⟩ = some (.int .i32 1) /\ w'.frozen? ⟨b,off,none⟩ = false /\ w'.frozen? ⟨b,off + 1,none⟩ = false) :
  Calls Tryz.prog 66 #[.pointer (some ⟨b,off,none⟩),fv] w fun e w'=>e = .returned (.tuple #[]) /\ ∃ w1,Q w1 /\
   w' = (w1.drew.setCell ⟨b,off,none⟩ (.int .u32 1)).setCell ⟨b,off + 1,none⟩ (.int .i32 0):=by
 subst hfv
 have hl:=run_call_load (P:=Tryz.prog) Tryz.func71 (by kernel_rfl) (by kernel_rfl) (by kernel_rfl) .u32 (by kernel_rfl) (w:=w.setCell ⟨b,off + 1,none⟩ (.int .i32 1)) (a:=⟨b,off,none⟩) (x:=0) ((World.cell?_setCell_other _ ⟨b,off + 1,none⟩ ⟨b,off,none⟩ _ (by simp)).trans h0)
 have hnot:∀ (x:Bool) (w:World),(Op.unary .not (.bool x)).run Tryz.prog w = .ok (.bool (!x)) w:=fun _ _=>rfl
 go_enter_defers Tryz.func66,Tryz.ntmps66
 go_wp2_with (go_at_call 72; refine (lock_free ⟨b,off + 1,none⟩ _ (by go_simp) (by go_simp)).mono ?_; rintro e w' ⟨rfl,rfl⟩)
 go_wp2
 have hrun:∀ w,(callFunc g cap).run Tryz.prog w = .ok (.enter g cap) w:=fun w=>by
  have h1:fn.name ≠ "runtime.NumGoroutine":=by simpa using hname
  simp [callFunc,hg,h1,hbody]
 rw [hrun,Oper.upon_enter]
 refine hQ.mono ?_
 rintro e w' ⟨rfl,hq,c0,c1,z0,z1⟩
 go_wp2
 refine leaves_cons (f:=74) (args:=#[.pointer (some ⟨b,off,none⟩),.bool true]) (by simp) (by simp [go_sem]) ?_
 refine (a7c ⟨b,off,none⟩ (.int .u32 0) .returning _ c0 z0).mono ?_
 rintro e u' w'' ⟨rfl,rfl,rfl⟩
 refine leaves_cons (f:=73) (args:=#[.pointer (some ⟨b,off + 1,none⟩)]) (by simp [settle]) (by simp [go_sem]) ?_
 refine (unlock_deferred ⟨b,off + 1,none⟩ _ _ ?_ (by simp [z1])).mono ?_
 ·refine (World.cell?_setCell_other _ ⟨b,off,none⟩ ⟨b,off + 1,none⟩ _ (by simp)).trans ?_
  rw [World.cell?_drew]
  exact c1
 rintro e u' w'' ⟨rfl,rfl,rfl⟩
 simp [Leaves,settle,results,Tryz.results66]
 exact ⟨w',hq,rfl⟩
theorem do_any (b off:Nat) (fv:Value) (w:World) (Q:World -> Prop) (g:Nat) (cap:Array Value) (hfv:fv = .func (.func g) cap #[]) {fn:Func} (hg:Tryz.prog.funcs[g]? = some fn) (hname:(fn.name == "runtime.NumGoroutine") = false) {c:Code} (hbody:fn.body = some c)
  (h0:w.cell? ⟨b,off,none⟩ = some (.int .u32 0)) (h1:w.cell? ⟨b,off + 1,none⟩ = some (.int .i32 0))
  (f0:w.frozen? ⟨b,off,none⟩ = false) (f1:w.frozen? ⟨b,off + 1,none⟩ = false)
  (hQ:Calls Tryz.prog g cap (w.setCell ⟨b,off + 1,none⟩ (.int .i32 1)) fun e w'=>e = .returned (.tuple #[]) /\ Q w' /\ w'.cell? ⟨b,off,none⟩ = some (.int .u32 0) /\ w'.cell? ⟨b,off + 1,none⟩ = some (.int .i32 1) /\ w'.frozen? ⟨b,off,none⟩ = false /\ w'.frozen? ⟨b,off + 1,none⟩ = false) :
  Calls Tryz.prog 43 #[.pointer (some ⟨b,off,none⟩),fv] w fun e w'=>e = .returned (.tuple #[]) /\ ∃ w1,Q w1 /\
   w' = (w1.drew.setCell ⟨b,off,none⟩ (.int .u32 1)).setCell ⟨b,off + 1,none⟩ (.int .i32 0):=by
 have hl:=run_call_load (P:=Tryz.prog) Tryz.func71 (by kernel_rfl) (by kernel_rfl) (by kernel_rfl) .u32 (by kernel_rfl) h0
 have hnot:∀ (x:Bool) (w:World),(Op.unary .not (.bool x)).run Tryz.prog w = .ok (.bool (!x)) w:=fun _ _=>rfl
 go_enter Tryz.func43,Tryz.ntmps43
 have hS:=slow_any b off fv w Q g cap hfv hg hname hbody h0 h1 f0 f1 hQ
 clear hfv hg hname hbody hQ
 go_wp2_with (first | (go_at_call 66; refine hS.mono ?_; rintro e w' ⟨rfl,w1,hw1,rfl⟩) | (go_at_call 65; go_in))
 go_end0
 exact ⟨rfl,w1,hw1,rfl⟩
end Go.Proofs.YtlhgheonlcjpaaaGreat.Sc
namespace Go.Vm
open Go
variable {P:Program} {T:List (Nat × Ty)} {ρ:Rho} {lab:Lab} {H:Hp} {w:World}
theorem Rel.drew {v:V} {x:Value} (h:Rel ρ lab w v x):Rel ρ lab w.drew v x:=by
 have E:Ext lab w lab w.drew:=⟨Nat.le_refl _,rfl,rfl,rfl,fun _ _ _ h=>h,fun _ _=>.rfl,fun _ _ _ _=>⟨rfl,rfl⟩,fun _ _ _=>rfl⟩
 exact h.ext E (.refl _)
theorem a9k:Ext lab w lab w.drew:=⟨Nat.le_refl _,rfl,rfl,rfl,fun _ _ _ h=>h,fun _ _=>.rfl,fun _ _ _ _=>⟨rfl,rfl⟩,fun _ _ _=>rfl⟩
theorem sim_drew (hS:Sim ρ lab H w):Sim ρ lab H w.drew:=by
 refine Sim.mk' (fun k o hk=>?_) hS.hdom hS.adom hS.ldom
 have h1:a0r ρ lab w k o:=by
  cases o with
  | row cs=>exact hS.row k cs hk
  | grow e cs=>exact hS.grow k e cs hk
  | tip e n=>exact hS.tip k e n hk
  | gone=>trivial
 exact h1.carry a9k (.refl _) fun b p hc=>⟨⟨hc.lab,hc.free,hc.cell⟩,rfl⟩
theorem a8W {t:Nat} {k:IntKind} {n:Int} {b p:Nat} {u:Value} (hz:∀ w,(sizeOf t).run P w = .ok 1 w) (hc:w.cell? ⟨b,p,none⟩ = some u) (hf:w.frozen? ⟨b,p,none⟩ = false) :
  (Instr.storeAt t (.pointer (some ⟨b,p,none⟩)) (.int k n)).run P w = .ok () (w.setCell ⟨b,p,none⟩ (.int k n)):=by
 have:=run_storeCells_cells (P:=P) b p [.int k n] 0 w (fun j hj=>by
  have:j = 0:=by simpa using hj
  subst this; simp [hc]) (fun j hj=>by
  have:j = 0:=by simpa using hj
  subst this; simpa using hf) (fun j hj=>by
  have:j = .int k n:=by simpa using hj
  subst this; rfl)
 have hs:(Value.int k n).cells = #[.int k n]:=rfl
 simp only [Instr.storeAt,Instr.sureAddr,storeVar,Sem.run_bind,Sem.run_pure,Result.andThen_ok,hz,hs,List.size_toArray,List.length_singleton,ne_eq,not_true_eq_false,if_false]
 refine Eq.trans ?_ this
 simp
theorem a4c (hT:TOk P T) (hS:Sim ρ lab H w) {t:Nat} {y:Ty} (hy:D8 t T = some y) (h1:y.size = 1) {r off b p:Nat} {k:IntKind} {n:Int} {H':Hp} {u:Value}
  (hx:Rel ρ lab w (.ptr r off) (.pointer (some ⟨b,p,none⟩))) (hc:w.cell? ⟨b,p,none⟩ = some u) (hf:w.frozen? ⟨b,p,none⟩ = false) (h:Y0 T t (.ptr r off) (.int k n) H = some H') :
  Sim ρ lab H' (w.setCell ⟨b,p,none⟩ (.int k n)) /\ Ext lab w lab (w.setCell ⟨b,p,none⟩ (.int k n)):=by
 obtain ⟨w',g1,g2,g3⟩:=a8e hT hS hx (.int k n) h
 have hz:∀ w,(sizeOf t).run P w = .ok 1 w:=fun w=>by
  have:=H9 (hT t y hy) w
  rwa [h1] at this
 rw [a8W hz hc hf] at g1
 cases g1
 exact ⟨g2,g3⟩
theorem a2L {t:Nat} {v:V} {r off:Nat} {H':Hp} (hc:Canon 0 H) (h:Y0 T t (.ptr r off) v H = some H'):Canon 0 H' /\ H'.length = H.length:=by
 unfold Y0 at h
 split at h
 ·rename_i y r off hy he
  cases he
  split at h
  ·split at h
   ·rename_i cs hg
    unfold gd at h
    split at h
    ·cases h; exact a2l hc (by rw [hg]; simp)
    ·cases h
   ·rename_i e cs hg
    split at h
    ·unfold gd at h
     split at h
     ·cases h; exact a2l hc (by rw [hg]; simp)
     ·cases h
    ·cases h
   ·cases h
  ·cases h
 ·cases h
end Go.Vm
namespace Go.Proofs.YtlhgheonlcjpaaaGreat.Sc
open Go Go.Vm
def OT:List (Nat × Ty):=[(21,⟨.int .i32,1,4,[.int .i32 0]⟩),(77,⟨.int .u32,1,4,[.int .u32 0]⟩)]
theorem otOk:TOk Tryz.prog OT:=a4Q (by kernel_rfl)
def doPre:List V -> Hp -> Option (Nat × List V × Hp):=fun args H=>match args with
 | [.ptr r off,.func (.func g) cap []]=>match hget r H with
  | some (.row cs)=>match cs[off]?,cs[off + 1]?,Y0 OT 21 (.ptr r (off + 1)) (.int .i32 1) H with
   | some (.int .u32 0),some (.int .i32 0),some H'=>gd (Nat.beq g 44) (some (g,cap,H'))
   | _,_,_=>none
  | _=>none
 | _=>none
def b0c:List V -> Hp -> Out -> Option Out:=fun args H o=>match args,o with
 | [.ptr r off,.func (.func g) cap []],.ret (.tuple []) H1=>match hget r H1 with
  | some (.row cs)=>match cs[off]?,cs[off + 1]?,Y0 OT 77 (.ptr r off) (.int .u32 1) H1 with
   | some (.int .u32 0),some (.int .i32 1),some H2=>match Y0 OT 21 (.ptr r (off + 1)) (.int .i32 0) H2 with
    | some H3=>some (.ret (.tuple []) H3)
    | none=>none
   | _,_,_=>none
  | _=>none
 | _,_=>none
theorem do_via:ViaOk Tryz.prog 43 doPre b0c:=by
 refine ⟨fun args H g' l H' o out hp ho ρ lab w xs hc hS hx hcall=>?_,⟨_,_,Tryz.func43,rfl,rfl⟩⟩
 unfold doPre at hp
 split at hp
 ·rename_i args0 r off g cap
  split at hp
  ·rename_i cs hg
   split at hp
   ·rename_i e0 e1 H1 c0 c1 hst
    unfold gd at hp
    split at hp
    ·rename_i hb
     cases hp
     have hb:=Nat.eq_of_beq_eq_true hb
     obtain ⟨b,o1,zs,a1,a2,a3⟩:=hS.row r cs hg
     obtain ⟨x1,xr0,rfl,r1,r2⟩:=o8.1 hx
     obtain ⟨x2,xr,rfl,r3,r4⟩:=o8.1 r2
     have:xr = []:=by have:=r4.1; simpa using this
     subst this
     cases r3 with
     | func _ _ _ us ys u1 u2 u3 u4 =>
     have:ys = []:=by simpa using u2
     subst this
     have hp1:x1 = .pointer (some ⟨b,o1 + off,none⟩):=by
      cases r1 with
      | ptr _ _ b' o' c' h=>rw [a1] at h; cases h; rfl
     subst hp1
     have cell:∀ {ρ:Rho} {lab:Lab} {w:World} {H:Hp} {cs:List V} {b o1 i:Nat} {k:IntKind} {n:Int},Sim ρ lab H w -> hget r H = some (.row cs) -> ρ.at_ r = some (some (b,o1),none) -> cs[i]? = some (.int k n) -> w.cell? ⟨b,o1 + i,none⟩ = some (.int k n) /\ w.frozen? ⟨b,o1 + i,none⟩ = false:=by
      intro ρ lab w H cs b o1 i k n hS hg ha hi
      obtain ⟨b2,o2,zs,a1,a2,a3⟩:=hS.row r cs hg
      rw [ha] at a1
      cases a1
      have hl:i < zs.length:=by
       rw [a2.1]
       rcases Nat.lt_or_ge i cs.length with h | h
       ·exact h
       ·rw [List.getElem?_eq_none h] at hi; cases hi
      have hz:zs[i]? = some zs[i]:=by simp [hl]
      have hr:=a2.2 i _ _ hi hz
      obtain ⟨q1,q2⟩:=a3 i _ hz
      have:zs[i] = .int k n:=by
       generalize zs[i] = z at hr
       cases hr; rfl
      rw [this] at q2
      exact ⟨q2,q1.free⟩
     obtain ⟨m0,f0⟩:=cell hS hg a1 c0
     obtain ⟨m1,f1⟩:=cell hS hg a1 c1
     obtain ⟨t1,t2⟩:=a4c otOk hS (y:=⟨.int .i32,1,4,[.int .i32 0]⟩) (by kernel_rfl) rfl (.ptr r (off + 1) b o1 none a1) m1 f1 hst
     obtain ⟨cn1,ln1⟩:=a2L hc hst
     have cap':p9 ρ lab (w.setCell ⟨b,o1 + (off + 1),none⟩ (.int .i32 1)) _ us:=p9.ext t2 (.refl _) ⟨u1,u3⟩
     have hK:=hcall ρ lab _ us cn1 t1 cap'
     unfold b0c at ho
     split at ho
     ·rename_i r' off' g' cap2 H2 hargs
      cases hargs
      split at ho
      ·rename_i cs1 hg1
       split at ho
       ·rename_i e2 e3 H3 d0 d1 hst2
        split at ho
        ·rename_i H4 hst3
         cases ho
         have hD:=fun hq=>do_any b (o1 + off) (.func (.func 44) us.toArray #[]) w (fun w'=>∃ ρ' lab',Sim ρ' lab' H2 w' /\ Ext lab (w.setCell ⟨b,o1 + (off + 1),none⟩ (.int .i32 1)) lab' w' /\ M6 H'.length ρ ρ' /\ Canon 0 H2 /\ H'.length <= H2.length) 44 us.toArray rfl Tryz.func44 rfl rfl m0 m1 f0 f1 hq
         subst hb
         refine (hD ?_).mono ?_
         ·refine hK.mono ?_
          intro e w' hP
          cases e with
          | returned x =>
           obtain ⟨ρ',lab',s1,s2,s3,s4,s5,s6⟩:=hP
           have hx0:x = .tuple #[]:=by
            cases s4 with
            | tuple _ zs h1 h2 =>
             have:zs = []:=by simpa using h1
             subst this; rfl
           have hr:r < H'.length:=by
            have:=O9 hc r _ hg
            omega
           have ha1:=s3.at_ r _ hr a1
           obtain ⟨n0,k0⟩:=cell s1 hg1 ha1 d0
           obtain ⟨n1,k1⟩:=cell s1 hg1 ha1 d1
           exact ⟨by rw [hx0],⟨ρ',lab',s1,s2,s3,s5,s6⟩,n0,n1,k0,k1⟩
          | _=>exact hP.elim
         ·rintro e w' ⟨rfl,w1,⟨ρ',lab',s1,s2,s3,s4,s5⟩,rfl⟩
          have hr:r < H'.length:=by
           have:=O9 hc r _ hg
           omega
          have ha1:=s3.at_ r _ hr a1
          obtain ⟨n0,k0⟩:=cell s1 hg1 ha1 d0
          obtain ⟨p1,p2⟩:=a4c otOk (sim_drew s1) (y:=⟨.int .u32,1,4,[.int .u32 0]⟩) (by kernel_rfl) rfl (.ptr r off b o1 none ha1) n0 k0 hst2
          obtain ⟨cn2,ln2⟩:=a2L s4 hst2
          obtain ⟨n1,k1⟩:=cell s1 hg1 ha1 d1
          have hne:(⟨b,o1 + off,none⟩:Addr) ≠ ⟨b,o1 + (off + 1),none⟩:=by simp
          have q1:(w1.drew.setCell ⟨b,o1 + off,none⟩ (.int .u32 1)).cell? ⟨b,o1 + (off + 1),none⟩ = some (.int .i32 1):=(World.cell?_setCell_other _ _ _ _ hne).trans n1
          have q2:(w1.drew.setCell ⟨b,o1 + off,none⟩ (.int .u32 1)).frozen? ⟨b,o1 + (off + 1),none⟩ = false:=by simp [k1]
          obtain ⟨p3,p4⟩:=a4c otOk p1 (y:=⟨.int .i32,1,4,[.int .i32 0]⟩) (by kernel_rfl) rfl (.ptr r (off + 1) b o1 none ha1) q1 q2 hst3
          obtain ⟨cn3,ln3⟩:=a2L cn2 hst3
          refine ⟨ρ',lab',p3,t2.trans (s2.trans (a9k.trans (p2.trans p4))),?_,.tuple [] [] rfl (by simp),cn3,by omega⟩
          rw [<- ln1]
          exact s3
        ·cases ho
       ·cases ho
      ·cases ho
     ·cases ho
    ·cases hp
   ·cases hp
  ·cases hp
 ·cases hp
end Go.Proofs.YtlhgheonlcjpaaaGreat.Sc
namespace Go.Proofs
open Go.Shelf
def Tryz.a9s:Go.Shelf.Ren:=⟨fun | 138=>128 | 195=>129 | 218=>130 | 143=>131 | 219=>132 | 217=>133 | 225=>134 | 224=>135 | 267=>136 | 266=>137 | 314=>138 | n=>n,fun | 9=>9 | 3=>3 | 4=>4 | 5=>5 | 0=>0 | 46=>147 | 146=>181 | 51=>77 | n=>n,fun | 1=>0 | n=>n⟩
theorem Tryz.lays138:Go.Proofs.Lays.n138 Tryz.prog Tryz.a9s:={
 mixed:=by kernel_rfl
 f138:=Tryz.func128.trans (congrArg some (by kernel_rfl))
 f143:=Tryz.func131.trans (congrArg some (by kernel_rfl))
 f195:=Tryz.func129.trans (congrArg some (by kernel_rfl))
 f217:=Tryz.func133.trans (congrArg some (by kernel_rfl))
 f218:=Tryz.func130.trans (congrArg some (by kernel_rfl))
 f219:=Tryz.func132.trans (congrArg some (by kernel_rfl))
 f224:=Tryz.func135.trans (congrArg some (by kernel_rfl))
 f225:=Tryz.func134.trans (congrArg some (by kernel_rfl))
 f266:=Tryz.func137.trans (congrArg some (by kernel_rfl))
 f267:=Tryz.func136.trans (congrArg some (by kernel_rfl))
 f314:=Tryz.func138.trans (congrArg some (by kernel_rfl))
 t0:=Tryz.underlying0
 a0:=Tryz.isAgg0
 z0:=Tryz.sizeOf0
 v0:=Tryz.zeroValue0
 t3:=Tryz.underlying3
 a3:=Tryz.isAgg3
 z3:=Tryz.sizeOf3
 v3:=Tryz.zeroValue3
 t4:=Tryz.underlying4
 a4:=Tryz.isAgg4
 z4:=Tryz.sizeOf4
 v4:=Tryz.zeroValue4
 t5:=Tryz.underlying5
 a5:=Tryz.isAgg5
 z5:=Tryz.sizeOf5
 v5:=Tryz.zeroValue5
 t9:=Tryz.underlying9
 a9:=Tryz.isAgg9
 z9:=Tryz.sizeOf9
 v9:=Tryz.zeroValue9
 t46:=Tryz.underlying147
 a46:=Tryz.isAgg147
 z46:=Tryz.sizeOf147
 v46:=Tryz.zeroValue147
 t51:=Tryz.underlying77
 a51:=Tryz.isAgg77
 z51:=Tryz.sizeOf77
 v51:=Tryz.zeroValue77
 t146:=Tryz.underlying181
 a146:=Tryz.isAgg181
 z146:=Tryz.sizeOf181
 v146:=Tryz.zeroValue181
 g1:=by kernel_rfl }
open Go.RowKit Go.Lib in
theorem Tryz.strings_Count_one (s:ByteArray) (c:UInt8) (w:World) :
  Calls Tryz.prog 128 #[.string s,.string ⟨#[c]⟩] w fun e w'=>e = .returned (.int .i64 (Lib.countByte s.data.toList c)) /\ w' = w:=Any.strings_Count_one Tryz.lays138 s c w
end Go.Proofs
namespace Go.Proofs.YtlhgheonlcjpaaaGreat.Rp
open Go Go.Vm
def T:List (Nat × Ty):=[
 (1,⟨.func,1,8,[.nilFunc]⟩),
 (3,⟨.int .i64,1,8,[.int .i64 0]⟩),
 (4,⟨.bool,1,1,[.bool false]⟩),
 (5,⟨.int .u8,1,1,[.int .u8 0]⟩),
 (9,⟨.string,1,16,[.str []]⟩),
 (21,⟨.int .i32,1,4,[.int .i32 0]⟩),
 (40,⟨.slice 9,1,24,[.slice .nil 0 []]⟩),
 (49,⟨.ptr 89,1,8,[.nilptr]⟩),
 (51,⟨.slice 5,1,24,[.slice .nil 0 []]⟩),
 (75,⟨.blk [],0,0,[]⟩),
 (76,⟨.blk [],0,0,[]⟩),
 (77,⟨.int .u32,1,4,[.int .u32 0]⟩),
 (79,⟨.blk [(76,0),(77,0)],1,4,[.int .u32 0]⟩),
 (81,⟨.blk [(21,0),(77,1)],2,8,[.int .i32 0,.int .u32 0]⟩),
 (83,⟨.blk [(75,0),(81,0)],2,8,[.int .i32 0,.int .u32 0]⟩),
 (85,⟨.blk [(75,0),(79,0),(83,1)],3,12,[.int .u32 0,.int .i32 0,.int .u32 0]⟩),
 (87,⟨.iface,1,16,[.nilIface]⟩),
 (89,⟨.blk [(85,0),(87,3),(40,4)],5,56,[.int .u32 0,.int .i32 0,.int .u32 0,.nilIface,.slice .nil 0 []]⟩),
 (111,⟨.ptr 128,1,8,[.nilptr]⟩),
 (113,⟨.ptr 134,1,8,[.nilptr]⟩),
 (116,⟨.array 256 5,256,256,List.replicate 256 (.int .u8 0)⟩),
 (117,⟨.ptr 116,1,8,[.nilptr]⟩),
 (118,⟨.array 256 51,256,6144,List.replicate 256 (.slice .nil 0 [])⟩),
 (120,⟨.blk [(118,0),(40,256)],257,6168,List.replicate 256 (.slice .nil 0 []) ++ [.slice .nil 0 []]⟩),
 (121,⟨.ptr 120,1,8,[.nilptr]⟩)]
theorem tys:tysB Tryz.prog T = true:=by kernel_rfl
theorem mixed:Tryz.prog.follows .mixedOrders = true:=by kernel_rfl
def keep:Nat -> Nat -> List Nat
 | 67,6=>[3,4,5]
 | 67,15=>[3,6,61]
 | 67,20=>[3,6,8]
 | 67,28=>[3,11,12]
 | 126,5=>[0,1,5,6,30,31,32]
 | 126,13=>[0,1,5,6,10]
 | 126,24=>[0,1,12,13,14]
 | 126,100032=>[12]
 | _,_=>[]
def a8y:List V -> Hp -> Option Out:=fun args H=>match args with
 | [.str s,.str [c]]=>some (.ret (.int .i64 ((s.count c:Nat):Int)) H)
 | _=>none
theorem b1B:a3P Tryz.prog 128 a8y:=by
 refine ⟨fun args H out h ρ lab w xs hc hS hx=>?_,⟨_,_,Tryz.func128,rfl,rfl⟩⟩
 unfold a8y at h
 split at h
 ·rename_i s c
  cases h
  obtain ⟨x1,r1,rfl,h1,h2⟩:=o8.1 hx
  obtain ⟨x2,r2,rfl,h3,h4⟩:=o8.1 h2
  have:r2 = []:=by have:=h4.1; simpa using this
  subst this
  cases h1
  cases h3
  refine (Tryz.strings_Count_one ⟨⟨s⟩⟩ c w).mono fun e w' ⟨he,hw⟩=>?_
  subst he; subst hw
  exact ⟨ρ,lab,hS,Ext.refl _ _,⟨fun _ _ _ h=>h,fun _ _ _ _ h=>h⟩,.int _ _,hc,Nat.le_refl _⟩
 ·cases h
def okL:List Nat:=[16,23,24,44,67,126]
def a6S:List Nat:=[128,16]
def a6u:Nat -> Option Hand
 | 43=>some (.via Sc.doPre Sc.b0c)
 | 128=>some (.plain a8y)
 | _=>none
noncomputable def env:Env:={ P:=Tryz.prog,T:=T,keep:=keep,byref:=fun _ _=>none,meth:=fun t s=>match t,s with | 121,"Replace"=>some 126 | _,_=>none,tags:=fun _=>false,argTags:=fun _=>false,quiet:=fun g=>has g a6S,loose:=fun _=>false,ok:=fun g=>has g okL,cut:=fun f c=>Nat.beq f 126 && Nat.beq c 32,ice:=fun f l=>match f,l with | 126,100032=>some 12 | _,_=>none,intr:=a6u }
theorem codes:a6m env okL = true:=by kernel_rfl
theorem methOk:a2I env:=by
 intro t name g h
 simp only [env] at h
 split at h
 ·cases h; exact (by kernel_rfl:methB Tryz.prog 121 "Replace" 126 = true)
 ·cases h
theorem a7x:a2H env:=⟨methOk,a4Q tys,mixed,a4Z (fun _ h=>h) codes,(fun g h hg=>by simp only [env,a6u] at hg; split at hg <;> first | (cases hg; done) | (cases hg; exact b1B)),(fun g pre post hg=>by simp only [env,a6u] at hg; split at hg <;> first | (cases hg; done) | (cases hg; exact Sc.do_via))⟩
def pairs:List V:=[.str [10],.str [92,110],.str [9],.str [92,116],.str [92],.str [92,92],.str [34],.str [92,34]]
def cell (b:Nat):V:=match b with
 | 10=>.slice .sealed 2 [.int .u8 92,.int .u8 110]
 | 9=>.slice .sealed 2 [.int .u8 92,.int .u8 116]
 | 92=>.slice .sealed 2 [.int .u8 92,.int .u8 92]
 | 34=>.slice .sealed 2 [.int .u8 92,.int .u8 34]
 | _=>.slice .nil 0 []
def RR:List V:=(List.range 256).map cell ++ [.rslice 1 0 4 true]
def TR:List V:=[.str [34],.str [92],.str [9],.str [10]]
theorem nr_E:E env (.call 23 [.slice .sealed 8 pairs]) [] = some (.ret (.ptr 0 0) [(0,.row [.int .u32 0,.int .i32 0,.int .u32 0,.nilIface,.slice (.tag 1) 8 pairs]),(1,.tip 1 8)]):=(U1 env).le 9 _ _ _ (by kernel_rfl)
theorem bu_E:E env (.call 44 [.ptr 0 0]) [(0,.row [.int .u32 0,.int .i32 1,.int .u32 0,.nilIface,.slice (.tag 1) 8 pairs]),(1,.tip 1 8)] = some (.ret (.tuple []) [(0,.row [.int .u32 0,.int .i32 1,.int .u32 0,.iface 121 (.ptr 2 0),.slice .nil 0 []]),(1,.tip 1 8),(2,.row ((List.range 256).map cell ++ [.rslice 3 0 4 true])),(3,.grow 1 TR)]):=(U1 env).le 40 _ _ _ (by kernel_rfl)
end Go.Proofs.YtlhgheonlcjpaaaGreat.Rp
namespace Go.Proofs.YtlhgheonlcjpaaaGreat.Rp
open Go Go.Vm
def Y9 (b:UInt8):List UInt8:=if b = 10 then [92,110] else if b = 9 then [92,116] else if b = 92 then [92,92] else if b = 34 then [92,34] else [b]
def esc (s:List UInt8):List UInt8:=s.flatMap Y9
def cn (s:List UInt8):Nat -> Nat
 | 0=>0
 | 1=>s.count 34
 | 2=>s.count 34 + s.count 92
 | 3=>s.count 34 + s.count 92 + s.count 9
 | _=>s.count 34 + s.count 92 + s.count 9 + s.count 10
theorem X3 (b:UInt8) (s:List UInt8):esc (b :: s) = Y9 b ++ esc s:=by simp [esc]
theorem b05 (a b:List UInt8):esc (a ++ b) = esc a ++ esc b:=by simp [esc]
theorem a98 {b:UInt8} (h1:b ≠ 10) (h2:b ≠ 9) (h3:b ≠ 92) (h4:b ≠ 34):cell b.toNat = .slice .nil 0 []:=by
 have k1:b.toNat ≠ 10:=fun h=>h1 (UInt8.toNat_inj.1 h)
 have k2:b.toNat ≠ 9:=fun h=>h2 (UInt8.toNat_inj.1 h)
 have k3:b.toNat ≠ 92:=fun h=>h3 (UInt8.toNat_inj.1 h)
 have k4:b.toNat ≠ 34:=fun h=>h4 (UInt8.toNat_inj.1 h)
 unfold cell
 split <;> first | contradiction | rfl
theorem a1a (b:UInt8):(∃ c:UInt8,cell b.toNat = .slice .sealed 2 [.int .u8 92,.int .u8 ((c.toNat:Nat):Int)] /\ Y9 b = [92,c]) ∨ (cell b.toNat = .slice .nil 0 [] /\ Y9 b = [b]):=by
 by_cases h1:b = 10
 ·subst h1; exact .inl ⟨110,rfl,rfl⟩
 by_cases h2:b = 9
 ·subst h2; exact .inl ⟨116,rfl,rfl⟩
 by_cases h3:b = 92
 ·subst h3; exact .inl ⟨92,rfl,rfl⟩
 by_cases h4:b = 34
 ·subst h4; exact .inl ⟨34,rfl,rfl⟩
 exact .inr ⟨a98 h1 h2 h3 h4,by simp only [Y9,if_neg h1,if_neg h2,if_neg h3,if_neg h4]⟩
theorem a4m (b:UInt8):1 <= (Y9 b).length /\ (Y9 b).length <= 2:=by
 rcases a1a b with ⟨c,_,h⟩ | ⟨_,h⟩ <;> rw [h] <;> simp
theorem b0e:∀ s,s.length <= (esc s).length
 | []=>Nat.le_refl _
 | b :: s=>by have:=b0e s; have:=a4m b; rw [X3,List.length_append,List.length_cons]; omega
theorem a1L:∀ s,(esc s).length <= 2 * s.length
 | []=>Nat.le_refl _
 | b :: s=>by have:=a1L s; have:=a4m b; rw [X3,List.length_append,List.length_cons]; omega
theorem a8z:∀ s,(esc s).length = s.length + (s.count 34 + s.count 92 + s.count 9 + s.count 10)
 | []=>rfl
 | b :: s=>by
  have ih:=a8z s
  rw [X3,List.length_append,ih]
  simp only [List.count_cons,List.length_cons]
  by_cases h1:b = 10
  ·subst h1; simp [Y9]; omega
  by_cases h2:b = 9
  ·subst h2; simp [Y9]; omega
  by_cases h3:b = 92
  ·subst h3; simp [Y9]; omega
  by_cases h4:b = 34
  ·subst h4; simp [Y9]; omega
  simp [Y9,h1,h2,h3,h4]; omega
theorem a6n:∀ {s:List UInt8},¬ s.length < (esc s).length -> esc s = s
 | [],_=>rfl
 | b :: s,h=>by
  have h0:=b0e s
  have h1:=a4m b
  rw [X3,List.length_append,List.length_cons] at h
  rcases a1a b with ⟨c,_,he⟩ | ⟨_,he⟩
  ·rw [he] at h; simp at h; omega
  ·rw [X3,he,a6n (s:=s) (by rw [he] at h; simp at h; omega)]; rfl
theorem a2P {s:List UInt8} {i:Nat} (h:i < s.length):esc (s.take (i + 1)) = esc (s.take i) ++ Y9 (s.getD i 0):=by
 rw [List.take_succ_eq_append_getElem h,b05]
 congr 1
 simp [esc,h]
theorem a3m (s:List UInt8) (i:Nat):(esc (s.take i)).length <= (esc s).length:=by
 conv=>rhs; rw [<- List.take_append_drop i s,b05,List.length_append]
 omega
theorem cn_le (s:List UInt8):∀ k,cn s k <= 4 * s.length:=by
 have a:=List.count_le_length (a:=(34:UInt8)) (l:=s)
 have b:=List.count_le_length (a:=(92:UInt8)) (l:=s)
 have c:=List.count_le_length (a:=(9:UInt8)) (l:=s)
 have d:=List.count_le_length (a:=(10:UInt8)) (l:=s)
 intro k
 unfold cn
 split <;> omega
theorem RR_get (b:UInt8):RR[b.toNat]? = some (cell b.toNat):=by
 have:=UInt8.toNat_lt b
 unfold RR
 rw [List.getElem?_append_left (by simp; omega),List.getElem?_map,List.getElem?_range (by omega)]
 rfl
theorem RR_256:RR[256]? = some (.rslice 1 0 4 true):=by kernel_rfl
theorem a1Z (b:UInt8) {off:Nat} {H:Hp} (ho:off = b.toNat):R4 env.T 51 (.ptr 0 off) ((0,.row RR) :: H) = some (cell b.toNat):=by
 subst ho
 exact RR_get b
theorem ld_TL {H:Hp}:R4 env.T 40 (.ptr 0 (0 + 256)) ((0,.row RR) :: H) = some (.rslice 1 0 4 true):=RR_256
theorem ct_E (s:List UInt8) (c:UInt8):E env (.call 128 [.str s,.str [c]]) [] = some (.ret (.int .i64 ((s.count c:Nat):Int)) []):=a5R (h:=a8y) rfl rfl
theorem mul1 {a:Nat} (h:a < 9223372036854775808):R9 (some (.int .i64 (IntKind.wrap .i64 ((a:Int) * 1)))) = some (.int .i64 (a:Nat)):=by
 rw [Int.mul_one,wrap64 (by omega) (by omega)]; rfl
theorem addE {j k m:Nat} (h:m = j + k) (hb:j + k < 9223372036854775808):R9 (some (.int .i64 (IntKind.wrap .i64 ((j:Int) + (k:Int))))) = some (.int .i64 (m:Nat)):=by
 rw [h]; exact addN hb
theorem b0s (n:Nat) {m:Nat} {x:Option V} (h:x = match gd (ltB 0 ((m + 1:Nat):Int)) (some false) with | some b=>some (.bool (!b)) | none=>none):R9 x = some (.bool true):=by
 rw [h]
 have:ltB 0 ((m + 1:Nat):Int) = true:=by simp only [ltB,decide_eq_true_eq]; omega
 rw [this]; rfl
theorem a7T {env:Env} {orc:Orc} {ops:Array Oper} {o:Oper} {rest:List Oper} {fr:Fr} {H H1:Hp} {K:Res -> Prop} {t:Nat} {a b:Operand} {x v:V} (hw:p8 ops o fr = some true) (ho:o.op = .store t a b) (ha:ev fr a = some x) (hb:ev fr b = some v) (hs:Y0 env.T t x v H = some H1) (h:Go.Vm.Os env orc ops rest (I8 o.dst .undef fr) H1 K):Go.Vm.Os env orc ops (o :: rest) fr H K:=by
 refine R5 hw (by rw [ho]; rfl) (v:=.undef) (H1:=H1) ?_ h
 unfold E8
 rw [ho]
 simp only [ha,hb,hs]
def BUF (s:List UInt8) (i:Nat):List V:=I5 (esc (s.take i)) ++ List.replicate ((esc s).length - (esc (s.take i)).length) (.int .u8 0)
theorem b0S (s:List UInt8) (i:Nat):(BUF s i).length = (esc s).length:=by
 have:=a3m s i
 simp only [BUF,List.length_append,I5,List.length_map,List.length_replicate]; omega
theorem set_mid {α:Type} (a new:List α) (z:α) {n:Nat} (h:new.length <= n):(a ++ List.replicate n z).take a.length ++ new ++ (a ++ List.replicate n z).drop (a.length + new.length) = a ++ new ++ List.replicate (n - new.length) z:=by
 rw [List.take_left,List.drop_append,List.drop_eq_nil_of_le (by omega),List.nil_append,List.drop_replicate]
 congr 2; omega
theorem b0U {s:List UInt8} {i:Nat} (h:i < s.length) {b:UInt8} (hb:s.getD i 0 = b) {news:List V} (hn:news = I5 (Y9 b)) {off:Nat} (ho:off = (esc (s.take i)).length):y7 (BUF s i) off news = BUF s (i + 1):=by
 have h1:=a2P h
 rw [hb] at h1
 have h2:=a3m s (i + 1)
 rw [h1,List.length_append] at h2
 have h3:(esc (s.take i)).length = (I5 (esc (s.take i))).length:=by simp [I5]
 have h4:news.length = (Y9 b).length:=by rw [hn]; simp [I5]
 subst ho
 unfold y7 BUF
 rw [h3,set_mid _ _ _ (by omega),hn,h1]
 simp only [I5,List.map_append,List.length_append,List.length_map]
 congr 2
 omega
theorem b0V {s:List UInt8} {i:Nat} (h:i < s.length) {b c:UInt8} (hb:s.getD i 0 = b) (he:Y9 b = [92,c]):y7 (BUF s i) (0 + (esc (s.take i)).length * 1) [.int .u8 92,.int .u8 ((c.toNat:Nat):Int)] = BUF s (i + 1):=b0U h hb (by rw [he]; rfl) (by omega)
theorem b0T {s:List UInt8} {i:Nat} (h:i < s.length) {b:UInt8} (hb:s.getD i 0 = b) (he:Y9 b = [b]):y7 (BUF s i) (0 + (esc (s.take i)).length * 1) [.int .u8 ((b.toNat:Nat):Int)] = BUF s (i + 1):=b0U h hb (by rw [he]; rfl) (by omega)
theorem cp_ok {j n:Nat} {cs B:List V} {a b:V} {G:Hp} (hG:G = [(0,.row RR),(1,.grow 1 TR),(2,.grow 1 cs)]) (h1:2 <= n) (h2:j + 2 <= cs.length) (hB:y7 cs (0 + j * 1) [a,b] = B) :
    a8i env.T 51 (.rslice 2 (0 + j * 1) n false) (.slice .sealed 2 [a,b]) G = some (.val (.int .i64 ((2:Nat):Int)) [(0,.row RR),(1,.grow 1 TR),(2,.grow 1 B)]):=by
  subst hG
  have e:a8i env.T 51 (.rslice 2 (0 + j * 1) n false) (.slice .sealed 2 [a,b]) [(0,.row RR),(1,.grow 1 TR),(2,.grow 1 cs)] = (match gd (eqN (2 * 1) [a,b].length) (some (2,[a,b])) with
    | some (m,news)=>(match Nat.beq m 0 with
        | true=>some (OpR.val (.int .i64 0) [(0,.row RR),(1,.grow 1 TR),(2,.grow 1 cs)])
        | false=>gd (leN m n && leN (0 + j * 1 + m * 1) cs.length) (some (.val (.int .i64 (m:Int)) [(0,.row RR),(1,.grow 1 TR),(2,.grow 1 (y7 cs (0 + j * 1) news))])))
    | none=>none):=by kernel_rfl
  rw [e,J7 (show 2 * 1 = [a,b].length from rfl)]
  simp only [gd]
  rw [a1g h1,a1g (show 0 + j * 1 + 2 * 1 <= cs.length by omega),hB]
  rfl
theorem st_ok {j:Nat} {cs B:List V} {b:Nat} {G:Hp} (hG:G = [(0,.row RR),(1,.grow 1 TR),(2,.grow 1 cs)]) (h2:j + 1 <= cs.length) (hB:y7 cs (0 + j * 1) [.int .u8 (b:Int)] = B) :
  Y0 env.T 5 (.ptr 2 (0 + j * 1)) (.int .u8 (b:Int)) G = some [(0,.row RR),(1,.grow 1 TR),(2,.grow 1 B)]:=by
 subst hG
 have e:Y0 env.T 5 (.ptr 2 (0 + j * 1)) (.int .u8 (b:Int)) [(0,.row RR),(1,.grow 1 TR),(2,.grow 1 cs)] = gd (leN (0 + j * 1 + 1) cs.length) (some [(0,.row RR),(1,.grow 1 TR),(2,.grow 1 (y7 cs (0 + j * 1) [.int .u8 (b:Int)]))]):=by kernel_rfl
 rw [e,a1g (by omega),hB]
 rfl
theorem mk_ok (n:Nat) (hn:n <= 4000000) {G:Hp} (hG:G = [(0,.row RR),(1,.grow 1 TR)]):a8k env.T 51 (.int .i64 (n:Int)) (.int .i64 (n:Int)) G 5504 = some (.val (.rslice 5504 0 n true) [(0,.row RR),(1,.grow 1 TR),(5504,.grow 1 (List.replicate n (.int .u8 0)))]):=by
 subst hG
 have e:a8k env.T 51 (.int .i64 (n:Int)) (.int .i64 (n:Int)) [(0,.row RR),(1,.grow 1 TR)] 5504 = gd (leB 0 (n:Int) && leB (n:Int) (n:Int) && leB ((n:Int) * ((1:Nat) + 1:Nat)) 70368744177664) (some (.val (.rslice 5504 0 n true) [(0,.row RR),(1,.grow 1 TR),(5504,.grow 1 (List.replicate n [.int .u8 0]).flatten)])):=by kernel_rfl
 rw [e]
 have h1:(leB 0 (n:Int) && leB (n:Int) (n:Int) && leB ((n:Int) * ((1:Nat) + 1:Nat)) 70368744177664) = true:=by simp only [leB,Bool.and_eq_true,decide_eq_true_eq]; omega
 rw [h1]
 have h2:(List.replicate n [V.int .u8 0]).flatten = List.replicate n (.int .u8 0):=by
  induction n with
  | zero=>rfl
  | succ n ih=>rw [List.replicate_succ,List.flatten_cons,List.replicate_succ]; simp [List.flatten_replicate_singleton]
 rw [h2]
 rfl
theorem cv_ok (s:List UInt8):a5J env.T 51 9 (.slice .sealed (esc s).length ((BUF s s.length).take ((esc s).length * 1))) = some (.str (esc s)):=by
 have e:(BUF s s.length).take ((esc s).length * 1) = I5 (esc s):=by
  unfold BUF
  rw [List.take_length,Nat.sub_self,List.replicate_zero,List.append_nil,Nat.mul_one]
  exact List.take_of_length_le (by simp [I5])
 rw [e]
 have e2:a5J env.T 51 9 (.slice .sealed (esc s).length (I5 (esc s))) = (match Y8 (I5 (esc s)) with | some l=>gd (eqN (esc s).length l.length) (some (.str l)) | none=>none):=by kernel_rfl
 rw [e2,a4g]
 simp only [J7 rfl,gd]
theorem bs_E (s:List UInt8) (hs:s.length <= 1000000):E env (.call 126 [.ptr 0 0,.str s]) [(0,.row RR),(1,.grow 1 TR)] = some (.ret (.str (esc s)) [(0,.row RR),(1,.grow 1 TR)]):=by
 refine z8 (env:=env) rfl Tryz.func126 rfl rfl ?_
 refine j4 ?_
 refine j3 ?_
 refine d9 rfl rfl rfl ?_
 refine o6 ?_
 refine j4 ?_
 refine j3 ?_
 refine d9 rfl rfl rfl ?_
 refine d9 rfl rfl rfl ?_
 refine d9 rfl rfl rfl ?_
 refine o6 ?_
 refine j4 ?_
 refine j3 ?_
 refine d9 rfl rfl rfl ?_
 refine o6 ?_
 refine j4 ?_
 refine j4 ?_
 refine j3 ?_
 refine d9 rfl rfl rfl ?_
 refine d9 rfl rfl rfl ?_
 refine d9 rfl rfl rfl ?_
 refine G6 rfl rfl rfl (v:=.rslice 1 0 4 true) ld_TL ?_
 refine d9 rfl rfl rfl ?_
 refine d9 rfl rfl rfl ?_
 refine d9 rfl rfl rfl ?_
 refine d9 rfl rfl rfl ?_
 refine d9 rfl rfl rfl ?_
 refine o6 ?_
 refine u6 rfl (fun g26=>?_) (fun g26=>?_)
 ·refine j4 ?_
  refine j3 ?_
  refine d9 rfl rfl rfl ?_
  refine d9 rfl rfl rfl ?_
  refine d9 rfl rfl rfl ?_
  refine G6 rfl rfl rfl (v:=.rslice 1 0 4 true) ld_TL ?_
  refine d9 rfl rfl rfl ?_
  refine d9 rfl rfl rfl ?_
  refine o6 ?_
  refine o9 ?_
  refine J8 (fr1:=[(0,.ptr 0 0),(1,.str s),(5,.int .i64 ((s.length:Nat):Int)),(6,.bool false),(30,.rslice 1 0 4 true),(31,.int .i64 4),(32,.int .i64 ((0:Nat):Int))]) (H1:=[(0,.row RR),(1,.grow 1 TR)]) (by kernel_rfl) ?_
  refine U9 (fun x:Nat × Nat × Bool=>[(0,.ptr 0 0),(1,.str s),(5,.int .i64 ((x.2.1:Nat):Int)),(6,.bool x.2.2),(30,.rslice 1 0 4 true),(31,.int .i64 4),(32,.int .i64 ((x.1:Nat):Int))]) (fun _=>[(0,.row RR),(1,.grow 1 TR)]) (fun x=>x.1 <= 4 /\ x.2.1 = s.length + cn s x.1 /\ x.2.2 = decide (0 < cn s x.1)) (fun x=>4 - x.1) (0,s.length,false) ⟨by simp,rfl,rfl⟩ ?_
  rintro ⟨k,ns,any⟩ ⟨hk,hns,hany⟩ ih
  simp only at hk hns hany ih ⊢
  have hcn:=cn_le s k
  rcases (by omega:k = 0 ∨ k = 1 ∨ k = 2 ∨ k = 3 ∨ k = 4) with rfl | rfl | rfl | rfl | rfl
  ·have hc:=List.count_le_length (a:=(34:UInt8)) (l:=s)
   refine j4 ?_
   refine j3 ?_
   refine d9 rfl rfl rfl ?_
   refine o6 ?_
   refine j4 ?_
   refine D9 rfl (by simp [ltB]) ?_
   refine j6 ?_
   refine j4 ?_
   refine o9 ?_
   refine j4 ?_
   refine j3 ?_
   refine d9 rfl rfl (G5 (by simp [inR]) rfl) ?_
   refine G6 rfl rfl rfl (v:=.str [34]) rfl ?_
   refine d9 rfl rfl rfl ?_
   refine o6 ?_
   refine j4 ?_
   refine j3 ?_
   refine d9 rfl rfl rfl ?_
   refine d9 rfl rfl rfl ?_
   refine o5 rfl rfl rfl rfl rfl (ct_E s 34) rfl ?_
   refine d9 rfl rfl rfl ?_
   refine o6 ?_
   refine j4 ?_
   refine j3 ?_
   refine d9 rfl rfl rfl ?_
   refine d9 rfl rfl rfl ?_
   refine o6 ?_
   refine u6 rfl (fun g40=>?_) (fun g40=>?_)
   ·replace g40:s.count 34 ≠ 0:=by intro h; rw [h] at g40; simp [eqB] at g40
    refine j4 ?_
    refine j3 ?_
    refine d9 rfl rfl rfl ?_
    refine d9 rfl rfl rfl ?_
    refine d9 rfl rfl rfl ?_
    refine d9 rfl rfl rfl ?_
    refine d9 rfl rfl (G5 (by simp [inR]) (show _ = some (.int .u8 (((34:UInt8).toNat:Nat):Int)) from rfl)) ?_
    refine d9 rfl rfl rfl ?_
    refine d9 rfl rfl rfl ?_
    refine d9 rfl rfl (G5 (by simp [inR]) rfl) ?_
    refine G6 rfl rfl rfl (a1Z 34 rfl) ?_
    refine d9 rfl rfl rfl ?_
    refine d9 rfl rfl rfl ?_
    refine d9 rfl rfl (mul1 (by omega)) ?_
    refine d9 rfl rfl (addN (by omega)) ?_
    refine d9 rfl rfl rfl ?_
    refine o6 ?_
    refine j3 ?_
    refine d9 rfl rfl rfl ?_
    refine o6 ?_
    refine j3 ?_
    refine d9 rfl rfl rfl ?_
    refine d9 rfl rfl rfl ?_
    refine o6 ?_
    exact ⟨[(0,.ptr 0 0),(1,.str s),(5,.int .i64 ((ns + s.count 34:Nat):Int)),(6,.bool true),(30,.rslice 1 0 4 true),(31,.int .i64 4),(32,.int .i64 ((1:Nat):Int))],[(0,.row RR),(1,.grow 1 TR)],by kernel_rfl,ih (1,ns + s.count 34,true) (by simp) ⟨by simp,by rw [hns]; simp only [cn]; omega,by simp only [cn]; symm; simp only [decide_eq_true_eq]; omega⟩⟩
   ·replace g40:s.count 34 = 0:=by simp only [eqB,Bool.not_eq_false',beq_iff_eq] at g40; omega
    refine j6 ?_
    refine j3 ?_
    refine d9 rfl rfl rfl ?_
    refine d9 rfl rfl rfl ?_
    refine o6 ?_
    exact ⟨[(0,.ptr 0 0),(1,.str s),(5,.int .i64 ((ns:Nat):Int)),(6,.bool any),(30,.rslice 1 0 4 true),(31,.int .i64 4),(32,.int .i64 ((1:Nat):Int))],[(0,.row RR),(1,.grow 1 TR)],by kernel_rfl,ih (1,ns,any) (by simp) ⟨by simp,by rw [hns]; simp only [cn]; omega,by rw [hany]; simp only [cn]; congr 1; simp only [eq_iff_iff]; omega⟩⟩
  ·have hc:=List.count_le_length (a:=(92:UInt8)) (l:=s)
   refine j4 ?_
   refine j3 ?_
   refine d9 rfl rfl rfl ?_
   refine o6 ?_
   refine j4 ?_
   refine D9 rfl (by simp [ltB]) ?_
   refine j6 ?_
   refine j4 ?_
   refine o9 ?_
   refine j4 ?_
   refine j3 ?_
   refine d9 rfl rfl (G5 (by simp [inR]) rfl) ?_
   refine G6 rfl rfl rfl (v:=.str [92]) rfl ?_
   refine d9 rfl rfl rfl ?_
   refine o6 ?_
   refine j4 ?_
   refine j3 ?_
   refine d9 rfl rfl rfl ?_
   refine d9 rfl rfl rfl ?_
   refine o5 rfl rfl rfl rfl rfl (ct_E s 92) rfl ?_
   refine d9 rfl rfl rfl ?_
   refine o6 ?_
   refine j4 ?_
   refine j3 ?_
   refine d9 rfl rfl rfl ?_
   refine d9 rfl rfl rfl ?_
   refine o6 ?_
   refine u6 rfl (fun g40=>?_) (fun g40=>?_)
   ·replace g40:s.count 92 ≠ 0:=by intro h; rw [h] at g40; simp [eqB] at g40
    refine j4 ?_
    refine j3 ?_
    refine d9 rfl rfl rfl ?_
    refine d9 rfl rfl rfl ?_
    refine d9 rfl rfl rfl ?_
    refine d9 rfl rfl rfl ?_
    refine d9 rfl rfl (G5 (by simp [inR]) (show _ = some (.int .u8 (((92:UInt8).toNat:Nat):Int)) from rfl)) ?_
    refine d9 rfl rfl rfl ?_
    refine d9 rfl rfl rfl ?_
    refine d9 rfl rfl (G5 (by simp [inR]) rfl) ?_
    refine G6 rfl rfl rfl (a1Z 92 rfl) ?_
    refine d9 rfl rfl rfl ?_
    refine d9 rfl rfl rfl ?_
    refine d9 rfl rfl (mul1 (by omega)) ?_
    refine d9 rfl rfl (addN (by omega)) ?_
    refine d9 rfl rfl rfl ?_
    refine o6 ?_
    refine j3 ?_
    refine d9 rfl rfl rfl ?_
    refine o6 ?_
    refine j3 ?_
    refine d9 rfl rfl rfl ?_
    refine d9 rfl rfl rfl ?_
    refine o6 ?_
    exact ⟨[(0,.ptr 0 0),(1,.str s),(5,.int .i64 ((ns + s.count 92:Nat):Int)),(6,.bool true),(30,.rslice 1 0 4 true),(31,.int .i64 4),(32,.int .i64 ((2:Nat):Int))],[(0,.row RR),(1,.grow 1 TR)],by kernel_rfl,ih (2,ns + s.count 92,true) (by simp) ⟨by simp,by rw [hns]; simp only [cn]; omega,by simp only [cn]; symm; simp only [decide_eq_true_eq]; omega⟩⟩
   ·replace g40:s.count 92 = 0:=by simp only [eqB,Bool.not_eq_false',beq_iff_eq] at g40; omega
    refine j6 ?_
    refine j3 ?_
    refine d9 rfl rfl rfl ?_
    refine d9 rfl rfl rfl ?_
    refine o6 ?_
    exact ⟨[(0,.ptr 0 0),(1,.str s),(5,.int .i64 ((ns:Nat):Int)),(6,.bool any),(30,.rslice 1 0 4 true),(31,.int .i64 4),(32,.int .i64 ((2:Nat):Int))],[(0,.row RR),(1,.grow 1 TR)],by kernel_rfl,ih (2,ns,any) (by simp) ⟨by simp,by rw [hns]; simp only [cn]; omega,by rw [hany]; simp only [cn]; congr 1; simp only [eq_iff_iff]; omega⟩⟩
  ·have hc:=List.count_le_length (a:=(9:UInt8)) (l:=s)
   refine j4 ?_
   refine j3 ?_
   refine d9 rfl rfl rfl ?_
   refine o6 ?_
   refine j4 ?_
   refine D9 rfl (by simp [ltB]) ?_
   refine j6 ?_
   refine j4 ?_
   refine o9 ?_
   refine j4 ?_
   refine j3 ?_
   refine d9 rfl rfl (G5 (by simp [inR]) rfl) ?_
   refine G6 rfl rfl rfl (v:=.str [9]) rfl ?_
   refine d9 rfl rfl rfl ?_
   refine o6 ?_
   refine j4 ?_
   refine j3 ?_
   refine d9 rfl rfl rfl ?_
   refine d9 rfl rfl rfl ?_
   refine o5 rfl rfl rfl rfl rfl (ct_E s 9) rfl ?_
   refine d9 rfl rfl rfl ?_
   refine o6 ?_
   refine j4 ?_
   refine j3 ?_
   refine d9 rfl rfl rfl ?_
   refine d9 rfl rfl rfl ?_
   refine o6 ?_
   refine u6 rfl (fun g40=>?_) (fun g40=>?_)
   ·replace g40:s.count 9 ≠ 0:=by intro h; rw [h] at g40; simp [eqB] at g40
    refine j4 ?_
    refine j3 ?_
    refine d9 rfl rfl rfl ?_
    refine d9 rfl rfl rfl ?_
    refine d9 rfl rfl rfl ?_
    refine d9 rfl rfl rfl ?_
    refine d9 rfl rfl (G5 (by simp [inR]) (show _ = some (.int .u8 (((9:UInt8).toNat:Nat):Int)) from rfl)) ?_
    refine d9 rfl rfl rfl ?_
    refine d9 rfl rfl rfl ?_
    refine d9 rfl rfl (G5 (by simp [inR]) rfl) ?_
    refine G6 rfl rfl rfl (a1Z 9 rfl) ?_
    refine d9 rfl rfl rfl ?_
    refine d9 rfl rfl rfl ?_
    refine d9 rfl rfl (mul1 (by omega)) ?_
    refine d9 rfl rfl (addN (by omega)) ?_
    refine d9 rfl rfl rfl ?_
    refine o6 ?_
    refine j3 ?_
    refine d9 rfl rfl rfl ?_
    refine o6 ?_
    refine j3 ?_
    refine d9 rfl rfl rfl ?_
    refine d9 rfl rfl rfl ?_
    refine o6 ?_
    exact ⟨[(0,.ptr 0 0),(1,.str s),(5,.int .i64 ((ns + s.count 9:Nat):Int)),(6,.bool true),(30,.rslice 1 0 4 true),(31,.int .i64 4),(32,.int .i64 ((3:Nat):Int))],[(0,.row RR),(1,.grow 1 TR)],by kernel_rfl,ih (3,ns + s.count 9,true) (by simp) ⟨by simp,by rw [hns]; simp only [cn]; omega,by simp only [cn]; symm; simp only [decide_eq_true_eq]; omega⟩⟩
   ·replace g40:s.count 9 = 0:=by simp only [eqB,Bool.not_eq_false',beq_iff_eq] at g40; omega
    refine j6 ?_
    refine j3 ?_
    refine d9 rfl rfl rfl ?_
    refine d9 rfl rfl rfl ?_
    refine o6 ?_
    exact ⟨[(0,.ptr 0 0),(1,.str s),(5,.int .i64 ((ns:Nat):Int)),(6,.bool any),(30,.rslice 1 0 4 true),(31,.int .i64 4),(32,.int .i64 ((3:Nat):Int))],[(0,.row RR),(1,.grow 1 TR)],by kernel_rfl,ih (3,ns,any) (by simp) ⟨by simp,by rw [hns]; simp only [cn]; omega,by rw [hany]; simp only [cn]; congr 1; simp only [eq_iff_iff]; omega⟩⟩
  ·have hc:=List.count_le_length (a:=(10:UInt8)) (l:=s)
   refine j4 ?_
   refine j3 ?_
   refine d9 rfl rfl rfl ?_
   refine o6 ?_
   refine j4 ?_
   refine D9 rfl (by simp [ltB]) ?_
   refine j6 ?_
   refine j4 ?_
   refine o9 ?_
   refine j4 ?_
   refine j3 ?_
   refine d9 rfl rfl (G5 (by simp [inR]) rfl) ?_
   refine G6 rfl rfl rfl (v:=.str [10]) rfl ?_
   refine d9 rfl rfl rfl ?_
   refine o6 ?_
   refine j4 ?_
   refine j3 ?_
   refine d9 rfl rfl rfl ?_
   refine d9 rfl rfl rfl ?_
   refine o5 rfl rfl rfl rfl rfl (ct_E s 10) rfl ?_
   refine d9 rfl rfl rfl ?_
   refine o6 ?_
   refine j4 ?_
   refine j3 ?_
   refine d9 rfl rfl rfl ?_
   refine d9 rfl rfl rfl ?_
   refine o6 ?_
   refine u6 rfl (fun g40=>?_) (fun g40=>?_)
   ·replace g40:s.count 10 ≠ 0:=by intro h; rw [h] at g40; simp [eqB] at g40
    refine j4 ?_
    refine j3 ?_
    refine d9 rfl rfl rfl ?_
    refine d9 rfl rfl rfl ?_
    refine d9 rfl rfl rfl ?_
    refine d9 rfl rfl rfl ?_
    refine d9 rfl rfl (G5 (by simp [inR]) (show _ = some (.int .u8 (((10:UInt8).toNat:Nat):Int)) from rfl)) ?_
    refine d9 rfl rfl rfl ?_
    refine d9 rfl rfl rfl ?_
    refine d9 rfl rfl (G5 (by simp [inR]) rfl) ?_
    refine G6 rfl rfl rfl (a1Z 10 rfl) ?_
    refine d9 rfl rfl rfl ?_
    refine d9 rfl rfl rfl ?_
    refine d9 rfl rfl (mul1 (by omega)) ?_
    refine d9 rfl rfl (addN (by omega)) ?_
    refine d9 rfl rfl rfl ?_
    refine o6 ?_
    refine j3 ?_
    refine d9 rfl rfl rfl ?_
    refine o6 ?_
    refine j3 ?_
    refine d9 rfl rfl rfl ?_
    refine d9 rfl rfl rfl ?_
    refine o6 ?_
    exact ⟨[(0,.ptr 0 0),(1,.str s),(5,.int .i64 ((ns + s.count 10:Nat):Int)),(6,.bool true),(30,.rslice 1 0 4 true),(31,.int .i64 4),(32,.int .i64 ((4:Nat):Int))],[(0,.row RR),(1,.grow 1 TR)],by kernel_rfl,ih (4,ns + s.count 10,true) (by simp) ⟨by simp,by rw [hns]; simp only [cn]; omega,by simp only [cn]; symm; simp only [decide_eq_true_eq]; omega⟩⟩
   ·replace g40:s.count 10 = 0:=by simp only [eqB,Bool.not_eq_false',beq_iff_eq] at g40; omega
    refine j6 ?_
    refine j3 ?_
    refine d9 rfl rfl rfl ?_
    refine d9 rfl rfl rfl ?_
    refine o6 ?_
    exact ⟨[(0,.ptr 0 0),(1,.str s),(5,.int .i64 ((ns:Nat):Int)),(6,.bool any),(30,.rslice 1 0 4 true),(31,.int .i64 4),(32,.int .i64 ((4:Nat):Int))],[(0,.row RR),(1,.grow 1 TR)],by kernel_rfl,ih (4,ns,any) (by simp) ⟨by simp,by rw [hns]; simp only [cn]; omega,by rw [hany]; simp only [cn]; congr 1; simp only [eq_iff_iff]; omega⟩⟩
  ·have hN:ns = (esc s).length:=by rw [hns,a8z]; rfl
   replace hany:any = decide (s.length < (esc s).length):=by rw [hany,a8z]; simp only [cn]; congr 1; simp only [eq_iff_iff]; omega
   subst hN
   refine j4 ?_
   refine j3 ?_
   refine d9 rfl rfl rfl ?_
   refine o6 ?_
   refine j4 ?_
   refine F9 rfl (by simp [ltB]) ?_
   refine G7 ?_
   refine j4 ?_
   refine j4 ?_
   refine j3 ?_
   refine d9 rfl rfl rfl ?_
   refine d9 rfl rfl rfl ?_
   refine o6 ?_
   refine u6 rfl (fun g82=>?_) (fun g82=>?_)
   ·have hs1:=a6n (s:=s) (by rw [hany] at g82; simpa using g82)
    rw [hs1]
    refine j4 ?_
    refine j3 ?_
    refine d9 rfl rfl rfl ?_
    refine d9 rfl rfl rfl ?_
    refine o6 ?_
    exact j5 ⟨_,rfl,by kernel_rfl⟩
   ·refine j6 ?_
    refine j4 ?_
    refine j3 ?_
    refine d9 rfl rfl rfl ?_
    refine R5 rfl rfl (mk_ok (esc s).length (by have:=a1L s; omega) rfl) ?_
    refine d9 rfl rfl rfl ?_
    refine o6 ?_
    refine j4 ?_
    refine j3 ?_
    refine d9 rfl rfl rfl ?_
    refine o6 ?_
    refine a8D rfl ?_
    refine j4 ?_
    refine j3 ?_
    refine d9 rfl rfl rfl ?_
    refine o6 ?_
    refine o9 ?_
    refine J8 (fr1:=[(0,.ptr 0 0),(1,.str s),(12,.rslice 2 0 (esc s).length true),(13,.int .i64 (((esc (s.take 0)).length:Nat):Int)),(14,.int .i64 ((0:Nat):Int))]) (H1:=[(0,.row RR),(1,.grow 1 TR),(2,.grow 1 (BUF s 0))]) (by kernel_rfl) ?_
    refine U9 (fun i:Nat=>[(0,.ptr 0 0),(1,.str s),(12,.rslice 2 0 (esc s).length true),(13,.int .i64 (((esc (s.take i)).length:Nat):Int)),(14,.int .i64 ((i:Nat):Int))]) (fun i=>[(0,.row RR),(1,.grow 1 TR),(2,.grow 1 (BUF s i))]) (fun i=>i <= s.length) (fun i=>s.length - i) 0 (Nat.zero_le _) ?_
    intro i hi ih
    have hles:=a1L s
    have hpre:=a3m s i
    have hbl:=b0S s i
    refine j4 ?_
    refine j4 ?_
    refine j3 ?_
    refine d9 rfl rfl rfl ?_
    refine d9 rfl rfl rfl ?_
    refine d9 rfl rfl rfl ?_
    refine d9 rfl rfl rfl ?_
    refine o6 ?_
    refine u6 rfl (fun g89=>?_) (fun g89=>?_)
    ·replace g89:i < s.length:=by simpa [ltN] using g89
     obtain ⟨b,hb⟩:∃ b,s.getD i 0 = b:=⟨_,rfl⟩
     have htk:=a2P g89
     rw [hb] at htk
     have hpre2:=a3m s (i + 1)
     refine j6 ?_
     refine j4 ?_
     refine o9 ?_
     refine j4 ?_
     refine j3 ?_
     refine d9 rfl rfl rfl ?_
     refine d9 rfl rfl rfl ?_
     refine d9 rfl rfl (G5 (C9 g89) (show _ = some (.int .u8 (((s.getD i 0).toNat:Nat):Int)) from rfl)) ?_
     rw [hb]
     refine d9 rfl rfl rfl ?_
     refine o6 ?_
     refine j4 ?_
     refine j3 ?_
     refine d9 rfl rfl rfl ?_
     refine d9 rfl rfl rfl ?_
     refine d9 rfl rfl rfl ?_
     refine d9 rfl rfl rfl ?_
     refine d9 rfl rfl (G5 (C9 (UInt8.toNat_lt b)) rfl) ?_
     rcases a1a b with ⟨c,hc,he⟩ | ⟨hc,he⟩
     ·refine G6 rfl rfl rfl ((a1Z b (by simp)).trans (congrArg some hc)) ?_
      refine d9 rfl rfl (b0s 2 rfl) ?_
      refine o6 ?_
      refine D9 rfl (rfl) ?_
      refine j3 ?_
      refine d9 rfl rfl rfl ?_
      refine d9 rfl rfl rfl ?_
      refine d9 rfl rfl rfl ?_
      have hL:(esc (s.take (i + 1))).length = (esc (s.take i)).length + 2:=by rw [htk,he,List.length_append]; rfl
      refine d9 rfl rfl (G5 (X5 (by omega) (Nat.le_refl _)) rfl) ?_
      refine d9 rfl rfl rfl ?_
      refine d9 rfl rfl rfl ?_
      refine d9 rfl rfl rfl ?_
      refine d9 rfl rfl rfl ?_
      refine d9 rfl rfl (G5 (C9 (UInt8.toNat_lt b)) rfl) ?_
      refine G6 rfl rfl rfl ((a1Z b (by simp)).trans (congrArg some hc)) ?_
      refine R5 rfl rfl (cp_ok (B:=BUF s (i + 1)) (n:=(esc s).length - (esc (s.take i)).length) rfl (by omega) (by omega) (b0V g89 hb he)) ?_
      refine d9 rfl rfl (addE (k:=2) hL (by omega)) ?_
      refine d9 rfl rfl rfl ?_
      refine o6 ?_
      refine j3 ?_
      refine d9 rfl rfl rfl ?_
      refine d9 rfl rfl (add1 (by omega)) ?_
      refine d9 rfl rfl rfl ?_
      refine o6 ?_
      exact ⟨[(0,.ptr 0 0),(1,.str s),(12,.rslice 2 0 (esc s).length true),(13,.int .i64 (((esc (s.take (i + 1))).length:Nat):Int)),(14,.int .i64 (((i + 1):Nat):Int))],[(0,.row RR),(1,.grow 1 TR),(2,.grow 1 (BUF s (i + 1)))],by kernel_rfl,ih (i + 1) (by omega) (by omega)⟩
     ·refine G6 rfl rfl rfl ((a1Z b (by simp)).trans (congrArg some hc)) ?_
      refine d9 rfl rfl rfl ?_
      refine o6 ?_
      refine F9 rfl (rfl) ?_
      refine j4 ?_
      refine j3 ?_
      refine d9 rfl rfl rfl ?_
      refine d9 rfl rfl rfl ?_
      refine d9 rfl rfl rfl ?_
      have hL:(esc (s.take (i + 1))).length = (esc (s.take i)).length + 1:=by rw [htk,he,List.length_append]; rfl
      refine d9 rfl rfl (G5 (C9 (by omega)) rfl) ?_
      refine a7T rfl rfl rfl rfl (st_ok (B:=BUF s (i + 1)) rfl (by omega) (b0T g89 hb he)) ?_
      refine o6 ?_
      refine j3 ?_
      refine d9 rfl rfl rfl ?_
      refine d9 rfl rfl (addE (k:=1) hL (by omega)) ?_
      refine d9 rfl rfl rfl ?_
      refine o6 ?_
      refine j3 ?_
      refine d9 rfl rfl rfl ?_
      refine d9 rfl rfl (add1 (by omega)) ?_
      refine d9 rfl rfl rfl ?_
      refine o6 ?_
      exact ⟨[(0,.ptr 0 0),(1,.str s),(12,.rslice 2 0 (esc s).length true),(13,.int .i64 (((esc (s.take (i + 1))).length:Nat):Int)),(14,.int .i64 (((i + 1):Nat):Int))],[(0,.row RR),(1,.grow 1 TR),(2,.grow 1 (BUF s (i + 1)))],by kernel_rfl,ih (i + 1) (by omega) (by omega)⟩
    ·replace g89:¬ i < s.length:=by simpa [ltN] using g89
     obtain rfl:i = s.length:=by omega
     refine G7 ?_
     refine ⟨[(12,.slice .sealed (esc s).length ((BUF s s.length).take ((esc s).length * 1)))],[(0,.row RR),(1,.grow 1 TR)],by kernel_rfl,?_⟩
     refine j4 ?_
     refine j3 ?_
     refine d9 rfl rfl rfl ?_
     refine a1F rfl rfl rfl (cv_ok s) ?_
     refine d9 rfl rfl rfl ?_
     refine o6 ?_
     exact j5 ⟨_,rfl,by kernel_rfl⟩
 ·refine j4 ?_
  refine j3 ?_
  refine d9 rfl rfl rfl ?_
  refine o6 ?_
  refine o9 ?_
  refine J8 (fr1:=[(0,.ptr 0 0),(1,.str s),(5,.int .i64 ((s.length:Nat):Int)),(6,.bool false),(10,.int .i64 ((0:Nat):Int))]) (H1:=[(0,.row RR),(1,.grow 1 TR)]) (by kernel_rfl) ?_
  refine U9 (fun x:Nat × Nat × Bool=>[(0,.ptr 0 0),(1,.str s),(5,.int .i64 ((x.2.1:Nat):Int)),(6,.bool x.2.2),(10,.int .i64 ((x.1:Nat):Int))]) (fun _=>[(0,.row RR),(1,.grow 1 TR)]) (fun x=>x.1 <= s.length /\ x.2.1 + x.1 = s.length + (esc (s.take x.1)).length /\ x.2.2 = decide (x.1 < (esc (s.take x.1)).length)) (fun x=>s.length - x.1) (0,s.length,false) ⟨by simp,by simp [esc],by simp [esc]⟩ ?_
  rintro ⟨i,ns,any⟩ ⟨hi,hns,hany⟩ ih
  simp only at hi hns hany ih ⊢
  have hge:=b0e (s.take i)
  have hle:=a1L (s.take i)
  rw [List.length_take,Nat.min_eq_left hi] at hge hle
  refine j4 ?_
  refine j4 ?_
  refine j3 ?_
  refine d9 rfl rfl rfl ?_
  refine d9 rfl rfl rfl ?_
  refine d9 rfl rfl rfl ?_
  refine d9 rfl rfl rfl ?_
  refine o6 ?_
  refine u6 rfl (fun g58=>?_) (fun g58=>?_)
  ·replace g58:i < s.length:=by simpa [ltN] using g58
   obtain ⟨b,hb⟩:∃ b,s.getD i 0 = b:=⟨_,rfl⟩
   have htk:=a2P g58
   rw [hb] at htk
   refine j6 ?_
   refine j4 ?_
   refine o9 ?_
   refine j4 ?_
   refine j3 ?_
   refine d9 rfl rfl rfl ?_
   refine d9 rfl rfl rfl ?_
   refine d9 rfl rfl (G5 (C9 g58) (show _ = some (.int .u8 (((s.getD i 0).toNat:Nat):Int)) from rfl)) ?_
   rw [hb]
   refine d9 rfl rfl rfl ?_
   refine o6 ?_
   refine j4 ?_
   refine j3 ?_
   refine d9 rfl rfl rfl ?_
   refine d9 rfl rfl rfl ?_
   refine d9 rfl rfl rfl ?_
   refine d9 rfl rfl rfl ?_
   refine d9 rfl rfl (G5 (C9 (UInt8.toNat_lt b)) rfl) ?_
   rcases a1a b with ⟨c,hc,he⟩ | ⟨hc,he⟩
   ·refine G6 rfl rfl rfl ((a1Z b (by simp)).trans (congrArg some hc)) ?_
    refine d9 rfl rfl (b0s 2 rfl) ?_
    refine o6 ?_
    refine D9 rfl (rfl) ?_
    refine j4 ?_
    refine j3 ?_
    refine d9 rfl rfl rfl ?_
    refine d9 rfl rfl rfl ?_
    refine d9 rfl rfl rfl ?_
    refine d9 rfl rfl rfl ?_
    refine d9 rfl rfl rfl ?_
    refine d9 rfl rfl (G5 (C9 (UInt8.toNat_lt b)) rfl) ?_
    refine G6 rfl rfl rfl ((a1Z b (by simp)).trans (congrArg some hc)) ?_
    refine d9 rfl rfl rfl ?_
    refine d9 rfl rfl rfl ?_
    refine d9 rfl rfl (addN (k:=1) (by omega)) ?_
    refine d9 rfl rfl rfl ?_
    refine o6 ?_
    refine j3 ?_
    refine d9 rfl rfl rfl ?_
    refine o6 ?_
    refine j3 ?_
    refine d9 rfl rfl rfl ?_
    refine d9 rfl rfl (add1 (by omega)) ?_
    refine d9 rfl rfl rfl ?_
    refine o6 ?_
    exact ⟨[(0,.ptr 0 0),(1,.str s),(5,.int .i64 ((ns + 1:Nat):Int)),(6,.bool true),(10,.int .i64 ((i + 1:Nat):Int))],[(0,.row RR),(1,.grow 1 TR)],by kernel_rfl,ih (i + 1,ns + 1,true) (by simp only; omega) ⟨by simp only; omega,by rw [htk,he]; simp only [List.length_append,List.length_cons,List.length_nil]; omega,by rw [htk,he]; simp only [List.length_append,List.length_cons,List.length_nil]; symm; simp only [decide_eq_true_eq]; omega⟩⟩
   ·refine G6 rfl rfl rfl ((a1Z b (by simp)).trans (congrArg some hc)) ?_
    refine d9 rfl rfl rfl ?_
    refine o6 ?_
    refine F9 rfl (rfl) ?_
    refine j6 ?_
    refine j3 ?_
    refine d9 rfl rfl rfl ?_
    refine d9 rfl rfl (add1 (by omega)) ?_
    refine d9 rfl rfl rfl ?_
    refine o6 ?_
    exact ⟨[(0,.ptr 0 0),(1,.str s),(5,.int .i64 ((ns:Nat):Int)),(6,.bool any),(10,.int .i64 ((i + 1:Nat):Int))],[(0,.row RR),(1,.grow 1 TR)],by kernel_rfl,ih (i + 1,ns,any) (by simp only; omega) ⟨by simp only; omega,by rw [htk,he]; simp only [List.length_append,List.length_cons,List.length_nil]; omega,by rw [hany,htk,he]; simp only [List.length_append,List.length_cons,List.length_nil]; congr 1; simp only [eq_iff_iff]; omega⟩⟩
  ·replace g58:¬ i < s.length:=by simpa [ltN] using g58
   obtain rfl:i = s.length:=by omega
   rw [List.take_length] at hns hany
   obtain rfl:ns = (esc s).length:=by omega
   refine G7 ?_
   refine j4 ?_
   refine j4 ?_
   refine j3 ?_
   refine d9 rfl rfl rfl ?_
   refine d9 rfl rfl rfl ?_
   refine o6 ?_
   refine u6 rfl (fun g82=>?_) (fun g82=>?_)
   ·have hs1:=a6n (s:=s) (by rw [hany] at g82; simpa using g82)
    rw [hs1]
    refine j4 ?_
    refine j3 ?_
    refine d9 rfl rfl rfl ?_
    refine d9 rfl rfl rfl ?_
    refine o6 ?_
    exact j5 ⟨_,rfl,by kernel_rfl⟩
   ·refine j6 ?_
    refine j4 ?_
    refine j3 ?_
    refine d9 rfl rfl rfl ?_
    refine R5 rfl rfl (mk_ok (esc s).length (by have:=a1L s; omega) rfl) ?_
    refine d9 rfl rfl rfl ?_
    refine o6 ?_
    refine j4 ?_
    refine j3 ?_
    refine d9 rfl rfl rfl ?_
    refine o6 ?_
    refine a8D rfl ?_
    refine j4 ?_
    refine j3 ?_
    refine d9 rfl rfl rfl ?_
    refine o6 ?_
    refine o9 ?_
    refine J8 (fr1:=[(0,.ptr 0 0),(1,.str s),(12,.rslice 2 0 (esc s).length true),(13,.int .i64 (((esc (s.take 0)).length:Nat):Int)),(14,.int .i64 ((0:Nat):Int))]) (H1:=[(0,.row RR),(1,.grow 1 TR),(2,.grow 1 (BUF s 0))]) (by kernel_rfl) ?_
    refine U9 (fun i:Nat=>[(0,.ptr 0 0),(1,.str s),(12,.rslice 2 0 (esc s).length true),(13,.int .i64 (((esc (s.take i)).length:Nat):Int)),(14,.int .i64 ((i:Nat):Int))]) (fun i=>[(0,.row RR),(1,.grow 1 TR),(2,.grow 1 (BUF s i))]) (fun i=>i <= s.length) (fun i=>s.length - i) 0 (Nat.zero_le _) ?_
    intro i hi ih
    have hles:=a1L s
    have hpre:=a3m s i
    have hbl:=b0S s i
    refine j4 ?_
    refine j4 ?_
    refine j3 ?_
    refine d9 rfl rfl rfl ?_
    refine d9 rfl rfl rfl ?_
    refine d9 rfl rfl rfl ?_
    refine d9 rfl rfl rfl ?_
    refine o6 ?_
    refine u6 rfl (fun g89=>?_) (fun g89=>?_)
    ·replace g89:i < s.length:=by simpa [ltN] using g89
     obtain ⟨b,hb⟩:∃ b,s.getD i 0 = b:=⟨_,rfl⟩
     have htk:=a2P g89
     rw [hb] at htk
     have hpre2:=a3m s (i + 1)
     refine j6 ?_
     refine j4 ?_
     refine o9 ?_
     refine j4 ?_
     refine j3 ?_
     refine d9 rfl rfl rfl ?_
     refine d9 rfl rfl rfl ?_
     refine d9 rfl rfl (G5 (C9 g89) (show _ = some (.int .u8 (((s.getD i 0).toNat:Nat):Int)) from rfl)) ?_
     rw [hb]
     refine d9 rfl rfl rfl ?_
     refine o6 ?_
     refine j4 ?_
     refine j3 ?_
     refine d9 rfl rfl rfl ?_
     refine d9 rfl rfl rfl ?_
     refine d9 rfl rfl rfl ?_
     refine d9 rfl rfl rfl ?_
     refine d9 rfl rfl (G5 (C9 (UInt8.toNat_lt b)) rfl) ?_
     rcases a1a b with ⟨c,hc,he⟩ | ⟨hc,he⟩
     ·refine G6 rfl rfl rfl ((a1Z b (by simp)).trans (congrArg some hc)) ?_
      refine d9 rfl rfl (b0s 2 rfl) ?_
      refine o6 ?_
      refine D9 rfl (rfl) ?_
      refine j3 ?_
      refine d9 rfl rfl rfl ?_
      refine d9 rfl rfl rfl ?_
      refine d9 rfl rfl rfl ?_
      have hL:(esc (s.take (i + 1))).length = (esc (s.take i)).length + 2:=by rw [htk,he,List.length_append]; rfl
      refine d9 rfl rfl (G5 (X5 (by omega) (Nat.le_refl _)) rfl) ?_
      refine d9 rfl rfl rfl ?_
      refine d9 rfl rfl rfl ?_
      refine d9 rfl rfl rfl ?_
      refine d9 rfl rfl rfl ?_
      refine d9 rfl rfl (G5 (C9 (UInt8.toNat_lt b)) rfl) ?_
      refine G6 rfl rfl rfl ((a1Z b (by simp)).trans (congrArg some hc)) ?_
      refine R5 rfl rfl (cp_ok (B:=BUF s (i + 1)) (n:=(esc s).length - (esc (s.take i)).length) rfl (by omega) (by omega) (b0V g89 hb he)) ?_
      refine d9 rfl rfl (addE (k:=2) hL (by omega)) ?_
      refine d9 rfl rfl rfl ?_
      refine o6 ?_
      refine j3 ?_
      refine d9 rfl rfl rfl ?_
      refine d9 rfl rfl (add1 (by omega)) ?_
      refine d9 rfl rfl rfl ?_
      refine o6 ?_
      exact ⟨[(0,.ptr 0 0),(1,.str s),(12,.rslice 2 0 (esc s).length true),(13,.int .i64 (((esc (s.take (i + 1))).length:Nat):Int)),(14,.int .i64 (((i + 1):Nat):Int))],[(0,.row RR),(1,.grow 1 TR),(2,.grow 1 (BUF s (i + 1)))],by kernel_rfl,ih (i + 1) (by omega) (by omega)⟩
     ·refine G6 rfl rfl rfl ((a1Z b (by simp)).trans (congrArg some hc)) ?_
      refine d9 rfl rfl rfl ?_
      refine o6 ?_
      refine F9 rfl (rfl) ?_
      refine j4 ?_
      refine j3 ?_
      refine d9 rfl rfl rfl ?_
      refine d9 rfl rfl rfl ?_
      refine d9 rfl rfl rfl ?_
      have hL:(esc (s.take (i + 1))).length = (esc (s.take i)).length + 1:=by rw [htk,he,List.length_append]; rfl
      refine d9 rfl rfl (G5 (C9 (by omega)) rfl) ?_
      refine a7T rfl rfl rfl rfl (st_ok (B:=BUF s (i + 1)) rfl (by omega) (b0T g89 hb he)) ?_
      refine o6 ?_
      refine j3 ?_
      refine d9 rfl rfl rfl ?_
      refine d9 rfl rfl (addE (k:=1) hL (by omega)) ?_
      refine d9 rfl rfl rfl ?_
      refine o6 ?_
      refine j3 ?_
      refine d9 rfl rfl rfl ?_
      refine d9 rfl rfl (add1 (by omega)) ?_
      refine d9 rfl rfl rfl ?_
      refine o6 ?_
      exact ⟨[(0,.ptr 0 0),(1,.str s),(12,.rslice 2 0 (esc s).length true),(13,.int .i64 (((esc (s.take (i + 1))).length:Nat):Int)),(14,.int .i64 (((i + 1):Nat):Int))],[(0,.row RR),(1,.grow 1 TR),(2,.grow 1 (BUF s (i + 1)))],by kernel_rfl,ih (i + 1) (by omega) (by omega)⟩
    ·replace g89:¬ i < s.length:=by simpa [ltN] using g89
     obtain rfl:i = s.length:=by omega
     refine G7 ?_
     refine ⟨[(12,.slice .sealed (esc s).length ((BUF s s.length).take ((esc s).length * 1)))],[(0,.row RR),(1,.grow 1 TR)],by kernel_rfl,?_⟩
     refine j4 ?_
     refine j3 ?_
     refine d9 rfl rfl rfl ?_
     refine a1F rfl rfl rfl (cv_ok s) ?_
     refine d9 rfl rfl rfl ?_
     refine o6 ?_
     exact j5 ⟨_,rfl,by kernel_rfl⟩
end Go.Proofs.YtlhgheonlcjpaaaGreat.Rp
namespace Go.Vm
open Go
variable {ρ ρ':Rho} {lab lab':Lab} {w w':World} {H:Hp}
theorem Rel.carry (hF:∀ b o x,Z6 lab w b o x -> Z6 lab' w' b o x) {v:V} {x:Value} (h:Rel ρ lab w v x):Rel ρ lab' w' v x:=by
 induction h with
 | undef x=>exact .undef x
 | bool b=>exact .bool b
 | int k n=>exact .int k n
 | str s=>exact .str s
 | nilptr=>exact .nilptr
 | ptr r off b o c h=>exact .ptr r off b o c h
 | cptr cells xs b o hl hc _ hnf ih=>exact .cptr cells xs b o hl (fun i x hx=>hF _ _ _ (hc i x hx)) ih hnf
 | slice ow n cells xs b o ao cap hl hn hb hz hc _ how h1 hnf ih=>exact .slice ow n cells xs b o ao cap hl hn hb hz (fun i x hx=>hF _ _ _ (hc i x hx)) ih how h1 hnf
 | rslice r off n wh base g ao cap h1 h2 h3 h4 h5=>exact .rslice r off n wh base g ao cap h1 h2 h3 h4 h5
 | func fn a c xs ys h1 h2 _ _ ih1 ih2=>exact .func fn a c xs ys h1 h2 ih1 ih2
 | nilFunc=>exact .nilFunc
 | iface t v x _ ih=>exact .iface t v x ih
 | nilIface=>exact .nilIface
 | opq m=>exact .opq m
 | agg cells xs h1 _ ih=>exact .agg cells xs h1 ih
 | tuple cells xs h1 _ ih=>exact .tuple cells xs h1 ih
theorem p9.carry (hF:∀ b o x,Z6 lab w b o x -> Z6 lab' w' b o x) {v:List V} {x:List Value} (h:p9 ρ lab w v x):p9 ρ lab' w' v x :=
 ⟨h.1,fun i v x hv hx=>(h.2 i v x hv hx).carry hF⟩
theorem Sim.relab (hS:Sim ρ lab H w) (hF:∀ b o x,Z6 lab w b o x -> Z6 lab' w' b o x) (hO:∀ b o k,N7 lab w k b o -> N7 lab' w' k b o /\ cellAt w' b o = cellAt w b o)
  (hl:∀ b o k,lab' b o = some k -> b < w'.heap.size):Sim ρ lab' H w' where
 row:=fun k cs hk=>by
  obtain ⟨b,o,xs,h1,h2,h3⟩:=hS.row k cs hk
  exact ⟨b,o,xs,h1,h2.carry hF,fun i x hx=>⟨(hO _ _ _ (h3 i x hx).1).1,(hO _ _ _ (h3 i x hx).1).2.trans (h3 i x hx).2⟩⟩
 grow:=fun k e cs hk=>by
  obtain ⟨base,c,xs,h1,h2,h3,h4,h8,h9,h5⟩:=hS.grow k e cs hk
  refine ⟨base,c,xs,h1,h2.carry hF,h3,h4,h8,h9,fun b o hb=>?_⟩
  obtain ⟨h6,h7⟩:=h5 b o hb
  refine ⟨fun i hi=>(hO _ _ _ (h6 i hi)).1,fun i x hx=>?_⟩
  have hi:i < c * e:=by
   have:i < xs.length:=by
    rcases Nat.lt_or_ge i xs.length with h | h
    ·exact h
    ·rw [List.getElem?_eq_none h] at hx; cases hx
   rw [h2.1] at this; omega
  exact (hO _ _ _ (h6 i hi)).2.trans (h7 i x hx)
 tip:=fun k e n hk=>by
  obtain ⟨ao,cap,h1,h2,h3,h4,h5⟩:=hS.tip k e n hk
  exact ⟨ao,cap,h1,h2,h3,h4,fun a ha=>⟨(h5 a ha).1,fun i hi hj=>(hO _ _ _ ((h5 a ha).2 i hi hj)).1⟩⟩
 hdom:=hS.hdom
 adom:=hS.adom
 ldom:=hl
def Lab.mine (lab:Lab) (B:Nat):Lab:=fun b o=>if b = B then some none else lab b o
def Lab.left (lab:Lab) (B:Nat):Lab:=fun b o=>if b = B then none else lab b o
theorem mineF (hg:K8 w w'):∀ b o x,Z6 lab w b o x -> Z6 (lab.mine w.heap.size) w' b o x:=fun b o x h=>by
 have hb:=N9 h.cell
 refine ⟨?_,(hg.cell hb o).trans h.cell⟩
 simp only [Lab.mine]
 rw [if_neg (by omega)]
 exact h.lab
theorem Sim.mine (hS:Sim ρ lab H w) (hg:K8 w w') (hB:w.heap.size < w'.heap.size):Sim ρ (lab.mine w.heap.size) H w':=by
 refine hS.relab (mineF hg) (fun b o k h=>?_) (fun b o k h=>?_)
 ·obtain ⟨x,hx⟩:=h.cell
  have hb:=N9 hx
  refine ⟨⟨?_,(hg.frozen hb o).trans h.free,x,(hg.cell hb o).trans hx⟩,hg.cell hb o⟩
  simp only [Lab.mine]
  rw [if_neg (by omega)]
  exact h.lab
 ·simp only [Lab.mine] at h
  split at h
  ·rename_i hb; subst hb; exact hB
  ·exact Nat.lt_of_lt_of_le (hS.ldom b o k h) hg.size
section
variable {w1 w2 w3:World} {B:Nat}
structure Wrote (B:Nat) (w w':World):Prop where
 size:w.heap.size <= w'.heap.size
 os:w'.os = w.os
 tape:w'.tape = w.tape
 output:w'.output = w.output
 blk:∀ b,b < w.heap.size -> b ≠ B -> w'.heap[b]? = w.heap[b]?
theorem Wrote.cell (h:Wrote B w w') {b:Nat} (hb:b < w.heap.size) (hn:b ≠ B) (o:Nat):cellAt w' b o = cellAt w b o:=by simp only [cellAt,World.cell?,h.blk b hb hn]
theorem Wrote.frozen (h:Wrote B w w') {b:Nat} (hb:b < w.heap.size) (hn:b ≠ B) (o:Nat):w'.frozen? ⟨b,o,none⟩ = w.frozen? ⟨b,o,none⟩:=by simp only [World.frozen?,h.blk b hb hn]
theorem Wrote.refl (B:Nat) (w:World):Wrote B w w:=⟨Nat.le_refl _,rfl,rfl,rfl,fun _ _ _=>rfl⟩
theorem leftF (E:Ext (lab.mine B) w1 lab' w2) (hw:Wrote B w2 w3):∀ b o x,Z6 lab' w2 b o x -> Z6 (lab'.left B) w3 b o x:=fun b o x h=>by
 have hb:=N9 h.cell
 have hn:b ≠ B:=by
  rintro rfl
  have:=(E.ctx b o).2 (by simp [Lab.mine])
  rw [h.lab] at this; cases this
 refine ⟨?_,(hw.cell hb hn o).trans h.cell⟩
 simp only [Lab.left]
 rw [if_neg hn]
 exact h.lab
theorem Sim.left (hS:Sim ρ' lab' H w2) (E:Ext (lab.mine B) w1 lab' w2) (hw:Wrote B w2 w3):Sim ρ' (lab'.left B) H w3:=by
 refine hS.relab (leftF E hw) (fun b o k h=>?_) (fun b o k h=>?_)
 ·obtain ⟨x,hx⟩:=h.cell
  have hb:=N9 hx
  have hn:b ≠ B:=by
   rintro rfl
   have:=(E.ctx b o).2 (by simp [Lab.mine])
   rw [h.lab] at this; cases this
  refine ⟨⟨?_,(hw.frozen hb hn o).trans h.free,x,(hw.cell hb hn o).trans hx⟩,hw.cell hb hn o⟩
  simp only [Lab.left]
  rw [if_neg hn]
  exact h.lab
 ·simp only [Lab.left] at h
  split at h
  ·cases h
  ·exact Nat.lt_of_lt_of_le (hS.ldom b o k h) hw.size
theorem Ext.left (hS:Sim ρ lab H w) (hg:K8 w w1) (hB:w.heap.size < w1.heap.size) (E:Ext (lab.mine w.heap.size) w1 lab' w2) (hw:Wrote w.heap.size w2 w3):Ext lab w (lab'.left w.heap.size) w3 where
 size:=Nat.le_trans hg.size (Nat.le_trans E.size hw.size)
 os:=hw.os.trans (E.os.trans hg.os)
 tape:=hw.tape.trans (E.tape.trans hg.tape)
 output:=hw.output.trans (E.output.trans hg.output)
 lb:=fun b o hb hl=>by
  simp only [Lab.left]
  rw [if_neg (by omega)]
  exact E.lb b o (Nat.lt_of_lt_of_le hb hg.size) (by simp only [Lab.mine]; rw [if_neg (by omega)]; exact hl)
 ctx:=fun b o=>by
  by_cases hb:b = w.heap.size
  ·subst hb
   have h1:(lab'.left w.heap.size) w.heap.size o = none:=by simp [Lab.left]
   rw [h1]
   constructor
   ·intro h; cases h
   ·intro h
    have:=hS.ldom _ _ _ h
    omega
  ·have:=E.ctx b o
   simp only [Lab.left,Lab.mine,if_neg hb] at this ⊢
   exact this
 cl:=fun b o hb hl=>by
  have hb1:=Nat.lt_of_lt_of_le hb hg.size
  have h1:=E.cl b o hb1 (fun k=>by simp only [Lab.mine]; rw [if_neg (by omega)]; exact hl k)
  have hb2:=Nat.lt_of_lt_of_le hb1 E.size
  exact ⟨(hw.cell hb2 (by omega) o).trans (h1.1.trans (hg.cell hb o)),(hw.frozen hb2 (by omega) o).trans (h1.2.trans (hg.frozen hb o))⟩
 blk:=fun b hb hl=>by
  have hb1:=Nat.lt_of_lt_of_le hb hg.size
  have h1:=E.blk b hb1 (fun o k=>by simp only [Lab.mine]; rw [if_neg (by omega)]; exact hl o k)
  have hb2:=Nat.lt_of_lt_of_le hb1 E.size
  exact (hw.blk b hb2 (by omega)).trans (h1.trans (hg.blk b hb))
end
theorem E_via {env:Env} {g g':Nat} {args l:List V} {H H':Hp} {o out:Out} {pre:List V -> Hp -> Option (Nat × List V × Hp)} {post:List V -> Hp -> Out -> Option Out} (hi:env.intr g = some (.via pre post)) (hp:pre args H = some (g',l,H'))
  (hc:E env (.call g' l) H' = some o) (ho:post args H o = some out):E env (.call g args) H = some out :=
 a9S (by simp only [step,hi,hp,hc,ho])
end Go.Vm
namespace Go.Proofs.YtlhgheonlcjpaaaGreat.Rp
open Go Go.Vm
theorem a9c {env:Env} {orc:Orc} {H:Hp} {k g:Nat} {args ac:List V} {ns:List Nat} {H3 H4 Hc:Hp} {v v4:V} (hq:env.quiet g = false) (hp:a4k env g args H = some (ns,ac,Hc)) (hc:orc (.call g ac) Hc = some (.ret v H3)) (h7:a3T (M8 (A9 ns k) dep v) = some v4)
  (h8:Y4 (Q6 (A9 ns k) H3 H) = some H4) (h9:a1b H H3 k ns.length = true):F3 env orc k g args H = some (.val v4 H4):=by
 rw [X4] at h8
 rw [a5c] at h7
 obtain ⟨J6,H2,h1,h2,h3,h4⟩:=a4l hp
 simp only [F3,hq,h1,h2,h3,h4,hc,h7,h8,h9]
theorem b1L {env:Env} {orc:Orc} {ops:Array Oper} {o:Oper} {rest:List Oper} {fr:Fr} {H H1:Hp} {K:Res -> Prop} {rc:Operand} {m:String} {args:Array Operand} {at_:Array TypeId} {t g:Nat} {v0 v:V} {l:List V}
  (hw:p8 ops o fr = some true) (ho:o.op = .call ⟨.invoke rc m,args,at_⟩) (hr:ev fr rc = some (.iface t v0)) (hl:evL fr args.toList = some l) (hm:env.meth t m = some g) (hc:F3 env orc (newName o) g (v0 :: l) H = some (.val v H1))
  (h:Go.Vm.Os env orc ops rest (I8 o.dst v fr) H1 K):Go.Vm.Os env orc ops (o :: rest) fr H K:=by
 have hp:D7 o.op = false:=by rw [ho]; rfl
 refine R5 hw hp (v:=v) (H1:=H1) ?_ h
 unfold E8
 rw [ho]
 simp only [hr,hl,hm,hc]
theorem do_E:E env (.call 43 [.ptr 0 0,.func (.func 44) [.ptr 0 0] []]) [(0,.row [.int .u32 0,.int .i32 0,.int .u32 0,.nilIface,.slice (.tag 1) 8 pairs]),(1,.tip 1 8)] = some (.ret (.tuple []) [(0,.row [.int .u32 1,.int .i32 0,.int .u32 0,.iface 121 (.ptr 2 0),.slice .nil 0 []]),(1,.tip 1 8),(2,.row ((List.range 256).map cell ++ [.rslice 3 0 4 true])),(3,.grow 1 TR)]) :=
 E_via (g':=44) (l:=[.ptr 0 0]) (H':=[(0,.row [.int .u32 0,.int .i32 1,.int .u32 0,.nilIface,.slice (.tag 1) 8 pairs]),(1,.tip 1 8)]) rfl (by kernel_rfl) bu_E (by kernel_rfl)
theorem rp_E (s:List UInt8) (hs:s.length <= 1000000):E env (.call 24 [.ptr 0 0,.str s]) [(0,.row [.int .u32 0,.int .i32 0,.int .u32 0,.nilIface,.slice (.tag 1) 8 pairs]),(1,.tip 1 8)] = some (.ret (.str (esc s)) [(0,.row [.int .u32 1,.int .i32 0,.int .u32 0,.iface 121 (.ptr 2 0),.slice .nil 0 []]),(1,.tip 1 8),(2,.row ((List.range 256).map cell ++ [.rslice 3 0 4 true])),(3,.grow 1 TR)]):=by
 refine z8 (env:=env) rfl Tryz.func24 rfl rfl ?_
 refine j4 ?_
 refine j3 ?_
 refine d9 rfl rfl rfl ?_
 refine o6 ?_
 refine j4 ?_
 refine j3 ?_
 refine d9 rfl rfl rfl ?_
 refine d9 rfl rfl rfl ?_
 refine d9 rfl rfl rfl ?_
 refine d9 rfl rfl rfl ?_
 refine d9 rfl rfl rfl ?_
 refine a3t (v:=.tuple []) (H1:=[(0,.row [.int .u32 1,.int .i32 0,.int .u32 0,.iface 121 (.ptr 704 0),.slice .nil 0 []]),(1,.tip 1 8),(704,.row ((List.range 256).map cell ++ [.rslice 705 0 4 true])),(705,.grow 1 TR)]) rfl rfl rfl (a0A (ns:=[0,1]) (ac:=[.ptr 0 0,.func (.func 44) [.ptr 0 0] []]) (Hc:=[(0,.row [.int .u32 0,.int .i32 0,.int .u32 0,.nilIface,.slice (.tag 1) 8 pairs]),(1,.tip 1 8)]) rfl (by kernel_rfl) do_E (by kernel_rfl) (by kernel_rfl) (by kernel_rfl)) ?_
 refine o6 ?_
 refine j4 ?_
 refine j3 ?_
 refine d9 rfl rfl rfl ?_
 refine d9 rfl rfl rfl ?_
 refine d9 rfl rfl rfl ?_
 refine G6 rfl rfl rfl (v:=.iface 121 (.ptr 704 0)) (by kernel_rfl) ?_
 refine d9 rfl rfl rfl ?_
 refine b1L (g:=126) (v:=.str (esc s)) (H1:=[(0,.row [.int .u32 1,.int .i32 0,.int .u32 0,.iface 121 (.ptr 704 0),.slice .nil 0 []]),(1,.tip 1 8),(704,.row ((List.range 256).map cell ++ [.rslice 705 0 4 true])),(705,.grow 1 TR)]) rfl rfl rfl rfl rfl (a9c (ns:=[704,705]) (ac:=[.ptr 0 0,.str s]) (Hc:=[(0,.row RR),(1,.grow 1 TR)]) rfl (by kernel_rfl) (bs_E s hs) (by kernel_rfl) (by kernel_rfl) (by kernel_rfl)) ?_
 refine d9 rfl rfl rfl ?_
 refine o6 ?_
 exact j5 ⟨.str (esc s),by kernel_rfl,by kernel_rfl⟩
theorem esc_E (s:List UInt8) (hs:s.length <= 1000000):E env (.call 16 [.str s]) [] = some (.ret (.str (esc s)) []):=by
 refine z8 (env:=env) rfl Tryz.func16 rfl rfl ?_
 refine j4 ?_
 refine j3 ?_
 refine d9 rfl rfl rfl ?_
 refine o6 ?_
 refine j4 ?_
 refine j3 ?_
 refine d9 rfl rfl rfl ?_
 refine a3t (v:=.ptr 320 0) (H1:=[(320,.row [.int .u32 0,.int .i32 0,.int .u32 0,.nilIface,.slice (.tag 321) 8 pairs]),(321,.tip 1 8)]) rfl rfl rfl (a0A (ns:=[]) (ac:=[.slice .sealed 8 pairs]) (Hc:=[]) rfl (by kernel_rfl) nr_E (by kernel_rfl) (by kernel_rfl) (by kernel_rfl)) ?_
 refine d9 rfl rfl rfl ?_
 refine a3t (v:=.str (esc s)) (H1:=[(320,.row [.int .u32 1,.int .i32 0,.int .u32 0,.iface 121 (.ptr 448 0),.slice .nil 0 []]),(321,.tip 1 8),(448,.row ((List.range 256).map cell ++ [.rslice 449 0 4 true])),(449,.grow 1 TR)]) rfl rfl rfl (a0A (ns:=[320,321]) (ac:=[.ptr 0 0,.str s]) (Hc:=[(0,.row [.int .u32 0,.int .i32 0,.int .u32 0,.nilIface,.slice (.tag 1) 8 pairs]),(1,.tip 1 8)]) rfl (by kernel_rfl) (rp_E s hs) (by kernel_rfl) (by kernel_rfl) (by kernel_rfl)) ?_
 refine d9 rfl rfl rfl ?_
 refine o6 ?_
 exact j5 ⟨.str (esc s),by kernel_rfl,by kernel_rfl⟩
def escF:List V -> Option V:=fun args=>match args with
 | [.str s]=>match leN s.length 1000000 with
  | true=>some (.str (esc s))
  | false=>none
 | _=>none
theorem esc_intr:a3P Tryz.prog 16 (valI escF):=by
 refine a9a a7x (fun args v h=>?_) ⟨_,_,Tryz.func16,by kernel_rfl,rfl⟩
 unfold escF at h
 split at h
 ·rename_i s
  split at h
  ·rename_i hs
   cases h
   exact ⟨rfl,rfl,esc_E s (a0s hs)⟩
  ·cases h
 ·cases h
end Go.Proofs.YtlhgheonlcjpaaaGreat.Rp
namespace Go.Vm
open Go
section
variable {env:Env} {orc:Orc} {ops:Array Oper} {o:Oper} {rest:List Oper} {fr:Fr} {H H1:Hp} {K:Res -> Prop}
def mkOk (bytes:Nat) (c:Int):Bool:=leB 0 c && leB (c * ((bytes:Int) + 1)) 70368744177664
theorem os_mk0 {sz bytes:Nat} {t e:Nat} {l c:Operand} {kl kc:IntKind} {n:Int} {y ye:Ty} (hx:mkOk bytes n = true)
  (hw:p8 ops o fr = some true) (ho:o.op = .makeSlice t l c) (hm:env.mk0 = true) (hl:ev fr l = some (.int kl 0)) (hc:ev fr c = some (.int kc n))
  (h1:D8 t env.T = some y) (h3:y.sh = .slice e) (h5:D8 e env.T = some ye) (h6:ye.size = sz) (h7:ye.bytes = bytes) (h8:Nat.beq sz 0 = false)
  (h10:hget (newName o) H = none) (hH:Y4 (some (hset (newName o) (.tip sz 0) H)) = some H1)
  (h:Os env orc ops rest (I8 o.dst (.slice (.tag (newName o)) 0 []) fr) H1 K):Os env orc ops (o :: rest) fr H K:=by
 have hp:D7 o.op = false:=by rw [ho]; rfl
 rw [X4,Option.some.injEq] at hH
 subst hH h6 h7
 refine R5 hw hp ?_ h
 unfold E8
 rw [ho]
 have hz:(env.mk0 && isZero (.int kl 0)) = true:=by rw [hm]; rfl
 simp only [hl,hc,hz,a7i,h1,h3,h5,h10,h8]
 exact a02 hx rfl
theorem os_appK {α:Type} {sz:Nat} {c1:α -> List V} {cl:List α -> List V} (he:a0U sz c1 cl) {l m x:List α} {bytes:Nat} {args:Array Operand} {at_:Array TypeId} {a b:Operand} {t xt e g:Nat} {y yx ye:Ty} {v:V} (hx:app bytes l m = some x)
  (hw:p8 ops o fr = some true) (ho:o.op = .call ⟨.builtin .append,args,at_⟩)
  (ha:args.toList = [a,b]) (ht:at_.toList = [t,xt]) (hs:ev fr a = some (.slice (.tag g) l.length (cl l))) (hv:ev fr b = some v)
  (h1:D8 t env.T = some y) (h2:D8 xt env.T = some yx) (h3:y.sh = .slice e) (h4:a6x yx.sh = true) (h5:D8 e env.T = some ye) (h6:ye.size = sz) (h7:ye.bytes = bytes) (h8:Nat.beq sz 0 = false)
  (h9:a4S env.T e v H = some (m.length,cl m)) (hm:Nat.beq m.length 0 = false) (h10:hget g H = some (.tip sz l.length)) (hH:Y4 (some (hset g (.tip sz x.length) H)) = some H1)
  (h:Os env orc ops rest (I8 o.dst (.slice (.tag g) x.length (cl x)) fr) H1 K):Os env orc ops (o :: rest) fr H K:=by
 have hp:D7 o.op = false:=by rw [ho]; rfl
 obtain ⟨g1,rfl⟩:=b0X hx
 rw [X4,Option.some.injEq] at hH
 subst hH h6 h7
 refine R5 hw hp ?_ h
 unfold E8
 rw [ho]
 simp only [ha,ht,hs,hv]
 rw [a8s h1 h2 h3 h4 h5 h9 hm h10 (.inr rfl) h8 (he.length l).symm g1,he.append,List.length_append]
end
end Go.Vm
namespace Go.Proofs.YtlhgheonlcjpaaaGreat
open Go Go.Vm
def a0V (t:Sc.Tok):Tok:=⟨t.k,t.t,(t.a:Nat),(t.l:Nat)⟩
def a3f:Sc.MR -> List Tok
 | .done l=>l.map a0V
 | _=>[]
def a2h:Sc.MR -> Int
 | .err c _=>c
 | _=>0
def tokA:Sc.MR -> Int
 | .err _ a=>(a:Nat)
 | _=>0
theorem a9e:∀ l:List Sc.Tok,U2 (l.map a0V) = Sc.M4 l
 | []=>rfl
 | t :: r=>by
  rw [List.map_cons,W9.cons,a9e r]
  rfl
theorem tokV_cv {r:Sc.MR} (h:Sc.RBd r):Sc.a3g r = .tuple [.slice .sealed (List.length (a3f r)) (U2 (a3f r)),.agg [.int .i64 (a2h r),.int .i64 (tokA r)]]:=by
 cases r with
 | go x=>exact h.elim
 | done l =>
  simp only [a3f,Sc.a3g,a9e,List.length_map,a2h,tokA]
 | err c a=>rfl
theorem tok_call {env:Env} {g:Nat} {s:Str} (hi:env.intr g = some (.plain (valI Sc.tokF))) (h:Sc.RBd (Sc.a0e s)) :
  E env (.call g [.str s]) [] = some (.ret (.tuple [.slice .sealed (List.length (a3f (Sc.a0e s))) (U2 (a3f (Sc.a0e s))),.agg [.int .i64 (a2h (Sc.a0e s)),.int .i64 (tokA (Sc.a0e s))]]) []):=by
 refine a5R hi ?_
 rw [<- tokV_cv h]
 rfl
theorem a9O (s:Str):(a2h (Sc.a0e s) = 0 /\ tokA (Sc.a0e s) = 0) ∨ (a2h (Sc.a0e s) ≠ 0 /\ a3f (Sc.a0e s) = []):=by
 have h:=(Sc.a0R s).1
 generalize Sc.a0e s = r at h
 cases r with
 | go x=>exact h.bd.elim
 | done l=>exact .inl ⟨rfl,rfl⟩
 | err c a=>exact .inr ⟨h.nz c a rfl,rfl⟩
theorem a7h (s:Str):(a3f (Sc.a0e s)).length <= 3000:=by
 have h:=(Sc.a2A s).1
 generalize Sc.a0e s = r at h
 cases r with
 | go x=>exact h.elim
 | done l=>simpa [a3f,Sc.RBd] using h
 | err c a=>simp [a3f]
end Go.Proofs.YtlhgheonlcjpaaaGreat
namespace Go.Proofs.YtlhgheonlcjpaaaGreat
open Go Go.Vm
noncomputable def a04 (a4L:Str):Option (List Tok × Int × Int):=some (a3f (Sc.a0e a4L),a2h (Sc.a0e a4L),tokA (Sc.a0e a4L))
def a9p (elems1:List Str) (sep2:Str):Option Str:=match leN elems1.length 140737488355328 && leN (Lib.join elems1 sep2).length 140737488355328 with
 | true=>some (Lib.join elems1 sep2)
 | false=>none
def escG (s1:Str):Option Str:=match leN s1.length 1000000 with
 | true=>some (Rp.esc s1)
 | false=>none
end Go.Proofs.YtlhgheonlcjpaaaGreat
namespace Go.Proofs.YtlhgheonlcjpaaaGreat
open Go Go.Vm
noncomputable def X6:Option (Bool) :=
 (a04 [108,101,116,32,120]).bind fun (l1,c2,a3) =>
 cond ((eqB c2 0) && ((eqB a3 0) && true)) (
 cond (eqB (List.length l1:Int) 2) (
 (idx' l1 0).bind fun x4 =>
 cond ((eqB x4.kind 9) && ((eqS x4.text [108,101,116]) && ((eqB x4.at_ 0) && ((eqB x4.len 3) && true)))) (
 (idx' l1 1).bind fun x5 =>
 some (((eqB x5.kind 1) && ((eqS x5.text [120]) && ((eqB x5.at_ 4) && ((eqB x5.len 1) && true)))))) (
 some (false))) (
 some (false))) (
 some (false))
def a5M:Bool -> Out
 | r501=>.ret (.bool r501) []
def a0v (t1:Tok):Option (Str) :=
 cond (eqB t1.kind 4) (
 (escG t1.text).bind fun rr2 =>
 (cat [34] rr2).bind fun s3 =>
 (cat s3 [34]).bind fun s4 =>
 some (s4)) (
 cond (eqB t1.kind 5) (
 (escG t1.text).bind fun rr5 =>
 (cat [34] rr5).bind fun s6 =>
 (cat s6 [92,40]).bind fun s7 =>
 some (s7)) (
 cond (eqB t1.kind 6) (
 (escG t1.text).bind fun rr8 =>
 (cat [41] rr8).bind fun s9 =>
 (cat s9 [92,40]).bind fun s10 =>
 some (s10)) (
 cond (eqB t1.kind 7) (
 (escG t1.text).bind fun rr11 =>
 (cat [41] rr11).bind fun s12 =>
 (cat s12 [34]).bind fun s13 =>
 some (s13)) (
 some (t1.text)))))
def a5q (t1:Tok):Str -> Out
 | r501=>.ret (.str r501) []
noncomputable def N8 (n:Nat) (l1:List Tok):Nat -> (List Str) -> Int -> Int -> Option (Lr (List Str) (Str × Int))
  | 0,_,_,_=>none
  | m6 + 1,a6Q,a8U,x503 =>
      cond (ltB x503 (List.length l1:Int)) (
      (idx' l1 x503).bind fun x2 =>
      cond (ltB 8000 (List.length x2.text:Int)) (
      some (.out (([],4)))) (
      (a0v x2).bind fun r3 =>
      cond (ltB 8001 (w64 (a8U + (w64 ((List.length r3:Int) + 1))))) (
      some (.out (([],4)))) (
      (app 16 a6Q ([r3]:List Str)).bind fun l4 =>
      N8 n l1 m6 l4 (w64 (a8U + (w64 ((List.length r3:Int) + 1)))) (w64 (x503 + 1))))) (
      some (.brk a6Q))
noncomputable def L9 (n:Nat) (l1:List Tok) (l6:List Tok):Nat -> Int -> Option (Lr (Unit) (Str × Int))
  | 0,_=>none
  | m21 + 1,x514 =>
      cond (ltB x514 (List.length l6:Int)) (
      (idx' l6 x514).bind fun x9 =>
      Option.bind (α:=Bool) (
      (idx' l1 x514).bind fun x10 =>
      cond (!eqB x9.kind x10.kind) (
      some true) (
      (idx' l1 x514).bind fun x11 =>
      some (!eqS x9.text x11.text))) fun x523 =>
      cond x523 (
      some (.out (([],4)))) (
      L9 n l1 l6 m21 (w64 (x514 + 1)))) (
      some (.brk ()))
noncomputable def a0D (n:Nat) (l1:List Tok):Option (Str × Int) :=
 cond (ltB 3000 (List.length l1:Int)) (
 some (([],4))) (
 gdO (mkOk 16 (List.length l1:Int)) <|
 a7p (α:=List Str) (
 N8 n l1 n ([]:List Str) 0 0) fun a9E =>
 (a9p a9E [32]).bind fun rr5 =>
 (a04 rr5).bind fun (l6,c7,a8) =>
 Option.bind (α:=Bool) (
 cond (!((eqB c7 0) && ((eqB a8 0) && true))) (
 some true) (
 some (!eqB (List.length l6:Int) (List.length l1:Int)))) fun x504 =>
 cond x504 (
 some (([],4))) (
 a7p (α:=Unit) (
 L9 n l1 l6 n 0) fun _ =>
 some ((rr5,0))))
def a1q (l1:List Tok):Str × Int -> Out
 | (r515,r516)=>.ret (.tuple [.str r515,.i r516]) []
def O0 (n:Nat) (s1:Str):Nat -> (List Int) -> Int -> Option (List Int)
  | 0,_,_=>none
  | m3 + 1,b503,i504 =>
      cond (ltB i504 (List.length s1:Int)) (
      Option.bind (α:=List Int) (
      (idxS s1 i504).bind fun b2 =>
      cond (eqB b2 10) (
      (app 1 b503 ([92,110]:List Int)).bind fun l3 =>
      some l3) (
      cond (eqB b2 9) (
      (app 1 b503 ([92,116]:List Int)).bind fun l4 =>
      some l4) (
      Option.bind (α:=Bool) (
      cond (eqB b2 92) (
      some (eqB b2 92)) (
      some (eqB b2 34))) fun x507 =>
      cond x507 (
      (idxS s1 i504).bind fun b5 =>
      (app 1 b503 ([92,b5]:List Int)).bind fun l6 =>
      some l6) (
      (idxS s1 i504).bind fun b7 =>
      (app 1 b503 ([b7]:List Int)).bind fun l8 =>
      some l8)))) fun b508 =>
      O0 n s1 m3 b508 (w64 (i504 + 1))) (
      some b503)
def K9 (n:Nat) (s1:Str):Option (Str) :=
 Option.bind (α:=List Int) (
 O0 n s1 n ([]:List Int) 0) fun b511 =>
 some ((bytesOf b511))
def a4D (s1:Str):Str -> Out
 | r512=>.ret (.str r512) []
def a0b (n:Nat) (t1:Tok):Option (Str) :=
 cond (eqB t1.kind 4) (
 (K9 n t1.text).bind fun r2 =>
 (cat [34] r2).bind fun s3 =>
 (cat s3 [34]).bind fun s4 =>
 some (s4)) (
 cond (eqB t1.kind 5) (
 (K9 n t1.text).bind fun r5 =>
 (cat [34] r5).bind fun s6 =>
 (cat s6 [92,40]).bind fun s7 =>
 some (s7)) (
 cond (eqB t1.kind 6) (
 (K9 n t1.text).bind fun r8 =>
 (cat [41] r8).bind fun s9 =>
 (cat s9 [92,40]).bind fun s10 =>
 some (s10)) (
 cond (eqB t1.kind 7) (
 (K9 n t1.text).bind fun r11 =>
 (cat [41] r11).bind fun s12 =>
 (cat s12 [34]).bind fun s13 =>
 some (s13)) (
 some (t1.text)))))
def a4E (t1:Tok):Str -> Out
 | r501=>.ret (.str r501) []
def C8 (n:Nat) (l1:List Tok):Nat -> Str -> Int -> Option (Lr (Str) (Str × Bool))
  | 0,_,_=>none
  | m3 + 1,s504,i505 =>
      cond (ltB i505 (List.length l1:Int)) (
      Option.bind (α:=Str) (
      cond (ltB 0 i505) (
      (cat s504 [32]).bind fun s2 =>
      some s2) (
      some s504)) fun s509 =>
      Option.bind (α:=Bool) (
      (idx' l1 i505).bind fun x3 =>
      cond (ltB 8000 (List.length x3.text:Int)) (
      some true) (
      some (ltB 8000 (List.length s509:Int)))) fun x510 =>
      cond x510 (
      some (.out (([],false)))) (
      (idx' l1 i505).bind fun x4 =>
      (a0b n x4).bind fun r5 =>
      (cat s509 r5).bind fun s6 =>
      C8 n l1 m3 s6 (w64 (i505 + 1)))) (
      some (.brk s504))
def Q7 (n:Nat) (l1:List Tok):Option (Str × Bool) :=
 a7p (α:=Str) (
 C8 n l1 n [] 0) fun s513 =>
 some ((s513,(leB (List.length s513:Int) 8000)))
def a1I (l1:List Tok):Str × Bool -> Out
 | (r514,r515)=>.ret (.tuple [.str r514,.bool r515]) []
def I7 (n:Nat) (a1:List Tok) (b2:List Tok) (places3:Bool):Nat -> Int -> Option (Lr (Unit) (Bool))
  | 0,_=>none
  | m4 + 1,a5L =>
      cond (ltB a5L (List.length a1:Int)) (
      Option.bind (α:=Bool) (
      (idx' a1 a5L).bind fun x4 =>
      (idx' b2 a5L).bind fun x5 =>
      cond (!eqB x4.kind x5.kind) (
      some true) (
      (idx' a1 a5L).bind fun x6 =>
      (idx' b2 a5L).bind fun x7 =>
      cond (!eqS x6.text x7.text) (
      some true) (
      cond places3 (
      (idx' a1 a5L).bind fun x8 =>
      (idx' b2 a5L).bind fun x9 =>
      cond (!eqB x8.at_ x9.at_) (
      some true) (
      (idx' a1 a5L).bind fun x10 =>
      (idx' b2 a5L).bind fun x11 =>
      some (!eqB x10.len x11.len))) (
      some false)))) fun x505 =>
      cond x505 (
      some (.out (false))) (
      I7 n a1 b2 places3 m4 (w64 (a5L + 1)))) (
      some (.brk ()))
def X9 (n:Nat) (a1:List Tok) (b2:List Tok) (places3:Bool):Option (Bool) :=
 cond (!eqB (List.length a1:Int) (List.length b2:Int)) (
 some (false)) (
 a7p (α:=Unit) (
 I7 n a1 b2 places3 n 0) fun _ =>
 some (true))
def a1m (a1:List Tok) (b2:List Tok) (places3:Bool):Bool -> Out
 | r503=>.ret (.bool r503) []
noncomputable def a0f (n:Nat) (a4L:Str):Option (Bool) :=
 cond (ltB 12000 (List.length a4L:Int)) (
 some (true)) (
 (a04 a4L).bind fun (l2,c3,a4) =>
 cond (!eqB c3 0) (
 (X6).bind fun r5 =>
 some (r5)) (
 (a0D n l2).bind fun (r6,r7) =>
 (Q7 n l2).bind fun (r8,r9) =>
 cond (!r9) (
 cond (eqB r7 4) (
 cond (eqS r6 []) (
 (X6).bind fun r10 =>
 some (r10)) (
 some (false))) (
 some (false))) (
 (a04 r6).bind fun (l11,c12,a13) =>
 (a0D n l11).bind fun (r14,r15) =>
 cond (eqB r7 0) (
 cond (eqB c12 0) (
 cond (eqB r15 0) (
 cond (eqS r14 r6) (
 (X9 n l2 l11 false).bind fun r16 =>
 cond r16 (
 (X6).bind fun r17 =>
 some (r17)) (
 some (false))) (
 some (false))) (
 some (false))) (
 some (false))) (
 some (false)))))
def a3A (a4L:Str):Bool -> Out
 | r501=>.ret (.bool r501) []
end Go.Proofs.YtlhgheonlcjpaaaGreat
namespace Go.Proofs.YtlhgheonlcjpaaaGreat.Sc
open Go Go.Vm
def okB (b:UInt8):Bool:=decide (32 <= b.toNat) || decide (b.toNat = 10) || decide (b.toNat = 9)
theorem getD_drop (q:List UInt8) (i k:Nat):q.getD (i + k) 0 = (q.drop i).getD k 0:=by
 rw [List.getD_eq_getElem?_getD,List.getD_eq_getElem?_getD,List.getElem?_drop]
theorem b0m {q:List UInt8} {i:Nat} {b:UInt8} {r:List UInt8} (h:q.drop i = b :: r):q.length = i + (r.length + 1):=by
 have:=congrArg List.length h
 rw [List.length_drop,List.length_cons] at this; omega
theorem Y1 {q:List UInt8} {i:Nat} {a z:List UInt8} (h:q.drop i = a ++ z) {k:Nat} (hk:a.length = k):q.drop (i + k) = z:=by
 subst hk
 rw [<- List.drop_drop,h,List.drop_left]
theorem a8X {b:UInt8} {n:Nat} (h:b.toNat = n):b = UInt8.ofNat n:=by rw [<- h]; simp
theorem U8 {q:List UInt8} {o ins:Nat}:∀ (r z:List UInt8) (i:Nat) (text:List UInt8),q.drop i = Rp.esc r ++ z -> r.all okB = true -> part q o ins i text = part q o ins (i + (Rp.esc r).length) (text ++ r)
 | [],z,i,text,hd,_=>by simp [Rp.esc]
 | b :: r,z,i,text,hd,hok=>by
  rw [List.all_cons,Bool.and_eq_true] at hok
  rw [Rp.X3] at hd
  have hlen:i + ((Rp.Y9 b).length + (Rp.esc r).length + z.length) <= q.length ∨ q.length < i:=by
   have:=congrArg List.length hd
   rw [List.length_drop] at this
   simp only [List.length_append] at this
   omega
  have h0:=getD_drop q i 0
  have h1:=getD_drop q i 1
  rw [hd] at h0 h1
  have hl1:=Rp.a4m b
  have hlen:i + ((Rp.Y9 b).length + (Rp.esc r).length + z.length) <= q.length:=by
   rcases hlen with h | h
   ·exact h
   ·rw [List.drop_eq_nil_of_le (by omega)] at hd
    have:=congrArg List.length hd
    simp only [List.length_append,List.length_nil] at this; omega
  have fin:∀ k,(Rp.Y9 b).length = k -> q.drop (i + k) = Rp.esc r ++ z:=fun k hk=>Y1 (by rw [hd,List.append_assoc]) hk
  by_cases c1:b = 10
  ·subst c1
   have e:Rp.Y9 10 = [92,110]:=rfl
   rw [e] at h0 h1 hlen
   simp only [List.length_cons,List.length_nil] at hlen
   rw [b0B (by omega) (by rw [show q.getD i 0 = 92 from h0]; decide) (by rw [show q.getD i 0 = 92 from h0]; rfl) (by rw [show q.getD (i + 1) 0 = 110 from h1]; rfl),U8 r z (i + 2) _ (fin 2 rfl) hok.2]
   rw [Rp.X3,e]; simp; congr 1; omega
  by_cases c2:b = 9
  ·subst c2
   have e:Rp.Y9 9 = [92,116]:=rfl
   rw [e] at h0 h1 hlen
   simp only [List.length_cons,List.length_nil] at hlen
   rw [b0C (by omega) (by rw [show q.getD i 0 = 92 from h0]; decide) (by rw [show q.getD i 0 = 92 from h0]; rfl) (by rw [show q.getD (i + 1) 0 = 116 from h1]; rfl),U8 r z (i + 2) _ (fin 2 rfl) hok.2]
   rw [Rp.X3,e]; simp; congr 1; omega
  by_cases c3:b = 92
  ·subst c3
   have e:Rp.Y9 92 = [92,92]:=rfl
   rw [e] at h0 h1 hlen
   simp only [List.length_cons,List.length_nil] at hlen
   rw [a19 (by omega) (by rw [show q.getD i 0 = 92 from h0]; decide) (by rw [show q.getD i 0 = 92 from h0]; rfl) (.inl (by rw [show q.getD (i + 1) 0 = 92 from h1]; rfl)),U8 r z (i + 2) _ (fin 2 rfl) hok.2,show q.getD (i + 1) 0 = 92 from h1]
   rw [Rp.X3,e]; simp; congr 1; omega
  by_cases c4:b = 34
  ·subst c4
   have e:Rp.Y9 34 = [92,34]:=rfl
   rw [e] at h0 h1 hlen
   simp only [List.length_cons,List.length_nil] at hlen
   rw [a19 (by omega) (by rw [show q.getD i 0 = 92 from h0]; decide) (by rw [show q.getD i 0 = 92 from h0]; rfl) (.inr (by rw [show q.getD (i + 1) 0 = 34 from h1]; rfl)),U8 r z (i + 2) _ (fin 2 rfl) hok.2,show q.getD (i + 1) 0 = 34 from h1]
   rw [Rp.X3,e]; simp; congr 1; omega
  have e:Rp.Y9 b = [b]:=by simp only [Rp.Y9,if_neg c1,if_neg c2,if_neg c3,if_neg c4]
  rw [e] at h0 h1 hlen
  simp only [List.length_cons,List.length_nil] at hlen
  have hb:32 <= b.toNat:=by
   have:=hok.1
   simp only [okB,Bool.or_eq_true,decide_eq_true_eq] at this
   rcases this with (h | h) | h
   ·exact h
   ·exact absurd (a8X h) c1
   ·exact absurd (a8X h) c2
  have h0:q.getD i 0 = b:=h0
  rw [a5k (by omega) (by rw [h0]; exact hb) (by rw [h0]; intro h; exact c4 (a8X (n:=34) h)) (by rw [h0]; intro h; exact c3 (a8X (n:=92) h)),U8 r z (i + 1) _ (fin 1 (by rw [e]; rfl)) hok.2,h0]
  rw [Rp.X3,e]; simp; congr 1; omega
theorem a7V {q:List UInt8} {o ins i:Nat} {r z text:List UInt8} (hd:q.drop i = Rp.esc r ++ (34 :: z)) (hok:r.all okB = true):part q o ins i text = .fin (text ++ r) (i + (Rp.esc r).length + 1):=by
 have h2:q.drop (i + (Rp.esc r).length) = 34 :: z:=Y1 hd rfl
 have h0:q.getD (i + (Rp.esc r).length) 0 = 34:=by have:=getD_drop q (i + (Rp.esc r).length) 0; rw [h2] at this; exact this
 have hl:=b0m h2
 rw [U8 r _ i text hd hok,a4A (by omega) (by rw [h0]; decide) (by rw [h0]; rfl)]
theorem a6P {q:List UInt8} {o ins i:Nat} {r z text:List UInt8} (hd:q.drop i = Rp.esc r ++ (92 :: 40 :: z)) (hok:r.all okB = true) (hi:ins < 3):part q o ins i text = .more (text ++ r) (i + (Rp.esc r).length + 2):=by
 have h2:q.drop (i + (Rp.esc r).length) = 92 :: 40 :: z:=Y1 hd rfl
 have h0:q.getD (i + (Rp.esc r).length) 0 = 92:=by have:=getD_drop q (i + (Rp.esc r).length) 0; rw [h2] at this; exact this
 have h1:q.getD (i + (Rp.esc r).length + 1) 0 = 40:=by have:=getD_drop q (i + (Rp.esc r).length) 1; rw [h2] at this; exact this
 have hl:=b0m h2
 rw [U8 r _ i text hd hok,a3u (by omega) (by rw [h0]; decide) (by rw [h0]; rfl) (by rw [h1]; rfl) (by omega)]
def PT (ins:Nat) (text:List UInt8):PR -> Prop
 | .err _ _=>True
 | .fin T _=>∃ r,T = text ++ r /\ r.all okB = true
 | .more T _=>ins < 3 /\ ∃ r,T = text ++ r /\ r.all okB = true
theorem PT.snoc {ins:Nat} {text:List UInt8} {b:UInt8} {p:PR} (hb:okB b = true) (h:PT ins (text ++ [b]) p):PT ins text p:=by
 have aux:∀ T,(∃ r,T = text ++ [b] ++ r /\ r.all okB = true) -> ∃ r,T = text ++ r /\ r.all okB = true:=by
  rintro T ⟨r,h1,h2⟩
  exact ⟨b :: r,by rw [h1]; simp,by rw [List.all_cons,hb,h2]; rfl⟩
 cases p with
 | err c a=>trivial
 | fin T e=>exact aux T h
 | more T e=>exact ⟨h.1,aux T h.2⟩
theorem okB_ge {b:UInt8} (h:32 <= b.toNat):okB b = true:=by simp only [okB,decide_eq_true h,Bool.true_or]
theorem a6O (q:List UInt8) (o ins:Nat):∀ (f i:Nat) (text:List UInt8),PT ins text (a1k q o ins f i text)
 | 0,i,text=>trivial
 | f + 1,i,text=>by
  have ih:=a6O q o ins f
  simp only [a1k]
  split
  ·trivial
  ·rename_i h1
   simp only [Bool.and_eq_true,decide_eq_true_eq] at h1
   split
   ·exact ⟨[],by simp,rfl⟩
   ·split
    ·exact PT.snoc (okB_ge h1.2) (ih _ _)
    ·split
     ·exact PT.snoc (by decide) (ih _ _)
     ·split
      ·exact PT.snoc (by decide) (ih _ _)
      ·split
       ·rename_i h5
        simp only [Bool.or_eq_true,decide_eq_true_eq] at h5
        exact PT.snoc (okB_ge (by omega)) (ih _ _)
       ·split
        ·split
         ·trivial
         ·rename_i h7
          simp only [decide_eq_false_iff_not] at h7
          exact ⟨by omega,[],by simp,rfl⟩
        ·trivial
theorem a7W (q:List UInt8) (o ins i:Nat) (text:List UInt8):PT ins text (part q o ins i text):=a6O q o ins _ i text
def spK (k:Int) (x:List UInt8):List UInt8 :=
 if k = 4 then 34 :: (Rp.esc x ++ [34]) else if k = 5 then 34 :: (Rp.esc x ++ [92,40]) else if k = 6 then 41 :: (Rp.esc x ++ [92,40]) else if k = 7 then 41 :: (Rp.esc x ++ [34]) else x
def closeS (b:Nat):List Int -> Bool
 | []=>false
 | p :: _=>decide (p = 0) && decide (b = 41)
theorem a9f (b:Nat):∀ st:List (Nat × Int),closes b st = closeS b (st.map Prod.snd)
 | []=>rfl
 | (q,p) :: st=>rfl
def bumpS (w:List UInt8):List Int -> List Int
 | []=>[]
 | p :: r=>match decide (w = [40]) with
  | true=>(p + 1) :: r
  | false=>match decide (w = [41]) with
   | true=>(p - 1) :: r
   | false=>p :: r
theorem bump_S (w:List UInt8):∀ st:List (Nat × Int),(bump w st).map Prod.snd = bumpS w (st.map Prod.snd)
 | []=>rfl
 | (q,p) :: st=>by
  simp only [bump,List.map_cons,bumpS]
  cases decide (w = [40]) with
  | true=>rfl
  | false=>cases decide (w = [41]) <;> rfl
inductive TS:List Int -> Int -> List UInt8 -> List Int -> Prop
 | tail (x:List UInt8) (st:List Int) (h:x.all okB = true):TS (0 :: st) 7 x st
 | mid (x:List UInt8) (st:List Int) (h:x.all okB = true) (h2:st.length < 3):TS (0 :: st) 6 x (0 :: st)
 | text (x:List UInt8) (st:List Int) (h:x.all okB = true):TS st 4 x st
 | head (x:List UInt8) (st:List Int) (h:x.all okB = true) (h2:st.length < 3):TS st 5 x (0 :: st)
 | int (w:List UInt8) (st:List Int) (h:w ≠ []) (h1:w.all q9 = true) (h2:∀ c,F5 c = false -> F4 w c = false):TS st 3 w st
 | name (w:List UInt8) (st:List Int) (h:w ≠ []) (h0:F5 (w.headD 0) = true) (h1:w.all F7 = true) (h2:ltB 24 (w.length:Nat) = false):TS st (U7 w) w st
 | sign (w:List UInt8) (st:List Int) (h:a1c H8 w = true) (h1:closeS (w.headD 0).toNat st = false):TS st 8 w (bumpS w st)
theorem a6W (p:UInt8 -> Bool) (s:List UInt8) (i:Nat):(s.take (D6 p s i)).drop i = (s.drop i).takeWhile p:=by
 rw [List.drop_take]
 have h:D6 p s i - i = ((s.drop i).takeWhile p).length:=by unfold D6; omega
 rw [h]
 exact (List.prefix_iff_eq_take.1 (List.takeWhile_prefix p)).symm
theorem b1i {toks:List Tok} {st:List (Nat × Int)} {q j:Nat} {a b:Int} {r:PR} {y:MS} (h:U5 toks st q j a b r = .go y) :
  (∃ T e,r = .fin T e /\ y = ⟨e,toks ++ [⟨a,T,j,e - j⟩],st⟩) ∨ (∃ T e,r = .more T e /\ y = ⟨e,toks ++ [⟨b,T,j,e - j⟩],(q,0) :: st⟩):=by
 cases r with
 | err c a=>cases h
 | fin T e=>cases h; exact .inl ⟨_,_,rfl,rfl⟩
 | more T e=>cases h; exact .inr ⟨_,_,rfl,rfl⟩
theorem b1V {s:List UInt8} {i:Nat} {w:List UInt8} (h:I6 s i 2 = w) (hw:w ≠ []) (hi:i < s.length):a1c H8 w = true /\ w.headD 0 = s.getD i 0:=by
 refine ⟨?_,?_⟩
 ·simp only [I6] at h
  split at h
  ·rename_i hx
   simp only [Bool.and_eq_true] at hx
   rw [<- h]; exact hx.2
  ·split at h
   ·rename_i hx
    simp only [Bool.and_eq_true] at hx
    rw [<- h]; exact hx.2
   ·exact absurd h.symm hw
 ·have e:=a9H h hi
  rw [List.drop_take,Q0 hi] at e
  cases w with
  | nil=>exact absurd rfl hw
  | cons b w =>
   rw [show i + (b :: w).length - i = w.length + 1 by simp] at e
   rw [List.take_succ_cons] at e
   exact (List.cons.inj e).1
theorem a8d {s:List UInt8} {x y:MS} (h:stepM s x = .go y):∃ t:Tok,y.toks = x.toks ++ [t] /\ x.toks.length < 3000 /\ TS (x.st.map Prod.snd) t.k t.t (y.st.map Prod.snd):=by
 obtain ⟨i0,toks,st⟩:=x
 obtain ⟨i,h0⟩:∃ i,E9 s i0 = i:=⟨_,rfl⟩
 rcases Nat.lt_or_ge i s.length with hi | hi
 ·cases hc:closes (s.getD i 0).toNat st with
  | true =>
   cases st with
   | nil=>cases hc
   | cons z st =>
    obtain ⟨q,p⟩:=z
    obtain ⟨rfl,e⟩:=P7 (toks:=toks) h0 hi hc
    rw [e] at h
    obtain ⟨hr,h⟩:=a0d h
    have hp:=a7W s q st.length (i + 1) []
    rcases b1i h with ⟨T,e,h1,rfl⟩ | ⟨T,e,h1,rfl⟩
    ·rw [h1] at hp
     obtain ⟨r,h2,h3⟩:=hp
     rw [List.nil_append] at h2; subst h2
     exact ⟨_,rfl,hr,.tail _ _ h3⟩
    ·rw [h1] at hp
     obtain ⟨h4,r,h2,h3⟩:=hp
     rw [List.nil_append] at h2; subst h2
     exact ⟨_,rfl,hr,.mid _ _ h3 (by rw [List.length_map]; exact h4)⟩
  | false =>
   by_cases h1:(s.getD i 0).toNat = 34
   ·rw [Y7 h0 hi hc h1] at h
    obtain ⟨hr,h⟩:=a0d h
    have hp:=a7W s i st.length (i + 1) []
    rcases b1i h with ⟨T,e,h1,rfl⟩ | ⟨T,e,h1,rfl⟩
    ·rw [h1] at hp
     obtain ⟨r,h2,h3⟩:=hp
     rw [List.nil_append] at h2; subst h2
     exact ⟨_,rfl,hr,.text _ _ h3⟩
    ·rw [h1] at hp
     obtain ⟨h4,r,h2,h3⟩:=hp
     rw [List.nil_append] at h2; subst h2
     exact ⟨_,rfl,hr,.head _ _ h3 (by rw [List.length_map]; exact h4)⟩
   ·cases h2:q9 (s.getD i 0) with
    | true =>
     rw [P8 h0 hi hc h1 h2,a6W] at h
     obtain ⟨hr,h⟩:=a0d h
     split at h
     ·cases h
     ·rename_i hb
      cases h
      refine ⟨_,rfl,hr,.int _ _ ?_ List.all_takeWhile ?_⟩
      ·rw [Q0 hi,List.takeWhile_cons,h2]; simp
      ·intro c hc
       rw [bad_eq] at hb ⊢
       rw [Bool.or_eq_false_iff] at hb ⊢
       exact ⟨hb.1,hc⟩
    | false =>
     cases h3:F5 (s.getD i 0) with
     | true =>
      rw [M9 h0 hi hc h1 h2 h3,a6W] at h
      obtain ⟨hr,h⟩:=a0d h
      split at h
      ·cases h
      ·rename_i hb
       cases h
       have hn:F7 (s.getD i 0) = true:=by simp only [F7,h3,Bool.true_or]
       refine ⟨_,rfl,hr,.name _ _ ?_ ?_ List.all_takeWhile hb⟩
       ·rw [Q0 hi,List.takeWhile_cons,hn]; simp
       ·rw [Q0 hi,List.takeWhile_cons,hn]; exact h3
     | false =>
      cases hw:I6 s i 2 with
      | nil=>rw [a0E h0 hi hc h1 h2 h3 hw] at h; cases h
      | cons b w =>
       rw [O3 h0 hi hc h1 h2 h3 hw (by simp)] at h
       obtain ⟨hr,h⟩:=a0d h
       cases h
       obtain ⟨k1,k2⟩:=b1V hw (by simp) hi
       refine ⟨_,rfl,hr,?_⟩
       show TS (st.map Prod.snd) 8 (b :: w) ((bump (b :: w) st).map Prod.snd)
       rw [bump_S]
       exact .sign _ _ k1 (by rw [k2,<- a9f]; exact hc)
 ·cases st with
  | nil=>rw [a0l h0 hi] at h; cases h
  | cons z st=>obtain ⟨q,p⟩:=z; rw [a0m h0 hi] at h; cases h
theorem a1o {toks:List Tok} {j:Nat} {r:MR} (h:toks.length < 3000):roomy toks j r = r:=a1p (by simp only [leB,decide_eq_false_iff_not]; omega)
theorem a1t {u:List UInt8} {e:Nat} {pre r:List UInt8} {b:UInt8} (hd:u.drop e = pre ++ (b :: r)) (hp:pre = [] ∨ pre = [32]) (hb:a0h b = false) (hc:b.toNat ≠ 47 ∨ (r.headD 0).toNat ≠ 47) :
  E9 u e = e + pre.length /\ e + pre.length < u.length /\ u.drop (e + pre.length) = b :: r /\ u.getD (e + pre.length) 0 = b:=by
 have h2:u.drop (e + pre.length) = b :: r:=Y1 hd rfl
 have hl:=b0m h2
 have h0:u.getD (e + pre.length) 0 = b:=by have:=getD_drop u (e + pre.length) 0; rw [h2] at this; exact this
 have h1:u.getD (e + pre.length + 1) 0 = r.headD 0:=by
  have:=getD_drop u (e + pre.length) 1
  rw [h2] at this
  rw [this]; cases r <;> rfl
 have hs:E9 u (e + pre.length) = e + pre.length:=a4I (by omega) (by rw [h0]; exact hb) (by rw [h0,h1]; exact hc)
 refine ⟨?_,by omega,h2,h0⟩
 rcases hp with rfl | rfl
 ·exact hs
 ·have hb0:u.getD e 0 = 32:=by have:=getD_drop u e 0; rw [hd] at this; exact this
  have hle:e < u.length:=by simp only [List.length_cons,List.length_nil] at hl; omega
  rw [a3d hle (by rw [hb0]; decide)]
  exact hs
def sgnP (w:List UInt8):Bool:=(decide (w.length = 1) || decide (w.length = 2)) && (!a0h (w.headD 0) && (!decide ((w.headD 0).toNat = 34) && (!q9 (w.headD 0) && (!F5 (w.headD 0) && (decide ((w.headD 0).toNat ≠ 47) || decide (w.length = 1))))))
theorem b1W:H8.all sgnP = true:=by decide
theorem sign_P {w:List UInt8} (h:a1c H8 w = true):sgnP w = true:=by
 simp only [a1c,List.any_eq_true,decide_eq_true_eq] at h
 obtain ⟨y,h1,rfl⟩:=h
 exact List.all_eq_true.1 b1W y h1
theorem no32 (b:UInt8):a1c H8 [b,32] = false:=by simp [a1c,H8]
theorem signK_at {u:List UInt8} {i:Nat} {w tl:List UInt8} (hd:u.drop i = w ++ tl) (hw:a1c H8 w = true) (ht:tl = [] ∨ ∃ r,tl = 32 :: r):I6 u i 2 = w:=by
 have hP:=sign_P hw
 simp only [sgnP,Bool.and_eq_true,Bool.or_eq_true,decide_eq_true_eq] at hP
 have hlen:=congrArg List.length hd
 rw [List.length_drop,List.length_append] at hlen
 match w,hP with
 | [b],_ =>
  simp only [List.length_cons,List.length_nil] at hlen
  have e1:(u.take (i + 1)).drop i = [b]:=by rw [List.drop_take,hd,show i + 1 - i = 1 by omega]; rfl
  have l1:leB ((i + 1:Nat):Int) u.length = true:=by simp only [leB,decide_eq_true_eq]; omega
  have e2:(leB ((i + (1 + 1):Nat):Int) u.length && a1c H8 ((u.take (i + (1 + 1))).drop i)) = false:=by
   rcases ht with rfl | ⟨r,rfl⟩
   ·have:leB ((i + (1 + 1):Nat):Int) u.length = false:=by simp only [leB,decide_eq_false_iff_not]; simp only [List.length_nil] at hlen; omega
    rw [this]; rfl
   ·have:(u.take (i + (1 + 1))).drop i = [b,32]:=by rw [List.drop_take,hd,show i + (1 + 1) - i = 2 by omega]; rfl
    rw [this,no32,Bool.and_false]
  simp only [I6,e2]
  simp only [Nat.zero_add,e1,l1,hw,Bool.and_self]
 | [b,c],_ =>
  simp only [List.length_cons,List.length_nil] at hlen
  have e2:(u.take (i + (1 + 1))).drop i = [b,c]:=by rw [List.drop_take,hd,show i + (1 + 1) - i = 2 by omega]; rfl
  have l2:leB ((i + (1 + 1):Nat):Int) u.length = true:=by simp only [leB,decide_eq_true_eq]; omega
  simp only [I6,e2,l2,hw,Bool.and_self]
 | [],hP=>simp at hP
 | _ :: _ :: _ :: _,hP=>simp at hP
theorem tw_all {p:UInt8 -> Bool} {tl:List UInt8} (ht:p (tl.headD 0) = false ∨ tl = []):∀ {w:List UInt8},w.all p = true -> (w ++ tl).takeWhile p = w
 | [],_=>by
  cases tl with
  | nil=>rfl
  | cons c tl =>
   rcases ht with h | h
   ·rw [List.nil_append,List.takeWhile_cons]
    have h:p c = false:=h
    rw [h]; rfl
   ·cases h
 | b :: w,h=>by
  rw [List.all_cons,Bool.and_eq_true] at h
  rw [List.cons_append,List.takeWhile_cons,h.1,if_pos rfl,tw_all ht h.2]
theorem run_at {p:UInt8 -> Bool} {u:List UInt8} {i:Nat} {w tl:List UInt8} (hd:u.drop i = w ++ tl) (ht:p (tl.headD 0) = false ∨ tl = []) (hw:w.all p = true):D6 p u i = i + w.length /\ (u.take (D6 p u i)).drop i = w /\ u.getD (D6 p u i) 0 = tl.headD 0:=by
 have h1:=tw_all ht hw
 have h2:D6 p u i = i + w.length:=by unfold D6; rw [hd,h1]
 refine ⟨h2,by rw [a6W,hd,h1],?_⟩
 have:=getD_drop u (i + w.length) 0
 rw [Y1 hd rfl,Nat.add_zero] at this
 rw [h2,this]; cases tl <;> rfl
theorem spK_name (w:List UInt8):spK (U7 w) w = w:=by
 unfold U7
 split
 ·rfl
 ·split <;> rfl
theorem step_of {u:List UInt8} {e:Nat} {pre tl:List UInt8} {toks:List Tok} {st:List (Nat × Int)} {k:Int} {x:List UInt8} {ps:List Int} (hd:u.drop e = pre ++ (spK k x ++ tl)) (hp:pre = [] ∨ pre = [32]) (ht:tl = [] ∨ ∃ r,tl = 32 :: r) (hT:TS (st.map Prod.snd) k x ps) (hr:toks.length < 3000) :
  ∃ y,stepM u ⟨e,toks,st⟩ = .go y /\ (∃ a l,y.toks = toks ++ [⟨k,x,a,l⟩]) /\ y.i = e + pre.length + (spK k x).length /\ y.st.map Prod.snd = ps:=by
 have ht2:∀ p:UInt8 -> Bool,p 32 = false -> p (tl.headD 0) = false ∨ tl = []:=fun p hp=>by
  rcases ht with rfl | ⟨r,rfl⟩
  ·exact .inr rfl
  ·exact .inl hp
 generalize hs:st.map Prod.snd = S at hT
 cases hT with
 | tail x ps h =>
  cases st with
  | nil=>cases hs
  | cons z st =>
   obtain ⟨q,p⟩:=z
   simp only [List.map_cons,List.cons.injEq] at hs
   obtain ⟨rfl,rfl⟩:=hs
   have es:spK 7 x = 41 :: (Rp.esc x ++ [34]):=rfl
   rw [es,List.cons_append] at hd
   obtain ⟨h0,hi,h2,h3⟩:=a1t hd hp (by decide) (.inl (by decide))
   obtain ⟨-,e1⟩:=P7 (toks:=toks) (st:=st) (q:=q) (p:=0) h0 hi (by rw [h3]; rfl)
   have hd2:u.drop (e + pre.length + 1) = Rp.esc x ++ (34 :: tl):=by rw [Y1 (a:=[41]) (k:=1) h2 rfl]; simp
   rw [e1,a1o hr,a7V hd2 h]
   refine ⟨_,rfl,⟨_,_,rfl⟩,?_,rfl⟩
   rw [es]; simp; omega
 | mid x ps h h5 =>
  cases st with
  | nil=>cases hs
  | cons z st =>
   obtain ⟨q,p⟩:=z
   simp only [List.map_cons,List.cons.injEq] at hs
   obtain ⟨rfl,rfl⟩:=hs
   have es:spK 6 x = 41 :: (Rp.esc x ++ [92,40]):=rfl
   rw [es,List.cons_append] at hd
   obtain ⟨h0,hi,h2,h3⟩:=a1t hd hp (by decide) (.inl (by decide))
   obtain ⟨-,e1⟩:=P7 (toks:=toks) (st:=st) (q:=q) (p:=0) h0 hi (by rw [h3]; rfl)
   have hd2:u.drop (e + pre.length + 1) = Rp.esc x ++ (92 :: 40 :: tl):=by rw [Y1 (a:=[41]) (k:=1) h2 rfl]; simp
   rw [List.length_map] at h5
   rw [e1,a1o hr,a6P hd2 h h5]
   refine ⟨_,rfl,⟨_,_,rfl⟩,?_,rfl⟩
   rw [es]; simp; omega
 | text x ps h =>
  subst hs
  have es:spK 4 x = 34 :: (Rp.esc x ++ [34]):=rfl
  rw [es,List.cons_append] at hd
  obtain ⟨h0,hi,h2,h3⟩:=a1t hd hp (by decide) (.inl (by decide))
  have hd2:u.drop (e + pre.length + 1) = Rp.esc x ++ (34 :: tl):=by rw [Y1 (a:=[34]) (k:=1) h2 rfl]; simp
  rw [Y7 h0 hi (by rw [h3]; exact a0n (by decide)) (by rw [h3]; rfl),a1o hr,a7V hd2 h]
  refine ⟨_,rfl,⟨_,_,rfl⟩,?_,rfl⟩
  rw [es]; simp; omega
 | head x ps h h5 =>
  subst hs
  have es:spK 5 x = 34 :: (Rp.esc x ++ [92,40]):=rfl
  rw [es,List.cons_append] at hd
  obtain ⟨h0,hi,h2,h3⟩:=a1t hd hp (by decide) (.inl (by decide))
  have hd2:u.drop (e + pre.length + 1) = Rp.esc x ++ (92 :: 40 :: tl):=by rw [Y1 (a:=[34]) (k:=1) h2 rfl]; simp
  rw [List.length_map] at h5
  rw [Y7 h0 hi (by rw [h3]; exact a0n (by decide)) (by rw [h3]; rfl),a1o hr,a6P hd2 h h5]
  refine ⟨_,rfl,⟨_,_,rfl⟩,?_,rfl⟩
  rw [es]; simp; omega
 | int w ps h h1 h2 =>
  subst hs
  have es:spK 3 x = x:=rfl
  rw [es] at hd ⊢
  cases x with
  | nil=>exact absurd rfl h
  | cons b w =>
  have hb:q9 b = true:=by rw [List.all_cons,Bool.and_eq_true] at h1; exact h1.1
  have hb2:=hb
  simp only [q9,decide_eq_true_eq] at hb2
  rw [List.cons_append] at hd
  obtain ⟨h0,hi,h3,h4⟩:=a1t hd hp (by simp only [a0h,decide_eq_false_iff_not]; omega) (.inl (by omega))
  have h5:u.drop (e + pre.length) = (b :: w) ++ tl:=h3
  obtain ⟨r1,r2,r3⟩:=run_at h5 (ht2 q9 (by decide)) h1
  rw [P8 h0 hi (by rw [h4]; exact a0n (by omega)) (by rw [h4]; omega) (by rw [h4]; exact hb),a1o hr,r2,r3,h2 _ (by rcases ht with rfl | ⟨r,rfl⟩ <;> rfl)]
  refine ⟨_,rfl,⟨_,_,rfl⟩,?_,rfl⟩
  exact r1
 | name w ps h h6 h1 h2 =>
  subst hs
  rw [spK_name] at hd ⊢
  cases x with
  | nil=>exact absurd rfl h
  | cons b w =>
  have hb:F5 b = true:=h6
  have hb2:=hb
  simp only [F5,decide_eq_true_eq] at hb2
  rw [List.cons_append] at hd
  obtain ⟨h0,hi,h3,h4⟩:=a1t hd hp (by simp only [a0h,decide_eq_false_iff_not]; omega) (.inl (by omega))
  have h5:u.drop (e + pre.length) = (b :: w) ++ tl:=h3
  obtain ⟨r1,r2,r3⟩:=run_at h5 (ht2 F7 (by decide)) h1
  rw [M9 h0 hi (by rw [h4]; exact a0n (by omega)) (by rw [h4]; omega) (by rw [h4]; simp only [q9,decide_eq_false_iff_not]; omega) (by rw [h4]; exact hb),a1o hr,r2,h2]
  refine ⟨_,rfl,⟨_,_,rfl⟩,?_,rfl⟩
  exact r1
 | sign w ps h h1 =>
  subst hs
  have es:spK 8 x = x:=rfl
  rw [es] at hd ⊢
  have hP:=sign_P h
  cases x with
  | nil=>exact absurd hP (by decide)
  | cons b w =>
  simp only [sgnP,List.headD_cons,Bool.and_eq_true,Bool.or_eq_true,Bool.not_eq_true',decide_eq_true_eq,decide_eq_false_iff_not] at hP
  obtain ⟨p1,p2,p3,p4,p5,p6⟩:=hP
  rw [List.cons_append] at hd
  obtain ⟨h0,hi,h3,h4⟩:=a1t hd hp p2 (by
   rcases p6 with p6 | p6
   ·exact .inl (of_decide_eq_true p6)
   ·right
    cases w with
    | nil =>
     rcases ht with rfl | ⟨r,rfl⟩
     ·decide
     ·show (32:UInt8).toNat ≠ 47
      decide
    | cons c w=>simp at p6)
  have h5:u.drop (e + pre.length) = (b :: w) ++ tl:=h3
  rw [O3 (w:=b :: w) h0 hi (by rw [h4,a9f]; exact h1) (by rw [h4]; exact of_decide_eq_false p3) (by rw [h4]; exact p4) (by rw [h4]; exact p5) (signK_at h5 h ht) (by simp),a1o hr]
  refine ⟨_,rfl,⟨_,_,rfl⟩,rfl,?_⟩
  exact bump_S _ _
def KT (l:List Tok):List (Int × List UInt8):=l.map fun t=>(t.k,t.t)
def spJ (l:List Tok):List UInt8:=[32].intercalate (l.map fun t=>spK t.k t.t)
theorem spJ_cons (t:Tok) (l:List Tok):spJ (t :: l) = spK t.k t.t ++ (match l with | []=>[] | _ :: _=>32 :: spJ l):=by
 cases l with
 | nil=>simp [spJ,List.intercalate]
 | cons u l=>simp [spJ,List.intercalate]
def Rl (u:List UInt8) (l:List Tok) (x x':MS):Prop:=∃ rest,l = x.toks ++ rest /\ KT x'.toks = KT x.toks /\ x'.st.map Prod.snd = x.st.map Prod.snd /\ ∃ pre,(pre = [] ∨ pre = [32]) /\ u.drop x'.i = (match rest with | []=>[] | _ :: _=>pre ++ spJ rest)
theorem b0F {s:List UInt8} {x y:MS} (h:Reach s x y):∃ rest,y.toks = x.toks ++ rest:=by
 induction h with
 | refl x=>exact ⟨[],by simp⟩
 | step x y z h1 _ ih =>
  obtain ⟨t,g,_⟩:=a8d h1
  obtain ⟨r,hr⟩:=ih
  exact ⟨t :: r,by rw [hr,g]; simp⟩
theorem resp {s u:List UInt8} {x z:MS} (h:Reach s x z):∀ x',Rl u z.toks x x' -> ∃ z',Reach u x' z' /\ Rl u z.toks z z':=by
 induction h with
 | refl x=>exact fun x' h=>⟨x',.refl _,h⟩
 | step x y z h1 h2 ih =>
  rintro ⟨i',toks',st'⟩ ⟨rest,e1,e2,e3,pre,e4,e5⟩
  obtain ⟨t,g1,g2,g3⟩:=a8d h1
  obtain ⟨r,hr⟩:=b0F h2
  have:rest = t :: r:=by
   rw [hr,g1,List.append_assoc] at e1
   exact (List.append_cancel_left e1).symm
  subst this
  simp only at e2 e3 e5
  rw [spJ_cons] at e5
  have hlen:toks'.length < 3000:=by
   have:=congrArg List.length e2
   simp only [KT,List.length_map] at this
   omega
  rw [<- e3] at g3
  obtain ⟨y',k1,⟨a,l,k2⟩,k3,k4⟩:=step_of (toks:=toks') e5 e4 (by cases r with
   | nil=>exact .inl rfl
   | cons _ _=>exact .inr ⟨_,rfl⟩) g3 hlen
  obtain ⟨z',m1,m2⟩:=ih y' ⟨r,hr,by rw [k2,g1]; simp only [KT,List.map_append] at e2 ⊢; rw [e2]; rfl,k4,[32],.inr rfl,by
   rw [k3,<- List.drop_drop,<- List.drop_drop,e5,List.drop_left,List.drop_left]
   cases r <;> rfl⟩
  exact ⟨z',.step _ _ _ k1 m1,m2⟩
theorem done_st {s:List UInt8} {x:MS} {l:List Tok} (h:stepM s x = .done l):x.st = []:=by
 obtain ⟨h1,h2⟩:=a4b h
 obtain ⟨i0,toks,st⟩:=x
 cases st with
 | nil=>rfl
 | cons z st=>obtain ⟨q,p⟩:=z; rw [a0m rfl h2] at h; cases h
theorem respell {s:List UInt8} {l:List Tok} (h:a0e s = .done l) (hu:(spJ l).length <= 8000):∃ m,a0e (spJ l) = .done m /\ KT m = KT l:=by
 obtain ⟨ok,_,_,he⟩:=a0R s
 have he:=he (ok.lay l h).1
 rw [h] at he
 obtain ⟨z,h1,h2,_⟩:=he
 obtain ⟨h3,_⟩:=a4b h2
 obtain ⟨z',m1,rest,r1,r2,r3,pre,r4,r5⟩:=resp (u:=spJ l) h1 ⟨0,[],[]⟩ ⟨l,by rw [h3]; rfl,rfl,rfl,[],.inl rfl,by
  cases l <;> rfl⟩
 rw [done_st h2] at r3
 have hst:z'.st = []:=by simpa using r3
 have:rest = []:=by simpa using r1
 subst this
 simp only at r5
 rw [h3] at r2
 refine ⟨z'.toks,Ends.det _ ((a0R (spJ l)).2.2.2 hu) ⟨z',m1,?_,fun z hz=>(by cases hz)⟩,r2⟩
 obtain ⟨i',toks',st'⟩:=z'
 simp only at hst r5
 subst hst
 have hl:(spJ l).length <= i':=by simpa using r5
 exact a0l (a5r hl) hl
end Go.Proofs.YtlhgheonlcjpaaaGreat.Sc
namespace Go.Proofs.YtlhgheonlcjpaaaGreat
open Go Go.Vm
theorem b0R {a:Int} (h1:-9223372036854775808 <= a) (h2:a <= 9223372036854775807):w64 a = a:=by
 unfold w64
 simp only [IntKind.wrap,IntKind.bits,IntKind.signed]
 simp
 omega
theorem a2i {k:Nat} (h:k <= 1000000):w64 ((k:Int) + 1) = ((k + 1:Nat):Int):=by rw [b0R (by omega) (by omega)]; rfl
theorem a1i {a b:Int} (h:a < b):ltB a b = true:=by simp [ltB,h]
theorem a1h {a b:Int} (h:¬ a < b):ltB a b = false:=by simp [ltB,h]
theorem V5 {a b:Int} (h:a = b):eqB a b = true:=by simp [eqB,h]
theorem O5 {a b:Int} (h:¬ a = b):eqB a b = false:=by simp [eqB,h]
theorem a1V (s:Str):eqS s s = true:=by simp [eqS]
theorem a2U {α:Type} {l:List α} {i:Nat} (h:i < l.length):idx' l (i:Int) = some l[i]:=by
 have h1:inR (i:Int) l.length = true:=by simp [inR,h]
 simp [idx',h1,h]
theorem idxS_ok {s:Str} {i:Nat} (h:i < s.length):idxS s (i:Int) = some (((s.getD i 0).toNat:Nat):Int):=by
 have h1:inR (i:Int) s.length = true:=by simp [inR,h]
 simp [idxS,h1]
theorem a9V {α:Type} {b:Nat} {l m:List α} (h:(l.length + m.length) * (b + 1) <= 70368744177664):app b l m = some (l ++ m):=by
 unfold app leN
 rw [decide_eq_true h]
theorem a6l {a b:Str} (h:a.length + b.length <= 9223372036854775807):cat a b = some (a ++ b):=by
 have:leB ((a.length + b.length:Nat):Int) 9223372036854775807 = true:=by simp only [leB,decide_eq_true_eq]; omega
 simp only [cat,this]
theorem a90 (s:Str):bytesOf (Z0 s) = s:=by
 simp [bytesOf,Z0,List.map_map,Function.comp_def]
theorem ints_app (a b:Str):Z0 (a ++ b) = Z0 a ++ Z0 b:=by simp [Z0]
theorem ints_len (a:Str):(Z0 a).length = a.length:=by simp [Z0]
theorem a4n {b:UInt8} {n:Nat} (h:b.toNat = n) (hn:n < 256):b = UInt8.ofNat n:=by rw [<- h]; simp
theorem one_step {b:UInt8} {l:List Int} (hl:l.length <= 1000000):(cond (eqB ((b.toNat:Nat):Int) 10) ((app 1 l ([92,110]:List Int)).bind fun l3=>some l3) (
      cond (eqB ((b.toNat:Nat):Int) 9) ((app 1 l ([92,116]:List Int)).bind fun l4=>some l4) (
      Option.bind (α:=Bool) (cond (eqB ((b.toNat:Nat):Int) 92) (some (eqB ((b.toNat:Nat):Int) 92)) (some (eqB ((b.toNat:Nat):Int) 34))) fun x507 =>
      cond x507 ((app 1 l ([92,((b.toNat:Nat):Int)]:List Int)).bind fun l6=>some l6) ((app 1 l ([((b.toNat:Nat):Int)]:List Int)).bind fun l8=>some l8)))) = some (l ++ Z0 (Rp.Y9 b)):=by
  have a2:∀ x y:Int,app 1 l [x,y] = some (l ++ [x,y]):=fun x y=>a9V (by simp only [List.length_cons,List.length_nil]; omega)
  have a1:∀ x:Int,app 1 l [x] = some (l ++ [x]):=fun x=>a9V (by simp only [List.length_cons,List.length_nil]; omega)
  simp only [a2,a1,Option.bind_some]
  by_cases h1:b.toNat = 10
  · have:=a4n h1 (by omega); subst this; simp [eqB,Rp.Y9,Z0]
  by_cases h2:b.toNat = 9
  · have:=a4n h2 (by omega); subst this; simp [eqB,Rp.Y9,Z0]
  by_cases h3:b.toNat = 92
  · have:=a4n h3 (by omega); subst this; simp [eqB,Rp.Y9,Z0]
  by_cases h4:b.toNat = 34
  · have:=a4n h4 (by omega); subst this; simp [eqB,Rp.Y9,Z0]
  rw [O5 (a:=((b.toNat:Nat):Int)) (b:=10) (by omega),O5 (a:=((b.toNat:Nat):Int)) (b:=9) (by omega),O5 (a:=((b.toNat:Nat):Int)) (b:=92) (by omega),O5 (a:=((b.toNat:Nat):Int)) (b:=34) (by omega)]
  have e:Rp.Y9 b = [b]:=by
    unfold Rp.Y9
    rw [if_neg (fun e=>h1 (by rw [e]; rfl)),if_neg (fun e=>h2 (by rw [e]; rfl)),if_neg (fun e=>h3 (by rw [e]; rfl)),if_neg (fun e=>h4 (by rw [e]; rfl))]
  rw [e]; rfl
theorem a7y {s:Str} (hs:s.length <= 100000) (n:Nat):∀ (m i:Nat),i <= s.length -> s.length - i < m -> O0 n s m (Z0 (Rp.esc (s.take i))) i = some (Z0 (Rp.esc s))
 | 0,i,_,h=>absurd h (by omega)
 | m + 1,i,hi,hm=>by
  rw [O0]
  by_cases h:i < s.length
  ·have hl:=Rp.a1L (s.take i)
   rw [List.length_take] at hl
   rw [a1i (by omega),cond_true,idxS_ok h]
   simp only [Option.bind_some]
   rw [one_step (by rw [ints_len]; omega),Option.bind_some,a2i (by omega),<- ints_app,<- Rp.a2P h]
   exact a7y hs n m (i + 1) (by omega) (by omega)
  ·rw [a1h (by omega),cond_false,List.take_of_length_le (by omega)]
theorem b0f {s:Str} (hs:s.length <= 100000) {n:Nat} (hn:s.length < n):K9 n s = some (Rp.esc s):=by
 have h:=a7y hs n n 0 (Nat.zero_le _) (by omega)
 rw [K9,show ([]:List Int) = Z0 (Rp.esc (s.take 0)) from rfl,show (0:Int) = ((0:Nat):Int) from rfl,h,Option.bind_some,a90]
theorem a4X {α ρ:Type} {a:α} {k:α -> Option ρ}:a7p (some (.brk a)) k = k a:=rfl
theorem a6j:X6 = some true:=by
 have h:Sc.a0e [108,101,116,32,120] = .done [⟨9,[108,101,116],0,3⟩,⟨1,[120],4,1⟩]:=by
  have h:=(Sc.a0R [108,101,116,32,120]).2.2.2 (by decide)
  exact Sc.Ends.det _ h (Sc.a7Y _ (f:=5) (by kernel_rfl))
 rw [X6]
 unfold a04
 rw [h]
 simp only [Option.bind_some,a3f,a2h,tokA,List.map_cons,List.map_nil]
 have e0:∀ a b:Tok,idx' [a,b] 0 = some a:=fun a b=>a2U (l:=[a,b]) (i:=0) (by simp)
 have e1:∀ a b:Tok,idx' [a,b] 1 = some b:=fun a b=>a2U (l:=[a,b]) (i:=1) (by simp)
 rw [e0,e1]
 simp only [Option.bind_some,a0V]
 rw [V5 (a:=0) rfl,show ∀ a b:Tok,(([a,b]:List Tok).length:Int) = 2 from fun _ _=>rfl,V5 (a:=2) rfl,V5 (a:=9) rfl,V5 (a:=((0:Nat):Int)) (b:=0) rfl,V5 (a:=((3:Nat):Int)) (b:=3) rfl,V5 (a:=1) rfl,V5 (a:=((4:Nat):Int)) (b:=4) rfl,V5 (a:=((1:Nat):Int)) (b:=1) rfl,a1V,a1V]
 rfl
theorem eqS_f {a b:Str} (h:¬ a = b):eqS a b = false:=by simp [eqS,h]
def spl (t:Tok):Str:=Sc.spK t.kind t.text
theorem spl_p {t:Tok} (h:t.text.length <= 100000):a0v t = some (spl t):=by
 have e:escG t.text = some (Rp.esc t.text):=by simp only [escG,a1g (show t.text.length <= 1000000 by omega)]
 have hl:=Rp.a1L t.text
 have cc:∀ a b:Str,a.length <= 300000 -> b.length <= 300000 -> cat a b = some (a ++ b):=fun a b h1 h2=>a6l (by omega)
 rw [a0v]
 unfold spl Sc.spK
 by_cases h4:t.kind = 4
 ·rw [V5 h4,cond_true,e,Option.bind_some,cc _ _ (by decide) (by omega),Option.bind_some,cc _ _ (by simp; omega) (by decide),Option.bind_some,if_pos h4]; rfl
 by_cases h5:t.kind = 5
 ·rw [O5 h4,cond_false,V5 h5,cond_true,e,Option.bind_some,cc _ _ (by decide) (by omega),Option.bind_some,cc _ _ (by simp; omega) (by decide),Option.bind_some,if_neg h4,if_pos h5]; rfl
 by_cases h6:t.kind = 6
 ·rw [O5 h4,cond_false,O5 h5,cond_false,V5 h6,cond_true,e,Option.bind_some,cc _ _ (by decide) (by omega),Option.bind_some,cc _ _ (by simp; omega) (by decide),Option.bind_some,if_neg h4,if_neg h5,if_pos h6]; rfl
 by_cases h7:t.kind = 7
 ·rw [O5 h4,cond_false,O5 h5,cond_false,O5 h6,cond_false,V5 h7,cond_true,e,Option.bind_some,cc _ _ (by decide) (by omega),Option.bind_some,cc _ _ (by simp; omega) (by decide),Option.bind_some,if_neg h4,if_neg h5,if_neg h6,if_pos h7]; rfl
 rw [O5 h4,cond_false,O5 h5,cond_false,O5 h6,cond_false,O5 h7,cond_false,if_neg h4,if_neg h5,if_neg h6,if_neg h7]
theorem spl_r {t:Tok} {n:Nat} (h:t.text.length <= 100000) (hn:t.text.length < n):a0b n t = some (spl t):=by
 have e:K9 n t.text = some (Rp.esc t.text):=b0f h hn
 have hl:=Rp.a1L t.text
 have cc:∀ a b:Str,a.length <= 300000 -> b.length <= 300000 -> cat a b = some (a ++ b):=fun a b h1 h2=>a6l (by omega)
 rw [a0b]
 unfold spl Sc.spK
 by_cases h4:t.kind = 4
 ·rw [V5 h4,cond_true,e,Option.bind_some,cc _ _ (by decide) (by omega),Option.bind_some,cc _ _ (by simp; omega) (by decide),Option.bind_some,if_pos h4]; rfl
 by_cases h5:t.kind = 5
 ·rw [O5 h4,cond_false,V5 h5,cond_true,e,Option.bind_some,cc _ _ (by decide) (by omega),Option.bind_some,cc _ _ (by simp; omega) (by decide),Option.bind_some,if_neg h4,if_pos h5]; rfl
 by_cases h6:t.kind = 6
 ·rw [O5 h4,cond_false,O5 h5,cond_false,V5 h6,cond_true,e,Option.bind_some,cc _ _ (by decide) (by omega),Option.bind_some,cc _ _ (by simp; omega) (by decide),Option.bind_some,if_neg h4,if_neg h5,if_pos h6]; rfl
 by_cases h7:t.kind = 7
 ·rw [O5 h4,cond_false,O5 h5,cond_false,O5 h6,cond_false,V5 h7,cond_true,e,Option.bind_some,cc _ _ (by decide) (by omega),Option.bind_some,cc _ _ (by simp; omega) (by decide),Option.bind_some,if_neg h4,if_neg h5,if_neg h6,if_pos h7]; rfl
 rw [O5 h4,cond_false,O5 h5,cond_false,O5 h6,cond_false,O5 h7,cond_false,if_neg h4,if_neg h5,if_neg h6,if_neg h7]
theorem a8V (t:Tok):(spl t).length <= 2 * t.text.length + 3:=by
 have hl:=Rp.a1L t.text
 unfold spl Sc.spK
 repeat' split
 all_goals first | omega | (simp only [List.length_cons,List.length_append,List.length_nil]; omega)
def a0T:Nat -> List Tok -> Bool
 | _,[]=>true
 | z,t :: r=>decide (t.text.length <= 8000) && (decide (z + ((spl t).length + 1) <= 8001) && a0T (z + ((spl t).length + 1)) r)
def szL:List Tok -> Nat
 | []=>0
 | t :: r=>(spl t).length + 1 + szL r
theorem a3e (t:Tok):∀ l,szL (l ++ [t]) = szL l + ((spl t).length + 1)
 | []=>by simp [szL]
 | u :: l=>by simp only [List.cons_append,szL,a3e t l]; omega
theorem b1n:∀ (l:List Tok) (z:Nat),a0T z l = true -> z <= 8001 -> z + szL l <= 8001
 | [],z,_,h=>by simpa [szL] using h
 | t :: r,z,h,_=>by
  simp only [a0T,Bool.and_eq_true,decide_eq_true_eq] at h
  have:=b1n r _ h.2.2 h.2.1
  simp only [szL]; omega
theorem b1s {l:List Tok} (hl:l.length <= 3000) (n:Nat):∀ (rest pre:List Tok) (m z:Nat),l = pre ++ rest -> rest.length < m -> z <= 8001 ->
  N8 n l m (pre.map spl) z pre.length = some (match a0T z rest with | true=>.brk (l.map spl) | false=>.out ([],4))
 | rest,pre,0,z,_,h,_=>absurd h (by omega)
 | [],pre,m + 1,z,e,_,_=>by
  rw [N8,a1h (by rw [e,List.append_nil]; omega),cond_false,e,List.append_nil]; rfl
 | t :: r,pre,m + 1,z,e,hm,hz=>by
  have hln:l.length = pre.length + (r.length + 1):=by rw [e]; simp
  have hi:pre.length < l.length:=by omega
  have ht:l[pre.length] = t:=by subst e; simp
  have hs:=a8V t
  rw [N8,a1i (by omega),cond_true,a2U hi,Option.bind_some,ht]
  by_cases h1:8000 < t.text.length
  ·rw [a1i (by omega),cond_true]
   have:a0T z (t :: r) = false:=by simp only [a0T]; rw [decide_eq_false (by omega)]; rfl
   rw [this]
  ·have ew:w64 ((z:Int) + w64 (((spl t).length:Int) + 1)) = ((z + ((spl t).length + 1):Nat):Int):=by
    rw [b0R (a:=((spl t).length:Int) + 1) (by omega) (by omega),b0R (by omega) (by omega)]; omega
   rw [a1h (by omega),cond_false,spl_p (by omega),Option.bind_some,ew]
   by_cases h2:8001 < z + ((spl t).length + 1)
   ·rw [a1i (by omega),cond_true]
    have:a0T z (t :: r) = false:=by simp only [a0T]; rw [decide_eq_false (show ¬ z + ((spl t).length + 1) <= 8001 by omega)]; simp
    rw [this]
   ·rw [a1h (by omega),cond_false,a9V (by simp only [List.length_map,List.length_cons,List.length_nil]; omega),Option.bind_some,a2i (by omega)]
    have ih:=b1s hl n r (pre ++ [t]) m (z + ((spl t).length + 1)) (by rw [e]; simp) (by simp only [List.length_cons] at hm; omega) (by omega)
    rw [List.map_append,List.map_cons,List.map_nil,List.length_append] at ih
    have:a0T z (t :: r) = a0T (z + ((spl t).length + 1)) r:=by simp only [a0T]; rw [decide_eq_true (by omega),decide_eq_true (by omega)]; rfl
    rw [this]
    exact ih
def Jn (l:List Tok):Str:=[32].intercalate (l.map spl)
def Jx:List Tok -> Str
 | []=>[]
 | t :: r=>Jn (t :: r) ++ [32]
theorem a4i (a b:Tok) (r:List Tok):Jn (a :: b :: r) = spl a ++ 32 :: Jn (b :: r):=by simp [Jn,List.intercalate]
theorem a8q (a:Tok):Jn [a] = spl a:=by simp [Jn,List.intercalate]
theorem a5S (t:Tok):∀ l,Jn (l ++ [t]) = Jx l ++ spl t
 | []=>a8q t
 | [a]=>by
  show Jn [a,t] = Jn [a] ++ [32] ++ spl t
  rw [a4i,a8q,a8q]; simp
 | a :: b :: r=>by
  have ih:=a5S t (b :: r)
  show Jn (a :: b :: (r ++ [t])) = Jn (a :: b :: r) ++ [32] ++ spl t
  rw [a4i,a4i]
  have ih:Jn (b :: (r ++ [t])) = Jn (b :: r) ++ [32] ++ spl t:=ih
  rw [ih]; simp
theorem a8p:∀ (t:Tok) (l:List Tok),(Jn (t :: l)).length + 1 = szL (t :: l)
 | t,[]=>by rw [a8q]; simp [szL]
 | t,b :: r=>by
  have ih:=a8p b r
  rw [a4i,List.length_append,List.length_cons]
  simp only [szL] at ih ⊢; omega
theorem a9T:∀ l,(Jx l).length = szL l
 | []=>rfl
 | t :: r=>by have:=a8p t r; simp only [Jx,List.length_append,List.length_cons,List.length_nil]; omega
theorem Jn_le:∀ l,(Jn l).length <= szL l
 | []=>by simp [Jn,List.intercalate]
 | t :: r=>by have:=a8p t r; omega
theorem in1' {pre:List Tok} {ρ:Type} {k:Str -> Option ρ} (h:(Jn pre).length <= 1000000):Option.bind (α:=Str) (cond (ltB 0 (pre.length:Int)) ((cat (Jn pre) [32]).bind fun s2=>some s2) (some (Jn pre))) k = k (Jx pre):=by
 cases pre with
 | nil=>rw [a1h (by simp)]; rfl
 | cons t r=>rw [a1i (by simp only [List.length_cons]; omega),cond_true,a6l (by simp only [List.length_cons,List.length_nil]; omega)]; rfl
theorem in2 {l pre r:List Tok} {t:Tok} (e:l = pre ++ t :: r):idx' l (pre.length:Int) = some t:=by
 have hi:pre.length < l.length:=by rw [e]; simp
 rw [a2U hi]; subst e; simp
theorem b1q {l:List Tok} (hl:l.length <= 100000) {n:Nat} (hn:8001 <= n):∀ (rest pre:List Tok) (m:Nat),l = pre ++ rest -> rest.length < m -> a0T (szL pre) rest = true -> szL pre <= 8001 ->
  C8 n l m (Jn pre) pre.length = some (.brk (Jn l))
 | rest,pre,0,_,h,_,_=>absurd h (by omega)
 | [],pre,m + 1,e,_,_,_=>by
  rw [C8,a1h (by rw [e,List.append_nil]; omega),cond_false,e,List.append_nil]
 | t :: r,pre,m + 1,e,hm,hok,hz=>by
  have hln:l.length = pre.length + (r.length + 1):=by rw [e]; simp
  have hj:=Jn_le pre
  have hx:=a9T pre
  have hs:=a8V t
  simp only [a0T,Bool.and_eq_true,decide_eq_true_eq] at hok
  obtain ⟨h1,h2,h3⟩:=hok
  rw [C8,a1i (by omega),cond_true,in1' (by omega),in2 e,Option.bind_some,Option.bind_some,a1h (by omega),cond_false,a1h (by omega),Option.bind_some,cond_false,spl_r (by omega) (by omega),Option.bind_some,a6l (by omega),Option.bind_some,a2i (by omega),<- a5S]
  have ih:=b1q hl hn r (pre ++ [t]) m (by rw [e]; simp) (by simp only [List.length_cons] at hm; omega) (by rw [a3e]; exact h3) (by rw [a3e]; exact h2)
  rw [List.length_append] at ih
  exact ih
theorem refS_big {l:List Tok} (hl:l.length <= 100000) {n:Nat} (rest pre:List Tok) (m:Nat) (e:l = pre ++ rest) (hm:rest.length < m) (hb:8000 < (Jn pre).length) (hc:(Jn pre).length <= 1000000) :
  ∃ r,C8 n l m (Jn pre) pre.length = some r /\ (r = .out ([],false) ∨ ∃ s,r = .brk s /\ 8000 < s.length):=by
 cases m with
 | zero=>exact absurd hm (by omega)
 | succ m =>
 cases rest with
 | nil =>
  rw [C8,a1h (by rw [e,List.append_nil]; omega),cond_false]
  exact ⟨_,rfl,.inr ⟨_,rfl,hb⟩⟩
 | cons t r =>
  have hln:l.length = pre.length + (r.length + 1):=by rw [e]; simp
  have hj:=Jn_le pre
  have hx:=a9T pre
  rw [C8,a1i (by omega),cond_true,in1' (by omega),in2 e,Option.bind_some,Option.bind_some,a1i (a:=8000) (b:=((Jx pre).length:Int)) (by omega)]
  cases ltB 8000 (t.text.length:Int) <;> exact ⟨_,rfl,.inl rfl⟩
theorem b1p {l:List Tok} (hl:l.length <= 100000) {n:Nat} (hn:8001 <= n):∀ (rest pre:List Tok) (m:Nat),l = pre ++ rest -> rest.length < m -> a0T (szL pre) rest = false -> szL pre <= 8001 ->
  ∃ r,C8 n l m (Jn pre) pre.length = some r /\ (r = .out ([],false) ∨ ∃ s,r = .brk s /\ 8000 < s.length)
 | rest,pre,0,_,h,_,_=>absurd h (by omega)
 | [],pre,m + 1,e,_,h,_=>by cases h
 | t :: r,pre,m + 1,e,hm,hok,hz=>by
  have hln:l.length = pre.length + (r.length + 1):=by rw [e]; simp
  have hj:=Jn_le pre
  have hx:=a9T pre
  have hs:=a8V t
  rw [C8,a1i (by omega),cond_true,in1' (by omega),in2 e,Option.bind_some,Option.bind_some]
  by_cases h1:8000 < t.text.length
  ·rw [a1i (by omega)]; exact ⟨_,rfl,.inl rfl⟩
  rw [a1h (a:=8000) (b:=(t.text.length:Int)) (by omega),cond_false]
  by_cases h2:8000 < szL pre
  ·rw [a1i (by omega)]; exact ⟨_,rfl,.inl rfl⟩
  rw [a1h (by omega),Option.bind_some,cond_false,spl_r (by omega) (by omega),Option.bind_some,a6l (by omega),Option.bind_some,a2i (by omega),<- a5S]
  have el:((pre.length + 1:Nat):Int) = ((pre ++ [t]).length:Int):=by simp
  rw [el]
  by_cases h3:szL pre + ((spl t).length + 1) <= 8001
  ·have hok2:a0T (szL pre + ((spl t).length + 1)) r = false:=by
    simp only [a0T] at hok
    rw [decide_eq_true (by omega),decide_eq_true h3] at hok
    simpa using hok
   exact b1p hl hn r (pre ++ [t]) m (by rw [e]; simp) (by simp only [List.length_cons] at hm; omega) (by rw [a3e]; exact hok2) (by rw [a3e]; exact h3)
  ·have hlen:(Jn (pre ++ [t])).length = szL pre + (spl t).length:=by rw [a5S,List.length_append,hx]
   exact refS_big hl r (pre ++ [t]) m (by rw [e]; simp) (by simp only [List.length_cons] at hm; omega) (by omega) (by omega)
theorem a8o {l:List Tok} (h:a0T 0 l = true):(Jn l).length <= 8000:=by
 have:=b1n l 0 h (by omega)
 cases l with
 | nil=>simp [Jn,List.intercalate]
 | cons t r=>have:=a8p t r; omega
theorem b2a {l:List Tok} (hl:l.length <= 3100) (h:a0T 0 l = true):Q7 12001 l = some (Jn l,true):=by
 have h8:=a8o h
 have e:=b1q (l:=l) (by omega) (n:=12001) (by omega) l [] 12001 rfl (by omega) h (by simp [szL])
 have e:C8 12001 l 12001 [] 0 = some (.brk (Jn l)):=e
 rw [Q7,e,a4X]
 have:leB ((Jn l).length:Int) 8000 = true:=by simp only [leB,decide_eq_true_eq]; omega
 rw [this]
theorem b1Z {l:List Tok} (hl:l.length <= 3100) (h:a0T 0 l = false):∃ s,Q7 12001 l = some (s,false):=by
 obtain ⟨r,e,hr⟩:=b1p (l:=l) (by omega) (n:=12001) (by omega) l [] 12001 rfl (by omega) h (by simp [szL])
 have e:C8 12001 l 12001 [] 0 = some r:=e
 rw [Q7,e]
 rcases hr with rfl | ⟨s,rfl,hs⟩
 ·exact ⟨_,rfl⟩
 ·rw [a4X]
  have:leB (s.length:Int) 8000 = false:=by simp only [leB,decide_eq_false_iff_not]; omega
  rw [this]; exact ⟨_,rfl⟩
def kt (l:List Tok):List (Int × Str):=l.map fun t=>(t.kind,t.text)
theorem a5Y {l:List Tok} {i:Nat} (h:i < l.length):kt (l.drop i) = (l[i].kind,l[i].text) :: kt (l.drop (i + 1)):=by
 rw [List.drop_eq_getElem_cons h]; rfl
theorem cmp_p {l b:List Tok} (hlb:b.length = l.length) (hb:b.length <= 3000) (n:Nat):∀ (k i m:Nat),i + k = b.length -> k < m ->
  L9 n l b m i = some (match decide (kt (b.drop i) = kt (l.drop i)) with | true=>.brk () | false=>.out ([],4))
 | k,i,0,_,h=>absurd h (by omega)
 | 0,i,m + 1,hi,_=>by
  rw [L9,a1h (by omega),cond_false,List.drop_eq_nil_of_le (by omega),List.drop_eq_nil_of_le (by omega)]; rfl
 | k + 1,i,m + 1,hi,hm=>by
  have h1:i < b.length:=by omega
  have h2:i < l.length:=by omega
  rw [L9,a1i (by omega),cond_true,a2U h1,a2U h2]
  simp only [Option.bind_some]
  rw [a5Y h1,a5Y h2]
  by_cases h3:b[i].kind = l[i].kind
  ·rw [V5 h3,Bool.not_true,cond_false]
   by_cases h4:b[i].text = l[i].text
   ·rw [h4,a1V,Bool.not_true,Option.bind_some,cond_false,a2i (by omega),cmp_p hlb hb n k (i + 1) m (by omega) (by omega),h3]
    simp
   ·rw [eqS_f h4,Bool.not_false,Option.bind_some,cond_true,decide_eq_false (by simp [h4])]
  ·rw [O5 h3,Bool.not_false,cond_true,Option.bind_some,cond_true,decide_eq_false (by simp [h3])]
theorem cmp_r {l b:List Tok} (hlb:b.length = l.length) (hb:b.length <= 3100) (n:Nat):∀ (k i m:Nat),i + k = l.length -> k < m ->
  I7 n l b false m i = some (match decide (kt (l.drop i) = kt (b.drop i)) with | true=>.brk () | false=>.out false)
 | k,i,0,_,h=>absurd h (by omega)
 | 0,i,m + 1,hi,_=>by
  rw [I7,a1h (by omega),cond_false,List.drop_eq_nil_of_le (by omega),List.drop_eq_nil_of_le (by omega)]; rfl
 | k + 1,i,m + 1,hi,hm=>by
  have h1:i < b.length:=by omega
  have h2:i < l.length:=by omega
  rw [I7,a1i (by omega),cond_true,a2U h1,a2U h2]
  simp only [Option.bind_some]
  rw [a5Y h1,a5Y h2]
  by_cases h3:l[i].kind = b[i].kind
  ·rw [V5 h3,Bool.not_true,cond_false]
   by_cases h4:l[i].text = b[i].text
   ·rw [h4,a1V,Bool.not_true,cond_false,cond_false,Option.bind_some,cond_false,a2i (by omega),cmp_r hlb hb n k (i + 1) m (by omega) (by omega),h3]
    simp
   ·rw [eqS_f h4,Bool.not_false,cond_true,Option.bind_some,cond_true,decide_eq_false (by simp [h4])]
  ·rw [O5 h3,Bool.not_false,cond_true,Option.bind_some,cond_true,decide_eq_false (by simp [h3])]
theorem eqTokens {l b:List Tok} (hb:b.length <= 3100):X9 12001 l b false = some (decide (kt l = kt b)):=by
 rw [X9]
 by_cases h:l.length = b.length
 ·rw [V5 (by omega),Bool.not_true,cond_false]
  have e:=cmp_r (l:=l) (b:=b) h.symm hb 12001 l.length 0 12001 (by omega) (by omega)
  rw [List.drop_zero,List.drop_zero] at e
  have e:I7 12001 l b false 12001 0 = _:=e
  rw [e]
  cases decide (kt l = kt b) <;> rfl
 ·rw [O5 (by omega),Bool.not_false,cond_true,decide_eq_false]
  intro e
  have:=congrArg List.length e
  simp only [kt,List.length_map] at this
  exact h this
noncomputable def a2y (l:List Tok):Str × Int:=match a0T 0 l && (decide (a2h (Sc.a0e (Jn l)) = 0) && decide (kt l = kt (a3f (Sc.a0e (Jn l))))) with
 | true=>(Jn l,0)
 | false=>([],4)
theorem b0l {a b:List Tok} (h:kt a = kt b):a.length = b.length:=by
 have:=congrArg List.length h
 simpa only [kt,List.length_map] using this
theorem joinG_J {l:List Tok} (hl:l.length <= 3000) (h8:(Jn l).length <= 8000):a9p (l.map spl) [32] = some (Jn l):=by
 have e:Lib.join (l.map spl) [32] = Jn l:=rfl
 unfold a9p
 rw [e,a1g (by rw [List.length_map]; omega),a1g (by omega)]
 rfl
theorem mk_t {l:List Tok} (hl:l.length <= 3000):mkOk 16 (l.length:Int) = true:=by
 simp only [mkOk,leB,Bool.and_eq_true,decide_eq_true_eq]; omega
theorem b1t {l:List Tok} (hl:l.length <= 3100):a0D 12001 l = some (a2y l):=by
 rw [a0D]
 by_cases h3:3000 < l.length
 ·rw [a1i (by omega),cond_true]
  unfold a2y
  rw [decide_eq_false (p:=kt l = _) (fun e=>by have:=b0l e; have:=a7h (Jn l); omega)]
  simp
 ·have e:=b1s (l:=l) (by omega) 12001 l [] 12001 0 rfl (by omega) (by omega)
  have e:N8 12001 l 12001 [] 0 0 = _:=e
  rw [a1h (by omega),cond_false,mk_t (by omega),gdO,e]
  unfold a2y
  cases ho:a0T 0 l with
  | false=>rfl
  | true =>
   have h8:=a8o ho
   have hc:=a9O (Jn l)
   have hn:=a7h (Jn l)
   simp only [a4X]
   rw [joinG_J (by omega) h8,Option.bind_some]
   unfold a04
   simp only [Option.bind_some,Bool.true_and]
   generalize a3f (Sc.a0e (Jn l)) = b at hc hn ⊢
   generalize a2h (Sc.a0e (Jn l)) = c at hc ⊢
   generalize tokA (Sc.a0e (Jn l)) = a at hc ⊢
   rcases hc with ⟨rfl,rfl⟩ | ⟨h1,rfl⟩
   ·rw [V5 (a:=0) rfl,decide_eq_true (p:=(0:Int) = 0) rfl]
    simp only [Bool.and_self,Bool.not_true,cond_false,Bool.true_and,Option.bind_some]
    by_cases h5:b.length = l.length
    ·have e2:=cmp_p (l:=l) (b:=b) h5 hn 12001 b.length 0 12001 (by omega) (by omega)
     rw [List.drop_zero,List.drop_zero] at e2
     have e2:L9 12001 l b 12001 0 = _:=e2
     rw [V5 (by omega),Bool.not_true,cond_false,e2]
     by_cases h6:kt b = kt l
     ·rw [decide_eq_true h6,decide_eq_true h6.symm]; rfl
     ·rw [decide_eq_false h6,decide_eq_false (fun h=>h6 h.symm)]; rfl
    ·rw [O5 (by omega),Bool.not_false,cond_true,decide_eq_false (fun h=>h5 (b0l h).symm)]
   ·rw [O5 h1,decide_eq_false h1]; rfl
theorem b1m:∀ {a b:List Tok} (z:Nat),kt a = kt b -> a0T z a = a0T z b
 | [],[],_,_=>rfl
 | t :: a,u :: b,z,h=>by
  simp only [kt,List.map_cons,List.cons.injEq,Prod.mk.injEq] at h
  obtain ⟨⟨h1,h2⟩,h3⟩:=h
  have e:spl t = spl u:=by unfold spl; rw [h1,h2]
  simp only [a0T,e,h2,b1m (a:=a) (b:=b) _ h3]
 | [],u :: b,_,h=>by cases h
 | t :: a,[],_,h=>by cases h
theorem Jn_kt {a b:List Tok} (h:kt a = kt b):Jn a = Jn b:=by
 have:a.map spl = b.map spl:=by
  have e:∀ l:List Tok,l.map spl = (kt l).map fun x=>Sc.spK x.1 x.2:=fun l=>by simp [kt,spl,List.map_map,Function.comp_def]
  rw [e,e,h]
 unfold Jn; rw [this]
theorem kt_cv (l:List Sc.Tok):kt (l.map a0V) = Sc.KT l:=by simp [kt,Sc.KT,a0V,List.map_map,Function.comp_def]
theorem Jn_cv (l:List Sc.Tok):Jn (l.map a0V) = Sc.spJ l:=by simp [Jn,Sc.spJ,spl,a0V,List.map_map,Function.comp_def]
theorem a9U (s:Str):a0f 12001 s = some true:=by
 rw [a0f]
 by_cases h:12000 < s.length
 ·rw [a1i (by omega),cond_true]
 rw [a1h (by omega),cond_false]
 unfold a04
 simp only [Option.bind_some]
 have hc:=a9O s
 have hn:=a7h s
 cases hr:Sc.a0e s with
 | go x=>have:=(Sc.a2A s).1; rw [hr] at this; exact this.elim
 | err c a =>
  rw [hr] at hc
  rcases hc with ⟨h1,_⟩ | ⟨h1,_⟩
  ·exact absurd h1 ((Sc.a0R s).1.nz c a hr)
  ·rw [O5 h1,a6j]; rfl
 | done l0 =>
  rw [hr] at hn
  simp only [a3f,a2h] at hn ⊢
  rw [V5 (a:=0) rfl,Bool.not_true,cond_false,b1t (by omega),Option.bind_some]
  cases ho:a0T 0 (l0.map a0V) with
  | false =>
   obtain ⟨t,e⟩:=b1Z (by omega) ho
   have e2:a2y (l0.map a0V) = ([],4):=by unfold a2y; rw [ho]; rfl
   rw [e,e2,a6j]
   simp only [Option.bind_some]
   rw [Bool.not_false,cond_true,V5 (a:=4) (b:=4) rfl,cond_true,a1V]
   rfl
  | true =>
   have h8:=a8o ho
   rw [Jn_cv] at h8
   obtain ⟨m,g1,g2⟩:=Sc.respell hr h8
   rw [<- Jn_cv] at g1
   have hkt:kt (l0.map a0V) = kt (m.map a0V):=by rw [kt_cv,kt_cv,g2]
   have hml:(m.map a0V).length <= 3000:=by rw [<- b0l hkt]; exact hn
   have e2:a2y (l0.map a0V) = (Jn (l0.map a0V),0):=by
    unfold a2y
    rw [ho,g1]
    simp only [a2h,a3f,hkt,decide_true,Bool.and_self]
   have e3:a2y (m.map a0V) = (Jn (l0.map a0V),0):=by
    unfold a2y
    rw [<- b1m 0 hkt,ho,<- Jn_kt hkt,g1]
    simp only [a2h,a3f,decide_true,Bool.and_self]
   rw [b2a (by omega) ho,e2]
   simp only [Option.bind_some,Bool.not_true,cond_false]
   rw [g1]
   simp only [a3f,a2h]
   rw [b1t (by omega),e3]
   simp only [Option.bind_some]
   rw [V5 (a:=0) rfl,a1V,eqTokens (by omega),decide_eq_true hkt,a6j]
   rfl
end Go.Proofs.YtlhgheonlcjpaaaGreat
namespace Go.Proofs.YtlhgheonlcjpaaaGreat
open Go Go.Vm
def T:List (Nat × Ty):=[
 (3,⟨.int .i64,1,8,[.i 0]⟩),
 (4,⟨.bool,1,1,[.bool false]⟩),
 (5,⟨.int .u8,1,1,[.int .u8 0]⟩),
 (9,⟨.string,1,16,[.str []]⟩),
 (22,⟨.int .i64,1,8,[.i 0]⟩),
 (27,⟨.slice 29,1,24,[.slice .nil 0 []]⟩),
 (29,⟨.struct [(3,0),(9,1),(3,2),(3,3)],4,40,[.i 0,.str [],.i 0,.i 0]⟩),
 (33,⟨.struct [(22,0),(3,1)],2,16,[.i 0,.i 0]⟩),
 (40,⟨.slice 9,1,24,[.slice .nil 0 []]⟩),
 (51,⟨.slice 5,1,24,[.slice .nil 0 []]⟩)]
def keep:Nat -> Nat -> List Nat
 | 4,3=>[0,3,4]
 | 4,100009=>[0]
 | 4,130007=>[0,3,4,27]
 | 11,6=>[0,4,5,20,21,22]
 | 11,21=>[0,9,61,62,63]
 | 11,100017=>[0,4]
 | 11,100027=>[9]
 | 11,130020=>[0,9,10,60]
 | 11,130025=>[0,9,61,62,63,85]
 | 12,130007=>[4,28]
 | 14,3=>[0,4,5]
 | 14,100008=>[0,4,5]
 | 14,100011=>[4]
 | 14,130009=>[0,4,5,27]
 | 15,4=>[0,1,2,7]
 | 15,100009=>[]
 | 15,130008=>[0,1,2,7,71]
 | 17,3=>[0,3,4]
 | 17,100005=>[0,3,4]
 | 17,100015=>[3]
 | 17,130014=>[0,3,4,30]
 | _,_=>[]
def cut:Nat -> Nat -> Bool
 | 4,9=>true
 | 4,30007=>true
 | 11,17=>true
 | 11,27=>true
 | 11,30020=>true
 | 11,30025=>true
 | 12,30007=>true
 | 14,8=>true
 | 14,11=>true
 | 14,30009=>true
 | 15,9=>true
 | 15,30008=>true
 | 17,5=>true
 | 17,15=>true
 | 17,30014=>true
 | _,_=>false
def moreL:List Nat:=[]
def tagc:Nat -> Nat -> Bool
 | f,_=>has f moreL
def a2E:Nat -> Nat -> Bool
 | f,_=>has f moreL
def slk:Nat -> Nat -> List (Nat × Nat)
 | _,_=>[]
def sep:Nat -> Nat -> Option (List Nat × List Nat)
 | _,_=>none
def mask:Nat -> Nat -> List Nat
 | _,_=>[]
def okL:List Nat:=[4,5,10,11,12,14,15,17,19,22]
def lookL:List Nat:=[]
def a6S:List Nat:=[4,5,10,11,12,13,14,15,16,17,18,19,20,22]
def frzL:List Nat:=[]
def tagL:List Nat:=[] ++ moreL
def argL:List Nat:=[] ++ moreL
theorem tys:tysB Tryz.prog T = true:=by kernel_rfl
theorem mixed:Tryz.prog.follows .mixedOrders = true:=by kernel_rfl
end Go.Proofs.YtlhgheonlcjpaaaGreat
namespace Go.Proofs
open Go.Shelf
def Tryz.a5z:Go.Shelf.Ren:=⟨fun | 156=>20 | 165=>29 | 166=>30 | 169=>31 | 240=>55 | 241=>56 | 276=>69 | 277=>70 | n=>n,fun | 31=>40 | 9=>9 | 3=>3 | 4=>4 | 0=>0 | 20=>20 | 72=>63 | 76=>67 | 70=>61 | 37=>51 | 75=>66 | 127=>93 | 164=>104 | 5=>5 | 80=>69 | n=>n,fun | n=>n⟩
theorem Tryz.b1g:Go.Proofs.Lays.n156 Tryz.prog Tryz.a5z:={
 mixed:=by kernel_rfl
 f156:=Tryz.func20.trans (congrArg some (by kernel_rfl))
 f165:=Tryz.func29.trans (congrArg some (by kernel_rfl))
 f166:=Tryz.func30.trans (congrArg some (by kernel_rfl))
 f169:=Tryz.func31.trans (congrArg some (by kernel_rfl))
 f240:=Tryz.func55.trans (congrArg some (by kernel_rfl))
 f241:=Tryz.func56.trans (congrArg some (by kernel_rfl))
 f276:=Tryz.func69.trans (congrArg some (by kernel_rfl))
 f277:=Tryz.func70.trans (congrArg some (by kernel_rfl))
 t0:=Tryz.underlying0
 a0:=Tryz.isAgg0
 z0:=Tryz.sizeOf0
 v0:=Tryz.zeroValue0
 t3:=Tryz.underlying3
 a3:=Tryz.isAgg3
 z3:=Tryz.sizeOf3
 v3:=Tryz.zeroValue3
 t4:=Tryz.underlying4
 a4:=Tryz.isAgg4
 z4:=Tryz.sizeOf4
 v4:=Tryz.zeroValue4
 t9:=Tryz.underlying9
 a9:=Tryz.isAgg9
 z9:=Tryz.sizeOf9
 v9:=Tryz.zeroValue9
 t20:=Tryz.underlying20
 a20:=Tryz.isAgg20
 z20:=Tryz.sizeOf20
 v20:=Tryz.zeroValue20
 t31:=Tryz.underlying40
 a31:=Tryz.isAgg40
 z31:=Tryz.sizeOf40
 v31:=Tryz.zeroValue40
 t37:=Tryz.underlying51
 a37:=Tryz.isAgg51
 z37:=Tryz.sizeOf51
 v37:=Tryz.zeroValue51
 t70:=Tryz.underlying61
 a70:=Tryz.isAgg61
 z70:=Tryz.sizeOf61
 v70:=Tryz.zeroValue61
 t72:=Tryz.underlying63
 a72:=Tryz.isAgg63
 z72:=Tryz.sizeOf63
 v72:=Tryz.zeroValue63
 t75:=Tryz.underlying66
 a75:=Tryz.isAgg66
 z75:=Tryz.sizeOf66
 v75:=Tryz.zeroValue66
 t76:=Tryz.underlying67
 a76:=Tryz.isAgg67
 z76:=Tryz.sizeOf67
 v76:=Tryz.zeroValue67
 t127:=Tryz.underlying93
 a127:=Tryz.isAgg93
 z127:=Tryz.sizeOf93
 v127:=Tryz.zeroValue93
 t164:=Tryz.underlying104
 a164:=Tryz.isAgg104
 z164:=Tryz.sizeOf104
 v164:=Tryz.zeroValue104 }
theorem Tryz.a1z:Builder.Extra Tryz.prog Tryz.a5z:={
 sizeBuilder:=by kernel_rfl
 liesBuilder:=by kernel_rfl
 t5:=Tryz.underlying5
 a5:=Tryz.isAgg5
 z5:=Tryz.sizeOf5
 v5:=Tryz.zeroValue5
 infoByte:=by kernel_rfl
 cellsByte:=by kernel_rfl
 sizeByte:=by kernel_rfl
 neB5:=by decide }
open Go.RowKit in
theorem Tryz.strings_Join_none (a:Option Addr) (c:Nat) (sep:ByteArray) (w:World) :
  Calls Tryz.prog 20 #[.slice a 0 c,.string sep] w fun e w'=>e = .returned (.string ⟨#[]⟩) /\ w' = w:=Any.strings_Join_none Tryz.b1g Tryz.a1z a c sep w
open Go.RowKit in
theorem Tryz.strings_Join (bk o c:Nat) (xs:List ByteArray) (sep:ByteArray) (w:World) (hcells:∀ (j:Nat) x,xs[j]? = some x -> w.cell? ⟨bk,o + j,none⟩ = some (.string x)) (hbk:bk < w.heap.size) (hN:xs.length <= 140737488355328) (hcap:xs.length <= c) (hlen:(Lib.join (xs.map (·.data.toList)) sep.data.toList).length <= 140737488355328) :
  Calls Tryz.prog 20 #[.slice (some ⟨bk,o,none⟩) xs.length c,.string sep] w fun e w'=>e = .returned (.string ⟨(Lib.join (xs.map (·.data.toList)) sep.data.toList).toArray⟩) /\ Below w.heap.size w w':=Any.strings_Join Tryz.b1g Tryz.a1z bk o c xs sep w hcells hbk hN hcap hlen
end Go.Proofs
namespace Go.Proofs.YtlhgheonlcjpaaaGreat
open Go Go.Vm
def strsOf:List V -> Option (List (List UInt8))
 | []=>some []
 | .str s :: r=>match strsOf r with
  | some l=>some (s :: l)
  | none=>none
 | _=>none
def a9q:List V -> Hp -> Option Out:=fun args H=>match args with
 | [.slice _ n cs,.str sep]=>match strsOf cs with
  | some l=>gd (eqN l.length n && leN n 140737488355328 && leN (Lib.join l sep).length 140737488355328) (some (.ret (.str (Lib.join l sep)) H))
  | none=>none
 | _=>none
theorem a7d:∀ {cs:List V} {l:List (List UInt8)},strsOf cs = some l -> cs = l.map .str
 | [],l,h=>by cases h; rfl
 | c :: r,l,h=>by
  cases c with
  | str s =>
   simp only [strsOf] at h
   split at h
   ·rename_i l' hl
    cases h
    rw [a7d hl]; rfl
   ·cases h
  | _=>cases h
theorem a9Z {w w':World} (h:RowKit.Below w.heap.size w w'):K8 w w':=⟨h.size,h.os,h.tape,h.output,fun b hb=>h.block b hb⟩
theorem join_ok:a3P Tryz.prog 20 a9q:=by
 refine ⟨fun args H out h ρ lab w xs hc hS hx=>?_,⟨_,_,Tryz.func20,rfl,rfl⟩⟩
 unfold a9q at h
 split at h
 ·rename_i ow n cs sep
  split at h
  ·rename_i l hl
   obtain ⟨h1,h2⟩:=y9 h
   cases h2
   simp only [Bool.and_eq_true] at h1
   obtain ⟨⟨h1,h2⟩,h3⟩:=h1
   have h1:=a3l h1
   have h2:=a0s h2
   have h3:=a0s h3
   obtain ⟨x1,r1,rfl,a1,a2⟩:=o8.1 hx
   obtain ⟨x2,r2,rfl,a3,a4⟩:=o8.1 a2
   have:r2 = []:=by have:=a4.1; simpa using this
   subst this
   cases a3
   have hcs:=a7d hl
   cases a1 with
   | slice _ _ _ xs b o ao cap g1 g2 g3 g4 g5 g6 g7 g8 g9 =>
   rcases Nat.eq_zero_or_pos n with h0 | h0
   ·subst h0
    have:l = []:=List.length_eq_zero_iff.1 h1
    subst this
    refine (Tryz.strings_Join_none ao cap ⟨⟨sep⟩⟩ w).mono fun e w' ⟨he,hw⟩=>?_
    subst he; subst hw
    exact ⟨ρ,lab,hS,Ext.refl _ _,⟨fun _ _ _ h=>h,fun _ _ _ _ h=>h⟩,.str _,hc,Nat.le_refl _⟩
   ·have hao:=g3 h0
    subst hao
    have hget:∀ (j:Nat) (x:ByteArray),(l.map (fun s=>(⟨⟨s⟩⟩:ByteArray)))[j]? = some x -> cellAt w b (o + j) = some (.string x):=by
     intro j x hj
     rw [List.getElem?_map] at hj
     cases hq:l[j]? with
     | none=>rw [hq] at hj; cases hj
     | some s =>
      rw [hq] at hj
      cases hj
      have hcj:cs[j]? = some (.str s):=by rw [hcs,List.getElem?_map,hq]; rfl
      have hj2:j < xs.length:=by
       rw [g1]
       rcases Nat.lt_or_ge j cs.length with h | h
       ·exact h
       ·rw [List.getElem?_eq_none h] at hcj; cases hcj
      have hxj:xs[j]? = some xs[j]:=by simp [hj2]
      have hr:=g6 j _ _ hcj hxj
      have hf:=(g5 j _ hxj).cell
      generalize xs[j] = z at hr hf
      cases hr
      exact hf
    have hlen:(l.map (fun s=>(⟨⟨s⟩⟩:ByteArray))).length = n:=by rw [List.length_map]; exact h1
    have hmap:(l.map (fun s=>(⟨⟨s⟩⟩:ByteArray))).map (·.data.toList) = l:=by rw [List.map_map]; exact List.map_id l
    have hb:b < w.heap.size:=by
     have hj2:0 < (l.map (fun s=>(⟨⟨s⟩⟩:ByteArray))).length:=by omega
     exact N9 (hget 0 _ (List.getElem?_eq_getElem hj2))
    have K:=Tryz.strings_Join b o cap (l.map (fun s=>(⟨⟨s⟩⟩:ByteArray))) ⟨⟨sep⟩⟩ w hget hb (by omega) (by omega) (by rw [hmap]; exact h3)
    rw [hlen,hmap] at K
    refine K.mono fun e w' ⟨he,hw⟩=>?_
    subst he
    have G:=a9Z hw
    exact ⟨ρ,lab,hS.grew G,G.ext lab,⟨fun _ _ _ h=>h,fun _ _ _ _ h=>h⟩,.str _,hc,Nat.le_refl _⟩
  ·cases h
 ·cases h
end Go.Proofs.YtlhgheonlcjpaaaGreat
namespace Go.Proofs.YtlhgheonlcjpaaaGreat
open Go Go.Vm
noncomputable def a6u:Nat -> Option Hand
 | 13=>some (.plain (valI Sc.tokF))
 | 18=>some (.plain (valI Sc.tokF))
 | 16=>some (.plain (valI Rp.escF))
 | 20=>some (.plain a9q)
 | _=>none
noncomputable def env:Env:={ P:=Tryz.prog,T:=T,keep:=keep,byref:=fun _ _=>none,meth:=fun _ _=>none,tags:=fun g=>has g tagL,argTags:=fun g=>has g argL,quiet:=fun g=>has g a6S,loose:=fun _=>false,ok:=fun g=>has g okL,cut:=cut,tagc:=tagc,a2E:=a2E,sep:=sep,mask:=mask,look:=fun g=>has g lookL,frz:=fun g=>has g frzL,slk:=slk,full:=true,mk0:=true,intr:=a6u }
theorem codes:a6m env okL = true:=by kernel_rfl
theorem b0p:a2I env:=by
 intro _ _ _ h
 cases h
theorem a7x:a2H env:=⟨b0p,a4Q tys,mixed,a4Z (fun _ h=>h) codes,(fun g h hg=>by simp only [env,a6u] at hg; first | (cases hg; done) | (split at hg <;> first | (cases hg; done) | (cases hg; exact Sc.tok_intr) | (cases hg; exact Sc.b2h) | (cases hg; exact Rp.esc_intr) | (cases hg; exact join_ok))),(fun g pre post hg=>by simp only [env,a6u] at hg; first | (cases hg; done) | (split at hg <;> first | (cases hg; done)))⟩
end Go.Proofs.YtlhgheonlcjpaaaGreat
namespace Go.Proofs.YtlhgheonlcjpaaaGreat
open Go Go.Vm
theorem a8f:∀ l:List Str,strsOf (clS l) = some l
 | []=>rfl
 | s :: r=>by
  show (match strsOf (clS r) with | some l=>some (s :: l) | none=>none) = _
  rw [a8f r]
theorem joinI_at {a:List Str} {b:Str} (h:(leN a.length 140737488355328 && leN (Lib.join a b).length 140737488355328) = true):a9q [.slice .sealed (List.length a) (clS a),.str b] [] = some (.ret (.str (Lib.join a b)) []):=by
 rw [Bool.and_eq_true] at h
 have e:eqN a.length (List.length a) = true:=J7 rfl
 unfold a9q
 simp only [a8f,e,h.1,h.2,gd,Bool.and_self]
end Go.Proofs.YtlhgheonlcjpaaaGreat
namespace Go.Proofs.YtlhgheonlcjpaaaGreat
open Go Go.Vm
theorem a2x {a4L:Str} {l2:List Tok} {c3:Int} {a4:Int} (h:a04 a4L = some (l2,c3,a4)):E env (.call 13 [.str a4L]) [] = some (.ret (.tuple [.sl U2 l2,.agg [.i c3,.i a4]]) []):=by
 unfold a04 at h
 cases h
 exact tok_call rfl (Sc.a2A _).1
theorem joinG_ok {elems1:List Str} {sep2:Str} {rr:Str} (h:a9p elems1 sep2 = some rr):E env (.call 20 [.sl clS elems1,.str sep2]) [] = some (.ret (.str rr) []):=by
 unfold a9p at h
 split at h
 ·rename_i hs
  cases h
  exact a5R rfl (joinI_at hs)
 ·cases h
theorem a5U {s1:Str} {rr:Str} (h:escG s1 = some rr):E env (.call 16 [.str s1]) [] = some (.ret (.str rr) []):=by
 unfold escG at h
 split at h
 ·rename_i hs
  cases h
  exact a5R rfl (by simp only [valI,Rp.escF,hs])
 ·cases h
end Go.Proofs.YtlhgheonlcjpaaaGreat
namespace Go.Proofs.YtlhgheonlcjpaaaGreat
open Go Go.Vm
theorem a1f {r:Bool} (h:X6 = some r) :
  E env (.call 10 []) [] = some (a5M r):=by
 unfold X6 at h
 refine a0K rfl Tryz.func10 rfl rfl ?_
 refine eSG (oB 1 rfl (eSG ?_))
 obtain ⟨⟨l1,c2,a3⟩,g1,h⟩:=o7 h
 refine o5 rfl rfl rfl rfl rfl (a2x g1) rfl ?_
 refine oB 6 rfl (eSG (oA 1 rfl ?_))
 refine oD ?_
 refine oA 2 rfl ?_
 refine l5 rfl rfl rfl (fun g2=>?_) (fun g2=>?_)
 ·replace h:=V9 h g2
  refine oA 5 rfl ?_
  refine l5 rfl rfl rfl (fun g3=>?_) (fun g3=>?_)
  ·replace h:=V9 h g3
   refine oA 1 rfl ?_
   obtain ⟨x4,g4,h⟩:=o7 h
   refine Z4 W9 g4 rfl rfl rfl rfl rfl rfl rfl rfl ?_
   refine a2X (c:=[.i x4.kind,.str x4.text,.i x4.at_,.i x4.len]) rfl rfl rfl rfl rfl rfl rfl ?_
   refine oD ?_
   refine oA 3 rfl ?_
   refine l5 rfl rfl rfl (fun g5=>?_) (fun g5=>?_)
   ·replace h:=V9 h g5
    refine oA 1 rfl ?_
    obtain ⟨x5,g6,h⟩:=o7 h
    refine Z4 W9 g6 rfl rfl rfl rfl rfl rfl rfl rfl ?_
    refine a2X (c:=[.i x5.kind,.str x5.text,.i x5.at_,.i x5.len]) rfl rfl rfl rfl rfl rfl rfl ?_
    refine oD ?_
    refine oB 3 rfl ?_
    cases h
    exact j5 ⟨_,_,_,rfl,rfl,rfl⟩
   ·replace h:=V8 h g5
    refine oB 7 rfl ?_
    cases h
    exact j5 ⟨_,_,_,rfl,rfl,rfl⟩
  ·replace h:=V8 h g3
   refine oB 14 rfl ?_
   cases h
   exact j5 ⟨_,_,_,rfl,rfl,rfl⟩
 ·replace h:=V8 h g2
  refine oB 19 rfl ?_
  cases h
  exact j5 ⟨_,_,_,rfl,rfl,rfl⟩
theorem a5P {t1:Tok} {r:Str} (h:a0v t1 = some r) :
  E env (.call 19 [.agg [.i t1.kind,.str t1.text,.i t1.at_,.i t1.len]]) [] = some (a5q t1 r):=by
 unfold a0v at h
 refine a0K rfl Tryz.func19 rfl rfl ?_
 refine eSG (oB 2 rfl (j4 (eSG (oB 2 rfl ?_))))
 refine o9 ?_
 refine eSG (oB 2 rfl ?_)
 refine eI rfl h (fun h=>?_) fun h=>?_
 ·refine eSG (oA 2 rfl ?_)
  obtain ⟨rr2,g2,h⟩:=o7 h
  refine o5 rfl rfl rfl rfl rfl (a5U g2) rfl ?_
  obtain ⟨s3,g3,h⟩:=o7 h
  refine V3 g3 rfl rfl rfl rfl ?_
  obtain ⟨s4,g4,h⟩:=o7 h
  refine V3 g4 rfl rfl rfl rfl ?_
  refine oB 1 rfl ?_
  cases h
  exact j5 ⟨_,_,_,rfl,rfl,rfl⟩
 ·refine eSG (oB 2 rfl ?_)
  refine eI rfl h (fun h=>?_) fun h=>?_
  ·refine eSG (oA 2 rfl ?_)
   obtain ⟨rr5,g6,h⟩:=o7 h
   refine o5 rfl rfl rfl rfl rfl (a5U g6) rfl ?_
   obtain ⟨s6,g7,h⟩:=o7 h
   refine V3 g7 rfl rfl rfl rfl ?_
   obtain ⟨s7,g8,h⟩:=o7 h
   refine V3 g8 rfl rfl rfl rfl ?_
   refine oB 1 rfl ?_
   cases h
   exact j5 ⟨_,_,_,rfl,rfl,rfl⟩
  ·refine eSG (oB 2 rfl ?_)
   refine eI rfl h (fun h=>?_) fun h=>?_
   ·refine eSG (oA 2 rfl ?_)
    obtain ⟨rr8,g10,h⟩:=o7 h
    refine o5 rfl rfl rfl rfl rfl (a5U g10) rfl ?_
    obtain ⟨s9,g11,h⟩:=o7 h
    refine V3 g11 rfl rfl rfl rfl ?_
    obtain ⟨s10,g12,h⟩:=o7 h
    refine V3 g12 rfl rfl rfl rfl ?_
    refine oB 1 rfl ?_
    cases h
    exact j5 ⟨_,_,_,rfl,rfl,rfl⟩
   ·refine eSG (oB 2 rfl ?_)
    refine eI rfl h (fun h=>?_) fun h=>?_
    ·refine eSG (oA 2 rfl ?_)
     obtain ⟨rr11,g14,h⟩:=o7 h
     refine o5 rfl rfl rfl rfl rfl (a5U g14) rfl ?_
     obtain ⟨s12,g15,h⟩:=o7 h
     refine V3 g15 rfl rfl rfl rfl ?_
     obtain ⟨s13,g16,h⟩:=o7 h
     refine V3 g16 rfl rfl rfl rfl ?_
     refine oB 1 rfl ?_
     cases h
     exact j5 ⟨_,_,_,rfl,rfl,rfl⟩
    ·refine j6 (eSG (oB 3 rfl ?_))
     cases h
     exact j5 ⟨_,_,_,rfl,rfl,rfl⟩
theorem a3M {n:Nat} {l1:List Tok} {r:Str × Int} (h:a0D n l1 = some r) :
  E env (.call 11 [.sl U2 l1]) [] = some (a1q l1 r):=by
 unfold a0D at h
 refine a0K rfl Tryz.func11 rfl rfl ?_
 refine eSG (oB 2 rfl (j4 (eSG (oB 3 rfl ?_))))
 refine eI rfl h (fun h=>?_) fun h=>?_
 ·refine eSG (oB 2 rfl ?_)
  cases h
  exact j5 ⟨_,_,_,rfl,rfl,rfl⟩
 ·refine j6 (eSG (oA 2 rfl ?_))
  obtain ⟨g2,h⟩:=gdO_inv h
  refine os_mk0 g2 rfl rfl rfl rfl rfl rfl rfl rfl rfl rfl rfl rfl rfl ?_
  refine oB 1 rfl (eSG (oB 1 rfl ?_))
  obtain ⟨y3,g4,h⟩:=a3i h
  refine a5V (KR:=fun r=>OutK env 11 0 Tryz.f11.results.toList (a1q l1 r)) y3 (fun z28=>[(0,.sl U2 l1),(4,.st 0 clS z28)]) (fun z28=>[(0,.tip 1 (List.length z28))]) rfl ?_ (fun z28 hx=>?_) (fun r res hz hr hn=>?_)
  ·replace h:=g4
   clear g4
   refine eSG (oB 3 rfl ?_)
   refine o9 ?_
   refine J8 rfl ?_
   revert y3
   refine a3r (fun m (x:List Str × Int × Int)=>N8 n l1 m x.1 x.2.1 x.2.2) (fun x=>[(0,.sl U2 l1),(4,.st 0 clS x.1),(5,.i x.2.1),(20,.sl U2 l1),(21,.i (List.length l1:Int)),(22,.i x.2.2)]) (fun x=>[(0,.tip 1 (List.length x.1))]) _ (fun _=>rfl) (fun m6 x y ih h=>?_) n (([]:List Str),0,0)
   obtain ⟨a6Q,a8U,x503⟩:=x
   rw [N8] at h
   refine eSG (oB 1 rfl (j4 ?_))
   refine eI rfl h (fun h=>?_) fun h=>?_
   ·refine j6 (j4 ?_)
    refine o9 ?_
    refine eSG ?_
    obtain ⟨x2,g6,h⟩:=o7 h
    refine Z4 W9 g6 rfl rfl rfl rfl rfl rfl rfl rfl ?_
    refine a2X (c:=[.i x2.kind,.str x2.text,.i x2.at_,.i x2.len]) rfl rfl rfl rfl rfl rfl rfl ?_
    refine oB 2 rfl (j4 (eSG (oB 4 rfl ?_)))
    refine eI rfl h (fun h=>?_) fun h=>?_
    ·refine eSG (oB 2 rfl ?_)
     cases h
     exact j5 ⟨_,rfl,_,_,_,rfl,rfl,rfl⟩
    ·refine j6 (eSG (oA 1 rfl ?_))
     obtain ⟨r3,g8,h⟩:=o7 h
     refine o5 rfl rfl rfl rfl rfl (a5P g8) rfl ?_
     refine oB 1 rfl (eSG (oB 6 rfl (j4 (eSG (oB 2 rfl ?_)))))
     refine eI rfl h (fun h=>?_) fun h=>?_
     ·refine eSG (oB 2 rfl ?_)
      cases h
      exact j5 ⟨_,rfl,_,_,_,rfl,rfl,rfl⟩
     ·refine j6 (j3 (oA 3 rfl ?_))
      obtain ⟨l4,g10,h⟩:=o7 h
      refine os_appK encS g10 rfl rfl rfl rfl rfl rfl rfl rfl rfl rfl rfl rfl rfl rfl (a02 (J7 rfl) rfl) rfl rfl rfl ?_
      refine oB 1 rfl (j3 (oB 2 rfl ?_))
      exact ⟨_,_,rfl,ih (_,_,_) _ h⟩
   ·refine G7 ?_
    cases h
    exact ⟨_,rfl,rfl⟩
  ·subst hx
   obtain ⟨a9E,rfl⟩:∃ q,q = z28:=⟨_,rfl⟩
   refine eSG (oA 1 rfl ?_)
   obtain ⟨rr5,g11,h⟩:=o7 h
   refine o5 rfl rfl rfl rfl rfl (joinG_ok g11) rfl ?_
   refine oB 1 rfl (eSG (oA 1 rfl ?_))
   obtain ⟨⟨l6,c7,a8⟩,g12,h⟩:=o7 h
   refine o5 rfl rfl rfl rfl rfl (a2x g12) rfl ?_
   refine oB 6 rfl (j4 ?_)
   obtain ⟨y13,g14,h⟩:=o7 h
   refine a2Q [(0,.sl U2 l1),(9,.str rr5),(10,.sl U2 l6),(60,.bool y13)] [] rfl ?_ ?_
   ·replace h:=g14
    clear g14
    refine j3 (oA 1 rfl ?_)
    refine oD ?_
    refine oA 2 rfl ?_
    refine l5 rfl rfl rfl (fun g15=>?_) (fun g15=>?_)
    ·replace h:=V9 h g15
     refine oB 6 rfl ?_
     cases h
     exact rfl
    ·replace h:=V8 h g15
     refine oB 6 rfl ?_
     cases h
     exact rfl
   ·obtain ⟨x504,rfl⟩:∃ q,q = y13:=⟨_,rfl⟩
    refine eI rfl h (fun h=>?_) fun h=>?_
    ·refine eSG (oB 2 rfl ?_)
     cases h
     exact j5 ⟨_,_,_,rfl,rfl,rfl⟩
    ·refine j6 ?_
     obtain ⟨y17,g18,h⟩:=a3i h
     refine a5V (KR:=fun r=>OutK env 11 0 Tryz.f11.results.toList (a1q l1 r)) y17 (fun z27=>[(9,.str rr5)]) (fun z27=>[]) rfl ?_ (fun z27 hx=>?_) (fun r res hz hr hn=>?_)
     ·replace h:=g18
      clear g18
      refine eSG (oB 3 rfl ?_)
      refine o9 ?_
      refine J8 rfl ?_
      revert y17
      refine a3r (fun m (x:Int)=>L9 n l1 l6 m x) (fun x=>[(0,.sl U2 l1),(9,.str rr5),(61,.sl U2 l6),(62,.i (List.length l6:Int)),(63,.i x)]) (fun x=>[]) _ (fun _=>rfl) (fun m21 x y ih h=>?_) n 0
      obtain ⟨x514,rfl⟩:∃ q,q = x:=⟨_,rfl⟩
      rw [L9] at h
      refine eSG (oB 1 rfl (j4 ?_))
      refine eI rfl h (fun h=>?_) fun h=>?_
      ·refine j6 (j4 ?_)
       refine o9 ?_
       refine eSG (oA 1 rfl ?_)
       obtain ⟨x9,g20,h⟩:=o7 h
       refine Z4 W9 g20 rfl rfl rfl rfl rfl rfl rfl rfl ?_
       refine a2X (c:=[.i x9.kind,.str x9.text,.i x9.at_,.i x9.len]) rfl rfl rfl rfl rfl rfl rfl ?_
       refine oB 3 rfl ?_
       obtain ⟨y21,g22,h⟩:=o7 h
       refine a2Q [(0,.sl U2 l1),(9,.str rr5),(61,.sl U2 l6),(62,.i (List.length l6:Int)),(63,.i x514),(85,.bool y21)] [] rfl ?_ ?_
       ·replace h:=g22
        clear g22
        refine j3 (oA 4 rfl ?_)
        obtain ⟨x10,g23,h⟩:=o7 h
        refine Z4 W9 g23 rfl rfl rfl rfl rfl rfl rfl rfl ?_
        refine oA 4 rfl ?_
        refine l5 rfl rfl rfl (fun g24=>?_) (fun g24=>?_)
        ·replace h:=V9 h g24
         refine oB 9 rfl ?_
         cases h
         exact rfl
        ·replace h:=V8 h g24
         refine oA 4 rfl ?_
         obtain ⟨x11,g25,h⟩:=o7 h
         refine Z4 W9 g25 rfl rfl rfl rfl rfl rfl rfl rfl ?_
         refine oB 4 rfl ?_
         cases h
         exact rfl
       ·obtain ⟨x523,rfl⟩:∃ q,q = y21:=⟨_,rfl⟩
        refine eI rfl h (fun h=>?_) fun h=>?_
        ·refine eSG (oB 2 rfl ?_)
         cases h
         exact j5 ⟨_,rfl,_,_,_,rfl,rfl,rfl⟩
        ·refine j6 (j3 (oB 2 rfl ?_))
         exact ⟨_,_,rfl,ih _ _ h⟩
      ·refine G7 ?_
       cases h
       exact ⟨_,rfl,rfl⟩
     ·subst hx
      refine eSG (oB 3 rfl ?_)
      cases h
      exact j5 ⟨_,_,_,rfl,rfl,rfl⟩
     ·subst hz
      rcases res with ⟨_ | _ | _ | _,_,_⟩ <;> first | exact absurd rfl hn | exact hr.elim | (cases h; exact hr)
  ·subst hz
   rcases res with ⟨_ | _ | _ | _,_,_⟩ <;> first | exact absurd rfl hn | exact hr.elim | (cases h; exact hr)
theorem Y5 {n:Nat} {s1:Str} {r:Str} (h:K9 n s1 = some r) :
  E env (.call 17 [.str s1]) [] = some (a4D s1 r):=by
 unfold K9 at h
 refine a0K rfl Tryz.func17 rfl rfl ?_
 refine eSG (oB 1 rfl (eSG (oB 1 rfl ?_)))
 obtain ⟨y1,g2,h⟩:=o7 h
 refine a2Q [(3,.slice (.tag 0) (List.length y1) ((clI .u8) y1))] [(0,.tip (tpe 1 (List.length y1)) (List.length y1))] rfl ?_ ?_
 ·replace h:=g2
  clear g2
  refine eSG (oB 1 rfl ?_)
  refine o9 ?_
  refine J8 rfl ?_
  revert y1
  refine a3r (fun m (x:List Int × Int)=>O0 n s1 m x.1 x.2) (fun x=>[(0,.str s1),(3,.slice (.tag 0) (List.length x.1) ((clI .u8) x.1)),(4,.i x.2)]) (fun x=>[(0,.tip (tpe 1 (List.length x.1)) (List.length x.1))]) _ (fun _=>rfl) (fun m3 x y ih h=>?_) n (([]:List Int),0)
  obtain ⟨b503,i504⟩:=x
  rw [O0] at h
  refine j4 (eSG (oB 4 rfl ?_))
  refine eI rfl h (fun h=>?_) fun h=>?_
  ·refine j6 ?_
   obtain ⟨y4,g5,h⟩:=o7 h
   refine a2Q [(0,.str s1),(3,.slice (.tag 0) (List.length y4) ((clI .u8) y4)),(4,.i i504)] [(0,.tip (tpe 1 (List.length y4)) (List.length y4))] rfl ?_ ?_
   ·replace h:=g5
    clear g5
    refine o9 ?_
    refine eSG (oA 2 rfl ?_)
    obtain ⟨b2,g6,h⟩:=o7 h
    refine a8L g6 rfl rfl rfl rfl rfl rfl ?_
    refine o6 ?_
    refine o9 ?_
    refine eSG (oB 2 rfl ?_)
    refine eI rfl h (fun h=>?_) fun h=>?_
    ·refine j3 (oA 2 rfl ?_)
     obtain ⟨l3,g8,h⟩:=o7 h
     refine a8K (encI .u8) g8 rfl rfl rfl rfl rfl rfl rfl rfl rfl rfl rfl rfl rfl rfl (a02 (J7 rfl) rfl) rfl rfl rfl ?_
     refine oB 1 rfl ?_
     cases h
     exact rfl
    ·refine eSG (oB 2 rfl ?_)
     refine eI rfl h (fun h=>?_) fun h=>?_
     ·refine j3 (oA 2 rfl ?_)
      obtain ⟨l4,g10,h⟩:=o7 h
      refine a8K (encI .u8) g10 rfl rfl rfl rfl rfl rfl rfl rfl rfl rfl rfl rfl rfl rfl (a02 (J7 rfl) rfl) rfl rfl rfl ?_
      refine oB 1 rfl ?_
      cases h
      exact rfl
     ·obtain ⟨y11,g12,h⟩:=o7 h
      refine a2Q [(0,.str s1),(3,.slice (.tag 0) (List.length b503) ((clI .u8) b503)),(4,.i i504),(30,.bool y11)] [(0,.tip (tpe 1 (List.length b503)) (List.length b503))] rfl ?_ ?_
      ·replace h:=g12
       clear g12
       refine eSG (oB 2 rfl ?_)
       refine eI rfl h (fun h=>?_) fun h=>?_
       ·refine j6 ?_
        cases h
        exact rfl
       ·refine j3 (oB 2 rfl ?_)
        cases h
        exact rfl
      ·obtain ⟨x507,rfl⟩:∃ q,q = y11:=⟨_,rfl⟩
       refine eI rfl h (fun h=>?_) fun h=>?_
       ·refine j3 (oA 3 rfl ?_)
        obtain ⟨b5,g15,h⟩:=o7 h
        refine a8L g15 rfl rfl rfl rfl rfl rfl ?_
        refine oA 1 rfl ?_
        obtain ⟨l6,g16,h⟩:=o7 h
        refine a8K (encI .u8) g16 rfl rfl rfl rfl rfl rfl rfl rfl rfl rfl rfl rfl rfl rfl (a02 (J7 rfl) rfl) rfl rfl rfl ?_
        refine oB 1 rfl ?_
        cases h
        exact rfl
       ·refine j3 (oA 3 rfl ?_)
        obtain ⟨b7,g17,h⟩:=o7 h
        refine a8L g17 rfl rfl rfl rfl rfl rfl ?_
        refine oA 1 rfl ?_
        obtain ⟨l8,g18,h⟩:=o7 h
        refine a8K (encI .u8) g18 rfl rfl rfl rfl rfl rfl rfl rfl rfl rfl rfl rfl rfl rfl (a02 (J7 rfl) rfl) rfl rfl rfl ?_
        refine oB 1 rfl ?_
        cases h
        exact rfl
   ·obtain ⟨b508,rfl⟩:∃ q,q = y4:=⟨_,rfl⟩
    refine j3 (oB 3 rfl ?_)
    exact ⟨_,_,rfl,ih (_,_) _ h⟩
  ·refine G7 ?_
   cases h
   exact rfl
 ·obtain ⟨b511,rfl⟩:∃ q,q = y1:=⟨_,rfl⟩
  refine eSG (oA 1 rfl ?_)
  refine os_toStr rfl rfl rfl rfl rfl rfl rfl rfl rfl ?_
  refine oB 1 rfl ?_
  cases h
  exact j5 ⟨_,_,_,rfl,rfl,rfl⟩
theorem a5n {n:Nat} {t1:Tok} {r:Str} (h:a0b n t1 = some r) :
  E env (.call 22 [.agg [.i t1.kind,.str t1.text,.i t1.at_,.i t1.len]]) [] = some (a4E t1 r):=by
 unfold a0b at h
 refine a0K rfl Tryz.func22 rfl rfl ?_
 refine eSG (oB 2 rfl (j4 (eSG (oB 2 rfl ?_))))
 refine o9 ?_
 refine eSG (oB 2 rfl ?_)
 refine eI rfl h (fun h=>?_) fun h=>?_
 ·refine eSG (oA 2 rfl ?_)
  obtain ⟨r2,g2,h⟩:=o7 h
  refine o5 rfl rfl rfl rfl rfl (Y5 g2) rfl ?_
  obtain ⟨s3,g3,h⟩:=o7 h
  refine V3 g3 rfl rfl rfl rfl ?_
  obtain ⟨s4,g4,h⟩:=o7 h
  refine V3 g4 rfl rfl rfl rfl ?_
  refine oB 1 rfl ?_
  cases h
  exact j5 ⟨_,_,_,rfl,rfl,rfl⟩
 ·refine eSG (oB 2 rfl ?_)
  refine eI rfl h (fun h=>?_) fun h=>?_
  ·refine eSG (oA 2 rfl ?_)
   obtain ⟨r5,g6,h⟩:=o7 h
   refine o5 rfl rfl rfl rfl rfl (Y5 g6) rfl ?_
   obtain ⟨s6,g7,h⟩:=o7 h
   refine V3 g7 rfl rfl rfl rfl ?_
   obtain ⟨s7,g8,h⟩:=o7 h
   refine V3 g8 rfl rfl rfl rfl ?_
   refine oB 1 rfl ?_
   cases h
   exact j5 ⟨_,_,_,rfl,rfl,rfl⟩
  ·refine eSG (oB 2 rfl ?_)
   refine eI rfl h (fun h=>?_) fun h=>?_
   ·refine eSG (oA 2 rfl ?_)
    obtain ⟨r8,g10,h⟩:=o7 h
    refine o5 rfl rfl rfl rfl rfl (Y5 g10) rfl ?_
    obtain ⟨s9,g11,h⟩:=o7 h
    refine V3 g11 rfl rfl rfl rfl ?_
    obtain ⟨s10,g12,h⟩:=o7 h
    refine V3 g12 rfl rfl rfl rfl ?_
    refine oB 1 rfl ?_
    cases h
    exact j5 ⟨_,_,_,rfl,rfl,rfl⟩
   ·refine eSG (oB 2 rfl ?_)
    refine eI rfl h (fun h=>?_) fun h=>?_
    ·refine eSG (oA 2 rfl ?_)
     obtain ⟨r11,g14,h⟩:=o7 h
     refine o5 rfl rfl rfl rfl rfl (Y5 g14) rfl ?_
     obtain ⟨s12,g15,h⟩:=o7 h
     refine V3 g15 rfl rfl rfl rfl ?_
     obtain ⟨s13,g16,h⟩:=o7 h
     refine V3 g16 rfl rfl rfl rfl ?_
     refine oB 1 rfl ?_
     cases h
     exact j5 ⟨_,_,_,rfl,rfl,rfl⟩
    ·refine j6 (eSG (oB 3 rfl ?_))
     cases h
     exact j5 ⟨_,_,_,rfl,rfl,rfl⟩
theorem a5m {n:Nat} {l1:List Tok} {r:Str × Bool} (h:Q7 n l1 = some r) :
  E env (.call 14 [.sl U2 l1]) [] = some (a1I l1 r):=by
 unfold Q7 at h
 refine a0K rfl Tryz.func14 rfl rfl ?_
 refine eSG (oB 2 rfl (eSG (oB 1 rfl ?_)))
 obtain ⟨y1,g2,h⟩:=a3i h
 refine a5V (KR:=fun r=>OutK env 14 0 Tryz.f14.results.toList (a1I l1 r)) y1 (fun z16=>[(4,.str z16)]) (fun z16=>[]) rfl ?_ (fun z16 hx=>?_) (fun r res hz hr hn=>?_)
 ·replace h:=g2
  clear g2
  refine eSG (oB 1 rfl ?_)
  refine o9 ?_
  refine J8 rfl ?_
  revert y1
  refine a3r (fun m (x:Str × Int)=>C8 n l1 m x.1 x.2) (fun x=>[(0,.sl U2 l1),(4,.str x.1),(5,.i x.2)]) (fun x=>[]) _ (fun _=>rfl) (fun m3 x y ih h=>?_) n ([],0)
  obtain ⟨s504,i505⟩:=x
  rw [C8] at h
  refine j4 (eSG (oB 4 rfl ?_))
  refine eI rfl h (fun h=>?_) fun h=>?_
  ·refine j6 (j4 ?_)
   refine o9 ?_
   obtain ⟨y4,g5,h⟩:=o7 h
   refine a2Q [(0,.sl U2 l1),(4,.str y4),(5,.i i505)] [] rfl ?_ ?_
   ·replace h:=g5
    clear g5
    refine eSG (oB 2 rfl ?_)
    refine eI rfl h (fun h=>?_) fun h=>?_
    ·refine j3 (oA 1 rfl ?_)
     obtain ⟨s2,g7,h⟩:=o7 h
     refine V3 g7 rfl rfl rfl rfl ?_
     refine oB 1 rfl ?_
     cases h
     exact rfl
    ·refine j6 ?_
     cases h
     exact rfl
   ·obtain ⟨s509,rfl⟩:∃ q,q = y4:=⟨_,rfl⟩
    refine j4 ?_
    obtain ⟨y8,g9,h⟩:=o7 h
    refine a2Q [(0,.sl U2 l1),(4,.str s509),(5,.i i505),(27,.bool y8)] [] rfl ?_ ?_
    ·replace h:=g9
     clear g9
     refine j3 (oA 2 rfl ?_)
     obtain ⟨x3,g10,h⟩:=o7 h
     refine Z4 W9 g10 rfl rfl rfl rfl rfl rfl rfl rfl ?_
     refine oA 5 rfl ?_
     refine l5 rfl rfl rfl (fun g11=>?_) (fun g11=>?_)
     ·replace h:=V9 h g11
      refine oB 4 rfl ?_
      cases h
      exact rfl
     ·replace h:=V8 h g11
      refine oB 4 rfl ?_
      cases h
      exact rfl
    ·obtain ⟨x510,rfl⟩:∃ q,q = y8:=⟨_,rfl⟩
     refine eI rfl h (fun h=>?_) fun h=>?_
     ·refine eSG (oB 2 rfl ?_)
      cases h
      exact j5 ⟨_,rfl,_,_,_,rfl,rfl,rfl⟩
     ·refine j6 (j3 (oA 3 rfl ?_))
      obtain ⟨x4,g13,h⟩:=o7 h
      refine Z4 W9 g13 rfl rfl rfl rfl rfl rfl rfl rfl ?_
      refine a2X (c:=[.i x4.kind,.str x4.text,.i x4.at_,.i x4.len]) rfl rfl rfl rfl rfl rfl rfl ?_
      obtain ⟨r5,g14,h⟩:=o7 h
      refine o5 rfl rfl rfl rfl rfl (a5n g14) rfl ?_
      obtain ⟨s6,g15,h⟩:=o7 h
      refine V3 g15 rfl rfl rfl rfl ?_
      refine oB 1 rfl (j3 (oB 3 rfl ?_))
      exact ⟨_,_,rfl,ih (_,_) _ h⟩
  ·refine G7 ?_
   cases h
   exact ⟨_,rfl,rfl⟩
 ·subst hx
  obtain ⟨s513,rfl⟩:∃ q,q = z16:=⟨_,rfl⟩
  refine eSG (oB 6 rfl ?_)
  cases h
  exact j5 ⟨_,_,_,rfl,rfl,rfl⟩
 ·subst hz
  rcases res with ⟨_ | _ | _ | _,_,_⟩ <;> first | exact absurd rfl hn | exact hr.elim | (cases h; exact hr)
theorem a4C {n:Nat} {a1:List Tok} {b2:List Tok} {places3:Bool} {r:Bool} (h:X9 n a1 b2 places3 = some r) :
  E env (.call 15 [.sl U2 a1,.sl U2 b2,.bool places3]) [] = some (a1m a1 b2 places3 r):=by
 unfold X9 at h
 refine a0K rfl Tryz.func15 rfl rfl ?_
 refine eSG (oB 1 rfl (j4 (eSG (oB 5 rfl ?_))))
 refine eI rfl h (fun h=>?_) fun h=>?_
 ·refine eSG (oB 1 rfl ?_)
  cases h
  exact j5 ⟨_,_,_,rfl,rfl,rfl⟩
 ·refine j6 ?_
  obtain ⟨y2,g3,h⟩:=a3i h
  refine a5V (KR:=fun r=>OutK env 15 0 Tryz.f15.results.toList (a1m a1 b2 places3 r)) y2 (fun z20=>[]) (fun z20=>[]) rfl ?_ (fun z20 hx=>?_) (fun r res hz hr hn=>?_)
  ·replace h:=g3
   clear g3
   refine eSG (oB 1 rfl ?_)
   refine o9 ?_
   refine J8 rfl ?_
   revert y2
   refine a3r (fun m (x:Int)=>I7 n a1 b2 places3 m x) (fun x=>[(0,.sl U2 a1),(1,.sl U2 b2),(2,.bool places3),(7,.i x)]) (fun x=>[]) _ (fun _=>rfl) (fun m4 x y ih h=>?_) n 0
   obtain ⟨a5L,rfl⟩:∃ q,q = x:=⟨_,rfl⟩
   rw [I7] at h
   refine j4 (eSG (oB 4 rfl ?_))
   refine eI rfl h (fun h=>?_) fun h=>?_
   ·refine j6 (j4 ?_)
    refine o9 ?_
    obtain ⟨y5,g6,h⟩:=o7 h
    refine a2Q [(0,.sl U2 a1),(1,.sl U2 b2),(2,.bool places3),(7,.i a5L),(71,.bool y5)] [] rfl ?_ ?_
    ·replace h:=g6
     clear g6
     refine j3 (oA 2 rfl ?_)
     obtain ⟨x4,g7,h⟩:=o7 h
     refine Z4 W9 g7 rfl rfl rfl rfl rfl rfl rfl rfl ?_
     refine oA 4 rfl ?_
     obtain ⟨x5,g8,h⟩:=o7 h
     refine Z4 W9 g8 rfl rfl rfl rfl rfl rfl rfl rfl ?_
     refine oA 4 rfl ?_
     refine l5 rfl rfl rfl (fun g9=>?_) (fun g9=>?_)
     ·replace h:=V9 h g9
      refine oB 41 rfl ?_
      cases h
      exact rfl
     ·replace h:=V8 h g9
      refine oA 2 rfl ?_
      obtain ⟨x6,g10,h⟩:=o7 h
      refine Z4 W9 g10 rfl rfl rfl rfl rfl rfl rfl rfl ?_
      refine oA 4 rfl ?_
      obtain ⟨x7,g11,h⟩:=o7 h
      refine Z4 W9 g11 rfl rfl rfl rfl rfl rfl rfl rfl ?_
      refine oA 5 rfl ?_
      refine l5 rfl rfl rfl (fun g12=>?_) (fun g12=>?_)
      ·replace h:=V9 h g12
       refine oB 28 rfl ?_
       cases h
       exact rfl
      ·replace h:=V8 h g12
       refine oA 2 rfl ?_
       refine l5 rfl rfl rfl (fun g13=>?_) (fun g13=>?_)
       ·replace h:=V9 h g13
        refine oA 2 rfl ?_
        obtain ⟨x8,g14,h⟩:=o7 h
        refine Z4 W9 g14 rfl rfl rfl rfl rfl rfl rfl rfl ?_
        refine oA 4 rfl ?_
        obtain ⟨x9,g15,h⟩:=o7 h
        refine Z4 W9 g15 rfl rfl rfl rfl rfl rfl rfl rfl ?_
        refine oA 4 rfl ?_
        refine l5 rfl rfl rfl (fun g16=>?_) (fun g16=>?_)
        ·replace h:=V9 h g16
         refine oB 14 rfl ?_
         cases h
         exact rfl
        ·replace h:=V8 h g16
         refine oA 2 rfl ?_
         obtain ⟨x10,g17,h⟩:=o7 h
         refine Z4 W9 g17 rfl rfl rfl rfl rfl rfl rfl rfl ?_
         refine oA 4 rfl ?_
         obtain ⟨x11,g18,h⟩:=o7 h
         refine Z4 W9 g18 rfl rfl rfl rfl rfl rfl rfl rfl ?_
         refine oB 6 rfl ?_
         cases h
         exact rfl
       ·replace h:=V8 h g13
        refine oB 26 rfl ?_
        cases h
        exact rfl
    ·obtain ⟨x505,rfl⟩:∃ q,q = y5:=⟨_,rfl⟩
     refine eI rfl h (fun h=>?_) fun h=>?_
     ·refine eSG (oB 1 rfl ?_)
      cases h
      exact j5 ⟨_,rfl,_,_,_,rfl,rfl,rfl⟩
     ·refine j6 (j3 (oB 3 rfl ?_))
      exact ⟨_,_,rfl,ih _ _ h⟩
   ·refine G7 ?_
    cases h
    exact ⟨_,rfl,rfl⟩
  ·subst hx
   refine eSG (oB 1 rfl ?_)
   cases h
   exact j5 ⟨_,_,_,rfl,rfl,rfl⟩
  ·subst hz
   rcases res with ⟨_ | _ | _ | _,_,_⟩ <;> first | exact absurd rfl hn | exact hr.elim | (cases h; exact hr)
end Go.Proofs.YtlhgheonlcjpaaaGreat
namespace Go.Proofs.YtlhgheonlcjpaaaGreat
open Go Go.Vm
theorem a3U {n:Nat} {a4L:Str} {r:Bool} (h:a0f n a4L = some r) :
  E env (.call 5 [.str a4L]) [] = some (a3A a4L r):=by
 unfold a0f at h
 refine a0K rfl Tryz.func5 rfl rfl ?_
 refine eSG (oB 1 rfl (j4 (eSG (oB 3 rfl ?_))))
 refine eI rfl h (fun h=>?_) fun h=>?_
 ·refine eSG (oB 1 rfl ?_)
  cases h
  exact j5 ⟨_,_,_,rfl,rfl,rfl⟩
 ·refine j6 (eSG (oA 1 rfl ?_))
  obtain ⟨⟨l2,c3,a4⟩,g2,h⟩:=o7 h
  refine o5 rfl rfl rfl rfl rfl (a2x g2) rfl ?_
  refine oB 6 rfl (j4 (eSG (oB 3 rfl ?_)))
  refine eI rfl h (fun h=>?_) fun h=>?_
  ·refine eSG ?_
   obtain ⟨r5,g4,h⟩:=o7 h
   refine o5 rfl rfl rfl rfl rfl (a1f g4) rfl ?_
   refine oB 1 rfl ?_
   cases h
   exact j5 ⟨_,_,_,rfl,rfl,rfl⟩
  ·refine j6 (eSG (oA 1 rfl ?_))
   obtain ⟨⟨r6,r7⟩,g5,h⟩:=o7 h
   refine o5 rfl rfl rfl rfl rfl (a3M g5) rfl ?_
   refine oB 5 rfl (j4 (eSG (oA 1 rfl ?_)))
   obtain ⟨⟨r8,r9⟩,g6,h⟩:=o7 h
   refine o5 rfl rfl rfl rfl rfl (a5m g6) rfl ?_
   refine oB 5 rfl (eSG (oB 2 rfl ?_))
   refine eI rfl h (fun h=>?_) fun h=>?_
   ·refine eSG (oA 3 rfl ?_)
    refine l5 rfl rfl rfl (fun g8=>?_) (fun g8=>?_)
    ·replace h:=V9 h g8
     refine oA 4 rfl ?_
     refine l5 rfl rfl rfl (fun g9=>?_) (fun g9=>?_)
     ·replace h:=V9 h g9
      obtain ⟨r10,g10,h⟩:=o7 h
      refine o5 rfl rfl rfl rfl rfl (a1f g10) rfl ?_
      refine oB 2 rfl ?_
      cases h
      exact j5 ⟨_,_,_,rfl,rfl,rfl⟩
     ·replace h:=V8 h g9
      refine oB 3 rfl ?_
      cases h
      exact j5 ⟨_,_,_,rfl,rfl,rfl⟩
    ·replace h:=V8 h g8
     refine oB 7 rfl ?_
     cases h
     exact j5 ⟨_,_,_,rfl,rfl,rfl⟩
   ·refine j6 (eSG (oA 1 rfl ?_))
    obtain ⟨⟨l11,c12,a13⟩,g11,h⟩:=o7 h
    refine o5 rfl rfl rfl rfl rfl (a2x g11) rfl ?_
    refine oB 6 rfl (eSG (oA 1 rfl ?_))
    obtain ⟨⟨r14,r15⟩,g12,h⟩:=o7 h
    refine o5 rfl rfl rfl rfl rfl (a3M g12) rfl ?_
    refine oB 5 rfl (eSG (oA 3 rfl ?_))
    refine l5 rfl rfl rfl (fun g13=>?_) (fun g13=>?_)
    ·replace h:=V9 h g13
     refine oA 5 rfl ?_
     refine l5 rfl rfl rfl (fun g14=>?_) (fun g14=>?_)
     ·replace h:=V9 h g14
      refine oA 4 rfl ?_
      refine l5 rfl rfl rfl (fun g15=>?_) (fun g15=>?_)
      ·replace h:=V9 h g15
       refine oA 5 rfl ?_
       refine l5 rfl rfl rfl (fun g16=>?_) (fun g16=>?_)
       ·replace h:=V9 h g16
        refine oA 2 rfl ?_
        obtain ⟨r16,g17,h⟩:=o7 h
        refine o5 rfl rfl rfl rfl rfl (a4C g17) rfl ?_
        refine oA 2 rfl ?_
        refine l5 rfl rfl rfl (fun g18=>?_) (fun g18=>?_)
        ·replace h:=V9 h g18
         obtain ⟨r17,g19,h⟩:=o7 h
         refine o5 rfl rfl rfl rfl rfl (a1f g19) rfl ?_
         refine oB 2 rfl ?_
         cases h
         exact j5 ⟨_,_,_,rfl,rfl,rfl⟩
        ·replace h:=V8 h g18
         refine oB 3 rfl ?_
         cases h
         exact j5 ⟨_,_,_,rfl,rfl,rfl⟩
       ·replace h:=V8 h g16
        refine oB 8 rfl ?_
        cases h
        exact j5 ⟨_,_,_,rfl,rfl,rfl⟩
      ·replace h:=V8 h g15
       refine oB 13 rfl ?_
       cases h
       exact j5 ⟨_,_,_,rfl,rfl,rfl⟩
     ·replace h:=V8 h g14
      refine oB 17 rfl ?_
      cases h
      exact j5 ⟨_,_,_,rfl,rfl,rfl⟩
    ·replace h:=V8 h g13
     refine oB 22 rfl ?_
     cases h
     exact j5 ⟨_,_,_,rfl,rfl,rfl⟩
end Go.Proofs.YtlhgheonlcjpaaaGreat
namespace Go.Proofs.YtlhgheonlcjpaaaGreat
open Go Go.Vm
theorem again_E (s:Str):E env (.call 5 [.str s]) [] = some (.ret (.bool true) []):=a3U (a9U s)
end Go.Proofs.YtlhgheonlcjpaaaGreat
