/- What the functions under ParseTypes compute: texts that were built one by one, joined: QG1 VmG3 QT YQ YG YD YX1 YX2 YX3 LV Shelf LJ YE0 ZT ZE0 ZW ZE ZA ZG ZD ZH ZP0 ZX YE YH YP0. -/
import Derived.Test.YtmonfppdiehlpaaGreatDoorParseTypesM5
import Derived.KernelRfl
import Derived.Test.YtmonfppdiehlpaaGreatDoorProg
import Derived.Tactics
import Derived.Tactics2
import Derived.Defers
import Derived.Recover
import Derived.Laws.Pointers
import Derived.Shelf.Strings.Builder1
import Derived.Shelf.Strings.OnBuilder
import Derived.BigCall
import Derived.BigGuard
/- Where the tokens lie. -/
namespace Go.Proofs.YtmonfppdiehlpaaGreatDoor.Sc
set_option linter.unusedSimpArgs false
set_option linter.unusedVariables false
set_option linter.unusedSectionVars false
open Go Go.Vm
set_option linter.unusedVariables false
/-- tokens that lie from a place to a place -/
def Lay (s : List UInt8) : Nat → List Tok → Nat → Prop
  | k, [], e => k = e
  | k, t :: r, e => t.a = skipE s k ∧ t.a < s.length ∧ 0 < t.l ∧ t.a + t.l ≤ s.length ∧ Lay s (t.a + t.l) r e
theorem Lay.add {s : List UInt8} {t : Tok} : ∀ {l : List Tok} {k e : Nat}, Lay s k l e → t.a = skipE s e → t.a < s.length → 0 < t.l → t.a + t.l ≤ s.length → Lay s k (l ++ [t]) (t.a + t.l)
  | [], k, e, h, h1, h2, h3, h4 => by
    simp only [Lay] at h; subst h
    exact ⟨h1, h2, h3, h4, rfl⟩
  | u :: l, k, e, h, h1, h2, h3, h4 => ⟨h.1, h.2.1, h.2.2.1, h.2.2.2.1, Lay.add h.2.2.2.2 h1 h2 h3 h4⟩
theorem roomy_go {toks : List Tok} {j : Nat} {r : MR} {y : MS} (h : roomy toks j r = .go y) : toks.length < 3000 ∧ r = .go y := by
  unfold roomy at h
  split at h
  · cases h
  · rename_i h1
    simp only [decide_eq_false_iff_not] at h1
    exact ⟨by omega, h⟩
theorem lit_go {s : List UInt8} {toks : List Tok} {st : List (Nat × Int)} {q j ins : Nat} {a b : Int} {y : MS} (h : litStep toks st q j a b (part s q ins (j + 1) []) = .go y) :
    ∃ t : Tok, y.toks = toks ++ [t] ∧ t.a = j ∧ 0 < t.l ∧ y.i = t.a + t.l ∧ t.a + t.l ≤ s.length := by
  have hok := part_ok s q ins (j + 1) []
  cases hp : part s q ins (j + 1) [] with
  | err c a => rw [hp] at h; cases h
  | fin t e =>
    rw [hp] at h hok
    have h1 : j + 1 < e := hok.1
    have h2 : e ≤ s.length := hok.2
    simp only [litStep] at h
    cases h
    exact ⟨_, rfl, rfl, by show 0 < e - j; omega, by show e = j + (e - j); omega, by show j + (e - j) ≤ _; omega⟩
  | more t e =>
    rw [hp] at h hok
    have h1 : j + 1 < e := hok.1
    have h2 : e ≤ s.length := hok.2
    simp only [litStep] at h
    cases h
    exact ⟨_, rfl, rfl, by show 0 < e - j; omega, by show e = j + (e - j); omega, by show j + (e - j) ≤ _; omega⟩
theorem stepM_go {s : List UInt8} {x y : MS} (h : stepM s x = .go y) : ∃ t : Tok, y.toks = x.toks ++ [t] ∧ t.a = skipE s x.i ∧ t.a < s.length ∧ 0 < t.l ∧ y.i = t.a + t.l ∧ t.a + t.l ≤ s.length := by
  obtain ⟨i0, toks, st⟩ := x
  obtain ⟨i, h0⟩ : ∃ i, skipE s i0 = i := ⟨_, rfl⟩
  show ∃ t : Tok, y.toks = toks ++ [t] ∧ t.a = skipE s i0 ∧ _
  rw [h0]
  rcases Nat.lt_or_ge i s.length with hi | hi
  · have fin : (∃ t : Tok, y.toks = toks ++ [t] ∧ t.a = i ∧ 0 < t.l ∧ y.i = t.a + t.l ∧ t.a + t.l ≤ s.length) → ∃ t : Tok, y.toks = toks ++ [t] ∧ t.a = i ∧ t.a < s.length ∧ 0 < t.l ∧ y.i = t.a + t.l ∧ t.a + t.l ≤ s.length := by
      rintro ⟨t, h1, h2, h3, h4, h5⟩
      exact ⟨t, h1, h2, by omega, h3, h4, h5⟩
    apply fin
    cases hc : closes (s.getD i 0).toNat st with
    | true =>
      cases st with
      | nil => cases hc
      | cons z st =>
        obtain ⟨q, p⟩ := z
        rw [(stepM_closes h0 hi hc).2] at h
        exact lit_go (roomy_go h).2
    | false =>
      by_cases h1 : (s.getD i 0).toNat = 34
      · rw [stepM_lit h0 hi hc h1] at h
        exact lit_go (roomy_go h).2
      · have hi1 : i ≤ s.length := by omega
        cases h2 : digitB (s.getD i 0) with
        | true =>
          rw [stepM_digit h0 hi hc h1 h2] at h
          have hg := runE_gt hi h2
          have hl := runE_le (p := digitB) hi1
          have h := (roomy_go h).2
          split at h
          · cases h
          · cases h; exact ⟨_, rfl, rfl, by show 0 < runE digitB s i - i; omega, by show runE digitB s i = i + (runE digitB s i - i); omega, by show i + (runE digitB s i - i) ≤ _; omega⟩
        | false =>
          cases h3 : letterB (s.getD i 0) with
          | true =>
            rw [stepM_letter h0 hi hc h1 h2 h3] at h
            have hg := runE_gt (p := nameB) hi (by simp only [nameB, h3, Bool.true_or])
            have hl := runE_le (p := nameB) hi1
            have h := (roomy_go h).2
            split at h
            · cases h
            · cases h; exact ⟨_, rfl, rfl, by show 0 < runE nameB s i - i; omega, by show runE nameB s i = i + (runE nameB s i - i); omega, by show i + (runE nameB s i - i) ≤ _; omega⟩
          | false =>
            cases hw : signK s i 2 with
            | nil => rw [stepM_byte h0 hi hc h1 h2 h3 hw] at h; cases h
            | cons b w =>
              rw [stepM_sign h0 hi hc h1 h2 h3 hw (by simp)] at h
              have hl := signK_len 2 hi1
              rw [hw] at hl
              have h := (roomy_go h).2
              cases h
              exact ⟨_, rfl, rfl, by show 0 < (b :: w).length; simp, rfl, by show i + (b :: w).length ≤ _; omega⟩
  · cases st with
    | nil => rw [stepM_end0 h0 hi] at h; cases h
    | cons z st => obtain ⟨q, p⟩ := z; rw [stepM_end1 h0 hi] at h; cases h
theorem reach_lay {s : List UInt8} {x y : MS} (h : Reach s x y) : x.i ≤ s.length → Lay s 0 x.toks x.i → y.i ≤ s.length ∧ Lay s 0 y.toks y.i := by
  induction h with
  | refl x => exact fun h1 h2 => ⟨h1, h2⟩
  | step x y z h1 _ ih =>
    intro h2 h3
    obtain ⟨t, g1, g2, g3, g4, g5, g6⟩ := stepM_go h1
    exact ih (by omega) (by rw [g1, g5]; exact h3.add g2 g3 g4 g6)
theorem roomy_done {toks l : List Tok} {j : Nat} {r : MR} (h : roomy toks j r = .done l) : r = .done l := by
  unfold roomy at h
  split at h
  · cases h
  · exact h
theorem litStep_done {toks l : List Tok} {st : List (Nat × Int)} {q j : Nat} {a b : Int} {r : PR} (h : litStep toks st q j a b r = .done l) : False := by
  cases r <;> cases h
theorem stepM_done {s : List UInt8} {x : MS} {l : List Tok} (h : stepM s x = .done l) : x.toks = l ∧ s.length ≤ skipE s x.i := by
  obtain ⟨i0, toks, st⟩ := x
  obtain ⟨i, h0⟩ : ∃ i, skipE s i0 = i := ⟨_, rfl⟩
  show toks = l ∧ s.length ≤ skipE s i0
  rw [h0]
  rcases Nat.lt_or_ge i s.length with hi | hi
  · exfalso
    cases hc : closes (s.getD i 0).toNat st with
    | true =>
      cases st with
      | nil => cases hc
      | cons z st =>
        obtain ⟨q, p⟩ := z
        rw [(stepM_closes h0 hi hc).2] at h
        exact litStep_done (roomy_done h)
    | false =>
      by_cases h1 : (s.getD i 0).toNat = 34
      · rw [stepM_lit h0 hi hc h1] at h
        exact litStep_done (roomy_done h)
      · cases h2 : digitB (s.getD i 0) with
        | true =>
          rw [stepM_digit h0 hi hc h1 h2] at h
          have h := roomy_done h
          split at h <;> cases h
        | false =>
          cases h3 : letterB (s.getD i 0) with
          | true =>
            rw [stepM_letter h0 hi hc h1 h2 h3] at h
            have h := roomy_done h
            split at h <;> cases h
          | false =>
            cases hw : signK s i 2 with
            | nil => rw [stepM_byte h0 hi hc h1 h2 h3 hw] at h; cases h
            | cons b w =>
              rw [stepM_sign h0 hi hc h1 h2 h3 hw (by simp)] at h
              have h := roomy_done h
              cases h
  · cases st with
    | nil => rw [stepM_end0 h0 hi] at h; cases h; exact ⟨rfl, hi⟩
    | cons z st => obtain ⟨q, p⟩ := z; rw [stepM_end1 h0 hi] at h; cases h
theorem roomy_err {toks : List Tok} {j : Nat} {r : MR} {c : Int} {a : Nat} (h : roomy toks j r = .err c a) : c = 2 ∨ r = .err c a := by
  unfold roomy at h
  split at h
  · cases h; exact .inl rfl
  · exact .inr h
theorem lit_err {s : List UInt8} {toks : List Tok} {st : List (Nat × Int)} {q j ins i : Nat} {a b : Int} {c : Int} {p : Nat} (h : litStep toks st q j a b (part s q ins i []) = .err c p) : c ≠ 0 := by
  have hok := part_ok s q ins i []
  cases hp : part s q ins i [] with
  | err c' a' => rw [hp] at h hok; cases h; rcases hok with rfl | rfl | rfl <;> decide
  | fin t e => rw [hp] at h; cases h
  | more t e => rw [hp] at h; cases h
theorem stepM_err {s : List UInt8} {x : MS} {c : Int} {p : Nat} (h : stepM s x = .err c p) : c ≠ 0 := by
  obtain ⟨i0, toks, st⟩ := x
  obtain ⟨i, h0⟩ : ∃ i, skipE s i0 = i := ⟨_, rfl⟩
  rcases Nat.lt_or_ge i s.length with hi | hi
  · cases hc : closes (s.getD i 0).toNat st with
    | true =>
      cases st with
      | nil => cases hc
      | cons z st =>
        obtain ⟨q, p⟩ := z
        rw [(stepM_closes h0 hi hc).2] at h
        rcases roomy_err h with rfl | h
        · decide
        · exact lit_err h
    | false =>
      by_cases h1 : (s.getD i 0).toNat = 34
      · rw [stepM_lit h0 hi hc h1] at h
        rcases roomy_err h with rfl | h
        · decide
        · exact lit_err h
      · cases h2 : digitB (s.getD i 0) with
        | true =>
          rw [stepM_digit h0 hi hc h1 h2] at h
          rcases roomy_err h with rfl | h
          · decide
          · split at h <;> cases h; decide
        | false =>
          cases h3 : letterB (s.getD i 0) with
          | true =>
            rw [stepM_letter h0 hi hc h1 h2 h3] at h
            rcases roomy_err h with rfl | h
            · decide
            · split at h <;> cases h; decide
          | false =>
            cases hw : signK s i 2 with
            | nil => rw [stepM_byte h0 hi hc h1 h2 h3 hw] at h; cases h; decide
            | cons b w =>
              rw [stepM_sign h0 hi hc h1 h2 h3 hw (by simp)] at h
              rcases roomy_err h with rfl | h
              · decide
              · cases h
  · cases st with
    | nil => rw [stepM_end0 h0 hi] at h; cases h
    | cons z st => obtain ⟨q, p⟩ := z; rw [stepM_end1 h0 hi] at h; cases h; decide
/-- what is known of the tokens of a source -/
structure TokOk (s : List UInt8) (r : MR) : Prop where
  bd : RBd r
  nz : ∀ c a, r = .err c a → c ≠ 0
  lay : ∀ l, r = .done l → s.length ≤ 8000 ∧ ∃ e, Lay s 0 l e ∧ s.length ≤ skipE s e ∧ e ≤ s.length
theorem ends_ok {s : List UInt8} (hs : s.length ≤ 8000) {r : MR} (h : Ends s ⟨0, [], []⟩ r) (hr : RBd r) : TokOk s r := by
  obtain ⟨y, h1, h2, h3⟩ := h
  refine ⟨hr, fun c a e => ?_, fun l e => ?_⟩
  · subst e; exact stepM_err h2
  · subst e
    obtain ⟨h4, h5⟩ := stepM_done h2
    obtain ⟨h6, h7⟩ := reach_lay h1 (Nat.zero_le _) rfl
    rw [h4] at h7
    exact ⟨hs, y.i, h7, h5, h6⟩
/-- both give the same -/
theorem tokBoth2 (s : List UInt8) : ∃ r, TokOk s r ∧ E env (.call 81 [.str s]) [] = some (.ret (tokV r) []) ∧ E env (.call 45 [.str s]) [] = some (.ret (tokV r) []) ∧ (s.length ≤ 8000 → Ends s ⟨0, [], []⟩ r) := by
  rcases Nat.lt_or_ge 8000 s.length with h | h
  · exact ⟨.err 2 0, ⟨trivial, fun c a e => (by cases e; decide), fun l e => (by cases e)⟩, c11big h, c12big h, fun h1 => absurd h1 (by omega)⟩
  · obtain ⟨r, h1, h2, h3⟩ := c11 h
    obtain ⟨r', h4, h5⟩ := c12 h
    obtain rfl := Ends.det s h1 h4
    exact ⟨r, ends_ok h h1 h2, h3, h5, fun _ => h1⟩
/-- the gaps -/
def gapsL (s : List UInt8) : Nat → List Tok → List (List UInt8)
  | k, [] => [s.drop k]
  | k, t :: r => (s.take t.a).drop k :: gapsL s (t.a + t.l) r
theorem gapsL_len (s : List UInt8) : ∀ (l : List Tok) (k : Nat), (gapsL s k l).length = l.length + 1
  | [], _ => rfl
  | t :: r, k => by simp [gapsL, gapsL_len s r]
theorem skipL_idem : ∀ (b : Bool) (l : List UInt8), skipL b (l.take (skipL b l)) = skipL b l
  | _, [] => by simp [skipL]
  | true, b :: r => by
    have ih := skipL_idem (nlB b) r
    simp only [skipL, List.take_succ_cons]
    rw [ih]
  | false, b :: r => by
    have h1 := skipL_idem false r
    have h2 := skipL_idem true r
    simp only [skipL]
    cases hb : blankB b with
    | true =>
      simp only [List.take_succ_cons, skipL, hb]
      rw [h1]
    | false =>
      cases hc : decide (b.toNat = 47) && decide ((r.headD 0).toNat = 47) with
      | false => simp [skipL]
      | true =>
        simp only [List.take_succ_cons, skipL, hb]
        cases r with
        | nil => simp at hc
        | cons c r' =>
          have hc' : (decide (b.toNat = 47) && decide ((((c :: r').take (skipL true (c :: r'))).headD 0).toNat = 47)) = true := by
            simp only [skipL, List.take_succ_cons, List.headD_cons] at hc ⊢
            exact hc
          rw [hc']
          simp only
          rw [h2]
/-- a gap has no token -/
theorem gap_blank {s : List UInt8} {k : Nat} : skipE ((s.take (skipE s k)).drop k) 0 = skipE s k - k := by
  have h : (s.take (skipE s k)).drop k = (s.drop k).take (skipL false (s.drop k)) := by
    rw [List.drop_take]
    congr 1
    simp only [skipE]; omega
  rw [h]
  unfold skipE
  rw [List.drop_zero, skipL_idem]
  omega
theorem gap_tokens {g : List UInt8} (h : g.length ≤ skipE g 0) (hg : g.length ≤ 8000) : E env (.call 81 [.str g]) [] = some (.ret (tokV (.done [])) []) := by
  obtain ⟨r, h1, h2, h3⟩ := c11 hg
  have : Ends g ⟨0, [], []⟩ (.done []) := ⟨_, .refl _, stepM_end0 rfl h, fun z hz => (by cases hz)⟩
  rw [h3, Ends.det g h1 this]
end Go.Proofs.YtmonfppdiehlpaaGreatDoor.Sc
/- What one table of contracts has shown of a function of values is a contract by hand in another table. -/
namespace Go.Vm
set_option linter.unusedSimpArgs false
set_option linter.unusedVariables false
set_option linter.unusedSectionVars false
variable {ρ : Rho} {lab : Lab} {w : World} {H : Hp}
theorem mapO_self {α : Type} {f : α → Option α} : ∀ {l : List α}, (∀ x ∈ l, f x = some x) → mapO f l = some l
  | [], _ => rfl
  | x :: r, h => by
    simp only [mapO]
    rw [h x (by simp), mapO_self (fun y hy => h y (by simp [hy]))]
/-- values alone: what a call of them gives is given beside any objects -/
theorem calls_beside {env : Env} (hE : EnvOk env) {g : Nat} {args : List V} {v : V} (h : E env (.call g args) [] = some (.ret v [])) (ha : mapO (renV noName dep) (args.map sealA) = some args) (hv : renV noName dep v = some v)
    (hc : Canon 0 H) (hS : Sim ρ lab H w) {xs : List Value} (hx : RelL ρ lab w args xs) : Calls env.P g xs.toArray w (CallPost ρ lab H w (.ret v H)) := by
  obtain ⟨k, hk⟩ := (run_chain env).at_ _ _ _ h
  have q : quietVia (run env k) g args H = some (.val v H) := by
    unfold quietVia
    rw [ha]
    simp only
    rw [hk]
    simp only
    rw [hv]
  refine (quietVia_ok (run_ok hE k).1 hS hx q).1.mono fun e w' he => ?_
  cases e with
  | returned x =>
    obtain ⟨ρ', lab', h1, h2, h3, h4⟩ := he
    exact ⟨ρ', lab', h1, h2, Roots.of_le h3 _, h4, hc, Nat.le_refl _⟩
  | panicked ch => exact he.elim
  | outgrown => exact he.elim
/-- a contract by hand out of another table's: a function of values that gives values -/
def valI (f : List V → Option V) : List V → Hp → Option Out := fun args H => match f args with
  | some v => some (.ret v H)
  | none => none
theorem valI_ok {env : Env} (hE : EnvOk env) {g : Nat} {f : List V → Option V}
    (hf : ∀ args v, f args = some v → mapO (renV noName dep) (args.map sealA) = some args ∧ renV noName dep v = some v ∧ E env (.call g args) [] = some (.ret v []))
    (hk : ∃ fn c, env.P.funcs[g]? = some fn ∧ (fn.name == "runtime.NumGoroutine") = false ∧ fn.body = some c) : IntrOk env.P g (valI f) := by
  refine ⟨fun args H out h ρ lab w xs hc hS hx => ?_, hk⟩
  unfold valI at h
  split at h
  · rename_i v hv
    cases h
    obtain ⟨h1, h2, h3⟩ := hf args v hv
    exact calls_beside hE h3 h1 h2 hc hS hx
  · cases h
/-- a call of a contract by hand -/
theorem E_plain {env : Env} {g : Nat} {args : List V} {H : Hp} {out : Out} {h : List V → Hp → Option Out} (hi : env.intr g = some (.plain h)) (ho : h args H = some out) : E env (.call g args) H = some out := by
  refine (run_chain env).le 1 _ _ _ ?_
  simp only [run, step, hi, ho]
end Go.Vm
/- The tokens of both scanners as contracts by hand: they are the same. -/
namespace Go.Proofs.YtmonfppdiehlpaaGreatDoor.Sc
set_option linter.unusedSimpArgs false
set_option linter.unusedVariables false
set_option linter.unusedSectionVars false
open Go Go.Vm
noncomputable def tokR (s : List UInt8) : MR := (tokBoth2 s).choose
theorem tokR_all (s : List UInt8) : TokOk s (tokR s) ∧ E env (.call 81 [.str s]) [] = some (.ret (tokV (tokR s)) []) ∧ E env (.call 45 [.str s]) [] = some (.ret (tokV (tokR s)) []) ∧ (s.length ≤ 8000 → Ends s ⟨0, [], []⟩ (tokR s)) := (tokBoth2 s).choose_spec
theorem tokR_ok (s : List UInt8) : RBd (tokR s) ∧ E env (.call 81 [.str s]) [] = some (.ret (tokV (tokR s)) []) ∧ E env (.call 45 [.str s]) [] = some (.ret (tokV (tokR s)) []) := ⟨(tokR_all s).1.bd, (tokR_all s).2.1, (tokR_all s).2.2.1⟩
noncomputable def tokF : List V → Option V := fun args => match args with
  | [.str s] => some (tokV (tokR s))
  | _ => none
theorem tokV_ren {r : MR} (h : RBd r) : renV noName dep (tokV r) = some (tokV r) := by
  cases r with
  | go x => exact h.elim
  | done l => rfl
  | err c a => rfl
theorem tok_intr : IntrOk Tryz.prog 81 (valI tokF) := by
  refine valI_ok envOk (fun args v h => ?_) ⟨_, _, Tryz.func81, by kernel_rfl, rfl⟩
  unfold tokF at h
  split at h
  · rename_i s
    cases h
    exact ⟨rfl, tokV_ren (tokR_ok s).1, (tokR_ok s).2.1⟩
  · cases h
theorem tokr_intr : IntrOk Tryz.prog 45 (valI tokF) := by
  refine valI_ok envOk (fun args v h => ?_) ⟨_, _, Tryz.func45, by kernel_rfl, rfl⟩
  unfold tokF at h
  split at h
  · rename_i s
    cases h
    exact ⟨rfl, tokV_ren (tokR_ok s).1, (tokR_ok s).2.2⟩
  · cases h
end Go.Proofs.YtmonfppdiehlpaaGreatDoor.Sc
/- The tokens of the scanners as the lifted functions have them. -/
namespace Go.Proofs.YtmonfppdiehlpaaGreatDoor
set_option linter.unusedSimpArgs false
set_option linter.unusedVariables false
set_option linter.unusedSectionVars false
open Go Go.Vm
def cvTok (t : Sc.Tok) : Tok := ⟨t.k, t.t, (t.a : Nat), (t.l : Nat)⟩
def tokL : Sc.MR → List Tok
  | .done l => l.map cvTok
  | _ => []
def tokC : Sc.MR → Int
  | .err c _ => c
  | _ => 0
def tokA : Sc.MR → Int
  | .err _ a => (a : Nat)
  | _ => 0
theorem clTok_cv : ∀ l : List Sc.Tok, clTok (l.map cvTok) = Sc.cellsT l
  | [] => rfl
  | t :: r => by
    rw [List.map_cons, encTok.cons, clTok_cv r]
    rfl
theorem tokV_cv {r : Sc.MR} (h : Sc.RBd r) : Sc.tokV r = .tuple [.slice .sealed (List.length (tokL r)) (clTok (tokL r)), .agg [.int .i64 (tokC r), .int .i64 (tokA r)]] := by
  cases r with
  | go x => exact h.elim
  | done l =>
    simp only [tokL, Sc.tokV, clTok_cv, List.length_map, tokC, tokA]
  | err c a => rfl
theorem tok_call {env : Env} {g : Nat} {s : Str} (hi : env.intr g = some (.plain (valI Sc.tokF))) (h : Sc.RBd (Sc.tokR s)) :
    E env (.call g [.str s]) [] = some (.ret (.tuple [.slice .sealed (List.length (tokL (Sc.tokR s))) (clTok (tokL (Sc.tokR s))), .agg [.int .i64 (tokC (Sc.tokR s)), .int .i64 (tokA (Sc.tokR s))]]) []) := by
  refine E_plain hi ?_
  rw [← tokV_cv h]
  rfl
/-- no token where there is a fault; a fault has a code -/
theorem tok_code (s : Str) : (tokC (Sc.tokR s) = 0 ∧ tokA (Sc.tokR s) = 0) ∨ (tokC (Sc.tokR s) ≠ 0 ∧ tokL (Sc.tokR s) = []) := by
  have h := (Sc.tokR_all s).1
  generalize Sc.tokR s = r at h
  cases r with
  | go x => exact h.bd.elim
  | done l => exact .inl ⟨rfl, rfl⟩
  | err c a => exact .inr ⟨h.nz c a rfl, rfl⟩
theorem tokL_len (s : Str) : (tokL (Sc.tokR s)).length ≤ 3000 := by
  have h := (Sc.tokR_ok s).1
  generalize Sc.tokR s = r at h
  cases r with
  | go x => exact h.elim
  | done l => simpa [tokL, Sc.RBd] using h
  | err c a => simp [tokL]
end Go.Proofs.YtmonfppdiehlpaaGreatDoor
/- Given. (Printed by a program.) -/
namespace Go.Proofs.YtmonfppdiehlpaaGreatDoor
set_option linter.unusedSimpArgs false
set_option linter.unusedVariables false
set_option linter.unusedSectionVars false
open Go Go.Vm
set_option maxRecDepth 100000
set_option maxHeartbeats 20000000
set_option linter.unusedVariables false
def awakeG : Option Bool := some true
noncomputable def scanTok (src1 : Str) : Option (List Tok × Int × Int) := some (tokL (Sc.tokR src1), tokC (Sc.tokR src1), tokA (Sc.tokR src1))


end Go.Proofs.YtmonfppdiehlpaaGreatDoor
/- The functions in plain Lean. (Printed by a program.) -/
namespace Go.Proofs.YtmonfppdiehlpaaGreatDoor
set_option linter.unusedSimpArgs false
set_option linter.unusedVariables false
set_option linter.unusedSectionVars false
open Go Go.Vm
set_option maxRecDepth 100000
set_option maxHeartbeats 20000000
set_option linter.unusedVariables false
def law02_long (src1 : Str) : Option (Unit) :=
  some (())
def law02_long_enc (src1 : Str) : Unit → Out
  | _ => .ret (.bool (ltB 8200 (List.length src1 : Int))) []
def ref02_reader_offset (l1 : List Tok) (end2 : Int) (at3 : Int) (place4 : Int) : Option (Int) :=
  cond (ltB at3 (List.length l1 : Int)) (
  (idx' l1 at3).bind fun x5 =>
  some (x5.at_)) (
  some (end2))
def ref02_reader_offset_enc (l1 : List Tok) (end2 : Int) (at3 : Int) (place4 : Int) : Int → Out
  | r501 => .ret (.int .i64 r501) [(0, .row [.slice .sealed (List.length l1) (clTok l1), .int .i64 end2, .int .i64 at3, .int .i64 place4])]
def ref02_reader_isKind (kind1 : Int) (l2 : List Tok) (end3 : Int) (at4 : Int) (place5 : Int) : Option (Bool) :=
  cond (ltB at4 (List.length l2 : Int)) (
  (idx' l2 at4).bind fun x6 =>
  some ((eqB x6.kind kind1))) (
  some (false))
def ref02_reader_isKind_enc (kind1 : Int) (l2 : List Tok) (end3 : Int) (at4 : Int) (place5 : Int) : Bool → Out
  | r501 => .ret (.bool r501) [(0, .row [.slice .sealed (List.length l2) (clTok l2), .int .i64 end3, .int .i64 at4, .int .i64 place5])]
def ref02_reader_word (kind1 : Int) (l2 : List Tok) (end3 : Int) (at4 : Int) (place5 : Int) : Option (Str × Bool × Int) :=
  (ref02_reader_isKind kind1 l2 end3 at4 place5).bind fun r6 =>
  cond r6 (
  (idx' l2 at4).bind fun x7 =>
  some ((x7.text, true, (w64 (at4 + 1))))) (
  some (([], false, at4)))
def ref02_reader_word_enc (kind1 : Int) (l2 : List Tok) (end3 : Int) (at4 : Int) (place5 : Int) : Str × Bool × Int → Out
  | (r501, r502, at503) => .ret (.tuple [.str r501, .bool r502]) [(0, .row [.slice .sealed (List.length l2) (clTok l2), .int .i64 end3, .int .i64 at503, .int .i64 place5])]
def ref02_reader_next (kind1 : Int) (text2 : Str) (l3 : List Tok) (end4 : Int) (at5 : Int) (place6 : Int) : Option (Bool) :=
  cond (ltB at5 (List.length l3 : Int)) (
  (idx' l3 at5).bind fun x7 =>
  cond (eqB x7.kind kind1) (
  (idx' l3 at5).bind fun x8 =>
  some ((eqS x8.text text2))) (
  some (false))) (
  some (false))
def ref02_reader_next_enc (kind1 : Int) (text2 : Str) (l3 : List Tok) (end4 : Int) (at5 : Int) (place6 : Int) : Bool → Out
  | r501 => .ret (.bool r501) [(0, .row [.slice .sealed (List.length l3) (clTok l3), .int .i64 end4, .int .i64 at5, .int .i64 place6])]
def ref02_reader_take (kind1 : Int) (text2 : Str) (l3 : List Tok) (end4 : Int) (at5 : Int) (place6 : Int) : Option (Bool × Int) :=
  (ref02_reader_next kind1 text2 l3 end4 at5 place6).bind fun r7 =>
  cond r7 (
  some ((true, (w64 (at5 + 1))))) (
  some ((false, at5)))
def ref02_reader_take_enc (kind1 : Int) (text2 : Str) (l3 : List Tok) (end4 : Int) (at5 : Int) (place6 : Int) : Bool × Int → Out
  | (r501, at502) => .ret (.bool r501) [(0, .row [.slice .sealed (List.length l3) (clTok l3), .int .i64 end4, .int .i64 at502, .int .i64 place6])]
def ref02_reader_sign (s1 : Str) (l2 : List Tok) (end3 : Int) (at4 : Int) (place5 : Int) : Option (Bool × Int) :=
  (ref02_reader_take 8 s1 l2 end3 at4 place5).bind fun (r6, at7) =>
  some ((r6, at7))
def ref02_reader_sign_enc (s1 : Str) (l2 : List Tok) (end3 : Int) (at4 : Int) (place5 : Int) : Bool × Int → Out
  | (r501, at502) => .ret (.bool r501) [(0, .row [.slice .sealed (List.length l2) (clTok l2), .int .i64 end3, .int .i64 at502, .int .i64 place5])]
def ref02_reader_key (s1 : Str) (l2 : List Tok) (end3 : Int) (at4 : Int) (place5 : Int) : Option (Bool × Int) :=
  (ref02_reader_take 9 s1 l2 end3 at4 place5).bind fun (r6, at7) =>
  some ((r6, at7))
def ref02_reader_key_enc (s1 : Str) (l2 : List Tok) (end3 : Int) (at4 : Int) (place5 : Int) : Bool × Int → Out
  | (r501, at502) => .ret (.bool r501) [(0, .row [.slice .sealed (List.length l2) (clTok l2), .int .i64 end3, .int .i64 at502, .int .i64 place5])]
structure ref02_reader_typ_F where
  ref02_reader_typ : (List Tok) → Int → Int → Int → Option (Typ × Bool × Int)
  ref02_reader_types : (List Tok) → Int → Int → Int → Option (List Typ × Bool × Int)
  ref02_reader_base : (List Tok) → Int → Int → Int → Option (Typ × Bool × Int)
def ref02_reader_typ_l18 (n : Nat) (Φ : ref02_reader_typ_F) (end2 : Int) (l1 : List Tok) (place4 : Int) : Nat → Bool → Int → Typ → Option (Bool × Int × Typ)
  | 0, _, _, _ => none
  | m18 + 1, ok576, at577, n578 =>
      Option.bind (α := Bool × Int) (
      cond ok576 (
      (ref02_reader_sign [46] l1 end2 at577 place4).bind fun (r28, at29) =>
      some (r28, at29)) (
      some (false, at577))) fun (x590, at591) =>
      cond x590 (
      (ref02_reader_word 2 l1 end2 at591 place4).bind fun (r30, r31, at32) =>
      ref02_reader_typ_l18 n Φ end2 l1 place4 m18 r31 at32 (⟨8, r30, 0, [n578]⟩ : Typ)) (
      some (ok576, at591, n578))
def ref02_reader_typ_b (n : Nat) (Φ : ref02_reader_typ_F) (l1 : List Tok) (end2 : Int) (at3 : Int) (place4 : Int) : Option (Typ × Bool × Int) :=
  (ref02_reader_key [97, 110, 121] l1 end2 at3 place4).bind fun (r5, at6) =>
  cond r5 (
  (ref02_reader_word 2 l1 end2 at6 place4).bind fun (r7, r8, at9) =>
  some (((⟨9, r7, 0, []⟩ : Typ), r8, at9))) (
  (ref02_reader_sign [40] l1 end2 at6 place4).bind fun (r10, at11) =>
  cond r10 (
  bindL (α := Int × List Typ) (
  (ref02_reader_sign [41] l1 end2 at11 place4).bind fun (r12, at13) =>
  cond (!r12) (
  (Φ.ref02_reader_types l1 end2 at13 place4).bind fun (r14, r15, at16) =>
  Option.bind (α := Bool × Int) (
  cond (!r15) (
  some (true, at16)) (
  (ref02_reader_sign [41] l1 end2 at16 place4).bind fun (r17, at18) =>
  some ((!r17), at18))) fun (x507, at508) =>
  cond x507 (
  some (.out (((⟨10, [], 0, []⟩ : Typ), false, at508)))) (
  some (.brk (at508, r14)))) (
  some (.brk (at13, ([] : List Typ))))) fun (at514, args515) =>
  (ref02_reader_sign [45, 62] l1 end2 at514 place4).bind fun (r19, at20) =>
  cond (!r19) (
  some (((⟨10, [], 0, args515⟩ : Typ), false, at20))) (
  (Φ.ref02_reader_typ l1 end2 at20 place4).bind fun (r21, r22, at23) =>
  (app 56 args515 ([r21] : List Typ)).bind fun l24 =>
  some (((⟨10, [], 0, l24⟩ : Typ), r22, at23)))) (
  (Φ.ref02_reader_base l1 end2 at11 place4).bind fun (r25, r26, at27) =>
  Option.bind (α := Bool × Int × Typ) (
  ref02_reader_typ_l18 n Φ end2 l1 place4 n r26 at27 r25) fun (ok595, at596, n597) =>
  some ((n597, ok595, at596))))
def ref02_reader_typ_enc (l1 : List Tok) (end2 : Int) (at3 : Int) (place4 : Int) : Typ × Bool × Int → Out
  | (r501, r502, at503) => .ret (.tuple [.agg [.int .i64 r501.kind, .str r501.name, .int .i64 r501.n, .slice .sealed (List.length r501.args) (clTyp r501.args)], .bool r502]) [(0, .row [.slice .sealed (List.length l1) (clTok l1), .int .i64 end2, .int .i64 at503, .int .i64 place4])]
def ref02_reader_types_l3 (n : Nat) (Φ : ref02_reader_typ_F) (end2 : Int) (l1 : List Tok) (place4 : Int) : Nat → (List Typ) → Bool → Int → Option (Lr (List Typ × Int) (List Typ × Bool × Int))
  | 0, _, _, _ => none
  | m3 + 1, l501, more502, at503 =>
      cond more502 (
      (Φ.ref02_reader_typ l1 end2 at503 place4).bind fun (r5, r6, at7) =>
      cond (!r6) (
      some (.out ((l501, false, at7)))) (
      (app 56 l501 ([r5] : List Typ)).bind fun l8 =>
      (ref02_reader_sign [44] l1 end2 at7 place4).bind fun (r9, at10) =>
      ref02_reader_types_l3 n Φ end2 l1 place4 m3 l8 r9 at10)) (
      some (.brk (l501, at503)))
def ref02_reader_types_b (n : Nat) (Φ : ref02_reader_typ_F) (l1 : List Tok) (end2 : Int) (at3 : Int) (place4 : Int) : Option (List Typ × Bool × Int) :=
  bindL (α := List Typ × Int) (
  ref02_reader_types_l3 n Φ end2 l1 place4 n ([] : List Typ) true at3) fun (l508, at509) =>
  some ((l508, true, at509))
def ref02_reader_types_enc (l1 : List Tok) (end2 : Int) (at3 : Int) (place4 : Int) : List Typ × Bool × Int → Out
  | (r510, r511, at512) => .ret (.tuple [.slice (.tag 1) (List.length r510) (clTyp r510), .bool r511]) [(0, .row [.slice .sealed (List.length l1) (clTok l1), .int .i64 end2, .int .i64 at512, .int .i64 place4]), (1, .tip (tpe 4 (List.length r510)) (List.length r510))]
def ref02_reader_base_b (n : Nat) (Φ : ref02_reader_typ_F) (l1 : List Tok) (end2 : Int) (at3 : Int) (place4 : Int) : Option (Typ × Bool × Int) :=
  (ref02_reader_word 2 l1 end2 at3 place4).bind fun (r5, r6, at7) =>
  cond (!r6) (
  some (((⟨0, [], 0, []⟩ : Typ), false, at7))) (
  bindL (α := List Typ × Int) (
  (ref02_reader_sign [60] l1 end2 at7 place4).bind fun (r8, at9) =>
  cond r8 (
  (Φ.ref02_reader_types l1 end2 at9 place4).bind fun (r10, r11, at12) =>
  Option.bind (α := Bool × Int) (
  cond (!r11) (
  some (true, at12)) (
  (ref02_reader_sign [62] l1 end2 at12 place4).bind fun (r13, at14) =>
  some ((!r13), at14))) fun (x509, at510) =>
  cond x509 (
  some (.out (((⟨0, [], 0, []⟩ : Typ), false, at510)))) (
  some (.brk (r10, at510)))) (
  some (.brk (([] : List Typ), at9)))) fun (l557, at558) =>
  Option.bind (α := Int) (
  Option.bind (α := Bool) (
  cond (eqB (List.length l557 : Int) 0) (
  some (eqS r5 [73, 110, 116])) (
  some false)) fun x559 =>
  cond x559 (
  some 1) (
  Option.bind (α := Bool) (
  cond (eqB (List.length l557 : Int) 0) (
  some (eqS r5 [66, 111, 111, 108])) (
  some false)) fun x560 =>
  cond x560 (
  some 2) (
  Option.bind (α := Bool) (
  cond (eqB (List.length l557 : Int) 0) (
  some (eqS r5 [84, 101, 120, 116])) (
  some false)) fun x561 =>
  cond x561 (
  some 3) (
  Option.bind (α := Bool) (
  cond (eqB (List.length l557 : Int) 0) (
  some (eqS r5 [85, 110, 105, 116])) (
  some false)) fun x562 =>
  cond x562 (
  some 4) (
  Option.bind (α := Bool) (
  cond (eqB (List.length l557 : Int) 1) (
  some (eqS r5 [65, 114, 114, 97, 121])) (
  some false)) fun x563 =>
  cond x563 (
  some 5) (
  Option.bind (α := Bool) (
  cond (eqB (List.length l557 : Int) 1) (
  some (eqS r5 [87, 101, 97, 107])) (
  some false)) fun x564 =>
  cond x564 (
  some 11) (
  some 6))))))) fun kind565 =>
  Option.bind (α := Str) (
  cond (!eqB kind565 6) (
  some []) (
  some r5)) fun s566 =>
  some (((⟨kind565, s566, 0, l557⟩ : Typ), true, at558)))
def ref02_reader_base_enc (l1 : List Tok) (end2 : Int) (at3 : Int) (place4 : Int) : Typ × Bool × Int → Out
  | (r552, r553, at554) => .ret (.tuple [.agg [.int .i64 r552.kind, .str r552.name, .int .i64 r552.n, .slice .sealed (List.length r552.args) (clTyp r552.args)], .bool r553]) [(0, .row [.slice .sealed (List.length l1) (clTok l1), .int .i64 end2, .int .i64 at554, .int .i64 place4])]
def ref02_reader_typ_F.fs : Nat → ref02_reader_typ_F
  | 0 => ⟨fun _ _ _ _ => none, fun _ _ _ _ => none, fun _ _ _ _ => none⟩
  | n + 1 => ⟨ref02_reader_typ_b n (ref02_reader_typ_F.fs n), ref02_reader_types_b n (ref02_reader_typ_F.fs n), ref02_reader_base_b n (ref02_reader_typ_F.fs n)⟩
def ref02_reader_typ (n : Nat) (l1 : List Tok) (end2 : Int) (at3 : Int) (place4 : Int) : Option (Typ × Bool × Int) := (ref02_reader_typ_F.fs n).ref02_reader_typ l1 end2 at3 place4
def ref02_reader_types (n : Nat) (l1 : List Tok) (end2 : Int) (at3 : Int) (place4 : Int) : Option (List Typ × Bool × Int) := (ref02_reader_typ_F.fs n).ref02_reader_types l1 end2 at3 place4
def ref02_reader_base (n : Nat) (l1 : List Tok) (end2 : Int) (at3 : Int) (place4 : Int) : Option (Typ × Bool × Int) := (ref02_reader_typ_F.fs n).ref02_reader_base l1 end2 at3 place4
structure ref02_Types_F where
  ref02_Types : Typ → Int → Option (Int)
def ref02_Types_l3 (n : Nat) (Φ : ref02_Types_F) (most2 : Int) (t1 : Typ) : Nat → Int → Int → Option (Int)
  | 0, _, _ => none
  | m3 + 1, n503, i504 =>
      Option.bind (α := Bool) (
      cond (ltB i504 (List.length t1.args : Int)) (
      some (ltB n503 most2)) (
      some false)) fun x507 =>
      cond x507 (
      (idx' t1.args i504).bind fun x3 =>
      (Φ.ref02_Types x3 (w64 (most2 - n503))).bind fun r4 =>
      ref02_Types_l3 n Φ most2 t1 m3 (w64 (n503 + r4)) (w64 (i504 + 1))) (
      some n503)
def ref02_Types_b (n : Nat) (Φ : ref02_Types_F) (t1 : Typ) (most2 : Int) : Option (Int) :=
  Option.bind (α := Int) (
  ref02_Types_l3 n Φ most2 t1 n 1 0) fun n510 =>
  some (n510)
def ref02_Types_enc (t1 : Typ) (most2 : Int) : Int → Out
  | r511 => .ret (.int .i64 r511) []
def ref02_Types_F.fs : Nat → ref02_Types_F
  | 0 => ⟨fun _ _ => none⟩
  | n + 1 => ⟨ref02_Types_b n (ref02_Types_F.fs n)⟩
def ref02_Types (n : Nat) (t1 : Typ) (most2 : Int) : Option (Int) := (ref02_Types_F.fs n).ref02_Types t1 most2
noncomputable def ref02_Type (n : Nat) (src1 : Str) : Option (Typ × Flt) :=
  (scanTok src1).bind fun (l2, c3, a4) =>
  cond (!eqB c3 0) (
  some (((⟨0, [], 0, []⟩ : Typ), (⟨c3, a4⟩ : Flt)))) (
  (ref02_reader_typ n l2 (List.length src1 : Int) 0 (-1)).bind fun (r5, r6, at7) =>
  Option.bind (α := Bool) (
  cond (!r6) (
  some true) (
  some (ltB at7 (List.length l2 : Int)))) fun x504 =>
  cond x504 (
  (ref02_reader_offset l2 (List.length src1 : Int) at7 (-1)).bind fun r8 =>
  some (((⟨0, [], 0, []⟩ : Typ), (⟨20, r8⟩ : Flt)))) (
  (ref02_Types n r5 41).bind fun r9 =>
  cond (ltB 40 r9) (
  some (((⟨0, [], 0, []⟩ : Typ), (⟨2, 0⟩ : Flt)))) (
  some ((r5, (⟨0, 0⟩ : Flt))))))
def ref02_Type_enc (src1 : Str) : Typ × Flt → Out
  | (r507, r508) => .ret (.tuple [.agg [.int .i64 r507.kind, .str r507.name, .int .i64 r507.n, .slice .sealed (List.length r507.args) (clTyp r507.args)], .agg [.int .i64 r508.code, .int .i64 r508.at_]]) []
noncomputable def parse_begin (src1 : Str) : Option (Flt × List Tok) :=
  (scanTok src1).bind fun (l2, c3, a4) =>
  some (((⟨c3, a4⟩ : Flt), l2))
def parse_begin_enc (src1 : Str) : Flt × List Tok → Out
  | (r501, tokens502) => .ret (.tuple [.ptr 0 0, .agg [.int .i64 r501.code, .int .i64 r501.at_]]) [(0, .row [.slice .sealed (List.length tokens502) (clTok tokens502), .int .i64 0, .int .i64 (List.length src1 : Int)])]
def parse_parser_here (tokens1 : List Tok) (at2 : Int) (size3 : Int) : Option (Int) :=
  cond (ltB at2 (List.length tokens1 : Int)) (
  (idx' tokens1 at2).bind fun x4 =>
  some (x4.at_)) (
  some (size3))
def parse_parser_here_enc (tokens1 : List Tok) (at2 : Int) (size3 : Int) : Int → Out
  | r501 => .ret (.int .i64 r501) [(0, .row [.slice .sealed (List.length tokens1) (clTok tokens1), .int .i64 at2, .int .i64 size3])]
def parse_parser_fail (tokens1 : List Tok) (at2 : Int) (size3 : Int) : Option (Rs Empty Int) :=
  (parse_parser_here tokens1 at2 size3).bind fun r4 =>
  some (.pan r4)
def parse_parser_fail_enc (tokens1 : List Tok) (at2 : Int) (size3 : Int) : Rs Empty Int → Out
  | .pan at501 => .pan (.iface 110 (.agg [.int .i64 20, .int .i64 at501])) [(0, .row [.slice .sealed (List.length tokens1) (clTok tokens1), .int .i64 at2, .int .i64 size3])]
def parse_parser_is (n1 : Int) (kind2 : Int) (text3 : Str) (tokens4 : List Tok) (at5 : Int) (size6 : Int) : Option (Bool) :=
  cond (leB (List.length tokens4 : Int) (w64 (at5 + n1))) (
  some (false)) (
  (idx' tokens4 (w64 (at5 + n1))).bind fun x7 =>
  cond (eqB x7.kind kind2) (
  cond (eqS text3 []) (
  some (true)) (
  some ((eqS x7.text text3)))) (
  some (false)))
def parse_parser_is_enc (n1 : Int) (kind2 : Int) (text3 : Str) (tokens4 : List Tok) (at5 : Int) (size6 : Int) : Bool → Out
  | r501 => .ret (.bool r501) [(0, .row [.slice .sealed (List.length tokens4) (clTok tokens4), .int .i64 at5, .int .i64 size6])]
def parse_parser_take (sign1 : Str) (tokens2 : List Tok) (at3 : Int) (size4 : Int) : Option (Bool × Int) :=
  (parse_parser_is 0 8 sign1 tokens2 at3 size4).bind fun r5 =>
  cond (!r5) (
  some ((false, at3))) (
  some ((true, (w64 (at3 + 1)))))
def parse_parser_take_enc (sign1 : Str) (tokens2 : List Tok) (at3 : Int) (size4 : Int) : Bool × Int → Out
  | (r501, at502) => .ret (.bool r501) [(0, .row [.slice .sealed (List.length tokens2) (clTok tokens2), .int .i64 at502, .int .i64 size4])]
def parse_parser_want (sign1 : Str) (tokens2 : List Tok) (at3 : Int) (size4 : Int) : Option (Rs Int (Int × Int)) :=
  (parse_parser_take sign1 tokens2 at3 size4).bind fun (r5, at6) =>
  cond (!r5) (
  bindP (parse_parser_fail tokens2 at6 size4) (fun (_ : Empty) => none) fun at7 =>
  some (.pan (at7, at6))) (
  some (.ok at6))
def parse_parser_want_enc (sign1 : Str) (tokens2 : List Tok) (at3 : Int) (size4 : Int) : Rs Int (Int × Int) → Out
  | .ok at501 => .ret (.tuple []) [(0, .row [.slice .sealed (List.length tokens2) (clTok tokens2), .int .i64 at501, .int .i64 size4])]
  | .pan (at502, at503) => .pan (.iface 110 (.agg [.int .i64 20, .int .i64 at502])) [(0, .row [.slice .sealed (List.length tokens2) (clTok tokens2), .int .i64 at503, .int .i64 size4])]
def parse_named (name1 : Str) (args2 : List Typ) : Option (Typ) :=
  bindL (α := Int) (
  Option.bind (α := Bool) (
  cond (eqB (List.length args2 : Int) 1) (
  some (eqS name1 [65, 114, 114, 97, 121])) (
  some false)) fun x505 =>
  cond x505 (
  some (.out ((⟨5, [], 0, args2⟩ : Typ)))) (
  Option.bind (α := Bool) (
  cond (eqB (List.length args2 : Int) 1) (
  some (eqS name1 [87, 101, 97, 107])) (
  some false)) fun x503 =>
  cond x503 (
  some (.out ((⟨11, [], 0, args2⟩ : Typ)))) (
  cond (ltB 0 (List.length args2 : Int)) (
  some (.brk 6)) (
  cond (eqS name1 [73, 110, 116]) (
  some (.brk 1)) (
  cond (eqS name1 [66, 111, 111, 108]) (
  some (.brk 2)) (
  cond (eqS name1 [84, 101, 120, 116]) (
  some (.brk 3)) (
  cond (eqS name1 [85, 110, 105, 116]) (
  some (.brk 4)) (
  some (.brk 6))))))))) fun kind507 =>
  cond (!eqB kind507 6) (
  some ((⟨kind507, [], 0, []⟩ : Typ))) (
  some ((⟨kind507, name1, 0, args2⟩ : Typ)))
def parse_named_enc (name1 : Str) (args2 : List Typ) : Typ → Out
  | r508 => .ret (.agg [.int .i64 r508.kind, .str r508.name, .int .i64 r508.n, .slice .sealed (List.length r508.args) (clTyp r508.args)]) []
def parse_parser_token (kind1 : Int) (tokens2 : List Tok) (at3 : Int) (size4 : Int) : Option (Rs Tok Int) :=
  (parse_parser_is 0 kind1 [] tokens2 at3 size4).bind fun r5 =>
  cond (!r5) (
  bindP (parse_parser_fail tokens2 at3 size4) (fun (_ : Empty) => none) fun at6 =>
  some (.pan at6)) (
  (idx' tokens2 at3).bind fun x7 =>
  some (.ok x7))
def parse_parser_token_enc (kind1 : Int) (tokens2 : List Tok) (at3 : Int) (size4 : Int) : Rs Tok Int → Out
  | .ok r501 => .ret (.agg [.int .i64 r501.kind, .str r501.text, .int .i64 r501.at_, .int .i64 r501.len]) [(0, .row [.slice .sealed (List.length tokens2) (clTok tokens2), .int .i64 (w64 (at3 + 1)), .int .i64 size4])]
  | .pan at503 => .pan (.iface 110 (.agg [.int .i64 20, .int .i64 at503])) [(0, .row [.slice .sealed (List.length tokens2) (clTok tokens2), .int .i64 at3, .int .i64 size4])]
def parse_parser_capital (tokens1 : List Tok) (at2 : Int) (size3 : Int) : Option (Rs Str Int) :=
  bindP (parse_parser_token 2 tokens1 at2 size3) (fun r4 =>
  some (.ok r4.text)) fun at5 =>
  some (.pan at5)
def parse_parser_capital_enc (tokens1 : List Tok) (at2 : Int) (size3 : Int) : Rs Str Int → Out
  | .ok r501 => .ret (.str r501) [(0, .row [.slice .sealed (List.length tokens1) (clTok tokens1), .int .i64 (w64 (at2 + 1)), .int .i64 size3])]
  | .pan at502 => .pan (.iface 110 (.agg [.int .i64 20, .int .i64 at502])) [(0, .row [.slice .sealed (List.length tokens1) (clTok tokens1), .int .i64 at2, .int .i64 size3])]
def parse_parser_key (word1 : Str) (tokens2 : List Tok) (at3 : Int) (size4 : Int) : Option (Bool × Int) :=
  (parse_parser_is 0 9 word1 tokens2 at3 size4).bind fun r5 =>
  cond (!r5) (
  some ((false, at3))) (
  some ((true, (w64 (at3 + 1)))))
def parse_parser_key_enc (word1 : Str) (tokens2 : List Tok) (at3 : Int) (size4 : Int) : Bool × Int → Out
  | (r501, at502) => .ret (.bool r501) [(0, .row [.slice .sealed (List.length tokens2) (clTok tokens2), .int .i64 at502, .int .i64 size4])]
structure parse_parser_typ_F where
  parse_parser_typ : (List Tok) → Int → Int → Option (Rs (Typ × Int) (Int × Int))
  parse_parser_path : Bool → (List Tok) → Int → Int → Option (Rs (Typ × Int) (Int × Int))
def parse_parser_typ_l8 (n : Nat) (Φ : parse_parser_typ_F) (size3 : Int) (tokens1 : List Tok) : Nat → (List Typ) → Int → Option (Lr (List Typ × Int) (Rs (Typ × Int) (Int × Int)))
  | 0, _, _ => none
  | m8 + 1, args506, at507 =>
      (parse_parser_take [44] tokens1 at507 size3).bind fun (r19, at20) =>
      cond r19 (
      bindP (Φ.parse_parser_typ tokens1 at20 size3) (fun (r21, at22) =>
      (app 56 args506 ([r21] : List Typ)).bind fun l23 =>
      parse_parser_typ_l8 n Φ size3 tokens1 m8 l23 at22) fun (at24, at25) =>
      some (.out (.pan (at24, at25)))) (
      some (.brk (args506, at20)))
def parse_parser_typ_b (n : Nat) (Φ : parse_parser_typ_F) (tokens1 : List Tok) (at2 : Int) (size3 : Int) : Option (Rs (Typ × Int) (Int × Int)) :=
  (parse_parser_key [97, 110, 121] tokens1 at2 size3).bind fun (r4, at5) =>
  cond r4 (
  bindP (parse_parser_capital tokens1 at5 size3) (fun r6 =>
  some (.ok ((⟨9, r6, 0, []⟩ : Typ), (w64 (at5 + 1))))) fun at7 =>
  some (.pan (at7, at5))) (
  (parse_parser_take [40] tokens1 at5 size3).bind fun (r8, at9) =>
  cond (!r8) (
  bindP (Φ.parse_parser_path false tokens1 at9 size3) (fun (r10, at11) =>
  some (.ok (r10, at11))) fun (at12, at13) =>
  some (.pan (at12, at13))) (
  bindL (α := List Typ × Int) (
  (parse_parser_take [41] tokens1 at9 size3).bind fun (r14, at15) =>
  cond (!r14) (
  bindP (Φ.parse_parser_typ tokens1 at15 size3) (fun (r16, at17) =>
  (app 56 ([] : List Typ) ([r16] : List Typ)).bind fun l18 =>
  bindQ (α := List Typ × Int) (
  parse_parser_typ_l8 n Φ size3 tokens1 n l18 at17) fun (args517, at518) =>
  bindP (parse_parser_want [41] tokens1 at518 size3) (fun at26 =>
  some (.brk (args517, at26))) fun (at27, at28) =>
  some (.out (.pan (at27, at28)))) fun (at29, at30) =>
  some (.out (.pan (at29, at30)))) (
  some (.brk (([] : List Typ), at15)))) fun (args509, at510) =>
  bindP (parse_parser_want [45, 62] tokens1 at510 size3) (fun at31 =>
  bindP (Φ.parse_parser_typ tokens1 at31 size3) (fun (r32, at33) =>
  (app 56 args509 ([r32] : List Typ)).bind fun l34 =>
  some (.ok ((⟨10, [], 0, l34⟩ : Typ), at33))) fun (at35, at36) =>
  some (.pan (at35, at36))) fun (at37, at38) =>
  some (.pan (at37, at38))))
def parse_parser_typ_enc (tokens1 : List Tok) (at2 : Int) (size3 : Int) : Rs (Typ × Int) (Int × Int) → Out
  | .ok (r511, at512) => .ret (.agg [.int .i64 r511.kind, .str r511.name, .int .i64 r511.n, .slice .sealed (List.length r511.args) (clTyp r511.args)]) [(0, .row [.slice .sealed (List.length tokens1) (clTok tokens1), .int .i64 at512, .int .i64 size3])]
  | .pan (at504, at505) => .pan (.iface 110 (.agg [.int .i64 20, .int .i64 at504])) [(0, .row [.slice .sealed (List.length tokens1) (clTok tokens1), .int .i64 at505, .int .i64 size3])]
def parse_parser_path_l5 (n : Nat) (Φ : parse_parser_typ_F) (size4 : Int) (tokens2 : List Tok) : Nat → (List Typ) → Int → Option (Lr (List Typ × Int) (Rs (Typ × Int) (Int × Int)))
  | 0, _, _ => none
  | m5 + 1, args501, at502 =>
      (parse_parser_take [44] tokens2 at502 size4).bind fun (r11, at12) =>
      cond r11 (
      bindP (Φ.parse_parser_typ tokens2 at12 size4) (fun (r13, at14) =>
      (app 56 args501 ([r13] : List Typ)).bind fun l15 =>
      parse_parser_path_l5 n Φ size4 tokens2 m5 l15 at14) fun (at16, at17) =>
      some (.out (.pan (at16, at17)))) (
      some (.brk (args501, at12)))
def parse_parser_path_l9 (n : Nat) (Φ : parse_parser_typ_F) (inExpr1 : Bool) (size4 : Int) (tokens2 : List Tok) : Nat → Int → Typ → Option (Lr (Int × Typ) (Rs (Typ × Int) (Int × Int)))
  | 0, _, _ => none
  | m9 + 1, at532, n533 =>
      Option.bind (α := Bool) (
      (parse_parser_is 0 8 [46] tokens2 at532 size4).bind fun r24 =>
      cond r24 (
      cond inExpr1 (
      (parse_parser_is 1 1 [] tokens2 at532 size4).bind fun r25 =>
      some (!r25)) (
      some true)) (
      some false)) fun x546 =>
      cond x546 (
      bindP (parse_parser_capital tokens2 (w64 (at532 + 1)) size4) (fun r26 =>
      parse_parser_path_l9 n Φ inExpr1 size4 tokens2 m9 (w64 ((w64 (at532 + 1)) + 1)) (⟨8, r26, 0, [n533]⟩ : Typ)) fun at27 =>
      some (.out (.pan (at27, (w64 (at532 + 1)))))) (
      some (.brk (at532, n533)))
def parse_parser_path_b (n : Nat) (Φ : parse_parser_typ_F) (inExpr1 : Bool) (tokens2 : List Tok) (at3 : Int) (size4 : Int) : Option (Rs (Typ × Int) (Int × Int)) :=
  bindP (parse_parser_capital tokens2 at3 size4) (fun r5 =>
  bindL (α := List Typ × Int) (
  (parse_parser_take [60] tokens2 (w64 (at3 + 1)) size4).bind fun (r6, at7) =>
  cond r6 (
  bindP (Φ.parse_parser_typ tokens2 at7 size4) (fun (r8, at9) =>
  (app 56 ([] : List Typ) ([r8] : List Typ)).bind fun l10 =>
  bindQ (α := List Typ × Int) (
  parse_parser_path_l5 n Φ size4 tokens2 n l10 at9) fun (args510, at511) =>
  bindP (parse_parser_want [62] tokens2 at511 size4) (fun at18 =>
  some (.brk (args510, at18))) fun (at19, at20) =>
  some (.out (.pan (at19, at20)))) fun (at21, at22) =>
  some (.out (.pan (at21, at22)))) (
  some (.brk (([] : List Typ), at7)))) fun (args504, at505) =>
  (parse_named r5 args504).bind fun r23 =>
  bindL (α := Int × Typ) (
  parse_parser_path_l9 n Φ inExpr1 size4 tokens2 n at505 r23) fun (at549, n550) =>
  some (.ok (n550, at549))) fun at28 =>
  some (.pan (at28, at3))
def parse_parser_path_enc (inExpr1 : Bool) (tokens2 : List Tok) (at3 : Int) (size4 : Int) : Rs (Typ × Int) (Int × Int) → Out
  | .ok (r534, at535) => .ret (.agg [.int .i64 r534.kind, .str r534.name, .int .i64 r534.n, .slice .sealed (List.length r534.args) (clTyp r534.args)]) [(0, .row [.slice .sealed (List.length tokens2) (clTok tokens2), .int .i64 at535, .int .i64 size4])]
  | .pan (at506, at507) => .pan (.iface 110 (.agg [.int .i64 20, .int .i64 at506])) [(0, .row [.slice .sealed (List.length tokens2) (clTok tokens2), .int .i64 at507, .int .i64 size4])]
def parse_parser_typ_F.fs : Nat → parse_parser_typ_F
  | 0 => ⟨fun _ _ _ => none, fun _ _ _ _ => none⟩
  | n + 1 => ⟨parse_parser_typ_b n (parse_parser_typ_F.fs n), parse_parser_path_b n (parse_parser_typ_F.fs n)⟩
def parse_parser_typ (n : Nat) (tokens1 : List Tok) (at2 : Int) (size3 : Int) : Option (Rs (Typ × Int) (Int × Int)) := (parse_parser_typ_F.fs n).parse_parser_typ tokens1 at2 size3
def parse_parser_path (n : Nat) (inExpr1 : Bool) (tokens2 : List Tok) (at3 : Int) (size4 : Int) : Option (Rs (Typ × Int) (Int × Int)) := (parse_parser_typ_F.fs n).parse_parser_path inExpr1 tokens2 at3 size4
def parse_Type_c1 (n : Nat) (tokens1 : List Tok) (at2 : Int) (size3 : Int) (kind4 : Int) (name5 : Str) (n6 : Int) (args7 : List Typ) (gone8 : List Typ) : Option (Rs (Int × Typ) (Int × Int × Typ)) :=
  bindP (parse_parser_typ n tokens1 at2 size3) (fun (r9, at10) =>
  cond (ltB at10 (List.length tokens1 : Int)) (
  bindP (parse_parser_fail tokens1 at10 size3) (fun (_ : Empty) => none) fun at11 =>
  some (.pan (at11, at10, r9))) (
  some (.ok (at10, r9)))) fun (at12, at13) =>
  some (.pan (at12, at13, (⟨kind4, name5, n6, args7⟩ : Typ)))
def parse_Type_c1_enc (tokens1 : List Tok) (at2 : Int) (size3 : Int) (kind4 : Int) (name5 : Str) (n6 : Int) (args7 : List Typ) (gone8 : List Typ) : Rs (Int × Typ) (Int × Int × Typ) → Out
  | .ok (at506, n507) => .ret (.tuple []) [(0, .row [.slice .sealed (List.length tokens1) (clTok tokens1), .int .i64 at506, .int .i64 size3]), (1, .row [.ptr 0 0]), (2, .row [.int .i64 n507.kind, .str n507.name, .int .i64 n507.n, .slice .sealed (List.length n507.args) (clTyp n507.args)]), (3, .tip (tpe 4 (List.length gone8)) (List.length gone8))]
  | .pan (at503, at504, n505) => .pan (.iface 110 (.agg [.int .i64 20, .int .i64 at503])) [(0, .row [.slice .sealed (List.length tokens1) (clTok tokens1), .int .i64 at504, .int .i64 size3]), (1, .row [.ptr 0 0]), (2, .row [.int .i64 n505.kind, .str n505.name, .int .i64 n505.n, .slice .sealed (List.length n505.args) (clTyp n505.args)]), (3, .tip (tpe 4 (List.length gone8)) (List.length gone8))]
def parse_parser_guarded (n : Nat) (tokens1 : List Tok) (at2 : Int) (size3 : Int) (kind4 : Int) (name5 : Str) (n6 : Int) (args7 : List Typ) : Option (Flt × Int × Typ) :=
  bindP (parse_Type_c1 n tokens1 at2 size3 kind4 name5 n6 args7 args7) (fun (at8, n9) =>
  some ((⟨0, 0⟩ : Flt), at8, n9)) fun (at10, at11, n12) =>
  some ((⟨20, at10⟩ : Flt), at11, n12)
def parse_parser_guarded_enc (tokens1 : List Tok) (at2 : Int) (size3 : Int) (kind4 : Int) (name5 : Str) (n6 : Int) (args7 : List Typ) : Flt × Int × Typ → Out
  | (r501, at502, n503) => .ret (.agg [.int .i64 r501.code, .int .i64 r501.at_]) [(0, .row [.slice .sealed (List.length tokens1) (clTok tokens1), .int .i64 at502, .int .i64 size3]), (1, .row [.ptr 0 0]), (2, .row [.int .i64 n503.kind, .str n503.name, .int .i64 n503.n, .slice .sealed (List.length n503.args) (clTyp n503.args)]), (3, .tip (tpe 4 (List.length args7)) (List.length args7))]
structure parse_typeSize_F where
  parse_typeSize : Typ → Option (Int)
def parse_typeSize_l3 (n : Nat) (Φ : parse_typeSize_F) (t1 : Typ) : Nat → Int → Int → Option (Int)
  | 0, _, _ => none
  | m3 + 1, n501, x502 =>
      cond (ltB x502 (List.length t1.args : Int)) (
      (idx' t1.args x502).bind fun x2 =>
      (Φ.parse_typeSize x2).bind fun r3 =>
      parse_typeSize_l3 n Φ t1 m3 (w64 (n501 + r3)) (w64 (x502 + 1))) (
      some n501)
def parse_typeSize_b (n : Nat) (Φ : parse_typeSize_F) (t1 : Typ) : Option (Int) :=
  Option.bind (α := Int) (
  parse_typeSize_l3 n Φ t1 n 1 0) fun n507 =>
  some (n507)
def parse_typeSize_enc (t1 : Typ) : Int → Out
  | r508 => .ret (.int .i64 r508) []
def parse_typeSize_F.fs : Nat → parse_typeSize_F
  | 0 => ⟨fun _ => none⟩
  | n + 1 => ⟨parse_typeSize_b n (parse_typeSize_F.fs n)⟩
def parse_typeSize (n : Nat) (t1 : Typ) : Option (Int) := (parse_typeSize_F.fs n).parse_typeSize t1
noncomputable def parse_Type (n : Nat) (src1 : Str) : Option (Typ × Flt) :=
  (parse_begin src1).bind fun (r2, tokens3) =>
  cond (!((eqB r2.code 0) && ((eqB r2.at_ 0) && true))) (
  some (((⟨0, [], 0, []⟩ : Typ), r2))) (
  (parse_parser_guarded n tokens3 0 (List.length src1 : Int) 0 [] 0 ([] : List Typ)).bind fun (r4, at5, n6) =>
  cond (!((eqB r4.code 0) && ((eqB r4.at_ 0) && true))) (
  some (((⟨0, [], 0, []⟩ : Typ), r4))) (
  (parse_typeSize n n6).bind fun r7 =>
  cond (ltB 40 r7) (
  some (((⟨0, [], 0, []⟩ : Typ), (⟨2, 0⟩ : Flt)))) (
  some ((n6, (⟨0, 0⟩ : Flt))))))
def parse_Type_enc (src1 : Str) : Typ × Flt → Out
  | (r504, r505) => .ret (.tuple [.agg [.int .i64 r504.kind, .str r504.name, .int .i64 r504.n, .slice .sealed (List.length r504.args) (clTyp r504.args)], .agg [.int .i64 r505.code, .int .i64 r505.at_]]) []
structure ref00_EqType_F where
  ref00_EqType : Typ → Typ → Option (Bool)
  ref00_EqTypes : (List Typ) → (List Typ) → Option (Bool)
def ref00_EqType_b (n : Nat) (Φ : ref00_EqType_F) (a1 : Typ) (b2 : Typ) : Option (Bool) :=
  cond (eqB a1.kind b2.kind) (
  cond (eqS a1.name b2.name) (
  cond (eqB a1.n b2.n) (
  (Φ.ref00_EqTypes a1.args b2.args).bind fun r3 =>
  some (r3)) (
  some (false))) (
  some (false))) (
  some (false))
def ref00_EqType_enc (a1 : Typ) (b2 : Typ) : Bool → Out
  | r501 => .ret (.bool r501) []
def ref00_EqTypes_l4 (n : Nat) (Φ : ref00_EqType_F) (a1 : List Typ) (b2 : List Typ) : Nat → Int → Option (Lr (Unit) (Bool))
  | 0, _ => none
  | m4 + 1, i503 =>
      cond (ltB i503 (List.length a1 : Int)) (
      (idx' a1 i503).bind fun x3 =>
      (idx' b2 i503).bind fun x4 =>
      (Φ.ref00_EqType x3 x4).bind fun r5 =>
      cond (!r5) (
      some (.out (false))) (
      ref00_EqTypes_l4 n Φ a1 b2 m4 (w64 (i503 + 1)))) (
      some (.brk ()))
def ref00_EqTypes_b (n : Nat) (Φ : ref00_EqType_F) (a1 : List Typ) (b2 : List Typ) : Option (Bool) :=
  cond (!eqB (List.length a1 : Int) (List.length b2 : Int)) (
  some (false)) (
  bindL (α := Unit) (
  ref00_EqTypes_l4 n Φ a1 b2 n 0) fun _ =>
  some (true))
def ref00_EqTypes_enc (a1 : List Typ) (b2 : List Typ) : Bool → Out
  | r501 => .ret (.bool r501) []
def ref00_EqType_F.fs : Nat → ref00_EqType_F
  | 0 => ⟨fun _ _ => none, fun _ _ => none⟩
  | n + 1 => ⟨ref00_EqType_b n (ref00_EqType_F.fs n), ref00_EqTypes_b n (ref00_EqType_F.fs n)⟩
def ref00_EqType (n : Nat) (a1 : Typ) (b2 : Typ) : Option (Bool) := (ref00_EqType_F.fs n).ref00_EqType a1 b2
def ref00_EqTypes (n : Nat) (a1 : List Typ) (b2 : List Typ) : Option (Bool) := (ref00_EqType_F.fs n).ref00_EqTypes a1 b2
noncomputable def law02_ParseTypes (n : Nat) (src1 : Str) : Option (Bool) :=
  (law02_long src1).bind fun _ =>
  cond (ltB 8200 (List.length src1 : Int)) (
  (awakeG).bind fun bb2 =>
  some (bb2)) (
  (parse_Type n src1).bind fun (r3, r4) =>
  (ref02_Type n src1).bind fun (r5, r6) =>
  cond ((eqB r4.code r6.code) && ((eqB r4.at_ r6.at_) && true)) (
  (ref00_EqType n r3 r5).bind fun r7 =>
  cond r7 (
  (awakeG).bind fun bb8 =>
  some (bb8)) (
  some (false))) (
  some (false)))
def law02_ParseTypes_enc (src1 : Str) : Bool → Out
  | r501 => .ret (.bool r501) []
end Go.Proofs.YtmonfppdiehlpaaGreatDoor
/- Both parsers read types alike: small readers, types. -/
namespace Go.Proofs.YtmonfppdiehlpaaGreatDoor
open Go Go.Vm
set_option linter.unusedVariables false
set_option linter.unusedSimpArgs false
set_option linter.unusedSectionVars false
set_option maxRecDepth 10000
theorem w64_id {a : Int} (h1 : -9223372036854775808 ≤ a) (h2 : a ≤ 9223372036854775807) : w64 a = a := by
  unfold w64
  simp only [IntKind.wrap, IntKind.bits, IntKind.signed]
  simp
  omega
theorem w64_succ {k : Nat} (h : k ≤ 1000000) : w64 ((k : Int) + 1) = ((k + 1 : Nat) : Int) := by rw [w64_id (by omega) (by omega)]; rfl
theorem ltB_t {a b : Int} (h : a < b) : ltB a b = true := by simp [ltB, h]
theorem ltB_f {a b : Int} (h : ¬ a < b) : ltB a b = false := by simp [ltB, h]
theorem leB_t {a b : Int} (h : a ≤ b) : leB a b = true := by simp [leB, h]
theorem leB_f {a b : Int} (h : ¬ a ≤ b) : leB a b = false := by simp [leB, h]
theorem eqB_t {a b : Int} (h : a = b) : eqB a b = true := by simp [eqB, h]
theorem eqB_f {a b : Int} (h : ¬ a = b) : eqB a b = false := by simp [eqB, h]
theorem eqS_refl (s : Str) : eqS s s = true := by simp [eqS]
theorem eqS_cons (a : UInt8) (r : Str) : eqS (a :: r) [] = false := by simp [eqS]
theorem idx_ok {α : Type} {l : List α} {i : Nat} (h : i < l.length) : idx' l (i : Int) = some l[i] := by
  have h1 : inR (i : Int) l.length = true := by simp [inR, h]
  simp [idx', h1, h]
theorem app_ok {α : Type} {b : Nat} {l m : List α} (h : (l.length + m.length) * (b + 1) ≤ 70368744177664) : app b l m = some (l ++ m) := by
  unfold app leN
  rw [decide_eq_true h]
/- tokens at a place -/
def isT (l : List Tok) (kind : Int) (s : Str) (k : Nat) : Bool := match l[k]? with
  | some t => eqB t.kind kind && eqS t.text s
  | none => false
def isK (l : List Tok) (kind : Int) (k : Nat) : Bool := match l[k]? with
  | some t => eqB t.kind kind
  | none => false
def hereT (l : List Tok) (size : Int) (k : Nat) : Int := match l[k]? with
  | some t => t.at_
  | none => size
def txtT (l : List Tok) (k : Nat) : Str := match l[k]? with
  | some t => t.text
  | none => []
theorem isT_lt {l : List Tok} {kind : Int} {s : Str} {k : Nat} (h : isT l kind s k = true) : k < l.length := by
  unfold isT at h
  rcases Nat.lt_or_ge k l.length with h1 | h1
  · exact h1
  · rw [List.getElem?_eq_none h1] at h; cases h
theorem isK_lt {l : List Tok} {kind : Int} {k : Nat} (h : isK l kind k = true) : k < l.length := by
  unfold isK at h
  rcases Nat.lt_or_ge k l.length with h1 | h1
  · exact h1
  · rw [List.getElem?_eq_none h1] at h; cases h
section
variable {l : List Tok} (hl : l.length ≤ 3000) {k : Nat} (hk : k ≤ l.length) (size pl : Int)
include hl hk
theorem is_ok (kind : Int) (s : Str) (hs : eqS s [] = false) : parse_parser_is 0 kind s l k size = some (isT l kind s k) := by
  unfold parse_parser_is isT
  rw [Int.add_zero, w64_id (by omega) (by omega)]
  rcases Nat.lt_or_ge k l.length with h | h
  · rw [leB_f (by omega), cond_false, idx_ok h, Option.bind_some, List.getElem?_eq_getElem h]
    simp only
    rw [hs]
    cases eqB l[k].kind kind <;> simp
  · rw [leB_t (by omega), cond_true, List.getElem?_eq_none h]
theorem isK_ok (kind : Int) : parse_parser_is 0 kind [] l k size = some (isK l kind k) := by
  unfold parse_parser_is isK
  rw [Int.add_zero, w64_id (by omega) (by omega)]
  rcases Nat.lt_or_ge k l.length with h | h
  · rw [leB_f (by omega), cond_false, idx_ok h, Option.bind_some, List.getElem?_eq_getElem h]
    simp only
    rw [eqS_refl]
    cases eqB l[k].kind kind <;> simp
  · rw [leB_t (by omega), cond_true, List.getElem?_eq_none h]
theorem here_ok : parse_parser_here l k size = some (hereT l size k) := by
  unfold parse_parser_here hereT
  rcases Nat.lt_or_ge k l.length with h | h
  · rw [ltB_t (by omega), cond_true, idx_ok h, Option.bind_some, List.getElem?_eq_getElem h]
  · rw [ltB_f (by omega), cond_false, List.getElem?_eq_none h]
theorem offset_ok : ref02_reader_offset l size k pl = some (hereT l size k) := by
  unfold ref02_reader_offset hereT
  rcases Nat.lt_or_ge k l.length with h | h
  · rw [ltB_t (by omega), cond_true, idx_ok h, Option.bind_some, List.getElem?_eq_getElem h]
  · rw [ltB_f (by omega), cond_false, List.getElem?_eq_none h]
theorem fail_ok : parse_parser_fail l k size = some (.pan (hereT l size k)) := by
  unfold parse_parser_fail
  rw [here_ok hl hk]; rfl
theorem next_ok (kind : Int) (s : Str) : ref02_reader_next kind s l size k pl = some (isT l kind s k) := by
  unfold ref02_reader_next isT
  rcases Nat.lt_or_ge k l.length with h | h
  · rw [ltB_t (by omega), cond_true, idx_ok h, Option.bind_some, Option.bind_some, List.getElem?_eq_getElem h]
    simp only
    cases eqB l[k].kind kind <;> simp
  · rw [ltB_f (by omega), cond_false, List.getElem?_eq_none h]
theorem rkind_ok (kind : Int) : ref02_reader_isKind kind l size k pl = some (isK l kind k) := by
  unfold ref02_reader_isKind isK
  rcases Nat.lt_or_ge k l.length with h | h
  · rw [ltB_t (by omega), cond_true, idx_ok h, Option.bind_some, List.getElem?_eq_getElem h]
  · rw [ltB_f (by omega), cond_false, List.getElem?_eq_none h]
/-- a sign, on both sides -/
theorem sg (s : Str) (hs : eqS s [] = false) :
    (isT l 8 s k = true ∧ k < l.length ∧ parse_parser_take s l k size = some (true, ((k + 1 : Nat) : Int)) ∧ ref02_reader_sign s l size k pl = some (true, ((k + 1 : Nat) : Int)) ∧ parse_parser_want s l k size = some (.ok ((k + 1 : Nat) : Int))) ∨
    (isT l 8 s k = false ∧ parse_parser_take s l k size = some (false, (k : Int)) ∧ ref02_reader_sign s l size k pl = some (false, (k : Int)) ∧ parse_parser_want s l k size = some (.pan (hereT l size k, (k : Int)))) := by
  have h1 : parse_parser_take s l k size = (some (isT l 8 s k)).bind fun r5 => cond (!r5) (some ((false, (k : Int)))) (some ((true, (w64 (k + 1))))) := by unfold parse_parser_take; rw [is_ok hl hk size 8 s hs]
  have h2 : ref02_reader_sign s l size k pl = ((some (isT l 8 s k)).bind fun r7 => cond r7 (some ((true, (w64 (k + 1))))) (some ((false, (k : Int))))).bind fun (r6, at7) => some ((r6, at7)) := by
    unfold ref02_reader_sign ref02_reader_take; rw [next_ok hl hk size pl 8 s]
  have h3 : ∀ b : Bool, ∀ q : Int, parse_parser_take s l k size = some (b, q) → parse_parser_want s l k size = cond (!b) (bindP (parse_parser_fail l q size) (fun (_ : Empty) => none) fun at7 => some (.pan (at7, q))) (some (.ok q)) := by
    intro b q h; unfold parse_parser_want; rw [h]; rfl
  cases hb : isT l 8 s k with
  | true =>
    have hlt := isT_lt hb
    rw [hb] at h1 h2
    simp only [Option.bind_some, Bool.not_true, cond_false, cond_true] at h1 h2
    rw [w64_succ (by omega)] at h1 h2
    refine .inl ⟨rfl, hlt, h1, h2, ?_⟩
    rw [h3 _ _ h1]; rfl
  | false =>
    rw [hb] at h1 h2
    simp only [Option.bind_some, Bool.not_false, cond_false, cond_true] at h1 h2
    refine .inr ⟨rfl, h1, h2, ?_⟩
    rw [h3 _ _ h1, fail_ok hl hk]; rfl
theorem ky (s : Str) (hs : eqS s [] = false) :
    (isT l 9 s k = true ∧ k < l.length ∧ parse_parser_key s l k size = some (true, ((k + 1 : Nat) : Int)) ∧ ref02_reader_key s l size k pl = some (true, ((k + 1 : Nat) : Int))) ∨
    (isT l 9 s k = false ∧ parse_parser_key s l k size = some (false, (k : Int)) ∧ ref02_reader_key s l size k pl = some (false, (k : Int))) := by
  have h1 : parse_parser_key s l k size = (some (isT l 9 s k)).bind fun r5 => cond (!r5) (some ((false, (k : Int)))) (some ((true, (w64 (k + 1))))) := by unfold parse_parser_key; rw [is_ok hl hk size 9 s hs]
  have h2 : ref02_reader_key s l size k pl = ((some (isT l 9 s k)).bind fun r7 => cond r7 (some ((true, (w64 (k + 1))))) (some ((false, (k : Int))))).bind fun (r6, at7) => some ((r6, at7)) := by
    unfold ref02_reader_key ref02_reader_take; rw [next_ok hl hk size pl 9 s]
  cases hb : isT l 9 s k with
  | true =>
    have hlt := isT_lt hb
    rw [hb] at h1 h2
    simp only [Option.bind_some, Bool.not_true, cond_false, cond_true] at h1 h2
    rw [w64_succ (by omega)] at h1 h2
    exact .inl ⟨rfl, hlt, h1, h2⟩
  | false =>
    rw [hb] at h1 h2
    simp only [Option.bind_some, Bool.not_false, cond_false, cond_true] at h1 h2
    exact .inr ⟨rfl, h1, h2⟩
theorem cap : (k < l.length ∧ parse_parser_capital l k size = some (.ok (txtT l k)) ∧ ref02_reader_word 2 l size k pl = some (txtT l k, true, ((k + 1 : Nat) : Int)) ∧ w64 ((k : Int) + 1) = ((k + 1 : Nat) : Int)) ∨
    (parse_parser_capital l k size = some (.pan (hereT l size k)) ∧ ref02_reader_word 2 l size k pl = some ([], false, (k : Int))) := by
  have h1 : parse_parser_capital l k size = bindP ((some (isK l 2 k)).bind fun r5 => cond (!r5) (bindP (parse_parser_fail l k size) (fun (_ : Empty) => none) fun at6 => some (.pan at6)) ((idx' l k).bind fun x7 => some (.ok x7))) (fun r4 => some (.ok r4.text)) fun at5 => some (.pan at5) := by
    unfold parse_parser_capital parse_parser_token; rw [isK_ok hl hk size 2]
  have h2 : ref02_reader_word 2 l size k pl = (some (isK l 2 k)).bind fun r6 => cond r6 ((idx' l k).bind fun x7 => some ((x7.text, true, (w64 (k + 1))))) (some (([], false, (k : Int)))) := by
    unfold ref02_reader_word; rw [rkind_ok hl hk size pl 2]
  cases hb : isK l 2 k with
  | true =>
    have hlt := isK_lt hb
    have ht : txtT l k = l[k].text := by unfold txtT; rw [List.getElem?_eq_getElem hlt]
    rw [hb, idx_ok hlt] at h1 h2
    simp only [Option.bind_some, Bool.not_true, cond_false, cond_true] at h1 h2
    rw [w64_succ (by omega)] at h2
    exact .inl ⟨hlt, by rw [h1, ht]; rfl, by rw [h2, ht], w64_succ (by omega)⟩
  | false =>
    rw [hb, fail_ok hl hk] at h1
    rw [hb] at h2
    exact .inr ⟨h1, h2⟩
end
/- sizes -/
mutual
def Typ.sz : Typ → Nat
  | ⟨_, _, _, a⟩ => 1 + szT a
def szT : List Typ → Nat
  | [] => 0
  | x :: r => x.sz + szT r
end
theorem Typ.sz_eq (x : Typ) : x.sz = 1 + szT x.args := by cases x; rfl
theorem szT_append : ∀ a b : List Typ, szT (a ++ b) = szT a + szT b
  | [], b => by simp [szT]
  | x :: a, b => by rw [List.cons_append, szT, szT, szT_append a b]; omega
theorem szT_one (x : Typ) : szT [x] = x.sz := by simp [szT]
theorem szT_mem {x : Typ} : ∀ {l : List Typ}, x ∈ l → x.sz ≤ szT l
  | y :: r, h => by
    simp only [szT]
    rcases List.mem_cons.1 h with rfl | h
    · omega
    · have := szT_mem h; omega
theorem szT_len : ∀ l : List Typ, l.length ≤ szT l
  | [] => Nat.le_refl _
  | x :: r => by have := szT_len r; have := x.sz_eq; simp only [szT, List.length_cons]; omega
/- the type of a name with arguments: the same on both sides -/
def kindOf (s : Str) (a : List Typ) : Int :=
  cond (eqB (List.length a : Int) 0 && eqS s [73, 110, 116]) 1 (cond (eqB (List.length a : Int) 0 && eqS s [66, 111, 111, 108]) 2 (cond (eqB (List.length a : Int) 0 && eqS s [84, 101, 120, 116]) 3 (cond (eqB (List.length a : Int) 0 && eqS s [85, 110, 105, 116]) 4
  (cond (eqB (List.length a : Int) 1 && eqS s [65, 114, 114, 97, 121]) 5 (cond (eqB (List.length a : Int) 1 && eqS s [87, 101, 97, 107]) 11 6)))))
def baseT (s : Str) (a : List Typ) : Typ := ⟨kindOf s a, cond (!eqB (kindOf s a) 6) [] s, 0, a⟩
theorem named_ok (s : Str) (a : List Typ) : parse_named s a = some (baseT s a) := by
  unfold parse_named baseT kindOf
  rcases a with _ | ⟨x, _ | ⟨y, r⟩⟩
  · rw [show eqB (List.length ([] : List Typ) : Int) 0 = true from eqB_t rfl, show eqB (List.length ([] : List Typ) : Int) 1 = false from eqB_f (by simp), show ltB 0 (List.length ([] : List Typ) : Int) = false from ltB_f (by simp)]
    cases eqS s [73, 110, 116] <;> cases eqS s [66, 111, 111, 108] <;> cases eqS s [84, 101, 120, 116] <;> cases eqS s [85, 110, 105, 116] <;> simp [bindL, eqB]
  · rw [show eqB (List.length [x] : Int) 0 = false from eqB_f (by simp), show eqB (List.length [x] : Int) 1 = true from eqB_t (by simp), show ltB 0 (List.length [x] : Int) = true from ltB_t (by simp)]
    cases h1 : eqS s [65, 114, 114, 97, 121] <;> cases h2 : eqS s [87, 101, 97, 107] <;> simp [bindL, eqB]
  · rw [show eqB (List.length (x :: y :: r) : Int) 0 = false from eqB_f (by simp; omega), show eqB (List.length (x :: y :: r) : Int) 1 = false from eqB_f (by simp; omega), show ltB 0 (List.length (x :: y :: r) : Int) = true from ltB_t (by simp; omega)]
    simp [bindL, eqB]
end Go.Proofs.YtmonfppdiehlpaaGreatDoor
/- Both parsers read types alike: types. -/
namespace Go.Proofs.YtmonfppdiehlpaaGreatDoor
open Go Go.Vm
set_option linter.unusedVariables false
set_option linter.unusedSimpArgs false
set_option linter.unusedSectionVars false
set_option maxRecDepth 10000
def SimT (l : List Tok) (size : Int) (k : Nat) (p : Option (Rs (Typ × Int) (Int × Int))) (r : Option (Typ × Bool × Int)) : Prop :=
  (∃ (t : Typ) (k' : Nat), p = some (.ok (t, (k' : Int))) ∧ r = some (t, true, (k' : Int)) ∧ k < k' ∧ k' ≤ l.length ∧ t.sz + k ≤ k') ∨
  (∃ (t : Typ) (k' : Nat), p = some (.pan (hereT l size k', (k' : Int))) ∧ r = some (t, false, (k' : Int)) ∧ k ≤ k' ∧ k' ≤ l.length)
section
variable {l : List Tok} (hl : l.length ≤ 3000) (size pl : Int) {Φ : parse_parser_typ_F} {Ψ : ref02_reader_typ_F} (n n' : Nat) {c : Nat}
  (IH : ∀ k, c ≤ k → k ≤ l.length → SimT l size k (Φ.parse_parser_typ l k size) (Ψ.ref02_reader_typ l size k pl))
include hl IH
theorem tail_sim {k0 : Nat} : ∀ (m m' : Nat) (args : List Typ) (k : Nat), c ≤ k + 1 → k ≤ l.length → l.length - k < m → l.length - k < m' → szT args + k0 ≤ k →
    (∃ (args' : List Typ) (k' : Nat), parse_parser_typ_l8 n Φ size l m args k = some (.brk (args', (k' : Int))) ∧ ((ref02_reader_sign [44] l size k pl).bind fun (r9, at10) => ref02_reader_types_l3 n' Ψ size l pl m' args r9 at10) = some (.brk (args', (k' : Int))) ∧ k ≤ k' ∧ k' ≤ l.length ∧ szT args' + k0 ≤ k') ∨
    (∃ (args' : List Typ) (k' : Nat), parse_parser_typ_l8 n Φ size l m args k = some (.out (.pan (hereT l size k', (k' : Int)))) ∧ ((ref02_reader_sign [44] l size k pl).bind fun (r9, at10) => ref02_reader_types_l3 n' Ψ size l pl m' args r9 at10) = some (.out (args', false, (k' : Int))) ∧ k ≤ k' ∧ k' ≤ l.length)
  | 0, m', args, k, h1, h2, h3, h5, h4 => by omega
  | m + 1, 0, args, k, h1, h2, h3, h5, h4 => by omega
  | m + 1, m' + 1, args, k, h1, h2, h3, h5, h4 => by
    simp only [parse_parser_typ_l8, ref02_reader_types_l3]
    rcases sg hl h2 size pl [44] (eqS_cons _ _) with ⟨_, hlt, hp, hr, _⟩ | ⟨_, hp, hr, _⟩
    · rw [hp, hr]
      simp only [Option.bind_some, cond_true]
      rcases IH (k + 1) h1 hlt with ⟨t, k', a, b, g1, g2, g3⟩ | ⟨t, k', a, b, g1, g2⟩
      · rw [a, b]
        have hlen := szT_len args
        have hap : app 56 args [t] = some (args ++ [t]) := app_ok (by simp only [List.length_singleton]; omega)
        simp only [bindP, Option.bind_some, Bool.not_true, cond_false]
        rw [hap]
        simp only [Option.bind_some]
        rcases tail_sim (k0 := k0) m m' (args ++ [t]) k' (by omega) g2 (by omega) (by omega) (by rw [szT_append, szT_one]; omega) with ⟨x1, x2, x3, x4, x5, x6, x7⟩ | ⟨x1, x2, x3, x4, x5, x6⟩
        · exact .inl ⟨x1, x2, x3, x4, by omega, x6, x7⟩
        · exact .inr ⟨x1, x2, x3, x4, by omega, x6⟩
      · rw [a, b]
        exact .inr ⟨_, k', rfl, rfl, by omega, g2⟩
    · rw [hp, hr]
      exact .inl ⟨args, k, rfl, rfl, Nat.le_refl _, h2, h4⟩
/-- a list of types with commas: it begins with one -/
theorem types_sim {k : Nat} (hc : c ≤ k) (hk : k ≤ l.length) (hn : l.length < n) (hn' : l.length < n') :
    (∃ (t : Typ) (k1 : Nat) (args : List Typ) (k2 : Nat), Φ.parse_parser_typ l k size = some (.ok (t, (k1 : Int))) ∧ app 56 ([] : List Typ) [t] = some [t] ∧ parse_parser_typ_l8 n Φ size l n [t] k1 = some (.brk (args, (k2 : Int))) ∧ ref02_reader_types_b n' Ψ l size k pl = some (args, true, (k2 : Int)) ∧ k < k2 ∧ k2 ≤ l.length ∧ szT args + k ≤ k2) ∨
    (∃ (args : List Typ) (k2 : Nat), Φ.parse_parser_typ l k size = some (.pan (hereT l size k2, (k2 : Int))) ∧ ref02_reader_types_b n' Ψ l size k pl = some (args, false, (k2 : Int)) ∧ k ≤ k2 ∧ k2 ≤ l.length) ∨
    (∃ (t : Typ) (k1 : Nat) (args : List Typ) (k2 : Nat), Φ.parse_parser_typ l k size = some (.ok (t, (k1 : Int))) ∧ app 56 ([] : List Typ) [t] = some [t] ∧ parse_parser_typ_l8 n Φ size l n [t] k1 = some (.out (.pan (hereT l size k2, (k2 : Int)))) ∧ ref02_reader_types_b n' Ψ l size k pl = some (args, false, (k2 : Int)) ∧ k ≤ k2 ∧ k2 ≤ l.length) := by
  have hap : ∀ t : Typ, app 56 ([] : List Typ) [t] = some [t] := fun t => app_ok (by simp)
  obtain ⟨q, rfl⟩ : ∃ q, n' = q + 1 := ⟨n' - 1, by omega⟩
  unfold ref02_reader_types_b
  simp only [ref02_reader_types_l3, cond_true]
  rcases IH k hc hk with ⟨t, k1, a, b, g1, g2, g3⟩ | ⟨t, k1, a, b, g1, g2⟩
  · rw [b]
    simp only [Option.bind_some, Bool.not_true, cond_false]
    rw [hap]
    simp only [Option.bind_some]
    rcases tail_sim hl size pl n (q + 1) IH (k0 := k) n q [t] k1 (by omega) g2 (by omega) (by omega) (by rw [szT_one]; omega) with ⟨x1, x2, x3, x4, x5, x6, x7⟩ | ⟨x1, x2, x3, x4, x5, x6⟩
    · refine .inl ⟨t, k1, x1, x2, a, hap t, x3, ?_, by omega, x6, x7⟩
      rw [x4]; rfl
    · refine .inr (.inr ⟨t, k1, x1, x2, a, hap t, x3, ?_, by omega, x6⟩)
      rw [x4]; rfl
  · rw [b]
    exact .inr (.inl ⟨[], k1, a, rfl, g1, g2⟩)
end
theorem l5_eq (n : Nat) (Φ : parse_parser_typ_F) (size : Int) (l : List Tok) : ∀ m args k, parse_parser_path_l5 n Φ size l m args k = parse_parser_typ_l8 n Φ size l m args k
  | 0, args, k => rfl
  | m + 1, args, k => by simp only [parse_parser_path_l5, parse_parser_typ_l8, l5_eq n Φ size l m]
section
variable {l : List Tok} (hl : l.length ≤ 3000) (size pl : Int)
include hl
theorem dots_sim {Φ : parse_parser_typ_F} {Ψ : ref02_reader_typ_F} (n n' : Nat) {k0 : Nat} : ∀ (m m' : Nat) (t : Typ) (k : Nat), k ≤ l.length → l.length - k < m → l.length - k + 1 < m' → t.sz + k0 ≤ k →
    (∃ (t' : Typ) (k' : Nat), parse_parser_path_l9 n Φ false size l m k t = some (.brk ((k' : Int), t')) ∧ ref02_reader_typ_l18 n' Ψ size l pl m' true k t = some (true, (k' : Int), t') ∧ k ≤ k' ∧ k' ≤ l.length ∧ t'.sz + k0 ≤ k') ∨
    (∃ (t' : Typ) (k' : Nat), parse_parser_path_l9 n Φ false size l m k t = some (.out (.pan (hereT l size k', (k' : Int)))) ∧ ref02_reader_typ_l18 n' Ψ size l pl m' true k t = some (false, (k' : Int), t') ∧ k ≤ k' ∧ k' ≤ l.length)
  | 0, m', t, k, h1, h2, h3, h4 => by omega
  | m + 1, 0, t, k, h1, h2, h3, h4 => by omega
  | m + 1, 1, t, k, h1, h2, h3, h4 => by omega
  | m + 1, m' + 2, t, k, h1, h2, h3, h4 => by
    have e : ∀ (b : Bool) (q : Int) (u : Typ), ref02_reader_typ_l18 n' Ψ size l pl (m' + 2) b q u = Option.bind (α := Bool × Int) (cond b ((ref02_reader_sign [46] l size q pl).bind fun (r28, at29) => some (r28, at29)) (some (false, q))) fun (x590, at591) =>
        cond x590 ((ref02_reader_word 2 l size at591 pl).bind fun (r30, r31, at32) => ref02_reader_typ_l18 n' Ψ size l pl (m' + 1) r31 at32 (⟨8, r30, 0, [u]⟩ : Typ)) (some (b, at591, u)) := fun _ _ _ => rfl
    have e1 : ∀ (q : Int) (u : Typ), ref02_reader_typ_l18 n' Ψ size l pl (m' + 1) false q u = some (false, q, u) := fun _ _ => rfl
    rw [e]
    simp only [parse_parser_path_l9, cond_true, cond_false]
    rcases sg hl h1 size pl [46] (eqS_cons _ _) with ⟨hb, hlt, hp, hr, _⟩ | ⟨hb, hp, hr, _⟩
    · rw [is_ok hl h1 size 8 [46] (eqS_cons _ _), hb, hr]
      simp only [Option.bind_some, cond_true]
      rw [w64_succ (by omega)]
      rcases cap hl hlt size pl with ⟨c1, c2, c3, c4⟩ | ⟨c2, c3⟩
      · rw [c2, c3, c4]
        simp only [bindP, Option.bind_some]
        rcases dots_sim (k0 := k0) n n' m (m' + 1) ⟨8, txtT l (k + 1), 0, [t]⟩ (k + 1 + 1) (by omega) (by omega) (by omega) (by rw [Typ.sz_eq]; simp only [szT_one]; omega) with ⟨x1, x2, x3, x4, x5, x6, x7⟩ | ⟨x1, x2, x3, x4, x5, x6⟩
        · exact .inl ⟨x1, x2, x3, x4, by omega, x6, x7⟩
        · exact .inr ⟨x1, x2, x3, x4, by omega, x6⟩
      · rw [c2, c3]
        simp only [bindP, Option.bind_some]
        rw [e1]
        exact .inr ⟨_, k + 1, rfl, rfl, by omega, hlt⟩
    · rw [is_ok hl h1 size 8 [46] (eqS_cons _ _), hb, hr]
      simp only [Option.bind_some, cond_false]
      exact .inl ⟨t, k, rfl, rfl, Nat.le_refl _, h1, h4⟩
/-- a path -/
theorem path_sim {R a b k : Nat} (ha : 4 * R + l.length + 8 ≤ a) (hb : 4 * R + l.length + 8 ≤ b) (hk : k ≤ l.length) (hR : l.length - k ≤ R)
    (IH : ∀ q n n', k < q → q ≤ l.length → 4 * R + l.length + 6 ≤ n → 4 * R + l.length + 6 ≤ n' → SimT l size q ((parse_parser_typ_F.fs n).parse_parser_typ l q size) ((ref02_reader_typ_F.fs n').ref02_reader_typ l size q pl)) (n' : Nat) (Ψ : ref02_reader_typ_F) (m : Nat) (hm : l.length + 1 < m) :
    SimT l size k (parse_parser_path_b a (parse_parser_typ_F.fs a) false l k size) ((ref02_reader_base_b b (ref02_reader_typ_F.fs b) l size k pl).bind fun (r25, r26, at27) => Option.bind (α := Bool × Int × Typ) (ref02_reader_typ_l18 n' Ψ size l pl m r26 at27 r25) fun (ok595, at596, n597) => some ((n597, ok595, at596))) := by
  obtain ⟨m, rfl⟩ : ∃ q, m = q + 1 := ⟨m - 1, by omega⟩
  have e1 : ∀ (q : Int) (u : Typ), ref02_reader_typ_l18 n' Ψ size l pl (m + 1) false q u = some (false, q, u) := fun _ _ => rfl
  unfold parse_parser_path_b ref02_reader_base_b
  rcases cap hl hk size pl with ⟨c1, c2, c3, c4⟩ | ⟨c2, c3⟩
  · rw [c2, c3, c4]
    simp only [bindP, Option.bind_some, Bool.not_true, cond_false]
    -- behind the arguments
    have fin : ∀ (args : List Typ) (q : Nat), k < q → q ≤ l.length → szT args + k + 1 ≤ q → SimT l size k
        ((parse_named (txtT l k) args).bind fun r23 => bindL (α := Int × Typ) (parse_parser_path_l9 a (parse_parser_typ_F.fs a) false size l a q r23) fun (at549, n550) => some (.ok (n550, at549)))
        (Option.bind (some (baseT (txtT l k) args, true, (q : Int))) fun (r25, r26, at27) => Option.bind (α := Bool × Int × Typ) (ref02_reader_typ_l18 n' Ψ size l pl (m + 1) r26 at27 r25) fun (ok595, at596, n597) => some ((n597, ok595, at596))) := by
      intro args q h1 h2 h3
      rw [named_ok, Option.bind_some]
      simp only [Option.bind_some]
      rcases dots_sim hl size pl (Φ := parse_parser_typ_F.fs a) (Ψ := Ψ) a n' (k0 := k) a (m + 1) (baseT (txtT l k) args) q h2 (by omega) (by omega) (by rw [Typ.sz_eq]; simp only [baseT]; omega) with ⟨x1, x2, x3, x4, x5, x6, x7⟩ | ⟨x1, x2, x3, x4, x5, x6⟩
      · rw [x3, x4]
        exact .inl ⟨x1, x2, rfl, rfl, by omega, x6, x7⟩
      · rw [x3, x4]
        exact .inr ⟨x1, x2, rfl, rfl, by omega, x6⟩
    have kind_ok : ∀ (args : List Typ) (q : Int), (Option.bind (α := Int) (
  Option.bind (α := Bool) (
  cond (eqB (List.length args : Int) 0) (
  some (eqS (txtT l k) [73, 110, 116])) (
  some false)) fun x559 =>
  cond x559 (
  some 1) (
  Option.bind (α := Bool) (
  cond (eqB (List.length args : Int) 0) (
  some (eqS (txtT l k) [66, 111, 111, 108])) (
  some false)) fun x560 =>
  cond x560 (
  some 2) (
  Option.bind (α := Bool) (
  cond (eqB (List.length args : Int) 0) (
  some (eqS (txtT l k) [84, 101, 120, 116])) (
  some false)) fun x561 =>
  cond x561 (
  some 3) (
  Option.bind (α := Bool) (
  cond (eqB (List.length args : Int) 0) (
  some (eqS (txtT l k) [85, 110, 105, 116])) (
  some false)) fun x562 =>
  cond x562 (
  some 4) (
  Option.bind (α := Bool) (
  cond (eqB (List.length args : Int) 1) (
  some (eqS (txtT l k) [65, 114, 114, 97, 121])) (
  some false)) fun x563 =>
  cond x563 (
  some 5) (
  Option.bind (α := Bool) (
  cond (eqB (List.length args : Int) 1) (
  some (eqS (txtT l k) [87, 101, 97, 107])) (
  some false)) fun x564 =>
  cond x564 (
  some 11) (
  some 6))))))) fun kind565 =>
  Option.bind (α := Str) (
  cond (!eqB kind565 6) (
  some []) (
  some (txtT l k))) fun s566 =>
  some (((⟨kind565, s566, 0, args⟩ : Typ), true, q))) = some (baseT (txtT l k) args, true, q) := by
      intro args q
      unfold baseT kindOf
      cases eqB (List.length args : Int) 0 <;> cases eqB (List.length args : Int) 1 <;> cases eqS (txtT l k) [73, 110, 116] <;> cases eqS (txtT l k) [66, 111, 111, 108] <;> cases eqS (txtT l k) [84, 101, 120, 116] <;> cases eqS (txtT l k) [85, 110, 105, 116] <;>
        cases eqS (txtT l k) [65, 114, 114, 97, 121] <;> cases eqS (txtT l k) [87, 101, 97, 107] <;> simp [eqB]
    rcases sg hl c1 size pl [60] (eqS_cons _ _) with ⟨_, hlt, hp, hr, _⟩ | ⟨_, hp, hr, _⟩
    · rw [hp, hr]
      simp only [Option.bind_some, cond_true]
      obtain ⟨b', rfl⟩ : ∃ q, b = q + 1 := ⟨b - 1, by omega⟩
      have hty : ∀ q : Int, (ref02_reader_typ_F.fs (b' + 1)).ref02_reader_types l size q pl = ref02_reader_types_b b' (ref02_reader_typ_F.fs b') l size q pl := fun _ => rfl
      rw [hty]
      simp only [l5_eq]
      rcases types_sim hl size pl (Φ := parse_parser_typ_F.fs a) (Ψ := ref02_reader_typ_F.fs b') a b' (c := k + 1) (fun q h1 h2 => IH q a b' (by omega) h2 (by omega) (by omega)) (k := k + 1 + 1) (by omega) hlt (by omega) (by omega) with
        ⟨t, k1, args, k2, y1, y2, y3, y4, y5, y6, y7⟩ | ⟨args, k2, y1, y2, y3, y4⟩ | ⟨t, k1, args, k2, y1, y2, y3, y4, y5, y6⟩
      · rw [y1, y4]
        simp only [bindP, Option.bind_some]
        rw [y2]
        simp only [Option.bind_some]
        rw [y3]
        simp only [bindQ, Bool.not_true, cond_false]
        rcases sg hl y6 size pl [62] (eqS_cons _ _) with ⟨_, hlt2, _, hr2, hw2⟩ | ⟨_, _, hr2, hw2⟩
        · rw [hw2, hr2]
          simp only [bindP, bindL, Option.bind_some, Bool.not_true, cond_false]
          rw [kind_ok]
          exact fin args (k2 + 1) (by omega) (by omega) (by omega)
        · rw [hw2, hr2]
          simp only [bindP, bindL, Option.bind_some, Bool.not_false, cond_true]
          rw [e1]
          exact .inr ⟨_, k2, rfl, rfl, by omega, y6⟩
      · rw [y1, y2]
        simp only [bindP, bindL, Option.bind_some, Bool.not_false, cond_true]
        rw [e1]
        exact .inr ⟨_, k2, rfl, rfl, by omega, y4⟩
      · rw [y1, y4]
        simp only [bindP, Option.bind_some]
        rw [y2]
        simp only [Option.bind_some]
        rw [y3]
        simp only [bindQ, bindL, Option.bind_some, Bool.not_false, cond_true]
        rw [e1]
        exact .inr ⟨_, k2, rfl, rfl, by omega, y6⟩
    · rw [hp, hr]
      simp only [bindL, Option.bind_some, cond_false]
      rw [kind_ok]
      exact fin [] (k + 1) (by omega) c1 (by simp [szT])
  · rw [c2, c3]
    simp only [bindP, Option.bind_some, Bool.not_false, cond_true]
    rw [e1]
    exact .inr ⟨_, k, rfl, rfl, Nat.le_refl _, hk⟩
/-- a type: one step -/
theorem typ_step {R n n' k : Nat} (ha : 4 * R + l.length + 10 ≤ n) (hb : 4 * R + l.length + 10 ≤ n') (hk : k ≤ l.length) (hR : l.length - k ≤ R)
    (IH : ∀ q n n', k < q → q ≤ l.length → 4 * R + l.length + 6 ≤ n → 4 * R + l.length + 6 ≤ n' → SimT l size q ((parse_parser_typ_F.fs n).parse_parser_typ l q size) ((ref02_reader_typ_F.fs n').ref02_reader_typ l size q pl)) :
    SimT l size k ((parse_parser_typ_F.fs n).parse_parser_typ l k size) ((ref02_reader_typ_F.fs n').ref02_reader_typ l size k pl) := by
  obtain ⟨a, rfl⟩ : ∃ q, n = q + 2 := ⟨n - 2, by omega⟩
  obtain ⟨b, rfl⟩ : ∃ q, n' = q + 2 := ⟨n' - 2, by omega⟩
  show SimT l size k (parse_parser_typ_b (a + 1) (parse_parser_typ_F.fs (a + 1)) l k size) (ref02_reader_typ_b (b + 1) (ref02_reader_typ_F.fs (b + 1)) l size k pl)
  unfold parse_parser_typ_b ref02_reader_typ_b
  rcases ky hl hk size pl [97, 110, 121] (eqS_cons _ _) with ⟨_, hlt, hp, hr⟩ | ⟨_, hp, hr⟩
  · rw [hp, hr]
    simp only [Option.bind_some, cond_true]
    rcases cap hl hlt size pl with ⟨c1, c2, c3, c4⟩ | ⟨c2, c3⟩
    · rw [c2, c3, c4]
      exact .inl ⟨_, k + 1 + 1, rfl, rfl, by omega, c1, by rw [Typ.sz_eq]; simp only [szT]; omega⟩
    · rw [c2, c3]
      exact .inr ⟨_, k + 1, rfl, rfl, by omega, hlt⟩
  · rw [hp, hr]
    simp only [Option.bind_some, cond_false]
    rcases sg hl hk size pl [40] (eqS_cons _ _) with ⟨_, hlt, hp, hr, _⟩ | ⟨_, hp, hr, _⟩
    · rw [hp, hr]
      simp only [Option.bind_some, Bool.not_true, cond_false, cond_true]
      -- behind the parameters
      have fin : ∀ (args : List Typ) (q : Nat), k < q → q ≤ l.length → szT args + k + 1 ≤ q → SimT l size k
          (bindP (parse_parser_want [45, 62] l q size) (fun at31 => bindP ((parse_parser_typ_F.fs (a + 1)).parse_parser_typ l at31 size) (fun (r32, at33) => (app 56 args ([r32] : List Typ)).bind fun l34 => some (.ok ((⟨10, [], 0, l34⟩ : Typ), at33))) fun (at35, at36) => some (.pan (at35, at36))) fun (at37, at38) => some (.pan (at37, at38)))
          ((ref02_reader_sign [45, 62] l size q pl).bind fun (r19, at20) => cond (!r19) (some (((⟨10, [], 0, args⟩ : Typ), false, at20))) (((ref02_reader_typ_F.fs (b + 1)).ref02_reader_typ l size at20 pl).bind fun (r21, r22, at23) => (app 56 args ([r21] : List Typ)).bind fun l24 => some (((⟨10, [], 0, l24⟩ : Typ), r22, at23)))) := by
        intro args q h1 h2 h3
        have hlen := szT_len args
        have hap : ∀ t : Typ, app 56 args [t] = some (args ++ [t]) := fun t => app_ok (by simp only [List.length_singleton]; omega)
        rcases sg hl h2 size pl [45, 62] (eqS_cons _ _) with ⟨_, hlt2, _, hr2, hw2⟩ | ⟨_, _, hr2, hw2⟩
        · rw [hw2, hr2]
          simp only [bindP, Option.bind_some, Bool.not_true, cond_false]
          rcases IH (q + 1) (a + 1) (b + 1) (by omega) hlt2 (by omega) (by omega) with ⟨t, k', x, y, g1, g2, g3⟩ | ⟨t, k', x, y, g1, g2⟩
          · rw [x, y]
            simp only [Option.bind_some]
            rw [hap]
            exact .inl ⟨_, k', rfl, rfl, by omega, g2, by rw [Typ.sz_eq]; simp only [szT_append, szT_one]; omega⟩
          · rw [x, y]
            simp only [Option.bind_some]
            rw [hap]
            exact .inr ⟨_, k', rfl, rfl, by omega, g2⟩
        · rw [hw2, hr2]
          exact .inr ⟨_, q, rfl, rfl, by omega, h2⟩
      rcases sg hl hlt size pl [41] (eqS_cons _ _) with ⟨_, hlt2, hp2, hr2, _⟩ | ⟨_, hp2, hr2, _⟩
      · rw [hp2, hr2]
        simp only [bindL, Option.bind_some, Bool.not_true, cond_false]
        exact fin [] (k + 1 + 1) (by omega) hlt2 (by simp only [szT]; omega)
      · rw [hp2, hr2]
        simp only [Option.bind_some, Bool.not_false, cond_true]
        have hty : ∀ q : Int, (ref02_reader_typ_F.fs (b + 1)).ref02_reader_types l size q pl = ref02_reader_types_b b (ref02_reader_typ_F.fs b) l size q pl := fun _ => rfl
        rw [hty]
        rcases types_sim hl size pl (Φ := parse_parser_typ_F.fs (a + 1)) (Ψ := ref02_reader_typ_F.fs b) (a + 1) b (c := k + 1) (fun q h1 h2 => IH q (a + 1) b (by omega) h2 (by omega) (by omega)) (k := k + 1) (by omega) hlt (by omega) (by omega) with
          ⟨t, k1, args, k2, y1, y2, y3, y4, y5, y6, y7⟩ | ⟨args, k2, y1, y2, y3, y4⟩ | ⟨t, k1, args, k2, y1, y2, y3, y4, y5, y6⟩
        · rw [y1, y4]
          simp only [bindP, Option.bind_some]
          rw [y2]
          simp only [Option.bind_some]
          rw [y3]
          simp only [bindQ, Bool.not_true, cond_false]
          rcases sg hl y6 size pl [41] (eqS_cons _ _) with ⟨_, hlt2, _, hr2, hw2⟩ | ⟨_, _, hr2, hw2⟩
          · rw [hw2, hr2]
            simp only [bindP, bindL, Option.bind_some, Bool.not_true, cond_false]
            exact fin args (k2 + 1) (by omega) hlt2 (by omega)
          · rw [hw2, hr2]
            simp only [bindP, bindL, Option.bind_some, Bool.not_false, cond_true]
            exact .inr ⟨_, k2, rfl, rfl, by omega, y6⟩
        · rw [y1, y2]
          simp only [bindP, bindL, Option.bind_some, Bool.not_false, cond_true]
          exact .inr ⟨_, k2, rfl, rfl, by omega, y4⟩
        · rw [y1, y4]
          simp only [bindP, Option.bind_some]
          rw [y2]
          simp only [Option.bind_some]
          rw [y3]
          simp only [bindQ, bindL, Option.bind_some, Bool.not_false, cond_true]
          exact .inr ⟨_, k2, rfl, rfl, by omega, y6⟩
    · rw [hp, hr]
      simp only [Option.bind_some, Bool.not_false, cond_true, cond_false]
      have hpa : ∀ q : Int, (parse_parser_typ_F.fs (a + 1)).parse_parser_path false l q size = parse_parser_path_b a (parse_parser_typ_F.fs a) false l q size := fun _ => rfl
      have hba : ∀ q : Int, (ref02_reader_typ_F.fs (b + 1)).ref02_reader_base l size q pl = ref02_reader_base_b b (ref02_reader_typ_F.fs b) l size q pl := fun _ => rfl
      rw [hpa, hba]
      rcases path_sim hl size pl (R := R) (a := a) (b := b) (k := k) (by omega) (by omega) hk hR IH (b + 1) (ref02_reader_typ_F.fs (b + 1)) (b + 1) (by omega) with ⟨t, k', x, y, g1, g2, g3⟩ | ⟨t, k', x, y, g1, g2⟩
      · rw [x, y]
        exact .inl ⟨t, k', rfl, rfl, g1, g2, g3⟩
      · rw [x, y]
        exact .inr ⟨t, k', rfl, rfl, g1, g2⟩
theorem typ_sim : ∀ (R n n' k : Nat), 4 * R + l.length + 10 ≤ n → 4 * R + l.length + 10 ≤ n' → k ≤ l.length → l.length - k ≤ R →
    SimT l size k ((parse_parser_typ_F.fs n).parse_parser_typ l k size) ((ref02_reader_typ_F.fs n').ref02_reader_typ l size k pl)
  | 0, n, n', k, h1, h2, h3, h4 => typ_step hl size pl h1 h2 h3 h4 fun q _ _ g1 g2 => by omega
  | R + 1, n, n', k, h1, h2, h3, h4 => typ_step hl size pl h1 h2 h3 h4 fun q m m' g1 g2 g3 g4 => typ_sim R m m' q (by omega) (by omega) g2 (by omega)
end
end Go.Proofs.YtmonfppdiehlpaaGreatDoor
/- How many nodes a type has, on both sides; a type is equal to itself. -/
namespace Go.Proofs.YtmonfppdiehlpaaGreatDoor
open Go Go.Vm
set_option linter.unusedVariables false
set_option linter.unusedSimpArgs false
set_option linter.unusedSectionVars false
set_option maxRecDepth 10000
theorem Typ.sz_pos (x : Typ) : 1 ≤ x.sz := by rw [x.sz_eq]; omega
theorem szT_take : ∀ {l : List Typ} {i : Nat} (h : i < l.length), szT (l.take (i + 1)) = szT (l.take i) + l[i].sz
  | y :: r, 0, h => by simp [szT]
  | y :: r, i + 1, h => by
    have := szT_take (l := r) (i := i) (by simpa using h)
    simp only [List.take_succ_cons, szT, List.getElem_cons_succ]
    omega
theorem szT_take_le : ∀ (l : List Typ) (i : Nat), szT (l.take i) ≤ szT l
  | [], i => by simp
  | y :: r, 0 => by simp [szT]
  | y :: r, i + 1 => by
    have := szT_take_le r i
    simp only [List.take_succ_cons, szT]
    omega
theorem ts_loop {n : Nat} {t : Typ} {Φ : parse_typeSize_F} (hsz : t.sz ≤ 3000) (hΦ : ∀ x ∈ t.args, Φ.parse_typeSize x = some (x.sz : Int)) :
    ∀ (m i : Nat), i ≤ t.args.length → t.args.length - i < m → parse_typeSize_l3 n Φ t m ((1 + szT (t.args.take i) : Nat) : Int) (i : Int) = some (t.sz : Int)
  | 0, i, h1, h2 => by omega
  | m + 1, i, h1, h2 => by
    have hs := t.sz_eq
    have hl := szT_len t.args
    simp only [parse_typeSize_l3]
    by_cases hi : i < t.args.length
    · have e := szT_take hi
      have e2 := szT_take_le t.args (i + 1)
      rw [ltB_t (by omega), cond_true, idx_ok hi, Option.bind_some, hΦ _ (List.getElem_mem hi), Option.bind_some, w64_id (by omega) (by omega), w64_id (by omega) (by omega)]
      have h := ts_loop (n := n) hsz hΦ m (i + 1) hi (by omega)
      rw [e] at h
      rw [show ((1 + szT (t.args.take i) : Nat) : Int) + ((t.args[i].sz : Nat) : Int) = ((1 + (szT (t.args.take i) + t.args[i].sz) : Nat) : Int) from by omega]
      exact h
    · rw [ltB_f (by omega), cond_false]
      rw [List.take_of_length_le (by omega), hs]
theorem ts_ok : ∀ (k : Nat) (t : Typ) (n : Nat), t.sz ≤ k → t.sz ≤ 3000 → t.sz + 1 ≤ n → parse_typeSize n t = some (t.sz : Int)
  | 0, t, n, h1, h2, h3 => by have := t.sz_pos; omega
  | k + 1, t, 0, h1, h2, h3 => by omega
  | k + 1, t, n + 1, h1, h2, h3 => by
    have hs := t.sz_eq
    have hl := szT_len t.args
    show parse_typeSize_b n (parse_typeSize_F.fs n) t = _
    unfold parse_typeSize_b
    have g : parse_typeSize_l3 n (parse_typeSize_F.fs n) t n 1 0 = some (t.sz : Int) := by
      have := ts_loop (n := n) (t := t) (Φ := parse_typeSize_F.fs n) h2 (fun x hx => ts_ok k x n (by have := szT_mem hx; omega) (by have := szT_mem hx; omega) (by have := szT_mem hx; omega)) n 0 (Nat.zero_le _) (by omega)
      simpa [szT] using this
    rw [g]; rfl
/-- counted up to a number -/
def Cnt (sz : Nat) (most r : Int) : Prop := 1 ≤ r ∧ r ≤ sz ∧ (r < most → r = sz)
theorem ty_loop {n : Nat} {most : Int} {t : Typ} {Φ : ref02_Types_F} (hm : most ≤ 3000) (hsz : t.sz ≤ 3000) (hΦ : ∀ x ∈ t.args, ∀ q : Int, 1 ≤ q → q ≤ 3000 → ∃ r, Φ.ref02_Types x q = some r ∧ Cnt x.sz q r) :
    ∀ (m i : Nat) (acc : Int), i ≤ t.args.length → t.args.length - i < m → Cnt (1 + szT (t.args.take i)) most acc → ∃ r, ref02_Types_l3 n Φ most t m acc (i : Int) = some r ∧ Cnt t.sz most r
  | 0, i, acc, h1, h2, h3 => by omega
  | m + 1, i, acc, h1, h2, h3 => by
    have hs := t.sz_eq
    have hl := szT_len t.args
    have e2 := szT_take_le t.args i
    obtain ⟨h4, h5, h6⟩ := h3
    simp only [ref02_Types_l3]
    by_cases hi : i < t.args.length
    · have e := szT_take hi
      have e3 := szT_take_le t.args (i + 1)
      rw [ltB_t (by omega), cond_true, Option.bind_some]
      by_cases ha : acc < most
      · rw [ltB_t ha, cond_true, idx_ok hi, Option.bind_some, w64_id (by omega) (by omega)]
        obtain ⟨r, g1, g2, g3, g4⟩ := hΦ t.args[i] (List.getElem_mem hi) (most - acc) (by omega) (by omega)
        have h6 := h6 ha
        rw [g1, Option.bind_some, w64_id (by omega) (by omega), w64_id (by omega) (by omega)]
        refine ty_loop (n := n) hm hsz hΦ m (i + 1) (acc + r) hi (by omega) ⟨by omega, by rw [e]; omega, fun h => ?_⟩
        have := g4 (by omega)
        rw [e]; omega
      · rw [ltB_f ha, cond_false]
        exact ⟨acc, rfl, h4, by omega, fun h => absurd h ha⟩
    · rw [ltB_f (by omega), cond_false, Option.bind_some, cond_false]
      rw [List.take_of_length_le (by omega)] at h5 h6
      exact ⟨acc, rfl, h4, by omega, fun h => by have := h6 h; omega⟩
theorem ty_ok : ∀ (k : Nat) (t : Typ) (n : Nat) (most : Int), 1 ≤ most → most ≤ 3000 → t.sz ≤ k → t.sz ≤ 3000 → t.sz + 1 ≤ n → ∃ r, ref02_Types n t most = some r ∧ Cnt t.sz most r
  | 0, t, n, most, hm, hm2, h1, h2, h3 => by have := t.sz_pos; omega
  | k + 1, t, 0, most, hm, hm2, h1, h2, h3 => by omega
  | k + 1, t, n + 1, most, hm, hm2, h1, h2, h3 => by
    have hs := t.sz_eq
    have hl := szT_len t.args
    show ∃ r, ref02_Types_b n (ref02_Types_F.fs n) t most = some r ∧ _
    unfold ref02_Types_b
    obtain ⟨r, g1, g2⟩ := ty_loop (n := n) (Φ := ref02_Types_F.fs n) (t := t) hm2 h2 (fun x hx q hq hq2 => ty_ok k x n q hq hq2 (by have := szT_mem hx; omega) (by have := szT_mem hx; omega) (by have := szT_mem hx; omega)) n 0 1 (Nat.zero_le _) (by omega) ⟨Int.le_refl _, by simp [szT], fun h => by simp [szT]⟩
    have g1 : ref02_Types_l3 n (ref02_Types_F.fs n) most t n 1 0 = some r := g1
    rw [g1]
    exact ⟨r, rfl, g2⟩
/- a type is equal to itself -/
theorem et_loop {n : Nat} {l : List Typ} {Φ : ref00_EqType_F} (hlen : l.length ≤ 3000) (hΦ : ∀ y ∈ l, Φ.ref00_EqType y y = some true) : ∀ (m i : Nat), i ≤ l.length → l.length - i < m → ref00_EqTypes_l4 n Φ l l m (i : Int) = some (.brk ())
  | 0, i, h1, h2 => by omega
  | m + 1, i, h1, h2 => by
    simp only [ref00_EqTypes_l4]
    by_cases hi : i < l.length
    · rw [ltB_t (by omega), cond_true, idx_ok hi, Option.bind_some, Option.bind_some, hΦ _ (List.getElem_mem hi), Option.bind_some]
      simp only [Bool.not_true, cond_false]
      rw [w64_id (by omega) (by omega)]
      exact et_loop (n := n) hlen hΦ m (i + 1) hi (by omega)
    · rw [ltB_f (by omega), cond_false]
theorem et_ok : ∀ (k : Nat) (t : Typ) (n : Nat), t.sz ≤ k → t.sz ≤ 3000 → 2 * t.sz + 1 ≤ n → (ref00_EqType_F.fs n).ref00_EqType t t = some true
  | 0, t, n, h1, h2, h3 => by have := t.sz_pos; omega
  | k + 1, t, 0, h1, h2, h3 => by omega
  | k + 1, t, 1, h1, h2, h3 => by have := t.sz_pos; omega
  | k + 1, t, n + 2, h1, h2, h3 => by
    have hs := t.sz_eq
    have hl := szT_len t.args
    show ref00_EqType_b (n + 1) (ref00_EqType_F.fs (n + 1)) t t = some true
    unfold ref00_EqType_b
    have hg : (ref00_EqType_F.fs (n + 1)).ref00_EqTypes t.args t.args = some true := by
      show ref00_EqTypes_b n (ref00_EqType_F.fs n) t.args t.args = some true
      unfold ref00_EqTypes_b
      rw [eqB_t rfl]
      simp only [Bool.not_true, cond_false]
      have h : ref00_EqTypes_l4 n (ref00_EqType_F.fs n) t.args t.args n 0 = some (.brk ()) := et_loop (by omega) (fun y hy => et_ok k y n (by have := szT_mem hy; omega) (by have := szT_mem hy; omega) (by have := szT_mem hy; omega)) n 0 (Nat.zero_le _) (by omega)
      rw [h]; rfl
    rw [eqB_t rfl, eqS_refl, eqB_t rfl, cond_true, cond_true, cond_true, hg]
    rfl
end Go.Proofs.YtmonfppdiehlpaaGreatDoor
/- guarded(p, f): it calls f; where f stops, the fault of that stop is returned: a contract that makes one call. (Printed by a program.) -/
namespace Go.Proofs.YtmonfppdiehlpaaGreatDoor
set_option linter.unusedSimpArgs false
set_option linter.unusedVariables false
set_option linter.unusedSectionVars false
open Go Go.Vm
set_option maxRecDepth 100000
set_option maxHeartbeats 4000000
set_option linter.unusedVariables false
set_option linter.unusedSimpArgs false

theorem cell_lt {w : World} {b o : Nat} {x : Value} (h : w.cell? ⟨b, o, none⟩ = some x) : b < w.heap.size := cellAt_lt h

theorem catch_stop (b o : Nat) (x y : Int) (fa fb : Int) (u : Value) (older : List PanicEntry) (w : World) (h0 : w.cell? ⟨b, o, none⟩ = some (.int .i64 x)) (h1 : w.cell? ⟨b, o + 1, none⟩ = some (.int .i64 y)) (z0 : w.frozen? ⟨b, o, none⟩ = false) (z1 : w.frozen? ⟨b, o + 1, none⟩ = false) :
    CallsD Tryz.prog 82 #[.pointer (some ⟨b, o, none⟩)] (.panicking ({ v := .iface 110 (.agg #[.int .i64 fa, .int .i64 fb]), recovered := false } :: older)) w fun e u' w' =>
      e = .returned (.tuple #[]) ∧ u' = .panicking ({ v := .iface 110 (.agg #[.int .i64 fa, .int .i64 fb]), recovered := true } :: older) ∧
      w' = ((w.setCell ⟨b, o, none⟩ (.int .i64 fa)).setCell ⟨b, o + 1, none⟩ (.int .i64 fb)).alloc (.cells #[.int .i64 fa, .int .i64 fb] 110) := by
  refine callsD_of_wpS Tryz.func82 rfl fun c₀ cs hu => ?_
  apply wpS_seq
  apply wpS_region
  simp [wpOpsS, go_sem, recoverD, hu, Tryz.ntmps82, Exit.thenS]
  refine wpS_of_wp ?_
  go_wp2
  have hta : (Instr.typeAssert (.iface 110 (.agg #[.int .i64 fa, .int .i64 fb])) 20 110 true).run Tryz.prog w = .ok (.tuple #[.agg #[.int .i64 fa, .int .i64 fb], .bool true]) w := by
    simp only [Instr.typeAssert, Sem.run_bind, run_underlying Tryz.underlying110, Result.andThen_ok]
    simp
  rw [hta]
  simp only [Result.andThen]
  rw [Oper.upon_value]
  have hb := cell_lt h0
  have G : Grew w (w.alloc (.cells #[.int .i64 fa, .int .i64 fb] 110)) := Grew.push w _
  have a0 := (G.cell hb o).trans h0
  have a1 := (G.cell hb (o + 1)).trans h1
  have y0 := (G.frozen hb o).trans z0
  have y1 := (G.frozen hb (o + 1)).trans z1
  unfold cellAt at a0 a1
  have a2 : ((w.alloc (.cells #[.int .i64 fa, .int .i64 fb] 110)).setCell ⟨b, o, none⟩ (.int .i64 fa)).cell? ⟨b, o + 1, none⟩ = some (.int .i64 y) := (World.cell?_setCell_other _ _ _ _ (by simp)).trans a1
  have y2 : ((w.alloc (.cells #[.int .i64 fa, .int .i64 fb] 110)).setCell ⟨b, o, none⟩ (.int .i64 fa)).frozen? ⟨b, o + 1, none⟩ = false := by simp [y1]
  go_wp2
  obtain ⟨a₀, b₀, e₀, d₀, f₀, g₀, h₀⟩ := c₀
  subst hu
  simp [bodyPostS, results, Tryz.results82]

theorem catch_idle (p : Addr) (w : World) :
    CallsD Tryz.prog 82 #[.pointer (some p)] .returning w fun e u' w' => e = .returned (.tuple #[]) ∧ u' = .returning ∧ w' = w := by
  refine callsD_of_wpS Tryz.func82 rfl fun c₀ cs hu => ?_
  apply wpS_seq
  apply wpS_region
  simp [wpOpsS, go_sem, recoverD, hu, Tryz.ntmps82, Exit.thenS]
  refine wpS_of_wp ?_
  go_wp2
  cases c₀
  simp_all [bodyPostS, results, Tryz.results82]

def gClo : List Nat := [42, 75, 78]
def gPre : List V → Hp → Option (Nat × List V × Hp) := fun args H => match args with
  | [.ptr _ _, .func (.func g) a c] => gd (has g gClo) (some (g, a ++ c, sealH H))
  | _ => none
def gPost : List V → Hp → Out → Option Out := fun _ _ o => match o with
  | .ret (.tuple []) H1 => some (.ret (.agg [.int .i64 0, .int .i64 0]) H1)
  | .pan (.iface t (.agg [.int .i64 a, .int .i64 b])) H1 => gd (Nat.beq t 110) (some (.ret (.agg [.int .i64 a, .int .i64 b]) H1))
  | _ => none
theorem clo_known {g : Nat} (h : has g gClo = true) : ∃ fn c, Tryz.prog.funcs[g]? = some fn ∧ (fn.name == "runtime.NumGoroutine") = false ∧ fn.body = some c := by
  have : g = 42 ∨ g = 75 ∨ g = 78 := by
    simp only [has, gClo] at h
    split at h
    · exact .inl (Nat.eq_of_beq_eq_true (by assumption)).symm
    · split at h
      · exact .inr (.inl (Nat.eq_of_beq_eq_true (by assumption)).symm)
      · split at h
        · exact .inr (.inr (Nat.eq_of_beq_eq_true (by assumption)).symm)
        · cases h
  rcases this with rfl | rfl | rfl
  · exact ⟨_, _, Tryz.func42, rfl, rfl⟩
  · exact ⟨_, _, Tryz.func75, rfl, rfl⟩
  · exact ⟨_, _, Tryz.func78, rfl, rfl⟩

theorem agg2 {ρ : Rho} {lab : Lab} {w : World} (a b : Int) : ∀ (i : Nat) (v : V) (x : Value), [V.int .i64 a, .int .i64 b][i]? = some v → [Value.int .i64 a, .int .i64 b][i]? = some x → Rel ρ lab w v x
  | 0, _, _, h, g => by cases h; cases g; exact .int _ _
  | 1, _, _, h, g => by cases h; cases g; exact .int _ _
  | i + 2, _, _, h, g => by simp at h
theorem guarded_via : ViaOk Tryz.prog 41 gPre gPost := by
  refine ⟨fun args H g' l H' o out hp ho ρ lab w xs hc hS hx hcall => ?_, ⟨_, _, Tryz.func41, rfl, rfl⟩⟩
  unfold gPre at hp
  split at hp
  · rename_i args0 r off g0 a c
    obtain ⟨hg, hp⟩ := gd_some hp
    cases hp
    obtain ⟨x1, xr0, rfl, r1, r2⟩ := relL_cons_iff.1 hx
    obtain ⟨x2, xr, rfl, r3, r4⟩ := relL_cons_iff.1 r2
    have : xr = [] := by have := r4.1; simpa using this
    subst this
    cases r3 with
    | func _ _ _ us ys u1 u2 u3 u4 =>
    obtain ⟨fn, cd, k1, k2, k3⟩ := clo_known hg
    have hrun : ∀ args w, (callFunc g' args).run Tryz.prog w = .ok (.enter g' args) w := fun args w => by
      have h1 : fn.name ≠ "runtime.NumGoroutine" := by simpa using k2
      simp [callFunc, k1, h1, k3]
    have G : Grew w (w.alloc (.cells #[.int .i64 0, .int .i64 0] 40)) := Grew.push w _
    have hB : w.heap.size < (w.alloc (.cells #[.int .i64 0, .int .i64 0] 40)).heap.size := by
      show w.heap.size < (w.heap.push _).size
      rw [Array.size_push]; omega
    have hS1 := (hS.mine G hB).sealH
    have hl : RelL ρ lab w (a ++ c) (us ++ ys) := RelL.append ⟨u1, u3⟩ ⟨u2, u4⟩
    have hl1 := hl.carry (mineF G)
    have hK := hcall ρ _ _ (us ++ ys) (canon_sealH _ _ hc) hS1 hl1
    have C0 : (w.alloc (.cells #[.int .i64 0, .int .i64 0] 40)).cell? ⟨w.heap.size, 0, none⟩ = some (.int .i64 0) := by simp
    have C1 : (w.alloc (.cells #[.int .i64 0, .int .i64 0] 40)).cell? ⟨w.heap.size, 1, none⟩ = some (.int .i64 0) := by simp
    have Z0 : (w.alloc (.cells #[.int .i64 0, .int .i64 0] 40)).frozen? ⟨w.heap.size, 0, none⟩ = false := by simp
    have Z1 : (w.alloc (.cells #[.int .i64 0, .int .i64 0] 40)).frozen? ⟨w.heap.size, 1, none⟩ = false := by simp
    have hmf : ∀ (fn : Fn) (first cap : Array Value) (w : World), (Instr.makeFunc fn first cap).run Tryz.prog w = .ok (.func fn first cap) w := fun _ _ _ _ => rfl
    clear hcall hx r1 r2 r4 u3 u4 hl hl1 hS1
    generalize hw1 : w.alloc (.cells #[.int .i64 0, .int .i64 0] 40) = w1 at *
    go_enter_defers Tryz.func41, Tryz.ntmps41
    go_wp2
    refine hK.mono ?_
    intro e w2 hP
    unfold gPost at ho
    split at ho
    · rename_i H1
      cases ho
      cases e with
      | returned x =>
        obtain ⟨ρ', lab', s1, s2, s3, s4, s5, s6⟩ := hP
        have hx0 : x = .tuple #[] := by
          cases s4 with
          | tuple _ zs h1 h2 =>
            have : zs = [] := by simpa using h1
            subst this; rfl
        subst hx0
        obtain ⟨d0, e0⟩ := mine_cell s2 hB 0
        obtain ⟨d1, e1⟩ := mine_cell s2 hB 1
        have d0 := d0.trans C0
        have d1 := d1.trans C1
        have E := Ext.left hS G hB s2 (Wrote.refl _ w2)
        have S := s1.left s2 (Wrote.refl _ w2)
        unfold cellAt at d0 d1
        go_wp2
        refine leaves_cons (f := 82) (args := #[.pointer (some ⟨w.heap.size, 0, none⟩)]) (by simp) (by simp [go_sem]) ?_
        refine (catch_idle ⟨w.heap.size, 0, none⟩ _).mono ?_
        rintro e u' w'' ⟨rfl, rfl, rfl⟩
        simp [Leaves, settle, results, Tryz.results41, go_sem, d0, d1]
        rw [sealH_length] at s3 s6
        exact ⟨ρ', _, S, E, s3, .agg _ [.int .i64 0, .int .i64 0] rfl (agg2 _ _), s5, s6⟩
      | panicked ch => exact hP.elim
      | outgrown => exact hP.elim
    · rename_i t fa fb H1
      obtain ⟨ht, ho⟩ := gd_some ho
      cases ho
      have ht := Nat.eq_of_beq_eq_true ht
      subst ht
      cases e with
      | returned x => exact hP.elim
      | panicked ch =>
        obtain ⟨x, rfl, ρ', lab', s1, s2, s3, s4, s5, s6⟩ := hP
        obtain ⟨xv, rfl, s7⟩ : ∃ xv, x = .iface 110 xv ∧ xv = .agg #[.int .i64 fa, .int .i64 fb] := by
          cases s4 with
          | iface _ _ xv h =>
            refine ⟨xv, rfl, ?_⟩
            cases h with
            | agg _ zs h1 h2 =>
              match zs, h1, h2 with
              | [z0, z1], _, h2 =>
                have q0 := h2 0 _ z0 rfl rfl
                have q1 := h2 1 _ z1 rfl rfl
                cases q0; cases q1; rfl
        subst s7
        obtain ⟨d0, e0⟩ := mine_cell s2 hB 0
        obtain ⟨d1, e1⟩ := mine_cell s2 hB 1
        have d0 := d0.trans C0
        have d1 := d1.trans C1
        have e0 := e0.trans Z0
        have e1 := e1.trans Z1
        unfold cellAt at d0 d1
        have hsz : w.heap.size < w2.heap.size := Nat.lt_of_lt_of_le hB s2.size
        have hW : Wrote w.heap.size w2 (((w2.setCell ⟨w.heap.size, 0, none⟩ (.int .i64 fa)).setCell ⟨w.heap.size, 0 + 1, none⟩ (.int .i64 fb)).alloc (.cells #[.int .i64 fa, .int .i64 fb] 110)) := by
          refine ⟨?_, rfl, rfl, rfl, fun b hb hn => ?_⟩
          · refine Nat.le_trans ?_ (Grew.push _ _).size
            rw [World.size_setCell, World.size_setCell]
            exact Nat.le_refl _
          · refine ((Grew.push _ _).blk b (by rw [World.size_setCell, World.size_setCell]; exact hb)).trans ?_
            rw [heap_setCell_other _ _ _ _ hn, heap_setCell_other _ _ _ _ hn]
        have c0 : (w2.setCell ⟨w.heap.size, 0, none⟩ (.int .i64 fa)).cell? ⟨w.heap.size, 0 + 1, none⟩ = some (.int .i64 0) := (World.cell?_setCell_other _ _ _ _ (by simp)).trans d1
        have f1 : ((w2.setCell ⟨w.heap.size, 0, none⟩ (.int .i64 fa)).setCell ⟨w.heap.size, 0 + 1, none⟩ (.int .i64 fb)).cell? ⟨w.heap.size, 0 + 1, none⟩ = some (.int .i64 fb) := World.cell?_setCell_same _ _ _ c0
        have f0 : ((w2.setCell ⟨w.heap.size, 0, none⟩ (.int .i64 fa)).setCell ⟨w.heap.size, 0 + 1, none⟩ (.int .i64 fb)).cell? ⟨w.heap.size, 0, none⟩ = some (.int .i64 fa) := (World.cell?_setCell_other _ _ _ _ (by simp)).trans (World.cell?_setCell_same _ _ _ d0)
        have hsz2 : w.heap.size < ((w2.setCell ⟨w.heap.size, 0, none⟩ (.int .i64 fa)).setCell ⟨w.heap.size, 0 + 1, none⟩ (.int .i64 fb)).heap.size := by rw [World.size_setCell, World.size_setCell]; exact hsz
        have GT : Grew _ (((w2.setCell ⟨w.heap.size, 0, none⟩ (.int .i64 fa)).setCell ⟨w.heap.size, 0 + 1, none⟩ (.int .i64 fb)).alloc (.cells #[.int .i64 fa, .int .i64 fb] 110)) := Grew.push _ _
        have f0 := (GT.cell hsz2 0).trans f0
        have f1 := (GT.cell hsz2 (0 + 1)).trans f1
        unfold cellAt at f0 f1
        simp only [Nat.zero_add] at f0 f1
        have E := Ext.left hS G hB s2 hW
        have S := s1.left s2 hW
        go_wp2
        refine leaves_cons (f := 82) (args := #[.pointer (some ⟨w.heap.size, 0, none⟩)]) (by simp) (by simp [go_sem]) ?_
        refine (catch_stop w.heap.size 0 0 0 fa fb .nilIface [] w2 d0 d1 e0 e1).mono ?_
        rintro e u' w'' ⟨rfl, rfl, rfl⟩
        simp [Leaves, settle, results, Tryz.results41, go_sem, f0, f1]
        rw [sealH_length] at s3 s6
        exact ⟨ρ', _, S, E, s3, .agg _ [.int .i64 fa, .int .i64 fb] rfl (agg2 _ _), s5, s6⟩
      | outgrown => exact hP.elim
    · cases ho
  · cases hp
end Go.Proofs.YtmonfppdiehlpaaGreatDoor
/-
  DERIVED: THE SHELF's CONTRACTS AT THIS DUMP, IN PLAIN WORDS (tools/lay-plain.mjs out of 'TryzShelf.lean', which tools/lay-shelf.mjs wrote): THE SAME DECLARATIONS UNDER THE SAME NAMES: 'import', 'namespace', 'open', 'def', 'theorem' AND NOTHING ELSE: no command of the shelf's: FOR A HAND-IN. Each laying: the table of numbers ('.._ren') and one theorem, a field a fact of the dump's own or the kernel's comparison; each contract: ONE APPLICATION.
-/
namespace Go.Proofs
set_option linter.unusedSimpArgs false
set_option linter.unusedVariables false
set_option linter.unusedSectionVars false
open Go.Shelf
def Tryz.lays169_ren : Go.Shelf.Ren := ⟨fun | 169 => 60 | n => n, fun | 70 => 80 | 9 => 9 | 0 => 0 | 72 => 83 | 37 => 81 | 127 => 132 | 3 => 3 | 5 => 5 | n => n, fun | n => n⟩
theorem Tryz.lays169 : Go.Proofs.Lays.n169 Tryz.prog Tryz.lays169_ren := {
  mixed := by kernel_rfl
  f169 := Tryz.func60.trans (congrArg some (by kernel_rfl))
  t0 := Tryz.underlying0
  a0 := Tryz.isAgg0
  z0 := Tryz.sizeOf0
  v0 := Tryz.zeroValue0
  t3 := Tryz.underlying3
  a3 := Tryz.isAgg3
  z3 := Tryz.sizeOf3
  v3 := Tryz.zeroValue3
  t9 := Tryz.underlying9
  a9 := Tryz.isAgg9
  z9 := Tryz.sizeOf9
  v9 := Tryz.zeroValue9
  t37 := Tryz.underlying81
  a37 := Tryz.isAgg81
  z37 := Tryz.sizeOf81
  v37 := Tryz.zeroValue81
  t70 := Tryz.underlying80
  a70 := Tryz.isAgg80
  z70 := Tryz.sizeOf80
  v70 := Tryz.zeroValue80
  t72 := Tryz.underlying83
  a72 := Tryz.isAgg83
  z72 := Tryz.sizeOf83
  v72 := Tryz.zeroValue83
  t127 := Tryz.underlying132
  a127 := Tryz.isAgg132
  z127 := Tryz.sizeOf132
  v127 := Tryz.zeroValue132 }
theorem Tryz.Builder_Extra_169 : Builder.Extra Tryz.prog Tryz.lays169_ren := {
  sizeBuilder := by kernel_rfl
  liesBuilder := by kernel_rfl
  t5 := Tryz.underlying5
  a5 := Tryz.isAgg5
  z5 := Tryz.sizeOf5
  v5 := Tryz.zeroValue5
  infoByte := by kernel_rfl
  cellsByte := by kernel_rfl
  sizeByte := by kernel_rfl
  neB5 := by decide }
open Go.RowKit in
/-- (*strings.Builder).String: "String returns the accumulated string.": OF A BUILDER THAT HOLDS AT LEAST ONE BYTE. ✋ THE MODEL FREEZES THOSE BYTES IN THE BUFFER (unsafe.String): a later write INTO them ends the model's run without an answer; a later append BEHIND them goes on. The statement's order of evaluation is drawn: one draw. (LAID: no walk: one application.) -/
theorem Tryz.Builder_String (B b : Nat) (l : List UInt8) (w : World) (h : Lib.IsBuilder 83 5 B b (Lib.byteCells l) w) (h0 : l ≠ []) :
    Calls Tryz.prog 60 #[.pointer (some ⟨b, 0, none⟩)] w fun e w' => e = .returned (.string ⟨l.toArray⟩) ∧ Below B w w' := Any.Builder_String Tryz.lays169 Tryz.Builder_Extra_169 B b l w h h0
open Go.RowKit in
/-- (*strings.Builder).String OF A BUILDER THAT HOLDS NO BYTE: the empty string. (Its buffer is nil, or a row of which it has taken nothing yet; where that row has NO capacity the model lays one new block for unsafe.SliceData's 'some address'.) One draw. (LAID: no walk: one application.) -/
theorem Tryz.Builder_String_empty (B b : Nat) (w : World) (h : Lib.IsBuilder 83 5 B b [] w) (hBw : B ≤ w.heap.size) :
    Calls Tryz.prog 60 #[.pointer (some ⟨b, 0, none⟩)] w fun e w' => e = .returned (.string ⟨#[]⟩) ∧ Below B w w' := Any.Builder_String_empty Tryz.lays169 Tryz.Builder_Extra_169 B b w h hBw
open Go.RowKit in
/-- (*strings.Builder).String: "String returns the accumulated string.": WHATEVER THE BUILDER HOLDS. (LAID: no walk: one application.) -/
theorem Tryz.Builder_String_any (B b : Nat) (l : List UInt8) (w : World) (h : Lib.IsBuilder 83 5 B b (Lib.byteCells l) w) (hBw : B ≤ w.heap.size) :
    Calls Tryz.prog 60 #[.pointer (some ⟨b, 0, none⟩)] w fun e w' => e = .returned (.string ⟨l.toArray⟩) ∧ Below B w w' := Any.Builder_String_any Tryz.lays169 Tryz.Builder_Extra_169 B b l w h hBw
def Tryz.lays156_ren : Go.Shelf.Ren := ⟨fun | 156 => 61 | 165 => 117 | 166 => 57 | 169 => 60 | 240 => 116 | 241 => 179 | 276 => 178 | 277 => 216 | n => n, fun | 31 => 85 | 9 => 9 | 3 => 3 | 4 => 4 | 0 => 0 | 20 => 20 | 72 => 83 | 76 => 91 | 70 => 80 | 37 => 81 | 75 => 90 | 127 => 132 | 164 => 164 | 5 => 5 | 80 => 93 | n => n, fun | n => n⟩
theorem Tryz.lays156 : Go.Proofs.Lays.n156 Tryz.prog Tryz.lays156_ren := {
  mixed := by kernel_rfl
  f156 := Tryz.func61.trans (congrArg some (by kernel_rfl))
  f165 := Tryz.func117.trans (congrArg some (by kernel_rfl))
  f166 := Tryz.func57.trans (congrArg some (by kernel_rfl))
  f169 := Tryz.func60.trans (congrArg some (by kernel_rfl))
  f240 := Tryz.func116.trans (congrArg some (by kernel_rfl))
  f241 := Tryz.func179.trans (congrArg some (by kernel_rfl))
  f276 := Tryz.func178.trans (congrArg some (by kernel_rfl))
  f277 := Tryz.func216.trans (congrArg some (by kernel_rfl))
  t0 := Tryz.underlying0
  a0 := Tryz.isAgg0
  z0 := Tryz.sizeOf0
  v0 := Tryz.zeroValue0
  t3 := Tryz.underlying3
  a3 := Tryz.isAgg3
  z3 := Tryz.sizeOf3
  v3 := Tryz.zeroValue3
  t4 := Tryz.underlying4
  a4 := Tryz.isAgg4
  z4 := Tryz.sizeOf4
  v4 := Tryz.zeroValue4
  t9 := Tryz.underlying9
  a9 := Tryz.isAgg9
  z9 := Tryz.sizeOf9
  v9 := Tryz.zeroValue9
  t20 := Tryz.underlying20
  a20 := Tryz.isAgg20
  z20 := Tryz.sizeOf20
  v20 := Tryz.zeroValue20
  t31 := Tryz.underlying85
  a31 := Tryz.isAgg85
  z31 := Tryz.sizeOf85
  v31 := Tryz.zeroValue85
  t37 := Tryz.underlying81
  a37 := Tryz.isAgg81
  z37 := Tryz.sizeOf81
  v37 := Tryz.zeroValue81
  t70 := Tryz.underlying80
  a70 := Tryz.isAgg80
  z70 := Tryz.sizeOf80
  v70 := Tryz.zeroValue80
  t72 := Tryz.underlying83
  a72 := Tryz.isAgg83
  z72 := Tryz.sizeOf83
  v72 := Tryz.zeroValue83
  t75 := Tryz.underlying90
  a75 := Tryz.isAgg90
  z75 := Tryz.sizeOf90
  v75 := Tryz.zeroValue90
  t76 := Tryz.underlying91
  a76 := Tryz.isAgg91
  z76 := Tryz.sizeOf91
  v76 := Tryz.zeroValue91
  t127 := Tryz.underlying132
  a127 := Tryz.isAgg132
  z127 := Tryz.sizeOf132
  v127 := Tryz.zeroValue132
  t164 := Tryz.underlying164
  a164 := Tryz.isAgg164
  z164 := Tryz.sizeOf164
  v164 := Tryz.zeroValue164 }
theorem Tryz.Builder_Extra_156 : Builder.Extra Tryz.prog Tryz.lays156_ren := {
  sizeBuilder := by kernel_rfl
  liesBuilder := by kernel_rfl
  t5 := Tryz.underlying5
  a5 := Tryz.isAgg5
  z5 := Tryz.sizeOf5
  v5 := Tryz.zeroValue5
  infoByte := by kernel_rfl
  cellsByte := by kernel_rfl
  sizeByte := by kernel_rfl
  neB5 := by decide }
open Go.RowKit in
/-- No element: the empty string; the world is as it was. (Whatever the slice's address and capacity: a nil slice too.) (LAID: no walk: one application.) -/
theorem Tryz.strings_Join_none (a : Option Addr) (c : Nat) (sep : ByteArray) (w : World) :
    Calls Tryz.prog 61 #[.slice a 0 c, .string sep] w fun e w' => e = .returned (.string ⟨#[]⟩) ∧ w' = w := Any.strings_Join_none Tryz.lays156 Tryz.Builder_Extra_156 a c sep w
open Go.RowKit in
/-- strings.Join: "Join concatenates the elements of its first argument to create a single string. The separator string sep is placed between elements in the resulting string.": HOWEVER MANY ELEMENTS. Below the heap's end the world is as it was. (LAID: no walk: one application.) -/
theorem Tryz.strings_Join (bk o c : Nat) (xs : List ByteArray) (sep : ByteArray) (w : World) (hcells : ∀ (j : Nat) x, xs[j]? = some x → w.cell? ⟨bk, o + j, none⟩ = some (.string x)) (hbk : bk < w.heap.size) (hN : xs.length ≤ 140737488355328) (hcap : xs.length ≤ c) (hlen : (Lib.join (xs.map (·.data.toList)) sep.data.toList).length ≤ 140737488355328) :
    Calls Tryz.prog 61 #[.slice (some ⟨bk, o, none⟩) xs.length c, .string sep] w fun e w' => e = .returned (.string ⟨(Lib.join (xs.map (·.data.toList)) sep.data.toList).toArray⟩) ∧ Below w.heap.size w w' := Any.strings_Join Tryz.lays156 Tryz.Builder_Extra_156 bk o c xs sep w hcells hbk hN hcap hlen
def Tryz.layB_ren : Go.Shelf.Ren := ⟨fun | 167 => 59 | 156 => 61 | 165 => 117 | 166 => 57 | 169 => 60 | 240 => 116 | 241 => 179 | 276 => 178 | 277 => 216 | n => n, fun | 31 => 85 | 9 => 9 | 3 => 3 | 4 => 4 | 0 => 0 | 20 => 20 | 72 => 83 | 76 => 91 | 70 => 80 | 37 => 81 | 75 => 90 | 127 => 132 | 164 => 164 | 5 => 5 | 80 => 93 | n => n, fun | n => n⟩
theorem Tryz.layB167 : Go.Proofs.Lays.n167 Tryz.prog Tryz.layB_ren := {
  mixed := by kernel_rfl
  f167 := Tryz.func59.trans (congrArg some (by kernel_rfl))
  f240 := Tryz.func116.trans (congrArg some (by kernel_rfl))
  f276 := Tryz.func178.trans (congrArg some (by kernel_rfl))
  t0 := Tryz.underlying0
  a0 := Tryz.isAgg0
  z0 := Tryz.sizeOf0
  v0 := Tryz.zeroValue0
  t4 := Tryz.underlying4
  a4 := Tryz.isAgg4
  z4 := Tryz.sizeOf4
  v4 := Tryz.zeroValue4
  t5 := Tryz.underlying5
  a5 := Tryz.isAgg5
  z5 := Tryz.sizeOf5
  v5 := Tryz.zeroValue5
  t9 := Tryz.underlying9
  a9 := Tryz.isAgg9
  z9 := Tryz.sizeOf9
  v9 := Tryz.zeroValue9
  t20 := Tryz.underlying20
  a20 := Tryz.isAgg20
  z20 := Tryz.sizeOf20
  v20 := Tryz.zeroValue20
  t37 := Tryz.underlying81
  a37 := Tryz.isAgg81
  z37 := Tryz.sizeOf81
  v37 := Tryz.zeroValue81
  t70 := Tryz.underlying80
  a70 := Tryz.isAgg80
  z70 := Tryz.sizeOf80
  v70 := Tryz.zeroValue80
  t72 := Tryz.underlying83
  a72 := Tryz.isAgg83
  z72 := Tryz.sizeOf83
  v72 := Tryz.zeroValue83
  t75 := Tryz.underlying90
  a75 := Tryz.isAgg90
  z75 := Tryz.sizeOf90
  v75 := Tryz.zeroValue90
  t164 := Tryz.underlying164
  a164 := Tryz.isAgg164
  z164 := Tryz.sizeOf164
  v164 := Tryz.zeroValue164 }
theorem Tryz.layB_extra : Builder.Extra Tryz.prog Tryz.layB_ren := {
  sizeBuilder := by kernel_rfl
  liesBuilder := by kernel_rfl
  t5 := Tryz.underlying5
  a5 := Tryz.isAgg5
  z5 := Tryz.sizeOf5
  v5 := Tryz.zeroValue5
  infoByte := by kernel_rfl
  cellsByte := by kernel_rfl
  sizeByte := by kernel_rfl
  neB5 := by decide }
open Go.RowKit in
theorem Tryz.Builder_WriteByte (B b : Nat) (bs : List Value) (c : Int) (w : World) (h : Lib.IsBuilder 83 5 B b bs w) (hlen : bs.length + 1 ≤ 140737488355328) (hBw : B ≤ w.heap.size) :
    Calls Tryz.prog 59 #[.pointer (some ⟨b, 0, none⟩), .int .u8 c] w fun e w' => e = .returned .nilIface ∧ (Lib.BuilderAt 83 5 B b (.pointer (some ⟨b, 0, none⟩)) (bs ++ [.int .u8 c]) w' ∧ Below B w w') := Any.Builder_WriteByte Tryz.layB167 Tryz.layB_extra B b bs c w h hlen hBw
open Go.RowKit in
theorem Tryz.Builder_WriteString (B b : Nat) (bs : List Value) (s : ByteArray) (w : World) (h : Lib.IsBuilder 83 5 B b bs w) (hlen : bs.length + s.size ≤ 140737488355328) (hBw : B ≤ w.heap.size) :
    Calls Tryz.prog 57 #[.pointer (some ⟨b, 0, none⟩), .string s] w fun e w' => e = .returned (.tuple #[.int .i64 s.size, .nilIface]) ∧ (Lib.BuilderAt 83 5 B b (.pointer (some ⟨b, 0, none⟩)) (bs ++ Lib.strCells s) w' ∧ Below B w w') := Any.Builder_WriteString { Tryz.lays156 with } Tryz.Builder_Extra_156 B b bs s w h hlen hBw
end Go.Proofs
/- strings.Join as a contract. -/
namespace Go.Proofs.YtmonfppdiehlpaaGreatDoor
set_option linter.unusedSimpArgs false
set_option linter.unusedVariables false
set_option linter.unusedSectionVars false
open Go Go.Vm
set_option linter.unusedVariables false
def strsOf : List V → Option (List (List UInt8))
  | [] => some []
  | .str s :: r => match strsOf r with
    | some l => some (s :: l)
    | none => none
  | _ => none
def joinI : List V → Hp → Option Out := fun args H => match args with
  | [.slice _ n cs, .str sep] => match strsOf cs with
    | some l => gd (eqN l.length n && leN n 140737488355328 && leN (Lib.join l sep).length 140737488355328) (some (.ret (.str (Lib.join l sep)) H))
    | none => none
  | _ => none
theorem strsOf_get : ∀ {cs : List V} {l : List (List UInt8)}, strsOf cs = some l → cs = l.map .str
  | [], l, h => by cases h; rfl
  | c :: r, l, h => by
    cases c with
    | str s =>
      simp only [strsOf] at h
      split at h
      · rename_i l' hl
        cases h
        rw [strsOf_get hl]; rfl
      · cases h
    | _ => cases h
theorem below_grew {w w' : World} (h : RowKit.Below w.heap.size w w') : Grew w w' := ⟨h.size, h.os, h.tape, h.output, fun b hb => h.block b hb⟩
theorem join_ok : IntrOk Tryz.prog 61 joinI := by
  refine ⟨fun args H out h ρ lab w xs hc hS hx => ?_, ⟨_, _, Tryz.func61, rfl, rfl⟩⟩
  unfold joinI at h
  split at h
  · rename_i ow n cs sep
    split at h
    · rename_i l hl
      obtain ⟨h1, h2⟩ := gd_some h
      cases h2
      simp only [Bool.and_eq_true] at h1
      obtain ⟨⟨h1, h2⟩, h3⟩ := h1
      have h1 := eqN_iff h1
      have h2 := leN_iff h2
      have h3 := leN_iff h3
      obtain ⟨x1, r1, rfl, a1, a2⟩ := relL_cons_iff.1 hx
      obtain ⟨x2, r2, rfl, a3, a4⟩ := relL_cons_iff.1 a2
      have : r2 = [] := by have := a4.1; simpa using this
      subst this
      cases a3
      have hcs := strsOf_get hl
      cases a1 with
      | slice _ _ _ xs b o ao cap g1 g2 g3 g4 g5 g6 g7 g8 g9 =>
      rcases Nat.eq_zero_or_pos n with h0 | h0
      · subst h0
        have : l = [] := List.length_eq_zero_iff.1 h1
        subst this
        refine (Tryz.strings_Join_none ao cap ⟨⟨sep⟩⟩ w).mono fun e w' ⟨he, hw⟩ => ?_
        subst he; subst hw
        exact ⟨ρ, lab, hS, Ext.refl _ _, ⟨fun _ _ _ h => h, fun _ _ _ _ h => h⟩, .str _, hc, Nat.le_refl _⟩
      · have hao := g3 h0
        subst hao
        have hget : ∀ (j : Nat) (x : ByteArray), (l.map (fun s => (⟨⟨s⟩⟩ : ByteArray)))[j]? = some x → cellAt w b (o + j) = some (.string x) := by
          intro j x hj
          rw [List.getElem?_map] at hj
          cases hq : l[j]? with
          | none => rw [hq] at hj; cases hj
          | some s =>
            rw [hq] at hj
            cases hj
            have hcj : cs[j]? = some (.str s) := by rw [hcs, List.getElem?_map, hq]; rfl
            have hj2 : j < xs.length := by
              rw [g1]
              rcases Nat.lt_or_ge j cs.length with h | h
              · exact h
              · rw [List.getElem?_eq_none h] at hcj; cases hcj
            have hxj : xs[j]? = some xs[j] := by simp [hj2]
            have hr := g6 j _ _ hcj hxj
            have hf := (g5 j _ hxj).cell
            generalize xs[j] = z at hr hf
            cases hr
            exact hf
        have hlen : (l.map (fun s => (⟨⟨s⟩⟩ : ByteArray))).length = n := by rw [List.length_map]; exact h1
        have hmap : (l.map (fun s => (⟨⟨s⟩⟩ : ByteArray))).map (·.data.toList) = l := by rw [List.map_map]; exact List.map_id l
        have hb : b < w.heap.size := by
          have hj2 : 0 < (l.map (fun s => (⟨⟨s⟩⟩ : ByteArray))).length := by omega
          exact cellAt_lt (hget 0 _ (List.getElem?_eq_getElem hj2))
        have K := Tryz.strings_Join b o cap (l.map (fun s => (⟨⟨s⟩⟩ : ByteArray))) ⟨⟨sep⟩⟩ w hget hb (by omega) (by omega) (by rw [hmap]; exact h3)
        rw [hlen, hmap] at K
        refine K.mono fun e w' ⟨he, hw⟩ => ?_
        subst he
        have G := below_grew hw
        exact ⟨ρ, lab, hS.grew G, G.ext lab, ⟨fun _ _ _ h => h, fun _ _ _ _ h => h⟩, .str _, hc, Nat.le_refl _⟩
    · cases h
  · cases h
end Go.Proofs.YtmonfppdiehlpaaGreatDoor
/- This seat: types, loop heads, joins. (Printed by a program.) -/
namespace Go.Proofs.YtmonfppdiehlpaaGreatDoor
set_option linter.unusedSimpArgs false
set_option linter.unusedVariables false
set_option linter.unusedSectionVars false
open Go Go.Vm
def T : List (Nat × Ty) := [
  (1, ⟨.func, 1, 8, [.nilFunc]⟩),
  (3, ⟨.int .i64, 1, 8, [.int .i64 0]⟩),
  (4, ⟨.bool, 1, 1, [.bool false]⟩),
  (9, ⟨.string, 1, 16, [.str []]⟩),
  (24, ⟨.slice 26, 1, 24, [.slice .nil 0 []]⟩),
  (26, ⟨.struct [(3, 0), (9, 1), (3, 2), (24, 3)], 4, 56, [.int .i64 0, .str [], .int .i64 0, .slice .nil 0 []]⟩),
  (38, ⟨.int .i64, 1, 8, [.int .i64 0]⟩),
  (40, ⟨.struct [(38, 0), (3, 1)], 2, 16, [.int .i64 0, .int .i64 0]⟩),
  (54, ⟨.ptr 59, 1, 8, [.nilptr]⟩),
  (57, ⟨.slice 72, 1, 24, [.slice .nil 0 []]⟩),
  (59, ⟨.struct [(57, 0), (3, 1), (3, 2)], 3, 40, [.slice .nil 0 [], .int .i64 0, .int .i64 0]⟩),
  (66, ⟨.ptr 68, 1, 8, [.nilptr]⟩),
  (68, ⟨.struct [(57, 0), (3, 1), (3, 2), (3, 3)], 4, 48, [.slice .nil 0 [], .int .i64 0, .int .i64 0, .int .i64 0]⟩),
  (72, ⟨.struct [(3, 0), (9, 1), (3, 2), (3, 3)], 4, 40, [.int .i64 0, .str [], .int .i64 0, .int .i64 0]⟩),
  (110, ⟨.struct [(40, 0)], 2, 16, [.int .i64 0, .int .i64 0]⟩)]
def keep : Nat → Nat → List Nat
  | 25, 130008 => [2, 3, 6, 7, 39]
  | 49, 4 => [0, 1, 5]
  | 49, 100009 => []
  | 66, 18 => [0, 2, 12, 13]
  | 66, 100012 => [0, 2, 6]
  | 66, 100023 => [2, 12, 13]
  | 66, 130010 => [0, 2, 6, 7, 43]
  | 66, 190074 => [0, 2, 12, 13, 74]
  | 67, 3 => [1, 2, 5, 6]
  | 67, 100007 => [5]
  | 67, 190016 => [1, 2, 5, 6, 16]
  | 79, 8 => [0, 2, 3]
  | 79, 100011 => [0, 2, 3]
  | 79, 100012 => [0, 2, 3]
  | 80, 3 => [3, 7, 8, 9]
  | 80, 100008 => [3]
  | 138, 3 => [0, 4, 5]
  | 138, 100010 => [4]
  | 139, 100011 => [2, 4, 6]
  | 139, 100024 => [2, 4, 6, 9]
  | 139, 100026 => [2, 4, 6, 9]
  | 139, 130009 => [2, 4, 7, 31]
  | 139, 130013 => [2, 4, 6, 9, 34]
  | 139, 130015 => [2, 4, 6, 9, 42]
  | 139, 130017 => [2, 4, 6, 9, 50]
  | 139, 130019 => [2, 4, 6, 9, 58]
  | 139, 130021 => [2, 4, 6, 9, 66]
  | 139, 130023 => [2, 4, 6, 9, 74]
  | 146, 5 => [0, 1, 4, 5, 6]
  | 146, 9 => [0, 1, 4, 7]
  | 146, 100008 => [0, 1, 4, 5, 6]
  | 146, 100009 => [0, 1, 4, 5, 6]
  | 146, 100013 => [4, 7]
  | 146, 190038 => [0, 1, 4, 7, 38]
  | 198, 100016 => [0, 1, 4, 5]
  | 198, 130004 => [0, 1, 4, 5, 6]
  | 198, 130006 => [0, 1, 4, 5, 16]
  | _, _ => []
def cut : Nat → Nat → Bool
  | 25, 30008 => true
  | 49, 9 => true
  | 66, 12 => true
  | 66, 23 => true
  | 66, 30010 => true
  | 66, 90074 => true
  | 67, 7 => true
  | 67, 90016 => true
  | 79, 11 => true
  | 79, 12 => true
  | 80, 8 => true
  | 138, 10 => true
  | 139, 11 => true
  | 139, 24 => true
  | 139, 26 => true
  | 139, 30009 => true
  | 139, 30013 => true
  | 139, 30015 => true
  | 139, 30017 => true
  | 139, 30019 => true
  | 139, 30021 => true
  | 139, 30023 => true
  | 146, 8 => true
  | 146, 9 => true
  | 146, 13 => true
  | 146, 90038 => true
  | 198, 16 => true
  | 198, 30004 => true
  | 198, 30006 => true
  | _, _ => false
def moreL : List Nat := []
def tagc : Nat → Nat → Bool
  | 138, 0 => true
  | f, _ => has f moreL
def argT : Nat → Nat → Bool
  | f, _ => has f moreL
def slk : Nat → Nat → List (Nat × Nat)
  | 66, 18 => [(12, 3)]
  | 146, 9 => [(7, 3)]
  | _, _ => []
def sep : Nat → Nat → Option (List Nat × List Nat)
  | 25, 3 => some ([0, 1, 2, 3], [5, 1000002])
  | 37, 3 => some ([0, 1, 2, 3], [5, 1000002])
  | 37, 7 => some ([0, 1, 2, 3], [5, 1000002])
  | 39, 2 => some ([0, 1, 2, 3, 5, 4, 6, 7], [5])
  | 83, 3 => some ([0, 1, 2, 3, 4, 5, 6, 7, 8, 9, 10, 11, 12, 13], [32, 28, 24])
  | 146, 11 => some ([0, 2, 3, 1, 4, 5], [7])
  | 153, 3 => some ([0, 1, 2, 3, 4, 5, 6, 7, 8, 9, 10, 11], [20, 18, 14])
  | _, _ => none
def mask : Nat → Nat → List Nat
  | 25, 3 => [0, 0, 1, 7]
  | 37, 3 => [0, 0, 1, 7]
  | 37, 7 => [0, 0, 1, 7]
  | 39, 2 => [0, 0, 2, 7, 15, 0, 31, 127]
  | 83, 3 => [0, 1, 3, 7, 0, 16, 48, 112, 0, 496, 1023, 2047, 0, 8191]
  | 146, 11 => [0, 1, 0, 4, 15, 31]
  | 153, 3 => [0, 1, 3, 7, 0, 16, 48, 112, 255, 511, 0, 2047]
  | _, _ => []
def okL : List Nat := [10, 11, 25, 37, 38, 39, 40, 47, 49, 66, 67, 77, 78, 79, 80, 83, 88, 89, 99, 136, 137, 138, 139, 145, 146, 147, 153, 166, 168, 196, 198]
def lookL : List Nat := [40]
def quietL : List Nat := [10, 11, 12, 25, 37, 38, 45, 49, 67, 80, 81, 198]
def frzL : List Nat := []
def tagL : List Nat := [138] ++ moreL
def argL : List Nat := [] ++ moreL
theorem tys : tysB Tryz.prog T = true := by kernel_rfl
theorem mixed : Tryz.prog.follows .mixedOrders = true := by kernel_rfl
def intr0 : Nat → Option Hand
  | 61 => some (.plain joinI)
  | 41 => some (.via gPre gPost)
  | _ => none
noncomputable def env0 : Env := { P := Tryz.prog, T := T, keep := keep, byref := fun _ _ => none, meth := fun _ _ => none, tags := fun g => has g tagL, argTags := fun g => has g argL, quiet := fun g => has g quietL, loose := fun _ => false, ok := fun g => has g okL, cut := cut, tagc := tagc, argT := argT, sep := sep, mask := mask, look := fun g => has g lookL, frz := fun g => has g frzL, slk := slk, full := true, intr := intr0 }
theorem codes0 : codesB env0 okL = true := by kernel_rfl
theorem methNo0 : MethOk env0 := by
  intro _ _ _ h
  cases h
theorem envOk0 : EnvOk env0 := ⟨methNo0, tysB_ok tys, mixed, codesB_ok (fun _ h => h) codes0, (fun g h hg => by simp only [env0, intr0] at hg; split at hg <;> first | (cases hg; done) | (cases hg; exact join_ok)), (fun g pre post hg => by simp only [env0, intr0] at hg; split at hg <;> first | (cases hg; done) | (cases hg; exact guarded_via))⟩
end Go.Proofs.YtmonfppdiehlpaaGreatDoor
/- Types. (Printed by a program.) -/
namespace Go.Proofs.YtmonfppdiehlpaaGreatDoor.Aw
set_option linter.unusedSimpArgs false
set_option linter.unusedVariables false
set_option linter.unusedSectionVars false
open Go Go.Vm
set_option maxRecDepth 100000
set_option maxHeartbeats 20000000
set_option linter.unusedVariables false
structure Flt where
  code : Int
  at_ : Int
def c1Flt (x : Flt) : List V := [.int .i64 x.code, .int .i64 x.at_]
def clFlt : List Flt → List V
  | [] => []
  | x :: r => .int .i64 x.code :: .int .i64 x.at_ :: clFlt r
theorem encFlt : IsEnc 2 c1Flt clFlt := ⟨fun _ => rfl, rfl, fun _ _ => rfl⟩
structure Typ where
  kind : Int
  name : Str
  n : Int
  args : List Typ
mutual
def Typ.sub : Typ → List V
  | ⟨_, _, _, a3⟩ => clTyp a3
def clTyp : List Typ → List V
  | [] => []
  | x :: r => .int .i64 x.kind :: .str x.name :: .int .i64 x.n :: .slice .sealed (List.length x.args) (x.sub) :: clTyp r
end
def c1Typ (x : Typ) : List V := [.int .i64 x.kind, .str x.name, .int .i64 x.n, .slice .sealed (List.length x.args) (clTyp x.args)]
theorem encTyp : IsEnc 4 c1Typ clTyp := ⟨fun _ => rfl, rfl, fun x r => by cases x; rfl⟩
structure Nod where
  op : Int
  s : Str
  n : Int
  t : Typ
  ts : List Typ
  l : List Nod
  at_ : Int
mutual
def Nod.sub : Nod → List V
  | ⟨_, _, _, _, _, a5, _⟩ => clNod a5
def clNod : List Nod → List V
  | [] => []
  | x :: r => .int .i64 x.op :: .str x.s :: .int .i64 x.n :: .int .i64 x.t.kind :: .str x.t.name :: .int .i64 x.t.n :: .slice .sealed (List.length x.t.args) (clTyp x.t.args) :: .slice .sealed (List.length x.ts) (clTyp x.ts) :: .slice .sealed (List.length x.l) (x.sub) :: .int .i64 x.at_ :: clNod r
end
def c1Nod (x : Nod) : List V := [.int .i64 x.op, .str x.s, .int .i64 x.n, .int .i64 x.t.kind, .str x.t.name, .int .i64 x.t.n, .slice .sealed (List.length x.t.args) (clTyp x.t.args), .slice .sealed (List.length x.ts) (clTyp x.ts), .slice .sealed (List.length x.l) (clNod x.l), .int .i64 x.at_]
theorem encNod : IsEnc 10 c1Nod clNod := ⟨fun _ => rfl, rfl, fun x r => by cases x; rfl⟩
end Go.Proofs.YtmonfppdiehlpaaGreatDoor.Aw
/- This seat: types, loop heads, joins. (Printed by a program.) -/
namespace Go.Proofs.YtmonfppdiehlpaaGreatDoor.Aw
set_option linter.unusedSimpArgs false
set_option linter.unusedVariables false
set_option linter.unusedSectionVars false
open Go Go.Vm
def T : List (Nat × Ty) := [
  (1, ⟨.func, 1, 8, [.nilFunc]⟩),
  (2, ⟨.int .i64, 1, 8, [.int .i64 0]⟩),
  (3, ⟨.int .i64, 1, 8, [.int .i64 0]⟩),
  (4, ⟨.bool, 1, 1, [.bool false]⟩),
  (5, ⟨.int .u8, 1, 1, [.int .u8 0]⟩),
  (9, ⟨.string, 1, 16, [.str []]⟩),
  (24, ⟨.slice 26, 1, 24, [.slice .nil 0 []]⟩),
  (26, ⟨.struct [(3, 0), (9, 1), (3, 2), (24, 3)], 4, 56, [.int .i64 0, .str [], .int .i64 0, .slice .nil 0 []]⟩),
  (27, ⟨.slice 29, 1, 24, [.slice .nil 0 []]⟩),
  (29, ⟨.struct [(3, 0), (9, 1), (3, 2), (26, 3), (24, 7), (27, 8), (3, 9)], 10, 144, [.int .i64 0, .str [], .int .i64 0, .int .i64 0, .str [], .int .i64 0, .slice .nil 0 [], .slice .nil 0 [], .slice .nil 0 [], .int .i64 0]⟩),
  (30, ⟨.slice 40, 1, 24, [.slice .nil 0 []]⟩),
  (38, ⟨.int .i64, 1, 8, [.int .i64 0]⟩),
  (40, ⟨.struct [(38, 0), (3, 1)], 2, 16, [.int .i64 0, .int .i64 0]⟩),
  (54, ⟨.ptr 59, 1, 8, [.nilptr]⟩),
  (57, ⟨.slice 72, 1, 24, [.slice .nil 0 []]⟩),
  (59, ⟨.struct [(57, 0), (3, 1), (3, 2)], 3, 40, [.slice .nil 0 [], .int .i64 0, .int .i64 0]⟩),
  (72, ⟨.struct [(3, 0), (9, 1), (3, 2), (3, 3)], 4, 40, [.int .i64 0, .str [], .int .i64 0, .int .i64 0]⟩),
  (81, ⟨.slice 5, 1, 24, [.slice .nil 0 []]⟩),
  (84, ⟨.ptr 87, 1, 8, [.nilptr]⟩),
  (85, ⟨.slice 9, 1, 24, [.slice .nil 0 []]⟩),
  (87, ⟨.struct [(85, 0)], 1, 24, [.slice .nil 0 []]⟩),
  (88, ⟨.func, 1, 8, [.nilFunc]⟩),
  (90, ⟨.iface, 1, 16, [.nilIface]⟩),
  (100, ⟨.func, 1, 8, [.nilFunc]⟩),
  (110, ⟨.struct [(40, 0)], 2, 16, [.int .i64 0, .int .i64 0]⟩),
  (116, ⟨.slice 3, 1, 24, [.slice .nil 0 []]⟩),
  (145, ⟨.slice 174, 1, 24, [.slice .nil 0 []]⟩),
  (149, ⟨.ptr 153, 1, 8, [.nilptr]⟩),
  (151, ⟨.struct [(9, 0), (3, 1)], 2, 24, [.str [], .int .i64 0]⟩),
  (153, ⟨.struct [(151, 0), (57, 2), (40, 3)], 5, 64, [.str [], .int .i64 0, .slice .nil 0 [], .int .i64 0, .int .i64 0]⟩),
  (157, ⟨.func, 1, 8, [.nilFunc]⟩),
  (174, ⟨.struct [(85, 0), (4, 1)], 2, 32, [.slice .nil 0 [], .bool false]⟩),
  (197, ⟨.ptr 151, 1, 8, [.nilptr]⟩),
  (200, ⟨.array 32 9, 32, 512, [.str [], .str [], .str [], .str [], .str [], .str [], .str [], .str [], .str [], .str [], .str [], .str [], .str [], .str [], .str [], .str [], .str [], .str [], .str [], .str [], .str [], .str [], .str [], .str [], .str [], .str [], .str [], .str [], .str [], .str [], .str [], .str []]⟩),
  (202, ⟨.array 27 9, 27, 432, [.str [], .str [], .str [], .str [], .str [], .str [], .str [], .str [], .str [], .str [], .str [], .str [], .str [], .str [], .str [], .str [], .str [], .str [], .str [], .str [], .str [], .str [], .str [], .str [], .str [], .str [], .str []]⟩),
  (206, ⟨.array 24 5, 24, 24, [.int .u8 0, .int .u8 0, .int .u8 0, .int .u8 0, .int .u8 0, .int .u8 0, .int .u8 0, .int .u8 0, .int .u8 0, .int .u8 0, .int .u8 0, .int .u8 0, .int .u8 0, .int .u8 0, .int .u8 0, .int .u8 0, .int .u8 0, .int .u8 0, .int .u8 0, .int .u8 0, .int .u8 0, .int .u8 0, .int .u8 0, .int .u8 0]⟩),
  (207, ⟨.int .u64, 1, 8, [.int .u64 0]⟩),
  (262, ⟨.int .i64, 1, 8, [.int .i64 0]⟩)]
def keep : Nat → Nat → List Nat
  | 13, 7 => [2, 4, 6, 7, 8]
  | 31, 3 => [2, 3, 9, 10, 11]
  | 56, 13 => [0, 48, 49, 50]
  | 56, 21 => [0, 69, 70, 71]
  | 56, 37 => [0, 118, 119, 120]
  | 79, 8 => [0, 2, 3]
  | 90, 4 => [0, 3]
  | 111, 3 => [1, 5, 11, 12, 13]
  | 111, 6 => [1, 5, 7, 11, 12, 13, 17, 18, 19]
  | 114, 5 => [0, 3, 23, 24, 25]
  | 114, 15 => [0, 52, 53, 54]
  | 129, 1 => [0, 2, 8, 9, 10]
  | 144, 3 => [0, 2, 6, 7, 14, 15]
  | 144, 6 => [0, 2, 6, 7, 9, 14, 15]
  | 146, 5 => [0, 1, 4, 5, 6]
  | 146, 9 => [0, 1, 4, 7]
  | 148, 2 => [0, 1, 2, 7]
  | 151, 4 => [0, 3]
  | 155, 2 => [0, 1, 7, 8]
  | 174, 3 => [0, 10, 11, 12]
  | 189, 40 => [0, 140, 141, 142]
  | 197, 4 => [0, 2, 3, 4]
  | 199, 0 => [0]
  | 208, 3 => [0, 3, 4]
  | 210, 5 => [0, 3]
  | 212, 2 => [0, 3]
  | 223, 27 => [0, 2, 3]
  | 227, 2 => [0, 1, 5]
  | 231, 2 => [0, 1, 5, 6]
  | 286, 10 => [5, 6, 47, 48, 49]
  | _, _ => []
def cut : Nat → Nat → Bool
  | _, _ => false
def moreL : List Nat := [31, 39, 40, 42, 43, 56, 58, 64, 68, 76, 79, 81, 83, 86, 87, 88, 89, 90, 93, 109, 110, 111, 114, 115, 123, 127, 129, 142, 143, 144, 145, 146, 147, 148, 150, 151, 152, 153, 154, 174, 175, 176, 189, 197, 198, 199, 200, 202, 205, 207, 208, 209, 210, 211, 212, 215, 223, 226, 227, 230, 231, 232, 233, 245, 274, 286]
def tagc : Nat → Nat → Bool
  | f, _ => has f moreL
def argT : Nat → Nat → Bool
  | f, _ => has f moreL
def slk : Nat → Nat → List (Nat × Nat)
  | _, _ => []
def sep : Nat → Nat → Option (List Nat × List Nat)
  | 13, 3 => some ([0, 1, 2, 3, 4], [5, 1000002])
  | 39, 2 => some ([0, 1, 2, 3, 5, 4, 6, 7], [5])
  | 43, 12 => some ([0, 1, 2, 3, 4, 5, 6], [30])
  | 43, 22 => some ([0, 1, 2, 3, 4, 5, 6], [64])
  | 43, 27 => some ([0, 1, 2, 3, 4, 5, 6], [79])
  | 83, 3 => some ([0, 1, 2, 3, 4, 5, 6, 7, 8, 9, 10, 11, 12, 13], [32, 28, 24])
  | 86, 3 => some ([0, 1, 2, 3, 4, 5, 6, 7], [7])
  | 144, 7 => some ([0, 1, 2, 3, 4, 5, 6, 7, 8, 9, 10, 11, 12, 13, 14, 15], [77, 75, 72, 68])
  | 144, 9 => some ([0, 1, 3, 4, 5, 6, 2, 7, 8, 9], [])
  | 146, 11 => some ([0, 2, 3, 1, 4, 5], [7])
  | 150, 5 => some ([0, 1, 2, 3, 4, 5, 6], [15])
  | 150, 13 => some ([0, 1, 2, 3, 4, 5, 6], [41])
  | 153, 3 => some ([0, 1, 2, 3, 4, 5, 6, 7, 8, 9, 10, 11], [20, 18, 14])
  | 197, 5 => some ([0, 2, 3, 4, 5, 1, 6, 7, 8], [4, 17])
  | 197, 8 => some ([0, 1, 2, 3, 4, 5, 6], [25])
  | 197, 12 => some ([0, 1, 2, 3, 4, 5, 6, 7], [38, 36])
  | 197, 14 => some ([0, 1, 2, 3, 4, 5, 6], [48])
  | 223, 26 => some ([0, 1, 2, 3, 4, 5, 6, 7], [77])
  | 223, 28 => some ([0, 1, 2, 3, 4, 5, 6, 7], [86])
  | 233, 18 => some ([0, 1, 2, 3, 4, 5, 6, 7], [56])
  | 233, 37 => some ([0, 1, 2, 3, 4, 5, 6, 7], [112])
  | 233, 45 => some ([0, 1, 2, 3, 4, 5, 6, 7], [144])
  | _, _ => none
def mask : Nat → Nat → List Nat
  | 13, 3 => [0, 0, 2, 1, 15]
  | 39, 2 => [0, 0, 2, 7, 15, 0, 31, 127]
  | 43, 12 => [0, 1, 0, 4, 15, 31, 63]
  | 43, 22 => [0, 1, 0, 4, 15, 31, 63]
  | 43, 27 => [0, 1, 0, 4, 15, 31, 63]
  | 83, 3 => [0, 1, 3, 7, 0, 16, 48, 112, 0, 496, 1023, 2047, 0, 8191]
  | 86, 3 => [0, 1, 0, 4, 12, 31, 63, 127]
  | 144, 7 => [0, 1, 3, 7, 0, 16, 48, 112, 255, 511, 1023, 0, 2048, 8191, 0, 32767]
  | 144, 9 => [0, 0, 2, 0, 0, 16, 56, 127, 0, 511]
  | 146, 11 => [0, 1, 0, 4, 15, 31]
  | 150, 5 => [0, 1, 0, 4, 15, 31, 63]
  | 150, 13 => [0, 1, 0, 4, 15, 31, 63]
  | 153, 3 => [0, 1, 3, 7, 0, 16, 48, 112, 255, 511, 0, 2047]
  | 197, 5 => [0, 1, 0, 4, 0, 16, 63, 0, 255]
  | 197, 8 => [0, 1, 0, 4, 15, 31, 63]
  | 197, 12 => [0, 1, 0, 4, 0, 16, 63, 127]
  | 197, 14 => [0, 1, 0, 4, 15, 31, 63]
  | 223, 26 => [0, 1, 0, 4, 12, 31, 63, 127]
  | 223, 28 => [0, 1, 0, 4, 12, 31, 63, 127]
  | 233, 18 => [0, 1, 0, 4, 12, 31, 63, 127]
  | 233, 37 => [0, 1, 0, 4, 12, 31, 63, 127]
  | 233, 45 => [0, 1, 0, 4, 12, 31, 63, 127]
  | _, _ => []
def okL : List Nat := [12, 13, 31, 39, 40, 42, 43, 56, 58, 64, 68, 76, 79, 81, 83, 86, 87, 88, 89, 90, 93, 94, 109, 110, 111, 114, 115, 123, 127, 129, 131, 142, 143, 144, 145, 146, 147, 148, 150, 151, 152, 153, 154, 155, 174, 175, 176, 189, 193, 197, 198, 199, 200, 202, 204, 205, 206, 207, 208, 209, 210, 211, 212, 215, 222, 223, 225, 226, 227, 229, 230, 231, 232, 233, 241, 245, 274, 286]
def lookL : List Nat := [40]
def quietL : List Nat := [12, 13, 20, 94, 131, 155, 193, 204, 206, 222, 225, 229, 241]
def frzL : List Nat := []
def tagL : List Nat := [] ++ moreL
def argL : List Nat := [] ++ moreL
theorem tys : tysB Tryz.prog T = true := by kernel_rfl
theorem mixed : Tryz.prog.follows .mixedOrders = true := by kernel_rfl
def intr0 : Nat → Option Hand
  | 61 => some (.plain joinI)
  | 41 => some (.via gPre gPost)
  | _ => none
noncomputable def env0 : Env := { P := Tryz.prog, T := T, keep := keep, byref := fun _ _ => none, meth := fun _ _ => none, tags := fun g => has g tagL, argTags := fun g => has g argL, quiet := fun g => has g quietL, loose := fun _ => false, ok := fun g => has g okL, cut := cut, tagc := tagc, argT := argT, sep := sep, mask := mask, look := fun g => has g lookL, frz := fun g => has g frzL, slk := slk, full := true, intr := intr0 }
theorem codes0 : codesB env0 okL = true := by kernel_rfl
theorem methNo0 : MethOk env0 := by
  intro _ _ _ h
  cases h
theorem envOk0 : EnvOk env0 := ⟨methNo0, tysB_ok tys, mixed, codesB_ok (fun _ h => h) codes0, (fun g h hg => by simp only [env0, intr0] at hg; split at hg <;> first | (cases hg; done) | (cases hg; exact join_ok)), (fun g pre post hg => by simp only [env0, intr0] at hg; split at hg <;> first | (cases hg; done) | (cases hg; exact guarded_via))⟩
end Go.Proofs.YtmonfppdiehlpaaGreatDoor.Aw
/- parse.Print as a contract, over what its callees do. (Printed by a program.) -/
namespace Go.Proofs.YtmonfppdiehlpaaGreatDoor.Aw
set_option linter.unusedSimpArgs false
set_option linter.unusedVariables false
set_option linter.unusedSectionVars false
open Go Go.Vm Go.RowKit Go.Lib
set_option maxRecDepth 100000
set_option maxHeartbeats 8000000
set_option linter.unusedVariables false
set_option linter.unusedSimpArgs false
theorem nf_rel0 {ρ : Rho} {lab : Lab} {w : World} {v : V} {x : Value} (h : Rel ρ lab w v x) (hn : NF v) : Rel rho0 lab0 w v x := NF.rel (fun _ _ _ => rfl) h hn
theorem hidW {p : Prop} (h : p) : Hid p := h

/-- the line of a declaration: its cells, its text -/
def lineOf (c : List V) (s : List UInt8) : Prop := ∃ H1 H2, E env0 (.call 56 [.ptr 0 0, .agg c]) hp1 = some (.ret (.tuple []) H1) ∧ E env0 (.call 58 [.ptr 0 0]) H1 = some (.ret (.str s) H2)
def printed (l : List (List UInt8)) : List UInt8 := (l.map (· ++ [10])).flatten
theorem printed_take {l : List (List UInt8)} {k : Nat} {s : List UInt8} (h : l[k]? = some s) : printed (l.take (k + 1)) = printed (l.take k) ++ s ++ [10] := by
  unfold printed
  rw [List.take_add_one, h]
  simp
theorem printed_le (l : List (List UInt8)) (k : Nat) : (printed (l.take k)).length ≤ (printed l).length := by
  have h : printed l = printed (l.take k) ++ printed (l.drop k) := by
    unfold printed
    rw [← List.flatten_append, ← List.map_append, List.take_append_drop]
  rw [h, List.length_append]; omega

theorem bld_kept {T e : TypeId} {B0 b : Nat} {bs : List Value} {w w' : World} (h : IsBuilder T e B0 b bs w) (hk : ∀ k, k < w.heap.size → w'.heap[k]? = w.heap[k]?) : IsBuilder T e B0 b bs w' := by
  have key : ∀ {p : Value}, BuilderAt T e B0 b p bs w → BuilderAt T e B0 b p bs w' := by
    rintro p ⟨h1, v, h2, h3, h4⟩
    have hb : b < w.heap.size := by
      rcases Nat.lt_or_ge b w.heap.size with h | h
      · exact h
      · rw [Array.getElem?_eq_none h] at h2; cases h2
    refine ⟨h1, v, (hk b hb).trans h2, ?_, h4⟩
    refine ⟨h3.1, ?_⟩
    rcases h3.2 with h5 | ⟨g, cap, cur, h5, h6, h7, h8⟩
    · exact .inl h5
    · have hg : g < w.heap.size := by
        rcases Nat.lt_or_ge g w.heap.size with h | h
        · exact h
        · rw [Array.getElem?_eq_none h] at h7; cases h7
      exact .inr ⟨g, cap, cur, h5, h6, (hk g hg).trans h7, h8⟩
  rcases h with h | h
  · exact .inl (key h)
  · exact .inr (key h)

theorem fresh_below (T e : TypeId) (B0 : Nat) (w : World) (hB : B0 ≤ w.heap.size) : IsBuilder T e B0 w.heap.size [] (w.alloc (.cells #[.pointer none, .slice none 0 0] T)) := by
  have key : ∀ {p : Value}, BuilderAt T e w.heap.size w.heap.size p [] (w.alloc (.cells #[.pointer none, .slice none 0 0] T)) → BuilderAt T e B0 w.heap.size p [] (w.alloc (.cells #[.pointer none, .slice none 0 0] T)) := by
    rintro p ⟨h1, v, h2, h3, h4⟩
    refine ⟨hB, v, h2, ⟨h3.1, ?_⟩, h4⟩
    rcases h3.2 with h5 | ⟨g, cp, cur, h5, h6, r⟩
    · exact .inl h5
    · exact .inr ⟨g, cp, cur, h5, by omega, r⟩
  rcases fresh_isBuilder T e w with h | h
  · exact .inl (key h)
  · exact .inr (key h)
/-- what is known of the k-th child -/
structure Kid (w : World) (b o : Nat) (s : List UInt8) (k : Nat) : Prop where
  ex : ∃ c y0 y1 y2 y3 y4 y5 y6 y7 y8 y9, w.cell? ⟨b, o + k * 10, none⟩ = some y0 ∧ w.cell? ⟨b, o + k * 10 + 1, none⟩ = some y1 ∧ w.cell? ⟨b, o + k * 10 + 2, none⟩ = some y2 ∧ w.cell? ⟨b, o + k * 10 + 3, none⟩ = some y3 ∧
    w.cell? ⟨b, o + k * 10 + 4, none⟩ = some y4 ∧ w.cell? ⟨b, o + k * 10 + 5, none⟩ = some y5 ∧ w.cell? ⟨b, o + k * 10 + 6, none⟩ = some y6 ∧ w.cell? ⟨b, o + k * 10 + 7, none⟩ = some y7 ∧ w.cell? ⟨b, o + k * 10 + 8, none⟩ = some y8 ∧ w.cell? ⟨b, o + k * 10 + 9, none⟩ = some y9 ∧
    Rel rho0 lab0 w (.agg c) (.agg #[y0, y1, y2, y3, y4, y5, y6, y7, y8, y9]) ∧ lineOf c s ∧ ∀ y ∈ [y0, y1, y2, y3, y4, y5, y6, y7, y8, y9], y.oneCell' = true

theorem below_down {a b : Nat} {w w' : World} (h : a ≤ b) (hB : Below b w w') : Below a w w' := ⟨hB.os, hB.tape, hB.output, hB.size, fun k hk => hB.block k (by omega)⟩
theorem store_new (w : World) (cs : Array Value) (t : TypeId) (i : Nat) (v : Value) (hi : i < cs.size) (hv : v.oneCell' = true) : (store ⟨w.heap.size, i, none⟩ v).run Tryz.prog (w.alloc (.cells cs t)) = .ok () (w.alloc (.cells (cs.setIfInBounds i v) t)) := by
  have h1 : (w.alloc (.cells cs t)).cell? ⟨w.heap.size, i, none⟩ = some cs[i] := by simp [hi]
  have h2 : (w.alloc (.cells cs t)).frozen? ⟨w.heap.size, i, none⟩ = false := by simp
  rw [run_store _ _ _ _ _ hv]
  simp [stored, go_sem, h1, h2, World.setCell_alloc_new]
theorem print_walk (v0 v1 v2 v3 v4 v5 v6 v7 v9 : Value) (ao : Option Addr) (b o cap : Nat) (l : List (List UInt8)) (w : World) (hn : l.length ≤ cap) (hao : 0 < l.length → ao = some ⟨b, o, none⟩)
    (hb : 0 < l.length → b < w.heap.size) (hN : l.length ≤ 140737488355328) (hK : ∀ (k : Nat) s, l[k]? = some s → Kid w b o s k) (hlen : (printed l).length ≤ 140737488355328) :
    Calls Tryz.prog 20 #[.agg #[v0, v1, v2, v3, v4, v5, v6, v7, .slice ao l.length cap, v9]] w fun e w' => e = .returned (.string ⟨(printed l).toArray⟩) ∧ Below w.heap.size w w' := by
  have HK := hidW hK
  have Hlen := hidW hlen
  have Hao := hidW hao
  have Hb := hidW hb
  clear hK hlen hao hb
  go_enter Tryz.func20, Tryz.ntmps20
  go_wp2_with fail
  go_loopw [10] (fun i wr => ∃ k : Nat, k ≤ l.length ∧ i = .int .i64 k ∧ Hid (IsBuilder 83 5 w.heap.size (w.heap.size + 1) (byteCells (printed (l.take k))) wr) ∧ Hid (Below w.heap.size w wr)) (fun i _ => l.length - (RowKit.intOf i).toNat)
  case atStart =>
    refine ⟨0, Nat.zero_le _, rfl, hidW ?_, hidW ?_⟩
    · have := fresh_below 83 5 w.heap.size (w.alloc (.cells #[v0, v1, v2, v3, v4, v5, v6, v7, .slice ao l.length cap, v9] 29)) (by rw [World.size_alloc]; omega)
      rw [World.size_alloc] at this
      exact this
    · exact ((Below.refl w.heap.size w).alloc (Nat.le_refl _) _).alloc (by rw [World.size_alloc]; omega) _
  case round =>
    obtain ⟨k, hk, rfl, HB, HW⟩ := hrel
    by_cases hkn : k < l.length
    · obtain ⟨s, hs⟩ : ∃ s, l[k]? = some s := ⟨l[k], List.getElem?_eq_getElem hkn⟩
      have hao := Hao.out (by omega)
      subst hao
      have hbw := Hb.out (by omega)
      obtain ⟨c, y0, y1, y2, y3, y4, y5, y6, y7, y8, y9, c0, c1, c2, c3, c4, c5, c6, c7, c8, c9, hr, hline, hone⟩ := (HK.out k s hs).ex
      have cc : ∀ j, wr.cell? ⟨b, j, none⟩ = w.cell? ⟨b, j, none⟩ := fun j => HW.out.cell (p := ⟨b, j, none⟩) hbw
      rw [← cc] at c0 c1 c2 c3 c4 c5 c6 c7 c8 c9
      obtain ⟨H1, H2, q1, q2⟩ := hline
      have Q1 := hidW q1
      have Q2 := hidW q2
      have HR := hidW hr
      have Hs := hidW hs
      have hBw := HW.out.size
      clear q1 q2 hr hs cc
      go_wp2_with fail
      rw [store_new _ _ _ _ _ (by simp) (hone _ (by simp))]
      simp only [Result.andThen]
      repeat (rw [store_new _ _ _ _ _ (by simp) (hone _ (by simp))]; simp only [Result.andThen])
      have hset : ((((((((((#[Value.int .i64 0, .string { data := #[] }, .int .i64 0, .int .i64 0, .string { data := #[] }, .int .i64 0, .slice none 0 0, .slice none 0 0, .slice none 0 0, .int .i64 0].setIfInBounds 0 y0).setIfInBounds 1 y1).setIfInBounds 2 y2).setIfInBounds 3 y3).setIfInBounds 4 y4).setIfInBounds 5 y5).setIfInBounds 6 y6).setIfInBounds 7 y7).setIfInBounds 8 y8).setIfInBounds 9 y9) = #[y0, y1, y2, y3, y4, y5, y6, y7, y8, y9] := by simp
      rw [hset]
      clear hset
      go_wp2_with fail
      have hsz : ((wr.alloc (.cells #[y0, y1, y2, y3, y4, y5, y6, y7, y8, y9] 29)).alloc (.cells #[.slice none 0 0] 87)).heap.size = wr.heap.size + 2 := by rw [World.size_alloc, World.size_alloc]
      have hold : ∀ j, j < wr.heap.size → ((wr.alloc (.cells #[y0, y1, y2, y3, y4, y5, y6, y7, y8, y9] 29)).alloc (.cells #[.slice none 0 0] 87)).heap[j]? = wr.heap[j]? := fun j hj =>
        (alloc_old _ _ j (by rw [World.size_alloc]; omega)).trans (alloc_old _ _ j hj)
      have hcW : ((wr.alloc (.cells #[y0, y1, y2, y3, y4, y5, y6, y7, y8, y9] 29)).alloc (.cells #[.slice none 0 0] 87)).cell? ⟨wr.heap.size + 1, 0, none⟩ = some (.slice none 0 0) := by
        have := World.cell?_alloc_new (wr.alloc (.cells #[y0, y1, y2, y3, y4, y5, y6, y7, y8, y9] 29)) #[.slice none 0 0] 87 0
        rw [World.size_alloc] at this
        exact this
      have hzW : ((wr.alloc (.cells #[y0, y1, y2, y3, y4, y5, y6, y7, y8, y9] 29)).alloc (.cells #[.slice none 0 0] 87)).frozen? ⟨wr.heap.size + 1, 0, none⟩ = false := by
        have := World.frozen?_alloc_new (wr.alloc (.cells #[y0, y1, y2, y3, y4, y5, y6, y7, y8, y9] 29)) #[.slice none 0 0] 87 0
        rw [World.size_alloc] at this
        exact this
      refine (two_calls envOk0 Q1.out Q2.out (w0 := w) (w := ((wr.alloc (.cells #[y0, y1, y2, y3, y4, y5, y6, y7, y8, y9] 29)).alloc (.cells #[.slice none 0 0] 87))) (B := wr.heap.size + 1) (by omega) (fun j hj => (hold j (by omega)).trans (HW.out.block j hj)) hcW hzW HR.out).mono ?_
      rintro e w1 ⟨rfl, hw1, C2⟩
      have CC := hidW C2
      clear C2 hcW hzW
      go_wp2_with fail
      refine CC.out.mono ?_
      rintro e w2 ⟨rfl, hw2⟩
      have hk2 : ∀ j, j < wr.heap.size → w2.heap[j]? = wr.heap[j]? := fun j hj => (hw2.blk j (by omega) (by omega)).trans (hold j hj)
      have hs2 : wr.heap.size ≤ w2.heap.size := by have := hw2.size; omega
      have hlen := Hlen.out
      have hlk := printed_le l (k + 1)
      have hpt := printed_take Hs.out
      rw [hpt, List.length_append, List.length_append, List.length_singleton] at hlk
      have HB2 := hidW (bld_kept HB.out hk2)
      have HW2 := hidW (⟨hw2.os, hw2.tape, hw2.output, hs2, fun j hj => hk2 j (by omega)⟩ : Below wr.heap.size wr w2)
      have Hpt := hidW hpt
      clear hw1 hw2 hk2 CC hold hsz hpt
      go_wp2_with fail
      refine (Tryz.Builder_WriteString w.heap.size (w.heap.size + 1) _ ⟨⟨s⟩⟩ w2 HB2.out (by rw [byteCells_length]; simp only [ByteArray.size]; simp; omega) (by omega)).mono ?_
      rintro e w3 ⟨rfl, h3, hb3⟩
      have H3 := hidW h3
      have Hb3 := hidW hb3
      clear h3 hb3
      go_wp2_with fail
      refine (Tryz.Builder_WriteByte w.heap.size (w.heap.size + 1) _ 10 w3 (.inr H3.out) (by rw [List.length_append, byteCells_length, strCells_length]; simp only [ByteArray.size]; simp; omega) (by have := Hb3.out.size; omega)).mono ?_
      rintro e w4 ⟨rfl, h4, hb4⟩
      have hnext : byteCells (printed (l.take k)) ++ strCells ⟨⟨s⟩⟩ ++ [.int .u8 10] = byteCells (printed (l.take (k + 1))) := by
        rw [Hpt.out, strCells_eq, byteCells_append, byteCells_append]
        rfl
      rw [hnext] at h4
      have H4 := hidW (Or.inr h4 : IsBuilder 83 5 w.heap.size (w.heap.size + 1) _ w4)
      have Hb4 := hidW ((HW.out.trans (below_down hBw HW2.out)).trans (Hb3.out.trans hb4))
      clear h4 hb4 hnext
      go_wp2
      exact ⟨⟨k + 1, by omega, by go_num, H4, Hb4⟩, by simp [RowKit.intOf]; omega⟩
    · have hke : k = l.length := by omega
      subst hke
      have hB' := HB.out
      rw [List.take_length] at hB'
      have hBw := HW.out.size
      have HB2 := hidW hB'
      clear hB'
      go_wp2_with fail
      refine (Tryz.Builder_String_any w.heap.size (w.heap.size + 1) _ wr HB2.out hBw).mono ?_
      rintro e w5 ⟨rfl, hb5⟩
      have Hb5 := hidW (HW.out.trans hb5)
      clear hb5
      go_wp2
      go_ret
      exact ⟨rfl, Hb5.out⟩

theorem lineOf_det {c : List V} {s s' : List UInt8} (h : lineOf c s) (g : lineOf c s') : s = s' := by
  obtain ⟨H1, H2, a1, a2⟩ := h
  obtain ⟨K1, K2, b1, b2⟩ := g
  rw [a1] at b1
  cases b1
  rw [a2] at b2
  cases b2
  rfl
/-- the lines of children that lie one behind the other -/
inductive Lines : List V → List (List UInt8) → Prop
  | nil : Lines [] []
  | cons (c r : List V) (s : List UInt8) (l : List (List UInt8)) : c.length = 10 → lineOf c s → Lines r l → Lines (c ++ r) (s :: l)
theorem Lines.det {cs : List V} {l : List (List UInt8)} (h : Lines cs l) : ∀ {l'}, Lines cs l' → l = l' := by
  induction h with
  | nil =>
    intro l' g
    generalize hq : ([] : List V) = q at g
    cases g with
    | nil => rfl
    | cons c r s l h1 h2 h3 =>
      have := congrArg List.length hq
      rw [List.length_append] at this
      simp at this
      omega
  | cons c r s l h1 h2 h3 ih =>
    intro l' g
    generalize hq : c ++ r = q at g
    cases g with
    | nil =>
      have := congrArg List.length hq
      rw [List.length_append, h1] at this
      simp only [List.length_nil] at this
      omega
    | cons c' r' s' l'' g1 g2 g3 =>
      obtain ⟨rfl, rfl⟩ := List.append_inj hq (by rw [h1, g1])
      rw [lineOf_det h2 g2, ih g3]
theorem Lines.get {cs : List V} {l : List (List UInt8)} (h : Lines cs l) : ∀ {k : Nat} {s : List UInt8}, l[k]? = some s → lineOf ((cs.drop (k * 10)).take 10) s ∧ k * 10 + 10 ≤ cs.length := by
  induction h with
  | nil => intro k s h; simp at h
  | cons c r s0 l h1 h2 h3 ih =>
    intro k s hk
    cases k with
    | zero =>
      simp only [List.getElem?_cons_zero, Option.some.injEq] at hk
      subst hk
      refine ⟨?_, by rw [List.length_append]; omega⟩
      rw [Nat.zero_mul, List.drop_zero, List.take_append_of_le_length (by omega), List.take_of_length_le (by omega)]
      exact h2
    | succ k =>
      simp only [List.getElem?_cons_succ] at hk
      obtain ⟨g1, g2⟩ := ih hk
      refine ⟨?_, by rw [List.length_append]; omega⟩
      rw [show (k + 1) * 10 = c.length + k * 10 from by omega, ← List.drop_drop, List.drop_left]
      exact g1
noncomputable def printI : List V → Hp → Option Out := fun args H => match args with
  | [.agg [_, _, _, _, _, _, _, _, .slice _ n cs, _]] => @dite _ (∃ l, Lines cs l ∧ l.length = n ∧ l.length ≤ 140737488355328 ∧ (printed l).length ≤ 140737488355328) (Classical.propDecidable _) (fun h => some (.ret (.str (printed h.choose)) H)) (fun _ => none)
  | _ => none
theorem printI_eq {c0 c1 c2 c3 c4 c5 c6 c7 c9 : V} {ow : Own} {n : Nat} {cs : List V} {l : List (List UInt8)} {H : Hp} (h : Lines cs l) (hn : l.length = n) (hN : l.length ≤ 140737488355328) (hl : (printed l).length ≤ 140737488355328) :
    printI [.agg [c0, c1, c2, c3, c4, c5, c6, c7, .slice ow n cs, c9]] H = some (.ret (.str (printed l)) H) := by
  have hex : ∃ l, Lines cs l ∧ l.length = n ∧ l.length ≤ 140737488355328 ∧ (printed l).length ≤ 140737488355328 := ⟨l, h, hn, hN, hl⟩
  have he : hex.choose = l := (h.det hex.choose_spec.1).symm
  simp only [printI]
  rw [dif_pos hex, he]
theorem ten {α : Type} (l : List α) (h : l.length = 10) : ∃ y0 y1 y2 y3 y4 y5 y6 y7 y8 y9, l = [y0, y1, y2, y3, y4, y5, y6, y7, y8, y9] := by
  match l, h with
  | [y0, y1, y2, y3, y4, y5, y6, y7, y8, y9], _ => exact ⟨_, _, _, _, _, _, _, _, _, _, rfl⟩
theorem print_ok : IntrOk Tryz.prog 20 printI := by
  refine ⟨fun args H out h ρ lab w xs hc hS hx => ?_, ⟨_, _, Tryz.func20, rfl, rfl⟩⟩
  unfold printI at h
  split at h
  · rename_i c0 c1 c2 c3 c4 c5 c6 c7 ow n cs c9
    split at h
    · rename_i hex
      cases h
      obtain ⟨hL, hn, hN, hlen⟩ := hex.choose_spec
      generalize hex.choose = l at hL hn hN hlen
      obtain ⟨x1, r1, rfl, a1, a2⟩ := relL_cons_iff.1 hx
      have : r1 = [] := by have := a2.1; simpa using this
      subst this
      cases a1 with
      | agg _ vs e1 e2 =>
      obtain ⟨v0, v1, v2, v3, v4, v5, v6, v7, v8, v9, rfl⟩ := ten vs (by rw [e1]; rfl)
      have q8 := e2 8 _ _ rfl rfl
      cases q8 with
      | slice _ _ _ ys b o ao cap g1 g2 g3 g4 g5 g6 g7 g8 g9 =>
      subst hn
      have K := print_walk v0 v1 v2 v3 v4 v5 v6 v7 v9 ao b o cap l w g2 g3 (fun h0 => ?_) hN (fun k s hk => ⟨?_⟩) hlen
      · refine K.mono fun e w' ⟨he, hw⟩ => ?_
        subst he
        have G : Grew w w' := ⟨hw.size, hw.os, hw.tape, hw.output, fun b hb => hw.block b hb⟩
        exact ⟨ρ, lab, hS.grew G, G.ext lab, ⟨fun _ _ _ h => h, fun _ _ _ _ h => h⟩, .str _, hc, Nat.le_refl _⟩
      · obtain ⟨_, h2⟩ := hL.get (List.getElem?_eq_getElem h0)
        have hy : 0 < ys.length := by rw [g1]; omega
        have := g5 0 ys[0] (by simp [hy])
        exact cellAt_lt this.cell
      · obtain ⟨h1, h2⟩ := hL.get hk
        have hlen2 : ((ys.drop (k * 10)).take 10).length = 10 := by
          rw [List.length_take, List.length_drop, g1]; omega
        obtain ⟨y0, y1, y2, y3, y4, y5, y6, y7, y8, y9, hy⟩ := ten _ hlen2
        have get : ∀ j, j < 10 → ∀ y, [y0, y1, y2, y3, y4, y5, y6, y7, y8, y9][j]? = some y → ys[k * 10 + j]? = some y := by
          intro j hj y hyj
          rw [← hy, List.getElem?_take, if_pos hj, List.getElem?_drop] at hyj
          exact hyj
        have cell : ∀ j, j < 10 → ∀ y, [y0, y1, y2, y3, y4, y5, y6, y7, y8, y9][j]? = some y → w.cell? ⟨b, o + k * 10 + j, none⟩ = some y := by
          intro j hj y hyj
          have := (g5 _ _ (get j hj y hyj)).cell
          rw [← Nat.add_assoc] at this
          exact this
        refine ⟨(cs.drop (k * 10)).take 10, y0, y1, y2, y3, y4, y5, y6, y7, y8, y9, cell 0 (by omega) _ rfl, cell 1 (by omega) _ rfl, cell 2 (by omega) _ rfl, cell 3 (by omega) _ rfl, cell 4 (by omega) _ rfl, cell 5 (by omega) _ rfl, cell 6 (by omega) _ rfl, cell 7 (by omega) _ rfl, cell 8 (by omega) _ rfl, cell 9 (by omega) _ rfl, ?_, h1, ?_⟩
        · refine .agg _ [y0, y1, y2, y3, y4, y5, y6, y7, y8, y9] ?_ (fun i v x hv hx => ?_)
          · rw [List.length_take, List.length_drop]
            show 10 = _
            omega
          · have hi : i < 10 := by
              rcases Nat.lt_or_ge i 10 with h | h
              · exact h
              · rw [List.getElem?_eq_none (by simpa using h)] at hx; cases hx
            rw [List.getElem?_take, if_pos hi, List.getElem?_drop] at hv
            exact nf_rel0 (g6 _ _ _ hv (get i hi x hx)) (g9 v (List.mem_of_getElem? hv))
        · intro y hyy
          obtain ⟨j, hj, rfl⟩ := List.mem_iff_getElem.1 hyy
          exact g8 _ (List.mem_of_getElem? (get j (by simpa using hj) _ (by simp [hj])))
    · cases h
  · cases h
end Go.Proofs.YtmonfppdiehlpaaGreatDoor.Aw
/- The table of this seat, with all contracts. (Printed by a program.) -/
namespace Go.Proofs.YtmonfppdiehlpaaGreatDoor.Aw
set_option linter.unusedSimpArgs false
set_option linter.unusedVariables false
set_option linter.unusedSectionVars false
open Go Go.Vm
noncomputable def intrF : Nat → Option Hand
  | 61 => some (.plain joinI)
  | 20 => some (.plain printI)
  | 41 => some (.via gPre gPost)
  | _ => none
noncomputable def env : Env := { P := Tryz.prog, T := T, keep := keep, byref := fun _ _ => none, meth := fun _ _ => none, tags := fun g => has g tagL, argTags := fun g => has g argL, quiet := fun g => has g quietL, loose := fun _ => false, ok := fun g => has g okL, cut := cut, tagc := tagc, argT := argT, sep := sep, mask := mask, look := fun g => has g lookL, frz := fun g => has g frzL, slk := slk, full := true, intr := intrF }
theorem codes : codesB env okL = true := by kernel_rfl
theorem methNo : MethOk env := by
  intro _ _ _ h
  cases h
theorem envOk : EnvOk env := ⟨methNo, tysB_ok tys, mixed, codesB_ok (fun _ h => h) codes, (fun g h hg => by simp only [env, intrF] at hg; split at hg <;> first | (cases hg; done) | (cases hg; exact join_ok) | (cases hg; exact print_ok)), (fun g pre post hg => by simp only [env, intrF] at hg; split at hg <;> first | (cases hg; done) | (cases hg; exact guarded_via))⟩
end Go.Proofs.YtmonfppdiehlpaaGreatDoor.Aw
/- The first example of the chapter: what Module gives of it, and how that is printed: by the kernel. (Printed by a program.) -/
namespace Go.Proofs.YtmonfppdiehlpaaGreatDoor.Aw
set_option linter.unusedSimpArgs false
set_option linter.unusedVariables false
set_option linter.unusedSectionVars false
open Go Go.Vm
set_option maxRecDepth 100000
def srcA : List UInt8 := [102, 117, 110, 99, 32, 102, 40, 120, 58, 32, 73, 110, 116, 41, 32, 45, 62, 32, 73, 110, 116, 32, 123, 32, 114, 101, 116, 117, 114, 110, 32, 120, 32, 43, 32, 50, 32, 42, 32, 51, 59, 32, 125]
def decA : List V := [.int .i64 7, .str [102], .int .i64 1, .int .i64 1, .str [], .int .i64 0, .slice .sealed 0 [], .slice .sealed 0 [], .slice .sealed 2 [.int .i64 10, .str [120], .int .i64 0, .int .i64 1, .str [], .int .i64 0, .slice .sealed 0 [], .slice .sealed 0 [], .slice .sealed 0 [], .int .i64 7, .int .i64 20, .str [], .int .i64 0, .int .i64 0, .str [], .int .i64 0, .slice .sealed 0 [], .slice .sealed 0 [], .slice .sealed 1 [.int .i64 28, .str [], .int .i64 0, .int .i64 0, .str [], .int .i64 0, .slice .sealed 0 [], .slice .sealed 0 [], .slice .sealed 1 [.int .i64 64, .str [43], .int .i64 0, .int .i64 0, .str [], .int .i64 0, .slice .sealed 0 [], .slice .sealed 0 [], .slice .sealed 2 [.int .i64 54, .str [120], .int .i64 0, .int .i64 0, .str [], .int .i64 0, .slice .sealed 0 [], .slice .sealed 0 [], .slice .sealed 0 [], .int .i64 31, .int .i64 64, .str [42], .int .i64 0, .int .i64 0, .str [], .int .i64 0, .slice .sealed 0 [], .slice .sealed 0 [], .slice .sealed 2 [.int .i64 50, .str [], .int .i64 2, .int .i64 0, .str [], .int .i64 0, .slice .sealed 0 [], .slice .sealed 0 [], .slice .sealed 0 [], .int .i64 35, .int .i64 50, .str [], .int .i64 3, .int .i64 0, .str [], .int .i64 0, .slice .sealed 0 [], .slice .sealed 0 [], .slice .sealed 0 [], .int .i64 39], .int .i64 35], .int .i64 31], .int .i64 24], .int .i64 22], .int .i64 0]
def cellsA : List V := [.int .i64 1, .str [], .int .i64 0, .int .i64 0, .str [], .int .i64 0, .slice .sealed 0 [], .slice .sealed 0 [], .slice .sealed 1 [.int .i64 7, .str [102], .int .i64 1, .int .i64 1, .str [], .int .i64 0, .slice .sealed 0 [], .slice .sealed 0 [], .slice .sealed 2 [.int .i64 10, .str [120], .int .i64 0, .int .i64 1, .str [], .int .i64 0, .slice .sealed 0 [], .slice .sealed 0 [], .slice .sealed 0 [], .int .i64 7, .int .i64 20, .str [], .int .i64 0, .int .i64 0, .str [], .int .i64 0, .slice .sealed 0 [], .slice .sealed 0 [], .slice .sealed 1 [.int .i64 28, .str [], .int .i64 0, .int .i64 0, .str [], .int .i64 0, .slice .sealed 0 [], .slice .sealed 0 [], .slice .sealed 1 [.int .i64 64, .str [43], .int .i64 0, .int .i64 0, .str [], .int .i64 0, .slice .sealed 0 [], .slice .sealed 0 [], .slice .sealed 2 [.int .i64 54, .str [120], .int .i64 0, .int .i64 0, .str [], .int .i64 0, .slice .sealed 0 [], .slice .sealed 0 [], .slice .sealed 0 [], .int .i64 31, .int .i64 64, .str [42], .int .i64 0, .int .i64 0, .str [], .int .i64 0, .slice .sealed 0 [], .slice .sealed 0 [], .slice .sealed 2 [.int .i64 50, .str [], .int .i64 2, .int .i64 0, .str [], .int .i64 0, .slice .sealed 0 [], .slice .sealed 0 [], .slice .sealed 0 [], .int .i64 35, .int .i64 50, .str [], .int .i64 3, .int .i64 0, .str [], .int .i64 0, .slice .sealed 0 [], .slice .sealed 0 [], .slice .sealed 0 [], .int .i64 39], .int .i64 35], .int .i64 31], .int .i64 24], .int .i64 22], .int .i64 0], .int .i64 0]
def hpA : Hp := [(0, .row [.slice (.tag 1) 22 [.str [102, 117, 110, 99], .str [102], .str [40], .str [120], .str [58], .str [73, 110, 116], .str [41], .str [45, 62], .str [73, 110, 116], .str [123], .str [114, 101, 116, 117, 114, 110], .str [40], .str [120], .str [43], .str [40], .str [50], .str [42], .str [51], .str [41], .str [41], .str [59], .str [125]]]), (1, .tip 1 22)]
def hpB : Hp := [(0, .row [.slice (.tag 1) 22 [.str [102, 117, 110, 99], .str [102], .str [40], .str [120], .str [58], .str [73, 110, 116], .str [41], .str [45, 62], .str [73, 110, 116], .str [123], .str [114, 101, 116, 117, 114, 110], .str [40], .str [120], .str [43], .str [40], .str [50], .str [42], .str [51], .str [41], .str [41], .str [59], .str [125]]]), (1, .tip 1 22)]
def lineA : List UInt8 := [102, 117, 110, 99, 32, 102, 32, 40, 32, 120, 32, 58, 32, 73, 110, 116, 32, 41, 32, 45, 62, 32, 73, 110, 116, 32, 123, 32, 114, 101, 116, 117, 114, 110, 32, 40, 32, 120, 32, 43, 32, 40, 32, 50, 32, 42, 32, 51, 32, 41, 32, 41, 32, 59, 32, 125]
def nodA : Nod := ⟨1, [], 0, ⟨0, [], 0, []⟩, [], [⟨7, [102], 1, ⟨1, [], 0, []⟩, [], [⟨10, [120], 0, ⟨1, [], 0, []⟩, [], [], 7⟩, ⟨20, [], 0, ⟨0, [], 0, []⟩, [], [⟨28, [], 0, ⟨0, [], 0, []⟩, [], [⟨64, [43], 0, ⟨0, [], 0, []⟩, [], [⟨54, [120], 0, ⟨0, [], 0, []⟩, [], [], 31⟩, ⟨64, [42], 0, ⟨0, [], 0, []⟩, [], [⟨50, [], 2, ⟨0, [], 0, []⟩, [], [], 35⟩, ⟨50, [], 3, ⟨0, [], 0, []⟩, [], [], 39⟩], 35⟩], 31⟩], 24⟩], 22⟩], 0⟩], 0⟩
theorem modA_run : run env 400 (.call 13 [.str srcA]) [] = some (.ret (.tuple [.agg cellsA, .slice .sealed 0 []]) []) := by kernel_rfl
theorem declA_run : run env0 400 (.call 56 [.ptr 0 0, .agg decA]) hp1 = some (.ret (.tuple []) hpA) := by kernel_rfl
theorem textA_run : run env0 400 (.call 58 [.ptr 0 0]) hpA = some (.ret (.str lineA) hpB) := by kernel_rfl
theorem modA_enc : (some (.ret (.tuple [.agg cellsA, .slice .sealed 0 []]) []) : Option Out) = some (.ret (.tuple [.agg (c1Nod nodA), .slice .sealed 0 (clFlt [])]) []) := by kernel_rfl
theorem modA_E : E env (.call 13 [.str srcA]) [] = some (.ret (.tuple [.agg (c1Nod nodA), .slice .sealed 0 (clFlt [])]) []) := ((run_chain env).le 400 _ _ _ modA_run).trans modA_enc
theorem lineA_ok : lineOf decA lineA := ⟨hpA, hpB, (run_chain env0).le 400 _ _ _ declA_run, (run_chain env0).le 400 _ _ _ textA_run⟩
theorem linesA : Lines (decA ++ []) [lineA] := .cons decA [] lineA [] (by kernel_rfl) lineA_ok .nil
theorem printA_E : E env (.call 20 [.agg (c1Nod nodA)]) [] = some (.ret (.str (printed [lineA])) []) := by
  refine E_step ?_
  have hi : env.intr 20 = some (.plain printI) := rfl
  show (match env.intr 20 with
    | some (.plain h) => h [.agg (c1Nod nodA)] []
    | some (.via pre post) => match pre [.agg (c1Nod nodA)] [] with
      | some (g', l, H') => match E env (.call g' l) H' with
        | some o => post [.agg (c1Nod nodA)] [] o
        | none => none
      | none => none
    | none => runCall env (E env) 20 [.agg (c1Nod nodA)] []) = _
  rw [hi]
  show printI _ _ = _
  have hc : (c1Nod nodA) = [.int .i64 1, .str [], .int .i64 0, .int .i64 0, .str [], .int .i64 0, .slice .sealed 0 [], .slice .sealed 0 [], .slice .sealed 1 (decA ++ []), .int .i64 0] := by kernel_rfl
  rw [hc]
  exact printI_eq linesA rfl (by decide) (by decide)
end Go.Proofs.YtmonfppdiehlpaaGreatDoor.Aw
/- Given. (Printed by a program.) -/
namespace Go.Proofs.YtmonfppdiehlpaaGreatDoor.Aw
set_option linter.unusedSimpArgs false
set_option linter.unusedVariables false
set_option linter.unusedSectionVars false
open Go Go.Vm
set_option maxRecDepth 100000
set_option maxHeartbeats 20000000
set_option linter.unusedVariables false
def modG (src1 : Str) : Option (Nod × List Flt) := match decide (src1 = srcA) with
  | true => some (nodA, [])
  | false => none
noncomputable def printG (n1 : Nod) : Option Str := match E env (.call 20 [.agg [.int .i64 n1.op, .str n1.s, .int .i64 n1.n, .int .i64 n1.t.kind, .str n1.t.name, .int .i64 n1.t.n, .slice .sealed (List.length n1.t.args) (clTyp n1.t.args), .slice .sealed (List.length n1.ts) (clTyp n1.ts), .slice .sealed (List.length n1.l) (clNod n1.l), .int .i64 n1.at_]]) [] with
  | some (.ret (.str s) []) => some s
  | _ => none

end Go.Proofs.YtmonfppdiehlpaaGreatDoor.Aw
/- The functions in plain Lean. (Printed by a program.) -/
namespace Go.Proofs.YtmonfppdiehlpaaGreatDoor.Aw
set_option linter.unusedSimpArgs false
set_option linter.unusedVariables false
set_option linter.unusedSectionVars false
open Go Go.Vm
set_option maxRecDepth 100000
set_option maxHeartbeats 20000000
set_option linter.unusedVariables false
noncomputable def law02_awake : Option (Bool) :=
  (modG [102, 117, 110, 99, 32, 102, 40, 120, 58, 32, 73, 110, 116, 41, 32, 45, 62, 32, 73, 110, 116, 32, 123, 32, 114, 101, 116, 117, 114, 110, 32, 120, 32, 43, 32, 50, 32, 42, 32, 51, 59, 32, 125]).bind fun (nn1, ll2) =>
  cond (eqB (List.length ll2 : Int) 0) (
  (printG nn1).bind fun rr3 =>
  some ((eqS rr3 [102, 117, 110, 99, 32, 102, 32, 40, 32, 120, 32, 58, 32, 73, 110, 116, 32, 41, 32, 45, 62, 32, 73, 110, 116, 32, 123, 32, 114, 101, 116, 117, 114, 110, 32, 40, 32, 120, 32, 43, 32, 40, 32, 50, 32, 42, 32, 51, 32, 41, 32, 41, 32, 59, 32, 125, 10]))) (
  some (false))
def law02_awake_enc : Bool → Out
  | r501 => .ret (.bool r501) []
end Go.Proofs.YtmonfppdiehlpaaGreatDoor.Aw
/- Given (to be filled in). (Printed by a program.) -/
namespace Go.Proofs.YtmonfppdiehlpaaGreatDoor.Aw
set_option linter.unusedSimpArgs false
set_option linter.unusedVariables false
set_option linter.unusedSectionVars false
open Go Go.Vm
set_option maxRecDepth 100000
set_option maxHeartbeats 20000000
set_option linter.unusedVariables false
theorem modG_ok {src1 : Str} {nn : Nod} {ll : List Flt} (h : modG src1 = some (nn, ll)) : E env (.call 13 [.str src1]) [] = some (.ret (.tuple [.agg [.int .i64 nn.op, .str nn.s, .int .i64 nn.n, .int .i64 nn.t.kind, .str nn.t.name, .int .i64 nn.t.n, .slice .sealed (List.length nn.t.args) (clTyp nn.t.args), .slice .sealed (List.length nn.ts) (clTyp nn.ts), .slice .sealed (List.length nn.l) (clNod nn.l), .int .i64 nn.at_], .slice .sealed (List.length ll) (clFlt ll)]) []) := by
  unfold modG at h
  split at h
  · rename_i hs
    have hs := of_decide_eq_true hs
    subst hs
    cases h
    exact modA_E
  · cases h
theorem printG_ok {n1 : Nod} {rr : Str} (h : printG n1 = some rr) : E env (.call 20 [.agg [.int .i64 n1.op, .str n1.s, .int .i64 n1.n, .int .i64 n1.t.kind, .str n1.t.name, .int .i64 n1.t.n, .slice .sealed (List.length n1.t.args) (clTyp n1.t.args), .slice .sealed (List.length n1.ts) (clTyp n1.ts), .slice .sealed (List.length n1.l) (clNod n1.l), .int .i64 n1.at_]]) [] = some (.ret (.str rr) []) := by
  unfold printG at h
  split at h
  · rename_i he
    cases h
    exact he
  · cases h
end Go.Proofs.YtmonfppdiehlpaaGreatDoor.Aw
/- The functions do what the plain Lean says. (Printed by a program.) -/
namespace Go.Proofs.YtmonfppdiehlpaaGreatDoor.Aw
set_option linter.unusedSimpArgs false
set_option linter.unusedVariables false
set_option linter.unusedSectionVars false
open Go Go.Vm
set_option maxRecDepth 100000
set_option maxHeartbeats 20000000
set_option linter.unusedVariables false
theorem law02_awake_ok {r : Bool} (h : law02_awake = some r) :
    E env (.call 12 []) [] = some (law02_awake_enc r) := by
  unfold law02_awake at h
  refine call_out rfl Tryz.func12 rfl rfl ?_
  refine ev_seq ?_
  refine ev_region ?_
  refine os_pure rfl rfl rfl ?_
  refine os_nil ?_
  refine ev_seq ?_
  refine ev_region ?_
  obtain ⟨⟨nn1, ll2⟩, g1, h⟩ := bnd_inv h
  obtain ⟨nn1_0, nn1_1, nn1_2, ⟨nn1_3, nn1_4, nn1_5, nn1_6⟩, nn1_7, nn1_8, nn1_9⟩ := nn1
  refine os_quiet rfl rfl rfl rfl rfl (modG_ok g1) rfl ?_
  refine os_pure rfl rfl rfl ?_
  refine os_pure rfl rfl rfl ?_
  refine os_pure rfl rfl rfl ?_
  refine os_eff rfl rfl rfl ?_
  refine os_eff rfl rfl rfl ?_
  refine os_pure rfl rfl rfl ?_
  refine os_nil ?_
  refine ev_seq ?_
  refine ev_region ?_
  refine os_pure rfl rfl rfl ?_
  refine os_pure rfl rfl rfl ?_
  refine os_pure rfl rfl rfl ?_
  refine os_pure rfl rfl rfl ?_
  refine os_guard rfl rfl rfl (fun g2 => ?_) (fun g2 => ?_)
  · replace h := cond_t h g2
    refine os_eff rfl rfl rfl ?_
    obtain ⟨rr3, g3, h⟩ := bnd_inv h
    refine os_quiet rfl rfl rfl rfl rfl (printG_ok g3) rfl ?_
    refine os_pure rfl rfl rfl ?_
    refine os_pure rfl rfl rfl ?_
    refine os_pure rfl rfl rfl ?_
    refine os_nil ?_
    cases h
    exact ev_ret ⟨_, _, _, rfl, rfl, rfl⟩
  · replace h := cond_f h g2
    refine os_skip rfl ?_
    refine os_skip rfl ?_
    refine os_skip rfl ?_
    refine os_pure rfl rfl rfl ?_
    refine os_pure rfl rfl rfl ?_
    refine os_nil ?_
    cases h
    exact ev_ret ⟨_, _, _, rfl, rfl, rfl⟩
end Go.Proofs.YtmonfppdiehlpaaGreatDoor.Aw
/- The first example is parsed and printed as it stands there; a contract by hand. -/
namespace Go.Proofs.YtmonfppdiehlpaaGreatDoor.Aw
set_option linter.unusedSimpArgs false
set_option linter.unusedVariables false
set_option linter.unusedSectionVars false
open Go Go.Vm
theorem eqB_t {a b : Int} (h : a = b) : eqB a b = true := by simp [eqB, h]
theorem eqS_refl (s : Str) : eqS s s = true := by simp [eqS]
/-- the first example is parsed and printed as it stands there -/
theorem awake_ok : law02_awake = some true := by
  unfold law02_awake
  have h1 : modG [102, 117, 110, 99, 32, 102, 40, 120, 58, 32, 73, 110, 116, 41, 32, 45, 62, 32, 73, 110, 116, 32, 123, 32, 114, 101, 116, 117, 114, 110, 32, 120, 32, 43, 32, 50, 32, 42, 32, 51, 59, 32, 125] = some (nodA, []) := by
    unfold modG
    rw [show decide (_ = srcA) = true from by decide]
  rw [h1, Option.bind_some]
  simp only [List.length_nil]
  rw [show eqB ((0 : Nat) : Int) 0 = true from eqB_t rfl, cond_true]
  have h2 : printG nodA = some (printed [lineA]) := by
    unfold printG
    have h3 := printA_E
    unfold c1Nod at h3
    rw [h3]
  rw [h2, Option.bind_some]
  have h4 : eqS (printed [lineA]) [102, 117, 110, 99, 32, 102, 32, 40, 32, 120, 32, 58, 32, 73, 110, 116, 32, 41, 32, 45, 62, 32, 73, 110, 116, 32, 123, 32, 114, 101, 116, 117, 114, 110, 32, 40, 32, 120, 32, 43, 32, 40, 32, 50, 32, 42, 32, 51, 32, 41, 32, 41, 32, 59, 32, 125, 10] = true := by
    have : printed [lineA] = [102, 117, 110, 99, 32, 102, 32, 40, 32, 120, 32, 58, 32, 73, 110, 116, 32, 41, 32, 45, 62, 32, 73, 110, 116, 32, 123, 32, 114, 101, 116, 117, 114, 110, 32, 40, 32, 120, 32, 43, 32, 40, 32, 50, 32, 42, 32, 51, 32, 41, 32, 41, 32, 59, 32, 125, 10] := by decide
    rw [this, eqS_refl]
  rw [h4]
theorem awake_E : E env (.call 12 []) [] = some (.ret (.bool true) []) := law02_awake_ok awake_ok
def awakeF : List V → Option V := fun args => match args with
  | [] => some (.bool true)
  | _ => none
theorem awake_intr : IntrOk Tryz.prog 12 (valI awakeF) := by
  refine valI_ok envOk (fun args v h => ?_) ⟨_, _, Tryz.func12, by kernel_rfl, rfl⟩
  unfold awakeF at h
  split at h
  · cases h
    exact ⟨rfl, rfl, awake_E⟩
  · cases h
end Go.Proofs.YtmonfppdiehlpaaGreatDoor.Aw
/- The table of this seat, with all contracts. (Printed by a program.) -/
namespace Go.Proofs.YtmonfppdiehlpaaGreatDoor
set_option linter.unusedSimpArgs false
set_option linter.unusedVariables false
set_option linter.unusedSectionVars false
open Go Go.Vm
noncomputable def intrF : Nat → Option Hand
  | 61 => some (.plain joinI)
  | 81 => some (.plain (valI Sc.tokF))
  | 45 => some (.plain (valI Sc.tokF))
  | 12 => some (.plain (valI Aw.awakeF))
  | 41 => some (.via gPre gPost)
  | _ => none
noncomputable def env : Env := { P := Tryz.prog, T := T, keep := keep, byref := fun _ _ => none, meth := fun _ _ => none, tags := fun g => has g tagL, argTags := fun g => has g argL, quiet := fun g => has g quietL, loose := fun _ => false, ok := fun g => has g okL, cut := cut, tagc := tagc, argT := argT, sep := sep, mask := mask, look := fun g => has g lookL, frz := fun g => has g frzL, slk := slk, full := true, intr := intrF }
theorem codes : codesB env okL = true := by kernel_rfl
theorem methNo : MethOk env := by
  intro _ _ _ h
  cases h
theorem envOk : EnvOk env := ⟨methNo, tysB_ok tys, mixed, codesB_ok (fun _ h => h) codes, (fun g h hg => by simp only [env, intrF] at hg; split at hg <;> first | (cases hg; done) | (cases hg; exact join_ok) | (cases hg; exact Sc.tok_intr) | (cases hg; exact Sc.tokr_intr) | (cases hg; exact Aw.awake_intr)), (fun g pre post hg => by simp only [env, intrF] at hg; split at hg <;> first | (cases hg; done) | (cases hg; exact guarded_via))⟩
end Go.Proofs.YtmonfppdiehlpaaGreatDoor
/- Given (to be filled in). (Printed by a program.) -/
namespace Go.Proofs.YtmonfppdiehlpaaGreatDoor
set_option linter.unusedSimpArgs false
set_option linter.unusedVariables false
set_option linter.unusedSectionVars false
open Go Go.Vm
set_option maxRecDepth 100000
set_option maxHeartbeats 20000000
set_option linter.unusedVariables false
theorem awakeG_ok {bb : Bool} (h : awakeG = some bb) : E env (.call 12 []) [] = some (.ret (.bool bb) []) := by
  cases h
  exact E_plain rfl rfl
theorem scanTok_ok {src1 : Str} {l2 : List Tok} {c3 : Int} {a4 : Int} (h : scanTok src1 = some (l2, c3, a4)) : E env (.call 81 [.str src1]) [] = some (.ret (.tuple [.slice .sealed (List.length l2) (clTok l2), .agg [.int .i64 c3, .int .i64 a4]]) []) := by
  unfold scanTok at h
  cases h
  exact tok_call rfl (Sc.tokR_ok _).1
theorem scanTok_ref {src1 : Str} {l2 : List Tok} {c3 : Int} {a4 : Int} (h : scanTok src1 = some (l2, c3, a4)) : E env (.call 45 [.str src1]) [] = some (.ret (.tuple [.slice .sealed (List.length l2) (clTok l2), .agg [.int .i64 c3, .int .i64 a4]]) []) := by
  unfold scanTok at h
  cases h
  exact tok_call rfl (Sc.tokR_ok _).1
end Go.Proofs.YtmonfppdiehlpaaGreatDoor
/- The functions do what the plain Lean says. (Printed by a program.) -/
namespace Go.Proofs.YtmonfppdiehlpaaGreatDoor
set_option linter.unusedSimpArgs false
set_option linter.unusedVariables false
set_option linter.unusedSectionVars false
open Go Go.Vm
set_option maxRecDepth 100000
set_option maxHeartbeats 20000000
set_option linter.unusedVariables false
theorem law02_long_ok {src1 : Str} {r : Unit} (h : law02_long src1 = some r) :
    E env (.call 11 [.str src1]) [] = some (law02_long_enc src1 r) := by
  unfold law02_long at h
  refine call_out rfl Tryz.func11 rfl rfl ?_
  refine ev_seq ?_
  refine ev_region ?_
  refine os_pure rfl rfl rfl ?_
  refine os_nil ?_
  refine ev_seq ?_
  refine ev_region ?_
  refine os_pure rfl rfl rfl ?_
  refine os_pure rfl rfl rfl ?_
  refine os_pure rfl rfl rfl ?_
  refine os_pure rfl rfl rfl ?_
  refine os_nil ?_
  cases h
  exact ev_ret ⟨_, _, _, rfl, rfl, rfl⟩
theorem ref02_reader_offset_ok {l1 : List Tok} {end2 : Int} {at3 : Int} {place4 : Int} {r : Int} (h : ref02_reader_offset l1 end2 at3 place4 = some r) :
    E env (.call 47 [.ptr 0 0]) [(0, .row [.slice .sealed (List.length l1) (clTok l1), .int .i64 end2, .int .i64 at3, .int .i64 place4])] = some (ref02_reader_offset_enc l1 end2 at3 place4 r) := by
  unfold ref02_reader_offset at h
  refine call_out rfl Tryz.func47 rfl rfl ?_
  refine ev_seq ?_
  refine ev_region ?_
  refine os_pure rfl rfl rfl ?_
  refine os_nil ?_
  refine ev_seq ?_
  refine ev_seq ?_
  refine ev_region ?_
  refine os_pure rfl rfl rfl ?_
  refine os_pure rfl rfl rfl ?_
  refine os_pure rfl rfl rfl ?_
  refine os_eff rfl rfl rfl ?_
  refine os_pure rfl rfl rfl ?_
  refine os_pure rfl rfl rfl ?_
  refine os_pure rfl rfl rfl ?_
  refine os_eff rfl rfl rfl ?_
  refine os_pure rfl rfl rfl ?_
  refine os_pure rfl rfl rfl ?_
  refine os_nil ?_
  refine ev_if rfl (fun g1 => ?_) (fun g1 => ?_)
  · replace h := cond_t h g1
    refine ev_seq ?_
    refine ev_region ?_
    refine os_pure rfl rfl rfl ?_
    refine os_pure rfl rfl rfl ?_
    refine os_pure rfl rfl rfl ?_
    refine os_eff rfl rfl rfl ?_
    refine os_pure rfl rfl rfl ?_
    refine os_pure rfl rfl rfl ?_
    refine os_pure rfl rfl rfl ?_
    refine os_eff rfl rfl rfl ?_
    obtain ⟨x5, g2, h⟩ := bnd_inv h
    refine os_idx encTok g2 rfl rfl rfl rfl rfl rfl rfl rfl ?_
    refine os_pure rfl rfl rfl ?_
    refine os_eff rfl rfl rfl ?_
    refine os_pure rfl rfl rfl ?_
    refine os_nil ?_
    cases h
    exact ev_ret ⟨_, _, _, rfl, rfl, rfl⟩
  · replace h := cond_f h g1
    refine ev_skip ?_
    refine ev_seq ?_
    refine ev_region ?_
    refine os_pure rfl rfl rfl ?_
    refine os_pure rfl rfl rfl ?_
    refine os_pure rfl rfl rfl ?_
    refine os_eff rfl rfl rfl ?_
    refine os_pure rfl rfl rfl ?_
    refine os_nil ?_
    cases h
    exact ev_ret ⟨_, _, _, rfl, rfl, rfl⟩
theorem ref02_reader_isKind_ok {kind1 : Int} {l2 : List Tok} {end3 : Int} {at4 : Int} {place5 : Int} {r : Bool} (h : ref02_reader_isKind kind1 l2 end3 at4 place5 = some r) :
    E env (.call 196 [.ptr 0 0, .int .i64 kind1]) [(0, .row [.slice .sealed (List.length l2) (clTok l2), .int .i64 end3, .int .i64 at4, .int .i64 place5])] = some (ref02_reader_isKind_enc kind1 l2 end3 at4 place5 r) := by
  unfold ref02_reader_isKind at h
  refine call_out rfl Tryz.func196 rfl rfl ?_
  refine ev_seq ?_
  refine ev_region ?_
  refine os_pure rfl rfl rfl ?_
  refine os_nil ?_
  refine ev_seq ?_
  refine ev_region ?_
  refine os_pure rfl rfl rfl ?_
  refine os_pure rfl rfl rfl ?_
  refine os_pure rfl rfl rfl ?_
  refine os_eff rfl rfl rfl ?_
  refine os_pure rfl rfl rfl ?_
  refine os_pure rfl rfl rfl ?_
  refine os_pure rfl rfl rfl ?_
  refine os_eff rfl rfl rfl ?_
  refine os_pure rfl rfl rfl ?_
  refine os_pure rfl rfl rfl ?_
  refine os_pure rfl rfl rfl ?_
  refine os_guard rfl rfl rfl (fun g1 => ?_) (fun g1 => ?_)
  · replace h := cond_t h g1
    refine os_pure rfl rfl rfl ?_
    refine os_pure rfl rfl rfl ?_
    refine os_pure rfl rfl rfl ?_
    refine os_eff rfl rfl rfl ?_
    refine os_pure rfl rfl rfl ?_
    refine os_pure rfl rfl rfl ?_
    refine os_pure rfl rfl rfl ?_
    refine os_eff rfl rfl rfl ?_
    obtain ⟨x6, g2, h⟩ := bnd_inv h
    refine os_idx encTok g2 rfl rfl rfl rfl rfl rfl rfl rfl ?_
    refine os_pure rfl rfl rfl ?_
    refine os_eff rfl rfl rfl ?_
    refine os_pure rfl rfl rfl ?_
    refine os_pure rfl rfl rfl ?_
    refine os_pure rfl rfl rfl ?_
    refine os_pure rfl rfl rfl ?_
    refine os_nil ?_
    cases h
    exact ev_ret ⟨_, _, _, rfl, rfl, rfl⟩
  · replace h := cond_f h g1
    refine os_skip rfl ?_
    refine os_skip rfl ?_
    refine os_skip rfl ?_
    refine os_skip rfl ?_
    refine os_skip rfl ?_
    refine os_skip rfl ?_
    refine os_skip rfl ?_
    refine os_skip rfl ?_
    refine os_skip rfl ?_
    refine os_skip rfl ?_
    refine os_skip rfl ?_
    refine os_skip rfl ?_
    refine os_skip rfl ?_
    refine os_pure rfl rfl rfl ?_
    refine os_pure rfl rfl rfl ?_
    refine os_nil ?_
    cases h
    exact ev_ret ⟨_, _, _, rfl, rfl, rfl⟩
theorem ref02_reader_word_ok {kind1 : Int} {l2 : List Tok} {end3 : Int} {at4 : Int} {place5 : Int} {r : Str × Bool × Int} (h : ref02_reader_word kind1 l2 end3 at4 place5 = some r) :
    E env (.call 136 [.ptr 0 0, .int .i64 kind1]) [(0, .row [.slice .sealed (List.length l2) (clTok l2), .int .i64 end3, .int .i64 at4, .int .i64 place5])] = some (ref02_reader_word_enc kind1 l2 end3 at4 place5 r) := by
  unfold ref02_reader_word at h
  refine call_out rfl Tryz.func136 rfl rfl ?_
  refine ev_seq ?_
  refine ev_region ?_
  refine os_pure rfl rfl rfl ?_
  refine os_pure rfl rfl rfl ?_
  refine os_nil ?_
  refine ev_seq ?_
  refine ev_seq ?_
  refine ev_region ?_
  refine os_pure rfl rfl rfl ?_
  refine os_pure rfl rfl rfl ?_
  obtain ⟨r6, g1, h⟩ := bnd_inv h
  refine os_call rfl rfl rfl (callVia_eq rfl rfl (ref02_reader_isKind_ok g1) rfl rfl rfl) ?_
  refine os_nil ?_
  refine ev_if rfl (fun g2 => ?_) (fun g2 => ?_)
  · replace h := cond_t h g2
    refine ev_seq ?_
    refine ev_region ?_
    refine os_pure rfl rfl rfl ?_
    refine os_pure rfl rfl rfl ?_
    refine os_pure rfl rfl rfl ?_
    refine os_eff rfl rfl rfl ?_
    refine os_pure rfl rfl rfl ?_
    refine os_pure rfl rfl rfl ?_
    refine os_pure rfl rfl rfl ?_
    refine os_eff rfl rfl rfl ?_
    obtain ⟨x7, g3, h⟩ := bnd_inv h
    refine os_idx encTok g3 rfl rfl rfl rfl rfl rfl rfl rfl ?_
    refine os_pure rfl rfl rfl ?_
    refine os_eff rfl rfl rfl ?_
    refine os_pure rfl rfl rfl ?_
    refine os_nil ?_
    refine ev_seq ?_
    refine ev_region ?_
    refine os_pure rfl rfl rfl ?_
    refine os_pure rfl rfl rfl ?_
    refine os_pure rfl rfl rfl ?_
    refine os_eff rfl rfl rfl ?_
    refine os_pure rfl rfl rfl ?_
    refine os_pure rfl rfl rfl ?_
    refine os_pure rfl rfl rfl ?_
    refine os_eff rfl rfl rfl ?_
    refine os_nil ?_
    refine ev_seq ?_
    refine ev_region ?_
    refine os_pure rfl rfl rfl ?_
    refine os_pure rfl rfl rfl ?_
    refine os_pure rfl rfl rfl ?_
    refine os_nil ?_
    cases h
    exact ev_ret ⟨_, _, _, rfl, rfl, rfl⟩
  · replace h := cond_f h g2
    refine ev_skip ?_
    refine ev_seq ?_
    refine ev_region ?_
    refine os_pure rfl rfl rfl ?_
    refine os_pure rfl rfl rfl ?_
    refine os_nil ?_
    cases h
    exact ev_ret ⟨_, _, _, rfl, rfl, rfl⟩
theorem ref02_reader_next_ok {kind1 : Int} {text2 : Str} {l3 : List Tok} {end4 : Int} {at5 : Int} {place6 : Int} {r : Bool} (h : ref02_reader_next kind1 text2 l3 end4 at5 place6 = some r) :
    E env (.call 168 [.ptr 0 0, .int .i64 kind1, .str text2]) [(0, .row [.slice .sealed (List.length l3) (clTok l3), .int .i64 end4, .int .i64 at5, .int .i64 place6])] = some (ref02_reader_next_enc kind1 text2 l3 end4 at5 place6 r) := by
  unfold ref02_reader_next at h
  refine call_out rfl Tryz.func168 rfl rfl ?_
  refine ev_seq ?_
  refine ev_region ?_
  refine os_pure rfl rfl rfl ?_
  refine os_nil ?_
  refine ev_seq ?_
  refine ev_region ?_
  refine os_pure rfl rfl rfl ?_
  refine os_pure rfl rfl rfl ?_
  refine os_pure rfl rfl rfl ?_
  refine os_eff rfl rfl rfl ?_
  refine os_pure rfl rfl rfl ?_
  refine os_pure rfl rfl rfl ?_
  refine os_pure rfl rfl rfl ?_
  refine os_eff rfl rfl rfl ?_
  refine os_pure rfl rfl rfl ?_
  refine os_pure rfl rfl rfl ?_
  refine os_pure rfl rfl rfl ?_
  refine os_guard rfl rfl rfl (fun g1 => ?_) (fun g1 => ?_)
  · replace h := cond_t h g1
    refine os_pure rfl rfl rfl ?_
    refine os_pure rfl rfl rfl ?_
    refine os_pure rfl rfl rfl ?_
    refine os_eff rfl rfl rfl ?_
    refine os_pure rfl rfl rfl ?_
    refine os_pure rfl rfl rfl ?_
    refine os_pure rfl rfl rfl ?_
    refine os_eff rfl rfl rfl ?_
    obtain ⟨x7, g2, h⟩ := bnd_inv h
    refine os_idx encTok g2 rfl rfl rfl rfl rfl rfl rfl rfl ?_
    refine os_pure rfl rfl rfl ?_
    refine os_eff rfl rfl rfl ?_
    refine os_pure rfl rfl rfl ?_
    refine os_pure rfl rfl rfl ?_
    refine os_pure rfl rfl rfl ?_
    refine os_pure rfl rfl rfl ?_
    refine os_guard rfl rfl rfl (fun g3 => ?_) (fun g3 => ?_)
    · replace h := cond_t h g3
      refine os_pure rfl rfl rfl ?_
      refine os_pure rfl rfl rfl ?_
      refine os_pure rfl rfl rfl ?_
      refine os_eff rfl rfl rfl ?_
      refine os_pure rfl rfl rfl ?_
      refine os_pure rfl rfl rfl ?_
      refine os_pure rfl rfl rfl ?_
      refine os_eff rfl rfl rfl ?_
      obtain ⟨x8, g4, h⟩ := bnd_inv h
      refine os_idx encTok g4 rfl rfl rfl rfl rfl rfl rfl rfl ?_
      refine os_pure rfl rfl rfl ?_
      refine os_eff rfl rfl rfl ?_
      refine os_pure rfl rfl rfl ?_
      refine os_pure rfl rfl rfl ?_
      refine os_pure rfl rfl rfl ?_
      refine os_pure rfl rfl rfl ?_
      refine os_nil ?_
      cases h
      exact ev_ret ⟨_, _, _, rfl, rfl, rfl⟩
    · replace h := cond_f h g3
      refine os_skip rfl ?_
      refine os_skip rfl ?_
      refine os_skip rfl ?_
      refine os_skip rfl ?_
      refine os_skip rfl ?_
      refine os_skip rfl ?_
      refine os_skip rfl ?_
      refine os_skip rfl ?_
      refine os_skip rfl ?_
      refine os_skip rfl ?_
      refine os_skip rfl ?_
      refine os_skip rfl ?_
      refine os_skip rfl ?_
      refine os_pure rfl rfl rfl ?_
      refine os_pure rfl rfl rfl ?_
      refine os_nil ?_
      cases h
      exact ev_ret ⟨_, _, _, rfl, rfl, rfl⟩
  · replace h := cond_f h g1
    refine os_skip rfl ?_
    refine os_skip rfl ?_
    refine os_skip rfl ?_
    refine os_skip rfl ?_
    refine os_skip rfl ?_
    refine os_skip rfl ?_
    refine os_skip rfl ?_
    refine os_skip rfl ?_
    refine os_skip rfl ?_
    refine os_skip rfl ?_
    refine os_skip rfl ?_
    refine os_skip rfl ?_
    refine os_skip rfl ?_
    refine os_pure rfl rfl rfl ?_
    refine os_pure rfl rfl rfl ?_
    refine os_skip rfl ?_
    refine os_skip rfl ?_
    refine os_skip rfl ?_
    refine os_skip rfl ?_
    refine os_skip rfl ?_
    refine os_skip rfl ?_
    refine os_skip rfl ?_
    refine os_skip rfl ?_
    refine os_skip rfl ?_
    refine os_skip rfl ?_
    refine os_skip rfl ?_
    refine os_skip rfl ?_
    refine os_skip rfl ?_
    refine os_pure rfl rfl rfl ?_
    refine os_pure rfl rfl rfl ?_
    refine os_nil ?_
    cases h
    exact ev_ret ⟨_, _, _, rfl, rfl, rfl⟩
theorem ref02_reader_take_ok {kind1 : Int} {text2 : Str} {l3 : List Tok} {end4 : Int} {at5 : Int} {place6 : Int} {r : Bool × Int} (h : ref02_reader_take kind1 text2 l3 end4 at5 place6 = some r) :
    E env (.call 166 [.ptr 0 0, .int .i64 kind1, .str text2]) [(0, .row [.slice .sealed (List.length l3) (clTok l3), .int .i64 end4, .int .i64 at5, .int .i64 place6])] = some (ref02_reader_take_enc kind1 text2 l3 end4 at5 place6 r) := by
  unfold ref02_reader_take at h
  refine call_out rfl Tryz.func166 rfl rfl ?_
  refine ev_seq ?_
  refine ev_region ?_
  refine os_pure rfl rfl rfl ?_
  refine os_nil ?_
  refine ev_seq ?_
  refine ev_seq ?_
  refine ev_region ?_
  refine os_pure rfl rfl rfl ?_
  refine os_pure rfl rfl rfl ?_
  refine os_pure rfl rfl rfl ?_
  obtain ⟨r7, g1, h⟩ := bnd_inv h
  refine os_call rfl rfl rfl (callVia_eq rfl rfl (ref02_reader_next_ok g1) rfl rfl rfl) ?_
  refine os_nil ?_
  refine ev_if rfl (fun g2 => ?_) (fun g2 => ?_)
  · replace h := cond_t h g2
    refine ev_seq ?_
    refine ev_region ?_
    refine os_pure rfl rfl rfl ?_
    refine os_pure rfl rfl rfl ?_
    refine os_pure rfl rfl rfl ?_
    refine os_eff rfl rfl rfl ?_
    refine os_pure rfl rfl rfl ?_
    refine os_pure rfl rfl rfl ?_
    refine os_pure rfl rfl rfl ?_
    refine os_eff rfl rfl rfl ?_
    refine os_nil ?_
    refine ev_seq ?_
    refine ev_region ?_
    refine os_pure rfl rfl rfl ?_
    refine os_nil ?_
    cases h
    exact ev_ret ⟨_, _, _, rfl, rfl, rfl⟩
  · replace h := cond_f h g2
    refine ev_skip ?_
    refine ev_seq ?_
    refine ev_region ?_
    refine os_pure rfl rfl rfl ?_
    refine os_nil ?_
    cases h
    exact ev_ret ⟨_, _, _, rfl, rfl, rfl⟩
theorem ref02_reader_sign_ok {s1 : Str} {l2 : List Tok} {end3 : Int} {at4 : Int} {place5 : Int} {r : Bool × Int} (h : ref02_reader_sign s1 l2 end3 at4 place5 = some r) :
    E env (.call 137 [.ptr 0 0, .str s1]) [(0, .row [.slice .sealed (List.length l2) (clTok l2), .int .i64 end3, .int .i64 at4, .int .i64 place5])] = some (ref02_reader_sign_enc s1 l2 end3 at4 place5 r) := by
  unfold ref02_reader_sign at h
  refine call_out rfl Tryz.func137 rfl rfl ?_
  refine ev_seq ?_
  refine ev_region ?_
  refine os_pure rfl rfl rfl ?_
  refine os_nil ?_
  refine ev_seq ?_
  refine ev_region ?_
  refine os_pure rfl rfl rfl ?_
  refine os_pure rfl rfl rfl ?_
  obtain ⟨⟨r6, at7⟩, g1, h⟩ := bnd_inv h
  refine os_call rfl rfl rfl (callVia_eq rfl rfl (ref02_reader_take_ok g1) rfl rfl rfl) ?_
  refine os_pure rfl rfl rfl ?_
  refine os_nil ?_
  cases h
  exact ev_ret ⟨_, _, _, rfl, rfl, rfl⟩
theorem ref02_reader_key_ok {s1 : Str} {l2 : List Tok} {end3 : Int} {at4 : Int} {place5 : Int} {r : Bool × Int} (h : ref02_reader_key s1 l2 end3 at4 place5 = some r) :
    E env (.call 99 [.ptr 0 0, .str s1]) [(0, .row [.slice .sealed (List.length l2) (clTok l2), .int .i64 end3, .int .i64 at4, .int .i64 place5])] = some (ref02_reader_key_enc s1 l2 end3 at4 place5 r) := by
  unfold ref02_reader_key at h
  refine call_out rfl Tryz.func99 rfl rfl ?_
  refine ev_seq ?_
  refine ev_region ?_
  refine os_pure rfl rfl rfl ?_
  refine os_nil ?_
  refine ev_seq ?_
  refine ev_region ?_
  refine os_pure rfl rfl rfl ?_
  refine os_pure rfl rfl rfl ?_
  obtain ⟨⟨r6, at7⟩, g1, h⟩ := bnd_inv h
  refine os_call rfl rfl rfl (callVia_eq rfl rfl (ref02_reader_take_ok g1) rfl rfl rfl) ?_
  refine os_pure rfl rfl rfl ?_
  refine os_nil ?_
  cases h
  exact ev_ret ⟨_, _, _, rfl, rfl, rfl⟩
end Go.Proofs.YtmonfppdiehlpaaGreatDoor
