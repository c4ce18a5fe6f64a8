/- Texts that were built one by one, joined: G1 G2. -/
import Derived.Test.YtmaaaamfjpjhcaaK7
/- Where the tokens lie. -/
namespace Go.Proofs.Ytmaaaamfjpjhcaa
set_option linter.unusedSimpArgs false
set_option linter.unusedVariables false
set_option linter.unusedSectionVars false
open Go Go.Vm
set_option linter.unusedVariables false
/-- tokens that lie from a place to a place -/
def Lay (s : List UInt8) : Nat → List Tok → Nat → Prop
  | k, [], e => k = e
  | k, t :: r, e => t.a = skipE s k ∧ t.a < s.length ∧ 0 < t.l ∧ t.a + t.l ≤ s.length ∧ Lay s (t.a + t.l) r e
theorem Lay.add {s : List UInt8} {t : Tok} : ∀ {l : List Tok} {k e : Nat}, Lay s k l e → t.a = skipE s e → t.a < s.length → 0 < t.l → t.a + t.l ≤ s.length → Lay s k (l ++ [t]) (t.a + t.l)
  | [], k, e, h, h1, h2, h3, h4 => by
    simp only [Lay] at h; subst h
    exact ⟨h1, h2, h3, h4, rfl⟩
  | u :: l, k, e, h, h1, h2, h3, h4 => ⟨h.1, h.2.1, h.2.2.1, h.2.2.2.1, Lay.add h.2.2.2.2 h1 h2 h3 h4⟩
theorem roomy_go {toks : List Tok} {j : Nat} {r : MR} {y : MS} (h : roomy toks j r = .go y) : toks.length < 3000 ∧ r = .go y := by
  unfold roomy at h
  split at h
  · cases h
  · rename_i h1
    simp only [decide_eq_false_iff_not] at h1
    exact ⟨by omega, h⟩
theorem lit_go {s : List UInt8} {toks : List Tok} {st : List (Nat × Int)} {q j ins : Nat} {a b : Int} {y : MS} (h : litStep toks st q j a b (part s q ins (j + 1) []) = .go y) :
    ∃ t : Tok, y.toks = toks ++ [t] ∧ t.a = j ∧ 0 < t.l ∧ y.i = t.a + t.l ∧ t.a + t.l ≤ s.length := by
  have hok := part_ok s q ins (j + 1) []
  cases hp : part s q ins (j + 1) [] with
  | err c a => rw [hp] at h; cases h
  | fin t e =>
    rw [hp] at h hok
    have h1 : j + 1 < e := hok.1
    have h2 : e ≤ s.length := hok.2
    simp only [litStep] at h
    cases h
    exact ⟨_, rfl, rfl, by show 0 < e - j; omega, by show e = j + (e - j); omega, by show j + (e - j) ≤ _; omega⟩
  | more t e =>
    rw [hp] at h hok
    have h1 : j + 1 < e := hok.1
    have h2 : e ≤ s.length := hok.2
    simp only [litStep] at h
    cases h
    exact ⟨_, rfl, rfl, by show 0 < e - j; omega, by show e = j + (e - j); omega, by show j + (e - j) ≤ _; omega⟩
theorem stepM_go {s : List UInt8} {x y : MS} (h : stepM s x = .go y) : ∃ t : Tok, y.toks = x.toks ++ [t] ∧ t.a = skipE s x.i ∧ t.a < s.length ∧ 0 < t.l ∧ y.i = t.a + t.l ∧ t.a + t.l ≤ s.length := by
  obtain ⟨i0, toks, st⟩ := x
  obtain ⟨i, h0⟩ : ∃ i, skipE s i0 = i := ⟨_, rfl⟩
  show ∃ t : Tok, y.toks = toks ++ [t] ∧ t.a = skipE s i0 ∧ _
  rw [h0]
  rcases Nat.lt_or_ge i s.length with hi | hi
  · have fin : (∃ t : Tok, y.toks = toks ++ [t] ∧ t.a = i ∧ 0 < t.l ∧ y.i = t.a + t.l ∧ t.a + t.l ≤ s.length) → ∃ t : Tok, y.toks = toks ++ [t] ∧ t.a = i ∧ t.a < s.length ∧ 0 < t.l ∧ y.i = t.a + t.l ∧ t.a + t.l ≤ s.length := by
      rintro ⟨t, h1, h2, h3, h4, h5⟩
      exact ⟨t, h1, h2, by omega, h3, h4, h5⟩
    apply fin
    cases hc : closes (s.getD i 0).toNat st with
    | true =>
      cases st with
      | nil => cases hc
      | cons z st =>
        obtain ⟨q, p⟩ := z
        rw [(stepM_closes h0 hi hc).2] at h
        exact lit_go (roomy_go h).2
    | false =>
      by_cases h1 : (s.getD i 0).toNat = 34
      · rw [stepM_lit h0 hi hc h1] at h
        exact lit_go (roomy_go h).2
      · have hi1 : i ≤ s.length := by omega
        cases h2 : digitB (s.getD i 0) with
        | true =>
          rw [stepM_digit h0 hi hc h1 h2] at h
          have hg := runE_gt hi h2
          have hl := runE_le (p := digitB) hi1
          have h := (roomy_go h).2
          split at h
          · cases h
          · cases h; exact ⟨_, rfl, rfl, by show 0 < runE digitB s i - i; omega, by show runE digitB s i = i + (runE digitB s i - i); omega, by show i + (runE digitB s i - i) ≤ _; omega⟩
        | false =>
          cases h3 : letterB (s.getD i 0) with
          | true =>
            rw [stepM_letter h0 hi hc h1 h2 h3] at h
            have hg := runE_gt (p := nameB) hi (by simp only [nameB, h3, Bool.true_or])
            have hl := runE_le (p := nameB) hi1
            have h := (roomy_go h).2
            split at h
            · cases h
            · cases h; exact ⟨_, rfl, rfl, by show 0 < runE nameB s i - i; omega, by show runE nameB s i = i + (runE nameB s i - i); omega, by show i + (runE nameB s i - i) ≤ _; omega⟩
          | false =>
            cases hw : signK s i 2 with
            | nil => rw [stepM_byte h0 hi hc h1 h2 h3 hw] at h; cases h
            | cons b w =>
              rw [stepM_sign h0 hi hc h1 h2 h3 hw (by simp)] at h
              have hl := signK_len 2 hi1
              rw [hw] at hl
              have h := (roomy_go h).2
              cases h
              exact ⟨_, rfl, rfl, by show 0 < (b :: w).length; simp, rfl, by show i + (b :: w).length ≤ _; omega⟩
  · cases st with
    | nil => rw [stepM_end0 h0 hi] at h; cases h
    | cons z st => obtain ⟨q, p⟩ := z; rw [stepM_end1 h0 hi] at h; cases h
theorem reach_lay {s : List UInt8} {x y : MS} (h : Reach s x y) : x.i ≤ s.length → Lay s 0 x.toks x.i → y.i ≤ s.length ∧ Lay s 0 y.toks y.i := by
  induction h with
  | refl x => exact fun h1 h2 => ⟨h1, h2⟩
  | step x y z h1 _ ih =>
    intro h2 h3
    obtain ⟨t, g1, g2, g3, g4, g5, g6⟩ := stepM_go h1
    exact ih (by omega) (by rw [g1, g5]; exact h3.add g2 g3 g4 g6)
theorem roomy_done {toks l : List Tok} {j : Nat} {r : MR} (h : roomy toks j r = .done l) : r = .done l := by
  unfold roomy at h
  split at h
  · cases h
  · exact h
theorem litStep_done {toks l : List Tok} {st : List (Nat × Int)} {q j : Nat} {a b : Int} {r : PR} (h : litStep toks st q j a b r = .done l) : False := by
  cases r <;> cases h
theorem stepM_done {s : List UInt8} {x : MS} {l : List Tok} (h : stepM s x = .done l) : x.toks = l ∧ s.length ≤ skipE s x.i := by
  obtain ⟨i0, toks, st⟩ := x
  obtain ⟨i, h0⟩ : ∃ i, skipE s i0 = i := ⟨_, rfl⟩
  show toks = l ∧ s.length ≤ skipE s i0
  rw [h0]
  rcases Nat.lt_or_ge i s.length with hi | hi
  · exfalso
    cases hc : closes (s.getD i 0).toNat st with
    | true =>
      cases st with
      | nil => cases hc
      | cons z st =>
        obtain ⟨q, p⟩ := z
        rw [(stepM_closes h0 hi hc).2] at h
        exact litStep_done (roomy_done h)
    | false =>
      by_cases h1 : (s.getD i 0).toNat = 34
      · rw [stepM_lit h0 hi hc h1] at h
        exact litStep_done (roomy_done h)
      · cases h2 : digitB (s.getD i 0) with
        | true =>
          rw [stepM_digit h0 hi hc h1 h2] at h
          have h := roomy_done h
          split at h <;> cases h
        | false =>
          cases h3 : letterB (s.getD i 0) with
          | true =>
            rw [stepM_letter h0 hi hc h1 h2 h3] at h
            have h := roomy_done h
            split at h <;> cases h
          | false =>
            cases hw : signK s i 2 with
            | nil => rw [stepM_byte h0 hi hc h1 h2 h3 hw] at h; cases h
            | cons b w =>
              rw [stepM_sign h0 hi hc h1 h2 h3 hw (by simp)] at h
              have h := roomy_done h
              cases h
  · cases st with
    | nil => rw [stepM_end0 h0 hi] at h; cases h; exact ⟨rfl, hi⟩
    | cons z st => obtain ⟨q, p⟩ := z; rw [stepM_end1 h0 hi] at h; cases h
theorem roomy_err {toks : List Tok} {j : Nat} {r : MR} {c : Int} {a : Nat} (h : roomy toks j r = .err c a) : c = 2 ∨ r = .err c a := by
  unfold roomy at h
  split at h
  · cases h; exact .inl rfl
  · exact .inr h
theorem lit_err {s : List UInt8} {toks : List Tok} {st : List (Nat × Int)} {q j ins i : Nat} {a b : Int} {c : Int} {p : Nat} (h : litStep toks st q j a b (part s q ins i []) = .err c p) : c ≠ 0 := by
  have hok := part_ok s q ins i []
  cases hp : part s q ins i [] with
  | err c' a' => rw [hp] at h hok; cases h; rcases hok with rfl | rfl | rfl <;> decide
  | fin t e => rw [hp] at h; cases h
  | more t e => rw [hp] at h; cases h
theorem stepM_err {s : List UInt8} {x : MS} {c : Int} {p : Nat} (h : stepM s x = .err c p) : c ≠ 0 := by
  obtain ⟨i0, toks, st⟩ := x
  obtain ⟨i, h0⟩ : ∃ i, skipE s i0 = i := ⟨_, rfl⟩
  rcases Nat.lt_or_ge i s.length with hi | hi
  · cases hc : closes (s.getD i 0).toNat st with
    | true =>
      cases st with
      | nil => cases hc
      | cons z st =>
        obtain ⟨q, p⟩ := z
        rw [(stepM_closes h0 hi hc).2] at h
        rcases roomy_err h with rfl | h
        · decide
        · exact lit_err h
    | false =>
      by_cases h1 : (s.getD i 0).toNat = 34
      · rw [stepM_lit h0 hi hc h1] at h
        rcases roomy_err h with rfl | h
        · decide
        · exact lit_err h
      · cases h2 : digitB (s.getD i 0) with
        | true =>
          rw [stepM_digit h0 hi hc h1 h2] at h
          rcases roomy_err h with rfl | h
          · decide
          · split at h <;> cases h; decide
        | false =>
          cases h3 : letterB (s.getD i 0) with
          | true =>
            rw [stepM_letter h0 hi hc h1 h2 h3] at h
            rcases roomy_err h with rfl | h
            · decide
            · split at h <;> cases h; decide
          | false =>
            cases hw : signK s i 2 with
            | nil => rw [stepM_byte h0 hi hc h1 h2 h3 hw] at h; cases h; decide
            | cons b w =>
              rw [stepM_sign h0 hi hc h1 h2 h3 hw (by simp)] at h
              rcases roomy_err h with rfl | h
              · decide
              · cases h
  · cases st with
    | nil => rw [stepM_end0 h0 hi] at h; cases h
    | cons z st => obtain ⟨q, p⟩ := z; rw [stepM_end1 h0 hi] at h; cases h; decide
/-- what is known of the tokens of a source -/
structure TokOk (s : List UInt8) (r : MR) : Prop where
  bd : RBd r
  nz : ∀ c a, r = .err c a → c ≠ 0
  lay : ∀ l, r = .done l → s.length ≤ 8000 ∧ ∃ e, Lay s 0 l e ∧ s.length ≤ skipE s e ∧ e ≤ s.length
theorem ends_ok {s : List UInt8} (hs : s.length ≤ 8000) {r : MR} (h : Ends s ⟨0, [], []⟩ r) (hr : RBd r) : TokOk s r := by
  obtain ⟨y, h1, h2, h3⟩ := h
  refine ⟨hr, fun c a e => ?_, fun l e => ?_⟩
  · subst e; exact stepM_err h2
  · subst e
    obtain ⟨h4, h5⟩ := stepM_done h2
    obtain ⟨h6, h7⟩ := reach_lay h1 (Nat.zero_le _) rfl
    rw [h4] at h7
    exact ⟨hs, y.i, h7, h5, h6⟩
/-- both give the same -/
theorem tokBoth2 (s : List UInt8) : ∃ r, TokOk s r ∧ E env (.call 11 [.str s]) [] = some (.ret (tokV r) []) ∧ E env (.call 12 [.str s]) [] = some (.ret (tokV r) []) ∧ (s.length ≤ 8000 → Ends s ⟨0, [], []⟩ r) := by
  rcases Nat.lt_or_ge 8000 s.length with h | h
  · exact ⟨.err 2 0, ⟨trivial, fun c a e => (by cases e; decide), fun l e => (by cases e)⟩, c11big h, c12big h, fun h1 => absurd h1 (by omega)⟩
  · obtain ⟨r, h1, h2, h3⟩ := c11 h
    obtain ⟨r', h4, h5⟩ := c12 h
    obtain rfl := Ends.det s h1 h4
    exact ⟨r, ends_ok h h1 h2, h3, h5, fun _ => h1⟩
/-- the gaps -/
def gapsL (s : List UInt8) : Nat → List Tok → List (List UInt8)
  | k, [] => [s.drop k]
  | k, t :: r => (s.take t.a).drop k :: gapsL s (t.a + t.l) r
theorem gapsL_len (s : List UInt8) : ∀ (l : List Tok) (k : Nat), (gapsL s k l).length = l.length + 1
  | [], _ => rfl
  | t :: r, k => by simp [gapsL, gapsL_len s r]
theorem skipL_idem : ∀ (b : Bool) (l : List UInt8), skipL b (l.take (skipL b l)) = skipL b l
  | _, [] => by simp [skipL]
  | true, b :: r => by
    have ih := skipL_idem (nlB b) r
    simp only [skipL, List.take_succ_cons]
    rw [ih]
  | false, b :: r => by
    have h1 := skipL_idem false r
    have h2 := skipL_idem true r
    simp only [skipL]
    cases hb : blankB b with
    | true =>
      simp only [List.take_succ_cons, skipL, hb]
      rw [h1]
    | false =>
      cases hc : decide (b.toNat = 47) && decide ((r.headD 0).toNat = 47) with
      | false => simp [skipL]
      | true =>
        simp only [List.take_succ_cons, skipL, hb]
        cases r with
        | nil => simp at hc
        | cons c r' =>
          have hc' : (decide (b.toNat = 47) && decide ((((c :: r').take (skipL true (c :: r'))).headD 0).toNat = 47)) = true := by
            simp only [skipL, List.take_succ_cons, List.headD_cons] at hc ⊢
            exact hc
          rw [hc']
          simp only
          rw [h2]
/-- a gap has no token -/
theorem gap_blank {s : List UInt8} {k : Nat} : skipE ((s.take (skipE s k)).drop k) 0 = skipE s k - k := by
  have h : (s.take (skipE s k)).drop k = (s.drop k).take (skipL false (s.drop k)) := by
    rw [List.drop_take]
    congr 1
    simp only [skipE]; omega
  rw [h]
  unfold skipE
  rw [List.drop_zero, skipL_idem]
  omega
theorem gap_tokens {g : List UInt8} (h : g.length ≤ skipE g 0) (hg : g.length ≤ 8000) : E env (.call 11 [.str g]) [] = some (.ret (tokV (.done [])) []) := by
  obtain ⟨r, h1, h2, h3⟩ := c11 hg
  have : Ends g ⟨0, [], []⟩ (.done []) := ⟨_, .refl _, stepM_end0 rfl h, fun z hz => (by cases hz)⟩
  rw [h3, Ends.det g h1 this]
end Go.Proofs.Ytmaaaamfjpjhcaa
/- The gaps. (Printed by a program.) -/
namespace Go.Proofs.Ytmaaaamfjpjhcaa
set_option linter.unusedSimpArgs false
set_option linter.unusedVariables false
set_option linter.unusedSectionVars false
open Go Go.Vm
set_option maxRecDepth 100000
set_option linter.unusedVariables false

theorem mapS_len (gs : List (List UInt8)) : (gs.map V.str).length = gs.length * 1 := by simp
theorem mapS_snoc (gs : List (List UInt8)) (g : List UInt8) : gs.map V.str ++ [V.str g] = (gs ++ [g]).map V.str := by simp
theorem len_snocS (gs : List (List UInt8)) (g : List UInt8) : gs.length + 1 = (gs ++ [g]).length := by simp
structure GS where
  k : Nat
  at_ : Nat
  gs : List (List UInt8)
  e : Nat
theorem lay_at {s : List UInt8} {l : List Tok} {k at_ en : Nat} {t : Tok} (hk : k < l.length) (ht : l[k]? = some t) (hL : Lay s at_ (l.drop k) en) :
    gapsL s at_ (l.drop k) = (s.take t.a).drop at_ :: gapsL s (t.a + t.l) (l.drop (k + 1)) ∧ at_ ≤ t.a ∧ 0 < t.l ∧ t.a + t.l ≤ s.length ∧ t.a = skipE s at_ ∧ Lay s (t.a + t.l) (l.drop (k + 1)) en := by
  have h1 : l.drop k = t :: l.drop (k + 1) := by
    rw [List.drop_eq_getElem_cons hk]
    rw [List.getElem?_eq_getElem hk, Option.some.injEq] at ht
    rw [ht]
  rw [h1] at hL ⊢
  exact ⟨rfl, by rw [hL.1]; exact skipE_ge, hL.2.2.1, hL.2.2.2.1, hL.1, hL.2.2.2.2⟩
theorem neq2 {c a : Int} (h : c ≠ 0) : (!(eqB c 0 && (eqB a 0 && true))) = true := by simp [eqB, h]
def gapV (s : List UInt8) : MR → V
  | .done l => .tuple [.slice .sealed (gapsL s 0 l).length ((gapsL s 0 l).map V.str), .agg [.int .i64 0, .int .i64 0]]
  | .err c a => .tuple [.slice .sealed 0 [], .agg [.int .i64 c, .int .i64 (a : Int)]]
  | .go _ => .undef
set_option maxHeartbeats 1000000 in
theorem c21e {s : List UInt8} {c : Int} {a : Nat} (hc : c ≠ 0) (h11 : E env (.call 11 [.str s]) [] = some (.ret (tokV (.err c a)) [])) : E env (.call 21 [.str s]) [] = some (.ret (gapV s (.err c a)) []) := by
  refine call_ret rfl Try.func21 rfl rfl ?_
  refine ev_seq ?_
  refine ev_region ?_
  refine os_pure rfl rfl rfl ?_
  refine os_eff rfl rfl rfl ?_
  refine os_nil ?_
  refine ev_seq ?_
  refine ev_region ?_
  refine os_pure rfl rfl rfl ?_
  refine os_quiet rfl rfl rfl rfl rfl (h11) rfl ?_
  refine os_pure rfl rfl rfl ?_
  refine os_pure rfl rfl rfl ?_
  refine os_pure rfl rfl rfl ?_
  refine os_eff rfl rfl rfl ?_
  refine os_pure rfl rfl rfl ?_
  refine os_eff rfl rfl rfl ?_
  refine os_nil ?_
  refine ev_seq ?_
  refine ev_seq ?_
  refine ev_region ?_
  refine os_eff rfl rfl rfl ?_
  refine os_pureD rfl rfl rfl ?_
  refine os_pure rfl rfl rfl ?_
  refine os_nil ?_
  refine ev_true rfl (neq2 hc) ?_
  refine ev_seq ?_
  refine ev_region ?_
  refine os_eff rfl rfl rfl ?_
  refine os_pure rfl rfl rfl ?_
  refine os_eff rfl rfl rfl ?_
  refine os_nil ?_
  exact ev_ret ⟨_, rfl, rfl⟩

set_option maxHeartbeats 1000000 in
theorem c22e {s : List UInt8} {c : Int} {a : Nat} (hc : c ≠ 0) (h12 : E env (.call 12 [.str s]) [] = some (.ret (tokV (.err c a)) [])) : E env (.call 22 [.str s]) [] = some (.ret (gapV s (.err c a)) []) := by
  refine call_ret rfl Try.func22 rfl rfl ?_
  refine ev_seq ?_
  refine ev_region ?_
  refine os_pure rfl rfl rfl ?_
  refine os_eff rfl rfl rfl ?_
  refine os_nil ?_
  refine ev_seq ?_
  refine ev_region ?_
  refine os_pure rfl rfl rfl ?_
  refine os_call rfl rfl rfl (callVia_eq rfl rfl rfl rfl rfl rfl rfl (h12) rfl rfl rfl) ?_
  refine os_pure rfl rfl rfl ?_
  refine os_pure rfl rfl rfl ?_
  refine os_pure rfl rfl rfl ?_
  refine os_eff rfl rfl rfl ?_
  refine os_pure rfl rfl rfl ?_
  refine os_eff rfl rfl rfl ?_
  refine os_nil ?_
  refine ev_seq ?_
  refine ev_seq ?_
  refine ev_region ?_
  refine os_pure rfl rfl rfl ?_
  refine os_eff rfl rfl rfl ?_
  refine os_pure rfl rfl rfl ?_
  refine os_nil ?_
  refine ev_true rfl (neq_no hc) ?_
  refine ev_seq ?_
  refine ev_region ?_
  refine os_eff rfl rfl rfl ?_
  refine os_pure rfl rfl rfl ?_
  refine os_eff rfl rfl rfl ?_
  refine os_nil ?_
  exact ev_ret ⟨_, rfl, rfl⟩

section
variable {s : List UInt8} {l : List Tok} {en : Nat} (hs : s.length ≤ 8000) (hl : l.length ≤ 3000) (hL : Lay s 0 l en)
include hs hl hL
set_option maxHeartbeats 1000000 in
theorem c21d (h11 : E env (.call 11 [.str s]) [] = some (.ret (tokV (.done l)) [])) : E env (.call 21 [.str s]) [] = some (.ret (gapV s (.done l)) []) := by
  show _ = some (Out.ret (.tuple [.slice .sealed (gapsL s 0 l).length ((gapsL s 0 l).map V.str), .agg [.int .i64 0, .int .i64 0]]) [])
  obtain ⟨G, hG⟩ : ∃ G, gapsL s 0 l = G := ⟨_, rfl⟩
  rw [hG]
  refine call_ret rfl Try.func21 rfl rfl ?_
  refine ev_seq ?_
  refine ev_region ?_
  refine os_pure rfl rfl rfl ?_
  refine os_eff rfl rfl rfl ?_
  refine os_nil ?_
  refine ev_seq ?_
  refine ev_region ?_
  refine os_pure rfl rfl rfl ?_
  refine os_quiet rfl rfl rfl rfl rfl (h11) rfl ?_
  refine os_pure rfl rfl rfl ?_
  refine os_pure rfl rfl rfl ?_
  refine os_pure rfl rfl rfl ?_
  refine os_eff rfl rfl rfl ?_
  refine os_pure rfl rfl rfl ?_
  refine os_eff rfl rfl rfl ?_
  refine os_nil ?_
  refine ev_seq ?_
  refine ev_seq ?_
  refine ev_region ?_
  refine os_eff rfl rfl rfl ?_
  refine os_pureD rfl rfl rfl ?_
  refine os_pure rfl rfl rfl ?_
  refine os_nil ?_
  refine ev_false rfl (by simp [eqB]) ?_
  refine ev_skip ?_
  refine ev_seq ?_
  refine ev_region ?_
  refine os_pure rfl rfl rfl ?_
  refine os_nil ?_
  refine ev_seq ?_
  refine ev_region ?_
  refine os_pure rfl rfl rfl ?_
  refine os_nil ?_
  refine ev_seq ?_
  refine ev_seq ?_
  refine ev_region ?_
  refine os_pure rfl rfl rfl ?_
  refine os_pure rfl rfl rfl ?_
  refine os_pure rfl rfl rfl ?_
  refine os_nil ?_
  refine ev_block ?_
  refine ev_loop rfl ?_
  refine lp_ind (fun x : GS => [(0, .str s), (3, .ptr 0 0), (6, .slice (.tag 1) x.gs.length (x.gs.map V.str)), (7, .int .i64 (x.at_ : Nat)), (19, .slice .sealed l.length (cellsT l)), (20, .int .i64 l.length), (21, .int .i64 (x.k : Nat))]) (fun x => [(0, .row [.int .i64 0, .int .i64 0]), (1, .tip x.e x.gs.length)])
      (fun x => x.k ≤ l.length ∧ x.gs.length = x.k ∧ (x.e = 0 ∨ x.e = 1) ∧ x.at_ ≤ s.length ∧ x.gs ++ gapsL s x.at_ (l.drop x.k) = G ∧ Lay s x.at_ (l.drop x.k) en)
      (fun x => l.length - x.k) ⟨0, 0, [], 0⟩ ⟨Nat.zero_le _, rfl, .inl rfl, Nat.zero_le _, hG, hL⟩ ?_
  intro ⟨k, at_, gs, e⟩ ⟨hk, hgk, he, hat, hG, hL⟩ ih
  simp only at hk hgk he hat hG hL ih
  show Ev _ _ _ _ _ [(0, .str s), (3, .ptr 0 0), (6, .slice (.tag 1) gs.length (gs.map V.str)), (7, .int .i64 (at_ : Nat)), (19, .slice .sealed l.length (cellsT l)), (20, .int .i64 l.length), (21, .int .i64 (k : Nat))] [(0, .row [.int .i64 0, .int .i64 0]), (1, .tip e gs.length)] _
  refine ev_seq ?_
  refine ev_region ?_
  refine os_pure rfl rfl rfl ?_
  refine os_nil ?_
  refine ev_seq ?_
  refine ev_if rfl (fun g22 => ?_) (fun g22 => ?_)
  · replace g22 : k < l.length := by simpa [ltN] using g22
    obtain ⟨t, rs, htk, hdr⟩ := idxT g22
    obtain ⟨hdk, hta, htl, htt, htz, hL2⟩ := lay_at g22 htk hL
    rw [hdk] at hG
    refine ev_skip ?_
    refine ev_seq ?_
    refine ev_block ?_
    refine ev_seq ?_
    refine ev_region ?_
    refine os_pure rfl rfl (gd_f (inR_ok (by omega)) (show forceO (some (V.cptr ((cellsT l).drop ((k : Int).toNat * 4)))) = some (.cptr (tokC t.k t.t t.a t.l ++ rs)) by rw [Int.toNat_natCast, hdr]; rfl)) ?_
    refine os_load rfl rfl rfl (gd_t (leN_ok (by simp [tokC])) rfl) ?_
    refine os_eff rfl rfl rfl ?_
    refine os_eff rfl rfl rfl ?_
    refine os_nil ?_
    refine ev_seq ?_
    refine ev_region ?_
    refine os_pure rfl rfl rfl ?_
    refine os_pure rfl rfl rfl ?_
    refine os_pure rfl rfl rfl ?_
    refine os_pure rfl rfl rfl ?_
    refine os_eff rfl rfl rfl ?_
    refine os_pure rfl rfl (gd_f (inI_ok (by omega) (by omega)) rfl) ?_
    refine os_pure rfl rfl rfl ?_
    refine os_append rfl rfl rfl rfl rfl rfl rfl rfl rfl rfl rfl (gd_t (eqN_ok rfl) rfl) rfl rfl he rfl (mapS_len gs).symm (by show (gs.length + 1) * 17 ≤ _; omega) (len_snocS gs ((s.take t.a).drop at_)) (mapS_snoc gs ((s.take t.a).drop at_)) rfl ?_
    refine os_pure rfl rfl rfl ?_
    refine os_nil ?_
    refine ev_region ?_
    refine os_pure rfl rfl rfl ?_
    refine os_eff rfl rfl rfl ?_
    refine os_pure rfl rfl rfl ?_
    refine os_eff rfl rfl rfl ?_
    refine os_pure rfl rfl (addN (by omega)) ?_
    refine os_pure rfl rfl rfl ?_
    refine os_nil ?_
    refine ev_region ?_
    refine os_pure rfl rfl (add1 (by omega)) ?_
    refine os_pure rfl rfl rfl ?_
    refine os_nil ?_
    exact ⟨_, _, rfl, ih ⟨k + 1, t.a + t.l, gs ++ [(s.take t.a).drop at_], 1⟩ (by show l.length - (k + 1) < l.length - k; omega) ⟨by show k + 1 ≤ l.length; omega, by show List.length (gs ++ [_]) = k + 1; rw [List.length_append, hgk]; rfl, .inr rfl, by show t.a + t.l ≤ s.length; omega, by show (gs ++ [(s.take t.a).drop at_]) ++ gapsL s (t.a + t.l) (l.drop (k + 1)) = G; rw [List.append_assoc]; exact hG, hL2⟩⟩
  · replace g22 : l.length ≤ k := by simpa [ltN] using g22
    have hkl : k = l.length := by omega
    have hG2 : gs ++ [s.drop at_] = G := by rw [← hG, List.drop_of_length_le (show l.length ≤ k by omega)]; rfl
    rw [← hG2]
    refine ev_exit ?_
    refine ev_seq ?_
    refine ev_region ?_
    refine os_pure rfl rfl rfl ?_
    refine os_pure rfl rfl rfl ?_
    refine os_pure rfl rfl rfl ?_
    refine os_pure rfl rfl (gd_f (inI_ok (by omega) (by omega)) rfl) ?_
    refine os_pure rfl rfl rfl ?_
    refine os_append rfl rfl rfl rfl rfl rfl rfl rfl rfl rfl rfl (gd_t (eqN_ok rfl) rfl) rfl rfl he rfl (mapS_len gs).symm (by show (gs.length + 1) * 17 ≤ _; omega) (len_snocS gs (s.drop at_)) (show gs.map V.str ++ [V.str ((s.take (s.length : Int).toNat).drop (at_ : Int).toNat)] = (gs ++ [s.drop at_]).map V.str by rw [Int.toNat_natCast, Int.toNat_natCast, List.take_length]; exact mapS_snoc gs _) rfl ?_
    refine os_pureD rfl rfl rfl ?_
    refine os_pure rfl rfl rfl ?_
    refine os_eff rfl rfl rfl ?_
    refine os_nil ?_
    exact ev_ret ⟨_, rfl, rfl⟩

set_option maxHeartbeats 1000000 in
theorem c22d (h12 : E env (.call 12 [.str s]) [] = some (.ret (tokV (.done l)) [])) : E env (.call 22 [.str s]) [] = some (.ret (gapV s (.done l)) []) := by
  show _ = some (Out.ret (.tuple [.slice .sealed (gapsL s 0 l).length ((gapsL s 0 l).map V.str), .agg [.int .i64 0, .int .i64 0]]) [])
  obtain ⟨G, hG⟩ : ∃ G, gapsL s 0 l = G := ⟨_, rfl⟩
  rw [hG]
  refine call_ret rfl Try.func22 rfl rfl ?_
  refine ev_seq ?_
  refine ev_region ?_
  refine os_pure rfl rfl rfl ?_
  refine os_eff rfl rfl rfl ?_
  refine os_nil ?_
  refine ev_seq ?_
  refine ev_region ?_
  refine os_pure rfl rfl rfl ?_
  refine os_call rfl rfl rfl (callVia_eq rfl rfl rfl rfl rfl rfl rfl (h12) rfl rfl rfl) ?_
  refine os_pure rfl rfl rfl ?_
  refine os_pure rfl rfl rfl ?_
  refine os_pure rfl rfl rfl ?_
  refine os_eff rfl rfl rfl ?_
  refine os_pure rfl rfl rfl ?_
  refine os_eff rfl rfl rfl ?_
  refine os_nil ?_
  refine ev_seq ?_
  refine ev_seq ?_
  refine ev_region ?_
  refine os_pure rfl rfl rfl ?_
  refine os_eff rfl rfl rfl ?_
  refine os_pure rfl rfl rfl ?_
  refine os_nil ?_
  refine ev_false rfl (by simp [eqB]) ?_
  refine ev_skip ?_
  refine ev_seq ?_
  refine ev_region ?_
  refine os_pure rfl rfl rfl ?_
  refine os_nil ?_
  refine ev_seq ?_
  refine ev_region ?_
  refine os_pure rfl rfl rfl ?_
  refine os_nil ?_
  refine ev_seq ?_
  refine ev_seq ?_
  refine ev_region ?_
  refine os_pure rfl rfl rfl ?_
  refine os_nil ?_
  refine ev_block ?_
  refine ev_loop rfl ?_
  refine lp_ind (fun x : GS => [(0, .str s), (3, .ptr 0 0), (4, .slice .sealed l.length (cellsT l)), (6, .slice (.tag 1) x.gs.length (x.gs.map V.str)), (7, .int .i64 (x.at_ : Nat)), (8, .int .i64 (x.k : Nat))]) (fun x => [(0, .row [.int .i64 0, .int .i64 0]), (1, .tip x.e x.gs.length)])
      (fun x => x.k ≤ l.length ∧ x.gs.length = x.k ∧ (x.e = 0 ∨ x.e = 1) ∧ x.at_ ≤ s.length ∧ x.gs ++ gapsL s x.at_ (l.drop x.k) = G ∧ Lay s x.at_ (l.drop x.k) en)
      (fun x => l.length - x.k) ⟨0, 0, [], 0⟩ ⟨Nat.zero_le _, rfl, .inl rfl, Nat.zero_le _, hG, hL⟩ ?_
  intro ⟨k, at_, gs, e⟩ ⟨hk, hgk, he, hat, hG, hL⟩ ih
  simp only at hk hgk he hat hG hL ih
  show Ev _ _ _ _ _ [(0, .str s), (3, .ptr 0 0), (4, .slice .sealed l.length (cellsT l)), (6, .slice (.tag 1) gs.length (gs.map V.str)), (7, .int .i64 (at_ : Nat)), (8, .int .i64 (k : Nat))] [(0, .row [.int .i64 0, .int .i64 0]), (1, .tip e gs.length)] _
  refine ev_seq ?_
  refine ev_seq ?_
  refine ev_region ?_
  refine os_pure rfl rfl rfl ?_
  refine os_pure rfl rfl rfl ?_
  refine os_pure rfl rfl rfl ?_
  refine os_pure rfl rfl rfl ?_
  refine os_nil ?_
  refine ev_if rfl (fun g21 => ?_) (fun g21 => ?_)
  · replace g21 : k < l.length := by simpa [ltN] using g21
    obtain ⟨t, rs, htk, hdr⟩ := idxT g21
    obtain ⟨hdk, hta, htl, htt, htz, hL2⟩ := lay_at g21 htk hL
    rw [hdk] at hG
    refine ev_skip ?_
    refine ev_seq ?_
    refine ev_block ?_
    refine ev_seq ?_
    refine ev_region ?_
    refine os_pure rfl rfl rfl ?_
    refine os_pure rfl rfl rfl ?_
    refine os_pure rfl rfl rfl ?_
    refine os_pure rfl rfl rfl ?_
    refine os_pure rfl rfl rfl ?_
    refine os_pure rfl rfl (gd_f (inR_ok (by omega)) (show forceO (some (V.cptr ((cellsT l).drop ((k : Int).toNat * 4)))) = some (.cptr (tokC t.k t.t t.a t.l ++ rs)) by rw [Int.toNat_natCast, hdr]; rfl)) ?_
    refine os_pure rfl rfl rfl ?_
    refine os_eff rfl rfl rfl ?_
    refine os_pure rfl rfl (gd_f (inI_ok (by omega) (by omega)) rfl) ?_
    refine os_pure rfl rfl rfl ?_
    refine os_append rfl rfl rfl rfl rfl rfl rfl rfl rfl rfl rfl (gd_t (eqN_ok rfl) rfl) rfl rfl he rfl (mapS_len gs).symm (by show (gs.length + 1) * 17 ≤ _; omega) (len_snocS gs ((s.take t.a).drop at_)) (mapS_snoc gs ((s.take t.a).drop at_)) rfl ?_
    refine os_pure rfl rfl rfl ?_
    refine os_nil ?_
    refine ev_region ?_
    refine os_pure rfl rfl rfl ?_
    refine os_pure rfl rfl rfl ?_
    refine os_pure rfl rfl (gd_f (inR_ok (by omega)) (show forceO (some (V.cptr ((cellsT l).drop ((k : Int).toNat * 4)))) = some (.cptr (tokC t.k t.t t.a t.l ++ rs)) by rw [Int.toNat_natCast, hdr]; rfl)) ?_
    refine os_pure rfl rfl rfl ?_
    refine os_eff rfl rfl rfl ?_
    refine os_pure rfl rfl rfl ?_
    refine os_pure rfl rfl rfl ?_
    refine os_pure rfl rfl (gd_f (inR_ok (by omega)) (show forceO (some (V.cptr ((cellsT l).drop ((k : Int).toNat * 4)))) = some (.cptr (tokC t.k t.t t.a t.l ++ rs)) by rw [Int.toNat_natCast, hdr]; rfl)) ?_
    refine os_pure rfl rfl rfl ?_
    refine os_eff rfl rfl rfl ?_
    refine os_pure rfl rfl (addN (by omega)) ?_
    refine os_pure rfl rfl rfl ?_
    refine os_nil ?_
    refine ev_region ?_
    refine os_pure rfl rfl rfl ?_
    refine os_pure rfl rfl (add1 (by omega)) ?_
    refine os_pure rfl rfl rfl ?_
    refine os_nil ?_
    exact ⟨_, _, rfl, ih ⟨k + 1, t.a + t.l, gs ++ [(s.take t.a).drop at_], 1⟩ (by show l.length - (k + 1) < l.length - k; omega) ⟨by show k + 1 ≤ l.length; omega, by show List.length (gs ++ [_]) = k + 1; rw [List.length_append, hgk]; rfl, .inr rfl, by show t.a + t.l ≤ s.length; omega, by show (gs ++ [(s.take t.a).drop at_]) ++ gapsL s (t.a + t.l) (l.drop (k + 1)) = G; rw [List.append_assoc]; exact hG, hL2⟩⟩
  · replace g21 : l.length ≤ k := by simpa [ltN] using g21
    have hkl : k = l.length := by omega
    have hG2 : gs ++ [s.drop at_] = G := by rw [← hG, List.drop_of_length_le (show l.length ≤ k by omega)]; rfl
    rw [← hG2]
    refine ev_exit ?_
    refine ev_seq ?_
    refine ev_region ?_
    refine os_pure rfl rfl rfl ?_
    refine os_pure rfl rfl rfl ?_
    refine os_pure rfl rfl rfl ?_
    refine os_pure rfl rfl (gd_f (inI_ok (by omega) (by omega)) rfl) ?_
    refine os_pure rfl rfl rfl ?_
    refine os_append rfl rfl rfl rfl rfl rfl rfl rfl rfl rfl rfl (gd_t (eqN_ok rfl) rfl) rfl rfl he rfl (mapS_len gs).symm (by show (gs.length + 1) * 17 ≤ _; omega) (len_snocS gs (s.drop at_)) (show gs.map V.str ++ [V.str ((s.take (s.length : Int).toNat).drop (at_ : Int).toNat)] = (gs ++ [s.drop at_]).map V.str by rw [Int.toNat_natCast, Int.toNat_natCast, List.take_length]; exact mapS_snoc gs _) rfl ?_
    refine os_pureD rfl rfl rfl ?_
    refine os_pure rfl rfl rfl ?_
    refine os_eff rfl rfl rfl ?_
    refine os_nil ?_
    exact ev_ret ⟨_, rfl, rfl⟩

end
theorem c21 {s : List UInt8} {r : MR} (hr : TokOk s r) (h11 : E env (.call 11 [.str s]) [] = some (.ret (tokV r) [])) : E env (.call 21 [.str s]) [] = some (.ret (gapV s r) []) := by
  cases r with
  | go x => exact hr.bd.elim
  | err c a => exact c21e (hr.nz c a rfl) h11
  | done l =>
    obtain ⟨hs, e, hL, _⟩ := hr.lay l rfl
    exact c21d hs hr.bd hL h11
theorem c22 {s : List UInt8} {r : MR} (hr : TokOk s r) (h12 : E env (.call 12 [.str s]) [] = some (.ret (tokV r) [])) : E env (.call 22 [.str s]) [] = some (.ret (gapV s r) []) := by
  cases r with
  | go x => exact hr.bd.elim
  | err c a => exact c22e (hr.nz c a rfl) h12
  | done l =>
    obtain ⟨hs, e, hL, _⟩ := hr.lay l rfl
    exact c22d hs hr.bd hL h12
theorem c17 (gs : List (List UInt8)) (hl : gs.length ≤ 100000) : E env (.call 17 [.slice .sealed gs.length (gs.map V.str), .slice .sealed gs.length (gs.map V.str)]) [] = some (.ret (.bool true) []) := by
  refine call_ret rfl Try.func17 rfl rfl ?_
  refine ev_seq ?_
  refine ev_region ?_
  refine os_pure rfl rfl rfl ?_
  refine os_nil ?_
  refine ev_seq ?_
  refine ev_seq ?_
  refine ev_region ?_
  refine os_pure rfl rfl rfl ?_
  refine os_pure rfl rfl rfl ?_
  refine os_pure rfl rfl rfl ?_
  refine os_pure rfl rfl rfl ?_
  refine os_pure rfl rfl rfl ?_
  refine os_nil ?_
  refine ev_if rfl (fun g10 => ?_) (fun g10 => ?_)
  · exfalso; simp [eqB] at g10
  · refine ev_skip ?_
    refine ev_seq ?_
    refine ev_seq ?_
    refine ev_region ?_
    refine os_pure rfl rfl rfl ?_
    refine os_nil ?_
    refine ev_block ?_
    refine ev_loop rfl ?_
    refine lp_ind (fun k : Nat => [(0, .slice .sealed gs.length (gs.map V.str)), (1, .slice .sealed gs.length (gs.map V.str)), (5, .int .i64 k)]) (fun _ => []) (fun k => k ≤ gs.length) (fun k => gs.length - k) 0 (Nat.zero_le _) ?_
    intro k hk ih
    refine ev_seq ?_
    refine ev_seq ?_
    refine ev_region ?_
    refine os_pure rfl rfl rfl ?_
    refine os_pure rfl rfl rfl ?_
    refine os_pure rfl rfl rfl ?_
    refine os_pure rfl rfl rfl ?_
    refine os_nil ?_
    refine ev_if rfl (fun g14 => ?_) (fun g14 => ?_)
    · replace g14 : k < gs.length := by simpa [ltN] using g14
      refine ev_skip ?_
      refine ev_seq ?_
      refine ev_block ?_
      refine ev_seq ?_
      refine ev_region ?_
      refine os_pure rfl rfl rfl ?_
      refine os_pure rfl rfl rfl ?_
      refine os_pure rfl rfl (gd_f (inR_ok (by omega)) rfl) ?_
      refine os_load rfl rfl rfl (ldc9 g14) ?_
      refine os_pure rfl rfl rfl ?_
      refine os_pure rfl rfl rfl ?_
      refine os_pure rfl rfl (gd_f (inR_ok (by omega)) rfl) ?_
      refine os_load rfl rfl rfl (ldc9 g14) ?_
      refine os_pure rfl rfl rfl ?_
      refine os_nil ?_
      refine ev_if rfl (fun g25 => ?_) (fun g25 => ?_)
      · exfalso; simp [eqS] at g25
      · refine ev_skip ?_
        refine ev_region ?_
        refine os_pure rfl rfl rfl ?_
        refine os_pure rfl rfl (add1 (by omega)) ?_
        refine os_pure rfl rfl rfl ?_
        refine os_nil ?_
        exact ⟨_, _, rfl, ih (k + 1) (by omega) (by omega)⟩
    · refine ev_exit ?_
      refine ev_seq ?_
      refine ev_region ?_
      refine os_pure rfl rfl rfl ?_
      refine os_nil ?_
      exact ev_ret ⟨_, rfl, rfl⟩

end Go.Proofs.Ytmaaaamfjpjhcaa
