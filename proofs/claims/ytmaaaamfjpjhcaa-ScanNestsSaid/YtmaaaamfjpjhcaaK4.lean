/- Texts that were built one by one, joined: M4 C9. -/
import Derived.Test.YtmaaaamfjpjhcaaK3
/- Facts for 'all'. -/
namespace Go.Proofs.Ytmaaaamfjpjhcaa
set_option linter.unusedSimpArgs false
set_option linter.unusedVariables false
set_option linter.unusedSectionVars false
open Go Go.Vm
/-- the interpolations around, as the innermost one's parentheses go -/
def BaseOk (nest opn : Nat) (base : Int → List (Nat × Int)) : Prop := (nest = 0 ∧ ∀ p, base p = []) ∨ ∃ st, nest = st.length + 1 ∧ ∀ p, base p = (opn, p) :: st
def delta (w : List UInt8) : Int := match decide (w = [40]) with | true => 1 | false => match decide (w = [41]) with | true => -1 | false => 0
section
variable {nest opn : Nat} {base : Int → List (Nat × Int)} (hb : BaseOk nest opn base)
include hb
theorem BaseOk.len (p : Int) : (base p).length = nest := by
  rcases hb with ⟨rfl, h⟩ | ⟨st, rfl, h⟩ <;> rw [h] <;> rfl
theorem BaseOk.closes (p : Int) (b : Nat) : closes b (base p) = (decide (0 < nest) && decide (p = 0) && decide (b = 41)) := by
  rcases hb with ⟨rfl, h⟩ | ⟨st, rfl, h⟩
  · rw [h]; rfl
  · rw [h]; simp [Ytmaaaamfjpjhcaa.closes]
theorem BaseOk.bump (p : Int) (w : List UInt8) : bump w (base p) = base (p + delta w) := by
  rcases hb with ⟨rfl, h⟩ | ⟨st, rfl, h⟩
  · rw [h, h]; rfl
  · rw [h, h]
    simp only [Ytmaaaamfjpjhcaa.bump, delta]
    cases decide (w = [40]) with
    | true => rfl
    | false =>
      cases decide (w = [41]) with
      | true => rfl
      | false => simp
end
section
variable {s : List UInt8} {i i0 : Nat} {toks : List Tok} {st : List (Nat × Int)}
theorem stepM_end0 (h0 : skipE s i0 = i) (hi : s.length ≤ i) : stepM s ⟨i0, toks, []⟩ = .done toks := by
  simp only [stepM, h0, decide_eq_true hi]
theorem stepM_end1 {q : Nat} {p : Int} (h0 : skipE s i0 = i) (hi : s.length ≤ i) : stepM s ⟨i0, toks, (q, p) :: st⟩ = .err 11 q := by
  simp only [stepM, h0, decide_eq_true hi]
variable (h0 : skipE s i0 = i) (hi : i < s.length) (hc : closes (s.getD i 0).toNat st = false)
include h0 hi hc
theorem stepM_main : stepM s ⟨i0, toks, st⟩ = (match decide ((s.getD i 0).toNat = 34) with
      | true => roomy toks i (litStep toks st i i 4 5 (part s i st.length (i + 1) []))
      | false => match digitB (s.getD i 0) with
        | true => roomy toks i (match intBadB ((s.take (runE digitB s i)).drop i) (s.getD (runE digitB s i) 0) with
            | true => .err 13 i
            | false => .go ⟨runE digitB s i, toks ++ [⟨3, (s.take (runE digitB s i)).drop i, i, runE digitB s i - i⟩], st⟩)
        | false => match letterB (s.getD i 0) with
          | true => roomy toks i (match ltB 24 ((s.take (runE nameB s i)).drop i).length with
              | true => .err 14 i
              | false => .go ⟨runE nameB s i, toks ++ [⟨kindB ((s.take (runE nameB s i)).drop i), (s.take (runE nameB s i)).drop i, i, runE nameB s i - i⟩], st⟩)
          | false => match signK s i 2 with
            | [] => .err 10 i
            | w => roomy toks i (.go ⟨i + w.length, toks ++ [⟨8, w, i, w.length⟩], bump w st⟩)) := by
  have h1 : decide (s.length ≤ i) = false := by simp; omega
  unfold stepM
  simp only [h0, h1, hc]
  cases decide ((s.getD i 0).toNat = 34) with
  | true => rfl
  | false => cases digitB (s.getD i 0) with
    | true => rfl
    | false => cases letterB (s.getD i 0) with
      | true => rfl
      | false => cases signK s i 2 <;> rfl
theorem stepM_digit (hq : (s.getD i 0).toNat ≠ 34) (hd : digitB (s.getD i 0) = true) : stepM s ⟨i0, toks, st⟩ = roomy toks i (match intBadB ((s.take (runE digitB s i)).drop i) (s.getD (runE digitB s i) 0) with
            | true => .err 13 i
            | false => .go ⟨runE digitB s i, toks ++ [⟨3, (s.take (runE digitB s i)).drop i, i, runE digitB s i - i⟩], st⟩) := by
  rw [stepM_main h0 hi hc]; simp only [decide_eq_false hq, hd]
theorem stepM_letter (hq : (s.getD i 0).toNat ≠ 34) (hd : digitB (s.getD i 0) = false) (hl : letterB (s.getD i 0) = true) : stepM s ⟨i0, toks, st⟩ = roomy toks i (match ltB 24 ((s.take (runE nameB s i)).drop i).length with
              | true => .err 14 i
              | false => .go ⟨runE nameB s i, toks ++ [⟨kindB ((s.take (runE nameB s i)).drop i), (s.take (runE nameB s i)).drop i, i, runE nameB s i - i⟩], st⟩) := by
  rw [stepM_main h0 hi hc]; simp only [decide_eq_false hq, hd, hl]
theorem stepM_byte (hq : (s.getD i 0).toNat ≠ 34) (hd : digitB (s.getD i 0) = false) (hl : letterB (s.getD i 0) = false) (hs : signK s i 2 = []) : stepM s ⟨i0, toks, st⟩ = .err 10 i := by
  rw [stepM_main h0 hi hc]; simp only [decide_eq_false hq, hd, hl, hs]
theorem stepM_sign (hq : (s.getD i 0).toNat ≠ 34) (hd : digitB (s.getD i 0) = false) (hl : letterB (s.getD i 0) = false) {w : List UInt8} (hs : signK s i 2 = w) (hw : w ≠ []) : stepM s ⟨i0, toks, st⟩ = roomy toks i (.go ⟨i + w.length, toks ++ [⟨8, w, i, w.length⟩], bump w st⟩) := by
  rw [stepM_main h0 hi hc]; simp only [decide_eq_false hq, hd, hl, hs]
theorem stepM_lit (hq : (s.getD i 0).toNat = 34) : stepM s ⟨i0, toks, st⟩ = roomy toks i (litStep toks st i i 4 5 (part s i st.length (i + 1) [])) := by
  rw [stepM_main h0 hi hc]; simp only [decide_eq_true hq]
omit h0 hi hc
theorem roomy_full {r : MR} (h : leB 3000 (toks.length : Nat) = true) : roomy toks i r = .err 2 i := by
  simp only [leB, decide_eq_true_eq] at h
  simp only [roomy, decide_eq_true (show 3000 ≤ toks.length by omega)]
theorem roomy_ok {r : MR} (h : leB 3000 (toks.length : Nat) = false) : roomy toks i r = r := by
  simp only [leB, decide_eq_false_iff_not] at h
  simp only [roomy, decide_eq_false (show ¬ 3000 ≤ toks.length by omega)]
theorem signK_len {s : List UInt8} {i : Nat} : ∀ n, i ≤ s.length → (signK s i n).length + i ≤ s.length ∧ (signK s i n).length ≤ n := by
  intro n hi
  induction n with
  | zero => simp only [signK, List.length_nil]; omega
  | succ k ih =>
    simp only [signK]
    split
    · rename_i h
      simp only [Bool.and_eq_true, leB, decide_eq_true_eq] at h
      simp only [List.length_drop, List.length_take]
      omega
    · omega
end
theorem c42T (s : List UInt8) (i : Nat) (toks : List Tok) (c a : Int) (e : Nat) (hi : i ≤ s.length) (hs : s.length < 4611686018427387904) (he : e = 0 ∨ e = 4) (hn : toks.length ≤ 100000) (r : Nat) (hr : runE digitB s i = r) (w : List UInt8) (hw : (s.take r).drop i = w)
    (hb : intBadB w (s.getD r 0) = false) : E env (.call 42 [.ptr 0 0]) (scE s i toks c a e) = some (.ret (.bool true) (scE s r (toks ++ [⟨3, w, i, r - i⟩]) c a 4)) := by
  have h := c42 s i toks.length (cellsT toks) c a e hi hs he hn (cellsT_len toks) r hr w hw false hb
  unfold scE
  rw [cellsT_add, List.length_append]
  exact h
theorem c44T (s : List UInt8) (i : Nat) (toks : List Tok) (c a : Int) (e : Nat) (hi : i ≤ s.length) (hs : s.length < 4611686018427387904) (he : e = 0 ∨ e = 4) (hn : toks.length ≤ 100000) (r : Nat) (hr : runE nameB s i = r) (w : List UInt8) (hw : (s.take r).drop i = w) (hw0 : 0 < w.length)
    (hb : ltB 24 w.length = false) : E env (.call 44 [.ptr 0 0]) (scE s i toks c a e) = some (.ret (.bool true) (scE s r (toks ++ [⟨kindB w, w, i, r - i⟩]) c a 4)) := by
  have h := c44 s i toks.length (cellsT toks) c a e hi hs he hn (cellsT_len toks) r hr w hw hw0 false hb
  unfold scE
  rw [cellsT_add, List.length_append]
  exact h
theorem wrapI {x : Int} (h1 : -9223372036854775808 ≤ x) (h2 : x < 9223372036854775808) : forceO (some (.int .i64 (IntKind.wrap .i64 x))) = some (.int .i64 x) := by
  rw [wrap64 h1 h2]; rfl
theorem skipL_le : ∀ (b : Bool) (l : List UInt8), skipL b l ≤ l.length
  | _, [] => by simp [skipL]
  | true, b :: r => by simp only [skipL, List.length_cons]; have := skipL_le (nlB b) r; omega
  | false, b :: r => by
    have h1 := skipL_le false r
    have h2 := skipL_le true r
    simp only [skipL, List.length_cons]
    repeat' split
    all_goals omega
theorem skipE_le {s : List UInt8} {i : Nat} (h : i ≤ s.length) : skipE s i ≤ s.length := by
  have := skipL_le false (s.drop i)
  simp only [List.length_drop] at this
  unfold skipE; omega
theorem skipE_ge {s : List UInt8} {i : Nat} : i ≤ skipE s i := by unfold skipE; omega
/-- what 'all' does -/
def AllP (s : List UInt8) (nest opn : Nat) (base : Int → List (Nat × Int)) : Prop := ∀ (i : Nat) (toks : List Tok) (c a : Int) (e : Nat), i ≤ s.length → toks.length ≤ 3000 → (e = 0 ∨ e = 4) →
  ∃ v H2, E env (.call 26 [.ptr 0 0, .int .i64 nest, .int .i64 opn]) (scE s i toks c a e) = some (.ret v H2) ∧
    OutP s c a (fun i' toks' => i ≤ i' ∧ ((nest = 0 ∧ Ends s ⟨i, toks, base 0⟩ (.done toks')) ∨ (0 < nest ∧ i' < s.length ∧ (s.getD i' 0).toNat = 41 ∧ ∃ i0, Reach s ⟨i, toks, base 0⟩ ⟨i0, toks', base 0⟩ ∧ skipE s i0 = i')))
      (fun c' a' => Ends s ⟨i, toks, base 0⟩ (.err c' a')) v H2
structure AS where
  j : Nat
  p : Int
  toks : List Tok
  e : Nat
end Go.Proofs.Ytmaaaamfjpjhcaa
/- Contracts: the literal. (Printed by a program.) -/
namespace Go.Proofs.Ytmaaaamfjpjhcaa
set_option linter.unusedSimpArgs false
set_option linter.unusedVariables false
set_option linter.unusedSectionVars false
open Go Go.Vm
set_option maxRecDepth 100000
set_option linter.unusedVariables false

theorem getD_lt {s : List UInt8} {k : Nat} (h : (s.getD k 0).toNat ≠ 0) : k < s.length := by
  rcases Nat.lt_or_ge k s.length with h1 | h1
  · exact h1
  · rw [List.getD_eq_getElem?_getD, List.getElem?_eq_none h1] at h; exact absurd rfl h
set_option maxHeartbeats 4000000 in
theorem c40 {s : List UInt8} (hs : s.length ≤ 100000) {nest : Nat} (hnest : nest ≤ 3) (hall : nest < 3 → AllOk s (nest + 1)) : LitOk s nest := by
  intro i i0 toks st c a e h0 hi hq ht he hlen
  have hX0 := stepM_quote (st := st) h0 hi hq ht
  rw [hlen] at hX0
  generalize (⟨i0, toks, st⟩ : MS) = X0 at hX0 ⊢
  refine call_retP rfl Try.func40 rfl rfl ?_
  refine ev_seq ?_
  refine ev_region ?_
  refine os_pure rfl rfl rfl ?_
  refine os_nil ?_
  refine ev_seq ?_
  refine ev_region ?_
  refine os_pure rfl rfl rfl ?_
  refine os_pure rfl rfl rfl ?_
  refine os_pure rfl rfl rfl ?_
  refine os_pure rfl rfl rfl ?_
  refine os_eff rfl rfl rfl ?_
  refine os_pure rfl rfl rfl ?_
  refine os_pure rfl rfl rfl ?_
  refine os_pure rfl rfl rfl ?_
  refine os_pure rfl rfl rfl ?_
  refine os_eff rfl rfl rfl ?_
  refine os_pure rfl rfl rfl ?_
  refine os_pure rfl rfl rfl ?_
  refine os_nil ?_
  refine ev_seq ?_
  refine ev_region ?_
  refine os_pure rfl rfl rfl ?_
  refine os_nil ?_
  refine ev_seq ?_
  refine ev_region ?_
  refine os_pure rfl rfl rfl ?_
  refine os_nil ?_
  refine ev_seq ?_
  refine ev_region ?_
  refine os_pure rfl rfl rfl ?_
  refine os_pure rfl rfl rfl ?_
  refine os_pure rfl rfl rfl ?_
  refine os_pure rfl rfl rfl ?_
  refine os_eff rfl rfl rfl ?_
  refine os_pure rfl rfl (add1 (by omega)) ?_
  refine os_pure rfl rfl rfl ?_
  refine os_pure rfl rfl rfl ?_
  refine os_pure rfl rfl rfl ?_
  refine os_eff rfl rfl rfl ?_
  refine os_nil ?_
  refine ev_block ?_
  refine ev_loop rfl ?_
  refine lp_ind (fun x : LS => [(0, .ptr 0 0), (1, .int .i64 nest), (5, .int .i64 i), (6, .int .i64 x.frm), (7, .bool x.first), (8, .slice (.tag 2) x.text.length (bytesV x.text))])
    (fun x => [(0, .row [.str s, .int .i64 x.j, .slice (.tag 1) x.toks.length (cellsT x.toks), .int .i64 c, .int .i64 a]), (1, .tip x.e x.toks.length), (2, .tip x.w x.text.length)])
    (fun x => x.frm < x.j ∧ i ≤ x.frm ∧ x.j ≤ s.length ∧ x.text.length ≤ x.j ∧ x.toks.length < 3000 ∧ (x.e = 0 ∨ x.e = 4) ∧ (x.w = 0 ∨ x.w = 1) ∧ Reach s X0 x.X ∧
      stepM s x.X = litStep x.toks st i x.frm (match x.first with | true => 4 | false => 7) (match x.first with | true => 5 | false => 6) (part s i nest x.j x.text))
    (fun x => s.length - x.j) ⟨X0, true, [], 0, i + 1, i, toks, e⟩ ⟨Nat.lt_succ_self _, Nat.le_refl _, hi, Nat.zero_le _, ht, he, .inl rfl, .refl _, hX0⟩ ?_
  intro ⟨X, first, text, w, j, frm, toks, e⟩ ⟨hfj, hif, hj, htj, ht, he, hw, hR, hst⟩ ih
  simp only at hfj hif hj htj ht he hw hR hst ih
  show Ev _ _ _ _ _ [(0, .ptr 0 0), (1, .int .i64 nest), (5, .int .i64 i), (6, .int .i64 frm), (7, .bool first), (8, .slice (.tag 2) text.length (bytesV text))] [(0, .row [.str s, .int .i64 j, .slice (.tag 1) toks.length (cellsT toks), .int .i64 c, .int .i64 a]), (1, .tip e toks.length), (2, .tip w text.length)] _
  refine ev_block ?_
  refine ev_seq ?_
  refine ev_seq ?_
  refine ev_region ?_
  refine os_pure rfl rfl rfl ?_
  refine os_pure rfl rfl rfl ?_
  refine os_pure rfl rfl rfl ?_
  refine os_call rfl rfl rfl (callVia_eq rfl rfl rfl rfl rfl rfl rfl (c37 ..) rfl rfl rfl) ?_
  refine os_pure rfl rfl rfl ?_
  refine os_guard rfl rfl rfl (fun h1 => ?_) (fun h1 => ?_)
  · replace h1 : s.length ≤ j := by simpa [leN_] using h1
    refine os_skip rfl ?_
    refine os_skip rfl ?_
    refine os_skip rfl ?_
    refine os_skip rfl ?_
    refine os_skip rfl ?_
    refine os_skip rfl ?_
    refine os_skip rfl ?_
    refine os_skip rfl ?_
    refine os_skip rfl ?_
    refine os_skip rfl ?_
    refine os_skip rfl ?_
    refine os_skip rfl ?_
    refine os_pure rfl rfl rfl ?_
    refine os_nil ?_
    refine ev_true rfl rfl ?_
    refine ev_seq ?_
    refine ev_region ?_
    refine os_pure rfl rfl rfl ?_
    refine os_pure rfl rfl rfl ?_
    refine os_call rfl rfl rfl (callVia_eq rfl rfl rfl rfl rfl rfl rfl (c38 ..) rfl rfl rfl) ?_
    refine os_pure rfl rfl rfl ?_
    refine os_nil ?_
    exact ev_ret ⟨_, _, _, rfl, rfl, .inr ⟨rfl, 11, i, _, _, _, _, rfl, Ends.of_reach s hR ⟨X, .refl X, by rw [hst, part_end h1]; rfl, fun z hz => (by cases hz)⟩⟩⟩
  · replace h1 : j < s.length := by simpa [leN_] using h1
    refine os_pure rfl rfl rfl ?_
    refine os_pure rfl rfl rfl ?_
    refine os_pure rfl rfl rfl ?_
    refine os_pure rfl rfl rfl ?_
    refine os_eff rfl rfl rfl ?_
    refine os_pure rfl rfl rfl ?_
    refine os_pure rfl rfl rfl ?_
    refine os_pure rfl rfl rfl ?_
    refine os_pure rfl rfl rfl ?_
    refine os_eff rfl rfl rfl ?_
    refine os_pure rfl rfl (gd_f (inR_ok (by omega)) rfl) ?_
    refine os_pure rfl rfl rfl ?_
    refine os_pure rfl rfl rfl ?_
    refine os_nil ?_
    refine ev_if rfl (fun h2 => ?_) (fun h2 => ?_)
    · have h2' := h2
      simp only [eqB, ltB, leB, byteAt, decide_eq_true_eq, decide_eq_false_iff_not, beq_iff_eq, beq_eq_false_iff_ne, ne_eq, Int.toNat_natCast, Bool.not_eq_true', Bool.not_eq_false'] at h2
      refine ev_seq ?_
      refine ev_region ?_
      refine os_pure rfl rfl rfl ?_
      refine os_pure rfl rfl rfl ?_
      refine os_call rfl rfl rfl (callVia_eq rfl rfl rfl rfl rfl rfl rfl (c38 ..) rfl rfl rfl) ?_
      refine os_pure rfl rfl rfl ?_
      refine os_nil ?_
      exact ev_ret ⟨_, _, _, rfl, rfl, .inr ⟨rfl, 11, i, _, _, _, _, rfl, Ends.of_reach s hR ⟨X, .refl X, by rw [hst, part_low (by omega)]; rfl, fun z hz => (by cases hz)⟩⟩⟩
    · have h2' := h2
      simp only [eqB, ltB, leB, byteAt, decide_eq_true_eq, decide_eq_false_iff_not, beq_iff_eq, beq_eq_false_iff_ne, ne_eq, Int.toNat_natCast, Bool.not_eq_true', Bool.not_eq_false'] at h2
      refine ev_skip ?_
      refine ev_seq ?_
      refine ev_region ?_
      refine os_pure rfl rfl rfl ?_
      refine os_pure rfl rfl rfl ?_
      refine os_pure rfl rfl rfl ?_
      refine os_pure rfl rfl rfl ?_
      refine os_eff rfl rfl rfl ?_
      refine os_pure rfl rfl rfl ?_
      refine os_pure rfl rfl rfl ?_
      refine os_pure rfl rfl rfl ?_
      refine os_pure rfl rfl rfl ?_
      refine os_eff rfl rfl rfl ?_
      refine os_pure rfl rfl (gd_f (inR_ok (by omega)) rfl) ?_
      refine os_pure rfl rfl rfl ?_
      refine os_nil ?_
      refine ev_seq ?_
      refine ev_block ?_
      refine ev_seq ?_
      refine ev_region ?_
      refine os_pure rfl rfl rfl ?_
      refine os_pure rfl rfl rfl ?_
      refine os_pure rfl rfl rfl ?_
      refine os_nil ?_
      refine ev_if rfl (fun h3 => ?_) (fun h3 => ?_)
      · have h3' := h3
        simp only [eqB, ltB, leB, byteAt, decide_eq_true_eq, decide_eq_false_iff_not, beq_iff_eq, beq_eq_false_iff_ne, ne_eq, Int.toNat_natCast, Bool.not_eq_true', Bool.not_eq_false'] at h3
        refine ev_seq ?_
        refine ev_region ?_
        refine os_pure rfl rfl rfl ?_
        refine os_pure rfl rfl rfl ?_
        refine os_pure rfl rfl rfl ?_
        refine os_pure rfl rfl rfl ?_
        refine os_eff rfl rfl rfl ?_
        refine os_pure rfl rfl (add1 (by omega)) ?_
        refine os_pure rfl rfl rfl ?_
        refine os_pure rfl rfl rfl ?_
        refine os_pure rfl rfl rfl ?_
        refine os_eff rfl rfl rfl ?_
        refine os_nil ?_
        refine ev_seq ?_
        refine ev_region ?_
        refine os_pure rfl rfl rfl ?_
        refine os_nil ?_
        refine ev_seq ?_
        refine ev_seq ?_
        refine ev_region ?_
        refine os_pure rfl rfl rfl ?_
        refine os_nil ?_
        refine ev_if rfl (fun h4 => ?_) (fun h4 => ?_)
        · subst h4
          refine ev_region ?_
          refine os_pure rfl rfl rfl ?_
          refine os_nil ?_
          refine ev_seq ?_
          refine ev_region ?_
          refine os_pure rfl rfl rfl ?_
          refine os_pure rfl rfl rfl ?_
          refine os_pure rfl rfl rfl ?_
          refine os_conv rfl rfl rfl (conv_ok text) ?_
          refine os_pure rfl rfl rfl ?_
          refine os_call rfl rfl rfl (callVia_eq rfl rfl rfl rfl rfl rfl rfl (c46T s (j + 1) toks c a e _ text frm (by omega) (by omega) he (by omega)) rfl rfl rfl) ?_
          refine os_nil ?_
          refine ev_seq ?_
          refine ev_region ?_
          refine os_pure rfl rfl rfl ?_
          refine os_nil ?_
          refine ev_ret ⟨_, _, _, rfl, rfl, .inl ⟨rfl, j + 1, toks ++ [⟨4, text, frm, j + 1 - frm⟩], 4, rfl, .inr rfl, by omega, by simp; omega, by omega, hR.trans s (Reach.one s (by rw [hst, part_fin h1 (by omega) (by omega)]; rfl))⟩⟩
        · subst h4
          refine ev_skip ?_
          refine ev_seq ?_
          refine ev_region ?_
          refine os_pure rfl rfl rfl ?_
          refine os_pure rfl rfl rfl ?_
          refine os_pure rfl rfl rfl ?_
          refine os_conv rfl rfl rfl (conv_ok text) ?_
          refine os_pure rfl rfl rfl ?_
          refine os_call rfl rfl rfl (callVia_eq rfl rfl rfl rfl rfl rfl rfl (c46T s (j + 1) toks c a e _ text frm (by omega) (by omega) he (by omega)) rfl rfl rfl) ?_
          refine os_nil ?_
          refine ev_seq ?_
          refine ev_region ?_
          refine os_pure rfl rfl rfl ?_
          refine os_nil ?_
          refine ev_ret ⟨_, _, _, rfl, rfl, .inl ⟨rfl, j + 1, toks ++ [⟨7, text, frm, j + 1 - frm⟩], 4, rfl, .inr rfl, by omega, by simp; omega, by omega, hR.trans s (Reach.one s (by rw [hst, part_fin h1 (by omega) (by omega)]; rfl))⟩⟩
      · have h3' := h3
        simp only [eqB, ltB, leB, byteAt, decide_eq_true_eq, decide_eq_false_iff_not, beq_iff_eq, beq_eq_false_iff_ne, ne_eq, Int.toNat_natCast, Bool.not_eq_true', Bool.not_eq_false'] at h3
        refine ev_seq ?_
        refine ev_region ?_
        refine os_pure rfl rfl rfl ?_
        refine os_pure rfl rfl rfl ?_
        refine os_pure rfl rfl rfl ?_
        refine os_nil ?_
        refine ev_if rfl (fun h5 => ?_) (fun h5 => ?_)
        · have h5' := h5
          simp only [eqB, ltB, leB, byteAt, decide_eq_true_eq, decide_eq_false_iff_not, beq_iff_eq, beq_eq_false_iff_ne, ne_eq, Int.toNat_natCast, Bool.not_eq_true', Bool.not_eq_false'] at h5
          refine ev_seq ?_
          refine ev_region ?_
          refine os_pure rfl rfl rfl ?_
          refine os_pure rfl rfl rfl ?_
          refine os_pure rfl rfl rfl ?_
          refine os_append rfl rfl rfl rfl rfl rfl rfl rfl rfl rfl rfl (gd_t (eqN_ok rfl) rfl) rfl rfl hw rfl (bytesV_len text).symm (by show (text.length + 1) * 2 ≤ _; omega) (len_snoc text (s.getD j 0)) (bytesV_snoc text (s.getD j 0)) rfl ?_
          refine os_pure rfl rfl rfl ?_
          refine os_nil ?_
          refine ev_seq ?_
          refine ev_region ?_
          refine os_pure rfl rfl rfl ?_
          refine os_pure rfl rfl rfl ?_
          refine os_pure rfl rfl rfl ?_
          refine os_pure rfl rfl rfl ?_
          refine os_eff rfl rfl rfl ?_
          refine os_pure rfl rfl (add1 (by omega)) ?_
          refine os_pure rfl rfl rfl ?_
          refine os_pure rfl rfl rfl ?_
          refine os_pure rfl rfl rfl ?_
          refine os_eff rfl rfl rfl ?_
          refine os_nil ?_
          refine ev_exit ?_
          exact ⟨_, _, rfl, ih ⟨X, first, text ++ [s.getD j 0], 1, j + 1, frm, toks, e⟩ (by show s.length - (j + 1) < s.length - j; omega) ⟨by show frm < j + 1; omega, hif, by show j + 1 ≤ s.length; omega, by show (text ++ [s.getD j 0]).length ≤ j + 1; simp only [List.length_append, List.length_cons, List.length_nil]; omega, ht, he, .inr rfl, hR, by rw [hst, part_byte h1 (by omega) (by omega) (by omega)]⟩⟩
        · have h5' := h5
          simp only [eqB, ltB, leB, byteAt, decide_eq_true_eq, decide_eq_false_iff_not, beq_iff_eq, beq_eq_false_iff_ne, ne_eq, Int.toNat_natCast, Bool.not_eq_true', Bool.not_eq_false'] at h5
          refine ev_skip ?_
          refine ev_seq ?_
          refine ev_seq ?_
          refine ev_region ?_
          refine os_pure rfl rfl rfl ?_
          refine os_pure rfl rfl rfl ?_
          refine os_pure rfl rfl rfl ?_
          refine os_call rfl rfl rfl (callVia_eq rfl rfl rfl rfl rfl rfl rfl (c62 s j toks.length (cellsT toks) c a e 1 (by omega)) rfl rfl rfl) ?_
          refine os_nil ?_
          refine ev_block ?_
          refine ev_seq ?_
          refine ev_region ?_
          refine os_pure rfl rfl rfl ?_
          refine os_pure rfl rfl rfl ?_
          refine os_nil ?_
          refine ev_if rfl (fun h6 => ?_) (fun h6 => ?_)
          · have h6' := h6
            simp only [eqB, ltB, leB, byteAt, decide_eq_true_eq, decide_eq_false_iff_not, beq_iff_eq, beq_eq_false_iff_ne, ne_eq, Int.toNat_natCast, Bool.not_eq_true', Bool.not_eq_false'] at h6
            have hj1 : j + 1 < s.length := getD_lt (by omega)
            refine ev_region ?_
            refine os_pure rfl rfl rfl ?_
            refine os_pure rfl rfl rfl ?_
            refine os_append rfl rfl rfl rfl rfl rfl rfl rfl rfl rfl rfl (gd_t (eqN_ok rfl) rfl) rfl rfl hw rfl (bytesV_len text).symm (by show (text.length + 1) * 2 ≤ _; omega) (len_snoc text (10)) (bytesV_snoc text (10)) rfl ?_
            refine os_pure rfl rfl rfl ?_
            refine os_nil ?_
            refine ev_region ?_
            refine os_pure rfl rfl rfl ?_
            refine os_pure rfl rfl rfl ?_
            refine os_pure rfl rfl rfl ?_
            refine os_pure rfl rfl rfl ?_
            refine os_eff rfl rfl rfl ?_
            refine os_pure rfl rfl (add2 (by omega)) ?_
            refine os_pure rfl rfl rfl ?_
            refine os_pure rfl rfl rfl ?_
            refine os_pure rfl rfl rfl ?_
            refine os_eff rfl rfl rfl ?_
            refine os_nil ?_
            exact ⟨_, _, rfl, ih ⟨X, first, text ++ [10], 1, j + 2, frm, toks, e⟩ (by show s.length - (j + 2) < s.length - j; omega) ⟨by show frm < j + 2; omega, hif, by show j + 2 ≤ s.length; omega, by show (text ++ [10]).length ≤ j + 2; simp only [List.length_append, List.length_cons, List.length_nil]; omega, ht, he, .inr rfl, hR, by rw [hst, part_n h1 (by omega) (by omega) (by omega)]⟩⟩
          · have h6' := h6
            simp only [eqB, ltB, leB, byteAt, decide_eq_true_eq, decide_eq_false_iff_not, beq_iff_eq, beq_eq_false_iff_ne, ne_eq, Int.toNat_natCast, Bool.not_eq_true', Bool.not_eq_false'] at h6
            refine ev_seq ?_
            refine ev_region ?_
            refine os_pure rfl rfl rfl ?_
            refine os_pure rfl rfl rfl ?_
            refine os_nil ?_
            refine ev_if rfl (fun h7 => ?_) (fun h7 => ?_)
            · have h7' := h7
              simp only [eqB, ltB, leB, byteAt, decide_eq_true_eq, decide_eq_false_iff_not, beq_iff_eq, beq_eq_false_iff_ne, ne_eq, Int.toNat_natCast, Bool.not_eq_true', Bool.not_eq_false'] at h7
              have hj1 : j + 1 < s.length := getD_lt (by omega)
              refine ev_region ?_
              refine os_pure rfl rfl rfl ?_
              refine os_pure rfl rfl rfl ?_
              refine os_append rfl rfl rfl rfl rfl rfl rfl rfl rfl rfl rfl (gd_t (eqN_ok rfl) rfl) rfl rfl hw rfl (bytesV_len text).symm (by show (text.length + 1) * 2 ≤ _; omega) (len_snoc text (9)) (bytesV_snoc text (9)) rfl ?_
              refine os_pure rfl rfl rfl ?_
              refine os_nil ?_
              refine ev_region ?_
              refine os_pure rfl rfl rfl ?_
              refine os_pure rfl rfl rfl ?_
              refine os_pure rfl rfl rfl ?_
              refine os_pure rfl rfl rfl ?_
              refine os_eff rfl rfl rfl ?_
              refine os_pure rfl rfl (add2 (by omega)) ?_
              refine os_pure rfl rfl rfl ?_
              refine os_pure rfl rfl rfl ?_
              refine os_pure rfl rfl rfl ?_
              refine os_eff rfl rfl rfl ?_
              refine os_nil ?_
              exact ⟨_, _, rfl, ih ⟨X, first, text ++ [9], 1, j + 2, frm, toks, e⟩ (by show s.length - (j + 2) < s.length - j; omega) ⟨by show frm < j + 2; omega, hif, by show j + 2 ≤ s.length; omega, by show (text ++ [9]).length ≤ j + 2; simp only [List.length_append, List.length_cons, List.length_nil]; omega, ht, he, .inr rfl, hR, by rw [hst, part_t h1 (by omega) (by omega) (by omega)]⟩⟩
            · have h7' := h7
              simp only [eqB, ltB, leB, byteAt, decide_eq_true_eq, decide_eq_false_iff_not, beq_iff_eq, beq_eq_false_iff_ne, ne_eq, Int.toNat_natCast, Bool.not_eq_true', Bool.not_eq_false'] at h7
              refine ev_seq ?_
              refine ev_seq ?_
              refine ev_region ?_
              refine os_pure rfl rfl rfl ?_
              refine os_pure rfl rfl rfl ?_
              refine os_nil ?_
              refine ev_if rfl (fun h8 => ?_) (fun h8 => ?_)
              · have h8' := h8
                simp only [eqB, ltB, leB, byteAt, decide_eq_true_eq, decide_eq_false_iff_not, beq_iff_eq, beq_eq_false_iff_ne, ne_eq, Int.toNat_natCast, Bool.not_eq_true', Bool.not_eq_false'] at h8
                have hj1 : j + 1 < s.length := getD_lt (by omega)
                refine ev_skip ?_
                refine ev_true rfl h8' ?_
                refine ev_region ?_
                refine os_pure rfl rfl rfl ?_
                refine os_pure rfl rfl rfl ?_
                refine os_pure rfl rfl rfl ?_
                refine os_pure rfl rfl rfl ?_
                refine os_call rfl rfl rfl (callVia_eq rfl rfl rfl rfl rfl rfl rfl (c62 s j toks.length (cellsT toks) c a e 1 (by omega)) rfl rfl rfl) ?_
                refine os_pure rfl rfl rfl ?_
                refine os_append rfl rfl rfl rfl rfl rfl rfl rfl rfl rfl rfl (gd_t (eqN_ok rfl) rfl) rfl rfl hw rfl (bytesV_len text).symm (by show (text.length + 1) * 2 ≤ _; omega) (len_snoc text (s.getD (j + 1) 0)) (bytesV_snoc text (s.getD (j + 1) 0)) rfl ?_
                refine os_pure rfl rfl rfl ?_
                refine os_nil ?_
                refine ev_region ?_
                refine os_pure rfl rfl rfl ?_
                refine os_pure rfl rfl rfl ?_
                refine os_pure rfl rfl rfl ?_
                refine os_pure rfl rfl rfl ?_
                refine os_eff rfl rfl rfl ?_
                refine os_pure rfl rfl (add2 (by omega)) ?_
                refine os_pure rfl rfl rfl ?_
                refine os_pure rfl rfl rfl ?_
                refine os_pure rfl rfl rfl ?_
                refine os_eff rfl rfl rfl ?_
                refine os_nil ?_
                exact ⟨_, _, rfl, ih ⟨X, first, text ++ [s.getD (j + 1) 0], 1, j + 2, frm, toks, e⟩ (by show s.length - (j + 2) < s.length - j; omega) ⟨by show frm < j + 2; omega, hif, by show j + 2 ≤ s.length; omega, by show (text ++ [s.getD (j + 1) 0]).length ≤ j + 2; simp only [List.length_append, List.length_cons, List.length_nil]; omega, ht, he, .inr rfl, hR, by rw [hst, part_self h1 (by omega) (by omega) (by omega)]⟩⟩
              · have h8' := h8
                simp only [eqB, ltB, leB, byteAt, decide_eq_true_eq, decide_eq_false_iff_not, beq_iff_eq, beq_eq_false_iff_ne, ne_eq, Int.toNat_natCast, Bool.not_eq_true', Bool.not_eq_false'] at h8
                refine ev_region ?_
                refine os_pure rfl rfl rfl ?_
                refine os_pure rfl rfl rfl ?_
                refine os_nil ?_
                refine ev_if rfl (fun h9 => ?_) (fun h9 => ?_)
                · have h9' := h9
                  simp only [eqB, ltB, leB, byteAt, decide_eq_true_eq, decide_eq_false_iff_not, beq_iff_eq, beq_eq_false_iff_ne, ne_eq, Int.toNat_natCast, Bool.not_eq_true', Bool.not_eq_false'] at h9
                  have hj1 : j + 1 < s.length := getD_lt (by omega)
                  refine ev_region ?_
                  refine os_pure rfl rfl rfl ?_
                  refine os_pure rfl rfl rfl ?_
                  refine os_pure rfl rfl rfl ?_
                  refine os_pure rfl rfl rfl ?_
                  refine os_call rfl rfl rfl (callVia_eq rfl rfl rfl rfl rfl rfl rfl (c62 s j toks.length (cellsT toks) c a e 1 (by omega)) rfl rfl rfl) ?_
                  refine os_pure rfl rfl rfl ?_
                  refine os_append rfl rfl rfl rfl rfl rfl rfl rfl rfl rfl rfl (gd_t (eqN_ok rfl) rfl) rfl rfl hw rfl (bytesV_len text).symm (by show (text.length + 1) * 2 ≤ _; omega) (len_snoc text (s.getD (j + 1) 0)) (bytesV_snoc text (s.getD (j + 1) 0)) rfl ?_
                  refine os_pure rfl rfl rfl ?_
                  refine os_nil ?_
                  refine ev_region ?_
                  refine os_pure rfl rfl rfl ?_
                  refine os_pure rfl rfl rfl ?_
                  refine os_pure rfl rfl rfl ?_
                  refine os_pure rfl rfl rfl ?_
                  refine os_eff rfl rfl rfl ?_
                  refine os_pure rfl rfl (add2 (by omega)) ?_
                  refine os_pure rfl rfl rfl ?_
                  refine os_pure rfl rfl rfl ?_
                  refine os_pure rfl rfl rfl ?_
                  refine os_eff rfl rfl rfl ?_
                  refine os_nil ?_
                  exact ⟨_, _, rfl, ih ⟨X, first, text ++ [s.getD (j + 1) 0], 1, j + 2, frm, toks, e⟩ (by show s.length - (j + 2) < s.length - j; omega) ⟨by show frm < j + 2; omega, hif, by show j + 2 ≤ s.length; omega, by show (text ++ [s.getD (j + 1) 0]).length ≤ j + 2; simp only [List.length_append, List.length_cons, List.length_nil]; omega, ht, he, .inr rfl, hR, by rw [hst, part_self h1 (by omega) (by omega) (by omega)]⟩⟩
                · have h9' := h9
                  simp only [eqB, ltB, leB, byteAt, decide_eq_true_eq, decide_eq_false_iff_not, beq_iff_eq, beq_eq_false_iff_ne, ne_eq, Int.toNat_natCast, Bool.not_eq_true', Bool.not_eq_false'] at h9
                  refine ev_seq ?_
                  refine ev_region ?_
                  refine os_pure rfl rfl rfl ?_
                  refine os_pure rfl rfl rfl ?_
                  refine os_nil ?_
                  refine ev_if rfl (fun h10 => ?_) (fun h10 => ?_)
                  · have h10' := h10
                    simp only [eqB, ltB, leB, byteAt, decide_eq_true_eq, decide_eq_false_iff_not, beq_iff_eq, beq_eq_false_iff_ne, ne_eq, Int.toNat_natCast, Bool.not_eq_true', Bool.not_eq_false'] at h10
                    have hj1 : j + 1 < s.length := getD_lt (by omega)
                    refine ev_seq ?_
                    refine ev_seq ?_
                    refine ev_region ?_
                    refine os_pure rfl rfl rfl ?_
                    refine os_pure rfl rfl rfl ?_
                    refine os_nil ?_
                    refine ev_if rfl (fun h11 => ?_) (fun h11 => ?_)
                    · have h11' := h11
                      simp only [eqB, ltB, leB, byteAt, decide_eq_true_eq, decide_eq_false_iff_not, beq_iff_eq, beq_eq_false_iff_ne, ne_eq, Int.toNat_natCast, Bool.not_eq_true', Bool.not_eq_false'] at h11
                      refine ev_seq ?_
                      refine ev_region ?_
                      refine os_pure rfl rfl rfl ?_
                      refine os_pure rfl rfl rfl ?_
                      refine os_pure rfl rfl rfl ?_
                      refine os_pure rfl rfl rfl ?_
                      refine os_pure rfl rfl rfl ?_
                      refine os_eff rfl rfl rfl ?_
                      refine os_call rfl rfl rfl (callVia_eq rfl rfl rfl rfl rfl rfl rfl (c38 ..) rfl rfl rfl) ?_
                      refine os_pure rfl rfl rfl ?_
                      refine os_nil ?_
                      exact ev_ret ⟨_, _, _, rfl, rfl, .inr ⟨rfl, 15, j, _, _, _, _, rfl, Ends.of_reach s hR ⟨X, .refl X, by rw [hst, part_deep h1 (by omega) (by omega) (by omega) (by omega)]; rfl, fun z hz => (by cases hz)⟩⟩⟩
                    · have h11' := h11
                      simp only [eqB, ltB, leB, byteAt, decide_eq_true_eq, decide_eq_false_iff_not, beq_iff_eq, beq_eq_false_iff_ne, ne_eq, Int.toNat_natCast, Bool.not_eq_true', Bool.not_eq_false'] at h11
                      refine ev_skip ?_
                      refine ev_seq ?_
                      refine ev_region ?_
                      refine os_pure rfl rfl rfl ?_
                      refine os_pure rfl rfl rfl ?_
                      refine os_pure rfl rfl rfl ?_
                      refine os_pure rfl rfl rfl ?_
                      refine os_eff rfl rfl rfl ?_
                      refine os_pure rfl rfl (add2 (by omega)) ?_
                      refine os_pure rfl rfl rfl ?_
                      refine os_pure rfl rfl rfl ?_
                      refine os_pure rfl rfl rfl ?_
                      refine os_eff rfl rfl rfl ?_
                      refine os_nil ?_
                      refine ev_seq ?_
                      refine ev_region ?_
                      refine os_pure rfl rfl rfl ?_
                      refine os_nil ?_
                      refine ev_seq ?_
                      refine ev_seq ?_
                      refine ev_region ?_
                      refine os_pure rfl rfl rfl ?_
                      refine os_nil ?_
                      refine ev_if rfl (fun h12 => ?_) (fun h12 => ?_)
                      · subst h12
                        refine ev_region ?_
                        refine os_pure rfl rfl rfl ?_
                        refine os_nil ?_
                        refine ev_seq ?_
                        refine ev_region ?_
                        refine os_pure rfl rfl rfl ?_
                        refine os_pure rfl rfl rfl ?_
                        refine os_pure rfl rfl rfl ?_
                        refine os_conv rfl rfl rfl (conv_ok text) ?_
                        refine os_pure rfl rfl rfl ?_
                        refine os_call rfl rfl rfl (callVia_eq rfl rfl rfl rfl rfl rfl rfl (c46T s (j + 2) toks c a e _ text frm (by omega) (by omega) he (by omega)) rfl rfl rfl) ?_
                        refine os_nil ?_
                        refine ev_seq ?_
                        refine ev_seq ?_
                        refine ev_region ?_
                        refine os_pure rfl rfl rfl ?_
                        refine os_pure rfl rfl rfl ?_
                        refine os_pure rfl rfl (add1 (by omega)) ?_
                        refine os_pure rfl rfl rfl ?_
                        have hR1 : Reach s X0 ⟨j + 2, toks ++ [⟨5, text, frm, j + 2 - frm⟩], (i, 0) :: st⟩ := hR.trans s (Reach.one s (by rw [hst, part_more h1 (by omega) (by omega) (by omega) (by omega)]; rfl))
                        obtain ⟨v1, H1, hE, hP⟩ := hall (by omega) (j + 2) (toks ++ [⟨5, text, frm, j + 2 - frm⟩]) st i c a 4 (by omega) (by simp; omega) (.inr rfl) (by omega)
                        rcases hP with ⟨rfl, i', toks2, e2, rfl, he2, hi2, ht2, hi3, hi4, hi5, i1, hR2, hs2⟩ | ⟨rfl, c', a', i', n', tc', e', rfl, hQ⟩
                        · refine os_call rfl rfl rfl (callVia_eq rfl rfl rfl rfl rfl rfl rfl (hE) rfl rfl rfl) ?_
                          refine os_pure rfl rfl rfl ?_
                          refine os_pure rfl rfl rfl ?_
                          refine os_pure rfl rfl rfl ?_
                          cases hrm : leB 3000 (toks2.length : Nat)
                          · have hrl : toks2.length < 3000 := by simp only [leB, decide_eq_false_iff_not] at hrm; omega
                            refine os_call rfl rfl rfl (callVia_eq rfl rfl rfl rfl rfl rfl rfl (c39F s _ toks2 c a _ hrm) rfl rfl rfl) ?_
                            refine os_pure rfl rfl rfl ?_
                            refine os_pure rfl rfl rfl ?_
                            refine os_nil ?_
                            refine ev_false rfl rfl ?_
                            refine ev_skip ?_
                            refine ev_seq ?_
                            refine ev_region ?_
                            refine os_pure rfl rfl rfl ?_
                            refine os_pure rfl rfl rfl ?_
                            refine os_pure rfl rfl rfl ?_
                            refine os_pure rfl rfl rfl ?_
                            refine os_eff rfl rfl rfl ?_
                            refine os_pure rfl rfl rfl ?_
                            refine os_pure rfl rfl rfl ?_
                            refine os_pure rfl rfl rfl ?_
                            refine os_nil ?_
                            refine ev_seq ?_
                            refine ev_region ?_
                            refine os_pure rfl rfl rfl ?_
                            refine os_pure rfl rfl rfl ?_
                            refine os_pure rfl rfl rfl ?_
                            refine os_pure rfl rfl rfl ?_
                            refine os_eff rfl rfl rfl ?_
                            refine os_pure rfl rfl (add1 (by omega)) ?_
                            refine os_pure rfl rfl rfl ?_
                            refine os_pure rfl rfl rfl ?_
                            refine os_pure rfl rfl rfl ?_
                            refine os_eff rfl rfl rfl ?_
                            refine os_nil ?_
                            refine ev_exit ?_
                            exact ⟨_, _, rfl, ih ⟨⟨i1, toks2, (i, 0) :: st⟩, false, [], 0, i' + 1, i', toks2, e2⟩ (by show s.length - (i' + 1) < s.length - j; omega) ⟨Nat.lt_succ_self _, by show i ≤ i'; omega, by show i' + 1 ≤ s.length; omega, Nat.zero_le _, hrl, he2, .inl rfl, (hR1.trans s hR2), by rw [stepM_close hs2 hi4 hi5, hlen]; simp only [roomy, decide_eq_false (show ¬ 3000 ≤ toks2.length by omega)]⟩⟩
                          · have hrl : 3000 ≤ toks2.length := by simp only [leB, decide_eq_true_eq] at hrm; omega
                            refine os_call rfl rfl rfl (callVia_eq rfl rfl rfl rfl rfl rfl rfl (c39T s _ toks2 c a _ hrm) rfl rfl rfl) ?_
                            refine os_pure rfl rfl rfl ?_
                            refine os_pure rfl rfl rfl ?_
                            refine os_nil ?_
                            refine ev_true rfl rfl ?_
                            refine ev_seq ?_
                            refine ev_region ?_
                            refine os_pure rfl rfl rfl ?_
                            refine os_nil ?_
                            exact ev_ret ⟨_, _, _, rfl, rfl, .inr ⟨rfl, 2, i', _, _, _, _, rfl, Ends.of_reach s (hR1.trans s hR2) ⟨_, .refl _, by rw [stepM_close hs2 hi4 hi5]; simp only [roomy, decide_eq_true hrl], fun z hz => (by cases hz)⟩⟩⟩
                        · refine os_call rfl rfl rfl (callVia_eq rfl rfl rfl rfl rfl rfl rfl (hE) rfl rfl rfl) ?_
                          refine os_pure rfl rfl rfl ?_
                          refine os_pure rfl rfl rfl ?_
                          refine os_skip rfl ?_
                          refine os_skip rfl ?_
                          refine os_skip rfl ?_
                          refine os_pure rfl rfl rfl ?_
                          refine os_nil ?_
                          refine ev_true rfl rfl ?_
                          refine ev_seq ?_
                          refine ev_region ?_
                          refine os_pure rfl rfl rfl ?_
                          refine os_nil ?_
                          exact ev_ret ⟨_, _, _, rfl, rfl, .inr ⟨rfl, c', a', _, _, _, _, rfl, Ends.of_reach s hR1 hQ⟩⟩
                      · subst h12
                        refine ev_skip ?_
                        refine ev_seq ?_
                        refine ev_region ?_
                        refine os_pure rfl rfl rfl ?_
                        refine os_pure rfl rfl rfl ?_
                        refine os_pure rfl rfl rfl ?_
                        refine os_conv rfl rfl rfl (conv_ok text) ?_
                        refine os_pure rfl rfl rfl ?_
                        refine os_call rfl rfl rfl (callVia_eq rfl rfl rfl rfl rfl rfl rfl (c46T s (j + 2) toks c a e _ text frm (by omega) (by omega) he (by omega)) rfl rfl rfl) ?_
                        refine os_nil ?_
                        refine ev_seq ?_
                        refine ev_seq ?_
                        refine ev_region ?_
                        refine os_pure rfl rfl rfl ?_
                        refine os_pure rfl rfl rfl ?_
                        refine os_pure rfl rfl (add1 (by omega)) ?_
                        refine os_pure rfl rfl rfl ?_
                        have hR1 : Reach s X0 ⟨j + 2, toks ++ [⟨6, text, frm, j + 2 - frm⟩], (i, 0) :: st⟩ := hR.trans s (Reach.one s (by rw [hst, part_more h1 (by omega) (by omega) (by omega) (by omega)]; rfl))
                        obtain ⟨v1, H1, hE, hP⟩ := hall (by omega) (j + 2) (toks ++ [⟨6, text, frm, j + 2 - frm⟩]) st i c a 4 (by omega) (by simp; omega) (.inr rfl) (by omega)
                        rcases hP with ⟨rfl, i', toks2, e2, rfl, he2, hi2, ht2, hi3, hi4, hi5, i1, hR2, hs2⟩ | ⟨rfl, c', a', i', n', tc', e', rfl, hQ⟩
                        · refine os_call rfl rfl rfl (callVia_eq rfl rfl rfl rfl rfl rfl rfl (hE) rfl rfl rfl) ?_
                          refine os_pure rfl rfl rfl ?_
                          refine os_pure rfl rfl rfl ?_
                          refine os_pure rfl rfl rfl ?_
                          cases hrm : leB 3000 (toks2.length : Nat)
                          · have hrl : toks2.length < 3000 := by simp only [leB, decide_eq_false_iff_not] at hrm; omega
                            refine os_call rfl rfl rfl (callVia_eq rfl rfl rfl rfl rfl rfl rfl (c39F s _ toks2 c a _ hrm) rfl rfl rfl) ?_
                            refine os_pure rfl rfl rfl ?_
                            refine os_pure rfl rfl rfl ?_
                            refine os_nil ?_
                            refine ev_false rfl rfl ?_
                            refine ev_skip ?_
                            refine ev_seq ?_
                            refine ev_region ?_
                            refine os_pure rfl rfl rfl ?_
                            refine os_pure rfl rfl rfl ?_
                            refine os_pure rfl rfl rfl ?_
                            refine os_pure rfl rfl rfl ?_
                            refine os_eff rfl rfl rfl ?_
                            refine os_pure rfl rfl rfl ?_
                            refine os_pure rfl rfl rfl ?_
                            refine os_pure rfl rfl rfl ?_
                            refine os_nil ?_
                            refine ev_seq ?_
                            refine ev_region ?_
                            refine os_pure rfl rfl rfl ?_
                            refine os_pure rfl rfl rfl ?_
                            refine os_pure rfl rfl rfl ?_
                            refine os_pure rfl rfl rfl ?_
                            refine os_eff rfl rfl rfl ?_
                            refine os_pure rfl rfl (add1 (by omega)) ?_
                            refine os_pure rfl rfl rfl ?_
                            refine os_pure rfl rfl rfl ?_
                            refine os_pure rfl rfl rfl ?_
                            refine os_eff rfl rfl rfl ?_
                            refine os_nil ?_
                            refine ev_exit ?_
                            exact ⟨_, _, rfl, ih ⟨⟨i1, toks2, (i, 0) :: st⟩, false, [], 0, i' + 1, i', toks2, e2⟩ (by show s.length - (i' + 1) < s.length - j; omega) ⟨Nat.lt_succ_self _, by show i ≤ i'; omega, by show i' + 1 ≤ s.length; omega, Nat.zero_le _, hrl, he2, .inl rfl, (hR1.trans s hR2), by rw [stepM_close hs2 hi4 hi5, hlen]; simp only [roomy, decide_eq_false (show ¬ 3000 ≤ toks2.length by omega)]⟩⟩
                          · have hrl : 3000 ≤ toks2.length := by simp only [leB, decide_eq_true_eq] at hrm; omega
                            refine os_call rfl rfl rfl (callVia_eq rfl rfl rfl rfl rfl rfl rfl (c39T s _ toks2 c a _ hrm) rfl rfl rfl) ?_
                            refine os_pure rfl rfl rfl ?_
                            refine os_pure rfl rfl rfl ?_
                            refine os_nil ?_
                            refine ev_true rfl rfl ?_
                            refine ev_seq ?_
                            refine ev_region ?_
                            refine os_pure rfl rfl rfl ?_
                            refine os_nil ?_
                            exact ev_ret ⟨_, _, _, rfl, rfl, .inr ⟨rfl, 2, i', _, _, _, _, rfl, Ends.of_reach s (hR1.trans s hR2) ⟨_, .refl _, by rw [stepM_close hs2 hi4 hi5]; simp only [roomy, decide_eq_true hrl], fun z hz => (by cases hz)⟩⟩⟩
                        · refine os_call rfl rfl rfl (callVia_eq rfl rfl rfl rfl rfl rfl rfl (hE) rfl rfl rfl) ?_
                          refine os_pure rfl rfl rfl ?_
                          refine os_pure rfl rfl rfl ?_
                          refine os_skip rfl ?_
                          refine os_skip rfl ?_
                          refine os_skip rfl ?_
                          refine os_pure rfl rfl rfl ?_
                          refine os_nil ?_
                          refine ev_true rfl rfl ?_
                          refine ev_seq ?_
                          refine ev_region ?_
                          refine os_pure rfl rfl rfl ?_
                          refine os_nil ?_
                          exact ev_ret ⟨_, _, _, rfl, rfl, .inr ⟨rfl, c', a', _, _, _, _, rfl, Ends.of_reach s hR1 hQ⟩⟩
                  · have h10' := h10
                    simp only [eqB, ltB, leB, byteAt, decide_eq_true_eq, decide_eq_false_iff_not, beq_iff_eq, beq_eq_false_iff_ne, ne_eq, Int.toNat_natCast, Bool.not_eq_true', Bool.not_eq_false'] at h10
                    refine ev_seq ?_
                    refine ev_region ?_
                    refine os_pure rfl rfl rfl ?_
                    refine os_pure rfl rfl rfl ?_
                    refine os_pure rfl rfl rfl ?_
                    refine os_pure rfl rfl rfl ?_
                    refine os_pure rfl rfl rfl ?_
                    refine os_eff rfl rfl rfl ?_
                    refine os_call rfl rfl rfl (callVia_eq rfl rfl rfl rfl rfl rfl rfl (c38 ..) rfl rfl rfl) ?_
                    refine os_pure rfl rfl rfl ?_
                    refine os_nil ?_
                    exact ev_ret ⟨_, _, _, rfl, rfl, .inr ⟨rfl, 12, j, _, _, _, _, rfl, Ends.of_reach s hR ⟨X, .refl X, by rw [hst, part_bad h1 (by omega) (by omega) (by omega) (by omega) (by omega) (by omega) (by omega)]; rfl, fun z hz => (by cases hz)⟩⟩⟩
end Go.Proofs.Ytmaaaamfjpjhcaa
