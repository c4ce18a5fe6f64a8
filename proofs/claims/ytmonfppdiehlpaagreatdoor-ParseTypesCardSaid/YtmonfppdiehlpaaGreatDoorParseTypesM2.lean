/- What the functions under ParseTypes compute: texts that were built one by one, joined: QM4. -/
import Derived.Test.YtmonfppdiehlpaaGreatDoorParseTypesM1
/- Facts for 'all'. -/
namespace Go.Proofs.YtmonfppdiehlpaaGreatDoor.Sc
set_option linter.unusedSimpArgs false
set_option linter.unusedVariables false
set_option linter.unusedSectionVars false
open Go Go.Vm
/-- the interpolations around, as the innermost one's parentheses go -/
def BaseOk (nest opn : Nat) (base : Int → List (Nat × Int)) : Prop := (nest = 0 ∧ ∀ p, base p = []) ∨ ∃ st, nest = st.length + 1 ∧ ∀ p, base p = (opn, p) :: st
def delta (w : List UInt8) : Int := match decide (w = [40]) with | true => 1 | false => match decide (w = [41]) with | true => -1 | false => 0
section
variable {nest opn : Nat} {base : Int → List (Nat × Int)} (hb : BaseOk nest opn base)
include hb
theorem BaseOk.len (p : Int) : (base p).length = nest := by
  rcases hb with ⟨rfl, h⟩ | ⟨st, rfl, h⟩ <;> rw [h] <;> rfl
theorem BaseOk.closes (p : Int) (b : Nat) : closes b (base p) = (decide (0 < nest) && decide (p = 0) && decide (b = 41)) := by
  rcases hb with ⟨rfl, h⟩ | ⟨st, rfl, h⟩
  · rw [h]; rfl
  · rw [h]; simp [Sc.closes]
theorem BaseOk.bump (p : Int) (w : List UInt8) : bump w (base p) = base (p + delta w) := by
  rcases hb with ⟨rfl, h⟩ | ⟨st, rfl, h⟩
  · rw [h, h]; rfl
  · rw [h, h]
    simp only [Sc.bump, delta]
    cases decide (w = [40]) with
    | true => rfl
    | false =>
      cases decide (w = [41]) with
      | true => rfl
      | false => simp
end
section
variable {s : List UInt8} {i i0 : Nat} {toks : List Tok} {st : List (Nat × Int)}
theorem stepM_end0 (h0 : skipE s i0 = i) (hi : s.length ≤ i) : stepM s ⟨i0, toks, []⟩ = .done toks := by
  simp only [stepM, h0, decide_eq_true hi]
theorem stepM_end1 {q : Nat} {p : Int} (h0 : skipE s i0 = i) (hi : s.length ≤ i) : stepM s ⟨i0, toks, (q, p) :: st⟩ = .err 11 q := by
  simp only [stepM, h0, decide_eq_true hi]
variable (h0 : skipE s i0 = i) (hi : i < s.length) (hc : closes (s.getD i 0).toNat st = false)
include h0 hi hc
theorem stepM_main : stepM s ⟨i0, toks, st⟩ = (match decide ((s.getD i 0).toNat = 34) with
      | true => roomy toks i (litStep toks st i i 4 5 (part s i st.length (i + 1) []))
      | false => match digitB (s.getD i 0) with
        | true => roomy toks i (match intBadB ((s.take (runE digitB s i)).drop i) (s.getD (runE digitB s i) 0) with
            | true => .err 13 i
            | false => .go ⟨runE digitB s i, toks ++ [⟨3, (s.take (runE digitB s i)).drop i, i, runE digitB s i - i⟩], st⟩)
        | false => match letterB (s.getD i 0) with
          | true => roomy toks i (match ltB 24 ((s.take (runE nameB s i)).drop i).length with
              | true => .err 14 i
              | false => .go ⟨runE nameB s i, toks ++ [⟨kindB ((s.take (runE nameB s i)).drop i), (s.take (runE nameB s i)).drop i, i, runE nameB s i - i⟩], st⟩)
          | false => match signK s i 2 with
            | [] => .err 10 i
            | w => roomy toks i (.go ⟨i + w.length, toks ++ [⟨8, w, i, w.length⟩], bump w st⟩)) := by
  have h1 : decide (s.length ≤ i) = false := by simp; omega
  unfold stepM
  simp only [h0, h1, hc]
  cases decide ((s.getD i 0).toNat = 34) with
  | true => rfl
  | false => cases digitB (s.getD i 0) with
    | true => rfl
    | false => cases letterB (s.getD i 0) with
      | true => rfl
      | false => cases signK s i 2 <;> rfl
theorem stepM_digit (hq : (s.getD i 0).toNat ≠ 34) (hd : digitB (s.getD i 0) = true) : stepM s ⟨i0, toks, st⟩ = roomy toks i (match intBadB ((s.take (runE digitB s i)).drop i) (s.getD (runE digitB s i) 0) with
            | true => .err 13 i
            | false => .go ⟨runE digitB s i, toks ++ [⟨3, (s.take (runE digitB s i)).drop i, i, runE digitB s i - i⟩], st⟩) := by
  rw [stepM_main h0 hi hc]; simp only [decide_eq_false hq, hd]
theorem stepM_letter (hq : (s.getD i 0).toNat ≠ 34) (hd : digitB (s.getD i 0) = false) (hl : letterB (s.getD i 0) = true) : stepM s ⟨i0, toks, st⟩ = roomy toks i (match ltB 24 ((s.take (runE nameB s i)).drop i).length with
              | true => .err 14 i
              | false => .go ⟨runE nameB s i, toks ++ [⟨kindB ((s.take (runE nameB s i)).drop i), (s.take (runE nameB s i)).drop i, i, runE nameB s i - i⟩], st⟩) := by
  rw [stepM_main h0 hi hc]; simp only [decide_eq_false hq, hd, hl]
theorem stepM_byte (hq : (s.getD i 0).toNat ≠ 34) (hd : digitB (s.getD i 0) = false) (hl : letterB (s.getD i 0) = false) (hs : signK s i 2 = []) : stepM s ⟨i0, toks, st⟩ = .err 10 i := by
  rw [stepM_main h0 hi hc]; simp only [decide_eq_false hq, hd, hl, hs]
theorem stepM_sign (hq : (s.getD i 0).toNat ≠ 34) (hd : digitB (s.getD i 0) = false) (hl : letterB (s.getD i 0) = false) {w : List UInt8} (hs : signK s i 2 = w) (hw : w ≠ []) : stepM s ⟨i0, toks, st⟩ = roomy toks i (.go ⟨i + w.length, toks ++ [⟨8, w, i, w.length⟩], bump w st⟩) := by
  rw [stepM_main h0 hi hc]; simp only [decide_eq_false hq, hd, hl, hs]
theorem stepM_lit (hq : (s.getD i 0).toNat = 34) : stepM s ⟨i0, toks, st⟩ = roomy toks i (litStep toks st i i 4 5 (part s i st.length (i + 1) [])) := by
  rw [stepM_main h0 hi hc]; simp only [decide_eq_true hq]
omit h0 hi hc
theorem roomy_full {r : MR} (h : leB 3000 (toks.length : Nat) = true) : roomy toks i r = .err 2 i := by
  simp only [leB, decide_eq_true_eq] at h
  simp only [roomy, decide_eq_true (show 3000 ≤ toks.length by omega)]
theorem roomy_ok {r : MR} (h : leB 3000 (toks.length : Nat) = false) : roomy toks i r = r := by
  simp only [leB, decide_eq_false_iff_not] at h
  simp only [roomy, decide_eq_false (show ¬ 3000 ≤ toks.length by omega)]
theorem signK_len {s : List UInt8} {i : Nat} : ∀ n, i ≤ s.length → (signK s i n).length + i ≤ s.length ∧ (signK s i n).length ≤ n := by
  intro n hi
  induction n with
  | zero => simp only [signK, List.length_nil]; omega
  | succ k ih =>
    simp only [signK]
    split
    · rename_i h
      simp only [Bool.and_eq_true, leB, decide_eq_true_eq] at h
      simp only [List.length_drop, List.length_take]
      omega
    · omega
end
theorem c42T (s : List UInt8) (i : Nat) (toks : List Tok) (c a : Int) (e : Nat) (hi : i ≤ s.length) (hs : s.length < 4611686018427387904) (he : e = 0 ∨ e = 4) (hn : toks.length ≤ 100000) (r : Nat) (hr : runE digitB s i = r) (w : List UInt8) (hw : (s.take r).drop i = w)
    (hb : intBadB w (s.getD r 0) = false) : E env (.call 205 [.ptr 0 0]) (scE s i toks c a e) = some (.ret (.bool true) (scE s r (toks ++ [⟨3, w, i, r - i⟩]) c a 4)) := by
  have h := c42 s i toks.length (cellsT toks) c a e hi hs he hn (cellsT_len toks) r hr w hw false hb
  unfold scE
  rw [cellsT_add, List.length_append]
  exact h
theorem c44T (s : List UInt8) (i : Nat) (toks : List Tok) (c a : Int) (e : Nat) (hi : i ≤ s.length) (hs : s.length < 4611686018427387904) (he : e = 0 ∨ e = 4) (hn : toks.length ≤ 100000) (r : Nat) (hr : runE nameB s i = r) (w : List UInt8) (hw : (s.take r).drop i = w) (hw0 : 0 < w.length)
    (hb : ltB 24 w.length = false) : E env (.call 207 [.ptr 0 0]) (scE s i toks c a e) = some (.ret (.bool true) (scE s r (toks ++ [⟨kindB w, w, i, r - i⟩]) c a 4)) := by
  have h := c44 s i toks.length (cellsT toks) c a e hi hs he hn (cellsT_len toks) r hr w hw hw0 false hb
  unfold scE
  rw [cellsT_add, List.length_append]
  exact h
theorem wrapI {x : Int} (h1 : -9223372036854775808 ≤ x) (h2 : x < 9223372036854775808) : forceO (some (.int .i64 (IntKind.wrap .i64 x))) = some (.int .i64 x) := by
  rw [wrap64 h1 h2]; rfl
theorem skipL_le : ∀ (b : Bool) (l : List UInt8), skipL b l ≤ l.length
  | _, [] => by simp [skipL]
  | true, b :: r => by simp only [skipL, List.length_cons]; have := skipL_le (nlB b) r; omega
  | false, b :: r => by
    have h1 := skipL_le false r
    have h2 := skipL_le true r
    simp only [skipL, List.length_cons]
    repeat' split
    all_goals omega
theorem skipE_le {s : List UInt8} {i : Nat} (h : i ≤ s.length) : skipE s i ≤ s.length := by
  have := skipL_le false (s.drop i)
  simp only [List.length_drop] at this
  unfold skipE; omega
theorem skipE_ge {s : List UInt8} {i : Nat} : i ≤ skipE s i := by unfold skipE; omega
/-- what 'all' does -/
def AllP (s : List UInt8) (nest opn : Nat) (base : Int → List (Nat × Int)) : Prop := ∀ (i : Nat) (toks : List Tok) (c a : Int) (e : Nat), i ≤ s.length → toks.length ≤ 3000 → (e = 0 ∨ e = 4) →
  ∃ v H2, E env (.call 148 [.ptr 0 0, .int .i64 nest, .int .i64 opn]) (scE s i toks c a e) = some (.ret v H2) ∧
    OutP s c a (fun i' toks' => i ≤ i' ∧ ((nest = 0 ∧ Ends s ⟨i, toks, base 0⟩ (.done toks')) ∨ (0 < nest ∧ i' < s.length ∧ (s.getD i' 0).toNat = 41 ∧ ∃ i0, Reach s ⟨i, toks, base 0⟩ ⟨i0, toks', base 0⟩ ∧ skipE s i0 = i')))
      (fun c' a' => Ends s ⟨i, toks, base 0⟩ (.err c' a')) v H2
structure AS where
  j : Nat
  p : Int
  toks : List Tok
  e : Nat
end Go.Proofs.YtmonfppdiehlpaaGreatDoor.Sc
