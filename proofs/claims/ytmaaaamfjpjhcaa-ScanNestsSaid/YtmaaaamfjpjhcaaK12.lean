/- Texts that were built one by one, joined: N1 N2. -/
import Derived.Test.YtmaaaamfjpjhcaaK11
/- Two sources with a line feed between them. -/
namespace Go.Proofs.Ytmaaaamfjpjhcaa
set_option linter.unusedSimpArgs false
set_option linter.unusedVariables false
set_option linter.unusedSectionVars false
open Go Go.Vm
set_option linter.unusedVariables false
set_option linter.unusedSectionVars false
theorem skipL_pre : ∀ (b : Bool) (l r : List UInt8), skipL b l < l.length → skipL b (l ++ 10 :: r) = skipL b l
  | _, [], r, h => by simp at h
  | true, c :: l, r, h => by
    simp only [skipL, List.cons_append, List.length_cons] at h ⊢
    rw [skipL_pre (nlB c) l r (by omega)]
  | false, c :: l, r, h => by
    simp only [skipL, List.cons_append, List.length_cons] at h ⊢
    cases hb : blankB c with
    | true =>
      rw [hb] at h; simp only at h ⊢
      rw [skipL_pre false l r (by omega)]
    | false =>
      rw [hb] at h
      simp only at h ⊢
      cases l with
      | nil => simp
      | cons d l' =>
        replace h : (match decide (c.toNat = 47) && decide (d.toNat = 47) with | true => skipL true (d :: l') + 1 | false => 0) < (d :: l').length + 1 := h
        show (match decide (c.toNat = 47) && decide (d.toNat = 47) with | true => skipL true (d :: (l' ++ 10 :: r)) + 1 | false => 0) = (match decide (c.toNat = 47) && decide (d.toNat = 47) with | true => skipL true (d :: l') + 1 | false => 0)
        cases hc : decide (c.toNat = 47) && decide (d.toNat = 47) with
        | true =>
          rw [hc] at h; simp only at h ⊢
          have := skipL_pre true (d :: l') r (by omega)
          rw [List.cons_append] at this
          rw [this]
        | false => rfl
theorem skipL_full : ∀ (b : Bool) (l r : List UInt8), skipL b l = l.length → skipL b (l ++ 10 :: r) = l.length + 1 + skipL false r
  | true, [], r, h => by
    show skipL (nlB 10) r + 1 = _
    rw [show nlB 10 = false by decide]; simp; omega
  | false, [], r, h => by
    have hb : blankB 10 = true := by decide
    simp only [skipL, List.nil_append, hb]; simp; omega
  | true, c :: l, r, h => by
    simp only [skipL, List.cons_append, List.length_cons] at h ⊢
    rw [skipL_full (nlB c) l r (by omega)]; omega
  | false, c :: l, r, h => by
    simp only [skipL, List.cons_append, List.length_cons] at h ⊢
    cases hb : blankB c with
    | true =>
      rw [hb] at h; simp only at h ⊢
      rw [skipL_full false l r (by omega)]; omega
    | false =>
      rw [hb] at h
      simp only at h ⊢
      cases l with
      | nil => simp at h
      | cons d l' =>
        replace h : (match decide (c.toNat = 47) && decide (d.toNat = 47) with | true => skipL true (d :: l') + 1 | false => 0) = (d :: l').length + 1 := h
        show (match decide (c.toNat = 47) && decide (d.toNat = 47) with | true => skipL true (d :: (l' ++ 10 :: r)) + 1 | false => 0) = (d :: l').length + 1 + 1 + skipL false r
        cases hc : decide (c.toNat = 47) && decide (d.toNat = 47) with
        | true =>
          rw [hc] at h; simp only at h ⊢
          have := skipL_full true (d :: l') r (by omega)
          rw [List.cons_append] at this
          rw [this]; omega
        | false => rw [hc] at h; simp at h
theorem tw_pre {p : UInt8 → Bool} (hp : p 10 = false) : ∀ (l r : List UInt8), (l ++ 10 :: r).takeWhile p = l.takeWhile p
  | [], r => by simp [hp]
  | c :: l, r => by
    simp only [List.cons_append, List.takeWhile_cons]
    split
    · rw [tw_pre hp l r]
    · rfl
theorem intBad_congr {w : List UInt8} {a b : UInt8} (h : letterB a = letterB b) : intBadB w a = intBadB w b := by rw [bad_eq, bad_eq, h]
section
variable {s t : List UInt8}
theorem drop_pre {i : Nat} (hi : i ≤ s.length) : (s ++ 10 :: t).drop i = s.drop i ++ 10 :: t := List.drop_append_of_le_length hi
theorem skipE_pre {i : Nat} (hi : i ≤ s.length) (h : skipE s i < s.length) : skipE (s ++ 10 :: t) i = skipE s i := by
  unfold skipE at h ⊢
  rw [drop_pre hi, skipL_pre false (s.drop i) t (by rw [List.length_drop]; omega)]
theorem skipE_full {i : Nat} (hi : i ≤ s.length) (h : s.length ≤ skipE s i) : skipE (s ++ 10 :: t) i = s.length + 1 + skipE t 0 := by
  have h2 := skipL_le false (s.drop i)
  rw [List.length_drop] at h2
  unfold skipE at h ⊢
  rw [drop_pre hi, skipL_full false (s.drop i) t (by rw [List.length_drop]; omega), List.length_drop, List.drop_zero]
  omega
theorem runE_pre {p : UInt8 → Bool} (hp : p 10 = false) {i : Nat} (hi : i ≤ s.length) : runE p (s ++ 10 :: t) i = runE p s i := by
  unfold runE
  rw [drop_pre hi, tw_pre hp]
theorem tk_pre {r j : Nat} (hr : r ≤ s.length) : ((s ++ 10 :: t).take r).drop j = (s.take r).drop j := by rw [List.take_append_of_le_length hr]
theorem getD_pre {k : Nat} (h : k < s.length) : (s ++ 10 :: t).getD k 0 = s.getD k 0 := by
  rw [List.getD_eq_getElem?_getD, List.getElem?_append_left h, ← List.getD_eq_getElem?_getD]
theorem getD_mid : (s ++ 10 :: t).getD s.length 0 = 10 := by
  rw [List.getD_eq_getElem?_getD, List.getElem?_append_right (Nat.le_refl _)]; simp
theorem len_pre : (s ++ 10 :: t).length = s.length + 1 + t.length := by simp; omega
theorem no10 (b : UInt8) : hasL signsL [b, 10] = false := by simp [hasL, signsL]
theorem signK_pre {j : Nat} (h : j < s.length) : signK (s ++ 10 :: t) j 2 = signK s j 2 := by
  have h1 : leB ((j + 1 : Nat) : Int) s.length = true := by simp only [leB, decide_eq_true_eq]; omega
  have h1' : leB ((j + 1 : Nat) : Int) (s ++ 10 :: t).length = true := by simp only [leB, decide_eq_true_eq, len_pre]; omega
  have hk : ((s ++ 10 :: t).take (j + 1)).drop j = (s.take (j + 1)).drop j := tk_pre (by omega)
  simp only [signK, h1, h1', Bool.true_and, Nat.zero_add, hk]
  by_cases h2 : j + 2 ≤ s.length
  · have h3 : leB ((j + (1 + 1) : Nat) : Int) s.length = true := by simp only [leB, decide_eq_true_eq]; omega
    have h3' : leB ((j + (1 + 1) : Nat) : Int) (s ++ 10 :: t).length = true := by simp only [leB, decide_eq_true_eq, len_pre]; omega
    rw [h3, h3', tk_pre (by omega : j + (1 + 1) ≤ s.length)]
  · have hj : j + 1 = s.length := by omega
    have h3 : leB ((j + (1 + 1) : Nat) : Int) s.length = false := by simp only [leB, decide_eq_false_iff_not]; omega
    have hd : ((s ++ 10 :: t).take (j + (1 + 1))).drop j = [s.getD j 0, 10] := by
      rw [List.drop_take, drop_pre (by omega), drop_cons' h, List.drop_of_length_le (by omega), show j + (1 + 1) - j = 2 by omega]
      rfl
    rw [h3, hd, no10]
    simp
theorem partF_pre (q ins : Nat) : ∀ (f f' i : Nat) (text : List UInt8), f ≤ f' → (∀ c a, partF s q ins f i text ≠ .err c a) → partF (s ++ 10 :: t) q ins f' i text = partF s q ins f i text
  | 0, _, i, text, _, h => absurd rfl (h 11 q)
  | f + 1, 0, i, text, hf, h => absurd hf (by omega)
  | f + 1, f' + 1, i, text, hf, h => by
    have ih := partF_pre q ins f f'
    simp only [partF] at h ⊢
    cases h1 : decide (i < s.length) && decide (32 ≤ (s.getD i 0).toNat) with
    | false => rw [h1] at h; exact absurd rfl (h 11 q)
    | true =>
      rw [h1] at h
      simp only [Bool.and_eq_true, decide_eq_true_eq] at h1
      have hi : i < (s ++ 10 :: t).length := by rw [len_pre]; omega
      rw [getD_pre h1.1, decide_eq_true hi, decide_eq_true h1.2]
      simp only [Bool.and_self] at h ⊢
      cases h2 : decide ((s.getD i 0).toNat = 34) with
      | true => rfl
      | false =>
        rw [h2] at h
        simp only at h ⊢
        cases h3 : decide ((s.getD i 0).toNat = 92) with
        | false => rw [h3] at h; simp only at h ⊢; exact ih (i + 1) _ (by omega) h
        | true =>
          rw [h3] at h
          simp only at h ⊢
          have hb : (s ++ 10 :: t).getD (i + 1) 0 = s.getD (i + 1) 0 ∨ (s.getD (i + 1) 0 = 0 ∧ (s ++ 10 :: t).getD (i + 1) 0 = 10) := by
            rcases Nat.lt_or_ge (i + 1) s.length with h4 | h4
            · exact .inl (getD_pre h4)
            · have : i + 1 = s.length := by omega
              exact .inr ⟨getD_out h4, by rw [this]; exact getD_mid⟩
          rcases hb with hb | ⟨hb, _⟩
          · rw [hb]
            cases h4 : decide ((s.getD (i + 1) 0).toNat = 110) with
            | true => rw [h4] at h; simp only at h ⊢; exact ih (i + 2) _ (by omega) h
            | false =>
              rw [h4] at h
              simp only at h ⊢
              cases h5 : decide ((s.getD (i + 1) 0).toNat = 116) with
              | true => rw [h5] at h; simp only at h ⊢; exact ih (i + 2) _ (by omega) h
              | false =>
                rw [h5] at h
                simp only at h ⊢
                cases h6 : decide ((s.getD (i + 1) 0).toNat = 92) || decide ((s.getD (i + 1) 0).toNat = 34) with
                | true => rw [h6] at h; simp only at h ⊢; exact ih (i + 2) _ (by omega) h
                | false => rfl
          · rw [hb] at h
            exact absurd rfl (h 12 i)
theorem part_pre {q ins i : Nat} {text : List UInt8} (h : ∀ c a, part s q ins i text ≠ .err c a) : part (s ++ 10 :: t) q ins i text = part s q ins i text := by
  unfold part at h ⊢
  exact partF_pre q ins _ _ i text (by rw [len_pre]; omega) h
theorem lit_pre {toks : List Tok} {st : List (Nat × Int)} {q j ins : Nat} {a b : Int} {y : MS} (h : litStep toks st q j a b (part s q ins (j + 1) []) = .go y) : litStep toks st q j a b (part (s ++ 10 :: t) q ins (j + 1) []) = .go y := by
  rw [part_pre]
  · exact h
  · intro c a e
    rw [e] at h; cases h
theorem roomy_of {toks : List Tok} {j : Nat} {r : MR} (h : toks.length < 3000) : roomy toks j r = r := roomy_ok (by simp only [leB, decide_eq_false_iff_not]; omega)
theorem stepM_pre {x y : MS} (hx : x.i ≤ s.length) (h : stepM s x = .go y) : stepM (s ++ 10 :: t) x = .go y := by
  obtain ⟨i0, toks, st⟩ := x
  simp only at hx
  obtain ⟨i, h0⟩ : ∃ i, skipE s i0 = i := ⟨_, rfl⟩
  rcases Nat.lt_or_ge i s.length with hi | hi
  · have h0' : skipE (s ++ 10 :: t) i0 = i := by rw [skipE_pre hx (by rw [h0]; exact hi), h0]
    have hi' : i < (s ++ 10 :: t).length := by rw [len_pre]; omega
    have hg : (s ++ 10 :: t).getD i 0 = s.getD i 0 := getD_pre hi
    have hi1 : i ≤ s.length := by omega
    cases hc : closes (s.getD i 0).toNat st with
    | true =>
      cases st with
      | nil => cases hc
      | cons z st =>
        obtain ⟨q, p⟩ := z
        rw [(stepM_closes h0 hi hc).2] at h
        obtain ⟨h1, h2⟩ := roomy_go h
        rw [(stepM_closes h0' hi' (by rw [hg]; exact hc)).2, roomy_of h1]
        exact lit_pre h2
    | false =>
      have hc' : closes ((s ++ 10 :: t).getD i 0).toNat st = false := by rw [hg]; exact hc
      by_cases h1 : (s.getD i 0).toNat = 34
      · rw [stepM_lit h0 hi hc h1] at h
        obtain ⟨h2, h3⟩ := roomy_go h
        rw [stepM_lit h0' hi' hc' (by rw [hg]; exact h1), roomy_of h2]
        exact lit_pre h3
      · cases h2 : digitB (s.getD i 0) with
        | true =>
          rw [stepM_digit h0 hi hc h1 h2] at h
          obtain ⟨h3, h4⟩ := roomy_go h
          have hl := runE_le (p := digitB) hi1
          rw [stepM_digit h0' hi' hc' (by rw [hg]; exact h1) (by rw [hg]; exact h2), roomy_of h3, runE_pre (by decide) hi1, tk_pre hl]
          rw [intBad_congr (b := s.getD (runE digitB s i) 0)]
          · exact h4
          · rcases Nat.lt_or_ge (runE digitB s i) s.length with h5 | h5
            · rw [getD_pre h5]
            · have : runE digitB s i = s.length := by omega
              rw [this, getD_mid, getD_out (Nat.le_refl _)]; decide
        | false =>
          cases h3 : letterB (s.getD i 0) with
          | true =>
            rw [stepM_letter h0 hi hc h1 h2 h3] at h
            obtain ⟨h4, h5⟩ := roomy_go h
            have hl := runE_le (p := nameB) hi1
            rw [stepM_letter h0' hi' hc' (by rw [hg]; exact h1) (by rw [hg]; exact h2) (by rw [hg]; exact h3), roomy_of h4, runE_pre (by decide) hi1, tk_pre hl]
            exact h5
          | false =>
            cases hw : signK s i 2 with
            | nil => rw [stepM_byte h0 hi hc h1 h2 h3 hw] at h; cases h
            | cons b w =>
              rw [stepM_sign h0 hi hc h1 h2 h3 hw (by simp)] at h
              obtain ⟨h4, h5⟩ := roomy_go h
              rw [stepM_sign (w := b :: w) h0' hi' hc' (by rw [hg]; exact h1) (by rw [hg]; exact h2) (by rw [hg]; exact h3) (by rw [signK_pre hi]; exact hw) (by simp), roomy_of h4]
              exact h5
  · cases st with
    | nil => rw [stepM_end0 h0 hi] at h; cases h
    | cons z st => obtain ⟨q, p⟩ := z; rw [stepM_end1 h0 hi] at h; cases h
theorem reach_pre {x y : MS} (h : Reach s x y) : x.i ≤ s.length → Reach (s ++ 10 :: t) x y := by
  induction h with
  | refl x => exact fun _ => .refl x
  | step x y z h1 _ ih =>
    intro hx
    obtain ⟨u, g1, g2, g3, g4, g5, g6⟩ := stepM_go h1
    exact .step x y z (stepM_pre hx h1) (ih (by omega))
end
/- a source behind another -/
def shT (n : Nat) (t : Tok) : Tok := ⟨t.k, t.t, n + t.a, t.l⟩
def shS (n : Nat) (st : List (Nat × Int)) : List (Nat × Int) := st.map fun x => (n + x.1, x.2)
def shP (n : Nat) : PR → PR
  | .err c a => .err c (n + a)
  | .fin t e => .fin t (n + e)
  | .more t e => .more t (n + e)
section
variable {a t : List UInt8}
theorem drop_sh {i : Nat} : (a ++ t).drop (a.length + i) = t.drop i := by
  rw [← List.drop_drop, List.drop_left]
theorem skipE_sh {i : Nat} : skipE (a ++ t) (a.length + i) = a.length + skipE t i := by
  unfold skipE; rw [drop_sh]; omega
theorem runE_sh {p : UInt8 → Bool} {i : Nat} : runE p (a ++ t) (a.length + i) = a.length + runE p t i := by
  unfold runE; rw [drop_sh]; omega
theorem tk_sh {r j : Nat} : ((a ++ t).take (a.length + r)).drop (a.length + j) = (t.take r).drop j := by
  rw [List.drop_take, drop_sh, List.drop_take]; congr 1; omega
theorem getD_sh {k : Nat} : (a ++ t).getD (a.length + k) 0 = t.getD k 0 := by
  rw [List.getD_eq_getElem?_getD, List.getElem?_append_right (by omega), ← List.getD_eq_getElem?_getD]; congr 1; omega
theorem signK_sh {j : Nat} : ∀ k, signK (a ++ t) (a.length + j) k = signK t j k
  | 0 => rfl
  | k + 1 => by
    have h1 : leB ((a.length + (j + (k + 1)) : Nat) : Int) (a ++ t).length = leB ((j + (k + 1) : Nat) : Int) t.length := by
      simp only [leB, List.length_append]; rw [Bool.eq_iff_iff]; simp only [decide_eq_true_eq]; omega
    simp only [signK, h1, show a.length + j + (k + 1) = a.length + (j + (k + 1)) by omega, tk_sh, signK_sh k]
theorem partF_sh (q ins : Nat) : ∀ (f i : Nat) (text : List UInt8), partF (a ++ t) (a.length + q) ins f (a.length + i) text = shP a.length (partF t q ins f i text)
  | 0, i, text => rfl
  | f + 1, i, text => by
    have ih := partF_sh q ins f
    have h1 : decide (a.length + i < (a ++ t).length) = decide (i < t.length) := by rw [List.length_append, Bool.eq_iff_iff]; simp
    simp only [partF, h1, getD_sh, show a.length + i + 1 = a.length + (i + 1) by omega, show a.length + i + 2 = a.length + (i + 2) by omega, ih]
    repeat' split
    all_goals rfl
theorem part_sh {q ins i : Nat} {text : List UInt8} : part (a ++ t) (a.length + q) ins (a.length + i) text = shP a.length (part t q ins i text) := by
  unfold part
  rw [show (a ++ t).length - (a.length + i) = t.length - i by rw [List.length_append]; omega]
  exact partF_sh q ins _ i text
theorem closes_sh {n b : Nat} : ∀ {st : List (Nat × Int)}, closes b (shS n st) = closes b st
  | [] => rfl
  | (q, p) :: st => rfl
theorem bump_sh {n : Nat} {w : List UInt8} : ∀ {st : List (Nat × Int)}, bump w (shS n st) = shS n (bump w st)
  | [] => rfl
  | (q, p) :: st => by
    simp only [bump, shS, List.map_cons]
    cases decide (w = [40]) with
    | true => rfl
    | false => cases decide (w = [41]) <;> rfl
variable {l : List Tok}
/-- a state of the source behind -/
def shM (n : Nat) (l : List Tok) (x : MS) : MS := ⟨n + x.i, l ++ x.toks.map (shT n), shS n x.st⟩
theorem lit_sh {toks : List Tok} {st : List (Nat × Int)} {q j : Nat} {c d : Int} {n : Nat} : ∀ {r : PR} {y : MS}, litStep toks st q j c d r = .go y → litStep (l ++ toks.map (shT n)) (shS n st) (n + q) (n + j) c d (shP n r) = .go (shM n l y)
  | .err _ _, y, h => by cases h
  | .fin t e, y, h => by
    simp only [litStep, MR.go.injEq] at h
    subst h
    simp only [litStep, shP, shM, List.map_append, List.append_assoc, shT, List.map_cons, List.map_nil, show n + e - (n + j) = e - j by omega]
  | .more t e, y, h => by
    simp only [litStep, MR.go.injEq] at h
    subst h
    simp only [litStep, shP, shM, List.map_append, List.append_assoc, shT, List.map_cons, List.map_nil, show n + e - (n + j) = e - j by omega, shS]
theorem stepM_sh {x y : MS} (hl : l.length + x.toks.length < 3000) (h : stepM t x = .go y) : stepM (a ++ t) (shM a.length l x) = .go (shM a.length l y) := by
  obtain ⟨i0, toks, st⟩ := x
  simp only at hl
  obtain ⟨i, h0⟩ : ∃ i, skipE t i0 = i := ⟨_, rfl⟩
  show stepM (a ++ t) ⟨a.length + i0, l ++ toks.map (shT a.length), shS a.length st⟩ = _
  have hr : ∀ {j r}, roomy (l ++ toks.map (shT a.length)) j r = r := fun {j r} => roomy_of (by rw [List.length_append, List.length_map]; exact hl)
  rcases Nat.lt_or_ge i t.length with hi | hi
  · have h0' : skipE (a ++ t) (a.length + i0) = a.length + i := by rw [skipE_sh, h0]
    have hi' : a.length + i < (a ++ t).length := by rw [List.length_append]; omega
    have hg : (a ++ t).getD (a.length + i) 0 = t.getD i 0 := getD_sh
    cases hc : closes (t.getD i 0).toNat st with
    | true =>
      cases st with
      | nil => cases hc
      | cons z st =>
        obtain ⟨q, p⟩ := z
        rw [(stepM_closes h0 hi hc).2] at h
        obtain ⟨h1, h2⟩ := roomy_go h
        have hc' : closes ((a ++ t).getD (a.length + i) 0).toNat ((a.length + q, p) :: shS a.length st) = true := by rw [hg]; exact hc
        show stepM (a ++ t) ⟨a.length + i0, l ++ toks.map (shT a.length), (a.length + q, p) :: shS a.length st⟩ = _
        rw [(stepM_closes h0' hi' hc').2, hr, show (shS a.length st).length = st.length by simp [shS], show a.length + i + 1 = a.length + (i + 1) by omega, part_sh]
        exact lit_sh h2
    | false =>
      have hc' : closes ((a ++ t).getD (a.length + i) 0).toNat (shS a.length st) = false := by rw [hg, closes_sh]; exact hc
      by_cases h1 : (t.getD i 0).toNat = 34
      · rw [stepM_lit h0 hi hc h1] at h
        obtain ⟨h2, h3⟩ := roomy_go h
        rw [stepM_lit h0' hi' hc' (by rw [hg]; exact h1), hr, show (shS a.length st).length = st.length by simp [shS], show a.length + i + 1 = a.length + (i + 1) by omega, part_sh]
        exact lit_sh h3
      · cases h2 : digitB (t.getD i 0) with
        | true =>
          rw [stepM_digit h0 hi hc h1 h2] at h
          obtain ⟨h3, h4⟩ := roomy_go h
          rw [stepM_digit h0' hi' hc' (by rw [hg]; exact h1) (by rw [hg]; exact h2), hr, runE_sh, tk_sh, getD_sh]
          split at h4
          · cases h4
          · rename_i hb
            cases h4
            try rw [hb]
            simp only [shM, List.map_append, List.append_assoc, shT, List.map_cons, List.map_nil, show ∀ n e j : Nat, n + e - (n + j) = e - j by omega]
        | false =>
          cases h3 : letterB (t.getD i 0) with
          | true =>
            rw [stepM_letter h0 hi hc h1 h2 h3] at h
            obtain ⟨h4, h5⟩ := roomy_go h
            rw [stepM_letter h0' hi' hc' (by rw [hg]; exact h1) (by rw [hg]; exact h2) (by rw [hg]; exact h3), hr, runE_sh, tk_sh]
            split at h5
            · cases h5
            · rename_i hb
              cases h5
              try rw [hb]
              simp only [shM, List.map_append, List.append_assoc, shT, List.map_cons, List.map_nil, show ∀ n e j : Nat, n + e - (n + j) = e - j by omega]
          | false =>
            cases hw : signK t i 2 with
            | nil => rw [stepM_byte h0 hi hc h1 h2 h3 hw] at h; cases h
            | cons b w =>
              rw [stepM_sign h0 hi hc h1 h2 h3 hw (by simp)] at h
              obtain ⟨h4, h5⟩ := roomy_go h
              cases h5
              rw [stepM_sign (w := b :: w) h0' hi' hc' (by rw [hg]; exact h1) (by rw [hg]; exact h2) (by rw [hg]; exact h3) (by rw [signK_sh]; exact hw) (by simp), hr]
              simp only [shM, List.map_append, List.append_assoc, shT, List.map_cons, List.map_nil, bump_sh, Nat.add_assoc]
  · cases st with
    | nil => rw [stepM_end0 h0 hi] at h; cases h
    | cons z st => obtain ⟨q, p⟩ := z; rw [stepM_end1 h0 hi] at h; cases h
theorem stepM_len {x y : MS} (h : stepM t x = .go y) : y.toks.length = x.toks.length + 1 := by
  obtain ⟨u, g1, _⟩ := stepM_go h
  rw [g1, List.length_append]; rfl
theorem reach_len {x y : MS} (h : Reach t x y) : x.toks.length ≤ y.toks.length := by
  induction h with
  | refl x => exact Nat.le_refl _
  | step x y z h1 _ ih => have := stepM_len h1; omega
theorem reach_sh {x y : MS} (h : Reach t x y) : l.length + y.toks.length ≤ 3000 → Reach (a ++ t) (shM a.length l x) (shM a.length l y) := by
  induction h with
  | refl x => exact fun _ => .refl _
  | step x y z h1 h2 ih =>
    intro hl
    have h3 := stepM_len h1
    have h4 := reach_len h2
    exact .step _ _ _ (stepM_sh (by omega) h1) (ih hl)
end
theorem stepM_place {s : List UInt8} {i j : Nat} {toks : List Tok} {st : List (Nat × Int)} (h : skipE s i = skipE s j) : stepM s ⟨i, toks, st⟩ = stepM s ⟨j, toks, st⟩ := by
  unfold stepM; simp only [h]
theorem stepM_done_st {s : List UInt8} {i : Nat} {toks l : List Tok} {st : List (Nat × Int)} (h : stepM s ⟨i, toks, st⟩ = .done l) : st = [] := by
  have h1 := (stepM_done h).2
  simp only at h1
  cases st with
  | nil => rfl
  | cons z st => obtain ⟨q, p⟩ := z; rw [stepM_end1 rfl h1] at h; cases h
theorem ends_place {s : List UInt8} {i j : Nat} {toks : List Tok} {st : List (Nat × Int)} {z : MS} {r : MR} (h : skipE s i = skipE s j) (hr : Reach s ⟨j, toks, st⟩ z) (hz : stepM s z = r) (hn : ∀ y, r ≠ .go y) : Ends s ⟨i, toks, st⟩ r := by
  generalize hx : (⟨j, toks, st⟩ : MS) = x at hr
  cases hr with
  | refl => subst hx; exact ⟨_, .refl _, by rw [stepM_place h]; exact hz, hn⟩
  | step _ y _ k1 k2 => subst hx; exact ⟨z, .step _ y _ (by rw [stepM_place h]; exact k1) k2, hz, hn⟩
/-- the tokens of both -/
theorem parts_ends {s t : List UInt8} {l m : List Tok} (hl : Ends s ⟨0, [], []⟩ (.done l)) (hm : Ends t ⟨0, [], []⟩ (.done m)) (hlm : l.length + m.length ≤ 3000) : Ends (s ++ 10 :: t) ⟨0, [], []⟩ (.done (l ++ m.map (shT (s.length + 1)))) := by
  obtain ⟨⟨i, toks, st⟩, h1, h2, _⟩ := hl
  obtain ⟨h3, h4⟩ := stepM_done h2
  simp only at h3 h4
  have h5 := stepM_done_st h2
  subst h5
  subst h3
  obtain ⟨⟨j, toks', st'⟩, g1, g2, _⟩ := hm
  obtain ⟨g3, g4⟩ := stepM_done g2
  simp only at g3 g4
  have g5 := stepM_done_st g2
  subst g5
  subst g3
  have hi := (reach_lay h1 (Nat.zero_le _) rfl).1
  simp only at hi
  have hu : s ++ 10 :: t = (s ++ [10]) ++ t := by simp
  have hn : (s ++ [10]).length = s.length + 1 := by simp
  have r1 : Reach (s ++ 10 :: t) ⟨0, [], []⟩ ⟨i, toks, []⟩ := reach_pre h1 (Nat.zero_le _)
  have r2 := reach_sh (a := s ++ [10]) (l := toks) g1 hlm
  rw [← hu, hn] at r2
  have e1 : skipE (s ++ 10 :: t) i = skipE (s ++ 10 :: t) (s.length + 1) := by
    rw [skipE_full hi h4, hu]
    have := skipE_sh (a := s ++ [10]) (t := t) (i := 0)
    rw [hn, Nat.add_zero] at this
    exact this.symm
  have r2 : Reach (s ++ 10 :: t) ⟨s.length + 1, toks, []⟩ ⟨s.length + 1 + j, toks ++ toks'.map (shT (s.length + 1)), []⟩ := by
    have hx : shM (s.length + 1) toks ⟨0, [], []⟩ = ⟨s.length + 1, toks, []⟩ := by simp [shM, shS]
    rw [hx] at r2
    exact r2
  have e2 : stepM (s ++ 10 :: t) ⟨s.length + 1 + j, toks ++ toks'.map (shT (s.length + 1)), []⟩ = .done (toks ++ toks'.map (shT (s.length + 1))) := by
    refine stepM_end0 rfl ?_
    have := skipE_sh (a := s ++ [10]) (t := t) (i := j)
    rw [hn, ← hu] at this
    rw [this, len_pre]; omega
  exact Ends.of_reach _ r1 (ends_place e1 r2 e2 (fun z hz => (by cases hz)))
end Go.Proofs.Ytmaaaamfjpjhcaa
/- The law on parts. (Printed by a program.) -/
namespace Go.Proofs.Ytmaaaamfjpjhcaa
set_option linter.unusedSimpArgs false
set_option linter.unusedVariables false
set_option linter.unusedSectionVars false
open Go Go.Vm
set_option maxRecDepth 100000
set_option linter.unusedVariables false

theorem lay_all {s : List UInt8} : ∀ {l : List Tok} {k e : Nat}, Lay s k l e → ∀ (j : Nat) (t : Tok), l[j]? = some t → t.a < s.length
  | [], _, _, _, j, t, h => by simp at h
  | u :: l, k, e, hL, 0, t, h => by simp at h; subst h; exact hL.2.1
  | u :: l, k, e, hL, j + 1, t, h => lay_all hL.2.2.2.2 j t (by simpa using h)
theorem c4big (s t : List UInt8) (h : ltB 8000 (s.length : Nat) = false → 7999 - (s.length : Int) < t.length) : E env (.call 4 [.str s, .str t]) [] = some (.ret (.bool true) []) := by
  refine call_ret rfl Try.func4 rfl rfl ?_
  refine ev_seq ?_
  refine ev_region ?_
  refine os_pure rfl rfl rfl ?_
  refine os_nil ?_
  refine ev_seq ?_
  refine ev_seq ?_
  refine ev_region ?_
  refine os_pure rfl rfl rfl ?_
  refine os_pure rfl rfl rfl ?_
  refine os_pure rfl rfl rfl ?_
  refine os_pure rfl rfl rfl ?_
  refine os_guard rfl rfl rfl (fun g16 => ?_) (fun g16 => ?_)
  · refine os_skip rfl ?_
    refine os_skip rfl ?_
    refine os_skip rfl ?_
    refine os_skip rfl ?_
    refine os_skip rfl ?_
    refine os_skip rfl ?_
    refine os_pure rfl rfl rfl ?_
    refine os_nil ?_
    refine ev_true rfl rfl ?_
    refine ev_seq ?_
    refine ev_region ?_
    refine os_pure rfl rfl rfl ?_
    refine os_nil ?_
    exact ev_ret ⟨_, rfl, rfl⟩
  · refine os_pure rfl rfl rfl ?_
    refine os_pure rfl rfl rfl ?_
    refine os_pure rfl rfl rfl ?_
    refine os_pure rfl rfl rfl ?_
    have g16x := g16
    simp only [ltB, decide_eq_false_iff_not] at g16x
    refine os_pure rfl rfl (wrapI (by omega) (by omega)) ?_
    refine os_pure rfl rfl rfl ?_
    refine os_pure rfl rfl rfl ?_
    refine os_nil ?_
    refine ev_true rfl (by have := h g16; simp only [ltB, decide_eq_true_eq]; omega) ?_
    refine ev_seq ?_
    refine ev_region ?_
    refine os_pure rfl rfl rfl ?_
    refine os_nil ?_
    exact ev_ret ⟨_, rfl, rfl⟩

section
variable {s t : List UInt8} (hst : s.length + t.length ≤ 7999)
include hst
set_option maxHeartbeats 1000000 in
theorem c4a {c : Int} {a : Nat} {r : MR} (hr : RBd r) (hc : c ≠ 0) (h1 : E env (.call 11 [.str s]) [] = some (.ret (tokV (.err c a)) [])) (h2 : E env (.call 11 [.str t]) [] = some (.ret (tokV r) [])) : E env (.call 4 [.str s, .str t]) [] = some (.ret (.bool true) []) := by
  obtain ⟨l2, c2, a2, hl2, hv2⟩ := tokV_tup hr
  rw [hv2] at h2
  refine call_ret rfl Try.func4 rfl rfl ?_
  refine ev_seq ?_
  refine ev_region ?_
  refine os_pure rfl rfl rfl ?_
  refine os_nil ?_
  refine ev_seq ?_
  refine ev_seq ?_
  refine ev_region ?_
  refine os_pure rfl rfl rfl ?_
  refine os_pure rfl rfl rfl ?_
  refine os_pure rfl rfl rfl ?_
  refine os_pure rfl rfl rfl ?_
  refine os_guard rfl rfl rfl (fun g16 => ?_) (fun g16 => ?_)
  · exfalso; simp only [ltB, decide_eq_true_eq] at g16; omega
  · refine os_pure rfl rfl rfl ?_
    refine os_pure rfl rfl rfl ?_
    refine os_pure rfl rfl rfl ?_
    refine os_pure rfl rfl rfl ?_
    refine os_pure rfl rfl (wrapI (by omega) (by omega)) ?_
    refine os_pure rfl rfl rfl ?_
    refine os_pure rfl rfl rfl ?_
    refine os_nil ?_
    refine ev_false rfl (by simp only [ltB, decide_eq_false_iff_not]; omega) ?_
    refine ev_skip ?_
    refine ev_seq ?_
    refine ev_region ?_
    refine os_pure rfl rfl rfl ?_
    refine os_quiet rfl rfl rfl rfl rfl (h1) rfl ?_
    refine os_pure rfl rfl rfl ?_
    refine os_pure rfl rfl rfl ?_
    refine os_pure rfl rfl rfl ?_
    refine os_eff rfl rfl rfl ?_
    refine os_pure rfl rfl rfl ?_
    refine os_eff rfl rfl rfl ?_
    refine os_nil ?_
    refine ev_seq ?_
    refine ev_region ?_
    refine os_pure rfl rfl rfl ?_
    refine os_quiet rfl rfl rfl rfl rfl (h2) rfl ?_
    refine os_pure rfl rfl rfl ?_
    refine os_pure rfl rfl rfl ?_
    refine os_pure rfl rfl rfl ?_
    refine os_eff rfl rfl rfl ?_
    refine os_pure rfl rfl rfl ?_
    refine os_eff rfl rfl rfl ?_
    refine os_nil ?_
    refine ev_seq ?_
    refine ev_seq ?_
    refine ev_region ?_
    refine os_pure rfl rfl rfl ?_
    refine os_eff rfl rfl rfl ?_
    refine os_pure rfl rfl rfl ?_
    refine os_pure rfl rfl rfl ?_
    refine os_guard rfl rfl rfl (fun g37 => ?_) (fun g37 => ?_)
    · refine os_skip rfl ?_
      refine os_skip rfl ?_
      refine os_skip rfl ?_
      refine os_pure rfl rfl rfl ?_
      refine os_pure rfl rfl rfl ?_
      refine os_skip rfl ?_
      refine os_skip rfl ?_
      refine os_skip rfl ?_
      refine os_skip rfl ?_
      refine os_skip rfl ?_
      refine os_skip rfl ?_
      refine os_pure rfl rfl rfl ?_
      refine os_nil ?_
      refine ev_true rfl rfl ?_
      refine ev_seq ?_
      refine ev_region ?_
      refine os_call rfl rfl rfl (callVia_eq rfl rfl rfl rfl rfl rfl rfl (awake) rfl rfl rfl) ?_
      refine os_pure rfl rfl rfl ?_
      refine os_nil ?_
      exact ev_ret ⟨_, rfl, rfl⟩
    · exfalso; rw [neq_no hc] at g37; cases g37

set_option maxHeartbeats 1000000 in
theorem c4b {c : Int} {a : Nat} {l : List Tok} (hl : l.length ≤ 3000) (hc : c ≠ 0) (h1 : E env (.call 11 [.str s]) [] = some (.ret (tokV (.done l)) [])) (h2 : E env (.call 11 [.str t]) [] = some (.ret (tokV (.err c a)) [])) : E env (.call 4 [.str s, .str t]) [] = some (.ret (.bool true) []) := by
  refine call_ret rfl Try.func4 rfl rfl ?_
  refine ev_seq ?_
  refine ev_region ?_
  refine os_pure rfl rfl rfl ?_
  refine os_nil ?_
  refine ev_seq ?_
  refine ev_seq ?_
  refine ev_region ?_
  refine os_pure rfl rfl rfl ?_
  refine os_pure rfl rfl rfl ?_
  refine os_pure rfl rfl rfl ?_
  refine os_pure rfl rfl rfl ?_
  refine os_guard rfl rfl rfl (fun g16 => ?_) (fun g16 => ?_)
  · exfalso; simp only [ltB, decide_eq_true_eq] at g16; omega
  · refine os_pure rfl rfl rfl ?_
    refine os_pure rfl rfl rfl ?_
    refine os_pure rfl rfl rfl ?_
    refine os_pure rfl rfl rfl ?_
    refine os_pure rfl rfl (wrapI (by omega) (by omega)) ?_
    refine os_pure rfl rfl rfl ?_
    refine os_pure rfl rfl rfl ?_
    refine os_nil ?_
    refine ev_false rfl (by simp only [ltB, decide_eq_false_iff_not]; omega) ?_
    refine ev_skip ?_
    refine ev_seq ?_
    refine ev_region ?_
    refine os_pure rfl rfl rfl ?_
    refine os_quiet rfl rfl rfl rfl rfl (h1) rfl ?_
    refine os_pure rfl rfl rfl ?_
    refine os_pure rfl rfl rfl ?_
    refine os_pure rfl rfl rfl ?_
    refine os_eff rfl rfl rfl ?_
    refine os_pure rfl rfl rfl ?_
    refine os_eff rfl rfl rfl ?_
    refine os_nil ?_
    refine ev_seq ?_
    refine ev_region ?_
    refine os_pure rfl rfl rfl ?_
    refine os_quiet rfl rfl rfl rfl rfl (h2) rfl ?_
    refine os_pure rfl rfl rfl ?_
    refine os_pure rfl rfl rfl ?_
    refine os_pure rfl rfl rfl ?_
    refine os_eff rfl rfl rfl ?_
    refine os_pure rfl rfl rfl ?_
    refine os_eff rfl rfl rfl ?_
    refine os_nil ?_
    refine ev_seq ?_
    refine ev_seq ?_
    refine ev_region ?_
    refine os_pure rfl rfl rfl ?_
    refine os_eff rfl rfl rfl ?_
    refine os_pure rfl rfl rfl ?_
    refine os_pure rfl rfl rfl ?_
    refine os_guard rfl rfl rfl (fun g37 => ?_) (fun g37 => ?_)
    · exfalso; simp [eqB] at g37
    · refine os_pure rfl rfl rfl ?_
      refine os_eff rfl rfl rfl ?_
      refine os_pure rfl rfl rfl ?_
      refine os_pure rfl rfl rfl ?_
      refine os_pure rfl rfl rfl ?_
      refine os_guard rfl rfl rfl (fun g42 => ?_) (fun g42 => ?_)
      · refine os_skip rfl ?_
        refine os_skip rfl ?_
        refine os_skip rfl ?_
        refine os_skip rfl ?_
        refine os_skip rfl ?_
        refine os_skip rfl ?_
        refine os_pure rfl rfl rfl ?_
        refine os_nil ?_
        refine ev_true rfl rfl ?_
        refine ev_seq ?_
        refine ev_region ?_
        refine os_call rfl rfl rfl (callVia_eq rfl rfl rfl rfl rfl rfl rfl (awake) rfl rfl rfl) ?_
        refine os_pure rfl rfl rfl ?_
        refine os_nil ?_
        exact ev_ret ⟨_, rfl, rfl⟩
      · exfalso; rw [neq_no hc] at g42; cases g42

set_option maxHeartbeats 2000000 in
theorem c4c {l m : List Tok} {em : Nat} (hl : l.length ≤ 3000) (hm : m.length ≤ 3000) (hLm : Lay t 0 m em) (h1 : E env (.call 11 [.str s]) [] = some (.ret (tokV (.done l)) [])) (h2 : E env (.call 11 [.str t]) [] = some (.ret (tokV (.done m)) []))
    (hboth : l.length + m.length ≤ 3000 → ∃ B, B = l ++ m.map (shT (s.length + 1)) ∧ E env (.call 11 [.str (s ++ [10] ++ t)]) [] = some (.ret (tokV (.done B)) [])) : E env (.call 4 [.str s, .str t]) [] = some (.ret (.bool true) []) := by
  refine call_ret rfl Try.func4 rfl rfl ?_
  refine ev_seq ?_
  refine ev_region ?_
  refine os_pure rfl rfl rfl ?_
  refine os_nil ?_
  refine ev_seq ?_
  refine ev_seq ?_
  refine ev_region ?_
  refine os_pure rfl rfl rfl ?_
  refine os_pure rfl rfl rfl ?_
  refine os_pure rfl rfl rfl ?_
  refine os_pure rfl rfl rfl ?_
  refine os_guard rfl rfl rfl (fun g16 => ?_) (fun g16 => ?_)
  · exfalso; simp only [ltB, decide_eq_true_eq] at g16; omega
  · refine os_pure rfl rfl rfl ?_
    refine os_pure rfl rfl rfl ?_
    refine os_pure rfl rfl rfl ?_
    refine os_pure rfl rfl rfl ?_
    refine os_pure rfl rfl (wrapI (by omega) (by omega)) ?_
    refine os_pure rfl rfl rfl ?_
    refine os_pure rfl rfl rfl ?_
    refine os_nil ?_
    refine ev_false rfl (by simp only [ltB, decide_eq_false_iff_not]; omega) ?_
    refine ev_skip ?_
    refine ev_seq ?_
    refine ev_region ?_
    refine os_pure rfl rfl rfl ?_
    refine os_quiet rfl rfl rfl rfl rfl (h1) rfl ?_
    refine os_pure rfl rfl rfl ?_
    refine os_pure rfl rfl rfl ?_
    refine os_pure rfl rfl rfl ?_
    refine os_eff rfl rfl rfl ?_
    refine os_pure rfl rfl rfl ?_
    refine os_eff rfl rfl rfl ?_
    refine os_nil ?_
    refine ev_seq ?_
    refine ev_region ?_
    refine os_pure rfl rfl rfl ?_
    refine os_quiet rfl rfl rfl rfl rfl (h2) rfl ?_
    refine os_pure rfl rfl rfl ?_
    refine os_pure rfl rfl rfl ?_
    refine os_pure rfl rfl rfl ?_
    refine os_eff rfl rfl rfl ?_
    refine os_pure rfl rfl rfl ?_
    refine os_eff rfl rfl rfl ?_
    refine os_nil ?_
    refine ev_seq ?_
    refine ev_seq ?_
    refine ev_region ?_
    refine os_pure rfl rfl rfl ?_
    refine os_eff rfl rfl rfl ?_
    refine os_pure rfl rfl rfl ?_
    refine os_pure rfl rfl rfl ?_
    refine os_guard rfl rfl rfl (fun g37 => ?_) (fun g37 => ?_)
    · exfalso; simp [eqB] at g37
    · refine os_pure rfl rfl rfl ?_
      refine os_eff rfl rfl rfl ?_
      refine os_pure rfl rfl rfl ?_
      refine os_pure rfl rfl rfl ?_
      refine os_pure rfl rfl rfl ?_
      refine os_guard rfl rfl rfl (fun g42 => ?_) (fun g42 => ?_)
      · exfalso; simp [eqB] at g42
      · refine os_pure rfl rfl rfl ?_
        refine os_pure rfl rfl rfl ?_
        refine os_pure rfl rfl rfl ?_
        refine os_pure rfl rfl rfl ?_
        refine os_pure rfl rfl (addN (by omega)) ?_
        refine os_pure rfl rfl rfl ?_
        refine os_pure rfl rfl rfl ?_
        refine os_nil ?_
        refine ev_if rfl (fun g49 => ?_) (fun g49 => ?_)
        · refine ev_seq ?_
          refine ev_region ?_
          refine os_call rfl rfl rfl (callVia_eq rfl rfl rfl rfl rfl rfl rfl (awake) rfl rfl rfl) ?_
          refine os_pure rfl rfl rfl ?_
          refine os_nil ?_
          exact ev_ret ⟨_, rfl, rfl⟩
        · replace g49 : l.length + m.length ≤ 3000 := by simp only [ltB, decide_eq_false_iff_not] at g49; omega
          obtain ⟨B, hB, h3⟩ := hboth g49
          have hBl : B.length = l.length + m.length := by rw [hB, List.length_append, List.length_map]
          refine ev_skip ?_
          refine ev_seq ?_
          refine ev_region ?_
          refine os_pure rfl rfl rfl ?_
          refine os_pure rfl rfl (gd_f (by simp only [leB, decide_eq_true_eq]; show ((s.length + 1 : Nat) : Int) ≤ _; omega) rfl) ?_
          refine os_pure rfl rfl rfl ?_
          refine os_pure rfl rfl (gd_f (by simp only [leB, decide_eq_true_eq, List.length_append]; show ((s.length + 1 + t.length : Nat) : Int) ≤ _; omega) rfl) ?_
          refine os_quiet rfl rfl rfl rfl rfl (h3) rfl ?_
          refine os_pure rfl rfl rfl ?_
          refine os_pure rfl rfl rfl ?_
          refine os_pure rfl rfl rfl ?_
          refine os_eff rfl rfl rfl ?_
          refine os_pure rfl rfl rfl ?_
          refine os_eff rfl rfl rfl ?_
          refine os_nil ?_
          refine ev_seq ?_
          refine ev_seq ?_
          refine ev_region ?_
          refine os_pure rfl rfl rfl ?_
          refine os_eff rfl rfl rfl ?_
          refine os_pure rfl rfl rfl ?_
          refine os_pure rfl rfl rfl ?_
          refine os_guard rfl rfl rfl (fun g62 => ?_) (fun g62 => ?_)
          · exfalso; simp [eqB] at g62
          · refine os_pure rfl rfl rfl ?_
            refine os_pure rfl rfl rfl ?_
            refine os_pure rfl rfl rfl ?_
            refine os_pure rfl rfl rfl ?_
            refine os_pure rfl rfl rfl ?_
            refine os_pure rfl rfl rfl ?_
            refine os_pure rfl rfl (addN (by omega)) ?_
            refine os_pure rfl rfl rfl ?_
            refine os_pure rfl rfl rfl ?_
            refine os_nil ?_
            refine ev_false rfl (by rw [hBl]; simp [eqB]) ?_
            refine ev_skip ?_
            refine ev_seq ?_
            refine ev_seq ?_
            refine ev_region ?_
            refine os_pure rfl rfl rfl ?_
            refine os_nil ?_
            refine ev_block ?_
            refine ev_loop rfl ?_
            refine lp_ind (fun k : Nat => [(0, .str s), (5, .slice .sealed l.length (cellsT l)), (7, .slice .sealed m.length (cellsT m)), (9, .slice .sealed B.length (cellsT B)), (11, .int .i64 (k : Nat))]) (fun _ => []) (fun k => k ≤ B.length) (fun k => B.length - k) 0 (Nat.zero_le _) ?_
            intro k hk ih
            refine ev_seq ?_
            refine ev_seq ?_
            refine ev_region ?_
            refine os_pure rfl rfl rfl ?_
            refine os_pure rfl rfl rfl ?_
            refine os_pure rfl rfl rfl ?_
            refine os_pure rfl rfl rfl ?_
            refine os_nil ?_
            refine ev_if rfl (fun g75 => ?_) (fun g75 => ?_)
            · replace g75 : k < B.length := by simpa [ltN] using g75
              obtain ⟨u, rs, huk, hdr⟩ := idxT g75
              refine ev_skip ?_
              refine ev_seq ?_
              refine ev_block ?_
              refine ev_seq ?_
              refine ev_region ?_
              refine os_eff rfl rfl rfl ?_
              refine os_nil ?_
              refine ev_seq ?_
              refine ev_seq ?_
              refine ev_region ?_
              refine os_pure rfl rfl rfl ?_
              refine os_pure rfl rfl rfl ?_
              refine os_pure rfl rfl rfl ?_
              refine os_pure rfl rfl rfl ?_
              refine os_nil ?_
              refine ev_if rfl (fun g81 => ?_) (fun g81 => ?_)
              · replace g81 : k < l.length := by simpa [ltN] using g81
                obtain ⟨v, rv, hvk, hdv⟩ := idxT g81
                obtain rfl : u = v := by rw [hB, List.getElem?_append_left g81, hvk] at huk; exact (Option.some.inj huk).symm
                refine ev_region ?_
                refine os_pure rfl rfl rfl ?_
                refine os_pure rfl rfl rfl ?_
                refine os_pure rfl rfl (gd_f (inR_ok (by omega)) (show forceO (some (V.cptr ((cellsT l).drop ((k : Int).toNat * 4)))) = some (.cptr (tokC u.k u.t u.a u.l ++ rv)) by rw [Int.toNat_natCast, hdv]; rfl)) ?_
                refine os_load rfl rfl rfl (gd_t (leN_ok (by simp [tokC])) rfl) ?_
                refine os_eff rfl rfl rfl ?_
                refine os_nil ?_
                refine ev_seq ?_
                refine ev_region ?_
                refine os_pure rfl rfl rfl ?_
                refine os_pure rfl rfl rfl ?_
                refine os_pure rfl rfl (gd_f (inR_ok (by omega)) (show forceO (some (V.cptr ((cellsT B).drop ((k : Int).toNat * 4)))) = some (.cptr (tokC u.k u.t u.a u.l ++ rs)) by rw [Int.toNat_natCast, hdr]; rfl)) ?_
                refine os_load rfl rfl rfl (gd_t (leN_ok (by simp [tokC])) rfl) ?_
                refine os_eff rfl rfl rfl ?_
                refine os_pure rfl rfl rfl ?_
                refine os_nil ?_
                refine ev_false rfl (by simp [eqB, eqS]) ?_
                refine ev_skip ?_
                refine ev_region ?_
                refine os_pure rfl rfl rfl ?_
                refine os_pure rfl rfl (add1 (by omega)) ?_
                refine os_pure rfl rfl rfl ?_
                refine os_nil ?_
                exact ⟨_, _, rfl, ih (k + 1) (by omega) (by omega)⟩
              · replace g81 : l.length ≤ k := by simpa [ltN] using g81
                have hkm : k - l.length < m.length := by omega
                obtain ⟨v, rv, hvk, hdv⟩ := idxT hkm
                obtain rfl : u = shT (s.length + 1) v := by rw [hB, List.getElem?_append_right g81, List.getElem?_map, hvk] at huk; exact (Option.some.inj huk).symm
                have hva := lay_all hLm _ _ hvk
                refine ev_seq ?_
                refine ev_region ?_
                refine os_pure rfl rfl rfl ?_
                refine os_pure rfl rfl rfl ?_
                refine os_pure rfl rfl rfl ?_
                refine os_pure rfl rfl rfl ?_
                refine os_pure rfl rfl (subN (by omega) (by omega)) ?_
                refine os_pure rfl rfl (gd_f (inR_ok (by omega)) (show forceO (some (V.cptr ((cellsT m).drop (((k - l.length : Nat) : Int).toNat * 4)))) = some (.cptr (tokC v.k v.t v.a v.l ++ rv)) by rw [Int.toNat_natCast, hdv]; rfl)) ?_
                refine os_load rfl rfl rfl (gd_t (leN_ok (by simp [tokC])) rfl) ?_
                refine os_eff rfl rfl rfl ?_
                refine os_nil ?_
                refine ev_region ?_
                refine os_pure rfl rfl rfl ?_
                refine os_eff rfl rfl rfl ?_
                refine os_pure rfl rfl rfl ?_
                refine os_pure rfl rfl rfl ?_
                refine os_pure rfl rfl (addN (by omega)) ?_
                refine os_pure rfl rfl (add1 (by omega)) ?_
                refine os_pure rfl rfl rfl ?_
                refine os_eff rfl rfl rfl ?_
                refine os_nil ?_
                refine ev_seq ?_
                refine ev_region ?_
                refine os_pure rfl rfl rfl ?_
                refine os_pure rfl rfl rfl ?_
                refine os_pure rfl rfl (gd_f (inR_ok (by omega)) (show forceO (some (V.cptr ((cellsT B).drop ((k : Int).toNat * 4)))) = some (.cptr (tokC (shT (s.length + 1) v).k (shT (s.length + 1) v).t (shT (s.length + 1) v).a (shT (s.length + 1) v).l ++ rs)) by rw [Int.toNat_natCast, hdr]; rfl)) ?_
                refine os_load rfl rfl rfl (gd_t (leN_ok (by simp [tokC])) rfl) ?_
                refine os_eff rfl rfl rfl ?_
                refine os_pure rfl rfl rfl ?_
                refine os_nil ?_
                refine ev_false rfl (by simp [eqB, eqS, shT]; omega) ?_
                refine ev_skip ?_
                refine ev_region ?_
                refine os_pure rfl rfl rfl ?_
                refine os_pure rfl rfl (add1 (by omega)) ?_
                refine os_pure rfl rfl rfl ?_
                refine os_nil ?_
                exact ⟨_, _, rfl, ih (k + 1) (by omega) (by omega)⟩
            · refine ev_exit ?_
              refine ev_seq ?_
              refine ev_region ?_
              refine os_call rfl rfl rfl (callVia_eq rfl rfl rfl rfl rfl rfl rfl (awake) rfl rfl rfl) ?_
              refine os_pure rfl rfl rfl ?_
              refine os_nil ?_
              exact ev_ret ⟨_, rfl, rfl⟩

end
theorem c4 (s t : List UInt8) : E env (.call 4 [.str s, .str t]) [] = some (.ret (.bool true) []) := by
  by_cases hst : s.length + t.length ≤ 7999
  · obtain ⟨r1, k1, e1, _, n1⟩ := tokBoth2 s
    obtain ⟨r2, k2, e2, _, n2⟩ := tokBoth2 t
    cases r1 with
    | go x => exact k1.bd.elim
    | err c a => exact c4a hst k2.bd (k1.nz c a rfl) e1 e2
    | done l =>
      cases r2 with
      | go x => exact k2.bd.elim
      | err c a => exact c4b hst k1.bd (k2.nz c a rfl) e1 e2
      | done m =>
        obtain ⟨_, em, hLm, _⟩ := k2.lay m rfl
        refine c4c hst k1.bd k2.bd hLm e1 e2 fun hlm => ⟨_, rfl, ?_⟩
        have hu : s ++ [10] ++ t = s ++ 10 :: t := by simp
        rw [hu]
        obtain ⟨r, g1, g2, g3⟩ := c11 (s := s ++ 10 :: t) (by rw [len_pre]; omega)
        rw [g3, Ends.det _ g1 (parts_ends (n1 (by omega)) (n2 (by omega)) hlm)]
  · refine c4big s t fun h => ?_
    omega

end Go.Proofs.Ytmaaaamfjpjhcaa
