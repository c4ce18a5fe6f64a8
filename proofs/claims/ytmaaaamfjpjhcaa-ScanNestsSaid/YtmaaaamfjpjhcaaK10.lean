/- Texts that were built one by one, joined: W1. -/
import Derived.Test.YtmaaaamfjpjhcaaK9
/- The words. (Printed by a program.) -/
namespace Go.Proofs.Ytmaaaamfjpjhcaa
set_option linter.unusedSimpArgs false
set_option linter.unusedVariables false
set_option linter.unusedSectionVars false
open Go Go.Vm
set_option maxRecDepth 100000
set_option linter.unusedVariables false

theorem c15 : E env (.call 15 []) [] = some (.ret (.slice .sealed wordsL.length (wordsL.map V.str)) []) := (run_chain env).le 9 _ _ _ (by kernel_rfl)
theorem c16 : E env (.call 16 []) [] = some (.ret (.slice .sealed signsL.length (signsL.map V.str)) []) := (run_chain env).le 9 _ _ _ (by kernel_rfl)
theorem wrapU {n : Nat} (hn : 0 < n ∧ n < 1000) : IntKind.wrap .u64 (n : Int) = n := by simp only [IntKind.wrap, IntKind.bits, IntKind.signed]; simp; omega
theorem c20 (i : Int) {n : Nat} (hn : 0 < n ∧ n < 1000) : ∃ r : Nat, r < n ∧ E env (.call 20 [.int .i64 i, .int .i64 n]) [] = some (.ret (.int .i64 (r : Nat)) []) := by
  have h0 : 0 ≤ IntKind.wrap .u64 i := by simp only [IntKind.wrap, IntKind.bits, IntKind.signed]; simp; omega
  have h1 : (IntKind.wrap .u64 i).tmod (IntKind.wrap .u64 (n : Int)) = (IntKind.wrap .u64 i) % (n : Int) := by rw [wrapU hn, Int.tmod_eq_emod_of_nonneg h0]
  obtain ⟨m, hm⟩ : ∃ m, IntKind.wrap .u64 i = m := ⟨_, rfl⟩
  rw [hm] at h0 h1
  have h2 := Int.emod_nonneg m (show (n : Int) ≠ 0 by omega)
  have h3 := Int.emod_lt_of_pos m (show (0 : Int) < n by omega)
  refine ⟨(m % (n : Int)).toNat, by omega, ?_⟩
  have hr : (((m % (n : Int)).toNat : Nat) : Int) = IntKind.wrap .i64 ((IntKind.wrap .u64 i).tmod (IntKind.wrap .u64 (n : Int))) := by
    rw [hm, h1, wrap64 (by omega) (by omega)]; omega
  refine call_ret rfl Try.func20 rfl rfl ?_
  refine ev_seq ?_
  refine ev_region ?_
  refine os_pure rfl rfl rfl ?_
  refine os_nil ?_
  refine ev_seq ?_
  refine ev_region ?_
  refine os_pure rfl rfl rfl ?_
  refine os_pure rfl rfl rfl ?_
  refine os_pure rfl rfl rfl ?_
  refine os_pure rfl rfl rfl ?_
  refine os_pure rfl rfl (gd_f (by rw [wrapU hn]; simp only [eqB]; simp; omega) rfl) ?_
  refine os_pure rfl rfl rfl ?_
  refine os_pure rfl rfl rfl ?_
  refine os_nil ?_
  rw [hr]
  exact ev_ret ⟨_, rfl, rfl⟩

/-- a source has just these tokens -/
def chkT (s : List UInt8) (l : List Tok) : Bool := match runM s 5 ⟨0, [], []⟩ with | some (.done l') => decide (l' = l) | _ => false
theorem chk_tokens {s : List UInt8} {l : List Tok} (h : chkT s l = true) (hs : s.length ≤ 8000) : E env (.call 11 [.str s]) [] = some (.ret (tokV (.done l)) []) := by
  unfold chkT at h
  split at h
  · rename_i l' hr
    have hl := of_decide_eq_true h
    subst hl
    obtain ⟨r, h1, h2, h3⟩ := c11 hs
    rw [h3, Ends.det s h1 (runM_ends s hr)]
  · cases h
theorem words1 : (wordsL.all fun w => chkT w [⟨9, w, 0, w.length⟩]) = true := by kernel_rfl
theorem words2 : (wordsL.all fun w => chkT (w ++ [120]) [⟨1, w ++ [120], 0, w.length + 1⟩]) = true := by kernel_rfl
theorem words3 : (wordsL.all fun w => Nat.ble w.length 100) = true := by kernel_rfl
theorem signs2 : (signsL.all fun a => signsL.all fun b => chkT (a ++ [32] ++ b) [⟨8, a, 0, a.length⟩, ⟨8, b, a.length + 1, b.length⟩]) = true := by kernel_rfl
theorem signs3 : (signsL.all fun w => Nat.ble w.length 100) = true := by kernel_rfl
theorem all_getD {l : List (List UInt8)} {p : List UInt8 → Bool} (h : l.all p = true) {k : Nat} (hk : k < l.length) : p (l.getD k []) = true := by
  rw [List.all_eq_true] at h
  rw [List.getD_eq_getElem?_getD, List.getElem?_eq_getElem hk]
  exact h _ (List.getElem_mem hk)
set_option maxHeartbeats 2000000 in
theorem c6 (i j : Int) : E env (.call 6 [.int .i64 i, .int .i64 j]) [] = some (.ret (.bool true) []) := by
  obtain ⟨rw_, hw2, hw1⟩ := c20 i (n := 32) (by decide)
  obtain ⟨ra, ha2, ha1⟩ := c20 i (n := 27) (by decide)
  obtain ⟨rb, hb2, hb1⟩ := c20 j (n := 27) (by decide)
  have q1 := all_getD words1 (k := rw_) hw2
  have q2 := all_getD words2 (k := rw_) hw2
  have q3 := all_getD words3 (k := rw_) hw2
  have q4 := all_getD (all_getD signs2 (k := ra) ha2) (k := rb) hb2
  have q5 := all_getD signs3 (k := ra) ha2
  have q6 := all_getD signs3 (k := rb) hb2
  simp only [Nat.ble_eq] at q3 q5 q6
  obtain ⟨w, hw⟩ : ∃ w, wordsL.getD rw_ [] = w := ⟨_, rfl⟩
  obtain ⟨a, ha⟩ : ∃ a, signsL.getD ra [] = a := ⟨_, rfl⟩
  obtain ⟨b, hb⟩ : ∃ b, signsL.getD rb [] = b := ⟨_, rfl⟩
  rw [hw] at q1 q2 q3
  rw [ha] at q4 q5
  rw [hb] at q4 q6
  have k1 := chk_tokens q1 (by omega)
  have k2 := chk_tokens q2 (by rw [List.length_append]; show w.length + 1 ≤ _; omega)
  have k3 := chk_tokens q4 (by rw [List.length_append, List.length_append]; show a.length + 1 + b.length ≤ _; omega)
  refine call_ret rfl Try.func6 rfl rfl ?_
  refine ev_seq ?_
  refine ev_region ?_
  refine os_pure rfl rfl rfl ?_
  refine os_nil ?_
  refine ev_seq ?_
  refine ev_region ?_
  refine os_call rfl rfl rfl (callVia_eq rfl rfl rfl rfl rfl rfl rfl (c15) rfl rfl rfl) ?_
  refine os_call rfl rfl rfl (callVia_eq rfl rfl rfl rfl rfl rfl rfl (c16) rfl rfl rfl) ?_
  refine os_pure rfl rfl rfl ?_
  refine os_pure rfl rfl rfl ?_
  refine os_nil ?_
  refine ev_seq ?_
  refine ev_seq ?_
  refine ev_region ?_
  refine os_pure rfl rfl rfl ?_
  refine os_quiet rfl rfl rfl rfl rfl (c18) rfl ?_
  refine os_call rfl rfl rfl (callVia_eq rfl rfl rfl rfl rfl rfl rfl (c17 wordsL (by decide)) rfl rfl rfl) ?_
  refine os_pure rfl rfl rfl ?_
  refine os_pure rfl rfl rfl ?_
  refine os_guard rfl rfl rfl (fun g22 => ?_) (fun g22 => ?_)
  · exact absurd g22 (by simp)
  · refine os_pure rfl rfl rfl ?_
    refine os_quiet rfl rfl rfl rfl rfl (c19) rfl ?_
    refine os_call rfl rfl rfl (callVia_eq rfl rfl rfl rfl rfl rfl rfl (c17 signsL (by decide)) rfl rfl rfl) ?_
    refine os_pure rfl rfl rfl ?_
    refine os_pure rfl rfl rfl ?_
    refine os_nil ?_
    refine ev_false rfl (rfl) ?_
    refine ev_skip ?_
    refine ev_seq ?_
    refine ev_region ?_
    refine os_pure rfl rfl rfl ?_
    refine os_pure rfl rfl rfl ?_
    refine os_pure rfl rfl rfl ?_
    refine os_pure rfl rfl rfl ?_
    refine os_quiet rfl rfl rfl rfl rfl (hw1) rfl ?_
    refine os_pure rfl rfl (gd_f (inR_ok (by show _ < 32; exact hw2)) rfl) ?_
    refine os_load rfl rfl rfl ((ldc9 (l := wordsL) hw2).trans (by rw [hw])) ?_
    refine os_pure rfl rfl rfl ?_
    refine os_nil ?_
    refine ev_seq ?_
    refine ev_region ?_
    refine os_pure rfl rfl rfl ?_
    refine os_pure rfl rfl rfl ?_
    refine os_pure rfl rfl rfl ?_
    refine os_pure rfl rfl rfl ?_
    refine os_quiet rfl rfl rfl rfl rfl (ha1) rfl ?_
    refine os_pure rfl rfl (gd_f (inR_ok (by show _ < 27; exact ha2)) rfl) ?_
    refine os_load rfl rfl rfl ((ldc9 (l := signsL) ha2).trans (by rw [ha])) ?_
    refine os_pure rfl rfl rfl ?_
    refine os_pure rfl rfl rfl ?_
    refine os_pure rfl rfl rfl ?_
    refine os_pure rfl rfl rfl ?_
    refine os_quiet rfl rfl rfl rfl rfl (hb1) rfl ?_
    refine os_pure rfl rfl (gd_f (inR_ok (by show _ < 27; exact hb2)) rfl) ?_
    refine os_load rfl rfl rfl ((ldc9 (l := signsL) hb2).trans (by rw [hb])) ?_
    refine os_pure rfl rfl rfl ?_
    refine os_pure rfl rfl rfl ?_
    refine os_nil ?_
    refine ev_seq ?_
    refine ev_region ?_
    refine os_pure rfl rfl rfl ?_
    refine os_quiet rfl rfl rfl rfl rfl (k1) rfl ?_
    refine os_pure rfl rfl rfl ?_
    refine os_pure rfl rfl rfl ?_
    refine os_pure rfl rfl rfl ?_
    refine os_eff rfl rfl rfl ?_
    refine os_pure rfl rfl rfl ?_
    refine os_eff rfl rfl rfl ?_
    refine os_nil ?_
    refine ev_seq ?_
    refine ev_region ?_
    refine os_pure rfl rfl rfl ?_
    refine os_pure rfl rfl (gd_f (by simp only [leB, decide_eq_true_eq]; show ((w.length + 1 : Nat) : Int) ≤ _; omega) rfl) ?_
    refine os_quiet rfl rfl rfl rfl rfl (k2) rfl ?_
    refine os_pure rfl rfl rfl ?_
    refine os_pure rfl rfl rfl ?_
    refine os_pure rfl rfl rfl ?_
    refine os_eff rfl rfl rfl ?_
    refine os_pure rfl rfl rfl ?_
    refine os_eff rfl rfl rfl ?_
    refine os_nil ?_
    refine ev_seq ?_
    refine ev_region ?_
    refine os_pure rfl rfl rfl ?_
    refine os_pure rfl rfl (gd_f (by simp only [leB, decide_eq_true_eq]; show ((a.length + 1 : Nat) : Int) ≤ _; omega) rfl) ?_
    refine os_pure rfl rfl rfl ?_
    refine os_pure rfl rfl (gd_f (by simp only [leB, decide_eq_true_eq, List.length_append]; show ((a.length + 1 + b.length : Nat) : Int) ≤ _; omega) rfl) ?_
    refine os_quiet rfl rfl rfl rfl rfl (k3) rfl ?_
    refine os_pure rfl rfl rfl ?_
    refine os_pure rfl rfl rfl ?_
    refine os_pure rfl rfl rfl ?_
    refine os_eff rfl rfl rfl ?_
    refine os_pure rfl rfl rfl ?_
    refine os_eff rfl rfl rfl ?_
    refine os_nil ?_
    refine ev_seq ?_
    refine ev_seq ?_
    refine ev_region ?_
    refine os_pure rfl rfl rfl ?_
    refine os_eff rfl rfl rfl ?_
    refine os_pure rfl rfl rfl ?_
    refine os_pure rfl rfl rfl ?_
    refine os_guard rfl rfl rfl (fun g71 => ?_) (fun g71 => ?_)
    · exfalso; simp [eqB] at g71
    · refine os_pure rfl rfl rfl ?_
      refine os_eff rfl rfl rfl ?_
      refine os_pure rfl rfl rfl ?_
      refine os_pure rfl rfl rfl ?_
      refine os_pure rfl rfl rfl ?_
      refine os_guard rfl rfl rfl (fun g76 => ?_) (fun g76 => ?_)
      · exfalso; simp [eqB] at g76
      · refine os_pure rfl rfl rfl ?_
        refine os_eff rfl rfl rfl ?_
        refine os_pure rfl rfl rfl ?_
        refine os_pure rfl rfl rfl ?_
        refine os_pure rfl rfl rfl ?_
        refine os_guard rfl rfl rfl (fun g81 => ?_) (fun g81 => ?_)
        · exfalso; simp [eqB] at g81
        · refine os_pure rfl rfl rfl ?_
          refine os_pure rfl rfl rfl ?_
          refine os_pure rfl rfl rfl ?_
          refine os_pure rfl rfl rfl ?_
          refine os_pure rfl rfl rfl ?_
          refine os_guard rfl rfl rfl (fun g86 => ?_) (fun g86 => ?_)
          · exfalso; simp [eqB] at g86
          · refine os_pure rfl rfl rfl ?_
            refine os_pure rfl rfl rfl ?_
            refine os_pure rfl rfl rfl ?_
            refine os_pure rfl rfl rfl ?_
            refine os_pure rfl rfl rfl ?_
            refine os_guard rfl rfl rfl (fun g91 => ?_) (fun g91 => ?_)
            · exfalso; simp [eqB] at g91
            · refine os_pure rfl rfl rfl ?_
              refine os_pure rfl rfl rfl ?_
              refine os_pure rfl rfl rfl ?_
              refine os_pure rfl rfl rfl ?_
              refine os_nil ?_
              refine ev_false rfl (by simp [eqB]) ?_
              refine ev_skip ?_
              refine ev_seq ?_
              refine ev_region ?_
              refine os_pure rfl rfl rfl ?_
              refine os_pure rfl rfl (gd_f (inR_ok (i := 0) (by show 0 < 1; decide)) rfl) ?_
              refine os_pure rfl rfl rfl ?_
              refine os_eff rfl rfl rfl ?_
              refine os_pure rfl rfl rfl ?_
              refine os_pure rfl rfl rfl ?_
              refine os_guard rfl rfl rfl (fun g101 => ?_) (fun g101 => ?_)
              · refine os_pure rfl rfl rfl ?_
                refine os_pure rfl rfl (gd_f (inR_ok (i := 0) (by show 0 < 1; decide)) rfl) ?_
                refine os_pure rfl rfl rfl ?_
                refine os_eff rfl rfl rfl ?_
                refine os_pure rfl rfl rfl ?_
                refine os_pure rfl rfl rfl ?_
                refine os_pure rfl rfl rfl ?_
                refine os_pure rfl rfl rfl ?_
                refine os_guard rfl rfl rfl (fun g109 => ?_) (fun g109 => ?_)
                · refine os_pure rfl rfl rfl ?_
                  refine os_pure rfl rfl (gd_f (inR_ok (i := 0) (by show 0 < 1; decide)) rfl) ?_
                  refine os_pure rfl rfl rfl ?_
                  refine os_eff rfl rfl rfl ?_
                  refine os_pure rfl rfl rfl ?_
                  refine os_pure rfl rfl rfl ?_
                  refine os_pure rfl rfl rfl ?_
                  refine os_guard rfl rfl rfl (fun g116 => ?_) (fun g116 => ?_)
                  · refine os_pure rfl rfl rfl ?_
                    refine os_pure rfl rfl (gd_f (inR_ok (i := 0) (by show 0 < 1; decide)) rfl) ?_
                    refine os_pure rfl rfl rfl ?_
                    refine os_eff rfl rfl rfl ?_
                    refine os_pure rfl rfl rfl ?_
                    refine os_pure rfl rfl (gd_f (by simp only [leB, decide_eq_true_eq]; show ((w.length + 1 : Nat) : Int) ≤ _; omega) rfl) ?_
                    refine os_pure rfl rfl rfl ?_
                    refine os_pure rfl rfl rfl ?_
                    refine os_pure rfl rfl rfl ?_
                    refine os_guard rfl rfl rfl (fun g125 => ?_) (fun g125 => ?_)
                    · refine os_pure rfl rfl rfl ?_
                      refine os_pure rfl rfl (gd_f (inR_ok (i := 0) (by show 0 < 2; decide)) rfl) ?_
                      refine os_pure rfl rfl rfl ?_
                      refine os_eff rfl rfl rfl ?_
                      refine os_pure rfl rfl rfl ?_
                      refine os_pure rfl rfl rfl ?_
                      refine os_pure rfl rfl rfl ?_
                      refine os_guard rfl rfl rfl (fun g132 => ?_) (fun g132 => ?_)
                      · refine os_pure rfl rfl rfl ?_
                        refine os_pure rfl rfl (gd_f (inR_ok (i := 0) (by show 0 < 2; decide)) rfl) ?_
                        refine os_pure rfl rfl rfl ?_
                        refine os_eff rfl rfl rfl ?_
                        refine os_pure rfl rfl rfl ?_
                        refine os_pure rfl rfl rfl ?_
                        refine os_pure rfl rfl rfl ?_
                        refine os_pure rfl rfl rfl ?_
                        refine os_guard rfl rfl rfl (fun g140 => ?_) (fun g140 => ?_)
                        · refine os_pure rfl rfl rfl ?_
                          refine os_pure rfl rfl (gd_f (inR_ok (i := 1) (by show 1 < 2; decide)) rfl) ?_
                          refine os_pure rfl rfl rfl ?_
                          refine os_eff rfl rfl rfl ?_
                          refine os_pure rfl rfl rfl ?_
                          refine os_pure rfl rfl rfl ?_
                          refine os_pure rfl rfl rfl ?_
                          refine os_pure rfl rfl rfl ?_
                          refine os_guard rfl rfl rfl (fun g148 => ?_) (fun g148 => ?_)
                          · refine os_call rfl rfl rfl (callVia_eq rfl rfl rfl rfl rfl rfl rfl (awake) rfl rfl rfl) ?_
                            refine os_pure rfl rfl rfl ?_
                            refine os_pure rfl rfl rfl ?_
                            refine os_nil ?_
                            exact ev_ret ⟨_, rfl, rfl⟩
                          · exfalso; simp [eqS] at g148
                        · exfalso; simp [eqS] at g140
                      · exfalso; simp [eqB] at g132
                    · exfalso; simp [eqS] at g125
                  · exfalso; simp [eqB] at g116
                · exfalso; simp [eqS] at g109
              · exfalso; simp [eqB] at g101

end Go.Proofs.Ytmaaaamfjpjhcaa
