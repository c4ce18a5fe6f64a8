/- Texts that were built one by one, joined: S1 S2. -/
import Derived.Test.YtmaaaamfjpjhcaaK12
import Derived.ProofKit
/- Literals in literals. (Printed by a program.) -/
namespace Go.Proofs.Ytmaaaamfjpjhcaa
set_option linter.unusedSimpArgs false
set_option linter.unusedVariables false
set_option linter.unusedSectionVars false
open Go Go.Vm
set_option maxRecDepth 100000
set_option linter.unusedVariables false

/-- calls that are known -/
def spec3 : Task → Hp → Option Out
  | .call 11 [.str s], [] => match Nat.ble s.length 8000 with
    | true => match runM s 400 ⟨0, [], []⟩ with
      | some (.done l) => some (.ret (tokV (.done l)) [])
      | some (.err c a) => some (.ret (tokV (.err c a)) [])
      | _ => none
    | false => none
  | .call 14 [], [] => some (.ret (.bool true) [])
  | _, _ => none
theorem spec3_ok {t : Task} {H : Hp} {o : Out} (h : spec3 t H = some o) : E env t H = some o := by
  unfold spec3 at h
  split at h
  · rename_i s
    split at h
    · rename_i hs
      have hs := Nat.le_of_ble_eq_true hs
      obtain ⟨r, h1, h2, h3⟩ := c11 hs
      split at h
      · rename_i l hr; cases h; rw [h3, Ends.det s h1 (runM_ends s hr)]
      · rename_i c a hr; cases h; rw [h3, Ends.det s h1 (runM_ends s hr)]
      · cases h
    · cases h
  · cases h; exact awake
  · cases h
noncomputable def orc3 : Nat → Orc
  | 0 => fun _ _ => none
  | n + 1 => fun t H => match spec3 t H with
    | some o => some o
    | none => Vm.step env (orc3 n) t H
theorem orc3_le : ∀ n, OLe (orc3 n) (E env)
  | 0 => fun t H o h => by cases h
  | n + 1 => fun t H o h => by
    simp only [orc3] at h
    split at h
    · rename_i o' hs; cases h; exact spec3_ok hs
    · exact E_step (step_mono (orc3_le n) t H o h)
noncomputable def rest5 : Code := match Try.f5.body with
  | some (.seq _ (.seq _ c)) => c
  | _ => .skip
def isTrueR : Option Res → Bool
  | some (.ret, fr, _) => (match Vm.look 4 fr with | .bool b => b | _ => false)
  | _ => false
noncomputable def ok5 (n k : Nat) : Bool := isTrueR (evalCode env (orc3 60) 5 0 rest5 [(6, .int .i64 (k : Nat)), (5, .int .i64 (n : Nat)), (4, .bool false)] [])
set_option maxRecDepth 1000000 in
theorem ok_0_0 : ok5 0 0 = true := by kernel_rfl
set_option maxRecDepth 1000000 in
theorem ok_0_1 : ok5 0 1 = true := by kernel_rfl
set_option maxRecDepth 1000000 in
theorem ok_0_2 : ok5 0 2 = true := by kernel_rfl
set_option maxRecDepth 1000000 in
theorem ok_0_3 : ok5 0 3 = true := by kernel_rfl
set_option maxRecDepth 1000000 in
theorem ok_1_0 : ok5 1 0 = true := by kernel_rfl
set_option maxRecDepth 1000000 in
theorem ok_1_1 : ok5 1 1 = true := by kernel_rfl
set_option maxRecDepth 1000000 in
theorem ok_1_2 : ok5 1 2 = true := by kernel_rfl
set_option maxRecDepth 1000000 in
theorem ok_1_3 : ok5 1 3 = true := by kernel_rfl
set_option maxRecDepth 1000000 in
theorem ok_2_0 : ok5 2 0 = true := by kernel_rfl
set_option maxRecDepth 1000000 in
theorem ok_2_1 : ok5 2 1 = true := by kernel_rfl
set_option maxRecDepth 1000000 in
theorem ok_2_2 : ok5 2 2 = true := by kernel_rfl
set_option maxRecDepth 1000000 in
theorem ok_2_3 : ok5 2 3 = true := by kernel_rfl
set_option maxRecDepth 1000000 in
theorem ok_3_0 : ok5 3 0 = true := by kernel_rfl
set_option maxRecDepth 1000000 in
theorem ok_3_1 : ok5 3 1 = true := by kernel_rfl
set_option maxRecDepth 1000000 in
theorem ok_3_2 : ok5 3 2 = true := by kernel_rfl
set_option maxRecDepth 1000000 in
theorem ok_3_3 : ok5 3 3 = true := by kernel_rfl
set_option maxRecDepth 1000000 in
theorem ok_4_0 : ok5 4 0 = true := by kernel_rfl
set_option maxRecDepth 1000000 in
theorem ok_4_1 : ok5 4 1 = true := by kernel_rfl
set_option maxRecDepth 1000000 in
theorem ok_4_2 : ok5 4 2 = true := by kernel_rfl
set_option maxRecDepth 1000000 in
theorem ok_4_3 : ok5 4 3 = true := by kernel_rfl
set_option maxRecDepth 1000000 in
theorem ok_5_0 : ok5 5 0 = true := by kernel_rfl
set_option maxRecDepth 1000000 in
theorem ok_5_1 : ok5 5 1 = true := by kernel_rfl
set_option maxRecDepth 1000000 in
theorem ok_5_2 : ok5 5 2 = true := by kernel_rfl
set_option maxRecDepth 1000000 in
theorem ok_5_3 : ok5 5 3 = true := by kernel_rfl
set_option maxRecDepth 1000000 in
theorem ok_6_0 : ok5 6 0 = true := by kernel_rfl
set_option maxRecDepth 1000000 in
theorem ok_6_1 : ok5 6 1 = true := by kernel_rfl
set_option maxRecDepth 1000000 in
theorem ok_6_2 : ok5 6 2 = true := by kernel_rfl
set_option maxRecDepth 1000000 in
theorem ok_6_3 : ok5 6 3 = true := by kernel_rfl
set_option maxRecDepth 1000000 in
theorem ok_7_0 : ok5 7 0 = true := by kernel_rfl
set_option maxRecDepth 1000000 in
theorem ok_7_1 : ok5 7 1 = true := by kernel_rfl
set_option maxRecDepth 1000000 in
theorem ok_7_2 : ok5 7 2 = true := by kernel_rfl
set_option maxRecDepth 1000000 in
theorem ok_7_3 : ok5 7 3 = true := by kernel_rfl
set_option maxRecDepth 1000000 in
theorem ok_8_0 : ok5 8 0 = true := by kernel_rfl
set_option maxRecDepth 1000000 in
theorem ok_8_1 : ok5 8 1 = true := by kernel_rfl
set_option maxRecDepth 1000000 in
theorem ok_8_2 : ok5 8 2 = true := by kernel_rfl
set_option maxRecDepth 1000000 in
theorem ok_8_3 : ok5 8 3 = true := by kernel_rfl
set_option maxRecDepth 1000000 in
theorem ok_9_0 : ok5 9 0 = true := by kernel_rfl
set_option maxRecDepth 1000000 in
theorem ok_9_1 : ok5 9 1 = true := by kernel_rfl
set_option maxRecDepth 1000000 in
theorem ok_9_2 : ok5 9 2 = true := by kernel_rfl
set_option maxRecDepth 1000000 in
theorem ok_9_3 : ok5 9 3 = true := by kernel_rfl
set_option maxRecDepth 1000000 in
theorem ok_10_0 : ok5 10 0 = true := by kernel_rfl
set_option maxRecDepth 1000000 in
theorem ok_10_1 : ok5 10 1 = true := by kernel_rfl
set_option maxRecDepth 1000000 in
theorem ok_10_2 : ok5 10 2 = true := by kernel_rfl
set_option maxRecDepth 1000000 in
theorem ok_10_3 : ok5 10 3 = true := by kernel_rfl
set_option maxRecDepth 1000000 in
theorem ok_11_0 : ok5 11 0 = true := by kernel_rfl
set_option maxRecDepth 1000000 in
theorem ok_11_1 : ok5 11 1 = true := by kernel_rfl
set_option maxRecDepth 1000000 in
theorem ok_11_2 : ok5 11 2 = true := by kernel_rfl
set_option maxRecDepth 1000000 in
theorem ok_11_3 : ok5 11 3 = true := by kernel_rfl
set_option maxRecDepth 1000000 in
theorem ok_12_0 : ok5 12 0 = true := by kernel_rfl
set_option maxRecDepth 1000000 in
theorem ok_12_1 : ok5 12 1 = true := by kernel_rfl
set_option maxRecDepth 1000000 in
theorem ok_12_2 : ok5 12 2 = true := by kernel_rfl
set_option maxRecDepth 1000000 in
theorem ok_12_3 : ok5 12 3 = true := by kernel_rfl
set_option maxRecDepth 1000000 in
theorem ok_13_0 : ok5 13 0 = true := by kernel_rfl
set_option maxRecDepth 1000000 in
theorem ok_13_1 : ok5 13 1 = true := by kernel_rfl
set_option maxRecDepth 1000000 in
theorem ok_13_2 : ok5 13 2 = true := by kernel_rfl
set_option maxRecDepth 1000000 in
theorem ok_13_3 : ok5 13 3 = true := by kernel_rfl
set_option maxRecDepth 1000000 in
theorem ok_14_0 : ok5 14 0 = true := by kernel_rfl
set_option maxRecDepth 1000000 in
theorem ok_14_1 : ok5 14 1 = true := by kernel_rfl
set_option maxRecDepth 1000000 in
theorem ok_14_2 : ok5 14 2 = true := by kernel_rfl
set_option maxRecDepth 1000000 in
theorem ok_14_3 : ok5 14 3 = true := by kernel_rfl
set_option maxRecDepth 1000000 in
theorem ok_15_0 : ok5 15 0 = true := by kernel_rfl
set_option maxRecDepth 1000000 in
theorem ok_15_1 : ok5 15 1 = true := by kernel_rfl
set_option maxRecDepth 1000000 in
theorem ok_15_2 : ok5 15 2 = true := by kernel_rfl
set_option maxRecDepth 1000000 in
theorem ok_15_3 : ok5 15 3 = true := by kernel_rfl
set_option maxRecDepth 1000000 in
theorem ok_16_0 : ok5 16 0 = true := by kernel_rfl
set_option maxRecDepth 1000000 in
theorem ok_16_1 : ok5 16 1 = true := by kernel_rfl
set_option maxRecDepth 1000000 in
theorem ok_16_2 : ok5 16 2 = true := by kernel_rfl
set_option maxRecDepth 1000000 in
theorem ok_16_3 : ok5 16 3 = true := by kernel_rfl
set_option maxRecDepth 1000000 in
theorem ok_17_0 : ok5 17 0 = true := by kernel_rfl
set_option maxRecDepth 1000000 in
theorem ok_17_1 : ok5 17 1 = true := by kernel_rfl
set_option maxRecDepth 1000000 in
theorem ok_17_2 : ok5 17 2 = true := by kernel_rfl
set_option maxRecDepth 1000000 in
theorem ok_17_3 : ok5 17 3 = true := by kernel_rfl
set_option maxRecDepth 1000000 in
theorem ok_18_0 : ok5 18 0 = true := by kernel_rfl
set_option maxRecDepth 1000000 in
theorem ok_18_1 : ok5 18 1 = true := by kernel_rfl
set_option maxRecDepth 1000000 in
theorem ok_18_2 : ok5 18 2 = true := by kernel_rfl
set_option maxRecDepth 1000000 in
theorem ok_18_3 : ok5 18 3 = true := by kernel_rfl
set_option maxRecDepth 1000000 in
theorem ok_19_0 : ok5 19 0 = true := by kernel_rfl
set_option maxRecDepth 1000000 in
theorem ok_19_1 : ok5 19 1 = true := by kernel_rfl
set_option maxRecDepth 1000000 in
theorem ok_19_2 : ok5 19 2 = true := by kernel_rfl
set_option maxRecDepth 1000000 in
theorem ok_19_3 : ok5 19 3 = true := by kernel_rfl
theorem okAll {n k : Nat} (hn : n < 20) (hk : k < 4) : ok5 n k = true := by
  obtain rfl | rfl | rfl | rfl | rfl | rfl | rfl | rfl | rfl | rfl | rfl | rfl | rfl | rfl | rfl | rfl | rfl | rfl | rfl | rfl : n = 0 ∨ n = 1 ∨ n = 2 ∨ n = 3 ∨ n = 4 ∨ n = 5 ∨ n = 6 ∨ n = 7 ∨ n = 8 ∨ n = 9 ∨ n = 10 ∨ n = 11 ∨ n = 12 ∨ n = 13 ∨ n = 14 ∨ n = 15 ∨ n = 16 ∨ n = 17 ∨ n = 18 ∨ n = 19 := by omega
  · obtain rfl | rfl | rfl | rfl : k = 0 ∨ k = 1 ∨ k = 2 ∨ k = 3 := by omega
    · exact ok_0_0
    · exact ok_0_1
    · exact ok_0_2
    · exact ok_0_3
  · obtain rfl | rfl | rfl | rfl : k = 0 ∨ k = 1 ∨ k = 2 ∨ k = 3 := by omega
    · exact ok_1_0
    · exact ok_1_1
    · exact ok_1_2
    · exact ok_1_3
  · obtain rfl | rfl | rfl | rfl : k = 0 ∨ k = 1 ∨ k = 2 ∨ k = 3 := by omega
    · exact ok_2_0
    · exact ok_2_1
    · exact ok_2_2
    · exact ok_2_3
  · obtain rfl | rfl | rfl | rfl : k = 0 ∨ k = 1 ∨ k = 2 ∨ k = 3 := by omega
    · exact ok_3_0
    · exact ok_3_1
    · exact ok_3_2
    · exact ok_3_3
  · obtain rfl | rfl | rfl | rfl : k = 0 ∨ k = 1 ∨ k = 2 ∨ k = 3 := by omega
    · exact ok_4_0
    · exact ok_4_1
    · exact ok_4_2
    · exact ok_4_3
  · obtain rfl | rfl | rfl | rfl : k = 0 ∨ k = 1 ∨ k = 2 ∨ k = 3 := by omega
    · exact ok_5_0
    · exact ok_5_1
    · exact ok_5_2
    · exact ok_5_3
  · obtain rfl | rfl | rfl | rfl : k = 0 ∨ k = 1 ∨ k = 2 ∨ k = 3 := by omega
    · exact ok_6_0
    · exact ok_6_1
    · exact ok_6_2
    · exact ok_6_3
  · obtain rfl | rfl | rfl | rfl : k = 0 ∨ k = 1 ∨ k = 2 ∨ k = 3 := by omega
    · exact ok_7_0
    · exact ok_7_1
    · exact ok_7_2
    · exact ok_7_3
  · obtain rfl | rfl | rfl | rfl : k = 0 ∨ k = 1 ∨ k = 2 ∨ k = 3 := by omega
    · exact ok_8_0
    · exact ok_8_1
    · exact ok_8_2
    · exact ok_8_3
  · obtain rfl | rfl | rfl | rfl : k = 0 ∨ k = 1 ∨ k = 2 ∨ k = 3 := by omega
    · exact ok_9_0
    · exact ok_9_1
    · exact ok_9_2
    · exact ok_9_3
  · obtain rfl | rfl | rfl | rfl : k = 0 ∨ k = 1 ∨ k = 2 ∨ k = 3 := by omega
    · exact ok_10_0
    · exact ok_10_1
    · exact ok_10_2
    · exact ok_10_3
  · obtain rfl | rfl | rfl | rfl : k = 0 ∨ k = 1 ∨ k = 2 ∨ k = 3 := by omega
    · exact ok_11_0
    · exact ok_11_1
    · exact ok_11_2
    · exact ok_11_3
  · obtain rfl | rfl | rfl | rfl : k = 0 ∨ k = 1 ∨ k = 2 ∨ k = 3 := by omega
    · exact ok_12_0
    · exact ok_12_1
    · exact ok_12_2
    · exact ok_12_3
  · obtain rfl | rfl | rfl | rfl : k = 0 ∨ k = 1 ∨ k = 2 ∨ k = 3 := by omega
    · exact ok_13_0
    · exact ok_13_1
    · exact ok_13_2
    · exact ok_13_3
  · obtain rfl | rfl | rfl | rfl : k = 0 ∨ k = 1 ∨ k = 2 ∨ k = 3 := by omega
    · exact ok_14_0
    · exact ok_14_1
    · exact ok_14_2
    · exact ok_14_3
  · obtain rfl | rfl | rfl | rfl : k = 0 ∨ k = 1 ∨ k = 2 ∨ k = 3 := by omega
    · exact ok_15_0
    · exact ok_15_1
    · exact ok_15_2
    · exact ok_15_3
  · obtain rfl | rfl | rfl | rfl : k = 0 ∨ k = 1 ∨ k = 2 ∨ k = 3 := by omega
    · exact ok_16_0
    · exact ok_16_1
    · exact ok_16_2
    · exact ok_16_3
  · obtain rfl | rfl | rfl | rfl : k = 0 ∨ k = 1 ∨ k = 2 ∨ k = 3 := by omega
    · exact ok_17_0
    · exact ok_17_1
    · exact ok_17_2
    · exact ok_17_3
  · obtain rfl | rfl | rfl | rfl : k = 0 ∨ k = 1 ∨ k = 2 ∨ k = 3 := by omega
    · exact ok_18_0
    · exact ok_18_1
    · exact ok_18_2
    · exact ok_18_3
  · obtain rfl | rfl | rfl | rfl : k = 0 ∨ k = 1 ∨ k = 2 ∨ k = 3 := by omega
    · exact ok_19_0
    · exact ok_19_1
    · exact ok_19_2
    · exact ok_19_3
theorem nests {n k : Nat} (hn : n < 20) (hk : k < 4) : Ev env (E env) 5 0 rest5 [(6, .int .i64 (k : Nat)), (5, .int .i64 (n : Nat)), (4, .bool false)] [] (RetK env 0 [.tmp 4] (env.tags 5) (.bool true) []) := by
  have h := okAll hn hk
  unfold ok5 at h
  cases hr : evalCode env (orc3 60) 5 0 rest5 [(6, .int .i64 (k : Nat)), (5, .int .i64 (n : Nat)), (4, .bool false)] [] with
  | none => rw [hr] at h; cases h
  | some r =>
    rw [hr] at h
    obtain ⟨e, fr, H⟩ := r
    refine ⟨_, evalCode_mono (orc3_le 60) hr, ?_⟩
    cases e with
    | ret =>
      simp only [isTrueR] at h
      split at h
      · rename_i b hb
        subst h
        exact ⟨.bool true, by show some (Vm.look 4 fr) = _; rw [hb], rfl⟩
      · cases h
    | _ => cases h
theorem mod5 {d : Int} (hd : 0 ≤ d ∧ d < 256) {m : Nat} (hm : 0 < m ∧ m < 1000) : ∃ n : Nat, n < m ∧ IntKind.wrap .i64 (d.tmod (m : Int)) = (n : Int) := by
  have h1 : d.tmod (m : Int) = d % (m : Int) := Int.tmod_eq_emod_of_nonneg hd.1
  have h2 := Int.emod_nonneg d (show (m : Int) ≠ 0 by omega)
  have h3 := Int.emod_lt_of_pos d (show (0 : Int) < m by omega)
  have h4 : d % (m : Int) < 1000 := by have := Int.emod_lt_of_pos d (show (0 : Int) < m by omega); omega
  rw [h1, wrap64 (by omega) (by omega)]
  exact ⟨(d % (m : Int)).toNat, by omega, by omega⟩
theorem c5 {d p : Int} (hd : 0 ≤ d ∧ d < 256) (hp : 0 ≤ p ∧ p < 256) : E env (.call 5 [.int .u8 d, .int .u8 p]) [] = some (.ret (.bool true) []) := by
  refine call_ret rfl Try.func5 rfl rfl ?_
  refine ev_seq ?_
  refine ev_region ?_
  refine os_pure rfl rfl rfl ?_
  refine os_nil ?_
  refine ev_seq ?_
  refine ev_region ?_
  refine os_pure rfl rfl rfl ?_
  refine os_pure rfl rfl (gd_f (by simp [eqB]) rfl) ?_
  refine os_pure rfl rfl rfl ?_
  refine os_pure rfl rfl rfl ?_
  refine os_pure rfl rfl (gd_f (by simp [eqB]) rfl) ?_
  refine os_pure rfl rfl rfl ?_
  refine os_pure rfl rfl rfl ?_
  refine os_pure rfl rfl rfl ?_
  refine os_nil ?_
  obtain ⟨n, hn, hn2⟩ := mod5 hd (m := 20) (by decide)
  obtain ⟨k, hk, hk2⟩ := mod5 hp (m := 4) (by decide)
  refine ev_forget [0, 1, 19, 20, 21, 22, 23, 24] (by kernel_rfl) (resp_ret rfl) (fr := _) (fr' := [(6, .int .i64 (k : Nat)), (5, .int .i64 (n : Nat)), (4, .bool false)]) ?_ (nests hn hk)
  rw [← hn2, ← hk2]
  repeat (first | exact Off.refl | refine Off.right rfl ?_ | refine Off.left rfl ?_ | refine Off.over ?_ | refine Off.noop2 rfl ?_)

end Go.Proofs.Ytmaaaamfjpjhcaa
/- A byte's range. -/
namespace Go.Proofs.Ytmaaaamfjpjhcaa
set_option linter.unusedSimpArgs false
set_option linter.unusedVariables false
set_option linter.unusedSectionVars false
open Go
theorem u8_wf {n : Int} (h : (Lit.int .u8 n).wf = true) : 0 ≤ n ∧ n < 256 := by
  simp [Lit.wf] at h
  have h1 : IntKind.u8.min = 0 := by decide
  have h2 : IntKind.u8.max = 255 := by decide
  omega
end Go.Proofs.Ytmaaaamfjpjhcaa
