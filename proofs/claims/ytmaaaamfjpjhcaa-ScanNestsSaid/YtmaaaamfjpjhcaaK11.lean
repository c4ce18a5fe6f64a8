/- Texts that were built one by one, joined: Shelf P1. -/
import Derived.Test.YtmaaaamfjpjhcaaK10
import Derived.Shelf.Strings.Count
import Derived.Test.YtmaaaamfjpjhcaaProg
/-
  DERIVED: THE SHELF's CONTRACTS AT THIS DUMP, IN PLAIN WORDS (tools/lay-plain.mjs out of 'TryShelf.lean', which tools/lay-shelf.mjs wrote): THE SAME DECLARATIONS UNDER THE SAME NAMES: 'import', 'namespace', 'open', 'def', 'theorem' AND NOTHING ELSE: no command of the shelf's: FOR A HAND-IN. Each laying: the table of numbers ('.._ren') and one theorem, a field a fact of the dump's own or the kernel's comparison; each contract: ONE APPLICATION.
-/
namespace Go.Proofs
set_option linter.unusedSimpArgs false
set_option linter.unusedVariables false
set_option linter.unusedSectionVars false
open Go.Shelf
def Try.lays138_ren : Go.Shelf.Ren := ⟨fun | 138 => 33 | 195 => 56 | 218 => 57 | 143 => 58 | 219 => 67 | 217 => 70 | 225 => 71 | 224 => 72 | 267 => 73 | 266 => 76 | 314 => 77 | n => n, fun | 9 => 9 | 3 => 3 | 4 => 4 | 5 => 5 | 0 => 0 | 46 => 65 | 146 => 103 | 51 => 89 | n => n, fun | 1 => 0 | n => n⟩
theorem Try.lays138 : Go.Proofs.Lays.n138 Try.prog Try.lays138_ren := {
  mixed := by kernel_rfl
  f138 := Try.func33.trans (congrArg some (by kernel_rfl))
  f143 := Try.func58.trans (congrArg some (by kernel_rfl))
  f195 := Try.func56.trans (congrArg some (by kernel_rfl))
  f217 := Try.func70.trans (congrArg some (by kernel_rfl))
  f218 := Try.func57.trans (congrArg some (by kernel_rfl))
  f219 := Try.func67.trans (congrArg some (by kernel_rfl))
  f224 := Try.func72.trans (congrArg some (by kernel_rfl))
  f225 := Try.func71.trans (congrArg some (by kernel_rfl))
  f266 := Try.func76.trans (congrArg some (by kernel_rfl))
  f267 := Try.func73.trans (congrArg some (by kernel_rfl))
  f314 := Try.func77.trans (congrArg some (by kernel_rfl))
  t0 := Try.underlying0
  a0 := Try.isAgg0
  z0 := Try.sizeOf0
  v0 := Try.zeroValue0
  t3 := Try.underlying3
  a3 := Try.isAgg3
  z3 := Try.sizeOf3
  v3 := Try.zeroValue3
  t4 := Try.underlying4
  a4 := Try.isAgg4
  z4 := Try.sizeOf4
  v4 := Try.zeroValue4
  t5 := Try.underlying5
  a5 := Try.isAgg5
  z5 := Try.sizeOf5
  v5 := Try.zeroValue5
  t9 := Try.underlying9
  a9 := Try.isAgg9
  z9 := Try.sizeOf9
  v9 := Try.zeroValue9
  t46 := Try.underlying65
  a46 := Try.isAgg65
  z46 := Try.sizeOf65
  v46 := Try.zeroValue65
  t51 := Try.underlying89
  a51 := Try.isAgg89
  z51 := Try.sizeOf89
  v51 := Try.zeroValue89
  t146 := Try.underlying103
  a146 := Try.isAgg103
  z146 := Try.sizeOf103
  v146 := Try.zeroValue103
  g1 := by kernel_rfl }
open Go.RowKit Go.Lib in
/-- strings.Count AT A substr OF ONE BYTE ('hp'): "Count counts the number of non-overlapping instances of substr in s.": IT RETURNS 'Lib.countByte s (that byte)'; the world is as it was. ✋ NO CONTRACT HERE YET at an empty substr (utf8.RuneCountInString) or at a longer one (a loop over strings.Index). (LAID: no walk: one application.) -/
theorem Try.strings_Count_one (s : ByteArray) (c : UInt8) (w : World) :
    Calls Try.prog 33 #[.string s, .string ⟨#[c]⟩] w fun e w' => e = .returned (.int .i64 (Lib.countByte s.data.toList c)) ∧ w' = w := Any.strings_Count_one Try.lays138 s c w
end Go.Proofs
/- Positions. (Printed by a program.) -/
namespace Go.Proofs.Ytmaaaamfjpjhcaa
set_option linter.unusedSimpArgs false
set_option linter.unusedVariables false
set_option linter.unusedSectionVars false
open Go Go.Vm
set_option maxRecDepth 100000
set_option linter.unusedVariables false

def countI : List V → Hp → Option Out := fun args H => match args with
  | [.str s, .str [10]] => some (.ret (.int .i64 ((s.count 10 : Nat) : Int)) H)
  | _ => none
theorem countI_ok : IntrOk Try.prog 33 countI := by
  refine ⟨fun args H out h ρ lab w xs hc hS hx => ?_, ⟨_, _, Try.func33, rfl, rfl⟩⟩
  unfold countI at h
  split at h
  · rename_i s
    cases h
    obtain ⟨x1, r1, rfl, h1, h2⟩ := relL_cons_iff.1 hx
    obtain ⟨x2, r2, rfl, h3, h4⟩ := relL_cons_iff.1 h2
    have : r2 = [] := by have := h4.1; simpa using this
    subst this
    cases h1
    cases h3
    refine (Try.strings_Count_one ⟨⟨s⟩⟩ 10 w).mono fun e w' ⟨he, hw⟩ => ?_
    subst he; subst hw
    exact ⟨ρ, lab, hS, Ext.refl _ _, ⟨fun _ _ _ h => h, fun _ _ _ _ h => h⟩, .int _ _, hc, Nat.le_refl _⟩
  · cases h
structure PSt where
  j : Nat
  a : Int
  b : Int
def okL2 : List Nat := [34, 59] ++ okL
def keep2 : Nat → Nat → List Nat
  | 59, 2 => [0, 1, 5]
  | f, l => keep f l
noncomputable def env2 : Env := { P := Try.prog, T := T, keep := keep2, byref := fun f s => match f, s with | 12, 5 => some 1 | 12, 6 => some 1 | _, _ => none, tags := fun _ => false, argTags := fun _ => false, quiet := fun g => has g (33 :: 34 :: 59 :: quietL), loose := fun g => Nat.beq g 5, intr := fun g => match Nat.beq g 33 with | true => some countI | false => none, ok := fun g => has g okL2 }
theorem codes2 : codesB env2 okL2 = true := by kernel_rfl
theorem env2Ok : EnvOk env2 := ⟨tysB_ok tys, mixed, codesB_ok (fun _ h => h) codes2, fun g h he => by
  simp only [env2] at he
  cases hb : Nat.beq g 33 with
  | true => rw [hb] at he; cases he; rw [Nat.eq_of_beq_eq_true hb]; exact countI_ok
  | false => rw [hb] at he; cases he⟩
theorem awake2 : E env2 (.call 14 []) [] = some (.ret (.bool true) []) := (run_chain env2).le 200 _ _ _ (by kernel_rfl)
theorem c33 (s : List UInt8) : E env2 (.call 33 [.str s, .str [10]]) [] = some (.ret (.int .i64 ((s.count 10 : Nat) : Int)) []) := E_step rfl
/-- where the last line feed before a place is, or -1 -/
def lastI (s : List UInt8) : Nat → Int
  | 0 => -1
  | j + 1 => match decide ((s.getD j 0).toNat = 10) with | true => (j : Int) | false => lastI s j
theorem lastI_bd (s : List UInt8) : ∀ j, -1 ≤ lastI s j ∧ lastI s j < j
  | 0 => by simp [lastI]
  | j + 1 => by
    have := lastI_bd s j
    simp only [lastI]
    split <;> omega
theorem lastI_yes {s : List UInt8} {j : Nat} (h : 0 < j) (h1 : (s.getD (j - 1) 0).toNat = 10) : lastI s j = (j : Int) - 1 := by
  obtain ⟨k, rfl⟩ : ∃ k, j = k + 1 := ⟨j - 1, by omega⟩
  rw [Nat.add_sub_cancel] at h1
  simp only [lastI, decide_eq_true h1]; omega
theorem lastI_no {s : List UInt8} {j : Nat} (h : 0 < j) (h1 : (s.getD (j - 1) 0).toNat ≠ 10) : lastI s j = lastI s (j - 1) := by
  obtain ⟨k, rfl⟩ : ∃ k, j = k + 1 := ⟨j - 1, by omega⟩
  rw [Nat.add_sub_cancel] at h1 ⊢
  simp only [lastI, decide_eq_false h1]
theorem lastI_take {s : List UInt8} {k : Nat} : ∀ {j : Nat}, j ≤ k → lastI (s.take k) j = lastI s j
  | 0, _ => rfl
  | j + 1, h => by
    have h1 : (s.take k).getD j 0 = s.getD j 0 := by
      rw [List.getD_eq_getElem?_getD, List.getElem?_take_of_lt (by omega), ← List.getD_eq_getElem?_getD]
    simp only [lastI, h1, lastI_take (s := s) (k := k) (j := j) (by omega)]
section
variable {s : List UInt8} {j : Nat}
theorem take_one (h : j < s.length) : s.take (j + 1) = s.take j ++ [s.getD j 0] := by
  rw [List.take_succ_eq_append_getElem h]; simp [h]
theorem cnt_yes' (h : j < s.length) (h1 : (s.getD j 0).toNat = 10) : (s.take (j + 1)).count 10 = (s.take j).count 10 + 1 := by
  rw [take_one h, List.count_append, show s.getD j 0 = 10 from UInt8.toNat_inj.1 h1]; simp
theorem cnt_no' (h : j < s.length) (h1 : (s.getD j 0).toNat ≠ 10) : (s.take (j + 1)).count 10 = (s.take j).count 10 := by
  have : (s.getD j 0 == (10 : UInt8)) = false := by rw [beq_eq_false_iff_ne]; intro e; exact h1 (by rw [e]; rfl)
  rw [take_one h, List.count_append, List.count_cons, this]; simp
theorem last_yes' (h1 : (s.getD j 0).toNat = 10) : lastI s (j + 1) = j := by simp only [lastI, decide_eq_true h1]
theorem last_no' (h1 : (s.getD j 0).toNat ≠ 10) : lastI s (j + 1) = lastI s j := by simp only [lastI, decide_eq_false h1]
end
section
variable (s : List UInt8) (hs : s.length ≤ 1000000)
include hs
theorem c59 : E env2 (.call 59 [.str s, .int .u8 10]) [] = some (.ret (.int .i64 (lastI s s.length)) []) := by
  obtain ⟨r, hr⟩ : ∃ r, lastI s s.length = r := ⟨_, rfl⟩
  rw [hr]
  refine call_ret (env := env2) rfl Try.func59 rfl rfl ?_
  refine ev_seq ?_
  refine ev_region ?_
  refine os_pure rfl rfl rfl ?_
  refine os_nil ?_
  refine ev_seq ?_
  refine ev_seq ?_
  refine ev_region ?_
  refine os_pure rfl rfl rfl ?_
  refine os_pure rfl rfl rfl ?_
  refine os_pure rfl rfl (wrapI (by omega) (by omega)) ?_
  refine os_pure rfl rfl rfl ?_
  refine os_nil ?_
  refine ev_block ?_
  refine ev_loop rfl ?_
  refine lp_ind (fun j : Nat => [(0, .str s), (1, .int .u8 10), (5, .int .i64 ((j : Nat) - 1 : Int))]) (fun _ => []) (fun j => j ≤ s.length ∧ lastI s j = r) (fun j => j) s.length ⟨Nat.le_refl _, hr⟩ ?_
  intro j ⟨hj, hr⟩ ih
  refine ev_seq ?_
  refine ev_seq ?_
  refine ev_region ?_
  refine os_pure rfl rfl rfl ?_
  refine os_pure rfl rfl rfl ?_
  refine os_nil ?_
  refine ev_if rfl (fun g10 => ?_) (fun g10 => ?_)
  · replace g10 : 0 < j := by simp only [leB, decide_eq_true_eq] at g10; omega
    refine ev_skip ?_
    refine ev_seq ?_
    refine ev_block ?_
    refine ev_seq ?_
    refine ev_region ?_
    refine os_pure rfl rfl rfl ?_
    refine os_pure rfl rfl rfl ?_
    refine os_pure rfl rfl (gd_f (by simp only [inR, Bool.and_eq_true, decide_eq_true_eq]; omega) (show some (V.int .u8 (((s.getD ((j : Int) - 1).toNat 0).toNat : Nat) : Int)) = some (.int .u8 ((s.getD (j - 1) 0).toNat : Nat)) by rw [show ((j : Int) - 1).toNat = j - 1 by omega])) ?_
    refine os_pure rfl rfl rfl ?_
    refine os_pure rfl rfl rfl ?_
    refine os_nil ?_
    refine ev_if rfl (fun g17 => ?_) (fun g17 => ?_)
    · obtain rfl : r = (j : Int) - 1 := by rw [← hr, lastI_yes g10 (by simp only [eqB, beq_iff_eq] at g17; omega)]
      refine ev_seq ?_
      refine ev_region ?_
      refine os_pure rfl rfl rfl ?_
      refine os_pure rfl rfl rfl ?_
      refine os_nil ?_
      exact ev_ret ⟨_, rfl, rfl⟩
    · replace g17 : (s.getD (j - 1) 0).toNat ≠ 10 := by simp only [eqB, beq_eq_false_iff_ne, ne_eq] at g17; omega
      refine ev_skip ?_
      refine ev_region ?_
      refine os_pure rfl rfl rfl ?_
      refine os_pure rfl rfl (show forceO (some (.int .i64 (IntKind.wrap .i64 ((j : Int) - 1 - 1)))) = some (.int .i64 (((j - 1 : Nat) : Int) - 1)) by rw [wrap64 (by omega) (by omega)]; simp only [forceO, fV]; congr 2; omega) ?_
      refine os_pure rfl rfl rfl ?_
      refine os_nil ?_
      exact ⟨_, _, rfl, ih (j - 1) (by omega) ⟨by omega, by rw [← hr, lastI_no g10 g17]⟩⟩
  · replace g10 : j = 0 := by simp only [leB, decide_eq_false_iff_not] at g10; omega
    subst g10
    obtain rfl : r = -1 := hr.symm
    refine ev_exit ?_
    refine ev_seq ?_
    refine ev_region ?_
    refine os_pure rfl rfl rfl ?_
    refine os_nil ?_
    exact ev_ret ⟨_, rfl, rfl⟩

theorem c34 : E env2 (.call 34 [.str s, .int .u8 10]) [] = some (.ret (.int .i64 (lastI s s.length)) []) := by
  refine call_ret (env := env2) rfl Try.func34 rfl rfl ?_
  refine ev_seq ?_
  refine ev_region ?_
  refine os_pure rfl rfl rfl ?_
  refine os_nil ?_
  refine ev_seq ?_
  refine ev_region ?_
  refine os_pure rfl rfl rfl ?_
  refine os_pure rfl rfl rfl ?_
  refine os_quiet rfl rfl rfl rfl rfl (c59 s hs) rfl ?_
  refine os_pure rfl rfl rfl ?_
  refine os_nil ?_
  exact ev_ret ⟨_, rfl, rfl⟩

end
section
variable (s : List UInt8)
theorem c23o (a : Int) (h : ltB a 0 = false → ltB s.length a = true) : E env2 (.call 23 [.str s, .int .i64 a]) [] = some (.ret (.tuple [.int .i64 0, .int .i64 0, .int .i64 1]) []) := by
  refine call_ret (env := env2) rfl Try.func23 rfl rfl ?_
  refine ev_seq ?_
  refine ev_region ?_
  refine os_pure rfl rfl rfl ?_
  refine os_pure rfl rfl rfl ?_
  refine os_pure rfl rfl rfl ?_
  refine os_nil ?_
  refine ev_seq ?_
  refine ev_seq ?_
  refine ev_region ?_
  refine os_pure rfl rfl rfl ?_
  refine os_pure rfl rfl rfl ?_
  refine os_pure rfl rfl rfl ?_
  refine os_guard rfl rfl rfl (fun g10 => ?_) (fun g10 => ?_)
  · refine os_skip rfl ?_
    refine os_skip rfl ?_
    refine os_skip rfl ?_
    refine os_skip rfl ?_
    refine os_pure rfl rfl rfl ?_
    refine os_nil ?_
    refine ev_true rfl rfl ?_
    refine ev_seq ?_
    refine ev_region ?_
    refine os_pure rfl rfl rfl ?_
    refine os_pure rfl rfl rfl ?_
    refine os_pure rfl rfl rfl ?_
    refine os_nil ?_
    exact ev_ret ⟨_, rfl, rfl⟩
  · refine os_pure rfl rfl rfl ?_
    refine os_pure rfl rfl rfl ?_
    refine os_pure rfl rfl rfl ?_
    refine os_pure rfl rfl rfl ?_
    refine os_pure rfl rfl rfl ?_
    refine os_nil ?_
    refine ev_true rfl (h g10) ?_
    refine ev_seq ?_
    refine ev_region ?_
    refine os_pure rfl rfl rfl ?_
    refine os_pure rfl rfl rfl ?_
    refine os_pure rfl rfl rfl ?_
    refine os_nil ?_
    exact ev_ret ⟨_, rfl, rfl⟩

theorem c24o (a : Int) (h : ltB a 0 = false → ltB s.length a = true) : E env2 (.call 24 [.str s, .int .i64 a]) [] = some (.ret (.tuple [.int .i64 0, .int .i64 0, .int .i64 1]) []) := by
  refine call_ret (env := env2) rfl Try.func24 rfl rfl ?_
  refine ev_seq ?_
  refine ev_region ?_
  refine os_pure rfl rfl rfl ?_
  refine os_pure rfl rfl rfl ?_
  refine os_pure rfl rfl rfl ?_
  refine os_nil ?_
  refine ev_seq ?_
  refine ev_seq ?_
  refine ev_region ?_
  refine os_pure rfl rfl rfl ?_
  refine os_pure rfl rfl rfl ?_
  refine os_pure rfl rfl rfl ?_
  refine os_guard rfl rfl rfl (fun g12 => ?_) (fun g12 => ?_)
  · refine os_skip rfl ?_
    refine os_skip rfl ?_
    refine os_skip rfl ?_
    refine os_skip rfl ?_
    refine os_pure rfl rfl rfl ?_
    refine os_nil ?_
    refine ev_true rfl rfl ?_
    refine ev_seq ?_
    refine ev_region ?_
    refine os_pure rfl rfl rfl ?_
    refine os_pure rfl rfl rfl ?_
    refine os_pure rfl rfl rfl ?_
    refine os_nil ?_
    exact ev_ret ⟨_, rfl, rfl⟩
  · refine os_pure rfl rfl rfl ?_
    refine os_pure rfl rfl rfl ?_
    refine os_pure rfl rfl rfl ?_
    refine os_pure rfl rfl rfl ?_
    refine os_pure rfl rfl rfl ?_
    refine os_nil ?_
    refine ev_true rfl (h g12) ?_
    refine ev_seq ?_
    refine ev_region ?_
    refine os_pure rfl rfl rfl ?_
    refine os_pure rfl rfl rfl ?_
    refine os_pure rfl rfl rfl ?_
    refine os_nil ?_
    exact ev_ret ⟨_, rfl, rfl⟩

variable (k : Nat) (hs : s.length ≤ 1000000) (hk : k ≤ s.length)
include hs hk
theorem c23 : E env2 (.call 23 [.str s, .int .i64 k]) [] = some (.ret (.tuple [.int .i64 (1 + ((s.take k).count 10 : Nat) : Int), .int .i64 ((k : Int) - lastI s k), .int .i64 0]) []) := by
  have hlen : (s.take k).length = k := by rw [List.length_take]; omega
  have hc := List.count_le_length (a := (10 : UInt8)) (l := s.take k)
  have hl : lastI (s.take k) (s.take k).length = lastI s k := by rw [hlen, lastI_take (Nat.le_refl _)]
  have hb := lastI_bd s k
  refine call_ret (env := env2) rfl Try.func23 rfl rfl ?_
  refine ev_seq ?_
  refine ev_region ?_
  refine os_pure rfl rfl rfl ?_
  refine os_pure rfl rfl rfl ?_
  refine os_pure rfl rfl rfl ?_
  refine os_nil ?_
  refine ev_seq ?_
  refine ev_seq ?_
  refine ev_region ?_
  refine os_pure rfl rfl rfl ?_
  refine os_pure rfl rfl rfl ?_
  refine os_pure rfl rfl rfl ?_
  refine os_guard rfl rfl rfl (fun g10 => ?_) (fun g10 => ?_)
  · exfalso; simp only [ltB, decide_eq_true_eq] at g10; omega
  · refine os_pure rfl rfl rfl ?_
    refine os_pure rfl rfl rfl ?_
    refine os_pure rfl rfl rfl ?_
    refine os_pure rfl rfl rfl ?_
    refine os_pure rfl rfl rfl ?_
    refine os_nil ?_
    refine ev_false rfl (by simp only [ltB, decide_eq_false_iff_not]; omega) ?_
    refine ev_skip ?_
    refine ev_seq ?_
    refine ev_region ?_
    refine os_pure rfl rfl rfl ?_
    refine os_pure rfl rfl rfl ?_
    refine os_pure rfl rfl (gd_f (inI_ok (a := 0) (Nat.zero_le _) hk) (show some (V.str ((s.take (k : Int).toNat).drop (0 : Int).toNat)) = some (.str (s.take k)) by simp)) ?_
    refine os_pure rfl rfl rfl ?_
    refine os_nil ?_
    refine ev_seq ?_
    refine ev_region ?_
    refine os_pure rfl rfl rfl ?_
    refine os_quiet rfl rfl rfl rfl rfl (c33 (s.take k)) rfl ?_
    refine os_pure rfl rfl (wrapI (by omega) (by omega)) ?_
    refine os_pure rfl rfl rfl ?_
    refine os_pure rfl rfl rfl ?_
    refine os_quiet rfl rfl rfl rfl rfl (c34 (s.take k) (by rw [List.length_take]; omega)) rfl ?_
    have hlb := lastI_bd (s.take k) (s.take k).length
    refine os_pure rfl rfl (wrapI (by omega) (by omega)) ?_
    refine os_pure rfl rfl rfl ?_
    refine os_pure rfl rfl rfl ?_
    refine os_pure rfl rfl rfl ?_
    refine os_nil ?_
    rw [← hl]
    exact ev_ret ⟨_, rfl, rfl⟩

theorem c24 : E env2 (.call 24 [.str s, .int .i64 k]) [] = some (.ret (.tuple [.int .i64 (1 + ((s.take k).count 10 : Nat) : Int), .int .i64 ((k : Int) - lastI s k), .int .i64 0]) []) := by
  refine call_ret (env := env2) rfl Try.func24 rfl rfl ?_
  refine ev_seq ?_
  refine ev_region ?_
  refine os_pure rfl rfl rfl ?_
  refine os_pure rfl rfl rfl ?_
  refine os_pure rfl rfl rfl ?_
  refine os_nil ?_
  refine ev_seq ?_
  refine ev_seq ?_
  refine ev_region ?_
  refine os_pure rfl rfl rfl ?_
  refine os_pure rfl rfl rfl ?_
  refine os_pure rfl rfl rfl ?_
  refine os_guard rfl rfl rfl (fun g12 => ?_) (fun g12 => ?_)
  · exfalso; simp only [ltB, decide_eq_true_eq] at g12; omega
  · refine os_pure rfl rfl rfl ?_
    refine os_pure rfl rfl rfl ?_
    refine os_pure rfl rfl rfl ?_
    refine os_pure rfl rfl rfl ?_
    refine os_pure rfl rfl rfl ?_
    refine os_nil ?_
    refine ev_false rfl (by simp only [ltB, decide_eq_false_iff_not]; omega) ?_
    refine ev_skip ?_
    refine ev_seq ?_
    refine ev_region ?_
    refine os_pure rfl rfl rfl ?_
    refine os_pure rfl rfl rfl ?_
    refine os_nil ?_
    refine ev_seq ?_
    refine ev_seq ?_
    refine ev_region ?_
    refine os_pure rfl rfl rfl ?_
    refine os_nil ?_
    refine ev_block ?_
    refine ev_loop rfl ?_
    refine lp_ind (fun x : PSt => [(0, .str s), (1, .int .i64 (k : Nat)), (7, .int .i64 x.a), (8, .int .i64 x.b), (9, .int .i64 (x.j : Nat))]) (fun _ => []) (fun x => x.j ≤ k ∧ x.a = 1 + ((s.take x.j).count 10 : Nat) ∧ x.b = lastI s x.j + 1) (fun x => k - x.j) ⟨0, 1, 0⟩ ⟨Nat.zero_le _, rfl, rfl⟩ ?_
    intro ⟨j, a, b⟩ ⟨hj, ha, hb⟩ ih
    simp only at hj ha hb ih
    show Ev _ _ _ _ _ [(0, .str s), (1, .int .i64 (k : Nat)), (7, .int .i64 a), (8, .int .i64 b), (9, .int .i64 (j : Nat))] [] _
    have hc := List.count_le_length (a := (10 : UInt8)) (l := s.take j)
    rw [List.length_take] at hc
    have hl := lastI_bd s j
    refine ev_seq ?_
    refine ev_seq ?_
    refine ev_region ?_
    refine os_pure rfl rfl rfl ?_
    refine os_pure rfl rfl rfl ?_
    refine os_pure rfl rfl rfl ?_
    refine os_nil ?_
    refine ev_if rfl (fun g20 => ?_) (fun g20 => ?_)
    · replace g20 : j < k := by simpa [ltN] using g20
      refine ev_skip ?_
      refine ev_seq ?_
      refine ev_block ?_
      refine ev_seq ?_
      refine ev_region ?_
      refine os_pure rfl rfl rfl ?_
      refine os_pure rfl rfl rfl ?_
      refine os_pure rfl rfl (gd_f (inR_ok (by omega)) rfl) ?_
      refine os_pure rfl rfl rfl ?_
      refine os_nil ?_
      refine ev_if rfl (fun g26 => ?_) (fun g26 => ?_)
      · replace g26 : (s.getD j 0).toNat = 10 := by simp only [eqB, Int.toNat_natCast, beq_iff_eq] at g26; omega
        refine ev_region ?_
        refine os_pure rfl rfl rfl ?_
        refine os_pure rfl rfl (wrapI (by omega) (by omega)) ?_
        refine os_pure rfl rfl rfl ?_
        refine os_pure rfl rfl (add1 (by omega)) ?_
        refine os_pure rfl rfl rfl ?_
        refine os_pure rfl rfl rfl ?_
        refine os_nil ?_
        refine ev_region ?_
        refine os_pure rfl rfl rfl ?_
        refine os_pure rfl rfl (add1 (by omega)) ?_
        refine os_pure rfl rfl rfl ?_
        refine os_nil ?_
        exact ⟨_, _, rfl, ih ⟨j + 1, a + 1, (j + 1 : Nat)⟩ (by show k - (j + 1) < k - j; omega) ⟨by show j + 1 ≤ k; omega, by show a + 1 = 1 + (((s.take (j + 1)).count 10 : Nat) : Int); rw [cnt_yes' (by omega) g26]; omega, by show ((j + 1 : Nat) : Int) = lastI s (j + 1) + 1; rw [last_yes' g26]; omega⟩⟩
      · replace g26 : (s.getD j 0).toNat ≠ 10 := by simp only [eqB, Int.toNat_natCast, beq_eq_false_iff_ne, ne_eq] at g26; omega
        refine ev_skip ?_
        refine ev_region ?_
        refine os_pure rfl rfl rfl ?_
        refine os_pure rfl rfl (add1 (by omega)) ?_
        refine os_pure rfl rfl rfl ?_
        refine os_nil ?_
        exact ⟨_, _, rfl, ih ⟨j + 1, a, b⟩ (by show k - (j + 1) < k - j; omega) ⟨by show j + 1 ≤ k; omega, by show a = 1 + (((s.take (j + 1)).count 10 : Nat) : Int); rw [cnt_no' (by omega) g26]; exact ha, by show b = lastI s (j + 1) + 1; rw [last_no' g26]; exact hb⟩⟩
    · replace g20 : ¬ j < k := by simpa [ltN] using g20
      obtain rfl : j = k := by omega
      refine ev_exit ?_
      refine ev_seq ?_
      refine ev_region ?_
      refine os_pure rfl rfl rfl ?_
      refine os_pure rfl rfl rfl ?_
      refine os_pure rfl rfl rfl ?_
      refine os_pure rfl rfl (wrapI (by omega) (by omega)) ?_
      refine os_pure rfl rfl (wrapI (by omega) (by omega)) ?_
      refine os_pure rfl rfl rfl ?_
      refine os_pure rfl rfl rfl ?_
      refine os_pure rfl rfl rfl ?_
      refine os_nil ?_
      rw [show (j : Int) - lastI s j = j - b + 1 by omega, ← ha]
      exact ev_ret ⟨_, rfl, rfl⟩

end
set_option maxHeartbeats 1000000 in
theorem c9a (s : List UInt8) (hs : s.length ≤ 1000000) (a : Int) (h23 : E env2 (.call 23 [.str s, .int .i64 a]) [] = some (.ret (.tuple [.int .i64 0, .int .i64 0, .int .i64 1]) [])) (h24 : E env2 (.call 24 [.str s, .int .i64 a]) [] = some (.ret (.tuple [.int .i64 0, .int .i64 0, .int .i64 1]) [])) : E env2 (.call 9 [.str s, .int .i64 a]) [] = some (.ret (.bool true) []) := by
  refine call_ret (env := env2) rfl Try.func9 rfl rfl ?_
  refine ev_seq ?_
  refine ev_region ?_
  refine os_pure rfl rfl rfl ?_
  refine os_nil ?_
  refine ev_seq ?_
  refine ev_seq ?_
  refine ev_region ?_
  refine os_pure rfl rfl rfl ?_
  refine os_pure rfl rfl rfl ?_
  refine os_pure rfl rfl rfl ?_
  refine os_nil ?_
  refine ev_if rfl (fun g16 => ?_) (fun g16 => ?_)
  · refine ev_seq ?_
    refine ev_region ?_
    refine os_pure rfl rfl rfl ?_
    refine os_nil ?_
    exact ev_ret ⟨_, rfl, rfl⟩
  · refine ev_skip ?_
    refine ev_seq ?_
    refine ev_region ?_
    refine os_pure rfl rfl rfl ?_
    refine os_pure rfl rfl rfl ?_
    refine os_quiet rfl rfl rfl rfl rfl (h23) rfl ?_
    refine os_pure rfl rfl rfl ?_
    refine os_pure rfl rfl rfl ?_
    refine os_pure rfl rfl rfl ?_
    refine os_pure rfl rfl rfl ?_
    refine os_pure rfl rfl rfl ?_
    refine os_pure rfl rfl rfl ?_
    refine os_pure rfl rfl rfl ?_
    refine os_nil ?_
    refine ev_seq ?_
    refine ev_region ?_
    refine os_pure rfl rfl rfl ?_
    refine os_pure rfl rfl rfl ?_
    refine os_quiet rfl rfl rfl rfl rfl (h24) rfl ?_
    refine os_pure rfl rfl rfl ?_
    refine os_pure rfl rfl rfl ?_
    refine os_pure rfl rfl rfl ?_
    refine os_pure rfl rfl rfl ?_
    refine os_pure rfl rfl rfl ?_
    refine os_pure rfl rfl rfl ?_
    refine os_pure rfl rfl rfl ?_
    refine os_nil ?_
    refine ev_seq ?_
    refine ev_seq ?_
    refine ev_region ?_
    refine os_pure rfl rfl rfl ?_
    refine os_pure rfl rfl rfl ?_
    refine os_pure rfl rfl rfl ?_
    refine os_pure rfl rfl rfl ?_
    refine os_guard rfl rfl rfl (fun g34 => ?_) (fun g34 => ?_)
    · exfalso; simp [eqB] at g34
    · refine os_pure rfl rfl rfl ?_
      refine os_pure rfl rfl rfl ?_
      refine os_pure rfl rfl rfl ?_
      refine os_pure rfl rfl rfl ?_
      refine os_pure rfl rfl rfl ?_
      refine os_guard rfl rfl rfl (fun g39 => ?_) (fun g39 => ?_)
      · exfalso; simp [eqB] at g39
      · refine os_pure rfl rfl rfl ?_
        refine os_pure rfl rfl rfl ?_
        refine os_pure rfl rfl rfl ?_
        refine os_pure rfl rfl rfl ?_
        refine os_nil ?_
        refine ev_false rfl (by simp [eqB]) ?_
        refine ev_skip ?_
        refine ev_seq ?_
        refine ev_seq ?_
        refine ev_region ?_
        refine os_pure rfl rfl rfl ?_
        refine os_pure rfl rfl rfl ?_
        refine os_pure rfl rfl rfl ?_
        refine os_guard rfl rfl rfl (fun g46 => ?_) (fun g46 => ?_)
        · refine os_skip rfl ?_
          refine os_skip rfl ?_
          refine os_skip rfl ?_
          refine os_skip rfl ?_
          refine os_pure rfl rfl rfl ?_
          refine os_nil ?_
          refine ev_true rfl rfl ?_
          refine ev_seq ?_
          refine ev_region ?_
          refine os_call rfl rfl rfl (callVia_eq rfl rfl rfl rfl rfl rfl rfl (awake2) rfl rfl rfl) ?_
          refine os_pure rfl rfl rfl ?_
          refine os_nil ?_
          exact ev_ret ⟨_, rfl, rfl⟩
        · exfalso; simp [eqB] at g46

set_option maxHeartbeats 1000000 in
theorem c9b (s : List UInt8) (hs : s.length ≤ 1000000) (k : Nat) (hk : k ≤ s.length) : E env2 (.call 9 [.str s, .int .i64 k]) [] = some (.ret (.bool true) []) := by
  refine call_ret (env := env2) rfl Try.func9 rfl rfl ?_
  refine ev_seq ?_
  refine ev_region ?_
  refine os_pure rfl rfl rfl ?_
  refine os_nil ?_
  refine ev_seq ?_
  refine ev_seq ?_
  refine ev_region ?_
  refine os_pure rfl rfl rfl ?_
  refine os_pure rfl rfl rfl ?_
  refine os_pure rfl rfl rfl ?_
  refine os_nil ?_
  refine ev_if rfl (fun g16 => ?_) (fun g16 => ?_)
  · refine ev_seq ?_
    refine ev_region ?_
    refine os_pure rfl rfl rfl ?_
    refine os_nil ?_
    exact ev_ret ⟨_, rfl, rfl⟩
  · refine ev_skip ?_
    refine ev_seq ?_
    refine ev_region ?_
    refine os_pure rfl rfl rfl ?_
    refine os_pure rfl rfl rfl ?_
    refine os_quiet rfl rfl rfl rfl rfl (c23 s k hs hk) rfl ?_
    refine os_pure rfl rfl rfl ?_
    refine os_pure rfl rfl rfl ?_
    refine os_pure rfl rfl rfl ?_
    refine os_pure rfl rfl rfl ?_
    refine os_pure rfl rfl rfl ?_
    refine os_pure rfl rfl rfl ?_
    refine os_pure rfl rfl rfl ?_
    refine os_nil ?_
    refine ev_seq ?_
    refine ev_region ?_
    refine os_pure rfl rfl rfl ?_
    refine os_pure rfl rfl rfl ?_
    refine os_quiet rfl rfl rfl rfl rfl (c24 s k hs hk) rfl ?_
    refine os_pure rfl rfl rfl ?_
    refine os_pure rfl rfl rfl ?_
    refine os_pure rfl rfl rfl ?_
    refine os_pure rfl rfl rfl ?_
    refine os_pure rfl rfl rfl ?_
    refine os_pure rfl rfl rfl ?_
    refine os_pure rfl rfl rfl ?_
    refine os_nil ?_
    refine ev_seq ?_
    refine ev_seq ?_
    refine ev_region ?_
    refine os_pure rfl rfl rfl ?_
    refine os_pure rfl rfl rfl ?_
    refine os_pure rfl rfl rfl ?_
    refine os_pure rfl rfl rfl ?_
    refine os_guard rfl rfl rfl (fun g34 => ?_) (fun g34 => ?_)
    · exfalso; simp [eqB] at g34
    · refine os_pure rfl rfl rfl ?_
      refine os_pure rfl rfl rfl ?_
      refine os_pure rfl rfl rfl ?_
      refine os_pure rfl rfl rfl ?_
      refine os_pure rfl rfl rfl ?_
      refine os_guard rfl rfl rfl (fun g39 => ?_) (fun g39 => ?_)
      · exfalso; simp [eqB] at g39
      · refine os_pure rfl rfl rfl ?_
        refine os_pure rfl rfl rfl ?_
        refine os_pure rfl rfl rfl ?_
        refine os_pure rfl rfl rfl ?_
        refine os_nil ?_
        refine ev_false rfl (by simp [eqB]) ?_
        refine ev_skip ?_
        refine ev_seq ?_
        refine ev_seq ?_
        refine ev_region ?_
        refine os_pure rfl rfl rfl ?_
        refine os_pure rfl rfl rfl ?_
        refine os_pure rfl rfl rfl ?_
        refine os_guard rfl rfl rfl (fun g46 => ?_) (fun g46 => ?_)
        · exfalso; simp [eqB] at g46
        · refine os_pure rfl rfl rfl ?_
          refine os_pure rfl rfl rfl ?_
          refine os_pure rfl rfl rfl ?_
          refine os_pure rfl rfl rfl ?_
          refine os_pure rfl rfl rfl ?_
          refine os_nil ?_
          refine ev_if rfl (fun g51 => ?_) (fun g51 => ?_)
          · refine ev_seq ?_
            refine ev_region ?_
            refine os_call rfl rfl rfl (callVia_eq rfl rfl rfl rfl rfl rfl rfl (awake2) rfl rfl rfl) ?_
            refine os_pure rfl rfl rfl ?_
            refine os_nil ?_
            exact ev_ret ⟨_, rfl, rfl⟩
          · replace g51 : k < s.length := by simp only [eqB, beq_eq_false_iff_ne, ne_eq] at g51; omega
            have hc := List.count_le_length (a := (10 : UInt8)) (l := s.take k)
            rw [List.length_take] at hc
            have hl := lastI_bd s k
            refine ev_skip ?_
            refine ev_seq ?_
            refine ev_region ?_
            refine os_pure rfl rfl rfl ?_
            refine os_pure rfl rfl rfl ?_
            refine os_pure rfl rfl (add1 (by omega)) ?_
            refine os_quiet rfl rfl rfl rfl rfl (c23 s (k + 1) hs g51) rfl ?_
            refine os_pure rfl rfl rfl ?_
            refine os_pure rfl rfl rfl ?_
            refine os_pure rfl rfl rfl ?_
            refine os_pure rfl rfl rfl ?_
            refine os_pure rfl rfl rfl ?_
            refine os_pure rfl rfl rfl ?_
            refine os_pure rfl rfl rfl ?_
            refine os_nil ?_
            refine ev_seq ?_
            refine ev_seq ?_
            refine ev_region ?_
            refine os_pure rfl rfl rfl ?_
            refine os_pure rfl rfl rfl ?_
            refine os_pure rfl rfl (gd_f (inR_ok (by omega)) rfl) ?_
            refine os_pure rfl rfl rfl ?_
            refine os_nil ?_
            refine ev_if rfl (fun g64 => ?_) (fun g64 => ?_)
            · have g64 : (s.getD k 0).toNat = 10 := by simp only [eqB, Int.toNat_natCast, beq_iff_eq] at g64; omega
              refine ev_seq ?_
              refine ev_region ?_
              refine os_pure rfl rfl rfl ?_
              refine os_pure rfl rfl rfl ?_
              refine os_pure rfl rfl rfl ?_
              refine os_guard rfl rfl rfl (fun g67 => ?_) (fun g67 => ?_)
              · refine os_pure rfl rfl rfl ?_
                refine os_pure rfl rfl rfl ?_
                refine os_pure rfl rfl (wrapI (by omega) (by omega)) ?_
                refine os_pure rfl rfl rfl ?_
                refine os_pure rfl rfl rfl ?_
                refine os_pure rfl rfl rfl ?_
                refine os_guard rfl rfl rfl (fun g73 => ?_) (fun g73 => ?_)
                · refine os_pure rfl rfl rfl ?_
                  refine os_pure rfl rfl rfl ?_
                  refine os_pure rfl rfl rfl ?_
                  refine os_pure rfl rfl rfl ?_
                  refine os_guard rfl rfl rfl (fun g77 => ?_) (fun g77 => ?_)
                  · refine os_call rfl rfl rfl (callVia_eq rfl rfl rfl rfl rfl rfl rfl (awake2) rfl rfl rfl) ?_
                    refine os_pure rfl rfl rfl ?_
                    refine os_pure rfl rfl rfl ?_
                    refine os_nil ?_
                    exact ev_ret ⟨_, rfl, rfl⟩
                  · exfalso; rw [last_yes' g64] at g77; simp [eqB] at g77; omega
                · exfalso; rw [cnt_yes' g51 g64] at g73; simp [eqB] at g73; omega
              · exfalso; simp [eqB] at g67
            · have g64 : (s.getD k 0).toNat ≠ 10 := by simp only [eqB, Int.toNat_natCast, beq_eq_false_iff_ne, ne_eq] at g64; omega
              refine ev_skip ?_
              refine ev_seq ?_
              refine ev_region ?_
              refine os_pure rfl rfl rfl ?_
              refine os_pure rfl rfl rfl ?_
              refine os_pure rfl rfl rfl ?_
              refine os_guard rfl rfl rfl (fun g82 => ?_) (fun g82 => ?_)
              · refine os_pure rfl rfl rfl ?_
                refine os_pure rfl rfl rfl ?_
                refine os_pure rfl rfl rfl ?_
                refine os_pure rfl rfl rfl ?_
                refine os_pure rfl rfl rfl ?_
                refine os_guard rfl rfl rfl (fun g87 => ?_) (fun g87 => ?_)
                · refine os_pure rfl rfl rfl ?_
                  refine os_pure rfl rfl rfl ?_
                  refine os_pure rfl rfl (wrapI (by omega) (by omega)) ?_
                  refine os_pure rfl rfl rfl ?_
                  refine os_pure rfl rfl rfl ?_
                  refine os_pure rfl rfl rfl ?_
                  refine os_guard rfl rfl rfl (fun g93 => ?_) (fun g93 => ?_)
                  · refine os_call rfl rfl rfl (callVia_eq rfl rfl rfl rfl rfl rfl rfl (awake2) rfl rfl rfl) ?_
                    refine os_pure rfl rfl rfl ?_
                    refine os_pure rfl rfl rfl ?_
                    refine os_nil ?_
                    exact ev_ret ⟨_, rfl, rfl⟩
                  · exfalso; rw [last_no' g64] at g93; simp [eqB] at g93; omega
                · exfalso; rw [cnt_no' g51 g64] at g87; simp [eqB] at g87
              · exfalso; simp [eqB] at g82

theorem c9big (s : List UInt8) (hs : ltB 12000 (s.length : Nat) = true) (a : Int) : E env2 (.call 9 [.str s, .int .i64 a]) [] = some (.ret (.bool true) []) := by
  refine call_ret (env := env2) rfl Try.func9 rfl rfl ?_
  refine ev_seq ?_
  refine ev_region ?_
  refine os_pure rfl rfl rfl ?_
  refine os_nil ?_
  refine ev_seq ?_
  refine ev_seq ?_
  refine ev_region ?_
  refine os_pure rfl rfl rfl ?_
  refine os_pure rfl rfl rfl ?_
  refine os_pure rfl rfl rfl ?_
  refine os_nil ?_
  refine ev_if rfl (fun g16 => ?_) (fun g16 => ?_)
  · refine ev_seq ?_
    refine ev_region ?_
    refine os_pure rfl rfl rfl ?_
    refine os_nil ?_
    exact ev_ret ⟨_, rfl, rfl⟩
  · exact absurd (hs.symm.trans g16) (by simp)

theorem c9 (s : List UInt8) (a : Int) : E env2 (.call 9 [.str s, .int .i64 a]) [] = some (.ret (.bool true) []) := by
  cases hb : ltB 12000 (s.length : Nat) with
  | true => exact c9big s hb a
  | false =>
    have hs : s.length ≤ 1000000 := by simp only [ltB, decide_eq_false_iff_not] at hb; omega
    by_cases h : 0 ≤ a ∧ a ≤ s.length
    · obtain ⟨k, rfl⟩ : ∃ k : Nat, a = k := ⟨a.toNat, by omega⟩
      exact c9b s hs k (by omega)
    · have ho : ltB a 0 = false → ltB s.length a = true := by
        intro g
        simp only [ltB, decide_eq_false_iff_not, decide_eq_true_eq] at g ⊢
        omega
      exact c9a s hs a (c23o s a ho) (c24o s a ho)

end Go.Proofs.Ytmaaaamfjpjhcaa
