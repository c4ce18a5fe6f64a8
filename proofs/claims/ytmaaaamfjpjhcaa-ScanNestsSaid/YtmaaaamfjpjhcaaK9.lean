/- Texts that were built one by one, joined: L2. -/
import Derived.Test.YtmaaaamfjpjhcaaK8
/- The laws on gaps. (Printed by a program.) -/
namespace Go.Proofs.Ytmaaaamfjpjhcaa
set_option linter.unusedSimpArgs false
set_option linter.unusedVariables false
set_option linter.unusedSectionVars false
open Go Go.Vm
set_option maxRecDepth 100000
set_option linter.unusedVariables false

theorem gapV_tup {s : List UInt8} {r : MR} (h : TokOk s r) : ∃ (gs : List (List UInt8)) (c a : Int), gs.length ≤ 3001 ∧ gapV s r = .tuple [.slice .sealed gs.length (gs.map V.str), .agg [.int .i64 c, .int .i64 a]] := by
  cases r with
  | go x => exact h.bd.elim
  | done l => exact ⟨gapsL s 0 l, 0, 0, by rw [gapsL_len]; have := h.bd; simp only [RBd] at this; omega, rfl⟩
  | err c a => exact ⟨[], c, a, Nat.zero_le _, rfl⟩
theorem c7 (s : List UInt8) : E env (.call 7 [.str s]) [] = some (.ret (.bool true) []) := by
  refine call_ret rfl Try.func7 rfl rfl ?_
  refine ev_seq ?_
  refine ev_region ?_
  refine os_pure rfl rfl rfl ?_
  refine os_nil ?_
  refine ev_seq ?_
  refine ev_seq ?_
  refine ev_region ?_
  refine os_pure rfl rfl rfl ?_
  refine os_pure rfl rfl rfl ?_
  refine os_pure rfl rfl rfl ?_
  refine os_nil ?_
  refine ev_if rfl (fun g9 => ?_) (fun g9 => ?_)
  · refine ev_seq ?_
    refine ev_region ?_
    refine os_pure rfl rfl rfl ?_
    refine os_nil ?_
    exact ev_ret ⟨_, rfl, rfl⟩
  · replace g9 : s.length ≤ 12000 := by simp only [ltB, decide_eq_false_iff_not] at g9; omega
    obtain ⟨r, hr, h11, h12, _⟩ := tokBoth2 s
    have h21 := c21 hr h11
    have h22 := c22 hr h12
    obtain ⟨gs, c, a, hl, hv⟩ := gapV_tup hr
    rw [hv] at h21 h22
    refine ev_skip ?_
    refine ev_seq ?_
    refine ev_region ?_
    refine os_pure rfl rfl rfl ?_
    refine os_quiet rfl rfl rfl rfl rfl (h21) rfl ?_
    refine os_pure rfl rfl rfl ?_
    refine os_pure rfl rfl rfl ?_
    refine os_pure rfl rfl rfl ?_
    refine os_eff rfl rfl rfl ?_
    refine os_pure rfl rfl rfl ?_
    refine os_eff rfl rfl rfl ?_
    refine os_nil ?_
    refine ev_seq ?_
    refine ev_region ?_
    refine os_pure rfl rfl rfl ?_
    refine os_quiet rfl rfl rfl rfl rfl (h22) rfl ?_
    refine os_pure rfl rfl rfl ?_
    refine os_pure rfl rfl rfl ?_
    refine os_pure rfl rfl rfl ?_
    refine os_eff rfl rfl rfl ?_
    refine os_pure rfl rfl rfl ?_
    refine os_eff rfl rfl rfl ?_
    refine os_nil ?_
    refine ev_seq ?_
    refine ev_region ?_
    refine os_eff rfl rfl rfl ?_
    refine os_eff rfl rfl rfl ?_
    refine os_pure rfl rfl rfl ?_
    refine os_pure rfl rfl rfl ?_
    refine os_guard rfl rfl rfl (fun g23 => ?_) (fun g23 => ?_)
    · refine os_pure rfl rfl rfl ?_
      refine os_pure rfl rfl rfl ?_
      refine os_call rfl rfl rfl (callVia_eq rfl rfl rfl rfl rfl rfl rfl (c17 gs (by omega)) rfl rfl rfl) ?_
      refine os_pure rfl rfl rfl ?_
      refine os_pure rfl rfl rfl ?_
      refine os_guard rfl rfl rfl (fun g28 => ?_) (fun g28 => ?_)
      · refine os_call rfl rfl rfl (callVia_eq rfl rfl rfl rfl rfl rfl rfl (awake) rfl rfl rfl) ?_
        refine os_pure rfl rfl rfl ?_
        refine os_pure rfl rfl rfl ?_
        refine os_nil ?_
        exact ev_ret ⟨_, rfl, rfl⟩
      · exact absurd g28 (by simp)
    · exfalso; simp [eqB] at g23

theorem getD_drop {G : List (List UInt8)} {k : Nat} {g : List UInt8} {r : List (List UInt8)} (h : G.drop k = g :: r) : G.getD k [] = g := by
  have : (G.drop k)[0]? = some g := by rw [h]; rfl
  rw [List.getElem?_drop, Nat.add_zero] at this
  rw [List.getD_eq_getElem?_getD, this]; rfl
set_option maxHeartbeats 1000000 in
theorem c8e {s : List UInt8} {c : Int} {a : Nat} (hc : c ≠ 0) (h11 : E env (.call 11 [.str s]) [] = some (.ret (tokV (.err c a)) [])) (h21 : E env (.call 21 [.str s]) [] = some (.ret (gapV s (.err c a)) [])) : E env (.call 8 [.str s]) [] = some (.ret (.bool true) []) := by
  refine call_ret rfl Try.func8 rfl rfl ?_
  refine ev_seq ?_
  refine ev_region ?_
  refine os_pure rfl rfl rfl ?_
  refine os_nil ?_
  refine ev_seq ?_
  refine ev_seq ?_
  refine ev_region ?_
  refine os_pure rfl rfl rfl ?_
  refine os_pure rfl rfl rfl ?_
  refine os_pure rfl rfl rfl ?_
  refine os_nil ?_
  refine ev_if rfl (fun g14 => ?_) (fun g14 => ?_)
  · refine ev_seq ?_
    refine ev_region ?_
    refine os_pure rfl rfl rfl ?_
    refine os_nil ?_
    exact ev_ret ⟨_, rfl, rfl⟩
  · refine ev_skip ?_
    refine ev_seq ?_
    refine ev_region ?_
    refine os_pure rfl rfl rfl ?_
    refine os_quiet rfl rfl rfl rfl rfl (h11) rfl ?_
    refine os_pure rfl rfl rfl ?_
    refine os_pure rfl rfl rfl ?_
    refine os_pure rfl rfl rfl ?_
    refine os_eff rfl rfl rfl ?_
    refine os_pure rfl rfl rfl ?_
    refine os_eff rfl rfl rfl ?_
    refine os_nil ?_
    refine ev_seq ?_
    refine ev_region ?_
    refine os_pure rfl rfl rfl ?_
    refine os_quiet rfl rfl rfl rfl rfl (h21) rfl ?_
    refine os_pure rfl rfl rfl ?_
    refine os_pure rfl rfl rfl ?_
    refine os_pure rfl rfl rfl ?_
    refine os_eff rfl rfl rfl ?_
    refine os_pure rfl rfl rfl ?_
    refine os_eff rfl rfl rfl ?_
    refine os_nil ?_
    refine ev_seq ?_
    refine ev_seq ?_
    refine ev_region ?_
    refine os_eff rfl rfl rfl ?_
    refine os_eff rfl rfl rfl ?_
    refine os_pure rfl rfl rfl ?_
    refine os_nil ?_
    refine ev_false rfl (by simp [eqB]) ?_
    refine ev_skip ?_
    refine ev_seq ?_
    refine ev_seq ?_
    refine ev_region ?_
    refine os_pure rfl rfl rfl ?_
    refine os_eff rfl rfl rfl ?_
    refine os_pure rfl rfl rfl ?_
    refine os_nil ?_
    refine ev_true rfl (neq_no hc) ?_
    refine ev_seq ?_
    refine ev_region ?_
    refine os_pure rfl rfl rfl ?_
    refine os_pure rfl rfl rfl ?_
    refine os_pure rfl rfl rfl ?_
    refine os_pure rfl rfl rfl ?_
    refine os_guard rfl rfl rfl (fun g34 => ?_) (fun g34 => ?_)
    · refine os_pure rfl rfl rfl ?_
      refine os_pure rfl rfl rfl ?_
      refine os_pure rfl rfl rfl ?_
      refine os_pure rfl rfl rfl ?_
      refine os_pure rfl rfl rfl ?_
      refine os_guard rfl rfl rfl (fun g39 => ?_) (fun g39 => ?_)
      · refine os_call rfl rfl rfl (callVia_eq rfl rfl rfl rfl rfl rfl rfl (awake) rfl rfl rfl) ?_
        refine os_pure rfl rfl rfl ?_
        refine os_pure rfl rfl rfl ?_
        refine os_nil ?_
        exact ev_ret ⟨_, rfl, rfl⟩
      · exfalso; simp [eqB] at g39
    · exfalso; simp [eqB] at g34

set_option maxHeartbeats 1000000 in
theorem c8d {s : List UInt8} {l : List Tok} {en : Nat} (hs : s.length ≤ 8000) (hl : l.length ≤ 3000) (hL : Lay s 0 l en) (hen : s.length ≤ skipE s en) (h11 : E env (.call 11 [.str s]) [] = some (.ret (tokV (.done l)) [])) (h21 : E env (.call 21 [.str s]) [] = some (.ret (gapV s (.done l)) [])) : E env (.call 8 [.str s]) [] = some (.ret (.bool true) []) := by
  have h21 : E env (.call 21 [.str s]) [] = some (Out.ret (.tuple [.slice .sealed (gapsL s 0 l).length ((gapsL s 0 l).map V.str), .agg [.int .i64 0, .int .i64 0]]) []) := h21
  obtain ⟨G, hG⟩ : ∃ G, gapsL s 0 l = G := ⟨_, rfl⟩
  have hGl : G.length = l.length + 1 := by rw [← hG]; exact gapsL_len s l 0
  rw [hG] at h21
  refine call_ret rfl Try.func8 rfl rfl ?_
  refine ev_seq ?_
  refine ev_region ?_
  refine os_pure rfl rfl rfl ?_
  refine os_nil ?_
  refine ev_seq ?_
  refine ev_seq ?_
  refine ev_region ?_
  refine os_pure rfl rfl rfl ?_
  refine os_pure rfl rfl rfl ?_
  refine os_pure rfl rfl rfl ?_
  refine os_nil ?_
  refine ev_if rfl (fun g14 => ?_) (fun g14 => ?_)
  · exact absurd g14 (by simp only [ltB, Bool.not_eq_true, decide_eq_false_iff_not]; omega)
  · refine ev_skip ?_
    refine ev_seq ?_
    refine ev_region ?_
    refine os_pure rfl rfl rfl ?_
    refine os_quiet rfl rfl rfl rfl rfl (h11) rfl ?_
    refine os_pure rfl rfl rfl ?_
    refine os_pure rfl rfl rfl ?_
    refine os_pure rfl rfl rfl ?_
    refine os_eff rfl rfl rfl ?_
    refine os_pure rfl rfl rfl ?_
    refine os_eff rfl rfl rfl ?_
    refine os_nil ?_
    refine ev_seq ?_
    refine ev_region ?_
    refine os_pure rfl rfl rfl ?_
    refine os_quiet rfl rfl rfl rfl rfl (h21) rfl ?_
    refine os_pure rfl rfl rfl ?_
    refine os_pure rfl rfl rfl ?_
    refine os_pure rfl rfl rfl ?_
    refine os_eff rfl rfl rfl ?_
    refine os_pure rfl rfl rfl ?_
    refine os_eff rfl rfl rfl ?_
    refine os_nil ?_
    refine ev_seq ?_
    refine ev_seq ?_
    refine ev_region ?_
    refine os_eff rfl rfl rfl ?_
    refine os_eff rfl rfl rfl ?_
    refine os_pure rfl rfl rfl ?_
    refine os_nil ?_
    refine ev_false rfl (by simp [eqB]) ?_
    refine ev_skip ?_
    refine ev_seq ?_
    refine ev_seq ?_
    refine ev_region ?_
    refine os_pure rfl rfl rfl ?_
    refine os_eff rfl rfl rfl ?_
    refine os_pure rfl rfl rfl ?_
    refine os_nil ?_
    refine ev_false rfl (by simp [eqB]) ?_
    refine ev_skip ?_
    refine ev_seq ?_
    refine ev_seq ?_
    refine ev_region ?_
    refine os_pure rfl rfl rfl ?_
    refine os_pure rfl rfl rfl ?_
    refine os_pure rfl rfl rfl ?_
    refine os_pure rfl rfl rfl ?_
    refine os_pure rfl rfl (add1 (by omega)) ?_
    refine os_pure rfl rfl rfl ?_
    refine os_nil ?_
    refine ev_false rfl (by rw [hGl]; simp [eqB]) ?_
    refine ev_skip ?_
    refine ev_seq ?_
    refine ev_region ?_
    refine os_pure rfl rfl rfl ?_
    refine os_nil ?_
    refine ev_seq ?_
    refine ev_seq ?_
    refine ev_region ?_
    refine os_pure rfl rfl rfl ?_
    refine os_nil ?_
    refine ev_block ?_
    refine ev_loop rfl ?_
    refine lp_ind (fun x : Nat × Nat => [(0, .str s), (3, .slice .sealed l.length (cellsT l)), (5, .slice .sealed G.length (G.map V.str)), (7, .int .i64 (x.2 : Nat)), (8, .int .i64 (x.1 : Nat))]) (fun _ => [])
        (fun x => x.1 ≤ l.length + 1 ∧ (x.1 ≤ l.length → x.2 ≤ s.length ∧ G.drop x.1 = gapsL s x.2 (l.drop x.1) ∧ Lay s x.2 (l.drop x.1) en))
        (fun x => l.length + 1 - x.1) (0, 0) ⟨Nat.zero_le _, fun _ => ⟨Nat.zero_le _, hG.symm, hL⟩⟩ ?_
    intro ⟨k, at_⟩ ⟨hk, hinv⟩ ih
    simp only at hk hinv ih
    show Ev _ _ _ _ _ [(0, .str s), (3, .slice .sealed l.length (cellsT l)), (5, .slice .sealed G.length (G.map V.str)), (7, .int .i64 (at_ : Nat)), (8, .int .i64 (k : Nat))] [] _
    refine ev_seq ?_
    refine ev_seq ?_
    refine ev_region ?_
    refine os_pure rfl rfl rfl ?_
    refine os_pure rfl rfl rfl ?_
    refine os_pure rfl rfl rfl ?_
    refine os_pure rfl rfl rfl ?_
    refine os_nil ?_
    refine ev_if rfl (fun g51 => ?_) (fun g51 => ?_)
    · replace g51 : k < l.length + 1 := by rw [hGl] at g51; simp only [ltB, decide_eq_true_eq] at g51; omega
      obtain ⟨hat, hGd, hLk⟩ := hinv (by omega)
      have hkG : k < G.length := by omega
      refine ev_skip ?_
      refine ev_seq ?_
      refine ev_block ?_
      refine ev_seq ?_
      refine ev_region ?_
      refine os_pure rfl rfl rfl ?_
      refine os_pure rfl rfl rfl ?_
      refine os_pure rfl rfl rfl ?_
      refine os_nil ?_
      refine ev_joinF (f := 8) [56, 57, 58, 59, 60, 61, 62, 63, 64] (fun (x : Nat) fr => (9, .int .i64 (x : Nat)) :: fr) (fun x => at_ ≤ x ∧ x ≤ s.length ∧ (s.take x).drop at_ = G.getD k [] ∧ (G.getD k []).length ≤ skipE (G.getD k []) 0 ∧ ∀ t, l[k]? = some t → x = t.a) (by kernel_rfl) (by repeat (first | exact resp_ret rfl | exact resp_retP rfl | refine resp_then (by kernel_rfl) ?_ | refine resp_block ?_ | refine resp_round (by kernel_rfl) ?_ | refine resp_join (by kernel_rfl) ?_)) ?_ ?_
      · refine ev_seq ?_
        refine ev_region ?_
        refine os_pure rfl rfl rfl ?_
        refine os_pure rfl rfl rfl ?_
        refine os_pure rfl rfl rfl ?_
        refine os_pure rfl rfl rfl ?_
        refine os_nil ?_
        refine ev_if rfl (fun g59 => ?_) (fun g59 => ?_)
        · replace g59 : k < l.length := by simpa [ltN] using g59
          obtain ⟨t, rs, htk, hdr⟩ := idxT g59
          obtain ⟨hdk, hta, htl, htt, htz, hL2⟩ := lay_at g59 htk hLk
          refine ev_region ?_
          refine os_pure rfl rfl rfl ?_
          refine os_pure rfl rfl rfl ?_
          refine os_pure rfl rfl (gd_f (inR_ok (by omega)) (show forceO (some (V.cptr ((cellsT l).drop ((k : Int).toNat * 4)))) = some (.cptr (tokC t.k t.t t.a t.l ++ rs)) by rw [Int.toNat_natCast, hdr]; rfl)) ?_
          refine os_pure rfl rfl rfl ?_
          refine os_eff rfl rfl rfl ?_
          refine os_pure rfl rfl rfl ?_
          refine os_nil ?_
          refine ⟨t.a, ?_, ?_, rfl⟩
          rotate_left 1
          · (repeat (first | exact Off.refl | refine Off.right rfl ?_ | refine Off.left rfl ?_ | refine Off.over ?_ | refine Off.noop2 rfl ?_))
          · have hg : G.getD k [] = (s.take t.a).drop at_ := getD_drop (by rw [hGd, hdk])
            exact ⟨hta, by omega, hg.symm, by rw [hg, htz, gap_blank, List.length_drop, List.length_take]; omega, fun t' h => by rw [htk] at h; cases h; rfl⟩
        · replace g59 : l.length ≤ k := by simpa [ltN] using g59
          refine ev_skip ?_
          refine ⟨s.length, ?_, ?_, rfl⟩
          rotate_left 1
          · (repeat (first | exact Off.refl | refine Off.right rfl ?_ | refine Off.left rfl ?_ | refine Off.over ?_ | refine Off.noop2 rfl ?_))
          · have hdk : l.drop k = [] := List.drop_of_length_le (by omega)
            rw [hdk] at hGd hLk
            have hLk : at_ = en := hLk
            have hg : G.getD k [] = s.drop at_ := getD_drop hGd
            have hse : skipE s at_ = s.length := by
              have := skipE_le (s := s) (i := at_) hat
              rw [hLk] at this ⊢; omega
            have hg2 : s.drop at_ = (s.take (skipE s at_)).drop at_ := by rw [hse, List.take_length]
            exact ⟨hat, Nat.le_refl _, by rw [hg, List.take_length], by rw [hg, hg2, gap_blank, List.length_drop, List.length_take]; omega, fun t h => by rw [List.getElem?_eq_none (by omega)] at h; cases h⟩
      · intro x ⟨hx1, hx2, hx3, hx4, hx5⟩
        show Ev _ _ _ _ _ ((9, V.int .i64 (x : Nat)) :: _) _ _
        refine ev_seq ?_
        refine ev_seq ?_
        refine ev_region ?_
        refine os_pure rfl rfl rfl ?_
        refine os_pure rfl rfl rfl ?_
        refine os_pure rfl rfl rfl ?_
        refine os_pure rfl rfl rfl ?_
        refine os_guard rfl rfl rfl (fun g68 => ?_) (fun g68 => ?_)
        · exfalso; simp only [ltB, decide_eq_true_eq] at g68; omega
        · refine os_pure rfl rfl rfl ?_
          refine os_pure rfl rfl rfl ?_
          refine os_pure rfl rfl rfl ?_
          refine os_pure rfl rfl rfl ?_
          refine os_pure rfl rfl rfl ?_
          refine os_pure rfl rfl rfl ?_
          refine os_guard rfl rfl rfl (fun g74 => ?_) (fun g74 => ?_)
          · exfalso; simp only [ltB, decide_eq_true_eq] at g74; omega
          · refine os_pure rfl rfl rfl ?_
            refine os_pure rfl rfl rfl ?_
            refine os_pure rfl rfl rfl ?_
            refine os_pure rfl rfl (gd_f (inI_ok (by omega) (by omega)) rfl) ?_
            refine os_pure rfl rfl rfl ?_
            refine os_pure rfl rfl rfl ?_
            refine os_pure rfl rfl (gd_f (inR_ok (by omega)) rfl) ?_
            refine os_load rfl rfl rfl (ldc9 hkG) ?_
            refine os_pure rfl rfl rfl ?_
            refine os_pure rfl rfl rfl ?_
            refine os_nil ?_
            refine ev_false rfl (by show (!eqS ((s.take (x : Int).toNat).drop (at_ : Int).toNat) (G.getD k [])) = false; rw [Int.toNat_natCast, Int.toNat_natCast, hx3]; simp [eqS]) ?_
            refine ev_skip ?_
            refine ev_seq ?_
            refine ev_region ?_
            refine os_pure rfl rfl rfl ?_
            refine os_pure rfl rfl rfl ?_
            refine os_pure rfl rfl (gd_f (inR_ok (by omega)) rfl) ?_
            refine os_load rfl rfl rfl (ldc9 hkG) ?_
            refine os_quiet rfl rfl rfl rfl rfl (gap_tokens hx4 (by rw [← hx3, List.length_drop, List.length_take]; omega)) rfl ?_
            refine os_pure rfl rfl rfl ?_
            refine os_pure rfl rfl rfl ?_
            refine os_pure rfl rfl rfl ?_
            refine os_eff rfl rfl rfl ?_
            refine os_pure rfl rfl rfl ?_
            refine os_eff rfl rfl rfl ?_
            refine os_nil ?_
            refine ev_seq ?_
            refine ev_seq ?_
            refine ev_region ?_
            refine os_pure rfl rfl rfl ?_
            refine os_pure rfl rfl rfl ?_
            refine os_pure rfl rfl rfl ?_
            refine os_pure rfl rfl rfl ?_
            refine os_guard rfl rfl rfl (fun g96 => ?_) (fun g96 => ?_)
            · exfalso; simp [eqB] at g96
            · refine os_pure rfl rfl rfl ?_
              refine os_eff rfl rfl rfl ?_
              refine os_pure rfl rfl rfl ?_
              refine os_pure rfl rfl rfl ?_
              refine os_nil ?_
              refine ev_false rfl (by simp [eqB]) ?_
              refine ev_skip ?_
              refine ev_seq ?_
              refine ev_region ?_
              refine os_pure rfl rfl rfl ?_
              refine os_pure rfl rfl rfl ?_
              refine os_pure rfl rfl rfl ?_
              refine os_pure rfl rfl rfl ?_
              refine os_nil ?_
              refine ev_if rfl (fun g104 => ?_) (fun g104 => ?_)
              · replace g104 : k < l.length := by simpa [ltN] using g104
                obtain ⟨t, rs, htk, hdr⟩ := idxT g104
                obtain ⟨hdk, hta, htl, htt, htz, hL2⟩ := lay_at g104 htk hLk
                obtain rfl := hx5 t htk
                refine ev_seq ?_
                refine ev_seq ?_
                refine ev_region ?_
                refine os_pure rfl rfl rfl ?_
                refine os_pure rfl rfl rfl ?_
                refine os_pure rfl rfl (gd_f (inR_ok (by omega)) (show forceO (some (V.cptr ((cellsT l).drop ((k : Int).toNat * 4)))) = some (.cptr (tokC t.k t.t t.a t.l ++ rs)) by rw [Int.toNat_natCast, hdr]; rfl)) ?_
                refine os_pure rfl rfl rfl ?_
                refine os_eff rfl rfl rfl ?_
                refine os_pure rfl rfl rfl ?_
                refine os_pure rfl rfl rfl ?_
                refine os_guard rfl rfl rfl (fun g111 => ?_) (fun g111 => ?_)
                · exfalso; simp only [ltB, decide_eq_true_eq] at g111; omega
                · refine os_pure rfl rfl rfl ?_
                  refine os_pure rfl rfl rfl ?_
                  refine os_pure rfl rfl (gd_f (inR_ok (by omega)) (show forceO (some (V.cptr ((cellsT l).drop ((k : Int).toNat * 4)))) = some (.cptr (tokC t.k t.t t.a t.l ++ rs)) by rw [Int.toNat_natCast, hdr]; rfl)) ?_
                  refine os_pure rfl rfl rfl ?_
                  refine os_eff rfl rfl rfl ?_
                  refine os_pure rfl rfl rfl ?_
                  refine os_pure rfl rfl rfl ?_
                  refine os_pure rfl rfl rfl ?_
                  refine os_pure rfl rfl (subN (by omega) (by omega)) ?_
                  refine os_pure rfl rfl rfl ?_
                  refine os_pure rfl rfl rfl ?_
                  refine os_nil ?_
                  refine ev_false rfl (by simp only [ltB, decide_eq_false_iff_not]; omega) ?_
                  refine ev_skip ?_
                  refine ev_region ?_
                  refine os_pure rfl rfl rfl ?_
                  refine os_pure rfl rfl rfl ?_
                  refine os_pure rfl rfl rfl ?_
                  refine os_pure rfl rfl (gd_f (inR_ok (by omega)) (show forceO (some (V.cptr ((cellsT l).drop ((k : Int).toNat * 4)))) = some (.cptr (tokC t.k t.t t.a t.l ++ rs)) by rw [Int.toNat_natCast, hdr]; rfl)) ?_
                  refine os_pure rfl rfl rfl ?_
                  refine os_eff rfl rfl rfl ?_
                  refine os_pure rfl rfl (addN (by omega)) ?_
                  refine os_pure rfl rfl rfl ?_
                  refine os_nil ?_
                  refine ev_region ?_
                  refine os_pure rfl rfl rfl ?_
                  refine os_pure rfl rfl (add1 (by omega)) ?_
                  refine os_pure rfl rfl rfl ?_
                  refine os_nil ?_
                  exact ⟨_, _, rfl, ih (k + 1, t.a + t.l) (by show l.length + 1 - (k + 1) < l.length + 1 - k; omega) ⟨by show k + 1 ≤ l.length + 1; omega, fun _ => ⟨by show t.a + t.l ≤ s.length; omega, by show G.drop (k + 1) = _; rw [← List.drop_drop, hGd, hdk]; rfl, hL2⟩⟩⟩
              · replace g104 : l.length ≤ k := by simpa [ltN] using g104
                refine ev_skip ?_
                refine ev_region ?_
                refine os_pure rfl rfl rfl ?_
                refine os_pure rfl rfl (add1 (by omega)) ?_
                refine os_pure rfl rfl rfl ?_
                refine os_nil ?_
                exact ⟨_, _, rfl, ih (k + 1, at_) (by show l.length + 1 - (k + 1) < l.length + 1 - k; omega) ⟨by show k + 1 ≤ l.length + 1; omega, fun h => absurd h (by show ¬ k + 1 ≤ l.length; omega)⟩⟩
    · replace g51 : l.length + 1 ≤ k := by rw [hGl] at g51; simp only [ltB, decide_eq_false_iff_not] at g51; omega
      refine ev_exit ?_
      refine ev_seq ?_
      refine ev_region ?_
      refine os_call rfl rfl rfl (callVia_eq rfl rfl rfl rfl rfl rfl rfl (awake) rfl rfl rfl) ?_
      refine os_pure rfl rfl rfl ?_
      refine os_nil ?_
      exact ev_ret ⟨_, rfl, rfl⟩

theorem c8 (s : List UInt8) : E env (.call 8 [.str s]) [] = some (.ret (.bool true) []) := by
  obtain ⟨r, hr, h11, _, _⟩ := tokBoth2 s
  have h21 := c21 hr h11
  cases r with
  | go x => exact hr.bd.elim
  | err c a => exact c8e (hr.nz c a rfl) h11 h21
  | done l =>
    obtain ⟨hs, e, hL, he, _⟩ := hr.lay l rfl
    exact c8d hs hr.bd hL he h11 h21

end Go.Proofs.Ytmaaaamfjpjhcaa
