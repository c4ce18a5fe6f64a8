/- What a Go function computes, step by step, as a function in Lean: texts that were built one by one, joined: VmTc VmS VmU VmV VmX VmY VmZ VmLf VmW VmG1 VmG2. -/
import Derived.Test.YtmonfppdiehlpaaGreatDoorK2
import Derived.Below
/- Drawn regions in which calls keep away from what is loaded beside them: what is drawn. -/
namespace Go.Vm
set_option linter.unusedSimpArgs false
set_option linter.unusedVariables false
set_option linter.unusedSectionVars false
section
variable {env : Env} {orc : Orc} {ops : Array Oper} {L sl : List Nat} {fr fr' : Fr} {H H' : Hp}

def bitB (m i : Nat) : Bool := Nat.beq (Nat.land (Nat.shiftRight m i) 1) 1
def ancB (M : List Nat) (j i : Nat) : Bool := bitB (M.getD j 0) i
/-- masks: who must come ahead of whom -/
def maskOkB (ops : Array Oper) (M : List Nat) : Bool := (List.range ops.size).all fun j => match ops[j]? with
  | none => true
  | some o => (List.range ops.size).all fun i => !ancB M j i || o.after.toList.any fun e => Region.binds .any e && Nat.blt e.on j && (Nat.beq e.on i || ancB M e.on i)
def pairB (env : Env) (ops : Array Oper) (sl M : List Nat) (i j : Nat) : Bool := match ops[i]?, ops[j]? with
  | some x, some y => ancB M j i || (commS env ops sl x y && (!mayPan x || isAl y))
  | _, _ => true
def alPair (ops : Array Oper) (i j : Nat) : Bool := match ops[i]?, ops[j]? with
  | some x, some y => !(isAl x && isAl y) || !Nat.beq (newName x) (newName y)
  | _, _ => true
def pairsS (env : Env) (ops : Array Oper) (sl M : List Nat) : List Nat → Bool
  | [] => true
  | i :: r => (r.all fun j => pairB env ops sl M i j && alPair ops i j && !Nat.beq i j) && pairsS env ops sl M r
def alB (env : Env) (o : Oper) : Bool := match o.op with
  | .alloc t => (match o.guard with | none => isSome (tyOf t env.T) | some _ => false)
  | _ => true
def sepB (env : Env) (ops : Array Oper) (S sl M : List Nat) : Bool :=
  edgesB ops && maskOkB ops M && pairsS env ops sl M S && ((List.range ops.size).all fun i => has i S) && (S.all fun i => Nat.blt i ops.size) && ops.toList.all (alB env)

def restS (S : List Nat) (listed : Array Bool) : List Nat := S.filter fun i => !listed.getD i true
def ClosedS (ops : Array Oper) (listed : Array Bool) : Prop := ∀ (i : Nat) (o : Oper) (e : Edge), listed.getD i true = true → ops[i]? = some o → e ∈ o.after.toList → Region.binds .any e = true → listed.getD e.on false = true

theorem getD_flip {listed : Array Bool} {i : Nat} (h : listed.getD i false = true) : listed.getD i true = true := by
  simp only [Array.getD_eq_getD_getElem?] at h ⊢
  cases hq : listed[i]? with
  | none => rfl
  | some b => rw [hq] at h; exact h
theorem anc_listed {M : List Nat} (hM : maskOkB ops M = true) {listed : Array Bool} (hc : ClosedS ops listed) : ∀ (n j i : Nat), j < n → j < ops.size → i < ops.size → ancB M j i = true →
    (∀ (o : Oper) (e : Edge), ops[j]? = some o → e ∈ o.after.toList → Region.binds .any e = true → listed.getD e.on false = true) → listed.getD i false = true
  | 0, j, i, h, _, _, _, _ => by omega
  | n + 1, j, i, hn, hj, hi, ha, he => by
    have h := hM
    simp only [maskOkB, List.all_eq_true, List.mem_range] at h
    have h := h j hj
    have ho : ops[j]? = some ops[j] := by simp [hj]
    rw [ho] at h
    simp only [List.all_eq_true, List.mem_range] at h
    have h := h i hi
    rw [ha] at h
    simp only [Bool.not_true, Bool.false_or, List.any_eq_true, Bool.and_eq_true, Bool.or_eq_true] at h
    obtain ⟨e, h1, ⟨h2, h3⟩, h4⟩ := h
    have hl := he _ e ho h1 h2
    have hlt : e.on < j := by simpa [Nat.blt_eq] using h3
    rcases h4 with h4 | h4
    · rw [Nat.eq_of_beq_eq_true h4] at hl; exact hl
    · exact anc_listed hM hc n e.on i (by omega) (by omega) hi h4 (fun o' e' ho' he' hb' => hc e.on o' e' (getD_flip hl) ho' he' hb')

theorem pairsS_spec {M : List Nat} : ∀ {S : List Nat}, pairsS env ops sl M S = true → S.Pairwise (fun i j => pairB env ops sl M i j = true ∧ alPair ops i j = true ∧ i ≠ j)
  | [], _ => .nil
  | i :: r, h => by
    simp only [pairsS, Bool.and_eq_true, List.all_eq_true, Bool.not_eq_true'] at h
    refine .cons (fun j hj => ?_) (pairsS_spec h.2)
    have := h.1 j hj
    refine ⟨this.1.1, this.1.2, ?_⟩
    rintro rfl
    have := this.2
    simp at this

theorem least : ∀ (l : List Nat), l ≠ [] → ∃ i ∈ l, ∀ j ∈ l, i ≤ j
  | [], h => absurd rfl h
  | [a], _ => ⟨a, List.mem_singleton.2 rfl, fun j hj => by rw [List.mem_singleton.1 hj]; exact Nat.le_refl _⟩
  | a :: b :: r, _ => by
    obtain ⟨i, hi, h⟩ := least (b :: r) (by simp)
    rcases Nat.lt_or_ge i a with h1 | h1
    · refine ⟨i, List.mem_cons_of_mem _ hi, fun j hj => ?_⟩
      rcases List.mem_cons.1 hj with rfl | hj
      · omega
      · exact h j hj
    · refine ⟨a, List.mem_cons_self .., fun j hj => ?_⟩
      rcases List.mem_cons.1 hj with rfl | hj
      · exact Nat.le_refl _
      · exact Nat.le_trans h1 (h j hj)

theorem pan_mem {v : V} : ∀ {A : List Oper} {fr f1 : Fr} {H H1 : Hp}, evalOpsP env orc L sl ops A fr H = some (.panic v, f1, H1) → ∃ x ∈ A, mayPan x = true
  | [], _, _, _, _, h => by simp only [evalOpsP] at h; cases h
  | x :: A, _, _, _, _, h => by
    rcases evalP_cons.1 h with ⟨_, _, _, h4⟩ | ⟨_, _, h3, _⟩
    · obtain ⟨z, hz, hm⟩ := pan_mem h4
      exact ⟨z, List.mem_cons_of_mem _ hz, hm⟩
    · exact ⟨x, List.mem_cons_self .., pan_may h3⟩

theorem opVP_al {o : Oper} (ha : isAl o = true) (hb : alB env o = true) (hk : hget (newName o) H = none) (hL : (L.all fun r => isSome (hget r H)) = true) :
    ∃ u z, opVP env orc L sl ops o fr H = some (u, hset (newName o) z H) := by
  obtain ⟨t, ho⟩ := al_op ha
  unfold alB at hb
  rw [ho] at hb
  simp only at hb
  cases hg : o.guard with
  | some x => rw [hg] at hb; cases hb
  | none =>
    rw [hg] at hb
    simp only at hb
    cases hT : tyOf t env.T with
    | none => rw [hT] at hb; cases hb
    | some y =>
      refine ⟨.ptr (newName o) 0, .row y.zero, ?_⟩
      have hp := (al_kinds ha).2.2
      have he : opEff env orc fr H o = some (.val (.ptr (newName o) 0) (hset (newName o) (.row y.zero) H)) := by
        unfold opEff
        rw [ho]
        simp only [hT, hk]
      simp only [opVP, wantedV, hg, protB_al ha, hL, opStep, hp, he]

theorem linS_ok {S M : List Nat} (hE : edgesB ops = true) (hM : maskOkB ops M = true) (hall : ∀ j, j < ops.size → j ∈ S) (hlt : ∀ j, j ∈ S → j < ops.size) (hP : S.Pairwise (fun i j => pairB env ops sl M i j = true ∧ alPair ops i j = true ∧ i ≠ j)) (hal : ∀ o ∈ ops.toList, alB env o = true) :
    ∀ (fuel t : Nat) (listed : Array Bool) (fr : Fr) (H : Hp) (ex : Ex) (f1 : Fr) (H1 : Hp), listed.size = ops.size → ClosedS ops listed → (restS S listed).length ≤ fuel →
    evalOpsP env orc L sl ops ((restS S listed).filterMap (ops[·]?)) fr H = some (ex, f1, H1) →
    (∀ v, ex = .panic v → ∀ i ∈ restS S listed, ∀ o, ops[i]? = some o → isAl o = true → hget (newName o) H1 = none) →
    ∃ f2 H2, evalOpsP env orc L sl ops ((Region.linearise.go .any ops fuel t listed []).filterMap (ops[·]?)) fr H = some (ex, f2, H2) ∧ (ex = .normal → H2 = H1 ∧ FrEq f1 f2) ∧ Sub H1 H2
  | 0, t, listed, fr, H, ex, f1, H1, hsz, hc, hl, h, hab => by
    have : restS S listed = [] := by simpa using hl
    rw [this] at h
    simp only [Region.linearise.go, List.reverse_nil]
    exact ⟨f1, H1, h, fun _ => ⟨rfl, .refl _⟩, .refl _⟩
  | fuel + 1, t, listed, fr, H, ex, f1, H1, hsz, hc, hl, h, hab => by
    have hpw : (restS S listed).Pairwise (fun i j => pairB env ops sl M i j = true ∧ alPair ops i j = true ∧ i ≠ j) := List.Pairwise.sublist List.filter_sublist hP
    have hnd : (restS S listed).Nodup := hpw.imp fun h => h.2.2
    have hmem : ∀ j, j ∈ restS S listed ↔ j < ops.size ∧ listed.getD j true = false := fun j => by
      simp only [restS, List.mem_filter, Bool.not_eq_true']
      exact ⟨fun h => ⟨hlt j h.1, h.2⟩, fun h => ⟨hall j h.1, h.2⟩⟩
    have hready : ∀ j, j ∈ Region.ready .any ops listed ↔ j ∈ restS S listed ∧ ∀ o, ops[j]? = some o → ∀ e ∈ o.after.toList, Region.binds .any e = true → listed.getD e.on false = true := by
      intro j
      rw [hmem]
      simp only [Region.ready, List.mem_filter, List.mem_range, Bool.and_eq_true, Bool.not_eq_true', and_assoc]
      refine and_congr_right fun hj => and_congr_right fun _ => ?_
      have ho : ops[j]? = some ops[j] := by simp [hj]
      rw [ho]
      simp only [Option.map_some, Option.getD_some, Array.all_eq_true_iff_forall_mem, Bool.or_eq_true, Bool.not_eq_true', Option.some.injEq]
      constructor
      · rintro h1 o rfl e he hb
        rcases h1 e (by simpa using he) with h2 | h2
        · rw [hb] at h2; cases h2
        · exact h2
      · intro h1 e he
        cases hb : Region.binds .any e with
        | false => exact .inl rfl
        | true => exact .inr (h1 _ rfl e (by simpa using he) hb)
    simp only [Region.linearise.go]
    change ∃ f2 H2, evalOpsP env orc L sl ops ((match (Region.ready .any ops listed)[t % (Region.ready .any ops listed).length]? with
      | some i => Region.linearise.go .any ops fuel (t / (Region.ready .any ops listed).length) (listed.setIfInBounds i true) [i]
      | none => [].reverse).filterMap (ops[·]?)) fr H = some (ex, f2, H2) ∧ (ex = .normal → H2 = H1 ∧ FrEq f1 f2) ∧ Sub H1 H2
    cases hi : (Region.ready .any ops listed)[t % (Region.ready .any ops listed).length]? with
    | none =>
      have hnil : Region.ready .any ops listed = [] := by
        cases hr : Region.ready .any ops listed with
        | nil => rfl
        | cons x xs =>
          rw [hr] at hi
          have hlt : t % (x :: xs).length < (x :: xs).length := Nat.mod_lt _ (by simp)
          simp at hi
          simp at hlt
          omega
      have hr0 : restS S listed = [] := by
        by_cases hr : restS S listed = []
        · exact hr
        · exfalso
          obtain ⟨i0, hin, hmin⟩ := least _ hr
          have hrd : i0 ∈ Region.ready .any ops listed := by
            refine (hready i0).2 ⟨hin, fun o ho e he hb => ?_⟩
            have hi0 := ((hmem i0).1 hin).1
            have hlt : e.on < i0 := by
              simp only [edgesB, List.all_eq_true, List.mem_range] at hE
              have := hE i0 hi0
              rw [ho] at this
              simp only [List.all_eq_true, Bool.or_eq_true, Bool.not_eq_true'] at this
              rcases this e he with h2 | h2
              · rw [hb] at h2; cases h2
              · simpa [Nat.blt_eq] using h2
            have hon : e.on < ops.size := by omega
            have hno : e.on ∉ restS S listed := fun h3 => by have := hmin _ h3; omega
            rw [hmem] at hno
            have h4 : listed.getD e.on true = true := by
              cases hq : listed.getD e.on true with
              | true => rfl
              | false => exact absurd ⟨hon, hq⟩ hno
            simp only [Array.getD_eq_getD_getElem?] at h4 ⊢
            rw [Array.getElem?_eq_getElem (by omega)] at h4 ⊢
            exact h4
          rw [hnil] at hrd
          cases hrd
      rw [hr0] at h
      exact ⟨f1, H1, h, fun _ => ⟨rfl, .refl _⟩, .refl _⟩
    | some i =>
      have hir := (hready i).1 (List.mem_of_getElem? hi)
      obtain ⟨hin, hed⟩ := hir
      obtain ⟨hisz, hil⟩ := (hmem i).1 hin
      obtain ⟨A, B, hAB⟩ := List.append_of_mem hin
      have ho : ops[i]? = some ops[i] := by simp [hisz]
      simp only []
      rw [linearise_go_acc, List.reverse_singleton, List.singleton_append, List.filterMap_cons, ho]
      simp only
      rw [hAB, List.filterMap_append, List.filterMap_cons, ho] at h
      simp only at h
      have hpairs : ∀ j ∈ A, ∀ x, ops[j]? = some x → commS env ops sl x ops[i] = true ∧ (mayPan x = true → isAl ops[i] = true) := by
        intro j hj x hjx
        rw [hAB, List.pairwise_append] at hpw
        have hp := (hpw.2.2 j hj i (List.mem_cons_self ..)).1
        have hjr : j ∈ restS S listed := by rw [hAB]; exact List.mem_append_left _ hj
        obtain ⟨hjs, hjl⟩ := (hmem j).1 hjr
        unfold pairB at hp
        rw [hjx, ho] at hp
        simp only [Bool.or_eq_true, Bool.and_eq_true, Bool.not_eq_true'] at hp
        rcases hp with h2 | ⟨h2, h3⟩
        · exfalso
          have h3 := anc_listed hM hc (i + 1) i j (Nat.lt_succ_self i) hisz hjs h2 (fun o e h4 h5 h6 => hed o h4 e h5 h6)
          rw [getD_flip h3] at hjl; cases hjl
        · refine ⟨h2, fun hm => ?_⟩
          rcases h3 with h3 | h3
          · rw [hm] at h3; cases h3
          · exact h3
      have hcomm : ∀ x ∈ A.filterMap (ops[·]?), commS env ops sl x ops[i] = true := by
        intro x hx
        rw [List.mem_filterMap] at hx
        obtain ⟨j, hj, hjx⟩ := hx
        exact (hpairs j hj x hjx).1
      have hrest' : restS S (listed.setIfInBounds i true) = A ++ B := by
        have hne : (A ++ i :: B).filter (fun k => k != i) = A ++ B := by
          rw [hAB, List.nodup_append] at hnd
          obtain ⟨h1, h2, h3⟩ := hnd
          rw [List.nodup_cons] at h2
          rw [List.filter_append, List.filter_cons]
          simp only [bne_self_eq_false, Bool.false_eq_true, if_false]
          rw [List.filter_eq_self.2 fun x hx => by simp; exact fun e => h3 x hx i (List.mem_cons_self ..) e, List.filter_eq_self.2 fun x hx => by simp; rintro rfl; exact h2.1 hx]
        rw [← hne, ← hAB]
        simp only [restS, List.filter_filter]
        refine List.filter_congr fun k hk => ?_
        have hk := hlt k hk
        simp only [Array.getD_eq_getD_getElem?]
        by_cases hki : k = i
        · subst hki
          rw [Array.getElem?_setIfInBounds_self_of_lt (by omega)]
          simp
        · rw [Array.getElem?_setIfInBounds_ne (fun e => hki e.symm)]
          simp [hki]
      have hc' : ClosedS ops (listed.setIfInBounds i true) := by
        intro k o e hk ho' he hb
        have hmono : listed.getD e.on false = true → (listed.setIfInBounds i true).getD e.on false = true := by
          intro h9
          simp only [Array.getD_eq_getD_getElem?] at h9 ⊢
          by_cases hki : i = e.on
          · subst hki; rw [Array.getElem?_setIfInBounds_self_of_lt (by omega)]; rfl
          · rw [Array.getElem?_setIfInBounds_ne hki]; exact h9
        refine hmono ?_
        by_cases hki : i = k
        · subst hki; exact hed o ho' e he hb
        · refine hc k o e ?_ ho' he hb
          simp only [Array.getD_eq_getD_getElem?] at hk ⊢
          rw [Array.getElem?_setIfInBounds_ne hki] at hk; exact hk
      have hlen : (restS S (listed.setIfInBounds i true)).length ≤ fuel := by
        rw [hrest']
        rw [hAB] at hl
        simp only [List.length_append, List.length_cons] at hl ⊢; omega
      have hsub : ∀ j ∈ A ++ B, j ∈ restS S listed := fun j hj => by
        rw [hAB]
        rcases List.mem_append.1 hj with hj | hj
        · exact List.mem_append_left _ hj
        · exact List.mem_append_right _ (List.mem_cons_of_mem _ hj)
      rcases evalP_append.1 h with ⟨fA, HA, k1, k2⟩ | ⟨v, f, K, k1, k2⟩
      · rcases evalP_cons.1 k2 with ⟨vy, Hy, k3, k4⟩ | ⟨v, K, k3, k4⟩
        · obtain ⟨K, f', g1, g2, g3⟩ := bubbleN hcomm k1 k3
          obtain ⟨f2, g4, g5⟩ := evalP_congr g3 k4
          have g6 : evalOpsP env orc L sl ops ((restS S (listed.setIfInBounds i true)).filterMap (ops[·]?)) (putO ops[i].dst vy fr) K = some (ex, f2, H1) := by
            rw [hrest', List.filterMap_append]
            exact evalP_append.2 (.inl ⟨_, _, g2, g4⟩)
          obtain ⟨f3, H3, q1, q2, q3⟩ := linS_ok hE hM hall hlt hP hal fuel (t / (Region.ready .any ops listed).length) _ _ _ _ _ _ (by simp [hsz]) hc' hlen g6 (fun v hv j hj o hjo hja => by
            rw [hrest'] at hj
            exact hab v hv j (hsub j hj) o hjo hja)
          exact ⟨f3, H3, evalP_cons.2 (.inl ⟨_, _, g1, q1⟩), fun he => ⟨(q2 he).1, g5.trans (q2 he).2⟩, q3⟩
        · simp only [Prod.mk.injEq] at k4
          obtain ⟨rfl, rfl, rfl⟩ := k4
          have hm := pan_may k3
          simp only [mayPan, Bool.and_eq_true, Bool.not_eq_true'] at hm
          have g1 := bubbleY hm.1.1 hm.2 hcomm k1 k3
          exact ⟨fr, H1, evalP_cons.2 (.inr ⟨v, H1, g1, rfl⟩), (fun he => by cases he), .refl _⟩
      · simp only [Prod.mk.injEq] at k2
        obtain ⟨rfl, rfl, rfl⟩ := k2
        obtain ⟨x, hx, hxm⟩ := pan_mem k1
        rw [List.mem_filterMap] at hx
        obtain ⟨j, hj, hjx⟩ := hx
        have hay := (hpairs j hj x hjx).2 hxm
        have hk1 := hab v rfl i hin _ ho hay
        have key := fun (z : Obj) (u : V) => bubblePan (z := z) (u := u) hay hcomm k1 hk1
        obtain ⟨q1, q2, _⟩ := key .gone .undef
        obtain ⟨u, z, g1⟩ := opVP_al (orc := orc) (L := L) (sl := sl) (ops := ops) (fr := fr) hay (hal _ (by simp)) q1 q2
        obtain ⟨_, _, f2, g2⟩ := key z u
        have g6 : evalOpsP env orc L sl ops ((restS S (listed.setIfInBounds i true)).filterMap (ops[·]?)) (putO ops[i].dst u fr) (hset (newName ops[i]) z H) = some (.panic v, f2, hset (newName ops[i]) z H1) := by
          rw [hrest', List.filterMap_append]
          exact evalP_append.2 (.inr ⟨_, _, _, g2, rfl⟩)
        obtain ⟨f3, H3, p1, p2, p3⟩ := linS_ok hE hM hall hlt hP hal fuel (t / (Region.ready .any ops listed).length) _ _ _ _ _ _ (by simp [hsz]) hc' hlen g6 (fun v' hv j hj o hjo hja => by
          rw [hrest'] at hj
          rw [hget_hset, if_neg]
          · exact hab v' hv j (hsub j hj) o hjo hja
          · rw [hAB, List.pairwise_append, List.pairwise_cons] at hpw
            rcases List.mem_append.1 hj with hj | hj
            · have := (hpw.2.2 j hj i (List.mem_cons_self ..)).2.1
              unfold alPair at this
              rw [hjo, ho] at this
              simp only [hja, hay, Bool.and_self, Bool.not_true, Bool.false_or, Bool.not_eq_true'] at this
              intro he; rw [he] at this; simp at this
            · have := (hpw.2.1.1 j hj).2.1
              unfold alPair at this
              rw [hjo, ho] at this
              simp only [hja, hay, Bool.and_self, Bool.not_true, Bool.false_or, Bool.not_eq_true'] at this
              intro he; rw [he] at this; simp at this)
        exact ⟨f3, H3, evalP_cons.2 (.inl ⟨_, _, g1, p1⟩), (fun he => by cases he), (sub_hset hk1).trans p3⟩

theorem nodup_len : ∀ (n : Nat) (S : List Nat), S.Nodup → (∀ j ∈ S, j < n) → S.length ≤ n
  | 0, [], _, _ => Nat.le_refl _
  | 0, a :: _, _, h => by have := h a (List.mem_cons_self ..); omega
  | n + 1, S, hn, h => by
    have h1 := nodup_len n (S.erase n) (hn.erase n) (fun j hj => by
      have hne : j ≠ n := by rintro rfl; exact hn.not_mem_erase hj
      have := h j (List.mem_of_mem_erase hj)
      omega)
    rw [List.length_erase] at h1
    split at h1 <;> omega
theorem sepOps_eq : ∀ (S : List Nat), sepOps ops S = S.filterMap (ops[·]?)
  | [] => rfl
  | i :: r => by
    simp only [sepOps, List.filterMap_cons]
    cases ops[i]? with
    | none => exact sepOps_eq r
    | some o => simp only [sepOps_eq r]
theorem allocNames_mem : ∀ {l : List Oper} {o : Oper}, o ∈ l → isAl o = true → newName o ∈ allocNames l
  | [], o, h, _ => by cases h
  | a :: r, o, h, ha => by
    simp only [allocNames]
    rcases List.mem_cons.1 h with rfl | h
    · rw [ha]; exact List.mem_cons_self ..
    · cases isAl a with
      | true => exact List.mem_cons_of_mem _ (allocNames_mem h ha)
      | false => exact allocNames_mem h ha

theorem evalSep_some {nr : Nat} {S : List Nat} {r : Res} (h : evalSep env orc nr ops S sl fr H = some r) : ∃ L, (∃ f2 H2, evalOpsP env orc L sl ops (sepOps ops S) fr H = some (.normal, f2, H2) ∧ r = (.normal, f2, H2)) ∨
    ∃ v f2 H2 v' H', evalOpsP env orc L sl ops (sepOps ops S) fr H = some (.panic v, f2, H2) ∧ absentB (allocNames ops.toList) H2 = true ∧ finish nr v H2 = some (v', H') ∧ r = (.panic v', [], H') := by
  unfold evalSep at h
  split at h
  · cases h
  · split at h
    · cases h
    · rename_i L _
      refine ⟨L, ?_⟩
      split at h
      · rename_i f2 H2 ho
        cases h
        exact .inl ⟨f2, H2, ho, rfl⟩
      · rename_i v f2 H2 ho
        split at h
        · rename_i v' H' ha hf
          cases h
          exact .inr ⟨v, f2, H2, v', H', ho, ha, hf, rfl⟩
        · cases h
      · cases h
end
end Go.Vm
/- Code, loops, calls: what the evaluator says is so. -/
namespace Go.Vm
set_option linter.unusedSimpArgs false
set_option linter.unusedVariables false
set_option linter.unusedSectionVars false
section
variable {P : Program} {T : List (Nat × Ty)} {ρ ρ' : Rho} {lab : Lab} {w : World} {H : Hp} {fr : Fr} {a : Act} {n nr : Nat} {env : Env} {orc : Orc} {ops : Array Oper}

def rest (ops : Array Oper) (listed : Array Bool) : List Nat := (List.range ops.size).filter fun i => !listed.getD i true
def Closed (ops : Array Oper) (listed : Array Bool) : Prop := ∀ (i : Nat) (o : Oper) (e : Edge), listed.getD i true = true → ops[i]? = some o → e ∈ o.after.toList → Region.binds .any e = true → listed.getD e.on false = true

theorem reach_listed {listed : Array Bool} (hsz : listed.size = ops.size) (hc : Closed ops listed) : ∀ (d i j : Nat), reachB ops d i j = true →
    (∀ (o : Oper) (e : Edge), ops[i]? = some o → e ∈ o.after.toList → Region.binds .any e = true → listed.getD e.on false = true) → listed.getD j false = true
  | 0, _, _, h, _ => by cases h
  | d + 1, i, j, h, hi => by
    simp only [reachB] at h
    cases ho : ops[i]? with
    | none => rw [ho] at h; cases h
    | some o =>
      rw [ho] at h
      simp only [List.any_eq_true, Bool.and_eq_true, Bool.or_eq_true] at h
      obtain ⟨e, he, hb, h⟩ := h
      have hl := hi o e ho he hb
      rcases h with h | h
      · rw [Nat.eq_of_beq_eq_true h] at hl; exact hl
      · refine reach_listed hsz hc d e.on j h (fun o' e' ho' he' hb' => hc e.on o' e' ?_ ho' he' hb')
        simp only [Array.getD_eq_getD_getElem?] at hl ⊢
        cases hq : listed[e.on]? with
        | none => rfl
        | some b => rw [hq] at hl; exact hl

theorem filter_ne {A B : List Nat} {i : Nat} (hn : (A ++ i :: B).Nodup) : (A ++ i :: B).filter (fun k => k != i) = A ++ B := by
  rw [List.nodup_append] at hn
  obtain ⟨h1, h2, h3⟩ := hn
  rw [List.nodup_cons] at h2
  rw [List.filter_append, List.filter_cons]
  simp only [bne_self_eq_false, Bool.false_eq_true, if_false]
  rw [List.filter_eq_self.2 fun x hx => by simp; exact fun e => h3 x hx i (List.mem_cons_self ..) e, List.filter_eq_self.2 fun x hx => by simp; rintro rfl; exact h2.1 hx]

theorem lin_ok {b : Bool} (hE : edgesB ops = true) (hP : pairsB env ops b = true) : ∀ (fuel t : Nat) (listed : Array Bool) (fr : Fr) (H : Hp) (f1 : Fr) (H1 : Hp), listed.size = ops.size → Closed ops listed → (rest ops listed).length ≤ fuel →
    (b = true → LdSafe f1 ((rest ops listed).filterMap (ops[·]?))) →
    evalOps env orc ops ((rest ops listed).filterMap (ops[·]?)) fr H = some (.normal, f1, H1) →
    ∃ f2, evalOps env orc ops ((Region.linearise.go .any ops fuel t listed []).filterMap (ops[·]?)) fr H = some (.normal, f2, H1) ∧ FrEq f1 f2
  | 0, t, listed, fr, H, f1, H1, hsz, hc, hl, hC, h => by
    have : rest ops listed = [] := by simpa using hl
    rw [this] at h
    simp only [Region.linearise.go, List.reverse_nil]
    exact ⟨f1, h, .refl _⟩
  | fuel + 1, t, listed, fr, H, f1, H1, hsz, hc, hl, hC, h => by
    have hnd : (rest ops listed).Nodup := List.Nodup.sublist List.filter_sublist List.nodup_range
    have hpw : (rest ops listed).Pairwise (· < ·) := List.Pairwise.sublist List.filter_sublist List.pairwise_lt_range
    have hmem : ∀ j, j ∈ rest ops listed ↔ j < ops.size ∧ listed.getD j true = false := fun j => by
      simp only [rest, List.mem_filter, List.mem_range, Bool.not_eq_true']
    have hready : ∀ j, j ∈ Region.ready .any ops listed ↔ j ∈ rest ops listed ∧ ∀ o, ops[j]? = some o → ∀ e ∈ o.after.toList, Region.binds .any e = true → listed.getD e.on false = true := by
      intro j
      rw [hmem]
      simp only [Region.ready, List.mem_filter, List.mem_range, Bool.and_eq_true, Bool.not_eq_true', and_assoc]
      refine and_congr_right fun hj => and_congr_right fun _ => ?_
      have ho : ops[j]? = some ops[j] := by simp [hj]
      rw [ho]
      simp only [Option.map_some, Option.getD_some, Array.all_eq_true_iff_forall_mem, Bool.or_eq_true, Bool.not_eq_true', Option.some.injEq]
      constructor
      · rintro h1 o rfl e he hb
        rcases h1 e (by simpa using he) with h2 | h2
        · rw [hb] at h2; cases h2
        · exact h2
      · intro h1 e he
        cases hb : Region.binds .any e with
        | false => exact .inl rfl
        | true => exact .inr (h1 _ rfl e (by simpa using he) hb)
    simp only [Region.linearise.go]
    change ∃ f2, evalOps env orc ops ((match (Region.ready .any ops listed)[t % (Region.ready .any ops listed).length]? with
      | some i => Region.linearise.go .any ops fuel (t / (Region.ready .any ops listed).length) (listed.setIfInBounds i true) [i]
      | none => [].reverse).filterMap (ops[·]?)) fr H = some (.normal, f2, H1) ∧ FrEq f1 f2
    cases hi : (Region.ready .any ops listed)[t % (Region.ready .any ops listed).length]? with
    | none =>
      have hnil : Region.ready .any ops listed = [] := by
        cases hr : Region.ready .any ops listed with
        | nil => rfl
        | cons x xs =>
          rw [hr] at hi
          have hlt : t % (x :: xs).length < (x :: xs).length := Nat.mod_lt _ (by simp)
          simp at hi
          simp at hlt
          omega
      have hr0 : rest ops listed = [] := by
        cases hr : rest ops listed with
        | nil => rfl
        | cons i0 xs =>
          have hin : i0 ∈ rest ops listed := by rw [hr]; exact List.mem_cons_self ..
          have hrd : i0 ∈ Region.ready .any ops listed := by
            refine (hready i0).2 ⟨hin, fun o ho e he hb => ?_⟩
            have hi0 := ((hmem i0).1 hin).1
            have hlt : e.on < i0 := by
              simp only [edgesB, List.all_eq_true, List.mem_range] at hE
              have := hE i0 hi0
              rw [ho] at this
              simp only [List.all_eq_true, Bool.or_eq_true, Bool.not_eq_true'] at this
              rcases this e he with h2 | h2
              · rw [hb] at h2; cases h2
              · simpa [Nat.blt_eq] using h2
            have hon : e.on < ops.size := by omega
            have hno : e.on ∉ rest ops listed := by
              rw [hr] at hpw ⊢
              rw [List.pairwise_cons] at hpw
              simp only [List.mem_cons, not_or]
              exact ⟨by omega, fun h3 => by have := hpw.1 _ h3; omega⟩
            rw [hmem] at hno
            have h4 : listed.getD e.on true = true := by
              cases hq : listed.getD e.on true with
              | true => rfl
              | false => exact absurd ⟨hon, hq⟩ hno
            simp only [Array.getD_eq_getD_getElem?] at h4 ⊢
            rw [Array.getElem?_eq_getElem (by omega)] at h4 ⊢
            exact h4
          rw [hnil] at hrd
          cases hrd
      rw [hr0] at h
      exact ⟨f1, h, .refl _⟩
    | some i =>
      have hir := (hready i).1 (List.mem_of_getElem? hi)
      obtain ⟨hin, hed⟩ := hir
      obtain ⟨hisz, hil⟩ := (hmem i).1 hin
      obtain ⟨A, B, hAB⟩ := List.append_of_mem hin
      have ho : ops[i]? = some ops[i] := by simp [hisz]
      simp only []
      rw [linearise_go_acc, List.reverse_singleton, List.singleton_append, List.filterMap_cons, ho]
      simp only
      rw [hAB, List.filterMap_append, List.filterMap_cons, ho] at h hC
      simp only at h hC
      have hcomm : ∀ x ∈ A.filterMap (ops[·]?), commB env ops b x ops[i] = true := by
        intro x hx
        rw [List.mem_filterMap] at hx
        obtain ⟨j, hj, hjx⟩ := hx
        have hlt : j < i := by
          rw [hAB, List.pairwise_append] at hpw
          exact hpw.2.2 j hj i (List.mem_cons_self ..)
        have hjr : j ∈ rest ops listed := by rw [hAB]; exact List.mem_append_left _ hj
        have hjl := ((hmem j).1 hjr).2
        simp only [pairsB, List.all_eq_true, List.mem_range] at hP
        have := hP i hisz j hlt
        rw [hjx, ho] at this
        simp only [Bool.or_eq_true] at this
        rcases this with h2 | h2
        · exact h2
        · have h3 := reach_listed hsz hc 8 i j h2 (fun o e h4 h5 h6 => hed o h4 e h5 h6)
          simp only [Array.getD_eq_getD_getElem?] at h3 hjl
          have hjs : j < listed.size := by omega
          rw [Array.getElem?_eq_getElem hjs] at h3 hjl
          simp at h3 hjl
          rw [h3] at hjl; cases hjl
      obtain ⟨f2, h5, h6⟩ := bubble_ok hcomm hC h
      obtain ⟨v, H', h7, h8⟩ := evalOps_normal.1 h5
      have hrest' : rest ops (listed.setIfInBounds i true) = A ++ B := by
        rw [← filter_ne (A := A) (B := B) (i := i) (by rw [← hAB]; exact hnd), ← hAB]
        simp only [rest, List.filter_filter]
        refine List.filter_congr fun k hk => ?_
        rw [List.mem_range] at hk
        simp only [Array.getD_eq_getD_getElem?]
        by_cases hki : k = i
        · subst hki
          rw [Array.getElem?_setIfInBounds_self_of_lt (by omega)]
          simp
        · rw [Array.getElem?_setIfInBounds_ne (fun e => hki e.symm)]
          simp [hki]
      rw [← List.filterMap_append, ← hrest'] at h8
      have hc' : Closed ops (listed.setIfInBounds i true) := by
        intro k o e hk ho' he hb
        have hmono : listed.getD e.on false = true → (listed.setIfInBounds i true).getD e.on false = true := by
          intro h9
          simp only [Array.getD_eq_getD_getElem?] at h9 ⊢
          by_cases hki : i = e.on
          · subst hki; rw [Array.getElem?_setIfInBounds_self_of_lt (by omega)]; rfl
          · rw [Array.getElem?_setIfInBounds_ne hki]; exact h9
        refine hmono ?_
        by_cases hki : i = k
        · subst hki; exact hed o ho' e he hb
        · refine hc k o e ?_ ho' he hb
          simp only [Array.getD_eq_getD_getElem?] at hk ⊢
          rw [Array.getElem?_setIfInBounds_ne hki] at hk; exact hk
      have hlen : (rest ops (listed.setIfInBounds i true)).length ≤ fuel := by
        rw [hrest']
        rw [hAB] at hl
        simp only [List.length_append, List.length_cons] at hl ⊢; omega
      obtain ⟨f3, h9, h10⟩ := lin_ok hE hP fuel (t / (Region.ready .any ops listed).length) _ _ _ _ _ (by simp [hsz]) hc' hlen (fun hb => by
        rw [hrest', List.filterMap_append]
        refine ((hC hb).congr h6).sub ?_
        exact List.Sublist.append_left (List.sublist_cons_self _ _) _) h8
      exact ⟨f3, evalOps_normal.2 ⟨v, H', h7, h9⟩, h6.trans h10⟩

theorem filterMap_range' {α : Type} : ∀ (l : List α) (g : Nat → Option α) (k : Nat), (∀ j, g (k + j) = l[j]?) → (List.range' k l.length).filterMap g = l
  | [], g, k, _ => rfl
  | x :: l, g, k, h => by
    have h0 : g k = some x := by simpa using h 0
    rw [List.length_cons, List.range'_succ, List.filterMap_cons, h0]
    simp only
    rw [filterMap_range' l g (k + 1) (fun j => by have := h (j + 1); simpa [Nat.add_assoc, Nat.add_comm 1 j] using this)]

theorem filterMap_ops (ops : Array Oper) : (List.range ops.size).filterMap (ops[·]?) = ops.toList := by
  rw [List.range_eq_range', ← Array.length_toList]
  exact filterMap_range' ops.toList _ 0 (fun j => by simp)

theorem evalOps_ex : ∀ {l : List Oper} {fr : Fr} {H : Hp} {r : Res}, evalOps env orc ops l fr H = some r → r.1 = .normal ∨ ∃ v, r.1 = .panic v
  | [], fr, H, r, h => by simp only [evalOps] at h; cases h; exact .inl rfl
  | o :: l, fr, H, r, h => by
    simp only [evalOps] at h
    split at h
    · cases h
    · exact evalOps_ex h
    · split at h
      · cases h
      · exact evalOps_ex h
      · cases h; exact .inr ⟨_, rfl⟩

theorem looseChk_some {b : Bool} {r : Option Res} {x : Res} (h : looseChk b ops r = some x) : r = some x ∧ (b = true → ∃ fr H, x = (.normal, fr, H) ∧ ((addrTmps ops.toList).all fun t => isCptr (look t fr)) = true) := by
  cases b with
  | false => exact ⟨h, fun hb => by cases hb⟩
  | true =>
    simp only [looseChk] at h
    split at h
    · rename_i f1 H1
      cases hc : (addrTmps ops.toList).all fun t => isCptr (look t f1) with
      | false => rw [hc] at h; cases h
      | true => rw [hc] at h; simp only [gd, Option.some.injEq] at h; subst h; exact ⟨rfl, fun _ => ⟨_, _, rfl, hc⟩⟩
    · cases h
/-- what is asked of a function's code: its slots; the orders that are drawn -/
def codeB (env : Env) (f nt : Nat) : Code → Bool
  | .region id ops d => (ops.toList.all fun o => match o.dst with | some d => Nat.blt d nt | none => true) && (match sepOf env f id d with
    | some (S, sl) => sepB env ops S sl (env.mask f id)
    | none => !d || drawB env ops (env.loose f))
  | .seq a b => codeB env f nt a && codeB env f nt b
  | .cond _ a b => codeB env f nt a && codeB env f nt b
  | .block _ a => codeB env f nt a
  | .loop a => codeB env f nt a
  | _ => true

def LoopOk (env : Env) (k : Nat) (orc : Orc) : Prop := ∀ f nr body fr H r, orc (.loop f nr body fr) H = some (.res r) → ∀ ρ lab w a n nt, codeB env f nt body = true → nt ≤ n → Sim ρ lab H w → FOk ρ lab w fr a n →
  Code.rounds env.P body (Post nr n ρ lab w r) k a w

theorem Post.frEq {f1 f2 : Fr} {ex : Ex} {e : Exit} {w' : World} (h : FrEq f1 f2) (hp : Post nr n ρ lab w (ex, f2, H) e a w') : Post nr n ρ lab w (ex, f1, H) e a w' := by
  obtain ⟨ρ', lab', h1, h2, h3, h4, h5⟩ := hp
  refine ⟨ρ', lab', h1, h2, h3, h4, ?_⟩
  have key : FOk ρ' lab' w' f2 a n → FOk ρ' lab' w' f1 a n := fun hf => ⟨fun t => by rw [h t]; exact hf.rel t, hf.size, hf.defers⟩
  cases ex <;> cases e <;> first | exact h5.elim | exact key h5 | exact ⟨h5.1, key h5.2⟩ | exact h5

theorem region_ok (hM : MethOk env) (hT : TOk env.P env.T) (hm : env.P.follows .mixedOrders = true) (hO : CallOk env.P orc) {id nt : Nat} {d : Bool} {r : Res} {f : Nat} (hB : codeB env f nt (.region id ops d) = true) (hn : nt ≤ n)
    (h : evalCode env orc f nr (.region id ops d) fr H = some r) (hS : Sim ρ lab H w) (hF : FOk ρ lab w fr a n) {Q : Exit → Act → World → Prop} (hQ : ∀ e a' w', Post nr n ρ lab w r e a' w' → Q e a' w') :
    (Code.region id ops d).wp env.P Q a w := by
  simp only [codeB, Bool.and_eq_true] at hB
  obtain ⟨hB1, hB2⟩ := hB
  have hdst : ∀ (i : Nat) (o : Oper) (dd : Nat), ops[i]? = some o → o.dst = some dd → dd < n := by
    intro i o dd ho hd
    rw [List.all_eq_true] at hB1
    have := hB1 o (by rw [← Array.getElem?_toList] at ho; exact List.mem_of_getElem? ho)
    rw [hd] at this
    simp only [Nat.blt_eq] at this
    omega
  simp only [evalCode] at h
  cases hso : sepOf env f id d with
  | some Ssl =>
    obtain ⟨S, sl⟩ := Ssl
    rw [hso] at h hB2
    simp only at h hB2
    have hd : d = true := by
      cases d with
      | true => rfl
      | false => cases hso
    subst hd
    simp only [sepB, Bool.and_eq_true] at hB2
    obtain ⟨⟨⟨⟨⟨b1, b2⟩, b3⟩, b4⟩, b5⟩, b6⟩ := hB2
    rw [List.all_eq_true] at b4 b5 b6
    have hall : ∀ j, j < ops.size → j ∈ S := fun j hj => has_mem.1 (b4 j (List.mem_range.2 hj))
    have hlt : ∀ j, j ∈ S → j < ops.size := fun j hj => by simpa [Nat.blt_eq] using b5 j hj
    refine wp_region_draw fun t => ?_
    simp only [Region.schedule, hm, Bool.true_or, if_true]
    have hr : restS S (Array.replicate ops.size false) = S := by
      refine List.filter_eq_self.2 fun i hi => ?_
      have := hlt i hi
      simp [this]
    have hcl : ClosedS ops (Array.replicate ops.size false) := fun i o e hi ho => by
      rcases Nat.lt_or_ge i ops.size with hlt | hge
      · simp [hlt] at hi
      · rw [Array.getElem?_eq_none hge] at ho; cases ho
    have hlen : (restS S (Array.replicate ops.size false)).length ≤ ops.size := by
      rw [hr]
      have hnd : S.Nodup := (pairsS_spec b3).imp fun h => h.2.2
      exact nodup_len _ _ hnd hlt
    have g : Grew w { w with drawn := w.drawn + 1 } := ⟨Nat.le_refl _, rfl, rfl, rfl, fun _ _ => rfl⟩
    have E := g.ext lab
    obtain ⟨L, ⟨f1, H1, k1, rfl⟩ | ⟨v, f1, H1, v', H', k1, k2, k3, rfl⟩⟩ := evalSep_some h
    · rw [sepOps_eq, ← hr] at k1
      obtain ⟨f2, H2, k4, k5, _⟩ := linS_ok b1 b2 hall hlt (pairsS_spec b3) b6 ops.size t (Array.replicate ops.size false) fr H _ _ _ (by simp) hcl hlen k1 (fun v hv => by cases hv)
      obtain ⟨rfl, k6⟩ := k5 rfl
      exact ops_ok hM hT hO hdst _ ρ lab _ H fr a _ (evalP_plain k4) (hS.grew g) (hF.ext E (.refl _)) (fun e a' w' hp => hQ e a' w' ((hp.trans E (Roots.of_le (.refl _) _)).frEq k6))
    · rw [sepOps_eq, ← hr] at k1
      obtain ⟨f2, H2, k4, _, k6⟩ := linS_ok b1 b2 hall hlt (pairsS_spec b3) b6 ops.size t (Array.replicate ops.size false) fr H _ _ _ (by simp) hcl hlen k1 (fun v' hv i hi o ho ha => by
        have := List.all_eq_true.1 k2 (newName o) (allocNames_mem (by rw [← Array.getElem?_toList] at ho; exact List.mem_of_getElem? ho) ha)
        cases hq : hget (newName o) H1 with
        | none => rfl
        | some z => rw [hq] at this; cases this)
      have k7 := finish_sub k6 k3
      refine ops_ok (nr := nr) hM hT hO hdst _ ρ lab _ H fr a _ (evalP_plain k4) (hS.grew g) (hF.ext E (.refl _)) (fun e a' w' hp => hQ e a' w' ?_)
      have hp := hp.trans E (Roots.of_le (.refl _) _)
      obtain ⟨ρ1, lab1, q1, q2, q3, q4, q5⟩ := hp
      cases e with
      | panic ch =>
        obtain ⟨x, q6, q7⟩ := q5
        obtain ⟨ρ2, lab2, r1, r2, r3, r4, _⟩ := finish_ok q1 q7 k7
        exact ⟨ρ2, lab2, r1, q2.trans r2, q3.trans r3 (Nat.le_refl _), q4, x, q6, r4⟩
      | _ => exact q5.elim
  | none =>
  rw [hso] at h hB2
  simp only at h hB2
  cases d with
  | false =>
    refine wp_region ?_
    have h' : evalOps env orc ops ops.toList fr H = some r := by
      simp only [Bool.false_and, looseChk] at h
      split at h
      · rename_i hq; rw [hq]; exact h
      · exact h
    rw [← filterMap_ops ops] at h'
    exact ops_ok hM hT hO hdst _ ρ lab w H fr a r h' hS hF hQ
  | true =>
    simp only [Bool.not_true, Bool.false_or, drawB, Bool.and_eq_true] at hB2
    simp only [Bool.true_and] at h
    obtain ⟨h, hchk⟩ := looseChk_some h
    refine wp_region_draw fun t => ?_
    simp only [Region.schedule, hm, Bool.true_or, if_true]
    split at h
    · cases h
    · rename_i hno
      obtain ⟨ex, f1, H1⟩ := r
      rcases evalOps_ex h with h1 | ⟨v, h1⟩
      · simp only at h1
        subst h1
        have hr : rest ops (Array.replicate ops.size false) = List.range ops.size := by
          refine List.filter_eq_self.2 fun i hi => ?_
          rw [List.mem_range] at hi
          simp [hi]
        rw [← filterMap_ops ops, ← hr] at h
        obtain ⟨f2, h2, h3⟩ := lin_ok hB2.1.1 hB2.1.2 ops.size t (Array.replicate ops.size false) fr H f1 H1 (by simp) (fun i o e hi ho => by
          rcases Nat.lt_or_ge i ops.size with hlt | hge
          · simp [hlt] at hi
          · rw [Array.getElem?_eq_none hge] at ho; cases ho) (by rw [hr]; simp) (fun hb => by
          rw [hr, filterMap_ops]
          obtain ⟨f', H', hx, hy⟩ := hchk hb
          cases hx
          have hs := hB2.2
          rw [hb] at hs
          exact safe_of (by simpa using hs) hy) h
        have g : Grew w { w with drawn := w.drawn + 1 } := ⟨Nat.le_refl _, rfl, rfl, rfl, fun _ _ => rfl⟩
        have E := g.ext lab
        refine ops_ok hM hT hO hdst _ ρ lab _ H fr a _ h2 (hS.grew g) (hF.ext E (.refl _)) (fun e a' w' hp => hQ e a' w' ((hp.trans E (Roots.of_le (.refl _) _)).frEq h3))
      · simp only at h1
        subst h1
        exact absurd h (hno v f1 H1)

theorem rounds_mono {c : Code} {Q Q' : Exit → Act → World → Prop} (hq : ∀ e a w, Q e a w → Q' e a w) : ∀ (k : Nat) (a : Act) (w : World), Code.rounds P c Q k a w → Code.rounds P c Q' k a w
  | 0, _, _, h => h
  | k + 1, a, w, h => by
    rw [rounds_succ] at h ⊢
    refine wp_mono h fun e a' w' he => ?_
    cases e <;> first | exact rounds_mono hq k a' w' he | exact hq _ _ _ he

theorem code_ok (hM : MethOk env) (hT : TOk env.P env.T) (hm : env.P.follows .mixedOrders = true) (hO : CallOk env.P orc) {k : Nat} (hL : LoopOk env k orc) {f nt : Nat} : ∀ (c : Code) (ρ : Rho) (lab : Lab) (w : World) (H : Hp) (fr : Fr) (a : Act) (r : Res) (n : Nat),
    codeB env f nt c = true → nt ≤ n → evalCode env orc f nr c fr H = some r → Sim ρ lab H w → FOk ρ lab w fr a n → ∀ Q : Exit → Act → World → Prop, (∀ e a' w', Post nr n ρ lab w r e a' w' → Q e a' w') → c.wp env.P Q a w := by
  intro c
  induction c with
  | skip =>
    intro ρ lab w H fr a r n hB hn h hS hF Q hQ
    simp only [evalCode] at h; cases h
    exact wp_skip (hQ _ _ _ ⟨ρ, lab, hS, .refl _ _, Roots.of_le (.refl _) _, hF.defers, hF⟩)
  | label l =>
    intro ρ lab w H fr a r n hB hn h hS hF Q hQ
    simp only [evalCode] at h; cases h
    exact wp_label (hQ _ _ _ ⟨ρ, lab, hS, .refl _ _, Roots.of_le (.refl _) _, hF.defers, hF⟩)
  | exit i =>
    intro ρ lab w H fr a r n hB hn h hS hF Q hQ
    simp only [evalCode] at h; cases h
    exact wp_exit (hQ _ _ _ ⟨ρ, lab, hS, .refl _ _, Roots.of_le (.refl _) _, hF.defers, rfl, hF⟩)
  | ret =>
    intro ρ lab w H fr a r n hB hn h hS hF Q hQ
    simp only [evalCode] at h; cases h
    exact wp_ret (hQ _ _ _ ⟨ρ, lab, hS, .refl _ _, Roots.of_le (.refl _) _, hF.defers, hF⟩)
  | region id ops d =>
    intro ρ lab w H fr a r n hB hn h hS hF Q hQ
    exact region_ok hM hT hm hO hB hn h hS hF hQ
  | seq x y ihx ihy =>
    intro ρ lab w H fr a r n hB hn h hS hF Q hQ
    simp only [codeB, Bool.and_eq_true] at hB
    simp only [evalCode] at h
    refine wp_seq ?_
    cases hx : evalCode env orc f nr x fr H with
    | none => rw [hx] at h; cases h
    | some r1 =>
      rw [hx] at h
      refine ihx ρ lab w H fr a r1 n hB.1 hn hx hS hF _ fun e a1 w1 hp => ?_
      obtain ⟨ex, fr1, H1⟩ := r1
      obtain ⟨ρ1, lab1, h1, h2, h3, h4, h5⟩ := hp
      cases ex with
      | normal =>
        simp only at h h5
        cases e with
        | normal =>
          unfold cutAt at h
          cases hcu : env.cut f (cutId y) with
          | false =>
            rw [hcu] at h
            exact ihy ρ1 lab1 w1 H1 fr1 a1 r n hB.2 hn h h1 h5 Q fun e a' w' hp => hQ e a' w' (hp.trans h2 h3)
          | true =>
            rw [hcu] at h
            simp only at h
            split at h
            · rename_i fr2 H2 hnm
              obtain ⟨ρ2, lab2, k1, k2, k3, k4⟩ := normal_ok h1 h5.rel hnm
              exact ihy ρ2 lab2 w1 H2 fr2 a1 r n hB.2 hn h k1 ⟨k4, h5.size, h5.defers⟩ Q fun e a' w' hp => hQ e a' w' ((hp.trans k2 k3).trans h2 h3)
            · cases h
        | _ => exact h5.elim
      | ret =>
        simp only [Option.some.injEq] at h h5
        subst h
        cases e with
        | ret => exact hQ _ _ _ ⟨ρ1, lab1, h1, h2, h3, h4, h5⟩
        | _ => exact h5.elim
      | exit i =>
        simp only [Option.some.injEq] at h h5
        subst h
        cases e with
        | exit j => exact hQ _ _ _ ⟨ρ1, lab1, h1, h2, h3, h4, h5⟩
        | _ => exact h5.elim
      | panic v =>
        simp only [Option.some.injEq] at h h5
        subst h
        cases e with
        | panic ch => exact hQ _ _ _ ⟨ρ1, lab1, h1, h2, h3, h4, h5⟩
        | _ => exact h5.elim
  | cond c x y ihx ihy =>
    intro ρ lab w H fr a r n hB hn h hS hF Q hQ
    simp only [codeB, Bool.and_eq_true] at hB
    simp only [evalCode] at h
    split at h
    · rename_i t hc
      have hb := ev_ok hF.rel hc
      generalize hcv : a.eval c = cv at hb
      cases hb
      split at h
      · exact wp_cond_true hcv (ihx ρ lab w H fr a r n hB.1 hn h hS hF Q hQ)
      · exact wp_cond_false hcv (ihy ρ lab w H fr a r n hB.2 hn h hS hF Q hQ)
    · cases h
  | block id x ihx =>
    intro ρ lab w H fr a r n hB hn h hS hF Q hQ
    simp only [codeB] at hB
    simp only [evalCode] at h
    refine wp_block ?_
    cases hx : evalCode env orc f nr x fr H with
    | none => rw [hx] at h; cases h
    | some r1 =>
      rw [hx] at h
      refine ihx ρ lab w H fr a r1 n hB hn hx hS hF _ fun e a1 w1 hp => ?_
      obtain ⟨ex, fr1, H1⟩ := r1
      obtain ⟨ρ1, lab1, h1, h2, h3, h4, h5⟩ := hp
      cases ex with
      | normal =>
        simp only [Option.some.injEq] at h h5
        subst h
        cases e with
        | normal => exact hQ _ _ _ ⟨ρ1, lab1, h1, h2, h3, h4, h5⟩
        | _ => exact h5.elim
      | ret =>
        simp only [Option.some.injEq] at h h5
        subst h
        cases e with
        | ret => exact hQ _ _ _ ⟨ρ1, lab1, h1, h2, h3, h4, h5⟩
        | _ => exact h5.elim
      | exit i =>
        simp only at h h5
        cases e with
        | exit j =>
          obtain ⟨rfl, h5⟩ := h5
          simp only [Exit.inBlock]
          cases hb : Nat.beq i id with
          | true =>
            rw [hb] at h
            simp only [Option.some.injEq] at h
            subst h
            rw [if_pos (Nat.eq_of_beq_eq_true hb)]
            exact hQ _ _ _ ⟨ρ1, lab1, h1, h2, h3, h4, h5⟩
          | false =>
            rw [hb] at h
            simp only [Option.some.injEq] at h
            subst h
            rw [if_neg (by rintro rfl; simp at hb)]
            exact hQ _ _ _ ⟨ρ1, lab1, h1, h2, h3, h4, rfl, h5⟩
        | _ => exact h5.elim
      | panic v =>
        simp only [Option.some.injEq] at h h5
        subst h
        cases e with
        | panic ch => exact hQ _ _ _ ⟨ρ1, lab1, h1, h2, h3, h4, h5⟩
        | _ => exact h5.elim
  | loop x ihx =>
    intro ρ lab w H fr a r n hB hn h hS hF Q hQ
    simp only [codeB] at hB
    simp only [evalCode] at h
    split at h
    · rename_i fr1 H1 hnm
      split at h
      · rename_i r1 ho
        cases h
        obtain ⟨ρ1, lab1, k1, k2, k3, k4⟩ := normal_ok hS hF.rel hnm
        have := hL f nr x fr1 H1 _ ho ρ1 lab1 w a n nt hB hn k1 ⟨k4, hF.size, hF.defers⟩
        exact wp_loop_rounds k (rounds_mono (fun e a' w' hp => hQ e a' w' (hp.trans k2 k3)) k a w this)
      · cases h
    · cases h
  | _ =>
    intro ρ lab w H fr a r n hB hn h hS hF Q hQ
    simp only [evalCode] at h
    cases h
end
end Go.Vm
/- The evaluator is sound. -/
namespace Go.Vm
set_option linter.unusedSimpArgs false
set_option linter.unusedVariables false
set_option linter.unusedSectionVars false
section
variable {P : Program} {T : List (Nat × Ty)} {ρ ρ' : Rho} {lab : Lab} {w : World} {H : Hp} {fr : Fr} {a : Act} {n nr : Nat} {env : Env} {orc : Orc}

def resRun (tmps : Array Value) : ResultVar → Sem Value
  | .tmp t => pure (tmps.getD t undef)
  | .cell a t => do loadVar t (← asAddr (tmps.getD a undef))

theorem resV_ok (hT : TOk P T) (hS : Sim ρ lab H w) {tmps : Array Value} (hF : FrRel ρ lab w fr tmps) {rv : ResultVar} {v : V} (h : resV T fr H rv = some v) : ∃ z, (resRun tmps rv).run P w = .ok z w ∧ Rel ρ lab w v z := by
  cases rv with
  | tmp t => simp only [resV] at h; cases h; exact ⟨_, rfl, hF t⟩
  | cell c t =>
    simp only [resV] at h
    have hx := hF c
    obtain ⟨z, h1, h2⟩ := load_run hT hS hx h
    refine ⟨z, ?_, h2⟩
    simp only [resRun]
    generalize hcv : tmps.getD c undef = cv at hx h1
    unfold vLoad at h
    split at h
    · rename_i hl
      rw [hl] at hx
      cases hx
      exact h1
    · rename_i hl
      rw [hl] at hx
      cases hx
      exact h1
    · cases h

theorem mapM_ok (hT : TOk P T) (hS : Sim ρ lab H w) {tmps : Array Value} (hF : FrRel ρ lab w fr tmps) : ∀ {l : List ResultVar} {vs : List V}, mapO (resV T fr H) l = some vs → ∃ xs, (l.mapM (resRun tmps)).run P w = .ok xs w ∧ RelL ρ lab w vs xs
  | [], vs, h => by simp only [mapO] at h; cases h; exact ⟨[], rfl, relL_nil⟩
  | r :: l, vs, h => by
    simp only [mapO] at h
    split at h
    · cases h
    · rename_i v hv
      split at h
      · cases h
      · rename_i u hu
        cases h
        obtain ⟨z, h1, h2⟩ := resV_ok hT hS hF hv
        obtain ⟨xs, h3, h4⟩ := mapM_ok hT hS hF hu
        exact ⟨z :: xs, by simp only [List.mapM_cons, Sem.run_bind, h1, Result.andThen_ok, h3, Sem.run_pure], relL_cons_iff.2 ⟨z, xs, rfl, h2, h4⟩⟩

theorem results_ok (hT : TOk P T) (hS : Sim ρ lab H w) {tmps : Array Value} (hF : FrRel ρ lab w fr tmps) {fn : Func} {v : V} (h : resultV T fr H fn.results.toList = some v) : ∃ z, (results fn tmps).run P w = .ok z w ∧ Rel ρ lab w v z := by
  have hr : (results fn tmps) = (do let vs ← fn.results.mapM (resRun tmps); pure (if h : vs.size = 1 then vs[0] else .tuple vs)) := by
    unfold results
    congr 1
  rw [hr]
  unfold resultV at h
  have key : ∀ vs, mapO (resV T fr H) fn.results.toList = some vs → ∃ xs, (fn.results.mapM (resRun tmps)).run P w = .ok xs.toArray w ∧ RelL ρ lab w vs xs := by
    intro vs hvs
    obtain ⟨xs, h1, h2⟩ := mapM_ok hT hS hF hvs
    refine ⟨xs, ?_, h2⟩
    rw [Array.mapM_eq_mapM_toList]
    simp only [map_eq_pure_bind, Sem.run_bind, h1, Result.andThen_ok, Sem.run_pure]
  split at h
  · rename_i v' hvs
    cases h
    obtain ⟨xs, h1, h2⟩ := key _ hvs
    obtain ⟨x, xr, rfl, h3, h4⟩ := relL_cons_iff.1 h2
    have : xr = [] := by have := h4.1; simpa using this
    subst this
    exact ⟨x, by simp [Sem.run_bind, h1, Result.andThen_ok], h3⟩
  · rename_i vs hno hvs
    cases h
    obtain ⟨xs, h1, h2⟩ := key _ hvs
    refine ⟨.tuple xs.toArray, ?_, .tuple vs xs h2.1 h2.2⟩
    have hsz : ¬ xs.toArray.size = 1 := by
      intro hsz
      have hl : vs.length = 1 := by rw [← h2.1]; simpa using hsz
      match vs, hl with
      | [v], _ => exact hno v rfl
    simp [Sem.run_bind, h1, Result.andThen_ok]
    intro h5
    exact absurd (by simpa using h5) hsz
  · cases h

theorem look_bind : ∀ (args : List V) (k t : Nat), look t (bindArgs k args) = if k ≤ t then (args[t - k]?).getD .undef else .undef
  | [], k, t => by simp [bindArgs, look]
  | v :: r, k, t => by
    simp only [bindArgs]
    by_cases hk : k = t
    · subst hk; rw [look_head]; simp
    · rw [look_tail hk, look_bind r (k + 1) t]
      by_cases h : k ≤ t
      · rw [if_pos (by omega), if_pos h]
        have : t - k = t - (k + 1) + 1 := by omega
        rw [this, List.getElem?_cons_succ]
      · rw [if_neg (by omega), if_neg h]

structure IntrOk (P : Program) (g : Nat) (h : List V → Hp → Option Out) : Prop where
  call : ∀ args H out, h args H = some out → ∀ ρ lab w xs, Canon 0 H → Sim ρ lab H w → RelL ρ lab w args xs → Calls P g xs.toArray w (CallPost ρ lab H w out)
  known : ∃ fn c, P.funcs[g]? = some fn ∧ (fn.name == "runtime.NumGoroutine") = false ∧ fn.body = some c

structure ViaOk (P : Program) (g : Nat) (pre : List V → Hp → Option (Nat × List V × Hp)) (post : List V → Hp → Out → Option Out) : Prop where
  call : ∀ args H g' l H' o out, pre args H = some (g', l, H') → post args H o = some out → ∀ ρ lab w xs, Canon 0 H → Sim ρ lab H w → RelL ρ lab w args xs →
    (∀ ρ lab w ys, Canon 0 H' → Sim ρ lab H' w → RelL ρ lab w l ys → Calls P g' ys.toArray w (CallPost ρ lab H' w o)) → Calls P g xs.toArray w (CallPost ρ lab H w out)
  known : ∃ fn c, P.funcs[g]? = some fn ∧ (fn.name == "runtime.NumGoroutine") = false ∧ fn.body = some c

structure EnvOk (env : Env) : Prop where
  meth : MethOk env
  T : TOk env.P env.T
  mixed : env.P.follows .mixedOrders = true
  code : ∀ g fn c, env.ok g = true → env.P.funcs[g]? = some fn → fn.body = some c → codeB env g fn.ntmps c = true ∧ (fn.name == "runtime.NumGoroutine") = false
  intr : ∀ g h, env.intr g = some (.plain h) → IntrOk env.P g h
  via : ∀ g pre post, env.intr g = some (.via pre post) → ViaOk env.P g pre post

theorem runCall_known (hE : EnvOk env) {g : Nat} {args : List V} {out : Out} (h : runCall env orc g args H = some out) : ∃ fn c, env.P.funcs[g]? = some fn ∧ (fn.name == "runtime.NumGoroutine") = false ∧ fn.body = some c := by
  unfold runCall at h
  split at h
  · rename_i fn hf hok
    split at h
    · cases h
    · rename_i c hb
      exact ⟨fn, c, hf, (hE.code g fn c hok hf hb).2, hb⟩
  · cases h

theorem runCall_ok (hE : EnvOk env) {k : Nat} (hO : CallOk env.P orc) (hL : LoopOk env k orc) {g : Nat} {args : List V} {out : Out} {xs : List Value} (h : runCall env orc g args H = some out)
    (hc : Canon 0 H) (hS : Sim ρ lab H w) (hx : RelL ρ lab w args xs) :
    Calls env.P g xs.toArray w (CallPost ρ lab H w out) ∧ ∃ fn c, env.P.funcs[g]? = some fn ∧ (fn.name == "runtime.NumGoroutine") = false ∧ fn.body = some c := by
  unfold runCall at h
  split at h
  · rename_i fn hf hok
    split at h
    · cases h
    · rename_i c hb
      obtain ⟨hB, hN⟩ := hE.code g fn c hok hf hb
      refine ⟨calls_of_wp hf hb ?_, fn, c, hf, hN, hb⟩
      have hF : FOk ρ lab w (bindArgs 0 args) { tmps := xs.toArray ++ Array.replicate (fn.ntmps - xs.toArray.size) undef, defers := [] } (xs.toArray ++ Array.replicate (fn.ntmps - xs.toArray.size) undef).size := by
        refine ⟨fun t => ?_, rfl, rfl⟩
        rw [look_bind, if_pos (Nat.zero_le _), Nat.sub_zero]
        cases hv : args[t]? with
        | none => exact .undef _
        | some v =>
          have hlt : t < xs.length := by
            rw [hx.1]
            rcases Nat.lt_or_ge t args.length with h1 | h1
            · exact h1
            · rw [List.getElem?_eq_none h1] at hv; cases hv
          have h2 : (xs.toArray ++ Array.replicate (fn.ntmps - xs.toArray.size) undef).getD t undef = xs[t] := by
            rw [Array.getD_eq_getD_getElem?, Array.getElem?_append_left (by simpa using hlt)]
            simp [hlt]
          simp only [Option.getD_some]
          rw [h2]
          exact hx.2 t v xs[t] hv (by simp [hlt])
      have hn : fn.ntmps ≤ (xs.toArray ++ Array.replicate (fn.ntmps - xs.toArray.size) undef).size := by simp; omega
      cases hev : evalCode env orc g H.length c (bindArgs 0 args) H with
      | none => rw [hev] at h; cases h
      | some r =>
        rw [hev] at h
        refine code_ok hE.meth hE.T hE.mixed hO hL c ρ lab w H _ _ r _ hB hn hev hS hF _ fun e a' w' hp => ?_
        obtain ⟨ex, fr', H1⟩ := r
        obtain ⟨ρ1, lab1, h1, h2, h3, h4, h5⟩ := hp
        have fin0 : ∀ {lab1 H1 v x v2 H2}, Ext lab w lab1 w' → Sim ρ1 lab1 H1 w' → Rel ρ1 lab1 w' v x → finish H.length v H1 = some (v2, H2) → Done ρ lab H w (tagOut (env.tags g) v2 H2).1 (tagOut (env.tags g) v2 H2).2 x w' := by
          intro lab1 H1 v x v2 H2 h2 h1 hv hfi
          obtain ⟨ρ2, lab2, k1, k2, k3, k4, k5, k6⟩ := finish_ok h1 hv hfi
          obtain ⟨ρ3, m1, m2, m3, m4, m5⟩ := tagOut_ok (b := env.tags g) k5 k1 k4
          exact ⟨ρ3, lab2, m2, h2.trans k2, (h3.trans k3 (Nat.le_refl _)).trans (Roots.of_le m1 _) (Nat.le_refl _), m3, m4, Nat.le_trans k6 m5⟩
        have fin : ∀ {v x v2 H2}, Rel ρ1 lab1 w' v x → finish H.length v H1 = some (v2, H2) → Done ρ lab H w (tagOut (env.tags g) v2 H2).1 (tagOut (env.tags g) v2 H2).2 x w' := fun hv hfi => fin0 h2 h1 hv hfi
        have res : ∀ {out' : Out}, FOk ρ1 lab1 w' fr' a' (xs.toArray ++ Array.replicate (fn.ntmps - xs.toArray.size) undef).size →
            (match resultV env.T fr' H1 fn.results.toList with
              | some v => match finish H.length (match env.tags g with | true => maskD (env.tagc g) (frzD (env.frz g) v H1).1 | false => sealD (frzD (env.frz g) v H1).1) (frzD (env.frz g) v H1).2 with
                | some (v, H2) => some (Out.ret (tagOut (env.tags g) v H2).1 (tagOut (env.tags g) v H2).2)
                | none => none
              | none => none) = some out' → ∃ x, (results fn a'.tmps).run env.P w' = .ok x w' ∧ CallPost ρ lab H w out' (.returned x) w' := by
          intro out' hf' h
          split at h
          · rename_i v hv
            split at h
            · rename_i v2 H2 hfi
              cases h
              obtain ⟨x, g1, g2⟩ := results_ok hE.T h1 hf'.rel hv
              obtain ⟨l3, q1, q2, q3⟩ := frzD_ok (b := env.frz g) h1 g2
              refine ⟨x, g1, fin0 (h2.trans q1) q2 ?_ hfi⟩
              split
              · exact q3.maskD
              · exact q3.sealD
            · cases h
          · cases h
        cases ex with
        | normal =>
          cases e with
          | normal => exact ⟨h4, res h5 h⟩
          | _ => exact h5.elim
        | ret =>
          cases e with
          | ret => exact ⟨h4, res h5 h⟩
          | _ => exact h5.elim
        | exit i => cases h
        | panic v =>
          cases e with
          | panic ch =>
            obtain ⟨x, rfl, hx'⟩ := h5
            simp only at h
            split at h
            · rename_i v2 H2 hfi
              cases h
              exact ⟨h4, x, rfl, fin hx' hfi⟩
            · cases h
          | _ => exact h5.elim
  · cases h

theorem runLoop_ok (hE : EnvOk env) {k : Nat} (hO : CallOk env.P orc) (hL : LoopOk env k orc) {f nr nt : Nat} {body : Code} {r : Res} (h : runLoop env orc f nr body fr H = some (.res r)) (hB : codeB env f nt body = true) (hn : nt ≤ n)
    (hS : Sim ρ lab H w) (hF : FOk ρ lab w fr a n) : Code.rounds env.P body (Post nr n ρ lab w r) (k + 1) a w := by
  rw [rounds_succ]
  unfold runLoop at h
  cases hev : evalCode env orc f nr body fr H with
  | none => rw [hev] at h; cases h
  | some r1 =>
    rw [hev] at h
    refine code_ok hE.meth hE.T hE.mixed hO hL body ρ lab w H fr a r1 n hB hn hev hS hF _ fun e a' w' hp => ?_
    obtain ⟨ex, fr', H1⟩ := r1
    have hp' := hp
    obtain ⟨ρ1, lab1, h1, h2, h3, h4, h5⟩ := hp
    cases ex with
    | normal =>
      simp only at h
      cases e with
      | normal =>
        split at h
        · rename_i fr2 H2 hnm
          obtain ⟨ρ2, lab2, k1, k2, k3, k4⟩ := normal_ok h1 h5.rel hnm
          have h6 : FOk ρ2 lab2 w' fr2 a' n := ⟨k4, h5.size, h4⟩
          exact rounds_mono (fun e a w hp => (hp.trans k2 k3).trans h2 h3) k a' w' (hL f nr body fr2 H2 r h ρ2 lab2 w' a' n nt hB hn k1 h6)
        · cases h
      | _ => exact h5.elim
    | ret =>
      cases h
      cases e with
      | ret => exact hp'
      | _ => exact h5.elim
    | exit i =>
      cases h
      cases e with
      | exit j => exact hp'
      | _ => exact h5.elim
    | panic v =>
      cases h
      cases e with
      | panic ch => exact hp'
      | _ => exact h5.elim

theorem run_ok (hE : EnvOk env) : ∀ k, CallOk env.P (run env k) ∧ LoopOk env k (run env k)
  | 0 => ⟨⟨fun g args H out h => (by cases h), fun g args H out h => (by cases h)⟩, fun f nr body fr H r h => (by cases h)⟩
  | k + 1 => by
    obtain ⟨hO, hL⟩ := run_ok hE k
    refine ⟨⟨fun g args H out h ρ lab w xs hc hS hx => ?_, fun g args H out h => ?_⟩, fun f nr body fr H r h ρ lab w a n nt hB hn hS hF => runLoop_ok hE hO hL h hB hn hS hF⟩
    · simp only [run, step] at h
      split at h
      · rename_i hh hi
        exact (hE.intr g hh hi).call args H out h ρ lab w xs hc hS hx
      · rename_i pre post hi
        split at h
        · rename_i g' l H' hp
          split at h
          · rename_i o ho
            exact (hE.via g pre post hi).call args H g' l H' o out hp h ρ lab w xs hc hS hx (fun ρ lab w ys hc2 hS2 hy => hO.call g' l H' o ho ρ lab w ys hc2 hS2 hy)
          · cases h
        · cases h
      · exact (runCall_ok hE hO hL h hc hS hx).1
    · simp only [run, step] at h
      split at h
      · rename_i hh hi
        exact (hE.intr g hh hi).known
      · rename_i pre post hi
        exact (hE.via g pre post hi).known
      · exact runCall_known hE h

end
end Go.Vm
/- The runs without a bound; from a run to the call. -/
namespace Go.Vm
set_option linter.unusedSimpArgs false
set_option linter.unusedVariables false
set_option linter.unusedSectionVars false
section
variable {env : Env} {orc orc' : Orc}

def OLe (a b : Orc) : Prop := ∀ t H o, a t H = some o → b t H = some o
/-- what has been found by an oracle that is the end of a chain has been found somewhere in the chain -/
structure Chain (c : Nat → Orc) (e : Orc) : Prop where
  le : ∀ k, OLe (c k) e
  up : ∀ k, OLe (c k) (c (k + 1))
  at_ : ∀ t H o, e t H = some o → ∃ k, c k t H = some o

theorem Chain.mono {c : Nat → Orc} {e : Orc} (h : Chain c e) : ∀ {j k : Nat}, j ≤ k → OLe (c j) (c k) := by
  intro j k hjk
  induction hjk with
  | refl => exact fun _ _ _ h => h
  | step _ ih => exact fun t H o ho => h.up _ t H o (ih t H o ho)

theorem quietVia_mono (h : OLe orc orc') {g : Nat} {args : List V} {H : Hp} {r : OpR} (hr : quietVia orc g args H = some r) : quietVia orc' g args H = some r := by
  unfold quietVia at hr ⊢
  split at hr
  · cases hr
  · split at hr
    · rename_i ho
      rw [h _ _ _ ho]
      exact hr
    · cases hr

theorem callVia_mono (h : OLe orc orc') {k g : Nat} {args : List V} {H : Hp} {r : OpR} (hr : callVia env orc k g args H = some r) : callVia env orc' k g args H = some r := by
  unfold callVia at hr ⊢
  split at hr
  · rename_i hq
    exact quietVia_mono h hr
  · simp only at hr ⊢
    split at hr
    · split at hr
      · rename_i ho
        rw [h _ _ _ ho]
        exact hr
      · rename_i ho
        rw [h _ _ _ ho]
        exact hr
      · cases hr
    · cases hr

theorem callW_mono (h : OLe orc orc') {k g : Nat} {args : List V} {H : Hp} {r : OpR} (hr : callW env orc k g args H = some r) : callW env orc' k g args H = some r := by
  unfold callW at hr ⊢
  split at hr
  · exact quietVia_mono h hr
  · split at hr
    · exact callVia_mono h hr
    · split at hr
      · rename_i ho
        rw [callVia_mono h ho]
        exact hr
      · cases hr
theorem opEff_mono (h : OLe orc orc') {fr : Fr} {H : Hp} {o : Oper} {r : OpR} (hr : opEff env orc fr H o = some r) : opEff env orc' fr H o = some r := by
  unfold opEff at hr ⊢
  split at hr <;> first
    | exact hr
    | (split at hr
       · first
         | exact callW_mono h hr
         | exact callVia_mono h hr
         | (split at hr
            · exact callVia_mono h hr
            · cases hr)
       · cases hr)

theorem opStep_mono (h : OLe orc orc') {fr : Fr} {H : Hp} {o : Oper} {r : OpR} (hr : opStep env orc fr H o = some r) : opStep env orc' fr H o = some r := by
  unfold opStep at hr ⊢
  split at hr
  · exact hr
  · exact opEff_mono h hr

theorem evalOps_mono (h : OLe orc orc') {ops : Array Oper} : ∀ {l : List Oper} {fr : Fr} {H : Hp} {r : Res}, evalOps env orc ops l fr H = some r → evalOps env orc' ops l fr H = some r
  | [], fr, H, r, hr => hr
  | o :: l, fr, H, r, hr => by
    simp only [evalOps] at hr ⊢
    cases hw : wantedV ops o fr with
    | none => rw [hw] at hr; cases hr
    | some b =>
      rw [hw] at hr
      cases b with
      | false => exact evalOps_mono h hr
      | true =>
        simp only at hr ⊢
        cases ho : opStep env orc fr H o with
        | none => rw [ho] at hr; cases hr
        | some x =>
          rw [ho] at hr
          rw [opStep_mono h ho]
          cases x with
          | val v H1 => exact evalOps_mono h hr
          | pan v H1 => exact hr

theorem evalOpsP_mono (h : OLe orc orc') {L sl : List Nat} {ops : Array Oper} : ∀ {l : List Oper} {fr : Fr} {H : Hp} {r : Res}, evalOpsP env orc L sl ops l fr H = some r → evalOpsP env orc' L sl ops l fr H = some r
  | [], fr, H, r, hr => hr
  | o :: l, fr, H, r, hr => by
    simp only [evalOpsP] at hr ⊢
    cases hw : wantedV ops o fr with
    | none => rw [hw] at hr; cases hr
    | some b =>
      rw [hw] at hr
      cases b with
      | false => exact evalOpsP_mono h hr
      | true =>
        simp only at hr ⊢
        cases hp : protB env L sl fr H o with
        | false => rw [hp] at hr; cases hr
        | true =>
        rw [hp] at hr
        simp only at hr ⊢
        cases ho : opStep env orc fr H o with
        | none => rw [ho] at hr; cases hr
        | some x =>
          rw [ho] at hr
          rw [opStep_mono h ho]
          cases x with
          | val v H1 => exact evalOpsP_mono h hr
          | pan v H1 => exact hr
theorem evalSep_mono (h : OLe orc orc') {nr : Nat} {S sl : List Nat} {ops : Array Oper} {fr : Fr} {H : Hp} {r : Res} (hr : evalSep env orc nr ops S sl fr H = some r) : evalSep env orc' nr ops S sl fr H = some r := by
  unfold evalSep at hr ⊢
  split at hr
  · cases hr
  · rename_i ho
    rw [evalOps_mono h ho]
    simp only
    split at hr
    · cases hr
    · cases hq : evalOpsP env orc _ sl ops (sepOps ops S) fr H with
      | none => rw [hq] at hr; cases hr
      | some x => rw [hq] at hr; rw [evalOpsP_mono h hq]; exact hr
theorem evalCode_mono (h : OLe orc orc') {f nr : Nat} : ∀ {c : Code} {fr : Fr} {H : Hp} {r : Res}, evalCode env orc f nr c fr H = some r → evalCode env orc' f nr c fr H = some r := by
  intro c
  induction c with
  | region id ops d =>
    intro fr H r hr
    simp only [evalCode] at hr ⊢
    split at hr
    · exact evalSep_mono h hr
    · cases ho : evalOps env orc ops ops.toList fr H with
      | none =>
        rw [ho] at hr
        cases hd : (d && env.loose f) <;> rw [hd] at hr <;> cases hr
      | some x => rw [ho] at hr; rw [evalOps_mono h ho]; exact hr
  | seq a b iha ihb =>
    intro fr H r hr
    simp only [evalCode] at hr ⊢
    cases ho : evalCode env orc f nr a fr H with
    | none => rw [ho] at hr; cases hr
    | some x =>
      rw [ho] at hr; rw [iha ho]
      obtain ⟨e, fr1, H1⟩ := x
      cases e with
      | normal =>
        simp only at hr ⊢
        split at hr
        · exact ihb hr
        · cases hr
      | _ => exact hr
  | cond c a b iha ihb =>
    intro fr H r hr
    simp only [evalCode] at hr ⊢
    split at hr
    · split at hr
      · exact iha hr
      · exact ihb hr
    · cases hr
  | block id a iha =>
    intro fr H r hr
    simp only [evalCode] at hr ⊢
    cases ho : evalCode env orc f nr a fr H with
    | none => rw [ho] at hr; cases hr
    | some x => rw [ho] at hr; rw [iha ho]; exact hr
  | loop a iha =>
    intro fr H r hr
    simp only [evalCode] at hr ⊢
    split at hr
    · split at hr
      · rename_i ho
        rw [h _ _ _ ho]
        exact hr
      · cases hr
    · cases hr
  | _ => exact fun hr => hr

theorem step_mono (h : OLe orc orc') : OLe (step env orc) (step env orc') := by
  intro t H o hr
  cases t with
  | call g args =>
    simp only [step] at hr ⊢
    split at hr
    · exact hr
    · split at hr
      · rename_i hp
        split at hr
        · rename_i ho
          rw [h _ _ _ ho]
          exact hr
        · cases hr
      · cases hr
    · unfold runCall at hr ⊢
      split at hr
      · split at hr
        · cases hr
        · rename_i hb
          try simp only
          cases ho : evalCode env orc g H.length _ (bindArgs 0 args) H with
          | none => rw [ho] at hr; cases hr
          | some x => rw [ho] at hr; rw [evalCode_mono h ho]; exact hr
      · cases hr
  | loop f nr body fr =>
    simp only [step, runLoop] at hr ⊢
    cases ho : evalCode env orc f nr body fr H with
    | none => rw [ho] at hr; cases hr
    | some x =>
      rw [ho] at hr; rw [evalCode_mono h ho]
      obtain ⟨e, fr1, H1⟩ := x
      cases e with
      | normal =>
        simp only at hr ⊢
        split at hr
        · exact h _ _ _ hr
        · cases hr
      | _ => exact hr

theorem run_up (env : Env) : ∀ k, OLe (run env k) (run env (k + 1))
  | 0 => fun t H o h => by cases h
  | k + 1 => step_mono (run_up env k)

open Classical in
/-- the runs without a bound -/
noncomputable def E (env : Env) : Orc := fun t H => if h : ∃ k o, run env k t H = some o then some (Classical.choose (Classical.choose_spec h)) else none

theorem run_chain (env : Env) : Chain (run env) (E env) := by
  have up := run_up env
  have mono : ∀ {j k : Nat}, j ≤ k → OLe (run env j) (run env k) := by
    intro j k hjk
    induction hjk with
    | refl => exact fun _ _ _ h => h
    | step _ ih => exact fun t H o ho => up _ t H o (ih t H o ho)
  have fn : ∀ {j k t H o o'}, run env j t H = some o → run env k t H = some o' → o = o' := by
    intro j k t H o o' h1 h2
    have h3 := mono (Nat.le_max_left j k) t H o h1
    have h4 := mono (Nat.le_max_right j k) t H o' h2
    rw [h3] at h4; cases h4; rfl
  refine ⟨fun k t H o h => ?_, up, fun t H o h => ?_⟩
  · have hex : ∃ k o, run env k t H = some o := ⟨k, o, h⟩
    unfold E
    rw [dif_pos hex]
    have := Classical.choose_spec (Classical.choose_spec hex)
    rw [fn this h]
  · unfold E at h
    split at h
    · rename_i hex
      cases h
      exact ⟨_, Classical.choose_spec (Classical.choose_spec hex)⟩
    · cases h

section
variable {c : Nat → Orc} {e : Orc}
theorem quietVia_cont (h : Chain c e) {g : Nat} {args : List V} {H : Hp} {r : OpR} (hr : quietVia e g args H = some r) : ∃ k, quietVia (c k) g args H = some r := by
  unfold quietVia at hr ⊢
  split at hr
  · cases hr
  · split at hr
    · rename_i ho
      obtain ⟨k, hk⟩ := h.at_ _ _ _ ho
      exact ⟨k, by rw [hk]; exact hr⟩
    · cases hr
theorem callVia_cont (h : Chain c e) {m g : Nat} {args : List V} {H : Hp} {r : OpR} (hr : callVia env e m g args H = some r) : ∃ k, callVia env (c k) m g args H = some r := by
  unfold callVia at hr ⊢
  split at hr
  · rename_i hq
    try simp only [hq]
    exact quietVia_cont h hr
  · rename_i hq
    simp only [hq] at hr ⊢
    split at hr
    · split at hr
      · rename_i ho
        obtain ⟨k, hk⟩ := h.at_ _ _ _ ho
        exact ⟨k, by rw [hk]; exact hr⟩
      · rename_i ho
        obtain ⟨k, hk⟩ := h.at_ _ _ _ ho
        exact ⟨k, by rw [hk]; exact hr⟩
      · cases hr
    · cases hr
theorem callW_cont (h : Chain c e) {m g : Nat} {args : List V} {H : Hp} {r : OpR} (hr : callW env e m g args H = some r) : ∃ k, callW env (c k) m g args H = some r := by
  cases hq : env.quiet g with
  | true =>
    simp only [callW, hq] at hr ⊢
    exact quietVia_cont h hr
  | false => cases hl : env.look g with
    | false =>
      simp only [callW, hq, hl] at hr ⊢
      exact callVia_cont h hr
    | true =>
      simp only [callW, hq, hl] at hr ⊢
      cases ho : callVia env e m g args H with
      | none => rw [ho] at hr; cases hr
      | some r0 =>
        rw [ho] at hr
        obtain ⟨k, hk⟩ := callVia_cont h ho
        exact ⟨k, by rw [hk]; exact hr⟩
theorem opEff_cont (h : Chain c e) {fr : Fr} {H : Hp} {o : Oper} {r : OpR} (hr : opEff env e fr H o = some r) : ∃ k, opEff env (c k) fr H o = some r := by
  unfold opEff at hr ⊢
  split at hr <;> first
    | exact ⟨0, hr⟩
    | (split at hr
       · first
         | exact callW_cont h hr
         | exact callVia_cont h hr
         | (split at hr
            · exact callVia_cont h hr
            · cases hr)
       · cases hr)
theorem opStep_cont (h : Chain c e) {fr : Fr} {H : Hp} {o : Oper} {r : OpR} (hr : opStep env e fr H o = some r) : ∃ k, opStep env (c k) fr H o = some r := by
  unfold opStep at hr ⊢
  split at hr
  · exact ⟨0, hr⟩
  · exact opEff_cont h hr
theorem evalOps_cont (h : Chain c e) {ops : Array Oper} : ∀ {l : List Oper} {fr : Fr} {H : Hp} {r : Res}, evalOps env e ops l fr H = some r → ∃ k, evalOps env (c k) ops l fr H = some r
  | [], fr, H, r, hr => ⟨0, hr⟩
  | o :: l, fr, H, r, hr => by
    simp only [evalOps] at hr ⊢
    cases hw : wantedV ops o fr with
    | none => rw [hw] at hr; cases hr
    | some b =>
      rw [hw] at hr
      cases b with
      | false => exact evalOps_cont h hr
      | true =>
        simp only at hr ⊢
        cases ho : opStep env e fr H o with
        | none => rw [ho] at hr; cases hr
        | some x =>
          rw [ho] at hr
          obtain ⟨k, hk⟩ := opStep_cont h ho
          cases x with
          | val v H1 =>
            obtain ⟨j, hj⟩ := evalOps_cont h hr
            refine ⟨max k j, ?_⟩
            rw [opStep_mono (h.mono (Nat.le_max_left k j)) hk]
            exact evalOps_mono (h.mono (Nat.le_max_right k j)) hj
          | pan v H1 => exact ⟨k, by rw [hk]; exact hr⟩
theorem evalOpsP_cont (h : Chain c e) {L sl : List Nat} {ops : Array Oper} : ∀ {l : List Oper} {fr : Fr} {H : Hp} {r : Res}, evalOpsP env e L sl ops l fr H = some r → ∃ k, evalOpsP env (c k) L sl ops l fr H = some r
  | [], fr, H, r, hr => ⟨0, hr⟩
  | o :: l, fr, H, r, hr => by
    simp only [evalOpsP] at hr ⊢
    cases hw : wantedV ops o fr with
    | none => rw [hw] at hr; cases hr
    | some b =>
      rw [hw] at hr
      cases b with
      | false => exact evalOpsP_cont h hr
      | true =>
        simp only at hr ⊢
        cases hp : protB env L sl fr H o with
        | false => rw [hp] at hr; cases hr
        | true =>
        rw [hp] at hr
        simp only at hr ⊢
        cases ho : opStep env e fr H o with
        | none => rw [ho] at hr; cases hr
        | some x =>
          rw [ho] at hr
          obtain ⟨k, hk⟩ := opStep_cont h ho
          cases x with
          | val v H1 =>
            obtain ⟨j, hj⟩ := evalOpsP_cont h hr
            refine ⟨max k j, ?_⟩
            rw [opStep_mono (h.mono (Nat.le_max_left k j)) hk]
            exact evalOpsP_mono (h.mono (Nat.le_max_right k j)) hj
          | pan v H1 => exact ⟨k, by rw [hk]; exact hr⟩
theorem evalSep_cont (h : Chain c e) {nr : Nat} {S sl : List Nat} {ops : Array Oper} {fr : Fr} {H : Hp} {r : Res} (hr : evalSep env e nr ops S sl fr H = some r) : ∃ k, evalSep env (c k) nr ops S sl fr H = some r := by
  unfold evalSep at hr
  split at hr
  · cases hr
  · rename_i ho
    obtain ⟨k, hk⟩ := evalOps_cont h ho
    split at hr
    · cases hr
    · rename_i hL
      cases hq : evalOpsP env e _ sl ops (sepOps ops S) fr H with
      | none => rw [hq] at hr; cases hr
      | some x =>
        rw [hq] at hr
        obtain ⟨j, hj⟩ := evalOpsP_cont h hq
        refine ⟨max k j, ?_⟩
        unfold evalSep
        rw [evalOps_mono (h.mono (Nat.le_max_left k j)) hk]
        simp only [hL]
        rw [evalOpsP_mono (h.mono (Nat.le_max_right k j)) hj]
        exact hr
theorem evalCode_cont (h : Chain c e) {f nr : Nat} : ∀ {d : Code} {fr : Fr} {H : Hp} {r : Res}, evalCode env e f nr d fr H = some r → ∃ k, evalCode env (c k) f nr d fr H = some r := by
  intro d
  induction d with
  | region id ops d =>
    intro fr H r hr
    simp only [evalCode] at hr ⊢
    split at hr
    · exact evalSep_cont h hr
    · cases ho : evalOps env e ops ops.toList fr H with
      | none =>
        rw [ho] at hr
        cases hd : (d && env.loose f) <;> rw [hd] at hr <;> cases hr
      | some x => rw [ho] at hr; obtain ⟨k, hk⟩ := evalOps_cont h ho; exact ⟨k, by rw [hk]; exact hr⟩
  | seq a b iha ihb =>
    intro fr H r hr
    simp only [evalCode] at hr ⊢
    cases ho : evalCode env e f nr a fr H with
    | none => rw [ho] at hr; cases hr
    | some x =>
      rw [ho] at hr
      obtain ⟨k, hk⟩ := iha ho
      obtain ⟨ex, fr1, H1⟩ := x
      cases ex with
      | normal =>
        simp only at hr ⊢
        split at hr
        · rename_i hcu
          obtain ⟨j, hj⟩ := ihb hr
          refine ⟨max k j, ?_⟩
          rw [evalCode_mono (h.mono (Nat.le_max_left k j)) hk]
          simp only [hcu]
          exact evalCode_mono (h.mono (Nat.le_max_right k j)) hj
        · cases hr
      | _ => exact ⟨k, by rw [hk]; exact hr⟩
  | cond c a b iha ihb =>
    intro fr H r hr
    simp only [evalCode] at hr ⊢
    cases hc : ev fr c with
    | none => rw [hc] at hr; cases hr
    | some v =>
      rw [hc] at hr
      cases v with
      | bool t => cases t with
        | true => exact iha hr
        | false => exact ihb hr
      | _ => cases hr
  | block id a iha =>
    intro fr H r hr
    simp only [evalCode] at hr ⊢
    cases ho : evalCode env e f nr a fr H with
    | none => rw [ho] at hr; cases hr
    | some x => rw [ho] at hr; obtain ⟨k, hk⟩ := iha ho; exact ⟨k, by rw [hk]; exact hr⟩
  | loop a iha =>
    intro fr H r hr
    simp only [evalCode] at hr ⊢
    cases hn : normal env f nr (loopId a) fr H with
    | none => rw [hn] at hr; cases hr
    | some x =>
      rw [hn] at hr
      simp only at hr ⊢
      split at hr
      · rename_i ho
        obtain ⟨k, hk⟩ := h.at_ _ _ _ ho
        exact ⟨k, by rw [hk]; exact hr⟩
      · cases hr
  | _ => intro fr H r hr; first | exact ⟨0, hr⟩ | cases hr
theorem step_cont (h : Chain c e) {t : Task} {H : Hp} {o : Out} (hr : step env e t H = some o) : ∃ k, step env (c k) t H = some o := by
  cases t with
  | call g args =>
    simp only [step] at hr ⊢
    cases hi : env.intr g with
    | some f =>
      rw [hi] at hr
      cases f with
      | plain f => exact ⟨0, hr⟩
      | via pre post =>
        simp only at hr ⊢
        split at hr
        · rename_i hp
          split at hr
          · rename_i ho
            obtain ⟨k, hk⟩ := h.at_ _ _ _ ho
            exact ⟨k, by rw [hk]; exact hr⟩
          · cases hr
        · cases hr
    | none =>
      rw [hi] at hr
      simp only at hr ⊢
      unfold runCall at hr ⊢
      split at hr
      · rename_i fn hf hok
        split at hr
        · cases hr
        · rename_i d hb
          try simp only [hb]
          cases ho : evalCode env e g H.length d (bindArgs 0 args) H with
          | none => rw [ho] at hr; cases hr
          | some x =>
            rw [ho] at hr
            obtain ⟨k, hk⟩ := evalCode_cont h ho
            exact ⟨k, by rw [hk]; exact hr⟩
      · cases hr
  | loop f nr body fr =>
    simp only [step, runLoop] at hr ⊢
    cases ho : evalCode env e f nr body fr H with
    | none => rw [ho] at hr; cases hr
    | some x =>
      rw [ho] at hr
      obtain ⟨k, hk⟩ := evalCode_cont h ho
      obtain ⟨ex, fr1, H1⟩ := x
      cases ex with
      | normal =>
        simp only at hr ⊢
        cases hn : normal env f nr (loopId body) fr1 H1 with
        | none => rw [hn] at hr; cases hr
        | some y =>
          rw [hn] at hr
          simp only at hr
          obtain ⟨j, hj⟩ := h.at_ _ _ _ hr
          refine ⟨max k j, ?_⟩
          rw [evalCode_mono (h.mono (Nat.le_max_left k j)) hk]
          simp only [hn]
          exact h.mono (Nat.le_max_right k j) _ _ _ hj
      | _ => exact ⟨k, by rw [hk]; exact hr⟩
end

/-- the runs without a bound go step by step -/
theorem E_step {t : Task} {H : Hp} {o : Out} (h : step env (E env) t H = some o) : E env t H = some o := by
  obtain ⟨k, hk⟩ := step_cont (run_chain env) h
  exact (run_chain env).le (k + 1) t H o hk

theorem E_call {g : Nat} {args : List V} {H : Hp} {o : Out} (hi : env.intr g = none) (h : runCall env (E env) g args H = some o) : E env (.call g args) H = some o :=
  E_step (by simp only [step, hi]; exact h)
theorem E_loop {f nr : Nat} {body : Code} {fr : Fr} {H : Hp} {o : Out} (h : runLoop env (E env) f nr body fr H = some o) : E env (.loop f nr body fr) H = some o := E_step h

/-- a call with values alone -/
theorem calls_of_E (hE : EnvOk env) {g : Nat} {args : List V} {v : V} {xs : List Value} {w : World} (h : E env (.call g args) [] = some (.ret v [])) (hx : RelL ⟨fun _ => none, fun _ _ => none⟩ (fun _ _ => none) w args xs) :
    Calls env.P g xs.toArray w fun e w' => ∃ x ρ lab, e = .returned x ∧ Rel ρ lab w' v x ∧ RowKit.Below w.heap.size w w' := by
  obtain ⟨k, hk⟩ := (run_chain env).at_ _ _ _ h
  refine ((run_ok hE k).1.call g args [] _ hk ⟨fun _ => none, fun _ _ => none⟩ (fun _ _ => none) w xs trivial ?_ hx).mono fun e w' he => ?_
  · exact ⟨fun k cs h => (by cases h), fun k e cs h => (by cases h), fun k e n h => (by cases h), fun k n x h => (by cases h), fun k x h => (by cases h), fun b o k h => (by cases h)⟩
  · cases e with
    | returned x =>
      obtain ⟨ρ', lab', h1, h2, h3, h4, h5⟩ := he
      exact ⟨x, ρ', lab', rfl, h4, ⟨h2.os, h2.tape, h2.output, h2.size, fun b hb => h2.blk b hb (fun o k h => by cases h)⟩⟩
    | panicked ch => exact he.elim
    | outgrown => exact he.elim

theorem calls_true (hE : EnvOk env) {g : Nat} {args : List V} {xs : List Value} {w : World} (h : E env (.call g args) [] = some (.ret (.bool true) [])) (hx : RelL ⟨fun _ => none, fun _ _ => none⟩ (fun _ _ => none) w args xs) :
    Calls env.P g xs.toArray w fun e w' => e = .returned (.bool true) ∧ RowKit.Below w.heap.size w w' :=
  (calls_of_E hE h hx).mono fun e w' ⟨x, ρ, lab, h1, h2, h3⟩ => by cases h2; exact ⟨h1, h3⟩
end
end Go.Vm
/- Stepping, with calls and loops. -/
namespace Go.Vm
set_option linter.unusedSimpArgs false
set_option linter.unusedVariables false
set_option linter.unusedSectionVars false
section
variable {env : Env} {orc : Orc} {f nr : Nat} {ops : Array Oper} {o : Oper} {rest : List Oper} {fr fr1 : Fr} {H H1 : Hp} {r : Option Res} {v : V} {K : Res → Prop}

/-- a Bool that was put last is looked at -/
theorem os_bool {t : Nat} {c : Bool} (h1 : c = true → Os env orc ops rest ((t, .bool true) :: fr) H K) (h2 : c = false → Os env orc ops rest ((t, .bool false) :: fr) H K) : Os env orc ops rest ((t, .bool c) :: fr) H K := by
  cases c with
  | true => exact h1 rfl
  | false => exact h2 rfl

/-- a call of a function that takes and gives values alone -/
theorem os_quiet {g : Nat} {args : Array Operand} {at_ : Array TypeId} {l l2 : List V} {v v2 : V} (hw : wantedV ops o fr = some true) (ho : o.op = .call ⟨.value (.func g), args, at_⟩) (hq : env.quiet g = true)
    (hl : evL fr args.toList = some l) (hr : mapO (renV noName dep) (l.map sealA) = some l2) (hc : orc (.call g l2) [] = some (.ret v [])) (hv : renV noName dep v = some v2)
    (h : Os env orc ops rest (putO o.dst v2 fr) H K) : Os env orc ops (o :: rest) fr H K := by
  have hp : isPure o.op = false := by rw [ho]; rfl
  refine os_eff0 hw hp (v := v2) (H1 := H) ?_ h
  unfold opEff
  rw [ho]
  simp only [ev, hl, List.nil_append, List.append_nil, callW, hq, quietVia, hr, hc, hv]

theorem os_quietv {g : Nat} {f : Operand} {args : Array Operand} {at_ : Array TypeId} {l l2 : List V} {v v2 : V} (hw : wantedV ops o fr = some true) (ho : o.op = .call ⟨.value f, args, at_⟩) (hf : ev fr f = some (.func (.func g) [] []))
    (hq : env.quiet g = true) (hl : evL fr args.toList = some l) (hr : mapO (renV noName dep) (l.map sealA) = some l2) (hc : orc (.call g l2) [] = some (.ret v [])) (hv : renV noName dep v = some v2)
    (h : Os env orc ops rest (putO o.dst v2 fr) H K) : Os env orc ops (o :: rest) fr H K := by
  have hp : isPure o.op = false := by rw [ho]; rfl
  refine os_eff0 hw hp (v := v2) (H1 := H) ?_ h
  unfold opEff
  rw [ho]
  simp only [hf, hl, List.nil_append, List.append_nil, callW, hq, quietVia, hr, hc, hv]

/-- a call of a function, with the objects that it can come to -/
theorem os_call {g : Nat} {args : Array Operand} {at_ : Array TypeId} {l : List V} {v : V} (hw : wantedV ops o fr = some true) (ho : o.op = .call ⟨.value (.func g), args, at_⟩)
    (hl : evL fr args.toList = some l) (hc : callW env orc (newName o) g l H = some (.val v H1))
    (h : Os env orc ops rest (putO o.dst v fr) H1 K) : Os env orc ops (o :: rest) fr H K := by
  have hp : isPure o.op = false := by rw [ho]; rfl
  refine os_eff0 hw hp (v := v) (H1 := H1) ?_ h
  unfold opEff
  rw [ho]
  simp only [ev, hl, List.nil_append, List.append_nil, hc]

/-- what a call is handed: names, arguments, objects -/
def callPre (env : Env) (g : Nat) (args : List V) (H : Hp) : Option (List Nat × List V × Hp) :=
  fL (sealArgs (env.argTags g) (env.argT g) args) fun args1 =>
  fN (reach H 99 (args1.flatMap (namesV dep)) []) fun ns =>
  match mapO (renV (idx · ns) dep) args1, pickO H (idx · ns) ns 0 with
  | some args2, some H2 => fL args2 fun args2 => fH H2 fun H2 =>
    fL (tagArgs (env.argTags g) args2 ns.length).1 fun a1 =>
    fH ((tagRows H2 (tagArgs (env.argTags g) args2 ns.length).2).1 ++ tips ns.length ((tagRows H2 (tagArgs (env.argTags g) args2 ns.length).2).2 - ns.length)) fun Hb =>
    fL (fullC env.full a1 Hb).1 fun ac => fH (fullC env.full a1 Hb).2 fun Hc => some (ns, ac, Hc)
  | _, _ => none
theorem callPre_some {g : Nat} {args ac : List V} {ns : List Nat} {Hc : Hp} (h : callPre env g args H = some (ns, ac, Hc)) : ∃ args2 H2, reach H 99 ((sealArgs (env.argTags g) (env.argT g) args).flatMap (namesV dep)) [] = ns ∧
    mapO (renV (idx · ns) dep) (sealArgs (env.argTags g) (env.argT g) args) = some args2 ∧ pickO H (idx · ns) ns 0 = some H2 ∧
    fullC env.full (tagArgs (env.argTags g) args2 ns.length).1 ((tagRows H2 (tagArgs (env.argTags g) args2 ns.length).2).1 ++ tips ns.length ((tagRows H2 (tagArgs (env.argTags g) args2 ns.length).2).2 - ns.length)) = (ac, Hc) := by
  unfold callPre at h
  simp only [fL_eq, fN_eq, fH_eq] at h
  generalize hns : reach H 99 ((sealArgs (env.argTags g) (env.argT g) args).flatMap (namesV dep)) [] = ns' at h
  split at h
  · rename_i args2 H2 h1 h2
    simp only [Option.some.injEq, Prod.mk.injEq] at h
    obtain ⟨rfl, h3, h4⟩ := h
    exact ⟨args2, H2, rfl, h1, h2, Prod.ext h3 h4⟩
  · cases h
theorem callVia_eq {k g : Nat} {args ac : List V} {ns : List Nat} {H3 H4 Hc : Hp} {v v4 : V} (hq : (env.quiet g || env.look g) = false) (hp : callPre env g args H = some (ns, ac, Hc)) (hc : orc (.call g ac) Hc = some (.ret v H3)) (h7 : forceD (renV (backName ns k) dep v) = some v4)
    (h8 : forceHO (mergeH (backName ns k) H3 H) = some H4) (h9 : freshC H H3 k ns.length = true) : callW env orc k g args H = some (.val v4 H4) := by
  obtain ⟨hq, hlk⟩ := Bool.or_eq_false_iff.1 hq
  rw [forceHO_eq] at h8
  rw [forceD_eq] at h7
  obtain ⟨args2, H2, h1, h2, h3, h4⟩ := callPre_some hp
  simp only [callW, hlk, callVia, hq, h1, h2, h3, h4, hc, h7, h8, h9]
theorem callVia_eqP {k g : Nat} {args ac : List V} {ns : List Nat} {H3 H4 Hc : Hp} {v v4 : V} (hq : (env.quiet g || env.look g) = false) (hp : callPre env g args H = some (ns, ac, Hc)) (hc : orc (.call g ac) Hc = some (.pan v H3)) (h7 : forceD (renV (backName ns k) dep v) = some v4)
    (h8 : forceHO (mergeH (backName ns k) H3 H) = some H4) (h9 : freshC H H3 k ns.length = true) : callW env orc k g args H = some (.pan v4 H4) := by
  obtain ⟨hq, hlk⟩ := Bool.or_eq_false_iff.1 hq
  rw [forceHO_eq] at h8
  rw [forceD_eq] at h7
  obtain ⟨args2, H2, h1, h2, h3, h4⟩ := callPre_some hp
  simp only [callW, hlk, callVia, hq, h1, h2, h3, h4, hc, h7, h8, h9]

/-- a function that only looks -/
theorem callVia_look {k g : Nat} {args ac : List V} {ns : List Nat} {H3 Hc : Hp} {v v4 : V} (hq : env.quiet g = false) (hlk : env.look g = true) (hp : callPre env g args H = some (ns, ac, Hc)) (hc : orc (.call g ac) Hc = some (.ret v H3)) (h7 : forceD (renV (backName ns k) dep v) = some v4)
    (h8 : forceHO (mergeH (backName ns k) H3 H) = some H) (h9 : freshC H H3 k ns.length = true) : callW env orc k g args H = some (.val v4 H) := by
  rw [forceHO_eq] at h8
  rw [forceD_eq] at h7
  obtain ⟨args2, H2, h1, h2, h3, h4⟩ := callPre_some hp
  simp only [callW, hlk, callVia, hq, h1, h2, h3, h4, hc, h7, h8, h9, lookR, sameH_refl]
/-- an operation is looked at only if the Bool that was put last is so -/
theorem os_guard {j d : Nat} {w c : Bool} {fr' : Fr} (hg : o.guard = some (j, w)) (hd : (ops[j]?).bind (·.dst) = some d) (hf : fr = (d, .bool c) :: fr')
    (h1 : c = true → Os env orc ops (o :: rest) ((d, .bool true) :: fr') H K) (h2 : c = false → Os env orc ops (o :: rest) ((d, .bool false) :: fr') H K) : Os env orc ops (o :: rest) fr H K := by
  subst hf
  cases c with
  | true => exact h1 rfl
  | false => exact h2 rfl
theorem ev_if {c : Operand} {a b : Code} {t : Bool} (hc : ev fr c = some (.bool t)) (h1 : t = true → Ev env orc f nr a fr H K) (h2 : t = false → Ev env orc f nr b fr H K) : Ev env orc f nr (.cond c a b) fr H K := by
  cases t with
  | true => exact ev_true hc rfl (h1 rfl)
  | false => exact ev_false hc rfl (h2 rfl)

theorem wrap64 {x : Int} (h1 : -9223372036854775808 ≤ x) (h2 : x < 9223372036854775808) : IntKind.wrap .i64 x = x := by
  simp only [IntKind.wrap, IntKind.bits, IntKind.signed]; simp; split <;> omega
theorem addN {i k : Nat} (h : i + k < 9223372036854775808) : forceO (some (.int .i64 (IntKind.wrap .i64 ((i : Int) + (k : Int))))) = some (.int .i64 ((i + k : Nat) : Int)) := by
  rw [wrap64 (by omega) (by omega)]; simp [forceO, fV]
theorem subN {i k : Nat} (h : k ≤ i) (hi : i < 9223372036854775808) : forceO (some (.int .i64 (IntKind.wrap .i64 ((i : Int) - (k : Int))))) = some (.int .i64 ((i - k : Nat) : Int)) := by
  rw [wrap64 (by omega) (by omega)]; simp only [forceO, fV]; congr 2; omega
theorem add1 {i : Nat} (h : i < 9223372036854775807) : forceO (some (.int .i64 (IntKind.wrap .i64 ((i : Int) + 1)))) = some (.int .i64 ((i + 1 : Nat) : Int)) := addN (k := 1) (by omega)
theorem add2 {i : Nat} (h : i < 9223372036854775806) : forceO (some (.int .i64 (IntKind.wrap .i64 ((i : Int) + 2)))) = some (.int .i64 ((i + 2 : Nat) : Int)) := addN (k := 2) (by omega)
theorem sub1 {i : Nat} (h : 1 ≤ i) (hi : i < 9223372036854775808) : forceO (some (.int .i64 (IntKind.wrap .i64 ((i : Int) - 1)))) = some (.int .i64 ((i - 1 : Nat) : Int)) := subN (k := 1) h hi
theorem inR_ok {i n : Nat} (h : i < n) : inR (i : Int) n = true := by simp only [inR, Bool.and_eq_true, decide_eq_true_eq]; omega
theorem inI_ok {a b n : Nat} (h1 : a ≤ b) (h2 : b ≤ n) : inI (a : Int) (b : Int) n = true := by simp only [inI, Bool.and_eq_true, decide_eq_true_eq]; omega
theorem ltN (a b : Nat) : ltB (a : Int) (b : Int) = decide (a < b) := by simp only [ltB]; congr 1; simp
theorem leN_ (a b : Nat) : leB (a : Int) (b : Int) = decide (a ≤ b) := by simp only [leB]; congr 1; simp
theorem eqN_ (a b : Nat) : eqB (a : Int) (b : Int) = decide (a = b) := by simp only [eqB]; rw [Bool.eq_iff_iff]; simp; omega
theorem leN_ok {a b : Nat} (h : a ≤ b) : leN a b = true := by simp [leN, h]
theorem eqN_ok {a b : Nat} (h : a = b) : eqN a b = true := by simp [eqN, h]

theorem app_tag {T : List (Nat × Ty)} {t xt e g n m w k : Nat} {y yx ye : Ty} {cs news : List V} {x : V} (h1 : tyOf t T = some y) (h2 : tyOf xt T = some yx) (h3 : y.sh = .slice e) (h4 : isSrc yx.sh = true) (h5 : tyOf e T = some ye)
    (h6 : vNews T e x H = some (m, news)) (h7 : Nat.beq m 0 = false) (h8 : hget g H = some (.tip w n)) (h9 : w = 0 ∨ w = ye.size) (h10 : Nat.beq ye.size 0 = false) (h11 : n * ye.size = cs.length) (h12 : (n + m) * (ye.bytes + 1) ≤ 70368744177664) :
    vAppend T t xt (.slice (.tag g) n cs) x H k = some (.val (.slice (.tag g) (n + m) (cs ++ news)) (hset g (.tip ye.size (n + m)) H)) := by
  have hw : (Nat.beq w 0 || Nat.beq w ye.size) = true := by rcases h9 with rfl | rfl <;> simp
  simp only [vAppend, h1, h2, h3, h4, h5, h6, h7, h8, hw, h10, eqN_ok rfl, eqN_ok h11, leN_ok h12, Bool.not_false, Bool.and_self, gd]
theorem os_load {t : Nat} {a : Operand} {x v : V} (hw : wantedV ops o fr = some true) (ho : o.op = .load t a) (ha : ev fr a = some x) (hl : vLoad env.T t x H = some v) (h : Os env orc ops rest (putO o.dst v fr) H K) : Os env orc ops (o :: rest) fr H K := by
  have hp : isPure o.op = false := by rw [ho]; rfl
  refine os_eff0 hw hp (v := v) (H1 := H) ?_ h
  unfold opEff
  rw [ho]
  simp only [ha, hl]
theorem os_conv {a b : Nat} {c : Operand} {x v : V} (hw : wantedV ops o fr = some true) (ho : o.op = .convert a b c) (ha : ev fr c = some x) (hl : vConv env.T a b x = some v) (h : Os env orc ops rest (putO o.dst v fr) H K) : Os env orc ops (o :: rest) fr H K := by
  have hp : isPure o.op = true := by rw [ho]; rfl
  refine os_pure0 hw hp (v := v) ?_ h
  rw [ho]
  simp only [vPure, ha, hl]
theorem unBytes_ok : ∀ l : List UInt8, unBytes (bytesV l) = some l
  | [] => rfl
  | b :: r => by
    have := unBytes_ok r
    simp only [bytesV, List.map_cons] at this ⊢
    simp only [unBytes, this]
    congr 2
    simp
theorem half {x : Nat} (h : x < 9223372036854775808) : forceO (gd (!eqB (2 : Int) 0) (some (.int .i64 (IntKind.wrap .i64 ((x : Int).tdiv 2))))) = some (.int .i64 ((x / 2 : Nat) : Int)) := by
  have : (x : Int).tdiv 2 = ((x / 2 : Nat) : Int) := by rw [Int.tdiv_eq_ediv_of_nonneg (by omega)]; omega
  rw [this, wrap64 (by omega) (by omega)]
  have : (!eqB (2 : Int) 0) = true := by simp [eqB]
  rw [this]; rfl
theorem os_append {n' : Nat} {cs' : List V} {args : Array Operand} {at_ : Array TypeId} {a b : Operand} {t xt e g n m w : Nat} {y yx ye : Ty} {cs news : List V} {x : V} (hw : wantedV ops o fr = some true) (ho : o.op = .call ⟨.builtin .append, args, at_⟩)
    (ha : args.toList = [a, b]) (ht : at_.toList = [t, xt]) (hs : ev fr a = some (.slice (.tag g) n cs)) (hx : ev fr b = some x)
    (h1 : tyOf t env.T = some y) (h2 : tyOf xt env.T = some yx) (h3 : y.sh = .slice e) (h4 : isSrc yx.sh = true) (h5 : tyOf e env.T = some ye)
    (h6 : vNews env.T e x H = some (m, news)) (h7 : Nat.beq m 0 = false) (h8 : hget g H = some (.tip w n)) (h9 : w = 0 ∨ w = ye.size) (h10 : Nat.beq ye.size 0 = false) (h11 : n * ye.size = cs.length) (h12 : (n + m) * (ye.bytes + 1) ≤ 70368744177664)
    (hn : n + m = n') (hcs : cs ++ news = cs') (hH : forceHO (some (hset g (.tip ye.size n') H)) = some H1)
    (h : Os env orc ops rest (putO o.dst (.slice (.tag g) n' cs') fr) H1 K) : Os env orc ops (o :: rest) fr H K := by
  have hp : isPure o.op = false := by rw [ho]; rfl
  rw [forceHO_eq, Option.some.injEq] at hH
  subst hH hn hcs
  refine os_eff0 hw hp ?_ h
  unfold opEff
  rw [ho]
  simp only [ha, ht, hs, hx]
  exact app_tag h1 h2 h3 h4 h5 h6 h7 h8 h9 h10 h11 h12


/-- a loop: what it leaves -/
def Lp (env : Env) (f nr : Nat) (body : Code) (fr : Fr) (H : Hp) (K : Res → Prop) : Prop := ∃ r, E env (.loop f nr body fr) H = some (.res r) ∧ K r
def roundK (env : Env) (f nr : Nat) (body : Code) (K : Res → Prop) : Res → Prop
  | (.normal, fr, H) => ∃ fr1 H1, normal env f nr (loopId body) fr H = some (fr1, H1) ∧ Lp env f nr body fr1 H1 K
  | r => K r
theorem lp_round {body : Code} (h : Ev env (E env) f nr body fr H (roundK env f nr body K)) : Lp env f nr body fr H K := by
  obtain ⟨⟨e, fr1, H1⟩, h1, h2⟩ := h
  cases e with
  | normal =>
    obtain ⟨fr2, H2, h3, r, h4, h5⟩ := h2
    exact ⟨r, E_loop (by simp only [runLoop, h1, h3]; exact h4), h5⟩
  | ret => exact ⟨_, E_loop (by simp only [runLoop, h1]), h2⟩
  | exit i => exact ⟨_, E_loop (by simp only [runLoop, h1]), h2⟩
  | panic v => exact ⟨_, E_loop (by simp only [runLoop, h1]), h2⟩
theorem ev_loop {body : Code} (hn : normal env f nr (loopId body) fr H = some (fr1, H1)) (h : Lp env f nr body fr1 H1 K) : Ev env (E env) f nr (.loop body) fr H K := by
  obtain ⟨r, h1, h2⟩ := h
  exact ⟨r, by simp only [evalCode, hn, h1], h2⟩
theorem Lp.mono {body : Code} {K K' : Res → Prop} (h : Lp env f nr body fr H K) (hk : ∀ r, K r → K' r) : Lp env f nr body fr H K' := by
  obtain ⟨r, h1, h2⟩ := h; exact ⟨r, h1, hk r h2⟩
theorem call_ret {g : Nat} {fn : Func} {c : Code} {args : List V} {v1 : V} {H2 : Hp} (hi : env.intr g = none) (hf : env.P.funcs[g]? = some fn) (hok : env.ok g = true) (hb : fn.body = some c)
    (h : Ev env (E env) g H.length c (bindArgs 0 args) H (RetK env H.length fn.results.toList (env.frz g) (env.tags g) (env.tagc g) v1 H2)) : E env (.call g args) H = some (.ret v1 H2) :=
  E_call hi (run_ret hf hok hb h)
theorem call_out {g : Nat} {fn : Func} {c : Code} {args : List V} {out : Out} (hi : env.intr g = none) (hf : env.P.funcs[g]? = some fn) (hok : env.ok g = true) (hb : fn.body = some c)
    (h : Ev env (E env) g H.length c (bindArgs 0 args) H (OutK env g H.length fn.results.toList out)) : E env (.call g args) H = some out :=
  E_call hi (run_out hf hok hb h)
/-- what a call gives, as far as it is said -/
def RetP (env : Env) (nr : Nat) (l : List ResultVar) (fz tg : Bool) (m : Nat → Bool) (P : V → Hp → Prop) : Res → Prop
  | (.ret, fr, H1) | (.normal, fr, H1) => ∃ v v1 H2, resultV env.T fr H1 l = some v ∧ finT fz tg m nr v H1 = some (v1, H2) ∧ P v1 H2
  | _ => False
theorem call_retP {g : Nat} {fn : Func} {c : Code} {args : List V} {P : V → Hp → Prop} (hi : env.intr g = none) (hf : env.P.funcs[g]? = some fn) (hok : env.ok g = true) (hb : fn.body = some c)
    (h : Ev env (E env) g H.length c (bindArgs 0 args) H (RetP env H.length fn.results.toList (env.frz g) (env.tags g) (env.tagc g) P)) : ∃ v H2, E env (.call g args) H = some (.ret v H2) ∧ P v H2 := by
  obtain ⟨⟨e, fr1, H1⟩, h1, h2⟩ := h
  cases e with
  | normal =>
    obtain ⟨v, v1, H2, h3, h4, h5⟩ := h2
    exact ⟨v1, H2, call_ret hi hf hok hb ⟨_, h1, v, h3, h4⟩, h5⟩
  | ret =>
    obtain ⟨v, v1, H2, h3, h4, h5⟩ := h2
    exact ⟨v1, H2, call_ret hi hf hok hb ⟨_, h1, v, h3, h4⟩, h5⟩
  | exit i => exact h2.elim
  | panic v => exact h2.elim
theorem lp_ind {σ : Type} {body : Code} (F : σ → Fr) (G : σ → Hp) (P : σ → Prop) (μ : σ → Nat) (i : σ) (hP : P i)
    (round : ∀ j, P j → (∀ j', μ j' < μ j → P j' → Lp env f nr body (F j') (G j') K) → Ev env (E env) f nr body (F j) (G j) (roundK env f nr body K)) : Lp env f nr body (F i) (G i) K := by
  have key : ∀ m j, μ j = m → P j → Lp env f nr body (F j) (G j) K := by
    intro m
    induction m using Nat.strongRecOn with
    | _ m ih =>
      intro j hj hp
      exact lp_round (round j hp fun j' hlt hp' => ih (μ j') (by omega) j' rfl hp')
  exact key _ i rfl hP
end
end Go.Vm
/- Slots that are not read any more: ways are joined, frames are cut. -/
namespace Go.Vm
set_option linter.unusedSimpArgs false
set_option linter.unusedVariables false
set_option linter.unusedSectionVars false
/-- two frames say the same of all slots but some -/
def Off (D : List Nat) (fr fr' : Fr) : Prop := ∀ s, has s D = false → look s fr = look s fr'
theorem Off.refl {D : List Nat} {fr : Fr} : Off D fr fr := fun _ _ => rfl
theorem Off.symm {D : List Nat} {fr fr' : Fr} (h : Off D fr fr') : Off D fr' fr := fun s hs => (h s hs).symm
theorem Off.trans {D : List Nat} {a b c : Fr} (h : Off D a b) (g : Off D b c) : Off D a c := fun s hs => (h s hs).trans (g s hs)
theorem Off.left {D : List Nat} {a b : Fr} {k : Nat} {v : V} (hk : has k D = true) (h : Off D a b) : Off D ((k, v) :: a) b := by
  intro s hs
  simp only [look]
  cases hb : Nat.beq k s with
  | true => have := Nat.eq_of_beq_eq_true hb; subst this; rw [hk] at hs; cases hs
  | false => exact h s hs
theorem Off.right {D : List Nat} {a b : Fr} {k : Nat} {v : V} (hk : has k D = true) (h : Off D a b) : Off D a ((k, v) :: b) := (Off.left hk h.symm).symm
theorem Off.both {D : List Nat} {a b : Fr} {k : Nat} {v : V} (h : Off D a b) : Off D ((k, v) :: a) ((k, v) :: b) := by
  intro s hs
  simp only [look]
  cases Nat.beq k s with
  | true => rfl
  | false => exact h s hs
/-- a slot is written again -/
theorem Off.over {D : List Nat} {a b : Fr} {k : Nat} {v : V} (h : Off (k :: D) a b) : Off D ((k, v) :: a) ((k, v) :: b) := by
  intro s hs
  simp only [look]
  cases hb : Nat.beq k s with
  | true => rfl
  | false => exact h s (by simp only [has, hb]; exact hs)

def offO (D : List Nat) : Operand → Bool
  | .tmp t => !has t D
  | _ => true
def offL (D : List Nat) (l : List Operand) : Bool := l.all (offO D)
def offP (D : List Nat) (l : List (Nat × Operand)) : Bool := l.all fun p => offO D p.2
def offX (D : List Nat) (o : Option Operand) : Bool := match o with | none => true | some x => offO D x
def offOp (D : List Nat) : Op → Bool
  | .move x | .assign x | .nilCheck x | .unOp _ _ x | .convert _ _ x | .makeInterface _ x | .fieldAddr _ x _ | .field _ x _ | .typeAssert x .. | .extract x _ | .load _ x | .box _ x | .panic x => offO D x
  | .pick a b c => offO D a && offO D b && offO D c
  | .build _ ps | .buildSlice _ _ ps => offP D ps.toList
  | .binOp _ _ x y _ | .indexAddr _ x y | .index _ x y | .store _ x y | .makeSlice _ x y => offO D x && offO D y
  | .makeFunc _ a b => offL D a.toList && offL D b.toList
  | .slice _ x lo hi mx => offO D x && offX D lo && offX D hi && offX D mx
  | .alloc _ => true
  | .call c => offL D c.args.toList && (match c.callee with | .value f => offO D f | .invoke r _ => offO D r | _ => true)
  | _ => false
section
variable {D : List Nat} {fr fr' : Fr}
theorem ev_off (h : Off D fr fr') {o : Operand} (ho : offO D o = true) : ev fr o = ev fr' o := by
  cases o with
  | tmp t => simp only [offO, Bool.not_eq_true'] at ho; simp only [ev, h t ho]
  | _ => rfl
theorem evL_off (h : Off D fr fr') : ∀ {l : List Operand}, offL D l = true → evL fr l = evL fr' l
  | [], _ => rfl
  | o :: l, ho => by
    simp only [offL, List.all_cons, Bool.and_eq_true] at ho
    have := evL_off h (l := l) ho.2
    simp only [evL, mapO] at this ⊢
    rw [ev_off h ho.1, this]
theorem evP_off (h : Off D fr fr') : ∀ {l : List (Nat × Operand)}, offP D l = true → evP fr l = evP fr' l
  | [], _ => rfl
  | o :: l, ho => by
    simp only [offP, List.all_cons, Bool.and_eq_true] at ho
    have := evP_off h (l := l) ho.2
    simp only [evP, mapO] at this ⊢
    rw [ev_off h ho.1, this]
theorem evX_off (h : Off D fr fr') {o : Option Operand} (ho : offX D o = true) : evX fr o = evX fr' o := by
  cases o with
  | none => rfl
  | some x => simp only [evX, ev_off h (o := x) ho]
theorem vPure_off (h : Off D fr fr') {T : List (Nat × Ty)} {o : Op} (ho : offOp D o = true) : vPure T fr o = vPure T fr' o := by
  cases o <;> simp only [offOp, Bool.and_eq_true] at ho <;> try rfl
  case move x => simp only [vPure, ev_off h ho]
  case assign x => simp only [vPure, ev_off h ho]
  case nilCheck x => simp only [vPure, ev_off h ho]
  case unOp x => simp only [vPure, ev_off h ho]
  case convert x => simp only [vPure, ev_off h ho]
  case makeInterface x => simp only [vPure, ev_off h ho]
  case fieldAddr x _ => simp only [vPure, ev_off h ho]
  case field x _ => simp only [vPure, ev_off h ho]
  case typeAssert x _ _ _ => simp only [vPure, ev_off h ho]
  case extract x _ => simp only [vPure, ev_off h ho]
  case pick => simp only [vPure, ev_off h ho.1.1, ev_off h ho.1.2, ev_off h ho.2]
  case build => simp only [vPure, evP_off h ho]
  case buildSlice => simp only [vPure, evP_off h ho]
  case binOp => simp only [vPure, ev_off h ho.1, ev_off h ho.2]
  case indexAddr => simp only [vPure, ev_off h ho.1, ev_off h ho.2]
  case index => simp only [vPure, ev_off h ho.1, ev_off h ho.2]
  case makeFunc => simp only [vPure, evL_off h ho.1, evL_off h ho.2]
  case slice => simp only [vPure, ev_off h ho.1.1.1, evX_off h ho.1.1.2, evX_off h ho.1.2, evX_off h ho.2]
  case call c =>
    obtain ⟨callee, args, at_⟩ := c
    cases callee with
    | builtin b =>
      cases b <;> try rfl
      case len =>
        simp only [vPure]
        generalize hl : args.toList = l at ho
        generalize at_.toList = ts
        match l, ts with
        | [x], t :: _ => simp only [offL, List.all_cons, Bool.and_eq_true] at ho; simp only [ev_off h ho.1.1]
        | [], _ => rfl
        | _ :: _ :: _, _ => rfl
        | [_], [] => rfl
      case min =>
        simp only [vPure]
        generalize hl : args.toList = l at ho
        match l with
        | [x, y] => simp only [offL, List.all_cons, Bool.and_eq_true] at ho; simp only [ev_off h ho.1.1, ev_off h ho.1.2.1]
        | [] => rfl
        | [_] => rfl
        | _ :: _ :: _ :: _ => rfl
      case max =>
        simp only [vPure]
        generalize hl : args.toList = l at ho
        match l with
        | [x, y] => simp only [offL, List.all_cons, Bool.and_eq_true] at ho; simp only [ev_off h ho.1.1, ev_off h ho.1.2.1]
        | [] => rfl
        | [_] => rfl
        | _ :: _ :: _ :: _ => rfl
    | _ => rfl
theorem opStep_off {env : Env} {orc : Orc} {H : Hp} (h : Off D fr fr') {o : Oper} (ho : offOp D o.op = true) : opStep env orc fr H o = opStep env orc fr' H o := by
  unfold opStep opEff newName
  generalize o.dst = dst
  generalize o.op = op at ho
  rw [vPure_off h ho]
  cases hp : isPure op with
  | true => rfl
  | false =>
    simp only
    cases op <;> simp only [offOp, Bool.and_eq_true] at ho <;> try rfl
    case load => simp only [ev_off h ho]
    case box => simp only [ev_off h ho]
    case panic => simp only [ev_off h ho]
    case store => simp only [ev_off h ho.1, ev_off h ho.2]
    case makeSlice => simp only [ev_off h ho.1, ev_off h ho.2]
    case call c =>
      obtain ⟨callee, args, at_⟩ := c
      cases callee with
      | builtin b =>
        cases b <;> try rfl
        case append =>
          simp only
          generalize hl : args.toList = l at ho
          generalize at_.toList = ts
          match l, ts with
          | [x, y], [t, u] => simp only [offL, List.all_cons, Bool.and_eq_true] at ho; simp only [ev_off h ho.1.1, ev_off h ho.1.2.1]
          | [], _ => rfl
          | [_], _ => rfl
          | _ :: _ :: _ :: _, _ => rfl
          | [_, _], [] => rfl
          | [_, _], [_] => rfl
          | [_, _], _ :: _ :: _ :: _ => rfl
      | value f => simp only [ev_off h ho.2, evL_off h ho.1]
      | invoke r m => simp only [ev_off h ho.2, evL_off h ho.1]

def offOper (D : List Nat) (ops : Array Oper) (o : Oper) : Bool := offOp D o.op && (match o.guard with | none => true | some (j, _) => match (ops[j]?).bind (·.dst) with | some t => !has t D | none => true)
theorem wantedV_off {ops : Array Oper} {o : Oper} (h : Off D fr fr') (ho : offOper D ops o = true) : wantedV ops o fr = wantedV ops o fr' := by
  simp only [offOper, Bool.and_eq_true] at ho
  unfold wantedV
  cases hg : o.guard with
  | none => rfl
  | some x =>
    obtain ⟨j, w⟩ := x
    have h2 := ho.2
    rw [hg] at h2
    simp only at h2 ⊢
    unfold yieldedV
    cases hd : (ops[j]?).bind (·.dst) with
    | none => rfl
    | some t =>
      rw [hd] at h2
      simp only [Bool.not_eq_true'] at h2
      simp only [h t h2]
theorem Off.put (h : Off D fr fr') {d : Option Nat} {v : V} : Off D (putO d v fr) (putO d v fr') := by
  cases d with
  | none => exact h
  | some d => exact h.both
/-- the same results, but for the slots -/
def OffR (D : List Nat) : Option Res → Option Res → Prop
  | none, none => True
  | some (e, fr, H), some (e', fr', H') => e = e' ∧ H = H' ∧ Off D fr fr'
  | _, _ => False
theorem OffR.refl {r : Option Res} : OffR D r r := by
  cases r with
  | none => trivial
  | some r => exact ⟨rfl, rfl, .refl⟩
theorem evalOps_off {env : Env} {orc : Orc} {ops : Array Oper} : ∀ {l : List Oper} {fr fr' : Fr} {H : Hp}, Off D fr fr' → l.all (offOper D ops) = true → OffR D (evalOps env orc ops l fr H) (evalOps env orc ops l fr' H)
  | [], fr, fr', H, h, _ => ⟨rfl, rfl, h⟩
  | o :: l, fr, fr', H, h, ho => by
    simp only [List.all_cons, Bool.and_eq_true] at ho
    have h2 : offOp D o.op = true := by have := ho.1; simp only [offOper, Bool.and_eq_true] at this; exact this.1
    simp only [evalOps]
    rw [wantedV_off h ho.1, opStep_off h h2]
    cases wantedV ops o fr' with
    | none => trivial
    | some b =>
      cases b with
      | false => exact evalOps_off h.put ho.2
      | true =>
        cases opStep env orc fr' H o with
        | none => trivial
        | some r =>
          cases r with
          | val v H1 => exact evalOps_off h.put ho.2
          | pan v H1 => exact ⟨rfl, rfl, h⟩
/-- code that reads none of some slots -/
def offC (env : Env) (f : Nat) (D : List Nat) : Code → Bool
  | .region id ops d => !isSome (sepOf env f id d) && ops.toList.all (offOper D ops)
  | .seq a b => !env.cut f (cutId b) && offC env f D a && offC env f D b
  | .cond c a b => offO D c && offC env f D a && offC env f D b
  | .block _ c => offC env f D c
  | .loop body => (env.keep f (loopId body)).all fun s => !has s D
  | .skip | .label _ | .exit _ | .ret => true
  | _ => false
theorem normal_off {env : Env} {f nr lp : Nat} {H : Hp} (h : Off D fr fr') (hk : ((env.keep f lp).all fun s => !has s D) = true) : normal env f nr lp fr H = normal env f nr lp fr' H := by
  have : ((env.keep f lp).map fun s => (s, look s fr)) = ((env.keep f lp).map fun s => (s, look s fr')) := by
    apply List.map_congr_left
    intro s hs
    have := List.all_eq_true.1 hk s hs
    rw [h s (by simpa using this)]
  unfold normal
  rw [this]
theorem loose_off {ops : Array Oper} {b : Bool} (hc : ops.toList.all (offOper D ops) = true) {r r' : Option Res} (h : OffR D r r') : OffR D (looseChk b ops r) (looseChk b ops r') := by
  cases b with
  | false => exact h
  | true =>
    cases r with
    | none =>
      cases r' with
      | none => trivial
      | some r' => exact h.elim
    | some r =>
      cases r' with
      | none => exact h.elim
      | some r' =>
        obtain ⟨e, g, H1⟩ := r
        obtain ⟨e', g', H1'⟩ := r'
        obtain ⟨rfl, rfl, h3⟩ := h
        cases e with
        | normal =>
          have he : ((addrTmps ops.toList).all fun t => isCptr (look t g)) = ((addrTmps ops.toList).all fun t => isCptr (look t g')) := by
            have key : ∀ l : List Oper, l.all (offOper D ops) = true → ((addrTmps l).all fun t => isCptr (look t g)) = ((addrTmps l).all fun t => isCptr (look t g')) := by
              intro l
              induction l with
              | nil => intro _; rfl
              | cons o l ih =>
                intro hl
                simp only [List.all_cons, Bool.and_eq_true] at hl
                simp only [addrTmps]
                cases ht : ldTmp o with
                | none => exact ih hl.2
                | some t =>
                  simp only [List.all_cons]
                  rw [ih hl.2]
                  have h4 : has t D = false := by
                    have h5 := hl.1
                    simp only [offOper, Bool.and_eq_true] at h5
                    unfold ldTmp at ht
                    split at ht
                    · rename_i ty t' hop
                      cases ht
                      have h6 := h5.1
                      rw [hop] at h6
                      simpa [offOp, offO] using h6
                    · cases ht
                  rw [h3 t h4]
            exact key _ hc
          simp only [looseChk, he]
          cases (addrTmps ops.toList).all fun t => isCptr (look t g') with
          | true => exact ⟨rfl, rfl, h3⟩
          | false => trivial
        | ret => trivial
        | exit i => trivial
        | panic v => trivial
theorem evalCode_off {env : Env} {orc : Orc} {f nr : Nat} : ∀ {c : Code} {fr fr' : Fr} {H : Hp}, Off D fr fr' → offC env f D c = true → OffR D (evalCode env orc f nr c fr H) (evalCode env orc f nr c fr' H) := by
  intro c
  induction c with
  | region id ops d =>
    intro fr fr' H h hc
    simp only [offC, Bool.and_eq_true, Bool.not_eq_true'] at hc
    obtain ⟨hs, hc⟩ := hc
    have hs2 : sepOf env f id d = none := by
      cases hq : sepOf env f id d with
      | none => rfl
      | some x => rw [hq] at hs; cases hs
    simp only [evalCode, hs2]
    refine loose_off hc ?_
    have := evalOps_off (env := env) (orc := orc) (ops := ops) (H := H) h hc
    revert this
    cases evalOps env orc ops ops.toList fr H with
    | none =>
      cases evalOps env orc ops ops.toList fr' H with
      | none => intro _; trivial
      | some r => intro h; exact h.elim
    | some r =>
      cases evalOps env orc ops ops.toList fr' H with
      | none => intro h; exact h.elim
      | some r' =>
        obtain ⟨e, g, H1⟩ := r
        obtain ⟨e', g', H1'⟩ := r'
        rintro ⟨rfl, rfl, h3⟩
        cases e with
        | panic v => cases d with
          | true => trivial
          | false => exact ⟨rfl, rfl, h3⟩
        | _ => exact ⟨rfl, rfl, h3⟩
  | seq a b iha ihb =>
    intro fr fr' H h hc
    simp only [offC, Bool.and_eq_true, Bool.not_eq_true'] at hc
    simp only [evalCode, cutAt, hc.1.1]
    have := iha (H := H) h hc.1.2
    revert this
    cases evalCode env orc f nr a fr H with
    | none =>
      cases evalCode env orc f nr a fr' H with
      | none => intro _; trivial
      | some r => intro h; exact h.elim
    | some r =>
      cases evalCode env orc f nr a fr' H with
      | none => intro h; exact h.elim
      | some r' =>
        obtain ⟨e, g, H1⟩ := r
        obtain ⟨e', g', H1'⟩ := r'
        rintro ⟨rfl, rfl, h3⟩
        cases e with
        | normal => exact ihb h3 hc.2
        | _ => exact ⟨rfl, rfl, h3⟩
  | cond c a b iha ihb =>
    intro fr fr' H h hc
    simp only [offC, Bool.and_eq_true] at hc
    simp only [evalCode]
    rw [ev_off h hc.1.1]
    cases ev fr' c with
    | none => trivial
    | some v =>
      cases v with
      | bool t => cases t with
        | true => exact iha h hc.1.2
        | false => exact ihb h hc.2
      | _ => trivial
  | block id a iha =>
    intro fr fr' H h hc
    simp only [offC] at hc
    simp only [evalCode]
    have := iha (H := H) h hc
    revert this
    cases evalCode env orc f nr a fr H with
    | none =>
      cases evalCode env orc f nr a fr' H with
      | none => intro _; trivial
      | some r => intro h; exact h.elim
    | some r =>
      cases evalCode env orc f nr a fr' H with
      | none => intro h; exact h.elim
      | some r' =>
        obtain ⟨e, g, H1⟩ := r
        obtain ⟨e', g', H1'⟩ := r'
        rintro ⟨rfl, rfl, h3⟩
        cases e with
        | exit i =>
          simp only
          cases Nat.beq i id with
          | true => exact ⟨rfl, rfl, h3⟩
          | false => exact ⟨rfl, rfl, h3⟩
        | _ => exact ⟨rfl, rfl, h3⟩
  | loop a iha =>
    intro fr fr' H h hc
    simp only [offC] at hc
    simp only [evalCode]
    rw [normal_off h hc]
    exact .refl
  | skip => intro fr fr' H h _; exact ⟨rfl, rfl, h⟩
  | label => intro fr fr' H h _; exact ⟨rfl, rfl, h⟩
  | exit => intro fr fr' H h _; exact ⟨rfl, rfl, h⟩
  | ret => intro fr fr' H h _; exact ⟨rfl, rfl, h⟩
  | _ => intro fr fr' H h hc; cases hc

section
variable {env : Env} {orc : Orc} {f nr : Nat} {H H1 : Hp} {K : Res → Prop}
/-- what follows does not look at some slots -/
def Resp (D : List Nat) (K : Res → Prop) : Prop := ∀ e g g' H, Off D g g' → K (e, g, H) → K (e, g', H)
theorem ev_forget {c : Code} (D : List Nat) (hc : offC env f D c = true) (hK : Resp D K) {fr fr' : Fr} (ho : Off D fr' fr) (h : Ev env orc f nr c fr' H K) : Ev env orc f nr c fr H K := by
  obtain ⟨⟨e, g, H1⟩, h1, h2⟩ := h
  have := evalCode_off (env := env) (orc := orc) (nr := nr) (H := H) ho hc
  rw [h1] at this
  revert this
  cases hq : evalCode env orc f nr c fr H with
  | none => intro h; exact h.elim
  | some r =>
    obtain ⟨e', g', H1'⟩ := r
    rintro ⟨rfl, rfl, h3⟩
    exact ⟨_, hq, hK _ _ _ _ h3 h2⟩
theorem resp_then {b : Code} (hb : offC env f D b = true) (hK : Resp D K) : Resp D (thenK env orc f nr b K) := by
  intro e g g' H ho h
  cases e with
  | normal => exact ev_forget D hb hK ho h
  | _ => exact hK _ _ _ _ ho h
theorem resp_block {id : Nat} (hK : Resp D K) : Resp D (blockK id K) := by
  intro e g g' H ho h
  cases e with
  | exit i =>
    simp only [blockK] at h ⊢
    cases hb : Nat.beq i id with
    | true => rw [hb] at h; exact hK _ _ _ _ ho h
    | false => rw [hb] at h; exact hK _ _ _ _ ho h
  | _ => exact hK _ _ _ _ ho h
theorem resp_reg {d : Bool} (hK : Resp D K) : Resp D (regK d K) := by
  intro e g g' H ho h
  cases e with
  | panic v => cases d with
    | true => exact h.elim
    | false => exact hK _ _ _ _ ho h
  | _ => exact hK _ _ _ _ ho h
theorem resp_round {body : Code} (hk : ((env.keep f (loopId body)).all fun s => !has s D) = true) (hK : Resp D K) : Resp D (roundK env f nr body K) := by
  intro e g g' H ho h
  cases e with
  | normal =>
    obtain ⟨fr1, H1, h1, h2⟩ := h
    exact ⟨fr1, H1, by rw [← normal_off ho hk]; exact h1, h2⟩
  | _ => exact hK _ _ _ _ ho h
def offRes (D : List Nat) (l : List ResultVar) : Bool := l.all fun | .tmp t => !has t D | .cell t _ => !has t D
theorem resultV_off {T : List (Nat × Ty)} {l : List ResultVar} (h : Off D fr fr') (hl : offRes D l = true) : resultV T fr H l = resultV T fr' H l := by
  have : ∀ {l : List ResultVar}, offRes D l = true → mapO (resV T fr H) l = mapO (resV T fr' H) l := by
    intro l
    induction l with
    | nil => intro _; rfl
    | cons r l ih =>
      intro hl
      simp only [offRes, List.all_cons, Bool.and_eq_true] at hl
      have h1 : resV T fr H r = resV T fr' H r := by
        cases r with
        | tmp t => simp only [resV, h t (by simpa using hl.1)]
        | cell t _ => simp only [resV, h t (by simpa using hl.1)]
      simp only [mapO]
      rw [h1, ih hl.2]
  unfold resultV
  rw [this hl]
theorem resp_ret {l : List ResultVar} {fz tg : Bool} {m : Nat → Bool} {v1 : V} {H2 : Hp} (hl : offRes D l = true) : Resp D (RetK env nr l fz tg m v1 H2) := by
  intro e g g' H ho h
  cases e with
  | normal => obtain ⟨v, h1, h2⟩ := h; exact ⟨v, by rw [← resultV_off ho hl]; exact h1, h2⟩
  | ret => obtain ⟨v, h1, h2⟩ := h; exact ⟨v, by rw [← resultV_off ho hl]; exact h1, h2⟩
  | _ => exact h
theorem resp_retP {l : List ResultVar} {fz tg : Bool} {m : Nat → Bool} {P : V → Hp → Prop} (hl : offRes D l = true) : Resp D (RetP env nr l fz tg m P) := by
  intro e g g' H ho h
  cases e with
  | normal => obtain ⟨v, v1, H2, h1, h2⟩ := h; exact ⟨v, v1, H2, by rw [← resultV_off ho hl]; exact h1, h2⟩
  | ret => obtain ⟨v, v1, H2, h1, h2⟩ := h; exact ⟨v, v1, H2, by rw [← resultV_off ho hl]; exact h1, h2⟩
  | _ => exact h

/-- ways are joined -/
def joinK {α : Type} (D : List Nat) (F : α → Fr) (G : α → Hp) (Q : α → Prop) (K : Res → Prop) : Res → Prop
  | (.normal, g, H) => ∃ x, Q x ∧ Off D (F x) g ∧ H = G x
  | r => K r
theorem ev_join {a b : Code} {fr : Fr} {α : Type} (D : List Nat) (F : α → Fr → Fr) (G : α → Hp → Hp) (Q : α → Prop) (hb : offC env f D b = true) (hK : Resp D K)
    (h1 : Ev env orc f nr a fr H (joinK D (fun x => F x fr) (fun x => G x H) Q K)) (h2 : ∀ x, Q x → Ev env orc f nr b (F x fr) (G x H) K) (hcu : env.cut f (cutId b) = false := by rfl) : Ev env orc f nr (.seq a b) fr H K := by
  refine ev_seq ?_ hcu
  obtain ⟨⟨e, g, H1⟩, h3, h4⟩ := h1
  refine ⟨_, h3, ?_⟩
  cases e with
  | normal =>
    obtain ⟨x, hx, ho, rfl⟩ := h4
    exact ev_forget D hb hK ho (h2 x hx)
  | _ => exact h4
theorem ev_joinF {a b : Code} {fr : Fr} {α : Type} (D : List Nat) (F : α → Fr → Fr) (Q : α → Prop) (hb : offC env f D b = true) (hK : Resp D K)
    (h1 : Ev env orc f nr a fr H (joinK D (fun x => F x fr) (fun _ => H) Q K)) (h2 : ∀ x, Q x → Ev env orc f nr b (F x fr) H K) (hcu : env.cut f (cutId b) = false := by rfl) : Ev env orc f nr (.seq a b) fr H K :=
  ev_join D F (fun _ H => H) Q hb hK h1 h2 hcu
theorem resp_join {α : Type} {D D' : List Nat} {F : α → Fr} {G : α → Hp} {Q : α → Prop} (hD : (D'.all fun s => has s D) = true) (hK : Resp D' K) : Resp D' (joinK D F G Q K) := by
  intro e g g' H ho h
  have hs : ∀ {s}, has s D = false → has s D' = false := by
    intro s hs
    have key : ∀ l : List Nat, has s l = true → (l.all fun s => has s D) = true → has s D = true := by
      intro l
      induction l with
      | nil => intro h; cases h
      | cons a l ih =>
        intro h1 h2
        simp only [List.all_cons, Bool.and_eq_true] at h2
        simp only [has] at h1
        cases hb : Nat.beq a s with
        | true => have := Nat.eq_of_beq_eq_true hb; subst this; exact h2.1
        | false => rw [hb] at h1; exact ih h1 h2.2
    cases h3 : has s D' with
    | false => rfl
    | true => rw [key D' h3 hD] at hs; cases hs
  cases e with
  | normal =>
    obtain ⟨x, hx, h1, h2⟩ := h
    exact ⟨x, hx, fun s h3 => (h1 s h3).trans (ho s (hs h3)), h2⟩
  | _ => exact hK _ _ _ _ ho h
/-- a slot that says what it said -/
theorem Off.noop {D : List Nat} {a b : Fr} {k : Nat} {v : V} (hl : look k b = v) (h : Off D a b) : Off D ((k, v) :: a) b := by
  intro s hs
  simp only [look]
  cases hb : Nat.beq k s with
  | true => have := Nat.eq_of_beq_eq_true hb; subst this; exact hl.symm
  | false => exact h s hs
theorem Off.noop2 {D : List Nat} {a b : Fr} {k : Nat} {v : V} (hl : look k b = v) (h : Off (k :: D) a b) : Off D ((k, v) :: a) b := by
  intro s hs
  simp only [look]
  cases hb : Nat.beq k s with
  | true => have := Nat.eq_of_beq_eq_true hb; subst this; exact hl.symm
  | false => exact h s (by simp only [has, hb]; exact hs)
end
end
end Go.Vm
/- Stores, and slices that are written by index. -/
namespace Go.Vm
set_option linter.unusedSimpArgs false
set_option linter.unusedVariables false
set_option linter.unusedSectionVars false
section
variable {env : Env} {orc : Orc} {ops : Array Oper} {o : Oper} {rest : List Oper} {fr : Fr} {H H1 : Hp} {K : Res → Prop}
theorem os_store {t : Nat} {a b : Operand} {x v : V} (hw : wantedV ops o fr = some true) (ho : o.op = .store t a b) (ha : ev fr a = some x) (hb : ev fr b = some v) (hs : forceHO (vStore env.T t x v H) = some H1) (h : Os env orc ops rest (putO o.dst .undef fr) H1 K) : Os env orc ops (o :: rest) fr H K := by
  rw [forceHO_eq] at hs
  have hp : isPure o.op = false := by rw [ho]; rfl
  refine os_eff0 hw hp (v := .undef) (H1 := H1) ?_ h
  unfold opEff
  rw [ho]
  simp only [ha, hb, hs]
theorem os_appendR {args : Array Operand} {at_ : Array TypeId} {a b : Operand} {t xt e r n m w off : Nat} {y yx ye : Ty} {cs news : List V} {x : V} (hw : wantedV ops o fr = some true) (ho : o.op = .call ⟨.builtin .append, args, at_⟩)
    (ha : args.toList = [a, b]) (ht : at_.toList = [t, xt]) (hs : ev fr a = some (.rslice r off n true)) (hx : ev fr b = some x)
    (h1 : tyOf t env.T = some y) (h2 : tyOf xt env.T = some yx) (h3 : y.sh = .slice e) (h4 : isSrc yx.sh = true) (h5 : tyOf e env.T = some ye)
    (h6 : vNews env.T e x H = some (m, news)) (h7 : Nat.beq m 0 = false) (h8 : hget r H = some (.grow w cs)) (h9 : hget (newName o) H = none) (h10 : Nat.beq w ye.size = true) (h11 : Nat.beq w 0 = false) (h12 : n * w ≤ cs.length) (h13 : (n + m) * (ye.bytes + 1) ≤ 70368744177664)
    {new : List V} (hnew : cs.take (n * w) ++ news = new) (hH : forceHO (some (hset r .gone (hset (newName o) (.grow w new) H))) = some H1)
    (h : Os env orc ops rest (putO o.dst (.rslice (newName o) 0 (n + m) true) fr) H1 K) : Os env orc ops (o :: rest) fr H K := by
  have hp : isPure o.op = false := by rw [ho]; rfl
  rw [forceHO_eq, Option.some.injEq] at hH
  subst hH hnew
  refine os_eff0 hw hp ?_ h
  unfold opEff
  rw [ho]
  simp only [ha, ht, hs, hx, vAppend, h1, h2, h3, h4, h5, h6, h7, h8, h9, h10, h11, leN_ok h12, leN_ok h13, Bool.not_false, Bool.and_self, gd]
end
end Go.Vm
/- Lifted functions: plain Lean that follows the code step by step. -/
namespace Go.Vm
set_option linter.unusedSimpArgs false
set_option linter.unusedVariables false
set_option linter.unusedSectionVars false

abbrev Str := List UInt8
/-- the end of a function: its results, or a panic -/
inductive Rs (α β : Type) where
  | ok (a : α)
  | pan (b : β)
/-- the end of a piece of code: it goes on, or the function ends -/
inductive Lr (α ρ : Type) where
  | brk (a : α)
  | out (r : ρ)

section
variable {α β γ δ ρ : Type}
def bindP (o : Option (Rs α β)) (k : α → Option γ) (p : β → Option γ) : Option γ := match o with
  | none => none
  | some (.ok a) => k a
  | some (.pan b) => p b
def bindL (o : Option (Lr α ρ)) (k : α → Option ρ) : Option ρ := match o with
  | none => none
  | some (.brk a) => k a
  | some (.out r) => some r
def bindQ (o : Option (Lr α ρ)) (k : α → Option (Lr γ ρ)) : Option (Lr γ ρ) := match o with
  | none => none
  | some (.brk a) => k a
  | some (.out r) => some (.out r)
theorem bnd_inv {o : Option α} {k : α → Option γ} {r : γ} (h : o.bind k = some r) : ∃ x, o = some x ∧ k x = some r := by
  cases o with
  | none => cases h
  | some x => exact ⟨x, rfl, h⟩
theorem bindP_inv {o : Option (Rs α β)} {k : α → Option γ} {p : β → Option γ} {r : γ} (h : bindP o k p = some r) : (∃ a, o = some (.ok a) ∧ k a = some r) ∨ ∃ b, o = some (.pan b) ∧ p b = some r := by
  cases o with
  | none => cases h
  | some x => cases x with
    | ok a => exact .inl ⟨a, rfl, h⟩
    | pan b => exact .inr ⟨b, rfl, h⟩
theorem bindL_inv {o : Option (Lr α ρ)} {k : α → Option ρ} {r : ρ} (h : bindL o k = some r) : ∃ y, o = some y ∧ (match y with | .brk a => k a | .out r' => some r') = some r := by
  cases o with
  | none => cases h
  | some x => cases x with
    | brk a => exact ⟨_, rfl, h⟩
    | out b => exact ⟨_, rfl, h⟩
theorem bindQ_inv {o : Option (Lr α ρ)} {k : α → Option (Lr γ ρ)} {r : Lr γ ρ} (h : bindQ o k = some r) : ∃ y, o = some y ∧ (match y with | .brk a => k a | .out r' => some (.out r')) = some r := by
  cases o with
  | none => cases h
  | some x => cases x with
    | brk a => exact ⟨_, rfl, h⟩
    | out b => exact ⟨_, rfl, h⟩
theorem cond_t {c : Bool} {a b : γ} {r : γ} (h : cond c a b = r) (hc : c = true) : a = r := by subst hc; exact h
theorem cond_f {c : Bool} {a b : γ} {r : γ} (h : cond c a b = r) (hc : c = false) : b = r := by subst hc; exact h

/-- the element at an index -/
def idx' (l : List α) (i : Int) : Option α := match inR i l.length with
  | true => l[i.toNat]?
  | false => none
def idxS (s : Str) (i : Int) : Option Int := match inR i s.length with
  | true => some ((s.getD i.toNat 0).toNat : Nat)
  | false => none
def subS (s : Str) (a b : Int) : Option Str := match inI a b s.length with
  | true => some ((s.take b.toNat).drop a.toNat)
  | false => none
def subL (l : List α) (a b : Int) : Option (List α) := match inI a b l.length with
  | true => some ((l.take b.toNat).drop a.toNat)
  | false => none
def cat (a b : Str) : Option Str := match leB ((a.length + b.length : Nat) : Int) 9223372036854775807 with
  | true => some (a ++ b)
  | false => none
/-- a list that is made longer: there is room -/
def app (bytes : Nat) (l m : List α) : Option (List α) := match leN ((l.length + m.length) * (bytes + 1)) 70368744177664 with
  | true => some (l ++ m)
  | false => none
def gdO (c : Bool) (x : Option γ) : Option γ := match c with
  | true => x
  | false => none
theorem gdO_inv {c : Bool} {x : Option γ} {r : γ} (h : gdO c x = some r) : c = true ∧ x = some r := by
  cases c with
  | true => exact ⟨rfl, h⟩
  | false => cases h
theorem idx'_inv {l : List α} {i : Int} {x : α} (h : idx' l i = some x) : inR i l.length = true ∧ l[i.toNat]? = some x := by
  unfold idx' at h
  cases hc : inR i l.length with
  | true => rw [hc] at h; exact ⟨rfl, h⟩
  | false => rw [hc] at h; cases h
theorem idxS_inv {s : Str} {i x : Int} (h : idxS s i = some x) : inR i s.length = true ∧ ((s.getD i.toNat 0).toNat : Nat) = x := by
  unfold idxS at h
  cases hc : inR i s.length with
  | true => rw [hc] at h; exact ⟨rfl, Option.some.inj h⟩
  | false => rw [hc] at h; cases h
theorem subS_inv {s x : Str} {a b : Int} (h : subS s a b = some x) : inI a b s.length = true ∧ (s.take b.toNat).drop a.toNat = x := by
  unfold subS at h
  cases hc : inI a b s.length with
  | true => rw [hc] at h; exact ⟨rfl, Option.some.inj h⟩
  | false => rw [hc] at h; cases h
theorem subL_inv {l x : List α} {a b : Int} (h : subL l a b = some x) : inI a b l.length = true ∧ (l.take b.toNat).drop a.toNat = x := by
  unfold subL at h
  cases hc : inI a b l.length with
  | true => rw [hc] at h; exact ⟨rfl, Option.some.inj h⟩
  | false => rw [hc] at h; cases h
theorem cat_inv {a b x : Str} (h : cat a b = some x) : leB ((a.length + b.length : Nat) : Int) 9223372036854775807 = true ∧ a ++ b = x := by
  unfold cat at h
  cases hc : leB ((a.length + b.length : Nat) : Int) 9223372036854775807 with
  | true => rw [hc] at h; exact ⟨rfl, Option.some.inj h⟩
  | false => rw [hc] at h; cases h
theorem app_inv {bytes : Nat} {l m x : List α} (h : app bytes l m = some x) : (l.length + m.length) * (bytes + 1) ≤ 70368744177664 ∧ l ++ m = x := by
  unfold app at h
  cases hc : leN ((l.length + m.length) * (bytes + 1)) 70368744177664 with
  | true => rw [hc] at h; exact ⟨by simpa [leN] using hc, Option.some.inj h⟩
  | false => rw [hc] at h; cases h
end

/-- how a type's elements lie in cells -/
structure IsEnc {α : Type} (sz : Nat) (c1 : α → List V) (cl : List α → List V) : Prop where
  len : ∀ x, (c1 x).length = sz
  nil : cl [] = []
  cons : ∀ x r, cl (x :: r) = c1 x ++ cl r
section
variable {α : Type} {sz : Nat} {c1 : α → List V} {cl : List α → List V}
theorem IsEnc.append (h : IsEnc sz c1 cl) : ∀ a b : List α, cl (a ++ b) = cl a ++ cl b
  | [], b => by rw [h.nil]; rfl
  | x :: a, b => by rw [List.cons_append, h.cons, h.cons, h.append a b, List.append_assoc]
theorem IsEnc.length (h : IsEnc sz c1 cl) : ∀ a : List α, (cl a).length = a.length * sz
  | [] => by rw [h.nil]; simp
  | x :: a => by rw [h.cons, List.length_append, h.len, h.length a, List.length_cons, Nat.succ_mul, Nat.add_comm]
theorem IsEnc.drop (h : IsEnc sz c1 cl) : ∀ (k : Nat) (a : List α), (cl a).drop (k * sz) = cl (a.drop k)
  | 0, a => by simp
  | k + 1, [] => by simp [h.nil]
  | k + 1, x :: a => by
    rw [h.cons, Nat.succ_mul, Nat.add_comm, ← List.drop_drop]
    rw [List.drop_left' (h.len x), h.drop k a]; rfl
theorem IsEnc.take (h : IsEnc sz c1 cl) : ∀ (k : Nat) (a : List α), (cl a).take (k * sz) = cl (a.take k)
  | 0, a => by simp [h.nil]
  | k + 1, [] => by simp [h.nil]
  | k + 1, x :: a => by
    rw [h.cons, Nat.succ_mul, Nat.add_comm, List.take_append, List.take_of_length_le (by rw [h.len]; omega), h.len, show sz + k * sz - sz = k * sz from by omega, h.take k a, List.take_succ_cons, h.cons]
theorem IsEnc.at (h : IsEnc sz c1 cl) {l : List α} {i : Nat} {x : α} (hx : l[i]? = some x) : (cl l).drop (i * sz) = c1 x ++ cl (l.drop (i + 1)) := by
  rw [h.drop]
  have hi : i < l.length := by
    rcases Nat.lt_or_ge i l.length with h1 | h1
    · exact h1
    · rw [List.getElem?_eq_none h1] at hx; cases hx
  rw [List.drop_eq_getElem_cons hi, h.cons]
  rw [List.getElem?_eq_getElem hi] at hx
  cases hx; rfl
end

/-- the cells of an element, as a tag has them -/
def tpe (sz : Nat) : Nat → Nat
  | 0 => 0
  | _ + 1 => sz
def clS : List Str → List V := List.map V.str
theorem encS : IsEnc 1 (fun s : Str => [V.str s]) clS := ⟨fun _ => rfl, rfl, fun _ _ => rfl⟩
def clI (k : IntKind) : List Int → List V := List.map (V.int k)
theorem encI (k : IntKind) : IsEnc 1 (fun n : Int => [V.int k n]) (clI k) := ⟨fun _ => rfl, rfl, fun _ _ => rfl⟩
def clB : List Bool → List V := List.map V.bool
theorem encB : IsEnc 1 (fun n : Bool => [V.bool n]) clB := ⟨fun _ => rfl, rfl, fun _ _ => rfl⟩

def clSl {α : Type} (cl : List α → List V) : List (List α) → List V := List.map fun l => .slice .sealed (List.length l) (cl l)
theorem encSl {α : Type} (cl : List α → List V) : IsEnc 1 (fun l : List α => [V.slice .sealed (List.length l) (cl l)]) (clSl cl) := ⟨fun _ => rfl, rfl, fun _ _ => rfl⟩
def bytesOf (l : List Int) : Str := l.map fun n => UInt8.ofNat n.toNat
def intsOf (s : Str) : List Int := s.map fun b => ((b.toNat : Nat) : Int)
section
variable {env : Env} {orc : Orc} {f nr : Nat} {ops : Array Oper} {o : Oper} {rest : List Oper} {fr fr1 : Fr} {H H1 : Hp} {K : Res → Prop}
theorem os_idx {α : Type} {sz : Nat} {c1 : α → List V} {cl : List α → List V} (he : IsEnc sz c1 cl) {l : List α} {i : Int} {x : α} {k : IntKind} {t e : Nat} {a b : Operand} {ow : Own} {y ye : Ty} (hx : idx' l i = some x) (hw : wantedV ops o fr = some true) (ho : o.op = .indexAddr t a b)
    (ha : ev fr a = some (.slice ow l.length (cl l))) (hb : ev fr b = some (.int k i)) (h1 : tyOf t env.T = some y) (h2 : y.sh = .slice e) (h3 : tyOf e env.T = some ye) (h4 : ye.size = sz)
    (h : Os env orc ops rest (putO o.dst (.cptr (c1 x ++ cl (l.drop (i.toNat + 1)))) fr) H K) : Os env orc ops (o :: rest) fr H K := by
  have hp : isPure o.op = true := by rw [ho]; rfl
  obtain ⟨g1, g2⟩ := idx'_inv hx
  refine os_pure0 hw hp ?_ h
  rw [ho]
  simp only [vPure, ha, hb, vIndexAddr, h1, h2, h3, h4, g1, gd, he.at g2]
theorem os_idxS {s : Str} {i x : Int} {k : IntKind} {t : Nat} {a b : Operand} {y : Ty} (hx : idxS s i = some x) (hw : wantedV ops o fr = some true) (ho : o.op = .index t a b)
    (ha : ev fr a = some (.str s)) (hb : ev fr b = some (.int k i)) (h1 : tyOf t env.T = some y) (h2 : y.sh = .string)
    (h : Os env orc ops rest (putO o.dst (.int .u8 x) fr) H K) : Os env orc ops (o :: rest) fr H K := by
  have hp : isPure o.op = true := by rw [ho]; rfl
  obtain ⟨g1, rfl⟩ := idxS_inv hx
  refine os_pure0 hw hp ?_ h
  rw [ho]
  simp only [vPure, ha, hb, vIndex, h1, h2, g1, gd]
/-- a string or a list is cut -/
theorem os_subS {s x : Str} {i j : Int} {t : Nat} {a : Operand} {lo hi : Option Operand} {l' h' : Option V} {y : Ty} (hx : subS s i j = some x) (hw : wantedV ops o fr = some true) (ho : o.op = .slice t a lo hi none)
    (ha : ev fr a = some (.str s)) (hl : evX fr lo = some l') (hh : evX fr hi = some h') (hi' : bnd l' 0 = some i) (hj' : bnd h' s.length = some j) (h1 : tyOf t env.T = some y) (h2 : y.sh = .string)
    (h : Os env orc ops rest (putO o.dst (.str x) fr) H K) : Os env orc ops (o :: rest) fr H K := by
  have hp : isPure o.op = true := by rw [ho]; rfl
  obtain ⟨g1, rfl⟩ := subS_inv hx
  refine os_pure0 hw hp ?_ h
  rw [ho]
  have hx0 : evX fr none = some none := rfl
  simp only [vPure, ha, hl, hh, hx0, vSlice, h1, h2, hi', hj', g1, gd]
theorem os_subL {α : Type} {sz : Nat} {c1 : α → List V} {cl : List α → List V} (he : IsEnc sz c1 cl) {l x : List α} {i j : Int} {t e : Nat} {ow : Own} {a : Operand} {lo hi : Option Operand} {l' h' : Option V} {y ye : Ty} (hx : subL l i j = some x) (hw : wantedV ops o fr = some true) (ho : o.op = .slice t a lo hi none)
    (ha : ev fr a = some (.slice ow l.length (cl l))) (hl : evX fr lo = some l') (hh : evX fr hi = some h') (hi' : bnd l' 0 = some i) (hj' : bnd h' l.length = some j) (h1 : tyOf t env.T = some y) (h2 : y.sh = .slice e) (h3 : tyOf e env.T = some ye) (h4 : ye.size = sz) (hq : (l'.isSome || h'.isSome) = true)
    (h : Os env orc ops rest (putO o.dst (.slice .sealed x.length (cl x)) fr) H K) : Os env orc ops (o :: rest) fr H K := by
  have hp : isPure o.op = true := by rw [ho]; rfl
  obtain ⟨g1, rfl⟩ := subL_inv hx
  subst h4
  refine os_pure0 hw hp ?_ h
  rw [ho]
  have hx0 : evX fr none = some none := rfl
  have hlen : ((l.take j.toNat).drop i.toNat).length = j.toNat - i.toNat := by
    have := g1
    simp only [inI, Bool.and_eq_true, decide_eq_true_eq] at this
    rw [List.length_drop, List.length_take]
    omega
  rw [hlen, ← he.drop, ← he.take]
  cases l' with
  | none => cases h' with
    | none => cases hq
    | some q => simp only [vPure, ha, hl, hh, hx0, vSlice, h1, h2, h3, hi', hj', g1, gd]
  | some q => simp only [vPure, ha, hl, hh, hx0, vSlice, h1, h2, h3, hi', hj', g1, gd]
theorem os_cat {s u x : Str} {t t2 : Nat} {a b : Operand} (hx : cat s u = some x) (hw : wantedV ops o fr = some true) (ho : o.op = .binOp .add t a b t2)
    (ha : ev fr a = some (.str s)) (hb : ev fr b = some (.str u))
    (h : Os env orc ops rest (putO o.dst (.str x) fr) H K) : Os env orc ops (o :: rest) fr H K := by
  have hp : isPure o.op = true := by rw [ho]; rfl
  obtain ⟨g1, rfl⟩ := cat_inv hx
  refine os_pure0 hw hp ?_ h
  rw [ho]
  simp only [vPure, ha, hb, vBin, vStr, g1, gd]
/-- an element, or more, behind a list that has a tag -/
theorem os_app {α : Type} {sz : Nat} {c1 : α → List V} {cl : List α → List V} (he : IsEnc sz c1 cl) {l m x : List α} {bytes : Nat} {args : Array Operand} {at_ : Array TypeId} {a b : Operand} {t xt e g : Nat} {y yx ye : Ty} {v : V} (hx : app bytes l m = some x)
    (hw : wantedV ops o fr = some true) (ho : o.op = .call ⟨.builtin .append, args, at_⟩)
    (ha : args.toList = [a, b]) (ht : at_.toList = [t, xt]) (hs : ev fr a = some (.slice (.tag g) l.length (cl l))) (hv : ev fr b = some v)
    (h1 : tyOf t env.T = some y) (h2 : tyOf xt env.T = some yx) (h3 : y.sh = .slice e) (h4 : isSrc yx.sh = true) (h5 : tyOf e env.T = some ye) (h6 : ye.size = sz) (h7 : ye.bytes = bytes) (h8 : Nat.beq sz 0 = false)
    (h9 : vNews env.T e v H = some (m.length, cl m)) (hm : Nat.beq m.length 0 = false) (h10 : hget g H = some (.tip (tpe sz l.length) l.length)) (hH : forceHO (some (hset g (.tip (tpe sz x.length) x.length) H)) = some H1)
    (h : Os env orc ops rest (putO o.dst (.slice (.tag g) x.length (cl x)) fr) H1 K) : Os env orc ops (o :: rest) fr H K := by
  have hp : isPure o.op = false := by rw [ho]; rfl
  obtain ⟨g1, rfl⟩ := app_inv hx
  rw [forceHO_eq, Option.some.injEq] at hH
  subst hH h6 h7
  have hw2 : tpe ye.size l.length = 0 ∨ tpe ye.size l.length = ye.size := by cases l.length <;> simp [tpe]
  have ht2 : tpe ye.size (l ++ m).length = ye.size := by
    rw [List.length_append]
    cases m with
    | nil => simp at hm
    | cons z m => rw [List.length_cons, ← Nat.add_assoc]; rfl
  refine os_eff0 hw hp ?_ h
  unfold opEff
  rw [ho]
  simp only [ha, ht, hs, hv]
  rw [app_tag h1 h2 h3 h4 h5 h9 hm h10 hw2 h8 (he.length l).symm g1, ht2, he.append, List.length_append]
theorem os_appD {α : Type} {sz : Nat} {c1 : α → List V} {cl : List α → List V} (he : IsEnc sz c1 cl) {l m x : List α} {bytes : Nat} {args : Array Operand} {at_ : Array TypeId} {a b : Operand} {t xt e g : Nat} {y yx ye : Ty} {v : V} (hx : app bytes l m = some x)
    (hw : wantedV ops o fr = some true) (ho : o.op = .call ⟨.builtin .append, args, at_⟩)
    (ha : args.toList = [a, b]) (ht : at_.toList = [t, xt]) (hs : ev fr a = some (.slice (.tag g) l.length (cl l))) (hv : ev fr b = some v)
    (h1 : tyOf t env.T = some y) (h2 : tyOf xt env.T = some yx) (h3 : y.sh = .slice e) (h4 : isSrc yx.sh = true) (h5 : tyOf e env.T = some ye) (h6 : ye.size = sz) (h7 : ye.bytes = bytes) (h8 : Nat.beq sz 0 = false)
    (h9 : vNews env.T e v H = some (m.length, cl m)) (h10 : hget g H = some (.tip (tpe sz l.length) l.length)) (hS : forceHO (some (hset g (.tip (tpe sz l.length) l.length) H)) = some H) (hH : forceHO (some (hset g (.tip (tpe sz x.length) x.length) H)) = some H1)
    (h : Os env orc ops rest (putO o.dst (.slice (.tag g) x.length (cl x)) fr) H1 K) : Os env orc ops (o :: rest) fr H K := by
  by_cases hm : m = []
  · subst hm
    have hp : isPure o.op = false := by rw [ho]; rfl
    obtain ⟨g1, rfl⟩ := app_inv hx
    rw [forceHO_eq, Option.some.injEq] at hH hS
    rw [List.append_nil] at hH h
    rw [hS] at hH
    subst hH
    refine os_eff0 hw hp ?_ h
    unfold opEff
    rw [ho]
    simp only [ha, ht, hs, hv]
    unfold vAppend
    simp only [h1, h2, h3, h4, h5, h9, List.length_nil, Nat.beq]
  · refine os_app he hx hw ho ha ht hs hv h1 h2 h3 h4 h5 h6 h7 h8 h9 ?_ h10 hH h
    cases m with
    | nil => exact absurd rfl hm
    | cons z m => rfl
/-- elements behind a nil slice, or one that is full -/
theorem os_appN {α : Type} {sz : Nat} {c1 : α → List V} {cl : List α → List V} (he : IsEnc sz c1 cl) {l m x : List α} {bytes : Nat} {args : Array Operand} {at_ : Array TypeId} {a b : Operand} {t xt e : Nat} {ow : Own} {y yx ye : Ty} {v : V} (hx : app bytes l m = some x)
    (hw : wantedV ops o fr = some true) (ho : o.op = .call ⟨.builtin .append, args, at_⟩)
    (ha : args.toList = [a, b]) (ht : at_.toList = [t, xt]) (how : ow = .nil ∨ ow = .full) (hs : ev fr a = some (.slice ow l.length (cl l))) (hv : ev fr b = some v)
    (h1 : tyOf t env.T = some y) (h2 : tyOf xt env.T = some yx) (h3 : y.sh = .slice e) (h4 : isSrc yx.sh = true) (h5 : tyOf e env.T = some ye) (h6 : ye.size = sz) (h7 : ye.bytes = bytes) (h8 : Nat.beq sz 0 = false)
    (h9 : vNews env.T e v H = some (m.length, cl m)) (hm : Nat.beq m.length 0 = false) (h10 : hget (newName o) H = none) (hH : forceHO (some (hset (newName o) (.tip (tpe sz x.length) x.length) H)) = some H1)
    (h : Os env orc ops rest (putO o.dst (.slice (.tag (newName o)) x.length (cl x)) fr) H1 K) : Os env orc ops (o :: rest) fr H K := by
  have hp : isPure o.op = false := by rw [ho]; rfl
  obtain ⟨g1, rfl⟩ := app_inv hx
  rw [forceHO_eq, Option.some.injEq] at hH
  subst hH h6 h7
  have ht2 : tpe ye.size (l ++ m).length = ye.size := by
    rw [List.length_append]
    cases m with
    | nil => simp at hm
    | cons z m => rw [List.length_cons, ← Nat.add_assoc]; rfl
  refine os_eff0 hw hp ?_ h
  unfold opEff
  rw [ho]
  simp only [ha, ht, hs, hv]
  unfold vAppend
  have h11 : Nat.beq ye.size 0 = false := h8
  rw [List.length_append] at ht2
  rcases how with rfl | rfl <;>
    simp only [h1, h2, h3, h4, h5, h9, hm, h10, h11, eqN_ok (he.length l).symm, leN_ok g1, Bool.not_false, Bool.and_self, gd, ht2, he.append, List.length_append]
/-- elements, or none, behind a nil slice, or one that is full -/
theorem os_appF {α : Type} {sz : Nat} {c1 : α → List V} {cl : List α → List V} (he : IsEnc sz c1 cl) {l m x : List α} {bytes : Nat} {args : Array Operand} {at_ : Array TypeId} {a b : Operand} {t xt e : Nat} {ow : Own} {y yx ye : Ty} {v : V} (hx : app bytes l m = some x)
    (hw : wantedV ops o fr = some true) (ho : o.op = .call ⟨.builtin .append, args, at_⟩)
    (ha : args.toList = [a, b]) (ht : at_.toList = [t, xt]) (how : ow = .nil ∧ l = [] ∨ ow = .full ∧ leN 1 l.length = true) (hs : ev fr a = some (.slice ow l.length (cl l))) (hv : ev fr b = some v)
    (h1 : tyOf t env.T = some y) (h2 : tyOf xt env.T = some yx) (h3 : y.sh = .slice e) (h4 : isSrc yx.sh = true) (h5 : tyOf e env.T = some ye) (h6 : ye.size = sz) (h7 : ye.bytes = bytes) (h8 : Nat.beq sz 0 = false)
    (h9 : vNews env.T e v H = some (m.length, cl m)) (h10 : hget (newName o) H = none) (hH : forceHO (some (hset (newName o) (.tip (tpe sz x.length) x.length) H)) = some H1)
    (h : Os env orc ops rest (putO o.dst (.slice (.tag (newName o)) x.length (cl x)) fr) H1 K) : Os env orc ops (o :: rest) fr H K := by
  by_cases hm : m = []
  · subst hm
    have hp : isPure o.op = false := by rw [ho]; rfl
    obtain ⟨g1, rfl⟩ := app_inv hx
    rw [forceHO_eq, Option.some.injEq] at hH
    rw [List.append_nil] at hH h
    subst hH h6
    refine os_eff0 hw hp ?_ h
    unfold opEff
    rw [ho]
    simp only [ha, ht, hs, hv]
    unfold vAppend
    have h0 : cl [] = [] := he.nil
    rcases how with ⟨rfl, rfl⟩ | ⟨rfl, h11⟩
    · simp only [h1, h2, h3, h4, h5, h9, List.length_nil, Nat.beq, h10, h8, Bool.not_false, gd, h0, tpe]
    · have h12 := leN_iff h11
      have h13 : tpe ye.size l.length = ye.size := by
        cases hl : l.length with
        | zero => omega
        | succ q => rfl
      simp only [h1, h2, h3, h4, h5, h9, List.length_nil, Nat.beq, h10, h8, h11, Bool.not_false, Bool.and_self, gd, h13]
  · have hw2 : ow = .nil ∨ ow = .full := by rcases how with h | h
                                            · exact .inl h.1
                                            · exact .inr h.1
    refine os_appN he hx hw ho ha ht hw2 hs hv h1 h2 h3 h4 h5 h6 h7 h8 h9 ?_ h10 hH h
    cases m with
    | nil => exact absurd rfl hm
    | cons z m => rfl

theorem os_callP {g : Nat} {args : Array Operand} {at_ : Array TypeId} {l : List V} {v : V} (hw : wantedV ops o fr = some true) (ho : o.op = .call ⟨.value (.func g), args, at_⟩)
    (hl : evL fr args.toList = some l) (hc : callW env orc (newName o) g l H = some (.pan v H1))
    (h : K (.panic v, fr, H1)) : Os env orc ops (o :: rest) fr H K := by
  have hp : isPure o.op = false := by rw [ho]; rfl
  refine ⟨_, ?_, h⟩
  simp only [evalOps, hw, opStep, hp]
  unfold opEff
  rw [ho]
  simp only [ev, hl, List.nil_append, List.append_nil, hc]
theorem os_panic {x : Operand} {t : Nat} {v : V} (hw : wantedV ops o fr = some true) (ho : o.op = .panic x) (hx : ev fr x = some (.iface t v)) (h : K (.panic (.iface t v), fr, H)) : Os env orc ops (o :: rest) fr H K := by
  have hp : isPure o.op = false := by rw [ho]; rfl
  refine ⟨_, ?_, h⟩
  simp only [evalOps, hw, opStep, hp]
  unfold opEff
  rw [ho]
  simp only [hx]
/- a piece of code that has more ends than one: the frame is cut behind it -/
def segK (env : Env) (f nr id : Nat) (F : Fr) (G : Hp) (K : Res → Prop) : Res → Prop
  | (.normal, fr, H) => normal env f nr (id + 100000) fr H = some (F, G)
  | r => K r
theorem ev_seg {a b : Code} (F : Fr) (G : Hp) (hc : env.cut f (cutId b) = true) (hA : Ev env orc f nr a fr H (segK env f nr (cutId b) F G K)) (hB : Ev env orc f nr b F G K) : Ev env orc f nr (.seq a b) fr H K := by
  refine ev_cut hc ?_
  obtain ⟨⟨e, fr1, H1⟩, h1, h2⟩ := hA
  refine ⟨_, h1, ?_⟩
  cases e with
  | normal => exact ⟨_, _, h2, hB⟩
  | _ => exact h2
/-- the same, where the function may end on the way -/
def segL {α ρ : Type} (env : Env) (f nr id : Nat) (y : Lr α ρ) (F : α → Fr) (G : α → Hp) (KR : ρ → Res → Prop) : Res → Prop
  | (.normal, fr, H) => ∃ x, y = .brk x ∧ normal env f nr (id + 100000) fr H = some (F x, G x)
  | r => ∃ z, y = .out z ∧ KR z r
theorem ev_segL {α ρ : Type} {a b : Code} {KR : ρ → Res → Prop} (y : Lr α ρ) (F : α → Fr) (G : α → Hp) (hc : env.cut f (cutId b) = true) (hA : Ev env orc f nr a fr H (segL env f nr (cutId b) y F G KR))
    (hB : ∀ x, y = .brk x → Ev env orc f nr b (F x) (G x) K) (hR : ∀ z r, y = .out z → KR z r → r.1 ≠ .normal → K r) : Ev env orc f nr (.seq a b) fr H K := by
  refine ev_cut hc ?_
  obtain ⟨⟨e, fr1, H1⟩, h1, h2⟩ := hA
  refine ⟨_, h1, ?_⟩
  cases e with
  | normal => obtain ⟨x, h3, h4⟩ := h2; exact ⟨_, _, h4, hB x h3⟩
  | ret => obtain ⟨z, h3, h4⟩ := h2; exact hR z _ h3 h4 (fun h => by cases h)
  | exit i => obtain ⟨z, h3, h4⟩ := h2; exact hR z _ h3 h4 (fun h => by cases h)
  | panic v => obtain ⟨z, h3, h4⟩ := h2; exact hR z _ h3 h4 (fun h => by cases h)
/- drawn regions in which calls keep away from what is loaded beside them -/
def OsP (env : Env) (orc : Orc) (L sl : List Nat) (ops : Array Oper) (l : List Oper) (fr : Fr) (H : Hp) (K : Res → Prop) : Prop := ∃ r, evalOpsP env orc L sl ops l fr H = some r ∧ K r
def onceK (env : Env) (orc : Orc) (L sl : List Nat) (ops : Array Oper) (l : List Oper) (K : Res → Prop) : Res → Prop
  | (.normal, fr, H) => OsP env orc L sl ops l fr H K
  | r => K r
theorem osP_nil {L sl : List Nat} (h : K (.normal, fr, H)) : OsP env orc L sl ops [] fr H K := ⟨_, rfl, h⟩
theorem osP_skip {L sl : List Nat} (hw : wantedV ops o fr = some false) (h : OsP env orc L sl ops rest (putO o.dst (.tuple []) fr) H K) : OsP env orc L sl ops (o :: rest) fr H K := by
  obtain ⟨r, h1, h2⟩ := h; exact ⟨r, by simp only [evalOpsP, hw]; exact h1, h2⟩
theorem osP_cons {L sl : List Nat} (hp : protB env L sl fr H o = true) (h : Os env orc ops [o] fr H (onceK env orc L sl ops rest K)) : OsP env orc L sl ops (o :: rest) fr H K := by
  obtain ⟨r, h1, h2⟩ := h
  simp only [evalOps] at h1
  cases hw : wantedV ops o fr with
  | none => rw [hw] at h1; cases h1
  | some b =>
    rw [hw] at h1
    cases b with
    | false =>
      simp only [Option.some.injEq] at h1
      subst h1
      exact osP_skip hw h2
    | true =>
      simp only at h1
      cases hs : opStep env orc fr H o with
      | none => rw [hs] at h1; cases h1
      | some x =>
        rw [hs] at h1
        cases x with
        | val v H1 =>
          simp only [Option.some.injEq] at h1
          subst h1
          obtain ⟨r, h3, h4⟩ := h2
          exact ⟨r, by simp only [evalOpsP, hw, hp, hs]; exact h3, h4⟩
        | pan v H1 =>
          simp only [Option.some.injEq] at h1
          subst h1
          exact ⟨_, by simp only [evalOpsP, hw, hp, hs], h2⟩
def sepK (nr : Nat) (ops : Array Oper) (L sl : List Nat) (K : Res → Prop) : Res → Prop
  | (.normal, fr, H) => addrNames sl fr = some L ∧ K (.normal, fr, H)
  | (.panic v, fr, H) => addrNames sl fr = some L ∧ absentB (allocNames ops.toList) H = true ∧ ∃ v' H', finish nr v H = some (v', H') ∧ K (.panic v', [], H')
  | _ => False
theorem evalP_sub {L sl : List Nat} : ∀ {l : List Oper} {fr : Fr} {H : Hp} {r : Res}, evalOpsP env orc L sl ops l fr H = some r → evalOps env orc ops l fr H = some r := evalP_plain
theorem ev_regionS {id : Nat} {d : Bool} {S sl : List Nat} (L : List Nat) (hs : sepOf env f id d = some (S, sl)) (h : OsP env orc L sl ops (sepOps ops S) fr H (sepK nr ops L sl K)) : Ev env orc f nr (.region id ops d) fr H K := by
  obtain ⟨⟨e, fr1, H1⟩, h1, h2⟩ := h
  have h3 := evalP_plain h1
  unfold Ev
  simp only [evalCode, hs]
  cases e with
  | normal =>
    obtain ⟨g1, g2⟩ := h2
    exact ⟨_, by simp only [evalSep, h3, g1, h1], g2⟩
  | panic v =>
    obtain ⟨g1, g2, v', H', g3, g4⟩ := h2
    exact ⟨_, by simp only [evalSep, h3, g1, h1, g2, g3], g4⟩
  | ret => exact h2.elim
  | exit i => exact h2.elim
/- loops -/
theorem lp_fuel {σ ρ : Type} {body : Code} (g : Nat → σ → Option ρ) (F : σ → Fr) (G : σ → Hp) (KK : ρ → Res → Prop) (h0 : ∀ x, g 0 x = none)
    (round : ∀ m x y, (∀ x' y', g m x' = some y' → Lp env f nr body (F x') (G x') (KK y')) → g (m + 1) x = some y → Ev env (E env) f nr body (F x) (G x) (roundK env f nr body (KK y))) :
    ∀ m x y, g m x = some y → Lp env f nr body (F x) (G x) (KK y)
  | 0, x, y, h => by rw [h0] at h; cases h
  | m + 1, x, y, h => lp_round (round m x y (fun x' y' h' => lp_fuel g F G KK h0 round m x' y' h') h)
/-- a loop's end: by an exit -/
def lpS {α : Type} (env : Env) (f nr bid id : Nat) (x : α) (F : α → Fr) (G : α → Hp) : Res → Prop
  | (.exit i, fr, H) => i = bid ∧ normal env f nr (id + 100000) fr H = some (F x, G x)
  | _ => False
def lpL {α ρ : Type} (env : Env) (f nr bid id : Nat) (y : Lr α ρ) (F : α → Fr) (G : α → Hp) (KR : ρ → Res → Prop) : Res → Prop
  | (.exit i, fr, H) => i = bid ∧ ∃ x, y = .brk x ∧ normal env f nr (id + 100000) fr H = some (F x, G x)
  | (.normal, _, _) => False
  | r => ∃ z, y = .out z ∧ KR z r
theorem os_loadA {t : Nat} {a : Operand} {cs c r : List V} {y : Ty} (hw : wantedV ops o fr = some true) (ho : o.op = .load t a) (ha : ev fr a = some (.cptr cs)) (hs : cs = c ++ r) (h1 : tyOf t env.T = some y) (h2 : isAggSh y.sh = true) (h3 : c.length = y.size)
    (h : Os env orc ops rest (putO o.dst (.agg c) fr) H K) : Os env orc ops (o :: rest) fr H K := by
  refine os_load hw ho ha ?_ h
  subst hs
  have : leN c.length (c ++ r).length = true := leN_ok (by rw [List.length_append]; omega)
  simp only [vLoad, h1, h2, ← h3, this, gd, List.take_left]
theorem os_callF {g : Nat} {f : Operand} {args : Array Operand} {at_ : Array TypeId} {l a c : List V} {v : V} (hw : wantedV ops o fr = some true) (ho : o.op = .call ⟨.value f, args, at_⟩) (hf : ev fr f = some (.func (.func g) a c))
    (hl : evL fr args.toList = some l) (hc : callW env orc (newName o) g (a ++ l ++ c) H = some (.val v H1))
    (h : Os env orc ops rest (putO o.dst v fr) H1 K) : Os env orc ops (o :: rest) fr H K := by
  have hp : isPure o.op = false := by rw [ho]; rfl
  refine os_eff0 hw hp (v := v) (H1 := H1) ?_ h
  unfold opEff
  rw [ho]
  simp only [hf, hl, hc]
theorem os_callFP {g : Nat} {f : Operand} {args : Array Operand} {at_ : Array TypeId} {l a c : List V} {v : V} (hw : wantedV ops o fr = some true) (ho : o.op = .call ⟨.value f, args, at_⟩) (hf : ev fr f = some (.func (.func g) a c))
    (hl : evL fr args.toList = some l) (hc : callW env orc (newName o) g (a ++ l ++ c) H = some (.pan v H1))
    (h : K (.panic v, fr, H1)) : Os env orc ops (o :: rest) fr H K := by
  have hp : isPure o.op = false := by rw [ho]; rfl
  refine ⟨_, ?_, h⟩
  simp only [evalOps, hw, opStep, hp]
  unfold opEff
  rw [ho]
  simp only [hf, hl, hc]
theorem os_pickT {c a b : Operand} {x : Bool} {v : V} (hw : wantedV ops o fr = some true) (ho : o.op = .pick c a b) (hc : ev fr c = some (.bool x)) (hx : x = true) (hv : forceO (ev fr a) = some v)
    (h : Os env orc ops rest (putO o.dst v fr) H K) : Os env orc ops (o :: rest) fr H K := by
  have hp : isPure o.op = true := by rw [ho]; rfl
  rw [forceO_eq] at hv
  refine os_pure0 hw hp ?_ h
  rw [ho]
  simp only [vPure, hc, hx, hv]
theorem os_pickF {c a b : Operand} {x : Bool} {v : V} (hw : wantedV ops o fr = some true) (ho : o.op = .pick c a b) (hc : ev fr c = some (.bool x)) (hx : x = false) (hv : forceO (ev fr b) = some v)
    (h : Os env orc ops rest (putO o.dst v fr) H K) : Os env orc ops (o :: rest) fr H K := by
  have hp : isPure o.op = true := by rw [ho]; rfl
  rw [forceO_eq] at hv
  refine os_pure0 hw hp ?_ h
  rw [ho]
  simp only [vPure, hc, hx, hv]
theorem unBytes_ints : ∀ l : List Int, unBytes (clI .u8 l) = some (l.map fun n => UInt8.ofNat n.toNat)
  | [] => rfl
  | n :: r => by
    have := unBytes_ints r
    simp only [clI, List.map_cons] at this ⊢
    simp only [unBytes, this]
theorem os_toStr {l : List Int} {ow : Own} {t d e : Nat} {a : Operand} {y z ye : Ty} (hw : wantedV ops o fr = some true) (ho : o.op = .convert t d a) (ha : ev fr a = some (.slice ow l.length (clI .u8 l)))
    (h1 : tyOf t env.T = some y) (h2 : tyOf d env.T = some z) (h3 : z.sh = .string) (h4 : y.sh = .slice e) (h5 : tyOf e env.T = some ye) (h6 : ye.sh = .int .u8)
    (h : Os env orc ops rest (putO o.dst (.str (bytesOf l)) fr) H K) : Os env orc ops (o :: rest) fr H K := by
  have hp : isPure o.op = true := by rw [ho]; rfl
  refine os_pure0 hw hp ?_ h
  rw [ho]
  have h7 : eqN l.length (l.map fun n => UInt8.ofNat n.toNat).length = true := eqN_ok (by rw [List.length_map])
  simp only [vPure, ha, vConv, h1, h2, h3, h4, h5, h6, unBytes_ints, h7, gd, bytesOf]
theorem os_ofStr {s : Str} {t d e : Nat} {a : Operand} {y z ye : Ty} (hw : wantedV ops o fr = some true) (ho : o.op = .convert t d a) (ha : ev fr a = some (.str s))
    (h1 : tyOf t env.T = some y) (h2 : tyOf d env.T = some z) (h3 : y.sh = .string) (h4 : z.sh = .slice e) (h5 : tyOf e env.T = some ye) (h6 : ye.sh = .int .u8)
    (h : Os env orc ops rest (putO o.dst (.slice .sealed (intsOf s).length (clI .u8 (intsOf s))) fr) H K) : Os env orc ops (o :: rest) fr H K := by
  have hp : isPure o.op = true := by rw [ho]; rfl
  refine os_pure0 hw hp ?_ h
  rw [ho]
  simp only [vPure, ha, vConv, h1, h2, h3, h4, h5, h6, bytesV, intsOf, clI, List.length_map, List.map_map]
  rfl
@[reducible] def w64 (x : Int) : Int := IntKind.wrap .i64 x
end
end Go.Vm
/- A program's facts, checked by evaluation. -/
namespace Go.Vm
set_option linter.unusedSimpArgs false
set_option linter.unusedVariables false
set_option linter.unusedSectionVars false

def eqV1 : V → V → Bool
  | .bool a, .bool b => decide (a = b)
  | .int j a, .int k b => decide (j = k) && decide (a = b)
  | .str a, .str b => decide (a = b)
  | .nilptr, .nilptr => true
  | .slice .nil 0 [], .slice .nil 0 [] => true
  | .nilFunc, .nilFunc => true
  | .nilIface, .nilIface => true
  | _, _ => false
theorem eqV1_ok {a b : V} (h : eqV1 a b = true) : a = b := by
  unfold eqV1 at h
  split at h <;> first | rfl | cases h | (simp at h; simp [h])
def eqVs1 : List V → List V → Bool
  | [], [] => true
  | a :: r, b :: s => eqV1 a b && eqVs1 r s
  | _, _ => false
theorem eqVs1_ok : ∀ {a b : List V}, eqVs1 a b = true → a = b
  | [], [], _ => rfl
  | a :: r, b :: s, h => by
    simp only [eqVs1, Bool.and_eq_true] at h
    rw [eqV1_ok h.1, eqVs1_ok h.2]
  | [], _ :: _, h => by cases h
  | _ :: _, [], h => by cases h

def isAggV : Value → Bool
  | .agg _ => true
  | _ => false

def infoB (P : Program) (t : Nat) (y : Ty) : Bool :=
  match P.info? t with
  | none => false
  | some i => match i.zero with
    | none => false
    | some z => decide (i.size = y.size) && decide (i.bytes = y.bytes) && (match mapO ofConst z.cells.toList with | some l => eqVs1 l y.zero | none => false) && decide (z.cells.size = y.size) && decide (isAggV z = isAggSh y.sh)

def shB (P : Program) (t : Nat) : Sh → Bool
  | .bool => match P.underlying t with | some .bool => true | _ => false
  | .string => match P.underlying t with | some .string => true | _ => false
  | .int k => match P.underlying t with | some (.int j) => decide (j = k) | _ => false
  | .ptr e => match P.underlying t with | some (.pointer j) => decide (j = e) | _ => false
  | .slice e => match P.underlying t with | some (.slice j) => decide (j = e) | _ => false
  | .array n e => match P.underlying t with | some (.array m j) => decide (m = n) && decide (j = e) | _ => false
  | .struct fs => match P.underlying t with
    | some (.struct l) => !P.stoodInHeld t && decide ((l.toList.map fun f => (f.type, f.offset)) = fs) && l.toList.all (fun f => decide (f.name ≠ "_")) && l.toList.all (fun f => (P.info? f.type).isSome)
    | _ => false
  | .iface => match P.underlying t with | some (.interface _) => true | _ => false
  | .func => match P.underlying t with | some (.func ..) => true | _ => false
  | .other => (P.underlying t).isSome

def restB (P : Program) (t : Nat) (s : Sh) : Bool :=
  match P.underlying t with
  | none => false
  | some d => (isAggSh s || (match d with | .struct _ | .array .. => false | _ => true)) && (match s, d with | .iface, _ => true | _, .interface _ => false | _, _ => true) &&
    (match s with | .iface | .array .. => true | _ => !P.eqGuardType P.depth t)

def tyB (P : Program) (t : Nat) (y : Ty) : Bool := infoB P t y && shB P t y.sh && restB P t y.sh

theorem cells_noAgg {z : Value} (h : isAggV z = false) : z.cells = #[z] := by cases z <;> first | rfl | cases h

theorem tyB_ok {P : Program} {t : Nat} {y : Ty} (h : tyB P t y = true) : TyOk P t y := by
  simp only [tyB, Bool.and_eq_true] at h
  obtain ⟨⟨h1, h2⟩, h3⟩ := h
  refine ⟨?_, ?_, ?_, ?_, ?_, ?_⟩
  · unfold infoB at h1
    split at h1
    · cases h1
    · rename_i i hi
      split at h1
      · cases h1
      · rename_i z hz
        simp only [Bool.and_eq_true, decide_eq_true_eq] at h1
        obtain ⟨⟨⟨⟨g1, g2⟩, g3⟩, g4⟩, g5⟩ := h1
        split at g3
        · rename_i l hl
          have := eqVs1_ok g3
          subst this
          refine ⟨i, z, hi, g1, g2, hz, hl, g4, fun ha => ?_, fun ha => cells_noAgg (g5.trans ha)⟩
          rw [ha] at g5
          cases z <;> first | exact ⟨_, rfl⟩ | cases g5
        · cases g3
  · unfold shB at h2
    split at h2 <;> rename_i hs <;> simp only [hs]
    · split at h2 <;> first | assumption | cases h2
    · split at h2 <;> first | assumption | cases h2
    · split at h2
      · rename_i hu; simp only [decide_eq_true_eq] at h2; subst h2; exact hu
      · cases h2
    · split at h2
      · rename_i hu; simp only [decide_eq_true_eq] at h2; subst h2; exact hu
      · cases h2
    · split at h2
      · rename_i hu; simp only [decide_eq_true_eq] at h2; subst h2; exact hu
      · cases h2
    · split at h2
      · rename_i hu; simp only [Bool.and_eq_true, decide_eq_true_eq] at h2; obtain ⟨rfl, rfl⟩ := h2; exact hu
      · cases h2
    · split at h2
      · rename_i l hu
        simp only [Bool.and_eq_true, Bool.not_eq_true', decide_eq_true_eq] at h2
        obtain ⟨⟨⟨g1, g2⟩, g3⟩, g4⟩ := h2
        exact ⟨g1, l, hu, g2, by simpa using g3, g4⟩
      · cases h2
    · split at h2
      · rename_i ms hu; exact ⟨ms, hu⟩
      · cases h2
    · split at h2
      · rename_i a b c hu; exact ⟨a, b, c, hu⟩
      · cases h2
  · intro ha d hd
    unfold restB at h3
    rw [hd] at h3
    simp only [ha, Bool.false_or, Bool.and_eq_true] at h3
    obtain ⟨⟨g, _⟩, _⟩ := h3
    constructor
    · rintro fs rfl; cases g
    · rintro n e rfl; cases g
  · unfold restB at h3
    split at h3
    · cases h3
    · rename_i d hd; exact ⟨d, hd⟩
  · intro hs ms hu
    unfold restB at h3
    rw [hu] at h3
    simp only [Bool.and_eq_true] at h3
    obtain ⟨⟨_, g⟩, _⟩ := h3
    cases hy : y.sh <;> rw [hy] at g hs <;> first | exact hs | cases g
  · intro hs
    unfold restB at h3
    split at h3
    · cases h3
    · simp only [Bool.and_eq_true] at h3
      obtain ⟨_, g⟩ := h3
      cases hy : y.sh <;> rw [hy] at g hs <;> first | exact hs.elim | simpa using g

def tysB (P : Program) (T : List (Nat × Ty)) : Bool := T.all fun p => tyB P p.1 p.2

theorem tysB_ok {P : Program} : ∀ {T : List (Nat × Ty)}, tysB P T = true → TOk P T
  | [], _, t, y, h => by cases h
  | (s, z) :: r, hb, t, y, h => by
    simp only [tysB, List.all_cons, Bool.and_eq_true] at hb
    simp only [tyOf] at h
    split at h
    · rename_i hs
      cases h
      have := Nat.eq_of_beq_eq_true hs
      subst this
      exact tyB_ok hb.1
    · exact tysB_ok hb.2 t y h

def codesB (env : Env) (l : List Nat) : Bool := l.all fun g => match env.P.funcs[g]? with
  | none => true
  | some fn => !(fn.name == "runtime.NumGoroutine") && match fn.body with
    | none => true
    | some c => codeB env g fn.ntmps c

theorem has_true {k : Nat} : ∀ {l : List Nat}, has k l = true → k ∈ l
  | [], h => by cases h
  | a :: r, h => by
    simp only [has] at h
    split at h
    · rename_i hb; rw [Nat.eq_of_beq_eq_true hb]; exact List.mem_cons_self ..
    · exact List.mem_cons_of_mem _ (has_true h)

theorem codesB_ok {env : Env} {l : List Nat} (hok : ∀ g, env.ok g = true → has g l = true) (h : codesB env l = true) : ∀ g fn c, env.ok g = true → env.P.funcs[g]? = some fn → fn.body = some c → codeB env g fn.ntmps c = true ∧ (fn.name == "runtime.NumGoroutine") = false := by
  intro g fn c h1 h2 h3
  rw [codesB, List.all_eq_true] at h
  have := h g (has_true (hok g h1))
  rw [h2] at this
  simp only [h3, Bool.and_eq_true, Bool.not_eq_true'] at this
  exact ⟨this.2, this.1⟩
end Go.Vm
/- A block that only the caller knows stands through a call: what holds of the rest holds still. -/
namespace Go.Vm
set_option linter.unusedSimpArgs false
set_option linter.unusedVariables false
set_option linter.unusedSectionVars false
open Go
set_option linter.unusedVariables false
variable {ρ ρ' : Rho} {lab lab' : Lab} {w w' : World} {H : Hp}

theorem Rel.carry (hF : ∀ b o x, FCell lab w b o x → FCell lab' w' b o x) {v : V} {x : Value} (h : Rel ρ lab w v x) : Rel ρ lab' w' v x := by
  induction h with
  | undef x => exact .undef x
  | bool b => exact .bool b
  | int k n => exact .int k n
  | str s => exact .str s
  | nilptr => exact .nilptr
  | ptr r off b o c h => exact .ptr r off b o c h
  | cptr cells xs b o hl hc _ hnf ih => exact .cptr cells xs b o hl (fun i x hx => hF _ _ _ (hc i x hx)) ih hnf
  | slice ow n cells xs b o ao cap hl hn hb hz hc _ how h1 hnf ih => exact .slice ow n cells xs b o ao cap hl hn hb hz (fun i x hx => hF _ _ _ (hc i x hx)) ih how h1 hnf
  | rslice r off n wh base g ao cap h1 h2 h3 h4 h5 => exact .rslice r off n wh base g ao cap h1 h2 h3 h4 h5
  | func fn a c xs ys h1 h2 _ _ ih1 ih2 => exact .func fn a c xs ys h1 h2 ih1 ih2
  | nilFunc => exact .nilFunc
  | iface t v x _ ih => exact .iface t v x ih
  | nilIface => exact .nilIface
  | agg cells xs h1 _ ih => exact .agg cells xs h1 ih
  | tuple cells xs h1 _ ih => exact .tuple cells xs h1 ih
theorem RelL.carry (hF : ∀ b o x, FCell lab w b o x → FCell lab' w' b o x) {v : List V} {x : List Value} (h : RelL ρ lab w v x) : RelL ρ lab' w' v x :=
  ⟨h.1, fun i v x hv hx => (h.2 i v x hv hx).carry hF⟩

theorem Sim.relab (hS : Sim ρ lab H w) (hF : ∀ b o x, FCell lab w b o x → FCell lab' w' b o x) (hO : ∀ b o k, OCell lab w k b o → OCell lab' w' k b o ∧ cellAt w' b o = cellAt w b o)
    (hl : ∀ b o k, lab' b o = some k → b < w'.heap.size) : Sim ρ lab' H w' where
  row := fun k cs hk => by
    obtain ⟨b, o, xs, h1, h2, h3⟩ := hS.row k cs hk
    exact ⟨b, o, xs, h1, h2.carry hF, fun i x hx => ⟨(hO _ _ _ (h3 i x hx).1).1, (hO _ _ _ (h3 i x hx).1).2.trans (h3 i x hx).2⟩⟩
  grow := fun k e cs hk => by
    obtain ⟨base, c, xs, h1, h2, h3, h4, h8, h9, h5⟩ := hS.grow k e cs hk
    refine ⟨base, c, xs, h1, h2.carry hF, h3, h4, h8, h9, fun b o hb => ?_⟩
    obtain ⟨h6, h7⟩ := h5 b o hb
    refine ⟨fun i hi => (hO _ _ _ (h6 i hi)).1, fun i x hx => ?_⟩
    have hi : i < c * e := by
      have : i < xs.length := by
        rcases Nat.lt_or_ge i xs.length with h | h
        · exact h
        · rw [List.getElem?_eq_none h] at hx; cases hx
      rw [h2.1] at this; omega
    exact (hO _ _ _ (h6 i hi)).2.trans (h7 i x hx)
  tip := fun k e n hk => by
    obtain ⟨ao, cap, h1, h2, h3, h4, h5⟩ := hS.tip k e n hk
    exact ⟨ao, cap, h1, h2, h3, h4, fun a ha => ⟨(h5 a ha).1, fun i hi hj => (hO _ _ _ ((h5 a ha).2 i hi hj)).1⟩⟩
  hdom := hS.hdom
  adom := hS.adom
  ldom := hl

/-- the caller's own block -/
def Lab.mine (lab : Lab) (B : Nat) : Lab := fun b o => if b = B then some none else lab b o
def Lab.left (lab : Lab) (B : Nat) : Lab := fun b o => if b = B then none else lab b o

theorem mineF (hg : Grew w w') : ∀ b o x, FCell lab w b o x → FCell (lab.mine w.heap.size) w' b o x := fun b o x h => by
  have hb := cellAt_lt h.cell
  refine ⟨?_, (hg.cell hb o).trans h.cell⟩
  simp only [Lab.mine]
  rw [if_neg (by omega)]
  exact h.lab
theorem Sim.mine (hS : Sim ρ lab H w) (hg : Grew w w') (hB : w.heap.size < w'.heap.size) : Sim ρ (lab.mine w.heap.size) H w' := by
  refine hS.relab (mineF hg) (fun b o k h => ?_) (fun b o k h => ?_)
  · obtain ⟨x, hx⟩ := h.cell
    have hb := cellAt_lt hx
    refine ⟨⟨?_, (hg.frozen hb o).trans h.free, x, (hg.cell hb o).trans hx⟩, hg.cell hb o⟩
    simp only [Lab.mine]
    rw [if_neg (by omega)]
    exact h.lab
  · simp only [Lab.mine] at h
    split at h
    · rename_i hb; subst hb; exact hB
    · exact Nat.lt_of_lt_of_le (hS.ldom b o k h) hg.size

section
variable {w1 w2 w3 : World} {B : Nat}
theorem mine_cell (E : Ext (lab.mine B) w1 lab' w2) (hB : B < w1.heap.size) (o : Nat) : cellAt w2 B o = cellAt w1 B o ∧ w2.frozen? ⟨B, o, none⟩ = w1.frozen? ⟨B, o, none⟩ :=
  E.cl B o hB (fun k => by simp [Lab.mine])
/-- from behind the call on: the block is written, and there is more -/
structure Wrote (B : Nat) (w w' : World) : Prop where
  size : w.heap.size ≤ w'.heap.size
  os : w'.os = w.os
  tape : w'.tape = w.tape
  output : w'.output = w.output
  blk : ∀ b, b < w.heap.size → b ≠ B → w'.heap[b]? = w.heap[b]?
theorem Wrote.cell (h : Wrote B w w') {b : Nat} (hb : b < w.heap.size) (hn : b ≠ B) (o : Nat) : cellAt w' b o = cellAt w b o := by simp only [cellAt, World.cell?, h.blk b hb hn]
theorem Wrote.frozen (h : Wrote B w w') {b : Nat} (hb : b < w.heap.size) (hn : b ≠ B) (o : Nat) : w'.frozen? ⟨b, o, none⟩ = w.frozen? ⟨b, o, none⟩ := by simp only [World.frozen?, h.blk b hb hn]
theorem Wrote.refl (B : Nat) (w : World) : Wrote B w w := ⟨Nat.le_refl _, rfl, rfl, rfl, fun _ _ _ => rfl⟩
theorem leftF (E : Ext (lab.mine B) w1 lab' w2) (hw : Wrote B w2 w3) : ∀ b o x, FCell lab' w2 b o x → FCell (lab'.left B) w3 b o x := fun b o x h => by
  have hb := cellAt_lt h.cell
  have hn : b ≠ B := by
    rintro rfl
    have := (E.ctx b o).2 (by simp [Lab.mine])
    rw [h.lab] at this; cases this
  refine ⟨?_, (hw.cell hb hn o).trans h.cell⟩
  simp only [Lab.left]
  rw [if_neg hn]
  exact h.lab
theorem Sim.left (hS : Sim ρ' lab' H w2) (E : Ext (lab.mine B) w1 lab' w2) (hw : Wrote B w2 w3) : Sim ρ' (lab'.left B) H w3 := by
  refine hS.relab (leftF E hw) (fun b o k h => ?_) (fun b o k h => ?_)
  · obtain ⟨x, hx⟩ := h.cell
    have hb := cellAt_lt hx
    have hn : b ≠ B := by
      rintro rfl
      have := (E.ctx b o).2 (by simp [Lab.mine])
      rw [h.lab] at this; cases this
    refine ⟨⟨?_, (hw.frozen hb hn o).trans h.free, x, (hw.cell hb hn o).trans hx⟩, hw.cell hb hn o⟩
    simp only [Lab.left]
    rw [if_neg hn]
    exact h.lab
  · simp only [Lab.left] at h
    split at h
    · cases h
    · exact Nat.lt_of_lt_of_le (hS.ldom b o k h) hw.size
theorem Ext.left (hS : Sim ρ lab H w) (hg : Grew w w1) (hB : w.heap.size < w1.heap.size) (E : Ext (lab.mine w.heap.size) w1 lab' w2) (hw : Wrote w.heap.size w2 w3) : Ext lab w (lab'.left w.heap.size) w3 where
  size := Nat.le_trans hg.size (Nat.le_trans E.size hw.size)
  os := hw.os.trans (E.os.trans hg.os)
  tape := hw.tape.trans (E.tape.trans hg.tape)
  output := hw.output.trans (E.output.trans hg.output)
  lb := fun b o hb hl => by
    simp only [Lab.left]
    rw [if_neg (by omega)]
    exact E.lb b o (Nat.lt_of_lt_of_le hb hg.size) (by simp only [Lab.mine]; rw [if_neg (by omega)]; exact hl)
  ctx := fun b o => by
    by_cases hb : b = w.heap.size
    · subst hb
      have h1 : (lab'.left w.heap.size) w.heap.size o = none := by simp [Lab.left]
      rw [h1]
      constructor
      · intro h; cases h
      · intro h
        have := hS.ldom _ _ _ h
        omega
    · have := E.ctx b o
      simp only [Lab.left, Lab.mine, if_neg hb] at this ⊢
      exact this
  cl := fun b o hb hl => by
    have hb1 := Nat.lt_of_lt_of_le hb hg.size
    have h1 := E.cl b o hb1 (fun k => by simp only [Lab.mine]; rw [if_neg (by omega)]; exact hl k)
    have hb2 := Nat.lt_of_lt_of_le hb1 E.size
    exact ⟨(hw.cell hb2 (by omega) o).trans (h1.1.trans (hg.cell hb o)), (hw.frozen hb2 (by omega) o).trans (h1.2.trans (hg.frozen hb o))⟩
  blk := fun b hb hl => by
    have hb1 := Nat.lt_of_lt_of_le hb hg.size
    have h1 := E.blk b hb1 (fun o k => by simp only [Lab.mine]; rw [if_neg (by omega)]; exact hl o k)
    have hb2 := Nat.lt_of_lt_of_le hb1 E.size
    exact (hw.blk b hb2 (by omega)).trans (h1.trans (hg.blk b hb))
end
/-- all cells of all rows, sealed -/
def sealH : Hp → Hp
  | [] => []
  | (k, .row cs) :: r => (k, .row (cs.map sealV)) :: sealH r
  | (k, o) :: r => (k, o) :: sealH r
def sealO : Obj → Obj
  | .row cs => .row (cs.map sealV)
  | o => o
theorem sealH_cons (k : Nat) (o : Obj) (r : Hp) : sealH ((k, o) :: r) = (k, sealO o) :: sealH r := by cases o <;> rfl
theorem hget_sealH (j : Nat) : ∀ H : Hp, hget j (sealH H) = (hget j H).map sealO
  | [] => rfl
  | (k, o) :: r => by
    rw [sealH_cons]
    simp only [hget]
    cases Nat.beq k j with
    | true => rfl
    | false => exact hget_sealH j r
theorem sealH_length : ∀ H : Hp, (sealH H).length = H.length
  | [] => rfl
  | (k, o) :: r => by rw [sealH_cons]; simp only [List.length_cons, sealH_length r]
theorem canon_sealH : ∀ (n : Nat) (H : Hp), Canon n H → Canon n (sealH H)
  | _, [], _ => trivial
  | n, (k, o) :: r, h => by
    rw [sealH_cons]
    exact ⟨h.1, canon_sealH (n + 1) r h.2⟩
theorem Sim.sealH (hS : Sim ρ lab H w) : Sim ρ lab (Vm.sealH H) w := by
  have hg : ∀ {j o}, hget j (Vm.sealH H) = some o → ∃ o', hget j H = some o' ∧ o = sealO o' := fun {j o} h => by
    rw [hget_sealH] at h
    cases hq : hget j H with
    | none => rw [hq] at h; cases h
    | some o' => rw [hq] at h; cases h; exact ⟨o', rfl, rfl⟩
  refine Sim.mk' (fun j o hj => ?_) (fun j n x h => ?_) (fun j x h => ?_) hS.ldom
  · obtain ⟨o', h1, rfl⟩ := hg hj
    cases o' with
    | row cs =>
      obtain ⟨b, o, xs, g1, g2, g3⟩ := hS.row j cs h1
      exact ⟨b, o, xs, g1, g2.toSealed, g3⟩
    | grow e cs => exact hS.grow j e cs h1
    | tip e n => exact hS.tip j e n h1
    | gone => trivial
  · obtain ⟨e, m, h1, h2⟩ := hS.hdom j n x h
    exact ⟨e, m, by rw [hget_sealH, h1]; rfl, h2⟩
  · have := hS.adom j x h
    rw [hget_sealH]
    cases hq : hget j H with
    | none => exact absurd hq this
    | some o => simp
/-- a call by a contract that makes one call -/
theorem E_via {env : Env} {g g' : Nat} {args l : List V} {H H' : Hp} {o out : Out} {pre : List V → Hp → Option (Nat × List V × Hp)} {post : List V → Hp → Out → Option Out} (hi : env.intr g = some (.via pre post)) (hp : pre args H = some (g', l, H'))
    (hc : E env (.call g' l) H' = some o) (ho : post args H o = some out) : E env (.call g args) H = some out :=
  E_step (by simp only [step, hi, hp, hc, ho])
end Go.Vm
/- Two calls, one after the other, on an object that the caller has just made. -/
namespace Go.Vm
set_option linter.unusedSimpArgs false
set_option linter.unusedVariables false
set_option linter.unusedSectionVars false
open Go
set_option linter.unusedVariables false
variable {env : Env}
/-- nothing is named -/
def rho0 : Rho := ⟨fun _ => none, fun _ _ => none⟩
def lab0 : Lab := fun _ _ => none
theorem rho0_le (ρ : Rho) : rho0.le ρ := ⟨fun _ _ h => (by cases h), fun _ _ _ h => (by cases h)⟩
def rho1 (B : Nat) : Rho := ⟨fun k => if k = 0 then some (some (B, 0), none) else none, fun k n => if k = 1 ∧ n = 0 then some (none, 0) else none⟩
def lab1 (B : Nat) : Lab := fun b o => if b = B ∧ o = 0 then some (some 0) else none
def hp1 : Hp := [(0, .row [.slice (.tag 1) 0 []]), (1, .tip 0 0)]

/-- values of an elder world, handed on -/
theorem old_rel {w0 w : World} {B : Nat} (hB : w0.heap.size ≤ B) (hk : ∀ b, b < w0.heap.size → w.heap[b]? = w0.heap[b]?) {v : V} {x : Value} (h : Rel rho0 lab0 w0 v x) : Rel (rho1 B) (lab1 B) w v x := by
  have h1 : Rel rho0 (lab1 B) w v x := by
    refine h.carry fun b o x h => ?_
    have hb := cellAt_lt h.cell
    refine ⟨?_, ?_⟩
    · simp only [lab1]
      rw [if_neg (by omega)]
    · simp only [cellAt, World.cell?, hk b hb]
      exact h.cell
  exact h1.ext (Ext.refl _ _) (rho0_le _)

theorem sim1 {w : World} {B : Nat} (hc : w.cell? ⟨B, 0, none⟩ = some (.slice none 0 0)) (hz : w.frozen? ⟨B, 0, none⟩ = false) : Sim (rho1 B) (lab1 B) hp1 w where
  row := fun k cs h => by
    have : k = 0 ∧ cs = [.slice (.tag 1) 0 []] := by
      simp only [hp1, hget] at h
      split at h
      · rename_i hb; cases h; exact ⟨(Nat.eq_of_beq_eq_true hb).symm, rfl⟩
      · split at h
        · cases h
        · cases h
    obtain ⟨rfl, rfl⟩ := this
    refine ⟨B, 0, [.slice none 0 0], by simp [rho1], ?_, fun i x hx => ?_⟩
    · refine relL_cons_iff.2 ⟨_, _, rfl, .slice _ 0 [] [] 0 0 none 0 rfl (Nat.le_refl _) (fun h => by omega) (fun _ => rfl) (fun i x h => by simp at h) (fun i v x h => by simp at h) (by simp [rho1]) (by simp) (by simp), ⟨rfl, by simp⟩⟩
    · match i, hx with
      | 0, hx =>
        cases hx
        exact ⟨⟨by simp [lab1], hz, _, hc⟩, hc⟩
      | i + 1, hx => simp at hx
  grow := fun k e cs h => by
    simp only [hp1, hget] at h
    split at h
    · cases h
    · split at h <;> cases h
  tip := fun k e n h => by
    have : k = 1 ∧ e = 0 ∧ n = 0 := by
      simp only [hp1, hget] at h
      split at h
      · cases h
      · split at h
        · rename_i hb; cases h; exact ⟨(Nat.eq_of_beq_eq_true hb).symm, rfl, rfl⟩
        · cases h
    obtain ⟨rfl, rfl, rfl⟩ := this
    exact ⟨none, 0, by simp [rho1], Nat.le_refl _, fun _ => rfl, fun _ => rfl, fun a h => by cases h⟩
  hdom := fun k n x h => by
    simp only [rho1] at h
    split at h
    · rename_i hk
      obtain ⟨rfl, rfl⟩ := hk
      exact ⟨0, 0, rfl, Nat.le_refl _⟩
    · cases h
  adom := fun k x h => by
    simp only [rho1] at h
    split at h
    · rename_i hk
      subst hk
      simp [hp1, hget]
    · cases h
  ldom := fun b o k h => by
    simp only [lab1] at h
    split at h
    · rename_i hb
      obtain ⟨rfl, rfl⟩ := hb
      exact cellAt_lt hc
    · cases h

theorem wrote_of_ext {w w' : World} {B : Nat} {lab' : Lab} (E : Ext (lab1 B) w lab' w') : Wrote B w w' :=
  ⟨E.size, E.os, E.tape, E.output, fun b hb hn => E.blk b hb (fun o k h => by
    simp only [lab1] at h
    rw [if_neg (fun h => hn h.1)] at h
    cases h)⟩

theorem two_calls (hE : EnvOk env) {g1 g2 : Nat} {c : V} {H1 H2 : Hp} {s : List UInt8}
    (h1 : E env (.call g1 [.ptr 0 0, c]) hp1 = some (.ret (.tuple []) H1)) (h2 : E env (.call g2 [.ptr 0 0]) H1 = some (.ret (.str s) H2))
    {w0 w : World} {B : Nat} (hB : w0.heap.size ≤ B) (hk : ∀ b, b < w0.heap.size → w.heap[b]? = w0.heap[b]?) (hc : w.cell? ⟨B, 0, none⟩ = some (.slice none 0 0)) (hz : w.frozen? ⟨B, 0, none⟩ = false) {x : Value} (hx : Rel rho0 lab0 w0 c x) :
    Calls env.P g1 #[.pointer (some ⟨B, 0, none⟩), x] w fun e w1 => e = .returned (.tuple #[]) ∧ Wrote B w w1 ∧
      Calls env.P g2 #[.pointer (some ⟨B, 0, none⟩)] w1 fun e w2 => e = .returned (.string ⟨⟨s⟩⟩) ∧ Wrote B w w2 := by
  obtain ⟨k1, hk1⟩ := (run_chain env).at_ _ _ _ h1
  obtain ⟨k2, hk2⟩ := (run_chain env).at_ _ _ _ h2
  have hS := sim1 hc hz
  have hp : Rel (rho1 B) (lab1 B) w (.ptr 0 0) (.pointer (some ⟨B, 0 + 0, none⟩)) := .ptr 0 0 B 0 none (by simp [rho1])
  have hL : RelL (rho1 B) (lab1 B) w [.ptr 0 0, c] [.pointer (some ⟨B, 0, none⟩), x] := relL_cons_iff.2 ⟨_, _, rfl, hp, relL_cons_iff.2 ⟨_, _, rfl, old_rel hB hk hx, ⟨rfl, by simp⟩⟩⟩
  have C1 := (run_ok hE k1).1.call g1 _ _ _ hk1 (rho1 B) (lab1 B) w _ ⟨rfl, rfl, trivial⟩ hS hL
  refine C1.mono fun e w1 hP => ?_
  cases e with
  | returned v =>
    obtain ⟨ρ', lab', s1, s2, s3, s4, s5, s6⟩ := hP
    have hv : v = .tuple #[] := by
      cases s4 with
      | tuple _ zs h1 h2 =>
        have : zs = [] := by simpa using h1
        subst this; rfl
    refine ⟨by rw [hv], wrote_of_ext s2, ?_⟩
    have ha : ρ'.at_ 0 = some (some (B, 0), none) := s3.at_ 0 _ (by decide) (by simp [rho1])
    have hp2 : Rel ρ' lab' w1 (.ptr 0 0) (.pointer (some ⟨B, 0 + 0, none⟩)) := .ptr 0 0 B 0 none ha
    have hL2 : RelL ρ' lab' w1 [.ptr 0 0] [.pointer (some ⟨B, 0, none⟩)] := relL_cons_iff.2 ⟨_, _, rfl, hp2, ⟨rfl, by simp⟩⟩
    have C2 := (run_ok hE k2).1.call g2 _ _ _ hk2 ρ' lab' w1 _ s5 s1 hL2
    refine C2.mono fun e w2 hP => ?_
    cases e with
    | returned v2 =>
      obtain ⟨ρ2, lab2, t1, t2, t3, t4, t5, t6⟩ := hP
      have hv2 : v2 = .string ⟨⟨s⟩⟩ := by cases t4; rfl
      exact ⟨by rw [hv2], wrote_of_ext (s2.trans t2)⟩
    | panicked ch => exact hP.elim
    | outgrown => exact hP.elim
  | panicked ch => exact hP.elim
  | outgrown => exact hP.elim
end Go.Vm
