/- Texts that were built one by one, joined: VmK VmL VmM VmN VmO VmP VmQ VmR VmS VmU VmV VmW VmX VmY VmZ. -/
import Derived.Test.YtmaaaamfjpjhcaaK1
import Derived.Below
/- append. -/
namespace Go.Vm
set_option linter.unusedSimpArgs false
set_option linter.unusedVariables false
set_option linter.unusedSectionVars false
section
variable {P : Program} {T : List (Nat × Ty)} {ρ : Rho} {lab : Lab} {w : World} {H : Hp} {fr : Fr} {a : Act}

theorem eqN_iff {a b : Nat} (h : eqN a b = true) : a = b := by simpa [eqN] using h
theorem leN_iff {a b : Nat} (h : leN a b = true) : a ≤ b := by simpa [leN] using h

theorem lt_of_get {α : Type} {l : List α} {i : Nat} {x : α} (h : l[i]? = some x) : i < l.length := by
  rcases Nat.lt_or_ge i l.length with h' | h'
  · exact h'
  · rw [List.getElem?_eq_none h'] at h; cases h

theorem loadCells_at {w0 : World} {b o : Nat} {xs : List Value} (h : ∀ (i : Nat) (x : Value), xs[i]? = some x → cellAt w0 b (o + i) = some x) :
    (loadCells ⟨b, o, none⟩ xs.length).run P w0 = .ok xs.toArray w0 :=
  run_loadCells_list (P := P) w0 ⟨b, o, none⟩ xs (fun j v hv => by rw [add_zero]; exact h j v hv)

/-- what is appended: its cells -/
theorem src_ok (hT : TOk P T) (hS : Sim ρ lab H w) {e m : Nat} {ye : Ty} {x : V} {xa : Value} {news : List V} (hye : tyOf e T = some ye) (hx : Rel ρ lab w x xa) (h : vNews T e x H = some (m, news)) :
    ∃ ys, RelL ρ lab w news ys ∧ (∀ y ∈ ys, y.oneCell' = true) ∧ (∀ v ∈ news, NF v) ∧ ys.length = m * ye.size ∧ (∀ w0, (Builtin.lenOf xa).run P w0 = .ok m w0) ∧
      ∀ w0, (∀ b o, b < w.heap.size → cellAt w0 b o = cellAt w b o) → (Builtin.firstCells ye.size m xa).run P w0 = .ok ys.toArray w0 := by
  -- cells that are known, behind a slice's head
  have key : ∀ (ao : Option Addr) (n cap b o : Nat) (xs : List Value), (0 < n → ao = some ⟨b, o, none⟩) → xs.length = n * ye.size → (∀ (i : Nat) (x : Value), xs[i]? = some x → cellAt w b (o + i) = some x) →
      (∀ w0, (Builtin.lenOf (.slice ao n cap)).run P w0 = .ok n w0) ∧
      ∀ w0, (∀ b o, b < w.heap.size → cellAt w0 b o = cellAt w b o) → (Builtin.firstCells ye.size n (.slice ao n cap)).run P w0 = .ok xs.toArray w0 := by
    intro ao n cap b o xs h1 h2 h3
    refine ⟨fun w0 => rfl, fun w0 hw => ?_⟩
    rcases Nat.eq_zero_or_pos n with h0 | h0
    · subst h0
      have : xs = [] := List.length_eq_zero_iff.1 (by simpa using h2)
      subst this
      cases ao with
      | none => rfl
      | some a => simp only [Builtin.firstCells, Nat.zero_mul]; rfl
    · rw [h1 h0]
      simp only [Builtin.firstCells]
      rw [← h2]
      exact loadCells_at (fun i x hx => by rw [hw b _ (cellAt_lt (h3 i x hx))]; exact h3 i x hx)
  unfold vNews at h
  split at h
  · rename_i ow n cs
    rw [hye] at h
    obtain ⟨h1, h2⟩ := gd_some h
    cases h2
    have h1 := eqN_iff h1
    cases hx with
    | slice _ _ _ xs b o ao cap g1 g2 g3 g4 g5 g6 g7 g8 g9 =>
      obtain ⟨k1, k2⟩ := key ao m cap b o xs g3 (by rw [g1, h1]) (fun i x hx => (g5 i x hx).cell)
      exact ⟨xs, ⟨g1, g6⟩, g8, g9, by rw [g1, h1], k1, k2⟩
  · rename_i s
    rw [hye] at h
    obtain ⟨h1, h2⟩ := gd_some h
    cases h2
    have h1 := Nat.eq_of_beq_eq_true h1
    cases hx
    refine ⟨s.map fun b => .int .u8 b.toNat, ⟨by simp [bytesV], fun i v x hv hx => ?_⟩, by simp [Value.oneCell'], (by simp only [bytesV, List.mem_map]; rintro _ ⟨b, _, rfl⟩; exact .int _ _), by simp [h1], fun w0 => rfl, fun w0 _ => ?_⟩
    · simp only [bytesV, List.getElem?_map] at hv hx
      cases hs : s[i]? with
      | none => rw [hs] at hv; cases hv
      | some b => rw [hs] at hv hx; cases hv; cases hx; exact .int _ _
    · simp only [Builtin.firstCells, Sem.run_pure]
      congr 1
      have : ((⟨⟨s⟩⟩ : ByteArray).extract 0 s.length).data.toList = s := by simp [ByteArray.data_extract]
      apply Array.toList_inj.1
      rw [Array.toList_map, this]
  · rename_i r off n wh
    split at h
    · rename_i cs ye' hg hye'
      rw [hye] at hye'; cases hye'
      split at h
      · rename_i l hl
        obtain ⟨h1, h2⟩ := gd_some h
        cases h2
        have h1 := eqN_iff h1
        obtain ⟨b, o, xs, e1, e2, e3⟩ := hS.row r cs hg
        cases hx with
        | rslice _ _ _ _ base g ao cap g1 g2 g3 g4 g5 =>
          rw [e1] at g1
          cases g1
          have hr := RelL.take (RelL.drop e2 off) (m * ye.size)
          have hlen : ((xs.drop off).take (m * ye.size)).length = m * ye.size := by rw [hr.1, ← mapO_len hl, h1]
          obtain ⟨k1, k2⟩ := key ao m cap b (o + off) ((xs.drop off).take (m * ye.size)) (fun hn => by rw [g3 (.inl hn)]; rfl) hlen (fun i x hx => by
            rw [List.getElem?_take] at hx
            split at hx
            · rw [List.getElem?_drop] at hx
              rw [Nat.add_assoc]
              exact (e3 _ x hx).2
            · cases hx)
          exact ⟨_, plainL_rel hl hr, plainL_one hl hr, plainL_nf hl hr, hlen, k1, k2⟩
      · cases h
    · rename_i w' cs ye' hg hye'
      rw [hye] at hye'; cases hye'
      obtain ⟨h1, h2⟩ := gd_some h
      cases h2
      have h1 := leN_iff h1
      obtain ⟨base', c, xs, e1, e2, e3, e4, e6, e9, e5⟩ := hS.grow r _ cs hg
      cases hx with
      | rslice _ _ _ _ base g ao cap g1 g2 g3 g4 g5 =>
        rw [e1] at g1
        cases g1
        have hr := RelL.take (RelL.drop e2 off) (m * ye.size)
        have hlen : ((xs.drop off).take (m * ye.size)).length = m * ye.size := by rw [List.length_take, List.length_drop, e2.1]; omega
        have hone : ∀ y ∈ (xs.drop off).take (m * ye.size), y.oneCell' = true := fun y hy => e6 y (List.mem_of_mem_drop (List.mem_of_mem_take hy))
        have hnf : ∀ v ∈ (cs.drop off).take (m * ye.size), NF v := fun v hv => e9 v (List.mem_of_mem_drop (List.mem_of_mem_take hv))
        cases base' with
        | none =>
          have hn : m = 0 := by
            rcases Nat.eq_zero_or_pos m with h | h
            · exact h
            · have := g3 (.inl h); simp at this; exact absurd this (g5 h)
          subst hn
          obtain ⟨k1, k2⟩ := key ao 0 cap 0 0 ((xs.drop off).take (0 * ye.size)) (by omega) hlen (fun i x hx => by simp at hx)
          exact ⟨_, hr, hone, hnf, hlen, k1, k2⟩
        | some p =>
          obtain ⟨b, o⟩ := p
          obtain ⟨e7, e8⟩ := e5 b o rfl
          obtain ⟨k1, k2⟩ := key ao m cap b (o + off) ((xs.drop off).take (m * ye.size)) (fun hn => by rw [g3 (.inl hn)]; rfl) hlen (fun i x hx => by
            rw [List.getElem?_take] at hx
            split at hx
            · rw [List.getElem?_drop] at hx
              rw [Nat.add_assoc]
              exact e8 _ x hx
            · cases hx)
          exact ⟨_, hr, hone, hnf, hlen, k1, k2⟩
    · cases h
  · cases h

/-- what both ways through append begin with -/
structure App (P : Program) (t u e : Nat) (ye : Ty) : Prop where
  ht : P.underlying t = some (.slice e)
  hu : ∃ d, P.underlying u = some d ∧ ∀ k, d ≠ .int k
  hk : TyOk P e ye

theorem app_in {t u e : Nat} {ye : Ty} (A : App P t u e ye) {w0 : World} {b o n m cap : Nat} {xa : Value} {ys : List Value} (ty : TypeId) (hl : ∀ w0, (Builtin.lenOf xa).run P w0 = .ok m w0)
    (hf : (Builtin.firstCells ye.size m xa).run P w0 = .ok ys.toArray w0) (hone : ∀ y ∈ ys, y.oneCell' = true) (hroom : n + m ≤ cap)
    (hc : ∀ j, j < ys.length → (w0.cell? ⟨b, o + n * ye.size + j, none⟩).isSome = true ∧ w0.frozen? ⟨b, o + n * ye.size + j, none⟩ = false) :
    (Builtin.append_ #[t, u] ty #[.slice (some ⟨b, o, none⟩) n cap, xa]).run P w0 = .ok (.slice (some ⟨b, o, none⟩) (n + m) cap) (w0.setCells b (o + n * ye.size) ys) := by
  obtain ⟨d, hd, hdi⟩ := A.hu
  have hst := run_storeCells_cells (P := P) b (o + n * ye.size) ys 0 w0 (fun j hj => by simpa using (hc j hj).1) (fun j hj => by simpa using (hc j hj).2) hone
  have hz : (d matches .int _) = false := by cases d <;> first | rfl | exact absurd rfl (hdi _)
  simp only [Builtin.append_, List.getElem?_toArray, List.getElem?_cons_zero, List.getElem?_cons_succ, Sem.run_bind, und_run A.ht, Result.andThen_ok, size_run A.hk, und_run hd, Sem.run_pure, Bool.false_eq_true, if_false]
  simp only [Sem.run_bind, hl, Result.andThen_ok, if_pos hroom, Bool.not_false, if_true, hf, add_zero, Sem.run_pure]
  rw [hst]
  rfl

theorem app_grow {t u e : Nat} {ye : Ty} (A : App P t u e ye) {w0 : World} {n m cap : Nat} {ao : Option Addr} {xa : Value} {os ys : List Value} (ty : TypeId) (hl : ∀ w0, (Builtin.lenOf xa).run P w0 = .ok m w0)
    (hf : ∀ w1 : World, w1.heap = w0.heap → (Builtin.firstCells ye.size m xa).run P w1 = .ok ys.toArray w1) (ho : ∀ w1 : World, w1.heap = w0.heap → (Builtin.firstCells ye.size n (.slice ao n cap)).run P w1 = .ok os.toArray w1)
    (hgrow : cap < n + m) (hb : (n + m) * (ye.bytes + 1) ≤ 70368744177664) (hos : os.length = n * ye.size) (hys : ys.length = m * ye.size) :
    ∃ (c : Nat) (rest : List Value), n + m ≤ c ∧ rest.length = (c - (n + m)) * ye.size ∧
      (Builtin.append_ #[t, u] ty #[.slice ao n cap, xa]).run P w0 = .ok (.slice (some ⟨w0.heap.size, 0, none⟩) (n + m) c) { w0 with drawn := w0.drawn + 1, heap := w0.heap.push (.cells (os ++ ys ++ rest).toArray e) } := by
  obtain ⟨d, hd, hdi⟩ := A.hu
  obtain ⟨i, z, i1, i2, i3, i4, _, i5, _⟩ := A.hk.info
  let c := (Question.appendCap (n + m) cap e).cut (w0.tape w0.drawn (.appendCap (n + m) cap e))
  have hc : n + m ≤ c := by simp only [c, Question.cut]; omega
  refine ⟨c, (Builtin.zeroCells z.cells (c - (n + m))).toList, hc, by simp [Builtin.zeroCells, i5], ?_⟩
  have hnm : (n + m) * ye.bytes + (n + m) = (n + m) * (ye.bytes + 1) := by rw [Nat.mul_add, Nat.mul_one]
  have h1 : ¬ ((((n + m : Nat) : Int)) > IntKind.i64.max ∧ (false = true ∨ i.bytes = 0)) := by
    rintro ⟨h, _⟩
    have : IntKind.i64.max = 9223372036854775807 := by decide
    omega
  have h2 : ¬ Builtin.nextslicecap (n + m) cap * i.bytes > 2 ^ 48 := by
    have := growslice_fits (bytes := ye.bytes) hgrow (by omega)
    rw [i3]; omega
  have hn : ¬ (n + m ≤ cap) := by omega
  have hfo : (Question.appendCap (n + m) cap e).forced = false := rfl
  simp only [Builtin.append_, List.getElem?_toArray, List.getElem?_cons_zero, List.getElem?_cons_succ, Sem.run_bind, und_run A.ht, Result.andThen_ok, size_run A.hk, und_run hd, Sem.run_pure, Bool.false_eq_true, if_false]
  simp only [Sem.run_bind, hl, Result.andThen_ok, if_neg hn, info_run i1, Sem.run_pure]
  rw [if_neg (by simpa using h1)]
  simp only [Sem.run_bind, info_run i1, Result.andThen_ok]
  rw [if_neg h2]
  simp only [Sem.run_bind, run_choose, hfo, Bool.false_eq_true, if_false, Result.andThen_ok, info_run i1, run_askRoom]
  rw [ho { w0 with drawn := w0.drawn + 1 } rfl]
  simp only [Result.andThen_ok, Bool.not_false, if_true]
  rw [hf { w0 with drawn := w0.drawn + 1 } rfl]
  simp only [Result.andThen_ok, zeroValue, Sem.run_bind, info_run i1, i4, Sem.run_pure, newRow, run_newObj]
  congr 3
  simp [c]
end
end Go.Vm
/- append: what it does to the objects. -/
namespace Go.Vm
set_option linter.unusedSimpArgs false
set_option linter.unusedVariables false
set_option linter.unusedSectionVars false
section
variable {P : Program} {T : List (Nat × Ty)} {ρ : Rho} {lab : Lab} {w : World} {H : Hp} {fr : Fr} {a : Act}

/-- what an operation on memory leaves -/
def Did (P : Program) (ρ : Rho) (lab : Lab) (w : World) (s : Sem Value) (v : V) (H' : Hp) : Prop :=
  ∃ z w' ρ' lab', s.run P w = .ok z w' ∧ Sim ρ' lab' H' w' ∧ Ext lab w lab' w' ∧ ρ.le ρ' ∧ Rel ρ' lab' w' v z

/-- a row moves to a new block: of a tag g, old or new -/
theorem grown_tag (hS : Sim ρ lab H w) {e g n m c cap : Nat} {ye : Ty} {cs news : List V} {os ys rest : List Value} {ow : Own} (hlow : n + m ≤ c) (hsz : ye.size ≠ 0) (hm : m ≠ 0)
    (hg : (∃ e', hget g H = some (.tip e' n)) ∨ hget g H = none)
    (hr1 : RelL ρ lab w cs os) (hr2 : RelL ρ lab w news ys) (hos : os.length = n * ye.size) (hys : ys.length = m * ye.size) (hrest : rest.length = (c - (n + m)) * ye.size)
    (h1 : ∀ x ∈ os, x.oneCell' = true) (h2 : ∀ x ∈ ys, x.oneCell' = true) (hn1 : ∀ v ∈ cs, NF v) (hn2 : ∀ v ∈ news, NF v) {s : Sem Value}
    (hrun : s.run P w = .ok (.slice (some ⟨w.heap.size, 0, none⟩) (n + m) c) { w with drawn := w.drawn + 1, heap := w.heap.push (.cells (os ++ ys ++ rest).toArray e) }) :
    Did P ρ lab w s (.slice (.tag g) (n + m) (cs ++ news)) (hset g (.tip ye.size (n + m)) H) := by
  let w' : World := { w with drawn := w.drawn + 1, heap := w.heap.push (.cells (os ++ ys ++ rest).toArray e) }
  have gr : Grew w w' := (Grew.draw w _).trans (Grew.push { w with drawn := w.drawn + 1 } _)
  have hnone : ρ.hd g (n + m) = none := by
    cases hh : ρ.hd g (n + m) with
    | none => rfl
    | some x =>
      obtain ⟨e', m', k1, k2⟩ := hS.hdom g (n + m) x hh
      rcases hg with ⟨e2, hg⟩ | hg
      · rw [hg] at k1; cases k1; omega
      · rw [hg] at k1; cases k1
  have hle := Rho.le_setHd hnone (some ⟨w.heap.size, 0, none⟩, c)
  have hhd : (ρ.setHd g (n + m) (some ⟨w.heap.size, 0, none⟩, c)).hd g (n + m) = some (some ⟨w.heap.size, 0, none⟩, c) := by simp [Rho.setHd]
  have E : Ext lab w (lab.new w.heap.size g ((n + m) * ye.size) (c * ye.size)) w' := Ext.new hS gr (Nat.le_refl _)
  have hcell : ∀ i, cellAt w' w.heap.size i = (os ++ ys ++ rest)[i]? := fun i => by
    show cellAt { ({ w with drawn := w.drawn + 1 } : World) with heap := w.heap.push (.cells (os ++ ys ++ rest).toArray e) } w.heap.size i = _
    rw [cell_push { w with drawn := w.drawn + 1 } _ e i]
    simp
  have hfrz : ∀ i, w'.frozen? ⟨w.heap.size, i, none⟩ = false := fun i => frozen_push { w with drawn := w.drawn + 1 } _ e i
  have hl12 : (os ++ ys).length = (n + m) * ye.size := by rw [List.length_append, hos, hys, Nat.add_mul]
  refine ⟨_, w', _, _, hrun, ?_, E, hle, ?_⟩
  · refine Sim.new hS gr (Nat.le_refl _) (by simp [w']) hle (fun j hj => by rw [hget_hset, if_neg hj]) (by rw [hget_hset, if_pos rfl]) ?_ ?_ ?_
    · refine ⟨_, c, hhd, hlow, by simp, fun h => absurd h hsz, fun a ha => ?_⟩
      cases ha
      refine ⟨rfl, fun i hi hj => ⟨by simp [Lab.new, hi, hj], hfrz _, ?_⟩⟩
      have hlen : (os ++ ys ++ rest).length = c * ye.size := by
        rw [List.length_append, hl12, hrest, ← Nat.add_mul]
        congr 1; omega
      rw [hcell, Nat.zero_add]
      exact ⟨(os ++ ys ++ rest)[i]'(by omega), List.getElem?_eq_getElem _⟩
    · intro j n' x h
      simp only [Rho.setHd] at h
      rw [hget_hset]
      split at h
      · rename_i hj
        obtain ⟨rfl, rfl⟩ := hj
        rw [if_pos rfl]
        exact ⟨_, _, rfl, Nat.le_refl _⟩
      · obtain ⟨e', m', k1, k2⟩ := hS.hdom j n' x h
        split
        · rename_i hj
          subst hj
          refine ⟨_, _, rfl, ?_⟩
          rcases hg with ⟨e2, hg⟩ | hg
          · rw [hg] at k1; cases k1; omega
          · rw [hg] at k1; cases k1
        · exact ⟨e', m', k1, k2⟩
    · intro j x h
      rw [hget_hset]
      split
      · simp
      · exact hS.adom j x h
  · have hr := (hr1.append hr2).ext E hle
    refine .slice _ _ _ _ w.heap.size 0 _ _ hr.1 hlow (fun _ => rfl) (fun h => by omega) (fun i x hx => ⟨?_, ?_⟩) hr.2 hhd (fun x hx => ?_) (fun v hv => ?_)
    · have := lt_of_get hx
      simp only [Lab.new, if_true]
      rw [if_neg (by omega)]
    · have := lt_of_get hx
      rw [hcell, Nat.zero_add, List.getElem?_append_left (by omega)]
      exact hx
    · rcases List.mem_append.1 hx with h | h
      · exact h1 x h
      · exact h2 x h
    · rcases List.mem_append.1 hv with h | h
      · exact hn1 v h
      · exact hn2 v h

set_option maxHeartbeats 1000000 in
theorem append_ref (hT : TOk P T) (hS : Sim ρ lab H w) {t u e k r off n m w0 : Nat} {ye : Ty} {sa xa : Value} {v : V} {H' : Hp} {cs news : List V} {ys : List Value} (A : App P t u e ye) (hm : m ≠ 0)
    (hr2 : RelL ρ lab w news ys) (h2 : ∀ y ∈ ys, y.oneCell' = true) (hnf : ∀ v ∈ news, NF v) (hys : ys.length = m * ye.size) (hlen : ∀ w0, (Builtin.lenOf xa).run P w0 = .ok m w0)
    (hfirst0 : (Builtin.firstCells ye.size m xa).run P w = .ok ys.toArray w) (hfirst1 : ∀ w1 : World, w1.heap = w.heap → (Builtin.firstCells ye.size m xa).run P w1 = .ok ys.toArray w1)
    (hs : Rel ρ lab w (.rslice r off n true) sa) (hg : hget r H = some (.grow w0 cs)) (hgk : hget k H = none)
    (h : gd (Nat.beq w0 ye.size && !Nat.beq w0 0 && leN (n * w0) cs.length && leN ((n + m) * (ye.bytes + 1)) 70368744177664)
                (some (OpR.val (.rslice k 0 (n + m) true) (hset r .gone (hset k (.grow w0 (cs.take (n * w0) ++ news)) H)))) = some (.val v H')) (ty : TypeId) :
    Did P ρ lab w (Builtin.append_ #[t, u] ty #[sa, xa]) v H' := by
  obtain ⟨c1, c2⟩ := gd_some h
  cases c2
  simp only [Bool.and_eq_true, Bool.not_eq_true'] at c1
  obtain ⟨⟨⟨c3, c4⟩, c6⟩, c7⟩ := c1
  have c3 := Nat.eq_of_beq_eq_true c3
  subst c3
  have c6 := leN_iff c6
  have c7 := leN_iff c7
  have hsz : ye.size ≠ 0 := by intro h0; rw [h0] at c4; cases c4
  have hrk : r ≠ k := by rintro rfl; rw [hg] at hgk; cases hgk
  obtain ⟨base, c, xs, e1, e2, e3, e4, e6, e9, e5⟩ := hS.grow r _ cs hg
  cases hs with
  | rslice _ _ _ _ base1 g ao cap g1 g2 g3 g4 g5 =>
    rw [e1] at g1
    cases g1
    obtain ⟨rfl, hcc⟩ := g4 rfl
    cases hcc
    have hao := g3 (.inr rfl)
    have htl : (xs.take (n * ye.size)).length = n * ye.size := by rw [List.length_take, e2.1]; omega
    have htr := RelL.take e2 (n * ye.size)
    have hone : ∀ x ∈ xs.take (n * ye.size) ++ ys, x.oneCell' = true := by
      intro x hx
      rcases List.mem_append.1 hx with h | h
      · exact e6 x (List.mem_of_mem_take h)
      · exact h2 x h
    have hnfs : ∀ v ∈ cs.take (n * ye.size) ++ news, NF v := by
      intro v hv
      rcases List.mem_append.1 hv with h | h
      · exact e9 v (List.mem_of_mem_take h)
      · exact hnf v h
    have hmul : (n + m) * ye.size = n * ye.size + m * ye.size := Nat.add_mul _ _ _
    have hH : ∀ j, j ≠ k → j ≠ r → hget j (hset r .gone (hset k (.grow ye.size (cs.take (n * ye.size) ++ news)) H)) = hget j H := by
      intro j h1 h2
      rw [hget_hset, if_neg h2, hget_hset, if_neg h1]
    have hHk : hget k (hset r .gone (hset k (.grow ye.size (cs.take (n * ye.size) ++ news)) H)) = some (.grow ye.size (cs.take (n * ye.size) ++ news)) := by
      rw [hget_hset, if_neg (Ne.symm hrk), hget_hset, if_pos rfl]
    have hHr : hget r (hset r .gone (hset k (.grow ye.size (cs.take (n * ye.size) ++ news)) H)) = some .gone := by
      rw [hget_hset, if_pos rfl]
    have hatn := hS.at_none hgk
    have hdd : ∀ (ρ' : Rho), ρ'.hd = ρ.hd → ∀ j n' x, ρ'.hd j n' = some x → ∃ e m', hget j (hset r .gone (hset k (.grow ye.size (cs.take (n * ye.size) ++ news)) H)) = some (.tip e m') ∧ n' ≤ m' := by
      intro ρ' hρ j n' x hj
      rw [hρ] at hj
      obtain ⟨e', m', k1, k2⟩ := hS.hdom j n' x hj
      refine ⟨e', m', ?_, k2⟩
      rw [hH j (by rintro rfl; rw [hgk] at k1; cases k1) (by rintro rfl; rw [hg] at k1; cases k1)]
      exact k1
    have haa : ∀ y, ∀ j x, (ρ.setAt k y).at_ j = some x → hget j (hset r .gone (hset k (.grow ye.size (cs.take (n * ye.size) ++ news)) H)) ≠ none := by
      intro y j x hj
      by_cases hjk : j = k
      · subst hjk; rw [hHk]; simp
      · by_cases hjr : j = r
        · subst hjr; rw [hHr]; simp
        · rw [hH j hjk hjr]
          simp only [Rho.setAt, if_neg hjk] at hj
          exact hS.adom j x hj
    by_cases hroom : n + m ≤ c
    · cases base with
      | none => have := e4 rfl; omega
      | some p =>
        obtain ⟨pb, po⟩ := p
        simp only [Option.map_some, Nat.add_zero] at hao
        subst hao
        obtain ⟨e7, e8⟩ := e5 pb po rfl
        have hcapm : (n + m) * ye.size ≤ c * ye.size := Nat.mul_le_mul_right _ hroom
        have hcell : ∀ j, j < ys.length → OCell lab w r pb (po + n * ye.size + j) := by
          intro j hj
          rw [Nat.add_assoc]
          exact e7 _ (by omega)
        have hrun := app_in A (w0 := w) (b := pb) (o := po) (n := n) (cap := c) ty hlen hfirst0 h2 hroom (fun j hj => by
          obtain ⟨u', hu'⟩ := (hcell j hj).cell
          exact ⟨by rw [show w.cell? ⟨pb, po + n * ye.size + j, none⟩ = some u' from hu']; rfl, (hcell j hj).free⟩)
        let lab' : Lab := fun b' o' => if lab b' o' = some (some r) then some (some k) else lab b' o'
        have hl' : ∀ b' o', lab b' o' = none → lab' b' o' = none := fun b' o' hl => by simp only [lab']; rw [if_neg (by rw [hl]; simp)]; exact hl
        have E0 : Ext lab w lab (w.setCells pb (po + n * ye.size) ys) := Ext.setCells (k := r) (fun j hj => (hcell j hj).lab)
        have E : Ext lab w lab' (w.setCells pb (po + n * ye.size) ys) := ⟨E0.size, E0.os, E0.tape, E0.output, fun b' o' _ hl => hl' b' o' hl, fun b' o' => by
        simp only [lab']
        split
        · rename_i hq; rw [hq]; simp
        · exact .rfl, E0.cl, E0.blk⟩
        have hle := Rho.le_setAt hatn (some (pb, po), some c)
        have hat : (ρ.setAt k (some (pb, po), some c)).at_ k = some (some (pb, po), some c) := by simp [Rho.setAt]
        have hin : ∀ j (hj : j < ys.length), cellAt (w.setCells pb (po + n * ye.size) ys) pb (po + n * ye.size + j) = some ys[j] := fun j hj =>
          World.cell?_setCells_in pb ys (po + n * ye.size) w (fun i hi => by
            obtain ⟨u', hu'⟩ := (hcell i hi).cell
            rw [show w.cell? ⟨pb, po + n * ye.size + i, none⟩ = some u' from hu']; rfl) j hj
        refine ⟨_, _, _, lab', hrun, ?_, E, hle, ?_⟩
        · refine Sim.mk' (fun j oj hj => ?_) (hdd _ rfl) (haa _) (fun b' o' j hl => ?_)
          · by_cases hjk : j = k
            · subst hjk
              rw [hHk] at hj; cases hj
              refine ⟨some (pb, po), c, xs.take (n * ye.size) ++ ys, hat, (htr.append hr2).ext E hle, ?_, by simp, hone, hnfs, fun b' o' hb => ?_⟩
              · rw [← (htr.append hr2).1, List.length_append, htl, hys]; omega
              · cases hb
                refine ⟨fun i hi => ?_, fun i x hx => ?_⟩
                · have h3 := (e7 i hi).setCells (b := pb) (o := po + n * ye.size) (ys := ys)
                  refine ⟨?_, h3.free, h3.cell⟩
                  simp only [lab']
                  rw [if_pos h3.lab]
                · rw [List.getElem?_append, htl] at hx
                  split at hx
                  · rename_i hi
                    rw [cellAt_setCells_out (fun _ => by omega)]
                    rw [List.getElem?_take, if_pos hi] at hx
                    exact e8 i x hx
                  · have hj := lt_of_get hx
                    have := hin (i - n * ye.size) hj
                    rw [show po + n * ye.size + (i - n * ye.size) = po + i from by omega] at this
                    rw [this, ← hx, List.getElem?_eq_getElem hj]
            · by_cases hjr : j = r
              · subst hjr
                rw [hHr] at hj; cases hj
                trivial
              · rw [hH j hjk hjr] at hj
                refine (hS.obj hj).carry E hle (fun b' q hq => ?_)
                have hout : b' = pb → q < po + n * ye.size ∨ po + n * ye.size + ys.length ≤ q := by
                  intro hb
                  subst hb
                  rcases Nat.lt_or_ge q (po + n * ye.size) with h | h
                  · exact .inl h
                  · right
                    rcases Nat.lt_or_ge q (po + n * ye.size + ys.length) with h' | h'
                    · have := (hcell (q - (po + n * ye.size)) (by omega)).lab
                      rw [show po + n * ye.size + (q - (po + n * ye.size)) = q from by omega, hq.lab] at this
                      cases this; exact absurd rfl hjr
                    · exact h'
                have h3 := hq.setCells (b := pb) (o := po + n * ye.size) (ys := ys)
                refine ⟨⟨?_, h3.free, h3.cell⟩, cellAt_setCells_out hout⟩
                simp only [lab']
                rw [if_neg (by rw [hq.lab]; simpa using hjr)]
                exact hq.lab
          · simp only [lab'] at hl
            split at hl
            · rename_i hlr
              exact Nat.lt_of_lt_of_le (hS.ldom b' o' r hlr) E.size
            · exact Nat.lt_of_lt_of_le (hS.ldom b' o' j hl) E.size
        · exact .rslice k 0 (n + m) true _ _ _ _ hat hroom (fun _ => rfl) (fun _ => ⟨rfl, rfl⟩) (fun _ => by simp)
    · have hold : ∀ w1 : World, w1.heap = w.heap → (Builtin.firstCells ye.size n (.slice ao n c)).run P w1 = .ok (xs.take (n * ye.size)).toArray w1 := by
        intro w1 hw
        rcases Nat.eq_zero_or_pos n with h0 | h0
        · subst h0
          rw [Nat.zero_mul, List.take_zero]
          cases ao with
          | none => rfl
          | some a => simp only [Builtin.firstCells, Nat.zero_mul]; rfl
        · cases base with
          | none => simp at hao; exact absurd hao (g5 h0)
          | some p =>
            obtain ⟨pb, po⟩ := p
            simp only [Option.map_some, Nat.add_zero] at hao
            subst hao
            obtain ⟨e7, e8⟩ := e5 pb po rfl
            simp only [Builtin.firstCells]
            have hl := loadCells_at (P := P) (w0 := w1) (b := pb) (o := po) (xs := xs.take (n * ye.size)) (fun i x hx => by
              rw [List.getElem?_take] at hx
              split at hx
              · have := e8 i x hx
                simp only [cellAt, World.cell?, hw] at this ⊢
                exact this
              · cases hx)
            rwa [htl] at hl
      obtain ⟨c', rest, k1, k2, k3⟩ := app_grow A (w0 := w) ty hlen hfirst1 hold (by omega) c7 htl hys
      let w' : World := { w with drawn := w.drawn + 1, heap := w.heap.push (.cells (xs.take (n * ye.size) ++ ys ++ rest).toArray e) }
      have gr : Grew w w' := (Grew.draw w _).trans (Grew.push { w with drawn := w.drawn + 1 } _)
      have hle := Rho.le_setAt hatn (some (w.heap.size, 0), some c')
      have hat : (ρ.setAt k (some (w.heap.size, 0), some c')).at_ k = some (some (w.heap.size, 0), some c') := by simp [Rho.setAt]
      have E : Ext lab w (lab.new w.heap.size k 0 (c' * ye.size)) w' := Ext.new hS gr (Nat.le_refl _)
      have hcell : ∀ i, cellAt w' w.heap.size i = (xs.take (n * ye.size) ++ ys ++ rest)[i]? := fun i => by
        show cellAt { ({ w with drawn := w.drawn + 1 } : World) with heap := w.heap.push (.cells (xs.take (n * ye.size) ++ ys ++ rest).toArray e) } w.heap.size i = _
        rw [cell_push { w with drawn := w.drawn + 1 } _ e i]
        simp
      have hfrz : ∀ i, w'.frozen? ⟨w.heap.size, i, none⟩ = false := fun i => frozen_push { w with drawn := w.drawn + 1 } _ e i
      have hl12 : (xs.take (n * ye.size) ++ ys).length = (n + m) * ye.size := by rw [List.length_append, htl, hys, hmul]
      have hlen' : (xs.take (n * ye.size) ++ ys ++ rest).length = c' * ye.size := by
        rw [List.length_append, hl12, k2, ← Nat.add_mul]
        congr 1; omega
      refine ⟨_, w', _, _, k3, ?_, E, hle, ?_⟩
      · refine Sim.mk' (fun j oj hj => ?_) (hdd _ rfl) (haa _) (ldom_new hS gr (by simp [w']))
        by_cases hjk : j = k
        · subst hjk
          rw [hHk] at hj; cases hj
          refine ⟨some (w.heap.size, 0), c', xs.take (n * ye.size) ++ ys, hat, (htr.append hr2).ext E hle, ?_, by simp, hone, hnfs, fun b' o' hb => ?_⟩
          · rw [← (htr.append hr2).1, hl12]; exact Nat.mul_le_mul_right _ k1
          · cases hb
            refine ⟨fun i hi => ⟨by simp [Lab.new, hi], hfrz _, ?_⟩, fun i x hx => ?_⟩
            · rw [hcell, Nat.zero_add]
              exact ⟨(xs.take (n * ye.size) ++ ys ++ rest)[i]'(by omega), List.getElem?_eq_getElem _⟩
            · rw [hcell, Nat.zero_add, List.getElem?_append_left (lt_of_get hx)]
              exact hx
        · by_cases hjr : j = r
          · subst hjr
            rw [hHr] at hj; cases hj
            trivial
          · rw [hH j hjk hjr] at hj
            exact (hS.obj hj).carry (Ext.new hS gr (Nat.le_refl _)) hle (fun b p hq => hq.new gr (Nat.le_refl _))
      · exact .rslice k 0 (n + m) true _ _ _ _ hat k1 (fun _ => rfl) (fun _ => ⟨rfl, rfl⟩) (fun _ => by simp)

set_option maxHeartbeats 1000000 in
theorem append_run (hT : TOk P T) (hS : Sim ρ lab H w) {t u k : Nat} {s x v : V} {sa xa : Value} {H' : Hp} (hs : Rel ρ lab w s sa) (hx : Rel ρ lab w x xa) (h : vAppend T t u s x H k = some (.val v H')) (ty : TypeId) :
    Did P ρ lab w (Builtin.append_ #[t, u] ty #[sa, xa]) v H' := by
  unfold vAppend at h
  split at h
  · cases h
  · cases h
  rename_i y yx hy hyx
  split at h
  · rename_i e hsh hsrc
    have hshT := (hT t y hy).sh
    rw [hsh] at hshT
    split at h
    · rename_i ye m news hye hnews
      have A : App P t u e ye := by
        refine ⟨hshT, ?_, hT e ye hye⟩
        have hk := (hT u yx hyx).sh
        obtain ⟨d, hd⟩ := (hT u yx hyx).und
        refine ⟨d, hd, ?_⟩
        rintro k rfl
        cases hq : yx.sh <;> rw [hq] at hsrc hk <;> simp [isSrc] at hsrc
        · simp only at hk; rw [hk] at hd; cases hd
        · simp only at hk; rw [hk] at hd; cases hd
      obtain ⟨ys, hr2, h2, hnf, hys, hlen, hfirst⟩ := src_ok hT hS hye hx hnews
      have hfirst0 : (Builtin.firstCells ye.size m xa).run P w = .ok ys.toArray w := hfirst w (fun _ _ _ => rfl)
      have hfirst1 : ∀ w1 : World, w1.heap = w.heap → (Builtin.firstCells ye.size m xa).run P w1 = .ok ys.toArray w1 := fun w1 hw => hfirst w1 (fun b o _ => by simp only [cellAt, World.cell?, hw])
      split at h
      · -- nothing is appended
        rename_i hm
        have hm := Nat.eq_of_beq_eq_true hm
        subst hm
        have hy0 : ys = [] := List.length_eq_zero_iff.1 (by simpa using hys)
        subst hy0
        have stay : ∀ (ao : Option Addr) (n cap : Nat), n ≤ cap → (Builtin.append_ #[t, u] ty #[.slice ao n cap, xa]).run P w = .ok (.slice ao n cap) w := by
          intro ao n cap hn
          obtain ⟨d, hd, hdi⟩ := A.hu
          simp only [Builtin.append_, List.getElem?_toArray, List.getElem?_cons_zero, List.getElem?_cons_succ, Sem.run_bind, und_run A.ht, Result.andThen_ok, size_run A.hk, und_run hd, Sem.run_pure, Bool.false_eq_true, if_false]
          simp only [Sem.run_bind, hlen, Result.andThen_ok, Nat.add_zero, if_pos hn, Bool.not_false, if_true, hfirst0]
          cases ao <;> rfl
        split at h
        · rename_i o n cs
          cases h
          have hs' := hs
          cases hs with
          | slice _ _ _ xs b o' ao cap g1 g2 g3 g4 g5 g6 g7 g8 g9 => exact ⟨_, w, ρ, lab, stay ao n cap g2, hS, .refl _ _, .refl _, hs'⟩
        · rename_i r off n wh
          cases h
          have hs' := hs
          cases hs with
          | rslice _ _ _ _ base g ao cap g1 g2 g3 g4 g5 => exact ⟨_, w, ρ, lab, stay ao n cap g2, hS, .refl _ _, .refl _, hs'⟩
        · cases h
      · rename_i hm
        have hm : m ≠ 0 := by rintro rfl; cases hm
        split at h
        · -- a tag
          rename_i g n cs
          split at h
          · rename_i w0 n' hg
            obtain ⟨c1, c2⟩ := gd_some h
            cases c2
            simp only [Bool.and_eq_true, Bool.or_eq_true, Bool.not_eq_true'] at c1
            obtain ⟨⟨⟨⟨c3, c4⟩, c5⟩, c6⟩, c7⟩ := c1
            have c5 := eqN_iff c5
            subst c5
            have c6 := eqN_iff c6
            have c7 := leN_iff c7
            have hsz : ye.size ≠ 0 := by intro h0; rw [h0] at c4; cases c4
            obtain ⟨ao, cap, t1, t2, t3, t4, t5⟩ := hS.tip g w0 n hg
            cases hs with
            | slice _ _ _ xs b o ao' cap' g1 g2 g3 g4 g5 g6 g7 g8 g9 =>
              simp only at g7
              rw [t1] at g7
              cases g7
              have hos : xs.length = n * ye.size := by rw [g1, c6]
              by_cases hroom : n + m ≤ cap
              · -- in place
                have hcap0 : cap ≠ 0 := by omega
                have hw0 : w0 = ye.size := by
                  rcases c3 with c3 | c3
                  · exact absurd (t4 (Nat.eq_of_beq_eq_true c3)) hcap0
                  · exact Nat.eq_of_beq_eq_true c3
                subst hw0
                cases ao with
                | none => exact absurd (t3 rfl) hcap0
                | some p =>
                  obtain ⟨hsp, hown⟩ := t5 p rfl
                  obtain ⟨pb, po, ps⟩ := p
                  simp only at hsp hown
                  subst hsp
                  have hpo : 0 < n → pb = b ∧ po = o := fun hn => by have := g3 hn; cases this; exact ⟨rfl, rfl⟩
                  have hxs : ∀ (i : Nat) (x : Value), xs[i]? = some x → FCell lab w pb (po + i) x := by
                    intro i x hx
                    have hi := lt_of_get hx
                    have hn : 0 < n := by
                      rcases Nat.eq_zero_or_pos n with h | h
                      · rw [hos, h] at hi; omega
                      · exact h
                    obtain ⟨rfl, rfl⟩ := hpo hn
                    exact g5 i x hx
                  have hmul : (n + m) * ye.size = n * ye.size + m * ye.size := Nat.add_mul _ _ _
                  have hcapm : (n + m) * ye.size ≤ cap * ye.size := Nat.mul_le_mul_right _ hroom
                  have hcell : ∀ j, j < ys.length → OCell lab w g pb (po + n * ye.size + j) := by
                    intro j hj
                    have := hown (n * ye.size + j) (by omega) (by omega)
                    rwa [← Nat.add_assoc] at this
                  have hrun := app_in A (w0 := w) (b := pb) (o := po) (n := n) (cap := cap) ty hlen hfirst0 h2 hroom (fun j hj => by
                    obtain ⟨u', hu'⟩ := (hcell j hj).cell
                    exact ⟨by rw [show w.cell? ⟨pb, po + n * ye.size + j, none⟩ = some u' from hu']; rfl, (hcell j hj).free⟩)
                  let lab' : Lab := fun b' o' => if b' = pb ∧ po + n * ye.size ≤ o' ∧ o' < po + (n + m) * ye.size then none else lab b' o'
                  have E0 : Ext lab w lab (w.setCells pb (po + n * ye.size) ys) := Ext.setCells (k := g) (fun j hj => (hcell j hj).lab)
                  have E : Ext lab w lab' (w.setCells pb (po + n * ye.size) ys) := ⟨E0.size, E0.os, E0.tape, E0.output, fun b' o' hb hl => by simp only [lab']; split <;> first | rfl | exact hl, fun b' o' => by
                    simp only [lab']
                    split
                    · rename_i hq
                      obtain ⟨rfl, q1, q2⟩ := hq
                      have := (hown (o' - po) (by omega) (by omega)).lab
                      rw [show po + (o' - po) = o' from by omega] at this
                      rw [this]
                      constructor <;> intro h <;> cases h
                    · exact .rfl, E0.cl, E0.blk⟩
                  have hnone : ρ.hd g (n + m) = none := by
                    cases hh : ρ.hd g (n + m) with
                    | none => rfl
                    | some x =>
                      obtain ⟨e', m', k1, k2⟩ := hS.hdom g (n + m) x hh
                      rw [hg] at k1; cases k1; omega
                  have hle := Rho.le_setHd hnone (some ⟨pb, po, none⟩, cap)
                  have hhd : (ρ.setHd g (n + m) (some ⟨pb, po, none⟩, cap)).hd g (n + m) = some (some ⟨pb, po, none⟩, cap) := by simp [Rho.setHd]
                  have hin : ∀ j (hj : j < ys.length), cellAt (w.setCells pb (po + n * ye.size) ys) pb (po + n * ye.size + j) = some ys[j] := fun j hj =>
                    World.cell?_setCells_in pb ys (po + n * ye.size) w (fun i hi => by
                      obtain ⟨u', hu'⟩ := (hcell i hi).cell
                      rw [show w.cell? ⟨pb, po + n * ye.size + i, none⟩ = some u' from hu']; rfl) j hj
                  refine ⟨_, _, _, lab', hrun, ?_, E, hle, ?_⟩
                  · refine Sim.mk' (fun j oj hj => ?_) (fun j n' x hj => ?_) (fun j x hj => ?_) (fun b' o' j hl => ?_)
                    · rw [hget_hset] at hj
                      split at hj
                      · rename_i hjg
                        cases hj; subst hjg
                        refine ⟨_, cap, hhd, hroom, by simp, fun h => absurd h hsz, fun a ha => ?_⟩
                        cases ha
                        refine ⟨rfl, fun i hi hj => ?_⟩
                        have := (hown i (by omega) hj).setCells (b := pb) (o := po + n * ye.size) (ys := ys)
                        refine ⟨?_, this.free, this.cell⟩
                        simp only [lab']
                        rw [if_neg (by omega)]
                        exact this.lab
                      · rename_i hjg
                        refine (hS.obj hj).carry E hle (fun b' q hq => ?_)
                        have hout : b' = pb → q < po + n * ye.size ∨ po + n * ye.size + ys.length ≤ q := by
                          intro hb
                          subst hb
                          rcases Nat.lt_or_ge q (po + n * ye.size) with h | h
                          · exact .inl h
                          · right
                            rcases Nat.lt_or_ge q (po + n * ye.size + ys.length) with h' | h'
                            · have := (hcell (q - (po + n * ye.size)) (by omega)).lab
                              rw [show po + n * ye.size + (q - (po + n * ye.size)) = q from by omega, hq.lab] at this
                              cases this; exact absurd rfl hjg
                            · exact h'
                        have h3 := hq.setCells (b := pb) (o := po + n * ye.size) (ys := ys)
                        refine ⟨⟨?_, h3.free, h3.cell⟩, cellAt_setCells_out hout⟩
                        simp only [lab']
                        rw [if_neg (fun hc => by have := hout hc.1; omega)]
                        exact hq.lab
                    · simp only [Rho.setHd] at hj
                      rw [hget_hset]
                      split at hj
                      · rename_i hc
                        obtain ⟨rfl, rfl⟩ := hc
                        rw [if_pos rfl]
                        exact ⟨_, _, rfl, Nat.le_refl _⟩
                      · obtain ⟨e', m', k1, k2⟩ := hS.hdom j n' x hj
                        split
                        · rename_i hc
                          subst hc
                          rw [hg] at k1; cases k1
                          exact ⟨_, _, rfl, by omega⟩
                        · exact ⟨e', m', k1, k2⟩
                    · rw [hget_hset]
                      split
                      · simp
                      · exact hS.adom j x hj
                    · simp only [lab'] at hl
                      split at hl
                      · cases hl
                      · exact Nat.lt_of_lt_of_le (hS.ldom b' o' j hl) E.size
                  · have hr := (RelL.append (⟨g1, g6⟩ : RelL ρ lab w cs xs) hr2).ext E hle
                    refine .slice _ _ _ _ pb po _ _ hr.1 hroom (fun _ => rfl) (fun h => by omega) (fun i x hx => ?_) hr.2 hhd (fun x hx => ?_) (fun v hv => ?_)
                    · rw [List.getElem?_append] at hx
                      split at hx
                      · exact (hxs i x hx).ext E
                      · rename_i hi
                        have hj := lt_of_get hx
                        refine ⟨?_, ?_⟩
                        · show (if pb = pb ∧ po + n * ye.size ≤ po + i ∧ po + i < po + (n + m) * ye.size then none else _) = none
                          exact if_pos ⟨rfl, by omega, by omega⟩
                        · have := hin (i - xs.length) hj
                          rw [show po + n * ye.size + (i - xs.length) = po + i from by omega] at this
                          rw [this, ← hx, List.getElem?_eq_getElem hj]
                    · rcases List.mem_append.1 hx with h | h
                      · exact g8 x h
                      · exact h2 x h
                    · rcases List.mem_append.1 hv with h | h
                      · exact g9 v h
                      · exact hnf v h
              · -- it moves
                have hold : ∀ w1 : World, w1.heap = w.heap → (Builtin.firstCells ye.size n (.slice ao n cap)).run P w1 = .ok xs.toArray w1 := by
                  intro w1 hw
                  rcases Nat.eq_zero_or_pos n with h0 | h0
                  · subst h0
                    have : xs = [] := List.length_eq_zero_iff.1 (by simpa using hos)
                    subst this
                    cases ao with
                    | none => rfl
                    | some a => simp only [Builtin.firstCells, Nat.zero_mul]; rfl
                  · rw [g3 h0]
                    simp only [Builtin.firstCells]
                    rw [← hos]
                    exact loadCells_at (fun i x hx => by
                      have := (g5 i x hx).cell
                      simp only [cellAt, World.cell?, hw] at this ⊢
                      exact this)
                obtain ⟨c, rest, k1, k2, k3⟩ := app_grow A (w0 := w) ty hlen hfirst1 hold (by omega) c7 hos hys
                exact grown_tag hS k1 hsz hm (.inl ⟨_, hg⟩) ⟨g1, g6⟩ hr2 hos hys k2 g8 h2 g9 hnf k3 (ow := .sealed) (cap := 0)
          · cases h
        · cases h
        · -- a slice without room
          rename_i ow n cs hnt hns
          split at h
          · cases h
          · rename_i hgk
            obtain ⟨c1, c2⟩ := gd_some h
            cases c2
            simp only [Bool.and_eq_true, Bool.not_eq_true'] at c1
            obtain ⟨⟨c4, c6⟩, c7⟩ := c1
            have c6 := eqN_iff c6
            have c7 := leN_iff c7
            have hsz : ye.size ≠ 0 := by intro h0; rw [h0] at c4; cases c4
            cases hs with
            | slice _ _ _ xs b o ao cap g1 g2 g3 g4 g5 g6 g7 g8 g9 =>
              have hos : xs.length = n * ye.size := by rw [g1, c6]
              have hcap : cap = n := by
                cases ow with
                | sealed => exact (hns rfl).elim
                | tag g => exact (hnt _ rfl).elim
                | full => exact g7
                | nil => obtain ⟨_, e1, e2, _⟩ := g7; omega
              have hold : ∀ w1 : World, w1.heap = w.heap → (Builtin.firstCells ye.size n (.slice ao n cap)).run P w1 = .ok xs.toArray w1 := by
                intro w1 hw
                rcases Nat.eq_zero_or_pos n with h0 | h0
                · subst h0
                  have : xs = [] := List.length_eq_zero_iff.1 (by simpa using hos)
                  subst this
                  cases ao with
                  | none => rfl
                  | some a => simp only [Builtin.firstCells, Nat.zero_mul]; rfl
                · rw [g3 h0]
                  simp only [Builtin.firstCells]
                  rw [← hos]
                  exact loadCells_at (fun i x hx => by
                    have := (g5 i x hx).cell
                    simp only [cellAt, World.cell?, hw] at this ⊢
                    exact this)
              obtain ⟨c, rest, k1, k2, k3⟩ := app_grow A (w0 := w) ty hlen hfirst1 hold (by omega) c7 hos hys
              exact grown_tag hS k1 hsz hm (.inr hgk) ⟨g1, g6⟩ hr2 hos hys k2 g8 h2 g9 hnf k3 (ow := .sealed) (cap := 0)
        · -- by reference
          rename_i r off n wh
          split at h
          · rename_i w0 cs hg hgk
            exact append_ref hT hS A hm hr2 h2 hnf hys hlen hfirst0 hfirst1 hs hg hgk h ty
          · cases h
        · cases h
    · cases h
  · cases h
end
end Go.Vm
/- Frames; operations on memory, together; what a piece of code leaves. -/
namespace Go.Vm
set_option linter.unusedSimpArgs false
set_option linter.unusedVariables false
set_option linter.unusedSectionVars false
section
variable {P : Program} {T : List (Nat × Ty)} {ρ : Rho} {lab : Lab} {w : World} {H : Hp} {fr : Fr} {a : Act} {n nr : Nat} {env : Env} {orc : Orc}

structure FOk (ρ : Rho) (lab : Lab) (w : World) (fr : Fr) (a : Act) (n : Nat) : Prop where
  rel : FrRel ρ lab w fr a.tmps
  size : a.tmps.size = n
  defers : a.defers = []

theorem look_cons (s : Nat) (v : V) (r : Fr) (t : Nat) : look t ((s, v) :: r) = if s = t then v else look t r := by
  simp only [look]
  by_cases h : s = t
  · subst h; simp
  · rw [if_neg h]
    cases hb : Nat.beq s t with
    | true => exact absurd (Nat.eq_of_beq_eq_true hb) h
    | false => rfl

theorem FOk.ext {ρ' : Rho} {lab' : Lab} {w' : World} (h : FOk ρ lab w fr a n) (E : Ext lab w lab' w') (hρ : ρ.le ρ') : FOk ρ' lab' w' fr a n :=
  ⟨h.rel.ext E hρ, h.size, h.defers⟩

theorem FOk.put {d : Option Nat} {v : V} {x : Value} (h : FOk ρ lab w fr a n) (hd : ∀ i, d = some i → i < n) (hv : Rel ρ lab w v x) : FOk ρ lab w (putO d v fr) (a.put d x) n := by
  cases d with
  | none => exact h
  | some d =>
    refine ⟨fun t => ?_, by simp [Act.put, h.size], h.defers⟩
    have hdn := hd d rfl
    simp only [putO, look_cons, Act.put]
    split
    · subst_vars
      rw [Array.getD_eq_getD_getElem?, Array.getElem?_setIfInBounds_self_of_lt (by rw [h.size]; exact hdn)]
      exact hv
    · rename_i ht
      rw [Array.getD_eq_getD_getElem?, Array.getElem?_setIfInBounds_ne ht, ← Array.getD_eq_getD_getElem?]
      exact h.rel t

theorem wanted_ok {ops : Array Oper} {o : Oper} {b : Bool} (h : FOk ρ lab w fr a n) (hw : wantedV ops o fr = some b) : Region.wanted o (yielded ops a.tmps) = b := by
  unfold wantedV at hw
  unfold Region.wanted
  split at hw
  · rename_i hg; rw [hg]; cases hw; rfl
  · rename_i j want hg
    rw [hg]
    simp only
    unfold yieldedV at hw
    unfold yielded
    cases hd : (ops[j]?).bind (·.dst) with
    | none =>
      rw [hd] at hw
      simp only at hw
      cases hw
      rfl
    | some t =>
      rw [hd] at hw
      simp only [Option.bind_some] at hw ⊢
      have hr := h.rel t
      split at hw
      · rename_i b' hb
        split at hb
        · rename_i c hc
          cases hb
          rw [hc] at hr
          rw [Array.getD_eq_getD_getElem?] at hr
          cases ht : a.tmps[t]? with
          | none => rw [ht] at hr; cases hr
          | some x =>
            rw [ht] at hr
            simp only [Option.getD_some] at hr
            cases hr
            cases hw
            cases want <;> cases b' <;> rfl
        · cases hb
        · cases hb
      · rename_i hb
        split at hb
        · cases hb
        · rename_i hc
          cases hw
          rw [hc, Array.getD_eq_getD_getElem?] at hr
          cases ht : a.tmps[t]? with
          | none => rfl
          | some x =>
            rw [ht] at hr
            simp only [Option.getD_some] at hr
            cases hr with
            | tuple _ xs h1 h2 => rfl
        · cases hb
      · cases hw

def isCallV : Op → Bool
  | .call { callee := .value _, .. } => true
  | _ => false

/-- an operation on memory that is no call of a Go function -/
theorem eff_run (hT : TOk P env.T) (hS : Sim ρ lab H w) (hF : FrRel ρ lab w fr a.tmps) {o : Oper} {v : V} {H' : Hp} (hc : isCallV o.op = false) (h : opEff env orc fr H o = some (.val v H')) :
    ∃ r x w' ρ' lab', (execOp a.eval o).run P w = .ok r w' ∧ (r = .value x ∨ (r = .skip ∧ x = undef)) ∧ Sim ρ' lab' H' w' ∧ Ext lab w lab' w' ∧ ρ.le ρ' ∧ Rel ρ' lab' w' v x := by
  obtain ⟨dst, op, type, pos, after, guard⟩ := o
  unfold opEff at h
  simp only at h hc
  split at h
  · -- load
    rename_i t x
    split at h
    · rename_i xv hx
      split at h
      · rename_i v' hv
        cases h
        obtain ⟨z, h1, h2⟩ := load_run hT hS (ev_ok hF hx) hv
        exact ⟨.value z, z, w, ρ, lab, by simp only [execOp, Sem.run_bind, h1, Result.andThen_ok, Sem.run_pure], .inl rfl, hS, .refl _ _, .refl _, h2⟩
      · cases h
    · cases h
  · -- store
    rename_i t x y
    split at h
    · rename_i xv yv hx hy
      split at h
      · rename_i H1 hH
        cases h
        obtain ⟨w', h1, h2, h3⟩ := store_run hT hS (ev_ok hF hx) (ev_ok hF hy) hH
        exact ⟨.skip, undef, w', ρ, lab, by simp only [execOp, Sem.run_bind, h1, Result.andThen_ok, Sem.run_pure], .inr ⟨rfl, rfl⟩, h2, h3, .refl _, .undef _⟩
      · cases h
    · cases h
  · -- alloc
    rename_i t
    split at h
    · rename_i y hy hg
      cases h
      obtain ⟨z, hz1, hz2, hz3, _, _⟩ := zero_rel (P := P) (ρ := ρ) (lab := lab) (w := w) (hT t y hy)
      obtain ⟨k1, k2, k3, k4⟩ := newRow_ok (t := t) hS hg hz2
      refine ⟨.value (.pointer (some ⟨w.heap.size, 0, none⟩)), _, _, _, _, ?_, .inl rfl, k1, k2, k3, k4⟩
      simp only [execOp, Instr.alloc, Sem.run_bind, hz1, Result.andThen_ok, newVar, newRow, run_newObj, Sem.run_pure]
    · cases h
  · -- box
    rename_i t x
    split at h
    · rename_i y v' hy hg hx
      split at h
      · rename_i hall
        cases h
        obtain ⟨hu, hr, _⟩ := cells_one (ev_ok hF hx) hall
        obtain ⟨k1, k2, k3, k4⟩ := newRow_ok (t := t) hS hg hr
        refine ⟨.value (.pointer (some ⟨w.heap.size, 0, none⟩)), _, _, _, _, ?_, .inl rfl, k1, k2, k3, k4⟩
        simp only [execOp, Instr.box, Sem.run_bind, Result.andThen_ok, newVar, newRow, run_newObj, Sem.run_pure]
      · cases h
    · cases h
  · -- make
    rename_i t l c
    split at h
    · rename_i lv cv hl hcv
      obtain ⟨z, w', ρ', lab', h1, h2, h3, h4, h5⟩ := make_run hT hS (ev_ok hF hl) (ev_ok hF hcv) h
      exact ⟨.value z, z, w', ρ', lab', by simp only [execOp, Sem.run_bind, h1, Result.andThen_ok, Sem.run_pure], .inl rfl, h2, h3, h4, h5⟩
    · cases h
  · split at h <;> cases h
  · -- append
    rename_i args ats
    split at h
    · rename_i s x t u hargs hts
      split at h
      · rename_i sv xv hs hx
        obtain ⟨z, w', ρ', lab', h1, h2, h3, h4, h5⟩ := append_run hT hS (ev_ok hF hs) (ev_ok hF hx) h type
        refine ⟨.value z, z, w', ρ', lab', ?_, .inl rfl, h2, h3, h4, h5⟩
        have e : args.map a.eval = #[a.eval s, a.eval x] := by
          apply Array.toList_inj.1
          simp [hargs]
        have e2 : ats = #[t, u] := by
          apply Array.toList_inj.1
          simp [hts]
        simp only [execOp, resolve, Sem.run_bind, Sem.run_pure, Result.andThen_ok, invoke, builtin, e, e2, h1]
      · cases h
    · cases h
  · cases hc
  · cases h

/-- a panic of the text's own -/
theorem panic_run (hF : FrRel ρ lab w fr a.tmps) {o : Oper} {v : V} {H' : Hp} (hc : isCallV o.op = false) (h : opEff env orc fr H o = some (.pan v H')) :
    ∃ x, (execOp a.eval o).run P w = .halt (.panic x) w ∧ H' = H ∧ Rel ρ lab w v x := by
  obtain ⟨dst, op, type, pos, after, guard⟩ := o
  unfold opEff at h
  simp only at h hc
  split at h
  · split at h
    · split at h <;> cases h
    · cases h
  · split at h
    · split at h <;> cases h
    · cases h
  · split at h <;> cases h
  · split at h
    · split at h <;> cases h
    · cases h
  · split at h
    · unfold vMake at h
      split at h
      · split at h
        · split at h
          · obtain ⟨_, h2⟩ := gd_some h
            split at h2
            · split at h2 <;> cases h2
            · cases h2
          · cases h
        · cases h
      · cases h
    · cases h
  · rename_i x
    split at h
    · rename_i t v' hx
      cases h
      have hb := ev_ok hF hx
      generalize hcv : a.eval x = cv at hb
      have hb' := hb
      cases hb
      refine ⟨_, ?_, rfl, hb'⟩
      simp only [execOp, hcv, Instr.panic, Sem.run_bind, run_goPanic, Result.andThen_halt]
    · cases h
  · split at h
    · split at h
      · unfold vAppend at h
        split at h
        · cases h
        · cases h
        · split at h
          · split at h
            · split at h
              · split at h <;> cases h
              · split at h
                · split at h
                  · obtain ⟨_, h2⟩ := gd_some h; cases h2
                  · cases h
                · cases h
                · split at h
                  · cases h
                  · obtain ⟨_, h2⟩ := gd_some h; cases h2
                · split at h
                  · obtain ⟨_, h2⟩ := gd_some h; cases h2
                  · cases h
                · cases h
            · cases h
          · cases h
      · cases h
    · cases h
  · cases hc
  · cases h
end
end Go.Vm
/- Names are renamed: a part of the heap under names of its own. -/
namespace Go.Vm
set_option linter.unusedSimpArgs false
set_option linter.unusedVariables false
set_option linter.unusedSectionVars false
section
variable {P : Program} {T : List (Nat × Ty)} {ρ : Rho} {lab : Lab} {w : World} {H : Hp} {fr : Fr} {a : Act} {n nr : Nat} {env : Env} {orc : Orc}

theorem idx_get : ∀ {ns : List Nat} {k i : Nat}, idx k ns = some i → ns[i]? = some k
  | [], k, i, h => by cases h
  | a :: r, k, i, h => by
    simp only [idx] at h
    split at h
    · rename_i hb; cases h; rw [Nat.eq_of_beq_eq_true hb]; rfl
    · split at h
      · rename_i j hj; cases h; simpa using idx_get hj
      · cases h

theorem get_idx : ∀ {ns : List Nat} {k i : Nat}, ns.Nodup → ns[i]? = some k → idx k ns = some i
  | [], k, i, _, h => by simp at h
  | a :: r, k, i, hn, h => by
    rw [List.nodup_cons] at hn
    simp only [idx]
    cases i with
    | zero => simp at h; subst h; simp
    | succ i =>
      simp at h
      have hne : ¬ a = k := by rintro rfl; exact hn.1 (List.mem_of_getElem? h)
      have : Nat.beq a k = false := by
        cases hb : Nat.beq a k with
        | true => exact absurd (Nat.eq_of_beq_eq_true hb) hne
        | false => rfl
      rw [this]
      simp only
      rw [get_idx hn.2 h]

theorem has_iff {k : Nat} : ∀ {l : List Nat}, has k l = false → k ∉ l
  | [], _ => by simp
  | a :: r, h => by
    simp only [has] at h
    split at h
    · cases h
    · rename_i hb
      have := has_iff h
      simp only [List.mem_cons, not_or]
      refine ⟨?_, this⟩
      rintro rfl
      simp at hb

theorem reach_nodup (H : Hp) : ∀ (f : Nat) (todo acc : List Nat), acc.Nodup → (reach H f todo acc).Nodup
  | 0, _, acc, h => h
  | f + 1, [], acc, h => h
  | f + 1, k :: todo, acc, h => by
    simp only [reach]
    split
    · exact reach_nodup H f _ _ h
    · rename_i hb
      refine reach_nodup H f _ _ ?_
      rw [List.nodup_append]
      exact ⟨h, by simp, fun x hx y hy => by simp at hy; subst hy; rintro rfl; exact has_iff hb hx⟩

/-- renaming, of names and of labels -/
structure Ren (m : Nat → Option Nat) (ρ ρ' : Rho) (lab lab' : Lab) : Prop where
  at_ : ∀ k i x, m k = some i → ρ.at_ k = some x → ρ'.at_ i = some x
  hd : ∀ k i n x, m k = some i → ρ.hd k n = some x → ρ'.hd i n = some x
  lab : ∀ b o, lab b o = none → lab' b o = none

theorem NF.rel {ρ' : Rho} {lab' : Lab} (hl : ∀ b o, lab b o = none → lab' b o = none) {v : V} {x : Value} (h : Rel ρ lab w v x) : NF v → Rel ρ' lab' w v x := by
  induction h with
  | undef x => intro _; exact .undef x
  | bool b => intro _; exact .bool b
  | int k n => intro _; exact .int k n
  | str s => intro _; exact .str s
  | nilptr => intro _; exact .nilptr
  | ptr => intro h; cases h
  | cptr cells xs b o h1 h2 _ hnf ih => intro _; exact .cptr cells xs b o h1 (fun i x hx => ⟨hl _ _ (h2 i x hx).lab, (h2 i x hx).cell⟩) (fun i v x hv hx => ih i v x hv hx (hnf v (List.mem_of_getElem? hv))) hnf
  | slice ow n cells xs b o ao cap g1 g2 g3 g4 g5 _ g7 g8 g9 ih =>
    intro h
    cases h with
    | slice _ _ _ hnt _ =>
    refine .slice ow n cells xs b o ao cap g1 g2 g3 g4 (fun i x hx => ⟨hl _ _ (g5 i x hx).lab, (g5 i x hx).cell⟩) (fun i v x hv hx => ih i v x hv hx (g9 v (List.mem_of_getElem? hv))) ?_ g8 g9
    cases ow with
    | tag g => exact absurd rfl (hnt g)
    | _ => exact g7
  | rslice => intro h; cases h
  | func fn a c xs ys h1 h2 _ _ _ _ =>
    intro h
    cases h
    exact .func fn [] [] xs ys h1 h2 (by simp) (by simp)
  | nilFunc => intro _; exact .nilFunc
  | iface t v x _ ih => intro h; cases h with | iface _ _ hv => exact .iface t v x (ih hv)
  | nilIface => intro _; exact .nilIface
  | agg cells xs h1 _ ih => intro h; cases h with | agg _ hv => exact .agg cells xs h1 (fun i v x hv' hx => ih i v x hv' hx (hv v (List.mem_of_getElem? hv')))
  | tuple cells xs h1 _ ih => intro h; cases h with | tuple _ hv => exact .tuple cells xs h1 (fun i v x hv' hx => ih i v x hv' hx (hv v (List.mem_of_getElem? hv')))

theorem Rel.ren {m : Nat → Option Nat} {ρ' : Rho} {lab' : Lab} (hm : Ren m ρ ρ' lab lab') : ∀ (d : Nat) {v v' : V} {x : Value}, renV m d v = some v' → Rel ρ lab w v x → Rel ρ' lab' w v' x
  | 0, v, v', x, h, _ => by simp [renV] at h
  | d + 1, v, v', x, h, hx => by
    have hL : ∀ {cs cs' : List V} {xs : List Value}, mapO (renV m d) cs = some cs' → xs.length = cs.length → (∀ (i : Nat) (v : V) (x : Value), cs[i]? = some v → xs[i]? = some x → Rel ρ lab w v x) →
        xs.length = cs'.length ∧ ∀ (i : Nat) (v : V) (x : Value), cs'[i]? = some v → xs[i]? = some x → Rel ρ' lab' w v x := by
      intro cs cs' xs hc h1 h2
      refine ⟨by rw [mapO_len hc]; exact h1, fun i v x hv hx => ?_⟩
      obtain ⟨u, g1, g2⟩ := mapO_get hc i v hv
      exact Rel.ren hm d g2 (h2 i u x g1 hx)
    simp only [renV] at h
    cases hx with
    | undef x => cases h; exact .undef x
    | bool b => cases h; exact .bool b
    | int k n => cases h; exact .int k n
    | str s => cases h; exact .str s
    | nilptr => cases h; exact .nilptr
    | ptr r off b o c h1 =>
      simp only at h
      split at h
      · rename_i r' hr; cases h; exact .ptr r' off b o c (hm.at_ _ _ _ hr h1)
      · cases h
    | cptr cells xs b o h1 h2 h3 hnf => cases h; exact NF.rel hm.lab (.cptr cells xs b o h1 h2 h3 hnf) (.cptr _ hnf)
    | slice ow n cells xs b o ao cap g1 g2 g3 g4 g5 g6 g7 g8 g9 =>
      have hc : ∀ (i : Nat) (v : V) (x : Value), cells[i]? = some v → xs[i]? = some x → Rel ρ' lab' w v x := fun i v x hv hx => NF.rel hm.lab (g6 i v x hv hx) (g9 v (List.mem_of_getElem? hv))
      have hf : ∀ (i : Nat) (x : Value), xs[i]? = some x → FCell lab' w b (o + i) x := fun i x hx => ⟨hm.lab _ _ (g5 i x hx).lab, (g5 i x hx).cell⟩
      cases ow with
      | tag g =>
        simp only at h
        split at h
        · rename_i g' hg; cases h; exact .slice _ n cells xs b o ao cap g1 g2 g3 g4 hf hc (hm.hd _ _ _ _ hg g7) g8 g9
        · cases h
      | sealed => cases h; exact .slice _ n cells xs b o ao cap g1 g2 g3 g4 hf hc g7 g8 g9
      | full => cases h; exact .slice _ n cells xs b o ao cap g1 g2 g3 g4 hf hc g7 g8 g9
      | nil => cases h; exact .slice _ n cells xs b o ao cap g1 g2 g3 g4 hf hc g7 g8 g9
    | rslice r off n wh base g ao cap h1 h2 h3 h4 h5 =>
      simp only at h
      split at h
      · rename_i r' hr; cases h; exact .rslice r' off n wh base g ao cap (hm.at_ _ _ _ hr h1) h2 h3 h4 h5
      · cases h
    | func fn p q xs ys h1 h2 h3 h4 =>
      simp only at h
      split at h
      · rename_i p' q' hp hq
        cases h
        obtain ⟨k1, k2⟩ := hL hp h1 h3
        obtain ⟨k3, k4⟩ := hL hq h2 h4
        exact .func fn p' q' xs ys k1 k3 k2 k4
      · cases h
    | nilFunc => cases h; exact .nilFunc
    | iface t u x h1 =>
      simp only at h
      split at h
      · rename_i u' hu; cases h; exact .iface t u' x (Rel.ren hm d hu h1)
      · cases h
    | nilIface => cases h; exact .nilIface
    | agg cells xs h1 h2 =>
      simp only at h
      split at h
      · rename_i cs' hcs
        cases h
        obtain ⟨k1, k2⟩ := hL hcs h1 h2
        exact .agg cs' xs k1 k2
      · cases h
    | tuple cells xs h1 h2 =>
      simp only at h
      split at h
      · rename_i cs' hcs
        cases h
        obtain ⟨k1, k2⟩ := hL hcs h1 h2
        exact .tuple cs' xs k1 k2
      · cases h

theorem RelL.ren {m : Nat → Option Nat} {ρ' : Rho} {lab' : Lab} (hm : Ren m ρ ρ' lab lab') {d : Nat} {cs cs' : List V} {xs : List Value} (h : mapO (renV m d) cs = some cs') (hx : RelL ρ lab w cs xs) : RelL ρ' lab' w cs' xs := by
  refine ⟨by rw [mapO_len h]; exact hx.1, fun i v x hv hxx => ?_⟩
  obtain ⟨u, g1, g2⟩ := mapO_get h i v hv
  exact Rel.ren hm d g2 (hx.2 i u x g1 hxx)

/-- an object, renamed -/
theorem ObjOk.ren {m : Nat → Option Nat} {ρ' : Rho} {lab' : Lab} (hm : Ren m ρ ρ' lab lab') {k i : Nat} (hk : m k = some i) (hlab : ∀ b o, lab b o = some (some k) → lab' b o = some (some i)) {o o' : Obj}
    (h : ObjOk ρ lab w k o) (ho : renO m o = some o') : ObjOk ρ' lab' w i o' := by
  have hO : ∀ b p, OCell lab w k b p → OCell lab' w i b p := fun b p hq => ⟨hlab _ _ hq.lab, hq.free, hq.cell⟩
  cases o with
  | row cs =>
    simp only [renO] at ho
    split at ho
    · rename_i cs' hcs
      cases ho
      obtain ⟨b, o, xs, h1, h2, h3⟩ := h
      exact ⟨b, o, xs, hm.at_ _ _ _ hk h1, h2.ren hm hcs, fun j x hx => ⟨hO _ _ (h3 j x hx).1, (h3 j x hx).2⟩⟩
    · cases ho
  | grow e cs =>
    simp only [renO] at ho; cases ho
    obtain ⟨base, c, xs, h1, h2, h3, h4, h8, h9, h5⟩ := h
    refine ⟨base, c, xs, hm.at_ _ _ _ hk h1, ⟨h2.1, fun j v x hv hx => NF.rel hm.lab (h2.2 j v x hv hx) (h9 v (List.mem_of_getElem? hv))⟩, h3, h4, h8, h9, fun b o hb => ?_⟩
    obtain ⟨h6, h7⟩ := h5 b o hb
    exact ⟨fun j hj => hO _ _ (h6 j hj), h7⟩
  | tip e n =>
    simp only [renO] at ho; cases ho
    obtain ⟨ao, cap, h1, h2, h3, h4, h5⟩ := h
    exact ⟨ao, cap, hm.hd _ _ _ _ hk h1, h2, h3, h4, fun a ha => ⟨(h5 a ha).1, fun j hj hj' => hO _ _ ((h5 a ha).2 j hj hj')⟩⟩
  | gone => simp only [renO] at ho; cases ho; trivial

theorem hget_none_of {k : Nat} : ∀ {H : Hp}, (∀ p ∈ H, p.1 ≠ k) → hget k H = none
  | [], _ => rfl
  | (s, o) :: r, h => by
    have h1 := h (s, o) (List.mem_cons_self ..)
    simp only at h1
    simp only [hget]
    have : Nat.beq s k = false := by
      cases hb : Nat.beq s k with
      | true => exact absurd (Nat.eq_of_beq_eq_true hb) h1
      | false => rfl
    rw [this]
    exact hget_none_of (fun p hp => h p (List.mem_cons_of_mem _ hp))

theorem hget_append (k : Nat) : ∀ (A B : Hp), hget k (A ++ B) = match hget k A with | some o => some o | none => hget k B
  | [], B => rfl
  | (s, o) :: r, B => by
    simp only [List.cons_append, hget]
    cases hb : Nat.beq s k with
    | true => rfl
    | false => exact hget_append k r B

/-- the objects lie under the numbers from k on -/
def Canon (k : Nat) : Hp → Prop
  | [] => True
  | (i, _) :: r => i = k ∧ Canon (k + 1) r

theorem canon_get : ∀ {H : Hp} {k : Nat}, Canon k H → ∀ i, hget (k + i) H = (H[i]?).map (·.2)
  | [], k, _, i => rfl
  | (s, o) :: r, k, h, i => by
    obtain ⟨rfl, h2⟩ := h
    simp only [hget]
    cases i with
    | zero => simp
    | succ i =>
      have : Nat.beq s (s + (i + 1)) = false := by
        cases hb : Nat.beq s (s + (i + 1)) with
        | true => have := Nat.eq_of_beq_eq_true hb; omega
        | false => rfl
      rw [this]
      have := canon_get h2 i
      rw [show s + 1 + i = s + (i + 1) from by omega] at this
      simpa using this

theorem canon_lt : ∀ {H : Hp} {k : Nat}, Canon k H → ∀ j o, hget j H = some o → k ≤ j ∧ j < k + H.length
  | [], k, _, j, o, h => by cases h
  | (s, x) :: r, k, h, j, o, hj => by
    obtain ⟨rfl, h2⟩ := h
    simp only [hget] at hj
    split at hj
    · rename_i hb
      have := Nat.eq_of_beq_eq_true hb
      subst this
      simp
    · have := canon_lt h2 j o hj
      simp only [List.length_cons]; omega

theorem pickO_ok {m : Nat → Option Nat} : ∀ {ns : List Nat} {k : Nat} {H2 : Hp}, pickO H m ns k = some H2 → Canon k H2 ∧ H2.length = ns.length ∧
    ∀ (i j : Nat), ns[i]? = some j → ∃ o o', hget j H = some o ∧ renO m o = some o' ∧ hget (k + i) H2 = some o'
  | [], k, H2, h => by simp only [pickO] at h; cases h; exact ⟨trivial, rfl, by simp⟩
  | a :: r, k, H2, h => by
    simp only [pickO] at h
    split at h
    · cases h
    · rename_i o ho
      split at h
      · rename_i o' l h1 h2
        cases h
        obtain ⟨g1, g2, g3⟩ := pickO_ok h2
        refine ⟨⟨rfl, g1⟩, by simp [g2], fun i j hj => ?_⟩
        cases i with
        | zero => simp at hj; subst hj; exact ⟨o, o', ho, h1, by simp [hget]⟩
        | succ i =>
          simp at hj
          obtain ⟨p, p', k1, k2, k3⟩ := g3 i j hj
          refine ⟨p, p', k1, k2, ?_⟩
          have : Nat.beq k (k + (i + 1)) = false := by
            cases hb : Nat.beq k (k + (i + 1)) with
            | true => have := Nat.eq_of_beq_eq_true hb; omega
            | false => rfl
          simp only [hget, this]
          rw [show k + (i + 1) = k + 1 + i from by omega]
          exact k3
      · cases h

/-- a part of the names, numbered -/
def Rho.sub (ρ : Rho) (ns : List Nat) : Rho := ⟨fun i => (ns[i]?).bind ρ.at_, fun i n => (ns[i]?).bind fun k => ρ.hd k n⟩
def Lab.sub (lab : Lab) (ns : List Nat) : Lab := fun b o => match lab b o with
  | some (some k) => (match idx k ns with | some i => some (some i) | none => some none)
  | x => x

theorem ren_sub (ns : List Nat) : Ren (idx · ns) ρ (ρ.sub ns) lab (lab.sub ns) where
  at_ := fun k i x h hx => by simp only [Rho.sub, idx_get h]; exact hx
  hd := fun k i n x h hx => by simp only [Rho.sub, idx_get h]; exact hx
  lab := fun b o h => by simp only [Lab.sub, h]

theorem Sim.sub (hS : Sim ρ lab H w) {ns : List Nat} (hn : ns.Nodup) {H2 : Hp} (hp : pickO H (idx · ns) ns 0 = some H2) : Sim (ρ.sub ns) (lab.sub ns) H2 w := by
  obtain ⟨c1, c2, c3⟩ := pickO_ok hp
  have hsome : ∀ i k, ns[i]? = some k → ∃ o o', hget k H = some o ∧ renO (idx · ns) o = some o' ∧ hget i H2 = some o' := fun i k hk => by
    have := c3 i k hk
    simpa using this
  refine Sim.mk' (fun j o hj => ?_) (fun j n' x h => ?_) (fun j x h => ?_) (fun b o j hl => ?_)
  · have hlt := canon_lt c1 j o hj
    have hjn : j < ns.length := by omega
    obtain ⟨o1, o2, k1, k2, k3⟩ := hsome j ns[j] (by simp [hjn])
    rw [hj] at k3; cases k3
    have hidx := get_idx hn (show ns[j]? = some ns[j] from by simp [hjn])
    exact ObjOk.ren (ren_sub ns) hidx (fun b p hl => by simp only [Lab.sub, hl, hidx]) (hS.obj k1) k2
  · simp only [Rho.sub, Option.bind_eq_some_iff] at h
    obtain ⟨k, hk, hx⟩ := h
    obtain ⟨e, m, g1, g2⟩ := hS.hdom k n' x hx
    obtain ⟨o1, o2, k1, k2, k3⟩ := hsome j k hk
    rw [g1] at k1; cases k1
    simp only [renO] at k2; cases k2
    exact ⟨e, m, k3, g2⟩
  · simp only [Rho.sub, Option.bind_eq_some_iff] at h
    obtain ⟨k, hk, hx⟩ := h
    obtain ⟨o1, o2, k1, k2, k3⟩ := hsome j k hk
    rw [k3]; simp
  · simp only [Lab.sub] at hl
    cases hq : lab b o with
    | none => rw [hq] at hl; cases hl
    | some y => exact hS.ldom b o y hq
end
end Go.Vm
/- Nil slices get tags; a heap that is put together anew. -/
namespace Go.Vm
set_option linter.unusedSimpArgs false
set_option linter.unusedVariables false
set_option linter.unusedSectionVars false
section
variable {P : Program} {T : List (Nat × Ty)} {ρ ρ' : Rho} {lab : Lab} {w : World} {H : Hp} {fr : Fr} {a : Act} {n nr : Nat} {env : Env} {orc : Orc}

theorem Rel.up (hρ : ρ.le ρ') {v : V} {x : Value} (h : Rel ρ lab w v x) : Rel ρ' lab w v x := h.ext (Ext.refl lab w) hρ
theorem RelL.up (hρ : ρ.le ρ') {v : List V} {x : List Value} (h : RelL ρ lab w v x) : RelL ρ' lab w v x := h.ext (Ext.refl lab w) hρ
theorem ObjOk.up (hρ : ρ.le ρ') {k : Nat} {o : Obj} (h : ObjOk ρ lab w k o) : ObjOk ρ' lab w k o := h.carry (Ext.refl lab w) hρ (fun _ _ hq => ⟨hq, rfl⟩)

theorem relL_nil : RelL ρ lab w [] [] := ⟨rfl, by simp⟩
theorem relL_cons_iff {v : V} {r : List V} {xs : List Value} : RelL ρ lab w (v :: r) xs ↔ ∃ x xr, xs = x :: xr ∧ Rel ρ lab w v x ∧ RelL ρ lab w r xr := by
  constructor
  · rintro ⟨h1, h2⟩
    cases xs with
    | nil => simp at h1
    | cons x xr =>
      refine ⟨x, xr, rfl, h2 0 v x rfl rfl, by simpa using h1, fun i u y hu hy => h2 (i + 1) u y (by simpa using hu) (by simpa using hy)⟩
  · rintro ⟨x, xr, rfl, h1, h2, h3⟩
    refine ⟨by simp [h2], fun i u y hu hy => ?_⟩
    cases i with
    | zero => simp at hu hy; subst hu hy; exact h1
    | succ i => exact h3 i u y (by simpa using hu) (by simpa using hy)

theorem isNilSlice (v : V) : (∃ n cs, v = .slice .nil n cs) ∨ ∀ n cs, v ≠ .slice .nil n cs := by
  cases v with
  | slice o n cs => cases o with
    | nil => exact .inl ⟨n, cs, rfl⟩
    | _ => exact .inr (fun _ _ h => by cases h)
  | _ => exact .inr (fun _ _ h => by cases h)

theorem tagNil_no {v : V} (h : ∀ n cs, v ≠ .slice .nil n cs) (r : List V) (k : Nat) : tagNil (v :: r) k = (v :: (tagNil r k).1, (tagNil r k).2) := by
  cases v with
  | slice o n cs => cases o with
    | nil => exact absurd rfl (h n cs)
    | _ => rfl
  | _ => rfl

theorem tagNil_mono : ∀ (vs : List V) (k : Nat), k ≤ (tagNil vs k).2
  | [], k => Nat.le_refl _
  | v :: r, k => by
    rcases isNilSlice v with ⟨n, cs, rfl⟩ | h
    · have := tagNil_mono r (k + 1); simp only [tagNil]; omega
    · rw [tagNil_no h]; exact tagNil_mono r k

theorem Rel.tag {k n : Nat} {cs : List V} {x : Value} (hk : ρ'.hd k 0 = some (none, 0)) (h : Rel ρ lab w (.slice .nil n cs) x) : Rel ρ' lab w (.slice (.tag k) n cs) x := by
  cases h with
  | slice _ _ _ xs b o ao cap g1 g2 g3 g4 g5 g6 g7 g8 g9 =>
    obtain ⟨rfl, rfl, rfl, rfl⟩ := g7
    cases xs with
    | nil => exact .slice _ 0 [] [] b o none 0 rfl (Nat.le_refl _) (by simp) (by simp) (by simp) (by simp) hk (by simp) (by simp)
    | cons y ys => simp at g1

theorem tagNil_ok (hρ : ρ.le ρ') : ∀ (vs : List V) (k : Nat) (xs : List Value), (∀ j, k ≤ j → j < (tagNil vs k).2 → ρ'.hd j 0 = some (none, 0)) → RelL ρ lab w vs xs → RelL ρ' lab w (tagNil vs k).1 xs
  | [], k, xs, _, h => h.up hρ
  | v :: r, k, xs, hk, h => by
    obtain ⟨x, xr, rfl, h1, h2⟩ := relL_cons_iff.1 h
    rcases isNilSlice v with ⟨n, cs, rfl⟩ | hv
    · simp only [tagNil] at hk ⊢
      have hm := tagNil_mono r (k + 1)
      refine relL_cons_iff.2 ⟨x, xr, rfl, h1.tag (hk k (Nat.le_refl _) (by omega)), tagNil_ok hρ r (k + 1) xr (fun j h3 h4 => hk j (by omega) h4) h2⟩
    · rw [tagNil_no hv] at hk ⊢
      exact relL_cons_iff.2 ⟨x, xr, rfl, h1.up hρ, tagNil_ok hρ r k xr hk h2⟩

theorem tagRows_no {i k : Nat} {o : Obj} (h : ∀ cs, o ≠ .row cs) (r : Hp) : tagRows ((i, o) :: r) k = ((i, o) :: (tagRows r k).1, (tagRows r k).2) := by
  cases o with
  | row cs => exact absurd rfl (h cs)
  | _ => rfl

theorem isRow (o : Obj) : (∃ cs, o = .row cs) ∨ ∀ cs, o ≠ .row cs := by
  cases o with
  | row cs => exact .inl ⟨cs, rfl⟩
  | _ => exact .inr (fun _ h => by cases h)

theorem tagRows_mono : ∀ (H : Hp) (k : Nat), k ≤ (tagRows H k).2
  | [], k => Nat.le_refl _
  | (i, o) :: r, k => by
    rcases isRow o with ⟨cs, rfl⟩ | h
    · have := tagNil_mono cs k; have := tagRows_mono r (tagNil cs k).2; simp only [tagRows]; omega
    · rw [tagRows_no h]; exact tagRows_mono r k

theorem tagRows_canon : ∀ {H : Hp} {i : Nat} (k : Nat), Canon i H → Canon i (tagRows H k).1 ∧ (tagRows H k).1.length = H.length
  | [], i, k, _ => ⟨trivial, rfl⟩
  | (s, o) :: r, i, k, h => by
    obtain ⟨rfl, h2⟩ := h
    rcases isRow o with ⟨cs, rfl⟩ | hr
    · simp only [tagRows]
      obtain ⟨g1, g2⟩ := tagRows_canon (tagNil cs k).2 h2
      exact ⟨⟨rfl, g1⟩, by simp [g2]⟩
    · rw [tagRows_no hr]
      obtain ⟨g1, g2⟩ := tagRows_canon k h2
      exact ⟨⟨rfl, g1⟩, by simp [g2]⟩

def TagOk (ρ ρ' : Rho) (lab : Lab) (w : World) (j : Nat) (o o' : Obj) : Prop := (∀ e n, o = .tip e n → o' = .tip e n) ∧ (ObjOk ρ lab w j o → ObjOk ρ' lab w j o')

theorem tagRows_ok (hρ : ρ.le ρ') : ∀ (H : Hp) (k : Nat), (∀ j, k ≤ j → j < (tagRows H k).2 → ρ'.hd j 0 = some (none, 0)) → ∀ j,
    (hget j H = none ∧ hget j (tagRows H k).1 = none) ∨ ∃ o o', hget j H = some o ∧ hget j (tagRows H k).1 = some o' ∧ TagOk ρ ρ' lab w j o o'
  | [], k, _, j => .inl ⟨rfl, rfl⟩
  | (s, o) :: r, k, hk, j => by
    rcases isRow o with ⟨cs, rfl⟩ | hr
    · simp only [tagRows] at hk ⊢
      have hm := tagNil_mono cs k
      have hm2 := tagRows_mono r (tagNil cs k).2
      simp only [hget]
      cases hb : Nat.beq s j with
      | true =>
        refine .inr ⟨_, _, rfl, rfl, (fun e n h => by cases h), ?_⟩
        rintro ⟨b, o, xs, h1, h2, h3⟩
        exact ⟨b, o, xs, hρ.at_ _ _ h1, tagNil_ok hρ cs k xs (fun i h4 h5 => hk i h4 (by omega)) h2, h3⟩
      | false => exact tagRows_ok hρ r _ (fun i h4 h5 => hk i (by omega) h5) j
    · rw [tagRows_no hr] at hk ⊢
      simp only [hget]
      cases hb : Nat.beq s j with
      | true => exact .inr ⟨_, _, rfl, rfl, fun e n h => h, fun h => h.up hρ⟩
      | false => exact tagRows_ok hρ r _ hk j

theorem tips_canon : ∀ (k n : Nat), Canon k (tips k n) ∧ (tips k n).length = n
  | _, 0 => ⟨trivial, rfl⟩
  | k, n + 1 => by
    obtain ⟨h1, h2⟩ := tips_canon (k + 1) n
    exact ⟨⟨rfl, h1⟩, by simp [tips, h2]⟩

theorem tips_get : ∀ (k n j : Nat) (o : Obj), hget j (tips k n) = some o → o = .tip 0 0
  | _, 0, j, o, h => by cases h
  | k, n + 1, j, o, h => by
    simp only [tips, hget] at h
    split at h
    · cases h; rfl
    · exact tips_get _ n j o h

theorem canon_some : ∀ {H : Hp} {k j : Nat}, Canon k H → k ≤ j → j < k + H.length → ∃ o, hget j H = some o := by
  intro H k j h h1 h2
  have h3 := canon_get h (j - k)
  rw [show k + (j - k) = j from by omega] at h3
  have h4 : j - k < H.length := by omega
  rw [h3, List.getElem?_eq_getElem h4]
  exact ⟨_, rfl⟩

theorem canon_append : ∀ {A B : Hp} {k : Nat}, Canon k A → Canon (k + A.length) B → Canon k (A ++ B)
  | [], B, k, _, h => by simpa using h
  | (s, o) :: r, B, k, h, h' => by
    obtain ⟨rfl, h2⟩ := h
    refine ⟨rfl, canon_append h2 ?_⟩
    rw [List.length_cons] at h'
    rw [show s + 1 + r.length = s + (r.length + 1) from by omega]
    exact h'

/-- names of objects that hold nothing: nil rows, tags of nil slices -/
def Rho.nils (ρ : Rho) (g m k n : Nat) : Rho :=
  ⟨fun j => if g ≤ j ∧ j < g + m then some (none, some 0) else ρ.at_ j, fun j l => if k ≤ j ∧ j < k + n then (if l = 0 then some (none, 0) else none) else ρ.hd j l⟩

theorem Sim.nils (hS : Sim ρ lab H w) (hc : Canon 0 H) {G : Hp} {k2 : Nat} (hG : Canon H.length G) (hGo : ∀ j o, hget j G = some o → ∃ e, o = .grow e []) (hk2 : H.length + G.length ≤ k2) :
    ∃ ρ', ρ.le ρ' ∧ (∀ j, H.length ≤ j → j < H.length + G.length → ρ'.at_ j = some (none, some 0)) ∧ (∀ j, H.length + G.length ≤ j → j < (tagRows H k2).2 → ρ'.hd j 0 = some (none, 0)) ∧
      Sim ρ' lab ((tagRows H k2).1 ++ G ++ tips (H.length + G.length) ((tagRows H k2).2 - (H.length + G.length))) w ∧
      Canon 0 ((tagRows H k2).1 ++ G ++ tips (H.length + G.length) ((tagRows H k2).2 - (H.length + G.length))) ∧
      H.length ≤ ((tagRows H k2).1 ++ G ++ tips (H.length + G.length) ((tagRows H k2).2 - (H.length + G.length))).length := by
  obtain ⟨c1, c2⟩ := tagRows_canon k2 hc
  have hmono := tagRows_mono H k2
  generalize hk1 : H.length + G.length = k1 at *
  generalize hn3 : (tagRows H k2).2 - k1 = n3
  obtain ⟨t1, t2⟩ := tips_canon k1 n3
  have hnoneH : ∀ j, H.length ≤ j → hget j H = none := fun j hj => by
    cases hq : hget j H with
    | none => rfl
    | some o => have := canon_lt hc j o hq; omega
  have hnoneC : ∀ j, H.length ≤ j → hget j (tagRows H k2).1 = none := fun j hj => by
    cases hq : hget j (tagRows H k2).1 with
    | none => rfl
    | some o => have := canon_lt c1 j o hq; omega
  have hnoneG : ∀ j, k1 ≤ j → hget j G = none := fun j hj => by
    cases hq : hget j G with
    | none => rfl
    | some o => have := canon_lt hG j o hq; omega
  refine ⟨ρ.nils H.length G.length k1 n3, ⟨fun j x hx => ?_, fun j m x hx => ?_⟩, fun j h1 h2 => ?_, fun j h1 h2 => ?_, ?_, ?_, ?_⟩
  · simp only [Rho.nils]
    split
    · rename_i hj
      exact absurd (hnoneH j hj.1) (hS.adom j x hx)
    · exact hx
  · simp only [Rho.nils]
    split
    · rename_i hj
      obtain ⟨e, m', h1, _⟩ := hS.hdom j m x hx
      rw [hnoneH j (by omega)] at h1; cases h1
    · exact hx
  · simp only [Rho.nils]; rw [if_pos ⟨h1, by omega⟩]
  · simp only [Rho.nils]; rw [if_pos ⟨h1, by omega⟩]; rfl
  · have hle : ρ.le (ρ.nils H.length G.length k1 n3) := by
      refine ⟨fun j x hx => ?_, fun j m x hx => ?_⟩
      · simp only [Rho.nils]
        split
        · rename_i hj
          exact absurd (hnoneH j hj.1) (hS.adom j x hx)
        · exact hx
      · simp only [Rho.nils]
        split
        · rename_i hj
          obtain ⟨e, m', h1, _⟩ := hS.hdom j m x hx
          rw [hnoneH j (by omega)] at h1; cases h1
        · exact hx
    have hhd : ∀ j, k2 ≤ j → j < (tagRows H k2).2 → (ρ.nils H.length G.length k1 n3).hd j 0 = some (none, 0) := fun j h1 h2 => by
      simp only [Rho.nils]; rw [if_pos ⟨by omega, by omega⟩]; rfl
    have htr := tagRows_ok (lab := lab) (w := w) hle H k2 hhd
    refine Sim.mk' (fun j o hj => ?_) (fun j m x hx => ?_) (fun j x hx => ?_) hS.ldom
    · rw [hget_append, hget_append] at hj
      rcases htr j with ⟨g1, g2⟩ | ⟨o1, o2, g1, g2, g3⟩
      · rw [g2] at hj
        simp only at hj
        cases hq : hget j G with
        | some o3 =>
          rw [hq] at hj; cases hj
          obtain ⟨e, rfl⟩ := hGo j o hq
          have hlt := canon_lt hG j _ hq
          refine ⟨none, 0, [], ?_, relL_nil, by simp, fun _ => rfl, by simp, by simp, by simp⟩
          simp only [Rho.nils]; rw [if_pos ⟨by omega, by omega⟩]
        | none =>
          rw [hq] at hj
          simp only at hj
          have := tips_get _ _ _ _ hj
          subst this
          have hlt := canon_lt t1 j _ hj
          refine ⟨none, 0, ?_, Nat.le_refl _, fun _ => rfl, fun _ => rfl, by simp⟩
          simp only [Rho.nils]; rw [if_pos ⟨by omega, by omega⟩]; rfl
      · rw [g2] at hj
        simp only at hj
        cases hj
        exact g3.2 (hS.obj g1)
    · simp only [Rho.nils] at hx
      rw [hget_append, hget_append]
      split at hx
      · rename_i hj
        split at hx
        · subst_vars
          rw [hnoneC j (by omega), hnoneG j hj.1]
          obtain ⟨o, ho⟩ := canon_some t1 hj.1 (by omega)
          have := tips_get _ _ _ _ ho
          subst this
          exact ⟨0, 0, ho, Nat.le_refl _⟩
        · cases hx
      · obtain ⟨e, m', h1, h2⟩ := hS.hdom j m x hx
        rcases htr j with ⟨g1, g2⟩ | ⟨o1, o2, g1, g2, g3⟩
        · rw [g1] at h1; cases h1
        · rw [h1] at g1; cases g1
          have := g3.1 e m' rfl
          subst this
          rw [g2]
          exact ⟨e, m', rfl, h2⟩
    · simp only [Rho.nils] at hx
      rw [hget_append, hget_append]
      split at hx
      · rename_i hj
        rw [hnoneC j (by omega)]
        obtain ⟨o, ho⟩ := canon_some hG hj.1 (by omega)
        rw [ho]
        simp
      · have := hS.adom j x hx
        rcases htr j with ⟨g1, g2⟩ | ⟨o1, o2, g1, g2, g3⟩
        · exact absurd g1 this
        · rw [g2]; simp
  · refine canon_append (canon_append c1 ?_) ?_
    · rw [c2]; simpa using hG
    · rw [List.length_append, c2, Nat.zero_add, hk1]; exact t1
  · simp only [List.length_append, c2]; omega

/- frames -/
theorem look_head (s : Nat) (v : V) (r : Fr) : look s ((s, v) :: r) = v := by simp [look]
theorem look_tail {s t : Nat} (h : s ≠ t) (v : V) (r : Fr) : look t ((s, v) :: r) = look t r := by rw [look_cons, if_neg h]

theorem mapFr_look {f : V → Option V} : ∀ {fr fr' : Fr}, mapFr f fr = some fr' → ∀ t, look t fr' = .undef ∨ f (look t fr) = some (look t fr')
  | [], fr', h, t => by simp only [mapFr] at h; cases h; exact .inl rfl
  | (s, v) :: r, fr', h, t => by
    simp only [mapFr] at h
    split at h
    · rename_i v' r' h1 h2
      cases h
      by_cases hs : s = t
      · subst hs; rw [look_head, look_head]; exact .inr h1
      · rw [look_tail hs, look_tail hs]; exact mapFr_look h2 t
    · cases h

theorem keep_look : ∀ (l : List Nat) (fr : Fr) (t : Nat), look t (l.map fun s => (s, look s fr)) = .undef ∨ look t (l.map fun s => (s, look s fr)) = look t fr
  | [], fr, t => .inl rfl
  | s :: r, fr, t => by
    rw [List.map_cons]
    by_cases hs : s = t
    · subst hs; rw [look_head]; exact .inr rfl
    · rw [look_tail hs]; exact keep_look r fr t

theorem refNil_canon (b : Nat → Option Nat) : ∀ (fr : Fr) (k : Nat), Canon k (refNil b fr k).2 ∧ ∀ j o, hget j (refNil b fr k).2 = some o → ∃ e, o = .grow e []
  | [], k => ⟨trivial, fun j o h => by cases h⟩
  | (s, v) :: r, k => by
    obtain ⟨h1, h2⟩ := refNil_canon b r (k + 1)
    obtain ⟨h3, h4⟩ := refNil_canon b r k
    simp only [refNil]
    split
    · refine ⟨⟨rfl, h1⟩, fun j o hj => ?_⟩
      simp only [hget] at hj
      split at hj
      · cases hj; exact ⟨_, rfl⟩
      · exact h2 j o hj
    · exact ⟨h3, h4⟩

theorem Rel.ref {k n : Nat} {cs : List V} {x : Value} (hk : ρ'.at_ k = some (none, some 0)) (h : Rel ρ lab w (.slice .nil n cs) x) : Rel ρ' lab w (.rslice k 0 0 true) x := by
  cases h with
  | slice _ _ _ xs b o ao cap g1 g2 g3 g4 g5 g6 g7 g8 g9 =>
    obtain ⟨rfl, rfl, rfl, rfl⟩ := g7
    exact .rslice k 0 0 true none (some 0) none 0 hk (Nat.le_refl _) (fun _ => rfl) (fun _ => ⟨rfl, rfl⟩) (by simp)

theorem refNil_ok (b : Nat → Option Nat) (hρ : ρ.le ρ') (t : Nat) (x : Value) : ∀ (fr : Fr) (k : Nat), (∀ j, k ≤ j → j < k + (refNil b fr k).2.length → ρ'.at_ j = some (none, some 0)) →
    Rel ρ lab w (look t fr) x → Rel ρ' lab w (look t (refNil b fr k).1) x
  | [], k, _, h => h.up hρ
  | (s, v) :: r, k, hk, h => by
    simp only [refNil] at hk ⊢
    split at hk
    · rename_i e n cs he hv
      simp only [List.length_cons] at hk
      by_cases hs : s = t
      · subst hs; simp only [look_head] at h ⊢; exact h.ref (hk k (Nat.le_refl _) (by omega))
      · rw [look_tail hs] at h
        simp only [look_tail hs]
        exact refNil_ok b hρ t x r (k + 1) (fun j h1 h2 => hk j (by omega) (by omega)) h
    · rename_i v' hno
      by_cases hs : s = t
      · subst hs; simp only [look_head] at h ⊢; exact h.up hρ
      · rw [look_tail hs] at h
        simp only [look_tail hs]
        exact refNil_ok b hρ t x r k hk h

theorem tagFr_no {v : V} (h : ∀ n cs, v ≠ .slice .nil n cs) (s : Nat) (r : Fr) (k : Nat) : tagFr ((s, v) :: r) k = ((s, v) :: (tagFr r k).1, (tagFr r k).2) := by
  cases v with
  | slice o n cs => cases o with
    | nil => exact absurd rfl (h n cs)
    | _ => rfl
  | _ => rfl

theorem tagFr_mono : ∀ (fr : Fr) (k : Nat), k ≤ (tagFr fr k).2
  | [], k => Nat.le_refl _
  | (s, v) :: r, k => by
    rcases isNilSlice v with ⟨n, cs, rfl⟩ | h
    · have := tagFr_mono r (k + 1); simp only [tagFr]; omega
    · rw [tagFr_no h]; exact tagFr_mono r k

theorem tagFr_ok (hρ : ρ.le ρ') (t : Nat) (x : Value) : ∀ (fr : Fr) (k : Nat), (∀ j, k ≤ j → j < (tagFr fr k).2 → ρ'.hd j 0 = some (none, 0)) →
    Rel ρ lab w (look t fr) x → Rel ρ' lab w (look t (tagFr fr k).1) x
  | [], k, _, h => h.up hρ
  | (s, v) :: r, k, hk, h => by
    rcases isNilSlice v with ⟨n, cs, rfl⟩ | hv
    · simp only [tagFr] at hk ⊢
      have hm := tagFr_mono r (k + 1)
      by_cases hs : s = t
      · subst hs; simp only [look_head] at h ⊢; exact h.tag (hk k (Nat.le_refl _) (by omega))
      · rw [look_tail hs] at h
        simp only [look_tail hs]
        exact tagFr_ok hρ t x r (k + 1) (fun j h1 h2 => hk j (by omega) h2) h
    · rw [tagFr_no hv] at hk ⊢
      by_cases hs : s = t
      · subst hs; simp only [look_head] at h ⊢; exact h.up hρ
      · rw [look_tail hs] at h
        simp only [look_tail hs]
        exact tagFr_ok hρ t x r k hk h
end
end Go.Vm
/- A part of the heap is kept, others are left; what a call has left is put back into the caller's heap. -/
namespace Go.Vm
set_option linter.unusedSimpArgs false
set_option linter.unusedVariables false
set_option linter.unusedSectionVars false
section
variable {P : Program} {T : List (Nat × Ty)} {ρ ρ' : Rho} {lab : Lab} {w : World} {H : Hp} {fr : Fr} {a : Act} {n nr : Nat} {env : Env} {orc : Orc}

/-- the first names are names of the same -/
structure Roots (nr : Nat) (ρ ρ' : Rho) : Prop where
  at_ : ∀ k x, k < nr → ρ.at_ k = some x → ρ'.at_ k = some x
  hd : ∀ k n x, k < nr → ρ.hd k n = some x → ρ'.hd k n = some x
theorem Roots.of_le (h : ρ.le ρ') (nr : Nat) : Roots nr ρ ρ' := ⟨fun k x _ hx => h.at_ k x hx, fun k n x _ hx => h.hd k n x hx⟩
theorem Roots.trans {a b c : Rho} {n m : Nat} (h : Roots n a b) (g : Roots m b c) (hm : n ≤ m) : Roots n a c :=
  ⟨fun k x hk hx => g.at_ k x (by omega) (h.at_ k x hk hx), fun k l x hk hx => g.hd k l x (by omega) (h.hd k l x hk hx)⟩

theorem rootsB_ok : ∀ {k nr : Nat} {ns : List Nat}, rootsB k nr ns = true → ∀ i, i < nr → ns[i]? = some (k + i)
  | _, 0, _, _, i, hi => by omega
  | _, _ + 1, [], h, _, _ => by cases h
  | k, n + 1, a :: r, h, i, hi => by
    simp only [rootsB, Bool.and_eq_true] at h
    cases i with
    | zero => have := Nat.eq_of_beq_eq_true h.1; simp [this]
    | succ i =>
      have := rootsB_ok h.2 i (by omega)
      simp only [List.getElem?_cons_succ, this]
      congr 1; omega

theorem roots_sub {ns : List Nat} (h : rootsB 0 nr ns = true) : Roots nr ρ (ρ.sub ns) where
  at_ := fun k x hk hx => by have := rootsB_ok h k hk; simp only [Nat.zero_add] at this; simp only [Rho.sub, this]; exact hx
  hd := fun k n x hk hx => by have := rootsB_ok h k hk; simp only [Nat.zero_add] at this; simp only [Rho.sub, this]; exact hx

theorem rootsB_len : ∀ {k nr : Nat} {ns : List Nat}, rootsB k nr ns = true → nr ≤ ns.length
  | _, 0, _, _ => Nat.zero_le _
  | _, _ + 1, [], h => by cases h
  | k, n + 1, a :: r, h => by
    simp only [rootsB, Bool.and_eq_true] at h
    have := rootsB_len h.2
    simp only [List.length_cons]; omega

theorem Sim.pick (hS : Sim ρ lab H w) {ns : List Nat} (hn : ns.Nodup) {H2 : Hp} (hp : pickO H (idx · ns) ns 0 = some H2) {lab2 : Lab}
    (hl0 : ∀ b o, lab b o = none → lab2 b o = none) (hl1 : ∀ b o k i, lab b o = some (some k) → idx k ns = some i → lab2 b o = some (some i)) (hl2 : ∀ b o y, lab2 b o = some y → lab b o ≠ none) :
    Ren (idx · ns) ρ (ρ.sub ns) lab lab2 ∧ Sim (ρ.sub ns) lab2 H2 w := by
  obtain ⟨c1, c2, c3⟩ := pickO_ok hp
  have hR : Ren (idx · ns) ρ (ρ.sub ns) lab lab2 := ⟨(ren_sub (lab := lab) ns).at_, (ren_sub (lab := lab) ns).hd, hl0⟩
  have hsome : ∀ i k, ns[i]? = some k → ∃ o o', hget k H = some o ∧ renO (idx · ns) o = some o' ∧ hget i H2 = some o' := fun i k hk => by
    have := c3 i k hk
    simpa using this
  refine ⟨hR, Sim.mk' (fun j o hj => ?_) (fun j n' x h => ?_) (fun j x h => ?_) (fun b o j hl => ?_)⟩
  · have hlt := canon_lt c1 j o hj
    have hjn : j < ns.length := by omega
    obtain ⟨o1, o2, k1, k2, k3⟩ := hsome j ns[j] (by simp [hjn])
    rw [hj] at k3; cases k3
    have hidx := get_idx hn (show ns[j]? = some ns[j] from by simp [hjn])
    exact ObjOk.ren hR hidx (fun b p hl => hl1 b p _ _ hl hidx) (hS.obj k1) k2
  · simp only [Rho.sub, Option.bind_eq_some_iff] at h
    obtain ⟨k, hk, hx⟩ := h
    obtain ⟨e, m, g1, g2⟩ := hS.hdom k n' x hx
    obtain ⟨o1, o2, k1, k2, k3⟩ := hsome j k hk
    rw [g1] at k1; cases k1
    simp only [renO] at k2; cases k2
    exact ⟨e, m, k3, g2⟩
  · simp only [Rho.sub, Option.bind_eq_some_iff] at h
    obtain ⟨k, hk, hx⟩ := h
    obtain ⟨o1, o2, k1, k2, k3⟩ := hsome j k hk
    rw [k3]; simp
  · have := hl2 b o j hl
    cases hq : lab b o with
    | none => exact absurd hq this
    | some y => exact hS.ldom b o y hq

/-- objects that are not kept are written no more -/
def Lab.drop (lab : Lab) (ns : List Nat) : Lab := fun b o => match lab b o with
  | some (some k) => (match idx k ns with | some i => some (some i) | none => none)
  | x => x

theorem Sim.drop (hS : Sim ρ lab H w) {ns : List Nat} (hn : ns.Nodup) {H2 : Hp} (hp : pickO H (idx · ns) ns 0 = some H2) :
    Ren (idx · ns) ρ (ρ.sub ns) lab (lab.drop ns) ∧ Sim (ρ.sub ns) (lab.drop ns) H2 w ∧ Ext lab w (lab.drop ns) w := by
  have hl0 : ∀ b o, lab b o = none → lab.drop ns b o = none := fun b o h => by simp only [Lab.drop, h]
  obtain ⟨h1, h2⟩ := hS.pick hn hp (lab2 := lab.drop ns) hl0 (fun b o k i hl hi => by simp only [Lab.drop, hl, hi]) (fun b o y hy hq => by rw [hl0 b o hq] at hy; cases hy)
  refine ⟨h1, h2, ⟨Nat.le_refl _, rfl, rfl, rfl, fun b o _ h => hl0 b o h, fun b o => ?_, fun _ _ _ _ => ⟨rfl, rfl⟩, fun _ _ _ => rfl⟩⟩
  simp only [Lab.drop]
  split
  · rename_i k hk
    rw [hk]
    split <;> simp
  · exact .rfl

theorem Ext.subL (lab : Lab) (w : World) (ns : List Nat) : ∀ b o, lab.sub ns b o = none ↔ lab b o = none := by
  intro b o
  simp only [Lab.sub]
  split
  · rename_i k hk
    rw [hk]
    split <;> simp
  · exact .rfl

theorem normal_ok {f lp : Nat} {fr' : Fr} {H' : Hp} {arr : Array Value} (hS : Sim ρ lab H w) (hF : FrRel ρ lab w fr arr) (h : normal env f nr lp fr H = some (fr', H')) :
    ∃ ρ' lab', Sim ρ' lab' H' w ∧ Ext lab w lab' w ∧ Roots nr ρ ρ' ∧ FrRel ρ' lab' w fr' arr := by
  unfold normal at h
  simp only at h
  generalize hfr1 : ((env.keep f lp).map fun s => (s, look s fr)) = fr1 at h
  generalize hns : reach H 99 (List.range nr ++ fr1.flatMap fun p => namesV dep p.2) [] = ns at h
  have hn : ns.Nodup := by rw [← hns]; exact reach_nodup _ _ _ _ List.nodup_nil
  split at h
  · rename_i fr2 H2 hm hp hr
    simp only [Option.some.injEq, Prod.mk.injEq] at h
    obtain ⟨rfl, rfl⟩ := h
    obtain ⟨hR, hS2, hE⟩ := hS.drop hn hp
    obtain ⟨c1, c2, _⟩ := pickO_ok hp
    obtain ⟨g1, g2⟩ := refNil_canon (env.byref f) fr2 ns.length
    rw [← c2] at *
    have hmf := tagFr_mono (refNil (env.byref f) fr2 H2.length).1 (H2.length + (refNil (env.byref f) fr2 H2.length).2.length)
    have hmr := tagRows_mono H2 (tagFr (refNil (env.byref f) fr2 H2.length).1 (H2.length + (refNil (env.byref f) fr2 H2.length).2.length)).2
    obtain ⟨ρ', k1, k2, k3, k4, k5, k6⟩ := hS2.nils c1 g1 g2 hmf
    refine ⟨ρ', _, k4, hE, (roots_sub hr).trans (Roots.of_le k1 nr) (Nat.le_refl _), fun t => ?_⟩
    have h1 : Rel (ρ.sub ns) (lab.drop ns) w (look t fr2) (arr.getD t undef) := by
      rcases mapFr_look hm t with hu | hu
      · rw [hu]; exact .undef _
      · refine Rel.ren hR dep hu ?_
        rw [← hfr1]
        rcases keep_look (env.keep f lp) fr t with hv | hv
        · rw [hv]; exact .undef _
        · rw [hv]; exact hF t
    have h2 := refNil_ok (env.byref f) k1 t _ fr2 H2.length k2 h1
    exact tagFr_ok (Rho.le.refl _) t _ _ _ (fun j g3 g4 => k3 j g3 (by omega)) h2
  · cases h

theorem finish_ok {v v' : V} {x : Value} {H' : Hp} (hS : Sim ρ lab H w) (hv : Rel ρ lab w v x) (h : finish nr v H = some (v', H')) :
    ∃ ρ' lab', Sim ρ' lab' H' w ∧ Ext lab w lab' w ∧ Roots nr ρ ρ' ∧ Rel ρ' lab' w v' x ∧ Canon 0 H' ∧ nr ≤ H'.length := by
  unfold finish at h
  simp only at h
  generalize hns : reach H 99 (List.range nr ++ namesV dep v) [] = ns at h
  have hn : ns.Nodup := by rw [← hns]; exact reach_nodup _ _ _ _ List.nodup_nil
  split at h
  · rename_i v2 H2 hm hp hr
    simp only [Option.some.injEq, Prod.mk.injEq] at h
    obtain ⟨rfl, rfl⟩ := h
    obtain ⟨hR, hS2, hE⟩ := hS.drop hn hp
    obtain ⟨c1, c2, _⟩ := pickO_ok hp
    exact ⟨_, _, hS2, hE, roots_sub hr, Rel.ren hR dep hm hv, c1, by rw [c2]; exact rootsB_len hr⟩
  · cases h

theorem mergeH_ok {m : Nat → Option Nat} : ∀ {L : Hp} {i0 : Nat} {H H4 : Hp}, Canon i0 L → (∀ i i' j o o', hget i L = some o → hget i' L = some o' → m i = some j → m i' = some j → i = i') → mergeH m L H = some H4 →
    (∀ i o, hget i L = some o → ∃ j o', m i = some j ∧ renO m o = some o' ∧ hget j H4 = some o') ∧ ∀ j, (∀ i o, hget i L = some o → m i ≠ some j) → hget j H4 = hget j H
  | [], i0, H, H4, _, _, h => by simp only [mergeH] at h; cases h; exact ⟨fun i o h => (by cases h), fun _ _ => rfl⟩
  | (s, o) :: r, i0, H, H4, hc, hinj, h => by
    obtain ⟨rfl, hc2⟩ := hc
    simp only [mergeH] at h
    split at h
    · rename_i j0 o0 hj0 ho0
      have hsr : ∀ i o, hget i r = some o → hget i ((s, o0) :: r) = some o ∧ s ≠ i := fun i o hi => by
        have := canon_lt hc2 i o hi
        have hb : Nat.beq s i = false := by
          cases hb : Nat.beq s i with
          | true => have := Nat.eq_of_beq_eq_true hb; omega
          | false => rfl
        exact ⟨by simp only [hget, hb]; exact hi, by omega⟩
      have hsr' : ∀ i o1, hget i r = some o1 → hget i ((s, o) :: r) = some o1 ∧ s ≠ i := fun i o1 hi => by
        have h1 := hsr i o1 hi
        simp only [hget] at h1 ⊢
        split
        · rename_i hb
          exact absurd (Nat.eq_of_beq_eq_true hb) h1.2
        · exact ⟨hi, h1.2⟩
      have hhead : hget s ((s, o) :: r) = some o := by simp [hget]
      obtain ⟨k1, k2⟩ := mergeH_ok hc2 (fun i i' j o1 o2 h1 h2 => hinj i i' j o1 o2 (hsr' i o1 h1).1 (hsr' i' o2 h2).1) h
      refine ⟨fun i o1 hi => ?_, fun j hj => ?_⟩
      · simp only [hget] at hi
        split at hi
        · rename_i hb
          cases hi
          have := Nat.eq_of_beq_eq_true hb
          subst this
          refine ⟨j0, o0, hj0, ho0, ?_⟩
          rw [k2 j0 (fun i' o' hi' hm => (hsr' i' o' hi').2 (hinj s i' j0 o o' hhead (hsr' i' o' hi').1 hj0 hm)), hget_hset, if_pos rfl]
        · exact k1 i o1 hi
      · rw [k2 j (fun i' o' hi' => hj i' o' (hsr' i' o' hi').1), hget_hset, if_neg]
        rintro rfl
        exact hj s o hhead hj0
    · cases h

theorem freshB_ok : ∀ {n k : Nat}, freshB H k n = true → ∀ i, i < n → hget (k + i) H = none
  | 0, _, _, i, hi => by omega
  | n + 1, k, h, i, hi => by
    simp only [freshB, Bool.and_eq_true] at h
    rcases Nat.lt_or_ge i n with h1 | h1
    · exact freshB_ok h.2 i h1
    · have : i = n := by omega
      subst this
      cases hq : hget (k + i) H with
      | none => rfl
      | some o => rw [hq] at h; simp at h

/-- where the caller's objects lie after a call -/
def Rho.back (ρ ρ3 : Rho) (H : Hp) (ns : List Nat) (k : Nat) : Rho :=
  ⟨fun j => match idx j ns with | some i => ρ3.at_ i | none => match hget j H with | some _ => ρ.at_ j | none => if k ≤ j then ρ3.at_ (ns.length + (j - k)) else none,
   fun j m => match idx j ns with | some i => ρ3.hd i m | none => match hget j H with | some _ => ρ.hd j m | none => if k ≤ j then ρ3.hd (ns.length + (j - k)) m else none⟩
def Lab.back (lab lab3 : Lab) (ns : List Nat) (k : Nat) : Lab := fun b o => match lab3 b o with
  | some (some i) => (match backName ns k i with | some j => some (some j) | none => none)
  | some none => lab b o
  | none => none

theorem idx_none {ns : List Nat} {j : Nat} (h : ∀ i : Nat, ns[i]? ≠ some j) : idx j ns = none := by
  cases hq : idx j ns with
  | none => rfl
  | some i => exact absurd (idx_get hq) (h i)

theorem merge_ok {ρn ρ3 : Rho} {lab3 : Lab} {w' : World} {H3 H4 : Hp} {ns : List Nat} {k nc : Nat} {v v4 : V} {x : Value} (hS : Sim ρ lab H w) (hn : ns.Nodup)
    (hpick : ∀ i j : Nat, ns[i]? = some j → hget j H ≠ none) (hnc : ns.length ≤ nc) (hle : (ρ.sub ns).le ρn) (S3 : Sim ρ3 lab3 H3 w') (E3 : Ext (lab.sub ns) w lab3 w') (R3 : Roots nc ρn ρ3) (c3 : Canon 0 H3)
    (hlen : nc ≤ H3.length) (hv : Rel ρ3 lab3 w' v x) (hv4 : renV (backName ns k) dep v = some v4) (hm : mergeH (backName ns k) H3 H = some H4) (hf : freshB H k (H3.length - ns.length) = true) :
    ∃ ρ4 lab4, Sim ρ4 lab4 H4 w' ∧ Ext lab w lab4 w' ∧ ρ.le ρ4 ∧ Rel ρ4 lab4 w' v4 x := by
  have hfr := freshB_ok hf
  have hlt : ∀ i o, hget i H3 = some o → i < H3.length := fun i o h => by have := canon_lt c3 i o h; omega
  have hbn : ∀ i j, i < H3.length → backName ns k i = some j → (ns[i]? = some j ∧ i < ns.length ∧ idx j ns = some i) ∨ (ns.length ≤ i ∧ j = k + (i - ns.length) ∧ hget j H = none ∧ idx j ns = none) := by
    intro i j hi hb
    unfold backName at hb
    split at hb
    · rename_i j' hj'
      cases hb
      refine .inl ⟨hj', ?_, get_idx hn hj'⟩
      rcases Nat.lt_or_ge i ns.length with h | h
      · exact h
      · rw [List.getElem?_eq_none h] at hj'; cases hj'
    · rename_i hj'
      cases hb
      have hge : ns.length ≤ i := by
        rcases Nat.lt_or_ge i ns.length with h | h
        · rw [List.getElem?_eq_getElem h] at hj'; cases hj'
        · exact h
      have hnone := hfr (i - ns.length) (by omega)
      exact .inr ⟨hge, rfl, hnone, idx_none fun i' hi' => hpick i' _ hi' hnone⟩
  have hinj : ∀ i i' j o o', hget i H3 = some o → hget i' H3 = some o' → backName ns k i = some j → backName ns k i' = some j → i = i' := by
    intro i i' j o o' h1 h2 b1 b2
    rcases hbn i j (hlt _ _ h1) b1 with ⟨p1, p2, p3⟩ | ⟨p1, p2, p3, p4⟩ <;> rcases hbn i' j (hlt _ _ h2) b2 with ⟨q1, q2, q3⟩ | ⟨q1, q2, q3, q4⟩
    · rw [p3] at q3; cases q3; rfl
    · rw [p3] at q4; cases q4
    · rw [p4] at q3; cases q3
    · omega
  obtain ⟨m1, m2⟩ := mergeH_ok c3 hinj hm
  have hat3 : ∀ i x, ρ3.at_ i = some x → i < H3.length := fun i x h => by
    have := S3.adom i x h
    cases hq : hget i H3 with
    | none => exact absurd hq this
    | some o => exact hlt i o hq
  have hhd3 : ∀ i m x, ρ3.hd i m = some x → i < H3.length := fun i m x h => by
    obtain ⟨e, m', h1, _⟩ := S3.hdom i m x h
    exact hlt i _ h1
  have hR : Ren (backName ns k) ρ3 (ρ.back ρ3 H ns k) lab3 (lab.back lab3 ns k) := by
    refine ⟨fun i j x hb hx => ?_, fun i j m x hb hx => ?_, fun b o hl => by simp only [Lab.back, hl]⟩
    · rcases hbn i j (hat3 i x hx) hb with ⟨p1, p2, p3⟩ | ⟨p1, p2, p3, p4⟩
      · simp only [Rho.back, p3]; exact hx
      · simp only [Rho.back, p4, p3]
        rw [if_pos (by omega), p2, show ns.length + (k + (i - ns.length) - k) = i from by omega]; exact hx
    · rcases hbn i j (hhd3 i m x hx) hb with ⟨p1, p2, p3⟩ | ⟨p1, p2, p3, p4⟩
      · simp only [Rho.back, p3]; exact hx
      · simp only [Rho.back, p4, p3]
        rw [if_pos (by omega), p2, show ns.length + (k + (i - ns.length) - k) = i from by omega]; exact hx
  have hle4 : ρ.le (ρ.back ρ3 H ns k) := by
    refine ⟨fun j x hx => ?_, fun j m x hx => ?_⟩
    · simp only [Rho.back]
      split
      · rename_i i hi
        have hg := idx_get hi
        have hil : i < ns.length := by
          rcases Nat.lt_or_ge i ns.length with h | h
          · exact h
          · rw [List.getElem?_eq_none h] at hg; cases hg
        refine R3.at_ i x (by omega) (hle.at_ i x ?_)
        simp only [Rho.sub, hg]; exact hx
      · split
        · exact hx
        · rename_i hq; exact absurd hq (hS.adom j x hx)
    · simp only [Rho.back]
      split
      · rename_i i hi
        have hg := idx_get hi
        have hil : i < ns.length := by
          rcases Nat.lt_or_ge i ns.length with h | h
          · exact h
          · rw [List.getElem?_eq_none h] at hg; cases hg
        refine R3.hd i m x (by omega) (hle.hd i m x ?_)
        simp only [Rho.sub, hg]; exact hx
      · split
        · exact hx
        · rename_i hq
          obtain ⟨e, m', h1, _⟩ := hS.hdom j m x hx
          rw [hq] at h1; cases h1
  have hsub0 := Ext.subL lab w ns
  have hsubc : ∀ b o, lab b o = some none → lab.sub ns b o = some none := fun b o h => by simp only [Lab.sub, h]
  have hown : ∀ b o i, lab.sub ns b o = some (some i) → ¬ ∀ k, lab b o ≠ some (some k) := fun b o i hi hl => by
    cases hq : lab b o with
    | none => simp only [Lab.sub, hq] at hi; cases hi
    | some y =>
      cases y with
      | none => simp only [Lab.sub, hq] at hi; cases hi
      | some j => exact hl j hq
  have hE4 : Ext lab w (lab.back lab3 ns k) w' := by
    refine ⟨E3.size, E3.os, E3.tape, E3.output, fun b o hb hl => ?_, fun b o => ⟨fun h => ?_, fun h => ?_⟩, fun b o hb hl => E3.cl b o hb (fun i hi => ?_), fun b hb hl => E3.blk b hb (fun o i hi => ?_)⟩
    · have := E3.lb b o hb ((hsub0 b o).2 hl)
      simp only [Lab.back, this]
    · simp only [Lab.back] at h
      split at h
      · split at h <;> cases h
      · exact h
      · cases h
    · have := (E3.ctx b o).2 (hsubc b o h)
      simp only [Lab.back, this, h]
    · exact hown b o i hi hl
    · exact hown b o i hi (hl o)
  -- an object of the caller's that was not handed over
  have hold : ∀ j, (∀ i o, hget i H3 = some o → backName ns k i ≠ some j) → hget j H ≠ none → idx j ns = none := by
    intro j hno hj
    refine idx_none fun i hi => ?_
    have hil : i < ns.length := by
      rcases Nat.lt_or_ge i ns.length with h | h
      · exact h
      · rw [List.getElem?_eq_none h] at hi; cases hi
    obtain ⟨o, ho⟩ := canon_some c3 (Nat.zero_le i) (by omega)
    refine hno i o ho ?_
    unfold backName; rw [hi]
  refine ⟨ρ.back ρ3 H ns k, lab.back lab3 ns k, Sim.mk' (fun j o hj => ?_) (fun j m y h => ?_) (fun j y h => ?_) (fun b o j hl => ?_), hE4, hle4, Rel.ren hR dep hv4 hv⟩
  · by_cases hit : ∃ i o3, hget i H3 = some o3 ∧ backName ns k i = some j
    · obtain ⟨i, o3, h1, h2⟩ := hit
      obtain ⟨j', o', g1, g2, g3⟩ := m1 i o3 h1
      rw [h2] at g1; cases g1
      rw [hj] at g3; cases g3
      exact ObjOk.ren hR h2 (fun b p hl => by simp only [Lab.back, hl, h2]) (S3.obj h1) g2
    · have hno : ∀ i o, hget i H3 = some o → backName ns k i ≠ some j := fun i o h1 h2 => hit ⟨i, o, h1, h2⟩
      have hj' := m2 j hno
      rw [hj] at hj'
      have hid := hold j hno (by rw [← hj']; simp)
      refine (hS.obj hj'.symm).carry hE4 hle4 (fun b p hq => ?_)
      obtain ⟨y, hy⟩ := hq.cell
      have hb := cellAt_lt hy
      have hsl : lab.sub ns b p = some none := by simp only [Lab.sub, hq.lab, hid]
      have h3 := (E3.ctx b p).2 hsl
      obtain ⟨f1, f2⟩ := E3.cl b p hb (fun i hi => by rw [hsl] at hi; cases hi)
      exact ⟨⟨by simp only [Lab.back, h3]; exact hq.lab, f2.trans hq.free, y, f1.trans hy⟩, f1⟩
  · simp only [Rho.back] at h
    have viaI : ∀ i, backName ns k i = some j → ρ3.hd i m = some y → ∃ e m', hget j H4 = some (.tip e m') ∧ m ≤ m' := by
      intro i hb hx
      obtain ⟨e, m', g1, g2⟩ := S3.hdom i m y hx
      obtain ⟨j', o', k1, k2, k3⟩ := m1 i _ g1
      rw [hb] at k1; cases k1
      simp only [renO] at k2; cases k2
      exact ⟨e, m', k3, g2⟩
    split at h
    · rename_i i hi
      exact viaI i (by unfold backName; rw [idx_get hi]) h
    · rename_i hi
      split at h
      · rename_i o ho
        obtain ⟨e, m', g1, g2⟩ := hS.hdom j m y h
        have hno : ∀ i o, hget i H3 = some o → backName ns k i ≠ some j := fun i o h1 h2 => by
          rcases hbn i j (hlt _ _ h1) h2 with ⟨p1, p2, p3⟩ | ⟨p1, p2, p3, p4⟩
          · rw [hi] at p3; cases p3
          · rw [ho] at p3; cases p3
        rw [m2 j hno]
        exact ⟨e, m', g1, g2⟩
      · split at h
        · rename_i hk
          refine viaI (ns.length + (j - k)) ?_ h
          unfold backName
          rw [List.getElem?_eq_none (by omega)]
          simp only [Option.some.injEq]; omega
        · cases h
  · simp only [Rho.back] at h
    have viaI : ∀ i, backName ns k i = some j → ρ3.at_ i = some y → hget j H4 ≠ none := by
      intro i hb hx
      have := S3.adom i y hx
      cases hq : hget i H3 with
      | none => exact absurd hq this
      | some o =>
        obtain ⟨j', o', k1, k2, k3⟩ := m1 i _ hq
        rw [hb] at k1; cases k1
        rw [k3]; simp
    split at h
    · rename_i i hi
      exact viaI i (by unfold backName; rw [idx_get hi]) h
    · rename_i hi
      split at h
      · rename_i o ho
        have hno : ∀ i o, hget i H3 = some o → backName ns k i ≠ some j := fun i o h1 h2 => by
          rcases hbn i j (hlt _ _ h1) h2 with ⟨p1, p2, p3⟩ | ⟨p1, p2, p3, p4⟩
          · rw [hi] at p3; cases p3
          · rw [ho] at p3; cases p3
        rw [m2 j hno, ho]; simp
      · split at h
        · rename_i hk
          refine viaI (ns.length + (j - k)) ?_ h
          unfold backName
          rw [List.getElem?_eq_none (by omega)]
          simp only [Option.some.injEq]; omega
        · cases h
  · simp only [Lab.back] at hl
    cases hq : lab3 b o with
    | none => rw [hq] at hl; cases hl
    | some y => exact S3.ldom b o y hq
end
end Go.Vm
/- Calls of Go functions; operations one after another. -/
namespace Go.Vm
set_option linter.unusedSimpArgs false
set_option linter.unusedVariables false
set_option linter.unusedSectionVars false
section
variable {P : Program} {T : List (Nat × Ty)} {ρ ρ' : Rho} {lab : Lab} {w : World} {H : Hp} {fr : Fr} {a : Act} {n nr : Nat} {env : Env} {orc : Orc}

theorem Rel.toSealed {v : V} {x : Value} (h : Rel ρ lab w v x) : Rel ρ lab w (sealV v) x := by
  cases h with
  | slice ow n cells xs b o ao cap g1 g2 g3 g4 g5 g6 g7 g8 g9 => exact .slice .sealed n cells xs b o ao cap g1 g2 g3 g4 g5 g6 trivial g8 g9
  | undef => exact .undef _
  | bool => exact .bool _
  | int => exact .int _ _
  | str => exact .str _
  | nilptr => exact .nilptr
  | ptr r off b o c h => exact .ptr r off b o c h
  | cptr cells xs b o h1 h2 h3 h4 => exact .cptr cells xs b o h1 h2 h3 h4
  | rslice r off n wh base g ao cap h1 h2 h3 h4 h5 => exact .rslice r off n wh base g ao cap h1 h2 h3 h4 h5
  | func fn a c xs ys h1 h2 h3 h4 => exact .func fn a c xs ys h1 h2 h3 h4
  | nilFunc => exact .nilFunc
  | iface t v x h => exact .iface t v x h
  | nilIface => exact .nilIface
  | agg cells xs h1 h2 => exact .agg cells xs h1 h2
  | tuple cells xs h1 h2 => exact .tuple cells xs h1 h2

theorem relMap {f : V → V} (hf : ∀ v x, Rel ρ lab w v x → Rel ρ lab w (f v) x) {vs : List V} {xs : List Value} (h : RelL ρ lab w vs xs) : RelL ρ lab w (vs.map f) xs := by
  refine ⟨by rw [List.length_map]; exact h.1, fun i v x hv hx => ?_⟩
  rw [List.getElem?_map, Option.map_eq_some_iff] at hv
  obtain ⟨u, hu, rfl⟩ := hv
  exact hf u x (h.2 i u x hu hx)

theorem RelL.toSealed {vs : List V} {xs : List Value} (h : RelL ρ lab w vs xs) : RelL ρ lab w (vs.map sealV) xs := relMap (fun _ _ h => h.toSealed) h

theorem Rel.sealAgg {v : V} {x : Value} (h : Rel ρ lab w v x) : Rel ρ lab w (sealA v) x := by
  cases v with
  | agg cs => cases h with | agg _ xs h1 h2 => have := RelL.toSealed (ρ := ρ) (lab := lab) (w := w) ⟨h1, h2⟩; exact .agg _ xs this.1 this.2
  | _ => exact h.toSealed

theorem Rel.sealD {v : V} {x : Value} (h : Rel ρ lab w v x) : Rel ρ lab w (sealD v) x := by
  cases v with
  | tuple vs =>
    cases h with
    | tuple _ xs h1 h2 =>
      have := relMap (ρ := ρ) (lab := lab) (w := w) (f := sealA) (fun _ _ h => h.sealAgg) ⟨h1, h2⟩
      exact .tuple _ xs this.1 this.2
  | _ => exact h.sealAgg

theorem mapO_some {α β : Type} {f g : α → Option β} (hfg : ∀ a b, f a = some b → g a = some b) : ∀ {l : List α} {r : List β}, mapO f l = some r → mapO g l = some r
  | [], r, h => h
  | a :: t, r, h => by
    simp only [mapO] at h ⊢
    cases h1 : f a with
    | none => rw [h1] at h; cases h
    | some b =>
      rw [h1] at h
      simp only at h
      rw [hfg a b h1]
      cases h2 : mapO f t with
      | none => rw [h2] at h; cases h
      | some u => rw [h2] at h; rw [mapO_some hfg h2]; exact h

theorem renV_some {m m' : Nat → Option Nat} (hm : ∀ k i, m k = some i → m' k = some i) : ∀ (d : Nat) {v v' : V}, renV m d v = some v' → renV m' d v = some v'
  | 0, v, v', h => by cases h
  | d + 1, v, v', h => by
    have ih : ∀ a b, renV m d a = some b → renV m' d a = some b := fun a b h => renV_some hm d h
    cases v with
    | ptr r o => simp only [renV] at h ⊢; (split at h; (· rename_i hr; rw [hm _ _ hr]; exact h); (· cases h))
    | rslice r o n w => simp only [renV] at h ⊢; (split at h; (· rename_i hr; rw [hm _ _ hr]; exact h); (· cases h))
    | slice o n cs =>
      cases o with
      | tag g => simp only [renV] at h ⊢; (split at h; (· rename_i hr; rw [hm _ _ hr]; exact h); (· cases h))
      | _ => exact h
    | func fn a b =>
      simp only [renV] at h ⊢
      split at h
      · rename_i h1 h2; rw [mapO_some ih h1, mapO_some ih h2]; exact h
      · cases h
    | iface t v =>
      simp only [renV] at h ⊢
      split at h
      · rename_i h1; rw [ih _ _ h1]; exact h
      · cases h
    | agg cs =>
      simp only [renV] at h ⊢
      split at h
      · rename_i h1; rw [mapO_some ih h1]; exact h
      · cases h
    | tuple cs =>
      simp only [renV] at h ⊢
      split at h
      · rename_i h1; rw [mapO_some ih h1]; exact h
      · cases h
    | _ => exact h

/-- what a call leaves, by its own names -/
def Done (ρ : Rho) (lab : Lab) (H : Hp) (w : World) (v : V) (H' : Hp) (x : Value) (w' : World) : Prop :=
  ∃ ρ' lab', Sim ρ' lab' H' w' ∧ Ext lab w lab' w' ∧ Roots H.length ρ ρ' ∧ Rel ρ' lab' w' v x ∧ Canon 0 H' ∧ H.length ≤ H'.length
def CallPost (ρ : Rho) (lab : Lab) (H : Hp) (w : World) : Out → Ending → World → Prop
  | .ret v H', .returned x, w' => Done ρ lab H w v H' x w'
  | .pan v H', .panicked ch, w' => ∃ x, ch = [{ v := x, recovered := false }] ∧ Done ρ lab H w v H' x w'
  | _, _, _ => False
structure CallOk (P : Program) (orc : Orc) : Prop where
  call : ∀ g args H out, orc (.call g args) H = some out → ∀ ρ lab w xs, Canon 0 H → Sim ρ lab H w → RelL ρ lab w args xs → Calls P g xs.toArray w (CallPost ρ lab H w out)
  known : ∀ g args H out, orc (.call g args) H = some out → ∃ fn c, P.funcs[g]? = some fn ∧ (fn.name == "runtime.NumGoroutine") = false ∧ fn.body = some c

/-- what a call leaves, in the caller's names -/
def Left (ρ : Rho) (lab : Lab) (w : World) (v : V) (H' : Hp) (x : Value) (w' : World) : Prop := ∃ ρ' lab', Sim ρ' lab' H' w' ∧ Ext lab w lab' w' ∧ ρ.le ρ' ∧ Rel ρ' lab' w' v x
def ViaPost (ρ : Rho) (lab : Lab) (w : World) : OpR → Ending → World → Prop
  | .val v H', .returned x, w' => Left ρ lab w v H' x w'
  | .pan v H', .panicked ch, w' => ∃ x, ch = [{ v := x, recovered := false }] ∧ Left ρ lab w v H' x w'
  | _, _, _ => False

theorem quietVia_ok (hO : CallOk P orc) (hS : Sim ρ lab H w) {g : Nat} {args : List V} {xs : List Value} {r : OpR} (hx : RelL ρ lab w args xs) (h : quietVia orc g args H = some r) :
    Calls P g xs.toArray w (ViaPost ρ lab w r) ∧ ∃ fn c, P.funcs[g]? = some fn ∧ (fn.name == "runtime.NumGoroutine") = false ∧ fn.body = some c := by
  unfold quietVia at h
  split at h
  · cases h
  · rename_i args2 hm
    split at h
    · rename_i v ho
      split at h
      · rename_i v4 hv4
        cases h
        have hp : pickO H (idx · []) [] 0 = some [] := rfl
        have hS2 := hS.sub List.nodup_nil hp
        have hi : (idx · []) = noName := rfl
        rw [← hi] at hm
        have hx2 : RelL (ρ.sub []) (lab.sub []) w args2 xs := hx.toSealed.ren (ren_sub []) hm
        refine ⟨(hO.call _ _ _ _ ho (ρ.sub []) (lab.sub []) w xs trivial hS2 hx2).mono (fun e w' he => ?_), hO.known _ _ _ _ ho⟩
        cases e with
        | returned x =>
          obtain ⟨ρ3, lab3, S3, E3, R3, hv3, c4, hl⟩ := he
          have hR : Ren noName ρ3 ρ3 lab3 lab3 := ⟨fun _ _ _ h => (by cases h), fun _ _ _ _ h => (by cases h), fun _ _ h => h⟩
          have hv5 := Rel.ren hR dep hv4 hv3
          have hR2 : ∀ k i, noName k = some i → backName [] 0 k = some i := fun _ _ h => (by cases h)
          have hv6 : renV (backName [] 0) dep v = some v4 := renV_some hR2 dep hv4
          exact merge_ok (k := 0) hS List.nodup_nil (fun i j hj => by simp at hj) (Nat.zero_le 0) (.refl _) S3 E3 R3 c4 hl hv3 hv6 rfl rfl
        | panicked ch => exact he.elim
        | outgrown => exact he.elim
      · cases h
    · cases h

theorem callVia_ok (hO : CallOk P orc) (hS : Sim ρ lab H w) {k g : Nat} {args : List V} {xs : List Value} {r : OpR} (hx : RelL ρ lab w args xs) (h : callVia env orc k g args H = some r) :
    Calls P g xs.toArray w (ViaPost ρ lab w r) ∧ ∃ fn c, P.funcs[g]? = some fn ∧ (fn.name == "runtime.NumGoroutine") = false ∧ fn.body = some c := by
  unfold callVia at h
  split at h
  · exact quietVia_ok hO hS hx h
  simp only at h
  have hx1 : RelL ρ lab w (sealArgs (env.argTags g) args) xs := by
    unfold sealArgs
    split
    · exact hx
    · exact hx.toSealed
  generalize sealArgs (env.argTags g) args = args1 at h hx1
  generalize hns : reach H 99 (args1.flatMap (namesV dep)) [] = ns at h
  have hn : ns.Nodup := by rw [← hns]; exact reach_nodup _ _ _ _ List.nodup_nil
  split at h
  · rename_i args2 H2 hm hp
    obtain ⟨c1, c2, c3⟩ := pickO_ok hp
    have hS2 := hS.sub hn hp
    have hx2 : RelL (ρ.sub ns) (lab.sub ns) w args2 xs := hx1.ren (ren_sub ns) hm
    have hk2 : ns.length ≤ (tagArgs (env.argTags g) args2 ns.length).2 := by
      unfold tagArgs
      split
      · exact tagNil_mono _ _
      · exact Nat.le_refl _
    have htg : ∀ ρn : Rho, (ρ.sub ns).le ρn → (∀ j, ns.length ≤ j → j < (tagArgs (env.argTags g) args2 ns.length).2 → ρn.hd j 0 = some (none, 0)) →
        RelL ρn (lab.sub ns) w (tagArgs (env.argTags g) args2 ns.length).1 xs := by
      intro ρn hle hh
      unfold tagArgs at hh ⊢
      split at hh
      · exact tagNil_ok hle _ _ _ hh hx2
      · exact hx2.up hle
    generalize tagArgs (env.argTags g) args2 ns.length = aa at h hk2 htg
    have hmr := tagRows_mono H2 aa.2
    obtain ⟨ρn, k1, _, k3, k4, k5, k6⟩ := hS2.nils c1 (G := []) (k2 := aa.2) trivial (fun j o h => by cases h) (by rw [List.length_nil, c2]; exact hk2)
    simp only [List.length_nil, Nat.add_zero, List.append_nil, c2] at k3 k4 k5 k6
    generalize hHc : (tagRows H2 aa.2).1 ++ tips ns.length ((tagRows H2 aa.2).2 - ns.length) = Hc at h k4 k5 k6
    have hx3 := htg ρn k1 (fun j h1 h2 => k3 j h1 (by omega))
    have hpick : ∀ i j : Nat, ns[i]? = some j → hget j H ≠ none := fun i j hj => by
      obtain ⟨o, o', g1, _⟩ := c3 i j hj
      rw [g1]; simp
    split at h
    · rename_i v H3 ho
      split at h
      · rename_i v4 H4 hv4 hm4
        split at h
        · rename_i hf
          cases h
          refine ⟨(hO.call _ _ _ _ ho ρn (lab.sub ns) w xs k5 k4 hx3).mono (fun e w' he => ?_), hO.known _ _ _ _ ho⟩
          cases e with
          | returned x =>
            obtain ⟨ρ3, lab3, S3, E3, R3, hv3, c4, hl⟩ := he
            exact merge_ok hS hn hpick k6 k1 S3 E3 R3 c4 hl hv3 hv4 hm4 hf
          | panicked ch => exact he.elim
          | outgrown => exact he.elim
        · cases h
      · cases h
    · rename_i v H3 ho
      split at h
      · rename_i v4 H4 hv4 hm4
        split at h
        · rename_i hf
          cases h
          refine ⟨(hO.call _ _ _ _ ho ρn (lab.sub ns) w xs k5 k4 hx3).mono (fun e w' he => ?_), hO.known _ _ _ _ ho⟩
          cases e with
          | returned x => exact he.elim
          | panicked ch =>
            obtain ⟨x, hch, ρ3, lab3, S3, E3, R3, hv3, c4, hl⟩ := he
            exact ⟨x, hch, merge_ok hS hn hpick k6 k1 S3 E3 R3 c4 hl hv3 hv4 hm4 hf⟩
          | outgrown => exact he.elim
        · cases h
      · cases h
    · cases h
  · cases h

theorem run_enter {f : FuncId} {fn : Func} {c : Code} (hf : P.funcs[f]? = some fn) (hname : (fn.name == "runtime.NumGoroutine") = false) (hb : fn.body = some c) (args : Array Value) (w : World) :
    (callFunc f args).run P w = .ok (.enter f args) w := by
  have h1 : fn.name ≠ "runtime.NumGoroutine" := by simpa using hname
  simp [callFunc, hf, h1, hb]

/-- what a piece of code leaves -/
def Post (nr n : Nat) (ρ : Rho) (lab : Lab) (w : World) (r : Res) (e : Exit) (a : Act) (w' : World) : Prop :=
  ∃ ρ' lab', Sim ρ' lab' r.2.2 w' ∧ Ext lab w lab' w' ∧ Roots nr ρ ρ' ∧ a.defers = [] ∧
    match r.1, e with
    | .normal, .normal => FOk ρ' lab' w' r.2.1 a n
    | .ret, .ret => FOk ρ' lab' w' r.2.1 a n
    | .exit i, .exit j => i = j ∧ FOk ρ' lab' w' r.2.1 a n
    | .panic v, .panic ch => ∃ x, ch = [{ v := x, recovered := false }] ∧ Rel ρ' lab' w' v x
    | _, _ => False

theorem Post.trans {lab' : Lab} {w' w'' : World} {r : Res} {e : Exit} (E : Ext lab w lab' w') (R : Roots nr ρ ρ') (h : Post nr n ρ' lab' w' r e a w'') : Post nr n ρ lab w r e a w'' := by
  obtain ⟨ρ2, lab2, h1, h2, h3, h4⟩ := h
  exact ⟨ρ2, lab2, h1, E.trans h2, R.trans h3 (Nat.le_refl _), h4⟩

theorem call_run (hO : CallOk env.P orc) (hS : Sim ρ lab H w) (hF : FrRel ρ lab w fr a.tmps) {o : Oper} {r : OpR} (hc : isCallV o.op = true) (h : opEff env orc fr H o = some r) :
    ∃ g args, (execOp a.eval o).run env.P w = .ok (.enter g args) w ∧ Calls env.P g args w (ViaPost ρ lab w r) := by
  obtain ⟨dst, op, type, pos, after, guard⟩ := o
  unfold opEff at h
  simp only at h hc
  split at h <;> try (cases hc; done)
  · rename_i f args at_
    split at h
    · rename_i g first captured l hf hl
      have hb := ev_ok hF hf
      generalize hcv : a.eval f = cv at hb
      cases hb with
      | func _ _ _ xs ys h1 h2 h3 h4 =>
      have hl' := evL_ok hF hl
      have hr : RelL ρ lab w (first ++ l ++ captured) (xs ++ args.toList.map a.eval ++ ys) := RelL.append (RelL.append ⟨h1, h3⟩ hl') ⟨h2, h4⟩
      obtain ⟨k1, fn, c, k2, k3, k4⟩ := callVia_ok hO hS hr h
      refine ⟨g, _, ?_, k1⟩
      simp only [execOp, resolve, hcv, Deferred.ofValue, Sem.run_bind, Sem.run_pure, Result.andThen_ok, invoke]
      rw [run_enter k2 k3 k4]
      congr 2
      simp
    · cases h
  · cases h

theorem Oper.wp_ok {o : Oper} {next : Act → World → Prop} {Q : Exit → Act → World → Prop} {x : Next} {w' : World} (h : (execOp a.eval o).run P w = .ok x w') (hq : o.upon P a next Q (.ok x w')) : o.wp P a w next Q := by
  unfold Oper.wp; rw [h]; exact hq

/-- operations one after another -/
theorem ops_ok (hT : TOk env.P env.T) (hO : CallOk env.P orc) {ops : Array Oper} {Q : Exit → Act → World → Prop} (hdst : ∀ (i : Nat) (o : Oper) (d : Nat), ops[i]? = some o → o.dst = some d → d < n) :
    ∀ (l : List Nat) (ρ : Rho) (lab : Lab) (w : World) (H : Hp) (fr : Fr) (a : Act) (r : Res), evalOps env orc ops (l.filterMap (ops[·]?)) fr H = some r → Sim ρ lab H w → FOk ρ lab w fr a n →
      (∀ e a' w', Post nr n ρ lab w r e a' w' → Q e a' w') → wpOps env.P ops Q l a w
  | [], ρ, lab, w, H, fr, a, r, h, hS, hF, hQ => by
    simp only [List.filterMap_nil, evalOps] at h; cases h
    exact hQ _ _ _ ⟨ρ, lab, hS, .refl _ _, Roots.of_le (.refl _) _, hF.defers, hF⟩
  | i :: l, ρ, lab, w, H, fr, a, r, h, hS, hF, hQ => by
    unfold wpOps
    cases ho : ops[i]? with
    | none =>
      simp only [List.filterMap_cons, ho] at h
      exact ops_ok hT hO hdst l ρ lab w H fr a r h hS hF hQ
    | some o =>
      simp only [List.filterMap_cons, ho, evalOps] at h
      have hd := fun d => hdst i o d ho
      simp only
      cases hw : wantedV ops o fr with
      | none => rw [hw] at h; cases h
      | some b =>
        have hw2 := wanted_ok hF hw
        rw [hw] at h
        rw [hw2]
        cases b with
        | false =>
          simp only [Bool.false_eq_true, if_false] at h ⊢
          exact ops_ok hT hO hdst l ρ lab w H _ _ r h hS (hF.put hd (.tuple [] [] rfl (by simp))) hQ
        | true =>
          simp only [if_true] at h ⊢
          refine .inl ?_
          unfold opStep at h
          cases hp : isPure o.op with
          | true =>
            rw [hp] at h
            simp only at h
            cases hv : vPure env.T fr o.op with
            | none => rw [hv] at h; cases h
            | some v =>
              rw [hv] at h
              simp only at h
              obtain ⟨x, w1, h1, h2, h3⟩ := pure_ok hT hS.ldom hF.rel hv
              refine Oper.wp_ok h1 ?_
              have E := h2.ext lab
              refine ops_ok hT hO hdst l ρ lab w1 H _ _ r h (hS.grew h2) ((hF.ext E (.refl _)).put hd h3) (fun e a' w' hq => hQ e a' w' (hq.trans E (Roots.of_le (.refl _) _)))
          | false =>
            rw [hp] at h
            simp only at h
            cases hv : opEff env orc fr H o with
            | none => rw [hv] at h; cases h
            | some res =>
              rw [hv] at h
              cases hcv : isCallV o.op with
              | false =>
                cases res with
                | val v H1 =>
                  simp only at h
                  obtain ⟨nx, x, w1, ρ1, lab1, h1, h2, h3, h4, h5, h6⟩ := eff_run hT hS hF.rel hcv hv
                  have key : wpOps env.P ops Q l (a.put o.dst x) w1 :=
                    ops_ok hT hO hdst l ρ1 lab1 w1 H1 _ _ r h h3 ((hF.ext h4 h5).put hd h6) (fun e a' w' hq => hQ e a' w' (hq.trans h4 (Roots.of_le h5 _)))
                  refine Oper.wp_ok h1 ?_
                  rcases h2 with rfl | ⟨rfl, rfl⟩
                  · exact key
                  · exact key
                | pan v H1 =>
                  simp only at h
                  cases h
                  obtain ⟨x, h1, rfl, h2⟩ := panic_run hF.rel hcv hv
                  unfold Oper.wp; rw [h1]
                  exact hQ _ _ _ ⟨ρ, lab, hS, .refl _ _, Roots.of_le (.refl _) _, hF.defers, x, rfl, h2⟩
              | true =>
                obtain ⟨g, args, h1, h2⟩ := call_run hO hS hF.rel hcv hv
                refine Oper.wp_ok h1 ?_
                rw [Oper.upon_enter]
                refine h2.mono (fun e w1 he => ?_)
                cases res with
                | val v H1 =>
                  cases e with
                  | returned x =>
                    obtain ⟨ρ1, lab1, h3, h4, h5, h6⟩ := he
                    exact ops_ok hT hO hdst l ρ1 lab1 w1 H1 _ _ r h h3 ((hF.ext h4 h5).put hd h6) (fun e a' w' hq => hQ e a' w' (hq.trans h4 (Roots.of_le h5 _)))
                  | panicked ch => exact he.elim
                  | outgrown => exact he.elim
                | pan v H1 =>
                  simp only at h
                  cases h
                  cases e with
                  | returned x => exact he.elim
                  | panicked ch =>
                    obtain ⟨x, rfl, ρ1, lab1, h3, h4, h5, h6⟩ := he
                    exact hQ _ _ _ ⟨ρ1, lab1, h3, h4, Roots.of_le h5 _, hF.defers, x, rfl, h6⟩
                  | outgrown => exact he.elim
end
end Go.Vm
/- Regions whose order is drawn: every order comes to the same. -/
namespace Go.Vm
set_option linter.unusedSimpArgs false
set_option linter.unusedVariables false
set_option linter.unusedSectionVars false
section
variable {env : Env} {orc : Orc} {fr fr' : Fr} {H : Hp} {T : List (Nat × Ty)} {ops : Array Oper}

def isCalm (env : Env) : Op → Bool
  | .load .. => true
  | .call { callee := .value (.func g), .. } => env.quiet g
  | _ => false
def isLd (o : Oper) : Bool := match ldTmp o with
  | some _ => true
  | none => false
def isAl (o : Oper) : Bool := match o.op with
  | .alloc _ => true
  | _ => false
def commB (env : Env) (ops : Array Oper) (b : Bool) (x y : Oper) : Bool := x.apart ops y && ((isPure x.op || isPure y.op || (isCalm env x.op && isCalm env y.op)) || (b && (isLd x || isLd y || (isAl x && isAl y))))
def reachB (ops : Array Oper) : Nat → Nat → Nat → Bool
  | 0, _, _ => false
  | d + 1, i, j => match ops[i]? with
    | none => false
    | some o => o.after.toList.any fun e => Region.binds .any e && (Nat.beq e.on j || reachB ops d e.on j)
def edgesB (ops : Array Oper) : Bool := (List.range ops.size).all fun i => match ops[i]? with
  | none => true
  | some o => o.after.toList.all fun e => !Region.binds .any e || Nat.blt e.on i
def pairsB (env : Env) (ops : Array Oper) (b : Bool) : Bool := (List.range ops.size).all fun i => (List.range i).all fun j => match ops[j]?, ops[i]? with
  | some x, some y => commB env ops b x y || reachB ops 8 i j
  | _, _ => true
/-- no operation writes the address of a load that lies before it, or its own -/
def safeB : List Oper → Bool
  | [] => true
  | o :: r => (match ldTmp o with
    | some t => (o :: r).all fun z => match z.dst with | some d => !Nat.beq d t | none => true
    | none => true) && safeB r
def drawB (env : Env) (ops : Array Oper) (b : Bool) : Bool := edgesB ops && pairsB env ops b && (!b || safeB ops.toList)

def FrEq (a b : Fr) : Prop := ∀ t, look t a = look t b
theorem FrEq.refl (a : Fr) : FrEq a a := fun _ => rfl
theorem FrEq.trans {a b c : Fr} (h : FrEq a b) (g : FrEq b c) : FrEq a c := fun t => (h t).trans (g t)

theorem look_put (d : Option Nat) (v : V) (fr : Fr) (t : Nat) : look t (putO d v fr) = if d = some t then v else look t fr := by
  cases d with
  | none => simp [putO]
  | some d => simp only [putO, look_cons, Option.some.injEq]

theorem mapO_congr {α β : Type} {f g : α → Option β} : ∀ {l : List α}, (∀ a ∈ l, f a = g a) → mapO f l = mapO g l
  | [], _ => rfl
  | a :: t, h => by simp only [mapO]; rw [h a (List.mem_cons_self ..), mapO_congr (fun b hb => h b (List.mem_cons_of_mem _ hb))]

theorem evP_congr {l : List (Nat × Operand)} (h : ∀ x ∈ l.map (·.2), ev fr x = ev fr' x) : evP fr l = evP fr' l := by
  unfold evP
  exact mapO_congr fun p hp => by rw [h p.2 (List.mem_map_of_mem hp)]

theorem evX_congr {o : Option Operand} (h : ∀ x ∈ o.toList, ev fr x = ev fr' x) : evX fr o = evX fr' o := by
  cases o with
  | none => rfl
  | some x => simp only [evX]; rw [h x (by simp)]

theorem vPure_congr {op : Op} (h : ∀ x ∈ op.operands.toList, ev fr x = ev fr' x) : vPure T fr op = vPure T fr' op := by
  cases op with
  | build t ps => simp only [vPure]; rw [evP_congr (fr := fr) (fr' := fr') fun x hx => h x (by simpa [Op.operands] using hx)]
  | buildSlice t n ps => simp only [vPure]; rw [evP_congr (fr := fr) (fr' := fr') fun x hx => h x (by simpa [Op.operands] using hx)]
  | makeFunc fn a b =>
    simp only [vPure, evL]
    rw [mapO_congr (f := ev fr) (g := ev fr') fun x hx => h x (by simp only [Op.operands, Array.toList_append, List.mem_append]; exact .inl hx),
      mapO_congr (f := ev fr) (g := ev fr') fun x hx => h x (by simp only [Op.operands, Array.toList_append, List.mem_append]; exact .inr hx)]
  | slice t x lo hi mx =>
    simp only [vPure]
    rw [h x (by simp [Op.operands]), evX_congr (o := lo) (fr := fr) (fr' := fr') fun y hy => h y (by simp [Op.operands]; simp at hy; simp [hy]),
      evX_congr (o := hi) (fr := fr) (fr' := fr') fun y hy => h y (by simp [Op.operands]; simp at hy; simp [hy]),
      evX_congr (o := mx) (fr := fr) (fr' := fr') fun y hy => h y (by simp [Op.operands]; simp at hy; simp [hy])]
  | call c =>
    obtain ⟨callee, args, argTypes⟩ := c
    cases callee with
    | builtin b =>
      have h' : ∀ x ∈ args.toList, ev fr x = ev fr' x := fun x hx => h x (by simpa [Op.operands, Call.operands] using hx)
      generalize hl : args.toList = l at h'
      cases b <;> simp only [vPure, hl] <;> first
        | rfl
        | (cases l with
           | nil => rfl
           | cons a r =>
             cases r with
             | nil =>
               have ha := h' a (by simp)
               generalize argTypes.toList = u
               cases u <;> first | rfl | simp only [ha]
             | cons b r =>
               cases r with
               | nil => first | rfl | simp only [h' a (by simp), h' b (by simp)]
               | cons c r => rfl)
    | _ => rfl
  | _ =>
    simp only [Op.operands] at h
    simp only [vPure] <;> first
      | rfl
      | (simp at h; simp only [h])

theorem opEff_congr {o : Oper} (h : ∀ x ∈ o.op.operands.toList, ev fr x = ev fr' x) : opEff env orc fr H o = opEff env orc fr' H o := by
  obtain ⟨dst, op, type, pos, after, guard⟩ := o
  cases op with
  | call c =>
    obtain ⟨callee, args, argTypes⟩ := c
    cases callee with
    | builtin b =>
      have h' : ∀ x ∈ args.toList, ev fr x = ev fr' x := fun x hx => h x (by simpa [Op.operands, Call.operands] using hx)
      generalize hl : args.toList = l at h'
      cases b <;> simp only [opEff, hl] <;> first
        | rfl
        | (cases l with
           | nil => rfl
           | cons a r =>
             cases r with
             | nil => rfl
             | cons b r =>
               cases r with
               | nil =>
                 have ha := h' a (by simp)
                 have hb := h' b (by simp)
                 generalize argTypes.toList = u
                 rcases u with _ | ⟨t, _ | ⟨u2, _ | _⟩⟩ <;> first | rfl | (simp only [ha, hb]; done) | (simp only [ha, hb]; rfl)
               | cons c r => rfl)
    | value f =>
      simp only [opEff, evL]
      rw [h f (by simp [Op.operands, Call.operands]), mapO_congr (f := ev fr) (g := ev fr') fun x hx => h x (by simp [Op.operands, Call.operands]; exact .inr (by simpa using hx))]
    | invoke r m => rfl
  | _ =>
    simp only [Op.operands] at h
    simp only [opEff, newName] <;> first
      | rfl
      | (simp at h; simp only [h]; done)
      | (simp at h; simp only [h]; rfl)

/-- the value of an operation, and the heap after it -/
def opV (env : Env) (orc : Orc) (ops : Array Oper) (o : Oper) (fr : Fr) (H : Hp) : Option (V × Hp) :=
  match wantedV ops o fr with
  | none => none
  | some false => some (.tuple [], H)
  | some true => match opStep env orc fr H o with
    | some (.val v H) => some (v, H)
    | _ => none

theorem evalOps_normal {o : Oper} {r : List Oper} {f1 : Fr} {H1 : Hp} : evalOps env orc ops (o :: r) fr H = some (.normal, f1, H1) ↔ ∃ v H', opV env orc ops o fr H = some (v, H') ∧ evalOps env orc ops r (putO o.dst v fr) H' = some (.normal, f1, H1) := by
  simp only [evalOps, opV]
  cases wantedV ops o fr with
  | none => simp
  | some b =>
    have key : ∀ (v : V) (K : Hp), (evalOps env orc ops r (putO o.dst v fr) K = some (.normal, f1, H1)) ↔ ∃ v' H', some (v, K) = some (v', H') ∧ evalOps env orc ops r (putO o.dst v' fr) H' = some (.normal, f1, H1) :=
      fun v K => ⟨fun h => ⟨v, K, rfl, h⟩, fun ⟨v', H', h1, h2⟩ => by cases h1; exact h2⟩
    cases b with
    | false => exact key _ _
    | true =>
      simp only
      cases opStep env orc fr H o with
      | none => simp
      | some x =>
        cases x with
        | val v H' => exact key _ _
        | pan v H' => simp

theorem opV_congr {o : Oper} (h : ∀ t ∈ o.looksAt ops, look t fr = look t fr') : opV env orc ops o fr H = opV env orc ops o fr' H := by
  have hop : ∀ x ∈ o.op.operands.toList, ev fr x = ev fr' x := by
    intro x hx
    cases x with
    | tmp t => simp only [ev]; rw [h t (List.mem_append_left _ (List.mem_filterMap.2 ⟨.tmp t, hx, rfl⟩))]
    | _ => rfl
  have hw : wantedV ops o fr = wantedV ops o fr' := by
    unfold wantedV
    cases hg : o.guard with
    | none => rfl
    | some p =>
      obtain ⟨j, want⟩ := p
      simp only [yieldedV]
      cases hd : (ops[j]?).bind (·.dst) with
      | none => rfl
      | some t => simp only; rw [h t (by simp [Oper.looksAt, hg, hd])]
  simp only [opV, hw, opStep, vPure_congr hop, opEff_congr hop]

theorem opV_pure {o : Oper} (hp : isPure o.op = true) {v : V} {H' : Hp} (h : opV env orc ops o fr H = some (v, H')) : H' = H ∧ ∀ H2, opV env orc ops o fr H2 = some (v, H2) := by
  simp only [opV, opStep, hp] at h ⊢
  cases hw : wantedV ops o fr with
  | none => rw [hw] at h; cases h
  | some b =>
    rw [hw] at h
    cases b with
    | false => simp only [Option.some.injEq, Prod.mk.injEq] at h; obtain ⟨rfl, rfl⟩ := h; exact ⟨rfl, fun _ => rfl⟩
    | true =>
      simp only at h ⊢
      cases hv : vPure env.T fr o.op with
      | none => rw [hv] at h; cases h
      | some u => rw [hv] at h; simp only [Option.some.injEq, Prod.mk.injEq] at h; obtain ⟨rfl, rfl⟩ := h; exact ⟨rfl, fun _ => rfl⟩

theorem opEff_calm {o : Oper} (hp : isCalm env o.op = true) {v : V} {H' : Hp} (h : opEff env orc fr H o = some (.val v H')) : H' = H := by
  obtain ⟨dst, op, type, pos, after, guard⟩ := o
  unfold isCalm at hp
  simp only at hp
  split at hp
  · simp only [opEff] at h
    split at h
    · split at h
      · cases h; rfl
      · cases h
    · cases h
  · rename_i g args argTypes
    simp only [opEff, ev] at h
    split at h
    · rename_i g' first captured l hf hl
      simp only [Option.some.injEq, V.func.injEq, Fn.func.injEq] at hf
      obtain ⟨rfl, _, _⟩ := hf
      simp only [callVia, hp, quietVia] at h
      split at h
      · cases h
      · split at h
        · split at h
          · cases h; rfl
          · cases h
        · cases h
    · cases h
  · cases hp

theorem opV_calm {o : Oper} (hp : isCalm env o.op = true) {v : V} {H' : Hp} (h : opV env orc ops o fr H = some (v, H')) : H' = H := by
  simp only [opV, opStep] at h
  cases hw : wantedV ops o fr with
  | none => rw [hw] at h; cases h
  | some b =>
    rw [hw] at h
    cases b with
    | false => simp only [Option.some.injEq, Prod.mk.injEq] at h; exact h.2.symm
    | true =>
      simp only at h
      cases hq : isPure o.op with
      | true =>
        rw [hq] at h
        simp only at h
        cases hv : vPure env.T fr o.op with
        | none => rw [hv] at h; cases h
        | some u => rw [hv] at h; simp only [Option.some.injEq, Prod.mk.injEq] at h; exact h.2.symm
      | false =>
        rw [hq] at h
        simp only at h
        cases hv : opEff env orc fr H o with
        | none => rw [hv] at h; cases h
        | some u =>
          cases u with
          | val u H2 => rw [hv] at h; simp only [Option.some.injEq, Prod.mk.injEq] at h; obtain ⟨rfl, rfl⟩ := h; exact opEff_calm hp hv
          | pan u H2 => rw [hv] at h; cases h

theorem evalOps_congr : ∀ {l : List Oper} {fr fr' : Fr} {H : Hp} {f1 : Fr} {H1 : Hp}, FrEq fr fr' → evalOps env orc ops l fr H = some (.normal, f1, H1) → ∃ f2, evalOps env orc ops l fr' H = some (.normal, f2, H1) ∧ FrEq f1 f2
  | [], fr, fr', H, f1, H1, e, h => by simp only [evalOps, Option.some.injEq, Prod.mk.injEq, true_and] at h ⊢; obtain ⟨rfl, rfl⟩ := h; exact ⟨fr', ⟨rfl, rfl⟩, e⟩
  | o :: r, fr, fr', H, f1, H1, e, h => by
    obtain ⟨v, H', h1, h2⟩ := evalOps_normal.1 h
    rw [opV_congr (fr' := fr') fun t _ => e t] at h1
    obtain ⟨f2, h3, h4⟩ := evalOps_congr (fr' := putO o.dst v fr') (fun t => by rw [look_put, look_put, e t]) h2
    exact ⟨f2, evalOps_normal.2 ⟨v, H', h1, h3⟩, h4⟩

/-- an operation that does not look at the heap -/
def HFree (env : Env) (orc : Orc) (ops : Array Oper) (o : Oper) (fr : Fr) : Prop := ∀ (v : V) (H H' : Hp), opV env orc ops o fr H = some (v, H') → H' = H ∧ ∀ H2, opV env orc ops o fr H2 = some (v, H2)
theorem load_free {o : Oper} {t : Nat} (hl : ldTmp o = some t) (ha : isCptr (look t fr) = true) : HFree env orc ops o fr := by
  have ho : ∃ ty, o.op = .load ty (.tmp t) := by
    unfold ldTmp at hl
    split at hl
    · rename_i ty t' he; cases hl; exact ⟨ty, he⟩
    · cases hl
  obtain ⟨ty, ho⟩ := ho
  obtain ⟨cs, hcs⟩ : ∃ cs, look t fr = .cptr cs := by
    cases hv : look t fr <;> rw [hv] at ha <;> first | cases ha; done | exact ⟨_, rfl⟩
  intro v H H' h
  simp only [opV] at h ⊢
  cases hw : wantedV ops o fr with
  | none => rw [hw] at h; cases h
  | some w =>
    rw [hw] at h
    cases w with
    | false => simp only [Option.some.injEq, Prod.mk.injEq] at h; obtain ⟨rfl, rfl⟩ := h; exact ⟨rfl, fun _ => rfl⟩
    | true =>
      have hp : isPure o.op = false := by rw [ho]; rfl
      have he : ∀ K, opStep env orc fr K o = match vLoad env.T ty (.cptr cs) [] with | some v => some (.val v K) | none => none := by
        intro K
        simp only [opStep, hp]
        unfold opEff
        rw [ho]
        simp only [ev, hcs]
        have hK : vLoad env.T ty (.cptr cs) K = vLoad env.T ty (.cptr cs) [] := by unfold vLoad; cases tyOf ty env.T <;> rfl
        rw [hK]
        cases vLoad env.T ty (.cptr cs) [] <;> rfl
      simp only [he] at h ⊢
      cases hq : vLoad env.T ty (.cptr cs) [] with
      | none => rw [hq] at h; cases h
      | some u => rw [hq] at h; simp only [Option.some.injEq, Prod.mk.injEq] at h; obtain ⟨rfl, rfl⟩ := h; exact ⟨rfl, fun _ => rfl⟩
theorem nbeq {a c : Nat} (h : a ≠ c) : Nat.beq a c = false := by
  cases hb : Nat.beq a c with
  | false => rfl
  | true => exact absurd (Nat.eq_of_beq_eq_true hb) h
theorem hset_comm {j k : Nat} {o p : Obj} (h : j ≠ k) : ∀ H : Hp, hset j o (hset k p H) = hset k p (hset j o H)
  | [] => by
    have h1 : Nat.beq j k = false := nbeq h
    have h2 : Nat.beq k j = false := nbeq (Ne.symm h)
    simp only [hset, h1, h2]
    rcases Nat.lt_or_ge j k with h3 | h3
    · rw [Nat.ble_eq_true_of_le (by omega : j ≤ k), show Nat.ble k j = false by rw [← Bool.not_eq_true, Nat.ble_eq]; omega]
    · rw [Nat.ble_eq_true_of_le (by omega : k ≤ j), show Nat.ble j k = false by rw [← Bool.not_eq_true, Nat.ble_eq]; omega]
  | (s, x) :: r => by
    have ih := hset_comm (o := o) (p := p) h r
    have b1 : ∀ {a c : Nat}, a ≠ c → Nat.beq a c = false := fun h => nbeq h
    have b2 : ∀ {a c : Nat}, ¬ a ≤ c → Nat.ble a c = false := fun h => by rw [← Bool.not_eq_true, Nat.ble_eq]; exact h
    by_cases hj : s = j
    · subst hj
      by_cases hk : Nat.ble k s = true
      · simp [hset, b1 h, b1 (Ne.symm h), hk, b2 (show ¬ s ≤ k by have := Nat.le_of_ble_eq_true hk; omega)]
      · simp only [Bool.not_eq_true] at hk
        simp [hset, b1 h, hk]
    · by_cases hk : s = k
      · subst hk
        by_cases hj2 : Nat.ble j s = true
        · simp [hset, b1 h, b1 (Ne.symm h), b1 hj, hj2, b2 (show ¬ s ≤ j by have := Nat.le_of_ble_eq_true hj2; omega)]
        · simp only [Bool.not_eq_true] at hj2
          simp [hset, b1 hj, hj2]
      · by_cases h1 : Nat.ble j s = true
        · by_cases h2 : Nat.ble k s = true
          · rcases Nat.lt_or_ge j k with h3 | h3
            · simp [hset, b1 hj, b1 hk, h1, h2, b1 h, b1 (Ne.symm h), b2 (show ¬ k ≤ j by omega), Nat.ble_eq_true_of_le (show j ≤ k by omega)]
            · simp [hset, b1 hj, b1 hk, h1, h2, b1 h, b1 (Ne.symm h), b2 (show ¬ j ≤ k by omega), Nat.ble_eq_true_of_le (show k ≤ j by omega)]
          · simp only [Bool.not_eq_true] at h2
            have h3 : ¬ k ≤ j := by
              intro h4
              have h5 := Nat.le_of_ble_eq_true h1
              rw [Nat.ble_eq_true_of_le (by omega)] at h2; cases h2
            simp [hset, b1 hj, b1 hk, h1, h2, b1 h, b2 h3]
        · simp only [Bool.not_eq_true] at h1
          by_cases h2 : Nat.ble k s = true
          · have h3 : ¬ j ≤ k := by
              intro h4
              have h5 := Nat.le_of_ble_eq_true h2
              rw [Nat.ble_eq_true_of_le (by omega)] at h1; cases h1
            simp [hset, b1 hj, b1 hk, h1, h2, b1 (Ne.symm h), b2 h3]
          · simp only [Bool.not_eq_true] at h2
            simp [hset, b1 hj, b1 hk, h1, h2, ih]
theorem opV_alloc {o : Oper} {t : Nat} (ho : o.op = .alloc t) {v : V} {H' : Hp} (h : opV env orc ops o fr H = some (v, H')) :
    (H' = H ∧ ∀ K, opV env orc ops o fr K = some (v, K)) ∨ ∃ x, hget (newName o) H = none ∧ H' = hset (newName o) x H ∧ ∀ K, hget (newName o) K = none → opV env orc ops o fr K = some (v, hset (newName o) x K) := by
  have hp : isPure o.op = false := by rw [ho]; rfl
  simp only [opV, opStep, hp] at h ⊢
  cases hw : wantedV ops o fr with
  | none => rw [hw] at h; cases h
  | some w =>
    rw [hw] at h
    cases w with
    | false => simp only [Option.some.injEq, Prod.mk.injEq] at h; obtain ⟨rfl, rfl⟩ := h; exact .inl ⟨rfl, fun _ => rfl⟩
    | true =>
      have he : ∀ K, opEff env orc fr K o = match tyOf t env.T, hget (newName o) K with | some y, none => some (.val (.ptr (newName o) 0) (hset (newName o) (.row y.zero) K)) | _, _ => none := by
        intro K
        unfold opEff
        rw [ho]
        simp only []
        cases tyOf t env.T <;> cases hget (newName o) K <;> rfl
      simp only [he] at h ⊢
      cases ht : tyOf t env.T with
      | none => rw [ht] at h; cases h
      | some y =>
        rw [ht] at h
        cases hg : hget (newName o) H with
        | some z => rw [hg] at h; cases h
        | none =>
          rw [hg] at h
          simp only [Option.some.injEq, Prod.mk.injEq] at h
          obtain ⟨rfl, rfl⟩ := h
          refine .inr ⟨_, rfl, rfl, fun K hK => ?_⟩
          rw [hK]
theorem al_op {o : Oper} (h : isAl o = true) : ∃ t, o.op = .alloc t := by
  unfold isAl at h
  split at h
  · rename_i t he; exact ⟨t, he⟩
  · cases h
theorem swap_ok {b : Bool} {x y : Oper} {l : List Oper} {f1 : Fr} {H1 : Hp} (hc : commB env ops b x y = true) (hx : b = true → isLd x = true → HFree env orc ops x fr) (hy : b = true → isLd y = true → HFree env orc ops y fr)
    (h : evalOps env orc ops (x :: y :: l) fr H = some (.normal, f1, H1)) :
    ∃ f2, evalOps env orc ops (y :: x :: l) fr H = some (.normal, f2, H1) ∧ FrEq f1 f2 := by
  simp only [commB, Bool.and_eq_true] at hc
  obtain ⟨ha, hc⟩ := hc
  obtain ⟨a1, a2, a3⟩ := Oper.apart_spec ha
  obtain ⟨vx, Hx, h1, h2⟩ := evalOps_normal.1 h
  obtain ⟨vy, Hy, h3, h4⟩ := evalOps_normal.1 h2
  have e1 : opV env orc ops y (putO x.dst vx fr) Hx = opV env orc ops y fr Hx := opV_congr fun t ht => by
    rw [look_put, if_neg]; exact fun hd => a1 t hd ht
  have e2 : ∀ K, opV env orc ops x (putO y.dst vy fr) K = opV env orc ops x fr K := fun K => opV_congr fun t ht => by
    rw [look_put, if_neg]; exact fun hd => a3 t hd ht
  rw [e1] at h3
  have e3 : FrEq (putO y.dst vy (putO x.dst vx fr)) (putO x.dst vx (putO y.dst vy fr)) := fun t => by
    simp only [look_put]
    by_cases hx : x.dst = some t
    · rw [if_pos hx, if_neg (a2 t hx), if_pos hx]
    · rw [if_neg hx]
      by_cases hy : y.dst = some t
      · rw [if_pos hy, if_neg hx]
      · rw [if_neg hy, if_neg hx]
  have fin : ∀ K, opV env orc ops y fr H = some (vy, K) → opV env orc ops x fr K = some (vx, Hy) → ∃ f2, evalOps env orc ops (y :: x :: l) fr H = some (.normal, f2, H1) ∧ FrEq f1 f2 := by
    intro K k1 k2
    obtain ⟨f2, g1, g2⟩ := evalOps_congr e3 h4
    exact ⟨f2, evalOps_normal.2 ⟨vy, K, k1, evalOps_normal.2 ⟨vx, Hy, (e2 K).trans k2, g1⟩⟩, g2⟩
  simp only [Bool.or_eq_true, Bool.and_eq_true] at hc
  rcases hc with ((hc | hc) | ⟨hc, hc'⟩) | ⟨hb, (hc | hc) | ⟨hc, hc'⟩⟩
  · obtain ⟨rfl, g⟩ := opV_pure hc h1
    exact fin Hy h3 (g Hy)
  · obtain ⟨rfl, g⟩ := opV_pure hc h3
    exact fin H (g H) h1
  · have := opV_calm hc h1
    subst this
    have := opV_calm hc' h3
    subst this
    exact fin _ h3 h1
  · obtain ⟨rfl, g⟩ := hx hb hc _ _ _ h1
    exact fin Hy h3 (g Hy)
  · obtain ⟨rfl, g⟩ := hy hb hc _ _ _ h3
    exact fin H (g H) h1
  · obtain ⟨t1, ho1⟩ := al_op hc
    obtain ⟨t2, ho2⟩ := al_op hc'
    rcases opV_alloc ho1 h1 with ⟨rfl, g1⟩ | ⟨o1, g1, rfl, g2⟩
    · exact fin Hy h3 (g1 Hy)
    · rcases opV_alloc ho2 h3 with ⟨rfl, g3⟩ | ⟨o2, g3, rfl, g4⟩
      · exact fin H (g3 H) h1
      · rw [hget_hset] at g3
        split at g3
        · cases g3
        · rename_i hne
          refine fin _ (g4 H g3) ?_
          rw [hset_comm hne]
          exact g2 _ (by rw [hget_hset, if_neg (Ne.symm hne)]; exact g1)

/-- loads whose addresses stay as they are, and do not lead to the heap -/
def LdSafe (f1 : Fr) : List Oper → Prop
  | [] => True
  | o :: r => (∀ t, ldTmp o = some t → isCptr (look t f1) = true ∧ ∀ z ∈ o :: r, z.dst ≠ some t) ∧ LdSafe f1 r
theorem LdSafe.sub {f1 : Fr} {l l' : List Oper} (h : List.Sublist l' l) : LdSafe f1 l → LdSafe f1 l' := by
  induction h with
  | slnil => exact fun h => h
  | cons a _ ih => exact fun h => ih h.2
  | cons_cons a hs ih => exact fun h => ⟨fun t ht => ⟨(h.1 t ht).1, fun z hz => (h.1 t ht).2 z (by
      rcases List.mem_cons.1 hz with rfl | hz
      · exact List.mem_cons_self ..
      · exact List.mem_cons_of_mem _ (hs.subset hz))⟩, ih h.2⟩
theorem LdSafe.congr {f1 f2 : Fr} (e : FrEq f1 f2) : ∀ {l : List Oper}, LdSafe f1 l → LdSafe f2 l
  | [], _ => trivial
  | _ :: _, h => ⟨fun t ht => ⟨by rw [← e t]; exact (h.1 t ht).1, (h.1 t ht).2⟩, LdSafe.congr e h.2⟩
theorem LdSafe.mem {f1 : Fr} {y : Oper} {B : List Oper} : ∀ {A : List Oper}, LdSafe f1 (A ++ y :: B) → LdSafe f1 (y :: B)
  | [], h => h
  | _ :: _, h => LdSafe.mem h.2
theorem evalOps_look : ∀ {l : List Oper} {fr f1 : Fr} {H H1 : Hp} {t : Nat}, evalOps env orc ops l fr H = some (.normal, f1, H1) → (∀ z ∈ l, z.dst ≠ some t) → look t f1 = look t fr
  | [], fr, f1, H, H1, t, h, _ => by simp only [evalOps, Option.some.injEq, Prod.mk.injEq, true_and] at h; rw [h.1]
  | o :: l, fr, f1, H, H1, t, h, hz => by
    obtain ⟨v, H', h1, h2⟩ := evalOps_normal.1 h
    rw [evalOps_look h2 (fun z hm => hz z (List.mem_cons_of_mem _ hm)), look_put, if_neg (hz o (List.mem_cons_self ..))]
theorem ld_looks {o : Oper} {t : Nat} (h : ldTmp o = some t) : t ∈ o.looksAt ops := by
  unfold ldTmp at h
  split at h
  · rename_i ty t' he
    cases h
    refine List.mem_append_left _ (List.mem_filterMap.2 ⟨.tmp t, ?_, rfl⟩)
    rw [he]; simp [Op.operands]
  · cases h
theorem isLd_some {o : Oper} (h : isLd o = true) : ∃ t, ldTmp o = some t := by
  unfold isLd at h
  split at h
  · rename_i t he; exact ⟨t, he⟩
  · cases h
theorem bubble_ok {b : Bool} {y : Oper} : ∀ {A B : List Oper} {fr f1 : Fr} {H H1 : Hp}, (∀ x ∈ A, commB env ops b x y = true) → (b = true → LdSafe f1 (A ++ y :: B)) → evalOps env orc ops (A ++ y :: B) fr H = some (.normal, f1, H1) →
    ∃ f2, evalOps env orc ops (y :: (A ++ B)) fr H = some (.normal, f2, H1) ∧ FrEq f1 f2
  | [], B, fr, f1, H, H1, _, _, h => ⟨f1, h, .refl _⟩
  | x :: A, B, fr, f1, H, H1, hc, hS, h => by
    obtain ⟨v, H', h1, h2⟩ := evalOps_normal.1 h
    obtain ⟨f2, h3, h4⟩ := bubble_ok (fun z hz => hc z (List.mem_cons_of_mem _ hz)) (fun hb => (hS hb).2) h2
    have hev : evalOps env orc ops (x :: y :: (A ++ B)) fr H = some (.normal, f2, H1) := evalOps_normal.2 ⟨v, H', h1, h3⟩
    have hmem : ∀ z ∈ x :: y :: (A ++ B), z ∈ x :: (A ++ y :: B) := by
      intro z hz
      simp only [List.mem_cons, List.mem_append] at hz ⊢
      rcases hz with rfl | rfl | hz | hz
      · exact .inl rfl
      · exact .inr (.inr (.inl rfl))
      · exact .inr (.inl hz)
      · exact .inr (.inr (.inr hz))
    obtain ⟨f3, h5, h6⟩ := swap_ok (hc x (List.mem_cons_self ..)) (fun hb hl => by
      obtain ⟨t, ht⟩ := isLd_some hl
      obtain ⟨k1, k2⟩ := (hS hb).1 t ht
      refine load_free ht ?_
      rw [← evalOps_look hev (fun z hz => k2 z (hmem z hz)), ← h4 t]
      exact k1) (fun hb hl => by
      obtain ⟨t, ht⟩ := isLd_some hl
      have hy : LdSafe f1 (y :: B) := LdSafe.mem (A := x :: A) (hS hb)
      obtain ⟨k1, k2⟩ := hy.1 t ht
      refine load_free ht ?_
      rw [← evalOps_look hev (fun z hz => ?_), ← h4 t]
      · exact k1
      · have hno : ∀ u ∈ x :: A, u.dst ≠ some t := by
          intro u hu hd
          have := hc u hu
          simp only [commB, Bool.and_eq_true] at this
          exact (Oper.apart_spec this.1).1 t hd (ld_looks ht)
        simp only [List.mem_cons, List.mem_append] at hz
        rcases hz with rfl | rfl | hz | hz
        · exact hno _ (List.mem_cons_self ..)
        · exact k2 _ (List.mem_cons_self ..)
        · exact hno z (List.mem_cons_of_mem _ hz)
        · exact k2 z (List.mem_cons_of_mem _ hz)) hev
    exact ⟨f3, h5, h4.trans h6⟩
theorem safe_of {f1 : Fr} : ∀ {l : List Oper}, safeB l = true → ((addrTmps l).all fun t => isCptr (look t f1)) = true → LdSafe f1 l
  | [], _, _ => trivial
  | o :: r, h1, h2 => by
    simp only [safeB, Bool.and_eq_true] at h1
    refine ⟨fun t ht => ?_, safe_of h1.2 ?_⟩
    · rw [ht] at h1
      simp only [addrTmps, ht, List.all_cons, Bool.and_eq_true] at h2
      refine ⟨h2.1, fun z hz hd => ?_⟩
      have := List.all_eq_true.1 h1.1 z hz
      rw [hd] at this
      simp at this
    · simp only [addrTmps] at h2
      split at h2
      · simp only [List.all_cons, Bool.and_eq_true] at h2; exact h2.2
      · exact h2
end
end Go.Vm
/- Code, loops, calls: what the evaluator says is so. -/
namespace Go.Vm
set_option linter.unusedSimpArgs false
set_option linter.unusedVariables false
set_option linter.unusedSectionVars false
section
variable {P : Program} {T : List (Nat × Ty)} {ρ ρ' : Rho} {lab : Lab} {w : World} {H : Hp} {fr : Fr} {a : Act} {n nr : Nat} {env : Env} {orc : Orc} {ops : Array Oper}

def rest (ops : Array Oper) (listed : Array Bool) : List Nat := (List.range ops.size).filter fun i => !listed.getD i true
def Closed (ops : Array Oper) (listed : Array Bool) : Prop := ∀ (i : Nat) (o : Oper) (e : Edge), listed.getD i true = true → ops[i]? = some o → e ∈ o.after.toList → Region.binds .any e = true → listed.getD e.on false = true

theorem reach_listed {listed : Array Bool} (hsz : listed.size = ops.size) (hc : Closed ops listed) : ∀ (d i j : Nat), reachB ops d i j = true →
    (∀ (o : Oper) (e : Edge), ops[i]? = some o → e ∈ o.after.toList → Region.binds .any e = true → listed.getD e.on false = true) → listed.getD j false = true
  | 0, _, _, h, _ => by cases h
  | d + 1, i, j, h, hi => by
    simp only [reachB] at h
    cases ho : ops[i]? with
    | none => rw [ho] at h; cases h
    | some o =>
      rw [ho] at h
      simp only [List.any_eq_true, Bool.and_eq_true, Bool.or_eq_true] at h
      obtain ⟨e, he, hb, h⟩ := h
      have hl := hi o e ho he hb
      rcases h with h | h
      · rw [Nat.eq_of_beq_eq_true h] at hl; exact hl
      · refine reach_listed hsz hc d e.on j h (fun o' e' ho' he' hb' => hc e.on o' e' ?_ ho' he' hb')
        simp only [Array.getD_eq_getD_getElem?] at hl ⊢
        cases hq : listed[e.on]? with
        | none => rfl
        | some b => rw [hq] at hl; exact hl

theorem filter_ne {A B : List Nat} {i : Nat} (hn : (A ++ i :: B).Nodup) : (A ++ i :: B).filter (fun k => k != i) = A ++ B := by
  rw [List.nodup_append] at hn
  obtain ⟨h1, h2, h3⟩ := hn
  rw [List.nodup_cons] at h2
  rw [List.filter_append, List.filter_cons]
  simp only [bne_self_eq_false, Bool.false_eq_true, if_false]
  rw [List.filter_eq_self.2 fun x hx => by simp; exact fun e => h3 x hx i (List.mem_cons_self ..) e, List.filter_eq_self.2 fun x hx => by simp; rintro rfl; exact h2.1 hx]

theorem lin_ok {b : Bool} (hE : edgesB ops = true) (hP : pairsB env ops b = true) : ∀ (fuel t : Nat) (listed : Array Bool) (fr : Fr) (H : Hp) (f1 : Fr) (H1 : Hp), listed.size = ops.size → Closed ops listed → (rest ops listed).length ≤ fuel →
    (b = true → LdSafe f1 ((rest ops listed).filterMap (ops[·]?))) →
    evalOps env orc ops ((rest ops listed).filterMap (ops[·]?)) fr H = some (.normal, f1, H1) →
    ∃ f2, evalOps env orc ops ((Region.linearise.go .any ops fuel t listed []).filterMap (ops[·]?)) fr H = some (.normal, f2, H1) ∧ FrEq f1 f2
  | 0, t, listed, fr, H, f1, H1, hsz, hc, hl, hC, h => by
    have : rest ops listed = [] := by simpa using hl
    rw [this] at h
    simp only [Region.linearise.go, List.reverse_nil]
    exact ⟨f1, h, .refl _⟩
  | fuel + 1, t, listed, fr, H, f1, H1, hsz, hc, hl, hC, h => by
    have hnd : (rest ops listed).Nodup := List.Nodup.sublist List.filter_sublist List.nodup_range
    have hpw : (rest ops listed).Pairwise (· < ·) := List.Pairwise.sublist List.filter_sublist List.pairwise_lt_range
    have hmem : ∀ j, j ∈ rest ops listed ↔ j < ops.size ∧ listed.getD j true = false := fun j => by
      simp only [rest, List.mem_filter, List.mem_range, Bool.not_eq_true']
    have hready : ∀ j, j ∈ Region.ready .any ops listed ↔ j ∈ rest ops listed ∧ ∀ o, ops[j]? = some o → ∀ e ∈ o.after.toList, Region.binds .any e = true → listed.getD e.on false = true := by
      intro j
      rw [hmem]
      simp only [Region.ready, List.mem_filter, List.mem_range, Bool.and_eq_true, Bool.not_eq_true', and_assoc]
      refine and_congr_right fun hj => and_congr_right fun _ => ?_
      have ho : ops[j]? = some ops[j] := by simp [hj]
      rw [ho]
      simp only [Option.map_some, Option.getD_some, Array.all_eq_true_iff_forall_mem, Bool.or_eq_true, Bool.not_eq_true', Option.some.injEq]
      constructor
      · rintro h1 o rfl e he hb
        rcases h1 e (by simpa using he) with h2 | h2
        · rw [hb] at h2; cases h2
        · exact h2
      · intro h1 e he
        cases hb : Region.binds .any e with
        | false => exact .inl rfl
        | true => exact .inr (h1 _ rfl e (by simpa using he) hb)
    simp only [Region.linearise.go]
    change ∃ f2, evalOps env orc ops ((match (Region.ready .any ops listed)[t % (Region.ready .any ops listed).length]? with
      | some i => Region.linearise.go .any ops fuel (t / (Region.ready .any ops listed).length) (listed.setIfInBounds i true) [i]
      | none => [].reverse).filterMap (ops[·]?)) fr H = some (.normal, f2, H1) ∧ FrEq f1 f2
    cases hi : (Region.ready .any ops listed)[t % (Region.ready .any ops listed).length]? with
    | none =>
      have hnil : Region.ready .any ops listed = [] := by
        cases hr : Region.ready .any ops listed with
        | nil => rfl
        | cons x xs =>
          rw [hr] at hi
          have hlt : t % (x :: xs).length < (x :: xs).length := Nat.mod_lt _ (by simp)
          simp at hi
          simp at hlt
          omega
      have hr0 : rest ops listed = [] := by
        cases hr : rest ops listed with
        | nil => rfl
        | cons i0 xs =>
          have hin : i0 ∈ rest ops listed := by rw [hr]; exact List.mem_cons_self ..
          have hrd : i0 ∈ Region.ready .any ops listed := by
            refine (hready i0).2 ⟨hin, fun o ho e he hb => ?_⟩
            have hi0 := ((hmem i0).1 hin).1
            have hlt : e.on < i0 := by
              simp only [edgesB, List.all_eq_true, List.mem_range] at hE
              have := hE i0 hi0
              rw [ho] at this
              simp only [List.all_eq_true, Bool.or_eq_true, Bool.not_eq_true'] at this
              rcases this e he with h2 | h2
              · rw [hb] at h2; cases h2
              · simpa [Nat.blt_eq] using h2
            have hon : e.on < ops.size := by omega
            have hno : e.on ∉ rest ops listed := by
              rw [hr] at hpw ⊢
              rw [List.pairwise_cons] at hpw
              simp only [List.mem_cons, not_or]
              exact ⟨by omega, fun h3 => by have := hpw.1 _ h3; omega⟩
            rw [hmem] at hno
            have h4 : listed.getD e.on true = true := by
              cases hq : listed.getD e.on true with
              | true => rfl
              | false => exact absurd ⟨hon, hq⟩ hno
            simp only [Array.getD_eq_getD_getElem?] at h4 ⊢
            rw [Array.getElem?_eq_getElem (by omega)] at h4 ⊢
            exact h4
          rw [hnil] at hrd
          cases hrd
      rw [hr0] at h
      exact ⟨f1, h, .refl _⟩
    | some i =>
      have hir := (hready i).1 (List.mem_of_getElem? hi)
      obtain ⟨hin, hed⟩ := hir
      obtain ⟨hisz, hil⟩ := (hmem i).1 hin
      obtain ⟨A, B, hAB⟩ := List.append_of_mem hin
      have ho : ops[i]? = some ops[i] := by simp [hisz]
      simp only []
      rw [linearise_go_acc, List.reverse_singleton, List.singleton_append, List.filterMap_cons, ho]
      simp only
      rw [hAB, List.filterMap_append, List.filterMap_cons, ho] at h hC
      simp only at h hC
      have hcomm : ∀ x ∈ A.filterMap (ops[·]?), commB env ops b x ops[i] = true := by
        intro x hx
        rw [List.mem_filterMap] at hx
        obtain ⟨j, hj, hjx⟩ := hx
        have hlt : j < i := by
          rw [hAB, List.pairwise_append] at hpw
          exact hpw.2.2 j hj i (List.mem_cons_self ..)
        have hjr : j ∈ rest ops listed := by rw [hAB]; exact List.mem_append_left _ hj
        have hjl := ((hmem j).1 hjr).2
        simp only [pairsB, List.all_eq_true, List.mem_range] at hP
        have := hP i hisz j hlt
        rw [hjx, ho] at this
        simp only [Bool.or_eq_true] at this
        rcases this with h2 | h2
        · exact h2
        · have h3 := reach_listed hsz hc 8 i j h2 (fun o e h4 h5 h6 => hed o h4 e h5 h6)
          simp only [Array.getD_eq_getD_getElem?] at h3 hjl
          have hjs : j < listed.size := by omega
          rw [Array.getElem?_eq_getElem hjs] at h3 hjl
          simp at h3 hjl
          rw [h3] at hjl; cases hjl
      obtain ⟨f2, h5, h6⟩ := bubble_ok hcomm hC h
      obtain ⟨v, H', h7, h8⟩ := evalOps_normal.1 h5
      have hrest' : rest ops (listed.setIfInBounds i true) = A ++ B := by
        rw [← filter_ne (A := A) (B := B) (i := i) (by rw [← hAB]; exact hnd), ← hAB]
        simp only [rest, List.filter_filter]
        refine List.filter_congr fun k hk => ?_
        rw [List.mem_range] at hk
        simp only [Array.getD_eq_getD_getElem?]
        by_cases hki : k = i
        · subst hki
          rw [Array.getElem?_setIfInBounds_self_of_lt (by omega)]
          simp
        · rw [Array.getElem?_setIfInBounds_ne (fun e => hki e.symm)]
          simp [hki]
      rw [← List.filterMap_append, ← hrest'] at h8
      have hc' : Closed ops (listed.setIfInBounds i true) := by
        intro k o e hk ho' he hb
        have hmono : listed.getD e.on false = true → (listed.setIfInBounds i true).getD e.on false = true := by
          intro h9
          simp only [Array.getD_eq_getD_getElem?] at h9 ⊢
          by_cases hki : i = e.on
          · subst hki; rw [Array.getElem?_setIfInBounds_self_of_lt (by omega)]; rfl
          · rw [Array.getElem?_setIfInBounds_ne hki]; exact h9
        refine hmono ?_
        by_cases hki : i = k
        · subst hki; exact hed o ho' e he hb
        · refine hc k o e ?_ ho' he hb
          simp only [Array.getD_eq_getD_getElem?] at hk ⊢
          rw [Array.getElem?_setIfInBounds_ne hki] at hk; exact hk
      have hlen : (rest ops (listed.setIfInBounds i true)).length ≤ fuel := by
        rw [hrest']
        rw [hAB] at hl
        simp only [List.length_append, List.length_cons] at hl ⊢; omega
      obtain ⟨f3, h9, h10⟩ := lin_ok hE hP fuel (t / (Region.ready .any ops listed).length) _ _ _ _ _ (by simp [hsz]) hc' hlen (fun hb => by
        rw [hrest', List.filterMap_append]
        refine ((hC hb).congr h6).sub ?_
        exact List.Sublist.append_left (List.sublist_cons_self _ _) _) h8
      exact ⟨f3, evalOps_normal.2 ⟨v, H', h7, h9⟩, h6.trans h10⟩

theorem filterMap_range' {α : Type} : ∀ (l : List α) (g : Nat → Option α) (k : Nat), (∀ j, g (k + j) = l[j]?) → (List.range' k l.length).filterMap g = l
  | [], g, k, _ => rfl
  | x :: l, g, k, h => by
    have h0 : g k = some x := by simpa using h 0
    rw [List.length_cons, List.range'_succ, List.filterMap_cons, h0]
    simp only
    rw [filterMap_range' l g (k + 1) (fun j => by have := h (j + 1); simpa [Nat.add_assoc, Nat.add_comm 1 j] using this)]

theorem filterMap_ops (ops : Array Oper) : (List.range ops.size).filterMap (ops[·]?) = ops.toList := by
  rw [List.range_eq_range', ← Array.length_toList]
  exact filterMap_range' ops.toList _ 0 (fun j => by simp)

theorem evalOps_ex : ∀ {l : List Oper} {fr : Fr} {H : Hp} {r : Res}, evalOps env orc ops l fr H = some r → r.1 = .normal ∨ ∃ v, r.1 = .panic v
  | [], fr, H, r, h => by simp only [evalOps] at h; cases h; exact .inl rfl
  | o :: l, fr, H, r, h => by
    simp only [evalOps] at h
    split at h
    · cases h
    · exact evalOps_ex h
    · split at h
      · cases h
      · exact evalOps_ex h
      · cases h; exact .inr ⟨_, rfl⟩

theorem looseChk_some {b : Bool} {r : Option Res} {x : Res} (h : looseChk b ops r = some x) : r = some x ∧ (b = true → ∃ fr H, x = (.normal, fr, H) ∧ ((addrTmps ops.toList).all fun t => isCptr (look t fr)) = true) := by
  cases b with
  | false => exact ⟨h, fun hb => by cases hb⟩
  | true =>
    simp only [looseChk] at h
    split at h
    · rename_i f1 H1
      cases hc : (addrTmps ops.toList).all fun t => isCptr (look t f1) with
      | false => rw [hc] at h; cases h
      | true => rw [hc] at h; simp only [gd, Option.some.injEq] at h; subst h; exact ⟨rfl, fun _ => ⟨_, _, rfl, hc⟩⟩
    · cases h
/-- what is asked of a function's code: its slots; the orders that are drawn -/
def codeB (env : Env) (f nt : Nat) : Code → Bool
  | .region _ ops d => (ops.toList.all fun o => match o.dst with | some d => Nat.blt d nt | none => true) && (!d || drawB env ops (env.loose f))
  | .seq a b => codeB env f nt a && codeB env f nt b
  | .cond _ a b => codeB env f nt a && codeB env f nt b
  | .block _ a => codeB env f nt a
  | .loop a => codeB env f nt a
  | _ => true

def LoopOk (env : Env) (k : Nat) (orc : Orc) : Prop := ∀ f nr body fr H r, orc (.loop f nr body fr) H = some (.res r) → ∀ ρ lab w a n nt, codeB env f nt body = true → nt ≤ n → Sim ρ lab H w → FOk ρ lab w fr a n →
  Code.rounds env.P body (Post nr n ρ lab w r) k a w

theorem Post.frEq {f1 f2 : Fr} {ex : Ex} {e : Exit} {w' : World} (h : FrEq f1 f2) (hp : Post nr n ρ lab w (ex, f2, H) e a w') : Post nr n ρ lab w (ex, f1, H) e a w' := by
  obtain ⟨ρ', lab', h1, h2, h3, h4, h5⟩ := hp
  refine ⟨ρ', lab', h1, h2, h3, h4, ?_⟩
  have key : FOk ρ' lab' w' f2 a n → FOk ρ' lab' w' f1 a n := fun hf => ⟨fun t => by rw [h t]; exact hf.rel t, hf.size, hf.defers⟩
  cases ex <;> cases e <;> first | exact h5.elim | exact key h5 | exact ⟨h5.1, key h5.2⟩ | exact h5

theorem region_ok (hT : TOk env.P env.T) (hm : env.P.follows .mixedOrders = true) (hO : CallOk env.P orc) {id nt : Nat} {d : Bool} {r : Res} {f : Nat} (hB : codeB env f nt (.region id ops d) = true) (hn : nt ≤ n)
    (h : evalCode env orc f nr (.region id ops d) fr H = some r) (hS : Sim ρ lab H w) (hF : FOk ρ lab w fr a n) {Q : Exit → Act → World → Prop} (hQ : ∀ e a' w', Post nr n ρ lab w r e a' w' → Q e a' w') :
    (Code.region id ops d).wp env.P Q a w := by
  simp only [codeB, Bool.and_eq_true] at hB
  obtain ⟨hB1, hB2⟩ := hB
  have hdst : ∀ (i : Nat) (o : Oper) (dd : Nat), ops[i]? = some o → o.dst = some dd → dd < n := by
    intro i o dd ho hd
    rw [List.all_eq_true] at hB1
    have := hB1 o (by rw [← Array.getElem?_toList] at ho; exact List.mem_of_getElem? ho)
    rw [hd] at this
    simp only [Nat.blt_eq] at this
    omega
  simp only [evalCode] at h
  cases d with
  | false =>
    refine wp_region ?_
    have h' : evalOps env orc ops ops.toList fr H = some r := by
      simp only [Bool.false_and, looseChk] at h
      split at h
      · rename_i hq; rw [hq]; exact h
      · exact h
    rw [← filterMap_ops ops] at h'
    exact ops_ok hT hO hdst _ ρ lab w H fr a r h' hS hF hQ
  | true =>
    simp only [Bool.not_true, Bool.false_or, drawB, Bool.and_eq_true] at hB2
    simp only [Bool.true_and] at h
    obtain ⟨h, hchk⟩ := looseChk_some h
    refine wp_region_draw fun t => ?_
    simp only [Region.schedule, hm, Bool.true_or, if_true]
    split at h
    · cases h
    · rename_i hno
      obtain ⟨ex, f1, H1⟩ := r
      rcases evalOps_ex h with h1 | ⟨v, h1⟩
      · simp only at h1
        subst h1
        have hr : rest ops (Array.replicate ops.size false) = List.range ops.size := by
          refine List.filter_eq_self.2 fun i hi => ?_
          rw [List.mem_range] at hi
          simp [hi]
        rw [← filterMap_ops ops, ← hr] at h
        obtain ⟨f2, h2, h3⟩ := lin_ok hB2.1.1 hB2.1.2 ops.size t (Array.replicate ops.size false) fr H f1 H1 (by simp) (fun i o e hi ho => by
          rcases Nat.lt_or_ge i ops.size with hlt | hge
          · simp [hlt] at hi
          · rw [Array.getElem?_eq_none hge] at ho; cases ho) (by rw [hr]; simp) (fun hb => by
          rw [hr, filterMap_ops]
          obtain ⟨f', H', hx, hy⟩ := hchk hb
          cases hx
          have hs := hB2.2
          rw [hb] at hs
          exact safe_of (by simpa using hs) hy) h
        have g : Grew w { w with drawn := w.drawn + 1 } := ⟨Nat.le_refl _, rfl, rfl, rfl, fun _ _ => rfl⟩
        have E := g.ext lab
        refine ops_ok hT hO hdst _ ρ lab _ H fr a _ h2 (hS.grew g) (hF.ext E (.refl _)) (fun e a' w' hp => hQ e a' w' ((hp.trans E (Roots.of_le (.refl _) _)).frEq h3))
      · simp only at h1
        subst h1
        exact absurd h (hno v f1 H1)

theorem rounds_mono {c : Code} {Q Q' : Exit → Act → World → Prop} (hq : ∀ e a w, Q e a w → Q' e a w) : ∀ (k : Nat) (a : Act) (w : World), Code.rounds P c Q k a w → Code.rounds P c Q' k a w
  | 0, _, _, h => h
  | k + 1, a, w, h => by
    rw [rounds_succ] at h ⊢
    refine wp_mono h fun e a' w' he => ?_
    cases e <;> first | exact rounds_mono hq k a' w' he | exact hq _ _ _ he

theorem code_ok (hT : TOk env.P env.T) (hm : env.P.follows .mixedOrders = true) (hO : CallOk env.P orc) {k : Nat} (hL : LoopOk env k orc) {f nt : Nat} : ∀ (c : Code) (ρ : Rho) (lab : Lab) (w : World) (H : Hp) (fr : Fr) (a : Act) (r : Res) (n : Nat),
    codeB env f nt c = true → nt ≤ n → evalCode env orc f nr c fr H = some r → Sim ρ lab H w → FOk ρ lab w fr a n → ∀ Q : Exit → Act → World → Prop, (∀ e a' w', Post nr n ρ lab w r e a' w' → Q e a' w') → c.wp env.P Q a w := by
  intro c
  induction c with
  | skip =>
    intro ρ lab w H fr a r n hB hn h hS hF Q hQ
    simp only [evalCode] at h; cases h
    exact wp_skip (hQ _ _ _ ⟨ρ, lab, hS, .refl _ _, Roots.of_le (.refl _) _, hF.defers, hF⟩)
  | label l =>
    intro ρ lab w H fr a r n hB hn h hS hF Q hQ
    simp only [evalCode] at h; cases h
    exact wp_label (hQ _ _ _ ⟨ρ, lab, hS, .refl _ _, Roots.of_le (.refl _) _, hF.defers, hF⟩)
  | exit i =>
    intro ρ lab w H fr a r n hB hn h hS hF Q hQ
    simp only [evalCode] at h; cases h
    exact wp_exit (hQ _ _ _ ⟨ρ, lab, hS, .refl _ _, Roots.of_le (.refl _) _, hF.defers, rfl, hF⟩)
  | ret =>
    intro ρ lab w H fr a r n hB hn h hS hF Q hQ
    simp only [evalCode] at h; cases h
    exact wp_ret (hQ _ _ _ ⟨ρ, lab, hS, .refl _ _, Roots.of_le (.refl _) _, hF.defers, hF⟩)
  | region id ops d =>
    intro ρ lab w H fr a r n hB hn h hS hF Q hQ
    exact region_ok hT hm hO hB hn h hS hF hQ
  | seq x y ihx ihy =>
    intro ρ lab w H fr a r n hB hn h hS hF Q hQ
    simp only [codeB, Bool.and_eq_true] at hB
    simp only [evalCode] at h
    refine wp_seq ?_
    cases hx : evalCode env orc f nr x fr H with
    | none => rw [hx] at h; cases h
    | some r1 =>
      rw [hx] at h
      refine ihx ρ lab w H fr a r1 n hB.1 hn hx hS hF _ fun e a1 w1 hp => ?_
      obtain ⟨ex, fr1, H1⟩ := r1
      obtain ⟨ρ1, lab1, h1, h2, h3, h4, h5⟩ := hp
      cases ex with
      | normal =>
        simp only at h h5
        cases e with
        | normal => exact ihy ρ1 lab1 w1 H1 fr1 a1 r n hB.2 hn h h1 h5 Q fun e a' w' hp => hQ e a' w' (hp.trans h2 h3)
        | _ => exact h5.elim
      | ret =>
        simp only [Option.some.injEq] at h h5
        subst h
        cases e with
        | ret => exact hQ _ _ _ ⟨ρ1, lab1, h1, h2, h3, h4, h5⟩
        | _ => exact h5.elim
      | exit i =>
        simp only [Option.some.injEq] at h h5
        subst h
        cases e with
        | exit j => exact hQ _ _ _ ⟨ρ1, lab1, h1, h2, h3, h4, h5⟩
        | _ => exact h5.elim
      | panic v =>
        simp only [Option.some.injEq] at h h5
        subst h
        cases e with
        | panic ch => exact hQ _ _ _ ⟨ρ1, lab1, h1, h2, h3, h4, h5⟩
        | _ => exact h5.elim
  | cond c x y ihx ihy =>
    intro ρ lab w H fr a r n hB hn h hS hF Q hQ
    simp only [codeB, Bool.and_eq_true] at hB
    simp only [evalCode] at h
    split at h
    · rename_i t hc
      have hb := ev_ok hF.rel hc
      generalize hcv : a.eval c = cv at hb
      cases hb
      split at h
      · exact wp_cond_true hcv (ihx ρ lab w H fr a r n hB.1 hn h hS hF Q hQ)
      · exact wp_cond_false hcv (ihy ρ lab w H fr a r n hB.2 hn h hS hF Q hQ)
    · cases h
  | block id x ihx =>
    intro ρ lab w H fr a r n hB hn h hS hF Q hQ
    simp only [codeB] at hB
    simp only [evalCode] at h
    refine wp_block ?_
    cases hx : evalCode env orc f nr x fr H with
    | none => rw [hx] at h; cases h
    | some r1 =>
      rw [hx] at h
      refine ihx ρ lab w H fr a r1 n hB hn hx hS hF _ fun e a1 w1 hp => ?_
      obtain ⟨ex, fr1, H1⟩ := r1
      obtain ⟨ρ1, lab1, h1, h2, h3, h4, h5⟩ := hp
      cases ex with
      | normal =>
        simp only [Option.some.injEq] at h h5
        subst h
        cases e with
        | normal => exact hQ _ _ _ ⟨ρ1, lab1, h1, h2, h3, h4, h5⟩
        | _ => exact h5.elim
      | ret =>
        simp only [Option.some.injEq] at h h5
        subst h
        cases e with
        | ret => exact hQ _ _ _ ⟨ρ1, lab1, h1, h2, h3, h4, h5⟩
        | _ => exact h5.elim
      | exit i =>
        simp only at h h5
        cases e with
        | exit j =>
          obtain ⟨rfl, h5⟩ := h5
          simp only [Exit.inBlock]
          cases hb : Nat.beq i id with
          | true =>
            rw [hb] at h
            simp only [Option.some.injEq] at h
            subst h
            rw [if_pos (Nat.eq_of_beq_eq_true hb)]
            exact hQ _ _ _ ⟨ρ1, lab1, h1, h2, h3, h4, h5⟩
          | false =>
            rw [hb] at h
            simp only [Option.some.injEq] at h
            subst h
            rw [if_neg (by rintro rfl; simp at hb)]
            exact hQ _ _ _ ⟨ρ1, lab1, h1, h2, h3, h4, rfl, h5⟩
        | _ => exact h5.elim
      | panic v =>
        simp only [Option.some.injEq] at h h5
        subst h
        cases e with
        | panic ch => exact hQ _ _ _ ⟨ρ1, lab1, h1, h2, h3, h4, h5⟩
        | _ => exact h5.elim
  | loop x ihx =>
    intro ρ lab w H fr a r n hB hn h hS hF Q hQ
    simp only [codeB] at hB
    simp only [evalCode] at h
    split at h
    · rename_i fr1 H1 hnm
      split at h
      · rename_i r1 ho
        cases h
        obtain ⟨ρ1, lab1, k1, k2, k3, k4⟩ := normal_ok hS hF.rel hnm
        have := hL f nr x fr1 H1 _ ho ρ1 lab1 w a n nt hB hn k1 ⟨k4, hF.size, hF.defers⟩
        exact wp_loop_rounds k (rounds_mono (fun e a' w' hp => hQ e a' w' (hp.trans k2 k3)) k a w this)
      · cases h
    · cases h
  | _ =>
    intro ρ lab w H fr a r n hB hn h hS hF Q hQ
    simp only [evalCode] at h
    cases h
end
end Go.Vm
/- The evaluator is sound. -/
namespace Go.Vm
set_option linter.unusedSimpArgs false
set_option linter.unusedVariables false
set_option linter.unusedSectionVars false
section
variable {P : Program} {T : List (Nat × Ty)} {ρ ρ' : Rho} {lab : Lab} {w : World} {H : Hp} {fr : Fr} {a : Act} {n nr : Nat} {env : Env} {orc : Orc}

def resRun (tmps : Array Value) : ResultVar → Sem Value
  | .tmp t => pure (tmps.getD t undef)
  | .cell a t => do loadVar t (← asAddr (tmps.getD a undef))

theorem resV_ok (hT : TOk P T) (hS : Sim ρ lab H w) {tmps : Array Value} (hF : FrRel ρ lab w fr tmps) {rv : ResultVar} {v : V} (h : resV T fr H rv = some v) : ∃ z, (resRun tmps rv).run P w = .ok z w ∧ Rel ρ lab w v z := by
  cases rv with
  | tmp t => simp only [resV] at h; cases h; exact ⟨_, rfl, hF t⟩
  | cell c t =>
    simp only [resV] at h
    have hx := hF c
    obtain ⟨z, h1, h2⟩ := load_run hT hS hx h
    refine ⟨z, ?_, h2⟩
    simp only [resRun]
    generalize hcv : tmps.getD c undef = cv at hx h1
    unfold vLoad at h
    split at h
    · rename_i hl
      rw [hl] at hx
      cases hx
      exact h1
    · rename_i hl
      rw [hl] at hx
      cases hx
      exact h1
    · cases h

theorem mapM_ok (hT : TOk P T) (hS : Sim ρ lab H w) {tmps : Array Value} (hF : FrRel ρ lab w fr tmps) : ∀ {l : List ResultVar} {vs : List V}, mapO (resV T fr H) l = some vs → ∃ xs, (l.mapM (resRun tmps)).run P w = .ok xs w ∧ RelL ρ lab w vs xs
  | [], vs, h => by simp only [mapO] at h; cases h; exact ⟨[], rfl, relL_nil⟩
  | r :: l, vs, h => by
    simp only [mapO] at h
    split at h
    · cases h
    · rename_i v hv
      split at h
      · cases h
      · rename_i u hu
        cases h
        obtain ⟨z, h1, h2⟩ := resV_ok hT hS hF hv
        obtain ⟨xs, h3, h4⟩ := mapM_ok hT hS hF hu
        exact ⟨z :: xs, by simp only [List.mapM_cons, Sem.run_bind, h1, Result.andThen_ok, h3, Sem.run_pure], relL_cons_iff.2 ⟨z, xs, rfl, h2, h4⟩⟩

theorem results_ok (hT : TOk P T) (hS : Sim ρ lab H w) {tmps : Array Value} (hF : FrRel ρ lab w fr tmps) {fn : Func} {v : V} (h : resultV T fr H fn.results.toList = some v) : ∃ z, (results fn tmps).run P w = .ok z w ∧ Rel ρ lab w v z := by
  have hr : (results fn tmps) = (do let vs ← fn.results.mapM (resRun tmps); pure (if h : vs.size = 1 then vs[0] else .tuple vs)) := by
    unfold results
    congr 1
  rw [hr]
  unfold resultV at h
  have key : ∀ vs, mapO (resV T fr H) fn.results.toList = some vs → ∃ xs, (fn.results.mapM (resRun tmps)).run P w = .ok xs.toArray w ∧ RelL ρ lab w vs xs := by
    intro vs hvs
    obtain ⟨xs, h1, h2⟩ := mapM_ok hT hS hF hvs
    refine ⟨xs, ?_, h2⟩
    rw [Array.mapM_eq_mapM_toList]
    simp only [map_eq_pure_bind, Sem.run_bind, h1, Result.andThen_ok, Sem.run_pure]
  split at h
  · rename_i v' hvs
    cases h
    obtain ⟨xs, h1, h2⟩ := key _ hvs
    obtain ⟨x, xr, rfl, h3, h4⟩ := relL_cons_iff.1 h2
    have : xr = [] := by have := h4.1; simpa using this
    subst this
    exact ⟨x, by simp [Sem.run_bind, h1, Result.andThen_ok], h3⟩
  · rename_i vs hno hvs
    cases h
    obtain ⟨xs, h1, h2⟩ := key _ hvs
    refine ⟨.tuple xs.toArray, ?_, .tuple vs xs h2.1 h2.2⟩
    have hsz : ¬ xs.toArray.size = 1 := by
      intro hsz
      have hl : vs.length = 1 := by rw [← h2.1]; simpa using hsz
      match vs, hl with
      | [v], _ => exact hno v rfl
    simp [Sem.run_bind, h1, Result.andThen_ok]
    intro h5
    exact absurd (by simpa using h5) hsz
  · cases h

theorem look_bind : ∀ (args : List V) (k t : Nat), look t (bindArgs k args) = if k ≤ t then (args[t - k]?).getD .undef else .undef
  | [], k, t => by simp [bindArgs, look]
  | v :: r, k, t => by
    simp only [bindArgs]
    by_cases hk : k = t
    · subst hk; rw [look_head]; simp
    · rw [look_tail hk, look_bind r (k + 1) t]
      by_cases h : k ≤ t
      · rw [if_pos (by omega), if_pos h]
        have : t - k = t - (k + 1) + 1 := by omega
        rw [this, List.getElem?_cons_succ]
      · rw [if_neg (by omega), if_neg h]

structure IntrOk (P : Program) (g : Nat) (h : List V → Hp → Option Out) : Prop where
  call : ∀ args H out, h args H = some out → ∀ ρ lab w xs, Canon 0 H → Sim ρ lab H w → RelL ρ lab w args xs → Calls P g xs.toArray w (CallPost ρ lab H w out)
  known : ∃ fn c, P.funcs[g]? = some fn ∧ (fn.name == "runtime.NumGoroutine") = false ∧ fn.body = some c

structure EnvOk (env : Env) : Prop where
  T : TOk env.P env.T
  mixed : env.P.follows .mixedOrders = true
  code : ∀ g fn c, env.ok g = true → env.P.funcs[g]? = some fn → fn.body = some c → codeB env g fn.ntmps c = true ∧ (fn.name == "runtime.NumGoroutine") = false
  intr : ∀ g h, env.intr g = some h → IntrOk env.P g h

theorem runCall_known (hE : EnvOk env) {g : Nat} {args : List V} {out : Out} (h : runCall env orc g args H = some out) : ∃ fn c, env.P.funcs[g]? = some fn ∧ (fn.name == "runtime.NumGoroutine") = false ∧ fn.body = some c := by
  unfold runCall at h
  split at h
  · rename_i fn hf hok
    split at h
    · cases h
    · rename_i c hb
      exact ⟨fn, c, hf, (hE.code g fn c hok hf hb).2, hb⟩
  · cases h

theorem runCall_ok (hE : EnvOk env) {k : Nat} (hO : CallOk env.P orc) (hL : LoopOk env k orc) {g : Nat} {args : List V} {out : Out} {xs : List Value} (h : runCall env orc g args H = some out)
    (hc : Canon 0 H) (hS : Sim ρ lab H w) (hx : RelL ρ lab w args xs) :
    Calls env.P g xs.toArray w (CallPost ρ lab H w out) ∧ ∃ fn c, env.P.funcs[g]? = some fn ∧ (fn.name == "runtime.NumGoroutine") = false ∧ fn.body = some c := by
  unfold runCall at h
  split at h
  · rename_i fn hf hok
    split at h
    · cases h
    · rename_i c hb
      obtain ⟨hB, hN⟩ := hE.code g fn c hok hf hb
      refine ⟨calls_of_wp hf hb ?_, fn, c, hf, hN, hb⟩
      have hF : FOk ρ lab w (bindArgs 0 args) { tmps := xs.toArray ++ Array.replicate (fn.ntmps - xs.toArray.size) undef, defers := [] } (xs.toArray ++ Array.replicate (fn.ntmps - xs.toArray.size) undef).size := by
        refine ⟨fun t => ?_, rfl, rfl⟩
        rw [look_bind, if_pos (Nat.zero_le _), Nat.sub_zero]
        cases hv : args[t]? with
        | none => exact .undef _
        | some v =>
          have hlt : t < xs.length := by
            rw [hx.1]
            rcases Nat.lt_or_ge t args.length with h1 | h1
            · exact h1
            · rw [List.getElem?_eq_none h1] at hv; cases hv
          have h2 : (xs.toArray ++ Array.replicate (fn.ntmps - xs.toArray.size) undef).getD t undef = xs[t] := by
            rw [Array.getD_eq_getD_getElem?, Array.getElem?_append_left (by simpa using hlt)]
            simp [hlt]
          simp only [Option.getD_some]
          rw [h2]
          exact hx.2 t v xs[t] hv (by simp [hlt])
      have hn : fn.ntmps ≤ (xs.toArray ++ Array.replicate (fn.ntmps - xs.toArray.size) undef).size := by simp; omega
      cases hev : evalCode env orc g H.length c (bindArgs 0 args) H with
      | none => rw [hev] at h; cases h
      | some r =>
        rw [hev] at h
        refine code_ok hE.T hE.mixed hO hL c ρ lab w H _ _ r _ hB hn hev hS hF _ fun e a' w' hp => ?_
        obtain ⟨ex, fr', H1⟩ := r
        obtain ⟨ρ1, lab1, h1, h2, h3, h4, h5⟩ := hp
        have fin : ∀ {v x v2 H2}, Rel ρ1 lab1 w' v x → finish H.length v H1 = some (v2, H2) → Done ρ lab H w v2 H2 x w' := by
          intro v x v2 H2 hv hfi
          obtain ⟨ρ2, lab2, k1, k2, k3, k4, k5, k6⟩ := finish_ok h1 hv hfi
          exact ⟨ρ2, lab2, k1, h2.trans k2, h3.trans k3 (Nat.le_refl _), k4, k5, k6⟩
        have res : ∀ {out' : Out}, FOk ρ1 lab1 w' fr' a' (xs.toArray ++ Array.replicate (fn.ntmps - xs.toArray.size) undef).size →
            (match resultV env.T fr' H1 fn.results.toList with
              | some v => match finish H.length (match env.tags g with | true => v | false => sealD v) H1 with
                | some (v, H2) => some (Out.ret v H2)
                | none => none
              | none => none) = some out' → ∃ x, (results fn a'.tmps).run env.P w' = .ok x w' ∧ CallPost ρ lab H w out' (.returned x) w' := by
          intro out' hf' h
          split at h
          · rename_i v hv
            split at h
            · rename_i v2 H2 hfi
              cases h
              obtain ⟨x, g1, g2⟩ := results_ok hE.T h1 hf'.rel hv
              refine ⟨x, g1, fin ?_ hfi⟩
              split
              · exact g2
              · exact g2.sealD
            · cases h
          · cases h
        cases ex with
        | normal =>
          cases e with
          | normal => exact ⟨h4, res h5 h⟩
          | _ => exact h5.elim
        | ret =>
          cases e with
          | ret => exact ⟨h4, res h5 h⟩
          | _ => exact h5.elim
        | exit i => cases h
        | panic v =>
          cases e with
          | panic ch =>
            obtain ⟨x, rfl, hx'⟩ := h5
            simp only at h
            split at h
            · rename_i v2 H2 hfi
              cases h
              exact ⟨h4, x, rfl, fin hx' hfi⟩
            · cases h
          | _ => exact h5.elim
  · cases h

theorem runLoop_ok (hE : EnvOk env) {k : Nat} (hO : CallOk env.P orc) (hL : LoopOk env k orc) {f nr nt : Nat} {body : Code} {r : Res} (h : runLoop env orc f nr body fr H = some (.res r)) (hB : codeB env f nt body = true) (hn : nt ≤ n)
    (hS : Sim ρ lab H w) (hF : FOk ρ lab w fr a n) : Code.rounds env.P body (Post nr n ρ lab w r) (k + 1) a w := by
  rw [rounds_succ]
  unfold runLoop at h
  cases hev : evalCode env orc f nr body fr H with
  | none => rw [hev] at h; cases h
  | some r1 =>
    rw [hev] at h
    refine code_ok hE.T hE.mixed hO hL body ρ lab w H fr a r1 n hB hn hev hS hF _ fun e a' w' hp => ?_
    obtain ⟨ex, fr', H1⟩ := r1
    have hp' := hp
    obtain ⟨ρ1, lab1, h1, h2, h3, h4, h5⟩ := hp
    cases ex with
    | normal =>
      simp only at h
      cases e with
      | normal =>
        split at h
        · rename_i fr2 H2 hnm
          obtain ⟨ρ2, lab2, k1, k2, k3, k4⟩ := normal_ok h1 h5.rel hnm
          have h6 : FOk ρ2 lab2 w' fr2 a' n := ⟨k4, h5.size, h4⟩
          exact rounds_mono (fun e a w hp => (hp.trans k2 k3).trans h2 h3) k a' w' (hL f nr body fr2 H2 r h ρ2 lab2 w' a' n nt hB hn k1 h6)
        · cases h
      | _ => exact h5.elim
    | ret =>
      cases h
      cases e with
      | ret => exact hp'
      | _ => exact h5.elim
    | exit i =>
      cases h
      cases e with
      | exit j => exact hp'
      | _ => exact h5.elim
    | panic v =>
      cases h
      cases e with
      | panic ch => exact hp'
      | _ => exact h5.elim

theorem run_ok (hE : EnvOk env) : ∀ k, CallOk env.P (run env k) ∧ LoopOk env k (run env k)
  | 0 => ⟨⟨fun g args H out h => (by cases h), fun g args H out h => (by cases h)⟩, fun f nr body fr H r h => (by cases h)⟩
  | k + 1 => by
    obtain ⟨hO, hL⟩ := run_ok hE k
    refine ⟨⟨fun g args H out h ρ lab w xs hc hS hx => ?_, fun g args H out h => ?_⟩, fun f nr body fr H r h ρ lab w a n nt hB hn hS hF => runLoop_ok hE hO hL h hB hn hS hF⟩
    · simp only [run, step] at h
      split at h
      · rename_i hh hi
        exact (hE.intr g hh hi).call args H out h ρ lab w xs hc hS hx
      · exact (runCall_ok hE hO hL h hc hS hx).1
    · simp only [run, step] at h
      split at h
      · rename_i hh hi
        exact (hE.intr g hh hi).known
      · exact runCall_known hE h

end
end Go.Vm
/- The runs without a bound; from a run to the call. -/
namespace Go.Vm
set_option linter.unusedSimpArgs false
set_option linter.unusedVariables false
set_option linter.unusedSectionVars false
section
variable {env : Env} {orc orc' : Orc}

def OLe (a b : Orc) : Prop := ∀ t H o, a t H = some o → b t H = some o
/-- what has been found by an oracle that is the end of a chain has been found somewhere in the chain -/
structure Chain (c : Nat → Orc) (e : Orc) : Prop where
  le : ∀ k, OLe (c k) e
  up : ∀ k, OLe (c k) (c (k + 1))
  at_ : ∀ t H o, e t H = some o → ∃ k, c k t H = some o

theorem Chain.mono {c : Nat → Orc} {e : Orc} (h : Chain c e) : ∀ {j k : Nat}, j ≤ k → OLe (c j) (c k) := by
  intro j k hjk
  induction hjk with
  | refl => exact fun _ _ _ h => h
  | step _ ih => exact fun t H o ho => h.up _ t H o (ih t H o ho)

theorem quietVia_mono (h : OLe orc orc') {g : Nat} {args : List V} {H : Hp} {r : OpR} (hr : quietVia orc g args H = some r) : quietVia orc' g args H = some r := by
  unfold quietVia at hr ⊢
  split at hr
  · cases hr
  · split at hr
    · rename_i ho
      rw [h _ _ _ ho]
      exact hr
    · cases hr

theorem callVia_mono (h : OLe orc orc') {k g : Nat} {args : List V} {H : Hp} {r : OpR} (hr : callVia env orc k g args H = some r) : callVia env orc' k g args H = some r := by
  unfold callVia at hr ⊢
  split at hr
  · rename_i hq
    exact quietVia_mono h hr
  · simp only at hr ⊢
    split at hr
    · split at hr
      · rename_i ho
        rw [h _ _ _ ho]
        exact hr
      · rename_i ho
        rw [h _ _ _ ho]
        exact hr
      · cases hr
    · cases hr

theorem opEff_mono (h : OLe orc orc') {fr : Fr} {H : Hp} {o : Oper} {r : OpR} (hr : opEff env orc fr H o = some r) : opEff env orc' fr H o = some r := by
  unfold opEff at hr ⊢
  split at hr <;> first
    | exact hr
    | (split at hr
       · exact callVia_mono h hr
       · cases hr)

theorem opStep_mono (h : OLe orc orc') {fr : Fr} {H : Hp} {o : Oper} {r : OpR} (hr : opStep env orc fr H o = some r) : opStep env orc' fr H o = some r := by
  unfold opStep at hr ⊢
  split at hr
  · exact hr
  · exact opEff_mono h hr

theorem evalOps_mono (h : OLe orc orc') {ops : Array Oper} : ∀ {l : List Oper} {fr : Fr} {H : Hp} {r : Res}, evalOps env orc ops l fr H = some r → evalOps env orc' ops l fr H = some r
  | [], fr, H, r, hr => hr
  | o :: l, fr, H, r, hr => by
    simp only [evalOps] at hr ⊢
    cases hw : wantedV ops o fr with
    | none => rw [hw] at hr; cases hr
    | some b =>
      rw [hw] at hr
      cases b with
      | false => exact evalOps_mono h hr
      | true =>
        simp only at hr ⊢
        cases ho : opStep env orc fr H o with
        | none => rw [ho] at hr; cases hr
        | some x =>
          rw [ho] at hr
          rw [opStep_mono h ho]
          cases x with
          | val v H1 => exact evalOps_mono h hr
          | pan v H1 => exact hr

theorem evalCode_mono (h : OLe orc orc') {f nr : Nat} : ∀ {c : Code} {fr : Fr} {H : Hp} {r : Res}, evalCode env orc f nr c fr H = some r → evalCode env orc' f nr c fr H = some r := by
  intro c
  induction c with
  | region id ops d =>
    intro fr H r hr
    simp only [evalCode] at hr ⊢
    cases ho : evalOps env orc ops ops.toList fr H with
    | none =>
      rw [ho] at hr
      cases hd : (d && env.loose f) <;> rw [hd] at hr <;> cases hr
    | some x => rw [ho] at hr; rw [evalOps_mono h ho]; exact hr
  | seq a b iha ihb =>
    intro fr H r hr
    simp only [evalCode] at hr ⊢
    cases ho : evalCode env orc f nr a fr H with
    | none => rw [ho] at hr; cases hr
    | some x =>
      rw [ho] at hr; rw [iha ho]
      obtain ⟨e, fr1, H1⟩ := x
      cases e with
      | normal => exact ihb hr
      | _ => exact hr
  | cond c a b iha ihb =>
    intro fr H r hr
    simp only [evalCode] at hr ⊢
    split at hr
    · split at hr
      · exact iha hr
      · exact ihb hr
    · cases hr
  | block id a iha =>
    intro fr H r hr
    simp only [evalCode] at hr ⊢
    cases ho : evalCode env orc f nr a fr H with
    | none => rw [ho] at hr; cases hr
    | some x => rw [ho] at hr; rw [iha ho]; exact hr
  | loop a iha =>
    intro fr H r hr
    simp only [evalCode] at hr ⊢
    split at hr
    · split at hr
      · rename_i ho
        rw [h _ _ _ ho]
        exact hr
      · cases hr
    · cases hr
  | _ => exact fun hr => hr

theorem step_mono (h : OLe orc orc') : OLe (step env orc) (step env orc') := by
  intro t H o hr
  cases t with
  | call g args =>
    simp only [step] at hr ⊢
    split at hr
    · exact hr
    · unfold runCall at hr ⊢
      split at hr
      · split at hr
        · cases hr
        · rename_i hb
          try simp only
          cases ho : evalCode env orc g H.length _ (bindArgs 0 args) H with
          | none => rw [ho] at hr; cases hr
          | some x => rw [ho] at hr; rw [evalCode_mono h ho]; exact hr
      · cases hr
  | loop f nr body fr =>
    simp only [step, runLoop] at hr ⊢
    cases ho : evalCode env orc f nr body fr H with
    | none => rw [ho] at hr; cases hr
    | some x =>
      rw [ho] at hr; rw [evalCode_mono h ho]
      obtain ⟨e, fr1, H1⟩ := x
      cases e with
      | normal =>
        simp only at hr ⊢
        split at hr
        · exact h _ _ _ hr
        · cases hr
      | _ => exact hr

theorem run_up (env : Env) : ∀ k, OLe (run env k) (run env (k + 1))
  | 0 => fun t H o h => by cases h
  | k + 1 => step_mono (run_up env k)

open Classical in
/-- the runs without a bound -/
noncomputable def E (env : Env) : Orc := fun t H => if h : ∃ k o, run env k t H = some o then some (Classical.choose (Classical.choose_spec h)) else none

theorem run_chain (env : Env) : Chain (run env) (E env) := by
  have up := run_up env
  have mono : ∀ {j k : Nat}, j ≤ k → OLe (run env j) (run env k) := by
    intro j k hjk
    induction hjk with
    | refl => exact fun _ _ _ h => h
    | step _ ih => exact fun t H o ho => up _ t H o (ih t H o ho)
  have fn : ∀ {j k t H o o'}, run env j t H = some o → run env k t H = some o' → o = o' := by
    intro j k t H o o' h1 h2
    have h3 := mono (Nat.le_max_left j k) t H o h1
    have h4 := mono (Nat.le_max_right j k) t H o' h2
    rw [h3] at h4; cases h4; rfl
  refine ⟨fun k t H o h => ?_, up, fun t H o h => ?_⟩
  · have hex : ∃ k o, run env k t H = some o := ⟨k, o, h⟩
    unfold E
    rw [dif_pos hex]
    have := Classical.choose_spec (Classical.choose_spec hex)
    rw [fn this h]
  · unfold E at h
    split at h
    · rename_i hex
      cases h
      exact ⟨_, Classical.choose_spec (Classical.choose_spec hex)⟩
    · cases h

section
variable {c : Nat → Orc} {e : Orc}
theorem quietVia_cont (h : Chain c e) {g : Nat} {args : List V} {H : Hp} {r : OpR} (hr : quietVia e g args H = some r) : ∃ k, quietVia (c k) g args H = some r := by
  unfold quietVia at hr ⊢
  split at hr
  · cases hr
  · split at hr
    · rename_i ho
      obtain ⟨k, hk⟩ := h.at_ _ _ _ ho
      exact ⟨k, by rw [hk]; exact hr⟩
    · cases hr
theorem callVia_cont (h : Chain c e) {m g : Nat} {args : List V} {H : Hp} {r : OpR} (hr : callVia env e m g args H = some r) : ∃ k, callVia env (c k) m g args H = some r := by
  unfold callVia at hr ⊢
  split at hr
  · rename_i hq
    try simp only [hq]
    exact quietVia_cont h hr
  · rename_i hq
    simp only [hq] at hr ⊢
    split at hr
    · split at hr
      · rename_i ho
        obtain ⟨k, hk⟩ := h.at_ _ _ _ ho
        exact ⟨k, by rw [hk]; exact hr⟩
      · rename_i ho
        obtain ⟨k, hk⟩ := h.at_ _ _ _ ho
        exact ⟨k, by rw [hk]; exact hr⟩
      · cases hr
    · cases hr
theorem opEff_cont (h : Chain c e) {fr : Fr} {H : Hp} {o : Oper} {r : OpR} (hr : opEff env e fr H o = some r) : ∃ k, opEff env (c k) fr H o = some r := by
  unfold opEff at hr ⊢
  split at hr <;> first
    | exact ⟨0, hr⟩
    | (split at hr
       · exact callVia_cont h hr
       · cases hr)
theorem opStep_cont (h : Chain c e) {fr : Fr} {H : Hp} {o : Oper} {r : OpR} (hr : opStep env e fr H o = some r) : ∃ k, opStep env (c k) fr H o = some r := by
  unfold opStep at hr ⊢
  split at hr
  · exact ⟨0, hr⟩
  · exact opEff_cont h hr
theorem evalOps_cont (h : Chain c e) {ops : Array Oper} : ∀ {l : List Oper} {fr : Fr} {H : Hp} {r : Res}, evalOps env e ops l fr H = some r → ∃ k, evalOps env (c k) ops l fr H = some r
  | [], fr, H, r, hr => ⟨0, hr⟩
  | o :: l, fr, H, r, hr => by
    simp only [evalOps] at hr ⊢
    cases hw : wantedV ops o fr with
    | none => rw [hw] at hr; cases hr
    | some b =>
      rw [hw] at hr
      cases b with
      | false => exact evalOps_cont h hr
      | true =>
        simp only at hr ⊢
        cases ho : opStep env e fr H o with
        | none => rw [ho] at hr; cases hr
        | some x =>
          rw [ho] at hr
          obtain ⟨k, hk⟩ := opStep_cont h ho
          cases x with
          | val v H1 =>
            obtain ⟨j, hj⟩ := evalOps_cont h hr
            refine ⟨max k j, ?_⟩
            rw [opStep_mono (h.mono (Nat.le_max_left k j)) hk]
            exact evalOps_mono (h.mono (Nat.le_max_right k j)) hj
          | pan v H1 => exact ⟨k, by rw [hk]; exact hr⟩
theorem evalCode_cont (h : Chain c e) {f nr : Nat} : ∀ {d : Code} {fr : Fr} {H : Hp} {r : Res}, evalCode env e f nr d fr H = some r → ∃ k, evalCode env (c k) f nr d fr H = some r := by
  intro d
  induction d with
  | region id ops d =>
    intro fr H r hr
    simp only [evalCode] at hr ⊢
    cases ho : evalOps env e ops ops.toList fr H with
    | none =>
      rw [ho] at hr
      cases hd : (d && env.loose f) <;> rw [hd] at hr <;> cases hr
    | some x => rw [ho] at hr; obtain ⟨k, hk⟩ := evalOps_cont h ho; exact ⟨k, by rw [hk]; exact hr⟩
  | seq a b iha ihb =>
    intro fr H r hr
    simp only [evalCode] at hr ⊢
    cases ho : evalCode env e f nr a fr H with
    | none => rw [ho] at hr; cases hr
    | some x =>
      rw [ho] at hr
      obtain ⟨k, hk⟩ := iha ho
      obtain ⟨ex, fr1, H1⟩ := x
      cases ex with
      | normal =>
        obtain ⟨j, hj⟩ := ihb hr
        refine ⟨max k j, ?_⟩
        rw [evalCode_mono (h.mono (Nat.le_max_left k j)) hk]
        exact evalCode_mono (h.mono (Nat.le_max_right k j)) hj
      | _ => exact ⟨k, by rw [hk]; exact hr⟩
  | cond c a b iha ihb =>
    intro fr H r hr
    simp only [evalCode] at hr ⊢
    cases hc : ev fr c with
    | none => rw [hc] at hr; cases hr
    | some v =>
      rw [hc] at hr
      cases v with
      | bool t => cases t with
        | true => exact iha hr
        | false => exact ihb hr
      | _ => cases hr
  | block id a iha =>
    intro fr H r hr
    simp only [evalCode] at hr ⊢
    cases ho : evalCode env e f nr a fr H with
    | none => rw [ho] at hr; cases hr
    | some x => rw [ho] at hr; obtain ⟨k, hk⟩ := iha ho; exact ⟨k, by rw [hk]; exact hr⟩
  | loop a iha =>
    intro fr H r hr
    simp only [evalCode] at hr ⊢
    cases hn : normal env f nr (loopId a) fr H with
    | none => rw [hn] at hr; cases hr
    | some x =>
      rw [hn] at hr
      simp only at hr ⊢
      split at hr
      · rename_i ho
        obtain ⟨k, hk⟩ := h.at_ _ _ _ ho
        exact ⟨k, by rw [hk]; exact hr⟩
      · cases hr
  | _ => intro fr H r hr; first | exact ⟨0, hr⟩ | cases hr
theorem step_cont (h : Chain c e) {t : Task} {H : Hp} {o : Out} (hr : step env e t H = some o) : ∃ k, step env (c k) t H = some o := by
  cases t with
  | call g args =>
    simp only [step] at hr ⊢
    cases hi : env.intr g with
    | some f => rw [hi] at hr; exact ⟨0, hr⟩
    | none =>
      rw [hi] at hr
      simp only at hr ⊢
      unfold runCall at hr ⊢
      split at hr
      · rename_i fn hf hok
        split at hr
        · cases hr
        · rename_i d hb
          try simp only [hb]
          cases ho : evalCode env e g H.length d (bindArgs 0 args) H with
          | none => rw [ho] at hr; cases hr
          | some x =>
            rw [ho] at hr
            obtain ⟨k, hk⟩ := evalCode_cont h ho
            exact ⟨k, by rw [hk]; exact hr⟩
      · cases hr
  | loop f nr body fr =>
    simp only [step, runLoop] at hr ⊢
    cases ho : evalCode env e f nr body fr H with
    | none => rw [ho] at hr; cases hr
    | some x =>
      rw [ho] at hr
      obtain ⟨k, hk⟩ := evalCode_cont h ho
      obtain ⟨ex, fr1, H1⟩ := x
      cases ex with
      | normal =>
        simp only at hr ⊢
        cases hn : normal env f nr (loopId body) fr1 H1 with
        | none => rw [hn] at hr; cases hr
        | some y =>
          rw [hn] at hr
          simp only at hr
          obtain ⟨j, hj⟩ := h.at_ _ _ _ hr
          refine ⟨max k j, ?_⟩
          rw [evalCode_mono (h.mono (Nat.le_max_left k j)) hk]
          simp only [hn]
          exact h.mono (Nat.le_max_right k j) _ _ _ hj
      | _ => exact ⟨k, by rw [hk]; exact hr⟩
end

/-- the runs without a bound go step by step -/
theorem E_step {t : Task} {H : Hp} {o : Out} (h : step env (E env) t H = some o) : E env t H = some o := by
  obtain ⟨k, hk⟩ := step_cont (run_chain env) h
  exact (run_chain env).le (k + 1) t H o hk

theorem E_call {g : Nat} {args : List V} {H : Hp} {o : Out} (hi : env.intr g = none) (h : runCall env (E env) g args H = some o) : E env (.call g args) H = some o :=
  E_step (by simp only [step, hi]; exact h)
theorem E_loop {f nr : Nat} {body : Code} {fr : Fr} {H : Hp} {o : Out} (h : runLoop env (E env) f nr body fr H = some o) : E env (.loop f nr body fr) H = some o := E_step h

/-- a call with values alone -/
theorem calls_of_E (hE : EnvOk env) {g : Nat} {args : List V} {v : V} {xs : List Value} {w : World} (h : E env (.call g args) [] = some (.ret v [])) (hx : RelL ⟨fun _ => none, fun _ _ => none⟩ (fun _ _ => none) w args xs) :
    Calls env.P g xs.toArray w fun e w' => ∃ x ρ lab, e = .returned x ∧ Rel ρ lab w' v x ∧ RowKit.Below w.heap.size w w' := by
  obtain ⟨k, hk⟩ := (run_chain env).at_ _ _ _ h
  refine ((run_ok hE k).1.call g args [] _ hk ⟨fun _ => none, fun _ _ => none⟩ (fun _ _ => none) w xs trivial ?_ hx).mono fun e w' he => ?_
  · exact ⟨fun k cs h => (by cases h), fun k e cs h => (by cases h), fun k e n h => (by cases h), fun k n x h => (by cases h), fun k x h => (by cases h), fun b o k h => (by cases h)⟩
  · cases e with
    | returned x =>
      obtain ⟨ρ', lab', h1, h2, h3, h4, h5⟩ := he
      exact ⟨x, ρ', lab', rfl, h4, ⟨h2.os, h2.tape, h2.output, h2.size, fun b hb => h2.blk b hb (fun o k h => by cases h)⟩⟩
    | panicked ch => exact he.elim
    | outgrown => exact he.elim

theorem calls_true (hE : EnvOk env) {g : Nat} {args : List V} {xs : List Value} {w : World} (h : E env (.call g args) [] = some (.ret (.bool true) [])) (hx : RelL ⟨fun _ => none, fun _ _ => none⟩ (fun _ _ => none) w args xs) :
    Calls env.P g xs.toArray w fun e w' => e = .returned (.bool true) ∧ RowKit.Below w.heap.size w w' :=
  (calls_of_E hE h hx).mono fun e w' ⟨x, ρ, lab, h1, h2, h3⟩ => by cases h2; exact ⟨h1, h3⟩
end
end Go.Vm
/- A program's facts, checked by evaluation. -/
namespace Go.Vm
set_option linter.unusedSimpArgs false
set_option linter.unusedVariables false
set_option linter.unusedSectionVars false

def eqV1 : V → V → Bool
  | .bool a, .bool b => decide (a = b)
  | .int j a, .int k b => decide (j = k) && decide (a = b)
  | .str a, .str b => decide (a = b)
  | .nilptr, .nilptr => true
  | .slice .nil 0 [], .slice .nil 0 [] => true
  | .nilFunc, .nilFunc => true
  | .nilIface, .nilIface => true
  | _, _ => false
theorem eqV1_ok {a b : V} (h : eqV1 a b = true) : a = b := by
  unfold eqV1 at h
  split at h <;> first | rfl | cases h | (simp at h; simp [h])
def eqVs1 : List V → List V → Bool
  | [], [] => true
  | a :: r, b :: s => eqV1 a b && eqVs1 r s
  | _, _ => false
theorem eqVs1_ok : ∀ {a b : List V}, eqVs1 a b = true → a = b
  | [], [], _ => rfl
  | a :: r, b :: s, h => by
    simp only [eqVs1, Bool.and_eq_true] at h
    rw [eqV1_ok h.1, eqVs1_ok h.2]
  | [], _ :: _, h => by cases h
  | _ :: _, [], h => by cases h

def isAggV : Value → Bool
  | .agg _ => true
  | _ => false

def infoB (P : Program) (t : Nat) (y : Ty) : Bool :=
  match P.info? t with
  | none => false
  | some i => match i.zero with
    | none => false
    | some z => decide (i.size = y.size) && decide (i.bytes = y.bytes) && (match mapO ofConst z.cells.toList with | some l => eqVs1 l y.zero | none => false) && decide (z.cells.size = y.size) && decide (isAggV z = isAggSh y.sh)

def shB (P : Program) (t : Nat) : Sh → Bool
  | .bool => match P.underlying t with | some .bool => true | _ => false
  | .string => match P.underlying t with | some .string => true | _ => false
  | .int k => match P.underlying t with | some (.int j) => decide (j = k) | _ => false
  | .ptr e => match P.underlying t with | some (.pointer j) => decide (j = e) | _ => false
  | .slice e => match P.underlying t with | some (.slice j) => decide (j = e) | _ => false
  | .array n e => match P.underlying t with | some (.array m j) => decide (m = n) && decide (j = e) | _ => false
  | .struct fs => match P.underlying t with
    | some (.struct l) => !P.stoodInHeld t && decide ((l.toList.map fun f => (f.type, f.offset)) = fs) && l.toList.all (fun f => decide (f.name ≠ "_")) && l.toList.all (fun f => (P.info? f.type).isSome)
    | _ => false
  | .iface => match P.underlying t with | some (.interface _) => true | _ => false
  | .func => match P.underlying t with | some (.func ..) => true | _ => false
  | .other => (P.underlying t).isSome

def restB (P : Program) (t : Nat) (s : Sh) : Bool :=
  match P.underlying t with
  | none => false
  | some d => (isAggSh s || (match d with | .struct _ | .array .. => false | _ => true)) && (match s, d with | .iface, _ => true | _, .interface _ => false | _, _ => true) &&
    (match s with | .iface | .array .. => true | _ => !P.eqGuardType P.depth t)

def tyB (P : Program) (t : Nat) (y : Ty) : Bool := infoB P t y && shB P t y.sh && restB P t y.sh

theorem cells_noAgg {z : Value} (h : isAggV z = false) : z.cells = #[z] := by cases z <;> first | rfl | cases h

theorem tyB_ok {P : Program} {t : Nat} {y : Ty} (h : tyB P t y = true) : TyOk P t y := by
  simp only [tyB, Bool.and_eq_true] at h
  obtain ⟨⟨h1, h2⟩, h3⟩ := h
  refine ⟨?_, ?_, ?_, ?_, ?_, ?_⟩
  · unfold infoB at h1
    split at h1
    · cases h1
    · rename_i i hi
      split at h1
      · cases h1
      · rename_i z hz
        simp only [Bool.and_eq_true, decide_eq_true_eq] at h1
        obtain ⟨⟨⟨⟨g1, g2⟩, g3⟩, g4⟩, g5⟩ := h1
        split at g3
        · rename_i l hl
          have := eqVs1_ok g3
          subst this
          refine ⟨i, z, hi, g1, g2, hz, hl, g4, fun ha => ?_, fun ha => cells_noAgg (g5.trans ha)⟩
          rw [ha] at g5
          cases z <;> first | exact ⟨_, rfl⟩ | cases g5
        · cases g3
  · unfold shB at h2
    split at h2 <;> rename_i hs <;> simp only [hs]
    · split at h2 <;> first | assumption | cases h2
    · split at h2 <;> first | assumption | cases h2
    · split at h2
      · rename_i hu; simp only [decide_eq_true_eq] at h2; subst h2; exact hu
      · cases h2
    · split at h2
      · rename_i hu; simp only [decide_eq_true_eq] at h2; subst h2; exact hu
      · cases h2
    · split at h2
      · rename_i hu; simp only [decide_eq_true_eq] at h2; subst h2; exact hu
      · cases h2
    · split at h2
      · rename_i hu; simp only [Bool.and_eq_true, decide_eq_true_eq] at h2; obtain ⟨rfl, rfl⟩ := h2; exact hu
      · cases h2
    · split at h2
      · rename_i l hu
        simp only [Bool.and_eq_true, Bool.not_eq_true', decide_eq_true_eq] at h2
        obtain ⟨⟨⟨g1, g2⟩, g3⟩, g4⟩ := h2
        exact ⟨g1, l, hu, g2, by simpa using g3, g4⟩
      · cases h2
    · split at h2
      · rename_i ms hu; exact ⟨ms, hu⟩
      · cases h2
    · split at h2
      · rename_i a b c hu; exact ⟨a, b, c, hu⟩
      · cases h2
  · intro ha d hd
    unfold restB at h3
    rw [hd] at h3
    simp only [ha, Bool.false_or, Bool.and_eq_true] at h3
    obtain ⟨⟨g, _⟩, _⟩ := h3
    constructor
    · rintro fs rfl; cases g
    · rintro n e rfl; cases g
  · unfold restB at h3
    split at h3
    · cases h3
    · rename_i d hd; exact ⟨d, hd⟩
  · intro hs ms hu
    unfold restB at h3
    rw [hu] at h3
    simp only [Bool.and_eq_true] at h3
    obtain ⟨⟨_, g⟩, _⟩ := h3
    cases hy : y.sh <;> rw [hy] at g hs <;> first | exact hs | cases g
  · intro hs
    unfold restB at h3
    split at h3
    · cases h3
    · simp only [Bool.and_eq_true] at h3
      obtain ⟨_, g⟩ := h3
      cases hy : y.sh <;> rw [hy] at g hs <;> first | exact hs.elim | simpa using g

def tysB (P : Program) (T : List (Nat × Ty)) : Bool := T.all fun p => tyB P p.1 p.2

theorem tysB_ok {P : Program} : ∀ {T : List (Nat × Ty)}, tysB P T = true → TOk P T
  | [], _, t, y, h => by cases h
  | (s, z) :: r, hb, t, y, h => by
    simp only [tysB, List.all_cons, Bool.and_eq_true] at hb
    simp only [tyOf] at h
    split at h
    · rename_i hs
      cases h
      have := Nat.eq_of_beq_eq_true hs
      subst this
      exact tyB_ok hb.1
    · exact tysB_ok hb.2 t y h

def codesB (env : Env) (l : List Nat) : Bool := l.all fun g => match env.P.funcs[g]? with
  | none => true
  | some fn => !(fn.name == "runtime.NumGoroutine") && match fn.body with
    | none => true
    | some c => codeB env g fn.ntmps c

theorem has_true {k : Nat} : ∀ {l : List Nat}, has k l = true → k ∈ l
  | [], h => by cases h
  | a :: r, h => by
    simp only [has] at h
    split at h
    · rename_i hb; rw [Nat.eq_of_beq_eq_true hb]; exact List.mem_cons_self ..
    · exact List.mem_cons_of_mem _ (has_true h)

theorem codesB_ok {env : Env} {l : List Nat} (hok : ∀ g, env.ok g = true → has g l = true) (h : codesB env l = true) : ∀ g fn c, env.ok g = true → env.P.funcs[g]? = some fn → fn.body = some c → codeB env g fn.ntmps c = true ∧ (fn.name == "runtime.NumGoroutine") = false := by
  intro g fn c h1 h2 h3
  rw [codesB, List.all_eq_true] at h
  have := h g (has_true (hok g h1))
  rw [h2] at this
  simp only [h3, Bool.and_eq_true, Bool.not_eq_true'] at this
  exact ⟨this.2, this.1⟩
end Go.Vm
/- Stepping, with calls and loops. -/
namespace Go.Vm
set_option linter.unusedSimpArgs false
set_option linter.unusedVariables false
set_option linter.unusedSectionVars false
section
variable {env : Env} {orc : Orc} {f nr : Nat} {ops : Array Oper} {o : Oper} {rest : List Oper} {fr fr1 : Fr} {H H1 : Hp} {r : Option Res} {v : V} {K : Res → Prop}

/-- a Bool that was put last is looked at -/
theorem os_bool {t : Nat} {c : Bool} (h1 : c = true → Os env orc ops rest ((t, .bool true) :: fr) H K) (h2 : c = false → Os env orc ops rest ((t, .bool false) :: fr) H K) : Os env orc ops rest ((t, .bool c) :: fr) H K := by
  cases c with
  | true => exact h1 rfl
  | false => exact h2 rfl

/-- a call of a function that takes and gives values alone -/
theorem os_quiet {g : Nat} {args : Array Operand} {at_ : Array TypeId} {l l2 : List V} {v v2 : V} (hw : wantedV ops o fr = some true) (ho : o.op = .call ⟨.value (.func g), args, at_⟩) (hq : env.quiet g = true)
    (hl : evL fr args.toList = some l) (hr : mapO (renV noName dep) (l.map sealV) = some l2) (hc : orc (.call g l2) [] = some (.ret v [])) (hv : renV noName dep v = some v2)
    (h : Os env orc ops rest (putO o.dst v2 fr) H K) : Os env orc ops (o :: rest) fr H K := by
  have hp : isPure o.op = false := by rw [ho]; rfl
  refine os_eff0 hw hp (v := v2) (H1 := H) ?_ h
  unfold opEff
  rw [ho]
  simp only [ev, hl, List.nil_append, List.append_nil, callVia, hq, quietVia, hr, hc, hv]

theorem os_quietv {g : Nat} {f : Operand} {args : Array Operand} {at_ : Array TypeId} {l l2 : List V} {v v2 : V} (hw : wantedV ops o fr = some true) (ho : o.op = .call ⟨.value f, args, at_⟩) (hf : ev fr f = some (.func (.func g) [] []))
    (hq : env.quiet g = true) (hl : evL fr args.toList = some l) (hr : mapO (renV noName dep) (l.map sealV) = some l2) (hc : orc (.call g l2) [] = some (.ret v [])) (hv : renV noName dep v = some v2)
    (h : Os env orc ops rest (putO o.dst v2 fr) H K) : Os env orc ops (o :: rest) fr H K := by
  have hp : isPure o.op = false := by rw [ho]; rfl
  refine os_eff0 hw hp (v := v2) (H1 := H) ?_ h
  unfold opEff
  rw [ho]
  simp only [hf, hl, List.nil_append, List.append_nil, callVia, hq, quietVia, hr, hc, hv]

/-- a call of a function, with the objects that it can come to -/
theorem os_call {g : Nat} {args : Array Operand} {at_ : Array TypeId} {l : List V} {v : V} (hw : wantedV ops o fr = some true) (ho : o.op = .call ⟨.value (.func g), args, at_⟩)
    (hl : evL fr args.toList = some l) (hc : callVia env orc (newName o) g l H = some (.val v H1))
    (h : Os env orc ops rest (putO o.dst v fr) H1 K) : Os env orc ops (o :: rest) fr H K := by
  have hp : isPure o.op = false := by rw [ho]; rfl
  refine os_eff0 hw hp (v := v) (H1 := H1) ?_ h
  unfold opEff
  rw [ho]
  simp only [ev, hl, List.nil_append, List.append_nil, hc]

theorem callVia_eq {k g : Nat} {args args1 args2 : List V} {ns : List Nat} {H2 H3 H4 Hc : Hp} {a : List V × Nat} {v v4 : V} (hq : env.quiet g = false) (h1 : sealArgs (env.argTags g) args = args1)
    (h2 : reach H 99 (args1.flatMap (namesV dep)) [] = ns) (h3 : mapO (renV (idx · ns) dep) args1 = some args2) (h4 : pickO H (idx · ns) ns 0 = some H2) (h5 : tagArgs (env.argTags g) args2 ns.length = a)
    (h6 : (tagRows H2 a.2).1 ++ tips ns.length ((tagRows H2 a.2).2 - ns.length) = Hc) (hc : orc (.call g a.1) Hc = some (.ret v H3)) (h7 : renV (backName ns k) dep v = some v4)
    (h8 : forceHO (mergeH (backName ns k) H3 H) = some H4) (h9 : freshB H k (H3.length - ns.length) = true) : callVia env orc k g args H = some (.val v4 H4) := by
  rw [forceHO_eq] at h8
  simp only [callVia, hq, h1, h2, h3, h4, h5, h6, hc, h7, h8, h9]

/-- an operation is looked at only if the Bool that was put last is so -/
theorem os_guard {j d : Nat} {w c : Bool} {fr' : Fr} (hg : o.guard = some (j, w)) (hd : (ops[j]?).bind (·.dst) = some d) (hf : fr = (d, .bool c) :: fr')
    (h1 : c = true → Os env orc ops (o :: rest) ((d, .bool true) :: fr') H K) (h2 : c = false → Os env orc ops (o :: rest) ((d, .bool false) :: fr') H K) : Os env orc ops (o :: rest) fr H K := by
  subst hf
  cases c with
  | true => exact h1 rfl
  | false => exact h2 rfl
theorem ev_if {c : Operand} {a b : Code} {t : Bool} (hc : ev fr c = some (.bool t)) (h1 : t = true → Ev env orc f nr a fr H K) (h2 : t = false → Ev env orc f nr b fr H K) : Ev env orc f nr (.cond c a b) fr H K := by
  cases t with
  | true => exact ev_true hc rfl (h1 rfl)
  | false => exact ev_false hc rfl (h2 rfl)

theorem wrap64 {x : Int} (h1 : -9223372036854775808 ≤ x) (h2 : x < 9223372036854775808) : IntKind.wrap .i64 x = x := by
  simp only [IntKind.wrap, IntKind.bits, IntKind.signed]; simp; split <;> omega
theorem addN {i k : Nat} (h : i + k < 9223372036854775808) : forceO (some (.int .i64 (IntKind.wrap .i64 ((i : Int) + (k : Int))))) = some (.int .i64 ((i + k : Nat) : Int)) := by
  rw [wrap64 (by omega) (by omega)]; simp [forceO, fV]
theorem subN {i k : Nat} (h : k ≤ i) (hi : i < 9223372036854775808) : forceO (some (.int .i64 (IntKind.wrap .i64 ((i : Int) - (k : Int))))) = some (.int .i64 ((i - k : Nat) : Int)) := by
  rw [wrap64 (by omega) (by omega)]; simp only [forceO, fV]; congr 2; omega
theorem add1 {i : Nat} (h : i < 9223372036854775807) : forceO (some (.int .i64 (IntKind.wrap .i64 ((i : Int) + 1)))) = some (.int .i64 ((i + 1 : Nat) : Int)) := addN (k := 1) (by omega)
theorem add2 {i : Nat} (h : i < 9223372036854775806) : forceO (some (.int .i64 (IntKind.wrap .i64 ((i : Int) + 2)))) = some (.int .i64 ((i + 2 : Nat) : Int)) := addN (k := 2) (by omega)
theorem sub1 {i : Nat} (h : 1 ≤ i) (hi : i < 9223372036854775808) : forceO (some (.int .i64 (IntKind.wrap .i64 ((i : Int) - 1)))) = some (.int .i64 ((i - 1 : Nat) : Int)) := subN (k := 1) h hi
theorem inR_ok {i n : Nat} (h : i < n) : inR (i : Int) n = true := by simp only [inR, Bool.and_eq_true, decide_eq_true_eq]; omega
theorem inI_ok {a b n : Nat} (h1 : a ≤ b) (h2 : b ≤ n) : inI (a : Int) (b : Int) n = true := by simp only [inI, Bool.and_eq_true, decide_eq_true_eq]; omega
theorem ltN (a b : Nat) : ltB (a : Int) (b : Int) = decide (a < b) := by simp only [ltB]; congr 1; simp
theorem leN_ (a b : Nat) : leB (a : Int) (b : Int) = decide (a ≤ b) := by simp only [leB]; congr 1; simp
theorem eqN_ (a b : Nat) : eqB (a : Int) (b : Int) = decide (a = b) := by simp only [eqB]; rw [Bool.eq_iff_iff]; simp; omega
theorem leN_ok {a b : Nat} (h : a ≤ b) : leN a b = true := by simp [leN, h]
theorem eqN_ok {a b : Nat} (h : a = b) : eqN a b = true := by simp [eqN, h]

theorem app_tag {T : List (Nat × Ty)} {t xt e g n m w k : Nat} {y yx ye : Ty} {cs news : List V} {x : V} (h1 : tyOf t T = some y) (h2 : tyOf xt T = some yx) (h3 : y.sh = .slice e) (h4 : isSrc yx.sh = true) (h5 : tyOf e T = some ye)
    (h6 : vNews T e x H = some (m, news)) (h7 : Nat.beq m 0 = false) (h8 : hget g H = some (.tip w n)) (h9 : w = 0 ∨ w = ye.size) (h10 : Nat.beq ye.size 0 = false) (h11 : n * ye.size = cs.length) (h12 : (n + m) * (ye.bytes + 1) ≤ 70368744177664) :
    vAppend T t xt (.slice (.tag g) n cs) x H k = some (.val (.slice (.tag g) (n + m) (cs ++ news)) (hset g (.tip ye.size (n + m)) H)) := by
  have hw : (Nat.beq w 0 || Nat.beq w ye.size) = true := by rcases h9 with rfl | rfl <;> simp
  simp only [vAppend, h1, h2, h3, h4, h5, h6, h7, h8, hw, h10, eqN_ok rfl, eqN_ok h11, leN_ok h12, Bool.not_false, Bool.and_self, gd]
theorem os_load {t : Nat} {a : Operand} {x v : V} (hw : wantedV ops o fr = some true) (ho : o.op = .load t a) (ha : ev fr a = some x) (hl : vLoad env.T t x H = some v) (h : Os env orc ops rest (putO o.dst v fr) H K) : Os env orc ops (o :: rest) fr H K := by
  have hp : isPure o.op = false := by rw [ho]; rfl
  refine os_eff0 hw hp (v := v) (H1 := H) ?_ h
  unfold opEff
  rw [ho]
  simp only [ha, hl]
theorem os_conv {a b : Nat} {c : Operand} {x v : V} (hw : wantedV ops o fr = some true) (ho : o.op = .convert a b c) (ha : ev fr c = some x) (hl : vConv env.T a b x = some v) (h : Os env orc ops rest (putO o.dst v fr) H K) : Os env orc ops (o :: rest) fr H K := by
  have hp : isPure o.op = true := by rw [ho]; rfl
  refine os_pure0 hw hp (v := v) ?_ h
  rw [ho]
  simp only [vPure, ha, hl]
theorem unBytes_ok : ∀ l : List UInt8, unBytes (bytesV l) = some l
  | [] => rfl
  | b :: r => by
    have := unBytes_ok r
    simp only [bytesV, List.map_cons] at this ⊢
    simp only [unBytes, this]
    congr 2
    simp
theorem half {x : Nat} (h : x < 9223372036854775808) : forceO (gd (!eqB (2 : Int) 0) (some (.int .i64 (IntKind.wrap .i64 ((x : Int).tdiv 2))))) = some (.int .i64 ((x / 2 : Nat) : Int)) := by
  have : (x : Int).tdiv 2 = ((x / 2 : Nat) : Int) := by rw [Int.tdiv_eq_ediv_of_nonneg (by omega)]; omega
  rw [this, wrap64 (by omega) (by omega)]
  have : (!eqB (2 : Int) 0) = true := by simp [eqB]
  rw [this]; rfl
theorem os_append {n' : Nat} {cs' : List V} {args : Array Operand} {at_ : Array TypeId} {a b : Operand} {t xt e g n m w : Nat} {y yx ye : Ty} {cs news : List V} {x : V} (hw : wantedV ops o fr = some true) (ho : o.op = .call ⟨.builtin .append, args, at_⟩)
    (ha : args.toList = [a, b]) (ht : at_.toList = [t, xt]) (hs : ev fr a = some (.slice (.tag g) n cs)) (hx : ev fr b = some x)
    (h1 : tyOf t env.T = some y) (h2 : tyOf xt env.T = some yx) (h3 : y.sh = .slice e) (h4 : isSrc yx.sh = true) (h5 : tyOf e env.T = some ye)
    (h6 : vNews env.T e x H = some (m, news)) (h7 : Nat.beq m 0 = false) (h8 : hget g H = some (.tip w n)) (h9 : w = 0 ∨ w = ye.size) (h10 : Nat.beq ye.size 0 = false) (h11 : n * ye.size = cs.length) (h12 : (n + m) * (ye.bytes + 1) ≤ 70368744177664)
    (hn : n + m = n') (hcs : cs ++ news = cs') (hH : forceHO (some (hset g (.tip ye.size n') H)) = some H1)
    (h : Os env orc ops rest (putO o.dst (.slice (.tag g) n' cs') fr) H1 K) : Os env orc ops (o :: rest) fr H K := by
  have hp : isPure o.op = false := by rw [ho]; rfl
  rw [forceHO_eq, Option.some.injEq] at hH
  subst hH hn hcs
  refine os_eff0 hw hp ?_ h
  unfold opEff
  rw [ho]
  simp only [ha, ht, hs, hx]
  exact app_tag h1 h2 h3 h4 h5 h6 h7 h8 h9 h10 h11 h12


/-- a loop: what it leaves -/
def Lp (env : Env) (f nr : Nat) (body : Code) (fr : Fr) (H : Hp) (K : Res → Prop) : Prop := ∃ r, E env (.loop f nr body fr) H = some (.res r) ∧ K r
def roundK (env : Env) (f nr : Nat) (body : Code) (K : Res → Prop) : Res → Prop
  | (.normal, fr, H) => ∃ fr1 H1, normal env f nr (loopId body) fr H = some (fr1, H1) ∧ Lp env f nr body fr1 H1 K
  | r => K r
theorem lp_round {body : Code} (h : Ev env (E env) f nr body fr H (roundK env f nr body K)) : Lp env f nr body fr H K := by
  obtain ⟨⟨e, fr1, H1⟩, h1, h2⟩ := h
  cases e with
  | normal =>
    obtain ⟨fr2, H2, h3, r, h4, h5⟩ := h2
    exact ⟨r, E_loop (by simp only [runLoop, h1, h3]; exact h4), h5⟩
  | ret => exact ⟨_, E_loop (by simp only [runLoop, h1]), h2⟩
  | exit i => exact ⟨_, E_loop (by simp only [runLoop, h1]), h2⟩
  | panic v => exact ⟨_, E_loop (by simp only [runLoop, h1]), h2⟩
theorem ev_loop {body : Code} (hn : normal env f nr (loopId body) fr H = some (fr1, H1)) (h : Lp env f nr body fr1 H1 K) : Ev env (E env) f nr (.loop body) fr H K := by
  obtain ⟨r, h1, h2⟩ := h
  exact ⟨r, by simp only [evalCode, hn, h1], h2⟩
theorem Lp.mono {body : Code} {K K' : Res → Prop} (h : Lp env f nr body fr H K) (hk : ∀ r, K r → K' r) : Lp env f nr body fr H K' := by
  obtain ⟨r, h1, h2⟩ := h; exact ⟨r, h1, hk r h2⟩
theorem call_ret {g : Nat} {fn : Func} {c : Code} {args : List V} {v1 : V} {H2 : Hp} (hi : env.intr g = none) (hf : env.P.funcs[g]? = some fn) (hok : env.ok g = true) (hb : fn.body = some c)
    (h : Ev env (E env) g H.length c (bindArgs 0 args) H (RetK env H.length fn.results.toList (env.tags g) v1 H2)) : E env (.call g args) H = some (.ret v1 H2) :=
  E_call hi (run_ret hf hok hb h)
/-- what a call gives, as far as it is said -/
def RetP (env : Env) (nr : Nat) (l : List ResultVar) (tg : Bool) (P : V → Hp → Prop) : Res → Prop
  | (.ret, fr, H1) | (.normal, fr, H1) => ∃ v v1 H2, resultV env.T fr H1 l = some v ∧ finish nr (match tg with | true => v | false => sealD v) H1 = some (v1, H2) ∧ P v1 H2
  | _ => False
theorem call_retP {g : Nat} {fn : Func} {c : Code} {args : List V} {P : V → Hp → Prop} (hi : env.intr g = none) (hf : env.P.funcs[g]? = some fn) (hok : env.ok g = true) (hb : fn.body = some c)
    (h : Ev env (E env) g H.length c (bindArgs 0 args) H (RetP env H.length fn.results.toList (env.tags g) P)) : ∃ v H2, E env (.call g args) H = some (.ret v H2) ∧ P v H2 := by
  obtain ⟨⟨e, fr1, H1⟩, h1, h2⟩ := h
  cases e with
  | normal =>
    obtain ⟨v, v1, H2, h3, h4, h5⟩ := h2
    exact ⟨v1, H2, call_ret hi hf hok hb ⟨_, h1, v, h3, h4⟩, h5⟩
  | ret =>
    obtain ⟨v, v1, H2, h3, h4, h5⟩ := h2
    exact ⟨v1, H2, call_ret hi hf hok hb ⟨_, h1, v, h3, h4⟩, h5⟩
  | exit i => exact h2.elim
  | panic v => exact h2.elim
theorem lp_ind {σ : Type} {body : Code} (F : σ → Fr) (G : σ → Hp) (P : σ → Prop) (μ : σ → Nat) (i : σ) (hP : P i)
    (round : ∀ j, P j → (∀ j', μ j' < μ j → P j' → Lp env f nr body (F j') (G j') K) → Ev env (E env) f nr body (F j) (G j) (roundK env f nr body K)) : Lp env f nr body (F i) (G i) K := by
  have key : ∀ m j, μ j = m → P j → Lp env f nr body (F j) (G j) K := by
    intro m
    induction m using Nat.strongRecOn with
    | _ m ih =>
      intro j hj hp
      exact lp_round (round j hp fun j' hlt hp' => ih (μ j') (by omega) j' rfl hp')
  exact key _ i rfl hP
end
end Go.Vm
/- Slots that are not read any more: ways are joined, frames are cut. -/
namespace Go.Vm
set_option linter.unusedSimpArgs false
set_option linter.unusedVariables false
set_option linter.unusedSectionVars false
/-- two frames say the same of all slots but some -/
def Off (D : List Nat) (fr fr' : Fr) : Prop := ∀ s, has s D = false → look s fr = look s fr'
theorem Off.refl {D : List Nat} {fr : Fr} : Off D fr fr := fun _ _ => rfl
theorem Off.symm {D : List Nat} {fr fr' : Fr} (h : Off D fr fr') : Off D fr' fr := fun s hs => (h s hs).symm
theorem Off.trans {D : List Nat} {a b c : Fr} (h : Off D a b) (g : Off D b c) : Off D a c := fun s hs => (h s hs).trans (g s hs)
theorem Off.left {D : List Nat} {a b : Fr} {k : Nat} {v : V} (hk : has k D = true) (h : Off D a b) : Off D ((k, v) :: a) b := by
  intro s hs
  simp only [look]
  cases hb : Nat.beq k s with
  | true => have := Nat.eq_of_beq_eq_true hb; subst this; rw [hk] at hs; cases hs
  | false => exact h s hs
theorem Off.right {D : List Nat} {a b : Fr} {k : Nat} {v : V} (hk : has k D = true) (h : Off D a b) : Off D a ((k, v) :: b) := (Off.left hk h.symm).symm
theorem Off.both {D : List Nat} {a b : Fr} {k : Nat} {v : V} (h : Off D a b) : Off D ((k, v) :: a) ((k, v) :: b) := by
  intro s hs
  simp only [look]
  cases Nat.beq k s with
  | true => rfl
  | false => exact h s hs
/-- a slot is written again -/
theorem Off.over {D : List Nat} {a b : Fr} {k : Nat} {v : V} (h : Off (k :: D) a b) : Off D ((k, v) :: a) ((k, v) :: b) := by
  intro s hs
  simp only [look]
  cases hb : Nat.beq k s with
  | true => rfl
  | false => exact h s (by simp only [has, hb]; exact hs)

def offO (D : List Nat) : Operand → Bool
  | .tmp t => !has t D
  | _ => true
def offL (D : List Nat) (l : List Operand) : Bool := l.all (offO D)
def offP (D : List Nat) (l : List (Nat × Operand)) : Bool := l.all fun p => offO D p.2
def offX (D : List Nat) (o : Option Operand) : Bool := match o with | none => true | some x => offO D x
def offOp (D : List Nat) : Op → Bool
  | .move x | .assign x | .nilCheck x | .unOp _ _ x | .convert _ _ x | .makeInterface _ x | .fieldAddr _ x _ | .field _ x _ | .typeAssert x .. | .extract x _ | .load _ x | .box _ x | .panic x => offO D x
  | .pick a b c => offO D a && offO D b && offO D c
  | .build _ ps | .buildSlice _ _ ps => offP D ps.toList
  | .binOp _ _ x y _ | .indexAddr _ x y | .index _ x y | .store _ x y | .makeSlice _ x y => offO D x && offO D y
  | .makeFunc _ a b => offL D a.toList && offL D b.toList
  | .slice _ x lo hi mx => offO D x && offX D lo && offX D hi && offX D mx
  | .alloc _ => true
  | .call c => offL D c.args.toList && (match c.callee with | .value f => offO D f | _ => true)
  | _ => false
section
variable {D : List Nat} {fr fr' : Fr}
theorem ev_off (h : Off D fr fr') {o : Operand} (ho : offO D o = true) : ev fr o = ev fr' o := by
  cases o with
  | tmp t => simp only [offO, Bool.not_eq_true'] at ho; simp only [ev, h t ho]
  | _ => rfl
theorem evL_off (h : Off D fr fr') : ∀ {l : List Operand}, offL D l = true → evL fr l = evL fr' l
  | [], _ => rfl
  | o :: l, ho => by
    simp only [offL, List.all_cons, Bool.and_eq_true] at ho
    have := evL_off h (l := l) ho.2
    simp only [evL, mapO] at this ⊢
    rw [ev_off h ho.1, this]
theorem evP_off (h : Off D fr fr') : ∀ {l : List (Nat × Operand)}, offP D l = true → evP fr l = evP fr' l
  | [], _ => rfl
  | o :: l, ho => by
    simp only [offP, List.all_cons, Bool.and_eq_true] at ho
    have := evP_off h (l := l) ho.2
    simp only [evP, mapO] at this ⊢
    rw [ev_off h ho.1, this]
theorem evX_off (h : Off D fr fr') {o : Option Operand} (ho : offX D o = true) : evX fr o = evX fr' o := by
  cases o with
  | none => rfl
  | some x => simp only [evX, ev_off h (o := x) ho]
theorem vPure_off (h : Off D fr fr') {T : List (Nat × Ty)} {o : Op} (ho : offOp D o = true) : vPure T fr o = vPure T fr' o := by
  cases o <;> simp only [offOp, Bool.and_eq_true] at ho <;> try rfl
  case move x => simp only [vPure, ev_off h ho]
  case assign x => simp only [vPure, ev_off h ho]
  case nilCheck x => simp only [vPure, ev_off h ho]
  case unOp x => simp only [vPure, ev_off h ho]
  case convert x => simp only [vPure, ev_off h ho]
  case makeInterface x => simp only [vPure, ev_off h ho]
  case fieldAddr x _ => simp only [vPure, ev_off h ho]
  case field x _ => simp only [vPure, ev_off h ho]
  case typeAssert x _ _ _ => simp only [vPure, ev_off h ho]
  case extract x _ => simp only [vPure, ev_off h ho]
  case pick => simp only [vPure, ev_off h ho.1.1, ev_off h ho.1.2, ev_off h ho.2]
  case build => simp only [vPure, evP_off h ho]
  case buildSlice => simp only [vPure, evP_off h ho]
  case binOp => simp only [vPure, ev_off h ho.1, ev_off h ho.2]
  case indexAddr => simp only [vPure, ev_off h ho.1, ev_off h ho.2]
  case index => simp only [vPure, ev_off h ho.1, ev_off h ho.2]
  case makeFunc => simp only [vPure, evL_off h ho.1, evL_off h ho.2]
  case slice => simp only [vPure, ev_off h ho.1.1.1, evX_off h ho.1.1.2, evX_off h ho.1.2, evX_off h ho.2]
  case call c =>
    obtain ⟨callee, args, at_⟩ := c
    cases callee with
    | builtin b =>
      cases b <;> try rfl
      case len =>
        simp only [vPure]
        generalize hl : args.toList = l at ho
        generalize at_.toList = ts
        match l, ts with
        | [x], t :: _ => simp only [offL, List.all_cons, Bool.and_eq_true] at ho; simp only [ev_off h ho.1.1]
        | [], _ => rfl
        | _ :: _ :: _, _ => rfl
        | [_], [] => rfl
      case min =>
        simp only [vPure]
        generalize hl : args.toList = l at ho
        match l with
        | [x, y] => simp only [offL, List.all_cons, Bool.and_eq_true] at ho; simp only [ev_off h ho.1.1, ev_off h ho.1.2.1]
        | [] => rfl
        | [_] => rfl
        | _ :: _ :: _ :: _ => rfl
      case max =>
        simp only [vPure]
        generalize hl : args.toList = l at ho
        match l with
        | [x, y] => simp only [offL, List.all_cons, Bool.and_eq_true] at ho; simp only [ev_off h ho.1.1, ev_off h ho.1.2.1]
        | [] => rfl
        | [_] => rfl
        | _ :: _ :: _ :: _ => rfl
    | _ => rfl
theorem opStep_off {env : Env} {orc : Orc} {H : Hp} (h : Off D fr fr') {o : Oper} (ho : offOp D o.op = true) : opStep env orc fr H o = opStep env orc fr' H o := by
  unfold opStep opEff newName
  generalize o.dst = dst
  generalize o.op = op at ho
  rw [vPure_off h ho]
  cases hp : isPure op with
  | true => rfl
  | false =>
    simp only
    cases op <;> simp only [offOp, Bool.and_eq_true] at ho <;> try rfl
    case load => simp only [ev_off h ho]
    case box => simp only [ev_off h ho]
    case panic => simp only [ev_off h ho]
    case store => simp only [ev_off h ho.1, ev_off h ho.2]
    case makeSlice => simp only [ev_off h ho.1, ev_off h ho.2]
    case call c =>
      obtain ⟨callee, args, at_⟩ := c
      cases callee with
      | builtin b =>
        cases b <;> try rfl
        case append =>
          simp only
          generalize hl : args.toList = l at ho
          generalize at_.toList = ts
          match l, ts with
          | [x, y], [t, u] => simp only [offL, List.all_cons, Bool.and_eq_true] at ho; simp only [ev_off h ho.1.1, ev_off h ho.1.2.1]
          | [], _ => rfl
          | [_], _ => rfl
          | _ :: _ :: _ :: _, _ => rfl
          | [_, _], [] => rfl
          | [_, _], [_] => rfl
          | [_, _], _ :: _ :: _ :: _ => rfl
      | value f => simp only [ev_off h ho.2, evL_off h ho.1]
      | _ => rfl

def offOper (D : List Nat) (ops : Array Oper) (o : Oper) : Bool := offOp D o.op && (match o.guard with | none => true | some (j, _) => match (ops[j]?).bind (·.dst) with | some t => !has t D | none => true)
theorem wantedV_off {ops : Array Oper} {o : Oper} (h : Off D fr fr') (ho : offOper D ops o = true) : wantedV ops o fr = wantedV ops o fr' := by
  simp only [offOper, Bool.and_eq_true] at ho
  unfold wantedV
  cases hg : o.guard with
  | none => rfl
  | some x =>
    obtain ⟨j, w⟩ := x
    have h2 := ho.2
    rw [hg] at h2
    simp only at h2 ⊢
    unfold yieldedV
    cases hd : (ops[j]?).bind (·.dst) with
    | none => rfl
    | some t =>
      rw [hd] at h2
      simp only [Bool.not_eq_true'] at h2
      simp only [h t h2]
theorem Off.put (h : Off D fr fr') {d : Option Nat} {v : V} : Off D (putO d v fr) (putO d v fr') := by
  cases d with
  | none => exact h
  | some d => exact h.both
/-- the same results, but for the slots -/
def OffR (D : List Nat) : Option Res → Option Res → Prop
  | none, none => True
  | some (e, fr, H), some (e', fr', H') => e = e' ∧ H = H' ∧ Off D fr fr'
  | _, _ => False
theorem OffR.refl {r : Option Res} : OffR D r r := by
  cases r with
  | none => trivial
  | some r => exact ⟨rfl, rfl, .refl⟩
theorem evalOps_off {env : Env} {orc : Orc} {ops : Array Oper} : ∀ {l : List Oper} {fr fr' : Fr} {H : Hp}, Off D fr fr' → l.all (offOper D ops) = true → OffR D (evalOps env orc ops l fr H) (evalOps env orc ops l fr' H)
  | [], fr, fr', H, h, _ => ⟨rfl, rfl, h⟩
  | o :: l, fr, fr', H, h, ho => by
    simp only [List.all_cons, Bool.and_eq_true] at ho
    have h2 : offOp D o.op = true := by have := ho.1; simp only [offOper, Bool.and_eq_true] at this; exact this.1
    simp only [evalOps]
    rw [wantedV_off h ho.1, opStep_off h h2]
    cases wantedV ops o fr' with
    | none => trivial
    | some b =>
      cases b with
      | false => exact evalOps_off h.put ho.2
      | true =>
        cases opStep env orc fr' H o with
        | none => trivial
        | some r =>
          cases r with
          | val v H1 => exact evalOps_off h.put ho.2
          | pan v H1 => exact ⟨rfl, rfl, h⟩
/-- code that reads none of some slots -/
def offC (env : Env) (f : Nat) (D : List Nat) : Code → Bool
  | .region _ ops _ => ops.toList.all (offOper D ops)
  | .seq a b => offC env f D a && offC env f D b
  | .cond c a b => offO D c && offC env f D a && offC env f D b
  | .block _ c => offC env f D c
  | .loop body => (env.keep f (loopId body)).all fun s => !has s D
  | .skip | .label _ | .exit _ | .ret => true
  | _ => false
theorem normal_off {env : Env} {f nr lp : Nat} {H : Hp} (h : Off D fr fr') (hk : ((env.keep f lp).all fun s => !has s D) = true) : normal env f nr lp fr H = normal env f nr lp fr' H := by
  have : ((env.keep f lp).map fun s => (s, look s fr)) = ((env.keep f lp).map fun s => (s, look s fr')) := by
    apply List.map_congr_left
    intro s hs
    have := List.all_eq_true.1 hk s hs
    rw [h s (by simpa using this)]
  unfold normal
  rw [this]
theorem loose_off {ops : Array Oper} {b : Bool} (hc : ops.toList.all (offOper D ops) = true) {r r' : Option Res} (h : OffR D r r') : OffR D (looseChk b ops r) (looseChk b ops r') := by
  cases b with
  | false => exact h
  | true =>
    cases r with
    | none =>
      cases r' with
      | none => trivial
      | some r' => exact h.elim
    | some r =>
      cases r' with
      | none => exact h.elim
      | some r' =>
        obtain ⟨e, g, H1⟩ := r
        obtain ⟨e', g', H1'⟩ := r'
        obtain ⟨rfl, rfl, h3⟩ := h
        cases e with
        | normal =>
          have he : ((addrTmps ops.toList).all fun t => isCptr (look t g)) = ((addrTmps ops.toList).all fun t => isCptr (look t g')) := by
            have key : ∀ l : List Oper, l.all (offOper D ops) = true → ((addrTmps l).all fun t => isCptr (look t g)) = ((addrTmps l).all fun t => isCptr (look t g')) := by
              intro l
              induction l with
              | nil => intro _; rfl
              | cons o l ih =>
                intro hl
                simp only [List.all_cons, Bool.and_eq_true] at hl
                simp only [addrTmps]
                cases ht : ldTmp o with
                | none => exact ih hl.2
                | some t =>
                  simp only [List.all_cons]
                  rw [ih hl.2]
                  have h4 : has t D = false := by
                    have h5 := hl.1
                    simp only [offOper, Bool.and_eq_true] at h5
                    unfold ldTmp at ht
                    split at ht
                    · rename_i ty t' hop
                      cases ht
                      have h6 := h5.1
                      rw [hop] at h6
                      simpa [offOp, offO] using h6
                    · cases ht
                  rw [h3 t h4]
            exact key _ hc
          simp only [looseChk, he]
          cases (addrTmps ops.toList).all fun t => isCptr (look t g') with
          | true => exact ⟨rfl, rfl, h3⟩
          | false => trivial
        | ret => trivial
        | exit i => trivial
        | panic v => trivial
theorem evalCode_off {env : Env} {orc : Orc} {f nr : Nat} : ∀ {c : Code} {fr fr' : Fr} {H : Hp}, Off D fr fr' → offC env f D c = true → OffR D (evalCode env orc f nr c fr H) (evalCode env orc f nr c fr' H) := by
  intro c
  induction c with
  | region id ops d =>
    intro fr fr' H h hc
    simp only [evalCode]
    refine loose_off hc ?_
    have := evalOps_off (env := env) (orc := orc) (ops := ops) (H := H) h hc
    revert this
    cases evalOps env orc ops ops.toList fr H with
    | none =>
      cases evalOps env orc ops ops.toList fr' H with
      | none => intro _; trivial
      | some r => intro h; exact h.elim
    | some r =>
      cases evalOps env orc ops ops.toList fr' H with
      | none => intro h; exact h.elim
      | some r' =>
        obtain ⟨e, g, H1⟩ := r
        obtain ⟨e', g', H1'⟩ := r'
        rintro ⟨rfl, rfl, h3⟩
        cases e with
        | panic v => cases d with
          | true => trivial
          | false => exact ⟨rfl, rfl, h3⟩
        | _ => exact ⟨rfl, rfl, h3⟩
  | seq a b iha ihb =>
    intro fr fr' H h hc
    simp only [offC, Bool.and_eq_true] at hc
    simp only [evalCode]
    have := iha (H := H) h hc.1
    revert this
    cases evalCode env orc f nr a fr H with
    | none =>
      cases evalCode env orc f nr a fr' H with
      | none => intro _; trivial
      | some r => intro h; exact h.elim
    | some r =>
      cases evalCode env orc f nr a fr' H with
      | none => intro h; exact h.elim
      | some r' =>
        obtain ⟨e, g, H1⟩ := r
        obtain ⟨e', g', H1'⟩ := r'
        rintro ⟨rfl, rfl, h3⟩
        cases e with
        | normal => exact ihb h3 hc.2
        | _ => exact ⟨rfl, rfl, h3⟩
  | cond c a b iha ihb =>
    intro fr fr' H h hc
    simp only [offC, Bool.and_eq_true] at hc
    simp only [evalCode]
    rw [ev_off h hc.1.1]
    cases ev fr' c with
    | none => trivial
    | some v =>
      cases v with
      | bool t => cases t with
        | true => exact iha h hc.1.2
        | false => exact ihb h hc.2
      | _ => trivial
  | block id a iha =>
    intro fr fr' H h hc
    simp only [offC] at hc
    simp only [evalCode]
    have := iha (H := H) h hc
    revert this
    cases evalCode env orc f nr a fr H with
    | none =>
      cases evalCode env orc f nr a fr' H with
      | none => intro _; trivial
      | some r => intro h; exact h.elim
    | some r =>
      cases evalCode env orc f nr a fr' H with
      | none => intro h; exact h.elim
      | some r' =>
        obtain ⟨e, g, H1⟩ := r
        obtain ⟨e', g', H1'⟩ := r'
        rintro ⟨rfl, rfl, h3⟩
        cases e with
        | exit i =>
          simp only
          cases Nat.beq i id with
          | true => exact ⟨rfl, rfl, h3⟩
          | false => exact ⟨rfl, rfl, h3⟩
        | _ => exact ⟨rfl, rfl, h3⟩
  | loop a iha =>
    intro fr fr' H h hc
    simp only [offC] at hc
    simp only [evalCode]
    rw [normal_off h hc]
    exact .refl
  | skip => intro fr fr' H h _; exact ⟨rfl, rfl, h⟩
  | label => intro fr fr' H h _; exact ⟨rfl, rfl, h⟩
  | exit => intro fr fr' H h _; exact ⟨rfl, rfl, h⟩
  | ret => intro fr fr' H h _; exact ⟨rfl, rfl, h⟩
  | _ => intro fr fr' H h hc; cases hc

section
variable {env : Env} {orc : Orc} {f nr : Nat} {H H1 : Hp} {K : Res → Prop}
/-- what follows does not look at some slots -/
def Resp (D : List Nat) (K : Res → Prop) : Prop := ∀ e g g' H, Off D g g' → K (e, g, H) → K (e, g', H)
theorem ev_forget {c : Code} (D : List Nat) (hc : offC env f D c = true) (hK : Resp D K) {fr fr' : Fr} (ho : Off D fr' fr) (h : Ev env orc f nr c fr' H K) : Ev env orc f nr c fr H K := by
  obtain ⟨⟨e, g, H1⟩, h1, h2⟩ := h
  have := evalCode_off (env := env) (orc := orc) (nr := nr) (H := H) ho hc
  rw [h1] at this
  revert this
  cases hq : evalCode env orc f nr c fr H with
  | none => intro h; exact h.elim
  | some r =>
    obtain ⟨e', g', H1'⟩ := r
    rintro ⟨rfl, rfl, h3⟩
    exact ⟨_, hq, hK _ _ _ _ h3 h2⟩
theorem resp_then {b : Code} (hb : offC env f D b = true) (hK : Resp D K) : Resp D (thenK env orc f nr b K) := by
  intro e g g' H ho h
  cases e with
  | normal => exact ev_forget D hb hK ho h
  | _ => exact hK _ _ _ _ ho h
theorem resp_block {id : Nat} (hK : Resp D K) : Resp D (blockK id K) := by
  intro e g g' H ho h
  cases e with
  | exit i =>
    simp only [blockK] at h ⊢
    cases hb : Nat.beq i id with
    | true => rw [hb] at h; exact hK _ _ _ _ ho h
    | false => rw [hb] at h; exact hK _ _ _ _ ho h
  | _ => exact hK _ _ _ _ ho h
theorem resp_reg {d : Bool} (hK : Resp D K) : Resp D (regK d K) := by
  intro e g g' H ho h
  cases e with
  | panic v => cases d with
    | true => exact h.elim
    | false => exact hK _ _ _ _ ho h
  | _ => exact hK _ _ _ _ ho h
theorem resp_round {body : Code} (hk : ((env.keep f (loopId body)).all fun s => !has s D) = true) (hK : Resp D K) : Resp D (roundK env f nr body K) := by
  intro e g g' H ho h
  cases e with
  | normal =>
    obtain ⟨fr1, H1, h1, h2⟩ := h
    exact ⟨fr1, H1, by rw [← normal_off ho hk]; exact h1, h2⟩
  | _ => exact hK _ _ _ _ ho h
def offRes (D : List Nat) (l : List ResultVar) : Bool := l.all fun | .tmp t => !has t D | .cell t _ => !has t D
theorem resultV_off {T : List (Nat × Ty)} {l : List ResultVar} (h : Off D fr fr') (hl : offRes D l = true) : resultV T fr H l = resultV T fr' H l := by
  have : ∀ {l : List ResultVar}, offRes D l = true → mapO (resV T fr H) l = mapO (resV T fr' H) l := by
    intro l
    induction l with
    | nil => intro _; rfl
    | cons r l ih =>
      intro hl
      simp only [offRes, List.all_cons, Bool.and_eq_true] at hl
      have h1 : resV T fr H r = resV T fr' H r := by
        cases r with
        | tmp t => simp only [resV, h t (by simpa using hl.1)]
        | cell t _ => simp only [resV, h t (by simpa using hl.1)]
      simp only [mapO]
      rw [h1, ih hl.2]
  unfold resultV
  rw [this hl]
theorem resp_ret {l : List ResultVar} {tg : Bool} {v1 : V} {H2 : Hp} (hl : offRes D l = true) : Resp D (RetK env nr l tg v1 H2) := by
  intro e g g' H ho h
  cases e with
  | normal => obtain ⟨v, h1, h2⟩ := h; exact ⟨v, by rw [← resultV_off ho hl]; exact h1, h2⟩
  | ret => obtain ⟨v, h1, h2⟩ := h; exact ⟨v, by rw [← resultV_off ho hl]; exact h1, h2⟩
  | _ => exact h
theorem resp_retP {l : List ResultVar} {tg : Bool} {P : V → Hp → Prop} (hl : offRes D l = true) : Resp D (RetP env nr l tg P) := by
  intro e g g' H ho h
  cases e with
  | normal => obtain ⟨v, v1, H2, h1, h2⟩ := h; exact ⟨v, v1, H2, by rw [← resultV_off ho hl]; exact h1, h2⟩
  | ret => obtain ⟨v, v1, H2, h1, h2⟩ := h; exact ⟨v, v1, H2, by rw [← resultV_off ho hl]; exact h1, h2⟩
  | _ => exact h

/-- ways are joined -/
def joinK {α : Type} (D : List Nat) (F : α → Fr) (G : α → Hp) (Q : α → Prop) (K : Res → Prop) : Res → Prop
  | (.normal, g, H) => ∃ x, Q x ∧ Off D (F x) g ∧ H = G x
  | r => K r
theorem ev_join {a b : Code} {fr : Fr} {α : Type} (D : List Nat) (F : α → Fr → Fr) (G : α → Hp → Hp) (Q : α → Prop) (hb : offC env f D b = true) (hK : Resp D K)
    (h1 : Ev env orc f nr a fr H (joinK D (fun x => F x fr) (fun x => G x H) Q K)) (h2 : ∀ x, Q x → Ev env orc f nr b (F x fr) (G x H) K) : Ev env orc f nr (.seq a b) fr H K := by
  refine ev_seq ?_
  obtain ⟨⟨e, g, H1⟩, h3, h4⟩ := h1
  refine ⟨_, h3, ?_⟩
  cases e with
  | normal =>
    obtain ⟨x, hx, ho, rfl⟩ := h4
    exact ev_forget D hb hK ho (h2 x hx)
  | _ => exact h4
theorem ev_joinF {a b : Code} {fr : Fr} {α : Type} (D : List Nat) (F : α → Fr → Fr) (Q : α → Prop) (hb : offC env f D b = true) (hK : Resp D K)
    (h1 : Ev env orc f nr a fr H (joinK D (fun x => F x fr) (fun _ => H) Q K)) (h2 : ∀ x, Q x → Ev env orc f nr b (F x fr) H K) : Ev env orc f nr (.seq a b) fr H K :=
  ev_join D F (fun _ H => H) Q hb hK h1 h2
theorem resp_join {α : Type} {D D' : List Nat} {F : α → Fr} {G : α → Hp} {Q : α → Prop} (hD : (D'.all fun s => has s D) = true) (hK : Resp D' K) : Resp D' (joinK D F G Q K) := by
  intro e g g' H ho h
  have hs : ∀ {s}, has s D = false → has s D' = false := by
    intro s hs
    have key : ∀ l : List Nat, has s l = true → (l.all fun s => has s D) = true → has s D = true := by
      intro l
      induction l with
      | nil => intro h; cases h
      | cons a l ih =>
        intro h1 h2
        simp only [List.all_cons, Bool.and_eq_true] at h2
        simp only [has] at h1
        cases hb : Nat.beq a s with
        | true => have := Nat.eq_of_beq_eq_true hb; subst this; exact h2.1
        | false => rw [hb] at h1; exact ih h1 h2.2
    cases h3 : has s D' with
    | false => rfl
    | true => rw [key D' h3 hD] at hs; cases hs
  cases e with
  | normal =>
    obtain ⟨x, hx, h1, h2⟩ := h
    exact ⟨x, hx, fun s h3 => (h1 s h3).trans (ho s (hs h3)), h2⟩
  | _ => exact hK _ _ _ _ ho h
/-- a slot that says what it said -/
theorem Off.noop {D : List Nat} {a b : Fr} {k : Nat} {v : V} (hl : look k b = v) (h : Off D a b) : Off D ((k, v) :: a) b := by
  intro s hs
  simp only [look]
  cases hb : Nat.beq k s with
  | true => have := Nat.eq_of_beq_eq_true hb; subst this; exact hl.symm
  | false => exact h s hs
theorem Off.noop2 {D : List Nat} {a b : Fr} {k : Nat} {v : V} (hl : look k b = v) (h : Off (k :: D) a b) : Off D ((k, v) :: a) b := by
  intro s hs
  simp only [look]
  cases hb : Nat.beq k s with
  | true => have := Nat.eq_of_beq_eq_true hb; subst this; exact hl.symm
  | false => exact h s (by simp only [has, hb]; exact hs)
end
end
end Go.Vm
/- Stores, and slices that are written by index. -/
namespace Go.Vm
set_option linter.unusedSimpArgs false
set_option linter.unusedVariables false
set_option linter.unusedSectionVars false
section
variable {env : Env} {orc : Orc} {ops : Array Oper} {o : Oper} {rest : List Oper} {fr : Fr} {H H1 : Hp} {K : Res → Prop}
theorem os_store {t : Nat} {a b : Operand} {x v : V} (hw : wantedV ops o fr = some true) (ho : o.op = .store t a b) (ha : ev fr a = some x) (hb : ev fr b = some v) (hs : forceHO (vStore env.T t x v H) = some H1) (h : Os env orc ops rest (putO o.dst .undef fr) H1 K) : Os env orc ops (o :: rest) fr H K := by
  rw [forceHO_eq] at hs
  have hp : isPure o.op = false := by rw [ho]; rfl
  refine os_eff0 hw hp (v := .undef) (H1 := H1) ?_ h
  unfold opEff
  rw [ho]
  simp only [ha, hb, hs]
theorem os_appendR {args : Array Operand} {at_ : Array TypeId} {a b : Operand} {t xt e r n m w off : Nat} {y yx ye : Ty} {cs news : List V} {x : V} (hw : wantedV ops o fr = some true) (ho : o.op = .call ⟨.builtin .append, args, at_⟩)
    (ha : args.toList = [a, b]) (ht : at_.toList = [t, xt]) (hs : ev fr a = some (.rslice r off n true)) (hx : ev fr b = some x)
    (h1 : tyOf t env.T = some y) (h2 : tyOf xt env.T = some yx) (h3 : y.sh = .slice e) (h4 : isSrc yx.sh = true) (h5 : tyOf e env.T = some ye)
    (h6 : vNews env.T e x H = some (m, news)) (h7 : Nat.beq m 0 = false) (h8 : hget r H = some (.grow w cs)) (h9 : hget (newName o) H = none) (h10 : Nat.beq w ye.size = true) (h11 : Nat.beq w 0 = false) (h12 : n * w ≤ cs.length) (h13 : (n + m) * (ye.bytes + 1) ≤ 70368744177664)
    {new : List V} (hnew : cs.take (n * w) ++ news = new) (hH : forceHO (some (hset r .gone (hset (newName o) (.grow w new) H))) = some H1)
    (h : Os env orc ops rest (putO o.dst (.rslice (newName o) 0 (n + m) true) fr) H1 K) : Os env orc ops (o :: rest) fr H K := by
  have hp : isPure o.op = false := by rw [ho]; rfl
  rw [forceHO_eq, Option.some.injEq] at hH
  subst hH hnew
  refine os_eff0 hw hp ?_ h
  unfold opEff
  rw [ho]
  simp only [ha, ht, hs, hx, vAppend, h1, h2, h3, h4, h5, h6, h7, h8, h9, h10, h11, leN_ok h12, leN_ok h13, Bool.not_false, Bool.and_self, gd]
end
end Go.Vm
