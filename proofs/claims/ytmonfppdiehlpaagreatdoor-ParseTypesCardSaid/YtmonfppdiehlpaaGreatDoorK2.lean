/- What a Go function computes, step by step, as a function in Lean: texts that were built one by one, joined: VmL VmM VmN VmO VmP VmEq VmQ VmR VmT VmTa VmTb. -/
import Derived.Test.YtmonfppdiehlpaaGreatDoorK1
/- append: what it does to the objects. -/
namespace Go.Vm
set_option linter.unusedSimpArgs false
set_option linter.unusedVariables false
set_option linter.unusedSectionVars false
section
variable {P : Program} {T : List (Nat × Ty)} {ρ : Rho} {lab : Lab} {w : World} {H : Hp} {fr : Fr} {a : Act}

/-- what an operation on memory leaves -/
def Did (P : Program) (ρ : Rho) (lab : Lab) (w : World) (s : Sem Value) (v : V) (H' : Hp) : Prop :=
  ∃ z w' ρ' lab', s.run P w = .ok z w' ∧ Sim ρ' lab' H' w' ∧ Ext lab w lab' w' ∧ ρ.le ρ' ∧ Rel ρ' lab' w' v z

/-- a row moves to a new block: of a tag g, old or new -/
theorem grown_tag (hS : Sim ρ lab H w) {e g n m c cap : Nat} {ye : Ty} {cs news : List V} {os ys rest : List Value} {ow : Own} (hlow : n + m ≤ c) (hsz : ye.size ≠ 0) (hm : m ≠ 0)
    (hg : (∃ e', hget g H = some (.tip e' n)) ∨ hget g H = none)
    (hr1 : RelL ρ lab w cs os) (hr2 : RelL ρ lab w news ys) (hos : os.length = n * ye.size) (hys : ys.length = m * ye.size) (hrest : rest.length = (c - (n + m)) * ye.size)
    (h1 : ∀ x ∈ os, x.oneCell' = true) (h2 : ∀ x ∈ ys, x.oneCell' = true) (hn1 : ∀ v ∈ cs, NF v) (hn2 : ∀ v ∈ news, NF v) {s : Sem Value}
    (hrun : s.run P w = .ok (.slice (some ⟨w.heap.size, 0, none⟩) (n + m) c) { w with drawn := w.drawn + 1, heap := w.heap.push (.cells (os ++ ys ++ rest).toArray e) }) :
    Did P ρ lab w s (.slice (.tag g) (n + m) (cs ++ news)) (hset g (.tip ye.size (n + m)) H) := by
  let w' : World := { w with drawn := w.drawn + 1, heap := w.heap.push (.cells (os ++ ys ++ rest).toArray e) }
  have gr : Grew w w' := (Grew.draw w _).trans (Grew.push { w with drawn := w.drawn + 1 } _)
  have hnone : ρ.hd g (n + m) = none := by
    cases hh : ρ.hd g (n + m) with
    | none => rfl
    | some x =>
      obtain ⟨e', m', k1, k2⟩ := hS.hdom g (n + m) x hh
      rcases hg with ⟨e2, hg⟩ | hg
      · rw [hg] at k1; cases k1; omega
      · rw [hg] at k1; cases k1
  have hle := Rho.le_setHd hnone (some ⟨w.heap.size, 0, none⟩, c)
  have hhd : (ρ.setHd g (n + m) (some ⟨w.heap.size, 0, none⟩, c)).hd g (n + m) = some (some ⟨w.heap.size, 0, none⟩, c) := by simp [Rho.setHd]
  have E : Ext lab w (lab.new w.heap.size g ((n + m) * ye.size) (c * ye.size)) w' := Ext.new hS gr (Nat.le_refl _)
  have hcell : ∀ i, cellAt w' w.heap.size i = (os ++ ys ++ rest)[i]? := fun i => by
    show cellAt { ({ w with drawn := w.drawn + 1 } : World) with heap := w.heap.push (.cells (os ++ ys ++ rest).toArray e) } w.heap.size i = _
    rw [cell_push { w with drawn := w.drawn + 1 } _ e i]
    simp
  have hfrz : ∀ i, w'.frozen? ⟨w.heap.size, i, none⟩ = false := fun i => frozen_push { w with drawn := w.drawn + 1 } _ e i
  have hl12 : (os ++ ys).length = (n + m) * ye.size := by rw [List.length_append, hos, hys, Nat.add_mul]
  refine ⟨_, w', _, _, hrun, ?_, E, hle, ?_⟩
  · refine Sim.new hS gr (Nat.le_refl _) (by simp [w']) hle (fun j hj => by rw [hget_hset, if_neg hj]) (by rw [hget_hset, if_pos rfl]) ?_ ?_ ?_
    · refine ⟨_, c, hhd, hlow, by simp, fun h => absurd h hsz, fun a ha => ?_⟩
      cases ha
      refine ⟨rfl, fun i hi hj => ⟨by simp [Lab.new, hi, hj], hfrz _, ?_⟩⟩
      have hlen : (os ++ ys ++ rest).length = c * ye.size := by
        rw [List.length_append, hl12, hrest, ← Nat.add_mul]
        congr 1; omega
      rw [hcell, Nat.zero_add]
      exact ⟨(os ++ ys ++ rest)[i]'(by omega), List.getElem?_eq_getElem _⟩
    · intro j n' x h
      simp only [Rho.setHd] at h
      rw [hget_hset]
      split at h
      · rename_i hj
        obtain ⟨rfl, rfl⟩ := hj
        rw [if_pos rfl]
        exact ⟨_, _, rfl, Nat.le_refl _⟩
      · obtain ⟨e', m', k1, k2⟩ := hS.hdom j n' x h
        split
        · rename_i hj
          subst hj
          refine ⟨_, _, rfl, ?_⟩
          rcases hg with ⟨e2, hg⟩ | hg
          · rw [hg] at k1; cases k1; omega
          · rw [hg] at k1; cases k1
        · exact ⟨e', m', k1, k2⟩
    · intro j x h
      rw [hget_hset]
      split
      · simp
      · exact hS.adom j x h
  · have hr := (hr1.append hr2).ext E hle
    refine .slice _ _ _ _ w.heap.size 0 _ _ hr.1 hlow (fun _ => rfl) (fun h => by omega) (fun i x hx => ⟨?_, ?_⟩) hr.2 hhd (fun x hx => ?_) (fun v hv => ?_)
    · have := lt_of_get hx
      simp only [Lab.new, if_true]
      rw [if_neg (by omega)]
    · have := lt_of_get hx
      rw [hcell, Nat.zero_add, List.getElem?_append_left (by omega)]
      exact hx
    · rcases List.mem_append.1 hx with h | h
      · exact h1 x h
      · exact h2 x h
    · rcases List.mem_append.1 hv with h | h
      · exact hn1 v h
      · exact hn2 v h

set_option maxHeartbeats 1000000 in
theorem append_ref (hT : TOk P T) (hS : Sim ρ lab H w) {t u e k r off n m w0 : Nat} {ye : Ty} {sa xa : Value} {v : V} {H' : Hp} {cs news : List V} {ys : List Value} (A : App P t u e ye) (hm : m ≠ 0)
    (hr2 : RelL ρ lab w news ys) (h2 : ∀ y ∈ ys, y.oneCell' = true) (hnf : ∀ v ∈ news, NF v) (hys : ys.length = m * ye.size) (hlen : ∀ w0, (Builtin.lenOf xa).run P w0 = .ok m w0)
    (hfirst0 : (Builtin.firstCells ye.size m xa).run P w = .ok ys.toArray w) (hfirst1 : ∀ w1 : World, w1.heap = w.heap → (Builtin.firstCells ye.size m xa).run P w1 = .ok ys.toArray w1)
    (hs : Rel ρ lab w (.rslice r off n true) sa) (hg : hget r H = some (.grow w0 cs)) (hgk : hget k H = none)
    (h : gd (Nat.beq w0 ye.size && !Nat.beq w0 0 && leN (n * w0) cs.length && leN ((n + m) * (ye.bytes + 1)) 70368744177664)
                (some (OpR.val (.rslice k 0 (n + m) true) (hset r .gone (hset k (.grow w0 (cs.take (n * w0) ++ news)) H)))) = some (.val v H')) (ty : TypeId) :
    Did P ρ lab w (Builtin.append_ #[t, u] ty #[sa, xa]) v H' := by
  obtain ⟨c1, c2⟩ := gd_some h
  cases c2
  simp only [Bool.and_eq_true, Bool.not_eq_true'] at c1
  obtain ⟨⟨⟨c3, c4⟩, c6⟩, c7⟩ := c1
  have c3 := Nat.eq_of_beq_eq_true c3
  subst c3
  have c6 := leN_iff c6
  have c7 := leN_iff c7
  have hsz : ye.size ≠ 0 := by intro h0; rw [h0] at c4; cases c4
  have hrk : r ≠ k := by rintro rfl; rw [hg] at hgk; cases hgk
  obtain ⟨base, c, xs, e1, e2, e3, e4, e6, e9, e5⟩ := hS.grow r _ cs hg
  cases hs with
  | rslice _ _ _ _ base1 g ao cap g1 g2 g3 g4 g5 =>
    rw [e1] at g1
    cases g1
    obtain ⟨rfl, hcc⟩ := g4 rfl
    cases hcc
    have hao := g3 (.inr rfl)
    have htl : (xs.take (n * ye.size)).length = n * ye.size := by rw [List.length_take, e2.1]; omega
    have htr := RelL.take e2 (n * ye.size)
    have hone : ∀ x ∈ xs.take (n * ye.size) ++ ys, x.oneCell' = true := by
      intro x hx
      rcases List.mem_append.1 hx with h | h
      · exact e6 x (List.mem_of_mem_take h)
      · exact h2 x h
    have hnfs : ∀ v ∈ cs.take (n * ye.size) ++ news, NF v := by
      intro v hv
      rcases List.mem_append.1 hv with h | h
      · exact e9 v (List.mem_of_mem_take h)
      · exact hnf v h
    have hmul : (n + m) * ye.size = n * ye.size + m * ye.size := Nat.add_mul _ _ _
    have hH : ∀ j, j ≠ k → j ≠ r → hget j (hset r .gone (hset k (.grow ye.size (cs.take (n * ye.size) ++ news)) H)) = hget j H := by
      intro j h1 h2
      rw [hget_hset, if_neg h2, hget_hset, if_neg h1]
    have hHk : hget k (hset r .gone (hset k (.grow ye.size (cs.take (n * ye.size) ++ news)) H)) = some (.grow ye.size (cs.take (n * ye.size) ++ news)) := by
      rw [hget_hset, if_neg (Ne.symm hrk), hget_hset, if_pos rfl]
    have hHr : hget r (hset r .gone (hset k (.grow ye.size (cs.take (n * ye.size) ++ news)) H)) = some .gone := by
      rw [hget_hset, if_pos rfl]
    have hatn := hS.at_none hgk
    have hdd : ∀ (ρ' : Rho), ρ'.hd = ρ.hd → ∀ j n' x, ρ'.hd j n' = some x → ∃ e m', hget j (hset r .gone (hset k (.grow ye.size (cs.take (n * ye.size) ++ news)) H)) = some (.tip e m') ∧ n' ≤ m' := by
      intro ρ' hρ j n' x hj
      rw [hρ] at hj
      obtain ⟨e', m', k1, k2⟩ := hS.hdom j n' x hj
      refine ⟨e', m', ?_, k2⟩
      rw [hH j (by rintro rfl; rw [hgk] at k1; cases k1) (by rintro rfl; rw [hg] at k1; cases k1)]
      exact k1
    have haa : ∀ y, ∀ j x, (ρ.setAt k y).at_ j = some x → hget j (hset r .gone (hset k (.grow ye.size (cs.take (n * ye.size) ++ news)) H)) ≠ none := by
      intro y j x hj
      by_cases hjk : j = k
      · subst hjk; rw [hHk]; simp
      · by_cases hjr : j = r
        · subst hjr; rw [hHr]; simp
        · rw [hH j hjk hjr]
          simp only [Rho.setAt, if_neg hjk] at hj
          exact hS.adom j x hj
    by_cases hroom : n + m ≤ c
    · cases base with
      | none => have := e4 rfl; omega
      | some p =>
        obtain ⟨pb, po⟩ := p
        simp only [Option.map_some, Nat.add_zero] at hao
        subst hao
        obtain ⟨e7, e8⟩ := e5 pb po rfl
        have hcapm : (n + m) * ye.size ≤ c * ye.size := Nat.mul_le_mul_right _ hroom
        have hcell : ∀ j, j < ys.length → OCell lab w r pb (po + n * ye.size + j) := by
          intro j hj
          rw [Nat.add_assoc]
          exact e7 _ (by omega)
        have hrun := app_in A (w0 := w) (b := pb) (o := po) (n := n) (cap := c) ty hlen hfirst0 h2 hroom (fun j hj => by
          obtain ⟨u', hu'⟩ := (hcell j hj).cell
          exact ⟨by rw [show w.cell? ⟨pb, po + n * ye.size + j, none⟩ = some u' from hu']; rfl, (hcell j hj).free⟩)
        let lab' : Lab := fun b' o' => if lab b' o' = some (some r) then some (some k) else lab b' o'
        have hl' : ∀ b' o', lab b' o' = none → lab' b' o' = none := fun b' o' hl => by simp only [lab']; rw [if_neg (by rw [hl]; simp)]; exact hl
        have E0 : Ext lab w lab (w.setCells pb (po + n * ye.size) ys) := Ext.setCells (k := r) (fun j hj => (hcell j hj).lab)
        have E : Ext lab w lab' (w.setCells pb (po + n * ye.size) ys) := ⟨E0.size, E0.os, E0.tape, E0.output, fun b' o' _ hl => hl' b' o' hl, fun b' o' => by
        simp only [lab']
        split
        · rename_i hq; rw [hq]; simp
        · exact .rfl, E0.cl, E0.blk⟩
        have hle := Rho.le_setAt hatn (some (pb, po), some c)
        have hat : (ρ.setAt k (some (pb, po), some c)).at_ k = some (some (pb, po), some c) := by simp [Rho.setAt]
        have hin : ∀ j (hj : j < ys.length), cellAt (w.setCells pb (po + n * ye.size) ys) pb (po + n * ye.size + j) = some ys[j] := fun j hj =>
          World.cell?_setCells_in pb ys (po + n * ye.size) w (fun i hi => by
            obtain ⟨u', hu'⟩ := (hcell i hi).cell
            rw [show w.cell? ⟨pb, po + n * ye.size + i, none⟩ = some u' from hu']; rfl) j hj
        refine ⟨_, _, _, lab', hrun, ?_, E, hle, ?_⟩
        · refine Sim.mk' (fun j oj hj => ?_) (hdd _ rfl) (haa _) (fun b' o' j hl => ?_)
          · by_cases hjk : j = k
            · subst hjk
              rw [hHk] at hj; cases hj
              refine ⟨some (pb, po), c, xs.take (n * ye.size) ++ ys, hat, (htr.append hr2).ext E hle, ?_, by simp, hone, hnfs, fun b' o' hb => ?_⟩
              · rw [← (htr.append hr2).1, List.length_append, htl, hys]; omega
              · cases hb
                refine ⟨fun i hi => ?_, fun i x hx => ?_⟩
                · have h3 := (e7 i hi).setCells (b := pb) (o := po + n * ye.size) (ys := ys)
                  refine ⟨?_, h3.free, h3.cell⟩
                  simp only [lab']
                  rw [if_pos h3.lab]
                · rw [List.getElem?_append, htl] at hx
                  split at hx
                  · rename_i hi
                    rw [cellAt_setCells_out (fun _ => by omega)]
                    rw [List.getElem?_take, if_pos hi] at hx
                    exact e8 i x hx
                  · have hj := lt_of_get hx
                    have := hin (i - n * ye.size) hj
                    rw [show po + n * ye.size + (i - n * ye.size) = po + i from by omega] at this
                    rw [this, ← hx, List.getElem?_eq_getElem hj]
            · by_cases hjr : j = r
              · subst hjr
                rw [hHr] at hj; cases hj
                trivial
              · rw [hH j hjk hjr] at hj
                refine (hS.obj hj).carry E hle (fun b' q hq => ?_)
                have hout : b' = pb → q < po + n * ye.size ∨ po + n * ye.size + ys.length ≤ q := by
                  intro hb
                  subst hb
                  rcases Nat.lt_or_ge q (po + n * ye.size) with h | h
                  · exact .inl h
                  · right
                    rcases Nat.lt_or_ge q (po + n * ye.size + ys.length) with h' | h'
                    · have := (hcell (q - (po + n * ye.size)) (by omega)).lab
                      rw [show po + n * ye.size + (q - (po + n * ye.size)) = q from by omega, hq.lab] at this
                      cases this; exact absurd rfl hjr
                    · exact h'
                have h3 := hq.setCells (b := pb) (o := po + n * ye.size) (ys := ys)
                refine ⟨⟨?_, h3.free, h3.cell⟩, cellAt_setCells_out hout⟩
                simp only [lab']
                rw [if_neg (by rw [hq.lab]; simpa using hjr)]
                exact hq.lab
          · simp only [lab'] at hl
            split at hl
            · rename_i hlr
              exact Nat.lt_of_lt_of_le (hS.ldom b' o' r hlr) E.size
            · exact Nat.lt_of_lt_of_le (hS.ldom b' o' j hl) E.size
        · exact .rslice k 0 (n + m) true _ _ _ _ hat hroom (fun _ => rfl) (fun _ => ⟨rfl, rfl⟩) (fun _ => by simp)
    · have hold : ∀ w1 : World, w1.heap = w.heap → (Builtin.firstCells ye.size n (.slice ao n c)).run P w1 = .ok (xs.take (n * ye.size)).toArray w1 := by
        intro w1 hw
        rcases Nat.eq_zero_or_pos n with h0 | h0
        · subst h0
          rw [Nat.zero_mul, List.take_zero]
          cases ao with
          | none => rfl
          | some a => simp only [Builtin.firstCells, Nat.zero_mul]; rfl
        · cases base with
          | none => simp at hao; exact absurd hao (g5 h0)
          | some p =>
            obtain ⟨pb, po⟩ := p
            simp only [Option.map_some, Nat.add_zero] at hao
            subst hao
            obtain ⟨e7, e8⟩ := e5 pb po rfl
            simp only [Builtin.firstCells]
            have hl := loadCells_at (P := P) (w0 := w1) (b := pb) (o := po) (xs := xs.take (n * ye.size)) (fun i x hx => by
              rw [List.getElem?_take] at hx
              split at hx
              · have := e8 i x hx
                simp only [cellAt, World.cell?, hw] at this ⊢
                exact this
              · cases hx)
            rwa [htl] at hl
      obtain ⟨c', rest, k1, k2, k3⟩ := app_grow A (w0 := w) ty hlen hfirst1 hold (by omega) c7 htl hys
      let w' : World := { w with drawn := w.drawn + 1, heap := w.heap.push (.cells (xs.take (n * ye.size) ++ ys ++ rest).toArray e) }
      have gr : Grew w w' := (Grew.draw w _).trans (Grew.push { w with drawn := w.drawn + 1 } _)
      have hle := Rho.le_setAt hatn (some (w.heap.size, 0), some c')
      have hat : (ρ.setAt k (some (w.heap.size, 0), some c')).at_ k = some (some (w.heap.size, 0), some c') := by simp [Rho.setAt]
      have E : Ext lab w (lab.new w.heap.size k 0 (c' * ye.size)) w' := Ext.new hS gr (Nat.le_refl _)
      have hcell : ∀ i, cellAt w' w.heap.size i = (xs.take (n * ye.size) ++ ys ++ rest)[i]? := fun i => by
        show cellAt { ({ w with drawn := w.drawn + 1 } : World) with heap := w.heap.push (.cells (xs.take (n * ye.size) ++ ys ++ rest).toArray e) } w.heap.size i = _
        rw [cell_push { w with drawn := w.drawn + 1 } _ e i]
        simp
      have hfrz : ∀ i, w'.frozen? ⟨w.heap.size, i, none⟩ = false := fun i => frozen_push { w with drawn := w.drawn + 1 } _ e i
      have hl12 : (xs.take (n * ye.size) ++ ys).length = (n + m) * ye.size := by rw [List.length_append, htl, hys, hmul]
      have hlen' : (xs.take (n * ye.size) ++ ys ++ rest).length = c' * ye.size := by
        rw [List.length_append, hl12, k2, ← Nat.add_mul]
        congr 1; omega
      refine ⟨_, w', _, _, k3, ?_, E, hle, ?_⟩
      · refine Sim.mk' (fun j oj hj => ?_) (hdd _ rfl) (haa _) (ldom_new hS gr (by simp [w']))
        by_cases hjk : j = k
        · subst hjk
          rw [hHk] at hj; cases hj
          refine ⟨some (w.heap.size, 0), c', xs.take (n * ye.size) ++ ys, hat, (htr.append hr2).ext E hle, ?_, by simp, hone, hnfs, fun b' o' hb => ?_⟩
          · rw [← (htr.append hr2).1, hl12]; exact Nat.mul_le_mul_right _ k1
          · cases hb
            refine ⟨fun i hi => ⟨by simp [Lab.new, hi], hfrz _, ?_⟩, fun i x hx => ?_⟩
            · rw [hcell, Nat.zero_add]
              exact ⟨(xs.take (n * ye.size) ++ ys ++ rest)[i]'(by omega), List.getElem?_eq_getElem _⟩
            · rw [hcell, Nat.zero_add, List.getElem?_append_left (lt_of_get hx)]
              exact hx
        · by_cases hjr : j = r
          · subst hjr
            rw [hHr] at hj; cases hj
            trivial
          · rw [hH j hjk hjr] at hj
            exact (hS.obj hj).carry (Ext.new hS gr (Nat.le_refl _)) hle (fun b p hq => hq.new gr (Nat.le_refl _))
      · exact .rslice k 0 (n + m) true _ _ _ _ hat k1 (fun _ => rfl) (fun _ => ⟨rfl, rfl⟩) (fun _ => by simp)

/-- an object more: who owns no room -/
theorem Sim.tipN (hS : Sim ρ lab H w) {k e n cap : Nat} {ao : Option Addr} (hk : hget k H = none) (hn : n ≤ cap) (h0 : ao = none → cap = 0) (he : e = 0 → cap = 0) (hs : ∀ a, ao = some a → a.spot = none) (hr : ∀ i, n * e ≤ i → i < cap * e → False) :
    ∃ ρ', ρ.le ρ' ∧ Sim ρ' lab (hset k (.tip e n) H) w ∧ ρ'.hd k n = some (ao, cap) := by
  have hle : ρ.le ⟨ρ.at_, fun j m => if j = k then (if m = n then some (ao, cap) else none) else ρ.hd j m⟩ := by
    refine ⟨fun k x h => h, fun j m x h => ?_⟩
    simp only
    rw [if_neg]
    · exact h
    · rintro rfl
      obtain ⟨e, m', h1, _⟩ := hS.hdom _ m x h
      rw [hk] at h1; cases h1
  refine ⟨_, hle, Sim.mk' (fun j o' hj => ?_) (fun j m x h => ?_) (fun j x h => ?_) hS.ldom, by simp⟩
  · rw [hget_hset] at hj
    split at hj
    · rename_i hjk
      subst hjk
      cases hj
      exact ⟨ao, cap, by simp, hn, h0, he, fun a ha => ⟨hs a ha, fun i h1 h2 => (hr i h1 h2).elim⟩⟩
    · exact (hS.obj hj).carry (Ext.refl _ _) hle (fun b p hq => ⟨hq, rfl⟩)
  · simp only at h
    rw [hget_hset]
    split at h
    · rename_i hjk
      subst hjk
      split at h
      · subst_vars
        rw [if_pos rfl]
        exact ⟨_, _, rfl, Nat.le_refl _⟩
      · cases h
    · rename_i hjk
      rw [if_neg hjk]
      exact hS.hdom j m x h
  · rw [hget_hset]
    split
    · simp
    · exact hS.adom j x h

set_option maxHeartbeats 1000000 in
theorem append_run (hT : TOk P T) (hS : Sim ρ lab H w) {t u k : Nat} {s x v : V} {sa xa : Value} {H' : Hp} (hs : Rel ρ lab w s sa) (hx : Rel ρ lab w x xa) (h : vAppend T t u s x H k = some (.val v H')) (ty : TypeId) :
    Did P ρ lab w (Builtin.append_ #[t, u] ty #[sa, xa]) v H' := by
  unfold vAppend at h
  split at h
  · cases h
  · cases h
  rename_i y yx hy hyx
  split at h
  · rename_i e hsh hsrc
    have hshT := (hT t y hy).sh
    rw [hsh] at hshT
    split at h
    · rename_i ye m news hye hnews
      have A : App P t u e ye := by
        refine ⟨hshT, ?_, hT e ye hye⟩
        have hk := (hT u yx hyx).sh
        obtain ⟨d, hd⟩ := (hT u yx hyx).und
        refine ⟨d, hd, ?_⟩
        rintro k rfl
        cases hq : yx.sh <;> rw [hq] at hsrc hk <;> simp [isSrc] at hsrc
        · simp only at hk; rw [hk] at hd; cases hd
        · simp only at hk; rw [hk] at hd; cases hd
      obtain ⟨ys, hr2, h2, hnf, hys, hlen, hfirst⟩ := src_ok hT hS hye hx hnews
      have hfirst0 : (Builtin.firstCells ye.size m xa).run P w = .ok ys.toArray w := hfirst w (fun _ _ _ => rfl)
      have hfirst1 : ∀ w1 : World, w1.heap = w.heap → (Builtin.firstCells ye.size m xa).run P w1 = .ok ys.toArray w1 := fun w1 hw => hfirst w1 (fun b o _ => by simp only [cellAt, World.cell?, hw])
      split at h
      · -- nothing is appended
        rename_i hm
        have hm := Nat.eq_of_beq_eq_true hm
        subst hm
        have hy0 : ys = [] := List.length_eq_zero_iff.1 (by simpa using hys)
        subst hy0
        have stay : ∀ (ao : Option Addr) (n cap : Nat), n ≤ cap → (Builtin.append_ #[t, u] ty #[.slice ao n cap, xa]).run P w = .ok (.slice ao n cap) w := by
          intro ao n cap hn
          obtain ⟨d, hd, hdi⟩ := A.hu
          simp only [Builtin.append_, List.getElem?_toArray, List.getElem?_cons_zero, List.getElem?_cons_succ, Sem.run_bind, und_run A.ht, Result.andThen_ok, size_run A.hk, und_run hd, Sem.run_pure, Bool.false_eq_true, if_false]
          simp only [Sem.run_bind, hlen, Result.andThen_ok, Nat.add_zero, if_pos hn, Bool.not_false, if_true, hfirst0]
          cases ao <;> rfl
        split at h
        · split at h
          · cases h
          · rename_i hk
            obtain ⟨_, h2⟩ := gd_some h
            cases h2
            cases hs with
            | slice _ _ _ xs b o' ao cap g1 g2 g3 g4 g5 g6 g7 g8 g9 =>
              obtain ⟨rfl, rfl, rfl, rfl⟩ := g7
              obtain ⟨ρ', k1, k2, k3⟩ := hS.tipN (e := 0) (n := 0) (cap := 0) (ao := none) hk (Nat.le_refl _) (fun _ => rfl) (fun _ => rfl) (fun a ha => by cases ha) (fun i h1 h2 => by omega)
              exact ⟨_, w, ρ', lab, stay none 0 0 g2, k2, .refl _ _, k1, .slice _ 0 [] xs b o' none 0 g1 g2 g3 g4 g5 (fun i v x h1 h2 => (g6 i v x h1 h2).ext (Ext.refl _ _) k1) k3 g8 g9⟩
        · rename_i n cs
          split at h
          · cases h
          · rename_i hk
            obtain ⟨c1, h2⟩ := gd_some h
            cases h2
            simp only [Bool.and_eq_true, Bool.not_eq_true'] at c1
            have c2 := leN_iff c1.2
            have hs' := hs
            cases hs with
            | slice _ _ _ xs b o' ao cap g1 g2 g3 g4 g5 g6 g7 g8 g9 =>
              simp only at g7
              subst g7
              have hao := g3 (by omega)
              subst hao
              obtain ⟨ρ', k1, k2, k3⟩ := hS.tipN (e := ye.size) (n := cap) (cap := cap) (ao := some ⟨b, o', none⟩) hk (Nat.le_refl _) (fun h => by cases h) (fun h => by rw [h] at c1; simp at c1) (fun a ha => by cases ha; rfl) (fun i h1 h2 => by omega)
              exact ⟨_, w, ρ', lab, stay _ cap cap g2, k2, .refl _ _, k1, .slice _ cap cs xs b o' _ cap g1 g2 g3 g4 g5 (fun i v x h1 h2 => (g6 i v x h1 h2).ext (Ext.refl _ _) k1) k3 g8 g9⟩
        · rename_i o n cs _ _
          cases h
          have hs' := hs
          cases hs with
          | slice _ _ _ xs b o' ao cap g1 g2 g3 g4 g5 g6 g7 g8 g9 => exact ⟨_, w, ρ, lab, stay ao n cap g2, hS, .refl _ _, .refl _, hs'⟩
        · rename_i r off n wh
          cases h
          have hs' := hs
          cases hs with
          | rslice _ _ _ _ base g ao cap g1 g2 g3 g4 g5 => exact ⟨_, w, ρ, lab, stay ao n cap g2, hS, .refl _ _, .refl _, hs'⟩
        · cases h
      · rename_i hm
        have hm : m ≠ 0 := by rintro rfl; cases hm
        split at h
        · -- a tag
          rename_i g n cs
          split at h
          · rename_i w0 n' hg
            obtain ⟨c1, c2⟩ := gd_some h
            cases c2
            simp only [Bool.and_eq_true, Bool.or_eq_true, Bool.not_eq_true'] at c1
            obtain ⟨⟨⟨⟨c3, c4⟩, c5⟩, c6⟩, c7⟩ := c1
            have c5 := eqN_iff c5
            subst c5
            have c6 := eqN_iff c6
            have c7 := leN_iff c7
            have hsz : ye.size ≠ 0 := by intro h0; rw [h0] at c4; cases c4
            obtain ⟨ao, cap, t1, t2, t3, t4, t5⟩ := hS.tip g w0 n hg
            cases hs with
            | slice _ _ _ xs b o ao' cap' g1 g2 g3 g4 g5 g6 g7 g8 g9 =>
              simp only at g7
              rw [t1] at g7
              cases g7
              have hos : xs.length = n * ye.size := by rw [g1, c6]
              by_cases hroom : n + m ≤ cap
              · -- in place
                have hcap0 : cap ≠ 0 := by omega
                have hw0 : w0 = ye.size := by
                  rcases c3 with c3 | c3
                  · exact absurd (t4 (Nat.eq_of_beq_eq_true c3)) hcap0
                  · exact Nat.eq_of_beq_eq_true c3
                subst hw0
                cases ao with
                | none => exact absurd (t3 rfl) hcap0
                | some p =>
                  obtain ⟨hsp, hown⟩ := t5 p rfl
                  obtain ⟨pb, po, ps⟩ := p
                  simp only at hsp hown
                  subst hsp
                  have hpo : 0 < n → pb = b ∧ po = o := fun hn => by have := g3 hn; cases this; exact ⟨rfl, rfl⟩
                  have hxs : ∀ (i : Nat) (x : Value), xs[i]? = some x → FCell lab w pb (po + i) x := by
                    intro i x hx
                    have hi := lt_of_get hx
                    have hn : 0 < n := by
                      rcases Nat.eq_zero_or_pos n with h | h
                      · rw [hos, h] at hi; omega
                      · exact h
                    obtain ⟨rfl, rfl⟩ := hpo hn
                    exact g5 i x hx
                  have hmul : (n + m) * ye.size = n * ye.size + m * ye.size := Nat.add_mul _ _ _
                  have hcapm : (n + m) * ye.size ≤ cap * ye.size := Nat.mul_le_mul_right _ hroom
                  have hcell : ∀ j, j < ys.length → OCell lab w g pb (po + n * ye.size + j) := by
                    intro j hj
                    have := hown (n * ye.size + j) (by omega) (by omega)
                    rwa [← Nat.add_assoc] at this
                  have hrun := app_in A (w0 := w) (b := pb) (o := po) (n := n) (cap := cap) ty hlen hfirst0 h2 hroom (fun j hj => by
                    obtain ⟨u', hu'⟩ := (hcell j hj).cell
                    exact ⟨by rw [show w.cell? ⟨pb, po + n * ye.size + j, none⟩ = some u' from hu']; rfl, (hcell j hj).free⟩)
                  let lab' : Lab := fun b' o' => if b' = pb ∧ po + n * ye.size ≤ o' ∧ o' < po + (n + m) * ye.size then none else lab b' o'
                  have E0 : Ext lab w lab (w.setCells pb (po + n * ye.size) ys) := Ext.setCells (k := g) (fun j hj => (hcell j hj).lab)
                  have E : Ext lab w lab' (w.setCells pb (po + n * ye.size) ys) := ⟨E0.size, E0.os, E0.tape, E0.output, fun b' o' hb hl => by simp only [lab']; split <;> first | rfl | exact hl, fun b' o' => by
                    simp only [lab']
                    split
                    · rename_i hq
                      obtain ⟨rfl, q1, q2⟩ := hq
                      have := (hown (o' - po) (by omega) (by omega)).lab
                      rw [show po + (o' - po) = o' from by omega] at this
                      rw [this]
                      constructor <;> intro h <;> cases h
                    · exact .rfl, E0.cl, E0.blk⟩
                  have hnone : ρ.hd g (n + m) = none := by
                    cases hh : ρ.hd g (n + m) with
                    | none => rfl
                    | some x =>
                      obtain ⟨e', m', k1, k2⟩ := hS.hdom g (n + m) x hh
                      rw [hg] at k1; cases k1; omega
                  have hle := Rho.le_setHd hnone (some ⟨pb, po, none⟩, cap)
                  have hhd : (ρ.setHd g (n + m) (some ⟨pb, po, none⟩, cap)).hd g (n + m) = some (some ⟨pb, po, none⟩, cap) := by simp [Rho.setHd]
                  have hin : ∀ j (hj : j < ys.length), cellAt (w.setCells pb (po + n * ye.size) ys) pb (po + n * ye.size + j) = some ys[j] := fun j hj =>
                    World.cell?_setCells_in pb ys (po + n * ye.size) w (fun i hi => by
                      obtain ⟨u', hu'⟩ := (hcell i hi).cell
                      rw [show w.cell? ⟨pb, po + n * ye.size + i, none⟩ = some u' from hu']; rfl) j hj
                  refine ⟨_, _, _, lab', hrun, ?_, E, hle, ?_⟩
                  · refine Sim.mk' (fun j oj hj => ?_) (fun j n' x hj => ?_) (fun j x hj => ?_) (fun b' o' j hl => ?_)
                    · rw [hget_hset] at hj
                      split at hj
                      · rename_i hjg
                        cases hj; subst hjg
                        refine ⟨_, cap, hhd, hroom, by simp, fun h => absurd h hsz, fun a ha => ?_⟩
                        cases ha
                        refine ⟨rfl, fun i hi hj => ?_⟩
                        have := (hown i (by omega) hj).setCells (b := pb) (o := po + n * ye.size) (ys := ys)
                        refine ⟨?_, this.free, this.cell⟩
                        simp only [lab']
                        rw [if_neg (by omega)]
                        exact this.lab
                      · rename_i hjg
                        refine (hS.obj hj).carry E hle (fun b' q hq => ?_)
                        have hout : b' = pb → q < po + n * ye.size ∨ po + n * ye.size + ys.length ≤ q := by
                          intro hb
                          subst hb
                          rcases Nat.lt_or_ge q (po + n * ye.size) with h | h
                          · exact .inl h
                          · right
                            rcases Nat.lt_or_ge q (po + n * ye.size + ys.length) with h' | h'
                            · have := (hcell (q - (po + n * ye.size)) (by omega)).lab
                              rw [show po + n * ye.size + (q - (po + n * ye.size)) = q from by omega, hq.lab] at this
                              cases this; exact absurd rfl hjg
                            · exact h'
                        have h3 := hq.setCells (b := pb) (o := po + n * ye.size) (ys := ys)
                        refine ⟨⟨?_, h3.free, h3.cell⟩, cellAt_setCells_out hout⟩
                        simp only [lab']
                        rw [if_neg (fun hc => by have := hout hc.1; omega)]
                        exact hq.lab
                    · simp only [Rho.setHd] at hj
                      rw [hget_hset]
                      split at hj
                      · rename_i hc
                        obtain ⟨rfl, rfl⟩ := hc
                        rw [if_pos rfl]
                        exact ⟨_, _, rfl, Nat.le_refl _⟩
                      · obtain ⟨e', m', k1, k2⟩ := hS.hdom j n' x hj
                        split
                        · rename_i hc
                          subst hc
                          rw [hg] at k1; cases k1
                          exact ⟨_, _, rfl, by omega⟩
                        · exact ⟨e', m', k1, k2⟩
                    · rw [hget_hset]
                      split
                      · simp
                      · exact hS.adom j x hj
                    · simp only [lab'] at hl
                      split at hl
                      · cases hl
                      · exact Nat.lt_of_lt_of_le (hS.ldom b' o' j hl) E.size
                  · have hr := (RelL.append (⟨g1, g6⟩ : RelL ρ lab w cs xs) hr2).ext E hle
                    refine .slice _ _ _ _ pb po _ _ hr.1 hroom (fun _ => rfl) (fun h => by omega) (fun i x hx => ?_) hr.2 hhd (fun x hx => ?_) (fun v hv => ?_)
                    · rw [List.getElem?_append] at hx
                      split at hx
                      · exact (hxs i x hx).ext E
                      · rename_i hi
                        have hj := lt_of_get hx
                        refine ⟨?_, ?_⟩
                        · show (if pb = pb ∧ po + n * ye.size ≤ po + i ∧ po + i < po + (n + m) * ye.size then none else _) = none
                          exact if_pos ⟨rfl, by omega, by omega⟩
                        · have := hin (i - xs.length) hj
                          rw [show po + n * ye.size + (i - xs.length) = po + i from by omega] at this
                          rw [this, ← hx, List.getElem?_eq_getElem hj]
                    · rcases List.mem_append.1 hx with h | h
                      · exact g8 x h
                      · exact h2 x h
                    · rcases List.mem_append.1 hv with h | h
                      · exact g9 v h
                      · exact hnf v h
              · -- it moves
                have hold : ∀ w1 : World, w1.heap = w.heap → (Builtin.firstCells ye.size n (.slice ao n cap)).run P w1 = .ok xs.toArray w1 := by
                  intro w1 hw
                  rcases Nat.eq_zero_or_pos n with h0 | h0
                  · subst h0
                    have : xs = [] := List.length_eq_zero_iff.1 (by simpa using hos)
                    subst this
                    cases ao with
                    | none => rfl
                    | some a => simp only [Builtin.firstCells, Nat.zero_mul]; rfl
                  · rw [g3 h0]
                    simp only [Builtin.firstCells]
                    rw [← hos]
                    exact loadCells_at (fun i x hx => by
                      have := (g5 i x hx).cell
                      simp only [cellAt, World.cell?, hw] at this ⊢
                      exact this)
                obtain ⟨c, rest, k1, k2, k3⟩ := app_grow A (w0 := w) ty hlen hfirst1 hold (by omega) c7 hos hys
                exact grown_tag hS k1 hsz hm (.inl ⟨_, hg⟩) ⟨g1, g6⟩ hr2 hos hys k2 g8 h2 g9 hnf k3 (ow := .sealed) (cap := 0)
          · cases h
        · cases h
        · -- a slice without room
          rename_i ow n cs hnt hns
          split at h
          · cases h
          · rename_i hgk
            obtain ⟨c1, c2⟩ := gd_some h
            cases c2
            simp only [Bool.and_eq_true, Bool.not_eq_true'] at c1
            obtain ⟨⟨c4, c6⟩, c7⟩ := c1
            have c6 := eqN_iff c6
            have c7 := leN_iff c7
            have hsz : ye.size ≠ 0 := by intro h0; rw [h0] at c4; cases c4
            cases hs with
            | slice _ _ _ xs b o ao cap g1 g2 g3 g4 g5 g6 g7 g8 g9 =>
              have hos : xs.length = n * ye.size := by rw [g1, c6]
              have hcap : cap = n := by
                cases ow with
                | sealed => exact (hns rfl).elim
                | tag g => exact (hnt _ rfl).elim
                | full => exact g7
                | nil => obtain ⟨_, e1, e2, _⟩ := g7; omega
              have hold : ∀ w1 : World, w1.heap = w.heap → (Builtin.firstCells ye.size n (.slice ao n cap)).run P w1 = .ok xs.toArray w1 := by
                intro w1 hw
                rcases Nat.eq_zero_or_pos n with h0 | h0
                · subst h0
                  have : xs = [] := List.length_eq_zero_iff.1 (by simpa using hos)
                  subst this
                  cases ao with
                  | none => rfl
                  | some a => simp only [Builtin.firstCells, Nat.zero_mul]; rfl
                · rw [g3 h0]
                  simp only [Builtin.firstCells]
                  rw [← hos]
                  exact loadCells_at (fun i x hx => by
                    have := (g5 i x hx).cell
                    simp only [cellAt, World.cell?, hw] at this ⊢
                    exact this)
              obtain ⟨c, rest, k1, k2, k3⟩ := app_grow A (w0 := w) ty hlen hfirst1 hold (by omega) c7 hos hys
              exact grown_tag hS k1 hsz hm (.inr hgk) ⟨g1, g6⟩ hr2 hos hys k2 g8 h2 g9 hnf k3 (ow := .sealed) (cap := 0)
        · -- by reference
          rename_i r off n wh
          split at h
          · rename_i w0 cs hg hgk
            exact append_ref hT hS A hm hr2 h2 hnf hys hlen hfirst0 hfirst1 hs hg hgk h ty
          · cases h
        · cases h
    · cases h
  · cases h
end
end Go.Vm
/- Frames; operations on memory, together; what a piece of code leaves. -/
namespace Go.Vm
set_option linter.unusedSimpArgs false
set_option linter.unusedVariables false
set_option linter.unusedSectionVars false
section
variable {P : Program} {T : List (Nat × Ty)} {ρ : Rho} {lab : Lab} {w : World} {H : Hp} {fr : Fr} {a : Act} {n nr : Nat} {env : Env} {orc : Orc}

structure FOk (ρ : Rho) (lab : Lab) (w : World) (fr : Fr) (a : Act) (n : Nat) : Prop where
  rel : FrRel ρ lab w fr a.tmps
  size : a.tmps.size = n
  defers : a.defers = []

theorem look_cons (s : Nat) (v : V) (r : Fr) (t : Nat) : look t ((s, v) :: r) = if s = t then v else look t r := by
  simp only [look]
  by_cases h : s = t
  · subst h; simp
  · rw [if_neg h]
    cases hb : Nat.beq s t with
    | true => exact absurd (Nat.eq_of_beq_eq_true hb) h
    | false => rfl

theorem FOk.ext {ρ' : Rho} {lab' : Lab} {w' : World} (h : FOk ρ lab w fr a n) (E : Ext lab w lab' w') (hρ : ρ.le ρ') : FOk ρ' lab' w' fr a n :=
  ⟨h.rel.ext E hρ, h.size, h.defers⟩

theorem FOk.put {d : Option Nat} {v : V} {x : Value} (h : FOk ρ lab w fr a n) (hd : ∀ i, d = some i → i < n) (hv : Rel ρ lab w v x) : FOk ρ lab w (putO d v fr) (a.put d x) n := by
  cases d with
  | none => exact h
  | some d =>
    refine ⟨fun t => ?_, by simp [Act.put, h.size], h.defers⟩
    have hdn := hd d rfl
    simp only [putO, look_cons, Act.put]
    split
    · subst_vars
      rw [Array.getD_eq_getD_getElem?, Array.getElem?_setIfInBounds_self_of_lt (by rw [h.size]; exact hdn)]
      exact hv
    · rename_i ht
      rw [Array.getD_eq_getD_getElem?, Array.getElem?_setIfInBounds_ne ht, ← Array.getD_eq_getD_getElem?]
      exact h.rel t

theorem wanted_ok {ops : Array Oper} {o : Oper} {b : Bool} (h : FOk ρ lab w fr a n) (hw : wantedV ops o fr = some b) : Region.wanted o (yielded ops a.tmps) = b := by
  unfold wantedV at hw
  unfold Region.wanted
  split at hw
  · rename_i hg; rw [hg]; cases hw; rfl
  · rename_i j want hg
    rw [hg]
    simp only
    unfold yieldedV at hw
    unfold yielded
    cases hd : (ops[j]?).bind (·.dst) with
    | none =>
      rw [hd] at hw
      simp only at hw
      cases hw
      rfl
    | some t =>
      rw [hd] at hw
      simp only [Option.bind_some] at hw ⊢
      have hr := h.rel t
      split at hw
      · rename_i b' hb
        split at hb
        · rename_i c hc
          cases hb
          rw [hc] at hr
          rw [Array.getD_eq_getD_getElem?] at hr
          cases ht : a.tmps[t]? with
          | none => rw [ht] at hr; cases hr
          | some x =>
            rw [ht] at hr
            simp only [Option.getD_some] at hr
            cases hr
            cases hw
            cases want <;> cases b' <;> rfl
        · cases hb
        · cases hb
      · rename_i hb
        split at hb
        · cases hb
        · rename_i hc
          cases hw
          rw [hc, Array.getD_eq_getD_getElem?] at hr
          cases ht : a.tmps[t]? with
          | none => rfl
          | some x =>
            rw [ht] at hr
            simp only [Option.getD_some] at hr
            cases hr with
            | tuple _ xs h1 h2 => rfl
        · cases hb
      · cases hw

def isCallV : Op → Bool
  | .call { callee := .value _, .. } => true
  | .call { callee := .invoke .., .. } => true
  | _ => false

/-- an operation on memory that is no call of a Go function -/
theorem eff_run (hT : TOk P env.T) (hS : Sim ρ lab H w) (hF : FrRel ρ lab w fr a.tmps) {o : Oper} {v : V} {H' : Hp} (hc : isCallV o.op = false) (h : opEff env orc fr H o = some (.val v H')) :
    ∃ r x w' ρ' lab', (execOp a.eval o).run P w = .ok r w' ∧ (r = .value x ∨ (r = .skip ∧ x = undef)) ∧ Sim ρ' lab' H' w' ∧ Ext lab w lab' w' ∧ ρ.le ρ' ∧ Rel ρ' lab' w' v x := by
  obtain ⟨dst, op, type, pos, after, guard⟩ := o
  unfold opEff at h
  simp only at h hc
  split at h
  · -- load
    rename_i t x
    split at h
    · rename_i xv hx
      split at h
      · rename_i v' hv
        cases h
        obtain ⟨z, h1, h2⟩ := load_run hT hS (ev_ok hF hx) hv
        exact ⟨.value z, z, w, ρ, lab, by simp only [execOp, Sem.run_bind, h1, Result.andThen_ok, Sem.run_pure], .inl rfl, hS, .refl _ _, .refl _, h2⟩
      · cases h
    · cases h
  · -- store
    rename_i t x y
    split at h
    · rename_i xv yv hx hy
      split at h
      · rename_i H1 hH
        cases h
        obtain ⟨w', h1, h2, h3⟩ := store_run hT hS (ev_ok hF hx) (ev_ok hF hy) hH
        exact ⟨.skip, undef, w', ρ, lab, by simp only [execOp, Sem.run_bind, h1, Result.andThen_ok, Sem.run_pure], .inr ⟨rfl, rfl⟩, h2, h3, .refl _, .undef _⟩
      · cases h
    · cases h
  · -- alloc
    rename_i t
    split at h
    · rename_i y hy hg
      cases h
      obtain ⟨z, hz1, hz2, hz3, _, _⟩ := zero_rel (P := P) (ρ := ρ) (lab := lab) (w := w) (hT t y hy)
      obtain ⟨k1, k2, k3, k4⟩ := newRow_ok (t := t) hS hg hz2
      refine ⟨.value (.pointer (some ⟨w.heap.size, 0, none⟩)), _, _, _, _, ?_, .inl rfl, k1, k2, k3, k4⟩
      simp only [execOp, Instr.alloc, Sem.run_bind, hz1, Result.andThen_ok, newVar, newRow, run_newObj, Sem.run_pure]
    · cases h
  · -- box
    rename_i t x
    split at h
    · rename_i y v' hy hg hx
      split at h
      · rename_i hall
        cases h
        obtain ⟨hu, hr, _⟩ := cells_one (ev_ok hF hx) hall
        obtain ⟨k1, k2, k3, k4⟩ := newRow_ok (t := t) hS hg hr
        refine ⟨.value (.pointer (some ⟨w.heap.size, 0, none⟩)), _, _, _, _, ?_, .inl rfl, k1, k2, k3, k4⟩
        simp only [execOp, Instr.box, Sem.run_bind, Result.andThen_ok, newVar, newRow, run_newObj, Sem.run_pure]
      · cases h
    · cases h
  · -- make
    rename_i t l c
    split at h
    · rename_i lv cv hl hcv
      obtain ⟨z, w', ρ', lab', h1, h2, h3, h4, h5⟩ := make_run hT hS (ev_ok hF hl) (ev_ok hF hcv) h
      exact ⟨.value z, z, w', ρ', lab', by simp only [execOp, Sem.run_bind, h1, Result.andThen_ok, Sem.run_pure], .inl rfl, h2, h3, h4, h5⟩
    · cases h
  · split at h <;> cases h
  · -- append
    rename_i args ats
    split at h
    · rename_i s x t u hargs hts
      split at h
      · rename_i sv xv hs hx
        obtain ⟨z, w', ρ', lab', h1, h2, h3, h4, h5⟩ := append_run hT hS (ev_ok hF hs) (ev_ok hF hx) h type
        refine ⟨.value z, z, w', ρ', lab', ?_, .inl rfl, h2, h3, h4, h5⟩
        have e : args.map a.eval = #[a.eval s, a.eval x] := by
          apply Array.toList_inj.1
          simp [hargs]
        have e2 : ats = #[t, u] := by
          apply Array.toList_inj.1
          simp [hts]
        simp only [execOp, resolve, Sem.run_bind, Sem.run_pure, Result.andThen_ok, invoke, builtin, e, e2, h1]
      · cases h
    · cases h
  · cases hc
  · cases hc
  · cases h

/-- a panic of the text's own -/
theorem panic_run (hF : FrRel ρ lab w fr a.tmps) {o : Oper} {v : V} {H' : Hp} (hc : isCallV o.op = false) (h : opEff env orc fr H o = some (.pan v H')) :
    ∃ x, (execOp a.eval o).run P w = .halt (.panic x) w ∧ H' = H ∧ Rel ρ lab w v x := by
  obtain ⟨dst, op, type, pos, after, guard⟩ := o
  unfold opEff at h
  simp only at h hc
  split at h
  · split at h
    · split at h <;> cases h
    · cases h
  · split at h
    · split at h <;> cases h
    · cases h
  · split at h <;> cases h
  · split at h
    · split at h <;> cases h
    · cases h
  · split at h
    · unfold vMake at h
      split at h
      · split at h
        · split at h
          · obtain ⟨_, h2⟩ := gd_some h
            split at h2
            · split at h2 <;> cases h2
            · cases h2
          · cases h
        · cases h
      · cases h
    · cases h
  · rename_i x
    split at h
    · rename_i t v' hx
      cases h
      have hb := ev_ok hF hx
      generalize hcv : a.eval x = cv at hb
      have hb' := hb
      cases hb
      refine ⟨_, ?_, rfl, hb'⟩
      simp only [execOp, hcv, Instr.panic, Sem.run_bind, run_goPanic, Result.andThen_halt]
    · cases h
  · split at h
    · split at h
      · unfold vAppend at h
        split at h
        · cases h
        · cases h
        · split at h
          · split at h
            · split at h
              · split at h
                · split at h
                  · cases h
                  · obtain ⟨_, h2⟩ := gd_some h; cases h2
                · split at h
                  · cases h
                  · obtain ⟨_, h2⟩ := gd_some h; cases h2
                · cases h
                · cases h
                · cases h
              · split at h
                · split at h
                  · obtain ⟨_, h2⟩ := gd_some h; cases h2
                  · cases h
                · cases h
                · split at h
                  · cases h
                  · obtain ⟨_, h2⟩ := gd_some h; cases h2
                · split at h
                  · obtain ⟨_, h2⟩ := gd_some h; cases h2
                  · cases h
                · cases h
            · cases h
          · cases h
      · cases h
    · cases h
  · cases hc
  · cases hc
  · cases h
end
end Go.Vm
/- Names are renamed: a part of the heap under names of its own. -/
namespace Go.Vm
set_option linter.unusedSimpArgs false
set_option linter.unusedVariables false
set_option linter.unusedSectionVars false
section
variable {P : Program} {T : List (Nat × Ty)} {ρ : Rho} {lab : Lab} {w : World} {H : Hp} {fr : Fr} {a : Act} {n nr : Nat} {env : Env} {orc : Orc}

theorem idx_get : ∀ {ns : List Nat} {k i : Nat}, idx k ns = some i → ns[i]? = some k
  | [], k, i, h => by cases h
  | a :: r, k, i, h => by
    simp only [idx] at h
    split at h
    · rename_i hb; cases h; rw [Nat.eq_of_beq_eq_true hb]; rfl
    · split at h
      · rename_i j hj; cases h; simpa using idx_get hj
      · cases h

theorem get_idx : ∀ {ns : List Nat} {k i : Nat}, ns.Nodup → ns[i]? = some k → idx k ns = some i
  | [], k, i, _, h => by simp at h
  | a :: r, k, i, hn, h => by
    rw [List.nodup_cons] at hn
    simp only [idx]
    cases i with
    | zero => simp at h; subst h; simp
    | succ i =>
      simp at h
      have hne : ¬ a = k := by rintro rfl; exact hn.1 (List.mem_of_getElem? h)
      have : Nat.beq a k = false := by
        cases hb : Nat.beq a k with
        | true => exact absurd (Nat.eq_of_beq_eq_true hb) hne
        | false => rfl
      rw [this]
      simp only
      rw [get_idx hn.2 h]

theorem has_iff {k : Nat} : ∀ {l : List Nat}, has k l = false → k ∉ l
  | [], _ => by simp
  | a :: r, h => by
    simp only [has] at h
    split at h
    · cases h
    · rename_i hb
      have := has_iff h
      simp only [List.mem_cons, not_or]
      refine ⟨?_, this⟩
      rintro rfl
      simp at hb

theorem reach_nodup (H : Hp) : ∀ (f : Nat) (todo acc : List Nat), acc.Nodup → (reach H f todo acc).Nodup
  | 0, _, acc, h => h
  | f + 1, [], acc, h => h
  | f + 1, k :: todo, acc, h => by
    simp only [reach]
    split
    · exact reach_nodup H f _ _ h
    · rename_i hb
      refine reach_nodup H f _ _ ?_
      rw [List.nodup_append]
      exact ⟨h, by simp, fun x hx y hy => by simp at hy; subst hy; rintro rfl; exact has_iff hb hx⟩

/-- renaming, of names and of labels -/
structure Ren (m : Nat → Option Nat) (ρ ρ' : Rho) (lab lab' : Lab) : Prop where
  at_ : ∀ k i x, m k = some i → ρ.at_ k = some x → ρ'.at_ i = some x
  hd : ∀ k i n x, m k = some i → ρ.hd k n = some x → ρ'.hd i n = some x
  lab : ∀ b o, lab b o = none → lab' b o = none

theorem NF.rel {ρ' : Rho} {lab' : Lab} (hl : ∀ b o, lab b o = none → lab' b o = none) {v : V} {x : Value} (h : Rel ρ lab w v x) : NF v → Rel ρ' lab' w v x := by
  induction h with
  | undef x => intro _; exact .undef x
  | bool b => intro _; exact .bool b
  | int k n => intro _; exact .int k n
  | str s => intro _; exact .str s
  | nilptr => intro _; exact .nilptr
  | ptr => intro h; cases h
  | cptr cells xs b o h1 h2 _ hnf ih => intro _; exact .cptr cells xs b o h1 (fun i x hx => ⟨hl _ _ (h2 i x hx).lab, (h2 i x hx).cell⟩) (fun i v x hv hx => ih i v x hv hx (hnf v (List.mem_of_getElem? hv))) hnf
  | slice ow n cells xs b o ao cap g1 g2 g3 g4 g5 _ g7 g8 g9 ih =>
    intro h
    cases h with
    | slice _ _ _ hnt _ =>
    refine .slice ow n cells xs b o ao cap g1 g2 g3 g4 (fun i x hx => ⟨hl _ _ (g5 i x hx).lab, (g5 i x hx).cell⟩) (fun i v x hv hx => ih i v x hv hx (g9 v (List.mem_of_getElem? hv))) ?_ g8 g9
    cases ow with
    | tag g => exact absurd rfl (hnt g)
    | _ => exact g7
  | rslice => intro h; cases h
  | func fn a c xs ys h1 h2 _ _ _ _ =>
    intro h
    cases h
    exact .func fn [] [] xs ys h1 h2 (by simp) (by simp)
  | nilFunc => intro _; exact .nilFunc
  | iface t v x _ ih => intro h; cases h with | iface _ _ hv => exact .iface t v x (ih hv)
  | nilIface => intro _; exact .nilIface
  | agg cells xs h1 _ ih => intro h; cases h with | agg _ hv => exact .agg cells xs h1 (fun i v x hv' hx => ih i v x hv' hx (hv v (List.mem_of_getElem? hv')))
  | tuple cells xs h1 _ ih => intro h; cases h with | tuple _ hv => exact .tuple cells xs h1 (fun i v x hv' hx => ih i v x hv' hx (hv v (List.mem_of_getElem? hv')))

theorem Rel.ren {m : Nat → Option Nat} {ρ' : Rho} {lab' : Lab} (hm : Ren m ρ ρ' lab lab') : ∀ (d : Nat) {v v' : V} {x : Value}, renV m d v = some v' → Rel ρ lab w v x → Rel ρ' lab' w v' x
  | 0, v, v', x, h, _ => by simp [renV] at h
  | d + 1, v, v', x, h, hx => by
    have hL : ∀ {cs cs' : List V} {xs : List Value}, mapO (renV m d) cs = some cs' → xs.length = cs.length → (∀ (i : Nat) (v : V) (x : Value), cs[i]? = some v → xs[i]? = some x → Rel ρ lab w v x) →
        xs.length = cs'.length ∧ ∀ (i : Nat) (v : V) (x : Value), cs'[i]? = some v → xs[i]? = some x → Rel ρ' lab' w v x := by
      intro cs cs' xs hc h1 h2
      refine ⟨by rw [mapO_len hc]; exact h1, fun i v x hv hx => ?_⟩
      obtain ⟨u, g1, g2⟩ := mapO_get hc i v hv
      exact Rel.ren hm d g2 (h2 i u x g1 hx)
    simp only [renV] at h
    cases hx with
    | undef x => cases h; exact .undef x
    | bool b => cases h; exact .bool b
    | int k n => cases h; exact .int k n
    | str s => cases h; exact .str s
    | nilptr => cases h; exact .nilptr
    | ptr r off b o c h1 =>
      simp only at h
      split at h
      · rename_i r' hr; cases h; exact .ptr r' off b o c (hm.at_ _ _ _ hr h1)
      · cases h
    | cptr cells xs b o h1 h2 h3 hnf => cases h; exact NF.rel hm.lab (.cptr cells xs b o h1 h2 h3 hnf) (.cptr _ hnf)
    | slice ow n cells xs b o ao cap g1 g2 g3 g4 g5 g6 g7 g8 g9 =>
      have hc : ∀ (i : Nat) (v : V) (x : Value), cells[i]? = some v → xs[i]? = some x → Rel ρ' lab' w v x := fun i v x hv hx => NF.rel hm.lab (g6 i v x hv hx) (g9 v (List.mem_of_getElem? hv))
      have hf : ∀ (i : Nat) (x : Value), xs[i]? = some x → FCell lab' w b (o + i) x := fun i x hx => ⟨hm.lab _ _ (g5 i x hx).lab, (g5 i x hx).cell⟩
      cases ow with
      | tag g =>
        simp only at h
        split at h
        · rename_i g' hg; cases h; exact .slice _ n cells xs b o ao cap g1 g2 g3 g4 hf hc (hm.hd _ _ _ _ hg g7) g8 g9
        · cases h
      | sealed => cases h; exact .slice _ n cells xs b o ao cap g1 g2 g3 g4 hf hc g7 g8 g9
      | full => cases h; exact .slice _ n cells xs b o ao cap g1 g2 g3 g4 hf hc g7 g8 g9
      | nil => cases h; exact .slice _ n cells xs b o ao cap g1 g2 g3 g4 hf hc g7 g8 g9
    | rslice r off n wh base g ao cap h1 h2 h3 h4 h5 =>
      simp only at h
      split at h
      · rename_i r' hr; cases h; exact .rslice r' off n wh base g ao cap (hm.at_ _ _ _ hr h1) h2 h3 h4 h5
      · cases h
    | func fn p q xs ys h1 h2 h3 h4 =>
      simp only at h
      split at h
      · rename_i p' q' hp hq
        cases h
        obtain ⟨k1, k2⟩ := hL hp h1 h3
        obtain ⟨k3, k4⟩ := hL hq h2 h4
        exact .func fn p' q' xs ys k1 k3 k2 k4
      · cases h
    | nilFunc => cases h; exact .nilFunc
    | iface t u x h1 =>
      simp only at h
      split at h
      · rename_i u' hu; cases h; exact .iface t u' x (Rel.ren hm d hu h1)
      · cases h
    | nilIface => cases h; exact .nilIface
    | agg cells xs h1 h2 =>
      simp only at h
      split at h
      · rename_i cs' hcs
        cases h
        obtain ⟨k1, k2⟩ := hL hcs h1 h2
        exact .agg cs' xs k1 k2
      · cases h
    | tuple cells xs h1 h2 =>
      simp only at h
      split at h
      · rename_i cs' hcs
        cases h
        obtain ⟨k1, k2⟩ := hL hcs h1 h2
        exact .tuple cs' xs k1 k2
      · cases h

theorem RelL.ren {m : Nat → Option Nat} {ρ' : Rho} {lab' : Lab} (hm : Ren m ρ ρ' lab lab') {d : Nat} {cs cs' : List V} {xs : List Value} (h : mapO (renV m d) cs = some cs') (hx : RelL ρ lab w cs xs) : RelL ρ' lab' w cs' xs := by
  refine ⟨by rw [mapO_len h]; exact hx.1, fun i v x hv hxx => ?_⟩
  obtain ⟨u, g1, g2⟩ := mapO_get h i v hv
  exact Rel.ren hm d g2 (hx.2 i u x g1 hxx)

/-- an object, renamed -/
theorem ObjOk.ren {m : Nat → Option Nat} {ρ' : Rho} {lab' : Lab} (hm : Ren m ρ ρ' lab lab') {k i : Nat} (hk : m k = some i) (hlab : ∀ b o, lab b o = some (some k) → lab' b o = some (some i)) {o o' : Obj}
    (h : ObjOk ρ lab w k o) (ho : renO m o = some o') : ObjOk ρ' lab' w i o' := by
  have hO : ∀ b p, OCell lab w k b p → OCell lab' w i b p := fun b p hq => ⟨hlab _ _ hq.lab, hq.free, hq.cell⟩
  cases o with
  | row cs =>
    simp only [renO] at ho
    split at ho
    · rename_i cs' hcs
      cases ho
      obtain ⟨b, o, xs, h1, h2, h3⟩ := h
      exact ⟨b, o, xs, hm.at_ _ _ _ hk h1, h2.ren hm hcs, fun j x hx => ⟨hO _ _ (h3 j x hx).1, (h3 j x hx).2⟩⟩
    · cases ho
  | grow e cs =>
    simp only [renO] at ho; cases ho
    obtain ⟨base, c, xs, h1, h2, h3, h4, h8, h9, h5⟩ := h
    refine ⟨base, c, xs, hm.at_ _ _ _ hk h1, ⟨h2.1, fun j v x hv hx => NF.rel hm.lab (h2.2 j v x hv hx) (h9 v (List.mem_of_getElem? hv))⟩, h3, h4, h8, h9, fun b o hb => ?_⟩
    obtain ⟨h6, h7⟩ := h5 b o hb
    exact ⟨fun j hj => hO _ _ (h6 j hj), h7⟩
  | tip e n =>
    simp only [renO] at ho; cases ho
    obtain ⟨ao, cap, h1, h2, h3, h4, h5⟩ := h
    exact ⟨ao, cap, hm.hd _ _ _ _ hk h1, h2, h3, h4, fun a ha => ⟨(h5 a ha).1, fun j hj hj' => hO _ _ ((h5 a ha).2 j hj hj')⟩⟩
  | gone => simp only [renO] at ho; cases ho; trivial

theorem hget_none_of {k : Nat} : ∀ {H : Hp}, (∀ p ∈ H, p.1 ≠ k) → hget k H = none
  | [], _ => rfl
  | (s, o) :: r, h => by
    have h1 := h (s, o) (List.mem_cons_self ..)
    simp only at h1
    simp only [hget]
    have : Nat.beq s k = false := by
      cases hb : Nat.beq s k with
      | true => exact absurd (Nat.eq_of_beq_eq_true hb) h1
      | false => rfl
    rw [this]
    exact hget_none_of (fun p hp => h p (List.mem_cons_of_mem _ hp))

theorem hget_append (k : Nat) : ∀ (A B : Hp), hget k (A ++ B) = match hget k A with | some o => some o | none => hget k B
  | [], B => rfl
  | (s, o) :: r, B => by
    simp only [List.cons_append, hget]
    cases hb : Nat.beq s k with
    | true => rfl
    | false => exact hget_append k r B

/-- the objects lie under the numbers from k on -/
def Canon (k : Nat) : Hp → Prop
  | [] => True
  | (i, _) :: r => i = k ∧ Canon (k + 1) r

theorem canon_get : ∀ {H : Hp} {k : Nat}, Canon k H → ∀ i, hget (k + i) H = (H[i]?).map (·.2)
  | [], k, _, i => rfl
  | (s, o) :: r, k, h, i => by
    obtain ⟨rfl, h2⟩ := h
    simp only [hget]
    cases i with
    | zero => simp
    | succ i =>
      have : Nat.beq s (s + (i + 1)) = false := by
        cases hb : Nat.beq s (s + (i + 1)) with
        | true => have := Nat.eq_of_beq_eq_true hb; omega
        | false => rfl
      rw [this]
      have := canon_get h2 i
      rw [show s + 1 + i = s + (i + 1) from by omega] at this
      simpa using this

theorem canon_lt : ∀ {H : Hp} {k : Nat}, Canon k H → ∀ j o, hget j H = some o → k ≤ j ∧ j < k + H.length
  | [], k, _, j, o, h => by cases h
  | (s, x) :: r, k, h, j, o, hj => by
    obtain ⟨rfl, h2⟩ := h
    simp only [hget] at hj
    split at hj
    · rename_i hb
      have := Nat.eq_of_beq_eq_true hb
      subst this
      simp
    · have := canon_lt h2 j o hj
      simp only [List.length_cons]; omega

theorem pickO_ok {m : Nat → Option Nat} : ∀ {ns : List Nat} {k : Nat} {H2 : Hp}, pickO H m ns k = some H2 → Canon k H2 ∧ H2.length = ns.length ∧
    ∀ (i j : Nat), ns[i]? = some j → ∃ o o', hget j H = some o ∧ renO m o = some o' ∧ hget (k + i) H2 = some o'
  | [], k, H2, h => by simp only [pickO] at h; cases h; exact ⟨trivial, rfl, by simp⟩
  | a :: r, k, H2, h => by
    simp only [pickO] at h
    split at h
    · cases h
    · rename_i o ho
      split at h
      · rename_i o' l h1 h2
        cases h
        obtain ⟨g1, g2, g3⟩ := pickO_ok h2
        refine ⟨⟨rfl, g1⟩, by simp [g2], fun i j hj => ?_⟩
        cases i with
        | zero => simp at hj; subst hj; exact ⟨o, o', ho, h1, by simp [hget]⟩
        | succ i =>
          simp at hj
          obtain ⟨p, p', k1, k2, k3⟩ := g3 i j hj
          refine ⟨p, p', k1, k2, ?_⟩
          have : Nat.beq k (k + (i + 1)) = false := by
            cases hb : Nat.beq k (k + (i + 1)) with
            | true => have := Nat.eq_of_beq_eq_true hb; omega
            | false => rfl
          simp only [hget, this]
          rw [show k + (i + 1) = k + 1 + i from by omega]
          exact k3
      · cases h

/-- a part of the names, numbered -/
def Rho.sub (ρ : Rho) (ns : List Nat) : Rho := ⟨fun i => (ns[i]?).bind ρ.at_, fun i n => (ns[i]?).bind fun k => ρ.hd k n⟩
def Lab.sub (lab : Lab) (ns : List Nat) : Lab := fun b o => match lab b o with
  | some (some k) => (match idx k ns with | some i => some (some i) | none => some none)
  | x => x

theorem ren_sub (ns : List Nat) : Ren (idx · ns) ρ (ρ.sub ns) lab (lab.sub ns) where
  at_ := fun k i x h hx => by simp only [Rho.sub, idx_get h]; exact hx
  hd := fun k i n x h hx => by simp only [Rho.sub, idx_get h]; exact hx
  lab := fun b o h => by simp only [Lab.sub, h]

theorem Sim.sub (hS : Sim ρ lab H w) {ns : List Nat} (hn : ns.Nodup) {H2 : Hp} (hp : pickO H (idx · ns) ns 0 = some H2) : Sim (ρ.sub ns) (lab.sub ns) H2 w := by
  obtain ⟨c1, c2, c3⟩ := pickO_ok hp
  have hsome : ∀ i k, ns[i]? = some k → ∃ o o', hget k H = some o ∧ renO (idx · ns) o = some o' ∧ hget i H2 = some o' := fun i k hk => by
    have := c3 i k hk
    simpa using this
  refine Sim.mk' (fun j o hj => ?_) (fun j n' x h => ?_) (fun j x h => ?_) (fun b o j hl => ?_)
  · have hlt := canon_lt c1 j o hj
    have hjn : j < ns.length := by omega
    obtain ⟨o1, o2, k1, k2, k3⟩ := hsome j ns[j] (by simp [hjn])
    rw [hj] at k3; cases k3
    have hidx := get_idx hn (show ns[j]? = some ns[j] from by simp [hjn])
    exact ObjOk.ren (ren_sub ns) hidx (fun b p hl => by simp only [Lab.sub, hl, hidx]) (hS.obj k1) k2
  · simp only [Rho.sub, Option.bind_eq_some_iff] at h
    obtain ⟨k, hk, hx⟩ := h
    obtain ⟨e, m, g1, g2⟩ := hS.hdom k n' x hx
    obtain ⟨o1, o2, k1, k2, k3⟩ := hsome j k hk
    rw [g1] at k1; cases k1
    simp only [renO] at k2; cases k2
    exact ⟨e, m, k3, g2⟩
  · simp only [Rho.sub, Option.bind_eq_some_iff] at h
    obtain ⟨k, hk, hx⟩ := h
    obtain ⟨o1, o2, k1, k2, k3⟩ := hsome j k hk
    rw [k3]; simp
  · simp only [Lab.sub] at hl
    cases hq : lab b o with
    | none => rw [hq] at hl; cases hl
    | some y => exact hS.ldom b o y hq
end
end Go.Vm
/- Nil slices get tags; a heap that is put together anew. -/
namespace Go.Vm
set_option linter.unusedSimpArgs false
set_option linter.unusedVariables false
set_option linter.unusedSectionVars false
section
variable {P : Program} {T : List (Nat × Ty)} {ρ ρ' : Rho} {lab : Lab} {w : World} {H : Hp} {fr : Fr} {a : Act} {n nr : Nat} {env : Env} {orc : Orc}

theorem Rel.up (hρ : ρ.le ρ') {v : V} {x : Value} (h : Rel ρ lab w v x) : Rel ρ' lab w v x := h.ext (Ext.refl lab w) hρ
theorem RelL.up (hρ : ρ.le ρ') {v : List V} {x : List Value} (h : RelL ρ lab w v x) : RelL ρ' lab w v x := h.ext (Ext.refl lab w) hρ
theorem ObjOk.up (hρ : ρ.le ρ') {k : Nat} {o : Obj} (h : ObjOk ρ lab w k o) : ObjOk ρ' lab w k o := h.carry (Ext.refl lab w) hρ (fun _ _ hq => ⟨hq, rfl⟩)

theorem relL_nil : RelL ρ lab w [] [] := ⟨rfl, by simp⟩
theorem relL_cons_iff {v : V} {r : List V} {xs : List Value} : RelL ρ lab w (v :: r) xs ↔ ∃ x xr, xs = x :: xr ∧ Rel ρ lab w v x ∧ RelL ρ lab w r xr := by
  constructor
  · rintro ⟨h1, h2⟩
    cases xs with
    | nil => simp at h1
    | cons x xr =>
      refine ⟨x, xr, rfl, h2 0 v x rfl rfl, by simpa using h1, fun i u y hu hy => h2 (i + 1) u y (by simpa using hu) (by simpa using hy)⟩
  · rintro ⟨x, xr, rfl, h1, h2, h3⟩
    refine ⟨by simp [h2], fun i u y hu hy => ?_⟩
    cases i with
    | zero => simp at hu hy; subst hu hy; exact h1
    | succ i => exact h3 i u y (by simpa using hu) (by simpa using hy)

theorem isNilSlice (v : V) : (∃ n cs, v = .slice .nil n cs) ∨ ∀ n cs, v ≠ .slice .nil n cs := by
  cases v with
  | slice o n cs => cases o with
    | nil => exact .inl ⟨n, cs, rfl⟩
    | _ => exact .inr (fun _ _ h => by cases h)
  | _ => exact .inr (fun _ _ h => by cases h)

theorem tagNil_no {v : V} (h : ∀ n cs, v ≠ .slice .nil n cs) (r : List V) (k : Nat) : tagNil (v :: r) k = (v :: (tagNil r k).1, (tagNil r k).2) := by
  cases v with
  | slice o n cs => cases o with
    | nil => exact absurd rfl (h n cs)
    | _ => rfl
  | _ => rfl

theorem tagNil_mono : ∀ (vs : List V) (k : Nat), k ≤ (tagNil vs k).2
  | [], k => Nat.le_refl _
  | v :: r, k => by
    rcases isNilSlice v with ⟨n, cs, rfl⟩ | h
    · have := tagNil_mono r (k + 1); simp only [tagNil]; omega
    · rw [tagNil_no h]; exact tagNil_mono r k

theorem Rel.tag {k n : Nat} {cs : List V} {x : Value} (hk : ρ'.hd k 0 = some (none, 0)) (h : Rel ρ lab w (.slice .nil n cs) x) : Rel ρ' lab w (.slice (.tag k) n cs) x := by
  cases h with
  | slice _ _ _ xs b o ao cap g1 g2 g3 g4 g5 g6 g7 g8 g9 =>
    obtain ⟨rfl, rfl, rfl, rfl⟩ := g7
    cases xs with
    | nil => exact .slice _ 0 [] [] b o none 0 rfl (Nat.le_refl _) (by simp) (by simp) (by simp) (by simp) hk (by simp) (by simp)
    | cons y ys => simp at g1

theorem tagNil_ok (hρ : ρ.le ρ') : ∀ (vs : List V) (k : Nat) (xs : List Value), (∀ j, k ≤ j → j < (tagNil vs k).2 → ρ'.hd j 0 = some (none, 0)) → RelL ρ lab w vs xs → RelL ρ' lab w (tagNil vs k).1 xs
  | [], k, xs, _, h => h.up hρ
  | v :: r, k, xs, hk, h => by
    obtain ⟨x, xr, rfl, h1, h2⟩ := relL_cons_iff.1 h
    rcases isNilSlice v with ⟨n, cs, rfl⟩ | hv
    · simp only [tagNil] at hk ⊢
      have hm := tagNil_mono r (k + 1)
      refine relL_cons_iff.2 ⟨x, xr, rfl, h1.tag (hk k (Nat.le_refl _) (by omega)), tagNil_ok hρ r (k + 1) xr (fun j h3 h4 => hk j (by omega) h4) h2⟩
    · rw [tagNil_no hv] at hk ⊢
      exact relL_cons_iff.2 ⟨x, xr, rfl, h1.up hρ, tagNil_ok hρ r k xr hk h2⟩

theorem tagRows_no {i k : Nat} {o : Obj} (h : ∀ cs, o ≠ .row cs) (r : Hp) : tagRows ((i, o) :: r) k = ((i, o) :: (tagRows r k).1, (tagRows r k).2) := by
  cases o with
  | row cs => exact absurd rfl (h cs)
  | _ => rfl

theorem isRow (o : Obj) : (∃ cs, o = .row cs) ∨ ∀ cs, o ≠ .row cs := by
  cases o with
  | row cs => exact .inl ⟨cs, rfl⟩
  | _ => exact .inr (fun _ h => by cases h)

theorem tagRows_mono : ∀ (H : Hp) (k : Nat), k ≤ (tagRows H k).2
  | [], k => Nat.le_refl _
  | (i, o) :: r, k => by
    rcases isRow o with ⟨cs, rfl⟩ | h
    · have := tagNil_mono cs k; have := tagRows_mono r (tagNil cs k).2; simp only [tagRows]; omega
    · rw [tagRows_no h]; exact tagRows_mono r k

theorem tagRows_canon : ∀ {H : Hp} {i : Nat} (k : Nat), Canon i H → Canon i (tagRows H k).1 ∧ (tagRows H k).1.length = H.length
  | [], i, k, _ => ⟨trivial, rfl⟩
  | (s, o) :: r, i, k, h => by
    obtain ⟨rfl, h2⟩ := h
    rcases isRow o with ⟨cs, rfl⟩ | hr
    · simp only [tagRows]
      obtain ⟨g1, g2⟩ := tagRows_canon (tagNil cs k).2 h2
      exact ⟨⟨rfl, g1⟩, by simp [g2]⟩
    · rw [tagRows_no hr]
      obtain ⟨g1, g2⟩ := tagRows_canon k h2
      exact ⟨⟨rfl, g1⟩, by simp [g2]⟩

def TagOk (ρ ρ' : Rho) (lab : Lab) (w : World) (j : Nat) (o o' : Obj) : Prop := (∀ e n, o = .tip e n → o' = .tip e n) ∧ (ObjOk ρ lab w j o → ObjOk ρ' lab w j o')

theorem tagRows_ok (hρ : ρ.le ρ') : ∀ (H : Hp) (k : Nat), (∀ j, k ≤ j → j < (tagRows H k).2 → ρ'.hd j 0 = some (none, 0)) → ∀ j,
    (hget j H = none ∧ hget j (tagRows H k).1 = none) ∨ ∃ o o', hget j H = some o ∧ hget j (tagRows H k).1 = some o' ∧ TagOk ρ ρ' lab w j o o'
  | [], k, _, j => .inl ⟨rfl, rfl⟩
  | (s, o) :: r, k, hk, j => by
    rcases isRow o with ⟨cs, rfl⟩ | hr
    · simp only [tagRows] at hk ⊢
      have hm := tagNil_mono cs k
      have hm2 := tagRows_mono r (tagNil cs k).2
      simp only [hget]
      cases hb : Nat.beq s j with
      | true =>
        refine .inr ⟨_, _, rfl, rfl, (fun e n h => by cases h), ?_⟩
        rintro ⟨b, o, xs, h1, h2, h3⟩
        exact ⟨b, o, xs, hρ.at_ _ _ h1, tagNil_ok hρ cs k xs (fun i h4 h5 => hk i h4 (by omega)) h2, h3⟩
      | false => exact tagRows_ok hρ r _ (fun i h4 h5 => hk i (by omega) h5) j
    · rw [tagRows_no hr] at hk ⊢
      simp only [hget]
      cases hb : Nat.beq s j with
      | true => exact .inr ⟨_, _, rfl, rfl, fun e n h => h, fun h => h.up hρ⟩
      | false => exact tagRows_ok hρ r _ hk j

theorem tips_canon : ∀ (k n : Nat), Canon k (tips k n) ∧ (tips k n).length = n
  | _, 0 => ⟨trivial, rfl⟩
  | k, n + 1 => by
    obtain ⟨h1, h2⟩ := tips_canon (k + 1) n
    exact ⟨⟨rfl, h1⟩, by simp [tips, h2]⟩

theorem tips_get : ∀ (k n j : Nat) (o : Obj), hget j (tips k n) = some o → o = .tip 0 0
  | _, 0, j, o, h => by cases h
  | k, n + 1, j, o, h => by
    simp only [tips, hget] at h
    split at h
    · cases h; rfl
    · exact tips_get _ n j o h

theorem canon_some : ∀ {H : Hp} {k j : Nat}, Canon k H → k ≤ j → j < k + H.length → ∃ o, hget j H = some o := by
  intro H k j h h1 h2
  have h3 := canon_get h (j - k)
  rw [show k + (j - k) = j from by omega] at h3
  have h4 : j - k < H.length := by omega
  rw [h3, List.getElem?_eq_getElem h4]
  exact ⟨_, rfl⟩

theorem canon_append : ∀ {A B : Hp} {k : Nat}, Canon k A → Canon (k + A.length) B → Canon k (A ++ B)
  | [], B, k, _, h => by simpa using h
  | (s, o) :: r, B, k, h, h' => by
    obtain ⟨rfl, h2⟩ := h
    refine ⟨rfl, canon_append h2 ?_⟩
    rw [List.length_cons] at h'
    rw [show s + 1 + r.length = s + (r.length + 1) from by omega]
    exact h'

/-- names of objects that hold nothing: nil rows, tags of nil slices -/
def Rho.nils (ρ : Rho) (g m k n : Nat) : Rho :=
  ⟨fun j => if g ≤ j ∧ j < g + m then some (none, some 0) else ρ.at_ j, fun j l => if k ≤ j ∧ j < k + n then (if l = 0 then some (none, 0) else none) else ρ.hd j l⟩

theorem Sim.nils (hS : Sim ρ lab H w) (hc : Canon 0 H) {G : Hp} {k2 : Nat} (hG : Canon H.length G) (hGo : ∀ j o, hget j G = some o → ∃ e, o = .grow e []) (hk2 : H.length + G.length ≤ k2) :
    ∃ ρ', ρ.le ρ' ∧ (∀ j, H.length ≤ j → j < H.length + G.length → ρ'.at_ j = some (none, some 0)) ∧ (∀ j, H.length + G.length ≤ j → j < (tagRows H k2).2 → ρ'.hd j 0 = some (none, 0)) ∧
      Sim ρ' lab ((tagRows H k2).1 ++ G ++ tips (H.length + G.length) ((tagRows H k2).2 - (H.length + G.length))) w ∧
      Canon 0 ((tagRows H k2).1 ++ G ++ tips (H.length + G.length) ((tagRows H k2).2 - (H.length + G.length))) ∧
      H.length ≤ ((tagRows H k2).1 ++ G ++ tips (H.length + G.length) ((tagRows H k2).2 - (H.length + G.length))).length := by
  obtain ⟨c1, c2⟩ := tagRows_canon k2 hc
  have hmono := tagRows_mono H k2
  generalize hk1 : H.length + G.length = k1 at *
  generalize hn3 : (tagRows H k2).2 - k1 = n3
  obtain ⟨t1, t2⟩ := tips_canon k1 n3
  have hnoneH : ∀ j, H.length ≤ j → hget j H = none := fun j hj => by
    cases hq : hget j H with
    | none => rfl
    | some o => have := canon_lt hc j o hq; omega
  have hnoneC : ∀ j, H.length ≤ j → hget j (tagRows H k2).1 = none := fun j hj => by
    cases hq : hget j (tagRows H k2).1 with
    | none => rfl
    | some o => have := canon_lt c1 j o hq; omega
  have hnoneG : ∀ j, k1 ≤ j → hget j G = none := fun j hj => by
    cases hq : hget j G with
    | none => rfl
    | some o => have := canon_lt hG j o hq; omega
  refine ⟨ρ.nils H.length G.length k1 n3, ⟨fun j x hx => ?_, fun j m x hx => ?_⟩, fun j h1 h2 => ?_, fun j h1 h2 => ?_, ?_, ?_, ?_⟩
  · simp only [Rho.nils]
    split
    · rename_i hj
      exact absurd (hnoneH j hj.1) (hS.adom j x hx)
    · exact hx
  · simp only [Rho.nils]
    split
    · rename_i hj
      obtain ⟨e, m', h1, _⟩ := hS.hdom j m x hx
      rw [hnoneH j (by omega)] at h1; cases h1
    · exact hx
  · simp only [Rho.nils]; rw [if_pos ⟨h1, by omega⟩]
  · simp only [Rho.nils]; rw [if_pos ⟨h1, by omega⟩]; rfl
  · have hle : ρ.le (ρ.nils H.length G.length k1 n3) := by
      refine ⟨fun j x hx => ?_, fun j m x hx => ?_⟩
      · simp only [Rho.nils]
        split
        · rename_i hj
          exact absurd (hnoneH j hj.1) (hS.adom j x hx)
        · exact hx
      · simp only [Rho.nils]
        split
        · rename_i hj
          obtain ⟨e, m', h1, _⟩ := hS.hdom j m x hx
          rw [hnoneH j (by omega)] at h1; cases h1
        · exact hx
    have hhd : ∀ j, k2 ≤ j → j < (tagRows H k2).2 → (ρ.nils H.length G.length k1 n3).hd j 0 = some (none, 0) := fun j h1 h2 => by
      simp only [Rho.nils]; rw [if_pos ⟨by omega, by omega⟩]; rfl
    have htr := tagRows_ok (lab := lab) (w := w) hle H k2 hhd
    refine Sim.mk' (fun j o hj => ?_) (fun j m x hx => ?_) (fun j x hx => ?_) hS.ldom
    · rw [hget_append, hget_append] at hj
      rcases htr j with ⟨g1, g2⟩ | ⟨o1, o2, g1, g2, g3⟩
      · rw [g2] at hj
        simp only at hj
        cases hq : hget j G with
        | some o3 =>
          rw [hq] at hj; cases hj
          obtain ⟨e, rfl⟩ := hGo j o hq
          have hlt := canon_lt hG j _ hq
          refine ⟨none, 0, [], ?_, relL_nil, by simp, fun _ => rfl, by simp, by simp, by simp⟩
          simp only [Rho.nils]; rw [if_pos ⟨by omega, by omega⟩]
        | none =>
          rw [hq] at hj
          simp only at hj
          have := tips_get _ _ _ _ hj
          subst this
          have hlt := canon_lt t1 j _ hj
          refine ⟨none, 0, ?_, Nat.le_refl _, fun _ => rfl, fun _ => rfl, by simp⟩
          simp only [Rho.nils]; rw [if_pos ⟨by omega, by omega⟩]; rfl
      · rw [g2] at hj
        simp only at hj
        cases hj
        exact g3.2 (hS.obj g1)
    · simp only [Rho.nils] at hx
      rw [hget_append, hget_append]
      split at hx
      · rename_i hj
        split at hx
        · subst_vars
          rw [hnoneC j (by omega), hnoneG j hj.1]
          obtain ⟨o, ho⟩ := canon_some t1 hj.1 (by omega)
          have := tips_get _ _ _ _ ho
          subst this
          exact ⟨0, 0, ho, Nat.le_refl _⟩
        · cases hx
      · obtain ⟨e, m', h1, h2⟩ := hS.hdom j m x hx
        rcases htr j with ⟨g1, g2⟩ | ⟨o1, o2, g1, g2, g3⟩
        · rw [g1] at h1; cases h1
        · rw [h1] at g1; cases g1
          have := g3.1 e m' rfl
          subst this
          rw [g2]
          exact ⟨e, m', rfl, h2⟩
    · simp only [Rho.nils] at hx
      rw [hget_append, hget_append]
      split at hx
      · rename_i hj
        rw [hnoneC j (by omega)]
        obtain ⟨o, ho⟩ := canon_some hG hj.1 (by omega)
        rw [ho]
        simp
      · have := hS.adom j x hx
        rcases htr j with ⟨g1, g2⟩ | ⟨o1, o2, g1, g2, g3⟩
        · exact absurd g1 this
        · rw [g2]; simp
  · refine canon_append (canon_append c1 ?_) ?_
    · rw [c2]; simpa using hG
    · rw [List.length_append, c2, Nat.zero_add, hk1]; exact t1
  · simp only [List.length_append, c2]; omega

/- frames -/
theorem look_head (s : Nat) (v : V) (r : Fr) : look s ((s, v) :: r) = v := by simp [look]
theorem look_tail {s t : Nat} (h : s ≠ t) (v : V) (r : Fr) : look t ((s, v) :: r) = look t r := by rw [look_cons, if_neg h]

theorem mapFr_look {f : V → Option V} : ∀ {fr fr' : Fr}, mapFr f fr = some fr' → ∀ t, look t fr' = .undef ∨ f (look t fr) = some (look t fr')
  | [], fr', h, t => by simp only [mapFr] at h; cases h; exact .inl rfl
  | (s, v) :: r, fr', h, t => by
    simp only [mapFr] at h
    split at h
    · rename_i v' r' h1 h2
      cases h
      by_cases hs : s = t
      · subst hs; rw [look_head, look_head]; exact .inr h1
      · rw [look_tail hs, look_tail hs]; exact mapFr_look h2 t
    · cases h

theorem keep_look : ∀ (l : List Nat) (fr : Fr) (t : Nat), look t (l.map fun s => (s, look s fr)) = .undef ∨ look t (l.map fun s => (s, look s fr)) = look t fr
  | [], fr, t => .inl rfl
  | s :: r, fr, t => by
    rw [List.map_cons]
    by_cases hs : s = t
    · subst hs; rw [look_head]; exact .inr rfl
    · rw [look_tail hs]; exact keep_look r fr t

theorem refNil_canon (b : Nat → Option Nat) : ∀ (fr : Fr) (k : Nat), Canon k (refNil b fr k).2 ∧ ∀ j o, hget j (refNil b fr k).2 = some o → ∃ e, o = .grow e []
  | [], k => ⟨trivial, fun j o h => by cases h⟩
  | (s, v) :: r, k => by
    obtain ⟨h1, h2⟩ := refNil_canon b r (k + 1)
    obtain ⟨h3, h4⟩ := refNil_canon b r k
    simp only [refNil]
    split
    · refine ⟨⟨rfl, h1⟩, fun j o hj => ?_⟩
      simp only [hget] at hj
      split at hj
      · cases hj; exact ⟨_, rfl⟩
      · exact h2 j o hj
    · exact ⟨h3, h4⟩

theorem Rel.ref {k n : Nat} {cs : List V} {x : Value} (hk : ρ'.at_ k = some (none, some 0)) (h : Rel ρ lab w (.slice .nil n cs) x) : Rel ρ' lab w (.rslice k 0 0 true) x := by
  cases h with
  | slice _ _ _ xs b o ao cap g1 g2 g3 g4 g5 g6 g7 g8 g9 =>
    obtain ⟨rfl, rfl, rfl, rfl⟩ := g7
    exact .rslice k 0 0 true none (some 0) none 0 hk (Nat.le_refl _) (fun _ => rfl) (fun _ => ⟨rfl, rfl⟩) (by simp)

theorem refNil_ok (b : Nat → Option Nat) (hρ : ρ.le ρ') (t : Nat) (x : Value) : ∀ (fr : Fr) (k : Nat), (∀ j, k ≤ j → j < k + (refNil b fr k).2.length → ρ'.at_ j = some (none, some 0)) →
    Rel ρ lab w (look t fr) x → Rel ρ' lab w (look t (refNil b fr k).1) x
  | [], k, _, h => h.up hρ
  | (s, v) :: r, k, hk, h => by
    simp only [refNil] at hk ⊢
    split at hk
    · rename_i e n cs he hv
      simp only [List.length_cons] at hk
      by_cases hs : s = t
      · subst hs; simp only [look_head] at h ⊢; exact h.ref (hk k (Nat.le_refl _) (by omega))
      · rw [look_tail hs] at h
        simp only [look_tail hs]
        exact refNil_ok b hρ t x r (k + 1) (fun j h1 h2 => hk j (by omega) (by omega)) h
    · rename_i v' hno
      by_cases hs : s = t
      · subst hs; simp only [look_head] at h ⊢; exact h.up hρ
      · rw [look_tail hs] at h
        simp only [look_tail hs]
        exact refNil_ok b hρ t x r k hk h

theorem tagFr_no {v : V} (h : ∀ n cs, v ≠ .slice .nil n cs) (s : Nat) (r : Fr) (k : Nat) : tagFr ((s, v) :: r) k = ((s, v) :: (tagFr r k).1, (tagFr r k).2) := by
  cases v with
  | slice o n cs => cases o with
    | nil => exact absurd rfl (h n cs)
    | _ => rfl
  | _ => rfl

theorem tagFr_mono : ∀ (fr : Fr) (k : Nat), k ≤ (tagFr fr k).2
  | [], k => Nat.le_refl _
  | (s, v) :: r, k => by
    rcases isNilSlice v with ⟨n, cs, rfl⟩ | h
    · have := tagFr_mono r (k + 1); simp only [tagFr]; omega
    · rw [tagFr_no h]; exact tagFr_mono r k

theorem tagFr_ok (hρ : ρ.le ρ') (t : Nat) (x : Value) : ∀ (fr : Fr) (k : Nat), (∀ j, k ≤ j → j < (tagFr fr k).2 → ρ'.hd j 0 = some (none, 0)) →
    Rel ρ lab w (look t fr) x → Rel ρ' lab w (look t (tagFr fr k).1) x
  | [], k, _, h => h.up hρ
  | (s, v) :: r, k, hk, h => by
    rcases isNilSlice v with ⟨n, cs, rfl⟩ | hv
    · simp only [tagFr] at hk ⊢
      have hm := tagFr_mono r (k + 1)
      by_cases hs : s = t
      · subst hs; simp only [look_head] at h ⊢; exact h.tag (hk k (Nat.le_refl _) (by omega))
      · rw [look_tail hs] at h
        simp only [look_tail hs]
        exact tagFr_ok hρ t x r (k + 1) (fun j h1 h2 => hk j (by omega) h2) h
    · rw [tagFr_no hv] at hk ⊢
      by_cases hs : s = t
      · subst hs; simp only [look_head] at h ⊢; exact h.up hρ
      · rw [look_tail hs] at h
        simp only [look_tail hs]
        exact tagFr_ok hρ t x r k hk h

/- slices that are full get tags -/
theorem canon_hset : ∀ {H : Hp} {k j : Nat} {o : Obj}, Canon k H → hget j H ≠ none → Canon k (hset j o H) ∧ (hset j o H).length = H.length
  | [], _, _, _, _, h => absurd rfl h
  | (s, x) :: r, k, j, o, hc, h => by
    obtain ⟨rfl, hc2⟩ := hc
    simp only [hget] at h
    simp only [hset]
    cases hb : Nat.beq s j with
    | true =>
      have := Nat.eq_of_beq_eq_true hb
      subst this
      exact ⟨⟨rfl, hc2⟩, rfl⟩
    | false =>
      rw [hb] at h
      simp only at h ⊢
      have hlt : s < j := by
        cases hq : hget j r with
        | none => exact absurd hq h
        | some o' => have := canon_lt hc2 j o' hq; omega
      have hbl : Nat.ble j s = false := by
        cases hq : Nat.ble j s with
        | false => rfl
        | true => have := Nat.le_of_ble_eq_true hq; omega
      rw [hbl]
      obtain ⟨g1, g2⟩ := canon_hset (o := o) hc2 h
      exact ⟨⟨rfl, g1⟩, by simp only [List.length_cons, g2]⟩
theorem Sim.full1 (hS : Sim ρ lab H w) (hc : Canon 0 H) {n : Nat} {cs : List V} {x : Value} (hv : Rel ρ lab w (.slice .full n cs) x) (h0 : isFull n cs = true) :
    ∃ ρ', ρ.le ρ' ∧ Sim ρ' lab (H ++ [(H.length, .tip (eSz n cs) n)]) w ∧ Canon 0 (H ++ [(H.length, .tip (eSz n cs) n)]) ∧ Rel ρ' lab w (.slice (.tag H.length) n cs) x := by
  simp only [isFull, Bool.and_eq_true, Nat.blt_eq] at h0
  obtain ⟨hn0, he0⟩ := h0
  cases hv with
  | slice _ _ _ xs b o ao cap g1 g2 g3 g4 g5 g6 g7 g8 g9 =>
    simp only at g7
    subst g7
    have hao := g3 hn0
    have hnone : ∀ j, H.length ≤ j → hget j H = none := fun j hj => by
      cases hq : hget j H with
      | none => rfl
      | some o => have := canon_lt hc j o hq; omega
    have hle : ρ.le ⟨ρ.at_, fun j m => if j = H.length then (if m = cap then some (ao, cap) else none) else ρ.hd j m⟩ := by
      refine ⟨fun k x h => h, fun j m x h => ?_⟩
      simp only
      rw [if_neg]
      · exact h
      · rintro rfl
        obtain ⟨e, m', h1, _⟩ := hS.hdom _ m x h
        rw [hnone _ (Nat.le_refl _)] at h1; cases h1
    have hgetE : ∀ j, hget j (H ++ [(H.length, .tip (eSz cap cs) cap)]) = if j = H.length then some (.tip (eSz cap cs) cap) else hget j H := by
      intro j
      rw [hget_append]
      by_cases hj : j = H.length
      · subst hj
        rw [if_pos rfl, hnone _ (Nat.le_refl _)]
        simp [hget]
      · rw [if_neg hj]
        cases hq : hget j H with
        | some o => rfl
        | none =>
          simp only [hget]
          cases hb : Nat.beq H.length j with
          | true => exact absurd (Nat.eq_of_beq_eq_true hb).symm hj
          | false => rfl
    refine ⟨_, hle, Sim.mk' (fun j o' hj => ?_) (fun j m x h => ?_) (fun j x h => ?_) hS.ldom, ?_, ?_⟩
    · rw [hgetE] at hj
      split at hj
      · rename_i he
        subst he
        cases hj
        refine ⟨ao, cap, ?_, Nat.le_refl _, fun h => ?_, fun h => by omega, fun a ha => ⟨?_, fun i h1 h2 => by omega⟩⟩
        · simp
        · rw [hao] at h; cases h
        · rw [hao] at ha; cases ha; rfl
      · exact (hS.obj hj).up hle
    · simp only at h
      rw [hgetE]
      split at h
      · rename_i he
        split at h
        · subst_vars
          rw [if_pos rfl]
          exact ⟨_, _, rfl, Nat.le_refl _⟩
        · cases h
      · rename_i he
        rw [if_neg he]
        exact hS.hdom j m x h
    · rw [hgetE]
      split
      · simp
      · exact hS.adom j x h
    · refine canon_append hc ?_
      rw [Nat.zero_add]
      exact ⟨rfl, trivial⟩
    · refine .slice _ cap cs xs b o ao cap g1 g2 g3 g4 g5 (fun i v x h1 h2 => (g6 i v x h1 h2).up hle) ?_ g8 g9
      simp
theorem isFullSlice (v : V) : (∃ n cs, v = .slice .full n cs) ∨ ∀ n cs, v ≠ .slice .full n cs := by
  cases v with
  | slice o n cs => cases o with
    | full => exact .inl ⟨n, cs, rfl⟩
    | _ => exact .inr (fun _ _ h => by cases h)
  | _ => exact .inr (fun _ _ h => by cases h)
theorem fullL_no {v : V} (h : ∀ n cs, v ≠ .slice .full n cs) (r : List V) (k : Nat) : fullL (v :: r) k = (v :: (fullL r k).1, (fullL r k).2) := by
  cases v with
  | slice o n cs => cases o with
    | full => exact absurd rfl (h n cs)
    | _ => rfl
  | _ => rfl
theorem fullL_ok : ∀ (vs : List V) {ρ : Rho} {H : Hp} {xs : List Value}, Sim ρ lab H w → Canon 0 H → RelL ρ lab w vs xs →
    ∃ ρ', ρ.le ρ' ∧ Sim ρ' lab (H ++ (fullL vs H.length).2) w ∧ Canon 0 (H ++ (fullL vs H.length).2) ∧ RelL ρ' lab w (fullL vs H.length).1 xs
  | [], ρ, H, xs, hS, hc, h => ⟨ρ, .refl _, by simpa [fullL] using hS, by simpa [fullL] using hc, h⟩
  | v :: r, ρ, H, xs, hS, hc, h => by
    obtain ⟨x, xr, rfl, h1, h2⟩ := relL_cons_iff.1 h
    have skip : ∀ u : V, Rel ρ lab w u x → ∃ ρ', ρ.le ρ' ∧ Sim ρ' lab (H ++ (fullL r H.length).2) w ∧ Canon 0 (H ++ (fullL r H.length).2) ∧ RelL ρ' lab w (u :: (fullL r H.length).1) (x :: xr) := fun u hu => by
      obtain ⟨ρ', k1, k2, k3, k4⟩ := fullL_ok r hS hc h2
      exact ⟨ρ', k1, k2, k3, relL_cons_iff.2 ⟨x, xr, rfl, hu.up k1, k4⟩⟩
    rcases isFullSlice v with ⟨n, cs, rfl⟩ | hv
    · simp only [fullL]
      cases h0 : isFull n cs with
      | false => exact skip _ h1
      | true =>
        obtain ⟨ρ1, k1, k2, k3, k4⟩ := hS.full1 hc h1 h0
        obtain ⟨ρ2, m1, m2, m3, m4⟩ := fullL_ok r k2 k3 (h2.up k1)
        simp only [List.length_append, List.length_cons, List.length_nil, Nat.zero_add] at m2 m3 m4
        simp only [List.append_assoc, List.singleton_append] at m2 m3
        exact ⟨ρ2, k1.trans m1, m2, m3, relL_cons_iff.2 ⟨x, xr, rfl, k4.up m1, m4⟩⟩
    · rw [fullL_no hv]; exact skip _ h1
theorem fullK_ok : ∀ (ks : List Nat) {ρ : Rho} {H : Hp}, Sim ρ lab H w → Canon 0 H → ∃ ρ', ρ.le ρ' ∧ Sim ρ' lab (fullK ks H) w ∧ Canon 0 (fullK ks H) ∧ H.length ≤ (fullK ks H).length
  | [], ρ, H, hS, hc => ⟨ρ, .refl _, hS, hc, Nat.le_refl _⟩
  | k :: r, ρ, H, hS, hc => by
    simp only [fullK, gH_eq]
    split
    · rename_i cs hk
      split
      · exact fullK_ok r hS hc
      rename_i t ts heq
      rw [← heq]
      obtain ⟨b, o, xs, g1, g2, g3⟩ := hS.row k cs hk
      obtain ⟨ρ1, k1, k2, k3, k4⟩ := fullL_ok cs hS hc g2
      have hk2 : hget k (H ++ (fullL cs H.length).2) = some (.row cs) := by rw [hget_append, hk]
      obtain ⟨c1, c2⟩ := canon_hset (o := .row (fullL cs H.length).1) k3 (by rw [hk2]; simp)
      have hS2 : Sim ρ1 lab (hset k (.row (fullL cs H.length).1) (H ++ (fullL cs H.length).2)) w := by
        refine Sim.mk' (fun i o' hi => ?_) (fun i n' x h => ?_) (fun i x h => ?_) k2.ldom
        · rw [hget_hset] at hi
          split at hi
          · rename_i he
            subst he
            cases hi
            exact ⟨b, o, xs, k1.at_ _ _ g1, k4, g3⟩
          · exact k2.obj hi
        · obtain ⟨e, m, q1, q2⟩ := k2.hdom i n' x h
          refine ⟨e, m, ?_, q2⟩
          rw [hget_hset, if_neg]
          · exact q1
          · rintro rfl; rw [hk2] at q1; cases q1
        · rw [hget_hset]
          split
          · simp
          · exact k2.adom i x h
      obtain ⟨ρ2, m1, m2, m3, m4⟩ := fullK_ok r hS2 c1
      refine ⟨ρ2, k1.trans m1, m2, m3, ?_⟩
      rw [c2, List.length_append] at m4
      omega
    · exact fullK_ok r hS hc
theorem fullC_ok {b : Bool} {vs : List V} {xs : List Value} (hS : Sim ρ lab H w) (hc : Canon 0 H) (h : RelL ρ lab w vs xs) :
    ∃ ρ', ρ.le ρ' ∧ Sim ρ' lab (fullC b vs H).2 w ∧ Canon 0 (fullC b vs H).2 ∧ RelL ρ' lab w (fullC b vs H).1 xs ∧ H.length ≤ (fullC b vs H).2.length := by
  cases b with
  | false => exact ⟨ρ, .refl _, hS, hc, h, Nat.le_refl _⟩
  | true =>
    obtain ⟨ρ1, k1, k2, k3, k4⟩ := fullL_ok vs hS hc h
    obtain ⟨ρ2, m1, m2, m3, m4⟩ := fullK_ok (List.range H.length) k2 k3
    rw [List.length_append] at m4
    exact ⟨ρ2, k1.trans m1, m2, m3, k4.up m1, by simp only [fullC]; omega⟩
theorem fullFr_no {v : V} (h : ∀ n cs, v ≠ .slice .full n cs) (s : Nat) (r : Fr) (seen : List Nat) (k : Nat) : fullFr seen ((s, v) :: r) k = ((s, v) :: (fullFr (s :: seen) r k).1, (fullFr (s :: seen) r k).2) := by
  cases v with
  | slice o n cs => cases o with
    | full => exact absurd rfl (h n cs)
    | _ => rfl
  | _ => rfl
theorem has_cons_f {s t : Nat} {l : List Nat} (h : has t (s :: l) = false) : s ≠ t ∧ has t l = false := by
  simp only [has] at h
  cases hb : Nat.beq s t with
  | true => rw [hb] at h; cases h
  | false => rw [hb] at h; exact ⟨by rintro rfl; simp at hb, h⟩
theorem fullFr_ok {arr : Array Value} : ∀ (fr : Fr) (seen : List Nat) {ρ : Rho} {H : Hp}, Sim ρ lab H w → Canon 0 H → (∀ t, has t seen = false → Rel ρ lab w (look t fr) (arr.getD t undef)) →
    ∃ ρ', ρ.le ρ' ∧ Sim ρ' lab (H ++ (fullFr seen fr H.length).2) w ∧ Canon 0 (H ++ (fullFr seen fr H.length).2) ∧ ∀ t, has t seen = false → Rel ρ' lab w (look t (fullFr seen fr H.length).1) (arr.getD t undef)
  | [], seen, ρ, H, hS, hc, h => ⟨ρ, .refl _, by simpa [fullFr] using hS, by simpa [fullFr] using hc, h⟩
  | (s, v) :: r, seen, ρ, H, hS, hc, h => by
    have hr : ∀ t, has t (s :: seen) = false → Rel ρ lab w (look t r) (arr.getD t undef) := fun t ht => by
      obtain ⟨h1, h2⟩ := has_cons_f ht
      have := h t h2
      rwa [look_tail h1] at this
    have join : ∀ (ρ' : Rho) (u : V) (r' : Fr), (has s seen = false → Rel ρ' lab w u (arr.getD s undef)) → (∀ t, has t (s :: seen) = false → Rel ρ' lab w (look t r') (arr.getD t undef)) →
        ∀ t, has t seen = false → Rel ρ' lab w (look t ((s, u) :: r')) (arr.getD t undef) := fun ρ' u r' h1 h2 t ht => by
      by_cases hs : s = t
      · subst hs; rw [look_head]; exact h1 ht
      · rw [look_tail hs]
        refine h2 t ?_
        simp only [has]
        cases hb : Nat.beq s t with
        | true => exact absurd (Nat.eq_of_beq_eq_true hb) hs
        | false => exact ht
    have hv0 : has s seen = false → Rel ρ lab w v (arr.getD s undef) := fun hs => by have := h s hs; rwa [look_head] at this
    have skip : ∃ ρ', ρ.le ρ' ∧ Sim ρ' lab (H ++ (fullFr (s :: seen) r H.length).2) w ∧ Canon 0 (H ++ (fullFr (s :: seen) r H.length).2) ∧ ∀ t, has t seen = false → Rel ρ' lab w (look t ((s, v) :: (fullFr (s :: seen) r H.length).1)) (arr.getD t undef) := by
      obtain ⟨ρ', k1, k2, k3, k4⟩ := fullFr_ok r (s :: seen) hS hc hr
      exact ⟨ρ', k1, k2, k3, join ρ' v _ (fun hs => (hv0 hs).up k1) k4⟩
    rcases isFullSlice v with ⟨n, cs, rfl⟩ | hv
    · simp only [fullFr]
      cases h0 : isFull n cs && !has s seen with
      | false => exact skip
      | true =>
        simp only [Bool.and_eq_true, Bool.not_eq_true'] at h0
        obtain ⟨ρ1, k1, k2, k3, k4⟩ := hS.full1 hc (hv0 h0.2) h0.1
        obtain ⟨ρ2, m1, m2, m3, m4⟩ := fullFr_ok r (s :: seen) k2 k3 (fun t ht => (hr t ht).up k1)
        simp only [List.length_append, List.length_cons, List.length_nil, Nat.zero_add] at m2 m3 m4
        simp only [List.append_assoc, List.singleton_append] at m2 m3
        exact ⟨ρ2, k1.trans m1, m2, m3, join ρ2 _ _ (fun _ => k4.up m1) m4⟩
    · rw [fullFr_no hv]; exact skip
theorem fullN_ok {b : Bool} {arr : Array Value} (hS : Sim ρ lab H w) (hc : Canon 0 H) (h : FrRel ρ lab w fr arr) :
    ∃ ρ', ρ.le ρ' ∧ Sim ρ' lab (fullN b fr H).2 w ∧ FrRel ρ' lab w (fullN b fr H).1 arr ∧ H.length ≤ (fullN b fr H).2.length := by
  cases b with
  | false => exact ⟨ρ, .refl _, hS, h, Nat.le_refl _⟩
  | true =>
    obtain ⟨ρ1, k1, k2, k3, k4⟩ := fullFr_ok fr [] hS hc (fun t _ => h t)
    obtain ⟨ρ2, m1, m2, m3, m4⟩ := fullK_ok (List.range H.length) k2 k3
    rw [List.length_append] at m4
    exact ⟨ρ2, k1.trans m1, m2, fun t => (k4 t rfl).up m1, by simp only [fullN]; omega⟩
end
end Go.Vm
/- A part of the heap is kept, others are left; what a call has left is put back into the caller's heap. -/
namespace Go.Vm
set_option linter.unusedSimpArgs false
set_option linter.unusedVariables false
set_option linter.unusedSectionVars false
section
variable {P : Program} {T : List (Nat × Ty)} {ρ ρ' : Rho} {lab : Lab} {w : World} {H : Hp} {fr : Fr} {a : Act} {n nr : Nat} {env : Env} {orc : Orc}

theorem Rel.toSealed {v : V} {x : Value} (h : Rel ρ lab w v x) : Rel ρ lab w (sealV v) x := by
  cases h with
  | slice ow n cells xs b o ao cap g1 g2 g3 g4 g5 g6 g7 g8 g9 => exact .slice .sealed n cells xs b o ao cap g1 g2 g3 g4 g5 g6 trivial g8 g9
  | undef => exact .undef _
  | bool => exact .bool _
  | int => exact .int _ _
  | str => exact .str _
  | nilptr => exact .nilptr
  | ptr r off b o c h => exact .ptr r off b o c h
  | cptr cells xs b o h1 h2 h3 h4 => exact .cptr cells xs b o h1 h2 h3 h4
  | rslice r off n wh base g ao cap h1 h2 h3 h4 h5 => exact .rslice r off n wh base g ao cap h1 h2 h3 h4 h5
  | func fn a c xs ys h1 h2 h3 h4 => exact .func fn a c xs ys h1 h2 h3 h4
  | nilFunc => exact .nilFunc
  | iface t v x h => exact .iface t v x h
  | nilIface => exact .nilIface
  | agg cells xs h1 h2 => exact .agg cells xs h1 h2
  | tuple cells xs h1 h2 => exact .tuple cells xs h1 h2

theorem relMap {f : V → V} (hf : ∀ v x, Rel ρ lab w v x → Rel ρ lab w (f v) x) {vs : List V} {xs : List Value} (h : RelL ρ lab w vs xs) : RelL ρ lab w (vs.map f) xs := by
  refine ⟨by rw [List.length_map]; exact h.1, fun i v x hv hx => ?_⟩
  rw [List.getElem?_map, Option.map_eq_some_iff] at hv
  obtain ⟨u, hu, rfl⟩ := hv
  exact hf u x (h.2 i u x hu hx)

theorem RelL.toSealed {vs : List V} {xs : List Value} (h : RelL ρ lab w vs xs) : RelL ρ lab w (vs.map sealV) xs := relMap (fun _ _ h => h.toSealed) h

theorem Rel.sealAgg {v : V} {x : Value} (h : Rel ρ lab w v x) : Rel ρ lab w (sealA v) x := by
  cases v with
  | agg cs => cases h with | agg _ xs h1 h2 => have := RelL.toSealed (ρ := ρ) (lab := lab) (w := w) ⟨h1, h2⟩; exact .agg _ xs this.1 this.2
  | _ => exact h.toSealed

theorem RelL.toSealAt : ∀ {vs : List V} {i : Nat} {xs : List Value}, RelL ρ lab w vs xs → RelL ρ lab w (sealAt i vs) xs
  | [], i, _, h => by cases i <;> exact h
  | v :: r, 0, xs, h => by
    obtain ⟨x, xr, rfl, h1, h2⟩ := relL_cons_iff.1 h
    exact relL_cons_iff.2 ⟨x, xr, rfl, h1.toSealed, h2⟩
  | v :: r, i + 1, xs, h => by
    obtain ⟨x, xr, rfl, h1, h2⟩ := relL_cons_iff.1 h
    exact relL_cons_iff.2 ⟨x, xr, rfl, h1, RelL.toSealAt h2⟩
theorem Sim.seal1 (hS : Sim ρ lab H w) {k j : Nat} {cs : List V} (hk : hget k H = some (.row cs)) : Sim ρ lab (hset k (.row (sealAt j cs)) H) w := by
  refine Sim.mk' (fun i o hi => ?_) (fun i n' x h => ?_) (fun i x h => ?_) hS.ldom
  · rw [hget_hset] at hi
    split at hi
    · rename_i he
      subst he
      cases hi
      obtain ⟨b, o, xs, g1, g2, g3⟩ := hS.row i cs hk
      exact ⟨b, o, xs, g1, g2.toSealAt, g3⟩
    · exact hS.obj hi
  · obtain ⟨e, m, g1, g2⟩ := hS.hdom i n' x h
    refine ⟨e, m, ?_, g2⟩
    rw [hget_hset, if_neg]
    · exact g1
    · rintro rfl; rw [hk] at g1; cases g1
  · rw [hget_hset]
    split
    · simp
    · exact hS.adom i x h
theorem Sim.sealSt (fr : Fr) : ∀ (l : List (Nat × Nat)) {H : Hp}, Sim ρ lab H w → Sim ρ lab (sealSt fr l H) w
  | [], _, hS => hS
  | (s, j) :: r, H, hS => by
    simp only [Vm.sealSt]
    refine Sim.sealSt fr r ?_
    split
    · split
      · rename_i hk; exact hS.seal1 hk
      · exact hS
    · split
      · split
        · rename_i hk; exact hS.seal1 hk
        · exact hS
      · exact hS
theorem sealFr_look (l : List (Nat × Nat)) (t : Nat) (x : Value) : ∀ {fr : Fr}, Rel ρ lab w (look t fr) x → Rel ρ lab w (look t (sealFr l fr)) x
  | [], h => h
  | (s, v) :: r, h => by
    simp only [sealFr]
    by_cases hs : s = t
    · subst hs
      rw [look_head] at h ⊢
      cases hasP (100000 + s) 0 l with
      | true => exact h.sealAgg
      | false => exact h
    · rw [look_tail hs] at h ⊢
      exact sealFr_look l t x h
/-- the first names are names of the same -/
structure Roots (nr : Nat) (ρ ρ' : Rho) : Prop where
  at_ : ∀ k x, k < nr → ρ.at_ k = some x → ρ'.at_ k = some x
  hd : ∀ k n x, k < nr → ρ.hd k n = some x → ρ'.hd k n = some x
theorem Roots.of_le (h : ρ.le ρ') (nr : Nat) : Roots nr ρ ρ' := ⟨fun k x _ hx => h.at_ k x hx, fun k n x _ hx => h.hd k n x hx⟩
theorem Roots.trans {a b c : Rho} {n m : Nat} (h : Roots n a b) (g : Roots m b c) (hm : n ≤ m) : Roots n a c :=
  ⟨fun k x hk hx => g.at_ k x (by omega) (h.at_ k x hk hx), fun k l x hk hx => g.hd k l x (by omega) (h.hd k l x hk hx)⟩

theorem rootsB_ok : ∀ {k nr : Nat} {ns : List Nat}, rootsB k nr ns = true → ∀ i, i < nr → ns[i]? = some (k + i)
  | _, 0, _, _, i, hi => by omega
  | _, _ + 1, [], h, _, _ => by cases h
  | k, n + 1, a :: r, h, i, hi => by
    simp only [rootsB, Bool.and_eq_true] at h
    cases i with
    | zero => have := Nat.eq_of_beq_eq_true h.1; simp [this]
    | succ i =>
      have := rootsB_ok h.2 i (by omega)
      simp only [List.getElem?_cons_succ, this]
      congr 1; omega

theorem roots_sub {ns : List Nat} (h : rootsB 0 nr ns = true) : Roots nr ρ (ρ.sub ns) where
  at_ := fun k x hk hx => by have := rootsB_ok h k hk; simp only [Nat.zero_add] at this; simp only [Rho.sub, this]; exact hx
  hd := fun k n x hk hx => by have := rootsB_ok h k hk; simp only [Nat.zero_add] at this; simp only [Rho.sub, this]; exact hx

theorem rootsB_len : ∀ {k nr : Nat} {ns : List Nat}, rootsB k nr ns = true → nr ≤ ns.length
  | _, 0, _, _ => Nat.zero_le _
  | _, _ + 1, [], h => by cases h
  | k, n + 1, a :: r, h => by
    simp only [rootsB, Bool.and_eq_true] at h
    have := rootsB_len h.2
    simp only [List.length_cons]; omega

theorem Sim.pick (hS : Sim ρ lab H w) {ns : List Nat} (hn : ns.Nodup) {H2 : Hp} (hp : pickO H (idx · ns) ns 0 = some H2) {lab2 : Lab}
    (hl0 : ∀ b o, lab b o = none → lab2 b o = none) (hl1 : ∀ b o k i, lab b o = some (some k) → idx k ns = some i → lab2 b o = some (some i)) (hl2 : ∀ b o y, lab2 b o = some y → lab b o ≠ none) :
    Ren (idx · ns) ρ (ρ.sub ns) lab lab2 ∧ Sim (ρ.sub ns) lab2 H2 w := by
  obtain ⟨c1, c2, c3⟩ := pickO_ok hp
  have hR : Ren (idx · ns) ρ (ρ.sub ns) lab lab2 := ⟨(ren_sub (lab := lab) ns).at_, (ren_sub (lab := lab) ns).hd, hl0⟩
  have hsome : ∀ i k, ns[i]? = some k → ∃ o o', hget k H = some o ∧ renO (idx · ns) o = some o' ∧ hget i H2 = some o' := fun i k hk => by
    have := c3 i k hk
    simpa using this
  refine ⟨hR, Sim.mk' (fun j o hj => ?_) (fun j n' x h => ?_) (fun j x h => ?_) (fun b o j hl => ?_)⟩
  · have hlt := canon_lt c1 j o hj
    have hjn : j < ns.length := by omega
    obtain ⟨o1, o2, k1, k2, k3⟩ := hsome j ns[j] (by simp [hjn])
    rw [hj] at k3; cases k3
    have hidx := get_idx hn (show ns[j]? = some ns[j] from by simp [hjn])
    exact ObjOk.ren hR hidx (fun b p hl => hl1 b p _ _ hl hidx) (hS.obj k1) k2
  · simp only [Rho.sub, Option.bind_eq_some_iff] at h
    obtain ⟨k, hk, hx⟩ := h
    obtain ⟨e, m, g1, g2⟩ := hS.hdom k n' x hx
    obtain ⟨o1, o2, k1, k2, k3⟩ := hsome j k hk
    rw [g1] at k1; cases k1
    simp only [renO] at k2; cases k2
    exact ⟨e, m, k3, g2⟩
  · simp only [Rho.sub, Option.bind_eq_some_iff] at h
    obtain ⟨k, hk, hx⟩ := h
    obtain ⟨o1, o2, k1, k2, k3⟩ := hsome j k hk
    rw [k3]; simp
  · have := hl2 b o j hl
    cases hq : lab b o with
    | none => exact absurd hq this
    | some y => exact hS.ldom b o y hq

/-- objects that are not kept are written no more -/
def Lab.drop (lab : Lab) (ns : List Nat) : Lab := fun b o => match lab b o with
  | some (some k) => (match idx k ns with | some i => some (some i) | none => none)
  | x => x

theorem Sim.drop (hS : Sim ρ lab H w) {ns : List Nat} (hn : ns.Nodup) {H2 : Hp} (hp : pickO H (idx · ns) ns 0 = some H2) :
    Ren (idx · ns) ρ (ρ.sub ns) lab (lab.drop ns) ∧ Sim (ρ.sub ns) (lab.drop ns) H2 w ∧ Ext lab w (lab.drop ns) w := by
  have hl0 : ∀ b o, lab b o = none → lab.drop ns b o = none := fun b o h => by simp only [Lab.drop, h]
  obtain ⟨h1, h2⟩ := hS.pick hn hp (lab2 := lab.drop ns) hl0 (fun b o k i hl hi => by simp only [Lab.drop, hl, hi]) (fun b o y hy hq => by rw [hl0 b o hq] at hy; cases hy)
  refine ⟨h1, h2, ⟨Nat.le_refl _, rfl, rfl, rfl, fun b o _ h => hl0 b o h, fun b o => ?_, fun _ _ _ _ => ⟨rfl, rfl⟩, fun _ _ _ => rfl⟩⟩
  simp only [Lab.drop]
  split
  · rename_i k hk
    rw [hk]
    split <;> simp
  · exact .rfl

theorem Ext.subL (lab : Lab) (w : World) (ns : List Nat) : ∀ b o, lab.sub ns b o = none ↔ lab b o = none := by
  intro b o
  simp only [Lab.sub]
  split
  · rename_i k hk
    rw [hk]
    split <;> simp
  · exact .rfl

theorem renum_ok {fr' : Fr} {H' : Hp} {arr : Array Value} (hS : Sim ρ lab H w) (hF : FrRel ρ lab w fr arr) (h : renum nr fr H = some (fr', H')) :
    ∃ ρ' lab', Sim ρ' lab' H' w ∧ Ext lab w lab' w ∧ Roots nr ρ ρ' ∧ FrRel ρ' lab' w fr' arr := by
  unfold renum at h
  simp only [fN_eq, fF_eq, fH_eq] at h
  generalize hns : reach H 99 (List.range nr ++ fr.flatMap fun p => namesV dep p.2) [] = ns at h
  have hn : ns.Nodup := by rw [← hns]; exact reach_nodup _ _ _ _ List.nodup_nil
  split at h
  · rename_i fr2 H2 hm hp hr
    simp only [Option.some.injEq, Prod.mk.injEq] at h
    obtain ⟨rfl, rfl⟩ := h
    obtain ⟨hR, hS2, hE⟩ := hS.drop hn hp
    refine ⟨_, _, hS2, hE, roots_sub hr, fun t => ?_⟩
    rcases mapFr_look hm t with hu | hu
    · rw [hu]; exact .undef _
    · exact Rel.ren hR dep hu (hF t)
  · cases h
theorem normal_ok {f lp : Nat} {fr' : Fr} {H' : Hp} {arr : Array Value} (hS : Sim ρ lab H w) (hF : FrRel ρ lab w fr arr) (h : normal env f nr lp fr H = some (fr', H')) :
    ∃ ρ' lab', Sim ρ' lab' H' w ∧ Ext lab w lab' w ∧ Roots nr ρ ρ' ∧ FrRel ρ' lab' w fr' arr := by
  unfold normal at h
  simp only [fN_eq, fF_eq, fH_eq] at h
  generalize hfr1 : sealFr (env.slk f lp) ((env.keep f lp).map fun s => (s, look s fr)) = fr1 at h
  have hS := hS.sealSt fr1 (env.slk f lp)
  generalize sealSt fr1 (env.slk f lp) H = H at h hS
  generalize hns : reach H 99 (List.range nr ++ fr1.flatMap fun p => namesV dep p.2) [] = ns at h
  have hn : ns.Nodup := by rw [← hns]; exact reach_nodup _ _ _ _ List.nodup_nil
  split at h
  · rename_i fr2 H2 hm hp hr
    obtain ⟨hR, hS2, hE⟩ := hS.drop hn hp
    obtain ⟨c1, c2, _⟩ := pickO_ok hp
    obtain ⟨g1, g2⟩ := refNil_canon (env.byref f) fr2 ns.length
    rw [← c2] at h
    rw [← c2] at *
    have hmf := tagFr_mono (refNil (env.byref f) fr2 H2.length).1 (H2.length + (refNil (env.byref f) fr2 H2.length).2.length)
    have hmr := tagRows_mono H2 (tagFr (refNil (env.byref f) fr2 H2.length).1 (H2.length + (refNil (env.byref f) fr2 H2.length).2.length)).2
    obtain ⟨ρ', k1, k2, k3, k4, k5, k6⟩ := hS2.nils c1 g1 g2 hmf
    have hF2 : FrRel ρ' (lab.drop ns) w (tagFr (refNil (env.byref f) fr2 H2.length).1 (H2.length + (refNil (env.byref f) fr2 H2.length).2.length)).1 arr := fun t => by
     have h1 : Rel (ρ.sub ns) (lab.drop ns) w (look t fr2) (arr.getD t undef) := by
       rcases mapFr_look hm t with hu | hu
       · rw [hu]; exact .undef _
       · refine Rel.ren hR dep hu ?_
         rw [← hfr1]
         refine sealFr_look (env.slk f lp) t _ ?_
         rcases keep_look (env.keep f lp) fr t with hv | hv
         · rw [hv]; exact .undef _
         · rw [hv]; exact hF t
     have h2 := refNil_ok (env.byref f) k1 t _ fr2 H2.length k2 h1
     exact tagFr_ok (Rho.le.refl _) t _ _ _ (fun j g3 g4 => k3 j g3 (by omega)) h2
    obtain ⟨ρ2, m1, m2, m3, _⟩ := fullN_ok (b := env.full) k4 k5 hF2
    split at h
    · obtain ⟨ρ3, lab3, q1, q2, q3, q4⟩ := renum_ok m2 m3 h
      exact ⟨ρ3, lab3, q1, hE.trans q2, ((roots_sub hr).trans (Roots.of_le (k1.trans m1) nr) (Nat.le_refl _)).trans q3 (Nat.le_refl _), q4⟩
    · simp only [Option.some.injEq, Prod.mk.injEq] at h
      rw [h.2] at m2
      rw [h.1] at m3
      exact ⟨ρ2, _, m2, hE, (roots_sub hr).trans (Roots.of_le (k1.trans m1) nr) (Nat.le_refl _), m3⟩
  · cases h

theorem finish_ok {v v' : V} {x : Value} {H' : Hp} (hS : Sim ρ lab H w) (hv : Rel ρ lab w v x) (h : finish nr v H = some (v', H')) :
    ∃ ρ' lab', Sim ρ' lab' H' w ∧ Ext lab w lab' w ∧ Roots nr ρ ρ' ∧ Rel ρ' lab' w v' x ∧ Canon 0 H' ∧ nr ≤ H'.length := by
  unfold finish at h
  simp only [fN_eq, fA_eq, fH_eq] at h
  generalize hns : reach H 99 (List.range nr ++ namesV dep v) [] = ns at h
  have hn : ns.Nodup := by rw [← hns]; exact reach_nodup _ _ _ _ List.nodup_nil
  split at h
  · rename_i v2 H2 hm hp hr
    simp only [Option.some.injEq, Prod.mk.injEq] at h
    obtain ⟨rfl, rfl⟩ := h
    obtain ⟨hR, hS2, hE⟩ := hS.drop hn hp
    obtain ⟨c1, c2, _⟩ := pickO_ok hp
    exact ⟨_, _, hS2, hE, roots_sub hr, Rel.ren hR dep hm hv, c1, by rw [c2]; exact rootsB_len hr⟩
  · cases h

theorem mergeH_ok {m : Nat → Option Nat} : ∀ {L : Hp} {i0 : Nat} {H H4 : Hp}, Canon i0 L → (∀ i i' j o o', hget i L = some o → hget i' L = some o' → m i = some j → m i' = some j → i = i') → mergeH m L H = some H4 →
    (∀ i o, hget i L = some o → ∃ j o', m i = some j ∧ renO m o = some o' ∧ hget j H4 = some o') ∧ ∀ j, (∀ i o, hget i L = some o → m i ≠ some j) → hget j H4 = hget j H
  | [], i0, H, H4, _, _, h => by simp only [mergeH] at h; cases h; exact ⟨fun i o h => (by cases h), fun _ _ => rfl⟩
  | (s, o) :: r, i0, H, H4, hc, hinj, h => by
    obtain ⟨rfl, hc2⟩ := hc
    simp only [mergeH] at h
    split at h
    · rename_i j0 o0 hj0 ho0
      have hsr : ∀ i o, hget i r = some o → hget i ((s, o0) :: r) = some o ∧ s ≠ i := fun i o hi => by
        have := canon_lt hc2 i o hi
        have hb : Nat.beq s i = false := by
          cases hb : Nat.beq s i with
          | true => have := Nat.eq_of_beq_eq_true hb; omega
          | false => rfl
        exact ⟨by simp only [hget, hb]; exact hi, by omega⟩
      have hsr' : ∀ i o1, hget i r = some o1 → hget i ((s, o) :: r) = some o1 ∧ s ≠ i := fun i o1 hi => by
        have h1 := hsr i o1 hi
        simp only [hget] at h1 ⊢
        split
        · rename_i hb
          exact absurd (Nat.eq_of_beq_eq_true hb) h1.2
        · exact ⟨hi, h1.2⟩
      have hhead : hget s ((s, o) :: r) = some o := by simp [hget]
      obtain ⟨k1, k2⟩ := mergeH_ok hc2 (fun i i' j o1 o2 h1 h2 => hinj i i' j o1 o2 (hsr' i o1 h1).1 (hsr' i' o2 h2).1) h
      refine ⟨fun i o1 hi => ?_, fun j hj => ?_⟩
      · simp only [hget] at hi
        split at hi
        · rename_i hb
          cases hi
          have := Nat.eq_of_beq_eq_true hb
          subst this
          refine ⟨j0, o0, hj0, ho0, ?_⟩
          rw [k2 j0 (fun i' o' hi' hm => (hsr' i' o' hi').2 (hinj s i' j0 o o' hhead (hsr' i' o' hi').1 hj0 hm)), hget_hset, if_pos rfl]
        · exact k1 i o1 hi
      · rw [k2 j (fun i' o' hi' => hj i' o' (hsr' i' o' hi').1), hget_hset, if_neg]
        rintro rfl
        exact hj s o hhead hj0
    · cases h

theorem freshB_ok : ∀ {n k : Nat}, freshB H k n = true → ∀ i, i < n → hget (k + i) H = none
  | 0, _, _, i, hi => by omega
  | n + 1, k, h, i, hi => by
    simp only [freshB, Bool.and_eq_true] at h
    rcases Nat.lt_or_ge i n with h1 | h1
    · exact freshB_ok h.2 i h1
    · have : i = n := by omega
      subst this
      cases hq : hget (k + i) H with
      | none => rfl
      | some o => rw [hq] at h; simp at h

/-- where the caller's objects lie after a call -/
def Rho.back (ρ ρ3 : Rho) (H : Hp) (ns : List Nat) (k : Nat) : Rho :=
  ⟨fun j => match idx j ns with | some i => ρ3.at_ i | none => match hget j H with | some _ => ρ.at_ j | none => if k ≤ j then ρ3.at_ (ns.length + (j - k)) else none,
   fun j m => match idx j ns with | some i => ρ3.hd i m | none => match hget j H with | some _ => ρ.hd j m | none => if k ≤ j then ρ3.hd (ns.length + (j - k)) m else none⟩
def Lab.back (lab lab3 : Lab) (ns : List Nat) (k : Nat) : Lab := fun b o => match lab3 b o with
  | some (some i) => (match backName ns k i with | some j => some (some j) | none => none)
  | some none => lab b o
  | none => none

theorem idx_none {ns : List Nat} {j : Nat} (h : ∀ i : Nat, ns[i]? ≠ some j) : idx j ns = none := by
  cases hq : idx j ns with
  | none => rfl
  | some i => exact absurd (idx_get hq) (h i)

theorem merge_ok {ρn ρ3 : Rho} {lab3 : Lab} {w' : World} {H3 H4 : Hp} {ns : List Nat} {k nc : Nat} {v v4 : V} {x : Value} (hS : Sim ρ lab H w) (hn : ns.Nodup)
    (hpick : ∀ i j : Nat, ns[i]? = some j → hget j H ≠ none) (hnc : ns.length ≤ nc) (hle : (ρ.sub ns).le ρn) (S3 : Sim ρ3 lab3 H3 w') (E3 : Ext (lab.sub ns) w lab3 w') (R3 : Roots nc ρn ρ3) (c3 : Canon 0 H3)
    (hlen : nc ≤ H3.length) (hv : Rel ρ3 lab3 w' v x) (hv4 : renV (backName ns k) dep v = some v4) (hm : mergeH (backName ns k) H3 H = some H4) (hf : freshB H k (H3.length - ns.length) = true) :
    ∃ ρ4 lab4, Sim ρ4 lab4 H4 w' ∧ Ext lab w lab4 w' ∧ ρ.le ρ4 ∧ Rel ρ4 lab4 w' v4 x := by
  have hfr := freshB_ok hf
  have hlt : ∀ i o, hget i H3 = some o → i < H3.length := fun i o h => by have := canon_lt c3 i o h; omega
  have hbn : ∀ i j, i < H3.length → backName ns k i = some j → (ns[i]? = some j ∧ i < ns.length ∧ idx j ns = some i) ∨ (ns.length ≤ i ∧ j = k + (i - ns.length) ∧ hget j H = none ∧ idx j ns = none) := by
    intro i j hi hb
    unfold backName at hb
    split at hb
    · rename_i j' hj'
      cases hb
      refine .inl ⟨hj', ?_, get_idx hn hj'⟩
      rcases Nat.lt_or_ge i ns.length with h | h
      · exact h
      · rw [List.getElem?_eq_none h] at hj'; cases hj'
    · rename_i hj'
      cases hb
      have hge : ns.length ≤ i := by
        rcases Nat.lt_or_ge i ns.length with h | h
        · rw [List.getElem?_eq_getElem h] at hj'; cases hj'
        · exact h
      have hnone := hfr (i - ns.length) (by omega)
      exact .inr ⟨hge, rfl, hnone, idx_none fun i' hi' => hpick i' _ hi' hnone⟩
  have hinj : ∀ i i' j o o', hget i H3 = some o → hget i' H3 = some o' → backName ns k i = some j → backName ns k i' = some j → i = i' := by
    intro i i' j o o' h1 h2 b1 b2
    rcases hbn i j (hlt _ _ h1) b1 with ⟨p1, p2, p3⟩ | ⟨p1, p2, p3, p4⟩ <;> rcases hbn i' j (hlt _ _ h2) b2 with ⟨q1, q2, q3⟩ | ⟨q1, q2, q3, q4⟩
    · rw [p3] at q3; cases q3; rfl
    · rw [p3] at q4; cases q4
    · rw [p4] at q3; cases q3
    · omega
  obtain ⟨m1, m2⟩ := mergeH_ok c3 hinj hm
  have hat3 : ∀ i x, ρ3.at_ i = some x → i < H3.length := fun i x h => by
    have := S3.adom i x h
    cases hq : hget i H3 with
    | none => exact absurd hq this
    | some o => exact hlt i o hq
  have hhd3 : ∀ i m x, ρ3.hd i m = some x → i < H3.length := fun i m x h => by
    obtain ⟨e, m', h1, _⟩ := S3.hdom i m x h
    exact hlt i _ h1
  have hR : Ren (backName ns k) ρ3 (ρ.back ρ3 H ns k) lab3 (lab.back lab3 ns k) := by
    refine ⟨fun i j x hb hx => ?_, fun i j m x hb hx => ?_, fun b o hl => by simp only [Lab.back, hl]⟩
    · rcases hbn i j (hat3 i x hx) hb with ⟨p1, p2, p3⟩ | ⟨p1, p2, p3, p4⟩
      · simp only [Rho.back, p3]; exact hx
      · simp only [Rho.back, p4, p3]
        rw [if_pos (by omega), p2, show ns.length + (k + (i - ns.length) - k) = i from by omega]; exact hx
    · rcases hbn i j (hhd3 i m x hx) hb with ⟨p1, p2, p3⟩ | ⟨p1, p2, p3, p4⟩
      · simp only [Rho.back, p3]; exact hx
      · simp only [Rho.back, p4, p3]
        rw [if_pos (by omega), p2, show ns.length + (k + (i - ns.length) - k) = i from by omega]; exact hx
  have hle4 : ρ.le (ρ.back ρ3 H ns k) := by
    refine ⟨fun j x hx => ?_, fun j m x hx => ?_⟩
    · simp only [Rho.back]
      split
      · rename_i i hi
        have hg := idx_get hi
        have hil : i < ns.length := by
          rcases Nat.lt_or_ge i ns.length with h | h
          · exact h
          · rw [List.getElem?_eq_none h] at hg; cases hg
        refine R3.at_ i x (by omega) (hle.at_ i x ?_)
        simp only [Rho.sub, hg]; exact hx
      · split
        · exact hx
        · rename_i hq; exact absurd hq (hS.adom j x hx)
    · simp only [Rho.back]
      split
      · rename_i i hi
        have hg := idx_get hi
        have hil : i < ns.length := by
          rcases Nat.lt_or_ge i ns.length with h | h
          · exact h
          · rw [List.getElem?_eq_none h] at hg; cases hg
        refine R3.hd i m x (by omega) (hle.hd i m x ?_)
        simp only [Rho.sub, hg]; exact hx
      · split
        · exact hx
        · rename_i hq
          obtain ⟨e, m', h1, _⟩ := hS.hdom j m x hx
          rw [hq] at h1; cases h1
  have hsub0 := Ext.subL lab w ns
  have hsubc : ∀ b o, lab b o = some none → lab.sub ns b o = some none := fun b o h => by simp only [Lab.sub, h]
  have hown : ∀ b o i, lab.sub ns b o = some (some i) → ¬ ∀ k, lab b o ≠ some (some k) := fun b o i hi hl => by
    cases hq : lab b o with
    | none => simp only [Lab.sub, hq] at hi; cases hi
    | some y =>
      cases y with
      | none => simp only [Lab.sub, hq] at hi; cases hi
      | some j => exact hl j hq
  have hE4 : Ext lab w (lab.back lab3 ns k) w' := by
    refine ⟨E3.size, E3.os, E3.tape, E3.output, fun b o hb hl => ?_, fun b o => ⟨fun h => ?_, fun h => ?_⟩, fun b o hb hl => E3.cl b o hb (fun i hi => ?_), fun b hb hl => E3.blk b hb (fun o i hi => ?_)⟩
    · have := E3.lb b o hb ((hsub0 b o).2 hl)
      simp only [Lab.back, this]
    · simp only [Lab.back] at h
      split at h
      · split at h <;> cases h
      · exact h
      · cases h
    · have := (E3.ctx b o).2 (hsubc b o h)
      simp only [Lab.back, this, h]
    · exact hown b o i hi hl
    · exact hown b o i hi (hl o)
  -- an object of the caller's that was not handed over
  have hold : ∀ j, (∀ i o, hget i H3 = some o → backName ns k i ≠ some j) → hget j H ≠ none → idx j ns = none := by
    intro j hno hj
    refine idx_none fun i hi => ?_
    have hil : i < ns.length := by
      rcases Nat.lt_or_ge i ns.length with h | h
      · exact h
      · rw [List.getElem?_eq_none h] at hi; cases hi
    obtain ⟨o, ho⟩ := canon_some c3 (Nat.zero_le i) (by omega)
    refine hno i o ho ?_
    unfold backName; rw [hi]
  refine ⟨ρ.back ρ3 H ns k, lab.back lab3 ns k, Sim.mk' (fun j o hj => ?_) (fun j m y h => ?_) (fun j y h => ?_) (fun b o j hl => ?_), hE4, hle4, Rel.ren hR dep hv4 hv⟩
  · by_cases hit : ∃ i o3, hget i H3 = some o3 ∧ backName ns k i = some j
    · obtain ⟨i, o3, h1, h2⟩ := hit
      obtain ⟨j', o', g1, g2, g3⟩ := m1 i o3 h1
      rw [h2] at g1; cases g1
      rw [hj] at g3; cases g3
      exact ObjOk.ren hR h2 (fun b p hl => by simp only [Lab.back, hl, h2]) (S3.obj h1) g2
    · have hno : ∀ i o, hget i H3 = some o → backName ns k i ≠ some j := fun i o h1 h2 => hit ⟨i, o, h1, h2⟩
      have hj' := m2 j hno
      rw [hj] at hj'
      have hid := hold j hno (by rw [← hj']; simp)
      refine (hS.obj hj'.symm).carry hE4 hle4 (fun b p hq => ?_)
      obtain ⟨y, hy⟩ := hq.cell
      have hb := cellAt_lt hy
      have hsl : lab.sub ns b p = some none := by simp only [Lab.sub, hq.lab, hid]
      have h3 := (E3.ctx b p).2 hsl
      obtain ⟨f1, f2⟩ := E3.cl b p hb (fun i hi => by rw [hsl] at hi; cases hi)
      exact ⟨⟨by simp only [Lab.back, h3]; exact hq.lab, f2.trans hq.free, y, f1.trans hy⟩, f1⟩
  · simp only [Rho.back] at h
    have viaI : ∀ i, backName ns k i = some j → ρ3.hd i m = some y → ∃ e m', hget j H4 = some (.tip e m') ∧ m ≤ m' := by
      intro i hb hx
      obtain ⟨e, m', g1, g2⟩ := S3.hdom i m y hx
      obtain ⟨j', o', k1, k2, k3⟩ := m1 i _ g1
      rw [hb] at k1; cases k1
      simp only [renO] at k2; cases k2
      exact ⟨e, m', k3, g2⟩
    split at h
    · rename_i i hi
      exact viaI i (by unfold backName; rw [idx_get hi]) h
    · rename_i hi
      split at h
      · rename_i o ho
        obtain ⟨e, m', g1, g2⟩ := hS.hdom j m y h
        have hno : ∀ i o, hget i H3 = some o → backName ns k i ≠ some j := fun i o h1 h2 => by
          rcases hbn i j (hlt _ _ h1) h2 with ⟨p1, p2, p3⟩ | ⟨p1, p2, p3, p4⟩
          · rw [hi] at p3; cases p3
          · rw [ho] at p3; cases p3
        rw [m2 j hno]
        exact ⟨e, m', g1, g2⟩
      · split at h
        · rename_i hk
          refine viaI (ns.length + (j - k)) ?_ h
          unfold backName
          rw [List.getElem?_eq_none (by omega)]
          simp only [Option.some.injEq]; omega
        · cases h
  · simp only [Rho.back] at h
    have viaI : ∀ i, backName ns k i = some j → ρ3.at_ i = some y → hget j H4 ≠ none := by
      intro i hb hx
      have := S3.adom i y hx
      cases hq : hget i H3 with
      | none => exact absurd hq this
      | some o =>
        obtain ⟨j', o', k1, k2, k3⟩ := m1 i _ hq
        rw [hb] at k1; cases k1
        rw [k3]; simp
    split at h
    · rename_i i hi
      exact viaI i (by unfold backName; rw [idx_get hi]) h
    · rename_i hi
      split at h
      · rename_i o ho
        have hno : ∀ i o, hget i H3 = some o → backName ns k i ≠ some j := fun i o h1 h2 => by
          rcases hbn i j (hlt _ _ h1) h2 with ⟨p1, p2, p3⟩ | ⟨p1, p2, p3, p4⟩
          · rw [hi] at p3; cases p3
          · rw [ho] at p3; cases p3
        rw [m2 j hno, ho]; simp
      · split at h
        · rename_i hk
          refine viaI (ns.length + (j - k)) ?_ h
          unfold backName
          rw [List.getElem?_eq_none (by omega)]
          simp only [Option.some.injEq]; omega
        · cases h
  · simp only [Lab.back] at hl
    cases hq : lab3 b o with
    | none => rw [hq] at hl; cases hl
    | some y => exact S3.ldom b o y hq
end
end Go.Vm
/- Two heaps that look the same are so. -/
namespace Go.Vm
set_option linter.unusedSimpArgs false
set_option linter.unusedVariables false
set_option linter.unusedSectionVars false
theorem eqOwn_eq : ∀ {a b : Own}, eqOwn a b = true → a = b
  | .sealed, b, h => by cases b <;> first | rfl | cases h
  | .full, b, h => by cases b <;> first | rfl | cases h
  | .nil, b, h => by cases b <;> first | rfl | cases h
  | .tag g, b, h => by cases b <;> first | (rw [Nat.eq_of_beq_eq_true h]) | cases h
theorem eqOwn_refl (a : Own) : eqOwn a a = true := by cases a <;> simp [eqOwn]
mutual
theorem eqV_eq : ∀ (a b : V), eqV a b = true → a = b
  | .undef, b, h => by cases b <;> first | rfl | (simp [eqV] at h)
  | .bool x, b, h => by cases b <;> simp [eqV] at h ⊢ <;> exact h
  | .int k n, b, h => by cases b <;> simp [eqV] at h ⊢ <;> exact h
  | .str x, b, h => by cases b <;> simp [eqV] at h ⊢ <;> exact h
  | .nilptr, b, h => by cases b <;> first | rfl | (simp [eqV] at h)
  | .ptr r o, b, h => by cases b <;> simp [eqV] at h ⊢ <;> exact h
  | .cptr cs, b, h => by
    cases b <;> simp [eqV] at h ⊢
    exact eqL_eq cs _ h
  | .slice o n cs, b, h => by
    cases b <;> simp [eqV] at h ⊢
    exact ⟨eqOwn_eq h.1.1, h.1.2, eqL_eq cs _ h.2⟩
  | .rslice r o n w, b, h => by
    cases b <;> simp [eqV] at h ⊢
    exact ⟨h.1.1.1, h.1.1.2, h.1.2, h.2⟩
  | .func f a c, b, h => by
    cases b <;> simp [eqV] at h ⊢
    exact ⟨h.1.1, eqL_eq a _ h.1.2, eqL_eq c _ h.2⟩
  | .nilFunc, b, h => by cases b <;> first | rfl | (simp [eqV] at h)
  | .iface t v, b, h => by
    cases b <;> simp [eqV] at h ⊢
    exact ⟨h.1, eqV_eq v _ h.2⟩
  | .nilIface, b, h => by cases b <;> first | rfl | (simp [eqV] at h)
  | .agg cs, b, h => by
    cases b <;> simp [eqV] at h ⊢
    exact eqL_eq cs _ h
  | .tuple cs, b, h => by
    cases b <;> simp [eqV] at h ⊢
    exact eqL_eq cs _ h
theorem eqL_eq : ∀ (a b : List V), eqL a b = true → a = b
  | [], b, h => by cases b <;> first | rfl | (simp [eqL] at h)
  | x :: r, b, h => by
    cases b <;> simp [eqL] at h ⊢
    exact ⟨eqV_eq x _ h.1, eqL_eq r _ h.2⟩
end
mutual
theorem eqV_refl : ∀ a : V, eqV a a = true
  | .undef | .bool _ | .int _ _ | .str _ | .nilptr | .ptr _ _ | .rslice _ _ _ _ | .nilFunc | .nilIface => by simp [eqV]
  | .cptr cs | .agg cs | .tuple cs => by simp [eqV, eqL_refl cs]
  | .slice o n cs => by simp [eqV, eqOwn_refl, eqL_refl cs]
  | .func f a c => by simp [eqV, eqL_refl a, eqL_refl c]
  | .iface t v => by simp [eqV, eqV_refl v]
theorem eqL_refl : ∀ a : List V, eqL a a = true
  | [] => by simp [eqL]
  | x :: r => by simp [eqL, eqV_refl x, eqL_refl r]
end
theorem eqO_refl (a : Option Obj) : eqO a a = true := by
  cases a with
  | none => rfl
  | some x => cases x <;> simp [eqO, eqL_refl]
theorem eqO_eq {a b : Option Obj} (h : eqO a b = true) : a = b := by
  cases a with
  | none => cases b with
    | none => rfl
    | some y => cases y <;> simp [eqO] at h
  | some x => cases b with
    | none => cases x <;> simp [eqO] at h
    | some y =>
      cases x <;> cases y <;> simp [eqO] at h ⊢
      · exact eqL_eq _ _ h
      · exact ⟨h.1, eqL_eq _ _ h.2⟩
      · exact h
theorem hget_mem {k : Nat} {o : Obj} : ∀ {H : Hp}, hget k H = some o → ∃ p ∈ H, p.1 = k
  | (j, x) :: r, h => by
    simp only [hget] at h
    split at h
    · rename_i hb; exact ⟨(j, x), by simp, Nat.eq_of_beq_eq_true hb⟩
    · obtain ⟨p, h1, h2⟩ := hget_mem h
      exact ⟨p, by simp [h1], h2⟩
theorem sameH_get {A B : Hp} (h : sameH A B = true) (k : Nat) : hget k A = hget k B := by
  simp only [sameH, Bool.and_eq_true, List.all_eq_true] at h
  cases ha : hget k A with
  | some o =>
    obtain ⟨p, h1, rfl⟩ := hget_mem ha
    rw [← ha]
    exact eqO_eq (h.1 p h1)
  | none => cases hb : hget k B with
    | none => rfl
    | some o =>
      obtain ⟨p, h1, rfl⟩ := hget_mem hb
      have := eqO_eq (h.2 p h1)
      rw [ha, hb] at this; cases this
theorem sameH_of {A B : Hp} (h : ∀ k, hget k A = hget k B) : sameH A B = true := by
  simp only [sameH, Bool.and_eq_true, List.all_eq_true]
  exact ⟨fun p _ => by rw [h]; exact eqO_refl _, fun p _ => by rw [h]; exact eqO_refl _⟩
theorem sameH_refl (A : Hp) : sameH A A = true := sameH_of fun _ => rfl
end Go.Vm
/- Calls of Go functions; operations one after another. -/
namespace Go.Vm
set_option linter.unusedSimpArgs false
set_option linter.unusedVariables false
set_option linter.unusedSectionVars false
section
variable {P : Program} {T : List (Nat × Ty)} {ρ ρ' : Rho} {lab : Lab} {w : World} {H : Hp} {fr : Fr} {a : Act} {n nr : Nat} {env : Env} {orc : Orc}

theorem Rel.sealD {v : V} {x : Value} (h : Rel ρ lab w v x) : Rel ρ lab w (sealD v) x := by
  cases v with
  | tuple vs =>
    cases h with
    | tuple _ xs h1 h2 =>
      have := relMap (ρ := ρ) (lab := lab) (w := w) (f := sealA) (fun _ _ h => h.sealAgg) ⟨h1, h2⟩
      exact .tuple _ xs this.1 this.2
  | _ => exact h.sealAgg

theorem RelL.toSealedA {vs : List V} {xs : List Value} (h : RelL ρ lab w vs xs) : RelL ρ lab w (vs.map sealA) xs := relMap (fun _ _ h => h.sealAgg) h
theorem RelL.toMaskL {m : Nat → Bool} : ∀ {vs : List V} {i : Nat} {xs : List Value}, RelL ρ lab w vs xs → RelL ρ lab w (maskL m i vs) xs
  | [], _, _, h => h
  | v :: r, i, xs, h => by
    obtain ⟨x, xr, rfl, h1, h2⟩ := relL_cons_iff.1 h
    refine relL_cons_iff.2 ⟨x, xr, rfl, ?_, RelL.toMaskL h2⟩
    cases m i with
    | true => exact h1
    | false => exact h1.toSealed
theorem RelL.toMaskG {m : Nat → Bool} : ∀ {vs : List V} {i : Nat} {xs : List Value}, RelL ρ lab w vs xs → RelL ρ lab w (maskG m i vs) xs
  | [], _, _, h => h
  | v :: r, i, xs, h => by
    obtain ⟨x, xr, rfl, h1, h2⟩ := relL_cons_iff.1 h
    refine relL_cons_iff.2 ⟨x, xr, rfl, ?_, RelL.toMaskG h2⟩
    cases m i with
    | true => exact h1
    | false => exact h1.sealAgg
theorem Rel.maskA {m : Nat → Bool} {i : Nat} {v : V} {x : Value} (h : Rel ρ lab w v x) : Rel ρ lab w (maskA m i v) x := by
  cases v with
  | agg cs => cases h with | agg _ xs h1 h2 => have := RelL.toMaskL (ρ := ρ) (lab := lab) (w := w) (m := m) (i := i) ⟨h1, h2⟩; exact .agg _ xs this.1 this.2
  | _ =>
    unfold Vm.maskA
    cases m i with
    | true => exact h
    | false => exact h.toSealed
theorem RelL.toMaskT {m : Nat → Bool} : ∀ {vs : List V} {i : Nat} {xs : List Value}, RelL ρ lab w vs xs → RelL ρ lab w (maskT m i vs) xs
  | [], _, _, h => h
  | v :: r, i, xs, h => by
    obtain ⟨x, xr, rfl, h1, h2⟩ := relL_cons_iff.1 h
    exact relL_cons_iff.2 ⟨x, xr, rfl, h1.maskA, RelL.toMaskT h2⟩
theorem Rel.maskD {m : Nat → Bool} {v : V} {x : Value} (h : Rel ρ lab w v x) : Rel ρ lab w (maskD m v) x := by
  cases v with
  | tuple vs => cases h with | tuple _ xs h1 h2 => have := RelL.toMaskT (ρ := ρ) (lab := lab) (w := w) (m := m) (i := 0) ⟨h1, h2⟩; exact .tuple _ xs this.1 this.2
  | _ => exact h.maskA
theorem tagA_mono (v : V) (k : Nat) : k ≤ (tagA v k).2 := by
  unfold tagA
  split
  · exact tagNil_mono _ _
  · exact Nat.le_succ _
  · exact Nat.le_refl _
theorem tagAs_mono : ∀ (vs : List V) (k : Nat), k ≤ (tagAs vs k).2
  | [], k => Nat.le_refl _
  | v :: r, k => Nat.le_trans (tagA_mono v k) (tagAs_mono r _)
theorem tagD_mono (v : V) (k : Nat) : k ≤ (tagD v k).2 := by
  cases v with
  | tuple vs => exact tagAs_mono vs k
  | _ => exact tagA_mono _ k
theorem Rel.tagA (hρ : ρ.le ρ') {v : V} {k : Nat} {x : Value} (hk : ∀ j, k ≤ j → j < (tagA v k).2 → ρ'.hd j 0 = some (none, 0)) (h : Rel ρ lab w v x) : Rel ρ' lab w (tagA v k).1 x := by
  unfold Vm.tagA at hk ⊢
  split
  · rename_i cs
    cases h with
    | agg _ xs h1 h2 => have := tagNil_ok (ρ := ρ) (ρ' := ρ') (lab := lab) (w := w) hρ cs k xs hk ⟨h1, h2⟩; exact .agg _ xs this.1 this.2
  · exact h.tag (hk k (Nat.le_refl _) (Nat.lt_succ_self _))
  · exact h.up hρ
theorem tagAs_ok (hρ : ρ.le ρ') : ∀ (vs : List V) (k : Nat) (xs : List Value), (∀ j, k ≤ j → j < (tagAs vs k).2 → ρ'.hd j 0 = some (none, 0)) → RelL ρ lab w vs xs → RelL ρ' lab w (tagAs vs k).1 xs
  | [], k, xs, _, h => h.up hρ
  | v :: r, k, xs, hk, h => by
    obtain ⟨x, xr, rfl, h1, h2⟩ := relL_cons_iff.1 h
    simp only [tagAs] at hk ⊢
    have m1 := tagA_mono v k
    have m2 := tagAs_mono r (Vm.tagA v k).2
    exact relL_cons_iff.2 ⟨x, xr, rfl, h1.tagA hρ (fun j h3 h4 => hk j h3 (by omega)), tagAs_ok hρ r _ xr (fun j h3 h4 => hk j (by omega) h4) h2⟩
theorem Rel.tagD (hρ : ρ.le ρ') {v : V} {k : Nat} {x : Value} (hk : ∀ j, k ≤ j → j < (tagD v k).2 → ρ'.hd j 0 = some (none, 0)) (h : Rel ρ lab w v x) : Rel ρ' lab w (tagD v k).1 x := by
  cases v with
  | tuple vs => cases h with | tuple _ xs h1 h2 => have := tagAs_ok (ρ := ρ) (ρ' := ρ') (lab := lab) (w := w) hρ vs k xs hk ⟨h1, h2⟩; exact .tuple _ xs this.1 this.2
  | _ => exact Rel.tagA hρ hk h
theorem tagOut_ok {b : Bool} {v : V} {x : Value} (hc : Canon 0 H) (hS : Sim ρ lab H w) (hv : Rel ρ lab w v x) :
    ∃ ρ', ρ.le ρ' ∧ Sim ρ' lab (tagOut b v H).2 w ∧ Rel ρ' lab w (tagOut b v H).1 x ∧ Canon 0 (tagOut b v H).2 ∧ H.length ≤ (tagOut b v H).2.length := by
  cases b with
  | false => exact ⟨ρ, .refl _, hS, hv, hc, Nat.le_refl _⟩
  | true =>
    simp only [tagOut]
    have hm := tagD_mono v H.length
    obtain ⟨ρn, k1, _, k3, k4, k5, k6⟩ := hS.nils hc (G := []) (k2 := (tagD v H.length).2) trivial (fun j o h => by cases h) (by rw [List.length_nil]; exact hm)
    simp only [List.length_nil, Nat.add_zero, List.append_nil] at k3 k4 k5 k6
    have hmr := tagRows_mono H (tagD v H.length).2
    exact ⟨ρn, k1, k4, hv.tagD k1 (fun j h1 h2 => k3 j h1 (by omega)), k5, k6⟩

theorem Sim.freeze (hS : Sim ρ lab H w) {k e n cap : Nat} {wh : Bool} {cs : List V} {ao : Option Addr} (hk : hget k H = some (.grow e cs)) (hv : Rel ρ lab w (.rslice k 0 n wh) (.slice ao n cap)) :
    ∃ lab', Ext lab w lab' w ∧ Sim ρ lab' (hset k .gone H) w ∧ Rel ρ lab' w (.slice .sealed n (cs.take (n * e))) (.slice ao n cap) := by
  let lab' : Lab := fun b o => match lab b o with
    | some (some j) => if j = k then none else some (some j)
    | r => r
  have e0 : ∀ b o, lab b o = none → lab' b o = none := fun b o h => by simp only [lab', h]
  have e1 : ∀ b o, lab' b o = some none ↔ lab b o = some none := fun b o => by
    simp only [lab']
    split
    · rename_i j hj
      split <;> simp [hj]
    · exact .rfl
  have e2 : ∀ b o, lab b o = some (some k) → lab' b o = none := fun b o h => by simp only [lab', h, if_pos]
  have e3 : ∀ b o j, lab b o = some (some j) → j ≠ k → lab' b o = some (some j) := fun b o j h hj => by simp only [lab', h, if_neg hj]
  have e4 : ∀ b o j, lab' b o = some j → ∃ j, lab b o = some j := fun b o j h => by
    cases hl : lab b o with
    | none => rw [e0 _ _ hl] at h; cases h
    | some i => exact ⟨i, rfl⟩
  have hE : Ext lab w lab' w := ⟨Nat.le_refl _, rfl, rfl, rfl, fun b o _ h => e0 b o h, e1, fun _ _ _ _ => ⟨rfl, rfl⟩, fun _ _ _ => rfl⟩
  have hO : ∀ {j b o}, j ≠ k → OCell lab w j b o → OCell lab' w j b o := fun hj h => ⟨e3 _ _ _ h.lab hj, h.free, h.cell⟩
  have hg : ∀ {j o}, hget j (hset k .gone H) = some o → o ≠ .gone → j ≠ k ∧ hget j H = some o := fun {j o} h ho => by
    by_cases hj : j = k
    · subst hj; rw [hget_hset, if_pos rfl] at h; cases h; exact absurd rfl ho
    · rw [hget_hset, if_neg hj] at h; exact ⟨hj, h⟩
  refine ⟨lab', hE, ⟨?_, ?_, ?_, ?_, ?_, ?_⟩, ?_⟩
  · intro j c h
    obtain ⟨hj, h⟩ := hg h (by simp)
    obtain ⟨b, o, xs, h1, h2, h3⟩ := hS.row j c h
    exact ⟨b, o, xs, h1, h2.ext hE (.refl _), fun i x hx => ⟨hO hj (h3 i x hx).1, (h3 i x hx).2⟩⟩
  · intro j e c h
    obtain ⟨hj, h⟩ := hg h (by simp)
    obtain ⟨base, cc, xs, h1, h2, h3, h4, h5, h6, h7⟩ := hS.grow j e c h
    exact ⟨base, cc, xs, h1, h2.ext hE (.refl _), h3, h4, h5, h6, fun b o hb => ⟨fun i hi => hO hj ((h7 b o hb).1 i hi), (h7 b o hb).2⟩⟩
  · intro j e m h
    obtain ⟨hj, h⟩ := hg h (by simp)
    obtain ⟨a, c, h1, h2, h3, h4, h5⟩ := hS.tip j e m h
    exact ⟨a, c, h1, h2, h3, h4, fun q hq => ⟨(h5 q hq).1, fun i hi hi2 => hO hj ((h5 q hq).2 i hi hi2)⟩⟩
  · intro j m x h
    obtain ⟨e, m2, h1, h2⟩ := hS.hdom j m x h
    refine ⟨e, m2, ?_, h2⟩
    by_cases hj : j = k
    · subst hj; rw [hk] at h1; cases h1
    · rw [hget_hset, if_neg hj]; exact h1
  · intro j x h
    by_cases hj : j = k
    · subst hj; rw [hget_hset, if_pos rfl]; simp
    · rw [hget_hset, if_neg hj]; exact hS.adom j x h
  · intro b o j h
    obtain ⟨i, hi⟩ := e4 b o j h
    exact hS.ldom b o i hi
  · obtain ⟨base, c, xs, h1, h2, h3, h4, h5, h6, h7⟩ := hS.grow k e cs hk
    cases hv with
    | rslice _ _ _ _ base' g _ _ g1 g2 g3 g4 g5 =>
      rw [h1] at g1
      cases g1
      have hx : ∀ (i : Nat) (x : Value), (xs.take (n * e))[i]? = some x → xs[i]? = some x := fun i x h => by
        rw [List.getElem?_take] at h
        split at h
        · exact h
        · cases h
      have hc : ∀ (i : Nat) (v : V), (cs.take (n * e))[i]? = some v → cs[i]? = some v := fun i x h => by
        rw [List.getElem?_take] at h
        split at h
        · exact h
        · cases h
      cases hb : base with
      | none =>
        have hn0 : n = 0 := by
          rcases Nat.eq_zero_or_pos n with h | h
          · exact h
          · have := g3 (.inl h); rw [hb] at this; exact absurd this (g5 h)
        subst hn0
        refine .slice .sealed 0 _ [] 0 0 ao cap (by simp) g2 (fun h => absurd h (by omega)) (fun _ => by simp) (fun i x h => by simp at h) (fun i v x _ h => by simp at h) trivial (fun x h => by simp at h) (fun v h => by simp at h)
      | some p =>
        obtain ⟨b, o⟩ := p
        obtain ⟨h8, h9⟩ := h7 b o hb
        refine .slice .sealed n _ (xs.take (n * e)) b o ao cap (by rw [List.length_take, List.length_take, h2.1]) g2 (fun hn => ?_) (fun h => by subst h; simp) (fun i x h => ?_) (fun i v x hv h => ?_) trivial (fun x h => h5 x (List.mem_of_mem_take h)) (fun v h => h6 v (List.mem_of_mem_take h))
        · have := g3 (.inl hn)
          rw [hb] at this
          simpa using this
        · have hxs := hx i x h
          have hlt : i < xs.length := by
            rcases Nat.lt_or_ge i xs.length with h | h
            · exact h
            · rw [List.getElem?_eq_none h] at hxs; cases hxs
          exact ⟨e2 _ _ (h8 i (by rw [h2.1] at hlt; omega)).lab, h9 i x hxs⟩
        · exact (h2.2 i v x (hc i v hv) (hx i x h)).ext hE (.refl _)
theorem frz1_ok (hS : Sim ρ lab H w) {v : V} {x : Value} (hv : Rel ρ lab w v x) : ∃ lab', Ext lab w lab' w ∧ Sim ρ lab' (frz1 v H).2 w ∧ Rel ρ lab' w (frz1 v H).1 x := by
  unfold frz1
  split
  · split
    · rename_i hk
      cases hv with
      | rslice _ _ _ _ base' g ao cap g1 g2 g3 g4 g5 => exact hS.freeze hk (.rslice _ _ _ _ base' g ao cap g1 g2 g3 g4 g5)
    · exact ⟨lab, .refl _ _, hS, hv⟩
  · exact ⟨lab, .refl _ _, hS, hv⟩
theorem frzL_ok : ∀ (vs : List V) {lab : Lab} {H : Hp} {xs : List Value}, Sim ρ lab H w → RelL ρ lab w vs xs → ∃ lab', Ext lab w lab' w ∧ Sim ρ lab' (frzL vs H).2 w ∧ RelL ρ lab' w (frzL vs H).1 xs
  | [], lab, H, xs, hS, h => ⟨lab, .refl _ _, hS, h⟩
  | v :: r, lab, H, xs, hS, h => by
    obtain ⟨x, xr, rfl, h1, h2⟩ := relL_cons_iff.1 h
    obtain ⟨l1, k1, k2, k3⟩ := frz1_ok hS h1
    obtain ⟨l2, m1, m2, m3⟩ := frzL_ok r k2 (h2.ext k1 (.refl _))
    exact ⟨l2, k1.trans m1, m2, relL_cons_iff.2 ⟨x, xr, rfl, k3.ext m1 (.refl _), m3⟩⟩
theorem frzA_ok (hS : Sim ρ lab H w) {v : V} {x : Value} (hv : Rel ρ lab w v x) : ∃ lab', Ext lab w lab' w ∧ Sim ρ lab' (frzA v H).2 w ∧ Rel ρ lab' w (frzA v H).1 x := by
  unfold frzA
  split
  · cases hv with
    | agg _ xs h1 h2 =>
      obtain ⟨l, k1, k2, k3⟩ := frzL_ok _ hS ⟨h1, h2⟩
      exact ⟨l, k1, k2, .agg _ xs k3.1 k3.2⟩
  · exact frz1_ok hS hv
theorem frzT_ok : ∀ (vs : List V) {lab : Lab} {H : Hp} {xs : List Value}, Sim ρ lab H w → RelL ρ lab w vs xs → ∃ lab', Ext lab w lab' w ∧ Sim ρ lab' (frzT vs H).2 w ∧ RelL ρ lab' w (frzT vs H).1 xs
  | [], lab, H, xs, hS, h => ⟨lab, .refl _ _, hS, h⟩
  | v :: r, lab, H, xs, hS, h => by
    obtain ⟨x, xr, rfl, h1, h2⟩ := relL_cons_iff.1 h
    obtain ⟨l1, k1, k2, k3⟩ := frzA_ok hS h1
    obtain ⟨l2, m1, m2, m3⟩ := frzT_ok r k2 (h2.ext k1 (.refl _))
    exact ⟨l2, k1.trans m1, m2, relL_cons_iff.2 ⟨x, xr, rfl, k3.ext m1 (.refl _), m3⟩⟩
theorem frzD_ok {b : Bool} (hS : Sim ρ lab H w) {v : V} {x : Value} (hv : Rel ρ lab w v x) : ∃ lab', Ext lab w lab' w ∧ Sim ρ lab' (frzD b v H).2 w ∧ Rel ρ lab' w (frzD b v H).1 x := by
  cases b with
  | false => exact ⟨lab, .refl _ _, hS, hv⟩
  | true =>
    unfold frzD
    simp only
    split
    · cases hv with
      | tuple _ xs h1 h2 =>
        obtain ⟨l, k1, k2, k3⟩ := frzT_ok _ hS ⟨h1, h2⟩
        exact ⟨l, k1, k2, .tuple _ xs k3.1 k3.2⟩
    · exact frzA_ok hS hv

theorem mapO_some {α β : Type} {f g : α → Option β} (hfg : ∀ a b, f a = some b → g a = some b) : ∀ {l : List α} {r : List β}, mapO f l = some r → mapO g l = some r
  | [], r, h => h
  | a :: t, r, h => by
    simp only [mapO] at h ⊢
    cases h1 : f a with
    | none => rw [h1] at h; cases h
    | some b =>
      rw [h1] at h
      simp only at h
      rw [hfg a b h1]
      cases h2 : mapO f t with
      | none => rw [h2] at h; cases h
      | some u => rw [h2] at h; rw [mapO_some hfg h2]; exact h

theorem renV_some {m m' : Nat → Option Nat} (hm : ∀ k i, m k = some i → m' k = some i) : ∀ (d : Nat) {v v' : V}, renV m d v = some v' → renV m' d v = some v'
  | 0, v, v', h => by cases h
  | d + 1, v, v', h => by
    have ih : ∀ a b, renV m d a = some b → renV m' d a = some b := fun a b h => renV_some hm d h
    cases v with
    | ptr r o => simp only [renV] at h ⊢; (split at h; (· rename_i hr; rw [hm _ _ hr]; exact h); (· cases h))
    | rslice r o n w => simp only [renV] at h ⊢; (split at h; (· rename_i hr; rw [hm _ _ hr]; exact h); (· cases h))
    | slice o n cs =>
      cases o with
      | tag g => simp only [renV] at h ⊢; (split at h; (· rename_i hr; rw [hm _ _ hr]; exact h); (· cases h))
      | _ => exact h
    | func fn a b =>
      simp only [renV] at h ⊢
      split at h
      · rename_i h1 h2; rw [mapO_some ih h1, mapO_some ih h2]; exact h
      · cases h
    | iface t v =>
      simp only [renV] at h ⊢
      split at h
      · rename_i h1; rw [ih _ _ h1]; exact h
      · cases h
    | agg cs =>
      simp only [renV] at h ⊢
      split at h
      · rename_i h1; rw [mapO_some ih h1]; exact h
      · cases h
    | tuple cs =>
      simp only [renV] at h ⊢
      split at h
      · rename_i h1; rw [mapO_some ih h1]; exact h
      · cases h
    | _ => exact h

/-- what a call leaves, by its own names -/
def Done (ρ : Rho) (lab : Lab) (H : Hp) (w : World) (v : V) (H' : Hp) (x : Value) (w' : World) : Prop :=
  ∃ ρ' lab', Sim ρ' lab' H' w' ∧ Ext lab w lab' w' ∧ Roots H.length ρ ρ' ∧ Rel ρ' lab' w' v x ∧ Canon 0 H' ∧ H.length ≤ H'.length
def CallPost (ρ : Rho) (lab : Lab) (H : Hp) (w : World) : Out → Ending → World → Prop
  | .ret v H', .returned x, w' => Done ρ lab H w v H' x w'
  | .pan v H', .panicked ch, w' => ∃ x, ch = [{ v := x, recovered := false }] ∧ Done ρ lab H w v H' x w'
  | _, _, _ => False
structure CallOk (P : Program) (orc : Orc) : Prop where
  call : ∀ g args H out, orc (.call g args) H = some out → ∀ ρ lab w xs, Canon 0 H → Sim ρ lab H w → RelL ρ lab w args xs → Calls P g xs.toArray w (CallPost ρ lab H w out)
  known : ∀ g args H out, orc (.call g args) H = some out → ∃ fn c, P.funcs[g]? = some fn ∧ (fn.name == "runtime.NumGoroutine") = false ∧ fn.body = some c

/-- what a call leaves, in the caller's names -/
def Left (ρ : Rho) (lab : Lab) (w : World) (v : V) (H' : Hp) (x : Value) (w' : World) : Prop := ∃ ρ' lab', Sim ρ' lab' H' w' ∧ Ext lab w lab' w' ∧ ρ.le ρ' ∧ Rel ρ' lab' w' v x
def ViaPost (ρ : Rho) (lab : Lab) (w : World) : OpR → Ending → World → Prop
  | .val v H', .returned x, w' => Left ρ lab w v H' x w'
  | .pan v H', .panicked ch, w' => ∃ x, ch = [{ v := x, recovered := false }] ∧ Left ρ lab w v H' x w'
  | _, _, _ => False

theorem quietVia_ok (hO : CallOk P orc) (hS : Sim ρ lab H w) {g : Nat} {args : List V} {xs : List Value} {r : OpR} (hx : RelL ρ lab w args xs) (h : quietVia orc g args H = some r) :
    Calls P g xs.toArray w (ViaPost ρ lab w r) ∧ ∃ fn c, P.funcs[g]? = some fn ∧ (fn.name == "runtime.NumGoroutine") = false ∧ fn.body = some c := by
  unfold quietVia at h
  split at h
  · cases h
  · rename_i args2 hm
    split at h
    · rename_i v ho
      split at h
      · rename_i v4 hv4
        cases h
        have hp : pickO H (idx · []) [] 0 = some [] := rfl
        have hS2 := hS.sub List.nodup_nil hp
        have hi : (idx · []) = noName := rfl
        rw [← hi] at hm
        have hx2 : RelL (ρ.sub []) (lab.sub []) w args2 xs := hx.toSealedA.ren (ren_sub []) hm
        refine ⟨(hO.call _ _ _ _ ho (ρ.sub []) (lab.sub []) w xs trivial hS2 hx2).mono (fun e w' he => ?_), hO.known _ _ _ _ ho⟩
        cases e with
        | returned x =>
          obtain ⟨ρ3, lab3, S3, E3, R3, hv3, c4, hl⟩ := he
          have hR : Ren noName ρ3 ρ3 lab3 lab3 := ⟨fun _ _ _ h => (by cases h), fun _ _ _ _ h => (by cases h), fun _ _ h => h⟩
          have hv5 := Rel.ren hR dep hv4 hv3
          have hR2 : ∀ k i, noName k = some i → backName [] 0 k = some i := fun _ _ h => (by cases h)
          have hv6 : renV (backName [] 0) dep v = some v4 := renV_some hR2 dep hv4
          exact merge_ok (k := 0) hS List.nodup_nil (fun i j hj => by simp at hj) (Nat.zero_le 0) (.refl _) S3 E3 R3 c4 hl hv3 hv6 rfl rfl
        | panicked ch => exact he.elim
        | outgrown => exact he.elim
      · cases h
    · cases h

theorem freshC_B {H3 : Hp} {k m : Nat} (h : freshC H H3 k m = true) : freshB H k (H3.length - m) = true := by
  simp only [freshC, Bool.and_eq_true] at h; exact h.2
theorem callVia_ok (hO : CallOk P orc) (hS : Sim ρ lab H w) {k g : Nat} {args : List V} {xs : List Value} {r : OpR} (hx : RelL ρ lab w args xs) (h : callVia env orc k g args H = some r) :
    Calls P g xs.toArray w (ViaPost ρ lab w r) ∧ ∃ fn c, P.funcs[g]? = some fn ∧ (fn.name == "runtime.NumGoroutine") = false ∧ fn.body = some c := by
  unfold callVia at h
  split at h
  · exact quietVia_ok hO hS hx h
  simp only at h
  have hx1 : RelL ρ lab w (sealArgs (env.argTags g) (env.argT g) args) xs := by
    unfold sealArgs
    split
    · exact hx.toMaskG
    · exact hx.toSealedA
  generalize sealArgs (env.argTags g) (env.argT g) args = args1 at h hx1
  generalize hns : reach H 99 (args1.flatMap (namesV dep)) [] = ns at h
  have hn : ns.Nodup := by rw [← hns]; exact reach_nodup _ _ _ _ List.nodup_nil
  split at h
  · rename_i args2 H2 hm hp
    obtain ⟨c1, c2, c3⟩ := pickO_ok hp
    have hS2 := hS.sub hn hp
    have hx2 : RelL (ρ.sub ns) (lab.sub ns) w args2 xs := hx1.ren (ren_sub ns) hm
    have hk2 : ns.length ≤ (tagArgs (env.argTags g) args2 ns.length).2 := by
      unfold tagArgs
      split
      · exact tagNil_mono _ _
      · exact Nat.le_refl _
    have htg : ∀ ρn : Rho, (ρ.sub ns).le ρn → (∀ j, ns.length ≤ j → j < (tagArgs (env.argTags g) args2 ns.length).2 → ρn.hd j 0 = some (none, 0)) →
        RelL ρn (lab.sub ns) w (tagArgs (env.argTags g) args2 ns.length).1 xs := by
      intro ρn hle hh
      unfold tagArgs at hh ⊢
      split at hh
      · exact tagNil_ok hle _ _ _ hh hx2
      · exact hx2.up hle
    generalize tagArgs (env.argTags g) args2 ns.length = aa at h hk2 htg
    have hmr := tagRows_mono H2 aa.2
    obtain ⟨ρn, k1, _, k3, k4, k5, k6⟩ := hS2.nils c1 (G := []) (k2 := aa.2) trivial (fun j o h => by cases h) (by rw [List.length_nil, c2]; exact hk2)
    simp only [List.length_nil, Nat.add_zero, List.append_nil, c2] at k3 k4 k5 k6
    generalize hHc : (tagRows H2 aa.2).1 ++ tips ns.length ((tagRows H2 aa.2).2 - ns.length) = Hc at h k4 k5 k6
    have hx3 := htg ρn k1 (fun j h1 h2 => k3 j h1 (by omega))
    obtain ⟨ρf, f1, f2, f3, f4, f5⟩ := fullC_ok (b := env.full) k4 k5 hx3
    have k4 := f2; have k5 := f3; have k1 := k1.trans f1; have hx3 := f4; have k6 := Nat.le_trans k6 f5
    generalize fullC env.full aa.1 Hc = cc at h k4 k5 hx3 k6
    have hpick : ∀ i j : Nat, ns[i]? = some j → hget j H ≠ none := fun i j hj => by
      obtain ⟨o, o', g1, _⟩ := c3 i j hj
      rw [g1]; simp
    split at h
    · rename_i v H3 ho
      split at h
      · rename_i v4 H4 hv4 hm4
        split at h
        · rename_i hf
          cases h
          refine ⟨(hO.call _ _ _ _ ho ρf (lab.sub ns) w xs k5 k4 hx3).mono (fun e w' he => ?_), hO.known _ _ _ _ ho⟩
          cases e with
          | returned x =>
            obtain ⟨ρ3, lab3, S3, E3, R3, hv3, c4, hl⟩ := he
            exact merge_ok hS hn hpick k6 k1 S3 E3 R3 c4 hl hv3 hv4 hm4 (freshC_B hf)
          | panicked ch => exact he.elim
          | outgrown => exact he.elim
        · cases h
      · cases h
    · rename_i v H3 ho
      split at h
      · rename_i v4 H4 hv4 hm4
        split at h
        · rename_i hf
          cases h
          refine ⟨(hO.call _ _ _ _ ho ρf (lab.sub ns) w xs k5 k4 hx3).mono (fun e w' he => ?_), hO.known _ _ _ _ ho⟩
          cases e with
          | returned x => exact he.elim
          | panicked ch =>
            obtain ⟨x, hch, ρ3, lab3, S3, E3, R3, hv3, c4, hl⟩ := he
            exact ⟨x, hch, merge_ok hS hn hpick k6 k1 S3 E3 R3 c4 hl hv3 hv4 hm4 (freshC_B hf)⟩
          | outgrown => exact he.elim
        · cases h
      · cases h
    · cases h
  · cases h

theorem Sim.same {A B : Hp} (hS : Sim ρ lab A w) (h : ∀ k, hget k A = hget k B) : Sim ρ lab B w where
  row := fun k cs hk => hS.row k cs (by rw [h]; exact hk)
  grow := fun k e cs hk => hS.grow k e cs (by rw [h]; exact hk)
  tip := fun k e n hk => hS.tip k e n (by rw [h]; exact hk)
  hdom := fun k n x hx => by
    obtain ⟨e, m, h1, h2⟩ := hS.hdom k n x hx
    exact ⟨e, m, by rw [← h]; exact h1, h2⟩
  adom := fun k x hx => by rw [← h]; exact hS.adom k x hx
  ldom := hS.ldom
theorem lookR_some {r r' : OpR} (h : lookR H r = some r') : ∃ v H4, r = .val v H4 ∧ r' = .val v H ∧ ∀ k, hget k H4 = hget k H := by
  unfold lookR at h
  split at h
  · rename_i v H4
    split at h
    · rename_i hs
      cases h
      exact ⟨v, H4, rfl, rfl, sameH_get hs⟩
    · cases h
  · cases h
/-- what a call is: quiet, plain, or one that only looks -/
theorem callW_some {k g : Nat} {args : List V} {r : OpR} (h : callW env orc k g args H = some r) :
    (callVia env orc k g args H = some r ∧ (env.quiet g = true ∨ env.look g = false)) ∨ (env.quiet g = false ∧ env.look g = true ∧ ∃ v H4, callVia env orc k g args H = some (.val v H4) ∧ r = .val v H ∧ ∀ k, hget k H4 = hget k H) := by
  unfold callW at h
  split at h
  · rename_i hq
    left
    refine ⟨?_, .inl hq⟩
    unfold callVia
    rw [hq]; exact h
  · rename_i hq
    split at h
    · rename_i hl; exact .inl ⟨h, .inr hl⟩
    · rename_i hl
      split at h
      · rename_i r0 hr
        obtain ⟨v, H4, rfl, h2, h3⟩ := lookR_some h
        exact .inr ⟨hq, hl, v, H4, hr, h2, h3⟩
      · cases h
theorem callW_ok (hO : CallOk P orc) (hS : Sim ρ lab H w) {k g : Nat} {args : List V} {xs : List Value} {r : OpR} (hx : RelL ρ lab w args xs) (h : callW env orc k g args H = some r) :
    Calls P g xs.toArray w (ViaPost ρ lab w r) ∧ ∃ fn c, P.funcs[g]? = some fn ∧ (fn.name == "runtime.NumGoroutine") = false ∧ fn.body = some c := by
  rcases callW_some h with ⟨h1, _⟩ | ⟨_, _, v, H4, h1, rfl, h3⟩
  · exact callVia_ok hO hS hx h1
  · obtain ⟨k1, k2⟩ := callVia_ok hO hS hx h1
    refine ⟨k1.mono fun e w' he => ?_, k2⟩
    cases e with
    | returned x =>
      obtain ⟨ρ', lab', s1, s2, s3, s4⟩ := he
      exact ⟨ρ', lab', s1.same h3, s2, s3, s4⟩
    | panicked ch => exact he.elim
    | outgrown => exact he.elim

theorem run_enter {f : FuncId} {fn : Func} {c : Code} (hf : P.funcs[f]? = some fn) (hname : (fn.name == "runtime.NumGoroutine") = false) (hb : fn.body = some c) (args : Array Value) (w : World) :
    (callFunc f args).run P w = .ok (.enter f args) w := by
  have h1 : fn.name ≠ "runtime.NumGoroutine" := by simpa using hname
  simp [callFunc, hf, h1, hb]

/-- what a piece of code leaves -/
def Post (nr n : Nat) (ρ : Rho) (lab : Lab) (w : World) (r : Res) (e : Exit) (a : Act) (w' : World) : Prop :=
  ∃ ρ' lab', Sim ρ' lab' r.2.2 w' ∧ Ext lab w lab' w' ∧ Roots nr ρ ρ' ∧ a.defers = [] ∧
    match r.1, e with
    | .normal, .normal => FOk ρ' lab' w' r.2.1 a n
    | .ret, .ret => FOk ρ' lab' w' r.2.1 a n
    | .exit i, .exit j => i = j ∧ FOk ρ' lab' w' r.2.1 a n
    | .panic v, .panic ch => ∃ x, ch = [{ v := x, recovered := false }] ∧ Rel ρ' lab' w' v x
    | _, _ => False

theorem Post.trans {lab' : Lab} {w' w'' : World} {r : Res} {e : Exit} (E : Ext lab w lab' w') (R : Roots nr ρ ρ') (h : Post nr n ρ' lab' w' r e a w'') : Post nr n ρ lab w r e a w'' := by
  obtain ⟨ρ2, lab2, h1, h2, h3, h4⟩ := h
  exact ⟨ρ2, lab2, h1, E.trans h2, R.trans h3 (Nat.le_refl _), h4⟩

/-- a method of a type, that is its own -/
def methB (P : Program) (t : Nat) (name : String) (g : Nat) : Bool := match P.info? t, P.underlying t with
  | some i, some d => match i.methods.find? (·.name == name) with
    | none => false
    | some m => m.path.isEmpty && (match m.func, d with
      | some (f, true), .pointer _ => Nat.beq f g
      | some (_, false), .pointer _ => false
      | some (f, false), _ => Nat.beq f g
      | _, _ => false)
  | _, _ => false
theorem method_run {P : Program} {t g : Nat} {name : String} (h : methB P t name g = true) (n : Nat) (v : Value) (w : World) : (method (n + 1) t v name).run P w = .ok (g, v) w := by
  unfold methB at h
  split at h
  · rename_i i d hi hd
    split at h
    · cases h
    · rename_i m hm
      simp only [Bool.and_eq_true] at h
      obtain ⟨h1, h2⟩ := h
      have hp : m.path.toList = [] := by
        have : m.path = #[] := by simpa using h1
        simp [this]
      have ht := info_run hi w
      have hu := und_run hd w
      split at h2
      · rename_i f _ hf
        have := Nat.eq_of_beq_eq_true h2
        subst this
        unfold method
        simp only [Sem.run_bind, ht, Result.andThen_ok, hm, hp, follow, Sem.run_pure, hf, receiverAt, hu, Place.get]
      · cases h2
      · rename_i f hf hnp
        have := Nat.eq_of_beq_eq_true h2
        subst this
        unfold method
        simp only [Sem.run_bind, ht, Result.andThen_ok, hm, hp, follow, Sem.run_pure, hf, receiverAt, hu]
        first
          | rfl
          | (rename_i d1 _ _ _; cases d1 <;> first | exact absurd rfl (hnp _) | rfl)
          | (rename_i d1 _ _; cases d1 <;> first | exact absurd rfl (hnp _) | rfl)
          | (rename_i d1 _; cases d1 <;> first | exact absurd rfl (hnp _) | rfl)
          | (rename_i d1 _ _ _ _; cases d1 <;> first | exact absurd rfl (hnp _) | rfl)
      · cases h2
  · cases h
def MethOk (env : Env) : Prop := ∀ t name g, env.meth t name = some g → methB env.P t name g = true
theorem call_run (hM : MethOk env) (hO : CallOk env.P orc) (hS : Sim ρ lab H w) (hF : FrRel ρ lab w fr a.tmps) {o : Oper} {r : OpR} (hc : isCallV o.op = true) (h : opEff env orc fr H o = some r) :
    ∃ g args, (execOp a.eval o).run env.P w = .ok (.enter g args) w ∧ Calls env.P g args w (ViaPost ρ lab w r) := by
  obtain ⟨dst, op, type, pos, after, guard⟩ := o
  unfold opEff at h
  simp only at h hc
  split at h <;> try (cases hc; done)
  · rename_i f args at_
    split at h
    · rename_i g first captured l hf hl
      have hb := ev_ok hF hf
      generalize hcv : a.eval f = cv at hb
      cases hb with
      | func _ _ _ xs ys h1 h2 h3 h4 =>
      have hl' := evL_ok hF hl
      have hr : RelL ρ lab w (first ++ l ++ captured) (xs ++ args.toList.map a.eval ++ ys) := RelL.append (RelL.append ⟨h1, h3⟩ hl') ⟨h2, h4⟩
      obtain ⟨k1, fn, c, k2, k3, k4⟩ := callW_ok hO hS hr h
      refine ⟨g, _, ?_, k1⟩
      simp only [execOp, resolve, hcv, Deferred.ofValue, Sem.run_bind, Sem.run_pure, Result.andThen_ok, invoke]
      rw [run_enter k2 k3 k4]
      congr 2
      simp
    · cases h
  · rename_i rc m args at_
    split at h
    · rename_i t v l hr hl
      split at h
      · rename_i g hg
        have hb := ev_ok hF hr
        generalize hcv : a.eval rc = cv at hb
        cases hb with
        | iface _ _ x hx =>
        have hl' := evL_ok hF hl
        have hrl : RelL ρ lab w (v :: l) (x :: args.toList.map a.eval) := relL_cons_iff.2 ⟨_, _, rfl, hx, hl'⟩
        obtain ⟨k1, fn, c, k2, k3, k4⟩ := callVia_ok hO hS hrl h
        refine ⟨g, _, ?_, k1⟩
        have hm := fun w => method_run (hM t m g hg) (env.P.types.size + (Made.depth - 1)) x w
        have hd : env.P.types.size + (Made.depth - 1) + 1 = env.P.types.size + Made.depth := by simp [Made.depth]
        rw [hd] at hm
        simp only [execOp, resolve, hcv, Sem.run_bind, Sem.run_pure, Result.andThen_ok, invoke]
        simp only [Array.getElem?_append, Array.size_singleton, Nat.zero_lt_one, if_true, List.getElem?_toArray, List.getElem?_cons_zero, callMethod, Sem.run_bind, run_program, Result.andThen_ok, hm]
        rw [show (#[x] ++ (#[Value.iface t x] ++ Array.map a.eval args).extract 1 (#[Value.iface t x] ++ Array.map a.eval args).size) = (x :: args.toList.map a.eval).toArray from ?_]
        · exact run_enter k2 k3 k4 _ _
        · apply Array.ext'; simp [Array.toList_extract]; exact List.take_of_length_le (by simp)
      · cases h
    · cases h
  · cases h

theorem Oper.wp_ok {o : Oper} {next : Act → World → Prop} {Q : Exit → Act → World → Prop} {x : Next} {w' : World} (h : (execOp a.eval o).run P w = .ok x w') (hq : o.upon P a next Q (.ok x w')) : o.wp P a w next Q := by
  unfold Oper.wp; rw [h]; exact hq

/-- operations one after another -/
theorem ops_ok (hM : MethOk env) (hT : TOk env.P env.T) (hO : CallOk env.P orc) {ops : Array Oper} {Q : Exit → Act → World → Prop} (hdst : ∀ (i : Nat) (o : Oper) (d : Nat), ops[i]? = some o → o.dst = some d → d < n) :
    ∀ (l : List Nat) (ρ : Rho) (lab : Lab) (w : World) (H : Hp) (fr : Fr) (a : Act) (r : Res), evalOps env orc ops (l.filterMap (ops[·]?)) fr H = some r → Sim ρ lab H w → FOk ρ lab w fr a n →
      (∀ e a' w', Post nr n ρ lab w r e a' w' → Q e a' w') → wpOps env.P ops Q l a w
  | [], ρ, lab, w, H, fr, a, r, h, hS, hF, hQ => by
    simp only [List.filterMap_nil, evalOps] at h; cases h
    exact hQ _ _ _ ⟨ρ, lab, hS, .refl _ _, Roots.of_le (.refl _) _, hF.defers, hF⟩
  | i :: l, ρ, lab, w, H, fr, a, r, h, hS, hF, hQ => by
    unfold wpOps
    cases ho : ops[i]? with
    | none =>
      simp only [List.filterMap_cons, ho] at h
      exact ops_ok hM hT hO hdst l ρ lab w H fr a r h hS hF hQ
    | some o =>
      simp only [List.filterMap_cons, ho, evalOps] at h
      have hd := fun d => hdst i o d ho
      simp only
      cases hw : wantedV ops o fr with
      | none => rw [hw] at h; cases h
      | some b =>
        have hw2 := wanted_ok hF hw
        rw [hw] at h
        rw [hw2]
        cases b with
        | false =>
          simp only [Bool.false_eq_true, if_false] at h ⊢
          exact ops_ok hM hT hO hdst l ρ lab w H _ _ r h hS (hF.put hd (.tuple [] [] rfl (by simp))) hQ
        | true =>
          simp only [if_true] at h ⊢
          refine .inl ?_
          unfold opStep at h
          cases hp : isPure o.op with
          | true =>
            rw [hp] at h
            simp only at h
            cases hv : vPure env.T fr o.op with
            | none => rw [hv] at h; cases h
            | some v =>
              rw [hv] at h
              simp only at h
              obtain ⟨x, w1, h1, h2, h3⟩ := pure_ok hT hS.ldom hF.rel hv
              refine Oper.wp_ok h1 ?_
              have E := h2.ext lab
              refine ops_ok hM hT hO hdst l ρ lab w1 H _ _ r h (hS.grew h2) ((hF.ext E (.refl _)).put hd h3) (fun e a' w' hq => hQ e a' w' (hq.trans E (Roots.of_le (.refl _) _)))
          | false =>
            rw [hp] at h
            simp only at h
            cases hv : opEff env orc fr H o with
            | none => rw [hv] at h; cases h
            | some res =>
              rw [hv] at h
              cases hcv : isCallV o.op with
              | false =>
                cases res with
                | val v H1 =>
                  simp only at h
                  obtain ⟨nx, x, w1, ρ1, lab1, h1, h2, h3, h4, h5, h6⟩ := eff_run hT hS hF.rel hcv hv
                  have key : wpOps env.P ops Q l (a.put o.dst x) w1 :=
                    ops_ok hM hT hO hdst l ρ1 lab1 w1 H1 _ _ r h h3 ((hF.ext h4 h5).put hd h6) (fun e a' w' hq => hQ e a' w' (hq.trans h4 (Roots.of_le h5 _)))
                  refine Oper.wp_ok h1 ?_
                  rcases h2 with rfl | ⟨rfl, rfl⟩
                  · exact key
                  · exact key
                | pan v H1 =>
                  simp only at h
                  cases h
                  obtain ⟨x, h1, rfl, h2⟩ := panic_run hF.rel hcv hv
                  unfold Oper.wp; rw [h1]
                  exact hQ _ _ _ ⟨ρ, lab, hS, .refl _ _, Roots.of_le (.refl _) _, hF.defers, x, rfl, h2⟩
              | true =>
                obtain ⟨g, args, h1, h2⟩ := call_run hM hO hS hF.rel hcv hv
                refine Oper.wp_ok h1 ?_
                rw [Oper.upon_enter]
                refine h2.mono (fun e w1 he => ?_)
                cases res with
                | val v H1 =>
                  cases e with
                  | returned x =>
                    obtain ⟨ρ1, lab1, h3, h4, h5, h6⟩ := he
                    exact ops_ok hM hT hO hdst l ρ1 lab1 w1 H1 _ _ r h h3 ((hF.ext h4 h5).put hd h6) (fun e a' w' hq => hQ e a' w' (hq.trans h4 (Roots.of_le h5 _)))
                  | panicked ch => exact he.elim
                  | outgrown => exact he.elim
                | pan v H1 =>
                  simp only at h
                  cases h
                  cases e with
                  | returned x => exact he.elim
                  | panicked ch =>
                    obtain ⟨x, rfl, ρ1, lab1, h3, h4, h5, h6⟩ := he
                    exact hQ _ _ _ ⟨ρ1, lab1, h3, h4, Roots.of_le h5 _, hF.defers, x, rfl, h6⟩
                  | outgrown => exact he.elim
end
end Go.Vm
/- Regions whose order is drawn: every order comes to the same. -/
namespace Go.Vm
set_option linter.unusedSimpArgs false
set_option linter.unusedVariables false
set_option linter.unusedSectionVars false
section
variable {env : Env} {orc : Orc} {fr fr' : Fr} {H : Hp} {T : List (Nat × Ty)} {ops : Array Oper}

def isCalm (env : Env) : Op → Bool
  | .load .. => true
  | .call { callee := .value (.func g), .. } => env.quiet g || env.look g
  | _ => false
def isLd (o : Oper) : Bool := match ldTmp o with
  | some _ => true
  | none => false
def commB (env : Env) (ops : Array Oper) (b : Bool) (x y : Oper) : Bool := x.apart ops y && ((isPure x.op || isPure y.op || (isCalm env x.op && isCalm env y.op)) || (b && (isLd x || isLd y || (isAl x && isAl y))))
def reachB (ops : Array Oper) : Nat → Nat → Nat → Bool
  | 0, _, _ => false
  | d + 1, i, j => match ops[i]? with
    | none => false
    | some o => o.after.toList.any fun e => Region.binds .any e && (Nat.beq e.on j || reachB ops d e.on j)
def edgesB (ops : Array Oper) : Bool := (List.range ops.size).all fun i => match ops[i]? with
  | none => true
  | some o => o.after.toList.all fun e => !Region.binds .any e || Nat.blt e.on i
def pairsB (env : Env) (ops : Array Oper) (b : Bool) : Bool := (List.range ops.size).all fun i => (List.range i).all fun j => match ops[j]?, ops[i]? with
  | some x, some y => commB env ops b x y || reachB ops 8 i j
  | _, _ => true
/-- no operation writes the address of a load that lies before it, or its own -/
def safeB : List Oper → Bool
  | [] => true
  | o :: r => (match ldTmp o with
    | some t => (o :: r).all fun z => match z.dst with | some d => !Nat.beq d t | none => true
    | none => true) && safeB r
def drawB (env : Env) (ops : Array Oper) (b : Bool) : Bool := edgesB ops && pairsB env ops b && (!b || safeB ops.toList)

def FrEq (a b : Fr) : Prop := ∀ t, look t a = look t b
theorem FrEq.refl (a : Fr) : FrEq a a := fun _ => rfl
theorem FrEq.trans {a b c : Fr} (h : FrEq a b) (g : FrEq b c) : FrEq a c := fun t => (h t).trans (g t)

theorem look_put (d : Option Nat) (v : V) (fr : Fr) (t : Nat) : look t (putO d v fr) = if d = some t then v else look t fr := by
  cases d with
  | none => simp [putO]
  | some d => simp only [putO, look_cons, Option.some.injEq]

theorem mapO_congr {α β : Type} {f g : α → Option β} : ∀ {l : List α}, (∀ a ∈ l, f a = g a) → mapO f l = mapO g l
  | [], _ => rfl
  | a :: t, h => by simp only [mapO]; rw [h a (List.mem_cons_self ..), mapO_congr (fun b hb => h b (List.mem_cons_of_mem _ hb))]

theorem evP_congr {l : List (Nat × Operand)} (h : ∀ x ∈ l.map (·.2), ev fr x = ev fr' x) : evP fr l = evP fr' l := by
  unfold evP
  exact mapO_congr fun p hp => by rw [h p.2 (List.mem_map_of_mem hp)]

theorem evX_congr {o : Option Operand} (h : ∀ x ∈ o.toList, ev fr x = ev fr' x) : evX fr o = evX fr' o := by
  cases o with
  | none => rfl
  | some x => simp only [evX]; rw [h x (by simp)]

theorem vPure_congr {op : Op} (h : ∀ x ∈ op.operands.toList, ev fr x = ev fr' x) : vPure T fr op = vPure T fr' op := by
  cases op with
  | build t ps => simp only [vPure]; rw [evP_congr (fr := fr) (fr' := fr') fun x hx => h x (by simpa [Op.operands] using hx)]
  | buildSlice t n ps => simp only [vPure]; rw [evP_congr (fr := fr) (fr' := fr') fun x hx => h x (by simpa [Op.operands] using hx)]
  | makeFunc fn a b =>
    simp only [vPure, evL]
    rw [mapO_congr (f := ev fr) (g := ev fr') fun x hx => h x (by simp only [Op.operands, Array.toList_append, List.mem_append]; exact .inl hx),
      mapO_congr (f := ev fr) (g := ev fr') fun x hx => h x (by simp only [Op.operands, Array.toList_append, List.mem_append]; exact .inr hx)]
  | slice t x lo hi mx =>
    simp only [vPure]
    rw [h x (by simp [Op.operands]), evX_congr (o := lo) (fr := fr) (fr' := fr') fun y hy => h y (by simp [Op.operands]; simp at hy; simp [hy]),
      evX_congr (o := hi) (fr := fr) (fr' := fr') fun y hy => h y (by simp [Op.operands]; simp at hy; simp [hy]),
      evX_congr (o := mx) (fr := fr) (fr' := fr') fun y hy => h y (by simp [Op.operands]; simp at hy; simp [hy])]
  | call c =>
    obtain ⟨callee, args, argTypes⟩ := c
    cases callee with
    | builtin b =>
      have h' : ∀ x ∈ args.toList, ev fr x = ev fr' x := fun x hx => h x (by simpa [Op.operands, Call.operands] using hx)
      generalize hl : args.toList = l at h'
      cases b <;> simp only [vPure, hl] <;> first
        | rfl
        | (cases l with
           | nil => rfl
           | cons a r =>
             cases r with
             | nil =>
               have ha := h' a (by simp)
               generalize argTypes.toList = u
               cases u <;> first | rfl | simp only [ha]
             | cons b r =>
               cases r with
               | nil => first | rfl | simp only [h' a (by simp), h' b (by simp)]
               | cons c r => rfl)
    | _ => rfl
  | _ =>
    simp only [Op.operands] at h
    simp only [vPure] <;> first
      | rfl
      | (simp at h; simp only [h])

theorem opEff_congr {o : Oper} (h : ∀ x ∈ o.op.operands.toList, ev fr x = ev fr' x) : opEff env orc fr H o = opEff env orc fr' H o := by
  obtain ⟨dst, op, type, pos, after, guard⟩ := o
  cases op with
  | call c =>
    obtain ⟨callee, args, argTypes⟩ := c
    cases callee with
    | builtin b =>
      have h' : ∀ x ∈ args.toList, ev fr x = ev fr' x := fun x hx => h x (by simpa [Op.operands, Call.operands] using hx)
      generalize hl : args.toList = l at h'
      cases b <;> simp only [opEff, hl] <;> first
        | rfl
        | (cases l with
           | nil => rfl
           | cons a r =>
             cases r with
             | nil => rfl
             | cons b r =>
               cases r with
               | nil =>
                 have ha := h' a (by simp)
                 have hb := h' b (by simp)
                 generalize argTypes.toList = u
                 rcases u with _ | ⟨t, _ | ⟨u2, _ | _⟩⟩ <;> first | rfl | (simp only [ha, hb]; done) | (simp only [ha, hb]; rfl)
               | cons c r => rfl)
    | value f =>
      simp only [opEff, evL]
      rw [h f (by simp [Op.operands, Call.operands]), mapO_congr (f := ev fr) (g := ev fr') fun x hx => h x (by simp [Op.operands, Call.operands]; exact .inr (by simpa using hx))]
    | invoke r m =>
      simp only [opEff, evL]
      rw [h r (by simp [Op.operands, Call.operands]), mapO_congr (f := ev fr) (g := ev fr') fun x hx => h x (by simp [Op.operands, Call.operands]; exact .inr (by simpa using hx))]
  | _ =>
    simp only [Op.operands] at h
    simp only [opEff, newName] <;> first
      | rfl
      | (simp at h; simp only [h]; done)
      | (simp at h; simp only [h]; rfl)

/-- the value of an operation, and the heap after it -/
def opV (env : Env) (orc : Orc) (ops : Array Oper) (o : Oper) (fr : Fr) (H : Hp) : Option (V × Hp) :=
  match wantedV ops o fr with
  | none => none
  | some false => some (.tuple [], H)
  | some true => match opStep env orc fr H o with
    | some (.val v H) => some (v, H)
    | _ => none

theorem evalOps_normal {o : Oper} {r : List Oper} {f1 : Fr} {H1 : Hp} : evalOps env orc ops (o :: r) fr H = some (.normal, f1, H1) ↔ ∃ v H', opV env orc ops o fr H = some (v, H') ∧ evalOps env orc ops r (putO o.dst v fr) H' = some (.normal, f1, H1) := by
  simp only [evalOps, opV]
  cases wantedV ops o fr with
  | none => simp
  | some b =>
    have key : ∀ (v : V) (K : Hp), (evalOps env orc ops r (putO o.dst v fr) K = some (.normal, f1, H1)) ↔ ∃ v' H', some (v, K) = some (v', H') ∧ evalOps env orc ops r (putO o.dst v' fr) H' = some (.normal, f1, H1) :=
      fun v K => ⟨fun h => ⟨v, K, rfl, h⟩, fun ⟨v', H', h1, h2⟩ => by cases h1; exact h2⟩
    cases b with
    | false => exact key _ _
    | true =>
      simp only
      cases opStep env orc fr H o with
      | none => simp
      | some x =>
        cases x with
        | val v H' => exact key _ _
        | pan v H' => simp

theorem opV_congr {o : Oper} (h : ∀ t ∈ o.looksAt ops, look t fr = look t fr') : opV env orc ops o fr H = opV env orc ops o fr' H := by
  have hop : ∀ x ∈ o.op.operands.toList, ev fr x = ev fr' x := by
    intro x hx
    cases x with
    | tmp t => simp only [ev]; rw [h t (List.mem_append_left _ (List.mem_filterMap.2 ⟨.tmp t, hx, rfl⟩))]
    | _ => rfl
  have hw : wantedV ops o fr = wantedV ops o fr' := by
    unfold wantedV
    cases hg : o.guard with
    | none => rfl
    | some p =>
      obtain ⟨j, want⟩ := p
      simp only [yieldedV]
      cases hd : (ops[j]?).bind (·.dst) with
      | none => rfl
      | some t => simp only; rw [h t (by simp [Oper.looksAt, hg, hd])]
  simp only [opV, hw, opStep, vPure_congr hop, opEff_congr hop]

theorem opV_pure {o : Oper} (hp : isPure o.op = true) {v : V} {H' : Hp} (h : opV env orc ops o fr H = some (v, H')) : H' = H ∧ ∀ H2, opV env orc ops o fr H2 = some (v, H2) := by
  simp only [opV, opStep, hp] at h ⊢
  cases hw : wantedV ops o fr with
  | none => rw [hw] at h; cases h
  | some b =>
    rw [hw] at h
    cases b with
    | false => simp only [Option.some.injEq, Prod.mk.injEq] at h; obtain ⟨rfl, rfl⟩ := h; exact ⟨rfl, fun _ => rfl⟩
    | true =>
      simp only at h ⊢
      cases hv : vPure env.T fr o.op with
      | none => rw [hv] at h; cases h
      | some u => rw [hv] at h; simp only [Option.some.injEq, Prod.mk.injEq] at h; obtain ⟨rfl, rfl⟩ := h; exact ⟨rfl, fun _ => rfl⟩

theorem opEff_calm {o : Oper} (hp : isCalm env o.op = true) {v : V} {H' : Hp} (h : opEff env orc fr H o = some (.val v H')) : H' = H := by
  obtain ⟨dst, op, type, pos, after, guard⟩ := o
  unfold isCalm at hp
  simp only at hp
  split at hp
  · simp only [opEff] at h
    split at h
    · split at h
      · cases h; rfl
      · cases h
    · cases h
  · rename_i g args argTypes
    simp only [opEff, ev] at h
    split at h
    · rename_i g' first captured l hf hl
      simp only [Option.some.injEq, V.func.injEq, Fn.func.injEq] at hf
      obtain ⟨rfl, _, _⟩ := hf
      rcases callW_some h with ⟨h1, h2⟩ | ⟨_, _, v', H4, h1, h2, _⟩
      · have hq : env.quiet g = true := by
          rcases h2 with h2 | h2
          · exact h2
          · rw [h2, Bool.or_false] at hp; exact hp
        simp only [callVia, hq, quietVia] at h1
        split at h1
        · cases h1
        · split at h1
          · split at h1
            · cases h1; rfl
            · cases h1
          · cases h1
      · cases h2; rfl
    · cases h
  · cases hp

theorem opV_calm {o : Oper} (hp : isCalm env o.op = true) {v : V} {H' : Hp} (h : opV env orc ops o fr H = some (v, H')) : H' = H := by
  simp only [opV, opStep] at h
  cases hw : wantedV ops o fr with
  | none => rw [hw] at h; cases h
  | some b =>
    rw [hw] at h
    cases b with
    | false => simp only [Option.some.injEq, Prod.mk.injEq] at h; exact h.2.symm
    | true =>
      simp only at h
      cases hq : isPure o.op with
      | true =>
        rw [hq] at h
        simp only at h
        cases hv : vPure env.T fr o.op with
        | none => rw [hv] at h; cases h
        | some u => rw [hv] at h; simp only [Option.some.injEq, Prod.mk.injEq] at h; exact h.2.symm
      | false =>
        rw [hq] at h
        simp only at h
        cases hv : opEff env orc fr H o with
        | none => rw [hv] at h; cases h
        | some u =>
          cases u with
          | val u H2 => rw [hv] at h; simp only [Option.some.injEq, Prod.mk.injEq] at h; obtain ⟨rfl, rfl⟩ := h; exact opEff_calm hp hv
          | pan u H2 => rw [hv] at h; cases h

theorem evalOps_congr : ∀ {l : List Oper} {fr fr' : Fr} {H : Hp} {f1 : Fr} {H1 : Hp}, FrEq fr fr' → evalOps env orc ops l fr H = some (.normal, f1, H1) → ∃ f2, evalOps env orc ops l fr' H = some (.normal, f2, H1) ∧ FrEq f1 f2
  | [], fr, fr', H, f1, H1, e, h => by simp only [evalOps, Option.some.injEq, Prod.mk.injEq, true_and] at h ⊢; obtain ⟨rfl, rfl⟩ := h; exact ⟨fr', ⟨rfl, rfl⟩, e⟩
  | o :: r, fr, fr', H, f1, H1, e, h => by
    obtain ⟨v, H', h1, h2⟩ := evalOps_normal.1 h
    rw [opV_congr (fr' := fr') fun t _ => e t] at h1
    obtain ⟨f2, h3, h4⟩ := evalOps_congr (fr' := putO o.dst v fr') (fun t => by rw [look_put, look_put, e t]) h2
    exact ⟨f2, evalOps_normal.2 ⟨v, H', h1, h3⟩, h4⟩

/-- an operation that does not look at the heap -/
def HFree (env : Env) (orc : Orc) (ops : Array Oper) (o : Oper) (fr : Fr) : Prop := ∀ (v : V) (H H' : Hp), opV env orc ops o fr H = some (v, H') → H' = H ∧ ∀ H2, opV env orc ops o fr H2 = some (v, H2)
theorem load_free {o : Oper} {t : Nat} (hl : ldTmp o = some t) (ha : isCptr (look t fr) = true) : HFree env orc ops o fr := by
  have ho : ∃ ty, o.op = .load ty (.tmp t) := by
    unfold ldTmp at hl
    split at hl
    · rename_i ty t' he; cases hl; exact ⟨ty, he⟩
    · cases hl
  obtain ⟨ty, ho⟩ := ho
  obtain ⟨cs, hcs⟩ : ∃ cs, look t fr = .cptr cs := by
    cases hv : look t fr <;> rw [hv] at ha <;> first | cases ha; done | exact ⟨_, rfl⟩
  intro v H H' h
  simp only [opV] at h ⊢
  cases hw : wantedV ops o fr with
  | none => rw [hw] at h; cases h
  | some w =>
    rw [hw] at h
    cases w with
    | false => simp only [Option.some.injEq, Prod.mk.injEq] at h; obtain ⟨rfl, rfl⟩ := h; exact ⟨rfl, fun _ => rfl⟩
    | true =>
      have hp : isPure o.op = false := by rw [ho]; rfl
      have he : ∀ K, opStep env orc fr K o = match vLoad env.T ty (.cptr cs) [] with | some v => some (.val v K) | none => none := by
        intro K
        simp only [opStep, hp]
        unfold opEff
        rw [ho]
        simp only [ev, hcs]
        have hK : vLoad env.T ty (.cptr cs) K = vLoad env.T ty (.cptr cs) [] := by unfold vLoad; cases tyOf ty env.T <;> rfl
        rw [hK]
        cases vLoad env.T ty (.cptr cs) [] <;> rfl
      simp only [he] at h ⊢
      cases hq : vLoad env.T ty (.cptr cs) [] with
      | none => rw [hq] at h; cases h
      | some u => rw [hq] at h; simp only [Option.some.injEq, Prod.mk.injEq] at h; obtain ⟨rfl, rfl⟩ := h; exact ⟨rfl, fun _ => rfl⟩
theorem nbeq {a c : Nat} (h : a ≠ c) : Nat.beq a c = false := by
  cases hb : Nat.beq a c with
  | false => rfl
  | true => exact absurd (Nat.eq_of_beq_eq_true hb) h
theorem hset_comm {j k : Nat} {o p : Obj} (h : j ≠ k) : ∀ H : Hp, hset j o (hset k p H) = hset k p (hset j o H)
  | [] => by
    have h1 : Nat.beq j k = false := nbeq h
    have h2 : Nat.beq k j = false := nbeq (Ne.symm h)
    simp only [hset, h1, h2]
    rcases Nat.lt_or_ge j k with h3 | h3
    · rw [Nat.ble_eq_true_of_le (by omega : j ≤ k), show Nat.ble k j = false by rw [← Bool.not_eq_true, Nat.ble_eq]; omega]
    · rw [Nat.ble_eq_true_of_le (by omega : k ≤ j), show Nat.ble j k = false by rw [← Bool.not_eq_true, Nat.ble_eq]; omega]
  | (s, x) :: r => by
    have ih := hset_comm (o := o) (p := p) h r
    have b1 : ∀ {a c : Nat}, a ≠ c → Nat.beq a c = false := fun h => nbeq h
    have b2 : ∀ {a c : Nat}, ¬ a ≤ c → Nat.ble a c = false := fun h => by rw [← Bool.not_eq_true, Nat.ble_eq]; exact h
    by_cases hj : s = j
    · subst hj
      by_cases hk : Nat.ble k s = true
      · simp [hset, b1 h, b1 (Ne.symm h), hk, b2 (show ¬ s ≤ k by have := Nat.le_of_ble_eq_true hk; omega)]
      · simp only [Bool.not_eq_true] at hk
        simp [hset, b1 h, hk]
    · by_cases hk : s = k
      · subst hk
        by_cases hj2 : Nat.ble j s = true
        · simp [hset, b1 h, b1 (Ne.symm h), b1 hj, hj2, b2 (show ¬ s ≤ j by have := Nat.le_of_ble_eq_true hj2; omega)]
        · simp only [Bool.not_eq_true] at hj2
          simp [hset, b1 hj, hj2]
      · by_cases h1 : Nat.ble j s = true
        · by_cases h2 : Nat.ble k s = true
          · rcases Nat.lt_or_ge j k with h3 | h3
            · simp [hset, b1 hj, b1 hk, h1, h2, b1 h, b1 (Ne.symm h), b2 (show ¬ k ≤ j by omega), Nat.ble_eq_true_of_le (show j ≤ k by omega)]
            · simp [hset, b1 hj, b1 hk, h1, h2, b1 h, b1 (Ne.symm h), b2 (show ¬ j ≤ k by omega), Nat.ble_eq_true_of_le (show k ≤ j by omega)]
          · simp only [Bool.not_eq_true] at h2
            have h3 : ¬ k ≤ j := by
              intro h4
              have h5 := Nat.le_of_ble_eq_true h1
              rw [Nat.ble_eq_true_of_le (by omega)] at h2; cases h2
            simp [hset, b1 hj, b1 hk, h1, h2, b1 h, b2 h3]
        · simp only [Bool.not_eq_true] at h1
          by_cases h2 : Nat.ble k s = true
          · have h3 : ¬ j ≤ k := by
              intro h4
              have h5 := Nat.le_of_ble_eq_true h2
              rw [Nat.ble_eq_true_of_le (by omega)] at h1; cases h1
            simp [hset, b1 hj, b1 hk, h1, h2, b1 (Ne.symm h), b2 h3]
          · simp only [Bool.not_eq_true] at h2
            simp [hset, b1 hj, b1 hk, h1, h2, ih]
theorem opV_alloc {o : Oper} {t : Nat} (ho : o.op = .alloc t) {v : V} {H' : Hp} (h : opV env orc ops o fr H = some (v, H')) :
    (H' = H ∧ ∀ K, opV env orc ops o fr K = some (v, K)) ∨ ∃ x, hget (newName o) H = none ∧ H' = hset (newName o) x H ∧ ∀ K, hget (newName o) K = none → opV env orc ops o fr K = some (v, hset (newName o) x K) := by
  have hp : isPure o.op = false := by rw [ho]; rfl
  simp only [opV, opStep, hp] at h ⊢
  cases hw : wantedV ops o fr with
  | none => rw [hw] at h; cases h
  | some w =>
    rw [hw] at h
    cases w with
    | false => simp only [Option.some.injEq, Prod.mk.injEq] at h; obtain ⟨rfl, rfl⟩ := h; exact .inl ⟨rfl, fun _ => rfl⟩
    | true =>
      have he : ∀ K, opEff env orc fr K o = match tyOf t env.T, hget (newName o) K with | some y, none => some (.val (.ptr (newName o) 0) (hset (newName o) (.row y.zero) K)) | _, _ => none := by
        intro K
        unfold opEff
        rw [ho]
        simp only []
        cases tyOf t env.T <;> cases hget (newName o) K <;> rfl
      simp only [he] at h ⊢
      cases ht : tyOf t env.T with
      | none => rw [ht] at h; cases h
      | some y =>
        rw [ht] at h
        cases hg : hget (newName o) H with
        | some z => rw [hg] at h; cases h
        | none =>
          rw [hg] at h
          simp only [Option.some.injEq, Prod.mk.injEq] at h
          obtain ⟨rfl, rfl⟩ := h
          refine .inr ⟨_, rfl, rfl, fun K hK => ?_⟩
          rw [hK]
theorem al_op {o : Oper} (h : isAl o = true) : ∃ t, o.op = .alloc t := by
  unfold isAl at h
  split at h
  · rename_i t he; exact ⟨t, he⟩
  · cases h
theorem swap_ok {b : Bool} {x y : Oper} {l : List Oper} {f1 : Fr} {H1 : Hp} (hc : commB env ops b x y = true) (hx : b = true → isLd x = true → HFree env orc ops x fr) (hy : b = true → isLd y = true → HFree env orc ops y fr)
    (h : evalOps env orc ops (x :: y :: l) fr H = some (.normal, f1, H1)) :
    ∃ f2, evalOps env orc ops (y :: x :: l) fr H = some (.normal, f2, H1) ∧ FrEq f1 f2 := by
  simp only [commB, Bool.and_eq_true] at hc
  obtain ⟨ha, hc⟩ := hc
  obtain ⟨a1, a2, a3⟩ := Oper.apart_spec ha
  obtain ⟨vx, Hx, h1, h2⟩ := evalOps_normal.1 h
  obtain ⟨vy, Hy, h3, h4⟩ := evalOps_normal.1 h2
  have e1 : opV env orc ops y (putO x.dst vx fr) Hx = opV env orc ops y fr Hx := opV_congr fun t ht => by
    rw [look_put, if_neg]; exact fun hd => a1 t hd ht
  have e2 : ∀ K, opV env orc ops x (putO y.dst vy fr) K = opV env orc ops x fr K := fun K => opV_congr fun t ht => by
    rw [look_put, if_neg]; exact fun hd => a3 t hd ht
  rw [e1] at h3
  have e3 : FrEq (putO y.dst vy (putO x.dst vx fr)) (putO x.dst vx (putO y.dst vy fr)) := fun t => by
    simp only [look_put]
    by_cases hx : x.dst = some t
    · rw [if_pos hx, if_neg (a2 t hx), if_pos hx]
    · rw [if_neg hx]
      by_cases hy : y.dst = some t
      · rw [if_pos hy, if_neg hx]
      · rw [if_neg hy, if_neg hx]
  have fin : ∀ K, opV env orc ops y fr H = some (vy, K) → opV env orc ops x fr K = some (vx, Hy) → ∃ f2, evalOps env orc ops (y :: x :: l) fr H = some (.normal, f2, H1) ∧ FrEq f1 f2 := by
    intro K k1 k2
    obtain ⟨f2, g1, g2⟩ := evalOps_congr e3 h4
    exact ⟨f2, evalOps_normal.2 ⟨vy, K, k1, evalOps_normal.2 ⟨vx, Hy, (e2 K).trans k2, g1⟩⟩, g2⟩
  simp only [Bool.or_eq_true, Bool.and_eq_true] at hc
  rcases hc with ((hc | hc) | ⟨hc, hc'⟩) | ⟨hb, (hc | hc) | ⟨hc, hc'⟩⟩
  · obtain ⟨rfl, g⟩ := opV_pure hc h1
    exact fin Hy h3 (g Hy)
  · obtain ⟨rfl, g⟩ := opV_pure hc h3
    exact fin H (g H) h1
  · have := opV_calm hc h1
    subst this
    have := opV_calm hc' h3
    subst this
    exact fin _ h3 h1
  · obtain ⟨rfl, g⟩ := hx hb hc _ _ _ h1
    exact fin Hy h3 (g Hy)
  · obtain ⟨rfl, g⟩ := hy hb hc _ _ _ h3
    exact fin H (g H) h1
  · obtain ⟨t1, ho1⟩ := al_op hc
    obtain ⟨t2, ho2⟩ := al_op hc'
    rcases opV_alloc ho1 h1 with ⟨rfl, g1⟩ | ⟨o1, g1, rfl, g2⟩
    · exact fin Hy h3 (g1 Hy)
    · rcases opV_alloc ho2 h3 with ⟨rfl, g3⟩ | ⟨o2, g3, rfl, g4⟩
      · exact fin H (g3 H) h1
      · rw [hget_hset] at g3
        split at g3
        · cases g3
        · rename_i hne
          refine fin _ (g4 H g3) ?_
          rw [hset_comm hne]
          exact g2 _ (by rw [hget_hset, if_neg (Ne.symm hne)]; exact g1)

/-- loads whose addresses stay as they are, and do not lead to the heap -/
def LdSafe (f1 : Fr) : List Oper → Prop
  | [] => True
  | o :: r => (∀ t, ldTmp o = some t → isCptr (look t f1) = true ∧ ∀ z ∈ o :: r, z.dst ≠ some t) ∧ LdSafe f1 r
theorem LdSafe.sub {f1 : Fr} {l l' : List Oper} (h : List.Sublist l' l) : LdSafe f1 l → LdSafe f1 l' := by
  induction h with
  | slnil => exact fun h => h
  | cons a _ ih => exact fun h => ih h.2
  | cons_cons a hs ih => exact fun h => ⟨fun t ht => ⟨(h.1 t ht).1, fun z hz => (h.1 t ht).2 z (by
      rcases List.mem_cons.1 hz with rfl | hz
      · exact List.mem_cons_self ..
      · exact List.mem_cons_of_mem _ (hs.subset hz))⟩, ih h.2⟩
theorem LdSafe.congr {f1 f2 : Fr} (e : FrEq f1 f2) : ∀ {l : List Oper}, LdSafe f1 l → LdSafe f2 l
  | [], _ => trivial
  | _ :: _, h => ⟨fun t ht => ⟨by rw [← e t]; exact (h.1 t ht).1, (h.1 t ht).2⟩, LdSafe.congr e h.2⟩
theorem LdSafe.mem {f1 : Fr} {y : Oper} {B : List Oper} : ∀ {A : List Oper}, LdSafe f1 (A ++ y :: B) → LdSafe f1 (y :: B)
  | [], h => h
  | _ :: _, h => LdSafe.mem h.2
theorem evalOps_look : ∀ {l : List Oper} {fr f1 : Fr} {H H1 : Hp} {t : Nat}, evalOps env orc ops l fr H = some (.normal, f1, H1) → (∀ z ∈ l, z.dst ≠ some t) → look t f1 = look t fr
  | [], fr, f1, H, H1, t, h, _ => by simp only [evalOps, Option.some.injEq, Prod.mk.injEq, true_and] at h; rw [h.1]
  | o :: l, fr, f1, H, H1, t, h, hz => by
    obtain ⟨v, H', h1, h2⟩ := evalOps_normal.1 h
    rw [evalOps_look h2 (fun z hm => hz z (List.mem_cons_of_mem _ hm)), look_put, if_neg (hz o (List.mem_cons_self ..))]
theorem ld_looks {o : Oper} {t : Nat} (h : ldTmp o = some t) : t ∈ o.looksAt ops := by
  unfold ldTmp at h
  split at h
  · rename_i ty t' he
    cases h
    refine List.mem_append_left _ (List.mem_filterMap.2 ⟨.tmp t, ?_, rfl⟩)
    rw [he]; simp [Op.operands]
  · cases h
theorem isLd_some {o : Oper} (h : isLd o = true) : ∃ t, ldTmp o = some t := by
  unfold isLd at h
  split at h
  · rename_i t he; exact ⟨t, he⟩
  · cases h
theorem bubble_ok {b : Bool} {y : Oper} : ∀ {A B : List Oper} {fr f1 : Fr} {H H1 : Hp}, (∀ x ∈ A, commB env ops b x y = true) → (b = true → LdSafe f1 (A ++ y :: B)) → evalOps env orc ops (A ++ y :: B) fr H = some (.normal, f1, H1) →
    ∃ f2, evalOps env orc ops (y :: (A ++ B)) fr H = some (.normal, f2, H1) ∧ FrEq f1 f2
  | [], B, fr, f1, H, H1, _, _, h => ⟨f1, h, .refl _⟩
  | x :: A, B, fr, f1, H, H1, hc, hS, h => by
    obtain ⟨v, H', h1, h2⟩ := evalOps_normal.1 h
    obtain ⟨f2, h3, h4⟩ := bubble_ok (fun z hz => hc z (List.mem_cons_of_mem _ hz)) (fun hb => (hS hb).2) h2
    have hev : evalOps env orc ops (x :: y :: (A ++ B)) fr H = some (.normal, f2, H1) := evalOps_normal.2 ⟨v, H', h1, h3⟩
    have hmem : ∀ z ∈ x :: y :: (A ++ B), z ∈ x :: (A ++ y :: B) := by
      intro z hz
      simp only [List.mem_cons, List.mem_append] at hz ⊢
      rcases hz with rfl | rfl | hz | hz
      · exact .inl rfl
      · exact .inr (.inr (.inl rfl))
      · exact .inr (.inl hz)
      · exact .inr (.inr (.inr hz))
    obtain ⟨f3, h5, h6⟩ := swap_ok (hc x (List.mem_cons_self ..)) (fun hb hl => by
      obtain ⟨t, ht⟩ := isLd_some hl
      obtain ⟨k1, k2⟩ := (hS hb).1 t ht
      refine load_free ht ?_
      rw [← evalOps_look hev (fun z hz => k2 z (hmem z hz)), ← h4 t]
      exact k1) (fun hb hl => by
      obtain ⟨t, ht⟩ := isLd_some hl
      have hy : LdSafe f1 (y :: B) := LdSafe.mem (A := x :: A) (hS hb)
      obtain ⟨k1, k2⟩ := hy.1 t ht
      refine load_free ht ?_
      rw [← evalOps_look hev (fun z hz => ?_), ← h4 t]
      · exact k1
      · have hno : ∀ u ∈ x :: A, u.dst ≠ some t := by
          intro u hu hd
          have := hc u hu
          simp only [commB, Bool.and_eq_true] at this
          exact (Oper.apart_spec this.1).1 t hd (ld_looks ht)
        simp only [List.mem_cons, List.mem_append] at hz
        rcases hz with rfl | rfl | hz | hz
        · exact hno _ (List.mem_cons_self ..)
        · exact k2 _ (List.mem_cons_self ..)
        · exact hno z (List.mem_cons_of_mem _ hz)
        · exact k2 z (List.mem_cons_of_mem _ hz)) hev
    exact ⟨f3, h5, h4.trans h6⟩
theorem safe_of {f1 : Fr} : ∀ {l : List Oper}, safeB l = true → ((addrTmps l).all fun t => isCptr (look t f1)) = true → LdSafe f1 l
  | [], _, _ => trivial
  | o :: r, h1, h2 => by
    simp only [safeB, Bool.and_eq_true] at h1
    refine ⟨fun t ht => ?_, safe_of h1.2 ?_⟩
    · rw [ht] at h1
      simp only [addrTmps, ht, List.all_cons, Bool.and_eq_true] at h2
      refine ⟨h2.1, fun z hz hd => ?_⟩
      have := List.all_eq_true.1 h1.1 z hz
      rw [hd] at this
      simp at this
    · simp only [addrTmps] at h2
      split at h2
      · simp only [List.all_cons, Bool.and_eq_true] at h2; exact h2.2
      · exact h2
end
end Go.Vm
/- Drawn regions in which calls keep away from what is loaded beside them: every order comes to the same. -/
namespace Go.Vm
set_option linter.unusedSimpArgs false
set_option linter.unusedVariables false
set_option linter.unusedSectionVars false
section
variable {env : Env} {orc : Orc} {ops : Array Oper} {L sl : List Nat} {fr fr' : Fr} {H H' : Hp}

/-- all objects of a heap stand in another -/
def Sub (H H' : Hp) : Prop := ∀ k o, hget k H = some o → hget k H' = some o
theorem Sub.refl (H : Hp) : Sub H H := fun _ _ h => h
theorem Sub.trans {A B C : Hp} (h : Sub A B) (g : Sub B C) : Sub A C := fun k o e => g k o (h k o e)
theorem sub_hset {k : Nat} {o : Obj} (h : hget k H = none) : Sub H (hset k o H) := fun j x e => by
  rw [hget_hset, if_neg]; · exact e
  · rintro rfl; rw [h] at e; cases e

theorem reach_acc : ∀ (n : Nat) (todo acc : List Nat) (k : Nat), k ∈ acc → k ∈ reach H n todo acc
  | 0, _, _, _, h => by simpa [reach] using h
  | n + 1, [], _, _, h => by simpa [reach] using h
  | n + 1, a :: todo, acc, k, h => by
    simp only [reach]
    cases has a acc with
    | true => exact reach_acc n todo acc k h
    | false => exact reach_acc n _ _ k (List.mem_append_left _ h)
theorem reach_sub (hs : Sub H H') : ∀ (n : Nat) (todo acc : List Nat), (∀ k ∈ reach H n todo acc, hget k H ≠ none) → reach H' n todo acc = reach H n todo acc
  | 0, _, _, _ => by simp [reach]
  | n + 1, [], _, _ => by simp [reach]
  | n + 1, a :: todo, acc, h => by
    simp only [reach] at h ⊢
    cases hb : has a acc with
    | true => rw [hb] at h; exact reach_sub hs n todo acc h
    | false =>
      rw [hb] at h
      simp only at h ⊢
      have ha := h a (reach_acc n _ _ a (List.mem_append_right _ (List.mem_singleton.2 rfl)))
      cases hg : hget a H with
      | none => exact absurd hg ha
      | some o =>
        rw [hg] at h
        rw [hs a o hg]
        exact reach_sub hs n _ _ h
theorem pickO_sub (hs : Sub H H') {m : Nat → Option Nat} : ∀ {ns : List Nat} {i : Nat} {r : Hp}, pickO H m ns i = some r → pickO H' m ns i = some r ∧ ∀ k ∈ ns, hget k H ≠ none
  | [], i, r, h => ⟨h, fun k hk => by cases hk⟩
  | a :: ns, i, r, h => by
    simp only [pickO] at h ⊢
    cases hg : hget a H with
    | none => rw [hg] at h; cases h
    | some o =>
      rw [hg] at h
      rw [hs a o hg]
      simp only at h ⊢
      cases ho : renO m o with
      | none => rw [ho] at h; cases h
      | some o' =>
        rw [ho] at h
        cases hp : pickO H m ns (i + 1) with
        | none => rw [hp] at h; cases h
        | some l =>
          rw [hp] at h
          obtain ⟨h1, h2⟩ := pickO_sub hs hp
          rw [h1]
          refine ⟨h, fun k hk => ?_⟩
          rcases List.mem_cons.1 hk with rfl | hk
          · rw [hg]; simp
          · exact h2 k hk
theorem finish_sub (hs : Sub H H') {nr : Nat} {v : V} {r : V × Hp} (h : finish nr v H = some r) : finish nr v H' = some r := by
  unfold finish at h ⊢
  simp only [fN_eq, fA_eq, fH_eq] at h ⊢
  cases hp : pickO H (idx · (reach H 99 (List.range nr ++ namesV dep v) [])) (reach H 99 (List.range nr ++ namesV dep v) []) 0 with
  | none => rw [hp] at h; revert h; cases renV (idx · (reach H 99 (List.range nr ++ namesV dep v) [])) dep v <;> (intro h; cases h)
  | some H2 =>
    obtain ⟨h1, h2⟩ := pickO_sub hs hp
    rw [reach_sub hs _ _ _ h2, h1, ← hp]
    exact h

theorem mergeH_dom {m : Nat → Option Nat} {k : Nat} : ∀ {M H H4 : Hp}, mergeH m M H = some H4 → hget k H4 = none → hget k H = none
  | [], H, H4, h, hk => by simp only [mergeH, Option.some.injEq] at h; rw [h]; exact hk
  | (i, x) :: r, H, H4, h, hk => by
    simp only [mergeH] at h
    split at h
    · rename_i j x' _ _
      have := mergeH_dom h hk
      rw [hget_hset] at this
      split at this
      · cases this
      · exact this
    · cases h
theorem mergeH_add {m : Nat → Option Nat} {k : Nat} {o : Obj} : ∀ {M H H4 : Hp}, mergeH m M H = some H4 → hget k H4 = none → mergeH m M (hset k o H) = some (hset k o H4)
  | [], H, H4, h, hk => by simp only [mergeH, Option.some.injEq] at h ⊢; rw [h]
  | (i, x) :: r, H, H4, h, hk => by
    simp only [mergeH] at h ⊢
    split at h
    · rename_i j x' _ _
      have := mergeH_dom h hk
      have hne : j ≠ k := by
        rintro rfl
        rw [hget_hset, if_pos rfl] at this; cases this
      rw [hset_comm hne]
      exact mergeH_add h hk
    · cases h
theorem mergeH_get {m : Nat → Option Nat} {k : Nat} : ∀ {M H H4 : Hp}, mergeH m M H = some H4 → (∀ i o, (i, o) ∈ M → m i ≠ some k) → hget k H4 = hget k H
  | [], H, H4, h, _ => by simp only [mergeH, Option.some.injEq] at h; rw [h]
  | (i, x) :: r, H, H4, h, hk => by
    simp only [mergeH] at h
    split at h
    · rename_i j x' hj _
      rw [mergeH_get h (fun i' o' hm => hk i' o' (List.mem_cons_of_mem _ hm)), hget_hset, if_neg]
      rintro rfl
      exact hk i x (List.mem_cons_self ..) hj
    · cases h
theorem keysB_lt : ∀ {M : Hp} {i : Nat}, keysB i M = true → ∀ j o, (j, o) ∈ M → i ≤ j ∧ j < i + M.length
  | [], _, _, _, _, hm => by cases hm
  | (a, x) :: r, i, h, j, o, hm => by
    simp only [keysB, Bool.and_eq_true] at h
    have ha := Nat.eq_of_beq_eq_true h.1
    rcases List.mem_cons.1 hm with he | hm
    · cases he; simp only [List.length_cons]; omega
    · have := keysB_lt h.2 j o hm; simp only [List.length_cons]; omega
theorem freshB_add {k' : Nat} {o : Obj} : ∀ {n k : Nat}, freshB H k n = true → (∀ i, i < n → k + i ≠ k') → freshB (hset k' o H) k n = true
  | 0, _, _, _ => rfl
  | n + 1, k, h, hn => by
    simp only [freshB, Bool.and_eq_true] at h ⊢
    refine ⟨?_, freshB_add h.2 (fun i hi => hn i (by omega))⟩
    rw [hget_hset, if_neg (hn n (Nat.lt_succ_self n))]
    exact h.1

/-- the heap that an operation leaves -/
def OpR.heap : OpR → Hp
  | .val _ H => H
  | .pan _ H => H
def OpR.add (k : Nat) (o : Obj) : OpR → OpR
  | .val v H => .val v (hset k o H)
  | .pan v H => .pan v (hset k o H)

theorem quietVia_heap {g : Nat} {args : List V} {r : OpR} (h : quietVia orc g args H = some r) : r.heap = H ∧ ∀ K, ∃ v, r = .val v H ∧ quietVia orc g args K = some (.val v K) := by
  unfold quietVia at h ⊢
  split at h
  · cases h
  · split at h
    · rename_i ho
      split at h
      · rename_i hv
        cases h
        exact ⟨rfl, fun K => ⟨_, rfl, rfl⟩⟩
      · cases h
    · cases h

def callC (env : Env) (g : Nat) (args2 : List V) (n : Nat) (H2 : Hp) : List V × Hp := fullC env.full (tagArgs (env.argTags g) args2 n).1 ((tagRows H2 (tagArgs (env.argTags g) args2 n).2).1 ++ tips n ((tagRows H2 (tagArgs (env.argTags g) args2 n).2).2 - n))
/-- what a call that is not quiet has done -/
theorem callVia_some {k g : Nat} {args : List V} {r : OpR} (hq : env.quiet g = false) (h : callVia env orc k g args H = some r) :
    ∃ ns args2 H2 H3 v v4, reach H 99 ((sealArgs (env.argTags g) (env.argT g) args).flatMap (namesV dep)) [] = ns ∧ mapO (renV (idx · ns) dep) (sealArgs (env.argTags g) (env.argT g) args) = some args2 ∧ pickO H (idx · ns) ns 0 = some H2 ∧
      renV (backName ns k) dep v = some v4 ∧ mergeH (backName ns k) H3 H = some r.heap ∧ freshC H H3 k ns.length = true ∧
      ((orc (.call g (callC env g args2 ns.length H2).1) (callC env g args2 ns.length H2).2 = some (.ret v H3) ∧ r = .val v4 r.heap) ∨
       (orc (.call g (callC env g args2 ns.length H2).1) (callC env g args2 ns.length H2).2 = some (.pan v H3) ∧ r = .pan v4 r.heap)) := by
  unfold callVia at h
  rw [hq] at h
  simp only at h
  generalize hns : reach H 99 ((sealArgs (env.argTags g) (env.argT g) args).flatMap (namesV dep)) [] = ns at h
  split at h
  · rename_i args2 H2 h1 h2
    split at h
    · rename_i v H3 ho
      split at h
      · rename_i v4 H4 hv hm
        split at h
        · rename_i hf
          cases h
          exact ⟨ns, args2, H2, H3, v, v4, rfl, h1, h2, hv, hm, hf, .inl ⟨ho, rfl⟩⟩
        · cases h
      · cases h
    · rename_i v H3 ho
      split at h
      · rename_i v4 H4 hv hm
        split at h
        · rename_i hf
          cases h
          exact ⟨ns, args2, H2, H3, v, v4, rfl, h1, h2, hv, hm, hf, .inr ⟨ho, rfl⟩⟩
        · cases h
      · cases h
    · cases h
  · cases h

theorem callVia_dom {k k' g : Nat} {args : List V} {r : OpR} (h : callVia env orc k g args H = some r) (hk : hget k' r.heap = none) : hget k' H = none := by
  cases hq : env.quiet g with
  | true =>
    unfold callVia at h
    rw [hq] at h
    rw [(quietVia_heap h).1] at hk; exact hk
  | false =>
    obtain ⟨ns, a2, H2, H3, v, v4, _, _, _, _, hm, _⟩ := callVia_some hq h
    exact mergeH_dom hm hk

theorem callVia_add {k k' g : Nat} {o : Obj} {args : List V} {r : OpR} (h : callVia env orc k g args H = some r) (hk : hget k' r.heap = none) (hne : ∀ i, i < 64 → k + i ≠ k') :
    callVia env orc k g args (hset k' o H) = some (r.add k' o) := by
  cases hq : env.quiet g with
  | true =>
    unfold callVia at h ⊢
    rw [hq] at h ⊢
    obtain ⟨v, rfl, h2⟩ := (quietVia_heap h).2 (hset k' o H)
    exact h2
  | false =>
    have hk0 := callVia_dom h hk
    obtain ⟨ns, a2, H2, H3, v, v4, h1, h2, h3, h4, hm, hf, ho⟩ := callVia_some hq h
    have hs : Sub H (hset k' o H) := sub_hset hk0
    obtain ⟨p1, p2⟩ := pickO_sub hs h3
    have hr := reach_sub hs 99 ((sealArgs (env.argTags g) (env.argT g) args).flatMap (namesV dep)) [] (by rw [h1]; exact p2)
    have hf2 : freshC (hset k' o H) H3 k ns.length = true := by
      simp only [freshC, Bool.and_eq_true] at hf ⊢
      refine ⟨hf.1, freshB_add hf.2 fun i hi => hne i ?_⟩
      have := Nat.le_of_ble_eq_true hf.1.1
      omega
    have hm2 := mergeH_add (o := o) hm hk
    unfold callVia
    rw [hq]
    simp only [hr, h1, h2, p1]
    rcases ho with ⟨ho, hre⟩ | ⟨ho, hre⟩
    · simp only [callC] at ho
      simp only [ho, h4, hm2, hf2]
      rw [hre]; rfl
    · simp only [callC] at ho
      simp only [ho, h4, hm2, hf2]
      rw [hre]; rfl

theorem callW_dom {k k' g : Nat} {args : List V} {r : OpR} (h : callW env orc k g args H = some r) (hk : hget k' r.heap = none) : hget k' H = none := by
  rcases callW_some h with ⟨h1, _⟩ | ⟨_, _, v, H4, h1, rfl, h3⟩
  · exact callVia_dom h1 hk
  · exact hk
theorem callW_add {k k' g : Nat} {o : Obj} {args : List V} {r : OpR} (h : callW env orc k g args H = some r) (hk : hget k' r.heap = none) (hne : ∀ i, i < 64 → k + i ≠ k') :
    callW env orc k g args (hset k' o H) = some (r.add k' o) := by
  rcases callW_some h with ⟨h1, h2⟩ | ⟨hq, hl, v, H4, h1, rfl, h3⟩
  · have h4 := callVia_add (o := o) h1 hk hne
    unfold callW
    rcases h2 with h2 | h2
    · rw [h2]
      simp only
      unfold callVia at h4
      rw [h2] at h4; exact h4
    · cases hq : env.quiet g with
      | true =>
        simp only
        unfold callVia at h4
        rw [hq] at h4; exact h4
      | false => simp only [h2]; exact h4
  · have h4 := callVia_add (o := o) h1 (k' := k') (by show hget k' H4 = none; rw [h3]; exact hk) hne
    unfold callW
    simp only [hq, hl, h4]
    have h5 : sameH (hset k' o H4) (hset k' o H) = true := sameH_of fun j => by rw [hget_hset, hget_hset, h3]
    simp only [OpR.add, lookR, h5]

theorem has_mem {k : Nat} : ∀ {l : List Nat}, has k l = true ↔ k ∈ l
  | [] => by simp [has]
  | a :: r => by
    simp only [has, List.mem_cons]
    cases hb : Nat.beq a k with
    | true => have := Nat.eq_of_beq_eq_true hb; simp [this]
    | false =>
      have hne : k ≠ a := by rintro rfl; simp at hb
      simp only [has_mem (l := r)]
      exact ⟨.inr, fun h => h.resolve_left hne⟩

theorem callVia_keep {k j g : Nat} {args : List V} {r : OpR} (h : callVia env orc k g args H = some r) (hj : hget j H ≠ none)
    (hn : env.quiet g = false → has j (reach H 99 ((sealArgs (env.argTags g) (env.argT g) args).flatMap (namesV dep)) []) = false) : hget j r.heap = hget j H := by
  cases hq : env.quiet g with
  | true =>
    unfold callVia at h
    rw [hq] at h
    rw [(quietVia_heap h).1]
  | false =>
    obtain ⟨ns, a2, H2, H3, v, v4, h1, h2, h3, h4, hm, hf, _⟩ := callVia_some hq h
    have hn := hn hq
    rw [h1] at hn
    simp only [freshC, Bool.and_eq_true] at hf
    refine mergeH_get hm fun i o hio hb => ?_
    have hlt := keysB_lt hf.1.2 i o hio
    unfold backName at hb
    split at hb
    · rename_i j' hj'
      cases hb
      have : j ∈ ns := List.mem_of_getElem? hj'
      rw [← has_mem, hn] at this; cases this
    · rename_i hno
      cases hb
      have hge : ns.length ≤ i := by
        rcases Nat.lt_or_ge i ns.length with h5 | h5
        · rw [List.getElem?_eq_getElem h5] at hno; cases hno
        · exact h5
      exact hj (freshB_ok hf.2 (i - ns.length) (by omega))
theorem callW_keep {k j g : Nat} {args : List V} {r : OpR} (h : callW env orc k g args H = some r) (hj : hget j H ≠ none)
    (hn : env.quiet g = false → has j (reach H 99 ((sealArgs (env.argTags g) (env.argT g) args).flatMap (namesV dep)) []) = false) : hget j r.heap = hget j H := by
  rcases callW_some h with ⟨h1, _⟩ | ⟨_, _, v, H4, h1, rfl, h3⟩
  · exact callVia_keep h1 hj hn
  · rfl
theorem callW_via {k g : Nat} {args : List V} {r : OpR} (h : callW env orc k g args H = some r) : ∃ r0, callVia env orc k g args H = some r0 := by
  rcases callW_some h with ⟨h1, _⟩ | ⟨_, _, v, H4, h1, rfl, h3⟩
  · exact ⟨_, h1⟩
  · exact ⟨_, h1⟩
end
end Go.Vm
/- Drawn regions in which calls keep away from what is loaded beside them: operations, neighbours exchanged. -/
namespace Go.Vm
set_option linter.unusedSimpArgs false
set_option linter.unusedVariables false
set_option linter.unusedSectionVars false
section
variable {env : Env} {orc : Orc} {ops : Array Oper} {L sl : List Nat} {fr fr' : Fr} {H H' : Hp}

def opVP (env : Env) (orc : Orc) (L sl : List Nat) (ops : Array Oper) (o : Oper) (fr : Fr) (H : Hp) : Option (V × Hp) :=
  match wantedV ops o fr with
  | none => none
  | some false => some (.tuple [], H)
  | some true => match protB env L sl fr H o with
    | false => none
    | true => match opStep env orc fr H o with
      | some (.val v H) => some (v, H)
      | _ => none
def PanAt (env : Env) (orc : Orc) (L sl : List Nat) (ops : Array Oper) (o : Oper) (fr : Fr) (H : Hp) (v : V) (H' : Hp) : Prop :=
  wantedV ops o fr = some true ∧ protB env L sl fr H o = true ∧ opStep env orc fr H o = some (.pan v H')

theorem evalP_cons {o : Oper} {l : List Oper} {r : Res} : evalOpsP env orc L sl ops (o :: l) fr H = some r ↔
    (∃ v H', opVP env orc L sl ops o fr H = some (v, H') ∧ evalOpsP env orc L sl ops l (putO o.dst v fr) H' = some r) ∨ ∃ v H', PanAt env orc L sl ops o fr H v H' ∧ r = (.panic v, fr, H') := by
  simp only [evalOpsP, opVP, PanAt]
  cases wantedV ops o fr with
  | none => simp
  | some b =>
    cases b with
    | false => simp; exact ⟨fun h => ⟨_, _, ⟨rfl, rfl⟩, h⟩, fun ⟨_, _, ⟨h1, h2⟩, h⟩ => by subst h1 h2; exact h⟩
    | true =>
      cases protB env L sl fr H o with
      | false => simp
      | true =>
        simp only [true_and]
        cases opStep env orc fr H o with
        | none => simp
        | some x =>
          cases x with
          | val v H1 => simp; exact ⟨fun h => ⟨_, _, ⟨rfl, rfl⟩, h⟩, fun ⟨_, _, ⟨h1, h2⟩, h⟩ => by subst h1 h2; exact h⟩
          | pan v H1 => simp; exact ⟨fun h => ⟨_, _, ⟨rfl, rfl⟩, h.symm⟩, fun ⟨_, _, ⟨h1, h2⟩, h3⟩ => by rw [h1, h2, h3]⟩

theorem evalP_plain : ∀ {l : List Oper} {fr : Fr} {H : Hp} {r : Res}, evalOpsP env orc L sl ops l fr H = some r → evalOps env orc ops l fr H = some r
  | [], fr, H, r, h => h
  | o :: l, fr, H, r, h => by
    simp only [evalOpsP, evalOps] at h ⊢
    cases hw : wantedV ops o fr with
    | none => rw [hw] at h; cases h
    | some b =>
      rw [hw] at h
      cases b with
      | false => exact evalP_plain h
      | true =>
        simp only at h ⊢
        cases hp : protB env L sl fr H o with
        | false => rw [hp] at h; cases h
        | true =>
          rw [hp] at h
          simp only at h
          cases ho : opStep env orc fr H o with
          | none => rw [ho] at h; cases h
          | some x =>
            rw [ho] at h
            cases x with
            | val v H1 => exact evalP_plain h
            | pan v H1 => exact h

theorem opVP_iff {o : Oper} {v : V} {H' : Hp} : opVP env orc L sl ops o fr H = some (v, H') ↔ opV env orc ops o fr H = some (v, H') ∧ (wantedV ops o fr = some true → protB env L sl fr H o = true) := by
  simp only [opVP, opV]
  cases wantedV ops o fr with
  | none => simp
  | some b =>
    cases b with
    | false => simp
    | true =>
      cases protB env L sl fr H o with
      | false => simp
      | true => exact ⟨fun h => ⟨h, fun _ => rfl⟩, fun h => h.1⟩

theorem look_op {o : Oper} {x : Operand} (h : ∀ t ∈ o.looksAt ops, look t fr = look t fr') (hx : x ∈ o.op.operands.toList) : ev fr x = ev fr' x := by
  cases x with
  | tmp t => simp only [ev]; rw [h t (List.mem_append_left _ (List.mem_filterMap.2 ⟨.tmp t, hx, rfl⟩))]
  | _ => rfl
theorem wanted_congr {o : Oper} (h : ∀ t ∈ o.looksAt ops, look t fr = look t fr') : wantedV ops o fr = wantedV ops o fr' := by
  unfold wantedV
  cases hg : o.guard with
  | none => rfl
  | some p =>
    obtain ⟨j, want⟩ := p
    simp only [yieldedV]
    cases hd : (ops[j]?).bind (·.dst) with
    | none => rfl
    | some t => simp only; rw [h t (by simp [Oper.looksAt, hg, hd])]
theorem opStep_congr {o : Oper} (h : ∀ t ∈ o.looksAt ops, look t fr = look t fr') : opStep env orc fr H o = opStep env orc fr' H o := by
  have hop : ∀ x ∈ o.op.operands.toList, ev fr x = ev fr' x := fun x hx => look_op h hx
  simp only [opStep, vPure_congr hop, opEff_congr hop]
theorem touch_congr {o : Oper} (h : ∀ t ∈ o.looksAt ops, look t fr = look t fr') : touch env fr H o = touch env fr' H o := by
  have hop : ∀ x ∈ o.op.operands.toList, ev fr x = ev fr' x := fun x hx => look_op h hx
  unfold touch
  split
  · rename_i f args at_ heq
    rw [heq] at hop
    have h1 : ev fr f = ev fr' f := hop f (by simp [Op.operands, Call.operands])
    have h2 : evL fr args.toList = evL fr' args.toList := mapO_congr fun x hx => hop x (by simp only [Op.operands, Call.operands]; simp only [Array.toList_append, List.mem_append]; exact .inr hx)
    rw [h1, h2]
  · rfl
theorem protB_congr {o : Oper} (h : ∀ t ∈ o.looksAt ops, look t fr = look t fr') : protB env L sl fr H o = protB env L sl fr' H o := by
  unfold protB
  rw [touch_congr h]
  cases hs : stTmp o with
  | some t =>
    simp only
    have : t ∈ o.looksAt ops := by
      unfold stTmp at hs
      split at hs
      · rename_i ty t' x he
        cases hs
        refine List.mem_append_left _ (List.mem_filterMap.2 ⟨.tmp t, ?_, rfl⟩)
        rw [he]; simp [Op.operands]
      · cases hs
    rw [h t this]
  | none =>
    cases hl : ldTmp o with
    | none => rfl
    | some t => simp only; rw [h t (ld_looks hl)]
theorem opVP_congr {o : Oper} (h : ∀ t ∈ o.looksAt ops, look t fr = look t fr') : opVP env orc L sl ops o fr H = opVP env orc L sl ops o fr' H := by
  simp only [opVP, wanted_congr h, protB_congr h, opStep_congr h]
theorem PanAt_congr {o : Oper} {v : V} (h : ∀ t ∈ o.looksAt ops, look t fr = look t fr') (hp : PanAt env orc L sl ops o fr H v H') : PanAt env orc L sl ops o fr' H v H' := by
  unfold PanAt at hp ⊢
  rw [← wanted_congr h, ← protB_congr h, ← opStep_congr h]
  exact hp
theorem evalP_congr : ∀ {l : List Oper} {fr fr' : Fr} {H : Hp} {ex : Ex} {f1 : Fr} {H1 : Hp}, FrEq fr fr' → evalOpsP env orc L sl ops l fr H = some (ex, f1, H1) → ∃ f2, evalOpsP env orc L sl ops l fr' H = some (ex, f2, H1) ∧ FrEq f1 f2
  | [], fr, fr', H, ex, f1, H1, e, h => by
    simp only [evalOpsP, Option.some.injEq, Prod.mk.injEq] at h ⊢
    obtain ⟨rfl, rfl, rfl⟩ := h
    exact ⟨fr', ⟨rfl, rfl, rfl⟩, e⟩
  | o :: r, fr, fr', H, ex, f1, H1, e, h => by
    rcases evalP_cons.1 h with ⟨v, H', h1, h2⟩ | ⟨v, H', h1, h2⟩
    · rw [opVP_congr (fr' := fr') fun t _ => e t] at h1
      obtain ⟨f2, h3, h4⟩ := evalP_congr (fr' := putO o.dst v fr') (fun t => by rw [look_put, look_put, e t]) h2
      exact ⟨f2, evalP_cons.2 (.inl ⟨v, H', h1, h3⟩), h4⟩
    · simp only [Prod.mk.injEq] at h2
      obtain ⟨rfl, rfl, rfl⟩ := h2
      exact ⟨fr', evalP_cons.2 (.inr ⟨v, H1, PanAt_congr (fun t _ => e t) h1, rfl⟩), e⟩

/- kinds -/
def isLdS (sl : List Nat) (o : Oper) : Bool := match ldTmp o with
  | some t => has t sl
  | none => false
def isStS (sl : List Nat) (o : Oper) : Bool := match stTmp o with
  | some t => has (t + 1000000) sl
  | none => false
def commS (env : Env) (ops : Array Oper) (sl : List Nat) (x y : Oper) : Bool := x.apart ops y && ((isPure x.op || isPure y.op || (isCalm env x.op && isCalm env y.op)) ||
  ((isLdS sl x && (isCl y || isAl y || isBx y || isStS sl y)) || ((isCl x && isAl y || isAl x && isAl y) && !Nat.beq (newName x) (newName y))))

theorem newName_mul (o : Oper) : ∃ a, newName o = 64 * a := by
  unfold newName
  split
  · exact ⟨_, rfl⟩
  · exact ⟨1, rfl⟩
theorem newName_far {x y : Oper} (h : Nat.beq (newName x) (newName y) = false) : ∀ i, i < 64 → newName x + i ≠ newName y := by
  intro i hi he
  obtain ⟨a, ha⟩ := newName_mul x
  obtain ⟨b, hb⟩ := newName_mul y
  rw [ha, hb] at he
  have : i = 0 := by omega
  subst this
  rw [ha, hb, show 64 * a = 64 * b from by omega] at h
  simp at h

theorem pure_kinds {o : Oper} (h : isPure o.op = true) : isCl o = false ∧ isAl o = false ∧ ldTmp o = none ∧ isBx o = false ∧ stTmp o = none := by
  obtain ⟨dst, op, type, pos, after, guard⟩ := o
  refine ⟨?_, ?_, ?_, ?_, ?_⟩
  · unfold isCl; simp only at h ⊢; split
    · cases h
    · rfl
  · unfold isAl; simp only at h ⊢; split
    · cases h
    · rfl
  · unfold ldTmp; simp only at h ⊢; split
    · cases h
    · rfl
  · unfold isBx; simp only at h ⊢; split
    · cases h
    · rfl
  · unfold stTmp; simp only at h ⊢; split
    · cases h
    · rfl
theorem protB_pure {o : Oper} (h : isPure o.op = true) : protB env L sl fr H o = true := by
  obtain ⟨h1, h2, h3, h4, h5⟩ := pure_kinds h
  simp [protB, h1, h2, h3, h4, h5]
theorem opVP_pure {o : Oper} (hp : isPure o.op = true) {v : V} (h : opVP env orc L sl ops o fr H = some (v, H')) : H' = H ∧ ∀ K, opVP env orc L sl ops o fr K = some (v, K) := by
  obtain ⟨h1, _⟩ := opVP_iff.1 h
  obtain ⟨rfl, g⟩ := opV_pure hp h1
  exact ⟨rfl, fun K => opVP_iff.2 ⟨g K, fun _ => protB_pure hp⟩⟩
theorem isSome_iff {α : Type} {x : Option α} : isSome x = true ↔ x ≠ none := by cases x <;> simp [isSome]

theorem al_kinds {o : Oper} (h : isAl o = true) : isCl o = false ∧ ldTmp o = none ∧ isPure o.op = false := by
  obtain ⟨t, ho⟩ := al_op h
  refine ⟨?_, ?_, ?_⟩
  · unfold isCl; rw [ho]
  · unfold ldTmp; rw [ho]
  · rw [ho]; rfl
theorem touch_al {o : Oper} (h : isAl o = true) : touch env fr H o = [] := by
  obtain ⟨t, ho⟩ := al_op h
  unfold touch; rw [ho]
theorem protB_al {o : Oper} (h : isAl o = true) : protB env L sl fr H o = L.all fun r => isSome (hget r H) := by
  unfold protB
  rw [h, Bool.or_true, Bool.true_or]
  simp only [touch_al h, has, Bool.not_false, Bool.true_and]

theorem opVP_alloc {o : Oper} (ha : isAl o = true) {v : V} (h : opVP env orc L sl ops o fr H = some (v, H')) :
    (wantedV ops o fr = some false ∧ H' = H ∧ ∀ K, opVP env orc L sl ops o fr K = some (v, K)) ∨
    ∃ x, (L.all fun r => isSome (hget r H)) = true ∧ hget (newName o) H = none ∧ H' = hset (newName o) x H ∧ ∀ K, hget (newName o) K = none → (L.all fun r => isSome (hget r K)) = true → opVP env orc L sl ops o fr K = some (v, hset (newName o) x K) := by
  obtain ⟨t, ho⟩ := al_op ha
  obtain ⟨h1, h2⟩ := opVP_iff.1 h
  cases hw : wantedV ops o fr with
  | none => simp only [opVP, hw] at h; cases h
  | some b =>
    cases b with
    | false =>
      refine .inl ⟨rfl, ?_, fun K => ?_⟩
      · simp only [opVP, hw, Option.some.injEq, Prod.mk.injEq] at h; exact h.2.symm
      · simp only [opVP, hw, Option.some.injEq, Prod.mk.injEq] at h ⊢; exact ⟨h.1, trivial⟩
    | true =>
      have h2 := h2 hw
      rw [protB_al ha] at h2
      rcases opV_alloc ho h1 with ⟨rfl, g⟩ | ⟨x, g1, rfl, g2⟩
      · -- an allocation that is wanted leaves a heap with one object more
        exfalso
        have hp := (al_kinds ha).2.2
        simp only [opV, hw, opStep, hp] at h1
        have he : opEff env orc fr H' o = match tyOf t env.T, hget (newName o) H' with | some y, none => some (.val (.ptr (newName o) 0) (hset (newName o) (.row y.zero) H')) | _, _ => none := by
          unfold opEff
          rw [ho]
          simp only []
          cases tyOf t env.T <;> cases hget (newName o) H' <;> rfl
        rw [he] at h1
        cases ht : tyOf t env.T with
        | none => rw [ht] at h1; cases h1
        | some y =>
          rw [ht] at h1
          cases hg : hget (newName o) H' with
          | some z => rw [hg] at h1; cases h1
          | none =>
            rw [hg] at h1
            simp only [Option.some.injEq, Prod.mk.injEq] at h1
            have := congrArg (hget (newName o)) h1.2
            rw [hget_hset, if_pos rfl, hg] at this
            cases this
      · exact .inr ⟨x, h2, g1, rfl, fun K hK hL => opVP_iff.2 ⟨g2 K hK, fun _ => by rw [protB_al ha]; exact hL⟩⟩

theorem cl_op {o : Oper} (h : isCl o = true) : ∃ f args at_, o.op = .call ⟨.value f, args, at_⟩ := by
  unfold isCl at h
  split at h
  · rename_i f args at_ he; exact ⟨f, args, at_, he⟩
  · cases h
theorem cl_kinds {o : Oper} (h : isCl o = true) : isAl o = false ∧ ldTmp o = none ∧ isPure o.op = false := by
  obtain ⟨f, args, at_, ho⟩ := cl_op h
  refine ⟨?_, ?_, ?_⟩
  · unfold isAl; rw [ho]
  · unfold ldTmp; rw [ho]
  · rw [ho]; rfl
/-- what a call does, and whom it reaches -/
theorem cl_step {o : Oper} (h : isCl o = true) {r : OpR} (hs : opStep env orc fr H o = some r) :
    ∃ g l, callW env orc (newName o) g l H = some r ∧ (∀ K, opStep env orc fr K o = callW env orc (newName o) g l K) ∧ ∀ K, touch env fr K o = match env.quiet g with | true => [] | false => reach K 99 ((sealArgs (env.argTags g) (env.argT g) l).flatMap (namesV dep)) [] := by
  obtain ⟨f, args, at_, ho⟩ := cl_op h
  have hp := (cl_kinds h).2.2
  have he : ∀ K, opStep env orc fr K o = match ev fr f, evL fr args.toList with
      | some (.func (.func g) first captured), some l => callW env orc (newName o) g (first ++ l ++ captured) K
      | _, _ => none := by
    intro K
    simp only [opStep, hp]
    unfold opEff
    rw [ho]
    rfl
  rw [he] at hs
  split at hs
  · rename_i g first captured l h1 h2
    refine ⟨g, first ++ l ++ captured, hs, fun K => ?_, fun K => ?_⟩
    · rw [he, h1, h2]
    · unfold touch; rw [ho]; simp only [h1, h2]; rfl
  · cases hs
theorem protB_cl {o : Oper} (h : isCl o = true) : protB env L sl fr H o = L.all fun r => !has r (touch env fr H o) && isSome (hget r H) := by
  unfold protB; rw [h, Bool.true_or, Bool.true_or]

/-- what calls and allocations leave alone -/
theorem box_keep {o : Oper} (ho : isBx o = true) {v : V} (h : opVP env orc L sl ops o fr H = some (v, H')) {j : Nat} (hj : has j L = true) : hget j H' = hget j H := by
  obtain ⟨t, x, hop⟩ : ∃ t x, o.op = .box t x := by
    unfold isBx at ho
    split at ho
    · rename_i t x he; exact ⟨t, x, he⟩
    · cases ho
  obtain ⟨h1, h2⟩ := opVP_iff.1 h
  cases hw : wantedV ops o fr with
  | none => simp only [opVP, hw] at h; cases h
  | some b =>
    cases b with
    | false => simp only [opVP, hw, Option.some.injEq, Prod.mk.injEq] at h; rw [h.2]
    | true =>
      have hp := h2 hw
      unfold protB at hp
      rw [ho, Bool.or_true] at hp
      have hp := (List.all_eq_true.1 hp) j (has_mem.1 hj)
      simp only [Bool.and_eq_true] at hp
      have hpu : isPure o.op = false := by rw [hop]; rfl
      simp only [opV, hw, opStep, hpu] at h1
      unfold opEff at h1
      rw [hop] at h1
      simp only at h1
      split at h1
      · rename_i r he
        split at he
        · rename_i y v' _ hg _
          split at he
          · cases he
            simp only [Option.some.injEq, Prod.mk.injEq] at h1
            obtain ⟨rfl, rfl⟩ := h1
            rw [hget_hset, if_neg]
            rintro rfl
            have := hp.2
            rw [hg] at this; cases this
          · cases he
        · cases he
      · cases h1
theorem vStore_keep {T : List (Nat × Ty)} {t r off j : Nat} {v : V} {K : Hp} (h : vStore T t (.ptr r off) v H = some K) (hj : j ≠ r) : hget j K = hget j H := by
  unfold vStore at h
  split at h
  · rename_i heq
    cases heq
    split at h
    · split at h
      · simp only [gd] at h
        split at h
        · cases h; rw [hget_hset, if_neg hj]
        · cases h
      · split at h
        · simp only [gd] at h
          split at h
          · cases h; rw [hget_hset, if_neg hj]
          · cases h
        · cases h
      · cases h
    · cases h
  · cases h
theorem store_keep {o : Oper} (ho : isStS sl o = true) {v : V} (h : opVP env orc L sl ops o fr H = some (v, H')) {j : Nat} (hj : has j L = true) : hget j H' = hget j H := by
  unfold isStS at ho
  cases hs : stTmp o with
  | none => rw [hs] at ho; cases ho
  | some t =>
    rw [hs] at ho
    simp only at ho
    obtain ⟨ty, x, hop⟩ : ∃ ty x, o.op = .store ty (.tmp t) x := by
      unfold stTmp at hs
      split at hs
      · rename_i ty t' x he; cases hs; exact ⟨ty, x, he⟩
      · cases hs
    obtain ⟨h1, h2⟩ := opVP_iff.1 h
    cases hw : wantedV ops o fr with
    | none => simp only [opVP, hw] at h; cases h
    | some b =>
      cases b with
      | false => simp only [opVP, hw, Option.some.injEq, Prod.mk.injEq] at h; rw [h.2]
      | true =>
        have hp := h2 hw
        have k1 : isCl o = false := by unfold isCl; rw [hop]
        have k2 : isAl o = false := by unfold isAl; rw [hop]
        have k3 : isBx o = false := by unfold isBx; rw [hop]
        unfold protB at hp
        rw [k1, k2, k3, hs] at hp
        simp only [Bool.or_false, ho] at hp
        have hpu : isPure o.op = false := by rw [hop]; rfl
        simp only [opV, hw, opStep, hpu] at h1
        unfold opEff at h1
        rw [hop] at h1
        simp only [ev] at h1
        cases hl : look t fr with
        | ptr r off =>
          rw [hl] at hp h1
          have hne : j ≠ r := by
            rintro rfl
            simp only [farAddr, hj] at hp; cases hp
          split at h1
          · rename_i q he
            split at he
            · rename_i hh1 hh2
              simp only [Option.some.injEq] at hh1
              subst hh1
              split at he
              · rename_i K hK
                cases he
                simp only [Option.some.injEq, Prod.mk.injEq] at h1
                obtain ⟨rfl, rfl⟩ := h1
                exact vStore_keep hK hne
              · cases he
            · cases he
          · cases h1
        | _ => rw [hl] at hp; cases hp
theorem soft_keep {o : Oper} (ho : (isCl o || isAl o || isBx o || isStS sl o) = true) {v : V} (h : opVP env orc L sl ops o fr H = some (v, H')) {j : Nat} (hj : has j L = true) : hget j H' = hget j H := by
  cases hb : isBx o with
  | true => exact box_keep hb h hj
  | false =>
  cases hst : isStS sl o with
  | true => exact store_keep hst h hj
  | false =>
  rw [hb, hst, Bool.or_false, Bool.or_false] at ho
  cases ha : isAl o with
  | true =>
    rcases opVP_alloc ha h with ⟨_, rfl, _⟩ | ⟨x, h1, h2, rfl, _⟩
    · rfl
    · have := (List.all_eq_true.1 h1) j (has_mem.1 hj)
      rw [hget_hset, if_neg]
      rintro rfl
      rw [h2] at this; cases this
  | false =>
    rw [ha, Bool.or_false] at ho
    obtain ⟨h1, h2⟩ := opVP_iff.1 h
    cases hw : wantedV ops o fr with
    | none => simp only [opVP, hw] at h; cases h
    | some b =>
      cases b with
      | false => simp only [opVP, hw, Option.some.injEq, Prod.mk.injEq] at h; rw [h.2]
      | true =>
        have hp := h2 hw
        rw [protB_cl ho] at hp
        have hp := (List.all_eq_true.1 hp) j (has_mem.1 hj)
        simp only [Bool.and_eq_true, Bool.not_eq_true'] at hp
        simp only [opV, hw] at h1
        cases hs : opStep env orc fr H o with
        | none => rw [hs] at h1; cases h1
        | some r =>
          rw [hs] at h1
          cases r with
          | pan _ _ => cases h1
          | val v' K =>
            simp only [Option.some.injEq, Prod.mk.injEq] at h1
            obtain ⟨rfl, rfl⟩ := h1
            obtain ⟨g, l, g1, g2, g3⟩ := cl_step ho hs
            refine callW_keep g1 (isSome_iff.1 hp.2) fun hq => ?_
            rw [g3, hq] at hp
            exact hp.1

/-- a load that is kept away from gives the same in another heap -/
theorem load_keep {o : Oper} (hl : isLdS sl o = true) {v : V} (h : opVP env orc L sl ops o fr H = some (v, H')) {K : Hp} (hK : ∀ j, has j L = true → hget j K = hget j H) : H' = H ∧ opVP env orc L sl ops o fr K = some (v, K) := by
  unfold isLdS at hl
  cases ht : ldTmp o with
  | none => rw [ht] at hl; cases hl
  | some t =>
    rw [ht] at hl
    simp only at hl
    have ho : ∃ ty, o.op = .load ty (.tmp t) := by
      unfold ldTmp at ht
      split at ht
      · rename_i ty t' he; cases ht; exact ⟨ty, he⟩
      · cases ht
    obtain ⟨ty, ho⟩ := ho
    have k1 : isCl o = false := by unfold isCl; rw [ho]
    have k2 : isAl o = false := by unfold isAl; rw [ho]
    have k3 : isBx o = false := by unfold isBx; rw [ho]
    have k4 : stTmp o = none := by unfold stTmp; rw [ho]
    have hpr : ∀ G, protB env L sl fr G o = okAddr L (look t fr) := fun G => by
      unfold protB
      rw [k1, k2, k3, k4, ht]
      simp only [Bool.or_false, hl]
    have hp : isPure o.op = false := by rw [ho]; rfl
    have he : ∀ G, opStep env orc fr G o = match vLoad env.T ty (look t fr) G with | some v => some (.val v G) | none => none := fun G => by
      simp only [opStep, hp]
      unfold opEff
      rw [ho]
      simp only [ev]
      rfl
    have hsame : okAddr L (look t fr) = true → vLoad env.T ty (look t fr) K = vLoad env.T ty (look t fr) H := fun hk => by
      unfold vLoad
      cases hv : look t fr with
      | ptr r off =>
        rw [hv] at hk
        cases tyOf ty env.T with
        | none => rfl
        | some y => simp only; rw [hK r hk]
      | cptr cs => cases tyOf ty env.T <;> rfl
      | _ => rw [hv] at hk; cases hk
    simp only [opVP, hpr, he] at h ⊢
    cases hw : wantedV ops o fr with
    | none => rw [hw] at h; cases h
    | some b =>
      rw [hw] at h
      cases b with
      | false => simp only [Option.some.injEq, Prod.mk.injEq] at h ⊢; exact ⟨h.2.symm, h.1, trivial⟩
      | true =>
        simp only at h ⊢
        cases hk : okAddr L (look t fr) with
        | false => rw [hk] at h; cases h
        | true =>
          rw [hk] at h
          simp only at h ⊢
          rw [hsame hk]
          cases hv : vLoad env.T ty (look t fr) H with
          | none => rw [hv] at h; cases h
          | some u => rw [hv] at h; simp only [Option.some.injEq, Prod.mk.injEq] at h ⊢; exact ⟨h.2.symm, h.1, trivial⟩

theorem opVP_calm {o : Oper} (hc : isCalm env o.op = true) {v : V} (h : opVP env orc L sl ops o fr H = some (v, H')) : H' = H := opV_calm hc (opVP_iff.1 h).1

theorem all_some_hset {k : Nat} {o : Obj} (h : (L.all fun r => isSome (hget r H)) = true) : (L.all fun r => isSome (hget r (hset k o H))) = true := by
  rw [List.all_eq_true] at h ⊢
  intro r hr
  rw [hget_hset]
  split
  · rfl
  · exact h r hr

/-- a call in a heap with one object more -/
theorem cl_add {o : Oper} (hc : isCl o = true) {r : OpR} {k : Nat} {x : Obj} (hp : protB env L sl fr H o = true) (hs : opStep env orc fr H o = some r) (hk : hget k r.heap = none) (hne : ∀ i, i < 64 → newName o + i ≠ k) :
    protB env L sl fr (hset k x H) o = true ∧ opStep env orc fr (hset k x H) o = some (r.add k x) ∧ hget k H = none := by
  obtain ⟨g, l, g1, g2, g3⟩ := cl_step hc hs
  have hk0 := callW_dom g1 hk
  refine ⟨?_, by rw [g2]; exact callW_add g1 hk hne, hk0⟩
  rw [protB_cl hc, List.all_eq_true] at hp ⊢
  have ht : touch env fr (hset k x H) o = touch env fr H o := by
    rw [g3, g3]
    cases hq : env.quiet g with
    | true => rfl
    | false =>
      obtain ⟨r0, g0⟩ := callW_via g1
      obtain ⟨ns, a2, H2, H3, v, v4, h1, h2, h3, _⟩ := callVia_some hq g0
      refine reach_sub (sub_hset hk0) _ _ _ ?_
      rw [h1]
      exact (pickO_sub (sub_hset hk0 (o := x)) h3).2
  intro j hj
  have := hp j hj
  simp only [Bool.and_eq_true] at this ⊢
  rw [ht]
  refine ⟨this.1, ?_⟩
  rw [hget_hset]
  split
  · rfl
  · exact this.2

/-- of two neighbours the second one may go ahead -/
theorem swapP {x y : Oper} (hc : commS env ops sl x y = true) {vx vy : V} {Hx Hy : Hp} (h1 : opVP env orc L sl ops x fr H = some (vx, Hx)) (h3 : opVP env orc L sl ops y (putO x.dst vx fr) Hx = some (vy, Hy)) :
    ∃ K, opVP env orc L sl ops y fr H = some (vy, K) ∧ opVP env orc L sl ops x (putO y.dst vy fr) K = some (vx, Hy) := by
  simp only [commS, Bool.and_eq_true] at hc
  obtain ⟨ha, hc⟩ := hc
  obtain ⟨a1, a2, a3⟩ := Oper.apart_spec ha
  have e1 : opVP env orc L sl ops y (putO x.dst vx fr) Hx = opVP env orc L sl ops y fr Hx := opVP_congr fun t ht => by
    rw [look_put, if_neg]; exact fun hd => a1 t hd ht
  have e2 : ∀ K, opVP env orc L sl ops x (putO y.dst vy fr) K = opVP env orc L sl ops x fr K := fun K => opVP_congr fun t ht => by
    rw [look_put, if_neg]; exact fun hd => a3 t hd ht
  rw [e1] at h3
  simp only [e2]
  simp only [Bool.or_eq_true, Bool.and_eq_true, Bool.not_eq_true'] at hc
  rcases hc with ((hc | hc) | ⟨hc, hc'⟩) | (⟨hc, hc'⟩ | ⟨hc, hn⟩)
  · obtain ⟨rfl, g⟩ := opVP_pure hc h1
    exact ⟨Hy, h3, g Hy⟩
  · obtain ⟨rfl, g⟩ := opVP_pure hc h3
    exact ⟨H, g H, h1⟩
  · have := opVP_calm hc h1
    subst this
    have := opVP_calm hc' h3
    subst this
    exact ⟨_, h3, h1⟩
  · have hx := (load_keep hc h1 (fun _ _ => rfl)).1
    subst hx
    exact ⟨Hy, h3, (load_keep hc h1 fun j hj => soft_keep (by simp only [Bool.or_eq_true]; exact hc') h3 hj).2⟩
  · have hay : isAl y = true := by rcases hc with ⟨_, h⟩ | ⟨_, h⟩ <;> exact h
    rcases opVP_alloc hay h3 with ⟨_, rfl, g⟩ | ⟨z, g1, g2, rfl, g3⟩
    · exact ⟨H, g H, h1⟩
    · rcases hc with ⟨hcx, _⟩ | ⟨hax, _⟩
      · obtain ⟨p1, p2⟩ := opVP_iff.1 h1
        cases hw : wantedV ops x fr with
        | none => simp only [opVP, hw] at h1; cases h1
        | some b =>
          cases b with
          | false =>
            simp only [opVP, hw, Option.some.injEq, Prod.mk.injEq] at h1
            obtain ⟨rfl, rfl⟩ := h1
            exact ⟨_, g3 _ g2 g1, by simp only [opVP, hw]⟩
          | true =>
            have hp := p2 hw
            simp only [opV, hw] at p1
            cases hs : opStep env orc fr H x with
            | none => rw [hs] at p1; cases p1
            | some r =>
              rw [hs] at p1
              cases r with
              | pan _ _ => cases p1
              | val v' K =>
                simp only [Option.some.injEq, Prod.mk.injEq] at p1
                obtain ⟨rfl, rfl⟩ := p1
                obtain ⟨q1, q2, q3⟩ := cl_add (x := z) hcx hp hs g2 (newName_far hn)
                refine ⟨_, g3 H q3 ?_, ?_⟩
                · have := hp
                  rw [protB_cl hcx, List.all_eq_true] at this
                  rw [List.all_eq_true]
                  intro r hr
                  have := this r hr
                  simp only [Bool.and_eq_true] at this
                  exact this.2
                · simp only [opVP, hw, q1, q2]; rfl
      · rcases opVP_alloc hax h1 with ⟨_, rfl, g4⟩ | ⟨u, k1, k2, rfl, k3⟩
        · exact ⟨_, g3 _ g2 g1, g4 _⟩
        · have hne : newName y ≠ newName x := by
            intro he; rw [he] at hn; simp at hn
          rw [hget_hset, if_neg hne] at g2
          refine ⟨_, g3 H g2 k1, ?_⟩
          rw [hset_comm hne]
          exact k3 _ (by rw [hget_hset, if_neg (Ne.symm hne)]; exact k2) (all_some_hset k1)

/-- what may end in a panic -/
def isSto (o : Oper) : Bool := match stTmp o with
  | some _ => true
  | none => false
def mayPan (o : Oper) : Bool := !isPure o.op && !(isLd o || isBx o || isSto o) && !(isAl o)
theorem pan_may {o : Oper} {v : V} (h : PanAt env orc L sl ops o fr H v H') : mayPan o = true := by
  obtain ⟨_, _, h⟩ := h
  unfold mayPan
  cases hp : isPure o.op with
  | true =>
    simp only [opStep, hp] at h
    split at h <;> cases h
  | false =>
    simp only [opStep, hp] at h
    cases hbx : isBx o with
    | true =>
      obtain ⟨t, x, hop⟩ : ∃ t x, o.op = .box t x := by
        unfold isBx at hbx
        split at hbx
        · rename_i t x he; exact ⟨t, x, he⟩
        · cases hbx
      unfold opEff at h
      rw [hop] at h
      simp only at h
      split at h
      · split at h <;> cases h
      · cases h
    | false =>
    cases hsto : isSto o with
    | true =>
      obtain ⟨ty, t, x, hop⟩ : ∃ ty t x, o.op = .store ty (.tmp t) x := by
        unfold isSto at hsto
        cases hs : stTmp o with
        | none => rw [hs] at hsto; cases hsto
        | some t =>
          unfold stTmp at hs
          split at hs
          · rename_i ty t' x he; exact ⟨ty, t', x, he⟩
          · cases hs
      unfold opEff at h
      rw [hop] at h
      simp only at h
      split at h
      · split at h <;> cases h
      · cases h
    | false =>
    cases hl : isLd o with
    | true =>
      obtain ⟨t, ht⟩ := isLd_some hl
      have ho : ∃ ty, o.op = .load ty (.tmp t) := by
        unfold ldTmp at ht
        split at ht
        · rename_i ty t' he; cases ht; exact ⟨ty, he⟩
        · cases ht
      obtain ⟨ty, ho⟩ := ho
      unfold opEff at h
      rw [ho] at h
      simp only at h
      split at h
      · split at h <;> cases h
      · cases h
    | false =>
      cases ha : isAl o with
      | true =>
        obtain ⟨t, ho⟩ := al_op ha
        unfold opEff at h
        rw [ho] at h
        simp only at h
        split at h <;> cases h
      | false => rfl
end
end Go.Vm
/- Drawn regions in which calls keep away from what is loaded beside them: all orders. -/
namespace Go.Vm
set_option linter.unusedSimpArgs false
set_option linter.unusedVariables false
set_option linter.unusedSectionVars false
section
variable {env : Env} {orc : Orc} {ops : Array Oper} {L sl : List Nat} {fr fr' : Fr} {H H' : Hp}

theorem evalP_append {l : List Oper} {r : Res} : ∀ {A : List Oper} {fr : Fr} {H : Hp}, evalOpsP env orc L sl ops (A ++ l) fr H = some r ↔
    (∃ fA HA, evalOpsP env orc L sl ops A fr H = some (.normal, fA, HA) ∧ evalOpsP env orc L sl ops l fA HA = some r) ∨ ∃ v f H', evalOpsP env orc L sl ops A fr H = some (.panic v, f, H') ∧ r = (.panic v, f, H')
  | [], fr, H => by
    simp only [List.nil_append, evalOpsP, Option.some.injEq, Prod.mk.injEq, true_and, reduceCtorEq, false_and, exists_false, or_false]
    exact ⟨fun h => ⟨fr, H, ⟨rfl, rfl⟩, h⟩, fun ⟨_, _, ⟨h1, h2⟩, h⟩ => by subst h1 h2; exact h⟩
  | o :: A, fr, H => by
    rw [List.cons_append, evalP_cons]
    constructor
    · rintro (⟨v, H', h1, h2⟩ | ⟨v, H', h1, h2⟩)
      · rcases evalP_append.1 h2 with ⟨fA, HA, h3, h4⟩ | ⟨v', f, K, h3, h4⟩
        · exact .inl ⟨fA, HA, evalP_cons.2 (.inl ⟨v, H', h1, h3⟩), h4⟩
        · exact .inr ⟨v', f, K, evalP_cons.2 (.inl ⟨v, H', h1, h3⟩), h4⟩
      · exact .inr ⟨v, fr, H', evalP_cons.2 (.inr ⟨v, H', h1, rfl⟩), h2⟩
    · rintro (⟨fA, HA, h1, h2⟩ | ⟨v', f, K, h1, h2⟩)
      · rcases evalP_cons.1 h1 with ⟨v, H', h3, h4⟩ | ⟨v, H', h3, h4⟩
        · exact .inl ⟨v, H', h3, evalP_append.2 (.inl ⟨fA, HA, h4, h2⟩)⟩
        · cases h4
      · rcases evalP_cons.1 h1 with ⟨v, H', h3, h4⟩ | ⟨v, H', h3, h4⟩
        · exact .inl ⟨v, H', h3, evalP_append.2 (.inr ⟨v', f, K, h4, h2⟩)⟩
        · cases h4; exact .inr ⟨v', K, h3, h2⟩

theorem put_swap {x y : Oper} (ha : x.apart ops y = true) (vx vy : V) (fr : Fr) : FrEq (putO y.dst vy (putO x.dst vx fr)) (putO x.dst vx (putO y.dst vy fr)) := by
  obtain ⟨a1, a2, a3⟩ := Oper.apart_spec ha
  intro t
  simp only [look_put]
  by_cases hx : x.dst = some t
  · rw [if_pos hx, if_neg (a2 t hx), if_pos hx]
  · rw [if_neg hx]
    by_cases hy : y.dst = some t
    · rw [if_pos hy, if_neg hx]
    · rw [if_neg hy, if_neg hx]
theorem commS_apart {x y : Oper} (h : commS env ops sl x y = true) : x.apart ops y = true := by
  simp only [commS, Bool.and_eq_true] at h; exact h.1

/-- an operation goes ahead of others that have been carried out -/
theorem bubbleN {y : Oper} : ∀ {A : List Oper} {fr fA : Fr} {H HA : Hp} {vy : V} {Hy : Hp}, (∀ x ∈ A, commS env ops sl x y = true) → evalOpsP env orc L sl ops A fr H = some (.normal, fA, HA) → opVP env orc L sl ops y fA HA = some (vy, Hy) →
    ∃ K f', opVP env orc L sl ops y fr H = some (vy, K) ∧ evalOpsP env orc L sl ops A (putO y.dst vy fr) K = some (.normal, f', Hy) ∧ FrEq (putO y.dst vy fA) f'
  | [], fr, fA, H, HA, vy, Hy, _, h1, h2 => by
    simp only [evalOpsP, Option.some.injEq, Prod.mk.injEq, true_and] at h1
    obtain ⟨rfl, rfl⟩ := h1
    exact ⟨Hy, _, h2, rfl, .refl _⟩
  | x :: A, fr, fA, H, HA, vy, Hy, hc, h1, h2 => by
    rcases evalP_cons.1 h1 with ⟨vx, Hx, h3, h4⟩ | ⟨_, _, _, h4⟩
    · obtain ⟨K, f', h5, h6, h7⟩ := bubbleN (fun z hz => hc z (List.mem_cons_of_mem _ hz)) h4 h2
      obtain ⟨K', h8, h9⟩ := swapP (hc x (List.mem_cons_self ..)) h3 h5
      obtain ⟨f2, h10, h11⟩ := evalP_congr (put_swap (commS_apart (hc x (List.mem_cons_self ..))) vx vy fr) h6
      exact ⟨K', f2, h8, evalP_cons.2 (.inl ⟨vx, K, h9, h10⟩), h7.trans h11⟩
    · cases h4

/-- what goes ahead of a panic leaves the heap alone -/
theorem neutral {x y : Oper} (hc : commS env ops sl x y = true) (hp : isPure y.op = false) (ha : isAl y = false) {v : V} (h : opVP env orc L sl ops x fr H = some (v, H')) : H' = H := by
  simp only [commS, Bool.and_eq_true, Bool.or_eq_true, hp, ha] at hc
  rcases hc.2 with ((hc | hc) | ⟨hc, _⟩) | (⟨hc, _⟩ | ⟨hc, _⟩)
  · exact (opVP_pure hc h).1
  · cases hc
  · exact opVP_calm hc h
  · exact (load_keep hc h (fun _ _ => rfl)).1
  · rcases hc with ⟨_, h⟩ | ⟨_, h⟩ <;> cases h

theorem bubbleY {y : Oper} (hyp : isPure y.op = false) (hya : isAl y = false) {v : V} : ∀ {A : List Oper} {fr fA : Fr} {H HA : Hp}, (∀ x ∈ A, commS env ops sl x y = true) → evalOpsP env orc L sl ops A fr H = some (.normal, fA, HA) → PanAt env orc L sl ops y fA HA v H' →
    PanAt env orc L sl ops y fr H v H'
  | [], fr, fA, H, HA, _, h1, h2 => by
    simp only [evalOpsP, Option.some.injEq, Prod.mk.injEq, true_and] at h1
    obtain ⟨rfl, rfl⟩ := h1
    exact h2
  | x :: A, fr, fA, H, HA, hc, h1, h2 => by
    rcases evalP_cons.1 h1 with ⟨vx, Hx, h3, h4⟩ | ⟨_, _, _, h4⟩
    · have h5 := bubbleY hyp hya (fun z hz => hc z (List.mem_cons_of_mem _ hz)) h4 h2
      have hx := hc x (List.mem_cons_self ..)
      have := neutral hx hyp hya h3
      subst this
      obtain ⟨a1, _, _⟩ := Oper.apart_spec (commS_apart hx)
      exact PanAt_congr (fun t ht => by rw [look_put, if_neg]; exact fun hd => a1 t hd ht) h5
    · cases h4

/-- what has been carried out beside an allocation goes in a heap with one object more, too -/
theorem frameN {x y : Oper} (hc : commS env ops sl x y = true) (hy : isAl y = true) {v : V} {z : Obj} (h : opVP env orc L sl ops x fr H = some (v, H')) (hk : hget (newName y) H' = none) :
    opVP env orc L sl ops x fr (hset (newName y) z H) = some (v, hset (newName y) z H') ∧ hget (newName y) H = none := by
  simp only [commS, Bool.and_eq_true] at hc
  have hyp := (al_kinds hy).2.2
  have hc := hc.2
  simp only [Bool.or_eq_true, Bool.and_eq_true, hyp, Bool.not_eq_true'] at hc
  have hyc : isCalm env y.op = false := by obtain ⟨t, ho⟩ := al_op hy; rw [ho]; rfl
  rcases hc with ((hc | hc) | ⟨_, hc⟩) | (⟨hc, _⟩ | ⟨hc, hn⟩)
  · obtain ⟨rfl, g⟩ := opVP_pure hc h; exact ⟨g _, hk⟩
  · cases hc
  · rw [hyc] at hc; cases hc
  · have hx := (load_keep hc h (fun _ _ => rfl)).1
    subst hx
    refine ⟨?_, hk⟩
    unfold isLdS at hc
    -- the object that is new is not one of those that are loaded from
    cases ht : ldTmp x with
    | none => rw [ht] at hc; cases hc
    | some t =>
      have ho : ∃ ty, x.op = .load ty (.tmp t) := by
        unfold ldTmp at ht
        split at ht
        · rename_i ty t' he; cases ht; exact ⟨ty, he⟩
        · cases ht
      obtain ⟨ty, ho⟩ := ho
      have k1 : isCl x = false := by unfold isCl; rw [ho]
      have k2 : isAl x = false := by unfold isAl; rw [ho]
      have k3 : isBx x = false := by unfold isBx; rw [ho]
      have hpr : ∀ G, protB env L sl fr G x = protB env L sl fr H' x := fun G => by unfold protB; rw [k1, k2, k3]; rfl
      have hp : isPure x.op = false := by rw [ho]; rfl
      have he : ∀ G, opStep env orc fr G x = match vLoad env.T ty (look t fr) G with | some v => some (.val v G) | none => none := fun G => by
        simp only [opStep, hp]
        unfold opEff
        rw [ho]
        simp only [ev]
        rfl
      simp only [opVP, he] at h ⊢
      rw [hpr]
      cases hw : wantedV ops x fr with
      | none => rw [hw] at h; cases h
      | some b =>
        rw [hw] at h
        cases b with
        | false => simp only [Option.some.injEq, Prod.mk.injEq] at h ⊢; exact ⟨h.1, trivial⟩
        | true =>
          simp only at h ⊢
          cases hq : protB env L sl fr H' x with
          | false => rw [hq] at h; cases h
          | true =>
            rw [hq] at h
            simp only at h ⊢
            have hv : ∀ u, vLoad env.T ty (look t fr) H' = some u → vLoad env.T ty (look t fr) (hset (newName y) z H') = some u := by
              intro u hu
              unfold vLoad at hu ⊢
              cases hl : look t fr with
              | ptr r off =>
                rw [hl] at hu
                cases hT : tyOf ty env.T with
                | none => rw [hT] at hu; cases hu
                | some yy =>
                  rw [hT] at hu
                  simp only at hu ⊢
                  have : hget r (hset (newName y) z H') = hget r H' := by
                    rw [hget_hset, if_neg]
                    rintro rfl
                    rw [hk] at hu; cases hu
                  rw [this]; exact hu
              | cptr cs => rw [hl] at hu; cases hT : tyOf ty env.T <;> (rw [hT] at hu; exact hu)
              | _ => rw [hl] at hu; cases hT : tyOf ty env.T <;> (rw [hT] at hu; cases hu)
            cases hu : vLoad env.T ty (look t fr) H' with
            | none => rw [hu] at h; cases h
            | some u =>
              rw [hu] at h
              rw [hv u hu]
              simp only [Option.some.injEq, Prod.mk.injEq] at h ⊢
              exact ⟨h.1, trivial⟩
  · rcases hc with ⟨hcx, _⟩ | ⟨hax, _⟩
    · obtain ⟨p1, p2⟩ := opVP_iff.1 h
      cases hw : wantedV ops x fr with
      | none => simp only [opVP, hw] at h; cases h
      | some b =>
        cases b with
        | false =>
          simp only [opVP, hw, Option.some.injEq, Prod.mk.injEq] at h
          obtain ⟨rfl, rfl⟩ := h
          exact ⟨by simp only [opVP, hw], hk⟩
        | true =>
          have hp := p2 hw
          simp only [opV, hw] at p1
          cases hs : opStep env orc fr H x with
          | none => rw [hs] at p1; cases p1
          | some r =>
            rw [hs] at p1
            cases r with
            | pan _ _ => cases p1
            | val v' K =>
              simp only [Option.some.injEq, Prod.mk.injEq] at p1
              obtain ⟨rfl, rfl⟩ := p1
              obtain ⟨q1, q2, q3⟩ := cl_add (x := z) hcx hp hs hk (newName_far hn)
              exact ⟨by simp only [opVP, hw, q1, q2]; rfl, q3⟩
    · rcases opVP_alloc hax h with ⟨_, rfl, g4⟩ | ⟨u, k1, k2, rfl, k3⟩
      · exact ⟨g4 _, hk⟩
      · have hne : newName y ≠ newName x := by intro he; rw [he] at hn; simp at hn
        rw [hget_hset, if_neg hne] at hk
        refine ⟨?_, hk⟩
        rw [hset_comm hne]
        exact k3 _ (by rw [hget_hset, if_neg (Ne.symm hne)]; exact k2) (all_some_hset k1)

theorem framePan {x y : Oper} (hc : commS env ops sl x y = true) (hy : isAl y = true) {v : V} {z : Obj} (h : PanAt env orc L sl ops x fr H v H') (hk : hget (newName y) H' = none) :
    PanAt env orc L sl ops x fr (hset (newName y) z H) v (hset (newName y) z H') ∧ hget (newName y) H = none ∧ (L.all fun r => isSome (hget r H)) = true := by
  have hm := pan_may h
  have hyp := (al_kinds hy).2.2
  have hyc : isCalm env y.op = false := by obtain ⟨t, ho⟩ := al_op hy; rw [ho]; rfl
  simp only [mayPan, Bool.and_eq_true, Bool.not_eq_true'] at hm
  simp only [commS, Bool.and_eq_true] at hc
  have hc := hc.2
  simp only [Bool.or_eq_true, Bool.and_eq_true, hyp, hm.1.1, hm.2, hyc, Bool.not_eq_true'] at hc
  have hcx : isCl x = true := by
    rcases hc with ((hc | hc) | ⟨_, hc⟩) | (⟨hc, _⟩ | ⟨hc, hn⟩)
    · cases hc
    · cases hc
    · cases hc
    · have := hm.1.2
      simp only [Bool.or_eq_false_iff] at this
      have := this.1.1
      unfold isLdS at hc
      unfold isLd at this
      cases ht : ldTmp x with
      | none => rw [ht] at hc; cases hc
      | some t => rw [ht] at this; cases this
    · rcases hc with ⟨h, _⟩ | ⟨h, _⟩
      · exact h
      · cases h
  have hn : Nat.beq (newName x) (newName y) = false := by
    rcases hc with ((hc | hc) | ⟨_, hc⟩) | (⟨hc, _⟩ | ⟨hc, hn⟩)
    · cases hc
    · cases hc
    · cases hc
    · have := hm.1.2
      simp only [Bool.or_eq_false_iff] at this
      have := this.1.1
      unfold isLdS at hc
      unfold isLd at this
      cases ht : ldTmp x with
      | none => rw [ht] at hc; cases hc
      | some t => rw [ht] at this; cases this
    · exact hn
  obtain ⟨h1, h2, h3⟩ := h
  obtain ⟨q1, q2, q3⟩ := cl_add (x := z) hcx h2 h3 hk (newName_far hn)
  refine ⟨⟨h1, q1, q2⟩, q3, ?_⟩
  rw [protB_cl hcx, List.all_eq_true] at h2
  rw [List.all_eq_true]
  intro r hr
  have := h2 r hr
  simp only [Bool.and_eq_true] at this
  exact this.2

/-- the first operation that may turn the heap has seen the objects that are loaded from -/
theorem seen_back {x y : Oper} (hc : commS env ops sl x y = true) (hy : isAl y = true) {v : V} (h : opVP env orc L sl ops x fr H = some (v, H')) (hs : (L.all fun r => isSome (hget r H')) = true) : (L.all fun r => isSome (hget r H)) = true := by
  have hyp := (al_kinds hy).2.2
  have hyc : isCalm env y.op = false := by obtain ⟨t, ho⟩ := al_op hy; rw [ho]; rfl
  simp only [commS, Bool.and_eq_true] at hc
  have hc := hc.2
  simp only [Bool.or_eq_true, Bool.and_eq_true, hyp, hyc, Bool.not_eq_true'] at hc
  rcases hc with ((hc | hc) | ⟨_, hc⟩) | (⟨hc, _⟩ | ⟨hc, hn⟩)
  · rw [← (opVP_pure hc h).1]; exact hs
  · cases hc
  · cases hc
  · rw [← (load_keep hc h (fun _ _ => rfl)).1]; exact hs
  · rcases hc with ⟨hcx, _⟩ | ⟨hax, _⟩
    · obtain ⟨p1, p2⟩ := opVP_iff.1 h
      cases hw : wantedV ops x fr with
      | none => simp only [opVP, hw] at h; cases h
      | some b =>
        cases b with
        | false =>
          simp only [opVP, hw, Option.some.injEq, Prod.mk.injEq] at h
          rw [h.2]; exact hs
        | true =>
          have hp := p2 hw
          rw [protB_cl hcx, List.all_eq_true] at hp
          rw [List.all_eq_true]
          intro r hr
          have := hp r hr
          simp only [Bool.and_eq_true] at this
          exact this.2
    · rcases opVP_alloc hax h with ⟨_, rfl, g4⟩ | ⟨u, k1, k2, rfl, k3⟩
      · exact hs
      · exact k1

/-- an allocation goes ahead of a panic -/
theorem bubblePan {y : Oper} (hy : isAl y = true) {v : V} {z : Obj} {u : V} : ∀ {A : List Oper} {fr f1 : Fr} {H H1 : Hp}, (∀ x ∈ A, commS env ops sl x y = true) → evalOpsP env orc L sl ops A fr H = some (.panic v, f1, H1) → hget (newName y) H1 = none →
    hget (newName y) H = none ∧ (L.all fun r => isSome (hget r H)) = true ∧ ∃ f2, evalOpsP env orc L sl ops A (putO y.dst u fr) (hset (newName y) z H) = some (.panic v, f2, hset (newName y) z H1)
  | [], fr, f1, H, H1, _, h, _ => by simp only [evalOpsP] at h; cases h
  | x :: A, fr, f1, H, H1, hc, h, hk => by
    have hx := hc x (List.mem_cons_self ..)
    have ha := commS_apart hx
    obtain ⟨a1, a2, a3⟩ := Oper.apart_spec ha
    rcases evalP_cons.1 h with ⟨vx, Hx, h3, h4⟩ | ⟨v', K, h3, h4⟩
    · obtain ⟨g1, g2, f2, g3⟩ := bubblePan hy (fun w hw => hc w (List.mem_cons_of_mem _ hw)) h4 hk
      obtain ⟨k1, k2⟩ := frameN (z := z) hx hy h3 g1
      have k1' : opVP env orc L sl ops x (putO y.dst u fr) (hset (newName y) z H) = some (vx, hset (newName y) z Hx) := by
        rw [← k1]
        exact opVP_congr fun t ht => by rw [look_put, if_neg]; exact fun hd => a3 t hd ht
      obtain ⟨f3, k3, _⟩ := evalP_congr (put_swap ha vx u fr) g3
      exact ⟨k2, seen_back hx hy h3 g2, f3, evalP_cons.2 (.inl ⟨_, _, k1', k3⟩)⟩
    · simp only [Prod.mk.injEq, Ex.panic.injEq] at h4
      obtain ⟨rfl, rfl, rfl⟩ := h4
      obtain ⟨k1, k2, k3⟩ := framePan (z := z) hx hy h3 hk
      refine ⟨k2, k3, _, evalP_cons.2 (.inr ⟨v, _, PanAt_congr (fun t ht => ?_) k1, rfl⟩)⟩
      rw [look_put, if_neg]; exact fun hd => a3 t hd ht
end
end Go.Vm
