/- What the functions under ParseSame compute: texts that were built one by one, joined: ST LV Shelf LJ SE0 SW SE SA SM0 SG SD SX SR SM SH SP0. -/
import Derived.Test.YtmonfppdiehlpaaGreatDoorK3
import Derived.KernelRfl
import Derived.Test.YtmonfppdiehlpaaGreatDoorProg
import Derived.Tactics
import Derived.Tactics2
import Derived.Defers
import Derived.Recover
import Derived.Laws.Pointers
import Derived.Shelf.Strings.Builder1
import Derived.Shelf.Strings.OnBuilder
import Derived.BigCall
import Derived.BigGuard
import Derived.ChangeArms
import Derived.DataReads
import Derived.ChangeStays
import Derived.ReadAgain
/- Types. (Printed by a program.) -/
namespace Go.Proofs.YtmonfppdiehlpaaGreatDoor
set_option linter.unusedSimpArgs false
set_option linter.unusedVariables false
set_option linter.unusedSectionVars false
open Go Go.Vm
set_option maxRecDepth 100000
set_option maxHeartbeats 20000000
set_option linter.unusedVariables false
structure Typ where
  kind : Int
  name : Str
  n : Int
  args : List Typ
mutual
def Typ.sub : Typ → List V
  | ⟨_, _, _, a3⟩ => clTyp a3
def clTyp : List Typ → List V
  | [] => []
  | x :: r => .int .i64 x.kind :: .str x.name :: .int .i64 x.n :: .slice .sealed (List.length x.args) (x.sub) :: clTyp r
end
def c1Typ (x : Typ) : List V := [.int .i64 x.kind, .str x.name, .int .i64 x.n, .slice .sealed (List.length x.args) (clTyp x.args)]
theorem encTyp : IsEnc 4 c1Typ clTyp := ⟨fun _ => rfl, rfl, fun x r => by cases x; rfl⟩
structure Nod where
  op : Int
  s : Str
  n : Int
  t : Typ
  ts : List Typ
  l : List Nod
  at_ : Int
mutual
def Nod.sub : Nod → List V
  | ⟨_, _, _, _, _, a5, _⟩ => clNod a5
def clNod : List Nod → List V
  | [] => []
  | x :: r => .int .i64 x.op :: .str x.s :: .int .i64 x.n :: .int .i64 x.t.kind :: .str x.t.name :: .int .i64 x.t.n :: .slice .sealed (List.length x.t.args) (clTyp x.t.args) :: .slice .sealed (List.length x.ts) (clTyp x.ts) :: .slice .sealed (List.length x.l) (x.sub) :: .int .i64 x.at_ :: clNod r
end
def c1Nod (x : Nod) : List V := [.int .i64 x.op, .str x.s, .int .i64 x.n, .int .i64 x.t.kind, .str x.t.name, .int .i64 x.t.n, .slice .sealed (List.length x.t.args) (clTyp x.t.args), .slice .sealed (List.length x.ts) (clTyp x.ts), .slice .sealed (List.length x.l) (clNod x.l), .int .i64 x.at_]
theorem encNod : IsEnc 10 c1Nod clNod := ⟨fun _ => rfl, rfl, fun x r => by cases x; rfl⟩
structure Flt where
  code : Int
  at_ : Int
def c1Flt (x : Flt) : List V := [.int .i64 x.code, .int .i64 x.at_]
def clFlt : List Flt → List V
  | [] => []
  | x :: r => .int .i64 x.code :: .int .i64 x.at_ :: clFlt r
theorem encFlt : IsEnc 2 c1Flt clFlt := ⟨fun _ => rfl, rfl, fun _ _ => rfl⟩
end Go.Proofs.YtmonfppdiehlpaaGreatDoor
/- guarded(p, f): it calls f; where f stops, the fault of that stop is returned: a contract that makes one call. (Printed by a program.) -/
namespace Go.Proofs.YtmonfppdiehlpaaGreatDoor
set_option linter.unusedSimpArgs false
set_option linter.unusedVariables false
set_option linter.unusedSectionVars false
open Go Go.Vm
set_option maxRecDepth 100000
set_option maxHeartbeats 4000000
set_option linter.unusedVariables false
set_option linter.unusedSimpArgs false

theorem cell_lt {w : World} {b o : Nat} {x : Value} (h : w.cell? ⟨b, o, none⟩ = some x) : b < w.heap.size := cellAt_lt h

theorem catch_stop (b o : Nat) (x y : Int) (fa fb : Int) (u : Value) (older : List PanicEntry) (w : World) (h0 : w.cell? ⟨b, o, none⟩ = some (.int .i64 x)) (h1 : w.cell? ⟨b, o + 1, none⟩ = some (.int .i64 y)) (z0 : w.frozen? ⟨b, o, none⟩ = false) (z1 : w.frozen? ⟨b, o + 1, none⟩ = false) :
    CallsD Tryz.prog 82 #[.pointer (some ⟨b, o, none⟩)] (.panicking ({ v := .iface 110 (.agg #[.int .i64 fa, .int .i64 fb]), recovered := false } :: older)) w fun e u' w' =>
      e = .returned (.tuple #[]) ∧ u' = .panicking ({ v := .iface 110 (.agg #[.int .i64 fa, .int .i64 fb]), recovered := true } :: older) ∧
      w' = ((w.setCell ⟨b, o, none⟩ (.int .i64 fa)).setCell ⟨b, o + 1, none⟩ (.int .i64 fb)).alloc (.cells #[.int .i64 fa, .int .i64 fb] 110) := by
  refine callsD_of_wpS Tryz.func82 rfl fun c₀ cs hu => ?_
  apply wpS_seq
  apply wpS_region
  simp [wpOpsS, go_sem, recoverD, hu, Tryz.ntmps82, Exit.thenS]
  refine wpS_of_wp ?_
  go_wp2
  have hta : (Instr.typeAssert (.iface 110 (.agg #[.int .i64 fa, .int .i64 fb])) 20 110 true).run Tryz.prog w = .ok (.tuple #[.agg #[.int .i64 fa, .int .i64 fb], .bool true]) w := by
    simp only [Instr.typeAssert, Sem.run_bind, run_underlying Tryz.underlying110, Result.andThen_ok]
    simp
  rw [hta]
  simp only [Result.andThen]
  rw [Oper.upon_value]
  have hb := cell_lt h0
  have G : Grew w (w.alloc (.cells #[.int .i64 fa, .int .i64 fb] 110)) := Grew.push w _
  have a0 := (G.cell hb o).trans h0
  have a1 := (G.cell hb (o + 1)).trans h1
  have y0 := (G.frozen hb o).trans z0
  have y1 := (G.frozen hb (o + 1)).trans z1
  unfold cellAt at a0 a1
  have a2 : ((w.alloc (.cells #[.int .i64 fa, .int .i64 fb] 110)).setCell ⟨b, o, none⟩ (.int .i64 fa)).cell? ⟨b, o + 1, none⟩ = some (.int .i64 y) := (World.cell?_setCell_other _ _ _ _ (by simp)).trans a1
  have y2 : ((w.alloc (.cells #[.int .i64 fa, .int .i64 fb] 110)).setCell ⟨b, o, none⟩ (.int .i64 fa)).frozen? ⟨b, o + 1, none⟩ = false := by simp [y1]
  go_wp2
  obtain ⟨a₀, b₀, e₀, d₀, f₀, g₀, h₀⟩ := c₀
  subst hu
  simp [bodyPostS, results, Tryz.results82]

theorem catch_idle (p : Addr) (w : World) :
    CallsD Tryz.prog 82 #[.pointer (some p)] .returning w fun e u' w' => e = .returned (.tuple #[]) ∧ u' = .returning ∧ w' = w := by
  refine callsD_of_wpS Tryz.func82 rfl fun c₀ cs hu => ?_
  apply wpS_seq
  apply wpS_region
  simp [wpOpsS, go_sem, recoverD, hu, Tryz.ntmps82, Exit.thenS]
  refine wpS_of_wp ?_
  go_wp2
  cases c₀
  simp_all [bodyPostS, results, Tryz.results82]

def gClo : List Nat := [42, 75, 78]
def gPre : List V → Hp → Option (Nat × List V × Hp) := fun args H => match args with
  | [.ptr _ _, .func (.func g) a c] => gd (has g gClo) (some (g, a ++ c, sealH H))
  | _ => none
def gPost : List V → Hp → Out → Option Out := fun _ _ o => match o with
  | .ret (.tuple []) H1 => some (.ret (.agg [.int .i64 0, .int .i64 0]) H1)
  | .pan (.iface t (.agg [.int .i64 a, .int .i64 b])) H1 => gd (Nat.beq t 110) (some (.ret (.agg [.int .i64 a, .int .i64 b]) H1))
  | _ => none
theorem clo_known {g : Nat} (h : has g gClo = true) : ∃ fn c, Tryz.prog.funcs[g]? = some fn ∧ (fn.name == "runtime.NumGoroutine") = false ∧ fn.body = some c := by
  have : g = 42 ∨ g = 75 ∨ g = 78 := by
    simp only [has, gClo] at h
    split at h
    · exact .inl (Nat.eq_of_beq_eq_true (by assumption)).symm
    · split at h
      · exact .inr (.inl (Nat.eq_of_beq_eq_true (by assumption)).symm)
      · split at h
        · exact .inr (.inr (Nat.eq_of_beq_eq_true (by assumption)).symm)
        · cases h
  rcases this with rfl | rfl | rfl
  · exact ⟨_, _, Tryz.func42, rfl, rfl⟩
  · exact ⟨_, _, Tryz.func75, rfl, rfl⟩
  · exact ⟨_, _, Tryz.func78, rfl, rfl⟩

theorem agg2 {ρ : Rho} {lab : Lab} {w : World} (a b : Int) : ∀ (i : Nat) (v : V) (x : Value), [V.int .i64 a, .int .i64 b][i]? = some v → [Value.int .i64 a, .int .i64 b][i]? = some x → Rel ρ lab w v x
  | 0, _, _, h, g => by cases h; cases g; exact .int _ _
  | 1, _, _, h, g => by cases h; cases g; exact .int _ _
  | i + 2, _, _, h, g => by simp at h
theorem guarded_via : ViaOk Tryz.prog 41 gPre gPost := by
  refine ⟨fun args H g' l H' o out hp ho ρ lab w xs hc hS hx hcall => ?_, ⟨_, _, Tryz.func41, rfl, rfl⟩⟩
  unfold gPre at hp
  split at hp
  · rename_i args0 r off g0 a c
    obtain ⟨hg, hp⟩ := gd_some hp
    cases hp
    obtain ⟨x1, xr0, rfl, r1, r2⟩ := relL_cons_iff.1 hx
    obtain ⟨x2, xr, rfl, r3, r4⟩ := relL_cons_iff.1 r2
    have : xr = [] := by have := r4.1; simpa using this
    subst this
    cases r3 with
    | func _ _ _ us ys u1 u2 u3 u4 =>
    obtain ⟨fn, cd, k1, k2, k3⟩ := clo_known hg
    have hrun : ∀ args w, (callFunc g' args).run Tryz.prog w = .ok (.enter g' args) w := fun args w => by
      have h1 : fn.name ≠ "runtime.NumGoroutine" := by simpa using k2
      simp [callFunc, k1, h1, k3]
    have G : Grew w (w.alloc (.cells #[.int .i64 0, .int .i64 0] 40)) := Grew.push w _
    have hB : w.heap.size < (w.alloc (.cells #[.int .i64 0, .int .i64 0] 40)).heap.size := by
      show w.heap.size < (w.heap.push _).size
      rw [Array.size_push]; omega
    have hS1 := (hS.mine G hB).sealH
    have hl : RelL ρ lab w (a ++ c) (us ++ ys) := RelL.append ⟨u1, u3⟩ ⟨u2, u4⟩
    have hl1 := hl.carry (mineF G)
    have hK := hcall ρ _ _ (us ++ ys) (canon_sealH _ _ hc) hS1 hl1
    have C0 : (w.alloc (.cells #[.int .i64 0, .int .i64 0] 40)).cell? ⟨w.heap.size, 0, none⟩ = some (.int .i64 0) := by simp
    have C1 : (w.alloc (.cells #[.int .i64 0, .int .i64 0] 40)).cell? ⟨w.heap.size, 1, none⟩ = some (.int .i64 0) := by simp
    have Z0 : (w.alloc (.cells #[.int .i64 0, .int .i64 0] 40)).frozen? ⟨w.heap.size, 0, none⟩ = false := by simp
    have Z1 : (w.alloc (.cells #[.int .i64 0, .int .i64 0] 40)).frozen? ⟨w.heap.size, 1, none⟩ = false := by simp
    have hmf : ∀ (fn : Fn) (first cap : Array Value) (w : World), (Instr.makeFunc fn first cap).run Tryz.prog w = .ok (.func fn first cap) w := fun _ _ _ _ => rfl
    clear hcall hx r1 r2 r4 u3 u4 hl hl1 hS1
    generalize hw1 : w.alloc (.cells #[.int .i64 0, .int .i64 0] 40) = w1 at *
    go_enter_defers Tryz.func41, Tryz.ntmps41
    go_wp2
    refine hK.mono ?_
    intro e w2 hP
    unfold gPost at ho
    split at ho
    · rename_i H1
      cases ho
      cases e with
      | returned x =>
        obtain ⟨ρ', lab', s1, s2, s3, s4, s5, s6⟩ := hP
        have hx0 : x = .tuple #[] := by
          cases s4 with
          | tuple _ zs h1 h2 =>
            have : zs = [] := by simpa using h1
            subst this; rfl
        subst hx0
        obtain ⟨d0, e0⟩ := mine_cell s2 hB 0
        obtain ⟨d1, e1⟩ := mine_cell s2 hB 1
        have d0 := d0.trans C0
        have d1 := d1.trans C1
        have E := Ext.left hS G hB s2 (Wrote.refl _ w2)
        have S := s1.left s2 (Wrote.refl _ w2)
        unfold cellAt at d0 d1
        go_wp2
        refine leaves_cons (f := 82) (args := #[.pointer (some ⟨w.heap.size, 0, none⟩)]) (by simp) (by simp [go_sem]) ?_
        refine (catch_idle ⟨w.heap.size, 0, none⟩ _).mono ?_
        rintro e u' w'' ⟨rfl, rfl, rfl⟩
        simp [Leaves, settle, results, Tryz.results41, go_sem, d0, d1]
        rw [sealH_length] at s3 s6
        exact ⟨ρ', _, S, E, s3, .agg _ [.int .i64 0, .int .i64 0] rfl (agg2 _ _), s5, s6⟩
      | panicked ch => exact hP.elim
      | outgrown => exact hP.elim
    · rename_i t fa fb H1
      obtain ⟨ht, ho⟩ := gd_some ho
      cases ho
      have ht := Nat.eq_of_beq_eq_true ht
      subst ht
      cases e with
      | returned x => exact hP.elim
      | panicked ch =>
        obtain ⟨x, rfl, ρ', lab', s1, s2, s3, s4, s5, s6⟩ := hP
        obtain ⟨xv, rfl, s7⟩ : ∃ xv, x = .iface 110 xv ∧ xv = .agg #[.int .i64 fa, .int .i64 fb] := by
          cases s4 with
          | iface _ _ xv h =>
            refine ⟨xv, rfl, ?_⟩
            cases h with
            | agg _ zs h1 h2 =>
              match zs, h1, h2 with
              | [z0, z1], _, h2 =>
                have q0 := h2 0 _ z0 rfl rfl
                have q1 := h2 1 _ z1 rfl rfl
                cases q0; cases q1; rfl
        subst s7
        obtain ⟨d0, e0⟩ := mine_cell s2 hB 0
        obtain ⟨d1, e1⟩ := mine_cell s2 hB 1
        have d0 := d0.trans C0
        have d1 := d1.trans C1
        have e0 := e0.trans Z0
        have e1 := e1.trans Z1
        unfold cellAt at d0 d1
        have hsz : w.heap.size < w2.heap.size := Nat.lt_of_lt_of_le hB s2.size
        have hW : Wrote w.heap.size w2 (((w2.setCell ⟨w.heap.size, 0, none⟩ (.int .i64 fa)).setCell ⟨w.heap.size, 0 + 1, none⟩ (.int .i64 fb)).alloc (.cells #[.int .i64 fa, .int .i64 fb] 110)) := by
          refine ⟨?_, rfl, rfl, rfl, fun b hb hn => ?_⟩
          · refine Nat.le_trans ?_ (Grew.push _ _).size
            rw [World.size_setCell, World.size_setCell]
            exact Nat.le_refl _
          · refine ((Grew.push _ _).blk b (by rw [World.size_setCell, World.size_setCell]; exact hb)).trans ?_
            rw [heap_setCell_other _ _ _ _ hn, heap_setCell_other _ _ _ _ hn]
        have c0 : (w2.setCell ⟨w.heap.size, 0, none⟩ (.int .i64 fa)).cell? ⟨w.heap.size, 0 + 1, none⟩ = some (.int .i64 0) := (World.cell?_setCell_other _ _ _ _ (by simp)).trans d1
        have f1 : ((w2.setCell ⟨w.heap.size, 0, none⟩ (.int .i64 fa)).setCell ⟨w.heap.size, 0 + 1, none⟩ (.int .i64 fb)).cell? ⟨w.heap.size, 0 + 1, none⟩ = some (.int .i64 fb) := World.cell?_setCell_same _ _ _ c0
        have f0 : ((w2.setCell ⟨w.heap.size, 0, none⟩ (.int .i64 fa)).setCell ⟨w.heap.size, 0 + 1, none⟩ (.int .i64 fb)).cell? ⟨w.heap.size, 0, none⟩ = some (.int .i64 fa) := (World.cell?_setCell_other _ _ _ _ (by simp)).trans (World.cell?_setCell_same _ _ _ d0)
        have hsz2 : w.heap.size < ((w2.setCell ⟨w.heap.size, 0, none⟩ (.int .i64 fa)).setCell ⟨w.heap.size, 0 + 1, none⟩ (.int .i64 fb)).heap.size := by rw [World.size_setCell, World.size_setCell]; exact hsz
        have GT : Grew _ (((w2.setCell ⟨w.heap.size, 0, none⟩ (.int .i64 fa)).setCell ⟨w.heap.size, 0 + 1, none⟩ (.int .i64 fb)).alloc (.cells #[.int .i64 fa, .int .i64 fb] 110)) := Grew.push _ _
        have f0 := (GT.cell hsz2 0).trans f0
        have f1 := (GT.cell hsz2 (0 + 1)).trans f1
        unfold cellAt at f0 f1
        simp only [Nat.zero_add] at f0 f1
        have E := Ext.left hS G hB s2 hW
        have S := s1.left s2 hW
        go_wp2
        refine leaves_cons (f := 82) (args := #[.pointer (some ⟨w.heap.size, 0, none⟩)]) (by simp) (by simp [go_sem]) ?_
        refine (catch_stop w.heap.size 0 0 0 fa fb .nilIface [] w2 d0 d1 e0 e1).mono ?_
        rintro e u' w'' ⟨rfl, rfl, rfl⟩
        simp [Leaves, settle, results, Tryz.results41, go_sem, f0, f1]
        rw [sealH_length] at s3 s6
        exact ⟨ρ', _, S, E, s3, .agg _ [.int .i64 fa, .int .i64 fb] rfl (agg2 _ _), s5, s6⟩
      | outgrown => exact hP.elim
    · cases ho
  · cases hp
end Go.Proofs.YtmonfppdiehlpaaGreatDoor
/-
  DERIVED: THE SHELF's CONTRACTS AT THIS DUMP, IN PLAIN WORDS (tools/lay-plain.mjs out of 'TryzShelf.lean', which tools/lay-shelf.mjs wrote): THE SAME DECLARATIONS UNDER THE SAME NAMES: 'import', 'namespace', 'open', 'def', 'theorem' AND NOTHING ELSE: no command of the shelf's: FOR A HAND-IN. Each laying: the table of numbers ('.._ren') and one theorem, a field a fact of the dump's own or the kernel's comparison; each contract: ONE APPLICATION.
-/
namespace Go.Proofs
set_option linter.unusedSimpArgs false
set_option linter.unusedVariables false
set_option linter.unusedSectionVars false
open Go.Shelf
def Tryz.lays169_ren : Go.Shelf.Ren := ⟨fun | 169 => 60 | n => n, fun | 70 => 80 | 9 => 9 | 0 => 0 | 72 => 83 | 37 => 81 | 127 => 132 | 3 => 3 | 5 => 5 | n => n, fun | n => n⟩
theorem Tryz.lays169 : Go.Proofs.Lays.n169 Tryz.prog Tryz.lays169_ren := {
  mixed := by kernel_rfl
  f169 := Tryz.func60.trans (congrArg some (by kernel_rfl))
  t0 := Tryz.underlying0
  a0 := Tryz.isAgg0
  z0 := Tryz.sizeOf0
  v0 := Tryz.zeroValue0
  t3 := Tryz.underlying3
  a3 := Tryz.isAgg3
  z3 := Tryz.sizeOf3
  v3 := Tryz.zeroValue3
  t9 := Tryz.underlying9
  a9 := Tryz.isAgg9
  z9 := Tryz.sizeOf9
  v9 := Tryz.zeroValue9
  t37 := Tryz.underlying81
  a37 := Tryz.isAgg81
  z37 := Tryz.sizeOf81
  v37 := Tryz.zeroValue81
  t70 := Tryz.underlying80
  a70 := Tryz.isAgg80
  z70 := Tryz.sizeOf80
  v70 := Tryz.zeroValue80
  t72 := Tryz.underlying83
  a72 := Tryz.isAgg83
  z72 := Tryz.sizeOf83
  v72 := Tryz.zeroValue83
  t127 := Tryz.underlying132
  a127 := Tryz.isAgg132
  z127 := Tryz.sizeOf132
  v127 := Tryz.zeroValue132 }
theorem Tryz.Builder_Extra_169 : Builder.Extra Tryz.prog Tryz.lays169_ren := {
  sizeBuilder := by kernel_rfl
  liesBuilder := by kernel_rfl
  t5 := Tryz.underlying5
  a5 := Tryz.isAgg5
  z5 := Tryz.sizeOf5
  v5 := Tryz.zeroValue5
  infoByte := by kernel_rfl
  cellsByte := by kernel_rfl
  sizeByte := by kernel_rfl
  neB5 := by decide }
open Go.RowKit in
/-- (*strings.Builder).String: "String returns the accumulated string.": OF A BUILDER THAT HOLDS AT LEAST ONE BYTE. ✋ THE MODEL FREEZES THOSE BYTES IN THE BUFFER (unsafe.String): a later write INTO them ends the model's run without an answer; a later append BEHIND them goes on. The statement's order of evaluation is drawn: one draw. (LAID: no walk: one application.) -/
theorem Tryz.Builder_String (B b : Nat) (l : List UInt8) (w : World) (h : Lib.IsBuilder 83 5 B b (Lib.byteCells l) w) (h0 : l ≠ []) :
    Calls Tryz.prog 60 #[.pointer (some ⟨b, 0, none⟩)] w fun e w' => e = .returned (.string ⟨l.toArray⟩) ∧ Below B w w' := Any.Builder_String Tryz.lays169 Tryz.Builder_Extra_169 B b l w h h0
open Go.RowKit in
/-- (*strings.Builder).String OF A BUILDER THAT HOLDS NO BYTE: the empty string. (Its buffer is nil, or a row of which it has taken nothing yet; where that row has NO capacity the model lays one new block for unsafe.SliceData's 'some address'.) One draw. (LAID: no walk: one application.) -/
theorem Tryz.Builder_String_empty (B b : Nat) (w : World) (h : Lib.IsBuilder 83 5 B b [] w) (hBw : B ≤ w.heap.size) :
    Calls Tryz.prog 60 #[.pointer (some ⟨b, 0, none⟩)] w fun e w' => e = .returned (.string ⟨#[]⟩) ∧ Below B w w' := Any.Builder_String_empty Tryz.lays169 Tryz.Builder_Extra_169 B b w h hBw
open Go.RowKit in
/-- (*strings.Builder).String: "String returns the accumulated string.": WHATEVER THE BUILDER HOLDS. (LAID: no walk: one application.) -/
theorem Tryz.Builder_String_any (B b : Nat) (l : List UInt8) (w : World) (h : Lib.IsBuilder 83 5 B b (Lib.byteCells l) w) (hBw : B ≤ w.heap.size) :
    Calls Tryz.prog 60 #[.pointer (some ⟨b, 0, none⟩)] w fun e w' => e = .returned (.string ⟨l.toArray⟩) ∧ Below B w w' := Any.Builder_String_any Tryz.lays169 Tryz.Builder_Extra_169 B b l w h hBw
def Tryz.lays156_ren : Go.Shelf.Ren := ⟨fun | 156 => 61 | 165 => 117 | 166 => 57 | 169 => 60 | 240 => 116 | 241 => 179 | 276 => 178 | 277 => 216 | n => n, fun | 31 => 85 | 9 => 9 | 3 => 3 | 4 => 4 | 0 => 0 | 20 => 20 | 72 => 83 | 76 => 91 | 70 => 80 | 37 => 81 | 75 => 90 | 127 => 132 | 164 => 164 | 5 => 5 | 80 => 93 | n => n, fun | n => n⟩
theorem Tryz.lays156 : Go.Proofs.Lays.n156 Tryz.prog Tryz.lays156_ren := {
  mixed := by kernel_rfl
  f156 := Tryz.func61.trans (congrArg some (by kernel_rfl))
  f165 := Tryz.func117.trans (congrArg some (by kernel_rfl))
  f166 := Tryz.func57.trans (congrArg some (by kernel_rfl))
  f169 := Tryz.func60.trans (congrArg some (by kernel_rfl))
  f240 := Tryz.func116.trans (congrArg some (by kernel_rfl))
  f241 := Tryz.func179.trans (congrArg some (by kernel_rfl))
  f276 := Tryz.func178.trans (congrArg some (by kernel_rfl))
  f277 := Tryz.func216.trans (congrArg some (by kernel_rfl))
  t0 := Tryz.underlying0
  a0 := Tryz.isAgg0
  z0 := Tryz.sizeOf0
  v0 := Tryz.zeroValue0
  t3 := Tryz.underlying3
  a3 := Tryz.isAgg3
  z3 := Tryz.sizeOf3
  v3 := Tryz.zeroValue3
  t4 := Tryz.underlying4
  a4 := Tryz.isAgg4
  z4 := Tryz.sizeOf4
  v4 := Tryz.zeroValue4
  t9 := Tryz.underlying9
  a9 := Tryz.isAgg9
  z9 := Tryz.sizeOf9
  v9 := Tryz.zeroValue9
  t20 := Tryz.underlying20
  a20 := Tryz.isAgg20
  z20 := Tryz.sizeOf20
  v20 := Tryz.zeroValue20
  t31 := Tryz.underlying85
  a31 := Tryz.isAgg85
  z31 := Tryz.sizeOf85
  v31 := Tryz.zeroValue85
  t37 := Tryz.underlying81
  a37 := Tryz.isAgg81
  z37 := Tryz.sizeOf81
  v37 := Tryz.zeroValue81
  t70 := Tryz.underlying80
  a70 := Tryz.isAgg80
  z70 := Tryz.sizeOf80
  v70 := Tryz.zeroValue80
  t72 := Tryz.underlying83
  a72 := Tryz.isAgg83
  z72 := Tryz.sizeOf83
  v72 := Tryz.zeroValue83
  t75 := Tryz.underlying90
  a75 := Tryz.isAgg90
  z75 := Tryz.sizeOf90
  v75 := Tryz.zeroValue90
  t76 := Tryz.underlying91
  a76 := Tryz.isAgg91
  z76 := Tryz.sizeOf91
  v76 := Tryz.zeroValue91
  t127 := Tryz.underlying132
  a127 := Tryz.isAgg132
  z127 := Tryz.sizeOf132
  v127 := Tryz.zeroValue132
  t164 := Tryz.underlying164
  a164 := Tryz.isAgg164
  z164 := Tryz.sizeOf164
  v164 := Tryz.zeroValue164 }
theorem Tryz.Builder_Extra_156 : Builder.Extra Tryz.prog Tryz.lays156_ren := {
  sizeBuilder := by kernel_rfl
  liesBuilder := by kernel_rfl
  t5 := Tryz.underlying5
  a5 := Tryz.isAgg5
  z5 := Tryz.sizeOf5
  v5 := Tryz.zeroValue5
  infoByte := by kernel_rfl
  cellsByte := by kernel_rfl
  sizeByte := by kernel_rfl
  neB5 := by decide }
open Go.RowKit in
/-- No element: the empty string; the world is as it was. (Whatever the slice's address and capacity: a nil slice too.) (LAID: no walk: one application.) -/
theorem Tryz.strings_Join_none (a : Option Addr) (c : Nat) (sep : ByteArray) (w : World) :
    Calls Tryz.prog 61 #[.slice a 0 c, .string sep] w fun e w' => e = .returned (.string ⟨#[]⟩) ∧ w' = w := Any.strings_Join_none Tryz.lays156 Tryz.Builder_Extra_156 a c sep w
open Go.RowKit in
/-- strings.Join: "Join concatenates the elements of its first argument to create a single string. The separator string sep is placed between elements in the resulting string.": HOWEVER MANY ELEMENTS. Below the heap's end the world is as it was. (LAID: no walk: one application.) -/
theorem Tryz.strings_Join (bk o c : Nat) (xs : List ByteArray) (sep : ByteArray) (w : World) (hcells : ∀ (j : Nat) x, xs[j]? = some x → w.cell? ⟨bk, o + j, none⟩ = some (.string x)) (hbk : bk < w.heap.size) (hN : xs.length ≤ 140737488355328) (hcap : xs.length ≤ c) (hlen : (Lib.join (xs.map (·.data.toList)) sep.data.toList).length ≤ 140737488355328) :
    Calls Tryz.prog 61 #[.slice (some ⟨bk, o, none⟩) xs.length c, .string sep] w fun e w' => e = .returned (.string ⟨(Lib.join (xs.map (·.data.toList)) sep.data.toList).toArray⟩) ∧ Below w.heap.size w w' := Any.strings_Join Tryz.lays156 Tryz.Builder_Extra_156 bk o c xs sep w hcells hbk hN hcap hlen
def Tryz.layB_ren : Go.Shelf.Ren := ⟨fun | 167 => 59 | 156 => 61 | 165 => 117 | 166 => 57 | 169 => 60 | 240 => 116 | 241 => 179 | 276 => 178 | 277 => 216 | n => n, fun | 31 => 85 | 9 => 9 | 3 => 3 | 4 => 4 | 0 => 0 | 20 => 20 | 72 => 83 | 76 => 91 | 70 => 80 | 37 => 81 | 75 => 90 | 127 => 132 | 164 => 164 | 5 => 5 | 80 => 93 | n => n, fun | n => n⟩
theorem Tryz.layB167 : Go.Proofs.Lays.n167 Tryz.prog Tryz.layB_ren := {
  mixed := by kernel_rfl
  f167 := Tryz.func59.trans (congrArg some (by kernel_rfl))
  f240 := Tryz.func116.trans (congrArg some (by kernel_rfl))
  f276 := Tryz.func178.trans (congrArg some (by kernel_rfl))
  t0 := Tryz.underlying0
  a0 := Tryz.isAgg0
  z0 := Tryz.sizeOf0
  v0 := Tryz.zeroValue0
  t4 := Tryz.underlying4
  a4 := Tryz.isAgg4
  z4 := Tryz.sizeOf4
  v4 := Tryz.zeroValue4
  t5 := Tryz.underlying5
  a5 := Tryz.isAgg5
  z5 := Tryz.sizeOf5
  v5 := Tryz.zeroValue5
  t9 := Tryz.underlying9
  a9 := Tryz.isAgg9
  z9 := Tryz.sizeOf9
  v9 := Tryz.zeroValue9
  t20 := Tryz.underlying20
  a20 := Tryz.isAgg20
  z20 := Tryz.sizeOf20
  v20 := Tryz.zeroValue20
  t37 := Tryz.underlying81
  a37 := Tryz.isAgg81
  z37 := Tryz.sizeOf81
  v37 := Tryz.zeroValue81
  t70 := Tryz.underlying80
  a70 := Tryz.isAgg80
  z70 := Tryz.sizeOf80
  v70 := Tryz.zeroValue80
  t72 := Tryz.underlying83
  a72 := Tryz.isAgg83
  z72 := Tryz.sizeOf83
  v72 := Tryz.zeroValue83
  t75 := Tryz.underlying90
  a75 := Tryz.isAgg90
  z75 := Tryz.sizeOf90
  v75 := Tryz.zeroValue90
  t164 := Tryz.underlying164
  a164 := Tryz.isAgg164
  z164 := Tryz.sizeOf164
  v164 := Tryz.zeroValue164 }
theorem Tryz.layB_extra : Builder.Extra Tryz.prog Tryz.layB_ren := {
  sizeBuilder := by kernel_rfl
  liesBuilder := by kernel_rfl
  t5 := Tryz.underlying5
  a5 := Tryz.isAgg5
  z5 := Tryz.sizeOf5
  v5 := Tryz.zeroValue5
  infoByte := by kernel_rfl
  cellsByte := by kernel_rfl
  sizeByte := by kernel_rfl
  neB5 := by decide }
open Go.RowKit in
theorem Tryz.Builder_WriteByte (B b : Nat) (bs : List Value) (c : Int) (w : World) (h : Lib.IsBuilder 83 5 B b bs w) (hlen : bs.length + 1 ≤ 140737488355328) (hBw : B ≤ w.heap.size) :
    Calls Tryz.prog 59 #[.pointer (some ⟨b, 0, none⟩), .int .u8 c] w fun e w' => e = .returned .nilIface ∧ (Lib.BuilderAt 83 5 B b (.pointer (some ⟨b, 0, none⟩)) (bs ++ [.int .u8 c]) w' ∧ Below B w w') := Any.Builder_WriteByte Tryz.layB167 Tryz.layB_extra B b bs c w h hlen hBw
open Go.RowKit in
theorem Tryz.Builder_WriteString (B b : Nat) (bs : List Value) (s : ByteArray) (w : World) (h : Lib.IsBuilder 83 5 B b bs w) (hlen : bs.length + s.size ≤ 140737488355328) (hBw : B ≤ w.heap.size) :
    Calls Tryz.prog 57 #[.pointer (some ⟨b, 0, none⟩), .string s] w fun e w' => e = .returned (.tuple #[.int .i64 s.size, .nilIface]) ∧ (Lib.BuilderAt 83 5 B b (.pointer (some ⟨b, 0, none⟩)) (bs ++ Lib.strCells s) w' ∧ Below B w w') := Any.Builder_WriteString { Tryz.lays156 with } Tryz.Builder_Extra_156 B b bs s w h hlen hBw
end Go.Proofs
/- strings.Join as a contract. -/
namespace Go.Proofs.YtmonfppdiehlpaaGreatDoor
set_option linter.unusedSimpArgs false
set_option linter.unusedVariables false
set_option linter.unusedSectionVars false
open Go Go.Vm
set_option linter.unusedVariables false
def strsOf : List V → Option (List (List UInt8))
  | [] => some []
  | .str s :: r => match strsOf r with
    | some l => some (s :: l)
    | none => none
  | _ => none
def joinI : List V → Hp → Option Out := fun args H => match args with
  | [.slice _ n cs, .str sep] => match strsOf cs with
    | some l => gd (eqN l.length n && leN n 140737488355328 && leN (Lib.join l sep).length 140737488355328) (some (.ret (.str (Lib.join l sep)) H))
    | none => none
  | _ => none
theorem strsOf_get : ∀ {cs : List V} {l : List (List UInt8)}, strsOf cs = some l → cs = l.map .str
  | [], l, h => by cases h; rfl
  | c :: r, l, h => by
    cases c with
    | str s =>
      simp only [strsOf] at h
      split at h
      · rename_i l' hl
        cases h
        rw [strsOf_get hl]; rfl
      · cases h
    | _ => cases h
theorem below_grew {w w' : World} (h : RowKit.Below w.heap.size w w') : Grew w w' := ⟨h.size, h.os, h.tape, h.output, fun b hb => h.block b hb⟩
theorem join_ok : IntrOk Tryz.prog 61 joinI := by
  refine ⟨fun args H out h ρ lab w xs hc hS hx => ?_, ⟨_, _, Tryz.func61, rfl, rfl⟩⟩
  unfold joinI at h
  split at h
  · rename_i ow n cs sep
    split at h
    · rename_i l hl
      obtain ⟨h1, h2⟩ := gd_some h
      cases h2
      simp only [Bool.and_eq_true] at h1
      obtain ⟨⟨h1, h2⟩, h3⟩ := h1
      have h1 := eqN_iff h1
      have h2 := leN_iff h2
      have h3 := leN_iff h3
      obtain ⟨x1, r1, rfl, a1, a2⟩ := relL_cons_iff.1 hx
      obtain ⟨x2, r2, rfl, a3, a4⟩ := relL_cons_iff.1 a2
      have : r2 = [] := by have := a4.1; simpa using this
      subst this
      cases a3
      have hcs := strsOf_get hl
      cases a1 with
      | slice _ _ _ xs b o ao cap g1 g2 g3 g4 g5 g6 g7 g8 g9 =>
      rcases Nat.eq_zero_or_pos n with h0 | h0
      · subst h0
        have : l = [] := List.length_eq_zero_iff.1 h1
        subst this
        refine (Tryz.strings_Join_none ao cap ⟨⟨sep⟩⟩ w).mono fun e w' ⟨he, hw⟩ => ?_
        subst he; subst hw
        exact ⟨ρ, lab, hS, Ext.refl _ _, ⟨fun _ _ _ h => h, fun _ _ _ _ h => h⟩, .str _, hc, Nat.le_refl _⟩
      · have hao := g3 h0
        subst hao
        have hget : ∀ (j : Nat) (x : ByteArray), (l.map (fun s => (⟨⟨s⟩⟩ : ByteArray)))[j]? = some x → cellAt w b (o + j) = some (.string x) := by
          intro j x hj
          rw [List.getElem?_map] at hj
          cases hq : l[j]? with
          | none => rw [hq] at hj; cases hj
          | some s =>
            rw [hq] at hj
            cases hj
            have hcj : cs[j]? = some (.str s) := by rw [hcs, List.getElem?_map, hq]; rfl
            have hj2 : j < xs.length := by
              rw [g1]
              rcases Nat.lt_or_ge j cs.length with h | h
              · exact h
              · rw [List.getElem?_eq_none h] at hcj; cases hcj
            have hxj : xs[j]? = some xs[j] := by simp [hj2]
            have hr := g6 j _ _ hcj hxj
            have hf := (g5 j _ hxj).cell
            generalize xs[j] = z at hr hf
            cases hr
            exact hf
        have hlen : (l.map (fun s => (⟨⟨s⟩⟩ : ByteArray))).length = n := by rw [List.length_map]; exact h1
        have hmap : (l.map (fun s => (⟨⟨s⟩⟩ : ByteArray))).map (·.data.toList) = l := by rw [List.map_map]; exact List.map_id l
        have hb : b < w.heap.size := by
          have hj2 : 0 < (l.map (fun s => (⟨⟨s⟩⟩ : ByteArray))).length := by omega
          exact cellAt_lt (hget 0 _ (List.getElem?_eq_getElem hj2))
        have K := Tryz.strings_Join b o cap (l.map (fun s => (⟨⟨s⟩⟩ : ByteArray))) ⟨⟨sep⟩⟩ w hget hb (by omega) (by omega) (by rw [hmap]; exact h3)
        rw [hlen, hmap] at K
        refine K.mono fun e w' ⟨he, hw⟩ => ?_
        subst he
        have G := below_grew hw
        exact ⟨ρ, lab, hS.grew G, G.ext lab, ⟨fun _ _ _ h => h, fun _ _ _ _ h => h⟩, .str _, hc, Nat.le_refl _⟩
    · cases h
  · cases h
end Go.Proofs.YtmonfppdiehlpaaGreatDoor
/- This seat: types, loop heads, joins. (Printed by a program.) -/
namespace Go.Proofs.YtmonfppdiehlpaaGreatDoor
set_option linter.unusedSimpArgs false
set_option linter.unusedVariables false
set_option linter.unusedSectionVars false
open Go Go.Vm
def T : List (Nat × Ty) := [
  (1, ⟨.func, 1, 8, [.nilFunc]⟩),
  (2, ⟨.int .i64, 1, 8, [.int .i64 0]⟩),
  (3, ⟨.int .i64, 1, 8, [.int .i64 0]⟩),
  (4, ⟨.bool, 1, 1, [.bool false]⟩),
  (5, ⟨.int .u8, 1, 1, [.int .u8 0]⟩),
  (9, ⟨.string, 1, 16, [.str []]⟩),
  (24, ⟨.slice 26, 1, 24, [.slice .nil 0 []]⟩),
  (26, ⟨.struct [(3, 0), (9, 1), (3, 2), (24, 3)], 4, 56, [.int .i64 0, .str [], .int .i64 0, .slice .nil 0 []]⟩),
  (27, ⟨.slice 29, 1, 24, [.slice .nil 0 []]⟩),
  (29, ⟨.struct [(3, 0), (9, 1), (3, 2), (26, 3), (24, 7), (27, 8), (3, 9)], 10, 144, [.int .i64 0, .str [], .int .i64 0, .int .i64 0, .str [], .int .i64 0, .slice .nil 0 [], .slice .nil 0 [], .slice .nil 0 [], .int .i64 0]⟩),
  (30, ⟨.slice 40, 1, 24, [.slice .nil 0 []]⟩),
  (38, ⟨.int .i64, 1, 8, [.int .i64 0]⟩),
  (40, ⟨.struct [(38, 0), (3, 1)], 2, 16, [.int .i64 0, .int .i64 0]⟩),
  (47, ⟨.func, 1, 8, [.nilFunc]⟩),
  (53, ⟨.func, 1, 8, [.nilFunc]⟩),
  (54, ⟨.ptr 59, 1, 8, [.nilptr]⟩),
  (57, ⟨.slice 72, 1, 24, [.slice .nil 0 []]⟩),
  (59, ⟨.struct [(57, 0), (3, 1), (3, 2)], 3, 40, [.slice .nil 0 [], .int .i64 0, .int .i64 0]⟩),
  (72, ⟨.struct [(3, 0), (9, 1), (3, 2), (3, 3)], 4, 40, [.int .i64 0, .str [], .int .i64 0, .int .i64 0]⟩),
  (81, ⟨.slice 5, 1, 24, [.slice .nil 0 []]⟩),
  (84, ⟨.ptr 87, 1, 8, [.nilptr]⟩),
  (85, ⟨.slice 9, 1, 24, [.slice .nil 0 []]⟩),
  (87, ⟨.struct [(85, 0)], 1, 24, [.slice .nil 0 []]⟩),
  (88, ⟨.func, 1, 8, [.nilFunc]⟩),
  (90, ⟨.iface, 1, 16, [.nilIface]⟩),
  (100, ⟨.func, 1, 8, [.nilFunc]⟩),
  (110, ⟨.struct [(40, 0)], 2, 16, [.int .i64 0, .int .i64 0]⟩),
  (116, ⟨.slice 3, 1, 24, [.slice .nil 0 []]⟩),
  (145, ⟨.slice 174, 1, 24, [.slice .nil 0 []]⟩),
  (149, ⟨.ptr 153, 1, 8, [.nilptr]⟩),
  (151, ⟨.struct [(9, 0), (3, 1)], 2, 24, [.str [], .int .i64 0]⟩),
  (153, ⟨.struct [(151, 0), (57, 2), (40, 3)], 5, 64, [.str [], .int .i64 0, .slice .nil 0 [], .int .i64 0, .int .i64 0]⟩),
  (157, ⟨.func, 1, 8, [.nilFunc]⟩),
  (174, ⟨.struct [(85, 0), (4, 1)], 2, 32, [.slice .nil 0 [], .bool false]⟩),
  (197, ⟨.ptr 151, 1, 8, [.nilptr]⟩),
  (200, ⟨.array 32 9, 32, 512, [.str [], .str [], .str [], .str [], .str [], .str [], .str [], .str [], .str [], .str [], .str [], .str [], .str [], .str [], .str [], .str [], .str [], .str [], .str [], .str [], .str [], .str [], .str [], .str [], .str [], .str [], .str [], .str [], .str [], .str [], .str [], .str []]⟩),
  (202, ⟨.array 27 9, 27, 432, [.str [], .str [], .str [], .str [], .str [], .str [], .str [], .str [], .str [], .str [], .str [], .str [], .str [], .str [], .str [], .str [], .str [], .str [], .str [], .str [], .str [], .str [], .str [], .str [], .str [], .str [], .str []]⟩),
  (206, ⟨.array 24 5, 24, 24, [.int .u8 0, .int .u8 0, .int .u8 0, .int .u8 0, .int .u8 0, .int .u8 0, .int .u8 0, .int .u8 0, .int .u8 0, .int .u8 0, .int .u8 0, .int .u8 0, .int .u8 0, .int .u8 0, .int .u8 0, .int .u8 0, .int .u8 0, .int .u8 0, .int .u8 0, .int .u8 0, .int .u8 0, .int .u8 0, .int .u8 0, .int .u8 0]⟩),
  (207, ⟨.int .u64, 1, 8, [.int .u64 0]⟩),
  (262, ⟨.int .i64, 1, 8, [.int .i64 0]⟩)]
def keep : Nat → Nat → List Nat
  | 6, 130003 => [2, 3, 11]
  | 13, 7 => [2, 4, 6, 7, 8]
  | 16, 130003 => [2, 3, 4, 51]
  | 28, 5 => [1, 2, 3, 4]
  | 31, 3 => [2, 3, 9, 10, 11]
  | 49, 4 => [0, 1, 5]
  | 49, 100009 => []
  | 50, 4 => [0, 1, 2, 7]
  | 50, 100009 => []
  | 51, 3 => [1, 2, 5, 6]
  | 51, 9 => [1, 2, 5, 7]
  | 51, 100007 => [1, 2, 5]
  | 51, 100009 => [1, 2, 5]
  | 51, 100013 => [1, 5]
  | 51, 190022 => [1, 2, 5, 6, 22]
  | 51, 190053 => [1, 2, 5, 7, 53]
  | 52, 3 => [1, 2, 5, 6]
  | 52, 7 => [1, 2, 5, 7]
  | 52, 100007 => [1, 2, 5]
  | 52, 100011 => [5]
  | 52, 190025 => [1, 2, 5, 6, 25]
  | 52, 190048 => [1, 2, 5, 7, 48]
  | 56, 13 => [0, 48, 49, 50]
  | 56, 21 => [0, 69, 70, 71]
  | 56, 37 => [0, 118, 119, 120]
  | 71, 4 => [0, 1, 2, 14, 15]
  | 71, 100010 => []
  | 72, 4 => [0, 1, 2, 14, 15]
  | 72, 100010 => []
  | 79, 8 => [0, 2, 3]
  | 90, 4 => [0, 3]
  | 107, 3 => [1, 2, 5, 6]
  | 107, 100007 => [1, 5]
  | 107, 190016 => [1, 2, 5, 6, 16]
  | 108, 5 => [1, 2, 5, 6]
  | 108, 100005 => [1, 2, 5]
  | 108, 100009 => [5]
  | 108, 130004 => [1, 2, 5, 18]
  | 108, 190030 => [1, 2, 5, 6, 30]
  | 111, 3 => [1, 5, 11, 12, 13]
  | 111, 6 => [1, 5, 7, 11, 12, 13, 17, 18, 19]
  | 114, 5 => [0, 3, 23, 24, 25]
  | 114, 15 => [0, 52, 53, 54]
  | 129, 1 => [0, 2, 8, 9, 10]
  | 144, 3 => [0, 2, 6, 7, 14, 15]
  | 144, 6 => [0, 2, 6, 7, 9, 14, 15]
  | 146, 5 => [0, 1, 4, 5, 6]
  | 146, 9 => [0, 1, 4, 7]
  | 148, 2 => [0, 1, 2, 7]
  | 151, 4 => [0, 3]
  | 155, 2 => [0, 1, 7, 8]
  | 174, 3 => [0, 10, 11, 12]
  | 189, 40 => [0, 140, 141, 142]
  | 197, 4 => [0, 2, 3, 4]
  | 199, 0 => [0]
  | 208, 3 => [0, 3, 4]
  | 210, 5 => [0, 3]
  | 212, 2 => [0, 3]
  | 223, 27 => [0, 2, 3]
  | 227, 2 => [0, 1, 5]
  | 231, 2 => [0, 1, 5, 6]
  | 286, 10 => [5, 6, 47, 48, 49]
  | _, _ => []
def cut : Nat → Nat → Bool
  | 6, 30003 => true
  | 16, 30003 => true
  | 49, 9 => true
  | 50, 9 => true
  | 51, 7 => true
  | 51, 9 => true
  | 51, 13 => true
  | 51, 90022 => true
  | 51, 90053 => true
  | 52, 7 => true
  | 52, 11 => true
  | 52, 90025 => true
  | 52, 90048 => true
  | 71, 10 => true
  | 72, 10 => true
  | 107, 7 => true
  | 107, 90016 => true
  | 108, 5 => true
  | 108, 9 => true
  | 108, 30004 => true
  | 108, 90030 => true
  | _, _ => false
def moreL : List Nat := [31, 39, 40, 42, 43, 56, 58, 64, 68, 76, 79, 81, 83, 86, 87, 88, 89, 90, 93, 109, 110, 111, 114, 115, 123, 127, 129, 142, 143, 144, 145, 146, 147, 148, 150, 151, 152, 153, 154, 174, 175, 176, 189, 197, 198, 199, 200, 202, 205, 207, 208, 209, 210, 211, 212, 215, 223, 226, 227, 230, 231, 232, 233, 245, 274, 286]
def tagc : Nat → Nat → Bool
  | f, _ => has f moreL
def argT : Nat → Nat → Bool
  | f, _ => has f moreL
def slk : Nat → Nat → List (Nat × Nat)
  | _, _ => []
def sep : Nat → Nat → Option (List Nat × List Nat)
  | 13, 3 => some ([0, 1, 2, 3, 4], [5, 1000002])
  | 39, 2 => some ([0, 1, 2, 3, 5, 4, 6, 7], [5])
  | 43, 12 => some ([0, 1, 2, 3, 4, 5, 6], [30])
  | 43, 22 => some ([0, 1, 2, 3, 4, 5, 6], [64])
  | 43, 27 => some ([0, 1, 2, 3, 4, 5, 6], [79])
  | 83, 3 => some ([0, 1, 2, 3, 4, 5, 6, 7, 8, 9, 10, 11, 12, 13], [32, 28, 24])
  | 86, 3 => some ([0, 1, 2, 3, 4, 5, 6, 7], [7])
  | 144, 7 => some ([0, 1, 2, 3, 4, 5, 6, 7, 8, 9, 10, 11, 12, 13, 14, 15], [77, 75, 72, 68])
  | 144, 9 => some ([0, 1, 3, 4, 5, 6, 2, 7, 8, 9], [])
  | 146, 11 => some ([0, 2, 3, 1, 4, 5], [7])
  | 150, 5 => some ([0, 1, 2, 3, 4, 5, 6], [15])
  | 150, 13 => some ([0, 1, 2, 3, 4, 5, 6], [41])
  | 153, 3 => some ([0, 1, 2, 3, 4, 5, 6, 7, 8, 9, 10, 11], [20, 18, 14])
  | 197, 5 => some ([0, 2, 3, 4, 5, 1, 6, 7, 8], [4, 17])
  | 197, 8 => some ([0, 1, 2, 3, 4, 5, 6], [25])
  | 197, 12 => some ([0, 1, 2, 3, 4, 5, 6, 7], [38, 36])
  | 197, 14 => some ([0, 1, 2, 3, 4, 5, 6], [48])
  | 223, 26 => some ([0, 1, 2, 3, 4, 5, 6, 7], [77])
  | 223, 28 => some ([0, 1, 2, 3, 4, 5, 6, 7], [86])
  | 233, 18 => some ([0, 1, 2, 3, 4, 5, 6, 7], [56])
  | 233, 37 => some ([0, 1, 2, 3, 4, 5, 6, 7], [112])
  | 233, 45 => some ([0, 1, 2, 3, 4, 5, 6, 7], [144])
  | _, _ => none
def mask : Nat → Nat → List Nat
  | 13, 3 => [0, 0, 2, 1, 15]
  | 39, 2 => [0, 0, 2, 7, 15, 0, 31, 127]
  | 43, 12 => [0, 1, 0, 4, 15, 31, 63]
  | 43, 22 => [0, 1, 0, 4, 15, 31, 63]
  | 43, 27 => [0, 1, 0, 4, 15, 31, 63]
  | 83, 3 => [0, 1, 3, 7, 0, 16, 48, 112, 0, 496, 1023, 2047, 0, 8191]
  | 86, 3 => [0, 1, 0, 4, 12, 31, 63, 127]
  | 144, 7 => [0, 1, 3, 7, 0, 16, 48, 112, 255, 511, 1023, 0, 2048, 8191, 0, 32767]
  | 144, 9 => [0, 0, 2, 0, 0, 16, 56, 127, 0, 511]
  | 146, 11 => [0, 1, 0, 4, 15, 31]
  | 150, 5 => [0, 1, 0, 4, 15, 31, 63]
  | 150, 13 => [0, 1, 0, 4, 15, 31, 63]
  | 153, 3 => [0, 1, 3, 7, 0, 16, 48, 112, 255, 511, 0, 2047]
  | 197, 5 => [0, 1, 0, 4, 0, 16, 63, 0, 255]
  | 197, 8 => [0, 1, 0, 4, 15, 31, 63]
  | 197, 12 => [0, 1, 0, 4, 0, 16, 63, 127]
  | 197, 14 => [0, 1, 0, 4, 15, 31, 63]
  | 223, 26 => [0, 1, 0, 4, 12, 31, 63, 127]
  | 223, 28 => [0, 1, 0, 4, 12, 31, 63, 127]
  | 233, 18 => [0, 1, 0, 4, 12, 31, 63, 127]
  | 233, 37 => [0, 1, 0, 4, 12, 31, 63, 127]
  | 233, 45 => [0, 1, 0, 4, 12, 31, 63, 127]
  | _, _ => []
def okL : List Nat := [6, 12, 13, 16, 17, 28, 29, 30, 31, 38, 39, 40, 42, 43, 49, 50, 51, 52, 56, 58, 64, 68, 70, 71, 72, 76, 79, 81, 83, 86, 87, 88, 89, 90, 93, 94, 107, 108, 109, 110, 111, 114, 115, 123, 127, 129, 131, 142, 143, 144, 145, 146, 147, 148, 150, 151, 152, 153, 154, 155, 174, 175, 176, 189, 193, 197, 198, 199, 200, 202, 204, 205, 206, 207, 208, 209, 210, 211, 212, 215, 222, 223, 225, 226, 227, 229, 230, 231, 232, 233, 241, 245, 274, 286]
def lookL : List Nat := [40]
def quietL : List Nat := [6, 12, 13, 16, 17, 20, 28, 29, 30, 38, 49, 50, 51, 52, 70, 71, 72, 94, 107, 108, 131, 155, 193, 204, 206, 222, 225, 229, 241]
def frzL : List Nat := [28]
def tagL : List Nat := [] ++ moreL
def argL : List Nat := [] ++ moreL
theorem tys : tysB Tryz.prog T = true := by kernel_rfl
theorem mixed : Tryz.prog.follows .mixedOrders = true := by kernel_rfl
def intr0 : Nat → Option Hand
  | 61 => some (.plain joinI)
  | 41 => some (.via gPre gPost)
  | _ => none
noncomputable def env0 : Env := { P := Tryz.prog, T := T, keep := keep, byref := fun _ _ => none, meth := fun _ _ => none, tags := fun g => has g tagL, argTags := fun g => has g argL, quiet := fun g => has g quietL, loose := fun _ => false, ok := fun g => has g okL, cut := cut, tagc := tagc, argT := argT, sep := sep, mask := mask, look := fun g => has g lookL, frz := fun g => has g frzL, slk := slk, full := true, intr := intr0 }
theorem codes0 : codesB env0 okL = true := by kernel_rfl
theorem methNo0 : MethOk env0 := by
  intro _ _ _ h
  cases h
theorem envOk0 : EnvOk env0 := ⟨methNo0, tysB_ok tys, mixed, codesB_ok (fun _ h => h) codes0, (fun g h hg => by simp only [env0, intr0] at hg; split at hg <;> first | (cases hg; done) | (cases hg; exact join_ok)), (fun g pre post hg => by simp only [env0, intr0] at hg; split at hg <;> first | (cases hg; done) | (cases hg; exact guarded_via))⟩
end Go.Proofs.YtmonfppdiehlpaaGreatDoor
/- parse.Print as a contract, over what its callees do. (Printed by a program.) -/
namespace Go.Proofs.YtmonfppdiehlpaaGreatDoor
set_option linter.unusedSimpArgs false
set_option linter.unusedVariables false
set_option linter.unusedSectionVars false
open Go Go.Vm Go.RowKit Go.Lib
set_option maxRecDepth 100000
set_option maxHeartbeats 8000000
set_option linter.unusedVariables false
set_option linter.unusedSimpArgs false
theorem nf_rel0 {ρ : Rho} {lab : Lab} {w : World} {v : V} {x : Value} (h : Rel ρ lab w v x) (hn : NF v) : Rel rho0 lab0 w v x := NF.rel (fun _ _ _ => rfl) h hn
theorem hidW {p : Prop} (h : p) : Hid p := h

/-- the line of a declaration: its cells, its text -/
def lineOf (c : List V) (s : List UInt8) : Prop := ∃ H1 H2, E env0 (.call 56 [.ptr 0 0, .agg c]) hp1 = some (.ret (.tuple []) H1) ∧ E env0 (.call 58 [.ptr 0 0]) H1 = some (.ret (.str s) H2)
def printed (l : List (List UInt8)) : List UInt8 := (l.map (· ++ [10])).flatten
theorem printed_take {l : List (List UInt8)} {k : Nat} {s : List UInt8} (h : l[k]? = some s) : printed (l.take (k + 1)) = printed (l.take k) ++ s ++ [10] := by
  unfold printed
  rw [List.take_add_one, h]
  simp
theorem printed_le (l : List (List UInt8)) (k : Nat) : (printed (l.take k)).length ≤ (printed l).length := by
  have h : printed l = printed (l.take k) ++ printed (l.drop k) := by
    unfold printed
    rw [← List.flatten_append, ← List.map_append, List.take_append_drop]
  rw [h, List.length_append]; omega

theorem bld_kept {T e : TypeId} {B0 b : Nat} {bs : List Value} {w w' : World} (h : IsBuilder T e B0 b bs w) (hk : ∀ k, k < w.heap.size → w'.heap[k]? = w.heap[k]?) : IsBuilder T e B0 b bs w' := by
  have key : ∀ {p : Value}, BuilderAt T e B0 b p bs w → BuilderAt T e B0 b p bs w' := by
    rintro p ⟨h1, v, h2, h3, h4⟩
    have hb : b < w.heap.size := by
      rcases Nat.lt_or_ge b w.heap.size with h | h
      · exact h
      · rw [Array.getElem?_eq_none h] at h2; cases h2
    refine ⟨h1, v, (hk b hb).trans h2, ?_, h4⟩
    refine ⟨h3.1, ?_⟩
    rcases h3.2 with h5 | ⟨g, cap, cur, h5, h6, h7, h8⟩
    · exact .inl h5
    · have hg : g < w.heap.size := by
        rcases Nat.lt_or_ge g w.heap.size with h | h
        · exact h
        · rw [Array.getElem?_eq_none h] at h7; cases h7
      exact .inr ⟨g, cap, cur, h5, h6, (hk g hg).trans h7, h8⟩
  rcases h with h | h
  · exact .inl (key h)
  · exact .inr (key h)

theorem fresh_below (T e : TypeId) (B0 : Nat) (w : World) (hB : B0 ≤ w.heap.size) : IsBuilder T e B0 w.heap.size [] (w.alloc (.cells #[.pointer none, .slice none 0 0] T)) := by
  have key : ∀ {p : Value}, BuilderAt T e w.heap.size w.heap.size p [] (w.alloc (.cells #[.pointer none, .slice none 0 0] T)) → BuilderAt T e B0 w.heap.size p [] (w.alloc (.cells #[.pointer none, .slice none 0 0] T)) := by
    rintro p ⟨h1, v, h2, h3, h4⟩
    refine ⟨hB, v, h2, ⟨h3.1, ?_⟩, h4⟩
    rcases h3.2 with h5 | ⟨g, cp, cur, h5, h6, r⟩
    · exact .inl h5
    · exact .inr ⟨g, cp, cur, h5, by omega, r⟩
  rcases fresh_isBuilder T e w with h | h
  · exact .inl (key h)
  · exact .inr (key h)
/-- what is known of the k-th child -/
structure Kid (w : World) (b o : Nat) (s : List UInt8) (k : Nat) : Prop where
  ex : ∃ c y0 y1 y2 y3 y4 y5 y6 y7 y8 y9, w.cell? ⟨b, o + k * 10, none⟩ = some y0 ∧ w.cell? ⟨b, o + k * 10 + 1, none⟩ = some y1 ∧ w.cell? ⟨b, o + k * 10 + 2, none⟩ = some y2 ∧ w.cell? ⟨b, o + k * 10 + 3, none⟩ = some y3 ∧
    w.cell? ⟨b, o + k * 10 + 4, none⟩ = some y4 ∧ w.cell? ⟨b, o + k * 10 + 5, none⟩ = some y5 ∧ w.cell? ⟨b, o + k * 10 + 6, none⟩ = some y6 ∧ w.cell? ⟨b, o + k * 10 + 7, none⟩ = some y7 ∧ w.cell? ⟨b, o + k * 10 + 8, none⟩ = some y8 ∧ w.cell? ⟨b, o + k * 10 + 9, none⟩ = some y9 ∧
    Rel rho0 lab0 w (.agg c) (.agg #[y0, y1, y2, y3, y4, y5, y6, y7, y8, y9]) ∧ lineOf c s ∧ ∀ y ∈ [y0, y1, y2, y3, y4, y5, y6, y7, y8, y9], y.oneCell' = true

theorem below_down {a b : Nat} {w w' : World} (h : a ≤ b) (hB : Below b w w') : Below a w w' := ⟨hB.os, hB.tape, hB.output, hB.size, fun k hk => hB.block k (by omega)⟩
theorem store_new (w : World) (cs : Array Value) (t : TypeId) (i : Nat) (v : Value) (hi : i < cs.size) (hv : v.oneCell' = true) : (store ⟨w.heap.size, i, none⟩ v).run Tryz.prog (w.alloc (.cells cs t)) = .ok () (w.alloc (.cells (cs.setIfInBounds i v) t)) := by
  have h1 : (w.alloc (.cells cs t)).cell? ⟨w.heap.size, i, none⟩ = some cs[i] := by simp [hi]
  have h2 : (w.alloc (.cells cs t)).frozen? ⟨w.heap.size, i, none⟩ = false := by simp
  rw [run_store _ _ _ _ _ hv]
  simp [stored, go_sem, h1, h2, World.setCell_alloc_new]
theorem print_walk (v0 v1 v2 v3 v4 v5 v6 v7 v9 : Value) (ao : Option Addr) (b o cap : Nat) (l : List (List UInt8)) (w : World) (hn : l.length ≤ cap) (hao : 0 < l.length → ao = some ⟨b, o, none⟩)
    (hb : 0 < l.length → b < w.heap.size) (hN : l.length ≤ 140737488355328) (hK : ∀ (k : Nat) s, l[k]? = some s → Kid w b o s k) (hlen : (printed l).length ≤ 140737488355328) :
    Calls Tryz.prog 20 #[.agg #[v0, v1, v2, v3, v4, v5, v6, v7, .slice ao l.length cap, v9]] w fun e w' => e = .returned (.string ⟨(printed l).toArray⟩) ∧ Below w.heap.size w w' := by
  have HK := hidW hK
  have Hlen := hidW hlen
  have Hao := hidW hao
  have Hb := hidW hb
  clear hK hlen hao hb
  go_enter Tryz.func20, Tryz.ntmps20
  go_wp2_with fail
  go_loopw [10] (fun i wr => ∃ k : Nat, k ≤ l.length ∧ i = .int .i64 k ∧ Hid (IsBuilder 83 5 w.heap.size (w.heap.size + 1) (byteCells (printed (l.take k))) wr) ∧ Hid (Below w.heap.size w wr)) (fun i _ => l.length - (RowKit.intOf i).toNat)
  case atStart =>
    refine ⟨0, Nat.zero_le _, rfl, hidW ?_, hidW ?_⟩
    · have := fresh_below 83 5 w.heap.size (w.alloc (.cells #[v0, v1, v2, v3, v4, v5, v6, v7, .slice ao l.length cap, v9] 29)) (by rw [World.size_alloc]; omega)
      rw [World.size_alloc] at this
      exact this
    · exact ((Below.refl w.heap.size w).alloc (Nat.le_refl _) _).alloc (by rw [World.size_alloc]; omega) _
  case round =>
    obtain ⟨k, hk, rfl, HB, HW⟩ := hrel
    by_cases hkn : k < l.length
    · obtain ⟨s, hs⟩ : ∃ s, l[k]? = some s := ⟨l[k], List.getElem?_eq_getElem hkn⟩
      have hao := Hao.out (by omega)
      subst hao
      have hbw := Hb.out (by omega)
      obtain ⟨c, y0, y1, y2, y3, y4, y5, y6, y7, y8, y9, c0, c1, c2, c3, c4, c5, c6, c7, c8, c9, hr, hline, hone⟩ := (HK.out k s hs).ex
      have cc : ∀ j, wr.cell? ⟨b, j, none⟩ = w.cell? ⟨b, j, none⟩ := fun j => HW.out.cell (p := ⟨b, j, none⟩) hbw
      rw [← cc] at c0 c1 c2 c3 c4 c5 c6 c7 c8 c9
      obtain ⟨H1, H2, q1, q2⟩ := hline
      have Q1 := hidW q1
      have Q2 := hidW q2
      have HR := hidW hr
      have Hs := hidW hs
      have hBw := HW.out.size
      clear q1 q2 hr hs cc
      go_wp2_with fail
      rw [store_new _ _ _ _ _ (by simp) (hone _ (by simp))]
      simp only [Result.andThen]
      repeat (rw [store_new _ _ _ _ _ (by simp) (hone _ (by simp))]; simp only [Result.andThen])
      have hset : ((((((((((#[Value.int .i64 0, .string { data := #[] }, .int .i64 0, .int .i64 0, .string { data := #[] }, .int .i64 0, .slice none 0 0, .slice none 0 0, .slice none 0 0, .int .i64 0].setIfInBounds 0 y0).setIfInBounds 1 y1).setIfInBounds 2 y2).setIfInBounds 3 y3).setIfInBounds 4 y4).setIfInBounds 5 y5).setIfInBounds 6 y6).setIfInBounds 7 y7).setIfInBounds 8 y8).setIfInBounds 9 y9) = #[y0, y1, y2, y3, y4, y5, y6, y7, y8, y9] := by simp
      rw [hset]
      clear hset
      go_wp2_with fail
      have hsz : ((wr.alloc (.cells #[y0, y1, y2, y3, y4, y5, y6, y7, y8, y9] 29)).alloc (.cells #[.slice none 0 0] 87)).heap.size = wr.heap.size + 2 := by rw [World.size_alloc, World.size_alloc]
      have hold : ∀ j, j < wr.heap.size → ((wr.alloc (.cells #[y0, y1, y2, y3, y4, y5, y6, y7, y8, y9] 29)).alloc (.cells #[.slice none 0 0] 87)).heap[j]? = wr.heap[j]? := fun j hj =>
        (alloc_old _ _ j (by rw [World.size_alloc]; omega)).trans (alloc_old _ _ j hj)
      have hcW : ((wr.alloc (.cells #[y0, y1, y2, y3, y4, y5, y6, y7, y8, y9] 29)).alloc (.cells #[.slice none 0 0] 87)).cell? ⟨wr.heap.size + 1, 0, none⟩ = some (.slice none 0 0) := by
        have := World.cell?_alloc_new (wr.alloc (.cells #[y0, y1, y2, y3, y4, y5, y6, y7, y8, y9] 29)) #[.slice none 0 0] 87 0
        rw [World.size_alloc] at this
        exact this
      have hzW : ((wr.alloc (.cells #[y0, y1, y2, y3, y4, y5, y6, y7, y8, y9] 29)).alloc (.cells #[.slice none 0 0] 87)).frozen? ⟨wr.heap.size + 1, 0, none⟩ = false := by
        have := World.frozen?_alloc_new (wr.alloc (.cells #[y0, y1, y2, y3, y4, y5, y6, y7, y8, y9] 29)) #[.slice none 0 0] 87 0
        rw [World.size_alloc] at this
        exact this
      refine (two_calls envOk0 Q1.out Q2.out (w0 := w) (w := ((wr.alloc (.cells #[y0, y1, y2, y3, y4, y5, y6, y7, y8, y9] 29)).alloc (.cells #[.slice none 0 0] 87))) (B := wr.heap.size + 1) (by omega) (fun j hj => (hold j (by omega)).trans (HW.out.block j hj)) hcW hzW HR.out).mono ?_
      rintro e w1 ⟨rfl, hw1, C2⟩
      have CC := hidW C2
      clear C2 hcW hzW
      go_wp2_with fail
      refine CC.out.mono ?_
      rintro e w2 ⟨rfl, hw2⟩
      have hk2 : ∀ j, j < wr.heap.size → w2.heap[j]? = wr.heap[j]? := fun j hj => (hw2.blk j (by omega) (by omega)).trans (hold j hj)
      have hs2 : wr.heap.size ≤ w2.heap.size := by have := hw2.size; omega
      have hlen := Hlen.out
      have hlk := printed_le l (k + 1)
      have hpt := printed_take Hs.out
      rw [hpt, List.length_append, List.length_append, List.length_singleton] at hlk
      have HB2 := hidW (bld_kept HB.out hk2)
      have HW2 := hidW (⟨hw2.os, hw2.tape, hw2.output, hs2, fun j hj => hk2 j (by omega)⟩ : Below wr.heap.size wr w2)
      have Hpt := hidW hpt
      clear hw1 hw2 hk2 CC hold hsz hpt
      go_wp2_with fail
      refine (Tryz.Builder_WriteString w.heap.size (w.heap.size + 1) _ ⟨⟨s⟩⟩ w2 HB2.out (by rw [byteCells_length]; simp only [ByteArray.size]; simp; omega) (by omega)).mono ?_
      rintro e w3 ⟨rfl, h3, hb3⟩
      have H3 := hidW h3
      have Hb3 := hidW hb3
      clear h3 hb3
      go_wp2_with fail
      refine (Tryz.Builder_WriteByte w.heap.size (w.heap.size + 1) _ 10 w3 (.inr H3.out) (by rw [List.length_append, byteCells_length, strCells_length]; simp only [ByteArray.size]; simp; omega) (by have := Hb3.out.size; omega)).mono ?_
      rintro e w4 ⟨rfl, h4, hb4⟩
      have hnext : byteCells (printed (l.take k)) ++ strCells ⟨⟨s⟩⟩ ++ [.int .u8 10] = byteCells (printed (l.take (k + 1))) := by
        rw [Hpt.out, strCells_eq, byteCells_append, byteCells_append]
        rfl
      rw [hnext] at h4
      have H4 := hidW (Or.inr h4 : IsBuilder 83 5 w.heap.size (w.heap.size + 1) _ w4)
      have Hb4 := hidW ((HW.out.trans (below_down hBw HW2.out)).trans (Hb3.out.trans hb4))
      clear h4 hb4 hnext
      go_wp2
      exact ⟨⟨k + 1, by omega, by go_num, H4, Hb4⟩, by simp [RowKit.intOf]; omega⟩
    · have hke : k = l.length := by omega
      subst hke
      have hB' := HB.out
      rw [List.take_length] at hB'
      have hBw := HW.out.size
      have HB2 := hidW hB'
      clear hB'
      go_wp2_with fail
      refine (Tryz.Builder_String_any w.heap.size (w.heap.size + 1) _ wr HB2.out hBw).mono ?_
      rintro e w5 ⟨rfl, hb5⟩
      have Hb5 := hidW (HW.out.trans hb5)
      clear hb5
      go_wp2
      go_ret
      exact ⟨rfl, Hb5.out⟩

theorem lineOf_det {c : List V} {s s' : List UInt8} (h : lineOf c s) (g : lineOf c s') : s = s' := by
  obtain ⟨H1, H2, a1, a2⟩ := h
  obtain ⟨K1, K2, b1, b2⟩ := g
  rw [a1] at b1
  cases b1
  rw [a2] at b2
  cases b2
  rfl
/-- the lines of children that lie one behind the other -/
inductive Lines : List V → List (List UInt8) → Prop
  | nil : Lines [] []
  | cons (c r : List V) (s : List UInt8) (l : List (List UInt8)) : c.length = 10 → lineOf c s → Lines r l → Lines (c ++ r) (s :: l)
theorem Lines.det {cs : List V} {l : List (List UInt8)} (h : Lines cs l) : ∀ {l'}, Lines cs l' → l = l' := by
  induction h with
  | nil =>
    intro l' g
    generalize hq : ([] : List V) = q at g
    cases g with
    | nil => rfl
    | cons c r s l h1 h2 h3 =>
      have := congrArg List.length hq
      rw [List.length_append] at this
      simp at this
      omega
  | cons c r s l h1 h2 h3 ih =>
    intro l' g
    generalize hq : c ++ r = q at g
    cases g with
    | nil =>
      have := congrArg List.length hq
      rw [List.length_append, h1] at this
      simp only [List.length_nil] at this
      omega
    | cons c' r' s' l'' g1 g2 g3 =>
      obtain ⟨rfl, rfl⟩ := List.append_inj hq (by rw [h1, g1])
      rw [lineOf_det h2 g2, ih g3]
theorem Lines.get {cs : List V} {l : List (List UInt8)} (h : Lines cs l) : ∀ {k : Nat} {s : List UInt8}, l[k]? = some s → lineOf ((cs.drop (k * 10)).take 10) s ∧ k * 10 + 10 ≤ cs.length := by
  induction h with
  | nil => intro k s h; simp at h
  | cons c r s0 l h1 h2 h3 ih =>
    intro k s hk
    cases k with
    | zero =>
      simp only [List.getElem?_cons_zero, Option.some.injEq] at hk
      subst hk
      refine ⟨?_, by rw [List.length_append]; omega⟩
      rw [Nat.zero_mul, List.drop_zero, List.take_append_of_le_length (by omega), List.take_of_length_le (by omega)]
      exact h2
    | succ k =>
      simp only [List.getElem?_cons_succ] at hk
      obtain ⟨g1, g2⟩ := ih hk
      refine ⟨?_, by rw [List.length_append]; omega⟩
      rw [show (k + 1) * 10 = c.length + k * 10 from by omega, ← List.drop_drop, List.drop_left]
      exact g1
noncomputable def printI : List V → Hp → Option Out := fun args H => match args with
  | [.agg [_, _, _, _, _, _, _, _, .slice _ n cs, _]] => @dite _ (∃ l, Lines cs l ∧ l.length = n ∧ l.length ≤ 140737488355328 ∧ (printed l).length ≤ 140737488355328) (Classical.propDecidable _) (fun h => some (.ret (.str (printed h.choose)) H)) (fun _ => none)
  | _ => none
theorem printI_eq {c0 c1 c2 c3 c4 c5 c6 c7 c9 : V} {ow : Own} {n : Nat} {cs : List V} {l : List (List UInt8)} {H : Hp} (h : Lines cs l) (hn : l.length = n) (hN : l.length ≤ 140737488355328) (hl : (printed l).length ≤ 140737488355328) :
    printI [.agg [c0, c1, c2, c3, c4, c5, c6, c7, .slice ow n cs, c9]] H = some (.ret (.str (printed l)) H) := by
  have hex : ∃ l, Lines cs l ∧ l.length = n ∧ l.length ≤ 140737488355328 ∧ (printed l).length ≤ 140737488355328 := ⟨l, h, hn, hN, hl⟩
  have he : hex.choose = l := (h.det hex.choose_spec.1).symm
  simp only [printI]
  rw [dif_pos hex, he]
theorem ten {α : Type} (l : List α) (h : l.length = 10) : ∃ y0 y1 y2 y3 y4 y5 y6 y7 y8 y9, l = [y0, y1, y2, y3, y4, y5, y6, y7, y8, y9] := by
  match l, h with
  | [y0, y1, y2, y3, y4, y5, y6, y7, y8, y9], _ => exact ⟨_, _, _, _, _, _, _, _, _, _, rfl⟩
theorem print_ok : IntrOk Tryz.prog 20 printI := by
  refine ⟨fun args H out h ρ lab w xs hc hS hx => ?_, ⟨_, _, Tryz.func20, rfl, rfl⟩⟩
  unfold printI at h
  split at h
  · rename_i c0 c1 c2 c3 c4 c5 c6 c7 ow n cs c9
    split at h
    · rename_i hex
      cases h
      obtain ⟨hL, hn, hN, hlen⟩ := hex.choose_spec
      generalize hex.choose = l at hL hn hN hlen
      obtain ⟨x1, r1, rfl, a1, a2⟩ := relL_cons_iff.1 hx
      have : r1 = [] := by have := a2.1; simpa using this
      subst this
      cases a1 with
      | agg _ vs e1 e2 =>
      obtain ⟨v0, v1, v2, v3, v4, v5, v6, v7, v8, v9, rfl⟩ := ten vs (by rw [e1]; rfl)
      have q8 := e2 8 _ _ rfl rfl
      cases q8 with
      | slice _ _ _ ys b o ao cap g1 g2 g3 g4 g5 g6 g7 g8 g9 =>
      subst hn
      have K := print_walk v0 v1 v2 v3 v4 v5 v6 v7 v9 ao b o cap l w g2 g3 (fun h0 => ?_) hN (fun k s hk => ⟨?_⟩) hlen
      · refine K.mono fun e w' ⟨he, hw⟩ => ?_
        subst he
        have G : Grew w w' := ⟨hw.size, hw.os, hw.tape, hw.output, fun b hb => hw.block b hb⟩
        exact ⟨ρ, lab, hS.grew G, G.ext lab, ⟨fun _ _ _ h => h, fun _ _ _ _ h => h⟩, .str _, hc, Nat.le_refl _⟩
      · obtain ⟨_, h2⟩ := hL.get (List.getElem?_eq_getElem h0)
        have hy : 0 < ys.length := by rw [g1]; omega
        have := g5 0 ys[0] (by simp [hy])
        exact cellAt_lt this.cell
      · obtain ⟨h1, h2⟩ := hL.get hk
        have hlen2 : ((ys.drop (k * 10)).take 10).length = 10 := by
          rw [List.length_take, List.length_drop, g1]; omega
        obtain ⟨y0, y1, y2, y3, y4, y5, y6, y7, y8, y9, hy⟩ := ten _ hlen2
        have get : ∀ j, j < 10 → ∀ y, [y0, y1, y2, y3, y4, y5, y6, y7, y8, y9][j]? = some y → ys[k * 10 + j]? = some y := by
          intro j hj y hyj
          rw [← hy, List.getElem?_take, if_pos hj, List.getElem?_drop] at hyj
          exact hyj
        have cell : ∀ j, j < 10 → ∀ y, [y0, y1, y2, y3, y4, y5, y6, y7, y8, y9][j]? = some y → w.cell? ⟨b, o + k * 10 + j, none⟩ = some y := by
          intro j hj y hyj
          have := (g5 _ _ (get j hj y hyj)).cell
          rw [← Nat.add_assoc] at this
          exact this
        refine ⟨(cs.drop (k * 10)).take 10, y0, y1, y2, y3, y4, y5, y6, y7, y8, y9, cell 0 (by omega) _ rfl, cell 1 (by omega) _ rfl, cell 2 (by omega) _ rfl, cell 3 (by omega) _ rfl, cell 4 (by omega) _ rfl, cell 5 (by omega) _ rfl, cell 6 (by omega) _ rfl, cell 7 (by omega) _ rfl, cell 8 (by omega) _ rfl, cell 9 (by omega) _ rfl, ?_, h1, ?_⟩
        · refine .agg _ [y0, y1, y2, y3, y4, y5, y6, y7, y8, y9] ?_ (fun i v x hv hx => ?_)
          · rw [List.length_take, List.length_drop]
            show 10 = _
            omega
          · have hi : i < 10 := by
              rcases Nat.lt_or_ge i 10 with h | h
              · exact h
              · rw [List.getElem?_eq_none (by simpa using h)] at hx; cases hx
            rw [List.getElem?_take, if_pos hi, List.getElem?_drop] at hv
            exact nf_rel0 (g6 _ _ _ hv (get i hi x hx)) (g9 v (List.mem_of_getElem? hv))
        · intro y hyy
          obtain ⟨j, hj, rfl⟩ := List.mem_iff_getElem.1 hyy
          exact g8 _ (List.mem_of_getElem? (get j (by simpa using hj) _ (by simp [hj])))
    · cases h
  · cases h
end Go.Proofs.YtmonfppdiehlpaaGreatDoor
/- The table of this seat, with all contracts. (Printed by a program.) -/
namespace Go.Proofs.YtmonfppdiehlpaaGreatDoor
set_option linter.unusedSimpArgs false
set_option linter.unusedVariables false
set_option linter.unusedSectionVars false
open Go Go.Vm
noncomputable def intrF : Nat → Option Hand
  | 61 => some (.plain joinI)
  | 20 => some (.plain printI)
  | 41 => some (.via gPre gPost)
  | _ => none
noncomputable def env : Env := { P := Tryz.prog, T := T, keep := keep, byref := fun _ _ => none, meth := fun _ _ => none, tags := fun g => has g tagL, argTags := fun g => has g argL, quiet := fun g => has g quietL, loose := fun _ => false, ok := fun g => has g okL, cut := cut, tagc := tagc, argT := argT, sep := sep, mask := mask, look := fun g => has g lookL, frz := fun g => has g frzL, slk := slk, full := true, intr := intrF }
theorem codes : codesB env okL = true := by kernel_rfl
theorem methNo : MethOk env := by
  intro _ _ _ h
  cases h
theorem envOk : EnvOk env := ⟨methNo, tysB_ok tys, mixed, codesB_ok (fun _ h => h) codes, (fun g h hg => by simp only [env, intrF] at hg; split at hg <;> first | (cases hg; done) | (cases hg; exact join_ok) | (cases hg; exact print_ok)), (fun g pre post hg => by simp only [env, intrF] at hg; split at hg <;> first | (cases hg; done) | (cases hg; exact guarded_via))⟩
end Go.Proofs.YtmonfppdiehlpaaGreatDoor
/- The first example of the chapter: what Module gives of it, and how that is printed: by the kernel. (Printed by a program.) -/
namespace Go.Proofs.YtmonfppdiehlpaaGreatDoor
set_option linter.unusedSimpArgs false
set_option linter.unusedVariables false
set_option linter.unusedSectionVars false
open Go Go.Vm
set_option maxRecDepth 100000
def srcA : List UInt8 := [102, 117, 110, 99, 32, 102, 40, 120, 58, 32, 73, 110, 116, 41, 32, 45, 62, 32, 73, 110, 116, 32, 123, 32, 114, 101, 116, 117, 114, 110, 32, 120, 32, 43, 32, 50, 32, 42, 32, 51, 59, 32, 125]
def decA : List V := [.int .i64 7, .str [102], .int .i64 1, .int .i64 1, .str [], .int .i64 0, .slice .sealed 0 [], .slice .sealed 0 [], .slice .sealed 2 [.int .i64 10, .str [120], .int .i64 0, .int .i64 1, .str [], .int .i64 0, .slice .sealed 0 [], .slice .sealed 0 [], .slice .sealed 0 [], .int .i64 7, .int .i64 20, .str [], .int .i64 0, .int .i64 0, .str [], .int .i64 0, .slice .sealed 0 [], .slice .sealed 0 [], .slice .sealed 1 [.int .i64 28, .str [], .int .i64 0, .int .i64 0, .str [], .int .i64 0, .slice .sealed 0 [], .slice .sealed 0 [], .slice .sealed 1 [.int .i64 64, .str [43], .int .i64 0, .int .i64 0, .str [], .int .i64 0, .slice .sealed 0 [], .slice .sealed 0 [], .slice .sealed 2 [.int .i64 54, .str [120], .int .i64 0, .int .i64 0, .str [], .int .i64 0, .slice .sealed 0 [], .slice .sealed 0 [], .slice .sealed 0 [], .int .i64 31, .int .i64 64, .str [42], .int .i64 0, .int .i64 0, .str [], .int .i64 0, .slice .sealed 0 [], .slice .sealed 0 [], .slice .sealed 2 [.int .i64 50, .str [], .int .i64 2, .int .i64 0, .str [], .int .i64 0, .slice .sealed 0 [], .slice .sealed 0 [], .slice .sealed 0 [], .int .i64 35, .int .i64 50, .str [], .int .i64 3, .int .i64 0, .str [], .int .i64 0, .slice .sealed 0 [], .slice .sealed 0 [], .slice .sealed 0 [], .int .i64 39], .int .i64 35], .int .i64 31], .int .i64 24], .int .i64 22], .int .i64 0]
def cellsA : List V := [.int .i64 1, .str [], .int .i64 0, .int .i64 0, .str [], .int .i64 0, .slice .sealed 0 [], .slice .sealed 0 [], .slice .sealed 1 [.int .i64 7, .str [102], .int .i64 1, .int .i64 1, .str [], .int .i64 0, .slice .sealed 0 [], .slice .sealed 0 [], .slice .sealed 2 [.int .i64 10, .str [120], .int .i64 0, .int .i64 1, .str [], .int .i64 0, .slice .sealed 0 [], .slice .sealed 0 [], .slice .sealed 0 [], .int .i64 7, .int .i64 20, .str [], .int .i64 0, .int .i64 0, .str [], .int .i64 0, .slice .sealed 0 [], .slice .sealed 0 [], .slice .sealed 1 [.int .i64 28, .str [], .int .i64 0, .int .i64 0, .str [], .int .i64 0, .slice .sealed 0 [], .slice .sealed 0 [], .slice .sealed 1 [.int .i64 64, .str [43], .int .i64 0, .int .i64 0, .str [], .int .i64 0, .slice .sealed 0 [], .slice .sealed 0 [], .slice .sealed 2 [.int .i64 54, .str [120], .int .i64 0, .int .i64 0, .str [], .int .i64 0, .slice .sealed 0 [], .slice .sealed 0 [], .slice .sealed 0 [], .int .i64 31, .int .i64 64, .str [42], .int .i64 0, .int .i64 0, .str [], .int .i64 0, .slice .sealed 0 [], .slice .sealed 0 [], .slice .sealed 2 [.int .i64 50, .str [], .int .i64 2, .int .i64 0, .str [], .int .i64 0, .slice .sealed 0 [], .slice .sealed 0 [], .slice .sealed 0 [], .int .i64 35, .int .i64 50, .str [], .int .i64 3, .int .i64 0, .str [], .int .i64 0, .slice .sealed 0 [], .slice .sealed 0 [], .slice .sealed 0 [], .int .i64 39], .int .i64 35], .int .i64 31], .int .i64 24], .int .i64 22], .int .i64 0], .int .i64 0]
def hpA : Hp := [(0, .row [.slice (.tag 1) 22 [.str [102, 117, 110, 99], .str [102], .str [40], .str [120], .str [58], .str [73, 110, 116], .str [41], .str [45, 62], .str [73, 110, 116], .str [123], .str [114, 101, 116, 117, 114, 110], .str [40], .str [120], .str [43], .str [40], .str [50], .str [42], .str [51], .str [41], .str [41], .str [59], .str [125]]]), (1, .tip 1 22)]
def hpB : Hp := [(0, .row [.slice (.tag 1) 22 [.str [102, 117, 110, 99], .str [102], .str [40], .str [120], .str [58], .str [73, 110, 116], .str [41], .str [45, 62], .str [73, 110, 116], .str [123], .str [114, 101, 116, 117, 114, 110], .str [40], .str [120], .str [43], .str [40], .str [50], .str [42], .str [51], .str [41], .str [41], .str [59], .str [125]]]), (1, .tip 1 22)]
def lineA : List UInt8 := [102, 117, 110, 99, 32, 102, 32, 40, 32, 120, 32, 58, 32, 73, 110, 116, 32, 41, 32, 45, 62, 32, 73, 110, 116, 32, 123, 32, 114, 101, 116, 117, 114, 110, 32, 40, 32, 120, 32, 43, 32, 40, 32, 50, 32, 42, 32, 51, 32, 41, 32, 41, 32, 59, 32, 125]
def nodA : Nod := ⟨1, [], 0, ⟨0, [], 0, []⟩, [], [⟨7, [102], 1, ⟨1, [], 0, []⟩, [], [⟨10, [120], 0, ⟨1, [], 0, []⟩, [], [], 7⟩, ⟨20, [], 0, ⟨0, [], 0, []⟩, [], [⟨28, [], 0, ⟨0, [], 0, []⟩, [], [⟨64, [43], 0, ⟨0, [], 0, []⟩, [], [⟨54, [120], 0, ⟨0, [], 0, []⟩, [], [], 31⟩, ⟨64, [42], 0, ⟨0, [], 0, []⟩, [], [⟨50, [], 2, ⟨0, [], 0, []⟩, [], [], 35⟩, ⟨50, [], 3, ⟨0, [], 0, []⟩, [], [], 39⟩], 35⟩], 31⟩], 24⟩], 22⟩], 0⟩], 0⟩
theorem modA_run : run env 400 (.call 13 [.str srcA]) [] = some (.ret (.tuple [.agg cellsA, .slice .sealed 0 []]) []) := by kernel_rfl
theorem declA_run : run env0 400 (.call 56 [.ptr 0 0, .agg decA]) hp1 = some (.ret (.tuple []) hpA) := by kernel_rfl
theorem textA_run : run env0 400 (.call 58 [.ptr 0 0]) hpA = some (.ret (.str lineA) hpB) := by kernel_rfl
theorem modA_enc : (some (.ret (.tuple [.agg cellsA, .slice .sealed 0 []]) []) : Option Out) = some (.ret (.tuple [.agg (c1Nod nodA), .slice .sealed 0 (clFlt [])]) []) := by kernel_rfl
theorem modA_E : E env (.call 13 [.str srcA]) [] = some (.ret (.tuple [.agg (c1Nod nodA), .slice .sealed 0 (clFlt [])]) []) := ((run_chain env).le 400 _ _ _ modA_run).trans modA_enc
theorem lineA_ok : lineOf decA lineA := ⟨hpA, hpB, (run_chain env0).le 400 _ _ _ declA_run, (run_chain env0).le 400 _ _ _ textA_run⟩
theorem linesA : Lines (decA ++ []) [lineA] := .cons decA [] lineA [] (by kernel_rfl) lineA_ok .nil
theorem printA_E : E env (.call 20 [.agg (c1Nod nodA)]) [] = some (.ret (.str (printed [lineA])) []) := by
  refine E_step ?_
  have hi : env.intr 20 = some (.plain printI) := rfl
  show (match env.intr 20 with
    | some (.plain h) => h [.agg (c1Nod nodA)] []
    | some (.via pre post) => match pre [.agg (c1Nod nodA)] [] with
      | some (g', l, H') => match E env (.call g' l) H' with
        | some o => post [.agg (c1Nod nodA)] [] o
        | none => none
      | none => none
    | none => runCall env (E env) 20 [.agg (c1Nod nodA)] []) = _
  rw [hi]
  show printI _ _ = _
  have hc : (c1Nod nodA) = [.int .i64 1, .str [], .int .i64 0, .int .i64 0, .str [], .int .i64 0, .slice .sealed 0 [], .slice .sealed 0 [], .slice .sealed 1 (decA ++ []), .int .i64 0] := by kernel_rfl
  rw [hc]
  exact printI_eq linesA rfl (by decide) (by decide)
end Go.Proofs.YtmonfppdiehlpaaGreatDoor
/- A copy of a node with other offsets, in plain Lean. -/
namespace Go.Proofs.YtmonfppdiehlpaaGreatDoor
set_option linter.unusedSimpArgs false
set_option linter.unusedVariables false
set_option linter.unusedSectionVars false
open Go Go.Vm
def xor5 (a : Int) : Int := IntKind.wrap .i64 (BitVec.ofInt (IntKind.bits .i64) a ^^^ BitVec.ofInt (IntKind.bits .i64) 5).toNat
mutual
def movedN : Nod → Nod
  | ⟨op, s, n, t, ts, l, at_⟩ => ⟨op, s, n, t, ts, movedL l, xor5 at_⟩
def movedL : List Nod → List Nod
  | [] => []
  | x :: r => movedN x :: movedL r
end
mutual
def smallN : Nod → Bool
  | ⟨_, _, _, _, _, l, _⟩ => decide (l.length ≤ 1000000) && smallL l
def smallL : List Nod → Bool
  | [] => true
  | x :: r => smallN x && smallL r
end
theorem movedL_map : ∀ l : List Nod, movedL l = l.map movedN
  | [] => by rw [movedL]; rfl
  | x :: r => by rw [movedL, movedL_map r]; rfl
theorem smallL_mem : ∀ {l : List Nod}, smallL l = true → ∀ x ∈ l, smallN x = true
  | [], _, x, h => by cases h
  | y :: r, h, x, hx => by
    rw [smallL, Bool.and_eq_true] at h
    rcases List.mem_cons.1 hx with rfl | hx
    · exact h.1
    · exact smallL_mem h.2 x hx
end Go.Proofs.YtmonfppdiehlpaaGreatDoor
/- Given. (Printed by a program.) -/
namespace Go.Proofs.YtmonfppdiehlpaaGreatDoor
set_option linter.unusedSimpArgs false
set_option linter.unusedVariables false
set_option linter.unusedSectionVars false
open Go Go.Vm
set_option maxRecDepth 100000
set_option maxHeartbeats 20000000
set_option linter.unusedVariables false
def modG (src1 : Str) : Option (Nod × List Flt) := match decide (src1 = srcA) with
  | true => some (nodA, [])
  | false => none
noncomputable def printG (n1 : Nod) : Option Str := match E env (.call 20 [.agg [.int .i64 n1.op, .str n1.s, .int .i64 n1.n, .int .i64 n1.t.kind, .str n1.t.name, .int .i64 n1.t.n, .slice .sealed (List.length n1.t.args) (clTyp n1.t.args), .slice .sealed (List.length n1.ts) (clTyp n1.ts), .slice .sealed (List.length n1.l) (clNod n1.l), .int .i64 n1.at_]]) [] with
  | some (.ret (.str s) []) => some s
  | _ => none
def movedG (n1 : Nod) : Option Nod := match smallN n1 with
  | true => some (movedN n1)
  | false => none

end Go.Proofs.YtmonfppdiehlpaaGreatDoor
/- The functions in plain Lean. (Printed by a program.) -/
namespace Go.Proofs.YtmonfppdiehlpaaGreatDoor
set_option linter.unusedSimpArgs false
set_option linter.unusedVariables false
set_option linter.unusedSectionVars false
open Go Go.Vm
set_option maxRecDepth 100000
set_option maxHeartbeats 20000000
set_option linter.unusedVariables false
noncomputable def law02_awake : Option (Bool) :=
  (modG [102, 117, 110, 99, 32, 102, 40, 120, 58, 32, 73, 110, 116, 41, 32, 45, 62, 32, 73, 110, 116, 32, 123, 32, 114, 101, 116, 117, 114, 110, 32, 120, 32, 43, 32, 50, 32, 42, 32, 51, 59, 32, 125]).bind fun (nn1, ll2) =>
  cond (eqB (List.length ll2 : Int) 0) (
  (printG nn1).bind fun rr3 =>
  some ((eqS rr3 [102, 117, 110, 99, 32, 102, 32, 40, 32, 120, 32, 58, 32, 73, 110, 116, 32, 41, 32, 45, 62, 32, 73, 110, 116, 32, 123, 32, 114, 101, 116, 117, 114, 110, 32, 40, 32, 120, 32, 43, 32, 40, 32, 50, 32, 42, 32, 51, 32, 41, 32, 41, 32, 59, 32, 125, 10]))) (
  some (false))
def law02_awake_enc : Bool → Out
  | r501 => .ret (.bool r501) []
structure ref00_TypeNodes_F where
  ref00_TypeNodes : Typ → Int → Option (Int)
def ref00_TypeNodes_l3 (n : Nat) (Φ : ref00_TypeNodes_F) (most2 : Int) (t1 : Typ) : Nat → Int → Int → Option (Int)
  | 0, _, _ => none
  | m3 + 1, n503, i504 =>
      Option.bind (α := Bool) (
      cond (ltB i504 (List.length t1.args : Int)) (
      some (leB n503 most2)) (
      some false)) fun x507 =>
      cond x507 (
      (idx' t1.args i504).bind fun x3 =>
      (Φ.ref00_TypeNodes x3 most2).bind fun r4 =>
      ref00_TypeNodes_l3 n Φ most2 t1 m3 (w64 (n503 + r4)) (w64 (i504 + 1))) (
      some n503)
def ref00_TypeNodes_b (n : Nat) (Φ : ref00_TypeNodes_F) (t1 : Typ) (most2 : Int) : Option (Int) :=
  Option.bind (α := Int) (
  ref00_TypeNodes_l3 n Φ most2 t1 n 1 0) fun n510 =>
  some ((min n510 (w64 (most2 + 1))))
def ref00_TypeNodes_enc (t1 : Typ) (most2 : Int) : Int → Out
  | r511 => .ret (.int .i64 r511) []
def ref00_TypeNodes_F.fs : Nat → ref00_TypeNodes_F
  | 0 => ⟨fun _ _ => none⟩
  | n + 1 => ⟨ref00_TypeNodes_b n (ref00_TypeNodes_F.fs n)⟩
def ref00_TypeNodes (n : Nat) (t1 : Typ) (most2 : Int) : Option (Int) := (ref00_TypeNodes_F.fs n).ref00_TypeNodes t1 most2
structure ref00_Nodes_F where
  ref00_Nodes : Nod → Int → Option (Int)
def ref00_Nodes_l3 (n : Nat) (Φ : ref00_Nodes_F) (most2 : Int) (x1 : Nod) : Nat → Int → Int → Option (Int)
  | 0, _, _ => none
  | m3 + 1, n502, i503 =>
      Option.bind (α := Bool) (
      cond (ltB i503 (List.length x1.ts : Int)) (
      some (leB n502 most2)) (
      some false)) fun x506 =>
      cond x506 (
      (idx' x1.ts i503).bind fun x3 =>
      (ref00_TypeNodes n x3 most2).bind fun r4 =>
      ref00_Nodes_l3 n Φ most2 x1 m3 (w64 (n502 + r4)) (w64 (i503 + 1))) (
      some n502)
def ref00_Nodes_l9 (n : Nat) (Φ : ref00_Nodes_F) (most2 : Int) (x1 : Nod) : Nat → Int → Int → Option (Int)
  | 0, _, _ => none
  | m9 + 1, n520, i521 =>
      Option.bind (α := Bool) (
      cond (ltB i521 (List.length x1.l : Int)) (
      some (leB n520 most2)) (
      some false)) fun x530 =>
      cond x530 (
      (idx' x1.l i521).bind fun x6 =>
      (Φ.ref00_Nodes x6 most2).bind fun r7 =>
      ref00_Nodes_l9 n Φ most2 x1 m9 (w64 (n520 + r7)) (w64 (i521 + 1))) (
      some n520)
def ref00_Nodes_b (n : Nat) (Φ : ref00_Nodes_F) (x1 : Nod) (most2 : Int) : Option (Int) :=
  gdO (!eqB 16 0) <|
  Option.bind (α := Int) (
  ref00_Nodes_l3 n Φ most2 x1 n (w64 (1 + (w64 (Int.tdiv (List.length x1.s : Int) 16)))) 0) fun n509 =>
  Option.bind (α := Int) (
  cond (leB n509 most2) (
  (ref00_TypeNodes n x1.t most2).bind fun r5 =>
  some (w64 ((w64 (n509 + r5)) - 1))) (
  some n509)) fun n518 =>
  Option.bind (α := Int) (
  ref00_Nodes_l9 n Φ most2 x1 n n518 0) fun n533 =>
  some ((min n533 (w64 (most2 + 1))))
def ref00_Nodes_enc (x1 : Nod) (most2 : Int) : Int → Out
  | r511 => .ret (.int .i64 r511) []
def ref00_Nodes_F.fs : Nat → ref00_Nodes_F
  | 0 => ⟨fun _ _ => none⟩
  | n + 1 => ⟨ref00_Nodes_b n (ref00_Nodes_F.fs n)⟩
def ref00_Nodes (n : Nat) (x1 : Nod) (most2 : Int) : Option (Int) := (ref00_Nodes_F.fs n).ref00_Nodes x1 most2
structure ref02_bulk_F where
  ref02_bulk : Typ → Int → Option (Int)
def ref02_bulk_l5 (n : Nat) (Φ : ref02_bulk_F) (most2 : Int) (t1 : Typ) : Nat → Int → Int → Option (Int)
  | 0, _, _ => none
  | m5 + 1, k504, i505 =>
      Option.bind (α := Bool) (
      cond (ltB i505 (List.length t1.args : Int)) (
      some (ltB k504 most2)) (
      some false)) fun x510 =>
      cond x510 (
      (idx' t1.args i505).bind fun x3 =>
      (Φ.ref02_bulk x3 (w64 (most2 - k504))).bind fun r4 =>
      ref02_bulk_l5 n Φ most2 t1 m5 (w64 (k504 + r4)) (w64 (i505 + 1))) (
      some k504)
def ref02_bulk_b (n : Nat) (Φ : ref02_bulk_F) (t1 : Typ) (most2 : Int) : Option (Int) :=
  Option.bind (α := Int) (
  Option.bind (α := Bool) (
  cond (!eqB t1.kind 0) (
  some true) (
  some (ltB 0 (List.length t1.args : Int)))) fun x502 =>
  cond x502 (
  some (w64 ((List.length t1.name : Int) + 1))) (
  some (List.length t1.name : Int))) fun k507 =>
  Option.bind (α := Int) (
  ref02_bulk_l5 n Φ most2 t1 n k507 0) fun k513 =>
  some (k513)
def ref02_bulk_enc (t1 : Typ) (most2 : Int) : Int → Out
  | r514 => .ret (.int .i64 r514) []
def ref02_bulk_F.fs : Nat → ref02_bulk_F
  | 0 => ⟨fun _ _ => none⟩
  | n + 1 => ⟨ref02_bulk_b n (ref02_bulk_F.fs n)⟩
def ref02_bulk (n : Nat) (t1 : Typ) (most2 : Int) : Option (Int) := (ref02_bulk_F.fs n).ref02_bulk t1 most2
structure ref02_Bulk_F where
  ref02_Bulk : Nod → Int → Option (Int)
def ref02_Bulk_l3 (n : Nat) (Φ : ref02_Bulk_F) (most2 : Int) (n1 : Nod) : Nat → Int → Int → Option (Int)
  | 0, _, _ => none
  | m3 + 1, k502, i503 =>
      Option.bind (α := Bool) (
      cond (ltB i503 (List.length n1.ts : Int)) (
      some (ltB k502 most2)) (
      some false)) fun x506 =>
      cond x506 (
      (idx' n1.ts i503).bind fun x4 =>
      (ref02_bulk n x4 (w64 (most2 - k502))).bind fun r5 =>
      ref02_Bulk_l3 n Φ most2 n1 m3 (w64 (k502 + r5)) (w64 (i503 + 1))) (
      some k502)
def ref02_Bulk_l7 (n : Nat) (Φ : ref02_Bulk_F) (most2 : Int) (n1 : Nod) : Nat → Int → Int → Option (Int)
  | 0, _, _ => none
  | m7 + 1, k517, i518 =>
      Option.bind (α := Bool) (
      cond (ltB i518 (List.length n1.l : Int)) (
      some (ltB k517 most2)) (
      some false)) fun x526 =>
      cond x526 (
      (idx' n1.l i518).bind fun x6 =>
      (Φ.ref02_Bulk x6 (w64 (most2 - k517))).bind fun r7 =>
      ref02_Bulk_l7 n Φ most2 n1 m7 (w64 (k517 + r7)) (w64 (i518 + 1))) (
      some k517)
def ref02_Bulk_b (n : Nat) (Φ : ref02_Bulk_F) (n1 : Nod) (most2 : Int) : Option (Int) :=
  (ref02_bulk n n1.t most2).bind fun r3 =>
  Option.bind (α := Int) (
  ref02_Bulk_l3 n Φ most2 n1 n (w64 ((List.length n1.s : Int) + r3)) 0) fun k509 =>
  Option.bind (α := Int) (
  ref02_Bulk_l7 n Φ most2 n1 n k509 0) fun k529 =>
  some (k529)
def ref02_Bulk_enc (n1 : Nod) (most2 : Int) : Int → Out
  | r511 => .ret (.int .i64 r511) []
def ref02_Bulk_F.fs : Nat → ref02_Bulk_F
  | 0 => ⟨fun _ _ => none⟩
  | n + 1 => ⟨ref02_Bulk_b n (ref02_Bulk_F.fs n)⟩
def ref02_Bulk (n : Nat) (n1 : Nod) (most2 : Int) : Option (Int) := (ref02_Bulk_F.fs n).ref02_Bulk n1 most2
def law02_big (n : Nat) (n1 : Nod) : Option (Bool) :=
  (ref00_Nodes n n1 6001).bind fun r2 =>
  cond (ltB 6000 r2) (
  some (true)) (
  (ref02_Bulk n n1 20001).bind fun r3 =>
  some ((ltB 20000 r3)))
def law02_big_enc (n1 : Nod) : Bool → Out
  | r501 => .ret (.bool r501) []
structure parse_sameType_F where
  parse_sameType : Typ → Typ → Option (Bool)
  parse_sameList_Type : (List Typ) → (List Typ) → Option (Bool)
def parse_sameType_b (n : Nat) (Φ : parse_sameType_F) (a1 : Typ) (b2 : Typ) : Option (Bool) :=
  cond (eqB a1.kind b2.kind) (
  cond (eqS a1.name b2.name) (
  cond (eqB a1.n b2.n) (
  (Φ.parse_sameList_Type a1.args b2.args).bind fun r3 =>
  some (r3)) (
  some (false))) (
  some (false))) (
  some (false))
def parse_sameType_enc (a1 : Typ) (b2 : Typ) : Bool → Out
  | r501 => .ret (.bool r501) []
def parse_sameList_Type_l4 (n : Nat) (Φ : parse_sameType_F) (a1 : List Typ) (b2 : List Typ) : Nat → Int → Option (Lr (Unit) (Bool))
  | 0, _ => none
  | m4 + 1, x503 =>
      cond (ltB x503 (List.length a1 : Int)) (
      (idx' a1 x503).bind fun x3 =>
      (idx' b2 x503).bind fun x4 =>
      (Φ.parse_sameType x3 x4).bind fun r5 =>
      cond (!r5) (
      some (.out (false))) (
      parse_sameList_Type_l4 n Φ a1 b2 m4 (w64 (x503 + 1)))) (
      some (.brk ()))
def parse_sameList_Type_b (n : Nat) (Φ : parse_sameType_F) (a1 : List Typ) (b2 : List Typ) : Option (Bool) :=
  cond (!eqB (List.length a1 : Int) (List.length b2 : Int)) (
  some (false)) (
  bindL (α := Unit) (
  parse_sameList_Type_l4 n Φ a1 b2 n 0) fun _ =>
  some (true))
def parse_sameList_Type_enc (a1 : List Typ) (b2 : List Typ) : Bool → Out
  | r501 => .ret (.bool r501) []
def parse_sameType_F.fs : Nat → parse_sameType_F
  | 0 => ⟨fun _ _ => none, fun _ _ => none⟩
  | n + 1 => ⟨parse_sameType_b n (parse_sameType_F.fs n), parse_sameList_Type_b n (parse_sameType_F.fs n)⟩
def parse_sameType (n : Nat) (a1 : Typ) (b2 : Typ) : Option (Bool) := (parse_sameType_F.fs n).parse_sameType a1 b2
def parse_sameList_Type (n : Nat) (a1 : List Typ) (b2 : List Typ) : Option (Bool) := (parse_sameType_F.fs n).parse_sameList_Type a1 b2
structure parse_Same_F where
  parse_Same : Nod → Nod → Option (Bool)
  parse_sameList_Node : (List Nod) → (List Nod) → Option (Bool)
def parse_Same_b (n : Nat) (Φ : parse_Same_F) (a1 : Nod) (b2 : Nod) : Option (Bool) :=
  cond (eqB a1.op b2.op) (
  cond (eqS a1.s b2.s) (
  cond (eqB a1.n b2.n) (
  (parse_sameType n a1.t b2.t).bind fun r3 =>
  cond r3 (
  (parse_sameList_Type n a1.ts b2.ts).bind fun r4 =>
  cond r4 (
  (Φ.parse_sameList_Node a1.l b2.l).bind fun r5 =>
  some (r5)) (
  some (false))) (
  some (false))) (
  some (false))) (
  some (false))) (
  some (false))
def parse_Same_enc (a1 : Nod) (b2 : Nod) : Bool → Out
  | r501 => .ret (.bool r501) []
def parse_sameList_Node_l4 (n : Nat) (Φ : parse_Same_F) (a1 : List Nod) (b2 : List Nod) : Nat → Int → Option (Lr (Unit) (Bool))
  | 0, _ => none
  | m4 + 1, x503 =>
      cond (ltB x503 (List.length a1 : Int)) (
      (idx' a1 x503).bind fun x3 =>
      (idx' b2 x503).bind fun x4 =>
      (Φ.parse_Same x3 x4).bind fun r5 =>
      cond (!r5) (
      some (.out (false))) (
      parse_sameList_Node_l4 n Φ a1 b2 m4 (w64 (x503 + 1)))) (
      some (.brk ()))
def parse_sameList_Node_b (n : Nat) (Φ : parse_Same_F) (a1 : List Nod) (b2 : List Nod) : Option (Bool) :=
  cond (!eqB (List.length a1 : Int) (List.length b2 : Int)) (
  some (false)) (
  bindL (α := Unit) (
  parse_sameList_Node_l4 n Φ a1 b2 n 0) fun _ =>
  some (true))
def parse_sameList_Node_enc (a1 : List Nod) (b2 : List Nod) : Bool → Out
  | r501 => .ret (.bool r501) []
def parse_Same_F.fs : Nat → parse_Same_F
  | 0 => ⟨fun _ _ => none, fun _ _ => none⟩
  | n + 1 => ⟨parse_Same_b n (parse_Same_F.fs n), parse_sameList_Node_b n (parse_Same_F.fs n)⟩
def parse_Same (n : Nat) (a1 : Nod) (b2 : Nod) : Option (Bool) := (parse_Same_F.fs n).parse_Same a1 b2
def parse_sameList_Node (n : Nat) (a1 : List Nod) (b2 : List Nod) : Option (Bool) := (parse_Same_F.fs n).parse_sameList_Node a1 b2
structure ref00_EqType_F where
  ref00_EqType : Typ → Typ → Option (Bool)
  ref00_EqTypes : (List Typ) → (List Typ) → Option (Bool)
def ref00_EqType_b (n : Nat) (Φ : ref00_EqType_F) (a1 : Typ) (b2 : Typ) : Option (Bool) :=
  cond (eqB a1.kind b2.kind) (
  cond (eqS a1.name b2.name) (
  cond (eqB a1.n b2.n) (
  (Φ.ref00_EqTypes a1.args b2.args).bind fun r3 =>
  some (r3)) (
  some (false))) (
  some (false))) (
  some (false))
def ref00_EqType_enc (a1 : Typ) (b2 : Typ) : Bool → Out
  | r501 => .ret (.bool r501) []
def ref00_EqTypes_l4 (n : Nat) (Φ : ref00_EqType_F) (a1 : List Typ) (b2 : List Typ) : Nat → Int → Option (Lr (Unit) (Bool))
  | 0, _ => none
  | m4 + 1, i503 =>
      cond (ltB i503 (List.length a1 : Int)) (
      (idx' a1 i503).bind fun x3 =>
      (idx' b2 i503).bind fun x4 =>
      (Φ.ref00_EqType x3 x4).bind fun r5 =>
      cond (!r5) (
      some (.out (false))) (
      ref00_EqTypes_l4 n Φ a1 b2 m4 (w64 (i503 + 1)))) (
      some (.brk ()))
def ref00_EqTypes_b (n : Nat) (Φ : ref00_EqType_F) (a1 : List Typ) (b2 : List Typ) : Option (Bool) :=
  cond (!eqB (List.length a1 : Int) (List.length b2 : Int)) (
  some (false)) (
  bindL (α := Unit) (
  ref00_EqTypes_l4 n Φ a1 b2 n 0) fun _ =>
  some (true))
def ref00_EqTypes_enc (a1 : List Typ) (b2 : List Typ) : Bool → Out
  | r501 => .ret (.bool r501) []
def ref00_EqType_F.fs : Nat → ref00_EqType_F
  | 0 => ⟨fun _ _ => none, fun _ _ => none⟩
  | n + 1 => ⟨ref00_EqType_b n (ref00_EqType_F.fs n), ref00_EqTypes_b n (ref00_EqType_F.fs n)⟩
def ref00_EqType (n : Nat) (a1 : Typ) (b2 : Typ) : Option (Bool) := (ref00_EqType_F.fs n).ref00_EqType a1 b2
def ref00_EqTypes (n : Nat) (a1 : List Typ) (b2 : List Typ) : Option (Bool) := (ref00_EqType_F.fs n).ref00_EqTypes a1 b2
structure ref00_EqNode_F where
  ref00_EqNode : Nod → Nod → Bool → Option (Bool)
  ref00_EqNodes : (List Nod) → (List Nod) → Bool → Option (Bool)
def ref00_EqNode_b (n : Nat) (Φ : ref00_EqNode_F) (a1 : Nod) (b2 : Nod) (at3 : Bool) : Option (Bool) :=
  Option.bind (α := Bool) (
  cond (!eqB a1.op b2.op) (
  some true) (
  cond (!eqS a1.s b2.s) (
  some true) (
  cond (!eqB a1.n b2.n) (
  some true) (
  cond at3 (
  cond (!eqB a1.at_ b2.at_) (
  some true) (
  (ref00_EqType n a1.t b2.t).bind fun r4 =>
  cond (!r4) (
  some true) (
  (ref00_EqTypes n a1.ts b2.ts).bind fun r5 =>
  some (!r5)))) (
  (ref00_EqType n a1.t b2.t).bind fun r6 =>
  cond (!r6) (
  some true) (
  (ref00_EqTypes n a1.ts b2.ts).bind fun r7 =>
  some (!r7))))))) fun x501 =>
  cond x501 (
  some (false)) (
  (Φ.ref00_EqNodes a1.l b2.l at3).bind fun r8 =>
  some (r8))
def ref00_EqNode_enc (a1 : Nod) (b2 : Nod) (at3 : Bool) : Bool → Out
  | r503 => .ret (.bool r503) []
def ref00_EqNodes_l4 (n : Nat) (Φ : ref00_EqNode_F) (a1 : List Nod) (at3 : Bool) (b2 : List Nod) : Nat → Int → Option (Lr (Unit) (Bool))
  | 0, _ => none
  | m4 + 1, i503 =>
      cond (ltB i503 (List.length a1 : Int)) (
      (idx' a1 i503).bind fun x4 =>
      (idx' b2 i503).bind fun x5 =>
      (Φ.ref00_EqNode x4 x5 at3).bind fun r6 =>
      cond (!r6) (
      some (.out (false))) (
      ref00_EqNodes_l4 n Φ a1 at3 b2 m4 (w64 (i503 + 1)))) (
      some (.brk ()))
def ref00_EqNodes_b (n : Nat) (Φ : ref00_EqNode_F) (a1 : List Nod) (b2 : List Nod) (at3 : Bool) : Option (Bool) :=
  cond (!eqB (List.length a1 : Int) (List.length b2 : Int)) (
  some (false)) (
  bindL (α := Unit) (
  ref00_EqNodes_l4 n Φ a1 at3 b2 n 0) fun _ =>
  some (true))
def ref00_EqNodes_enc (a1 : List Nod) (b2 : List Nod) (at3 : Bool) : Bool → Out
  | r501 => .ret (.bool r501) []
def ref00_EqNode_F.fs : Nat → ref00_EqNode_F
  | 0 => ⟨fun _ _ _ => none, fun _ _ _ => none⟩
  | n + 1 => ⟨ref00_EqNode_b n (ref00_EqNode_F.fs n), ref00_EqNodes_b n (ref00_EqNode_F.fs n)⟩
def ref00_EqNode (n : Nat) (a1 : Nod) (b2 : Nod) (at3 : Bool) : Option (Bool) := (ref00_EqNode_F.fs n).ref00_EqNode a1 b2 at3
def ref00_EqNodes (n : Nat) (a1 : List Nod) (b2 : List Nod) (at3 : Bool) : Option (Bool) := (ref00_EqNode_F.fs n).ref00_EqNodes a1 b2 at3
def ref02_Same (n : Nat) (a1 : Nod) (b2 : Nod) : Option (Bool) :=
  (ref00_EqNode n a1 b2 false).bind fun r3 =>
  some (r3)
def ref02_Same_enc (a1 : Nod) (b2 : Nod) : Bool → Out
  | r501 => .ret (.bool r501) []
noncomputable def law02_ParseSame (n : Nat) (a1 : Nod) (b2 : Nod) : Option (Bool) :=
  Option.bind (α := Bool) (
  (law02_big n a1).bind fun r3 =>
  cond r3 (
  some true) (
  (law02_big n b2).bind fun r4 =>
  some r4)) fun x504 =>
  cond x504 (
  (law02_awake).bind fun r5 =>
  some (r5)) (
  (movedG a1).bind fun mm6 =>
  (parse_Same n a1 b2).bind fun r7 =>
  (ref02_Same n a1 b2).bind fun r8 =>
  cond (r7 == r8) (
  (parse_Same n a1 a1).bind fun r9 =>
  cond r9 (
  (parse_Same n a1 mm6).bind fun r10 =>
  cond r10 (
  (law02_awake).bind fun r11 =>
  some (r11)) (
  some (false))) (
  some (false))) (
  some (false)))
def law02_ParseSame_enc (a1 : Nod) (b2 : Nod) : Bool → Out
  | r501 => .ret (.bool r501) []
end Go.Proofs.YtmonfppdiehlpaaGreatDoor
/- The law ParseSame in plain Lean: it answers true for all nodes whose lists can be counted. -/
namespace Go.Proofs.YtmonfppdiehlpaaGreatDoor
set_option linter.unusedSimpArgs false
set_option linter.unusedVariables false
set_option linter.unusedSectionVars false
open Go Go.Vm
set_option linter.unusedVariables false
set_option linter.unusedSimpArgs false
set_option maxRecDepth 10000
def M63 : Nat := 9223372036854775807
/- sizes -/
mutual
def Typ.sz : Typ → Nat
  | ⟨_, _, _, a⟩ => 1 + szT a
def szT : List Typ → Nat
  | [] => 0
  | x :: r => x.sz + szT r
end
mutual
def Typ.fits : Typ → Prop
  | ⟨_, s, _, a⟩ => s.length ≤ M63 ∧ a.length ≤ M63 ∧ fitsT a
def fitsT : List Typ → Prop
  | [] => True
  | x :: r => x.fits ∧ fitsT r
end
mutual
def Nod.sz : Nod → Nat
  | ⟨_, _, _, t, ts, l, _⟩ => 1 + t.sz + szT ts + szN l
def szN : List Nod → Nat
  | [] => 0
  | x :: r => x.sz + szN r
end
mutual
def Nod.cnt : Nod → Nat
  | ⟨_, _, _, _, _, l, _⟩ => 1 + cntN l
def cntN : List Nod → Nat
  | [] => 0
  | x :: r => x.cnt + cntN r
end
mutual
def Nod.fits : Nod → Prop
  | ⟨_, s, _, t, ts, l, _⟩ => s.length ≤ M63 ∧ ts.length ≤ M63 ∧ l.length ≤ M63 ∧ t.fits ∧ fitsT ts ∧ fitsN l
def fitsN : List Nod → Prop
  | [] => True
  | x :: r => x.fits ∧ fitsN r
end
theorem Typ.sz_eq (x : Typ) : x.sz = 1 + szT x.args := by cases x; rfl
theorem Typ.fits_iff (x : Typ) : x.fits ↔ x.name.length ≤ M63 ∧ x.args.length ≤ M63 ∧ fitsT x.args := by cases x; exact .rfl
theorem Nod.sz_eq (x : Nod) : x.sz = 1 + x.t.sz + szT x.ts + szN x.l := by cases x; rfl
theorem Nod.cnt_eq (x : Nod) : x.cnt = 1 + cntN x.l := by cases x; rfl
theorem Nod.fits_iff (x : Nod) : x.fits ↔ x.s.length ≤ M63 ∧ x.ts.length ≤ M63 ∧ x.l.length ≤ M63 ∧ x.t.fits ∧ fitsT x.ts ∧ fitsN x.l := by cases x; exact .rfl
theorem Typ.sz_pos (x : Typ) : 1 ≤ x.sz := by rw [x.sz_eq]; omega
theorem szT_mem {x : Typ} : ∀ {l : List Typ}, x ∈ l → x.sz ≤ szT l
  | y :: r, h => by
    simp only [szT]
    rcases List.mem_cons.1 h with rfl | h
    · omega
    · have := szT_mem h; omega
theorem szN_mem {x : Nod} : ∀ {l : List Nod}, x ∈ l → x.sz ≤ szN l
  | y :: r, h => by
    simp only [szN]
    rcases List.mem_cons.1 h with rfl | h
    · omega
    · have := szN_mem h; omega
theorem cntN_mem {x : Nod} : ∀ {l : List Nod}, x ∈ l → x.cnt ≤ cntN l
  | y :: r, h => by
    simp only [cntN]
    rcases List.mem_cons.1 h with rfl | h
    · omega
    · have := cntN_mem h; omega
theorem fitsT_mem {x : Typ} : ∀ {l : List Typ}, fitsT l → x ∈ l → x.fits
  | y :: r, hf, h => by
    rcases List.mem_cons.1 h with rfl | h
    · exact hf.1
    · exact fitsT_mem hf.2 h
theorem fitsN_mem {x : Nod} : ∀ {l : List Nod}, fitsN l → x ∈ l → x.fits
  | y :: r, hf, h => by
    rcases List.mem_cons.1 h with rfl | h
    · exact hf.1
    · exact fitsN_mem hf.2 h
theorem szT_len : ∀ l : List Typ, l.length ≤ szT l
  | [] => Nat.le_refl _
  | x :: r => by have := szT_len r; have := x.sz_pos; simp only [szT, List.length_cons]; omega
theorem szN_len : ∀ l : List Nod, l.length ≤ szN l
  | [] => Nat.le_refl _
  | x :: r => by have := szN_len r; have := x.sz_eq; simp only [szN, List.length_cons]; omega
theorem cntN_take : ∀ {l : List Nod} {i : Nat} {x : Nod}, l[i]? = some x → cntN (l.take (i + 1)) = cntN (l.take i) + x.cnt
  | y :: r, 0, x, h => by simp at h; subst h; simp [cntN]
  | y :: r, i + 1, x, h => by
    simp only [List.getElem?_cons_succ] at h
    have := cntN_take h
    simp only [List.take_succ_cons, cntN]
    omega
/- numbers -/
theorem w64_id {a : Int} (h1 : -9223372036854775808 ≤ a) (h2 : a ≤ 9223372036854775807) : w64 a = a := by
  unfold w64
  simp only [IntKind.wrap, IntKind.bits, IntKind.signed]
  simp
  omega
theorem ltB_t {a b : Int} (h : a < b) : ltB a b = true := by simp [ltB, h]
theorem ltB_f {a b : Int} (h : ¬ a < b) : ltB a b = false := by simp [ltB, h]
theorem leB_t {a b : Int} (h : a ≤ b) : leB a b = true := by simp [leB, h]
theorem leB_f {a b : Int} (h : ¬ a ≤ b) : leB a b = false := by simp [leB, h]
theorem eqB_t {a b : Int} (h : a = b) : eqB a b = true := by simp [eqB, h]
theorem eqB_f {a b : Int} (h : ¬ a = b) : eqB a b = false := by simp [eqB, h]
theorem idx_ok {α : Type} {l : List α} {i : Nat} (h : i < l.length) : idx' l (i : Int) = some l[i] := by
  have h1 : inR (i : Int) l.length = true := by simp [inR, h]
  simp [idx', h1, h]

/- types -/
theorem tn_loop {n : Nat} {most : Int} {t : Typ} {Φ : ref00_TypeNodes_F} (hm : 0 ≤ most ∧ most ≤ 1000000) (hlen : t.args.length ≤ M63) (hΦ : ∀ x ∈ t.args, ∃ r, Φ.ref00_TypeNodes x most = some r ∧ 1 ≤ r ∧ r ≤ most + 1) :
    ∀ (m i : Nat) (acc : Int), i ≤ t.args.length → t.args.length - i < m → 1 ≤ acc → acc ≤ 2 * most + 1 → ∃ r, ref00_TypeNodes_l3 n Φ most t m acc (i : Int) = some r ∧ 1 ≤ r
  | 0, i, acc, h1, h2, h3, h4 => by omega
  | m + 1, i, acc, h1, h2, h3, h4 => by
    simp only [ref00_TypeNodes_l3]
    unfold M63 at hlen
    by_cases hi : i < t.args.length
    · rw [ltB_t (by omega)]
      simp only [cond_true, Option.bind_some]
      by_cases ha : acc ≤ most
      · rw [leB_t ha, cond_true, idx_ok hi, Option.bind_some]
        obtain ⟨r, g1, g2, g3⟩ := hΦ t.args[i] (List.getElem_mem hi)
        rw [g1, Option.bind_some, w64_id (by omega) (by omega), w64_id (by omega) (by omega)]
        exact tn_loop hm hlen hΦ m (i + 1) (acc + r) hi (by omega) (by omega) (by omega)
      · rw [leB_f ha, cond_false]
        exact ⟨acc, rfl, h3⟩
    · rw [ltB_f (by omega)]
      simp only [cond_false, Option.bind_some]
      exact ⟨acc, rfl, h3⟩
theorem tn_ok {most : Int} (hm : 0 ≤ most ∧ most ≤ 1000000) : ∀ (k : Nat) (t : Typ) (n : Nat), t.sz ≤ k → t.fits → t.sz + 1 ≤ n → ∃ r, ref00_TypeNodes n t most = some r ∧ 1 ≤ r ∧ r ≤ most + 1
  | 0, t, n, h1, h2, h3 => by have := t.sz_pos; omega
  | k + 1, t, 0, h1, h2, h3 => by omega
  | k + 1, t, n + 1, h1, h2, h3 => by
    have hs := t.sz_eq
    obtain ⟨f1, f2, f3⟩ := t.fits_iff.1 h2
    have hl := szT_len t.args
    show ∃ r, ref00_TypeNodes_b n (ref00_TypeNodes_F.fs n) t most = some r ∧ _
    unfold ref00_TypeNodes_b
    obtain ⟨r, g1, g2⟩ := tn_loop (n := n) (Φ := ref00_TypeNodes_F.fs n) hm f2 (fun x hx => tn_ok hm k x n (by have := szT_mem hx; omega) (fitsT_mem f3 hx) (by have := szT_mem hx; omega)) n 0 1 (Nat.zero_le _) (by omega) (by omega) (by omega)
    have g1 : ref00_TypeNodes_l3 n (ref00_TypeNodes_F.fs n) most t n 1 0 = some r := g1
    rw [g1, Option.bind_some, w64_id (by omega) (by omega)]
    exact ⟨_, rfl, by omega, by omega⟩
theorem bk_loop {n : Nat} {most : Int} {t : Typ} {Φ : ref02_bulk_F} (hlen : t.args.length ≤ M63) (hΦ : ∀ x ∈ t.args, ∀ q, ∃ r, Φ.ref02_bulk x q = some r) :
    ∀ (m i : Nat) (acc : Int), i ≤ t.args.length → t.args.length - i < m → ∃ r, ref02_bulk_l5 n Φ most t m acc (i : Int) = some r
  | 0, i, acc, h1, h2 => by omega
  | m + 1, i, acc, h1, h2 => by
    simp only [ref02_bulk_l5]
    unfold M63 at hlen
    by_cases hi : i < t.args.length
    · rw [ltB_t (by omega)]
      simp only [cond_true, Option.bind_some]
      cases ltB acc most with
      | true =>
        rw [cond_true, idx_ok hi, Option.bind_some]
        obtain ⟨r, g1⟩ := hΦ t.args[i] (List.getElem_mem hi) (w64 (most - acc))
        rw [g1, Option.bind_some, w64_id (a := (i : Int) + 1) (by omega) (by omega)]
        exact bk_loop hlen hΦ m (i + 1) _ hi (by omega)
      | false =>
        rw [cond_false]
        exact ⟨acc, rfl⟩
    · rw [ltB_f (by omega)]
      simp only [cond_false, Option.bind_some]
      exact ⟨acc, rfl⟩
theorem bk_ok : ∀ (k : Nat) (t : Typ) (n : Nat) (most : Int), t.sz ≤ k → t.fits → t.sz + 1 ≤ n → ∃ r, ref02_bulk n t most = some r
  | 0, t, n, most, h1, h2, h3 => by have := t.sz_pos; omega
  | k + 1, t, 0, most, h1, h2, h3 => by omega
  | k + 1, t, n + 1, most, h1, h2, h3 => by
    have hs := t.sz_eq
    obtain ⟨f1, f2, f3⟩ := t.fits_iff.1 h2
    have hl := szT_len t.args
    show ∃ r, ref02_bulk_b n (ref02_bulk_F.fs n) t most = some r
    unfold ref02_bulk_b
    have key : ∀ q : Int, ∃ r, Option.bind (ref02_bulk_l5 n (ref02_bulk_F.fs n) most t n q 0) (fun k513 => some k513) = some r := fun q => by
      obtain ⟨r, g1⟩ := bk_loop (n := n) (most := most) (Φ := ref02_bulk_F.fs n) f2 (fun x hx p => bk_ok k x n p (by have := szT_mem hx; omega) (fitsT_mem f3 hx) (by have := szT_mem hx; omega)) n 0 q (Nat.zero_le _) (by omega)
      have g1 : ref02_bulk_l5 n (ref02_bulk_F.fs n) most t n q 0 = some r := g1
      exact ⟨r, by rw [g1]; rfl⟩
    cases (!eqB t.kind 0) <;> simp only [cond_true, cond_false, Option.bind_some]
    · cases ltB 0 (List.length t.args : Int) <;> simp only [cond_true, cond_false, Option.bind_some] <;> exact key _
    · exact key _
/- nodes -/
theorem nd_loop3 {n : Nat} {most : Int} {x : Nod} {Φ : ref00_Nodes_F} (hm : 0 ≤ most ∧ most ≤ 1000000) (hlen : x.ts.length ≤ M63) (hΦ : ∀ t ∈ x.ts, ∃ r, ref00_TypeNodes n t most = some r ∧ 1 ≤ r ∧ r ≤ most + 1) :
    ∀ (m i : Nat) (acc : Int), i ≤ x.ts.length → x.ts.length - i < m → 1 ≤ acc → acc ≤ 4611686018427387904 → ∃ r, ref00_Nodes_l3 n Φ most x m acc (i : Int) = some r ∧ 1 ≤ r ∧ r ≤ 4611686018427387904
  | 0, i, acc, h1, h2, h3, h4 => by omega
  | m + 1, i, acc, h1, h2, h3, h4 => by
    simp only [ref00_Nodes_l3]
    unfold M63 at hlen
    by_cases hi : i < x.ts.length
    · rw [ltB_t (by omega)]
      simp only [cond_true, Option.bind_some]
      by_cases ha : acc ≤ most
      · rw [leB_t ha, cond_true, idx_ok hi, Option.bind_some]
        obtain ⟨r, g1, g2, g3⟩ := hΦ x.ts[i] (List.getElem_mem hi)
        rw [g1, Option.bind_some, w64_id (by omega) (by omega), w64_id (by omega) (by omega)]
        exact nd_loop3 hm hlen hΦ m (i + 1) (acc + r) hi (by omega) (by omega) (by omega)
      · rw [leB_f ha, cond_false]
        exact ⟨acc, rfl, h3, h4⟩
    · rw [ltB_f (by omega)]
      simp only [cond_false, Option.bind_some]
      exact ⟨acc, rfl, h3, h4⟩
theorem nd_loop9 {n : Nat} {most : Int} {x : Nod} {Φ : ref00_Nodes_F} (hm : 0 ≤ most ∧ most ≤ 1000000) (hlen : x.l.length ≤ M63) (hΦ : ∀ y ∈ x.l, ∃ r, Φ.ref00_Nodes y most = some r ∧ 1 ≤ r ∧ r ≤ most + 1 ∧ (r ≤ most → (y.cnt : Int) ≤ r)) :
    ∀ (m i : Nat) (acc : Int), i ≤ x.l.length → x.l.length - i < m → 1 ≤ acc → acc ≤ 4611686018427387904 → (acc ≤ most → 1 + (cntN (x.l.take i) : Int) ≤ acc) →
      ∃ r, ref00_Nodes_l9 n Φ most x m acc (i : Int) = some r ∧ 1 ≤ r ∧ r ≤ 4611686018427387904 ∧ (r ≤ most → 1 + (cntN x.l : Int) ≤ r)
  | 0, i, acc, h1, h2, h3, h4, h5 => by omega
  | m + 1, i, acc, h1, h2, h3, h4, h5 => by
    simp only [ref00_Nodes_l9]
    unfold M63 at hlen
    by_cases hi : i < x.l.length
    · rw [ltB_t (by omega)]
      simp only [cond_true, Option.bind_some]
      by_cases ha : acc ≤ most
      · rw [leB_t ha, cond_true, idx_ok hi, Option.bind_some]
        obtain ⟨r, g1, g2, g3, g4⟩ := hΦ x.l[i] (List.getElem_mem hi)
        rw [g1, Option.bind_some, w64_id (by omega) (by omega), w64_id (by omega) (by omega)]
        refine nd_loop9 hm hlen hΦ m (i + 1) (acc + r) hi (by omega) (by omega) (by omega) (fun h => ?_)
        have h6 := h5 ha
        have h7 := g4 (by omega)
        rw [cntN_take (List.getElem?_eq_getElem hi)]
        omega
      · rw [leB_f ha, cond_false]
        exact ⟨acc, rfl, h3, h4, fun h => absurd h ha⟩
    · rw [ltB_f (by omega)]
      simp only [cond_false, Option.bind_some]
      refine ⟨acc, rfl, h3, h4, fun h => ?_⟩
      have h6 := h5 h
      rw [List.take_of_length_le (by omega)] at h6
      exact h6
theorem nd_ok {most : Int} (hm : 0 ≤ most ∧ most ≤ 1000000) : ∀ (k : Nat) (x : Nod) (n : Nat), x.sz ≤ k → x.fits → x.sz + 1 ≤ n → ∃ r, ref00_Nodes n x most = some r ∧ 1 ≤ r ∧ r ≤ most + 1 ∧ (r ≤ most → (x.cnt : Int) ≤ r)
  | 0, x, n, h1, h2, h3 => by have := x.sz_eq; omega
  | k + 1, x, 0, h1, h2, h3 => by omega
  | k + 1, x, n + 1, h1, h2, h3 => by
    have hs := x.sz_eq
    obtain ⟨f1, f2, f3, f4, f5, f6⟩ := x.fits_iff.1 h2
    have hl := szN_len x.l
    have hlt := szT_len x.ts
    have hc := x.cnt_eq
    show ∃ r, ref00_Nodes_b n (ref00_Nodes_F.fs n) x most = some r ∧ _
    unfold ref00_Nodes_b
    have e16 : (!eqB (16 : Int) 0) = true := by rw [eqB_f (by decide)]; rfl
    rw [e16]
    simp only [gdO]
    have hd : Int.tdiv (List.length x.s : Int) 16 = ((x.s.length / 16 : Nat) : Int) := rfl
    unfold M63 at f1
    have hdb : x.s.length / 16 ≤ 1152921504606846976 := by omega
    rw [hd, w64_id (a := ((x.s.length / 16 : Nat) : Int)) (by omega) (by omega), w64_id (a := 1 + ((x.s.length / 16 : Nat) : Int)) (by omega) (by omega)]
    obtain ⟨r1, g1, g2, g3⟩ := nd_loop3 (n := n) (Φ := ref00_Nodes_F.fs n) hm f2 (fun t ht => tn_ok hm k t n (by have := szT_mem ht; omega) (fitsT_mem f5 ht) (by have := szT_mem ht; omega)) n 0 (1 + ((x.s.length / 16 : Nat) : Int)) (Nat.zero_le _) (by omega) (by omega) (by omega)
    have g1 : ref00_Nodes_l3 n (ref00_Nodes_F.fs n) most x n (1 + ((x.s.length / 16 : Nat) : Int)) 0 = some r1 := g1
    rw [g1, Option.bind_some]
    have key : ∀ q : Int, 1 ≤ q → q ≤ 4611686018427387904 → ∃ r, Option.bind (ref00_Nodes_l9 n (ref00_Nodes_F.fs n) most x n q 0) (fun n533 => some (min n533 (w64 (most + 1)))) = some r ∧ 1 ≤ r ∧ r ≤ most + 1 ∧ (r ≤ most → (x.cnt : Int) ≤ r) := fun q q1 q2 => by
      obtain ⟨r, k1, k2, k3, k4⟩ := nd_loop9 (n := n) (Φ := ref00_Nodes_F.fs n) hm f3 (fun y hy => nd_ok hm k y n (by have := szN_mem hy; omega) (fitsN_mem f6 hy) (by have := szN_mem hy; omega)) n 0 q (Nat.zero_le _) (by omega) q1 q2 (fun h => by simp [cntN]; omega)
      have k1 : ref00_Nodes_l9 n (ref00_Nodes_F.fs n) most x n q 0 = some r := k1
      rw [k1, Option.bind_some, w64_id (by omega) (by omega)]
      refine ⟨_, rfl, by omega, by omega, fun h => ?_⟩
      have := k4 (by omega)
      omega
    by_cases hr : r1 ≤ most
    · rw [leB_t hr, cond_true]
      obtain ⟨r5, t1, t2, t3⟩ := tn_ok hm k x.t n (by omega) f4 (by omega)
      rw [t1]
      simp only [Option.bind_some]
      rw [w64_id (a := r1 + r5) (by omega) (by omega), w64_id (by omega) (by omega)]
      exact key _ (by omega) (by omega)
    · rw [leB_f hr, cond_false, Option.bind_some]
      exact key _ (by omega) (by omega)
theorem Bk_loop3 {n : Nat} {most : Int} {x : Nod} {Φ : ref02_Bulk_F} (hlen : x.ts.length ≤ M63) (hΦ : ∀ t ∈ x.ts, ∀ q, ∃ r, ref02_bulk n t q = some r) :
    ∀ (m i : Nat) (acc : Int), i ≤ x.ts.length → x.ts.length - i < m → ∃ r, ref02_Bulk_l3 n Φ most x m acc (i : Int) = some r
  | 0, i, acc, h1, h2 => by omega
  | m + 1, i, acc, h1, h2 => by
    simp only [ref02_Bulk_l3]
    unfold M63 at hlen
    by_cases hi : i < x.ts.length
    · rw [ltB_t (by omega)]
      simp only [cond_true, Option.bind_some]
      cases ltB acc most with
      | true =>
        rw [cond_true, idx_ok hi, Option.bind_some]
        obtain ⟨r, g1⟩ := hΦ x.ts[i] (List.getElem_mem hi) (w64 (most - acc))
        rw [g1, Option.bind_some, w64_id (a := (i : Int) + 1) (by omega) (by omega)]
        exact Bk_loop3 hlen hΦ m (i + 1) _ hi (by omega)
      | false =>
        rw [cond_false]
        exact ⟨acc, rfl⟩
    · rw [ltB_f (by omega)]
      simp only [cond_false, Option.bind_some]
      exact ⟨acc, rfl⟩
theorem Bk_loop7 {n : Nat} {most : Int} {x : Nod} {Φ : ref02_Bulk_F} (hlen : x.l.length ≤ M63) (hΦ : ∀ t ∈ x.l, ∀ q, ∃ r, Φ.ref02_Bulk t q = some r) :
    ∀ (m i : Nat) (acc : Int), i ≤ x.l.length → x.l.length - i < m → ∃ r, ref02_Bulk_l7 n Φ most x m acc (i : Int) = some r
  | 0, i, acc, h1, h2 => by omega
  | m + 1, i, acc, h1, h2 => by
    simp only [ref02_Bulk_l7]
    unfold M63 at hlen
    by_cases hi : i < x.l.length
    · rw [ltB_t (by omega)]
      simp only [cond_true, Option.bind_some]
      cases ltB acc most with
      | true =>
        rw [cond_true, idx_ok hi, Option.bind_some]
        obtain ⟨r, g1⟩ := hΦ x.l[i] (List.getElem_mem hi) (w64 (most - acc))
        rw [g1, Option.bind_some, w64_id (a := (i : Int) + 1) (by omega) (by omega)]
        exact Bk_loop7 hlen hΦ m (i + 1) _ hi (by omega)
      | false =>
        rw [cond_false]
        exact ⟨acc, rfl⟩
    · rw [ltB_f (by omega)]
      simp only [cond_false, Option.bind_some]
      exact ⟨acc, rfl⟩
theorem Bk_ok : ∀ (k : Nat) (x : Nod) (n : Nat) (most : Int), x.sz ≤ k → x.fits → x.sz + 1 ≤ n → ∃ r, ref02_Bulk n x most = some r
  | 0, x, n, most, h1, h2, h3 => by have := x.sz_eq; omega
  | k + 1, x, 0, most, h1, h2, h3 => by omega
  | k + 1, x, n + 1, most, h1, h2, h3 => by
    have hs := x.sz_eq
    obtain ⟨f1, f2, f3, f4, f5, f6⟩ := x.fits_iff.1 h2
    have hl := szN_len x.l
    have hlt := szT_len x.ts
    show ∃ r, ref02_Bulk_b n (ref02_Bulk_F.fs n) x most = some r
    unfold ref02_Bulk_b
    obtain ⟨r0, t1⟩ := bk_ok k x.t n most (by omega) f4 (by omega)
    rw [t1, Option.bind_some]
    obtain ⟨r1, g1⟩ := Bk_loop3 (n := n) (most := most) (Φ := ref02_Bulk_F.fs n) f2 (fun t ht q => bk_ok k t n q (by have := szT_mem ht; omega) (fitsT_mem f5 ht) (by have := szT_mem ht; omega)) n 0 (w64 ((List.length x.s : Int) + r0)) (Nat.zero_le _) (by omega)
    have g1 : ref02_Bulk_l3 n (ref02_Bulk_F.fs n) most x n (w64 ((List.length x.s : Int) + r0)) 0 = some r1 := g1
    rw [g1, Option.bind_some]
    obtain ⟨r2, k1⟩ := Bk_loop7 (n := n) (most := most) (Φ := ref02_Bulk_F.fs n) f3 (fun y hy q => Bk_ok k y n q (by have := szN_mem hy; omega) (fitsN_mem f6 hy) (by have := szN_mem hy; omega)) n 0 r1 (Nat.zero_le _) (by omega)
    have k1 : ref02_Bulk_l7 n (ref02_Bulk_F.fs n) most x n r1 0 = some r2 := k1
    rw [k1]
    exact ⟨r2, rfl⟩
/-- what is not too big has few nodes -/
theorem big_ok (x : Nod) (n : Nat) (hf : x.fits) (hn : x.sz + 1 ≤ n) : ∃ b, law02_big n x = some b ∧ (b = false → x.cnt ≤ 6000) := by
  unfold law02_big
  obtain ⟨r, g1, g2, g3, g4⟩ := nd_ok (most := 6001) (by omega) x.sz x n (Nat.le_refl _) hf hn
  rw [g1, Option.bind_some]
  by_cases hr : 6000 < r
  · rw [ltB_t hr]
    exact ⟨true, rfl, fun h => by cases h⟩
  · rw [ltB_f hr]
    obtain ⟨r2, k1⟩ := Bk_ok x.sz x n 20001 (Nat.le_refl _) hf hn
    rw [k1]
    refine ⟨ltB 20000 r2, rfl, fun _ => ?_⟩
    have := g4 (by omega)
    omega

theorem eqS_refl (s : Str) : eqS s s = true := by simp [eqS]
/- lists, one element by one -/
def allB {α : Type} (e : α → α → Bool) : List α → List α → Bool
  | [], [] => true
  | x :: r, y :: q => e x y && allB e r q
  | _, _ => false
theorem allB_len {α : Type} {e : α → α → Bool} : ∀ {a b : List α}, a.length ≠ b.length → allB e a b = false
  | [], [], h => absurd rfl h
  | [], _ :: _, _ => rfl
  | _ :: _, [], _ => rfl
  | x :: r, y :: q, h => by
    simp only [allB]
    rw [allB_len (a := r) (b := q) (fun h2 => h (by simp [h2])), Bool.and_false]
theorem allB_refl {α : Type} {e : α → α → Bool} : ∀ {a : List α}, (∀ x ∈ a, e x x = true) → allB e a a = true
  | [], _ => rfl
  | x :: r, h => by
    simp only [allB]
    rw [h x (by simp), allB_refl (fun y hy => h y (by simp [hy]))]; rfl
theorem allB_map {α : Type} {e : α → α → Bool} {g : α → α} : ∀ {a : List α}, (∀ x ∈ a, e x (g x) = true) → allB e a (a.map g) = true
  | [], _ => rfl
  | x :: r, h => by
    simp only [List.map_cons, allB]
    rw [h x (by simp), allB_map (fun y hy => h y (by simp [hy]))]; rfl
def gl {α : Type} (f : α → α → Option Bool) (a b : List α) : Nat → Int → Option (Lr (Unit) (Bool))
  | 0, _ => none
  | m + 1, x503 =>
      cond (ltB x503 (List.length a : Int)) (
      (idx' a x503).bind fun x3 =>
      (idx' b x503).bind fun x4 =>
      (f x3 x4).bind fun r5 =>
      cond (!r5) (
      some (.out (false))) (
      gl f a b m (w64 (x503 + 1)))) (
      some (.brk ()))
theorem gl_ok {α : Type} {f : α → α → Option Bool} {e : α → α → Bool} {a b : List α} (hl : a.length = b.length) (hM : a.length ≤ M63) (hf : ∀ x ∈ a, ∀ y, f x y = some (e x y)) :
    ∀ (m i : Nat), i ≤ a.length → a.length - i < m → gl f a b m (i : Int) = some (cond (allB e (a.drop i) (b.drop i)) (.brk ()) (.out false))
  | 0, i, h1, h2 => by omega
  | m + 1, i, h1, h2 => by
    simp only [gl]
    have hM2 := hM
    unfold M63 at hM
    by_cases hi : i < a.length
    · have hb : i < b.length := by omega
      rw [ltB_t (by omega), cond_true, idx_ok hi, Option.bind_some, idx_ok hb, Option.bind_some, hf _ (List.getElem_mem hi), Option.bind_some]
      rw [List.drop_eq_getElem_cons hi, List.drop_eq_getElem_cons hb]
      simp only [allB]
      cases he : e a[i] b[i] with
      | false => simp
      | true =>
        simp only [Bool.not_true, cond_false, Bool.true_and]
        rw [w64_id (by omega) (by omega)]
        exact gl_ok hl hM2 hf m (i + 1) hi (by omega)
    · rw [ltB_f (by omega), cond_false, List.drop_eq_nil_of_le (by omega), List.drop_eq_nil_of_le (by omega)]
      simp [allB]
theorem gl_all {α : Type} {f : α → α → Option Bool} {e : α → α → Bool} {a b : List α} {n : Nat} (hM : a.length ≤ M63) (hn : a.length < n) (hf : ∀ x ∈ a, ∀ y, f x y = some (e x y)) :
    (cond (!eqB (List.length a : Int) (List.length b : Int)) (some (false)) (bindL (α := Unit) (gl f a b n 0) fun _ => some (true))) = some (allB e a b) := by
  by_cases hl : a.length = b.length
  · rw [eqB_t (by omega)]
    simp only [Bool.not_true, cond_false]
    have h : gl f a b n 0 = some (cond (allB e a b) (.brk ()) (.out false)) := gl_ok hl hM hf n 0 (Nat.zero_le _) (by omega)
    rw [h]
    cases allB e a b <;> rfl
  · rw [eqB_f (by omega), allB_len hl]; rfl
/- when types, when nodes are the same -/
mutual
def eqT : Typ → Typ → Bool
  | ⟨k, s, n, a⟩, u => eqB k u.kind && eqS s u.name && eqB n u.n && eqTs a u.args
def eqTs : List Typ → List Typ → Bool
  | [], [] => true
  | x :: r, y :: q => eqT x y && eqTs r q
  | _, _ => false
end
theorem eqTs_all : ∀ a b : List Typ, eqTs a b = allB eqT a b
  | [], [] => by rw [eqTs, allB]
  | [], _ :: _ => by rw [eqTs, allB] <;> simp
  | _ :: _, [] => by rw [eqTs, allB] <;> simp
  | x :: r, y :: q => by rw [eqTs, allB, eqTs_all r q]
theorem eqT_eq (t u : Typ) : eqT t u = (eqB t.kind u.kind && eqS t.name u.name && eqB t.n u.n && allB eqT t.args u.args) := by
  cases t; rw [eqT, eqTs_all]
mutual
def eqN : Nod → Nod → Bool
  | ⟨o, s, n, t, ts, l, _⟩, u => eqB o u.op && eqS s u.s && eqB n u.n && eqT t u.t && allB eqT ts u.ts && eqNs l u.l
def eqNs : List Nod → List Nod → Bool
  | [], [] => true
  | x :: r, y :: q => eqN x y && eqNs r q
  | _, _ => false
end
theorem eqNs_all : ∀ a b : List Nod, eqNs a b = allB eqN a b
  | [], [] => by rw [eqNs, allB]
  | [], _ :: _ => by rw [eqNs, allB] <;> simp
  | _ :: _, [] => by rw [eqNs, allB] <;> simp
  | x :: r, y :: q => by rw [eqNs, allB, eqNs_all r q]
theorem eqN_eq (t u : Nod) : eqN t u = (eqB t.op u.op && eqS t.s u.s && eqB t.n u.n && eqT t.t u.t && allB eqT t.ts u.ts && allB eqN t.l u.l) := by
  cases t; rw [eqN, eqNs_all]
theorem eqT_refl : ∀ (k : Nat) (t : Typ), t.sz ≤ k → eqT t t = true
  | 0, t, h => by have := t.sz_pos; omega
  | k + 1, t, h => by
    have hs := t.sz_eq
    rw [eqT_eq, eqB_t rfl, eqS_refl, eqB_t rfl, allB_refl (fun y hy => eqT_refl k y (by have := szT_mem hy; omega))]; rfl
theorem eqN_moved : ∀ (k : Nat) (x : Nod), x.sz ≤ k → eqN x (movedN x) = true ∧ eqN x x = true
  | 0, x, h => by have := x.sz_eq; omega
  | k + 1, x, h => by
    have hs := x.sz_eq
    have e1 : (movedN x).op = x.op ∧ (movedN x).s = x.s ∧ (movedN x).n = x.n ∧ (movedN x).t = x.t ∧ (movedN x).ts = x.ts ∧ (movedN x).l = x.l.map movedN := by
      cases x; rw [movedN, movedL_map]; exact ⟨rfl, rfl, rfl, rfl, rfl, rfl⟩
    obtain ⟨g1, g2, g3, g4, g5, g6⟩ := e1
    have ht : allB eqT x.ts x.ts = true := allB_refl fun y _ => eqT_refl y.sz y (Nat.le_refl _)
    rw [eqN_eq, eqN_eq, g1, g2, g3, g4, g5, g6, eqB_t rfl, eqS_refl, eqB_t rfl, eqT_refl _ _ (Nat.le_refl _), ht,
      allB_map (fun y hy => (eqN_moved k y (by have := szN_mem hy; omega)).1), allB_refl (fun y hy => (eqN_moved k y (by have := szN_mem hy; omega)).2)]
    exact ⟨rfl, rfl⟩
/- the program's answer -/
theorem pl4_eq (n : Nat) (Φ : parse_sameType_F) (a b : List Typ) : ∀ m i, parse_sameList_Type_l4 n Φ a b m i = gl Φ.parse_sameType a b m i
  | 0, i => rfl
  | m + 1, i => by simp only [parse_sameList_Type_l4, gl, pl4_eq n Φ a b m]
theorem pst_ok : ∀ (k : Nat) (t u : Typ) (n : Nat), t.sz ≤ k → t.fits → 2 * t.sz + 1 ≤ n → (parse_sameType_F.fs n).parse_sameType t u = some (eqT t u)
  | 0, t, u, n, h1, h2, h3 => by have := t.sz_pos; omega
  | k + 1, t, u, 0, h1, h2, h3 => by omega
  | k + 1, t, u, 1, h1, h2, h3 => by have := t.sz_pos; omega
  | k + 1, t, u, n + 2, h1, h2, h3 => by
    have hs := t.sz_eq
    obtain ⟨f1, f2, f3⟩ := t.fits_iff.1 h2
    have hl := szT_len t.args
    show parse_sameType_b (n + 1) (parse_sameType_F.fs (n + 1)) t u = some (eqT t u)
    unfold parse_sameType_b
    have h : (parse_sameType_F.fs (n + 1)).parse_sameList_Type t.args u.args = some (allB eqT t.args u.args) := by
      show parse_sameList_Type_b n (parse_sameType_F.fs n) t.args u.args = _
      unfold parse_sameList_Type_b
      rw [pl4_eq]
      exact gl_all f2 (by omega) fun x hx y => pst_ok k x y n (by have := szT_mem hx; omega) (fitsT_mem f3 hx) (by have := szT_mem hx; omega)
    rw [h, eqT_eq]
    cases eqB t.kind u.kind <;> cases eqS t.name u.name <;> cases eqB t.n u.n <;> rfl
theorem psl_ok {a b : List Typ} {n : Nat} (hM : a.length ≤ M63) (hf : fitsT a) (hn : 2 * szT a + 2 ≤ n) : parse_sameList_Type n a b = some (allB eqT a b) := by
  have hl := szT_len a
  cases n with
  | zero => omega
  | succ n =>
    show parse_sameList_Type_b n (parse_sameType_F.fs n) a b = _
    unfold parse_sameList_Type_b
    rw [pl4_eq]
    exact gl_all hM (by omega) fun x hx y => pst_ok x.sz x y n (Nat.le_refl _) (fitsT_mem hf hx) (by have := szT_mem hx; omega)
theorem pn4_eq (n : Nat) (Φ : parse_Same_F) (a b : List Nod) : ∀ m i, parse_sameList_Node_l4 n Φ a b m i = gl Φ.parse_Same a b m i
  | 0, i => rfl
  | m + 1, i => by simp only [parse_sameList_Node_l4, gl, pn4_eq n Φ a b m]
theorem psn_ok : ∀ (k : Nat) (x u : Nod) (n : Nat), x.sz ≤ k → x.fits → 2 * x.sz + 2 ≤ n → (parse_Same_F.fs n).parse_Same x u = some (eqN x u)
  | 0, x, u, n, h1, h2, h3 => by have := x.sz_eq; omega
  | k + 1, x, u, 0, h1, h2, h3 => by omega
  | k + 1, x, u, 1, h1, h2, h3 => by omega
  | k + 1, x, u, n + 2, h1, h2, h3 => by
    have hs := x.sz_eq
    obtain ⟨f1, f2, f3, f4, f5, f6⟩ := x.fits_iff.1 h2
    have hl := szN_len x.l
    show parse_Same_b (n + 1) (parse_Same_F.fs (n + 1)) x u = some (eqN x u)
    unfold parse_Same_b
    have e1 : parse_sameType (n + 1) x.t u.t = some (eqT x.t u.t) := pst_ok x.t.sz x.t u.t (n + 1) (Nat.le_refl _) f4 (by omega)
    have e2 : parse_sameList_Type (n + 1) x.ts u.ts = some (allB eqT x.ts u.ts) := psl_ok f2 f5 (by omega)
    have e3 : (parse_Same_F.fs (n + 1)).parse_sameList_Node x.l u.l = some (allB eqN x.l u.l) := by
      show parse_sameList_Node_b n (parse_Same_F.fs n) x.l u.l = _
      unfold parse_sameList_Node_b
      rw [pn4_eq]
      exact gl_all f3 (by omega) fun y hy z => psn_ok k y z n (by have := szN_mem hy; omega) (fitsN_mem f6 hy) (by have := szN_mem hy; omega)
    rw [e1, e2, e3, eqN_eq]
    cases eqB x.op u.op <;> cases eqS x.s u.s <;> cases eqB x.n u.n <;> cases eqT x.t u.t <;> cases allB eqT x.ts u.ts <;> rfl
/- the document's answer -/
theorem rl4_eq (n : Nat) (Φ : ref00_EqType_F) (a b : List Typ) : ∀ m i, ref00_EqTypes_l4 n Φ a b m i = gl Φ.ref00_EqType a b m i
  | 0, i => rfl
  | m + 1, i => by simp only [ref00_EqTypes_l4, gl, rl4_eq n Φ a b m]
theorem rst_ok : ∀ (k : Nat) (t u : Typ) (n : Nat), t.sz ≤ k → t.fits → 2 * t.sz + 1 ≤ n → (ref00_EqType_F.fs n).ref00_EqType t u = some (eqT t u)
  | 0, t, u, n, h1, h2, h3 => by have := t.sz_pos; omega
  | k + 1, t, u, 0, h1, h2, h3 => by omega
  | k + 1, t, u, 1, h1, h2, h3 => by have := t.sz_pos; omega
  | k + 1, t, u, n + 2, h1, h2, h3 => by
    have hs := t.sz_eq
    obtain ⟨f1, f2, f3⟩ := t.fits_iff.1 h2
    have hl := szT_len t.args
    show ref00_EqType_b (n + 1) (ref00_EqType_F.fs (n + 1)) t u = some (eqT t u)
    unfold ref00_EqType_b
    have h : (ref00_EqType_F.fs (n + 1)).ref00_EqTypes t.args u.args = some (allB eqT t.args u.args) := by
      show ref00_EqTypes_b n (ref00_EqType_F.fs n) t.args u.args = _
      unfold ref00_EqTypes_b
      rw [rl4_eq]
      exact gl_all f2 (by omega) fun x hx y => rst_ok k x y n (by have := szT_mem hx; omega) (fitsT_mem f3 hx) (by have := szT_mem hx; omega)
    rw [h, eqT_eq]
    cases eqB t.kind u.kind <;> cases eqS t.name u.name <;> cases eqB t.n u.n <;> rfl
theorem rsl_ok {a b : List Typ} {n : Nat} (hM : a.length ≤ M63) (hf : fitsT a) (hn : 2 * szT a + 2 ≤ n) : ref00_EqTypes n a b = some (allB eqT a b) := by
  have hl := szT_len a
  cases n with
  | zero => omega
  | succ n =>
    show ref00_EqTypes_b n (ref00_EqType_F.fs n) a b = _
    unfold ref00_EqTypes_b
    rw [rl4_eq]
    exact gl_all hM (by omega) fun x hx y => rst_ok x.sz x y n (Nat.le_refl _) (fitsT_mem hf hx) (by have := szT_mem hx; omega)
theorem rn4_eq (n : Nat) (Φ : ref00_EqNode_F) (a b : List Nod) (q : Bool) : ∀ m i, ref00_EqNodes_l4 n Φ a q b m i = gl (fun x y => Φ.ref00_EqNode x y q) a b m i
  | 0, i => rfl
  | m + 1, i => by simp only [ref00_EqNodes_l4, gl, rn4_eq n Φ a b q m]
theorem rsn_ok : ∀ (k : Nat) (x u : Nod) (n : Nat), x.sz ≤ k → x.fits → 2 * x.sz + 2 ≤ n → (ref00_EqNode_F.fs n).ref00_EqNode x u false = some (eqN x u)
  | 0, x, u, n, h1, h2, h3 => by have := x.sz_eq; omega
  | k + 1, x, u, 0, h1, h2, h3 => by omega
  | k + 1, x, u, 1, h1, h2, h3 => by omega
  | k + 1, x, u, n + 2, h1, h2, h3 => by
    have hs := x.sz_eq
    obtain ⟨f1, f2, f3, f4, f5, f6⟩ := x.fits_iff.1 h2
    have hl := szN_len x.l
    show ref00_EqNode_b (n + 1) (ref00_EqNode_F.fs (n + 1)) x u false = some (eqN x u)
    unfold ref00_EqNode_b
    have e1 : ref00_EqType (n + 1) x.t u.t = some (eqT x.t u.t) := rst_ok x.t.sz x.t u.t (n + 1) (Nat.le_refl _) f4 (by omega)
    have e2 : ref00_EqTypes (n + 1) x.ts u.ts = some (allB eqT x.ts u.ts) := rsl_ok f2 f5 (by omega)
    have e3 : (ref00_EqNode_F.fs (n + 1)).ref00_EqNodes x.l u.l false = some (allB eqN x.l u.l) := by
      show ref00_EqNodes_b n (ref00_EqNode_F.fs n) x.l u.l false = _
      unfold ref00_EqNodes_b
      rw [rn4_eq]
      exact gl_all f3 (by omega) fun y hy z => rsn_ok k y z n (by have := szN_mem hy; omega) (fitsN_mem f6 hy) (by have := szN_mem hy; omega)
    rw [e1, e2, e3, eqN_eq]
    cases eqB x.op u.op <;> cases eqS x.s u.s <;> cases eqB x.n u.n <;> cases eqT x.t u.t <;> cases allB eqT x.ts u.ts <;> rfl
theorem cntN_len : ∀ l : List Nod, l.length ≤ cntN l
  | [] => Nat.le_refl _
  | x :: r => by have := cntN_len r; have := x.cnt_eq; simp only [cntN, List.length_cons]; omega
theorem smallL_of : ∀ {l : List Nod}, (∀ x ∈ l, smallN x = true) → smallL l = true
  | [], _ => by rw [smallL]
  | x :: r, h => by rw [smallL, h x (by simp), smallL_of fun y hy => h y (by simp [hy])]; rfl
theorem small_of : ∀ (k : Nat) (x : Nod), x.sz ≤ k → x.cnt ≤ 6000 → smallN x = true
  | 0, x, h, _ => by have := x.sz_eq; omega
  | k + 1, x, h, hc => by
    have hs := x.sz_eq
    have hn := x.cnt_eq
    have hl := cntN_len x.l
    have e : smallN x = (decide (x.l.length ≤ 1000000) && smallL x.l) := by cases x; rw [smallN]
    rw [e, smallL_of (fun y hy => small_of k y (by have := szN_mem hy; omega) (by have := cntN_mem hy; omega))]
    simp
    omega
/-- the first example is parsed and printed as it stands there -/
theorem awake_ok : law02_awake = some true := by
  unfold law02_awake
  have h1 : modG [102, 117, 110, 99, 32, 102, 40, 120, 58, 32, 73, 110, 116, 41, 32, 45, 62, 32, 73, 110, 116, 32, 123, 32, 114, 101, 116, 117, 114, 110, 32, 120, 32, 43, 32, 50, 32, 42, 32, 51, 59, 32, 125] = some (nodA, []) := by
    unfold modG
    rw [show decide (_ = srcA) = true from by decide]
  rw [h1, Option.bind_some]
  simp only [List.length_nil]
  rw [show eqB ((0 : Nat) : Int) 0 = true from eqB_t rfl, cond_true]
  have h2 : printG nodA = some (printed [lineA]) := by
    unfold printG
    have h3 := printA_E
    unfold c1Nod at h3
    rw [h3]
  rw [h2, Option.bind_some]
  have h4 : eqS (printed [lineA]) [102, 117, 110, 99, 32, 102, 32, 40, 32, 120, 32, 58, 32, 73, 110, 116, 32, 41, 32, 45, 62, 32, 73, 110, 116, 32, 123, 32, 114, 101, 116, 117, 114, 110, 32, 40, 32, 120, 32, 43, 32, 40, 32, 50, 32, 42, 32, 51, 32, 41, 32, 41, 32, 59, 32, 125, 10] = true := by
    have : printed [lineA] = [102, 117, 110, 99, 32, 102, 32, 40, 32, 120, 32, 58, 32, 73, 110, 116, 32, 41, 32, 45, 62, 32, 73, 110, 116, 32, 123, 32, 114, 101, 116, 117, 114, 110, 32, 40, 32, 120, 32, 43, 32, 40, 32, 50, 32, 42, 32, 51, 32, 41, 32, 41, 32, 59, 32, 125, 10] := by decide
    rw [this, eqS_refl]
  rw [h4]
/-- the law -/
theorem same_true (x y : Nod) (hx : x.fits) (hy : y.fits) : ∃ n, law02_ParseSame n x y = some true := by
  refine ⟨2 * x.sz + 2 * y.sz + 2, ?_⟩
  unfold law02_ParseSame
  obtain ⟨b, g1, g2⟩ := big_ok x (2 * x.sz + 2 * y.sz + 2) hx (by omega)
  obtain ⟨c, k1, k2⟩ := big_ok y (2 * x.sz + 2 * y.sz + 2) hy (by omega)
  rw [g1, Option.bind_some, k1, Option.bind_some]
  have e1 : movedG x = match smallN x with | true => some (movedN x) | false => none := rfl
  cases b with
  | true => rw [cond_true, Option.bind_some, cond_true, awake_ok]; rfl
  | false =>
    rw [cond_false]
    cases c with
    | true => rw [Option.bind_some, cond_true, awake_ok]; rfl
    | false =>
      rw [Option.bind_some, cond_false, e1, small_of x.sz x (Nat.le_refl _) (g2 rfl)]
      simp only
      have p1 : ∀ u, parse_Same (2 * x.sz + 2 * y.sz + 2) x u = some (eqN x u) := fun u => psn_ok x.sz x u _ (Nat.le_refl _) hx (by omega)
      have p2 : ref02_Same (2 * x.sz + 2 * y.sz + 2) x y = some (eqN x y) := by
        unfold ref02_Same
        rw [show ref00_EqNode (2 * x.sz + 2 * y.sz + 2) x y false = some (eqN x y) from rsn_ok x.sz x y _ (Nat.le_refl _) hx (by omega)]
        rfl
      obtain ⟨m1, m2⟩ := eqN_moved x.sz x (Nat.le_refl _)
      rw [Option.bind_some, p1, Option.bind_some, p2, Option.bind_some, beq_self_eq_true, cond_true, p1, Option.bind_some, m2, cond_true, p1, Option.bind_some, m1, cond_true, awake_ok]
      rfl
end Go.Proofs.YtmonfppdiehlpaaGreatDoor
/- A node that is handed in reads as a node in plain Lean. (Printed by a program.) -/
namespace Go.Proofs.YtmonfppdiehlpaaGreatDoor
set_option linter.unusedSimpArgs false
set_option linter.unusedVariables false
set_option linter.unusedSectionVars false
open Go Go.Vm
set_option linter.unusedVariables false
set_option linter.unusedSimpArgs false
set_option maxRecDepth 20000
structure Rd (W : World) (vs : List V) (cs : List Value) : Prop where
  rel : RelL rho0 lab0 W vs cs
  nf : ∀ v ∈ vs, NF v
  one : ∀ x ∈ cs, x.oneCell' = true
theorem Rd.nil (W : World) : Rd W [] [] := ⟨⟨rfl, by simp⟩, by simp, by simp⟩
theorem Rd.cons {W : World} {v : V} {x : Value} {vs : List V} {cs : List Value} (h : Rel rho0 lab0 W v x) (hn : NF v) (ho : x.oneCell' = true) (g : Rd W vs cs) : Rd W (v :: vs) (x :: cs) :=
  ⟨relL_cons_iff.2 ⟨_, _, rfl, h, g.rel⟩, fun u hu => (List.mem_cons.1 hu).elim (fun e => e ▸ hn) (g.nf u), fun u hu => (List.mem_cons.1 hu).elim (fun e => e ▸ ho) (g.one u)⟩
theorem Rd.append {W : World} {vs us : List V} {cs ds : List Value} (h : Rd W vs cs) (g : Rd W us ds) : Rd W (vs ++ us) (cs ++ ds) :=
  ⟨RelL.append h.rel g.rel, fun u hu => (List.mem_append.1 hu).elim (h.nf u) (g.nf u), fun u hu => (List.mem_append.1 hu).elim (h.one u) (g.one u)⟩
theorem ex_list {α : Type} {Q : Nat → α → Prop} : ∀ n, (∀ i, i < n → ∃ x, Q i x) → ∃ l : List α, l.length = n ∧ ∀ i x, l[i]? = some x → Q i x
  | 0, _ => ⟨[], rfl, fun i x h => by simp at h⟩
  | n + 1, h => by
    obtain ⟨l, h1, h2⟩ := ex_list n fun i hi => h i (by omega)
    obtain ⟨x, hx⟩ := h n (by omega)
    refine ⟨l ++ [x], by simp [h1], fun i y hy => ?_⟩
    rw [List.getElem?_append] at hy
    split at hy
    · exact h2 i y hy
    · rename_i hi
      have : i = n := by
        rcases Nat.lt_or_ge (i - l.length) 1 with h3 | h3
        · omega
        · rw [List.getElem?_eq_none (by simpa using h3)] at hy; cases hy
      subst this
      rw [h1, Nat.sub_self] at hy
      simp at hy
      subst hy
      exact hx
theorem rd_list {α : Type} {sz : Nat} {c1 : α → List V} {cl : List α → List V} (he : IsEnc sz c1 cl) (hsz : 0 < sz) {F : α → Prop} {W : World} {a : Addr} {len cap : Nat} (hlc : len ≤ cap)
    (hel : ∀ i, i < len → ∃ cs, W.cells? 0 (a.add (i * sz)) sz = some cs ∧ ∃ x, Rd W (c1 x) cs ∧ F x) :
    ∃ l : List α, l.length = len ∧ (∀ x ∈ l, F x) ∧ Rel rho0 lab0 W (.slice .sealed (List.length l) (cl l)) (.slice (some a) len cap) ∧ NF (.slice .sealed (List.length l) (cl l)) := by
  obtain ⟨l, h1, h2⟩ := ex_list (Q := fun i x => ∃ cs, W.cells? 0 (a.add (i * sz)) sz = some cs ∧ Rd W (c1 x) cs ∧ F x) len fun i hi => by
    obtain ⟨cs, g1, x, g2, g3⟩ := hel i hi
    exact ⟨x, cs, g1, g2, g3⟩
  subst h1
  have hF : ∀ x ∈ l, F x := fun x hx => by
    obtain ⟨i, hi⟩ := List.getElem?_of_mem hx
    obtain ⟨_, _, _, h⟩ := h2 i x hi
    exact h
  have hlen := he.length l
  -- a cell of the whole: of which element
  have part : ∀ q v, (cl l)[q]? = some v → ∃ x cs, l[q / sz]? = some x ∧ W.cells? 0 (a.add (q / sz * sz)) sz = some cs ∧ Rd W (c1 x) cs ∧ (c1 x)[q % sz]? = some v := by
    intro q v hv
    have hq : q < l.length * sz := by
      rw [← hlen]
      rcases Nat.lt_or_ge q (cl l).length with h | h
      · exact h
      · rw [List.getElem?_eq_none h] at hv; cases hv
    have hi : q / sz < l.length := Nat.div_lt_of_lt_mul (by rw [Nat.mul_comm]; exact hq)
    have hx : l[q / sz]? = some l[q / sz] := List.getElem?_eq_getElem hi
    obtain ⟨cs, g1, g2, g3⟩ := h2 _ _ hx
    refine ⟨_, cs, hx, g1, g2, ?_⟩
    have h3 := he.at hx
    have h4 : ((cl l).drop (q / sz * sz))[q % sz]? = some v := by
      rw [List.getElem?_drop, Nat.mul_comm, Nat.div_add_mod]; exact hv
    rw [h3, List.getElem?_append_left (by rw [he.len]; exact Nat.mod_lt _ hsz)] at h4
    exact h4
  refine ⟨l, rfl, hF, ?_, .slice _ _ _ (fun g h => by cases h) (fun v hv => ?_)⟩
  · rcases Nat.eq_zero_or_pos l.length with h0 | h0
    · have : l = [] := List.length_eq_zero_iff.1 h0
      subst this
      rw [he.nil]
      exact .slice _ 0 [] [] 0 0 (some a) cap rfl (Nat.zero_le _) (fun h => by omega) (fun _ => rfl) (fun i x h => by simp at h) (fun i v x h => by simp at h) trivial (by simp) (by simp)
    · -- the address is a plain one
      have hs : a.spot = none := by
        obtain ⟨cs, g1, g2, g3⟩ := h2 0 l[0] (List.getElem?_eq_getElem h0)
        obtain ⟨_, c2, c3⟩ := World.cells?_some g1
        have c4 := c3 0 hsz
        simp only [Nat.zero_mul, Addr.add, if_true] at c4
        have hc : 0 < cs.length := by omega
        rw [List.getElem?_eq_getElem hc] at c4
        unfold World.cell? at c4
        split at c4
        · split at c4
          · cases c4
          · rename_i hsp
            cases hq : a.spot with
            | none => rfl
            | some s => rw [hq] at hsp; simp at hsp
        · cases c4
      obtain ⟨b, o, sp⟩ := a
      simp only at hs
      subst hs
      have hadd : ∀ o n, (⟨b, o, none⟩ : Addr).add n = ⟨b, o + n, none⟩ := fun o n => by
        unfold Addr.add
        split
        · rename_i h; subst h; rfl
        · rfl
      have cells : ∀ q v, (cl l)[q]? = some v → ∃ x, W.cell? ⟨b, o + q, none⟩ = some x ∧ Rel rho0 lab0 W v x ∧ x.oneCell' = true := by
        intro q v hv
        obtain ⟨x, cs, _, g1, g2, g3⟩ := part q v hv
        obtain ⟨_, c2, c3⟩ := World.cells?_some g1
        have c4 := c3 (q % sz) (Nat.mod_lt _ hsz)
        rw [hadd, hadd, Nat.add_assoc, Nat.mul_comm, Nat.div_add_mod] at c4
        have hj : q % sz < cs.length := by rw [c2]; exact Nat.mod_lt _ hsz
        rw [List.getElem?_eq_getElem hj] at c4
        exact ⟨_, c4, g2.rel.2 _ _ _ g3 (List.getElem?_eq_getElem hj), g2.one _ (List.getElem_mem hj)⟩
      have hget : ∀ q, q < (cl l).length → ∃ x, W.cell? ⟨b, o + q, none⟩ = some x ∧ Rel rho0 lab0 W ((cl l)[q]?.getD .undef) x ∧ x.oneCell' = true := fun q hq => by
        have hv : (cl l)[q]? = some (cl l)[q] := List.getElem?_eq_getElem hq
        rw [hv]
        exact cells q _ hv
      obtain ⟨xs, e1, e2⟩ := ex_list (cl l).length hget
      refine .slice _ l.length (cl l) xs b o (some ⟨b, o, none⟩) cap e1 hlc (fun _ => rfl) (fun h => by omega) (fun i x hx => ⟨rfl, (e2 i x hx).1⟩) (fun i v x hv hx => ?_) trivial (fun x hx => ?_) (fun v hv => ?_)
      · have := (e2 i x hx).2.1
        rw [hv] at this
        exact this
      · obtain ⟨i, hi⟩ := List.getElem?_of_mem hx
        exact (e2 i x hi).2.2
      · obtain ⟨q, hq⟩ := List.getElem?_of_mem hv
        obtain ⟨x, cs, _, _, g2, g3⟩ := part q v hq
        exact g2.nf v (List.mem_of_getElem? g3)
  · obtain ⟨q, hq⟩ := List.getElem?_of_mem hv
    obtain ⟨x, cs, _, _, g2, g3⟩ := part q v hq
    exact g2.nf v (List.mem_of_getElem? g3)
theorem four {α : Type} (l : List α) (h : l.length = 4) : ∃ y0 y1 y2 y3, l = [y0, y1, y2, y3] := by
  match l, h with
  | [y0, y1, y2, y3], _ => exact ⟨_, _, _, _, rfl⟩
theorem maxLen_eq : maxLen = M63 := by kernel_rfl
theorem fitsT_of : ∀ {l : List Typ}, (∀ x ∈ l, x.fits) → fitsT l
  | [], _ => trivial
  | x :: r, h => ⟨h x (by simp), fitsT_of fun y hy => h y (by simp [hy])⟩
theorem fitsN_of : ∀ {l : List Nod}, (∀ x ∈ l, x.fits) → fitsN l
  | [], _ => trivial
  | x :: r, h => ⟨h x (by simp), fitsN_of fun y hy => h y (by simp [hy])⟩

section
variable {H : Type} {enc : TypeId × Value → H} {W : World} {spare : Nat → Bool} {held : Bool}
theorem cellsTy : Tryz.prog.cellsOf 26 = 4 := by kernel_rfl
theorem cellsNd : Tryz.prog.cellsOf 29 = 10 := by kernel_rfl
theorem cellsI : Tryz.prog.cellsOf 3 = 1 := by kernel_rfl
theorem cellsS : Tryz.prog.cellsOf 9 = 1 := by kernel_rfl
theorem cellsSty : Tryz.prog.cellsOf 24 = 1 := by kernel_rfl
theorem cellsSnd : Tryz.prog.cellsOf 27 = 1 := by kernel_rfl
theorem rd_slice {α : Type} {sz t e : Nat} {c1 : α → List V} {cl : List α → List V} (he : IsEnc sz c1 cl) (hsz : 0 < sz) {F : α → Prop} {n : Nat} {cs : List Value} {x : DataW H × List MemPlace} (ht : Tryz.prog.underlying t = some (.slice e)) (hc : Tryz.prog.cellsOf e = sz)
    (hel : ∀ m cs x, m < n → DataW.trod enc Tryz.prog W 0 spare held m e cs = some x → ∃ a, Rd W (c1 a) cs ∧ F a) (h : DataW.trod enc Tryz.prog W 0 spare held n t cs = some x) :
    ∃ l : List α, (∀ a ∈ l, F a) ∧ l.length ≤ M63 ∧ Rd W [.slice .sealed (List.length l) (cl l)] cs := by
  rcases DataW.trod_slice ht h with ⟨rfl, _⟩ | ⟨a, len, cap, elems, rest, m, rfl, rfl, _, hb, hl, hm, hlen, hE, _⟩
  · refine ⟨[], by simp, by simp [M63], ?_⟩
    rw [he.nil]
    exact Rd.cons (.slice _ 0 [] [] 0 0 none 0 rfl (Nat.zero_le _) (fun h => by omega) (fun _ => rfl) (fun i x h => by simp at h) (fun i v x h => by simp at h) trivial (by simp) (by simp)) (.slice _ _ _ (fun g h => by cases h) (by simp)) rfl (Rd.nil W)
  · obtain ⟨l, h1, h2, h3, h4⟩ := rd_list he hsz (F := F) (W := W) (a := a) hl (fun i hi => by
      have h5 := hE i hi
      rw [List.getElem?_eq_getElem (by rw [hlen]; exact hi), hc, Option.bind_eq_some_iff] at h5
      obtain ⟨ds, h6, h7⟩ := h5
      obtain ⟨y, h8, h9⟩ := hel m ds _ (Nat.lt_succ_self m) h7
      exact ⟨ds, h6, y, h8, h9⟩)
    refine ⟨l, h2, ?_, Rd.cons h3 h4 rfl (Rd.nil W)⟩
    rw [h1]
    rw [maxLen_eq] at hm
    omega
theorem rd_typ : ∀ (n : Nat) (cs : List Value) (x : DataW H × List MemPlace), DataW.trod enc Tryz.prog W 0 spare held n 26 cs = some x → ∃ t : Typ, Rd W (c1Typ t) cs ∧ t.fits := by
  intro n
  induction n using Nat.strongRecOn with
  | _ n ih =>
  intro cs x h
  obtain ⟨xs, m, rfl, _, hl, hxs, hf⟩ := DataW.trod_struct Tryz.underlying26 h
  rw [cellsTy] at hl
  obtain ⟨z0, z1, z2, z3, rfl⟩ : ∃ z0 z1 z2 z3, cs = [z0, z1, z2, z3] := by
    exact four cs hl
  have hx : ∀ i, i < 4 → ∃ y, xs[i]? = some y := fun i hi => ⟨xs[i]'(by rw [hxs]; exact hi), List.getElem?_eq_getElem _⟩
  obtain ⟨y0, k0⟩ := hx 0 (by omega)
  obtain ⟨y1, k1⟩ := hx 1 (by omega)
  obtain ⟨y2, k2⟩ := hx 2 (by omega)
  obtain ⟨y3, k3⟩ := hx 3 (by omega)
  have f0 := hf 0 _ rfl
  have f1 := hf 1 _ rfl
  have f2 := hf 2 _ rfl
  have f3 := hf 3 _ rfl
  simp only [k0, k1, k2, k3, cellsI, cellsS, cellsSty, List.drop, List.take] at f0 f1 f2 f3
  obtain ⟨a0, e0, _, _⟩ := DataW.trod_int Tryz.underlying3 f0
  obtain ⟨a1, e1, _, b1⟩ := DataW.trod_string Tryz.underlying9 f1
  obtain ⟨a2, e2, _, _⟩ := DataW.trod_int Tryz.underlying3 f2
  obtain ⟨l, l1, l2, l3⟩ := rd_slice encTyp (by omega) (F := Typ.fits) Tryz.underlying24 cellsTy (fun q cs x hq hh => ih q (by omega) cs x hh) f3
  obtain ⟨rfl, _⟩ := List.cons.inj e0
  obtain ⟨rfl, _⟩ := List.cons.inj e1
  obtain ⟨rfl, _⟩ := List.cons.inj e2
  refine ⟨⟨a0, a1.data.toList, a2, l⟩, ?_, ?_, l2, fitsT_of l1⟩
  · exact Rd.cons (.int _ _) (.int _ _) rfl (Rd.cons (.str a1.data.toList) (.str _) rfl (Rd.cons (.int _ _) (.int _ _) rfl l3))
  · rw [maxLen_eq] at b1
    exact b1
theorem rd_nod : ∀ (n : Nat) (cs : List Value) (x : DataW H × List MemPlace), DataW.trod enc Tryz.prog W 0 spare held n 29 cs = some x → ∃ t : Nod, Rd W (c1Nod t) cs ∧ t.fits := by
  intro n
  induction n using Nat.strongRecOn with
  | _ n ih =>
  intro cs x h
  obtain ⟨xs, m, rfl, _, hl, hxs, hf⟩ := DataW.trod_struct Tryz.underlying29 h
  rw [cellsNd] at hl
  obtain ⟨z0, z1, z2, z3, z4, z5, z6, z7, z8, z9, rfl⟩ : ∃ z0 z1 z2 z3 z4 z5 z6 z7 z8 z9, cs = [z0, z1, z2, z3, z4, z5, z6, z7, z8, z9] := ten cs hl
  have hx : ∀ i, i < 7 → ∃ y, xs[i]? = some y := fun i hi => ⟨xs[i]'(by rw [hxs]; exact hi), List.getElem?_eq_getElem _⟩
  obtain ⟨y0, k0⟩ := hx 0 (by omega)
  obtain ⟨y1, k1⟩ := hx 1 (by omega)
  obtain ⟨y2, k2⟩ := hx 2 (by omega)
  obtain ⟨y3, k3⟩ := hx 3 (by omega)
  obtain ⟨y4, k4⟩ := hx 4 (by omega)
  obtain ⟨y5, k5⟩ := hx 5 (by omega)
  obtain ⟨y6, k6⟩ := hx 6 (by omega)
  have f0 := hf 0 _ rfl
  have f1 := hf 1 _ rfl
  have f2 := hf 2 _ rfl
  have f3 := hf 3 _ rfl
  have f4 := hf 4 _ rfl
  have f5 := hf 5 _ rfl
  have f6 := hf 6 _ rfl
  simp only [k0, k1, k2, k3, k4, k5, k6, cellsI, cellsS, cellsTy, cellsSty, cellsSnd, List.drop, List.take] at f0 f1 f2 f3 f4 f5 f6
  obtain ⟨a0, e0, _, _⟩ := DataW.trod_int Tryz.underlying3 f0
  obtain ⟨a1, e1, _, b1⟩ := DataW.trod_string Tryz.underlying9 f1
  obtain ⟨a2, e2, _, _⟩ := DataW.trod_int Tryz.underlying3 f2
  obtain ⟨ty, t1, t2⟩ := rd_typ _ _ _ f3
  obtain ⟨l, l1, l2, l3⟩ := rd_slice encTyp (by omega) (F := Typ.fits) Tryz.underlying24 cellsTy (fun q cs x hq hh => rd_typ q cs x hh) f4
  obtain ⟨g, g1, g2, g3⟩ := rd_slice encNod (by omega) (F := Nod.fits) Tryz.underlying27 cellsNd (fun q cs x hq hh => ih q (by omega) cs x hh) f5
  obtain ⟨a6, e6, _, _⟩ := DataW.trod_int Tryz.underlying3 f6
  obtain ⟨rfl, _⟩ := List.cons.inj e0
  obtain ⟨rfl, _⟩ := List.cons.inj e1
  obtain ⟨rfl, _⟩ := List.cons.inj e2
  obtain ⟨rfl, _⟩ := List.cons.inj e6
  refine ⟨⟨a0, a1.data.toList, a2, ty, l, g, a6⟩, ?_, ?_, l2, g2, t2, fitsT_of l1, fitsN_of g1⟩
  · exact Rd.cons (.int _ _) (.int _ _) rfl (Rd.cons (.str a1.data.toList) (.str _) rfl (Rd.cons (.int _ _) (.int _ _) rfl (Rd.append t1 (Rd.append l3 (Rd.append g3 (Rd.cons (.int _ _) (.int _ _) rfl (Rd.nil W)))))))
  · rw [maxLen_eq] at b1
    exact b1
end
end Go.Proofs.YtmonfppdiehlpaaGreatDoor
/- moved copies a node, with other offsets: a proof by hand. -/
namespace Go.Vm
set_option linter.unusedSimpArgs false
set_option linter.unusedVariables false
set_option linter.unusedSectionVars false
section
variable {env : Env} {orc : Orc} {f nr : Nat} {ops : Array Oper} {o : Oper} {rest : List Oper} {fr fr1 : Fr} {H H1 : Hp} {K : Res → Prop}
theorem os_make {t e n : Nat} {a b : Operand} {y ye : Ty} {z : List V} (hw : wantedV ops o fr = some true) (ho : o.op = .makeSlice t a b)
    (ha : ev fr a = some (.int .i64 (n : Nat))) (hb : ev fr b = some (.int .i64 (n : Nat))) (h1 : tyOf t env.T = some y) (h2 : y.sh = .slice e) (h3 : tyOf e env.T = some ye)
    (hz : mapO plainCell ye.zero = some z) (hl : Nat.beq z.length ye.size = true) (hk : hget (newName o) H = none) (hn : n * (ye.bytes + 1) ≤ 70368744177664)
    (h : Os env orc ops rest (putO o.dst (.rslice (newName o) 0 n true) fr) (hset (newName o) (.grow ye.size (List.replicate n z).flatten) H) K) : Os env orc ops (o :: rest) fr H K := by
  have hp : isPure o.op = false := by rw [ho]; rfl
  refine os_eff0 hw hp ?_ h
  unfold opEff
  rw [ho]
  have c1 : leB 0 ((n : Nat) : Int) = true := by unfold leB; simp
  have c2 : leB ((n : Nat) : Int) (n : Nat) = true := by unfold leB; simp
  have c3 : leB (((n : Nat) : Int) * (ye.bytes + 1)) 70368744177664 = true := by
    unfold leB
    have : ((n * (ye.bytes + 1) : Nat) : Int) ≤ 70368744177664 := by omega
    simpa using this
  simp only [ha, hb, vMake, h1, h2, h3, hk, c1, c2, c3, Bool.and_self, gd, hz, hl, Int.toNat_natCast]
theorem os_idxR {t e r off n i : Nat} {wh : Bool} {k : IntKind} {a b : Operand} {y ye : Ty} (hw : wantedV ops o fr = some true) (ho : o.op = .indexAddr t a b)
    (ha : ev fr a = some (.rslice r off n wh)) (hb : ev fr b = some (.int k (i : Nat))) (h1 : tyOf t env.T = some y) (h2 : y.sh = .slice e) (h3 : tyOf e env.T = some ye) (hi : i < n)
    (h : Os env orc ops rest (putO o.dst (.ptr r (off + i * ye.size)) fr) H K) : Os env orc ops (o :: rest) fr H K := by
  have hp : isPure o.op = true := by rw [ho]; rfl
  refine os_pure0 hw hp ?_ h
  rw [ho]
  have c1 : inR ((i : Nat) : Int) n = true := by unfold inR; simp; omega
  simp only [vPure, ha, hb, vIndexAddr, h1, h2, h3, c1, gd, Int.toNat_natCast]
theorem setRange_enc {α : Type} {sz : Nat} {c1 : α → List V} {cl : List α → List V} (he : IsEnc sz c1 cl) (a : List α) (x y : α) (b : List α) : setRange (cl (a ++ x :: b)) (a.length * sz) (c1 y) = cl (a ++ y :: b) := by
  unfold setRange
  rw [he.len, ← Nat.succ_mul, he.take, he.drop, he.append a (y :: b), he.cons]
  simp [List.append_assoc]
theorem os_storeR {α : Type} {sz : Nat} {c1 : α → List V} {cl : List α → List V} (he : IsEnc sz c1 cl) {t e r i : Nat} {l1 l2 : List α} {x x' : α} {a b : Operand} {y : Ty} (hw : wantedV ops o fr = some true) (ho : o.op = .store t a b)
    (ha : ev fr a = some (.ptr r (0 + i * sz))) (hb : ev fr b = some (.agg (c1 x'))) (h1 : tyOf t env.T = some y) (h2 : y.size = sz) (hc : (c1 x').all isCell = true) (hm : mapO plainCell (c1 x') = some (c1 x'))
    (hg : hget r H = some (.grow e (cl (l1 ++ x :: l2)))) (hi : i = l1.length)
    (h : Os env orc ops rest (putO o.dst .undef fr) (hset r (.grow e (cl (l1 ++ x' :: l2))) H) K) : Os env orc ops (o :: rest) fr H K := by
  have hp : isPure o.op = false := by rw [ho]; rfl
  refine os_eff0 hw hp ?_ h
  unfold opEff
  rw [ho]
  subst hi h2
  have c0 : Nat.beq (c1 x').length y.size = true := by rw [he.len]; exact Nat.beq_refl _
  have c2 : leN (l1.length * y.size + y.size) (cl (l1 ++ x :: l2)).length = true := by
    unfold leN
    rw [he.length, List.length_append, List.length_cons, ← Nat.succ_mul]
    exact decide_eq_true (Nat.mul_le_mul_right _ (by omega))
  simp only [ha, hb, vStore, h1, cellsOf, c0, hc, hg, hm, c2, gd, Nat.zero_add, setRange_enc he]
end
end Go.Vm
namespace Go.Proofs.YtmonfppdiehlpaaGreatDoor
open Go Go.Vm
set_option maxRecDepth 100000
set_option maxHeartbeats 20000000
set_option linter.unusedVariables false
def zNod : Nod := ⟨0, [], 0, ⟨0, [], 0, []⟩, [], [], 0⟩
theorem rep_enc : ∀ n : Nat, (List.replicate n [V.int .i64 0, .str [], .int .i64 0, .int .i64 0, .str [], .int .i64 0, .slice .sealed 0 [], .slice .sealed 0 [], .slice .sealed 0 [], .int .i64 0]).flatten = clNod (List.replicate n zNod)
  | 0 => rfl
  | n + 1 => by rw [List.replicate_succ, List.flatten_cons, rep_enc n, List.replicate_succ, encNod.cons]; rfl
/-- the row after so many rounds -/
def rowAt (l : List Nod) (i : Nat) : List Nod := (l.take i).map movedN ++ List.replicate (l.length - i) zNod
theorem rowAt_zero (l : List Nod) : rowAt l 0 = List.replicate l.length zNod := by simp [rowAt]
theorem rowAt_end (l : List Nod) : rowAt l l.length = movedL l := by simp [rowAt, movedL_map]
theorem rowAt_lt {l : List Nod} {i : Nat} {x : Nod} (h : l[i]? = some x) : rowAt l i = (l.take i).map movedN ++ zNod :: List.replicate (l.length - (i + 1)) zNod ∧ rowAt l (i + 1) = (l.take i).map movedN ++ movedN x :: List.replicate (l.length - (i + 1)) zNod := by
  obtain ⟨hi, hx⟩ := List.getElem?_eq_some_iff.1 h
  constructor
  · unfold rowAt
    rw [show l.length - i = (l.length - (i + 1)) + 1 from by omega, List.replicate_succ]
  · unfold rowAt
    rw [List.take_add_one, h]
    simp
def fuelM (len : Nat) : Nat → Nat → Option Unit
  | 0, _ => none
  | m + 1, i => match i + m == len with | true => some () | false => none
abbrev MOk (n : Nod) : Prop := smallN n = true → E env (.call 28 [.agg [.int .i64 n.op, .str n.s, .int .i64 n.n, .int .i64 n.t.kind, .str n.t.name, .int .i64 n.t.n, .slice .sealed (List.length n.t.args) (clTyp n.t.args), .slice .sealed (List.length n.ts) (clTyp n.ts), .slice .sealed (List.length n.l) (clNod n.l), .int .i64 n.at_]]) [] = some (.ret (.agg [.int .i64 (movedN n).op, .str (movedN n).s, .int .i64 (movedN n).n, .int .i64 (movedN n).t.kind, .str (movedN n).t.name, .int .i64 (movedN n).t.n, .slice .sealed (List.length (movedN n).t.args) (clTyp (movedN n).t.args), .slice .sealed (List.length (movedN n).ts) (clTyp (movedN n).ts), .slice .sealed (List.length (movedN n).l) (clNod (movedN n).l), .int .i64 (movedN n).at_]) [])
theorem moved_step (n : Nod) (ih : ∀ x ∈ n.l, MOk x) : MOk n := by
  intro hs
  obtain ⟨n1_0, n1_1, n1_2, ⟨n1_3, n1_4, n1_5, n1_6⟩, n1_7, n1_8, n1_9⟩ := n
  replace ih : ∀ x ∈ n1_8, MOk x := ih
  rw [smallN, Bool.and_eq_true] at hs
  obtain ⟨hs1, hs2⟩ := hs
  replace hs1 := of_decide_eq_true hs1
  show _ = some (Out.ret (.agg [.int .i64 n1_0, .str n1_1, .int .i64 n1_2, .int .i64 n1_3, .str n1_4, .int .i64 n1_5, .slice .sealed (List.length n1_6) (clTyp n1_6), .slice .sealed (List.length n1_7) (clTyp n1_7), .slice .sealed (List.length (movedL n1_8)) (clNod (movedL n1_8)), .int .i64 (xor5 n1_9)]) [])
  have hlen : (movedL n1_8).length = n1_8.length := by rw [movedL_map, List.length_map]
  have e1 : clNod (movedL n1_8) = (clNod (movedL n1_8)).take (n1_8.length * 10) := by
    rw [List.take_of_length_le]
    rw [encNod.length, hlen]
    exact Nat.le_refl _
  rw [hlen, e1]
  refine call_ret rfl Tryz.func28 rfl rfl ?_
  refine ev_seq ?_
  refine ev_region ?_
  refine os_eff rfl rfl rfl ?_
  refine os_eff rfl rfl rfl ?_
  refine os_nil ?_
  refine ev_seq ?_
  refine ev_region ?_
  refine os_eff rfl rfl rfl ?_
  refine os_eff rfl rfl rfl ?_
  refine os_eff rfl rfl rfl ?_
  refine os_nil ?_
  refine ev_seq ?_
  refine ev_region ?_
  refine os_pure rfl rfl rfl ?_
  refine os_eff rfl rfl rfl ?_
  refine os_pure (v := .int .i64 (xor5 n1_9)) rfl rfl rfl ?_
  refine os_pure rfl rfl rfl ?_
  refine os_eff rfl rfl rfl ?_
  refine os_nil ?_
  refine ev_seq ?_
  refine ev_region ?_
  refine os_pure rfl rfl rfl ?_
  refine os_eff rfl rfl rfl ?_
  refine os_pure rfl rfl rfl ?_
  refine os_make (n := n1_8.length) rfl rfl rfl rfl rfl rfl rfl rfl rfl rfl (by show n1_8.length * (144 + 1) ≤ _; omega) ?_
  rw [show ∀ z : List V, z = [V.int .i64 0, .str [], .int .i64 0, .int .i64 0, .str [], .int .i64 0, .slice .sealed 0 [], .slice .sealed 0 [], .slice .sealed 0 [], .int .i64 0] → (List.replicate n1_8.length z).flatten = clNod (rowAt n1_8 0) from fun z hz => by rw [hz, rep_enc, rowAt_zero]]
  rotate_left
  · rfl
  refine os_pure rfl rfl rfl ?_
  refine os_eff rfl rfl rfl ?_
  refine os_nil ?_
  refine ev_seq ?_
  refine ev_seq ?_
  refine ev_region ?_
  refine os_pure rfl rfl rfl ?_
  refine os_nil ?_
  refine ev_block ?_
  refine ev_loop rfl ?_
  refine lp_fuel (fun m (i : Nat) => fuelM n1_8.length m i) (fun i => [(1, .ptr 0 0), (2, .ptr 1 0), (3, .ptr 2 0), (4, .int .i64 (i : Nat))]) (fun i => [(0, .row [.int .i64 n1_0, .str n1_1, .int .i64 n1_2, .int .i64 n1_3, .str n1_4, .int .i64 n1_5, .slice .sealed (List.length n1_6) (clTyp n1_6), .slice .sealed (List.length n1_7) (clTyp n1_7), .slice .sealed (List.length n1_8) (clNod n1_8), .int .i64 n1_9]), (1, .row [.int .i64 0, .str [], .int .i64 0, .int .i64 0, .str [], .int .i64 0, .slice (.tag 3) 0 [], .slice (.tag 4) 0 [], .slice (.tag 5) 0 [], .int .i64 0]), (2, .row [.int .i64 n1_0, .str n1_1, .int .i64 n1_2, .int .i64 n1_3, .str n1_4, .int .i64 n1_5, .slice .sealed (List.length n1_6) (clTyp n1_6), .slice .sealed (List.length n1_7) (clTyp n1_7), .rslice 6 0 n1_8.length true, .int .i64 (xor5 n1_9)]), (3, .tip 0 0), (4, .tip 0 0), (5, .tip 0 0), (6, .grow 10 (clNod (rowAt n1_8 i)))]) (fun _ => _) (fun _ => rfl) (fun m i y ih2 h => ?_) (n1_8.length + 1) 0 () (by simp [fuelM])
  simp only [fuelM] at h
  split at h
  · rename_i hm
    replace hm : i + m = n1_8.length := by simpa using hm
    refine ev_seq ?_
    refine ev_seq ?_
    refine ev_region ?_
    refine os_pure rfl rfl rfl ?_
    refine os_pure rfl rfl rfl ?_
    refine os_eff rfl rfl rfl ?_
    refine os_pure rfl rfl rfl ?_
    refine os_pure rfl rfl rfl ?_
    refine os_nil ?_
    refine ev_if rfl (fun g6 => ?_) (fun g6 => ?_)
    · have hi : i < n1_8.length := by
        unfold ltB at g6
        have := of_decide_eq_true g6
        omega
      refine ev_skip ?_
      have hx : n1_8[i]? = some n1_8[i] := List.getElem?_eq_getElem hi
      generalize hxe : n1_8[i] = x at hx
      have hxm : x ∈ n1_8 := hxe ▸ List.getElem_mem hi
      obtain ⟨hr1, hr2⟩ := rowAt_lt hx
      have hx' : idx' n1_8 ((i : Nat) : Int) = some x := by
        unfold idx' inR
        rw [show (decide (0 ≤ ((i : Nat) : Int)) && decide (((i : Nat) : Int) < (n1_8.length : Nat))) = true from by simp; omega]
        exact hx
      have hE := ih x hxm (smallL_mem hs2 x hxm)
      refine ev_seq ?_
      refine ev_block ?_
      refine ev_region ?_
      refine os_pure rfl rfl rfl ?_
      refine os_eff rfl rfl rfl ?_
      refine os_pure rfl rfl rfl ?_
      refine os_pure rfl rfl rfl ?_
      refine os_eff rfl rfl rfl ?_
      refine os_pure rfl rfl rfl ?_
      refine os_idx encNod hx' rfl rfl rfl rfl rfl rfl rfl rfl ?_
      obtain ⟨x4_0, x4_1, x4_2, ⟨x4_3, x4_4, x4_5, x4_6⟩, x4_7, x4_8, x4_9⟩ := x
      refine os_loadA (c := [.int .i64 x4_0, .str x4_1, .int .i64 x4_2, .int .i64 x4_3, .str x4_4, .int .i64 x4_5, .slice .sealed (List.length x4_6) (clTyp x4_6), .slice .sealed (List.length x4_7) (clTyp x4_7), .slice .sealed (List.length x4_8) (clNod x4_8), .int .i64 x4_9]) rfl rfl rfl rfl rfl rfl rfl ?_
      refine os_quiet rfl rfl rfl rfl rfl hE rfl ?_
      refine os_idxR (i := i) rfl rfl rfl rfl rfl rfl rfl hi ?_
      rw [hr1]
      refine os_storeR (i := i) encNod (x := zNod) (x' := movedN ⟨x4_0, x4_1, x4_2, ⟨x4_3, x4_4, x4_5, x4_6⟩, x4_7, x4_8, x4_9⟩) rfl rfl rfl rfl rfl rfl rfl rfl rfl (by rw [List.length_map, List.length_take]; omega) ?_
      rw [← hr2]
      refine os_nil ?_
      refine ev_region ?_
      refine os_pure rfl rfl rfl ?_
      refine os_pure (v := .int .i64 ((i + 1 : Nat) : Int)) rfl rfl (by rw [forceO_eq]; show some (V.int .i64 (IntKind.wrap .i64 (((i : Nat) : Int) + 1))) = _; rw [Go.Vm.wrap64 (by omega) (by omega)]; rfl) ?_
      refine os_pure rfl rfl rfl ?_
      refine os_nil ?_
      exact ⟨_, _, rfl, ih2 (i + 1) y (by cases m with | zero => omega | succ m => (simp only [fuelM]; rw [show (i + 1 + m == n1_8.length) = true from by simp only [beq_iff_eq]; omega]))⟩
    · have hi : i = n1_8.length := by
        unfold ltB at g6
        have := of_decide_eq_false g6
        omega
      subst hi
      refine ev_exit ?_
      rw [rowAt_end]
      refine ev_seq ?_
      refine ev_region ?_
      refine os_eff rfl rfl rfl ?_
      refine os_eff rfl rfl rfl ?_
      refine os_nil ?_
      exact ev_ret ⟨_, rfl, rfl⟩
  · cases h
mutual
theorem moved_E : ∀ n : Nod, MOk n
  | ⟨op, s, n, t, ts, l, at_⟩ => moved_step ⟨op, s, n, t, ts, l, at_⟩ (moved_all l)
theorem moved_all : ∀ l : List Nod, ∀ x ∈ l, MOk x
  | [], x, h => by cases h
  | y :: r, x, h => by
    by_cases hx : x = y
    · rw [hx]
      exact moved_E y
    · exact moved_all r x ((List.mem_cons.1 h).resolve_left hx)
end
end Go.Proofs.YtmonfppdiehlpaaGreatDoor
/- Given (to be filled in). (Printed by a program.) -/
namespace Go.Proofs.YtmonfppdiehlpaaGreatDoor
set_option linter.unusedSimpArgs false
set_option linter.unusedVariables false
set_option linter.unusedSectionVars false
open Go Go.Vm
set_option maxRecDepth 100000
set_option maxHeartbeats 20000000
set_option linter.unusedVariables false
theorem modG_ok {src1 : Str} {nn : Nod} {ll : List Flt} (h : modG src1 = some (nn, ll)) : E env (.call 13 [.str src1]) [] = some (.ret (.tuple [.agg [.int .i64 nn.op, .str nn.s, .int .i64 nn.n, .int .i64 nn.t.kind, .str nn.t.name, .int .i64 nn.t.n, .slice .sealed (List.length nn.t.args) (clTyp nn.t.args), .slice .sealed (List.length nn.ts) (clTyp nn.ts), .slice .sealed (List.length nn.l) (clNod nn.l), .int .i64 nn.at_], .slice .sealed (List.length ll) (clFlt ll)]) []) := by
  unfold modG at h
  split at h
  · rename_i hs
    have hs := of_decide_eq_true hs
    subst hs
    cases h
    exact modA_E
  · cases h
theorem printG_ok {n1 : Nod} {rr : Str} (h : printG n1 = some rr) : E env (.call 20 [.agg [.int .i64 n1.op, .str n1.s, .int .i64 n1.n, .int .i64 n1.t.kind, .str n1.t.name, .int .i64 n1.t.n, .slice .sealed (List.length n1.t.args) (clTyp n1.t.args), .slice .sealed (List.length n1.ts) (clTyp n1.ts), .slice .sealed (List.length n1.l) (clNod n1.l), .int .i64 n1.at_]]) [] = some (.ret (.str rr) []) := by
  unfold printG at h
  split at h
  · rename_i he
    cases h
    exact he
  · cases h
theorem movedG_ok {n1 : Nod} {mm : Nod} (h : movedG n1 = some mm) : E env (.call 28 [.agg [.int .i64 n1.op, .str n1.s, .int .i64 n1.n, .int .i64 n1.t.kind, .str n1.t.name, .int .i64 n1.t.n, .slice .sealed (List.length n1.t.args) (clTyp n1.t.args), .slice .sealed (List.length n1.ts) (clTyp n1.ts), .slice .sealed (List.length n1.l) (clNod n1.l), .int .i64 n1.at_]]) [] = some (.ret (.agg [.int .i64 mm.op, .str mm.s, .int .i64 mm.n, .int .i64 mm.t.kind, .str mm.t.name, .int .i64 mm.t.n, .slice .sealed (List.length mm.t.args) (clTyp mm.t.args), .slice .sealed (List.length mm.ts) (clTyp mm.ts), .slice .sealed (List.length mm.l) (clNod mm.l), .int .i64 mm.at_]) []) := by
  unfold movedG at h
  split at h
  · rename_i hs
    cases h
    exact moved_E _ hs
  · cases h
end Go.Proofs.YtmonfppdiehlpaaGreatDoor
/- The functions do what the plain Lean says. (Printed by a program.) -/
namespace Go.Proofs.YtmonfppdiehlpaaGreatDoor
set_option linter.unusedSimpArgs false
set_option linter.unusedVariables false
set_option linter.unusedSectionVars false
open Go Go.Vm
set_option maxRecDepth 100000
set_option maxHeartbeats 20000000
set_option linter.unusedVariables false
theorem law02_awake_ok {r : Bool} (h : law02_awake = some r) :
    E env (.call 12 []) [] = some (law02_awake_enc r) := by
  unfold law02_awake at h
  refine call_out rfl Tryz.func12 rfl rfl ?_
  refine ev_seq ?_
  refine ev_region ?_
  refine os_pure rfl rfl rfl ?_
  refine os_nil ?_
  refine ev_seq ?_
  refine ev_region ?_
  obtain ⟨⟨nn1, ll2⟩, g1, h⟩ := bnd_inv h
  obtain ⟨nn1_0, nn1_1, nn1_2, ⟨nn1_3, nn1_4, nn1_5, nn1_6⟩, nn1_7, nn1_8, nn1_9⟩ := nn1
  refine os_quiet rfl rfl rfl rfl rfl (modG_ok g1) rfl ?_
  refine os_pure rfl rfl rfl ?_
  refine os_pure rfl rfl rfl ?_
  refine os_pure rfl rfl rfl ?_
  refine os_eff rfl rfl rfl ?_
  refine os_eff rfl rfl rfl ?_
  refine os_pure rfl rfl rfl ?_
  refine os_nil ?_
  refine ev_seq ?_
  refine ev_region ?_
  refine os_pure rfl rfl rfl ?_
  refine os_pure rfl rfl rfl ?_
  refine os_pure rfl rfl rfl ?_
  refine os_pure rfl rfl rfl ?_
  refine os_guard rfl rfl rfl (fun g2 => ?_) (fun g2 => ?_)
  · replace h := cond_t h g2
    refine os_eff rfl rfl rfl ?_
    obtain ⟨rr3, g3, h⟩ := bnd_inv h
    refine os_quiet rfl rfl rfl rfl rfl (printG_ok g3) rfl ?_
    refine os_pure rfl rfl rfl ?_
    refine os_pure rfl rfl rfl ?_
    refine os_pure rfl rfl rfl ?_
    refine os_nil ?_
    cases h
    exact ev_ret ⟨_, _, _, rfl, rfl, rfl⟩
  · replace h := cond_f h g2
    refine os_skip rfl ?_
    refine os_skip rfl ?_
    refine os_skip rfl ?_
    refine os_pure rfl rfl rfl ?_
    refine os_pure rfl rfl rfl ?_
    refine os_nil ?_
    cases h
    exact ev_ret ⟨_, _, _, rfl, rfl, rfl⟩
structure ref00_TypeNodes_F.Ok (Φ : ref00_TypeNodes_F) : Prop where
  ref00_TypeNodes : ∀ {t1 : Typ} {most2 : Int} {r : Int}, Φ.ref00_TypeNodes t1 most2 = some r → E env (.call 107 [.agg [.int .i64 t1.kind, .str t1.name, .int .i64 t1.n, .slice .sealed (List.length t1.args) (clTyp t1.args)], .int .i64 most2]) [] = some (ref00_TypeNodes_enc t1 most2 r)
theorem ref00_TypeNodes_b_ok (n : Nat) {Φ : ref00_TypeNodes_F} (hΦ : Φ.Ok) {t1 : Typ} {most2 : Int} {r : Int} (h : ref00_TypeNodes_b n Φ t1 most2 = some r) :
    E env (.call 107 [.agg [.int .i64 t1.kind, .str t1.name, .int .i64 t1.n, .slice .sealed (List.length t1.args) (clTyp t1.args)], .int .i64 most2]) [] = some (ref00_TypeNodes_enc t1 most2 r) := by
  unfold ref00_TypeNodes_b at h
  obtain ⟨t1_0, t1_1, t1_2, t1_3⟩ := t1
  refine call_out rfl Tryz.func107 rfl rfl ?_
  refine ev_seq ?_
  refine ev_region ?_
  refine os_eff rfl rfl rfl ?_
  refine os_pure rfl rfl rfl ?_
  refine os_nil ?_
  refine ev_seq ?_
  refine ev_region ?_
  refine os_pure rfl rfl rfl ?_
  refine os_nil ?_
  obtain ⟨y1, g2, h⟩ := bnd_inv h
  refine ev_seg [(1, .int .i64 most2), (5, .int .i64 y1)] [] rfl ?_ ?_
  · replace h := g2
    clear g2
    refine ev_seq ?_
    refine ev_region ?_
    refine os_pure rfl rfl rfl ?_
    refine os_nil ?_
    refine ev_block ?_
    refine ev_loop rfl ?_
    revert y1
    refine lp_fuel (fun m (x : Int × Int) => ref00_TypeNodes_l3 n Φ most2 (Typ.mk t1_0 t1_1 t1_2 t1_3) m x.1 x.2) (fun x => [(1, .int .i64 most2), (2, .ptr 0 0), (5, .int .i64 x.1), (6, .int .i64 x.2)]) (fun x => [(0, .row [.int .i64 t1_0, .str t1_1, .int .i64 t1_2, .slice .sealed (List.length t1_3) (clTyp t1_3)])]) _ (fun _ => rfl) (fun m3 x y ih h => ?_) n (1, 0)
    obtain ⟨n503, i504⟩ := x
    show Ev _ _ _ _ _ [(1, .int .i64 most2), (2, .ptr 0 0), (5, .int .i64 n503), (6, .int .i64 i504)] [(0, .row [.int .i64 t1_0, .str t1_1, .int .i64 t1_2, .slice .sealed (List.length t1_3) (clTyp t1_3)])] _
    replace h : ref00_TypeNodes_l3 n Φ most2 (Typ.mk t1_0 t1_1 t1_2 t1_3) (m3 + 1) n503 i504 = some y := h
    rw [ref00_TypeNodes_l3] at h
    refine ev_seq ?_
    obtain ⟨y3, g4, h⟩ := bnd_inv h
    refine ev_seg [(1, .int .i64 most2), (2, .ptr 0 0), (5, .int .i64 n503), (6, .int .i64 i504), (16, .bool y3)] [(0, .row [.int .i64 t1_0, .str t1_1, .int .i64 t1_2, .slice .sealed (List.length t1_3) (clTyp t1_3)])] rfl ?_ ?_
    · replace h := g4
      clear g4
      refine ev_region ?_
      refine os_pure rfl rfl rfl ?_
      refine os_pure rfl rfl rfl ?_
      refine os_eff rfl rfl rfl ?_
      refine os_pure rfl rfl rfl ?_
      refine os_pure rfl rfl rfl ?_
      refine os_pure rfl rfl rfl ?_
      refine os_guard rfl rfl rfl (fun g5 => ?_) (fun g5 => ?_)
      · replace h := cond_t h g5
        refine os_pure rfl rfl rfl ?_
        refine os_pure rfl rfl rfl ?_
        refine os_pure rfl rfl rfl ?_
        refine os_pure rfl rfl rfl ?_
        refine os_nil ?_
        cases h
        exact rfl
      · replace h := cond_f h g5
        refine os_skip rfl ?_
        refine os_skip rfl ?_
        refine os_skip rfl ?_
        refine os_pure rfl rfl rfl ?_
        refine os_nil ?_
        cases h
        exact rfl
    · obtain ⟨x507, rfl⟩ : ∃ q, q = y3 := ⟨_, rfl⟩
      show Ev _ _ _ _ _ [(1, .int .i64 most2), (2, .ptr 0 0), (5, .int .i64 n503), (6, .int .i64 i504), (16, .bool x507)] [(0, .row [.int .i64 t1_0, .str t1_1, .int .i64 t1_2, .slice .sealed (List.length t1_3) (clTyp t1_3)])] _
      refine ev_if rfl (fun g6 => ?_) (fun g6 => ?_)
      · replace h := cond_t h g6
        refine ev_skip ?_
        refine ev_seq ?_
        refine ev_block ?_
        refine ev_region ?_
        refine os_pure rfl rfl rfl ?_
        refine os_pure rfl rfl rfl ?_
        refine os_eff rfl rfl rfl ?_
        refine os_pure rfl rfl rfl ?_
        obtain ⟨x3, g7, h⟩ := bnd_inv h
        obtain ⟨x3_0, x3_1, x3_2, x3_3⟩ := x3
        refine os_idx encTyp g7 rfl rfl rfl rfl rfl rfl rfl rfl ?_
        refine os_loadA (c := [.int .i64 x3_0, .str x3_1, .int .i64 x3_2, .slice .sealed (List.length x3_3) (clTyp x3_3)]) rfl rfl rfl rfl rfl rfl rfl ?_
        refine os_pure rfl rfl rfl ?_
        obtain ⟨r4, g8, h⟩ := bnd_inv h
        refine os_quiet rfl rfl rfl rfl rfl (hΦ.ref00_TypeNodes g8) rfl ?_
        refine os_pure rfl rfl rfl ?_
        refine os_pure rfl rfl rfl ?_
        refine os_nil ?_
        refine ev_region ?_
        refine os_pure rfl rfl rfl ?_
        refine os_pure rfl rfl rfl ?_
        refine os_pure rfl rfl rfl ?_
        refine os_nil ?_
        exact ⟨_, _, rfl, ih (_, _) _ h⟩
      · replace h := cond_f h g6
        refine ev_exit ?_
        cases h
        exact rfl
  · obtain ⟨n510, rfl⟩ : ∃ q, q = y1 := ⟨_, rfl⟩
    show Ev _ _ _ _ _ [(1, .int .i64 most2), (5, .int .i64 n510)] [] _
    refine ev_seq ?_
    refine ev_region ?_
    refine os_pure rfl rfl rfl ?_
    refine os_pure rfl rfl rfl ?_
    refine os_pure rfl rfl rfl ?_
    refine os_pure rfl rfl rfl ?_
    refine os_pure rfl rfl rfl ?_
    refine os_nil ?_
    cases h
    exact ev_ret ⟨_, _, _, rfl, rfl, rfl⟩
theorem ref00_TypeNodes_F.ok : ∀ n, (ref00_TypeNodes_F.fs n).Ok
  | 0 => ⟨(fun h => by cases h)⟩
  | n + 1 => ⟨(fun h => ref00_TypeNodes_b_ok n (ref00_TypeNodes_F.ok n) h)⟩
theorem ref00_TypeNodes_ok {n : Nat} {t1 : Typ} {most2 : Int} {r : Int} (h : ref00_TypeNodes n t1 most2 = some r) :
    E env (.call 107 [.agg [.int .i64 t1.kind, .str t1.name, .int .i64 t1.n, .slice .sealed (List.length t1.args) (clTyp t1.args)], .int .i64 most2]) [] = some (ref00_TypeNodes_enc t1 most2 r) := (ref00_TypeNodes_F.ok n).ref00_TypeNodes h
structure ref00_Nodes_F.Ok (Φ : ref00_Nodes_F) : Prop where
  ref00_Nodes : ∀ {x1 : Nod} {most2 : Int} {r : Int}, Φ.ref00_Nodes x1 most2 = some r → E env (.call 51 [.agg [.int .i64 x1.op, .str x1.s, .int .i64 x1.n, .int .i64 x1.t.kind, .str x1.t.name, .int .i64 x1.t.n, .slice .sealed (List.length x1.t.args) (clTyp x1.t.args), .slice .sealed (List.length x1.ts) (clTyp x1.ts), .slice .sealed (List.length x1.l) (clNod x1.l), .int .i64 x1.at_], .int .i64 most2]) [] = some (ref00_Nodes_enc x1 most2 r)
theorem ref00_Nodes_b_ok (n : Nat) {Φ : ref00_Nodes_F} (hΦ : Φ.Ok) {x1 : Nod} {most2 : Int} {r : Int} (h : ref00_Nodes_b n Φ x1 most2 = some r) :
    E env (.call 51 [.agg [.int .i64 x1.op, .str x1.s, .int .i64 x1.n, .int .i64 x1.t.kind, .str x1.t.name, .int .i64 x1.t.n, .slice .sealed (List.length x1.t.args) (clTyp x1.t.args), .slice .sealed (List.length x1.ts) (clTyp x1.ts), .slice .sealed (List.length x1.l) (clNod x1.l), .int .i64 x1.at_], .int .i64 most2]) [] = some (ref00_Nodes_enc x1 most2 r) := by
  unfold ref00_Nodes_b at h
  obtain ⟨x1_0, x1_1, x1_2, ⟨x1_3, x1_4, x1_5, x1_6⟩, x1_7, x1_8, x1_9⟩ := x1
  refine call_out rfl Tryz.func51 rfl rfl ?_
  refine ev_seq ?_
  refine ev_region ?_
  refine os_eff rfl rfl rfl ?_
  refine os_pure rfl rfl rfl ?_
  refine os_nil ?_
  refine ev_seq ?_
  refine ev_region ?_
  refine os_pure rfl rfl rfl ?_
  refine os_eff rfl rfl rfl ?_
  refine os_pure rfl rfl rfl ?_
  obtain ⟨g1, h⟩ := gdO_inv h
  refine os_pure rfl rfl (gd_f g1 rfl) ?_
  refine os_pure rfl rfl rfl ?_
  refine os_pure rfl rfl rfl ?_
  refine os_nil ?_
  obtain ⟨y2, g3, h⟩ := bnd_inv h
  refine ev_seg [(1, .int .i64 most2), (2, .ptr 0 0), (5, .int .i64 y2)] [(0, .row [.int .i64 x1_0, .str x1_1, .int .i64 x1_2, .int .i64 x1_3, .str x1_4, .int .i64 x1_5, .slice .sealed (List.length x1_6) (clTyp x1_6), .slice .sealed (List.length x1_7) (clTyp x1_7), .slice .sealed (List.length x1_8) (clNod x1_8), .int .i64 x1_9])] rfl ?_ ?_
  · replace h := g3
    clear g3
    refine ev_seq ?_
    refine ev_region ?_
    refine os_pure rfl rfl rfl ?_
    refine os_nil ?_
    refine ev_block ?_
    refine ev_loop rfl ?_
    revert y2
    refine lp_fuel (fun m (x : Int × Int) => ref00_Nodes_l3 n Φ most2 (Nod.mk x1_0 x1_1 x1_2 (Typ.mk x1_3 x1_4 x1_5 x1_6) x1_7 x1_8 x1_9) m x.1 x.2) (fun x => [(1, .int .i64 most2), (2, .ptr 0 0), (5, .int .i64 x.1), (6, .int .i64 x.2)]) (fun x => [(0, .row [.int .i64 x1_0, .str x1_1, .int .i64 x1_2, .int .i64 x1_3, .str x1_4, .int .i64 x1_5, .slice .sealed (List.length x1_6) (clTyp x1_6), .slice .sealed (List.length x1_7) (clTyp x1_7), .slice .sealed (List.length x1_8) (clNod x1_8), .int .i64 x1_9])]) _ (fun _ => rfl) (fun m3 x y ih h => ?_) n ((w64 (1 + (w64 (Int.tdiv (List.length x1_1 : Int) 16)))), 0)
    obtain ⟨n502, i503⟩ := x
    show Ev _ _ _ _ _ [(1, .int .i64 most2), (2, .ptr 0 0), (5, .int .i64 n502), (6, .int .i64 i503)] [(0, .row [.int .i64 x1_0, .str x1_1, .int .i64 x1_2, .int .i64 x1_3, .str x1_4, .int .i64 x1_5, .slice .sealed (List.length x1_6) (clTyp x1_6), .slice .sealed (List.length x1_7) (clTyp x1_7), .slice .sealed (List.length x1_8) (clNod x1_8), .int .i64 x1_9])] _
    replace h : ref00_Nodes_l3 n Φ most2 (Nod.mk x1_0 x1_1 x1_2 (Typ.mk x1_3 x1_4 x1_5 x1_6) x1_7 x1_8 x1_9) (m3 + 1) n502 i503 = some y := h
    rw [ref00_Nodes_l3] at h
    refine ev_seq ?_
    obtain ⟨y4, g5, h⟩ := bnd_inv h
    refine ev_seg [(1, .int .i64 most2), (2, .ptr 0 0), (5, .int .i64 n502), (6, .int .i64 i503), (22, .bool y4)] [(0, .row [.int .i64 x1_0, .str x1_1, .int .i64 x1_2, .int .i64 x1_3, .str x1_4, .int .i64 x1_5, .slice .sealed (List.length x1_6) (clTyp x1_6), .slice .sealed (List.length x1_7) (clTyp x1_7), .slice .sealed (List.length x1_8) (clNod x1_8), .int .i64 x1_9])] rfl ?_ ?_
    · replace h := g5
      clear g5
      refine ev_region ?_
      refine os_pure rfl rfl rfl ?_
      refine os_pure rfl rfl rfl ?_
      refine os_eff rfl rfl rfl ?_
      refine os_pure rfl rfl rfl ?_
      refine os_pure rfl rfl rfl ?_
      refine os_pure rfl rfl rfl ?_
      refine os_guard rfl rfl rfl (fun g6 => ?_) (fun g6 => ?_)
      · replace h := cond_t h g6
        refine os_pure rfl rfl rfl ?_
        refine os_pure rfl rfl rfl ?_
        refine os_pure rfl rfl rfl ?_
        refine os_pure rfl rfl rfl ?_
        refine os_nil ?_
        cases h
        exact rfl
      · replace h := cond_f h g6
        refine os_skip rfl ?_
        refine os_skip rfl ?_
        refine os_skip rfl ?_
        refine os_pure rfl rfl rfl ?_
        refine os_nil ?_
        cases h
        exact rfl
    · obtain ⟨x506, rfl⟩ : ∃ q, q = y4 := ⟨_, rfl⟩
      show Ev _ _ _ _ _ [(1, .int .i64 most2), (2, .ptr 0 0), (5, .int .i64 n502), (6, .int .i64 i503), (22, .bool x506)] [(0, .row [.int .i64 x1_0, .str x1_1, .int .i64 x1_2, .int .i64 x1_3, .str x1_4, .int .i64 x1_5, .slice .sealed (List.length x1_6) (clTyp x1_6), .slice .sealed (List.length x1_7) (clTyp x1_7), .slice .sealed (List.length x1_8) (clNod x1_8), .int .i64 x1_9])] _
      refine ev_if rfl (fun g7 => ?_) (fun g7 => ?_)
      · replace h := cond_t h g7
        refine ev_skip ?_
        refine ev_seq ?_
        refine ev_block ?_
        refine ev_region ?_
        refine os_pure rfl rfl rfl ?_
        refine os_pure rfl rfl rfl ?_
        refine os_eff rfl rfl rfl ?_
        refine os_pure rfl rfl rfl ?_
        obtain ⟨x3, g8, h⟩ := bnd_inv h
        obtain ⟨x3_0, x3_1, x3_2, x3_3⟩ := x3
        refine os_idx encTyp g8 rfl rfl rfl rfl rfl rfl rfl rfl ?_
        refine os_loadA (c := [.int .i64 x3_0, .str x3_1, .int .i64 x3_2, .slice .sealed (List.length x3_3) (clTyp x3_3)]) rfl rfl rfl rfl rfl rfl rfl ?_
        refine os_pure rfl rfl rfl ?_
        obtain ⟨r4, g9, h⟩ := bnd_inv h
        refine os_quiet rfl rfl rfl rfl rfl (ref00_TypeNodes_ok g9) rfl ?_
        refine os_pure rfl rfl rfl ?_
        refine os_pure rfl rfl rfl ?_
        refine os_nil ?_
        refine ev_region ?_
        refine os_pure rfl rfl rfl ?_
        refine os_pure rfl rfl rfl ?_
        refine os_pure rfl rfl rfl ?_
        refine os_nil ?_
        exact ⟨_, _, rfl, ih (_, _) _ h⟩
      · replace h := cond_f h g7
        refine ev_exit ?_
        cases h
        exact rfl
  · obtain ⟨n509, rfl⟩ : ∃ q, q = y2 := ⟨_, rfl⟩
    show Ev _ _ _ _ _ [(1, .int .i64 most2), (2, .ptr 0 0), (5, .int .i64 n509)] [(0, .row [.int .i64 x1_0, .str x1_1, .int .i64 x1_2, .int .i64 x1_3, .str x1_4, .int .i64 x1_5, .slice .sealed (List.length x1_6) (clTyp x1_6), .slice .sealed (List.length x1_7) (clTyp x1_7), .slice .sealed (List.length x1_8) (clNod x1_8), .int .i64 x1_9])] _
    obtain ⟨y10, g11, h⟩ := bnd_inv h
    refine ev_seg [(1, .int .i64 most2), (2, .ptr 0 0), (5, .int .i64 y10)] [(0, .row [.int .i64 x1_0, .str x1_1, .int .i64 x1_2, .int .i64 x1_3, .str x1_4, .int .i64 x1_5, .slice .sealed (List.length x1_6) (clTyp x1_6), .slice .sealed (List.length x1_7) (clTyp x1_7), .slice .sealed (List.length x1_8) (clNod x1_8), .int .i64 x1_9])] rfl ?_ ?_
    · replace h := g11
      clear g11
      refine ev_seq ?_
      refine ev_region ?_
      refine os_pure rfl rfl rfl ?_
      refine os_pure rfl rfl rfl ?_
      refine os_pure rfl rfl rfl ?_
      refine os_nil ?_
      refine ev_if rfl (fun g12 => ?_) (fun g12 => ?_)
      · replace h := cond_t h g12
        refine ev_region ?_
        refine os_pure rfl rfl rfl ?_
        refine os_pure rfl rfl rfl ?_
        refine os_eff rfl rfl rfl ?_
        refine os_pure rfl rfl rfl ?_
        obtain ⟨r5, g13, h⟩ := bnd_inv h
        refine os_quiet rfl rfl rfl rfl rfl (ref00_TypeNodes_ok g13) rfl ?_
        refine os_pure rfl rfl rfl ?_
        refine os_pure rfl rfl rfl ?_
        refine os_pure rfl rfl rfl ?_
        refine os_nil ?_
        cases h
        exact rfl
      · replace h := cond_f h g12
        refine ev_skip ?_
        cases h
        exact rfl
    · obtain ⟨n518, rfl⟩ : ∃ q, q = y10 := ⟨_, rfl⟩
      show Ev _ _ _ _ _ [(1, .int .i64 most2), (2, .ptr 0 0), (5, .int .i64 n518)] [(0, .row [.int .i64 x1_0, .str x1_1, .int .i64 x1_2, .int .i64 x1_3, .str x1_4, .int .i64 x1_5, .slice .sealed (List.length x1_6) (clTyp x1_6), .slice .sealed (List.length x1_7) (clTyp x1_7), .slice .sealed (List.length x1_8) (clNod x1_8), .int .i64 x1_9])] _
      obtain ⟨y14, g15, h⟩ := bnd_inv h
      refine ev_seg [(1, .int .i64 most2), (5, .int .i64 y14)] [] rfl ?_ ?_
      · replace h := g15
        clear g15
        refine ev_seq ?_
        refine ev_region ?_
        refine os_pure rfl rfl rfl ?_
        refine os_nil ?_
        refine ev_block ?_
        refine ev_loop rfl ?_
        revert y14
        refine lp_fuel (fun m (x : Int × Int) => ref00_Nodes_l9 n Φ most2 (Nod.mk x1_0 x1_1 x1_2 (Typ.mk x1_3 x1_4 x1_5 x1_6) x1_7 x1_8 x1_9) m x.1 x.2) (fun x => [(1, .int .i64 most2), (2, .ptr 0 0), (5, .int .i64 x.1), (7, .int .i64 x.2)]) (fun x => [(0, .row [.int .i64 x1_0, .str x1_1, .int .i64 x1_2, .int .i64 x1_3, .str x1_4, .int .i64 x1_5, .slice .sealed (List.length x1_6) (clTyp x1_6), .slice .sealed (List.length x1_7) (clTyp x1_7), .slice .sealed (List.length x1_8) (clNod x1_8), .int .i64 x1_9])]) _ (fun _ => rfl) (fun m9 x y ih h => ?_) n (n518, 0)
        obtain ⟨n520, i521⟩ := x
        show Ev _ _ _ _ _ [(1, .int .i64 most2), (2, .ptr 0 0), (5, .int .i64 n520), (7, .int .i64 i521)] [(0, .row [.int .i64 x1_0, .str x1_1, .int .i64 x1_2, .int .i64 x1_3, .str x1_4, .int .i64 x1_5, .slice .sealed (List.length x1_6) (clTyp x1_6), .slice .sealed (List.length x1_7) (clTyp x1_7), .slice .sealed (List.length x1_8) (clNod x1_8), .int .i64 x1_9])] _
        replace h : ref00_Nodes_l9 n Φ most2 (Nod.mk x1_0 x1_1 x1_2 (Typ.mk x1_3 x1_4 x1_5 x1_6) x1_7 x1_8 x1_9) (m9 + 1) n520 i521 = some y := h
        rw [ref00_Nodes_l9] at h
        refine ev_seq ?_
        obtain ⟨y16, g17, h⟩ := bnd_inv h
        refine ev_seg [(1, .int .i64 most2), (2, .ptr 0 0), (5, .int .i64 n520), (7, .int .i64 i521), (53, .bool y16)] [(0, .row [.int .i64 x1_0, .str x1_1, .int .i64 x1_2, .int .i64 x1_3, .str x1_4, .int .i64 x1_5, .slice .sealed (List.length x1_6) (clTyp x1_6), .slice .sealed (List.length x1_7) (clTyp x1_7), .slice .sealed (List.length x1_8) (clNod x1_8), .int .i64 x1_9])] rfl ?_ ?_
        · replace h := g17
          clear g17
          refine ev_region ?_
          refine os_pure rfl rfl rfl ?_
          refine os_pure rfl rfl rfl ?_
          refine os_eff rfl rfl rfl ?_
          refine os_pure rfl rfl rfl ?_
          refine os_pure rfl rfl rfl ?_
          refine os_pure rfl rfl rfl ?_
          refine os_guard rfl rfl rfl (fun g18 => ?_) (fun g18 => ?_)
          · replace h := cond_t h g18
            refine os_pure rfl rfl rfl ?_
            refine os_pure rfl rfl rfl ?_
            refine os_pure rfl rfl rfl ?_
            refine os_pure rfl rfl rfl ?_
            refine os_nil ?_
            cases h
            exact rfl
          · replace h := cond_f h g18
            refine os_skip rfl ?_
            refine os_skip rfl ?_
            refine os_skip rfl ?_
            refine os_pure rfl rfl rfl ?_
            refine os_nil ?_
            cases h
            exact rfl
        · obtain ⟨x530, rfl⟩ : ∃ q, q = y16 := ⟨_, rfl⟩
          show Ev _ _ _ _ _ [(1, .int .i64 most2), (2, .ptr 0 0), (5, .int .i64 n520), (7, .int .i64 i521), (53, .bool x530)] [(0, .row [.int .i64 x1_0, .str x1_1, .int .i64 x1_2, .int .i64 x1_3, .str x1_4, .int .i64 x1_5, .slice .sealed (List.length x1_6) (clTyp x1_6), .slice .sealed (List.length x1_7) (clTyp x1_7), .slice .sealed (List.length x1_8) (clNod x1_8), .int .i64 x1_9])] _
          refine ev_if rfl (fun g19 => ?_) (fun g19 => ?_)
          · replace h := cond_t h g19
            refine ev_skip ?_
            refine ev_seq ?_
            refine ev_block ?_
            refine ev_region ?_
            refine os_pure rfl rfl rfl ?_
            refine os_pure rfl rfl rfl ?_
            refine os_eff rfl rfl rfl ?_
            refine os_pure rfl rfl rfl ?_
            obtain ⟨x6, g20, h⟩ := bnd_inv h
            obtain ⟨x6_0, x6_1, x6_2, ⟨x6_3, x6_4, x6_5, x6_6⟩, x6_7, x6_8, x6_9⟩ := x6
            refine os_idx encNod g20 rfl rfl rfl rfl rfl rfl rfl rfl ?_
            refine os_loadA (c := [.int .i64 x6_0, .str x6_1, .int .i64 x6_2, .int .i64 x6_3, .str x6_4, .int .i64 x6_5, .slice .sealed (List.length x6_6) (clTyp x6_6), .slice .sealed (List.length x6_7) (clTyp x6_7), .slice .sealed (List.length x6_8) (clNod x6_8), .int .i64 x6_9]) rfl rfl rfl rfl rfl rfl rfl ?_
            refine os_pure rfl rfl rfl ?_
            obtain ⟨r7, g21, h⟩ := bnd_inv h
            refine os_quiet rfl rfl rfl rfl rfl (hΦ.ref00_Nodes g21) rfl ?_
            refine os_pure rfl rfl rfl ?_
            refine os_pure rfl rfl rfl ?_
            refine os_nil ?_
            refine ev_region ?_
            refine os_pure rfl rfl rfl ?_
            refine os_pure rfl rfl rfl ?_
            refine os_pure rfl rfl rfl ?_
            refine os_nil ?_
            exact ⟨_, _, rfl, ih (_, _) _ h⟩
          · replace h := cond_f h g19
            refine ev_exit ?_
            cases h
            exact rfl
      · obtain ⟨n533, rfl⟩ : ∃ q, q = y14 := ⟨_, rfl⟩
        show Ev _ _ _ _ _ [(1, .int .i64 most2), (5, .int .i64 n533)] [] _
        refine ev_seq ?_
        refine ev_region ?_
        refine os_pure rfl rfl rfl ?_
        refine os_pure rfl rfl rfl ?_
        refine os_pure rfl rfl rfl ?_
        refine os_pure rfl rfl rfl ?_
        refine os_pure rfl rfl rfl ?_
        refine os_nil ?_
        cases h
        exact ev_ret ⟨_, _, _, rfl, rfl, rfl⟩
theorem ref00_Nodes_F.ok : ∀ n, (ref00_Nodes_F.fs n).Ok
  | 0 => ⟨(fun h => by cases h)⟩
  | n + 1 => ⟨(fun h => ref00_Nodes_b_ok n (ref00_Nodes_F.ok n) h)⟩
theorem ref00_Nodes_ok {n : Nat} {x1 : Nod} {most2 : Int} {r : Int} (h : ref00_Nodes n x1 most2 = some r) :
    E env (.call 51 [.agg [.int .i64 x1.op, .str x1.s, .int .i64 x1.n, .int .i64 x1.t.kind, .str x1.t.name, .int .i64 x1.t.n, .slice .sealed (List.length x1.t.args) (clTyp x1.t.args), .slice .sealed (List.length x1.ts) (clTyp x1.ts), .slice .sealed (List.length x1.l) (clNod x1.l), .int .i64 x1.at_], .int .i64 most2]) [] = some (ref00_Nodes_enc x1 most2 r) := (ref00_Nodes_F.ok n).ref00_Nodes h
structure ref02_bulk_F.Ok (Φ : ref02_bulk_F) : Prop where
  ref02_bulk : ∀ {t1 : Typ} {most2 : Int} {r : Int}, Φ.ref02_bulk t1 most2 = some r → E env (.call 108 [.agg [.int .i64 t1.kind, .str t1.name, .int .i64 t1.n, .slice .sealed (List.length t1.args) (clTyp t1.args)], .int .i64 most2]) [] = some (ref02_bulk_enc t1 most2 r)
theorem ref02_bulk_b_ok (n : Nat) {Φ : ref02_bulk_F} (hΦ : Φ.Ok) {t1 : Typ} {most2 : Int} {r : Int} (h : ref02_bulk_b n Φ t1 most2 = some r) :
    E env (.call 108 [.agg [.int .i64 t1.kind, .str t1.name, .int .i64 t1.n, .slice .sealed (List.length t1.args) (clTyp t1.args)], .int .i64 most2]) [] = some (ref02_bulk_enc t1 most2 r) := by
  unfold ref02_bulk_b at h
  obtain ⟨t1_0, t1_1, t1_2, t1_3⟩ := t1
  refine call_out rfl Tryz.func108 rfl rfl ?_
  refine ev_seq ?_
  refine ev_region ?_
  refine os_eff rfl rfl rfl ?_
  refine os_pure rfl rfl rfl ?_
  refine os_nil ?_
  refine ev_seq ?_
  refine ev_region ?_
  refine os_pure rfl rfl rfl ?_
  refine os_eff rfl rfl rfl ?_
  refine os_pure rfl rfl rfl ?_
  refine os_pure rfl rfl rfl ?_
  refine os_nil ?_
  obtain ⟨y1, g2, h⟩ := bnd_inv h
  refine ev_seg [(1, .int .i64 most2), (2, .ptr 0 0), (5, .int .i64 y1)] [(0, .row [.int .i64 t1_0, .str t1_1, .int .i64 t1_2, .slice .sealed (List.length t1_3) (clTyp t1_3)])] rfl ?_ ?_
  · replace h := g2
    clear g2
    obtain ⟨y3, g4, h⟩ := bnd_inv h
    refine ev_seg [(1, .int .i64 most2), (2, .ptr 0 0), (5, .int .i64 (List.length t1_1 : Int)), (18, .bool y3)] [(0, .row [.int .i64 t1_0, .str t1_1, .int .i64 t1_2, .slice .sealed (List.length t1_3) (clTyp t1_3)])] rfl ?_ ?_
    · replace h := g4
      clear g4
      refine ev_region ?_
      refine os_pure rfl rfl rfl ?_
      refine os_eff rfl rfl rfl ?_
      refine os_pure rfl rfl rfl ?_
      refine os_pure rfl rfl rfl ?_
      refine os_guard rfl rfl rfl (fun g5 => ?_) (fun g5 => ?_)
      · replace h := cond_t h g5
        refine os_skip rfl ?_
        refine os_skip rfl ?_
        refine os_skip rfl ?_
        refine os_skip rfl ?_
        refine os_pure rfl rfl rfl ?_
        refine os_nil ?_
        cases h
        exact rfl
      · replace h := cond_f h g5
        refine os_pure rfl rfl rfl ?_
        refine os_eff rfl rfl rfl ?_
        refine os_pure rfl rfl rfl ?_
        refine os_pure rfl rfl rfl ?_
        refine os_pure rfl rfl rfl ?_
        refine os_nil ?_
        cases h
        exact rfl
    · obtain ⟨x502, rfl⟩ : ∃ q, q = y3 := ⟨_, rfl⟩
      show Ev _ _ _ _ _ [(1, .int .i64 most2), (2, .ptr 0 0), (5, .int .i64 (List.length t1_1 : Int)), (18, .bool x502)] [(0, .row [.int .i64 t1_0, .str t1_1, .int .i64 t1_2, .slice .sealed (List.length t1_3) (clTyp t1_3)])] _
      refine ev_if rfl (fun g6 => ?_) (fun g6 => ?_)
      · replace h := cond_t h g6
        refine ev_region ?_
        refine os_pure rfl rfl rfl ?_
        refine os_pure rfl rfl rfl ?_
        refine os_pure rfl rfl rfl ?_
        refine os_nil ?_
        cases h
        exact rfl
      · replace h := cond_f h g6
        refine ev_skip ?_
        cases h
        exact rfl
  · obtain ⟨k507, rfl⟩ : ∃ q, q = y1 := ⟨_, rfl⟩
    show Ev _ _ _ _ _ [(1, .int .i64 most2), (2, .ptr 0 0), (5, .int .i64 k507)] [(0, .row [.int .i64 t1_0, .str t1_1, .int .i64 t1_2, .slice .sealed (List.length t1_3) (clTyp t1_3)])] _
    obtain ⟨y7, g8, h⟩ := bnd_inv h
    refine ev_seg [(5, .int .i64 y7)] [] rfl ?_ ?_
    · replace h := g8
      clear g8
      refine ev_seq ?_
      refine ev_region ?_
      refine os_pure rfl rfl rfl ?_
      refine os_nil ?_
      refine ev_block ?_
      refine ev_loop rfl ?_
      revert y7
      refine lp_fuel (fun m (x : Int × Int) => ref02_bulk_l5 n Φ most2 (Typ.mk t1_0 t1_1 t1_2 t1_3) m x.1 x.2) (fun x => [(1, .int .i64 most2), (2, .ptr 0 0), (5, .int .i64 x.1), (6, .int .i64 x.2)]) (fun x => [(0, .row [.int .i64 t1_0, .str t1_1, .int .i64 t1_2, .slice .sealed (List.length t1_3) (clTyp t1_3)])]) _ (fun _ => rfl) (fun m5 x y ih h => ?_) n (k507, 0)
      obtain ⟨k504, i505⟩ := x
      show Ev _ _ _ _ _ [(1, .int .i64 most2), (2, .ptr 0 0), (5, .int .i64 k504), (6, .int .i64 i505)] [(0, .row [.int .i64 t1_0, .str t1_1, .int .i64 t1_2, .slice .sealed (List.length t1_3) (clTyp t1_3)])] _
      replace h : ref02_bulk_l5 n Φ most2 (Typ.mk t1_0 t1_1 t1_2 t1_3) (m5 + 1) k504 i505 = some y := h
      rw [ref02_bulk_l5] at h
      refine ev_seq ?_
      obtain ⟨y9, g10, h⟩ := bnd_inv h
      refine ev_seg [(1, .int .i64 most2), (2, .ptr 0 0), (5, .int .i64 k504), (6, .int .i64 i505), (30, .bool y9)] [(0, .row [.int .i64 t1_0, .str t1_1, .int .i64 t1_2, .slice .sealed (List.length t1_3) (clTyp t1_3)])] rfl ?_ ?_
      · replace h := g10
        clear g10
        refine ev_region ?_
        refine os_pure rfl rfl rfl ?_
        refine os_pure rfl rfl rfl ?_
        refine os_eff rfl rfl rfl ?_
        refine os_pure rfl rfl rfl ?_
        refine os_pure rfl rfl rfl ?_
        refine os_pure rfl rfl rfl ?_
        refine os_guard rfl rfl rfl (fun g11 => ?_) (fun g11 => ?_)
        · replace h := cond_t h g11
          refine os_pure rfl rfl rfl ?_
          refine os_pure rfl rfl rfl ?_
          refine os_pure rfl rfl rfl ?_
          refine os_pure rfl rfl rfl ?_
          refine os_nil ?_
          cases h
          exact rfl
        · replace h := cond_f h g11
          refine os_skip rfl ?_
          refine os_skip rfl ?_
          refine os_skip rfl ?_
          refine os_pure rfl rfl rfl ?_
          refine os_nil ?_
          cases h
          exact rfl
      · obtain ⟨x510, rfl⟩ : ∃ q, q = y9 := ⟨_, rfl⟩
        show Ev _ _ _ _ _ [(1, .int .i64 most2), (2, .ptr 0 0), (5, .int .i64 k504), (6, .int .i64 i505), (30, .bool x510)] [(0, .row [.int .i64 t1_0, .str t1_1, .int .i64 t1_2, .slice .sealed (List.length t1_3) (clTyp t1_3)])] _
        refine ev_if rfl (fun g12 => ?_) (fun g12 => ?_)
        · replace h := cond_t h g12
          refine ev_skip ?_
          refine ev_seq ?_
          refine ev_block ?_
          refine ev_region ?_
          refine os_pure rfl rfl rfl ?_
          refine os_pure rfl rfl rfl ?_
          refine os_eff rfl rfl rfl ?_
          refine os_pure rfl rfl rfl ?_
          obtain ⟨x3, g13, h⟩ := bnd_inv h
          obtain ⟨x3_0, x3_1, x3_2, x3_3⟩ := x3
          refine os_idx encTyp g13 rfl rfl rfl rfl rfl rfl rfl rfl ?_
          refine os_loadA (c := [.int .i64 x3_0, .str x3_1, .int .i64 x3_2, .slice .sealed (List.length x3_3) (clTyp x3_3)]) rfl rfl rfl rfl rfl rfl rfl ?_
          refine os_pure rfl rfl rfl ?_
          refine os_pure rfl rfl rfl ?_
          refine os_pure rfl rfl rfl ?_
          obtain ⟨r4, g14, h⟩ := bnd_inv h
          refine os_quiet rfl rfl rfl rfl rfl (hΦ.ref02_bulk g14) rfl ?_
          refine os_pure rfl rfl rfl ?_
          refine os_pure rfl rfl rfl ?_
          refine os_nil ?_
          refine ev_region ?_
          refine os_pure rfl rfl rfl ?_
          refine os_pure rfl rfl rfl ?_
          refine os_pure rfl rfl rfl ?_
          refine os_nil ?_
          exact ⟨_, _, rfl, ih (_, _) _ h⟩
        · replace h := cond_f h g12
          refine ev_exit ?_
          cases h
          exact rfl
    · obtain ⟨k513, rfl⟩ : ∃ q, q = y7 := ⟨_, rfl⟩
      show Ev _ _ _ _ _ [(5, .int .i64 k513)] [] _
      refine ev_seq ?_
      refine ev_region ?_
      refine os_pure rfl rfl rfl ?_
      refine os_pure rfl rfl rfl ?_
      refine os_nil ?_
      cases h
      exact ev_ret ⟨_, _, _, rfl, rfl, rfl⟩
theorem ref02_bulk_F.ok : ∀ n, (ref02_bulk_F.fs n).Ok
  | 0 => ⟨(fun h => by cases h)⟩
  | n + 1 => ⟨(fun h => ref02_bulk_b_ok n (ref02_bulk_F.ok n) h)⟩
theorem ref02_bulk_ok {n : Nat} {t1 : Typ} {most2 : Int} {r : Int} (h : ref02_bulk n t1 most2 = some r) :
    E env (.call 108 [.agg [.int .i64 t1.kind, .str t1.name, .int .i64 t1.n, .slice .sealed (List.length t1.args) (clTyp t1.args)], .int .i64 most2]) [] = some (ref02_bulk_enc t1 most2 r) := (ref02_bulk_F.ok n).ref02_bulk h
structure ref02_Bulk_F.Ok (Φ : ref02_Bulk_F) : Prop where
  ref02_Bulk : ∀ {n1 : Nod} {most2 : Int} {r : Int}, Φ.ref02_Bulk n1 most2 = some r → E env (.call 52 [.agg [.int .i64 n1.op, .str n1.s, .int .i64 n1.n, .int .i64 n1.t.kind, .str n1.t.name, .int .i64 n1.t.n, .slice .sealed (List.length n1.t.args) (clTyp n1.t.args), .slice .sealed (List.length n1.ts) (clTyp n1.ts), .slice .sealed (List.length n1.l) (clNod n1.l), .int .i64 n1.at_], .int .i64 most2]) [] = some (ref02_Bulk_enc n1 most2 r)
theorem ref02_Bulk_b_ok (n : Nat) {Φ : ref02_Bulk_F} (hΦ : Φ.Ok) {n1 : Nod} {most2 : Int} {r : Int} (h : ref02_Bulk_b n Φ n1 most2 = some r) :
    E env (.call 52 [.agg [.int .i64 n1.op, .str n1.s, .int .i64 n1.n, .int .i64 n1.t.kind, .str n1.t.name, .int .i64 n1.t.n, .slice .sealed (List.length n1.t.args) (clTyp n1.t.args), .slice .sealed (List.length n1.ts) (clTyp n1.ts), .slice .sealed (List.length n1.l) (clNod n1.l), .int .i64 n1.at_], .int .i64 most2]) [] = some (ref02_Bulk_enc n1 most2 r) := by
  unfold ref02_Bulk_b at h
  obtain ⟨n1_0, n1_1, n1_2, ⟨n1_3, n1_4, n1_5, n1_6⟩, n1_7, n1_8, n1_9⟩ := n1
  refine call_out rfl Tryz.func52 rfl rfl ?_
  refine ev_seq ?_
  refine ev_region ?_
  refine os_eff rfl rfl rfl ?_
  refine os_pure rfl rfl rfl ?_
  refine os_nil ?_
  refine ev_seq ?_
  refine ev_region ?_
  refine os_pure rfl rfl rfl ?_
  refine os_eff rfl rfl rfl ?_
  refine os_pure rfl rfl rfl ?_
  refine os_pure rfl rfl rfl ?_
  refine os_eff rfl rfl rfl ?_
  refine os_pure rfl rfl rfl ?_
  obtain ⟨r3, g1, h⟩ := bnd_inv h
  refine os_quiet rfl rfl rfl rfl rfl (ref02_bulk_ok g1) rfl ?_
  refine os_pure rfl rfl rfl ?_
  refine os_pure rfl rfl rfl ?_
  refine os_nil ?_
  obtain ⟨y2, g3, h⟩ := bnd_inv h
  refine ev_seg [(1, .int .i64 most2), (2, .ptr 0 0), (5, .int .i64 y2)] [(0, .row [.int .i64 n1_0, .str n1_1, .int .i64 n1_2, .int .i64 n1_3, .str n1_4, .int .i64 n1_5, .slice .sealed (List.length n1_6) (clTyp n1_6), .slice .sealed (List.length n1_7) (clTyp n1_7), .slice .sealed (List.length n1_8) (clNod n1_8), .int .i64 n1_9])] rfl ?_ ?_
  · replace h := g3
    clear g3
    refine ev_seq ?_
    refine ev_region ?_
    refine os_pure rfl rfl rfl ?_
    refine os_nil ?_
    refine ev_block ?_
    refine ev_loop rfl ?_
    revert y2
    refine lp_fuel (fun m (x : Int × Int) => ref02_Bulk_l3 n Φ most2 (Nod.mk n1_0 n1_1 n1_2 (Typ.mk n1_3 n1_4 n1_5 n1_6) n1_7 n1_8 n1_9) m x.1 x.2) (fun x => [(1, .int .i64 most2), (2, .ptr 0 0), (5, .int .i64 x.1), (6, .int .i64 x.2)]) (fun x => [(0, .row [.int .i64 n1_0, .str n1_1, .int .i64 n1_2, .int .i64 n1_3, .str n1_4, .int .i64 n1_5, .slice .sealed (List.length n1_6) (clTyp n1_6), .slice .sealed (List.length n1_7) (clTyp n1_7), .slice .sealed (List.length n1_8) (clNod n1_8), .int .i64 n1_9])]) _ (fun _ => rfl) (fun m3 x y ih h => ?_) n ((w64 ((List.length n1_1 : Int) + r3)), 0)
    obtain ⟨k502, i503⟩ := x
    show Ev _ _ _ _ _ [(1, .int .i64 most2), (2, .ptr 0 0), (5, .int .i64 k502), (6, .int .i64 i503)] [(0, .row [.int .i64 n1_0, .str n1_1, .int .i64 n1_2, .int .i64 n1_3, .str n1_4, .int .i64 n1_5, .slice .sealed (List.length n1_6) (clTyp n1_6), .slice .sealed (List.length n1_7) (clTyp n1_7), .slice .sealed (List.length n1_8) (clNod n1_8), .int .i64 n1_9])] _
    replace h : ref02_Bulk_l3 n Φ most2 (Nod.mk n1_0 n1_1 n1_2 (Typ.mk n1_3 n1_4 n1_5 n1_6) n1_7 n1_8 n1_9) (m3 + 1) k502 i503 = some y := h
    rw [ref02_Bulk_l3] at h
    refine ev_seq ?_
    obtain ⟨y4, g5, h⟩ := bnd_inv h
    refine ev_seg [(1, .int .i64 most2), (2, .ptr 0 0), (5, .int .i64 k502), (6, .int .i64 i503), (25, .bool y4)] [(0, .row [.int .i64 n1_0, .str n1_1, .int .i64 n1_2, .int .i64 n1_3, .str n1_4, .int .i64 n1_5, .slice .sealed (List.length n1_6) (clTyp n1_6), .slice .sealed (List.length n1_7) (clTyp n1_7), .slice .sealed (List.length n1_8) (clNod n1_8), .int .i64 n1_9])] rfl ?_ ?_
    · replace h := g5
      clear g5
      refine ev_region ?_
      refine os_pure rfl rfl rfl ?_
      refine os_pure rfl rfl rfl ?_
      refine os_eff rfl rfl rfl ?_
      refine os_pure rfl rfl rfl ?_
      refine os_pure rfl rfl rfl ?_
      refine os_pure rfl rfl rfl ?_
      refine os_guard rfl rfl rfl (fun g6 => ?_) (fun g6 => ?_)
      · replace h := cond_t h g6
        refine os_pure rfl rfl rfl ?_
        refine os_pure rfl rfl rfl ?_
        refine os_pure rfl rfl rfl ?_
        refine os_pure rfl rfl rfl ?_
        refine os_nil ?_
        cases h
        exact rfl
      · replace h := cond_f h g6
        refine os_skip rfl ?_
        refine os_skip rfl ?_
        refine os_skip rfl ?_
        refine os_pure rfl rfl rfl ?_
        refine os_nil ?_
        cases h
        exact rfl
    · obtain ⟨x506, rfl⟩ : ∃ q, q = y4 := ⟨_, rfl⟩
      show Ev _ _ _ _ _ [(1, .int .i64 most2), (2, .ptr 0 0), (5, .int .i64 k502), (6, .int .i64 i503), (25, .bool x506)] [(0, .row [.int .i64 n1_0, .str n1_1, .int .i64 n1_2, .int .i64 n1_3, .str n1_4, .int .i64 n1_5, .slice .sealed (List.length n1_6) (clTyp n1_6), .slice .sealed (List.length n1_7) (clTyp n1_7), .slice .sealed (List.length n1_8) (clNod n1_8), .int .i64 n1_9])] _
      refine ev_if rfl (fun g7 => ?_) (fun g7 => ?_)
      · replace h := cond_t h g7
        refine ev_skip ?_
        refine ev_seq ?_
        refine ev_block ?_
        refine ev_region ?_
        refine os_pure rfl rfl rfl ?_
        refine os_pure rfl rfl rfl ?_
        refine os_eff rfl rfl rfl ?_
        refine os_pure rfl rfl rfl ?_
        obtain ⟨x4, g8, h⟩ := bnd_inv h
        obtain ⟨x4_0, x4_1, x4_2, x4_3⟩ := x4
        refine os_idx encTyp g8 rfl rfl rfl rfl rfl rfl rfl rfl ?_
        refine os_loadA (c := [.int .i64 x4_0, .str x4_1, .int .i64 x4_2, .slice .sealed (List.length x4_3) (clTyp x4_3)]) rfl rfl rfl rfl rfl rfl rfl ?_
        refine os_pure rfl rfl rfl ?_
        refine os_pure rfl rfl rfl ?_
        refine os_pure rfl rfl rfl ?_
        obtain ⟨r5, g9, h⟩ := bnd_inv h
        refine os_quiet rfl rfl rfl rfl rfl (ref02_bulk_ok g9) rfl ?_
        refine os_pure rfl rfl rfl ?_
        refine os_pure rfl rfl rfl ?_
        refine os_nil ?_
        refine ev_region ?_
        refine os_pure rfl rfl rfl ?_
        refine os_pure rfl rfl rfl ?_
        refine os_pure rfl rfl rfl ?_
        refine os_nil ?_
        exact ⟨_, _, rfl, ih (_, _) _ h⟩
      · replace h := cond_f h g7
        refine ev_exit ?_
        cases h
        exact rfl
  · obtain ⟨k509, rfl⟩ : ∃ q, q = y2 := ⟨_, rfl⟩
    show Ev _ _ _ _ _ [(1, .int .i64 most2), (2, .ptr 0 0), (5, .int .i64 k509)] [(0, .row [.int .i64 n1_0, .str n1_1, .int .i64 n1_2, .int .i64 n1_3, .str n1_4, .int .i64 n1_5, .slice .sealed (List.length n1_6) (clTyp n1_6), .slice .sealed (List.length n1_7) (clTyp n1_7), .slice .sealed (List.length n1_8) (clNod n1_8), .int .i64 n1_9])] _
    obtain ⟨y10, g11, h⟩ := bnd_inv h
    refine ev_seg [(5, .int .i64 y10)] [] rfl ?_ ?_
    · replace h := g11
      clear g11
      refine ev_seq ?_
      refine ev_region ?_
      refine os_pure rfl rfl rfl ?_
      refine os_nil ?_
      refine ev_block ?_
      refine ev_loop rfl ?_
      revert y10
      refine lp_fuel (fun m (x : Int × Int) => ref02_Bulk_l7 n Φ most2 (Nod.mk n1_0 n1_1 n1_2 (Typ.mk n1_3 n1_4 n1_5 n1_6) n1_7 n1_8 n1_9) m x.1 x.2) (fun x => [(1, .int .i64 most2), (2, .ptr 0 0), (5, .int .i64 x.1), (7, .int .i64 x.2)]) (fun x => [(0, .row [.int .i64 n1_0, .str n1_1, .int .i64 n1_2, .int .i64 n1_3, .str n1_4, .int .i64 n1_5, .slice .sealed (List.length n1_6) (clTyp n1_6), .slice .sealed (List.length n1_7) (clTyp n1_7), .slice .sealed (List.length n1_8) (clNod n1_8), .int .i64 n1_9])]) _ (fun _ => rfl) (fun m7 x y ih h => ?_) n (k509, 0)
      obtain ⟨k517, i518⟩ := x
      show Ev _ _ _ _ _ [(1, .int .i64 most2), (2, .ptr 0 0), (5, .int .i64 k517), (7, .int .i64 i518)] [(0, .row [.int .i64 n1_0, .str n1_1, .int .i64 n1_2, .int .i64 n1_3, .str n1_4, .int .i64 n1_5, .slice .sealed (List.length n1_6) (clTyp n1_6), .slice .sealed (List.length n1_7) (clTyp n1_7), .slice .sealed (List.length n1_8) (clNod n1_8), .int .i64 n1_9])] _
      replace h : ref02_Bulk_l7 n Φ most2 (Nod.mk n1_0 n1_1 n1_2 (Typ.mk n1_3 n1_4 n1_5 n1_6) n1_7 n1_8 n1_9) (m7 + 1) k517 i518 = some y := h
      rw [ref02_Bulk_l7] at h
      refine ev_seq ?_
      obtain ⟨y12, g13, h⟩ := bnd_inv h
      refine ev_seg [(1, .int .i64 most2), (2, .ptr 0 0), (5, .int .i64 k517), (7, .int .i64 i518), (48, .bool y12)] [(0, .row [.int .i64 n1_0, .str n1_1, .int .i64 n1_2, .int .i64 n1_3, .str n1_4, .int .i64 n1_5, .slice .sealed (List.length n1_6) (clTyp n1_6), .slice .sealed (List.length n1_7) (clTyp n1_7), .slice .sealed (List.length n1_8) (clNod n1_8), .int .i64 n1_9])] rfl ?_ ?_
      · replace h := g13
        clear g13
        refine ev_region ?_
        refine os_pure rfl rfl rfl ?_
        refine os_pure rfl rfl rfl ?_
        refine os_eff rfl rfl rfl ?_
        refine os_pure rfl rfl rfl ?_
        refine os_pure rfl rfl rfl ?_
        refine os_pure rfl rfl rfl ?_
        refine os_guard rfl rfl rfl (fun g14 => ?_) (fun g14 => ?_)
        · replace h := cond_t h g14
          refine os_pure rfl rfl rfl ?_
          refine os_pure rfl rfl rfl ?_
          refine os_pure rfl rfl rfl ?_
          refine os_pure rfl rfl rfl ?_
          refine os_nil ?_
          cases h
          exact rfl
        · replace h := cond_f h g14
          refine os_skip rfl ?_
          refine os_skip rfl ?_
          refine os_skip rfl ?_
          refine os_pure rfl rfl rfl ?_
          refine os_nil ?_
          cases h
          exact rfl
      · obtain ⟨x526, rfl⟩ : ∃ q, q = y12 := ⟨_, rfl⟩
        show Ev _ _ _ _ _ [(1, .int .i64 most2), (2, .ptr 0 0), (5, .int .i64 k517), (7, .int .i64 i518), (48, .bool x526)] [(0, .row [.int .i64 n1_0, .str n1_1, .int .i64 n1_2, .int .i64 n1_3, .str n1_4, .int .i64 n1_5, .slice .sealed (List.length n1_6) (clTyp n1_6), .slice .sealed (List.length n1_7) (clTyp n1_7), .slice .sealed (List.length n1_8) (clNod n1_8), .int .i64 n1_9])] _
        refine ev_if rfl (fun g15 => ?_) (fun g15 => ?_)
        · replace h := cond_t h g15
          refine ev_skip ?_
          refine ev_seq ?_
          refine ev_block ?_
          refine ev_region ?_
          refine os_pure rfl rfl rfl ?_
          refine os_pure rfl rfl rfl ?_
          refine os_eff rfl rfl rfl ?_
          refine os_pure rfl rfl rfl ?_
          obtain ⟨x6, g16, h⟩ := bnd_inv h
          obtain ⟨x6_0, x6_1, x6_2, ⟨x6_3, x6_4, x6_5, x6_6⟩, x6_7, x6_8, x6_9⟩ := x6
          refine os_idx encNod g16 rfl rfl rfl rfl rfl rfl rfl rfl ?_
          refine os_loadA (c := [.int .i64 x6_0, .str x6_1, .int .i64 x6_2, .int .i64 x6_3, .str x6_4, .int .i64 x6_5, .slice .sealed (List.length x6_6) (clTyp x6_6), .slice .sealed (List.length x6_7) (clTyp x6_7), .slice .sealed (List.length x6_8) (clNod x6_8), .int .i64 x6_9]) rfl rfl rfl rfl rfl rfl rfl ?_
          refine os_pure rfl rfl rfl ?_
          refine os_pure rfl rfl rfl ?_
          refine os_pure rfl rfl rfl ?_
          obtain ⟨r7, g17, h⟩ := bnd_inv h
          refine os_quiet rfl rfl rfl rfl rfl (hΦ.ref02_Bulk g17) rfl ?_
          refine os_pure rfl rfl rfl ?_
          refine os_pure rfl rfl rfl ?_
          refine os_nil ?_
          refine ev_region ?_
          refine os_pure rfl rfl rfl ?_
          refine os_pure rfl rfl rfl ?_
          refine os_pure rfl rfl rfl ?_
          refine os_nil ?_
          exact ⟨_, _, rfl, ih (_, _) _ h⟩
        · replace h := cond_f h g15
          refine ev_exit ?_
          cases h
          exact rfl
    · obtain ⟨k529, rfl⟩ : ∃ q, q = y10 := ⟨_, rfl⟩
      show Ev _ _ _ _ _ [(5, .int .i64 k529)] [] _
      refine ev_seq ?_
      refine ev_region ?_
      refine os_pure rfl rfl rfl ?_
      refine os_pure rfl rfl rfl ?_
      refine os_nil ?_
      cases h
      exact ev_ret ⟨_, _, _, rfl, rfl, rfl⟩
theorem ref02_Bulk_F.ok : ∀ n, (ref02_Bulk_F.fs n).Ok
  | 0 => ⟨(fun h => by cases h)⟩
  | n + 1 => ⟨(fun h => ref02_Bulk_b_ok n (ref02_Bulk_F.ok n) h)⟩
theorem ref02_Bulk_ok {n : Nat} {n1 : Nod} {most2 : Int} {r : Int} (h : ref02_Bulk n n1 most2 = some r) :
    E env (.call 52 [.agg [.int .i64 n1.op, .str n1.s, .int .i64 n1.n, .int .i64 n1.t.kind, .str n1.t.name, .int .i64 n1.t.n, .slice .sealed (List.length n1.t.args) (clTyp n1.t.args), .slice .sealed (List.length n1.ts) (clTyp n1.ts), .slice .sealed (List.length n1.l) (clNod n1.l), .int .i64 n1.at_], .int .i64 most2]) [] = some (ref02_Bulk_enc n1 most2 r) := (ref02_Bulk_F.ok n).ref02_Bulk h
theorem law02_big_ok {n : Nat} {n1 : Nod} {r : Bool} (h : law02_big n n1 = some r) :
    E env (.call 17 [.agg [.int .i64 n1.op, .str n1.s, .int .i64 n1.n, .int .i64 n1.t.kind, .str n1.t.name, .int .i64 n1.t.n, .slice .sealed (List.length n1.t.args) (clTyp n1.t.args), .slice .sealed (List.length n1.ts) (clTyp n1.ts), .slice .sealed (List.length n1.l) (clNod n1.l), .int .i64 n1.at_]]) [] = some (law02_big_enc n1 r) := by
  unfold law02_big at h
  obtain ⟨n1_0, n1_1, n1_2, ⟨n1_3, n1_4, n1_5, n1_6⟩, n1_7, n1_8, n1_9⟩ := n1
  refine call_out rfl Tryz.func17 rfl rfl ?_
  refine ev_seq ?_
  refine ev_region ?_
  refine os_eff rfl rfl rfl ?_
  refine os_pure rfl rfl rfl ?_
  refine os_nil ?_
  refine ev_seq ?_
  refine ev_region ?_
  refine os_eff rfl rfl rfl ?_
  obtain ⟨r2, g1, h⟩ := bnd_inv h
  refine os_quiet rfl rfl rfl rfl rfl (ref00_Nodes_ok g1) rfl ?_
  refine os_pure rfl rfl rfl ?_
  refine os_pure rfl rfl rfl ?_
  refine os_guard rfl rfl rfl (fun g2 => ?_) (fun g2 => ?_)
  · replace h := cond_t h g2
    refine os_skip rfl ?_
    refine os_skip rfl ?_
    refine os_skip rfl ?_
    refine os_pure rfl rfl rfl ?_
    refine os_pure rfl rfl rfl ?_
    refine os_nil ?_
    cases h
    exact ev_ret ⟨_, _, _, rfl, rfl, rfl⟩
  · replace h := cond_f h g2
    refine os_eff rfl rfl rfl ?_
    obtain ⟨r3, g3, h⟩ := bnd_inv h
    refine os_quiet rfl rfl rfl rfl rfl (ref02_Bulk_ok g3) rfl ?_
    refine os_pure rfl rfl rfl ?_
    refine os_pure rfl rfl rfl ?_
    refine os_pure rfl rfl rfl ?_
    refine os_nil ?_
    cases h
    exact ev_ret ⟨_, _, _, rfl, rfl, rfl⟩
structure parse_sameType_F.Ok (Φ : parse_sameType_F) : Prop where
  parse_sameType : ∀ {a1 : Typ} {b2 : Typ} {r : Bool}, Φ.parse_sameType a1 b2 = some r → E env (.call 70 [.agg [.int .i64 a1.kind, .str a1.name, .int .i64 a1.n, .slice .sealed (List.length a1.args) (clTyp a1.args)], .agg [.int .i64 b2.kind, .str b2.name, .int .i64 b2.n, .slice .sealed (List.length b2.args) (clTyp b2.args)]]) [] = some (parse_sameType_enc a1 b2 r)
  parse_sameList_Type : ∀ {a1 : List Typ} {b2 : List Typ} {r : Bool}, Φ.parse_sameList_Type a1 b2 = some r → E env (.call 71 [.slice .sealed (List.length a1) (clTyp a1), .slice .sealed (List.length b2) (clTyp b2), .func (.func 70) [] []]) [] = some (parse_sameList_Type_enc a1 b2 r)
theorem parse_sameType_b_ok (n : Nat) {Φ : parse_sameType_F} (hΦ : Φ.Ok) {a1 : Typ} {b2 : Typ} {r : Bool} (h : parse_sameType_b n Φ a1 b2 = some r) :
    E env (.call 70 [.agg [.int .i64 a1.kind, .str a1.name, .int .i64 a1.n, .slice .sealed (List.length a1.args) (clTyp a1.args)], .agg [.int .i64 b2.kind, .str b2.name, .int .i64 b2.n, .slice .sealed (List.length b2.args) (clTyp b2.args)]]) [] = some (parse_sameType_enc a1 b2 r) := by
  unfold parse_sameType_b at h
  obtain ⟨a1_0, a1_1, a1_2, a1_3⟩ := a1
  obtain ⟨b2_0, b2_1, b2_2, b2_3⟩ := b2
  refine call_out rfl Tryz.func70 rfl rfl ?_
  refine ev_seq ?_
  refine ev_region ?_
  refine os_eff rfl rfl rfl ?_
  refine os_eff rfl rfl rfl ?_
  refine os_pure rfl rfl rfl ?_
  refine os_nil ?_
  refine ev_seq ?_
  refine ev_region ?_
  refine os_pure rfl rfl rfl ?_
  refine os_eff rfl rfl rfl ?_
  refine os_pure rfl rfl rfl ?_
  refine os_eff rfl rfl rfl ?_
  refine os_pure rfl rfl rfl ?_
  refine os_pure rfl rfl rfl ?_
  refine os_guard rfl rfl rfl (fun g1 => ?_) (fun g1 => ?_)
  · replace h := cond_t h g1
    refine os_pure rfl rfl rfl ?_
    refine os_eff rfl rfl rfl ?_
    refine os_pure rfl rfl rfl ?_
    refine os_eff rfl rfl rfl ?_
    refine os_pure rfl rfl rfl ?_
    refine os_pure rfl rfl rfl ?_
    refine os_pure rfl rfl rfl ?_
    refine os_guard rfl rfl rfl (fun g2 => ?_) (fun g2 => ?_)
    · replace h := cond_t h g2
      refine os_pure rfl rfl rfl ?_
      refine os_eff rfl rfl rfl ?_
      refine os_pure rfl rfl rfl ?_
      refine os_eff rfl rfl rfl ?_
      refine os_pure rfl rfl rfl ?_
      refine os_pure rfl rfl rfl ?_
      refine os_pure rfl rfl rfl ?_
      refine os_guard rfl rfl rfl (fun g3 => ?_) (fun g3 => ?_)
      · replace h := cond_t h g3
        refine os_pure rfl rfl rfl ?_
        refine os_eff rfl rfl rfl ?_
        refine os_pure rfl rfl rfl ?_
        refine os_eff rfl rfl rfl ?_
        obtain ⟨r3, g4, h⟩ := bnd_inv h
        refine os_quiet rfl rfl rfl rfl rfl (hΦ.parse_sameList_Type g4) rfl ?_
        refine os_pure rfl rfl rfl ?_
        refine os_pure rfl rfl rfl ?_
        refine os_nil ?_
        cases h
        exact ev_ret ⟨_, _, _, rfl, rfl, rfl⟩
      · replace h := cond_f h g3
        refine os_skip rfl ?_
        refine os_skip rfl ?_
        refine os_skip rfl ?_
        refine os_skip rfl ?_
        refine os_skip rfl ?_
        refine os_pure rfl rfl rfl ?_
        refine os_pure rfl rfl rfl ?_
        refine os_nil ?_
        cases h
        exact ev_ret ⟨_, _, _, rfl, rfl, rfl⟩
    · replace h := cond_f h g2
      refine os_skip rfl ?_
      refine os_skip rfl ?_
      refine os_skip rfl ?_
      refine os_skip rfl ?_
      refine os_skip rfl ?_
      refine os_pure rfl rfl rfl ?_
      refine os_pure rfl rfl rfl ?_
      refine os_skip rfl ?_
      refine os_skip rfl ?_
      refine os_skip rfl ?_
      refine os_skip rfl ?_
      refine os_skip rfl ?_
      refine os_pure rfl rfl rfl ?_
      refine os_pure rfl rfl rfl ?_
      refine os_nil ?_
      cases h
      exact ev_ret ⟨_, _, _, rfl, rfl, rfl⟩
  · replace h := cond_f h g1
    refine os_skip rfl ?_
    refine os_skip rfl ?_
    refine os_skip rfl ?_
    refine os_skip rfl ?_
    refine os_skip rfl ?_
    refine os_pure rfl rfl rfl ?_
    refine os_pure rfl rfl rfl ?_
    refine os_skip rfl ?_
    refine os_skip rfl ?_
    refine os_skip rfl ?_
    refine os_skip rfl ?_
    refine os_skip rfl ?_
    refine os_pure rfl rfl rfl ?_
    refine os_pure rfl rfl rfl ?_
    refine os_skip rfl ?_
    refine os_skip rfl ?_
    refine os_skip rfl ?_
    refine os_skip rfl ?_
    refine os_skip rfl ?_
    refine os_pure rfl rfl rfl ?_
    refine os_pure rfl rfl rfl ?_
    refine os_nil ?_
    cases h
    exact ev_ret ⟨_, _, _, rfl, rfl, rfl⟩
theorem parse_sameList_Type_b_ok (n : Nat) {Φ : parse_sameType_F} (hΦ : Φ.Ok) {a1 : List Typ} {b2 : List Typ} {r : Bool} (h : parse_sameList_Type_b n Φ a1 b2 = some r) :
    E env (.call 71 [.slice .sealed (List.length a1) (clTyp a1), .slice .sealed (List.length b2) (clTyp b2), .func (.func 70) [] []]) [] = some (parse_sameList_Type_enc a1 b2 r) := by
  unfold parse_sameList_Type_b at h
  refine call_out rfl Tryz.func71 rfl rfl ?_
  refine ev_seq ?_
  refine ev_region ?_
  refine os_pure rfl rfl rfl ?_
  refine os_nil ?_
  refine ev_seq ?_
  refine ev_seq ?_
  refine ev_region ?_
  refine os_pure rfl rfl rfl ?_
  refine os_pure rfl rfl rfl ?_
  refine os_pure rfl rfl rfl ?_
  refine os_pure rfl rfl rfl ?_
  refine os_pure rfl rfl rfl ?_
  refine os_nil ?_
  refine ev_if rfl (fun g1 => ?_) (fun g1 => ?_)
  · replace h := cond_t h g1
    refine ev_seq ?_
    refine ev_region ?_
    refine os_pure rfl rfl rfl ?_
    refine os_nil ?_
    cases h
    exact ev_ret ⟨_, _, _, rfl, rfl, rfl⟩
  · replace h := cond_f h g1
    refine ev_skip ?_
    obtain ⟨y2, g3, h⟩ := bindL_inv h
    refine ev_segL (KR := fun r => OutK env 71 0 Tryz.f71.results.toList (parse_sameList_Type_enc a1 b2 r)) y2 (fun z9 => []) (fun z9 => []) rfl ?_ (fun z9 hx => ?_) (fun r res hz hr hn => ?_)
    · replace h := g3
      clear g3
      refine ev_seq ?_
      refine ev_region ?_
      refine os_pure rfl rfl rfl ?_
      refine os_pure rfl rfl rfl ?_
      refine os_pure rfl rfl rfl ?_
      refine os_nil ?_
      refine ev_block ?_
      refine ev_loop rfl ?_
      revert y2
      refine lp_fuel (fun m (x : Int) => parse_sameList_Type_l4 n Φ a1 b2 m x) (fun x => [(0, .slice .sealed (List.length a1) (clTyp a1)), (1, .slice .sealed (List.length b2) (clTyp b2)), (2, .func (.func 70) [] []), (14, .int .i64 (List.length a1 : Int)), (15, .int .i64 x)]) (fun x => []) _ (fun _ => rfl) (fun m4 x y ih h => ?_) n 0
      obtain ⟨x503, rfl⟩ : ∃ q, q = x := ⟨_, rfl⟩
      show Ev _ _ _ _ _ [(0, .slice .sealed (List.length a1) (clTyp a1)), (1, .slice .sealed (List.length b2) (clTyp b2)), (2, .func (.func 70) [] []), (14, .int .i64 (List.length a1 : Int)), (15, .int .i64 x503)] [] _
      replace h : parse_sameList_Type_l4 n Φ a1 b2 (m4 + 1) x503 = some y := h
      rw [parse_sameList_Type_l4] at h
      refine ev_seq ?_
      refine ev_region ?_
      refine os_pure rfl rfl rfl ?_
      refine os_nil ?_
      refine ev_seq ?_
      refine ev_if rfl (fun g4 => ?_) (fun g4 => ?_)
      · replace h := cond_t h g4
        refine ev_skip ?_
        refine ev_seq ?_
        refine ev_block ?_
        refine ev_seq ?_
        refine ev_region ?_
        refine os_pure rfl rfl rfl ?_
        refine os_pure rfl rfl rfl ?_
        refine os_nil ?_
        refine ev_seq ?_
        refine ev_region ?_
        refine os_pure rfl rfl rfl ?_
        refine os_pure rfl rfl rfl ?_
        refine os_pure rfl rfl rfl ?_
        obtain ⟨x3, g5, h⟩ := bnd_inv h
        obtain ⟨x3_0, x3_1, x3_2, x3_3⟩ := x3
        refine os_idx encTyp g5 rfl rfl rfl rfl rfl rfl rfl rfl ?_
        refine os_loadA (c := [.int .i64 x3_0, .str x3_1, .int .i64 x3_2, .slice .sealed (List.length x3_3) (clTyp x3_3)]) rfl rfl rfl rfl rfl rfl rfl ?_
        refine os_pure rfl rfl rfl ?_
        refine os_pure rfl rfl rfl ?_
        obtain ⟨x4, g6, h⟩ := bnd_inv h
        obtain ⟨x4_0, x4_1, x4_2, x4_3⟩ := x4
        refine os_idx encTyp g6 rfl rfl rfl rfl rfl rfl rfl rfl ?_
        refine os_loadA (c := [.int .i64 x4_0, .str x4_1, .int .i64 x4_2, .slice .sealed (List.length x4_3) (clTyp x4_3)]) rfl rfl rfl rfl rfl rfl rfl ?_
        obtain ⟨r5, g7, h⟩ := bnd_inv h
        refine os_quietv rfl rfl rfl rfl rfl rfl (hΦ.parse_sameType g7) rfl ?_
        refine os_pure rfl rfl rfl ?_
        refine os_nil ?_
        refine ev_if rfl (fun g8 => ?_) (fun g8 => ?_)
        · replace h := cond_t h g8
          refine ev_seq ?_
          refine ev_region ?_
          refine os_pure rfl rfl rfl ?_
          refine os_nil ?_
          cases h
          exact ev_ret ⟨_, rfl, _, _, _, rfl, rfl, rfl⟩
        · replace h := cond_f h g8
          refine ev_skip ?_
          refine ev_region ?_
          refine os_pure rfl rfl rfl ?_
          refine os_pure rfl rfl rfl ?_
          refine os_nil ?_
          exact ⟨_, _, rfl, ih _ _ h⟩
      · replace h := cond_f h g4
        refine ev_exit ?_
        cases h
        exact ⟨_, rfl, rfl⟩
    · subst hx
      show Ev _ _ _ _ _ [] [] _
      refine ev_seq ?_
      refine ev_region ?_
      refine os_pure rfl rfl rfl ?_
      refine os_nil ?_
      cases h
      exact ev_ret ⟨_, _, _, rfl, rfl, rfl⟩
    · subst hz
      obtain ⟨e, fr1, H1⟩ := res
      cases e with
      | normal => exact absurd rfl hn
      | ret => cases h; exact hr
      | exit i => exact hr.elim
      | panic v => cases h; exact hr
theorem parse_sameType_F.ok : ∀ n, (parse_sameType_F.fs n).Ok
  | 0 => ⟨(fun h => by cases h), (fun h => by cases h)⟩
  | n + 1 => ⟨(fun h => parse_sameType_b_ok n (parse_sameType_F.ok n) h), (fun h => parse_sameList_Type_b_ok n (parse_sameType_F.ok n) h)⟩
theorem parse_sameType_ok {n : Nat} {a1 : Typ} {b2 : Typ} {r : Bool} (h : parse_sameType n a1 b2 = some r) :
    E env (.call 70 [.agg [.int .i64 a1.kind, .str a1.name, .int .i64 a1.n, .slice .sealed (List.length a1.args) (clTyp a1.args)], .agg [.int .i64 b2.kind, .str b2.name, .int .i64 b2.n, .slice .sealed (List.length b2.args) (clTyp b2.args)]]) [] = some (parse_sameType_enc a1 b2 r) := (parse_sameType_F.ok n).parse_sameType h
theorem parse_sameList_Type_ok {n : Nat} {a1 : List Typ} {b2 : List Typ} {r : Bool} (h : parse_sameList_Type n a1 b2 = some r) :
    E env (.call 71 [.slice .sealed (List.length a1) (clTyp a1), .slice .sealed (List.length b2) (clTyp b2), .func (.func 70) [] []]) [] = some (parse_sameList_Type_enc a1 b2 r) := (parse_sameType_F.ok n).parse_sameList_Type h
end Go.Proofs.YtmonfppdiehlpaaGreatDoor
