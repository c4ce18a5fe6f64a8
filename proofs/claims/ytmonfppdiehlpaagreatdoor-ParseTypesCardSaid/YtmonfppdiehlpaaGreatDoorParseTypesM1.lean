/- What the functions under ParseTypes compute: texts that were built one by one, joined: YT QEnv QC1 QC2 QC3 QC4 QC5 QC6 QC7 QC8 QM1 QM2 QM3. -/
import Derived.Test.YtmonfppdiehlpaaGreatDoorK3
import Derived.KernelRfl
import Derived.Test.YtmonfppdiehlpaaGreatDoorProg
/- Types. (Printed by a program.) -/
namespace Go.Proofs.YtmonfppdiehlpaaGreatDoor
set_option linter.unusedSimpArgs false
set_option linter.unusedVariables false
set_option linter.unusedSectionVars false
open Go Go.Vm
set_option maxRecDepth 100000
set_option maxHeartbeats 20000000
set_option linter.unusedVariables false
structure Flt where
  code : Int
  at_ : Int
def c1Flt (x : Flt) : List V := [.int .i64 x.code, .int .i64 x.at_]
def clFlt : List Flt → List V
  | [] => []
  | x :: r => .int .i64 x.code :: .int .i64 x.at_ :: clFlt r
theorem encFlt : IsEnc 2 c1Flt clFlt := ⟨fun _ => rfl, rfl, fun _ _ => rfl⟩
structure Typ where
  kind : Int
  name : Str
  n : Int
  args : List Typ
mutual
def Typ.sub : Typ → List V
  | ⟨_, _, _, a3⟩ => clTyp a3
def clTyp : List Typ → List V
  | [] => []
  | x :: r => .int .i64 x.kind :: .str x.name :: .int .i64 x.n :: .slice .sealed (List.length x.args) (x.sub) :: clTyp r
end
def c1Typ (x : Typ) : List V := [.int .i64 x.kind, .str x.name, .int .i64 x.n, .slice .sealed (List.length x.args) (clTyp x.args)]
theorem encTyp : IsEnc 4 c1Typ clTyp := ⟨fun _ => rfl, rfl, fun x r => by cases x; rfl⟩
structure Tok where
  kind : Int
  text : Str
  at_ : Int
  len : Int
def c1Tok (x : Tok) : List V := [.int .i64 x.kind, .str x.text, .int .i64 x.at_, .int .i64 x.len]
def clTok : List Tok → List V
  | [] => []
  | x :: r => .int .i64 x.kind :: .str x.text :: .int .i64 x.at_ :: .int .i64 x.len :: clTok r
theorem encTok : IsEnc 4 c1Tok clTok := ⟨fun _ => rfl, rfl, fun _ _ => rfl⟩
structure SParseStop where
  fault : Flt
def c1SParseStop (x : SParseStop) : List V := [.int .i64 x.fault.code, .int .i64 x.fault.at_]
def clSParseStop : List SParseStop → List V
  | [] => []
  | x :: r => .int .i64 x.fault.code :: .int .i64 x.fault.at_ :: clSParseStop r
theorem encSParseStop : IsEnc 2 c1SParseStop clSParseStop := ⟨fun _ => rfl, rfl, fun _ _ => rfl⟩
end Go.Proofs.YtmonfppdiehlpaaGreatDoor
/- This seat: types, loop heads. -/
namespace Go.Proofs.YtmonfppdiehlpaaGreatDoor.Sc
set_option linter.unusedSimpArgs false
set_option linter.unusedVariables false
set_option linter.unusedSectionVars false
open Go Go.Vm
def T : List (Nat × Ty) := [
  (3, ⟨.int .i64, 1, 8, [.int .i64 0]⟩),
  (4, ⟨.bool, 1, 1, [.bool false]⟩),
  (5, ⟨.int .u8, 1, 1, [.int .u8 0]⟩),
  (9, ⟨.string, 1, 16, [.str []]⟩),
  (38, ⟨.int .i64, 1, 8, [.int .i64 0]⟩),
  (40, ⟨.struct [(38, 0), (3, 1)], 2, 16, [.int .i64 0, .int .i64 0]⟩),
  (57, ⟨.slice 72, 1, 24, [.slice .nil 0 []]⟩),
  (72, ⟨.struct [(3, 0), (9, 1), (3, 2), (3, 3)], 4, 40, [.int .i64 0, .str [], .int .i64 0, .int .i64 0]⟩),
  (81, ⟨.slice 5, 1, 24, [.slice .nil 0 []]⟩),
  (85, ⟨.slice 9, 1, 24, [.slice .nil 0 []]⟩),
  (116, ⟨.slice 3, 1, 24, [.slice .nil 0 []]⟩),
  (120, ⟨.struct [(9, 0), (3, 1), (4, 2)], 3, 32, [.str [], .int .i64 0, .bool false]⟩),
  (149, ⟨.ptr 153, 1, 8, [.nilptr]⟩),
  (151, ⟨.struct [(9, 0), (3, 1)], 2, 24, [.str [], .int .i64 0]⟩),
  (153, ⟨.struct [(151, 0), (57, 2), (40, 3)], 5, 64, [.str [], .int .i64 0, .slice .nil 0 [], .int .i64 0, .int .i64 0]⟩),
  (157, ⟨.func, 1, 8, [.nilFunc]⟩),
  (197, ⟨.ptr 151, 1, 8, [.nilptr]⟩),
  (200, ⟨.array 32 9, 32, 512, [.str [], .str [], .str [], .str [], .str [], .str [], .str [], .str [], .str [], .str [], .str [], .str [], .str [], .str [], .str [], .str [], .str [], .str [], .str [], .str [], .str [], .str [], .str [], .str [], .str [], .str [], .str [], .str [], .str [], .str [], .str [], .str []]⟩),
  (202, ⟨.array 27 9, 27, 432, [.str [], .str [], .str [], .str [], .str [], .str [], .str [], .str [], .str [], .str [], .str [], .str [], .str [], .str [], .str [], .str [], .str [], .str [], .str [], .str [], .str [], .str [], .str [], .str [], .str [], .str [], .str []]⟩)]
def keep : Nat → Nat → List Nat
  | 45, 6 => [0, 3, 5, 6, 4, 7]
  | 148, 2 => [0, 1, 2, 7]
  | 95, 1 => [0, 1]
  | 95, 6 => [0, 1]
  | 97, 2 => [0, 1, 2, 3, 8, 9, 10]
  | 199, 0 => [0]
  | 203, 5 => [0, 1, 5, 6, 7, 8]
  | 208, 3 => [0, 3, 4]
  | 160, 1 => [0, 1]
  | 162, 1 => [0, 1]
  | 164, 2 => [0, 1, 5]
  | 227, 2 => [0, 1, 5]
  | 231, 2 => [0, 1, 5, 6]
  | _, _ => []
def okL : List Nat := [81, 45, 165, 213, 148, 95, 96, 97, 98, 230, 232, 199, 200, 201, 202, 203, 204, 205, 206, 207, 208, 209, 156, 157, 158, 159, 160, 161, 162, 163, 164, 225, 226, 227, 228, 229, 231]
def quietL : List Nat := [81, 165, 213, 95, 96, 97, 98, 230, 232, 204, 206, 156, 157, 158, 159, 160, 161, 162, 163, 164, 225, 228, 229]
noncomputable def env : Env := { P := Tryz.prog, T := T, keep := keep, byref := fun f s => match f, s with | 45, 5 => some 1 | 45, 6 => some 1 | _, _ => none, meth := fun _ _ => none, tags := fun _ => false, argTags := fun _ => false, quiet := fun g => has g quietL, loose := fun _ => false, intr := fun _ => none, ok := fun g => has g okL }
theorem tys : tysB Tryz.prog T = true := by kernel_rfl
theorem codes : codesB env okL = true := by kernel_rfl
theorem mixed : Tryz.prog.follows .mixedOrders = true := by kernel_rfl
theorem methNo : MethOk env := by
  intro _ _ _ h
  cases h
theorem envOk : EnvOk env := ⟨methNo, tysB_ok tys, mixed, codesB_ok (fun _ h => h) codes, (fun _ _ h => by cases h), (fun _ _ _ h => by cases h)⟩
end Go.Proofs.YtmonfppdiehlpaaGreatDoor.Sc
/- Contracts: bytes. (Printed by a program.) -/
namespace Go.Proofs.YtmonfppdiehlpaaGreatDoor.Sc
set_option linter.unusedSimpArgs false
set_option linter.unusedVariables false
set_option linter.unusedSectionVars false
open Go Go.Vm
set_option maxRecDepth 100000
set_option linter.unusedVariables false

def digitI (n : Int) : Bool := leB 48 n && leB n 57
theorem c41I (n : Int) : E env (.call 204 [.int .u8 n]) [] = some (.ret (.bool (digitI n)) []) := by
  refine call_ret rfl Tryz.func204 rfl rfl ?_
  refine ev_seq ?_
  refine ev_region ?_
  refine os_pure rfl rfl rfl ?_
  refine os_nil ?_
  refine ev_seq ?_
  refine ev_region ?_
  refine os_pure rfl rfl rfl ?_
  refine os_pure rfl rfl rfl ?_
  refine os_pure rfl rfl rfl ?_
  refine os_guard rfl rfl rfl (fun h1 => ?_) (fun h1 => ?_)
  · refine os_pure rfl rfl rfl ?_
    refine os_pure rfl rfl rfl ?_
    refine os_pure rfl rfl rfl ?_
    refine os_pure rfl rfl rfl ?_
    refine os_nil ?_
    exact ev_ret ⟨_, rfl, by show some (V.bool _, _) = some (V.bool _, _); simp [digitI, *]⟩
  · refine os_skip rfl ?_
    refine os_skip rfl ?_
    refine os_pure rfl rfl rfl ?_
    refine os_pure rfl rfl rfl ?_
    refine os_nil ?_
    exact ev_ret ⟨_, rfl, by show some (V.bool _, _) = some (V.bool _, _); simp [digitI, *]⟩
def digitB (b : UInt8) : Bool := decide (48 ≤ b.toNat ∧ b.toNat ≤ 57)
theorem digitB_eq (b : UInt8) : digitI (b.toNat : Nat) = digitB b := by
  simp only [digitI, digitB, leB, eqB]; rw [Bool.eq_iff_iff]; simp; omega
theorem c41 (b : UInt8) : E env (.call 204 [.int .u8 (b.toNat : Nat)]) [] = some (.ret (.bool (digitB b)) []) := by rw [← digitB_eq]; exact c41I _

theorem c48I (n : Int) : E env (.call 157 [.int .u8 n]) [] = some (.ret (.bool (digitI n)) []) := by
  refine call_ret rfl Tryz.func157 rfl rfl ?_
  refine ev_seq ?_
  refine ev_region ?_
  refine os_pure rfl rfl rfl ?_
  refine os_nil ?_
  refine ev_seq ?_
  refine ev_region ?_
  refine os_pure rfl rfl rfl ?_
  refine os_pure rfl rfl rfl ?_
  refine os_pure rfl rfl rfl ?_
  refine os_guard rfl rfl rfl (fun h1 => ?_) (fun h1 => ?_)
  · refine os_pure rfl rfl rfl ?_
    refine os_pure rfl rfl rfl ?_
    refine os_pure rfl rfl rfl ?_
    refine os_pure rfl rfl rfl ?_
    refine os_nil ?_
    exact ev_ret ⟨_, rfl, by show some (V.bool _, _) = some (V.bool _, _); simp [digitI, *]⟩
  · refine os_skip rfl ?_
    refine os_skip rfl ?_
    refine os_pure rfl rfl rfl ?_
    refine os_pure rfl rfl rfl ?_
    refine os_nil ?_
    exact ev_ret ⟨_, rfl, by show some (V.bool _, _) = some (V.bool _, _); simp [digitI, *]⟩
theorem c48 (b : UInt8) : E env (.call 157 [.int .u8 (b.toNat : Nat)]) [] = some (.ret (.bool (digitB b)) []) := by rw [← digitB_eq]; exact c48I _
def letterI (n : Int) : Bool := (leB 97 n && leB n 122) || (leB 65 n && leB n 90) || eqB n 95
theorem c43I (n : Int) : E env (.call 206 [.int .u8 n]) [] = some (.ret (.bool (letterI n)) []) := by
  refine call_ret rfl Tryz.func206 rfl rfl ?_
  refine ev_seq ?_
  refine ev_region ?_
  refine os_pure rfl rfl rfl ?_
  refine os_nil ?_
  refine ev_seq ?_
  refine ev_region ?_
  refine os_pure rfl rfl rfl ?_
  refine os_pure rfl rfl rfl ?_
  refine os_pure rfl rfl rfl ?_
  refine os_guard rfl rfl rfl (fun h1 => ?_) (fun h1 => ?_)
  · refine os_pure rfl rfl rfl ?_
    refine os_pure rfl rfl rfl ?_
    refine os_pure rfl rfl rfl ?_
    refine os_pure rfl rfl rfl ?_
    refine os_guard rfl rfl rfl (fun h2 => ?_) (fun h2 => ?_)
    · refine os_skip rfl ?_
      refine os_skip rfl ?_
      refine os_skip rfl ?_
      refine os_skip rfl ?_
      refine os_skip rfl ?_
      refine os_skip rfl ?_
      refine os_pure rfl rfl rfl ?_
      refine os_pure rfl rfl rfl ?_
      refine os_skip rfl ?_
      refine os_skip rfl ?_
      refine os_pure rfl rfl rfl ?_
      refine os_pure rfl rfl rfl ?_
      refine os_nil ?_
      exact ev_ret ⟨_, rfl, by show some (V.bool _, _) = some (V.bool _, _); simp [letterI, *]⟩
    · refine os_pure rfl rfl rfl ?_
      refine os_pure rfl rfl rfl ?_
      refine os_pure rfl rfl rfl ?_
      refine os_guard rfl rfl rfl (fun h3 => ?_) (fun h3 => ?_)
      · refine os_pure rfl rfl rfl ?_
        refine os_pure rfl rfl rfl ?_
        refine os_pure rfl rfl rfl ?_
        refine os_pure rfl rfl rfl ?_
        refine os_pure rfl rfl rfl ?_
        refine os_guard rfl rfl rfl (fun h4 => ?_) (fun h4 => ?_)
        · refine os_skip rfl ?_
          refine os_skip rfl ?_
          refine os_pure rfl rfl rfl ?_
          refine os_pure rfl rfl rfl ?_
          refine os_nil ?_
          exact ev_ret ⟨_, rfl, by show some (V.bool _, _) = some (V.bool _, _); simp [letterI, *]⟩
        · refine os_pure rfl rfl rfl ?_
          refine os_pure rfl rfl rfl ?_
          refine os_pure rfl rfl rfl ?_
          refine os_pure rfl rfl rfl ?_
          refine os_nil ?_
          exact ev_ret ⟨_, rfl, by show some (V.bool _, _) = some (V.bool _, _); simp [letterI, *]⟩
      · refine os_skip rfl ?_
        refine os_skip rfl ?_
        refine os_pure rfl rfl rfl ?_
        refine os_pure rfl rfl rfl ?_
        refine os_pure rfl rfl rfl ?_
        refine os_pure rfl rfl rfl ?_
        refine os_pure rfl rfl rfl ?_
        refine os_pure rfl rfl rfl ?_
        refine os_pure rfl rfl rfl ?_
        refine os_nil ?_
        exact ev_ret ⟨_, rfl, by show some (V.bool _, _) = some (V.bool _, _); simp [letterI, *]⟩
  · refine os_skip rfl ?_
    refine os_skip rfl ?_
    refine os_pure rfl rfl rfl ?_
    refine os_pure rfl rfl rfl ?_
    refine os_pure rfl rfl rfl ?_
    refine os_pure rfl rfl rfl ?_
    refine os_pure rfl rfl rfl ?_
    refine os_guard rfl rfl rfl (fun h5 => ?_) (fun h5 => ?_)
    · refine os_pure rfl rfl rfl ?_
      refine os_pure rfl rfl rfl ?_
      refine os_pure rfl rfl rfl ?_
      refine os_pure rfl rfl rfl ?_
      refine os_pure rfl rfl rfl ?_
      refine os_guard rfl rfl rfl (fun h6 => ?_) (fun h6 => ?_)
      · refine os_skip rfl ?_
        refine os_skip rfl ?_
        refine os_pure rfl rfl rfl ?_
        refine os_pure rfl rfl rfl ?_
        refine os_nil ?_
        exact ev_ret ⟨_, rfl, by show some (V.bool _, _) = some (V.bool _, _); simp [letterI, *]⟩
      · refine os_pure rfl rfl rfl ?_
        refine os_pure rfl rfl rfl ?_
        refine os_pure rfl rfl rfl ?_
        refine os_pure rfl rfl rfl ?_
        refine os_nil ?_
        exact ev_ret ⟨_, rfl, by show some (V.bool _, _) = some (V.bool _, _); simp [letterI, *]⟩
    · refine os_skip rfl ?_
      refine os_skip rfl ?_
      refine os_pure rfl rfl rfl ?_
      refine os_pure rfl rfl rfl ?_
      refine os_pure rfl rfl rfl ?_
      refine os_pure rfl rfl rfl ?_
      refine os_pure rfl rfl rfl ?_
      refine os_pure rfl rfl rfl ?_
      refine os_pure rfl rfl rfl ?_
      refine os_nil ?_
      exact ev_ret ⟨_, rfl, by show some (V.bool _, _) = some (V.bool _, _); simp [letterI, *]⟩
def letterB (b : UInt8) : Bool := decide ((97 ≤ b.toNat ∧ b.toNat ≤ 122) ∨ (65 ≤ b.toNat ∧ b.toNat ≤ 90) ∨ b.toNat = 95)
theorem letterB_eq (b : UInt8) : letterI (b.toNat : Nat) = letterB b := by
  simp only [letterI, letterB, leB, eqB]; rw [Bool.eq_iff_iff]; simp; omega
theorem c43 (b : UInt8) : E env (.call 206 [.int .u8 (b.toNat : Nat)]) [] = some (.ret (.bool (letterB b)) []) := by rw [← letterB_eq]; exact c43I _

theorem c49I (n : Int) : E env (.call 158 [.int .u8 n]) [] = some (.ret (.bool (letterI n)) []) := by
  refine call_ret rfl Tryz.func158 rfl rfl ?_
  refine ev_seq ?_
  refine ev_region ?_
  refine os_pure rfl rfl rfl ?_
  refine os_nil ?_
  refine ev_seq ?_
  refine ev_region ?_
  refine os_pure rfl rfl rfl ?_
  refine os_pure rfl rfl rfl ?_
  refine os_pure rfl rfl rfl ?_
  refine os_guard rfl rfl rfl (fun h1 => ?_) (fun h1 => ?_)
  · refine os_pure rfl rfl rfl ?_
    refine os_pure rfl rfl rfl ?_
    refine os_pure rfl rfl rfl ?_
    refine os_pure rfl rfl rfl ?_
    refine os_guard rfl rfl rfl (fun h2 => ?_) (fun h2 => ?_)
    · refine os_skip rfl ?_
      refine os_skip rfl ?_
      refine os_skip rfl ?_
      refine os_skip rfl ?_
      refine os_skip rfl ?_
      refine os_skip rfl ?_
      refine os_pure rfl rfl rfl ?_
      refine os_pure rfl rfl rfl ?_
      refine os_skip rfl ?_
      refine os_skip rfl ?_
      refine os_pure rfl rfl rfl ?_
      refine os_pure rfl rfl rfl ?_
      refine os_nil ?_
      exact ev_ret ⟨_, rfl, by show some (V.bool _, _) = some (V.bool _, _); simp [letterI, *]⟩
    · refine os_pure rfl rfl rfl ?_
      refine os_pure rfl rfl rfl ?_
      refine os_pure rfl rfl rfl ?_
      refine os_guard rfl rfl rfl (fun h3 => ?_) (fun h3 => ?_)
      · refine os_pure rfl rfl rfl ?_
        refine os_pure rfl rfl rfl ?_
        refine os_pure rfl rfl rfl ?_
        refine os_pure rfl rfl rfl ?_
        refine os_pure rfl rfl rfl ?_
        refine os_guard rfl rfl rfl (fun h4 => ?_) (fun h4 => ?_)
        · refine os_skip rfl ?_
          refine os_skip rfl ?_
          refine os_pure rfl rfl rfl ?_
          refine os_pure rfl rfl rfl ?_
          refine os_nil ?_
          exact ev_ret ⟨_, rfl, by show some (V.bool _, _) = some (V.bool _, _); simp [letterI, *]⟩
        · refine os_pure rfl rfl rfl ?_
          refine os_pure rfl rfl rfl ?_
          refine os_pure rfl rfl rfl ?_
          refine os_pure rfl rfl rfl ?_
          refine os_nil ?_
          exact ev_ret ⟨_, rfl, by show some (V.bool _, _) = some (V.bool _, _); simp [letterI, *]⟩
      · refine os_skip rfl ?_
        refine os_skip rfl ?_
        refine os_pure rfl rfl rfl ?_
        refine os_pure rfl rfl rfl ?_
        refine os_pure rfl rfl rfl ?_
        refine os_pure rfl rfl rfl ?_
        refine os_pure rfl rfl rfl ?_
        refine os_pure rfl rfl rfl ?_
        refine os_pure rfl rfl rfl ?_
        refine os_nil ?_
        exact ev_ret ⟨_, rfl, by show some (V.bool _, _) = some (V.bool _, _); simp [letterI, *]⟩
  · refine os_skip rfl ?_
    refine os_skip rfl ?_
    refine os_pure rfl rfl rfl ?_
    refine os_pure rfl rfl rfl ?_
    refine os_pure rfl rfl rfl ?_
    refine os_pure rfl rfl rfl ?_
    refine os_pure rfl rfl rfl ?_
    refine os_guard rfl rfl rfl (fun h5 => ?_) (fun h5 => ?_)
    · refine os_pure rfl rfl rfl ?_
      refine os_pure rfl rfl rfl ?_
      refine os_pure rfl rfl rfl ?_
      refine os_pure rfl rfl rfl ?_
      refine os_pure rfl rfl rfl ?_
      refine os_guard rfl rfl rfl (fun h6 => ?_) (fun h6 => ?_)
      · refine os_skip rfl ?_
        refine os_skip rfl ?_
        refine os_pure rfl rfl rfl ?_
        refine os_pure rfl rfl rfl ?_
        refine os_nil ?_
        exact ev_ret ⟨_, rfl, by show some (V.bool _, _) = some (V.bool _, _); simp [letterI, *]⟩
      · refine os_pure rfl rfl rfl ?_
        refine os_pure rfl rfl rfl ?_
        refine os_pure rfl rfl rfl ?_
        refine os_pure rfl rfl rfl ?_
        refine os_nil ?_
        exact ev_ret ⟨_, rfl, by show some (V.bool _, _) = some (V.bool _, _); simp [letterI, *]⟩
    · refine os_skip rfl ?_
      refine os_skip rfl ?_
      refine os_pure rfl rfl rfl ?_
      refine os_pure rfl rfl rfl ?_
      refine os_pure rfl rfl rfl ?_
      refine os_pure rfl rfl rfl ?_
      refine os_pure rfl rfl rfl ?_
      refine os_pure rfl rfl rfl ?_
      refine os_pure rfl rfl rfl ?_
      refine os_nil ?_
      exact ev_ret ⟨_, rfl, by show some (V.bool _, _) = some (V.bool _, _); simp [letterI, *]⟩
theorem c49 (b : UInt8) : E env (.call 158 [.int .u8 (b.toNat : Nat)]) [] = some (.ret (.bool (letterB b)) []) := by rw [← letterB_eq]; exact c49I _
def blankI (n : Int) : Bool := eqB n 9 || eqB n 10 || eqB n 13 || eqB n 32
theorem c61I (n : Int) : E env (.call 225 [.int .u8 n]) [] = some (.ret (.bool (blankI n)) []) := by
  refine call_ret rfl Tryz.func225 rfl rfl ?_
  refine ev_seq ?_
  refine ev_region ?_
  refine os_pure rfl rfl rfl ?_
  refine os_nil ?_
  refine ev_seq ?_
  refine ev_region ?_
  refine os_pure rfl rfl rfl ?_
  refine os_pure rfl rfl rfl ?_
  refine os_pure rfl rfl rfl ?_
  refine os_guard rfl rfl rfl (fun h1 => ?_) (fun h1 => ?_)
  · refine os_skip rfl ?_
    refine os_skip rfl ?_
    refine os_pure rfl rfl rfl ?_
    refine os_pure rfl rfl rfl ?_
    refine os_skip rfl ?_
    refine os_skip rfl ?_
    refine os_pure rfl rfl rfl ?_
    refine os_pure rfl rfl rfl ?_
    refine os_skip rfl ?_
    refine os_skip rfl ?_
    refine os_pure rfl rfl rfl ?_
    refine os_pure rfl rfl rfl ?_
    refine os_nil ?_
    exact ev_ret ⟨_, rfl, by show some (V.bool _, _) = some (V.bool _, _); simp [blankI, *]⟩
  · refine os_pure rfl rfl rfl ?_
    refine os_pure rfl rfl rfl ?_
    refine os_pure rfl rfl rfl ?_
    refine os_pure rfl rfl rfl ?_
    refine os_guard rfl rfl rfl (fun h2 => ?_) (fun h2 => ?_)
    · refine os_skip rfl ?_
      refine os_skip rfl ?_
      refine os_pure rfl rfl rfl ?_
      refine os_pure rfl rfl rfl ?_
      refine os_skip rfl ?_
      refine os_skip rfl ?_
      refine os_pure rfl rfl rfl ?_
      refine os_pure rfl rfl rfl ?_
      refine os_nil ?_
      exact ev_ret ⟨_, rfl, by show some (V.bool _, _) = some (V.bool _, _); simp [blankI, *]⟩
    · refine os_pure rfl rfl rfl ?_
      refine os_pure rfl rfl rfl ?_
      refine os_pure rfl rfl rfl ?_
      refine os_pure rfl rfl rfl ?_
      refine os_guard rfl rfl rfl (fun h3 => ?_) (fun h3 => ?_)
      · refine os_skip rfl ?_
        refine os_skip rfl ?_
        refine os_pure rfl rfl rfl ?_
        refine os_pure rfl rfl rfl ?_
        refine os_nil ?_
        exact ev_ret ⟨_, rfl, by show some (V.bool _, _) = some (V.bool _, _); simp [blankI, *]⟩
      · refine os_pure rfl rfl rfl ?_
        refine os_pure rfl rfl rfl ?_
        refine os_pure rfl rfl rfl ?_
        refine os_pure rfl rfl rfl ?_
        refine os_nil ?_
        exact ev_ret ⟨_, rfl, by show some (V.bool _, _) = some (V.bool _, _); simp [blankI, *]⟩
def blankB (b : UInt8) : Bool := decide (b.toNat = 9 ∨ b.toNat = 10 ∨ b.toNat = 13 ∨ b.toNat = 32)
theorem blankB_eq (b : UInt8) : blankI (b.toNat : Nat) = blankB b := by
  simp only [blankI, blankB, leB, eqB]; rw [Bool.eq_iff_iff]; simp; omega
theorem c61 (b : UInt8) : E env (.call 225 [.int .u8 (b.toNat : Nat)]) [] = some (.ret (.bool (blankB b)) []) := by rw [← blankB_eq]; exact c61I _

theorem c47I (n : Int) : E env (.call 156 [.int .u8 n]) [] = some (.ret (.bool (blankI n)) []) := by
  refine call_ret rfl Tryz.func156 rfl rfl ?_
  refine ev_seq ?_
  refine ev_region ?_
  refine os_pure rfl rfl rfl ?_
  refine os_nil ?_
  refine ev_seq ?_
  refine ev_region ?_
  refine os_pure rfl rfl rfl ?_
  refine os_pure rfl rfl rfl ?_
  refine os_pure rfl rfl rfl ?_
  refine os_guard rfl rfl rfl (fun h1 => ?_) (fun h1 => ?_)
  · refine os_skip rfl ?_
    refine os_skip rfl ?_
    refine os_pure rfl rfl rfl ?_
    refine os_pure rfl rfl rfl ?_
    refine os_skip rfl ?_
    refine os_skip rfl ?_
    refine os_pure rfl rfl rfl ?_
    refine os_pure rfl rfl rfl ?_
    refine os_skip rfl ?_
    refine os_skip rfl ?_
    refine os_pure rfl rfl rfl ?_
    refine os_pure rfl rfl rfl ?_
    refine os_nil ?_
    exact ev_ret ⟨_, rfl, by show some (V.bool _, _) = some (V.bool _, _); simp [blankI, *]⟩
  · refine os_pure rfl rfl rfl ?_
    refine os_pure rfl rfl rfl ?_
    refine os_pure rfl rfl rfl ?_
    refine os_pure rfl rfl rfl ?_
    refine os_guard rfl rfl rfl (fun h2 => ?_) (fun h2 => ?_)
    · refine os_skip rfl ?_
      refine os_skip rfl ?_
      refine os_pure rfl rfl rfl ?_
      refine os_pure rfl rfl rfl ?_
      refine os_skip rfl ?_
      refine os_skip rfl ?_
      refine os_pure rfl rfl rfl ?_
      refine os_pure rfl rfl rfl ?_
      refine os_nil ?_
      exact ev_ret ⟨_, rfl, by show some (V.bool _, _) = some (V.bool _, _); simp [blankI, *]⟩
    · refine os_pure rfl rfl rfl ?_
      refine os_pure rfl rfl rfl ?_
      refine os_pure rfl rfl rfl ?_
      refine os_pure rfl rfl rfl ?_
      refine os_guard rfl rfl rfl (fun h3 => ?_) (fun h3 => ?_)
      · refine os_skip rfl ?_
        refine os_skip rfl ?_
        refine os_pure rfl rfl rfl ?_
        refine os_pure rfl rfl rfl ?_
        refine os_nil ?_
        exact ev_ret ⟨_, rfl, by show some (V.bool _, _) = some (V.bool _, _); simp [blankI, *]⟩
      · refine os_pure rfl rfl rfl ?_
        refine os_pure rfl rfl rfl ?_
        refine os_pure rfl rfl rfl ?_
        refine os_pure rfl rfl rfl ?_
        refine os_nil ?_
        exact ev_ret ⟨_, rfl, by show some (V.bool _, _) = some (V.bool _, _); simp [blankI, *]⟩
theorem c47 (b : UInt8) : E env (.call 156 [.int .u8 (b.toNat : Nat)]) [] = some (.ret (.bool (blankB b)) []) := by rw [← blankB_eq]; exact c47I _
def capI (n : Int) : Bool := leB 65 n && leB n 90
theorem c54I (n : Int) : E env (.call 163 [.int .u8 n]) [] = some (.ret (.bool (capI n)) []) := by
  refine call_ret rfl Tryz.func163 rfl rfl ?_
  refine ev_seq ?_
  refine ev_region ?_
  refine os_pure rfl rfl rfl ?_
  refine os_nil ?_
  refine ev_seq ?_
  refine ev_region ?_
  refine os_pure rfl rfl rfl ?_
  refine os_pure rfl rfl rfl ?_
  refine os_pure rfl rfl rfl ?_
  refine os_guard rfl rfl rfl (fun h1 => ?_) (fun h1 => ?_)
  · refine os_pure rfl rfl rfl ?_
    refine os_pure rfl rfl rfl ?_
    refine os_pure rfl rfl rfl ?_
    refine os_pure rfl rfl rfl ?_
    refine os_nil ?_
    exact ev_ret ⟨_, rfl, by show some (V.bool _, _) = some (V.bool _, _); simp [capI, *]⟩
  · refine os_skip rfl ?_
    refine os_skip rfl ?_
    refine os_pure rfl rfl rfl ?_
    refine os_pure rfl rfl rfl ?_
    refine os_nil ?_
    exact ev_ret ⟨_, rfl, by show some (V.bool _, _) = some (V.bool _, _); simp [capI, *]⟩
def capB (b : UInt8) : Bool := decide (65 ≤ b.toNat ∧ b.toNat ≤ 90)
theorem capB_eq (b : UInt8) : capI (b.toNat : Nat) = capB b := by
  simp only [capI, capB, leB, eqB]; rw [Bool.eq_iff_iff]; simp; omega
theorem c54 (b : UInt8) : E env (.call 163 [.int .u8 (b.toNat : Nat)]) [] = some (.ret (.bool (capB b)) []) := by rw [← capB_eq]; exact c54I _
def nlI (n : Int) : Bool := !eqB n 10
theorem c64I (n : Int) : E env (.call 228 [.int .u8 n]) [] = some (.ret (.bool (nlI n)) []) := by
  refine call_ret rfl Tryz.func228 rfl rfl ?_
  refine ev_seq ?_
  refine ev_region ?_
  refine os_pure rfl rfl rfl ?_
  refine os_nil ?_
  refine ev_seq ?_
  refine ev_region ?_
  refine os_pure rfl rfl rfl ?_
  refine os_pure rfl rfl rfl ?_
  refine os_pure rfl rfl rfl ?_
  refine os_nil ?_
  exact ev_ret ⟨_, rfl, by show some (V.bool _, _) = some (V.bool _, _); simp [nlI, *]⟩
def nlB (b : UInt8) : Bool := decide (b.toNat ≠ 10)
theorem nlB_eq (b : UInt8) : nlI (b.toNat : Nat) = nlB b := by
  simp only [nlI, nlB, leB, eqB]; rw [Bool.eq_iff_iff]; simp; omega
theorem c64 (b : UInt8) : E env (.call 228 [.int .u8 (b.toNat : Nat)]) [] = some (.ret (.bool (nlB b)) []) := by rw [← nlB_eq]; exact c64I _
def nameB (b : UInt8) : Bool := letterB b || digitB b
theorem c65 (b : UInt8) : E env (.call 229 [.int .u8 (b.toNat : Nat)]) [] = some (.ret (.bool (nameB b)) []) := by
  refine call_ret rfl Tryz.func229 rfl rfl ?_
  refine ev_seq ?_
  refine ev_region ?_
  refine os_pure rfl rfl rfl ?_
  refine os_nil ?_
  refine ev_seq ?_
  refine ev_region ?_
  refine os_pure rfl rfl rfl ?_
  refine os_quiet rfl rfl rfl rfl rfl (c43 ..) rfl ?_
  refine os_pure rfl rfl rfl ?_
  refine os_guard rfl rfl rfl (fun h1 => ?_) (fun h1 => ?_)
  · refine os_skip rfl ?_
    refine os_skip rfl ?_
    refine os_pure rfl rfl rfl ?_
    refine os_pure rfl rfl rfl ?_
    refine os_nil ?_
    exact ev_ret ⟨_, rfl, by show some (V.bool _, _) = some (V.bool _, _); simp [nameB, *]⟩
  · refine os_pure rfl rfl rfl ?_
    refine os_quiet rfl rfl rfl rfl rfl (c41 ..) rfl ?_
    refine os_pure rfl rfl rfl ?_
    refine os_pure rfl rfl rfl ?_
    refine os_nil ?_
    exact ev_ret ⟨_, rfl, by show some (V.bool _, _) = some (V.bool _, _); simp [nameB, *]⟩

end Go.Proofs.YtmonfppdiehlpaaGreatDoor.Sc
/- Contracts: the scanner's small methods. (Printed by a program.) -/
namespace Go.Proofs.YtmonfppdiehlpaaGreatDoor.Sc
set_option linter.unusedSimpArgs false
set_option linter.unusedVariables false
set_option linter.unusedSectionVars false
open Go Go.Vm
set_option maxRecDepth 100000
set_option linter.unusedVariables false

def scH (s : List UInt8) (i n : Nat) (tc : List V) (c a : Int) (e : Nat) : Hp := [(0, .row [.str s, .int .i64 i, .slice (.tag 1) n tc, .int .i64 c, .int .i64 a]), (1, .tip e n)]
def byteAt (s : List UInt8) (j : Nat) : Int := ((s.getD j 0).toNat : Nat)
section
variable (s : List UInt8) (i n : Nat) (tc : List V) (c a : Int) (e : Nat)
theorem c37 : E env (.call 200 [.ptr 0 0]) (scH s i n tc c a e) = some (.ret (.bool (leB s.length i)) (scH s i n tc c a e)) := by
  refine call_ret rfl Tryz.func200 rfl rfl ?_
  refine ev_seq ?_
  refine ev_region ?_
  refine os_pure rfl rfl rfl ?_
  refine os_nil ?_
  refine ev_seq ?_
  refine ev_region ?_
  refine os_pure rfl rfl rfl ?_
  refine os_pure rfl rfl rfl ?_
  refine os_pure rfl rfl rfl ?_
  refine os_eff rfl rfl rfl ?_
  refine os_pure rfl rfl rfl ?_
  refine os_pure rfl rfl rfl ?_
  refine os_pure rfl rfl rfl ?_
  refine os_eff rfl rfl rfl ?_
  refine os_pure rfl rfl rfl ?_
  refine os_pure rfl rfl rfl ?_
  refine os_pure rfl rfl rfl ?_
  refine os_nil ?_
  exact ev_ret ⟨_, rfl, rfl⟩
theorem c38 (k x : Int) : E env (.call 201 [.ptr 0 0, .int .i64 k, .int .i64 x]) (scH s i n tc c a e) = some (.ret (.bool false) (scH s i n tc k x e)) := by
  refine call_ret rfl Tryz.func201 rfl rfl ?_
  refine ev_seq ?_
  refine ev_region ?_
  refine os_pure rfl rfl rfl ?_
  refine os_nil ?_
  refine ev_seq ?_
  refine ev_region ?_
  refine os_pure rfl rfl rfl ?_
  refine os_pure rfl rfl rfl ?_
  refine os_pure rfl rfl rfl ?_
  refine os_pureD rfl rfl rfl ?_
  refine os_pure rfl rfl rfl ?_
  refine os_pure rfl rfl rfl ?_
  refine os_eff rfl rfl rfl ?_
  refine os_nil ?_
  refine ev_seq ?_
  refine ev_region ?_
  refine os_pure rfl rfl rfl ?_
  refine os_nil ?_
  exact ev_ret ⟨_, rfl, rfl⟩
theorem c39 : E env (.call 202 [.ptr 0 0]) (scH s i n tc c a e) = some (.ret (.bool (!leB 3000 n)) (match leB 3000 n with | true => scH s i n tc 2 i e | false => scH s i n tc c a e)) := by
  refine call_ret rfl Tryz.func202 rfl rfl ?_
  refine ev_seq ?_
  refine ev_region ?_
  refine os_pure rfl rfl rfl ?_
  refine os_nil ?_
  refine ev_seq ?_
  refine ev_seq ?_
  refine ev_region ?_
  refine os_pure rfl rfl rfl ?_
  refine os_pure rfl rfl rfl ?_
  refine os_pure rfl rfl rfl ?_
  refine os_eff rfl rfl rfl ?_
  refine os_pure rfl rfl rfl ?_
  refine os_pure rfl rfl rfl ?_
  refine os_nil ?_
  refine ev_if rfl (fun h1 => ?_) (fun h1 => ?_)
  · refine ev_seq ?_
    refine ev_region ?_
    refine os_pure rfl rfl rfl ?_
    refine os_pure rfl rfl rfl ?_
    refine os_pure rfl rfl rfl ?_
    refine os_pure rfl rfl rfl ?_
    refine os_pure rfl rfl rfl ?_
    refine os_eff rfl rfl rfl ?_
    refine os_call rfl rfl rfl (callVia_eq rfl rfl (c38 ..) rfl rfl rfl) ?_
    refine os_pure rfl rfl rfl ?_
    refine os_nil ?_
    exact ev_ret ⟨_, rfl, by rw [h1]; rfl⟩
  · refine ev_skip ?_
    refine ev_seq ?_
    refine ev_region ?_
    refine os_pure rfl rfl rfl ?_
    refine os_nil ?_
    exact ev_ret ⟨_, rfl, by rw [h1]; rfl⟩
theorem c62 (k : Nat) (hk : i + k < 9223372036854775808) : E env (.call 226 [.ptr 0 0, .int .i64 k]) (scH s i n tc c a e) = some (.ret (.int .u8 (byteAt s (i + k))) (scH s i n tc c a e)) := by
  refine call_ret rfl Tryz.func226 rfl rfl ?_
  refine ev_seq ?_
  refine ev_region ?_
  refine os_pure rfl rfl rfl ?_
  refine os_nil ?_
  refine ev_seq ?_
  refine ev_seq ?_
  refine ev_region ?_
  refine os_pure rfl rfl rfl ?_
  refine os_pure rfl rfl rfl ?_
  refine os_pure rfl rfl rfl ?_
  refine os_eff rfl rfl rfl ?_
  refine os_pure rfl rfl rfl ?_
  refine os_pure rfl rfl (addN (by omega)) ?_
  refine os_pure rfl rfl rfl ?_
  refine os_pure rfl rfl rfl ?_
  refine os_pure rfl rfl rfl ?_
  refine os_eff rfl rfl rfl ?_
  refine os_pure rfl rfl rfl ?_
  refine os_pure rfl rfl rfl ?_
  refine os_nil ?_
  refine ev_if rfl (fun h1 => ?_) (fun h1 => ?_)
  · rw [ltN, decide_eq_true_eq] at h1
    refine ev_seq ?_
    refine ev_region ?_
    refine os_pure rfl rfl rfl ?_
    refine os_pure rfl rfl rfl ?_
    refine os_pure rfl rfl rfl ?_
    refine os_eff rfl rfl rfl ?_
    refine os_pure rfl rfl rfl ?_
    refine os_pure rfl rfl rfl ?_
    refine os_pure rfl rfl rfl ?_
    refine os_eff rfl rfl rfl ?_
    refine os_pure rfl rfl rfl ?_
    refine os_pure rfl rfl (addN (by omega)) ?_
    refine os_pure rfl rfl (gd_f (inR_ok (by omega)) rfl) ?_
    refine os_pure rfl rfl rfl ?_
    refine os_nil ?_
    exact ev_ret ⟨_, rfl, rfl⟩
  · rw [ltN, decide_eq_false_iff_not] at h1
    have : byteAt s (i + k) = 0 := by simp only [byteAt]; rw [List.getD_eq_getElem?_getD, List.getElem?_eq_none (by omega)]; rfl
    rw [this]
    refine ev_skip ?_
    refine ev_seq ?_
    refine ev_region ?_
    refine os_pure rfl rfl rfl ?_
    refine os_nil ?_
    exact ev_ret ⟨_, rfl, rfl⟩
theorem c46 (k : Int) (t : List UInt8) (f : Nat) (hf : f ≤ i) (hi : i < 9223372036854775808) (he : e = 0 ∨ e = 4) (hn : n ≤ 100000) (htc : tc.length = n * 4) :
    E env (.call 209 [.ptr 0 0, .int .i64 k, .str t, .int .i64 f]) (scH s i n tc c a e) = some (.ret (.tuple []) (scH s i (n + 1) (tc ++ [.int .i64 k, .str t, .int .i64 f, .int .i64 ((i - f : Nat) : Int)]) c a 4)) := by
  refine call_ret rfl Tryz.func209 rfl rfl ?_
  refine ev_region ?_
  refine os_pure rfl rfl rfl ?_
  refine os_pure rfl rfl rfl ?_
  refine os_pure rfl rfl rfl ?_
  refine os_pure rfl rfl rfl ?_
  refine os_eff rfl rfl rfl ?_
  refine os_pure rfl rfl rfl ?_
  refine os_pure rfl rfl rfl ?_
  refine os_pure rfl rfl rfl ?_
  refine os_pure rfl rfl rfl ?_
  refine os_pure rfl rfl rfl ?_
  refine os_pure rfl rfl rfl ?_
  refine os_pure rfl rfl rfl ?_
  refine os_eff rfl rfl rfl ?_
  refine os_pure rfl rfl rfl ?_
  refine os_pure rfl rfl (subN (by omega) (by omega)) ?_
  refine os_pureD rfl rfl rfl ?_
  refine os_pure rfl rfl rfl ?_
  refine os_append rfl rfl rfl rfl rfl rfl rfl rfl rfl rfl rfl (gd_t (eqN_ok rfl) rfl) rfl rfl he rfl htc.symm (by show (n + 1) * 41 ≤ _; omega) rfl rfl rfl ?_
  refine os_pure rfl rfl rfl ?_
  refine os_pure rfl rfl rfl ?_
  refine os_eff rfl rfl rfl ?_
  refine os_nil ?_
  exact ⟨_, rfl, rfl⟩
end
end Go.Proofs.YtmonfppdiehlpaaGreatDoor.Sc
/- Contracts: runs of bytes. (Printed by a program.) -/
namespace Go.Proofs.YtmonfppdiehlpaaGreatDoor.Sc
set_option linter.unusedSimpArgs false
set_option linter.unusedVariables false
set_option linter.unusedSectionVars false
open Go Go.Vm
set_option maxRecDepth 100000
set_option linter.unusedVariables false

/-- the place behind the bytes of a kind that begin at a place -/
def runE (p : UInt8 → Bool) (s : List UInt8) (i : Nat) : Nat := i + ((s.drop i).takeWhile p).length
theorem drop_cons' {s : List UInt8} {i : Nat} (h : i < s.length) : s.drop i = s.getD i 0 :: s.drop (i + 1) := by
  rw [List.drop_eq_getElem_cons h]; simp [h]
theorem runE_end {p : UInt8 → Bool} {s : List UInt8} {i : Nat} (h : s.length ≤ i) : runE p s i = i := by simp [runE, List.drop_eq_nil_of_le h]
theorem runE_no {p : UInt8 → Bool} {s : List UInt8} {i : Nat} (h : i < s.length) (hp : p (s.getD i 0) = false) : runE p s i = i := by
  simp only [runE, drop_cons' h, List.takeWhile_cons, hp]; rfl
theorem runE_yes {p : UInt8 → Bool} {s : List UInt8} {i : Nat} (h : i < s.length) (hp : p (s.getD i 0) = true) : runE p s i = runE p s (i + 1) := by
  simp only [runE, drop_cons' h, List.takeWhile_cons, hp, if_true, List.length_cons]; omega
theorem runE_le {p : UInt8 → Bool} {s : List UInt8} {i : Nat} (h : i ≤ s.length) : runE p s i ≤ s.length := by
  have h1 := List.takeWhile_sublist p (l := s.drop i)
  have := h1.length_le
  simp only [runE, List.length_drop] at this ⊢; omega
theorem runE_ge {p : UInt8 → Bool} {s : List UInt8} {i : Nat} : i ≤ runE p s i := by simp only [runE]; omega

section
variable (s : List UInt8) (i n : Nat) (tc : List V) (c a : Int) (e : Nat)
theorem c63 (g : Nat) (p : UInt8 → Bool) (hq : env.quiet g = true) (hp : ∀ b : UInt8, E env (.call g [.int .u8 (b.toNat : Nat)]) [] = some (.ret (.bool (p b)) [])) (hi : i ≤ s.length) (hs : s.length < 4611686018427387904) :
    E env (.call 227 [.ptr 0 0, .func (.func g) [] []]) (scH s i n tc c a e) = some (.ret (.str ((s.take (runE p s i)).drop i)) (scH s (runE p s i) n tc c a e)) := by
  obtain ⟨r, hr⟩ : ∃ r, r = runE p s i := ⟨_, rfl⟩
  rw [← hr]
  refine call_ret rfl Tryz.func227 rfl rfl ?_
  refine ev_seq ?_
  refine ev_region ?_
  refine os_pure rfl rfl rfl ?_
  refine os_nil ?_
  refine ev_seq ?_
  refine ev_region ?_
  refine os_pure rfl rfl rfl ?_
  refine os_pure rfl rfl rfl ?_
  refine os_pure rfl rfl rfl ?_
  refine os_eff rfl rfl rfl ?_
  refine os_pure rfl rfl rfl ?_
  refine os_nil ?_
  refine ev_seq ?_
  refine ev_block ?_
  refine ev_loop rfl ?_
  refine lp_ind (fun _ => [(0, .ptr 0 0), (1, .func (.func g) [] []), (5, .int .i64 i)]) (fun j => scH s j n tc c a e) (fun j => i ≤ j ∧ j ≤ s.length ∧ r = runE p s j) (fun j => s.length - j) i ⟨Nat.le_refl _, hi, hr⟩ ?_
  intro j ⟨hij, hj, hr⟩ ih
  refine ev_seq ?_
  refine ev_seq ?_
  refine ev_region ?_
  refine os_pure rfl rfl rfl ?_
  refine os_call rfl rfl rfl (callVia_eq rfl rfl (c37 ..) rfl rfl rfl) ?_
  refine os_pure rfl rfl rfl ?_
  refine os_pure rfl rfl rfl ?_
  refine os_guard rfl rfl rfl (fun h1 => ?_) (fun h1 => ?_)
  · replace h1 : j < s.length := by simpa [leN_] using h1
    refine os_pure rfl rfl rfl ?_
    refine os_pure rfl rfl rfl ?_
    refine os_pure rfl rfl rfl ?_
    refine os_pure rfl rfl rfl ?_
    refine os_eff rfl rfl rfl ?_
    refine os_pure rfl rfl rfl ?_
    refine os_pure rfl rfl rfl ?_
    refine os_pure rfl rfl rfl ?_
    refine os_eff rfl rfl rfl ?_
    refine os_pure rfl rfl (gd_f (inR_ok (by omega)) rfl) ?_
    refine os_quietv rfl rfl rfl hq rfl rfl (hp _) rfl ?_
    refine os_pure rfl rfl rfl ?_
    refine os_nil ?_
    refine ev_if rfl (fun h2 => ?_) (fun h2 => ?_)
    · refine ev_skip ?_
      refine ev_block ?_
      refine ev_region ?_
      refine os_pure rfl rfl rfl ?_
      refine os_pure rfl rfl rfl ?_
      refine os_pure rfl rfl rfl ?_
      refine os_eff rfl rfl rfl ?_
      refine os_pure rfl rfl (add1 (by omega)) ?_
      refine os_pure rfl rfl rfl ?_
      refine os_pure rfl rfl rfl ?_
      refine os_eff rfl rfl rfl ?_
      refine os_nil ?_
      exact ⟨_, _, rfl, ih (j + 1) (by omega) ⟨by omega, by omega, by rw [hr, runE_yes h1 h2]⟩⟩
    · rw [runE_no h1 h2] at hr
      subst hr
      refine ev_exit ?_
      refine ev_seq ?_
      refine ev_region ?_
      refine os_pure rfl rfl rfl ?_
      refine os_pure rfl rfl rfl ?_
      refine os_pure rfl rfl rfl ?_
      refine os_eff rfl rfl rfl ?_
      refine os_pure rfl rfl rfl ?_
      refine os_pure rfl rfl rfl ?_
      refine os_pure rfl rfl rfl ?_
      refine os_pure rfl rfl rfl ?_
      refine os_eff rfl rfl rfl ?_
      refine os_pure rfl rfl (gd_f (inI_ok (by omega) (by omega)) rfl) ?_
      refine os_pure rfl rfl rfl ?_
      refine os_nil ?_
      exact ev_ret ⟨_, rfl, rfl⟩
  · replace h1 : s.length ≤ j := by simpa [leN_] using h1
    rw [runE_end h1] at hr
    subst hr
    refine os_skip rfl ?_
    refine os_skip rfl ?_
    refine os_skip rfl ?_
    refine os_skip rfl ?_
    refine os_skip rfl ?_
    refine os_skip rfl ?_
    refine os_skip rfl ?_
    refine os_skip rfl ?_
    refine os_skip rfl ?_
    refine os_skip rfl ?_
    refine os_skip rfl ?_
    refine os_pure rfl rfl rfl ?_
    refine os_nil ?_
    refine ev_false rfl rfl ?_
    refine ev_exit ?_
    refine ev_seq ?_
    refine ev_region ?_
    refine os_pure rfl rfl rfl ?_
    refine os_pure rfl rfl rfl ?_
    refine os_pure rfl rfl rfl ?_
    refine os_eff rfl rfl rfl ?_
    refine os_pure rfl rfl rfl ?_
    refine os_pure rfl rfl rfl ?_
    refine os_pure rfl rfl rfl ?_
    refine os_pure rfl rfl rfl ?_
    refine os_eff rfl rfl rfl ?_
    refine os_pure rfl rfl (gd_f (inI_ok (by omega) (by omega)) rfl) ?_
    refine os_pure rfl rfl rfl ?_
    refine os_nil ?_
    exact ev_ret ⟨_, rfl, rfl⟩
end
end Go.Proofs.YtmonfppdiehlpaaGreatDoor.Sc
/- Contracts: blanks and comments. (Printed by a program.) -/
namespace Go.Proofs.YtmonfppdiehlpaaGreatDoor.Sc
set_option linter.unusedSimpArgs false
set_option linter.unusedVariables false
set_option linter.unusedSectionVars false
open Go Go.Vm
set_option maxRecDepth 100000
set_option linter.unusedVariables false

/-- blanks and comments: how many bytes; true: inside a comment -/
def skipL : Bool → List UInt8 → Nat
  | _, [] => 0
  | true, b :: r => skipL (nlB b) r + 1
  | false, b :: r => match blankB b with
    | true => skipL false r + 1
    | false => match decide (b.toNat = 47) && decide ((r.headD 0).toNat = 47) with
      | true => skipL true r + 1
      | false => 0
def skipE (s : List UInt8) (i : Nat) : Nat := i + skipL false (s.drop i)

theorem headD_drop (s : List UInt8) (i : Nat) : (s.drop i).headD 0 = s.getD i 0 := by
  rcases Nat.lt_or_ge i s.length with h | h
  · rw [drop_cons' h]; rfl
  · rw [List.drop_eq_nil_of_le h, List.getD_eq_getElem?_getD, List.getElem?_eq_none h]; rfl
theorem skipE_end {s : List UInt8} {i : Nat} (h : s.length ≤ i) : skipE s i = i := by simp [skipE, List.drop_eq_nil_of_le h, skipL]
theorem skipE_blank {s : List UInt8} {i : Nat} (h : i < s.length) (hb : blankB (s.getD i 0) = true) : skipE s i = skipE s (i + 1) := by
  simp only [skipE, drop_cons' h, skipL, hb]; omega
theorem skipE_no {s : List UInt8} {i : Nat} (h : i < s.length) (hb : blankB (s.getD i 0) = false) (hc : (s.getD i 0).toNat ≠ 47 ∨ (s.getD (i + 1) 0).toNat ≠ 47) : skipE s i = i := by
  have : (decide ((s.getD i 0).toNat = 47) && decide (((s.drop (i + 1)).headD 0).toNat = 47)) = false := by
    rw [headD_drop, Bool.and_eq_false_iff, decide_eq_false_iff_not, decide_eq_false_iff_not]; exact hc
  simp only [skipE, drop_cons' h, skipL, hb, this]; rfl
theorem skipL_true : ∀ l : List UInt8, skipL true l = (l.takeWhile nlB).length + skipL false (l.drop (l.takeWhile nlB).length)
  | [] => rfl
  | b :: r => by
    cases hb : nlB b with
    | true =>
      simp only [skipL, hb, List.takeWhile_cons, if_true, List.length_cons, List.drop_succ_cons]
      rw [skipL_true r]; omega
    | false =>
      have h2 : blankB b = true := by simp only [nlB, blankB, decide_eq_false_iff_not, decide_eq_true_eq] at hb ⊢; omega
      simp only [skipL, hb, h2, List.takeWhile_cons, Bool.false_eq_true, if_false, List.length_nil, List.drop_zero]; omega
theorem skipE_com {s : List UInt8} {i : Nat} (h : i < s.length) (h1 : (s.getD i 0).toNat = 47) (h2 : (s.getD (i + 1) 0).toNat = 47) : skipE s i = skipE s (runE nlB s i) := by
  have hb : blankB (s.getD i 0) = false := by simp only [blankB, decide_eq_false_iff_not]; omega
  have hn : nlB (s.getD i 0) = true := by simp only [nlB, decide_eq_true_eq]; omega
  have hc : (decide ((s.getD i 0).toNat = 47) && decide (((s.drop (i + 1)).headD 0).toNat = 47)) = true := by rw [headD_drop, h1, h2]; rfl
  rw [runE_yes h hn]
  simp only [skipE, drop_cons' h, skipL, hb, hc, skipL_true, runE, List.drop_drop]; omega
theorem runE_gt {p : UInt8 → Bool} {s : List UInt8} {i : Nat} (h : i < s.length) (hp : p (s.getD i 0) = true) : i < runE p s i := by
  rw [runE_yes h hp]; have := runE_ge (p := p) (s := s) (i := i + 1); omega

section
variable (s : List UInt8) (i n : Nat) (tc : List V) (c a : Int) (e : Nat)
theorem c36 (hi : i ≤ s.length) (hs : s.length < 4611686018427387904) : E env (.call 199 [.ptr 0 0]) (scH s i n tc c a e) = some (.ret (.tuple []) (scH s (skipE s i) n tc c a e)) := by
  obtain ⟨r, hr⟩ : ∃ r, r = skipE s i := ⟨_, rfl⟩
  rw [← hr]
  refine call_ret rfl Tryz.func199 rfl rfl ?_
  refine ev_block ?_
  refine ev_loop rfl ?_
  refine lp_ind (fun _ => [(0, .ptr 0 0)]) (fun j => scH s j n tc c a e) (fun j => j ≤ s.length ∧ r = skipE s j) (fun j => s.length - j) i ⟨hi, hr⟩ ?_
  intro j ⟨hj, hr⟩ ih
  refine ev_seq ?_
  refine ev_seq ?_
  refine ev_region ?_
  refine os_pure rfl rfl rfl ?_
  refine os_call rfl rfl rfl (callVia_eq rfl rfl (c37 ..) rfl rfl rfl) ?_
  refine os_pure rfl rfl rfl ?_
  refine os_nil ?_
  refine ev_if rfl (fun h1 => ?_) (fun h1 => ?_)
  · replace h1 : j < s.length := by simpa [leN_] using h1
    refine ev_skip ?_
    refine ev_block ?_
    refine ev_block ?_
    refine ev_seq ?_
    refine ev_region ?_
    refine os_pure rfl rfl rfl ?_
    refine os_pure rfl rfl rfl ?_
    refine os_pure rfl rfl rfl ?_
    refine os_eff rfl rfl rfl ?_
    refine os_pure rfl rfl rfl ?_
    refine os_pure rfl rfl rfl ?_
    refine os_pure rfl rfl rfl ?_
    refine os_eff rfl rfl rfl ?_
    refine os_pure rfl rfl (gd_f (inR_ok (by omega)) rfl) ?_
    refine os_quiet rfl rfl rfl rfl rfl (c61 ..) rfl ?_
    refine os_pure rfl rfl rfl ?_
    refine os_nil ?_
    refine ev_if rfl (fun h2 => ?_) (fun h2 => ?_)
    · refine ev_region ?_
      refine os_pure rfl rfl rfl ?_
      refine os_pure rfl rfl rfl ?_
      refine os_pure rfl rfl rfl ?_
      refine os_eff rfl rfl rfl ?_
      refine os_pure rfl rfl (add1 (by omega)) ?_
      refine os_pure rfl rfl rfl ?_
      refine os_pure rfl rfl rfl ?_
      refine os_eff rfl rfl rfl ?_
      refine os_nil ?_
      exact ⟨_, _, rfl, ih (j + 1) (by omega) ⟨by omega, by rw [hr, skipE_blank h1 h2]⟩⟩
    · refine ev_seq ?_
      refine ev_region ?_
      refine os_pure rfl rfl rfl ?_
      refine os_pure rfl rfl rfl ?_
      refine os_pure rfl rfl rfl ?_
      refine os_eff rfl rfl rfl ?_
      refine os_pure rfl rfl rfl ?_
      refine os_pure rfl rfl rfl ?_
      refine os_pure rfl rfl rfl ?_
      refine os_eff rfl rfl rfl ?_
      refine os_pure rfl rfl (gd_f (inR_ok (by omega)) rfl) ?_
      refine os_pure rfl rfl rfl ?_
      refine os_pure rfl rfl rfl ?_
      refine os_guard rfl rfl rfl (fun h3 => ?_) (fun h3 => ?_)
      · simp only [eqB, byteAt, beq_iff_eq, beq_eq_false_iff_ne, ne_eq, Int.toNat_natCast] at h3
        refine os_pure rfl rfl rfl ?_
        refine os_call rfl rfl rfl (callVia_eq rfl rfl (c62 s j n tc c a e 1 (by omega)) rfl rfl rfl) ?_
        refine os_pure rfl rfl rfl ?_
        refine os_pure rfl rfl rfl ?_
        refine os_pure rfl rfl rfl ?_
        refine os_nil ?_
        refine ev_if rfl (fun h4 => ?_) (fun h4 => ?_)
        · simp only [eqB, byteAt, beq_iff_eq, beq_eq_false_iff_ne, ne_eq, Int.toNat_natCast] at h4
          refine ev_region ?_
          refine os_pure rfl rfl rfl ?_
          refine os_call rfl rfl rfl (callVia_eq rfl rfl (c63 s j n tc c a e 228 nlB rfl c64 hj hs) rfl rfl rfl) ?_
          refine os_nil ?_
          exact ⟨_, _, rfl, ih (runE nlB s j) (by have := runE_gt (p := nlB) h1 (by simp only [nlB, decide_eq_true_eq]; omega); omega) ⟨runE_le hj, by rw [hr, skipE_com h1 (by omega) (by omega)]⟩⟩
        · simp only [eqB, byteAt, beq_iff_eq, beq_eq_false_iff_ne, ne_eq, Int.toNat_natCast] at h4
          rw [skipE_no h1 h2 (.inr (by omega))] at hr
          subst hr
          exact ev_ret ⟨_, rfl, rfl⟩
      · simp only [eqB, byteAt, beq_iff_eq, beq_eq_false_iff_ne, ne_eq, Int.toNat_natCast] at h3
        rw [skipE_no h1 h2 (.inl (by omega))] at hr
        subst hr
        refine os_skip rfl ?_
        refine os_skip rfl ?_
        refine os_skip rfl ?_
        refine os_pure rfl rfl rfl ?_
        refine os_pure rfl rfl rfl ?_
        refine os_nil ?_
        refine ev_false rfl rfl ?_
        exact ev_ret ⟨_, rfl, rfl⟩
  · replace h1 : s.length ≤ j := by simpa [leN_] using h1
    rw [skipE_end h1] at hr
    subst hr
    refine ev_exit ?_
    exact ⟨_, rfl, rfl⟩
end
end Go.Proofs.YtmonfppdiehlpaaGreatDoor.Sc
/- Contracts: integers. (Printed by a program.) -/
namespace Go.Proofs.YtmonfppdiehlpaaGreatDoor.Sc
set_option linter.unusedSimpArgs false
set_option linter.unusedVariables false
set_option linter.unusedSectionVars false
open Go Go.Vm
set_option maxRecDepth 100000
set_option linter.unusedVariables false

def mostS : List UInt8 := [57, 50, 50, 51, 51, 55, 50, 48, 51, 54, 56, 53, 52, 55, 55, 53, 56, 48, 55]
def intBadB (w : List UInt8) (nx : UInt8) : Bool := (ltB 1 w.length && eqB (w.getD 0 0).toNat 48) || ltB 19 w.length || (eqB w.length 19 && !(ltS w mostS || eqS w mostS)) || letterB nx
def tokC (k : Int) (w : List UInt8) (i l : Nat) : List V := [.int .i64 k, .str w, .int .i64 i, .int .i64 l]

section
variable (s : List UInt8) (i n : Nat) (tc : List V) (c a : Int) (e : Nat)
theorem c42 (hi : i ≤ s.length) (hs : s.length < 4611686018427387904) (he : e = 0 ∨ e = 4) (hn : n ≤ 100000) (htc : tc.length = n * 4) (r : Nat) (hr : runE digitB s i = r) (w : List UInt8) (hw : (s.take r).drop i = w) (b : Bool) (hb : intBadB w (s.getD r 0) = b) :
    E env (.call 205 [.ptr 0 0]) (scH s i n tc c a e) = some (.ret (.bool (!b)) (match b with | true => scH s r n tc 13 i e | false => scH s r (n + 1) (tc ++ tokC 3 w i (r - i)) c a 4)) := by
  have h63 := c63 s i n tc c a e 204 digitB rfl c41 hi hs
  rw [hr, hw] at h63
  have hri : i ≤ r := by rw [← hr]; exact runE_ge
  have hrl : r ≤ s.length := by rw [← hr]; exact runE_le hi
  refine call_ret rfl Tryz.func205 rfl rfl ?_
  refine ev_seq ?_
  refine ev_region ?_
  refine os_pure rfl rfl rfl ?_
  refine os_nil ?_
  refine ev_seq ?_
  refine ev_region ?_
  refine os_pure rfl rfl rfl ?_
  refine os_pure rfl rfl rfl ?_
  refine os_pure rfl rfl rfl ?_
  refine os_pure rfl rfl rfl ?_
  refine os_eff rfl rfl rfl ?_
  refine os_pure rfl rfl rfl ?_
  refine os_nil ?_
  refine ev_seq ?_
  refine ev_region ?_
  refine os_pure rfl rfl rfl ?_
  refine os_pure rfl rfl rfl ?_
  refine os_pure rfl rfl rfl ?_
  refine os_call rfl rfl rfl (callVia_eq rfl rfl h63 rfl rfl rfl) ?_
  refine os_pure rfl rfl rfl ?_
  refine os_nil ?_
  refine ev_seq ?_
  refine ev_seq ?_
  refine ev_region ?_
  refine os_pure rfl rfl rfl ?_
  refine os_pure rfl rfl rfl ?_
  refine os_pure rfl rfl rfl ?_
  refine os_pure rfl rfl rfl ?_
  refine os_guard rfl rfl rfl (fun h1 => ?_) (fun h1 => ?_)
  · refine os_pure rfl rfl rfl ?_
    refine os_pure rfl rfl (gd_f (inR_ok (i := 0) (by simp only [ltB, decide_eq_true_eq] at h1; omega)) rfl) ?_
    refine os_pure rfl rfl rfl ?_
    refine os_pure rfl rfl rfl ?_
    refine os_pure rfl rfl rfl ?_
    refine os_guard rfl rfl rfl (fun h2 => ?_) (fun h2 => ?_)
    · refine os_skip rfl ?_
      refine os_skip rfl ?_
      refine os_skip rfl ?_
      refine os_pure rfl rfl rfl ?_
      refine os_pure rfl rfl rfl ?_
      refine os_skip rfl ?_
      refine os_skip rfl ?_
      refine os_skip rfl ?_
      refine os_skip rfl ?_
      refine os_skip rfl ?_
      refine os_skip rfl ?_
      refine os_skip rfl ?_
      refine os_pure rfl rfl rfl ?_
      refine os_pure rfl rfl rfl ?_
      refine os_skip rfl ?_
      refine os_skip rfl ?_
      refine os_skip rfl ?_
      refine os_skip rfl ?_
      refine os_skip rfl ?_
      refine os_pure rfl rfl rfl ?_
      refine os_nil ?_
      refine ev_true rfl rfl ?_
      refine ev_seq ?_
      refine ev_region ?_
      refine os_pure rfl rfl rfl ?_
      refine os_pure rfl rfl rfl ?_
      refine os_call rfl rfl rfl (callVia_eq rfl rfl (c38 ..) rfl rfl rfl) ?_
      refine os_pure rfl rfl rfl ?_
      refine os_nil ?_
      obtain rfl : b = true := by rw [← hb]; clear hb h63; (try simp only [Int.toNat_zero, Nat.add_zero] at *); simp only [*, intBadB, mostS, Bool.and_true, Bool.true_and, Bool.and_false, Bool.false_and, Bool.or_true, Bool.true_or, Bool.or_false, Bool.false_or, Bool.not_true, Bool.not_false]
      exact ev_ret ⟨_, rfl, rfl⟩
    · refine os_pure rfl rfl rfl ?_
      refine os_pure rfl rfl rfl ?_
      refine os_pure rfl rfl rfl ?_
      refine os_pure rfl rfl rfl ?_
      refine os_pure rfl rfl rfl ?_
      refine os_guard rfl rfl rfl (fun h3 => ?_) (fun h3 => ?_)
      · refine os_skip rfl ?_
        refine os_skip rfl ?_
        refine os_skip rfl ?_
        refine os_skip rfl ?_
        refine os_skip rfl ?_
        refine os_skip rfl ?_
        refine os_skip rfl ?_
        refine os_pure rfl rfl rfl ?_
        refine os_pure rfl rfl rfl ?_
        refine os_skip rfl ?_
        refine os_skip rfl ?_
        refine os_skip rfl ?_
        refine os_skip rfl ?_
        refine os_skip rfl ?_
        refine os_pure rfl rfl rfl ?_
        refine os_nil ?_
        refine ev_true rfl rfl ?_
        refine ev_seq ?_
        refine ev_region ?_
        refine os_pure rfl rfl rfl ?_
        refine os_pure rfl rfl rfl ?_
        refine os_call rfl rfl rfl (callVia_eq rfl rfl (c38 ..) rfl rfl rfl) ?_
        refine os_pure rfl rfl rfl ?_
        refine os_nil ?_
        obtain rfl : b = true := by rw [← hb]; clear hb h63; (try simp only [Int.toNat_zero, Nat.add_zero] at *); simp only [*, intBadB, mostS, Bool.and_true, Bool.true_and, Bool.and_false, Bool.false_and, Bool.or_true, Bool.true_or, Bool.or_false, Bool.false_or, Bool.not_true, Bool.not_false]
        exact ev_ret ⟨_, rfl, rfl⟩
      · refine os_pure rfl rfl rfl ?_
        refine os_pure rfl rfl rfl ?_
        refine os_pure rfl rfl rfl ?_
        refine os_pure rfl rfl rfl ?_
        refine os_guard rfl rfl rfl (fun h4 => ?_) (fun h4 => ?_)
        · refine os_pure rfl rfl rfl ?_
          refine os_pure rfl rfl rfl ?_
          refine os_pure rfl rfl rfl ?_
          refine os_pure rfl rfl rfl ?_
          refine os_pure rfl rfl rfl ?_
          refine os_guard rfl rfl rfl (fun h5 => ?_) (fun h5 => ?_)
          · refine os_skip rfl ?_
            refine os_skip rfl ?_
            refine os_skip rfl ?_
            refine os_skip rfl ?_
            refine os_skip rfl ?_
            refine os_pure rfl rfl rfl ?_
            refine os_nil ?_
            refine ev_true rfl rfl ?_
            refine ev_seq ?_
            refine ev_region ?_
            refine os_pure rfl rfl rfl ?_
            refine os_pure rfl rfl rfl ?_
            refine os_call rfl rfl rfl (callVia_eq rfl rfl (c38 ..) rfl rfl rfl) ?_
            refine os_pure rfl rfl rfl ?_
            refine os_nil ?_
            obtain rfl : b = true := by rw [← hb]; clear hb h63; (try simp only [Int.toNat_zero, Nat.add_zero] at *); simp only [*, intBadB, mostS, Bool.and_true, Bool.true_and, Bool.and_false, Bool.false_and, Bool.or_true, Bool.true_or, Bool.or_false, Bool.false_or, Bool.not_true, Bool.not_false]
            exact ev_ret ⟨_, rfl, rfl⟩
          · refine os_pure rfl rfl rfl ?_
            refine os_pure rfl rfl rfl ?_
            refine os_pure rfl rfl rfl ?_
            refine os_call rfl rfl rfl (callVia_eq rfl rfl (c62 s r n tc c a e 0 (by omega)) rfl rfl rfl) ?_
            refine os_quiet rfl rfl rfl rfl rfl (c43 ..) rfl ?_
            refine os_pure rfl rfl rfl ?_
            refine os_nil ?_
            refine ev_if rfl (fun h6 => ?_) (fun h6 => ?_)
            · refine ev_seq ?_
              refine ev_region ?_
              refine os_pure rfl rfl rfl ?_
              refine os_pure rfl rfl rfl ?_
              refine os_call rfl rfl rfl (callVia_eq rfl rfl (c38 ..) rfl rfl rfl) ?_
              refine os_pure rfl rfl rfl ?_
              refine os_nil ?_
              obtain rfl : b = true := by rw [← hb]; clear hb h63; (try simp only [Int.toNat_zero, Nat.add_zero] at *); simp only [*, intBadB, mostS, Bool.and_true, Bool.true_and, Bool.and_false, Bool.false_and, Bool.or_true, Bool.true_or, Bool.or_false, Bool.false_or, Bool.not_true, Bool.not_false]
              exact ev_ret ⟨_, rfl, rfl⟩
            · refine ev_skip ?_
              refine ev_seq ?_
              refine ev_region ?_
              refine os_pure rfl rfl rfl ?_
              refine os_pure rfl rfl rfl ?_
              refine os_pure rfl rfl rfl ?_
              refine os_call rfl rfl rfl (callVia_eq rfl rfl (c46 s r n tc c a e 3 w i hri (by omega) he hn htc) rfl rfl rfl) ?_
              refine os_nil ?_
              refine ev_seq ?_
              refine ev_region ?_
              refine os_pure rfl rfl rfl ?_
              refine os_nil ?_
              obtain rfl : b = false := by rw [← hb]; clear hb h63; (try simp only [Int.toNat_zero, Nat.add_zero] at *); simp only [*, intBadB, mostS, Bool.and_true, Bool.true_and, Bool.and_false, Bool.false_and, Bool.or_true, Bool.true_or, Bool.or_false, Bool.false_or, Bool.not_true, Bool.not_false]
              exact ev_ret ⟨_, rfl, rfl⟩
        · refine os_skip rfl ?_
          refine os_skip rfl ?_
          refine os_pure rfl rfl rfl ?_
          refine os_pure rfl rfl rfl ?_
          refine os_pure rfl rfl rfl ?_
          refine os_pure rfl rfl rfl ?_
          refine os_pure rfl rfl rfl ?_
          refine os_pure rfl rfl rfl ?_
          refine os_call rfl rfl rfl (callVia_eq rfl rfl (c62 s r n tc c a e 0 (by omega)) rfl rfl rfl) ?_
          refine os_quiet rfl rfl rfl rfl rfl (c43 ..) rfl ?_
          refine os_pure rfl rfl rfl ?_
          refine os_nil ?_
          refine ev_if rfl (fun h7 => ?_) (fun h7 => ?_)
          · refine ev_seq ?_
            refine ev_region ?_
            refine os_pure rfl rfl rfl ?_
            refine os_pure rfl rfl rfl ?_
            refine os_call rfl rfl rfl (callVia_eq rfl rfl (c38 ..) rfl rfl rfl) ?_
            refine os_pure rfl rfl rfl ?_
            refine os_nil ?_
            obtain rfl : b = true := by rw [← hb]; clear hb h63; (try simp only [Int.toNat_zero, Nat.add_zero] at *); simp only [*, intBadB, mostS, Bool.and_true, Bool.true_and, Bool.and_false, Bool.false_and, Bool.or_true, Bool.true_or, Bool.or_false, Bool.false_or, Bool.not_true, Bool.not_false]
            exact ev_ret ⟨_, rfl, rfl⟩
          · refine ev_skip ?_
            refine ev_seq ?_
            refine ev_region ?_
            refine os_pure rfl rfl rfl ?_
            refine os_pure rfl rfl rfl ?_
            refine os_pure rfl rfl rfl ?_
            refine os_call rfl rfl rfl (callVia_eq rfl rfl (c46 s r n tc c a e 3 w i hri (by omega) he hn htc) rfl rfl rfl) ?_
            refine os_nil ?_
            refine ev_seq ?_
            refine ev_region ?_
            refine os_pure rfl rfl rfl ?_
            refine os_nil ?_
            obtain rfl : b = false := by rw [← hb]; clear hb h63; (try simp only [Int.toNat_zero, Nat.add_zero] at *); simp only [*, intBadB, mostS, Bool.and_true, Bool.true_and, Bool.and_false, Bool.false_and, Bool.or_true, Bool.true_or, Bool.or_false, Bool.false_or, Bool.not_true, Bool.not_false]
            exact ev_ret ⟨_, rfl, rfl⟩
  · refine os_skip rfl ?_
    refine os_skip rfl ?_
    refine os_skip rfl ?_
    refine os_pure rfl rfl rfl ?_
    refine os_pure rfl rfl rfl ?_
    refine os_pure rfl rfl rfl ?_
    refine os_pure rfl rfl rfl ?_
    refine os_pure rfl rfl rfl ?_
    refine os_pure rfl rfl rfl ?_
    refine os_pure rfl rfl rfl ?_
    refine os_guard rfl rfl rfl (fun h8 => ?_) (fun h8 => ?_)
    · refine os_skip rfl ?_
      refine os_skip rfl ?_
      refine os_skip rfl ?_
      refine os_skip rfl ?_
      refine os_skip rfl ?_
      refine os_skip rfl ?_
      refine os_skip rfl ?_
      refine os_pure rfl rfl rfl ?_
      refine os_pure rfl rfl rfl ?_
      refine os_skip rfl ?_
      refine os_skip rfl ?_
      refine os_skip rfl ?_
      refine os_skip rfl ?_
      refine os_skip rfl ?_
      refine os_pure rfl rfl rfl ?_
      refine os_nil ?_
      refine ev_true rfl rfl ?_
      refine ev_seq ?_
      refine ev_region ?_
      refine os_pure rfl rfl rfl ?_
      refine os_pure rfl rfl rfl ?_
      refine os_call rfl rfl rfl (callVia_eq rfl rfl (c38 ..) rfl rfl rfl) ?_
      refine os_pure rfl rfl rfl ?_
      refine os_nil ?_
      obtain rfl : b = true := by rw [← hb]; clear hb h63; (try simp only [Int.toNat_zero, Nat.add_zero] at *); simp only [*, intBadB, mostS, Bool.and_true, Bool.true_and, Bool.and_false, Bool.false_and, Bool.or_true, Bool.true_or, Bool.or_false, Bool.false_or, Bool.not_true, Bool.not_false]
      exact ev_ret ⟨_, rfl, rfl⟩
    · refine os_pure rfl rfl rfl ?_
      refine os_pure rfl rfl rfl ?_
      refine os_pure rfl rfl rfl ?_
      refine os_pure rfl rfl rfl ?_
      refine os_guard rfl rfl rfl (fun h9 => ?_) (fun h9 => ?_)
      · refine os_pure rfl rfl rfl ?_
        refine os_pure rfl rfl rfl ?_
        refine os_pure rfl rfl rfl ?_
        refine os_pure rfl rfl rfl ?_
        refine os_pure rfl rfl rfl ?_
        refine os_guard rfl rfl rfl (fun h10 => ?_) (fun h10 => ?_)
        · refine os_skip rfl ?_
          refine os_skip rfl ?_
          refine os_skip rfl ?_
          refine os_skip rfl ?_
          refine os_skip rfl ?_
          refine os_pure rfl rfl rfl ?_
          refine os_nil ?_
          refine ev_true rfl rfl ?_
          refine ev_seq ?_
          refine ev_region ?_
          refine os_pure rfl rfl rfl ?_
          refine os_pure rfl rfl rfl ?_
          refine os_call rfl rfl rfl (callVia_eq rfl rfl (c38 ..) rfl rfl rfl) ?_
          refine os_pure rfl rfl rfl ?_
          refine os_nil ?_
          obtain rfl : b = true := by rw [← hb]; clear hb h63; (try simp only [Int.toNat_zero, Nat.add_zero] at *); simp only [*, intBadB, mostS, Bool.and_true, Bool.true_and, Bool.and_false, Bool.false_and, Bool.or_true, Bool.true_or, Bool.or_false, Bool.false_or, Bool.not_true, Bool.not_false]
          exact ev_ret ⟨_, rfl, rfl⟩
        · refine os_pure rfl rfl rfl ?_
          refine os_pure rfl rfl rfl ?_
          refine os_pure rfl rfl rfl ?_
          refine os_call rfl rfl rfl (callVia_eq rfl rfl (c62 s r n tc c a e 0 (by omega)) rfl rfl rfl) ?_
          refine os_quiet rfl rfl rfl rfl rfl (c43 ..) rfl ?_
          refine os_pure rfl rfl rfl ?_
          refine os_nil ?_
          refine ev_if rfl (fun h11 => ?_) (fun h11 => ?_)
          · refine ev_seq ?_
            refine ev_region ?_
            refine os_pure rfl rfl rfl ?_
            refine os_pure rfl rfl rfl ?_
            refine os_call rfl rfl rfl (callVia_eq rfl rfl (c38 ..) rfl rfl rfl) ?_
            refine os_pure rfl rfl rfl ?_
            refine os_nil ?_
            obtain rfl : b = true := by rw [← hb]; clear hb h63; (try simp only [Int.toNat_zero, Nat.add_zero] at *); simp only [*, intBadB, mostS, Bool.and_true, Bool.true_and, Bool.and_false, Bool.false_and, Bool.or_true, Bool.true_or, Bool.or_false, Bool.false_or, Bool.not_true, Bool.not_false]
            exact ev_ret ⟨_, rfl, rfl⟩
          · refine ev_skip ?_
            refine ev_seq ?_
            refine ev_region ?_
            refine os_pure rfl rfl rfl ?_
            refine os_pure rfl rfl rfl ?_
            refine os_pure rfl rfl rfl ?_
            refine os_call rfl rfl rfl (callVia_eq rfl rfl (c46 s r n tc c a e 3 w i hri (by omega) he hn htc) rfl rfl rfl) ?_
            refine os_nil ?_
            refine ev_seq ?_
            refine ev_region ?_
            refine os_pure rfl rfl rfl ?_
            refine os_nil ?_
            obtain rfl : b = false := by rw [← hb]; clear hb h63; (try simp only [Int.toNat_zero, Nat.add_zero] at *); simp only [*, intBadB, mostS, Bool.and_true, Bool.true_and, Bool.and_false, Bool.false_and, Bool.or_true, Bool.true_or, Bool.or_false, Bool.false_or, Bool.not_true, Bool.not_false]
            exact ev_ret ⟨_, rfl, rfl⟩
      · refine os_skip rfl ?_
        refine os_skip rfl ?_
        refine os_pure rfl rfl rfl ?_
        refine os_pure rfl rfl rfl ?_
        refine os_pure rfl rfl rfl ?_
        refine os_pure rfl rfl rfl ?_
        refine os_pure rfl rfl rfl ?_
        refine os_pure rfl rfl rfl ?_
        refine os_call rfl rfl rfl (callVia_eq rfl rfl (c62 s r n tc c a e 0 (by omega)) rfl rfl rfl) ?_
        refine os_quiet rfl rfl rfl rfl rfl (c43 ..) rfl ?_
        refine os_pure rfl rfl rfl ?_
        refine os_nil ?_
        refine ev_if rfl (fun h12 => ?_) (fun h12 => ?_)
        · refine ev_seq ?_
          refine ev_region ?_
          refine os_pure rfl rfl rfl ?_
          refine os_pure rfl rfl rfl ?_
          refine os_call rfl rfl rfl (callVia_eq rfl rfl (c38 ..) rfl rfl rfl) ?_
          refine os_pure rfl rfl rfl ?_
          refine os_nil ?_
          obtain rfl : b = true := by rw [← hb]; clear hb h63; (try simp only [Int.toNat_zero, Nat.add_zero] at *); simp only [*, intBadB, mostS, Bool.and_true, Bool.true_and, Bool.and_false, Bool.false_and, Bool.or_true, Bool.true_or, Bool.or_false, Bool.false_or, Bool.not_true, Bool.not_false]
          exact ev_ret ⟨_, rfl, rfl⟩
        · refine ev_skip ?_
          refine ev_seq ?_
          refine ev_region ?_
          refine os_pure rfl rfl rfl ?_
          refine os_pure rfl rfl rfl ?_
          refine os_pure rfl rfl rfl ?_
          refine os_call rfl rfl rfl (callVia_eq rfl rfl (c46 s r n tc c a e 3 w i hri (by omega) he hn htc) rfl rfl rfl) ?_
          refine os_nil ?_
          refine ev_seq ?_
          refine ev_region ?_
          refine os_pure rfl rfl rfl ?_
          refine os_nil ?_
          obtain rfl : b = false := by rw [← hb]; clear hb h63; (try simp only [Int.toNat_zero, Nat.add_zero] at *); simp only [*, intBadB, mostS, Bool.and_true, Bool.true_and, Bool.and_false, Bool.false_and, Bool.or_true, Bool.true_or, Bool.or_false, Bool.false_or, Bool.not_true, Bool.not_false]
          exact ev_ret ⟨_, rfl, rfl⟩
end
end Go.Proofs.YtmonfppdiehlpaaGreatDoor.Sc
/- Contracts: a list that is sorted. (Printed by a program.) -/
namespace Go.Proofs.YtmonfppdiehlpaaGreatDoor.Sc
set_option linter.unusedSimpArgs false
set_option linter.unusedVariables false
set_option linter.unusedSectionVars false
open Go Go.Vm
set_option maxRecDepth 100000
set_option linter.unusedVariables false

theorem ltS_irr : ∀ a : List UInt8, ltS a a = false := by
  unfold ltS
  intro a
  induction a with
  | nil => rfl
  | cons x a ih => simp [Op.bytesLess, ih]
theorem ltS_tri : ∀ {a b : List UInt8}, ltS a b = false → a ≠ b → ltS b a = true := by
  unfold ltS
  intro a
  induction a with
  | nil =>
    intro b h hne
    cases b with
    | nil => exact absurd rfl hne
    | cons y b => cases h
  | cons x a ih =>
    intro b h hne
    cases b with
    | nil => rfl
    | cons y b =>
      simp only [Op.bytesLess, Bool.or_eq_false_iff, Bool.and_eq_false_iff, decide_eq_false_iff_not, Bool.or_eq_true, Bool.and_eq_true, decide_eq_true_eq, beq_iff_eq, beq_eq_false_iff_ne] at h ⊢
      obtain ⟨h1, h2⟩ := h
      by_cases hxy : x = y
      · subst hxy
        refine .inr ⟨rfl, ih ?_ (fun e => hne (by rw [e]))⟩
        rcases h2 with h2 | h2
        · exact absurd rfl h2
        · exact h2
      · refine .inl ?_
        rw [UInt8.lt_iff_toNat_lt] at h1 ⊢
        have : x.toNat ≠ y.toNat := fun e => hxy (UInt8.toNat_inj.1 e)
        omega
theorem ltS_trans : ∀ {a b c : List UInt8}, ltS a b = true → ltS b c = true → ltS a c = true := by
  unfold ltS
  intro a
  induction a with
  | nil =>
    intro b c h g
    cases c with
    | nil => cases b <;> cases g
    | cons z c => rfl
  | cons x a ih =>
    intro b c h g
    cases b with
    | nil => cases h
    | cons y b =>
      cases c with
      | nil => cases g
      | cons z c =>
        simp only [Op.bytesLess, Bool.or_eq_true, Bool.and_eq_true, decide_eq_true_eq, beq_iff_eq] at h g ⊢
        rw [UInt8.lt_iff_toNat_lt] at *
        rcases h with h | ⟨rfl, h⟩ <;> rcases g with g | ⟨rfl, g⟩
        · exact .inl (by omega)
        · exact .inl h
        · exact .inl g
        · exact .inr ⟨rfl, ih h g⟩

def sortedB : List (List UInt8) → Bool
  | [] => true
  | a :: r => r.all (fun b => ltS a b) && sortedB r
theorem sorted_get : ∀ {l : List (List UInt8)}, sortedB l = true → ∀ i j, i < j → j < l.length → ltS (l.getD i []) (l.getD j []) = true
  | [], _, i, j, _, hj => by simp at hj
  | a :: r, h, i, j, hij, hj => by
    simp only [sortedB, Bool.and_eq_true, List.all_eq_true] at h
    cases j with
    | zero => omega
    | succ j =>
      have hj' : j < r.length := by simpa using hj
      cases i with
      | zero =>
        have : (a :: r).getD (j + 1) [] = r[j] := by simp [hj']
        rw [this]
        exact h.1 _ (List.getElem_mem hj')
      | succ i =>
        have := sorted_get h.2 i j (by omega) hj'
        simpa using this

def hasL (l : List (List UInt8)) (x : List UInt8) : Bool := l.any fun y => decide (y = x)
theorem hasL_of {l : List (List UInt8)} {x : List UInt8} {i : Nat} (hi : i < l.length) (h : eqS (l.getD i []) x = true) : hasL l x = true := by
  simp only [eqS, beq_iff_eq] at h
  simp only [hasL, List.any_eq_true, decide_eq_true_eq]
  refine ⟨l[i], List.getElem_mem hi, ?_⟩
  simpa [hi] using h
theorem hasL_no {l : List (List UInt8)} {x : List UInt8} (h : ∀ i, i < l.length → l.getD i [] ≠ x) : hasL l x = false := by
  simp only [hasL, List.any_eq_false, decide_eq_true_eq]
  intro y hy
  obtain ⟨i, hi, rfl⟩ := List.mem_iff_getElem.1 hy
  have := h i hi
  simpa [hi] using this

theorem ld9 {l : List (List UInt8)} {i : Nat} (h : i < l.length) : vLoad env.T 9 (.ptr 0 (0 + (i : Int).toNat * 1)) [(0, .row (l.map V.str))] = some (.str (l.getD i [])) := by
  show (l.map V.str)[0 + (i : Int).toNat * 1]? = _
  simp [h]

def wordsL : List (List UInt8) := [[97, 110, 121], [99, 97, 115, 101], [99, 97, 116, 99, 104], [99, 108, 97, 115, 115], [99, 111, 110, 115, 117, 109, 101], [100, 101, 102, 97, 117, 108, 116], [100, 101, 102, 101, 114], [100, 101, 105, 110, 105, 116], [100, 111], [101, 108, 115, 101], [101, 110, 117, 109], [101, 120, 116, 101, 110, 100], [102, 97, 108, 115, 101], [102, 114, 111, 122, 101, 110], [102, 117, 110, 99], [105, 102], [105, 110], [105, 110, 100, 105, 114, 101, 99, 116], [105, 110, 111, 117, 116], [108, 101, 116], [109, 97, 116, 99, 104], [109, 111, 118, 101, 111, 110, 108, 121], [112, 114, 111, 116, 111, 99, 111, 108], [114, 101, 116, 117, 114, 110], [115, 116, 114, 117, 99, 116], [116, 104, 114, 111, 119], [116, 104, 114, 111, 119, 115], [116, 114, 117, 101], [116, 121, 112, 101], [118, 97, 114], [119, 104, 101, 114, 101], [119, 104, 105, 108, 101]]
def signsL : List (List UInt8) := [[33], [33, 61], [37], [38], [38, 38], [40], [41], [42], [43], [44], [45], [45, 62], [46], [47], [58], [59], [60], [60, 61], [61], [61, 61], [62], [62, 61], [91], [93], [123], [124, 124], [125]]
theorem sorted_wordsL : sortedB wordsL = true := by kernel_rfl
theorem c66w (x : List UInt8) (r : Bool) (hr : hasL wordsL x = r) :
    E env (.call 231 [.rslice 0 0 32 false, .str x]) [(0, .row (wordsL.map V.str))] = some (.ret (.bool r) [(0, .row (wordsL.map V.str))]) := by
  refine call_ret rfl Tryz.func231 rfl rfl ?_
  refine ev_seq ?_
  refine ev_region ?_
  refine os_pure rfl rfl rfl ?_
  refine os_nil ?_
  refine ev_seq ?_
  refine ev_region ?_
  refine os_pure rfl rfl rfl ?_
  refine os_pure rfl rfl rfl ?_
  refine os_pure rfl rfl rfl ?_
  refine os_pure rfl rfl rfl ?_
  refine os_nil ?_
  refine ev_seq ?_
  refine ev_block ?_
  refine ev_loop rfl ?_
  refine lp_ind (fun p : Nat × Nat => [(0, .rslice 0 0 32 false), (1, .str x), (5, .int .i64 p.1), (6, .int .i64 p.2)]) (fun _ => [(0, .row (wordsL.map V.str))]) (fun p => p.1 ≤ p.2 ∧ p.2 ≤ 32 ∧ (∀ k, k < p.1 → ltS (wordsL.getD k []) x = true) ∧ ∀ k, p.2 ≤ k → k < 32 → ltS x (wordsL.getD k []) = true) (fun p => p.2 - p.1) (0, 32) ⟨Nat.zero_le _, Nat.le_refl _, fun k hk => by omega, fun k h1 h2 => by omega⟩ ?_
  intro ⟨lo, hi⟩ ⟨hlo, hhi, hL, hR⟩ ih
  simp only at hlo hhi hL hR
  refine ev_seq ?_
  refine ev_seq ?_
  refine ev_region ?_
  refine os_pure rfl rfl rfl ?_
  refine os_pure rfl rfl rfl ?_
  refine os_pure rfl rfl rfl ?_
  refine os_nil ?_
  refine ev_if rfl (fun h1 => ?_) (fun h1 => ?_)
  · replace h1 : lo < hi := by simpa [ltN] using h1
    refine ev_skip ?_
    refine ev_block ?_
    refine ev_seq ?_
    refine ev_region ?_
    refine os_pure rfl rfl rfl ?_
    refine os_pure rfl rfl rfl ?_
    refine os_pure rfl rfl (addN (by omega)) ?_
    refine os_pure rfl rfl (half (by omega)) ?_
    refine os_pure rfl rfl rfl ?_
    refine os_nil ?_
    refine ev_block ?_
    refine ev_seq ?_
    refine ev_region ?_
    refine os_pure rfl rfl rfl ?_
    refine os_pure rfl rfl rfl ?_
    refine os_pure rfl rfl (gd_f (inR_ok (by omega)) rfl) ?_
    refine os_load rfl rfl rfl (ld9 (l := wordsL) (by show _ < 32; omega)) ?_
    refine os_pure rfl rfl rfl ?_
    refine os_pure rfl rfl rfl ?_
    refine os_pure rfl rfl rfl ?_
    refine os_nil ?_
    refine ev_if rfl (fun h2 => ?_) (fun h2 => ?_)
    · obtain rfl : r = true := by rw [← hr]; exact hasL_of (l := wordsL) (by show _ < 32; omega) h2
      refine ev_seq ?_
      refine ev_region ?_
      refine os_pure rfl rfl rfl ?_
      refine os_nil ?_
      exact ev_ret ⟨_, rfl, rfl⟩
    · have hne : wordsL.getD ((lo + hi) / 2) [] ≠ x := fun e => by simp only [eqS, e, beq_self_eq_true] at h2; cases h2
      refine ev_seq ?_
      refine ev_region ?_
      refine os_pure rfl rfl rfl ?_
      refine os_pure rfl rfl rfl ?_
      refine os_pure rfl rfl (gd_f (inR_ok (by omega)) rfl) ?_
      refine os_load rfl rfl rfl (ld9 (l := wordsL) (by show _ < 32; omega)) ?_
      refine os_pure rfl rfl rfl ?_
      refine os_pure rfl rfl rfl ?_
      refine os_pure rfl rfl rfl ?_
      refine os_nil ?_
      refine ev_if rfl (fun h3 => ?_) (fun h3 => ?_)
      · have hL2 : ∀ k, k < (lo + hi) / 2 + 1 → ltS (wordsL.getD k []) x = true := fun k hk => by
          rcases Nat.lt_or_ge k ((lo + hi) / 2) with h | h
          · exact ltS_trans (sorted_get (l := wordsL) sorted_wordsL _ _ h (by show _ < 32; omega)) h3
          · obtain rfl : k = (lo + hi) / 2 := by omega
            exact h3
        refine ev_region ?_
        refine os_pure rfl rfl rfl ?_
        refine os_pure rfl rfl (add1 (by omega)) ?_
        refine os_pure rfl rfl rfl ?_
        refine os_nil ?_
        exact ⟨_, _, rfl, ih ((lo + hi) / 2 + 1, hi) (by show hi - ((lo + hi) / 2 + 1) < hi - lo; omega) ⟨by show (lo + hi) / 2 + 1 ≤ hi; omega, hhi, hL2, hR⟩⟩
      · have hR2 : ∀ k, (lo + hi) / 2 ≤ k → k < 32 → ltS x (wordsL.getD k []) = true := fun k hk hk2 => by
          have h4 := ltS_tri h3 hne
          rcases Nat.lt_or_ge ((lo + hi) / 2) k with h | h
          · exact ltS_trans h4 (sorted_get (l := wordsL) sorted_wordsL _ _ h (by exact hk2))
          · obtain rfl : k = (lo + hi) / 2 := by omega
            exact h4
        refine ev_region ?_
        refine os_pure rfl rfl rfl ?_
        refine os_pure rfl rfl rfl ?_
        refine os_nil ?_
        exact ⟨_, _, rfl, ih (lo, (lo + hi) / 2) (by show (lo + hi) / 2 - lo < hi - lo; omega) ⟨by show lo ≤ (lo + hi) / 2; omega, by show (lo + hi) / 2 ≤ 32; omega, hL, hR2⟩⟩
  · replace h1 : ¬ lo < hi := by simpa [ltN] using h1
    obtain rfl : r = false := by
      rw [← hr]
      refine hasL_no (l := wordsL) fun k hk e => ?_
      rcases Nat.lt_or_ge k lo with h | h
      · have := hL k h; rw [e, ltS_irr] at this; cases this
      · have := hR k (by omega) (by exact hk); rw [e, ltS_irr] at this; cases this
    refine ev_exit ?_
    refine ev_seq ?_
    refine ev_region ?_
    refine os_pure rfl rfl rfl ?_
    refine os_nil ?_
    exact ev_ret ⟨_, rfl, rfl⟩
theorem sorted_signsL : sortedB signsL = true := by kernel_rfl
theorem c66s (x : List UInt8) (r : Bool) (hr : hasL signsL x = r) :
    E env (.call 231 [.rslice 0 0 27 false, .str x]) [(0, .row (signsL.map V.str))] = some (.ret (.bool r) [(0, .row (signsL.map V.str))]) := by
  refine call_ret rfl Tryz.func231 rfl rfl ?_
  refine ev_seq ?_
  refine ev_region ?_
  refine os_pure rfl rfl rfl ?_
  refine os_nil ?_
  refine ev_seq ?_
  refine ev_region ?_
  refine os_pure rfl rfl rfl ?_
  refine os_pure rfl rfl rfl ?_
  refine os_pure rfl rfl rfl ?_
  refine os_pure rfl rfl rfl ?_
  refine os_nil ?_
  refine ev_seq ?_
  refine ev_block ?_
  refine ev_loop rfl ?_
  refine lp_ind (fun p : Nat × Nat => [(0, .rslice 0 0 27 false), (1, .str x), (5, .int .i64 p.1), (6, .int .i64 p.2)]) (fun _ => [(0, .row (signsL.map V.str))]) (fun p => p.1 ≤ p.2 ∧ p.2 ≤ 27 ∧ (∀ k, k < p.1 → ltS (signsL.getD k []) x = true) ∧ ∀ k, p.2 ≤ k → k < 27 → ltS x (signsL.getD k []) = true) (fun p => p.2 - p.1) (0, 27) ⟨Nat.zero_le _, Nat.le_refl _, fun k hk => by omega, fun k h1 h2 => by omega⟩ ?_
  intro ⟨lo, hi⟩ ⟨hlo, hhi, hL, hR⟩ ih
  simp only at hlo hhi hL hR
  refine ev_seq ?_
  refine ev_seq ?_
  refine ev_region ?_
  refine os_pure rfl rfl rfl ?_
  refine os_pure rfl rfl rfl ?_
  refine os_pure rfl rfl rfl ?_
  refine os_nil ?_
  refine ev_if rfl (fun h1 => ?_) (fun h1 => ?_)
  · replace h1 : lo < hi := by simpa [ltN] using h1
    refine ev_skip ?_
    refine ev_block ?_
    refine ev_seq ?_
    refine ev_region ?_
    refine os_pure rfl rfl rfl ?_
    refine os_pure rfl rfl rfl ?_
    refine os_pure rfl rfl (addN (by omega)) ?_
    refine os_pure rfl rfl (half (by omega)) ?_
    refine os_pure rfl rfl rfl ?_
    refine os_nil ?_
    refine ev_block ?_
    refine ev_seq ?_
    refine ev_region ?_
    refine os_pure rfl rfl rfl ?_
    refine os_pure rfl rfl rfl ?_
    refine os_pure rfl rfl (gd_f (inR_ok (by omega)) rfl) ?_
    refine os_load rfl rfl rfl (ld9 (l := signsL) (by show _ < 27; omega)) ?_
    refine os_pure rfl rfl rfl ?_
    refine os_pure rfl rfl rfl ?_
    refine os_pure rfl rfl rfl ?_
    refine os_nil ?_
    refine ev_if rfl (fun h2 => ?_) (fun h2 => ?_)
    · obtain rfl : r = true := by rw [← hr]; exact hasL_of (l := signsL) (by show _ < 27; omega) h2
      refine ev_seq ?_
      refine ev_region ?_
      refine os_pure rfl rfl rfl ?_
      refine os_nil ?_
      exact ev_ret ⟨_, rfl, rfl⟩
    · have hne : signsL.getD ((lo + hi) / 2) [] ≠ x := fun e => by simp only [eqS, e, beq_self_eq_true] at h2; cases h2
      refine ev_seq ?_
      refine ev_region ?_
      refine os_pure rfl rfl rfl ?_
      refine os_pure rfl rfl rfl ?_
      refine os_pure rfl rfl (gd_f (inR_ok (by omega)) rfl) ?_
      refine os_load rfl rfl rfl (ld9 (l := signsL) (by show _ < 27; omega)) ?_
      refine os_pure rfl rfl rfl ?_
      refine os_pure rfl rfl rfl ?_
      refine os_pure rfl rfl rfl ?_
      refine os_nil ?_
      refine ev_if rfl (fun h3 => ?_) (fun h3 => ?_)
      · have hL2 : ∀ k, k < (lo + hi) / 2 + 1 → ltS (signsL.getD k []) x = true := fun k hk => by
          rcases Nat.lt_or_ge k ((lo + hi) / 2) with h | h
          · exact ltS_trans (sorted_get (l := signsL) sorted_signsL _ _ h (by show _ < 27; omega)) h3
          · obtain rfl : k = (lo + hi) / 2 := by omega
            exact h3
        refine ev_region ?_
        refine os_pure rfl rfl rfl ?_
        refine os_pure rfl rfl (add1 (by omega)) ?_
        refine os_pure rfl rfl rfl ?_
        refine os_nil ?_
        exact ⟨_, _, rfl, ih ((lo + hi) / 2 + 1, hi) (by show hi - ((lo + hi) / 2 + 1) < hi - lo; omega) ⟨by show (lo + hi) / 2 + 1 ≤ hi; omega, hhi, hL2, hR⟩⟩
      · have hR2 : ∀ k, (lo + hi) / 2 ≤ k → k < 27 → ltS x (signsL.getD k []) = true := fun k hk hk2 => by
          have h4 := ltS_tri h3 hne
          rcases Nat.lt_or_ge ((lo + hi) / 2) k with h | h
          · exact ltS_trans h4 (sorted_get (l := signsL) sorted_signsL _ _ h (by exact hk2))
          · obtain rfl : k = (lo + hi) / 2 := by omega
            exact h4
        refine ev_region ?_
        refine os_pure rfl rfl rfl ?_
        refine os_pure rfl rfl rfl ?_
        refine os_nil ?_
        exact ⟨_, _, rfl, ih (lo, (lo + hi) / 2) (by show (lo + hi) / 2 - lo < hi - lo; omega) ⟨by show lo ≤ (lo + hi) / 2; omega, by show (lo + hi) / 2 ≤ 27; omega, hL, hR2⟩⟩
  · replace h1 : ¬ lo < hi := by simpa [ltN] using h1
    obtain rfl : r = false := by
      rw [← hr]
      refine hasL_no (l := signsL) fun k hk e => ?_
      rcases Nat.lt_or_ge k lo with h | h
      · have := hL k h; rw [e, ltS_irr] at this; cases this
      · have := hR k (by omega) (by exact hk); rw [e, ltS_irr] at this; cases this
    refine ev_exit ?_
    refine ev_seq ?_
    refine ev_region ?_
    refine os_pure rfl rfl rfl ?_
    refine os_nil ?_
    exact ev_ret ⟨_, rfl, rfl⟩

end Go.Proofs.YtmonfppdiehlpaaGreatDoor.Sc
/- Contracts: signs. (Printed by a program.) -/
namespace Go.Proofs.YtmonfppdiehlpaaGreatDoor.Sc
set_option linter.unusedSimpArgs false
set_option linter.unusedVariables false
set_option linter.unusedSectionVars false
open Go Go.Vm
set_option maxRecDepth 100000
set_option linter.unusedVariables false

theorem c31 : E env (.call 230 []) [] = some (.ret (.agg (wordsL.map V.str)) []) := (run_chain env).le 5 _ _ _ (by kernel_rfl)
theorem c32 : E env (.call 232 []) [] = some (.ret (.agg (signsL.map V.str)) []) := (run_chain env).le 5 _ _ _ (by kernel_rfl)
/-- the longest sign of at most so many bytes that stands at a place -/
def signK (s : List UInt8) (i : Nat) : Nat → List UInt8
  | 0 => []
  | k + 1 => match leB ((i + (k + 1) : Nat) : Int) s.length && hasL signsL ((s.take (i + (k + 1))).drop i) with
    | true => (s.take (i + (k + 1))).drop i
    | false => signK s i k

section
variable (s : List UInt8) (i n : Nat) (tc : List V) (c a : Int) (e : Nat)
theorem c45 (hi : i ≤ s.length) (hs : s.length < 4611686018427387904) (r : List UInt8) (hr : signK s i 2 = r) : E env (.call 208 [.ptr 0 0]) (scH s i n tc c a e) = some (.ret (.str r) (scH s i n tc c a e)) := by
  refine call_ret rfl Tryz.func208 rfl rfl ?_
  refine ev_seq ?_
  refine ev_region ?_
  refine os_pure rfl rfl rfl ?_
  refine os_nil ?_
  refine ev_seq ?_
  refine ev_region ?_
  refine os_quiet rfl rfl rfl rfl rfl (c32 ..) rfl ?_
  refine os_eff rfl rfl rfl ?_
  refine os_eff rfl rfl rfl ?_
  refine os_nil ?_
  refine ev_seq ?_
  refine ev_seq ?_
  refine ev_region ?_
  refine os_pure rfl rfl rfl ?_
  refine os_nil ?_
  refine ev_block ?_
  refine ev_loop rfl ?_
  refine lp_ind (fun k : Nat => [(0, .ptr 0 0), (3, .ptr 2 0), (4, .int .i64 k)]) (fun _ => [(0, .row [.str s, .int .i64 i, .slice (.tag 1) n tc, .int .i64 c, .int .i64 a]), (1, .tip e n), (2, .row (signsL.map V.str))]) (fun k => k ≤ 2 ∧ signK s i k = r) (fun k => k) 2 ⟨Nat.le_refl _, hr⟩ ?_
  intro k ⟨hk, hr⟩ ih
  refine ev_seq ?_
  refine ev_seq ?_
  refine ev_region ?_
  refine os_pure rfl rfl rfl ?_
  refine os_pure rfl rfl rfl ?_
  refine os_nil ?_
  refine ev_if rfl (fun h1 => ?_) (fun h1 => ?_)
  · replace h1 : 0 < k := by simpa [ltB] using h1
    obtain ⟨k, rfl⟩ : ∃ k0, k = k0 + 1 := ⟨k - 1, by omega⟩
    refine ev_skip ?_
    refine ev_seq ?_
    refine ev_block ?_
    refine ev_seq ?_
    refine ev_region ?_
    refine os_pure rfl rfl rfl ?_
    refine os_pure rfl rfl rfl ?_
    refine os_pure rfl rfl rfl ?_
    refine os_pure rfl rfl rfl ?_
    refine os_eff rfl rfl rfl ?_
    refine os_pure rfl rfl rfl ?_
    refine os_pure rfl rfl (addN (by omega)) ?_
    refine os_pure rfl rfl rfl ?_
    refine os_pure rfl rfl rfl ?_
    refine os_pure rfl rfl rfl ?_
    refine os_pure rfl rfl rfl ?_
    refine os_eff rfl rfl rfl ?_
    refine os_pure rfl rfl rfl ?_
    refine os_pure rfl rfl rfl ?_
    refine os_pure rfl rfl rfl ?_
    refine os_guard rfl rfl rfl (fun h2 => ?_) (fun h2 => ?_)
    · have h2' : i + (k + 1) ≤ s.length := by have h := h2; rw [leN_, decide_eq_true_eq] at h; exact h
      refine os_pure rfl rfl (gd_f (inI_ok (a := 0) (b := 27) (by omega) (by omega)) rfl) ?_
      refine os_pure rfl rfl rfl ?_
      refine os_pure rfl rfl rfl ?_
      refine os_pure rfl rfl rfl ?_
      refine os_pure rfl rfl rfl ?_
      refine os_eff rfl rfl rfl ?_
      refine os_pure rfl rfl rfl ?_
      refine os_pure rfl rfl rfl ?_
      refine os_pure rfl rfl rfl ?_
      refine os_pure rfl rfl rfl ?_
      refine os_eff rfl rfl rfl ?_
      refine os_pure rfl rfl rfl ?_
      refine os_pure rfl rfl rfl ?_
      refine os_pure rfl rfl rfl ?_
      refine os_pure rfl rfl rfl ?_
      refine os_eff rfl rfl rfl ?_
      refine os_pure rfl rfl rfl ?_
      refine os_pure rfl rfl (addN (by omega)) ?_
      refine os_pure rfl rfl (gd_f (inI_ok (by omega) (by omega)) rfl) ?_
      refine os_call rfl rfl rfl (callVia_eq rfl rfl (c66s _ _ rfl) rfl rfl rfl) ?_
      refine os_pure rfl rfl rfl ?_
      refine os_nil ?_
      refine ev_if rfl (fun h3 => ?_) (fun h3 => ?_)
      · simp only [Int.toNat_natCast] at h3
        obtain rfl : (s.take (i + (k + 1))).drop i = r := by rw [← hr]; simp only [signK, h2, h3, Bool.true_and]
        refine ev_seq ?_
        refine ev_region ?_
        refine os_pure rfl rfl rfl ?_
        refine os_pure rfl rfl rfl ?_
        refine os_pure rfl rfl rfl ?_
        refine os_pure rfl rfl rfl ?_
        refine os_eff rfl rfl rfl ?_
        refine os_pure rfl rfl rfl ?_
        refine os_pure rfl rfl rfl ?_
        refine os_pure rfl rfl rfl ?_
        refine os_pure rfl rfl rfl ?_
        refine os_eff rfl rfl rfl ?_
        refine os_pure rfl rfl rfl ?_
        refine os_pure rfl rfl rfl ?_
        refine os_pure rfl rfl rfl ?_
        refine os_pure rfl rfl rfl ?_
        refine os_eff rfl rfl rfl ?_
        refine os_pure rfl rfl rfl ?_
        refine os_pure rfl rfl (addN (by omega)) ?_
        refine os_pure rfl rfl (gd_f (inI_ok (by omega) (by omega)) rfl) ?_
        refine os_pure rfl rfl rfl ?_
        refine os_nil ?_
        exact ev_ret ⟨_, rfl, rfl⟩
      · simp only [Int.toNat_natCast] at h3
        refine ev_skip ?_
        refine ev_region ?_
        refine os_pure rfl rfl rfl ?_
        refine os_pure rfl rfl (sub1 (by omega) (by omega)) ?_
        refine os_pure rfl rfl rfl ?_
        refine os_nil ?_
        exact ⟨_, _, rfl, ih k (by omega) ⟨by omega, by rw [← hr]; simp only [signK, h2, h3, Bool.true_and]⟩⟩
    · refine os_skip rfl ?_
      refine os_skip rfl ?_
      refine os_skip rfl ?_
      refine os_skip rfl ?_
      refine os_skip rfl ?_
      refine os_skip rfl ?_
      refine os_skip rfl ?_
      refine os_skip rfl ?_
      refine os_skip rfl ?_
      refine os_skip rfl ?_
      refine os_skip rfl ?_
      refine os_skip rfl ?_
      refine os_skip rfl ?_
      refine os_skip rfl ?_
      refine os_skip rfl ?_
      refine os_skip rfl ?_
      refine os_skip rfl ?_
      refine os_skip rfl ?_
      refine os_skip rfl ?_
      refine os_skip rfl ?_
      refine os_pure rfl rfl rfl ?_
      refine os_nil ?_
      refine ev_false rfl rfl ?_
      refine ev_skip ?_
      refine ev_region ?_
      refine os_pure rfl rfl rfl ?_
      refine os_pure rfl rfl (sub1 (by omega) (by omega)) ?_
      refine os_pure rfl rfl rfl ?_
      refine os_nil ?_
      exact ⟨_, _, rfl, ih k (by omega) ⟨by omega, by rw [← hr]; simp only [signK, h2, Bool.false_and]⟩⟩
  · obtain rfl : k = 0 := by simpa [ltB] using h1
    obtain rfl : [] = r := hr
    refine ev_exit ?_
    refine ev_seq ?_
    refine ev_region ?_
    refine os_pure rfl rfl rfl ?_
    refine os_nil ?_
    exact ev_ret ⟨_, rfl, rfl⟩
end
end Go.Proofs.YtmonfppdiehlpaaGreatDoor.Sc
/- Contracts: names. (Printed by a program.) -/
namespace Go.Proofs.YtmonfppdiehlpaaGreatDoor.Sc
set_option linter.unusedSimpArgs false
set_option linter.unusedVariables false
set_option linter.unusedSectionVars false
open Go Go.Vm
set_option maxRecDepth 100000
set_option linter.unusedVariables false

def kindB (w : List UInt8) : Int := match hasL wordsL w with
  | true => 9
  | false => match leB 65 (w.getD 0 0).toNat && leB (w.getD 0 0).toNat 90 with | true => 2 | false => 1
section
variable (s : List UInt8) (i n : Nat) (tc : List V) (c a : Int) (e : Nat)
theorem c44 (hi : i ≤ s.length) (hs : s.length < 4611686018427387904) (he : e = 0 ∨ e = 4) (hn : n ≤ 100000) (htc : tc.length = n * 4) (r : Nat) (hr : runE nameB s i = r) (w : List UInt8) (hw : (s.take r).drop i = w) (hw0 : 0 < w.length) (b : Bool) (hb : ltB 24 w.length = b) :
    E env (.call 207 [.ptr 0 0]) (scH s i n tc c a e) = some (.ret (.bool (!b)) (match b with | true => scH s r n tc 14 i e | false => scH s r (n + 1) (tc ++ tokC (kindB w) w i (r - i)) c a 4)) := by
  have h63 := c63 s i n tc c a e 229 nameB rfl c65 hi hs
  rw [hr, hw] at h63
  have hri : i ≤ r := by rw [← hr]; exact runE_ge
  have hrl : r ≤ s.length := by rw [← hr]; exact runE_le hi
  obtain ⟨k, hk⟩ : ∃ k, kindB w = k := ⟨_, rfl⟩
  rw [hk]
  refine call_ret rfl Tryz.func207 rfl rfl ?_
  refine ev_seq ?_
  refine ev_region ?_
  refine os_pure rfl rfl rfl ?_
  refine os_nil ?_
  refine ev_seq ?_
  refine ev_region ?_
  refine os_pure rfl rfl rfl ?_
  refine os_pure rfl rfl rfl ?_
  refine os_pure rfl rfl rfl ?_
  refine os_pure rfl rfl rfl ?_
  refine os_eff rfl rfl rfl ?_
  refine os_pure rfl rfl rfl ?_
  refine os_nil ?_
  refine ev_seq ?_
  refine ev_region ?_
  refine os_pure rfl rfl rfl ?_
  refine os_pure rfl rfl rfl ?_
  refine os_pure rfl rfl rfl ?_
  refine os_call rfl rfl rfl (callVia_eq rfl rfl h63 rfl rfl rfl) ?_
  refine os_pure rfl rfl rfl ?_
  refine os_nil ?_
  refine ev_seq ?_
  refine ev_seq ?_
  refine ev_region ?_
  refine os_pure rfl rfl rfl ?_
  refine os_pure rfl rfl rfl ?_
  refine os_pure rfl rfl rfl ?_
  refine os_nil ?_
  refine ev_if rfl (fun h1 => ?_) (fun h1 => ?_)
  · obtain rfl : b = true := by rw [← hb]; exact h1
    refine ev_seq ?_
    refine ev_region ?_
    refine os_pure rfl rfl rfl ?_
    refine os_pure rfl rfl rfl ?_
    refine os_call rfl rfl rfl (callVia_eq rfl rfl (c38 ..) rfl rfl rfl) ?_
    refine os_pure rfl rfl rfl ?_
    refine os_nil ?_
    exact ev_ret ⟨_, rfl, rfl⟩
  · obtain rfl : b = false := by rw [← hb]; exact h1
    refine ev_skip ?_
    refine ev_seq ?_
    refine ev_region ?_
    refine os_quiet rfl rfl rfl rfl rfl (c31 ..) rfl ?_
    refine os_eff rfl rfl rfl ?_
    refine os_eff rfl rfl rfl ?_
    refine os_nil ?_
    refine ev_seq ?_
    refine ev_region ?_
    refine os_pure rfl rfl rfl ?_
    refine os_nil ?_
    refine ev_seq ?_
    refine ev_seq ?_
    refine ev_region ?_
    refine os_pure rfl rfl (gd_f (inI_ok (a := 0) (b := 32) (by omega) (by omega)) rfl) ?_
    refine os_pure rfl rfl rfl ?_
    refine os_call rfl rfl rfl (callVia_eq rfl rfl (c66w _ _ rfl) rfl rfl rfl) ?_
    refine os_nil ?_
    refine ev_if rfl (fun h2 => ?_) (fun h2 => ?_)
    · obtain rfl : 9 = k := by rw [← hk]; simp only [kindB, h2]
      refine ev_region ?_
      refine os_pure rfl rfl rfl ?_
      refine os_nil ?_
      refine ev_seq ?_
      refine ev_region ?_
      refine os_pure rfl rfl rfl ?_
      refine os_pure rfl rfl rfl ?_
      refine os_pure rfl rfl rfl ?_
      refine os_pure rfl rfl rfl ?_
      refine os_call rfl rfl rfl (callVia_eq rfl rfl (c46 s r n tc c a e _ w i hri (by omega) he hn htc) rfl rfl rfl) ?_
      refine os_nil ?_
      refine ev_seq ?_
      refine ev_region ?_
      refine os_pure rfl rfl rfl ?_
      refine os_nil ?_
      exact ev_ret ⟨_, rfl, rfl⟩
    · refine ev_seq ?_
      refine ev_region ?_
      refine os_pure rfl rfl rfl ?_
      refine os_pure rfl rfl (gd_f (inR_ok (i := 0) hw0) rfl) ?_
      refine os_pure rfl rfl rfl ?_
      refine os_pure rfl rfl rfl ?_
      refine os_guard rfl rfl rfl (fun h3 => ?_) (fun h3 => ?_)
      · refine os_pure rfl rfl rfl ?_
        refine os_pure rfl rfl (gd_f (inR_ok (i := 0) hw0) rfl) ?_
        refine os_pure rfl rfl rfl ?_
        refine os_pure rfl rfl rfl ?_
        refine os_nil ?_
        refine ev_if rfl (fun h4 => ?_) (fun h4 => ?_)
        · simp only [Int.toNat_zero] at h3 h4
          obtain rfl : 2 = k := by rw [← hk]; simp only [kindB, h2, h3, h4, Bool.and_self]
          refine ev_region ?_
          refine os_pure rfl rfl rfl ?_
          refine os_nil ?_
          refine ev_seq ?_
          refine ev_region ?_
          refine os_pure rfl rfl rfl ?_
          refine os_pure rfl rfl rfl ?_
          refine os_pure rfl rfl rfl ?_
          refine os_pure rfl rfl rfl ?_
          refine os_call rfl rfl rfl (callVia_eq rfl rfl (c46 s r n tc c a e _ w i hri (by omega) he hn htc) rfl rfl rfl) ?_
          refine os_nil ?_
          refine ev_seq ?_
          refine ev_region ?_
          refine os_pure rfl rfl rfl ?_
          refine os_nil ?_
          exact ev_ret ⟨_, rfl, rfl⟩
        · simp only [Int.toNat_zero] at h3 h4
          obtain rfl : 1 = k := by rw [← hk]; simp only [kindB, h2, h3, h4, Bool.and_false]
          refine ev_skip ?_
          refine ev_seq ?_
          refine ev_region ?_
          refine os_pure rfl rfl rfl ?_
          refine os_pure rfl rfl rfl ?_
          refine os_pure rfl rfl rfl ?_
          refine os_pure rfl rfl rfl ?_
          refine os_call rfl rfl rfl (callVia_eq rfl rfl (c46 s r n tc c a e _ w i hri (by omega) he hn htc) rfl rfl rfl) ?_
          refine os_nil ?_
          refine ev_seq ?_
          refine ev_region ?_
          refine os_pure rfl rfl rfl ?_
          refine os_nil ?_
          exact ev_ret ⟨_, rfl, rfl⟩
      · simp only [Int.toNat_zero] at h3
        obtain rfl : 1 = k := by rw [← hk]; simp only [kindB, h2, h3, Bool.false_and]
        refine os_skip rfl ?_
        refine os_skip rfl ?_
        refine os_skip rfl ?_
        refine os_pure rfl rfl rfl ?_
        refine os_nil ?_
        refine ev_false rfl rfl ?_
        refine ev_skip ?_
        refine ev_seq ?_
        refine ev_region ?_
        refine os_pure rfl rfl rfl ?_
        refine os_pure rfl rfl rfl ?_
        refine os_pure rfl rfl rfl ?_
        refine os_pure rfl rfl rfl ?_
        refine os_call rfl rfl rfl (callVia_eq rfl rfl (c46 s r n tc c a e _ w i hri (by omega) he hn htc) rfl rfl rfl) ?_
        refine os_nil ?_
        refine ev_seq ?_
        refine ev_region ?_
        refine os_pure rfl rfl rfl ?_
        refine os_nil ?_
        exact ev_ret ⟨_, rfl, rfl⟩
end
end Go.Proofs.YtmonfppdiehlpaaGreatDoor.Sc
/- The machine that reads tokens: both programs follow it. -/
namespace Go.Proofs.YtmonfppdiehlpaaGreatDoor.Sc
set_option linter.unusedSimpArgs false
set_option linter.unusedVariables false
set_option linter.unusedSectionVars false
open Go Go.Vm

structure Tok where
  k : Int
  t : List UInt8
  a : Nat
  l : Nat
deriving DecidableEq

def cellsT (l : List Tok) : List V := l.flatMap fun t => tokC t.k t.t t.a t.l
theorem cellsT_len (l : List Tok) : (cellsT l).length = l.length * 4 := by
  induction l with
  | nil => rfl
  | cons t r ih => simp only [cellsT, List.flatMap_cons, List.length_append, List.length_cons] at ih ⊢; rw [ih]; simp only [tokC, List.length_cons, List.length_nil]; omega
theorem cellsT_add (l : List Tok) (t : Tok) : cellsT (l ++ [t]) = cellsT l ++ tokC t.k t.t t.a t.l := by simp [cellsT]

/-- how a part of a literal ends -/
inductive PR where
  | err (c : Int) (a : Nat)
  | fin (t : List UInt8) (e : Nat)
  | more (t : List UInt8) (e : Nat)

section
variable (s : List UInt8)
/-- a part of a literal, from a place inside on -/
def partF (q ins : Nat) : Nat → Nat → List UInt8 → PR
  | 0, _, _ => .err 11 q
  | f + 1, i, text =>
    match decide (i < s.length) && decide (32 ≤ (s.getD i 0).toNat) with
    | false => .err 11 q
    | true => match decide ((s.getD i 0).toNat = 34) with
      | true => .fin text (i + 1)
      | false => match decide ((s.getD i 0).toNat = 92) with
        | false => partF q ins f (i + 1) (text ++ [s.getD i 0])
        | true => match decide ((s.getD (i + 1) 0).toNat = 110) with
          | true => partF q ins f (i + 2) (text ++ [10])
          | false => match decide ((s.getD (i + 1) 0).toNat = 116) with
            | true => partF q ins f (i + 2) (text ++ [9])
            | false => match decide ((s.getD (i + 1) 0).toNat = 92) || decide ((s.getD (i + 1) 0).toNat = 34) with
              | true => partF q ins f (i + 2) (text ++ [s.getD (i + 1) 0])
              | false => match decide ((s.getD (i + 1) 0).toNat = 40) with
                | true => match decide (3 ≤ ins) with
                  | true => .err 15 i
                  | false => .more text (i + 2)
                | false => .err 12 i

theorem partF_fuel (q ins : Nat) : ∀ (f g i : Nat) (text : List UInt8), s.length ≤ i + f → s.length ≤ i + g → partF s q ins f i text = partF s q ins g i text := by
  have z : ∀ (g i : Nat) (text : List UInt8), s.length ≤ i → partF s q ins g i text = .err 11 q := by
    intro g i text h
    cases g with
    | zero => rfl
    | succ g =>
      have : (decide (i < s.length) && decide (32 ≤ (s.getD i 0).toNat)) = false := by rw [Bool.and_eq_false_iff, decide_eq_false_iff_not]; exact .inl (by omega)
      simp only [partF, this]
  intro f
  induction f with
  | zero => intro g i text h _; rw [z g i text (by omega)]; rfl
  | succ f ih =>
    intro g i text h1 h2
    cases g with
    | zero => rw [z (f + 1) i text (by omega)]; rfl
    | succ g =>
      simp only [partF]
      rw [ih g (i + 1) (text ++ [s.getD i 0]) (by omega) (by omega), ih g (i + 2) (text ++ [10]) (by omega) (by omega), ih g (i + 2) (text ++ [9]) (by omega) (by omega), ih g (i + 2) (text ++ [s.getD (i + 1) 0]) (by omega) (by omega)]

def part (q ins i : Nat) (text : List UInt8) : PR := partF s q ins (s.length - i) i text
theorem part_eq (q ins i : Nat) (text : List UInt8) : part s q ins i text =
    match decide (i < s.length) && decide (32 ≤ (s.getD i 0).toNat) with
    | false => .err 11 q
    | true => match decide ((s.getD i 0).toNat = 34) with
      | true => .fin text (i + 1)
      | false => match decide ((s.getD i 0).toNat = 92) with
        | false => part s q ins (i + 1) (text ++ [s.getD i 0])
        | true => match decide ((s.getD (i + 1) 0).toNat = 110) with
          | true => part s q ins (i + 2) (text ++ [10])
          | false => match decide ((s.getD (i + 1) 0).toNat = 116) with
            | true => part s q ins (i + 2) (text ++ [9])
            | false => match decide ((s.getD (i + 1) 0).toNat = 92) || decide ((s.getD (i + 1) 0).toNat = 34) with
              | true => part s q ins (i + 2) (text ++ [s.getD (i + 1) 0])
              | false => match decide ((s.getD (i + 1) 0).toNat = 40) with
                | true => match decide (3 ≤ ins) with
                  | true => .err 15 i
                  | false => .more text (i + 2)
                | false => .err 12 i := by
  unfold part
  rw [partF_fuel s q ins (s.length - i) (s.length - i + 1) i text (by omega) (by omega)]
  simp only [partF]
  rw [partF_fuel s q ins (s.length - i) (s.length - (i + 1)) (i + 1) _ (by omega) (by omega), partF_fuel s q ins (s.length - i) (s.length - (i + 2)) (i + 2) (text ++ [10]) (by omega) (by omega),
    partF_fuel s q ins (s.length - i) (s.length - (i + 2)) (i + 2) (text ++ [9]) (by omega) (by omega), partF_fuel s q ins (s.length - i) (s.length - (i + 2)) (i + 2) (text ++ [s.getD (i + 1) 0]) (by omega) (by omega)]

/-- a state: the place (blanks may stand there), the tokens, the interpolations around: where the literal's quote is, how many parentheses are open -/
structure MS where
  i : Nat
  toks : List Tok
  st : List (Nat × Int)

inductive MR where
  | go (x : MS)
  | done (l : List Tok)
  | err (c : Int) (a : Nat)

/-- what a part of a literal comes to -/
def litStep (toks : List Tok) (st : List (Nat × Int)) (q frm : Nat) (last more : Int) : PR → MR
  | .err c a => .err c a
  | .fin t e => .go ⟨e, toks ++ [⟨last, t, frm, e - frm⟩], st⟩
  | .more t e => .go ⟨e, toks ++ [⟨more, t, frm, e - frm⟩], (q, 0) :: st⟩

def bump (w : List UInt8) : List (Nat × Int) → List (Nat × Int)
  | [] => []
  | (q, p) :: st => match decide (w = [40]) with
    | true => (q, p + 1) :: st
    | false => match decide (w = [41]) with
      | true => (q, p - 1) :: st
      | false => (q, p) :: st

/-- whether the parenthesis at a place closes an interpolation -/
def closes (b : Nat) : List (Nat × Int) → Bool
  | [] => false
  | (_, p) :: _ => decide (p = 0) && decide (b = 41)

def roomy (toks : List Tok) (j : Nat) (r : MR) : MR := match decide (3000 ≤ toks.length) with | true => .err 2 j | false => r

def stepM (x : MS) : MR :=
  let j := skipE s x.i
  match decide (s.length ≤ j) with
  | true => match x.st with
    | [] => .done x.toks
    | (q, _) :: _ => .err 11 q
  | false =>
    let b := s.getD j 0
    match closes b.toNat x.st with
    | true => match x.st with
      | [] => .err 0 0
      | (q, _) :: st => roomy x.toks j (litStep x.toks st q j 7 6 (part s q st.length (j + 1) []))
    | false => match decide (b.toNat = 34) with
      | true => roomy x.toks j (litStep x.toks x.st j j 4 5 (part s j x.st.length (j + 1) []))
      | false => match digitB b with
        | true => roomy x.toks j (
            let r := runE digitB s j
            let w := (s.take r).drop j
            match intBadB w (s.getD r 0) with
            | true => .err 13 j
            | false => .go ⟨r, x.toks ++ [⟨3, w, j, r - j⟩], x.st⟩)
        | false => match letterB b with
          | true => roomy x.toks j (
              let r := runE nameB s j
              let w := (s.take r).drop j
              match ltB 24 w.length with
              | true => .err 14 j
              | false => .go ⟨r, x.toks ++ [⟨kindB w, w, j, r - j⟩], x.st⟩)
          | false =>
            let w := signK s j 2
            match w with
            | [] => .err 10 j
            | w => roomy x.toks j (.go ⟨j + w.length, x.toks ++ [⟨8, w, j, w.length⟩], bump w x.st⟩)

inductive Reach : MS → MS → Prop
  | refl (x : MS) : Reach x x
  | step (x y z : MS) : stepM s x = .go y → Reach y z → Reach x z
def Ends (x : MS) (r : MR) : Prop := ∃ y, Reach s x y ∧ stepM s y = r ∧ (∀ z, r ≠ .go z)

theorem Reach.trans {x y z : MS} (h : Reach s x y) (g : Reach s y z) : Reach s x z := by
  induction h with
  | refl x => exact g
  | step x y w h1 _ ih => exact .step x y z h1 (ih g)
theorem Reach.one {x y : MS} (h : stepM s x = .go y) : Reach s x y := .step x y y h (.refl y)
theorem Ends.of_reach {x y : MS} {r : MR} (h : Reach s x y) (g : Ends s y r) : Ends s x r := by
  obtain ⟨z, h1, h2⟩ := g; exact ⟨z, h.trans s h1, h2⟩
theorem Ends.det {x : MS} {r r' : MR} (h : Ends s x r) (g : Ends s x r') : r = r' := by
  obtain ⟨y, h1, h2, h3⟩ := h
  obtain ⟨z, g1, g2, g3⟩ := g
  induction h1 with
  | refl x =>
    cases g1 with
    | refl => rw [← h2, ← g2]
    | step _ y _ k1 _ => rw [h2] at k1; exact absurd k1 (h3 y)
  | step x y w k1 k2 ih =>
    cases g1 with
    | refl => rw [g2] at k1; exact absurd k1 (g3 y)
    | step _ y' _ m1 m2 =>
      rw [k1] at m1; cases m1
      exact ih h2 m2
def runM : Nat → MS → Option MR
  | 0, _ => none
  | f + 1, x => match stepM s x with
    | .go y => runM f y
    | r => some r
theorem runM_ends : ∀ {f : Nat} {x : MS} {r : MR}, runM s f x = some r → Ends s x r
  | f + 1, x, r, h => by
    simp only [runM] at h
    cases hq : stepM s x with
    | go y => rw [hq] at h; exact Ends.of_reach s (Reach.one s hq) (runM_ends h)
    | done l => rw [hq] at h; cases h; exact ⟨x, .refl x, hq, fun z hz => by cases hz⟩
    | err c a => rw [hq] at h; cases h; exact ⟨x, .refl x, hq, fun z hz => by cases hz⟩
  | 0, x, r, h => by cases h
end
end Go.Proofs.YtmonfppdiehlpaaGreatDoor.Sc
/- Facts for the literal. -/
namespace Go.Proofs.YtmonfppdiehlpaaGreatDoor.Sc
set_option linter.unusedSimpArgs false
set_option linter.unusedVariables false
set_option linter.unusedSectionVars false
open Go Go.Vm
set_option maxRecDepth 100000
theorem bytesV_len (t : List UInt8) : (bytesV t).length = t.length * 1 := by simp [bytesV]
theorem bytesV_snoc (t : List UInt8) (b : UInt8) : bytesV t ++ [V.int .u8 (b.toNat : Nat)] = bytesV (t ++ [b]) := by simp [bytesV]
theorem len_snoc (t : List UInt8) (b : UInt8) : t.length + 1 = (t ++ [b]).length := by simp
theorem conv_ok {o : Own} (t : List UInt8) : vConv env.T 81 9 (.slice o t.length (bytesV t)) = some (.str t) := by
  show (match unBytes (bytesV t) with | some l => gd (eqN t.length l.length) (some (V.str l)) | none => none) = _
  rw [unBytes_ok]
  exact gd_t (eqN_ok rfl) rfl
def scE (s : List UInt8) (i : Nat) (toks : List Tok) (c a : Int) (e : Nat) : Hp := scH s i toks.length (cellsT toks) c a e
theorem c46T (s : List UInt8) (i : Nat) (toks : List Tok) (c a : Int) (e : Nat) (k : Int) (t : List UInt8) (f : Nat) (hf : f ≤ i) (hi : i < 9223372036854775808) (he : e = 0 ∨ e = 4) (hn : toks.length ≤ 100000) :
    E env (.call 209 [.ptr 0 0, .int .i64 k, .str t, .int .i64 f]) (scE s i toks c a e) = some (.ret (.tuple []) (scE s i (toks ++ [⟨k, t, f, i - f⟩]) c a 4)) := by
  have h := c46 s i toks.length (cellsT toks) c a e k t f hf hi he hn (cellsT_len toks)
  unfold scE
  rw [cellsT_add, List.length_append]
  exact h
theorem c39F (s : List UInt8) (i : Nat) (toks : List Tok) (c a : Int) (e : Nat) (h : leB 3000 (toks.length : Nat) = false) : E env (.call 202 [.ptr 0 0]) (scE s i toks c a e) = some (.ret (.bool true) (scE s i toks c a e)) := by
  have := c39 s i toks.length (cellsT toks) c a e
  rw [h] at this; exact this
theorem c39T (s : List UInt8) (i : Nat) (toks : List Tok) (c a : Int) (e : Nat) (h : leB 3000 (toks.length : Nat) = true) : E env (.call 202 [.ptr 0 0]) (scE s i toks c a e) = some (.ret (.bool false) (scE s i toks 2 i e)) := by
  have := c39 s i toks.length (cellsT toks) c a e
  rw [h] at this; exact this

def OutP (s : List UInt8) (c a : Int) (P : Nat → List Tok → Prop) (Q : Int → Nat → Prop) (v : V) (H : Hp) : Prop :=
  (v = .bool true ∧ ∃ i' toks' e', H = scE s i' toks' c a e' ∧ (e' = 0 ∨ e' = 4) ∧ i' ≤ s.length ∧ toks'.length ≤ 3000 ∧ P i' toks') ∨
  (v = .bool false ∧ ∃ (c' : Int) (a' i' n' : Nat) (tc' : List V) (e' : Nat), H = scH s i' n' tc' c' a' e' ∧ Q c' a')

/-- what 'all' does inside an interpolation -/
def AllOk (s : List UInt8) (nest : Nat) : Prop := ∀ (i : Nat) (toks : List Tok) (st : List (Nat × Int)) (opn : Nat) (c a : Int) (e : Nat), i ≤ s.length → toks.length ≤ 3000 → (e = 0 ∨ e = 4) → st.length + 1 = nest →
  ∃ v H2, E env (.call 148 [.ptr 0 0, .int .i64 nest, .int .i64 opn]) (scE s i toks c a e) = some (.ret v H2) ∧
    OutP s c a (fun i' toks' => i ≤ i' ∧ i' < s.length ∧ (s.getD i' 0).toNat = 41 ∧ ∃ i0, Reach s ⟨i, toks, (opn, 0) :: st⟩ ⟨i0, toks', (opn, 0) :: st⟩ ∧ skipE s i0 = i')
      (fun c' a' => Ends s ⟨i, toks, (opn, 0) :: st⟩ (.err c' a')) v H2
def LitOk (s : List UInt8) (nest : Nat) : Prop := ∀ (i i0 : Nat) (toks : List Tok) (st : List (Nat × Int)) (c a : Int) (e : Nat), skipE s i0 = i → i < s.length → (s.getD i 0).toNat = 34 → toks.length < 3000 → (e = 0 ∨ e = 4) → st.length = nest →
  ∃ v H2, E env (.call 203 [.ptr 0 0, .int .i64 nest]) (scE s i toks c a e) = some (.ret v H2) ∧
    OutP s c a (fun i' toks' => i < i' ∧ Reach s ⟨i0, toks, st⟩ ⟨i', toks', st⟩) (fun c' a' => Ends s ⟨i0, toks, st⟩ (.err c' a')) v H2

theorem closes_no {b : Nat} {st : List (Nat × Int)} (h : b ≠ 41) : closes b st = false := by
  cases st with
  | nil => rfl
  | cons x st => simp [closes, h]
theorem stepM_quote {s : List UInt8} {i i0 : Nat} {toks : List Tok} {st : List (Nat × Int)} (h0 : skipE s i0 = i) (hi : i < s.length) (hq : (s.getD i 0).toNat = 34) (ht : toks.length < 3000) :
    stepM s ⟨i0, toks, st⟩ = litStep toks st i i 4 5 (part s i st.length (i + 1) []) := by
  have h1 : decide (s.length ≤ i) = false := by simp; omega
  have h2 : decide (3000 ≤ toks.length) = false := by simp; omega
  simp only [stepM, h0, h1, closes_no (st := st) (b := (s.getD i 0).toNat) (by omega), hq, decide_true, roomy, h2]
  rw [hq] at *
  simp only [closes_no (st := st) (b := 34) (by omega)]
theorem stepM_close {s : List UInt8} {i i0 q : Nat} {toks : List Tok} {st : List (Nat × Int)} (h0 : skipE s i0 = i) (hi : i < s.length) (hq : (s.getD i 0).toNat = 41) :
    stepM s ⟨i0, toks, (q, 0) :: st⟩ = roomy toks i (litStep toks st q i 7 6 (part s q st.length (i + 1) [])) := by
  have h1 : decide (s.length ≤ i) = false := by simp; omega
  simp only [stepM, h0, h1, closes, hq, decide_true, Bool.and_self]
structure LS where
  X : MS
  first : Bool
  text : List UInt8
  w : Nat
  j : Nat
  frm : Nat
  toks : List Tok
  e : Nat
end Go.Proofs.YtmonfppdiehlpaaGreatDoor.Sc
/- The steps of a part of a literal. -/
namespace Go.Proofs.YtmonfppdiehlpaaGreatDoor.Sc
open Go Go.Vm
set_option linter.unusedSectionVars false
section
variable {s : List UInt8} {q ins j : Nat} {text : List UInt8}
theorem part_end (h : s.length ≤ j) : part s q ins j text = .err 11 q := by
  have h1 : (decide (j < s.length) && decide (32 ≤ (s.getD j 0).toNat)) = false := by rw [Bool.and_eq_false_iff, decide_eq_false_iff_not]; exact .inl (by omega)
  rw [part_eq]; simp only [h1]
theorem part_low (h : (s.getD j 0).toNat < 32) : part s q ins j text = .err 11 q := by
  have h1 : (decide (j < s.length) && decide (32 ≤ (s.getD j 0).toNat)) = false := by rw [Bool.and_eq_false_iff, decide_eq_false_iff_not, decide_eq_false_iff_not]; exact .inr (by omega)
  rw [part_eq]; simp only [h1]
variable (h : j < s.length) (h2 : 32 ≤ (s.getD j 0).toNat)
include h h2
theorem part_in : (decide (j < s.length) && decide (32 ≤ (s.getD j 0).toNat)) = true := by rw [Bool.and_eq_true, decide_eq_true_eq, decide_eq_true_eq]; exact ⟨h, h2⟩
theorem part_fin (h3 : (s.getD j 0).toNat = 34) : part s q ins j text = .fin text (j + 1) := by
  rw [part_eq, part_in h h2]; simp only [decide_eq_true h3]
theorem part_byte (h3 : (s.getD j 0).toNat ≠ 34) (h4 : (s.getD j 0).toNat ≠ 92) : part s q ins j text = part s q ins (j + 1) (text ++ [s.getD j 0]) := by
  rw [part_eq, part_in h h2]; simp only [decide_eq_false h3, decide_eq_false h4]
variable (h4 : (s.getD j 0).toNat = 92)
include h4
theorem part_not34 : decide ((s.getD j 0).toNat = 34) = false := decide_eq_false (by omega)
theorem part_n (h5 : (s.getD (j + 1) 0).toNat = 110) : part s q ins j text = part s q ins (j + 2) (text ++ [10]) := by
  rw [part_eq, part_in h h2]; simp only [part_not34 h h2 h4, decide_eq_true h4, decide_eq_true h5]
theorem part_t (h5 : (s.getD (j + 1) 0).toNat = 116) : part s q ins j text = part s q ins (j + 2) (text ++ [9]) := by
  have h6 : decide ((s.getD (j + 1) 0).toNat = 110) = false := decide_eq_false (by omega)
  rw [part_eq, part_in h h2]; simp only [part_not34 h h2 h4, decide_eq_true h4, h6, decide_eq_true h5]
theorem part_self (h5 : (s.getD (j + 1) 0).toNat = 92 ∨ (s.getD (j + 1) 0).toNat = 34) : part s q ins j text = part s q ins (j + 2) (text ++ [s.getD (j + 1) 0]) := by
  have h6 : decide ((s.getD (j + 1) 0).toNat = 110) = false := decide_eq_false (by omega)
  have h7 : decide ((s.getD (j + 1) 0).toNat = 116) = false := decide_eq_false (by omega)
  have h8 : (decide ((s.getD (j + 1) 0).toNat = 92) || decide ((s.getD (j + 1) 0).toNat = 34)) = true := by rw [Bool.or_eq_true, decide_eq_true_eq, decide_eq_true_eq]; exact h5
  rw [part_eq, part_in h h2]; simp only [part_not34 h h2 h4, decide_eq_true h4, h6, h7, h8]
theorem part_deep (h5 : (s.getD (j + 1) 0).toNat = 40) (h9 : 3 ≤ ins) : part s q ins j text = .err 15 j := by
  have h6 : decide ((s.getD (j + 1) 0).toNat = 110) = false := decide_eq_false (by omega)
  have h7 : decide ((s.getD (j + 1) 0).toNat = 116) = false := decide_eq_false (by omega)
  have h8 : (decide ((s.getD (j + 1) 0).toNat = 92) || decide ((s.getD (j + 1) 0).toNat = 34)) = false := by rw [Bool.or_eq_false_iff, decide_eq_false_iff_not, decide_eq_false_iff_not]; omega
  rw [part_eq, part_in h h2]; simp only [part_not34 h h2 h4, decide_eq_true h4, h6, h7, h8, decide_eq_true h5, decide_eq_true h9]
theorem part_more (h5 : (s.getD (j + 1) 0).toNat = 40) (h9 : ¬ 3 ≤ ins) : part s q ins j text = .more text (j + 2) := by
  have h6 : decide ((s.getD (j + 1) 0).toNat = 110) = false := decide_eq_false (by omega)
  have h7 : decide ((s.getD (j + 1) 0).toNat = 116) = false := decide_eq_false (by omega)
  have h8 : (decide ((s.getD (j + 1) 0).toNat = 92) || decide ((s.getD (j + 1) 0).toNat = 34)) = false := by rw [Bool.or_eq_false_iff, decide_eq_false_iff_not, decide_eq_false_iff_not]; omega
  rw [part_eq, part_in h h2]; simp only [part_not34 h h2 h4, decide_eq_true h4, h6, h7, h8, decide_eq_true h5, decide_eq_false h9]
theorem part_bad (h5 : (s.getD (j + 1) 0).toNat ≠ 110) (h6 : (s.getD (j + 1) 0).toNat ≠ 116) (h7 : (s.getD (j + 1) 0).toNat ≠ 92) (h8 : (s.getD (j + 1) 0).toNat ≠ 34) (h9 : (s.getD (j + 1) 0).toNat ≠ 40) : part s q ins j text = .err 12 j := by
  have h10 : (decide ((s.getD (j + 1) 0).toNat = 92) || decide ((s.getD (j + 1) 0).toNat = 34)) = false := by rw [Bool.or_eq_false_iff, decide_eq_false_iff_not, decide_eq_false_iff_not]; omega
  rw [part_eq, part_in h h2]; simp only [part_not34 h h2 h4, decide_eq_true h4, decide_eq_false h5, decide_eq_false h6, h10, decide_eq_false h9]
end
end Go.Proofs.YtmonfppdiehlpaaGreatDoor.Sc
