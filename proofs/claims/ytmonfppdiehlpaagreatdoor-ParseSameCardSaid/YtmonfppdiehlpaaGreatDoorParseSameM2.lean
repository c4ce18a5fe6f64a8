/- What the functions under ParseSame compute: texts that were built one by one, joined: SP1 SY. -/
import Derived.Test.YtmonfppdiehlpaaGreatDoorParseSameM1
/- The functions do what the plain Lean says. (Printed by a program.) -/
namespace Go.Proofs.YtmonfppdiehlpaaGreatDoor
set_option linter.unusedSimpArgs false
set_option linter.unusedVariables false
set_option linter.unusedSectionVars false
open Go Go.Vm
set_option maxRecDepth 100000
set_option maxHeartbeats 20000000
set_option linter.unusedVariables false
structure parse_Same_F.Ok (Φ : parse_Same_F) : Prop where
  parse_Same : ∀ {a1 : Nod} {b2 : Nod} {r : Bool}, Φ.parse_Same a1 b2 = some r → E env (.call 29 [.agg [.int .i64 a1.op, .str a1.s, .int .i64 a1.n, .int .i64 a1.t.kind, .str a1.t.name, .int .i64 a1.t.n, .slice .sealed (List.length a1.t.args) (clTyp a1.t.args), .slice .sealed (List.length a1.ts) (clTyp a1.ts), .slice .sealed (List.length a1.l) (clNod a1.l), .int .i64 a1.at_], .agg [.int .i64 b2.op, .str b2.s, .int .i64 b2.n, .int .i64 b2.t.kind, .str b2.t.name, .int .i64 b2.t.n, .slice .sealed (List.length b2.t.args) (clTyp b2.t.args), .slice .sealed (List.length b2.ts) (clTyp b2.ts), .slice .sealed (List.length b2.l) (clNod b2.l), .int .i64 b2.at_]]) [] = some (parse_Same_enc a1 b2 r)
  parse_sameList_Node : ∀ {a1 : List Nod} {b2 : List Nod} {r : Bool}, Φ.parse_sameList_Node a1 b2 = some r → E env (.call 72 [.slice .sealed (List.length a1) (clNod a1), .slice .sealed (List.length b2) (clNod b2), .func (.func 29) [] []]) [] = some (parse_sameList_Node_enc a1 b2 r)
theorem parse_Same_b_ok (n : Nat) {Φ : parse_Same_F} (hΦ : Φ.Ok) {a1 : Nod} {b2 : Nod} {r : Bool} (h : parse_Same_b n Φ a1 b2 = some r) :
    E env (.call 29 [.agg [.int .i64 a1.op, .str a1.s, .int .i64 a1.n, .int .i64 a1.t.kind, .str a1.t.name, .int .i64 a1.t.n, .slice .sealed (List.length a1.t.args) (clTyp a1.t.args), .slice .sealed (List.length a1.ts) (clTyp a1.ts), .slice .sealed (List.length a1.l) (clNod a1.l), .int .i64 a1.at_], .agg [.int .i64 b2.op, .str b2.s, .int .i64 b2.n, .int .i64 b2.t.kind, .str b2.t.name, .int .i64 b2.t.n, .slice .sealed (List.length b2.t.args) (clTyp b2.t.args), .slice .sealed (List.length b2.ts) (clTyp b2.ts), .slice .sealed (List.length b2.l) (clNod b2.l), .int .i64 b2.at_]]) [] = some (parse_Same_enc a1 b2 r) := by
  unfold parse_Same_b at h
  obtain ⟨a1_0, a1_1, a1_2, ⟨a1_3, a1_4, a1_5, a1_6⟩, a1_7, a1_8, a1_9⟩ := a1
  obtain ⟨b2_0, b2_1, b2_2, ⟨b2_3, b2_4, b2_5, b2_6⟩, b2_7, b2_8, b2_9⟩ := b2
  refine call_out rfl Tryz.func29 rfl rfl ?_
  refine ev_seq ?_
  refine ev_region ?_
  refine os_eff rfl rfl rfl ?_
  refine os_eff rfl rfl rfl ?_
  refine os_pure rfl rfl rfl ?_
  refine os_nil ?_
  refine ev_seq ?_
  refine ev_region ?_
  refine os_pure rfl rfl rfl ?_
  refine os_eff rfl rfl rfl ?_
  refine os_pure rfl rfl rfl ?_
  refine os_eff rfl rfl rfl ?_
  refine os_pure rfl rfl rfl ?_
  refine os_pure rfl rfl rfl ?_
  refine os_guard rfl rfl rfl (fun g1 => ?_) (fun g1 => ?_)
  · replace h := cond_t h g1
    refine os_pure rfl rfl rfl ?_
    refine os_eff rfl rfl rfl ?_
    refine os_pure rfl rfl rfl ?_
    refine os_eff rfl rfl rfl ?_
    refine os_pure rfl rfl rfl ?_
    refine os_pure rfl rfl rfl ?_
    refine os_pure rfl rfl rfl ?_
    refine os_guard rfl rfl rfl (fun g2 => ?_) (fun g2 => ?_)
    · replace h := cond_t h g2
      refine os_pure rfl rfl rfl ?_
      refine os_eff rfl rfl rfl ?_
      refine os_pure rfl rfl rfl ?_
      refine os_eff rfl rfl rfl ?_
      refine os_pure rfl rfl rfl ?_
      refine os_pure rfl rfl rfl ?_
      refine os_pure rfl rfl rfl ?_
      refine os_guard rfl rfl rfl (fun g3 => ?_) (fun g3 => ?_)
      · replace h := cond_t h g3
        refine os_pure rfl rfl rfl ?_
        refine os_eff rfl rfl rfl ?_
        refine os_pure rfl rfl rfl ?_
        refine os_eff rfl rfl rfl ?_
        obtain ⟨r3, g4, h⟩ := bnd_inv h
        refine os_quiet rfl rfl rfl rfl rfl (parse_sameType_ok g4) rfl ?_
        refine os_pure rfl rfl rfl ?_
        refine os_pure rfl rfl rfl ?_
        refine os_guard rfl rfl rfl (fun g5 => ?_) (fun g5 => ?_)
        · replace h := cond_t h g5
          refine os_pure rfl rfl rfl ?_
          refine os_eff rfl rfl rfl ?_
          refine os_pure rfl rfl rfl ?_
          refine os_eff rfl rfl rfl ?_
          obtain ⟨r4, g6, h⟩ := bnd_inv h
          refine os_quiet rfl rfl rfl rfl rfl (parse_sameList_Type_ok g6) rfl ?_
          refine os_pure rfl rfl rfl ?_
          refine os_pure rfl rfl rfl ?_
          refine os_guard rfl rfl rfl (fun g7 => ?_) (fun g7 => ?_)
          · replace h := cond_t h g7
            refine os_pure rfl rfl rfl ?_
            refine os_eff rfl rfl rfl ?_
            refine os_pure rfl rfl rfl ?_
            refine os_eff rfl rfl rfl ?_
            obtain ⟨r5, g8, h⟩ := bnd_inv h
            refine os_quiet rfl rfl rfl rfl rfl (hΦ.parse_sameList_Node g8) rfl ?_
            refine os_pure rfl rfl rfl ?_
            refine os_pure rfl rfl rfl ?_
            refine os_nil ?_
            cases h
            exact ev_ret ⟨_, _, _, rfl, rfl, rfl⟩
          · replace h := cond_f h g7
            refine os_skip rfl ?_
            refine os_skip rfl ?_
            refine os_skip rfl ?_
            refine os_skip rfl ?_
            refine os_skip rfl ?_
            refine os_pure rfl rfl rfl ?_
            refine os_pure rfl rfl rfl ?_
            refine os_nil ?_
            cases h
            exact ev_ret ⟨_, _, _, rfl, rfl, rfl⟩
        · replace h := cond_f h g5
          refine os_skip rfl ?_
          refine os_skip rfl ?_
          refine os_skip rfl ?_
          refine os_skip rfl ?_
          refine os_skip rfl ?_
          refine os_pure rfl rfl rfl ?_
          refine os_pure rfl rfl rfl ?_
          refine os_skip rfl ?_
          refine os_skip rfl ?_
          refine os_skip rfl ?_
          refine os_skip rfl ?_
          refine os_skip rfl ?_
          refine os_pure rfl rfl rfl ?_
          refine os_pure rfl rfl rfl ?_
          refine os_nil ?_
          cases h
          exact ev_ret ⟨_, _, _, rfl, rfl, rfl⟩
      · replace h := cond_f h g3
        refine os_skip rfl ?_
        refine os_skip rfl ?_
        refine os_skip rfl ?_
        refine os_skip rfl ?_
        refine os_skip rfl ?_
        refine os_pure rfl rfl rfl ?_
        refine os_pure rfl rfl rfl ?_
        refine os_skip rfl ?_
        refine os_skip rfl ?_
        refine os_skip rfl ?_
        refine os_skip rfl ?_
        refine os_skip rfl ?_
        refine os_pure rfl rfl rfl ?_
        refine os_pure rfl rfl rfl ?_
        refine os_skip rfl ?_
        refine os_skip rfl ?_
        refine os_skip rfl ?_
        refine os_skip rfl ?_
        refine os_skip rfl ?_
        refine os_pure rfl rfl rfl ?_
        refine os_pure rfl rfl rfl ?_
        refine os_nil ?_
        cases h
        exact ev_ret ⟨_, _, _, rfl, rfl, rfl⟩
    · replace h := cond_f h g2
      refine os_skip rfl ?_
      refine os_skip rfl ?_
      refine os_skip rfl ?_
      refine os_skip rfl ?_
      refine os_skip rfl ?_
      refine os_pure rfl rfl rfl ?_
      refine os_pure rfl rfl rfl ?_
      refine os_skip rfl ?_
      refine os_skip rfl ?_
      refine os_skip rfl ?_
      refine os_skip rfl ?_
      refine os_skip rfl ?_
      refine os_pure rfl rfl rfl ?_
      refine os_pure rfl rfl rfl ?_
      refine os_skip rfl ?_
      refine os_skip rfl ?_
      refine os_skip rfl ?_
      refine os_skip rfl ?_
      refine os_skip rfl ?_
      refine os_pure rfl rfl rfl ?_
      refine os_pure rfl rfl rfl ?_
      refine os_skip rfl ?_
      refine os_skip rfl ?_
      refine os_skip rfl ?_
      refine os_skip rfl ?_
      refine os_skip rfl ?_
      refine os_pure rfl rfl rfl ?_
      refine os_pure rfl rfl rfl ?_
      refine os_nil ?_
      cases h
      exact ev_ret ⟨_, _, _, rfl, rfl, rfl⟩
  · replace h := cond_f h g1
    refine os_skip rfl ?_
    refine os_skip rfl ?_
    refine os_skip rfl ?_
    refine os_skip rfl ?_
    refine os_skip rfl ?_
    refine os_pure rfl rfl rfl ?_
    refine os_pure rfl rfl rfl ?_
    refine os_skip rfl ?_
    refine os_skip rfl ?_
    refine os_skip rfl ?_
    refine os_skip rfl ?_
    refine os_skip rfl ?_
    refine os_pure rfl rfl rfl ?_
    refine os_pure rfl rfl rfl ?_
    refine os_skip rfl ?_
    refine os_skip rfl ?_
    refine os_skip rfl ?_
    refine os_skip rfl ?_
    refine os_skip rfl ?_
    refine os_pure rfl rfl rfl ?_
    refine os_pure rfl rfl rfl ?_
    refine os_skip rfl ?_
    refine os_skip rfl ?_
    refine os_skip rfl ?_
    refine os_skip rfl ?_
    refine os_skip rfl ?_
    refine os_pure rfl rfl rfl ?_
    refine os_pure rfl rfl rfl ?_
    refine os_skip rfl ?_
    refine os_skip rfl ?_
    refine os_skip rfl ?_
    refine os_skip rfl ?_
    refine os_skip rfl ?_
    refine os_pure rfl rfl rfl ?_
    refine os_pure rfl rfl rfl ?_
    refine os_nil ?_
    cases h
    exact ev_ret ⟨_, _, _, rfl, rfl, rfl⟩
theorem parse_sameList_Node_b_ok (n : Nat) {Φ : parse_Same_F} (hΦ : Φ.Ok) {a1 : List Nod} {b2 : List Nod} {r : Bool} (h : parse_sameList_Node_b n Φ a1 b2 = some r) :
    E env (.call 72 [.slice .sealed (List.length a1) (clNod a1), .slice .sealed (List.length b2) (clNod b2), .func (.func 29) [] []]) [] = some (parse_sameList_Node_enc a1 b2 r) := by
  unfold parse_sameList_Node_b at h
  refine call_out rfl Tryz.func72 rfl rfl ?_
  refine ev_seq ?_
  refine ev_region ?_
  refine os_pure rfl rfl rfl ?_
  refine os_nil ?_
  refine ev_seq ?_
  refine ev_seq ?_
  refine ev_region ?_
  refine os_pure rfl rfl rfl ?_
  refine os_pure rfl rfl rfl ?_
  refine os_pure rfl rfl rfl ?_
  refine os_pure rfl rfl rfl ?_
  refine os_pure rfl rfl rfl ?_
  refine os_nil ?_
  refine ev_if rfl (fun g1 => ?_) (fun g1 => ?_)
  · replace h := cond_t h g1
    refine ev_seq ?_
    refine ev_region ?_
    refine os_pure rfl rfl rfl ?_
    refine os_nil ?_
    cases h
    exact ev_ret ⟨_, _, _, rfl, rfl, rfl⟩
  · replace h := cond_f h g1
    refine ev_skip ?_
    obtain ⟨y2, g3, h⟩ := bindL_inv h
    refine ev_segL (KR := fun r => OutK env 72 0 Tryz.f72.results.toList (parse_sameList_Node_enc a1 b2 r)) y2 (fun z9 => []) (fun z9 => []) rfl ?_ (fun z9 hx => ?_) (fun r res hz hr hn => ?_)
    · replace h := g3
      clear g3
      refine ev_seq ?_
      refine ev_region ?_
      refine os_pure rfl rfl rfl ?_
      refine os_pure rfl rfl rfl ?_
      refine os_pure rfl rfl rfl ?_
      refine os_nil ?_
      refine ev_block ?_
      refine ev_loop rfl ?_
      revert y2
      refine lp_fuel (fun m (x : Int) => parse_sameList_Node_l4 n Φ a1 b2 m x) (fun x => [(0, .slice .sealed (List.length a1) (clNod a1)), (1, .slice .sealed (List.length b2) (clNod b2)), (2, .func (.func 29) [] []), (14, .int .i64 (List.length a1 : Int)), (15, .int .i64 x)]) (fun x => []) _ (fun _ => rfl) (fun m4 x y ih h => ?_) n 0
      obtain ⟨x503, rfl⟩ : ∃ q, q = x := ⟨_, rfl⟩
      show Ev _ _ _ _ _ [(0, .slice .sealed (List.length a1) (clNod a1)), (1, .slice .sealed (List.length b2) (clNod b2)), (2, .func (.func 29) [] []), (14, .int .i64 (List.length a1 : Int)), (15, .int .i64 x503)] [] _
      replace h : parse_sameList_Node_l4 n Φ a1 b2 (m4 + 1) x503 = some y := h
      rw [parse_sameList_Node_l4] at h
      refine ev_seq ?_
      refine ev_region ?_
      refine os_pure rfl rfl rfl ?_
      refine os_nil ?_
      refine ev_seq ?_
      refine ev_if rfl (fun g4 => ?_) (fun g4 => ?_)
      · replace h := cond_t h g4
        refine ev_skip ?_
        refine ev_seq ?_
        refine ev_block ?_
        refine ev_seq ?_
        refine ev_region ?_
        refine os_pure rfl rfl rfl ?_
        refine os_pure rfl rfl rfl ?_
        refine os_nil ?_
        refine ev_seq ?_
        refine ev_region ?_
        refine os_pure rfl rfl rfl ?_
        refine os_pure rfl rfl rfl ?_
        refine os_pure rfl rfl rfl ?_
        obtain ⟨x3, g5, h⟩ := bnd_inv h
        obtain ⟨x3_0, x3_1, x3_2, ⟨x3_3, x3_4, x3_5, x3_6⟩, x3_7, x3_8, x3_9⟩ := x3
        refine os_idx encNod g5 rfl rfl rfl rfl rfl rfl rfl rfl ?_
        refine os_loadA (c := [.int .i64 x3_0, .str x3_1, .int .i64 x3_2, .int .i64 x3_3, .str x3_4, .int .i64 x3_5, .slice .sealed (List.length x3_6) (clTyp x3_6), .slice .sealed (List.length x3_7) (clTyp x3_7), .slice .sealed (List.length x3_8) (clNod x3_8), .int .i64 x3_9]) rfl rfl rfl rfl rfl rfl rfl ?_
        refine os_pure rfl rfl rfl ?_
        refine os_pure rfl rfl rfl ?_
        obtain ⟨x4, g6, h⟩ := bnd_inv h
        obtain ⟨x4_0, x4_1, x4_2, ⟨x4_3, x4_4, x4_5, x4_6⟩, x4_7, x4_8, x4_9⟩ := x4
        refine os_idx encNod g6 rfl rfl rfl rfl rfl rfl rfl rfl ?_
        refine os_loadA (c := [.int .i64 x4_0, .str x4_1, .int .i64 x4_2, .int .i64 x4_3, .str x4_4, .int .i64 x4_5, .slice .sealed (List.length x4_6) (clTyp x4_6), .slice .sealed (List.length x4_7) (clTyp x4_7), .slice .sealed (List.length x4_8) (clNod x4_8), .int .i64 x4_9]) rfl rfl rfl rfl rfl rfl rfl ?_
        obtain ⟨r5, g7, h⟩ := bnd_inv h
        refine os_quietv rfl rfl rfl rfl rfl rfl (hΦ.parse_Same g7) rfl ?_
        refine os_pure rfl rfl rfl ?_
        refine os_nil ?_
        refine ev_if rfl (fun g8 => ?_) (fun g8 => ?_)
        · replace h := cond_t h g8
          refine ev_seq ?_
          refine ev_region ?_
          refine os_pure rfl rfl rfl ?_
          refine os_nil ?_
          cases h
          exact ev_ret ⟨_, rfl, _, _, _, rfl, rfl, rfl⟩
        · replace h := cond_f h g8
          refine ev_skip ?_
          refine ev_region ?_
          refine os_pure rfl rfl rfl ?_
          refine os_pure rfl rfl rfl ?_
          refine os_nil ?_
          exact ⟨_, _, rfl, ih _ _ h⟩
      · replace h := cond_f h g4
        refine ev_exit ?_
        cases h
        exact ⟨_, rfl, rfl⟩
    · subst hx
      show Ev _ _ _ _ _ [] [] _
      refine ev_seq ?_
      refine ev_region ?_
      refine os_pure rfl rfl rfl ?_
      refine os_nil ?_
      cases h
      exact ev_ret ⟨_, _, _, rfl, rfl, rfl⟩
    · subst hz
      obtain ⟨e, fr1, H1⟩ := res
      cases e with
      | normal => exact absurd rfl hn
      | ret => cases h; exact hr
      | exit i => exact hr.elim
      | panic v => cases h; exact hr
theorem parse_Same_F.ok : ∀ n, (parse_Same_F.fs n).Ok
  | 0 => ⟨(fun h => by cases h), (fun h => by cases h)⟩
  | n + 1 => ⟨(fun h => parse_Same_b_ok n (parse_Same_F.ok n) h), (fun h => parse_sameList_Node_b_ok n (parse_Same_F.ok n) h)⟩
theorem parse_Same_ok {n : Nat} {a1 : Nod} {b2 : Nod} {r : Bool} (h : parse_Same n a1 b2 = some r) :
    E env (.call 29 [.agg [.int .i64 a1.op, .str a1.s, .int .i64 a1.n, .int .i64 a1.t.kind, .str a1.t.name, .int .i64 a1.t.n, .slice .sealed (List.length a1.t.args) (clTyp a1.t.args), .slice .sealed (List.length a1.ts) (clTyp a1.ts), .slice .sealed (List.length a1.l) (clNod a1.l), .int .i64 a1.at_], .agg [.int .i64 b2.op, .str b2.s, .int .i64 b2.n, .int .i64 b2.t.kind, .str b2.t.name, .int .i64 b2.t.n, .slice .sealed (List.length b2.t.args) (clTyp b2.t.args), .slice .sealed (List.length b2.ts) (clTyp b2.ts), .slice .sealed (List.length b2.l) (clNod b2.l), .int .i64 b2.at_]]) [] = some (parse_Same_enc a1 b2 r) := (parse_Same_F.ok n).parse_Same h
theorem parse_sameList_Node_ok {n : Nat} {a1 : List Nod} {b2 : List Nod} {r : Bool} (h : parse_sameList_Node n a1 b2 = some r) :
    E env (.call 72 [.slice .sealed (List.length a1) (clNod a1), .slice .sealed (List.length b2) (clNod b2), .func (.func 29) [] []]) [] = some (parse_sameList_Node_enc a1 b2 r) := (parse_Same_F.ok n).parse_sameList_Node h
structure ref00_EqType_F.Ok (Φ : ref00_EqType_F) : Prop where
  ref00_EqType : ∀ {a1 : Typ} {b2 : Typ} {r : Bool}, Φ.ref00_EqType a1 b2 = some r → E env (.call 38 [.agg [.int .i64 a1.kind, .str a1.name, .int .i64 a1.n, .slice .sealed (List.length a1.args) (clTyp a1.args)], .agg [.int .i64 b2.kind, .str b2.name, .int .i64 b2.n, .slice .sealed (List.length b2.args) (clTyp b2.args)]]) [] = some (ref00_EqType_enc a1 b2 r)
  ref00_EqTypes : ∀ {a1 : List Typ} {b2 : List Typ} {r : Bool}, Φ.ref00_EqTypes a1 b2 = some r → E env (.call 49 [.slice .sealed (List.length a1) (clTyp a1), .slice .sealed (List.length b2) (clTyp b2)]) [] = some (ref00_EqTypes_enc a1 b2 r)
theorem ref00_EqType_b_ok (n : Nat) {Φ : ref00_EqType_F} (hΦ : Φ.Ok) {a1 : Typ} {b2 : Typ} {r : Bool} (h : ref00_EqType_b n Φ a1 b2 = some r) :
    E env (.call 38 [.agg [.int .i64 a1.kind, .str a1.name, .int .i64 a1.n, .slice .sealed (List.length a1.args) (clTyp a1.args)], .agg [.int .i64 b2.kind, .str b2.name, .int .i64 b2.n, .slice .sealed (List.length b2.args) (clTyp b2.args)]]) [] = some (ref00_EqType_enc a1 b2 r) := by
  unfold ref00_EqType_b at h
  obtain ⟨a1_0, a1_1, a1_2, a1_3⟩ := a1
  obtain ⟨b2_0, b2_1, b2_2, b2_3⟩ := b2
  refine call_out rfl Tryz.func38 rfl rfl ?_
  refine ev_seq ?_
  refine ev_region ?_
  refine os_eff rfl rfl rfl ?_
  refine os_eff rfl rfl rfl ?_
  refine os_pure rfl rfl rfl ?_
  refine os_nil ?_
  refine ev_seq ?_
  refine ev_region ?_
  refine os_pure rfl rfl rfl ?_
  refine os_eff rfl rfl rfl ?_
  refine os_pure rfl rfl rfl ?_
  refine os_eff rfl rfl rfl ?_
  refine os_pure rfl rfl rfl ?_
  refine os_pure rfl rfl rfl ?_
  refine os_guard rfl rfl rfl (fun g1 => ?_) (fun g1 => ?_)
  · replace h := cond_t h g1
    refine os_pure rfl rfl rfl ?_
    refine os_eff rfl rfl rfl ?_
    refine os_pure rfl rfl rfl ?_
    refine os_eff rfl rfl rfl ?_
    refine os_pure rfl rfl rfl ?_
    refine os_pure rfl rfl rfl ?_
    refine os_pure rfl rfl rfl ?_
    refine os_guard rfl rfl rfl (fun g2 => ?_) (fun g2 => ?_)
    · replace h := cond_t h g2
      refine os_pure rfl rfl rfl ?_
      refine os_eff rfl rfl rfl ?_
      refine os_pure rfl rfl rfl ?_
      refine os_eff rfl rfl rfl ?_
      refine os_pure rfl rfl rfl ?_
      refine os_pure rfl rfl rfl ?_
      refine os_pure rfl rfl rfl ?_
      refine os_guard rfl rfl rfl (fun g3 => ?_) (fun g3 => ?_)
      · replace h := cond_t h g3
        refine os_pure rfl rfl rfl ?_
        refine os_eff rfl rfl rfl ?_
        refine os_pure rfl rfl rfl ?_
        refine os_eff rfl rfl rfl ?_
        obtain ⟨r3, g4, h⟩ := bnd_inv h
        refine os_quiet rfl rfl rfl rfl rfl (hΦ.ref00_EqTypes g4) rfl ?_
        refine os_pure rfl rfl rfl ?_
        refine os_pure rfl rfl rfl ?_
        refine os_nil ?_
        cases h
        exact ev_ret ⟨_, _, _, rfl, rfl, rfl⟩
      · replace h := cond_f h g3
        refine os_skip rfl ?_
        refine os_skip rfl ?_
        refine os_skip rfl ?_
        refine os_skip rfl ?_
        refine os_skip rfl ?_
        refine os_pure rfl rfl rfl ?_
        refine os_pure rfl rfl rfl ?_
        refine os_nil ?_
        cases h
        exact ev_ret ⟨_, _, _, rfl, rfl, rfl⟩
    · replace h := cond_f h g2
      refine os_skip rfl ?_
      refine os_skip rfl ?_
      refine os_skip rfl ?_
      refine os_skip rfl ?_
      refine os_skip rfl ?_
      refine os_pure rfl rfl rfl ?_
      refine os_pure rfl rfl rfl ?_
      refine os_skip rfl ?_
      refine os_skip rfl ?_
      refine os_skip rfl ?_
      refine os_skip rfl ?_
      refine os_skip rfl ?_
      refine os_pure rfl rfl rfl ?_
      refine os_pure rfl rfl rfl ?_
      refine os_nil ?_
      cases h
      exact ev_ret ⟨_, _, _, rfl, rfl, rfl⟩
  · replace h := cond_f h g1
    refine os_skip rfl ?_
    refine os_skip rfl ?_
    refine os_skip rfl ?_
    refine os_skip rfl ?_
    refine os_skip rfl ?_
    refine os_pure rfl rfl rfl ?_
    refine os_pure rfl rfl rfl ?_
    refine os_skip rfl ?_
    refine os_skip rfl ?_
    refine os_skip rfl ?_
    refine os_skip rfl ?_
    refine os_skip rfl ?_
    refine os_pure rfl rfl rfl ?_
    refine os_pure rfl rfl rfl ?_
    refine os_skip rfl ?_
    refine os_skip rfl ?_
    refine os_skip rfl ?_
    refine os_skip rfl ?_
    refine os_skip rfl ?_
    refine os_pure rfl rfl rfl ?_
    refine os_pure rfl rfl rfl ?_
    refine os_nil ?_
    cases h
    exact ev_ret ⟨_, _, _, rfl, rfl, rfl⟩
theorem ref00_EqTypes_b_ok (n : Nat) {Φ : ref00_EqType_F} (hΦ : Φ.Ok) {a1 : List Typ} {b2 : List Typ} {r : Bool} (h : ref00_EqTypes_b n Φ a1 b2 = some r) :
    E env (.call 49 [.slice .sealed (List.length a1) (clTyp a1), .slice .sealed (List.length b2) (clTyp b2)]) [] = some (ref00_EqTypes_enc a1 b2 r) := by
  unfold ref00_EqTypes_b at h
  refine call_out rfl Tryz.func49 rfl rfl ?_
  refine ev_seq ?_
  refine ev_region ?_
  refine os_pure rfl rfl rfl ?_
  refine os_nil ?_
  refine ev_seq ?_
  refine ev_seq ?_
  refine ev_region ?_
  refine os_pure rfl rfl rfl ?_
  refine os_pure rfl rfl rfl ?_
  refine os_pure rfl rfl rfl ?_
  refine os_pure rfl rfl rfl ?_
  refine os_pure rfl rfl rfl ?_
  refine os_nil ?_
  refine ev_if rfl (fun g1 => ?_) (fun g1 => ?_)
  · replace h := cond_t h g1
    refine ev_seq ?_
    refine ev_region ?_
    refine os_pure rfl rfl rfl ?_
    refine os_nil ?_
    cases h
    exact ev_ret ⟨_, _, _, rfl, rfl, rfl⟩
  · replace h := cond_f h g1
    refine ev_skip ?_
    obtain ⟨y2, g3, h⟩ := bindL_inv h
    refine ev_segL (KR := fun r => OutK env 49 0 Tryz.f49.results.toList (ref00_EqTypes_enc a1 b2 r)) y2 (fun z9 => []) (fun z9 => []) rfl ?_ (fun z9 hx => ?_) (fun r res hz hr hn => ?_)
    · replace h := g3
      clear g3
      refine ev_seq ?_
      refine ev_region ?_
      refine os_pure rfl rfl rfl ?_
      refine os_nil ?_
      refine ev_block ?_
      refine ev_loop rfl ?_
      revert y2
      refine lp_fuel (fun m (x : Int) => ref00_EqTypes_l4 n Φ a1 b2 m x) (fun x => [(0, .slice .sealed (List.length a1) (clTyp a1)), (1, .slice .sealed (List.length b2) (clTyp b2)), (5, .int .i64 x)]) (fun x => []) _ (fun _ => rfl) (fun m4 x y ih h => ?_) n 0
      obtain ⟨i503, rfl⟩ : ∃ q, q = x := ⟨_, rfl⟩
      show Ev _ _ _ _ _ [(0, .slice .sealed (List.length a1) (clTyp a1)), (1, .slice .sealed (List.length b2) (clTyp b2)), (5, .int .i64 i503)] [] _
      replace h : ref00_EqTypes_l4 n Φ a1 b2 (m4 + 1) i503 = some y := h
      rw [ref00_EqTypes_l4] at h
      refine ev_seq ?_
      refine ev_seq ?_
      refine ev_region ?_
      refine os_pure rfl rfl rfl ?_
      refine os_pure rfl rfl rfl ?_
      refine os_pure rfl rfl rfl ?_
      refine os_pure rfl rfl rfl ?_
      refine os_nil ?_
      refine ev_if rfl (fun g4 => ?_) (fun g4 => ?_)
      · replace h := cond_t h g4
        refine ev_skip ?_
        refine ev_seq ?_
        refine ev_block ?_
        refine ev_seq ?_
        refine ev_region ?_
        refine os_pure rfl rfl rfl ?_
        refine os_pure rfl rfl rfl ?_
        obtain ⟨x3, g5, h⟩ := bnd_inv h
        obtain ⟨x3_0, x3_1, x3_2, x3_3⟩ := x3
        refine os_idx encTyp g5 rfl rfl rfl rfl rfl rfl rfl rfl ?_
        refine os_loadA (c := [.int .i64 x3_0, .str x3_1, .int .i64 x3_2, .slice .sealed (List.length x3_3) (clTyp x3_3)]) rfl rfl rfl rfl rfl rfl rfl ?_
        refine os_pure rfl rfl rfl ?_
        refine os_pure rfl rfl rfl ?_
        obtain ⟨x4, g6, h⟩ := bnd_inv h
        obtain ⟨x4_0, x4_1, x4_2, x4_3⟩ := x4
        refine os_idx encTyp g6 rfl rfl rfl rfl rfl rfl rfl rfl ?_
        refine os_loadA (c := [.int .i64 x4_0, .str x4_1, .int .i64 x4_2, .slice .sealed (List.length x4_3) (clTyp x4_3)]) rfl rfl rfl rfl rfl rfl rfl ?_
        obtain ⟨r5, g7, h⟩ := bnd_inv h
        refine os_quiet rfl rfl rfl rfl rfl (hΦ.ref00_EqType g7) rfl ?_
        refine os_pure rfl rfl rfl ?_
        refine os_nil ?_
        refine ev_if rfl (fun g8 => ?_) (fun g8 => ?_)
        · replace h := cond_t h g8
          refine ev_seq ?_
          refine ev_region ?_
          refine os_pure rfl rfl rfl ?_
          refine os_nil ?_
          cases h
          exact ev_ret ⟨_, rfl, _, _, _, rfl, rfl, rfl⟩
        · replace h := cond_f h g8
          refine ev_skip ?_
          refine ev_region ?_
          refine os_pure rfl rfl rfl ?_
          refine os_pure rfl rfl rfl ?_
          refine os_pure rfl rfl rfl ?_
          refine os_nil ?_
          exact ⟨_, _, rfl, ih _ _ h⟩
      · replace h := cond_f h g4
        refine ev_exit ?_
        cases h
        exact ⟨_, rfl, rfl⟩
    · subst hx
      show Ev _ _ _ _ _ [] [] _
      refine ev_seq ?_
      refine ev_region ?_
      refine os_pure rfl rfl rfl ?_
      refine os_nil ?_
      cases h
      exact ev_ret ⟨_, _, _, rfl, rfl, rfl⟩
    · subst hz
      obtain ⟨e, fr1, H1⟩ := res
      cases e with
      | normal => exact absurd rfl hn
      | ret => cases h; exact hr
      | exit i => exact hr.elim
      | panic v => cases h; exact hr
theorem ref00_EqType_F.ok : ∀ n, (ref00_EqType_F.fs n).Ok
  | 0 => ⟨(fun h => by cases h), (fun h => by cases h)⟩
  | n + 1 => ⟨(fun h => ref00_EqType_b_ok n (ref00_EqType_F.ok n) h), (fun h => ref00_EqTypes_b_ok n (ref00_EqType_F.ok n) h)⟩
theorem ref00_EqType_ok {n : Nat} {a1 : Typ} {b2 : Typ} {r : Bool} (h : ref00_EqType n a1 b2 = some r) :
    E env (.call 38 [.agg [.int .i64 a1.kind, .str a1.name, .int .i64 a1.n, .slice .sealed (List.length a1.args) (clTyp a1.args)], .agg [.int .i64 b2.kind, .str b2.name, .int .i64 b2.n, .slice .sealed (List.length b2.args) (clTyp b2.args)]]) [] = some (ref00_EqType_enc a1 b2 r) := (ref00_EqType_F.ok n).ref00_EqType h
theorem ref00_EqTypes_ok {n : Nat} {a1 : List Typ} {b2 : List Typ} {r : Bool} (h : ref00_EqTypes n a1 b2 = some r) :
    E env (.call 49 [.slice .sealed (List.length a1) (clTyp a1), .slice .sealed (List.length b2) (clTyp b2)]) [] = some (ref00_EqTypes_enc a1 b2 r) := (ref00_EqType_F.ok n).ref00_EqTypes h
structure ref00_EqNode_F.Ok (Φ : ref00_EqNode_F) : Prop where
  ref00_EqNode : ∀ {a1 : Nod} {b2 : Nod} {at3 : Bool} {r : Bool}, Φ.ref00_EqNode a1 b2 at3 = some r → E env (.call 16 [.agg [.int .i64 a1.op, .str a1.s, .int .i64 a1.n, .int .i64 a1.t.kind, .str a1.t.name, .int .i64 a1.t.n, .slice .sealed (List.length a1.t.args) (clTyp a1.t.args), .slice .sealed (List.length a1.ts) (clTyp a1.ts), .slice .sealed (List.length a1.l) (clNod a1.l), .int .i64 a1.at_], .agg [.int .i64 b2.op, .str b2.s, .int .i64 b2.n, .int .i64 b2.t.kind, .str b2.t.name, .int .i64 b2.t.n, .slice .sealed (List.length b2.t.args) (clTyp b2.t.args), .slice .sealed (List.length b2.ts) (clTyp b2.ts), .slice .sealed (List.length b2.l) (clNod b2.l), .int .i64 b2.at_], .bool at3]) [] = some (ref00_EqNode_enc a1 b2 at3 r)
  ref00_EqNodes : ∀ {a1 : List Nod} {b2 : List Nod} {at3 : Bool} {r : Bool}, Φ.ref00_EqNodes a1 b2 at3 = some r → E env (.call 50 [.slice .sealed (List.length a1) (clNod a1), .slice .sealed (List.length b2) (clNod b2), .bool at3]) [] = some (ref00_EqNodes_enc a1 b2 at3 r)
theorem ref00_EqNode_b_ok (n : Nat) {Φ : ref00_EqNode_F} (hΦ : Φ.Ok) {a1 : Nod} {b2 : Nod} {at3 : Bool} {r : Bool} (h : ref00_EqNode_b n Φ a1 b2 at3 = some r) :
    E env (.call 16 [.agg [.int .i64 a1.op, .str a1.s, .int .i64 a1.n, .int .i64 a1.t.kind, .str a1.t.name, .int .i64 a1.t.n, .slice .sealed (List.length a1.t.args) (clTyp a1.t.args), .slice .sealed (List.length a1.ts) (clTyp a1.ts), .slice .sealed (List.length a1.l) (clNod a1.l), .int .i64 a1.at_], .agg [.int .i64 b2.op, .str b2.s, .int .i64 b2.n, .int .i64 b2.t.kind, .str b2.t.name, .int .i64 b2.t.n, .slice .sealed (List.length b2.t.args) (clTyp b2.t.args), .slice .sealed (List.length b2.ts) (clTyp b2.ts), .slice .sealed (List.length b2.l) (clNod b2.l), .int .i64 b2.at_], .bool at3]) [] = some (ref00_EqNode_enc a1 b2 at3 r) := by
  unfold ref00_EqNode_b at h
  obtain ⟨a1_0, a1_1, a1_2, ⟨a1_3, a1_4, a1_5, a1_6⟩, a1_7, a1_8, a1_9⟩ := a1
  obtain ⟨b2_0, b2_1, b2_2, ⟨b2_3, b2_4, b2_5, b2_6⟩, b2_7, b2_8, b2_9⟩ := b2
  refine call_out rfl Tryz.func16 rfl rfl ?_
  refine ev_seq ?_
  refine ev_region ?_
  refine os_eff rfl rfl rfl ?_
  refine os_eff rfl rfl rfl ?_
  refine os_pure rfl rfl rfl ?_
  refine os_nil ?_
  refine ev_seq ?_
  obtain ⟨y1, g2, h⟩ := bnd_inv h
  refine ev_seg [(2, .bool at3), (3, .ptr 0 0), (4, .ptr 1 0), (51, .bool y1)] [(0, .row [.int .i64 a1_0, .str a1_1, .int .i64 a1_2, .int .i64 a1_3, .str a1_4, .int .i64 a1_5, .slice .sealed (List.length a1_6) (clTyp a1_6), .slice .sealed (List.length a1_7) (clTyp a1_7), .slice .sealed (List.length a1_8) (clNod a1_8), .int .i64 a1_9]), (1, .row [.int .i64 b2_0, .str b2_1, .int .i64 b2_2, .int .i64 b2_3, .str b2_4, .int .i64 b2_5, .slice .sealed (List.length b2_6) (clTyp b2_6), .slice .sealed (List.length b2_7) (clTyp b2_7), .slice .sealed (List.length b2_8) (clNod b2_8), .int .i64 b2_9])] rfl ?_ ?_
  · replace h := g2
    clear g2
    refine ev_region ?_
    refine os_pure rfl rfl rfl ?_
    refine os_eff rfl rfl rfl ?_
    refine os_pure rfl rfl rfl ?_
    refine os_eff rfl rfl rfl ?_
    refine os_pure rfl rfl rfl ?_
    refine os_pure rfl rfl rfl ?_
    refine os_guard rfl rfl rfl (fun g3 => ?_) (fun g3 => ?_)
    · replace h := cond_t h g3
      refine os_skip rfl ?_
      refine os_skip rfl ?_
      refine os_skip rfl ?_
      refine os_skip rfl ?_
      refine os_skip rfl ?_
      refine os_pure rfl rfl rfl ?_
      refine os_pure rfl rfl rfl ?_
      refine os_skip rfl ?_
      refine os_skip rfl ?_
      refine os_skip rfl ?_
      refine os_skip rfl ?_
      refine os_skip rfl ?_
      refine os_pure rfl rfl rfl ?_
      refine os_pure rfl rfl rfl ?_
      refine os_skip rfl ?_
      refine os_skip rfl ?_
      refine os_skip rfl ?_
      refine os_skip rfl ?_
      refine os_skip rfl ?_
      refine os_skip rfl ?_
      refine os_skip rfl ?_
      refine os_skip rfl ?_
      refine os_pure rfl rfl rfl ?_
      refine os_pure rfl rfl rfl ?_
      refine os_skip rfl ?_
      refine os_skip rfl ?_
      refine os_skip rfl ?_
      refine os_skip rfl ?_
      refine os_skip rfl ?_
      refine os_skip rfl ?_
      refine os_pure rfl rfl rfl ?_
      refine os_pure rfl rfl rfl ?_
      refine os_skip rfl ?_
      refine os_skip rfl ?_
      refine os_skip rfl ?_
      refine os_skip rfl ?_
      refine os_skip rfl ?_
      refine os_skip rfl ?_
      refine os_pure rfl rfl rfl ?_
      refine os_nil ?_
      cases h
      exact rfl
    · replace h := cond_f h g3
      refine os_pure rfl rfl rfl ?_
      refine os_eff rfl rfl rfl ?_
      refine os_pure rfl rfl rfl ?_
      refine os_eff rfl rfl rfl ?_
      refine os_pure rfl rfl rfl ?_
      refine os_pure rfl rfl rfl ?_
      refine os_pure rfl rfl rfl ?_
      refine os_guard rfl rfl rfl (fun g4 => ?_) (fun g4 => ?_)
      · replace h := cond_t h g4
        refine os_skip rfl ?_
        refine os_skip rfl ?_
        refine os_skip rfl ?_
        refine os_skip rfl ?_
        refine os_skip rfl ?_
        refine os_pure rfl rfl rfl ?_
        refine os_pure rfl rfl rfl ?_
        refine os_skip rfl ?_
        refine os_skip rfl ?_
        refine os_skip rfl ?_
        refine os_skip rfl ?_
        refine os_skip rfl ?_
        refine os_skip rfl ?_
        refine os_skip rfl ?_
        refine os_skip rfl ?_
        refine os_pure rfl rfl rfl ?_
        refine os_pure rfl rfl rfl ?_
        refine os_skip rfl ?_
        refine os_skip rfl ?_
        refine os_skip rfl ?_
        refine os_skip rfl ?_
        refine os_skip rfl ?_
        refine os_skip rfl ?_
        refine os_pure rfl rfl rfl ?_
        refine os_pure rfl rfl rfl ?_
        refine os_skip rfl ?_
        refine os_skip rfl ?_
        refine os_skip rfl ?_
        refine os_skip rfl ?_
        refine os_skip rfl ?_
        refine os_skip rfl ?_
        refine os_pure rfl rfl rfl ?_
        refine os_nil ?_
        cases h
        exact rfl
      · replace h := cond_f h g4
        refine os_pure rfl rfl rfl ?_
        refine os_eff rfl rfl rfl ?_
        refine os_pure rfl rfl rfl ?_
        refine os_eff rfl rfl rfl ?_
        refine os_pure rfl rfl rfl ?_
        refine os_pure rfl rfl rfl ?_
        refine os_pure rfl rfl rfl ?_
        refine os_guard rfl rfl rfl (fun g5 => ?_) (fun g5 => ?_)
        · replace h := cond_t h g5
          refine os_skip rfl ?_
          refine os_skip rfl ?_
          refine os_skip rfl ?_
          refine os_skip rfl ?_
          refine os_skip rfl ?_
          refine os_skip rfl ?_
          refine os_skip rfl ?_
          refine os_skip rfl ?_
          refine os_pure rfl rfl rfl ?_
          refine os_pure rfl rfl rfl ?_
          refine os_skip rfl ?_
          refine os_skip rfl ?_
          refine os_skip rfl ?_
          refine os_skip rfl ?_
          refine os_skip rfl ?_
          refine os_skip rfl ?_
          refine os_pure rfl rfl rfl ?_
          refine os_pure rfl rfl rfl ?_
          refine os_skip rfl ?_
          refine os_skip rfl ?_
          refine os_skip rfl ?_
          refine os_skip rfl ?_
          refine os_skip rfl ?_
          refine os_skip rfl ?_
          refine os_pure rfl rfl rfl ?_
          refine os_nil ?_
          cases h
          exact rfl
        · replace h := cond_f h g5
          refine os_pure rfl rfl rfl ?_
          refine os_pure rfl rfl rfl ?_
          refine os_guard rfl rfl rfl (fun g6 => ?_) (fun g6 => ?_)
          · replace h := cond_t h g6
            refine os_pure rfl rfl rfl ?_
            refine os_eff rfl rfl rfl ?_
            refine os_pure rfl rfl rfl ?_
            refine os_eff rfl rfl rfl ?_
            refine os_pure rfl rfl rfl ?_
            refine os_pure rfl rfl rfl ?_
            refine os_pure rfl rfl rfl ?_
            refine os_pure rfl rfl rfl ?_
            refine os_guard rfl rfl rfl (fun g7 => ?_) (fun g7 => ?_)
            · replace h := cond_t h g7
              refine os_skip rfl ?_
              refine os_skip rfl ?_
              refine os_skip rfl ?_
              refine os_skip rfl ?_
              refine os_skip rfl ?_
              refine os_skip rfl ?_
              refine os_pure rfl rfl rfl ?_
              refine os_pure rfl rfl rfl ?_
              refine os_skip rfl ?_
              refine os_skip rfl ?_
              refine os_skip rfl ?_
              refine os_skip rfl ?_
              refine os_skip rfl ?_
              refine os_skip rfl ?_
              refine os_pure rfl rfl rfl ?_
              refine os_nil ?_
              cases h
              exact rfl
            · replace h := cond_f h g7
              refine os_pure rfl rfl rfl ?_
              refine os_eff rfl rfl rfl ?_
              refine os_pure rfl rfl rfl ?_
              refine os_eff rfl rfl rfl ?_
              obtain ⟨r4, g8, h⟩ := bnd_inv h
              refine os_quiet rfl rfl rfl rfl rfl (ref00_EqType_ok g8) rfl ?_
              refine os_pure rfl rfl rfl ?_
              refine os_pure rfl rfl rfl ?_
              refine os_pure rfl rfl rfl ?_
              refine os_guard rfl rfl rfl (fun g9 => ?_) (fun g9 => ?_)
              · replace h := cond_t h g9
                refine os_skip rfl ?_
                refine os_skip rfl ?_
                refine os_skip rfl ?_
                refine os_skip rfl ?_
                refine os_skip rfl ?_
                refine os_skip rfl ?_
                refine os_pure rfl rfl rfl ?_
                refine os_nil ?_
                cases h
                exact rfl
              · replace h := cond_f h g9
                refine os_pure rfl rfl rfl ?_
                refine os_eff rfl rfl rfl ?_
                refine os_pure rfl rfl rfl ?_
                refine os_eff rfl rfl rfl ?_
                obtain ⟨r5, g10, h⟩ := bnd_inv h
                refine os_quiet rfl rfl rfl rfl rfl (ref00_EqTypes_ok g10) rfl ?_
                refine os_pure rfl rfl rfl ?_
                refine os_pure rfl rfl rfl ?_
                refine os_nil ?_
                cases h
                exact rfl
          · replace h := cond_f h g6
            refine os_skip rfl ?_
            refine os_skip rfl ?_
            refine os_skip rfl ?_
            refine os_skip rfl ?_
            refine os_skip rfl ?_
            refine os_pure rfl rfl rfl ?_
            refine os_pure rfl rfl rfl ?_
            refine os_pure rfl rfl rfl ?_
            refine os_pure rfl rfl rfl ?_
            refine os_eff rfl rfl rfl ?_
            refine os_pure rfl rfl rfl ?_
            refine os_eff rfl rfl rfl ?_
            obtain ⟨r6, g11, h⟩ := bnd_inv h
            refine os_quiet rfl rfl rfl rfl rfl (ref00_EqType_ok g11) rfl ?_
            refine os_pure rfl rfl rfl ?_
            refine os_pure rfl rfl rfl ?_
            refine os_pure rfl rfl rfl ?_
            refine os_guard rfl rfl rfl (fun g12 => ?_) (fun g12 => ?_)
            · replace h := cond_t h g12
              refine os_skip rfl ?_
              refine os_skip rfl ?_
              refine os_skip rfl ?_
              refine os_skip rfl ?_
              refine os_skip rfl ?_
              refine os_skip rfl ?_
              refine os_pure rfl rfl rfl ?_
              refine os_nil ?_
              cases h
              exact rfl
            · replace h := cond_f h g12
              refine os_pure rfl rfl rfl ?_
              refine os_eff rfl rfl rfl ?_
              refine os_pure rfl rfl rfl ?_
              refine os_eff rfl rfl rfl ?_
              obtain ⟨r7, g13, h⟩ := bnd_inv h
              refine os_quiet rfl rfl rfl rfl rfl (ref00_EqTypes_ok g13) rfl ?_
              refine os_pure rfl rfl rfl ?_
              refine os_pure rfl rfl rfl ?_
              refine os_nil ?_
              cases h
              exact rfl
  · obtain ⟨x501, rfl⟩ : ∃ q, q = y1 := ⟨_, rfl⟩
    show Ev _ _ _ _ _ [(2, .bool at3), (3, .ptr 0 0), (4, .ptr 1 0), (51, .bool x501)] [(0, .row [.int .i64 a1_0, .str a1_1, .int .i64 a1_2, .int .i64 a1_3, .str a1_4, .int .i64 a1_5, .slice .sealed (List.length a1_6) (clTyp a1_6), .slice .sealed (List.length a1_7) (clTyp a1_7), .slice .sealed (List.length a1_8) (clNod a1_8), .int .i64 a1_9]), (1, .row [.int .i64 b2_0, .str b2_1, .int .i64 b2_2, .int .i64 b2_3, .str b2_4, .int .i64 b2_5, .slice .sealed (List.length b2_6) (clTyp b2_6), .slice .sealed (List.length b2_7) (clTyp b2_7), .slice .sealed (List.length b2_8) (clNod b2_8), .int .i64 b2_9])] _
    refine ev_if rfl (fun g14 => ?_) (fun g14 => ?_)
    · replace h := cond_t h g14
      refine ev_seq ?_
      refine ev_region ?_
      refine os_pure rfl rfl rfl ?_
      refine os_nil ?_
      cases h
      exact ev_ret ⟨_, _, _, rfl, rfl, rfl⟩
    · replace h := cond_f h g14
      refine ev_skip ?_
      refine ev_seq ?_
      refine ev_region ?_
      refine os_pure rfl rfl rfl ?_
      refine os_eff rfl rfl rfl ?_
      refine os_pure rfl rfl rfl ?_
      refine os_eff rfl rfl rfl ?_
      refine os_pure rfl rfl rfl ?_
      obtain ⟨r8, g15, h⟩ := bnd_inv h
      refine os_quiet rfl rfl rfl rfl rfl (hΦ.ref00_EqNodes g15) rfl ?_
      refine os_pure rfl rfl rfl ?_
      refine os_nil ?_
      cases h
      exact ev_ret ⟨_, _, _, rfl, rfl, rfl⟩
theorem ref00_EqNodes_b_ok (n : Nat) {Φ : ref00_EqNode_F} (hΦ : Φ.Ok) {a1 : List Nod} {b2 : List Nod} {at3 : Bool} {r : Bool} (h : ref00_EqNodes_b n Φ a1 b2 at3 = some r) :
    E env (.call 50 [.slice .sealed (List.length a1) (clNod a1), .slice .sealed (List.length b2) (clNod b2), .bool at3]) [] = some (ref00_EqNodes_enc a1 b2 at3 r) := by
  unfold ref00_EqNodes_b at h
  refine call_out rfl Tryz.func50 rfl rfl ?_
  refine ev_seq ?_
  refine ev_region ?_
  refine os_pure rfl rfl rfl ?_
  refine os_nil ?_
  refine ev_seq ?_
  refine ev_seq ?_
  refine ev_region ?_
  refine os_pure rfl rfl rfl ?_
  refine os_pure rfl rfl rfl ?_
  refine os_pure rfl rfl rfl ?_
  refine os_pure rfl rfl rfl ?_
  refine os_pure rfl rfl rfl ?_
  refine os_nil ?_
  refine ev_if rfl (fun g1 => ?_) (fun g1 => ?_)
  · replace h := cond_t h g1
    refine ev_seq ?_
    refine ev_region ?_
    refine os_pure rfl rfl rfl ?_
    refine os_nil ?_
    cases h
    exact ev_ret ⟨_, _, _, rfl, rfl, rfl⟩
  · replace h := cond_f h g1
    refine ev_skip ?_
    obtain ⟨y2, g3, h⟩ := bindL_inv h
    refine ev_segL (KR := fun r => OutK env 50 0 Tryz.f50.results.toList (ref00_EqNodes_enc a1 b2 at3 r)) y2 (fun z9 => []) (fun z9 => []) rfl ?_ (fun z9 hx => ?_) (fun r res hz hr hn => ?_)
    · replace h := g3
      clear g3
      refine ev_seq ?_
      refine ev_region ?_
      refine os_pure rfl rfl rfl ?_
      refine os_nil ?_
      refine ev_block ?_
      refine ev_loop rfl ?_
      revert y2
      refine lp_fuel (fun m (x : Int) => ref00_EqNodes_l4 n Φ a1 at3 b2 m x) (fun x => [(0, .slice .sealed (List.length a1) (clNod a1)), (1, .slice .sealed (List.length b2) (clNod b2)), (2, .bool at3), (7, .int .i64 x)]) (fun x => []) _ (fun _ => rfl) (fun m4 x y ih h => ?_) n 0
      obtain ⟨i503, rfl⟩ : ∃ q, q = x := ⟨_, rfl⟩
      show Ev _ _ _ _ _ [(0, .slice .sealed (List.length a1) (clNod a1)), (1, .slice .sealed (List.length b2) (clNod b2)), (2, .bool at3), (7, .int .i64 i503)] [] _
      replace h : ref00_EqNodes_l4 n Φ a1 at3 b2 (m4 + 1) i503 = some y := h
      rw [ref00_EqNodes_l4] at h
      refine ev_seq ?_
      refine ev_seq ?_
      refine ev_region ?_
      refine os_pure rfl rfl rfl ?_
      refine os_pure rfl rfl rfl ?_
      refine os_pure rfl rfl rfl ?_
      refine os_pure rfl rfl rfl ?_
      refine os_nil ?_
      refine ev_if rfl (fun g4 => ?_) (fun g4 => ?_)
      · replace h := cond_t h g4
        refine ev_skip ?_
        refine ev_seq ?_
        refine ev_block ?_
        refine ev_seq ?_
        refine ev_region ?_
        refine os_pure rfl rfl rfl ?_
        refine os_pure rfl rfl rfl ?_
        obtain ⟨x4, g5, h⟩ := bnd_inv h
        obtain ⟨x4_0, x4_1, x4_2, ⟨x4_3, x4_4, x4_5, x4_6⟩, x4_7, x4_8, x4_9⟩ := x4
        refine os_idx encNod g5 rfl rfl rfl rfl rfl rfl rfl rfl ?_
        refine os_loadA (c := [.int .i64 x4_0, .str x4_1, .int .i64 x4_2, .int .i64 x4_3, .str x4_4, .int .i64 x4_5, .slice .sealed (List.length x4_6) (clTyp x4_6), .slice .sealed (List.length x4_7) (clTyp x4_7), .slice .sealed (List.length x4_8) (clNod x4_8), .int .i64 x4_9]) rfl rfl rfl rfl rfl rfl rfl ?_
        refine os_pure rfl rfl rfl ?_
        refine os_pure rfl rfl rfl ?_
        obtain ⟨x5, g6, h⟩ := bnd_inv h
        obtain ⟨x5_0, x5_1, x5_2, ⟨x5_3, x5_4, x5_5, x5_6⟩, x5_7, x5_8, x5_9⟩ := x5
        refine os_idx encNod g6 rfl rfl rfl rfl rfl rfl rfl rfl ?_
        refine os_loadA (c := [.int .i64 x5_0, .str x5_1, .int .i64 x5_2, .int .i64 x5_3, .str x5_4, .int .i64 x5_5, .slice .sealed (List.length x5_6) (clTyp x5_6), .slice .sealed (List.length x5_7) (clTyp x5_7), .slice .sealed (List.length x5_8) (clNod x5_8), .int .i64 x5_9]) rfl rfl rfl rfl rfl rfl rfl ?_
        refine os_pure rfl rfl rfl ?_
        obtain ⟨r6, g7, h⟩ := bnd_inv h
        refine os_quiet rfl rfl rfl rfl rfl (hΦ.ref00_EqNode g7) rfl ?_
        refine os_pure rfl rfl rfl ?_
        refine os_nil ?_
        refine ev_if rfl (fun g8 => ?_) (fun g8 => ?_)
        · replace h := cond_t h g8
          refine ev_seq ?_
          refine ev_region ?_
          refine os_pure rfl rfl rfl ?_
          refine os_nil ?_
          cases h
          exact ev_ret ⟨_, rfl, _, _, _, rfl, rfl, rfl⟩
        · replace h := cond_f h g8
          refine ev_skip ?_
          refine ev_region ?_
          refine os_pure rfl rfl rfl ?_
          refine os_pure rfl rfl rfl ?_
          refine os_pure rfl rfl rfl ?_
          refine os_nil ?_
          exact ⟨_, _, rfl, ih _ _ h⟩
      · replace h := cond_f h g4
        refine ev_exit ?_
        cases h
        exact ⟨_, rfl, rfl⟩
    · subst hx
      show Ev _ _ _ _ _ [] [] _
      refine ev_seq ?_
      refine ev_region ?_
      refine os_pure rfl rfl rfl ?_
      refine os_nil ?_
      cases h
      exact ev_ret ⟨_, _, _, rfl, rfl, rfl⟩
    · subst hz
      obtain ⟨e, fr1, H1⟩ := res
      cases e with
      | normal => exact absurd rfl hn
      | ret => cases h; exact hr
      | exit i => exact hr.elim
      | panic v => cases h; exact hr
theorem ref00_EqNode_F.ok : ∀ n, (ref00_EqNode_F.fs n).Ok
  | 0 => ⟨(fun h => by cases h), (fun h => by cases h)⟩
  | n + 1 => ⟨(fun h => ref00_EqNode_b_ok n (ref00_EqNode_F.ok n) h), (fun h => ref00_EqNodes_b_ok n (ref00_EqNode_F.ok n) h)⟩
theorem ref00_EqNode_ok {n : Nat} {a1 : Nod} {b2 : Nod} {at3 : Bool} {r : Bool} (h : ref00_EqNode n a1 b2 at3 = some r) :
    E env (.call 16 [.agg [.int .i64 a1.op, .str a1.s, .int .i64 a1.n, .int .i64 a1.t.kind, .str a1.t.name, .int .i64 a1.t.n, .slice .sealed (List.length a1.t.args) (clTyp a1.t.args), .slice .sealed (List.length a1.ts) (clTyp a1.ts), .slice .sealed (List.length a1.l) (clNod a1.l), .int .i64 a1.at_], .agg [.int .i64 b2.op, .str b2.s, .int .i64 b2.n, .int .i64 b2.t.kind, .str b2.t.name, .int .i64 b2.t.n, .slice .sealed (List.length b2.t.args) (clTyp b2.t.args), .slice .sealed (List.length b2.ts) (clTyp b2.ts), .slice .sealed (List.length b2.l) (clNod b2.l), .int .i64 b2.at_], .bool at3]) [] = some (ref00_EqNode_enc a1 b2 at3 r) := (ref00_EqNode_F.ok n).ref00_EqNode h
theorem ref00_EqNodes_ok {n : Nat} {a1 : List Nod} {b2 : List Nod} {at3 : Bool} {r : Bool} (h : ref00_EqNodes n a1 b2 at3 = some r) :
    E env (.call 50 [.slice .sealed (List.length a1) (clNod a1), .slice .sealed (List.length b2) (clNod b2), .bool at3]) [] = some (ref00_EqNodes_enc a1 b2 at3 r) := (ref00_EqNode_F.ok n).ref00_EqNodes h
theorem ref02_Same_ok {n : Nat} {a1 : Nod} {b2 : Nod} {r : Bool} (h : ref02_Same n a1 b2 = some r) :
    E env (.call 30 [.agg [.int .i64 a1.op, .str a1.s, .int .i64 a1.n, .int .i64 a1.t.kind, .str a1.t.name, .int .i64 a1.t.n, .slice .sealed (List.length a1.t.args) (clTyp a1.t.args), .slice .sealed (List.length a1.ts) (clTyp a1.ts), .slice .sealed (List.length a1.l) (clNod a1.l), .int .i64 a1.at_], .agg [.int .i64 b2.op, .str b2.s, .int .i64 b2.n, .int .i64 b2.t.kind, .str b2.t.name, .int .i64 b2.t.n, .slice .sealed (List.length b2.t.args) (clTyp b2.t.args), .slice .sealed (List.length b2.ts) (clTyp b2.ts), .slice .sealed (List.length b2.l) (clNod b2.l), .int .i64 b2.at_]]) [] = some (ref02_Same_enc a1 b2 r) := by
  unfold ref02_Same at h
  obtain ⟨a1_0, a1_1, a1_2, ⟨a1_3, a1_4, a1_5, a1_6⟩, a1_7, a1_8, a1_9⟩ := a1
  obtain ⟨b2_0, b2_1, b2_2, ⟨b2_3, b2_4, b2_5, b2_6⟩, b2_7, b2_8, b2_9⟩ := b2
  refine call_out rfl Tryz.func30 rfl rfl ?_
  refine ev_seq ?_
  refine ev_region ?_
  refine os_eff rfl rfl rfl ?_
  refine os_eff rfl rfl rfl ?_
  refine os_pure rfl rfl rfl ?_
  refine os_nil ?_
  refine ev_seq ?_
  refine ev_region ?_
  refine os_eff rfl rfl rfl ?_
  refine os_eff rfl rfl rfl ?_
  obtain ⟨r3, g1, h⟩ := bnd_inv h
  refine os_quiet rfl rfl rfl rfl rfl (ref00_EqNode_ok g1) rfl ?_
  refine os_pure rfl rfl rfl ?_
  refine os_nil ?_
  cases h
  exact ev_ret ⟨_, _, _, rfl, rfl, rfl⟩
theorem law02_ParseSame_ok {n : Nat} {a1 : Nod} {b2 : Nod} {r : Bool} (h : law02_ParseSame n a1 b2 = some r) :
    E env (.call 6 [.agg [.int .i64 a1.op, .str a1.s, .int .i64 a1.n, .int .i64 a1.t.kind, .str a1.t.name, .int .i64 a1.t.n, .slice .sealed (List.length a1.t.args) (clTyp a1.t.args), .slice .sealed (List.length a1.ts) (clTyp a1.ts), .slice .sealed (List.length a1.l) (clNod a1.l), .int .i64 a1.at_], .agg [.int .i64 b2.op, .str b2.s, .int .i64 b2.n, .int .i64 b2.t.kind, .str b2.t.name, .int .i64 b2.t.n, .slice .sealed (List.length b2.t.args) (clTyp b2.t.args), .slice .sealed (List.length b2.ts) (clTyp b2.ts), .slice .sealed (List.length b2.l) (clNod b2.l), .int .i64 b2.at_]]) [] = some (law02_ParseSame_enc a1 b2 r) := by
  unfold law02_ParseSame at h
  obtain ⟨a1_0, a1_1, a1_2, ⟨a1_3, a1_4, a1_5, a1_6⟩, a1_7, a1_8, a1_9⟩ := a1
  obtain ⟨b2_0, b2_1, b2_2, ⟨b2_3, b2_4, b2_5, b2_6⟩, b2_7, b2_8, b2_9⟩ := b2
  refine call_out rfl Tryz.func6 rfl rfl ?_
  refine ev_seq ?_
  refine ev_region ?_
  refine os_eff rfl rfl rfl ?_
  refine os_eff rfl rfl rfl ?_
  refine os_pure rfl rfl rfl ?_
  refine os_nil ?_
  refine ev_seq ?_
  obtain ⟨y1, g2, h⟩ := bnd_inv h
  refine ev_seg [(2, .ptr 0 0), (3, .ptr 1 0), (11, .bool y1)] [(0, .row [.int .i64 a1_0, .str a1_1, .int .i64 a1_2, .int .i64 a1_3, .str a1_4, .int .i64 a1_5, .slice .sealed (List.length a1_6) (clTyp a1_6), .slice .sealed (List.length a1_7) (clTyp a1_7), .slice .sealed (List.length a1_8) (clNod a1_8), .int .i64 a1_9]), (1, .row [.int .i64 b2_0, .str b2_1, .int .i64 b2_2, .int .i64 b2_3, .str b2_4, .int .i64 b2_5, .slice .sealed (List.length b2_6) (clTyp b2_6), .slice .sealed (List.length b2_7) (clTyp b2_7), .slice .sealed (List.length b2_8) (clNod b2_8), .int .i64 b2_9])] rfl ?_ ?_
  · replace h := g2
    clear g2
    refine ev_region ?_
    refine os_eff rfl rfl rfl ?_
    obtain ⟨r3, g3, h⟩ := bnd_inv h
    refine os_quiet rfl rfl rfl rfl rfl (law02_big_ok g3) rfl ?_
    refine os_pure rfl rfl rfl ?_
    refine os_guard rfl rfl rfl (fun g4 => ?_) (fun g4 => ?_)
    · replace h := cond_t h g4
      refine os_skip rfl ?_
      refine os_skip rfl ?_
      refine os_pure rfl rfl rfl ?_
      refine os_nil ?_
      cases h
      exact rfl
    · replace h := cond_f h g4
      refine os_eff rfl rfl rfl ?_
      obtain ⟨r4, g5, h⟩ := bnd_inv h
      refine os_quiet rfl rfl rfl rfl rfl (law02_big_ok g5) rfl ?_
      refine os_pure rfl rfl rfl ?_
      refine os_nil ?_
      cases h
      exact rfl
  · obtain ⟨x504, rfl⟩ : ∃ q, q = y1 := ⟨_, rfl⟩
    show Ev _ _ _ _ _ [(2, .ptr 0 0), (3, .ptr 1 0), (11, .bool x504)] [(0, .row [.int .i64 a1_0, .str a1_1, .int .i64 a1_2, .int .i64 a1_3, .str a1_4, .int .i64 a1_5, .slice .sealed (List.length a1_6) (clTyp a1_6), .slice .sealed (List.length a1_7) (clTyp a1_7), .slice .sealed (List.length a1_8) (clNod a1_8), .int .i64 a1_9]), (1, .row [.int .i64 b2_0, .str b2_1, .int .i64 b2_2, .int .i64 b2_3, .str b2_4, .int .i64 b2_5, .slice .sealed (List.length b2_6) (clTyp b2_6), .slice .sealed (List.length b2_7) (clTyp b2_7), .slice .sealed (List.length b2_8) (clNod b2_8), .int .i64 b2_9])] _
    refine ev_if rfl (fun g6 => ?_) (fun g6 => ?_)
    · replace h := cond_t h g6
      refine ev_seq ?_
      refine ev_region ?_
      obtain ⟨r5, g7, h⟩ := bnd_inv h
      refine os_quiet rfl rfl rfl rfl rfl (law02_awake_ok g7) rfl ?_
      refine os_pure rfl rfl rfl ?_
      refine os_nil ?_
      cases h
      exact ev_ret ⟨_, _, _, rfl, rfl, rfl⟩
    · replace h := cond_f h g6
      refine ev_skip ?_
      refine ev_seq ?_
      refine ev_region ?_
      refine os_eff rfl rfl rfl ?_
      obtain ⟨mm6, g8, h⟩ := bnd_inv h
      obtain ⟨mm6_0, mm6_1, mm6_2, ⟨mm6_3, mm6_4, mm6_5, mm6_6⟩, mm6_7, mm6_8, mm6_9⟩ := mm6
      refine os_quiet rfl rfl rfl rfl rfl (movedG_ok g8) rfl ?_
      refine os_eff rfl rfl rfl ?_
      refine os_eff rfl rfl rfl ?_
      refine os_nil ?_
      refine ev_seq ?_
      refine ev_region ?_
      refine os_eff rfl rfl rfl ?_
      refine os_eff rfl rfl rfl ?_
      obtain ⟨r7, g9, h⟩ := bnd_inv h
      refine os_quiet rfl rfl rfl rfl rfl (parse_Same_ok g9) rfl ?_
      refine os_eff rfl rfl rfl ?_
      refine os_eff rfl rfl rfl ?_
      obtain ⟨r8, g10, h⟩ := bnd_inv h
      refine os_quiet rfl rfl rfl rfl rfl (ref02_Same_ok g10) rfl ?_
      refine os_pure rfl rfl rfl ?_
      refine os_pure rfl rfl rfl ?_
      refine os_guard rfl rfl rfl (fun g11 => ?_) (fun g11 => ?_)
      · replace h := cond_t h g11
        refine os_eff rfl rfl rfl ?_
        refine os_eff rfl rfl rfl ?_
        obtain ⟨r9, g12, h⟩ := bnd_inv h
        refine os_quiet rfl rfl rfl rfl rfl (parse_Same_ok g12) rfl ?_
        refine os_pure rfl rfl rfl ?_
        refine os_pure rfl rfl rfl ?_
        refine os_guard rfl rfl rfl (fun g13 => ?_) (fun g13 => ?_)
        · replace h := cond_t h g13
          refine os_eff rfl rfl rfl ?_
          refine os_eff rfl rfl rfl ?_
          obtain ⟨r10, g14, h⟩ := bnd_inv h
          refine os_quiet rfl rfl rfl rfl rfl (parse_Same_ok g14) rfl ?_
          refine os_pure rfl rfl rfl ?_
          refine os_pure rfl rfl rfl ?_
          refine os_guard rfl rfl rfl (fun g15 => ?_) (fun g15 => ?_)
          · replace h := cond_t h g15
            obtain ⟨r11, g16, h⟩ := bnd_inv h
            refine os_quiet rfl rfl rfl rfl rfl (law02_awake_ok g16) rfl ?_
            refine os_pure rfl rfl rfl ?_
            refine os_pure rfl rfl rfl ?_
            refine os_nil ?_
            cases h
            exact ev_ret ⟨_, _, _, rfl, rfl, rfl⟩
          · replace h := cond_f h g15
            refine os_skip rfl ?_
            refine os_pure rfl rfl rfl ?_
            refine os_pure rfl rfl rfl ?_
            refine os_nil ?_
            cases h
            exact ev_ret ⟨_, _, _, rfl, rfl, rfl⟩
        · replace h := cond_f h g13
          refine os_skip rfl ?_
          refine os_skip rfl ?_
          refine os_skip rfl ?_
          refine os_pure rfl rfl rfl ?_
          refine os_pure rfl rfl rfl ?_
          refine os_skip rfl ?_
          refine os_pure rfl rfl rfl ?_
          refine os_pure rfl rfl rfl ?_
          refine os_nil ?_
          cases h
          exact ev_ret ⟨_, _, _, rfl, rfl, rfl⟩
      · replace h := cond_f h g11
        refine os_skip rfl ?_
        refine os_skip rfl ?_
        refine os_skip rfl ?_
        refine os_pure rfl rfl rfl ?_
        refine os_pure rfl rfl rfl ?_
        refine os_skip rfl ?_
        refine os_skip rfl ?_
        refine os_skip rfl ?_
        refine os_pure rfl rfl rfl ?_
        refine os_pure rfl rfl rfl ?_
        refine os_skip rfl ?_
        refine os_pure rfl rfl rfl ?_
        refine os_pure rfl rfl rfl ?_
        refine os_nil ?_
        cases h
        exact ev_ret ⟨_, _, _, rfl, rfl, rfl⟩
end Go.Proofs.YtmonfppdiehlpaaGreatDoor
/- ParseSame: what the evaluator gives is true, for all nodes that fit. -/
namespace Go.Proofs.YtmonfppdiehlpaaGreatDoor
set_option linter.unusedSimpArgs false
set_option linter.unusedVariables false
set_option linter.unusedSectionVars false
open Go Go.Vm
theorem same_E (x y : Nod) (hx : x.fits) (hy : y.fits) : E env (.call 6 [.agg (c1Nod x), .agg (c1Nod y)]) [] = some (.ret (.bool true) []) := by
  obtain ⟨n, hn⟩ := same_true x y hx hy
  exact law02_ParseSame_ok hn
end Go.Proofs.YtmonfppdiehlpaaGreatDoor
