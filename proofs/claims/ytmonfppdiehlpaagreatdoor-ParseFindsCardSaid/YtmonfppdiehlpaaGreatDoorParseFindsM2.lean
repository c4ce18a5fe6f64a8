/- What the functions under ParseFinds compute: texts that were built one by one, joined: FP1 FP2 FY. -/
import Derived.Test.YtmonfppdiehlpaaGreatDoorParseFindsM1
/- The functions do what the plain Lean says. (Printed by a program.) -/
namespace Go.Proofs.YtmonfppdiehlpaaGreatDoor
set_option linter.unusedSimpArgs false
set_option linter.unusedVariables false
set_option linter.unusedSectionVars false
open Go Go.Vm
set_option maxRecDepth 100000
set_option maxHeartbeats 20000000
set_option linter.unusedVariables false
structure ref02_Bulk_F.Ok (Φ : ref02_Bulk_F) : Prop where
  ref02_Bulk : ∀ {n1 : Nod} {most2 : Int} {r : Int}, Φ.ref02_Bulk n1 most2 = some r → E env (.call 52 [.agg [.int .i64 n1.op, .str n1.s, .int .i64 n1.n, .int .i64 n1.t.kind, .str n1.t.name, .int .i64 n1.t.n, .slice .sealed (List.length n1.t.args) (clTyp n1.t.args), .slice .sealed (List.length n1.ts) (clTyp n1.ts), .slice .sealed (List.length n1.l) (clNod n1.l), .int .i64 n1.at_], .int .i64 most2]) [] = some (ref02_Bulk_enc n1 most2 r)
theorem ref02_Bulk_b_ok (n : Nat) {Φ : ref02_Bulk_F} (hΦ : Φ.Ok) {n1 : Nod} {most2 : Int} {r : Int} (h : ref02_Bulk_b n Φ n1 most2 = some r) :
    E env (.call 52 [.agg [.int .i64 n1.op, .str n1.s, .int .i64 n1.n, .int .i64 n1.t.kind, .str n1.t.name, .int .i64 n1.t.n, .slice .sealed (List.length n1.t.args) (clTyp n1.t.args), .slice .sealed (List.length n1.ts) (clTyp n1.ts), .slice .sealed (List.length n1.l) (clNod n1.l), .int .i64 n1.at_], .int .i64 most2]) [] = some (ref02_Bulk_enc n1 most2 r) := by
  unfold ref02_Bulk_b at h
  obtain ⟨n1_0, n1_1, n1_2, ⟨n1_3, n1_4, n1_5, n1_6⟩, n1_7, n1_8, n1_9⟩ := n1
  refine call_out rfl Tryz.func52 rfl rfl ?_
  refine ev_seq ?_
  refine ev_region ?_
  refine os_eff rfl rfl rfl ?_
  refine os_pure rfl rfl rfl ?_
  refine os_nil ?_
  refine ev_seq ?_
  refine ev_region ?_
  refine os_pure rfl rfl rfl ?_
  refine os_eff rfl rfl rfl ?_
  refine os_pure rfl rfl rfl ?_
  refine os_pure rfl rfl rfl ?_
  refine os_eff rfl rfl rfl ?_
  refine os_pure rfl rfl rfl ?_
  obtain ⟨r3, g1, h⟩ := bnd_inv h
  refine os_quiet rfl rfl rfl rfl rfl (ref02_bulk_ok g1) rfl ?_
  refine os_pure rfl rfl rfl ?_
  refine os_pure rfl rfl rfl ?_
  refine os_nil ?_
  obtain ⟨y2, g3, h⟩ := bnd_inv h
  refine ev_seg [(1, .int .i64 most2), (2, .ptr 0 0), (5, .int .i64 y2)] [(0, .row [.int .i64 n1_0, .str n1_1, .int .i64 n1_2, .int .i64 n1_3, .str n1_4, .int .i64 n1_5, .slice .sealed (List.length n1_6) (clTyp n1_6), .slice .sealed (List.length n1_7) (clTyp n1_7), .slice .sealed (List.length n1_8) (clNod n1_8), .int .i64 n1_9])] rfl ?_ ?_
  · replace h := g3
    clear g3
    refine ev_seq ?_
    refine ev_region ?_
    refine os_pure rfl rfl rfl ?_
    refine os_nil ?_
    refine ev_block ?_
    refine ev_loop rfl ?_
    revert y2
    refine lp_fuel (fun m (x : Int × Int) => ref02_Bulk_l3 n Φ most2 (Nod.mk n1_0 n1_1 n1_2 (Typ.mk n1_3 n1_4 n1_5 n1_6) n1_7 n1_8 n1_9) m x.1 x.2) (fun x => [(1, .int .i64 most2), (2, .ptr 0 0), (5, .int .i64 x.1), (6, .int .i64 x.2)]) (fun x => [(0, .row [.int .i64 n1_0, .str n1_1, .int .i64 n1_2, .int .i64 n1_3, .str n1_4, .int .i64 n1_5, .slice .sealed (List.length n1_6) (clTyp n1_6), .slice .sealed (List.length n1_7) (clTyp n1_7), .slice .sealed (List.length n1_8) (clNod n1_8), .int .i64 n1_9])]) _ (fun _ => rfl) (fun m3 x y ih h => ?_) n ((w64 ((List.length n1_1 : Int) + r3)), 0)
    obtain ⟨k502, i503⟩ := x
    show Ev _ _ _ _ _ [(1, .int .i64 most2), (2, .ptr 0 0), (5, .int .i64 k502), (6, .int .i64 i503)] [(0, .row [.int .i64 n1_0, .str n1_1, .int .i64 n1_2, .int .i64 n1_3, .str n1_4, .int .i64 n1_5, .slice .sealed (List.length n1_6) (clTyp n1_6), .slice .sealed (List.length n1_7) (clTyp n1_7), .slice .sealed (List.length n1_8) (clNod n1_8), .int .i64 n1_9])] _
    replace h : ref02_Bulk_l3 n Φ most2 (Nod.mk n1_0 n1_1 n1_2 (Typ.mk n1_3 n1_4 n1_5 n1_6) n1_7 n1_8 n1_9) (m3 + 1) k502 i503 = some y := h
    rw [ref02_Bulk_l3] at h
    refine ev_seq ?_
    obtain ⟨y4, g5, h⟩ := bnd_inv h
    refine ev_seg [(1, .int .i64 most2), (2, .ptr 0 0), (5, .int .i64 k502), (6, .int .i64 i503), (25, .bool y4)] [(0, .row [.int .i64 n1_0, .str n1_1, .int .i64 n1_2, .int .i64 n1_3, .str n1_4, .int .i64 n1_5, .slice .sealed (List.length n1_6) (clTyp n1_6), .slice .sealed (List.length n1_7) (clTyp n1_7), .slice .sealed (List.length n1_8) (clNod n1_8), .int .i64 n1_9])] rfl ?_ ?_
    · replace h := g5
      clear g5
      refine ev_region ?_
      refine os_pure rfl rfl rfl ?_
      refine os_pure rfl rfl rfl ?_
      refine os_eff rfl rfl rfl ?_
      refine os_pure rfl rfl rfl ?_
      refine os_pure rfl rfl rfl ?_
      refine os_pure rfl rfl rfl ?_
      refine os_guard rfl rfl rfl (fun g6 => ?_) (fun g6 => ?_)
      · replace h := cond_t h g6
        refine os_pure rfl rfl rfl ?_
        refine os_pure rfl rfl rfl ?_
        refine os_pure rfl rfl rfl ?_
        refine os_pure rfl rfl rfl ?_
        refine os_nil ?_
        cases h
        exact rfl
      · replace h := cond_f h g6
        refine os_skip rfl ?_
        refine os_skip rfl ?_
        refine os_skip rfl ?_
        refine os_pure rfl rfl rfl ?_
        refine os_nil ?_
        cases h
        exact rfl
    · obtain ⟨x506, rfl⟩ : ∃ q, q = y4 := ⟨_, rfl⟩
      show Ev _ _ _ _ _ [(1, .int .i64 most2), (2, .ptr 0 0), (5, .int .i64 k502), (6, .int .i64 i503), (25, .bool x506)] [(0, .row [.int .i64 n1_0, .str n1_1, .int .i64 n1_2, .int .i64 n1_3, .str n1_4, .int .i64 n1_5, .slice .sealed (List.length n1_6) (clTyp n1_6), .slice .sealed (List.length n1_7) (clTyp n1_7), .slice .sealed (List.length n1_8) (clNod n1_8), .int .i64 n1_9])] _
      refine ev_if rfl (fun g7 => ?_) (fun g7 => ?_)
      · replace h := cond_t h g7
        refine ev_skip ?_
        refine ev_seq ?_
        refine ev_block ?_
        refine ev_region ?_
        refine os_pure rfl rfl rfl ?_
        refine os_pure rfl rfl rfl ?_
        refine os_eff rfl rfl rfl ?_
        refine os_pure rfl rfl rfl ?_
        obtain ⟨x4, g8, h⟩ := bnd_inv h
        obtain ⟨x4_0, x4_1, x4_2, x4_3⟩ := x4
        refine os_idx encTyp g8 rfl rfl rfl rfl rfl rfl rfl rfl ?_
        refine os_loadA (c := [.int .i64 x4_0, .str x4_1, .int .i64 x4_2, .slice .sealed (List.length x4_3) (clTyp x4_3)]) rfl rfl rfl rfl rfl rfl rfl ?_
        refine os_pure rfl rfl rfl ?_
        refine os_pure rfl rfl rfl ?_
        refine os_pure rfl rfl rfl ?_
        obtain ⟨r5, g9, h⟩ := bnd_inv h
        refine os_quiet rfl rfl rfl rfl rfl (ref02_bulk_ok g9) rfl ?_
        refine os_pure rfl rfl rfl ?_
        refine os_pure rfl rfl rfl ?_
        refine os_nil ?_
        refine ev_region ?_
        refine os_pure rfl rfl rfl ?_
        refine os_pure rfl rfl rfl ?_
        refine os_pure rfl rfl rfl ?_
        refine os_nil ?_
        exact ⟨_, _, rfl, ih (_, _) _ h⟩
      · replace h := cond_f h g7
        refine ev_exit ?_
        cases h
        exact rfl
  · obtain ⟨k509, rfl⟩ : ∃ q, q = y2 := ⟨_, rfl⟩
    show Ev _ _ _ _ _ [(1, .int .i64 most2), (2, .ptr 0 0), (5, .int .i64 k509)] [(0, .row [.int .i64 n1_0, .str n1_1, .int .i64 n1_2, .int .i64 n1_3, .str n1_4, .int .i64 n1_5, .slice .sealed (List.length n1_6) (clTyp n1_6), .slice .sealed (List.length n1_7) (clTyp n1_7), .slice .sealed (List.length n1_8) (clNod n1_8), .int .i64 n1_9])] _
    obtain ⟨y10, g11, h⟩ := bnd_inv h
    refine ev_seg [(5, .int .i64 y10)] [] rfl ?_ ?_
    · replace h := g11
      clear g11
      refine ev_seq ?_
      refine ev_region ?_
      refine os_pure rfl rfl rfl ?_
      refine os_nil ?_
      refine ev_block ?_
      refine ev_loop rfl ?_
      revert y10
      refine lp_fuel (fun m (x : Int × Int) => ref02_Bulk_l7 n Φ most2 (Nod.mk n1_0 n1_1 n1_2 (Typ.mk n1_3 n1_4 n1_5 n1_6) n1_7 n1_8 n1_9) m x.1 x.2) (fun x => [(1, .int .i64 most2), (2, .ptr 0 0), (5, .int .i64 x.1), (7, .int .i64 x.2)]) (fun x => [(0, .row [.int .i64 n1_0, .str n1_1, .int .i64 n1_2, .int .i64 n1_3, .str n1_4, .int .i64 n1_5, .slice .sealed (List.length n1_6) (clTyp n1_6), .slice .sealed (List.length n1_7) (clTyp n1_7), .slice .sealed (List.length n1_8) (clNod n1_8), .int .i64 n1_9])]) _ (fun _ => rfl) (fun m7 x y ih h => ?_) n (k509, 0)
      obtain ⟨k517, i518⟩ := x
      show Ev _ _ _ _ _ [(1, .int .i64 most2), (2, .ptr 0 0), (5, .int .i64 k517), (7, .int .i64 i518)] [(0, .row [.int .i64 n1_0, .str n1_1, .int .i64 n1_2, .int .i64 n1_3, .str n1_4, .int .i64 n1_5, .slice .sealed (List.length n1_6) (clTyp n1_6), .slice .sealed (List.length n1_7) (clTyp n1_7), .slice .sealed (List.length n1_8) (clNod n1_8), .int .i64 n1_9])] _
      replace h : ref02_Bulk_l7 n Φ most2 (Nod.mk n1_0 n1_1 n1_2 (Typ.mk n1_3 n1_4 n1_5 n1_6) n1_7 n1_8 n1_9) (m7 + 1) k517 i518 = some y := h
      rw [ref02_Bulk_l7] at h
      refine ev_seq ?_
      obtain ⟨y12, g13, h⟩ := bnd_inv h
      refine ev_seg [(1, .int .i64 most2), (2, .ptr 0 0), (5, .int .i64 k517), (7, .int .i64 i518), (48, .bool y12)] [(0, .row [.int .i64 n1_0, .str n1_1, .int .i64 n1_2, .int .i64 n1_3, .str n1_4, .int .i64 n1_5, .slice .sealed (List.length n1_6) (clTyp n1_6), .slice .sealed (List.length n1_7) (clTyp n1_7), .slice .sealed (List.length n1_8) (clNod n1_8), .int .i64 n1_9])] rfl ?_ ?_
      · replace h := g13
        clear g13
        refine ev_region ?_
        refine os_pure rfl rfl rfl ?_
        refine os_pure rfl rfl rfl ?_
        refine os_eff rfl rfl rfl ?_
        refine os_pure rfl rfl rfl ?_
        refine os_pure rfl rfl rfl ?_
        refine os_pure rfl rfl rfl ?_
        refine os_guard rfl rfl rfl (fun g14 => ?_) (fun g14 => ?_)
        · replace h := cond_t h g14
          refine os_pure rfl rfl rfl ?_
          refine os_pure rfl rfl rfl ?_
          refine os_pure rfl rfl rfl ?_
          refine os_pure rfl rfl rfl ?_
          refine os_nil ?_
          cases h
          exact rfl
        · replace h := cond_f h g14
          refine os_skip rfl ?_
          refine os_skip rfl ?_
          refine os_skip rfl ?_
          refine os_pure rfl rfl rfl ?_
          refine os_nil ?_
          cases h
          exact rfl
      · obtain ⟨x526, rfl⟩ : ∃ q, q = y12 := ⟨_, rfl⟩
        show Ev _ _ _ _ _ [(1, .int .i64 most2), (2, .ptr 0 0), (5, .int .i64 k517), (7, .int .i64 i518), (48, .bool x526)] [(0, .row [.int .i64 n1_0, .str n1_1, .int .i64 n1_2, .int .i64 n1_3, .str n1_4, .int .i64 n1_5, .slice .sealed (List.length n1_6) (clTyp n1_6), .slice .sealed (List.length n1_7) (clTyp n1_7), .slice .sealed (List.length n1_8) (clNod n1_8), .int .i64 n1_9])] _
        refine ev_if rfl (fun g15 => ?_) (fun g15 => ?_)
        · replace h := cond_t h g15
          refine ev_skip ?_
          refine ev_seq ?_
          refine ev_block ?_
          refine ev_region ?_
          refine os_pure rfl rfl rfl ?_
          refine os_pure rfl rfl rfl ?_
          refine os_eff rfl rfl rfl ?_
          refine os_pure rfl rfl rfl ?_
          obtain ⟨x6, g16, h⟩ := bnd_inv h
          obtain ⟨x6_0, x6_1, x6_2, ⟨x6_3, x6_4, x6_5, x6_6⟩, x6_7, x6_8, x6_9⟩ := x6
          refine os_idx encNod g16 rfl rfl rfl rfl rfl rfl rfl rfl ?_
          refine os_loadA (c := [.int .i64 x6_0, .str x6_1, .int .i64 x6_2, .int .i64 x6_3, .str x6_4, .int .i64 x6_5, .slice .sealed (List.length x6_6) (clTyp x6_6), .slice .sealed (List.length x6_7) (clTyp x6_7), .slice .sealed (List.length x6_8) (clNod x6_8), .int .i64 x6_9]) rfl rfl rfl rfl rfl rfl rfl ?_
          refine os_pure rfl rfl rfl ?_
          refine os_pure rfl rfl rfl ?_
          refine os_pure rfl rfl rfl ?_
          obtain ⟨r7, g17, h⟩ := bnd_inv h
          refine os_quiet rfl rfl rfl rfl rfl (hΦ.ref02_Bulk g17) rfl ?_
          refine os_pure rfl rfl rfl ?_
          refine os_pure rfl rfl rfl ?_
          refine os_nil ?_
          refine ev_region ?_
          refine os_pure rfl rfl rfl ?_
          refine os_pure rfl rfl rfl ?_
          refine os_pure rfl rfl rfl ?_
          refine os_nil ?_
          exact ⟨_, _, rfl, ih (_, _) _ h⟩
        · replace h := cond_f h g15
          refine ev_exit ?_
          cases h
          exact rfl
    · obtain ⟨k529, rfl⟩ : ∃ q, q = y10 := ⟨_, rfl⟩
      show Ev _ _ _ _ _ [(5, .int .i64 k529)] [] _
      refine ev_seq ?_
      refine ev_region ?_
      refine os_pure rfl rfl rfl ?_
      refine os_pure rfl rfl rfl ?_
      refine os_nil ?_
      cases h
      exact ev_ret ⟨_, _, _, rfl, rfl, rfl⟩
theorem ref02_Bulk_F.ok : ∀ n, (ref02_Bulk_F.fs n).Ok
  | 0 => ⟨(fun h => by cases h)⟩
  | n + 1 => ⟨(fun h => ref02_Bulk_b_ok n (ref02_Bulk_F.ok n) h)⟩
theorem ref02_Bulk_ok {n : Nat} {n1 : Nod} {most2 : Int} {r : Int} (h : ref02_Bulk n n1 most2 = some r) :
    E env (.call 52 [.agg [.int .i64 n1.op, .str n1.s, .int .i64 n1.n, .int .i64 n1.t.kind, .str n1.t.name, .int .i64 n1.t.n, .slice .sealed (List.length n1.t.args) (clTyp n1.t.args), .slice .sealed (List.length n1.ts) (clTyp n1.ts), .slice .sealed (List.length n1.l) (clNod n1.l), .int .i64 n1.at_], .int .i64 most2]) [] = some (ref02_Bulk_enc n1 most2 r) := (ref02_Bulk_F.ok n).ref02_Bulk h
theorem law02_big_ok {n : Nat} {n1 : Nod} {r : Bool} (h : law02_big n n1 = some r) :
    E env (.call 17 [.agg [.int .i64 n1.op, .str n1.s, .int .i64 n1.n, .int .i64 n1.t.kind, .str n1.t.name, .int .i64 n1.t.n, .slice .sealed (List.length n1.t.args) (clTyp n1.t.args), .slice .sealed (List.length n1.ts) (clTyp n1.ts), .slice .sealed (List.length n1.l) (clNod n1.l), .int .i64 n1.at_]]) [] = some (law02_big_enc n1 r) := by
  unfold law02_big at h
  obtain ⟨n1_0, n1_1, n1_2, ⟨n1_3, n1_4, n1_5, n1_6⟩, n1_7, n1_8, n1_9⟩ := n1
  refine call_out rfl Tryz.func17 rfl rfl ?_
  refine ev_seq ?_
  refine ev_region ?_
  refine os_eff rfl rfl rfl ?_
  refine os_pure rfl rfl rfl ?_
  refine os_nil ?_
  refine ev_seq ?_
  refine ev_region ?_
  refine os_eff rfl rfl rfl ?_
  obtain ⟨r2, g1, h⟩ := bnd_inv h
  refine os_quiet rfl rfl rfl rfl rfl (ref00_Nodes_ok g1) rfl ?_
  refine os_pure rfl rfl rfl ?_
  refine os_pure rfl rfl rfl ?_
  refine os_guard rfl rfl rfl (fun g2 => ?_) (fun g2 => ?_)
  · replace h := cond_t h g2
    refine os_skip rfl ?_
    refine os_skip rfl ?_
    refine os_skip rfl ?_
    refine os_pure rfl rfl rfl ?_
    refine os_pure rfl rfl rfl ?_
    refine os_nil ?_
    cases h
    exact ev_ret ⟨_, _, _, rfl, rfl, rfl⟩
  · replace h := cond_f h g2
    refine os_eff rfl rfl rfl ?_
    obtain ⟨r3, g3, h⟩ := bnd_inv h
    refine os_quiet rfl rfl rfl rfl rfl (ref02_Bulk_ok g3) rfl ?_
    refine os_pure rfl rfl rfl ?_
    refine os_pure rfl rfl rfl ?_
    refine os_pure rfl rfl rfl ?_
    refine os_nil ?_
    cases h
    exact ev_ret ⟨_, _, _, rfl, rfl, rfl⟩
structure parse_Size_F.Ok (Φ : parse_Size_F) : Prop where
  parse_Size : ∀ {n1 : Nod} {r : Int × Int}, Φ.parse_Size n1 = some r → E env (.call 31 [.agg [.int .i64 n1.op, .str n1.s, .int .i64 n1.n, .int .i64 n1.t.kind, .str n1.t.name, .int .i64 n1.t.n, .slice .sealed (List.length n1.t.args) (clTyp n1.t.args), .slice .sealed (List.length n1.ts) (clTyp n1.ts), .slice .sealed (List.length n1.l) (clNod n1.l), .int .i64 n1.at_]]) [] = some (parse_Size_enc n1 r)
theorem parse_Size_b_ok (n : Nat) {Φ : parse_Size_F} (hΦ : Φ.Ok) {n1 : Nod} {r : Int × Int} (h : parse_Size_b n Φ n1 = some r) :
    E env (.call 31 [.agg [.int .i64 n1.op, .str n1.s, .int .i64 n1.n, .int .i64 n1.t.kind, .str n1.t.name, .int .i64 n1.t.n, .slice .sealed (List.length n1.t.args) (clTyp n1.t.args), .slice .sealed (List.length n1.ts) (clTyp n1.ts), .slice .sealed (List.length n1.l) (clNod n1.l), .int .i64 n1.at_]]) [] = some (parse_Size_enc n1 r) := by
  unfold parse_Size_b at h
  obtain ⟨n1_0, n1_1, n1_2, ⟨n1_3, n1_4, n1_5, n1_6⟩, n1_7, n1_8, n1_9⟩ := n1
  refine call_out rfl Tryz.func31 rfl rfl ?_
  refine ev_seq ?_
  refine ev_region ?_
  refine os_eff rfl rfl rfl ?_
  refine os_pure rfl rfl rfl ?_
  refine os_pure rfl rfl rfl ?_
  refine os_nil ?_
  refine ev_seq ?_
  refine ev_region ?_
  refine os_pure rfl rfl rfl ?_
  refine os_nil ?_
  obtain ⟨y1, g2, h⟩ := bnd_inv h
  refine ev_seg [(2, .int .i64 y1.1), (3, .int .i64 y1.2)] [] rfl ?_ ?_
  · replace h := g2
    clear g2
    refine ev_seq ?_
    refine ev_region ?_
    refine os_pure rfl rfl rfl ?_
    refine os_eff rfl rfl rfl ?_
    refine os_pure rfl rfl rfl ?_
    refine os_pure rfl rfl rfl ?_
    refine os_nil ?_
    refine ev_block ?_
    refine ev_loop rfl ?_
    revert y1
    refine lp_fuel (fun m (x : Int × Int × Int) => parse_Size_l3 n Φ (Nod.mk n1_0 n1_1 n1_2 (Typ.mk n1_3 n1_4 n1_5 n1_6) n1_7 n1_8 n1_9) m x.1 x.2.1 x.2.2) (fun x => [(2, .int .i64 x.1), (3, .int .i64 x.2.1), (9, .slice .sealed (List.length n1_8) (clNod n1_8)), (10, .int .i64 (List.length n1_8 : Int)), (11, .int .i64 x.2.2)]) (fun x => []) _ (fun _ => rfl) (fun m3 x y ih h => ?_) n (1, 0, 0)
    obtain ⟨nodes501, depth502, x503⟩ := x
    show Ev _ _ _ _ _ [(2, .int .i64 nodes501), (3, .int .i64 depth502), (9, .slice .sealed (List.length n1_8) (clNod n1_8)), (10, .int .i64 (List.length n1_8 : Int)), (11, .int .i64 x503)] [] _
    replace h : parse_Size_l3 n Φ (Nod.mk n1_0 n1_1 n1_2 (Typ.mk n1_3 n1_4 n1_5 n1_6) n1_7 n1_8 n1_9) (m3 + 1) nodes501 depth502 x503 = some y := h
    rw [parse_Size_l3] at h
    refine ev_seq ?_
    refine ev_region ?_
    refine os_pure rfl rfl rfl ?_
    refine os_nil ?_
    refine ev_seq ?_
    refine ev_if rfl (fun g3 => ?_) (fun g3 => ?_)
    · replace h := cond_t h g3
      refine ev_skip ?_
      refine ev_seq ?_
      refine ev_block ?_
      refine ev_seq ?_
      refine ev_region ?_
      obtain ⟨x2, g4, h⟩ := bnd_inv h
      obtain ⟨x2_0, x2_1, x2_2, ⟨x2_3, x2_4, x2_5, x2_6⟩, x2_7, x2_8, x2_9⟩ := x2
      refine os_idx encNod g4 rfl rfl rfl rfl rfl rfl rfl rfl ?_
      refine os_loadA (c := [.int .i64 x2_0, .str x2_1, .int .i64 x2_2, .int .i64 x2_3, .str x2_4, .int .i64 x2_5, .slice .sealed (List.length x2_6) (clTyp x2_6), .slice .sealed (List.length x2_7) (clTyp x2_7), .slice .sealed (List.length x2_8) (clNod x2_8), .int .i64 x2_9]) rfl rfl rfl rfl rfl rfl rfl ?_
      refine os_eff rfl rfl rfl ?_
      refine os_eff rfl rfl rfl ?_
      refine os_nil ?_
      refine ev_seq ?_
      refine ev_region ?_
      refine os_eff rfl rfl rfl ?_
      obtain ⟨⟨r3, r4⟩, g5, h⟩ := bnd_inv h
      refine os_quiet rfl rfl rfl rfl rfl (hΦ.parse_Size g5) rfl ?_
      refine os_pure rfl rfl rfl ?_
      refine os_pure rfl rfl rfl ?_
      refine os_pure rfl rfl rfl ?_
      refine os_pure rfl rfl rfl ?_
      refine os_pure rfl rfl rfl ?_
      refine os_nil ?_
      refine ev_seq ?_
      refine ev_region ?_
      refine os_pure rfl rfl rfl ?_
      refine os_pure rfl rfl rfl ?_
      refine os_pure rfl rfl rfl ?_
      refine os_pure rfl rfl rfl ?_
      refine os_nil ?_
      refine ev_region ?_
      refine os_pure rfl rfl rfl ?_
      refine os_pure rfl rfl rfl ?_
      refine os_pure rfl rfl rfl ?_
      refine os_pure rfl rfl rfl ?_
      refine os_nil ?_
      refine ev_region ?_
      refine os_pure rfl rfl rfl ?_
      refine os_pure rfl rfl rfl ?_
      refine os_nil ?_
      exact ⟨_, _, rfl, ih (_, _, _) _ h⟩
    · replace h := cond_f h g3
      refine ev_exit ?_
      cases h
      exact rfl
  · obtain ⟨nodes510, depth511⟩ := y1
    show Ev _ _ _ _ _ [(2, .int .i64 nodes510), (3, .int .i64 depth511)] [] _
    refine ev_seq ?_
    refine ev_region ?_
    refine os_pure rfl rfl rfl ?_
    refine os_pure rfl rfl rfl ?_
    refine os_pure rfl rfl rfl ?_
    refine os_pure rfl rfl rfl ?_
    refine os_pure rfl rfl rfl ?_
    refine os_nil ?_
    cases h
    exact ev_ret ⟨_, _, _, rfl, rfl, rfl⟩
theorem parse_Size_F.ok : ∀ n, (parse_Size_F.fs n).Ok
  | 0 => ⟨(fun h => by cases h)⟩
  | n + 1 => ⟨(fun h => parse_Size_b_ok n (parse_Size_F.ok n) h)⟩
theorem parse_Size_ok {n : Nat} {n1 : Nod} {r : Int × Int} (h : parse_Size n n1 = some r) :
    E env (.call 31 [.agg [.int .i64 n1.op, .str n1.s, .int .i64 n1.n, .int .i64 n1.t.kind, .str n1.t.name, .int .i64 n1.t.n, .slice .sealed (List.length n1.t.args) (clTyp n1.t.args), .slice .sealed (List.length n1.ts) (clTyp n1.ts), .slice .sealed (List.length n1.l) (clNod n1.l), .int .i64 n1.at_]]) [] = some (parse_Size_enc n1 r) := (parse_Size_F.ok n).parse_Size h
structure ref02_Size_F.Ok (Φ : ref02_Size_F) : Prop where
  ref02_Size : ∀ {n1 : Nod} {r : Int × Int}, Φ.ref02_Size n1 = some r → E env (.call 32 [.agg [.int .i64 n1.op, .str n1.s, .int .i64 n1.n, .int .i64 n1.t.kind, .str n1.t.name, .int .i64 n1.t.n, .slice .sealed (List.length n1.t.args) (clTyp n1.t.args), .slice .sealed (List.length n1.ts) (clTyp n1.ts), .slice .sealed (List.length n1.l) (clNod n1.l), .int .i64 n1.at_]]) [] = some (ref02_Size_enc n1 r)
theorem ref02_Size_b_ok (n : Nat) {Φ : ref02_Size_F} (hΦ : Φ.Ok) {n1 : Nod} {r : Int × Int} (h : ref02_Size_b n Φ n1 = some r) :
    E env (.call 32 [.agg [.int .i64 n1.op, .str n1.s, .int .i64 n1.n, .int .i64 n1.t.kind, .str n1.t.name, .int .i64 n1.t.n, .slice .sealed (List.length n1.t.args) (clTyp n1.t.args), .slice .sealed (List.length n1.ts) (clTyp n1.ts), .slice .sealed (List.length n1.l) (clNod n1.l), .int .i64 n1.at_]]) [] = some (ref02_Size_enc n1 r) := by
  unfold ref02_Size_b at h
  obtain ⟨n1_0, n1_1, n1_2, ⟨n1_3, n1_4, n1_5, n1_6⟩, n1_7, n1_8, n1_9⟩ := n1
  refine call_out rfl Tryz.func32 rfl rfl ?_
  refine ev_seq ?_
  refine ev_region ?_
  refine os_eff rfl rfl rfl ?_
  refine os_pure rfl rfl rfl ?_
  refine os_pure rfl rfl rfl ?_
  refine os_nil ?_
  refine ev_seq ?_
  refine ev_region ?_
  refine os_pure rfl rfl rfl ?_
  refine os_pure rfl rfl rfl ?_
  refine os_nil ?_
  obtain ⟨y1, g2, h⟩ := bnd_inv h
  refine ev_seg [(4, .int .i64 y1.1), (5, .int .i64 y1.2)] [] rfl ?_ ?_
  · replace h := g2
    clear g2
    refine ev_seq ?_
    refine ev_region ?_
    refine os_pure rfl rfl rfl ?_
    refine os_nil ?_
    refine ev_block ?_
    refine ev_loop rfl ?_
    revert y1
    refine lp_fuel (fun m (x : Int × Int × Int) => ref02_Size_l3 n Φ (Nod.mk n1_0 n1_1 n1_2 (Typ.mk n1_3 n1_4 n1_5 n1_6) n1_7 n1_8 n1_9) m x.1 x.2.1 x.2.2) (fun x => [(1, .ptr 0 0), (4, .int .i64 x.1), (5, .int .i64 x.2.1), (6, .int .i64 x.2.2)]) (fun x => [(0, .row [.int .i64 n1_0, .str n1_1, .int .i64 n1_2, .int .i64 n1_3, .str n1_4, .int .i64 n1_5, .slice .sealed (List.length n1_6) (clTyp n1_6), .slice .sealed (List.length n1_7) (clTyp n1_7), .slice .sealed (List.length n1_8) (clNod n1_8), .int .i64 n1_9])]) _ (fun _ => rfl) (fun m3 x y ih h => ?_) n (1, 0, 0)
    obtain ⟨nodes501, deep502, i503⟩ := x
    show Ev _ _ _ _ _ [(1, .ptr 0 0), (4, .int .i64 nodes501), (5, .int .i64 deep502), (6, .int .i64 i503)] [(0, .row [.int .i64 n1_0, .str n1_1, .int .i64 n1_2, .int .i64 n1_3, .str n1_4, .int .i64 n1_5, .slice .sealed (List.length n1_6) (clTyp n1_6), .slice .sealed (List.length n1_7) (clTyp n1_7), .slice .sealed (List.length n1_8) (clNod n1_8), .int .i64 n1_9])] _
    replace h : ref02_Size_l3 n Φ (Nod.mk n1_0 n1_1 n1_2 (Typ.mk n1_3 n1_4 n1_5 n1_6) n1_7 n1_8 n1_9) (m3 + 1) nodes501 deep502 i503 = some y := h
    rw [ref02_Size_l3] at h
    refine ev_seq ?_
    refine ev_seq ?_
    refine ev_region ?_
    refine os_pure rfl rfl rfl ?_
    refine os_pure rfl rfl rfl ?_
    refine os_eff rfl rfl rfl ?_
    refine os_pure rfl rfl rfl ?_
    refine os_pure rfl rfl rfl ?_
    refine os_nil ?_
    refine ev_if rfl (fun g3 => ?_) (fun g3 => ?_)
    · replace h := cond_t h g3
      refine ev_skip ?_
      refine ev_seq ?_
      refine ev_block ?_
      refine ev_seq ?_
      refine ev_region ?_
      refine os_pure rfl rfl rfl ?_
      refine os_eff rfl rfl rfl ?_
      refine os_pure rfl rfl rfl ?_
      obtain ⟨x2, g4, h⟩ := bnd_inv h
      obtain ⟨x2_0, x2_1, x2_2, ⟨x2_3, x2_4, x2_5, x2_6⟩, x2_7, x2_8, x2_9⟩ := x2
      refine os_idx encNod g4 rfl rfl rfl rfl rfl rfl rfl rfl ?_
      refine os_loadA (c := [.int .i64 x2_0, .str x2_1, .int .i64 x2_2, .int .i64 x2_3, .str x2_4, .int .i64 x2_5, .slice .sealed (List.length x2_6) (clTyp x2_6), .slice .sealed (List.length x2_7) (clTyp x2_7), .slice .sealed (List.length x2_8) (clNod x2_8), .int .i64 x2_9]) rfl rfl rfl rfl rfl rfl rfl ?_
      obtain ⟨⟨r3, r4⟩, g5, h⟩ := bnd_inv h
      refine os_quiet rfl rfl rfl rfl rfl (hΦ.ref02_Size g5) rfl ?_
      refine os_pure rfl rfl rfl ?_
      refine os_pure rfl rfl rfl ?_
      refine os_pure rfl rfl rfl ?_
      refine os_pure rfl rfl rfl ?_
      refine os_pure rfl rfl rfl ?_
      refine os_nil ?_
      refine ev_seq ?_
      refine ev_region ?_
      refine os_pure rfl rfl rfl ?_
      refine os_pure rfl rfl rfl ?_
      refine os_pure rfl rfl rfl ?_
      refine os_pure rfl rfl rfl ?_
      refine os_nil ?_
      refine ev_region ?_
      refine os_pure rfl rfl rfl ?_
      refine os_pure rfl rfl rfl ?_
      refine os_pure rfl rfl rfl ?_
      refine os_pure rfl rfl rfl ?_
      refine os_nil ?_
      refine ev_region ?_
      refine os_pure rfl rfl rfl ?_
      refine os_pure rfl rfl rfl ?_
      refine os_pure rfl rfl rfl ?_
      refine os_nil ?_
      exact ⟨_, _, rfl, ih (_, _, _) _ h⟩
    · replace h := cond_f h g3
      refine ev_exit ?_
      cases h
      exact rfl
  · obtain ⟨nodes510, deep511⟩ := y1
    show Ev _ _ _ _ _ [(4, .int .i64 nodes510), (5, .int .i64 deep511)] [] _
    refine ev_seq ?_
    refine ev_region ?_
    refine os_pure rfl rfl rfl ?_
    refine os_pure rfl rfl rfl ?_
    refine os_pure rfl rfl rfl ?_
    refine os_pure rfl rfl rfl ?_
    refine os_pure rfl rfl rfl ?_
    refine os_nil ?_
    cases h
    exact ev_ret ⟨_, _, _, rfl, rfl, rfl⟩
theorem ref02_Size_F.ok : ∀ n, (ref02_Size_F.fs n).Ok
  | 0 => ⟨(fun h => by cases h)⟩
  | n + 1 => ⟨(fun h => ref02_Size_b_ok n (ref02_Size_F.ok n) h)⟩
theorem ref02_Size_ok {n : Nat} {n1 : Nod} {r : Int × Int} (h : ref02_Size n n1 = some r) :
    E env (.call 32 [.agg [.int .i64 n1.op, .str n1.s, .int .i64 n1.n, .int .i64 n1.t.kind, .str n1.t.name, .int .i64 n1.t.n, .slice .sealed (List.length n1.t.args) (clTyp n1.t.args), .slice .sealed (List.length n1.ts) (clTyp n1.ts), .slice .sealed (List.length n1.l) (clNod n1.l), .int .i64 n1.at_]]) [] = some (ref02_Size_enc n1 r) := (ref02_Size_F.ok n).ref02_Size h
structure parse_Find_c1_v2_F.Ok (Φ : parse_Find_c1_v2_F) : Prop where
  parse_Find_c1_v2 : ∀ {n1 : Nod} {depth2 : Int} {v3 : Int} {v4 : Int} {op5 : Int} {s6 : Str} {n7 : Int} {kind8 : Int} {name9 : Str} {n10 : Int} {args11 : List Typ} {ts12 : List Typ} {l13 : List Nod} {at14 : Int} {r : Int × Nod}, Φ.parse_Find_c1_v2 n1 depth2 v3 v4 op5 s6 n7 kind8 name9 n10 args11 ts12 l13 at14 = some r → E env (.call 73 [.agg [.int .i64 n1.op, .str n1.s, .int .i64 n1.n, .int .i64 n1.t.kind, .str n1.t.name, .int .i64 n1.t.n, .slice .sealed (List.length n1.t.args) (clTyp n1.t.args), .slice .sealed (List.length n1.ts) (clTyp n1.ts), .slice .sealed (List.length n1.l) (clNod n1.l), .int .i64 n1.at_], .int .i64 depth2, .ptr 0 0, .ptr 1 0, .ptr 2 0, .ptr 3 0]) [(0, .row [.int .i64 v3]), (1, .row [.int .i64 v4]), (2, .row [.int .i64 op5, .str s6, .int .i64 n7, .int .i64 kind8, .str name9, .int .i64 n10, .slice .sealed (List.length args11) (clTyp args11), .slice .sealed (List.length ts12) (clTyp ts12), .slice .sealed (List.length l13) (clNod l13), .int .i64 at14]), (3, .row [.func (.func 73) [] [.ptr 0 0, .ptr 1 0, .ptr 2 0, .ptr 3 0]])] = some (parse_Find_c1_v2_enc n1 depth2 v3 v4 op5 s6 n7 kind8 name9 n10 args11 ts12 l13 at14 r)
theorem parse_Find_c1_v2_b_ok (n : Nat) {Φ : parse_Find_c1_v2_F} (hΦ : Φ.Ok) {n1 : Nod} {depth2 : Int} {v3 : Int} {v4 : Int} {op5 : Int} {s6 : Str} {n7 : Int} {kind8 : Int} {name9 : Str} {n10 : Int} {args11 : List Typ} {ts12 : List Typ} {l13 : List Nod} {at14 : Int} {r : Int × Nod} (h : parse_Find_c1_v2_b n Φ n1 depth2 v3 v4 op5 s6 n7 kind8 name9 n10 args11 ts12 l13 at14 = some r) :
    E env (.call 73 [.agg [.int .i64 n1.op, .str n1.s, .int .i64 n1.n, .int .i64 n1.t.kind, .str n1.t.name, .int .i64 n1.t.n, .slice .sealed (List.length n1.t.args) (clTyp n1.t.args), .slice .sealed (List.length n1.ts) (clTyp n1.ts), .slice .sealed (List.length n1.l) (clNod n1.l), .int .i64 n1.at_], .int .i64 depth2, .ptr 0 0, .ptr 1 0, .ptr 2 0, .ptr 3 0]) [(0, .row [.int .i64 v3]), (1, .row [.int .i64 v4]), (2, .row [.int .i64 op5, .str s6, .int .i64 n7, .int .i64 kind8, .str name9, .int .i64 n10, .slice .sealed (List.length args11) (clTyp args11), .slice .sealed (List.length ts12) (clTyp ts12), .slice .sealed (List.length l13) (clNod l13), .int .i64 at14]), (3, .row [.func (.func 73) [] [.ptr 0 0, .ptr 1 0, .ptr 2 0, .ptr 3 0]])] = some (parse_Find_c1_v2_enc n1 depth2 v3 v4 op5 s6 n7 kind8 name9 n10 args11 ts12 l13 at14 r) := by
  unfold parse_Find_c1_v2_b at h
  obtain ⟨n1_0, n1_1, n1_2, ⟨n1_3, n1_4, n1_5, n1_6⟩, n1_7, n1_8, n1_9⟩ := n1
  refine call_out rfl Tryz.func73 rfl rfl ?_
  refine ev_seq ?_
  refine ev_region ?_
  refine os_eff rfl rfl rfl ?_
  refine os_nil ?_
  obtain ⟨y1, g2, h⟩ := bnd_inv h
  refine ev_seg [(1, .int .i64 depth2), (5, .ptr 3 0), (6, .ptr 4 0)] [(0, .row [.int .i64 v3]), (1, .row [.int .i64 y1.1]), (2, .row [.int .i64 y1.2.op, .str y1.2.s, .int .i64 y1.2.n, .int .i64 y1.2.t.kind, .str y1.2.t.name, .int .i64 y1.2.t.n, .slice .sealed (List.length y1.2.t.args) (clTyp y1.2.t.args), .slice .sealed (List.length y1.2.ts) (clTyp y1.2.ts), .slice .sealed (List.length y1.2.l) (clNod y1.2.l), .int .i64 y1.2.at_]), (3, .row [.func (.func 73) [] [.ptr 0 0, .ptr 1 0, .ptr 2 0, .ptr 3 0]]), (4, .row [.int .i64 n1_0, .str n1_1, .int .i64 n1_2, .int .i64 n1_3, .str n1_4, .int .i64 n1_5, .slice .sealed (List.length n1_6) (clTyp n1_6), .slice .sealed (List.length n1_7) (clTyp n1_7), .slice .sealed (List.length n1_8) (clNod n1_8), .int .i64 n1_9])] rfl ?_ ?_
  · replace h := g2
    clear g2
    obtain ⟨y3, g4, h⟩ := bnd_inv h
    refine ev_seg [(1, .int .i64 depth2), (3, .ptr 1 0), (4, .ptr 2 0), (5, .ptr 3 0), (6, .ptr 4 0), (18, .bool y3)] [(0, .row [.int .i64 v3]), (1, .row [.int .i64 v4]), (2, .row [.int .i64 op5, .str s6, .int .i64 n7, .int .i64 kind8, .str name9, .int .i64 n10, .slice .sealed (List.length args11) (clTyp args11), .slice .sealed (List.length ts12) (clTyp ts12), .slice .sealed (List.length l13) (clNod l13), .int .i64 at14]), (3, .row [.func (.func 73) [] [.ptr 0 0, .ptr 1 0, .ptr 2 0, .ptr 3 0]]), (4, .row [.int .i64 n1_0, .str n1_1, .int .i64 n1_2, .int .i64 n1_3, .str n1_4, .int .i64 n1_5, .slice .sealed (List.length n1_6) (clTyp n1_6), .slice .sealed (List.length n1_7) (clTyp n1_7), .slice .sealed (List.length n1_8) (clNod n1_8), .int .i64 n1_9])] rfl ?_ ?_
    · replace h := g4
      clear g4
      refine ev_region ?_
      refine os_pure rfl rfl rfl ?_
      refine os_eff rfl rfl rfl ?_
      refine os_eff rfl rfl rfl ?_
      refine os_pure rfl rfl rfl ?_
      refine os_pure rfl rfl rfl ?_
      refine os_guard rfl rfl rfl (fun g5 => ?_) (fun g5 => ?_)
      · replace h := cond_t h g5
        refine os_pure rfl rfl rfl ?_
        refine os_eff rfl rfl rfl ?_
        refine os_pure rfl rfl rfl ?_
        refine os_pure rfl rfl rfl ?_
        refine os_nil ?_
        cases h
        exact rfl
      · replace h := cond_f h g5
        refine os_skip rfl ?_
        refine os_skip rfl ?_
        refine os_skip rfl ?_
        refine os_pure rfl rfl rfl ?_
        refine os_nil ?_
        cases h
        exact rfl
    · obtain ⟨x501, rfl⟩ : ∃ q, q = y3 := ⟨_, rfl⟩
      show Ev _ _ _ _ _ [(1, .int .i64 depth2), (3, .ptr 1 0), (4, .ptr 2 0), (5, .ptr 3 0), (6, .ptr 4 0), (18, .bool x501)] [(0, .row [.int .i64 v3]), (1, .row [.int .i64 v4]), (2, .row [.int .i64 op5, .str s6, .int .i64 n7, .int .i64 kind8, .str name9, .int .i64 n10, .slice .sealed (List.length args11) (clTyp args11), .slice .sealed (List.length ts12) (clTyp ts12), .slice .sealed (List.length l13) (clNod l13), .int .i64 at14]), (3, .row [.func (.func 73) [] [.ptr 0 0, .ptr 1 0, .ptr 2 0, .ptr 3 0]]), (4, .row [.int .i64 n1_0, .str n1_1, .int .i64 n1_2, .int .i64 n1_3, .str n1_4, .int .i64 n1_5, .slice .sealed (List.length n1_6) (clTyp n1_6), .slice .sealed (List.length n1_7) (clTyp n1_7), .slice .sealed (List.length n1_8) (clNod n1_8), .int .i64 n1_9])] _
      refine ev_if rfl (fun g6 => ?_) (fun g6 => ?_)
      · replace h := cond_t h g6
        refine ev_region ?_
        refine os_eff rfl rfl rfl ?_
        refine os_pure rfl rfl rfl ?_
        refine os_eff rfl rfl rfl ?_
        refine os_eff rfl rfl rfl ?_
        refine os_nil ?_
        cases h
        exact rfl
      · replace h := cond_f h g6
        refine ev_skip ?_
        cases h
        exact rfl
  · obtain ⟨v502, n503⟩ := y1
    obtain ⟨n503_0, n503_1, n503_2, ⟨n503_3, n503_4, n503_5, n503_6⟩, n503_7, n503_8, n503_9⟩ := n503
    show Ev _ _ _ _ _ [(1, .int .i64 depth2), (5, .ptr 3 0), (6, .ptr 4 0)] [(0, .row [.int .i64 v3]), (1, .row [.int .i64 v502]), (2, .row [.int .i64 n503_0, .str n503_1, .int .i64 n503_2, .int .i64 n503_3, .str n503_4, .int .i64 n503_5, .slice .sealed (List.length n503_6) (clTyp n503_6), .slice .sealed (List.length n503_7) (clTyp n503_7), .slice .sealed (List.length n503_8) (clNod n503_8), .int .i64 n503_9]), (3, .row [.func (.func 73) [] [.ptr 0 0, .ptr 1 0, .ptr 2 0, .ptr 3 0]]), (4, .row [.int .i64 n1_0, .str n1_1, .int .i64 n1_2, .int .i64 n1_3, .str n1_4, .int .i64 n1_5, .slice .sealed (List.length n1_6) (clTyp n1_6), .slice .sealed (List.length n1_7) (clTyp n1_7), .slice .sealed (List.length n1_8) (clNod n1_8), .int .i64 n1_9])] _
    refine ev_seq ?_
    refine ev_region ?_
    refine os_pure rfl rfl rfl ?_
    refine os_eff rfl rfl rfl ?_
    refine os_pure rfl rfl rfl ?_
    refine os_pure rfl rfl rfl ?_
    refine os_nil ?_
    refine ev_block ?_
    refine ev_loop rfl ?_
    obtain ⟨yq, hq⟩ : ∃ y, y = r := ⟨_, rfl⟩
    rw [← hq] at h ⊢
    clear hq
    revert yq
    refine lp_fuel (fun m (x : Int × Int × Nod) => parse_Find_c1_v2_l4 n Φ depth2 (Nod.mk n1_0 n1_1 n1_2 (Typ.mk n1_3 n1_4 n1_5 n1_6) n1_7 n1_8 n1_9) v3 m x.1 x.2.1 x.2.2) (fun x => [(1, .int .i64 depth2), (5, .ptr 3 0), (22, .slice .sealed (List.length n1_8) (clNod n1_8)), (23, .int .i64 (List.length n1_8 : Int)), (24, .int .i64 x.1)]) (fun x => [(0, .row [.int .i64 v3]), (1, .row [.int .i64 x.2.1]), (2, .row [.int .i64 x.2.2.op, .str x.2.2.s, .int .i64 x.2.2.n, .int .i64 x.2.2.t.kind, .str x.2.2.t.name, .int .i64 x.2.2.t.n, .slice .sealed (List.length x.2.2.t.args) (clTyp x.2.2.t.args), .slice .sealed (List.length x.2.2.ts) (clTyp x.2.2.ts), .slice .sealed (List.length x.2.2.l) (clNod x.2.2.l), .int .i64 x.2.2.at_]), (3, .row [.func (.func 73) [] [.ptr 0 0, .ptr 1 0, .ptr 2 0, .ptr 3 0]])]) _ (fun _ => rfl) (fun m4 x y ih h => ?_) n (0, v502, (Nod.mk n503_0 n503_1 n503_2 (Typ.mk n503_3 n503_4 n503_5 n503_6) n503_7 n503_8 n503_9))
    obtain ⟨x504, v505, n506⟩ := x
    obtain ⟨n506_0, n506_1, n506_2, ⟨n506_3, n506_4, n506_5, n506_6⟩, n506_7, n506_8, n506_9⟩ := n506
    show Ev _ _ _ _ _ [(1, .int .i64 depth2), (5, .ptr 3 0), (22, .slice .sealed (List.length n1_8) (clNod n1_8)), (23, .int .i64 (List.length n1_8 : Int)), (24, .int .i64 x504)] [(0, .row [.int .i64 v3]), (1, .row [.int .i64 v505]), (2, .row [.int .i64 n506_0, .str n506_1, .int .i64 n506_2, .int .i64 n506_3, .str n506_4, .int .i64 n506_5, .slice .sealed (List.length n506_6) (clTyp n506_6), .slice .sealed (List.length n506_7) (clTyp n506_7), .slice .sealed (List.length n506_8) (clNod n506_8), .int .i64 n506_9]), (3, .row [.func (.func 73) [] [.ptr 0 0, .ptr 1 0, .ptr 2 0, .ptr 3 0]])] _
    replace h : parse_Find_c1_v2_l4 n Φ depth2 (Nod.mk n1_0 n1_1 n1_2 (Typ.mk n1_3 n1_4 n1_5 n1_6) n1_7 n1_8 n1_9) v3 (m4 + 1) x504 v505 (Nod.mk n506_0 n506_1 n506_2 (Typ.mk n506_3 n506_4 n506_5 n506_6) n506_7 n506_8 n506_9) = some y := h
    rw [parse_Find_c1_v2_l4] at h
    refine ev_seq ?_
    refine ev_region ?_
    refine os_pure rfl rfl rfl ?_
    refine os_nil ?_
    refine ev_seq ?_
    refine ev_if rfl (fun g7 => ?_) (fun g7 => ?_)
    · replace h := cond_t h g7
      refine ev_skip ?_
      refine ev_seq ?_
      refine ev_block ?_
      refine ev_seq ?_
      refine ev_region ?_
      obtain ⟨x15, g8, h⟩ := bnd_inv h
      obtain ⟨x15_0, x15_1, x15_2, ⟨x15_3, x15_4, x15_5, x15_6⟩, x15_7, x15_8, x15_9⟩ := x15
      refine os_idx encNod g8 rfl rfl rfl rfl rfl rfl rfl rfl ?_
      refine os_loadA (c := [.int .i64 x15_0, .str x15_1, .int .i64 x15_2, .int .i64 x15_3, .str x15_4, .int .i64 x15_5, .slice .sealed (List.length x15_6) (clTyp x15_6), .slice .sealed (List.length x15_7) (clTyp x15_7), .slice .sealed (List.length x15_8) (clNod x15_8), .int .i64 x15_9]) rfl rfl rfl rfl rfl rfl rfl ?_
      refine os_eff rfl rfl rfl ?_
      refine os_eff rfl rfl rfl ?_
      refine os_nil ?_
      refine ev_region ?_
      refine os_eff rfl rfl rfl ?_
      refine os_eff rfl rfl rfl ?_
      refine os_pure rfl rfl rfl ?_
      refine os_pure rfl rfl rfl ?_
      obtain ⟨⟨v16, n17⟩, g9, h⟩ := bnd_inv h
      obtain ⟨n17_0, n17_1, n17_2, ⟨n17_3, n17_4, n17_5, n17_6⟩, n17_7, n17_8, n17_9⟩ := n17
      refine os_callF rfl rfl rfl rfl (callVia_eq rfl rfl (hΦ.parse_Find_c1_v2 g9) rfl rfl rfl) ?_
      refine os_nil ?_
      refine ev_region ?_
      refine os_pure rfl rfl rfl ?_
      refine os_pure rfl rfl rfl ?_
      refine os_nil ?_
      exact ⟨_, _, rfl, ih (_, _, _) _ h⟩
    · replace h := cond_f h g7
      refine ev_exit ?_
      cases h
      exact ⟨_, _, _, rfl, rfl, rfl⟩
theorem parse_Find_c1_v2_F.ok : ∀ n, (parse_Find_c1_v2_F.fs n).Ok
  | 0 => ⟨(fun h => by cases h)⟩
  | n + 1 => ⟨(fun h => parse_Find_c1_v2_b_ok n (parse_Find_c1_v2_F.ok n) h)⟩
theorem parse_Find_c1_v2_ok {n : Nat} {n1 : Nod} {depth2 : Int} {v3 : Int} {v4 : Int} {op5 : Int} {s6 : Str} {n7 : Int} {kind8 : Int} {name9 : Str} {n10 : Int} {args11 : List Typ} {ts12 : List Typ} {l13 : List Nod} {at14 : Int} {r : Int × Nod} (h : parse_Find_c1_v2 n n1 depth2 v3 v4 op5 s6 n7 kind8 name9 n10 args11 ts12 l13 at14 = some r) :
    E env (.call 73 [.agg [.int .i64 n1.op, .str n1.s, .int .i64 n1.n, .int .i64 n1.t.kind, .str n1.t.name, .int .i64 n1.t.n, .slice .sealed (List.length n1.t.args) (clTyp n1.t.args), .slice .sealed (List.length n1.ts) (clTyp n1.ts), .slice .sealed (List.length n1.l) (clNod n1.l), .int .i64 n1.at_], .int .i64 depth2, .ptr 0 0, .ptr 1 0, .ptr 2 0, .ptr 3 0]) [(0, .row [.int .i64 v3]), (1, .row [.int .i64 v4]), (2, .row [.int .i64 op5, .str s6, .int .i64 n7, .int .i64 kind8, .str name9, .int .i64 n10, .slice .sealed (List.length args11) (clTyp args11), .slice .sealed (List.length ts12) (clTyp ts12), .slice .sealed (List.length l13) (clNod l13), .int .i64 at14]), (3, .row [.func (.func 73) [] [.ptr 0 0, .ptr 1 0, .ptr 2 0, .ptr 3 0]])] = some (parse_Find_c1_v2_enc n1 depth2 v3 v4 op5 s6 n7 kind8 name9 n10 args11 ts12 l13 at14 r) := (parse_Find_c1_v2_F.ok n).parse_Find_c1_v2 h
theorem parse_Find_c1_ok {n : Nat} {n1 : Nod} {depth2 : Int} {v3 : Int} {v4 : Int} {op5 : Int} {s6 : Str} {n7 : Int} {kind8 : Int} {name9 : Str} {n10 : Int} {args11 : List Typ} {ts12 : List Typ} {l13 : List Nod} {at14 : Int} {r : Int × Nod} (h : parse_Find_c1 n n1 depth2 v3 v4 op5 s6 n7 kind8 name9 n10 args11 ts12 l13 at14 = some r) :
    E env (.call 73 [.agg [.int .i64 n1.op, .str n1.s, .int .i64 n1.n, .int .i64 n1.t.kind, .str n1.t.name, .int .i64 n1.t.n, .slice .sealed (List.length n1.t.args) (clTyp n1.t.args), .slice .sealed (List.length n1.ts) (clTyp n1.ts), .slice .sealed (List.length n1.l) (clNod n1.l), .int .i64 n1.at_], .int .i64 depth2, .ptr 0 0, .ptr 1 0, .ptr 2 0, .ptr 3 0]) [(0, .row [.int .i64 v3]), (1, .row [.int .i64 v4]), (2, .row [.int .i64 op5, .str s6, .int .i64 n7, .int .i64 kind8, .str name9, .int .i64 n10, .slice (.tag 4) (List.length args11) (clTyp args11), .slice (.tag 5) (List.length ts12) (clTyp ts12), .slice (.tag 6) (List.length l13) (clNod l13), .int .i64 at14]), (3, .row [.func (.func 73) [] [.ptr 0 0, .ptr 1 0, .ptr 2 0, .ptr 3 0]]), (4, .tip (tpe 4 (List.length args11)) (List.length args11)), (5, .tip (tpe 4 (List.length ts12)) (List.length ts12)), (6, .tip (tpe 10 (List.length l13)) (List.length l13))] = some (parse_Find_c1_enc n1 depth2 v3 v4 op5 s6 n7 kind8 name9 n10 args11 ts12 l13 at14 r) := by
  unfold parse_Find_c1 at h
  obtain ⟨n1_0, n1_1, n1_2, ⟨n1_3, n1_4, n1_5, n1_6⟩, n1_7, n1_8, n1_9⟩ := n1
  refine call_out rfl Tryz.func73 rfl rfl ?_
  refine ev_seq ?_
  refine ev_region ?_
  refine os_eff rfl rfl rfl ?_
  refine os_nil ?_
  obtain ⟨y1, g2, h⟩ := bnd_inv h
  refine ev_seg [(1, .int .i64 depth2), (5, .ptr 3 0), (6, .ptr 7 0)] [(0, .row [.int .i64 v3]), (1, .row [.int .i64 y1.1]), (2, .row [.int .i64 y1.2.op, .str y1.2.s, .int .i64 y1.2.n, .int .i64 y1.2.t.kind, .str y1.2.t.name, .int .i64 y1.2.t.n, .slice .sealed (List.length y1.2.t.args) (clTyp y1.2.t.args), .slice .sealed (List.length y1.2.ts) (clTyp y1.2.ts), .slice .sealed (List.length y1.2.l) (clNod y1.2.l), .int .i64 y1.2.at_]), (3, .row [.func (.func 73) [] [.ptr 0 0, .ptr 1 0, .ptr 2 0, .ptr 3 0]]), (4, .tip (tpe 4 (List.length args11)) (List.length args11)), (5, .tip (tpe 4 (List.length ts12)) (List.length ts12)), (6, .tip (tpe 10 (List.length l13)) (List.length l13)), (7, .row [.int .i64 n1_0, .str n1_1, .int .i64 n1_2, .int .i64 n1_3, .str n1_4, .int .i64 n1_5, .slice .sealed (List.length n1_6) (clTyp n1_6), .slice .sealed (List.length n1_7) (clTyp n1_7), .slice .sealed (List.length n1_8) (clNod n1_8), .int .i64 n1_9])] rfl ?_ ?_
  · replace h := g2
    clear g2
    obtain ⟨y3, g4, h⟩ := bnd_inv h
    refine ev_seg [(1, .int .i64 depth2), (3, .ptr 1 0), (4, .ptr 2 0), (5, .ptr 3 0), (6, .ptr 7 0), (18, .bool y3)] [(0, .row [.int .i64 v3]), (1, .row [.int .i64 v4]), (2, .row [.int .i64 op5, .str s6, .int .i64 n7, .int .i64 kind8, .str name9, .int .i64 n10, .slice (.tag 4) (List.length args11) (clTyp args11), .slice (.tag 5) (List.length ts12) (clTyp ts12), .slice (.tag 6) (List.length l13) (clNod l13), .int .i64 at14]), (3, .row [.func (.func 73) [] [.ptr 0 0, .ptr 1 0, .ptr 2 0, .ptr 3 0]]), (4, .tip (tpe 4 (List.length args11)) (List.length args11)), (5, .tip (tpe 4 (List.length ts12)) (List.length ts12)), (6, .tip (tpe 10 (List.length l13)) (List.length l13)), (7, .row [.int .i64 n1_0, .str n1_1, .int .i64 n1_2, .int .i64 n1_3, .str n1_4, .int .i64 n1_5, .slice .sealed (List.length n1_6) (clTyp n1_6), .slice .sealed (List.length n1_7) (clTyp n1_7), .slice .sealed (List.length n1_8) (clNod n1_8), .int .i64 n1_9])] rfl ?_ ?_
    · replace h := g4
      clear g4
      refine ev_region ?_
      refine os_pure rfl rfl rfl ?_
      refine os_eff rfl rfl rfl ?_
      refine os_eff rfl rfl rfl ?_
      refine os_pure rfl rfl rfl ?_
      refine os_pure rfl rfl rfl ?_
      refine os_guard rfl rfl rfl (fun g5 => ?_) (fun g5 => ?_)
      · replace h := cond_t h g5
        refine os_pure rfl rfl rfl ?_
        refine os_eff rfl rfl rfl ?_
        refine os_pure rfl rfl rfl ?_
        refine os_pure rfl rfl rfl ?_
        refine os_nil ?_
        cases h
        exact rfl
      · replace h := cond_f h g5
        refine os_skip rfl ?_
        refine os_skip rfl ?_
        refine os_skip rfl ?_
        refine os_pure rfl rfl rfl ?_
        refine os_nil ?_
        cases h
        exact rfl
    · obtain ⟨x501, rfl⟩ : ∃ q, q = y3 := ⟨_, rfl⟩
      show Ev _ _ _ _ _ [(1, .int .i64 depth2), (3, .ptr 1 0), (4, .ptr 2 0), (5, .ptr 3 0), (6, .ptr 7 0), (18, .bool x501)] [(0, .row [.int .i64 v3]), (1, .row [.int .i64 v4]), (2, .row [.int .i64 op5, .str s6, .int .i64 n7, .int .i64 kind8, .str name9, .int .i64 n10, .slice (.tag 4) (List.length args11) (clTyp args11), .slice (.tag 5) (List.length ts12) (clTyp ts12), .slice (.tag 6) (List.length l13) (clNod l13), .int .i64 at14]), (3, .row [.func (.func 73) [] [.ptr 0 0, .ptr 1 0, .ptr 2 0, .ptr 3 0]]), (4, .tip (tpe 4 (List.length args11)) (List.length args11)), (5, .tip (tpe 4 (List.length ts12)) (List.length ts12)), (6, .tip (tpe 10 (List.length l13)) (List.length l13)), (7, .row [.int .i64 n1_0, .str n1_1, .int .i64 n1_2, .int .i64 n1_3, .str n1_4, .int .i64 n1_5, .slice .sealed (List.length n1_6) (clTyp n1_6), .slice .sealed (List.length n1_7) (clTyp n1_7), .slice .sealed (List.length n1_8) (clNod n1_8), .int .i64 n1_9])] _
      refine ev_if rfl (fun g6 => ?_) (fun g6 => ?_)
      · replace h := cond_t h g6
        refine ev_region ?_
        refine os_eff rfl rfl rfl ?_
        refine os_pure rfl rfl rfl ?_
        refine os_eff rfl rfl rfl ?_
        refine os_eff rfl rfl rfl ?_
        refine os_nil ?_
        cases h
        exact rfl
      · replace h := cond_f h g6
        refine ev_skip ?_
        cases h
        exact rfl
  · obtain ⟨v529, n530⟩ := y1
    obtain ⟨n530_0, n530_1, n530_2, ⟨n530_3, n530_4, n530_5, n530_6⟩, n530_7, n530_8, n530_9⟩ := n530
    show Ev _ _ _ _ _ [(1, .int .i64 depth2), (5, .ptr 3 0), (6, .ptr 7 0)] [(0, .row [.int .i64 v3]), (1, .row [.int .i64 v529]), (2, .row [.int .i64 n530_0, .str n530_1, .int .i64 n530_2, .int .i64 n530_3, .str n530_4, .int .i64 n530_5, .slice .sealed (List.length n530_6) (clTyp n530_6), .slice .sealed (List.length n530_7) (clTyp n530_7), .slice .sealed (List.length n530_8) (clNod n530_8), .int .i64 n530_9]), (3, .row [.func (.func 73) [] [.ptr 0 0, .ptr 1 0, .ptr 2 0, .ptr 3 0]]), (4, .tip (tpe 4 (List.length args11)) (List.length args11)), (5, .tip (tpe 4 (List.length ts12)) (List.length ts12)), (6, .tip (tpe 10 (List.length l13)) (List.length l13)), (7, .row [.int .i64 n1_0, .str n1_1, .int .i64 n1_2, .int .i64 n1_3, .str n1_4, .int .i64 n1_5, .slice .sealed (List.length n1_6) (clTyp n1_6), .slice .sealed (List.length n1_7) (clTyp n1_7), .slice .sealed (List.length n1_8) (clNod n1_8), .int .i64 n1_9])] _
    refine ev_seq ?_
    refine ev_region ?_
    refine os_pure rfl rfl rfl ?_
    refine os_eff rfl rfl rfl ?_
    refine os_pure rfl rfl rfl ?_
    refine os_pure rfl rfl rfl ?_
    refine os_nil ?_
    refine ev_block ?_
    refine ev_loop rfl ?_
    obtain ⟨yq, hq⟩ : ∃ y, y = r := ⟨_, rfl⟩
    rw [← hq] at h ⊢
    clear hq
    revert yq
    refine lp_fuel (fun m (x : Int × Int × Nod) => parse_Find_c1_l4 n depth2 (Nod.mk n1_0 n1_1 n1_2 (Typ.mk n1_3 n1_4 n1_5 n1_6) n1_7 n1_8 n1_9) v3 m x.1 x.2.1 x.2.2) (fun x => [(1, .int .i64 depth2), (5, .ptr 3 0), (22, .slice .sealed (List.length n1_8) (clNod n1_8)), (23, .int .i64 (List.length n1_8 : Int)), (24, .int .i64 x.1)]) (fun x => [(0, .row [.int .i64 v3]), (1, .row [.int .i64 x.2.1]), (2, .row [.int .i64 x.2.2.op, .str x.2.2.s, .int .i64 x.2.2.n, .int .i64 x.2.2.t.kind, .str x.2.2.t.name, .int .i64 x.2.2.t.n, .slice .sealed (List.length x.2.2.t.args) (clTyp x.2.2.t.args), .slice .sealed (List.length x.2.2.ts) (clTyp x.2.2.ts), .slice .sealed (List.length x.2.2.l) (clNod x.2.2.l), .int .i64 x.2.2.at_]), (3, .row [.func (.func 73) [] [.ptr 0 0, .ptr 1 0, .ptr 2 0, .ptr 3 0]]), (4, .tip (tpe 4 (List.length args11)) (List.length args11)), (5, .tip (tpe 4 (List.length ts12)) (List.length ts12)), (6, .tip (tpe 10 (List.length l13)) (List.length l13))]) _ (fun _ => rfl) (fun m4 x y ih h => ?_) n (0, v529, (Nod.mk n530_0 n530_1 n530_2 (Typ.mk n530_3 n530_4 n530_5 n530_6) n530_7 n530_8 n530_9))
    obtain ⟨x531, v532, n533⟩ := x
    obtain ⟨n533_0, n533_1, n533_2, ⟨n533_3, n533_4, n533_5, n533_6⟩, n533_7, n533_8, n533_9⟩ := n533
    show Ev _ _ _ _ _ [(1, .int .i64 depth2), (5, .ptr 3 0), (22, .slice .sealed (List.length n1_8) (clNod n1_8)), (23, .int .i64 (List.length n1_8 : Int)), (24, .int .i64 x531)] [(0, .row [.int .i64 v3]), (1, .row [.int .i64 v532]), (2, .row [.int .i64 n533_0, .str n533_1, .int .i64 n533_2, .int .i64 n533_3, .str n533_4, .int .i64 n533_5, .slice .sealed (List.length n533_6) (clTyp n533_6), .slice .sealed (List.length n533_7) (clTyp n533_7), .slice .sealed (List.length n533_8) (clNod n533_8), .int .i64 n533_9]), (3, .row [.func (.func 73) [] [.ptr 0 0, .ptr 1 0, .ptr 2 0, .ptr 3 0]]), (4, .tip (tpe 4 (List.length args11)) (List.length args11)), (5, .tip (tpe 4 (List.length ts12)) (List.length ts12)), (6, .tip (tpe 10 (List.length l13)) (List.length l13))] _
    replace h : parse_Find_c1_l4 n depth2 (Nod.mk n1_0 n1_1 n1_2 (Typ.mk n1_3 n1_4 n1_5 n1_6) n1_7 n1_8 n1_9) v3 (m4 + 1) x531 v532 (Nod.mk n533_0 n533_1 n533_2 (Typ.mk n533_3 n533_4 n533_5 n533_6) n533_7 n533_8 n533_9) = some y := h
    rw [parse_Find_c1_l4] at h
    refine ev_seq ?_
    refine ev_region ?_
    refine os_pure rfl rfl rfl ?_
    refine os_nil ?_
    refine ev_seq ?_
    refine ev_if rfl (fun g7 => ?_) (fun g7 => ?_)
    · replace h := cond_t h g7
      refine ev_skip ?_
      refine ev_seq ?_
      refine ev_block ?_
      refine ev_seq ?_
      refine ev_region ?_
      obtain ⟨x15, g8, h⟩ := bnd_inv h
      obtain ⟨x15_0, x15_1, x15_2, ⟨x15_3, x15_4, x15_5, x15_6⟩, x15_7, x15_8, x15_9⟩ := x15
      refine os_idx encNod g8 rfl rfl rfl rfl rfl rfl rfl rfl ?_
      refine os_loadA (c := [.int .i64 x15_0, .str x15_1, .int .i64 x15_2, .int .i64 x15_3, .str x15_4, .int .i64 x15_5, .slice .sealed (List.length x15_6) (clTyp x15_6), .slice .sealed (List.length x15_7) (clTyp x15_7), .slice .sealed (List.length x15_8) (clNod x15_8), .int .i64 x15_9]) rfl rfl rfl rfl rfl rfl rfl ?_
      refine os_eff rfl rfl rfl ?_
      refine os_eff rfl rfl rfl ?_
      refine os_nil ?_
      refine ev_region ?_
      refine os_eff rfl rfl rfl ?_
      refine os_eff rfl rfl rfl ?_
      refine os_pure rfl rfl rfl ?_
      refine os_pure rfl rfl rfl ?_
      obtain ⟨⟨v16, n17⟩, g9, h⟩ := bnd_inv h
      obtain ⟨n17_0, n17_1, n17_2, ⟨n17_3, n17_4, n17_5, n17_6⟩, n17_7, n17_8, n17_9⟩ := n17
      refine os_callF rfl rfl rfl rfl (callVia_eq rfl rfl (parse_Find_c1_v2_ok g9) rfl rfl rfl) ?_
      refine os_nil ?_
      refine ev_region ?_
      refine os_pure rfl rfl rfl ?_
      refine os_pure rfl rfl rfl ?_
      refine os_nil ?_
      exact ⟨_, _, rfl, ih (_, _, _) _ h⟩
    · replace h := cond_f h g7
      refine ev_exit ?_
      cases h
      exact ⟨_, _, _, rfl, rfl, rfl⟩
theorem parse_Find_ok {n : Nat} {n1 : Nod} {at2 : Int} {r : Nod × Int} (h : parse_Find n n1 at2 = some r) :
    E env (.call 33 [.agg [.int .i64 n1.op, .str n1.s, .int .i64 n1.n, .int .i64 n1.t.kind, .str n1.t.name, .int .i64 n1.t.n, .slice .sealed (List.length n1.t.args) (clTyp n1.t.args), .slice .sealed (List.length n1.ts) (clTyp n1.ts), .slice .sealed (List.length n1.l) (clNod n1.l), .int .i64 n1.at_], .int .i64 at2]) [] = some (parse_Find_enc n1 at2 r) := by
  unfold parse_Find at h
  obtain ⟨n1_0, n1_1, n1_2, ⟨n1_3, n1_4, n1_5, n1_6⟩, n1_7, n1_8, n1_9⟩ := n1
  refine call_out rfl Tryz.func33 rfl rfl ?_
  refine ev_seq ?_
  refine ev_region ?_
  refine os_eff rfl rfl rfl ?_
  refine os_eff rfl rfl rfl ?_
  refine os_eff rfl rfl rfl ?_
  refine os_pure rfl rfl rfl ?_
  refine os_nil ?_
  refine ev_seq ?_
  refine ev_region ?_
  refine os_pureD rfl rfl rfl ?_
  refine os_eff rfl rfl rfl ?_
  refine os_eff rfl rfl rfl ?_
  refine os_eff rfl rfl rfl ?_
  refine os_eff rfl rfl rfl ?_
  refine os_nil ?_
  refine ev_seq ?_
  refine ev_region ?_
  refine os_eff rfl rfl rfl ?_
  refine os_nil ?_
  refine ev_seq ?_
  refine ev_region ?_
  refine os_pure rfl rfl rfl ?_
  refine os_eff rfl rfl rfl ?_
  refine os_nil ?_
  refine ev_seq ?_
  refine ev_region ?_
  refine os_eff rfl rfl rfl ?_
  refine os_eff rfl rfl rfl ?_
  obtain ⟨⟨v3, n4⟩, g1, h⟩ := bnd_inv h
  obtain ⟨n4_0, n4_1, n4_2, ⟨n4_3, n4_4, n4_5, n4_6⟩, n4_7, n4_8, n4_9⟩ := n4
  refine os_callF rfl rfl rfl rfl (callVia_eq rfl rfl (parse_Find_c1_ok g1) rfl rfl rfl) ?_
  refine os_nil ?_
  refine ev_seq ?_
  refine ev_seq ?_
  refine ev_region ?_
  refine os_eff rfl rfl rfl ?_
  refine os_pure rfl rfl rfl ?_
  refine os_nil ?_
  refine ev_if rfl (fun g2 => ?_) (fun g2 => ?_)
  · replace h := cond_t h g2
    refine ev_seq ?_
    refine ev_region ?_
    refine os_pureD rfl rfl rfl ?_
    refine os_eff rfl rfl rfl ?_
    refine os_pure rfl rfl rfl ?_
    refine os_nil ?_
    cases h
    exact ev_ret ⟨_, _, _, rfl, rfl, rfl⟩
  · replace h := cond_f h g2
    refine ev_skip ?_
    refine ev_seq ?_
    refine ev_region ?_
    refine os_eff rfl rfl rfl ?_
    refine os_eff rfl rfl rfl ?_
    refine os_pure rfl rfl rfl ?_
    refine os_nil ?_
    cases h
    exact ev_ret ⟨_, _, _, rfl, rfl, rfl⟩
end Go.Proofs.YtmonfppdiehlpaaGreatDoor
/- The functions do what the plain Lean says. (Printed by a program.) -/
namespace Go.Proofs.YtmonfppdiehlpaaGreatDoor
set_option linter.unusedSimpArgs false
set_option linter.unusedVariables false
set_option linter.unusedSectionVars false
open Go Go.Vm
set_option maxRecDepth 100000
set_option maxHeartbeats 20000000
set_option linter.unusedVariables false
structure ref02_find_F.Ok (Φ : ref02_find_F) : Prop where
  ref02_find : ∀ {n1 : Nod} {at2 : Int} {here3 : Int} {r : Nod × Int}, Φ.ref02_find n1 at2 here3 = some r → E env (.call 74 [.agg [.int .i64 n1.op, .str n1.s, .int .i64 n1.n, .int .i64 n1.t.kind, .str n1.t.name, .int .i64 n1.t.n, .slice .sealed (List.length n1.t.args) (clTyp n1.t.args), .slice .sealed (List.length n1.ts) (clTyp n1.ts), .slice .sealed (List.length n1.l) (clNod n1.l), .int .i64 n1.at_], .int .i64 at2, .int .i64 here3]) [] = some (ref02_find_enc n1 at2 here3 r)
theorem ref02_find_b_ok (n : Nat) {Φ : ref02_find_F} (hΦ : Φ.Ok) {n1 : Nod} {at2 : Int} {here3 : Int} {r : Nod × Int} (h : ref02_find_b n Φ n1 at2 here3 = some r) :
    E env (.call 74 [.agg [.int .i64 n1.op, .str n1.s, .int .i64 n1.n, .int .i64 n1.t.kind, .str n1.t.name, .int .i64 n1.t.n, .slice .sealed (List.length n1.t.args) (clTyp n1.t.args), .slice .sealed (List.length n1.ts) (clTyp n1.ts), .slice .sealed (List.length n1.l) (clNod n1.l), .int .i64 n1.at_], .int .i64 at2, .int .i64 here3]) [] = some (ref02_find_enc n1 at2 here3 r) := by
  unfold ref02_find_b at h
  obtain ⟨n1_0, n1_1, n1_2, ⟨n1_3, n1_4, n1_5, n1_6⟩, n1_7, n1_8, n1_9⟩ := n1
  refine call_out rfl Tryz.func74 rfl rfl ?_
  refine ev_seq ?_
  refine ev_region ?_
  refine os_eff rfl rfl rfl ?_
  refine os_eff rfl rfl rfl ?_
  refine os_pure rfl rfl rfl ?_
  refine os_nil ?_
  refine ev_seq ?_
  refine ev_region ?_
  refine os_eff rfl rfl rfl ?_
  refine os_nil ?_
  refine ev_seq ?_
  refine ev_region ?_
  refine os_pure rfl rfl rfl ?_
  refine os_nil ?_
  obtain ⟨y1, g2, h⟩ := bnd_inv h
  refine ev_seg [(1, .int .i64 at2), (2, .int .i64 here3), (3, .ptr 0 0), (6, .ptr 1 0), (8, .ptr 2 0), (9, .int .i64 y1.1)] [(0, .row [.int .i64 n1_0, .str n1_1, .int .i64 n1_2, .int .i64 n1_3, .str n1_4, .int .i64 n1_5, .slice .sealed (List.length n1_6) (clTyp n1_6), .slice .sealed (List.length n1_7) (clTyp n1_7), .slice .sealed (List.length n1_8) (clNod n1_8), .int .i64 n1_9]), (1, .row [.int .i64 0, .str [], .int .i64 0, .int .i64 0, .str [], .int .i64 0, .slice (.tag 3) (List.length ([] : List Typ)) (clTyp ([] : List Typ)), .slice (.tag 4) (List.length ([] : List Typ)) (clTyp ([] : List Typ)), .slice (.tag 5) (List.length ([] : List Nod)) (clNod ([] : List Nod)), .int .i64 0]), (2, .row [.int .i64 y1.2.op, .str y1.2.s, .int .i64 y1.2.n, .int .i64 y1.2.t.kind, .str y1.2.t.name, .int .i64 y1.2.t.n, .slice .sealed (List.length y1.2.t.args) (clTyp y1.2.t.args), .slice .sealed (List.length y1.2.ts) (clTyp y1.2.ts), .slice .sealed (List.length y1.2.l) (clNod y1.2.l), .int .i64 y1.2.at_]), (3, .tip 0 0), (4, .tip 0 0), (5, .tip 0 0)] rfl ?_ ?_
  · replace h := g2
    clear g2
    refine ev_seq ?_
    refine ev_region ?_
    refine os_pure rfl rfl rfl ?_
    refine os_eff rfl rfl rfl ?_
    refine os_pure rfl rfl rfl ?_
    refine os_pure rfl rfl rfl ?_
    refine os_nil ?_
    refine ev_if rfl (fun g3 => ?_) (fun g3 => ?_)
    · replace h := cond_t h g3
      refine ev_region ?_
      refine os_eff rfl rfl rfl ?_
      refine os_pure rfl rfl rfl ?_
      refine os_eff rfl rfl rfl ?_
      refine os_pure rfl rfl rfl ?_
      refine os_nil ?_
      cases h
      exact rfl
    · replace h := cond_f h g3
      refine ev_skip ?_
      cases h
      exact rfl
  · obtain ⟨deep501, n502⟩ := y1
    obtain ⟨n502_0, n502_1, n502_2, ⟨n502_3, n502_4, n502_5, n502_6⟩, n502_7, n502_8, n502_9⟩ := n502
    show Ev _ _ _ _ _ [(1, .int .i64 at2), (2, .int .i64 here3), (3, .ptr 0 0), (6, .ptr 1 0), (8, .ptr 2 0), (9, .int .i64 deep501)] [(0, .row [.int .i64 n1_0, .str n1_1, .int .i64 n1_2, .int .i64 n1_3, .str n1_4, .int .i64 n1_5, .slice .sealed (List.length n1_6) (clTyp n1_6), .slice .sealed (List.length n1_7) (clTyp n1_7), .slice .sealed (List.length n1_8) (clNod n1_8), .int .i64 n1_9]), (1, .row [.int .i64 0, .str [], .int .i64 0, .int .i64 0, .str [], .int .i64 0, .slice (.tag 3) (List.length ([] : List Typ)) (clTyp ([] : List Typ)), .slice (.tag 4) (List.length ([] : List Typ)) (clTyp ([] : List Typ)), .slice (.tag 5) (List.length ([] : List Nod)) (clNod ([] : List Nod)), .int .i64 0]), (2, .row [.int .i64 n502_0, .str n502_1, .int .i64 n502_2, .int .i64 n502_3, .str n502_4, .int .i64 n502_5, .slice .sealed (List.length n502_6) (clTyp n502_6), .slice .sealed (List.length n502_7) (clTyp n502_7), .slice .sealed (List.length n502_8) (clNod n502_8), .int .i64 n502_9]), (3, .tip 0 0), (4, .tip 0 0), (5, .tip 0 0)] _
    obtain ⟨y4, g5, h⟩ := bnd_inv h
    refine ev_seg [(6, .ptr 0 0), (8, .ptr 1 0), (9, .int .i64 y4.1)] [(0, .row [.int .i64 0, .str [], .int .i64 0, .int .i64 0, .str [], .int .i64 0, .slice (.tag 2) (List.length ([] : List Typ)) (clTyp ([] : List Typ)), .slice (.tag 3) (List.length ([] : List Typ)) (clTyp ([] : List Typ)), .slice (.tag 4) (List.length ([] : List Nod)) (clNod ([] : List Nod)), .int .i64 0]), (1, .row [.int .i64 y4.2.op, .str y4.2.s, .int .i64 y4.2.n, .int .i64 y4.2.t.kind, .str y4.2.t.name, .int .i64 y4.2.t.n, .slice .sealed (List.length y4.2.t.args) (clTyp y4.2.t.args), .slice .sealed (List.length y4.2.ts) (clTyp y4.2.ts), .slice .sealed (List.length y4.2.l) (clNod y4.2.l), .int .i64 y4.2.at_]), (2, .tip 0 0), (3, .tip 0 0), (4, .tip 0 0)] rfl ?_ ?_
    · replace h := g5
      clear g5
      refine ev_seq ?_
      refine ev_region ?_
      refine os_pure rfl rfl rfl ?_
      refine os_nil ?_
      refine ev_block ?_
      refine ev_loop rfl ?_
      revert y4
      refine lp_fuel (fun m (x : Int × Int × Nod) => ref02_find_l6 n Φ at2 here3 (Nod.mk n1_0 n1_1 n1_2 (Typ.mk n1_3 n1_4 n1_5 n1_6) n1_7 n1_8 n1_9) m x.1 x.2.1 x.2.2) (fun x => [(1, .int .i64 at2), (2, .int .i64 here3), (3, .ptr 0 0), (6, .ptr 1 0), (8, .ptr 2 0), (9, .int .i64 x.1), (10, .int .i64 x.2.1)]) (fun x => [(0, .row [.int .i64 n1_0, .str n1_1, .int .i64 n1_2, .int .i64 n1_3, .str n1_4, .int .i64 n1_5, .slice .sealed (List.length n1_6) (clTyp n1_6), .slice .sealed (List.length n1_7) (clTyp n1_7), .slice .sealed (List.length n1_8) (clNod n1_8), .int .i64 n1_9]), (1, .row [.int .i64 0, .str [], .int .i64 0, .int .i64 0, .str [], .int .i64 0, .slice (.tag 3) (List.length ([] : List Typ)) (clTyp ([] : List Typ)), .slice (.tag 4) (List.length ([] : List Typ)) (clTyp ([] : List Typ)), .slice (.tag 5) (List.length ([] : List Nod)) (clNod ([] : List Nod)), .int .i64 0]), (2, .row [.int .i64 x.2.2.op, .str x.2.2.s, .int .i64 x.2.2.n, .int .i64 x.2.2.t.kind, .str x.2.2.t.name, .int .i64 x.2.2.t.n, .slice .sealed (List.length x.2.2.t.args) (clTyp x.2.2.t.args), .slice .sealed (List.length x.2.2.ts) (clTyp x.2.2.ts), .slice .sealed (List.length x.2.2.l) (clNod x.2.2.l), .int .i64 x.2.2.at_]), (3, .tip 0 0), (4, .tip 0 0), (5, .tip 0 0)]) _ (fun _ => rfl) (fun m6 x y ih h => ?_) n (deep501, 0, (Nod.mk n502_0 n502_1 n502_2 (Typ.mk n502_3 n502_4 n502_5 n502_6) n502_7 n502_8 n502_9))
      obtain ⟨deep507, i508, n509⟩ := x
      obtain ⟨n509_0, n509_1, n509_2, ⟨n509_3, n509_4, n509_5, n509_6⟩, n509_7, n509_8, n509_9⟩ := n509
      show Ev _ _ _ _ _ [(1, .int .i64 at2), (2, .int .i64 here3), (3, .ptr 0 0), (6, .ptr 1 0), (8, .ptr 2 0), (9, .int .i64 deep507), (10, .int .i64 i508)] [(0, .row [.int .i64 n1_0, .str n1_1, .int .i64 n1_2, .int .i64 n1_3, .str n1_4, .int .i64 n1_5, .slice .sealed (List.length n1_6) (clTyp n1_6), .slice .sealed (List.length n1_7) (clTyp n1_7), .slice .sealed (List.length n1_8) (clNod n1_8), .int .i64 n1_9]), (1, .row [.int .i64 0, .str [], .int .i64 0, .int .i64 0, .str [], .int .i64 0, .slice (.tag 3) (List.length ([] : List Typ)) (clTyp ([] : List Typ)), .slice (.tag 4) (List.length ([] : List Typ)) (clTyp ([] : List Typ)), .slice (.tag 5) (List.length ([] : List Nod)) (clNod ([] : List Nod)), .int .i64 0]), (2, .row [.int .i64 n509_0, .str n509_1, .int .i64 n509_2, .int .i64 n509_3, .str n509_4, .int .i64 n509_5, .slice .sealed (List.length n509_6) (clTyp n509_6), .slice .sealed (List.length n509_7) (clTyp n509_7), .slice .sealed (List.length n509_8) (clNod n509_8), .int .i64 n509_9]), (3, .tip 0 0), (4, .tip 0 0), (5, .tip 0 0)] _
      replace h : ref02_find_l6 n Φ at2 here3 (Nod.mk n1_0 n1_1 n1_2 (Typ.mk n1_3 n1_4 n1_5 n1_6) n1_7 n1_8 n1_9) (m6 + 1) deep507 i508 (Nod.mk n509_0 n509_1 n509_2 (Typ.mk n509_3 n509_4 n509_5 n509_6) n509_7 n509_8 n509_9) = some y := h
      rw [ref02_find_l6] at h
      refine ev_seq ?_
      refine ev_seq ?_
      refine ev_region ?_
      refine os_pure rfl rfl rfl ?_
      refine os_pure rfl rfl rfl ?_
      refine os_eff rfl rfl rfl ?_
      refine os_pure rfl rfl rfl ?_
      refine os_pure rfl rfl rfl ?_
      refine os_nil ?_
      refine ev_if rfl (fun g6 => ?_) (fun g6 => ?_)
      · replace h := cond_t h g6
        refine ev_skip ?_
        obtain ⟨y7, g8, h⟩ := bnd_inv h
        refine ev_seg [(1, .int .i64 at2), (2, .int .i64 here3), (3, .ptr 0 0), (6, .ptr 1 0), (8, .ptr 2 0), (9, .int .i64 y7.1), (10, .int .i64 i508)] [(0, .row [.int .i64 n1_0, .str n1_1, .int .i64 n1_2, .int .i64 n1_3, .str n1_4, .int .i64 n1_5, .slice .sealed (List.length n1_6) (clTyp n1_6), .slice .sealed (List.length n1_7) (clTyp n1_7), .slice .sealed (List.length n1_8) (clNod n1_8), .int .i64 n1_9]), (1, .row [.int .i64 0, .str [], .int .i64 0, .int .i64 0, .str [], .int .i64 0, .slice (.tag 3) (List.length ([] : List Typ)) (clTyp ([] : List Typ)), .slice (.tag 4) (List.length ([] : List Typ)) (clTyp ([] : List Typ)), .slice (.tag 5) (List.length ([] : List Nod)) (clNod ([] : List Nod)), .int .i64 0]), (2, .row [.int .i64 y7.2.op, .str y7.2.s, .int .i64 y7.2.n, .int .i64 y7.2.t.kind, .str y7.2.t.name, .int .i64 y7.2.t.n, .slice .sealed (List.length y7.2.t.args) (clTyp y7.2.t.args), .slice .sealed (List.length y7.2.ts) (clTyp y7.2.ts), .slice .sealed (List.length y7.2.l) (clNod y7.2.l), .int .i64 y7.2.at_]), (3, .tip 0 0), (4, .tip 0 0), (5, .tip 0 0)] rfl ?_ ?_
        · replace h := g8
          clear g8
          refine ev_block ?_
          refine ev_seq ?_
          refine ev_region ?_
          refine os_pure rfl rfl rfl ?_
          refine os_eff rfl rfl rfl ?_
          refine os_pure rfl rfl rfl ?_
          obtain ⟨x4, g9, h⟩ := bnd_inv h
          obtain ⟨x4_0, x4_1, x4_2, ⟨x4_3, x4_4, x4_5, x4_6⟩, x4_7, x4_8, x4_9⟩ := x4
          refine os_idx encNod g9 rfl rfl rfl rfl rfl rfl rfl rfl ?_
          refine os_loadA (c := [.int .i64 x4_0, .str x4_1, .int .i64 x4_2, .int .i64 x4_3, .str x4_4, .int .i64 x4_5, .slice .sealed (List.length x4_6) (clTyp x4_6), .slice .sealed (List.length x4_7) (clTyp x4_7), .slice .sealed (List.length x4_8) (clNod x4_8), .int .i64 x4_9]) rfl rfl rfl rfl rfl rfl rfl ?_
          refine os_pure rfl rfl rfl ?_
          refine os_pure rfl rfl rfl ?_
          refine os_pure rfl rfl rfl ?_
          obtain ⟨⟨r5, r6⟩, g10, h⟩ := bnd_inv h
          obtain ⟨r5_0, r5_1, r5_2, ⟨r5_3, r5_4, r5_5, r5_6⟩, r5_7, r5_8, r5_9⟩ := r5
          refine os_quiet rfl rfl rfl rfl rfl (hΦ.ref02_find g10) rfl ?_
          refine os_pure rfl rfl rfl ?_
          refine os_pure rfl rfl rfl ?_
          refine os_pure rfl rfl rfl ?_
          refine os_eff rfl rfl rfl ?_
          refine os_eff rfl rfl rfl ?_
          refine os_pure rfl rfl rfl ?_
          refine os_nil ?_
          refine ev_seq ?_
          refine ev_region ?_
          refine os_pure rfl rfl rfl ?_
          refine os_pure rfl rfl rfl ?_
          refine os_pure rfl rfl rfl ?_
          refine os_nil ?_
          refine ev_if rfl (fun g11 => ?_) (fun g11 => ?_)
          · replace h := cond_t h g11
            refine ev_region ?_
            refine os_eff rfl rfl rfl ?_
            refine os_pure rfl rfl rfl ?_
            refine os_eff rfl rfl rfl ?_
            refine os_pure rfl rfl rfl ?_
            refine os_nil ?_
            cases h
            exact rfl
          · replace h := cond_f h g11
            refine ev_skip ?_
            cases h
            exact rfl
        · obtain ⟨deep517, n518⟩ := y7
          obtain ⟨n518_0, n518_1, n518_2, ⟨n518_3, n518_4, n518_5, n518_6⟩, n518_7, n518_8, n518_9⟩ := n518
          show Ev _ _ _ _ _ [(1, .int .i64 at2), (2, .int .i64 here3), (3, .ptr 0 0), (6, .ptr 1 0), (8, .ptr 2 0), (9, .int .i64 deep517), (10, .int .i64 i508)] [(0, .row [.int .i64 n1_0, .str n1_1, .int .i64 n1_2, .int .i64 n1_3, .str n1_4, .int .i64 n1_5, .slice .sealed (List.length n1_6) (clTyp n1_6), .slice .sealed (List.length n1_7) (clTyp n1_7), .slice .sealed (List.length n1_8) (clNod n1_8), .int .i64 n1_9]), (1, .row [.int .i64 0, .str [], .int .i64 0, .int .i64 0, .str [], .int .i64 0, .slice (.tag 3) (List.length ([] : List Typ)) (clTyp ([] : List Typ)), .slice (.tag 4) (List.length ([] : List Typ)) (clTyp ([] : List Typ)), .slice (.tag 5) (List.length ([] : List Nod)) (clNod ([] : List Nod)), .int .i64 0]), (2, .row [.int .i64 n518_0, .str n518_1, .int .i64 n518_2, .int .i64 n518_3, .str n518_4, .int .i64 n518_5, .slice .sealed (List.length n518_6) (clTyp n518_6), .slice .sealed (List.length n518_7) (clTyp n518_7), .slice .sealed (List.length n518_8) (clNod n518_8), .int .i64 n518_9]), (3, .tip 0 0), (4, .tip 0 0), (5, .tip 0 0)] _
          refine ev_region ?_
          refine os_pure rfl rfl rfl ?_
          refine os_pure rfl rfl rfl ?_
          refine os_pure rfl rfl rfl ?_
          refine os_nil ?_
          exact ⟨_, _, rfl, ih (_, _, _) _ h⟩
      · replace h := cond_f h g6
        refine ev_exit ?_
        cases h
        exact rfl
    · obtain ⟨deep522, n523⟩ := y4
      obtain ⟨n523_0, n523_1, n523_2, ⟨n523_3, n523_4, n523_5, n523_6⟩, n523_7, n523_8, n523_9⟩ := n523
      show Ev _ _ _ _ _ [(6, .ptr 0 0), (8, .ptr 1 0), (9, .int .i64 deep522)] [(0, .row [.int .i64 0, .str [], .int .i64 0, .int .i64 0, .str [], .int .i64 0, .slice (.tag 2) (List.length ([] : List Typ)) (clTyp ([] : List Typ)), .slice (.tag 3) (List.length ([] : List Typ)) (clTyp ([] : List Typ)), .slice (.tag 4) (List.length ([] : List Nod)) (clNod ([] : List Nod)), .int .i64 0]), (1, .row [.int .i64 n523_0, .str n523_1, .int .i64 n523_2, .int .i64 n523_3, .str n523_4, .int .i64 n523_5, .slice .sealed (List.length n523_6) (clTyp n523_6), .slice .sealed (List.length n523_7) (clTyp n523_7), .slice .sealed (List.length n523_8) (clNod n523_8), .int .i64 n523_9]), (2, .tip 0 0), (3, .tip 0 0), (4, .tip 0 0)] _
      refine ev_seq ?_
      refine ev_region ?_
      refine os_eff rfl rfl rfl ?_
      refine os_pure rfl rfl rfl ?_
      refine os_eff rfl rfl rfl ?_
      refine os_pure rfl rfl rfl ?_
      refine os_nil ?_
      cases h
      exact ev_ret ⟨_, _, _, rfl, rfl, rfl⟩
theorem ref02_find_F.ok : ∀ n, (ref02_find_F.fs n).Ok
  | 0 => ⟨(fun h => by cases h)⟩
  | n + 1 => ⟨(fun h => ref02_find_b_ok n (ref02_find_F.ok n) h)⟩
theorem ref02_find_ok {n : Nat} {n1 : Nod} {at2 : Int} {here3 : Int} {r : Nod × Int} (h : ref02_find n n1 at2 here3 = some r) :
    E env (.call 74 [.agg [.int .i64 n1.op, .str n1.s, .int .i64 n1.n, .int .i64 n1.t.kind, .str n1.t.name, .int .i64 n1.t.n, .slice .sealed (List.length n1.t.args) (clTyp n1.t.args), .slice .sealed (List.length n1.ts) (clTyp n1.ts), .slice .sealed (List.length n1.l) (clNod n1.l), .int .i64 n1.at_], .int .i64 at2, .int .i64 here3]) [] = some (ref02_find_enc n1 at2 here3 r) := (ref02_find_F.ok n).ref02_find h
theorem ref02_Find_ok {n : Nat} {n1 : Nod} {at2 : Int} {r : Nod × Int} (h : ref02_Find n n1 at2 = some r) :
    E env (.call 34 [.agg [.int .i64 n1.op, .str n1.s, .int .i64 n1.n, .int .i64 n1.t.kind, .str n1.t.name, .int .i64 n1.t.n, .slice .sealed (List.length n1.t.args) (clTyp n1.t.args), .slice .sealed (List.length n1.ts) (clTyp n1.ts), .slice .sealed (List.length n1.l) (clNod n1.l), .int .i64 n1.at_], .int .i64 at2]) [] = some (ref02_Find_enc n1 at2 r) := by
  unfold ref02_Find at h
  obtain ⟨n1_0, n1_1, n1_2, ⟨n1_3, n1_4, n1_5, n1_6⟩, n1_7, n1_8, n1_9⟩ := n1
  refine call_out rfl Tryz.func34 rfl rfl ?_
  refine ev_seq ?_
  refine ev_region ?_
  refine os_eff rfl rfl rfl ?_
  refine os_eff rfl rfl rfl ?_
  refine os_pure rfl rfl rfl ?_
  refine os_nil ?_
  refine ev_seq ?_
  refine ev_region ?_
  refine os_eff rfl rfl rfl ?_
  refine os_pure rfl rfl rfl ?_
  obtain ⟨⟨r3, r4⟩, g1, h⟩ := bnd_inv h
  obtain ⟨r3_0, r3_1, r3_2, ⟨r3_3, r3_4, r3_5, r3_6⟩, r3_7, r3_8, r3_9⟩ := r3
  refine os_quiet rfl rfl rfl rfl rfl (ref02_find_ok g1) rfl ?_
  refine os_pure rfl rfl rfl ?_
  refine os_pure rfl rfl rfl ?_
  refine os_pure rfl rfl rfl ?_
  refine os_eff rfl rfl rfl ?_
  refine os_eff rfl rfl rfl ?_
  refine os_pure rfl rfl rfl ?_
  refine os_nil ?_
  refine ev_seq ?_
  refine ev_seq ?_
  refine ev_region ?_
  refine os_pure rfl rfl rfl ?_
  refine os_pure rfl rfl rfl ?_
  refine os_nil ?_
  refine ev_if rfl (fun g2 => ?_) (fun g2 => ?_)
  · replace h := cond_t h g2
    refine ev_seq ?_
    refine ev_region ?_
    refine os_pureD rfl rfl rfl ?_
    refine os_eff rfl rfl rfl ?_
    refine os_pure rfl rfl rfl ?_
    refine os_nil ?_
    cases h
    exact ev_ret ⟨_, _, _, rfl, rfl, rfl⟩
  · replace h := cond_f h g2
    refine ev_skip ?_
    refine ev_seq ?_
    refine ev_region ?_
    refine os_eff rfl rfl rfl ?_
    refine os_eff rfl rfl rfl ?_
    refine os_pure rfl rfl rfl ?_
    refine os_nil ?_
    cases h
    exact ev_ret ⟨_, _, _, rfl, rfl, rfl⟩
theorem law02_ParseFinds_ok {n : Nat} {n1 : Nod} {at2 : Int} {r : Bool} (h : law02_ParseFinds n n1 at2 = some r) :
    E env (.call 7 [.agg [.int .i64 n1.op, .str n1.s, .int .i64 n1.n, .int .i64 n1.t.kind, .str n1.t.name, .int .i64 n1.t.n, .slice .sealed (List.length n1.t.args) (clTyp n1.t.args), .slice .sealed (List.length n1.ts) (clTyp n1.ts), .slice .sealed (List.length n1.l) (clNod n1.l), .int .i64 n1.at_], .int .i64 at2]) [] = some (law02_ParseFinds_enc n1 at2 r) := by
  unfold law02_ParseFinds at h
  obtain ⟨n1_0, n1_1, n1_2, ⟨n1_3, n1_4, n1_5, n1_6⟩, n1_7, n1_8, n1_9⟩ := n1
  refine call_out rfl Tryz.func7 rfl rfl ?_
  refine ev_seq ?_
  refine ev_region ?_
  refine os_eff rfl rfl rfl ?_
  refine os_pure rfl rfl rfl ?_
  refine os_nil ?_
  refine ev_seq ?_
  refine ev_seq ?_
  refine ev_region ?_
  refine os_eff rfl rfl rfl ?_
  obtain ⟨r3, g1, h⟩ := bnd_inv h
  refine os_quiet rfl rfl rfl rfl rfl (law02_big_ok g1) rfl ?_
  refine os_nil ?_
  refine ev_if rfl (fun g2 => ?_) (fun g2 => ?_)
  · replace h := cond_t h g2
    refine ev_seq ?_
    refine ev_region ?_
    obtain ⟨r4, g3, h⟩ := bnd_inv h
    refine os_quiet rfl rfl rfl rfl rfl (law02_awake_ok g3) rfl ?_
    refine os_pure rfl rfl rfl ?_
    refine os_nil ?_
    cases h
    exact ev_ret ⟨_, _, _, rfl, rfl, rfl⟩
  · replace h := cond_f h g2
    refine ev_skip ?_
    refine ev_seq ?_
    refine ev_region ?_
    refine os_eff rfl rfl rfl ?_
    obtain ⟨⟨r5, r6⟩, g4, h⟩ := bnd_inv h
    refine os_quiet rfl rfl rfl rfl rfl (parse_Size_ok g4) rfl ?_
    refine os_pure rfl rfl rfl ?_
    refine os_pure rfl rfl rfl ?_
    refine os_pure rfl rfl rfl ?_
    refine os_pure rfl rfl rfl ?_
    refine os_pure rfl rfl rfl ?_
    refine os_nil ?_
    refine ev_seq ?_
    refine ev_region ?_
    refine os_eff rfl rfl rfl ?_
    obtain ⟨⟨r7, r8⟩, g5, h⟩ := bnd_inv h
    refine os_quiet rfl rfl rfl rfl rfl (ref02_Size_ok g5) rfl ?_
    refine os_pure rfl rfl rfl ?_
    refine os_pure rfl rfl rfl ?_
    refine os_pure rfl rfl rfl ?_
    refine os_pure rfl rfl rfl ?_
    refine os_pure rfl rfl rfl ?_
    refine os_nil ?_
    refine ev_seq ?_
    obtain ⟨y6, g7, h⟩ := bnd_inv h
    refine ev_seg [(1, .int .i64 at2), (2, .ptr 0 0), (33, .bool y6)] [(0, .row [.int .i64 n1_0, .str n1_1, .int .i64 n1_2, .int .i64 n1_3, .str n1_4, .int .i64 n1_5, .slice .sealed (List.length n1_6) (clTyp n1_6), .slice .sealed (List.length n1_7) (clTyp n1_7), .slice .sealed (List.length n1_8) (clNod n1_8), .int .i64 n1_9])] rfl ?_ ?_
    · replace h := g7
      clear g7
      refine ev_region ?_
      refine os_pure rfl rfl rfl ?_
      refine os_pure rfl rfl rfl ?_
      refine os_pure rfl rfl rfl ?_
      refine os_pure rfl rfl rfl ?_
      refine os_guard rfl rfl rfl (fun g8 => ?_) (fun g8 => ?_)
      · replace h := cond_t h g8
        refine os_skip rfl ?_
        refine os_skip rfl ?_
        refine os_skip rfl ?_
        refine os_pure rfl rfl rfl ?_
        refine os_nil ?_
        cases h
        exact rfl
      · replace h := cond_f h g8
        refine os_pure rfl rfl rfl ?_
        refine os_pure rfl rfl rfl ?_
        refine os_pure rfl rfl rfl ?_
        refine os_pure rfl rfl rfl ?_
        refine os_nil ?_
        cases h
        exact rfl
    · obtain ⟨x506, rfl⟩ : ∃ q, q = y6 := ⟨_, rfl⟩
      show Ev _ _ _ _ _ [(1, .int .i64 at2), (2, .ptr 0 0), (33, .bool x506)] [(0, .row [.int .i64 n1_0, .str n1_1, .int .i64 n1_2, .int .i64 n1_3, .str n1_4, .int .i64 n1_5, .slice .sealed (List.length n1_6) (clTyp n1_6), .slice .sealed (List.length n1_7) (clTyp n1_7), .slice .sealed (List.length n1_8) (clNod n1_8), .int .i64 n1_9])] _
      refine ev_if rfl (fun g9 => ?_) (fun g9 => ?_)
      · replace h := cond_t h g9
        refine ev_seq ?_
        refine ev_region ?_
        refine os_pure rfl rfl rfl ?_
        refine os_nil ?_
        cases h
        exact ev_ret ⟨_, _, _, rfl, rfl, rfl⟩
      · replace h := cond_f h g9
        refine ev_skip ?_
        refine ev_seq ?_
        refine ev_region ?_
        refine os_eff rfl rfl rfl ?_
        refine os_pure rfl rfl rfl ?_
        obtain ⟨⟨r9, r10⟩, g10, h⟩ := bnd_inv h
        obtain ⟨r9_0, r9_1, r9_2, ⟨r9_3, r9_4, r9_5, r9_6⟩, r9_7, r9_8, r9_9⟩ := r9
        refine os_quiet rfl rfl rfl rfl rfl (parse_Find_ok g10) rfl ?_
        refine os_pure rfl rfl rfl ?_
        refine os_pure rfl rfl rfl ?_
        refine os_pure rfl rfl rfl ?_
        refine os_eff rfl rfl rfl ?_
        refine os_eff rfl rfl rfl ?_
        refine os_pure rfl rfl rfl ?_
        refine os_nil ?_
        refine ev_seq ?_
        refine ev_region ?_
        refine os_eff rfl rfl rfl ?_
        refine os_pure rfl rfl rfl ?_
        obtain ⟨⟨r11, r12⟩, g11, h⟩ := bnd_inv h
        obtain ⟨r11_0, r11_1, r11_2, ⟨r11_3, r11_4, r11_5, r11_6⟩, r11_7, r11_8, r11_9⟩ := r11
        refine os_quiet rfl rfl rfl rfl rfl (ref02_Find_ok g11) rfl ?_
        refine os_pure rfl rfl rfl ?_
        refine os_pure rfl rfl rfl ?_
        refine os_pure rfl rfl rfl ?_
        refine os_eff rfl rfl rfl ?_
        refine os_eff rfl rfl rfl ?_
        refine os_pure rfl rfl rfl ?_
        refine os_nil ?_
        refine ev_seq ?_
        refine ev_region ?_
        refine os_pure rfl rfl rfl ?_
        refine os_pure rfl rfl rfl ?_
        refine os_pure rfl rfl rfl ?_
        refine os_pure rfl rfl rfl ?_
        refine os_guard rfl rfl rfl (fun g12 => ?_) (fun g12 => ?_)
        · replace h := cond_t h g12
          refine os_eff rfl rfl rfl ?_
          refine os_eff rfl rfl rfl ?_
          obtain ⟨r13, g13, h⟩ := bnd_inv h
          refine os_quiet rfl rfl rfl rfl rfl (ref00_EqNode_ok g13) rfl ?_
          refine os_pure rfl rfl rfl ?_
          refine os_pure rfl rfl rfl ?_
          refine os_guard rfl rfl rfl (fun g14 => ?_) (fun g14 => ?_)
          · replace h := cond_t h g14
            obtain ⟨r14, g15, h⟩ := bnd_inv h
            refine os_quiet rfl rfl rfl rfl rfl (law02_awake_ok g15) rfl ?_
            refine os_pure rfl rfl rfl ?_
            refine os_pure rfl rfl rfl ?_
            refine os_nil ?_
            cases h
            exact ev_ret ⟨_, _, _, rfl, rfl, rfl⟩
          · replace h := cond_f h g14
            refine os_skip rfl ?_
            refine os_pure rfl rfl rfl ?_
            refine os_pure rfl rfl rfl ?_
            refine os_nil ?_
            cases h
            exact ev_ret ⟨_, _, _, rfl, rfl, rfl⟩
        · replace h := cond_f h g12
          refine os_skip rfl ?_
          refine os_skip rfl ?_
          refine os_skip rfl ?_
          refine os_pure rfl rfl rfl ?_
          refine os_pure rfl rfl rfl ?_
          refine os_skip rfl ?_
          refine os_pure rfl rfl rfl ?_
          refine os_pure rfl rfl rfl ?_
          refine os_nil ?_
          cases h
          exact ev_ret ⟨_, _, _, rfl, rfl, rfl⟩
end Go.Proofs.YtmonfppdiehlpaaGreatDoor
/- ParseFinds: what the evaluator gives is true, for every node that fits. -/
namespace Go.Proofs.YtmonfppdiehlpaaGreatDoor
set_option linter.unusedSimpArgs false
set_option linter.unusedVariables false
set_option linter.unusedSectionVars false
open Go Go.Vm
theorem finds_E (x : Nod) (at_ : Int) (hf : x.fits) : E env (.call 7 [.agg (c1Nod x), .int .i64 at_]) [] = some (.ret (.bool true) []) := by
  obtain ⟨n, hn⟩ := finds_true x at_ hf
  exact law02_ParseFinds_ok hn
end Go.Proofs.YtmonfppdiehlpaaGreatDoor
