/- What the functions under ParseTypes compute: texts that were built one by one, joined: YP1 YP2 YP3 YY. -/
import Derived.Test.YtmonfppdiehlpaaGreatDoorParseTypesM6
/- The functions do what the plain Lean says. (Printed by a program.) -/
namespace Go.Proofs.YtmonfppdiehlpaaGreatDoor
set_option linter.unusedSimpArgs false
set_option linter.unusedVariables false
set_option linter.unusedSectionVars false
open Go Go.Vm
set_option maxRecDepth 100000
set_option maxHeartbeats 20000000
set_option linter.unusedVariables false
structure ref02_reader_typ_F.Ok (Φ : ref02_reader_typ_F) : Prop where
  ref02_reader_typ : ∀ {l1 : List Tok} {end2 : Int} {at3 : Int} {place4 : Int} {r : Typ × Bool × Int}, Φ.ref02_reader_typ l1 end2 at3 place4 = some r → E env (.call 66 [.ptr 0 0]) [(0, .row [.slice .sealed (List.length l1) (clTok l1), .int .i64 end2, .int .i64 at3, .int .i64 place4])] = some (ref02_reader_typ_enc l1 end2 at3 place4 r)
  ref02_reader_types : ∀ {l1 : List Tok} {end2 : Int} {at3 : Int} {place4 : Int} {r : List Typ × Bool × Int}, Φ.ref02_reader_types l1 end2 at3 place4 = some r → E env (.call 138 [.ptr 0 0]) [(0, .row [.slice .sealed (List.length l1) (clTok l1), .int .i64 end2, .int .i64 at3, .int .i64 place4])] = some (ref02_reader_types_enc l1 end2 at3 place4 r)
  ref02_reader_base : ∀ {l1 : List Tok} {end2 : Int} {at3 : Int} {place4 : Int} {r : Typ × Bool × Int}, Φ.ref02_reader_base l1 end2 at3 place4 = some r → E env (.call 139 [.ptr 0 0]) [(0, .row [.slice .sealed (List.length l1) (clTok l1), .int .i64 end2, .int .i64 at3, .int .i64 place4])] = some (ref02_reader_base_enc l1 end2 at3 place4 r)
theorem ref02_reader_typ_b_ok (n : Nat) {Φ : ref02_reader_typ_F} (hΦ : Φ.Ok) {l1 : List Tok} {end2 : Int} {at3 : Int} {place4 : Int} {r : Typ × Bool × Int} (h : ref02_reader_typ_b n Φ l1 end2 at3 place4 = some r) :
    E env (.call 66 [.ptr 0 0]) [(0, .row [.slice .sealed (List.length l1) (clTok l1), .int .i64 end2, .int .i64 at3, .int .i64 place4])] = some (ref02_reader_typ_enc l1 end2 at3 place4 r) := by
  unfold ref02_reader_typ_b at h
  refine call_out rfl Tryz.func66 rfl rfl ?_
  refine ev_seq ?_
  refine ev_region ?_
  refine os_eff rfl rfl rfl ?_
  refine os_pure rfl rfl rfl ?_
  refine os_nil ?_
  refine ev_seq ?_
  refine ev_seq ?_
  refine ev_region ?_
  refine os_pure rfl rfl rfl ?_
  obtain ⟨⟨r5, at6⟩, g1, h⟩ := bnd_inv h
  refine os_call rfl rfl rfl (callVia_eq rfl rfl (ref02_reader_key_ok g1) rfl rfl rfl) ?_
  refine os_nil ?_
  refine ev_if rfl (fun g2 => ?_) (fun g2 => ?_)
  · replace h := cond_t h g2
    refine ev_seq ?_
    refine ev_region ?_
    refine os_pure rfl rfl rfl ?_
    obtain ⟨⟨r7, r8, at9⟩, g3, h⟩ := bnd_inv h
    refine os_call rfl rfl rfl (callVia_eq rfl rfl (ref02_reader_word_ok g3) rfl rfl rfl) ?_
    refine os_pure rfl rfl rfl ?_
    refine os_pure rfl rfl rfl ?_
    refine os_pure rfl rfl rfl ?_
    refine os_pure rfl rfl rfl ?_
    refine os_pure rfl rfl rfl ?_
    refine os_nil ?_
    refine ev_seq ?_
    refine ev_region ?_
    refine os_pure rfl rfl rfl ?_
    refine os_pureD rfl rfl rfl ?_
    refine os_pure rfl rfl rfl ?_
    refine os_eff rfl rfl rfl ?_
    refine os_pure rfl rfl rfl ?_
    refine os_nil ?_
    cases h
    exact ev_ret ⟨_, _, _, rfl, rfl, rfl⟩
  · replace h := cond_f h g2
    refine ev_skip ?_
    refine ev_seq ?_
    refine ev_seq ?_
    refine ev_region ?_
    refine os_pure rfl rfl rfl ?_
    obtain ⟨⟨r10, at11⟩, g4, h⟩ := bnd_inv h
    refine os_call rfl rfl rfl (callVia_eq rfl rfl (ref02_reader_sign_ok g4) rfl rfl rfl) ?_
    refine os_nil ?_
    refine ev_if rfl (fun g5 => ?_) (fun g5 => ?_)
    · replace h := cond_t h g5
      refine ev_seq ?_
      refine ev_region ?_
      refine os_pureD rfl rfl rfl ?_
      refine os_eff rfl rfl rfl ?_
      refine os_eff rfl rfl rfl ?_
      refine os_nil ?_
      obtain ⟨y6, g7, h⟩ := bindL_inv h
      refine ev_segL (KR := fun r => OutK env 66 1 Tryz.f66.results.toList (ref02_reader_typ_enc l1 end2 at3 place4 r)) y6 (fun z20 => [(0, .ptr 0 0), (2, .ptr 1 0), (6, .ptr 2 0)]) (fun z20 => [(0, .row [.slice .sealed (List.length l1) (clTok l1), .int .i64 end2, .int .i64 z20.1, .int .i64 place4]), (1, .row [.int .i64 0, .str [], .int .i64 0, .slice (.tag 3) (List.length ([] : List Typ)) (clTyp ([] : List Typ))]), (2, .row [.int .i64 10, .str [], .int .i64 0, .slice (.tag 4) (List.length z20.2) (clTyp z20.2)]), (3, .tip 0 0), (4, .tip (tpe 4 (List.length z20.2)) (List.length z20.2))]) rfl ?_ (fun z20 hx => ?_) (fun r res hz hr hn => ?_)
      · replace h := g7
        clear g7
        refine ev_seq ?_
        refine ev_region ?_
        refine os_pure rfl rfl rfl ?_
        obtain ⟨⟨r12, at13⟩, g8, h⟩ := bnd_inv h
        refine os_call rfl rfl rfl (callVia_eq rfl rfl (ref02_reader_sign_ok g8) rfl rfl rfl) ?_
        refine os_pure rfl rfl rfl ?_
        refine os_nil ?_
        refine ev_if rfl (fun g9 => ?_) (fun g9 => ?_)
        · replace h := cond_t h g9
          refine ev_seq ?_
          refine ev_region ?_
          refine os_pure rfl rfl rfl ?_
          obtain ⟨⟨r14, r15, at16⟩, g10, h⟩ := bnd_inv h
          refine os_call rfl rfl rfl (callVia_eq rfl rfl (hΦ.ref02_reader_types g10) rfl rfl rfl) ?_
          refine os_pure rfl rfl rfl ?_
          refine os_pure rfl rfl rfl ?_
          refine os_pure rfl rfl rfl ?_
          refine os_pure rfl rfl rfl ?_
          refine os_pure rfl rfl rfl ?_
          refine os_nil ?_
          refine ev_seq ?_
          obtain ⟨y11, g12, h⟩ := bnd_inv h
          refine ev_seg [(0, .ptr 0 0), (2, .ptr 1 0), (6, .ptr 2 0), (7, .slice (.tag 3) (List.length r14) (clTyp r14)), (43, .bool y11.1)] [(0, .row [.slice .sealed (List.length l1) (clTok l1), .int .i64 end2, .int .i64 y11.2, .int .i64 place4]), (1, .row [.int .i64 0, .str [], .int .i64 0, .slice (.tag 4) (List.length ([] : List Typ)) (clTyp ([] : List Typ))]), (2, .row [.int .i64 10, .str [], .int .i64 0, .slice (.tag 5) (List.length ([] : List Typ)) (clTyp ([] : List Typ))]), (3, .tip (tpe 4 (List.length r14)) (List.length r14)), (4, .tip 0 0), (5, .tip 0 0)] rfl ?_ ?_
          · replace h := g12
            clear g12
            refine ev_region ?_
            refine os_pure rfl rfl rfl ?_
            refine os_pure rfl rfl rfl ?_
            refine os_pure rfl rfl rfl ?_
            refine os_guard rfl rfl rfl (fun g13 => ?_) (fun g13 => ?_)
            · replace h := cond_t h g13
              refine os_skip rfl ?_
              refine os_skip rfl ?_
              refine os_skip rfl ?_
              refine os_pure rfl rfl rfl ?_
              refine os_nil ?_
              cases h
              exact rfl
            · replace h := cond_f h g13
              refine os_pure rfl rfl rfl ?_
              obtain ⟨⟨r17, at18⟩, g14, h⟩ := bnd_inv h
              refine os_call rfl rfl rfl (callVia_eq rfl rfl (ref02_reader_sign_ok g14) rfl rfl rfl) ?_
              refine os_pure rfl rfl rfl ?_
              refine os_pure rfl rfl rfl ?_
              refine os_nil ?_
              cases h
              exact rfl
          · obtain ⟨x507, at508⟩ := y11
            show Ev _ _ _ _ _ [(0, .ptr 0 0), (2, .ptr 1 0), (6, .ptr 2 0), (7, .slice (.tag 3) (List.length r14) (clTyp r14)), (43, .bool x507)] [(0, .row [.slice .sealed (List.length l1) (clTok l1), .int .i64 end2, .int .i64 at508, .int .i64 place4]), (1, .row [.int .i64 0, .str [], .int .i64 0, .slice (.tag 4) (List.length ([] : List Typ)) (clTyp ([] : List Typ))]), (2, .row [.int .i64 10, .str [], .int .i64 0, .slice (.tag 5) (List.length ([] : List Typ)) (clTyp ([] : List Typ))]), (3, .tip (tpe 4 (List.length r14)) (List.length r14)), (4, .tip 0 0), (5, .tip 0 0)] _
            refine ev_if rfl (fun g15 => ?_) (fun g15 => ?_)
            · replace h := cond_t h g15
              refine ev_seq ?_
              refine ev_region ?_
              refine os_eff rfl rfl rfl ?_
              refine os_eff rfl rfl rfl ?_
              refine os_pure rfl rfl rfl ?_
              refine os_nil ?_
              cases h
              exact ev_ret ⟨_, rfl, _, _, _, rfl, rfl, rfl⟩
            · replace h := cond_f h g15
              refine ev_skip ?_
              refine ev_region ?_
              refine os_pure rfl rfl rfl ?_
              refine os_pure rfl rfl rfl ?_
              refine os_eff rfl rfl rfl ?_
              refine os_nil ?_
              cases h
              exact ⟨_, rfl, rfl⟩
        · replace h := cond_f h g9
          refine ev_skip ?_
          cases h
          exact ⟨_, rfl, rfl⟩
      · subst hx
        obtain ⟨at514, args515⟩ := z20
        show Ev _ _ _ _ _ [(0, .ptr 0 0), (2, .ptr 1 0), (6, .ptr 2 0)] [(0, .row [.slice .sealed (List.length l1) (clTok l1), .int .i64 end2, .int .i64 at514, .int .i64 place4]), (1, .row [.int .i64 0, .str [], .int .i64 0, .slice (.tag 3) (List.length ([] : List Typ)) (clTyp ([] : List Typ))]), (2, .row [.int .i64 10, .str [], .int .i64 0, .slice (.tag 4) (List.length args515) (clTyp args515)]), (3, .tip 0 0), (4, .tip (tpe 4 (List.length args515)) (List.length args515))] _
        refine ev_seq ?_
        refine ev_seq ?_
        refine ev_region ?_
        refine os_pure rfl rfl rfl ?_
        obtain ⟨⟨r19, at20⟩, g16, h⟩ := bnd_inv h
        refine os_call rfl rfl rfl (callVia_eq rfl rfl (ref02_reader_sign_ok g16) rfl rfl rfl) ?_
        refine os_pure rfl rfl rfl ?_
        refine os_nil ?_
        refine ev_if rfl (fun g17 => ?_) (fun g17 => ?_)
        · replace h := cond_t h g17
          refine ev_seq ?_
          refine ev_region ?_
          refine os_eff rfl rfl rfl ?_
          refine os_eff rfl rfl rfl ?_
          refine os_pure rfl rfl rfl ?_
          refine os_nil ?_
          cases h
          exact ev_ret ⟨_, _, _, rfl, rfl, rfl⟩
        · replace h := cond_f h g17
          refine ev_skip ?_
          refine ev_seq ?_
          refine ev_region ?_
          refine os_pure rfl rfl rfl ?_
          obtain ⟨⟨r21, r22, at23⟩, g18, h⟩ := bnd_inv h
          obtain ⟨r21_0, r21_1, r21_2, r21_3⟩ := r21
          refine os_call rfl rfl rfl (callVia_eq rfl rfl (hΦ.ref02_reader_typ g18) rfl rfl rfl) ?_
          refine os_pure rfl rfl rfl ?_
          refine os_pure rfl rfl rfl ?_
          refine os_pure rfl rfl rfl ?_
          refine os_eff rfl rfl rfl ?_
          refine os_eff rfl rfl rfl ?_
          refine os_pure rfl rfl rfl ?_
          refine os_nil ?_
          refine ev_seq ?_
          refine ev_region ?_
          refine os_pure rfl rfl rfl ?_
          refine os_eff rfl rfl rfl ?_
          refine os_eff rfl rfl rfl ?_
          refine os_pure rfl rfl rfl ?_
          obtain ⟨l24, g19, h⟩ := bnd_inv h
          refine os_app encTyp g19 rfl rfl rfl rfl rfl rfl rfl rfl rfl rfl rfl rfl rfl rfl (gd_t (eqN_ok rfl) rfl) rfl rfl rfl ?_
          refine os_pure rfl rfl rfl ?_
          refine os_nil ?_
          refine ev_seq ?_
          refine ev_region ?_
          refine os_pure rfl rfl rfl ?_
          refine os_pure rfl rfl rfl ?_
          refine os_eff rfl rfl rfl ?_
          refine os_nil ?_
          refine ev_seq ?_
          refine ev_region ?_
          refine os_eff rfl rfl rfl ?_
          refine os_pure rfl rfl rfl ?_
          refine os_eff rfl rfl rfl ?_
          refine os_pure rfl rfl rfl ?_
          refine os_nil ?_
          cases h
          exact ev_ret ⟨_, _, _, rfl, rfl, rfl⟩
      · subst hz
        obtain ⟨e, fr1, H1⟩ := res
        cases e with
        | normal => exact absurd rfl hn
        | ret => cases h; exact hr
        | exit i => exact hr.elim
        | panic v => cases h; exact hr
    · replace h := cond_f h g5
      refine ev_skip ?_
      refine ev_seq ?_
      refine ev_region ?_
      refine os_pure rfl rfl rfl ?_
      obtain ⟨⟨r25, r26, at27⟩, g21, h⟩ := bnd_inv h
      obtain ⟨r25_0, r25_1, r25_2, r25_3⟩ := r25
      refine os_call rfl rfl rfl (callVia_eq rfl rfl (hΦ.ref02_reader_base g21) rfl rfl rfl) ?_
      refine os_pure rfl rfl rfl ?_
      refine os_pure rfl rfl rfl ?_
      refine os_pure rfl rfl rfl ?_
      refine os_eff rfl rfl rfl ?_
      refine os_eff rfl rfl rfl ?_
      refine os_pure rfl rfl rfl ?_
      refine os_nil ?_
      obtain ⟨y22, g23, h⟩ := bnd_inv h
      refine ev_seg [(2, .ptr 1 0), (12, .ptr 2 0), (13, .bool y22.1)] [(0, .row [.slice .sealed (List.length l1) (clTok l1), .int .i64 end2, .int .i64 y22.2.1, .int .i64 place4]), (1, .row [.int .i64 0, .str [], .int .i64 0, .slice (.tag 3) (List.length ([] : List Typ)) (clTyp ([] : List Typ))]), (2, .row [.int .i64 y22.2.2.kind, .str y22.2.2.name, .int .i64 y22.2.2.n, .slice .sealed (List.length y22.2.2.args) (clTyp y22.2.2.args)]), (3, .tip 0 0)] rfl ?_ ?_
      · replace h := g23
        clear g23
        refine ev_block ?_
        refine ev_loop rfl ?_
        revert y22
        refine lp_fuel (fun m (x : Bool × Int × Typ) => ref02_reader_typ_l18 n Φ end2 l1 place4 m x.1 x.2.1 x.2.2) (fun x => [(0, .ptr 0 0), (2, .ptr 1 0), (12, .ptr 2 0), (13, .bool x.1)]) (fun x => [(0, .row [.slice .sealed (List.length l1) (clTok l1), .int .i64 end2, .int .i64 x.2.1, .int .i64 place4]), (1, .row [.int .i64 0, .str [], .int .i64 0, .slice (.tag 3) (List.length ([] : List Typ)) (clTyp ([] : List Typ))]), (2, .row [.int .i64 x.2.2.kind, .str x.2.2.name, .int .i64 x.2.2.n, .slice .sealed (List.length x.2.2.args) (clTyp x.2.2.args)]), (3, .tip 0 0)]) _ (fun _ => rfl) (fun m18 x y ih h => ?_) n (r26, at27, (Typ.mk r25_0 r25_1 r25_2 r25_3))
        obtain ⟨ok576, at577, n578⟩ := x
        obtain ⟨n578_0, n578_1, n578_2, n578_3⟩ := n578
        show Ev _ _ _ _ _ [(0, .ptr 0 0), (2, .ptr 1 0), (12, .ptr 2 0), (13, .bool ok576)] [(0, .row [.slice .sealed (List.length l1) (clTok l1), .int .i64 end2, .int .i64 at577, .int .i64 place4]), (1, .row [.int .i64 0, .str [], .int .i64 0, .slice (.tag 3) (List.length ([] : List Typ)) (clTyp ([] : List Typ))]), (2, .row [.int .i64 n578_0, .str n578_1, .int .i64 n578_2, .slice .sealed (List.length n578_3) (clTyp n578_3)]), (3, .tip 0 0)] _
        replace h : ref02_reader_typ_l18 n Φ end2 l1 place4 (m18 + 1) ok576 at577 (Typ.mk n578_0 n578_1 n578_2 n578_3) = some y := h
        rw [ref02_reader_typ_l18] at h
        refine ev_seq ?_
        obtain ⟨y24, g25, h⟩ := bnd_inv h
        refine ev_seg [(0, .ptr 0 0), (2, .ptr 1 0), (12, .ptr 2 0), (13, .bool ok576), (74, .bool y24.1)] [(0, .row [.slice .sealed (List.length l1) (clTok l1), .int .i64 end2, .int .i64 y24.2, .int .i64 place4]), (1, .row [.int .i64 0, .str [], .int .i64 0, .slice (.tag 3) (List.length ([] : List Typ)) (clTyp ([] : List Typ))]), (2, .row [.int .i64 n578_0, .str n578_1, .int .i64 n578_2, .slice .sealed (List.length n578_3) (clTyp n578_3)]), (3, .tip 0 0)] rfl ?_ ?_
        · replace h := g25
          clear g25
          refine ev_region ?_
          refine os_pure rfl rfl rfl ?_
          refine os_pure rfl rfl rfl ?_
          refine os_guard rfl rfl rfl (fun g26 => ?_) (fun g26 => ?_)
          · replace h := cond_t h g26
            refine os_pure rfl rfl rfl ?_
            obtain ⟨⟨r28, at29⟩, g27, h⟩ := bnd_inv h
            refine os_call rfl rfl rfl (callVia_eq rfl rfl (ref02_reader_sign_ok g27) rfl rfl rfl) ?_
            refine os_pure rfl rfl rfl ?_
            refine os_nil ?_
            cases h
            exact rfl
          · replace h := cond_f h g26
            refine os_skip rfl ?_
            refine os_skip rfl ?_
            refine os_pure rfl rfl rfl ?_
            refine os_nil ?_
            cases h
            exact rfl
        · obtain ⟨x590, at591⟩ := y24
          show Ev _ _ _ _ _ [(0, .ptr 0 0), (2, .ptr 1 0), (12, .ptr 2 0), (13, .bool ok576), (74, .bool x590)] [(0, .row [.slice .sealed (List.length l1) (clTok l1), .int .i64 end2, .int .i64 at591, .int .i64 place4]), (1, .row [.int .i64 0, .str [], .int .i64 0, .slice (.tag 3) (List.length ([] : List Typ)) (clTyp ([] : List Typ))]), (2, .row [.int .i64 n578_0, .str n578_1, .int .i64 n578_2, .slice .sealed (List.length n578_3) (clTyp n578_3)]), (3, .tip 0 0)] _
          refine ev_if rfl (fun g28 => ?_) (fun g28 => ?_)
          · replace h := cond_t h g28
            refine ev_skip ?_
            refine ev_block ?_
            refine ev_seq ?_
            refine ev_region ?_
            refine os_pure rfl rfl rfl ?_
            obtain ⟨⟨r30, r31, at32⟩, g29, h⟩ := bnd_inv h
            refine os_call rfl rfl rfl (callVia_eq rfl rfl (ref02_reader_word_ok g29) rfl rfl rfl) ?_
            refine os_pure rfl rfl rfl ?_
            refine os_pure rfl rfl rfl ?_
            refine os_pure rfl rfl rfl ?_
            refine os_pure rfl rfl rfl ?_
            refine os_pure rfl rfl rfl ?_
            refine os_nil ?_
            refine ev_seq ?_
            refine ev_region ?_
            refine os_pure rfl rfl rfl ?_
            refine os_eff rfl rfl rfl ?_
            refine os_pure rfl rfl rfl ?_
            refine os_pureD rfl rfl rfl ?_
            refine os_eff rfl rfl rfl ?_
            refine os_nil ?_
            refine ev_region ?_
            refine os_pure rfl rfl rfl ?_
            refine os_pure rfl rfl rfl ?_
            refine os_nil ?_
            exact ⟨_, _, rfl, ih (_, _, _) _ h⟩
          · replace h := cond_f h g28
            refine ev_exit ?_
            cases h
            exact rfl
      · obtain ⟨ok595, at596, n597⟩ := y22
        obtain ⟨n597_0, n597_1, n597_2, n597_3⟩ := n597
        show Ev _ _ _ _ _ [(2, .ptr 1 0), (12, .ptr 2 0), (13, .bool ok595)] [(0, .row [.slice .sealed (List.length l1) (clTok l1), .int .i64 end2, .int .i64 at596, .int .i64 place4]), (1, .row [.int .i64 0, .str [], .int .i64 0, .slice (.tag 3) (List.length ([] : List Typ)) (clTyp ([] : List Typ))]), (2, .row [.int .i64 n597_0, .str n597_1, .int .i64 n597_2, .slice .sealed (List.length n597_3) (clTyp n597_3)]), (3, .tip 0 0)] _
        refine ev_seq ?_
        refine ev_region ?_
        refine os_eff rfl rfl rfl ?_
        refine os_pure rfl rfl rfl ?_
        refine os_eff rfl rfl rfl ?_
        refine os_pure rfl rfl rfl ?_
        refine os_nil ?_
        cases h
        exact ev_ret ⟨_, _, _, rfl, rfl, rfl⟩
theorem ref02_reader_types_b_ok (n : Nat) {Φ : ref02_reader_typ_F} (hΦ : Φ.Ok) {l1 : List Tok} {end2 : Int} {at3 : Int} {place4 : Int} {r : List Typ × Bool × Int} (h : ref02_reader_types_b n Φ l1 end2 at3 place4 = some r) :
    E env (.call 138 [.ptr 0 0]) [(0, .row [.slice .sealed (List.length l1) (clTok l1), .int .i64 end2, .int .i64 at3, .int .i64 place4])] = some (ref02_reader_types_enc l1 end2 at3 place4 r) := by
  unfold ref02_reader_types_b at h
  refine call_out rfl Tryz.func138 rfl rfl ?_
  refine ev_seq ?_
  refine ev_region ?_
  refine os_pure rfl rfl rfl ?_
  refine os_pure rfl rfl rfl ?_
  refine os_nil ?_
  refine ev_seq ?_
  refine ev_region ?_
  refine os_pure rfl rfl rfl ?_
  refine os_nil ?_
  obtain ⟨y1, g2, h⟩ := bindL_inv h
  refine ev_segL (KR := fun r => OutK env 138 1 Tryz.f138.results.toList (ref02_reader_types_enc l1 end2 at3 place4 r)) y1 (fun z8 => [(4, .slice (.tag 1) (List.length z8.1) (clTyp z8.1))]) (fun z8 => [(0, .row [.slice .sealed (List.length l1) (clTok l1), .int .i64 end2, .int .i64 z8.2, .int .i64 place4]), (1, .tip (tpe 4 (List.length z8.1)) (List.length z8.1))]) rfl ?_ (fun z8 hx => ?_) (fun r res hz hr hn => ?_)
  · replace h := g2
    clear g2
    refine ev_seq ?_
    refine ev_region ?_
    refine os_pure rfl rfl rfl ?_
    refine os_nil ?_
    refine ev_block ?_
    refine ev_loop rfl ?_
    revert y1
    refine lp_fuel (fun m (x : List Typ × Bool × Int) => ref02_reader_types_l3 n Φ end2 l1 place4 m x.1 x.2.1 x.2.2) (fun x => [(0, .ptr 0 0), (4, .slice (.tag 1) (List.length x.1) (clTyp x.1)), (5, .bool x.2.1)]) (fun x => [(0, .row [.slice .sealed (List.length l1) (clTok l1), .int .i64 end2, .int .i64 x.2.2, .int .i64 place4]), (1, .tip (tpe 4 (List.length x.1)) (List.length x.1))]) _ (fun _ => rfl) (fun m3 x y ih h => ?_) n (([] : List Typ), true, at3)
    obtain ⟨l501, more502, at503⟩ := x
    show Ev _ _ _ _ _ [(0, .ptr 0 0), (4, .slice (.tag 1) (List.length l501) (clTyp l501)), (5, .bool more502)] [(0, .row [.slice .sealed (List.length l1) (clTok l1), .int .i64 end2, .int .i64 at503, .int .i64 place4]), (1, .tip (tpe 4 (List.length l501)) (List.length l501))] _
    replace h : ref02_reader_types_l3 n Φ end2 l1 place4 (m3 + 1) l501 more502 at503 = some y := h
    rw [ref02_reader_types_l3] at h
    refine ev_seq ?_
    refine ev_seq ?_
    refine ev_region ?_
    refine os_pure rfl rfl rfl ?_
    refine os_nil ?_
    refine ev_if rfl (fun g3 => ?_) (fun g3 => ?_)
    · replace h := cond_t h g3
      refine ev_skip ?_
      refine ev_block ?_
      refine ev_seq ?_
      refine ev_region ?_
      refine os_pure rfl rfl rfl ?_
      obtain ⟨⟨r5, r6, at7⟩, g4, h⟩ := bnd_inv h
      obtain ⟨r5_0, r5_1, r5_2, r5_3⟩ := r5
      refine os_call rfl rfl rfl (callVia_eq rfl rfl (hΦ.ref02_reader_typ g4) rfl rfl rfl) ?_
      refine os_pure rfl rfl rfl ?_
      refine os_pure rfl rfl rfl ?_
      refine os_pure rfl rfl rfl ?_
      refine os_eff rfl rfl rfl ?_
      refine os_eff rfl rfl rfl ?_
      refine os_pure rfl rfl rfl ?_
      refine os_nil ?_
      refine ev_seq ?_
      refine ev_seq ?_
      refine ev_region ?_
      refine os_pure rfl rfl rfl ?_
      refine os_pure rfl rfl rfl ?_
      refine os_nil ?_
      refine ev_if rfl (fun g5 => ?_) (fun g5 => ?_)
      · replace h := cond_t h g5
        refine ev_seq ?_
        refine ev_region ?_
        refine os_pure rfl rfl rfl ?_
        refine os_pure rfl rfl rfl ?_
        refine os_pure rfl rfl rfl ?_
        refine os_nil ?_
        cases h
        exact ev_ret ⟨_, rfl, _, _, _, rfl, rfl, rfl⟩
      · replace h := cond_f h g5
        refine ev_skip ?_
        refine ev_seq ?_
        refine ev_region ?_
        refine os_pure rfl rfl rfl ?_
        refine os_eff rfl rfl rfl ?_
        refine os_pure rfl rfl rfl ?_
        obtain ⟨l8, g6, h⟩ := bnd_inv h
        refine os_app encTyp g6 rfl rfl rfl rfl rfl rfl rfl rfl rfl rfl rfl rfl rfl rfl (gd_t (eqN_ok rfl) rfl) rfl rfl rfl ?_
        refine os_pure rfl rfl rfl ?_
        refine os_nil ?_
        refine ev_region ?_
        refine os_pure rfl rfl rfl ?_
        obtain ⟨⟨r9, at10⟩, g7, h⟩ := bnd_inv h
        refine os_call rfl rfl rfl (callVia_eq rfl rfl (ref02_reader_sign_ok g7) rfl rfl rfl) ?_
        refine os_pure rfl rfl rfl ?_
        refine os_nil ?_
        exact ⟨_, _, rfl, ih (_, _, _) _ h⟩
    · replace h := cond_f h g3
      refine ev_exit ?_
      cases h
      exact ⟨_, rfl, rfl⟩
  · subst hx
    obtain ⟨l508, at509⟩ := z8
    show Ev _ _ _ _ _ [(4, .slice (.tag 1) (List.length l508) (clTyp l508))] [(0, .row [.slice .sealed (List.length l1) (clTok l1), .int .i64 end2, .int .i64 at509, .int .i64 place4]), (1, .tip (tpe 4 (List.length l508)) (List.length l508))] _
    refine ev_seq ?_
    refine ev_region ?_
    refine os_pure rfl rfl rfl ?_
    refine os_pure rfl rfl rfl ?_
    refine os_pure rfl rfl rfl ?_
    refine os_nil ?_
    cases h
    exact ev_ret ⟨_, _, _, rfl, rfl, rfl⟩
  · subst hz
    obtain ⟨e, fr1, H1⟩ := res
    cases e with
    | normal => exact absurd rfl hn
    | ret => cases h; exact hr
    | exit i => exact hr.elim
    | panic v => cases h; exact hr
theorem ref02_reader_base_b_ok (n : Nat) {Φ : ref02_reader_typ_F} (hΦ : Φ.Ok) {l1 : List Tok} {end2 : Int} {at3 : Int} {place4 : Int} {r : Typ × Bool × Int} (h : ref02_reader_base_b n Φ l1 end2 at3 place4 = some r) :
    E env (.call 139 [.ptr 0 0]) [(0, .row [.slice .sealed (List.length l1) (clTok l1), .int .i64 end2, .int .i64 at3, .int .i64 place4])] = some (ref02_reader_base_enc l1 end2 at3 place4 r) := by
  unfold ref02_reader_base_b at h
  refine call_out rfl Tryz.func139 rfl rfl ?_
  refine ev_seq ?_
  refine ev_region ?_
  refine os_eff rfl rfl rfl ?_
  refine os_pure rfl rfl rfl ?_
  refine os_nil ?_
  refine ev_seq ?_
  refine ev_region ?_
  refine os_pure rfl rfl rfl ?_
  obtain ⟨⟨r5, r6, at7⟩, g1, h⟩ := bnd_inv h
  refine os_call rfl rfl rfl (callVia_eq rfl rfl (ref02_reader_word_ok g1) rfl rfl rfl) ?_
  refine os_pure rfl rfl rfl ?_
  refine os_pure rfl rfl rfl ?_
  refine os_pure rfl rfl rfl ?_
  refine os_pure rfl rfl rfl ?_
  refine os_pure rfl rfl rfl ?_
  refine os_nil ?_
  refine ev_seq ?_
  refine ev_seq ?_
  refine ev_region ?_
  refine os_pure rfl rfl rfl ?_
  refine os_pure rfl rfl rfl ?_
  refine os_nil ?_
  refine ev_if rfl (fun g2 => ?_) (fun g2 => ?_)
  · replace h := cond_t h g2
    refine ev_seq ?_
    refine ev_region ?_
    refine os_pureD rfl rfl rfl ?_
    refine os_eff rfl rfl rfl ?_
    refine os_pure rfl rfl rfl ?_
    refine os_nil ?_
    cases h
    exact ev_ret ⟨_, _, _, rfl, rfl, rfl⟩
  · replace h := cond_f h g2
    refine ev_skip ?_
    refine ev_seq ?_
    refine ev_region ?_
    refine os_pure rfl rfl rfl ?_
    refine os_nil ?_
    obtain ⟨y3, g4, h⟩ := bindL_inv h
    refine ev_segL (KR := fun r => OutK env 139 1 Tryz.f139.results.toList (ref02_reader_base_enc l1 end2 at3 place4 r)) y3 (fun z42 => [(2, .ptr 1 0), (4, .str r5), (6, .slice (.tag 2) (List.length z42.1) (clTyp z42.1))]) (fun z42 => [(0, .row [.slice .sealed (List.length l1) (clTok l1), .int .i64 end2, .int .i64 z42.2, .int .i64 place4]), (1, .row [.int .i64 0, .str [], .int .i64 0, .slice (.tag 3) (List.length ([] : List Typ)) (clTyp ([] : List Typ))]), (2, .tip (tpe 4 (List.length z42.1)) (List.length z42.1)), (3, .tip 0 0)]) rfl ?_ (fun z42 hx => ?_) (fun r res hz hr hn => ?_)
    · replace h := g4
      clear g4
      refine ev_seq ?_
      refine ev_region ?_
      refine os_pure rfl rfl rfl ?_
      obtain ⟨⟨r8, at9⟩, g5, h⟩ := bnd_inv h
      refine os_call rfl rfl rfl (callVia_eq rfl rfl (ref02_reader_sign_ok g5) rfl rfl rfl) ?_
      refine os_nil ?_
      refine ev_if rfl (fun g6 => ?_) (fun g6 => ?_)
      · replace h := cond_t h g6
        refine ev_seq ?_
        refine ev_region ?_
        refine os_pure rfl rfl rfl ?_
        obtain ⟨⟨r10, r11, at12⟩, g7, h⟩ := bnd_inv h
        refine os_call rfl rfl rfl (callVia_eq rfl rfl (hΦ.ref02_reader_types g7) rfl rfl rfl) ?_
        refine os_pure rfl rfl rfl ?_
        refine os_pure rfl rfl rfl ?_
        refine os_pure rfl rfl rfl ?_
        refine os_pure rfl rfl rfl ?_
        refine os_pure rfl rfl rfl ?_
        refine os_nil ?_
        refine ev_seq ?_
        obtain ⟨y8, g9, h⟩ := bnd_inv h
        refine ev_seg [(2, .ptr 1 0), (4, .str r5), (7, .slice (.tag 2) (List.length r10) (clTyp r10)), (31, .bool y8.1)] [(0, .row [.slice .sealed (List.length l1) (clTok l1), .int .i64 end2, .int .i64 y8.2, .int .i64 place4]), (1, .row [.int .i64 0, .str [], .int .i64 0, .slice (.tag 3) (List.length ([] : List Typ)) (clTyp ([] : List Typ))]), (2, .tip (tpe 4 (List.length r10)) (List.length r10)), (3, .tip 0 0)] rfl ?_ ?_
        · replace h := g9
          clear g9
          refine ev_region ?_
          refine os_pure rfl rfl rfl ?_
          refine os_pure rfl rfl rfl ?_
          refine os_pure rfl rfl rfl ?_
          refine os_guard rfl rfl rfl (fun g10 => ?_) (fun g10 => ?_)
          · replace h := cond_t h g10
            refine os_skip rfl ?_
            refine os_skip rfl ?_
            refine os_skip rfl ?_
            refine os_pure rfl rfl rfl ?_
            refine os_nil ?_
            cases h
            exact rfl
          · replace h := cond_f h g10
            refine os_pure rfl rfl rfl ?_
            obtain ⟨⟨r13, at14⟩, g11, h⟩ := bnd_inv h
            refine os_call rfl rfl rfl (callVia_eq rfl rfl (ref02_reader_sign_ok g11) rfl rfl rfl) ?_
            refine os_pure rfl rfl rfl ?_
            refine os_pure rfl rfl rfl ?_
            refine os_nil ?_
            cases h
            exact rfl
        · obtain ⟨x509, at510⟩ := y8
          show Ev _ _ _ _ _ [(2, .ptr 1 0), (4, .str r5), (7, .slice (.tag 2) (List.length r10) (clTyp r10)), (31, .bool x509)] [(0, .row [.slice .sealed (List.length l1) (clTok l1), .int .i64 end2, .int .i64 at510, .int .i64 place4]), (1, .row [.int .i64 0, .str [], .int .i64 0, .slice (.tag 3) (List.length ([] : List Typ)) (clTyp ([] : List Typ))]), (2, .tip (tpe 4 (List.length r10)) (List.length r10)), (3, .tip 0 0)] _
          refine ev_if rfl (fun g12 => ?_) (fun g12 => ?_)
          · replace h := cond_t h g12
            refine ev_seq ?_
            refine ev_region ?_
            refine os_pureD rfl rfl rfl ?_
            refine os_eff rfl rfl rfl ?_
            refine os_pure rfl rfl rfl ?_
            refine os_nil ?_
            cases h
            exact ev_ret ⟨_, rfl, _, _, _, rfl, rfl, rfl⟩
          · replace h := cond_f h g12
            refine ev_skip ?_
            refine ev_region ?_
            refine os_pure rfl rfl rfl ?_
            refine os_pure rfl rfl rfl ?_
            refine os_nil ?_
            cases h
            exact ⟨_, rfl, rfl⟩
      · replace h := cond_f h g6
        refine ev_skip ?_
        cases h
        exact ⟨_, rfl, rfl⟩
    · subst hx
      obtain ⟨l557, at558⟩ := z42
      show Ev _ _ _ _ _ [(2, .ptr 1 0), (4, .str r5), (6, .slice (.tag 2) (List.length l557) (clTyp l557))] [(0, .row [.slice .sealed (List.length l1) (clTok l1), .int .i64 end2, .int .i64 at558, .int .i64 place4]), (1, .row [.int .i64 0, .str [], .int .i64 0, .slice (.tag 3) (List.length ([] : List Typ)) (clTyp ([] : List Typ))]), (2, .tip (tpe 4 (List.length l557)) (List.length l557)), (3, .tip 0 0)] _
      refine ev_seq ?_
      refine ev_region ?_
      refine os_pure rfl rfl rfl ?_
      refine os_nil ?_
      obtain ⟨y13, g14, h⟩ := bnd_inv h
      refine ev_seg [(2, .ptr 1 0), (4, .str r5), (6, .slice (.tag 2) (List.length l557) (clTyp l557)), (9, .int .i64 y13)] [(0, .row [.slice .sealed (List.length l1) (clTok l1), .int .i64 end2, .int .i64 at558, .int .i64 place4]), (1, .row [.int .i64 0, .str [], .int .i64 0, .slice (.tag 3) (List.length ([] : List Typ)) (clTyp ([] : List Typ))]), (2, .tip (tpe 4 (List.length l557)) (List.length l557)), (3, .tip 0 0)] rfl ?_ ?_
      · replace h := g14
        clear g14
        refine ev_block ?_
        obtain ⟨y15, g16, h⟩ := bnd_inv h
        refine ev_seg [(2, .ptr 1 0), (4, .str r5), (6, .slice (.tag 2) (List.length l557) (clTyp l557)), (9, .int .i64 6), (34, .bool y15)] [(0, .row [.slice .sealed (List.length l1) (clTok l1), .int .i64 end2, .int .i64 at558, .int .i64 place4]), (1, .row [.int .i64 0, .str [], .int .i64 0, .slice (.tag 3) (List.length ([] : List Typ)) (clTyp ([] : List Typ))]), (2, .tip (tpe 4 (List.length l557)) (List.length l557)), (3, .tip 0 0)] rfl ?_ ?_
        · replace h := g16
          clear g16
          refine ev_region ?_
          refine os_pure rfl rfl rfl ?_
          refine os_pure rfl rfl rfl ?_
          refine os_pure rfl rfl rfl ?_
          refine os_pure rfl rfl rfl ?_
          refine os_guard rfl rfl rfl (fun g17 => ?_) (fun g17 => ?_)
          · replace h := cond_t h g17
            refine os_pure rfl rfl rfl ?_
            refine os_pure rfl rfl rfl ?_
            refine os_pure rfl rfl rfl ?_
            refine os_pure rfl rfl rfl ?_
            refine os_nil ?_
            cases h
            exact rfl
          · replace h := cond_f h g17
            refine os_skip rfl ?_
            refine os_skip rfl ?_
            refine os_pure rfl rfl rfl ?_
            refine os_pure rfl rfl rfl ?_
            refine os_nil ?_
            cases h
            exact rfl
        · obtain ⟨x559, rfl⟩ : ∃ q, q = y15 := ⟨_, rfl⟩
          show Ev _ _ _ _ _ [(2, .ptr 1 0), (4, .str r5), (6, .slice (.tag 2) (List.length l557) (clTyp l557)), (9, .int .i64 6), (34, .bool x559)] [(0, .row [.slice .sealed (List.length l1) (clTok l1), .int .i64 end2, .int .i64 at558, .int .i64 place4]), (1, .row [.int .i64 0, .str [], .int .i64 0, .slice (.tag 3) (List.length ([] : List Typ)) (clTyp ([] : List Typ))]), (2, .tip (tpe 4 (List.length l557)) (List.length l557)), (3, .tip 0 0)] _
          refine ev_if rfl (fun g18 => ?_) (fun g18 => ?_)
          · replace h := cond_t h g18
            refine ev_region ?_
            refine os_pure rfl rfl rfl ?_
            refine os_nil ?_
            cases h
            exact rfl
          · replace h := cond_f h g18
            obtain ⟨y19, g20, h⟩ := bnd_inv h
            refine ev_seg [(2, .ptr 1 0), (4, .str r5), (6, .slice (.tag 2) (List.length l557) (clTyp l557)), (9, .int .i64 6), (42, .bool y19)] [(0, .row [.slice .sealed (List.length l1) (clTok l1), .int .i64 end2, .int .i64 at558, .int .i64 place4]), (1, .row [.int .i64 0, .str [], .int .i64 0, .slice (.tag 3) (List.length ([] : List Typ)) (clTyp ([] : List Typ))]), (2, .tip (tpe 4 (List.length l557)) (List.length l557)), (3, .tip 0 0)] rfl ?_ ?_
            · replace h := g20
              clear g20
              refine ev_region ?_
              refine os_pure rfl rfl rfl ?_
              refine os_pure rfl rfl rfl ?_
              refine os_pure rfl rfl rfl ?_
              refine os_pure rfl rfl rfl ?_
              refine os_guard rfl rfl rfl (fun g21 => ?_) (fun g21 => ?_)
              · replace h := cond_t h g21
                refine os_pure rfl rfl rfl ?_
                refine os_pure rfl rfl rfl ?_
                refine os_pure rfl rfl rfl ?_
                refine os_pure rfl rfl rfl ?_
                refine os_nil ?_
                cases h
                exact rfl
              · replace h := cond_f h g21
                refine os_skip rfl ?_
                refine os_skip rfl ?_
                refine os_pure rfl rfl rfl ?_
                refine os_pure rfl rfl rfl ?_
                refine os_nil ?_
                cases h
                exact rfl
            · obtain ⟨x560, rfl⟩ : ∃ q, q = y19 := ⟨_, rfl⟩
              show Ev _ _ _ _ _ [(2, .ptr 1 0), (4, .str r5), (6, .slice (.tag 2) (List.length l557) (clTyp l557)), (9, .int .i64 6), (42, .bool x560)] [(0, .row [.slice .sealed (List.length l1) (clTok l1), .int .i64 end2, .int .i64 at558, .int .i64 place4]), (1, .row [.int .i64 0, .str [], .int .i64 0, .slice (.tag 3) (List.length ([] : List Typ)) (clTyp ([] : List Typ))]), (2, .tip (tpe 4 (List.length l557)) (List.length l557)), (3, .tip 0 0)] _
              refine ev_if rfl (fun g22 => ?_) (fun g22 => ?_)
              · replace h := cond_t h g22
                refine ev_region ?_
                refine os_pure rfl rfl rfl ?_
                refine os_nil ?_
                cases h
                exact rfl
              · replace h := cond_f h g22
                obtain ⟨y23, g24, h⟩ := bnd_inv h
                refine ev_seg [(2, .ptr 1 0), (4, .str r5), (6, .slice (.tag 2) (List.length l557) (clTyp l557)), (9, .int .i64 6), (50, .bool y23)] [(0, .row [.slice .sealed (List.length l1) (clTok l1), .int .i64 end2, .int .i64 at558, .int .i64 place4]), (1, .row [.int .i64 0, .str [], .int .i64 0, .slice (.tag 3) (List.length ([] : List Typ)) (clTyp ([] : List Typ))]), (2, .tip (tpe 4 (List.length l557)) (List.length l557)), (3, .tip 0 0)] rfl ?_ ?_
                · replace h := g24
                  clear g24
                  refine ev_region ?_
                  refine os_pure rfl rfl rfl ?_
                  refine os_pure rfl rfl rfl ?_
                  refine os_pure rfl rfl rfl ?_
                  refine os_pure rfl rfl rfl ?_
                  refine os_guard rfl rfl rfl (fun g25 => ?_) (fun g25 => ?_)
                  · replace h := cond_t h g25
                    refine os_pure rfl rfl rfl ?_
                    refine os_pure rfl rfl rfl ?_
                    refine os_pure rfl rfl rfl ?_
                    refine os_pure rfl rfl rfl ?_
                    refine os_nil ?_
                    cases h
                    exact rfl
                  · replace h := cond_f h g25
                    refine os_skip rfl ?_
                    refine os_skip rfl ?_
                    refine os_pure rfl rfl rfl ?_
                    refine os_pure rfl rfl rfl ?_
                    refine os_nil ?_
                    cases h
                    exact rfl
                · obtain ⟨x561, rfl⟩ : ∃ q, q = y23 := ⟨_, rfl⟩
                  show Ev _ _ _ _ _ [(2, .ptr 1 0), (4, .str r5), (6, .slice (.tag 2) (List.length l557) (clTyp l557)), (9, .int .i64 6), (50, .bool x561)] [(0, .row [.slice .sealed (List.length l1) (clTok l1), .int .i64 end2, .int .i64 at558, .int .i64 place4]), (1, .row [.int .i64 0, .str [], .int .i64 0, .slice (.tag 3) (List.length ([] : List Typ)) (clTyp ([] : List Typ))]), (2, .tip (tpe 4 (List.length l557)) (List.length l557)), (3, .tip 0 0)] _
                  refine ev_if rfl (fun g26 => ?_) (fun g26 => ?_)
                  · replace h := cond_t h g26
                    refine ev_region ?_
                    refine os_pure rfl rfl rfl ?_
                    refine os_nil ?_
                    cases h
                    exact rfl
                  · replace h := cond_f h g26
                    obtain ⟨y27, g28, h⟩ := bnd_inv h
                    refine ev_seg [(2, .ptr 1 0), (4, .str r5), (6, .slice (.tag 2) (List.length l557) (clTyp l557)), (9, .int .i64 6), (58, .bool y27)] [(0, .row [.slice .sealed (List.length l1) (clTok l1), .int .i64 end2, .int .i64 at558, .int .i64 place4]), (1, .row [.int .i64 0, .str [], .int .i64 0, .slice (.tag 3) (List.length ([] : List Typ)) (clTyp ([] : List Typ))]), (2, .tip (tpe 4 (List.length l557)) (List.length l557)), (3, .tip 0 0)] rfl ?_ ?_
                    · replace h := g28
                      clear g28
                      refine ev_region ?_
                      refine os_pure rfl rfl rfl ?_
                      refine os_pure rfl rfl rfl ?_
                      refine os_pure rfl rfl rfl ?_
                      refine os_pure rfl rfl rfl ?_
                      refine os_guard rfl rfl rfl (fun g29 => ?_) (fun g29 => ?_)
                      · replace h := cond_t h g29
                        refine os_pure rfl rfl rfl ?_
                        refine os_pure rfl rfl rfl ?_
                        refine os_pure rfl rfl rfl ?_
                        refine os_pure rfl rfl rfl ?_
                        refine os_nil ?_
                        cases h
                        exact rfl
                      · replace h := cond_f h g29
                        refine os_skip rfl ?_
                        refine os_skip rfl ?_
                        refine os_pure rfl rfl rfl ?_
                        refine os_pure rfl rfl rfl ?_
                        refine os_nil ?_
                        cases h
                        exact rfl
                    · obtain ⟨x562, rfl⟩ : ∃ q, q = y27 := ⟨_, rfl⟩
                      show Ev _ _ _ _ _ [(2, .ptr 1 0), (4, .str r5), (6, .slice (.tag 2) (List.length l557) (clTyp l557)), (9, .int .i64 6), (58, .bool x562)] [(0, .row [.slice .sealed (List.length l1) (clTok l1), .int .i64 end2, .int .i64 at558, .int .i64 place4]), (1, .row [.int .i64 0, .str [], .int .i64 0, .slice (.tag 3) (List.length ([] : List Typ)) (clTyp ([] : List Typ))]), (2, .tip (tpe 4 (List.length l557)) (List.length l557)), (3, .tip 0 0)] _
                      refine ev_if rfl (fun g30 => ?_) (fun g30 => ?_)
                      · replace h := cond_t h g30
                        refine ev_region ?_
                        refine os_pure rfl rfl rfl ?_
                        refine os_nil ?_
                        cases h
                        exact rfl
                      · replace h := cond_f h g30
                        obtain ⟨y31, g32, h⟩ := bnd_inv h
                        refine ev_seg [(2, .ptr 1 0), (4, .str r5), (6, .slice (.tag 2) (List.length l557) (clTyp l557)), (9, .int .i64 6), (66, .bool y31)] [(0, .row [.slice .sealed (List.length l1) (clTok l1), .int .i64 end2, .int .i64 at558, .int .i64 place4]), (1, .row [.int .i64 0, .str [], .int .i64 0, .slice (.tag 3) (List.length ([] : List Typ)) (clTyp ([] : List Typ))]), (2, .tip (tpe 4 (List.length l557)) (List.length l557)), (3, .tip 0 0)] rfl ?_ ?_
                        · replace h := g32
                          clear g32
                          refine ev_region ?_
                          refine os_pure rfl rfl rfl ?_
                          refine os_pure rfl rfl rfl ?_
                          refine os_pure rfl rfl rfl ?_
                          refine os_pure rfl rfl rfl ?_
                          refine os_guard rfl rfl rfl (fun g33 => ?_) (fun g33 => ?_)
                          · replace h := cond_t h g33
                            refine os_pure rfl rfl rfl ?_
                            refine os_pure rfl rfl rfl ?_
                            refine os_pure rfl rfl rfl ?_
                            refine os_pure rfl rfl rfl ?_
                            refine os_nil ?_
                            cases h
                            exact rfl
                          · replace h := cond_f h g33
                            refine os_skip rfl ?_
                            refine os_skip rfl ?_
                            refine os_pure rfl rfl rfl ?_
                            refine os_pure rfl rfl rfl ?_
                            refine os_nil ?_
                            cases h
                            exact rfl
                        · obtain ⟨x563, rfl⟩ : ∃ q, q = y31 := ⟨_, rfl⟩
                          show Ev _ _ _ _ _ [(2, .ptr 1 0), (4, .str r5), (6, .slice (.tag 2) (List.length l557) (clTyp l557)), (9, .int .i64 6), (66, .bool x563)] [(0, .row [.slice .sealed (List.length l1) (clTok l1), .int .i64 end2, .int .i64 at558, .int .i64 place4]), (1, .row [.int .i64 0, .str [], .int .i64 0, .slice (.tag 3) (List.length ([] : List Typ)) (clTyp ([] : List Typ))]), (2, .tip (tpe 4 (List.length l557)) (List.length l557)), (3, .tip 0 0)] _
                          refine ev_if rfl (fun g34 => ?_) (fun g34 => ?_)
                          · replace h := cond_t h g34
                            refine ev_region ?_
                            refine os_pure rfl rfl rfl ?_
                            refine os_nil ?_
                            cases h
                            exact rfl
                          · replace h := cond_f h g34
                            obtain ⟨y35, g36, h⟩ := bnd_inv h
                            refine ev_seg [(2, .ptr 1 0), (4, .str r5), (6, .slice (.tag 2) (List.length l557) (clTyp l557)), (9, .int .i64 6), (74, .bool y35)] [(0, .row [.slice .sealed (List.length l1) (clTok l1), .int .i64 end2, .int .i64 at558, .int .i64 place4]), (1, .row [.int .i64 0, .str [], .int .i64 0, .slice (.tag 3) (List.length ([] : List Typ)) (clTyp ([] : List Typ))]), (2, .tip (tpe 4 (List.length l557)) (List.length l557)), (3, .tip 0 0)] rfl ?_ ?_
                            · replace h := g36
                              clear g36
                              refine ev_region ?_
                              refine os_pure rfl rfl rfl ?_
                              refine os_pure rfl rfl rfl ?_
                              refine os_pure rfl rfl rfl ?_
                              refine os_pure rfl rfl rfl ?_
                              refine os_guard rfl rfl rfl (fun g37 => ?_) (fun g37 => ?_)
                              · replace h := cond_t h g37
                                refine os_pure rfl rfl rfl ?_
                                refine os_pure rfl rfl rfl ?_
                                refine os_pure rfl rfl rfl ?_
                                refine os_pure rfl rfl rfl ?_
                                refine os_nil ?_
                                cases h
                                exact rfl
                              · replace h := cond_f h g37
                                refine os_skip rfl ?_
                                refine os_skip rfl ?_
                                refine os_pure rfl rfl rfl ?_
                                refine os_pure rfl rfl rfl ?_
                                refine os_nil ?_
                                cases h
                                exact rfl
                            · obtain ⟨x564, rfl⟩ : ∃ q, q = y35 := ⟨_, rfl⟩
                              show Ev _ _ _ _ _ [(2, .ptr 1 0), (4, .str r5), (6, .slice (.tag 2) (List.length l557) (clTyp l557)), (9, .int .i64 6), (74, .bool x564)] [(0, .row [.slice .sealed (List.length l1) (clTok l1), .int .i64 end2, .int .i64 at558, .int .i64 place4]), (1, .row [.int .i64 0, .str [], .int .i64 0, .slice (.tag 3) (List.length ([] : List Typ)) (clTyp ([] : List Typ))]), (2, .tip (tpe 4 (List.length l557)) (List.length l557)), (3, .tip 0 0)] _
                              refine ev_if rfl (fun g38 => ?_) (fun g38 => ?_)
                              · replace h := cond_t h g38
                                refine ev_region ?_
                                refine os_pure rfl rfl rfl ?_
                                refine os_nil ?_
                                cases h
                                exact rfl
                              · replace h := cond_f h g38
                                refine ev_skip ?_
                                cases h
                                exact rfl
      · obtain ⟨kind565, rfl⟩ : ∃ q, q = y13 := ⟨_, rfl⟩
        show Ev _ _ _ _ _ [(2, .ptr 1 0), (4, .str r5), (6, .slice (.tag 2) (List.length l557) (clTyp l557)), (9, .int .i64 kind565)] [(0, .row [.slice .sealed (List.length l1) (clTok l1), .int .i64 end2, .int .i64 at558, .int .i64 place4]), (1, .row [.int .i64 0, .str [], .int .i64 0, .slice (.tag 3) (List.length ([] : List Typ)) (clTyp ([] : List Typ))]), (2, .tip (tpe 4 (List.length l557)) (List.length l557)), (3, .tip 0 0)] _
        obtain ⟨y39, g40, h⟩ := bnd_inv h
        refine ev_seg [(2, .ptr 1 0), (4, .str y39), (6, .slice (.tag 2) (List.length l557) (clTyp l557)), (9, .int .i64 kind565)] [(0, .row [.slice .sealed (List.length l1) (clTok l1), .int .i64 end2, .int .i64 at558, .int .i64 place4]), (1, .row [.int .i64 0, .str [], .int .i64 0, .slice (.tag 3) (List.length ([] : List Typ)) (clTyp ([] : List Typ))]), (2, .tip (tpe 4 (List.length l557)) (List.length l557)), (3, .tip 0 0)] rfl ?_ ?_
        · replace h := g40
          clear g40
          refine ev_seq ?_
          refine ev_region ?_
          refine os_pure rfl rfl rfl ?_
          refine os_pure rfl rfl rfl ?_
          refine os_nil ?_
          refine ev_if rfl (fun g41 => ?_) (fun g41 => ?_)
          · replace h := cond_t h g41
            refine ev_region ?_
            refine os_pure rfl rfl rfl ?_
            refine os_nil ?_
            cases h
            exact rfl
          · replace h := cond_f h g41
            refine ev_skip ?_
            cases h
            exact rfl
        · obtain ⟨s566, rfl⟩ : ∃ q, q = y39 := ⟨_, rfl⟩
          show Ev _ _ _ _ _ [(2, .ptr 1 0), (4, .str s566), (6, .slice (.tag 2) (List.length l557) (clTyp l557)), (9, .int .i64 kind565)] [(0, .row [.slice .sealed (List.length l1) (clTok l1), .int .i64 end2, .int .i64 at558, .int .i64 place4]), (1, .row [.int .i64 0, .str [], .int .i64 0, .slice (.tag 3) (List.length ([] : List Typ)) (clTyp ([] : List Typ))]), (2, .tip (tpe 4 (List.length l557)) (List.length l557)), (3, .tip 0 0)] _
          refine ev_seq ?_
          refine ev_region ?_
          refine os_pure rfl rfl rfl ?_
          refine os_pure rfl rfl rfl ?_
          refine os_pure rfl rfl rfl ?_
          refine os_pureD rfl rfl rfl ?_
          refine os_eff rfl rfl rfl ?_
          refine os_pure rfl rfl rfl ?_
          refine os_nil ?_
          cases h
          exact ev_ret ⟨_, _, _, rfl, rfl, rfl⟩
    · subst hz
      obtain ⟨e, fr1, H1⟩ := res
      cases e with
      | normal => exact absurd rfl hn
      | ret => cases h; exact hr
      | exit i => exact hr.elim
      | panic v => cases h; exact hr
theorem ref02_reader_typ_F.ok : ∀ n, (ref02_reader_typ_F.fs n).Ok
  | 0 => ⟨(fun h => by cases h), (fun h => by cases h), (fun h => by cases h)⟩
  | n + 1 => ⟨(fun h => ref02_reader_typ_b_ok n (ref02_reader_typ_F.ok n) h), (fun h => ref02_reader_types_b_ok n (ref02_reader_typ_F.ok n) h), (fun h => ref02_reader_base_b_ok n (ref02_reader_typ_F.ok n) h)⟩
theorem ref02_reader_typ_ok {n : Nat} {l1 : List Tok} {end2 : Int} {at3 : Int} {place4 : Int} {r : Typ × Bool × Int} (h : ref02_reader_typ n l1 end2 at3 place4 = some r) :
    E env (.call 66 [.ptr 0 0]) [(0, .row [.slice .sealed (List.length l1) (clTok l1), .int .i64 end2, .int .i64 at3, .int .i64 place4])] = some (ref02_reader_typ_enc l1 end2 at3 place4 r) := (ref02_reader_typ_F.ok n).ref02_reader_typ h
theorem ref02_reader_types_ok {n : Nat} {l1 : List Tok} {end2 : Int} {at3 : Int} {place4 : Int} {r : List Typ × Bool × Int} (h : ref02_reader_types n l1 end2 at3 place4 = some r) :
    E env (.call 138 [.ptr 0 0]) [(0, .row [.slice .sealed (List.length l1) (clTok l1), .int .i64 end2, .int .i64 at3, .int .i64 place4])] = some (ref02_reader_types_enc l1 end2 at3 place4 r) := (ref02_reader_typ_F.ok n).ref02_reader_types h
theorem ref02_reader_base_ok {n : Nat} {l1 : List Tok} {end2 : Int} {at3 : Int} {place4 : Int} {r : Typ × Bool × Int} (h : ref02_reader_base n l1 end2 at3 place4 = some r) :
    E env (.call 139 [.ptr 0 0]) [(0, .row [.slice .sealed (List.length l1) (clTok l1), .int .i64 end2, .int .i64 at3, .int .i64 place4])] = some (ref02_reader_base_enc l1 end2 at3 place4 r) := (ref02_reader_typ_F.ok n).ref02_reader_base h
structure ref02_Types_F.Ok (Φ : ref02_Types_F) : Prop where
  ref02_Types : ∀ {t1 : Typ} {most2 : Int} {r : Int}, Φ.ref02_Types t1 most2 = some r → E env (.call 67 [.agg [.int .i64 t1.kind, .str t1.name, .int .i64 t1.n, .slice .sealed (List.length t1.args) (clTyp t1.args)], .int .i64 most2]) [] = some (ref02_Types_enc t1 most2 r)
theorem ref02_Types_b_ok (n : Nat) {Φ : ref02_Types_F} (hΦ : Φ.Ok) {t1 : Typ} {most2 : Int} {r : Int} (h : ref02_Types_b n Φ t1 most2 = some r) :
    E env (.call 67 [.agg [.int .i64 t1.kind, .str t1.name, .int .i64 t1.n, .slice .sealed (List.length t1.args) (clTyp t1.args)], .int .i64 most2]) [] = some (ref02_Types_enc t1 most2 r) := by
  unfold ref02_Types_b at h
  obtain ⟨t1_0, t1_1, t1_2, t1_3⟩ := t1
  refine call_out rfl Tryz.func67 rfl rfl ?_
  refine ev_seq ?_
  refine ev_region ?_
  refine os_eff rfl rfl rfl ?_
  refine os_pure rfl rfl rfl ?_
  refine os_nil ?_
  refine ev_seq ?_
  refine ev_region ?_
  refine os_pure rfl rfl rfl ?_
  refine os_nil ?_
  obtain ⟨y1, g2, h⟩ := bnd_inv h
  refine ev_seg [(5, .int .i64 y1)] [] rfl ?_ ?_
  · replace h := g2
    clear g2
    refine ev_seq ?_
    refine ev_region ?_
    refine os_pure rfl rfl rfl ?_
    refine os_nil ?_
    refine ev_block ?_
    refine ev_loop rfl ?_
    revert y1
    refine lp_fuel (fun m (x : Int × Int) => ref02_Types_l3 n Φ most2 (Typ.mk t1_0 t1_1 t1_2 t1_3) m x.1 x.2) (fun x => [(1, .int .i64 most2), (2, .ptr 0 0), (5, .int .i64 x.1), (6, .int .i64 x.2)]) (fun x => [(0, .row [.int .i64 t1_0, .str t1_1, .int .i64 t1_2, .slice .sealed (List.length t1_3) (clTyp t1_3)])]) _ (fun _ => rfl) (fun m3 x y ih h => ?_) n (1, 0)
    obtain ⟨n503, i504⟩ := x
    show Ev _ _ _ _ _ [(1, .int .i64 most2), (2, .ptr 0 0), (5, .int .i64 n503), (6, .int .i64 i504)] [(0, .row [.int .i64 t1_0, .str t1_1, .int .i64 t1_2, .slice .sealed (List.length t1_3) (clTyp t1_3)])] _
    replace h : ref02_Types_l3 n Φ most2 (Typ.mk t1_0 t1_1 t1_2 t1_3) (m3 + 1) n503 i504 = some y := h
    rw [ref02_Types_l3] at h
    refine ev_seq ?_
    obtain ⟨y3, g4, h⟩ := bnd_inv h
    refine ev_seg [(1, .int .i64 most2), (2, .ptr 0 0), (5, .int .i64 n503), (6, .int .i64 i504), (16, .bool y3)] [(0, .row [.int .i64 t1_0, .str t1_1, .int .i64 t1_2, .slice .sealed (List.length t1_3) (clTyp t1_3)])] rfl ?_ ?_
    · replace h := g4
      clear g4
      refine ev_region ?_
      refine os_pure rfl rfl rfl ?_
      refine os_pure rfl rfl rfl ?_
      refine os_eff rfl rfl rfl ?_
      refine os_pure rfl rfl rfl ?_
      refine os_pure rfl rfl rfl ?_
      refine os_pure rfl rfl rfl ?_
      refine os_guard rfl rfl rfl (fun g5 => ?_) (fun g5 => ?_)
      · replace h := cond_t h g5
        refine os_pure rfl rfl rfl ?_
        refine os_pure rfl rfl rfl ?_
        refine os_pure rfl rfl rfl ?_
        refine os_pure rfl rfl rfl ?_
        refine os_nil ?_
        cases h
        exact rfl
      · replace h := cond_f h g5
        refine os_skip rfl ?_
        refine os_skip rfl ?_
        refine os_skip rfl ?_
        refine os_pure rfl rfl rfl ?_
        refine os_nil ?_
        cases h
        exact rfl
    · obtain ⟨x507, rfl⟩ : ∃ q, q = y3 := ⟨_, rfl⟩
      show Ev _ _ _ _ _ [(1, .int .i64 most2), (2, .ptr 0 0), (5, .int .i64 n503), (6, .int .i64 i504), (16, .bool x507)] [(0, .row [.int .i64 t1_0, .str t1_1, .int .i64 t1_2, .slice .sealed (List.length t1_3) (clTyp t1_3)])] _
      refine ev_if rfl (fun g6 => ?_) (fun g6 => ?_)
      · replace h := cond_t h g6
        refine ev_skip ?_
        refine ev_seq ?_
        refine ev_block ?_
        refine ev_region ?_
        refine os_pure rfl rfl rfl ?_
        refine os_pure rfl rfl rfl ?_
        refine os_eff rfl rfl rfl ?_
        refine os_pure rfl rfl rfl ?_
        obtain ⟨x3, g7, h⟩ := bnd_inv h
        obtain ⟨x3_0, x3_1, x3_2, x3_3⟩ := x3
        refine os_idx encTyp g7 rfl rfl rfl rfl rfl rfl rfl rfl ?_
        refine os_loadA (c := [.int .i64 x3_0, .str x3_1, .int .i64 x3_2, .slice .sealed (List.length x3_3) (clTyp x3_3)]) rfl rfl rfl rfl rfl rfl rfl ?_
        refine os_pure rfl rfl rfl ?_
        refine os_pure rfl rfl rfl ?_
        refine os_pure rfl rfl rfl ?_
        obtain ⟨r4, g8, h⟩ := bnd_inv h
        refine os_quiet rfl rfl rfl rfl rfl (hΦ.ref02_Types g8) rfl ?_
        refine os_pure rfl rfl rfl ?_
        refine os_pure rfl rfl rfl ?_
        refine os_nil ?_
        refine ev_region ?_
        refine os_pure rfl rfl rfl ?_
        refine os_pure rfl rfl rfl ?_
        refine os_pure rfl rfl rfl ?_
        refine os_nil ?_
        exact ⟨_, _, rfl, ih (_, _) _ h⟩
      · replace h := cond_f h g6
        refine ev_exit ?_
        cases h
        exact rfl
  · obtain ⟨n510, rfl⟩ : ∃ q, q = y1 := ⟨_, rfl⟩
    show Ev _ _ _ _ _ [(5, .int .i64 n510)] [] _
    refine ev_seq ?_
    refine ev_region ?_
    refine os_pure rfl rfl rfl ?_
    refine os_pure rfl rfl rfl ?_
    refine os_nil ?_
    cases h
    exact ev_ret ⟨_, _, _, rfl, rfl, rfl⟩
theorem ref02_Types_F.ok : ∀ n, (ref02_Types_F.fs n).Ok
  | 0 => ⟨(fun h => by cases h)⟩
  | n + 1 => ⟨(fun h => ref02_Types_b_ok n (ref02_Types_F.ok n) h)⟩
theorem ref02_Types_ok {n : Nat} {t1 : Typ} {most2 : Int} {r : Int} (h : ref02_Types n t1 most2 = some r) :
    E env (.call 67 [.agg [.int .i64 t1.kind, .str t1.name, .int .i64 t1.n, .slice .sealed (List.length t1.args) (clTyp t1.args)], .int .i64 most2]) [] = some (ref02_Types_enc t1 most2 r) := (ref02_Types_F.ok n).ref02_Types h
end Go.Proofs.YtmonfppdiehlpaaGreatDoor
/- The functions do what the plain Lean says. (Printed by a program.) -/
namespace Go.Proofs.YtmonfppdiehlpaaGreatDoor
set_option linter.unusedSimpArgs false
set_option linter.unusedVariables false
set_option linter.unusedSectionVars false
open Go Go.Vm
set_option maxRecDepth 100000
set_option maxHeartbeats 20000000
set_option linter.unusedVariables false
theorem ref02_Type_ok {n : Nat} {src1 : Str} {r : Typ × Flt} (h : ref02_Type n src1 = some r) :
    E env (.call 25 [.str src1]) [] = some (ref02_Type_enc src1 r) := by
  unfold ref02_Type at h
  refine call_out rfl Tryz.func25 rfl rfl ?_
  refine ev_seq ?_
  refine ev_region ?_
  refine os_eff rfl rfl rfl ?_
  refine os_eff rfl rfl rfl ?_
  refine os_nil ?_
  refine ev_seq ?_
  refine ev_region ?_
  refine os_pure rfl rfl rfl ?_
  obtain ⟨⟨l2, c3, a4⟩, g1, h⟩ := bnd_inv h
  refine os_quiet rfl rfl rfl rfl rfl (scanTok_ref g1) rfl ?_
  refine os_pure rfl rfl rfl ?_
  refine os_pure rfl rfl rfl ?_
  refine os_pure rfl rfl rfl ?_
  refine os_eff rfl rfl rfl ?_
  refine os_pure rfl rfl rfl ?_
  refine os_eff rfl rfl rfl ?_
  refine os_nil ?_
  refine ev_seq ?_
  refine ev_seq ?_
  refine ev_region ?_
  refine os_pure rfl rfl rfl ?_
  refine os_eff rfl rfl rfl ?_
  refine os_pure rfl rfl rfl ?_
  refine os_nil ?_
  refine ev_if rfl (fun g2 => ?_) (fun g2 => ?_)
  · replace h := cond_t h g2
    refine ev_seq ?_
    refine ev_regionS [384] rfl ?_
    refine osP_cons rfl ?_
    refine os_pureD rfl rfl rfl ?_
    refine os_nil ?_
    refine osP_cons rfl ?_
    refine os_eff rfl rfl rfl ?_
    refine os_nil ?_
    refine osP_cons rfl ?_
    refine os_eff rfl rfl rfl ?_
    refine os_nil ?_
    refine osP_cons rfl ?_
    refine os_eff rfl rfl rfl ?_
    refine os_nil ?_
    refine osP_nil ?_
    refine ⟨rfl, ?_⟩
    cases h
    exact ev_ret ⟨_, _, _, rfl, rfl, rfl⟩
  · replace h := cond_f h g2
    refine ev_skip ?_
    refine ev_seq ?_
    refine ev_region ?_
    refine os_pure rfl rfl rfl ?_
    refine os_pure rfl rfl rfl ?_
    refine os_pure rfl rfl rfl ?_
    refine os_pureD rfl rfl rfl ?_
    refine os_eff rfl rfl rfl ?_
    refine os_pure rfl rfl rfl ?_
    refine os_nil ?_
    refine ev_seq ?_
    refine ev_region ?_
    refine os_pure rfl rfl rfl ?_
    obtain ⟨⟨r5, r6, at7⟩, g3, h⟩ := bnd_inv h
    obtain ⟨r5_0, r5_1, r5_2, r5_3⟩ := r5
    refine os_call rfl rfl rfl (callVia_eq rfl rfl (ref02_reader_typ_ok g3) rfl rfl rfl) ?_
    refine os_pure rfl rfl rfl ?_
    refine os_pure rfl rfl rfl ?_
    refine os_pure rfl rfl rfl ?_
    refine os_eff rfl rfl rfl ?_
    refine os_eff rfl rfl rfl ?_
    refine os_pure rfl rfl rfl ?_
    refine os_nil ?_
    refine ev_seq ?_
    obtain ⟨y4, g5, h⟩ := bnd_inv h
    refine ev_seg [(2, .ptr 0 0), (3, .ptr 1 0), (6, .ptr 2 0), (7, .ptr 3 0), (39, .bool y4)] [(0, .row [.int .i64 0, .str [], .int .i64 0, .slice (.tag 4) (List.length ([] : List Typ)) (clTyp ([] : List Typ))]), (1, .row [.int .i64 0, .int .i64 0]), (2, .row [.slice .sealed (List.length l2) (clTok l2), .int .i64 (List.length src1 : Int), .int .i64 at7, .int .i64 (-1)]), (3, .row [.int .i64 r5_0, .str r5_1, .int .i64 r5_2, .slice .sealed (List.length r5_3) (clTyp r5_3)]), (4, .tip 0 0)] rfl ?_ ?_
    · replace h := g5
      clear g5
      refine ev_region ?_
      refine os_pure rfl rfl rfl ?_
      refine os_pure rfl rfl rfl ?_
      refine os_pure rfl rfl rfl ?_
      refine os_guard rfl rfl rfl (fun g6 => ?_) (fun g6 => ?_)
      · replace h := cond_t h g6
        refine os_skip rfl ?_
        refine os_skip rfl ?_
        refine os_skip rfl ?_
        refine os_skip rfl ?_
        refine os_skip rfl ?_
        refine os_skip rfl ?_
        refine os_skip rfl ?_
        refine os_pure rfl rfl rfl ?_
        refine os_nil ?_
        cases h
        exact rfl
      · replace h := cond_f h g6
        refine os_pure rfl rfl rfl ?_
        refine os_pure rfl rfl rfl ?_
        refine os_pure rfl rfl rfl ?_
        refine os_eff rfl rfl rfl ?_
        refine os_pure rfl rfl rfl ?_
        refine os_pure rfl rfl rfl ?_
        refine os_pure rfl rfl rfl ?_
        refine os_pure rfl rfl rfl ?_
        refine os_nil ?_
        cases h
        exact rfl
    · obtain ⟨x504, rfl⟩ : ∃ q, q = y4 := ⟨_, rfl⟩
      show Ev _ _ _ _ _ [(2, .ptr 0 0), (3, .ptr 1 0), (6, .ptr 2 0), (7, .ptr 3 0), (39, .bool x504)] [(0, .row [.int .i64 0, .str [], .int .i64 0, .slice (.tag 4) (List.length ([] : List Typ)) (clTyp ([] : List Typ))]), (1, .row [.int .i64 0, .int .i64 0]), (2, .row [.slice .sealed (List.length l2) (clTok l2), .int .i64 (List.length src1 : Int), .int .i64 at7, .int .i64 (-1)]), (3, .row [.int .i64 r5_0, .str r5_1, .int .i64 r5_2, .slice .sealed (List.length r5_3) (clTyp r5_3)]), (4, .tip 0 0)] _
      refine ev_if rfl (fun g7 => ?_) (fun g7 => ?_)
      · replace h := cond_t h g7
        refine ev_seq ?_
        refine ev_region ?_
        refine os_pureD rfl rfl rfl ?_
        refine os_pure rfl rfl rfl ?_
        obtain ⟨r8, g8, h⟩ := bnd_inv h
        refine os_call rfl rfl rfl (callVia_eq rfl rfl (ref02_reader_offset_ok g8) rfl rfl rfl) ?_
        refine os_pureD rfl rfl rfl ?_
        refine os_eff rfl rfl rfl ?_
        refine os_eff rfl rfl rfl ?_
        refine os_nil ?_
        cases h
        exact ev_ret ⟨_, _, _, rfl, rfl, rfl⟩
      · replace h := cond_f h g7
        refine ev_skip ?_
        refine ev_seq ?_
        refine ev_seq ?_
        refine ev_region ?_
        refine os_eff rfl rfl rfl ?_
        obtain ⟨r9, g9, h⟩ := bnd_inv h
        refine os_quiet rfl rfl rfl rfl rfl (ref02_Types_ok g9) rfl ?_
        refine os_pure rfl rfl rfl ?_
        refine os_nil ?_
        refine ev_if rfl (fun g10 => ?_) (fun g10 => ?_)
        · replace h := cond_t h g10
          refine ev_seq ?_
          refine ev_region ?_
          refine os_pureD rfl rfl rfl ?_
          refine os_pureD rfl rfl rfl ?_
          refine os_eff rfl rfl rfl ?_
          refine os_eff rfl rfl rfl ?_
          refine os_nil ?_
          cases h
          exact ev_ret ⟨_, _, _, rfl, rfl, rfl⟩
        · replace h := cond_f h g10
          refine ev_skip ?_
          refine ev_seq ?_
          refine ev_region ?_
          refine os_eff rfl rfl rfl ?_
          refine os_pureD rfl rfl rfl ?_
          refine os_eff rfl rfl rfl ?_
          refine os_eff rfl rfl rfl ?_
          refine os_nil ?_
          cases h
          exact ev_ret ⟨_, _, _, rfl, rfl, rfl⟩
theorem parse_begin_ok {src1 : Str} {r : Flt × List Tok} (h : parse_begin src1 = some r) :
    E env (.call 39 [.str src1]) [] = some (parse_begin_enc src1 r) := by
  unfold parse_begin at h
  refine call_out rfl Tryz.func39 rfl rfl ?_
  refine ev_seq ?_
  refine ev_region ?_
  refine os_pure rfl rfl rfl ?_
  refine os_eff rfl rfl rfl ?_
  refine os_nil ?_
  refine ev_seq ?_
  refine ev_region ?_
  refine os_pure rfl rfl rfl ?_
  obtain ⟨⟨l2, c3, a4⟩, g1, h⟩ := bnd_inv h
  refine os_quiet rfl rfl rfl rfl rfl (scanTok_ok g1) rfl ?_
  refine os_pure rfl rfl rfl ?_
  refine os_pure rfl rfl rfl ?_
  refine os_pure rfl rfl rfl ?_
  refine os_eff rfl rfl rfl ?_
  refine os_pure rfl rfl rfl ?_
  refine os_eff rfl rfl rfl ?_
  refine os_nil ?_
  refine ev_seq ?_
  refine ev_regionS [384] rfl ?_
  refine osP_cons rfl ?_
  refine os_pure rfl rfl rfl ?_
  refine os_nil ?_
  refine osP_cons rfl ?_
  refine os_pure rfl rfl rfl ?_
  refine os_nil ?_
  refine osP_cons rfl ?_
  refine os_pure rfl rfl rfl ?_
  refine os_nil ?_
  refine osP_cons rfl ?_
  refine os_pureD rfl rfl rfl ?_
  refine os_nil ?_
  refine osP_cons rfl ?_
  refine os_eff rfl rfl rfl ?_
  refine os_nil ?_
  refine osP_cons rfl ?_
  refine os_eff rfl rfl rfl ?_
  refine os_nil ?_
  refine osP_cons rfl ?_
  refine os_pure rfl rfl rfl ?_
  refine os_nil ?_
  refine osP_cons rfl ?_
  refine os_eff rfl rfl rfl ?_
  refine os_nil ?_
  refine osP_nil ?_
  refine ⟨rfl, ?_⟩
  cases h
  exact ev_ret ⟨_, _, _, rfl, rfl, rfl⟩
theorem parse_parser_here_ok {tokens1 : List Tok} {at2 : Int} {size3 : Int} {r : Int} (h : parse_parser_here tokens1 at2 size3 = some r) :
    E env (.call 40 [.ptr 0 0]) [(0, .row [.slice .sealed (List.length tokens1) (clTok tokens1), .int .i64 at2, .int .i64 size3])] = some (parse_parser_here_enc tokens1 at2 size3 r) := by
  unfold parse_parser_here at h
  refine call_out rfl Tryz.func40 rfl rfl ?_
  refine ev_seq ?_
  refine ev_region ?_
  refine os_pure rfl rfl rfl ?_
  refine os_nil ?_
  refine ev_seq ?_
  refine ev_seq ?_
  refine ev_region ?_
  refine os_pure rfl rfl rfl ?_
  refine os_pure rfl rfl rfl ?_
  refine os_pure rfl rfl rfl ?_
  refine os_eff rfl rfl rfl ?_
  refine os_pure rfl rfl rfl ?_
  refine os_pure rfl rfl rfl ?_
  refine os_pure rfl rfl rfl ?_
  refine os_eff rfl rfl rfl ?_
  refine os_pure rfl rfl rfl ?_
  refine os_pure rfl rfl rfl ?_
  refine os_nil ?_
  refine ev_if rfl (fun g1 => ?_) (fun g1 => ?_)
  · replace h := cond_t h g1
    refine ev_seq ?_
    refine ev_region ?_
    refine os_pure rfl rfl rfl ?_
    refine os_pure rfl rfl rfl ?_
    refine os_pure rfl rfl rfl ?_
    refine os_eff rfl rfl rfl ?_
    refine os_pure rfl rfl rfl ?_
    refine os_pure rfl rfl rfl ?_
    refine os_pure rfl rfl rfl ?_
    refine os_eff rfl rfl rfl ?_
    obtain ⟨x4, g2, h⟩ := bnd_inv h
    refine os_idx encTok g2 rfl rfl rfl rfl rfl rfl rfl rfl ?_
    refine os_pure rfl rfl rfl ?_
    refine os_eff rfl rfl rfl ?_
    refine os_pure rfl rfl rfl ?_
    refine os_nil ?_
    cases h
    exact ev_ret ⟨_, _, _, rfl, rfl, rfl⟩
  · replace h := cond_f h g1
    refine ev_skip ?_
    refine ev_seq ?_
    refine ev_region ?_
    refine os_pure rfl rfl rfl ?_
    refine os_pure rfl rfl rfl ?_
    refine os_pure rfl rfl rfl ?_
    refine os_eff rfl rfl rfl ?_
    refine os_pure rfl rfl rfl ?_
    refine os_nil ?_
    cases h
    exact ev_ret ⟨_, _, _, rfl, rfl, rfl⟩
theorem parse_parser_fail_ok {tokens1 : List Tok} {at2 : Int} {size3 : Int} {r : Rs Empty Int} (h : parse_parser_fail tokens1 at2 size3 = some r) :
    E env (.call 77 [.ptr 0 0]) [(0, .row [.slice .sealed (List.length tokens1) (clTok tokens1), .int .i64 at2, .int .i64 size3])] = some (parse_parser_fail_enc tokens1 at2 size3 r) := by
  unfold parse_parser_fail at h
  refine call_out rfl Tryz.func77 rfl rfl ?_
  refine ev_region ?_
  refine os_pure rfl rfl rfl ?_
  obtain ⟨r4, g1, h⟩ := bnd_inv h
  refine os_call rfl rfl rfl (callVia_look rfl rfl rfl (parse_parser_here_ok g1) rfl rfl rfl) ?_
  refine os_pureD rfl rfl rfl ?_
  refine os_pureD rfl rfl rfl ?_
  refine os_pure rfl rfl rfl ?_
  refine os_panic rfl rfl rfl ?_
  cases h
  exact ⟨_, _, rfl, rfl⟩
theorem parse_parser_is_ok {n1 : Int} {kind2 : Int} {text3 : Str} {tokens4 : List Tok} {at5 : Int} {size6 : Int} {r : Bool} (h : parse_parser_is n1 kind2 text3 tokens4 at5 size6 = some r) :
    E env (.call 83 [.ptr 0 0, .int .i64 n1, .int .i64 kind2, .str text3]) [(0, .row [.slice .sealed (List.length tokens4) (clTok tokens4), .int .i64 at5, .int .i64 size6])] = some (parse_parser_is_enc n1 kind2 text3 tokens4 at5 size6 r) := by
  unfold parse_parser_is at h
  refine call_out rfl Tryz.func83 rfl rfl ?_
  refine ev_seq ?_
  refine ev_region ?_
  refine os_pure rfl rfl rfl ?_
  refine os_nil ?_
  refine ev_seq ?_
  refine ev_seq ?_
  refine ev_region ?_
  refine os_pure rfl rfl rfl ?_
  refine os_pure rfl rfl rfl ?_
  refine os_pure rfl rfl rfl ?_
  refine os_eff rfl rfl rfl ?_
  refine os_pure rfl rfl rfl ?_
  refine os_pure rfl rfl rfl ?_
  refine os_pure rfl rfl rfl ?_
  refine os_pure rfl rfl rfl ?_
  refine os_pure rfl rfl rfl ?_
  refine os_eff rfl rfl rfl ?_
  refine os_pure rfl rfl rfl ?_
  refine os_pure rfl rfl rfl ?_
  refine os_nil ?_
  refine ev_if rfl (fun g1 => ?_) (fun g1 => ?_)
  · replace h := cond_t h g1
    refine ev_seq ?_
    refine ev_region ?_
    refine os_pure rfl rfl rfl ?_
    refine os_nil ?_
    cases h
    exact ev_ret ⟨_, _, _, rfl, rfl, rfl⟩
  · replace h := cond_f h g1
    refine ev_skip ?_
    refine ev_seq ?_
    refine ev_regionS [0, 0] rfl ?_
    refine osP_cons rfl ?_
    refine os_pure rfl rfl rfl ?_
    refine os_nil ?_
    refine osP_cons rfl ?_
    refine os_pure rfl rfl rfl ?_
    refine os_nil ?_
    refine osP_cons rfl ?_
    refine os_pure rfl rfl rfl ?_
    refine os_nil ?_
    refine osP_cons rfl ?_
    refine os_eff rfl rfl rfl ?_
    refine os_nil ?_
    refine osP_cons rfl ?_
    refine os_pure rfl rfl rfl ?_
    refine os_nil ?_
    refine osP_cons rfl ?_
    refine os_pure rfl rfl rfl ?_
    refine os_nil ?_
    refine osP_cons rfl ?_
    refine os_pure rfl rfl rfl ?_
    refine os_nil ?_
    refine osP_cons rfl ?_
    refine os_eff rfl rfl rfl ?_
    refine os_nil ?_
    refine osP_cons rfl ?_
    refine os_pure rfl rfl rfl ?_
    refine os_nil ?_
    refine osP_cons rfl ?_
    refine os_pure rfl rfl rfl ?_
    refine os_nil ?_
    refine osP_cons rfl ?_
    obtain ⟨x7, g2, h⟩ := bnd_inv h
    refine os_idx encTok g2 rfl rfl rfl rfl rfl rfl rfl rfl ?_
    refine os_nil ?_
    refine osP_cons rfl ?_
    refine os_loadA (c := [.int .i64 x7.kind, .str x7.text, .int .i64 x7.at_, .int .i64 x7.len]) rfl rfl rfl rfl rfl rfl rfl ?_
    refine os_nil ?_
    refine osP_cons rfl ?_
    refine os_eff rfl rfl rfl ?_
    refine os_nil ?_
    refine osP_cons rfl ?_
    refine os_eff rfl rfl rfl ?_
    refine os_nil ?_
    refine osP_nil ?_
    refine ⟨rfl, ?_⟩
    refine ev_seq ?_
    refine ev_region ?_
    refine os_pure rfl rfl rfl ?_
    refine os_eff rfl rfl rfl ?_
    refine os_pure rfl rfl rfl ?_
    refine os_pure rfl rfl rfl ?_
    refine os_pure rfl rfl rfl ?_
    refine os_guard rfl rfl rfl (fun g3 => ?_) (fun g3 => ?_)
    · replace h := cond_t h g3
      refine os_pure rfl rfl rfl ?_
      refine os_pure rfl rfl rfl ?_
      refine os_pure rfl rfl rfl ?_
      refine os_guard rfl rfl rfl (fun g4 => ?_) (fun g4 => ?_)
      · replace h := cond_t h g4
        refine os_skip rfl ?_
        refine os_skip rfl ?_
        refine os_skip rfl ?_
        refine os_skip rfl ?_
        refine os_pure rfl rfl rfl ?_
        refine os_pure rfl rfl rfl ?_
        refine os_pure rfl rfl rfl ?_
        refine os_nil ?_
        cases h
        exact ev_ret ⟨_, _, _, rfl, rfl, rfl⟩
      · replace h := cond_f h g4
        refine os_pure rfl rfl rfl ?_
        refine os_eff rfl rfl rfl ?_
        refine os_pure rfl rfl rfl ?_
        refine os_pure rfl rfl rfl ?_
        refine os_pure rfl rfl rfl ?_
        refine os_pure rfl rfl rfl ?_
        refine os_pure rfl rfl rfl ?_
        refine os_nil ?_
        cases h
        exact ev_ret ⟨_, _, _, rfl, rfl, rfl⟩
    · replace h := cond_f h g3
      refine os_skip rfl ?_
      refine os_skip rfl ?_
      refine os_skip rfl ?_
      refine os_skip rfl ?_
      refine os_skip rfl ?_
      refine os_skip rfl ?_
      refine os_skip rfl ?_
      refine os_skip rfl ?_
      refine os_pure rfl rfl rfl ?_
      refine os_pure rfl rfl rfl ?_
      refine os_nil ?_
      cases h
      exact ev_ret ⟨_, _, _, rfl, rfl, rfl⟩
theorem parse_parser_take_ok {sign1 : Str} {tokens2 : List Tok} {at3 : Int} {size4 : Int} {r : Bool × Int} (h : parse_parser_take sign1 tokens2 at3 size4 = some r) :
    E env (.call 145 [.ptr 0 0, .str sign1]) [(0, .row [.slice .sealed (List.length tokens2) (clTok tokens2), .int .i64 at3, .int .i64 size4])] = some (parse_parser_take_enc sign1 tokens2 at3 size4 r) := by
  unfold parse_parser_take at h
  refine call_out rfl Tryz.func145 rfl rfl ?_
  refine ev_seq ?_
  refine ev_region ?_
  refine os_pure rfl rfl rfl ?_
  refine os_nil ?_
  refine ev_seq ?_
  refine ev_seq ?_
  refine ev_region ?_
  refine os_pure rfl rfl rfl ?_
  refine os_pure rfl rfl rfl ?_
  obtain ⟨r5, g1, h⟩ := bnd_inv h
  refine os_call rfl rfl rfl (callVia_eq rfl rfl (parse_parser_is_ok g1) rfl rfl rfl) ?_
  refine os_pure rfl rfl rfl ?_
  refine os_nil ?_
  refine ev_if rfl (fun g2 => ?_) (fun g2 => ?_)
  · replace h := cond_t h g2
    refine ev_seq ?_
    refine ev_region ?_
    refine os_pure rfl rfl rfl ?_
    refine os_nil ?_
    cases h
    exact ev_ret ⟨_, _, _, rfl, rfl, rfl⟩
  · replace h := cond_f h g2
    refine ev_skip ?_
    refine ev_seq ?_
    refine ev_region ?_
    refine os_pure rfl rfl rfl ?_
    refine os_pure rfl rfl rfl ?_
    refine os_pure rfl rfl rfl ?_
    refine os_eff rfl rfl rfl ?_
    refine os_pure rfl rfl rfl ?_
    refine os_pure rfl rfl rfl ?_
    refine os_pure rfl rfl rfl ?_
    refine os_eff rfl rfl rfl ?_
    refine os_nil ?_
    refine ev_seq ?_
    refine ev_region ?_
    refine os_pure rfl rfl rfl ?_
    refine os_nil ?_
    cases h
    exact ev_ret ⟨_, _, _, rfl, rfl, rfl⟩
theorem parse_parser_want_ok {sign1 : Str} {tokens2 : List Tok} {at3 : Int} {size4 : Int} {r : Rs Int (Int × Int)} (h : parse_parser_want sign1 tokens2 at3 size4 = some r) :
    E env (.call 147 [.ptr 0 0, .str sign1]) [(0, .row [.slice .sealed (List.length tokens2) (clTok tokens2), .int .i64 at3, .int .i64 size4])] = some (parse_parser_want_enc sign1 tokens2 at3 size4 r) := by
  unfold parse_parser_want at h
  refine call_out rfl Tryz.func147 rfl rfl ?_
  refine ev_seq ?_
  refine ev_region ?_
  refine os_pure rfl rfl rfl ?_
  refine os_pure rfl rfl rfl ?_
  obtain ⟨⟨r5, at6⟩, g1, h⟩ := bnd_inv h
  refine os_call rfl rfl rfl (callVia_eq rfl rfl (parse_parser_take_ok g1) rfl rfl rfl) ?_
  refine os_pure rfl rfl rfl ?_
  refine os_nil ?_
  refine ev_if rfl (fun g2 => ?_) (fun g2 => ?_)
  · replace h := cond_t h g2
    refine ev_region ?_
    refine os_pure rfl rfl rfl ?_
    rcases bindP_inv h with ⟨x, _, _⟩ | ⟨at7, g3, h⟩
    · exact x.elim
    · refine os_callP rfl rfl rfl (callVia_eqP rfl rfl (parse_parser_fail_ok g3) rfl rfl rfl) ?_
      cases h
      exact ⟨_, _, rfl, rfl⟩
  · replace h := cond_f h g2
    refine ev_skip ?_
    cases h
    exact ⟨_, _, _, rfl, rfl, rfl⟩
theorem parse_named_ok {name1 : Str} {args2 : List Typ} {r : Typ} (h : parse_named name1 args2 = some r) :
    E env (.call 198 [.str name1, .slice .sealed (List.length args2) (clTyp args2)]) [] = some (parse_named_enc name1 args2 r) := by
  unfold parse_named at h
  refine call_out rfl Tryz.func198 rfl rfl ?_
  refine ev_seq ?_
  refine ev_region ?_
  refine os_eff rfl rfl rfl ?_
  refine os_nil ?_
  refine ev_seq ?_
  refine ev_region ?_
  refine os_pure rfl rfl rfl ?_
  refine os_nil ?_
  obtain ⟨y1, g2, h⟩ := bindL_inv h
  refine ev_segL (KR := fun r => OutK env 198 0 Tryz.f198.results.toList (parse_named_enc name1 args2 r)) y1 (fun z17 => [(0, .str name1), (1, .slice .sealed (List.length args2) (clTyp args2)), (4, .ptr 0 0), (5, .int .i64 z17)]) (fun z17 => [(0, .row [.int .i64 0, .str [], .int .i64 0, .slice (.tag 1) (List.length ([] : List Typ)) (clTyp ([] : List Typ))]), (1, .tip 0 0)]) rfl ?_ (fun z17 hx => ?_) (fun r res hz hr hn => ?_)
  · replace h := g2
    clear g2
    refine ev_block ?_
    obtain ⟨y3, g4, h⟩ := bnd_inv h
    refine ev_seg [(0, .str name1), (1, .slice .sealed (List.length args2) (clTyp args2)), (4, .ptr 0 0), (5, .int .i64 6), (6, .bool y3)] [(0, .row [.int .i64 0, .str [], .int .i64 0, .slice (.tag 1) (List.length ([] : List Typ)) (clTyp ([] : List Typ))]), (1, .tip 0 0)] rfl ?_ ?_
    · replace h := g4
      clear g4
      refine ev_region ?_
      refine os_pure rfl rfl rfl ?_
      refine os_pure rfl rfl rfl ?_
      refine os_pure rfl rfl rfl ?_
      refine os_pure rfl rfl rfl ?_
      refine os_guard rfl rfl rfl (fun g5 => ?_) (fun g5 => ?_)
      · replace h := cond_t h g5
        refine os_pure rfl rfl rfl ?_
        refine os_pure rfl rfl rfl ?_
        refine os_pure rfl rfl rfl ?_
        refine os_pure rfl rfl rfl ?_
        refine os_nil ?_
        cases h
        exact rfl
      · replace h := cond_f h g5
        refine os_skip rfl ?_
        refine os_skip rfl ?_
        refine os_pure rfl rfl rfl ?_
        refine os_pure rfl rfl rfl ?_
        refine os_nil ?_
        cases h
        exact rfl
    · obtain ⟨x505, rfl⟩ : ∃ q, q = y3 := ⟨_, rfl⟩
      show Ev _ _ _ _ _ [(0, .str name1), (1, .slice .sealed (List.length args2) (clTyp args2)), (4, .ptr 0 0), (5, .int .i64 6), (6, .bool x505)] [(0, .row [.int .i64 0, .str [], .int .i64 0, .slice (.tag 1) (List.length ([] : List Typ)) (clTyp ([] : List Typ))]), (1, .tip 0 0)] _
      refine ev_if rfl (fun g6 => ?_) (fun g6 => ?_)
      · replace h := cond_t h g6
        refine ev_seq ?_
        refine ev_region ?_
        refine os_pure rfl rfl rfl ?_
        refine os_pureD rfl rfl rfl ?_
        refine os_eff rfl rfl rfl ?_
        refine os_nil ?_
        cases h
        exact ev_ret ⟨_, rfl, _, _, _, rfl, rfl, rfl⟩
      · replace h := cond_f h g6
        obtain ⟨y7, g8, h⟩ := bnd_inv h
        refine ev_seg [(0, .str name1), (1, .slice .sealed (List.length args2) (clTyp args2)), (4, .ptr 0 0), (5, .int .i64 6), (16, .bool y7)] [(0, .row [.int .i64 0, .str [], .int .i64 0, .slice (.tag 1) (List.length ([] : List Typ)) (clTyp ([] : List Typ))]), (1, .tip 0 0)] rfl ?_ ?_
        · replace h := g8
          clear g8
          refine ev_region ?_
          refine os_pure rfl rfl rfl ?_
          refine os_pure rfl rfl rfl ?_
          refine os_pure rfl rfl rfl ?_
          refine os_pure rfl rfl rfl ?_
          refine os_guard rfl rfl rfl (fun g9 => ?_) (fun g9 => ?_)
          · replace h := cond_t h g9
            refine os_pure rfl rfl rfl ?_
            refine os_pure rfl rfl rfl ?_
            refine os_pure rfl rfl rfl ?_
            refine os_pure rfl rfl rfl ?_
            refine os_nil ?_
            cases h
            exact rfl
          · replace h := cond_f h g9
            refine os_skip rfl ?_
            refine os_skip rfl ?_
            refine os_pure rfl rfl rfl ?_
            refine os_pure rfl rfl rfl ?_
            refine os_nil ?_
            cases h
            exact rfl
        · obtain ⟨x503, rfl⟩ : ∃ q, q = y7 := ⟨_, rfl⟩
          show Ev _ _ _ _ _ [(0, .str name1), (1, .slice .sealed (List.length args2) (clTyp args2)), (4, .ptr 0 0), (5, .int .i64 6), (16, .bool x503)] [(0, .row [.int .i64 0, .str [], .int .i64 0, .slice (.tag 1) (List.length ([] : List Typ)) (clTyp ([] : List Typ))]), (1, .tip 0 0)] _
          refine ev_if rfl (fun g10 => ?_) (fun g10 => ?_)
          · replace h := cond_t h g10
            refine ev_seq ?_
            refine ev_region ?_
            refine os_pure rfl rfl rfl ?_
            refine os_pureD rfl rfl rfl ?_
            refine os_eff rfl rfl rfl ?_
            refine os_nil ?_
            cases h
            exact ev_ret ⟨_, rfl, _, _, _, rfl, rfl, rfl⟩
          · replace h := cond_f h g10
            refine ev_seq ?_
            refine ev_region ?_
            refine os_pure rfl rfl rfl ?_
            refine os_pure rfl rfl rfl ?_
            refine os_pure rfl rfl rfl ?_
            refine os_pure rfl rfl rfl ?_
            refine os_nil ?_
            refine ev_if rfl (fun g11 => ?_) (fun g11 => ?_)
            · replace h := cond_t h g11
              refine ev_skip ?_
              cases h
              exact ⟨_, rfl, rfl⟩
            · replace h := cond_f h g11
              refine ev_seq ?_
              refine ev_region ?_
              refine os_pure rfl rfl rfl ?_
              refine os_pure rfl rfl rfl ?_
              refine os_pure rfl rfl rfl ?_
              refine os_nil ?_
              refine ev_if rfl (fun g12 => ?_) (fun g12 => ?_)
              · replace h := cond_t h g12
                refine ev_region ?_
                refine os_pure rfl rfl rfl ?_
                refine os_nil ?_
                cases h
                exact ⟨_, rfl, rfl⟩
              · replace h := cond_f h g12
                refine ev_seq ?_
                refine ev_region ?_
                refine os_pure rfl rfl rfl ?_
                refine os_pure rfl rfl rfl ?_
                refine os_pure rfl rfl rfl ?_
                refine os_nil ?_
                refine ev_if rfl (fun g13 => ?_) (fun g13 => ?_)
                · replace h := cond_t h g13
                  refine ev_region ?_
                  refine os_pure rfl rfl rfl ?_
                  refine os_nil ?_
                  cases h
                  exact ⟨_, rfl, rfl⟩
                · replace h := cond_f h g13
                  refine ev_seq ?_
                  refine ev_region ?_
                  refine os_pure rfl rfl rfl ?_
                  refine os_pure rfl rfl rfl ?_
                  refine os_pure rfl rfl rfl ?_
                  refine os_nil ?_
                  refine ev_if rfl (fun g14 => ?_) (fun g14 => ?_)
                  · replace h := cond_t h g14
                    refine ev_region ?_
                    refine os_pure rfl rfl rfl ?_
                    refine os_nil ?_
                    cases h
                    exact ⟨_, rfl, rfl⟩
                  · replace h := cond_f h g14
                    refine ev_seq ?_
                    refine ev_region ?_
                    refine os_pure rfl rfl rfl ?_
                    refine os_pure rfl rfl rfl ?_
                    refine os_pure rfl rfl rfl ?_
                    refine os_nil ?_
                    refine ev_if rfl (fun g15 => ?_) (fun g15 => ?_)
                    · replace h := cond_t h g15
                      refine ev_region ?_
                      refine os_pure rfl rfl rfl ?_
                      refine os_nil ?_
                      cases h
                      exact ⟨_, rfl, rfl⟩
                    · replace h := cond_f h g15
                      refine ev_skip ?_
                      cases h
                      exact ⟨_, rfl, rfl⟩
  · subst hx
    obtain ⟨kind507, rfl⟩ : ∃ q, q = z17 := ⟨_, rfl⟩
    show Ev _ _ _ _ _ [(0, .str name1), (1, .slice .sealed (List.length args2) (clTyp args2)), (4, .ptr 0 0), (5, .int .i64 kind507)] [(0, .row [.int .i64 0, .str [], .int .i64 0, .slice (.tag 1) (List.length ([] : List Typ)) (clTyp ([] : List Typ))]), (1, .tip 0 0)] _
    refine ev_seq ?_
    refine ev_seq ?_
    refine ev_region ?_
    refine os_pure rfl rfl rfl ?_
    refine os_pure rfl rfl rfl ?_
    refine os_nil ?_
    refine ev_if rfl (fun g16 => ?_) (fun g16 => ?_)
    · replace h := cond_t h g16
      refine ev_seq ?_
      refine ev_region ?_
      refine os_pure rfl rfl rfl ?_
      refine os_pureD rfl rfl rfl ?_
      refine os_eff rfl rfl rfl ?_
      refine os_nil ?_
      cases h
      exact ev_ret ⟨_, _, _, rfl, rfl, rfl⟩
    · replace h := cond_f h g16
      refine ev_skip ?_
      refine ev_seq ?_
      refine ev_region ?_
      refine os_pure rfl rfl rfl ?_
      refine os_pure rfl rfl rfl ?_
      refine os_pure rfl rfl rfl ?_
      refine os_pureD rfl rfl rfl ?_
      refine os_eff rfl rfl rfl ?_
      refine os_nil ?_
      cases h
      exact ev_ret ⟨_, _, _, rfl, rfl, rfl⟩
  · subst hz
    obtain ⟨e, fr1, H1⟩ := res
    cases e with
    | normal => exact absurd rfl hn
    | ret => cases h; exact hr
    | exit i => exact hr.elim
    | panic v => cases h; exact hr
theorem parse_parser_token_ok {kind1 : Int} {tokens2 : List Tok} {at3 : Int} {size4 : Int} {r : Rs Tok Int} (h : parse_parser_token kind1 tokens2 at3 size4 = some r) :
    E env (.call 153 [.ptr 0 0, .int .i64 kind1]) [(0, .row [.slice .sealed (List.length tokens2) (clTok tokens2), .int .i64 at3, .int .i64 size4])] = some (parse_parser_token_enc kind1 tokens2 at3 size4 r) := by
  unfold parse_parser_token at h
  refine call_out rfl Tryz.func153 rfl rfl ?_
  refine ev_seq ?_
  refine ev_region ?_
  refine os_eff rfl rfl rfl ?_
  refine os_nil ?_
  refine ev_seq ?_
  refine ev_seq ?_
  refine ev_region ?_
  refine os_pure rfl rfl rfl ?_
  refine os_pure rfl rfl rfl ?_
  obtain ⟨r5, g1, h⟩ := bnd_inv h
  refine os_call rfl rfl rfl (callVia_eq rfl rfl (parse_parser_is_ok g1) rfl rfl rfl) ?_
  refine os_pure rfl rfl rfl ?_
  refine os_nil ?_
  refine ev_if rfl (fun g2 => ?_) (fun g2 => ?_)
  · replace h := cond_t h g2
    refine ev_region ?_
    refine os_pure rfl rfl rfl ?_
    rcases bindP_inv h with ⟨x, _, _⟩ | ⟨at6, g3, h⟩
    · exact x.elim
    · refine os_callP rfl rfl rfl (callVia_eqP rfl rfl (parse_parser_fail_ok g3) rfl rfl rfl) ?_
      cases h
      exact ⟨_, _, rfl, rfl⟩
  · replace h := cond_f h g2
    refine ev_skip ?_
    refine ev_seq ?_
    refine ev_regionS [0, 0] rfl ?_
    refine osP_cons rfl ?_
    refine os_pure rfl rfl rfl ?_
    refine os_nil ?_
    refine osP_cons rfl ?_
    refine os_pure rfl rfl rfl ?_
    refine os_nil ?_
    refine osP_cons rfl ?_
    refine os_pure rfl rfl rfl ?_
    refine os_nil ?_
    refine osP_cons rfl ?_
    refine os_eff rfl rfl rfl ?_
    refine os_nil ?_
    refine osP_cons rfl ?_
    refine os_pure rfl rfl rfl ?_
    refine os_nil ?_
    refine osP_cons rfl ?_
    refine os_pure rfl rfl rfl ?_
    refine os_nil ?_
    refine osP_cons rfl ?_
    refine os_pure rfl rfl rfl ?_
    refine os_nil ?_
    refine osP_cons rfl ?_
    refine os_eff rfl rfl rfl ?_
    refine os_nil ?_
    refine osP_cons rfl ?_
    obtain ⟨x7, g4, h⟩ := bnd_inv h
    refine os_idx encTok g4 rfl rfl rfl rfl rfl rfl rfl rfl ?_
    refine os_nil ?_
    refine osP_cons rfl ?_
    refine os_loadA (c := [.int .i64 x7.kind, .str x7.text, .int .i64 x7.at_, .int .i64 x7.len]) rfl rfl rfl rfl rfl rfl rfl ?_
    refine os_nil ?_
    refine osP_cons rfl ?_
    refine os_eff rfl rfl rfl ?_
    refine os_nil ?_
    refine osP_cons rfl ?_
    refine os_eff rfl rfl rfl ?_
    refine os_nil ?_
    refine osP_nil ?_
    refine ⟨rfl, ?_⟩
    refine ev_seq ?_
    refine ev_region ?_
    refine os_pure rfl rfl rfl ?_
    refine os_pure rfl rfl rfl ?_
    refine os_pure rfl rfl rfl ?_
    refine os_eff rfl rfl rfl ?_
    refine os_pure rfl rfl rfl ?_
    refine os_pure rfl rfl rfl ?_
    refine os_pure rfl rfl rfl ?_
    refine os_eff rfl rfl rfl ?_
    refine os_nil ?_
    refine ev_seq ?_
    refine ev_region ?_
    refine os_eff rfl rfl rfl ?_
    refine os_eff rfl rfl rfl ?_
    refine os_nil ?_
    cases h
    exact ev_ret ⟨_, _, _, rfl, rfl, rfl⟩
theorem parse_parser_capital_ok {tokens1 : List Tok} {at2 : Int} {size3 : Int} {r : Rs Str Int} (h : parse_parser_capital tokens1 at2 size3 = some r) :
    E env (.call 89 [.ptr 0 0]) [(0, .row [.slice .sealed (List.length tokens1) (clTok tokens1), .int .i64 at2, .int .i64 size3])] = some (parse_parser_capital_enc tokens1 at2 size3 r) := by
  unfold parse_parser_capital at h
  refine call_out rfl Tryz.func89 rfl rfl ?_
  refine ev_seq ?_
  refine ev_region ?_
  refine os_pure rfl rfl rfl ?_
  refine os_nil ?_
  refine ev_seq ?_
  refine ev_region ?_
  refine os_pure rfl rfl rfl ?_
  rcases bindP_inv h with ⟨r4, g1, h⟩ | ⟨at5, g2, h⟩
  · refine os_call rfl rfl rfl (callVia_eq rfl rfl (parse_parser_token_ok g1) rfl rfl rfl) ?_
    refine os_pure rfl rfl rfl ?_
    refine os_pure rfl rfl rfl ?_
    refine os_nil ?_
    cases h
    exact ev_ret ⟨_, _, _, rfl, rfl, rfl⟩
  · refine os_callP rfl rfl rfl (callVia_eqP rfl rfl (parse_parser_token_ok g2) rfl rfl rfl) ?_
    cases h
    exact ⟨_, _, rfl, rfl⟩
theorem parse_parser_key_ok {word1 : Str} {tokens2 : List Tok} {at3 : Int} {size4 : Int} {r : Bool × Int} (h : parse_parser_key word1 tokens2 at3 size4 = some r) :
    E env (.call 88 [.ptr 0 0, .str word1]) [(0, .row [.slice .sealed (List.length tokens2) (clTok tokens2), .int .i64 at3, .int .i64 size4])] = some (parse_parser_key_enc word1 tokens2 at3 size4 r) := by
  unfold parse_parser_key at h
  refine call_out rfl Tryz.func88 rfl rfl ?_
  refine ev_seq ?_
  refine ev_region ?_
  refine os_pure rfl rfl rfl ?_
  refine os_nil ?_
  refine ev_seq ?_
  refine ev_seq ?_
  refine ev_region ?_
  refine os_pure rfl rfl rfl ?_
  refine os_pure rfl rfl rfl ?_
  obtain ⟨r5, g1, h⟩ := bnd_inv h
  refine os_call rfl rfl rfl (callVia_eq rfl rfl (parse_parser_is_ok g1) rfl rfl rfl) ?_
  refine os_pure rfl rfl rfl ?_
  refine os_nil ?_
  refine ev_if rfl (fun g2 => ?_) (fun g2 => ?_)
  · replace h := cond_t h g2
    refine ev_seq ?_
    refine ev_region ?_
    refine os_pure rfl rfl rfl ?_
    refine os_nil ?_
    cases h
    exact ev_ret ⟨_, _, _, rfl, rfl, rfl⟩
  · replace h := cond_f h g2
    refine ev_skip ?_
    refine ev_seq ?_
    refine ev_region ?_
    refine os_pure rfl rfl rfl ?_
    refine os_pure rfl rfl rfl ?_
    refine os_pure rfl rfl rfl ?_
    refine os_eff rfl rfl rfl ?_
    refine os_pure rfl rfl rfl ?_
    refine os_pure rfl rfl rfl ?_
    refine os_pure rfl rfl rfl ?_
    refine os_eff rfl rfl rfl ?_
    refine os_nil ?_
    refine ev_seq ?_
    refine ev_region ?_
    refine os_pure rfl rfl rfl ?_
    refine os_nil ?_
    cases h
    exact ev_ret ⟨_, _, _, rfl, rfl, rfl⟩
end Go.Proofs.YtmonfppdiehlpaaGreatDoor
/- The functions do what the plain Lean says. (Printed by a program.) -/
namespace Go.Proofs.YtmonfppdiehlpaaGreatDoor
set_option linter.unusedSimpArgs false
set_option linter.unusedVariables false
set_option linter.unusedSectionVars false
open Go Go.Vm
set_option maxRecDepth 100000
set_option maxHeartbeats 20000000
set_option linter.unusedVariables false
structure parse_parser_typ_F.Ok (Φ : parse_parser_typ_F) : Prop where
  parse_parser_typ : ∀ {tokens1 : List Tok} {at2 : Int} {size3 : Int} {r : Rs (Typ × Int) (Int × Int)}, Φ.parse_parser_typ tokens1 at2 size3 = some r → E env (.call 79 [.ptr 0 0]) [(0, .row [.slice .sealed (List.length tokens1) (clTok tokens1), .int .i64 at2, .int .i64 size3])] = some (parse_parser_typ_enc tokens1 at2 size3 r)
  parse_parser_path : ∀ {inExpr1 : Bool} {tokens2 : List Tok} {at3 : Int} {size4 : Int} {r : Rs (Typ × Int) (Int × Int)}, Φ.parse_parser_path inExpr1 tokens2 at3 size4 = some r → E env (.call 146 [.ptr 0 0, .bool inExpr1]) [(0, .row [.slice .sealed (List.length tokens2) (clTok tokens2), .int .i64 at3, .int .i64 size4])] = some (parse_parser_path_enc inExpr1 tokens2 at3 size4 r)
theorem parse_parser_typ_b_ok (n : Nat) {Φ : parse_parser_typ_F} (hΦ : Φ.Ok) {tokens1 : List Tok} {at2 : Int} {size3 : Int} {r : Rs (Typ × Int) (Int × Int)} (h : parse_parser_typ_b n Φ tokens1 at2 size3 = some r) :
    E env (.call 79 [.ptr 0 0]) [(0, .row [.slice .sealed (List.length tokens1) (clTok tokens1), .int .i64 at2, .int .i64 size3])] = some (parse_parser_typ_enc tokens1 at2 size3 r) := by
  unfold parse_parser_typ_b at h
  refine call_out rfl Tryz.func79 rfl rfl ?_
  refine ev_seq ?_
  refine ev_region ?_
  refine os_eff rfl rfl rfl ?_
  refine os_nil ?_
  refine ev_seq ?_
  refine ev_seq ?_
  refine ev_region ?_
  refine os_pure rfl rfl rfl ?_
  obtain ⟨⟨r4, at5⟩, g1, h⟩ := bnd_inv h
  refine os_call rfl rfl rfl (callVia_eq rfl rfl (parse_parser_key_ok g1) rfl rfl rfl) ?_
  refine os_nil ?_
  refine ev_if rfl (fun g2 => ?_) (fun g2 => ?_)
  · replace h := cond_t h g2
    refine ev_seq ?_
    refine ev_region ?_
    refine os_pure rfl rfl rfl ?_
    rcases bindP_inv h with ⟨r6, g3, h⟩ | ⟨at7, g4, h⟩
    · refine os_call rfl rfl rfl (callVia_eq rfl rfl (parse_parser_capital_ok g3) rfl rfl rfl) ?_
      refine os_pureD rfl rfl rfl ?_
      refine os_eff rfl rfl rfl ?_
      refine os_nil ?_
      cases h
      exact ev_ret ⟨_, _, _, rfl, rfl, rfl⟩
    · refine os_callP rfl rfl rfl (callVia_eqP rfl rfl (parse_parser_capital_ok g4) rfl rfl rfl) ?_
      cases h
      exact ⟨_, _, rfl, rfl⟩
  · replace h := cond_f h g2
    refine ev_skip ?_
    refine ev_seq ?_
    refine ev_seq ?_
    refine ev_region ?_
    refine os_pure rfl rfl rfl ?_
    obtain ⟨⟨r8, at9⟩, g5, h⟩ := bnd_inv h
    refine os_call rfl rfl rfl (callVia_eq rfl rfl (parse_parser_take_ok g5) rfl rfl rfl) ?_
    refine os_pure rfl rfl rfl ?_
    refine os_nil ?_
    refine ev_if rfl (fun g6 => ?_) (fun g6 => ?_)
    · replace h := cond_t h g6
      refine ev_seq ?_
      refine ev_region ?_
      refine os_pure rfl rfl rfl ?_
      rcases bindP_inv h with ⟨⟨r10, at11⟩, g7, h⟩ | ⟨⟨at12, at13⟩, g8, h⟩
      · obtain ⟨r10_0, r10_1, r10_2, r10_3⟩ := r10
        refine os_call rfl rfl rfl (callVia_eq rfl rfl (hΦ.parse_parser_path g7) rfl rfl rfl) ?_
        refine os_eff rfl rfl rfl ?_
        refine os_nil ?_
        cases h
        exact ev_ret ⟨_, _, _, rfl, rfl, rfl⟩
      · refine os_callP rfl rfl rfl (callVia_eqP rfl rfl (hΦ.parse_parser_path g8) rfl rfl rfl) ?_
        cases h
        exact ⟨_, _, rfl, rfl⟩
    · replace h := cond_f h g6
      refine ev_skip ?_
      refine ev_seq ?_
      refine ev_region ?_
      refine os_pure rfl rfl rfl ?_
      refine os_nil ?_
      obtain ⟨y9, g10, h⟩ := bindL_inv h
      refine ev_segL (KR := fun r => OutK env 79 1 Tryz.f79.results.toList (parse_parser_typ_enc tokens1 at2 size3 r)) y9 (fun z31 => [(0, .ptr 0 0), (2, .ptr 1 0), (3, .slice (.tag 2) (List.length z31.1) (clTyp z31.1))]) (fun z31 => [(0, .row [.slice .sealed (List.length tokens1) (clTok tokens1), .int .i64 z31.2, .int .i64 size3]), (1, .row [.int .i64 0, .str [], .int .i64 0, .slice (.tag 3) (List.length ([] : List Typ)) (clTyp ([] : List Typ))]), (2, .tip (tpe 4 (List.length z31.1)) (List.length z31.1)), (3, .tip 0 0)]) rfl ?_ (fun z31 hx => ?_) (fun r res hz hr hn => ?_)
      · replace h := g10
        clear g10
        refine ev_seq ?_
        refine ev_region ?_
        refine os_pure rfl rfl rfl ?_
        obtain ⟨⟨r14, at15⟩, g11, h⟩ := bnd_inv h
        refine os_call rfl rfl rfl (callVia_eq rfl rfl (parse_parser_take_ok g11) rfl rfl rfl) ?_
        refine os_pure rfl rfl rfl ?_
        refine os_nil ?_
        refine ev_if rfl (fun g12 => ?_) (fun g12 => ?_)
        · replace h := cond_t h g12
          refine ev_seq ?_
          refine ev_region ?_
          refine os_pure rfl rfl rfl ?_
          refine os_pure rfl rfl rfl ?_
          rcases bindP_inv h with ⟨⟨r16, at17⟩, g13, h⟩ | ⟨⟨at29, at30⟩, g25, h⟩
          · obtain ⟨r16_0, r16_1, r16_2, r16_3⟩ := r16
            refine os_call rfl rfl rfl (callVia_eq rfl rfl (hΦ.parse_parser_typ g13) rfl rfl rfl) ?_
            refine os_pure rfl rfl rfl ?_
            obtain ⟨l18, g14, h⟩ := bnd_inv h
            refine os_appN encTyp g14 rfl rfl rfl rfl (.inl rfl) rfl rfl rfl rfl rfl rfl rfl rfl rfl rfl (gd_t (eqN_ok rfl) rfl) rfl rfl rfl ?_
            refine os_pure rfl rfl rfl ?_
            refine os_nil ?_
            obtain ⟨y15, g16, h⟩ := bindQ_inv h
            refine ev_segL (KR := fun r => OutK env 79 1 Tryz.f79.results.toList (parse_parser_typ_enc tokens1 at2 size3 r)) y15 (fun z24 => [(0, .ptr 0 0), (2, .ptr 1 0), (3, .slice (.tag 2) (List.length z24.1) (clTyp z24.1))]) (fun z24 => [(0, .row [.slice .sealed (List.length tokens1) (clTok tokens1), .int .i64 z24.2, .int .i64 size3]), (1, .row [.int .i64 0, .str [], .int .i64 0, .slice (.tag 3) (List.length ([] : List Typ)) (clTyp ([] : List Typ))]), (2, .tip (tpe 4 (List.length z24.1)) (List.length z24.1)), (3, .tip 0 0)]) rfl ?_ (fun z24 hx => ?_) (fun r res hz hr hn => ?_)
            · replace h := g16
              clear g16
              refine ev_block ?_
              refine ev_loop rfl ?_
              revert y15
              refine lp_fuel (fun m (x : List Typ × Int) => parse_parser_typ_l8 n Φ size3 tokens1 m x.1 x.2) (fun x => [(0, .ptr 0 0), (2, .ptr 1 0), (3, .slice (.tag 2) (List.length x.1) (clTyp x.1))]) (fun x => [(0, .row [.slice .sealed (List.length tokens1) (clTok tokens1), .int .i64 x.2, .int .i64 size3]), (1, .row [.int .i64 0, .str [], .int .i64 0, .slice (.tag 3) (List.length ([] : List Typ)) (clTyp ([] : List Typ))]), (2, .tip (tpe 4 (List.length x.1)) (List.length x.1)), (3, .tip 0 0)]) _ (fun _ => rfl) (fun m8 x y ih h => ?_) n (l18, at17)
              obtain ⟨args506, at507⟩ := x
              show Ev _ _ _ _ _ [(0, .ptr 0 0), (2, .ptr 1 0), (3, .slice (.tag 2) (List.length args506) (clTyp args506))] [(0, .row [.slice .sealed (List.length tokens1) (clTok tokens1), .int .i64 at507, .int .i64 size3]), (1, .row [.int .i64 0, .str [], .int .i64 0, .slice (.tag 3) (List.length ([] : List Typ)) (clTyp ([] : List Typ))]), (2, .tip (tpe 4 (List.length args506)) (List.length args506)), (3, .tip 0 0)] _
              replace h : parse_parser_typ_l8 n Φ size3 tokens1 (m8 + 1) args506 at507 = some y := h
              rw [parse_parser_typ_l8] at h
              refine ev_seq ?_
              refine ev_seq ?_
              refine ev_region ?_
              refine os_pure rfl rfl rfl ?_
              obtain ⟨⟨r19, at20⟩, g17, h⟩ := bnd_inv h
              refine os_call rfl rfl rfl (callVia_eq rfl rfl (parse_parser_take_ok g17) rfl rfl rfl) ?_
              refine os_nil ?_
              refine ev_if rfl (fun g18 => ?_) (fun g18 => ?_)
              · replace h := cond_t h g18
                refine ev_skip ?_
                refine ev_block ?_
                refine ev_region ?_
                refine os_pure rfl rfl rfl ?_
                refine os_pure rfl rfl rfl ?_
                rcases bindP_inv h with ⟨⟨r21, at22⟩, g19, h⟩ | ⟨⟨at24, at25⟩, g21, h⟩
                · obtain ⟨r21_0, r21_1, r21_2, r21_3⟩ := r21
                  refine os_call rfl rfl rfl (callVia_eq rfl rfl (hΦ.parse_parser_typ g19) rfl rfl rfl) ?_
                  refine os_pure rfl rfl rfl ?_
                  obtain ⟨l23, g20, h⟩ := bnd_inv h
                  refine os_app encTyp g20 rfl rfl rfl rfl rfl rfl rfl rfl rfl rfl rfl rfl rfl rfl (gd_t (eqN_ok rfl) rfl) rfl rfl rfl ?_
                  refine os_pure rfl rfl rfl ?_
                  refine os_nil ?_
                  exact ⟨_, _, rfl, ih (_, _) _ h⟩
                · refine os_callP rfl rfl rfl (callVia_eqP rfl rfl (hΦ.parse_parser_typ g21) rfl rfl rfl) ?_
                  cases h
                  exact ⟨_, rfl, _, _, rfl, rfl⟩
              · replace h := cond_f h g18
                refine ev_exit ?_
                cases h
                exact ⟨_, rfl, rfl⟩
            · subst hx
              obtain ⟨args517, at518⟩ := z24
              show Ev _ _ _ _ _ [(0, .ptr 0 0), (2, .ptr 1 0), (3, .slice (.tag 2) (List.length args517) (clTyp args517))] [(0, .row [.slice .sealed (List.length tokens1) (clTok tokens1), .int .i64 at518, .int .i64 size3]), (1, .row [.int .i64 0, .str [], .int .i64 0, .slice (.tag 3) (List.length ([] : List Typ)) (clTyp ([] : List Typ))]), (2, .tip (tpe 4 (List.length args517)) (List.length args517)), (3, .tip 0 0)] _
              refine ev_region ?_
              refine os_pure rfl rfl rfl ?_
              rcases bindP_inv h with ⟨at26, g22, h⟩ | ⟨⟨at27, at28⟩, g23, h⟩
              · refine os_call rfl rfl rfl (callVia_eq rfl rfl (parse_parser_want_ok g22) rfl rfl rfl) ?_
                refine os_nil ?_
                cases h
                exact ⟨_, rfl, rfl⟩
              · refine os_callP rfl rfl rfl (callVia_eqP rfl rfl (parse_parser_want_ok g23) rfl rfl rfl) ?_
                cases h
                exact ⟨_, rfl, _, _, rfl, rfl⟩
            · subst hz
              obtain ⟨e, fr1, H1⟩ := res
              cases e with
              | normal => exact absurd rfl hn
              | ret => cases h; exact ⟨_, rfl, hr⟩
              | exit i => exact hr.elim
              | panic v => cases h; exact ⟨_, rfl, hr⟩
          · refine os_callP rfl rfl rfl (callVia_eqP rfl rfl (hΦ.parse_parser_typ g25) rfl rfl rfl) ?_
            cases h
            exact ⟨_, rfl, _, _, rfl, rfl⟩
        · replace h := cond_f h g12
          refine ev_skip ?_
          cases h
          exact ⟨_, rfl, rfl⟩
      · subst hx
        obtain ⟨args509, at510⟩ := z31
        show Ev _ _ _ _ _ [(0, .ptr 0 0), (2, .ptr 1 0), (3, .slice (.tag 2) (List.length args509) (clTyp args509))] [(0, .row [.slice .sealed (List.length tokens1) (clTok tokens1), .int .i64 at510, .int .i64 size3]), (1, .row [.int .i64 0, .str [], .int .i64 0, .slice (.tag 3) (List.length ([] : List Typ)) (clTyp ([] : List Typ))]), (2, .tip (tpe 4 (List.length args509)) (List.length args509)), (3, .tip 0 0)] _
        refine ev_seq ?_
        refine ev_region ?_
        refine os_pure rfl rfl rfl ?_
        rcases bindP_inv h with ⟨at31, g26, h⟩ | ⟨⟨at37, at38⟩, g30, h⟩
        · refine os_call rfl rfl rfl (callVia_eq rfl rfl (parse_parser_want_ok g26) rfl rfl rfl) ?_
          refine os_nil ?_
          refine ev_seq ?_
          refine ev_region ?_
          refine os_pure rfl rfl rfl ?_
          refine os_pure rfl rfl rfl ?_
          rcases bindP_inv h with ⟨⟨r32, at33⟩, g27, h⟩ | ⟨⟨at35, at36⟩, g29, h⟩
          · obtain ⟨r32_0, r32_1, r32_2, r32_3⟩ := r32
            refine os_call rfl rfl rfl (callVia_eq rfl rfl (hΦ.parse_parser_typ g27) rfl rfl rfl) ?_
            refine os_pure rfl rfl rfl ?_
            obtain ⟨l34, g28, h⟩ := bnd_inv h
            refine os_app encTyp g28 rfl rfl rfl rfl rfl rfl rfl rfl rfl rfl rfl rfl rfl rfl (gd_t (eqN_ok rfl) rfl) rfl rfl rfl ?_
            refine os_pure rfl rfl rfl ?_
            refine os_nil ?_
            refine ev_seq ?_
            refine ev_region ?_
            refine os_pure rfl rfl rfl ?_
            refine os_pureD rfl rfl rfl ?_
            refine os_eff rfl rfl rfl ?_
            refine os_nil ?_
            cases h
            exact ev_ret ⟨_, _, _, rfl, rfl, rfl⟩
          · refine os_callP rfl rfl rfl (callVia_eqP rfl rfl (hΦ.parse_parser_typ g29) rfl rfl rfl) ?_
            cases h
            exact ⟨_, _, rfl, rfl⟩
        · refine os_callP rfl rfl rfl (callVia_eqP rfl rfl (parse_parser_want_ok g30) rfl rfl rfl) ?_
          cases h
          exact ⟨_, _, rfl, rfl⟩
      · subst hz
        obtain ⟨e, fr1, H1⟩ := res
        cases e with
        | normal => exact absurd rfl hn
        | ret => cases h; exact hr
        | exit i => exact hr.elim
        | panic v => cases h; exact hr
theorem parse_parser_path_b_ok (n : Nat) {Φ : parse_parser_typ_F} (hΦ : Φ.Ok) {inExpr1 : Bool} {tokens2 : List Tok} {at3 : Int} {size4 : Int} {r : Rs (Typ × Int) (Int × Int)} (h : parse_parser_path_b n Φ inExpr1 tokens2 at3 size4 = some r) :
    E env (.call 146 [.ptr 0 0, .bool inExpr1]) [(0, .row [.slice .sealed (List.length tokens2) (clTok tokens2), .int .i64 at3, .int .i64 size4])] = some (parse_parser_path_enc inExpr1 tokens2 at3 size4 r) := by
  unfold parse_parser_path_b at h
  refine call_out rfl Tryz.func146 rfl rfl ?_
  refine ev_seq ?_
  refine ev_region ?_
  refine os_eff rfl rfl rfl ?_
  refine os_nil ?_
  refine ev_seq ?_
  refine ev_region ?_
  refine os_pure rfl rfl rfl ?_
  rcases bindP_inv h with ⟨r5, g1, h⟩ | ⟨at28, g33, h⟩
  · refine os_call rfl rfl rfl (callVia_eq rfl rfl (parse_parser_capital_ok g1) rfl rfl rfl) ?_
    refine os_pure rfl rfl rfl ?_
    refine os_nil ?_
    refine ev_seq ?_
    refine ev_region ?_
    refine os_pure rfl rfl rfl ?_
    refine os_nil ?_
    obtain ⟨y2, g3, h⟩ := bindL_inv h
    refine ev_segL (KR := fun r => OutK env 146 1 Tryz.f146.results.toList (parse_parser_path_enc inExpr1 tokens2 at3 size4 r)) y2 (fun z32 => [(0, .ptr 0 0), (1, .bool inExpr1), (4, .ptr 1 0), (5, .str r5), (6, .slice (.tag 2) (List.length z32.1) (clTyp z32.1))]) (fun z32 => [(0, .row [.slice .sealed (List.length tokens2) (clTok tokens2), .int .i64 z32.2, .int .i64 size4]), (1, .row [.int .i64 0, .str [], .int .i64 0, .slice (.tag 3) (List.length ([] : List Typ)) (clTyp ([] : List Typ))]), (2, .tip (tpe 4 (List.length z32.1)) (List.length z32.1)), (3, .tip 0 0)]) rfl ?_ (fun z32 hx => ?_) (fun r res hz hr hn => ?_)
    · replace h := g3
      clear g3
      refine ev_seq ?_
      refine ev_region ?_
      refine os_pure rfl rfl rfl ?_
      obtain ⟨⟨r6, at7⟩, g4, h⟩ := bnd_inv h
      refine os_call rfl rfl rfl (callVia_eq rfl rfl (parse_parser_take_ok g4) rfl rfl rfl) ?_
      refine os_nil ?_
      refine ev_if rfl (fun g5 => ?_) (fun g5 => ?_)
      · replace h := cond_t h g5
        refine ev_seq ?_
        refine ev_region ?_
        refine os_pure rfl rfl rfl ?_
        refine os_pure rfl rfl rfl ?_
        rcases bindP_inv h with ⟨⟨r8, at9⟩, g6, h⟩ | ⟨⟨at21, at22⟩, g18, h⟩
        · obtain ⟨r8_0, r8_1, r8_2, r8_3⟩ := r8
          refine os_call rfl rfl rfl (callVia_eq rfl rfl (hΦ.parse_parser_typ g6) rfl rfl rfl) ?_
          refine os_pure rfl rfl rfl ?_
          obtain ⟨l10, g7, h⟩ := bnd_inv h
          refine os_appN encTyp g7 rfl rfl rfl rfl (.inl rfl) rfl rfl rfl rfl rfl rfl rfl rfl rfl rfl (gd_t (eqN_ok rfl) rfl) rfl rfl rfl ?_
          refine os_pure rfl rfl rfl ?_
          refine os_nil ?_
          obtain ⟨y8, g9, h⟩ := bindQ_inv h
          refine ev_segL (KR := fun r => OutK env 146 1 Tryz.f146.results.toList (parse_parser_path_enc inExpr1 tokens2 at3 size4 r)) y8 (fun z17 => [(0, .ptr 0 0), (1, .bool inExpr1), (4, .ptr 1 0), (5, .str r5), (6, .slice (.tag 2) (List.length z17.1) (clTyp z17.1))]) (fun z17 => [(0, .row [.slice .sealed (List.length tokens2) (clTok tokens2), .int .i64 z17.2, .int .i64 size4]), (1, .row [.int .i64 0, .str [], .int .i64 0, .slice (.tag 3) (List.length ([] : List Typ)) (clTyp ([] : List Typ))]), (2, .tip (tpe 4 (List.length z17.1)) (List.length z17.1)), (3, .tip 0 0)]) rfl ?_ (fun z17 hx => ?_) (fun r res hz hr hn => ?_)
          · replace h := g9
            clear g9
            refine ev_block ?_
            refine ev_loop rfl ?_
            revert y8
            refine lp_fuel (fun m (x : List Typ × Int) => parse_parser_path_l5 n Φ size4 tokens2 m x.1 x.2) (fun x => [(0, .ptr 0 0), (1, .bool inExpr1), (4, .ptr 1 0), (5, .str r5), (6, .slice (.tag 2) (List.length x.1) (clTyp x.1))]) (fun x => [(0, .row [.slice .sealed (List.length tokens2) (clTok tokens2), .int .i64 x.2, .int .i64 size4]), (1, .row [.int .i64 0, .str [], .int .i64 0, .slice (.tag 3) (List.length ([] : List Typ)) (clTyp ([] : List Typ))]), (2, .tip (tpe 4 (List.length x.1)) (List.length x.1)), (3, .tip 0 0)]) _ (fun _ => rfl) (fun m5 x y ih h => ?_) n (l10, at9)
            obtain ⟨args501, at502⟩ := x
            show Ev _ _ _ _ _ [(0, .ptr 0 0), (1, .bool inExpr1), (4, .ptr 1 0), (5, .str r5), (6, .slice (.tag 2) (List.length args501) (clTyp args501))] [(0, .row [.slice .sealed (List.length tokens2) (clTok tokens2), .int .i64 at502, .int .i64 size4]), (1, .row [.int .i64 0, .str [], .int .i64 0, .slice (.tag 3) (List.length ([] : List Typ)) (clTyp ([] : List Typ))]), (2, .tip (tpe 4 (List.length args501)) (List.length args501)), (3, .tip 0 0)] _
            replace h : parse_parser_path_l5 n Φ size4 tokens2 (m5 + 1) args501 at502 = some y := h
            rw [parse_parser_path_l5] at h
            refine ev_seq ?_
            refine ev_seq ?_
            refine ev_region ?_
            refine os_pure rfl rfl rfl ?_
            obtain ⟨⟨r11, at12⟩, g10, h⟩ := bnd_inv h
            refine os_call rfl rfl rfl (callVia_eq rfl rfl (parse_parser_take_ok g10) rfl rfl rfl) ?_
            refine os_nil ?_
            refine ev_if rfl (fun g11 => ?_) (fun g11 => ?_)
            · replace h := cond_t h g11
              refine ev_skip ?_
              refine ev_block ?_
              refine ev_region ?_
              refine os_pure rfl rfl rfl ?_
              refine os_pure rfl rfl rfl ?_
              rcases bindP_inv h with ⟨⟨r13, at14⟩, g12, h⟩ | ⟨⟨at16, at17⟩, g14, h⟩
              · obtain ⟨r13_0, r13_1, r13_2, r13_3⟩ := r13
                refine os_call rfl rfl rfl (callVia_eq rfl rfl (hΦ.parse_parser_typ g12) rfl rfl rfl) ?_
                refine os_pure rfl rfl rfl ?_
                obtain ⟨l15, g13, h⟩ := bnd_inv h
                refine os_app encTyp g13 rfl rfl rfl rfl rfl rfl rfl rfl rfl rfl rfl rfl rfl rfl (gd_t (eqN_ok rfl) rfl) rfl rfl rfl ?_
                refine os_pure rfl rfl rfl ?_
                refine os_nil ?_
                exact ⟨_, _, rfl, ih (_, _) _ h⟩
              · refine os_callP rfl rfl rfl (callVia_eqP rfl rfl (hΦ.parse_parser_typ g14) rfl rfl rfl) ?_
                cases h
                exact ⟨_, rfl, _, _, rfl, rfl⟩
            · replace h := cond_f h g11
              refine ev_exit ?_
              cases h
              exact ⟨_, rfl, rfl⟩
          · subst hx
            obtain ⟨args510, at511⟩ := z17
            show Ev _ _ _ _ _ [(0, .ptr 0 0), (1, .bool inExpr1), (4, .ptr 1 0), (5, .str r5), (6, .slice (.tag 2) (List.length args510) (clTyp args510))] [(0, .row [.slice .sealed (List.length tokens2) (clTok tokens2), .int .i64 at511, .int .i64 size4]), (1, .row [.int .i64 0, .str [], .int .i64 0, .slice (.tag 3) (List.length ([] : List Typ)) (clTyp ([] : List Typ))]), (2, .tip (tpe 4 (List.length args510)) (List.length args510)), (3, .tip 0 0)] _
            refine ev_region ?_
            refine os_pure rfl rfl rfl ?_
            rcases bindP_inv h with ⟨at18, g15, h⟩ | ⟨⟨at19, at20⟩, g16, h⟩
            · refine os_call rfl rfl rfl (callVia_eq rfl rfl (parse_parser_want_ok g15) rfl rfl rfl) ?_
              refine os_nil ?_
              cases h
              exact ⟨_, rfl, rfl⟩
            · refine os_callP rfl rfl rfl (callVia_eqP rfl rfl (parse_parser_want_ok g16) rfl rfl rfl) ?_
              cases h
              exact ⟨_, rfl, _, _, rfl, rfl⟩
          · subst hz
            obtain ⟨e, fr1, H1⟩ := res
            cases e with
            | normal => exact absurd rfl hn
            | ret => cases h; exact ⟨_, rfl, hr⟩
            | exit i => exact hr.elim
            | panic v => cases h; exact ⟨_, rfl, hr⟩
        · refine os_callP rfl rfl rfl (callVia_eqP rfl rfl (hΦ.parse_parser_typ g18) rfl rfl rfl) ?_
          cases h
          exact ⟨_, rfl, _, _, rfl, rfl⟩
      · replace h := cond_f h g5
        refine ev_skip ?_
        cases h
        exact ⟨_, rfl, rfl⟩
    · subst hx
      obtain ⟨args504, at505⟩ := z32
      show Ev _ _ _ _ _ [(0, .ptr 0 0), (1, .bool inExpr1), (4, .ptr 1 0), (5, .str r5), (6, .slice (.tag 2) (List.length args504) (clTyp args504))] [(0, .row [.slice .sealed (List.length tokens2) (clTok tokens2), .int .i64 at505, .int .i64 size4]), (1, .row [.int .i64 0, .str [], .int .i64 0, .slice (.tag 3) (List.length ([] : List Typ)) (clTyp ([] : List Typ))]), (2, .tip (tpe 4 (List.length args504)) (List.length args504)), (3, .tip 0 0)] _
      refine ev_seq ?_
      refine ev_region ?_
      refine os_pure rfl rfl rfl ?_
      refine os_pure rfl rfl rfl ?_
      obtain ⟨r23, g19, h⟩ := bnd_inv h
      obtain ⟨r23_0, r23_1, r23_2, r23_3⟩ := r23
      refine os_quiet rfl rfl rfl rfl rfl (parse_named_ok g19) rfl ?_
      refine os_eff rfl rfl rfl ?_
      refine os_eff rfl rfl rfl ?_
      refine os_nil ?_
      obtain ⟨y20, g21, h⟩ := bindL_inv h
      refine ev_segL (KR := fun r => OutK env 146 1 Tryz.f146.results.toList (parse_parser_path_enc inExpr1 tokens2 at3 size4 r)) y20 (fun z31 => [(4, .ptr 1 0), (7, .ptr 2 0)]) (fun z31 => [(0, .row [.slice .sealed (List.length tokens2) (clTok tokens2), .int .i64 z31.1, .int .i64 size4]), (1, .row [.int .i64 0, .str [], .int .i64 0, .slice (.tag 3) (List.length ([] : List Typ)) (clTyp ([] : List Typ))]), (2, .row [.int .i64 z31.2.kind, .str z31.2.name, .int .i64 z31.2.n, .slice .sealed (List.length z31.2.args) (clTyp z31.2.args)]), (3, .tip 0 0)]) rfl ?_ (fun z31 hx => ?_) (fun r res hz hr hn => ?_)
      · replace h := g21
        clear g21
        refine ev_block ?_
        refine ev_loop rfl ?_
        revert y20
        refine lp_fuel (fun m (x : Int × Typ) => parse_parser_path_l9 n Φ inExpr1 size4 tokens2 m x.1 x.2) (fun x => [(0, .ptr 0 0), (1, .bool inExpr1), (4, .ptr 1 0), (7, .ptr 2 0)]) (fun x => [(0, .row [.slice .sealed (List.length tokens2) (clTok tokens2), .int .i64 x.1, .int .i64 size4]), (1, .row [.int .i64 0, .str [], .int .i64 0, .slice (.tag 3) (List.length ([] : List Typ)) (clTyp ([] : List Typ))]), (2, .row [.int .i64 x.2.kind, .str x.2.name, .int .i64 x.2.n, .slice .sealed (List.length x.2.args) (clTyp x.2.args)]), (3, .tip 0 0)]) _ (fun _ => rfl) (fun m9 x y ih h => ?_) n (at505, (Typ.mk r23_0 r23_1 r23_2 r23_3))
        obtain ⟨at532, n533⟩ := x
        obtain ⟨n533_0, n533_1, n533_2, n533_3⟩ := n533
        show Ev _ _ _ _ _ [(0, .ptr 0 0), (1, .bool inExpr1), (4, .ptr 1 0), (7, .ptr 2 0)] [(0, .row [.slice .sealed (List.length tokens2) (clTok tokens2), .int .i64 at532, .int .i64 size4]), (1, .row [.int .i64 0, .str [], .int .i64 0, .slice (.tag 3) (List.length ([] : List Typ)) (clTyp ([] : List Typ))]), (2, .row [.int .i64 n533_0, .str n533_1, .int .i64 n533_2, .slice .sealed (List.length n533_3) (clTyp n533_3)]), (3, .tip 0 0)] _
        replace h : parse_parser_path_l9 n Φ inExpr1 size4 tokens2 (m9 + 1) at532 (Typ.mk n533_0 n533_1 n533_2 n533_3) = some y := h
        rw [parse_parser_path_l9] at h
        refine ev_seq ?_
        obtain ⟨y22, g23, h⟩ := bnd_inv h
        refine ev_seg [(0, .ptr 0 0), (1, .bool inExpr1), (4, .ptr 1 0), (7, .ptr 2 0), (38, .bool y22)] [(0, .row [.slice .sealed (List.length tokens2) (clTok tokens2), .int .i64 at532, .int .i64 size4]), (1, .row [.int .i64 0, .str [], .int .i64 0, .slice (.tag 3) (List.length ([] : List Typ)) (clTyp ([] : List Typ))]), (2, .row [.int .i64 n533_0, .str n533_1, .int .i64 n533_2, .slice .sealed (List.length n533_3) (clTyp n533_3)]), (3, .tip 0 0)] rfl ?_ ?_
        · replace h := g23
          clear g23
          refine ev_region ?_
          refine os_pure rfl rfl rfl ?_
          obtain ⟨r24, g24, h⟩ := bnd_inv h
          refine os_call rfl rfl rfl (callVia_eq rfl rfl (parse_parser_is_ok g24) rfl rfl rfl) ?_
          refine os_pure rfl rfl rfl ?_
          refine os_guard rfl rfl rfl (fun g25 => ?_) (fun g25 => ?_)
          · replace h := cond_t h g25
            refine os_pure rfl rfl rfl ?_
            refine os_pure rfl rfl rfl ?_
            refine os_guard rfl rfl rfl (fun g26 => ?_) (fun g26 => ?_)
            · replace h := cond_t h g26
              refine os_pure rfl rfl rfl ?_
              obtain ⟨r25, g27, h⟩ := bnd_inv h
              refine os_call rfl rfl rfl (callVia_eq rfl rfl (parse_parser_is_ok g27) rfl rfl rfl) ?_
              refine os_pure rfl rfl rfl ?_
              refine os_pure rfl rfl rfl ?_
              refine os_pure rfl rfl rfl ?_
              refine os_nil ?_
              cases h
              exact rfl
            · replace h := cond_f h g26
              refine os_skip rfl ?_
              refine os_skip rfl ?_
              refine os_pure rfl rfl rfl ?_
              refine os_pure rfl rfl rfl ?_
              refine os_pure rfl rfl rfl ?_
              refine os_nil ?_
              cases h
              exact rfl
          · replace h := cond_f h g25
            refine os_skip rfl ?_
            refine os_skip rfl ?_
            refine os_skip rfl ?_
            refine os_skip rfl ?_
            refine os_skip rfl ?_
            refine os_skip rfl ?_
            refine os_pure rfl rfl rfl ?_
            refine os_nil ?_
            cases h
            exact rfl
        · obtain ⟨x546, rfl⟩ : ∃ q, q = y22 := ⟨_, rfl⟩
          show Ev _ _ _ _ _ [(0, .ptr 0 0), (1, .bool inExpr1), (4, .ptr 1 0), (7, .ptr 2 0), (38, .bool x546)] [(0, .row [.slice .sealed (List.length tokens2) (clTok tokens2), .int .i64 at532, .int .i64 size4]), (1, .row [.int .i64 0, .str [], .int .i64 0, .slice (.tag 3) (List.length ([] : List Typ)) (clTyp ([] : List Typ))]), (2, .row [.int .i64 n533_0, .str n533_1, .int .i64 n533_2, .slice .sealed (List.length n533_3) (clTyp n533_3)]), (3, .tip 0 0)] _
          refine ev_if rfl (fun g28 => ?_) (fun g28 => ?_)
          · replace h := cond_t h g28
            refine ev_skip ?_
            refine ev_block ?_
            refine ev_seq ?_
            refine ev_region ?_
            refine os_pure rfl rfl rfl ?_
            refine os_pure rfl rfl rfl ?_
            refine os_pure rfl rfl rfl ?_
            refine os_eff rfl rfl rfl ?_
            refine os_pure rfl rfl rfl ?_
            refine os_pure rfl rfl rfl ?_
            refine os_pure rfl rfl rfl ?_
            refine os_eff rfl rfl rfl ?_
            refine os_nil ?_
            refine ev_regionS [2] rfl ?_
            refine osP_cons rfl ?_
            refine os_pure rfl rfl rfl ?_
            refine os_nil ?_
            refine osP_cons rfl ?_
            refine os_eff rfl rfl rfl ?_
            refine os_nil ?_
            refine osP_cons rfl ?_
            refine os_pure rfl rfl rfl ?_
            refine os_nil ?_
            refine osP_cons rfl ?_
            rcases bindP_inv h with ⟨r26, g29, h⟩ | ⟨at27, g30, h⟩
            · refine os_call rfl rfl rfl (callVia_eq rfl rfl (parse_parser_capital_ok g29) rfl rfl rfl) ?_
              refine os_nil ?_
              refine osP_cons rfl ?_
              refine os_pureD rfl rfl rfl ?_
              refine os_nil ?_
              refine osP_cons rfl ?_
              refine os_eff rfl rfl rfl ?_
              refine os_nil ?_
              refine osP_nil ?_
              refine ⟨rfl, ?_⟩
              exact ⟨_, _, rfl, ih (_, _) _ h⟩
            · refine os_callP rfl rfl rfl (callVia_eqP rfl rfl (parse_parser_capital_ok g30) rfl rfl rfl) ?_
              refine ⟨rfl, rfl, _, _, rfl, ?_⟩
              cases h
              exact ⟨_, rfl, _, _, rfl, rfl⟩
          · replace h := cond_f h g28
            refine ev_exit ?_
            cases h
            exact ⟨_, rfl, rfl⟩
      · subst hx
        obtain ⟨at549, n550⟩ := z31
        obtain ⟨n550_0, n550_1, n550_2, n550_3⟩ := n550
        show Ev _ _ _ _ _ [(4, .ptr 1 0), (7, .ptr 2 0)] [(0, .row [.slice .sealed (List.length tokens2) (clTok tokens2), .int .i64 at549, .int .i64 size4]), (1, .row [.int .i64 0, .str [], .int .i64 0, .slice (.tag 3) (List.length ([] : List Typ)) (clTyp ([] : List Typ))]), (2, .row [.int .i64 n550_0, .str n550_1, .int .i64 n550_2, .slice .sealed (List.length n550_3) (clTyp n550_3)]), (3, .tip 0 0)] _
        refine ev_seq ?_
        refine ev_region ?_
        refine os_eff rfl rfl rfl ?_
        refine os_eff rfl rfl rfl ?_
        refine os_nil ?_
        cases h
        exact ev_ret ⟨_, _, _, rfl, rfl, rfl⟩
      · subst hz
        obtain ⟨e, fr1, H1⟩ := res
        cases e with
        | normal => exact absurd rfl hn
        | ret => cases h; exact hr
        | exit i => exact hr.elim
        | panic v => cases h; exact hr
    · subst hz
      obtain ⟨e, fr1, H1⟩ := res
      cases e with
      | normal => exact absurd rfl hn
      | ret => cases h; exact hr
      | exit i => exact hr.elim
      | panic v => cases h; exact hr
  · refine os_callP rfl rfl rfl (callVia_eqP rfl rfl (parse_parser_capital_ok g33) rfl rfl rfl) ?_
    cases h
    exact ⟨_, _, rfl, rfl⟩
theorem parse_parser_typ_F.ok : ∀ n, (parse_parser_typ_F.fs n).Ok
  | 0 => ⟨(fun h => by cases h), (fun h => by cases h)⟩
  | n + 1 => ⟨(fun h => parse_parser_typ_b_ok n (parse_parser_typ_F.ok n) h), (fun h => parse_parser_path_b_ok n (parse_parser_typ_F.ok n) h)⟩
theorem parse_parser_typ_ok {n : Nat} {tokens1 : List Tok} {at2 : Int} {size3 : Int} {r : Rs (Typ × Int) (Int × Int)} (h : parse_parser_typ n tokens1 at2 size3 = some r) :
    E env (.call 79 [.ptr 0 0]) [(0, .row [.slice .sealed (List.length tokens1) (clTok tokens1), .int .i64 at2, .int .i64 size3])] = some (parse_parser_typ_enc tokens1 at2 size3 r) := (parse_parser_typ_F.ok n).parse_parser_typ h
theorem parse_parser_path_ok {n : Nat} {inExpr1 : Bool} {tokens2 : List Tok} {at3 : Int} {size4 : Int} {r : Rs (Typ × Int) (Int × Int)} (h : parse_parser_path n inExpr1 tokens2 at3 size4 = some r) :
    E env (.call 146 [.ptr 0 0, .bool inExpr1]) [(0, .row [.slice .sealed (List.length tokens2) (clTok tokens2), .int .i64 at3, .int .i64 size4])] = some (parse_parser_path_enc inExpr1 tokens2 at3 size4 r) := (parse_parser_typ_F.ok n).parse_parser_path h
theorem parse_Type_c1_ok {n : Nat} {tokens1 : List Tok} {at2 : Int} {size3 : Int} {kind4 : Int} {name5 : Str} {n6 : Int} {args7 : List Typ} {gone8 : List Typ} {r : Rs (Int × Typ) (Int × Int × Typ)} (h : parse_Type_c1 n tokens1 at2 size3 kind4 name5 n6 args7 gone8 = some r) :
    E env (.call 78 [.ptr 1 0, .ptr 2 0]) [(0, .row [.slice .sealed (List.length tokens1) (clTok tokens1), .int .i64 at2, .int .i64 size3]), (1, .row [.ptr 0 0]), (2, .row [.int .i64 kind4, .str name5, .int .i64 n6, .slice .sealed (List.length args7) (clTyp args7)]), (3, .tip (tpe 4 (List.length gone8)) (List.length gone8))] = some (parse_Type_c1_enc tokens1 at2 size3 kind4 name5 n6 args7 gone8 r) := by
  unfold parse_Type_c1 at h
  refine call_out rfl Tryz.func78 rfl rfl ?_
  refine ev_seq ?_
  refine ev_region ?_
  refine os_eff rfl rfl rfl ?_
  rcases bindP_inv h with ⟨⟨r9, at10⟩, g1, h⟩ | ⟨⟨at12, at13⟩, g4, h⟩
  · obtain ⟨r9_0, r9_1, r9_2, r9_3⟩ := r9
    refine os_call rfl rfl rfl (callVia_eq rfl rfl (parse_parser_typ_ok g1) rfl rfl rfl) ?_
    refine os_eff rfl rfl rfl ?_
    refine os_nil ?_
    refine ev_seq ?_
    refine ev_region ?_
    refine os_eff rfl rfl rfl ?_
    refine os_pure rfl rfl rfl ?_
    refine os_pure rfl rfl rfl ?_
    refine os_eff rfl rfl rfl ?_
    refine os_eff rfl rfl rfl ?_
    refine os_pure rfl rfl rfl ?_
    refine os_pure rfl rfl rfl ?_
    refine os_eff rfl rfl rfl ?_
    refine os_pure rfl rfl rfl ?_
    refine os_pure rfl rfl rfl ?_
    refine os_nil ?_
    refine ev_if rfl (fun g2 => ?_) (fun g2 => ?_)
    · replace h := cond_t h g2
      refine ev_region ?_
      refine os_eff rfl rfl rfl ?_
      rcases bindP_inv h with ⟨x, _, _⟩ | ⟨at11, g3, h⟩
      · exact x.elim
      · refine os_callP rfl rfl rfl (callVia_eqP rfl rfl (parse_parser_fail_ok g3) rfl rfl rfl) ?_
        cases h
        exact ⟨_, _, rfl, rfl⟩
    · replace h := cond_f h g2
      refine ev_skip ?_
      cases h
      exact ⟨_, _, _, rfl, rfl, rfl⟩
  · refine os_callP rfl rfl rfl (callVia_eqP rfl rfl (parse_parser_typ_ok g4) rfl rfl rfl) ?_
    cases h
    exact ⟨_, _, rfl, rfl⟩
theorem parse_parser_guarded_ok {n : Nat} {tokens1 : List Tok} {at2 : Int} {size3 : Int} {kind4 : Int} {name5 : Str} {n6 : Int} {args7 : List Typ} {r : Flt × Int × Typ} (h : parse_parser_guarded n tokens1 at2 size3 kind4 name5 n6 args7 = some r) :
    E env (.call 41 [.ptr 0 0, .func (.func 78) [] [.ptr 1 0, .ptr 2 0]]) [(0, .row [.slice .sealed (List.length tokens1) (clTok tokens1), .int .i64 at2, .int .i64 size3]), (1, .row [.ptr 0 0]), (2, .row [.int .i64 kind4, .str name5, .int .i64 n6, .slice (.tag 3) (List.length args7) (clTyp args7)]), (3, .tip (tpe 4 (List.length args7)) (List.length args7))] = some (parse_parser_guarded_enc tokens1 at2 size3 kind4 name5 n6 args7 r) := by
  unfold parse_parser_guarded at h
  rcases bindP_inv h with ⟨⟨at8, n9⟩, g1, h⟩ | ⟨⟨at10, at11, n12⟩, g2, h⟩
  · obtain ⟨n9_0, n9_1, n9_2, n9_3⟩ := n9
    cases h
    exact E_via rfl rfl (parse_Type_c1_ok g1) rfl
  · obtain ⟨n12_0, n12_1, n12_2, n12_3⟩ := n12
    cases h
    exact E_via rfl rfl (parse_Type_c1_ok g2) rfl
structure parse_typeSize_F.Ok (Φ : parse_typeSize_F) : Prop where
  parse_typeSize : ∀ {t1 : Typ} {r : Int}, Φ.parse_typeSize t1 = some r → E env (.call 80 [.agg [.int .i64 t1.kind, .str t1.name, .int .i64 t1.n, .slice .sealed (List.length t1.args) (clTyp t1.args)]]) [] = some (parse_typeSize_enc t1 r)
theorem parse_typeSize_b_ok (n : Nat) {Φ : parse_typeSize_F} (hΦ : Φ.Ok) {t1 : Typ} {r : Int} (h : parse_typeSize_b n Φ t1 = some r) :
    E env (.call 80 [.agg [.int .i64 t1.kind, .str t1.name, .int .i64 t1.n, .slice .sealed (List.length t1.args) (clTyp t1.args)]]) [] = some (parse_typeSize_enc t1 r) := by
  unfold parse_typeSize_b at h
  obtain ⟨t1_0, t1_1, t1_2, t1_3⟩ := t1
  refine call_out rfl Tryz.func80 rfl rfl ?_
  refine ev_seq ?_
  refine ev_region ?_
  refine os_eff rfl rfl rfl ?_
  refine os_pure rfl rfl rfl ?_
  refine os_nil ?_
  refine ev_seq ?_
  refine ev_region ?_
  refine os_pure rfl rfl rfl ?_
  refine os_nil ?_
  obtain ⟨y1, g2, h⟩ := bnd_inv h
  refine ev_seg [(3, .int .i64 y1)] [] rfl ?_ ?_
  · replace h := g2
    clear g2
    refine ev_seq ?_
    refine ev_region ?_
    refine os_pure rfl rfl rfl ?_
    refine os_eff rfl rfl rfl ?_
    refine os_pure rfl rfl rfl ?_
    refine os_pure rfl rfl rfl ?_
    refine os_nil ?_
    refine ev_block ?_
    refine ev_loop rfl ?_
    revert y1
    refine lp_fuel (fun m (x : Int × Int) => parse_typeSize_l3 n Φ (Typ.mk t1_0 t1_1 t1_2 t1_3) m x.1 x.2) (fun x => [(3, .int .i64 x.1), (7, .slice .sealed (List.length t1_3) (clTyp t1_3)), (8, .int .i64 (List.length t1_3 : Int)), (9, .int .i64 x.2)]) (fun x => []) _ (fun _ => rfl) (fun m3 x y ih h => ?_) n (1, 0)
    obtain ⟨n501, x502⟩ := x
    show Ev _ _ _ _ _ [(3, .int .i64 n501), (7, .slice .sealed (List.length t1_3) (clTyp t1_3)), (8, .int .i64 (List.length t1_3 : Int)), (9, .int .i64 x502)] [] _
    replace h : parse_typeSize_l3 n Φ (Typ.mk t1_0 t1_1 t1_2 t1_3) (m3 + 1) n501 x502 = some y := h
    rw [parse_typeSize_l3] at h
    refine ev_seq ?_
    refine ev_region ?_
    refine os_pure rfl rfl rfl ?_
    refine os_nil ?_
    refine ev_seq ?_
    refine ev_if rfl (fun g3 => ?_) (fun g3 => ?_)
    · replace h := cond_t h g3
      refine ev_skip ?_
      refine ev_seq ?_
      refine ev_block ?_
      refine ev_seq ?_
      refine ev_region ?_
      obtain ⟨x2, g4, h⟩ := bnd_inv h
      obtain ⟨x2_0, x2_1, x2_2, x2_3⟩ := x2
      refine os_idx encTyp g4 rfl rfl rfl rfl rfl rfl rfl rfl ?_
      refine os_loadA (c := [.int .i64 x2_0, .str x2_1, .int .i64 x2_2, .slice .sealed (List.length x2_3) (clTyp x2_3)]) rfl rfl rfl rfl rfl rfl rfl ?_
      refine os_eff rfl rfl rfl ?_
      refine os_eff rfl rfl rfl ?_
      refine os_nil ?_
      refine ev_region ?_
      refine os_pure rfl rfl rfl ?_
      refine os_eff rfl rfl rfl ?_
      obtain ⟨r3, g5, h⟩ := bnd_inv h
      refine os_quiet rfl rfl rfl rfl rfl (hΦ.parse_typeSize g5) rfl ?_
      refine os_pure rfl rfl rfl ?_
      refine os_pure rfl rfl rfl ?_
      refine os_nil ?_
      refine ev_region ?_
      refine os_pure rfl rfl rfl ?_
      refine os_pure rfl rfl rfl ?_
      refine os_nil ?_
      exact ⟨_, _, rfl, ih (_, _) _ h⟩
    · replace h := cond_f h g3
      refine ev_exit ?_
      cases h
      exact rfl
  · obtain ⟨n507, rfl⟩ : ∃ q, q = y1 := ⟨_, rfl⟩
    show Ev _ _ _ _ _ [(3, .int .i64 n507)] [] _
    refine ev_seq ?_
    refine ev_region ?_
    refine os_pure rfl rfl rfl ?_
    refine os_pure rfl rfl rfl ?_
    refine os_nil ?_
    cases h
    exact ev_ret ⟨_, _, _, rfl, rfl, rfl⟩
theorem parse_typeSize_F.ok : ∀ n, (parse_typeSize_F.fs n).Ok
  | 0 => ⟨(fun h => by cases h)⟩
  | n + 1 => ⟨(fun h => parse_typeSize_b_ok n (parse_typeSize_F.ok n) h)⟩
theorem parse_typeSize_ok {n : Nat} {t1 : Typ} {r : Int} (h : parse_typeSize n t1 = some r) :
    E env (.call 80 [.agg [.int .i64 t1.kind, .str t1.name, .int .i64 t1.n, .slice .sealed (List.length t1.args) (clTyp t1.args)]]) [] = some (parse_typeSize_enc t1 r) := (parse_typeSize_F.ok n).parse_typeSize h
theorem parse_Type_ok {n : Nat} {src1 : Str} {r : Typ × Flt} (h : parse_Type n src1 = some r) :
    E env (.call 37 [.str src1]) [] = some (parse_Type_enc src1 r) := by
  unfold parse_Type at h
  refine call_out rfl Tryz.func37 rfl rfl ?_
  refine ev_seq ?_
  refine ev_region ?_
  refine os_eff rfl rfl rfl ?_
  refine os_eff rfl rfl rfl ?_
  refine os_nil ?_
  refine ev_seq ?_
  refine ev_region ?_
  refine os_pure rfl rfl rfl ?_
  obtain ⟨⟨r2, tokens3⟩, g1, h⟩ := bnd_inv h
  refine os_call rfl rfl rfl (callVia_eq rfl rfl (parse_begin_ok g1) rfl rfl rfl) ?_
  refine os_pure rfl rfl rfl ?_
  refine os_pure rfl rfl rfl ?_
  refine os_pure rfl rfl rfl ?_
  refine os_eff rfl rfl rfl ?_
  refine os_eff rfl rfl rfl ?_
  refine os_eff rfl rfl rfl ?_
  refine os_eff rfl rfl rfl ?_
  refine os_nil ?_
  refine ev_seq ?_
  refine ev_seq ?_
  refine ev_region ?_
  refine os_eff rfl rfl rfl ?_
  refine os_pureD rfl rfl rfl ?_
  refine os_pure rfl rfl rfl ?_
  refine os_nil ?_
  refine ev_if rfl (fun g2 => ?_) (fun g2 => ?_)
  · replace h := cond_t h g2
    refine ev_seq ?_
    refine ev_regionS [384] rfl ?_
    refine osP_cons rfl ?_
    refine os_pureD rfl rfl rfl ?_
    refine os_nil ?_
    refine osP_cons rfl ?_
    refine os_eff rfl rfl rfl ?_
    refine os_nil ?_
    refine osP_cons rfl ?_
    refine os_eff rfl rfl rfl ?_
    refine os_nil ?_
    refine osP_cons rfl ?_
    refine os_eff rfl rfl rfl ?_
    refine os_nil ?_
    refine osP_nil ?_
    refine ⟨rfl, ?_⟩
    cases h
    exact ev_ret ⟨_, _, _, rfl, rfl, rfl⟩
  · replace h := cond_f h g2
    refine ev_skip ?_
    refine ev_seq ?_
    refine ev_region ?_
    refine os_eff rfl rfl rfl ?_
    refine os_nil ?_
    refine ev_seq ?_
    refine ev_region ?_
    refine os_eff rfl rfl rfl ?_
    refine os_pure rfl rfl rfl ?_
    obtain ⟨⟨r4, at5, n6⟩, g3, h⟩ := bnd_inv h
    obtain ⟨n6_0, n6_1, n6_2, n6_3⟩ := n6
    refine os_call rfl rfl rfl (callVia_eq rfl rfl (parse_parser_guarded_ok g3) rfl rfl rfl) ?_
    refine os_eff rfl rfl rfl ?_
    refine os_nil ?_
    refine ev_seq ?_
    refine ev_seq ?_
    refine ev_region ?_
    refine os_eff rfl rfl rfl ?_
    refine os_pureD rfl rfl rfl ?_
    refine os_pure rfl rfl rfl ?_
    refine os_nil ?_
    refine ev_if rfl (fun g4 => ?_) (fun g4 => ?_)
    · replace h := cond_t h g4
      refine ev_seq ?_
      refine ev_regionS [384] rfl ?_
      refine osP_cons rfl ?_
      refine os_pureD rfl rfl rfl ?_
      refine os_nil ?_
      refine osP_cons rfl ?_
      refine os_eff rfl rfl rfl ?_
      refine os_nil ?_
      refine osP_cons rfl ?_
      refine os_eff rfl rfl rfl ?_
      refine os_nil ?_
      refine osP_cons rfl ?_
      refine os_eff rfl rfl rfl ?_
      refine os_nil ?_
      refine osP_nil ?_
      refine ⟨rfl, ?_⟩
      cases h
      exact ev_ret ⟨_, _, _, rfl, rfl, rfl⟩
    · replace h := cond_f h g4
      refine ev_skip ?_
      refine ev_seq ?_
      refine ev_seq ?_
      refine ev_region ?_
      refine os_eff rfl rfl rfl ?_
      obtain ⟨r7, g5, h⟩ := bnd_inv h
      refine os_quiet rfl rfl rfl rfl rfl (parse_typeSize_ok g5) rfl ?_
      refine os_pure rfl rfl rfl ?_
      refine os_nil ?_
      refine ev_if rfl (fun g6 => ?_) (fun g6 => ?_)
      · replace h := cond_t h g6
        refine ev_seq ?_
        refine ev_region ?_
        refine os_pureD rfl rfl rfl ?_
        refine os_pureD rfl rfl rfl ?_
        refine os_eff rfl rfl rfl ?_
        refine os_eff rfl rfl rfl ?_
        refine os_nil ?_
        cases h
        exact ev_ret ⟨_, _, _, rfl, rfl, rfl⟩
      · replace h := cond_f h g6
        refine ev_skip ?_
        refine ev_seq ?_
        refine ev_region ?_
        refine os_eff rfl rfl rfl ?_
        refine os_pureD rfl rfl rfl ?_
        refine os_eff rfl rfl rfl ?_
        refine os_eff rfl rfl rfl ?_
        refine os_nil ?_
        cases h
        exact ev_ret ⟨_, _, _, rfl, rfl, rfl⟩
structure ref00_EqType_F.Ok (Φ : ref00_EqType_F) : Prop where
  ref00_EqType : ∀ {a1 : Typ} {b2 : Typ} {r : Bool}, Φ.ref00_EqType a1 b2 = some r → E env (.call 38 [.agg [.int .i64 a1.kind, .str a1.name, .int .i64 a1.n, .slice .sealed (List.length a1.args) (clTyp a1.args)], .agg [.int .i64 b2.kind, .str b2.name, .int .i64 b2.n, .slice .sealed (List.length b2.args) (clTyp b2.args)]]) [] = some (ref00_EqType_enc a1 b2 r)
  ref00_EqTypes : ∀ {a1 : List Typ} {b2 : List Typ} {r : Bool}, Φ.ref00_EqTypes a1 b2 = some r → E env (.call 49 [.slice .sealed (List.length a1) (clTyp a1), .slice .sealed (List.length b2) (clTyp b2)]) [] = some (ref00_EqTypes_enc a1 b2 r)
theorem ref00_EqType_b_ok (n : Nat) {Φ : ref00_EqType_F} (hΦ : Φ.Ok) {a1 : Typ} {b2 : Typ} {r : Bool} (h : ref00_EqType_b n Φ a1 b2 = some r) :
    E env (.call 38 [.agg [.int .i64 a1.kind, .str a1.name, .int .i64 a1.n, .slice .sealed (List.length a1.args) (clTyp a1.args)], .agg [.int .i64 b2.kind, .str b2.name, .int .i64 b2.n, .slice .sealed (List.length b2.args) (clTyp b2.args)]]) [] = some (ref00_EqType_enc a1 b2 r) := by
  unfold ref00_EqType_b at h
  obtain ⟨a1_0, a1_1, a1_2, a1_3⟩ := a1
  obtain ⟨b2_0, b2_1, b2_2, b2_3⟩ := b2
  refine call_out rfl Tryz.func38 rfl rfl ?_
  refine ev_seq ?_
  refine ev_region ?_
  refine os_eff rfl rfl rfl ?_
  refine os_eff rfl rfl rfl ?_
  refine os_pure rfl rfl rfl ?_
  refine os_nil ?_
  refine ev_seq ?_
  refine ev_region ?_
  refine os_pure rfl rfl rfl ?_
  refine os_eff rfl rfl rfl ?_
  refine os_pure rfl rfl rfl ?_
  refine os_eff rfl rfl rfl ?_
  refine os_pure rfl rfl rfl ?_
  refine os_pure rfl rfl rfl ?_
  refine os_guard rfl rfl rfl (fun g1 => ?_) (fun g1 => ?_)
  · replace h := cond_t h g1
    refine os_pure rfl rfl rfl ?_
    refine os_eff rfl rfl rfl ?_
    refine os_pure rfl rfl rfl ?_
    refine os_eff rfl rfl rfl ?_
    refine os_pure rfl rfl rfl ?_
    refine os_pure rfl rfl rfl ?_
    refine os_pure rfl rfl rfl ?_
    refine os_guard rfl rfl rfl (fun g2 => ?_) (fun g2 => ?_)
    · replace h := cond_t h g2
      refine os_pure rfl rfl rfl ?_
      refine os_eff rfl rfl rfl ?_
      refine os_pure rfl rfl rfl ?_
      refine os_eff rfl rfl rfl ?_
      refine os_pure rfl rfl rfl ?_
      refine os_pure rfl rfl rfl ?_
      refine os_pure rfl rfl rfl ?_
      refine os_guard rfl rfl rfl (fun g3 => ?_) (fun g3 => ?_)
      · replace h := cond_t h g3
        refine os_pure rfl rfl rfl ?_
        refine os_eff rfl rfl rfl ?_
        refine os_pure rfl rfl rfl ?_
        refine os_eff rfl rfl rfl ?_
        obtain ⟨r3, g4, h⟩ := bnd_inv h
        refine os_quiet rfl rfl rfl rfl rfl (hΦ.ref00_EqTypes g4) rfl ?_
        refine os_pure rfl rfl rfl ?_
        refine os_pure rfl rfl rfl ?_
        refine os_nil ?_
        cases h
        exact ev_ret ⟨_, _, _, rfl, rfl, rfl⟩
      · replace h := cond_f h g3
        refine os_skip rfl ?_
        refine os_skip rfl ?_
        refine os_skip rfl ?_
        refine os_skip rfl ?_
        refine os_skip rfl ?_
        refine os_pure rfl rfl rfl ?_
        refine os_pure rfl rfl rfl ?_
        refine os_nil ?_
        cases h
        exact ev_ret ⟨_, _, _, rfl, rfl, rfl⟩
    · replace h := cond_f h g2
      refine os_skip rfl ?_
      refine os_skip rfl ?_
      refine os_skip rfl ?_
      refine os_skip rfl ?_
      refine os_skip rfl ?_
      refine os_pure rfl rfl rfl ?_
      refine os_pure rfl rfl rfl ?_
      refine os_skip rfl ?_
      refine os_skip rfl ?_
      refine os_skip rfl ?_
      refine os_skip rfl ?_
      refine os_skip rfl ?_
      refine os_pure rfl rfl rfl ?_
      refine os_pure rfl rfl rfl ?_
      refine os_nil ?_
      cases h
      exact ev_ret ⟨_, _, _, rfl, rfl, rfl⟩
  · replace h := cond_f h g1
    refine os_skip rfl ?_
    refine os_skip rfl ?_
    refine os_skip rfl ?_
    refine os_skip rfl ?_
    refine os_skip rfl ?_
    refine os_pure rfl rfl rfl ?_
    refine os_pure rfl rfl rfl ?_
    refine os_skip rfl ?_
    refine os_skip rfl ?_
    refine os_skip rfl ?_
    refine os_skip rfl ?_
    refine os_skip rfl ?_
    refine os_pure rfl rfl rfl ?_
    refine os_pure rfl rfl rfl ?_
    refine os_skip rfl ?_
    refine os_skip rfl ?_
    refine os_skip rfl ?_
    refine os_skip rfl ?_
    refine os_skip rfl ?_
    refine os_pure rfl rfl rfl ?_
    refine os_pure rfl rfl rfl ?_
    refine os_nil ?_
    cases h
    exact ev_ret ⟨_, _, _, rfl, rfl, rfl⟩
theorem ref00_EqTypes_b_ok (n : Nat) {Φ : ref00_EqType_F} (hΦ : Φ.Ok) {a1 : List Typ} {b2 : List Typ} {r : Bool} (h : ref00_EqTypes_b n Φ a1 b2 = some r) :
    E env (.call 49 [.slice .sealed (List.length a1) (clTyp a1), .slice .sealed (List.length b2) (clTyp b2)]) [] = some (ref00_EqTypes_enc a1 b2 r) := by
  unfold ref00_EqTypes_b at h
  refine call_out rfl Tryz.func49 rfl rfl ?_
  refine ev_seq ?_
  refine ev_region ?_
  refine os_pure rfl rfl rfl ?_
  refine os_nil ?_
  refine ev_seq ?_
  refine ev_seq ?_
  refine ev_region ?_
  refine os_pure rfl rfl rfl ?_
  refine os_pure rfl rfl rfl ?_
  refine os_pure rfl rfl rfl ?_
  refine os_pure rfl rfl rfl ?_
  refine os_pure rfl rfl rfl ?_
  refine os_nil ?_
  refine ev_if rfl (fun g1 => ?_) (fun g1 => ?_)
  · replace h := cond_t h g1
    refine ev_seq ?_
    refine ev_region ?_
    refine os_pure rfl rfl rfl ?_
    refine os_nil ?_
    cases h
    exact ev_ret ⟨_, _, _, rfl, rfl, rfl⟩
  · replace h := cond_f h g1
    refine ev_skip ?_
    obtain ⟨y2, g3, h⟩ := bindL_inv h
    refine ev_segL (KR := fun r => OutK env 49 0 Tryz.f49.results.toList (ref00_EqTypes_enc a1 b2 r)) y2 (fun z9 => []) (fun z9 => []) rfl ?_ (fun z9 hx => ?_) (fun r res hz hr hn => ?_)
    · replace h := g3
      clear g3
      refine ev_seq ?_
      refine ev_region ?_
      refine os_pure rfl rfl rfl ?_
      refine os_nil ?_
      refine ev_block ?_
      refine ev_loop rfl ?_
      revert y2
      refine lp_fuel (fun m (x : Int) => ref00_EqTypes_l4 n Φ a1 b2 m x) (fun x => [(0, .slice .sealed (List.length a1) (clTyp a1)), (1, .slice .sealed (List.length b2) (clTyp b2)), (5, .int .i64 x)]) (fun x => []) _ (fun _ => rfl) (fun m4 x y ih h => ?_) n 0
      obtain ⟨i503, rfl⟩ : ∃ q, q = x := ⟨_, rfl⟩
      show Ev _ _ _ _ _ [(0, .slice .sealed (List.length a1) (clTyp a1)), (1, .slice .sealed (List.length b2) (clTyp b2)), (5, .int .i64 i503)] [] _
      replace h : ref00_EqTypes_l4 n Φ a1 b2 (m4 + 1) i503 = some y := h
      rw [ref00_EqTypes_l4] at h
      refine ev_seq ?_
      refine ev_seq ?_
      refine ev_region ?_
      refine os_pure rfl rfl rfl ?_
      refine os_pure rfl rfl rfl ?_
      refine os_pure rfl rfl rfl ?_
      refine os_pure rfl rfl rfl ?_
      refine os_nil ?_
      refine ev_if rfl (fun g4 => ?_) (fun g4 => ?_)
      · replace h := cond_t h g4
        refine ev_skip ?_
        refine ev_seq ?_
        refine ev_block ?_
        refine ev_seq ?_
        refine ev_region ?_
        refine os_pure rfl rfl rfl ?_
        refine os_pure rfl rfl rfl ?_
        obtain ⟨x3, g5, h⟩ := bnd_inv h
        obtain ⟨x3_0, x3_1, x3_2, x3_3⟩ := x3
        refine os_idx encTyp g5 rfl rfl rfl rfl rfl rfl rfl rfl ?_
        refine os_loadA (c := [.int .i64 x3_0, .str x3_1, .int .i64 x3_2, .slice .sealed (List.length x3_3) (clTyp x3_3)]) rfl rfl rfl rfl rfl rfl rfl ?_
        refine os_pure rfl rfl rfl ?_
        refine os_pure rfl rfl rfl ?_
        obtain ⟨x4, g6, h⟩ := bnd_inv h
        obtain ⟨x4_0, x4_1, x4_2, x4_3⟩ := x4
        refine os_idx encTyp g6 rfl rfl rfl rfl rfl rfl rfl rfl ?_
        refine os_loadA (c := [.int .i64 x4_0, .str x4_1, .int .i64 x4_2, .slice .sealed (List.length x4_3) (clTyp x4_3)]) rfl rfl rfl rfl rfl rfl rfl ?_
        obtain ⟨r5, g7, h⟩ := bnd_inv h
        refine os_quiet rfl rfl rfl rfl rfl (hΦ.ref00_EqType g7) rfl ?_
        refine os_pure rfl rfl rfl ?_
        refine os_nil ?_
        refine ev_if rfl (fun g8 => ?_) (fun g8 => ?_)
        · replace h := cond_t h g8
          refine ev_seq ?_
          refine ev_region ?_
          refine os_pure rfl rfl rfl ?_
          refine os_nil ?_
          cases h
          exact ev_ret ⟨_, rfl, _, _, _, rfl, rfl, rfl⟩
        · replace h := cond_f h g8
          refine ev_skip ?_
          refine ev_region ?_
          refine os_pure rfl rfl rfl ?_
          refine os_pure rfl rfl rfl ?_
          refine os_pure rfl rfl rfl ?_
          refine os_nil ?_
          exact ⟨_, _, rfl, ih _ _ h⟩
      · replace h := cond_f h g4
        refine ev_exit ?_
        cases h
        exact ⟨_, rfl, rfl⟩
    · subst hx
      show Ev _ _ _ _ _ [] [] _
      refine ev_seq ?_
      refine ev_region ?_
      refine os_pure rfl rfl rfl ?_
      refine os_nil ?_
      cases h
      exact ev_ret ⟨_, _, _, rfl, rfl, rfl⟩
    · subst hz
      obtain ⟨e, fr1, H1⟩ := res
      cases e with
      | normal => exact absurd rfl hn
      | ret => cases h; exact hr
      | exit i => exact hr.elim
      | panic v => cases h; exact hr
theorem ref00_EqType_F.ok : ∀ n, (ref00_EqType_F.fs n).Ok
  | 0 => ⟨(fun h => by cases h), (fun h => by cases h)⟩
  | n + 1 => ⟨(fun h => ref00_EqType_b_ok n (ref00_EqType_F.ok n) h), (fun h => ref00_EqTypes_b_ok n (ref00_EqType_F.ok n) h)⟩
theorem ref00_EqType_ok {n : Nat} {a1 : Typ} {b2 : Typ} {r : Bool} (h : ref00_EqType n a1 b2 = some r) :
    E env (.call 38 [.agg [.int .i64 a1.kind, .str a1.name, .int .i64 a1.n, .slice .sealed (List.length a1.args) (clTyp a1.args)], .agg [.int .i64 b2.kind, .str b2.name, .int .i64 b2.n, .slice .sealed (List.length b2.args) (clTyp b2.args)]]) [] = some (ref00_EqType_enc a1 b2 r) := (ref00_EqType_F.ok n).ref00_EqType h
theorem ref00_EqTypes_ok {n : Nat} {a1 : List Typ} {b2 : List Typ} {r : Bool} (h : ref00_EqTypes n a1 b2 = some r) :
    E env (.call 49 [.slice .sealed (List.length a1) (clTyp a1), .slice .sealed (List.length b2) (clTyp b2)]) [] = some (ref00_EqTypes_enc a1 b2 r) := (ref00_EqType_F.ok n).ref00_EqTypes h
theorem law02_ParseTypes_ok {n : Nat} {src1 : Str} {r : Bool} (h : law02_ParseTypes n src1 = some r) :
    E env (.call 10 [.str src1]) [] = some (law02_ParseTypes_enc src1 r) := by
  unfold law02_ParseTypes at h
  refine call_out rfl Tryz.func10 rfl rfl ?_
  refine ev_seq ?_
  refine ev_region ?_
  refine os_pure rfl rfl rfl ?_
  refine os_nil ?_
  refine ev_seq ?_
  refine ev_seq ?_
  refine ev_region ?_
  refine os_pure rfl rfl rfl ?_
  obtain ⟨_, g1, h⟩ := bnd_inv h
  refine os_quiet rfl rfl rfl rfl rfl (law02_long_ok g1) rfl ?_
  refine os_nil ?_
  refine ev_if rfl (fun g2 => ?_) (fun g2 => ?_)
  · replace h := cond_t h g2
    refine ev_seq ?_
    refine ev_region ?_
    obtain ⟨bb2, g3, h⟩ := bnd_inv h
    refine os_quiet rfl rfl rfl rfl rfl (awakeG_ok g3) rfl ?_
    refine os_pure rfl rfl rfl ?_
    refine os_nil ?_
    cases h
    exact ev_ret ⟨_, _, _, rfl, rfl, rfl⟩
  · replace h := cond_f h g2
    refine ev_skip ?_
    refine ev_seq ?_
    refine ev_region ?_
    refine os_pure rfl rfl rfl ?_
    obtain ⟨⟨r3, r4⟩, g4, h⟩ := bnd_inv h
    obtain ⟨r3_0, r3_1, r3_2, r3_3⟩ := r3
    refine os_quiet rfl rfl rfl rfl rfl (parse_Type_ok g4) rfl ?_
    refine os_pure rfl rfl rfl ?_
    refine os_pure rfl rfl rfl ?_
    refine os_pure rfl rfl rfl ?_
    refine os_eff rfl rfl rfl ?_
    refine os_eff rfl rfl rfl ?_
    refine os_eff rfl rfl rfl ?_
    refine os_eff rfl rfl rfl ?_
    refine os_nil ?_
    refine ev_seq ?_
    refine ev_region ?_
    refine os_pure rfl rfl rfl ?_
    obtain ⟨⟨r5, r6⟩, g5, h⟩ := bnd_inv h
    obtain ⟨r5_0, r5_1, r5_2, r5_3⟩ := r5
    refine os_quiet rfl rfl rfl rfl rfl (ref02_Type_ok g5) rfl ?_
    refine os_pure rfl rfl rfl ?_
    refine os_pure rfl rfl rfl ?_
    refine os_pure rfl rfl rfl ?_
    refine os_eff rfl rfl rfl ?_
    refine os_eff rfl rfl rfl ?_
    refine os_eff rfl rfl rfl ?_
    refine os_eff rfl rfl rfl ?_
    refine os_nil ?_
    refine ev_seq ?_
    refine ev_region ?_
    refine os_eff rfl rfl rfl ?_
    refine os_eff rfl rfl rfl ?_
    refine os_pure rfl rfl rfl ?_
    refine os_pure rfl rfl rfl ?_
    refine os_guard rfl rfl rfl (fun g6 => ?_) (fun g6 => ?_)
    · replace h := cond_t h g6
      refine os_eff rfl rfl rfl ?_
      refine os_eff rfl rfl rfl ?_
      obtain ⟨r7, g7, h⟩ := bnd_inv h
      refine os_quiet rfl rfl rfl rfl rfl (ref00_EqType_ok g7) rfl ?_
      refine os_pure rfl rfl rfl ?_
      refine os_pure rfl rfl rfl ?_
      refine os_guard rfl rfl rfl (fun g8 => ?_) (fun g8 => ?_)
      · replace h := cond_t h g8
        obtain ⟨bb8, g9, h⟩ := bnd_inv h
        refine os_quiet rfl rfl rfl rfl rfl (awakeG_ok g9) rfl ?_
        refine os_pure rfl rfl rfl ?_
        refine os_pure rfl rfl rfl ?_
        refine os_nil ?_
        cases h
        exact ev_ret ⟨_, _, _, rfl, rfl, rfl⟩
      · replace h := cond_f h g8
        refine os_skip rfl ?_
        refine os_pure rfl rfl rfl ?_
        refine os_pure rfl rfl rfl ?_
        refine os_nil ?_
        cases h
        exact ev_ret ⟨_, _, _, rfl, rfl, rfl⟩
    · replace h := cond_f h g6
      refine os_skip rfl ?_
      refine os_skip rfl ?_
      refine os_skip rfl ?_
      refine os_pure rfl rfl rfl ?_
      refine os_pure rfl rfl rfl ?_
      refine os_skip rfl ?_
      refine os_pure rfl rfl rfl ?_
      refine os_pure rfl rfl rfl ?_
      refine os_nil ?_
      cases h
      exact ev_ret ⟨_, _, _, rfl, rfl, rfl⟩
end Go.Proofs.YtmonfppdiehlpaaGreatDoor
/- The law ParseTypes: both parsers return the same type, or the same fault, for every source. -/
namespace Go.Proofs.YtmonfppdiehlpaaGreatDoor
set_option linter.unusedSimpArgs false
set_option linter.unusedVariables false
set_option linter.unusedSectionVars false
open Go Go.Vm
set_option linter.unusedVariables false
set_option linter.unusedSimpArgs false
set_option maxRecDepth 10000
/-- both sides give the same -/
theorem type_both (s : Str) : ∃ (t : Typ) (f : Flt), parse_Type 20000 s = some (t, f) ∧ ref02_Type 20000 s = some (t, f) ∧ t.sz ≤ 3000 := by
  have hs : scanTok s = some (tokL (Sc.tokR s), tokC (Sc.tokR s), tokA (Sc.tokR s)) := rfl
  have hlen := tokL_len s
  have hz : (⟨0, [], 0, []⟩ : Typ).sz ≤ 3000 := by rw [Typ.sz_eq]; simp [szT]
  unfold parse_Type ref02_Type parse_begin
  rw [hs]
  simp only [Option.bind_some]
  rcases tok_code s with ⟨h1, h2⟩ | ⟨h1, h2⟩
  · rw [h1, h2]
    generalize hL : tokL (Sc.tokR s) = l at hlen
    rw [eqB_t (a := (0 : Int)) rfl]
    simp only [Bool.and_self, Bool.not_true, cond_false]
    unfold parse_parser_guarded parse_Type_c1
    have S := typ_sim hlen (List.length s : Int) (-1) l.length 20000 20000 0 (by omega) (by omega) (Nat.zero_le _) (by omega)
    rcases S with ⟨t, k', a, b, g1, g2, g3⟩ | ⟨t, k', a, b, g1, g2⟩
    · have a : parse_parser_typ 20000 l 0 (List.length s : Int) = some (.ok (t, (k' : Int))) := a
      have b : ref02_reader_typ 20000 l (List.length s : Int) 0 (-1) = some (t, true, (k' : Int)) := b
      rw [a, b]
      simp only [bindP, Option.bind_some, Bool.not_true, cond_false]
      rcases Nat.lt_or_ge k' l.length with h3 | h3
      · rw [ltB_t (by omega), cond_true, cond_true, fail_ok hlen g2, offset_ok hlen g2]
        simp only [bindP, Option.bind_some]
        rw [show eqB 20 0 = false from eqB_f (by decide)]
        exact ⟨_, _, rfl, rfl, hz⟩
      · rw [ltB_f (by omega), cond_false, cond_false]
        simp only [bindP, Option.bind_some]
        rw [show eqB (0 : Int) 0 = true from eqB_t rfl]
        simp only [Bool.and_self, Bool.not_true, cond_false]
        rw [ts_ok t.sz t 20000 (Nat.le_refl _) (by omega) (by omega), Option.bind_some]
        obtain ⟨r, r1, r2, r3, r4⟩ := ty_ok t.sz t 20000 41 (by omega) (by omega) (Nat.le_refl _) (by omega) (by omega)
        rw [r1, Option.bind_some]
        by_cases h4 : 40 < t.sz
        · rw [ltB_t (by omega), ltB_t (a := 40) (b := r) (by rcases Int.lt_or_le r 41 with h5 | h5; · have := r4 h5; omega
                                                             · omega)]
          exact ⟨_, _, rfl, rfl, hz⟩
        · rw [ltB_f (by omega), ltB_f (a := 40) (b := r) (by omega)]
          exact ⟨_, _, rfl, rfl, by omega⟩
    · have a : parse_parser_typ 20000 l 0 (List.length s : Int) = some (.pan (hereT l (List.length s : Int) k', (k' : Int))) := a
      have b : ref02_reader_typ 20000 l (List.length s : Int) 0 (-1) = some (t, false, (k' : Int)) := b
      rw [a, b]
      simp only [bindP, Option.bind_some, Bool.not_false, cond_true]
      rw [offset_ok hlen g2, show eqB 20 0 = false from eqB_f (by decide)]
      exact ⟨_, _, rfl, rfl, hz⟩
  · rw [eqB_f h1]
    exact ⟨_, _, rfl, rfl, hz⟩
theorem types_true (s : Str) : law02_ParseTypes 20000 s = some true := by
  unfold law02_ParseTypes law02_long
  rw [Option.bind_some]
  cases h : ltB 8200 (List.length s : Int) with
  | true => rfl
  | false =>
    rw [cond_false]
    obtain ⟨t, f, h1, h2, h3⟩ := type_both s
    rw [h1, h2]
    simp only [Option.bind_some]
    rw [eqB_t rfl, eqB_t rfl]
    simp only [Bool.and_self, cond_true]
    rw [show ref00_EqType 20000 t t = some true from et_ok t.sz t 20000 (Nat.le_refl _) h3 (by omega)]
    rfl
theorem types_E (s : Str) : E env (.call 10 [.str s]) [] = some (.ret (.bool true) []) := law02_ParseTypes_ok (types_true s)
end Go.Proofs.YtmonfppdiehlpaaGreatDoor
