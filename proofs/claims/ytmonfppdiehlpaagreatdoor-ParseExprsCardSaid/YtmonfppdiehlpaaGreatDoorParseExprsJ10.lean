/- What the functions under ParseExprs compute, step by step, as functions in Lean: texts that were built one by one, joined. -/
import Derived.Test.YtmonfppdiehlpaaGreatDoorParseExprsJ9
set_option maxRecDepth 100000
set_option maxHeartbeats 20000000
set_option linter.unusedSimpArgs false
set_option linter.unusedVariables false
set_option linter.unusedSectionVars false
namespace Go.Proofs.YtmonfppdiehlpaaGreatDoor
open Go Go.Vm
structure C8.Ok (Φ:C8):Prop where
 U0:∀ {inExpr1:Bool} {E8:List Tok} {at3:Int} {K3:Int} {r:Rs (Typ × Int) (Int × Int)},Φ.U0 inExpr1 E8 at3 K3 = some r -> E env (.call 146 [.ptr 0 0,.bool inExpr1]) (hP q9 E8 at3 K3) = some (a07 inExpr1 E8 at3 K3 r)
 F5:∀ {j4:List Tok} {at2:Int} {l5:Int} {r:Rs (Typ × Int) (Int × Int)},Φ.F5 j4 at2 l5 = some r -> E env (.call 79 [.ptr 0 0]) (hP q9 j4 at2 l5) = some (a13 j4 at2 l5 r)
theorem a94 (n:Nat) {Φ:C8} (hΦ:Φ.Ok) {inExpr1:Bool} {E8:List Tok} {at3:Int} {K3:Int} {r:Rs (Typ × Int) (Int × Int)} (h:a0v n Φ inExpr1 E8 at3 K3 = some r) :
  E env (.call 146 [.ptr 0 0,.bool inExpr1]) (hP q9 E8 at3 K3) = some (a07 inExpr1 E8 at3 K3 r):=by
 unfold a0v at h
 refine F4 rfl Tryz.func146 rfl rfl ?_
 refine eSG (oB 1 rfl (eSG (oA 1 rfl ?_)))
 rcases w9 h with ⟨r5,g1,h⟩ | ⟨at28,g33,h⟩
 ·refine oV (a0H g1) ?_
  refine oB 1 rfl (eSG (oB 1 rfl ?_))
  obtain ⟨y2,g3,h⟩:=O4 h
  refine Q6 (KR:=fun r=>a2s env 146 1 Tryz.f146.results.toList (a07 inExpr1 E8 at3 K3 r)) y2 (fun z32=>[(0,.ptr 0 0),(1,.bool inExpr1),(4,.ptr 1 0),(5,.str r5),(6,.st 2 l6 z32.1)]) (fun z32=>[(0,.row [.sl q9 E8,.i z32.2,.i K3]),(1,.row [.i 0,.str [],.i 0,.st 3 l6 ([]:List Typ)]),(2,.tip (tpe 4 (List.length z32.1)) (List.length z32.1)),(3,.tip 0 0)]) rfl ?_ (fun z32 hx=>?_) (fun r res hz hr hn=>?_)
  ·replace h:=g3
   clear g3
   refine eSG (oA 1 rfl ?_)
   obtain ⟨⟨r6,at7⟩,g4,h⟩:=j5 h
   refine oV (F6 g4) ?_
   refine A8 ?_
   refine eI rfl h (fun h=>?_) fun h=>?_
   ·refine eSG (oA 2 rfl ?_)
    rcases w9 h with ⟨⟨r8,at9⟩,g6,h⟩ | ⟨⟨at21,at22⟩,g18,h⟩
    ·obtain ⟨r8_0,r8_1,r8_2,r8_3⟩:=r8
     refine oV (hΦ.F5 g6) ?_
     refine oA 1 rfl ?_
     obtain ⟨l10,g7,h⟩:=j5 h
     refine a6T a8w g7 rfl rfl rfl rfl (.inl rfl) rfl rfl rfl rfl rfl rfl rfl rfl rfl rfl (a5z (a08 rfl) rfl) rfl rfl rfl ?_
     refine oB 1 rfl ?_
     obtain ⟨y8,g9,h⟩:=a3W h
     refine Q6 (KR:=fun r=>a2s env 146 1 Tryz.f146.results.toList (a07 inExpr1 E8 at3 K3 r)) y8 (fun z17=>[(0,.ptr 0 0),(1,.bool inExpr1),(4,.ptr 1 0),(5,.str r5),(6,.st 2 l6 z17.1)]) (fun z17=>[(0,.row [.sl q9 E8,.i z17.2,.i K3]),(1,.row [.i 0,.str [],.i 0,.st 3 l6 ([]:List Typ)]),(2,.tip (tpe 4 (List.length z17.1)) (List.length z17.1)),(3,.tip 0 0)]) rfl ?_ (fun z17 hx=>?_) (fun r res hz hr hn=>?_)
     ·replace h:=g9
      clear g9
      refine C9 ?_
      refine P7 rfl ?_
      revert y8
      refine X8 (fun m (x:List Typ × Int)=>a1o n Φ K3 E8 m x.1 x.2) (fun x=>[(0,.ptr 0 0),(1,.bool inExpr1),(4,.ptr 1 0),(5,.str r5),(6,.st 2 l6 x.1)]) (fun x=>[(0,.row [.sl q9 E8,.i x.2,.i K3]),(1,.row [.i 0,.str [],.i 0,.st 3 l6 ([]:List Typ)]),(2,.tip (tpe 4 (List.length x.1)) (List.length x.1)),(3,.tip 0 0)]) _ (fun _=>rfl) (fun m5 x y ih h=>?_) n (l10,at9)
      obtain ⟨b7K,a2H⟩:=x
      rw [a1o] at h
      refine p8 (eSG (oA 1 rfl ?_))
      obtain ⟨⟨r11,at12⟩,g10,h⟩:=j5 h
      refine oV (F6 g10) ?_
      refine A8 ?_
      refine eI rfl h (fun h=>?_) fun h=>?_
      ·refine o8 ?_
       refine C9 ?_
       refine o6 (oA 2 rfl ?_)
       rcases w9 h with ⟨⟨r13,at14⟩,g12,h⟩ | ⟨⟨at16,at17⟩,g14,h⟩
       ·obtain ⟨r13_0,r13_1,r13_2,r13_3⟩:=r13
        refine oV (hΦ.F5 g12) ?_
        refine oA 1 rfl ?_
        obtain ⟨l15,g13,h⟩:=j5 h
        refine oP a8w g13 ?_
        refine oB 1 rfl ?_
        exact ⟨_,_,rfl,ih (_,_) _ h⟩
       ·refine oW (hΦ.F5 g14) ?_
        cases h
        exact ⟨_,rfl,_,_,rfl,rfl⟩
      ·refine M4 ?_
       cases h
       exact ⟨_,rfl,rfl⟩
     ·subst hx
      obtain ⟨c07,a5c⟩:=z17
      refine o6 (oA 1 rfl ?_)
      rcases w9 h with ⟨at18,g15,h⟩ | ⟨⟨at19,at20⟩,g16,h⟩
      ·refine oV (u7 g15) ?_
       refine A8 ?_
       cases h
       exact ⟨_,rfl,rfl⟩
      ·refine oW (u7 g16) ?_
       cases h
       exact ⟨_,rfl,_,_,rfl,rfl⟩
     ·subst hz
      rcases res with ⟨_ | _ | _ | _,_,_⟩ <;> first | exact absurd rfl hn | exact hr.elim | (cases h; exact ⟨_,rfl,hr⟩)
    ·refine oW (hΦ.F5 g18) ?_
     cases h
     exact ⟨_,rfl,_,_,rfl,rfl⟩
   ·refine o8 ?_
    cases h
    exact ⟨_,rfl,rfl⟩
  ·subst hx
   obtain ⟨c0F,b0J⟩:=z32
   refine eSG (oA 2 rfl ?_)
   obtain ⟨r23,g19,h⟩:=j5 h
   obtain ⟨r23_0,r23_1,r23_2,r23_3⟩:=r23
   refine F7 rfl rfl rfl rfl rfl (b47 g19) rfl ?_
   refine oB 2 rfl ?_
   obtain ⟨y20,g21,h⟩:=O4 h
   refine Q6 (KR:=fun r=>a2s env 146 1 Tryz.f146.results.toList (a07 inExpr1 E8 at3 K3 r)) y20 (fun z31=>[(4,.ptr 1 0),(7,.ptr 2 0)]) (fun z31=>[(0,.row [.sl q9 E8,.i z31.1,.i K3]),(1,.row [.i 0,.str [],.i 0,.st 3 l6 ([]:List Typ)]),(2,.row [.i z31.2.kind,.str z31.2.name,.i z31.2.n,.sl l6 z31.2.args]),(3,.tip 0 0)]) rfl ?_ (fun z31 hx=>?_) (fun r res hz hr hn=>?_)
   ·replace h:=g21
    clear g21
    refine C9 ?_
    refine P7 rfl ?_
    revert y20
    refine X8 (fun m (x:Int × Typ)=>O7 n Φ inExpr1 K3 E8 m x.1 x.2) (fun x=>[(0,.ptr 0 0),(1,.bool inExpr1),(4,.ptr 1 0),(7,.ptr 2 0)]) (fun x=>[(0,.row [.sl q9 E8,.i x.1,.i K3]),(1,.row [.i 0,.str [],.i 0,.st 3 l6 ([]:List Typ)]),(2,.row [.i x.2.kind,.str x.2.name,.i x.2.n,.sl l6 x.2.args]),(3,.tip 0 0)]) _ (fun _=>rfl) (fun m9 x y ih h=>?_) n (b0J,(Typ.mk r23_0 r23_1 r23_2 r23_3))
    obtain ⟨a8S,n533⟩:=x
    obtain ⟨n533_0,n533_1,n533_2,n533_3⟩:=n533
    rw [O7] at h
    refine p8 ?_
    obtain ⟨y22,g23,h⟩:=j5 h
    refine Y5 [(0,.ptr 0 0),(1,.bool inExpr1),(4,.ptr 1 0),(7,.ptr 2 0),(38,.bool y22)] [(0,.row [.sl q9 E8,.i a8S,.i K3]),(1,.row [.i 0,.str [],.i 0,.st 3 l6 ([]:List Typ)]),(2,.row [.i n533_0,.str n533_1,.i n533_2,.sl l6 n533_3]),(3,.tip 0 0)] rfl ?_ ?_
    ·replace h:=g23
     clear g23
     refine o6 (oA 1 rfl ?_)
     obtain ⟨r24,g24,h⟩:=j5 h
     refine oV (I5 g24) ?_
     refine oA 1 rfl ?_
     refine D5 rfl rfl rfl (fun g25=>?_) (fun g25=>?_)
     ·replace h:=U3 h g25
      refine oA 2 rfl ?_
      refine D5 rfl rfl rfl (fun g26=>?_) (fun g26=>?_)
      ·replace h:=U3 h g26
       refine oA 1 rfl ?_
       obtain ⟨r25,g27,h⟩:=j5 h
       refine oV (I5 g27) ?_
       refine oB 3 rfl ?_
       cases h
       exact rfl
      ·replace h:=U4 h g26
       refine oB 5 rfl ?_
       cases h
       exact rfl
     ·replace h:=U4 h g25
      refine oB 7 rfl ?_
      cases h
      exact rfl
    ·obtain ⟨x546,rfl⟩:∃ q,q = y22:=⟨_,rfl⟩
     refine eI rfl h (fun h=>?_) fun h=>?_
     ·refine o8 ?_
      refine C9 ?_
      refine eSG (oB 8 rfl ?_)
      refine O9 [2] rfl ?_
      refine oC rfl rfl (oC rfl rfl (oC rfl rfl (H8 rfl ?_)))
      rcases w9 h with ⟨r26,g29,h⟩ | ⟨at27,g30,h⟩
      ·refine oV (a0H g29) ?_
       refine A8 (H8 rfl ?_)
       refine oD ?_
       refine A8 (oC rfl rfl ?_)
       refine Y0 ?_
       refine ⟨rfl,?_⟩
       exact ⟨_,_,rfl,ih (_,_) _ h⟩
      ·refine oW (a0H g30) ?_
       refine ⟨rfl,rfl,_,_,rfl,?_⟩
       cases h
       exact ⟨_,rfl,_,_,rfl,rfl⟩
     ·refine M4 ?_
      cases h
      exact ⟨_,rfl,rfl⟩
   ·subst hx
    obtain ⟨b6J,n550⟩:=z31
    obtain ⟨n550_0,n550_1,n550_2,n550_3⟩:=n550
    refine eSG (oB 2 rfl ?_)
    cases h
    exact o5 ⟨_,_,_,rfl,rfl,rfl⟩
   ·subst hz
    rcases res with ⟨_ | _ | _ | _,_,_⟩ <;> first | exact absurd rfl hn | exact hr.elim | (cases h; exact hr)
  ·subst hz
   rcases res with ⟨_ | _ | _ | _,_,_⟩ <;> first | exact absurd rfl hn | exact hr.elim | (cases h; exact hr)
 ·refine oW (a0H g33) ?_
  cases h
  exact ⟨_,_,rfl,rfl⟩
theorem b0p (n:Nat) {Φ:C8} (hΦ:Φ.Ok) {j4:List Tok} {at2:Int} {l5:Int} {r:Rs (Typ × Int) (Int × Int)} (h:a2Q n Φ j4 at2 l5 = some r) :
  E env (.call 79 [.ptr 0 0]) (hP q9 j4 at2 l5) = some (a13 j4 at2 l5 r):=by
 unfold a2Q at h
 refine F4 rfl Tryz.func79 rfl rfl ?_
 refine eSG (oB 1 rfl (p8 (eSG (oA 1 rfl ?_))))
 obtain ⟨⟨r4,at5⟩,g1,h⟩:=j5 h
 refine oV (U1 g1) ?_
 refine A8 ?_
 refine eI rfl h (fun h=>?_) fun h=>?_
 ·refine eSG (oA 1 rfl ?_)
  rcases w9 h with ⟨r6,g3,h⟩ | ⟨at7,g4,h⟩
  ·refine oV (a0H g3) ?_
   refine oD ?_
   refine oB 1 rfl ?_
   cases h
   exact o5 ⟨_,_,_,rfl,rfl,rfl⟩
  ·refine oW (a0H g4) ?_
   cases h
   exact ⟨_,_,rfl,rfl⟩
 ·refine o8 (p8 (eSG (oA 1 rfl ?_)))
  obtain ⟨⟨r8,at9⟩,g5,h⟩:=j5 h
  refine oV (F6 g5) ?_
  refine oB 1 rfl ?_
  refine eI rfl h (fun h=>?_) fun h=>?_
  ·refine eSG (oA 1 rfl ?_)
   rcases w9 h with ⟨⟨r10,at11⟩,g7,h⟩ | ⟨⟨at12,at13⟩,g8,h⟩
   ·obtain ⟨r10_0,r10_1,r10_2,r10_3⟩:=r10
    refine oV (hΦ.U0 g7) ?_
    refine oB 1 rfl ?_
    cases h
    exact o5 ⟨_,_,_,rfl,rfl,rfl⟩
   ·refine oW (hΦ.U0 g8) ?_
    cases h
    exact ⟨_,_,rfl,rfl⟩
  ·refine o8 (eSG (oB 1 rfl ?_))
   obtain ⟨y9,g10,h⟩:=O4 h
   refine Q6 (KR:=fun r=>a2s env 79 1 Tryz.f79.results.toList (a13 j4 at2 l5 r)) y9 (fun z31=>[(0,.ptr 0 0),(2,.ptr 1 0),(3,.st 2 l6 z31.1)]) (fun z31=>[(0,.row [.sl q9 j4,.i z31.2,.i l5]),(1,.row [.i 0,.str [],.i 0,.st 3 l6 ([]:List Typ)]),(2,.tip (tpe 4 (List.length z31.1)) (List.length z31.1)),(3,.tip 0 0)]) rfl ?_ (fun z31 hx=>?_) (fun r res hz hr hn=>?_)
   ·replace h:=g10
    clear g10
    refine eSG (oA 1 rfl ?_)
    obtain ⟨⟨r14,at15⟩,g11,h⟩:=j5 h
    refine oV (F6 g11) ?_
    refine oB 1 rfl ?_
    refine eI rfl h (fun h=>?_) fun h=>?_
    ·refine eSG (oA 2 rfl ?_)
     rcases w9 h with ⟨⟨r16,at17⟩,g13,h⟩ | ⟨⟨at29,at30⟩,g25,h⟩
     ·obtain ⟨r16_0,r16_1,r16_2,r16_3⟩:=r16
      refine oV (hΦ.F5 g13) ?_
      refine oA 1 rfl ?_
      obtain ⟨l18,g14,h⟩:=j5 h
      refine a6T a8w g14 rfl rfl rfl rfl (.inl rfl) rfl rfl rfl rfl rfl rfl rfl rfl rfl rfl (a5z (a08 rfl) rfl) rfl rfl rfl ?_
      refine oB 1 rfl ?_
      obtain ⟨y15,g16,h⟩:=a3W h
      refine Q6 (KR:=fun r=>a2s env 79 1 Tryz.f79.results.toList (a13 j4 at2 l5 r)) y15 (fun z24=>[(0,.ptr 0 0),(2,.ptr 1 0),(3,.st 2 l6 z24.1)]) (fun z24=>[(0,.row [.sl q9 j4,.i z24.2,.i l5]),(1,.row [.i 0,.str [],.i 0,.st 3 l6 ([]:List Typ)]),(2,.tip (tpe 4 (List.length z24.1)) (List.length z24.1)),(3,.tip 0 0)]) rfl ?_ (fun z24 hx=>?_) (fun r res hz hr hn=>?_)
      ·replace h:=g16
       clear g16
       refine C9 ?_
       refine P7 rfl ?_
       revert y15
       refine X8 (fun m (x:List Typ × Int)=>V3 n Φ l5 j4 m x.1 x.2) (fun x=>[(0,.ptr 0 0),(2,.ptr 1 0),(3,.st 2 l6 x.1)]) (fun x=>[(0,.row [.sl q9 j4,.i x.2,.i l5]),(1,.row [.i 0,.str [],.i 0,.st 3 l6 ([]:List Typ)]),(2,.tip (tpe 4 (List.length x.1)) (List.length x.1)),(3,.tip 0 0)]) _ (fun _=>rfl) (fun m8 x y ih h=>?_) n (l18,at17)
       obtain ⟨b78,a5k⟩:=x
       rw [V3] at h
       refine p8 (eSG (oA 1 rfl ?_))
       obtain ⟨⟨r19,at20⟩,g17,h⟩:=j5 h
       refine oV (F6 g17) ?_
       refine A8 ?_
       refine eI rfl h (fun h=>?_) fun h=>?_
       ·refine o8 ?_
        refine C9 ?_
        refine o6 (oA 2 rfl ?_)
        rcases w9 h with ⟨⟨r21,at22⟩,g19,h⟩ | ⟨⟨at24,at25⟩,g21,h⟩
        ·obtain ⟨r21_0,r21_1,r21_2,r21_3⟩:=r21
         refine oV (hΦ.F5 g19) ?_
         refine oA 1 rfl ?_
         obtain ⟨l23,g20,h⟩:=j5 h
         refine oP a8w g20 ?_
         refine oB 1 rfl ?_
         exact ⟨_,_,rfl,ih (_,_) _ h⟩
        ·refine oW (hΦ.F5 g21) ?_
         cases h
         exact ⟨_,rfl,_,_,rfl,rfl⟩
       ·refine M4 ?_
        cases h
        exact ⟨_,rfl,rfl⟩
      ·subst hx
       obtain ⟨c06,a3S⟩:=z24
       refine o6 (oA 1 rfl ?_)
       rcases w9 h with ⟨at26,g22,h⟩ | ⟨⟨at27,at28⟩,g23,h⟩
       ·refine oV (u7 g22) ?_
        refine A8 ?_
        cases h
        exact ⟨_,rfl,rfl⟩
       ·refine oW (u7 g23) ?_
        cases h
        exact ⟨_,rfl,_,_,rfl,rfl⟩
      ·subst hz
       rcases res with ⟨_ | _ | _ | _,_,_⟩ <;> first | exact absurd rfl hn | exact hr.elim | (cases h; exact ⟨_,rfl,hr⟩)
     ·refine oW (hΦ.F5 g25) ?_
      cases h
      exact ⟨_,rfl,_,_,rfl,rfl⟩
    ·refine o8 ?_
     cases h
     exact ⟨_,rfl,rfl⟩
   ·subst hx
    obtain ⟨c0G,b49⟩:=z31
    refine eSG (oA 1 rfl ?_)
    rcases w9 h with ⟨at31,g26,h⟩ | ⟨⟨at37,at38⟩,g30,h⟩
    ·refine oV (u7 g26) ?_
     refine A8 (eSG (oA 2 rfl ?_))
     rcases w9 h with ⟨⟨r32,at33⟩,g27,h⟩ | ⟨⟨at35,at36⟩,g29,h⟩
     ·obtain ⟨r32_0,r32_1,r32_2,r32_3⟩:=r32
      refine oV (hΦ.F5 g27) ?_
      refine oA 1 rfl ?_
      obtain ⟨l34,g28,h⟩:=j5 h
      refine oP a8w g28 ?_
      refine oB 1 rfl (eSG (oA 1 rfl ?_))
      refine oD ?_
      refine oB 1 rfl ?_
      cases h
      exact o5 ⟨_,_,_,rfl,rfl,rfl⟩
     ·refine oW (hΦ.F5 g29) ?_
      cases h
      exact ⟨_,_,rfl,rfl⟩
    ·refine oW (u7 g30) ?_
     cases h
     exact ⟨_,_,rfl,rfl⟩
   ·subst hz
    rcases res with ⟨_ | _ | _ | _,_,_⟩ <;> first | exact absurd rfl hn | exact hr.elim | (cases h; exact hr)
theorem C8.ok:∀ n,(C8.fs n).Ok
 | 0=>⟨(fun h=>by cases h),(fun h=>by cases h)⟩
 | n + 1=>⟨(fun h=>a94 n (C8.ok n) h),(fun h=>b0p n (C8.ok n) h)⟩
theorem a6u {n:Nat} {inExpr1:Bool} {E8:List Tok} {at3:Int} {K3:Int} {r:Rs (Typ × Int) (Int × Int)} (h:U0 n inExpr1 E8 at3 K3 = some r) :
  E env (.call 146 [.ptr 0 0,.bool inExpr1]) (hP q9 E8 at3 K3) = some (a07 inExpr1 E8 at3 K3 r):=(C8.ok n).U0 h
theorem a1I {n:Nat} {j4:List Tok} {at2:Int} {l5:Int} {r:Rs (Typ × Int) (Int × Int)} (h:F5 n j4 at2 l5 = some r) :
  E env (.call 79 [.ptr 0 0]) (hP q9 j4 at2 l5) = some (a13 j4 at2 l5 r):=(C8.ok n).F5 h
theorem H6 {op1:Int} {E8:List Tok} {at3:Int} {K3:Int} {r:Int} (h:G8 op1 E8 at3 K3 = some r) :
  E env (.call 87 [.ptr 0 0,.i op1]) (hP q9 E8 at3 K3) = some (b0q op1 E8 at3 K3 r):=by
 unfold G8 at h
 refine F4 rfl Tryz.func87 rfl rfl ?_
 refine eSG (oB 1 rfl (eSG (oA 2 rfl ?_)))
 obtain ⟨r5,g1,h⟩:=j5 h
 refine a7b rfl rfl rfl (b2V rfl rfl rfl (a6q g1) rfl rfl rfl) ?_
 refine oD ?_
 refine oB 1 rfl ?_
 cases h
 exact o5 ⟨_,_,_,rfl,rfl,rfl⟩
theorem a5R {n:Nat} {j4:List Tok} {at2:Int} {l5:Int} {r:Rs (Nod × Int) (Int × Int)} (h:a1h n j4 at2 l5 = some r) :
  E env (.call 248 [.ptr 0 0]) (hP q9 j4 at2 l5) = some (a5p j4 at2 l5 r):=by
 unfold a1h at h
 refine F4 rfl Tryz.func248 rfl rfl ?_
 refine eSG (oB 1 rfl (eSG (oA 1 rfl ?_)))
 obtain ⟨at4,g1,h⟩:=j5 h
 refine oV (H6 g1) ?_
 refine oB 2 rfl (eSG (oA 1 rfl ?_))
 rcases w9 h with ⟨r5,g2,h⟩ | ⟨at10,g10,h⟩
 ·refine oV (H7 g2) ?_
  refine oB 2 rfl ?_
  obtain ⟨y3,g4,h⟩:=O4 h
  refine Q6 (KR:=fun r=>a2s env 248 1 Tryz.f248.results.toList (a5p j4 at2 l5 r)) y3 (fun z9=>[(2,.ptr 1 0),(3,.ptr 2 0)]) (fun z9=>[(0,.row [.sl q9 j4,.i z9.1,.i l5]),(1,.row [.i 0,.str [],.i 0,.i 0,.str [],.i 0,.st 3 l6 ([]:List Typ),.st 4 l6 ([]:List Typ),.st 5 A9 ([]:List Nod),.i 0]),(2,.row [.i z9.2.1,.str z9.2.2.1,.i 0,.i 0,.str [],.i 0,.sl l6 ([]:List Typ),.st 6 l6 ([]:List Typ),.st 7 A9 z9.2.2.2,.i at4]),(3,.tip 0 0),(4,.tip 0 0),(5,.tip 0 0),(6,.tip 0 0),(7,.tip (tpe 10 (List.length z9.2.2.2)) (List.length z9.2.2.2))]) rfl ?_ (fun z9 hx=>?_) (fun r res hz hr hn=>?_)
  ·replace h:=g4
   clear g4
   refine C9 ?_
   refine P7 rfl ?_
   revert y3
   refine X8 (fun m (x:Int × Int × Str × List Nod)=>a0z n at4 l5 j4 m x.1 x.2.1 x.2.2.1 x.2.2.2) (fun x=>[(0,.ptr 0 0),(2,.ptr 1 0),(3,.ptr 2 0)]) (fun x=>[(0,.row [.sl q9 j4,.i x.1,.i l5]),(1,.row [.i 0,.str [],.i 0,.i 0,.str [],.i 0,.st 3 l6 ([]:List Typ),.st 4 l6 ([]:List Typ),.st 5 A9 ([]:List Nod),.i 0]),(2,.row [.i x.2.1,.str x.2.2.1,.i 0,.i 0,.str [],.i 0,.sl l6 ([]:List Typ),.st 6 l6 ([]:List Typ),.st 7 A9 x.2.2.2,.i at4]),(3,.tip 0 0),(4,.tip 0 0),(5,.tip 0 0),(6,.tip 0 0),(7,.tip (tpe 10 (List.length x.2.2.2)) (List.length x.2.2.2))]) _ (fun _=>rfl) (fun m3 x y ih h=>?_) n ((w64 (at2 + 1)),54,r5,([]:List Nod))
   obtain ⟨a5i,op504,s505,b4e⟩:=x
   rw [a0z] at h
   refine p8 (eSG (oA 1 rfl ?_))
   obtain ⟨⟨r6,at7⟩,g5,h⟩:=j5 h
   refine oV (F6 g5) ?_
   refine A8 ?_
   refine eI rfl h (fun h=>?_) fun h=>?_
   ·refine o8 ?_
    refine C9 ?_
    refine eSG (oA 4 rfl ?_)
    refine oD ?_
    refine oB 2 rfl (eSG (oA 1 rfl ?_))
    rcases w9 h with ⟨r8,g7,h⟩ | ⟨at9,g8,h⟩
    ·refine oV (H7 g7) ?_
     refine oB 2 rfl (o6 (oB 2 rfl ?_))
     exact ⟨_,_,rfl,ih (_,_,_,_) _ h⟩
    ·refine oW (H7 g8) ?_
     cases h
     exact ⟨_,rfl,_,_,rfl,rfl⟩
   ·refine M4 ?_
    cases h
    exact ⟨_,rfl,rfl⟩
  ·subst hx
   obtain ⟨at520,op521,s522,l523⟩:=z9
   refine eSG (oB 2 rfl ?_)
   cases h
   exact o5 ⟨_,_,_,rfl,rfl,rfl⟩
  ·subst hz
   rcases res with ⟨_ | _ | _ | _,_,_⟩ <;> first | exact absurd rfl hn | exact hr.elim | (cases h; exact hr)
 ·refine oW (H7 g10) ?_
  cases h
  exact ⟨_,_,rfl,rfl⟩
theorem a0G {j4:List Tok} {at2:Int} {l5:Int} {r:Rs Int Int} (h:a0n j4 at2 l5 = some r) :
  E env (.call 245 [.ptr 0 0]) (hP q9 j4 at2 l5) = some (a8i j4 at2 l5 r):=by
 unfold a0n at h
 refine F4 rfl Tryz.func245 rfl rfl ?_
 refine eSG (oB 1 rfl (eSG (oA 1 rfl ?_)))
 rcases w9 h with ⟨r4,g1,h⟩ | ⟨at6,g3,h⟩
 ·refine oV (K9 g1) ?_
  refine oA 1 rfl ?_
  obtain ⟨n5,g2,h⟩:=j5 h
  refine F7 rfl rfl rfl rfl rfl (atoi_ok g2) rfl ?_
  refine oB 5 rfl (eSG (oB 2 rfl ?_))
  cases h
  exact o5 ⟨_,_,_,rfl,rfl,rfl⟩
 ·refine oW (K9 g3) ?_
  cases h
  exact ⟨_,_,rfl,rfl⟩
theorem a5w {n:Nat} {j4:List Tok} {at2:Int} {l5:Int} {r:Rs (List Nod × Int) (Int × Int)} (h:a03 n j4 at2 l5 = some r) :
  E env (.call 210 [.ptr 0 0]) (hP q9 j4 at2 l5) = some (a5a j4 at2 l5 r):=by
 unfold a03 at h
 refine F4 rfl Tryz.func210 rfl rfl ?_
 refine eSG (oB 1 rfl (eSG (oB 1 rfl (eSG (oA 1 rfl ?_)))))
 rcases w9 h with ⟨at4,g1,h⟩ | ⟨⟨at27,at28⟩,g25,h⟩
 ·refine oV (u7 g1) ?_
  refine A8 (p8 (eSG (oA 1 rfl ?_)))
  obtain ⟨⟨r5,at6⟩,g2,h⟩:=j5 h
  refine oV (F6 g2) ?_
  refine A8 ?_
  refine eI rfl h (fun h=>?_) fun h=>?_
  ·refine eSG (oB 1 rfl ?_)
   cases h
   exact o5 ⟨_,_,_,rfl,rfl,rfl⟩
  ·refine o8 ?_
   obtain ⟨y4,g5,h⟩:=O4 h
   refine Q6 (KR:=fun r=>a2s env 210 1 Tryz.f210.results.toList (a5a j4 at2 l5 r)) y4 (fun z24=>[(0,.ptr 0 0),(3,.st 1 A9 z24.1)]) (fun z24=>[(0,.row [.sl q9 j4,.i z24.2,.i l5]),(1,.tip (tpe 10 (List.length z24.1)) (List.length z24.1))]) rfl ?_ (fun z24 hx=>?_) (fun r res hz hr hn=>?_)
   ·replace h:=g5
    clear g5
    refine C9 ?_
    refine P7 rfl ?_
    revert y4
    refine X8 (fun m (x:List Nod × Int)=>a0p n l5 j4 m x.1 x.2) (fun x=>[(0,.ptr 0 0),(3,.st 1 A9 x.1)]) (fun x=>[(0,.row [.sl q9 j4,.i x.2,.i l5]),(1,.tip (tpe 10 (List.length x.1)) (List.length x.1))]) _ (fun _=>rfl) (fun m5 x y ih h=>?_) n (([]:List Nod),at6)
    obtain ⟨b4e,a5k⟩:=x
    rw [a0p] at h
    refine C9 ?_
    refine eSG (oA 1 rfl ?_)
    obtain ⟨at7,g6,h⟩:=j5 h
    refine oV (H6 g6) ?_
    refine oB 2 rfl ?_
    obtain ⟨y7,g8,h⟩:=j5 h
    refine Y5 [(0,.ptr 0 0),(3,.st 1 A9 b4e),(4,.ptr 2 0)] [(0,.row [.sl q9 j4,.i y7.1,.i l5]),(1,.tip (tpe 10 (List.length b4e)) (List.length b4e)),(2,.row [.i 10,.str [],.i y7.2,.i 0,.str [],.i 0,.sl l6 ([]:List Typ),.st 3 l6 ([]:List Typ),.st 4 A9 ([]:List Nod),.i at7]),(3,.tip 0 0),(4,.tip 0 0)] rfl ?_ ?_
    ·replace h:=g8
     clear g8
     refine eSG (oA 1 rfl ?_)
     obtain ⟨⟨r8,at9⟩,g9,h⟩:=j5 h
     refine oV (U1 g9) ?_
     refine A8 ?_
     refine eI rfl h (fun h=>?_) fun h=>?_
     ·refine o6 (oB 2 rfl ?_)
      cases h
      exact rfl
     ·refine eSG (oA 1 rfl ?_)
      obtain ⟨⟨r10,at11⟩,g11,h⟩:=j5 h
      refine oV (U1 g11) ?_
      refine A8 ?_
      refine eI rfl h (fun h=>?_) fun h=>?_
      ·refine o6 (oB 2 rfl ?_)
       cases h
       exact rfl
      ·refine o8 ?_
       cases h
       exact rfl
    ·obtain ⟨at516,n517⟩:=y7
     refine eSG (oA 1 rfl ?_)
     rcases w9 h with ⟨r12,g13,h⟩ | ⟨at23,g21,h⟩
     ·refine oV (H7 g13) ?_
      refine oB 2 rfl (eSG (oA 1 rfl ?_))
      rcases w9 h with ⟨at13,g14,h⟩ | ⟨⟨at21,at22⟩,g20,h⟩
      ·refine oV (u7 g14) ?_
       refine A8 (eSG (oA 1 rfl ?_))
       rcases w9 h with ⟨⟨r14,at15⟩,g15,h⟩ | ⟨⟨at19,at20⟩,g19,h⟩
       ·obtain ⟨r14_0,r14_1,r14_2,r14_3⟩:=r14
        refine oV (a1I g15) ?_
        refine oB 2 rfl (eSG (oA 3 rfl ?_))
        obtain ⟨l16,g16,h⟩:=j5 h
        refine oP Z7 g16 ?_
        refine oB 1 rfl (eSG (oA 1 rfl ?_))
        obtain ⟨⟨r17,at18⟩,g17,h⟩:=j5 h
        refine oV (F6 g17) ?_
        refine oB 1 rfl ?_
        refine eI rfl h (fun h=>?_) fun h=>?_
        ·refine M4 ?_
         cases h
         exact ⟨_,rfl,rfl⟩
        ·refine o8 ?_
         exact ⟨_,_,rfl,ih (_,_) _ h⟩
       ·refine oW (a1I g19) ?_
        cases h
        exact ⟨_,rfl,_,_,rfl,rfl⟩
      ·refine oW (u7 g20) ?_
       cases h
       exact ⟨_,rfl,_,_,rfl,rfl⟩
     ·refine oW (H7 g21) ?_
      cases h
      exact ⟨_,rfl,_,_,rfl,rfl⟩
   ·subst hx
    obtain ⟨l508,a6P⟩:=z24
    refine eSG (oA 1 rfl ?_)
    rcases w9 h with ⟨at24,g22,h⟩ | ⟨⟨at25,at26⟩,g23,h⟩
    ·refine oV (u7 g22) ?_
     refine A8 (eSG (oB 2 rfl ?_))
     cases h
     exact o5 ⟨_,_,_,rfl,rfl,rfl⟩
    ·refine oW (u7 g23) ?_
     cases h
     exact ⟨_,_,rfl,rfl⟩
   ·subst hz
    rcases res with ⟨_ | _ | _ | _,_,_⟩ <;> first | exact absurd rfl hn | exact hr.elim | (cases h; exact hr)
 ·refine oW (u7 g25) ?_
  cases h
  exact ⟨_,_,rfl,rfl⟩
theorem a5t {n:Nat} {j4:List Tok} {at2:Int} {l5:Int} {r:Rs (Typ × Int) (Int × Int)} (h:a1J n j4 at2 l5 = some r) :
  E env (.call 211 [.ptr 0 0]) (hP q9 j4 at2 l5) = some (a9x j4 at2 l5 r):=by
 unfold a1J at h
 refine F4 rfl Tryz.func211 rfl rfl ?_
 refine eSG (oB 1 rfl (p8 (eSG (oA 1 rfl ?_))))
 obtain ⟨⟨r4,at5⟩,g1,h⟩:=j5 h
 refine oV (F6 g1) ?_
 refine A8 ?_
 refine eI rfl h (fun h=>?_) fun h=>?_
 ·refine eSG (oA 1 rfl ?_)
  rcases w9 h with ⟨⟨r6,at7⟩,g3,h⟩ | ⟨⟨at8,at9⟩,g4,h⟩
  ·obtain ⟨r6_0,r6_1,r6_2,r6_3⟩:=r6
   refine oV (a1I g3) ?_
   refine oB 1 rfl ?_
   cases h
   exact o5 ⟨_,_,_,rfl,rfl,rfl⟩
  ·refine oW (a1I g4) ?_
   cases h
   exact ⟨_,_,rfl,rfl⟩
 ·refine o8 (eSG ?_)
  refine oD ?_
  refine oB 1 rfl ?_
  cases h
  exact o5 ⟨_,_,_,rfl,rfl,rfl⟩
theorem T9 {a8K:Str} {E8:List Tok} {at3:Int} {K3:Int} {r:Rs Int (Int × Int)} (h:P9 a8K E8 at3 K3 = some r) :
  E env (.call 93 [.ptr 0 0,.str a8K]) (hP q9 E8 at3 K3) = some (a8v a8K E8 at3 K3 r):=by
 unfold P9 at h
 refine F4 rfl Tryz.func93 rfl rfl ?_
 refine eSG (oA 2 rfl ?_)
 obtain ⟨⟨r5,at6⟩,g1,h⟩:=j5 h
 refine oV (U1 g1) ?_
 refine oB 1 rfl ?_
 refine eI rfl h (fun h=>?_) fun h=>?_
 ·refine o6 (oA 1 rfl ?_)
  rcases w9 h with ⟨x,_,_⟩ | ⟨at7,g3,h⟩
  ·exact x.elim
  ·refine oW (a3f g3) ?_
   cases h
   exact ⟨_,_,rfl,rfl⟩
 ·refine o8 ?_
  cases h
  exact ⟨_,_,_,rfl,rfl,rfl⟩
end Go.Proofs.YtmonfppdiehlpaaGreatDoor
namespace Go.Proofs.YtmonfppdiehlpaaGreatDoor
open Go Go.Vm
structure I8.Ok (Φ:I8):Prop where
 J9:∀ {j4:List Tok} {at2:Int} {l5:Int} {r:Rs (Nod × Int) (Int × Int)},Φ.J9 j4 at2 l5 = some r -> E env (.call 275 [.ptr 0 0]) (hP q9 j4 at2 l5) = some (a09 j4 at2 l5 r)
theorem a7I (n:Nat) {Φ:I8} (hΦ:Φ.Ok) {j4:List Tok} {at2:Int} {l5:Int} {r:Rs (Nod × Int) (Int × Int)} (h:a1z n Φ j4 at2 l5 = some r) :
  E env (.call 275 [.ptr 0 0]) (hP q9 j4 at2 l5) = some (a09 j4 at2 l5 r):=by
 unfold a1z at h
 refine F4 rfl Tryz.func275 rfl rfl ?_
 refine eSG (oB 1 rfl (eSG (oA 1 rfl ?_)))
 obtain ⟨at4,g1,h⟩:=j5 h
 refine oV (H6 g1) ?_
 refine oB 2 rfl ?_
 obtain ⟨y2,g3,h⟩:=O4 h
 refine Q6 (KR:=fun r=>a2s env 275 1 Tryz.f275.results.toList (a09 j4 at2 l5 r)) y2 (fun z45=>[(2,.ptr 1 0),(3,.ptr 2 0)]) (fun z45=>[(0,.row [.sl q9 j4,.i z45.1,.i l5]),(1,.row [.i 0,.str [],.i 0,.i 0,.str [],.i 0,.st 3 l6 ([]:List Typ),.st 4 l6 ([]:List Typ),.st 5 A9 ([]:List Nod),.i 0]),(2,.row [.i z45.2.1,.str z45.2.2.1,.i z45.2.2.2.1,.i 0,.str [],.i 0,.sl l6 ([]:List Typ),.st 6 l6 ([]:List Typ),.st 7 A9 z45.2.2.2.2,.i at4]),(3,.tip 0 0),(4,.tip 0 0),(5,.tip 0 0),(6,.tip 0 0),(7,.tip (tpe 10 (List.length z45.2.2.2.2)) (List.length z45.2.2.2.2))]) rfl ?_ (fun z45 hx=>?_) (fun r res hz hr hn=>?_)
 ·replace h:=g3
  clear g3
  refine C9 ?_
  refine eSG (oA 1 rfl ?_)
  obtain ⟨r5,g4,h⟩:=j5 h
  refine oV (I5 g4) ?_
  refine oB 1 rfl ?_
  refine eI rfl h (fun h=>?_) fun h=>?_
  ·refine eSG (oB 8 rfl (o6 (oB 2 rfl ?_)))
   cases h
   exact ⟨_,rfl,rfl⟩
  ·refine eSG (oA 1 rfl ?_)
   obtain ⟨r6,g6,h⟩:=j5 h
   refine oV (I5 g6) ?_
   refine oB 1 rfl ?_
   refine eI rfl h (fun h=>?_) fun h=>?_
   ·refine o6 (oA 1 rfl ?_)
    rcases w9 h with ⟨r7,g8,h⟩ | ⟨at8,g9,h⟩
    ·refine oV (H7 g8) ?_
     refine oB 4 rfl ?_
     cases h
     exact ⟨_,rfl,rfl⟩
    ·refine oW (H7 g9) ?_
     cases h
     exact ⟨_,rfl,_,_,rfl,rfl⟩
   ·refine eSG (oA 1 rfl ?_)
    obtain ⟨r9,g10,h⟩:=j5 h
    refine oV (I5 g10) ?_
    refine oB 1 rfl ?_
    refine eI rfl h (fun h=>?_) fun h=>?_
    ·refine o6 (oA 1 rfl ?_)
     rcases w9 h with ⟨r10,g12,h⟩ | ⟨at11,g13,h⟩
     ·refine oV (a0G g12) ?_
      refine oB 4 rfl ?_
      cases h
      exact ⟨_,rfl,rfl⟩
     ·refine oW (a0G g13) ?_
      cases h
      exact ⟨_,rfl,_,_,rfl,rfl⟩
    ·refine eSG (oA 1 rfl ?_)
     obtain ⟨⟨r12,at13⟩,g14,h⟩:=j5 h
     refine oV (F6 g14) ?_
     refine oB 1 rfl ?_
     refine eI rfl h (fun h=>?_) fun h=>?_
     ·refine o6 (oA 1 rfl ?_)
      rcases w9 h with ⟨r14,g16,h⟩ | ⟨at15,g17,h⟩
      ·refine oV (a0G g16) ?_
       refine oB 5 rfl ?_
       cases h
       exact ⟨_,rfl,rfl⟩
      ·refine oW (a0G g17) ?_
       cases h
       exact ⟨_,rfl,_,_,rfl,rfl⟩
     ·refine eSG (oA 1 rfl ?_)
      obtain ⟨r16,g18,h⟩:=j5 h
      refine oV (I5 g18) ?_
      refine oB 1 rfl ?_
      refine eI rfl h (fun h=>?_) fun h=>?_
      ·refine o6 (oA 1 rfl ?_)
       rcases w9 h with ⟨r17,g20,h⟩ | ⟨at18,g21,h⟩
       ·refine oV (K9 g20) ?_
        refine oB 5 rfl ?_
        cases h
        exact ⟨_,rfl,rfl⟩
       ·refine oW (K9 g21) ?_
        cases h
        exact ⟨_,rfl,_,_,rfl,rfl⟩
      ·refine eSG (oA 1 rfl ?_)
       obtain ⟨⟨r19,at20⟩,g22,h⟩:=j5 h
       refine oV (U1 g22) ?_
       refine oB 1 rfl ?_
       refine eI rfl h (fun h=>?_) fun h=>?_
       ·refine o6 (oB 4 rfl ?_)
        cases h
        exact ⟨_,rfl,rfl⟩
       ·refine eSG (oA 1 rfl ?_)
        obtain ⟨⟨r21,at22⟩,g24,h⟩:=j5 h
        refine oV (U1 g24) ?_
        refine oB 1 rfl ?_
        refine eI rfl h (fun h=>?_) fun h=>?_
        ·refine o6 (oB 2 rfl ?_)
         cases h
         exact ⟨_,rfl,rfl⟩
        ·refine eSG (oA 1 rfl ?_)
         rcases w9 h with ⟨at23,g26,h⟩ | ⟨⟨at43,at44⟩,g44,h⟩
         ·refine oV (u7 g26) ?_
          refine A8 (eSG (oA 1 rfl ?_))
          rcases w9 h with ⟨r24,g27,h⟩ | ⟨at42,g43,h⟩
          ·refine oV (H7 g27) ?_
           refine oB 4 rfl (eSG (oA 1 rfl ?_))
           obtain ⟨⟨r25,at26⟩,g28,h⟩:=j5 h
           refine oV (F6 g28) ?_
           refine A8 ?_
           refine eI rfl h (fun h=>?_) fun h=>?_
           ·refine p8 ?_
            refine O9 [256] rfl ?_
            refine oC rfl rfl (oC rfl rfl (oC rfl rfl (H8 rfl ?_)))
            rcases w9 h with ⟨⟨r27,at28⟩,g30,h⟩ | ⟨⟨at40,at41⟩,g42,h⟩
            ·obtain ⟨r27_0,r27_1,r27_2,⟨r27_3,r27_4,r27_5,r27_6⟩,r27_7,r27_8,r27_9⟩:=r27
             refine oV (hΦ.J9 g30) ?_
             refine A8 (oC rfl rfl (H8 rfl ?_))
             obtain ⟨l29,g31,h⟩:=j5 h
             refine oP Z7 g31 ?_
             refine A8 (oC rfl rfl (oC rfl rfl ?_))
             refine Y0 ?_
             refine ⟨rfl,?_⟩
             obtain ⟨y32,g33,h⟩:=a3W h
             refine Q6 (KR:=fun r=>a2s env 275 1 Tryz.f275.results.toList (a09 j4 at2 l5 r)) y32 (fun z41=>[(0,.ptr 0 0),(2,.ptr 1 0),(3,.ptr 2 0)]) (fun z41=>[(0,.row [.sl q9 j4,.i z41.1,.i l5]),(1,.row [.i 0,.str [],.i 0,.i 0,.str [],.i 0,.st 3 l6 ([]:List Typ),.st 4 l6 ([]:List Typ),.st 5 A9 ([]:List Nod),.i 0]),(2,.row [.i 45,.str r24,.i 0,.i 0,.str [],.i 0,.sl l6 ([]:List Typ),.st 6 l6 ([]:List Typ),.st 7 A9 z41.2,.i at4]),(3,.tip 0 0),(4,.tip 0 0),(5,.tip 0 0),(6,.tip 0 0),(7,.tip (tpe 10 (List.length z41.2)) (List.length z41.2))]) rfl ?_ (fun z41 hx=>?_) (fun r res hz hr hn=>?_)
             ·replace h:=g33
              clear g33
              refine C9 ?_
              refine P7 rfl ?_
              revert y32
              refine X8 (fun m (x:Int × List Nod)=>a0d n Φ l5 j4 m x.1 x.2) (fun x=>[(0,.ptr 0 0),(2,.ptr 1 0),(3,.ptr 2 0)]) (fun x=>[(0,.row [.sl q9 j4,.i x.1,.i l5]),(1,.row [.i 0,.str [],.i 0,.i 0,.str [],.i 0,.st 3 l6 ([]:List Typ),.st 4 l6 ([]:List Typ),.st 5 A9 ([]:List Nod),.i 0]),(2,.row [.i 45,.str r24,.i 0,.i 0,.str [],.i 0,.sl l6 ([]:List Typ),.st 6 l6 ([]:List Typ),.st 7 A9 x.2,.i at4]),(3,.tip 0 0),(4,.tip 0 0),(5,.tip 0 0),(6,.tip 0 0),(7,.tip (tpe 10 (List.length x.2)) (List.length x.2))]) _ (fun _=>rfl) (fun m6 x y ih h=>?_) n (at28,l29)
              obtain ⟨a6P,l510⟩:=x
              rw [a0d] at h
              refine p8 (eSG (oA 1 rfl ?_))
              obtain ⟨⟨r30,at31⟩,g34,h⟩:=j5 h
              refine oV (F6 g34) ?_
              refine A8 ?_
              refine eI rfl h (fun h=>?_) fun h=>?_
              ·refine o8 ?_
               refine C9 ?_
               refine O9 [2] rfl ?_
               refine oC rfl rfl (oC rfl rfl (oC rfl rfl (H8 rfl ?_)))
               rcases w9 h with ⟨⟨r32,at33⟩,g36,h⟩ | ⟨⟨at35,at36⟩,g38,h⟩
               ·obtain ⟨r32_0,r32_1,r32_2,⟨r32_3,r32_4,r32_5,r32_6⟩,r32_7,r32_8,r32_9⟩:=r32
                refine oV (hΦ.J9 g36) ?_
                refine A8 (oC rfl rfl (H8 rfl ?_))
                obtain ⟨l34,g37,h⟩:=j5 h
                refine oP Z7 g37 ?_
                refine A8 (oC rfl rfl (oC rfl rfl ?_))
                refine Y0 ?_
                refine ⟨rfl,?_⟩
                exact ⟨_,_,rfl,ih (_,_) _ h⟩
               ·refine oW (hΦ.J9 g38) ?_
                refine ⟨rfl,rfl,_,_,rfl,?_⟩
                cases h
                exact ⟨_,rfl,_,_,rfl,rfl⟩
              ·refine M4 ?_
               cases h
               exact ⟨_,rfl,rfl⟩
             ·subst hx
              obtain ⟨at523,l524⟩:=z41
              refine o6 (oA 1 rfl ?_)
              rcases w9 h with ⟨at37,g39,h⟩ | ⟨⟨at38,at39⟩,g40,h⟩
              ·refine oV (u7 g39) ?_
               refine A8 ?_
               cases h
               exact ⟨_,rfl,rfl⟩
              ·refine oW (u7 g40) ?_
               cases h
               exact ⟨_,rfl,_,_,rfl,rfl⟩
             ·subst hz
              rcases res with ⟨_ | _ | _ | _,_,_⟩ <;> first | exact absurd rfl hn | exact hr.elim | (cases h; exact ⟨_,rfl,hr⟩)
            ·refine oW (hΦ.J9 g42) ?_
             refine ⟨rfl,rfl,_,_,rfl,?_⟩
             cases h
             exact ⟨_,rfl,_,_,rfl,rfl⟩
           ·refine o8 ?_
            cases h
            exact ⟨_,rfl,rfl⟩
          ·refine oW (H7 g43) ?_
           cases h
           exact ⟨_,rfl,_,_,rfl,rfl⟩
         ·refine oW (u7 g44) ?_
          cases h
          exact ⟨_,rfl,_,_,rfl,rfl⟩
 ·subst hx
  obtain ⟨a5E,op513,s514,n515,l516⟩:=z45
  refine eSG (oB 2 rfl ?_)
  cases h
  exact o5 ⟨_,_,_,rfl,rfl,rfl⟩
 ·subst hz
  rcases res with ⟨_ | _ | _ | _,_,_⟩ <;> first | exact absurd rfl hn | exact hr.elim | (cases h; exact hr)
theorem I8.ok:∀ n,(I8.fs n).Ok
 | 0=>⟨(fun h=>by cases h)⟩
 | n + 1=>⟨(fun h=>a7I n (I8.ok n) h)⟩
theorem a4Z {n:Nat} {j4:List Tok} {at2:Int} {l5:Int} {r:Rs (Nod × Int) (Int × Int)} (h:J9 n j4 at2 l5 = some r) :
  E env (.call 275 [.ptr 0 0]) (hP q9 j4 at2 l5) = some (a09 j4 at2 l5 r):=(I8.ok n).J9 h
theorem b4S {n:Nat} {e1:Nod} {r:Bool} (h:a6s n e1 = some r) :
  E env (.call 253 [.agg (c0 e1.op e1.s e1.n e1.t.kind e1.t.name e1.t.n (.sl l6 e1.t.args) (.sl l6 e1.ts) (.sl A9 e1.l) e1.at_)]) [] = some (b4p e1 r):=by
 unfold a6s at h
 obtain ⟨e1_0,e1_1,e1_2,⟨e1_3,e1_4,e1_5,e1_6⟩,e1_7,e1_8,e1_9⟩:=e1
 refine F4 rfl Tryz.func253 rfl rfl ?_
 refine eSG (oB 2 rfl ?_)
 obtain ⟨y1,g2,h⟩:=j5 h
 refine Y5 [(1,.ptr 0 0)] [(0,.row (c0 y1.op y1.s y1.n y1.t.kind y1.t.name y1.t.n (.sl l6 y1.t.args) (.sl l6 y1.ts) (.sl A9 y1.l) y1.at_))] rfl ?_ ?_
 ·replace h:=g2
  clear g2
  refine C9 ?_
  refine P7 rfl ?_
  revert y1
  refine X8 (fun m (x:Nod)=>a1B n m x) (fun x=>[(1,.ptr 0 0)]) (fun x=>[(0,.row (c0 x.op x.s x.n x.t.kind x.t.name x.t.n (.sl l6 x.t.args) (.sl l6 x.ts) (.sl A9 x.l) x.at_))]) _ (fun _=>rfl) (fun m1 x y ih h=>?_) n (Nod.mk e1_0 e1_1 e1_2 (Typ.mk e1_3 e1_4 e1_5 e1_6) e1_7 e1_8 e1_9)
  obtain ⟨n501,rfl⟩:∃ q,q = x:=⟨_,rfl⟩
  obtain ⟨n501_0,n501_1,n501_2,⟨n501_3,n501_4,n501_5,n501_6⟩,n501_7,n501_8,n501_9⟩:=n501
  replace h:a1B n (m1 + 1) (Nod.mk n501_0 n501_1 n501_2 (Typ.mk n501_3 n501_4 n501_5 n501_6) n501_7 n501_8 n501_9) = some y:=h
  rw [a1B] at h
  refine p8 (eSG (oB 3 rfl ?_))
  refine eI rfl h (fun h=>?_) fun h=>?_
  ·refine o8 ?_
   refine C9 ?_
   refine o6 (oA 2 rfl ?_)
   obtain ⟨x2,g4,h⟩:=j5 h
   obtain ⟨x2_0,x2_1,x2_2,⟨x2_3,x2_4,x2_5,x2_6⟩,x2_7,x2_8,x2_9⟩:=x2
   refine a1u Z7 g4 rfl rfl rfl rfl rfl rfl rfl rfl ?_
   refine a4m (c:=(c0 x2_0 x2_1 x2_2 x2_3 x2_4 x2_5 (.sl l6 x2_6) (.sl l6 x2_7) (.sl A9 x2_8) x2_9)) rfl rfl rfl rfl rfl rfl rfl ?_
   refine oB 1 rfl ?_
   exact ⟨_,_,rfl,ih _ _ h⟩
  ·refine M4 ?_
   cases h
   exact rfl
 ·obtain ⟨n503,rfl⟩:∃ q,q = y1:=⟨_,rfl⟩
  obtain ⟨n503_0,n503_1,n503_2,⟨n503_3,n503_4,n503_5,n503_6⟩,n503_7,n503_8,n503_9⟩:=n503
  refine eSG (oB 4 rfl ?_)
  cases h
  exact o5 ⟨_,_,_,rfl,rfl,rfl⟩
theorem b4q {r:Unit} (h:a7f = some r) :
  E env (.call 143 []) [] = some (b3o r):=by
 unfold a7f at h
 refine F4 rfl Tryz.func143 rfl rfl ?_
 refine eSG (oB 1 rfl (eSG (oA 1 rfl ?_)))
 refine oD ?_
 refine oA 1 rfl ?_
 refine oD ?_
 refine oA 1 rfl ?_
 refine oD ?_
 refine oA 1 rfl ?_
 refine oD ?_
 refine oA 1 rfl ?_
 refine oD ?_
 refine oB 2 rfl ?_
 cases h
 exact o5 ⟨_,_,_,rfl,rfl,rfl⟩
theorem a6G {n:Nat} {s1:List Str} {v2:Str} {r:Int} (h:a1M n s1 v2 = some r) :
  E env (.call 155 [.sl clS s1,.str v2]) [] = some (a3E s1 v2 r):=by
 unfold a1M at h
 refine F4 rfl Tryz.func155 rfl rfl ?_
 refine eSG (oB 1 rfl ?_)
 obtain ⟨y1,g2,h⟩:=O4 h
 refine Q6 (KR:=fun r=>a2s env 155 0 Tryz.f155.results.toList (a3E s1 v2 r)) y1 (fun z6=>[]) (fun z6=>[]) rfl ?_ (fun z6 hx=>?_) (fun r res hz hr hn=>?_)
 ·replace h:=g2
  clear g2
  refine eSG (oB 3 rfl ?_)
  refine C9 ?_
  refine P7 rfl ?_
  revert y1
  refine X8 (fun m (x:Int)=>U8 n s1 v2 m x) (fun x=>[(0,.sl clS s1),(1,.str v2),(7,.i (List.length s1:Int)),(8,.i x)]) (fun x=>[]) _ (fun _=>rfl) (fun m2 x y ih h=>?_) n 0
  obtain ⟨b5O,rfl⟩:∃ q,q = x:=⟨_,rfl⟩
  rw [U8] at h
  refine eSG (oB 1 rfl (p8 ?_))
  refine eI rfl h (fun h=>?_) fun h=>?_
  ·refine o8 (p8 ?_)
   refine C9 ?_
   refine eSG (oB 2 rfl (eSG (oA 3 rfl ?_)))
   obtain ⟨x3,g4,h⟩:=j5 h
   refine a1u encS g4 rfl rfl rfl rfl rfl rfl rfl rfl ?_
   refine oB 2 rfl ?_
   refine eI rfl h (fun h=>?_) fun h=>?_
   ·refine eSG (oB 2 rfl ?_)
    cases h
    exact o5 ⟨_,rfl,_,_,_,rfl,rfl,rfl⟩
   ·refine o8 (o6 (oB 2 rfl ?_))
    exact ⟨_,_,rfl,ih _ _ h⟩
  ·refine M4 ?_
   cases h
   exact ⟨_,rfl,rfl⟩
 ·subst hx
  refine eSG (oB 1 rfl ?_)
  cases h
  exact o5 ⟨_,_,_,rfl,rfl,rfl⟩
 ·subst hz
  rcases res with ⟨_ | _ | _ | _,_,_⟩ <;> first | exact absurd rfl hn | exact hr.elim | (cases h; exact hr)
theorem a5O {n:Nat} {s1:List Str} {v2:Str} {r:Bool} (h:Y2 n s1 v2 = some r) :
  E env (.call 94 [.sl clS s1,.str v2]) [] = some (a5L s1 v2 r):=by
 unfold Y2 at h
 refine F4 rfl Tryz.func94 rfl rfl ?_
 refine eSG (oB 1 rfl (eSG (oA 2 rfl ?_)))
 obtain ⟨r3,g1,h⟩:=j5 h
 refine F7 rfl rfl rfl rfl rfl (a6G g1) rfl ?_
 refine oB 2 rfl ?_
 cases h
 exact o5 ⟨_,_,_,rfl,rfl,rfl⟩
end Go.Proofs.YtmonfppdiehlpaaGreatDoor
namespace Go.Proofs.YtmonfppdiehlpaaGreatDoor
open Go Go.Vm
structure j3.Ok (Φ:j3):Prop where
 x9:∀ {j4:List Tok} {at2:Int} {l5:Int} {r:Rs (Nod × Int) (o7 × Int)},Φ.x9 j4 at2 l5 = some r -> E env (.call 76 [.ptr 0 0]) (hP q9 j4 at2 l5) = some (a3Y j4 at2 l5 r)
 I4:∀ {j4:List Tok} {at2:Int} {l5:Int} {r:Rs (Nod × Int) (o7 × Int)},Φ.I4 j4 at2 l5 = some r -> E env (.call 142 [.ptr 0 0]) (hP q9 j4 at2 l5) = some (a3K j4 at2 l5 r)
 a0k:∀ {j4:List Tok} {at2:Int} {l5:Int} {r:Rs (Nod × Int) (o7 × Int)},Φ.a0k j4 at2 l5 = some r -> E env (.call 197 [.ptr 0 0]) (hP q9 j4 at2 l5) = some (a1Z j4 at2 l5 r)
 a0B:∀ {j4:List Tok} {at2:Int} {l5:Int} {r:Rs (Nod × Int) (o7 × Int)},Φ.a0B j4 at2 l5 = some r -> E env (.call 223 [.ptr 0 0]) (hP q9 j4 at2 l5) = some (a3a j4 at2 l5 r)
 K7:∀ {j4:List Tok} {at2:Int} {l5:Int} {r:Rs (List Nod × Int) (o7 × Int)},Φ.K7 j4 at2 l5 = some r -> E env (.call 224 [.ptr 0 0]) (hP q9 j4 at2 l5) = some (a2Z j4 at2 l5 r)
 a0u:∀ {j4:List Tok} {at2:Int} {l5:Int} {r:Rs (Nod × Int) (o7 × Int)},Φ.a0u j4 at2 l5 = some r -> E env (.call 246 [.ptr 0 0]) (hP q9 j4 at2 l5) = some (a5b j4 at2 l5 r)
 a0m:∀ {j4:List Tok} {at2:Int} {l5:Int} {r:Rs (Nod × Int) (o7 × Int)},Φ.a0m j4 at2 l5 = some r -> E env (.call 247 [.ptr 0 0]) (hP q9 j4 at2 l5) = some (a4H j4 at2 l5 r)
 O5:∀ {j4:List Tok} {at2:Int} {l5:Int} {r:Rs (List Nod × Int) (o7 × Int)},Φ.O5 j4 at2 l5 = some r -> E env (.call 212 [.ptr 0 0]) (hP q9 j4 at2 l5) = some (a2D j4 at2 l5 r)
 P5:∀ {j4:List Tok} {at2:Int} {l5:Int} {r:Rs (Nod × Int) (o7 × Int)},Φ.P5 j4 at2 l5 = some r -> E env (.call 233 [.ptr 0 0]) (hP q9 j4 at2 l5) = some (a2O j4 at2 l5 r)
 G5:∀ {j4:List Tok} {at2:Int} {l5:Int} {r:Rs (Nod × Int) (o7 × Int)},Φ.G5 j4 at2 l5 = some r -> E env (.call 152 [.ptr 0 0]) (hP q9 j4 at2 l5) = some (a5N j4 at2 l5 r)
 a0O:∀ {j4:List Tok} {at2:Int} {l5:Int} {r:Rs (Nod × Int) (o7 × Int)},Φ.a0O j4 at2 l5 = some r -> E env (.call 249 [.ptr 0 0]) (hP q9 j4 at2 l5) = some (a2x j4 at2 l5 r)
 M9:∀ {j4:List Tok} {at2:Int} {l5:Int} {r:Rs (Nod × Int) (o7 × Int)},Φ.M9 j4 at2 l5 = some r -> E env (.call 250 [.ptr 0 0]) (hP q9 j4 at2 l5) = some (a1b j4 at2 l5 r)
 a0S:∀ {j4:List Tok} {at2:Int} {l5:Int} {r:Rs (Nod × Int) (o7 × Int)},Φ.a0S j4 at2 l5 = some r -> E env (.call 251 [.ptr 0 0]) (hP q9 j4 at2 l5) = some (a2A j4 at2 l5 r)
 Y3:∀ {op1:Int} {E8:List Tok} {at3:Int} {K3:Int} {r:Rs (List Nod × Int × Int) (o7 × Int)},Φ.Y3 op1 E8 at3 K3 = some r -> E env (.call 252 [.ptr 0 0,.i op1]) (hP q9 E8 at3 K3) = some (a6B op1 E8 at3 K3 r)
 P6:∀ {a1e:Nod} {a0r:List K8} {V4:List Tok} {at4:Int} {a2K:Int} {r:Rs (Nod × Int) (o7 × Int)},Φ.P6 a1e a0r V4 at4 a2K = some r -> E env (.call 144 [.ptr 0 0,.agg (c0 a1e.op a1e.s a1e.n a1e.t.kind a1e.t.name a1e.t.n (.sl l6 a1e.t.args) (.sl l6 a1e.ts) (.sl A9 a1e.l) a1e.at_),.sl a10 a0r]) (hP q9 V4 at4 a2K) = some (a2F a1e a0r V4 at4 a2K r)
theorem a9P (n:Nat) {Φ:j3} (hΦ:Φ.Ok) {j4:List Tok} {at2:Int} {l5:Int} {r:Rs (Nod × Int) (o7 × Int)} (h:a2w n Φ j4 at2 l5 = some r) :
  E env (.call 76 [.ptr 0 0]) (hP q9 j4 at2 l5) = some (a3Y j4 at2 l5 r):=by
 unfold a2w at h
 refine F4 rfl Tryz.func76 rfl rfl ?_
 refine eSG (oB 1 rfl (eSG (oA 1 rfl ?_)))
 rcases w9 h with ⟨⟨r4,at5⟩,g1,h⟩ | ⟨⟨e10,at11⟩,g5,h⟩
 ·obtain ⟨r4_0,r4_1,r4_2,⟨r4_3,r4_4,r4_5,r4_6⟩,r4_7,r4_8,r4_9⟩:=r4
  refine oV (hΦ.I4 g1) ?_
  refine oB 2 rfl (eSG ?_)
  obtain ⟨_,g2,h⟩:=j5 h
  refine F7 rfl rfl rfl rfl rfl (b4q g2) rfl ?_
  refine oB 1 rfl (eSG (oA 3 rfl ?_))
  rcases w9 h with ⟨⟨r6,at7⟩,g3,h⟩ | ⟨⟨e8,at9⟩,g4,h⟩
  ·obtain ⟨r6_0,r6_1,r6_2,⟨r6_3,r6_4,r6_5,r6_6⟩,r6_7,r6_8,r6_9⟩:=r6
   refine oV (hΦ.P6 g3) ?_
   refine oB 1 rfl ?_
   cases h
   exact o5 ⟨_,_,_,rfl,rfl,rfl⟩
  ·refine oW (hΦ.P6 g4) ?_
   cases h
   exact ⟨_,_,rfl,rfl⟩
 ·refine oW (hΦ.I4 g5) ?_
  cases h
  exact ⟨_,_,rfl,rfl⟩
theorem a9a (n:Nat) {Φ:j3} (hΦ:Φ.Ok) {j4:List Tok} {at2:Int} {l5:Int} {r:Rs (Nod × Int) (o7 × Int)} (h:a14 n Φ j4 at2 l5 = some r) :
  E env (.call 142 [.ptr 0 0]) (hP q9 j4 at2 l5) = some (a3K j4 at2 l5 r):=by
 unfold a14 at h
 refine F4 rfl Tryz.func142 rfl rfl ?_
 refine eSG (oB 1 rfl (eSG (oA 1 rfl ?_)))
 obtain ⟨at4,g1,h⟩:=j5 h
 refine oV (H6 g1) ?_
 refine oB 2 rfl ?_
 obtain ⟨y2,g3,h⟩:=O4 h
 refine Q6 (KR:=fun r=>a2s env 142 1 Tryz.f142.results.toList (a3K j4 at2 l5 r)) y2 (fun z12=>[(0,.ptr 0 0),(2,.ptr 1 0),(3,.ptr 2 0)]) (fun z12=>[(0,.row [.sl q9 j4,.i z12.1,.i l5]),(1,.row [.i 0,.str [],.i 0,.i 0,.str [],.i 0,.st 3 l6 ([]:List Typ),.st 4 l6 ([]:List Typ),.st 5 A9 ([]:List Nod),.i 0]),(2,.row [.i z12.2,.str [],.i 0,.i 0,.str [],.i 0,.sl l6 ([]:List Typ),.st 6 l6 ([]:List Typ),.st 7 A9 ([]:List Nod),.i at4]),(3,.tip 0 0),(4,.tip 0 0),(5,.tip 0 0),(6,.tip 0 0),(7,.tip 0 0)]) rfl ?_ (fun z12 hx=>?_) (fun r res hz hr hn=>?_)
 ·replace h:=g3
  clear g3
  refine eSG (oA 1 rfl ?_)
  obtain ⟨⟨r5,at6⟩,g4,h⟩:=j5 h
  refine oV (F6 g4) ?_
  refine oB 1 rfl ?_
  refine eI rfl h (fun h=>?_) fun h=>?_
  ·refine p8 (eSG (oA 1 rfl ?_))
   obtain ⟨⟨r7,at8⟩,g6,h⟩:=j5 h
   refine oV (F6 g6) ?_
   refine oB 1 rfl ?_
   refine eI rfl h (fun h=>?_) fun h=>?_
   ·refine eSG (oA 1 rfl ?_)
    rcases w9 h with ⟨⟨r9,at10⟩,g8,h⟩ | ⟨⟨e11,at12⟩,g9,h⟩
    ·obtain ⟨r9_0,r9_1,r9_2,⟨r9_3,r9_4,r9_5,r9_6⟩,r9_7,r9_8,r9_9⟩:=r9
     refine oV (hΦ.a0k g8) ?_
     refine oB 1 rfl ?_
     cases h
     exact o5 ⟨_,rfl,_,_,_,rfl,rfl,rfl⟩
    ·refine oW (hΦ.a0k g9) ?_
     cases h
     exact ⟨_,rfl,_,_,rfl,rfl⟩
   ·refine o8 (o6 (oB 2 rfl ?_))
    cases h
    exact ⟨_,rfl,rfl⟩
  ·refine o8 ?_
   cases h
   exact ⟨_,rfl,rfl⟩
 ·subst hx
  obtain ⟨a7y,op502⟩:=z12
  refine eSG (oA 1 rfl ?_)
  rcases w9 h with ⟨⟨r13,at14⟩,g10,h⟩ | ⟨⟨e15,at16⟩,g11,h⟩
  ·obtain ⟨r13_0,r13_1,r13_2,⟨r13_3,r13_4,r13_5,r13_6⟩,r13_7,r13_8,r13_9⟩:=r13
   refine oV (hΦ.I4 g10) ?_
   refine oB 3 rfl (eSG (oB 2 rfl ?_))
   cases h
   exact o5 ⟨_,_,_,rfl,rfl,rfl⟩
  ·refine oW (hΦ.I4 g11) ?_
   cases h
   exact ⟨_,_,rfl,rfl⟩
 ·subst hz
  rcases res with ⟨_ | _ | _ | _,_,_⟩ <;> first | exact absurd rfl hn | exact hr.elim | (cases h; exact hr)
theorem a7H (n:Nat) {Φ:j3} (hΦ:Φ.Ok) {j4:List Tok} {at2:Int} {l5:Int} {r:Rs (Nod × Int) (o7 × Int)} (h:a1y n Φ j4 at2 l5 = some r) :
  E env (.call 197 [.ptr 0 0]) (hP q9 j4 at2 l5) = some (a1Z j4 at2 l5 r):=by
 unfold a1y at h
 refine F4 rfl Tryz.func197 rfl rfl ?_
 refine eSG (oB 1 rfl (eSG (oA 1 rfl ?_)))
 obtain ⟨r4,g1,h⟩:=j5 h
 refine oV (I5 g1) ?_
 refine oB 1 rfl (eSG (oA 1 rfl ?_))
 rcases w9 h with ⟨⟨r5,at6⟩,g2,h⟩ | ⟨⟨e27,at28⟩,g26,h⟩
 ·obtain ⟨r5_0,r5_1,r5_2,⟨r5_3,r5_4,r5_5,r5_6⟩,r5_7,r5_8,r5_9⟩:=r5
  refine oV (hΦ.a0B g2) ?_
  refine oB 2 rfl ?_
  refine C9 ?_
  refine P7 rfl ?_
  obtain ⟨yq,hq⟩:∃ y,y = r:=⟨_,rfl⟩
  rw [<- hq] at h ⊢
  clear hq
  revert yq
  refine X8 (fun m (x:Bool × Int × Nod)=>Q0 n Φ l5 j4 m x.1 x.2.1 x.2.2) (fun x=>[(0,.ptr 0 0),(2,.ptr 1 0),(3,.bool x.1),(4,.ptr 2 0)]) (fun x=>[(0,.row [.sl q9 j4,.i x.2.1,.i l5]),(1,.row [.i 0,.str [],.i 0,.i 0,.str [],.i 0,.st 3 l6 ([]:List Typ),.st 4 l6 ([]:List Typ),.st 5 A9 ([]:List Nod),.i 0]),(2,.row (c0 x.2.2.op x.2.2.s x.2.2.n x.2.2.t.kind x.2.2.t.name x.2.2.t.n (.sl l6 x.2.2.t.args) (.sl l6 x.2.2.ts) (.sl A9 x.2.2.l) x.2.2.at_)),(3,.tip 0 0),(4,.tip 0 0),(5,.tip 0 0)]) _ (fun _=>rfl) (fun m4 x y ih h=>?_) n (r4,at6,(Nod.mk r5_0 r5_1 r5_2 (Typ.mk r5_3 r5_4 r5_5 r5_6) r5_7 r5_8 r5_9))
  obtain ⟨b7M,b9k,n539⟩:=x
  obtain ⟨n539_0,n539_1,n539_2,⟨n539_3,n539_4,n539_5,n539_6⟩,n539_7,n539_8,n539_9⟩:=n539
  replace h:Q0 n Φ l5 j4 (m4 + 1) b7M b9k (Nod.mk n539_0 n539_1 n539_2 (Typ.mk n539_3 n539_4 n539_5 n539_6) n539_7 n539_8 n539_9) = some y:=h
  rw [Q0] at h
  refine C9 ?_
  obtain ⟨y3,g4,h⟩:=O4 h
  refine Q6 (KR:=fun r=>a2s env 197 1 Tryz.f197.results.toList (a1Z j4 at2 l5 r)) y3 (fun z25=>[(0,.ptr 0 0),(2,.ptr 1 0),(4,.ptr 2 0)]) (fun z25=>[(0,.row [.sl q9 j4,.i z25.1,.i l5]),(1,.row [.i 0,.str [],.i 0,.i 0,.str [],.i 0,.st 3 l6 ([]:List Typ),.st 4 l6 ([]:List Typ),.st 5 A9 ([]:List Nod),.i 0]),(2,.row [.i z25.2.1,.str z25.2.2.1,.i 0,.i 0,.str [],.i 0,.st 6 l6 ([]:List Typ),.st 7 l6 ([]:List Typ),.sl A9 z25.2.2.2,.i n539_9]),(3,.tip 0 0),(4,.tip 0 0),(5,.tip 0 0),(6,.tip 0 0),(7,.tip 0 0)]) rfl ?_ (fun z25 hx=>?_) (fun r res hz hr hn=>?_)
  ·replace h:=g4
   clear g4
   refine C9 ?_
   refine eSG (oA 1 rfl ?_)
   obtain ⟨⟨r7,at8⟩,g5,h⟩:=j5 h
   refine oV (F6 g5) ?_
   refine oB 1 rfl ?_
   refine eI rfl h (fun h=>?_) fun h=>?_
   ·refine p8 ?_
    refine O9 [2,2] rfl ?_
    refine oC rfl rfl (oC rfl rfl (oC rfl rfl (oC rfl rfl (oC rfl rfl (H8 rfl ?_)))))
    rcases w9 h with ⟨r9,g7,h⟩ | ⟨at16,g16,h⟩
    ·refine oV (H7 g7) ?_
     refine A8 (H8 rfl ?_)
     refine oD ?_
     refine A8 (oC rfl rfl (oC rfl rfl ?_))
     refine Y0 ?_
     refine ⟨rfl,?_⟩
     obtain ⟨y8,g9,h⟩:=a3W h
     refine Q6 (KR:=fun r=>a2s env 197 1 Tryz.f197.results.toList (a1Z j4 at2 l5 r)) y8 (fun z15=>[(0,.ptr 0 0),(2,.ptr 1 0),(4,.ptr 2 0),(5,.ptr 3 0)]) (fun z15=>[(0,.row [.sl q9 j4,.i z15.1,.i l5]),(1,.row [.i 0,.str [],.i 0,.i 0,.str [],.i 0,.st 4 l6 ([]:List Typ),.st 5 l6 ([]:List Typ),.st 6 A9 ([]:List Nod),.i 0]),(2,.row (c0 n539_0 n539_1 n539_2 n539_3 n539_4 n539_5 (.sl l6 n539_6) (.sl l6 n539_7) (.sl A9 n539_8) n539_9)),(3,.row [.i z15.2.1,.str r9,.i 0,.i 0,.str [],.i 0,.st 7 l6 ([]:List Typ),.st 8 l6 ([]:List Typ),.st 9 A9 z15.2.2,.i n539_9]),(4,.tip 0 0),(5,.tip 0 0),(6,.tip 0 0),(7,.tip 0 0),(8,.tip 0 0),(9,.tip (tpe 10 (List.length z15.2.2)) (List.length z15.2.2))]) rfl ?_ (fun z15 hx=>?_) (fun r res hz hr hn=>?_)
     ·replace h:=g9
      clear g9
      refine eSG (oA 1 rfl ?_)
      obtain ⟨r10,g10,h⟩:=j5 h
      refine oV (I5 g10) ?_
      refine A8 ?_
      refine eI rfl h (fun h=>?_) fun h=>?_
      ·refine eSG (oB 2 rfl ?_)
       refine O9 [384] rfl ?_
       refine oC rfl rfl (oC rfl rfl (oC rfl rfl (H8 rfl ?_)))
       rcases w9 h with ⟨⟨r11,at12⟩,g12,h⟩ | ⟨⟨e14,at15⟩,g14,h⟩
       ·refine oV (hΦ.K7 g12) ?_
        refine A8 (H8 rfl ?_)
        obtain ⟨l13,g13,h⟩:=j5 h
        refine c0i Z7 g13 rfl rfl rfl rfl (.inr ⟨rfl,b0Q (Nat.succ_le_succ (Nat.zero_le _))⟩) rfl rfl rfl rfl rfl rfl rfl rfl rfl rfl (a5z (a08 (a3F.length Z7 _).symm) rfl) rfl rfl ?_
        refine A8 (oC rfl rfl (oC rfl rfl ?_))
        refine Y0 ?_
        refine ⟨rfl,?_⟩
        cases h
        exact ⟨_,rfl,rfl⟩
       ·refine oW (hΦ.K7 g14) ?_
        refine ⟨rfl,rfl,_,_,rfl,?_⟩
        cases h
        exact ⟨_,rfl,_,_,rfl,rfl⟩
      ·refine o8 ?_
       cases h
       exact ⟨_,rfl,rfl⟩
     ·subst hx
      obtain ⟨b8h,op548,l549⟩:=z15
      refine o6 (oB 2 rfl ?_)
      cases h
      exact ⟨_,rfl,rfl⟩
     ·subst hz
      rcases res with ⟨_ | _ | _ | _,_,_⟩ <;> first | exact absurd rfl hn | exact hr.elim | (cases h; exact ⟨_,rfl,hr⟩)
    ·refine oW (H7 g16) ?_
     refine ⟨rfl,rfl,_,_,rfl,?_⟩
     cases h
     exact ⟨_,rfl,_,_,rfl,rfl⟩
   ·refine eSG (oA 1 rfl ?_)
    obtain ⟨r17,g17,h⟩:=j5 h
    refine oV (I5 g17) ?_
    refine oB 1 rfl ?_
    refine eI rfl h (fun h=>?_) fun h=>?_
    ·refine eSG (oB 1 rfl ?_)
     refine eI rfl h (fun h=>?_) fun h=>?_
     ·refine O9 [2,2] rfl ?_
      refine oC rfl rfl (oC rfl rfl (oC rfl rfl (oC rfl rfl (oC rfl rfl (H8 rfl ?_)))))
      rcases w9 h with ⟨⟨r18,at19⟩,g20,h⟩ | ⟨⟨e20,at21⟩,g21,h⟩
      ·refine oV (hΦ.K7 g20) ?_
       refine A8 (H8 rfl ?_)
       refine oD ?_
       refine A8 (oC rfl rfl ?_)
       refine Y0 ?_
       refine ⟨rfl,?_⟩
       cases h
       exact ⟨_,rfl,rfl⟩
      ·refine oW (hΦ.K7 g21) ?_
       refine ⟨rfl,rfl,_,_,rfl,?_⟩
       cases h
       exact ⟨_,rfl,_,_,rfl,rfl⟩
     ·refine eSG (oA 4 rfl ?_)
      refine oD ?_
      refine oB 2 rfl (p8 ?_)
      refine O9 [448] rfl ?_
      refine oC rfl rfl (oC rfl rfl (oC rfl rfl (H8 rfl ?_)))
      rcases w9 h with ⟨⟨r22,at23⟩,g22,h⟩ | ⟨⟨e25,at26⟩,g24,h⟩
      ·refine oV (hΦ.K7 g22) ?_
       refine A8 (H8 rfl ?_)
       obtain ⟨l24,g23,h⟩:=j5 h
       refine c0i Z7 g23 rfl rfl rfl rfl (.inr ⟨rfl,b0Q (Nat.succ_le_succ (Nat.zero_le _))⟩) rfl rfl rfl rfl rfl rfl rfl rfl rfl rfl (a5z (a08 (a3F.length Z7 _).symm) rfl) rfl rfl ?_
       refine A8 (oC rfl rfl (oC rfl rfl ?_))
       refine Y0 ?_
       refine ⟨rfl,?_⟩
       refine o6 (oB 2 rfl ?_)
       cases h
       exact ⟨_,rfl,rfl⟩
      ·refine oW (hΦ.K7 g24) ?_
       refine ⟨rfl,rfl,_,_,rfl,?_⟩
       cases h
       exact ⟨_,rfl,_,_,rfl,rfl⟩
    ·refine eSG (oB 2 rfl ?_)
     cases h
     exact o5 ⟨_,rfl,_,_,_,rfl,rfl,rfl⟩
  ·subst hx
   obtain ⟨at550,op551,s552,l553⟩:=z25
   refine o6 (oB 1 rfl ?_)
   exact ⟨_,_,rfl,ih (_,_,_) _ h⟩
  ·subst hz
   rcases res with ⟨_ | _ | _ | _,_,_⟩ <;> first | exact absurd rfl hn | exact hr.elim | (cases h; exact hr)
 ·refine oW (hΦ.a0B g26) ?_
  cases h
  exact ⟨_,_,rfl,rfl⟩
theorem a9H (n:Nat) {Φ:j3} (hΦ:Φ.Ok) {j4:List Tok} {at2:Int} {l5:Int} {r:Rs (Nod × Int) (o7 × Int)} (h:a04 n Φ j4 at2 l5 = some r) :
  E env (.call 223 [.ptr 0 0]) (hP q9 j4 at2 l5) = some (a3a j4 at2 l5 r):=by
 unfold a04 at h
 refine F4 rfl Tryz.func223 rfl rfl ?_
 refine eSG (oB 1 rfl (eSG (oA 1 rfl ?_)))
 obtain ⟨at4,g1,h⟩:=j5 h
 refine oV (H6 g1) ?_
 refine oB 2 rfl ?_
 obtain ⟨y2,g3,h⟩:=O4 h
 refine Q6 (KR:=fun r=>a2s env 223 1 Tryz.f223.results.toList (a3a j4 at2 l5 r)) y2 (fun z69=>[(2,.ptr 1 0),(3,.ptr 2 0)]) (fun z69=>[(0,.row [.sl q9 j4,.i z69.1,.i l5]),(1,.row [.i 0,.str [],.i 0,.i 0,.str [],.i 0,.st 3 l6 ([]:List Typ),.st 4 l6 ([]:List Typ),.st 5 A9 ([]:List Nod),.i 0]),(2,.row (c0 z69.2.1 z69.2.2.1 z69.2.2.2.1 z69.2.2.2.2.1 z69.2.2.2.2.2.1 z69.2.2.2.2.2.2.1 (.sl l6 z69.2.2.2.2.2.2.2.1) (.st 6 l6 ([]:List Typ)) (.sl A9 z69.2.2.2.2.2.2.2.2) at4)),(3,.tip 0 0),(4,.tip 0 0),(5,.tip 0 0),(6,.tip 0 0)]) rfl ?_ (fun z69 hx=>?_) (fun r res hz hr hn=>?_)
 ·replace h:=g3
  clear g3
  refine C9 ?_
  refine eSG (oA 1 rfl ?_)
  obtain ⟨r5,g4,h⟩:=j5 h
  refine oV (I5 g4) ?_
  refine oB 1 rfl ?_
  refine eI rfl h (fun h=>?_) fun h=>?_
  ·refine o6 (oA 1 rfl ?_)
   rcases w9 h with ⟨r6,g6,h⟩ | ⟨at7,g7,h⟩
   ·refine oV (a0G g6) ?_
    refine oB 4 rfl ?_
    cases h
    exact ⟨_,rfl,rfl⟩
   ·refine oW (a0G g7) ?_
    cases h
    exact ⟨_,rfl,_,_,rfl,rfl⟩
  ·refine eSG (oA 1 rfl ?_)
   obtain ⟨r8,g8,h⟩:=j5 h
   refine oV (I5 g8) ?_
   refine oB 1 rfl ?_
   refine eI rfl h (fun h=>?_) fun h=>?_
   ·refine o6 (oA 1 rfl ?_)
    rcases w9 h with ⟨r9,g10,h⟩ | ⟨at10,g11,h⟩
    ·refine oV (K9 g10) ?_
     refine oB 5 rfl ?_
     cases h
     exact ⟨_,rfl,rfl⟩
    ·refine oW (K9 g11) ?_
     cases h
     exact ⟨_,rfl,_,_,rfl,rfl⟩
   ·refine eSG (oA 1 rfl ?_)
    obtain ⟨r11,g12,h⟩:=j5 h
    refine oV (I5 g12) ?_
    refine oB 1 rfl ?_
    refine eI rfl h (fun h=>?_) fun h=>?_
    ·refine eSG (oA 1 rfl ?_)
     rcases w9 h with ⟨⟨r12,at13⟩,g14,h⟩ | ⟨⟨e14,at15⟩,g15,h⟩
     ·obtain ⟨r12_0,r12_1,r12_2,⟨r12_3,r12_4,r12_5,r12_6⟩,r12_7,r12_8,r12_9⟩:=r12
      refine oV (hΦ.a0u g14) ?_
      refine oB 1 rfl ?_
      cases h
      exact o5 ⟨_,rfl,_,_,_,rfl,rfl,rfl⟩
     ·refine oW (hΦ.a0u g15) ?_
      cases h
      exact ⟨_,rfl,_,_,rfl,rfl⟩
    ·refine eSG (oA 1 rfl ?_)
     obtain ⟨⟨r16,at17⟩,g16,h⟩:=j5 h
     refine oV (U1 g16) ?_
     refine oB 1 rfl ?_
     refine eI rfl h (fun h=>?_) fun h=>?_
     ·refine o6 (oB 4 rfl ?_)
      cases h
      exact ⟨_,rfl,rfl⟩
     ·refine eSG (oA 1 rfl ?_)
      obtain ⟨⟨r18,at19⟩,g18,h⟩:=j5 h
      refine oV (U1 g18) ?_
      refine oB 1 rfl ?_
      refine eI rfl h (fun h=>?_) fun h=>?_
      ·refine o6 (oB 2 rfl ?_)
       cases h
       exact ⟨_,rfl,rfl⟩
      ·refine eSG (oA 1 rfl ?_)
       obtain ⟨r20,g20,h⟩:=j5 h
       refine oV (I5 g20) ?_
       refine oB 1 rfl ?_
       refine eI rfl h (fun h=>?_) fun h=>?_
       ·refine o6 (oA 1 rfl ?_)
        rcases w9 h with ⟨r21,g22,h⟩ | ⟨at22,g23,h⟩
        ·refine oV (H7 g22) ?_
         refine oB 4 rfl ?_
         cases h
         exact ⟨_,rfl,rfl⟩
        ·refine oW (H7 g23) ?_
         cases h
         exact ⟨_,rfl,_,_,rfl,rfl⟩
       ·refine eSG (oA 1 rfl ?_)
        obtain ⟨⟨r23,at24⟩,g24,h⟩:=j5 h
        refine oV (U1 g24) ?_
        refine oB 1 rfl ?_
        refine eI rfl h (fun h=>?_) fun h=>?_
        ·refine o6 (oA 1 rfl ?_)
         rcases w9 h with ⟨r25,g26,h⟩ | ⟨at26,g27,h⟩
         ·refine oV (H7 g26) ?_
          refine oB 4 rfl ?_
          cases h
          exact ⟨_,rfl,rfl⟩
         ·refine oW (H7 g27) ?_
          cases h
          exact ⟨_,rfl,_,_,rfl,rfl⟩
        ·refine eSG (oA 1 rfl ?_)
         obtain ⟨⟨r27,at28⟩,g28,h⟩:=j5 h
         refine oV (F6 g28) ?_
         refine oB 1 rfl ?_
         refine eI rfl h (fun h=>?_) fun h=>?_
         ·refine eSG (oB 2 rfl (p8 (eSG (oA 1 rfl ?_))))
          obtain ⟨⟨r29,at30⟩,g30,h⟩:=j5 h
          refine oV (F6 g30) ?_
          refine A8 ?_
          refine eI rfl h (fun h=>?_) fun h=>?_
          ·refine M4 ?_
           cases h
           exact ⟨_,rfl,rfl⟩
          ·refine o8 (p8 ?_)
           refine O9 [256] rfl ?_
           refine oC rfl rfl (oC rfl rfl (oC rfl rfl (H8 rfl ?_)))
           rcases w9 h with ⟨⟨r31,at32⟩,g32,h⟩ | ⟨⟨e44,at45⟩,g44,h⟩
           ·obtain ⟨r31_0,r31_1,r31_2,⟨r31_3,r31_4,r31_5,r31_6⟩,r31_7,r31_8,r31_9⟩:=r31
            refine oV (hΦ.x9 g32) ?_
            refine A8 (oC rfl rfl (H8 rfl ?_))
            obtain ⟨l33,g33,h⟩:=j5 h
            refine oP Z7 g33 ?_
            refine A8 (oC rfl rfl (oC rfl rfl ?_))
            refine Y0 ?_
            refine ⟨rfl,?_⟩
            obtain ⟨y34,g35,h⟩:=a3W h
            refine Q6 (KR:=fun r=>a2s env 223 1 Tryz.f223.results.toList (a3a j4 at2 l5 r)) y34 (fun z43=>[(0,.ptr 0 0),(2,.ptr 1 0),(3,.ptr 2 0)]) (fun z43=>[(0,.row [.sl q9 j4,.i z43.1,.i l5]),(1,.row [.i 0,.str [],.i 0,.i 0,.str [],.i 0,.st 3 l6 ([]:List Typ),.st 4 l6 ([]:List Typ),.st 5 A9 ([]:List Nod),.i 0]),(2,.row [.i 67,.str [],.i 0,.i 0,.str [],.i 0,.sl l6 ([]:List Typ),.st 6 l6 ([]:List Typ),.st 7 A9 z43.2,.i at4]),(3,.tip 0 0),(4,.tip 0 0),(5,.tip 0 0),(6,.tip 0 0),(7,.tip (tpe 10 (List.length z43.2)) (List.length z43.2))]) rfl ?_ (fun z43 hx=>?_) (fun r res hz hr hn=>?_)
            ·replace h:=g35
             clear g35
             refine C9 ?_
             refine P7 rfl ?_
             revert y34
             refine X8 (fun m (x:Int × List Nod)=>a0x n Φ l5 j4 m x.1 x.2) (fun x=>[(0,.ptr 0 0),(2,.ptr 1 0),(3,.ptr 2 0)]) (fun x=>[(0,.row [.sl q9 j4,.i x.1,.i l5]),(1,.row [.i 0,.str [],.i 0,.i 0,.str [],.i 0,.st 3 l6 ([]:List Typ),.st 4 l6 ([]:List Typ),.st 5 A9 ([]:List Nod),.i 0]),(2,.row [.i 67,.str [],.i 0,.i 0,.str [],.i 0,.sl l6 ([]:List Typ),.st 6 l6 ([]:List Typ),.st 7 A9 x.2,.i at4]),(3,.tip 0 0),(4,.tip 0 0),(5,.tip 0 0),(6,.tip 0 0),(7,.tip (tpe 10 (List.length x.2)) (List.length x.2))]) _ (fun _=>rfl) (fun m27 x y ih h=>?_) n (at32,l33)
             obtain ⟨at529,l530⟩:=x
             rw [a0x] at h
             refine p8 (eSG (oA 1 rfl ?_))
             obtain ⟨⟨r34,at35⟩,g36,h⟩:=j5 h
             refine oV (F6 g36) ?_
             refine A8 ?_
             refine eI rfl h (fun h=>?_) fun h=>?_
             ·refine o8 ?_
              refine C9 ?_
              refine O9 [2] rfl ?_
              refine oC rfl rfl (oC rfl rfl (oC rfl rfl (H8 rfl ?_)))
              rcases w9 h with ⟨⟨r36,at37⟩,g38,h⟩ | ⟨⟨e39,at40⟩,g40,h⟩
              ·obtain ⟨r36_0,r36_1,r36_2,⟨r36_3,r36_4,r36_5,r36_6⟩,r36_7,r36_8,r36_9⟩:=r36
               refine oV (hΦ.x9 g38) ?_
               refine A8 (oC rfl rfl (H8 rfl ?_))
               obtain ⟨l38,g39,h⟩:=j5 h
               refine oP Z7 g39 ?_
               refine A8 (oC rfl rfl (oC rfl rfl ?_))
               refine Y0 ?_
               refine ⟨rfl,?_⟩
               exact ⟨_,_,rfl,ih (_,_) _ h⟩
              ·refine oW (hΦ.x9 g40) ?_
               refine ⟨rfl,rfl,_,_,rfl,?_⟩
               cases h
               exact ⟨_,rfl,_,_,rfl,rfl⟩
             ·refine M4 ?_
              cases h
              exact ⟨_,rfl,rfl⟩
            ·subst hx
             obtain ⟨b8h,l548⟩:=z43
             refine o6 (oA 1 rfl ?_)
             rcases w9 h with ⟨at41,g41,h⟩ | ⟨⟨at42,at43⟩,g42,h⟩
             ·refine oV (u7 g41) ?_
              refine A8 ?_
              cases h
              exact ⟨_,rfl,rfl⟩
             ·refine oW (u7 g42) ?_
              cases h
              exact ⟨_,rfl,_,_,rfl,rfl⟩
            ·subst hz
             rcases res with ⟨_ | _ | _ | _,_,_⟩ <;> first | exact absurd rfl hn | exact hr.elim | (cases h; exact ⟨_,rfl,hr⟩)
           ·refine oW (hΦ.x9 g44) ?_
            refine ⟨rfl,rfl,_,_,rfl,?_⟩
            cases h
            exact ⟨_,rfl,_,_,rfl,rfl⟩
         ·refine eSG (oA 1 rfl ?_)
          obtain ⟨⟨r46,at47⟩,g45,h⟩:=j5 h
          refine oV (F6 g45) ?_
          refine oB 1 rfl ?_
          refine eI rfl h (fun h=>?_) fun h=>?_
          ·refine eSG (oA 1 rfl ?_)
           rcases w9 h with ⟨⟨r48,at49⟩,g47,h⟩ | ⟨⟨e53,at54⟩,g50,h⟩
           ·obtain ⟨r48_0,r48_1,r48_2,⟨r48_3,r48_4,r48_5,r48_6⟩,r48_7,r48_8,r48_9⟩:=r48
            refine oV (hΦ.x9 g47) ?_
            refine oB 2 rfl (eSG (oA 1 rfl ?_))
            rcases w9 h with ⟨at50,g48,h⟩ | ⟨⟨at51,at52⟩,g49,h⟩
            ·refine oV (u7 g48) ?_
             refine A8 (eSG (oB 2 rfl ?_))
             cases h
             exact o5 ⟨_,rfl,_,_,_,rfl,rfl,rfl⟩
            ·refine oW (u7 g49) ?_
             cases h
             exact ⟨_,rfl,_,_,rfl,rfl⟩
           ·refine oW (hΦ.x9 g50) ?_
            cases h
            exact ⟨_,rfl,_,_,rfl,rfl⟩
          ·refine eSG (oA 1 rfl ?_)
           obtain ⟨r55,g51,h⟩:=j5 h
           refine oV (I5 g51) ?_
           refine oB 1 rfl ?_
           refine eI rfl h (fun h=>?_) fun h=>?_
           ·refine eSG (oA 1 rfl ?_)
            rcases w9 h with ⟨⟨r56,at57⟩,g53,h⟩ | ⟨⟨e58,at59⟩,g54,h⟩
            ·obtain ⟨r56_0,r56_1,r56_2,⟨r56_3,r56_4,r56_5,r56_6⟩,r56_7,r56_8,r56_9⟩:=r56
             refine oV (hΦ.a0m g53) ?_
             refine oB 1 rfl ?_
             cases h
             exact o5 ⟨_,rfl,_,_,_,rfl,rfl,rfl⟩
            ·refine oW (hΦ.a0m g54) ?_
             cases h
             exact ⟨_,rfl,_,_,rfl,rfl⟩
           ·refine eSG (oA 1 rfl ?_)
            rcases w9 h with ⟨⟨r60,at61⟩,g55,h⟩ | ⟨⟨at77,at78⟩,g68,h⟩
            ·obtain ⟨r60_0,r60_1,r60_2,r60_3⟩:=r60
             refine oV (a6u g55) ?_
             refine oB 2 rfl (p8 (eSG (oA 1 rfl ?_)))
             obtain ⟨r62,g56,h⟩:=j5 h
             refine oV (I5 g56) ?_
             refine A8 ?_
             refine eI rfl h (fun h=>?_) fun h=>?_
             ·refine eSG (oA 1 rfl ?_)
              rcases w9 h with ⟨⟨r63,at64⟩,g58,h⟩ | ⟨⟨e65,at66⟩,g59,h⟩
              ·refine oV (hΦ.K7 g58) ?_
               refine oB 4 rfl ?_
               refine M4 ?_
               cases h
               exact ⟨_,rfl,rfl⟩
              ·refine oW (hΦ.K7 g59) ?_
               cases h
               exact ⟨_,rfl,_,_,rfl,rfl⟩
             ·refine o8 (eSG (oA 1 rfl ?_))
              rcases w9 h with ⟨at67,g60,h⟩ | ⟨⟨at75,at76⟩,g67,h⟩
              ·refine oV (u7 g60) ?_
               refine A8 (eSG (oA 1 rfl ?_))
               rcases w9 h with ⟨r68,g61,h⟩ | ⟨at74,g66,h⟩
               ·refine oV (H7 g61) ?_
                refine oB 4 rfl (eSG (oA 1 rfl ?_))
                obtain ⟨r69,g62,h⟩:=j5 h
                refine oV (I5 g62) ?_
                refine A8 ?_
                refine eI rfl h (fun h=>?_) fun h=>?_
                ·refine o6 (oA 1 rfl ?_)
                 rcases w9 h with ⟨⟨r70,at71⟩,g64,h⟩ | ⟨⟨e72,at73⟩,g65,h⟩
                 ·refine oV (hΦ.K7 g64) ?_
                  refine oB 4 rfl ?_
                  cases h
                  exact ⟨_,rfl,rfl⟩
                 ·refine oW (hΦ.K7 g65) ?_
                  cases h
                  exact ⟨_,rfl,_,_,rfl,rfl⟩
                ·refine o8 ?_
                 cases h
                 exact ⟨_,rfl,rfl⟩
               ·refine oW (H7 g66) ?_
                cases h
                exact ⟨_,rfl,_,_,rfl,rfl⟩
              ·refine oW (u7 g67) ?_
               cases h
               exact ⟨_,rfl,_,_,rfl,rfl⟩
            ·refine oW (a6u g68) ?_
             cases h
             exact ⟨_,rfl,_,_,rfl,rfl⟩
 ·subst hx
  obtain ⟨a8S,op533,s534,n535,c0N,c0t,n538,c0o,l540⟩:=z69
  refine eSG (oB 2 rfl ?_)
  cases h
  exact o5 ⟨_,_,_,rfl,rfl,rfl⟩
 ·subst hz
  rcases res with ⟨_ | _ | _ | _,_,_⟩ <;> first | exact absurd rfl hn | exact hr.elim | (cases h; exact hr)
theorem a9T (n:Nat) {Φ:j3} (hΦ:Φ.Ok) {j4:List Tok} {at2:Int} {l5:Int} {r:Rs (List Nod × Int) (o7 × Int)} (h:a2o n Φ j4 at2 l5 = some r) :
  E env (.call 224 [.ptr 0 0]) (hP q9 j4 at2 l5) = some (a2Z j4 at2 l5 r):=by
 unfold a2o at h
 refine F4 rfl Tryz.func224 rfl rfl ?_
 refine eSG (oB 1 rfl (eSG (oB 1 rfl (eSG (oA 1 rfl ?_)))))
 rcases w9 h with ⟨at4,g1,h⟩ | ⟨⟨at25,at26⟩,g23,h⟩
 ·refine oV (u7 g1) ?_
  refine A8 (p8 (eSG (oA 1 rfl ?_)))
  obtain ⟨⟨r5,at6⟩,g2,h⟩:=j5 h
  refine oV (F6 g2) ?_
  refine A8 ?_
  refine eI rfl h (fun h=>?_) fun h=>?_
  ·refine eSG (oB 1 rfl ?_)
   cases h
   exact o5 ⟨_,_,_,rfl,rfl,rfl⟩
  ·refine o8 ?_
   obtain ⟨y4,g5,h⟩:=O4 h
   refine Q6 (KR:=fun r=>a2s env 224 1 Tryz.f224.results.toList (a2Z j4 at2 l5 r)) y4 (fun z22=>[(0,.ptr 0 0),(3,.st 1 A9 z22.1)]) (fun z22=>[(0,.row [.sl q9 j4,.i z22.2,.i l5]),(1,.tip (tpe 10 (List.length z22.1)) (List.length z22.1))]) rfl ?_ (fun z22 hx=>?_) (fun r res hz hr hn=>?_)
   ·replace h:=g5
    clear g5
    refine C9 ?_
    refine P7 rfl ?_
    revert y4
    refine X8 (fun m (x:List Nod × Int)=>a0U n Φ l5 j4 m x.1 x.2) (fun x=>[(0,.ptr 0 0),(3,.st 1 A9 x.1)]) (fun x=>[(0,.row [.sl q9 j4,.i x.2,.i l5]),(1,.tip (tpe 10 (List.length x.1)) (List.length x.1))]) _ (fun _=>rfl) (fun m5 x y ih h=>?_) n (([]:List Nod),at6)
    obtain ⟨l504,b0J⟩:=x
    rw [a0U] at h
    refine C9 ?_
    refine eSG (oA 1 rfl ?_)
    obtain ⟨at7,g6,h⟩:=j5 h
    refine oV (H6 g6) ?_
    refine oB 2 rfl ?_
    obtain ⟨y7,g8,h⟩:=a3W h
    refine Q6 (KR:=fun r=>a2s env 224 1 Tryz.f224.results.toList (a2Z j4 at2 l5 r)) y7 (fun z19=>[(0,.ptr 0 0),(3,.st 1 A9 z19.1)]) (fun z19=>[(0,.row [.sl q9 j4,.i z19.2,.i l5]),(1,.tip (tpe 10 (List.length z19.1)) (List.length z19.1))]) rfl ?_ (fun z19 hx=>?_) (fun r res hz hr hn=>?_)
    ·replace h:=g8
     clear g8
     refine eSG (oA 1 rfl ?_)
     obtain ⟨⟨r8,at9⟩,g9,h⟩:=j5 h
     refine oV (F6 g9) ?_
     refine A8 ?_
     refine eI rfl h (fun h=>?_) fun h=>?_
     ·refine eSG (oA 1 rfl ?_)
      rcases w9 h with ⟨⟨r10,at11⟩,g11,h⟩ | ⟨⟨at13,at14⟩,g13,h⟩
      ·obtain ⟨r10_0,r10_1,r10_2,⟨r10_3,r10_4,r10_5,r10_6⟩,r10_7,r10_8,r10_9⟩:=r10
       refine oV (a5R g11) ?_
       refine oB 3 rfl (o6 (oA 3 rfl ?_))
       obtain ⟨l12,g12,h⟩:=j5 h
       refine oP Z7 g12 ?_
       refine oB 1 rfl ?_
       cases h
       exact ⟨_,rfl,rfl⟩
      ·refine oW (a5R g13) ?_
       cases h
       exact ⟨_,rfl,_,_,rfl,rfl⟩
     ·refine o6 (oA 2 rfl ?_)
      rcases w9 h with ⟨⟨r15,at16⟩,g14,h⟩ | ⟨⟨e18,at19⟩,g16,h⟩
      ·obtain ⟨r15_0,r15_1,r15_2,⟨r15_3,r15_4,r15_5,r15_6⟩,r15_7,r15_8,r15_9⟩:=r15
       refine oV (hΦ.x9 g14) ?_
       refine oA 1 rfl ?_
       obtain ⟨l17,g15,h⟩:=j5 h
       refine oP Z7 g15 ?_
       refine oB 1 rfl ?_
       cases h
       exact ⟨_,rfl,rfl⟩
      ·refine oW (hΦ.x9 g16) ?_
       cases h
       exact ⟨_,rfl,_,_,rfl,rfl⟩
    ·subst hx
     obtain ⟨l527,b48⟩:=z19
     refine eSG (oA 1 rfl ?_)
     obtain ⟨⟨r20,at21⟩,g17,h⟩:=j5 h
     refine oV (F6 g17) ?_
     refine oB 1 rfl ?_
     refine eI rfl h (fun h=>?_) fun h=>?_
     ·refine M4 ?_
      cases h
      exact ⟨_,rfl,rfl⟩
     ·refine o8 ?_
      exact ⟨_,_,rfl,ih (_,_) _ h⟩
    ·subst hz
     rcases res with ⟨_ | _ | _ | _,_,_⟩ <;> first | exact absurd rfl hn | exact hr.elim | (cases h; exact ⟨_,rfl,hr⟩)
   ·subst hx
    obtain ⟨b4e,a5k⟩:=z22
    refine eSG (oA 1 rfl ?_)
    rcases w9 h with ⟨at22,g20,h⟩ | ⟨⟨at23,at24⟩,g21,h⟩
    ·refine oV (u7 g20) ?_
     refine A8 (eSG (oB 2 rfl ?_))
     cases h
     exact o5 ⟨_,_,_,rfl,rfl,rfl⟩
    ·refine oW (u7 g21) ?_
     cases h
     exact ⟨_,_,rfl,rfl⟩
   ·subst hz
    rcases res with ⟨_ | _ | _ | _,_,_⟩ <;> first | exact absurd rfl hn | exact hr.elim | (cases h; exact hr)
 ·refine oW (u7 g23) ?_
  cases h
  exact ⟨_,_,rfl,rfl⟩
theorem a8x (n:Nat) {Φ:j3} (hΦ:Φ.Ok) {j4:List Tok} {at2:Int} {l5:Int} {r:Rs (Nod × Int) (o7 × Int)} (h:a1O n Φ j4 at2 l5 = some r) :
  E env (.call 246 [.ptr 0 0]) (hP q9 j4 at2 l5) = some (a5b j4 at2 l5 r):=by
 unfold a1O at h
 refine F4 rfl Tryz.func246 rfl rfl ?_
 refine eSG (oB 1 rfl (eSG (oA 1 rfl ?_)))
 obtain ⟨at4,g1,h⟩:=j5 h
 refine oV (H6 g1) ?_
 refine oB 2 rfl (eSG (oA 1 rfl ?_))
 obtain ⟨at5,g2,h⟩:=j5 h
 refine oV (H6 g2) ?_
 refine oB 2 rfl (eSG (oA 1 rfl ?_))
 rcases w9 h with ⟨r6,g3,h⟩ | ⟨at20,g16,h⟩
 ·refine oV (K9 g3) ?_
  refine oB 3 rfl (eSG (oB 4 rfl ?_))
  refine C9 ?_
  refine P7 rfl ?_
  obtain ⟨yq,hq⟩:∃ y,y = r:=⟨_,rfl⟩
  rw [<- hq] at h ⊢
  clear hq
  revert yq
  refine X8 (fun m (x:Int × List Nod × Str × Int)=>a0V n Φ at4 l5 j4 m x.1 x.2.1 x.2.2.1 x.2.2.2) (fun x=>[(0,.ptr 0 0),(2,.ptr 1 0),(3,.ptr 2 0),(4,.ptr 3 0)]) (fun x=>[(0,.row [.sl q9 j4,.i x.1,.i l5]),(1,.row [.i 0,.str [],.i 0,.i 0,.str [],.i 0,.st 4 l6 ([]:List Typ),.st 5 l6 ([]:List Typ),.st 6 A9 ([]:List Nod),.i 0]),(2,.row [.i 53,.str [],.i 0,.i 0,.str [],.i 0,.sl l6 ([]:List Typ),.st 7 l6 ([]:List Typ),.st 8 A9 x.2.1,.i at4]),(3,.row [.i 52,.str x.2.2.1,.i 0,.i 0,.str [],.i 0,.sl l6 ([]:List Typ),.st 9 l6 ([]:List Typ),.st 10 A9 ([]:List Nod),.i x.2.2.2]),(4,.tip 0 0),(5,.tip 0 0),(6,.tip 0 0),(7,.tip 0 0),(8,.tip (tpe 10 (List.length x.2.1)) (List.length x.2.1)),(9,.tip 0 0),(10,.tip 0 0)]) _ (fun _=>rfl) (fun m5 x y ih h=>?_) n ((w64 (at2 + 1)),([(⟨52,r6.text,0,(⟨0,[],0,[]⟩:Typ),[],[],at5⟩:Nod)]:List Nod),r6.text,at5)
  obtain ⟨a5k,l508,s509,b49⟩:=x
  rw [a0V] at h
  refine C9 ?_
  refine p8 ?_
  refine O9 [2] rfl ?_
  refine oC rfl rfl (oC rfl rfl (oC rfl rfl (H8 rfl ?_)))
  rcases w9 h with ⟨⟨r7,at8⟩,g4,h⟩ | ⟨⟨e18,at19⟩,g15,h⟩
  ·obtain ⟨r7_0,r7_1,r7_2,⟨r7_3,r7_4,r7_5,r7_6⟩,r7_7,r7_8,r7_9⟩:=r7
   refine oV (hΦ.x9 g4) ?_
   refine A8 (oC rfl rfl (H8 rfl ?_))
   obtain ⟨l9,g5,h⟩:=j5 h
   refine oP Z7 g5 ?_
   refine A8 (oC rfl rfl (oC rfl rfl ?_))
   refine Y0 ?_
   refine ⟨rfl,?_⟩
   refine eSG (oA 1 rfl ?_)
   obtain ⟨at10,g6,h⟩:=j5 h
   refine oV (H6 g6) ?_
   refine oB 1 rfl (p8 (eSG (oA 1 rfl ?_)))
   obtain ⟨r11,g7,h⟩:=j5 h
   refine oV (I5 g7) ?_
   refine A8 ?_
   refine eI rfl h (fun h=>?_) fun h=>?_
   ·refine eSG (oA 1 rfl ?_)
    rcases w9 h with ⟨r12,g9,h⟩ | ⟨at14,g11,h⟩
    ·refine oV (K9 g9) ?_
     refine oB 3 rfl (eSG (oA 4 rfl ?_))
     obtain ⟨l13,g10,h⟩:=j5 h
     refine oP Z7 g10 ?_
     refine oB 2 rfl ?_
     refine M4 ?_
     exact ⟨_,_,rfl,ih (_,_,_,_) _ h⟩
    ·refine oW (K9 g11) ?_
     cases h
     exact ⟨_,_,rfl,rfl⟩
   ·refine o8 (eSG (oA 1 rfl ?_))
    rcases w9 h with ⟨r15,g12,h⟩ | ⟨at17,g14,h⟩
    ·refine oV (K9 g12) ?_
     refine oB 3 rfl (eSG (oA 4 rfl ?_))
     obtain ⟨l16,g13,h⟩:=j5 h
     refine oP Z7 g13 ?_
     refine oB 2 rfl (eSG (oB 2 rfl ?_))
     cases h
     exact o5 ⟨_,_,_,rfl,rfl,rfl⟩
    ·refine oW (K9 g14) ?_
     cases h
     exact ⟨_,_,rfl,rfl⟩
  ·refine oW (hΦ.x9 g15) ?_
   refine ⟨rfl,rfl,_,_,rfl,?_⟩
   cases h
   exact ⟨_,_,rfl,rfl⟩
 ·refine oW (K9 g16) ?_
  cases h
  exact ⟨_,_,rfl,rfl⟩
theorem a7M (n:Nat) {Φ:j3} (hΦ:Φ.Ok) {j4:List Tok} {at2:Int} {l5:Int} {r:Rs (Nod × Int) (o7 × Int)} (h:a1A n Φ j4 at2 l5 = some r) :
  E env (.call 247 [.ptr 0 0]) (hP q9 j4 at2 l5) = some (a4H j4 at2 l5 r):=by
 unfold a1A at h
 refine F4 rfl Tryz.func247 rfl rfl ?_
 refine eSG (oB 1 rfl (eSG (oA 1 rfl ?_)))
 obtain ⟨at4,g1,h⟩:=j5 h
 refine oV (H6 g1) ?_
 refine oA 1 rfl ?_
 obtain ⟨at5,g2,h⟩:=j5 h
 refine oV (H6 g2) ?_
 refine oB 4 rfl (eSG (oA 1 rfl ?_))
 rcases w9 h with ⟨at6,g3,h⟩ | ⟨⟨at23,at24⟩,g13,h⟩
 ·refine oV (u7 g3) ?_
  refine A8 (eSG (oA 1 rfl ?_))
  rcases w9 h with ⟨⟨r7,at8⟩,g4,h⟩ | ⟨⟨at21,at22⟩,g12,h⟩
  ·refine oV (a5w g4) ?_
   refine oB 2 rfl (eSG (oA 1 rfl ?_))
   rcases w9 h with ⟨⟨r9,at10⟩,g5,h⟩ | ⟨⟨at19,at20⟩,g11,h⟩
   ·obtain ⟨r9_0,r9_1,r9_2,r9_3⟩:=r9
    refine oV (a5t g5) ?_
    refine oB 2 rfl (eSG (oA 1 rfl ?_))
    rcases w9 h with ⟨at11,g6,h⟩ | ⟨⟨at17,at18⟩,g10,h⟩
    ·refine oV (T9 g6) ?_
     refine A8 (eSG (oA 1 rfl ?_))
     rcases w9 h with ⟨⟨r12,at13⟩,g7,h⟩ | ⟨⟨e15,at16⟩,g9,h⟩
     ·refine oV (hΦ.O5 g7) ?_
      refine oB 2 rfl (eSG (oA 4 rfl ?_))
      obtain ⟨l14,g8,h⟩:=j5 h
      refine oP Z7 g8 ?_
      refine oB 2 rfl (eSG (oB 2 rfl ?_))
      cases h
      exact o5 ⟨_,_,_,rfl,rfl,rfl⟩
     ·refine oW (hΦ.O5 g9) ?_
      cases h
      exact ⟨_,_,rfl,rfl⟩
    ·refine oW (T9 g10) ?_
     cases h
     exact ⟨_,_,rfl,rfl⟩
   ·refine oW (a5t g11) ?_
    cases h
    exact ⟨_,_,rfl,rfl⟩
  ·refine oW (a5w g12) ?_
   cases h
   exact ⟨_,_,rfl,rfl⟩
 ·refine oW (u7 g13) ?_
  cases h
  exact ⟨_,_,rfl,rfl⟩
theorem a6K (n:Nat) {Φ:j3} (hΦ:Φ.Ok) {j4:List Tok} {at2:Int} {l5:Int} {r:Rs (List Nod × Int) (o7 × Int)} (h:a00 n Φ j4 at2 l5 = some r) :
  E env (.call 212 [.ptr 0 0]) (hP q9 j4 at2 l5) = some (a2D j4 at2 l5 r):=by
 unfold a00 at h
 refine F4 rfl Tryz.func212 rfl rfl ?_
 refine eSG (oB 1 rfl (eSG (oB 1 rfl ?_)))
 obtain ⟨y1,g2,h⟩:=O4 h
 refine Q6 (KR:=fun r=>a2s env 212 1 Tryz.f212.results.toList (a2D j4 at2 l5 r)) y1 (fun z8=>[(3,.st 1 A9 z8.1)]) (fun z8=>[(0,.row [.sl q9 j4,.i z8.2,.i l5]),(1,.tip (tpe 10 (List.length z8.1)) (List.length z8.1))]) rfl ?_ (fun z8 hx=>?_) (fun r res hz hr hn=>?_)
 ·replace h:=g2
  clear g2
  refine C9 ?_
  refine P7 rfl ?_
  revert y1
  refine X8 (fun m (x:List Nod × Int)=>X4 n Φ l5 j4 m x.1 x.2) (fun x=>[(0,.ptr 0 0),(3,.st 1 A9 x.1)]) (fun x=>[(0,.row [.sl q9 j4,.i x.2,.i l5]),(1,.tip (tpe 10 (List.length x.1)) (List.length x.1))]) _ (fun _=>rfl) (fun m2 x y ih h=>?_) n (([]:List Nod),at2)
  obtain ⟨l503,a8f⟩:=x
  rw [X4] at h
  refine p8 (eSG (oA 1 rfl ?_))
  obtain ⟨⟨r4,at5⟩,g3,h⟩:=j5 h
  refine oV (F6 g3) ?_
  refine oB 1 rfl ?_
  refine eI rfl h (fun h=>?_) fun h=>?_
  ·refine o8 ?_
   refine C9 ?_
   refine o6 (oA 2 rfl ?_)
   rcases w9 h with ⟨⟨r6,at7⟩,g5,h⟩ | ⟨⟨e9,at10⟩,g7,h⟩
   ·obtain ⟨r6_0,r6_1,r6_2,⟨r6_3,r6_4,r6_5,r6_6⟩,r6_7,r6_8,r6_9⟩:=r6
    refine oV (hΦ.P5 g5) ?_
    refine oA 1 rfl ?_
    obtain ⟨l8,g6,h⟩:=j5 h
    refine oP Z7 g6 ?_
    refine oB 1 rfl ?_
    exact ⟨_,_,rfl,ih (_,_) _ h⟩
   ·refine oW (hΦ.P5 g7) ?_
    cases h
    exact ⟨_,rfl,_,_,rfl,rfl⟩
  ·refine M4 ?_
   cases h
   exact ⟨_,rfl,rfl⟩
 ·subst hx
  obtain ⟨b2t,a5E⟩:=z8
  refine eSG (oB 2 rfl ?_)
  cases h
  exact o5 ⟨_,_,_,rfl,rfl,rfl⟩
 ·subst hz
  rcases res with ⟨_ | _ | _ | _,_,_⟩ <;> first | exact absurd rfl hn | exact hr.elim | (cases h; exact hr)
theorem a7c (n:Nat) {Φ:j3} (hΦ:Φ.Ok) {j4:List Tok} {at2:Int} {l5:Int} {r:Rs (Nod × Int) (o7 × Int)} (h:J8 n Φ j4 at2 l5 = some r) :
  E env (.call 233 [.ptr 0 0]) (hP q9 j4 at2 l5) = some (a2O j4 at2 l5 r):=by
 unfold J8 at h
 refine F4 rfl Tryz.func233 rfl rfl ?_
 refine eSG (oB 1 rfl (eSG (oB 1 rfl ?_)))
 obtain ⟨y1,g2,h⟩:=j5 h
 refine Y5 [(0,.ptr 0 0),(2,.ptr 1 0),(3,.str y1)] [(0,.row [.sl q9 j4,.i at2,.i l5]),(1,.row [.i 0,.str [],.i 0,.i 0,.str [],.i 0,.st 2 l6 ([]:List Typ),.st 3 l6 ([]:List Typ),.st 4 A9 ([]:List Nod),.i 0]),(2,.tip 0 0),(3,.tip 0 0),(4,.tip 0 0)] rfl ?_ ?_
 ·replace h:=g2
  clear g2
  refine eSG (oA 1 rfl ?_)
  obtain ⟨r4,g3,h⟩:=j5 h
  refine oV (I5 g3) ?_
  refine A8 ?_
  refine eI rfl h (fun h=>?_) fun h=>?_
  ·refine o6 (oA 8 rfl ?_)
   obtain ⟨x5,g5,h⟩:=j5 h
   refine a1u a5x g5 rfl rfl rfl rfl rfl rfl rfl rfl ?_
   refine oB 3 rfl ?_
   cases h
   exact rfl
  ·refine o8 ?_
   cases h
   exact rfl
 ·obtain ⟨a4S,rfl⟩:∃ q,q = y1:=⟨_,rfl⟩
  refine p8 (eSG (oB 1 rfl ?_))
  refine C9 ?_
  obtain ⟨y6,g7,h⟩:=j5 h
  refine Y5 [(0,.ptr 0 0),(2,.ptr 1 0),(23,.str a4S),(24,.bool y6)] [(0,.row [.sl q9 j4,.i at2,.i l5]),(1,.row [.i 0,.str [],.i 0,.i 0,.str [],.i 0,.st 2 l6 ([]:List Typ),.st 3 l6 ([]:List Typ),.st 4 A9 ([]:List Nod),.i 0]),(2,.tip 0 0),(3,.tip 0 0),(4,.tip 0 0)] rfl ?_ ?_
  ·replace h:=g7
   clear g7
   refine eSG (oB 2 rfl ?_)
   refine eI rfl h (fun h=>?_) fun h=>?_
   ·refine o8 ?_
    cases h
    exact rfl
   ·refine o6 (oB 2 rfl ?_)
    cases h
    exact rfl
  ·obtain ⟨x511,rfl⟩:∃ q,q = y6:=⟨_,rfl⟩
   refine eI rfl h (fun h=>?_) fun h=>?_
   ·refine eSG (oA 1 rfl ?_)
    rcases w9 h with ⟨⟨r6,at7⟩,g10,h⟩ | ⟨⟨e8,at9⟩,g11,h⟩
    ·obtain ⟨r6_0,r6_1,r6_2,⟨r6_3,r6_4,r6_5,r6_6⟩,r6_7,r6_8,r6_9⟩:=r6
     refine oV (hΦ.a0O g10) ?_
     refine oB 1 rfl ?_
     cases h
     exact o5 ⟨_,_,_,rfl,rfl,rfl⟩
    ·refine oW (hΦ.a0O g11) ?_
     cases h
     exact ⟨_,_,rfl,rfl⟩
   ·refine eSG (oB 2 rfl ?_)
    refine eI rfl h (fun h=>?_) fun h=>?_
    ·refine eSG (oA 1 rfl ?_)
     rcases w9 h with ⟨⟨r10,at11⟩,g13,h⟩ | ⟨⟨e12,at13⟩,g14,h⟩
     ·obtain ⟨r10_0,r10_1,r10_2,⟨r10_3,r10_4,r10_5,r10_6⟩,r10_7,r10_8,r10_9⟩:=r10
      refine oV (hΦ.M9 g13) ?_
      refine oB 1 rfl ?_
      cases h
      exact o5 ⟨_,_,_,rfl,rfl,rfl⟩
     ·refine oW (hΦ.M9 g14) ?_
      cases h
      exact ⟨_,_,rfl,rfl⟩
    ·refine eSG (oB 2 rfl ?_)
     refine eI rfl h (fun h=>?_) fun h=>?_
     ·refine eSG (oA 1 rfl ?_)
      rcases w9 h with ⟨⟨r14,at15⟩,g16,h⟩ | ⟨⟨e16,at17⟩,g17,h⟩
      ·obtain ⟨r14_0,r14_1,r14_2,⟨r14_3,r14_4,r14_5,r14_6⟩,r14_7,r14_8,r14_9⟩:=r14
       refine oV (hΦ.a0S g16) ?_
       refine oB 1 rfl ?_
       cases h
       exact o5 ⟨_,_,_,rfl,rfl,rfl⟩
      ·refine oW (hΦ.a0S g17) ?_
       cases h
       exact ⟨_,_,rfl,rfl⟩
     ·refine eSG (oB 2 rfl ?_)
      refine eI rfl h (fun h=>?_) fun h=>?_
      ·refine eSG (oA 1 rfl ?_)
       rcases w9 h with ⟨⟨l18,at19,at20⟩,g19,h⟩ | ⟨⟨e21,at22⟩,g20,h⟩
       ·refine oV (hΦ.Y3 g19) ?_
        refine oB 1 rfl ?_
        cases h
        exact o5 ⟨_,_,_,rfl,rfl,rfl⟩
       ·refine oW (hΦ.Y3 g20) ?_
        cases h
        exact ⟨_,_,rfl,rfl⟩
      ·refine eSG (oB 2 rfl ?_)
       refine eI rfl h (fun h=>?_) fun h=>?_
       ·refine eSG (oA 1 rfl ?_)
        obtain ⟨at23,g22,h⟩:=j5 h
        refine oV (H6 g22) ?_
        refine oB 2 rfl (eSG (oB 8 rfl (eSG (oA 1 rfl ?_))))
        rcases w9 h with ⟨⟨r24,at25⟩,g23,h⟩ | ⟨⟨e31,at32⟩,g27,h⟩
        ·obtain ⟨r24_0,r24_1,r24_2,⟨r24_3,r24_4,r24_5,r24_6⟩,r24_7,r24_8,r24_9⟩:=r24
         refine oV (hΦ.x9 g23) ?_
         refine oB 3 rfl (p8 ?_)
         refine O9 [320] rfl ?_
         refine oC rfl rfl (oC rfl rfl (oC rfl rfl (H8 rfl ?_)))
         rcases w9 h with ⟨⟨r26,at27⟩,g24,h⟩ | ⟨⟨e29,at30⟩,g26,h⟩
         ·obtain ⟨r26_0,r26_1,r26_2,⟨r26_3,r26_4,r26_5,r26_6⟩,r26_7,r26_8,r26_9⟩:=r26
          refine oV (hΦ.G5 g24) ?_
          refine A8 (oC rfl rfl (H8 rfl ?_))
          obtain ⟨l28,g25,h⟩:=j5 h
          refine a6T Z7 g25 rfl rfl rfl rfl (.inr rfl) rfl rfl rfl rfl rfl rfl rfl rfl rfl rfl (a5z (a08 rfl) rfl) rfl rfl rfl ?_
          refine A8 (oC rfl rfl (oC rfl rfl ?_))
          refine Y0 ?_
          refine ⟨rfl,?_⟩
          refine eSG (oB 2 rfl ?_)
          cases h
          exact o5 ⟨_,_,_,rfl,rfl,rfl⟩
         ·refine oW (hΦ.G5 g26) ?_
          refine ⟨rfl,rfl,_,_,rfl,?_⟩
          cases h
          exact ⟨_,_,rfl,rfl⟩
        ·refine oW (hΦ.x9 g27) ?_
         cases h
         exact ⟨_,_,rfl,rfl⟩
       ·refine eSG (oB 2 rfl ?_)
        refine eI rfl h (fun h=>?_) fun h=>?_
        ·refine eSG (oA 1 rfl ?_)
         obtain ⟨at33,g29,h⟩:=j5 h
         refine oV (H6 g29) ?_
         refine oB 2 rfl (eSG (oB 8 rfl ?_))
         obtain ⟨y30,g31,h⟩:=O4 h
         refine Q6 (KR:=fun r=>a2s env 233 1 Tryz.f233.results.toList (a2O j4 at2 l5 r)) y30 (fun z38=>[(2,.ptr 1 0),(5,.ptr 2 0)]) (fun z38=>[(0,.row [.sl q9 j4,.i z38.1,.i l5]),(1,.row [.i 0,.str [],.i 0,.i 0,.str [],.i 0,.st 3 l6 ([]:List Typ),.st 4 l6 ([]:List Typ),.st 5 A9 ([]:List Nod),.i 0]),(2,.row [.i 28,.str [],.i 0,.i 0,.str [],.i 0,.sl l6 ([]:List Typ),.st 6 l6 ([]:List Typ),.st 7 A9 z38.2,.i at33]),(3,.tip 0 0),(4,.tip 0 0),(5,.tip 0 0),(6,.tip 0 0),(7,.tip (tpe 10 (List.length z38.2)) (List.length z38.2))]) rfl ?_ (fun z38 hx=>?_) (fun r res hz hr hn=>?_)
         ·replace h:=g31
          clear g31
          refine eSG (oA 1 rfl ?_)
          obtain ⟨⟨r34,at35⟩,g32,h⟩:=j5 h
          refine oV (F6 g32) ?_
          refine oB 1 rfl ?_
          refine eI rfl h (fun h=>?_) fun h=>?_
          ·refine eSG (oA 1 rfl ?_)
           rcases w9 h with ⟨⟨r36,at37⟩,g34,h⟩ | ⟨⟨e41,at42⟩,g37,h⟩
           ·obtain ⟨r36_0,r36_1,r36_2,⟨r36_3,r36_4,r36_5,r36_6⟩,r36_7,r36_8,r36_9⟩:=r36
            refine oV (hΦ.x9 g34) ?_
            refine oB 3 rfl (o6 (oA 1 rfl ?_))
            rcases w9 h with ⟨at38,g35,h⟩ | ⟨⟨at39,at40⟩,g36,h⟩
            ·refine oV (u7 g35) ?_
             refine A8 ?_
             cases h
             exact ⟨_,rfl,rfl⟩
            ·refine oW (u7 g36) ?_
             cases h
             exact ⟨_,rfl,_,_,rfl,rfl⟩
           ·refine oW (hΦ.x9 g37) ?_
            cases h
            exact ⟨_,rfl,_,_,rfl,rfl⟩
          ·refine o8 ?_
           cases h
           exact ⟨_,rfl,rfl⟩
         ·subst hx
          obtain ⟨a3S,l519⟩:=z38
          refine eSG (oB 2 rfl ?_)
          cases h
          exact o5 ⟨_,_,_,rfl,rfl,rfl⟩
         ·subst hz
          rcases res with ⟨_ | _ | _ | _,_,_⟩ <;> first | exact absurd rfl hn | exact hr.elim | (cases h; exact hr)
        ·refine eSG (oB 2 rfl ?_)
         refine eI rfl h (fun h=>?_) fun h=>?_
         ·refine eSG (oA 1 rfl ?_)
          obtain ⟨at43,g40,h⟩:=j5 h
          refine oV (H6 g40) ?_
          refine oB 2 rfl (eSG (oB 8 rfl (eSG (oA 1 rfl ?_))))
          rcases w9 h with ⟨⟨r44,at45⟩,g41,h⟩ | ⟨⟨e49,at50⟩,g44,h⟩
          ·obtain ⟨r44_0,r44_1,r44_2,⟨r44_3,r44_4,r44_5,r44_6⟩,r44_7,r44_8,r44_9⟩:=r44
           refine oV (hΦ.x9 g41) ?_
           refine oB 3 rfl (eSG (oA 1 rfl ?_))
           rcases w9 h with ⟨at46,g42,h⟩ | ⟨⟨at47,at48⟩,g43,h⟩
           ·refine oV (u7 g42) ?_
            refine A8 (eSG (oB 2 rfl ?_))
            cases h
            exact o5 ⟨_,_,_,rfl,rfl,rfl⟩
           ·refine oW (u7 g43) ?_
            cases h
            exact ⟨_,_,rfl,rfl⟩
          ·refine oW (hΦ.x9 g44) ?_
           cases h
           exact ⟨_,_,rfl,rfl⟩
         ·refine eSG (oB 2 rfl ?_)
          refine eI rfl h (fun h=>?_) fun h=>?_
          ·refine eSG (oA 1 rfl ?_)
           rcases w9 h with ⟨⟨l51,at52,at53⟩,g46,h⟩ | ⟨⟨e64,at65⟩,g54,h⟩
           ·refine oV (hΦ.Y3 g46) ?_
            refine oB 2 rfl (eSG (oA 1 rfl ?_))
            rcases w9 h with ⟨at54,g47,h⟩ | ⟨⟨at62,at63⟩,g53,h⟩
            ·refine oV (T9 g47) ?_
             refine A8 (eSG (oA 1 rfl ?_))
             rcases w9 h with ⟨r55,g48,h⟩ | ⟨at61,g52,h⟩
             ·refine oV (H7 g48) ?_
              refine oB 2 rfl (p8 ?_)
              refine O9 [512] rfl ?_
              refine oC rfl rfl (oC rfl rfl (oC rfl rfl (H8 rfl ?_)))
              rcases w9 h with ⟨⟨r56,at57⟩,g49,h⟩ | ⟨⟨e59,at60⟩,g51,h⟩
              ·obtain ⟨r56_0,r56_1,r56_2,⟨r56_3,r56_4,r56_5,r56_6⟩,r56_7,r56_8,r56_9⟩:=r56
               refine oV (hΦ.G5 g49) ?_
               refine A8 (oC rfl rfl (H8 rfl ?_))
               obtain ⟨l58,g50,h⟩:=j5 h
               refine a6T Z7 g50 rfl rfl rfl rfl (.inr rfl) rfl rfl rfl rfl rfl rfl rfl rfl rfl rfl (a5z (a08 rfl) rfl) rfl rfl rfl ?_
               refine A8 (oC rfl rfl (oC rfl rfl ?_))
               refine Y0 ?_
               refine ⟨rfl,?_⟩
               refine eSG (oB 2 rfl ?_)
               cases h
               exact o5 ⟨_,_,_,rfl,rfl,rfl⟩
              ·refine oW (hΦ.G5 g51) ?_
               refine ⟨rfl,rfl,_,_,rfl,?_⟩
               cases h
               exact ⟨_,_,rfl,rfl⟩
             ·refine oW (H7 g52) ?_
              cases h
              exact ⟨_,_,rfl,rfl⟩
            ·refine oW (T9 g53) ?_
             cases h
             exact ⟨_,_,rfl,rfl⟩
           ·refine oW (hΦ.Y3 g54) ?_
            cases h
            exact ⟨_,_,rfl,rfl⟩
          ·refine o8 (eSG (oA 1 rfl ?_))
           rcases w9 h with ⟨⟨r66,at67⟩,g55,h⟩ | ⟨⟨e81,at82⟩,g67,h⟩
           ·obtain ⟨r66_0,r66_1,r66_2,⟨r66_3,r66_4,r66_5,r66_6⟩,r66_7,r66_8,r66_9⟩:=r66
            refine oV (hΦ.x9 g55) ?_
            refine oB 2 rfl (p8 (eSG (oA 1 rfl ?_)))
            obtain ⟨r68,g56,h⟩:=j5 h
            refine oV (I5 g56) ?_
            refine A8 ?_
            refine eI rfl h (fun h=>?_) fun h=>?_
            ·refine p8 (eSG (oA 1 rfl ?_))
             obtain ⟨r69,g58,h⟩:=j5 h
             refine F7 rfl rfl rfl rfl rfl (b4S g58) rfl ?_
             refine oB 1 rfl ?_
             refine eI rfl h (fun h=>?_) fun h=>?_
             ·refine o6 (oA 2 rfl ?_)
              refine oD ?_
              refine oD ?_
              refine oA 1 rfl ?_
              refine b8m rfl rfl rfl ?_
              cases h
              exact ⟨_,_,rfl,rfl⟩
             ·refine o8 (eSG (oB 8 rfl (eSG (oA 4 rfl ?_))))
              refine oD ?_
              refine oB 2 rfl (p8 ?_)
              refine O9 [640] rfl ?_
              refine oC rfl rfl (oC rfl rfl (oC rfl rfl (H8 rfl ?_)))
              rcases w9 h with ⟨⟨r70,at71⟩,g60,h⟩ | ⟨⟨e76,at77⟩,g64,h⟩
              ·obtain ⟨r70_0,r70_1,r70_2,⟨r70_3,r70_4,r70_5,r70_6⟩,r70_7,r70_8,r70_9⟩:=r70
               refine oV (hΦ.x9 g60) ?_
               refine A8 (oC rfl rfl (H8 rfl ?_))
               obtain ⟨l72,g61,h⟩:=j5 h
               refine a6T Z7 g61 rfl rfl rfl rfl (.inr rfl) rfl rfl rfl rfl rfl rfl rfl rfl rfl rfl (a5z (a08 rfl) rfl) rfl rfl rfl ?_
               refine A8 (oC rfl rfl (oC rfl rfl ?_))
               refine Y0 ?_
               refine ⟨rfl,?_⟩
               refine eSG (oA 1 rfl ?_)
               rcases w9 h with ⟨at73,g62,h⟩ | ⟨⟨at74,at75⟩,g63,h⟩
               ·refine oV (u7 g62) ?_
                refine A8 (eSG (oB 2 rfl ?_))
                cases h
                exact o5 ⟨_,_,_,rfl,rfl,rfl⟩
               ·refine oW (u7 g63) ?_
                cases h
                exact ⟨_,_,rfl,rfl⟩
              ·refine oW (hΦ.x9 g64) ?_
               refine ⟨rfl,rfl,_,_,rfl,?_⟩
               cases h
               exact ⟨_,_,rfl,rfl⟩
            ·refine o8 (eSG (oA 1 rfl ?_))
             rcases w9 h with ⟨at78,g65,h⟩ | ⟨⟨at79,at80⟩,g66,h⟩
             ·refine oV (u7 g65) ?_
              refine A8 (eSG (oA 4 rfl ?_))
              refine oD ?_
              refine oB 1 rfl ?_
              cases h
              exact o5 ⟨_,_,_,rfl,rfl,rfl⟩
             ·refine oW (u7 g66) ?_
              cases h
              exact ⟨_,_,rfl,rfl⟩
           ·refine oW (hΦ.x9 g67) ?_
            cases h
            exact ⟨_,_,rfl,rfl⟩
theorem a8T (n:Nat) {Φ:j3} (hΦ:Φ.Ok) {j4:List Tok} {at2:Int} {l5:Int} {r:Rs (Nod × Int) (o7 × Int)} (h:a2f n Φ j4 at2 l5 = some r) :
  E env (.call 152 [.ptr 0 0]) (hP q9 j4 at2 l5) = some (a5N j4 at2 l5 r):=by
 unfold a2f at h
 refine F4 rfl Tryz.func152 rfl rfl ?_
 refine eSG (oB 1 rfl (eSG (oA 1 rfl ?_)))
 obtain ⟨at4,g1,h⟩:=j5 h
 refine oV (H6 g1) ?_
 refine oB 2 rfl (eSG (oA 1 rfl ?_))
 rcases w9 h with ⟨at5,g2,h⟩ | ⟨⟨at10,at11⟩,g5,h⟩
 ·refine oV (u7 g2) ?_
  refine A8 (eSG (oA 1 rfl ?_))
  rcases w9 h with ⟨⟨r6,at7⟩,g3,h⟩ | ⟨⟨e8,at9⟩,g4,h⟩
  ·refine oV (hΦ.O5 g3) ?_
   refine oB 2 rfl (eSG (oB 2 rfl ?_))
   cases h
   exact o5 ⟨_,_,_,rfl,rfl,rfl⟩
  ·refine oW (hΦ.O5 g4) ?_
   cases h
   exact ⟨_,_,rfl,rfl⟩
 ·refine oW (u7 g5) ?_
  cases h
  exact ⟨_,_,rfl,rfl⟩
theorem a8P (n:Nat) {Φ:j3} (hΦ:Φ.Ok) {j4:List Tok} {at2:Int} {l5:Int} {r:Rs (Nod × Int) (o7 × Int)} (h:a19 n Φ j4 at2 l5 = some r) :
  E env (.call 249 [.ptr 0 0]) (hP q9 j4 at2 l5) = some (a2x j4 at2 l5 r):=by
 unfold a19 at h
 refine F4 rfl Tryz.func249 rfl rfl ?_
 refine eSG (oB 1 rfl (eSG (oA 1 rfl ?_)))
 obtain ⟨at4,g1,h⟩:=j5 h
 refine oV (H6 g1) ?_
 refine oB 2 rfl ?_
 obtain ⟨y2,g3,h⟩:=O4 h
 refine Q6 (KR:=fun r=>a2s env 249 1 Tryz.f249.results.toList (a2x j4 at2 l5 r)) y2 (fun z29=>[(0,.ptr 0 0),(2,.ptr 1 0),(3,.ptr 2 0)]) (fun z29=>[(0,.row [.sl q9 j4,.i z29.1,.i l5]),(1,.row [.i 0,.str [],.i 0,.i 0,.str [],.i 0,.st 3 l6 ([]:List Typ),.st 4 l6 ([]:List Typ),.st 5 A9 ([]:List Nod),.i 0]),(2,.row [.i 21,.str [],.i z29.2,.i 0,.str [],.i 0,.sl l6 ([]:List Typ),.st 6 l6 ([]:List Typ),.st 7 A9 ([]:List Nod),.i at4]),(3,.tip 0 0),(4,.tip 0 0),(5,.tip 0 0),(6,.tip 0 0),(7,.tip 0 0)]) rfl ?_ (fun z29 hx=>?_) (fun r res hz hr hn=>?_)
 ·replace h:=g3
  clear g3
  refine eSG (oA 1 rfl ?_)
  obtain ⟨⟨r5,at6⟩,g4,h⟩:=j5 h
  refine oV (U1 g4) ?_
  refine A8 ?_
  refine eI rfl h (fun h=>?_) fun h=>?_
  ·refine o6 (oB 2 rfl ?_)
   cases h
   exact ⟨_,rfl,rfl⟩
  ·refine o6 (oA 1 rfl ?_)
   rcases w9 h with ⟨at7,g6,h⟩ | ⟨⟨at8,at9⟩,g7,h⟩
   ·refine oV (T9 g6) ?_
    refine A8 ?_
    cases h
    exact ⟨_,rfl,rfl⟩
   ·refine oW (T9 g7) ?_
    cases h
    exact ⟨_,rfl,_,_,rfl,rfl⟩
 ·subst hx
  obtain ⟨a8c,n523⟩:=z29
  refine eSG (oA 1 rfl ?_)
  rcases w9 h with ⟨r10,g8,h⟩ | ⟨at29,g28,h⟩
  ·refine oV (H7 g8) ?_
   refine oB 2 rfl (eSG (oA 1 rfl ?_))
   obtain ⟨⟨r11,at12⟩,g9,h⟩:=j5 h
   refine oV (F6 g9) ?_
   refine oB 1 rfl ?_
   obtain ⟨y10,g11,h⟩:=O4 h
   refine Q6 (KR:=fun r=>a2s env 249 1 Tryz.f249.results.toList (a2x j4 at2 l5 r)) y10 (fun z27=>[(0,.ptr 0 0),(2,.ptr 1 0),(3,.ptr 2 0),(4,.bool r11)]) (fun z27=>[(0,.row [.sl q9 j4,.i z27.1,.i l5]),(1,.row [.i 0,.str [],.i 0,.i 0,.str [],.i 0,.st 3 l6 ([]:List Typ),.st 4 l6 ([]:List Typ),.st 5 A9 ([]:List Nod),.i 0]),(2,.row (c0 21 r10 n523 z27.2.1 z27.2.2.1 z27.2.2.2.1 (.sl l6 z27.2.2.2.2) (.st 6 l6 ([]:List Typ)) (.st 7 A9 ([]:List Nod)) at4)),(3,.tip 0 0),(4,.tip 0 0),(5,.tip 0 0),(6,.tip 0 0),(7,.tip 0 0)]) rfl ?_ (fun z27 hx=>?_) (fun r res hz hr hn=>?_)
   ·replace h:=g11
    clear g11
    refine eSG (oB 1 rfl ?_)
    refine eI rfl h (fun h=>?_) fun h=>?_
    ·refine o6 (oA 1 rfl ?_)
     rcases w9 h with ⟨⟨r13,at14⟩,g13,h⟩ | ⟨⟨at15,at16⟩,g14,h⟩
     ·obtain ⟨r13_0,r13_1,r13_2,r13_3⟩:=r13
      refine oV (a1I g13) ?_
      refine oB 2 rfl ?_
      cases h
      exact ⟨_,rfl,rfl⟩
     ·refine oW (a1I g14) ?_
      cases h
      exact ⟨_,rfl,_,_,rfl,rfl⟩
    ·refine o8 ?_
     cases h
     exact ⟨_,rfl,rfl⟩
   ·subst hx
    obtain ⟨b0B,b4v,b4y,n527,b4N⟩:=z27
    refine p8 ?_
    obtain ⟨y15,g16,h⟩:=j5 h
    refine Y5 [(0,.ptr 0 0),(2,.ptr 1 0),(3,.ptr 2 0),(30,.bool y15.1)] [(0,.row [.sl q9 j4,.i y15.2,.i l5]),(1,.row [.i 0,.str [],.i 0,.i 0,.str [],.i 0,.st 3 l6 ([]:List Typ),.st 4 l6 ([]:List Typ),.st 5 A9 ([]:List Nod),.i 0]),(2,.row (c0 21 r10 n523 b4v b4y n527 (.sl l6 b4N) (.st 6 l6 ([]:List Typ)) (.st 7 A9 ([]:List Nod)) at4)),(3,.tip 0 0),(4,.tip 0 0),(5,.tip 0 0),(6,.tip 0 0),(7,.tip 0 0)] rfl ?_ ?_
    ·replace h:=g16
     clear g16
     refine o6 (oA 4 rfl ?_)
     refine D5 rfl rfl rfl (fun g17=>?_) (fun g17=>?_)
     ·replace h:=U3 h g17
      refine oA 3 rfl ?_
      refine D5 rfl rfl rfl (fun g18=>?_) (fun g18=>?_)
      ·replace h:=U3 h g18
       refine oA 1 rfl ?_
       obtain ⟨⟨r17,at18⟩,g19,h⟩:=j5 h
       refine oV (F6 g19) ?_
       refine oB 1 rfl ?_
       cases h
       exact rfl
      ·replace h:=U4 h g18
       refine oB 3 rfl ?_
       cases h
       exact rfl
     ·replace h:=U4 h g17
      refine oB 6 rfl ?_
      cases h
      exact rfl
    ·obtain ⟨x529,b2H⟩:=y15
     refine eI rfl h (fun h=>?_) fun h=>?_
     ·refine eSG (oB 2 rfl ?_)
      cases h
      exact o5 ⟨_,_,_,rfl,rfl,rfl⟩
     ·refine o8 (eSG (oA 1 rfl ?_))
      rcases w9 h with ⟨at19,g21,h⟩ | ⟨⟨at27,at28⟩,g26,h⟩
      ·refine oV (u7 g21) ?_
       refine A8 (eSG (oA 1 rfl ?_))
       rcases w9 h with ⟨⟨r20,at21⟩,g22,h⟩ | ⟨⟨e25,at26⟩,g25,h⟩
       ·obtain ⟨r20_0,r20_1,r20_2,⟨r20_3,r20_4,r20_5,r20_6⟩,r20_7,r20_8,r20_9⟩:=r20
        refine oV (hΦ.x9 g22) ?_
        refine oB 3 rfl (eSG (oA 1 rfl ?_))
        rcases w9 h with ⟨at22,g23,h⟩ | ⟨⟨at23,at24⟩,g24,h⟩
        ·refine oV (u7 g23) ?_
         refine A8 (eSG (oB 2 rfl ?_))
         cases h
         exact o5 ⟨_,_,_,rfl,rfl,rfl⟩
        ·refine oW (u7 g24) ?_
         cases h
         exact ⟨_,_,rfl,rfl⟩
       ·refine oW (hΦ.x9 g25) ?_
        cases h
        exact ⟨_,_,rfl,rfl⟩
      ·refine oW (u7 g26) ?_
       cases h
       exact ⟨_,_,rfl,rfl⟩
   ·subst hz
    rcases res with ⟨_ | _ | _ | _,_,_⟩ <;> first | exact absurd rfl hn | exact hr.elim | (cases h; exact hr)
  ·refine oW (H7 g28) ?_
   cases h
   exact ⟨_,_,rfl,rfl⟩
 ·subst hz
  rcases res with ⟨_ | _ | _ | _,_,_⟩ <;> first | exact absurd rfl hn | exact hr.elim | (cases h; exact hr)
theorem a6w (n:Nat) {Φ:j3} (hΦ:Φ.Ok) {j4:List Tok} {at2:Int} {l5:Int} {r:Rs (Nod × Int) (o7 × Int)} (h:a0L n Φ j4 at2 l5 = some r) :
  E env (.call 250 [.ptr 0 0]) (hP q9 j4 at2 l5) = some (a1b j4 at2 l5 r):=by
 unfold a0L at h
 refine F4 rfl Tryz.func250 rfl rfl ?_
 refine eSG (oB 1 rfl (eSG (oA 1 rfl ?_)))
 obtain ⟨at4,g1,h⟩:=j5 h
 refine oV (H6 g1) ?_
 refine oB 2 rfl (eSG (oA 1 rfl ?_))
 rcases w9 h with ⟨at5,g2,h⟩ | ⟨⟨at27,at28⟩,g23,h⟩
 ·refine oV (T9 g2) ?_
  refine A8 (eSG (oA 1 rfl ?_))
  rcases w9 h with ⟨⟨r6,at7⟩,g3,h⟩ | ⟨⟨e25,at26⟩,g22,h⟩
  ·obtain ⟨r6_0,r6_1,r6_2,⟨r6_3,r6_4,r6_5,r6_6⟩,r6_7,r6_8,r6_9⟩:=r6
   refine oV (hΦ.x9 g3) ?_
   refine oB 3 rfl (p8 ?_)
   refine O9 [256] rfl ?_
   refine oC rfl rfl (oC rfl rfl (oC rfl rfl (H8 rfl ?_)))
   rcases w9 h with ⟨⟨r8,at9⟩,g4,h⟩ | ⟨⟨e23,at24⟩,g21,h⟩
   ·obtain ⟨r8_0,r8_1,r8_2,⟨r8_3,r8_4,r8_5,r8_6⟩,r8_7,r8_8,r8_9⟩:=r8
    refine oV (hΦ.G5 g4) ?_
    refine A8 (oC rfl rfl (H8 rfl ?_))
    obtain ⟨l10,g5,h⟩:=j5 h
    refine a6T Z7 g5 rfl rfl rfl rfl (.inr rfl) rfl rfl rfl rfl rfl rfl rfl rfl rfl rfl (a5z (a08 rfl) rfl) rfl rfl rfl ?_
    refine A8 (oC rfl rfl (oC rfl rfl ?_))
    refine Y0 ?_
    refine ⟨rfl,?_⟩
    obtain ⟨y6,g7,h⟩:=O4 h
    refine Q6 (KR:=fun r=>a2s env 250 1 Tryz.f250.results.toList (a1b j4 at2 l5 r)) y6 (fun z20=>[(2,.ptr 1 0),(3,.ptr 2 0)]) (fun z20=>[(0,.row [.sl q9 j4,.i z20.1,.i l5]),(1,.row [.i 0,.str [],.i 0,.i 0,.str [],.i 0,.st 3 l6 ([]:List Typ),.st 4 l6 ([]:List Typ),.st 5 A9 ([]:List Nod),.i 0]),(2,.row [.i 24,.str [],.i 0,.i 0,.str [],.i 0,.sl l6 ([]:List Typ),.st 6 l6 ([]:List Typ),.st 7 A9 z20.2,.i at4]),(3,.tip 0 0),(4,.tip 0 0),(5,.tip 0 0),(6,.tip 0 0),(7,.tip (tpe 10 (List.length z20.2)) (List.length z20.2))]) rfl ?_ (fun z20 hx=>?_) (fun r res hz hr hn=>?_)
    ·replace h:=g7
     clear g7
     refine eSG (oA 1 rfl ?_)
     obtain ⟨⟨r11,at12⟩,g8,h⟩:=j5 h
     refine oV (U1 g8) ?_
     refine A8 ?_
     refine eI rfl h (fun h=>?_) fun h=>?_
     ·refine eSG (oB 1 rfl ?_)
      obtain ⟨y10,g11,h⟩:=a3W h
      refine Q6 (KR:=fun r=>a2s env 250 1 Tryz.f250.results.toList (a1b j4 at2 l5 r)) y10 (fun z19=>[(2,.ptr 1 0),(3,.ptr 2 0),(4,.ptr 3 0)]) (fun z19=>[(0,.row [.sl q9 j4,.i z19.1,.i l5]),(1,.row [.i 0,.str [],.i 0,.i 0,.str [],.i 0,.st 4 l6 ([]:List Typ),.st 5 l6 ([]:List Typ),.st 6 A9 ([]:List Nod),.i 0]),(2,.row [.i 24,.str [],.i 0,.i 0,.str [],.i 0,.sl l6 ([]:List Typ),.st 7 l6 ([]:List Typ),.st 8 A9 l10,.i at4]),(3,.row (c0 z19.2.op z19.2.s z19.2.n z19.2.t.kind z19.2.t.name z19.2.t.n (.sl l6 z19.2.t.args) (.sl l6 z19.2.ts) (.sl A9 z19.2.l) z19.2.at_)),(4,.tip 0 0),(5,.tip 0 0),(6,.tip 0 0),(7,.tip 0 0),(8,.tip (tpe 10 (List.length l10)) (List.length l10))]) rfl ?_ (fun z19 hx=>?_) (fun r res hz hr hn=>?_)
      ·replace h:=g11
       clear g11
       refine eSG (oA 1 rfl ?_)
       obtain ⟨r13,g12,h⟩:=j5 h
       refine oV (I5 g12) ?_
       refine A8 ?_
       refine eI rfl h (fun h=>?_) fun h=>?_
       ·refine o6 (oA 1 rfl ?_)
        rcases w9 h with ⟨⟨r14,at15⟩,g14,h⟩ | ⟨⟨e16,at17⟩,g15,h⟩
        ·obtain ⟨r14_0,r14_1,r14_2,⟨r14_3,r14_4,r14_5,r14_6⟩,r14_7,r14_8,r14_9⟩:=r14
         refine oV (hΦ.M9 g14) ?_
         refine oB 1 rfl ?_
         cases h
         exact ⟨_,rfl,rfl⟩
        ·refine oW (hΦ.M9 g15) ?_
         cases h
         exact ⟨_,rfl,_,_,rfl,rfl⟩
       ·refine o6 (oA 1 rfl ?_)
        rcases w9 h with ⟨⟨r18,at19⟩,g16,h⟩ | ⟨⟨e20,at21⟩,g17,h⟩
        ·obtain ⟨r18_0,r18_1,r18_2,⟨r18_3,r18_4,r18_5,r18_6⟩,r18_7,r18_8,r18_9⟩:=r18
         refine oV (hΦ.G5 g16) ?_
         refine oB 1 rfl ?_
         cases h
         exact ⟨_,rfl,rfl⟩
        ·refine oW (hΦ.G5 g17) ?_
         cases h
         exact ⟨_,rfl,_,_,rfl,rfl⟩
      ·subst hx
       obtain ⟨a5c,n512⟩:=z19
       obtain ⟨n512_0,n512_1,n512_2,⟨n512_3,n512_4,n512_5,n512_6⟩,n512_7,n512_8,n512_9⟩:=n512
       refine o6 (oA 4 rfl ?_)
       obtain ⟨l22,g18,h⟩:=j5 h
       refine oP Z7 g18 ?_
       refine oB 2 rfl ?_
       cases h
       exact ⟨_,rfl,rfl⟩
      ·subst hz
       rcases res with ⟨_ | _ | _ | _,_,_⟩ <;> first | exact absurd rfl hn | exact hr.elim | (cases h; exact ⟨_,rfl,hr⟩)
     ·refine o8 ?_
      cases h
      exact ⟨_,rfl,rfl⟩
    ·subst hx
     obtain ⟨b5R,l514⟩:=z20
     refine eSG (oB 2 rfl ?_)
     cases h
     exact o5 ⟨_,_,_,rfl,rfl,rfl⟩
    ·subst hz
     rcases res with ⟨_ | _ | _ | _,_,_⟩ <;> first | exact absurd rfl hn | exact hr.elim | (cases h; exact hr)
   ·refine oW (hΦ.G5 g21) ?_
    refine ⟨rfl,rfl,_,_,rfl,?_⟩
    cases h
    exact ⟨_,_,rfl,rfl⟩
  ·refine oW (hΦ.x9 g22) ?_
   cases h
   exact ⟨_,_,rfl,rfl⟩
 ·refine oW (T9 g23) ?_
  cases h
  exact ⟨_,_,rfl,rfl⟩
theorem a8Z (n:Nat) {Φ:j3} (hΦ:Φ.Ok) {j4:List Tok} {at2:Int} {l5:Int} {r:Rs (Nod × Int) (o7 × Int)} (h:a2g n Φ j4 at2 l5 = some r) :
  E env (.call 251 [.ptr 0 0]) (hP q9 j4 at2 l5) = some (a2A j4 at2 l5 r):=by
 unfold a2g at h
 refine F4 rfl Tryz.func251 rfl rfl ?_
 refine eSG (oB 1 rfl (eSG (oA 1 rfl ?_)))
 obtain ⟨at4,g1,h⟩:=j5 h
 refine oV (H6 g1) ?_
 refine oB 2 rfl (eSG (oA 1 rfl ?_))
 rcases w9 h with ⟨at5,g2,h⟩ | ⟨⟨at38,at39⟩,g32,h⟩
 ·refine oV (T9 g2) ?_
  refine A8 (eSG (oA 1 rfl ?_))
  rcases w9 h with ⟨⟨r6,at7⟩,g3,h⟩ | ⟨⟨e36,at37⟩,g31,h⟩
  ·obtain ⟨r6_0,r6_1,r6_2,⟨r6_3,r6_4,r6_5,r6_6⟩,r6_7,r6_8,r6_9⟩:=r6
   refine oV (hΦ.x9 g3) ?_
   refine oB 3 rfl (eSG (oA 1 rfl ?_))
   rcases w9 h with ⟨at8,g4,h⟩ | ⟨⟨at34,at35⟩,g30,h⟩
   ·refine oV (u7 g4) ?_
    refine A8 ?_
    obtain ⟨y5,g6,h⟩:=O4 h
    refine Q6 (KR:=fun r=>a2s env 251 1 Tryz.f251.results.toList (a2A j4 at2 l5 r)) y5 (fun z29=>[(0,.ptr 0 0),(2,.ptr 1 0),(3,.ptr 2 0)]) (fun z29=>[(0,.row [.sl q9 j4,.i z29.1,.i l5]),(1,.row [.i 0,.str [],.i 0,.i 0,.str [],.i 0,.st 3 l6 ([]:List Typ),.st 4 l6 ([]:List Typ),.st 5 A9 ([]:List Nod),.i 0]),(2,.row [.i 26,.str [],.i 0,.i 0,.str [],.i 0,.sl l6 ([]:List Typ),.st 6 l6 ([]:List Typ),.st 7 A9 z29.2,.i at4]),(3,.tip 0 0),(4,.tip 0 0),(5,.tip 0 0),(6,.tip 0 0),(7,.tip (tpe 10 (List.length z29.2)) (List.length z29.2))]) rfl ?_ (fun z29 hx=>?_) (fun r res hz hr hn=>?_)
    ·replace h:=g6
     clear g6
     refine C9 ?_
     refine P7 rfl ?_
     revert y5
     refine X8 (fun m (x:Int × List Nod)=>a0y n Φ l5 j4 m x.1 x.2) (fun x=>[(0,.ptr 0 0),(2,.ptr 1 0),(3,.ptr 2 0)]) (fun x=>[(0,.row [.sl q9 j4,.i x.1,.i l5]),(1,.row [.i 0,.str [],.i 0,.i 0,.str [],.i 0,.st 3 l6 ([]:List Typ),.st 4 l6 ([]:List Typ),.st 5 A9 ([]:List Nod),.i 0]),(2,.row [.i 26,.str [],.i 0,.i 0,.str [],.i 0,.sl l6 ([]:List Typ),.st 6 l6 ([]:List Typ),.st 7 A9 x.2,.i at4]),(3,.tip 0 0),(4,.tip 0 0),(5,.tip 0 0),(6,.tip 0 0),(7,.tip (tpe 10 (List.length x.2)) (List.length x.2))]) _ (fun _=>rfl) (fun m5 x y ih h=>?_) n (at8,([(Nod.mk r6_0 r6_1 r6_2 (Typ.mk r6_3 r6_4 r6_5 r6_6) r6_7 r6_8 r6_9)]:List Nod))
     obtain ⟨a6P,l510⟩:=x
     rw [a0y] at h
     refine p8 (eSG (oA 1 rfl ?_))
     obtain ⟨r9,g7,h⟩:=j5 h
     refine oV (I5 g7) ?_
     refine A8 ?_
     refine eI rfl h (fun h=>?_) fun h=>?_
     ·refine o8 ?_
      refine C9 ?_
      refine eSG (oA 1 rfl ?_)
      obtain ⟨at10,g9,h⟩:=j5 h
      refine oV (H6 g9) ?_
      refine oB 2 rfl (eSG (oB 8 rfl (eSG (oA 1 rfl ?_))))
      rcases w9 h with ⟨⟨r11,at12⟩,g10,h⟩ | ⟨⟨at19,at20⟩,g15,h⟩
      ·obtain ⟨r11_0,r11_1,r11_2,⟨r11_3,r11_4,r11_5,r11_6⟩,r11_7,r11_8,r11_9⟩:=r11
       refine oV (a4Z g10) ?_
       refine oB 3 rfl (p8 ?_)
       refine O9 [320] rfl ?_
       refine oC rfl rfl (oC rfl rfl (oC rfl rfl (H8 rfl ?_)))
       rcases w9 h with ⟨⟨r13,at14⟩,g11,h⟩ | ⟨⟨e17,at18⟩,g14,h⟩
       ·obtain ⟨r13_0,r13_1,r13_2,⟨r13_3,r13_4,r13_5,r13_6⟩,r13_7,r13_8,r13_9⟩:=r13
        refine oV (hΦ.G5 g11) ?_
        refine A8 (oC rfl rfl (H8 rfl ?_))
        obtain ⟨l15,g12,h⟩:=j5 h
        refine a6T Z7 g12 rfl rfl rfl rfl (.inr rfl) rfl rfl rfl rfl rfl rfl rfl rfl rfl rfl (a5z (a08 rfl) rfl) rfl rfl rfl ?_
        refine A8 (oC rfl rfl (oC rfl rfl ?_))
        refine Y0 ?_
        refine ⟨rfl,?_⟩
        refine o6 (oA 4 rfl ?_)
        obtain ⟨l16,g13,h⟩:=j5 h
        refine oP Z7 g13 ?_
        refine oB 2 rfl ?_
        exact ⟨_,_,rfl,ih (_,_) _ h⟩
       ·refine oW (hΦ.G5 g14) ?_
        refine ⟨rfl,rfl,_,_,rfl,?_⟩
        cases h
        exact ⟨_,rfl,_,_,rfl,rfl⟩
      ·refine oW (a4Z g15) ?_
       cases h
       exact ⟨_,rfl,_,_,rfl,rfl⟩
     ·refine M4 ?_
      cases h
      exact ⟨_,rfl,rfl⟩
    ·subst hx
     obtain ⟨a7l,l520⟩:=z29
     refine eSG (oA 1 rfl ?_)
     obtain ⟨at21,g16,h⟩:=j5 h
     refine oV (H6 g16) ?_
     refine oA 1 rfl ?_
     obtain ⟨at22,g17,h⟩:=j5 h
     refine oV (H6 g17) ?_
     refine oB 4 rfl ?_
     obtain ⟨y18,g19,h⟩:=O4 h
     refine Q6 (KR:=fun r=>a2s env 251 1 Tryz.f251.results.toList (a2A j4 at2 l5 r)) y18 (fun z28=>[(0,.ptr 0 0),(2,.ptr 1 0),(3,.ptr 2 0)]) (fun z28=>[(0,.row [.sl q9 j4,.i z28.1,.i l5]),(1,.row [.i 0,.str [],.i 0,.i 0,.str [],.i 0,.st 3 l6 ([]:List Typ),.st 4 l6 ([]:List Typ),.st 5 A9 ([]:List Nod),.i 0]),(2,.row [.i 26,.str [],.i 0,.i 0,.str [],.i 0,.sl l6 ([]:List Typ),.st 6 l6 ([]:List Typ),.st 7 A9 z28.2,.i at4]),(3,.tip 0 0),(4,.tip 0 0),(5,.tip 0 0),(6,.tip 0 0),(7,.tip (tpe 10 (List.length z28.2)) (List.length z28.2))]) rfl ?_ (fun z28 hx=>?_) (fun r res hz hr hn=>?_)
     ·replace h:=g19
      clear g19
      refine eSG (oA 1 rfl ?_)
      obtain ⟨⟨r23,at24⟩,g20,h⟩:=j5 h
      refine oV (U1 g20) ?_
      refine A8 ?_
      refine eI rfl h (fun h=>?_) fun h=>?_
      ·refine eSG (oB 4 rfl (p8 ?_))
       refine O9 [384] rfl ?_
       refine oC rfl rfl (oC rfl rfl (oC rfl rfl (H8 rfl ?_)))
       rcases w9 h with ⟨⟨r25,at26⟩,g22,h⟩ | ⟨⟨e29,at30⟩,g25,h⟩
       ·obtain ⟨r25_0,r25_1,r25_2,⟨r25_3,r25_4,r25_5,r25_6⟩,r25_7,r25_8,r25_9⟩:=r25
        refine oV (hΦ.G5 g22) ?_
        refine A8 (oC rfl rfl (H8 rfl ?_))
        obtain ⟨l27,g23,h⟩:=j5 h
        refine a6T Z7 g23 rfl rfl rfl rfl (.inr rfl) rfl rfl rfl rfl rfl rfl rfl rfl rfl rfl (a5z (a08 rfl) rfl) rfl rfl rfl ?_
        refine A8 (oC rfl rfl (oC rfl rfl ?_))
        refine Y0 ?_
        refine ⟨rfl,?_⟩
        refine o6 (oA 4 rfl ?_)
        obtain ⟨l28,g24,h⟩:=j5 h
        refine oP Z7 g24 ?_
        refine oB 2 rfl ?_
        cases h
        exact ⟨_,rfl,rfl⟩
       ·refine oW (hΦ.G5 g25) ?_
        refine ⟨rfl,rfl,_,_,rfl,?_⟩
        cases h
        exact ⟨_,rfl,_,_,rfl,rfl⟩
      ·refine o8 ?_
       cases h
       exact ⟨_,rfl,rfl⟩
     ·subst hx
      obtain ⟨a5c,l512⟩:=z28
      refine eSG (oA 1 rfl ?_)
      rcases w9 h with ⟨at31,g26,h⟩ | ⟨⟨at32,at33⟩,g27,h⟩
      ·refine oV (u7 g26) ?_
       refine A8 (eSG (oB 2 rfl ?_))
       cases h
       exact o5 ⟨_,_,_,rfl,rfl,rfl⟩
      ·refine oW (u7 g27) ?_
       cases h
       exact ⟨_,_,rfl,rfl⟩
     ·subst hz
      rcases res with ⟨_ | _ | _ | _,_,_⟩ <;> first | exact absurd rfl hn | exact hr.elim | (cases h; exact hr)
    ·subst hz
     rcases res with ⟨_ | _ | _ | _,_,_⟩ <;> first | exact absurd rfl hn | exact hr.elim | (cases h; exact hr)
   ·refine oW (u7 g30) ?_
    cases h
    exact ⟨_,_,rfl,rfl⟩
  ·refine oW (hΦ.x9 g31) ?_
   cases h
   exact ⟨_,_,rfl,rfl⟩
 ·refine oW (T9 g32) ?_
  cases h
  exact ⟨_,_,rfl,rfl⟩
theorem b0n (n:Nat) {Φ:j3} (hΦ:Φ.Ok) {op1:Int} {E8:List Tok} {at3:Int} {K3:Int} {r:Rs (List Nod × Int × Int) (o7 × Int)} (h:a1d n Φ op1 E8 at3 K3 = some r) :
  E env (.call 252 [.ptr 0 0,.i op1]) (hP q9 E8 at3 K3) = some (a6B op1 E8 at3 K3 r):=by
 unfold a1d at h
 refine F4 rfl Tryz.func252 rfl rfl ?_
 refine eSG (oB 1 rfl (eSG (oA 2 rfl ?_)))
 obtain ⟨at5,g1,h⟩:=j5 h
 refine oV (H6 g1) ?_
 refine oB 2 rfl (eSG (oB 8 rfl (eSG (oA 1 rfl ?_))))
 rcases w9 h with ⟨⟨r6,at7⟩,g2,h⟩ | ⟨⟨e8,at9⟩,g3,h⟩
 ·obtain ⟨r6_0,r6_1,r6_2,⟨r6_3,r6_4,r6_5,r6_6⟩,r6_7,r6_8,r6_9⟩:=r6
  refine oV (hΦ.G5 g2) ?_
  refine oB 3 rfl (eSG (oB 2 rfl ?_))
  cases h
  exact o5 ⟨_,_,_,rfl,rfl,rfl⟩
 ·refine oW (hΦ.G5 g3) ?_
  cases h
  exact ⟨_,_,rfl,rfl⟩
theorem a9r (n:Nat) {Φ:j3} (hΦ:Φ.Ok) {a1e:Nod} {a0r:List K8} {V4:List Tok} {at4:Int} {a2K:Int} {r:Rs (Nod × Int) (o7 × Int)} (h:a4l n Φ a1e a0r V4 at4 a2K = some r) :
  E env (.call 144 [.ptr 0 0,.agg (c0 a1e.op a1e.s a1e.n a1e.t.kind a1e.t.name a1e.t.n (.sl l6 a1e.t.args) (.sl l6 a1e.ts) (.sl A9 a1e.l) a1e.at_),.sl a10 a0r]) (hP q9 V4 at4 a2K) = some (a2F a1e a0r V4 at4 a2K r):=by
 unfold a4l at h
 obtain ⟨first1_0,first1_1,first1_2,⟨first1_3,first1_4,first1_5,first1_6⟩,first1_7,first1_8,first1_9⟩:=a1e
 refine F4 rfl Tryz.func144 rfl rfl ?_
 refine eSG (oB 2 rfl (eSG (oB 3 rfl ?_)))
 obtain ⟨y1,g2,h⟩:=O4 h
 refine Q6 (KR:=fun r=>a2s env 144 1 Tryz.f144.results.toList (a2F (Nod.mk first1_0 first1_1 first1_2 (Typ.mk first1_3 first1_4 first1_5 first1_6) first1_7 first1_8 first1_9) a0r V4 at4 a2K r)) y1 (fun z24=>[(6,.ptr 1 0),(7,.ptr 2 0)]) (fun z24=>[(0,.row [.sl q9 V4,.i z24.1,.i a2K]),(1,.row [.i 0,.str [],.i 0,.i 0,.str [],.i 0,.st 3 l6 ([]:List Typ),.st 4 l6 ([]:List Typ),.st 5 A9 ([]:List Nod),.i 0]),(2,.row (c0 z24.2.op z24.2.s z24.2.n z24.2.t.kind z24.2.t.name z24.2.t.n (.sl l6 z24.2.t.args) (.sl l6 z24.2.ts) (.sl A9 z24.2.l) z24.2.at_)),(3,.tip 0 0),(4,.tip 0 0),(5,.tip 0 0)]) rfl ?_ (fun z24 hx=>?_) (fun r res hz hr hn=>?_)
 ·replace h:=g2
  clear g2
  refine eSG (oB 3 rfl ?_)
  refine C9 ?_
  refine P7 rfl ?_
  revert y1
  refine X8 (fun m (x:Int × Int × Nod)=>O8 n Φ a0r a2K V4 m x.1 x.2.1 x.2.2) (fun x=>[(0,.ptr 0 0),(2,.sl a10 a0r),(6,.ptr 1 0),(7,.ptr 2 0),(14,.i (List.length a0r:Int)),(15,.i x.1)]) (fun x=>[(0,.row [.sl q9 V4,.i x.2.1,.i a2K]),(1,.row [.i 0,.str [],.i 0,.i 0,.str [],.i 0,.st 3 l6 ([]:List Typ),.st 4 l6 ([]:List Typ),.st 5 A9 ([]:List Nod),.i 0]),(2,.row (c0 x.2.2.op x.2.2.s x.2.2.n x.2.2.t.kind x.2.2.t.name x.2.2.t.n (.sl l6 x.2.2.t.args) (.sl l6 x.2.2.ts) (.sl A9 x.2.2.l) x.2.2.at_)),(3,.tip 0 0),(4,.tip 0 0),(5,.tip 0 0)]) _ (fun _=>rfl) (fun m3 x y ih h=>?_) n (0,at4,(Nod.mk first1_0 first1_1 first1_2 (Typ.mk first1_3 first1_4 first1_5 first1_6) first1_7 first1_8 first1_9))
  obtain ⟨x545,b8W,n547⟩:=x
  obtain ⟨n547_0,n547_1,n547_2,⟨n547_3,n547_4,n547_5,n547_6⟩,n547_7,n547_8,n547_9⟩:=n547
  replace h:O8 n Φ a0r a2K V4 (m3 + 1) x545 b8W (Nod.mk n547_0 n547_1 n547_2 (Typ.mk n547_3 n547_4 n547_5 n547_6) n547_7 n547_8 n547_9) = some y:=h
  rw [O8] at h
  refine eSG (oB 1 rfl (p8 ?_))
  refine eI rfl h (fun h=>?_) fun h=>?_
  ·refine o8 ?_
   obtain ⟨y4,g5,h⟩:=a3W h
   refine Q6 (KR:=fun r=>a2s env 144 1 Tryz.f144.results.toList (a2F (Nod.mk first1_0 first1_1 first1_2 (Typ.mk first1_3 first1_4 first1_5 first1_6) first1_7 first1_8 first1_9) a0r V4 at4 a2K r)) y4 (fun z23=>[(0,.ptr 0 0),(2,.sl a10 a0r),(6,.ptr 1 0),(7,.ptr 2 0),(14,.i (List.length a0r:Int)),(15,.i z23.1)]) (fun z23=>[(0,.row [.sl q9 V4,.i z23.2.1,.i a2K]),(1,.row [.i 0,.str [],.i 0,.i 0,.str [],.i 0,.st 3 l6 ([]:List Typ),.st 4 l6 ([]:List Typ),.st 5 A9 ([]:List Nod),.i 0]),(2,.row (c0 z23.2.2.op z23.2.2.s z23.2.2.n z23.2.2.t.kind z23.2.2.t.name z23.2.2.t.n (.sl l6 z23.2.2.t.args) (.sl l6 z23.2.2.ts) (.sl A9 z23.2.2.l) z23.2.2.at_)),(3,.tip 0 0),(4,.tip 0 0),(5,.tip 0 0)]) rfl ?_ (fun z23 hx=>?_) (fun r res hz hr hn=>?_)
   ·replace h:=g5
    clear g5
    refine C9 ?_
    refine eSG (oB 2 rfl (eSG (oB 6 rfl ?_)))
    refine C9 ?_
    refine P7 rfl ?_
    revert y4
    refine X8 (fun m (x:Int × Int × Int × Nod)=>X7 n Φ a2K a0r V4 m x.1 x.2.1 x.2.2.1 x.2.2.2) (fun x=>[(0,.ptr 0 0),(2,.sl a10 a0r),(6,.ptr 1 0),(7,.ptr 2 0),(9,.i x.1),(14,.i (List.length a0r:Int)),(15,.i x.2.1)]) (fun x=>[(0,.row [.sl q9 V4,.i x.2.2.1,.i a2K]),(1,.row [.i 0,.str [],.i 0,.i 0,.str [],.i 0,.st 3 l6 ([]:List Typ),.st 4 l6 ([]:List Typ),.st 5 A9 ([]:List Nod),.i 0]),(2,.row (c0 x.2.2.2.op x.2.2.2.s x.2.2.2.n x.2.2.2.t.kind x.2.2.2.t.name x.2.2.2.t.n (.sl l6 x.2.2.2.t.args) (.sl l6 x.2.2.2.ts) (.sl A9 x.2.2.2.l) x.2.2.2.at_)),(3,.tip 0 0),(4,.tip 0 0),(5,.tip 0 0)]) _ (fun _=>rfl) (fun m6 x y ih h=>?_) n ((w64 ((w64 ((List.length a0r:Int) - 1)) - x545)),x545,b8W,(Nod.mk n547_0 n547_1 n547_2 (Typ.mk n547_3 n547_4 n547_5 n547_6) n547_7 n547_8 n547_9))
    obtain ⟨k553,x554,b2q,n556⟩:=x
    obtain ⟨n556_0,n556_1,n556_2,⟨n556_3,n556_4,n556_5,n556_6⟩,n556_7,n556_8,n556_9⟩:=n556
    replace h:X7 n Φ a2K a0r V4 (m6 + 1) k553 x554 b2q (Nod.mk n556_0 n556_1 n556_2 (Typ.mk n556_3 n556_4 n556_5 n556_6) n556_7 n556_8 n556_9) = some y:=h
    rw [X7] at h
    refine p8 ?_
    obtain ⟨y6,g7,h⟩:=j5 h
    refine Y5 [(0,.ptr 0 0),(2,.sl a10 a0r),(6,.ptr 1 0),(7,.ptr 2 0),(9,.i k553),(14,.i (List.length a0r:Int)),(15,.i x554),(65,.bool y6)] [(0,.row [.sl q9 V4,.i b2q,.i a2K]),(1,.row [.i 0,.str [],.i 0,.i 0,.str [],.i 0,.st 3 l6 ([]:List Typ),.st 4 l6 ([]:List Typ),.st 5 A9 ([]:List Nod),.i 0]),(2,.row (c0 n556_0 n556_1 n556_2 n556_3 n556_4 n556_5 (.sl l6 n556_6) (.sl l6 n556_7) (.sl A9 n556_8) n556_9)),(3,.tip 0 0),(4,.tip 0 0),(5,.tip 0 0)] rfl ?_ ?_
    ·replace h:=g7
     clear g7
     refine o6 (oA 11 rfl ?_)
     refine D5 rfl rfl rfl (fun g8=>?_) (fun g8=>?_)
     ·replace h:=U3 h g8
      refine oA 8 rfl ?_
      obtain ⟨x6,g9,h⟩:=j5 h
      refine a1u a5x g9 rfl rfl rfl rfl rfl rfl rfl rfl ?_
      refine oA 5 rfl ?_
      refine D5 rfl rfl rfl (fun g10=>?_) (fun g10=>?_)
      ·replace h:=U3 h g10
       refine oA 2 rfl ?_
       obtain ⟨x7,g11,h⟩:=j5 h
       refine a1u a7x g11 rfl rfl rfl rfl rfl rfl rfl rfl ?_
       refine oA 10 rfl ?_
       obtain ⟨x8,g12,h⟩:=j5 h
       refine a1u a5x g12 rfl rfl rfl rfl rfl rfl rfl rfl ?_
       refine oA 2 rfl ?_
       obtain ⟨r9,g13,h⟩:=j5 h
       refine F7 rfl rfl rfl rfl rfl (a5O g13) rfl ?_
       refine oB 1 rfl ?_
       cases h
       exact rfl
      ·replace h:=U4 h g10
       refine oB 18 rfl ?_
       cases h
       exact rfl
     ·replace h:=U4 h g8
      refine oB 32 rfl ?_
      cases h
      exact rfl
    ·obtain ⟨x557,rfl⟩:∃ q,q = y6:=⟨_,rfl⟩
     refine eI rfl h (fun h=>?_) fun h=>?_
     ·refine o8 ?_
      refine C9 ?_
      refine p8 ?_
      refine O9 [2,0,0] rfl ?_
      refine oC rfl rfl (oC rfl rfl (oC rfl rfl (oC rfl rfl (oC rfl rfl (oC rfl rfl (oC rfl rfl (oC rfl rfl (H8 rfl ?_))))))))
      obtain ⟨x10,g15,h⟩:=j5 h
      refine a1u a5x g15 rfl rfl rfl rfl rfl rfl rfl rfl ?_
      refine A8 (oC rfl rfl (oC rfl rfl (oC rfl rfl (oC rfl rfl (H8 rfl ?_)))))
      refine oD ?_
      refine A8 (oC rfl rfl (oC rfl rfl ?_))
      refine Y0 ?_
      refine ⟨rfl,?_⟩
      refine eSG (oB 8 rfl (p8 ?_))
      refine O9 [] rfl ?_
      refine oC rfl rfl (oC rfl rfl (oC rfl rfl (oC rfl rfl (oC rfl rfl (H8 rfl ?_)))))
      obtain ⟨l11,g16,h⟩:=j5 h
      refine os_subL a7x g16 rfl rfl rfl rfl rfl rfl rfl rfl rfl rfl rfl rfl ?_
      refine A8 (H8 rfl ?_)
      rcases w9 h with ⟨⟨r12,at13⟩,g17,h⟩ | ⟨⟨e19,at20⟩,g22,h⟩
      ·obtain ⟨r12_0,r12_1,r12_2,⟨r12_3,r12_4,r12_5,r12_6⟩,r12_7,r12_8,r12_9⟩:=r12
       refine oV (hΦ.I4 g17) ?_
       refine A8 (H8 rfl ?_)
       rcases w9 h with ⟨⟨r14,at15⟩,g18,h⟩ | ⟨⟨e17,at18⟩,g21,h⟩
       ·obtain ⟨r14_0,r14_1,r14_2,⟨r14_3,r14_4,r14_5,r14_6⟩,r14_7,r14_8,r14_9⟩:=r14
        refine oV (hΦ.P6 g18) ?_
        refine A8 (oC rfl rfl (oC rfl rfl ?_))
        refine Y0 ?_
        refine ⟨rfl,?_⟩
        refine eSG (oB 5 rfl (eSG (oB 2 rfl (eSG (oA 2 rfl ?_)))))
        obtain ⟨x16,g19,h⟩:=j5 h
        refine a1u a7x g19 rfl rfl rfl rfl rfl rfl rfl rfl ?_
        refine oB 2 rfl ?_
        refine eI rfl h (fun h=>?_) fun h=>?_
        ·refine M4 ?_
         cases h
         exact ⟨_,rfl,rfl⟩
        ·refine o8 ?_
         exact ⟨_,_,rfl,ih (_,_,_,_) _ h⟩
       ·refine oW (hΦ.P6 g21) ?_
        refine ⟨rfl,rfl,_,_,rfl,?_⟩
        cases h
        exact ⟨_,rfl,_,_,rfl,rfl⟩
      ·refine oW (hΦ.I4 g22) ?_
       refine ⟨rfl,rfl,_,_,rfl,?_⟩
       cases h
       exact ⟨_,rfl,_,_,rfl,rfl⟩
     ·refine M4 ?_
      cases h
      exact ⟨_,rfl,rfl⟩
   ·subst hx
    obtain ⟨b5M,at563,n564⟩:=z23
    obtain ⟨n564_0,n564_1,n564_2,⟨n564_3,n564_4,n564_5,n564_6⟩,n564_7,n564_8,n564_9⟩:=n564
    refine o6 (oB 2 rfl ?_)
    exact ⟨_,_,rfl,ih (_,_,_) _ h⟩
   ·subst hz
    rcases res with ⟨_ | _ | _ | _,_,_⟩ <;> first | exact absurd rfl hn | exact hr.elim | (cases h; exact ⟨_,rfl,hr⟩)
  ·refine M4 ?_
   cases h
   exact ⟨_,rfl,rfl⟩
 ·subst hx
  obtain ⟨at568,n569⟩:=z24
  obtain ⟨n569_0,n569_1,n569_2,⟨n569_3,n569_4,n569_5,n569_6⟩,n569_7,n569_8,n569_9⟩:=n569
  refine eSG (oB 2 rfl ?_)
  cases h
  exact o5 ⟨_,_,_,rfl,rfl,rfl⟩
 ·subst hz
  rcases res with ⟨_ | _ | _ | _,_,_⟩ <;> first | exact absurd rfl hn | exact hr.elim | (cases h; exact hr)
theorem j3.ok:∀ n,(j3.fs n).Ok
 | 0=>⟨(fun h=>by cases h),(fun h=>by cases h),(fun h=>by cases h),(fun h=>by cases h),(fun h=>by cases h),(fun h=>by cases h),(fun h=>by cases h),(fun h=>by cases h),(fun h=>by cases h),(fun h=>by cases h),(fun h=>by cases h),(fun h=>by cases h),(fun h=>by cases h),(fun h=>by cases h),(fun h=>by cases h)⟩
 | n + 1=>⟨(fun h=>a9P n (j3.ok n) h),(fun h=>a9a n (j3.ok n) h),(fun h=>a7H n (j3.ok n) h),(fun h=>a9H n (j3.ok n) h),(fun h=>a9T n (j3.ok n) h),(fun h=>a8x n (j3.ok n) h),(fun h=>a7M n (j3.ok n) h),(fun h=>a6K n (j3.ok n) h),(fun h=>a7c n (j3.ok n) h),(fun h=>a8T n (j3.ok n) h),(fun h=>a8P n (j3.ok n) h),(fun h=>a6w n (j3.ok n) h),(fun h=>a8Z n (j3.ok n) h),(fun h=>b0n n (j3.ok n) h),(fun h=>a9r n (j3.ok n) h)⟩
theorem a6r {n:Nat} {j4:List Tok} {at2:Int} {l5:Int} {r:Rs (Nod × Int) (o7 × Int)} (h:x9 n j4 at2 l5 = some r) :
  E env (.call 76 [.ptr 0 0]) (hP q9 j4 at2 l5) = some (a3Y j4 at2 l5 r):=(j3.ok n).x9 h
end Go.Proofs.YtmonfppdiehlpaaGreatDoor
namespace Go.Proofs.YtmonfppdiehlpaaGreatDoor
open Go Go.Vm
theorem a88 {n:Nat} {j4:List Tok} {at2:Int} {l5:Int} {op4:Int} {s5:Str} {n6:Int} {a9o:Int} {a9g:Str} {n9:Int} {a4d:List Typ} {ts11:List Typ} {l12:List Nod} {at13:Int} {a5I:List Typ} {a8o:List Typ} {a8l:List Nod} {r:Rs (Int × Nod) (o7 × Int × Nod)} (h:a6h n j4 at2 l5 op4 s5 n6 a9o a9g n9 a4d ts11 l12 at13 a5I a8o a8l = some r) :
  E env (.call 75 [.ptr 1 0,.ptr 2 0]) [(0,.row [.sl q9 j4,.i at2,.i l5]),(1,.row [.ptr 0 0]),(2,.row (c0 op4 s5 n6 a9o a9g n9 (.sl l6 a4d) (.sl l6 ts11) (.sl A9 l12) at13)),(3,.tip (tpe 4 (List.length a5I)) (List.length a5I)),(4,.tip (tpe 4 (List.length a8o)) (List.length a8o)),(5,.tip (tpe 10 (List.length a8l)) (List.length a8l))] = some (b2p j4 at2 l5 op4 s5 n6 a9o a9g n9 a4d ts11 l12 at13 a5I a8o a8l r):=by
 unfold a6h at h
 refine F4 rfl Tryz.func75 rfl rfl ?_
 refine eSG (oA 1 rfl ?_)
 rcases w9 h with ⟨⟨r17,at18⟩,g1,h⟩ | ⟨⟨e20,at21⟩,g4,h⟩
 ·obtain ⟨r17_0,r17_1,r17_2,⟨r17_3,r17_4,r17_5,r17_6⟩,r17_7,r17_8,r17_9⟩:=r17
  refine oV (a6r g1) ?_
  refine oB 1 rfl (eSG (oB 10 rfl ?_))
  refine eI rfl h (fun h=>?_) fun h=>?_
  ·refine o6 (oA 1 rfl ?_)
   rcases w9 h with ⟨x,_,_⟩ | ⟨at19,g3,h⟩
   ·exact x.elim
   ·refine oW (a3f g3) ?_
    cases h
    exact ⟨_,_,rfl,rfl⟩
  ·refine o8 ?_
   cases h
   exact ⟨_,_,_,rfl,rfl,rfl⟩
 ·refine oW (a6r g4) ?_
  cases h
  exact ⟨_,_,rfl,rfl⟩
theorem a9s {n:Nat} {j4:List Tok} {at2:Int} {l5:Int} {op4:Int} {s5:Str} {n6:Int} {a9o:Int} {a9g:Str} {n9:Int} {a4d:List Typ} {ts11:List Typ} {l12:List Nod} {at13:Int} {r:Flt × Int × Nod} (h:a3g n j4 at2 l5 op4 s5 n6 a9o a9g n9 a4d ts11 l12 at13 = some r) :
  E env (.call 41 [.ptr 0 0,.func (.func 75) [] [.ptr 1 0,.ptr 2 0]]) [(0,.row [.sl q9 j4,.i at2,.i l5]),(1,.row [.ptr 0 0]),(2,.row (c0 op4 s5 n6 a9o a9g n9 (.st 3 l6 a4d) (.st 4 l6 ts11) (.st 5 A9 l12) at13)),(3,.tip (tpe 4 (List.length a4d)) (List.length a4d)),(4,.tip (tpe 4 (List.length ts11)) (List.length ts11)),(5,.tip (tpe 10 (List.length l12)) (List.length l12))] = some (a8t j4 at2 l5 op4 s5 n6 a9o a9g n9 a4d ts11 l12 at13 r):=by
 unfold a3g at h
 rcases w9 h with ⟨⟨at14,n15⟩,g1,h⟩ | ⟨⟨e16,at17,n18⟩,g2,h⟩
 ·obtain ⟨n15_0,n15_1,n15_2,⟨n15_3,n15_4,n15_5,n15_6⟩,n15_7,n15_8,n15_9⟩:=n15
  cases h
  exact E_via rfl rfl (a88 g1) rfl
 ·obtain ⟨n18_0,n18_1,n18_2,⟨n18_3,n18_4,n18_5,n18_6⟩,n18_7,n18_8,n18_9⟩:=n18
  cases h
  exact E_via rfl rfl (a88 g2) rfl
theorem b6d {n:Nat} {a1K:Str} {r:Nod × Flt} (h:a7w n a1K = some r) :
  E env (.call 35 [.str a1K]) [] = some (b42 a1K r):=by
 unfold a7w at h
 refine F4 rfl Tryz.func35 rfl rfl ?_
 refine eSG (oB 2 rfl (eSG (oA 1 rfl ?_)))
 obtain ⟨⟨r2,V4⟩,g1,h⟩:=j5 h
 refine oV (b5f g1) ?_
 refine oB 7 rfl (p8 (eSG (oA 1 rfl ?_)))
 refine oD ?_
 refine oB 1 rfl ?_
 refine eI rfl h (fun h=>?_) fun h=>?_
 ·refine p8 ?_
  refine O9 [384] rfl ?_
  refine H8 rfl ?_
  refine oD ?_
  refine A8 (oC rfl rfl (oC rfl rfl (oC rfl rfl ?_)))
  refine Y0 ?_
  refine ⟨rfl,?_⟩
  cases h
  exact o5 ⟨_,_,_,rfl,rfl,rfl⟩
 ·refine o8 (eSG (oB 1 rfl (eSG (oA 2 rfl ?_))))
  obtain ⟨⟨r4,at5,n6⟩,g3,h⟩:=j5 h
  obtain ⟨n6_0,n6_1,n6_2,⟨n6_3,n6_4,n6_5,n6_6⟩,n6_7,n6_8,n6_9⟩:=n6
  refine oV (a9s g3) ?_
  refine oB 1 rfl (p8 (eSG (oA 1 rfl ?_)))
  refine oD ?_
  refine oB 1 rfl ?_
  refine eI rfl h (fun h=>?_) fun h=>?_
  ·refine p8 ?_
   refine O9 [384] rfl ?_
   refine H8 rfl ?_
   refine oD ?_
   refine A8 (oC rfl rfl (oC rfl rfl (oC rfl rfl ?_)))
   refine Y0 ?_
   refine ⟨rfl,?_⟩
   cases h
   exact o5 ⟨_,_,_,rfl,rfl,rfl⟩
  ·refine o8 (eSG (oA 1 rfl ?_))
   obtain ⟨⟨r7,r8⟩,g5,h⟩:=j5 h
   refine F7 rfl rfl rfl rfl rfl (b6b g5) rfl ?_
   refine oB 5 rfl (p8 (eSG (oB 2 rfl ?_)))
   refine eI rfl h (fun h=>?_) fun h=>?_
   ·refine eSG ?_
    refine oD ?_
    refine oD ?_
    refine oB 2 rfl ?_
    cases h
    exact o5 ⟨_,_,_,rfl,rfl,rfl⟩
   ·refine o8 (p8 (eSG (oB 2 rfl ?_)))
    refine eI rfl h (fun h=>?_) fun h=>?_
    ·refine eSG ?_
     refine oD ?_
     refine oD ?_
     refine oB 2 rfl ?_
     cases h
     exact o5 ⟨_,_,_,rfl,rfl,rfl⟩
    ·refine o8 (eSG (oA 1 rfl ?_))
     refine oD ?_
     refine oB 2 rfl ?_
     cases h
     exact o5 ⟨_,_,_,rfl,rfl,rfl⟩
theorem b1D {n:Nat} {a1K:Str} {r:Bool} (h:a4y n a1K = some r) :
  E env (.call 8 [.str a1K]) [] = some (b0K a1K r):=by
 unfold a4y at h
 refine F4 rfl Tryz.func8 rfl rfl ?_
 refine eSG (oB 1 rfl (p8 (eSG (oA 1 rfl ?_))))
 obtain ⟨_,g1,h⟩:=j5 h
 refine F7 rfl rfl rfl rfl rfl (b6h g1) rfl ?_
 refine A8 ?_
 refine eI rfl h (fun h=>?_) fun h=>?_
 ·refine eSG ?_
  obtain ⟨bb2,g3,h⟩:=j5 h
  refine F7 rfl rfl rfl rfl rfl (b60 g3) rfl ?_
  refine oB 1 rfl ?_
  cases h
  exact o5 ⟨_,_,_,rfl,rfl,rfl⟩
 ·refine o8 (eSG (oA 1 rfl ?_))
  obtain ⟨⟨r3,r4⟩,g4,h⟩:=j5 h
  obtain ⟨r3_0,r3_1,r3_2,⟨r3_3,r3_4,r3_5,r3_6⟩,r3_7,r3_8,r3_9⟩:=r3
  refine F7 rfl rfl rfl rfl rfl (b6d g4) rfl ?_
  refine oB 7 rfl (eSG (oA 1 rfl ?_))
  obtain ⟨⟨r5,r6⟩,g5,h⟩:=j5 h
  obtain ⟨r5_0,r5_1,r5_2,⟨r5_3,r5_4,r5_5,r5_6⟩,r5_7,r5_8,r5_9⟩:=r5
  refine F7 rfl rfl rfl rfl rfl (b6c g5) rfl ?_
  refine oB 7 rfl (eSG (oA 4 rfl ?_))
  refine D5 rfl rfl rfl (fun g6=>?_) (fun g6=>?_)
  ·replace h:=U3 h g6
   refine oA 2 rfl ?_
   obtain ⟨r7,g7,h⟩:=j5 h
   refine F7 rfl rfl rfl rfl rfl (b4o g7) rfl ?_
   refine oA 2 rfl ?_
   refine D5 rfl rfl rfl (fun g8=>?_) (fun g8=>?_)
   ·replace h:=U3 h g8
    obtain ⟨bb8,g9,h⟩:=j5 h
    refine F7 rfl rfl rfl rfl rfl (b60 g9) rfl ?_
    refine oB 2 rfl ?_
    cases h
    exact o5 ⟨_,_,_,rfl,rfl,rfl⟩
   ·replace h:=U4 h g8
    refine oB 3 rfl ?_
    cases h
    exact o5 ⟨_,_,_,rfl,rfl,rfl⟩
  ·replace h:=U4 h g6
   refine oB 8 rfl ?_
   cases h
   exact o5 ⟨_,_,_,rfl,rfl,rfl⟩
end Go.Proofs.YtmonfppdiehlpaaGreatDoor
namespace Go.Proofs.YtmonfppdiehlpaaGreatDoor
open Go Go.Vm
theorem exprs_E (s:Str):E env (.call 8 [.str s]) [] = some (.ret (.bool true) []):=b1D (b9u (n:=90000) (Nat.le_refl _) s)
end Go.Proofs.YtmonfppdiehlpaaGreatDoor
