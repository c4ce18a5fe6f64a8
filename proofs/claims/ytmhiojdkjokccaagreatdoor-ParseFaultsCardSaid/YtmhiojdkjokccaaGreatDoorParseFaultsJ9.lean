/- What the functions under ParseFaults compute, step by step, as functions in Lean: texts that were built one by one, joined. -/
import Derived.Test.YtmhiojdkjokccaaGreatDoorParseFaultsJ8
set_option maxRecDepth 100000
set_option maxHeartbeats 20000000
set_option linter.unusedSimpArgs false
set_option linter.unusedVariables false
set_option linter.unusedSectionVars false
namespace Go.Proofs.YtmhiojdkjokccaaGreatDoor
open Go Go.Vm
structure j5.Ok (Φ:j5):Prop where
 F8:∀ {d9:List Tok} {at2:Int} {j6:Int} {r:Rs (Nod × Int) (o5 × Int)},Φ.F8 d9 at2 j6 = some r -> E env (.call 70 [.ptr 0 0]) (hP A7 d9 at2 j6) = some (a3q d9 at2 j6 r)
 M7:∀ {d9:List Tok} {at2:Int} {j6:Int} {r:Rs (List Nod × Int) (o5 × Int)},Φ.M7 d9 at2 j6 = some r -> E env (.call 90 [.ptr 0 0]) (hP A7 d9 at2 j6) = some (a2c d9 at2 j6 r)
 O0:∀ {d9:List Tok} {at2:Int} {j6:Int} {r:Rs (Nod × Int) (o5 × Int)},Φ.O0 d9 at2 j6 = some r -> E env (.call 95 [.ptr 0 0]) (hP A7 d9 at2 j6) = some (a2n d9 at2 j6 r)
 a0z:∀ {d9:List Tok} {at2:Int} {j6:Int} {r:Rs (Nod × Int) (o5 × Int)},Φ.a0z d9 at2 j6 = some r -> E env (.call 100 [.ptr 0 0]) (hP A7 d9 at2 j6) = some (a18 d9 at2 j6 r)
 x9:∀ {d9:List Tok} {at2:Int} {j6:Int} {r:Rs (Nod × Int) (o5 × Int)},Φ.x9 d9 at2 j6 = some r -> E env (.call 104 [.ptr 0 0]) (hP A7 d9 at2 j6) = some (a5o d9 at2 j6 r)
 I6:∀ {d9:List Tok} {at2:Int} {j6:Int} {r:Rs (Nod × Int) (o5 × Int)},Φ.I6 d9 at2 j6 = some r -> E env (.call 113 [.ptr 0 0]) (hP A7 d9 at2 j6) = some (a3r d9 at2 j6 r)
 Y9:∀ {d9:List Tok} {at2:Int} {j6:Int} {r:Rs (Nod × Int) (o5 × Int)},Φ.Y9 d9 at2 j6 = some r -> E env (.call 122 [.ptr 0 0]) (hP A7 d9 at2 j6) = some (a1H d9 at2 j6 r)
 a0r:∀ {d9:List Tok} {at2:Int} {j6:Int} {r:Rs (Nod × Int) (o5 × Int)},Φ.a0r d9 at2 j6 = some r -> E env (.call 127 [.ptr 0 0]) (hP A7 d9 at2 j6) = some (a2s d9 at2 j6 r)
 K3:∀ {d9:List Tok} {at2:Int} {j6:Int} {r:Rs (List Nod × Int) (o5 × Int)},Φ.K3 d9 at2 j6 = some r -> E env (.call 128 [.ptr 0 0]) (hP A7 d9 at2 j6) = some (a2r d9 at2 j6 r)
 a0k:∀ {d9:List Tok} {at2:Int} {j6:Int} {r:Rs (Nod × Int) (o5 × Int)},Φ.a0k d9 at2 j6 = some r -> E env (.call 135 [.ptr 0 0]) (hP A7 d9 at2 j6) = some (a4O d9 at2 j6 r)
 Y7:∀ {d9:List Tok} {at2:Int} {j6:Int} {r:Rs (Nod × Int) (o5 × Int)},Φ.Y7 d9 at2 j6 = some r -> E env (.call 136 [.ptr 0 0]) (hP A7 d9 at2 j6) = some (a4z d9 at2 j6 r)
 O3:∀ {a0Z:Nod} {a0f:List K5} {O1:List Tok} {at4:Int} {a2h:Int} {r:Rs (Nod × Int) (o5 × Int)},Φ.O3 a0Z a0f O1 at4 a2h = some r -> E env (.call 115 [.ptr 0 0,.agg (c0 a0Z.op a0Z.s a0Z.n a0Z.t.kind a0Z.t.name a0Z.t.n (.sl p8 a0Z.t.args) (.sl p8 a0Z.ts) (.sl F6 a0Z.l) a0Z.at_),.sl a1E a0f]) (hP A7 O1 at4 a2h) = some (a14 a0Z a0f O1 at4 a2h r)
 M0:∀ {d9:List Tok} {at2:Int} {j6:Int} {r:Rs (Nod × Int) (o5 × Int)},Φ.M0 d9 at2 j6 = some r -> E env (.call 101 [.ptr 0 0]) (hP A7 d9 at2 j6) = some (a0X d9 at2 j6 r)
 a0A:∀ {d9:List Tok} {at2:Int} {j6:Int} {r:Rs (Nod × Int) (o5 × Int)},Φ.a0A d9 at2 j6 = some r -> E env (.call 102 [.ptr 0 0]) (hP A7 d9 at2 j6) = some (a19 d9 at2 j6 r)
 V3:∀ {op1:Int} {C9:List Tok} {at3:Int} {I8:Int} {r:Rs (List Nod × Int × Int) (o5 × Int)},Φ.V3 op1 C9 at3 I8 = some r -> E env (.call 103 [.ptr 0 0,.i op1]) (hP A7 C9 at3 I8) = some (a5L op1 C9 at3 I8 r)
theorem a8i (n:Nat) {Φ:j5} (hΦ:Φ.Ok) {d9:List Tok} {at2:Int} {j6:Int} {r:Rs (Nod × Int) (o5 × Int)} (h:a1K n Φ d9 at2 j6 = some r) :
  E env (.call 70 [.ptr 0 0]) (hP A7 d9 at2 j6) = some (a3q d9 at2 j6 r):=by
 unfold a1K at h
 refine J8 rfl Tryz.func70 rfl rfl ?_
 refine eSG (oB 1 rfl (eSG (oA 1 rfl ?_)))
 obtain ⟨at4,g1,h⟩:=o8 h
 refine oV (D8 g1) ?_
 refine oB 2 rfl (eSG (oA 1 rfl ?_))
 rcases o7 h with ⟨at5,g2,h⟩ | ⟨⟨at10,at11⟩,g5,h⟩
 ·refine oV (o6 g2) ?_
  refine C8 (eSG (oA 1 rfl ?_))
  rcases o7 h with ⟨⟨r6,at7⟩,g3,h⟩ | ⟨⟨e8,at9⟩,g4,h⟩
  ·refine oV (hΦ.M7 g3) ?_
   refine oB 2 rfl (eSG (oB 2 rfl ?_))
   cases h
   exact A9 ⟨_,_,_,rfl,rfl,rfl⟩
  ·refine oW (hΦ.M7 g4) ?_
   cases h
   exact ⟨_,_,rfl,rfl⟩
 ·refine oW (o6 g5) ?_
  cases h
  exact ⟨_,_,rfl,rfl⟩
theorem a5T (n:Nat) {Φ:j5} (hΦ:Φ.Ok) {d9:List Tok} {at2:Int} {j6:Int} {r:Rs (List Nod × Int) (o5 × Int)} (h:a0I n Φ d9 at2 j6 = some r) :
  E env (.call 90 [.ptr 0 0]) (hP A7 d9 at2 j6) = some (a2c d9 at2 j6 r):=by
 unfold a0I at h
 refine J8 rfl Tryz.func90 rfl rfl ?_
 refine eSG (oB 1 rfl (eSG (oB 1 rfl ?_)))
 obtain ⟨y1,g2,h⟩:=P6 h
 refine Q5 (KR:=fun r=>a2w env 90 1 Tryz.f90.results.toList (a2c d9 at2 j6 r)) y1 (fun z8=>[(3,.st 1 F6 z8.1)]) (fun z8=>[(0,.row [.sl A7 d9,.i z8.2,.i j6]),(1,.tip (tpe 10 (List.length z8.1)) (List.length z8.1))]) rfl ?_ (fun z8 hx=>?_) (fun r res hz hr hn=>?_)
 ·replace h:=g2
  clear g2
  refine F7 ?_
  refine U0 rfl ?_
  revert y1
  refine Z7 (fun m (x:List Nod × Int)=>T9 n Φ j6 d9 m x.1 x.2) (fun x=>[(0,.ptr 0 0),(3,.st 1 F6 x.1)]) (fun x=>[(0,.row [.sl A7 d9,.i x.2,.i j6]),(1,.tip (tpe 10 (List.length x.1)) (List.length x.1))]) _ (fun _=>rfl) (fun m2 x y ih h=>?_) n (([]:List Nod),at2)
  obtain ⟨l503,a5D⟩:=x
  rw [T9] at h
  refine G7 (eSG (oA 1 rfl ?_))
  obtain ⟨⟨r4,at5⟩,g3,h⟩:=o8 h
  refine oV (D7 g3) ?_
  refine oB 1 rfl ?_
  refine eI rfl h (fun h=>?_) fun h=>?_
  ·refine D9 ?_
   refine F7 ?_
   refine q9 (oA 2 rfl ?_)
   rcases o7 h with ⟨⟨r6,at7⟩,g5,h⟩ | ⟨⟨e9,at10⟩,g7,h⟩
   ·obtain ⟨r6_0,r6_1,r6_2,⟨r6_3,r6_4,r6_5,r6_6⟩,r6_7,r6_8,r6_9⟩:=r6
    refine oV (hΦ.O0 g5) ?_
    refine oA 1 rfl ?_
    obtain ⟨l8,g6,h⟩:=o8 h
    refine oP Q6 g6 ?_
    refine oB 1 rfl ?_
    exact ⟨_,_,rfl,ih (_,_) _ h⟩
   ·refine oW (hΦ.O0 g7) ?_
    cases h
    exact ⟨_,rfl,_,_,rfl,rfl⟩
  ·refine R5 ?_
   cases h
   exact ⟨_,rfl,rfl⟩
 ·subst hx
  obtain ⟨b3V,a5E⟩:=z8
  refine eSG (oB 2 rfl ?_)
  cases h
  exact A9 ⟨_,_,_,rfl,rfl,rfl⟩
 ·subst hz
  rcases res with ⟨_ | _ | _ | _,_,_⟩ <;> first | exact absurd rfl hn | exact hr.elim | (cases h; exact hr)
theorem a6l (n:Nat) {Φ:j5} (hΦ:Φ.Ok) {d9:List Tok} {at2:Int} {j6:Int} {r:Rs (Nod × Int) (o5 × Int)} (h:J7 n Φ d9 at2 j6 = some r) :
  E env (.call 95 [.ptr 0 0]) (hP A7 d9 at2 j6) = some (a2n d9 at2 j6 r):=by
 unfold J7 at h
 refine J8 rfl Tryz.func95 rfl rfl ?_
 refine eSG (oB 1 rfl (eSG (oB 1 rfl ?_)))
 obtain ⟨y1,g2,h⟩:=o8 h
 refine a10 [(0,.ptr 0 0),(2,.ptr 1 0),(3,.str y1)] [(0,.row [.sl A7 d9,.i at2,.i j6]),(1,.row [.i 0,.str [],.i 0,.i 0,.str [],.i 0,.st 2 p8 ([]:List Typ),.st 3 p8 ([]:List Typ),.st 4 F6 ([]:List Nod),.i 0]),(2,.tip 0 0),(3,.tip 0 0),(4,.tip 0 0)] rfl ?_ ?_
 ·replace h:=g2
  clear g2
  refine eSG (oA 1 rfl ?_)
  obtain ⟨r4,g3,h⟩:=o8 h
  refine oV (F5 g3) ?_
  refine C8 ?_
  refine eI rfl h (fun h=>?_) fun h=>?_
  ·refine q9 (oA 8 rfl ?_)
   obtain ⟨x5,g5,h⟩:=o8 h
   refine a1J a8F g5 rfl rfl rfl rfl rfl rfl rfl rfl ?_
   refine oB 3 rfl ?_
   cases h
   exact rfl
  ·refine D9 ?_
   cases h
   exact rfl
 ·obtain ⟨a4G,rfl⟩:∃ q,q = y1:=⟨_,rfl⟩
  refine G7 (eSG (oB 1 rfl ?_))
  refine F7 ?_
  obtain ⟨y6,g7,h⟩:=o8 h
  refine a10 [(0,.ptr 0 0),(2,.ptr 1 0),(23,.str a4G),(24,.bool y6)] [(0,.row [.sl A7 d9,.i at2,.i j6]),(1,.row [.i 0,.str [],.i 0,.i 0,.str [],.i 0,.st 2 p8 ([]:List Typ),.st 3 p8 ([]:List Typ),.st 4 F6 ([]:List Nod),.i 0]),(2,.tip 0 0),(3,.tip 0 0),(4,.tip 0 0)] rfl ?_ ?_
  ·replace h:=g7
   clear g7
   refine eSG (oB 2 rfl ?_)
   refine eI rfl h (fun h=>?_) fun h=>?_
   ·refine D9 ?_
    cases h
    exact rfl
   ·refine q9 (oB 2 rfl ?_)
    cases h
    exact rfl
  ·obtain ⟨x509,rfl⟩:∃ q,q = y6:=⟨_,rfl⟩
   refine eI rfl h (fun h=>?_) fun h=>?_
   ·refine eSG (oA 1 rfl ?_)
    rcases o7 h with ⟨⟨r6,at7⟩,g10,h⟩ | ⟨⟨e8,at9⟩,g11,h⟩
    ·obtain ⟨r6_0,r6_1,r6_2,⟨r6_3,r6_4,r6_5,r6_6⟩,r6_7,r6_8,r6_9⟩:=r6
     refine oV (hΦ.a0z g10) ?_
     refine oB 1 rfl ?_
     cases h
     exact A9 ⟨_,_,_,rfl,rfl,rfl⟩
    ·refine oW (hΦ.a0z g11) ?_
     cases h
     exact ⟨_,_,rfl,rfl⟩
   ·refine eSG (oB 2 rfl ?_)
    refine eI rfl h (fun h=>?_) fun h=>?_
    ·refine eSG (oA 1 rfl ?_)
     rcases o7 h with ⟨⟨r10,at11⟩,g13,h⟩ | ⟨⟨e12,at13⟩,g14,h⟩
     ·obtain ⟨r10_0,r10_1,r10_2,⟨r10_3,r10_4,r10_5,r10_6⟩,r10_7,r10_8,r10_9⟩:=r10
      refine oV (hΦ.M0 g13) ?_
      refine oB 1 rfl ?_
      cases h
      exact A9 ⟨_,_,_,rfl,rfl,rfl⟩
     ·refine oW (hΦ.M0 g14) ?_
      cases h
      exact ⟨_,_,rfl,rfl⟩
    ·refine eSG (oB 2 rfl ?_)
     refine eI rfl h (fun h=>?_) fun h=>?_
     ·refine eSG (oA 1 rfl ?_)
      rcases o7 h with ⟨⟨r14,at15⟩,g16,h⟩ | ⟨⟨e16,at17⟩,g17,h⟩
      ·obtain ⟨r14_0,r14_1,r14_2,⟨r14_3,r14_4,r14_5,r14_6⟩,r14_7,r14_8,r14_9⟩:=r14
       refine oV (hΦ.a0A g16) ?_
       refine oB 1 rfl ?_
       cases h
       exact A9 ⟨_,_,_,rfl,rfl,rfl⟩
      ·refine oW (hΦ.a0A g17) ?_
       cases h
       exact ⟨_,_,rfl,rfl⟩
     ·refine eSG (oB 2 rfl ?_)
      refine eI rfl h (fun h=>?_) fun h=>?_
      ·refine eSG (oA 1 rfl ?_)
       rcases o7 h with ⟨⟨l18,at19,at20⟩,g19,h⟩ | ⟨⟨e21,at22⟩,g20,h⟩
       ·refine oV (hΦ.V3 g19) ?_
        refine oB 1 rfl ?_
        cases h
        exact A9 ⟨_,_,_,rfl,rfl,rfl⟩
       ·refine oW (hΦ.V3 g20) ?_
        cases h
        exact ⟨_,_,rfl,rfl⟩
      ·refine eSG (oB 2 rfl ?_)
       refine eI rfl h (fun h=>?_) fun h=>?_
       ·refine eSG (oA 1 rfl ?_)
        obtain ⟨at23,g22,h⟩:=o8 h
        refine oV (D8 g22) ?_
        refine oB 2 rfl (eSG (oB 8 rfl (eSG (oA 1 rfl ?_))))
        rcases o7 h with ⟨⟨r24,at25⟩,g23,h⟩ | ⟨⟨e31,at32⟩,g27,h⟩
        ·obtain ⟨r24_0,r24_1,r24_2,⟨r24_3,r24_4,r24_5,r24_6⟩,r24_7,r24_8,r24_9⟩:=r24
         refine oV (hΦ.x9 g23) ?_
         refine oB 3 rfl (G7 ?_)
         refine O6 [320] rfl ?_
         refine oC rfl rfl (oC rfl rfl (oC rfl rfl (J4 rfl ?_)))
         rcases o7 h with ⟨⟨r26,at27⟩,g24,h⟩ | ⟨⟨e29,at30⟩,g26,h⟩
         ·obtain ⟨r26_0,r26_1,r26_2,⟨r26_3,r26_4,r26_5,r26_6⟩,r26_7,r26_8,r26_9⟩:=r26
          refine oV (hΦ.F8 g24) ?_
          refine C8 (oC rfl rfl (J4 rfl ?_))
          obtain ⟨l28,g25,h⟩:=o8 h
          refine a6h Q6 g25 rfl rfl rfl rfl (.inr rfl) rfl rfl rfl rfl rfl rfl rfl rfl rfl rfl (a6z (a1I rfl) rfl) rfl rfl rfl ?_
          refine C8 (oC rfl rfl (oC rfl rfl ?_))
          refine a0g ?_
          refine ⟨rfl,?_⟩
          refine eSG (oB 2 rfl ?_)
          cases h
          exact A9 ⟨_,_,_,rfl,rfl,rfl⟩
         ·refine oW (hΦ.F8 g26) ?_
          refine ⟨rfl,rfl,_,_,rfl,?_⟩
          cases h
          exact ⟨_,_,rfl,rfl⟩
        ·refine oW (hΦ.x9 g27) ?_
         cases h
         exact ⟨_,_,rfl,rfl⟩
       ·refine eSG (oB 2 rfl ?_)
        refine eI rfl h (fun h=>?_) fun h=>?_
        ·refine eSG (oA 1 rfl ?_)
         obtain ⟨at33,g29,h⟩:=o8 h
         refine oV (D8 g29) ?_
         refine oB 2 rfl (eSG (oB 8 rfl ?_))
         obtain ⟨y30,g31,h⟩:=P6 h
         refine Q5 (KR:=fun r=>a2w env 95 1 Tryz.f95.results.toList (a2n d9 at2 j6 r)) y30 (fun z38=>[(2,.ptr 1 0),(5,.ptr 2 0)]) (fun z38=>[(0,.row [.sl A7 d9,.i z38.1,.i j6]),(1,.row [.i 0,.str [],.i 0,.i 0,.str [],.i 0,.st 3 p8 ([]:List Typ),.st 4 p8 ([]:List Typ),.st 5 F6 ([]:List Nod),.i 0]),(2,.row [.i 28,.str [],.i 0,.i 0,.str [],.i 0,.sl p8 ([]:List Typ),.st 6 p8 ([]:List Typ),.st 7 F6 z38.2,.i at33]),(3,.tip 0 0),(4,.tip 0 0),(5,.tip 0 0),(6,.tip 0 0),(7,.tip (tpe 10 (List.length z38.2)) (List.length z38.2))]) rfl ?_ (fun z38 hx=>?_) (fun r res hz hr hn=>?_)
         ·replace h:=g31
          clear g31
          refine eSG (oA 1 rfl ?_)
          obtain ⟨⟨r34,at35⟩,g32,h⟩:=o8 h
          refine oV (D7 g32) ?_
          refine oB 1 rfl ?_
          refine eI rfl h (fun h=>?_) fun h=>?_
          ·refine eSG (oA 1 rfl ?_)
           rcases o7 h with ⟨⟨r36,at37⟩,g34,h⟩ | ⟨⟨e41,at42⟩,g37,h⟩
           ·obtain ⟨r36_0,r36_1,r36_2,⟨r36_3,r36_4,r36_5,r36_6⟩,r36_7,r36_8,r36_9⟩:=r36
            refine oV (hΦ.x9 g34) ?_
            refine oB 3 rfl (q9 (oA 1 rfl ?_))
            rcases o7 h with ⟨at38,g35,h⟩ | ⟨⟨at39,at40⟩,g36,h⟩
            ·refine oV (o6 g35) ?_
             refine C8 ?_
             cases h
             exact ⟨_,rfl,rfl⟩
            ·refine oW (o6 g36) ?_
             cases h
             exact ⟨_,rfl,_,_,rfl,rfl⟩
           ·refine oW (hΦ.x9 g37) ?_
            cases h
            exact ⟨_,rfl,_,_,rfl,rfl⟩
          ·refine D9 ?_
           cases h
           exact ⟨_,rfl,rfl⟩
         ·subst hx
          obtain ⟨b2p,l535⟩:=z38
          refine eSG (oB 2 rfl ?_)
          cases h
          exact A9 ⟨_,_,_,rfl,rfl,rfl⟩
         ·subst hz
          rcases res with ⟨_ | _ | _ | _,_,_⟩ <;> first | exact absurd rfl hn | exact hr.elim | (cases h; exact hr)
        ·refine eSG (oB 2 rfl ?_)
         refine eI rfl h (fun h=>?_) fun h=>?_
         ·refine eSG (oA 1 rfl ?_)
          obtain ⟨at43,g40,h⟩:=o8 h
          refine oV (D8 g40) ?_
          refine oB 2 rfl (eSG (oB 8 rfl (eSG (oA 1 rfl ?_))))
          rcases o7 h with ⟨⟨r44,at45⟩,g41,h⟩ | ⟨⟨e49,at50⟩,g44,h⟩
          ·obtain ⟨r44_0,r44_1,r44_2,⟨r44_3,r44_4,r44_5,r44_6⟩,r44_7,r44_8,r44_9⟩:=r44
           refine oV (hΦ.x9 g41) ?_
           refine oB 3 rfl (eSG (oA 1 rfl ?_))
           rcases o7 h with ⟨at46,g42,h⟩ | ⟨⟨at47,at48⟩,g43,h⟩
           ·refine oV (o6 g42) ?_
            refine C8 (eSG (oB 2 rfl ?_))
            cases h
            exact A9 ⟨_,_,_,rfl,rfl,rfl⟩
           ·refine oW (o6 g43) ?_
            cases h
            exact ⟨_,_,rfl,rfl⟩
          ·refine oW (hΦ.x9 g44) ?_
           cases h
           exact ⟨_,_,rfl,rfl⟩
         ·refine eSG (oB 2 rfl ?_)
          refine eI rfl h (fun h=>?_) fun h=>?_
          ·refine eSG (oA 1 rfl ?_)
           rcases o7 h with ⟨⟨l51,at52,at53⟩,g46,h⟩ | ⟨⟨e64,at65⟩,g54,h⟩
           ·refine oV (hΦ.V3 g46) ?_
            refine oB 2 rfl (eSG (oA 1 rfl ?_))
            rcases o7 h with ⟨at54,g47,h⟩ | ⟨⟨at62,at63⟩,g53,h⟩
            ·refine oV (H9 g47) ?_
             refine C8 (eSG (oA 1 rfl ?_))
             rcases o7 h with ⟨r55,g48,h⟩ | ⟨at61,g52,h⟩
             ·refine oV (F9 g48) ?_
              refine oB 2 rfl (G7 ?_)
              refine O6 [512] rfl ?_
              refine oC rfl rfl (oC rfl rfl (oC rfl rfl (J4 rfl ?_)))
              rcases o7 h with ⟨⟨r56,at57⟩,g49,h⟩ | ⟨⟨e59,at60⟩,g51,h⟩
              ·obtain ⟨r56_0,r56_1,r56_2,⟨r56_3,r56_4,r56_5,r56_6⟩,r56_7,r56_8,r56_9⟩:=r56
               refine oV (hΦ.F8 g49) ?_
               refine C8 (oC rfl rfl (J4 rfl ?_))
               obtain ⟨l58,g50,h⟩:=o8 h
               refine a6h Q6 g50 rfl rfl rfl rfl (.inr rfl) rfl rfl rfl rfl rfl rfl rfl rfl rfl rfl (a6z (a1I rfl) rfl) rfl rfl rfl ?_
               refine C8 (oC rfl rfl (oC rfl rfl ?_))
               refine a0g ?_
               refine ⟨rfl,?_⟩
               refine eSG (oB 2 rfl ?_)
               cases h
               exact A9 ⟨_,_,_,rfl,rfl,rfl⟩
              ·refine oW (hΦ.F8 g51) ?_
               refine ⟨rfl,rfl,_,_,rfl,?_⟩
               cases h
               exact ⟨_,_,rfl,rfl⟩
             ·refine oW (F9 g52) ?_
              cases h
              exact ⟨_,_,rfl,rfl⟩
            ·refine oW (H9 g53) ?_
             cases h
             exact ⟨_,_,rfl,rfl⟩
           ·refine oW (hΦ.V3 g54) ?_
            cases h
            exact ⟨_,_,rfl,rfl⟩
          ·refine D9 (eSG (oA 1 rfl ?_))
           rcases o7 h with ⟨⟨r66,at67⟩,g55,h⟩ | ⟨⟨e81,at82⟩,g67,h⟩
           ·obtain ⟨r66_0,r66_1,r66_2,⟨r66_3,r66_4,r66_5,r66_6⟩,r66_7,r66_8,r66_9⟩:=r66
            refine oV (hΦ.x9 g55) ?_
            refine oB 2 rfl (G7 (eSG (oA 1 rfl ?_)))
            obtain ⟨r68,g56,h⟩:=o8 h
            refine oV (F5 g56) ?_
            refine C8 ?_
            refine eI rfl h (fun h=>?_) fun h=>?_
            ·refine G7 (eSG (oA 1 rfl ?_))
             obtain ⟨r69,g58,h⟩:=o8 h
             refine V4 rfl rfl rfl rfl rfl (b4m g58) rfl ?_
             refine oB 1 rfl ?_
             refine eI rfl h (fun h=>?_) fun h=>?_
             ·refine q9 (oA 2 rfl ?_)
              refine oD ?_
              refine oD ?_
              refine oA 1 rfl ?_
              refine b7u rfl rfl rfl ?_
              cases h
              exact ⟨_,_,rfl,rfl⟩
             ·refine D9 (eSG (oB 8 rfl (eSG (oA 4 rfl ?_))))
              refine oD ?_
              refine oB 2 rfl (G7 ?_)
              refine O6 [640] rfl ?_
              refine oC rfl rfl (oC rfl rfl (oC rfl rfl (J4 rfl ?_)))
              rcases o7 h with ⟨⟨r70,at71⟩,g60,h⟩ | ⟨⟨e76,at77⟩,g64,h⟩
              ·obtain ⟨r70_0,r70_1,r70_2,⟨r70_3,r70_4,r70_5,r70_6⟩,r70_7,r70_8,r70_9⟩:=r70
               refine oV (hΦ.x9 g60) ?_
               refine C8 (oC rfl rfl (J4 rfl ?_))
               obtain ⟨l72,g61,h⟩:=o8 h
               refine a6h Q6 g61 rfl rfl rfl rfl (.inr rfl) rfl rfl rfl rfl rfl rfl rfl rfl rfl rfl (a6z (a1I rfl) rfl) rfl rfl rfl ?_
               refine C8 (oC rfl rfl (oC rfl rfl ?_))
               refine a0g ?_
               refine ⟨rfl,?_⟩
               refine eSG (oA 1 rfl ?_)
               rcases o7 h with ⟨at73,g62,h⟩ | ⟨⟨at74,at75⟩,g63,h⟩
               ·refine oV (o6 g62) ?_
                refine C8 (eSG (oB 2 rfl ?_))
                cases h
                exact A9 ⟨_,_,_,rfl,rfl,rfl⟩
               ·refine oW (o6 g63) ?_
                cases h
                exact ⟨_,_,rfl,rfl⟩
              ·refine oW (hΦ.x9 g64) ?_
               refine ⟨rfl,rfl,_,_,rfl,?_⟩
               cases h
               exact ⟨_,_,rfl,rfl⟩
            ·refine D9 (eSG (oA 1 rfl ?_))
             rcases o7 h with ⟨at78,g65,h⟩ | ⟨⟨at79,at80⟩,g66,h⟩
             ·refine oV (o6 g65) ?_
              refine C8 (eSG (oA 4 rfl ?_))
              refine oD ?_
              refine oB 1 rfl ?_
              cases h
              exact A9 ⟨_,_,_,rfl,rfl,rfl⟩
             ·refine oW (o6 g66) ?_
              cases h
              exact ⟨_,_,rfl,rfl⟩
           ·refine oW (hΦ.x9 g67) ?_
            cases h
            exact ⟨_,_,rfl,rfl⟩
theorem a8m (n:Nat) {Φ:j5} (hΦ:Φ.Ok) {d9:List Tok} {at2:Int} {j6:Int} {r:Rs (Nod × Int) (o5 × Int)} (h:a1L n Φ d9 at2 j6 = some r) :
  E env (.call 100 [.ptr 0 0]) (hP A7 d9 at2 j6) = some (a18 d9 at2 j6 r):=by
 unfold a1L at h
 refine J8 rfl Tryz.func100 rfl rfl ?_
 refine eSG (oB 1 rfl (eSG (oA 1 rfl ?_)))
 obtain ⟨at4,g1,h⟩:=o8 h
 refine oV (D8 g1) ?_
 refine oB 2 rfl ?_
 obtain ⟨y2,g3,h⟩:=P6 h
 refine Q5 (KR:=fun r=>a2w env 100 1 Tryz.f100.results.toList (a18 d9 at2 j6 r)) y2 (fun z29=>[(0,.ptr 0 0),(2,.ptr 1 0),(3,.ptr 2 0)]) (fun z29=>[(0,.row [.sl A7 d9,.i z29.1,.i j6]),(1,.row [.i 0,.str [],.i 0,.i 0,.str [],.i 0,.st 3 p8 ([]:List Typ),.st 4 p8 ([]:List Typ),.st 5 F6 ([]:List Nod),.i 0]),(2,.row [.i 21,.str [],.i z29.2,.i 0,.str [],.i 0,.sl p8 ([]:List Typ),.st 6 p8 ([]:List Typ),.st 7 F6 ([]:List Nod),.i at4]),(3,.tip 0 0),(4,.tip 0 0),(5,.tip 0 0),(6,.tip 0 0),(7,.tip 0 0)]) rfl ?_ (fun z29 hx=>?_) (fun r res hz hr hn=>?_)
 ·replace h:=g3
  clear g3
  refine eSG (oA 1 rfl ?_)
  obtain ⟨⟨r5,at6⟩,g4,h⟩:=o8 h
  refine oV (J3 g4) ?_
  refine C8 ?_
  refine eI rfl h (fun h=>?_) fun h=>?_
  ·refine q9 (oB 2 rfl ?_)
   cases h
   exact ⟨_,rfl,rfl⟩
  ·refine q9 (oA 1 rfl ?_)
   rcases o7 h with ⟨at7,g6,h⟩ | ⟨⟨at8,at9⟩,g7,h⟩
   ·refine oV (H9 g6) ?_
    refine C8 ?_
    cases h
    exact ⟨_,rfl,rfl⟩
   ·refine oW (H9 g7) ?_
    cases h
    exact ⟨_,rfl,_,_,rfl,rfl⟩
 ·subst hx
  obtain ⟨b09,n523⟩:=z29
  refine eSG (oA 1 rfl ?_)
  rcases o7 h with ⟨r10,g8,h⟩ | ⟨at29,g28,h⟩
  ·refine oV (F9 g8) ?_
   refine oB 2 rfl (eSG (oA 1 rfl ?_))
   obtain ⟨⟨r11,at12⟩,g9,h⟩:=o8 h
   refine oV (D7 g9) ?_
   refine oB 1 rfl ?_
   obtain ⟨y10,g11,h⟩:=P6 h
   refine Q5 (KR:=fun r=>a2w env 100 1 Tryz.f100.results.toList (a18 d9 at2 j6 r)) y10 (fun z27=>[(0,.ptr 0 0),(2,.ptr 1 0),(3,.ptr 2 0),(4,.bool r11)]) (fun z27=>[(0,.row [.sl A7 d9,.i z27.1,.i j6]),(1,.row [.i 0,.str [],.i 0,.i 0,.str [],.i 0,.st 3 p8 ([]:List Typ),.st 4 p8 ([]:List Typ),.st 5 F6 ([]:List Nod),.i 0]),(2,.row (c0 21 r10 n523 z27.2.1 z27.2.2.1 z27.2.2.2.1 (.sl p8 z27.2.2.2.2) (.st 6 p8 ([]:List Typ)) (.st 7 F6 ([]:List Nod)) at4)),(3,.tip 0 0),(4,.tip 0 0),(5,.tip 0 0),(6,.tip 0 0),(7,.tip 0 0)]) rfl ?_ (fun z27 hx=>?_) (fun r res hz hr hn=>?_)
   ·replace h:=g11
    clear g11
    refine eSG (oB 1 rfl ?_)
    refine eI rfl h (fun h=>?_) fun h=>?_
    ·refine q9 (oA 1 rfl ?_)
     rcases o7 h with ⟨⟨r13,at14⟩,g13,h⟩ | ⟨⟨at15,at16⟩,g14,h⟩
     ·obtain ⟨r13_0,r13_1,r13_2,r13_3⟩:=r13
      refine oV (I7 g13) ?_
      refine oB 2 rfl ?_
      cases h
      exact ⟨_,rfl,rfl⟩
     ·refine oW (I7 g14) ?_
      cases h
      exact ⟨_,rfl,_,_,rfl,rfl⟩
    ·refine D9 ?_
     cases h
     exact ⟨_,rfl,rfl⟩
   ·subst hx
    obtain ⟨b0p,b3j,b3n,n527,b3b⟩:=z27
    refine G7 ?_
    obtain ⟨y15,g16,h⟩:=o8 h
    refine a10 [(0,.ptr 0 0),(2,.ptr 1 0),(3,.ptr 2 0),(30,.bool y15.1)] [(0,.row [.sl A7 d9,.i y15.2,.i j6]),(1,.row [.i 0,.str [],.i 0,.i 0,.str [],.i 0,.st 3 p8 ([]:List Typ),.st 4 p8 ([]:List Typ),.st 5 F6 ([]:List Nod),.i 0]),(2,.row (c0 21 r10 n523 b3j b3n n527 (.sl p8 b3b) (.st 6 p8 ([]:List Typ)) (.st 7 F6 ([]:List Nod)) at4)),(3,.tip 0 0),(4,.tip 0 0),(5,.tip 0 0),(6,.tip 0 0),(7,.tip 0 0)] rfl ?_ ?_
    ·replace h:=g16
     clear g16
     refine q9 (oA 4 rfl ?_)
     refine J5 rfl rfl rfl (fun g17=>?_) (fun g17=>?_)
     ·replace h:=a0K h g17
      refine oA 3 rfl ?_
      refine J5 rfl rfl rfl (fun g18=>?_) (fun g18=>?_)
      ·replace h:=a0K h g18
       refine oA 1 rfl ?_
       obtain ⟨⟨r17,at18⟩,g19,h⟩:=o8 h
       refine oV (D7 g19) ?_
       refine oB 1 rfl ?_
       cases h
       exact rfl
      ·replace h:=a0J h g18
       refine oB 3 rfl ?_
       cases h
       exact rfl
     ·replace h:=a0J h g17
      refine oB 6 rfl ?_
      cases h
      exact rfl
    ·obtain ⟨x529,a9l⟩:=y15
     refine eI rfl h (fun h=>?_) fun h=>?_
     ·refine eSG (oB 2 rfl ?_)
      cases h
      exact A9 ⟨_,_,_,rfl,rfl,rfl⟩
     ·refine D9 (eSG (oA 1 rfl ?_))
      rcases o7 h with ⟨at19,g21,h⟩ | ⟨⟨at27,at28⟩,g26,h⟩
      ·refine oV (o6 g21) ?_
       refine C8 (eSG (oA 1 rfl ?_))
       rcases o7 h with ⟨⟨r20,at21⟩,g22,h⟩ | ⟨⟨e25,at26⟩,g25,h⟩
       ·obtain ⟨r20_0,r20_1,r20_2,⟨r20_3,r20_4,r20_5,r20_6⟩,r20_7,r20_8,r20_9⟩:=r20
        refine oV (hΦ.x9 g22) ?_
        refine oB 3 rfl (eSG (oA 1 rfl ?_))
        rcases o7 h with ⟨at22,g23,h⟩ | ⟨⟨at23,at24⟩,g24,h⟩
        ·refine oV (o6 g23) ?_
         refine C8 (eSG (oB 2 rfl ?_))
         cases h
         exact A9 ⟨_,_,_,rfl,rfl,rfl⟩
        ·refine oW (o6 g24) ?_
         cases h
         exact ⟨_,_,rfl,rfl⟩
       ·refine oW (hΦ.x9 g25) ?_
        cases h
        exact ⟨_,_,rfl,rfl⟩
      ·refine oW (o6 g26) ?_
       cases h
       exact ⟨_,_,rfl,rfl⟩
   ·subst hz
    rcases res with ⟨_ | _ | _ | _,_,_⟩ <;> first | exact absurd rfl hn | exact hr.elim | (cases h; exact hr)
  ·refine oW (F9 g28) ?_
   cases h
   exact ⟨_,_,rfl,rfl⟩
 ·subst hz
  rcases res with ⟨_ | _ | _ | _,_,_⟩ <;> first | exact absurd rfl hn | exact hr.elim | (cases h; exact hr)
theorem a8U (n:Nat) {Φ:j5} (hΦ:Φ.Ok) {d9:List Tok} {at2:Int} {j6:Int} {r:Rs (Nod × Int) (o5 × Int)} (h:a1W n Φ d9 at2 j6 = some r) :
  E env (.call 104 [.ptr 0 0]) (hP A7 d9 at2 j6) = some (a5o d9 at2 j6 r):=by
 unfold a1W at h
 refine J8 rfl Tryz.func104 rfl rfl ?_
 refine eSG (oB 1 rfl (eSG (oA 1 rfl ?_)))
 rcases o7 h with ⟨⟨r4,at5⟩,g1,h⟩ | ⟨⟨e10,at11⟩,g5,h⟩
 ·obtain ⟨r4_0,r4_1,r4_2,⟨r4_3,r4_4,r4_5,r4_6⟩,r4_7,r4_8,r4_9⟩:=r4
  refine oV (hΦ.I6 g1) ?_
  refine oB 2 rfl (eSG ?_)
  obtain ⟨_,g2,h⟩:=o8 h
  refine V4 rfl rfl rfl rfl rfl (b23 g2) rfl ?_
  refine oB 1 rfl (eSG (oA 3 rfl ?_))
  rcases o7 h with ⟨⟨r6,at7⟩,g3,h⟩ | ⟨⟨e8,at9⟩,g4,h⟩
  ·obtain ⟨r6_0,r6_1,r6_2,⟨r6_3,r6_4,r6_5,r6_6⟩,r6_7,r6_8,r6_9⟩:=r6
   refine oV (hΦ.O3 g3) ?_
   refine oB 1 rfl ?_
   cases h
   exact A9 ⟨_,_,_,rfl,rfl,rfl⟩
  ·refine oW (hΦ.O3 g4) ?_
   cases h
   exact ⟨_,_,rfl,rfl⟩
 ·refine oW (hΦ.I6 g5) ?_
  cases h
  exact ⟨_,_,rfl,rfl⟩
theorem a8p (n:Nat) {Φ:j5} (hΦ:Φ.Ok) {d9:List Tok} {at2:Int} {j6:Int} {r:Rs (Nod × Int) (o5 × Int)} (h:a1O n Φ d9 at2 j6 = some r) :
  E env (.call 113 [.ptr 0 0]) (hP A7 d9 at2 j6) = some (a3r d9 at2 j6 r):=by
 unfold a1O at h
 refine J8 rfl Tryz.func113 rfl rfl ?_
 refine eSG (oB 1 rfl (eSG (oA 1 rfl ?_)))
 obtain ⟨at4,g1,h⟩:=o8 h
 refine oV (D8 g1) ?_
 refine oB 2 rfl ?_
 obtain ⟨y2,g3,h⟩:=P6 h
 refine Q5 (KR:=fun r=>a2w env 113 1 Tryz.f113.results.toList (a3r d9 at2 j6 r)) y2 (fun z12=>[(0,.ptr 0 0),(2,.ptr 1 0),(3,.ptr 2 0)]) (fun z12=>[(0,.row [.sl A7 d9,.i z12.1,.i j6]),(1,.row [.i 0,.str [],.i 0,.i 0,.str [],.i 0,.st 3 p8 ([]:List Typ),.st 4 p8 ([]:List Typ),.st 5 F6 ([]:List Nod),.i 0]),(2,.row [.i z12.2,.str [],.i 0,.i 0,.str [],.i 0,.sl p8 ([]:List Typ),.st 6 p8 ([]:List Typ),.st 7 F6 ([]:List Nod),.i at4]),(3,.tip 0 0),(4,.tip 0 0),(5,.tip 0 0),(6,.tip 0 0),(7,.tip 0 0)]) rfl ?_ (fun z12 hx=>?_) (fun r res hz hr hn=>?_)
 ·replace h:=g3
  clear g3
  refine eSG (oA 1 rfl ?_)
  obtain ⟨⟨r5,at6⟩,g4,h⟩:=o8 h
  refine oV (D7 g4) ?_
  refine oB 1 rfl ?_
  refine eI rfl h (fun h=>?_) fun h=>?_
  ·refine G7 (eSG (oA 1 rfl ?_))
   obtain ⟨⟨r7,at8⟩,g6,h⟩:=o8 h
   refine oV (D7 g6) ?_
   refine oB 1 rfl ?_
   refine eI rfl h (fun h=>?_) fun h=>?_
   ·refine eSG (oA 1 rfl ?_)
    rcases o7 h with ⟨⟨r9,at10⟩,g8,h⟩ | ⟨⟨e11,at12⟩,g9,h⟩
    ·obtain ⟨r9_0,r9_1,r9_2,⟨r9_3,r9_4,r9_5,r9_6⟩,r9_7,r9_8,r9_9⟩:=r9
     refine oV (hΦ.Y9 g8) ?_
     refine oB 1 rfl ?_
     cases h
     exact A9 ⟨_,rfl,_,_,_,rfl,rfl,rfl⟩
    ·refine oW (hΦ.Y9 g9) ?_
     cases h
     exact ⟨_,rfl,_,_,rfl,rfl⟩
   ·refine D9 (q9 (oB 2 rfl ?_))
    cases h
    exact ⟨_,rfl,rfl⟩
  ·refine D9 ?_
   cases h
   exact ⟨_,rfl,rfl⟩
 ·subst hx
  obtain ⟨a5i,op502⟩:=z12
  refine eSG (oA 1 rfl ?_)
  rcases o7 h with ⟨⟨r13,at14⟩,g10,h⟩ | ⟨⟨e15,at16⟩,g11,h⟩
  ·obtain ⟨r13_0,r13_1,r13_2,⟨r13_3,r13_4,r13_5,r13_6⟩,r13_7,r13_8,r13_9⟩:=r13
   refine oV (hΦ.I6 g10) ?_
   refine oB 3 rfl (eSG (oB 2 rfl ?_))
   cases h
   exact A9 ⟨_,_,_,rfl,rfl,rfl⟩
  ·refine oW (hΦ.I6 g11) ?_
   cases h
   exact ⟨_,_,rfl,rfl⟩
 ·subst hz
  rcases res with ⟨_ | _ | _ | _,_,_⟩ <;> first | exact absurd rfl hn | exact hr.elim | (cases h; exact hr)
theorem a6Z (n:Nat) {Φ:j5} (hΦ:Φ.Ok) {d9:List Tok} {at2:Int} {j6:Int} {r:Rs (Nod × Int) (o5 × Int)} (h:a1f n Φ d9 at2 j6 = some r) :
  E env (.call 122 [.ptr 0 0]) (hP A7 d9 at2 j6) = some (a1H d9 at2 j6 r):=by
 unfold a1f at h
 refine J8 rfl Tryz.func122 rfl rfl ?_
 refine eSG (oB 1 rfl (eSG (oA 1 rfl ?_)))
 obtain ⟨r4,g1,h⟩:=o8 h
 refine oV (F5 g1) ?_
 refine oB 1 rfl (eSG (oA 1 rfl ?_))
 rcases o7 h with ⟨⟨r5,at6⟩,g2,h⟩ | ⟨⟨e27,at28⟩,g26,h⟩
 ·obtain ⟨r5_0,r5_1,r5_2,⟨r5_3,r5_4,r5_5,r5_6⟩,r5_7,r5_8,r5_9⟩:=r5
  refine oV (hΦ.a0r g2) ?_
  refine oB 2 rfl ?_
  refine F7 ?_
  refine U0 rfl ?_
  obtain ⟨yq,hq⟩:∃ y,y = r:=⟨_,rfl⟩
  rw [<- hq] at h ⊢
  clear hq
  revert yq
  refine Z7 (fun m (x:Bool × Int × Nod)=>O4 n Φ j6 d9 m x.1 x.2.1 x.2.2) (fun x=>[(0,.ptr 0 0),(2,.ptr 1 0),(3,.bool x.1),(4,.ptr 2 0)]) (fun x=>[(0,.row [.sl A7 d9,.i x.2.1,.i j6]),(1,.row [.i 0,.str [],.i 0,.i 0,.str [],.i 0,.st 3 p8 ([]:List Typ),.st 4 p8 ([]:List Typ),.st 5 F6 ([]:List Nod),.i 0]),(2,.row (c0 x.2.2.op x.2.2.s x.2.2.n x.2.2.t.kind x.2.2.t.name x.2.2.t.n (.sl p8 x.2.2.t.args) (.sl p8 x.2.2.ts) (.sl F6 x.2.2.l) x.2.2.at_)),(3,.tip 0 0),(4,.tip 0 0),(5,.tip 0 0)]) _ (fun _=>rfl) (fun m4 x y ih h=>?_) n (r4,at6,(Nod.mk r5_0 r5_1 r5_2 (Typ.mk r5_3 r5_4 r5_5 r5_6) r5_7 r5_8 r5_9))
  obtain ⟨b53,b2s,b38⟩:=x
  obtain ⟨n546_0,n546_1,n546_2,⟨n546_3,n546_4,n546_5,n546_6⟩,n546_7,n546_8,n546_9⟩:=b38
  replace h:O4 n Φ j6 d9 (m4 + 1) b53 b2s (Nod.mk n546_0 n546_1 n546_2 (Typ.mk n546_3 n546_4 n546_5 n546_6) n546_7 n546_8 n546_9) = some y:=h
  rw [O4] at h
  refine F7 ?_
  obtain ⟨y3,g4,h⟩:=P6 h
  refine Q5 (KR:=fun r=>a2w env 122 1 Tryz.f122.results.toList (a1H d9 at2 j6 r)) y3 (fun z25=>[(0,.ptr 0 0),(2,.ptr 1 0),(4,.ptr 2 0)]) (fun z25=>[(0,.row [.sl A7 d9,.i z25.1,.i j6]),(1,.row [.i 0,.str [],.i 0,.i 0,.str [],.i 0,.st 3 p8 ([]:List Typ),.st 4 p8 ([]:List Typ),.st 5 F6 ([]:List Nod),.i 0]),(2,.row [.i z25.2.1,.str z25.2.2.1,.i 0,.i 0,.str [],.i 0,.st 6 p8 ([]:List Typ),.st 7 p8 ([]:List Typ),.sl F6 z25.2.2.2,.i n546_9]),(3,.tip 0 0),(4,.tip 0 0),(5,.tip 0 0),(6,.tip 0 0),(7,.tip 0 0)]) rfl ?_ (fun z25 hx=>?_) (fun r res hz hr hn=>?_)
  ·replace h:=g4
   clear g4
   refine F7 ?_
   refine eSG (oA 1 rfl ?_)
   obtain ⟨⟨r7,at8⟩,g5,h⟩:=o8 h
   refine oV (D7 g5) ?_
   refine oB 1 rfl ?_
   refine eI rfl h (fun h=>?_) fun h=>?_
   ·refine G7 ?_
    refine O6 [2,2] rfl ?_
    refine oC rfl rfl (oC rfl rfl (oC rfl rfl (oC rfl rfl (oC rfl rfl (J4 rfl ?_)))))
    rcases o7 h with ⟨r9,g7,h⟩ | ⟨at16,g16,h⟩
    ·refine oV (F9 g7) ?_
     refine C8 (J4 rfl ?_)
     refine oD ?_
     refine C8 (oC rfl rfl (oC rfl rfl ?_))
     refine a0g ?_
     refine ⟨rfl,?_⟩
     obtain ⟨y8,g9,h⟩:=a3a h
     refine Q5 (KR:=fun r=>a2w env 122 1 Tryz.f122.results.toList (a1H d9 at2 j6 r)) y8 (fun z15=>[(0,.ptr 0 0),(2,.ptr 1 0),(4,.ptr 2 0),(5,.ptr 3 0)]) (fun z15=>[(0,.row [.sl A7 d9,.i z15.1,.i j6]),(1,.row [.i 0,.str [],.i 0,.i 0,.str [],.i 0,.st 4 p8 ([]:List Typ),.st 5 p8 ([]:List Typ),.st 6 F6 ([]:List Nod),.i 0]),(2,.row (c0 n546_0 n546_1 n546_2 n546_3 n546_4 n546_5 (.sl p8 n546_6) (.sl p8 n546_7) (.sl F6 n546_8) n546_9)),(3,.row [.i z15.2.1,.str r9,.i 0,.i 0,.str [],.i 0,.st 7 p8 ([]:List Typ),.st 8 p8 ([]:List Typ),.st 9 F6 z15.2.2,.i n546_9]),(4,.tip 0 0),(5,.tip 0 0),(6,.tip 0 0),(7,.tip 0 0),(8,.tip 0 0),(9,.tip (tpe 10 (List.length z15.2.2)) (List.length z15.2.2))]) rfl ?_ (fun z15 hx=>?_) (fun r res hz hr hn=>?_)
     ·replace h:=g9
      clear g9
      refine eSG (oA 1 rfl ?_)
      obtain ⟨r10,g10,h⟩:=o8 h
      refine oV (F5 g10) ?_
      refine C8 ?_
      refine eI rfl h (fun h=>?_) fun h=>?_
      ·refine eSG (oB 2 rfl ?_)
       refine O6 [384] rfl ?_
       refine oC rfl rfl (oC rfl rfl (oC rfl rfl (J4 rfl ?_)))
       rcases o7 h with ⟨⟨r11,at12⟩,g12,h⟩ | ⟨⟨e14,at15⟩,g14,h⟩
       ·refine oV (hΦ.K3 g12) ?_
        refine C8 (J4 rfl ?_)
        obtain ⟨l13,g13,h⟩:=o8 h
        refine b9l Q6 g13 rfl rfl rfl rfl (.inr ⟨rfl,b3Y (Nat.succ_le_succ (Nat.zero_le _))⟩) rfl rfl rfl rfl rfl rfl rfl rfl rfl rfl (a6z (a1I (a1S.length Q6 _).symm) rfl) rfl rfl ?_
        refine C8 (oC rfl rfl (oC rfl rfl ?_))
        refine a0g ?_
        refine ⟨rfl,?_⟩
        cases h
        exact ⟨_,rfl,rfl⟩
       ·refine oW (hΦ.K3 g14) ?_
        refine ⟨rfl,rfl,_,_,rfl,?_⟩
        cases h
        exact ⟨_,rfl,_,_,rfl,rfl⟩
      ·refine D9 ?_
       cases h
       exact ⟨_,rfl,rfl⟩
     ·subst hx
      obtain ⟨at554,op555,l556⟩:=z15
      refine q9 (oB 2 rfl ?_)
      cases h
      exact ⟨_,rfl,rfl⟩
     ·subst hz
      rcases res with ⟨_ | _ | _ | _,_,_⟩ <;> first | exact absurd rfl hn | exact hr.elim | (cases h; exact ⟨_,rfl,hr⟩)
    ·refine oW (F9 g16) ?_
     refine ⟨rfl,rfl,_,_,rfl,?_⟩
     cases h
     exact ⟨_,rfl,_,_,rfl,rfl⟩
   ·refine eSG (oA 1 rfl ?_)
    obtain ⟨r17,g17,h⟩:=o8 h
    refine oV (F5 g17) ?_
    refine oB 1 rfl ?_
    refine eI rfl h (fun h=>?_) fun h=>?_
    ·refine eSG (oB 1 rfl ?_)
     refine eI rfl h (fun h=>?_) fun h=>?_
     ·refine O6 [2,2] rfl ?_
      refine oC rfl rfl (oC rfl rfl (oC rfl rfl (oC rfl rfl (oC rfl rfl (J4 rfl ?_)))))
      rcases o7 h with ⟨⟨r18,at19⟩,g20,h⟩ | ⟨⟨e20,at21⟩,g21,h⟩
      ·refine oV (hΦ.K3 g20) ?_
       refine C8 (J4 rfl ?_)
       refine oD ?_
       refine C8 (oC rfl rfl ?_)
       refine a0g ?_
       refine ⟨rfl,?_⟩
       cases h
       exact ⟨_,rfl,rfl⟩
      ·refine oW (hΦ.K3 g21) ?_
       refine ⟨rfl,rfl,_,_,rfl,?_⟩
       cases h
       exact ⟨_,rfl,_,_,rfl,rfl⟩
     ·refine eSG (oA 4 rfl ?_)
      refine oD ?_
      refine oB 2 rfl (G7 ?_)
      refine O6 [448] rfl ?_
      refine oC rfl rfl (oC rfl rfl (oC rfl rfl (J4 rfl ?_)))
      rcases o7 h with ⟨⟨r22,at23⟩,g22,h⟩ | ⟨⟨e25,at26⟩,g24,h⟩
      ·refine oV (hΦ.K3 g22) ?_
       refine C8 (J4 rfl ?_)
       obtain ⟨l24,g23,h⟩:=o8 h
       refine b9l Q6 g23 rfl rfl rfl rfl (.inr ⟨rfl,b3Y (Nat.succ_le_succ (Nat.zero_le _))⟩) rfl rfl rfl rfl rfl rfl rfl rfl rfl rfl (a6z (a1I (a1S.length Q6 _).symm) rfl) rfl rfl ?_
       refine C8 (oC rfl rfl (oC rfl rfl ?_))
       refine a0g ?_
       refine ⟨rfl,?_⟩
       refine q9 (oB 2 rfl ?_)
       cases h
       exact ⟨_,rfl,rfl⟩
      ·refine oW (hΦ.K3 g24) ?_
       refine ⟨rfl,rfl,_,_,rfl,?_⟩
       cases h
       exact ⟨_,rfl,_,_,rfl,rfl⟩
    ·refine eSG (oB 2 rfl ?_)
     cases h
     exact A9 ⟨_,rfl,_,_,_,rfl,rfl,rfl⟩
  ·subst hx
   obtain ⟨at557,op558,s559,l560⟩:=z25
   refine q9 (oB 1 rfl ?_)
   exact ⟨_,_,rfl,ih (_,_,_) _ h⟩
  ·subst hz
   rcases res with ⟨_ | _ | _ | _,_,_⟩ <;> first | exact absurd rfl hn | exact hr.elim | (cases h; exact hr)
 ·refine oW (hΦ.a0r g26) ?_
  cases h
  exact ⟨_,_,rfl,rfl⟩
theorem a8T (n:Nat) {Φ:j5} (hΦ:Φ.Ok) {d9:List Tok} {at2:Int} {j6:Int} {r:Rs (Nod × Int) (o5 × Int)} (h:a0L n Φ d9 at2 j6 = some r) :
  E env (.call 127 [.ptr 0 0]) (hP A7 d9 at2 j6) = some (a2s d9 at2 j6 r):=by
 unfold a0L at h
 refine J8 rfl Tryz.func127 rfl rfl ?_
 refine eSG (oB 1 rfl (eSG (oA 1 rfl ?_)))
 obtain ⟨at4,g1,h⟩:=o8 h
 refine oV (D8 g1) ?_
 refine oB 2 rfl ?_
 obtain ⟨y2,g3,h⟩:=P6 h
 refine Q5 (KR:=fun r=>a2w env 127 1 Tryz.f127.results.toList (a2s d9 at2 j6 r)) y2 (fun z69=>[(2,.ptr 1 0),(3,.ptr 2 0)]) (fun z69=>[(0,.row [.sl A7 d9,.i z69.1,.i j6]),(1,.row [.i 0,.str [],.i 0,.i 0,.str [],.i 0,.st 3 p8 ([]:List Typ),.st 4 p8 ([]:List Typ),.st 5 F6 ([]:List Nod),.i 0]),(2,.row (c0 z69.2.1 z69.2.2.1 z69.2.2.2.1 z69.2.2.2.2.1 z69.2.2.2.2.2.1 z69.2.2.2.2.2.2.1 (.sl p8 z69.2.2.2.2.2.2.2.1) (.st 6 p8 ([]:List Typ)) (.sl F6 z69.2.2.2.2.2.2.2.2) at4)),(3,.tip 0 0),(4,.tip 0 0),(5,.tip 0 0),(6,.tip 0 0)]) rfl ?_ (fun z69 hx=>?_) (fun r res hz hr hn=>?_)
 ·replace h:=g3
  clear g3
  refine F7 ?_
  refine eSG (oA 1 rfl ?_)
  obtain ⟨r5,g4,h⟩:=o8 h
  refine oV (F5 g4) ?_
  refine oB 1 rfl ?_
  refine eI rfl h (fun h=>?_) fun h=>?_
  ·refine q9 (oA 1 rfl ?_)
   rcases o7 h with ⟨r6,g6,h⟩ | ⟨at7,g7,h⟩
   ·refine oV (a0u g6) ?_
    refine oB 4 rfl ?_
    cases h
    exact ⟨_,rfl,rfl⟩
   ·refine oW (a0u g7) ?_
    cases h
    exact ⟨_,rfl,_,_,rfl,rfl⟩
  ·refine eSG (oA 1 rfl ?_)
   obtain ⟨r8,g8,h⟩:=o8 h
   refine oV (F5 g8) ?_
   refine oB 1 rfl ?_
   refine eI rfl h (fun h=>?_) fun h=>?_
   ·refine q9 (oA 1 rfl ?_)
    rcases o7 h with ⟨r9,g10,h⟩ | ⟨at10,g11,h⟩
    ·refine oV (K6 g10) ?_
     refine oB 5 rfl ?_
     cases h
     exact ⟨_,rfl,rfl⟩
    ·refine oW (K6 g11) ?_
     cases h
     exact ⟨_,rfl,_,_,rfl,rfl⟩
   ·refine eSG (oA 1 rfl ?_)
    obtain ⟨r11,g12,h⟩:=o8 h
    refine oV (F5 g12) ?_
    refine oB 1 rfl ?_
    refine eI rfl h (fun h=>?_) fun h=>?_
    ·refine eSG (oA 1 rfl ?_)
     rcases o7 h with ⟨⟨r12,at13⟩,g14,h⟩ | ⟨⟨e14,at15⟩,g15,h⟩
     ·obtain ⟨r12_0,r12_1,r12_2,⟨r12_3,r12_4,r12_5,r12_6⟩,r12_7,r12_8,r12_9⟩:=r12
      refine oV (hΦ.a0k g14) ?_
      refine oB 1 rfl ?_
      cases h
      exact A9 ⟨_,rfl,_,_,_,rfl,rfl,rfl⟩
     ·refine oW (hΦ.a0k g15) ?_
      cases h
      exact ⟨_,rfl,_,_,rfl,rfl⟩
    ·refine eSG (oA 1 rfl ?_)
     obtain ⟨⟨r16,at17⟩,g16,h⟩:=o8 h
     refine oV (J3 g16) ?_
     refine oB 1 rfl ?_
     refine eI rfl h (fun h=>?_) fun h=>?_
     ·refine q9 (oB 4 rfl ?_)
      cases h
      exact ⟨_,rfl,rfl⟩
     ·refine eSG (oA 1 rfl ?_)
      obtain ⟨⟨r18,at19⟩,g18,h⟩:=o8 h
      refine oV (J3 g18) ?_
      refine oB 1 rfl ?_
      refine eI rfl h (fun h=>?_) fun h=>?_
      ·refine q9 (oB 2 rfl ?_)
       cases h
       exact ⟨_,rfl,rfl⟩
      ·refine eSG (oA 1 rfl ?_)
       obtain ⟨r20,g20,h⟩:=o8 h
       refine oV (F5 g20) ?_
       refine oB 1 rfl ?_
       refine eI rfl h (fun h=>?_) fun h=>?_
       ·refine q9 (oA 1 rfl ?_)
        rcases o7 h with ⟨r21,g22,h⟩ | ⟨at22,g23,h⟩
        ·refine oV (F9 g22) ?_
         refine oB 4 rfl ?_
         cases h
         exact ⟨_,rfl,rfl⟩
        ·refine oW (F9 g23) ?_
         cases h
         exact ⟨_,rfl,_,_,rfl,rfl⟩
       ·refine eSG (oA 1 rfl ?_)
        obtain ⟨⟨r23,at24⟩,g24,h⟩:=o8 h
        refine oV (J3 g24) ?_
        refine oB 1 rfl ?_
        refine eI rfl h (fun h=>?_) fun h=>?_
        ·refine q9 (oA 1 rfl ?_)
         rcases o7 h with ⟨r25,g26,h⟩ | ⟨at26,g27,h⟩
         ·refine oV (F9 g26) ?_
          refine oB 4 rfl ?_
          cases h
          exact ⟨_,rfl,rfl⟩
         ·refine oW (F9 g27) ?_
          cases h
          exact ⟨_,rfl,_,_,rfl,rfl⟩
        ·refine eSG (oA 1 rfl ?_)
         obtain ⟨⟨r27,at28⟩,g28,h⟩:=o8 h
         refine oV (D7 g28) ?_
         refine oB 1 rfl ?_
         refine eI rfl h (fun h=>?_) fun h=>?_
         ·refine eSG (oB 2 rfl (G7 (eSG (oA 1 rfl ?_))))
          obtain ⟨⟨r29,at30⟩,g30,h⟩:=o8 h
          refine oV (D7 g30) ?_
          refine C8 ?_
          refine eI rfl h (fun h=>?_) fun h=>?_
          ·refine R5 ?_
           cases h
           exact ⟨_,rfl,rfl⟩
          ·refine D9 (G7 ?_)
           refine O6 [256] rfl ?_
           refine oC rfl rfl (oC rfl rfl (oC rfl rfl (J4 rfl ?_)))
           rcases o7 h with ⟨⟨r31,at32⟩,g32,h⟩ | ⟨⟨e44,at45⟩,g44,h⟩
           ·obtain ⟨r31_0,r31_1,r31_2,⟨r31_3,r31_4,r31_5,r31_6⟩,r31_7,r31_8,r31_9⟩:=r31
            refine oV (hΦ.x9 g32) ?_
            refine C8 (oC rfl rfl (J4 rfl ?_))
            obtain ⟨l33,g33,h⟩:=o8 h
            refine oP Q6 g33 ?_
            refine C8 (oC rfl rfl (oC rfl rfl ?_))
            refine a0g ?_
            refine ⟨rfl,?_⟩
            obtain ⟨y34,g35,h⟩:=a3a h
            refine Q5 (KR:=fun r=>a2w env 127 1 Tryz.f127.results.toList (a2s d9 at2 j6 r)) y34 (fun z43=>[(0,.ptr 0 0),(2,.ptr 1 0),(3,.ptr 2 0)]) (fun z43=>[(0,.row [.sl A7 d9,.i z43.1,.i j6]),(1,.row [.i 0,.str [],.i 0,.i 0,.str [],.i 0,.st 3 p8 ([]:List Typ),.st 4 p8 ([]:List Typ),.st 5 F6 ([]:List Nod),.i 0]),(2,.row [.i 67,.str [],.i 0,.i 0,.str [],.i 0,.sl p8 ([]:List Typ),.st 6 p8 ([]:List Typ),.st 7 F6 z43.2,.i at4]),(3,.tip 0 0),(4,.tip 0 0),(5,.tip 0 0),(6,.tip 0 0),(7,.tip (tpe 10 (List.length z43.2)) (List.length z43.2))]) rfl ?_ (fun z43 hx=>?_) (fun r res hz hr hn=>?_)
            ·replace h:=g35
             clear g35
             refine F7 ?_
             refine U0 rfl ?_
             revert y34
             refine Z7 (fun m (x:Int × List Nod)=>a0n n Φ j6 d9 m x.1 x.2) (fun x=>[(0,.ptr 0 0),(2,.ptr 1 0),(3,.ptr 2 0)]) (fun x=>[(0,.row [.sl A7 d9,.i x.1,.i j6]),(1,.row [.i 0,.str [],.i 0,.i 0,.str [],.i 0,.st 3 p8 ([]:List Typ),.st 4 p8 ([]:List Typ),.st 5 F6 ([]:List Nod),.i 0]),(2,.row [.i 67,.str [],.i 0,.i 0,.str [],.i 0,.sl p8 ([]:List Typ),.st 6 p8 ([]:List Typ),.st 7 F6 x.2,.i at4]),(3,.tip 0 0),(4,.tip 0 0),(5,.tip 0 0),(6,.tip 0 0),(7,.tip (tpe 10 (List.length x.2)) (List.length x.2))]) _ (fun _=>rfl) (fun m27 x y ih h=>?_) n (at32,l33)
             obtain ⟨at569,l570⟩:=x
             rw [a0n] at h
             refine G7 (eSG (oA 1 rfl ?_))
             obtain ⟨⟨r34,at35⟩,g36,h⟩:=o8 h
             refine oV (D7 g36) ?_
             refine C8 ?_
             refine eI rfl h (fun h=>?_) fun h=>?_
             ·refine D9 ?_
              refine F7 ?_
              refine O6 [2] rfl ?_
              refine oC rfl rfl (oC rfl rfl (oC rfl rfl (J4 rfl ?_)))
              rcases o7 h with ⟨⟨r36,at37⟩,g38,h⟩ | ⟨⟨e39,at40⟩,g40,h⟩
              ·obtain ⟨r36_0,r36_1,r36_2,⟨r36_3,r36_4,r36_5,r36_6⟩,r36_7,r36_8,r36_9⟩:=r36
               refine oV (hΦ.x9 g38) ?_
               refine C8 (oC rfl rfl (J4 rfl ?_))
               obtain ⟨l38,g39,h⟩:=o8 h
               refine oP Q6 g39 ?_
               refine C8 (oC rfl rfl (oC rfl rfl ?_))
               refine a0g ?_
               refine ⟨rfl,?_⟩
               exact ⟨_,_,rfl,ih (_,_) _ h⟩
              ·refine oW (hΦ.x9 g40) ?_
               refine ⟨rfl,rfl,_,_,rfl,?_⟩
               cases h
               exact ⟨_,rfl,_,_,rfl,rfl⟩
             ·refine R5 ?_
              cases h
              exact ⟨_,rfl,rfl⟩
            ·subst hx
             obtain ⟨at587,l588⟩:=z43
             refine q9 (oA 1 rfl ?_)
             rcases o7 h with ⟨at41,g41,h⟩ | ⟨⟨at42,at43⟩,g42,h⟩
             ·refine oV (o6 g41) ?_
              refine C8 ?_
              cases h
              exact ⟨_,rfl,rfl⟩
             ·refine oW (o6 g42) ?_
              cases h
              exact ⟨_,rfl,_,_,rfl,rfl⟩
            ·subst hz
             rcases res with ⟨_ | _ | _ | _,_,_⟩ <;> first | exact absurd rfl hn | exact hr.elim | (cases h; exact ⟨_,rfl,hr⟩)
           ·refine oW (hΦ.x9 g44) ?_
            refine ⟨rfl,rfl,_,_,rfl,?_⟩
            cases h
            exact ⟨_,rfl,_,_,rfl,rfl⟩
         ·refine eSG (oA 1 rfl ?_)
          obtain ⟨⟨r46,at47⟩,g45,h⟩:=o8 h
          refine oV (D7 g45) ?_
          refine oB 1 rfl ?_
          refine eI rfl h (fun h=>?_) fun h=>?_
          ·refine eSG (oA 1 rfl ?_)
           rcases o7 h with ⟨⟨r48,at49⟩,g47,h⟩ | ⟨⟨e53,at54⟩,g50,h⟩
           ·obtain ⟨r48_0,r48_1,r48_2,⟨r48_3,r48_4,r48_5,r48_6⟩,r48_7,r48_8,r48_9⟩:=r48
            refine oV (hΦ.x9 g47) ?_
            refine oB 2 rfl (eSG (oA 1 rfl ?_))
            rcases o7 h with ⟨at50,g48,h⟩ | ⟨⟨at51,at52⟩,g49,h⟩
            ·refine oV (o6 g48) ?_
             refine C8 (eSG (oB 2 rfl ?_))
             cases h
             exact A9 ⟨_,rfl,_,_,_,rfl,rfl,rfl⟩
            ·refine oW (o6 g49) ?_
             cases h
             exact ⟨_,rfl,_,_,rfl,rfl⟩
           ·refine oW (hΦ.x9 g50) ?_
            cases h
            exact ⟨_,rfl,_,_,rfl,rfl⟩
          ·refine eSG (oA 1 rfl ?_)
           obtain ⟨r55,g51,h⟩:=o8 h
           refine oV (F5 g51) ?_
           refine oB 1 rfl ?_
           refine eI rfl h (fun h=>?_) fun h=>?_
           ·refine eSG (oA 1 rfl ?_)
            rcases o7 h with ⟨⟨r56,at57⟩,g53,h⟩ | ⟨⟨e58,at59⟩,g54,h⟩
            ·obtain ⟨r56_0,r56_1,r56_2,⟨r56_3,r56_4,r56_5,r56_6⟩,r56_7,r56_8,r56_9⟩:=r56
             refine oV (hΦ.Y7 g53) ?_
             refine oB 1 rfl ?_
             cases h
             exact A9 ⟨_,rfl,_,_,_,rfl,rfl,rfl⟩
            ·refine oW (hΦ.Y7 g54) ?_
             cases h
             exact ⟨_,rfl,_,_,rfl,rfl⟩
           ·refine eSG (oA 1 rfl ?_)
            rcases o7 h with ⟨⟨r60,at61⟩,g55,h⟩ | ⟨⟨at77,at78⟩,g68,h⟩
            ·obtain ⟨r60_0,r60_1,r60_2,r60_3⟩:=r60
             refine oV (a5M g55) ?_
             refine oB 2 rfl (G7 (eSG (oA 1 rfl ?_)))
             obtain ⟨r62,g56,h⟩:=o8 h
             refine oV (F5 g56) ?_
             refine C8 ?_
             refine eI rfl h (fun h=>?_) fun h=>?_
             ·refine eSG (oA 1 rfl ?_)
              rcases o7 h with ⟨⟨r63,at64⟩,g58,h⟩ | ⟨⟨e65,at66⟩,g59,h⟩
              ·refine oV (hΦ.K3 g58) ?_
               refine oB 4 rfl ?_
               refine R5 ?_
               cases h
               exact ⟨_,rfl,rfl⟩
              ·refine oW (hΦ.K3 g59) ?_
               cases h
               exact ⟨_,rfl,_,_,rfl,rfl⟩
             ·refine D9 (eSG (oA 1 rfl ?_))
              rcases o7 h with ⟨at67,g60,h⟩ | ⟨⟨at75,at76⟩,g67,h⟩
              ·refine oV (o6 g60) ?_
               refine C8 (eSG (oA 1 rfl ?_))
               rcases o7 h with ⟨r68,g61,h⟩ | ⟨at74,g66,h⟩
               ·refine oV (F9 g61) ?_
                refine oB 4 rfl (eSG (oA 1 rfl ?_))
                obtain ⟨r69,g62,h⟩:=o8 h
                refine oV (F5 g62) ?_
                refine C8 ?_
                refine eI rfl h (fun h=>?_) fun h=>?_
                ·refine q9 (oA 1 rfl ?_)
                 rcases o7 h with ⟨⟨r70,at71⟩,g64,h⟩ | ⟨⟨e72,at73⟩,g65,h⟩
                 ·refine oV (hΦ.K3 g64) ?_
                  refine oB 4 rfl ?_
                  cases h
                  exact ⟨_,rfl,rfl⟩
                 ·refine oW (hΦ.K3 g65) ?_
                  cases h
                  exact ⟨_,rfl,_,_,rfl,rfl⟩
                ·refine D9 ?_
                 cases h
                 exact ⟨_,rfl,rfl⟩
               ·refine oW (F9 g66) ?_
                cases h
                exact ⟨_,rfl,_,_,rfl,rfl⟩
              ·refine oW (o6 g67) ?_
               cases h
               exact ⟨_,rfl,_,_,rfl,rfl⟩
            ·refine oW (a5M g68) ?_
             cases h
             exact ⟨_,rfl,_,_,rfl,rfl⟩
 ·subst hx
  obtain ⟨a5W,op518,s519,n520,b9a,b9j,n523,b8T,l525⟩:=z69
  refine eSG (oB 2 rfl ?_)
  cases h
  exact A9 ⟨_,_,_,rfl,rfl,rfl⟩
 ·subst hz
  rcases res with ⟨_ | _ | _ | _,_,_⟩ <;> first | exact absurd rfl hn | exact hr.elim | (cases h; exact hr)
theorem a8S (n:Nat) {Φ:j5} (hΦ:Φ.Ok) {d9:List Tok} {at2:Int} {j6:Int} {r:Rs (List Nod × Int) (o5 × Int)} (h:a1V n Φ d9 at2 j6 = some r) :
  E env (.call 128 [.ptr 0 0]) (hP A7 d9 at2 j6) = some (a2r d9 at2 j6 r):=by
 unfold a1V at h
 refine J8 rfl Tryz.func128 rfl rfl ?_
 refine eSG (oB 1 rfl (eSG (oB 1 rfl (eSG (oA 1 rfl ?_)))))
 rcases o7 h with ⟨at4,g1,h⟩ | ⟨⟨at25,at26⟩,g23,h⟩
 ·refine oV (o6 g1) ?_
  refine C8 (G7 (eSG (oA 1 rfl ?_)))
  obtain ⟨⟨r5,at6⟩,g2,h⟩:=o8 h
  refine oV (D7 g2) ?_
  refine C8 ?_
  refine eI rfl h (fun h=>?_) fun h=>?_
  ·refine eSG (oB 1 rfl ?_)
   cases h
   exact A9 ⟨_,_,_,rfl,rfl,rfl⟩
  ·refine D9 ?_
   obtain ⟨y4,g5,h⟩:=P6 h
   refine Q5 (KR:=fun r=>a2w env 128 1 Tryz.f128.results.toList (a2r d9 at2 j6 r)) y4 (fun z22=>[(0,.ptr 0 0),(3,.st 1 F6 z22.1)]) (fun z22=>[(0,.row [.sl A7 d9,.i z22.2,.i j6]),(1,.tip (tpe 10 (List.length z22.1)) (List.length z22.1))]) rfl ?_ (fun z22 hx=>?_) (fun r res hz hr hn=>?_)
   ·replace h:=g5
    clear g5
    refine F7 ?_
    refine U0 rfl ?_
    revert y4
    refine Z7 (fun m (x:List Nod × Int)=>a0x n Φ j6 d9 m x.1 x.2) (fun x=>[(0,.ptr 0 0),(3,.st 1 F6 x.1)]) (fun x=>[(0,.row [.sl A7 d9,.i x.2,.i j6]),(1,.tip (tpe 10 (List.length x.1)) (List.length x.1))]) _ (fun _=>rfl) (fun m5 x y ih h=>?_) n (([]:List Nod),at6)
    obtain ⟨b1Y,a2Z⟩:=x
    rw [a0x] at h
    refine F7 ?_
    refine eSG (oA 1 rfl ?_)
    obtain ⟨at7,g6,h⟩:=o8 h
    refine oV (D8 g6) ?_
    refine oB 2 rfl ?_
    obtain ⟨y7,g8,h⟩:=a3a h
    refine Q5 (KR:=fun r=>a2w env 128 1 Tryz.f128.results.toList (a2r d9 at2 j6 r)) y7 (fun z19=>[(0,.ptr 0 0),(3,.st 1 F6 z19.1)]) (fun z19=>[(0,.row [.sl A7 d9,.i z19.2,.i j6]),(1,.tip (tpe 10 (List.length z19.1)) (List.length z19.1))]) rfl ?_ (fun z19 hx=>?_) (fun r res hz hr hn=>?_)
    ·replace h:=g8
     clear g8
     refine eSG (oA 1 rfl ?_)
     obtain ⟨⟨r8,at9⟩,g9,h⟩:=o8 h
     refine oV (D7 g9) ?_
     refine C8 ?_
     refine eI rfl h (fun h=>?_) fun h=>?_
     ·refine eSG (oA 1 rfl ?_)
      rcases o7 h with ⟨⟨r10,at11⟩,g11,h⟩ | ⟨⟨at13,at14⟩,g13,h⟩
      ·obtain ⟨r10_0,r10_1,r10_2,⟨r10_3,r10_4,r10_5,r10_6⟩,r10_7,r10_8,r10_9⟩:=r10
       refine oV (a5p g11) ?_
       refine oB 3 rfl (q9 (oA 3 rfl ?_))
       obtain ⟨l12,g12,h⟩:=o8 h
       refine oP Q6 g12 ?_
       refine oB 1 rfl ?_
       cases h
       exact ⟨_,rfl,rfl⟩
      ·refine oW (a5p g13) ?_
       cases h
       exact ⟨_,rfl,_,_,rfl,rfl⟩
     ·refine q9 (oA 2 rfl ?_)
      rcases o7 h with ⟨⟨r15,at16⟩,g14,h⟩ | ⟨⟨e18,at19⟩,g16,h⟩
      ·obtain ⟨r15_0,r15_1,r15_2,⟨r15_3,r15_4,r15_5,r15_6⟩,r15_7,r15_8,r15_9⟩:=r15
       refine oV (hΦ.x9 g14) ?_
       refine oA 1 rfl ?_
       obtain ⟨l17,g15,h⟩:=o8 h
       refine oP Q6 g15 ?_
       refine oB 1 rfl ?_
       cases h
       exact ⟨_,rfl,rfl⟩
      ·refine oW (hΦ.x9 g16) ?_
       cases h
       exact ⟨_,rfl,_,_,rfl,rfl⟩
    ·subst hx
     obtain ⟨l551,at552⟩:=z19
     refine eSG (oA 1 rfl ?_)
     obtain ⟨⟨r20,at21⟩,g17,h⟩:=o8 h
     refine oV (D7 g17) ?_
     refine oB 1 rfl ?_
     refine eI rfl h (fun h=>?_) fun h=>?_
     ·refine R5 ?_
      cases h
      exact ⟨_,rfl,rfl⟩
     ·refine D9 ?_
      exact ⟨_,_,rfl,ih (_,_) _ h⟩
    ·subst hz
     rcases res with ⟨_ | _ | _ | _,_,_⟩ <;> first | exact absurd rfl hn | exact hr.elim | (cases h; exact ⟨_,rfl,hr⟩)
   ·subst hx
    obtain ⟨a8M,a3P⟩:=z22
    refine eSG (oA 1 rfl ?_)
    rcases o7 h with ⟨at22,g20,h⟩ | ⟨⟨at23,at24⟩,g21,h⟩
    ·refine oV (o6 g20) ?_
     refine C8 (eSG (oB 2 rfl ?_))
     cases h
     exact A9 ⟨_,_,_,rfl,rfl,rfl⟩
    ·refine oW (o6 g21) ?_
     cases h
     exact ⟨_,_,rfl,rfl⟩
   ·subst hz
    rcases res with ⟨_ | _ | _ | _,_,_⟩ <;> first | exact absurd rfl hn | exact hr.elim | (cases h; exact hr)
 ·refine oW (o6 g23) ?_
  cases h
  exact ⟨_,_,rfl,rfl⟩
theorem a7L (n:Nat) {Φ:j5} (hΦ:Φ.Ok) {d9:List Tok} {at2:Int} {j6:Int} {r:Rs (Nod × Int) (o5 × Int)} (h:a1u n Φ d9 at2 j6 = some r) :
  E env (.call 135 [.ptr 0 0]) (hP A7 d9 at2 j6) = some (a4O d9 at2 j6 r):=by
 unfold a1u at h
 refine J8 rfl Tryz.func135 rfl rfl ?_
 refine eSG (oB 1 rfl (eSG (oA 1 rfl ?_)))
 obtain ⟨at4,g1,h⟩:=o8 h
 refine oV (D8 g1) ?_
 refine oB 2 rfl (eSG (oA 1 rfl ?_))
 obtain ⟨at5,g2,h⟩:=o8 h
 refine oV (D8 g2) ?_
 refine oB 2 rfl (eSG (oA 1 rfl ?_))
 rcases o7 h with ⟨r6,g3,h⟩ | ⟨at20,g16,h⟩
 ·refine oV (K6 g3) ?_
  refine oB 3 rfl (eSG (oB 4 rfl ?_))
  refine F7 ?_
  refine U0 rfl ?_
  obtain ⟨yq,hq⟩:∃ y,y = r:=⟨_,rfl⟩
  rw [<- hq] at h ⊢
  clear hq
  revert yq
  refine Z7 (fun m (x:Int × List Nod × Str × Int)=>a0E n Φ at4 j6 d9 m x.1 x.2.1 x.2.2.1 x.2.2.2) (fun x=>[(0,.ptr 0 0),(2,.ptr 1 0),(3,.ptr 2 0),(4,.ptr 3 0)]) (fun x=>[(0,.row [.sl A7 d9,.i x.1,.i j6]),(1,.row [.i 0,.str [],.i 0,.i 0,.str [],.i 0,.st 4 p8 ([]:List Typ),.st 5 p8 ([]:List Typ),.st 6 F6 ([]:List Nod),.i 0]),(2,.row [.i 53,.str [],.i 0,.i 0,.str [],.i 0,.sl p8 ([]:List Typ),.st 7 p8 ([]:List Typ),.st 8 F6 x.2.1,.i at4]),(3,.row [.i 52,.str x.2.2.1,.i 0,.i 0,.str [],.i 0,.sl p8 ([]:List Typ),.st 9 p8 ([]:List Typ),.st 10 F6 ([]:List Nod),.i x.2.2.2]),(4,.tip 0 0),(5,.tip 0 0),(6,.tip 0 0),(7,.tip 0 0),(8,.tip (tpe 10 (List.length x.2.1)) (List.length x.2.1)),(9,.tip 0 0),(10,.tip 0 0)]) _ (fun _=>rfl) (fun m5 x y ih h=>?_) n ((w64 (at2 + 1)),([(⟨52,r6.text,0,(⟨0,[],0,[]⟩:Typ),[],[],at5⟩:Nod)]:List Nod),r6.text,at5)
  obtain ⟨a2D,l512,s513,a5V⟩:=x
  rw [a0E] at h
  refine F7 ?_
  refine G7 ?_
  refine O6 [2] rfl ?_
  refine oC rfl rfl (oC rfl rfl (oC rfl rfl (J4 rfl ?_)))
  rcases o7 h with ⟨⟨r7,at8⟩,g4,h⟩ | ⟨⟨e18,at19⟩,g15,h⟩
  ·obtain ⟨r7_0,r7_1,r7_2,⟨r7_3,r7_4,r7_5,r7_6⟩,r7_7,r7_8,r7_9⟩:=r7
   refine oV (hΦ.x9 g4) ?_
   refine C8 (oC rfl rfl (J4 rfl ?_))
   obtain ⟨l9,g5,h⟩:=o8 h
   refine oP Q6 g5 ?_
   refine C8 (oC rfl rfl (oC rfl rfl ?_))
   refine a0g ?_
   refine ⟨rfl,?_⟩
   refine eSG (oA 1 rfl ?_)
   obtain ⟨at10,g6,h⟩:=o8 h
   refine oV (D8 g6) ?_
   refine oB 1 rfl (G7 (eSG (oA 1 rfl ?_)))
   obtain ⟨r11,g7,h⟩:=o8 h
   refine oV (F5 g7) ?_
   refine C8 ?_
   refine eI rfl h (fun h=>?_) fun h=>?_
   ·refine eSG (oA 1 rfl ?_)
    rcases o7 h with ⟨r12,g9,h⟩ | ⟨at14,g11,h⟩
    ·refine oV (K6 g9) ?_
     refine oB 3 rfl (eSG (oA 4 rfl ?_))
     obtain ⟨l13,g10,h⟩:=o8 h
     refine oP Q6 g10 ?_
     refine oB 2 rfl ?_
     refine R5 ?_
     exact ⟨_,_,rfl,ih (_,_,_,_) _ h⟩
    ·refine oW (K6 g11) ?_
     cases h
     exact ⟨_,_,rfl,rfl⟩
   ·refine D9 (eSG (oA 1 rfl ?_))
    rcases o7 h with ⟨r15,g12,h⟩ | ⟨at17,g14,h⟩
    ·refine oV (K6 g12) ?_
     refine oB 3 rfl (eSG (oA 4 rfl ?_))
     obtain ⟨l16,g13,h⟩:=o8 h
     refine oP Q6 g13 ?_
     refine oB 2 rfl (eSG (oB 2 rfl ?_))
     cases h
     exact A9 ⟨_,_,_,rfl,rfl,rfl⟩
    ·refine oW (K6 g14) ?_
     cases h
     exact ⟨_,_,rfl,rfl⟩
  ·refine oW (hΦ.x9 g15) ?_
   refine ⟨rfl,rfl,_,_,rfl,?_⟩
   cases h
   exact ⟨_,_,rfl,rfl⟩
 ·refine oW (K6 g16) ?_
  cases h
  exact ⟨_,_,rfl,rfl⟩
theorem a6W (n:Nat) {Φ:j5} (hΦ:Φ.Ok) {d9:List Tok} {at2:Int} {j6:Int} {r:Rs (Nod × Int) (o5 × Int)} (h:a1d n Φ d9 at2 j6 = some r) :
  E env (.call 136 [.ptr 0 0]) (hP A7 d9 at2 j6) = some (a4z d9 at2 j6 r):=by
 unfold a1d at h
 refine J8 rfl Tryz.func136 rfl rfl ?_
 refine eSG (oB 1 rfl (eSG (oA 1 rfl ?_)))
 obtain ⟨at4,g1,h⟩:=o8 h
 refine oV (D8 g1) ?_
 refine oA 1 rfl ?_
 obtain ⟨at5,g2,h⟩:=o8 h
 refine oV (D8 g2) ?_
 refine oB 4 rfl (eSG (oA 1 rfl ?_))
 rcases o7 h with ⟨at6,g3,h⟩ | ⟨⟨at23,at24⟩,g13,h⟩
 ·refine oV (o6 g3) ?_
  refine C8 (eSG (oA 1 rfl ?_))
  rcases o7 h with ⟨⟨r7,at8⟩,g4,h⟩ | ⟨⟨at21,at22⟩,g12,h⟩
  ·refine oV (a2a g4) ?_
   refine oB 2 rfl (eSG (oA 1 rfl ?_))
   rcases o7 h with ⟨⟨r9,at10⟩,g5,h⟩ | ⟨⟨at19,at20⟩,g11,h⟩
   ·obtain ⟨r9_0,r9_1,r9_2,r9_3⟩:=r9
    refine oV (a2b g5) ?_
    refine oB 2 rfl (eSG (oA 1 rfl ?_))
    rcases o7 h with ⟨at11,g6,h⟩ | ⟨⟨at17,at18⟩,g10,h⟩
    ·refine oV (H9 g6) ?_
     refine C8 (eSG (oA 1 rfl ?_))
     rcases o7 h with ⟨⟨r12,at13⟩,g7,h⟩ | ⟨⟨e15,at16⟩,g9,h⟩
     ·refine oV (hΦ.M7 g7) ?_
      refine oB 2 rfl (eSG (oA 4 rfl ?_))
      obtain ⟨l14,g8,h⟩:=o8 h
      refine oP Q6 g8 ?_
      refine oB 2 rfl (eSG (oB 2 rfl ?_))
      cases h
      exact A9 ⟨_,_,_,rfl,rfl,rfl⟩
     ·refine oW (hΦ.M7 g9) ?_
      cases h
      exact ⟨_,_,rfl,rfl⟩
    ·refine oW (H9 g10) ?_
     cases h
     exact ⟨_,_,rfl,rfl⟩
   ·refine oW (a2b g11) ?_
    cases h
    exact ⟨_,_,rfl,rfl⟩
  ·refine oW (a2a g12) ?_
   cases h
   exact ⟨_,_,rfl,rfl⟩
 ·refine oW (o6 g13) ?_
  cases h
  exact ⟨_,_,rfl,rfl⟩
theorem a8k (n:Nat) {Φ:j5} (hΦ:Φ.Ok) {a0Z:Nod} {a0f:List K5} {O1:List Tok} {at4:Int} {a2h:Int} {r:Rs (Nod × Int) (o5 × Int)} (h:a3X n Φ a0Z a0f O1 at4 a2h = some r) :
  E env (.call 115 [.ptr 0 0,.agg (c0 a0Z.op a0Z.s a0Z.n a0Z.t.kind a0Z.t.name a0Z.t.n (.sl p8 a0Z.t.args) (.sl p8 a0Z.ts) (.sl F6 a0Z.l) a0Z.at_),.sl a1E a0f]) (hP A7 O1 at4 a2h) = some (a14 a0Z a0f O1 at4 a2h r):=by
 unfold a3X at h
 obtain ⟨first1_0,first1_1,first1_2,⟨first1_3,first1_4,first1_5,first1_6⟩,first1_7,first1_8,first1_9⟩:=a0Z
 refine J8 rfl Tryz.func115 rfl rfl ?_
 refine eSG (oB 2 rfl (eSG (oB 3 rfl ?_)))
 obtain ⟨y1,g2,h⟩:=P6 h
 refine Q5 (KR:=fun r=>a2w env 115 1 Tryz.f115.results.toList (a14 (Nod.mk first1_0 first1_1 first1_2 (Typ.mk first1_3 first1_4 first1_5 first1_6) first1_7 first1_8 first1_9) a0f O1 at4 a2h r)) y1 (fun z24=>[(6,.ptr 1 0),(7,.ptr 2 0)]) (fun z24=>[(0,.row [.sl A7 O1,.i z24.1,.i a2h]),(1,.row [.i 0,.str [],.i 0,.i 0,.str [],.i 0,.st 3 p8 ([]:List Typ),.st 4 p8 ([]:List Typ),.st 5 F6 ([]:List Nod),.i 0]),(2,.row (c0 z24.2.op z24.2.s z24.2.n z24.2.t.kind z24.2.t.name z24.2.t.n (.sl p8 z24.2.t.args) (.sl p8 z24.2.ts) (.sl F6 z24.2.l) z24.2.at_)),(3,.tip 0 0),(4,.tip 0 0),(5,.tip 0 0)]) rfl ?_ (fun z24 hx=>?_) (fun r res hz hr hn=>?_)
 ·replace h:=g2
  clear g2
  refine eSG (oB 3 rfl ?_)
  refine F7 ?_
  refine U0 rfl ?_
  revert y1
  refine Z7 (fun m (x:Int × Int × Nod)=>N8 n Φ a0f a2h O1 m x.1 x.2.1 x.2.2) (fun x=>[(0,.ptr 0 0),(2,.sl a1E a0f),(6,.ptr 1 0),(7,.ptr 2 0),(14,.i (List.length a0f:Int)),(15,.i x.1)]) (fun x=>[(0,.row [.sl A7 O1,.i x.2.1,.i a2h]),(1,.row [.i 0,.str [],.i 0,.i 0,.str [],.i 0,.st 3 p8 ([]:List Typ),.st 4 p8 ([]:List Typ),.st 5 F6 ([]:List Nod),.i 0]),(2,.row (c0 x.2.2.op x.2.2.s x.2.2.n x.2.2.t.kind x.2.2.t.name x.2.2.t.n (.sl p8 x.2.2.t.args) (.sl p8 x.2.2.ts) (.sl F6 x.2.2.l) x.2.2.at_)),(3,.tip 0 0),(4,.tip 0 0),(5,.tip 0 0)]) _ (fun _=>rfl) (fun m3 x y ih h=>?_) n (0,at4,(Nod.mk first1_0 first1_1 first1_2 (Typ.mk first1_3 first1_4 first1_5 first1_6) first1_7 first1_8 first1_9))
  obtain ⟨x545,b6Q,n547⟩:=x
  obtain ⟨n547_0,n547_1,n547_2,⟨n547_3,n547_4,n547_5,n547_6⟩,n547_7,n547_8,n547_9⟩:=n547
  replace h:N8 n Φ a0f a2h O1 (m3 + 1) x545 b6Q (Nod.mk n547_0 n547_1 n547_2 (Typ.mk n547_3 n547_4 n547_5 n547_6) n547_7 n547_8 n547_9) = some y:=h
  rw [N8] at h
  refine eSG (oB 1 rfl (G7 ?_))
  refine eI rfl h (fun h=>?_) fun h=>?_
  ·refine D9 ?_
   obtain ⟨y4,g5,h⟩:=a3a h
   refine Q5 (KR:=fun r=>a2w env 115 1 Tryz.f115.results.toList (a14 (Nod.mk first1_0 first1_1 first1_2 (Typ.mk first1_3 first1_4 first1_5 first1_6) first1_7 first1_8 first1_9) a0f O1 at4 a2h r)) y4 (fun z23=>[(0,.ptr 0 0),(2,.sl a1E a0f),(6,.ptr 1 0),(7,.ptr 2 0),(14,.i (List.length a0f:Int)),(15,.i z23.1)]) (fun z23=>[(0,.row [.sl A7 O1,.i z23.2.1,.i a2h]),(1,.row [.i 0,.str [],.i 0,.i 0,.str [],.i 0,.st 3 p8 ([]:List Typ),.st 4 p8 ([]:List Typ),.st 5 F6 ([]:List Nod),.i 0]),(2,.row (c0 z23.2.2.op z23.2.2.s z23.2.2.n z23.2.2.t.kind z23.2.2.t.name z23.2.2.t.n (.sl p8 z23.2.2.t.args) (.sl p8 z23.2.2.ts) (.sl F6 z23.2.2.l) z23.2.2.at_)),(3,.tip 0 0),(4,.tip 0 0),(5,.tip 0 0)]) rfl ?_ (fun z23 hx=>?_) (fun r res hz hr hn=>?_)
   ·replace h:=g5
    clear g5
    refine F7 ?_
    refine eSG (oB 2 rfl (eSG (oB 6 rfl ?_)))
    refine F7 ?_
    refine U0 rfl ?_
    revert y4
    refine Z7 (fun m (x:Int × Int × Int × Nod)=>U2 n Φ a2h a0f O1 m x.1 x.2.1 x.2.2.1 x.2.2.2) (fun x=>[(0,.ptr 0 0),(2,.sl a1E a0f),(6,.ptr 1 0),(7,.ptr 2 0),(9,.i x.1),(14,.i (List.length a0f:Int)),(15,.i x.2.1)]) (fun x=>[(0,.row [.sl A7 O1,.i x.2.2.1,.i a2h]),(1,.row [.i 0,.str [],.i 0,.i 0,.str [],.i 0,.st 3 p8 ([]:List Typ),.st 4 p8 ([]:List Typ),.st 5 F6 ([]:List Nod),.i 0]),(2,.row (c0 x.2.2.2.op x.2.2.2.s x.2.2.2.n x.2.2.2.t.kind x.2.2.2.t.name x.2.2.2.t.n (.sl p8 x.2.2.2.t.args) (.sl p8 x.2.2.2.ts) (.sl F6 x.2.2.2.l) x.2.2.2.at_)),(3,.tip 0 0),(4,.tip 0 0),(5,.tip 0 0)]) _ (fun _=>rfl) (fun m6 x y ih h=>?_) n ((w64 ((w64 ((List.length a0f:Int) - 1)) - x545)),x545,b6Q,(Nod.mk n547_0 n547_1 n547_2 (Typ.mk n547_3 n547_4 n547_5 n547_6) n547_7 n547_8 n547_9))
    obtain ⟨k553,x554,b1b,n556⟩:=x
    obtain ⟨n556_0,n556_1,n556_2,⟨n556_3,n556_4,n556_5,n556_6⟩,n556_7,n556_8,n556_9⟩:=n556
    replace h:U2 n Φ a2h a0f O1 (m6 + 1) k553 x554 b1b (Nod.mk n556_0 n556_1 n556_2 (Typ.mk n556_3 n556_4 n556_5 n556_6) n556_7 n556_8 n556_9) = some y:=h
    rw [U2] at h
    refine G7 ?_
    obtain ⟨y6,g7,h⟩:=o8 h
    refine a10 [(0,.ptr 0 0),(2,.sl a1E a0f),(6,.ptr 1 0),(7,.ptr 2 0),(9,.i k553),(14,.i (List.length a0f:Int)),(15,.i x554),(65,.bool y6)] [(0,.row [.sl A7 O1,.i b1b,.i a2h]),(1,.row [.i 0,.str [],.i 0,.i 0,.str [],.i 0,.st 3 p8 ([]:List Typ),.st 4 p8 ([]:List Typ),.st 5 F6 ([]:List Nod),.i 0]),(2,.row (c0 n556_0 n556_1 n556_2 n556_3 n556_4 n556_5 (.sl p8 n556_6) (.sl p8 n556_7) (.sl F6 n556_8) n556_9)),(3,.tip 0 0),(4,.tip 0 0),(5,.tip 0 0)] rfl ?_ ?_
    ·replace h:=g7
     clear g7
     refine q9 (oA 11 rfl ?_)
     refine J5 rfl rfl rfl (fun g8=>?_) (fun g8=>?_)
     ·replace h:=a0K h g8
      refine oA 8 rfl ?_
      obtain ⟨x6,g9,h⟩:=o8 h
      refine a1J a8F g9 rfl rfl rfl rfl rfl rfl rfl rfl ?_
      refine oA 5 rfl ?_
      refine J5 rfl rfl rfl (fun g10=>?_) (fun g10=>?_)
      ·replace h:=a0K h g10
       refine oA 2 rfl ?_
       obtain ⟨x7,g11,h⟩:=o8 h
       refine a1J a6y g11 rfl rfl rfl rfl rfl rfl rfl rfl ?_
       refine oA 10 rfl ?_
       obtain ⟨x8,g12,h⟩:=o8 h
       refine a1J a8F g12 rfl rfl rfl rfl rfl rfl rfl rfl ?_
       refine oA 2 rfl ?_
       obtain ⟨r9,g13,h⟩:=o8 h
       refine V4 rfl rfl rfl rfl rfl (a2S g13) rfl ?_
       refine oB 1 rfl ?_
       cases h
       exact rfl
      ·replace h:=a0J h g10
       refine oB 18 rfl ?_
       cases h
       exact rfl
     ·replace h:=a0J h g8
      refine oB 32 rfl ?_
      cases h
      exact rfl
    ·obtain ⟨x557,rfl⟩:∃ q,q = y6:=⟨_,rfl⟩
     refine eI rfl h (fun h=>?_) fun h=>?_
     ·refine D9 ?_
      refine F7 ?_
      refine G7 ?_
      refine O6 [2,0,0] rfl ?_
      refine oC rfl rfl (oC rfl rfl (oC rfl rfl (oC rfl rfl (oC rfl rfl (oC rfl rfl (oC rfl rfl (oC rfl rfl (J4 rfl ?_))))))))
      obtain ⟨x10,g15,h⟩:=o8 h
      refine a1J a8F g15 rfl rfl rfl rfl rfl rfl rfl rfl ?_
      refine C8 (oC rfl rfl (oC rfl rfl (oC rfl rfl (oC rfl rfl (J4 rfl ?_)))))
      refine oD ?_
      refine C8 (oC rfl rfl (oC rfl rfl ?_))
      refine a0g ?_
      refine ⟨rfl,?_⟩
      refine eSG (oB 8 rfl (G7 ?_))
      refine O6 [] rfl ?_
      refine oC rfl rfl (oC rfl rfl (oC rfl rfl (oC rfl rfl (oC rfl rfl (J4 rfl ?_)))))
      obtain ⟨l11,g16,h⟩:=o8 h
      refine os_subL a6y g16 rfl rfl rfl rfl rfl rfl rfl rfl rfl rfl rfl rfl ?_
      refine C8 (J4 rfl ?_)
      rcases o7 h with ⟨⟨r12,at13⟩,g17,h⟩ | ⟨⟨e19,at20⟩,g22,h⟩
      ·obtain ⟨r12_0,r12_1,r12_2,⟨r12_3,r12_4,r12_5,r12_6⟩,r12_7,r12_8,r12_9⟩:=r12
       refine oV (hΦ.I6 g17) ?_
       refine C8 (J4 rfl ?_)
       rcases o7 h with ⟨⟨r14,at15⟩,g18,h⟩ | ⟨⟨e17,at18⟩,g21,h⟩
       ·obtain ⟨r14_0,r14_1,r14_2,⟨r14_3,r14_4,r14_5,r14_6⟩,r14_7,r14_8,r14_9⟩:=r14
        refine oV (hΦ.O3 g18) ?_
        refine C8 (oC rfl rfl (oC rfl rfl ?_))
        refine a0g ?_
        refine ⟨rfl,?_⟩
        refine eSG (oB 5 rfl (eSG (oB 2 rfl (eSG (oA 2 rfl ?_)))))
        obtain ⟨x16,g19,h⟩:=o8 h
        refine a1J a6y g19 rfl rfl rfl rfl rfl rfl rfl rfl ?_
        refine oB 2 rfl ?_
        refine eI rfl h (fun h=>?_) fun h=>?_
        ·refine R5 ?_
         cases h
         exact ⟨_,rfl,rfl⟩
        ·refine D9 ?_
         exact ⟨_,_,rfl,ih (_,_,_,_) _ h⟩
       ·refine oW (hΦ.O3 g21) ?_
        refine ⟨rfl,rfl,_,_,rfl,?_⟩
        cases h
        exact ⟨_,rfl,_,_,rfl,rfl⟩
      ·refine oW (hΦ.I6 g22) ?_
       refine ⟨rfl,rfl,_,_,rfl,?_⟩
       cases h
       exact ⟨_,rfl,_,_,rfl,rfl⟩
     ·refine R5 ?_
      cases h
      exact ⟨_,rfl,rfl⟩
   ·subst hx
    obtain ⟨x562,at563,n564⟩:=z23
    obtain ⟨n564_0,n564_1,n564_2,⟨n564_3,n564_4,n564_5,n564_6⟩,n564_7,n564_8,n564_9⟩:=n564
    refine q9 (oB 2 rfl ?_)
    exact ⟨_,_,rfl,ih (_,_,_) _ h⟩
   ·subst hz
    rcases res with ⟨_ | _ | _ | _,_,_⟩ <;> first | exact absurd rfl hn | exact hr.elim | (cases h; exact ⟨_,rfl,hr⟩)
  ·refine R5 ?_
   cases h
   exact ⟨_,rfl,rfl⟩
 ·subst hx
  obtain ⟨at568,n569⟩:=z24
  obtain ⟨n569_0,n569_1,n569_2,⟨n569_3,n569_4,n569_5,n569_6⟩,n569_7,n569_8,n569_9⟩:=n569
  refine eSG (oB 2 rfl ?_)
  cases h
  exact A9 ⟨_,_,_,rfl,rfl,rfl⟩
 ·subst hz
  rcases res with ⟨_ | _ | _ | _,_,_⟩ <;> first | exact absurd rfl hn | exact hr.elim | (cases h; exact hr)
theorem a5K (n:Nat) {Φ:j5} (hΦ:Φ.Ok) {d9:List Tok} {at2:Int} {j6:Int} {r:Rs (Nod × Int) (o5 × Int)} (h:a0y n Φ d9 at2 j6 = some r) :
  E env (.call 101 [.ptr 0 0]) (hP A7 d9 at2 j6) = some (a0X d9 at2 j6 r):=by
 unfold a0y at h
 refine J8 rfl Tryz.func101 rfl rfl ?_
 refine eSG (oB 1 rfl (eSG (oA 1 rfl ?_)))
 obtain ⟨at4,g1,h⟩:=o8 h
 refine oV (D8 g1) ?_
 refine oB 2 rfl (eSG (oA 1 rfl ?_))
 rcases o7 h with ⟨at5,g2,h⟩ | ⟨⟨at27,at28⟩,g23,h⟩
 ·refine oV (H9 g2) ?_
  refine C8 (eSG (oA 1 rfl ?_))
  rcases o7 h with ⟨⟨r6,at7⟩,g3,h⟩ | ⟨⟨e25,at26⟩,g22,h⟩
  ·obtain ⟨r6_0,r6_1,r6_2,⟨r6_3,r6_4,r6_5,r6_6⟩,r6_7,r6_8,r6_9⟩:=r6
   refine oV (hΦ.x9 g3) ?_
   refine oB 3 rfl (G7 ?_)
   refine O6 [256] rfl ?_
   refine oC rfl rfl (oC rfl rfl (oC rfl rfl (J4 rfl ?_)))
   rcases o7 h with ⟨⟨r8,at9⟩,g4,h⟩ | ⟨⟨e23,at24⟩,g21,h⟩
   ·obtain ⟨r8_0,r8_1,r8_2,⟨r8_3,r8_4,r8_5,r8_6⟩,r8_7,r8_8,r8_9⟩:=r8
    refine oV (hΦ.F8 g4) ?_
    refine C8 (oC rfl rfl (J4 rfl ?_))
    obtain ⟨l10,g5,h⟩:=o8 h
    refine a6h Q6 g5 rfl rfl rfl rfl (.inr rfl) rfl rfl rfl rfl rfl rfl rfl rfl rfl rfl (a6z (a1I rfl) rfl) rfl rfl rfl ?_
    refine C8 (oC rfl rfl (oC rfl rfl ?_))
    refine a0g ?_
    refine ⟨rfl,?_⟩
    obtain ⟨y6,g7,h⟩:=P6 h
    refine Q5 (KR:=fun r=>a2w env 101 1 Tryz.f101.results.toList (a0X d9 at2 j6 r)) y6 (fun z20=>[(2,.ptr 1 0),(3,.ptr 2 0)]) (fun z20=>[(0,.row [.sl A7 d9,.i z20.1,.i j6]),(1,.row [.i 0,.str [],.i 0,.i 0,.str [],.i 0,.st 3 p8 ([]:List Typ),.st 4 p8 ([]:List Typ),.st 5 F6 ([]:List Nod),.i 0]),(2,.row [.i 24,.str [],.i 0,.i 0,.str [],.i 0,.sl p8 ([]:List Typ),.st 6 p8 ([]:List Typ),.st 7 F6 z20.2,.i at4]),(3,.tip 0 0),(4,.tip 0 0),(5,.tip 0 0),(6,.tip 0 0),(7,.tip (tpe 10 (List.length z20.2)) (List.length z20.2))]) rfl ?_ (fun z20 hx=>?_) (fun r res hz hr hn=>?_)
    ·replace h:=g7
     clear g7
     refine eSG (oA 1 rfl ?_)
     obtain ⟨⟨r11,at12⟩,g8,h⟩:=o8 h
     refine oV (J3 g8) ?_
     refine C8 ?_
     refine eI rfl h (fun h=>?_) fun h=>?_
     ·refine eSG (oB 1 rfl ?_)
      obtain ⟨y10,g11,h⟩:=a3a h
      refine Q5 (KR:=fun r=>a2w env 101 1 Tryz.f101.results.toList (a0X d9 at2 j6 r)) y10 (fun z19=>[(2,.ptr 1 0),(3,.ptr 2 0),(4,.ptr 3 0)]) (fun z19=>[(0,.row [.sl A7 d9,.i z19.1,.i j6]),(1,.row [.i 0,.str [],.i 0,.i 0,.str [],.i 0,.st 4 p8 ([]:List Typ),.st 5 p8 ([]:List Typ),.st 6 F6 ([]:List Nod),.i 0]),(2,.row [.i 24,.str [],.i 0,.i 0,.str [],.i 0,.sl p8 ([]:List Typ),.st 7 p8 ([]:List Typ),.st 8 F6 l10,.i at4]),(3,.row (c0 z19.2.op z19.2.s z19.2.n z19.2.t.kind z19.2.t.name z19.2.t.n (.sl p8 z19.2.t.args) (.sl p8 z19.2.ts) (.sl F6 z19.2.l) z19.2.at_)),(4,.tip 0 0),(5,.tip 0 0),(6,.tip 0 0),(7,.tip 0 0),(8,.tip (tpe 10 (List.length l10)) (List.length l10))]) rfl ?_ (fun z19 hx=>?_) (fun r res hz hr hn=>?_)
      ·replace h:=g11
       clear g11
       refine eSG (oA 1 rfl ?_)
       obtain ⟨r13,g12,h⟩:=o8 h
       refine oV (F5 g12) ?_
       refine C8 ?_
       refine eI rfl h (fun h=>?_) fun h=>?_
       ·refine q9 (oA 1 rfl ?_)
        rcases o7 h with ⟨⟨r14,at15⟩,g14,h⟩ | ⟨⟨e16,at17⟩,g15,h⟩
        ·obtain ⟨r14_0,r14_1,r14_2,⟨r14_3,r14_4,r14_5,r14_6⟩,r14_7,r14_8,r14_9⟩:=r14
         refine oV (hΦ.M0 g14) ?_
         refine oB 1 rfl ?_
         cases h
         exact ⟨_,rfl,rfl⟩
        ·refine oW (hΦ.M0 g15) ?_
         cases h
         exact ⟨_,rfl,_,_,rfl,rfl⟩
       ·refine q9 (oA 1 rfl ?_)
        rcases o7 h with ⟨⟨r18,at19⟩,g16,h⟩ | ⟨⟨e20,at21⟩,g17,h⟩
        ·obtain ⟨r18_0,r18_1,r18_2,⟨r18_3,r18_4,r18_5,r18_6⟩,r18_7,r18_8,r18_9⟩:=r18
         refine oV (hΦ.F8 g16) ?_
         refine oB 1 rfl ?_
         cases h
         exact ⟨_,rfl,rfl⟩
        ·refine oW (hΦ.F8 g17) ?_
         cases h
         exact ⟨_,rfl,_,_,rfl,rfl⟩
      ·subst hx
       obtain ⟨a5W,n518⟩:=z19
       obtain ⟨n518_0,n518_1,n518_2,⟨n518_3,n518_4,n518_5,n518_6⟩,n518_7,n518_8,n518_9⟩:=n518
       refine q9 (oA 4 rfl ?_)
       obtain ⟨l22,g18,h⟩:=o8 h
       refine oP Q6 g18 ?_
       refine oB 2 rfl ?_
       cases h
       exact ⟨_,rfl,rfl⟩
      ·subst hz
       rcases res with ⟨_ | _ | _ | _,_,_⟩ <;> first | exact absurd rfl hn | exact hr.elim | (cases h; exact ⟨_,rfl,hr⟩)
     ·refine D9 ?_
      cases h
      exact ⟨_,rfl,rfl⟩
    ·subst hx
     obtain ⟨b08,l520⟩:=z20
     refine eSG (oB 2 rfl ?_)
     cases h
     exact A9 ⟨_,_,_,rfl,rfl,rfl⟩
    ·subst hz
     rcases res with ⟨_ | _ | _ | _,_,_⟩ <;> first | exact absurd rfl hn | exact hr.elim | (cases h; exact hr)
   ·refine oW (hΦ.F8 g21) ?_
    refine ⟨rfl,rfl,_,_,rfl,?_⟩
    cases h
    exact ⟨_,_,rfl,rfl⟩
  ·refine oW (hΦ.x9 g22) ?_
   cases h
   exact ⟨_,_,rfl,rfl⟩
 ·refine oW (H9 g23) ?_
  cases h
  exact ⟨_,_,rfl,rfl⟩
theorem a8n (n:Nat) {Φ:j5} (hΦ:Φ.Ok) {d9:List Tok} {at2:Int} {j6:Int} {r:Rs (Nod × Int) (o5 × Int)} (h:a1M n Φ d9 at2 j6 = some r) :
  E env (.call 102 [.ptr 0 0]) (hP A7 d9 at2 j6) = some (a19 d9 at2 j6 r):=by
 unfold a1M at h
 refine J8 rfl Tryz.func102 rfl rfl ?_
 refine eSG (oB 1 rfl (eSG (oA 1 rfl ?_)))
 obtain ⟨at4,g1,h⟩:=o8 h
 refine oV (D8 g1) ?_
 refine oB 2 rfl (eSG (oA 1 rfl ?_))
 rcases o7 h with ⟨at5,g2,h⟩ | ⟨⟨at38,at39⟩,g32,h⟩
 ·refine oV (H9 g2) ?_
  refine C8 (eSG (oA 1 rfl ?_))
  rcases o7 h with ⟨⟨r6,at7⟩,g3,h⟩ | ⟨⟨e36,at37⟩,g31,h⟩
  ·obtain ⟨r6_0,r6_1,r6_2,⟨r6_3,r6_4,r6_5,r6_6⟩,r6_7,r6_8,r6_9⟩:=r6
   refine oV (hΦ.x9 g3) ?_
   refine oB 3 rfl (eSG (oA 1 rfl ?_))
   rcases o7 h with ⟨at8,g4,h⟩ | ⟨⟨at34,at35⟩,g30,h⟩
   ·refine oV (o6 g4) ?_
    refine C8 ?_
    obtain ⟨y5,g6,h⟩:=P6 h
    refine Q5 (KR:=fun r=>a2w env 102 1 Tryz.f102.results.toList (a19 d9 at2 j6 r)) y5 (fun z29=>[(0,.ptr 0 0),(2,.ptr 1 0),(3,.ptr 2 0)]) (fun z29=>[(0,.row [.sl A7 d9,.i z29.1,.i j6]),(1,.row [.i 0,.str [],.i 0,.i 0,.str [],.i 0,.st 3 p8 ([]:List Typ),.st 4 p8 ([]:List Typ),.st 5 F6 ([]:List Nod),.i 0]),(2,.row [.i 26,.str [],.i 0,.i 0,.str [],.i 0,.sl p8 ([]:List Typ),.st 6 p8 ([]:List Typ),.st 7 F6 z29.2,.i at4]),(3,.tip 0 0),(4,.tip 0 0),(5,.tip 0 0),(6,.tip 0 0),(7,.tip (tpe 10 (List.length z29.2)) (List.length z29.2))]) rfl ?_ (fun z29 hx=>?_) (fun r res hz hr hn=>?_)
    ·replace h:=g6
     clear g6
     refine F7 ?_
     refine U0 rfl ?_
     revert y5
     refine Z7 (fun m (x:Int × List Nod)=>a0o n Φ j6 d9 m x.1 x.2) (fun x=>[(0,.ptr 0 0),(2,.ptr 1 0),(3,.ptr 2 0)]) (fun x=>[(0,.row [.sl A7 d9,.i x.1,.i j6]),(1,.row [.i 0,.str [],.i 0,.i 0,.str [],.i 0,.st 3 p8 ([]:List Typ),.st 4 p8 ([]:List Typ),.st 5 F6 ([]:List Nod),.i 0]),(2,.row [.i 26,.str [],.i 0,.i 0,.str [],.i 0,.sl p8 ([]:List Typ),.st 6 p8 ([]:List Typ),.st 7 F6 x.2,.i at4]),(3,.tip 0 0),(4,.tip 0 0),(5,.tip 0 0),(6,.tip 0 0),(7,.tip (tpe 10 (List.length x.2)) (List.length x.2))]) _ (fun _=>rfl) (fun m5 x y ih h=>?_) n (at8,([(Nod.mk r6_0 r6_1 r6_2 (Typ.mk r6_3 r6_4 r6_5 r6_6) r6_7 r6_8 r6_9)]:List Nod))
     obtain ⟨a9i,l516⟩:=x
     rw [a0o] at h
     refine G7 (eSG (oA 1 rfl ?_))
     obtain ⟨r9,g7,h⟩:=o8 h
     refine oV (F5 g7) ?_
     refine C8 ?_
     refine eI rfl h (fun h=>?_) fun h=>?_
     ·refine D9 ?_
      refine F7 ?_
      refine eSG (oA 1 rfl ?_)
      obtain ⟨at10,g9,h⟩:=o8 h
      refine oV (D8 g9) ?_
      refine oB 2 rfl (eSG (oB 8 rfl (eSG (oA 1 rfl ?_))))
      rcases o7 h with ⟨⟨r11,at12⟩,g10,h⟩ | ⟨⟨at19,at20⟩,g15,h⟩
      ·obtain ⟨r11_0,r11_1,r11_2,⟨r11_3,r11_4,r11_5,r11_6⟩,r11_7,r11_8,r11_9⟩:=r11
       refine oV (a4Q g10) ?_
       refine oB 3 rfl (G7 ?_)
       refine O6 [320] rfl ?_
       refine oC rfl rfl (oC rfl rfl (oC rfl rfl (J4 rfl ?_)))
       rcases o7 h with ⟨⟨r13,at14⟩,g11,h⟩ | ⟨⟨e17,at18⟩,g14,h⟩
       ·obtain ⟨r13_0,r13_1,r13_2,⟨r13_3,r13_4,r13_5,r13_6⟩,r13_7,r13_8,r13_9⟩:=r13
        refine oV (hΦ.F8 g11) ?_
        refine C8 (oC rfl rfl (J4 rfl ?_))
        obtain ⟨l15,g12,h⟩:=o8 h
        refine a6h Q6 g12 rfl rfl rfl rfl (.inr rfl) rfl rfl rfl rfl rfl rfl rfl rfl rfl rfl (a6z (a1I rfl) rfl) rfl rfl rfl ?_
        refine C8 (oC rfl rfl (oC rfl rfl ?_))
        refine a0g ?_
        refine ⟨rfl,?_⟩
        refine q9 (oA 4 rfl ?_)
        obtain ⟨l16,g13,h⟩:=o8 h
        refine oP Q6 g13 ?_
        refine oB 2 rfl ?_
        exact ⟨_,_,rfl,ih (_,_) _ h⟩
       ·refine oW (hΦ.F8 g14) ?_
        refine ⟨rfl,rfl,_,_,rfl,?_⟩
        cases h
        exact ⟨_,rfl,_,_,rfl,rfl⟩
      ·refine oW (a4Q g15) ?_
       cases h
       exact ⟨_,rfl,_,_,rfl,rfl⟩
     ·refine R5 ?_
      cases h
      exact ⟨_,rfl,rfl⟩
    ·subst hx
     obtain ⟨a9C,l526⟩:=z29
     refine eSG (oA 1 rfl ?_)
     obtain ⟨at21,g16,h⟩:=o8 h
     refine oV (D8 g16) ?_
     refine oA 1 rfl ?_
     obtain ⟨at22,g17,h⟩:=o8 h
     refine oV (D8 g17) ?_
     refine oB 4 rfl ?_
     obtain ⟨y18,g19,h⟩:=P6 h
     refine Q5 (KR:=fun r=>a2w env 102 1 Tryz.f102.results.toList (a19 d9 at2 j6 r)) y18 (fun z28=>[(0,.ptr 0 0),(2,.ptr 1 0),(3,.ptr 2 0)]) (fun z28=>[(0,.row [.sl A7 d9,.i z28.1,.i j6]),(1,.row [.i 0,.str [],.i 0,.i 0,.str [],.i 0,.st 3 p8 ([]:List Typ),.st 4 p8 ([]:List Typ),.st 5 F6 ([]:List Nod),.i 0]),(2,.row [.i 26,.str [],.i 0,.i 0,.str [],.i 0,.sl p8 ([]:List Typ),.st 6 p8 ([]:List Typ),.st 7 F6 z28.2,.i at4]),(3,.tip 0 0),(4,.tip 0 0),(5,.tip 0 0),(6,.tip 0 0),(7,.tip (tpe 10 (List.length z28.2)) (List.length z28.2))]) rfl ?_ (fun z28 hx=>?_) (fun r res hz hr hn=>?_)
     ·replace h:=g19
      clear g19
      refine eSG (oA 1 rfl ?_)
      obtain ⟨⟨r23,at24⟩,g20,h⟩:=o8 h
      refine oV (J3 g20) ?_
      refine C8 ?_
      refine eI rfl h (fun h=>?_) fun h=>?_
      ·refine eSG (oB 4 rfl (G7 ?_))
       refine O6 [384] rfl ?_
       refine oC rfl rfl (oC rfl rfl (oC rfl rfl (J4 rfl ?_)))
       rcases o7 h with ⟨⟨r25,at26⟩,g22,h⟩ | ⟨⟨e29,at30⟩,g25,h⟩
       ·obtain ⟨r25_0,r25_1,r25_2,⟨r25_3,r25_4,r25_5,r25_6⟩,r25_7,r25_8,r25_9⟩:=r25
        refine oV (hΦ.F8 g22) ?_
        refine C8 (oC rfl rfl (J4 rfl ?_))
        obtain ⟨l27,g23,h⟩:=o8 h
        refine a6h Q6 g23 rfl rfl rfl rfl (.inr rfl) rfl rfl rfl rfl rfl rfl rfl rfl rfl rfl (a6z (a1I rfl) rfl) rfl rfl rfl ?_
        refine C8 (oC rfl rfl (oC rfl rfl ?_))
        refine a0g ?_
        refine ⟨rfl,?_⟩
        refine q9 (oA 4 rfl ?_)
        obtain ⟨l28,g24,h⟩:=o8 h
        refine oP Q6 g24 ?_
        refine oB 2 rfl ?_
        cases h
        exact ⟨_,rfl,rfl⟩
       ·refine oW (hΦ.F8 g25) ?_
        refine ⟨rfl,rfl,_,_,rfl,?_⟩
        cases h
        exact ⟨_,rfl,_,_,rfl,rfl⟩
      ·refine D9 ?_
       cases h
       exact ⟨_,rfl,rfl⟩
     ·subst hx
      obtain ⟨a5W,l518⟩:=z28
      refine eSG (oA 1 rfl ?_)
      rcases o7 h with ⟨at31,g26,h⟩ | ⟨⟨at32,at33⟩,g27,h⟩
      ·refine oV (o6 g26) ?_
       refine C8 (eSG (oB 2 rfl ?_))
       cases h
       exact A9 ⟨_,_,_,rfl,rfl,rfl⟩
      ·refine oW (o6 g27) ?_
       cases h
       exact ⟨_,_,rfl,rfl⟩
     ·subst hz
      rcases res with ⟨_ | _ | _ | _,_,_⟩ <;> first | exact absurd rfl hn | exact hr.elim | (cases h; exact hr)
    ·subst hz
     rcases res with ⟨_ | _ | _ | _,_,_⟩ <;> first | exact absurd rfl hn | exact hr.elim | (cases h; exact hr)
   ·refine oW (o6 g30) ?_
    cases h
    exact ⟨_,_,rfl,rfl⟩
  ·refine oW (hΦ.x9 g31) ?_
   cases h
   exact ⟨_,_,rfl,rfl⟩
 ·refine oW (H9 g32) ?_
  cases h
  exact ⟨_,_,rfl,rfl⟩
theorem a9v (n:Nat) {Φ:j5} (hΦ:Φ.Ok) {op1:Int} {C9:List Tok} {at3:Int} {I8:Int} {r:Rs (List Nod × Int × Int) (o5 × Int)} (h:a00 n Φ op1 C9 at3 I8 = some r) :
  E env (.call 103 [.ptr 0 0,.i op1]) (hP A7 C9 at3 I8) = some (a5L op1 C9 at3 I8 r):=by
 unfold a00 at h
 refine J8 rfl Tryz.func103 rfl rfl ?_
 refine eSG (oB 1 rfl (eSG (oA 2 rfl ?_)))
 obtain ⟨at5,g1,h⟩:=o8 h
 refine oV (D8 g1) ?_
 refine oB 2 rfl (eSG (oB 8 rfl (eSG (oA 1 rfl ?_))))
 rcases o7 h with ⟨⟨r6,at7⟩,g2,h⟩ | ⟨⟨e8,at9⟩,g3,h⟩
 ·obtain ⟨r6_0,r6_1,r6_2,⟨r6_3,r6_4,r6_5,r6_6⟩,r6_7,r6_8,r6_9⟩:=r6
  refine oV (hΦ.F8 g2) ?_
  refine oB 3 rfl (eSG (oB 2 rfl ?_))
  cases h
  exact A9 ⟨_,_,_,rfl,rfl,rfl⟩
 ·refine oW (hΦ.F8 g3) ?_
  cases h
  exact ⟨_,_,rfl,rfl⟩
theorem j5.ok:∀ n,(j5.fs n).Ok
 | 0=>⟨(fun h=>by cases h),(fun h=>by cases h),(fun h=>by cases h),(fun h=>by cases h),(fun h=>by cases h),(fun h=>by cases h),(fun h=>by cases h),(fun h=>by cases h),(fun h=>by cases h),(fun h=>by cases h),(fun h=>by cases h),(fun h=>by cases h),(fun h=>by cases h),(fun h=>by cases h),(fun h=>by cases h)⟩
 | n + 1=>⟨(fun h=>a8i n (j5.ok n) h),(fun h=>a5T n (j5.ok n) h),(fun h=>a6l n (j5.ok n) h),(fun h=>a8m n (j5.ok n) h),(fun h=>a8U n (j5.ok n) h),(fun h=>a8p n (j5.ok n) h),(fun h=>a6Z n (j5.ok n) h),(fun h=>a8T n (j5.ok n) h),(fun h=>a8S n (j5.ok n) h),(fun h=>a7L n (j5.ok n) h),(fun h=>a6W n (j5.ok n) h),(fun h=>a8k n (j5.ok n) h),(fun h=>a5K n (j5.ok n) h),(fun h=>a8n n (j5.ok n) h),(fun h=>a9v n (j5.ok n) h)⟩
theorem a2t {n:Nat} {d9:List Tok} {at2:Int} {j6:Int} {r:Rs (Nod × Int) (o5 × Int)} (h:F8 n d9 at2 j6 = some r) :
  E env (.call 70 [.ptr 0 0]) (hP A7 d9 at2 j6) = some (a3q d9 at2 j6 r):=(j5.ok n).F8 h
end Go.Proofs.YtmhiojdkjokccaaGreatDoor
namespace Go.Proofs.YtmhiojdkjokccaaGreatDoor
open Go Go.Vm
theorem a1G {n:Nat} {d9:List Tok} {at2:Int} {j6:Int} {r:Rs (Nod × Int) (o5 × Int)} (h:a0O n d9 at2 j6 = some r) :
  E env (.call 38 [.ptr 0 0]) (hP A7 d9 at2 j6) = some (a6X d9 at2 j6 r):=by
 unfold a0O at h
 refine J8 rfl Tryz.func38 rfl rfl ?_
 refine eSG (oB 1 rfl (eSG (oA 1 rfl ?_)))
 rcases o7 h with ⟨⟨s4,t5,l6,at7,at8⟩,g1,h⟩ | ⟨⟨at14,at15⟩,g5,h⟩
 ·obtain ⟨t5_0,t5_1,t5_2,t5_3⟩:=t5
  refine oV (a1p g1) ?_
  refine oB 2 rfl (eSG (oB 2 rfl (G7 ?_)))
  refine O6 [256] rfl ?_
  refine oC rfl rfl (oC rfl rfl (oC rfl rfl (J4 rfl ?_)))
  rcases o7 h with ⟨⟨r9,at10⟩,g2,h⟩ | ⟨⟨e12,at13⟩,g4,h⟩
  ·obtain ⟨r9_0,r9_1,r9_2,⟨r9_3,r9_4,r9_5,r9_6⟩,r9_7,r9_8,r9_9⟩:=r9
   refine oV (a2t g2) ?_
   refine C8 (oC rfl rfl (J4 rfl ?_))
   obtain ⟨l11,g3,h⟩:=o8 h
   refine oP Q6 g3 ?_
   refine C8 (oC rfl rfl (oC rfl rfl ?_))
   refine a0g ?_
   refine ⟨rfl,?_⟩
   refine eSG (oB 2 rfl ?_)
   cases h
   exact A9 ⟨_,_,_,rfl,rfl,rfl⟩
  ·refine oW (a2t g4) ?_
   refine ⟨rfl,rfl,_,_,rfl,?_⟩
   cases h
   exact ⟨_,_,rfl,rfl⟩
 ·refine oW (a1p g5) ?_
  cases h
  exact ⟨_,_,rfl,rfl⟩
theorem a5c {n:Nat} {d9:List Tok} {at2:Int} {j6:Int} {r:Rs (Nod × Int) (o5 × Int)} (h:a1X n d9 at2 j6 = some r) :
  E env (.call 37 [.ptr 0 0]) (hP A7 d9 at2 j6) = some (a3f d9 at2 j6 r):=by
 unfold a1X at h
 refine J8 rfl Tryz.func37 rfl rfl ?_
 refine eSG (oB 1 rfl (eSG (oA 1 rfl ?_)))
 obtain ⟨at4,g1,h⟩:=o8 h
 refine oV (D8 g1) ?_
 refine oB 2 rfl (eSG (oA 1 rfl ?_))
 rcases o7 h with ⟨at5,g2,h⟩ | ⟨⟨at46,at47⟩,g38,h⟩
 ·refine oV (H9 g2) ?_
  refine C8 (eSG (oA 1 rfl ?_))
  rcases o7 h with ⟨⟨r6,at7⟩,g3,h⟩ | ⟨⟨at44,at45⟩,g37,h⟩
  ·obtain ⟨r6_0,r6_1,r6_2,r6_3⟩:=r6
   refine oV (I7 g3) ?_
   refine oB 2 rfl (eSG (oA 1 rfl ?_))
   rcases o7 h with ⟨at8,g4,h⟩ | ⟨⟨at42,at43⟩,g36,h⟩
   ·refine oV (o6 g4) ?_
    refine C8 (eSG (oA 1 rfl ?_))
    rcases o7 h with ⟨r9,g5,h⟩ | ⟨at41,g35,h⟩
    ·refine oV (F4 g5) ?_
     refine oB 2 rfl (eSG (oA 1 rfl ?_))
     rcases o7 h with ⟨⟨r10,at11⟩,g6,h⟩ | ⟨⟨at39,at40⟩,g34,h⟩
     ·refine oV (a2u g6) ?_
      refine oB 2 rfl (eSG (oA 1 rfl ?_))
      rcases o7 h with ⟨at12,g7,h⟩ | ⟨⟨at37,at38⟩,g33,h⟩
      ·refine oV (o6 g7) ?_
       refine C8 ?_
       obtain ⟨y8,g9,h⟩:=P6 h
       refine Q5 (KR:=fun r=>a2w env 37 1 Tryz.f37.results.toList (a3f d9 at2 j6 r)) y8 (fun z32=>[(0,.ptr 0 0),(2,.ptr 1 0),(3,.ptr 2 0)]) (fun z32=>[(0,.row [.sl A7 d9,.i z32.1,.i j6]),(1,.row [.i 0,.str [],.i 0,.i 0,.str [],.i 0,.st 3 p8 ([]:List Typ),.st 4 p8 ([]:List Typ),.st 5 F6 ([]:List Nod),.i 0]),(2,.row (c0 6 r9 0 r6_0 r6_1 r6_2 (.sl p8 r6_3) (.st 6 p8 ([]:List Typ)) (.st 7 F6 z32.2) at4)),(3,.tip 0 0),(4,.tip 0 0),(5,.tip 0 0),(6,.tip 0 0),(7,.tip (tpe 10 (List.length z32.2)) (List.length z32.2))]) rfl ?_ (fun z32 hx=>?_) (fun r res hz hr hn=>?_)
       ·replace h:=g9
        clear g9
        refine F7 ?_
        refine U0 rfl ?_
        revert y8
        refine Z7 (fun m (x:Int × List Nod)=>Z9 n j6 d9 m x.1 x.2) (fun x=>[(0,.ptr 0 0),(2,.ptr 1 0),(3,.ptr 2 0)]) (fun x=>[(0,.row [.sl A7 d9,.i x.1,.i j6]),(1,.row [.i 0,.str [],.i 0,.i 0,.str [],.i 0,.st 3 p8 ([]:List Typ),.st 4 p8 ([]:List Typ),.st 5 F6 ([]:List Nod),.i 0]),(2,.row (c0 6 r9 0 r6_0 r6_1 r6_2 (.sl p8 r6_3) (.st 6 p8 ([]:List Typ)) (.st 7 F6 x.2) at4)),(3,.tip 0 0),(4,.tip 0 0),(5,.tip 0 0),(6,.tip 0 0),(7,.tip (tpe 10 (List.length x.2)) (List.length x.2))]) _ (fun _=>rfl) (fun m8 x y ih h=>?_) n (at12,r10)
        obtain ⟨a2Z,a8M⟩:=x
        rw [Z9] at h
        refine G7 (eSG (oA 1 rfl ?_))
        obtain ⟨r13,g10,h⟩:=o8 h
        refine oV (F5 g10) ?_
        refine C8 ?_
        refine eI rfl h (fun h=>?_) fun h=>?_
        ·refine D9 ?_
         refine F7 ?_
         refine eSG (oA 1 rfl ?_)
         obtain ⟨at14,g12,h⟩:=o8 h
         refine oV (D8 g12) ?_
         refine oB 2 rfl (eSG (oB 8 rfl (eSG (oA 1 rfl ?_))))
         rcases o7 h with ⟨r15,g13,h⟩ | ⟨at27,g21,h⟩
         ·refine oV (F4 g13) ?_
          refine oB 2 rfl (eSG (oA 1 rfl ?_))
          rcases o7 h with ⟨at16,g14,h⟩ | ⟨⟨at25,at26⟩,g20,h⟩
          ·refine oV (o6 g14) ?_
           refine C8 (eSG (oA 1 rfl ?_))
           rcases o7 h with ⟨⟨r17,at18⟩,g15,h⟩ | ⟨⟨at23,at24⟩,g19,h⟩
           ·obtain ⟨r17_0,r17_1,r17_2,r17_3⟩:=r17
            refine oV (I7 g15) ?_
            refine oB 2 rfl (eSG (oA 1 rfl ?_))
            rcases o7 h with ⟨at19,g16,h⟩ | ⟨⟨at21,at22⟩,g18,h⟩
            ·refine oV (o6 g16) ?_
             refine C8 (q9 (oA 4 rfl ?_))
             obtain ⟨l20,g17,h⟩:=o8 h
             refine oP Q6 g17 ?_
             refine oB 2 rfl ?_
             exact ⟨_,_,rfl,ih (_,_) _ h⟩
            ·refine oW (o6 g18) ?_
             cases h
             exact ⟨_,rfl,_,_,rfl,rfl⟩
           ·refine oW (I7 g19) ?_
            cases h
            exact ⟨_,rfl,_,_,rfl,rfl⟩
          ·refine oW (o6 g20) ?_
           cases h
           exact ⟨_,rfl,_,_,rfl,rfl⟩
         ·refine oW (F4 g21) ?_
          cases h
          exact ⟨_,rfl,_,_,rfl,rfl⟩
        ·refine R5 ?_
         cases h
         exact ⟨_,rfl,rfl⟩
       ·subst hx
        obtain ⟨b07,b2a⟩:=z32
        obtain ⟨y22,g23,h⟩:=P6 h
        refine Q5 (KR:=fun r=>a2w env 37 1 Tryz.f37.results.toList (a3f d9 at2 j6 r)) y22 (fun z31=>[(0,.ptr 0 0),(2,.ptr 1 0),(3,.ptr 2 0)]) (fun z31=>[(0,.row [.sl A7 d9,.i z31.1,.i j6]),(1,.row [.i 0,.str [],.i 0,.i 0,.str [],.i 0,.st 3 p8 ([]:List Typ),.st 4 p8 ([]:List Typ),.st 5 F6 ([]:List Nod),.i 0]),(2,.row (c0 6 r9 0 r6_0 r6_1 r6_2 (.sl p8 r6_3) (.st 6 p8 ([]:List Typ)) (.st 7 F6 z31.2) at4)),(3,.tip 0 0),(4,.tip 0 0),(5,.tip 0 0),(6,.tip 0 0),(7,.tip (tpe 10 (List.length z31.2)) (List.length z31.2))]) rfl ?_ (fun z31 hx=>?_) (fun r res hz hr hn=>?_)
        ·replace h:=g23
         clear g23
         refine F7 ?_
         refine U0 rfl ?_
         revert y22
         refine Z7 (fun m (x:Int × List Nod)=>Y1 n j6 d9 m x.1 x.2) (fun x=>[(0,.ptr 0 0),(2,.ptr 1 0),(3,.ptr 2 0)]) (fun x=>[(0,.row [.sl A7 d9,.i x.1,.i j6]),(1,.row [.i 0,.str [],.i 0,.i 0,.str [],.i 0,.st 3 p8 ([]:List Typ),.st 4 p8 ([]:List Typ),.st 5 F6 ([]:List Nod),.i 0]),(2,.row (c0 6 r9 0 r6_0 r6_1 r6_2 (.sl p8 r6_3) (.st 6 p8 ([]:List Typ)) (.st 7 F6 x.2) at4)),(3,.tip 0 0),(4,.tip 0 0),(5,.tip 0 0),(6,.tip 0 0),(7,.tip (tpe 10 (List.length x.2)) (List.length x.2))]) _ (fun _=>rfl) (fun m16 x y ih h=>?_) n (b07,b2a)
         obtain ⟨a9k,l524⟩:=x
         rw [Y1] at h
         refine G7 (eSG (oA 1 rfl ?_))
         obtain ⟨r28,g24,h⟩:=o8 h
         refine oV (F5 g24) ?_
         refine C8 ?_
         refine eI rfl h (fun h=>?_) fun h=>?_
         ·refine D9 ?_
          refine F7 ?_
          refine eSG (oA 1 rfl ?_)
          rcases o7 h with ⟨⟨r29,at30⟩,g26,h⟩ | ⟨⟨e32,at33⟩,g28,h⟩
          ·obtain ⟨r29_0,r29_1,r29_2,⟨r29_3,r29_4,r29_5,r29_6⟩,r29_7,r29_8,r29_9⟩:=r29
           refine oV (a1G g26) ?_
           refine oB 2 rfl (q9 (oA 4 rfl ?_))
           obtain ⟨l31,g27,h⟩:=o8 h
           refine oP Q6 g27 ?_
           refine oB 2 rfl ?_
           exact ⟨_,_,rfl,ih (_,_) _ h⟩
          ·refine oW (a1G g28) ?_
           cases h
           exact ⟨_,rfl,_,_,rfl,rfl⟩
         ·refine R5 ?_
          cases h
          exact ⟨_,rfl,rfl⟩
        ·subst hx
         obtain ⟨b2q,l536⟩:=z31
         refine eSG (oA 1 rfl ?_)
         rcases o7 h with ⟨at34,g29,h⟩ | ⟨⟨at35,at36⟩,g30,h⟩
         ·refine oV (o6 g29) ?_
          refine C8 (eSG (oB 2 rfl ?_))
          cases h
          exact A9 ⟨_,_,_,rfl,rfl,rfl⟩
         ·refine oW (o6 g30) ?_
          cases h
          exact ⟨_,_,rfl,rfl⟩
        ·subst hz
         rcases res with ⟨_ | _ | _ | _,_,_⟩ <;> first | exact absurd rfl hn | exact hr.elim | (cases h; exact hr)
       ·subst hz
        rcases res with ⟨_ | _ | _ | _,_,_⟩ <;> first | exact absurd rfl hn | exact hr.elim | (cases h; exact hr)
      ·refine oW (o6 g33) ?_
       cases h
       exact ⟨_,_,rfl,rfl⟩
     ·refine oW (a2u g34) ?_
      cases h
      exact ⟨_,_,rfl,rfl⟩
    ·refine oW (F4 g35) ?_
     cases h
     exact ⟨_,_,rfl,rfl⟩
   ·refine oW (o6 g36) ?_
    cases h
    exact ⟨_,_,rfl,rfl⟩
  ·refine oW (I7 g37) ?_
   cases h
   exact ⟨_,_,rfl,rfl⟩
 ·refine oW (H9 g38) ?_
  cases h
  exact ⟨_,_,rfl,rfl⟩
theorem a15 {n:Nat} {d9:List Tok} {at2:Int} {j6:Int} {r:Rs (List Nod × Int) (o5 × Int)} (h:a0j n d9 at2 j6 = some r) :
  E env (.call 43 [.ptr 0 0]) (hP A7 d9 at2 j6) = some (a3g d9 at2 j6 r):=by
 unfold a0j at h
 refine J8 rfl Tryz.func43 rfl rfl ?_
 refine eSG (oB 1 rfl (eSG (oB 1 rfl (eSG (oA 1 rfl ?_)))))
 rcases o7 h with ⟨at4,g1,h⟩ | ⟨⟨at34,at35⟩,g36,h⟩
 ·refine oV (o6 g1) ?_
  refine C8 ?_
  obtain ⟨y2,g3,h⟩:=P6 h
  refine Q5 (KR:=fun r=>a2w env 43 1 Tryz.f43.results.toList (a3g d9 at2 j6 r)) y2 (fun z35=>[(0,.ptr 0 0),(3,.st 1 F6 z35.1)]) (fun z35=>[(0,.row [.sl A7 d9,.i z35.2,.i j6]),(1,.tip (tpe 10 (List.length z35.1)) (List.length z35.1))]) rfl ?_ (fun z35 hx=>?_) (fun r res hz hr hn=>?_)
  ·replace h:=g3
   clear g3
   refine F7 ?_
   refine U0 rfl ?_
   revert y2
   refine Z7 (fun m (x:List Nod × Int)=>a0a n j6 d9 m x.1 x.2) (fun x=>[(0,.ptr 0 0),(3,.st 1 F6 x.1)]) (fun x=>[(0,.row [.sl A7 d9,.i x.2,.i j6]),(1,.tip (tpe 10 (List.length x.1)) (List.length x.1))]) _ (fun _=>rfl) (fun m3 x y ih h=>?_) n (([]:List Nod),at4)
   obtain ⟨b1Z,a2D⟩:=x
   rw [a0a] at h
   refine G7 ?_
   obtain ⟨y4,g5,h⟩:=o8 h
   refine a10 [(0,.ptr 0 0),(3,.st 1 F6 b1Z),(13,.bool y4)] [(0,.row [.sl A7 d9,.i a2D,.i j6]),(1,.tip (tpe 10 (List.length b1Z)) (List.length b1Z))] rfl ?_ ?_
   ·replace h:=g5
    clear g5
    refine q9 (oA 1 rfl ?_)
    obtain ⟨r5,g6,h⟩:=o8 h
    refine oV (F5 g6) ?_
    refine oA 1 rfl ?_
    refine J5 rfl rfl rfl (fun g7=>?_) (fun g7=>?_)
    ·replace h:=a0K h g7
     refine oB 3 rfl ?_
     cases h
     exact rfl
    ·replace h:=a0J h g7
     refine oA 1 rfl ?_
     obtain ⟨r6,g8,h⟩:=o8 h
     refine oV (F5 g8) ?_
     refine oB 1 rfl ?_
     cases h
     exact rfl
   ·obtain ⟨b4U,rfl⟩:∃ q,q = y4:=⟨_,rfl⟩
    refine eI rfl h (fun h=>?_) fun h=>?_
    ·refine D9 ?_
     refine F7 ?_
     refine eSG (oA 1 rfl ?_)
     obtain ⟨at7,g10,h⟩:=o8 h
     refine oV (D8 g10) ?_
     refine oB 2 rfl ?_
     obtain ⟨y11,g12,h⟩:=o8 h
     refine a10 [(0,.ptr 0 0),(3,.st 1 F6 b1Z),(4,.ptr 2 0)] [(0,.row [.sl A7 d9,.i y11.1,.i j6]),(1,.tip (tpe 10 (List.length b1Z)) (List.length b1Z)),(2,.row [.i 13,.str [],.i y11.2,.i 0,.str [],.i 0,.sl p8 ([]:List Typ),.st 3 p8 ([]:List Typ),.st 4 F6 ([]:List Nod),.i at7]),(3,.tip 0 0),(4,.tip 0 0)] rfl ?_ ?_
     ·replace h:=g12
      clear g12
      refine eSG (oA 1 rfl ?_)
      obtain ⟨⟨r8,at9⟩,g13,h⟩:=o8 h
      refine oV (J3 g13) ?_
      refine C8 ?_
      refine eI rfl h (fun h=>?_) fun h=>?_
      ·refine q9 (oB 2 rfl ?_)
       cases h
       exact rfl
      ·refine q9 (oB 8 rfl ?_)
       cases h
       exact rfl
     ·obtain ⟨a3Q,n519⟩:=y11
      refine eSG (oA 1 rfl ?_)
      rcases o7 h with ⟨r10,g15,h⟩ | ⟨at22,g23,h⟩
      ·refine oV (F9 g15) ?_
       refine oB 2 rfl (eSG (oA 1 rfl ?_))
       rcases o7 h with ⟨at11,g16,h⟩ | ⟨⟨at20,at21⟩,g22,h⟩
       ·refine oV (o6 g16) ?_
        refine C8 (eSG (oA 1 rfl ?_))
        rcases o7 h with ⟨⟨r12,at13⟩,g17,h⟩ | ⟨⟨at18,at19⟩,g21,h⟩
        ·obtain ⟨r12_0,r12_1,r12_2,r12_3⟩:=r12
         refine oV (I7 g17) ?_
         refine oB 2 rfl (eSG (oA 1 rfl ?_))
         rcases o7 h with ⟨at14,g18,h⟩ | ⟨⟨at16,at17⟩,g20,h⟩
         ·refine oV (o6 g18) ?_
          refine C8 (q9 (oA 3 rfl ?_))
          obtain ⟨l15,g19,h⟩:=o8 h
          refine oP Q6 g19 ?_
          refine oB 1 rfl ?_
          exact ⟨_,_,rfl,ih (_,_) _ h⟩
         ·refine oW (o6 g20) ?_
          cases h
          exact ⟨_,rfl,_,_,rfl,rfl⟩
        ·refine oW (I7 g21) ?_
         cases h
         exact ⟨_,rfl,_,_,rfl,rfl⟩
       ·refine oW (o6 g22) ?_
        cases h
        exact ⟨_,rfl,_,_,rfl,rfl⟩
      ·refine oW (F9 g23) ?_
       cases h
       exact ⟨_,rfl,_,_,rfl,rfl⟩
    ·refine R5 ?_
     cases h
     exact ⟨_,rfl,rfl⟩
  ·subst hx
   obtain ⟨l520,a9j⟩:=z35
   refine eSG (oA 1 rfl ?_)
   obtain ⟨at23,g24,h⟩:=o8 h
   refine oV (D8 g24) ?_
   refine oB 2 rfl ?_
   obtain ⟨y25,g26,h⟩:=P6 h
   refine Q5 (KR:=fun r=>a2w env 43 1 Tryz.f43.results.toList (a3g d9 at2 j6 r)) y25 (fun z34=>[(0,.ptr 0 0),(3,.st 1 F6 z34.1)]) (fun z34=>[(0,.row [.sl A7 d9,.i z34.2,.i j6]),(1,.tip (tpe 10 (List.length z34.1)) (List.length z34.1))]) rfl ?_ (fun z34 hx=>?_) (fun r res hz hr hn=>?_)
   ·replace h:=g26
    clear g26
    refine eSG (oA 1 rfl ?_)
    obtain ⟨⟨r24,at25⟩,g27,h⟩:=o8 h
    refine oV (J3 g27) ?_
    refine C8 ?_
    refine eI rfl h (fun h=>?_) fun h=>?_
    ·refine eSG (oA 1 rfl ?_)
     rcases o7 h with ⟨⟨r26,at27⟩,g29,h⟩ | ⟨⟨e29,at30⟩,g31,h⟩
     ·obtain ⟨r26_0,r26_1,r26_2,⟨r26_3,r26_4,r26_5,r26_6⟩,r26_7,r26_8,r26_9⟩:=r26
      refine oV (a2t g29) ?_
      refine oB 3 rfl (q9 (oA 3 rfl ?_))
      obtain ⟨l28,g30,h⟩:=o8 h
      refine oP Q6 g30 ?_
      refine oB 1 rfl ?_
      cases h
      exact ⟨_,rfl,rfl⟩
     ·refine oW (a2t g31) ?_
      cases h
      exact ⟨_,rfl,_,_,rfl,rfl⟩
    ·refine D9 ?_
     cases h
     exact ⟨_,rfl,rfl⟩
   ·subst hx
    obtain ⟨l533,b2p⟩:=z34
    refine eSG (oA 1 rfl ?_)
    rcases o7 h with ⟨at31,g32,h⟩ | ⟨⟨at32,at33⟩,g33,h⟩
    ·refine oV (o6 g32) ?_
     refine C8 (eSG (oB 2 rfl ?_))
     cases h
     exact A9 ⟨_,_,_,rfl,rfl,rfl⟩
    ·refine oW (o6 g33) ?_
     cases h
     exact ⟨_,_,rfl,rfl⟩
   ·subst hz
    rcases res with ⟨_ | _ | _ | _,_,_⟩ <;> first | exact absurd rfl hn | exact hr.elim | (cases h; exact hr)
  ·subst hz
   rcases res with ⟨_ | _ | _ | _,_,_⟩ <;> first | exact absurd rfl hn | exact hr.elim | (cases h; exact hr)
 ·refine oW (o6 g36) ?_
  cases h
  exact ⟨_,_,rfl,rfl⟩
theorem a5n {n:Nat} {d9:List Tok} {at2:Int} {j6:Int} {r:Rs (List Nod × Int) (Int × Int)} (h:a1C n d9 at2 j6 = some r) :
  E env (.call 44 [.ptr 0 0]) (hP A7 d9 at2 j6) = some (a13 d9 at2 j6 r):=by
 unfold a1C at h
 refine J8 rfl Tryz.func44 rfl rfl ?_
 refine eSG (oB 1 rfl (eSG (oB 1 rfl (eSG (oA 1 rfl ?_)))))
 rcases o7 h with ⟨at4,g1,h⟩ | ⟨⟨at36,at37⟩,g37,h⟩
 ·refine oV (o6 g1) ?_
  refine C8 ?_
  obtain ⟨y2,g3,h⟩:=P6 h
  refine Q5 (KR:=fun r=>a2w env 44 1 Tryz.f44.results.toList (a13 d9 at2 j6 r)) y2 (fun z36=>[(3,.st 1 F6 z36.1)]) (fun z36=>[(0,.row [.sl A7 d9,.i z36.2,.i j6]),(1,.tip (tpe 10 (List.length z36.1)) (List.length z36.1))]) rfl ?_ (fun z36 hx=>?_) (fun r res hz hr hn=>?_)
  ·replace h:=g3
   clear g3
   refine F7 ?_
   refine U0 rfl ?_
   revert y2
   refine Z7 (fun m (x:List Nod × Int)=>U1 n j6 d9 m x.1 x.2) (fun x=>[(0,.ptr 0 0),(3,.st 1 F6 x.1)]) (fun x=>[(0,.row [.sl A7 d9,.i x.2,.i j6]),(1,.tip (tpe 10 (List.length x.1)) (List.length x.1))]) _ (fun _=>rfl) (fun m3 x y ih h=>?_) n (([]:List Nod),at4)
   obtain ⟨b2V,a9k⟩:=x
   rw [U1] at h
   refine G7 (eSG (oA 1 rfl ?_))
   obtain ⟨⟨r5,at6⟩,g4,h⟩:=o8 h
   refine oV (D7 g4) ?_
   refine oB 1 rfl ?_
   refine eI rfl h (fun h=>?_) fun h=>?_
   ·refine D9 ?_
    refine F7 ?_
    refine eSG (oA 1 rfl ?_)
    obtain ⟨at7,g6,h⟩:=o8 h
    refine oV (D8 g6) ?_
    refine oB 2 rfl ?_
    obtain ⟨y7,g8,h⟩:=o8 h
    refine a10 [(0,.ptr 0 0),(3,.st 1 F6 b2V),(4,.ptr 2 0)] [(0,.row [.sl A7 d9,.i y7.1,.i j6]),(1,.tip (tpe 10 (List.length b2V)) (List.length b2V)),(2,.row [.i 14,.str [],.i y7.2,.i 0,.str [],.i 0,.sl p8 ([]:List Typ),.st 3 p8 ([]:List Typ),.st 4 F6 ([]:List Nod),.i at7]),(3,.tip 0 0),(4,.tip 0 0)] rfl ?_ ?_
    ·replace h:=g8
     clear g8
     refine eSG (oA 1 rfl ?_)
     obtain ⟨⟨r8,at9⟩,g9,h⟩:=o8 h
     refine oV (J3 g9) ?_
     refine C8 ?_
     refine eI rfl h (fun h=>?_) fun h=>?_
     ·refine q9 (oB 2 rfl ?_)
      cases h
      exact rfl
     ·refine D9 ?_
      cases h
      exact rfl
    ·obtain ⟨a9l,b37⟩:=y7
     refine eSG (oA 1 rfl ?_)
     rcases o7 h with ⟨at10,g11,h⟩ | ⟨⟨at34,at35⟩,g35,h⟩
     ·refine oV (H9 g11) ?_
      refine C8 (eSG (oA 1 rfl ?_))
      rcases o7 h with ⟨r11,g12,h⟩ | ⟨at33,g34,h⟩
      ·refine oV (F9 g12) ?_
       refine oB 2 rfl ?_
       obtain ⟨y13,g14,h⟩:=a3a h
       refine Q5 (KR:=fun r=>a2w env 44 1 Tryz.f44.results.toList (a13 d9 at2 j6 r)) y13 (fun z33=>[(0,.ptr 0 0),(3,.st 1 F6 z33.1),(4,.ptr 2 0)]) (fun z33=>[(0,.row [.sl A7 d9,.i z33.2.1,.i j6]),(1,.tip (tpe 10 (List.length z33.1)) (List.length z33.1)),(2,.row [.i 14,.str r11,.i z33.2.2.1,.i 0,.str [],.i 0,.sl p8 ([]:List Typ),.st 3 p8 z33.2.2.2,.st 4 F6 ([]:List Nod),.i at7]),(3,.tip (tpe 4 (List.length z33.2.2.2)) (List.length z33.2.2.2)),(4,.tip 0 0)]) rfl ?_ (fun z33 hx=>?_) (fun r res hz hr hn=>?_)
       ·replace h:=g14
        clear g14
        refine eSG (oA 1 rfl ?_)
        obtain ⟨⟨r12,at13⟩,g15,h⟩:=o8 h
        refine oV (D7 g15) ?_
        refine C8 ?_
        refine eI rfl h (fun h=>?_) fun h=>?_
        ·refine G7 ?_
         refine O6 [2] rfl ?_
         refine oC rfl rfl (oC rfl rfl (oC rfl rfl (J4 rfl ?_)))
         rcases o7 h with ⟨⟨r14,at15⟩,g17,h⟩ | ⟨⟨at27,at28⟩,g29,h⟩
         ·obtain ⟨r14_0,r14_1,r14_2,r14_3⟩:=r14
          refine oV (I7 g17) ?_
          refine C8 (oC rfl rfl (J4 rfl ?_))
          obtain ⟨l16,g18,h⟩:=o8 h
          refine oP a9E g18 ?_
          refine C8 (oC rfl rfl (oC rfl rfl ?_))
          refine a0g ?_
          refine ⟨rfl,?_⟩
          obtain ⟨y19,g20,h⟩:=a3a h
          refine Q5 (KR:=fun r=>a2w env 44 1 Tryz.f44.results.toList (a13 d9 at2 j6 r)) y19 (fun z28=>[(0,.ptr 0 0),(3,.st 1 F6 z28.1),(4,.ptr 2 0)]) (fun z28=>[(0,.row [.sl A7 d9,.i z28.2.1,.i j6]),(1,.tip (tpe 10 (List.length z28.1)) (List.length z28.1)),(2,.row [.i 14,.str r11,.i z28.2.2.1,.i 0,.str [],.i 0,.sl p8 ([]:List Typ),.st 3 p8 z28.2.2.2,.st 4 F6 ([]:List Nod),.i at7]),(3,.tip (tpe 4 (List.length z28.2.2.2)) (List.length z28.2.2.2)),(4,.tip 0 0)]) rfl ?_ (fun z28 hx=>?_) (fun r res hz hr hn=>?_)
          ·replace h:=g20
           clear g20
           refine F7 ?_
           refine U0 rfl ?_
           revert y19
           refine Z7 (fun m (x:List Nod × Int × Int × List Typ)=>Z8 n j6 d9 m x.1 x.2.1 x.2.2.1 x.2.2.2) (fun x=>[(0,.ptr 0 0),(3,.st 1 F6 x.1),(4,.ptr 2 0)]) (fun x=>[(0,.row [.sl A7 d9,.i x.2.1,.i j6]),(1,.tip (tpe 10 (List.length x.1)) (List.length x.1)),(2,.row [.i 14,.str r11,.i x.2.2.1,.i 0,.str [],.i 0,.sl p8 ([]:List Typ),.st 3 p8 x.2.2.2,.st 4 F6 ([]:List Nod),.i at7]),(3,.tip (tpe 4 (List.length x.2.2.2)) (List.length x.2.2.2)),(4,.tip 0 0)]) _ (fun _=>rfl) (fun m11 x y ih h=>?_) n (b2V,at15,b37,l16)
           obtain ⟨l532,b0r,n534,ts535⟩:=x
           rw [Z8] at h
           refine G7 (eSG (oA 1 rfl ?_))
           obtain ⟨⟨r17,at18⟩,g21,h⟩:=o8 h
           refine oV (D7 g21) ?_
           refine C8 ?_
           refine eI rfl h (fun h=>?_) fun h=>?_
           ·refine D9 ?_
            refine F7 ?_
            refine O6 [2] rfl ?_
            refine oC rfl rfl (oC rfl rfl (oC rfl rfl (J4 rfl ?_)))
            rcases o7 h with ⟨⟨r19,at20⟩,g23,h⟩ | ⟨⟨at22,at23⟩,g25,h⟩
            ·obtain ⟨r19_0,r19_1,r19_2,r19_3⟩:=r19
             refine oV (I7 g23) ?_
             refine C8 (oC rfl rfl (J4 rfl ?_))
             obtain ⟨l21,g24,h⟩:=o8 h
             refine oP a9E g24 ?_
             refine C8 (oC rfl rfl (oC rfl rfl ?_))
             refine a0g ?_
             refine ⟨rfl,?_⟩
             exact ⟨_,_,rfl,ih (l532,at20,n534,l21) _ h⟩
            ·refine oW (I7 g25) ?_
             refine ⟨rfl,rfl,_,_,rfl,?_⟩
             cases h
             exact ⟨_,rfl,_,_,rfl,rfl⟩
           ·refine R5 ?_
            cases h
            exact ⟨_,rfl,rfl⟩
          ·subst hx
           obtain ⟨l540,at541,n542,ts543⟩:=z28
           refine q9 (oA 1 rfl ?_)
           rcases o7 h with ⟨at24,g26,h⟩ | ⟨⟨at25,at26⟩,g27,h⟩
           ·refine oV (o6 g26) ?_
            refine C8 ?_
            cases h
            exact ⟨_,rfl,rfl⟩
           ·refine oW (o6 g27) ?_
            cases h
            exact ⟨_,rfl,_,_,rfl,rfl⟩
          ·subst hz
           rcases res with ⟨_ | _ | _ | _,_,_⟩ <;> first | exact absurd rfl hn | exact hr.elim | (cases h; exact ⟨_,rfl,hr⟩)
         ·refine oW (I7 g29) ?_
          refine ⟨rfl,rfl,_,_,rfl,?_⟩
          cases h
          exact ⟨_,rfl,_,_,rfl,rfl⟩
        ·refine D9 ?_
         cases h
         exact ⟨_,rfl,rfl⟩
       ·subst hx
        obtain ⟨l544,b2s,b38,ts547⟩:=z33
        refine eSG (oA 1 rfl ?_)
        rcases o7 h with ⟨at29,g30,h⟩ | ⟨⟨at31,at32⟩,g32,h⟩
        ·refine oV (o6 g30) ?_
         refine C8 (q9 (oA 3 rfl ?_))
         obtain ⟨l30,g31,h⟩:=o8 h
         refine oP Q6 g31 ?_
         refine oB 1 rfl ?_
         exact ⟨_,_,rfl,ih (_,_) _ h⟩
        ·refine oW (o6 g32) ?_
         cases h
         exact ⟨_,rfl,_,_,rfl,rfl⟩
       ·subst hz
        rcases res with ⟨_ | _ | _ | _,_,_⟩ <;> first | exact absurd rfl hn | exact hr.elim | (cases h; exact ⟨_,rfl,hr⟩)
      ·refine oW (F9 g34) ?_
       cases h
       exact ⟨_,rfl,_,_,rfl,rfl⟩
     ·refine oW (H9 g35) ?_
      cases h
      exact ⟨_,rfl,_,_,rfl,rfl⟩
   ·refine R5 ?_
    cases h
    exact ⟨_,rfl,rfl⟩
  ·subst hx
   obtain ⟨l548,b1a⟩:=z36
   refine eSG (oB 2 rfl ?_)
   cases h
   exact A9 ⟨_,_,_,rfl,rfl,rfl⟩
  ·subst hz
   rcases res with ⟨_ | _ | _ | _,_,_⟩ <;> first | exact absurd rfl hn | exact hr.elim | (cases h; exact hr)
 ·refine oW (o6 g37) ?_
  cases h
  exact ⟨_,_,rfl,rfl⟩
end Go.Proofs.YtmhiojdkjokccaaGreatDoor
namespace Go.Proofs.YtmhiojdkjokccaaGreatDoor
open Go Go.Vm
theorem a3J {n:Nat} {d9:List Tok} {at2:Int} {j6:Int} {r:Rs (Nod × Int) (o5 × Int)} (h:a0T n d9 at2 j6 = some r) :
  E env (.call 16 [.ptr 0 0]) (hP A7 d9 at2 j6) = some (a5S d9 at2 j6 r):=by
 unfold a0T at h
 refine J8 rfl Tryz.func16 rfl rfl ?_
 refine eSG (oB 1 rfl (G7 ?_))
 refine F7 ?_
 refine eSG (oA 1 rfl ?_)
 obtain ⟨r4,g1,h⟩:=o8 h
 refine oV (F5 g1) ?_
 refine oB 1 rfl ?_
 refine eI rfl h (fun h=>?_) fun h=>?_
 ·refine eSG (oA 1 rfl ?_)
  rcases o7 h with ⟨⟨r5,at6⟩,g3,h⟩ | ⟨⟨at7,at8⟩,g4,h⟩
  ·obtain ⟨r5_0,r5_1,r5_2,⟨r5_3,r5_4,r5_5,r5_6⟩,r5_7,r5_8,r5_9⟩:=r5
   refine oV (a4A g3) ?_
   refine oB 1 rfl ?_
   cases h
   exact A9 ⟨_,_,_,rfl,rfl,rfl⟩
  ·refine oW (a4A g4) ?_
   cases h
   exact ⟨_,_,rfl,rfl⟩
 ·refine eSG (oA 1 rfl ?_)
  obtain ⟨r9,g5,h⟩:=o8 h
  refine oV (F5 g5) ?_
  refine oB 1 rfl ?_
  refine eI rfl h (fun h=>?_) fun h=>?_
  ·refine eSG (oA 1 rfl ?_)
   rcases o7 h with ⟨⟨r10,at11⟩,g7,h⟩ | ⟨⟨e12,at13⟩,g8,h⟩
   ·obtain ⟨r10_0,r10_1,r10_2,⟨r10_3,r10_4,r10_5,r10_6⟩,r10_7,r10_8,r10_9⟩:=r10
    refine oV (a5c g7) ?_
    refine oB 1 rfl ?_
    cases h
    exact A9 ⟨_,_,_,rfl,rfl,rfl⟩
   ·refine oW (a5c g8) ?_
    cases h
    exact ⟨_,_,rfl,rfl⟩
  ·refine eSG (oA 1 rfl ?_)
   obtain ⟨r14,g9,h⟩:=o8 h
   refine oV (F5 g9) ?_
   refine oB 1 rfl ?_
   refine eI rfl h (fun h=>?_) fun h=>?_
   ·refine eSG (oA 1 rfl ?_)
    rcases o7 h with ⟨⟨r15,at16⟩,g11,h⟩ | ⟨⟨e17,at18⟩,g12,h⟩
    ·obtain ⟨r15_0,r15_1,r15_2,⟨r15_3,r15_4,r15_5,r15_6⟩,r15_7,r15_8,r15_9⟩:=r15
     refine oV (a1G g11) ?_
     refine oB 1 rfl ?_
     cases h
     exact A9 ⟨_,_,_,rfl,rfl,rfl⟩
    ·refine oW (a1G g12) ?_
     cases h
     exact ⟨_,_,rfl,rfl⟩
   ·refine D9 (eSG (oA 1 rfl ?_))
    obtain ⟨at19,g13,h⟩:=o8 h
    refine oV (D8 g13) ?_
    refine oB 2 rfl (G7 (eSG (oA 1 rfl ?_)))
    obtain ⟨⟨r20,at21⟩,g14,h⟩:=o8 h
    refine oV (J3 g14) ?_
    refine C8 ?_
    refine eI rfl h (fun h=>?_) fun h=>?_
    ·refine eSG (oB 2 rfl (eSG (oA 1 rfl ?_)))
     rcases o7 h with ⟨r22,g16,h⟩ | ⟨at32,g22,h⟩
     ·refine oV (F4 g16) ?_
      refine oB 2 rfl (eSG (oA 1 rfl ?_))
      rcases o7 h with ⟨⟨r23,at24⟩,g17,h⟩ | ⟨⟨at30,at31⟩,g21,h⟩
      ·refine oV (R8 g17) ?_
       refine oB 2 rfl (G7 ?_)
       refine O6 [256] rfl ?_
       refine oC rfl rfl (oC rfl rfl (oC rfl rfl (J4 rfl ?_)))
       rcases o7 h with ⟨⟨r25,at26⟩,g18,h⟩ | ⟨⟨e28,at29⟩,g20,h⟩
       ·refine oV (a15 g18) ?_
        refine C8 (J4 rfl ?_)
        obtain ⟨l27,g19,h⟩:=o8 h
        refine b1r Q6 g19 rfl rfl rfl rfl rfl rfl rfl rfl rfl rfl rfl rfl rfl rfl (a6z (a1I (a1S.length Q6 _).symm) rfl) rfl rfl rfl ?_
        refine C8 (oC rfl rfl (oC rfl rfl ?_))
        refine a0g ?_
        refine ⟨rfl,?_⟩
        refine eSG (oB 2 rfl ?_)
        cases h
        exact A9 ⟨_,_,_,rfl,rfl,rfl⟩
       ·refine oW (a15 g20) ?_
        refine ⟨rfl,rfl,_,_,rfl,?_⟩
        cases h
        exact ⟨_,_,rfl,rfl⟩
      ·refine oW (R8 g21) ?_
       cases h
       exact ⟨_,_,rfl,rfl⟩
     ·refine oW (F4 g22) ?_
      cases h
      exact ⟨_,_,rfl,rfl⟩
    ·refine D9 ?_
     obtain ⟨y23,g24,h⟩:=o8 h
     refine a10 [(0,.ptr 0 0),(2,.ptr 1 0),(3,.ptr 2 0)] [(0,.row [.sl A7 d9,.i y23.1,.i j6]),(1,.row [.i 0,.str [],.i 0,.i 0,.str [],.i 0,.st 3 p8 ([]:List Typ),.st 4 p8 ([]:List Typ),.st 5 F6 ([]:List Nod),.i 0]),(2,.row [.i 2,.str [],.i y23.2,.i 0,.str [],.i 0,.sl p8 ([]:List Typ),.st 6 p8 ([]:List Typ),.st 7 F6 ([]:List Nod),.i at19]),(3,.tip 0 0),(4,.tip 0 0),(5,.tip 0 0),(6,.tip 0 0),(7,.tip 0 0)] rfl ?_ ?_
     ·replace h:=g24
      clear g24
      refine eSG (oA 1 rfl ?_)
      obtain ⟨⟨r33,at34⟩,g25,h⟩:=o8 h
      refine oV (J3 g25) ?_
      refine C8 ?_
      refine eI rfl h (fun h=>?_) fun h=>?_
      ·refine q9 (oB 5 rfl ?_)
       cases h
       exact rfl
      ·refine D9 ?_
       cases h
       exact rfl
     ·obtain ⟨b0r,n534⟩:=y23
      obtain ⟨y27,g28,h⟩:=o8 h
      refine a10 [(0,.ptr 0 0),(2,.ptr 1 0),(3,.ptr 2 0)] [(0,.row [.sl A7 d9,.i y27.1,.i j6]),(1,.row [.i 0,.str [],.i 0,.i 0,.str [],.i 0,.st 3 p8 ([]:List Typ),.st 4 p8 ([]:List Typ),.st 5 F6 ([]:List Nod),.i 0]),(2,.row [.i 2,.str [],.i y27.2,.i 0,.str [],.i 0,.sl p8 ([]:List Typ),.st 6 p8 ([]:List Typ),.st 7 F6 ([]:List Nod),.i at19]),(3,.tip 0 0),(4,.tip 0 0),(5,.tip 0 0),(6,.tip 0 0),(7,.tip 0 0)] rfl ?_ ?_
      ·replace h:=g28
       clear g28
       refine eSG (oA 1 rfl ?_)
       obtain ⟨⟨r35,at36⟩,g29,h⟩:=o8 h
       refine oV (J3 g29) ?_
       refine C8 ?_
       refine eI rfl h (fun h=>?_) fun h=>?_
       ·refine q9 (oB 5 rfl ?_)
        cases h
        exact rfl
       ·refine D9 ?_
        cases h
        exact rfl
      ·obtain ⟨b2q,a8O⟩:=y27
       refine G7 ?_
       obtain ⟨y31,g32,h⟩:=o8 h
       refine a10 [(0,.ptr 0 0),(2,.ptr 1 0),(3,.ptr 2 0),(56,.bool y31.1)] [(0,.row [.sl A7 d9,.i y31.2,.i j6]),(1,.row [.i 0,.str [],.i 0,.i 0,.str [],.i 0,.st 3 p8 ([]:List Typ),.st 4 p8 ([]:List Typ),.st 5 F6 ([]:List Nod),.i 0]),(2,.row [.i 2,.str [],.i a8O,.i 0,.str [],.i 0,.sl p8 ([]:List Typ),.st 6 p8 ([]:List Typ),.st 7 F6 ([]:List Nod),.i at19]),(3,.tip 0 0),(4,.tip 0 0),(5,.tip 0 0),(6,.tip 0 0),(7,.tip 0 0)] rfl ?_ ?_
       ·replace h:=g32
        clear g32
        refine q9 (oA 5 rfl ?_)
        refine J5 rfl rfl rfl (fun g33=>?_) (fun g33=>?_)
        ·replace h:=a0K h g33
         refine oA 1 rfl ?_
         obtain ⟨⟨r37,at38⟩,g34,h⟩:=o8 h
         refine oV (J3 g34) ?_
         refine oB 1 rfl ?_
         cases h
         exact rfl
        ·replace h:=a0J h g33
         refine oB 3 rfl ?_
         cases h
         exact rfl
       ·obtain ⟨x537,b6P⟩:=y31
        refine eI rfl h (fun h=>?_) fun h=>?_
        ·refine eSG (oB 2 rfl (eSG (oA 1 rfl ?_)))
         rcases o7 h with ⟨r39,g36,h⟩ | ⟨at49,g42,h⟩
         ·refine oV (F4 g36) ?_
          refine oB 2 rfl (eSG (oA 1 rfl ?_))
          rcases o7 h with ⟨⟨r40,at41⟩,g37,h⟩ | ⟨⟨at47,at48⟩,g41,h⟩
          ·refine oV (R8 g37) ?_
           refine oB 2 rfl (G7 ?_)
           refine O6 [2] rfl ?_
           refine oC rfl rfl (oC rfl rfl (oC rfl rfl (J4 rfl ?_)))
           rcases o7 h with ⟨⟨r42,at43⟩,g38,h⟩ | ⟨⟨at45,at46⟩,g40,h⟩
           ·refine oV (a5n g38) ?_
            refine C8 (J4 rfl ?_)
            obtain ⟨l44,g39,h⟩:=o8 h
            refine b1r Q6 g39 rfl rfl rfl rfl rfl rfl rfl rfl rfl rfl rfl rfl rfl rfl (a6z (a1I (a1S.length Q6 _).symm) rfl) rfl rfl rfl ?_
            refine C8 (oC rfl rfl (oC rfl rfl ?_))
            refine a0g ?_
            refine ⟨rfl,?_⟩
            refine eSG (oB 2 rfl ?_)
            cases h
            exact A9 ⟨_,_,_,rfl,rfl,rfl⟩
           ·refine oW (a5n g40) ?_
            refine ⟨rfl,rfl,_,_,rfl,?_⟩
            cases h
            exact ⟨_,_,rfl,rfl⟩
          ·refine oW (R8 g41) ?_
           cases h
           exact ⟨_,_,rfl,rfl⟩
         ·refine oW (F4 g42) ?_
          cases h
          exact ⟨_,_,rfl,rfl⟩
        ·refine D9 (eSG (oA 1 rfl ?_))
         rcases o7 h with ⟨at50,g43,h⟩ | ⟨⟨at62,at63⟩,g51,h⟩
         ·refine oV (H9 g43) ?_
          refine C8 (eSG (oA 1 rfl ?_))
          rcases o7 h with ⟨r51,g44,h⟩ | ⟨at61,g50,h⟩
          ·refine oV (F4 g44) ?_
           refine oB 2 rfl (eSG (oA 1 rfl ?_))
           rcases o7 h with ⟨⟨r52,at53⟩,g45,h⟩ | ⟨⟨at59,at60⟩,g49,h⟩
           ·refine oV (R8 g45) ?_
            refine oB 2 rfl (G7 ?_)
            refine O6 [2] rfl ?_
            refine oC rfl rfl (oC rfl rfl (oC rfl rfl (J4 rfl ?_)))
            rcases o7 h with ⟨⟨r54,at55⟩,g46,h⟩ | ⟨⟨e57,at58⟩,g48,h⟩
            ·refine oV (a15 g46) ?_
             refine C8 (J4 rfl ?_)
             obtain ⟨l56,g47,h⟩:=o8 h
             refine b1r Q6 g47 rfl rfl rfl rfl rfl rfl rfl rfl rfl rfl rfl rfl rfl rfl (a6z (a1I (a1S.length Q6 _).symm) rfl) rfl rfl rfl ?_
             refine C8 (oC rfl rfl (oC rfl rfl ?_))
             refine a0g ?_
             refine ⟨rfl,?_⟩
             refine eSG (oB 2 rfl ?_)
             cases h
             exact A9 ⟨_,_,_,rfl,rfl,rfl⟩
            ·refine oW (a15 g48) ?_
             refine ⟨rfl,rfl,_,_,rfl,?_⟩
             cases h
             exact ⟨_,_,rfl,rfl⟩
           ·refine oW (R8 g49) ?_
            cases h
            exact ⟨_,_,rfl,rfl⟩
          ·refine oW (F4 g50) ?_
           cases h
           exact ⟨_,_,rfl,rfl⟩
         ·refine oW (H9 g51) ?_
          cases h
          exact ⟨_,_,rfl,rfl⟩
theorem a6E {n:Nat} {d9:List Tok} {at2:Int} {j6:Int} {op4:Int} {s5:Str} {n6:Int} {a7i:Int} {a7m:Str} {n9:Int} {a3o:List Typ} {ts11:List Typ} {l12:List Nod} {at13:Int} {a5t:List Typ} {a7F:List Typ} {a7G:List Nod} {r:Rs (Int × Nod) (o5 × Int)} (h:a4F n d9 at2 j6 op4 s5 n6 a7i a7m n9 a3o ts11 l12 at13 a5t a7F a7G = some r) :
  E env (.call 15 [.ptr 1 0,.ptr 2 0]) [(0,.row [.sl A7 d9,.i at2,.i j6]),(1,.row [.ptr 0 0]),(2,.row (c0 op4 s5 n6 a7i a7m n9 (.sl p8 a3o) (.sl p8 ts11) (.sl F6 l12) at13)),(3,.tip (tpe 4 (List.length a5t)) (List.length a5t)),(4,.tip (tpe 4 (List.length a7F)) (List.length a7F)),(5,.tip (tpe 10 (List.length a7G)) (List.length a7G))] = some (b0i d9 at2 j6 op4 s5 n6 a7i a7m n9 a3o ts11 l12 at13 a5t a7F a7G r):=by
 unfold a4F at h
 refine J8 rfl Tryz.func15 rfl rfl ?_
 refine q9 (oA 1 rfl ?_)
 rcases o7 h with ⟨⟨r17,at18⟩,g1,h⟩ | ⟨⟨e19,at20⟩,g2,h⟩
 ·obtain ⟨r17_0,r17_1,r17_2,⟨r17_3,r17_4,r17_5,r17_6⟩,r17_7,r17_8,r17_9⟩:=r17
  refine oV (a3J g1) ?_
  refine oB 1 rfl ?_
  cases h
  exact ⟨_,_,_,rfl,rfl,rfl⟩
 ·refine oW (a3J g2) ?_
  cases h
  exact ⟨_,_,rfl,rfl⟩
theorem a8l {n:Nat} {d9:List Tok} {at2:Int} {j6:Int} {op4:Int} {s5:Str} {n6:Int} {a7i:Int} {a7m:Str} {n9:Int} {a3o:List Typ} {ts11:List Typ} {l12:List Nod} {at13:Int} {r:Flt × Int × Nod} (h:a2I n d9 at2 j6 op4 s5 n6 a7i a7m n9 a3o ts11 l12 at13 = some r) :
  E env (.call 14 [.ptr 0 0,.func (.func 15) [] [.ptr 1 0,.ptr 2 0]]) [(0,.row [.sl A7 d9,.i at2,.i j6]),(1,.row [.ptr 0 0]),(2,.row (c0 op4 s5 n6 a7i a7m n9 (.st 3 p8 a3o) (.st 4 p8 ts11) (.st 5 F6 l12) at13)),(3,.tip (tpe 4 (List.length a3o)) (List.length a3o)),(4,.tip (tpe 4 (List.length ts11)) (List.length ts11)),(5,.tip (tpe 10 (List.length l12)) (List.length l12))] = some (a7J d9 at2 j6 op4 s5 n6 a7i a7m n9 a3o ts11 l12 at13 r):=by
 unfold a2I at h
 rcases o7 h with ⟨⟨at14,n15⟩,g1,h⟩ | ⟨⟨e16,at17⟩,g2,h⟩
 ·obtain ⟨n15_0,n15_1,n15_2,⟨n15_3,n15_4,n15_5,n15_6⟩,n15_7,n15_8,n15_9⟩:=n15
  cases h
  exact E_via rfl rfl (a6E g1) rfl
 ·cases h
  exact E_via rfl rfl (a6E g2) rfl
theorem a8W {n:Nat} {a6N:Int} {C9:List Tok} {at3:Int} {I8:Int} {r:Int} (h:a1k n a6N C9 at3 I8 = some r) :
  E env (.call 17 [.ptr 0 0,.i a6N]) (hP A7 C9 at3 I8) = some (a3h a6N C9 at3 I8 r):=by
 unfold a1k at h
 refine J8 rfl Tryz.func17 rfl rfl ?_
 obtain ⟨y1,g2,h⟩:=o8 h
 refine a10 [(0,.ptr 0 0),(1,.i a6N)] (hP A7 C9 y1 I8) rfl ?_ ?_
 ·replace h:=g2
  clear g2
  refine eSG (oB 6 rfl ?_)
  refine eI rfl h (fun h=>?_) fun h=>?_
  ·refine q9 (oB 8 rfl ?_)
   cases h
   exact rfl
  ·refine D9 ?_
   cases h
   exact rfl
 ·obtain ⟨a2D,rfl⟩:∃ q,q = y1:=⟨_,rfl⟩
  refine eSG (oB 1 rfl ?_)
  obtain ⟨y4,g5,h⟩:=P6 h
  refine Q5 (KR:=fun r=>a2w env 17 1 Tryz.f17.results.toList (a3h a6N C9 at3 I8 r)) y4 (fun z26=>[(0,.ptr 0 0)]) (fun z26=>(hP A7 C9 z26 I8)) rfl ?_ (fun z26 hx=>?_) (fun r res hz hr hn=>?_)
  ·replace h:=g5
   clear g5
   refine eSG (oB 2 rfl ?_)
   refine F7 ?_
   refine U0 rfl ?_
   revert y4
   refine Z7 (fun m (x:Int × Int × Int)=>a0c n C9 m x.1 x.2.1 x.2.2) (fun x=>[(0,.ptr 0 0),(4,.i x.1),(5,.i x.2.1)]) (fun x=>[(0,.row [.sl A7 C9,.i x.2.2,.i I8])]) _ (fun _=>rfl) (fun m4 x y ih h=>?_) n (0,a6N,a2D)
   obtain ⟨a7q,i513,a5V⟩:=x
   rw [a0c] at h
   refine G7 (eSG (oB 7 rfl ?_))
   refine eI rfl h (fun h=>?_) fun h=>?_
   ·refine D9 ?_
    obtain ⟨y7,g8,h⟩:=a3a h
    refine Q5 (KR:=fun r=>a2w env 17 1 Tryz.f17.results.toList (a3h a6N C9 at3 I8 r)) y7 (fun z25=>[(0,.ptr 0 0),(4,.i z25),(5,.i i513)]) (fun z25=>(hP A7 C9 a5V I8)) rfl ?_ (fun z25 hx=>?_) (fun r res hz hr hn=>?_)
    ·replace h:=g8
     clear g8
     refine F7 ?_
     refine eSG (oA 5 rfl ?_)
     obtain ⟨x5,g9,h⟩:=o8 h
     refine a1J a8F g9 rfl rfl rfl rfl rfl rfl rfl rfl ?_
     refine a8h (c:=[.i x5.kind,.str x5.text,.i x5.at_,.i x5.len]) rfl rfl rfl rfl rfl rfl rfl ?_
     refine oB 2 rfl (G7 ?_)
     obtain ⟨y10,g11,h⟩:=o8 h
     refine a10 [(0,.ptr 0 0),(4,.i a7q),(5,.i i513),(6,.ptr 1 0),(57,.bool y10)] [(0,.row [.sl A7 C9,.i a5V,.i I8]),(1,.row [.i x5.kind,.str x5.text,.i x5.at_,.i x5.len])] rfl ?_ ?_
     ·replace h:=g11
      clear g11
      refine q9 (oA 7 rfl ?_)
      refine J5 rfl rfl rfl (fun g12=>?_) (fun g12=>?_)
      ·replace h:=a0K h g12
       refine oA 4 rfl ?_
       refine J5 rfl rfl rfl (fun g13=>?_) (fun g13=>?_)
       ·replace h:=a0K h g13
        refine oA 5 rfl ?_
        refine J5 rfl rfl rfl (fun g14=>?_) (fun g14=>?_)
        ·replace h:=a0K h g14
         refine oA 3 rfl ?_
         obtain ⟨r6,g15,h⟩:=o8 h
         refine V4 rfl rfl rfl rfl rfl (a2S g15) rfl ?_
         refine oB 1 rfl ?_
         cases h
         exact rfl
        ·replace h:=a0J h g14
         refine oB 5 rfl ?_
         cases h
         exact rfl
       ·replace h:=a0J h g13
        refine oB 10 rfl ?_
        cases h
        exact rfl
      ·replace h:=a0J h g12
       refine oB 14 rfl ?_
       cases h
       exact rfl
     ·obtain ⟨x515,rfl⟩:∃ q,q = y10:=⟨_,rfl⟩
      refine eI rfl h (fun h=>?_) fun h=>?_
      ·refine eSG (oB 5 rfl ?_)
       cases h
       exact A9 ⟨_,rfl,_,_,_,rfl,rfl,rfl⟩
      ·refine D9 ?_
       obtain ⟨y17,g18,h⟩:=o8 h
       refine a10 [(0,.ptr 0 0),(4,.i a7q),(5,.i i513),(6,.ptr 1 0),(69,.bool y17)] [(0,.row [.sl A7 C9,.i a5V,.i I8]),(1,.row [.i x5.kind,.str x5.text,.i x5.at_,.i x5.len])] rfl ?_ ?_
       ·replace h:=g18
        clear g18
        refine q9 (oA 4 rfl ?_)
        refine J5 rfl rfl rfl (fun g19=>?_) (fun g19=>?_)
        ·replace h:=a0K h g19
         refine oB 4 rfl ?_
         cases h
         exact rfl
        ·replace h:=a0J h g19
         refine oB 4 rfl ?_
         cases h
         exact rfl
       ·obtain ⟨x516,rfl⟩:∃ q,q = y17:=⟨_,rfl⟩
        refine eI rfl h (fun h=>?_) fun h=>?_
        ·refine q9 (oB 3 rfl ?_)
         cases h
         exact ⟨_,rfl,rfl⟩
        ·obtain ⟨y21,g22,h⟩:=o8 h
         refine a10 [(0,.ptr 0 0),(4,.i a7q),(5,.i i513),(79,.bool y21)] (hP A7 C9 a5V I8) rfl ?_ ?_
         ·replace h:=g22
          clear g22
          refine q9 (oA 4 rfl ?_)
          refine J5 rfl rfl rfl (fun g23=>?_) (fun g23=>?_)
          ·replace h:=a0K h g23
           refine oB 4 rfl ?_
           cases h
           exact rfl
          ·replace h:=a0J h g23
           refine oB 4 rfl ?_
           cases h
           exact rfl
         ·obtain ⟨b4U,rfl⟩:∃ q,q = y21:=⟨_,rfl⟩
          refine eI rfl h (fun h=>?_) fun h=>?_
          ·refine q9 (oB 3 rfl ?_)
           cases h
           exact ⟨_,rfl,rfl⟩
          ·refine D9 ?_
           cases h
           exact ⟨_,rfl,rfl⟩
    ·subst hx
     obtain ⟨b9k,rfl⟩:∃ q,q = z25:=⟨_,rfl⟩
     refine q9 (oB 3 rfl ?_)
     exact ⟨_,_,rfl,ih (_,_,_) _ h⟩
    ·subst hz
     rcases res with ⟨_ | _ | _ | _,_,_⟩ <;> first | exact absurd rfl hn | exact hr.elim | (cases h; exact ⟨_,rfl,hr⟩)
   ·refine R5 ?_
    cases h
    exact ⟨_,rfl,rfl⟩
  ·subst hx
   obtain ⟨b09,rfl⟩:∃ q,q = z26:=⟨_,rfl⟩
   refine q9 (oB 9 rfl ?_)
   cases h
   exact ⟨_,_,_,rfl,rfl,rfl⟩
  ·subst hz
   rcases res with ⟨_ | _ | _ | _,_,_⟩ <;> first | exact absurd rfl hn | exact hr.elim | (cases h; exact hr)
structure V5.Ok (Φ:V5):Prop where
 a1B:∀ {n1:Nod} {r:Int × Int},Φ.a1B n1 = some r -> E env (.call 9 [.agg (c0 n1.op n1.s n1.n n1.t.kind n1.t.name n1.t.n (.sl p8 n1.t.args) (.sl p8 n1.ts) (.sl F6 n1.l) n1.at_)]) [] = some (a6F n1 r)
theorem b21 (n:Nat) {Φ:V5} (hΦ:Φ.Ok) {n1:Nod} {r:Int × Int} (h:a5b n Φ n1 = some r) :
  E env (.call 9 [.agg (c0 n1.op n1.s n1.n n1.t.kind n1.t.name n1.t.n (.sl p8 n1.t.args) (.sl p8 n1.ts) (.sl F6 n1.l) n1.at_)]) [] = some (a6F n1 r):=by
 unfold a5b at h
 obtain ⟨n1_0,n1_1,n1_2,⟨n1_3,n1_4,n1_5,n1_6⟩,n1_7,n1_8,n1_9⟩:=n1
 refine J8 rfl Tryz.func9 rfl rfl ?_
 refine eSG (oB 3 rfl (eSG (oB 1 rfl ?_)))
 obtain ⟨y1,g2,h⟩:=o8 h
 refine a10 [(2,.i y1.1),(3,.i y1.2)] [] rfl ?_ ?_
 ·replace h:=g2
  clear g2
  refine eSG (oB 4 rfl ?_)
  refine F7 ?_
  refine U0 rfl ?_
  revert y1
  refine Z7 (fun m (x:Int × Int × Int)=>a2g n Φ (Nod.mk n1_0 n1_1 n1_2 (Typ.mk n1_3 n1_4 n1_5 n1_6) n1_7 n1_8 n1_9) m x.1 x.2.1 x.2.2) (fun x=>[(2,.i x.1),(3,.i x.2.1),(9,.sl F6 n1_8),(10,.i (List.length n1_8:Int)),(11,.i x.2.2)]) (fun x=>[]) _ (fun _=>rfl) (fun m3 x y ih h=>?_) n (1,0,0)
  obtain ⟨a6C,b1d,b4T⟩:=x
  replace h:a2g n Φ (Nod.mk n1_0 n1_1 n1_2 (Typ.mk n1_3 n1_4 n1_5 n1_6) n1_7 n1_8 n1_9) (m3 + 1) a6C b1d b4T = some y:=h
  rw [a2g] at h
  refine eSG (oB 1 rfl (G7 ?_))
  refine eI rfl h (fun h=>?_) fun h=>?_
  ·refine D9 (G7 ?_)
   refine F7 ?_
   refine eSG ?_
   obtain ⟨x2,g4,h⟩:=o8 h
   obtain ⟨x2_0,x2_1,x2_2,⟨x2_3,x2_4,x2_5,x2_6⟩,x2_7,x2_8,x2_9⟩:=x2
   refine a1J Q6 g4 rfl rfl rfl rfl rfl rfl rfl rfl ?_
   refine a8h (c:=(c0 x2_0 x2_1 x2_2 x2_3 x2_4 x2_5 (.sl p8 x2_6) (.sl p8 x2_7) (.sl F6 x2_8) x2_9)) rfl rfl rfl rfl rfl rfl rfl ?_
   refine oB 2 rfl (eSG (oA 1 rfl ?_))
   obtain ⟨⟨r3,r4⟩,g5,h⟩:=o8 h
   refine V4 rfl rfl rfl rfl rfl (hΦ.a1B g5) rfl ?_
   refine oB 5 rfl (eSG (oB 4 rfl (q9 (oB 4 rfl (q9 (oB 2 rfl ?_))))))
   exact ⟨_,_,rfl,ih (_,_,_) _ h⟩
  ·refine R5 ?_
   cases h
   exact rfl
 ·obtain ⟨b1p,b6X⟩:=y1
  refine eSG (oB 5 rfl ?_)
  cases h
  exact A9 ⟨_,_,_,rfl,rfl,rfl⟩
theorem V5.ok:∀ n,(V5.fs n).Ok
 | 0=>⟨(fun h=>by cases h)⟩
 | n + 1=>⟨(fun h=>b21 n (V5.ok n) h)⟩
theorem b41 {n:Nat} {n1:Nod} {r:Int × Int} (h:a1B n n1 = some r) :
  E env (.call 9 [.agg (c0 n1.op n1.s n1.n n1.t.kind n1.t.name n1.t.n (.sl p8 n1.t.args) (.sl p8 n1.ts) (.sl F6 n1.l) n1.at_)]) [] = some (a6F n1 r):=(V5.ok n).a1B h
end Go.Proofs.YtmhiojdkjokccaaGreatDoor
namespace Go.Proofs.YtmhiojdkjokccaaGreatDoor
open Go Go.Vm
theorem b2Z {n:Nat} {a0W:Str} {r:Nod × List Flt} (h:a6j n a0W = some r) :
  E env (.call 8 [.str a0W]) [] = some (b2h a0W r):=by
 unfold a6j at h
 refine J8 rfl Tryz.func8 rfl rfl ?_
 refine eSG (oB 2 rfl (eSG (oA 1 rfl ?_)))
 obtain ⟨⟨r2,O1⟩,g1,h⟩:=o8 h
 refine oV (b4k g1) ?_
 refine oB 7 rfl (G7 (eSG (oA 1 rfl ?_)))
 refine oD ?_
 refine oB 1 rfl ?_
 refine eI rfl h (fun h=>?_) fun h=>?_
 ·refine G7 ?_
  refine O6 [384] rfl ?_
  refine J4 rfl ?_
  refine oD ?_
  refine C8 (oC rfl rfl (oC rfl rfl (oC rfl rfl (oC rfl rfl ?_))))
  refine a0g ?_
  refine ⟨rfl,?_⟩
  cases h
  exact A9 ⟨_,_,_,rfl,rfl,rfl⟩
 ·refine D9 (eSG ?_)
  refine oD ?_
  refine oB 2 rfl (eSG (oB 1 rfl (eSG (oB 1 rfl ?_))))
  obtain ⟨y3,g4,h⟩:=o8 h
  refine a10 [(2,.ptr 0 0),(6,.ptr 1 0),(8,.st 2 a6x y3.1)] [(0,.row [.i 0,.str [],.i 0,.i 0,.str [],.i 0,.st 3 p8 ([]:List Typ),.st 4 p8 ([]:List Typ),.st 5 F6 ([]:List Nod),.i 0]),(1,.row [.i 1,.str [],.i 0,.i 0,.str [],.i 0,.st 6 p8 ([]:List Typ),.st 7 p8 ([]:List Typ),.st 8 F6 y3.2,.i 0]),(2,.tip (tpe 2 (List.length y3.1)) (List.length y3.1)),(3,.tip 0 0),(4,.tip 0 0),(5,.tip 0 0),(6,.tip 0 0),(7,.tip 0 0),(8,.tip (tpe 10 (List.length y3.2)) (List.length y3.2))] rfl ?_ ?_
  ·replace h:=g4
   clear g4
   refine F7 ?_
   refine U0 rfl ?_
   revert y3
   refine Z7 (fun m (x:Int × List Flt × List Nod × Int)=>X8 n a0W O1 m x.1 x.2.1 x.2.2.1 x.2.2.2) (fun x=>[(2,.ptr 0 0),(4,.ptr 1 0),(6,.ptr 2 0),(7,.i x.1),(8,.st 3 a6x x.2.1)]) (fun x=>[(0,.row [.i 0,.str [],.i 0,.i 0,.str [],.i 0,.st 4 p8 ([]:List Typ),.st 5 p8 ([]:List Typ),.st 6 F6 ([]:List Nod),.i 0]),(1,.row [.ptr 7 0]),(2,.row [.i 1,.str [],.i 0,.i 0,.str [],.i 0,.st 8 p8 ([]:List Typ),.st 9 p8 ([]:List Typ),.st 10 F6 x.2.2.1,.i 0]),(3,.tip (tpe 2 (List.length x.2.1)) (List.length x.2.1)),(4,.tip 0 0),(5,.tip 0 0),(6,.tip 0 0),(7,.row [.sl A7 O1,.i x.2.2.2,.i (List.length a0W:Int)]),(8,.tip 0 0),(9,.tip 0 0),(10,.tip (tpe 10 (List.length x.2.2.1)) (List.length x.2.2.1))]) _ (fun _=>rfl) (fun m7 x y ih h=>?_) n (1,([]:List Flt),([]:List Nod),0)
   obtain ⟨a6T,a3A,b2a,a9i⟩:=x
   rw [X8] at h
   refine G7 ?_
   obtain ⟨y5,g6,h⟩:=o8 h
   refine a10 [(2,.ptr 0 0),(4,.ptr 1 0),(6,.ptr 2 0),(7,.i a6T),(8,.st 3 a6x a3A),(41,.bool y5)] [(0,.row [.i 0,.str [],.i 0,.i 0,.str [],.i 0,.st 4 p8 ([]:List Typ),.st 5 p8 ([]:List Typ),.st 6 F6 ([]:List Nod),.i 0]),(1,.row [.ptr 7 0]),(2,.row [.i 1,.str [],.i 0,.i 0,.str [],.i 0,.st 8 p8 ([]:List Typ),.st 9 p8 ([]:List Typ),.st 10 F6 b2a,.i 0]),(3,.tip (tpe 2 (List.length a3A)) (List.length a3A)),(4,.tip 0 0),(5,.tip 0 0),(6,.tip 0 0),(7,.row [.sl A7 O1,.i a9i,.i (List.length a0W:Int)]),(8,.tip 0 0),(9,.tip 0 0),(10,.tip (tpe 10 (List.length b2a)) (List.length b2a))] rfl ?_ ?_
   ·replace h:=g6
    clear g6
    refine q9 (oA 11 rfl ?_)
    refine J5 rfl rfl rfl (fun g7=>?_) (fun g7=>?_)
    ·replace h:=a0K h g7
     refine oB 4 rfl ?_
     cases h
     exact rfl
    ·replace h:=a0J h g7
     refine oB 4 rfl ?_
     cases h
     exact rfl
   ·obtain ⟨x522,rfl⟩:∃ q,q = y5:=⟨_,rfl⟩
    refine eI rfl h (fun h=>?_) fun h=>?_
    ·refine D9 ?_
     refine F7 ?_
     refine eSG (oA 5 rfl ?_)
     obtain ⟨r4,g9,h⟩:=o8 h
     refine a99 rfl rfl rfl (a8E rfl rfl rfl (a3Z g9) rfl rfl rfl) ?_
     refine oB 2 rfl (eSG (oB 1 rfl (eSG (oA 2 rfl ?_))))
     obtain ⟨⟨r5,at6,n7⟩,g10,h⟩:=o8 h
     obtain ⟨n7_0,n7_1,n7_2,⟨n7_3,n7_4,n7_5,n7_6⟩,n7_7,n7_8,n7_9⟩:=n7
     refine oV (a8l g10) ?_
     refine oB 2 rfl (G7 (eSG (oA 1 rfl ?_)))
     refine oD ?_
     refine oB 1 rfl ?_
     refine eI rfl h (fun h=>?_) fun h=>?_
     ·refine eSG (oA 3 rfl ?_)
      obtain ⟨l8,g12,h⟩:=o8 h
      refine oP a3S g12 ?_
      refine oB 1 rfl (eSG (oA 2 rfl ?_))
      obtain ⟨at9,g13,h⟩:=o8 h
      refine oV (a8W g13) ?_
      refine C8 ?_
      refine R5 ?_
      exact ⟨_,_,rfl,ih (_,_,_,_) _ h⟩
     ·refine D9 (eSG (oA 1 rfl ?_))
      obtain ⟨⟨r10,r11⟩,g14,h⟩:=o8 h
      refine V4 rfl rfl rfl rfl rfl (b41 g14) rfl ?_
      refine oB 5 rfl ?_
      refine F7 ?_
      refine eSG (oB 4 rfl ?_)
      refine eI rfl h (fun h=>?_) fun h=>?_
      ·refine q9 (oA 2 rfl ?_)
       refine oD ?_
       refine oA 1 rfl ?_
       obtain ⟨l12,g16,h⟩:=o8 h
       refine oP a3S g16 ?_
       refine oB 1 rfl ?_
       exact ⟨_,_,rfl,ih (_,_,_,_) _ h⟩
      ·refine eSG (oB 5 rfl ?_)
       refine eI rfl h (fun h=>?_) fun h=>?_
       ·refine q9 (oA 2 rfl ?_)
        refine oD ?_
        refine oA 1 rfl ?_
        obtain ⟨l13,g18,h⟩:=o8 h
        refine oP a3S g18 ?_
        refine oB 1 rfl ?_
        exact ⟨_,_,rfl,ih (_,_,_,_) _ h⟩
       ·refine eSG (oB 4 rfl (q9 (oA 4 rfl ?_)))
        obtain ⟨l14,g19,h⟩:=o8 h
        refine oP Q6 g19 ?_
        refine oB 2 rfl ?_
        exact ⟨_,_,rfl,ih (_,_,_,_) _ h⟩
    ·refine R5 ?_
     cases h
     exact rfl
  ·obtain ⟨b5j,l528⟩:=y3
   refine eSG (oB 4 rfl ?_)
   cases h
   exact A9 ⟨_,_,_,rfl,rfl,rfl⟩
theorem a9L {n:Nat} {a0W:Str} {r:Bool} (h:a3G n a0W = some r) :
  E env (.call 3 [.str a0W]) [] = some (a5m a0W r):=by
 unfold a3G at h
 refine J8 rfl Tryz.func3 rfl rfl ?_
 refine eSG (oB 1 rfl (G7 (eSG (oA 1 rfl ?_))))
 obtain ⟨_,g1,h⟩:=o8 h
 refine V4 rfl rfl rfl rfl rfl (b4Z g1) rfl ?_
 refine C8 ?_
 refine eI rfl h (fun h=>?_) fun h=>?_
 ·refine eSG ?_
  obtain ⟨bb2,g3,h⟩:=o8 h
  refine V4 rfl rfl rfl rfl rfl (b1N g3) rfl ?_
  refine oB 1 rfl ?_
  cases h
  exact A9 ⟨_,_,_,rfl,rfl,rfl⟩
 ·refine D9 (eSG (oA 1 rfl ?_))
  obtain ⟨⟨l3,c4,a5⟩,g4,h⟩:=o8 h
  refine V4 rfl rfl rfl rfl rfl (b4C g4) rfl ?_
  refine oB 6 rfl (eSG (oA 1 rfl ?_))
  obtain ⟨⟨r6,r7⟩,g5,h⟩:=o8 h
  obtain ⟨r6_0,r6_1,r6_2,⟨r6_3,r6_4,r6_5,r6_6⟩,r6_7,r6_8,r6_9⟩:=r6
  refine V4 rfl rfl rfl rfl rfl (b2Z g5) rfl ?_
  refine oB 6 rfl (G7 (eSG (oB 3 rfl ?_)))
  refine eI rfl h (fun h=>?_) fun h=>?_
  ·refine eSG (oA 4 rfl ?_)
   refine J5 rfl rfl rfl (fun g7=>?_) (fun g7=>?_)
   ·replace h:=a0K h g7
    refine oA 5 rfl ?_
    refine J5 rfl rfl rfl (fun g8=>?_) (fun g8=>?_)
    ·replace h:=a0K h g8
     refine oA 1 rfl ?_
     obtain ⟨x8,g9,h⟩:=o8 h
     refine a1J a3S g9 rfl rfl rfl rfl rfl rfl rfl rfl ?_
     refine a8h (c:=[.i x8.code,.i x8.at_]) rfl rfl rfl rfl rfl rfl rfl ?_
     refine oA 4 rfl ?_
     refine J5 rfl rfl rfl (fun g10=>?_) (fun g10=>?_)
     ·replace h:=a0K h g10
      obtain ⟨bb9,g11,h⟩:=o8 h
      refine V4 rfl rfl rfl rfl rfl (b1N g11) rfl ?_
      refine oB 2 rfl ?_
      cases h
      exact A9 ⟨_,_,_,rfl,rfl,rfl⟩
     ·replace h:=a0J h g10
      refine oB 3 rfl ?_
      cases h
      exact A9 ⟨_,_,_,rfl,rfl,rfl⟩
    ·replace h:=a0J h g8
     refine oB 10 rfl ?_
     cases h
     exact A9 ⟨_,_,_,rfl,rfl,rfl⟩
   ·replace h:=a0J h g7
    refine oB 15 rfl ?_
    cases h
    exact A9 ⟨_,_,_,rfl,rfl,rfl⟩
  ·refine D9 (G7 ?_)
   obtain ⟨y12,g13,h⟩:=o8 h
   refine a10 [(0,.str a0W),(6,.sl a6x r7),(49,.bool y12)] [] rfl ?_ ?_
   ·replace h:=g13
    clear g13
    refine q9 (oA 4 rfl ?_)
    refine J5 rfl rfl rfl (fun g14=>?_) (fun g14=>?_)
    ·replace h:=a0K h g14
     refine oB 4 rfl ?_
     cases h
     exact rfl
    ·replace h:=a0J h g14
     refine oB 4 rfl ?_
     cases h
     exact rfl
   ·obtain ⟨b4T,rfl⟩:∃ q,q = y12:=⟨_,rfl⟩
    refine eI rfl h (fun h=>?_) fun h=>?_
    ·refine eSG (oB 1 rfl ?_)
     cases h
     exact A9 ⟨_,_,_,rfl,rfl,rfl⟩
    ·refine D9 ?_
     obtain ⟨y16,g17,h⟩:=P6 h
     refine Q5 (KR:=fun r=>a2w env 3 0 Tryz.f3.results.toList (a5m a0W r)) y16 (fun z45=>[]) (fun z45=>[]) rfl ?_ (fun z45 hx=>?_) (fun r res hz hr hn=>?_)
     ·replace h:=g17
      clear g17
      refine eSG (oB 1 rfl ?_)
      refine F7 ?_
      refine U0 rfl ?_
      revert y16
      refine Z7 (fun m (x:Int)=>a0m n r7 a0W m x) (fun x=>[(0,.str a0W),(6,.sl a6x r7),(7,.i x)]) (fun x=>[]) _ (fun _=>rfl) (fun m10 x y ih h=>?_) n 0
      obtain ⟨a9p,rfl⟩:∃ q,q = x:=⟨_,rfl⟩
      rw [a0m] at h
      refine G7 (eSG (oB 4 rfl ?_))
      refine eI rfl h (fun h=>?_) fun h=>?_
      ·refine D9 (G7 ?_)
       refine F7 ?_
       obtain ⟨y19,g20,h⟩:=o8 h
       refine a10 [(0,.str a0W),(6,.sl a6x r7),(7,.i a9p),(113,.bool y19)] [] rfl ?_ ?_
       ·replace h:=g20
        clear g20
        refine q9 (oA 2 rfl ?_)
        obtain ⟨x10,g21,h⟩:=o8 h
        refine a1J a3S g21 rfl rfl rfl rfl rfl rfl rfl rfl ?_
        refine oA 4 rfl ?_
        refine J5 rfl rfl rfl (fun g22=>?_) (fun g22=>?_)
        ·replace h:=a0K h g22
         refine oA 2 rfl ?_
         obtain ⟨x11,g23,h⟩:=o8 h
         refine a1J a3S g23 rfl rfl rfl rfl rfl rfl rfl rfl ?_
         refine oA 5 rfl ?_
         refine J5 rfl rfl rfl (fun g24=>?_) (fun g24=>?_)
         ·replace h:=a0K h g24
          refine oB 43 rfl ?_
          cases h
          exact rfl
         ·replace h:=a0J h g24
          refine oA 2 rfl ?_
          obtain ⟨x12,g25,h⟩:=o8 h
          refine a1J a3S g25 rfl rfl rfl rfl rfl rfl rfl rfl ?_
          refine oA 5 rfl ?_
          refine J5 rfl rfl rfl (fun g26=>?_) (fun g26=>?_)
          ·replace h:=a0K h g26
           refine oB 35 rfl ?_
           cases h
           exact rfl
          ·replace h:=a0J h g26
           refine oA 2 rfl ?_
           obtain ⟨x13,g27,h⟩:=o8 h
           refine a1J a3S g27 rfl rfl rfl rfl rfl rfl rfl rfl ?_
           refine oA 5 rfl ?_
           refine J5 rfl rfl rfl (fun g28=>?_) (fun g28=>?_)
           ·replace h:=a0K h g28
            refine oB 27 rfl ?_
            cases h
            exact rfl
           ·replace h:=a0J h g28
            refine oA 2 rfl ?_
            obtain ⟨x14,g29,h⟩:=o8 h
            refine a1J a3S g29 rfl rfl rfl rfl rfl rfl rfl rfl ?_
            refine oA 7 rfl ?_
            refine J5 rfl rfl rfl (fun g30=>?_) (fun g30=>?_)
            ·replace h:=a0K h g30
             refine oB 17 rfl ?_
             cases h
             exact rfl
            ·replace h:=a0J h g30
             refine oA 3 rfl ?_
             refine J5 rfl rfl rfl (fun g31=>?_) (fun g31=>?_)
             ·replace h:=a0K h g31
              refine oA 2 rfl ?_
              obtain ⟨x15,g32,h⟩:=o8 h
              refine a1J a3S g32 rfl rfl rfl rfl rfl rfl rfl rfl ?_
              refine oA 5 rfl ?_
              obtain ⟨x16,g33,h⟩:=o8 h
              refine a1J a3S g33 rfl rfl rfl rfl rfl rfl rfl rfl ?_
              refine oB 5 rfl ?_
              cases h
              exact rfl
             ·replace h:=a0J h g31
              refine oB 14 rfl ?_
              cases h
              exact rfl
        ·replace h:=a0J h g22
         refine oA 10 rfl ?_
         obtain ⟨x17,g34,h⟩:=o8 h
         refine a1J a3S g34 rfl rfl rfl rfl rfl rfl rfl rfl ?_
         refine oA 5 rfl ?_
         refine J5 rfl rfl rfl (fun g35=>?_) (fun g35=>?_)
         ·replace h:=a0K h g35
          refine oB 35 rfl ?_
          cases h
          exact rfl
         ·replace h:=a0J h g35
          refine oA 2 rfl ?_
          obtain ⟨x18,g36,h⟩:=o8 h
          refine a1J a3S g36 rfl rfl rfl rfl rfl rfl rfl rfl ?_
          refine oA 5 rfl ?_
          refine J5 rfl rfl rfl (fun g37=>?_) (fun g37=>?_)
          ·replace h:=a0K h g37
           refine oB 27 rfl ?_
           cases h
           exact rfl
          ·replace h:=a0J h g37
           refine oA 2 rfl ?_
           obtain ⟨x19,g38,h⟩:=o8 h
           refine a1J a3S g38 rfl rfl rfl rfl rfl rfl rfl rfl ?_
           refine oA 7 rfl ?_
           refine J5 rfl rfl rfl (fun g39=>?_) (fun g39=>?_)
           ·replace h:=a0K h g39
            refine oB 17 rfl ?_
            cases h
            exact rfl
           ·replace h:=a0J h g39
            refine oA 3 rfl ?_
            refine J5 rfl rfl rfl (fun g40=>?_) (fun g40=>?_)
            ·replace h:=a0K h g40
             refine oA 2 rfl ?_
             obtain ⟨x20,g41,h⟩:=o8 h
             refine a1J a3S g41 rfl rfl rfl rfl rfl rfl rfl rfl ?_
             refine oA 5 rfl ?_
             obtain ⟨x21,g42,h⟩:=o8 h
             refine a1J a3S g42 rfl rfl rfl rfl rfl rfl rfl rfl ?_
             refine oB 5 rfl ?_
             cases h
             exact rfl
            ·replace h:=a0J h g40
             refine oB 14 rfl ?_
             cases h
             exact rfl
       ·obtain ⟨x511,rfl⟩:∃ q,q = y19:=⟨_,rfl⟩
        refine eI rfl h (fun h=>?_) fun h=>?_
        ·refine eSG (oB 1 rfl ?_)
         cases h
         exact A9 ⟨_,rfl,_,_,_,rfl,rfl,rfl⟩
        ·refine D9 (q9 (oB 3 rfl ?_))
         exact ⟨_,_,rfl,ih _ _ h⟩
      ·refine R5 ?_
       cases h
       exact ⟨_,rfl,rfl⟩
     ·subst hx
      refine eSG ?_
      obtain ⟨bb22,g44,h⟩:=o8 h
      refine V4 rfl rfl rfl rfl rfl (b1N g44) rfl ?_
      refine oB 1 rfl ?_
      cases h
      exact A9 ⟨_,_,_,rfl,rfl,rfl⟩
     ·subst hz
      rcases res with ⟨_ | _ | _ | _,_,_⟩ <;> first | exact absurd rfl hn | exact hr.elim | (cases h; exact hr)
end Go.Proofs.YtmhiojdkjokccaaGreatDoor
namespace Go.Proofs.YtmhiojdkjokccaaGreatDoor
open Go Go.Vm
theorem faults_E (s:Str):E env (.call 3 [.str s]) [] = some (.ret (.bool true) []):=a9L (b66 (n:=90000) (Nat.le_refl _) s)
end Go.Proofs.YtmhiojdkjokccaaGreatDoor
