/- What the functions under ParseLimits compute, step by step, as functions in Lean: texts that were built one by one, joined. -/
import Derived.Test.YtmhiojdkjokccaaGreatDoorParseLimitsJ8
set_option maxRecDepth 100000
set_option maxHeartbeats 20000000
set_option linter.unusedSimpArgs false
set_option linter.unusedVariables false
set_option linter.unusedSectionVars false
namespace Go.Proofs.YtmhiojdkjokccaaGreatDoor
open Go Go.Vm
structure j4.Ok (Φ:j4):Prop where
 F7:∀ {d9:List Tok} {at2:Int} {j5:Int} {r:Rs (Nod × Int) (l5 × Int)},Φ.F7 d9 at2 j5 = some r -> E env (.call 70 [.ptr 0 0]) (hP x9 d9 at2 j5) = some (a3m d9 at2 j5 r)
 M6:∀ {d9:List Tok} {at2:Int} {j5:Int} {r:Rs (List Nod × Int) (l5 × Int)},Φ.M6 d9 at2 j5 = some r -> E env (.call 90 [.ptr 0 0]) (hP x9 d9 at2 j5) = some (a18 d9 at2 j5 r)
 N9:∀ {d9:List Tok} {at2:Int} {j5:Int} {r:Rs (Nod × Int) (l5 × Int)},Φ.N9 d9 at2 j5 = some r -> E env (.call 95 [.ptr 0 0]) (hP x9 d9 at2 j5) = some (a2m d9 at2 j5 r)
 a0y:∀ {d9:List Tok} {at2:Int} {j5:Int} {r:Rs (Nod × Int) (l5 × Int)},Φ.a0y d9 at2 j5 = some r -> E env (.call 100 [.ptr 0 0]) (hP x9 d9 at2 j5) = some (a11 d9 at2 j5 r)
 w9:∀ {d9:List Tok} {at2:Int} {j5:Int} {r:Rs (Nod × Int) (l5 × Int)},Φ.w9 d9 at2 j5 = some r -> E env (.call 104 [.ptr 0 0]) (hP x9 d9 at2 j5) = some (a5m d9 at2 j5 r)
 I4:∀ {d9:List Tok} {at2:Int} {j5:Int} {r:Rs (Nod × Int) (l5 × Int)},Φ.I4 d9 at2 j5 = some r -> E env (.call 113 [.ptr 0 0]) (hP x9 d9 at2 j5) = some (a3n d9 at2 j5 r)
 Y9:∀ {d9:List Tok} {at2:Int} {j5:Int} {r:Rs (Nod × Int) (l5 × Int)},Φ.Y9 d9 at2 j5 = some r -> E env (.call 122 [.ptr 0 0]) (hP x9 d9 at2 j5) = some (a1E d9 at2 j5 r)
 a0q:∀ {d9:List Tok} {at2:Int} {j5:Int} {r:Rs (Nod × Int) (l5 × Int)},Φ.a0q d9 at2 j5 = some r -> E env (.call 127 [.ptr 0 0]) (hP x9 d9 at2 j5) = some (a2q d9 at2 j5 r)
 J8:∀ {d9:List Tok} {at2:Int} {j5:Int} {r:Rs (List Nod × Int) (l5 × Int)},Φ.J8 d9 at2 j5 = some r -> E env (.call 128 [.ptr 0 0]) (hP x9 d9 at2 j5) = some (a2p d9 at2 j5 r)
 a0k:∀ {d9:List Tok} {at2:Int} {j5:Int} {r:Rs (Nod × Int) (l5 × Int)},Φ.a0k d9 at2 j5 = some r -> E env (.call 135 [.ptr 0 0]) (hP x9 d9 at2 j5) = some (a4K d9 at2 j5 r)
 Y7:∀ {d9:List Tok} {at2:Int} {j5:Int} {r:Rs (Nod × Int) (l5 × Int)},Φ.Y7 d9 at2 j5 = some r -> E env (.call 136 [.ptr 0 0]) (hP x9 d9 at2 j5) = some (a4t d9 at2 j5 r)
 O1:∀ {a0V:Nod} {a0f:List K3} {O0:List Tok} {at4:Int} {a2d:Int} {r:Rs (Nod × Int) (l5 × Int)},Φ.O1 a0V a0f O0 at4 a2d = some r -> E env (.call 115 [.ptr 0 0,.agg (c0 a0V.op a0V.s a0V.n a0V.t.kind a0V.t.name a0V.t.n (.sl o9 a0V.t.args) (.sl o9 a0V.ts) (.sl F4 a0V.l) a0V.at_),.sl a1B a0f]) (hP x9 O0 at4 a2d) = some (a1Z a0V a0f O0 at4 a2d r)
 L9:∀ {d9:List Tok} {at2:Int} {j5:Int} {r:Rs (Nod × Int) (l5 × Int)},Φ.L9 d9 at2 j5 = some r -> E env (.call 101 [.ptr 0 0]) (hP x9 d9 at2 j5) = some (a0T d9 at2 j5 r)
 a0z:∀ {d9:List Tok} {at2:Int} {j5:Int} {r:Rs (Nod × Int) (l5 × Int)},Φ.a0z d9 at2 j5 = some r -> E env (.call 102 [.ptr 0 0]) (hP x9 d9 at2 j5) = some (a13 d9 at2 j5 r)
 U9:∀ {op1:Int} {A9:List Tok} {at3:Int} {I6:Int} {r:Rs (List Nod × Int × Int) (l5 × Int)},Φ.U9 op1 A9 at3 I6 = some r -> E env (.call 103 [.ptr 0 0,.i op1]) (hP x9 A9 at3 I6) = some (a5K op1 A9 at3 I6 r)
theorem a8f (n:Nat) {Φ:j4} (hΦ:Φ.Ok) {d9:List Tok} {at2:Int} {j5:Int} {r:Rs (Nod × Int) (l5 × Int)} (h:a1G n Φ d9 at2 j5 = some r) :
  E env (.call 70 [.ptr 0 0]) (hP x9 d9 at2 j5) = some (a3m d9 at2 j5 r):=by
 unfold a1G at h
 refine J6 rfl Tryz.func70 rfl rfl ?_
 refine eSG (oB 1 rfl (eSG (oA 1 rfl ?_)))
 obtain ⟨at4,g1,h⟩:=o7 h
 refine oV (D7 g1) ?_
 refine oB 2 rfl (eSG (oA 1 rfl ?_))
 rcases o6 h with ⟨at5,g2,h⟩ | ⟨⟨at10,at11⟩,g5,h⟩
 ·refine oV (o5 g2) ?_
  refine A8 (eSG (oA 1 rfl ?_))
  rcases o6 h with ⟨⟨r6,at7⟩,g3,h⟩ | ⟨⟨e8,at9⟩,g4,h⟩
  ·refine oV (hΦ.M6 g3) ?_
   refine oB 2 rfl (eSG (oB 2 rfl ?_))
   cases h
   exact C9 ⟨_,_,_,rfl,rfl,rfl⟩
  ·refine oW (hΦ.M6 g4) ?_
   cases h
   exact ⟨_,_,rfl,rfl⟩
 ·refine oW (o5 g5) ?_
  cases h
  exact ⟨_,_,rfl,rfl⟩
theorem a5S (n:Nat) {Φ:j4} (hΦ:Φ.Ok) {d9:List Tok} {at2:Int} {j5:Int} {r:Rs (List Nod × Int) (l5 × Int)} (h:a0H n Φ d9 at2 j5 = some r) :
  E env (.call 90 [.ptr 0 0]) (hP x9 d9 at2 j5) = some (a18 d9 at2 j5 r):=by
 unfold a0H at h
 refine J6 rfl Tryz.func90 rfl rfl ?_
 refine eSG (oB 1 rfl (eSG (oB 1 rfl ?_)))
 obtain ⟨y1,g2,h⟩:=P5 h
 refine Q0 (KR:=fun r=>a2u env 90 1 Tryz.f90.results.toList (a18 d9 at2 j5 r)) y1 (fun z8=>[(3,.st 1 F4 z8.1)]) (fun z8=>[(0,.row [.sl x9 d9,.i z8.2,.i j5]),(1,.tip (tpe 10 (List.length z8.1)) (List.length z8.1))]) rfl ?_ (fun z8 hx=>?_) (fun r res hz hr hn=>?_)
 ·replace h:=g2
  clear g2
  refine F6 ?_
  refine T9 rfl ?_
  revert y1
  refine Z7 (fun m (x:List Nod × Int)=>S9 n Φ j5 d9 m x.1 x.2) (fun x=>[(0,.ptr 0 0),(3,.st 1 F4 x.1)]) (fun x=>[(0,.row [.sl x9 d9,.i x.2,.i j5]),(1,.tip (tpe 10 (List.length x.1)) (List.length x.1))]) _ (fun _=>rfl) (fun m2 x y ih h=>?_) n (([]:List Nod),at2)
  obtain ⟨l503,a5B⟩:=x
  rw [S9] at h
  refine G6 (eSG (oA 1 rfl ?_))
  obtain ⟨⟨r4,at5⟩,g3,h⟩:=o7 h
  refine oV (D6 g3) ?_
  refine oB 1 rfl ?_
  refine eI rfl h (fun h=>?_) fun h=>?_
  ·refine D8 ?_
   refine F6 ?_
   refine p9 (oA 2 rfl ?_)
   rcases o6 h with ⟨⟨r6,at7⟩,g5,h⟩ | ⟨⟨e9,at10⟩,g7,h⟩
   ·obtain ⟨r6_0,r6_1,r6_2,⟨r6_3,r6_4,r6_5,r6_6⟩,r6_7,r6_8,r6_9⟩:=r6
    refine oV (hΦ.N9 g5) ?_
    refine oA 1 rfl ?_
    obtain ⟨l8,g6,h⟩:=o7 h
    refine oP Q5 g6 ?_
    refine oB 1 rfl ?_
    exact ⟨_,_,rfl,ih (_,_) _ h⟩
   ·refine oW (hΦ.N9 g7) ?_
    cases h
    exact ⟨_,rfl,_,_,rfl,rfl⟩
  ·refine R4 ?_
   cases h
   exact ⟨_,rfl,rfl⟩
 ·subst hx
  obtain ⟨b3Q,a5C⟩:=z8
  refine eSG (oB 2 rfl ?_)
  cases h
  exact C9 ⟨_,_,_,rfl,rfl,rfl⟩
 ·subst hz
  rcases res with ⟨_ | _ | _ | _,_,_⟩ <;> first | exact absurd rfl hn | exact hr.elim | (cases h; exact hr)
theorem a6j (n:Nat) {Φ:j4} (hΦ:Φ.Ok) {d9:List Tok} {at2:Int} {j5:Int} {r:Rs (Nod × Int) (l5 × Int)} (h:J5 n Φ d9 at2 j5 = some r) :
  E env (.call 95 [.ptr 0 0]) (hP x9 d9 at2 j5) = some (a2m d9 at2 j5 r):=by
 unfold J5 at h
 refine J6 rfl Tryz.func95 rfl rfl ?_
 refine eSG (oB 1 rfl (eSG (oB 1 rfl ?_)))
 obtain ⟨y1,g2,h⟩:=o7 h
 refine a1W [(0,.ptr 0 0),(2,.ptr 1 0),(3,.str y1)] [(0,.row [.sl x9 d9,.i at2,.i j5]),(1,.row [.i 0,.str [],.i 0,.i 0,.str [],.i 0,.st 2 o9 ([]:List Typ),.st 3 o9 ([]:List Typ),.st 4 F4 ([]:List Nod),.i 0]),(2,.tip 0 0),(3,.tip 0 0),(4,.tip 0 0)] rfl ?_ ?_
 ·replace h:=g2
  clear g2
  refine eSG (oA 1 rfl ?_)
  obtain ⟨r4,g3,h⟩:=o7 h
  refine oV (F5 g3) ?_
  refine A8 ?_
  refine eI rfl h (fun h=>?_) fun h=>?_
  ·refine p9 (oA 8 rfl ?_)
   obtain ⟨x5,g5,h⟩:=o7 h
   refine a4E a8B g5 rfl rfl rfl rfl rfl rfl rfl rfl ?_
   refine oB 3 rfl ?_
   cases h
   exact rfl
  ·refine D8 ?_
   cases h
   exact rfl
 ·obtain ⟨a4A,rfl⟩:∃ q,q = y1:=⟨_,rfl⟩
  refine G6 (eSG (oB 1 rfl ?_))
  refine F6 ?_
  obtain ⟨y6,g7,h⟩:=o7 h
  refine a1W [(0,.ptr 0 0),(2,.ptr 1 0),(23,.str a4A),(24,.bool y6)] [(0,.row [.sl x9 d9,.i at2,.i j5]),(1,.row [.i 0,.str [],.i 0,.i 0,.str [],.i 0,.st 2 o9 ([]:List Typ),.st 3 o9 ([]:List Typ),.st 4 F4 ([]:List Nod),.i 0]),(2,.tip 0 0),(3,.tip 0 0),(4,.tip 0 0)] rfl ?_ ?_
  ·replace h:=g7
   clear g7
   refine eSG (oB 2 rfl ?_)
   refine eI rfl h (fun h=>?_) fun h=>?_
   ·refine D8 ?_
    cases h
    exact rfl
   ·refine p9 (oB 2 rfl ?_)
    cases h
    exact rfl
  ·obtain ⟨x509,rfl⟩:∃ q,q = y6:=⟨_,rfl⟩
   refine eI rfl h (fun h=>?_) fun h=>?_
   ·refine eSG (oA 1 rfl ?_)
    rcases o6 h with ⟨⟨r6,at7⟩,g10,h⟩ | ⟨⟨e8,at9⟩,g11,h⟩
    ·obtain ⟨r6_0,r6_1,r6_2,⟨r6_3,r6_4,r6_5,r6_6⟩,r6_7,r6_8,r6_9⟩:=r6
     refine oV (hΦ.a0y g10) ?_
     refine oB 1 rfl ?_
     cases h
     exact C9 ⟨_,_,_,rfl,rfl,rfl⟩
    ·refine oW (hΦ.a0y g11) ?_
     cases h
     exact ⟨_,_,rfl,rfl⟩
   ·refine eSG (oB 2 rfl ?_)
    refine eI rfl h (fun h=>?_) fun h=>?_
    ·refine eSG (oA 1 rfl ?_)
     rcases o6 h with ⟨⟨r10,at11⟩,g13,h⟩ | ⟨⟨e12,at13⟩,g14,h⟩
     ·obtain ⟨r10_0,r10_1,r10_2,⟨r10_3,r10_4,r10_5,r10_6⟩,r10_7,r10_8,r10_9⟩:=r10
      refine oV (hΦ.L9 g13) ?_
      refine oB 1 rfl ?_
      cases h
      exact C9 ⟨_,_,_,rfl,rfl,rfl⟩
     ·refine oW (hΦ.L9 g14) ?_
      cases h
      exact ⟨_,_,rfl,rfl⟩
    ·refine eSG (oB 2 rfl ?_)
     refine eI rfl h (fun h=>?_) fun h=>?_
     ·refine eSG (oA 1 rfl ?_)
      rcases o6 h with ⟨⟨r14,at15⟩,g16,h⟩ | ⟨⟨e16,at17⟩,g17,h⟩
      ·obtain ⟨r14_0,r14_1,r14_2,⟨r14_3,r14_4,r14_5,r14_6⟩,r14_7,r14_8,r14_9⟩:=r14
       refine oV (hΦ.a0z g16) ?_
       refine oB 1 rfl ?_
       cases h
       exact C9 ⟨_,_,_,rfl,rfl,rfl⟩
      ·refine oW (hΦ.a0z g17) ?_
       cases h
       exact ⟨_,_,rfl,rfl⟩
     ·refine eSG (oB 2 rfl ?_)
      refine eI rfl h (fun h=>?_) fun h=>?_
      ·refine eSG (oA 1 rfl ?_)
       rcases o6 h with ⟨⟨l18,at19,at20⟩,g19,h⟩ | ⟨⟨e21,at22⟩,g20,h⟩
       ·refine oV (hΦ.U9 g19) ?_
        refine oB 1 rfl ?_
        cases h
        exact C9 ⟨_,_,_,rfl,rfl,rfl⟩
       ·refine oW (hΦ.U9 g20) ?_
        cases h
        exact ⟨_,_,rfl,rfl⟩
      ·refine eSG (oB 2 rfl ?_)
       refine eI rfl h (fun h=>?_) fun h=>?_
       ·refine eSG (oA 1 rfl ?_)
        obtain ⟨at23,g22,h⟩:=o7 h
        refine oV (D7 g22) ?_
        refine oB 2 rfl (eSG (oB 8 rfl (eSG (oA 1 rfl ?_))))
        rcases o6 h with ⟨⟨r24,at25⟩,g23,h⟩ | ⟨⟨e31,at32⟩,g27,h⟩
        ·obtain ⟨r24_0,r24_1,r24_2,⟨r24_3,r24_4,r24_5,r24_6⟩,r24_7,r24_8,r24_9⟩:=r24
         refine oV (hΦ.w9 g23) ?_
         refine oB 3 rfl (G6 ?_)
         refine O5 [320] rfl ?_
         refine oC rfl rfl (oC rfl rfl (oC rfl rfl (J3 rfl ?_)))
         rcases o6 h with ⟨⟨r26,at27⟩,g24,h⟩ | ⟨⟨e29,at30⟩,g26,h⟩
         ·obtain ⟨r26_0,r26_1,r26_2,⟨r26_3,r26_4,r26_5,r26_6⟩,r26_7,r26_8,r26_9⟩:=r26
          refine oV (hΦ.F7 g24) ?_
          refine A8 (oC rfl rfl (J3 rfl ?_))
          obtain ⟨l28,g25,h⟩:=o7 h
          refine a6g Q5 g25 rfl rfl rfl rfl (.inr rfl) rfl rfl rfl rfl rfl rfl rfl rfl rfl rfl (a6w (a1F rfl) rfl) rfl rfl rfl ?_
          refine A8 (oC rfl rfl (oC rfl rfl ?_))
          refine a0g ?_
          refine ⟨rfl,?_⟩
          refine eSG (oB 2 rfl ?_)
          cases h
          exact C9 ⟨_,_,_,rfl,rfl,rfl⟩
         ·refine oW (hΦ.F7 g26) ?_
          refine ⟨rfl,rfl,_,_,rfl,?_⟩
          cases h
          exact ⟨_,_,rfl,rfl⟩
        ·refine oW (hΦ.w9 g27) ?_
         cases h
         exact ⟨_,_,rfl,rfl⟩
       ·refine eSG (oB 2 rfl ?_)
        refine eI rfl h (fun h=>?_) fun h=>?_
        ·refine eSG (oA 1 rfl ?_)
         obtain ⟨at33,g29,h⟩:=o7 h
         refine oV (D7 g29) ?_
         refine oB 2 rfl (eSG (oB 8 rfl ?_))
         obtain ⟨y30,g31,h⟩:=P5 h
         refine Q0 (KR:=fun r=>a2u env 95 1 Tryz.f95.results.toList (a2m d9 at2 j5 r)) y30 (fun z38=>[(2,.ptr 1 0),(5,.ptr 2 0)]) (fun z38=>[(0,.row [.sl x9 d9,.i z38.1,.i j5]),(1,.row [.i 0,.str [],.i 0,.i 0,.str [],.i 0,.st 3 o9 ([]:List Typ),.st 4 o9 ([]:List Typ),.st 5 F4 ([]:List Nod),.i 0]),(2,.row [.i 28,.str [],.i 0,.i 0,.str [],.i 0,.sl o9 ([]:List Typ),.st 6 o9 ([]:List Typ),.st 7 F4 z38.2,.i at33]),(3,.tip 0 0),(4,.tip 0 0),(5,.tip 0 0),(6,.tip 0 0),(7,.tip (tpe 10 (List.length z38.2)) (List.length z38.2))]) rfl ?_ (fun z38 hx=>?_) (fun r res hz hr hn=>?_)
         ·replace h:=g31
          clear g31
          refine eSG (oA 1 rfl ?_)
          obtain ⟨⟨r34,at35⟩,g32,h⟩:=o7 h
          refine oV (D6 g32) ?_
          refine oB 1 rfl ?_
          refine eI rfl h (fun h=>?_) fun h=>?_
          ·refine eSG (oA 1 rfl ?_)
           rcases o6 h with ⟨⟨r36,at37⟩,g34,h⟩ | ⟨⟨e41,at42⟩,g37,h⟩
           ·obtain ⟨r36_0,r36_1,r36_2,⟨r36_3,r36_4,r36_5,r36_6⟩,r36_7,r36_8,r36_9⟩:=r36
            refine oV (hΦ.w9 g34) ?_
            refine oB 3 rfl (p9 (oA 1 rfl ?_))
            rcases o6 h with ⟨at38,g35,h⟩ | ⟨⟨at39,at40⟩,g36,h⟩
            ·refine oV (o5 g35) ?_
             refine A8 ?_
             cases h
             exact ⟨_,rfl,rfl⟩
            ·refine oW (o5 g36) ?_
             cases h
             exact ⟨_,rfl,_,_,rfl,rfl⟩
           ·refine oW (hΦ.w9 g37) ?_
            cases h
            exact ⟨_,rfl,_,_,rfl,rfl⟩
          ·refine D8 ?_
           cases h
           exact ⟨_,rfl,rfl⟩
         ·subst hx
          obtain ⟨b2k,l535⟩:=z38
          refine eSG (oB 2 rfl ?_)
          cases h
          exact C9 ⟨_,_,_,rfl,rfl,rfl⟩
         ·subst hz
          rcases res with ⟨_ | _ | _ | _,_,_⟩ <;> first | exact absurd rfl hn | exact hr.elim | (cases h; exact hr)
        ·refine eSG (oB 2 rfl ?_)
         refine eI rfl h (fun h=>?_) fun h=>?_
         ·refine eSG (oA 1 rfl ?_)
          obtain ⟨at43,g40,h⟩:=o7 h
          refine oV (D7 g40) ?_
          refine oB 2 rfl (eSG (oB 8 rfl (eSG (oA 1 rfl ?_))))
          rcases o6 h with ⟨⟨r44,at45⟩,g41,h⟩ | ⟨⟨e49,at50⟩,g44,h⟩
          ·obtain ⟨r44_0,r44_1,r44_2,⟨r44_3,r44_4,r44_5,r44_6⟩,r44_7,r44_8,r44_9⟩:=r44
           refine oV (hΦ.w9 g41) ?_
           refine oB 3 rfl (eSG (oA 1 rfl ?_))
           rcases o6 h with ⟨at46,g42,h⟩ | ⟨⟨at47,at48⟩,g43,h⟩
           ·refine oV (o5 g42) ?_
            refine A8 (eSG (oB 2 rfl ?_))
            cases h
            exact C9 ⟨_,_,_,rfl,rfl,rfl⟩
           ·refine oW (o5 g43) ?_
            cases h
            exact ⟨_,_,rfl,rfl⟩
          ·refine oW (hΦ.w9 g44) ?_
           cases h
           exact ⟨_,_,rfl,rfl⟩
         ·refine eSG (oB 2 rfl ?_)
          refine eI rfl h (fun h=>?_) fun h=>?_
          ·refine eSG (oA 1 rfl ?_)
           rcases o6 h with ⟨⟨l51,at52,at53⟩,g46,h⟩ | ⟨⟨e64,at65⟩,g54,h⟩
           ·refine oV (hΦ.U9 g46) ?_
            refine oB 2 rfl (eSG (oA 1 rfl ?_))
            rcases o6 h with ⟨at54,g47,h⟩ | ⟨⟨at62,at63⟩,g53,h⟩
            ·refine oV (H7 g47) ?_
             refine A8 (eSG (oA 1 rfl ?_))
             rcases o6 h with ⟨r55,g48,h⟩ | ⟨at61,g52,h⟩
             ·refine oV (F8 g48) ?_
              refine oB 2 rfl (G6 ?_)
              refine O5 [512] rfl ?_
              refine oC rfl rfl (oC rfl rfl (oC rfl rfl (J3 rfl ?_)))
              rcases o6 h with ⟨⟨r56,at57⟩,g49,h⟩ | ⟨⟨e59,at60⟩,g51,h⟩
              ·obtain ⟨r56_0,r56_1,r56_2,⟨r56_3,r56_4,r56_5,r56_6⟩,r56_7,r56_8,r56_9⟩:=r56
               refine oV (hΦ.F7 g49) ?_
               refine A8 (oC rfl rfl (J3 rfl ?_))
               obtain ⟨l58,g50,h⟩:=o7 h
               refine a6g Q5 g50 rfl rfl rfl rfl (.inr rfl) rfl rfl rfl rfl rfl rfl rfl rfl rfl rfl (a6w (a1F rfl) rfl) rfl rfl rfl ?_
               refine A8 (oC rfl rfl (oC rfl rfl ?_))
               refine a0g ?_
               refine ⟨rfl,?_⟩
               refine eSG (oB 2 rfl ?_)
               cases h
               exact C9 ⟨_,_,_,rfl,rfl,rfl⟩
              ·refine oW (hΦ.F7 g51) ?_
               refine ⟨rfl,rfl,_,_,rfl,?_⟩
               cases h
               exact ⟨_,_,rfl,rfl⟩
             ·refine oW (F8 g52) ?_
              cases h
              exact ⟨_,_,rfl,rfl⟩
            ·refine oW (H7 g53) ?_
             cases h
             exact ⟨_,_,rfl,rfl⟩
           ·refine oW (hΦ.U9 g54) ?_
            cases h
            exact ⟨_,_,rfl,rfl⟩
          ·refine D8 (eSG (oA 1 rfl ?_))
           rcases o6 h with ⟨⟨r66,at67⟩,g55,h⟩ | ⟨⟨e81,at82⟩,g67,h⟩
           ·obtain ⟨r66_0,r66_1,r66_2,⟨r66_3,r66_4,r66_5,r66_6⟩,r66_7,r66_8,r66_9⟩:=r66
            refine oV (hΦ.w9 g55) ?_
            refine oB 2 rfl (G6 (eSG (oA 1 rfl ?_)))
            obtain ⟨r68,g56,h⟩:=o7 h
            refine oV (F5 g56) ?_
            refine A8 ?_
            refine eI rfl h (fun h=>?_) fun h=>?_
            ·refine G6 (eSG (oA 1 rfl ?_))
             obtain ⟨r69,g58,h⟩:=o7 h
             refine W9 rfl rfl rfl rfl rfl (b4h g58) rfl ?_
             refine oB 1 rfl ?_
             refine eI rfl h (fun h=>?_) fun h=>?_
             ·refine p9 (oA 2 rfl ?_)
              refine oD ?_
              refine oD ?_
              refine oA 1 rfl ?_
              refine b7m rfl rfl rfl ?_
              cases h
              exact ⟨_,_,rfl,rfl⟩
             ·refine D8 (eSG (oB 8 rfl (eSG (oA 4 rfl ?_))))
              refine oD ?_
              refine oB 2 rfl (G6 ?_)
              refine O5 [640] rfl ?_
              refine oC rfl rfl (oC rfl rfl (oC rfl rfl (J3 rfl ?_)))
              rcases o6 h with ⟨⟨r70,at71⟩,g60,h⟩ | ⟨⟨e76,at77⟩,g64,h⟩
              ·obtain ⟨r70_0,r70_1,r70_2,⟨r70_3,r70_4,r70_5,r70_6⟩,r70_7,r70_8,r70_9⟩:=r70
               refine oV (hΦ.w9 g60) ?_
               refine A8 (oC rfl rfl (J3 rfl ?_))
               obtain ⟨l72,g61,h⟩:=o7 h
               refine a6g Q5 g61 rfl rfl rfl rfl (.inr rfl) rfl rfl rfl rfl rfl rfl rfl rfl rfl rfl (a6w (a1F rfl) rfl) rfl rfl rfl ?_
               refine A8 (oC rfl rfl (oC rfl rfl ?_))
               refine a0g ?_
               refine ⟨rfl,?_⟩
               refine eSG (oA 1 rfl ?_)
               rcases o6 h with ⟨at73,g62,h⟩ | ⟨⟨at74,at75⟩,g63,h⟩
               ·refine oV (o5 g62) ?_
                refine A8 (eSG (oB 2 rfl ?_))
                cases h
                exact C9 ⟨_,_,_,rfl,rfl,rfl⟩
               ·refine oW (o5 g63) ?_
                cases h
                exact ⟨_,_,rfl,rfl⟩
              ·refine oW (hΦ.w9 g64) ?_
               refine ⟨rfl,rfl,_,_,rfl,?_⟩
               cases h
               exact ⟨_,_,rfl,rfl⟩
            ·refine D8 (eSG (oA 1 rfl ?_))
             rcases o6 h with ⟨at78,g65,h⟩ | ⟨⟨at79,at80⟩,g66,h⟩
             ·refine oV (o5 g65) ?_
              refine A8 (eSG (oA 4 rfl ?_))
              refine oD ?_
              refine oB 1 rfl ?_
              cases h
              exact C9 ⟨_,_,_,rfl,rfl,rfl⟩
             ·refine oW (o5 g66) ?_
              cases h
              exact ⟨_,_,rfl,rfl⟩
           ·refine oW (hΦ.w9 g67) ?_
            cases h
            exact ⟨_,_,rfl,rfl⟩
theorem a8j (n:Nat) {Φ:j4} (hΦ:Φ.Ok) {d9:List Tok} {at2:Int} {j5:Int} {r:Rs (Nod × Int) (l5 × Int)} (h:a1H n Φ d9 at2 j5 = some r) :
  E env (.call 100 [.ptr 0 0]) (hP x9 d9 at2 j5) = some (a11 d9 at2 j5 r):=by
 unfold a1H at h
 refine J6 rfl Tryz.func100 rfl rfl ?_
 refine eSG (oB 1 rfl (eSG (oA 1 rfl ?_)))
 obtain ⟨at4,g1,h⟩:=o7 h
 refine oV (D7 g1) ?_
 refine oB 2 rfl ?_
 obtain ⟨y2,g3,h⟩:=P5 h
 refine Q0 (KR:=fun r=>a2u env 100 1 Tryz.f100.results.toList (a11 d9 at2 j5 r)) y2 (fun z29=>[(0,.ptr 0 0),(2,.ptr 1 0),(3,.ptr 2 0)]) (fun z29=>[(0,.row [.sl x9 d9,.i z29.1,.i j5]),(1,.row [.i 0,.str [],.i 0,.i 0,.str [],.i 0,.st 3 o9 ([]:List Typ),.st 4 o9 ([]:List Typ),.st 5 F4 ([]:List Nod),.i 0]),(2,.row [.i 21,.str [],.i z29.2,.i 0,.str [],.i 0,.sl o9 ([]:List Typ),.st 6 o9 ([]:List Typ),.st 7 F4 ([]:List Nod),.i at4]),(3,.tip 0 0),(4,.tip 0 0),(5,.tip 0 0),(6,.tip 0 0),(7,.tip 0 0)]) rfl ?_ (fun z29 hx=>?_) (fun r res hz hr hn=>?_)
 ·replace h:=g3
  clear g3
  refine eSG (oA 1 rfl ?_)
  obtain ⟨⟨r5,at6⟩,g4,h⟩:=o7 h
  refine oV (J2 g4) ?_
  refine A8 ?_
  refine eI rfl h (fun h=>?_) fun h=>?_
  ·refine p9 (oB 2 rfl ?_)
   cases h
   exact ⟨_,rfl,rfl⟩
  ·refine p9 (oA 1 rfl ?_)
   rcases o6 h with ⟨at7,g6,h⟩ | ⟨⟨at8,at9⟩,g7,h⟩
   ·refine oV (H7 g6) ?_
    refine A8 ?_
    cases h
    exact ⟨_,rfl,rfl⟩
   ·refine oW (H7 g7) ?_
    cases h
    exact ⟨_,rfl,_,_,rfl,rfl⟩
 ·subst hx
  obtain ⟨b04,n523⟩:=z29
  refine eSG (oA 1 rfl ?_)
  rcases o6 h with ⟨r10,g8,h⟩ | ⟨at29,g28,h⟩
  ·refine oV (F8 g8) ?_
   refine oB 2 rfl (eSG (oA 1 rfl ?_))
   obtain ⟨⟨r11,at12⟩,g9,h⟩:=o7 h
   refine oV (D6 g9) ?_
   refine oB 1 rfl ?_
   obtain ⟨y10,g11,h⟩:=P5 h
   refine Q0 (KR:=fun r=>a2u env 100 1 Tryz.f100.results.toList (a11 d9 at2 j5 r)) y10 (fun z27=>[(0,.ptr 0 0),(2,.ptr 1 0),(3,.ptr 2 0),(4,.bool r11)]) (fun z27=>[(0,.row [.sl x9 d9,.i z27.1,.i j5]),(1,.row [.i 0,.str [],.i 0,.i 0,.str [],.i 0,.st 3 o9 ([]:List Typ),.st 4 o9 ([]:List Typ),.st 5 F4 ([]:List Nod),.i 0]),(2,.row (c0 21 r10 n523 z27.2.1 z27.2.2.1 z27.2.2.2.1 (.sl o9 z27.2.2.2.2) (.st 6 o9 ([]:List Typ)) (.st 7 F4 ([]:List Nod)) at4)),(3,.tip 0 0),(4,.tip 0 0),(5,.tip 0 0),(6,.tip 0 0),(7,.tip 0 0)]) rfl ?_ (fun z27 hx=>?_) (fun r res hz hr hn=>?_)
   ·replace h:=g11
    clear g11
    refine eSG (oB 1 rfl ?_)
    refine eI rfl h (fun h=>?_) fun h=>?_
    ·refine p9 (oA 1 rfl ?_)
     rcases o6 h with ⟨⟨r13,at14⟩,g13,h⟩ | ⟨⟨at15,at16⟩,g14,h⟩
     ·obtain ⟨r13_0,r13_1,r13_2,r13_3⟩:=r13
      refine oV (I5 g13) ?_
      refine oB 2 rfl ?_
      cases h
      exact ⟨_,rfl,rfl⟩
     ·refine oW (I5 g14) ?_
      cases h
      exact ⟨_,rfl,_,_,rfl,rfl⟩
    ·refine D8 ?_
     cases h
     exact ⟨_,rfl,rfl⟩
   ·subst hx
    obtain ⟨b0k,b3d,b3h,n527,b25⟩:=z27
    refine G6 ?_
    obtain ⟨y15,g16,h⟩:=o7 h
    refine a1W [(0,.ptr 0 0),(2,.ptr 1 0),(3,.ptr 2 0),(30,.bool y15.1)] [(0,.row [.sl x9 d9,.i y15.2,.i j5]),(1,.row [.i 0,.str [],.i 0,.i 0,.str [],.i 0,.st 3 o9 ([]:List Typ),.st 4 o9 ([]:List Typ),.st 5 F4 ([]:List Nod),.i 0]),(2,.row (c0 21 r10 n523 b3d b3h n527 (.sl o9 b25) (.st 6 o9 ([]:List Typ)) (.st 7 F4 ([]:List Nod)) at4)),(3,.tip 0 0),(4,.tip 0 0),(5,.tip 0 0),(6,.tip 0 0),(7,.tip 0 0)] rfl ?_ ?_
    ·replace h:=g16
     clear g16
     refine p9 (oA 4 rfl ?_)
     refine K9 rfl rfl rfl (fun g17=>?_) (fun g17=>?_)
     ·replace h:=a2k h g17
      refine oA 3 rfl ?_
      refine K9 rfl rfl rfl (fun g18=>?_) (fun g18=>?_)
      ·replace h:=a2k h g18
       refine oA 1 rfl ?_
       obtain ⟨⟨r17,at18⟩,g19,h⟩:=o7 h
       refine oV (D6 g19) ?_
       refine oB 1 rfl ?_
       cases h
       exact rfl
      ·replace h:=a2j h g18
       refine oB 3 rfl ?_
       cases h
       exact rfl
     ·replace h:=a2j h g17
      refine oB 6 rfl ?_
      cases h
      exact rfl
    ·obtain ⟨x529,a9i⟩:=y15
     refine eI rfl h (fun h=>?_) fun h=>?_
     ·refine eSG (oB 2 rfl ?_)
      cases h
      exact C9 ⟨_,_,_,rfl,rfl,rfl⟩
     ·refine D8 (eSG (oA 1 rfl ?_))
      rcases o6 h with ⟨at19,g21,h⟩ | ⟨⟨at27,at28⟩,g26,h⟩
      ·refine oV (o5 g21) ?_
       refine A8 (eSG (oA 1 rfl ?_))
       rcases o6 h with ⟨⟨r20,at21⟩,g22,h⟩ | ⟨⟨e25,at26⟩,g25,h⟩
       ·obtain ⟨r20_0,r20_1,r20_2,⟨r20_3,r20_4,r20_5,r20_6⟩,r20_7,r20_8,r20_9⟩:=r20
        refine oV (hΦ.w9 g22) ?_
        refine oB 3 rfl (eSG (oA 1 rfl ?_))
        rcases o6 h with ⟨at22,g23,h⟩ | ⟨⟨at23,at24⟩,g24,h⟩
        ·refine oV (o5 g23) ?_
         refine A8 (eSG (oB 2 rfl ?_))
         cases h
         exact C9 ⟨_,_,_,rfl,rfl,rfl⟩
        ·refine oW (o5 g24) ?_
         cases h
         exact ⟨_,_,rfl,rfl⟩
       ·refine oW (hΦ.w9 g25) ?_
        cases h
        exact ⟨_,_,rfl,rfl⟩
      ·refine oW (o5 g26) ?_
       cases h
       exact ⟨_,_,rfl,rfl⟩
   ·subst hz
    rcases res with ⟨_ | _ | _ | _,_,_⟩ <;> first | exact absurd rfl hn | exact hr.elim | (cases h; exact hr)
  ·refine oW (F8 g28) ?_
   cases h
   exact ⟨_,_,rfl,rfl⟩
 ·subst hz
  rcases res with ⟨_ | _ | _ | _,_,_⟩ <;> first | exact absurd rfl hn | exact hr.elim | (cases h; exact hr)
theorem a8Q (n:Nat) {Φ:j4} (hΦ:Φ.Ok) {d9:List Tok} {at2:Int} {j5:Int} {r:Rs (Nod × Int) (l5 × Int)} (h:a1S n Φ d9 at2 j5 = some r) :
  E env (.call 104 [.ptr 0 0]) (hP x9 d9 at2 j5) = some (a5m d9 at2 j5 r):=by
 unfold a1S at h
 refine J6 rfl Tryz.func104 rfl rfl ?_
 refine eSG (oB 1 rfl (eSG (oA 1 rfl ?_)))
 rcases o6 h with ⟨⟨r4,at5⟩,g1,h⟩ | ⟨⟨e10,at11⟩,g5,h⟩
 ·obtain ⟨r4_0,r4_1,r4_2,⟨r4_3,r4_4,r4_5,r4_6⟩,r4_7,r4_8,r4_9⟩:=r4
  refine oV (hΦ.I4 g1) ?_
  refine oB 2 rfl (eSG ?_)
  obtain ⟨_,g2,h⟩:=o7 h
  refine W9 rfl rfl rfl rfl rfl (b2W g2) rfl ?_
  refine oB 1 rfl (eSG (oA 3 rfl ?_))
  rcases o6 h with ⟨⟨r6,at7⟩,g3,h⟩ | ⟨⟨e8,at9⟩,g4,h⟩
  ·obtain ⟨r6_0,r6_1,r6_2,⟨r6_3,r6_4,r6_5,r6_6⟩,r6_7,r6_8,r6_9⟩:=r6
   refine oV (hΦ.O1 g3) ?_
   refine oB 1 rfl ?_
   cases h
   exact C9 ⟨_,_,_,rfl,rfl,rfl⟩
  ·refine oW (hΦ.O1 g4) ?_
   cases h
   exact ⟨_,_,rfl,rfl⟩
 ·refine oW (hΦ.I4 g5) ?_
  cases h
  exact ⟨_,_,rfl,rfl⟩
theorem a8m (n:Nat) {Φ:j4} (hΦ:Φ.Ok) {d9:List Tok} {at2:Int} {j5:Int} {r:Rs (Nod × Int) (l5 × Int)} (h:a1K n Φ d9 at2 j5 = some r) :
  E env (.call 113 [.ptr 0 0]) (hP x9 d9 at2 j5) = some (a3n d9 at2 j5 r):=by
 unfold a1K at h
 refine J6 rfl Tryz.func113 rfl rfl ?_
 refine eSG (oB 1 rfl (eSG (oA 1 rfl ?_)))
 obtain ⟨at4,g1,h⟩:=o7 h
 refine oV (D7 g1) ?_
 refine oB 2 rfl ?_
 obtain ⟨y2,g3,h⟩:=P5 h
 refine Q0 (KR:=fun r=>a2u env 113 1 Tryz.f113.results.toList (a3n d9 at2 j5 r)) y2 (fun z12=>[(0,.ptr 0 0),(2,.ptr 1 0),(3,.ptr 2 0)]) (fun z12=>[(0,.row [.sl x9 d9,.i z12.1,.i j5]),(1,.row [.i 0,.str [],.i 0,.i 0,.str [],.i 0,.st 3 o9 ([]:List Typ),.st 4 o9 ([]:List Typ),.st 5 F4 ([]:List Nod),.i 0]),(2,.row [.i z12.2,.str [],.i 0,.i 0,.str [],.i 0,.sl o9 ([]:List Typ),.st 6 o9 ([]:List Typ),.st 7 F4 ([]:List Nod),.i at4]),(3,.tip 0 0),(4,.tip 0 0),(5,.tip 0 0),(6,.tip 0 0),(7,.tip 0 0)]) rfl ?_ (fun z12 hx=>?_) (fun r res hz hr hn=>?_)
 ·replace h:=g3
  clear g3
  refine eSG (oA 1 rfl ?_)
  obtain ⟨⟨r5,at6⟩,g4,h⟩:=o7 h
  refine oV (D6 g4) ?_
  refine oB 1 rfl ?_
  refine eI rfl h (fun h=>?_) fun h=>?_
  ·refine G6 (eSG (oA 1 rfl ?_))
   obtain ⟨⟨r7,at8⟩,g6,h⟩:=o7 h
   refine oV (D6 g6) ?_
   refine oB 1 rfl ?_
   refine eI rfl h (fun h=>?_) fun h=>?_
   ·refine eSG (oA 1 rfl ?_)
    rcases o6 h with ⟨⟨r9,at10⟩,g8,h⟩ | ⟨⟨e11,at12⟩,g9,h⟩
    ·obtain ⟨r9_0,r9_1,r9_2,⟨r9_3,r9_4,r9_5,r9_6⟩,r9_7,r9_8,r9_9⟩:=r9
     refine oV (hΦ.Y9 g8) ?_
     refine oB 1 rfl ?_
     cases h
     exact C9 ⟨_,rfl,_,_,_,rfl,rfl,rfl⟩
    ·refine oW (hΦ.Y9 g9) ?_
     cases h
     exact ⟨_,rfl,_,_,rfl,rfl⟩
   ·refine D8 (p9 (oB 2 rfl ?_))
    cases h
    exact ⟨_,rfl,rfl⟩
  ·refine D8 ?_
   cases h
   exact ⟨_,rfl,rfl⟩
 ·subst hx
  obtain ⟨a5f,op502⟩:=z12
  refine eSG (oA 1 rfl ?_)
  rcases o6 h with ⟨⟨r13,at14⟩,g10,h⟩ | ⟨⟨e15,at16⟩,g11,h⟩
  ·obtain ⟨r13_0,r13_1,r13_2,⟨r13_3,r13_4,r13_5,r13_6⟩,r13_7,r13_8,r13_9⟩:=r13
   refine oV (hΦ.I4 g10) ?_
   refine oB 3 rfl (eSG (oB 2 rfl ?_))
   cases h
   exact C9 ⟨_,_,_,rfl,rfl,rfl⟩
  ·refine oW (hΦ.I4 g11) ?_
   cases h
   exact ⟨_,_,rfl,rfl⟩
 ·subst hz
  rcases res with ⟨_ | _ | _ | _,_,_⟩ <;> first | exact absurd rfl hn | exact hr.elim | (cases h; exact hr)
theorem a6X (n:Nat) {Φ:j4} (hΦ:Φ.Ok) {d9:List Tok} {at2:Int} {j5:Int} {r:Rs (Nod × Int) (l5 × Int)} (h:a1c n Φ d9 at2 j5 = some r) :
  E env (.call 122 [.ptr 0 0]) (hP x9 d9 at2 j5) = some (a1E d9 at2 j5 r):=by
 unfold a1c at h
 refine J6 rfl Tryz.func122 rfl rfl ?_
 refine eSG (oB 1 rfl (eSG (oA 1 rfl ?_)))
 obtain ⟨r4,g1,h⟩:=o7 h
 refine oV (F5 g1) ?_
 refine oB 1 rfl (eSG (oA 1 rfl ?_))
 rcases o6 h with ⟨⟨r5,at6⟩,g2,h⟩ | ⟨⟨e27,at28⟩,g26,h⟩
 ·obtain ⟨r5_0,r5_1,r5_2,⟨r5_3,r5_4,r5_5,r5_6⟩,r5_7,r5_8,r5_9⟩:=r5
  refine oV (hΦ.a0q g2) ?_
  refine oB 2 rfl ?_
  refine F6 ?_
  refine T9 rfl ?_
  obtain ⟨yq,hq⟩:∃ y,y = r:=⟨_,rfl⟩
  rw [<- hq] at h ⊢
  clear hq
  revert yq
  refine Z7 (fun m (x:Bool × Int × Nod)=>O3 n Φ j5 d9 m x.1 x.2.1 x.2.2) (fun x=>[(0,.ptr 0 0),(2,.ptr 1 0),(3,.bool x.1),(4,.ptr 2 0)]) (fun x=>[(0,.row [.sl x9 d9,.i x.2.1,.i j5]),(1,.row [.i 0,.str [],.i 0,.i 0,.str [],.i 0,.st 3 o9 ([]:List Typ),.st 4 o9 ([]:List Typ),.st 5 F4 ([]:List Nod),.i 0]),(2,.row (c0 x.2.2.op x.2.2.s x.2.2.n x.2.2.t.kind x.2.2.t.name x.2.2.t.n (.sl o9 x.2.2.t.args) (.sl o9 x.2.2.ts) (.sl F4 x.2.2.l) x.2.2.at_)),(3,.tip 0 0),(4,.tip 0 0),(5,.tip 0 0)]) _ (fun _=>rfl) (fun m4 x y ih h=>?_) n (r4,at6,(Nod.mk r5_0 r5_1 r5_2 (Typ.mk r5_3 r5_4 r5_5 r5_6) r5_7 r5_8 r5_9))
  obtain ⟨b5V,b2n,b33⟩:=x
  obtain ⟨n546_0,n546_1,n546_2,⟨n546_3,n546_4,n546_5,n546_6⟩,n546_7,n546_8,n546_9⟩:=b33
  replace h:O3 n Φ j5 d9 (m4 + 1) b5V b2n (Nod.mk n546_0 n546_1 n546_2 (Typ.mk n546_3 n546_4 n546_5 n546_6) n546_7 n546_8 n546_9) = some y:=h
  rw [O3] at h
  refine F6 ?_
  obtain ⟨y3,g4,h⟩:=P5 h
  refine Q0 (KR:=fun r=>a2u env 122 1 Tryz.f122.results.toList (a1E d9 at2 j5 r)) y3 (fun z25=>[(0,.ptr 0 0),(2,.ptr 1 0),(4,.ptr 2 0)]) (fun z25=>[(0,.row [.sl x9 d9,.i z25.1,.i j5]),(1,.row [.i 0,.str [],.i 0,.i 0,.str [],.i 0,.st 3 o9 ([]:List Typ),.st 4 o9 ([]:List Typ),.st 5 F4 ([]:List Nod),.i 0]),(2,.row [.i z25.2.1,.str z25.2.2.1,.i 0,.i 0,.str [],.i 0,.st 6 o9 ([]:List Typ),.st 7 o9 ([]:List Typ),.sl F4 z25.2.2.2,.i n546_9]),(3,.tip 0 0),(4,.tip 0 0),(5,.tip 0 0),(6,.tip 0 0),(7,.tip 0 0)]) rfl ?_ (fun z25 hx=>?_) (fun r res hz hr hn=>?_)
  ·replace h:=g4
   clear g4
   refine F6 ?_
   refine eSG (oA 1 rfl ?_)
   obtain ⟨⟨r7,at8⟩,g5,h⟩:=o7 h
   refine oV (D6 g5) ?_
   refine oB 1 rfl ?_
   refine eI rfl h (fun h=>?_) fun h=>?_
   ·refine G6 ?_
    refine O5 [2,2] rfl ?_
    refine oC rfl rfl (oC rfl rfl (oC rfl rfl (oC rfl rfl (oC rfl rfl (J3 rfl ?_)))))
    rcases o6 h with ⟨r9,g7,h⟩ | ⟨at16,g16,h⟩
    ·refine oV (F8 g7) ?_
     refine A8 (J3 rfl ?_)
     refine oD ?_
     refine A8 (oC rfl rfl (oC rfl rfl ?_))
     refine a0g ?_
     refine ⟨rfl,?_⟩
     obtain ⟨y8,g9,h⟩:=a2Y h
     refine Q0 (KR:=fun r=>a2u env 122 1 Tryz.f122.results.toList (a1E d9 at2 j5 r)) y8 (fun z15=>[(0,.ptr 0 0),(2,.ptr 1 0),(4,.ptr 2 0),(5,.ptr 3 0)]) (fun z15=>[(0,.row [.sl x9 d9,.i z15.1,.i j5]),(1,.row [.i 0,.str [],.i 0,.i 0,.str [],.i 0,.st 4 o9 ([]:List Typ),.st 5 o9 ([]:List Typ),.st 6 F4 ([]:List Nod),.i 0]),(2,.row (c0 n546_0 n546_1 n546_2 n546_3 n546_4 n546_5 (.sl o9 n546_6) (.sl o9 n546_7) (.sl F4 n546_8) n546_9)),(3,.row [.i z15.2.1,.str r9,.i 0,.i 0,.str [],.i 0,.st 7 o9 ([]:List Typ),.st 8 o9 ([]:List Typ),.st 9 F4 z15.2.2,.i n546_9]),(4,.tip 0 0),(5,.tip 0 0),(6,.tip 0 0),(7,.tip 0 0),(8,.tip 0 0),(9,.tip (tpe 10 (List.length z15.2.2)) (List.length z15.2.2))]) rfl ?_ (fun z15 hx=>?_) (fun r res hz hr hn=>?_)
     ·replace h:=g9
      clear g9
      refine eSG (oA 1 rfl ?_)
      obtain ⟨r10,g10,h⟩:=o7 h
      refine oV (F5 g10) ?_
      refine A8 ?_
      refine eI rfl h (fun h=>?_) fun h=>?_
      ·refine eSG (oB 2 rfl ?_)
       refine O5 [384] rfl ?_
       refine oC rfl rfl (oC rfl rfl (oC rfl rfl (J3 rfl ?_)))
       rcases o6 h with ⟨⟨r11,at12⟩,g12,h⟩ | ⟨⟨e14,at15⟩,g14,h⟩
       ·refine oV (hΦ.J8 g12) ?_
        refine A8 (J3 rfl ?_)
        obtain ⟨l13,g13,h⟩:=o7 h
        refine b9f Q5 g13 rfl rfl rfl rfl (.inr ⟨rfl,b3T (Nat.succ_le_succ (Nat.zero_le _))⟩) rfl rfl rfl rfl rfl rfl rfl rfl rfl rfl (a6w (a1F (a1O.length Q5 _).symm) rfl) rfl rfl ?_
        refine A8 (oC rfl rfl (oC rfl rfl ?_))
        refine a0g ?_
        refine ⟨rfl,?_⟩
        cases h
        exact ⟨_,rfl,rfl⟩
       ·refine oW (hΦ.J8 g14) ?_
        refine ⟨rfl,rfl,_,_,rfl,?_⟩
        cases h
        exact ⟨_,rfl,_,_,rfl,rfl⟩
      ·refine D8 ?_
       cases h
       exact ⟨_,rfl,rfl⟩
     ·subst hx
      obtain ⟨at554,op555,l556⟩:=z15
      refine p9 (oB 2 rfl ?_)
      cases h
      exact ⟨_,rfl,rfl⟩
     ·subst hz
      rcases res with ⟨_ | _ | _ | _,_,_⟩ <;> first | exact absurd rfl hn | exact hr.elim | (cases h; exact ⟨_,rfl,hr⟩)
    ·refine oW (F8 g16) ?_
     refine ⟨rfl,rfl,_,_,rfl,?_⟩
     cases h
     exact ⟨_,rfl,_,_,rfl,rfl⟩
   ·refine eSG (oA 1 rfl ?_)
    obtain ⟨r17,g17,h⟩:=o7 h
    refine oV (F5 g17) ?_
    refine oB 1 rfl ?_
    refine eI rfl h (fun h=>?_) fun h=>?_
    ·refine eSG (oB 1 rfl ?_)
     refine eI rfl h (fun h=>?_) fun h=>?_
     ·refine O5 [2,2] rfl ?_
      refine oC rfl rfl (oC rfl rfl (oC rfl rfl (oC rfl rfl (oC rfl rfl (J3 rfl ?_)))))
      rcases o6 h with ⟨⟨r18,at19⟩,g20,h⟩ | ⟨⟨e20,at21⟩,g21,h⟩
      ·refine oV (hΦ.J8 g20) ?_
       refine A8 (J3 rfl ?_)
       refine oD ?_
       refine A8 (oC rfl rfl ?_)
       refine a0g ?_
       refine ⟨rfl,?_⟩
       cases h
       exact ⟨_,rfl,rfl⟩
      ·refine oW (hΦ.J8 g21) ?_
       refine ⟨rfl,rfl,_,_,rfl,?_⟩
       cases h
       exact ⟨_,rfl,_,_,rfl,rfl⟩
     ·refine eSG (oA 4 rfl ?_)
      refine oD ?_
      refine oB 2 rfl (G6 ?_)
      refine O5 [448] rfl ?_
      refine oC rfl rfl (oC rfl rfl (oC rfl rfl (J3 rfl ?_)))
      rcases o6 h with ⟨⟨r22,at23⟩,g22,h⟩ | ⟨⟨e25,at26⟩,g24,h⟩
      ·refine oV (hΦ.J8 g22) ?_
       refine A8 (J3 rfl ?_)
       obtain ⟨l24,g23,h⟩:=o7 h
       refine b9f Q5 g23 rfl rfl rfl rfl (.inr ⟨rfl,b3T (Nat.succ_le_succ (Nat.zero_le _))⟩) rfl rfl rfl rfl rfl rfl rfl rfl rfl rfl (a6w (a1F (a1O.length Q5 _).symm) rfl) rfl rfl ?_
       refine A8 (oC rfl rfl (oC rfl rfl ?_))
       refine a0g ?_
       refine ⟨rfl,?_⟩
       refine p9 (oB 2 rfl ?_)
       cases h
       exact ⟨_,rfl,rfl⟩
      ·refine oW (hΦ.J8 g24) ?_
       refine ⟨rfl,rfl,_,_,rfl,?_⟩
       cases h
       exact ⟨_,rfl,_,_,rfl,rfl⟩
    ·refine eSG (oB 2 rfl ?_)
     cases h
     exact C9 ⟨_,rfl,_,_,_,rfl,rfl,rfl⟩
  ·subst hx
   obtain ⟨at557,op558,s559,l560⟩:=z25
   refine p9 (oB 1 rfl ?_)
   exact ⟨_,_,rfl,ih (_,_,_) _ h⟩
  ·subst hz
   rcases res with ⟨_ | _ | _ | _,_,_⟩ <;> first | exact absurd rfl hn | exact hr.elim | (cases h; exact hr)
 ·refine oW (hΦ.a0q g26) ?_
  cases h
  exact ⟨_,_,rfl,rfl⟩
theorem a8P (n:Nat) {Φ:j4} (hΦ:Φ.Ok) {d9:List Tok} {at2:Int} {j5:Int} {r:Rs (Nod × Int) (l5 × Int)} (h:a0I n Φ d9 at2 j5 = some r) :
  E env (.call 127 [.ptr 0 0]) (hP x9 d9 at2 j5) = some (a2q d9 at2 j5 r):=by
 unfold a0I at h
 refine J6 rfl Tryz.func127 rfl rfl ?_
 refine eSG (oB 1 rfl (eSG (oA 1 rfl ?_)))
 obtain ⟨at4,g1,h⟩:=o7 h
 refine oV (D7 g1) ?_
 refine oB 2 rfl ?_
 obtain ⟨y2,g3,h⟩:=P5 h
 refine Q0 (KR:=fun r=>a2u env 127 1 Tryz.f127.results.toList (a2q d9 at2 j5 r)) y2 (fun z69=>[(2,.ptr 1 0),(3,.ptr 2 0)]) (fun z69=>[(0,.row [.sl x9 d9,.i z69.1,.i j5]),(1,.row [.i 0,.str [],.i 0,.i 0,.str [],.i 0,.st 3 o9 ([]:List Typ),.st 4 o9 ([]:List Typ),.st 5 F4 ([]:List Nod),.i 0]),(2,.row (c0 z69.2.1 z69.2.2.1 z69.2.2.2.1 z69.2.2.2.2.1 z69.2.2.2.2.2.1 z69.2.2.2.2.2.2.1 (.sl o9 z69.2.2.2.2.2.2.2.1) (.st 6 o9 ([]:List Typ)) (.sl F4 z69.2.2.2.2.2.2.2.2) at4)),(3,.tip 0 0),(4,.tip 0 0),(5,.tip 0 0),(6,.tip 0 0)]) rfl ?_ (fun z69 hx=>?_) (fun r res hz hr hn=>?_)
 ·replace h:=g3
  clear g3
  refine F6 ?_
  refine eSG (oA 1 rfl ?_)
  obtain ⟨r5,g4,h⟩:=o7 h
  refine oV (F5 g4) ?_
  refine oB 1 rfl ?_
  refine eI rfl h (fun h=>?_) fun h=>?_
  ·refine p9 (oA 1 rfl ?_)
   rcases o6 h with ⟨r6,g6,h⟩ | ⟨at7,g7,h⟩
   ·refine oV (a0t g6) ?_
    refine oB 4 rfl ?_
    cases h
    exact ⟨_,rfl,rfl⟩
   ·refine oW (a0t g7) ?_
    cases h
    exact ⟨_,rfl,_,_,rfl,rfl⟩
  ·refine eSG (oA 1 rfl ?_)
   obtain ⟨r8,g8,h⟩:=o7 h
   refine oV (F5 g8) ?_
   refine oB 1 rfl ?_
   refine eI rfl h (fun h=>?_) fun h=>?_
   ·refine p9 (oA 1 rfl ?_)
    rcases o6 h with ⟨r9,g10,h⟩ | ⟨at10,g11,h⟩
    ·refine oV (K4 g10) ?_
     refine oB 5 rfl ?_
     cases h
     exact ⟨_,rfl,rfl⟩
    ·refine oW (K4 g11) ?_
     cases h
     exact ⟨_,rfl,_,_,rfl,rfl⟩
   ·refine eSG (oA 1 rfl ?_)
    obtain ⟨r11,g12,h⟩:=o7 h
    refine oV (F5 g12) ?_
    refine oB 1 rfl ?_
    refine eI rfl h (fun h=>?_) fun h=>?_
    ·refine eSG (oA 1 rfl ?_)
     rcases o6 h with ⟨⟨r12,at13⟩,g14,h⟩ | ⟨⟨e14,at15⟩,g15,h⟩
     ·obtain ⟨r12_0,r12_1,r12_2,⟨r12_3,r12_4,r12_5,r12_6⟩,r12_7,r12_8,r12_9⟩:=r12
      refine oV (hΦ.a0k g14) ?_
      refine oB 1 rfl ?_
      cases h
      exact C9 ⟨_,rfl,_,_,_,rfl,rfl,rfl⟩
     ·refine oW (hΦ.a0k g15) ?_
      cases h
      exact ⟨_,rfl,_,_,rfl,rfl⟩
    ·refine eSG (oA 1 rfl ?_)
     obtain ⟨⟨r16,at17⟩,g16,h⟩:=o7 h
     refine oV (J2 g16) ?_
     refine oB 1 rfl ?_
     refine eI rfl h (fun h=>?_) fun h=>?_
     ·refine p9 (oB 4 rfl ?_)
      cases h
      exact ⟨_,rfl,rfl⟩
     ·refine eSG (oA 1 rfl ?_)
      obtain ⟨⟨r18,at19⟩,g18,h⟩:=o7 h
      refine oV (J2 g18) ?_
      refine oB 1 rfl ?_
      refine eI rfl h (fun h=>?_) fun h=>?_
      ·refine p9 (oB 2 rfl ?_)
       cases h
       exact ⟨_,rfl,rfl⟩
      ·refine eSG (oA 1 rfl ?_)
       obtain ⟨r20,g20,h⟩:=o7 h
       refine oV (F5 g20) ?_
       refine oB 1 rfl ?_
       refine eI rfl h (fun h=>?_) fun h=>?_
       ·refine p9 (oA 1 rfl ?_)
        rcases o6 h with ⟨r21,g22,h⟩ | ⟨at22,g23,h⟩
        ·refine oV (F8 g22) ?_
         refine oB 4 rfl ?_
         cases h
         exact ⟨_,rfl,rfl⟩
        ·refine oW (F8 g23) ?_
         cases h
         exact ⟨_,rfl,_,_,rfl,rfl⟩
       ·refine eSG (oA 1 rfl ?_)
        obtain ⟨⟨r23,at24⟩,g24,h⟩:=o7 h
        refine oV (J2 g24) ?_
        refine oB 1 rfl ?_
        refine eI rfl h (fun h=>?_) fun h=>?_
        ·refine p9 (oA 1 rfl ?_)
         rcases o6 h with ⟨r25,g26,h⟩ | ⟨at26,g27,h⟩
         ·refine oV (F8 g26) ?_
          refine oB 4 rfl ?_
          cases h
          exact ⟨_,rfl,rfl⟩
         ·refine oW (F8 g27) ?_
          cases h
          exact ⟨_,rfl,_,_,rfl,rfl⟩
        ·refine eSG (oA 1 rfl ?_)
         obtain ⟨⟨r27,at28⟩,g28,h⟩:=o7 h
         refine oV (D6 g28) ?_
         refine oB 1 rfl ?_
         refine eI rfl h (fun h=>?_) fun h=>?_
         ·refine eSG (oB 2 rfl (G6 (eSG (oA 1 rfl ?_))))
          obtain ⟨⟨r29,at30⟩,g30,h⟩:=o7 h
          refine oV (D6 g30) ?_
          refine A8 ?_
          refine eI rfl h (fun h=>?_) fun h=>?_
          ·refine R4 ?_
           cases h
           exact ⟨_,rfl,rfl⟩
          ·refine D8 (G6 ?_)
           refine O5 [256] rfl ?_
           refine oC rfl rfl (oC rfl rfl (oC rfl rfl (J3 rfl ?_)))
           rcases o6 h with ⟨⟨r31,at32⟩,g32,h⟩ | ⟨⟨e44,at45⟩,g44,h⟩
           ·obtain ⟨r31_0,r31_1,r31_2,⟨r31_3,r31_4,r31_5,r31_6⟩,r31_7,r31_8,r31_9⟩:=r31
            refine oV (hΦ.w9 g32) ?_
            refine A8 (oC rfl rfl (J3 rfl ?_))
            obtain ⟨l33,g33,h⟩:=o7 h
            refine oP Q5 g33 ?_
            refine A8 (oC rfl rfl (oC rfl rfl ?_))
            refine a0g ?_
            refine ⟨rfl,?_⟩
            obtain ⟨y34,g35,h⟩:=a2Y h
            refine Q0 (KR:=fun r=>a2u env 127 1 Tryz.f127.results.toList (a2q d9 at2 j5 r)) y34 (fun z43=>[(0,.ptr 0 0),(2,.ptr 1 0),(3,.ptr 2 0)]) (fun z43=>[(0,.row [.sl x9 d9,.i z43.1,.i j5]),(1,.row [.i 0,.str [],.i 0,.i 0,.str [],.i 0,.st 3 o9 ([]:List Typ),.st 4 o9 ([]:List Typ),.st 5 F4 ([]:List Nod),.i 0]),(2,.row [.i 67,.str [],.i 0,.i 0,.str [],.i 0,.sl o9 ([]:List Typ),.st 6 o9 ([]:List Typ),.st 7 F4 z43.2,.i at4]),(3,.tip 0 0),(4,.tip 0 0),(5,.tip 0 0),(6,.tip 0 0),(7,.tip (tpe 10 (List.length z43.2)) (List.length z43.2))]) rfl ?_ (fun z43 hx=>?_) (fun r res hz hr hn=>?_)
            ·replace h:=g35
             clear g35
             refine F6 ?_
             refine T9 rfl ?_
             revert y34
             refine Z7 (fun m (x:Int × List Nod)=>a0m n Φ j5 d9 m x.1 x.2) (fun x=>[(0,.ptr 0 0),(2,.ptr 1 0),(3,.ptr 2 0)]) (fun x=>[(0,.row [.sl x9 d9,.i x.1,.i j5]),(1,.row [.i 0,.str [],.i 0,.i 0,.str [],.i 0,.st 3 o9 ([]:List Typ),.st 4 o9 ([]:List Typ),.st 5 F4 ([]:List Nod),.i 0]),(2,.row [.i 67,.str [],.i 0,.i 0,.str [],.i 0,.sl o9 ([]:List Typ),.st 6 o9 ([]:List Typ),.st 7 F4 x.2,.i at4]),(3,.tip 0 0),(4,.tip 0 0),(5,.tip 0 0),(6,.tip 0 0),(7,.tip (tpe 10 (List.length x.2)) (List.length x.2))]) _ (fun _=>rfl) (fun m27 x y ih h=>?_) n (at32,l33)
             obtain ⟨at569,l570⟩:=x
             rw [a0m] at h
             refine G6 (eSG (oA 1 rfl ?_))
             obtain ⟨⟨r34,at35⟩,g36,h⟩:=o7 h
             refine oV (D6 g36) ?_
             refine A8 ?_
             refine eI rfl h (fun h=>?_) fun h=>?_
             ·refine D8 ?_
              refine F6 ?_
              refine O5 [2] rfl ?_
              refine oC rfl rfl (oC rfl rfl (oC rfl rfl (J3 rfl ?_)))
              rcases o6 h with ⟨⟨r36,at37⟩,g38,h⟩ | ⟨⟨e39,at40⟩,g40,h⟩
              ·obtain ⟨r36_0,r36_1,r36_2,⟨r36_3,r36_4,r36_5,r36_6⟩,r36_7,r36_8,r36_9⟩:=r36
               refine oV (hΦ.w9 g38) ?_
               refine A8 (oC rfl rfl (J3 rfl ?_))
               obtain ⟨l38,g39,h⟩:=o7 h
               refine oP Q5 g39 ?_
               refine A8 (oC rfl rfl (oC rfl rfl ?_))
               refine a0g ?_
               refine ⟨rfl,?_⟩
               exact ⟨_,_,rfl,ih (_,_) _ h⟩
              ·refine oW (hΦ.w9 g40) ?_
               refine ⟨rfl,rfl,_,_,rfl,?_⟩
               cases h
               exact ⟨_,rfl,_,_,rfl,rfl⟩
             ·refine R4 ?_
              cases h
              exact ⟨_,rfl,rfl⟩
            ·subst hx
             obtain ⟨at587,l588⟩:=z43
             refine p9 (oA 1 rfl ?_)
             rcases o6 h with ⟨at41,g41,h⟩ | ⟨⟨at42,at43⟩,g42,h⟩
             ·refine oV (o5 g41) ?_
              refine A8 ?_
              cases h
              exact ⟨_,rfl,rfl⟩
             ·refine oW (o5 g42) ?_
              cases h
              exact ⟨_,rfl,_,_,rfl,rfl⟩
            ·subst hz
             rcases res with ⟨_ | _ | _ | _,_,_⟩ <;> first | exact absurd rfl hn | exact hr.elim | (cases h; exact ⟨_,rfl,hr⟩)
           ·refine oW (hΦ.w9 g44) ?_
            refine ⟨rfl,rfl,_,_,rfl,?_⟩
            cases h
            exact ⟨_,rfl,_,_,rfl,rfl⟩
         ·refine eSG (oA 1 rfl ?_)
          obtain ⟨⟨r46,at47⟩,g45,h⟩:=o7 h
          refine oV (D6 g45) ?_
          refine oB 1 rfl ?_
          refine eI rfl h (fun h=>?_) fun h=>?_
          ·refine eSG (oA 1 rfl ?_)
           rcases o6 h with ⟨⟨r48,at49⟩,g47,h⟩ | ⟨⟨e53,at54⟩,g50,h⟩
           ·obtain ⟨r48_0,r48_1,r48_2,⟨r48_3,r48_4,r48_5,r48_6⟩,r48_7,r48_8,r48_9⟩:=r48
            refine oV (hΦ.w9 g47) ?_
            refine oB 2 rfl (eSG (oA 1 rfl ?_))
            rcases o6 h with ⟨at50,g48,h⟩ | ⟨⟨at51,at52⟩,g49,h⟩
            ·refine oV (o5 g48) ?_
             refine A8 (eSG (oB 2 rfl ?_))
             cases h
             exact C9 ⟨_,rfl,_,_,_,rfl,rfl,rfl⟩
            ·refine oW (o5 g49) ?_
             cases h
             exact ⟨_,rfl,_,_,rfl,rfl⟩
           ·refine oW (hΦ.w9 g50) ?_
            cases h
            exact ⟨_,rfl,_,_,rfl,rfl⟩
          ·refine eSG (oA 1 rfl ?_)
           obtain ⟨r55,g51,h⟩:=o7 h
           refine oV (F5 g51) ?_
           refine oB 1 rfl ?_
           refine eI rfl h (fun h=>?_) fun h=>?_
           ·refine eSG (oA 1 rfl ?_)
            rcases o6 h with ⟨⟨r56,at57⟩,g53,h⟩ | ⟨⟨e58,at59⟩,g54,h⟩
            ·obtain ⟨r56_0,r56_1,r56_2,⟨r56_3,r56_4,r56_5,r56_6⟩,r56_7,r56_8,r56_9⟩:=r56
             refine oV (hΦ.Y7 g53) ?_
             refine oB 1 rfl ?_
             cases h
             exact C9 ⟨_,rfl,_,_,_,rfl,rfl,rfl⟩
            ·refine oW (hΦ.Y7 g54) ?_
             cases h
             exact ⟨_,rfl,_,_,rfl,rfl⟩
           ·refine eSG (oA 1 rfl ?_)
            rcases o6 h with ⟨⟨r60,at61⟩,g55,h⟩ | ⟨⟨at77,at78⟩,g68,h⟩
            ·obtain ⟨r60_0,r60_1,r60_2,r60_3⟩:=r60
             refine oV (a5L g55) ?_
             refine oB 2 rfl (G6 (eSG (oA 1 rfl ?_)))
             obtain ⟨r62,g56,h⟩:=o7 h
             refine oV (F5 g56) ?_
             refine A8 ?_
             refine eI rfl h (fun h=>?_) fun h=>?_
             ·refine eSG (oA 1 rfl ?_)
              rcases o6 h with ⟨⟨r63,at64⟩,g58,h⟩ | ⟨⟨e65,at66⟩,g59,h⟩
              ·refine oV (hΦ.J8 g58) ?_
               refine oB 4 rfl ?_
               refine R4 ?_
               cases h
               exact ⟨_,rfl,rfl⟩
              ·refine oW (hΦ.J8 g59) ?_
               cases h
               exact ⟨_,rfl,_,_,rfl,rfl⟩
             ·refine D8 (eSG (oA 1 rfl ?_))
              rcases o6 h with ⟨at67,g60,h⟩ | ⟨⟨at75,at76⟩,g67,h⟩
              ·refine oV (o5 g60) ?_
               refine A8 (eSG (oA 1 rfl ?_))
               rcases o6 h with ⟨r68,g61,h⟩ | ⟨at74,g66,h⟩
               ·refine oV (F8 g61) ?_
                refine oB 4 rfl (eSG (oA 1 rfl ?_))
                obtain ⟨r69,g62,h⟩:=o7 h
                refine oV (F5 g62) ?_
                refine A8 ?_
                refine eI rfl h (fun h=>?_) fun h=>?_
                ·refine p9 (oA 1 rfl ?_)
                 rcases o6 h with ⟨⟨r70,at71⟩,g64,h⟩ | ⟨⟨e72,at73⟩,g65,h⟩
                 ·refine oV (hΦ.J8 g64) ?_
                  refine oB 4 rfl ?_
                  cases h
                  exact ⟨_,rfl,rfl⟩
                 ·refine oW (hΦ.J8 g65) ?_
                  cases h
                  exact ⟨_,rfl,_,_,rfl,rfl⟩
                ·refine D8 ?_
                 cases h
                 exact ⟨_,rfl,rfl⟩
               ·refine oW (F8 g66) ?_
                cases h
                exact ⟨_,rfl,_,_,rfl,rfl⟩
              ·refine oW (o5 g67) ?_
               cases h
               exact ⟨_,rfl,_,_,rfl,rfl⟩
            ·refine oW (a5L g68) ?_
             cases h
             exact ⟨_,rfl,_,_,rfl,rfl⟩
 ·subst hx
  obtain ⟨a5V,op518,s519,n520,b84,b9d,n523,b8N,l525⟩:=z69
  refine eSG (oB 2 rfl ?_)
  cases h
  exact C9 ⟨_,_,_,rfl,rfl,rfl⟩
 ·subst hz
  rcases res with ⟨_ | _ | _ | _,_,_⟩ <;> first | exact absurd rfl hn | exact hr.elim | (cases h; exact hr)
theorem a8O (n:Nat) {Φ:j4} (hΦ:Φ.Ok) {d9:List Tok} {at2:Int} {j5:Int} {r:Rs (List Nod × Int) (l5 × Int)} (h:a1R n Φ d9 at2 j5 = some r) :
  E env (.call 128 [.ptr 0 0]) (hP x9 d9 at2 j5) = some (a2p d9 at2 j5 r):=by
 unfold a1R at h
 refine J6 rfl Tryz.func128 rfl rfl ?_
 refine eSG (oB 1 rfl (eSG (oB 1 rfl (eSG (oA 1 rfl ?_)))))
 rcases o6 h with ⟨at4,g1,h⟩ | ⟨⟨at25,at26⟩,g23,h⟩
 ·refine oV (o5 g1) ?_
  refine A8 (G6 (eSG (oA 1 rfl ?_)))
  obtain ⟨⟨r5,at6⟩,g2,h⟩:=o7 h
  refine oV (D6 g2) ?_
  refine A8 ?_
  refine eI rfl h (fun h=>?_) fun h=>?_
  ·refine eSG (oB 1 rfl ?_)
   cases h
   exact C9 ⟨_,_,_,rfl,rfl,rfl⟩
  ·refine D8 ?_
   obtain ⟨y4,g5,h⟩:=P5 h
   refine Q0 (KR:=fun r=>a2u env 128 1 Tryz.f128.results.toList (a2p d9 at2 j5 r)) y4 (fun z22=>[(0,.ptr 0 0),(3,.st 1 F4 z22.1)]) (fun z22=>[(0,.row [.sl x9 d9,.i z22.2,.i j5]),(1,.tip (tpe 10 (List.length z22.1)) (List.length z22.1))]) rfl ?_ (fun z22 hx=>?_) (fun r res hz hr hn=>?_)
   ·replace h:=g5
    clear g5
    refine F6 ?_
    refine T9 rfl ?_
    revert y4
    refine Z7 (fun m (x:List Nod × Int)=>a0w n Φ j5 d9 m x.1 x.2) (fun x=>[(0,.ptr 0 0),(3,.st 1 F4 x.1)]) (fun x=>[(0,.row [.sl x9 d9,.i x.2,.i j5]),(1,.tip (tpe 10 (List.length x.1)) (List.length x.1))]) _ (fun _=>rfl) (fun m5 x y ih h=>?_) n (([]:List Nod),at6)
    obtain ⟨b1S,a2X⟩:=x
    rw [a0w] at h
    refine F6 ?_
    refine eSG (oA 1 rfl ?_)
    obtain ⟨at7,g6,h⟩:=o7 h
    refine oV (D7 g6) ?_
    refine oB 2 rfl ?_
    obtain ⟨y7,g8,h⟩:=a2Y h
    refine Q0 (KR:=fun r=>a2u env 128 1 Tryz.f128.results.toList (a2p d9 at2 j5 r)) y7 (fun z19=>[(0,.ptr 0 0),(3,.st 1 F4 z19.1)]) (fun z19=>[(0,.row [.sl x9 d9,.i z19.2,.i j5]),(1,.tip (tpe 10 (List.length z19.1)) (List.length z19.1))]) rfl ?_ (fun z19 hx=>?_) (fun r res hz hr hn=>?_)
    ·replace h:=g8
     clear g8
     refine eSG (oA 1 rfl ?_)
     obtain ⟨⟨r8,at9⟩,g9,h⟩:=o7 h
     refine oV (D6 g9) ?_
     refine A8 ?_
     refine eI rfl h (fun h=>?_) fun h=>?_
     ·refine eSG (oA 1 rfl ?_)
      rcases o6 h with ⟨⟨r10,at11⟩,g11,h⟩ | ⟨⟨at13,at14⟩,g13,h⟩
      ·obtain ⟨r10_0,r10_1,r10_2,⟨r10_3,r10_4,r10_5,r10_6⟩,r10_7,r10_8,r10_9⟩:=r10
       refine oV (a5n g11) ?_
       refine oB 3 rfl (p9 (oA 3 rfl ?_))
       obtain ⟨l12,g12,h⟩:=o7 h
       refine oP Q5 g12 ?_
       refine oB 1 rfl ?_
       cases h
       exact ⟨_,rfl,rfl⟩
      ·refine oW (a5n g13) ?_
       cases h
       exact ⟨_,rfl,_,_,rfl,rfl⟩
     ·refine p9 (oA 2 rfl ?_)
      rcases o6 h with ⟨⟨r15,at16⟩,g14,h⟩ | ⟨⟨e18,at19⟩,g16,h⟩
      ·obtain ⟨r15_0,r15_1,r15_2,⟨r15_3,r15_4,r15_5,r15_6⟩,r15_7,r15_8,r15_9⟩:=r15
       refine oV (hΦ.w9 g14) ?_
       refine oA 1 rfl ?_
       obtain ⟨l17,g15,h⟩:=o7 h
       refine oP Q5 g15 ?_
       refine oB 1 rfl ?_
       cases h
       exact ⟨_,rfl,rfl⟩
      ·refine oW (hΦ.w9 g16) ?_
       cases h
       exact ⟨_,rfl,_,_,rfl,rfl⟩
    ·subst hx
     obtain ⟨l551,at552⟩:=z19
     refine eSG (oA 1 rfl ?_)
     obtain ⟨⟨r20,at21⟩,g17,h⟩:=o7 h
     refine oV (D6 g17) ?_
     refine oB 1 rfl ?_
     refine eI rfl h (fun h=>?_) fun h=>?_
     ·refine R4 ?_
      cases h
      exact ⟨_,rfl,rfl⟩
     ·refine D8 ?_
      exact ⟨_,_,rfl,ih (_,_) _ h⟩
    ·subst hz
     rcases res with ⟨_ | _ | _ | _,_,_⟩ <;> first | exact absurd rfl hn | exact hr.elim | (cases h; exact ⟨_,rfl,hr⟩)
   ·subst hx
    obtain ⟨a8I,a3L⟩:=z22
    refine eSG (oA 1 rfl ?_)
    rcases o6 h with ⟨at22,g20,h⟩ | ⟨⟨at23,at24⟩,g21,h⟩
    ·refine oV (o5 g20) ?_
     refine A8 (eSG (oB 2 rfl ?_))
     cases h
     exact C9 ⟨_,_,_,rfl,rfl,rfl⟩
    ·refine oW (o5 g21) ?_
     cases h
     exact ⟨_,_,rfl,rfl⟩
   ·subst hz
    rcases res with ⟨_ | _ | _ | _,_,_⟩ <;> first | exact absurd rfl hn | exact hr.elim | (cases h; exact hr)
 ·refine oW (o5 g23) ?_
  cases h
  exact ⟨_,_,rfl,rfl⟩
theorem a7J (n:Nat) {Φ:j4} (hΦ:Φ.Ok) {d9:List Tok} {at2:Int} {j5:Int} {r:Rs (Nod × Int) (l5 × Int)} (h:a1r n Φ d9 at2 j5 = some r) :
  E env (.call 135 [.ptr 0 0]) (hP x9 d9 at2 j5) = some (a4K d9 at2 j5 r):=by
 unfold a1r at h
 refine J6 rfl Tryz.func135 rfl rfl ?_
 refine eSG (oB 1 rfl (eSG (oA 1 rfl ?_)))
 obtain ⟨at4,g1,h⟩:=o7 h
 refine oV (D7 g1) ?_
 refine oB 2 rfl (eSG (oA 1 rfl ?_))
 obtain ⟨at5,g2,h⟩:=o7 h
 refine oV (D7 g2) ?_
 refine oB 2 rfl (eSG (oA 1 rfl ?_))
 rcases o6 h with ⟨r6,g3,h⟩ | ⟨at20,g16,h⟩
 ·refine oV (K4 g3) ?_
  refine oB 3 rfl (eSG (oB 4 rfl ?_))
  refine F6 ?_
  refine T9 rfl ?_
  obtain ⟨yq,hq⟩:∃ y,y = r:=⟨_,rfl⟩
  rw [<- hq] at h ⊢
  clear hq
  revert yq
  refine Z7 (fun m (x:Int × List Nod × Str × Int)=>a0D n Φ at4 j5 d9 m x.1 x.2.1 x.2.2.1 x.2.2.2) (fun x=>[(0,.ptr 0 0),(2,.ptr 1 0),(3,.ptr 2 0),(4,.ptr 3 0)]) (fun x=>[(0,.row [.sl x9 d9,.i x.1,.i j5]),(1,.row [.i 0,.str [],.i 0,.i 0,.str [],.i 0,.st 4 o9 ([]:List Typ),.st 5 o9 ([]:List Typ),.st 6 F4 ([]:List Nod),.i 0]),(2,.row [.i 53,.str [],.i 0,.i 0,.str [],.i 0,.sl o9 ([]:List Typ),.st 7 o9 ([]:List Typ),.st 8 F4 x.2.1,.i at4]),(3,.row [.i 52,.str x.2.2.1,.i 0,.i 0,.str [],.i 0,.sl o9 ([]:List Typ),.st 9 o9 ([]:List Typ),.st 10 F4 ([]:List Nod),.i x.2.2.2]),(4,.tip 0 0),(5,.tip 0 0),(6,.tip 0 0),(7,.tip 0 0),(8,.tip (tpe 10 (List.length x.2.1)) (List.length x.2.1)),(9,.tip 0 0),(10,.tip 0 0)]) _ (fun _=>rfl) (fun m5 x y ih h=>?_) n ((w64 (at2 + 1)),([(⟨52,r6.text,0,(⟨0,[],0,[]⟩:Typ),[],[],at5⟩:Nod)]:List Nod),r6.text,at5)
  obtain ⟨a2B,l512,s513,a5U⟩:=x
  rw [a0D] at h
  refine F6 ?_
  refine G6 ?_
  refine O5 [2] rfl ?_
  refine oC rfl rfl (oC rfl rfl (oC rfl rfl (J3 rfl ?_)))
  rcases o6 h with ⟨⟨r7,at8⟩,g4,h⟩ | ⟨⟨e18,at19⟩,g15,h⟩
  ·obtain ⟨r7_0,r7_1,r7_2,⟨r7_3,r7_4,r7_5,r7_6⟩,r7_7,r7_8,r7_9⟩:=r7
   refine oV (hΦ.w9 g4) ?_
   refine A8 (oC rfl rfl (J3 rfl ?_))
   obtain ⟨l9,g5,h⟩:=o7 h
   refine oP Q5 g5 ?_
   refine A8 (oC rfl rfl (oC rfl rfl ?_))
   refine a0g ?_
   refine ⟨rfl,?_⟩
   refine eSG (oA 1 rfl ?_)
   obtain ⟨at10,g6,h⟩:=o7 h
   refine oV (D7 g6) ?_
   refine oB 1 rfl (G6 (eSG (oA 1 rfl ?_)))
   obtain ⟨r11,g7,h⟩:=o7 h
   refine oV (F5 g7) ?_
   refine A8 ?_
   refine eI rfl h (fun h=>?_) fun h=>?_
   ·refine eSG (oA 1 rfl ?_)
    rcases o6 h with ⟨r12,g9,h⟩ | ⟨at14,g11,h⟩
    ·refine oV (K4 g9) ?_
     refine oB 3 rfl (eSG (oA 4 rfl ?_))
     obtain ⟨l13,g10,h⟩:=o7 h
     refine oP Q5 g10 ?_
     refine oB 2 rfl ?_
     refine R4 ?_
     exact ⟨_,_,rfl,ih (_,_,_,_) _ h⟩
    ·refine oW (K4 g11) ?_
     cases h
     exact ⟨_,_,rfl,rfl⟩
   ·refine D8 (eSG (oA 1 rfl ?_))
    rcases o6 h with ⟨r15,g12,h⟩ | ⟨at17,g14,h⟩
    ·refine oV (K4 g12) ?_
     refine oB 3 rfl (eSG (oA 4 rfl ?_))
     obtain ⟨l16,g13,h⟩:=o7 h
     refine oP Q5 g13 ?_
     refine oB 2 rfl (eSG (oB 2 rfl ?_))
     cases h
     exact C9 ⟨_,_,_,rfl,rfl,rfl⟩
    ·refine oW (K4 g14) ?_
     cases h
     exact ⟨_,_,rfl,rfl⟩
  ·refine oW (hΦ.w9 g15) ?_
   refine ⟨rfl,rfl,_,_,rfl,?_⟩
   cases h
   exact ⟨_,_,rfl,rfl⟩
 ·refine oW (K4 g16) ?_
  cases h
  exact ⟨_,_,rfl,rfl⟩
theorem a6U (n:Nat) {Φ:j4} (hΦ:Φ.Ok) {d9:List Tok} {at2:Int} {j5:Int} {r:Rs (Nod × Int) (l5 × Int)} (h:a1a n Φ d9 at2 j5 = some r) :
  E env (.call 136 [.ptr 0 0]) (hP x9 d9 at2 j5) = some (a4t d9 at2 j5 r):=by
 unfold a1a at h
 refine J6 rfl Tryz.func136 rfl rfl ?_
 refine eSG (oB 1 rfl (eSG (oA 1 rfl ?_)))
 obtain ⟨at4,g1,h⟩:=o7 h
 refine oV (D7 g1) ?_
 refine oA 1 rfl ?_
 obtain ⟨at5,g2,h⟩:=o7 h
 refine oV (D7 g2) ?_
 refine oB 4 rfl (eSG (oA 1 rfl ?_))
 rcases o6 h with ⟨at6,g3,h⟩ | ⟨⟨at23,at24⟩,g13,h⟩
 ·refine oV (o5 g3) ?_
  refine A8 (eSG (oA 1 rfl ?_))
  rcases o6 h with ⟨⟨r7,at8⟩,g4,h⟩ | ⟨⟨at21,at22⟩,g12,h⟩
  ·refine oV (a14 g4) ?_
   refine oB 2 rfl (eSG (oA 1 rfl ?_))
   rcases o6 h with ⟨⟨r9,at10⟩,g5,h⟩ | ⟨⟨at19,at20⟩,g11,h⟩
   ·obtain ⟨r9_0,r9_1,r9_2,r9_3⟩:=r9
    refine oV (a15 g5) ?_
    refine oB 2 rfl (eSG (oA 1 rfl ?_))
    rcases o6 h with ⟨at11,g6,h⟩ | ⟨⟨at17,at18⟩,g10,h⟩
    ·refine oV (H7 g6) ?_
     refine A8 (eSG (oA 1 rfl ?_))
     rcases o6 h with ⟨⟨r12,at13⟩,g7,h⟩ | ⟨⟨e15,at16⟩,g9,h⟩
     ·refine oV (hΦ.M6 g7) ?_
      refine oB 2 rfl (eSG (oA 4 rfl ?_))
      obtain ⟨l14,g8,h⟩:=o7 h
      refine oP Q5 g8 ?_
      refine oB 2 rfl (eSG (oB 2 rfl ?_))
      cases h
      exact C9 ⟨_,_,_,rfl,rfl,rfl⟩
     ·refine oW (hΦ.M6 g9) ?_
      cases h
      exact ⟨_,_,rfl,rfl⟩
    ·refine oW (H7 g10) ?_
     cases h
     exact ⟨_,_,rfl,rfl⟩
   ·refine oW (a15 g11) ?_
    cases h
    exact ⟨_,_,rfl,rfl⟩
  ·refine oW (a14 g12) ?_
   cases h
   exact ⟨_,_,rfl,rfl⟩
 ·refine oW (o5 g13) ?_
  cases h
  exact ⟨_,_,rfl,rfl⟩
theorem a8h (n:Nat) {Φ:j4} (hΦ:Φ.Ok) {a0V:Nod} {a0f:List K3} {O0:List Tok} {at4:Int} {a2d:Int} {r:Rs (Nod × Int) (l5 × Int)} (h:a3S n Φ a0V a0f O0 at4 a2d = some r) :
  E env (.call 115 [.ptr 0 0,.agg (c0 a0V.op a0V.s a0V.n a0V.t.kind a0V.t.name a0V.t.n (.sl o9 a0V.t.args) (.sl o9 a0V.ts) (.sl F4 a0V.l) a0V.at_),.sl a1B a0f]) (hP x9 O0 at4 a2d) = some (a1Z a0V a0f O0 at4 a2d r):=by
 unfold a3S at h
 obtain ⟨first1_0,first1_1,first1_2,⟨first1_3,first1_4,first1_5,first1_6⟩,first1_7,first1_8,first1_9⟩:=a0V
 refine J6 rfl Tryz.func115 rfl rfl ?_
 refine eSG (oB 2 rfl (eSG (oB 3 rfl ?_)))
 obtain ⟨y1,g2,h⟩:=P5 h
 refine Q0 (KR:=fun r=>a2u env 115 1 Tryz.f115.results.toList (a1Z (Nod.mk first1_0 first1_1 first1_2 (Typ.mk first1_3 first1_4 first1_5 first1_6) first1_7 first1_8 first1_9) a0f O0 at4 a2d r)) y1 (fun z24=>[(6,.ptr 1 0),(7,.ptr 2 0)]) (fun z24=>[(0,.row [.sl x9 O0,.i z24.1,.i a2d]),(1,.row [.i 0,.str [],.i 0,.i 0,.str [],.i 0,.st 3 o9 ([]:List Typ),.st 4 o9 ([]:List Typ),.st 5 F4 ([]:List Nod),.i 0]),(2,.row (c0 z24.2.op z24.2.s z24.2.n z24.2.t.kind z24.2.t.name z24.2.t.n (.sl o9 z24.2.t.args) (.sl o9 z24.2.ts) (.sl F4 z24.2.l) z24.2.at_)),(3,.tip 0 0),(4,.tip 0 0),(5,.tip 0 0)]) rfl ?_ (fun z24 hx=>?_) (fun r res hz hr hn=>?_)
 ·replace h:=g2
  clear g2
  refine eSG (oB 3 rfl ?_)
  refine F6 ?_
  refine T9 rfl ?_
  revert y1
  refine Z7 (fun m (x:Int × Int × Nod)=>N7 n Φ a0f a2d O0 m x.1 x.2.1 x.2.2) (fun x=>[(0,.ptr 0 0),(2,.sl a1B a0f),(6,.ptr 1 0),(7,.ptr 2 0),(14,.i (List.length a0f:Int)),(15,.i x.1)]) (fun x=>[(0,.row [.sl x9 O0,.i x.2.1,.i a2d]),(1,.row [.i 0,.str [],.i 0,.i 0,.str [],.i 0,.st 3 o9 ([]:List Typ),.st 4 o9 ([]:List Typ),.st 5 F4 ([]:List Nod),.i 0]),(2,.row (c0 x.2.2.op x.2.2.s x.2.2.n x.2.2.t.kind x.2.2.t.name x.2.2.t.n (.sl o9 x.2.2.t.args) (.sl o9 x.2.2.ts) (.sl F4 x.2.2.l) x.2.2.at_)),(3,.tip 0 0),(4,.tip 0 0),(5,.tip 0 0)]) _ (fun _=>rfl) (fun m3 x y ih h=>?_) n (0,at4,(Nod.mk first1_0 first1_1 first1_2 (Typ.mk first1_3 first1_4 first1_5 first1_6) first1_7 first1_8 first1_9))
  obtain ⟨x545,b6J,n547⟩:=x
  obtain ⟨n547_0,n547_1,n547_2,⟨n547_3,n547_4,n547_5,n547_6⟩,n547_7,n547_8,n547_9⟩:=n547
  replace h:N7 n Φ a0f a2d O0 (m3 + 1) x545 b6J (Nod.mk n547_0 n547_1 n547_2 (Typ.mk n547_3 n547_4 n547_5 n547_6) n547_7 n547_8 n547_9) = some y:=h
  rw [N7] at h
  refine eSG (oB 1 rfl (G6 ?_))
  refine eI rfl h (fun h=>?_) fun h=>?_
  ·refine D8 ?_
   obtain ⟨y4,g5,h⟩:=a2Y h
   refine Q0 (KR:=fun r=>a2u env 115 1 Tryz.f115.results.toList (a1Z (Nod.mk first1_0 first1_1 first1_2 (Typ.mk first1_3 first1_4 first1_5 first1_6) first1_7 first1_8 first1_9) a0f O0 at4 a2d r)) y4 (fun z23=>[(0,.ptr 0 0),(2,.sl a1B a0f),(6,.ptr 1 0),(7,.ptr 2 0),(14,.i (List.length a0f:Int)),(15,.i z23.1)]) (fun z23=>[(0,.row [.sl x9 O0,.i z23.2.1,.i a2d]),(1,.row [.i 0,.str [],.i 0,.i 0,.str [],.i 0,.st 3 o9 ([]:List Typ),.st 4 o9 ([]:List Typ),.st 5 F4 ([]:List Nod),.i 0]),(2,.row (c0 z23.2.2.op z23.2.2.s z23.2.2.n z23.2.2.t.kind z23.2.2.t.name z23.2.2.t.n (.sl o9 z23.2.2.t.args) (.sl o9 z23.2.2.ts) (.sl F4 z23.2.2.l) z23.2.2.at_)),(3,.tip 0 0),(4,.tip 0 0),(5,.tip 0 0)]) rfl ?_ (fun z23 hx=>?_) (fun r res hz hr hn=>?_)
   ·replace h:=g5
    clear g5
    refine F6 ?_
    refine eSG (oB 2 rfl (eSG (oB 6 rfl ?_)))
    refine F6 ?_
    refine T9 rfl ?_
    revert y4
    refine Z7 (fun m (x:Int × Int × Int × Nod)=>U1 n Φ a2d a0f O0 m x.1 x.2.1 x.2.2.1 x.2.2.2) (fun x=>[(0,.ptr 0 0),(2,.sl a1B a0f),(6,.ptr 1 0),(7,.ptr 2 0),(9,.i x.1),(14,.i (List.length a0f:Int)),(15,.i x.2.1)]) (fun x=>[(0,.row [.sl x9 O0,.i x.2.2.1,.i a2d]),(1,.row [.i 0,.str [],.i 0,.i 0,.str [],.i 0,.st 3 o9 ([]:List Typ),.st 4 o9 ([]:List Typ),.st 5 F4 ([]:List Nod),.i 0]),(2,.row (c0 x.2.2.2.op x.2.2.2.s x.2.2.2.n x.2.2.2.t.kind x.2.2.2.t.name x.2.2.2.t.n (.sl o9 x.2.2.2.t.args) (.sl o9 x.2.2.2.ts) (.sl F4 x.2.2.2.l) x.2.2.2.at_)),(3,.tip 0 0),(4,.tip 0 0),(5,.tip 0 0)]) _ (fun _=>rfl) (fun m6 x y ih h=>?_) n ((w64 ((w64 ((List.length a0f:Int) - 1)) - x545)),x545,b6J,(Nod.mk n547_0 n547_1 n547_2 (Typ.mk n547_3 n547_4 n547_5 n547_6) n547_7 n547_8 n547_9))
    obtain ⟨k553,x554,b06,n556⟩:=x
    obtain ⟨n556_0,n556_1,n556_2,⟨n556_3,n556_4,n556_5,n556_6⟩,n556_7,n556_8,n556_9⟩:=n556
    replace h:U1 n Φ a2d a0f O0 (m6 + 1) k553 x554 b06 (Nod.mk n556_0 n556_1 n556_2 (Typ.mk n556_3 n556_4 n556_5 n556_6) n556_7 n556_8 n556_9) = some y:=h
    rw [U1] at h
    refine G6 ?_
    obtain ⟨y6,g7,h⟩:=o7 h
    refine a1W [(0,.ptr 0 0),(2,.sl a1B a0f),(6,.ptr 1 0),(7,.ptr 2 0),(9,.i k553),(14,.i (List.length a0f:Int)),(15,.i x554),(65,.bool y6)] [(0,.row [.sl x9 O0,.i b06,.i a2d]),(1,.row [.i 0,.str [],.i 0,.i 0,.str [],.i 0,.st 3 o9 ([]:List Typ),.st 4 o9 ([]:List Typ),.st 5 F4 ([]:List Nod),.i 0]),(2,.row (c0 n556_0 n556_1 n556_2 n556_3 n556_4 n556_5 (.sl o9 n556_6) (.sl o9 n556_7) (.sl F4 n556_8) n556_9)),(3,.tip 0 0),(4,.tip 0 0),(5,.tip 0 0)] rfl ?_ ?_
    ·replace h:=g7
     clear g7
     refine p9 (oA 11 rfl ?_)
     refine K9 rfl rfl rfl (fun g8=>?_) (fun g8=>?_)
     ·replace h:=a2k h g8
      refine oA 8 rfl ?_
      obtain ⟨x6,g9,h⟩:=o7 h
      refine a4E a8B g9 rfl rfl rfl rfl rfl rfl rfl rfl ?_
      refine oA 5 rfl ?_
      refine K9 rfl rfl rfl (fun g10=>?_) (fun g10=>?_)
      ·replace h:=a2k h g10
       refine oA 2 rfl ?_
       obtain ⟨x7,g11,h⟩:=o7 h
       refine a4E a6v g11 rfl rfl rfl rfl rfl rfl rfl rfl ?_
       refine oA 10 rfl ?_
       obtain ⟨x8,g12,h⟩:=o7 h
       refine a4E a8B g12 rfl rfl rfl rfl rfl rfl rfl rfl ?_
       refine oA 2 rfl ?_
       obtain ⟨r9,g13,h⟩:=o7 h
       refine W9 rfl rfl rfl rfl rfl (a2Q g13) rfl ?_
       refine oB 1 rfl ?_
       cases h
       exact rfl
      ·replace h:=a2j h g10
       refine oB 18 rfl ?_
       cases h
       exact rfl
     ·replace h:=a2j h g8
      refine oB 32 rfl ?_
      cases h
      exact rfl
    ·obtain ⟨x557,rfl⟩:∃ q,q = y6:=⟨_,rfl⟩
     refine eI rfl h (fun h=>?_) fun h=>?_
     ·refine D8 ?_
      refine F6 ?_
      refine G6 ?_
      refine O5 [2,0,0] rfl ?_
      refine oC rfl rfl (oC rfl rfl (oC rfl rfl (oC rfl rfl (oC rfl rfl (oC rfl rfl (oC rfl rfl (oC rfl rfl (J3 rfl ?_))))))))
      obtain ⟨x10,g15,h⟩:=o7 h
      refine a4E a8B g15 rfl rfl rfl rfl rfl rfl rfl rfl ?_
      refine A8 (oC rfl rfl (oC rfl rfl (oC rfl rfl (oC rfl rfl (J3 rfl ?_)))))
      refine oD ?_
      refine A8 (oC rfl rfl (oC rfl rfl ?_))
      refine a0g ?_
      refine ⟨rfl,?_⟩
      refine eSG (oB 8 rfl (G6 ?_))
      refine O5 [] rfl ?_
      refine oC rfl rfl (oC rfl rfl (oC rfl rfl (oC rfl rfl (oC rfl rfl (J3 rfl ?_)))))
      obtain ⟨l11,g16,h⟩:=o7 h
      refine os_subL a6v g16 rfl rfl rfl rfl rfl rfl rfl rfl rfl rfl rfl rfl ?_
      refine A8 (J3 rfl ?_)
      rcases o6 h with ⟨⟨r12,at13⟩,g17,h⟩ | ⟨⟨e19,at20⟩,g22,h⟩
      ·obtain ⟨r12_0,r12_1,r12_2,⟨r12_3,r12_4,r12_5,r12_6⟩,r12_7,r12_8,r12_9⟩:=r12
       refine oV (hΦ.I4 g17) ?_
       refine A8 (J3 rfl ?_)
       rcases o6 h with ⟨⟨r14,at15⟩,g18,h⟩ | ⟨⟨e17,at18⟩,g21,h⟩
       ·obtain ⟨r14_0,r14_1,r14_2,⟨r14_3,r14_4,r14_5,r14_6⟩,r14_7,r14_8,r14_9⟩:=r14
        refine oV (hΦ.O1 g18) ?_
        refine A8 (oC rfl rfl (oC rfl rfl ?_))
        refine a0g ?_
        refine ⟨rfl,?_⟩
        refine eSG (oB 5 rfl (eSG (oB 2 rfl (eSG (oA 2 rfl ?_)))))
        obtain ⟨x16,g19,h⟩:=o7 h
        refine a4E a6v g19 rfl rfl rfl rfl rfl rfl rfl rfl ?_
        refine oB 2 rfl ?_
        refine eI rfl h (fun h=>?_) fun h=>?_
        ·refine R4 ?_
         cases h
         exact ⟨_,rfl,rfl⟩
        ·refine D8 ?_
         exact ⟨_,_,rfl,ih (_,_,_,_) _ h⟩
       ·refine oW (hΦ.O1 g21) ?_
        refine ⟨rfl,rfl,_,_,rfl,?_⟩
        cases h
        exact ⟨_,rfl,_,_,rfl,rfl⟩
      ·refine oW (hΦ.I4 g22) ?_
       refine ⟨rfl,rfl,_,_,rfl,?_⟩
       cases h
       exact ⟨_,rfl,_,_,rfl,rfl⟩
     ·refine R4 ?_
      cases h
      exact ⟨_,rfl,rfl⟩
   ·subst hx
    obtain ⟨x562,at563,n564⟩:=z23
    obtain ⟨n564_0,n564_1,n564_2,⟨n564_3,n564_4,n564_5,n564_6⟩,n564_7,n564_8,n564_9⟩:=n564
    refine p9 (oB 2 rfl ?_)
    exact ⟨_,_,rfl,ih (_,_,_) _ h⟩
   ·subst hz
    rcases res with ⟨_ | _ | _ | _,_,_⟩ <;> first | exact absurd rfl hn | exact hr.elim | (cases h; exact ⟨_,rfl,hr⟩)
  ·refine R4 ?_
   cases h
   exact ⟨_,rfl,rfl⟩
 ·subst hx
  obtain ⟨at568,n569⟩:=z24
  obtain ⟨n569_0,n569_1,n569_2,⟨n569_3,n569_4,n569_5,n569_6⟩,n569_7,n569_8,n569_9⟩:=n569
  refine eSG (oB 2 rfl ?_)
  cases h
  exact C9 ⟨_,_,_,rfl,rfl,rfl⟩
 ·subst hz
  rcases res with ⟨_ | _ | _ | _,_,_⟩ <;> first | exact absurd rfl hn | exact hr.elim | (cases h; exact hr)
theorem a5J (n:Nat) {Φ:j4} (hΦ:Φ.Ok) {d9:List Tok} {at2:Int} {j5:Int} {r:Rs (Nod × Int) (l5 × Int)} (h:a0x n Φ d9 at2 j5 = some r) :
  E env (.call 101 [.ptr 0 0]) (hP x9 d9 at2 j5) = some (a0T d9 at2 j5 r):=by
 unfold a0x at h
 refine J6 rfl Tryz.func101 rfl rfl ?_
 refine eSG (oB 1 rfl (eSG (oA 1 rfl ?_)))
 obtain ⟨at4,g1,h⟩:=o7 h
 refine oV (D7 g1) ?_
 refine oB 2 rfl (eSG (oA 1 rfl ?_))
 rcases o6 h with ⟨at5,g2,h⟩ | ⟨⟨at27,at28⟩,g23,h⟩
 ·refine oV (H7 g2) ?_
  refine A8 (eSG (oA 1 rfl ?_))
  rcases o6 h with ⟨⟨r6,at7⟩,g3,h⟩ | ⟨⟨e25,at26⟩,g22,h⟩
  ·obtain ⟨r6_0,r6_1,r6_2,⟨r6_3,r6_4,r6_5,r6_6⟩,r6_7,r6_8,r6_9⟩:=r6
   refine oV (hΦ.w9 g3) ?_
   refine oB 3 rfl (G6 ?_)
   refine O5 [256] rfl ?_
   refine oC rfl rfl (oC rfl rfl (oC rfl rfl (J3 rfl ?_)))
   rcases o6 h with ⟨⟨r8,at9⟩,g4,h⟩ | ⟨⟨e23,at24⟩,g21,h⟩
   ·obtain ⟨r8_0,r8_1,r8_2,⟨r8_3,r8_4,r8_5,r8_6⟩,r8_7,r8_8,r8_9⟩:=r8
    refine oV (hΦ.F7 g4) ?_
    refine A8 (oC rfl rfl (J3 rfl ?_))
    obtain ⟨l10,g5,h⟩:=o7 h
    refine a6g Q5 g5 rfl rfl rfl rfl (.inr rfl) rfl rfl rfl rfl rfl rfl rfl rfl rfl rfl (a6w (a1F rfl) rfl) rfl rfl rfl ?_
    refine A8 (oC rfl rfl (oC rfl rfl ?_))
    refine a0g ?_
    refine ⟨rfl,?_⟩
    obtain ⟨y6,g7,h⟩:=P5 h
    refine Q0 (KR:=fun r=>a2u env 101 1 Tryz.f101.results.toList (a0T d9 at2 j5 r)) y6 (fun z20=>[(2,.ptr 1 0),(3,.ptr 2 0)]) (fun z20=>[(0,.row [.sl x9 d9,.i z20.1,.i j5]),(1,.row [.i 0,.str [],.i 0,.i 0,.str [],.i 0,.st 3 o9 ([]:List Typ),.st 4 o9 ([]:List Typ),.st 5 F4 ([]:List Nod),.i 0]),(2,.row [.i 24,.str [],.i 0,.i 0,.str [],.i 0,.sl o9 ([]:List Typ),.st 6 o9 ([]:List Typ),.st 7 F4 z20.2,.i at4]),(3,.tip 0 0),(4,.tip 0 0),(5,.tip 0 0),(6,.tip 0 0),(7,.tip (tpe 10 (List.length z20.2)) (List.length z20.2))]) rfl ?_ (fun z20 hx=>?_) (fun r res hz hr hn=>?_)
    ·replace h:=g7
     clear g7
     refine eSG (oA 1 rfl ?_)
     obtain ⟨⟨r11,at12⟩,g8,h⟩:=o7 h
     refine oV (J2 g8) ?_
     refine A8 ?_
     refine eI rfl h (fun h=>?_) fun h=>?_
     ·refine eSG (oB 1 rfl ?_)
      obtain ⟨y10,g11,h⟩:=a2Y h
      refine Q0 (KR:=fun r=>a2u env 101 1 Tryz.f101.results.toList (a0T d9 at2 j5 r)) y10 (fun z19=>[(2,.ptr 1 0),(3,.ptr 2 0),(4,.ptr 3 0)]) (fun z19=>[(0,.row [.sl x9 d9,.i z19.1,.i j5]),(1,.row [.i 0,.str [],.i 0,.i 0,.str [],.i 0,.st 4 o9 ([]:List Typ),.st 5 o9 ([]:List Typ),.st 6 F4 ([]:List Nod),.i 0]),(2,.row [.i 24,.str [],.i 0,.i 0,.str [],.i 0,.sl o9 ([]:List Typ),.st 7 o9 ([]:List Typ),.st 8 F4 l10,.i at4]),(3,.row (c0 z19.2.op z19.2.s z19.2.n z19.2.t.kind z19.2.t.name z19.2.t.n (.sl o9 z19.2.t.args) (.sl o9 z19.2.ts) (.sl F4 z19.2.l) z19.2.at_)),(4,.tip 0 0),(5,.tip 0 0),(6,.tip 0 0),(7,.tip 0 0),(8,.tip (tpe 10 (List.length l10)) (List.length l10))]) rfl ?_ (fun z19 hx=>?_) (fun r res hz hr hn=>?_)
      ·replace h:=g11
       clear g11
       refine eSG (oA 1 rfl ?_)
       obtain ⟨r13,g12,h⟩:=o7 h
       refine oV (F5 g12) ?_
       refine A8 ?_
       refine eI rfl h (fun h=>?_) fun h=>?_
       ·refine p9 (oA 1 rfl ?_)
        rcases o6 h with ⟨⟨r14,at15⟩,g14,h⟩ | ⟨⟨e16,at17⟩,g15,h⟩
        ·obtain ⟨r14_0,r14_1,r14_2,⟨r14_3,r14_4,r14_5,r14_6⟩,r14_7,r14_8,r14_9⟩:=r14
         refine oV (hΦ.L9 g14) ?_
         refine oB 1 rfl ?_
         cases h
         exact ⟨_,rfl,rfl⟩
        ·refine oW (hΦ.L9 g15) ?_
         cases h
         exact ⟨_,rfl,_,_,rfl,rfl⟩
       ·refine p9 (oA 1 rfl ?_)
        rcases o6 h with ⟨⟨r18,at19⟩,g16,h⟩ | ⟨⟨e20,at21⟩,g17,h⟩
        ·obtain ⟨r18_0,r18_1,r18_2,⟨r18_3,r18_4,r18_5,r18_6⟩,r18_7,r18_8,r18_9⟩:=r18
         refine oV (hΦ.F7 g16) ?_
         refine oB 1 rfl ?_
         cases h
         exact ⟨_,rfl,rfl⟩
        ·refine oW (hΦ.F7 g17) ?_
         cases h
         exact ⟨_,rfl,_,_,rfl,rfl⟩
      ·subst hx
       obtain ⟨a5V,n518⟩:=z19
       obtain ⟨n518_0,n518_1,n518_2,⟨n518_3,n518_4,n518_5,n518_6⟩,n518_7,n518_8,n518_9⟩:=n518
       refine p9 (oA 4 rfl ?_)
       obtain ⟨l22,g18,h⟩:=o7 h
       refine oP Q5 g18 ?_
       refine oB 2 rfl ?_
       cases h
       exact ⟨_,rfl,rfl⟩
      ·subst hz
       rcases res with ⟨_ | _ | _ | _,_,_⟩ <;> first | exact absurd rfl hn | exact hr.elim | (cases h; exact ⟨_,rfl,hr⟩)
     ·refine D8 ?_
      cases h
      exact ⟨_,rfl,rfl⟩
    ·subst hx
     obtain ⟨b03,l520⟩:=z20
     refine eSG (oB 2 rfl ?_)
     cases h
     exact C9 ⟨_,_,_,rfl,rfl,rfl⟩
    ·subst hz
     rcases res with ⟨_ | _ | _ | _,_,_⟩ <;> first | exact absurd rfl hn | exact hr.elim | (cases h; exact hr)
   ·refine oW (hΦ.F7 g21) ?_
    refine ⟨rfl,rfl,_,_,rfl,?_⟩
    cases h
    exact ⟨_,_,rfl,rfl⟩
  ·refine oW (hΦ.w9 g22) ?_
   cases h
   exact ⟨_,_,rfl,rfl⟩
 ·refine oW (H7 g23) ?_
  cases h
  exact ⟨_,_,rfl,rfl⟩
theorem a8k (n:Nat) {Φ:j4} (hΦ:Φ.Ok) {d9:List Tok} {at2:Int} {j5:Int} {r:Rs (Nod × Int) (l5 × Int)} (h:a1I n Φ d9 at2 j5 = some r) :
  E env (.call 102 [.ptr 0 0]) (hP x9 d9 at2 j5) = some (a13 d9 at2 j5 r):=by
 unfold a1I at h
 refine J6 rfl Tryz.func102 rfl rfl ?_
 refine eSG (oB 1 rfl (eSG (oA 1 rfl ?_)))
 obtain ⟨at4,g1,h⟩:=o7 h
 refine oV (D7 g1) ?_
 refine oB 2 rfl (eSG (oA 1 rfl ?_))
 rcases o6 h with ⟨at5,g2,h⟩ | ⟨⟨at38,at39⟩,g32,h⟩
 ·refine oV (H7 g2) ?_
  refine A8 (eSG (oA 1 rfl ?_))
  rcases o6 h with ⟨⟨r6,at7⟩,g3,h⟩ | ⟨⟨e36,at37⟩,g31,h⟩
  ·obtain ⟨r6_0,r6_1,r6_2,⟨r6_3,r6_4,r6_5,r6_6⟩,r6_7,r6_8,r6_9⟩:=r6
   refine oV (hΦ.w9 g3) ?_
   refine oB 3 rfl (eSG (oA 1 rfl ?_))
   rcases o6 h with ⟨at8,g4,h⟩ | ⟨⟨at34,at35⟩,g30,h⟩
   ·refine oV (o5 g4) ?_
    refine A8 ?_
    obtain ⟨y5,g6,h⟩:=P5 h
    refine Q0 (KR:=fun r=>a2u env 102 1 Tryz.f102.results.toList (a13 d9 at2 j5 r)) y5 (fun z29=>[(0,.ptr 0 0),(2,.ptr 1 0),(3,.ptr 2 0)]) (fun z29=>[(0,.row [.sl x9 d9,.i z29.1,.i j5]),(1,.row [.i 0,.str [],.i 0,.i 0,.str [],.i 0,.st 3 o9 ([]:List Typ),.st 4 o9 ([]:List Typ),.st 5 F4 ([]:List Nod),.i 0]),(2,.row [.i 26,.str [],.i 0,.i 0,.str [],.i 0,.sl o9 ([]:List Typ),.st 6 o9 ([]:List Typ),.st 7 F4 z29.2,.i at4]),(3,.tip 0 0),(4,.tip 0 0),(5,.tip 0 0),(6,.tip 0 0),(7,.tip (tpe 10 (List.length z29.2)) (List.length z29.2))]) rfl ?_ (fun z29 hx=>?_) (fun r res hz hr hn=>?_)
    ·replace h:=g6
     clear g6
     refine F6 ?_
     refine T9 rfl ?_
     revert y5
     refine Z7 (fun m (x:Int × List Nod)=>a0n n Φ j5 d9 m x.1 x.2) (fun x=>[(0,.ptr 0 0),(2,.ptr 1 0),(3,.ptr 2 0)]) (fun x=>[(0,.row [.sl x9 d9,.i x.1,.i j5]),(1,.row [.i 0,.str [],.i 0,.i 0,.str [],.i 0,.st 3 o9 ([]:List Typ),.st 4 o9 ([]:List Typ),.st 5 F4 ([]:List Nod),.i 0]),(2,.row [.i 26,.str [],.i 0,.i 0,.str [],.i 0,.sl o9 ([]:List Typ),.st 6 o9 ([]:List Typ),.st 7 F4 x.2,.i at4]),(3,.tip 0 0),(4,.tip 0 0),(5,.tip 0 0),(6,.tip 0 0),(7,.tip (tpe 10 (List.length x.2)) (List.length x.2))]) _ (fun _=>rfl) (fun m5 x y ih h=>?_) n (at8,([(Nod.mk r6_0 r6_1 r6_2 (Typ.mk r6_3 r6_4 r6_5 r6_6) r6_7 r6_8 r6_9)]:List Nod))
     obtain ⟨a9f,l516⟩:=x
     rw [a0n] at h
     refine G6 (eSG (oA 1 rfl ?_))
     obtain ⟨r9,g7,h⟩:=o7 h
     refine oV (F5 g7) ?_
     refine A8 ?_
     refine eI rfl h (fun h=>?_) fun h=>?_
     ·refine D8 ?_
      refine F6 ?_
      refine eSG (oA 1 rfl ?_)
      obtain ⟨at10,g9,h⟩:=o7 h
      refine oV (D7 g9) ?_
      refine oB 2 rfl (eSG (oB 8 rfl (eSG (oA 1 rfl ?_))))
      rcases o6 h with ⟨⟨r11,at12⟩,g10,h⟩ | ⟨⟨at19,at20⟩,g15,h⟩
      ·obtain ⟨r11_0,r11_1,r11_2,⟨r11_3,r11_4,r11_5,r11_6⟩,r11_7,r11_8,r11_9⟩:=r11
       refine oV (a4M g10) ?_
       refine oB 3 rfl (G6 ?_)
       refine O5 [320] rfl ?_
       refine oC rfl rfl (oC rfl rfl (oC rfl rfl (J3 rfl ?_)))
       rcases o6 h with ⟨⟨r13,at14⟩,g11,h⟩ | ⟨⟨e17,at18⟩,g14,h⟩
       ·obtain ⟨r13_0,r13_1,r13_2,⟨r13_3,r13_4,r13_5,r13_6⟩,r13_7,r13_8,r13_9⟩:=r13
        refine oV (hΦ.F7 g11) ?_
        refine A8 (oC rfl rfl (J3 rfl ?_))
        obtain ⟨l15,g12,h⟩:=o7 h
        refine a6g Q5 g12 rfl rfl rfl rfl (.inr rfl) rfl rfl rfl rfl rfl rfl rfl rfl rfl rfl (a6w (a1F rfl) rfl) rfl rfl rfl ?_
        refine A8 (oC rfl rfl (oC rfl rfl ?_))
        refine a0g ?_
        refine ⟨rfl,?_⟩
        refine p9 (oA 4 rfl ?_)
        obtain ⟨l16,g13,h⟩:=o7 h
        refine oP Q5 g13 ?_
        refine oB 2 rfl ?_
        exact ⟨_,_,rfl,ih (_,_) _ h⟩
       ·refine oW (hΦ.F7 g14) ?_
        refine ⟨rfl,rfl,_,_,rfl,?_⟩
        cases h
        exact ⟨_,rfl,_,_,rfl,rfl⟩
      ·refine oW (a4M g15) ?_
       cases h
       exact ⟨_,rfl,_,_,rfl,rfl⟩
     ·refine R4 ?_
      cases h
      exact ⟨_,rfl,rfl⟩
    ·subst hx
     obtain ⟨a9z,l526⟩:=z29
     refine eSG (oA 1 rfl ?_)
     obtain ⟨at21,g16,h⟩:=o7 h
     refine oV (D7 g16) ?_
     refine oA 1 rfl ?_
     obtain ⟨at22,g17,h⟩:=o7 h
     refine oV (D7 g17) ?_
     refine oB 4 rfl ?_
     obtain ⟨y18,g19,h⟩:=P5 h
     refine Q0 (KR:=fun r=>a2u env 102 1 Tryz.f102.results.toList (a13 d9 at2 j5 r)) y18 (fun z28=>[(0,.ptr 0 0),(2,.ptr 1 0),(3,.ptr 2 0)]) (fun z28=>[(0,.row [.sl x9 d9,.i z28.1,.i j5]),(1,.row [.i 0,.str [],.i 0,.i 0,.str [],.i 0,.st 3 o9 ([]:List Typ),.st 4 o9 ([]:List Typ),.st 5 F4 ([]:List Nod),.i 0]),(2,.row [.i 26,.str [],.i 0,.i 0,.str [],.i 0,.sl o9 ([]:List Typ),.st 6 o9 ([]:List Typ),.st 7 F4 z28.2,.i at4]),(3,.tip 0 0),(4,.tip 0 0),(5,.tip 0 0),(6,.tip 0 0),(7,.tip (tpe 10 (List.length z28.2)) (List.length z28.2))]) rfl ?_ (fun z28 hx=>?_) (fun r res hz hr hn=>?_)
     ·replace h:=g19
      clear g19
      refine eSG (oA 1 rfl ?_)
      obtain ⟨⟨r23,at24⟩,g20,h⟩:=o7 h
      refine oV (J2 g20) ?_
      refine A8 ?_
      refine eI rfl h (fun h=>?_) fun h=>?_
      ·refine eSG (oB 4 rfl (G6 ?_))
       refine O5 [384] rfl ?_
       refine oC rfl rfl (oC rfl rfl (oC rfl rfl (J3 rfl ?_)))
       rcases o6 h with ⟨⟨r25,at26⟩,g22,h⟩ | ⟨⟨e29,at30⟩,g25,h⟩
       ·obtain ⟨r25_0,r25_1,r25_2,⟨r25_3,r25_4,r25_5,r25_6⟩,r25_7,r25_8,r25_9⟩:=r25
        refine oV (hΦ.F7 g22) ?_
        refine A8 (oC rfl rfl (J3 rfl ?_))
        obtain ⟨l27,g23,h⟩:=o7 h
        refine a6g Q5 g23 rfl rfl rfl rfl (.inr rfl) rfl rfl rfl rfl rfl rfl rfl rfl rfl rfl (a6w (a1F rfl) rfl) rfl rfl rfl ?_
        refine A8 (oC rfl rfl (oC rfl rfl ?_))
        refine a0g ?_
        refine ⟨rfl,?_⟩
        refine p9 (oA 4 rfl ?_)
        obtain ⟨l28,g24,h⟩:=o7 h
        refine oP Q5 g24 ?_
        refine oB 2 rfl ?_
        cases h
        exact ⟨_,rfl,rfl⟩
       ·refine oW (hΦ.F7 g25) ?_
        refine ⟨rfl,rfl,_,_,rfl,?_⟩
        cases h
        exact ⟨_,rfl,_,_,rfl,rfl⟩
      ·refine D8 ?_
       cases h
       exact ⟨_,rfl,rfl⟩
     ·subst hx
      obtain ⟨a5V,l518⟩:=z28
      refine eSG (oA 1 rfl ?_)
      rcases o6 h with ⟨at31,g26,h⟩ | ⟨⟨at32,at33⟩,g27,h⟩
      ·refine oV (o5 g26) ?_
       refine A8 (eSG (oB 2 rfl ?_))
       cases h
       exact C9 ⟨_,_,_,rfl,rfl,rfl⟩
      ·refine oW (o5 g27) ?_
       cases h
       exact ⟨_,_,rfl,rfl⟩
     ·subst hz
      rcases res with ⟨_ | _ | _ | _,_,_⟩ <;> first | exact absurd rfl hn | exact hr.elim | (cases h; exact hr)
    ·subst hz
     rcases res with ⟨_ | _ | _ | _,_,_⟩ <;> first | exact absurd rfl hn | exact hr.elim | (cases h; exact hr)
   ·refine oW (o5 g30) ?_
    cases h
    exact ⟨_,_,rfl,rfl⟩
  ·refine oW (hΦ.w9 g31) ?_
   cases h
   exact ⟨_,_,rfl,rfl⟩
 ·refine oW (H7 g32) ?_
  cases h
  exact ⟨_,_,rfl,rfl⟩
theorem a9s (n:Nat) {Φ:j4} (hΦ:Φ.Ok) {op1:Int} {A9:List Tok} {at3:Int} {I6:Int} {r:Rs (List Nod × Int × Int) (l5 × Int)} (h:a0W n Φ op1 A9 at3 I6 = some r) :
  E env (.call 103 [.ptr 0 0,.i op1]) (hP x9 A9 at3 I6) = some (a5K op1 A9 at3 I6 r):=by
 unfold a0W at h
 refine J6 rfl Tryz.func103 rfl rfl ?_
 refine eSG (oB 1 rfl (eSG (oA 2 rfl ?_)))
 obtain ⟨at5,g1,h⟩:=o7 h
 refine oV (D7 g1) ?_
 refine oB 2 rfl (eSG (oB 8 rfl (eSG (oA 1 rfl ?_))))
 rcases o6 h with ⟨⟨r6,at7⟩,g2,h⟩ | ⟨⟨e8,at9⟩,g3,h⟩
 ·obtain ⟨r6_0,r6_1,r6_2,⟨r6_3,r6_4,r6_5,r6_6⟩,r6_7,r6_8,r6_9⟩:=r6
  refine oV (hΦ.F7 g2) ?_
  refine oB 3 rfl (eSG (oB 2 rfl ?_))
  cases h
  exact C9 ⟨_,_,_,rfl,rfl,rfl⟩
 ·refine oW (hΦ.F7 g3) ?_
  cases h
  exact ⟨_,_,rfl,rfl⟩
theorem j4.ok:∀ n,(j4.fs n).Ok
 | 0=>⟨(fun h=>by cases h),(fun h=>by cases h),(fun h=>by cases h),(fun h=>by cases h),(fun h=>by cases h),(fun h=>by cases h),(fun h=>by cases h),(fun h=>by cases h),(fun h=>by cases h),(fun h=>by cases h),(fun h=>by cases h),(fun h=>by cases h),(fun h=>by cases h),(fun h=>by cases h),(fun h=>by cases h)⟩
 | n + 1=>⟨(fun h=>a8f n (j4.ok n) h),(fun h=>a5S n (j4.ok n) h),(fun h=>a6j n (j4.ok n) h),(fun h=>a8j n (j4.ok n) h),(fun h=>a8Q n (j4.ok n) h),(fun h=>a8m n (j4.ok n) h),(fun h=>a6X n (j4.ok n) h),(fun h=>a8P n (j4.ok n) h),(fun h=>a8O n (j4.ok n) h),(fun h=>a7J n (j4.ok n) h),(fun h=>a6U n (j4.ok n) h),(fun h=>a8h n (j4.ok n) h),(fun h=>a5J n (j4.ok n) h),(fun h=>a8k n (j4.ok n) h),(fun h=>a9s n (j4.ok n) h)⟩
theorem a2r {n:Nat} {d9:List Tok} {at2:Int} {j5:Int} {r:Rs (Nod × Int) (l5 × Int)} (h:F7 n d9 at2 j5 = some r) :
  E env (.call 70 [.ptr 0 0]) (hP x9 d9 at2 j5) = some (a3m d9 at2 j5 r):=(j4.ok n).F7 h
end Go.Proofs.YtmhiojdkjokccaaGreatDoor
namespace Go.Proofs.YtmhiojdkjokccaaGreatDoor
open Go Go.Vm
theorem a1D {n:Nat} {d9:List Tok} {at2:Int} {j5:Int} {r:Rs (Nod × Int) (l5 × Int)} (h:a0L n d9 at2 j5 = some r) :
  E env (.call 38 [.ptr 0 0]) (hP x9 d9 at2 j5) = some (a6V d9 at2 j5 r):=by
 unfold a0L at h
 refine J6 rfl Tryz.func38 rfl rfl ?_
 refine eSG (oB 1 rfl (eSG (oA 1 rfl ?_)))
 rcases o6 h with ⟨⟨s4,t5,l6,at7,at8⟩,g1,h⟩ | ⟨⟨at14,at15⟩,g5,h⟩
 ·obtain ⟨t5_0,t5_1,t5_2,t5_3⟩:=t5
  refine oV (a1m g1) ?_
  refine oB 2 rfl (eSG (oB 2 rfl (G6 ?_)))
  refine O5 [256] rfl ?_
  refine oC rfl rfl (oC rfl rfl (oC rfl rfl (J3 rfl ?_)))
  rcases o6 h with ⟨⟨r9,at10⟩,g2,h⟩ | ⟨⟨e12,at13⟩,g4,h⟩
  ·obtain ⟨r9_0,r9_1,r9_2,⟨r9_3,r9_4,r9_5,r9_6⟩,r9_7,r9_8,r9_9⟩:=r9
   refine oV (a2r g2) ?_
   refine A8 (oC rfl rfl (J3 rfl ?_))
   obtain ⟨l11,g3,h⟩:=o7 h
   refine oP Q5 g3 ?_
   refine A8 (oC rfl rfl (oC rfl rfl ?_))
   refine a0g ?_
   refine ⟨rfl,?_⟩
   refine eSG (oB 2 rfl ?_)
   cases h
   exact C9 ⟨_,_,_,rfl,rfl,rfl⟩
  ·refine oW (a2r g4) ?_
   refine ⟨rfl,rfl,_,_,rfl,?_⟩
   cases h
   exact ⟨_,_,rfl,rfl⟩
 ·refine oW (a1m g5) ?_
  cases h
  exact ⟨_,_,rfl,rfl⟩
theorem a4Z {n:Nat} {d9:List Tok} {at2:Int} {j5:Int} {r:Rs (Nod × Int) (l5 × Int)} (h:a1T n d9 at2 j5 = some r) :
  E env (.call 37 [.ptr 0 0]) (hP x9 d9 at2 j5) = some (a3c d9 at2 j5 r):=by
 unfold a1T at h
 refine J6 rfl Tryz.func37 rfl rfl ?_
 refine eSG (oB 1 rfl (eSG (oA 1 rfl ?_)))
 obtain ⟨at4,g1,h⟩:=o7 h
 refine oV (D7 g1) ?_
 refine oB 2 rfl (eSG (oA 1 rfl ?_))
 rcases o6 h with ⟨at5,g2,h⟩ | ⟨⟨at46,at47⟩,g38,h⟩
 ·refine oV (H7 g2) ?_
  refine A8 (eSG (oA 1 rfl ?_))
  rcases o6 h with ⟨⟨r6,at7⟩,g3,h⟩ | ⟨⟨at44,at45⟩,g37,h⟩
  ·obtain ⟨r6_0,r6_1,r6_2,r6_3⟩:=r6
   refine oV (I5 g3) ?_
   refine oB 2 rfl (eSG (oA 1 rfl ?_))
   rcases o6 h with ⟨at8,g4,h⟩ | ⟨⟨at42,at43⟩,g36,h⟩
   ·refine oV (o5 g4) ?_
    refine A8 (eSG (oA 1 rfl ?_))
    rcases o6 h with ⟨r9,g5,h⟩ | ⟨at41,g35,h⟩
    ·refine oV (F3 g5) ?_
     refine oB 2 rfl (eSG (oA 1 rfl ?_))
     rcases o6 h with ⟨⟨r10,at11⟩,g6,h⟩ | ⟨⟨at39,at40⟩,g34,h⟩
     ·refine oV (a2s g6) ?_
      refine oB 2 rfl (eSG (oA 1 rfl ?_))
      rcases o6 h with ⟨at12,g7,h⟩ | ⟨⟨at37,at38⟩,g33,h⟩
      ·refine oV (o5 g7) ?_
       refine A8 ?_
       obtain ⟨y8,g9,h⟩:=P5 h
       refine Q0 (KR:=fun r=>a2u env 37 1 Tryz.f37.results.toList (a3c d9 at2 j5 r)) y8 (fun z32=>[(0,.ptr 0 0),(2,.ptr 1 0),(3,.ptr 2 0)]) (fun z32=>[(0,.row [.sl x9 d9,.i z32.1,.i j5]),(1,.row [.i 0,.str [],.i 0,.i 0,.str [],.i 0,.st 3 o9 ([]:List Typ),.st 4 o9 ([]:List Typ),.st 5 F4 ([]:List Nod),.i 0]),(2,.row (c0 6 r9 0 r6_0 r6_1 r6_2 (.sl o9 r6_3) (.st 6 o9 ([]:List Typ)) (.st 7 F4 z32.2) at4)),(3,.tip 0 0),(4,.tip 0 0),(5,.tip 0 0),(6,.tip 0 0),(7,.tip (tpe 10 (List.length z32.2)) (List.length z32.2))]) rfl ?_ (fun z32 hx=>?_) (fun r res hz hr hn=>?_)
       ·replace h:=g9
        clear g9
        refine F6 ?_
        refine T9 rfl ?_
        revert y8
        refine Z7 (fun m (x:Int × List Nod)=>Z9 n j5 d9 m x.1 x.2) (fun x=>[(0,.ptr 0 0),(2,.ptr 1 0),(3,.ptr 2 0)]) (fun x=>[(0,.row [.sl x9 d9,.i x.1,.i j5]),(1,.row [.i 0,.str [],.i 0,.i 0,.str [],.i 0,.st 3 o9 ([]:List Typ),.st 4 o9 ([]:List Typ),.st 5 F4 ([]:List Nod),.i 0]),(2,.row (c0 6 r9 0 r6_0 r6_1 r6_2 (.sl o9 r6_3) (.st 6 o9 ([]:List Typ)) (.st 7 F4 x.2) at4)),(3,.tip 0 0),(4,.tip 0 0),(5,.tip 0 0),(6,.tip 0 0),(7,.tip (tpe 10 (List.length x.2)) (List.length x.2))]) _ (fun _=>rfl) (fun m8 x y ih h=>?_) n (at12,r10)
        obtain ⟨a2X,a8I⟩:=x
        rw [Z9] at h
        refine G6 (eSG (oA 1 rfl ?_))
        obtain ⟨r13,g10,h⟩:=o7 h
        refine oV (F5 g10) ?_
        refine A8 ?_
        refine eI rfl h (fun h=>?_) fun h=>?_
        ·refine D8 ?_
         refine F6 ?_
         refine eSG (oA 1 rfl ?_)
         obtain ⟨at14,g12,h⟩:=o7 h
         refine oV (D7 g12) ?_
         refine oB 2 rfl (eSG (oB 8 rfl (eSG (oA 1 rfl ?_))))
         rcases o6 h with ⟨r15,g13,h⟩ | ⟨at27,g21,h⟩
         ·refine oV (F3 g13) ?_
          refine oB 2 rfl (eSG (oA 1 rfl ?_))
          rcases o6 h with ⟨at16,g14,h⟩ | ⟨⟨at25,at26⟩,g20,h⟩
          ·refine oV (o5 g14) ?_
           refine A8 (eSG (oA 1 rfl ?_))
           rcases o6 h with ⟨⟨r17,at18⟩,g15,h⟩ | ⟨⟨at23,at24⟩,g19,h⟩
           ·obtain ⟨r17_0,r17_1,r17_2,r17_3⟩:=r17
            refine oV (I5 g15) ?_
            refine oB 2 rfl (eSG (oA 1 rfl ?_))
            rcases o6 h with ⟨at19,g16,h⟩ | ⟨⟨at21,at22⟩,g18,h⟩
            ·refine oV (o5 g16) ?_
             refine A8 (p9 (oA 4 rfl ?_))
             obtain ⟨l20,g17,h⟩:=o7 h
             refine oP Q5 g17 ?_
             refine oB 2 rfl ?_
             exact ⟨_,_,rfl,ih (_,_) _ h⟩
            ·refine oW (o5 g18) ?_
             cases h
             exact ⟨_,rfl,_,_,rfl,rfl⟩
           ·refine oW (I5 g19) ?_
            cases h
            exact ⟨_,rfl,_,_,rfl,rfl⟩
          ·refine oW (o5 g20) ?_
           cases h
           exact ⟨_,rfl,_,_,rfl,rfl⟩
         ·refine oW (F3 g21) ?_
          cases h
          exact ⟨_,rfl,_,_,rfl,rfl⟩
        ·refine R4 ?_
         cases h
         exact ⟨_,rfl,rfl⟩
       ·subst hx
        obtain ⟨b0Z,b1U⟩:=z32
        obtain ⟨y22,g23,h⟩:=P5 h
        refine Q0 (KR:=fun r=>a2u env 37 1 Tryz.f37.results.toList (a3c d9 at2 j5 r)) y22 (fun z31=>[(0,.ptr 0 0),(2,.ptr 1 0),(3,.ptr 2 0)]) (fun z31=>[(0,.row [.sl x9 d9,.i z31.1,.i j5]),(1,.row [.i 0,.str [],.i 0,.i 0,.str [],.i 0,.st 3 o9 ([]:List Typ),.st 4 o9 ([]:List Typ),.st 5 F4 ([]:List Nod),.i 0]),(2,.row (c0 6 r9 0 r6_0 r6_1 r6_2 (.sl o9 r6_3) (.st 6 o9 ([]:List Typ)) (.st 7 F4 z31.2) at4)),(3,.tip 0 0),(4,.tip 0 0),(5,.tip 0 0),(6,.tip 0 0),(7,.tip (tpe 10 (List.length z31.2)) (List.length z31.2))]) rfl ?_ (fun z31 hx=>?_) (fun r res hz hr hn=>?_)
        ·replace h:=g23
         clear g23
         refine F6 ?_
         refine T9 rfl ?_
         revert y22
         refine Z7 (fun m (x:Int × List Nod)=>Y0 n j5 d9 m x.1 x.2) (fun x=>[(0,.ptr 0 0),(2,.ptr 1 0),(3,.ptr 2 0)]) (fun x=>[(0,.row [.sl x9 d9,.i x.1,.i j5]),(1,.row [.i 0,.str [],.i 0,.i 0,.str [],.i 0,.st 3 o9 ([]:List Typ),.st 4 o9 ([]:List Typ),.st 5 F4 ([]:List Nod),.i 0]),(2,.row (c0 6 r9 0 r6_0 r6_1 r6_2 (.sl o9 r6_3) (.st 6 o9 ([]:List Typ)) (.st 7 F4 x.2) at4)),(3,.tip 0 0),(4,.tip 0 0),(5,.tip 0 0),(6,.tip 0 0),(7,.tip (tpe 10 (List.length x.2)) (List.length x.2))]) _ (fun _=>rfl) (fun m16 x y ih h=>?_) n (b0Z,b1U)
         obtain ⟨a9h,l524⟩:=x
         rw [Y0] at h
         refine G6 (eSG (oA 1 rfl ?_))
         obtain ⟨r28,g24,h⟩:=o7 h
         refine oV (F5 g24) ?_
         refine A8 ?_
         refine eI rfl h (fun h=>?_) fun h=>?_
         ·refine D8 ?_
          refine F6 ?_
          refine eSG (oA 1 rfl ?_)
          rcases o6 h with ⟨⟨r29,at30⟩,g26,h⟩ | ⟨⟨e32,at33⟩,g28,h⟩
          ·obtain ⟨r29_0,r29_1,r29_2,⟨r29_3,r29_4,r29_5,r29_6⟩,r29_7,r29_8,r29_9⟩:=r29
           refine oV (a1D g26) ?_
           refine oB 2 rfl (p9 (oA 4 rfl ?_))
           obtain ⟨l31,g27,h⟩:=o7 h
           refine oP Q5 g27 ?_
           refine oB 2 rfl ?_
           exact ⟨_,_,rfl,ih (_,_) _ h⟩
          ·refine oW (a1D g28) ?_
           cases h
           exact ⟨_,rfl,_,_,rfl,rfl⟩
         ·refine R4 ?_
          cases h
          exact ⟨_,rfl,rfl⟩
        ·subst hx
         obtain ⟨b2l,l536⟩:=z31
         refine eSG (oA 1 rfl ?_)
         rcases o6 h with ⟨at34,g29,h⟩ | ⟨⟨at35,at36⟩,g30,h⟩
         ·refine oV (o5 g29) ?_
          refine A8 (eSG (oB 2 rfl ?_))
          cases h
          exact C9 ⟨_,_,_,rfl,rfl,rfl⟩
         ·refine oW (o5 g30) ?_
          cases h
          exact ⟨_,_,rfl,rfl⟩
        ·subst hz
         rcases res with ⟨_ | _ | _ | _,_,_⟩ <;> first | exact absurd rfl hn | exact hr.elim | (cases h; exact hr)
       ·subst hz
        rcases res with ⟨_ | _ | _ | _,_,_⟩ <;> first | exact absurd rfl hn | exact hr.elim | (cases h; exact hr)
      ·refine oW (o5 g33) ?_
       cases h
       exact ⟨_,_,rfl,rfl⟩
     ·refine oW (a2s g34) ?_
      cases h
      exact ⟨_,_,rfl,rfl⟩
    ·refine oW (F3 g35) ?_
     cases h
     exact ⟨_,_,rfl,rfl⟩
   ·refine oW (o5 g36) ?_
    cases h
    exact ⟨_,_,rfl,rfl⟩
  ·refine oW (I5 g37) ?_
   cases h
   exact ⟨_,_,rfl,rfl⟩
 ·refine oW (H7 g38) ?_
  cases h
  exact ⟨_,_,rfl,rfl⟩
theorem a10 {n:Nat} {d9:List Tok} {at2:Int} {j5:Int} {r:Rs (List Nod × Int) (l5 × Int)} (h:a0j n d9 at2 j5 = some r) :
  E env (.call 43 [.ptr 0 0]) (hP x9 d9 at2 j5) = some (a3d d9 at2 j5 r):=by
 unfold a0j at h
 refine J6 rfl Tryz.func43 rfl rfl ?_
 refine eSG (oB 1 rfl (eSG (oB 1 rfl (eSG (oA 1 rfl ?_)))))
 rcases o6 h with ⟨at4,g1,h⟩ | ⟨⟨at34,at35⟩,g36,h⟩
 ·refine oV (o5 g1) ?_
  refine A8 ?_
  obtain ⟨y2,g3,h⟩:=P5 h
  refine Q0 (KR:=fun r=>a2u env 43 1 Tryz.f43.results.toList (a3d d9 at2 j5 r)) y2 (fun z35=>[(0,.ptr 0 0),(3,.st 1 F4 z35.1)]) (fun z35=>[(0,.row [.sl x9 d9,.i z35.2,.i j5]),(1,.tip (tpe 10 (List.length z35.1)) (List.length z35.1))]) rfl ?_ (fun z35 hx=>?_) (fun r res hz hr hn=>?_)
  ·replace h:=g3
   clear g3
   refine F6 ?_
   refine T9 rfl ?_
   revert y2
   refine Z7 (fun m (x:List Nod × Int)=>a0a n j5 d9 m x.1 x.2) (fun x=>[(0,.ptr 0 0),(3,.st 1 F4 x.1)]) (fun x=>[(0,.row [.sl x9 d9,.i x.2,.i j5]),(1,.tip (tpe 10 (List.length x.1)) (List.length x.1))]) _ (fun _=>rfl) (fun m3 x y ih h=>?_) n (([]:List Nod),at4)
   obtain ⟨b1T,a2B⟩:=x
   rw [a0a] at h
   refine G6 ?_
   obtain ⟨y4,g5,h⟩:=o7 h
   refine a1W [(0,.ptr 0 0),(3,.st 1 F4 b1T),(13,.bool y4)] [(0,.row [.sl x9 d9,.i a2B,.i j5]),(1,.tip (tpe 10 (List.length b1T)) (List.length b1T))] rfl ?_ ?_
   ·replace h:=g5
    clear g5
    refine p9 (oA 1 rfl ?_)
    obtain ⟨r5,g6,h⟩:=o7 h
    refine oV (F5 g6) ?_
    refine oA 1 rfl ?_
    refine K9 rfl rfl rfl (fun g7=>?_) (fun g7=>?_)
    ·replace h:=a2k h g7
     refine oB 3 rfl ?_
     cases h
     exact rfl
    ·replace h:=a2j h g7
     refine oA 1 rfl ?_
     obtain ⟨r6,g8,h⟩:=o7 h
     refine oV (F5 g8) ?_
     refine oB 1 rfl ?_
     cases h
     exact rfl
   ·obtain ⟨b4N,rfl⟩:∃ q,q = y4:=⟨_,rfl⟩
    refine eI rfl h (fun h=>?_) fun h=>?_
    ·refine D8 ?_
     refine F6 ?_
     refine eSG (oA 1 rfl ?_)
     obtain ⟨at7,g10,h⟩:=o7 h
     refine oV (D7 g10) ?_
     refine oB 2 rfl ?_
     obtain ⟨y11,g12,h⟩:=o7 h
     refine a1W [(0,.ptr 0 0),(3,.st 1 F4 b1T),(4,.ptr 2 0)] [(0,.row [.sl x9 d9,.i y11.1,.i j5]),(1,.tip (tpe 10 (List.length b1T)) (List.length b1T)),(2,.row [.i 13,.str [],.i y11.2,.i 0,.str [],.i 0,.sl o9 ([]:List Typ),.st 3 o9 ([]:List Typ),.st 4 F4 ([]:List Nod),.i at7]),(3,.tip 0 0),(4,.tip 0 0)] rfl ?_ ?_
     ·replace h:=g12
      clear g12
      refine eSG (oA 1 rfl ?_)
      obtain ⟨⟨r8,at9⟩,g13,h⟩:=o7 h
      refine oV (J2 g13) ?_
      refine A8 ?_
      refine eI rfl h (fun h=>?_) fun h=>?_
      ·refine p9 (oB 2 rfl ?_)
       cases h
       exact rfl
      ·refine p9 (oB 8 rfl ?_)
       cases h
       exact rfl
     ·obtain ⟨a3M,n519⟩:=y11
      refine eSG (oA 1 rfl ?_)
      rcases o6 h with ⟨r10,g15,h⟩ | ⟨at22,g23,h⟩
      ·refine oV (F8 g15) ?_
       refine oB 2 rfl (eSG (oA 1 rfl ?_))
       rcases o6 h with ⟨at11,g16,h⟩ | ⟨⟨at20,at21⟩,g22,h⟩
       ·refine oV (o5 g16) ?_
        refine A8 (eSG (oA 1 rfl ?_))
        rcases o6 h with ⟨⟨r12,at13⟩,g17,h⟩ | ⟨⟨at18,at19⟩,g21,h⟩
        ·obtain ⟨r12_0,r12_1,r12_2,r12_3⟩:=r12
         refine oV (I5 g17) ?_
         refine oB 2 rfl (eSG (oA 1 rfl ?_))
         rcases o6 h with ⟨at14,g18,h⟩ | ⟨⟨at16,at17⟩,g20,h⟩
         ·refine oV (o5 g18) ?_
          refine A8 (p9 (oA 3 rfl ?_))
          obtain ⟨l15,g19,h⟩:=o7 h
          refine oP Q5 g19 ?_
          refine oB 1 rfl ?_
          exact ⟨_,_,rfl,ih (_,_) _ h⟩
         ·refine oW (o5 g20) ?_
          cases h
          exact ⟨_,rfl,_,_,rfl,rfl⟩
        ·refine oW (I5 g21) ?_
         cases h
         exact ⟨_,rfl,_,_,rfl,rfl⟩
       ·refine oW (o5 g22) ?_
        cases h
        exact ⟨_,rfl,_,_,rfl,rfl⟩
      ·refine oW (F8 g23) ?_
       cases h
       exact ⟨_,rfl,_,_,rfl,rfl⟩
    ·refine R4 ?_
     cases h
     exact ⟨_,rfl,rfl⟩
  ·subst hx
   obtain ⟨l520,a9g⟩:=z35
   refine eSG (oA 1 rfl ?_)
   obtain ⟨at23,g24,h⟩:=o7 h
   refine oV (D7 g24) ?_
   refine oB 2 rfl ?_
   obtain ⟨y25,g26,h⟩:=P5 h
   refine Q0 (KR:=fun r=>a2u env 43 1 Tryz.f43.results.toList (a3d d9 at2 j5 r)) y25 (fun z34=>[(0,.ptr 0 0),(3,.st 1 F4 z34.1)]) (fun z34=>[(0,.row [.sl x9 d9,.i z34.2,.i j5]),(1,.tip (tpe 10 (List.length z34.1)) (List.length z34.1))]) rfl ?_ (fun z34 hx=>?_) (fun r res hz hr hn=>?_)
   ·replace h:=g26
    clear g26
    refine eSG (oA 1 rfl ?_)
    obtain ⟨⟨r24,at25⟩,g27,h⟩:=o7 h
    refine oV (J2 g27) ?_
    refine A8 ?_
    refine eI rfl h (fun h=>?_) fun h=>?_
    ·refine eSG (oA 1 rfl ?_)
     rcases o6 h with ⟨⟨r26,at27⟩,g29,h⟩ | ⟨⟨e29,at30⟩,g31,h⟩
     ·obtain ⟨r26_0,r26_1,r26_2,⟨r26_3,r26_4,r26_5,r26_6⟩,r26_7,r26_8,r26_9⟩:=r26
      refine oV (a2r g29) ?_
      refine oB 3 rfl (p9 (oA 3 rfl ?_))
      obtain ⟨l28,g30,h⟩:=o7 h
      refine oP Q5 g30 ?_
      refine oB 1 rfl ?_
      cases h
      exact ⟨_,rfl,rfl⟩
     ·refine oW (a2r g31) ?_
      cases h
      exact ⟨_,rfl,_,_,rfl,rfl⟩
    ·refine D8 ?_
     cases h
     exact ⟨_,rfl,rfl⟩
   ·subst hx
    obtain ⟨l533,b2k⟩:=z34
    refine eSG (oA 1 rfl ?_)
    rcases o6 h with ⟨at31,g32,h⟩ | ⟨⟨at32,at33⟩,g33,h⟩
    ·refine oV (o5 g32) ?_
     refine A8 (eSG (oB 2 rfl ?_))
     cases h
     exact C9 ⟨_,_,_,rfl,rfl,rfl⟩
    ·refine oW (o5 g33) ?_
     cases h
     exact ⟨_,_,rfl,rfl⟩
   ·subst hz
    rcases res with ⟨_ | _ | _ | _,_,_⟩ <;> first | exact absurd rfl hn | exact hr.elim | (cases h; exact hr)
  ·subst hz
   rcases res with ⟨_ | _ | _ | _,_,_⟩ <;> first | exact absurd rfl hn | exact hr.elim | (cases h; exact hr)
 ·refine oW (o5 g36) ?_
  cases h
  exact ⟨_,_,rfl,rfl⟩
theorem a5l {n:Nat} {d9:List Tok} {at2:Int} {j5:Int} {r:Rs (List Nod × Int) (Int × Int)} (h:a1y n d9 at2 j5 = some r) :
  E env (.call 44 [.ptr 0 0]) (hP x9 d9 at2 j5) = some (a1Y d9 at2 j5 r):=by
 unfold a1y at h
 refine J6 rfl Tryz.func44 rfl rfl ?_
 refine eSG (oB 1 rfl (eSG (oB 1 rfl (eSG (oA 1 rfl ?_)))))
 rcases o6 h with ⟨at4,g1,h⟩ | ⟨⟨at36,at37⟩,g37,h⟩
 ·refine oV (o5 g1) ?_
  refine A8 ?_
  obtain ⟨y2,g3,h⟩:=P5 h
  refine Q0 (KR:=fun r=>a2u env 44 1 Tryz.f44.results.toList (a1Y d9 at2 j5 r)) y2 (fun z36=>[(3,.st 1 F4 z36.1)]) (fun z36=>[(0,.row [.sl x9 d9,.i z36.2,.i j5]),(1,.tip (tpe 10 (List.length z36.1)) (List.length z36.1))]) rfl ?_ (fun z36 hx=>?_) (fun r res hz hr hn=>?_)
  ·replace h:=g3
   clear g3
   refine F6 ?_
   refine T9 rfl ?_
   revert y2
   refine Z7 (fun m (x:List Nod × Int)=>U0 n j5 d9 m x.1 x.2) (fun x=>[(0,.ptr 0 0),(3,.st 1 F4 x.1)]) (fun x=>[(0,.row [.sl x9 d9,.i x.2,.i j5]),(1,.tip (tpe 10 (List.length x.1)) (List.length x.1))]) _ (fun _=>rfl) (fun m3 x y ih h=>?_) n (([]:List Nod),at4)
   obtain ⟨b2P,a9h⟩:=x
   rw [U0] at h
   refine G6 (eSG (oA 1 rfl ?_))
   obtain ⟨⟨r5,at6⟩,g4,h⟩:=o7 h
   refine oV (D6 g4) ?_
   refine oB 1 rfl ?_
   refine eI rfl h (fun h=>?_) fun h=>?_
   ·refine D8 ?_
    refine F6 ?_
    refine eSG (oA 1 rfl ?_)
    obtain ⟨at7,g6,h⟩:=o7 h
    refine oV (D7 g6) ?_
    refine oB 2 rfl ?_
    obtain ⟨y7,g8,h⟩:=o7 h
    refine a1W [(0,.ptr 0 0),(3,.st 1 F4 b2P),(4,.ptr 2 0)] [(0,.row [.sl x9 d9,.i y7.1,.i j5]),(1,.tip (tpe 10 (List.length b2P)) (List.length b2P)),(2,.row [.i 14,.str [],.i y7.2,.i 0,.str [],.i 0,.sl o9 ([]:List Typ),.st 3 o9 ([]:List Typ),.st 4 F4 ([]:List Nod),.i at7]),(3,.tip 0 0),(4,.tip 0 0)] rfl ?_ ?_
    ·replace h:=g8
     clear g8
     refine eSG (oA 1 rfl ?_)
     obtain ⟨⟨r8,at9⟩,g9,h⟩:=o7 h
     refine oV (J2 g9) ?_
     refine A8 ?_
     refine eI rfl h (fun h=>?_) fun h=>?_
     ·refine p9 (oB 2 rfl ?_)
      cases h
      exact rfl
     ·refine D8 ?_
      cases h
      exact rfl
    ·obtain ⟨a9i,b31⟩:=y7
     refine eSG (oA 1 rfl ?_)
     rcases o6 h with ⟨at10,g11,h⟩ | ⟨⟨at34,at35⟩,g35,h⟩
     ·refine oV (H7 g11) ?_
      refine A8 (eSG (oA 1 rfl ?_))
      rcases o6 h with ⟨r11,g12,h⟩ | ⟨at33,g34,h⟩
      ·refine oV (F8 g12) ?_
       refine oB 2 rfl ?_
       obtain ⟨y13,g14,h⟩:=a2Y h
       refine Q0 (KR:=fun r=>a2u env 44 1 Tryz.f44.results.toList (a1Y d9 at2 j5 r)) y13 (fun z33=>[(0,.ptr 0 0),(3,.st 1 F4 z33.1),(4,.ptr 2 0)]) (fun z33=>[(0,.row [.sl x9 d9,.i z33.2.1,.i j5]),(1,.tip (tpe 10 (List.length z33.1)) (List.length z33.1)),(2,.row [.i 14,.str r11,.i z33.2.2.1,.i 0,.str [],.i 0,.sl o9 ([]:List Typ),.st 3 o9 z33.2.2.2,.st 4 F4 ([]:List Nod),.i at7]),(3,.tip (tpe 4 (List.length z33.2.2.2)) (List.length z33.2.2.2)),(4,.tip 0 0)]) rfl ?_ (fun z33 hx=>?_) (fun r res hz hr hn=>?_)
       ·replace h:=g14
        clear g14
        refine eSG (oA 1 rfl ?_)
        obtain ⟨⟨r12,at13⟩,g15,h⟩:=o7 h
        refine oV (D6 g15) ?_
        refine A8 ?_
        refine eI rfl h (fun h=>?_) fun h=>?_
        ·refine G6 ?_
         refine O5 [2] rfl ?_
         refine oC rfl rfl (oC rfl rfl (oC rfl rfl (J3 rfl ?_)))
         rcases o6 h with ⟨⟨r14,at15⟩,g17,h⟩ | ⟨⟨at27,at28⟩,g29,h⟩
         ·obtain ⟨r14_0,r14_1,r14_2,r14_3⟩:=r14
          refine oV (I5 g17) ?_
          refine A8 (oC rfl rfl (J3 rfl ?_))
          obtain ⟨l16,g18,h⟩:=o7 h
          refine oP a9B g18 ?_
          refine A8 (oC rfl rfl (oC rfl rfl ?_))
          refine a0g ?_
          refine ⟨rfl,?_⟩
          obtain ⟨y19,g20,h⟩:=a2Y h
          refine Q0 (KR:=fun r=>a2u env 44 1 Tryz.f44.results.toList (a1Y d9 at2 j5 r)) y19 (fun z28=>[(0,.ptr 0 0),(3,.st 1 F4 z28.1),(4,.ptr 2 0)]) (fun z28=>[(0,.row [.sl x9 d9,.i z28.2.1,.i j5]),(1,.tip (tpe 10 (List.length z28.1)) (List.length z28.1)),(2,.row [.i 14,.str r11,.i z28.2.2.1,.i 0,.str [],.i 0,.sl o9 ([]:List Typ),.st 3 o9 z28.2.2.2,.st 4 F4 ([]:List Nod),.i at7]),(3,.tip (tpe 4 (List.length z28.2.2.2)) (List.length z28.2.2.2)),(4,.tip 0 0)]) rfl ?_ (fun z28 hx=>?_) (fun r res hz hr hn=>?_)
          ·replace h:=g20
           clear g20
           refine F6 ?_
           refine T9 rfl ?_
           revert y19
           refine Z7 (fun m (x:List Nod × Int × Int × List Typ)=>Z8 n j5 d9 m x.1 x.2.1 x.2.2.1 x.2.2.2) (fun x=>[(0,.ptr 0 0),(3,.st 1 F4 x.1),(4,.ptr 2 0)]) (fun x=>[(0,.row [.sl x9 d9,.i x.2.1,.i j5]),(1,.tip (tpe 10 (List.length x.1)) (List.length x.1)),(2,.row [.i 14,.str r11,.i x.2.2.1,.i 0,.str [],.i 0,.sl o9 ([]:List Typ),.st 3 o9 x.2.2.2,.st 4 F4 ([]:List Nod),.i at7]),(3,.tip (tpe 4 (List.length x.2.2.2)) (List.length x.2.2.2)),(4,.tip 0 0)]) _ (fun _=>rfl) (fun m11 x y ih h=>?_) n (b2P,at15,b31,l16)
           obtain ⟨l532,b0m,n534,ts535⟩:=x
           rw [Z8] at h
           refine G6 (eSG (oA 1 rfl ?_))
           obtain ⟨⟨r17,at18⟩,g21,h⟩:=o7 h
           refine oV (D6 g21) ?_
           refine A8 ?_
           refine eI rfl h (fun h=>?_) fun h=>?_
           ·refine D8 ?_
            refine F6 ?_
            refine O5 [2] rfl ?_
            refine oC rfl rfl (oC rfl rfl (oC rfl rfl (J3 rfl ?_)))
            rcases o6 h with ⟨⟨r19,at20⟩,g23,h⟩ | ⟨⟨at22,at23⟩,g25,h⟩
            ·obtain ⟨r19_0,r19_1,r19_2,r19_3⟩:=r19
             refine oV (I5 g23) ?_
             refine A8 (oC rfl rfl (J3 rfl ?_))
             obtain ⟨l21,g24,h⟩:=o7 h
             refine oP a9B g24 ?_
             refine A8 (oC rfl rfl (oC rfl rfl ?_))
             refine a0g ?_
             refine ⟨rfl,?_⟩
             exact ⟨_,_,rfl,ih (l532,at20,n534,l21) _ h⟩
            ·refine oW (I5 g25) ?_
             refine ⟨rfl,rfl,_,_,rfl,?_⟩
             cases h
             exact ⟨_,rfl,_,_,rfl,rfl⟩
           ·refine R4 ?_
            cases h
            exact ⟨_,rfl,rfl⟩
          ·subst hx
           obtain ⟨l540,at541,n542,ts543⟩:=z28
           refine p9 (oA 1 rfl ?_)
           rcases o6 h with ⟨at24,g26,h⟩ | ⟨⟨at25,at26⟩,g27,h⟩
           ·refine oV (o5 g26) ?_
            refine A8 ?_
            cases h
            exact ⟨_,rfl,rfl⟩
           ·refine oW (o5 g27) ?_
            cases h
            exact ⟨_,rfl,_,_,rfl,rfl⟩
          ·subst hz
           rcases res with ⟨_ | _ | _ | _,_,_⟩ <;> first | exact absurd rfl hn | exact hr.elim | (cases h; exact ⟨_,rfl,hr⟩)
         ·refine oW (I5 g29) ?_
          refine ⟨rfl,rfl,_,_,rfl,?_⟩
          cases h
          exact ⟨_,rfl,_,_,rfl,rfl⟩
        ·refine D8 ?_
         cases h
         exact ⟨_,rfl,rfl⟩
       ·subst hx
        obtain ⟨l544,b2n,b33,ts547⟩:=z33
        refine eSG (oA 1 rfl ?_)
        rcases o6 h with ⟨at29,g30,h⟩ | ⟨⟨at31,at32⟩,g32,h⟩
        ·refine oV (o5 g30) ?_
         refine A8 (p9 (oA 3 rfl ?_))
         obtain ⟨l30,g31,h⟩:=o7 h
         refine oP Q5 g31 ?_
         refine oB 1 rfl ?_
         exact ⟨_,_,rfl,ih (_,_) _ h⟩
        ·refine oW (o5 g32) ?_
         cases h
         exact ⟨_,rfl,_,_,rfl,rfl⟩
       ·subst hz
        rcases res with ⟨_ | _ | _ | _,_,_⟩ <;> first | exact absurd rfl hn | exact hr.elim | (cases h; exact ⟨_,rfl,hr⟩)
      ·refine oW (F8 g34) ?_
       cases h
       exact ⟨_,rfl,_,_,rfl,rfl⟩
     ·refine oW (H7 g35) ?_
      cases h
      exact ⟨_,rfl,_,_,rfl,rfl⟩
   ·refine R4 ?_
    cases h
    exact ⟨_,rfl,rfl⟩
  ·subst hx
   obtain ⟨l548,b05⟩:=z36
   refine eSG (oB 2 rfl ?_)
   cases h
   exact C9 ⟨_,_,_,rfl,rfl,rfl⟩
  ·subst hz
   rcases res with ⟨_ | _ | _ | _,_,_⟩ <;> first | exact absurd rfl hn | exact hr.elim | (cases h; exact hr)
 ·refine oW (o5 g37) ?_
  cases h
  exact ⟨_,_,rfl,rfl⟩
end Go.Proofs.YtmhiojdkjokccaaGreatDoor
namespace Go.Proofs.YtmhiojdkjokccaaGreatDoor
open Go Go.Vm
theorem a3F {n:Nat} {d9:List Tok} {at2:Int} {j5:Int} {r:Rs (Nod × Int) (l5 × Int)} (h:a0Q n d9 at2 j5 = some r) :
  E env (.call 16 [.ptr 0 0]) (hP x9 d9 at2 j5) = some (a5R d9 at2 j5 r):=by
 unfold a0Q at h
 refine J6 rfl Tryz.func16 rfl rfl ?_
 refine eSG (oB 1 rfl (G6 ?_))
 refine F6 ?_
 refine eSG (oA 1 rfl ?_)
 obtain ⟨r4,g1,h⟩:=o7 h
 refine oV (F5 g1) ?_
 refine oB 1 rfl ?_
 refine eI rfl h (fun h=>?_) fun h=>?_
 ·refine eSG (oA 1 rfl ?_)
  rcases o6 h with ⟨⟨r5,at6⟩,g3,h⟩ | ⟨⟨at7,at8⟩,g4,h⟩
  ·obtain ⟨r5_0,r5_1,r5_2,⟨r5_3,r5_4,r5_5,r5_6⟩,r5_7,r5_8,r5_9⟩:=r5
   refine oV (a4u g3) ?_
   refine oB 1 rfl ?_
   cases h
   exact C9 ⟨_,_,_,rfl,rfl,rfl⟩
  ·refine oW (a4u g4) ?_
   cases h
   exact ⟨_,_,rfl,rfl⟩
 ·refine eSG (oA 1 rfl ?_)
  obtain ⟨r9,g5,h⟩:=o7 h
  refine oV (F5 g5) ?_
  refine oB 1 rfl ?_
  refine eI rfl h (fun h=>?_) fun h=>?_
  ·refine eSG (oA 1 rfl ?_)
   rcases o6 h with ⟨⟨r10,at11⟩,g7,h⟩ | ⟨⟨e12,at13⟩,g8,h⟩
   ·obtain ⟨r10_0,r10_1,r10_2,⟨r10_3,r10_4,r10_5,r10_6⟩,r10_7,r10_8,r10_9⟩:=r10
    refine oV (a4Z g7) ?_
    refine oB 1 rfl ?_
    cases h
    exact C9 ⟨_,_,_,rfl,rfl,rfl⟩
   ·refine oW (a4Z g8) ?_
    cases h
    exact ⟨_,_,rfl,rfl⟩
  ·refine eSG (oA 1 rfl ?_)
   obtain ⟨r14,g9,h⟩:=o7 h
   refine oV (F5 g9) ?_
   refine oB 1 rfl ?_
   refine eI rfl h (fun h=>?_) fun h=>?_
   ·refine eSG (oA 1 rfl ?_)
    rcases o6 h with ⟨⟨r15,at16⟩,g11,h⟩ | ⟨⟨e17,at18⟩,g12,h⟩
    ·obtain ⟨r15_0,r15_1,r15_2,⟨r15_3,r15_4,r15_5,r15_6⟩,r15_7,r15_8,r15_9⟩:=r15
     refine oV (a1D g11) ?_
     refine oB 1 rfl ?_
     cases h
     exact C9 ⟨_,_,_,rfl,rfl,rfl⟩
    ·refine oW (a1D g12) ?_
     cases h
     exact ⟨_,_,rfl,rfl⟩
   ·refine D8 (eSG (oA 1 rfl ?_))
    obtain ⟨at19,g13,h⟩:=o7 h
    refine oV (D7 g13) ?_
    refine oB 2 rfl (G6 (eSG (oA 1 rfl ?_)))
    obtain ⟨⟨r20,at21⟩,g14,h⟩:=o7 h
    refine oV (J2 g14) ?_
    refine A8 ?_
    refine eI rfl h (fun h=>?_) fun h=>?_
    ·refine eSG (oB 2 rfl (eSG (oA 1 rfl ?_)))
     rcases o6 h with ⟨r22,g16,h⟩ | ⟨at32,g22,h⟩
     ·refine oV (F3 g16) ?_
      refine oB 2 rfl (eSG (oA 1 rfl ?_))
      rcases o6 h with ⟨⟨r23,at24⟩,g17,h⟩ | ⟨⟨at30,at31⟩,g21,h⟩
      ·refine oV (R7 g17) ?_
       refine oB 2 rfl (G6 ?_)
       refine O5 [256] rfl ?_
       refine oC rfl rfl (oC rfl rfl (oC rfl rfl (J3 rfl ?_)))
       rcases o6 h with ⟨⟨r25,at26⟩,g18,h⟩ | ⟨⟨e28,at29⟩,g20,h⟩
       ·refine oV (a10 g18) ?_
        refine A8 (J3 rfl ?_)
        obtain ⟨l27,g19,h⟩:=o7 h
        refine b1m Q5 g19 rfl rfl rfl rfl rfl rfl rfl rfl rfl rfl rfl rfl rfl rfl (a6w (a1F (a1O.length Q5 _).symm) rfl) rfl rfl rfl ?_
        refine A8 (oC rfl rfl (oC rfl rfl ?_))
        refine a0g ?_
        refine ⟨rfl,?_⟩
        refine eSG (oB 2 rfl ?_)
        cases h
        exact C9 ⟨_,_,_,rfl,rfl,rfl⟩
       ·refine oW (a10 g20) ?_
        refine ⟨rfl,rfl,_,_,rfl,?_⟩
        cases h
        exact ⟨_,_,rfl,rfl⟩
      ·refine oW (R7 g21) ?_
       cases h
       exact ⟨_,_,rfl,rfl⟩
     ·refine oW (F3 g22) ?_
      cases h
      exact ⟨_,_,rfl,rfl⟩
    ·refine D8 ?_
     obtain ⟨y23,g24,h⟩:=o7 h
     refine a1W [(0,.ptr 0 0),(2,.ptr 1 0),(3,.ptr 2 0)] [(0,.row [.sl x9 d9,.i y23.1,.i j5]),(1,.row [.i 0,.str [],.i 0,.i 0,.str [],.i 0,.st 3 o9 ([]:List Typ),.st 4 o9 ([]:List Typ),.st 5 F4 ([]:List Nod),.i 0]),(2,.row [.i 2,.str [],.i y23.2,.i 0,.str [],.i 0,.sl o9 ([]:List Typ),.st 6 o9 ([]:List Typ),.st 7 F4 ([]:List Nod),.i at19]),(3,.tip 0 0),(4,.tip 0 0),(5,.tip 0 0),(6,.tip 0 0),(7,.tip 0 0)] rfl ?_ ?_
     ·replace h:=g24
      clear g24
      refine eSG (oA 1 rfl ?_)
      obtain ⟨⟨r33,at34⟩,g25,h⟩:=o7 h
      refine oV (J2 g25) ?_
      refine A8 ?_
      refine eI rfl h (fun h=>?_) fun h=>?_
      ·refine p9 (oB 5 rfl ?_)
       cases h
       exact rfl
      ·refine D8 ?_
       cases h
       exact rfl
     ·obtain ⟨b0m,n534⟩:=y23
      obtain ⟨y27,g28,h⟩:=o7 h
      refine a1W [(0,.ptr 0 0),(2,.ptr 1 0),(3,.ptr 2 0)] [(0,.row [.sl x9 d9,.i y27.1,.i j5]),(1,.row [.i 0,.str [],.i 0,.i 0,.str [],.i 0,.st 3 o9 ([]:List Typ),.st 4 o9 ([]:List Typ),.st 5 F4 ([]:List Nod),.i 0]),(2,.row [.i 2,.str [],.i y27.2,.i 0,.str [],.i 0,.sl o9 ([]:List Typ),.st 6 o9 ([]:List Typ),.st 7 F4 ([]:List Nod),.i at19]),(3,.tip 0 0),(4,.tip 0 0),(5,.tip 0 0),(6,.tip 0 0),(7,.tip 0 0)] rfl ?_ ?_
      ·replace h:=g28
       clear g28
       refine eSG (oA 1 rfl ?_)
       obtain ⟨⟨r35,at36⟩,g29,h⟩:=o7 h
       refine oV (J2 g29) ?_
       refine A8 ?_
       refine eI rfl h (fun h=>?_) fun h=>?_
       ·refine p9 (oB 5 rfl ?_)
        cases h
        exact rfl
       ·refine D8 ?_
        cases h
        exact rfl
      ·obtain ⟨b2l,a8K⟩:=y27
       refine G6 ?_
       obtain ⟨y31,g32,h⟩:=o7 h
       refine a1W [(0,.ptr 0 0),(2,.ptr 1 0),(3,.ptr 2 0),(56,.bool y31.1)] [(0,.row [.sl x9 d9,.i y31.2,.i j5]),(1,.row [.i 0,.str [],.i 0,.i 0,.str [],.i 0,.st 3 o9 ([]:List Typ),.st 4 o9 ([]:List Typ),.st 5 F4 ([]:List Nod),.i 0]),(2,.row [.i 2,.str [],.i a8K,.i 0,.str [],.i 0,.sl o9 ([]:List Typ),.st 6 o9 ([]:List Typ),.st 7 F4 ([]:List Nod),.i at19]),(3,.tip 0 0),(4,.tip 0 0),(5,.tip 0 0),(6,.tip 0 0),(7,.tip 0 0)] rfl ?_ ?_
       ·replace h:=g32
        clear g32
        refine p9 (oA 5 rfl ?_)
        refine K9 rfl rfl rfl (fun g33=>?_) (fun g33=>?_)
        ·replace h:=a2k h g33
         refine oA 1 rfl ?_
         obtain ⟨⟨r37,at38⟩,g34,h⟩:=o7 h
         refine oV (J2 g34) ?_
         refine oB 1 rfl ?_
         cases h
         exact rfl
        ·replace h:=a2j h g33
         refine oB 3 rfl ?_
         cases h
         exact rfl
       ·obtain ⟨x537,b6I⟩:=y31
        refine eI rfl h (fun h=>?_) fun h=>?_
        ·refine eSG (oB 2 rfl (eSG (oA 1 rfl ?_)))
         rcases o6 h with ⟨r39,g36,h⟩ | ⟨at49,g42,h⟩
         ·refine oV (F3 g36) ?_
          refine oB 2 rfl (eSG (oA 1 rfl ?_))
          rcases o6 h with ⟨⟨r40,at41⟩,g37,h⟩ | ⟨⟨at47,at48⟩,g41,h⟩
          ·refine oV (R7 g37) ?_
           refine oB 2 rfl (G6 ?_)
           refine O5 [2] rfl ?_
           refine oC rfl rfl (oC rfl rfl (oC rfl rfl (J3 rfl ?_)))
           rcases o6 h with ⟨⟨r42,at43⟩,g38,h⟩ | ⟨⟨at45,at46⟩,g40,h⟩
           ·refine oV (a5l g38) ?_
            refine A8 (J3 rfl ?_)
            obtain ⟨l44,g39,h⟩:=o7 h
            refine b1m Q5 g39 rfl rfl rfl rfl rfl rfl rfl rfl rfl rfl rfl rfl rfl rfl (a6w (a1F (a1O.length Q5 _).symm) rfl) rfl rfl rfl ?_
            refine A8 (oC rfl rfl (oC rfl rfl ?_))
            refine a0g ?_
            refine ⟨rfl,?_⟩
            refine eSG (oB 2 rfl ?_)
            cases h
            exact C9 ⟨_,_,_,rfl,rfl,rfl⟩
           ·refine oW (a5l g40) ?_
            refine ⟨rfl,rfl,_,_,rfl,?_⟩
            cases h
            exact ⟨_,_,rfl,rfl⟩
          ·refine oW (R7 g41) ?_
           cases h
           exact ⟨_,_,rfl,rfl⟩
         ·refine oW (F3 g42) ?_
          cases h
          exact ⟨_,_,rfl,rfl⟩
        ·refine D8 (eSG (oA 1 rfl ?_))
         rcases o6 h with ⟨at50,g43,h⟩ | ⟨⟨at62,at63⟩,g51,h⟩
         ·refine oV (H7 g43) ?_
          refine A8 (eSG (oA 1 rfl ?_))
          rcases o6 h with ⟨r51,g44,h⟩ | ⟨at61,g50,h⟩
          ·refine oV (F3 g44) ?_
           refine oB 2 rfl (eSG (oA 1 rfl ?_))
           rcases o6 h with ⟨⟨r52,at53⟩,g45,h⟩ | ⟨⟨at59,at60⟩,g49,h⟩
           ·refine oV (R7 g45) ?_
            refine oB 2 rfl (G6 ?_)
            refine O5 [2] rfl ?_
            refine oC rfl rfl (oC rfl rfl (oC rfl rfl (J3 rfl ?_)))
            rcases o6 h with ⟨⟨r54,at55⟩,g46,h⟩ | ⟨⟨e57,at58⟩,g48,h⟩
            ·refine oV (a10 g46) ?_
             refine A8 (J3 rfl ?_)
             obtain ⟨l56,g47,h⟩:=o7 h
             refine b1m Q5 g47 rfl rfl rfl rfl rfl rfl rfl rfl rfl rfl rfl rfl rfl rfl (a6w (a1F (a1O.length Q5 _).symm) rfl) rfl rfl rfl ?_
             refine A8 (oC rfl rfl (oC rfl rfl ?_))
             refine a0g ?_
             refine ⟨rfl,?_⟩
             refine eSG (oB 2 rfl ?_)
             cases h
             exact C9 ⟨_,_,_,rfl,rfl,rfl⟩
            ·refine oW (a10 g48) ?_
             refine ⟨rfl,rfl,_,_,rfl,?_⟩
             cases h
             exact ⟨_,_,rfl,rfl⟩
           ·refine oW (R7 g49) ?_
            cases h
            exact ⟨_,_,rfl,rfl⟩
          ·refine oW (F3 g50) ?_
           cases h
           exact ⟨_,_,rfl,rfl⟩
         ·refine oW (H7 g51) ?_
          cases h
          exact ⟨_,_,rfl,rfl⟩
theorem a6B {n:Nat} {d9:List Tok} {at2:Int} {j5:Int} {op4:Int} {s5:Str} {n6:Int} {a7g:Int} {a7k:Str} {n9:Int} {a3k:List Typ} {ts11:List Typ} {l12:List Nod} {at13:Int} {a5r:List Typ} {a7D:List Typ} {a7E:List Nod} {r:Rs (Int × Nod) (l5 × Int)} (h:a4z n d9 at2 j5 op4 s5 n6 a7g a7k n9 a3k ts11 l12 at13 a5r a7D a7E = some r) :
  E env (.call 15 [.ptr 1 0,.ptr 2 0]) [(0,.row [.sl x9 d9,.i at2,.i j5]),(1,.row [.ptr 0 0]),(2,.row (c0 op4 s5 n6 a7g a7k n9 (.sl o9 a3k) (.sl o9 ts11) (.sl F4 l12) at13)),(3,.tip (tpe 4 (List.length a5r)) (List.length a5r)),(4,.tip (tpe 4 (List.length a7D)) (List.length a7D)),(5,.tip (tpe 10 (List.length a7E)) (List.length a7E))] = some (b0d d9 at2 j5 op4 s5 n6 a7g a7k n9 a3k ts11 l12 at13 a5r a7D a7E r):=by
 unfold a4z at h
 refine J6 rfl Tryz.func15 rfl rfl ?_
 refine p9 (oA 1 rfl ?_)
 rcases o6 h with ⟨⟨r17,at18⟩,g1,h⟩ | ⟨⟨e19,at20⟩,g2,h⟩
 ·obtain ⟨r17_0,r17_1,r17_2,⟨r17_3,r17_4,r17_5,r17_6⟩,r17_7,r17_8,r17_9⟩:=r17
  refine oV (a3F g1) ?_
  refine oB 1 rfl ?_
  cases h
  exact ⟨_,_,_,rfl,rfl,rfl⟩
 ·refine oW (a3F g2) ?_
  cases h
  exact ⟨_,_,rfl,rfl⟩
theorem a8i {n:Nat} {d9:List Tok} {at2:Int} {j5:Int} {op4:Int} {s5:Str} {n6:Int} {a7g:Int} {a7k:Str} {n9:Int} {a3k:List Typ} {ts11:List Typ} {l12:List Nod} {at13:Int} {r:Flt × Int × Nod} (h:a2G n d9 at2 j5 op4 s5 n6 a7g a7k n9 a3k ts11 l12 at13 = some r) :
  E env (.call 14 [.ptr 0 0,.func (.func 15) [] [.ptr 1 0,.ptr 2 0]]) [(0,.row [.sl x9 d9,.i at2,.i j5]),(1,.row [.ptr 0 0]),(2,.row (c0 op4 s5 n6 a7g a7k n9 (.st 3 o9 a3k) (.st 4 o9 ts11) (.st 5 F4 l12) at13)),(3,.tip (tpe 4 (List.length a3k)) (List.length a3k)),(4,.tip (tpe 4 (List.length ts11)) (List.length ts11)),(5,.tip (tpe 10 (List.length l12)) (List.length l12))] = some (a7H d9 at2 j5 op4 s5 n6 a7g a7k n9 a3k ts11 l12 at13 r):=by
 unfold a2G at h
 rcases o6 h with ⟨⟨at14,n15⟩,g1,h⟩ | ⟨⟨e16,at17⟩,g2,h⟩
 ·obtain ⟨n15_0,n15_1,n15_2,⟨n15_3,n15_4,n15_5,n15_6⟩,n15_7,n15_8,n15_9⟩:=n15
  cases h
  exact E_via rfl rfl (a6B g1) rfl
 ·cases h
  exact E_via rfl rfl (a6B g2) rfl
theorem a8S {n:Nat} {a6K:Int} {A9:List Tok} {at3:Int} {I6:Int} {r:Int} (h:a1h n a6K A9 at3 I6 = some r) :
  E env (.call 17 [.ptr 0 0,.i a6K]) (hP x9 A9 at3 I6) = some (a3e a6K A9 at3 I6 r):=by
 unfold a1h at h
 refine J6 rfl Tryz.func17 rfl rfl ?_
 obtain ⟨y1,g2,h⟩:=o7 h
 refine a1W [(0,.ptr 0 0),(1,.i a6K)] (hP x9 A9 y1 I6) rfl ?_ ?_
 ·replace h:=g2
  clear g2
  refine eSG (oB 6 rfl ?_)
  refine eI rfl h (fun h=>?_) fun h=>?_
  ·refine p9 (oB 8 rfl ?_)
   cases h
   exact rfl
  ·refine D8 ?_
   cases h
   exact rfl
 ·obtain ⟨a2B,rfl⟩:∃ q,q = y1:=⟨_,rfl⟩
  refine eSG (oB 1 rfl ?_)
  obtain ⟨y4,g5,h⟩:=P5 h
  refine Q0 (KR:=fun r=>a2u env 17 1 Tryz.f17.results.toList (a3e a6K A9 at3 I6 r)) y4 (fun z26=>[(0,.ptr 0 0)]) (fun z26=>(hP x9 A9 z26 I6)) rfl ?_ (fun z26 hx=>?_) (fun r res hz hr hn=>?_)
  ·replace h:=g5
   clear g5
   refine eSG (oB 2 rfl ?_)
   refine F6 ?_
   refine T9 rfl ?_
   revert y4
   refine Z7 (fun m (x:Int × Int × Int)=>a0c n A9 m x.1 x.2.1 x.2.2) (fun x=>[(0,.ptr 0 0),(4,.i x.1),(5,.i x.2.1)]) (fun x=>[(0,.row [.sl x9 A9,.i x.2.2,.i I6])]) _ (fun _=>rfl) (fun m4 x y ih h=>?_) n (0,a6K,a2B)
   obtain ⟨a7o,i513,a5U⟩:=x
   rw [a0c] at h
   refine G6 (eSG (oB 7 rfl ?_))
   refine eI rfl h (fun h=>?_) fun h=>?_
   ·refine D8 ?_
    obtain ⟨y7,g8,h⟩:=a2Y h
    refine Q0 (KR:=fun r=>a2u env 17 1 Tryz.f17.results.toList (a3e a6K A9 at3 I6 r)) y7 (fun z25=>[(0,.ptr 0 0),(4,.i z25),(5,.i i513)]) (fun z25=>(hP x9 A9 a5U I6)) rfl ?_ (fun z25 hx=>?_) (fun r res hz hr hn=>?_)
    ·replace h:=g8
     clear g8
     refine F6 ?_
     refine eSG (oA 5 rfl ?_)
     obtain ⟨x5,g9,h⟩:=o7 h
     refine a4E a8B g9 rfl rfl rfl rfl rfl rfl rfl rfl ?_
     refine a9L (c:=[.i x5.kind,.str x5.text,.i x5.at_,.i x5.len]) rfl rfl rfl rfl rfl rfl rfl ?_
     refine oB 2 rfl (G6 ?_)
     obtain ⟨y10,g11,h⟩:=o7 h
     refine a1W [(0,.ptr 0 0),(4,.i a7o),(5,.i i513),(6,.ptr 1 0),(57,.bool y10)] [(0,.row [.sl x9 A9,.i a5U,.i I6]),(1,.row [.i x5.kind,.str x5.text,.i x5.at_,.i x5.len])] rfl ?_ ?_
     ·replace h:=g11
      clear g11
      refine p9 (oA 7 rfl ?_)
      refine K9 rfl rfl rfl (fun g12=>?_) (fun g12=>?_)
      ·replace h:=a2k h g12
       refine oA 4 rfl ?_
       refine K9 rfl rfl rfl (fun g13=>?_) (fun g13=>?_)
       ·replace h:=a2k h g13
        refine oA 5 rfl ?_
        refine K9 rfl rfl rfl (fun g14=>?_) (fun g14=>?_)
        ·replace h:=a2k h g14
         refine oA 3 rfl ?_
         obtain ⟨r6,g15,h⟩:=o7 h
         refine W9 rfl rfl rfl rfl rfl (a2Q g15) rfl ?_
         refine oB 1 rfl ?_
         cases h
         exact rfl
        ·replace h:=a2j h g14
         refine oB 5 rfl ?_
         cases h
         exact rfl
       ·replace h:=a2j h g13
        refine oB 10 rfl ?_
        cases h
        exact rfl
      ·replace h:=a2j h g12
       refine oB 14 rfl ?_
       cases h
       exact rfl
     ·obtain ⟨x515,rfl⟩:∃ q,q = y10:=⟨_,rfl⟩
      refine eI rfl h (fun h=>?_) fun h=>?_
      ·refine eSG (oB 5 rfl ?_)
       cases h
       exact C9 ⟨_,rfl,_,_,_,rfl,rfl,rfl⟩
      ·refine D8 ?_
       obtain ⟨y17,g18,h⟩:=o7 h
       refine a1W [(0,.ptr 0 0),(4,.i a7o),(5,.i i513),(6,.ptr 1 0),(69,.bool y17)] [(0,.row [.sl x9 A9,.i a5U,.i I6]),(1,.row [.i x5.kind,.str x5.text,.i x5.at_,.i x5.len])] rfl ?_ ?_
       ·replace h:=g18
        clear g18
        refine p9 (oA 4 rfl ?_)
        refine K9 rfl rfl rfl (fun g19=>?_) (fun g19=>?_)
        ·replace h:=a2k h g19
         refine oB 4 rfl ?_
         cases h
         exact rfl
        ·replace h:=a2j h g19
         refine oB 4 rfl ?_
         cases h
         exact rfl
       ·obtain ⟨x516,rfl⟩:∃ q,q = y17:=⟨_,rfl⟩
        refine eI rfl h (fun h=>?_) fun h=>?_
        ·refine p9 (oB 3 rfl ?_)
         cases h
         exact ⟨_,rfl,rfl⟩
        ·obtain ⟨y21,g22,h⟩:=o7 h
         refine a1W [(0,.ptr 0 0),(4,.i a7o),(5,.i i513),(79,.bool y21)] (hP x9 A9 a5U I6) rfl ?_ ?_
         ·replace h:=g22
          clear g22
          refine p9 (oA 4 rfl ?_)
          refine K9 rfl rfl rfl (fun g23=>?_) (fun g23=>?_)
          ·replace h:=a2k h g23
           refine oB 4 rfl ?_
           cases h
           exact rfl
          ·replace h:=a2j h g23
           refine oB 4 rfl ?_
           cases h
           exact rfl
         ·obtain ⟨b4N,rfl⟩:∃ q,q = y21:=⟨_,rfl⟩
          refine eI rfl h (fun h=>?_) fun h=>?_
          ·refine p9 (oB 3 rfl ?_)
           cases h
           exact ⟨_,rfl,rfl⟩
          ·refine D8 ?_
           cases h
           exact ⟨_,rfl,rfl⟩
    ·subst hx
     obtain ⟨b9e,rfl⟩:∃ q,q = z25:=⟨_,rfl⟩
     refine p9 (oB 3 rfl ?_)
     exact ⟨_,_,rfl,ih (_,_,_) _ h⟩
    ·subst hz
     rcases res with ⟨_ | _ | _ | _,_,_⟩ <;> first | exact absurd rfl hn | exact hr.elim | (cases h; exact ⟨_,rfl,hr⟩)
   ·refine R4 ?_
    cases h
    exact ⟨_,rfl,rfl⟩
  ·subst hx
   obtain ⟨b04,rfl⟩:∃ q,q = z26:=⟨_,rfl⟩
   refine p9 (oB 9 rfl ?_)
   cases h
   exact ⟨_,_,_,rfl,rfl,rfl⟩
  ·subst hz
   rcases res with ⟨_ | _ | _ | _,_,_⟩ <;> first | exact absurd rfl hn | exact hr.elim | (cases h; exact hr)
structure V3.Ok (Φ:V3):Prop where
 a09:∀ {n1:Nod} {r:Int × Int},Φ.a09 n1 = some r -> E env (.call 9 [.agg (c0 n1.op n1.s n1.n n1.t.kind n1.t.name n1.t.n (.sl o9 n1.t.args) (.sl o9 n1.ts) (.sl F4 n1.l) n1.at_)]) [] = some (a6C n1 r)
theorem b2U (n:Nat) {Φ:V3} (hΦ:Φ.Ok) {n1:Nod} {r:Int × Int} (h:a4Y n Φ n1 = some r) :
  E env (.call 9 [.agg (c0 n1.op n1.s n1.n n1.t.kind n1.t.name n1.t.n (.sl o9 n1.t.args) (.sl o9 n1.ts) (.sl F4 n1.l) n1.at_)]) [] = some (a6C n1 r):=by
 unfold a4Y at h
 obtain ⟨n1_0,n1_1,n1_2,⟨n1_3,n1_4,n1_5,n1_6⟩,n1_7,n1_8,n1_9⟩:=n1
 refine J6 rfl Tryz.func9 rfl rfl ?_
 refine eSG (oB 3 rfl (eSG (oB 1 rfl ?_)))
 obtain ⟨y1,g2,h⟩:=o7 h
 refine a1W [(2,.i y1.1),(3,.i y1.2)] [] rfl ?_ ?_
 ·replace h:=g2
  clear g2
  refine eSG (oB 4 rfl ?_)
  refine F6 ?_
  refine T9 rfl ?_
  revert y1
  refine Z7 (fun m (x:Int × Int × Int)=>a2c n Φ (Nod.mk n1_0 n1_1 n1_2 (Typ.mk n1_3 n1_4 n1_5 n1_6) n1_7 n1_8 n1_9) m x.1 x.2.1 x.2.2) (fun x=>[(2,.i x.1),(3,.i x.2.1),(9,.sl F4 n1_8),(10,.i (List.length n1_8:Int)),(11,.i x.2.2)]) (fun x=>[]) _ (fun _=>rfl) (fun m3 x y ih h=>?_) n (1,0,0)
  obtain ⟨a6z,b08,x503⟩:=x
  replace h:a2c n Φ (Nod.mk n1_0 n1_1 n1_2 (Typ.mk n1_3 n1_4 n1_5 n1_6) n1_7 n1_8 n1_9) (m3 + 1) a6z b08 x503 = some y:=h
  rw [a2c] at h
  refine eSG (oB 1 rfl (G6 ?_))
  refine eI rfl h (fun h=>?_) fun h=>?_
  ·refine D8 (G6 ?_)
   refine F6 ?_
   refine eSG ?_
   obtain ⟨x2,g4,h⟩:=o7 h
   obtain ⟨x2_0,x2_1,x2_2,⟨x2_3,x2_4,x2_5,x2_6⟩,x2_7,x2_8,x2_9⟩:=x2
   refine a4E Q5 g4 rfl rfl rfl rfl rfl rfl rfl rfl ?_
   refine a9L (c:=(c0 x2_0 x2_1 x2_2 x2_3 x2_4 x2_5 (.sl o9 x2_6) (.sl o9 x2_7) (.sl F4 x2_8) x2_9)) rfl rfl rfl rfl rfl rfl rfl ?_
   refine oB 2 rfl (eSG (oA 1 rfl ?_))
   obtain ⟨⟨r3,r4⟩,g5,h⟩:=o7 h
   refine W9 rfl rfl rfl rfl rfl (hΦ.a09 g5) rfl ?_
   refine oB 5 rfl (eSG (oB 4 rfl (p9 (oB 4 rfl (p9 (oB 2 rfl ?_))))))
   exact ⟨_,_,rfl,ih (_,_,_) _ h⟩
  ·refine R4 ?_
   cases h
   exact rfl
 ·obtain ⟨b1k,b6Q⟩:=y1
  refine eSG (oB 5 rfl ?_)
  cases h
  exact C9 ⟨_,_,_,rfl,rfl,rfl⟩
theorem V3.ok:∀ n,(V3.fs n).Ok
 | 0=>⟨(fun h=>by cases h)⟩
 | n + 1=>⟨(fun h=>b2U n (V3.ok n) h)⟩
theorem b0q {n:Nat} {n1:Nod} {r:Int × Int} (h:a09 n n1 = some r) :
  E env (.call 9 [.agg (c0 n1.op n1.s n1.n n1.t.kind n1.t.name n1.t.n (.sl o9 n1.t.args) (.sl o9 n1.ts) (.sl F4 n1.l) n1.at_)]) [] = some (a6C n1 r):=(V3.ok n).a09 h
end Go.Proofs.YtmhiojdkjokccaaGreatDoor
namespace Go.Proofs.YtmhiojdkjokccaaGreatDoor
open Go Go.Vm
theorem b2T {n:Nat} {a1A:Str} {r:Nod × List Flt} (h:a4X n a1A = some r) :
  E env (.call 8 [.str a1A]) [] = some (b2b a1A r):=by
 unfold a4X at h
 refine J6 rfl Tryz.func8 rfl rfl ?_
 refine eSG (oB 2 rfl (eSG (oA 1 rfl ?_)))
 obtain ⟨⟨r2,O0⟩,g1,h⟩:=o7 h
 refine oV (b4f g1) ?_
 refine oB 7 rfl (G6 (eSG (oA 1 rfl ?_)))
 refine oD ?_
 refine oB 1 rfl ?_
 refine eI rfl h (fun h=>?_) fun h=>?_
 ·refine G6 ?_
  refine O5 [384] rfl ?_
  refine J3 rfl ?_
  refine oD ?_
  refine A8 (oC rfl rfl (oC rfl rfl (oC rfl rfl (oC rfl rfl ?_))))
  refine a0g ?_
  refine ⟨rfl,?_⟩
  cases h
  exact C9 ⟨_,_,_,rfl,rfl,rfl⟩
 ·refine D8 (eSG ?_)
  refine oD ?_
  refine oB 2 rfl (eSG (oB 1 rfl (eSG (oB 1 rfl ?_))))
  obtain ⟨y3,g4,h⟩:=o7 h
  refine a1W [(2,.ptr 0 0),(6,.ptr 1 0),(8,.st 2 a9k y3.1)] [(0,.row [.i 0,.str [],.i 0,.i 0,.str [],.i 0,.st 3 o9 ([]:List Typ),.st 4 o9 ([]:List Typ),.st 5 F4 ([]:List Nod),.i 0]),(1,.row [.i 1,.str [],.i 0,.i 0,.str [],.i 0,.st 6 o9 ([]:List Typ),.st 7 o9 ([]:List Typ),.st 8 F4 y3.2,.i 0]),(2,.tip (tpe 2 (List.length y3.1)) (List.length y3.1)),(3,.tip 0 0),(4,.tip 0 0),(5,.tip 0 0),(6,.tip 0 0),(7,.tip 0 0),(8,.tip (tpe 10 (List.length y3.2)) (List.length y3.2))] rfl ?_ ?_
  ·replace h:=g4
   clear g4
   refine F6 ?_
   refine T9 rfl ?_
   revert y3
   refine Z7 (fun m (x:Int × List Flt × List Nod × Int)=>X7 n a1A O0 m x.1 x.2.1 x.2.2.1 x.2.2.2) (fun x=>[(2,.ptr 0 0),(4,.ptr 1 0),(6,.ptr 2 0),(7,.i x.1),(8,.st 3 a9k x.2.1)]) (fun x=>[(0,.row [.i 0,.str [],.i 0,.i 0,.str [],.i 0,.st 4 o9 ([]:List Typ),.st 5 o9 ([]:List Typ),.st 6 F4 ([]:List Nod),.i 0]),(1,.row [.ptr 7 0]),(2,.row [.i 1,.str [],.i 0,.i 0,.str [],.i 0,.st 8 o9 ([]:List Typ),.st 9 o9 ([]:List Typ),.st 10 F4 x.2.2.1,.i 0]),(3,.tip (tpe 2 (List.length x.2.1)) (List.length x.2.1)),(4,.tip 0 0),(5,.tip 0 0),(6,.tip 0 0),(7,.row [.sl x9 O0,.i x.2.2.2,.i (List.length a1A:Int)]),(8,.tip 0 0),(9,.tip 0 0),(10,.tip (tpe 10 (List.length x.2.2.1)) (List.length x.2.2.1))]) _ (fun _=>rfl) (fun m7 x y ih h=>?_) n (1,([]:List Flt),([]:List Nod),0)
   obtain ⟨a6R,a3w,b1U,a9f⟩:=x
   rw [X7] at h
   refine G6 ?_
   obtain ⟨y5,g6,h⟩:=o7 h
   refine a1W [(2,.ptr 0 0),(4,.ptr 1 0),(6,.ptr 2 0),(7,.i a6R),(8,.st 3 a9k a3w),(41,.bool y5)] [(0,.row [.i 0,.str [],.i 0,.i 0,.str [],.i 0,.st 4 o9 ([]:List Typ),.st 5 o9 ([]:List Typ),.st 6 F4 ([]:List Nod),.i 0]),(1,.row [.ptr 7 0]),(2,.row [.i 1,.str [],.i 0,.i 0,.str [],.i 0,.st 8 o9 ([]:List Typ),.st 9 o9 ([]:List Typ),.st 10 F4 b1U,.i 0]),(3,.tip (tpe 2 (List.length a3w)) (List.length a3w)),(4,.tip 0 0),(5,.tip 0 0),(6,.tip 0 0),(7,.row [.sl x9 O0,.i a9f,.i (List.length a1A:Int)]),(8,.tip 0 0),(9,.tip 0 0),(10,.tip (tpe 10 (List.length b1U)) (List.length b1U))] rfl ?_ ?_
   ·replace h:=g6
    clear g6
    refine p9 (oA 11 rfl ?_)
    refine K9 rfl rfl rfl (fun g7=>?_) (fun g7=>?_)
    ·replace h:=a2k h g7
     refine oB 4 rfl ?_
     cases h
     exact rfl
    ·replace h:=a2j h g7
     refine oB 4 rfl ?_
     cases h
     exact rfl
   ·obtain ⟨x522,rfl⟩:∃ q,q = y5:=⟨_,rfl⟩
    refine eI rfl h (fun h=>?_) fun h=>?_
    ·refine D8 ?_
     refine F6 ?_
     refine eSG (oA 5 rfl ?_)
     obtain ⟨r4,g9,h⟩:=o7 h
     refine a94 rfl rfl rfl (a8A rfl rfl rfl (a3U g9) rfl rfl rfl) ?_
     refine oB 2 rfl (eSG (oB 1 rfl (eSG (oA 2 rfl ?_))))
     obtain ⟨⟨r5,at6,n7⟩,g10,h⟩:=o7 h
     obtain ⟨n7_0,n7_1,n7_2,⟨n7_3,n7_4,n7_5,n7_6⟩,n7_7,n7_8,n7_9⟩:=n7
     refine oV (a8i g10) ?_
     refine oB 2 rfl (G6 (eSG (oA 1 rfl ?_)))
     refine oD ?_
     refine oB 1 rfl ?_
     refine eI rfl h (fun h=>?_) fun h=>?_
     ·refine eSG (oA 3 rfl ?_)
      obtain ⟨l8,g12,h⟩:=o7 h
      refine oP b51 g12 ?_
      refine oB 1 rfl (eSG (oA 2 rfl ?_))
      obtain ⟨at9,g13,h⟩:=o7 h
      refine oV (a8S g13) ?_
      refine A8 ?_
      refine R4 ?_
      exact ⟨_,_,rfl,ih (_,_,_,_) _ h⟩
     ·refine D8 (eSG (oA 1 rfl ?_))
      obtain ⟨⟨r10,r11⟩,g14,h⟩:=o7 h
      refine W9 rfl rfl rfl rfl rfl (b0q g14) rfl ?_
      refine oB 5 rfl ?_
      refine F6 ?_
      refine eSG (oB 4 rfl ?_)
      refine eI rfl h (fun h=>?_) fun h=>?_
      ·refine p9 (oA 2 rfl ?_)
       refine oD ?_
       refine oA 1 rfl ?_
       obtain ⟨l12,g16,h⟩:=o7 h
       refine oP b51 g16 ?_
       refine oB 1 rfl ?_
       exact ⟨_,_,rfl,ih (_,_,_,_) _ h⟩
      ·refine eSG (oB 5 rfl ?_)
       refine eI rfl h (fun h=>?_) fun h=>?_
       ·refine p9 (oA 2 rfl ?_)
        refine oD ?_
        refine oA 1 rfl ?_
        obtain ⟨l13,g18,h⟩:=o7 h
        refine oP b51 g18 ?_
        refine oB 1 rfl ?_
        exact ⟨_,_,rfl,ih (_,_,_,_) _ h⟩
       ·refine eSG (oB 4 rfl (p9 (oA 4 rfl ?_)))
        obtain ⟨l14,g19,h⟩:=o7 h
        refine oP Q5 g19 ?_
        refine oB 2 rfl ?_
        exact ⟨_,_,rfl,ih (_,_,_,_) _ h⟩
    ·refine R4 ?_
     cases h
     exact rfl
  ·obtain ⟨b5c,l528⟩:=y3
   refine eSG (oB 4 rfl ?_)
   cases h
   exact C9 ⟨_,_,_,rfl,rfl,rfl⟩
theorem a9I {n:Nat} {a1A:Str} {r:Bool} (h:a3D n a1A = some r) :
  E env (.call 4 [.str a1A]) [] = some (a5j a1A r):=by
 unfold a3D at h
 refine J6 rfl Tryz.func4 rfl rfl ?_
 refine eSG (oB 1 rfl (G6 (eSG (oA 1 rfl ?_))))
 obtain ⟨_,g1,h⟩:=o7 h
 refine W9 rfl rfl rfl rfl rfl (b4S g1) rfl ?_
 refine A8 ?_
 refine eI rfl h (fun h=>?_) fun h=>?_
 ·refine eSG ?_
  obtain ⟨bb2,g3,h⟩:=o7 h
  refine W9 rfl rfl rfl rfl rfl (b41 g3) rfl ?_
  refine oB 1 rfl ?_
  cases h
  exact C9 ⟨_,_,_,rfl,rfl,rfl⟩
 ·refine D8 (eSG (oA 1 rfl ?_))
  obtain ⟨⟨r3,r4⟩,g4,h⟩:=o7 h
  obtain ⟨r3_0,r3_1,r3_2,⟨r3_3,r3_4,r3_5,r3_6⟩,r3_7,r3_8,r3_9⟩:=r3
  refine W9 rfl rfl rfl rfl rfl (b2T g4) rfl ?_
  refine oB 6 rfl (eSG (oA 1 rfl ?_))
  obtain ⟨⟨r5,r6⟩,g5,h⟩:=o7 h
  refine W9 rfl rfl rfl rfl rfl (b0q g5) rfl ?_
  refine oB 5 rfl (G6 ?_)
  obtain ⟨y6,g7,h⟩:=o7 h
  refine a1W [(3,.ptr 0 0),(27,.bool y6)] [(0,.row (c0 r3_0 r3_1 r3_2 r3_3 r3_4 r3_5 (.sl o9 r3_6) (.sl o9 r3_7) (.sl F4 r3_8) r3_9))] rfl ?_ ?_
  ·replace h:=g7
   clear g7
   refine p9 (oA 3 rfl ?_)
   refine K9 rfl rfl rfl (fun g8=>?_) (fun g8=>?_)
   ·replace h:=a2k h g8
    refine oB 3 rfl ?_
    cases h
    exact rfl
   ·replace h:=a2j h g8
    refine oB 3 rfl ?_
    cases h
    exact rfl
  ·obtain ⟨x515,rfl⟩:∃ q,q = y6:=⟨_,rfl⟩
   refine eI rfl h (fun h=>?_) fun h=>?_
   ·refine eSG (oB 1 rfl ?_)
    cases h
    exact C9 ⟨_,_,_,rfl,rfl,rfl⟩
   ·refine D8 ?_
    obtain ⟨y10,g11,h⟩:=P5 h
    refine Q0 (KR:=fun r=>a2u env 4 0 Tryz.f4.results.toList (a5j a1A r)) y10 (fun z22=>[]) (fun z22=>[]) rfl ?_ (fun z22 hx=>?_) (fun r res hz hr hn=>?_)
    ·replace h:=g11
     clear g11
     refine eSG (oB 1 rfl ?_)
     refine F6 ?_
     refine T9 rfl ?_
     revert y10
     refine Z7 (fun m (x:Int × Nod)=>Y6 n m x.1 x.2) (fun x=>[(3,.ptr 0 0),(7,.i x.1)]) (fun x=>[(0,.row (c0 x.2.op x.2.s x.2.n x.2.t.kind x.2.t.name x.2.t.n (.sl o9 x.2.t.args) (.sl o9 x.2.ts) (.sl F4 x.2.l) x.2.at_))]) _ (fun _=>rfl) (fun m8 x y ih h=>?_) n (0,(Nod.mk r3_0 r3_1 r3_2 (Typ.mk r3_3 r3_4 r3_5 r3_6) r3_7 r3_8 r3_9))
     obtain ⟨i516,n517⟩:=x
     obtain ⟨n517_0,n517_1,n517_2,⟨n517_3,n517_4,n517_5,n517_6⟩,n517_7,n517_8,n517_9⟩:=n517
     replace h:Y6 n (m8 + 1) i516 (Nod.mk n517_0 n517_1 n517_2 (Typ.mk n517_3 n517_4 n517_5 n517_6) n517_7 n517_8 n517_9) = some y:=h
     rw [Y6] at h
     refine G6 (eSG (oB 5 rfl ?_))
     refine eI rfl h (fun h=>?_) fun h=>?_
     ·refine D8 (G6 ?_)
      refine F6 ?_
      refine eSG (oA 3 rfl ?_)
      obtain ⟨x7,g13,h⟩:=o7 h
      obtain ⟨x7_0,x7_1,x7_2,⟨x7_3,x7_4,x7_5,x7_6⟩,x7_7,x7_8,x7_9⟩:=x7
      refine a4E Q5 g13 rfl rfl rfl rfl rfl rfl rfl rfl ?_
      refine oB 3 rfl ?_
      obtain ⟨y14,g15,h⟩:=o7 h
      refine a1W [(3,.ptr 0 0),(7,.i i516),(59,.bool y14)] [(0,.row (c0 n517_0 n517_1 n517_2 n517_3 n517_4 n517_5 (.sl o9 n517_6) (.sl o9 n517_7) (.sl F4 n517_8) n517_9))] rfl ?_ ?_
      ·replace h:=g15
       clear g15
       refine p9 (oA 3 rfl ?_)
       refine K9 rfl rfl rfl (fun g16=>?_) (fun g16=>?_)
       ·replace h:=a2k h g16
        refine oB 16 rfl ?_
        cases h
        exact rfl
       ·replace h:=a2j h g16
        refine oA 4 rfl ?_
        refine K9 rfl rfl rfl (fun g17=>?_) (fun g17=>?_)
        ·replace h:=a2k h g17
         refine oB 12 rfl ?_
         cases h
         exact rfl
        ·replace h:=a2j h g17
         refine oA 3 rfl ?_
         refine K9 rfl rfl rfl (fun g18=>?_) (fun g18=>?_)
         ·replace h:=a2k h g18
          refine oA 3 rfl ?_
          obtain ⟨x8,g19,h⟩:=o7 h
          obtain ⟨x8_0,x8_1,x8_2,⟨x8_3,x8_4,x8_5,x8_6⟩,x8_7,x8_8,x8_9⟩:=x8
          refine a4E Q5 g19 rfl rfl rfl rfl rfl rfl rfl rfl ?_
          refine oB 5 rfl ?_
          cases h
          exact rfl
         ·replace h:=a2j h g18
          refine oB 9 rfl ?_
          cases h
          exact rfl
      ·obtain ⟨x518,rfl⟩:∃ q,q = y14:=⟨_,rfl⟩
       refine eI rfl h (fun h=>?_) fun h=>?_
       ·refine eSG (oB 1 rfl ?_)
        cases h
        exact C9 ⟨_,rfl,_,_,_,rfl,rfl,rfl⟩
       ·refine D8 (p9 (oB 3 rfl ?_))
        exact ⟨_,_,rfl,ih (_,_) _ h⟩
     ·refine R4 ?_
      cases h
      exact ⟨_,rfl,rfl⟩
    ·subst hx
     refine eSG ?_
     obtain ⟨bb9,g21,h⟩:=o7 h
     refine W9 rfl rfl rfl rfl rfl (b41 g21) rfl ?_
     refine oB 1 rfl ?_
     cases h
     exact C9 ⟨_,_,_,rfl,rfl,rfl⟩
    ·subst hz
     rcases res with ⟨_ | _ | _ | _,_,_⟩ <;> first | exact absurd rfl hn | exact hr.elim | (cases h; exact hr)
end Go.Proofs.YtmhiojdkjokccaaGreatDoor
namespace Go.Proofs.YtmhiojdkjokccaaGreatDoor
open Go Go.Vm
theorem limits_E (s:Str):E env (.call 4 [.str s]) [] = some (.ret (.bool true) []):=a9I (b7c (n:=90000) (Nat.le_refl _) s)
end Go.Proofs.YtmhiojdkjokccaaGreatDoor
