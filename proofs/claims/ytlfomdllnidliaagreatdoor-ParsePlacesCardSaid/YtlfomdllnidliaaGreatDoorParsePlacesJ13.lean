/- What the functions under ParsePlaces compute, step by step, as functions in Lean: texts that were built one by one, joined. -/
import Derived.Test.YtlfomdllnidliaaGreatDoorParsePlacesJ12
set_option maxRecDepth 100000
set_option maxHeartbeats 20000000
set_option linter.unusedSimpArgs false
set_option linter.unusedVariables false
set_option linter.unusedSectionVars false
namespace Go.Proofs.YtlfomdllnidliaaGreatDoor
open Go Go.Vm
theorem b3X {n:Nat} {a1P:Str} {r:Nod × List Flt} (h:a5A n a1P = some r) :
  E env (.call 6 [.str a1P]) [] = some (b3d a1P r):=by
 unfold a5A at h
 refine K6 rfl Tryz.func6 rfl rfl ?_
 refine eSG (oB 2 rfl (eSG (oA 1 rfl ?_)))
 obtain ⟨⟨r2,P5⟩,g1,h⟩:=o9 h
 refine oV (b5n g1) ?_
 refine oB 7 rfl (H8 (eSG (oA 1 rfl ?_)))
 refine oD ?_
 refine oB 1 rfl ?_
 refine eI rfl h (fun h=>?_) fun h=>?_
 ·refine H8 ?_
  refine Q0 [384] rfl ?_
  refine K3 rfl ?_
  refine oD ?_
  refine D5 (oC rfl rfl (oC rfl rfl (oC rfl rfl (oC rfl rfl ?_))))
  refine a0X ?_
  refine ⟨rfl,?_⟩
  cases h
  exact D7 ⟨_,_,_,rfl,rfl,rfl⟩
 ·refine E8 (eSG ?_)
  refine oD ?_
  refine oB 2 rfl (eSG (oB 1 rfl (eSG (oB 1 rfl ?_))))
  obtain ⟨y3,g4,h⟩:=o9 h
  refine a15 [(2,.ptr 0 0),(6,.ptr 1 0),(8,.st 2 a97 y3.1)] [(0,.row [.i 0,.str [],.i 0,.i 0,.str [],.i 0,.st 3 p9 ([]:List Typ),.st 4 p9 ([]:List Typ),.st 5 F6 ([]:List Nod),.i 0]),(1,.row [.i 1,.str [],.i 0,.i 0,.str [],.i 0,.st 6 p9 ([]:List Typ),.st 7 p9 ([]:List Typ),.st 8 F6 y3.2,.i 0]),(2,.tip (tpe 2 (List.length y3.1)) (List.length y3.1)),(3,.tip 0 0),(4,.tip 0 0),(5,.tip 0 0),(6,.tip 0 0),(7,.tip 0 0),(8,.tip (tpe 10 (List.length y3.2)) (List.length y3.2))] rfl ?_ ?_
  ·replace h:=g4
   clear g4
   refine F9 ?_
   refine Y1 rfl ?_
   revert y3
   refine a0x (fun m (x:Int × List Flt × List Nod × Int)=>a0A n a1P P5 m x.1 x.2.1 x.2.2.1 x.2.2.2) (fun x=>[(2,.ptr 0 0),(4,.ptr 1 0),(6,.ptr 2 0),(7,.i x.1),(8,.st 3 a97 x.2.1)]) (fun x=>[(0,.row [.i 0,.str [],.i 0,.i 0,.str [],.i 0,.st 4 p9 ([]:List Typ),.st 5 p9 ([]:List Typ),.st 6 F6 ([]:List Nod),.i 0]),(1,.row [.ptr 7 0]),(2,.row [.i 1,.str [],.i 0,.i 0,.str [],.i 0,.st 8 p9 ([]:List Typ),.st 9 p9 ([]:List Typ),.st 10 F6 x.2.2.1,.i 0]),(3,.tip (tpe 2 (List.length x.2.1)) (List.length x.2.1)),(4,.tip 0 0),(5,.tip 0 0),(6,.tip 0 0),(7,.row [.sl C8 P5,.i x.2.2.2,.i (List.length a1P:Int)]),(8,.tip 0 0),(9,.tip 0 0),(10,.tip (tpe 10 (List.length x.2.2.1)) (List.length x.2.2.1))]) _ (fun _=>rfl) (fun m7 x y ih h=>?_) n (1,([]:List Flt),([]:List Nod),0)
   obtain ⟨a7D,a3Q,b27,a2F⟩:=x
   rw [a0A] at h
   refine H8 ?_
   obtain ⟨y5,g6,h⟩:=o9 h
   refine a15 [(2,.ptr 0 0),(4,.ptr 1 0),(6,.ptr 2 0),(7,.i a7D),(8,.st 3 a97 a3Q),(41,.bool y5)] [(0,.row [.i 0,.str [],.i 0,.i 0,.str [],.i 0,.st 4 p9 ([]:List Typ),.st 5 p9 ([]:List Typ),.st 6 F6 ([]:List Nod),.i 0]),(1,.row [.ptr 7 0]),(2,.row [.i 1,.str [],.i 0,.i 0,.str [],.i 0,.st 8 p9 ([]:List Typ),.st 9 p9 ([]:List Typ),.st 10 F6 b27,.i 0]),(3,.tip (tpe 2 (List.length a3Q)) (List.length a3Q)),(4,.tip 0 0),(5,.tip 0 0),(6,.tip 0 0),(7,.row [.sl C8 P5,.i a2F,.i (List.length a1P:Int)]),(8,.tip 0 0),(9,.tip 0 0),(10,.tip (tpe 10 (List.length b27)) (List.length b27))] rfl ?_ ?_
   ·replace h:=g6
    clear g6
    refine u6 (oA 11 rfl ?_)
    refine M9 rfl rfl rfl (fun g7=>?_) (fun g7=>?_)
    ·replace h:=a2I h g7
     refine oB 4 rfl ?_
     cases h
     exact rfl
    ·replace h:=a2H h g7
     refine oB 4 rfl ?_
     cases h
     exact rfl
   ·obtain ⟨x525,rfl⟩:∃ q,q = y5:=⟨_,rfl⟩
    refine eI rfl h (fun h=>?_) fun h=>?_
    ·refine E8 ?_
     refine F9 ?_
     refine eSG (oA 5 rfl ?_)
     obtain ⟨r4,g9,h⟩:=o9 h
     refine b0Y rfl rfl rfl (a9v rfl rfl rfl (a4p g9) rfl rfl rfl) ?_
     refine oB 2 rfl (eSG (oB 1 rfl (eSG (oA 2 rfl ?_))))
     obtain ⟨⟨r5,at6,n7⟩,g10,h⟩:=o9 h
     obtain ⟨n7_0,n7_1,n7_2,⟨n7_3,n7_4,n7_5,n7_6⟩,n7_7,n7_8,n7_9⟩:=n7
     refine oV (a9c g10) ?_
     refine oB 2 rfl (H8 (eSG (oA 1 rfl ?_)))
     refine oD ?_
     refine oB 1 rfl ?_
     refine eI rfl h (fun h=>?_) fun h=>?_
     ·refine eSG (oA 3 rfl ?_)
      obtain ⟨l8,g12,h⟩:=o9 h
      refine oP b7m g12 ?_
      refine oB 1 rfl (eSG (oA 2 rfl ?_))
      obtain ⟨at9,g13,h⟩:=o9 h
      refine oV (a9N g13) ?_
      refine D5 ?_
      refine V7 ?_
      exact ⟨_,_,rfl,ih (_,_,_,_) _ h⟩
     ·refine E8 (eSG (oA 1 rfl ?_))
      obtain ⟨⟨r10,r11⟩,g14,h⟩:=o9 h
      refine a0t rfl rfl rfl rfl rfl (b55 g14) rfl ?_
      refine oB 5 rfl ?_
      refine F9 ?_
      refine eSG (oB 4 rfl ?_)
      refine eI rfl h (fun h=>?_) fun h=>?_
      ·refine u6 (oA 2 rfl ?_)
       refine oD ?_
       refine oA 1 rfl ?_
       obtain ⟨l12,g16,h⟩:=o9 h
       refine oP b7m g16 ?_
       refine oB 1 rfl ?_
       exact ⟨_,_,rfl,ih (_,_,_,_) _ h⟩
      ·refine eSG (oB 5 rfl ?_)
       refine eI rfl h (fun h=>?_) fun h=>?_
       ·refine u6 (oA 2 rfl ?_)
        refine oD ?_
        refine oA 1 rfl ?_
        obtain ⟨l13,g18,h⟩:=o9 h
        refine oP b7m g18 ?_
        refine oB 1 rfl ?_
        exact ⟨_,_,rfl,ih (_,_,_,_) _ h⟩
       ·refine eSG (oB 4 rfl (u6 (oA 4 rfl ?_)))
        obtain ⟨l14,g19,h⟩:=o9 h
        refine oP U0 g19 ?_
        refine oB 2 rfl ?_
        exact ⟨_,_,rfl,ih (_,_,_,_) _ h⟩
    ·refine V7 ?_
     cases h
     exact rfl
  ·obtain ⟨b6p,l531⟩:=y3
   refine eSG (oB 4 rfl ?_)
   cases h
   exact D7 ⟨_,_,_,rfl,rfl,rfl⟩
structure V4.Ok (Φ:V4):Prop where
 a1z:∀ {n1:Nod} {m2:List (Int × Bool)} {r:Bool},Φ.a1z n1 m2 = some r -> E env (.call 8 [.agg (c0 n1.op n1.s n1.n n1.t.kind n1.t.name n1.t.n (.sl p9 n1.t.args) (.sl p9 n1.ts) (.sl F6 n1.l) n1.at_),.map 0]) [(0,.mp (a8Q (V.int .i64) V.bool m2))] = some (a4B n1 m2 r)
theorem b2q (n:Nat) {Φ:V4} (hΦ:Φ.Ok) {n1:Nod} {m2:List (Int × Bool)} {r:Bool} (h:a4i n Φ n1 m2 = some r) :
  E env (.call 8 [.agg (c0 n1.op n1.s n1.n n1.t.kind n1.t.name n1.t.n (.sl p9 n1.t.args) (.sl p9 n1.ts) (.sl F6 n1.l) n1.at_),.map 0]) [(0,.mp (a8Q (V.int .i64) V.bool m2))] = some (a4B n1 m2 r):=by
 unfold a4i at h
 obtain ⟨n1_0,n1_1,n1_2,⟨n1_3,n1_4,n1_5,n1_6⟩,n1_7,n1_8,n1_9⟩:=n1
 refine K6 rfl Tryz.func8 rfl rfl ?_
 refine eSG (oB 2 rfl (H8 (eSG (oA 3 rfl ?_))))
 refine os_mapL (ek:=(V.int .i64)) (eb:=V.bool) (d:=false) (b6Y _) rfl rfl rfl rfl rfl rfl rfl rfl rfl rfl rfl ?_
 refine oB 1 rfl ?_
 refine eI rfl h (fun h=>?_) fun h=>?_
 ·refine eSG (oB 1 rfl ?_)
  cases h
  exact D7 ⟨_,_,_,rfl,rfl,rfl⟩
 ·refine E8 ?_
  obtain ⟨y2,g3,h⟩:=R6 h
  refine U2 (KR:=fun r=>a2E env 8 1 Tryz.f8.results.toList (a4B (Nod.mk n1_0 n1_1 n1_2 (Typ.mk n1_3 n1_4 n1_5 n1_6) n1_7 n1_8 n1_9) m2 r)) y2 (fun z12=>[]) (fun z12=>[(0,.mp (a8Q (V.int .i64) V.bool m2))]) rfl ?_ (fun z12 hx=>?_) (fun r res hz hr hn=>?_)
  ·replace h:=g3
   clear g3
   refine eSG (oB 1 rfl ?_)
   refine F9 ?_
   refine Y1 rfl ?_
   revert y2
   refine a0x (fun m (x:Int)=>a1H n Φ m2 (Nod.mk n1_0 n1_1 n1_2 (Typ.mk n1_3 n1_4 n1_5 n1_6) n1_7 n1_8 n1_9) m x) (fun x=>[(1,.map 0),(2,.ptr 1 0),(5,.i x)]) (fun x=>[(0,.mp (a8Q (V.int .i64) V.bool m2)),(1,.row (c0 n1_0 n1_1 n1_2 n1_3 n1_4 n1_5 (.sl p9 n1_6) (.sl p9 n1_7) (.sl F6 n1_8) n1_9))]) _ (fun _=>rfl) (fun m4 x y ih h=>?_) n 0
   obtain ⟨i504,rfl⟩:∃ q,q = x:=⟨_,rfl⟩
   replace h:a1H n Φ m2 (Nod.mk n1_0 n1_1 n1_2 (Typ.mk n1_3 n1_4 n1_5 n1_6) n1_7 n1_8 n1_9) (m4 + 1) i504 = some y:=h
   rw [a1H] at h
   refine H8 (eSG (oB 5 rfl ?_))
   refine eI rfl h (fun h=>?_) fun h=>?_
   ·refine E8 (H8 ?_)
    refine F9 ?_
    obtain ⟨y5,g6,h⟩:=o9 h
    refine a15 [(1,.map 0),(2,.ptr 1 0),(5,.i i504),(36,.bool y5)] [(0,.mp (a8Q (V.int .i64) V.bool m2)),(1,.row (c0 n1_0 n1_1 n1_2 n1_3 n1_4 n1_5 (.sl p9 n1_6) (.sl p9 n1_7) (.sl F6 n1_8) n1_9))] rfl ?_ ?_
    ·replace h:=g6
     clear g6
     refine u6 (oA 3 rfl ?_)
     obtain ⟨x3,g7,h⟩:=o9 h
     obtain ⟨x3_0,x3_1,x3_2,⟨x3_3,x3_4,x3_5,x3_6⟩,x3_7,x3_8,x3_9⟩:=x3
     refine a3E U0 g7 rfl rfl rfl rfl rfl rfl rfl rfl ?_
     refine oA 6 rfl ?_
     refine M9 rfl rfl rfl (fun g8=>?_) (fun g8=>?_)
     ·replace h:=a2I h g8
      refine oB 9 rfl ?_
      cases h
      exact rfl
     ·replace h:=a2H h g8
      refine oA 3 rfl ?_
      obtain ⟨x4,g9,h⟩:=o9 h
      obtain ⟨x4_0,x4_1,x4_2,⟨x4_3,x4_4,x4_5,x4_6⟩,x4_7,x4_8,x4_9⟩:=x4
      refine a3E U0 g9 rfl rfl rfl rfl rfl rfl rfl rfl ?_
      refine a7l (c:=(c0 x4_0 x4_1 x4_2 x4_3 x4_4 x4_5 (.sl p9 x4_6) (.sl p9 x4_7) (.sl F6 x4_8) x4_9)) rfl rfl rfl rfl rfl rfl rfl ?_
      refine oA 1 rfl ?_
      obtain ⟨r5,g10,h⟩:=o9 h
      refine oV (hΦ.a1z g10) ?_
      refine oB 2 rfl ?_
      cases h
      exact rfl
    ·obtain ⟨x507,rfl⟩:∃ q,q = y5:=⟨_,rfl⟩
     refine eI rfl h (fun h=>?_) fun h=>?_
     ·refine eSG (oB 1 rfl ?_)
      cases h
      exact D7 ⟨_,rfl,_,_,_,rfl,rfl,rfl⟩
     ·refine E8 (u6 (oB 3 rfl ?_))
      exact ⟨_,_,rfl,ih _ _ h⟩
   ·refine V7 ?_
    cases h
    exact ⟨_,rfl,rfl⟩
  ·subst hx
   refine eSG (oB 1 rfl ?_)
   cases h
   exact D7 ⟨_,_,_,rfl,rfl,rfl⟩
  ·subst hz
   rcases res with ⟨_ | _ | _ | _,_,_⟩ <;> first | exact absurd rfl hn | exact hr.elim | (cases h; exact hr)
theorem V4.ok:∀ n,(V4.fs n).Ok
 | 0=>⟨(fun h=>by cases h)⟩
 | n + 1=>⟨(fun h=>b2q n (V4.ok n) h)⟩
theorem b3U {n:Nat} {n1:Nod} {m2:List (Int × Bool)} {r:Bool} (h:a1z n n1 m2 = some r) :
  E env (.call 8 [.agg (c0 n1.op n1.s n1.n n1.t.kind n1.t.name n1.t.n (.sl p9 n1.t.args) (.sl p9 n1.ts) (.sl F6 n1.l) n1.at_),.map 0]) [(0,.mp (a8Q (V.int .i64) V.bool m2))] = some (a4B n1 m2 r):=(V4.ok n).a1z h
theorem b0z {n:Nat} {a1P:Str} {r:Bool} (h:a3Z n a1P = some r) :
  E env (.call 3 [.str a1P]) [] = some (a5P a1P r):=by
 unfold a3Z at h
 refine K6 rfl Tryz.func3 rfl rfl ?_
 refine eSG (oB 1 rfl (H8 (eSG (oA 1 rfl ?_))))
 obtain ⟨_,g1,h⟩:=o9 h
 refine a0t rfl rfl rfl rfl rfl (b52 g1) rfl ?_
 refine D5 ?_
 refine eI rfl h (fun h=>?_) fun h=>?_
 ·refine eSG ?_
  obtain ⟨bb2,g3,h⟩:=o9 h
  refine a0t rfl rfl rfl rfl rfl (b6d g3) rfl ?_
  refine oB 1 rfl ?_
  cases h
  exact D7 ⟨_,_,_,rfl,rfl,rfl⟩
 ·refine E8 (eSG (oA 1 rfl ?_))
  obtain ⟨⟨r3,r4⟩,g4,h⟩:=o9 h
  obtain ⟨r3_0,r3_1,r3_2,⟨r3_3,r3_4,r3_5,r3_6⟩,r3_7,r3_8,r3_9⟩:=r3
  refine a0t rfl rfl rfl rfl rfl (b3X g4) rfl ?_
  refine oB 6 rfl (eSG (oA 1 rfl ?_))
  obtain ⟨⟨l5,c6,a7⟩,g5,h⟩:=o9 h
  refine a0t rfl rfl rfl rfl rfl (b5F g5) rfl ?_
  refine oB 6 rfl (eSG (oB 4 rfl ?_))
  obtain ⟨y6,g7,h⟩:=o9 h
  refine a15 [(3,.ptr 0 0),(7,.map 1)] [(0,.row (c0 y6.1.op y6.1.s y6.1.n y6.1.t.kind y6.1.t.name y6.1.t.n (.sl p9 y6.1.t.args) (.sl p9 y6.1.ts) (.sl F6 y6.1.l) y6.1.at_)),(1,.mp (a8Q (V.int .i64) V.bool y6.2))] rfl ?_ ?_
  ·replace h:=g7
   clear g7
   refine eSG (oB 1 rfl ?_)
   refine F9 ?_
   refine Y1 rfl ?_
   revert y6
   refine a0x (fun m (x:List Tok × Int × Nod × (List (Int × Bool)))=>a0I n m x.1 x.2.1 x.2.2.1 x.2.2.2) (fun x=>[(3,.ptr 0 0),(5,.sl C8 x.1),(7,.map 1),(8,.i x.2.1)]) (fun x=>[(0,.row (c0 x.2.2.1.op x.2.2.1.s x.2.2.1.n x.2.2.1.t.kind x.2.2.1.t.name x.2.2.1.t.n (.sl p9 x.2.2.1.t.args) (.sl p9 x.2.2.1.ts) (.sl F6 x.2.2.1.l) x.2.2.1.at_)),(1,.mp (a8Q (V.int .i64) V.bool x.2.2.2))]) _ (fun _=>rfl) (fun m7 x y ih h=>?_) n (l5,0,(Nod.mk r3_0 r3_1 r3_2 (Typ.mk r3_3 r3_4 r3_5 r3_6) r3_7 r3_8 r3_9),[])
   obtain ⟨l551,i552,n553,m554⟩:=x
   obtain ⟨n553_0,n553_1,n553_2,⟨n553_3,n553_4,n553_5,n553_6⟩,n553_7,n553_8,n553_9⟩:=n553
   replace h:a0I n (m7 + 1) l551 i552 (Nod.mk n553_0 n553_1 n553_2 (Typ.mk n553_3 n553_4 n553_5 n553_6) n553_7 n553_8 n553_9) m554 = some y:=h
   rw [a0I] at h
   refine H8 (eSG (oB 4 rfl ?_))
   refine eI rfl h (fun h=>?_) fun h=>?_
   ·refine E8 (H8 ?_)
    refine F9 ?_
    refine u6 (oA 3 rfl ?_)
    obtain ⟨x8,g9,h⟩:=o9 h
    refine a3E a8n g9 rfl rfl rfl rfl rfl rfl rfl rfl ?_
    refine oA 2 rfl ?_
    refine os_mapU (ek:=(V.int .i64)) (eb:=V.bool) (b6Y _) rfl rfl rfl rfl rfl rfl rfl rfl rfl rfl rfl rfl ?_
    refine D5 (u6 (oB 3 rfl ?_))
    exact ⟨_,_,rfl,ih (_,_,_,_) _ h⟩
   ·refine V7 ?_
    cases h
    exact rfl
  ·obtain ⟨n559,m560⟩:=y6
   obtain ⟨n559_0,n559_1,n559_2,⟨n559_3,n559_4,n559_5,n559_6⟩,n559_7,n559_8,n559_9⟩:=n559
   obtain ⟨y10,g11,h⟩:=R6 h
   refine U2 (KR:=fun r=>a2E env 3 0 Tryz.f3.results.toList (a5P a1P r)) y10 (fun z23=>[]) (fun z23=>[]) rfl ?_ (fun z23 hx=>?_) (fun r res hz hr hn=>?_)
   ·replace h:=g11
    clear g11
    refine eSG (oB 1 rfl ?_)
    refine F9 ?_
    refine Y1 rfl ?_
    revert y10
    refine a0x (fun m (x:Int × Nod × (List (Int × Bool)))=>Z7 n m x.1 x.2.1 x.2.2) (fun x=>[(3,.ptr 0 0),(7,.map 1),(9,.i x.1)]) (fun x=>[(0,.row (c0 x.2.1.op x.2.1.s x.2.1.n x.2.1.t.kind x.2.1.t.name x.2.1.t.n (.sl p9 x.2.1.t.args) (.sl p9 x.2.1.ts) (.sl F6 x.2.1.l) x.2.1.at_)),(1,.mp (a8Q (V.int .i64) V.bool x.2.2))]) _ (fun _=>rfl) (fun m11 x y ih h=>?_) n (0,(Nod.mk n559_0 n559_1 n559_2 (Typ.mk n559_3 n559_4 n559_5 n559_6) n559_7 n559_8 n559_9),m560)
    obtain ⟨i561,n562,m563⟩:=x
    obtain ⟨n562_0,n562_1,n562_2,⟨n562_3,n562_4,n562_5,n562_6⟩,n562_7,n562_8,n562_9⟩:=n562
    replace h:Z7 n (m11 + 1) i561 (Nod.mk n562_0 n562_1 n562_2 (Typ.mk n562_3 n562_4 n562_5 n562_6) n562_7 n562_8 n562_9) m563 = some y:=h
    rw [Z7] at h
    refine H8 (eSG (oB 5 rfl ?_))
    refine eI rfl h (fun h=>?_) fun h=>?_
    ·refine E8 (H8 ?_)
     refine F9 ?_
     obtain ⟨y13,g14,h⟩:=o9 h
     refine a15 [(3,.ptr 0 0),(7,.map 1),(9,.i i561),(72,.bool y13)] [(0,.row (c0 n562_0 n562_1 n562_2 n562_3 n562_4 n562_5 (.sl p9 n562_6) (.sl p9 n562_7) (.sl F6 n562_8) n562_9)),(1,.mp (a8Q (V.int .i64) V.bool m563))] rfl ?_ ?_
     ·replace h:=g14
      clear g14
      refine u6 (oA 3 rfl ?_)
      obtain ⟨x9,g15,h⟩:=o9 h
      obtain ⟨x9_0,x9_1,x9_2,⟨x9_3,x9_4,x9_5,x9_6⟩,x9_7,x9_8,x9_9⟩:=x9
      refine a3E U0 g15 rfl rfl rfl rfl rfl rfl rfl rfl ?_
      refine a7l (c:=(c0 x9_0 x9_1 x9_2 x9_3 x9_4 x9_5 (.sl p9 x9_6) (.sl p9 x9_7) (.sl F6 x9_8) x9_9)) rfl rfl rfl rfl rfl rfl rfl ?_
      refine oA 1 rfl ?_
      obtain ⟨r10,g16,h⟩:=o9 h
      refine oV (b3U g16) ?_
      refine oA 2 rfl ?_
      refine M9 rfl rfl rfl (fun g17=>?_) (fun g17=>?_)
      ·replace h:=a2I h g17
       refine oB 19 rfl ?_
       cases h
       exact rfl
      ·replace h:=a2H h g17
       refine oA 3 rfl ?_
       refine M9 rfl rfl rfl (fun g18=>?_) (fun g18=>?_)
       ·replace h:=a2I h g18
        refine oA 3 rfl ?_
        obtain ⟨x11,g19,h⟩:=o9 h
        obtain ⟨x11_0,x11_1,x11_2,⟨x11_3,x11_4,x11_5,x11_6⟩,x11_7,x11_8,x11_9⟩:=x11
        refine a3E U0 g19 rfl rfl rfl rfl rfl rfl rfl rfl ?_
        refine oA 6 rfl ?_
        obtain ⟨x12,g20,h⟩:=o9 h
        obtain ⟨x12_0,x12_1,x12_2,⟨x12_3,x12_4,x12_5,x12_6⟩,x12_7,x12_8,x12_9⟩:=x12
        refine a3E U0 g20 rfl rfl rfl rfl rfl rfl rfl rfl ?_
        refine oB 5 rfl ?_
        cases h
        exact rfl
       ·replace h:=a2H h g18
        refine oB 16 rfl ?_
        cases h
        exact rfl
     ·obtain ⟨x564,rfl⟩:∃ q,q = y13:=⟨_,rfl⟩
      refine eI rfl h (fun h=>?_) fun h=>?_
      ·refine eSG (oB 1 rfl ?_)
       cases h
       exact D7 ⟨_,rfl,_,_,_,rfl,rfl,rfl⟩
      ·refine E8 (u6 (oB 3 rfl ?_))
       exact ⟨_,_,rfl,ih (_,_,_) _ h⟩
    ·refine V7 ?_
     cases h
     exact ⟨_,rfl,rfl⟩
   ·subst hx
    refine eSG ?_
    obtain ⟨bb13,g22,h⟩:=o9 h
    refine a0t rfl rfl rfl rfl rfl (b6d g22) rfl ?_
    refine oB 1 rfl ?_
    cases h
    exact D7 ⟨_,_,_,rfl,rfl,rfl⟩
   ·subst hz
    rcases res with ⟨_ | _ | _ | _,_,_⟩ <;> first | exact absurd rfl hn | exact hr.elim | (cases h; exact hr)
end Go.Proofs.YtlfomdllnidliaaGreatDoor
namespace Go.Proofs.YtlfomdllnidliaaGreatDoor
open Go Go.Vm
theorem places_E (s:Str):E env (.call 3 [.str s]) [] = some (.ret (.bool true) []):=b0z (b82 (n:=90000) (Nat.le_refl _) s)
end Go.Proofs.YtlfomdllnidliaaGreatDoor
