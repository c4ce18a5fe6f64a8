/- Texts of ParsePrints, joined. -/
import Derived.Test.YtmippldlhnajkaaGreatDoorParsePrintsJ20
set_option maxRecDepth 100000
set_option maxHeartbeats 20000000
set_option linter.unusedSimpArgs false
set_option linter.unusedVariables false
set_option linter.unusedSectionVars false
namespace Go.Proofs.YtmippldlhnajkaaGreatDoor
open Go Go.Vm
attribute [local irreducible] Go.Vm.Ev Go.Vm.Os Go.Vm.OsP Go.Vm.Lp Go.Vm.E9 Go.Vm.J7 Go.Vm.J9 Go.Vm.E
abbrev a7k (a1 b2:Typ)(p:Option (Bool)):Prop:=OkF env p 35 [.agg [.i a1.kind,.str a1.name,.i a1.n,.sl w9 a1.args],.agg [.i b2.kind,.str b2.name,.i b2.n,.sl w9 b2.args]] [] (b6T a1 b2)
abbrev a6x (a1 b2:List Typ)(p:Option (Bool)):Prop:=OkF env p 36 [.sl w9 a1,.sl w9 b2] [] (b0p a1 b2)
class G8.Ok (Φ:G8):Prop where
 a0f:∀{a1 b2:Typ},a7k a1 b2 (Φ.a0f a1 b2)
 a0p:∀{a1 b2:List Typ},a6x a1 b2 (Φ.a0p a1 b2)
instance {Φ:G8} [h:G8.Ok Φ] {a1 b2:Typ}:a7k a1 b2 (Φ.a0f a1 b2):=h.a0f
instance {Φ:G8} [h:G8.Ok Φ] {a1 b2:List Typ}:a6x a1 b2 (Φ.a0p a1 b2):=h.a0p
theorem b6S (n:Nat){Φ:G8} [hΦ:G8.Ok Φ] {a1 b2:Typ}:a7k a1 b2 (a5E n Φ a1 b2):=⟨fun{r} h=>by
 unfold a5E at h;obtain⟨a1_0,a1_1,a1_2,a1_3⟩:=a1;obtain⟨b2_0,b2_1,b2_2,b2_3⟩:=b2;refine A8 rfl Tryz.func35 rfl rfl ?_;exact blk⟩
theorem b57 (n:Nat){Φ:G8} [hΦ:G8.Ok Φ] {a1 b2:List Typ}:a6x a1 b2 (a4W n Φ a1 b2):=⟨fun{r} h=>by
 unfold a4W at h;refine A8 rfl Tryz.func36 rfl rfl ?_;let kr:=fun r:Bool=>a0e env 36 0 Tryz.f36.results.toList (b0p a1 b2 r);let jn1:Jn 9 (Unit):=⟨fun fr H z=>([],[])⟩
 let jl1:Jn 4 (Int):=⟨fun fr H z=>([(0,.sl w9 a1),(1,.sl w9 b2),(5,.i z)],[])⟩
 exact blk⟩
theorem G8.ok:∀n,G8.Ok (G8.fs n)
 | 0=>⟨⟨fun h=>by cases h⟩,⟨fun h=>by cases h⟩⟩
 | n+1=>have:=G8.ok n;⟨b6S n,b57 n⟩
instance ref00_EqType_I {n:Nat}{a1 b2:Typ}:a7k a1 b2 (a0f n a1 b2):=(G8.ok n).a0f
instance c90 {n:Nat}{a1 b2:List Typ}:a6x a1 b2 (a0p n a1 b2):=(G8.ok n).a0p
abbrev a7j (a1 b2:Nod)(at3:Bool)(p:Option (Bool)):Prop:=OkF env p 11 [.agg (c0 a1.op a1.s a1.n a1.t.kind a1.t.name a1.t.n (.sl w9 a1.t.args) (.sl w9 a1.ts) (.sl C8 a1.l) a1.at_),.agg (c0 b2.op b2.s b2.n b2.t.kind b2.t.name b2.t.n (.sl w9 b2.t.args) (.sl w9 b2.ts) (.sl C8 b2.l) b2.at_),.bool at3] [] (b1t a1 b2 at3)
abbrev a6w (a1 b2:List Nod)(at3:Bool)(p:Option (Bool)):Prop:=OkF env p 37 [.sl C8 a1,.sl C8 b2,.bool at3] [] (b0o a1 b2 at3)
class H7.Ok (Φ:H7):Prop where
 Y7:∀{a1 b2:Nod} {at3:Bool},a7j a1 b2 at3 (Φ.Y7 a1 b2 at3)
 a1q:∀{a1 b2:List Nod} {at3:Bool},a6w a1 b2 at3 (Φ.a1q a1 b2 at3)
instance {Φ:H7} [h:H7.Ok Φ] {a1 b2:Nod}{at3:Bool}:a7j a1 b2 at3 (Φ.Y7 a1 b2 at3):=h.Y7
instance {Φ:H7} [h:H7.Ok Φ] {a1 b2:List Nod}{at3:Bool}:a6w a1 b2 at3 (Φ.a1q a1 b2 at3):=h.a1q
theorem b6R (n:Nat){Φ:H7} [hΦ:H7.Ok Φ] {a1 b2:Nod}{at3:Bool}:a7j a1 b2 at3 (a5D n Φ a1 b2 at3):=⟨fun{r} h=>by
 unfold a5D at h;obtain⟨a1_0,a1_1,a1_2,⟨a1_3,a1_4,a1_5,a1_6⟩,a1_7,a1_8,a1_9⟩:=a1;obtain⟨b2_0,b2_1,b2_2,⟨b2_3,b2_4,b2_5,b2_6⟩,b2_7,b2_8,b2_9⟩:=b2;refine A8 rfl Tryz.func11 rfl rfl ?_;let kr:=fun r:Bool=>a0e env 11 0 Tryz.f11.results.toList (b1t (Nod.mk a1_0 a1_1 a1_2 (Typ.mk a1_3 a1_4 a1_5 a1_6) a1_7 a1_8 a1_9) (Nod.mk b2_0 b2_1 b2_2 (Typ.mk b2_3 b2_4 b2_5 b2_6) b2_7 b2_8 b2_9) at3 r);let jn1:Jn 30003 (Bool):=⟨fun fr H z=>([(2,.bool at3),(3,.ptr 0 0),(4,.ptr 1 0),(51,.bool z)],[(0,oH H 256),(1,oH H 320)])⟩
 exact blk⟩
theorem b56 (n:Nat){Φ:H7} [hΦ:H7.Ok Φ] {a1 b2:List Nod}{at3:Bool}:a6w a1 b2 at3 (a4V n Φ a1 b2 at3):=⟨fun{r} h=>by
 unfold a4V at h;refine A8 rfl Tryz.func37 rfl rfl ?_;let kr:=fun r:Bool=>a0e env 37 0 Tryz.f37.results.toList (b0o a1 b2 at3 r);let jn1:Jn 9 (Unit):=⟨fun fr H z=>([],[])⟩
 let jl1:Jn 4 (Int):=⟨fun fr H z=>([(0,.sl C8 a1),(1,.sl C8 b2),(2,.bool at3),(7,.i z)],[])⟩
 exact blk⟩
theorem H7.ok:∀n,H7.Ok (H7.fs n)
 | 0=>⟨⟨fun h=>by cases h⟩,⟨fun h=>by cases h⟩⟩
 | n+1=>have:=H7.ok n;⟨b6R n,b56 n⟩
instance ref00_EqNode_I {n:Nat}{a1 b2:Nod}{at3:Bool}:a7j a1 b2 at3 (Y7 n a1 b2 at3):=(H7.ok n).Y7
instance c9Z {n:Nat}{a1 b2:List Nod}{at3:Bool}:a6w a1 b2 at3 (a1q n a1 b2 at3):=(H7.ok n).a1q
abbrev a5p (t1:Typ)(G7:Int)(p:Option (Int)):Prop:=OkF env p 47 [.agg [.i t1.kind,.str t1.name,.i t1.n,.sl w9 t1.args],.i G7] [] (a8M t1 G7)
class J8.Ok (Φ:J8):Prop where
 O9:∀{t1:Typ} {G7:Int},a5p t1 G7 (Φ.O9 t1 G7)
instance {Φ:J8} [h:J8.Ok Φ] {t1:Typ}{G7:Int}:a5p t1 G7 (Φ.O9 t1 G7):=h.O9
theorem b4K (n:Nat){Φ:J8} [hΦ:J8.Ok Φ] {t1:Typ}{G7:Int}:a5p t1 G7 (a3U n Φ t1 G7):=⟨fun{r} h=>by
 unfold a3U at h;obtain⟨t1_0,t1_1,t1_2,t1_3⟩:=t1;refine A8 rfl Tryz.func47 rfl rfl ?_;let kr:=fun r:Int=>a0e env 47 0 Tryz.f47.results.toList (a8M (Typ.mk t1_0 t1_1 t1_2 t1_3) G7 r);let jn1:Jn 7 (Int):=⟨fun fr H z=>([(1,.i G7),(5,.i z)],[])⟩
 let jl1:Jn 3 (Int×Int):=⟨fun fr H z=>([(1,.i G7),(2,.ptr 0 0),(5,.i z.1),(6,.i z.2)],[(0,oH H 192)])⟩
 let jn2:Jn 90016 (Bool):=⟨fun fr H z=>([(1,.i G7),(2,.ptr 0 0),(5,(lk 5 fr)),(6,(lk 6 fr)),(16,.bool z)],[(0,oH H 0)])⟩
 exact blk⟩
theorem J8.ok:∀n,J8.Ok (J8.fs n)
 | 0=>⟨⟨fun h=>by cases h⟩⟩
 | n+1=>have:=J8.ok n;⟨b4K n⟩
instance c8y {n:Nat}{t1:Typ}{G7:Int}:a5p t1 G7 (O9 n t1 G7):=(J8.ok n).O9
abbrev a8b (x1:Nod)(G7:Int)(p:Option (Int)):Prop:=OkF env p 19 [.agg (c0 x1.op x1.s x1.n x1.t.kind x1.t.name x1.t.n (.sl w9 x1.t.args) (.sl w9 x1.ts) (.sl C8 x1.l) x1.at_),.i G7] [] (b2G x1 G7)
class M6.Ok (Φ:M6):Prop where
 a1h:∀{x1:Nod} {G7:Int},a8b x1 G7 (Φ.a1h x1 G7)
instance {Φ:M6} [h:M6.Ok Φ] {x1:Nod}{G7:Int}:a8b x1 G7 (Φ.a1h x1 G7):=h.a1h
theorem b7Q (n:Nat){Φ:M6} [hΦ:M6.Ok Φ] {x1:Nod}{G7:Int}:a8b x1 G7 (a6l n Φ x1 G7):=⟨fun{r} h=>by
 unfold a6l at h;obtain⟨x1_0,x1_1,x1_2,⟨x1_3,x1_4,x1_5,x1_6⟩,x1_7,x1_8,x1_9⟩:=x1;refine A8 rfl Tryz.func19 rfl rfl ?_;let kr:=fun r:Int=>a0e env 19 0 Tryz.f19.results.toList (b2G (Nod.mk x1_0 x1_1 x1_2 (Typ.mk x1_3 x1_4 x1_5 x1_6) x1_7 x1_8 x1_9) G7 r);let jn1:Jn 7 (Int):=⟨fun fr H z=>([(1,.i G7),(2,.ptr 0 0),(5,.i z)],[(0,oH H 192)])⟩
 let jl1:Jn 3 (Int×Int):=⟨fun fr H z=>([(1,.i G7),(2,.ptr 0 0),(5,.i z.1),(6,.i z.2)],[(0,oH H 192)])⟩
 let jn2:Jn 90022 (Bool):=⟨fun fr H z=>([(1,.i G7),(2,.ptr 0 0),(5,(lk 5 fr)),(6,(lk 6 fr)),(22,.bool z)],[(0,oH H 0)])⟩
 let jn3:Jn 9 (Int):=⟨fun fr H z=>([(1,.i G7),(2,.ptr 0 0),(5,.i z)],[(0,oH H 0)])⟩
 let jn4:Jn 13 (Int):=⟨fun fr H z=>([(1,.i G7),(5,.i z)],[])⟩
 let jl2:Jn 9 (Int×Int):=⟨fun fr H z=>([(1,.i G7),(2,.ptr 0 0),(5,.i z.1),(7,.i z.2)],[(0,oH H 0)])⟩
 let jn5:Jn 90053 (Bool):=⟨fun fr H z=>([(1,.i G7),(2,.ptr 0 0),(5,(lk 5 fr)),(7,(lk 7 fr)),(53,.bool z)],[(0,oH H 0)])⟩
 exact blk⟩
theorem M6.ok:∀n,M6.Ok (M6.fs n)
 | 0=>⟨⟨fun h=>by cases h⟩⟩
 | n+1=>have:=M6.ok n;⟨b7Q n⟩
instance ref00_Nodes_I {n:Nat}{x1:Nod}{G7:Int}:a8b x1 G7 (a1h n x1 G7):=(M6.ok n).a1h
abbrev a88 (t1:Typ)(G7:Int)(p:Option (Int)):Prop:=OkF env p 48 [.agg [.i t1.kind,.str t1.name,.i t1.n,.sl w9 t1.args],.i G7] [] (b3W t1 G7)
class Q6.Ok (Φ:Q6):Prop where
 a0P:∀{t1:Typ} {G7:Int},a88 t1 G7 (Φ.a0P t1 G7)
instance {Φ:Q6} [h:Q6.Ok Φ] {t1:Typ}{G7:Int}:a88 t1 G7 (Φ.a0P t1 G7):=h.a0P
theorem b9I (n:Nat){Φ:Q6} [hΦ:Q6.Ok Φ] {t1:Typ}{G7:Int}:a88 t1 G7 (a7q n Φ t1 G7):=⟨fun{r} h=>by
 unfold a7q at h;obtain⟨t1_0,t1_1,t1_2,t1_3⟩:=t1;refine A8 rfl Tryz.func48 rfl rfl ?_;let kr:=fun r:Int=>a0e env 48 0 Tryz.f48.results.toList (b3W (Typ.mk t1_0 t1_1 t1_2 t1_3) G7 r);let jn1:Jn 5 (Int):=⟨fun fr H z=>([(1,.i G7),(2,.ptr 0 0),(5,.i z)],[(0,oH H 192)])⟩
 let jn2:Jn 30004 (Bool):=⟨fun fr H z=>([(1,.i G7),(2,.ptr 0 0),(5,.i (List.length t1_1:Int)),(18,.bool z)],[(0,oH H 192)])⟩
 let jn3:Jn 9 (Int):=⟨fun fr H z=>([(5,.i z)],[])⟩
 let jl1:Jn 5 (Int×Int):=⟨fun fr H z=>([(1,.i G7),(2,.ptr 0 0),(5,.i z.1),(6,.i z.2)],[(0,oH H 0)])⟩
 let jn4:Jn 90030 (Bool):=⟨fun fr H z=>([(1,.i G7),(2,.ptr 0 0),(5,(lk 5 fr)),(6,(lk 6 fr)),(30,.bool z)],[(0,oH H 0)])⟩
 exact blk⟩
theorem Q6.ok:∀n,Q6.Ok (Q6.fs n)
 | 0=>⟨⟨fun h=>by cases h⟩⟩
 | n+1=>have:=Q6.ok n;⟨b9I n⟩
instance ref02_bulk_I {n:Nat}{t1:Typ}{G7:Int}:a88 t1 G7 (a0P n t1 G7):=(Q6.ok n).a0P
abbrev a8Z (n1:Nod)(G7:Int)(p:Option (Int)):Prop:=OkF env p 20 [.agg (c0 n1.op n1.s n1.n n1.t.kind n1.t.name n1.t.n (.sl w9 n1.t.args) (.sl w9 n1.ts) (.sl C8 n1.l) n1.at_),.i G7] [] (b3U n1 G7)
class P5.Ok (Φ:P5):Prop where
 a1x:∀{n1:Nod} {G7:Int},a8Z n1 G7 (Φ.a1x n1 G7)
instance {Φ:P5} [h:P5.Ok Φ] {n1:Nod}{G7:Int}:a8Z n1 G7 (Φ.a1x n1 G7):=h.a1x
theorem b9D (n:Nat){Φ:P5} [hΦ:P5.Ok Φ] {n1:Nod}{G7:Int}:a8Z n1 G7 (a7n n Φ n1 G7):=⟨fun{r} h=>by
 unfold a7n at h;obtain⟨n1_0,n1_1,n1_2,⟨n1_3,n1_4,n1_5,n1_6⟩,n1_7,n1_8,n1_9⟩:=n1;refine A8 rfl Tryz.func20 rfl rfl ?_;let kr:=fun r:Int=>a0e env 20 0 Tryz.f20.results.toList (b3U (Nod.mk n1_0 n1_1 n1_2 (Typ.mk n1_3 n1_4 n1_5 n1_6) n1_7 n1_8 n1_9) G7 r);let jn1:Jn 7 (Int):=⟨fun fr H z=>([(1,.i G7),(2,.ptr 0 0),(5,.i z)],[(0,oH H 192)])⟩
 let jl1:Jn 3 (Int×Int):=⟨fun fr H z=>([(1,.i G7),(2,.ptr 0 0),(5,.i z.1),(6,.i z.2)],[(0,oH H 192)])⟩
 let jn2:Jn 90025 (Bool):=⟨fun fr H z=>([(1,.i G7),(2,.ptr 0 0),(5,(lk 5 fr)),(6,(lk 6 fr)),(25,.bool z)],[(0,oH H 0)])⟩
 let jn3:Jn 11 (Int):=⟨fun fr H z=>([(5,.i z)],[])⟩
 let jl2:Jn 7 (Int×Int):=⟨fun fr H z=>([(1,.i G7),(2,.ptr 0 0),(5,.i z.1),(7,.i z.2)],[(0,oH H 0)])⟩
 let jn4:Jn 90048 (Bool):=⟨fun fr H z=>([(1,.i G7),(2,.ptr 0 0),(5,(lk 5 fr)),(7,(lk 7 fr)),(48,.bool z)],[(0,oH H 0)])⟩
 exact blk⟩
theorem P5.ok:∀n,P5.Ok (P5.fs n)
 | 0=>⟨⟨fun h=>by cases h⟩⟩
 | n+1=>have:=P5.ok n;⟨b9D n⟩
instance ref02_Bulk_I {n:Nat}{n1:Nod}{G7:Int}:a8Z n1 G7 (a1x n n1 G7):=(P5.ok n).a1x
abbrev c4j (n1:Nod)(p:Option (Bool)):Prop:=OkF env p 5 [.agg (c0 n1.op n1.s n1.n n1.t.kind n1.t.name n1.t.n (.sl w9 n1.t.args) (.sl w9 n1.ts) (.sl C8 n1.l) n1.at_)] [] (c0j n1)
instance law02_big_I {n:Nat}{n1:Nod}:c4j n1 (b07 n n1):=⟨fun{r} h=>by
 unfold b07 at h;obtain⟨n1_0,n1_1,n1_2,⟨n1_3,n1_4,n1_5,n1_6⟩,n1_7,n1_8,n1_9⟩:=n1;refine A8 rfl Tryz.func5 rfl rfl ?_;exact blk⟩
abbrev a81 (n1:Nod)(p:Option (Int×Int)):Prop:=OkF env p 21 [.agg (c0 n1.op n1.s n1.n n1.t.kind n1.t.name n1.t.n (.sl w9 n1.t.args) (.sl w9 n1.ts) (.sl C8 n1.l) n1.at_)] [] (b3V n1)
class Q5.Ok (Φ:Q5):Prop where
 a1d:∀{n1:Nod},a81 n1 (Φ.a1d n1)
instance {Φ:Q5} [h:Q5.Ok Φ] {n1:Nod}:a81 n1 (Φ.a1d n1):=h.a1d
theorem b9G (n:Nat){Φ:Q5} [hΦ:Q5.Ok Φ] {n1:Nod}:a81 n1 (a7o n Φ n1):=⟨fun{r} h=>by
 unfold a7o at h;obtain⟨n1_0,n1_1,n1_2,⟨n1_3,n1_4,n1_5,n1_6⟩,n1_7,n1_8,n1_9⟩:=n1;refine A8 rfl Tryz.func21 rfl rfl ?_;let kr:=fun r:Int×Int=>a0e env 21 0 Tryz.f21.results.toList (b3V (Nod.mk n1_0 n1_1 n1_2 (Typ.mk n1_3 n1_4 n1_5 n1_6) n1_7 n1_8 n1_9) r);let jn1:Jn 9 (Int×Int):=⟨fun fr H z=>([(4,.i z.1),(5,.i z.2)],[])⟩
 let jl1:Jn 3 (Int×Int×Int):=⟨fun fr H z=>([(1,.ptr 0 0),(4,.i z.1),(5,.i z.2.1),(6,.i z.2.2)],[(0,oH H 128)])⟩
 exact blk⟩
theorem Q5.ok:∀n,Q5.Ok (Q5.fs n)
 | 0=>⟨⟨fun h=>by cases h⟩⟩
 | n+1=>have:=Q5.ok n;⟨b9G n⟩
instance ref02_Size_I {n:Nat}{n1:Nod}:a81 n1 (a1d n n1):=(Q5.ok n).a1d
abbrev b3d (l1:List Tok)(p8 at3 j4:Int)(p:Option (Int)):Prop:=OkF env p 40 [.ptr 0 0] (hR D8 l1 p8 at3 j4) (b1C l1 p8 at3 j4)
instance c3y {l1:List Tok}{p8 at3 j4:Int}:b3d l1 p8 at3 j4 (D7 l1 p8 at3 j4):=⟨fun{r} h=>by
 unfold D7 at h;refine A8 rfl Tryz.func40 rfl rfl ?_;exact blk⟩
abbrev b4N (a2s:Int)(a8w:Str)(l3:List Tok)(b2M at5 a5e:Int)(p:Option (Bool)):Prop:=OkF env p 141 [.ptr 0 0,.i a2s,.str a8w] (hR D8 l3 b2M at5 a5e) (b3c a2s a8w l3 b2M at5 a5e)
instance c5N {a2s:Int}{a8w:Str}{l3:List Tok}{b2M at5 a5e:Int}:b4N a2s a8w l3 b2M at5 a5e (D5 a2s a8w l3 b2M at5 a5e):=⟨fun{r} h=>by
 unfold D5 at h;refine A8 rfl Tryz.func141 rfl rfl ?_;exact blk⟩
abbrev b3b (a2s:Int)(l2:List Tok)(u6 at4 o9:Int)(p:Option (Bool)):Prop:=OkF env p 152 [.ptr 0 0,.i a2s] (hR D8 l2 u6 at4 o9) (b1B a2s l2 u6 at4 o9)
instance c3x {a2s:Int}{l2:List Tok}{u6 at4 o9:Int}:b3b a2s l2 u6 at4 o9 (O7 a2s l2 u6 at4 o9):=⟨fun{r} h=>by
 unfold O7 at h;refine A8 rfl Tryz.func152 rfl rfl ?_;exact blk⟩
abbrev b4Q (a2s:Int)(l2:List Tok)(u6 at4 o9:Int)(p:Option (Str×Bool×Int)):Prop:=OkF env p 90 [.ptr 0 0,.i a2s] (hR D8 l2 u6 at4 o9) (b3j a2s l2 u6 at4 o9)
instance c5R {a2s:Int}{l2:List Tok}{u6 at4 o9:Int}:b4Q a2s l2 u6 at4 o9 (C9 a2s l2 u6 at4 o9):=⟨fun{r} h=>by
 unfold C9 at h;refine A8 rfl Tryz.func90 rfl rfl ?_;exact blk⟩
abbrev b4P (a2s:Int)(a8w:Str)(l3:List Tok)(b2M at5 a5e:Int)(p:Option (Bool×Int)):Prop:=OkF env p 151 [.ptr 0 0,.i a2s,.str a8w] (hR D8 l3 b2M at5 a5e) (b3i a2s a8w l3 b2M at5 a5e)
instance c5Q {a2s:Int}{a8w:Str}{l3:List Tok}{b2M at5 a5e:Int}:b4P a2s a8w l3 b2M at5 a5e (a0T a2s a8w l3 b2M at5 a5e):=⟨fun{r} h=>by
 unfold a0T at h;refine A8 rfl Tryz.func151 rfl rfl ?_;exact blk⟩
abbrev b4O (s1:Str)(l2:List Tok)(u6 at4 o9:Int)(p:Option (Bool×Int)):Prop:=OkF env p 91 [.ptr 0 0,.str s1] (hR D8 l2 u6 at4 o9) (b3h s1 l2 u6 at4 o9)
instance c5P {s1:Str}{l2:List Tok}{u6 at4 o9:Int}:b4O s1 l2 u6 at4 o9 (o8 s1 l2 u6 at4 o9):=⟨fun{r} h=>by
 unfold o8 at h;refine A8 rfl Tryz.func91 rfl rfl ?_;exact blk⟩
abbrev b27 (l1:List Tok)(p8 at3 j4:Int)(p:Option (List Nod×Bool×Int)):Prop:=OkF env p 155 [.ptr 0 0] (hR D8 l1 p8 at3 j4) (a6P l1 p8 at3 j4)
instance c3v {n:Nat}{l1:List Tok}{p8 at3 j4:Int}:b27 l1 p8 at3 j4 (a1J n l1 p8 at3 j4):=⟨fun{r} h=>by
 unfold a1J at h;refine A8 rfl Tryz.func155 rfl rfl ?_;let kr:=fun r:List Nod×Bool×Int=>a0e env 155 1 Tryz.f155.results.toList (a6P l1 p8 at3 j4 r);let jn1:Jn 14 (List Nod×Int):=⟨fun fr H z=>([(4,.st 1 C8 z.1)],[(0,.row [.sl D8 l1,.i p8,.i z.2,.i j4]),(1,.tip (tpe 10 (List.length z.1)) (List.length z.1))])⟩
 let jl1:Jn 5 (List Nod×Bool×Int):=⟨fun fr H z=>([(0,.ptr 0 0),(4,.st 1 C8 z.1),(5,.bool z.2.1)],[(0,.row [.sl D8 l1,.i p8,.i z.2.2,.i j4]),(1,.tip (tpe 10 (List.length z.1)) (List.length z.1))])⟩
 exact blk⟩
abbrev b1A (l1:List Nod)(l2:List Tok)(u6 at4 o9:Int)(p:Option (List Nod×Bool×Int)):Prop:=OkF env p 153 [.ptr 0 0,.st 1 C8 l1] [(0,.row [.sl D8 l2,.i u6,.i at4,.i o9]),(1,.tip (tpe 10 (List.length l1)) (List.length l1))] (a6b l1 l2 u6 at4 o9)
instance c1r {n:Nat}{l1:List Nod}{l2:List Tok}{u6 at4 o9:Int}:b1A l1 l2 u6 at4 o9 (a0u n l1 l2 u6 at4 o9):=⟨fun{r} h=>by
 unfold a0u at h;refine A8 rfl Tryz.func153 rfl rfl ?_;let kr:=fun r:List Nod×Bool×Int=>a0e env 153 2 Tryz.f153.results.toList (a6b l1 l2 u6 at4 o9 r);let jn1:Jn 17 (List Nod×Int):=⟨fun fr H z=>([(0,.ptr 0 0),(1,.st 1 C8 z.1)],[(0,.row [.sl D8 l2,.i u6,.i z.2,.i o9]),(1,.tip (tpe 10 (List.length z.1)) (List.length z.1))])⟩
 let jl1:Jn 4 (List Nod×Bool×Int):=⟨fun fr H z=>([(0,.ptr 0 0),(1,.st 1 C8 z.1),(6,.bool z.2.1)],[(0,.row [.sl D8 l2,.i u6,.i z.2.2,.i o9]),(1,.tip (tpe 10 (List.length z.1)) (List.length z.1))])⟩
 exact blk⟩
abbrev b9J (p:Option (Unit)):Prop:=OkF env p 139 [] [] (b6X)
instance ref02_levels_I:b9J (a9a):=⟨fun{r} h=>by
 unfold a9a at h;refine A8 rfl Tryz.func139 rfl rfl ?_;exact blk⟩
abbrev b4M (l1:List Tok)(p8 at3 j4:Int)(p:Option (Nod×Bool×Int)):Prop:=OkF env p 220 [.ptr 0 0] (hR D8 l1 p8 at3 j4) (a7J l1 p8 at3 j4)
instance c5M {n:Nat}{l1:List Tok}{p8 at3 j4:Int}:b4M l1 p8 at3 j4 (a3Z n l1 p8 at3 j4):=⟨fun{r} h=>by
 unfold a3Z at h;refine A8 rfl Tryz.func220 rfl rfl ?_;let kr:=fun r:Nod×Bool×Int=>a0e env 220 1 Tryz.f220.results.toList (a7J l1 p8 at3 j4 r);let jn1:Jn 9 (Bool×Int×Int×Str×List Nod):=⟨fun fr H z=>([(2,.ptr 1 0),(6,.bool z.1),(7,.ptr 2 0)],[(0,.row [.sl D8 l1,.i p8,.i z.2.1,.i j4]),(1,.row [.i 0,.str [],.i 0,.i 0,.str [],.i 0,.slice (.tag 3) 0 [],.slice (.tag 4) 0 [],.slice (.tag 5) 0 [],.i 0]),(2,.row [.i z.2.2.1,.str z.2.2.2.1,.i 0,.i 0,.str [],.i 0,.slice (.tag 6) 0 [],.slice (.tag 7) 0 [],.st 8 C8 z.2.2.2.2,(lk 11 fr)]),(3,.tip 0 0),(4,.tip 0 0),(5,.tip 0 0),(6,.tip 0 0),(7,.tip 0 0),(8,.tip (tpe 10 (List.length z.2.2.2.2)) (List.length z.2.2.2.2))])⟩
 let jl1:Jn 4 (Bool×Int×Int×Str×List Nod):=⟨fun fr H z=>([(0,.ptr 0 0),(2,.ptr 1 0),(4,(lk 11 fr)),(6,.bool z.1),(7,.ptr 2 0)],[(0,.row [.sl D8 l1,.i p8,.i z.2.1,.i j4]),(1,.row [.i 0,.str [],.i 0,.i 0,.str [],.i 0,.slice (.tag 3) 0 [],.slice (.tag 4) 0 [],.slice (.tag 5) 0 [],.i 0]),(2,.row [.i z.2.2.1,.str z.2.2.2.1,.i 0,.i 0,.str [],.i 0,.slice (.tag 6) 0 [],.slice (.tag 7) 0 [],.st 8 C8 z.2.2.2.2,(lk 11 fr)]),(3,.tip 0 0),(4,.tip 0 0),(5,.tip 0 0),(6,.tip 0 0),(7,.tip 0 0),(8,.tip (tpe 10 (List.length z.2.2.2.2)) (List.length z.2.2.2.2))])⟩
 let jn2:Jn 90024 (Bool×Int):=⟨fun fr H z=>([(0,.ptr 0 0),(2,.ptr 1 0),(4,(lk 4 fr)),(6,(lk 6 fr)),(7,.ptr 2 0),(24,.bool z.1)],[(0,.row [.sl D8 l1,.i p8,.i z.2,.i j4]),(1,oH H 1),(2,oH H 2),(3,.tip 0 0),(4,.tip 0 0),(5,.tip 0 0),(6,.tip 0 0),(7,.tip 0 0),(8,oH H 8)])⟩
 exact blk⟩
abbrev b9M (s1:Str)(p:Option (Int)):Prop:=OkF env p 216 [.str s1] [] (b1y s1)
instance ref02_number_I {n:Nat}{s1:Str}:b9M s1 (a1b n s1):=⟨fun{r} h=>by
 unfold a1b at h;refine A8 rfl Tryz.func216 rfl rfl ?_;let kr:=fun r:Int=>a0e env 216 0 Tryz.f216.results.toList (b1y s1 r);let jn1:Jn 7 (Int):=⟨fun fr H z=>([(3,.i z)],[])⟩
 let jl1:Jn 3 (Int×Int):=⟨fun fr H z=>([(0,.str s1),(3,.i z.1),(4,.i z.2)],[])⟩
 exact blk⟩
abbrev b5t (s1:Str)(l2:List Tok)(u6 at4 o9:Int)(p:Option (Bool×Int)):Prop:=OkF env p 89 [.ptr 0 0,.str s1] (hR D8 l2 u6 at4 o9) (b3Y s1 l2 u6 at4 o9)
instance c67 {s1:Str}{l2:List Tok}{u6 at4 o9:Int}:b5t s1 l2 u6 at4 o9 (A9 s1 l2 u6 at4 o9):=⟨fun{r} h=>by
 unfold A9 at h;refine A8 rfl Tryz.func89 rfl rfl ?_;exact blk⟩
abbrev a4P (l1:List Tok)(p8 at3 j4:Int)(p:Option (Typ×Bool×Int)):Prop:=OkF env p 43 [.ptr 0 0] (hR D8 l1 p8 at3 j4) (a8t l1 p8 at3 j4)
abbrev a4d (l1:List Tok)(p8 at3 j4:Int)(p:Option (List Typ×Bool×Int)):Prop:=OkF env p 92 [.ptr 0 0] (hR D8 l1 p8 at3 j4) (a7u l1 p8 at3 j4)
abbrev a4q (l1:List Tok)(p8 at3 j4:Int)(p:Option (Typ×Bool×Int)):Prop:=OkF env p 93 [.ptr 0 0] (hR D8 l1 p8 at3 j4) (a7H l1 p8 at3 j4)
class u7.Ok (Φ:u7):Prop where
 J4:∀{l1:List Tok} {p8 at3 j4:Int},a4P l1 p8 at3 j4 (Φ.J4 l1 p8 at3 j4)
 U1:∀{l1:List Tok} {p8 at3 j4:Int},a4d l1 p8 at3 j4 (Φ.U1 l1 p8 at3 j4)
 V3:∀{l1:List Tok} {p8 at3 j4:Int},a4q l1 p8 at3 j4 (Φ.V3 l1 p8 at3 j4)
instance {Φ:u7} [h:u7.Ok Φ] {l1:List Tok}{p8 at3 j4:Int}:a4P l1 p8 at3 j4 (Φ.J4 l1 p8 at3 j4):=h.J4
instance {Φ:u7} [h:u7.Ok Φ] {l1:List Tok}{p8 at3 j4:Int}:a4d l1 p8 at3 j4 (Φ.U1 l1 p8 at3 j4):=h.U1
instance {Φ:u7} [h:u7.Ok Φ] {l1:List Tok}{p8 at3 j4:Int}:a4q l1 p8 at3 j4 (Φ.V3 l1 p8 at3 j4):=h.V3
theorem b3Z (n:Nat){Φ:u7} [hΦ:u7.Ok Φ] {l1:List Tok}{p8 at3 j4:Int}:a4P l1 p8 at3 j4 (a3v n Φ l1 p8 at3 j4):=⟨fun{r} h=>by
 unfold a3v at h;refine A8 rfl Tryz.func43 rfl rfl ?_;let kr:=fun r:Typ×Bool×Int=>a0e env 43 1 Tryz.f43.results.toList (a8t l1 p8 at3 j4 r);let jn1:Jn 12 (Int×List Typ):=⟨fun fr H z=>([(0,.ptr 0 0),(2,.ptr 1 0),(6,.ptr 2 0)],[(0,.row [.sl D8 l1,.i p8,.i z.1,.i j4]),(1,.row [.i 0,.str [],.i 0,.slice (.tag 3) 0 []]),(2,.row [.i 10,.str [],.i 0,.st 4 w9 z.2]),(3,.tip 0 0),(4,.tip (tpe 4 (List.length z.2)) (List.length z.2))])⟩
 let jn2:Jn 30010 (Bool×Int):=⟨fun fr H z=>([(0,.ptr 0 0),(2,.ptr 1 0),(6,.ptr 2 0),(7,ow (.tag 3) (lk 35 fr)),(43,.bool z.1)],[(0,.row [.sl D8 l1,.i p8,.i z.2,.i j4]),(1,.row [.i 0,.str [],.i 0,.slice (.tag 4) 0 []]),(2,.row [.i 10,.str [],.i 0,.slice (.tag 5) 0 []]),(3,oH H 2240),(4,.tip 0 0),(5,.tip 0 0)])⟩
 let jn3:Jn 23 (Bool×Int×Typ):=⟨fun fr H z=>([(2,.ptr 1 0),(12,.ptr 2 0),(13,.bool z.1)],[(0,.row [.sl D8 l1,.i p8,.i z.2.1,.i j4]),(1,.row [.i 0,.str [],.i 0,.slice (.tag 3) 0 []]),(2,.row [.i z.2.2.kind,.str z.2.2.name,.i z.2.2.n,.sl w9 z.2.2.args]),(3,.tip 0 0)])⟩
 let jl1:Jn 18 (Bool×Int×Typ):=⟨fun fr H z=>([(0,.ptr 0 0),(2,.ptr 1 0),(12,.ptr 2 0),(13,.bool z.1)],[(0,.row [.sl D8 l1,.i p8,.i z.2.1,.i j4]),(1,.row [.i 0,.str [],.i 0,.slice (.tag 3) 0 []]),(2,.row [.i z.2.2.kind,.str z.2.2.name,.i z.2.2.n,.sl w9 z.2.2.args]),(3,.tip 0 0)])⟩
 let jn4:Jn 90074 (Bool×Int):=⟨fun fr H z=>([(0,.ptr 0 0),(2,.ptr 1 0),(12,.ptr 2 0),(13,(lk 13 fr)),(74,.bool z.1)],[(0,.row [.sl D8 l1,.i p8,.i z.2,.i j4]),(1,oH H 1),(2,oH H 2),(3,.tip 0 0)])⟩
 exact blk⟩
theorem b2o (n:Nat){Φ:u7} [hΦ:u7.Ok Φ] {l1:List Tok}{p8 at3 j4:Int}:a4d l1 p8 at3 j4 (a2C n Φ l1 p8 at3 j4):=⟨fun{r} h=>by
 unfold a2C at h;refine A8 rfl Tryz.func92 rfl rfl ?_;let kr:=fun r:List Typ×Bool×Int=>a0e env 92 1 Tryz.f92.results.toList (a7u l1 p8 at3 j4 r);let jn1:Jn 10 (List Typ×Int):=⟨fun fr H z=>([(4,.st 1 w9 z.1)],[(0,.row [.sl D8 l1,.i p8,.i z.2,.i j4]),(1,.tip (tpe 4 (List.length z.1)) (List.length z.1))])⟩
 let jl1:Jn 3 (List Typ×Bool×Int):=⟨fun fr H z=>([(0,.ptr 0 0),(4,.st 1 w9 z.1),(5,.bool z.2.1)],[(0,.row [.sl D8 l1,.i p8,.i z.2.2,.i j4]),(1,.tip (tpe 4 (List.length z.1)) (List.length z.1))])⟩
 exact blk⟩
theorem b26 (n:Nat){Φ:u7} [hΦ:u7.Ok Φ] {l1:List Tok}{p8 at3 j4:Int}:a4q l1 p8 at3 j4 (a2W n Φ l1 p8 at3 j4):=⟨fun{r} h=>by
 unfold a2W at h;refine A8 rfl Tryz.func93 rfl rfl ?_;let kr:=fun r:Typ×Bool×Int=>a0e env 93 1 Tryz.f93.results.toList (a7H l1 p8 at3 j4 r);let jn1:Jn 11 (List Typ×Int):=⟨fun fr H z=>([(2,.ptr 1 0),(4,(lk 13 fr)),(6,.st 2 w9 z.1)],[(0,.row [.sl D8 l1,.i p8,.i z.2,.i j4]),(1,.row [.i 0,.str [],.i 0,.slice (.tag 3) 0 []]),(2,.tip (tpe 4 (List.length z.1)) (List.length z.1)),(3,.tip 0 0)])⟩
 let jn2:Jn 30009 (Bool×Int):=⟨fun fr H z=>([(2,.ptr 1 0),(4,(lk 13 fr)),(7,ow (.tag 2) (lk 23 fr)),(31,.bool z.1)],[(0,.row [.sl D8 l1,.i p8,.i z.2,.i j4]),(1,.row [.i 0,.str [],.i 0,.slice (.tag 3) 0 []]),(2,oH H 1472),(3,.tip 0 0)])⟩
 let jn3:Jn 24 (Int):=⟨fun fr H z=>([(2,.ptr 1 0),(4,(lk 4 fr)),(6,ow (.tag 2) (lk 6 fr)),(9,.i z)],[(0,oH H 0),(1,oH H 1),(2,oH H 2),(3,.tip 0 0)])⟩
 let jn4:Jn 30013 (Bool):=⟨fun fr H z=>([(2,.ptr 1 0),(4,(lk 4 fr)),(6,ow (.tag 2) (lk 6 fr)),(9,.i 6),(34,.bool z)],[(0,oH H 0),(1,oH H 1),(2,oH H 2),(3,.tip 0 0)])⟩
 let jn5:Jn 30015 (Bool):=⟨fun fr H z=>([(2,.ptr 1 0),(4,(lk 4 fr)),(6,ow (.tag 2) (lk 6 fr)),(9,.i 6),(42,.bool z)],[(0,oH H 0),(1,oH H 1),(2,oH H 2),(3,.tip 0 0)])⟩
 let jn6:Jn 30017 (Bool):=⟨fun fr H z=>([(2,.ptr 1 0),(4,(lk 4 fr)),(6,ow (.tag 2) (lk 6 fr)),(9,.i 6),(50,.bool z)],[(0,oH H 0),(1,oH H 1),(2,oH H 2),(3,.tip 0 0)])⟩
 let jn7:Jn 30019 (Bool):=⟨fun fr H z=>([(2,.ptr 1 0),(4,(lk 4 fr)),(6,ow (.tag 2) (lk 6 fr)),(9,.i 6),(58,.bool z)],[(0,oH H 0),(1,oH H 1),(2,oH H 2),(3,.tip 0 0)])⟩
 let jn8:Jn 30021 (Bool):=⟨fun fr H z=>([(2,.ptr 1 0),(4,(lk 4 fr)),(6,ow (.tag 2) (lk 6 fr)),(9,.i 6),(66,.bool z)],[(0,oH H 0),(1,oH H 1),(2,oH H 2),(3,.tip 0 0)])⟩
 let jn9:Jn 30023 (Bool):=⟨fun fr H z=>([(2,.ptr 1 0),(4,(lk 4 fr)),(6,ow (.tag 2) (lk 6 fr)),(9,.i 6),(74,.bool z)],[(0,oH H 0),(1,oH H 1),(2,oH H 2),(3,.tip 0 0)])⟩
 let jn10:Jn 26 (Str):=⟨fun fr H z=>([(2,.ptr 1 0),(4,.str z),(6,ow (.tag 2) (lk 6 fr)),(9,(lk 9 fr))],[(0,oH H 0),(1,oH H 1),(2,oH H 2),(3,.tip 0 0)])⟩
 exact blk⟩
theorem u7.ok:∀n,u7.Ok (u7.fs n)
 | 0=>⟨⟨fun h=>by cases h⟩,⟨fun h=>by cases h⟩,⟨fun h=>by cases h⟩⟩
 | n+1=>have:=u7.ok n;⟨b3Z n,b2o n,b26 n⟩
instance c68 {n:Nat}{l1:List Tok}{p8 at3 j4:Int}:a4P l1 p8 at3 j4 (J4 n l1 p8 at3 j4):=(u7.ok n).J4
instance c5e {n:Nat}{l1:List Tok}{p8 at3 j4:Int}:a4d l1 p8 at3 j4 (U1 n l1 p8 at3 j4):=(u7.ok n).U1
instance c5J {n:Nat}{l1:List Tok}{p8 at3 j4:Int}:a4q l1 p8 at3 j4 (V3 n l1 p8 at3 j4):=(u7.ok n).V3
abbrev b3e (l1:List Nod)(l2:List Tok)(u6 at4 o9:Int)(p:Option (List Nod×Bool×Int)):Prop:=OkF env p 157 [.ptr 0 0,.st 1 C8 l1] [(0,.row [.sl D8 l2,.i u6,.i at4,.i o9]),(1,.tip (tpe 10 (List.length l1)) (List.length l1))] (a6R l1 l2 u6 at4 o9)
instance c3z {n:Nat}{l1:List Nod}{l2:List Tok}{u6 at4 o9:Int}:b3e l1 l2 u6 at4 o9 (a1K n l1 l2 u6 at4 o9):=⟨fun{r} h=>by
 unfold a1K at h;refine A8 rfl Tryz.func157 rfl rfl ?_;let kr:=fun r:List Nod×Bool×Int=>a0e env 157 2 Tryz.f157.results.toList (a6R l1 l2 u6 at4 o9 r);let jn1:Jn 21 (List Nod×Int):=⟨fun fr H z=>([(0,.ptr 0 0),(1,.st 1 C8 z.1)],[(0,.row [.sl D8 l2,.i u6,.i z.2,.i o9]),(1,.tip (tpe 10 (List.length z.1)) (List.length z.1))])⟩
 let jl1:Jn 4 (List Nod×Bool×Int):=⟨fun fr H z=>([(0,.ptr 0 0),(1,.st 1 C8 z.1),(6,.bool z.2.1)],[(0,.row [.sl D8 l2,.i u6,.i z.2.2,.i o9]),(1,.tip (tpe 10 (List.length z.1)) (List.length z.1))])⟩
 let jn2:Jn 11 (Int×Int):=⟨fun fr H z=>([(0,.ptr 0 0),(1,ow (.tag 1) (lk 1 fr)),(7,.ptr 2 0)],[(0,.row [.sl D8 l2,.i u6,.i z.1,.i o9]),(1,oH H 1),(2,.row [.i 10,.str [],.i z.2,.i 0,.str [],.i 0,.slice (.tag 3) 0 [],.slice (.tag 4) 0 [],.slice (.tag 5) 0 [],(lk 18 fr)]),(3,.tip 0 0),(4,.tip 0 0),(5,.tip 0 0)])⟩
 let jn3:Jn 30013 (Bool×Int):=⟨fun fr H z=>([(0,.ptr 0 0),(1,ow (.tag 1) (lk 1 fr)),(7,.ptr 2 0),(8,(lk 29 fr)),(37,.bool z.1)],[(0,.row [.sl D8 l2,.i u6,.i z.2,.i o9]),(1,oH H 1),(2,oH H 2),(3,.tip 0 0),(4,.tip 0 0),(5,.tip 0 0)])⟩
 exact blk⟩
abbrev a3i (l1:List Tok)(p8 at3 j4:Int)(p:Option (Nod×Bool×Int)):Prop:=OkF env p 250 [.ptr 0 0] (hR D8 l1 p8 at3 j4) (a6o l1 p8 at3 j4)
class F7.Ok (Φ:F7):Prop where
 M9:∀{l1:List Tok} {p8 at3 j4:Int},a3i l1 p8 at3 j4 (Φ.M9 l1 p8 at3 j4)
instance {Φ:F7} [h:F7.Ok Φ] {l1:List Tok}{p8 at3 j4:Int}:a3i l1 p8 at3 j4 (Φ.M9 l1 p8 at3 j4):=h.M9
theorem b0P (n:Nat){Φ:F7} [hΦ:F7.Ok Φ] {l1:List Tok}{p8 at3 j4:Int}:a3i l1 p8 at3 j4 (a1D n Φ l1 p8 at3 j4):=⟨fun{r} h=>by
 unfold a1D at h;refine A8 rfl Tryz.func250 rfl rfl ?_;let kr:=fun r:Nod×Bool×Int=>a0e env 250 1 Tryz.f250.results.toList (a6o l1 p8 at3 j4 r);let jn1:Jn 44 (List Nod×Int):=⟨fun fr H z=>([(0,.ptr 0 0),(2,.ptr 1 0),(4,.ptr 2 0),(15,.st 3 C8 z.1)],[(0,.row [.sl D8 l1,.i p8,.i z.2,.i j4]),(1,.row [.i 0,.str [],.i 0,.i 0,.str [],.i 0,.slice (.tag 4) 0 [],.slice (.tag 5) 0 [],.slice (.tag 6) 0 [],.i 0]),(2,.row [.i 45,(lk 88 fr),.i 0,.i 0,.str [],.i 0,.slice (.tag 7) 0 [],.slice (.tag 8) 0 [],.slice (.tag 9) 0 [],(lk 21 fr)]),(3,.tip (tpe 10 (List.length z.1)) (List.length z.1)),(4,.tip 0 0),(5,.tip 0 0),(6,.tip 0 0),(7,.tip 0 0),(8,.tip 0 0),(9,.tip 0 0)])⟩
 let jl1:Jn 37 (List Nod×Bool×Int):=⟨fun fr H z=>([(0,.ptr 0 0),(2,.ptr 1 0),(4,.ptr 2 0),(15,.st 3 C8 z.1),(16,.bool z.2.1)],[(0,.row [.sl D8 l1,.i p8,.i z.2.2,.i j4]),(1,.row [.i 0,.str [],.i 0,.i 0,.str [],.i 0,.slice (.tag 4) 0 [],.slice (.tag 5) 0 [],.slice (.tag 6) 0 [],.i 0]),(2,.row [.i 45,(lk 88 fr),.i 0,.i 0,.str [],.i 0,.slice (.tag 7) 0 [],.slice (.tag 8) 0 [],.slice (.tag 9) 0 [],(lk 21 fr)]),(3,.tip (tpe 10 (List.length z.1)) (List.length z.1)),(4,.tip 0 0),(5,.tip 0 0),(6,.tip 0 0),(7,.tip 0 0),(8,.tip 0 0),(9,.tip 0 0)])⟩
 exact blk⟩
theorem F7.ok:∀n,F7.Ok (F7.fs n)
 | 0=>⟨⟨fun h=>by cases h⟩⟩
 | n+1=>have:=F7.ok n;⟨b0P n⟩
instance c22 {n:Nat}{l1:List Tok}{p8 at3 j4:Int}:a3i l1 p8 at3 j4 (M9 n l1 p8 at3 j4):=(F7.ok n).M9
abbrev c0r (n1:Nod)(p:Option (Bool)):Prop:=OkF env p 251 [.agg (c0 n1.op n1.s n1.n n1.t.kind n1.t.name n1.t.n (.sl w9 n1.t.args) (.sl w9 n1.ts) (.sl C8 n1.l) n1.at_)] [] (b2H n1)
instance ref02_Place_I {n:Nat}{n1:Nod}:c0r n1 (a8q n n1):=⟨fun{r} h=>by
 unfold a8q at h;obtain⟨n1_0,n1_1,n1_2,⟨n1_3,n1_4,n1_5,n1_6⟩,n1_7,n1_8,n1_9⟩:=n1;refine A8 rfl Tryz.func251 rfl rfl ?_;let kr:=fun r:Bool=>a0e env 251 0 Tryz.f251.results.toList (b2H (Nod.mk n1_0 n1_1 n1_2 (Typ.mk n1_3 n1_4 n1_5 n1_6) n1_7 n1_8 n1_9) r);let jn1:Jn 4 (Nod):=⟨fun fr H z=>([(1,.ptr 0 0)],[(0,.row (c0 z.op z.s z.n z.t.kind z.t.name z.t.n (.sl w9 z.t.args) (.sl w9 z.ts) (.sl C8 z.l) z.at_))])⟩
 let jl1:Jn 1 (Nod):=⟨fun fr H z=>([(1,.ptr 0 0)],[(0,.row (c0 z.op z.s z.n z.t.kind z.t.name z.t.n (.sl w9 z.t.args) (.sl w9 z.ts) (.sl C8 z.l) z.at_))])⟩
 let jn2:Jn 90011 (Bool):=⟨fun fr H z=>([(1,.ptr 0 0),(11,.bool z)],[(0,oH H 0)])⟩
 exact blk⟩
end Go.Proofs.YtmippldlhnajkaaGreatDoor
