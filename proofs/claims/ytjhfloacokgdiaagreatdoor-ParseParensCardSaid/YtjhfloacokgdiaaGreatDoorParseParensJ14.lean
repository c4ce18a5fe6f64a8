/- Texts of ParseParens, joined. -/
import Derived.Test.YtjhfloacokgdiaaGreatDoorParseParensJ13
set_option maxRecDepth 100000
set_option maxHeartbeats 20000000
set_option linter.unusedSimpArgs false
set_option linter.unusedVariables false
set_option linter.unusedSectionVars false
namespace Go.Proofs.YtjhfloacokgdiaaGreatDoor
open Go Go.Vm
attribute [local irreducible] Go.Vm.Ev Go.Vm.Os Go.Vm.OsP Go.Vm.Lp Go.Vm.D8 Go.Vm.M4 Go.Vm.M7 Go.Vm.E
abbrev b8j (s1:Str)(p:Option (Bool)):Prop:=OkF env p 11 [.str s1] [] (b5s s1)
instance law02_fits_I {s1:Str}:b8j s1 (a9a s1):=⟨fun{r} h=>by
 unfold a9a at h
 refine F4 rfl Tryz.func11 rfl rfl ?_
 exact blk⟩
abbrev a4e (a1 b2:Typ)(p:Option (Bool)):Prop:=OkF env p 31 [.agg [.i a1.kind,.str a1.name,.i a1.n,.sl F3 a1.args],.agg [.i b2.kind,.str b2.name,.i b2.n,.sl F3 b2.args]] [] (b2k a1 b2)
abbrev a2j (a1 b2:List Typ)(p:Option (Bool)):Prop:=OkF env p 32 [.sl F3 a1,.sl F3 b2,.func (.func 31) [] []] [] (a4N a1 b2)
class F5.Ok (Φ:F5):Prop where
 Y8:∀{a1 b2:Typ},a4e a1 b2 (Φ.Y8 a1 b2)
 S9:∀{a1 b2:List Typ},a2j a1 b2 (Φ.S9 a1 b2)
instance {Φ:F5} [h:F5.Ok Φ] {a1 b2:Typ}:a4e a1 b2 (Φ.Y8 a1 b2):=h.Y8
instance {Φ:F5} [h:F5.Ok Φ] {a1 b2:List Typ}:a2j a1 b2 (Φ.S9 a1 b2):=h.S9
theorem b2j (n:Nat){Φ:F5} [hΦ:F5.Ok Φ] {a1 b2:Typ}:a4e a1 b2 (a3c n Φ a1 b2):=⟨fun{r} h=>by
 unfold a3c at h
 obtain⟨a1_0,a1_1,a1_2,a1_3⟩:=a1
 obtain⟨b2_0,b2_1,b2_2,b2_3⟩:=b2
 refine F4 rfl Tryz.func31 rfl rfl ?_
 exact blk⟩
theorem a8I (n:Nat){Φ:F5} [hΦ:F5.Ok Φ] {a1 b2:List Typ}:a2j a1 b2 (a1o n Φ a1 b2):=⟨fun{r} h=>by
 unfold a1o at h
 refine F4 rfl Tryz.func32 rfl rfl ?_
 let kr:=fun r:Bool=>a3I env 32 0 Tryz.f32.results.toList (a4N a1 b2 r)
 let jn1:Jn 10 (Unit):=⟨fun fr H z=>([],[])⟩
 let jl1:Jn 4 (Int):=⟨fun fr H z=>([(0,.sl F3 a1),(1,.sl F3 b2),(2,.func (.func 31) [] []),(14,.i (List.length a1:Int)),(15,.i z)],[])⟩
 exact blk⟩
theorem F5.ok:∀n,F5.Ok (F5.fs n)
 | 0=>⟨⟨fun h=>by cases h⟩,⟨fun h=>by cases h⟩⟩
 | n+1=>have:=F5.ok n;⟨b2j n,a8I n⟩
instance c4V {n:Nat}{a1 b2:Typ}:a4e a1 b2 (Y8 n a1 b2):=(F5.ok n).Y8
instance b88 {n:Nat}{a1 b2:List Typ}:a2j a1 b2 (S9 n a1 b2):=(F5.ok n).S9
abbrev a6J (a1 b2:Nod)(p:Option (Bool)):Prop:=OkF env p 12 [.agg (c0 a1.op a1.s a1.n a1.t.kind a1.t.name a1.t.n (.sl F3 a1.t.args) (.sl F3 a1.ts) (.sl H6 a1.l) a1.at_),.agg (c0 b2.op b2.s b2.n b2.t.kind b2.t.name b2.t.n (.sl F3 b2.t.args) (.sl F3 b2.ts) (.sl H6 b2.l) b2.at_)] [] (b5M a1 b2)
abbrev a2i (a1 b2:List Nod)(p:Option (Bool)):Prop:=OkF env p 33 [.sl H6 a1,.sl H6 b2,.func (.func 12) [] []] [] (a4M a1 b2)
class J9.Ok (Φ:J9):Prop where
 a07:∀{a1 b2:Nod},a6J a1 b2 (Φ.a07 a1 b2)
 Y0:∀{a1 b2:List Nod},a2i a1 b2 (Φ.Y0 a1 b2)
instance {Φ:J9} [h:J9.Ok Φ] {a1 b2:Nod}:a6J a1 b2 (Φ.a07 a1 b2):=h.a07
instance {Φ:J9} [h:J9.Ok Φ] {a1 b2:List Nod}:a2i a1 b2 (Φ.Y0 a1 b2):=h.Y0
theorem b5L (n:Nat){Φ:J9} [hΦ:J9.Ok Φ] {a1 b2:Nod}:a6J a1 b2 (a5e n Φ a1 b2):=⟨fun{r} h=>by
 unfold a5e at h
 obtain⟨a1_0,a1_1,a1_2,⟨a1_3,a1_4,a1_5,a1_6⟩,a1_7,a1_8,a1_9⟩:=a1
 obtain⟨b2_0,b2_1,b2_2,⟨b2_3,b2_4,b2_5,b2_6⟩,b2_7,b2_8,b2_9⟩:=b2
 refine F4 rfl Tryz.func12 rfl rfl ?_
 exact blk⟩
theorem a8H (n:Nat){Φ:J9} [hΦ:J9.Ok Φ] {a1 b2:List Nod}:a2i a1 b2 (a1n n Φ a1 b2):=⟨fun{r} h=>by
 unfold a1n at h
 refine F4 rfl Tryz.func33 rfl rfl ?_
 let kr:=fun r:Bool=>a3I env 33 0 Tryz.f33.results.toList (a4M a1 b2 r)
 let jn1:Jn 10 (Unit):=⟨fun fr H z=>([],[])⟩
 let jl1:Jn 4 (Int):=⟨fun fr H z=>([(0,.sl H6 a1),(1,.sl H6 b2),(2,.func (.func 12) [] []),(14,.i (List.length a1:Int)),(15,.i z)],[])⟩
 exact blk⟩
theorem J9.ok:∀n,J9.Ok (J9.fs n)
 | 0=>⟨⟨fun h=>by cases h⟩,⟨fun h=>by cases h⟩⟩
 | n+1=>have:=J9.ok n;⟨b5L n,a8H n⟩
instance parse_Same_I {n:Nat}{a1 b2:Nod}:a6J a1 b2 (a07 n a1 b2):=(J9.ok n).a07
instance b87 {n:Nat}{a1 b2:List Nod}:a2i a1 b2 (Y0 n a1 b2):=(J9.ok n).Y0
abbrev b6z (a1g:Str)(p:Option (Flt×List Tok)):Prop:=OkF env p 18 [.str a1g] [] (b4r a1g)
instance parse_begin_I {a1g:Str}:b6z a1g (a6h a1g):=⟨fun{r} h=>by
 unfold a6h at h
 refine F4 rfl Tryz.func18 rfl rfl ?_
 let ls:Nat->List Nat:=fun n=>cond (Nat.beq n 2) [384] ([])
 exact blk⟩
abbrev b6B (a5C:Str)(Y4:List Typ)(p:Option (Typ)):Prop:=OkF env p 146 [.str a5C,.sl F3 Y4] [] (a9J a5C Y4)
instance parse_named_I {a5C:Str}{Y4:List Typ}:b6B a5C Y4 (a4K a5C Y4):=⟨fun{r} h=>by
 unfold a4K at h
 refine F4 rfl Tryz.func146 rfl rfl ?_
 let kr:=fun r:Typ=>a3I env 146 0 Tryz.f146.results.toList (a9J a5C Y4 r)
 let jn1:Jn 16 (Int):=⟨fun fr H z=>([(0,.str a5C),(1,.sl F3 Y4),(4,.ptr 0 0),(5,.i z)],[(0,.row [.i 0,.str [],.i 0,.slice (.tag 1) 0 []]),(1,.tip 0 0)])⟩
 let jn2:Jn 30004 (Bool):=⟨fun fr H z=>([(0,.str a5C),(1,.sl F3 Y4),(4,.ptr 0 0),(5,.i 6),(6,.bool z)],[(0,.row [.i 0,.str [],.i 0,.slice (.tag 1) 0 []]),(1,.tip 0 0)])⟩
 let jn3:Jn 30006 (Bool):=⟨fun fr H z=>([(0,.str a5C),(1,.sl F3 Y4),(4,.ptr 0 0),(5,.i 6),(16,.bool z)],[(0,oH H 0),(1,.tip 0 0)])⟩
 exact blk⟩
abbrev b2X (n1 b35:Int)(b3e:Str)(a5V:List Tok)(at5 b4h:Int)(p:Option (Bool)):Prop:=OkF env p 42 [.ptr 0 0,.i n1,.i b35,.str b3e] (hP F6 a5V at5 b4h) (b1w n1 b35 b3e a5V at5 b4h)
instance c3V {n1 b35:Int}{b3e:Str}{a5V:List Tok}{at5 b4h:Int}:b2X n1 b35 b3e a5V at5 b4h (o8 n1 b35 b3e a5V at5 b4h):=⟨fun{r} h=>by
 unfold o8 at h
 refine F4 rfl Tryz.func42 rfl rfl ?_
 let ls:Nat->List Nat:=fun n=>cond (Nat.beq n 3) [0,0] ([])
 exact blk⟩
abbrev b1v (j3:List Tok)(at2 j5:Int)(p:Option (Int)):Prop:=OkF env p 19 [.ptr 0 0] (hP F6 j3 at2 j5) (a9U j3 at2 j5)
instance c0V {j3:List Tok}{at2 j5:Int}:b1v j3 at2 j5 (a1J j3 at2 j5):=⟨fun{r} h=>by
 unfold a1J at h
 refine F4 rfl Tryz.func19 rfl rfl ?_
 exact blk⟩
abbrev b1u (j3:List Tok)(at2 j5:Int)(p:Option (Rs Empty Int)):Prop:=OkF env p 36 [.ptr 0 0] (hP F6 j3 at2 j5) (a9T j3 at2 j5)
instance c0U {j3:List Tok}{at2 j5:Int}:b1u j3 at2 j5 (a0J j3 at2 j5):=⟨fun{r} h=>by
 unfold a0J at h
 refine F4 rfl Tryz.func36 rfl rfl ?_
 exact blk⟩
abbrev b0H (b34:Int)(z8:List Tok)(at3 G6:Int)(p:Option (Rs Tok Int)):Prop:=OkF env p 96 [.ptr 0 0,.i b34] (hP F6 z8 at3 G6) (a9o b34 z8 at3 G6)
instance c0q {b34:Int}{z8:List Tok}{at3 G6:Int}:b0H b34 z8 at3 G6 (M6 b34 z8 at3 G6):=⟨fun{r} h=>by
 unfold M6 at h
 refine F4 rfl Tryz.func96 rfl rfl ?_
 let ls:Nat->List Nat:=fun n=>cond (Nat.beq n 3) [0,0] ([])
 exact blk⟩
abbrev a9i (j3:List Tok)(at2 j5:Int)(p:Option (Rs Str Int)):Prop:=OkF env p 48 [.ptr 0 0] (hP F6 j3 at2 j5) (a7Y j3 at2 j5)
instance b8u {j3:List Tok}{at2 j5:Int}:a9i j3 at2 j5 (P7 j3 at2 j5):=⟨fun{r} h=>by
 unfold P7 at h
 refine F4 rfl Tryz.func48 rfl rfl ?_
 exact blk⟩
abbrev b1z (a6j:Str)(z8:List Tok)(at3 G6:Int)(p:Option (Bool×Int)):Prop:=OkF env p 97 [.ptr 0 0,.str a6j] (hP F6 z8 at3 G6) (a90 a6j z8 at3 G6)
instance c0Z {a6j:Str}{z8:List Tok}{at3 G6:Int}:b1z a6j z8 at3 G6 (A8 a6j z8 at3 G6):=⟨fun{r} h=>by
 unfold A8 at h
 refine F4 rfl Tryz.func97 rfl rfl ?_
 exact blk⟩
abbrev b1A (a6j:Str)(z8:List Tok)(at3 G6:Int)(p:Option (Rs Int (Int×Int))):Prop:=OkF env p 90 [.ptr 0 0,.str a6j] (hP F6 z8 at3 G6) (a92 a6j z8 at3 G6)
instance c01 {a6j:Str}{z8:List Tok}{at3 G6:Int}:b1A a6j z8 at3 G6 (D5 a6j z8 at3 G6):=⟨fun{r} h=>by
 unfold D5 at h
 refine F4 rfl Tryz.func90 rfl rfl ?_
 exact blk⟩
abbrev b2i (a6o:Str)(z8:List Tok)(at3 G6:Int)(p:Option (Bool×Int)):Prop:=OkF env p 47 [.ptr 0 0,.str a6o] (hP F6 z8 at3 G6) (b0D a6o z8 at3 G6)
instance c2j {a6o:Str}{z8:List Tok}{at3 G6:Int}:b2i a6o z8 at3 G6 (J8 a6o z8 at3 G6):=⟨fun{r} h=>by
 unfold J8 at h
 refine F4 rfl Tryz.func47 rfl rfl ?_
 exact blk⟩
abbrev a2Q (inExpr1:Bool)(z8:List Tok)(at3 G6:Int)(p:Option (Rs (Typ×Int) (Int×Int))):Prop:=OkF env p 131 [.ptr 0 0,.bool inExpr1] (hP F6 z8 at3 G6) (a5F inExpr1 z8 at3 G6)
abbrev a3m (j3:List Tok)(at2 j5:Int)(p:Option (Rs (Typ×Int) (Int×Int))):Prop:=OkF env p 93 [.ptr 0 0] (hP F6 j3 at2 j5) (a6i j3 at2 j5)
class o5.Ok (Φ:o5):Prop where
 P6:∀{inExpr1:Bool} {z8:List Tok} {at3 G6:Int},a2Q inExpr1 z8 at3 G6 (Φ.P6 inExpr1 z8 at3 G6)
 G7:∀{j3:List Tok} {at2 j5:Int},a3m j3 at2 j5 (Φ.G7 j3 at2 j5)
instance {Φ:o5} [h:o5.Ok Φ] {inExpr1:Bool}{z8:List Tok}{at3 G6:Int}:a2Q inExpr1 z8 at3 G6 (Φ.P6 inExpr1 z8 at3 G6):=h.P6
instance {Φ:o5} [h:o5.Ok Φ] {j3:List Tok}{at2 j5:Int}:a3m j3 at2 j5 (Φ.G7 j3 at2 j5):=h.G7
theorem a9Y (n:Nat){Φ:o5} [hΦ:o5.Ok Φ] {inExpr1:Bool}{z8:List Tok}{at3 G6:Int}:a2Q inExpr1 z8 at3 G6 (Z7 n Φ inExpr1 z8 at3 G6):=⟨fun{r} h=>by
 unfold Z7 at h
 refine F4 rfl Tryz.func131 rfl rfl ?_
 let kr:=fun r:Rs (Typ×Int) (Int×Int)=>a3I env 131 1 Tryz.f131.results.toList (a5F inExpr1 z8 at3 G6 r)
 let jn1:Jn 9 (List Typ×Int):=⟨fun fr H z=>([(0,.ptr 0 0),(1,.bool inExpr1),(4,.ptr 1 0),(5,(lk 9 fr)),(6,.st 2 F3 z.1)],[(0,.row [.sl F6 z8,.i z.2,.i G6]),(1,.row [.i 0,.str [],.i 0,.slice (.tag 3) 0 []]),(2,.tip (tpe 4 (List.length z.1)) (List.length z.1)),(3,.tip 0 0)])⟩
 let jn2:Jn 8 (List Typ×Int):=⟨fun fr H z=>([(0,.ptr 0 0),(1,.bool inExpr1),(4,.ptr 1 0),(5,(lk 9 fr)),(6,.st 2 F3 z.1)],[(0,.row [.sl F6 z8,.i z.2,.i G6]),(1,.row [.i 0,.str [],.i 0,.slice (.tag 3) 0 []]),(2,.tip (tpe 4 (List.length z.1)) (List.length z.1)),(3,.tip 0 0)])⟩
 let jl1:Jn 5 (List Typ×Int):=⟨fun fr H z=>([(0,.ptr 0 0),(1,.bool inExpr1),(4,.ptr 1 0),(5,(lk 9 fr)),(6,.st 2 F3 z.1)],[(0,.row [.sl F6 z8,.i z.2,.i G6]),(1,.row [.i 0,.str [],.i 0,.slice (.tag 3) 0 []]),(2,.tip (tpe 4 (List.length z.1)) (List.length z.1)),(3,.tip 0 0)])⟩
 let jn3:Jn 13 (Int×Typ):=⟨fun fr H z=>([(4,.ptr 1 0),(7,.ptr 2 0)],[(0,.row [.sl F6 z8,.i z.1,.i G6]),(1,oH H 1),(2,.row [.i z.2.kind,.str z.2.name,.i z.2.n,.sl F3 z.2.args]),(3,.tip 0 0)])⟩
 let jl2:Jn 9 (Int×Typ):=⟨fun fr H z=>([(0,.ptr 0 0),(1,.bool inExpr1),(4,.ptr 1 0),(7,.ptr 2 0)],[(0,.row [.sl F6 z8,.i z.1,.i G6]),(1,oH H 1),(2,.row [.i z.2.kind,.str z.2.name,.i z.2.n,.sl F3 z.2.args]),(3,.tip 0 0)])⟩
 let jn4:Jn 90038 (Bool):=⟨fun fr H z=>([(0,.ptr 0 0),(1,.bool inExpr1),(4,.ptr 1 0),(7,.ptr 2 0),(38,.bool z)],[(0,oH H 0),(1,oH H 1),(2,oH H 2),(3,.tip 0 0)])⟩
 let ls:Nat->List Nat:=fun n=>cond (Nat.beq n 11) [2] ([])
 exact blk⟩
theorem b0I (n:Nat){Φ:o5} [hΦ:o5.Ok Φ] {j3:List Tok}{at2 j5:Int}:a3m j3 at2 j5 (a0x n Φ j3 at2 j5):=⟨fun{r} h=>by
 unfold a0x at h
 refine F4 rfl Tryz.func93 rfl rfl ?_
 let kr:=fun r:Rs (Typ×Int) (Int×Int)=>a3I env 93 1 Tryz.f93.results.toList (a6i j3 at2 j5 r)
 let jn1:Jn 12 (List Typ×Int):=⟨fun fr H z=>([(0,.ptr 0 0),(2,.ptr 1 0),(3,.st 2 F3 z.1)],[(0,.row [.sl F6 j3,.i z.2,.i j5]),(1,.row [.i 0,.str [],.i 0,.slice (.tag 3) 0 []]),(2,.tip (tpe 4 (List.length z.1)) (List.length z.1)),(3,.tip 0 0)])⟩
 let jn2:Jn 11 (List Typ×Int):=⟨fun fr H z=>([(0,.ptr 0 0),(2,.ptr 1 0),(3,.st 2 F3 z.1)],[(0,.row [.sl F6 j3,.i z.2,.i j5]),(1,.row [.i 0,.str [],.i 0,.slice (.tag 3) 0 []]),(2,.tip (tpe 4 (List.length z.1)) (List.length z.1)),(3,.tip 0 0)])⟩
 let jl1:Jn 8 (List Typ×Int):=⟨fun fr H z=>([(0,.ptr 0 0),(2,.ptr 1 0),(3,.st 2 F3 z.1)],[(0,.row [.sl F6 j3,.i z.2,.i j5]),(1,.row [.i 0,.str [],.i 0,.slice (.tag 3) 0 []]),(2,.tip (tpe 4 (List.length z.1)) (List.length z.1)),(3,.tip 0 0)])⟩
 exact blk⟩
theorem o5.ok:∀n,o5.Ok (o5.fs n)
 | 0=>⟨⟨fun h=>by cases h⟩,⟨fun h=>by cases h⟩⟩
 | n+1=>have:=o5.ok n;⟨a9Y n,b0I n⟩
instance c0Y {n:Nat}{inExpr1:Bool}{z8:List Tok}{at3 G6:Int}:a2Q inExpr1 z8 at3 G6 (P6 n inExpr1 z8 at3 G6):=(o5.ok n).P6
instance c2l {n:Nat}{j3:List Tok}{at2 j5:Int}:a3m j3 at2 j5 (G7 n j3 at2 j5):=(o5.ok n).G7
abbrev b1y (op1:Int)(z8:List Tok)(at3 G6:Int)(p:Option (Int)):Prop:=OkF env p 46 [.ptr 0 0,.i op1] (hP F6 z8 at3 G6) (a9W op1 z8 at3 G6)
instance c0X {op1:Int}{z8:List Tok}{at3 G6:Int}:b1y op1 z8 at3 G6 (F7 op1 z8 at3 G6):=⟨fun{r} h=>by
 unfold F7 at h
 refine F4 rfl Tryz.func46 rfl rfl ?_
 exact blk⟩
abbrev b1x (j3:List Tok)(at2 j5:Int)(p:Option (Rs Str Int)):Prop:=OkF env p 98 [.ptr 0 0] (hP F6 j3 at2 j5) (a9V j3 at2 j5)
instance c0W {j3:List Tok}{at2 j5:Int}:b1x j3 at2 j5 (J5 j3 at2 j5):=⟨fun{r} h=>by
 unfold J5 at h
 refine F4 rfl Tryz.func98 rfl rfl ?_
 exact blk⟩
abbrev b0G (j3:List Tok)(at2 j5:Int)(p:Option (Rs (Nod×Int) (Int×Int))):Prop:=OkF env p 152 [.ptr 0 0] (hP F6 j3 at2 j5) (a5m j3 at2 j5)
instance c0p {n:Nat}{j3:List Tok}{at2 j5:Int}:b0G j3 at2 j5 (a0j n j3 at2 j5):=⟨fun{r} h=>by
 unfold a0j at h
 refine F4 rfl Tryz.func152 rfl rfl ?_
 let kr:=fun r:Rs (Nod×Int) (Int×Int)=>a3I env 152 1 Tryz.f152.results.toList (a5m j3 at2 j5 r)
 let jn1:Jn 8 (Int×Int×Str×List Nod):=⟨fun fr H z=>([(2,.ptr 1 0),(3,.ptr 2 0)],[(0,.row [.sl F6 j3,.i z.1,.i j5]),(1,.row [.i 0,.str [],.i 0,.i 0,.str [],.i 0,.slice (.tag 3) 0 [],.slice (.tag 4) 0 [],.slice (.tag 5) 0 [],.i 0]),(2,.row [.i z.2.1,.str z.2.2.1,.i 0,.i 0,.str [],.i 0,.slice .sealed 0 [],.slice .sealed 0 [],.st 6 H6 z.2.2.2,(agC (lk 6 fr) 9)]),(3,.tip 0 0),(4,.tip 0 0),(5,.tip 0 0),(6,.tip (tpe 10 (List.length z.2.2.2)) (List.length z.2.2.2))])⟩
 let jl1:Jn 3 (Int×Int×Str×List Nod):=⟨fun fr H z=>([(0,.ptr 0 0),(2,.ptr 1 0),(3,.ptr 2 0)],[(0,.row [.sl F6 j3,.i z.1,.i j5]),(1,.row [.i 0,.str [],.i 0,.i 0,.str [],.i 0,.slice (.tag 3) 0 [],.slice (.tag 4) 0 [],.slice (.tag 5) 0 [],.i 0]),(2,.row [.i z.2.1,.str z.2.2.1,.i 0,.i 0,.str [],.i 0,.slice .sealed 0 [],.slice .sealed 0 [],.st 6 H6 z.2.2.2,(agC (lk 6 fr) 9)]),(3,.tip 0 0),(4,.tip 0 0),(5,.tip 0 0),(6,.tip (tpe 10 (List.length z.2.2.2)) (List.length z.2.2.2))])⟩
 exact blk⟩
abbrev a9l (j3:List Tok)(at2 j5:Int)(p:Option (Rs Int Int)):Prop:=OkF env p 149 [.ptr 0 0] (hP F6 j3 at2 j5) (a8c j3 at2 j5)
instance b8x {j3:List Tok}{at2 j5:Int}:a9l j3 at2 j5 (P8 j3 at2 j5):=⟨fun{r} h=>by
 unfold P8 at h
 refine F4 rfl Tryz.func149 rfl rfl ?_
 exact blk⟩
abbrev a9X (j3:List Tok)(at2 j5:Int)(p:Option (Rs (List Nod×Int) (Int×Int))):Prop:=OkF env p 129 [.ptr 0 0] (hP F6 j3 at2 j5) (a4L j3 at2 j5)
instance b85 {n:Nat}{j3:List Tok}{at2 j5:Int}:a9X j3 at2 j5 (a0q n j3 at2 j5):=⟨fun{r} h=>by
 unfold a0q at h
 refine F4 rfl Tryz.func129 rfl rfl ?_
 let kr:=fun r:Rs (List Nod×Int) (Int×Int)=>a3I env 129 1 Tryz.f129.results.toList (a4L j3 at2 j5 r)
 let jn1:Jn 16 (List Nod×Int):=⟨fun fr H z=>([(0,.ptr 0 0),(3,.st 1 H6 z.1)],[(0,.row [.sl F6 j3,.i z.2,.i j5]),(1,.tip (tpe 10 (List.length z.1)) (List.length z.1))])⟩
 let jl1:Jn 5 (List Nod×Int):=⟨fun fr H z=>([(0,.ptr 0 0),(3,.st 1 H6 z.1)],[(0,.row [.sl F6 j3,.i z.2,.i j5]),(1,.tip (tpe 10 (List.length z.1)) (List.length z.1))])⟩
 let jn2:Jn 11 (Int×Int):=⟨fun fr H z=>([(0,.ptr 0 0),(3,ow (.tag 1) (lk 3 fr)),(4,.ptr 2 0)],[(0,.row [.sl F6 j3,.i z.1,.i j5]),(1,oH H 1),(2,.row [.i 10,.str [],.i z.2,.i 0,.str [],.i 0,.slice .sealed 0 [],.slice .sealed 0 [],.slice (.tag 3) 0 [],(agC (lk 10 fr) 9)]),(3,.tip 0 0)])⟩
 exact blk⟩
abbrev a9Z (j3:List Tok)(at2 j5:Int)(p:Option (Rs (Typ×Int) (Int×Int))):Prop:=OkF env p 130 [.ptr 0 0] (hP F6 j3 at2 j5) (a8G j3 at2 j5)
instance b86 {n:Nat}{j3:List Tok}{at2 j5:Int}:a9Z j3 at2 j5 (a0r n j3 at2 j5):=⟨fun{r} h=>by
 unfold a0r at h
 refine F4 rfl Tryz.func130 rfl rfl ?_
 exact blk⟩
abbrev a9q (a6o:Str)(z8:List Tok)(at3 G6:Int)(p:Option (Rs Int (Int×Int))):Prop:=OkF env p 52 [.ptr 0 0,.str a6o] (hP F6 z8 at3 G6) (a8f a6o z8 at3 G6)
instance b8A {a6o:Str}{z8:List Tok}{at3 G6:Int}:a9q a6o z8 at3 G6 (M9 a6o z8 at3 G6):=⟨fun{r} h=>by
 unfold M9 at h
 refine F4 rfl Tryz.func52 rfl rfl ?_
 exact blk⟩
abbrev a1Z (j3:List Tok)(at2 j5:Int)(p:Option (Rs (Nod×Int) (Int×Int))):Prop:=OkF env p 173 [.ptr 0 0] (hP F6 j3 at2 j5) (a4q j3 at2 j5)
class p9.Ok (Φ:p9):Prop where
 H7:∀{j3:List Tok} {at2 j5:Int},a1Z j3 at2 j5 (Φ.H7 j3 at2 j5)
instance {Φ:p9} [h:p9.Ok Φ] {j3:List Tok}{at2 j5:Int}:a1Z j3 at2 j5 (Φ.H7 j3 at2 j5):=h.H7
theorem a8d (n:Nat){Φ:p9} [hΦ:p9.Ok Φ] {j3:List Tok}{at2 j5:Int}:a1Z j3 at2 j5 (D6 n Φ j3 at2 j5):=⟨fun{r} h=>by
 unfold D6 at h
 refine F4 rfl Tryz.func173 rfl rfl ?_
 let kr:=fun r:Rs (Nod×Int) (Int×Int)=>a3I env 173 1 Tryz.f173.results.toList (a4q j3 at2 j5 r)
 let jn1:Jn 25 (Int×Int×Str×Int×List Nod):=⟨fun fr H z=>([(2,.ptr 1 0),(3,.ptr 2 0)],[(0,.row [.sl F6 j3,.i z.1,.i j5]),(1,.row [.i 0,.str [],.i 0,.i 0,.str [],.i 0,.slice (.tag 3) 0 [],.slice (.tag 4) 0 [],.slice (.tag 5) 0 [],.i 0]),(2,.row [.i z.2.1,.str z.2.2.1,.i z.2.2.2.1,.i 0,.str [],.i 0,.slice .sealed 0 [],.slice .sealed 0 [],.st 6 H6 z.2.2.2.2,(agC (lk 5 fr) 9)]),(3,.tip 0 0),(4,.tip 0 0),(5,.tip 0 0),(6,.tip (tpe 10 (List.length z.2.2.2.2)) (List.length z.2.2.2.2))])⟩
 let jn2:Jn 9 (Int×List Nod):=⟨fun fr H z=>([(0,.ptr 0 0),(2,.ptr 1 0),(3,.ptr 2 0)],[(0,.row [.sl F6 j3,.i z.1,.i j5]),(1,.row [.i 0,.str [],.i 0,.i 0,.str [],.i 0,.slice (.tag 3) 0 [],.slice (.tag 4) 0 [],.slice (.tag 5) 0 [],.i 0]),(2,.row [.i 45,(lk 9 fr),.i 0,.i 0,.str [],.i 0,.slice .sealed 0 [],.slice .sealed 0 [],.st 6 H6 z.2,(agC (lk 5 fr) 9)]),(3,.tip 0 0),(4,.tip 0 0),(5,.tip 0 0),(6,.tip (tpe 10 (List.length z.2)) (List.length z.2))])⟩
 let jl1:Jn 6 (Int×List Nod):=⟨fun fr H z=>([(0,.ptr 0 0),(2,.ptr 1 0),(3,.ptr 2 0)],[(0,.row [.sl F6 j3,.i z.1,.i j5]),(1,.row [.i 0,.str [],.i 0,.i 0,.str [],.i 0,.slice (.tag 3) 0 [],.slice (.tag 4) 0 [],.slice (.tag 5) 0 [],.i 0]),(2,.row [.i 45,(lk 9 fr),.i 0,.i 0,.str [],.i 0,.slice .sealed 0 [],.slice .sealed 0 [],.st 6 H6 z.2,(agC (lk 5 fr) 9)]),(3,.tip 0 0),(4,.tip 0 0),(5,.tip 0 0),(6,.tip (tpe 10 (List.length z.2)) (List.length z.2))])⟩
 let ls:Nat->List Nat:=fun n=>cond (Nat.beq n 7) [2] (cond (Nat.beq n 5) [256] ([]))
 exact blk⟩
theorem p9.ok:∀n,p9.Ok (p9.fs n)
 | 0=>⟨⟨fun h=>by cases h⟩⟩
 | n+1=>have:=p9.ok n;⟨a8d n⟩
instance b8y {n:Nat}{j3:List Tok}{at2 j5:Int}:a1Z j3 at2 j5 (H7 n j3 at2 j5):=(p9.ok n).H7
abbrev b6D (e1:Nod)(p:Option (Bool)):Prop:=OkF env p 161 [.agg (c0 e1.op e1.s e1.n e1.t.kind e1.t.name e1.t.n (.sl F3 e1.t.args) (.sl F3 e1.ts) (.sl H6 e1.l) e1.at_)] [] (a9K e1)
instance parse_place_I {n:Nat}{e1:Nod}:b6D e1 (a3f n e1):=⟨fun{r} h=>by
 unfold a3f at h
 obtain⟨e1_0,e1_1,e1_2,⟨e1_3,e1_4,e1_5,e1_6⟩,e1_7,e1_8,e1_9⟩:=e1
 refine F4 rfl Tryz.func161 rfl rfl ?_
 let kr:=fun r:Bool=>a3I env 161 0 Tryz.f161.results.toList (a9K (Nod.mk e1_0 e1_1 e1_2 (Typ.mk e1_3 e1_4 e1_5 e1_6) e1_7 e1_8 e1_9) r)
 let jn1:Jn 4 (Nod):=⟨fun fr H z=>([(1,.ptr 0 0)],[(0,.row (c0 z.op z.s z.n z.t.kind z.t.name z.t.n (.sl F3 z.t.args) (.sl F3 z.ts) (.sl H6 z.l) z.at_))])⟩
 let jl1:Jn 1 (Nod):=⟨fun fr H z=>([(1,.ptr 0 0)],[(0,.row (c0 z.op z.s z.n z.t.kind z.t.name z.t.n (.sl F3 z.t.args) (.sl F3 z.ts) (.sl H6 z.l) z.at_))])⟩
 exact blk⟩
abbrev b5O (p:Option (Unit)):Prop:=OkF env p 67 [] [] (b3D)
instance parse_levels_I:b5O (a4d):=⟨fun{r} h=>by
 unfold a4d at h
 refine F4 rfl Tryz.func67 rfl rfl ?_
 exact blk⟩
abbrev a6N (s1:List Str)(v2:Str)(p:Option (Int)):Prop:=OkF env p 99 [.sl clS s1,.str v2] [] (a3g s1 v2)
instance b4K {n:Nat}{s1:List Str}{v2:Str}:a6N s1 v2 (a0F n s1 v2):=⟨fun{r} h=>by
 unfold a0F at h
 refine F4 rfl Tryz.func99 rfl rfl ?_
 let kr:=fun r:Int=>a3I env 99 0 Tryz.f99.results.toList (a3g s1 v2 r)
 let jn1:Jn 8 (Unit):=⟨fun fr H z=>([],[])⟩
 let jl1:Jn 2 (Int):=⟨fun fr H z=>([(0,.sl clS s1),(1,.str v2),(7,.i (List.length s1:Int)),(8,.i z)],[])⟩
 exact blk⟩
abbrev a5M (s1:List Str)(v2:Str)(p:Option (Bool)):Prop:=OkF env p 53 [.sl clS s1,.str v2] [] (a5p s1 v2)
instance b3K {n:Nat}{s1:List Str}{v2:Str}:a5M s1 v2 (O8 n s1 v2):=⟨fun{r} h=>by
 unfold O8 at h
 refine F4 rfl Tryz.func53 rfl rfl ?_
 exact blk⟩
end Go.Proofs.YtjhfloacokgdiaaGreatDoor
