/- Texts of ParseRecovers, joined. -/
import Derived.Test.YtjhfloacokgdiaaGreatDoorParseRecoversJ14
set_option maxRecDepth 100000
set_option maxHeartbeats 20000000
set_option linter.all false
namespace Go.Proofs.YtjhfloacokgdiaaGreatDoor
open Go Go.Vm
variable {at2 j4:Int} {d9:List Tok} {Φ:F6}
attribute [local irreducible] Go.Vm.Ev Go.Vm.Os Go.Vm.OsP Go.Vm.Lp Go.Vm.E8 Go.Vm.J5 Go.Vm.J7 Go.Vm.E
abbrev c0w (s1:Str)(p:Option (Bool)):Prop:=OkF env p 11 [.str s1] [] (b7k s1)
instance law02_fits_I {s1:Str}:c0w s1 (b0Q s1):=⟨fun{r} h=>by
 unfold b0Q at h;refine D5 rfl Tryz.func11 rfl rfl ?_;exact blk⟩
abbrev a5d (a1 b2:Typ)(p:Option (Bool)):Prop:=OkF env p 31 [.agg [.i a1.kind,.str a1.name,.i a1.n,.sl D8 a1.args],.agg [.i b2.kind,.str b2.name,.i b2.n,.sl D8 b2.args]] [] (b4e a1 b2)
abbrev a2Y (a1 b2:List Typ)(p:Option (Bool)):Prop:=OkF env p 32 [.sl D8 a1,.sl D8 b2,.func (.func 31) [] []] [] (a6f a1 b2)
class F6.Ok (Φ:F6):Prop where
 Y6:∀{a1 b2:Typ},a5d a1 b2 (Φ.Y6 a1 b2)
 Q5:∀{a1 b2:List Typ},a2Y a1 b2 (Φ.Q5 a1 b2)
instance {Φ:F6} [h:F6.Ok Φ] {a1 b2:Typ}:a5d a1 b2 (Φ.Y6 a1 b2):=h.Y6
instance {Φ:F6} [h:F6.Ok Φ] {a1 b2:List Typ}:a2Y a1 b2 (Φ.Q5 a1 b2):=h.Q5
theorem b4d (n:Nat) [hΦ:F6.Ok Φ] {a1 b2:Typ}:a5d a1 b2 (a3U n Φ a1 b2):=⟨fun{r} h=>by
 unfold a3U at h;obtain⟨a1_0,a1_1,a1_2,a1_3⟩:=a1;obtain⟨b2_0,b2_1,b2_2,b2_3⟩:=b2;refine D5 rfl Tryz.func31 rfl rfl ?_;exact blk⟩
theorem b0q (n:Nat) [hΦ:F6.Ok Φ] {a1 b2:List Typ}:a2Y a1 b2 (a13 n Φ a1 b2):=⟨fun{r} h=>by
 unfold a13 at h;refine D5 rfl Tryz.func32 rfl rfl ?_;let kr:=fun r:Bool=>a2e env 32 0 Tryz.f32.results.toList (a6f a1 b2 r);let jn1:Jn 10 (Unit):=⟨fun fr H z=>([],[])⟩
 let jl1:Jn 4 (Int):=⟨fun fr H z=>([(0,.sl D8 a1),(1,.sl D8 b2),(2,.func (.func 31) [] []),(14,.i (List.length a1:Int)),(15,.i z)],[])⟩
 exact blk⟩
theorem F6.ok:∀n,F6.Ok (F6.fs n)
 | 0=>⟨⟨fun h=>by cases h⟩,⟨fun h=>by cases h⟩⟩
 | n+1=>have:=F6.ok n;⟨b4d n,b0q n⟩
instance c7j {n:Nat}{a1 b2:Typ}:a5d a1 b2 (Y6 n a1 b2):=(F6.ok n).Y6
instance c1n {n:Nat}{a1 b2:List Typ}:a2Y a1 b2 (Q5 n a1 b2):=(F6.ok n).Q5
abbrev a8k (a1 b2:Nod)(p:Option (Bool)):Prop:=OkF env p 12 [.agg (c0 a1.op a1.s a1.n a1.t.kind a1.t.name a1.t.n (.sl D8 a1.t.args) (.sl D8 a1.ts) (.sl D9 a1.l) a1.at_),.agg (c0 b2.op b2.s b2.n b2.t.kind b2.t.name b2.t.n (.sl D8 b2.t.args) (.sl D8 b2.ts) (.sl D9 b2.l) b2.at_)] [] (b7E a1 b2)
abbrev a2X (a1 b2:List Nod)(p:Option (Bool)):Prop:=OkF env p 33 [.sl D9 a1,.sl D9 b2,.func (.func 12) [] []] [] (a6e a1 b2)
class I8.Ok (Φ:I8):Prop where
 a07:∀{a1 b2:Nod},a8k a1 b2 (Φ.a07 a1 b2)
 X8:∀{a1 b2:List Nod},a2X a1 b2 (Φ.X8 a1 b2)
instance {Φ:I8} [h:I8.Ok Φ] {a1 b2:Nod}:a8k a1 b2 (Φ.a07 a1 b2):=h.a07
instance {Φ:I8} [h:I8.Ok Φ] {a1 b2:List Nod}:a2X a1 b2 (Φ.X8 a1 b2):=h.X8
theorem b7D (n:Nat){Φ:I8} [hΦ:I8.Ok Φ] {a1 b2:Nod}:a8k a1 b2 (a6v n Φ a1 b2):=⟨fun{r} h=>by
 unfold a6v at h;obtain⟨a1_0,a1_1,a1_2,⟨a1_3,a1_4,a1_5,a1_6⟩,a1_7,a1_8,a1_9⟩:=a1;obtain⟨b2_0,b2_1,b2_2,⟨b2_3,b2_4,b2_5,b2_6⟩,b2_7,b2_8,b2_9⟩:=b2;refine D5 rfl Tryz.func12 rfl rfl ?_;exact blk⟩
theorem b0p (n:Nat){Φ:I8} [hΦ:I8.Ok Φ] {a1 b2:List Nod}:a2X a1 b2 (a11 n Φ a1 b2):=⟨fun{r} h=>by
 unfold a11 at h;refine D5 rfl Tryz.func33 rfl rfl ?_;let kr:=fun r:Bool=>a2e env 33 0 Tryz.f33.results.toList (a6e a1 b2 r);let jn1:Jn 10 (Unit):=⟨fun fr H z=>([],[])⟩
 let jl1:Jn 4 (Int):=⟨fun fr H z=>([(0,.sl D9 a1),(1,.sl D9 b2),(2,.func (.func 12) [] []),(14,.i (List.length a1:Int)),(15,.i z)],[])⟩
 exact blk⟩
theorem I8.ok:∀n,I8.Ok (I8.fs n)
 | 0=>⟨⟨fun h=>by cases h⟩,⟨fun h=>by cases h⟩⟩
 | n+1=>have:=I8.ok n;⟨b7D n,b0p n⟩
instance parse_Same_I {n:Nat}{a1 b2:Nod}:a8k a1 b2 (a07 n a1 b2):=(I8.ok n).a07
instance c1m {n:Nat}{a1 b2:List Nod}:a2X a1 b2 (X8 n a1 b2):=(I8.ok n).X8
abbrev a8l (n1:Nod)(p:Option (Int×Int)):Prop:=OkF env p 24 [.agg (c0 n1.op n1.s n1.n n1.t.kind n1.t.name n1.t.n (.sl D8 n1.t.args) (.sl D8 n1.ts) (.sl D9 n1.l) n1.at_)] [] (b2y n1)
class Q6.Ok (Φ:Q6):Prop where
 a1I:∀{n1:Nod},a8l n1 (Φ.a1I n1)
instance {Φ:Q6} [h:Q6.Ok Φ] {n1:Nod}:a8l n1 (Φ.a1I n1):=h.a1I
theorem b7F (n:Nat){Φ:Q6} [hΦ:Q6.Ok Φ] {n1:Nod}:a8l n1 (a6w n Φ n1):=⟨fun{r} h=>by
 unfold a6w at h;obtain⟨n1_0,n1_1,n1_2,⟨n1_3,n1_4,n1_5,n1_6⟩,n1_7,n1_8,n1_9⟩:=n1;refine D5 rfl Tryz.func24 rfl rfl ?_;let kr:=fun r:Int×Int=>a2e env 24 0 Tryz.f24.results.toList (b2y (Nod.mk n1_0 n1_1 n1_2 (Typ.mk n1_3 n1_4 n1_5 n1_6) n1_7 n1_8 n1_9) r);let jn1:Jn 10 (Int×Int):=⟨fun fr H z=>([(2,.i z.1),(3,.i z.2)],[])⟩
 let jl1:Jn 3 (Int×Int×Int):=⟨fun fr H z=>([(2,.i z.1),(3,.i z.2.1),(9,.sl D9 n1_8),(10,.i (List.length n1_8:Int)),(11,.i z.2.2)],[])⟩
 exact blk⟩
theorem Q6.ok:∀n,Q6.Ok (Q6.fs n)
 | 0=>⟨⟨fun h=>by cases h⟩⟩
 | n+1=>have:=Q6.ok n;⟨b7F n⟩
instance parse_Size_I {n:Nat}{n1:Nod}:a8l n1 (a1I n n1):=(Q6.ok n).a1I
abbrev b8x (a1C:Str)(p:Option (Flt×List Tok)):Prop:=OkF env p 18 [.str a1C] [] (b59 a1C)
instance parse_begin_I {a1C:Str}:b8x a1C (a5W a1C):=⟨fun{r} h=>by
 unfold a5W at h;refine D5 rfl Tryz.func18 rfl rfl ?_;let ls:Nat->List Nat:=fun n=>cond (Nat.beq n 2) [384] ([]);exact blk⟩
abbrev b3w (d9:List Tok)(at2 j4:Int)(p:Option (Int)):Prop:=OkF env p 19 [.ptr 0 0] (hP A8 d9 at2 j4) (b1G d9 at2 j4)
instance c3n {d9:List Tok}{at2 j4:Int}:b3w d9 at2 j4 (a1M d9 at2 j4):=⟨fun{r} h=>by
 unfold a1M at h;refine D5 rfl Tryz.func19 rfl rfl ?_;exact blk⟩
abbrev b4O (n1 b5P:Int)(b41:Str)(a7o:List Tok)(at5 b51:Int)(p:Option (Bool)):Prop:=OkF env p 42 [.ptr 0 0,.i n1,.i b5P,.str b41] (hP A8 a7o at5 b51) (b3x n1 b5P b41 a7o at5 b51)
instance c6h {n1 b5P:Int}{b41:Str}{a7o:List Tok}{at5 b51:Int}:b4O n1 b5P b41 a7o at5 b51 (C9 n1 b5P b41 a7o at5 b51):=⟨fun{r} h=>by
 unfold C9 at h;refine D5 rfl Tryz.func42 rfl rfl ?_;let ls:Nat->List Nat:=fun n=>cond (Nat.beq n 3) [0,0] ([]);exact blk⟩
abbrev b3z (op1:Int)(o8:List Tok)(at3 F9:Int)(p:Option (Int)):Prop:=OkF env p 46 [.ptr 0 0,.i op1] (hP A8 o8 at3 F9) (b1I op1 o8 at3 F9)
instance c3p {op1:Int}{o8:List Tok}{at3 F9:Int}:b3z op1 o8 at3 F9 (C8 op1 o8 at3 F9):=⟨fun{r} h=>by
 unfold C8 at h;refine D5 rfl Tryz.func46 rfl rfl ?_;exact blk⟩
abbrev b3v (d9:List Tok)(at2 j4:Int)(p:Option (Rs Empty Int)):Prop:=OkF env p 36 [.ptr 0 0] (hP A8 d9 at2 j4) (b1E d9 at2 j4)
instance c3m {d9:List Tok}{at2 j4:Int}:b3v d9 at2 j4 (a1L d9 at2 j4):=⟨fun{r} h=>by
 unfold a1L at h;refine D5 rfl Tryz.func36 rfl rfl ?_;exact blk⟩
abbrev b2G (b5O:Int)(o8:List Tok)(at3 F9:Int)(p:Option (Rs Tok Int)):Prop:=OkF env p 96 [.ptr 0 0,.i b5O] (hP A8 o8 at3 F9) (b08 b5O o8 at3 F9)
instance c2O {b5O:Int}{o8:List Tok}{at3 F9:Int}:b2G b5O o8 at3 F9 (P7 b5O o8 at3 F9):=⟨fun{r} h=>by
 unfold P7 at h;refine D5 rfl Tryz.func96 rfl rfl ?_;let ls:Nat->List Nat:=fun n=>cond (Nat.beq n 3) [0,0] ([]);exact blk⟩
abbrev b0Z (d9:List Tok)(at2 j4:Int)(p:Option (Rs Str Int)):Prop:=OkF env p 48 [.ptr 0 0] (hP A8 d9 at2 j4) (a9I d9 at2 j4)
instance c0G {d9:List Tok}{at2 j4:Int}:b0Z d9 at2 j4 (H8 d9 at2 j4):=⟨fun{r} h=>by
 unfold H8 at h;refine D5 rfl Tryz.func48 rfl rfl ?_;exact blk⟩
abbrev b4c (a7H:Str)(o8:List Tok)(at3 F9:Int)(p:Option (Bool×Int)):Prop:=OkF env p 47 [.ptr 0 0,.str a7H] (hP A8 o8 at3 F9) (b2C a7H o8 at3 F9)
instance c4B {a7H:Str}{o8:List Tok}{at3 F9:Int}:b4c a7H o8 at3 F9 (G8 a7H o8 at3 F9):=⟨fun{r} h=>by
 unfold G8 at h;refine D5 rfl Tryz.func47 rfl rfl ?_;exact blk⟩
abbrev b1a (a7H:Str)(o8:List Tok)(at3 F9:Int)(p:Option (Rs Int (Int×Int))):Prop:=OkF env p 52 [.ptr 0 0,.str a7H] (hP A8 o8 at3 F9) (a9Q a7H o8 at3 F9)
instance c0M {a7H:Str}{o8:List Tok}{at3 F9:Int}:b1a a7H o8 at3 F9 (K7 a7H o8 at3 F9):=⟨fun{r} h=>by
 unfold K7 at h;refine D5 rfl Tryz.func52 rfl rfl ?_;exact blk⟩
abbrev b3A (a7D:Str)(o8:List Tok)(at3 F9:Int)(p:Option (Bool×Int)):Prop:=OkF env p 97 [.ptr 0 0,.str a7D] (hP A8 o8 at3 F9) (b1N a7D o8 at3 F9)
instance c3r {a7D:Str}{o8:List Tok}{at3 F9:Int}:b3A a7D o8 at3 F9 (z8 a7D o8 at3 F9):=⟨fun{r} h=>by
 unfold z8 at h;refine D5 rfl Tryz.func97 rfl rfl ?_;exact blk⟩
abbrev b3B (a7D:Str)(o8:List Tok)(at3 F9:Int)(p:Option (Rs Int (Int×Int))):Prop:=OkF env p 90 [.ptr 0 0,.str a7D] (hP A8 o8 at3 F9) (b1O a7D o8 at3 F9)
instance c3s {a7D:Str}{o8:List Tok}{at3 F9:Int}:b3B a7D o8 at3 F9 (o9 a7D o8 at3 F9):=⟨fun{r} h=>by
 unfold o9 at h;refine D5 rfl Tryz.func90 rfl rfl ?_;exact blk⟩
abbrev b1A (d9:List Tok)(at2 j4:Int)(p:Option (Rs (List Nod×Int) (Int×Int))):Prop:=OkF env p 91 [.ptr 0 0] (hP A8 d9 at2 j4) (b0i d9 at2 j4)
instance c1f {n:Nat}{d9:List Tok}{at2 j4:Int}:b1A d9 at2 j4 (a0D n d9 at2 j4):=⟨fun{r} h=>by
 unfold a0D at h;refine D5 rfl Tryz.func91 rfl rfl ?_;let jl1:Jn 4 (List Nod×Int):=⟨fun fr H z=>([(0,.ptr 0 0),(3,.st 1 D9 z.1)],[(0,.row [.sl A8 d9,.i z.2,.i j4]),(1,.tip (tpe 10 (List.length z.1)) (List.length z.1))])⟩
 exact blk⟩
abbrev b8z (a6V:Str)(Y3:List Typ)(p:Option (Typ)):Prop:=OkF env p 146 [.str a6V,.sl D8 Y3] [] (b1t a6V Y3)
instance parse_named_I {a6V:Str}{Y3:List Typ}:b8z a6V Y3 (a5X a6V Y3):=⟨fun{r} h=>by
 unfold a5X at h;refine D5 rfl Tryz.func146 rfl rfl ?_;let kr:=fun r:Typ=>a2e env 146 0 Tryz.f146.results.toList (b1t a6V Y3 r);let jn1:Jn 16 (Int):=⟨fun fr H z=>([(0,.str a6V),(1,.sl D8 Y3),(4,.ptr 0 0),(5,.i z)],[(0,.row [.i 0,.str [],.i 0,.slice (.tag 1) 0 []]),(1,.tip 0 0)])⟩
 let jn2:Jn 30004 (Bool):=⟨fun fr H z=>([(0,.str a6V),(1,.sl D8 Y3),(4,.ptr 0 0),(5,.i 6),(6,.bool z)],[(0,.row [.i 0,.str [],.i 0,.slice (.tag 1) 0 []]),(1,.tip 0 0)])⟩
 let jn3:Jn 30006 (Bool):=⟨fun fr H z=>([(0,.str a6V),(1,.sl D8 Y3),(4,.ptr 0 0),(5,.i 6),(16,.bool z)],[(0,oH H 0),(1,.tip 0 0)])⟩
 exact blk⟩
abbrev a4i (d9:List Tok)(at2 j4:Int)(p:Option (Rs (Typ×Int) (Int×Int))):Prop:=OkF env p 93 [.ptr 0 0] (hP A8 d9 at2 j4) (a7B d9 at2 j4)
abbrev a3I (inExpr1:Bool)(o8:List Tok)(at3 F9:Int)(p:Option (Rs (Typ×Int) (Int×Int))):Prop:=OkF env p 131 [.ptr 0 0,.bool inExpr1] (hP A8 o8 at3 F9) (a6Z inExpr1 o8 at3 F9)
class p8.Ok (Φ:p8):Prop where
 F4:∀{d9:List Tok} {at2 j4:Int},a4i d9 at2 j4 (Φ.F4 d9 at2 j4)
 O9:∀{inExpr1:Bool} {o8:List Tok} {at3 F9:Int},a3I inExpr1 o8 at3 F9 (Φ.O9 inExpr1 o8 at3 F9)
instance {Φ:p8} [h:p8.Ok Φ] {d9:List Tok}{at2 j4:Int}:a4i d9 at2 j4 (Φ.F4 d9 at2 j4):=h.F4
instance {Φ:p8} [h:p8.Ok Φ] {inExpr1:Bool}{o8:List Tok}{at3 F9:Int}:a3I inExpr1 o8 at3 F9 (Φ.O9 inExpr1 o8 at3 F9):=h.O9
theorem b2H (n:Nat){Φ:p8} [hΦ:p8.Ok Φ]:a4i d9 at2 j4 (a2a n Φ d9 at2 j4):=⟨fun{r} h=>by
 unfold a2a at h;refine D5 rfl Tryz.func93 rfl rfl ?_;let kr:=fun r:Rs (Typ×Int) (Int×Int)=>a2e env 93 1 Tryz.f93.results.toList (a7B d9 at2 j4 r);let jn1:Jn 12 (List Typ×Int):=⟨fun fr H z=>([(0,.ptr 0 0),(2,.ptr 1 0),(3,.st 2 D8 z.1)],[(0,.row [.sl A8 d9,.i z.2,.i j4]),(1,.row [.i 0,.str [],.i 0,.slice (.tag 3) 0 []]),(2,.tip (tpe 4 (List.length z.1)) (List.length z.1)),(3,.tip 0 0)])⟩
 let jn2:Jn 11 (List Typ×Int):=⟨fun fr H z=>([(0,.ptr 0 0),(2,.ptr 1 0),(3,.st 2 D8 z.1)],[(0,.row [.sl A8 d9,.i z.2,.i j4]),(1,.row [.i 0,.str [],.i 0,.slice (.tag 3) 0 []]),(2,.tip (tpe 4 (List.length z.1)) (List.length z.1)),(3,.tip 0 0)])⟩
 let jl1:Jn 8 (List Typ×Int):=⟨fun fr H z=>([(0,.ptr 0 0),(2,.ptr 1 0),(3,.st 2 D8 z.1)],[(0,.row [.sl A8 d9,.i z.2,.i j4]),(1,.row [.i 0,.str [],.i 0,.slice (.tag 3) 0 []]),(2,.tip (tpe 4 (List.length z.1)) (List.length z.1)),(3,.tip 0 0)])⟩
 exact blk⟩
theorem b1K (n:Nat){Φ:p8} [hΦ:p8.Ok Φ] {inExpr1:Bool}{o8:List Tok}{at3 F9:Int}:a3I inExpr1 o8 at3 F9 (a09 n Φ inExpr1 o8 at3 F9):=⟨fun{r} h=>by
 unfold a09 at h;refine D5 rfl Tryz.func131 rfl rfl ?_;let kr:=fun r:Rs (Typ×Int) (Int×Int)=>a2e env 131 1 Tryz.f131.results.toList (a6Z inExpr1 o8 at3 F9 r);let jn1:Jn 9 (List Typ×Int):=⟨fun fr H z=>([(0,.ptr 0 0),(1,.bool inExpr1),(4,.ptr 1 0),(5,(lk 9 fr)),(6,.st 2 D8 z.1)],[(0,.row [.sl A8 o8,.i z.2,.i F9]),(1,.row [.i 0,.str [],.i 0,.slice (.tag 3) 0 []]),(2,.tip (tpe 4 (List.length z.1)) (List.length z.1)),(3,.tip 0 0)])⟩
 let jn2:Jn 8 (List Typ×Int):=⟨fun fr H z=>([(0,.ptr 0 0),(1,.bool inExpr1),(4,.ptr 1 0),(5,(lk 9 fr)),(6,.st 2 D8 z.1)],[(0,.row [.sl A8 o8,.i z.2,.i F9]),(1,.row [.i 0,.str [],.i 0,.slice (.tag 3) 0 []]),(2,.tip (tpe 4 (List.length z.1)) (List.length z.1)),(3,.tip 0 0)])⟩
 let jl1:Jn 5 (List Typ×Int):=⟨fun fr H z=>([(0,.ptr 0 0),(1,.bool inExpr1),(4,.ptr 1 0),(5,(lk 9 fr)),(6,.st 2 D8 z.1)],[(0,.row [.sl A8 o8,.i z.2,.i F9]),(1,.row [.i 0,.str [],.i 0,.slice (.tag 3) 0 []]),(2,.tip (tpe 4 (List.length z.1)) (List.length z.1)),(3,.tip 0 0)])⟩
 let jn3:Jn 13 (Int×Typ):=⟨fun fr H z=>([(4,.ptr 1 0),(7,.ptr 2 0)],[(0,.row [.sl A8 o8,.i z.1,.i F9]),(1,oH H 1),(2,.row [.i z.2.kind,.str z.2.name,.i z.2.n,.sl D8 z.2.args]),(3,.tip 0 0)])⟩
 let jl2:Jn 9 (Int×Typ):=⟨fun fr H z=>([(0,.ptr 0 0),(1,.bool inExpr1),(4,.ptr 1 0),(7,.ptr 2 0)],[(0,.row [.sl A8 o8,.i z.1,.i F9]),(1,oH H 1),(2,.row [.i z.2.kind,.str z.2.name,.i z.2.n,.sl D8 z.2.args]),(3,.tip 0 0)])⟩
 let jn4:Jn 90038 (Bool):=⟨fun fr H z=>([(0,.ptr 0 0),(1,.bool inExpr1),(4,.ptr 1 0),(7,.ptr 2 0),(38,.bool z)],[(0,oH H 0),(1,oH H 1),(2,oH H 2),(3,.tip 0 0)])⟩
 let ls:Nat->List Nat:=fun n=>cond (Nat.beq n 11) [2] ([]);exact blk⟩
theorem p8.ok:∀n,p8.Ok (p8.fs n)
 | 0=>⟨⟨fun h=>by cases h⟩,⟨fun h=>by cases h⟩⟩
 | n+1=>have:=p8.ok n;⟨b2H n,b1K n⟩
instance c4D {n:Nat}{d9:List Tok}{at2 j4:Int}:a4i d9 at2 j4 (F4 n d9 at2 j4):=(p8.ok n).F4
instance c3q {n:Nat}{inExpr1:Bool}{o8:List Tok}{at3 F9:Int}:a3I inExpr1 o8 at3 F9 (O9 n inExpr1 o8 at3 F9):=(p8.ok n).O9
abbrev b3y (d9:List Tok)(at2 j4:Int)(p:Option (Rs Str Int)):Prop:=OkF env p 98 [.ptr 0 0] (hP A8 d9 at2 j4) (b1H d9 at2 j4)
instance c3o {d9:List Tok}{at2 j4:Int}:b3y d9 at2 j4 (J8 d9 at2 j4):=⟨fun{r} h=>by
 unfold J8 at h;refine D5 rfl Tryz.func98 rfl rfl ?_;exact blk⟩
abbrev b1J (d9:List Tok)(at2 j4:Int)(p:Option (Rs (List Nod×Int) (Int×Int))):Prop:=OkF env p 129 [.ptr 0 0] (hP A8 d9 at2 j4) (a6c d9 at2 j4)
instance c1j {n:Nat}{d9:List Tok}{at2 j4:Int}:b1J d9 at2 j4 (X7 n d9 at2 j4):=⟨fun{r} h=>by
 unfold X7 at h;refine D5 rfl Tryz.func129 rfl rfl ?_;let kr:=fun r:Rs (List Nod×Int) (Int×Int)=>a2e env 129 1 Tryz.f129.results.toList (a6c d9 at2 j4 r);let jn1:Jn 16 (List Nod×Int):=⟨fun fr H z=>([(0,.ptr 0 0),(3,.st 1 D9 z.1)],[(0,.row [.sl A8 d9,.i z.2,.i j4]),(1,.tip (tpe 10 (List.length z.1)) (List.length z.1))])⟩
 let jl1:Jn 5 (List Nod×Int):=⟨fun fr H z=>([(0,.ptr 0 0),(3,.st 1 D9 z.1)],[(0,.row [.sl A8 d9,.i z.2,.i j4]),(1,.tip (tpe 10 (List.length z.1)) (List.length z.1))])⟩
 let jn2:Jn 11 (Int×Int):=⟨fun fr H z=>([(0,.ptr 0 0),(3,ow (.tag 1) (lk 3 fr)),(4,.ptr 2 0)],[(0,.row [.sl A8 d9,.i z.1,.i j4]),(1,oH H 1),(2,.row [.i 10,.str [],.i z.2,.i 0,.str [],.i 0,.slice .sealed 0 [],.slice (.tag 3) 0 [],.slice (.tag 4) 0 [],(agC (lk 10 fr) 9)]),(3,.tip 0 0),(4,.tip 0 0)])⟩
 exact blk⟩
abbrev b1L (d9:List Tok)(at2 j4:Int)(p:Option (Rs (Typ×Int) (Int×Int))):Prop:=OkF env p 130 [.ptr 0 0] (hP A8 d9 at2 j4) (b0o d9 at2 j4)
instance c1k {n:Nat}{d9:List Tok}{at2 j4:Int}:b1L d9 at2 j4 (a0a n d9 at2 j4):=⟨fun{r} h=>by
 unfold a0a at h;refine D5 rfl Tryz.func130 rfl rfl ?_;exact blk⟩
abbrev b0k (d9:List Tok)(at2 j4:Int)(p:Option (Rs (List Nod×Int) (Int×Int))):Prop:=OkF env p 49 [.ptr 0 0] (hP A8 d9 at2 j4) (a5j d9 at2 j4)
instance b9r {n:Nat}{d9:List Tok}{at2 j4:Int}:b0k d9 at2 j4 (T9 n d9 at2 j4):=⟨fun{r} h=>by
 unfold T9 at h;refine D5 rfl Tryz.func49 rfl rfl ?_;let kr:=fun r:Rs (List Nod×Int) (Int×Int)=>a2e env 49 1 Tryz.f49.results.toList (a5j d9 at2 j4 r);let jn1:Jn 10 (List Nod×Int):=⟨fun fr H z=>([(0,.ptr 0 0),(3,.st 1 D9 z.1)],[(0,.row [.sl A8 d9,.i z.2,.i j4]),(1,.tip (tpe 10 (List.length z.1)) (List.length z.1))])⟩
 let jl1:Jn 4 (List Nod×Int):=⟨fun fr H z=>([(0,.ptr 0 0),(3,.st 1 D9 z.1)],[(0,.row [.sl A8 d9,.i z.2,.i j4]),(1,.tip (tpe 10 (List.length z.1)) (List.length z.1))])⟩
 exact blk⟩
abbrev b2I (d9:List Tok)(at2 j4:Int)(p:Option (Rs (List Nod×Int) (Int×Int))):Prop:=OkF env p 94 [.ptr 0 0] (hP A8 d9 at2 j4) (a6H d9 at2 j4)
instance c2Q {n:Nat}{d9:List Tok}{at2 j4:Int}:b2I d9 at2 j4 (a0T n d9 at2 j4):=⟨fun{r} h=>by
 unfold a0T at h;refine D5 rfl Tryz.func94 rfl rfl ?_;let kr:=fun r:Rs (List Nod×Int) (Int×Int)=>a2e env 94 1 Tryz.f94.results.toList (a6H d9 at2 j4 r);let jl1:Jn 4 (List Nod×Int):=⟨fun fr H z=>([(0,.ptr 0 0),(3,.st 1 D9 z.1)],[(0,.row [.sl A8 d9,.i z.2,.i j4]),(1,.tip (tpe 10 (List.length z.1)) (List.length z.1))])⟩
 let jn1:Jn 13 (Int×Str×Int×List Typ):=⟨fun fr H z=>([(0,.ptr 0 0),(3,ow (.tag 1) (lk 3 fr)),(4,.ptr 2 0)],[(0,.row [.sl A8 d9,.i z.1,.i j4]),(1,oH H 1),(2,.row [.i 12,.str z.2.1,.i z.2.2.1,(agC (lk 11 fr) 0),(agC (lk 11 fr) 1),(agC (lk 11 fr) 2),ow .sealed (agC (lk 11 fr) 3),.st 3 D8 z.2.2.2,.slice (.tag 4) 0 [],(agC (lk 9 fr) 9)]),(3,.tip (tpe 4 (List.length z.2.2.2)) (List.length z.2.2.2)),(4,.tip 0 0)])⟩
 exact blk⟩
abbrev a9P (d9:List Tok)(at2 j4:Int)(p:Option (Rs (Str×Typ×List Nod×Int×Int) (Int×Int))):Prop:=OkF env p 92 [.ptr 0 0] (hP A8 d9 at2 j4) (a4O d9 at2 j4)
instance b8A {n:Nat}{d9:List Tok}{at2 j4:Int}:a9P d9 at2 j4 (U8 n d9 at2 j4):=⟨fun{r} h=>by
 unfold U8 at h;refine D5 rfl Tryz.func92 rfl rfl ?_;let kr:=fun r:Rs (Str×Typ×List Nod×Int×Int) (Int×Int)=>a2e env 92 1 Tryz.f92.results.toList (a4O d9 at2 j4 r);let jn1:Jn 13 (Int×List Nod):=⟨fun fr H z=>([(0,.ptr 0 0),(2,.ptr 1 0),(3,.ptr 2 0)],[(0,.row [.sl A8 d9,.i z.1,.i j4]),(1,.row [.i 0,.str [],.i 0,.i 0,.str [],.i 0,.slice (.tag 3) 0 [],.slice (.tag 4) 0 [],.slice (.tag 5) 0 [],.i 0]),(2,.row [.i 7,(lk 10 fr),.i 0,.i 0,.str [],.i 0,.slice .sealed 0 [],.slice (.tag 6) 0 [],.st 7 D9 z.2,(agC (lk 6 fr) 9)]),(3,.tip 0 0),(4,.tip 0 0),(5,.tip 0 0),(6,.tip 0 0),(7,.tip (tpe 10 (List.length z.2)) (List.length z.2))])⟩
 let ls:Nat->List Nat:=fun n=>cond (Nat.beq n 13) [2] (cond (Nat.beq n 5) [256] ([]));exact blk⟩
abbrev b0n (d9:List Tok)(at2 j4:Int)(p:Option (Rs (Nod×Int) (Int×Int))):Prop:=OkF env p 43 [.ptr 0 0] (hP A8 d9 at2 j4) (a5k d9 at2 j4)
instance b9s {n:Nat}{d9:List Tok}{at2 j4:Int}:b0n d9 at2 j4 (a0M n d9 at2 j4):=⟨fun{r} h=>by
 unfold a0M at h;refine D5 rfl Tryz.func43 rfl rfl ?_;let kr:=fun r:Rs (Nod×Int) (Int×Int)=>a2e env 43 1 Tryz.f43.results.toList (a5k d9 at2 j4 r);let jn1:Jn 13 (Int×List Nod):=⟨fun fr H z=>([(0,.ptr 0 0),(2,.ptr 1 0),(3,.ptr 2 0)],[(0,.row [.sl A8 d9,.i z.1,.i j4]),(1,.row [.i 0,.str [],.i 0,.i 0,.str [],.i 0,.slice (.tag 3) 0 [],.slice (.tag 4) 0 [],.slice (.tag 5) 0 [],.i 0]),(2,.row [.i 5,(lk 11 fr),.i 0,.i 0,.str [],.i 0,.slice .sealed 0 [],.slice (.tag 6) 0 [],.st 7 D9 z.2,(agC (lk 7 fr) 9)]),(3,.tip 0 0),(4,.tip 0 0),(5,.tip 0 0),(6,.tip 0 0),(7,.tip (tpe 10 (List.length z.2)) (List.length z.2))])⟩
 let jl1:Jn 5 (Int×List Nod):=⟨fun fr H z=>([(0,.ptr 0 0),(2,.ptr 1 0),(3,.ptr 2 0)],[(0,.row [.sl A8 d9,.i z.1,.i j4]),(1,.row [.i 0,.str [],.i 0,.i 0,.str [],.i 0,.slice (.tag 3) 0 [],.slice (.tag 4) 0 [],.slice (.tag 5) 0 [],.i 0]),(2,.row [.i 5,(lk 11 fr),.i 0,.i 0,.str [],.i 0,.slice .sealed 0 [],.slice (.tag 6) 0 [],.st 7 D9 z.2,(agC (lk 7 fr) 9)]),(3,.tip 0 0),(4,.tip 0 0),(5,.tip 0 0),(6,.tip 0 0),(7,.tip (tpe 10 (List.length z.2)) (List.length z.2))])⟩
 let jn2:Jn 17 (Int×List Nod):=⟨fun fr H z=>([(0,.ptr 0 0),(2,.ptr 1 0),(3,.ptr 2 0)],[(0,.row [.sl A8 d9,.i z.1,.i j4]),(1,oH H 1),(2,.row [.i 5,(cH H 2 1),.i 0,.i 0,.str [],.i 0,.slice .sealed 0 [],.slice (.tag 6) 0 [],.st 7 D9 z.2,(cH H 2 9)]),(3,.tip 0 0),(4,.tip 0 0),(5,.tip 0 0),(6,.tip 0 0),(7,.tip (tpe 10 (List.length z.2)) (List.length z.2))])⟩
 let jl2:Jn 12 (Int×List Nod):=⟨fun fr H z=>([(0,.ptr 0 0),(2,.ptr 1 0),(3,.ptr 2 0)],[(0,.row [.sl A8 d9,.i z.1,.i j4]),(1,oH H 1),(2,.row [.i 5,(cH H 2 1),.i 0,.i 0,.str [],.i 0,.slice .sealed 0 [],.slice (.tag 6) 0 [],.st 7 D9 z.2,(cH H 2 9)]),(3,.tip 0 0),(4,.tip 0 0),(5,.tip 0 0),(6,.tip 0 0),(7,.tip (tpe 10 (List.length z.2)) (List.length z.2))])⟩
 exact blk⟩
abbrev b2F (d9:List Tok)(at2 j4:Int)(p:Option (Rs (Nod×Int) (Int×Int))):Prop:=OkF env p 152 [.ptr 0 0] (hP A8 d9 at2 j4) (a6F d9 at2 j4)
instance c2N {n:Nat}{d9:List Tok}{at2 j4:Int}:b2F d9 at2 j4 (a0S n d9 at2 j4):=⟨fun{r} h=>by
 unfold a0S at h;refine D5 rfl Tryz.func152 rfl rfl ?_;let kr:=fun r:Rs (Nod×Int) (Int×Int)=>a2e env 152 1 Tryz.f152.results.toList (a6F d9 at2 j4 r);let jn1:Jn 8 (Int×Int×Str×List Nod):=⟨fun fr H z=>([(2,.ptr 1 0),(3,.ptr 2 0)],[(0,.row [.sl A8 d9,.i z.1,.i j4]),(1,.row [.i 0,.str [],.i 0,.i 0,.str [],.i 0,.slice (.tag 3) 0 [],.slice (.tag 4) 0 [],.slice (.tag 5) 0 [],.i 0]),(2,.row [.i z.2.1,.str z.2.2.1,.i 0,.i 0,.str [],.i 0,.slice .sealed 0 [],.slice (.tag 6) 0 [],.st 7 D9 z.2.2.2,(agC (lk 6 fr) 9)]),(3,.tip 0 0),(4,.tip 0 0),(5,.tip 0 0),(6,.tip 0 0),(7,.tip (tpe 10 (List.length z.2.2.2)) (List.length z.2.2.2))])⟩
 let jl1:Jn 3 (Int×Int×Str×List Nod):=⟨fun fr H z=>([(0,.ptr 0 0),(2,.ptr 1 0),(3,.ptr 2 0)],[(0,.row [.sl A8 d9,.i z.1,.i j4]),(1,.row [.i 0,.str [],.i 0,.i 0,.str [],.i 0,.slice (.tag 3) 0 [],.slice (.tag 4) 0 [],.slice (.tag 5) 0 [],.i 0]),(2,.row [.i z.2.1,.str z.2.2.1,.i 0,.i 0,.str [],.i 0,.slice .sealed 0 [],.slice (.tag 6) 0 [],.st 7 D9 z.2.2.2,(agC (lk 6 fr) 9)]),(3,.tip 0 0),(4,.tip 0 0),(5,.tip 0 0),(6,.tip 0 0),(7,.tip (tpe 10 (List.length z.2.2.2)) (List.length z.2.2.2))])⟩
 exact blk⟩
abbrev b05 (d9:List Tok)(at2 j4:Int)(p:Option (Rs Int Int)):Prop:=OkF env p 149 [.ptr 0 0] (hP A8 d9 at2 j4) (a9M d9 at2 j4)
instance c0J {d9:List Tok}{at2 j4:Int}:b05 d9 at2 j4 (a0n d9 at2 j4):=⟨fun{r} h=>by
 unfold a0n at h;refine D5 rfl Tryz.func149 rfl rfl ?_;exact blk⟩
abbrev b7G (p:Option (Unit)):Prop:=OkF env p 67 [] [] (b5o)
instance parse_levels_I:b7G (a5c):=⟨fun{r} h=>by
 unfold a5c at h;refine D5 rfl Tryz.func67 rfl rfl ?_;exact blk⟩
abbrev a8p (s1:List Str)(v2:Str)(p:Option (Int)):Prop:=OkF env p 99 [.sl clS s1,.str v2] [] (a4b s1 v2)
instance b6x {n:Nat}{s1:List Str}{v2:Str}:a8p s1 v2 (a05 n s1 v2):=⟨fun{r} h=>by
 unfold a05 at h;refine D5 rfl Tryz.func99 rfl rfl ?_;let kr:=fun r:Int=>a2e env 99 0 Tryz.f99.results.toList (a4b s1 v2 r);let jn1:Jn 8 (Unit):=⟨fun fr H z=>([],[])⟩
 let jl1:Jn 2 (Int):=⟨fun fr H z=>([(0,.sl clS s1),(1,.str v2),(7,.i (List.length s1:Int)),(8,.i z)],[])⟩
 exact blk⟩
abbrev a7g (s1:List Str)(v2:Str)(p:Option (Bool)):Prop:=OkF env p 53 [.sl clS s1,.str v2] [] (a6J s1 v2)
instance b5w {n:Nat}{s1:List Str}{v2:Str}:a7g s1 v2 (J4 n s1 v2):=⟨fun{r} h=>by
 unfold J4 at h;refine D5 rfl Tryz.func53 rfl rfl ?_;exact blk⟩
abbrev a2A (d9:List Tok)(at2 j4:Int)(p:Option (Rs (Nod×Int) (Int×Int))):Prop:=OkF env p 173 [.ptr 0 0] (hP A8 d9 at2 j4) (a5v d9 at2 j4)
class A7.Ok (Φ:A7):Prop where
 I7:∀{d9:List Tok} {at2 j4:Int},a2A d9 at2 j4 (Φ.I7 d9 at2 j4)
instance {Φ:A7} [h:A7.Ok Φ] {d9:List Tok}{at2 j4:Int}:a2A d9 at2 j4 (Φ.I7 d9 at2 j4):=h.I7
theorem a9N (n:Nat){Φ:A7} [hΦ:A7.Ok Φ]:a2A d9 at2 j4 (F5 n Φ d9 at2 j4):=⟨fun{r} h=>by
 unfold F5 at h;refine D5 rfl Tryz.func173 rfl rfl ?_;let kr:=fun r:Rs (Nod×Int) (Int×Int)=>a2e env 173 1 Tryz.f173.results.toList (a5v d9 at2 j4 r);let jn1:Jn 25 (Int×Int×Str×Int×List Nod):=⟨fun fr H z=>([(2,.ptr 1 0),(3,.ptr 2 0)],[(0,.row [.sl A8 d9,.i z.1,.i j4]),(1,.row [.i 0,.str [],.i 0,.i 0,.str [],.i 0,.slice (.tag 3) 0 [],.slice (.tag 4) 0 [],.slice (.tag 5) 0 [],.i 0]),(2,.row [.i z.2.1,.str z.2.2.1,.i z.2.2.2.1,.i 0,.str [],.i 0,.slice .sealed 0 [],.slice (.tag 6) 0 [],.st 7 D9 z.2.2.2.2,(agC (lk 5 fr) 9)]),(3,.tip 0 0),(4,.tip 0 0),(5,.tip 0 0),(6,.tip 0 0),(7,.tip (tpe 10 (List.length z.2.2.2.2)) (List.length z.2.2.2.2))])⟩
 let jn2:Jn 9 (Int×List Nod):=⟨fun fr H z=>([(0,.ptr 0 0),(2,.ptr 1 0),(3,.ptr 2 0)],[(0,.row [.sl A8 d9,.i z.1,.i j4]),(1,.row [.i 0,.str [],.i 0,.i 0,.str [],.i 0,.slice (.tag 3) 0 [],.slice (.tag 4) 0 [],.slice (.tag 5) 0 [],.i 0]),(2,.row [.i 45,(lk 9 fr),.i 0,.i 0,.str [],.i 0,.slice .sealed 0 [],.slice (.tag 6) 0 [],.st 7 D9 z.2,(agC (lk 5 fr) 9)]),(3,.tip 0 0),(4,.tip 0 0),(5,.tip 0 0),(6,.tip 0 0),(7,.tip (tpe 10 (List.length z.2)) (List.length z.2))])⟩
 let jl1:Jn 6 (Int×List Nod):=⟨fun fr H z=>([(0,.ptr 0 0),(2,.ptr 1 0),(3,.ptr 2 0)],[(0,.row [.sl A8 d9,.i z.1,.i j4]),(1,.row [.i 0,.str [],.i 0,.i 0,.str [],.i 0,.slice (.tag 3) 0 [],.slice (.tag 4) 0 [],.slice (.tag 5) 0 [],.i 0]),(2,.row [.i 45,(lk 9 fr),.i 0,.i 0,.str [],.i 0,.slice .sealed 0 [],.slice (.tag 6) 0 [],.st 7 D9 z.2,(agC (lk 5 fr) 9)]),(3,.tip 0 0),(4,.tip 0 0),(5,.tip 0 0),(6,.tip 0 0),(7,.tip (tpe 10 (List.length z.2)) (List.length z.2))])⟩
 let ls:Nat->List Nat:=fun n=>cond (Nat.beq n 7) [2] (cond (Nat.beq n 5) [256] ([]));exact blk⟩
theorem A7.ok:∀n,A7.Ok (A7.fs n)
 | 0=>⟨⟨fun h=>by cases h⟩⟩
 | n+1=>have:=A7.ok n;⟨a9N n⟩
instance c0K {n:Nat}{d9:List Tok}{at2 j4:Int}:a2A d9 at2 j4 (I7 n d9 at2 j4):=(A7.ok n).I7
abbrev b8C (e1:Nod)(p:Option (Bool)):Prop:=OkF env p 161 [.agg (c0 e1.op e1.s e1.n e1.t.kind e1.t.name e1.t.n (.sl D8 e1.t.args) (.sl D8 e1.ts) (.sl D9 e1.l) e1.at_)] [] (b1u e1)
instance parse_place_I {n:Nat}{e1:Nod}:b8C e1 (a4Q n e1):=⟨fun{r} h=>by
 unfold a4Q at h;obtain⟨e1_0,e1_1,e1_2,⟨e1_3,e1_4,e1_5,e1_6⟩,e1_7,e1_8,e1_9⟩:=e1;refine D5 rfl Tryz.func161 rfl rfl ?_;let kr:=fun r:Bool=>a2e env 161 0 Tryz.f161.results.toList (b1u (Nod.mk e1_0 e1_1 e1_2 (Typ.mk e1_3 e1_4 e1_5 e1_6) e1_7 e1_8 e1_9) r);let jn1:Jn 4 (Nod):=⟨fun fr H z=>([(1,.ptr 0 0)],[(0,.row (c0 z.op z.s z.n z.t.kind z.t.name z.t.n (.sl D8 z.t.args) (.sl D8 z.ts) (.sl D9 z.l) z.at_))])⟩
 let jl1:Jn 1 (Nod):=⟨fun fr H z=>([(1,.ptr 0 0)],[(0,.row (c0 z.op z.s z.n z.t.kind z.t.name z.t.n (.sl D8 z.t.args) (.sl D8 z.ts) (.sl D9 z.l) z.at_))])⟩
 exact blk⟩
end Go.Proofs.YtjhfloacokgdiaaGreatDoor
