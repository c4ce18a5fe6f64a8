/- Texts of ParseRecovers, joined. -/
import Derived.Test.YtjhfloacokgdiaaGreatDoorParseRecoversJ15
set_option maxRecDepth 100000
set_option maxHeartbeats 20000000
set_option linter.all false
namespace Go.Proofs.YtjhfloacokgdiaaGreatDoor
open Go Go.Vm
variable {at2 j4:Int} {d9:List Tok} {Φ:j3}
attribute [local irreducible] Go.Vm.Ev Go.Vm.Os Go.Vm.OsP Go.Vm.Lp Go.Vm.E8 Go.Vm.J5 Go.Vm.J7 Go.Vm.E
abbrev a3n (d9:List Tok)(at2 j4:Int)(p:Option (Rs (Nod×Int) (o6×Int))):Prop:=OkF env p 95 [.ptr 0 0] (hP A8 d9 at2 j4) (b0Y d9 at2 j4)
abbrev a1W (d9:List Tok)(at2 j4:Int)(p:Option (Rs (List Nod×Int) (o6×Int))):Prop:=OkF env p 132 [.ptr 0 0] (hP A8 d9 at2 j4) (a4A d9 at2 j4)
abbrev a2c (d9:List Tok)(at2 j4:Int)(p:Option (Rs (Nod×Int) (o6×Int))):Prop:=OkF env p 147 [.ptr 0 0] (hP A8 d9 at2 j4) (a4P d9 at2 j4)
abbrev a3p (d9:List Tok)(at2 j4:Int)(p:Option (Rs (Nod×Int) (o6×Int))):Prop:=OkF env p 157 [.ptr 0 0] (hP A8 d9 at2 j4) (a6D d9 at2 j4)
abbrev a3H (d9:List Tok)(at2 j4:Int)(p:Option (Rs (Nod×Int) (o6×Int))):Prop:=OkF env p 35 [.ptr 0 0] (hP A8 d9 at2 j4) (b1C d9 at2 j4)
abbrev a3r (d9:List Tok)(at2 j4:Int)(p:Option (Rs (Nod×Int) (o6×Int))):Prop:=OkF env p 66 [.ptr 0 0] (hP A8 d9 at2 j4) (a6G d9 at2 j4)
abbrev a2B (d9:List Tok)(at2 j4:Int)(p:Option (Rs (Nod×Int) (o6×Int))):Prop:=OkF env p 112 [.ptr 0 0] (hP A8 d9 at2 j4) (a5w d9 at2 j4)
abbrev a3G (d9:List Tok)(at2 j4:Int)(p:Option (Rs (Nod×Int) (o6×Int))):Prop:=OkF env p 139 [.ptr 0 0] (hP A8 d9 at2 j4) (a6Y d9 at2 j4)
abbrev a3F (d9:List Tok)(at2 j4:Int)(p:Option (Rs (List Nod×Int) (o6×Int))):Prop:=OkF env p 140 [.ptr 0 0] (hP A8 d9 at2 j4) (a6X d9 at2 j4)
abbrev a2W (d9:List Tok)(at2 j4:Int)(p:Option (Rs (Nod×Int) (o6×Int))):Prop:=OkF env p 150 [.ptr 0 0] (hP A8 d9 at2 j4) (b0m d9 at2 j4)
abbrev a2z (d9:List Tok)(at2 j4:Int)(p:Option (Rs (Nod×Int) (o6×Int))):Prop:=OkF env p 151 [.ptr 0 0] (hP A8 d9 at2 j4) (a9K d9 at2 j4)
abbrev a3o (a1F:Nod)(a0y:List G6)(N9:List Tok)(at4 a2x:Int)(p:Option (Rs (Nod×Int) (o6×Int))):Prop:=OkF env p 68 [.ptr 0 0,.agg (c0 a1F.op a1F.s a1F.n a1F.t.kind a1F.t.name a1F.t.n (.sl D8 a1F.t.args) (.sl D8 a1F.ts) (.sl D9 a1F.l) a1F.at_),.sl a1E a0y] (hP A8 N9 at4 a2x) (a6C a1F a0y N9 at4 a2x)
abbrev a1K (d9:List Tok)(at2 j4:Int)(p:Option (Rs (Nod×Int) (o6×Int))):Prop:=OkF env p 158 [.ptr 0 0] (hP A8 d9 at2 j4) (a4p d9 at2 j4)
abbrev a3q (d9:List Tok)(at2 j4:Int)(p:Option (Rs (Nod×Int) (o6×Int))):Prop:=OkF env p 159 [.ptr 0 0] (hP A8 d9 at2 j4) (a6E d9 at2 j4)
abbrev a4h (op1:Int)(o8:List Tok)(at3 F9:Int)(p:Option (Rs (List Nod×Int×Int) (o6×Int))):Prop:=OkF env p 160 [.ptr 0 0,.i op1] (hP A8 o8 at3 F9) (b2E op1 o8 at3 F9)
class j3.Ok (Φ:j3):Prop where
 G7:∀{d9:List Tok} {at2 j4:Int},a3n d9 at2 j4 (Φ.G7 d9 at2 j4)
 M4:∀{d9:List Tok} {at2 j4:Int},a1W d9 at2 j4 (Φ.M4 d9 at2 j4)
 O4:∀{d9:List Tok} {at2 j4:Int},a2c d9 at2 j4 (Φ.O4 d9 at2 j4)
 K6:∀{d9:List Tok} {at2 j4:Int},a3p d9 at2 j4 (Φ.K6 d9 at2 j4)
 G9:∀{d9:List Tok} {at2 j4:Int},a3H d9 at2 j4 (Φ.G9 d9 at2 j4)
 P8:∀{d9:List Tok} {at2 j4:Int},a3r d9 at2 j4 (Φ.P8 d9 at2 j4)
 Q9:∀{d9:List Tok} {at2 j4:Int},a2B d9 at2 j4 (Φ.Q9 d9 at2 j4)
 N7:∀{d9:List Tok} {at2 j4:Int},a3G d9 at2 j4 (Φ.N7 d9 at2 j4)
 O3:∀{d9:List Tok} {at2 j4:Int},a3F d9 at2 j4 (Φ.O3 d9 at2 j4)
 U6:∀{d9:List Tok} {at2 j4:Int},a2W d9 at2 j4 (Φ.U6 d9 at2 j4)
 Q8:∀{d9:List Tok} {at2 j4:Int},a2z d9 at2 j4 (Φ.Q8 d9 at2 j4)
 P6:∀{a1F:Nod} {a0y:List G6} {N9:List Tok} {at4 a2x:Int},a3o a1F a0y N9 at4 a2x (Φ.P6 a1F a0y N9 at4 a2x)
 J6:∀{d9:List Tok} {at2 j4:Int},a1K d9 at2 j4 (Φ.J6 d9 at2 j4)
 U2:∀{d9:List Tok} {at2 j4:Int},a3q d9 at2 j4 (Φ.U2 d9 at2 j4)
 V7:∀{op1:Int} {o8:List Tok} {at3 F9:Int},a4h op1 o8 at3 F9 (Φ.V7 op1 o8 at3 F9)
instance {Φ:j3} [h:j3.Ok Φ] {d9:List Tok}{at2 j4:Int}:a3n d9 at2 j4 (Φ.G7 d9 at2 j4):=h.G7
instance {Φ:j3} [h:j3.Ok Φ] {d9:List Tok}{at2 j4:Int}:a1W d9 at2 j4 (Φ.M4 d9 at2 j4):=h.M4
instance {Φ:j3} [h:j3.Ok Φ] {d9:List Tok}{at2 j4:Int}:a2c d9 at2 j4 (Φ.O4 d9 at2 j4):=h.O4
instance {Φ:j3} [h:j3.Ok Φ] {d9:List Tok}{at2 j4:Int}:a3p d9 at2 j4 (Φ.K6 d9 at2 j4):=h.K6
instance {Φ:j3} [h:j3.Ok Φ] {d9:List Tok}{at2 j4:Int}:a3H d9 at2 j4 (Φ.G9 d9 at2 j4):=h.G9
instance {Φ:j3} [h:j3.Ok Φ] {d9:List Tok}{at2 j4:Int}:a3r d9 at2 j4 (Φ.P8 d9 at2 j4):=h.P8
instance {Φ:j3} [h:j3.Ok Φ] {d9:List Tok}{at2 j4:Int}:a2B d9 at2 j4 (Φ.Q9 d9 at2 j4):=h.Q9
instance {Φ:j3} [h:j3.Ok Φ] {d9:List Tok}{at2 j4:Int}:a3G d9 at2 j4 (Φ.N7 d9 at2 j4):=h.N7
instance {Φ:j3} [h:j3.Ok Φ] {d9:List Tok}{at2 j4:Int}:a3F d9 at2 j4 (Φ.O3 d9 at2 j4):=h.O3
instance {Φ:j3} [h:j3.Ok Φ] {d9:List Tok}{at2 j4:Int}:a2W d9 at2 j4 (Φ.U6 d9 at2 j4):=h.U6
instance {Φ:j3} [h:j3.Ok Φ] {d9:List Tok}{at2 j4:Int}:a2z d9 at2 j4 (Φ.Q8 d9 at2 j4):=h.Q8
instance {Φ:j3} [h:j3.Ok Φ] {a1F:Nod}{a0y:List G6}{N9:List Tok}{at4 a2x:Int}:a3o a1F a0y N9 at4 a2x (Φ.P6 a1F a0y N9 at4 a2x):=h.P6
instance {Φ:j3} [h:j3.Ok Φ] {d9:List Tok}{at2 j4:Int}:a1K d9 at2 j4 (Φ.J6 d9 at2 j4):=h.J6
instance {Φ:j3} [h:j3.Ok Φ] {d9:List Tok}{at2 j4:Int}:a3q d9 at2 j4 (Φ.U2 d9 at2 j4):=h.U2
instance {Φ:j3} [h:j3.Ok Φ] {op1:Int}{o8:List Tok}{at3 F9:Int}:a4h op1 o8 at3 F9 (Φ.V7 op1 o8 at3 F9):=h.V7
theorem b0X (n:Nat) [hΦ:j3.Ok Φ]:a3n d9 at2 j4 (a1v n Φ d9 at2 j4):=⟨fun{r} h=>by
 unfold a1v at h;refine D5 rfl Tryz.func95 rfl rfl ?_;exact blk⟩
theorem a8m (n:Nat) [hΦ:j3.Ok Φ]:a1W d9 at2 j4 (a0q n Φ d9 at2 j4):=⟨fun{r} h=>by
 unfold a0q at h;refine D5 rfl Tryz.func132 rfl rfl ?_;let kr:=fun r:Rs (List Nod×Int) (o6×Int)=>a2e env 132 1 Tryz.f132.results.toList (a4A d9 at2 j4 r);let jn1:Jn 5 (List Nod×Int):=⟨fun fr H z=>([(3,.st 1 D9 z.1)],[(0,.row [.sl A8 d9,.i z.2,.i j4]),(1,.tip (tpe 10 (List.length z.1)) (List.length z.1))])⟩
 let jl1:Jn 2 (List Nod×Int):=⟨fun fr H z=>([(0,.ptr 0 0),(3,.st 1 D9 z.1)],[(0,.row [.sl A8 d9,.i z.2,.i j4]),(1,.tip (tpe 10 (List.length z.1)) (List.length z.1))])⟩
 exact blk⟩
theorem a8R (n:Nat) [hΦ:j3.Ok Φ]:a2c d9 at2 j4 (A9 n Φ d9 at2 j4):=⟨fun{r} h=>by
 unfold A9 at h;refine D5 rfl Tryz.func147 rfl rfl ?_;let kr:=fun r:Rs (Nod×Int) (o6×Int)=>a2e env 147 1 Tryz.f147.results.toList (a4P d9 at2 j4 r);let jn1:Jn 5 (Str):=⟨fun fr H z=>([(0,.ptr 0 0),(2,.ptr 1 0),(3,.str z)],[(0,oH H 0),(1,.row [.i 0,.str [],.i 0,.i 0,.str [],.i 0,.slice (.tag 2) 0 [],.slice (.tag 3) 0 [],.slice (.tag 4) 0 [],.i 0]),(2,.tip 0 0),(3,.tip 0 0),(4,.tip 0 0)])⟩
 let jn2:Jn 30008 (Bool):=⟨fun fr H z=>([(0,.ptr 0 0),(2,.ptr 1 0),(23,(lk 3 fr)),(24,.bool z)],[(0,oH H 0),(1,oH H 1),(2,.tip 0 0),(3,.tip 0 0),(4,.tip 0 0)])⟩
 let jn3:Jn 27 (Int×List Nod):=⟨fun fr H z=>([(2,.ptr 1 0),(5,.ptr 2 0)],[(0,.row [.sl A8 d9,.i z.1,.i j4]),(1,.row [.i 0,.str [],.i 0,.i 0,.str [],.i 0,.slice (.tag 3) 0 [],.slice (.tag 4) 0 [],.slice (.tag 5) 0 [],.i 0]),(2,.row [.i 28,.str [],.i 0,.i 0,.str [],.i 0,.slice .sealed 0 [],.slice (.tag 6) 0 [],.st 7 D9 z.2,(agC (lk 67 fr) 9)]),(3,.tip 0 0),(4,.tip 0 0),(5,.tip 0 0),(6,.tip 0 0),(7,.tip (tpe 10 (List.length z.2)) (List.length z.2))])⟩
 let ls:Nat->List Nat:=fun n=>cond (Nat.beq n 45) [640] (cond (Nat.beq n 37) [512] (cond (Nat.beq n 18) [320] ([])));exact blk⟩
theorem b06 (n:Nat) [hΦ:j3.Ok Φ]:a3p d9 at2 j4 (M5 n Φ d9 at2 j4):=⟨fun{r} h=>by
 unfold M5 at h;refine D5 rfl Tryz.func157 rfl rfl ?_;let kr:=fun r:Rs (Nod×Int) (o6×Int)=>a2e env 157 1 Tryz.f157.results.toList (a6D d9 at2 j4 r);let jn1:Jn 6 (Int×Int):=⟨fun fr H z=>([(0,.ptr 0 0),(2,.ptr 1 0),(3,.ptr 2 0)],[(0,.row [.sl A8 d9,.i z.1,.i j4]),(1,.row [.i 0,.str [],.i 0,.i 0,.str [],.i 0,.slice (.tag 3) 0 [],.slice (.tag 4) 0 [],.slice (.tag 5) 0 [],.i 0]),(2,.row [.i 21,.str [],.i z.2,.i 0,.str [],.i 0,.slice .sealed 0 [],.slice (.tag 6) 0 [],.slice (.tag 7) 0 [],(agC (lk 6 fr) 9)]),(3,.tip 0 0),(4,.tip 0 0),(5,.tip 0 0),(6,.tip 0 0),(7,.tip 0 0)])⟩
 let jn2:Jn 10 (Int×Int×Str×Int×List Typ):=⟨fun fr H z=>([(0,.ptr 0 0),(2,.ptr 1 0),(3,.ptr 2 0),(4,(lk 16 fr))],[(0,.row [.sl A8 d9,.i z.1,.i j4]),(1,oH H 1),(2,.row [.i 21,(lk 13 fr),(cH H 2 2),.i z.2.1,.str z.2.2.1,.i z.2.2.2.1,.sl D8 z.2.2.2.2,.slice (.tag 6) 0 [],.slice (.tag 7) 0 [],(cH H 2 9)]),(3,.tip 0 0),(4,.tip 0 0),(5,.tip 0 0),(6,.tip 0 0),(7,.tip 0 0)])⟩
 let jn3:Jn 30011 (Bool×Int):=⟨fun fr H z=>([(0,.ptr 0 0),(2,.ptr 1 0),(3,.ptr 2 0),(30,.bool z.1)],[(0,.row [.sl A8 d9,.i z.2,.i j4]),(1,oH H 1),(2,oH H 2),(3,.tip 0 0),(4,.tip 0 0),(5,.tip 0 0),(6,.tip 0 0),(7,.tip 0 0)])⟩
 exact blk⟩
theorem b1B (n:Nat) [hΦ:j3.Ok Φ]:a3H d9 at2 j4 (a0E n Φ d9 at2 j4):=⟨fun{r} h=>by
 unfold a0E at h;refine D5 rfl Tryz.func35 rfl rfl ?_;exact blk⟩
theorem b09 (n:Nat) [hΦ:j3.Ok Φ]:a3r d9 at2 j4 (a0p n Φ d9 at2 j4):=⟨fun{r} h=>by
 unfold a0p at h;refine D5 rfl Tryz.func66 rfl rfl ?_;let kr:=fun r:Rs (Nod×Int) (o6×Int)=>a2e env 66 1 Tryz.f66.results.toList (a6G d9 at2 j4 r);let jn1:Jn 7 (Int×Int):=⟨fun fr H z=>([(0,.ptr 0 0),(2,.ptr 1 0),(3,.ptr 2 0)],[(0,.row [.sl A8 d9,.i z.1,.i j4]),(1,.row [.i 0,.str [],.i 0,.i 0,.str [],.i 0,.slice (.tag 3) 0 [],.slice (.tag 4) 0 [],.slice (.tag 5) 0 [],.i 0]),(2,.row [.i z.2,.str [],.i 0,.i 0,.str [],.i 0,.slice .sealed 0 [],.slice (.tag 6) 0 [],.slice (.tag 7) 0 [],(agC (lk 5 fr) 9)]),(3,.tip 0 0),(4,.tip 0 0),(5,.tip 0 0),(6,.tip 0 0),(7,.tip 0 0)])⟩
 exact blk⟩
theorem a9O (n:Nat) [hΦ:j3.Ok Φ]:a2B d9 at2 j4 (Q7 n Φ d9 at2 j4):=⟨fun{r} h=>by
 unfold Q7 at h;refine D5 rfl Tryz.func112 rfl rfl ?_;let kr:=fun r:Rs (Nod×Int) (o6×Int)=>a2e env 112 1 Tryz.f112.results.toList (a5w d9 at2 j4 r);let jl1:Jn 4 (Bool×Int×Nod):=⟨fun fr H z=>([(0,.ptr 0 0),(2,.ptr 1 0),(3,.bool z.1),(4,.ptr 2 0)],[(0,.row [.sl A8 d9,.i z.2.1,.i j4]),(1,.row [.i 0,.str [],.i 0,.i 0,.str [],.i 0,.slice (.tag 3) 0 [],.slice (.tag 4) 0 [],.slice (.tag 5) 0 [],.i 0]),(2,.row (c0 z.2.2.op z.2.2.s z.2.2.n z.2.2.t.kind z.2.2.t.name z.2.2.t.n (.sl D8 z.2.2.t.args) (.sl D8 z.2.2.ts) (.sl D9 z.2.2.l) z.2.2.at_)),(3,.tip 0 0),(4,.tip 0 0),(5,.tip 0 0)])⟩
 let jn1:Jn 17 (Int×Int×Str×List Nod):=⟨fun fr H z=>([(0,.ptr 0 0),(2,.ptr 1 0),(4,.ptr 2 0)],[(0,.row [.sl A8 d9,.i z.1,.i j4]),(1,oH H 1),(2,.row [.i z.2.1,.str z.2.2.1,.i 0,.i 0,.str [],.i 0,.slice (.tag 6) 0 [],.slice (.tag 7) 0 [],.sl D9 z.2.2.2,(cH H 2 9)]),(3,.tip 0 0),(4,.tip 0 0),(5,.tip 0 0),(6,.tip 0 0),(7,.tip 0 0)])⟩
 let jn2:Jn 10 (Int×Int×List Nod):=⟨fun fr H z=>([(0,.ptr 0 0),(2,.ptr 1 0),(4,.ptr 2 0),(5,.ptr 3 0)],[(0,.row [.sl A8 d9,.i z.1,.i j4]),(1,.row [.i 0,.str [],.i 0,.i 0,.str [],.i 0,.slice (.tag 4) 0 [],.slice (.tag 5) 0 [],.slice (.tag 6) 0 [],.i 0]),(2,oH H 2),(3,.row [.i z.2.1,(lk 16 fr),.i 0,.i 0,.str [],.i 0,.slice (.tag 7) 0 [],.slice (.tag 8) 0 [],.st 9 D9 z.2.2,(lk 18 fr)]),(4,.tip 0 0),(5,.tip 0 0),(6,.tip 0 0),(7,.tip 0 0),(8,.tip 0 0),(9,.tip (tpe 10 (List.length z.2.2)) (List.length z.2.2))])⟩
 let ls:Nat->List Nat:=fun n=>cond (Nat.beq n 14) [448] (cond (Nat.beq n 12) [2,2] (cond (Nat.beq n 8) [384] (cond (Nat.beq n 5) [2,2] ([]))));exact blk⟩
theorem b1z (n:Nat) [hΦ:j3.Ok Φ]:a3G d9 at2 j4 (D7 n Φ d9 at2 j4):=⟨fun{r} h=>by
 unfold D7 at h;refine D5 rfl Tryz.func139 rfl rfl ?_;let kr:=fun r:Rs (Nod×Int) (o6×Int)=>a2e env 139 1 Tryz.f139.results.toList (a6Y d9 at2 j4 r);let jn1:Jn 37 (Int×Int×Str×Int×Int×Str×Int×List Typ×List Nod):=⟨fun fr H z=>([(2,.ptr 1 0),(3,.ptr 2 0)],[(0,.row [.sl A8 d9,.i z.1,.i j4]),(1,.row [.i 0,.str [],.i 0,.i 0,.str [],.i 0,.slice (.tag 3) 0 [],.slice (.tag 4) 0 [],.slice (.tag 5) 0 [],.i 0]),(2,.row [.i z.2.1,.str z.2.2.1,.i z.2.2.2.1,.i z.2.2.2.2.1,.str z.2.2.2.2.2.1,.i z.2.2.2.2.2.2.1,.sl D8 z.2.2.2.2.2.2.2.1,.slice (.tag 6) 0 [],.sl D9 z.2.2.2.2.2.2.2.2,(agC (lk 6 fr) 9)]),(3,.tip 0 0),(4,.tip 0 0),(5,.tip 0 0),(6,.tip 0 0)])⟩
 let jn2:Jn 30 (Int×List Nod):=⟨fun fr H z=>([(0,.ptr 0 0),(2,.ptr 1 0),(3,.ptr 2 0)],[(0,.row [.sl A8 d9,.i z.1,.i j4]),(1,.row [.i 0,.str [],.i 0,.i 0,.str [],.i 0,.slice (.tag 3) 0 [],.slice (.tag 4) 0 [],.slice (.tag 5) 0 [],.i 0]),(2,.row [.i 67,.str [],.i 0,.i 0,.str [],.i 0,.slice .sealed 0 [],.slice (.tag 6) 0 [],.st 7 D9 z.2,(agC (lk 6 fr) 9)]),(3,.tip 0 0),(4,.tip 0 0),(5,.tip 0 0),(6,.tip 0 0),(7,.tip (tpe 10 (List.length z.2)) (List.length z.2))])⟩
 let jl1:Jn 27 (Int×List Nod):=⟨fun fr H z=>([(0,.ptr 0 0),(2,.ptr 1 0),(3,.ptr 2 0)],[(0,.row [.sl A8 d9,.i z.1,.i j4]),(1,.row [.i 0,.str [],.i 0,.i 0,.str [],.i 0,.slice (.tag 3) 0 [],.slice (.tag 4) 0 [],.slice (.tag 5) 0 [],.i 0]),(2,.row [.i 67,.str [],.i 0,.i 0,.str [],.i 0,.slice .sealed 0 [],.slice (.tag 6) 0 [],.st 7 D9 z.2,(agC (lk 6 fr) 9)]),(3,.tip 0 0),(4,.tip 0 0),(5,.tip 0 0),(6,.tip 0 0),(7,.tip (tpe 10 (List.length z.2)) (List.length z.2))])⟩
 let ls:Nat->List Nat:=fun n=>cond (Nat.beq n 28) [2] (cond (Nat.beq n 26) [256] ([]));exact blk⟩
theorem b1y (n:Nat) [hΦ:j3.Ok Φ]:a3F d9 at2 j4 (a1S n Φ d9 at2 j4):=⟨fun{r} h=>by
 unfold a1S at h;refine D5 rfl Tryz.func140 rfl rfl ?_;let kr:=fun r:Rs (List Nod×Int) (o6×Int)=>a2e env 140 1 Tryz.f140.results.toList (a6X d9 at2 j4 r);let jn1:Jn 12 (List Nod×Int):=⟨fun fr H z=>([(0,.ptr 0 0),(3,.st 1 D9 z.1)],[(0,.row [.sl A8 d9,.i z.2,.i j4]),(1,.tip (tpe 10 (List.length z.1)) (List.length z.1))])⟩
 let jl1:Jn 5 (List Nod×Int):=⟨fun fr H z=>([(0,.ptr 0 0),(3,.st 1 D9 z.1)],[(0,.row [.sl A8 d9,.i z.2,.i j4]),(1,.tip (tpe 10 (List.length z.1)) (List.length z.1))])⟩
 let jn2:Jn 11 (List Nod×Int):=⟨fun fr H z=>([(0,.ptr 0 0),(3,.st 1 D9 z.1)],[(0,.row [.sl A8 d9,.i z.2,.i j4]),(1,.tip (tpe 10 (List.length z.1)) (List.length z.1))])⟩
 exact blk⟩
theorem b0l (n:Nat) [hΦ:j3.Ok Φ]:a2W d9 at2 j4 (a1e n Φ d9 at2 j4):=⟨fun{r} h=>by
 unfold a1e at h;refine D5 rfl Tryz.func150 rfl rfl ?_;let jl1:Jn 5 (Int×List Nod×Str×Int):=⟨fun fr H z=>([(0,.ptr 0 0),(2,.ptr 1 0),(3,.ptr 2 0),(4,.ptr 3 0)],[(0,.row [.sl A8 d9,.i z.1,.i j4]),(1,.row [.i 0,.str [],.i 0,.i 0,.str [],.i 0,.slice (.tag 4) 0 [],.slice (.tag 5) 0 [],.slice (.tag 6) 0 [],.i 0]),(2,.row [.i 53,.str [],.i 0,.i 0,.str [],.i 0,.slice .sealed 0 [],.slice (.tag 7) 0 [],.st 8 D9 z.2.1,(agC (lk 6 fr) 9)]),(3,.row [.i 52,.str z.2.2.1,.i 0,.i 0,.str [],.i 0,.slice .sealed 0 [],.slice (.tag 9) 0 [],.slice (.tag 10) 0 [],.i z.2.2.2]),(4,.tip 0 0),(5,.tip 0 0),(6,.tip 0 0),(7,.tip 0 0),(8,.tip (tpe 10 (List.length z.2.1)) (List.length z.2.1)),(9,.tip 0 0),(10,.tip 0 0)])⟩
 let ls:Nat->List Nat:=fun n=>cond (Nat.beq n 5) [2] ([]);exact blk⟩
theorem a9J (n:Nat) [hΦ:j3.Ok Φ]:a2z d9 at2 j4 (a0Y n Φ d9 at2 j4):=⟨fun{r} h=>by
 unfold a0Y at h;refine D5 rfl Tryz.func151 rfl rfl ?_;exact blk⟩
theorem b03 (n:Nat) [hΦ:j3.Ok Φ] {a1F:Nod}{a0y:List G6}{N9:List Tok}{at4 a2x:Int}:a3o a1F a0y N9 at4 a2x (a0m n Φ a1F a0y N9 at4 a2x):=⟨fun{r} h=>by
 unfold a0m at h;obtain⟨first1_0,first1_1,first1_2,⟨first1_3,first1_4,first1_5,first1_6⟩,first1_7,first1_8,first1_9⟩:=a1F;refine D5 rfl Tryz.func68 rfl rfl ?_;let kr:=fun r:Rs (Nod×Int) (o6×Int)=>a2e env 68 1 Tryz.f68.results.toList (a6C (Nod.mk first1_0 first1_1 first1_2 (Typ.mk first1_3 first1_4 first1_5 first1_6) first1_7 first1_8 first1_9) a0y N9 at4 a2x r);let jn1:Jn 15 (Int×Nod):=⟨fun fr H z=>([(6,.ptr 1 0),(7,.ptr 2 0)],[(0,.row [.sl A8 N9,.i z.1,.i a2x]),(1,.row [.i 0,.str [],.i 0,.i 0,.str [],.i 0,.slice (.tag 3) 0 [],.slice (.tag 4) 0 [],.slice (.tag 5) 0 [],.i 0]),(2,.row (c0 z.2.op z.2.s z.2.n z.2.t.kind z.2.t.name z.2.t.n (.sl D8 z.2.t.args) (.sl D8 z.2.ts) (.sl D9 z.2.l) z.2.at_)),(3,.tip 0 0),(4,.tip 0 0),(5,.tip 0 0)])⟩
 let jl1:Jn 3 (Int×Int×Nod):=⟨fun fr H z=>([(0,.ptr 0 0),(2,.sl a1E a0y),(6,.ptr 1 0),(7,.ptr 2 0),(14,.i (List.length a0y:Int)),(15,.i z.1)],[(0,.row [.sl A8 N9,.i z.2.1,.i a2x]),(1,.row [.i 0,.str [],.i 0,.i 0,.str [],.i 0,.slice (.tag 3) 0 [],.slice (.tag 4) 0 [],.slice (.tag 5) 0 [],.i 0]),(2,.row (c0 z.2.2.op z.2.2.s z.2.2.n z.2.2.t.kind z.2.2.t.name z.2.2.t.n (.sl D8 z.2.2.t.args) (.sl D8 z.2.2.ts) (.sl D9 z.2.2.l) z.2.2.at_)),(3,.tip 0 0),(4,.tip 0 0),(5,.tip 0 0)])⟩
 let jn2:Jn 14 (Int×Int×Nod):=⟨fun fr H z=>([(0,.ptr 0 0),(2,.sl a1E a0y),(6,.ptr 1 0),(7,.ptr 2 0),(14,.i (List.length a0y:Int)),(15,.i z.1)],[(0,.row [.sl A8 N9,.i z.2.1,.i a2x]),(1,oH H 1),(2,.row (c0 z.2.2.op z.2.2.s z.2.2.n z.2.2.t.kind z.2.2.t.name z.2.2.t.n (.sl D8 z.2.2.t.args) (.sl D8 z.2.2.ts) (.sl D9 z.2.2.l) z.2.2.at_)),(3,.tip 0 0),(4,.tip 0 0),(5,.tip 0 0)])⟩
 let jl2:Jn 6 (Int×Int×Int×Nod):=⟨fun fr H z=>([(0,.ptr 0 0),(2,.sl a1E a0y),(6,.ptr 1 0),(7,.ptr 2 0),(9,.i z.1),(14,.i (List.length a0y:Int)),(15,.i z.2.1)],[(0,.row [.sl A8 N9,.i z.2.2.1,.i a2x]),(1,oH H 1),(2,.row (c0 z.2.2.2.op z.2.2.2.s z.2.2.2.n z.2.2.2.t.kind z.2.2.2.t.name z.2.2.2.t.n (.sl D8 z.2.2.2.t.args) (.sl D8 z.2.2.2.ts) (.sl D9 z.2.2.2.l) z.2.2.2.at_)),(3,.tip 0 0),(4,.tip 0 0),(5,.tip 0 0)])⟩
 let jn3:Jn 90065 (Bool):=⟨fun fr H z=>([(0,.ptr 0 0),(2,.sl a1E a0y),(6,.ptr 1 0),(7,.ptr 2 0),(9,(lk 9 fr)),(14,.i (List.length a0y:Int)),(15,(lk 15 fr)),(65,.bool z)],[(0,oH H 0),(1,oH H 1),(2,oH H 2),(3,.tip 0 0),(4,.tip 0 0),(5,.tip 0 0)])⟩
 let ls:Nat->List Nat:=fun n=>cond (Nat.beq n 9) [] (cond (Nat.beq n 7) [2,0,0] ([]));exact blk⟩
theorem a7P (n:Nat) [hΦ:j3.Ok Φ]:a1K d9 at2 j4 (M7 n Φ d9 at2 j4):=⟨fun{r} h=>by
 unfold M7 at h;refine D5 rfl Tryz.func158 rfl rfl ?_;let kr:=fun r:Rs (Nod×Int) (o6×Int)=>a2e env 158 1 Tryz.f158.results.toList (a4p d9 at2 j4 r);let jn1:Jn 12 (Int×List Nod):=⟨fun fr H z=>([(2,.ptr 1 0),(3,.ptr 2 0)],[(0,.row [.sl A8 d9,.i z.1,.i j4]),(1,.row [.i 0,.str [],.i 0,.i 0,.str [],.i 0,.slice (.tag 3) 0 [],.slice (.tag 4) 0 [],.slice (.tag 5) 0 [],.i 0]),(2,.row [.i 24,.str [],.i 0,.i 0,.str [],.i 0,.slice .sealed 0 [],.slice (.tag 6) 0 [],.st 7 D9 z.2,(agC (lk 6 fr) 9)]),(3,.tip 0 0),(4,.tip 0 0),(5,.tip 0 0),(6,.tip 0 0),(7,.tip (tpe 10 (List.length z.2)) (List.length z.2))])⟩
 let jn2:Jn 11 (Int×Nod):=⟨fun fr H z=>([(2,.ptr 1 0),(3,.ptr 2 0),(4,.ptr 3 0)],[(0,.row [.sl A8 d9,.i z.1,.i j4]),(1,.row [.i 0,.str [],.i 0,.i 0,.str [],.i 0,.slice (.tag 4) 0 [],.slice (.tag 5) 0 [],.slice (.tag 6) 0 [],.i 0]),(2,.row [.i 24,.str [],.i 0,.i 0,.str [],.i 0,.slice .sealed 0 [],.slice (.tag 7) 0 [],ow (.tag 8) (lk 18 fr),(agC (lk 6 fr) 9)]),(3,.row (c0 z.2.op z.2.s z.2.n z.2.t.kind z.2.t.name z.2.t.n (.sl D8 z.2.t.args) (.sl D8 z.2.ts) (.sl D9 z.2.l) z.2.at_)),(4,.tip 0 0),(5,.tip 0 0),(6,.tip 0 0),(7,.tip 0 0),(8,oH H 1216)])⟩
 let ls:Nat->List Nat:=fun n=>cond (Nat.beq n 4) [256] ([]);exact blk⟩
theorem b07 (n:Nat) [hΦ:j3.Ok Φ]:a3q d9 at2 j4 (a1w n Φ d9 at2 j4):=⟨fun{r} h=>by
 unfold a1w at h;refine D5 rfl Tryz.func159 rfl rfl ?_;let kr:=fun r:Rs (Nod×Int) (o6×Int)=>a2e env 159 1 Tryz.f159.results.toList (a6E d9 at2 j4 r);let jn1:Jn 12 (Int×List Nod):=⟨fun fr H z=>([(0,.ptr 0 0),(2,.ptr 1 0),(3,.ptr 2 0)],[(0,.row [.sl A8 d9,.i z.1,.i j4]),(1,.row [.i 0,.str [],.i 0,.i 0,.str [],.i 0,.slice (.tag 3) 0 [],.slice (.tag 4) 0 [],.slice (.tag 5) 0 [],.i 0]),(2,.row [.i 26,.str [],.i 0,.i 0,.str [],.i 0,.slice .sealed 0 [],.slice (.tag 6) 0 [],.st 7 D9 z.2,(agC (lk 8 fr) 9)]),(3,.tip 0 0),(4,.tip 0 0),(5,.tip 0 0),(6,.tip 0 0),(7,.tip (tpe 10 (List.length z.2)) (List.length z.2))])⟩
 let jl1:Jn 5 (Int×List Nod):=⟨fun fr H z=>([(0,.ptr 0 0),(2,.ptr 1 0),(3,.ptr 2 0)],[(0,.row [.sl A8 d9,.i z.1,.i j4]),(1,.row [.i 0,.str [],.i 0,.i 0,.str [],.i 0,.slice (.tag 3) 0 [],.slice (.tag 4) 0 [],.slice (.tag 5) 0 [],.i 0]),(2,.row [.i 26,.str [],.i 0,.i 0,.str [],.i 0,.slice .sealed 0 [],.slice (.tag 6) 0 [],.st 7 D9 z.2,(agC (lk 8 fr) 9)]),(3,.tip 0 0),(4,.tip 0 0),(5,.tip 0 0),(6,.tip 0 0),(7,.tip (tpe 10 (List.length z.2)) (List.length z.2))])⟩
 let jn2:Jn 17 (Int×List Nod):=⟨fun fr H z=>([(0,.ptr 0 0),(2,.ptr 1 0),(3,.ptr 2 0)],[(0,.row [.sl A8 d9,.i z.1,.i j4]),(1,oH H 1),(2,.row [.i 26,.str [],.i 0,.i 0,.str [],.i 0,.slice .sealed 0 [],.slice (.tag 6) 0 [],.st 7 D9 z.2,(cH H 2 9)]),(3,.tip 0 0),(4,.tip 0 0),(5,.tip 0 0),(6,.tip 0 0),(7,.tip (tpe 10 (List.length z.2)) (List.length z.2))])⟩
 let ls:Nat->List Nat:=fun n=>cond (Nat.beq n 14) [384] (cond (Nat.beq n 9) [320] ([]));exact blk⟩
theorem b2D (n:Nat) [hΦ:j3.Ok Φ] {op1:Int}{o8:List Tok}{at3 F9:Int}:a4h op1 o8 at3 F9 (a19 n Φ op1 o8 at3 F9):=⟨fun{r} h=>by
 unfold a19 at h;refine D5 rfl Tryz.func160 rfl rfl ?_;exact blk⟩
theorem j3.ok:∀n,j3.Ok (j3.fs n)
 | 0=>⟨⟨fun h=>by cases h⟩,⟨fun h=>by cases h⟩,⟨fun h=>by cases h⟩,⟨fun h=>by cases h⟩,⟨fun h=>by cases h⟩,⟨fun h=>by cases h⟩,⟨fun h=>by cases h⟩,⟨fun h=>by cases h⟩,⟨fun h=>by cases h⟩,⟨fun h=>by cases h⟩,⟨fun h=>by cases h⟩,⟨fun h=>by cases h⟩,⟨fun h=>by cases h⟩,⟨fun h=>by cases h⟩,⟨fun h=>by cases h⟩⟩
 | n+1=>have:=j3.ok n;⟨b0X n,a8m n,a8R n,b06 n,b1B n,b09 n,a9O n,b1z n,b1y n,b0l n,a9J n,b03 n,a7P n,b07 n,b2D n⟩
instance c2I {n:Nat}{d9:List Tok}{at2 j4:Int}:a3n d9 at2 j4 (G7 n d9 at2 j4):=(j3.ok n).G7
instance b8q {n:Nat}{d9:List Tok}{at2 j4:Int}:a1W d9 at2 j4 (M4 n d9 at2 j4):=(j3.ok n).M4
instance b8B {n:Nat}{d9:List Tok}{at2 j4:Int}:a2c d9 at2 j4 (O4 n d9 at2 j4):=(j3.ok n).O4
instance c2L {n:Nat}{d9:List Tok}{at2 j4:Int}:a3p d9 at2 j4 (K6 n d9 at2 j4):=(j3.ok n).K6
instance c3l {n:Nat}{d9:List Tok}{at2 j4:Int}:a3H d9 at2 j4 (G9 n d9 at2 j4):=(j3.ok n).G9
instance c2P {n:Nat}{d9:List Tok}{at2 j4:Int}:a3r d9 at2 j4 (P8 n d9 at2 j4):=(j3.ok n).P8
instance c0L {n:Nat}{d9:List Tok}{at2 j4:Int}:a2B d9 at2 j4 (Q9 n d9 at2 j4):=(j3.ok n).Q9
instance c3k {n:Nat}{d9:List Tok}{at2 j4:Int}:a3G d9 at2 j4 (N7 n d9 at2 j4):=(j3.ok n).N7
instance c3j {n:Nat}{d9:List Tok}{at2 j4:Int}:a3F d9 at2 j4 (O3 n d9 at2 j4):=(j3.ok n).O3
instance c1i {n:Nat}{d9:List Tok}{at2 j4:Int}:a2W d9 at2 j4 (U6 n d9 at2 j4):=(j3.ok n).U6
instance c0H {n:Nat}{d9:List Tok}{at2 j4:Int}:a2z d9 at2 j4 (Q8 n d9 at2 j4):=(j3.ok n).Q8
instance c2K {n:Nat}{a1F:Nod}{a0y:List G6}{N9:List Tok}{at4 a2x:Int}:a3o a1F a0y N9 at4 a2x (P6 n a1F a0y N9 at4 a2x):=(j3.ok n).P6
instance b7H {n:Nat}{d9:List Tok}{at2 j4:Int}:a1K d9 at2 j4 (J6 n d9 at2 j4):=(j3.ok n).J6
instance c2M {n:Nat}{d9:List Tok}{at2 j4:Int}:a3q d9 at2 j4 (U2 n d9 at2 j4):=(j3.ok n).U2
instance c4C {n:Nat}{op1:Int}{o8:List Tok}{at3 F9:Int}:a4h op1 o8 at3 F9 (V7 n op1 o8 at3 F9):=(j3.ok n).V7
abbrev b0j (d9:List Tok)(at2 j4:Int)(p:Option (Rs (Nod×Int) (o6×Int))):Prop:=OkF env p 45 [.ptr 0 0] (hP A8 d9 at2 j4) (a9h d9 at2 j4)
instance b9q {n:Nat}{d9:List Tok}{at2 j4:Int}:b0j d9 at2 j4 (Z8 n d9 at2 j4):=⟨fun{r} h=>by
 unfold Z8 at h;refine D5 rfl Tryz.func45 rfl rfl ?_;let ls:Nat->List Nat:=fun n=>cond (Nat.beq n 3) [256] ([]);exact blk⟩
abbrev b1D (d9:List Tok)(at2 j4:Int)(p:Option (Rs (Nod×Int) (o6×Int))):Prop:=OkF env p 44 [.ptr 0 0] (hP A8 d9 at2 j4) (a6a d9 at2 j4)
instance c1g {n:Nat}{d9:List Tok}{at2 j4:Int}:b1D d9 at2 j4 (a08 n d9 at2 j4):=⟨fun{r} h=>by
 unfold a08 at h;refine D5 rfl Tryz.func44 rfl rfl ?_;let kr:=fun r:Rs (Nod×Int) (o6×Int)=>a2e env 44 1 Tryz.f44.results.toList (a6a d9 at2 j4 r);let jn1:Jn 17 (Int×List Nod):=⟨fun fr H z=>([(0,.ptr 0 0),(2,.ptr 1 0),(3,.ptr 2 0)],[(0,.row [.sl A8 d9,.i z.1,.i j4]),(1,.row [.i 0,.str [],.i 0,.i 0,.str [],.i 0,.slice (.tag 3) 0 [],.slice (.tag 4) 0 [],.slice (.tag 5) 0 [],.i 0]),(2,.row [.i 6,(lk 16 fr),.i 0,(agC (lk 11 fr) 0),(agC (lk 11 fr) 1),(agC (lk 11 fr) 2),ow .sealed (agC (lk 11 fr) 3),.slice (.tag 6) 0 [],.st 7 D9 z.2,(agC (lk 7 fr) 9)]),(3,.tip 0 0),(4,.tip 0 0),(5,.tip 0 0),(6,.tip 0 0),(7,.tip (tpe 10 (List.length z.2)) (List.length z.2))])⟩
 let jl1:Jn 8 (Int×List Nod):=⟨fun fr H z=>([(0,.ptr 0 0),(2,.ptr 1 0),(3,.ptr 2 0)],[(0,.row [.sl A8 d9,.i z.1,.i j4]),(1,.row [.i 0,.str [],.i 0,.i 0,.str [],.i 0,.slice (.tag 3) 0 [],.slice (.tag 4) 0 [],.slice (.tag 5) 0 [],.i 0]),(2,.row [.i 6,(lk 16 fr),.i 0,(agC (lk 11 fr) 0),(agC (lk 11 fr) 1),(agC (lk 11 fr) 2),ow .sealed (agC (lk 11 fr) 3),.slice (.tag 6) 0 [],.st 7 D9 z.2,(agC (lk 7 fr) 9)]),(3,.tip 0 0),(4,.tip 0 0),(5,.tip 0 0),(6,.tip 0 0),(7,.tip (tpe 10 (List.length z.2)) (List.length z.2))])⟩
 let jn2:Jn 20 (Int×List Nod):=⟨fun fr H z=>([(0,.ptr 0 0),(2,.ptr 1 0),(3,.ptr 2 0)],[(0,.row [.sl A8 d9,.i z.1,.i j4]),(1,oH H 1),(2,.row [.i 6,(cH H 2 1),.i 0,(cH H 2 3),(cH H 2 4),(cH H 2 5),ow .sealed (cH H 2 6),.slice (.tag 6) 0 [],.st 7 D9 z.2,(cH H 2 9)]),(3,.tip 0 0),(4,.tip 0 0),(5,.tip 0 0),(6,.tip 0 0),(7,.tip (tpe 10 (List.length z.2)) (List.length z.2))])⟩
 let jl2:Jn 16 (Int×List Nod):=⟨fun fr H z=>([(0,.ptr 0 0),(2,.ptr 1 0),(3,.ptr 2 0)],[(0,.row [.sl A8 d9,.i z.1,.i j4]),(1,oH H 1),(2,.row [.i 6,(cH H 2 1),.i 0,(cH H 2 3),(cH H 2 4),(cH H 2 5),ow .sealed (cH H 2 6),.slice (.tag 6) 0 [],.st 7 D9 z.2,(cH H 2 9)]),(3,.tip 0 0),(4,.tip 0 0),(5,.tip 0 0),(6,.tip 0 0),(7,.tip (tpe 10 (List.length z.2)) (List.length z.2))])⟩
 exact blk⟩
abbrev b1F (d9:List Tok)(at2 j4:Int)(p:Option (Rs (List Nod×Int) (o6×Int))):Prop:=OkF env p 50 [.ptr 0 0] (hP A8 d9 at2 j4) (a6b d9 at2 j4)
instance c1h {n:Nat}{d9:List Tok}{at2 j4:Int}:b1F d9 at2 j4 (a0F n d9 at2 j4):=⟨fun{r} h=>by
 unfold a0F at h;refine D5 rfl Tryz.func50 rfl rfl ?_;let kr:=fun r:Rs (List Nod×Int) (o6×Int)=>a2e env 50 1 Tryz.f50.results.toList (a6b d9 at2 j4 r);let jn1:Jn 14 (List Nod×Int):=⟨fun fr H z=>([(0,.ptr 0 0),(3,.st 1 D9 z.1)],[(0,.row [.sl A8 d9,.i z.2,.i j4]),(1,.tip (tpe 10 (List.length z.1)) (List.length z.1))])⟩
 let jl1:Jn 3 (List Nod×Int):=⟨fun fr H z=>([(0,.ptr 0 0),(3,.st 1 D9 z.1)],[(0,.row [.sl A8 d9,.i z.2,.i j4]),(1,.tip (tpe 10 (List.length z.1)) (List.length z.1))])⟩
 let jn2:Jn 90013 (Bool):=⟨fun fr H z=>([(0,.ptr 0 0),(3,ow (.tag 1) (lk 3 fr)),(13,.bool z)],[(0,oH H 0),(1,oH H 1)])⟩
 let jn3:Jn 9 (Int×Int):=⟨fun fr H z=>([(0,.ptr 0 0),(3,ow (.tag 1) (lk 3 fr)),(4,.ptr 2 0)],[(0,.row [.sl A8 d9,.i z.1,.i j4]),(1,oH H 1),(2,.row [.i 13,.str [],.i z.2,.i 0,.str [],.i 0,.slice .sealed 0 [],.slice (.tag 3) 0 [],.slice (.tag 4) 0 [],(agC (lk 15 fr) 9)]),(3,.tip 0 0),(4,.tip 0 0)])⟩
 let jn4:Jn 18 (List Nod×Int):=⟨fun fr H z=>([(0,.ptr 0 0),(3,.st 1 D9 z.1)],[(0,.row [.sl A8 d9,.i z.2,.i j4]),(1,.tip (tpe 10 (List.length z.1)) (List.length z.1))])⟩
 exact blk⟩
abbrev b2B (d9:List Tok)(at2 j4:Int)(p:Option (Rs (List Nod×Int) (Int×Int))):Prop:=OkF env p 51 [.ptr 0 0] (hP A8 d9 at2 j4) (a6B d9 at2 j4)
instance c2J {n:Nat}{d9:List Tok}{at2 j4:Int}:b2B d9 at2 j4 (a1s n d9 at2 j4):=⟨fun{r} h=>by
 unfold a1s at h;refine D5 rfl Tryz.func51 rfl rfl ?_;let kr:=fun r:Rs (List Nod×Int) (Int×Int)=>a2e env 51 1 Tryz.f51.results.toList (a6B d9 at2 j4 r);let jn1:Jn 17 (List Nod×Int):=⟨fun fr H z=>([(3,.st 1 D9 z.1)],[(0,.row [.sl A8 d9,.i z.2,.i j4]),(1,.tip (tpe 10 (List.length z.1)) (List.length z.1))])⟩
 let jl1:Jn 3 (List Nod×Int):=⟨fun fr H z=>([(0,.ptr 0 0),(3,.st 1 D9 z.1)],[(0,.row [.sl A8 d9,.i z.2,.i j4]),(1,.tip (tpe 10 (List.length z.1)) (List.length z.1))])⟩
 let jn2:Jn 8 (Int×Int):=⟨fun fr H z=>([(0,.ptr 0 0),(3,ow (.tag 1) (lk 3 fr)),(4,.ptr 2 0)],[(0,.row [.sl A8 d9,.i z.1,.i j4]),(1,oH H 1),(2,.row [.i 14,.str [],.i z.2,.i 0,.str [],.i 0,.slice .sealed 0 [],.slice (.tag 3) 0 [],.slice (.tag 4) 0 [],(agC (lk 11 fr) 9)]),(3,.tip 0 0),(4,.tip 0 0)])⟩
 let jn3:Jn 15 (List Nod×Int×Int×List Typ):=⟨fun fr H z=>([(0,.ptr 0 0),(3,.st 1 D9 z.1),(4,.ptr 2 0)],[(0,.row [.sl A8 d9,.i z.2.1,.i j4]),(1,.tip (tpe 10 (List.length z.1)) (List.length z.1)),(2,.row [.i 14,(lk 18 fr),.i z.2.2.1,.i 0,.str [],.i 0,.slice .sealed 0 [],.st 3 D8 z.2.2.2,.slice (.tag 4) 0 [],(cH H 2 9)]),(3,.tip (tpe 4 (List.length z.2.2.2)) (List.length z.2.2.2)),(4,.tip 0 0)])⟩
 let jn4:Jn 14 (List Nod×Int×Int×List Typ):=⟨fun fr H z=>([(0,.ptr 0 0),(3,.st 1 D9 z.1),(4,.ptr 2 0)],[(0,.row [.sl A8 d9,.i z.2.1,.i j4]),(1,.tip (tpe 10 (List.length z.1)) (List.length z.1)),(2,.row [.i 14,(lk 18 fr),.i z.2.2.1,.i 0,.str [],.i 0,.slice .sealed 0 [],.st 3 D8 z.2.2.2,.slice (.tag 4) 0 [],(cH H 2 9)]),(3,.tip (tpe 4 (List.length z.2.2.2)) (List.length z.2.2.2)),(4,.tip 0 0)])⟩
 let jl2:Jn 11 (List Nod×Int×Int×List Typ):=⟨fun fr H z=>([(0,.ptr 0 0),(3,.st 1 D9 z.1),(4,.ptr 2 0)],[(0,.row [.sl A8 d9,.i z.2.1,.i j4]),(1,.tip (tpe 10 (List.length z.1)) (List.length z.1)),(2,.row [.i 14,(lk 18 fr),.i z.2.2.1,.i 0,.str [],.i 0,.slice .sealed 0 [],.st 3 D8 z.2.2.2,.slice (.tag 4) 0 [],(cH H 2 9)]),(3,.tip (tpe 4 (List.length z.2.2.2)) (List.length z.2.2.2)),(4,.tip 0 0)])⟩
 let ls:Nat->List Nat:=fun n=>cond (Nat.beq n 12) [2] (cond (Nat.beq n 10) [2] ([]));exact blk⟩
abbrev a8Q (d9:List Tok)(at2 j4:Int)(p:Option (Rs (Nod×Int) (o6×Int))):Prop:=OkF env p 22 [.ptr 0 0] (hP A8 d9 at2 j4) (a4q d9 at2 j4)
instance b7I {n:Nat}{d9:List Tok}{at2 j4:Int}:a8Q d9 at2 j4 (M8 n d9 at2 j4):=⟨fun{r} h=>by
 unfold M8 at h;refine D5 rfl Tryz.func22 rfl rfl ?_;let kr:=fun r:Rs (Nod×Int) (o6×Int)=>a2e env 22 1 Tryz.f22.results.toList (a4q d9 at2 j4 r);let jn1:Jn 17 (Int×Int):=⟨fun fr H z=>([(0,.ptr 0 0),(2,.ptr 1 0),(3,.ptr 2 0)],[(0,.row [.sl A8 d9,.i z.1,.i j4]),(1,.row [.i 0,.str [],.i 0,.i 0,.str [],.i 0,.slice (.tag 3) 0 [],.slice (.tag 4) 0 [],.slice (.tag 5) 0 [],.i 0]),(2,.row [.i 2,.str [],.i z.2,.i 0,.str [],.i 0,.slice .sealed 0 [],.slice (.tag 6) 0 [],.slice (.tag 7) 0 [],(agC (lk 20 fr) 9)]),(3,.tip 0 0),(4,.tip 0 0),(5,.tip 0 0),(6,.tip 0 0),(7,.tip 0 0)])⟩
 let jn2:Jn 19 (Int×Int):=⟨fun fr H z=>([(0,.ptr 0 0),(2,.ptr 1 0),(3,.ptr 2 0)],[(0,.row [.sl A8 d9,.i z.1,.i j4]),(1,oH H 1),(2,.row [.i 2,.str [],.i z.2,.i 0,.str [],.i 0,.slice .sealed 0 [],.slice (.tag 6) 0 [],.slice (.tag 7) 0 [],(cH H 2 9)]),(3,.tip 0 0),(4,.tip 0 0),(5,.tip 0 0),(6,.tip 0 0),(7,.tip 0 0)])⟩
 let jn3:Jn 30020 (Bool×Int):=⟨fun fr H z=>([(0,.ptr 0 0),(2,.ptr 1 0),(3,.ptr 2 0),(56,.bool z.1)],[(0,.row [.sl A8 d9,.i z.2,.i j4]),(1,oH H 1),(2,oH H 2),(3,.tip 0 0),(4,.tip 0 0),(5,.tip 0 0),(6,.tip 0 0),(7,.tip 0 0)])⟩
 let ls:Nat->List Nat:=fun n=>cond (Nat.beq n 27) [2] (cond (Nat.beq n 22) [2] (cond (Nat.beq n 12) [256] ([])));exact blk⟩
abbrev b4L (d9:List Tok)(at2 j4 op4:Int)(s5:Str)(n6 a6U:Int)(a6W:Str)(n9:Int)(a2N ts11:List Typ)(l12:List Nod)(at13:Int)(a7L a7M:List Typ)(a7N:List Nod)(p:Option (Rs (Int×Nod) (o6×Int))):Prop:=OkF env p 21 [.ptr 1 0,.ptr 2 0] [(0,.row [.sl A8 d9,.i at2,.i j4]),(1,.row [.ptr 0 0]),(2,.row (c0 op4 s5 n6 a6U a6W n9 (.sl D8 a2N) (.sl D8 ts11) (.sl D9 l12) at13)),(3,.tip (tpe 4 (List.length a7L)) (List.length a7L)),(4,.tip (tpe 4 (List.length a7M)) (List.length a7M)),(5,.tip (tpe 10 (List.length a7N)) (List.length a7N))] (b3t d9 at2 j4 op4 s5 n6 a6U a6W n9 a2N ts11 l12 at13 a7L a7M a7N)
instance c6e {n:Nat}{d9:List Tok}{at2 j4 op4:Int}{s5:Str}{n6 a6U:Int}{a6W:Str}{n9:Int}{a2N ts11:List Typ}{l12:List Nod}{at13:Int}{a7L a7M:List Typ}{a7N:List Nod}:b4L d9 at2 j4 op4 s5 n6 a6U a6W n9 a2N ts11 l12 at13 a7L a7M a7N (a4o n d9 at2 j4 op4 s5 n6 a6U a6W n9 a2N ts11 l12 at13 a7L a7M a7N):=⟨fun{r} h=>by
 unfold a4o at h;refine D5 rfl Tryz.func21 rfl rfl ?_;exact blk⟩
abbrev b04 (d9:List Tok)(at2 j4 op4:Int)(s5:Str)(n6 a6U:Int)(a6W:Str)(n9:Int)(a2N ts11:List Typ)(l12:List Nod)(at13:Int)(p:Option (Flt×Int×Nod)):Prop:=OkF env p 20 [.ptr 0 0,.func (.func 21) [] [.ptr 1 0,.ptr 2 0]] [(0,.row [.sl A8 d9,.i at2,.i j4]),(1,.row [.ptr 0 0]),(2,.row (c0 op4 s5 n6 a6U a6W n9 (.st 3 D8 a2N) (.st 4 D8 ts11) (.st 5 D9 l12) at13)),(3,.tip (tpe 4 (List.length a2N)) (List.length a2N)),(4,.tip (tpe 4 (List.length ts11)) (List.length ts11)),(5,.tip (tpe 10 (List.length l12)) (List.length l12))] (a9L d9 at2 j4 op4 s5 n6 a6U a6W n9 a2N ts11 l12 at13)
instance c0I {n:Nat}{d9:List Tok}{at2 j4 op4:Int}{s5:Str}{n6 a6U:Int}{a6W:Str}{n9:Int}{a2N ts11:List Typ}{l12:List Nod}{at13:Int}:b04 d9 at2 j4 op4 s5 n6 a6U a6W n9 a2N ts11 l12 at13 (a2i n d9 at2 j4 op4 s5 n6 a6U a6W n9 a2N ts11 l12 at13):=⟨fun{r} h=>by
 unfold a2i at h;rcases c6J h with⟨⟨at14,n15⟩,g1,h⟩ |⟨⟨e16,at17⟩,g2,h⟩
 ·obtain⟨n15_0,n15_1,n15_2,⟨n15_3,n15_4,n15_5,n15_6⟩,n15_7,n15_8,n15_9⟩:=n15;cases h;exact E_via rfl rfl (OkF.ok g1) rfl
 ·cases h;exact E_via rfl rfl (OkF.ok g2) rfl⟩
abbrev b1M (a88:Int)(o8:List Tok)(at3 F9:Int)(p:Option (Int)):Prop:=OkF env p 23 [.ptr 0 0,.i a88] (hP A8 o8 at3 F9) (a6d a88 o8 at3 F9)
instance c1l {n:Nat}{a88:Int}{o8:List Tok}{at3 F9:Int}:b1M a88 o8 at3 F9 (a2s n a88 o8 at3 F9):=⟨fun{r} h=>by
 unfold a2s at h;refine D5 rfl Tryz.func23 rfl rfl ?_;let kr:=fun r:Int=>a2e env 23 1 Tryz.f23.results.toList (a6d a88 o8 at3 F9 r);let jn1:Jn 3 (Int):=⟨fun fr H z=>([(0,.ptr 0 0),(1,.i a88)],(hP A8 o8 z F9))⟩
 let jn2:Jn 14 (Int):=⟨fun fr H z=>([(0,.ptr 0 0)],(hP A8 o8 z F9))⟩
 let jl1:Jn 4 (Int×Int×Int):=⟨fun fr H z=>([(0,.ptr 0 0),(4,.i z.1),(5,.i z.2.1)],[(0,.row [.sl A8 o8,.i z.2.2,.i F9])])⟩
 let jn3:Jn 6 (Int):=⟨fun fr H z=>([(0,.ptr 0 0),(4,.i z),(5,(lk 5 fr))],[(0,oH H 0)])⟩
 let jn4:Jn 30009 (Bool):=⟨fun fr H z=>([(0,.ptr 0 0),(4,(lk 4 fr)),(5,(lk 5 fr)),(6,.ptr 1 0),(57,.bool z)],[(0,oH H 0),(1,oH H 448)])⟩
 let jn5:Jn 30011 (Bool):=⟨fun fr H z=>([(0,.ptr 0 0),(4,(lk 4 fr)),(5,(lk 5 fr)),(6,.ptr 1 0),(69,.bool z)],[(0,oH H 0),(1,oH H 1)])⟩
 let jn6:Jn 30013 (Bool):=⟨fun fr H z=>([(0,.ptr 0 0),(4,(lk 4 fr)),(5,(lk 5 fr)),(79,.bool z)],[(0,oH H 0)])⟩
 exact blk⟩
abbrev b7C (a1C:Str)(p:Option (Nod×List Flt)):Prop:=OkF env p 9 [.str a1C] [] (b0h a1C)
instance parse_Module_I {n:Nat}{a1C:Str}:b7C a1C (a0r n a1C):=⟨fun{r} h=>by
 unfold a0r at h;refine D5 rfl Tryz.func9 rfl rfl ?_;let kr:=fun r:Nod×List Flt=>a2e env 9 0 Tryz.f9.results.toList (b0h a1C r);let jn1:Jn 22 (List Flt×List Nod):=⟨fun fr H z=>([(2,.ptr 0 0),(6,.ptr 1 0),(8,.st 2 b6Q z.1)],[(0,.row [.i 0,.str [],.i 0,.i 0,.str [],.i 0,.slice (.tag 3) 0 [],.slice (.tag 4) 0 [],.slice (.tag 5) 0 [],.i 0]),(1,.row [.i 1,.str [],.i 0,.i 0,.str [],.i 0,.slice (.tag 6) 0 [],.slice (.tag 7) 0 [],.st 8 D9 z.2,.i 0]),(2,.tip (tpe 2 (List.length z.1)) (List.length z.1)),(3,.tip 0 0),(4,.tip 0 0),(5,.tip 0 0),(6,.tip 0 0),(7,.tip 0 0),(8,.tip (tpe 10 (List.length z.2)) (List.length z.2))])⟩
 let jl1:Jn 7 (Int×List Flt×List Nod×Int):=⟨fun fr H z=>([(2,.ptr 0 0),(4,.ptr 1 0),(6,.ptr 2 0),(7,.i z.1),(8,.st 3 b6Q z.2.1)],[(0,.row [.i 0,.str [],.i 0,.i 0,.str [],.i 0,.slice (.tag 4) 0 [],.slice (.tag 5) 0 [],.slice (.tag 6) 0 [],.i 0]),(1,.row [.ptr 7 0]),(2,.row [.i 1,.str [],.i 0,.i 0,.str [],.i 0,.slice (.tag 8) 0 [],.slice (.tag 9) 0 [],.st 10 D9 z.2.2.1,.i 0]),(3,.tip (tpe 2 (List.length z.2.1)) (List.length z.2.1)),(4,.tip 0 0),(5,.tip 0 0),(6,.tip 0 0),(7,.row [ow .sealed (cH H 1152 0),.i z.2.2.2,.i (List.length a1C:Int)]),(8,.tip 0 0),(9,.tip 0 0),(10,.tip (tpe 10 (List.length z.2.2.1)) (List.length z.2.2.1))])⟩
 let jn2:Jn 90041 (Bool):=⟨fun fr H z=>([(2,.ptr 0 0),(4,.ptr 1 0),(6,.ptr 2 0),(7,(lk 7 fr)),(8,ow (.tag 3) (lk 8 fr)),(41,.bool z)],[(0,oH H 0),(1,.row [.ptr 7 0]),(2,oH H 2),(3,oH H 3),(4,.tip 0 0),(5,.tip 0 0),(6,.tip 0 0),(7,oH H 7),(8,.tip 0 0),(9,.tip 0 0),(10,oH H 10)])⟩
 let ls:Nat->List Nat:=fun n=>cond (Nat.beq n 3) [384] ([]);exact blk⟩
abbrev c0x (a1C:Str)(p:Option (Unit)):Prop:=OkF env p 7 [.str a1C] [] (b7l a1C)
instance law02_long_I {a1C:Str}:c0x a1C (b0R a1C):=⟨fun{r} h=>by
 unfold b0R at h;refine D5 rfl Tryz.func7 rfl rfl ?_;exact blk⟩
end Go.Proofs.YtjhfloacokgdiaaGreatDoor
