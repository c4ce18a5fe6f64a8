/- Texts of ParseParens, joined. -/
import Derived.Test.YtjhfloacokgdiaaGreatDoorParseParensJ14
set_option maxRecDepth 100000
set_option maxHeartbeats 20000000
set_option linter.unusedSimpArgs false
set_option linter.unusedVariables false
set_option linter.unusedSectionVars false
namespace Go.Proofs.YtjhfloacokgdiaaGreatDoor
open Go Go.Vm
attribute [local irreducible] Go.Vm.Ev Go.Vm.Os Go.Vm.OsP Go.Vm.Lp Go.Vm.D8 Go.Vm.M4 Go.Vm.M7 Go.Vm.E
abbrev a2P (j3:List Tok)(at2 j5:Int)(p:Option (Rs (Nod×Int) (l7×Int))):Prop:=OkF env p 35 [.ptr 0 0] (hP F6 j3 at2 j5) (a9S j3 at2 j5)
abbrev a2D (j3:List Tok)(at2 j5:Int)(p:Option (Rs (Nod×Int) (l7×Int))):Prop:=OkF env p 66 [.ptr 0 0] (hP F6 j3 at2 j5) (a5n j3 at2 j5)
abbrev a10 (j3:List Tok)(at2 j5:Int)(p:Option (Rs (Nod×Int) (l7×Int))):Prop:=OkF env p 112 [.ptr 0 0] (hP F6 j3 at2 j5) (a4r j3 at2 j5)
abbrev a2O (j3:List Tok)(at2 j5:Int)(p:Option (Rs (Nod×Int) (l7×Int))):Prop:=OkF env p 139 [.ptr 0 0] (hP F6 j3 at2 j5) (a5E j3 at2 j5)
abbrev a2N (j3:List Tok)(at2 j5:Int)(p:Option (Rs (List Nod×Int) (l7×Int))):Prop:=OkF env p 140 [.ptr 0 0] (hP F6 j3 at2 j5) (a5D j3 at2 j5)
abbrev a2h (j3:List Tok)(at2 j5:Int)(p:Option (Rs (Nod×Int) (l7×Int))):Prop:=OkF env p 150 [.ptr 0 0] (hP F6 j3 at2 j5) (a8F j3 at2 j5)
abbrev a1Y (j3:List Tok)(at2 j5:Int)(p:Option (Rs (Nod×Int) (l7×Int))):Prop:=OkF env p 151 [.ptr 0 0] (hP F6 j3 at2 j5) (a8a j3 at2 j5)
abbrev a1i (j3:List Tok)(at2 j5:Int)(p:Option (Rs (List Nod×Int) (l7×Int))):Prop:=OkF env p 132 [.ptr 0 0] (hP F6 j3 at2 j5) (a3G j3 at2 j5)
abbrev a1w (j3:List Tok)(at2 j5:Int)(p:Option (Rs (Nod×Int) (l7×Int))):Prop:=OkF env p 147 [.ptr 0 0] (hP F6 j3 at2 j5) (a3S j3 at2 j5)
abbrev a2B (j3:List Tok)(at2 j5:Int)(p:Option (Rs (Nod×Int) (l7×Int))):Prop:=OkF env p 157 [.ptr 0 0] (hP F6 j3 at2 j5) (a5k j3 at2 j5)
abbrev a08 (j3:List Tok)(at2 j5:Int)(p:Option (Rs (Nod×Int) (l7×Int))):Prop:=OkF env p 158 [.ptr 0 0] (hP F6 j3 at2 j5) (a3v j3 at2 j5)
abbrev a2z (j3:List Tok)(at2 j5:Int)(p:Option (Rs (Nod×Int) (l7×Int))):Prop:=OkF env p 95 [.ptr 0 0] (hP F6 j3 at2 j5) (a9h j3 at2 j5)
abbrev a2C (j3:List Tok)(at2 j5:Int)(p:Option (Rs (Nod×Int) (l7×Int))):Prop:=OkF env p 159 [.ptr 0 0] (hP F6 j3 at2 j5) (a5l j3 at2 j5)
abbrev a3l (op1:Int)(z8:List Tok)(at3 G6:Int)(p:Option (Rs (List Nod×Int×Int) (l7×Int))):Prop:=OkF env p 160 [.ptr 0 0,.i op1] (hP F6 z8 at3 G6) (b0F op1 z8 at3 G6)
abbrev a2A (a03:Nod)(a0l:List E8)(V6:List Tok)(at4 a1X:Int)(p:Option (Rs (Nod×Int) (l7×Int))):Prop:=OkF env p 68 [.ptr 0 0,.agg (c0 a03.op a03.s a03.n a03.t.kind a03.t.name a03.t.n (.sl F3 a03.t.args) (.sl F3 a03.ts) (.sl H6 a03.l) a03.at_),.sl a02 a0l] (hP F6 V6 at4 a1X) (a5j a03 a0l V6 at4 a1X)
class d9.Ok (Φ:d9):Prop where
 C9:∀{j3:List Tok} {at2 j5:Int},a2P j3 at2 j5 (Φ.C9 j3 at2 j5)
 J3:∀{j3:List Tok} {at2 j5:Int},a2D j3 at2 j5 (Φ.J3 j3 at2 j5)
 O4:∀{j3:List Tok} {at2 j5:Int},a10 j3 at2 j5 (Φ.O4 j3 at2 j5)
 I4:∀{j3:List Tok} {at2 j5:Int},a2O j3 at2 j5 (Φ.I4 j3 at2 j5)
 H9:∀{j3:List Tok} {at2 j5:Int},a2N j3 at2 j5 (Φ.H9 j3 at2 j5)
 P5:∀{j3:List Tok} {at2 j5:Int},a2h j3 at2 j5 (Φ.P5 j3 at2 j5)
 O3:∀{j3:List Tok} {at2 j5:Int},a1Y j3 at2 j5 (Φ.O3 j3 at2 j5)
 J2:∀{j3:List Tok} {at2 j5:Int},a1i j3 at2 j5 (Φ.J2 j3 at2 j5)
 I7:∀{j3:List Tok} {at2 j5:Int},a1w j3 at2 j5 (Φ.I7 j3 at2 j5)
 I9:∀{j3:List Tok} {at2 j5:Int},a2B j3 at2 j5 (Φ.I9 j3 at2 j5)
 G9:∀{j3:List Tok} {at2 j5:Int},a08 j3 at2 j5 (Φ.G9 j3 at2 j5)
 G8:∀{j3:List Tok} {at2 j5:Int},a2z j3 at2 j5 (Φ.G8 j3 at2 j5)
 O9:∀{j3:List Tok} {at2 j5:Int},a2C j3 at2 j5 (Φ.O9 j3 at2 j5)
 R8:∀{op1:Int} {z8:List Tok} {at3 G6:Int},a3l op1 z8 at3 G6 (Φ.R8 op1 z8 at3 G6)
 I8:∀{a03:Nod} {a0l:List E8} {V6:List Tok} {at4 a1X:Int},a2A a03 a0l V6 at4 a1X (Φ.I8 a03 a0l V6 at4 a1X)
instance {Φ:d9} [h:d9.Ok Φ] {j3:List Tok}{at2 j5:Int}:a2P j3 at2 j5 (Φ.C9 j3 at2 j5):=h.C9
instance {Φ:d9} [h:d9.Ok Φ] {j3:List Tok}{at2 j5:Int}:a2D j3 at2 j5 (Φ.J3 j3 at2 j5):=h.J3
instance {Φ:d9} [h:d9.Ok Φ] {j3:List Tok}{at2 j5:Int}:a10 j3 at2 j5 (Φ.O4 j3 at2 j5):=h.O4
instance {Φ:d9} [h:d9.Ok Φ] {j3:List Tok}{at2 j5:Int}:a2O j3 at2 j5 (Φ.I4 j3 at2 j5):=h.I4
instance {Φ:d9} [h:d9.Ok Φ] {j3:List Tok}{at2 j5:Int}:a2N j3 at2 j5 (Φ.H9 j3 at2 j5):=h.H9
instance {Φ:d9} [h:d9.Ok Φ] {j3:List Tok}{at2 j5:Int}:a2h j3 at2 j5 (Φ.P5 j3 at2 j5):=h.P5
instance {Φ:d9} [h:d9.Ok Φ] {j3:List Tok}{at2 j5:Int}:a1Y j3 at2 j5 (Φ.O3 j3 at2 j5):=h.O3
instance {Φ:d9} [h:d9.Ok Φ] {j3:List Tok}{at2 j5:Int}:a1i j3 at2 j5 (Φ.J2 j3 at2 j5):=h.J2
instance {Φ:d9} [h:d9.Ok Φ] {j3:List Tok}{at2 j5:Int}:a1w j3 at2 j5 (Φ.I7 j3 at2 j5):=h.I7
instance {Φ:d9} [h:d9.Ok Φ] {j3:List Tok}{at2 j5:Int}:a2B j3 at2 j5 (Φ.I9 j3 at2 j5):=h.I9
instance {Φ:d9} [h:d9.Ok Φ] {j3:List Tok}{at2 j5:Int}:a08 j3 at2 j5 (Φ.G9 j3 at2 j5):=h.G9
instance {Φ:d9} [h:d9.Ok Φ] {j3:List Tok}{at2 j5:Int}:a2z j3 at2 j5 (Φ.G8 j3 at2 j5):=h.G8
instance {Φ:d9} [h:d9.Ok Φ] {j3:List Tok}{at2 j5:Int}:a2C j3 at2 j5 (Φ.O9 j3 at2 j5):=h.O9
instance {Φ:d9} [h:d9.Ok Φ] {op1:Int}{z8:List Tok}{at3 G6:Int}:a3l op1 z8 at3 G6 (Φ.R8 op1 z8 at3 G6):=h.R8
instance {Φ:d9} [h:d9.Ok Φ] {a03:Nod}{a0l:List E8}{V6:List Tok}{at4 a1X:Int}:a2A a03 a0l V6 at4 a1X (Φ.I8 a03 a0l V6 at4 a1X):=h.I8
theorem a9R (n:Nat){Φ:d9} [hΦ:d9.Ok Φ] {j3:List Tok}{at2 j5:Int}:a2P j3 at2 j5 (X9 n Φ j3 at2 j5):=⟨fun{r} h=>by
 unfold X9 at h
 refine F4 rfl Tryz.func35 rfl rfl ?_
 exact blk⟩
theorem a9p (n:Nat){Φ:d9} [hΦ:d9.Ok Φ] {j3:List Tok}{at2 j5:Int}:a2D j3 at2 j5 (X3 n Φ j3 at2 j5):=⟨fun{r} h=>by
 unfold X3 at h
 refine F4 rfl Tryz.func66 rfl rfl ?_
 let kr:=fun r:Rs (Nod×Int) (l7×Int)=>a3I env 66 1 Tryz.f66.results.toList (a5n j3 at2 j5 r)
 let jn1:Jn 7 (Int×Int):=⟨fun fr H z=>([(0,.ptr 0 0),(2,.ptr 1 0),(3,.ptr 2 0)],[(0,.row [.sl F6 j3,.i z.1,.i j5]),(1,.row [.i 0,.str [],.i 0,.i 0,.str [],.i 0,.slice (.tag 3) 0 [],.slice (.tag 4) 0 [],.slice (.tag 5) 0 [],.i 0]),(2,.row [.i z.2,.str [],.i 0,.i 0,.str [],.i 0,.slice .sealed 0 [],.slice .sealed 0 [],.slice (.tag 6) 0 [],(agC (lk 5 fr) 9)]),(3,.tip 0 0),(4,.tip 0 0),(5,.tip 0 0),(6,.tip 0 0)])⟩
 exact blk⟩
theorem a8e (n:Nat){Φ:d9} [hΦ:d9.Ok Φ] {j3:List Tok}{at2 j5:Int}:a10 j3 at2 j5 (O6 n Φ j3 at2 j5):=⟨fun{r} h=>by
 unfold O6 at h
 refine F4 rfl Tryz.func112 rfl rfl ?_
 let kr:=fun r:Rs (Nod×Int) (l7×Int)=>a3I env 112 1 Tryz.f112.results.toList (a4r j3 at2 j5 r)
 let jl1:Jn 4 (Bool×Int×Nod):=⟨fun fr H z=>([(0,.ptr 0 0),(2,.ptr 1 0),(3,.bool z.1),(4,.ptr 2 0)],[(0,.row [.sl F6 j3,.i z.2.1,.i j5]),(1,.row [.i 0,.str [],.i 0,.i 0,.str [],.i 0,.slice (.tag 3) 0 [],.slice (.tag 4) 0 [],.slice (.tag 5) 0 [],.i 0]),(2,.row (c0 z.2.2.op z.2.2.s z.2.2.n z.2.2.t.kind z.2.2.t.name z.2.2.t.n (.sl F3 z.2.2.t.args) (.sl F3 z.2.2.ts) (.sl H6 z.2.2.l) z.2.2.at_)),(3,.tip 0 0),(4,.tip 0 0),(5,.tip 0 0)])⟩
 let jn1:Jn 17 (Int×Int×Str×List Nod):=⟨fun fr H z=>([(0,.ptr 0 0),(2,.ptr 1 0),(4,.ptr 2 0)],[(0,.row [.sl F6 j3,.i z.1,.i j5]),(1,oH H 1),(2,.row [.i z.2.1,.str z.2.2.1,.i 0,.i 0,.str [],.i 0,.slice (.tag 6) 0 [],.slice (.tag 7) 0 [],.sl H6 z.2.2.2,(cH H 2 9)]),(3,.tip 0 0),(4,.tip 0 0),(5,.tip 0 0),(6,.tip 0 0),(7,.tip 0 0)])⟩
 let jn2:Jn 10 (Int×Int×List Nod):=⟨fun fr H z=>([(0,.ptr 0 0),(2,.ptr 1 0),(4,.ptr 2 0),(5,.ptr 3 0)],[(0,.row [.sl F6 j3,.i z.1,.i j5]),(1,.row [.i 0,.str [],.i 0,.i 0,.str [],.i 0,.slice (.tag 4) 0 [],.slice (.tag 5) 0 [],.slice (.tag 6) 0 [],.i 0]),(2,oH H 2),(3,.row [.i z.2.1,(lk 16 fr),.i 0,.i 0,.str [],.i 0,.slice (.tag 7) 0 [],.slice (.tag 8) 0 [],.st 9 H6 z.2.2,(lk 18 fr)]),(4,.tip 0 0),(5,.tip 0 0),(6,.tip 0 0),(7,.tip 0 0),(8,.tip 0 0),(9,.tip (tpe 10 (List.length z.2.2)) (List.length z.2.2))])⟩
 let ls:Nat->List Nat:=fun n=>cond (Nat.beq n 14) [448] (cond (Nat.beq n 12) [2,2] (cond (Nat.beq n 8) [384] (cond (Nat.beq n 5) [2,2] ([]))))
 exact blk⟩
theorem a9Q (n:Nat){Φ:d9} [hΦ:d9.Ok Φ] {j3:List Tok}{at2 j5:Int}:a2O j3 at2 j5 (A7 n Φ j3 at2 j5):=⟨fun{r} h=>by
 unfold A7 at h
 refine F4 rfl Tryz.func139 rfl rfl ?_
 let kr:=fun r:Rs (Nod×Int) (l7×Int)=>a3I env 139 1 Tryz.f139.results.toList (a5E j3 at2 j5 r)
 let jn1:Jn 37 (Int×Nod):=⟨fun fr H z=>([(2,.ptr 1 0),(3,.ptr 2 0)],[(0,.row [.sl F6 j3,.i z.1,.i j5]),(1,.row [.i 0,.str [],.i 0,.i 0,.str [],.i 0,.slice (.tag 3) 0 [],.slice (.tag 4) 0 [],.slice (.tag 5) 0 [],.i 0]),(2,.row (c0 z.2.op z.2.s z.2.n z.2.t.kind z.2.t.name z.2.t.n (.sl F3 z.2.t.args) (.sl F3 z.2.ts) (.sl H6 z.2.l) z.2.at_)),(3,.tip 0 0),(4,.tip 0 0),(5,.tip 0 0)])⟩
 let jn2:Jn 30 (Int×List Nod):=⟨fun fr H z=>([(0,.ptr 0 0),(2,.ptr 1 0),(3,.ptr 2 0)],[(0,.row [.sl F6 j3,.i z.1,.i j5]),(1,.row [.i 0,.str [],.i 0,.i 0,.str [],.i 0,.slice (.tag 3) 0 [],.slice (.tag 4) 0 [],.slice (.tag 5) 0 [],.i 0]),(2,.row [.i 67,.str [],.i 0,.i 0,.str [],.i 0,.slice .sealed 0 [],.slice .sealed 0 [],.st 6 H6 z.2,(agC (lk 6 fr) 9)]),(3,.tip 0 0),(4,.tip 0 0),(5,.tip 0 0),(6,.tip (tpe 10 (List.length z.2)) (List.length z.2))])⟩
 let jl1:Jn 27 (Int×List Nod):=⟨fun fr H z=>([(0,.ptr 0 0),(2,.ptr 1 0),(3,.ptr 2 0)],[(0,.row [.sl F6 j3,.i z.1,.i j5]),(1,.row [.i 0,.str [],.i 0,.i 0,.str [],.i 0,.slice (.tag 3) 0 [],.slice (.tag 4) 0 [],.slice (.tag 5) 0 [],.i 0]),(2,.row [.i 67,.str [],.i 0,.i 0,.str [],.i 0,.slice .sealed 0 [],.slice .sealed 0 [],.st 6 H6 z.2,(agC (lk 6 fr) 9)]),(3,.tip 0 0),(4,.tip 0 0),(5,.tip 0 0),(6,.tip (tpe 10 (List.length z.2)) (List.length z.2))])⟩
 let ls:Nat->List Nat:=fun n=>cond (Nat.beq n 28) [2] (cond (Nat.beq n 26) [256] ([]))
 exact blk⟩
theorem a9P (n:Nat){Φ:d9} [hΦ:d9.Ok Φ] {j3:List Tok}{at2 j5:Int}:a2N j3 at2 j5 (a0p n Φ j3 at2 j5):=⟨fun{r} h=>by
 unfold a0p at h
 refine F4 rfl Tryz.func140 rfl rfl ?_
 let kr:=fun r:Rs (List Nod×Int) (l7×Int)=>a3I env 140 1 Tryz.f140.results.toList (a5D j3 at2 j5 r)
 let jn1:Jn 12 (List Nod×Int):=⟨fun fr H z=>([(0,.ptr 0 0),(3,.st 1 H6 z.1)],[(0,.row [.sl F6 j3,.i z.2,.i j5]),(1,.tip (tpe 10 (List.length z.1)) (List.length z.1))])⟩
 let jl1:Jn 5 (List Nod×Int):=⟨fun fr H z=>([(0,.ptr 0 0),(3,.st 1 H6 z.1)],[(0,.row [.sl F6 j3,.i z.2,.i j5]),(1,.tip (tpe 10 (List.length z.1)) (List.length z.1))])⟩
 let jn2:Jn 11 (List Nod×Int):=⟨fun fr H z=>([(0,.ptr 0 0),(3,.st 1 H6 z.1)],[(0,.row [.sl F6 j3,.i z.2,.i j5]),(1,.tip (tpe 10 (List.length z.1)) (List.length z.1))])⟩
 exact blk⟩
theorem a8E (n:Nat){Φ:d9} [hΦ:d9.Ok Φ] {j3:List Tok}{at2 j5:Int}:a2h j3 at2 j5 (Z5 n Φ j3 at2 j5):=⟨fun{r} h=>by
 unfold Z5 at h
 refine F4 rfl Tryz.func150 rfl rfl ?_
 let jl1:Jn 5 (Int×List Nod×Str×Int):=⟨fun fr H z=>([(0,.ptr 0 0),(2,.ptr 1 0),(3,.ptr 2 0),(4,.ptr 3 0)],[(0,.row [.sl F6 j3,.i z.1,.i j5]),(1,.row [.i 0,.str [],.i 0,.i 0,.str [],.i 0,.slice (.tag 4) 0 [],.slice (.tag 5) 0 [],.slice (.tag 6) 0 [],.i 0]),(2,.row [.i 53,.str [],.i 0,.i 0,.str [],.i 0,.slice .sealed 0 [],.slice .sealed 0 [],.st 7 H6 z.2.1,(agC (lk 6 fr) 9)]),(3,.row [.i 52,.str z.2.2.1,.i 0,.i 0,.str [],.i 0,.slice .sealed 0 [],.slice .sealed 0 [],.slice (.tag 8) 0 [],.i z.2.2.2]),(4,.tip 0 0),(5,.tip 0 0),(6,.tip 0 0),(7,.tip (tpe 10 (List.length z.2.1)) (List.length z.2.1)),(8,.tip 0 0)])⟩
 let ls:Nat->List Nat:=fun n=>cond (Nat.beq n 5) [2] ([])
 exact blk⟩
theorem a7Z (n:Nat){Φ:d9} [hΦ:d9.Ok Φ] {j3:List Tok}{at2 j5:Int}:a1Y j3 at2 j5 (Y7 n Φ j3 at2 j5):=⟨fun{r} h=>by
 unfold Y7 at h
 refine F4 rfl Tryz.func151 rfl rfl ?_
 exact blk⟩
theorem a6L (n:Nat){Φ:d9} [hΦ:d9.Ok Φ] {j3:List Tok}{at2 j5:Int}:a1i j3 at2 j5 (U6 n Φ j3 at2 j5):=⟨fun{r} h=>by
 unfold U6 at h
 refine F4 rfl Tryz.func132 rfl rfl ?_
 let kr:=fun r:Rs (List Nod×Int) (l7×Int)=>a3I env 132 1 Tryz.f132.results.toList (a3G j3 at2 j5 r)
 let jn1:Jn 5 (List Nod×Int):=⟨fun fr H z=>([(3,.st 1 H6 z.1)],[(0,.row [.sl F6 j3,.i z.2,.i j5]),(1,.tip (tpe 10 (List.length z.1)) (List.length z.1))])⟩
 let jl1:Jn 2 (List Nod×Int):=⟨fun fr H z=>([(0,.ptr 0 0),(3,.st 1 H6 z.1)],[(0,.row [.sl F6 j3,.i z.2,.i j5]),(1,.tip (tpe 10 (List.length z.1)) (List.length z.1))])⟩
 exact blk⟩
theorem a7k (n:Nat){Φ:d9} [hΦ:d9.Ok Φ] {j3:List Tok}{at2 j5:Int}:a1w j3 at2 j5 (w9 n Φ j3 at2 j5):=⟨fun{r} h=>by
 unfold w9 at h
 refine F4 rfl Tryz.func147 rfl rfl ?_
 let kr:=fun r:Rs (Nod×Int) (l7×Int)=>a3I env 147 1 Tryz.f147.results.toList (a3S j3 at2 j5 r)
 let jn1:Jn 5 (Str):=⟨fun fr H z=>([(0,.ptr 0 0),(2,.ptr 1 0),(3,.str z)],[(0,oH H 0),(1,.row [.i 0,.str [],.i 0,.i 0,.str [],.i 0,.slice (.tag 2) 0 [],.slice (.tag 3) 0 [],.slice (.tag 4) 0 [],.i 0]),(2,.tip 0 0),(3,.tip 0 0),(4,.tip 0 0)])⟩
 let jn2:Jn 30008 (Bool):=⟨fun fr H z=>([(0,.ptr 0 0),(2,.ptr 1 0),(23,(lk 3 fr)),(24,.bool z)],[(0,oH H 0),(1,oH H 1),(2,.tip 0 0),(3,.tip 0 0),(4,.tip 0 0)])⟩
 let jn3:Jn 27 (Int×List Nod):=⟨fun fr H z=>([(2,.ptr 1 0),(5,.ptr 2 0)],[(0,.row [.sl F6 j3,.i z.1,.i j5]),(1,.row [.i 0,.str [],.i 0,.i 0,.str [],.i 0,.slice (.tag 3) 0 [],.slice (.tag 4) 0 [],.slice (.tag 5) 0 [],.i 0]),(2,.row [.i 28,.str [],.i 0,.i 0,.str [],.i 0,.slice .sealed 0 [],.slice .sealed 0 [],.st 6 H6 z.2,(agC (lk 67 fr) 9)]),(3,.tip 0 0),(4,.tip 0 0),(5,.tip 0 0),(6,.tip (tpe 10 (List.length z.2)) (List.length z.2))])⟩
 let ls:Nat->List Nat:=fun n=>cond (Nat.beq n 45) [640] (cond (Nat.beq n 37) [512] (cond (Nat.beq n 18) [320] ([])))
 exact blk⟩
theorem a9m (n:Nat){Φ:d9} [hΦ:d9.Ok Φ] {j3:List Tok}{at2 j5:Int}:a2B j3 at2 j5 (M0 n Φ j3 at2 j5):=⟨fun{r} h=>by
 unfold M0 at h
 refine F4 rfl Tryz.func157 rfl rfl ?_
 let kr:=fun r:Rs (Nod×Int) (l7×Int)=>a3I env 157 1 Tryz.f157.results.toList (a5k j3 at2 j5 r)
 let jn1:Jn 6 (Int×Int):=⟨fun fr H z=>([(0,.ptr 0 0),(2,.ptr 1 0),(3,.ptr 2 0)],[(0,.row [.sl F6 j3,.i z.1,.i j5]),(1,.row [.i 0,.str [],.i 0,.i 0,.str [],.i 0,.slice (.tag 3) 0 [],.slice (.tag 4) 0 [],.slice (.tag 5) 0 [],.i 0]),(2,.row [.i 21,.str [],.i z.2,.i 0,.str [],.i 0,.slice .sealed 0 [],.slice .sealed 0 [],.slice (.tag 6) 0 [],(agC (lk 6 fr) 9)]),(3,.tip 0 0),(4,.tip 0 0),(5,.tip 0 0),(6,.tip 0 0)])⟩
 let jn2:Jn 10 (Int×Int×Str×Int×List Typ):=⟨fun fr H z=>([(0,.ptr 0 0),(2,.ptr 1 0),(3,.ptr 2 0),(4,(lk 16 fr))],[(0,.row [.sl F6 j3,.i z.1,.i j5]),(1,oH H 1),(2,.row [.i 21,(lk 13 fr),(cH H 2 2),.i z.2.1,.str z.2.2.1,.i z.2.2.2.1,.sl F3 z.2.2.2.2,.slice .sealed 0 [],.slice (.tag 6) 0 [],(cH H 2 9)]),(3,.tip 0 0),(4,.tip 0 0),(5,.tip 0 0),(6,.tip 0 0)])⟩
 let jn3:Jn 30011 (Bool×Int):=⟨fun fr H z=>([(0,.ptr 0 0),(2,.ptr 1 0),(3,.ptr 2 0),(30,.bool z.1)],[(0,.row [.sl F6 j3,.i z.2,.i j5]),(1,oH H 1),(2,oH H 2),(3,.tip 0 0),(4,.tip 0 0),(5,.tip 0 0),(6,.tip 0 0)])⟩
 exact blk⟩
theorem a6t (n:Nat){Φ:d9} [hΦ:d9.Ok Φ] {j3:List Tok}{at2 j5:Int}:a08 j3 at2 j5 (L8 n Φ j3 at2 j5):=⟨fun{r} h=>by
 unfold L8 at h
 refine F4 rfl Tryz.func158 rfl rfl ?_
 let kr:=fun r:Rs (Nod×Int) (l7×Int)=>a3I env 158 1 Tryz.f158.results.toList (a3v j3 at2 j5 r)
 let jn1:Jn 12 (Int×List Nod):=⟨fun fr H z=>([(2,.ptr 1 0),(3,.ptr 2 0)],[(0,.row [.sl F6 j3,.i z.1,.i j5]),(1,.row [.i 0,.str [],.i 0,.i 0,.str [],.i 0,.slice (.tag 3) 0 [],.slice (.tag 4) 0 [],.slice (.tag 5) 0 [],.i 0]),(2,.row [.i 24,.str [],.i 0,.i 0,.str [],.i 0,.slice .sealed 0 [],.slice .sealed 0 [],.st 6 H6 z.2,(agC (lk 6 fr) 9)]),(3,.tip 0 0),(4,.tip 0 0),(5,.tip 0 0),(6,.tip (tpe 10 (List.length z.2)) (List.length z.2))])⟩
 let jn2:Jn 11 (Int×Nod):=⟨fun fr H z=>([(2,.ptr 1 0),(3,.ptr 2 0),(4,.ptr 3 0)],[(0,.row [.sl F6 j3,.i z.1,.i j5]),(1,.row [.i 0,.str [],.i 0,.i 0,.str [],.i 0,.slice (.tag 4) 0 [],.slice (.tag 5) 0 [],.slice (.tag 6) 0 [],.i 0]),(2,.row [.i 24,.str [],.i 0,.i 0,.str [],.i 0,.slice .sealed 0 [],.slice .sealed 0 [],ow (.tag 7) (lk 18 fr),(agC (lk 6 fr) 9)]),(3,.row (c0 z.2.op z.2.s z.2.n z.2.t.kind z.2.t.name z.2.t.n (.sl F3 z.2.t.args) (.sl F3 z.2.ts) (.sl H6 z.2.l) z.2.at_)),(4,.tip 0 0),(5,.tip 0 0),(6,.tip 0 0),(7,oH H 1216)])⟩
 let ls:Nat->List Nat:=fun n=>cond (Nat.beq n 4) [256] ([])
 exact blk⟩
theorem a9g (n:Nat){Φ:d9} [hΦ:d9.Ok Φ] {j3:List Tok}{at2 j5:Int}:a2z j3 at2 j5 (a0g n Φ j3 at2 j5):=⟨fun{r} h=>by
 unfold a0g at h
 refine F4 rfl Tryz.func95 rfl rfl ?_
 exact blk⟩
theorem a9n (n:Nat){Φ:d9} [hΦ:d9.Ok Φ] {j3:List Tok}{at2 j5:Int}:a2C j3 at2 j5 (a0h n Φ j3 at2 j5):=⟨fun{r} h=>by
 unfold a0h at h
 refine F4 rfl Tryz.func159 rfl rfl ?_
 let kr:=fun r:Rs (Nod×Int) (l7×Int)=>a3I env 159 1 Tryz.f159.results.toList (a5l j3 at2 j5 r)
 let jn1:Jn 12 (Int×List Nod):=⟨fun fr H z=>([(0,.ptr 0 0),(2,.ptr 1 0),(3,.ptr 2 0)],[(0,.row [.sl F6 j3,.i z.1,.i j5]),(1,.row [.i 0,.str [],.i 0,.i 0,.str [],.i 0,.slice (.tag 3) 0 [],.slice (.tag 4) 0 [],.slice (.tag 5) 0 [],.i 0]),(2,.row [.i 26,.str [],.i 0,.i 0,.str [],.i 0,.slice .sealed 0 [],.slice .sealed 0 [],.st 6 H6 z.2,(agC (lk 8 fr) 9)]),(3,.tip 0 0),(4,.tip 0 0),(5,.tip 0 0),(6,.tip (tpe 10 (List.length z.2)) (List.length z.2))])⟩
 let jl1:Jn 5 (Int×List Nod):=⟨fun fr H z=>([(0,.ptr 0 0),(2,.ptr 1 0),(3,.ptr 2 0)],[(0,.row [.sl F6 j3,.i z.1,.i j5]),(1,.row [.i 0,.str [],.i 0,.i 0,.str [],.i 0,.slice (.tag 3) 0 [],.slice (.tag 4) 0 [],.slice (.tag 5) 0 [],.i 0]),(2,.row [.i 26,.str [],.i 0,.i 0,.str [],.i 0,.slice .sealed 0 [],.slice .sealed 0 [],.st 6 H6 z.2,(agC (lk 8 fr) 9)]),(3,.tip 0 0),(4,.tip 0 0),(5,.tip 0 0),(6,.tip (tpe 10 (List.length z.2)) (List.length z.2))])⟩
 let jn2:Jn 17 (Int×List Nod):=⟨fun fr H z=>([(0,.ptr 0 0),(2,.ptr 1 0),(3,.ptr 2 0)],[(0,.row [.sl F6 j3,.i z.1,.i j5]),(1,oH H 1),(2,.row [.i 26,.str [],.i 0,.i 0,.str [],.i 0,.slice .sealed 0 [],.slice .sealed 0 [],.st 6 H6 z.2,(cH H 2 9)]),(3,.tip 0 0),(4,.tip 0 0),(5,.tip 0 0),(6,.tip (tpe 10 (List.length z.2)) (List.length z.2))])⟩
 let ls:Nat->List Nat:=fun n=>cond (Nat.beq n 14) [384] (cond (Nat.beq n 9) [320] ([]))
 exact blk⟩
theorem b0E (n:Nat){Φ:d9} [hΦ:d9.Ok Φ] {op1:Int}{z8:List Tok}{at3 G6:Int}:a3l op1 z8 at3 G6 (a0w n Φ op1 z8 at3 G6):=⟨fun{r} h=>by
 unfold a0w at h
 refine F4 rfl Tryz.func160 rfl rfl ?_
 exact blk⟩
theorem a9j (n:Nat){Φ:d9} [hΦ:d9.Ok Φ] {a03:Nod}{a0l:List E8}{V6:List Tok}{at4 a1X:Int}:a2A a03 a0l V6 at4 a1X (V9 n Φ a03 a0l V6 at4 a1X):=⟨fun{r} h=>by
 unfold V9 at h
 obtain⟨first1_0,first1_1,first1_2,⟨first1_3,first1_4,first1_5,first1_6⟩,first1_7,first1_8,first1_9⟩:=a03
 refine F4 rfl Tryz.func68 rfl rfl ?_
 let kr:=fun r:Rs (Nod×Int) (l7×Int)=>a3I env 68 1 Tryz.f68.results.toList (a5j (Nod.mk first1_0 first1_1 first1_2 (Typ.mk first1_3 first1_4 first1_5 first1_6) first1_7 first1_8 first1_9) a0l V6 at4 a1X r)
 let jn1:Jn 15 (Int×Nod):=⟨fun fr H z=>([(6,.ptr 1 0),(7,.ptr 2 0)],[(0,.row [.sl F6 V6,.i z.1,.i a1X]),(1,.row [.i 0,.str [],.i 0,.i 0,.str [],.i 0,.slice (.tag 3) 0 [],.slice (.tag 4) 0 [],.slice (.tag 5) 0 [],.i 0]),(2,.row (c0 z.2.op z.2.s z.2.n z.2.t.kind z.2.t.name z.2.t.n (.sl F3 z.2.t.args) (.sl F3 z.2.ts) (.sl H6 z.2.l) z.2.at_)),(3,.tip 0 0),(4,.tip 0 0),(5,.tip 0 0)])⟩
 let jl1:Jn 3 (Int×Int×Nod):=⟨fun fr H z=>([(0,.ptr 0 0),(2,.sl a02 a0l),(6,.ptr 1 0),(7,.ptr 2 0),(14,.i (List.length a0l:Int)),(15,.i z.1)],[(0,.row [.sl F6 V6,.i z.2.1,.i a1X]),(1,.row [.i 0,.str [],.i 0,.i 0,.str [],.i 0,.slice (.tag 3) 0 [],.slice (.tag 4) 0 [],.slice (.tag 5) 0 [],.i 0]),(2,.row (c0 z.2.2.op z.2.2.s z.2.2.n z.2.2.t.kind z.2.2.t.name z.2.2.t.n (.sl F3 z.2.2.t.args) (.sl F3 z.2.2.ts) (.sl H6 z.2.2.l) z.2.2.at_)),(3,.tip 0 0),(4,.tip 0 0),(5,.tip 0 0)])⟩
 let jn2:Jn 14 (Int×Int×Nod):=⟨fun fr H z=>([(0,.ptr 0 0),(2,.sl a02 a0l),(6,.ptr 1 0),(7,.ptr 2 0),(14,.i (List.length a0l:Int)),(15,.i z.1)],[(0,.row [.sl F6 V6,.i z.2.1,.i a1X]),(1,oH H 1),(2,.row (c0 z.2.2.op z.2.2.s z.2.2.n z.2.2.t.kind z.2.2.t.name z.2.2.t.n (.sl F3 z.2.2.t.args) (.sl F3 z.2.2.ts) (.sl H6 z.2.2.l) z.2.2.at_)),(3,.tip 0 0),(4,.tip 0 0),(5,.tip 0 0)])⟩
 let jl2:Jn 6 (Int×Int×Int×Nod):=⟨fun fr H z=>([(0,.ptr 0 0),(2,.sl a02 a0l),(6,.ptr 1 0),(7,.ptr 2 0),(9,.i z.1),(14,.i (List.length a0l:Int)),(15,.i z.2.1)],[(0,.row [.sl F6 V6,.i z.2.2.1,.i a1X]),(1,oH H 1),(2,.row (c0 z.2.2.2.op z.2.2.2.s z.2.2.2.n z.2.2.2.t.kind z.2.2.2.t.name z.2.2.2.t.n (.sl F3 z.2.2.2.t.args) (.sl F3 z.2.2.2.ts) (.sl H6 z.2.2.2.l) z.2.2.2.at_)),(3,.tip 0 0),(4,.tip 0 0),(5,.tip 0 0)])⟩
 let jn3:Jn 90065 (Bool):=⟨fun fr H z=>([(0,.ptr 0 0),(2,.sl a02 a0l),(6,.ptr 1 0),(7,.ptr 2 0),(9,(lk 9 fr)),(14,.i (List.length a0l:Int)),(15,(lk 15 fr)),(65,.bool z)],[(0,oH H 0),(1,oH H 1),(2,oH H 2),(3,.tip 0 0),(4,.tip 0 0),(5,.tip 0 0)])⟩
 let ls:Nat->List Nat:=fun n=>cond (Nat.beq n 9) [] (cond (Nat.beq n 7) [2,0,0] ([]))
 exact blk⟩
theorem d9.ok:∀n,d9.Ok (d9.fs n)
 | 0=>⟨⟨fun h=>by cases h⟩,⟨fun h=>by cases h⟩,⟨fun h=>by cases h⟩,⟨fun h=>by cases h⟩,⟨fun h=>by cases h⟩,⟨fun h=>by cases h⟩,⟨fun h=>by cases h⟩,⟨fun h=>by cases h⟩,⟨fun h=>by cases h⟩,⟨fun h=>by cases h⟩,⟨fun h=>by cases h⟩,⟨fun h=>by cases h⟩,⟨fun h=>by cases h⟩,⟨fun h=>by cases h⟩,⟨fun h=>by cases h⟩⟩
 | n+1=>have:=d9.ok n;⟨a9R n,a9p n,a8e n,a9Q n,a9P n,a8E n,a7Z n,a6L n,a7k n,a9m n,a6t n,a9g n,a9n n,b0E n,a9j n⟩
instance c0T {n:Nat}{j3:List Tok}{at2 j5:Int}:a2P j3 at2 j5 (C9 n j3 at2 j5):=(d9.ok n).C9
instance c0r {n:Nat}{j3:List Tok}{at2 j5:Int}:a2D j3 at2 j5 (J3 n j3 at2 j5):=(d9.ok n).J3
instance b8z {n:Nat}{j3:List Tok}{at2 j5:Int}:a10 j3 at2 j5 (O4 n j3 at2 j5):=(d9.ok n).O4
instance c0S {n:Nat}{j3:List Tok}{at2 j5:Int}:a2O j3 at2 j5 (I4 n j3 at2 j5):=(d9.ok n).I4
instance c0R {n:Nat}{j3:List Tok}{at2 j5:Int}:a2N j3 at2 j5 (H9 n j3 at2 j5):=(d9.ok n).H9
instance b84 {n:Nat}{j3:List Tok}{at2 j5:Int}:a2h j3 at2 j5 (P5 n j3 at2 j5):=(d9.ok n).P5
instance b8v {n:Nat}{j3:List Tok}{at2 j5:Int}:a1Y j3 at2 j5 (O3 n j3 at2 j5):=(d9.ok n).O3
instance b6t {n:Nat}{j3:List Tok}{at2 j5:Int}:a1i j3 at2 j5 (J2 n j3 at2 j5):=(d9.ok n).J2
instance b6C {n:Nat}{j3:List Tok}{at2 j5:Int}:a1w j3 at2 j5 (I7 n j3 at2 j5):=(d9.ok n).I7
instance c0n {n:Nat}{j3:List Tok}{at2 j5:Int}:a2B j3 at2 j5 (I9 n j3 at2 j5):=(d9.ok n).I9
instance b5P {n:Nat}{j3:List Tok}{at2 j5:Int}:a08 j3 at2 j5 (G9 n j3 at2 j5):=(d9.ok n).G9
instance c0l {n:Nat}{j3:List Tok}{at2 j5:Int}:a2z j3 at2 j5 (G8 n j3 at2 j5):=(d9.ok n).G8
instance c0o {n:Nat}{j3:List Tok}{at2 j5:Int}:a2C j3 at2 j5 (O9 n j3 at2 j5):=(d9.ok n).O9
instance c2k {n:Nat}{op1:Int}{z8:List Tok}{at3 G6:Int}:a3l op1 z8 at3 G6 (R8 n op1 z8 at3 G6):=(d9.ok n).R8
instance c0m {n:Nat}{a03:Nod}{a0l:List E8}{V6:List Tok}{at4 a1X:Int}:a2A a03 a0l V6 at4 a1X (I8 n a03 a0l V6 at4 a1X):=(d9.ok n).I8
abbrev b4q (j3:List Tok)(at2 j5 op4:Int)(s5:Str)(n6 a6d:Int)(a6g:Str)(n9:Int)(a2n ts11:List Typ)(l12:List Nod)(at13:Int)(a6q a6r:List Typ)(a6s:List Nod)(p:Option (Rs (Int×Nod) (l7×Int×Nod))):Prop:=OkF env p 34 [.ptr 1 0,.ptr 2 0] [(0,.row [.sl F6 j3,.i at2,.i j5]),(1,.row [.ptr 0 0]),(2,.row (c0 op4 s5 n6 a6d a6g n9 (.sl F3 a2n) (.sl F3 ts11) (.sl H6 l12) at13)),(3,.tip (tpe 4 (List.length a6q)) (List.length a6q)),(4,.tip (tpe 4 (List.length a6r)) (List.length a6r)),(5,.tip (tpe 10 (List.length a6s)) (List.length a6s))] (b2U j3 at2 j5 op4 s5 n6 a6d a6g n9 a2n ts11 l12 at13 a6q a6r a6s)
instance c5L {n:Nat}{j3:List Tok}{at2 j5 op4:Int}{s5:Str}{n6 a6d:Int}{a6g:Str}{n9:Int}{a2n ts11:List Typ}{l12:List Nod}{at13:Int}{a6q a6r:List Typ}{a6s:List Nod}:b4q j3 at2 j5 op4 s5 n6 a6d a6g n9 a2n ts11 l12 at13 a6q a6r a6s (a4o n j3 at2 j5 op4 s5 n6 a6d a6g n9 a2n ts11 l12 at13 a6q a6r a6s):=⟨fun{r} h=>by
 unfold a4o at h
 refine F4 rfl Tryz.func34 rfl rfl ?_
 exact blk⟩
abbrev a9k (j3:List Tok)(at2 j5 op4:Int)(s5:Str)(n6 a6d:Int)(a6g:Str)(n9:Int)(a2n ts11:List Typ)(l12:List Nod)(at13:Int)(p:Option (Flt×Int×Nod)):Prop:=OkF env p 20 [.ptr 0 0,.func (.func 34) [] [.ptr 1 0,.ptr 2 0]] [(0,.row [.sl F6 j3,.i at2,.i j5]),(1,.row [.ptr 0 0]),(2,.row (c0 op4 s5 n6 a6d a6g n9 (.st 3 F3 a2n) (.st 4 F3 ts11) (.st 5 H6 l12) at13)),(3,.tip (tpe 4 (List.length a2n)) (List.length a2n)),(4,.tip (tpe 4 (List.length ts11)) (List.length ts11)),(5,.tip (tpe 10 (List.length l12)) (List.length l12))] (a8b j3 at2 j5 op4 s5 n6 a6d a6g n9 a2n ts11 l12 at13)
instance b8w {n:Nat}{j3:List Tok}{at2 j5 op4:Int}{s5:Str}{n6 a6d:Int}{a6g:Str}{n9:Int}{a2n ts11:List Typ}{l12:List Nod}{at13:Int}:a9k j3 at2 j5 op4 s5 n6 a6d a6g n9 a2n ts11 l12 at13 (a1D n j3 at2 j5 op4 s5 n6 a6d a6g n9 a2n ts11 l12 at13):=⟨fun{r} h=>by
 unfold a1D at h
 rcases c4q h with⟨⟨at14,n15⟩,g1,h⟩ |⟨⟨e16,at17,n18⟩,g2,h⟩
 ·obtain⟨n15_0,n15_1,n15_2,⟨n15_3,n15_4,n15_5,n15_6⟩,n15_7,n15_8,n15_9⟩:=n15
  cases h
  exact E_via rfl rfl (OkF.ok g1) rfl
 ·obtain⟨n18_0,n18_1,n18_2,⟨n18_3,n18_4,n18_5,n18_6⟩,n18_7,n18_8,n18_9⟩:=n18
  cases h
  exact E_via rfl rfl (OkF.ok g2) rfl⟩
abbrev a6K (n1:Nod)(p:Option (Int×Int)):Prop:=OkF env p 24 [.agg (c0 n1.op n1.s n1.n n1.t.kind n1.t.name n1.t.n (.sl F3 n1.t.args) (.sl F3 n1.ts) (.sl H6 n1.l) n1.at_)] [] (b0A n1)
class T9.Ok (Φ:T9):Prop where
 a1u:∀{n1:Nod},a6K n1 (Φ.a1u n1)
instance {Φ:T9} [h:T9.Ok Φ] {n1:Nod}:a6K n1 (Φ.a1u n1):=h.a1u
theorem b5N (n:Nat){Φ:T9} [hΦ:T9.Ok Φ] {n1:Nod}:a6K n1 (a5f n Φ n1):=⟨fun{r} h=>by
 unfold a5f at h
 obtain⟨n1_0,n1_1,n1_2,⟨n1_3,n1_4,n1_5,n1_6⟩,n1_7,n1_8,n1_9⟩:=n1
 refine F4 rfl Tryz.func24 rfl rfl ?_
 let kr:=fun r:Int×Int=>a3I env 24 0 Tryz.f24.results.toList (b0A (Nod.mk n1_0 n1_1 n1_2 (Typ.mk n1_3 n1_4 n1_5 n1_6) n1_7 n1_8 n1_9) r)
 let jn1:Jn 10 (Int×Int):=⟨fun fr H z=>([(2,.i z.1),(3,.i z.2)],[])⟩
 let jl1:Jn 3 (Int×Int×Int):=⟨fun fr H z=>([(2,.i z.1),(3,.i z.2.1),(9,.sl H6 n1_8),(10,.i (List.length n1_8:Int)),(11,.i z.2.2)],[])⟩
 exact blk⟩
theorem T9.ok:∀n,T9.Ok (T9.fs n)
 | 0=>⟨⟨fun h=>by cases h⟩⟩
 | n+1=>have:=T9.ok n;⟨b5N n⟩
instance parse_Size_I {n:Nat}{n1:Nod}:a6K n1 (a1u n n1):=(T9.ok n).a1u
abbrev b8t (a1g:Str)(p:Option (Nod×Flt)):Prop:=OkF env p 14 [.str a1g] [] (b5K a1g)
instance parse_Expr_I {n:Nat}{a1g:Str}:b8t a1g (a3j n a1g):=⟨fun{r} h=>by
 unfold a3j at h
 refine F4 rfl Tryz.func14 rfl rfl ?_
 let ls:Nat->List Nat:=fun n=>cond (Nat.beq n 7) [384] (cond (Nat.beq n 3) [384] ([]))
 exact blk⟩
abbrev b1B (words1:List Str)(p:Option (Str)):Prop:=OkF env p 27 [.ptr 0 0] [(0,.row [.st 1 clS words1]),(1,.tip (tpe 1 (List.length words1)) (List.length words1))] (b0d words1)
instance c06 {words1:List Str}:b1B words1 (a2F words1):=⟨fun{r} h=>by
 unfold a2F at h
 refine F4 rfl Tryz.func27 rfl rfl ?_
 exact blk⟩
abbrev b2l (l1 words2:List Str)(p:Option (List Str)):Prop:=OkF env p 54 [.ptr 0 0,.sl clS l1] [(0,.row [.st 1 clS words2]),(1,.tip (tpe 1 (List.length words2)) (List.length words2))] (b0J l1 words2)
instance c2m {l1 words2:List Str}:b2l l1 words2 (l6 l1 words2):=⟨fun{r} h=>by
 unfold l6 at h
 refine F4 rfl Tryz.func54 rfl rfl ?_
 exact blk⟩
abbrev b0a (n1:Int)(words2:List Str)(p:Option (List Str)):Prop:=OkF env p 69 [.ptr 0 0,.i n1] [(0,.row [.st 1 clS words2]),(1,.tip (tpe 1 (List.length words2)) (List.length words2))] (a4P n1 words2)
instance b9a {n1:Int}{words2:List Str}:b0a n1 words2 (Z8 n1 words2):=⟨fun{r} h=>by
 unfold Z8 at h
 refine F4 rfl Tryz.func69 rfl rfl ?_
 let kr:=fun r:List Str=>a3I env 69 2 Tryz.f69.results.toList (a4P n1 words2 r)
 let jn1:Jn 5 (Str×List Str):=⟨fun fr H z=>([(0,.ptr 0 0),(4,.str z.1)],[(0,.row [.st 1 clS z.2]),(1,.tip (tpe 1 (List.length z.2)) (List.length z.2))])⟩
 exact blk⟩
abbrev b0K (n1:Int)(words2:List Str)(p:Option (List Str)):Prop:=OkF env p 70 [.ptr 0 0,.i n1] [(0,.row [.st 1 clS words2]),(1,.tip (tpe 1 (List.length words2)) (List.length words2))] (a9s n1 words2)
instance c0t {n1:Int}{words2:List Str}:b0K n1 words2 (U5 n1 words2):=⟨fun{r} h=>by
 unfold U5 at h
 refine F4 rfl Tryz.func70 rfl rfl ?_
 exact blk⟩
abbrev c0h (n1:Nod)(i2:Int)(p:Option (Nod)):Prop:=OkF env p 73 [.agg (c0 n1.op n1.s n1.n n1.t.kind n1.t.name n1.t.n (.sl F3 n1.t.args) (.sl F3 n1.ts) (.sl H6 n1.l) n1.at_),.i i2] [] (b6A n1 i2)
instance parse_kid_I {n1:Nod}{i2:Int}:c0h n1 i2 (V3 n1 i2):=⟨fun{r} h=>by
 unfold V3 at h
 obtain⟨n1_0,n1_1,n1_2,⟨n1_3,n1_4,n1_5,n1_6⟩,n1_7,n1_8,n1_9⟩:=n1
 refine F4 rfl Tryz.func73 rfl rfl ?_
 exact blk⟩
abbrev a3n (t1:Typ)(words2:List Str)(p:Option (List Str)):Prop:=OkF env p 60 [.ptr 0 0,.agg [.i t1.kind,.str t1.name,.i t1.n,.sl F3 t1.args]] [(0,.row [.st 1 clS words2]),(1,.tip (tpe 1 (List.length words2)) (List.length words2))] (b0M t1 words2)
abbrev a3F (l1:List Typ)(words2:List Str)(p:Option (List Str)):Prop:=OkF env p 101 [.ptr 0 0,.sl F3 l1,.func (.func 60) [.ptr 0 0] []] [(0,.row [.st 1 clS words2]),(1,.tip (tpe 1 (List.length words2)) (List.length words2))] (a6x l1 words2)
abbrev a2R (l1:List Typ)(words2:List Str)(p:Option (List Str)):Prop:=OkF env p 105 [.ptr 0 0,.sl F3 l1] [(0,.row [.st 1 clS words2]),(1,.tip (tpe 1 (List.length words2)) (List.length words2))] (a95 l1 words2)
class q9.Ok (Φ:q9):Prop where
 P9:∀{t1:Typ} {words2:List Str},a3n t1 words2 (Φ.P9 t1 words2)
 Y3:∀{l1:List Typ} {words2:List Str},a3F l1 words2 (Φ.Y3 l1 words2)
 X5:∀{l1:List Typ} {words2:List Str},a2R l1 words2 (Φ.X5 l1 words2)
instance {Φ:q9} [h:q9.Ok Φ] {t1:Typ}{words2:List Str}:a3n t1 words2 (Φ.P9 t1 words2):=h.P9
instance {Φ:q9} [h:q9.Ok Φ] {l1:List Typ}{words2:List Str}:a3F l1 words2 (Φ.Y3 l1 words2):=h.Y3
instance {Φ:q9} [h:q9.Ok Φ] {l1:List Typ}{words2:List Str}:a2R l1 words2 (Φ.X5 l1 words2):=h.X5
theorem b0L (n:Nat){Φ:q9} [hΦ:q9.Ok Φ] {t1:Typ}{words2:List Str}:a3n t1 words2 (a2g n Φ t1 words2):=⟨fun{r} h=>by
 unfold a2g at h
 obtain⟨t1_0,t1_1,t1_2,t1_3⟩:=t1
 refine F4 rfl Tryz.func60 rfl rfl ?_
 exact blk⟩
theorem b1t (n:Nat){Φ:q9} [hΦ:q9.Ok Φ] {l1:List Typ}{words2:List Str}:a3F l1 words2 (a2y n Φ l1 words2):=⟨fun{r} h=>by
 unfold a2y at h
 refine F4 rfl Tryz.func101 rfl rfl ?_
 let kr:=fun r:List Str=>a3I env 101 2 Tryz.f101.results.toList (a6x l1 words2 r)
 let jl1:Jn 1 (Int×List Str):=⟨fun fr H z=>([(0,.ptr 0 0),(2,.func (.func 60) [.ptr 0 0] []),(8,.sl F3 l1),(9,.i (List.length l1:Int)),(10,.i z.1)],[(0,.row [.st 1 clS z.2]),(1,.tip (tpe 1 (List.length z.2)) (List.length z.2))])⟩
 let jn1:Jn 6 (List Str):=⟨fun fr H z=>([(0,.ptr 0 0),(2,.func (.func 60) [.ptr 0 0] []),(7,.ptr 2 0),(8,.sl F3 l1),(9,.i (List.length l1:Int)),(10,(lk 10 fr))],[(0,.row [.st 1 clS z]),(1,.tip (tpe 1 (List.length z)) (List.length z)),(2,oH H 512)])⟩
 exact blk⟩
theorem a94 (n:Nat){Φ:q9} [hΦ:q9.Ok Φ] {l1:List Typ}{words2:List Str}:a2R l1 words2 (a1R n Φ l1 words2):=⟨fun{r} h=>by
 unfold a1R at h
 refine F4 rfl Tryz.func105 rfl rfl ?_
 exact blk⟩
theorem q9.ok:∀n,q9.Ok (q9.fs n)
 | 0=>⟨⟨fun h=>by cases h⟩,⟨fun h=>by cases h⟩,⟨fun h=>by cases h⟩⟩
 | n+1=>have:=q9.ok n;⟨b0L n,b1t n,a94 n⟩
instance c2n {n:Nat}{t1:Typ}{words2:List Str}:a3n t1 words2 (P9 n t1 words2):=(q9.ok n).P9
instance c3U {n:Nat}{l1:List Typ}{words2:List Str}:a3F l1 words2 (Y3 n l1 words2):=(q9.ok n).Y3
instance c02 {n:Nat}{l1:List Typ}{words2:List Str}:a2R l1 words2 (X5 n l1 words2):=(q9.ok n).X5
abbrev a8h (p1:Nod)(words2:List Str)(p:Option (List Str)):Prop:=OkF env p 133 [.agg (c0 p1.op p1.s p1.n p1.t.kind p1.t.name p1.t.n (.sl F3 p1.t.args) (.sl F3 p1.ts) (.sl H6 p1.l) p1.at_),.ptr 0 0] [(0,.row [.ptr 1 0]),(1,.row [.st 2 clS words2]),(2,.tip (tpe 1 (List.length words2)) (List.length words2))] (a3T p1 words2)
instance b6E {n:Nat}{p1:Nod}{words2:List Str}:a8h p1 words2 (a0k n p1 words2):=⟨fun{r} h=>by
 unfold a0k at h
 obtain⟨p1_0,p1_1,p1_2,⟨p1_3,p1_4,p1_5,p1_6⟩,p1_7,p1_8,p1_9⟩:=p1
 refine F4 rfl Tryz.func133 rfl rfl ?_
 let kr:=fun r:List Str=>a3I env 133 3 Tryz.f133.results.toList (a3T (Nod.mk p1_0 p1_1 p1_2 (Typ.mk p1_3 p1_4 p1_5 p1_6) p1_7 p1_8 p1_9) words2 r)
 let jn1:Jn 6 (List Str):=⟨fun fr H z=>([(1,.ptr 0 0),(2,.ptr 3 0)],[(0,.row [.ptr 1 0]),(1,.row [.st 2 clS z]),(2,.tip (tpe 1 (List.length z)) (List.length z)),(3,oH H 192)])⟩
 exact blk⟩
abbrev b0B (l1:List Nod)(words2:List Str)(p:Option (List Str)):Prop:=OkF env p 75 [.ptr 0 0,.sl H6 l1,.func (.func 133) [] [.ptr 1 0]] [(0,.row [.st 2 clS words2]),(1,.row [.ptr 0 0]),(2,.tip (tpe 1 (List.length words2)) (List.length words2))] (a5h l1 words2)
instance c0i {n:Nat}{l1:List Nod}{words2:List Str}:b0B l1 words2 (a3k n l1 words2):=⟨fun{r} h=>by
 unfold a3k at h
 refine F4 rfl Tryz.func75 rfl rfl ?_
 let kr:=fun r:List Str=>a3I env 75 3 Tryz.f75.results.toList (a5h l1 words2 r)
 let jl1:Jn 1 (Int×List Str):=⟨fun fr H z=>([(0,.ptr 0 0),(2,.func (.func 133) [] [.ptr 1 0]),(8,.sl H6 l1),(9,.i (List.length l1:Int)),(10,.i z.1)],[(0,.row [.st 2 clS z.2]),(1,.row [.ptr 0 0]),(2,.tip (tpe 1 (List.length z.2)) (List.length z.2))])⟩
 let jn1:Jn 6 (List Str):=⟨fun fr H z=>([(0,.ptr 0 0),(2,.func (.func 133) [] [.ptr 1 0]),(7,.ptr 3 0),(8,.sl H6 l1),(9,.i (List.length l1:Int)),(10,(lk 10 fr))],[(0,.row [.st 2 clS z]),(1,.row [.ptr 0 0]),(2,.tip (tpe 1 (List.length z)) (List.length z)),(3,oH H 512)])⟩
 exact blk⟩
abbrev b0b (l1:List Nod)(words2:List Str)(p:Option (List Str)):Prop:=OkF env p 103 [.ptr 0 0,.sl H6 l1] [(0,.row [.st 1 clS words2]),(1,.tip (tpe 1 (List.length words2)) (List.length words2))] (a8K l1 words2)
instance b9b {n:Nat}{l1:List Nod}{words2:List Str}:b0b l1 words2 (a1T n l1 words2):=⟨fun{r} h=>by
 unfold a1T at h
 refine F4 rfl Tryz.func103 rfl rfl ?_
 exact blk⟩
abbrev b0c (t1:Typ)(words2:List Str)(p:Option (List Str)):Prop:=OkF env p 104 [.ptr 0 0,.agg [.i t1.kind,.str t1.name,.i t1.n,.sl F3 t1.args]] [(0,.row [.st 1 clS words2]),(1,.tip (tpe 1 (List.length words2)) (List.length words2))] (a8L t1 words2)
instance b9c {n:Nat}{t1:Typ}{words2:List Str}:b0c t1 words2 (a1U n t1 words2):=⟨fun{r} h=>by
 unfold a1U at h
 obtain⟨t1_0,t1_1,t1_2,t1_3⟩:=t1
 refine F4 rfl Tryz.func104 rfl rfl ?_
 exact blk⟩
abbrev b8B (n1:Nod)(i2:Int)(p:Option (List Nod)):Prop:=OkF env p 119 [.agg (c0 n1.op n1.s n1.n n1.t.kind n1.t.name n1.t.n (.sl F3 n1.t.args) (.sl F3 n1.ts) (.sl H6 n1.l) n1.at_),.i i2] [] (b5Q n1 i2)
instance parse_rest_I {n1:Nod}{i2:Int}:b8B n1 i2 (a4D n1 i2):=⟨fun{r} h=>by
 unfold a4D at h
 obtain⟨n1_0,n1_1,n1_2,⟨n1_3,n1_4,n1_5,n1_6⟩,n1_7,n1_8,n1_9⟩:=n1
 refine F4 rfl Tryz.func119 rfl rfl ?_
 exact blk⟩
end Go.Proofs.YtjhfloacokgdiaaGreatDoor
