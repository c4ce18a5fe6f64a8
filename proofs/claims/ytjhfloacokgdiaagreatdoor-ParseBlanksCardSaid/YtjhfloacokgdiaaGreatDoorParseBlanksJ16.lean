/- Texts of ParseBlanks, joined. -/
import Derived.Test.YtjhfloacokgdiaaGreatDoorParseBlanksJ15
set_option maxRecDepth 100000
set_option maxHeartbeats 20000000
set_option linter.unusedSimpArgs false
set_option linter.unusedVariables false
set_option linter.unusedSectionVars false
namespace Go.Proofs.YtjhfloacokgdiaaGreatDoor
open Go Go.Vm
attribute [local irreducible] Go.Vm.Ev Go.Vm.Os Go.Vm.OsP Go.Vm.Lp Go.Vm.u7 Go.Vm.H7 Go.Vm.I5 Go.Vm.E
abbrev a1n (d9:List Tok)(at2 j4:Int)(p:Option (Rs (Nod×Int) (j5×Int))):Prop:=OkF env p 95 [.ptr 0 0] (hP p8 d9 at2 j4) (a7v d9 at2 j4)
abbrev a0z (d9:List Tok)(at2 j4:Int)(p:Option (Rs (List Nod×Int) (j5×Int))):Prop:=OkF env p 132 [.ptr 0 0] (hP p8 d9 at2 j4) (a15 d9 at2 j4)
abbrev a0O (d9:List Tok)(at2 j4:Int)(p:Option (Rs (Nod×Int) (j5×Int))):Prop:=OkF env p 147 [.ptr 0 0] (hP p8 d9 at2 j4) (a2k d9 at2 j4)
abbrev a1q (d9:List Tok)(at2 j4:Int)(p:Option (Rs (Nod×Int) (j5×Int))):Prop:=OkF env p 157 [.ptr 0 0] (hP p8 d9 at2 j4) (a3y d9 at2 j4)
abbrev a1C (d9:List Tok)(at2 j4:Int)(p:Option (Rs (Nod×Int) (j5×Int))):Prop:=OkF env p 35 [.ptr 0 0] (hP p8 d9 at2 j4) (a7Z d9 at2 j4)
abbrev a1s (d9:List Tok)(at2 j4:Int)(p:Option (Rs (Nod×Int) (j5×Int))):Prop:=OkF env p 66 [.ptr 0 0] (hP p8 d9 at2 j4) (a3B d9 at2 j4)
abbrev a02 (d9:List Tok)(at2 j4:Int)(p:Option (Rs (Nod×Int) (j5×Int))):Prop:=OkF env p 112 [.ptr 0 0] (hP p8 d9 at2 j4) (a2H d9 at2 j4)
abbrev a1B (d9:List Tok)(at2 j4:Int)(p:Option (Rs (Nod×Int) (j5×Int))):Prop:=OkF env p 139 [.ptr 0 0] (hP p8 d9 at2 j4) (a3R d9 at2 j4)
abbrev a1A (d9:List Tok)(at2 j4:Int)(p:Option (Rs (List Nod×Int) (j5×Int))):Prop:=OkF env p 140 [.ptr 0 0] (hP p8 d9 at2 j4) (a3Q d9 at2 j4)
abbrev a1d (d9:List Tok)(at2 j4:Int)(p:Option (Rs (Nod×Int) (j5×Int))):Prop:=OkF env p 150 [.ptr 0 0] (hP p8 d9 at2 j4) (a6T d9 at2 j4)
abbrev a00 (d9:List Tok)(at2 j4:Int)(p:Option (Rs (Nod×Int) (j5×Int))):Prop:=OkF env p 151 [.ptr 0 0] (hP p8 d9 at2 j4) (a6n d9 at2 j4)
abbrev a1o (a0g:Nod)(P8:List E8)(J5:List Tok)(at4 a0Z:Int)(p:Option (Rs (Nod×Int) (j5×Int))):Prop:=OkF env p 68 [.ptr 0 0,.agg (c0 a0g.op a0g.s a0g.n a0g.t.kind a0g.t.name a0g.t.n (.sl D9 a0g.t.args) (.sl D9 a0g.ts) (.sl F5 a0g.l) a0g.at_),.sl a0f P8] (hP p8 J5 at4 a0Z) (a3x a0g P8 J5 at4 a0Z)
abbrev a0j (d9:List Tok)(at2 j4:Int)(p:Option (Rs (Nod×Int) (j5×Int))):Prop:=OkF env p 158 [.ptr 0 0] (hP p8 d9 at2 j4) (a1Y d9 at2 j4)
abbrev a1r (d9:List Tok)(at2 j4:Int)(p:Option (Rs (Nod×Int) (j5×Int))):Prop:=OkF env p 159 [.ptr 0 0] (hP p8 d9 at2 j4) (a3z d9 at2 j4)
abbrev a1U (op1:Int)(o7:List Tok)(at3 D6:Int)(p:Option (Rs (List Nod×Int×Int) (j5×Int))):Prop:=OkF env p 160 [.ptr 0 0,.i op1] (hP p8 o7 at3 D6) (a8N op1 o7 at3 D6)
class j3.Ok (Φ:j3):Prop where
 D8:∀{d9:List Tok} {at2 j4:Int},a1n d9 at2 j4 (Φ.D8 d9 at2 j4)
 G8:∀{d9:List Tok} {at2 j4:Int},a0z d9 at2 j4 (Φ.G8 d9 at2 j4)
 G6:∀{d9:List Tok} {at2 j4:Int},a0O d9 at2 j4 (Φ.G6 d9 at2 j4)
 K4:∀{d9:List Tok} {at2 j4:Int},a1q d9 at2 j4 (Φ.K4 d9 at2 j4)
 w9:∀{d9:List Tok} {at2 j4:Int},a1C d9 at2 j4 (Φ.w9 d9 at2 j4)
 G7:∀{d9:List Tok} {at2 j4:Int},a1s d9 at2 j4 (Φ.G7 d9 at2 j4)
 J3:∀{d9:List Tok} {at2 j4:Int},a02 d9 at2 j4 (Φ.J3 d9 at2 j4)
 I8:∀{d9:List Tok} {at2 j4:Int},a1B d9 at2 j4 (Φ.I8 d9 at2 j4)
 F6:∀{d9:List Tok} {at2 j4:Int},a1A d9 at2 j4 (Φ.F6 d9 at2 j4)
 J7:∀{d9:List Tok} {at2 j4:Int},a1d d9 at2 j4 (Φ.J7 d9 at2 j4)
 I9:∀{d9:List Tok} {at2 j4:Int},a00 d9 at2 j4 (Φ.I9 d9 at2 j4)
 H8:∀{a0g:Nod} {P8:List E8} {J5:List Tok} {at4 a0Z:Int},a1o a0g P8 J5 at4 a0Z (Φ.H8 a0g P8 J5 at4 a0Z)
 F7:∀{d9:List Tok} {at2 j4:Int},a0j d9 at2 j4 (Φ.F7 d9 at2 j4)
 K5:∀{d9:List Tok} {at2 j4:Int},a1r d9 at2 j4 (Φ.K5 d9 at2 j4)
 L6:∀{op1:Int} {o7:List Tok} {at3 D6:Int},a1U op1 o7 at3 D6 (Φ.L6 op1 o7 at3 D6)
instance {Φ:j3} [h:j3.Ok Φ] {d9:List Tok}{at2 j4:Int}:a1n d9 at2 j4 (Φ.D8 d9 at2 j4):=h.D8
instance {Φ:j3} [h:j3.Ok Φ] {d9:List Tok}{at2 j4:Int}:a0z d9 at2 j4 (Φ.G8 d9 at2 j4):=h.G8
instance {Φ:j3} [h:j3.Ok Φ] {d9:List Tok}{at2 j4:Int}:a0O d9 at2 j4 (Φ.G6 d9 at2 j4):=h.G6
instance {Φ:j3} [h:j3.Ok Φ] {d9:List Tok}{at2 j4:Int}:a1q d9 at2 j4 (Φ.K4 d9 at2 j4):=h.K4
instance {Φ:j3} [h:j3.Ok Φ] {d9:List Tok}{at2 j4:Int}:a1C d9 at2 j4 (Φ.w9 d9 at2 j4):=h.w9
instance {Φ:j3} [h:j3.Ok Φ] {d9:List Tok}{at2 j4:Int}:a1s d9 at2 j4 (Φ.G7 d9 at2 j4):=h.G7
instance {Φ:j3} [h:j3.Ok Φ] {d9:List Tok}{at2 j4:Int}:a02 d9 at2 j4 (Φ.J3 d9 at2 j4):=h.J3
instance {Φ:j3} [h:j3.Ok Φ] {d9:List Tok}{at2 j4:Int}:a1B d9 at2 j4 (Φ.I8 d9 at2 j4):=h.I8
instance {Φ:j3} [h:j3.Ok Φ] {d9:List Tok}{at2 j4:Int}:a1A d9 at2 j4 (Φ.F6 d9 at2 j4):=h.F6
instance {Φ:j3} [h:j3.Ok Φ] {d9:List Tok}{at2 j4:Int}:a1d d9 at2 j4 (Φ.J7 d9 at2 j4):=h.J7
instance {Φ:j3} [h:j3.Ok Φ] {d9:List Tok}{at2 j4:Int}:a00 d9 at2 j4 (Φ.I9 d9 at2 j4):=h.I9
instance {Φ:j3} [h:j3.Ok Φ] {a0g:Nod}{P8:List E8}{J5:List Tok}{at4 a0Z:Int}:a1o a0g P8 J5 at4 a0Z (Φ.H8 a0g P8 J5 at4 a0Z):=h.H8
instance {Φ:j3} [h:j3.Ok Φ] {d9:List Tok}{at2 j4:Int}:a0j d9 at2 j4 (Φ.F7 d9 at2 j4):=h.F7
instance {Φ:j3} [h:j3.Ok Φ] {d9:List Tok}{at2 j4:Int}:a1r d9 at2 j4 (Φ.K5 d9 at2 j4):=h.K5
instance {Φ:j3} [h:j3.Ok Φ] {op1:Int}{o7:List Tok}{at3 D6:Int}:a1U op1 o7 at3 D6 (Φ.L6 op1 o7 at3 D6):=h.L6
theorem a7u (n:Nat){Φ:j3} [hΦ:j3.Ok Φ] {d9:List Tok}{at2 j4:Int}:a1n d9 at2 j4 (Z7 n Φ d9 at2 j4):=⟨fun{r} h=>by
 unfold Z7 at h
 refine E5 rfl Tryz.func95 rfl rfl ?_
 exact Z4⟩
theorem a4R (n:Nat){Φ:j3} [hΦ:j3.Ok Φ] {d9:List Tok}{at2 j4:Int}:a0z d9 at2 j4 (P6 n Φ d9 at2 j4):=⟨fun{r} h=>by
 unfold P6 at h
 refine E5 rfl Tryz.func132 rfl rfl ?_
 let kr:=fun r:Rs (List Nod×Int) (j5×Int)=>a2a env 132 1 Tryz.f132.results.toList (a15 d9 at2 j4 r)
 let jn1:Jn 5 (List Nod×Int):=⟨fun fr H z=>([(3,.st 1 F5 z.1)],[(0,.row [.sl p8 d9,.i z.2,.i j4]),(1,.tip (tpe 10 (List.length z.1)) (List.length z.1))])⟩
 let jl1:Jn 2 (List Nod×Int):=⟨fun fr H z=>([(0,.ptr 0 0),(3,.st 1 F5 z.1)],[(0,.row [.sl p8 d9,.i z.2,.i j4]),(1,.tip (tpe 10 (List.length z.1)) (List.length z.1))])⟩
 exact Z4⟩
theorem a5v (n:Nat){Φ:j3} [hΦ:j3.Ok Φ] {d9:List Tok}{at2 j4:Int}:a0O d9 at2 j4 (Q7 n Φ d9 at2 j4):=⟨fun{r} h=>by
 unfold Q7 at h
 refine E5 rfl Tryz.func147 rfl rfl ?_
 let kr:=fun r:Rs (Nod×Int) (j5×Int)=>a2a env 147 1 Tryz.f147.results.toList (a2k d9 at2 j4 r)
 let jn1:Jn 5 (Str):=⟨fun fr H z=>([(0,.ptr 0 0),(2,.ptr 1 0),(3,.str z)],[(0,oH H 0),(1,.row [.i 0,.str [],.i 0,.i 0,.str [],.i 0,.slice (.tag 2) 0 [],.slice (.tag 3) 0 [],.slice (.tag 4) 0 [],.i 0]),(2,.tip 0 0),(3,.tip 0 0),(4,.tip 0 0)])⟩
 let jn2:Jn 30008 (Bool):=⟨fun fr H z=>([(0,.ptr 0 0),(2,.ptr 1 0),(23,(lk 3 fr)),(24,.bool z)],[(0,oH H 0),(1,oH H 1),(2,.tip 0 0),(3,.tip 0 0),(4,.tip 0 0)])⟩
 let jn3:Jn 27 (Int×List Nod):=⟨fun fr H z=>([(2,.ptr 1 0),(5,.ptr 2 0)],[(0,.row [.sl p8 d9,.i z.1,.i j4]),(1,.row [.i 0,.str [],.i 0,.i 0,.str [],.i 0,.slice (.tag 3) 0 [],.slice (.tag 4) 0 [],.slice (.tag 5) 0 [],.i 0]),(2,.row [.i 28,.str [],.i 0,.i 0,.str [],.i 0,.slice .sealed 0 [],.slice (.tag 6) 0 [],.st 7 F5 z.2,(agC (lk 67 fr) 9)]),(3,.tip 0 0),(4,.tip 0 0),(5,.tip 0 0),(6,.tip 0 0),(7,.tip (tpe 10 (List.length z.2)) (List.length z.2))])⟩
 let ls:Nat->List Nat:=fun n=>cond (Nat.beq n 45) [640] (cond (Nat.beq n 37) [512] (cond (Nat.beq n 18) [320] ([])))
 exact Z4⟩
theorem a7A (n:Nat){Φ:j3} [hΦ:j3.Ok Φ] {d9:List Tok}{at2 j4:Int}:a1q d9 at2 j4 (Z9 n Φ d9 at2 j4):=⟨fun{r} h=>by
 unfold Z9 at h
 refine E5 rfl Tryz.func157 rfl rfl ?_
 let kr:=fun r:Rs (Nod×Int) (j5×Int)=>a2a env 157 1 Tryz.f157.results.toList (a3y d9 at2 j4 r)
 let jn1:Jn 6 (Int×Int):=⟨fun fr H z=>([(0,.ptr 0 0),(2,.ptr 1 0),(3,.ptr 2 0)],[(0,.row [.sl p8 d9,.i z.1,.i j4]),(1,.row [.i 0,.str [],.i 0,.i 0,.str [],.i 0,.slice (.tag 3) 0 [],.slice (.tag 4) 0 [],.slice (.tag 5) 0 [],.i 0]),(2,.row [.i 21,.str [],.i z.2,.i 0,.str [],.i 0,.slice .sealed 0 [],.slice (.tag 6) 0 [],.slice (.tag 7) 0 [],(agC (lk 6 fr) 9)]),(3,.tip 0 0),(4,.tip 0 0),(5,.tip 0 0),(6,.tip 0 0),(7,.tip 0 0)])⟩
 let jn2:Jn 10 (Int×Int×Str×Int×List Typ):=⟨fun fr H z=>([(0,.ptr 0 0),(2,.ptr 1 0),(3,.ptr 2 0),(4,(lk 16 fr))],[(0,.row [.sl p8 d9,.i z.1,.i j4]),(1,oH H 1),(2,.row [.i 21,(lk 13 fr),(cH H 2 2),.i z.2.1,.str z.2.2.1,.i z.2.2.2.1,.sl D9 z.2.2.2.2,.slice (.tag 6) 0 [],.slice (.tag 7) 0 [],(cH H 2 9)]),(3,.tip 0 0),(4,.tip 0 0),(5,.tip 0 0),(6,.tip 0 0),(7,.tip 0 0)])⟩
 let jn3:Jn 30011 (Bool×Int):=⟨fun fr H z=>([(0,.ptr 0 0),(2,.ptr 1 0),(3,.ptr 2 0),(30,.bool z.1)],[(0,.row [.sl p8 d9,.i z.2,.i j4]),(1,oH H 1),(2,oH H 2),(3,.tip 0 0),(4,.tip 0 0),(5,.tip 0 0),(6,.tip 0 0),(7,.tip 0 0)])⟩
 exact Z4⟩
theorem a7Y (n:Nat){Φ:j3} [hΦ:j3.Ok Φ] {d9:List Tok}{at2 j4:Int}:a1C d9 at2 j4 (a0q n Φ d9 at2 j4):=⟨fun{r} h=>by
 unfold a0q at h
 refine E5 rfl Tryz.func35 rfl rfl ?_
 exact Z4⟩
theorem a7D (n:Nat){Φ:j3} [hΦ:j3.Ok Φ] {d9:List Tok}{at2 j4:Int}:a1s d9 at2 j4 (a0d n Φ d9 at2 j4):=⟨fun{r} h=>by
 unfold a0d at h
 refine E5 rfl Tryz.func66 rfl rfl ?_
 let kr:=fun r:Rs (Nod×Int) (j5×Int)=>a2a env 66 1 Tryz.f66.results.toList (a3B d9 at2 j4 r)
 let jn1:Jn 7 (Int×Int):=⟨fun fr H z=>([(0,.ptr 0 0),(2,.ptr 1 0),(3,.ptr 2 0)],[(0,.row [.sl p8 d9,.i z.1,.i j4]),(1,.row [.i 0,.str [],.i 0,.i 0,.str [],.i 0,.slice (.tag 3) 0 [],.slice (.tag 4) 0 [],.slice (.tag 5) 0 [],.i 0]),(2,.row [.i z.2,.str [],.i 0,.i 0,.str [],.i 0,.slice .sealed 0 [],.slice (.tag 6) 0 [],.slice (.tag 7) 0 [],(agC (lk 5 fr) 9)]),(3,.tip 0 0),(4,.tip 0 0),(5,.tip 0 0),(6,.tip 0 0),(7,.tip 0 0)])⟩
 exact Z4⟩
theorem a6r (n:Nat){Φ:j3} [hΦ:j3.Ok Φ] {d9:List Tok}{at2 j4:Int}:a02 d9 at2 j4 (U8 n Φ d9 at2 j4):=⟨fun{r} h=>by
 unfold U8 at h
 refine E5 rfl Tryz.func112 rfl rfl ?_
 let kr:=fun r:Rs (Nod×Int) (j5×Int)=>a2a env 112 1 Tryz.f112.results.toList (a2H d9 at2 j4 r)
 let jl1:Jn 4 (Bool×Int×Nod):=⟨fun fr H z=>([(0,.ptr 0 0),(2,.ptr 1 0),(3,.bool z.1),(4,.ptr 2 0)],[(0,.row [.sl p8 d9,.i z.2.1,.i j4]),(1,.row [.i 0,.str [],.i 0,.i 0,.str [],.i 0,.slice (.tag 3) 0 [],.slice (.tag 4) 0 [],.slice (.tag 5) 0 [],.i 0]),(2,.row (c0 z.2.2.op z.2.2.s z.2.2.n z.2.2.t.kind z.2.2.t.name z.2.2.t.n (.sl D9 z.2.2.t.args) (.sl D9 z.2.2.ts) (.sl F5 z.2.2.l) z.2.2.at_)),(3,.tip 0 0),(4,.tip 0 0),(5,.tip 0 0)])⟩
 let jn1:Jn 17 (Int×Int×Str×List Nod):=⟨fun fr H z=>([(0,.ptr 0 0),(2,.ptr 1 0),(4,.ptr 2 0)],[(0,.row [.sl p8 d9,.i z.1,.i j4]),(1,oH H 1),(2,.row [.i z.2.1,.str z.2.2.1,.i 0,.i 0,.str [],.i 0,.slice (.tag 6) 0 [],.slice (.tag 7) 0 [],.sl F5 z.2.2.2,(cH H 2 9)]),(3,.tip 0 0),(4,.tip 0 0),(5,.tip 0 0),(6,.tip 0 0),(7,.tip 0 0)])⟩
 let jn2:Jn 10 (Int×Int×List Nod):=⟨fun fr H z=>([(0,.ptr 0 0),(2,.ptr 1 0),(4,.ptr 2 0),(5,.ptr 3 0)],[(0,.row [.sl p8 d9,.i z.1,.i j4]),(1,.row [.i 0,.str [],.i 0,.i 0,.str [],.i 0,.slice (.tag 4) 0 [],.slice (.tag 5) 0 [],.slice (.tag 6) 0 [],.i 0]),(2,oH H 2),(3,.row [.i z.2.1,(lk 16 fr),.i 0,.i 0,.str [],.i 0,.slice (.tag 7) 0 [],.slice (.tag 8) 0 [],.st 9 F5 z.2.2,(lk 18 fr)]),(4,.tip 0 0),(5,.tip 0 0),(6,.tip 0 0),(7,.tip 0 0),(8,.tip 0 0),(9,.tip (tpe 10 (List.length z.2.2)) (List.length z.2.2))])⟩
 let ls:Nat->List Nat:=fun n=>cond (Nat.beq n 14) [448] (cond (Nat.beq n 12) [2,2] (cond (Nat.beq n 8) [384] (cond (Nat.beq n 5) [2,2] ([]))))
 exact Z4⟩
theorem a7W (n:Nat){Φ:j3} [hΦ:j3.Ok Φ] {d9:List Tok}{at2 j4:Int}:a1B d9 at2 j4 (O0 n Φ d9 at2 j4):=⟨fun{r} h=>by
 unfold O0 at h
 refine E5 rfl Tryz.func139 rfl rfl ?_
 let kr:=fun r:Rs (Nod×Int) (j5×Int)=>a2a env 139 1 Tryz.f139.results.toList (a3R d9 at2 j4 r)
 let jn1:Jn 37 (Int×Int×Str×Int×Int×Str×Int×List Typ×List Nod):=⟨fun fr H z=>([(2,.ptr 1 0),(3,.ptr 2 0)],[(0,.row [.sl p8 d9,.i z.1,.i j4]),(1,.row [.i 0,.str [],.i 0,.i 0,.str [],.i 0,.slice (.tag 3) 0 [],.slice (.tag 4) 0 [],.slice (.tag 5) 0 [],.i 0]),(2,.row [.i z.2.1,.str z.2.2.1,.i z.2.2.2.1,.i z.2.2.2.2.1,.str z.2.2.2.2.2.1,.i z.2.2.2.2.2.2.1,.sl D9 z.2.2.2.2.2.2.2.1,.slice (.tag 6) 0 [],.sl F5 z.2.2.2.2.2.2.2.2,(agC (lk 6 fr) 9)]),(3,.tip 0 0),(4,.tip 0 0),(5,.tip 0 0),(6,.tip 0 0)])⟩
 let jn2:Jn 30 (Int×List Nod):=⟨fun fr H z=>([(0,.ptr 0 0),(2,.ptr 1 0),(3,.ptr 2 0)],[(0,.row [.sl p8 d9,.i z.1,.i j4]),(1,.row [.i 0,.str [],.i 0,.i 0,.str [],.i 0,.slice (.tag 3) 0 [],.slice (.tag 4) 0 [],.slice (.tag 5) 0 [],.i 0]),(2,.row [.i 67,.str [],.i 0,.i 0,.str [],.i 0,.slice .sealed 0 [],.slice (.tag 6) 0 [],.st 7 F5 z.2,(agC (lk 6 fr) 9)]),(3,.tip 0 0),(4,.tip 0 0),(5,.tip 0 0),(6,.tip 0 0),(7,.tip (tpe 10 (List.length z.2)) (List.length z.2))])⟩
 let jl1:Jn 27 (Int×List Nod):=⟨fun fr H z=>([(0,.ptr 0 0),(2,.ptr 1 0),(3,.ptr 2 0)],[(0,.row [.sl p8 d9,.i z.1,.i j4]),(1,.row [.i 0,.str [],.i 0,.i 0,.str [],.i 0,.slice (.tag 3) 0 [],.slice (.tag 4) 0 [],.slice (.tag 5) 0 [],.i 0]),(2,.row [.i 67,.str [],.i 0,.i 0,.str [],.i 0,.slice .sealed 0 [],.slice (.tag 6) 0 [],.st 7 F5 z.2,(agC (lk 6 fr) 9)]),(3,.tip 0 0),(4,.tip 0 0),(5,.tip 0 0),(6,.tip 0 0),(7,.tip (tpe 10 (List.length z.2)) (List.length z.2))])⟩
 let ls:Nat->List Nat:=fun n=>cond (Nat.beq n 28) [2] (cond (Nat.beq n 26) [256] ([]))
 exact Z4⟩
theorem a7V (n:Nat){Φ:j3} [hΦ:j3.Ok Φ] {d9:List Tok}{at2 j4:Int}:a1A d9 at2 j4 (a0p n Φ d9 at2 j4):=⟨fun{r} h=>by
 unfold a0p at h
 refine E5 rfl Tryz.func140 rfl rfl ?_
 let kr:=fun r:Rs (List Nod×Int) (j5×Int)=>a2a env 140 1 Tryz.f140.results.toList (a3Q d9 at2 j4 r)
 let jn1:Jn 12 (List Nod×Int):=⟨fun fr H z=>([(0,.ptr 0 0),(3,.st 1 F5 z.1)],[(0,.row [.sl p8 d9,.i z.2,.i j4]),(1,.tip (tpe 10 (List.length z.1)) (List.length z.1))])⟩
 let jl1:Jn 5 (List Nod×Int):=⟨fun fr H z=>([(0,.ptr 0 0),(3,.st 1 F5 z.1)],[(0,.row [.sl p8 d9,.i z.2,.i j4]),(1,.tip (tpe 10 (List.length z.1)) (List.length z.1))])⟩
 let jn2:Jn 11 (List Nod×Int):=⟨fun fr H z=>([(0,.ptr 0 0),(3,.st 1 F5 z.1)],[(0,.row [.sl p8 d9,.i z.2,.i j4]),(1,.tip (tpe 10 (List.length z.1)) (List.length z.1))])⟩
 exact Z4⟩
theorem a6S (n:Nat){Φ:j3} [hΦ:j3.Ok Φ] {d9:List Tok}{at2 j4:Int}:a1d d9 at2 j4 (X8 n Φ d9 at2 j4):=⟨fun{r} h=>by
 unfold X8 at h
 refine E5 rfl Tryz.func150 rfl rfl ?_
 let jl1:Jn 5 (Int×List Nod×Str×Int):=⟨fun fr H z=>([(0,.ptr 0 0),(2,.ptr 1 0),(3,.ptr 2 0),(4,.ptr 3 0)],[(0,.row [.sl p8 d9,.i z.1,.i j4]),(1,.row [.i 0,.str [],.i 0,.i 0,.str [],.i 0,.slice (.tag 4) 0 [],.slice (.tag 5) 0 [],.slice (.tag 6) 0 [],.i 0]),(2,.row [.i 53,.str [],.i 0,.i 0,.str [],.i 0,.slice .sealed 0 [],.slice (.tag 7) 0 [],.st 8 F5 z.2.1,(agC (lk 6 fr) 9)]),(3,.row [.i 52,.str z.2.2.1,.i 0,.i 0,.str [],.i 0,.slice .sealed 0 [],.slice (.tag 9) 0 [],.slice (.tag 10) 0 [],.i z.2.2.2]),(4,.tip 0 0),(5,.tip 0 0),(6,.tip 0 0),(7,.tip 0 0),(8,.tip (tpe 10 (List.length z.2.1)) (List.length z.2.1)),(9,.tip 0 0),(10,.tip 0 0)])⟩
 let ls:Nat->List Nat:=fun n=>cond (Nat.beq n 5) [2] ([])
 exact Z4⟩
theorem a6m (n:Nat){Φ:j3} [hΦ:j3.Ok Φ] {d9:List Tok}{at2 j4:Int}:a00 d9 at2 j4 (U2 n Φ d9 at2 j4):=⟨fun{r} h=>by
 unfold U2 at h
 refine E5 rfl Tryz.func151 rfl rfl ?_
 exact Z4⟩
theorem a7x (n:Nat){Φ:j3} [hΦ:j3.Ok Φ] {a0g:Nod}{P8:List E8}{J5:List Tok}{at4 a0Z:Int}:a1o a0g P8 J5 at4 a0Z (Z8 n Φ a0g P8 J5 at4 a0Z):=⟨fun{r} h=>by
 unfold Z8 at h
 obtain⟨first1_0,first1_1,first1_2,⟨first1_3,first1_4,first1_5,first1_6⟩,first1_7,first1_8,first1_9⟩:=a0g
 refine E5 rfl Tryz.func68 rfl rfl ?_
 let kr:=fun r:Rs (Nod×Int) (j5×Int)=>a2a env 68 1 Tryz.f68.results.toList (a3x (Nod.mk first1_0 first1_1 first1_2 (Typ.mk first1_3 first1_4 first1_5 first1_6) first1_7 first1_8 first1_9) P8 J5 at4 a0Z r)
 let jn1:Jn 15 (Int×Nod):=⟨fun fr H z=>([(6,.ptr 1 0),(7,.ptr 2 0)],[(0,.row [.sl p8 J5,.i z.1,.i a0Z]),(1,.row [.i 0,.str [],.i 0,.i 0,.str [],.i 0,.slice (.tag 3) 0 [],.slice (.tag 4) 0 [],.slice (.tag 5) 0 [],.i 0]),(2,.row (c0 z.2.op z.2.s z.2.n z.2.t.kind z.2.t.name z.2.t.n (.sl D9 z.2.t.args) (.sl D9 z.2.ts) (.sl F5 z.2.l) z.2.at_)),(3,.tip 0 0),(4,.tip 0 0),(5,.tip 0 0)])⟩
 let jl1:Jn 3 (Int×Int×Nod):=⟨fun fr H z=>([(0,.ptr 0 0),(2,.sl a0f P8),(6,.ptr 1 0),(7,.ptr 2 0),(14,.i (List.length P8:Int)),(15,.i z.1)],[(0,.row [.sl p8 J5,.i z.2.1,.i a0Z]),(1,.row [.i 0,.str [],.i 0,.i 0,.str [],.i 0,.slice (.tag 3) 0 [],.slice (.tag 4) 0 [],.slice (.tag 5) 0 [],.i 0]),(2,.row (c0 z.2.2.op z.2.2.s z.2.2.n z.2.2.t.kind z.2.2.t.name z.2.2.t.n (.sl D9 z.2.2.t.args) (.sl D9 z.2.2.ts) (.sl F5 z.2.2.l) z.2.2.at_)),(3,.tip 0 0),(4,.tip 0 0),(5,.tip 0 0)])⟩
 let jn2:Jn 14 (Int×Int×Nod):=⟨fun fr H z=>([(0,.ptr 0 0),(2,.sl a0f P8),(6,.ptr 1 0),(7,.ptr 2 0),(14,.i (List.length P8:Int)),(15,.i z.1)],[(0,.row [.sl p8 J5,.i z.2.1,.i a0Z]),(1,oH H 1),(2,.row (c0 z.2.2.op z.2.2.s z.2.2.n z.2.2.t.kind z.2.2.t.name z.2.2.t.n (.sl D9 z.2.2.t.args) (.sl D9 z.2.2.ts) (.sl F5 z.2.2.l) z.2.2.at_)),(3,.tip 0 0),(4,.tip 0 0),(5,.tip 0 0)])⟩
 let jl2:Jn 6 (Int×Int×Int×Nod):=⟨fun fr H z=>([(0,.ptr 0 0),(2,.sl a0f P8),(6,.ptr 1 0),(7,.ptr 2 0),(9,.i z.1),(14,.i (List.length P8:Int)),(15,.i z.2.1)],[(0,.row [.sl p8 J5,.i z.2.2.1,.i a0Z]),(1,oH H 1),(2,.row (c0 z.2.2.2.op z.2.2.2.s z.2.2.2.n z.2.2.2.t.kind z.2.2.2.t.name z.2.2.2.t.n (.sl D9 z.2.2.2.t.args) (.sl D9 z.2.2.2.ts) (.sl F5 z.2.2.2.l) z.2.2.2.at_)),(3,.tip 0 0),(4,.tip 0 0),(5,.tip 0 0)])⟩
 let jn3:Jn 90065 (Bool):=⟨fun fr H z=>([(0,.ptr 0 0),(2,.sl a0f P8),(6,.ptr 1 0),(7,.ptr 2 0),(9,(lk 9 fr)),(14,.i (List.length P8:Int)),(15,(lk 15 fr)),(65,.bool z)],[(0,oH H 0),(1,oH H 1),(2,oH H 2),(3,.tip 0 0),(4,.tip 0 0),(5,.tip 0 0)])⟩
 let ls:Nat->List Nat:=fun n=>cond (Nat.beq n 9) [] (cond (Nat.beq n 7) [2,0,0] ([]))
 exact Z4⟩
theorem a4B (n:Nat){Φ:j3} [hΦ:j3.Ok Φ] {d9:List Tok}{at2 j4:Int}:a0j d9 at2 j4 (O5 n Φ d9 at2 j4):=⟨fun{r} h=>by
 unfold O5 at h
 refine E5 rfl Tryz.func158 rfl rfl ?_
 let kr:=fun r:Rs (Nod×Int) (j5×Int)=>a2a env 158 1 Tryz.f158.results.toList (a1Y d9 at2 j4 r)
 let jn1:Jn 12 (Int×List Nod):=⟨fun fr H z=>([(2,.ptr 1 0),(3,.ptr 2 0)],[(0,.row [.sl p8 d9,.i z.1,.i j4]),(1,.row [.i 0,.str [],.i 0,.i 0,.str [],.i 0,.slice (.tag 3) 0 [],.slice (.tag 4) 0 [],.slice (.tag 5) 0 [],.i 0]),(2,.row [.i 24,.str [],.i 0,.i 0,.str [],.i 0,.slice .sealed 0 [],.slice (.tag 6) 0 [],.st 7 F5 z.2,(agC (lk 6 fr) 9)]),(3,.tip 0 0),(4,.tip 0 0),(5,.tip 0 0),(6,.tip 0 0),(7,.tip (tpe 10 (List.length z.2)) (List.length z.2))])⟩
 let jn2:Jn 11 (Int×Nod):=⟨fun fr H z=>([(2,.ptr 1 0),(3,.ptr 2 0),(4,.ptr 3 0)],[(0,.row [.sl p8 d9,.i z.1,.i j4]),(1,.row [.i 0,.str [],.i 0,.i 0,.str [],.i 0,.slice (.tag 4) 0 [],.slice (.tag 5) 0 [],.slice (.tag 6) 0 [],.i 0]),(2,.row [.i 24,.str [],.i 0,.i 0,.str [],.i 0,.slice .sealed 0 [],.slice (.tag 7) 0 [],ow (.tag 8) (lk 18 fr),(agC (lk 6 fr) 9)]),(3,.row (c0 z.2.op z.2.s z.2.n z.2.t.kind z.2.t.name z.2.t.n (.sl D9 z.2.t.args) (.sl D9 z.2.ts) (.sl F5 z.2.l) z.2.at_)),(4,.tip 0 0),(5,.tip 0 0),(6,.tip 0 0),(7,.tip 0 0),(8,oH H 1216)])⟩
 let ls:Nat->List Nat:=fun n=>cond (Nat.beq n 4) [256] ([])
 exact Z4⟩
theorem a7B (n:Nat){Φ:j3} [hΦ:j3.Ok Φ] {d9:List Tok}{at2 j4:Int}:a1r d9 at2 j4 (a0a n Φ d9 at2 j4):=⟨fun{r} h=>by
 unfold a0a at h
 refine E5 rfl Tryz.func159 rfl rfl ?_
 let kr:=fun r:Rs (Nod×Int) (j5×Int)=>a2a env 159 1 Tryz.f159.results.toList (a3z d9 at2 j4 r)
 let jn1:Jn 12 (Int×List Nod):=⟨fun fr H z=>([(0,.ptr 0 0),(2,.ptr 1 0),(3,.ptr 2 0)],[(0,.row [.sl p8 d9,.i z.1,.i j4]),(1,.row [.i 0,.str [],.i 0,.i 0,.str [],.i 0,.slice (.tag 3) 0 [],.slice (.tag 4) 0 [],.slice (.tag 5) 0 [],.i 0]),(2,.row [.i 26,.str [],.i 0,.i 0,.str [],.i 0,.slice .sealed 0 [],.slice (.tag 6) 0 [],.st 7 F5 z.2,(agC (lk 8 fr) 9)]),(3,.tip 0 0),(4,.tip 0 0),(5,.tip 0 0),(6,.tip 0 0),(7,.tip (tpe 10 (List.length z.2)) (List.length z.2))])⟩
 let jl1:Jn 5 (Int×List Nod):=⟨fun fr H z=>([(0,.ptr 0 0),(2,.ptr 1 0),(3,.ptr 2 0)],[(0,.row [.sl p8 d9,.i z.1,.i j4]),(1,.row [.i 0,.str [],.i 0,.i 0,.str [],.i 0,.slice (.tag 3) 0 [],.slice (.tag 4) 0 [],.slice (.tag 5) 0 [],.i 0]),(2,.row [.i 26,.str [],.i 0,.i 0,.str [],.i 0,.slice .sealed 0 [],.slice (.tag 6) 0 [],.st 7 F5 z.2,(agC (lk 8 fr) 9)]),(3,.tip 0 0),(4,.tip 0 0),(5,.tip 0 0),(6,.tip 0 0),(7,.tip (tpe 10 (List.length z.2)) (List.length z.2))])⟩
 let jn2:Jn 17 (Int×List Nod):=⟨fun fr H z=>([(0,.ptr 0 0),(2,.ptr 1 0),(3,.ptr 2 0)],[(0,.row [.sl p8 d9,.i z.1,.i j4]),(1,oH H 1),(2,.row [.i 26,.str [],.i 0,.i 0,.str [],.i 0,.slice .sealed 0 [],.slice (.tag 6) 0 [],.st 7 F5 z.2,(cH H 2 9)]),(3,.tip 0 0),(4,.tip 0 0),(5,.tip 0 0),(6,.tip 0 0),(7,.tip (tpe 10 (List.length z.2)) (List.length z.2))])⟩
 let ls:Nat->List Nat:=fun n=>cond (Nat.beq n 14) [384] (cond (Nat.beq n 9) [320] ([]))
 exact Z4⟩
theorem a8M (n:Nat){Φ:j3} [hΦ:j3.Ok Φ] {op1:Int}{o7:List Tok}{at3 D6:Int}:a1U op1 o7 at3 D6 (a0J n Φ op1 o7 at3 D6):=⟨fun{r} h=>by
 unfold a0J at h
 refine E5 rfl Tryz.func160 rfl rfl ?_
 exact Z4⟩
theorem j3.ok:∀n,j3.Ok (j3.fs n)
 | 0=>⟨⟨fun h=>by cases h⟩,⟨fun h=>by cases h⟩,⟨fun h=>by cases h⟩,⟨fun h=>by cases h⟩,⟨fun h=>by cases h⟩,⟨fun h=>by cases h⟩,⟨fun h=>by cases h⟩,⟨fun h=>by cases h⟩,⟨fun h=>by cases h⟩,⟨fun h=>by cases h⟩,⟨fun h=>by cases h⟩,⟨fun h=>by cases h⟩,⟨fun h=>by cases h⟩,⟨fun h=>by cases h⟩,⟨fun h=>by cases h⟩⟩
 | n+1=>have:=j3.ok n;⟨a7u n,a4R n,a5v n,a7A n,a7Y n,a7D n,a6r n,a7W n,a7V n,a6S n,a6m n,a7x n,a4B n,a7B n,a8M n⟩
instance b7N {n:Nat}{d9:List Tok}{at2 j4:Int}:a1n d9 at2 j4 (D8 n d9 at2 j4):=(j3.ok n).D8
instance b34 {n:Nat}{d9:List Tok}{at2 j4:Int}:a0z d9 at2 j4 (G8 n d9 at2 j4):=(j3.ok n).G8
instance b4d {n:Nat}{d9:List Tok}{at2 j4:Int}:a0O d9 at2 j4 (G6 n d9 at2 j4):=(j3.ok n).G6
instance b7Q {n:Nat}{d9:List Tok}{at2 j4:Int}:a1q d9 at2 j4 (K4 n d9 at2 j4):=(j3.ok n).K4
instance b8n {n:Nat}{d9:List Tok}{at2 j4:Int}:a1C d9 at2 j4 (w9 n d9 at2 j4):=(j3.ok n).w9
instance b7U {n:Nat}{d9:List Tok}{at2 j4:Int}:a1s d9 at2 j4 (G7 n d9 at2 j4):=(j3.ok n).G7
instance b59 {n:Nat}{d9:List Tok}{at2 j4:Int}:a02 d9 at2 j4 (J3 n d9 at2 j4):=(j3.ok n).J3
instance b8m {n:Nat}{d9:List Tok}{at2 j4:Int}:a1B d9 at2 j4 (I8 n d9 at2 j4):=(j3.ok n).I8
instance b8l {n:Nat}{d9:List Tok}{at2 j4:Int}:a1A d9 at2 j4 (F6 n d9 at2 j4):=(j3.ok n).F6
instance b6y {n:Nat}{d9:List Tok}{at2 j4:Int}:a1d d9 at2 j4 (J7 n d9 at2 j4):=(j3.ok n).J7
instance b55 {n:Nat}{d9:List Tok}{at2 j4:Int}:a00 d9 at2 j4 (I9 n d9 at2 j4):=(j3.ok n).I9
instance b7P {n:Nat}{a0g:Nod}{P8:List E8}{J5:List Tok}{at4 a0Z:Int}:a1o a0g P8 J5 at4 a0Z (H8 n a0g P8 J5 at4 a0Z):=(j3.ok n).H8
instance b3y {n:Nat}{d9:List Tok}{at2 j4:Int}:a0j d9 at2 j4 (F7 n d9 at2 j4):=(j3.ok n).F7
instance b7R {n:Nat}{d9:List Tok}{at2 j4:Int}:a1r d9 at2 j4 (K5 n d9 at2 j4):=(j3.ok n).K5
instance b9v {n:Nat}{op1:Int}{o7:List Tok}{at3 D6:Int}:a1U op1 o7 at3 D6 (L6 n op1 o7 at3 D6):=(j3.ok n).L6
abbrev a6Q (d9:List Tok)(at2 j4:Int)(p:Option (Rs (Nod×Int) (j5×Int))):Prop:=OkF env p 45 [.ptr 0 0] (hP p8 d9 at2 j4) (a5L d9 at2 j4)
instance b40 {n:Nat}{d9:List Tok}{at2 j4:Int}:a6Q d9 at2 j4 (Q9 n d9 at2 j4):=⟨fun{r} h=>by
 unfold Q9 at h
 refine E5 rfl Tryz.func45 rfl rfl ?_
 let ls:Nat->List Nat:=fun n=>cond (Nat.beq n 3) [256] ([])
 exact Z4⟩
abbrev a8a (d9:List Tok)(at2 j4:Int)(p:Option (Rs (Nod×Int) (j5×Int))):Prop:=OkF env p 44 [.ptr 0 0] (hP p8 d9 at2 j4) (a3d d9 at2 j4)
instance b6w {n:Nat}{d9:List Tok}{at2 j4:Int}:a8a d9 at2 j4 (a0r n d9 at2 j4):=⟨fun{r} h=>by
 unfold a0r at h
 refine E5 rfl Tryz.func44 rfl rfl ?_
 let kr:=fun r:Rs (Nod×Int) (j5×Int)=>a2a env 44 1 Tryz.f44.results.toList (a3d d9 at2 j4 r)
 let jn1:Jn 17 (Int×List Nod):=⟨fun fr H z=>([(0,.ptr 0 0),(2,.ptr 1 0),(3,.ptr 2 0)],[(0,.row [.sl p8 d9,.i z.1,.i j4]),(1,.row [.i 0,.str [],.i 0,.i 0,.str [],.i 0,.slice (.tag 3) 0 [],.slice (.tag 4) 0 [],.slice (.tag 5) 0 [],.i 0]),(2,.row [.i 6,(lk 16 fr),.i 0,(agC (lk 11 fr) 0),(agC (lk 11 fr) 1),(agC (lk 11 fr) 2),ow .sealed (agC (lk 11 fr) 3),.slice (.tag 6) 0 [],.st 7 F5 z.2,(agC (lk 7 fr) 9)]),(3,.tip 0 0),(4,.tip 0 0),(5,.tip 0 0),(6,.tip 0 0),(7,.tip (tpe 10 (List.length z.2)) (List.length z.2))])⟩
 let jl1:Jn 8 (Int×List Nod):=⟨fun fr H z=>([(0,.ptr 0 0),(2,.ptr 1 0),(3,.ptr 2 0)],[(0,.row [.sl p8 d9,.i z.1,.i j4]),(1,.row [.i 0,.str [],.i 0,.i 0,.str [],.i 0,.slice (.tag 3) 0 [],.slice (.tag 4) 0 [],.slice (.tag 5) 0 [],.i 0]),(2,.row [.i 6,(lk 16 fr),.i 0,(agC (lk 11 fr) 0),(agC (lk 11 fr) 1),(agC (lk 11 fr) 2),ow .sealed (agC (lk 11 fr) 3),.slice (.tag 6) 0 [],.st 7 F5 z.2,(agC (lk 7 fr) 9)]),(3,.tip 0 0),(4,.tip 0 0),(5,.tip 0 0),(6,.tip 0 0),(7,.tip (tpe 10 (List.length z.2)) (List.length z.2))])⟩
 let jn2:Jn 20 (Int×List Nod):=⟨fun fr H z=>([(0,.ptr 0 0),(2,.ptr 1 0),(3,.ptr 2 0)],[(0,.row [.sl p8 d9,.i z.1,.i j4]),(1,oH H 1),(2,.row [.i 6,(cH H 2 1),.i 0,(cH H 2 3),(cH H 2 4),(cH H 2 5),ow .sealed (cH H 2 6),.slice (.tag 6) 0 [],.st 7 F5 z.2,(cH H 2 9)]),(3,.tip 0 0),(4,.tip 0 0),(5,.tip 0 0),(6,.tip 0 0),(7,.tip (tpe 10 (List.length z.2)) (List.length z.2))])⟩
 let jl2:Jn 16 (Int×List Nod):=⟨fun fr H z=>([(0,.ptr 0 0),(2,.ptr 1 0),(3,.ptr 2 0)],[(0,.row [.sl p8 d9,.i z.1,.i j4]),(1,oH H 1),(2,.row [.i 6,(cH H 2 1),.i 0,(cH H 2 3),(cH H 2 4),(cH H 2 5),ow .sealed (cH H 2 6),.slice (.tag 6) 0 [],.st 7 F5 z.2,(cH H 2 9)]),(3,.tip 0 0),(4,.tip 0 0),(5,.tip 0 0),(6,.tip 0 0),(7,.tip (tpe 10 (List.length z.2)) (List.length z.2))])⟩
 exact Z4⟩
abbrev a8c (d9:List Tok)(at2 j4:Int)(p:Option (Rs (List Nod×Int) (j5×Int))):Prop:=OkF env p 50 [.ptr 0 0] (hP p8 d9 at2 j4) (a3e d9 at2 j4)
instance b6x {n:Nat}{d9:List Tok}{at2 j4:Int}:a8c d9 at2 j4 (V8 n d9 at2 j4):=⟨fun{r} h=>by
 unfold V8 at h
 refine E5 rfl Tryz.func50 rfl rfl ?_
 let kr:=fun r:Rs (List Nod×Int) (j5×Int)=>a2a env 50 1 Tryz.f50.results.toList (a3e d9 at2 j4 r)
 let jn1:Jn 14 (List Nod×Int):=⟨fun fr H z=>([(0,.ptr 0 0),(3,.st 1 F5 z.1)],[(0,.row [.sl p8 d9,.i z.2,.i j4]),(1,.tip (tpe 10 (List.length z.1)) (List.length z.1))])⟩
 let jl1:Jn 3 (List Nod×Int):=⟨fun fr H z=>([(0,.ptr 0 0),(3,.st 1 F5 z.1)],[(0,.row [.sl p8 d9,.i z.2,.i j4]),(1,.tip (tpe 10 (List.length z.1)) (List.length z.1))])⟩
 let jn2:Jn 90013 (Bool):=⟨fun fr H z=>([(0,.ptr 0 0),(3,ow (.tag 1) (lk 3 fr)),(13,.bool z)],[(0,oH H 0),(1,oH H 1)])⟩
 let jn3:Jn 9 (Int×Int):=⟨fun fr H z=>([(0,.ptr 0 0),(3,ow (.tag 1) (lk 3 fr)),(4,.ptr 2 0)],[(0,.row [.sl p8 d9,.i z.1,.i j4]),(1,oH H 1),(2,.row [.i 13,.str [],.i z.2,.i 0,.str [],.i 0,.slice .sealed 0 [],.slice (.tag 3) 0 [],.slice (.tag 4) 0 [],(agC (lk 15 fr) 9)]),(3,.tip 0 0),(4,.tip 0 0)])⟩
 let jn4:Jn 18 (List Nod×Int):=⟨fun fr H z=>([(0,.ptr 0 0),(3,.st 1 F5 z.1)],[(0,.row [.sl p8 d9,.i z.2,.i j4]),(1,.tip (tpe 10 (List.length z.1)) (List.length z.1))])⟩
 exact Z4⟩
abbrev a8K (d9:List Tok)(at2 j4:Int)(p:Option (Rs (List Nod×Int) (Int×Int))):Prop:=OkF env p 51 [.ptr 0 0] (hP p8 d9 at2 j4) (a3w d9 at2 j4)
instance b7O {n:Nat}{d9:List Tok}{at2 j4:Int}:a8K d9 at2 j4 (a0I n d9 at2 j4):=⟨fun{r} h=>by
 unfold a0I at h
 refine E5 rfl Tryz.func51 rfl rfl ?_
 let kr:=fun r:Rs (List Nod×Int) (Int×Int)=>a2a env 51 1 Tryz.f51.results.toList (a3w d9 at2 j4 r)
 let jn1:Jn 17 (List Nod×Int):=⟨fun fr H z=>([(3,.st 1 F5 z.1)],[(0,.row [.sl p8 d9,.i z.2,.i j4]),(1,.tip (tpe 10 (List.length z.1)) (List.length z.1))])⟩
 let jl1:Jn 3 (List Nod×Int):=⟨fun fr H z=>([(0,.ptr 0 0),(3,.st 1 F5 z.1)],[(0,.row [.sl p8 d9,.i z.2,.i j4]),(1,.tip (tpe 10 (List.length z.1)) (List.length z.1))])⟩
 let jn2:Jn 8 (Int×Int):=⟨fun fr H z=>([(0,.ptr 0 0),(3,ow (.tag 1) (lk 3 fr)),(4,.ptr 2 0)],[(0,.row [.sl p8 d9,.i z.1,.i j4]),(1,oH H 1),(2,.row [.i 14,.str [],.i z.2,.i 0,.str [],.i 0,.slice .sealed 0 [],.slice (.tag 3) 0 [],.slice (.tag 4) 0 [],(agC (lk 11 fr) 9)]),(3,.tip 0 0),(4,.tip 0 0)])⟩
 let jn3:Jn 15 (List Nod×Int×Int×List Typ):=⟨fun fr H z=>([(0,.ptr 0 0),(3,.st 1 F5 z.1),(4,.ptr 2 0)],[(0,.row [.sl p8 d9,.i z.2.1,.i j4]),(1,.tip (tpe 10 (List.length z.1)) (List.length z.1)),(2,.row [.i 14,(lk 18 fr),.i z.2.2.1,.i 0,.str [],.i 0,.slice .sealed 0 [],.st 3 D9 z.2.2.2,.slice (.tag 4) 0 [],(cH H 2 9)]),(3,.tip (tpe 4 (List.length z.2.2.2)) (List.length z.2.2.2)),(4,.tip 0 0)])⟩
 let jn4:Jn 14 (List Nod×Int×Int×List Typ):=⟨fun fr H z=>([(0,.ptr 0 0),(3,.st 1 F5 z.1),(4,.ptr 2 0)],[(0,.row [.sl p8 d9,.i z.2.1,.i j4]),(1,.tip (tpe 10 (List.length z.1)) (List.length z.1)),(2,.row [.i 14,(lk 18 fr),.i z.2.2.1,.i 0,.str [],.i 0,.slice .sealed 0 [],.st 3 D9 z.2.2.2,.slice (.tag 4) 0 [],(cH H 2 9)]),(3,.tip (tpe 4 (List.length z.2.2.2)) (List.length z.2.2.2)),(4,.tip 0 0)])⟩
 let jl2:Jn 11 (List Nod×Int×Int×List Typ):=⟨fun fr H z=>([(0,.ptr 0 0),(3,.st 1 F5 z.1),(4,.ptr 2 0)],[(0,.row [.sl p8 d9,.i z.2.1,.i j4]),(1,.tip (tpe 10 (List.length z.1)) (List.length z.1)),(2,.row [.i 14,(lk 18 fr),.i z.2.2.1,.i 0,.str [],.i 0,.slice .sealed 0 [],.st 3 D9 z.2.2.2,.slice (.tag 4) 0 [],(cH H 2 9)]),(3,.tip (tpe 4 (List.length z.2.2.2)) (List.length z.2.2.2)),(4,.tip 0 0)])⟩
 let ls:Nat->List Nat:=fun n=>cond (Nat.beq n 12) [2] (cond (Nat.beq n 10) [2] ([]))
 exact Z4⟩
abbrev a5u (d9:List Tok)(at2 j4:Int)(p:Option (Rs (Nod×Int) (j5×Int))):Prop:=OkF env p 22 [.ptr 0 0] (hP p8 d9 at2 j4) (a1Z d9 at2 j4)
instance b3z {n:Nat}{d9:List Tok}{at2 j4:Int}:a5u d9 at2 j4 (Q0 n d9 at2 j4):=⟨fun{r} h=>by
 unfold Q0 at h
 refine E5 rfl Tryz.func22 rfl rfl ?_
 let kr:=fun r:Rs (Nod×Int) (j5×Int)=>a2a env 22 1 Tryz.f22.results.toList (a1Z d9 at2 j4 r)
 let jn1:Jn 17 (Int×Int):=⟨fun fr H z=>([(0,.ptr 0 0),(2,.ptr 1 0),(3,.ptr 2 0)],[(0,.row [.sl p8 d9,.i z.1,.i j4]),(1,.row [.i 0,.str [],.i 0,.i 0,.str [],.i 0,.slice (.tag 3) 0 [],.slice (.tag 4) 0 [],.slice (.tag 5) 0 [],.i 0]),(2,.row [.i 2,.str [],.i z.2,.i 0,.str [],.i 0,.slice .sealed 0 [],.slice (.tag 6) 0 [],.slice (.tag 7) 0 [],(agC (lk 20 fr) 9)]),(3,.tip 0 0),(4,.tip 0 0),(5,.tip 0 0),(6,.tip 0 0),(7,.tip 0 0)])⟩
 let jn2:Jn 19 (Int×Int):=⟨fun fr H z=>([(0,.ptr 0 0),(2,.ptr 1 0),(3,.ptr 2 0)],[(0,.row [.sl p8 d9,.i z.1,.i j4]),(1,oH H 1),(2,.row [.i 2,.str [],.i z.2,.i 0,.str [],.i 0,.slice .sealed 0 [],.slice (.tag 6) 0 [],.slice (.tag 7) 0 [],(cH H 2 9)]),(3,.tip 0 0),(4,.tip 0 0),(5,.tip 0 0),(6,.tip 0 0),(7,.tip 0 0)])⟩
 let jn3:Jn 30020 (Bool×Int):=⟨fun fr H z=>([(0,.ptr 0 0),(2,.ptr 1 0),(3,.ptr 2 0),(56,.bool z.1)],[(0,.row [.sl p8 d9,.i z.2,.i j4]),(1,oH H 1),(2,oH H 2),(3,.tip 0 0),(4,.tip 0 0),(5,.tip 0 0),(6,.tip 0 0),(7,.tip 0 0)])⟩
 let ls:Nat->List Nat:=fun n=>cond (Nat.beq n 27) [2] (cond (Nat.beq n 22) [2] (cond (Nat.beq n 12) [256] ([])))
 exact Z4⟩
abbrev b0I (d9:List Tok)(at2 j4 op4:Int)(s5:Str)(n6 a3M:Int)(a3P:Str)(n9:Int)(a07 ts11:List Typ)(l12:List Nod)(at13:Int)(a4y a4z:List Typ)(a4A:List Nod)(p:Option (Rs (Int×Nod) (j5×Int))):Prop:=OkF env p 21 [.ptr 1 0,.ptr 2 0] [(0,.row [.sl p8 d9,.i at2,.i j4]),(1,.row [.ptr 0 0]),(2,.row (c0 op4 s5 n6 a3M a3P n9 (.sl D9 a07) (.sl D9 ts11) (.sl F5 l12) at13)),(3,.tip (tpe 4 (List.length a4y)) (List.length a4y)),(4,.tip (tpe 4 (List.length a4z)) (List.length a4z)),(5,.tip (tpe 10 (List.length a4A)) (List.length a4A))] (a9t d9 at2 j4 op4 s5 n6 a3M a3P n9 a07 ts11 l12 at13 a4y a4z a4A)
instance c0N {n:Nat}{d9:List Tok}{at2 j4 op4:Int}{s5:Str}{n6 a3M:Int}{a3P:Str}{n9:Int}{a07 ts11:List Typ}{l12:List Nod}{at13:Int}{a4y a4z:List Typ}{a4A:List Nod}:b0I d9 at2 j4 op4 s5 n6 a3M a3P n9 a07 ts11 l12 at13 a4y a4z a4A (a2W n d9 at2 j4 op4 s5 n6 a3M a3P n9 a07 ts11 l12 at13 a4y a4z a4A):=⟨fun{r} h=>by
 unfold a2W at h
 refine E5 rfl Tryz.func21 rfl rfl ?_
 exact Z4⟩
abbrev a7y (d9:List Tok)(at2 j4 op4:Int)(s5:Str)(n6 a3M:Int)(a3P:Str)(n9:Int)(a07 ts11:List Typ)(l12:List Nod)(at13:Int)(p:Option (Flt×Int×Nod)):Prop:=OkF env p 20 [.ptr 0 0,.func (.func 21) [] [.ptr 1 0,.ptr 2 0]] [(0,.row [.sl p8 d9,.i at2,.i j4]),(1,.row [.ptr 0 0]),(2,.row (c0 op4 s5 n6 a3M a3P n9 (.st 3 D9 a07) (.st 4 D9 ts11) (.st 5 F5 l12) at13)),(3,.tip (tpe 4 (List.length a07)) (List.length a07)),(4,.tip (tpe 4 (List.length ts11)) (List.length ts11)),(5,.tip (tpe 10 (List.length l12)) (List.length l12))] (a6o d9 at2 j4 op4 s5 n6 a3M a3P n9 a07 ts11 l12 at13)
instance b56 {n:Nat}{d9:List Tok}{at2 j4 op4:Int}{s5:Str}{n6 a3M:Int}{a3P:Str}{n9:Int}{a07 ts11:List Typ}{l12:List Nod}{at13:Int}:a7y d9 at2 j4 op4 s5 n6 a3M a3P n9 a07 ts11 l12 at13 (a1p n d9 at2 j4 op4 s5 n6 a3M a3P n9 a07 ts11 l12 at13):=⟨fun{r} h=>by
 unfold a1p at h
 rcases c08 h with⟨⟨at14,n15⟩,g1,h⟩ |⟨⟨e16,at17⟩,g2,h⟩
 ·obtain⟨n15_0,n15_1,n15_2,⟨n15_3,n15_4,n15_5,n15_6⟩,n15_7,n15_8,n15_9⟩:=n15
  cases h
  exact E_via rfl rfl (OkF.ok g1) rfl
 ·cases h
  exact E_via rfl rfl (OkF.ok g2) rfl⟩
abbrev a8j (a5C:Int)(o7:List Tok)(at3 D6:Int)(p:Option (Int)):Prop:=OkF env p 23 [.ptr 0 0,.i a5C] (hP p8 o7 at3 D6) (a3g a5C o7 at3 D6)
instance b6B {n:Nat}{a5C:Int}{o7:List Tok}{at3 D6:Int}:a8j a5C o7 at3 D6 (Q8 n a5C o7 at3 D6):=⟨fun{r} h=>by
 unfold Q8 at h
 refine E5 rfl Tryz.func23 rfl rfl ?_
 let kr:=fun r:Int=>a2a env 23 1 Tryz.f23.results.toList (a3g a5C o7 at3 D6 r)
 let jn1:Jn 3 (Int):=⟨fun fr H z=>([(0,.ptr 0 0),(1,.i a5C)],(hP p8 o7 z D6))⟩
 let jn2:Jn 14 (Int):=⟨fun fr H z=>([(0,.ptr 0 0)],(hP p8 o7 z D6))⟩
 let jl1:Jn 4 (Int×Int×Int):=⟨fun fr H z=>([(0,.ptr 0 0),(4,.i z.1),(5,.i z.2.1)],[(0,.row [.sl p8 o7,.i z.2.2,.i D6])])⟩
 let jn3:Jn 6 (Int):=⟨fun fr H z=>([(0,.ptr 0 0),(4,.i z),(5,(lk 5 fr))],[(0,oH H 0)])⟩
 let jn4:Jn 30009 (Bool):=⟨fun fr H z=>([(0,.ptr 0 0),(4,(lk 4 fr)),(5,(lk 5 fr)),(6,.ptr 1 0),(57,.bool z)],[(0,oH H 0),(1,oH H 448)])⟩
 let jn5:Jn 30011 (Bool):=⟨fun fr H z=>([(0,.ptr 0 0),(4,(lk 4 fr)),(5,(lk 5 fr)),(6,.ptr 1 0),(69,.bool z)],[(0,oH H 0),(1,oH H 1)])⟩
 let jn6:Jn 30013 (Bool):=⟨fun fr H z=>([(0,.ptr 0 0),(4,(lk 4 fr)),(5,(lk 5 fr)),(79,.bool z)],[(0,oH H 0)])⟩
 exact Z4⟩
abbrev a4P (n1:Nod)(p:Option (Int×Int)):Prop:=OkF env p 24 [.agg (c0 n1.op n1.s n1.n n1.t.kind n1.t.name n1.t.n (.sl D9 n1.t.args) (.sl D9 n1.ts) (.sl F5 n1.l) n1.at_)] [] (a8J n1)
class K8.Ok (Φ:K8):Prop where
 a0H:∀{n1:Nod},a4P n1 (Φ.a0H n1)
instance {Φ:K8} [h:K8.Ok Φ] {n1:Nod}:a4P n1 (Φ.a0H n1):=h.a0H
theorem b3w (n:Nat){Φ:K8} [hΦ:K8.Ok Φ] {n1:Nod}:a4P n1 (a3v n Φ n1):=⟨fun{r} h=>by
 unfold a3v at h
 obtain⟨n1_0,n1_1,n1_2,⟨n1_3,n1_4,n1_5,n1_6⟩,n1_7,n1_8,n1_9⟩:=n1
 refine E5 rfl Tryz.func24 rfl rfl ?_
 let kr:=fun r:Int×Int=>a2a env 24 0 Tryz.f24.results.toList (a8J (Nod.mk n1_0 n1_1 n1_2 (Typ.mk n1_3 n1_4 n1_5 n1_6) n1_7 n1_8 n1_9) r)
 let jn1:Jn 10 (Int×Int):=⟨fun fr H z=>([(2,.i z.1),(3,.i z.2)],[])⟩
 let jl1:Jn 3 (Int×Int×Int):=⟨fun fr H z=>([(2,.i z.1),(3,.i z.2.1),(9,.sl F5 n1_8),(10,.i (List.length n1_8:Int)),(11,.i z.2.2)],[])⟩
 exact Z4⟩
theorem K8.ok:∀n,K8.Ok (K8.fs n)
 | 0=>⟨⟨fun h=>by cases h⟩⟩
 | n+1=>have:=K8.ok n;⟨b3w n⟩
instance parse_Size_I {n:Nat}{n1:Nod}:a4P n1 (a0H n n1):=(K8.ok n).a0H
end Go.Proofs.YtjhfloacokgdiaaGreatDoor
