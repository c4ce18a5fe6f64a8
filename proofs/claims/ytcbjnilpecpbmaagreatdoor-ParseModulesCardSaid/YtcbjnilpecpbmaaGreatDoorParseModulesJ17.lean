/- What the functions under ParseModules compute, step by step, as functions in Lean: texts that were built one by one, joined. -/
import Derived.Test.YtcbjnilpecpbmaaGreatDoorParseModulesJ16
set_option maxRecDepth 100000
set_option maxHeartbeats 20000000
set_option linter.unusedSimpArgs false
set_option linter.unusedVariables false
set_option linter.unusedSectionVars false
namespace Go.Proofs.YtcbjnilpecpbmaaGreatDoor
open Go Go.Vm
attribute [local irreducible] Go.Vm.Ev Go.Vm.Os Go.Vm.OsP Go.Vm.Lp Go.Vm.F4 Go.Vm.J8 Go.Vm.K3 Go.Vm.E
abbrev a3z (d9:List Tok)(at2 l5:Int)(p:Option (Rs (Nod×Int) (o7×Int))):Prop:=OkF env p 73 [.ptr 0 0] (hP p8 d9 at2 l5) (b1u d9 at2 l5)
abbrev a1B (d9:List Tok)(at2 l5:Int)(p:Option (Rs (List Nod×Int) (o7×Int))):Prop:=OkF env p 125 [.ptr 0 0] (hP p8 d9 at2 l5) (a4U d9 at2 l5)
abbrev a11 (d9:List Tok)(at2 l5:Int)(p:Option (Rs (Nod×Int) (o7×Int))):Prop:=OkF env p 142 [.ptr 0 0] (hP p8 d9 at2 l5) (a5g d9 at2 l5)
abbrev a3C (d9:List Tok)(at2 l5:Int)(p:Option (Rs (Nod×Int) (o7×Int))):Prop:=OkF env p 148 [.ptr 0 0] (hP p8 d9 at2 l5) (a6M d9 at2 l5)
abbrev a3Y (d9:List Tok)(at2 l5:Int)(p:Option (Rs (Nod×Int) (o7×Int))):Prop:=OkF env p 152 [.ptr 0 0] (hP p8 d9 at2 l5) (b2k d9 at2 l5)
abbrev a3F (d9:List Tok)(at2 l5:Int)(p:Option (Rs (Nod×Int) (o7×Int))):Prop:=OkF env p 166 [.ptr 0 0] (hP p8 d9 at2 l5) (a6P d9 at2 l5)
abbrev a2W (d9:List Tok)(at2 l5:Int)(p:Option (Rs (Nod×Int) (o7×Int))):Prop:=OkF env p 178 [.ptr 0 0] (hP p8 d9 at2 l5) (a5K d9 at2 l5)
abbrev a3X (d9:List Tok)(at2 l5:Int)(p:Option (Rs (Nod×Int) (o7×Int))):Prop:=OkF env p 186 [.ptr 0 0] (hP p8 d9 at2 l5) (a7p d9 at2 l5)
abbrev a3W (d9:List Tok)(at2 l5:Int)(p:Option (Rs (List Nod×Int) (o7×Int))):Prop:=OkF env p 187 [.ptr 0 0] (hP p8 d9 at2 l5) (a7o d9 at2 l5)
abbrev a3n (d9:List Tok)(at2 l5:Int)(p:Option (Rs (Nod×Int) (o7×Int))):Prop:=OkF env p 195 [.ptr 0 0] (hP p8 d9 at2 l5) (b0N d9 at2 l5)
abbrev a2R (d9:List Tok)(at2 l5:Int)(p:Option (Rs (Nod×Int) (o7×Int))):Prop:=OkF env p 196 [.ptr 0 0] (hP p8 d9 at2 l5) (b0a d9 at2 l5)
abbrev a3A (a1e:Nod)(a0d:List J3)(O5:List Tok)(at4 a2M:Int)(p:Option (Rs (Nod×Int) (o7×Int))):Prop:=OkF env p 168 [.ptr 0 0,.agg (c0 a1e.op a1e.s a1e.n a1e.t.kind a1e.t.name a1e.t.n (.sl C9 a1e.t.args) (.sl C9 a1e.ts) (.sl D8 a1e.l) a1e.at_),.sl a1c a0d] (hP p8 O5 at4 a2M) (a6L a1e a0d O5 at4 a2M)
abbrev a1i (d9:List Tok)(at2 l5:Int)(p:Option (Rs (Nod×Int) (o7×Int))):Prop:=OkF env p 149 [.ptr 0 0] (hP p8 d9 at2 l5) (a4I d9 at2 l5)
abbrev a3D (d9:List Tok)(at2 l5:Int)(p:Option (Rs (Nod×Int) (o7×Int))):Prop:=OkF env p 150 [.ptr 0 0] (hP p8 d9 at2 l5) (a6N d9 at2 l5)
abbrev a4D (op1:Int)(A9:List Tok)(at3 G7:Int)(p:Option (Rs (List Nod×Int×Int) (o7×Int))):Prop:=OkF env p 151 [.ptr 0 0,.i op1] (hP p8 A9 at3 G7) (b3d op1 A9 at3 G7)
class j6.Ok (Φ:j6):Prop where
 I8:∀{d9:List Tok} {at2 l5:Int},a3z d9 at2 l5 (Φ.I8 d9 at2 l5)
 M8:∀{d9:List Tok} {at2 l5:Int},a1B d9 at2 l5 (Φ.M8 d9 at2 l5)
 K7:∀{d9:List Tok} {at2 l5:Int},a11 d9 at2 l5 (Φ.K7 d9 at2 l5)
 X5:∀{d9:List Tok} {at2 l5:Int},a3C d9 at2 l5 (Φ.X5 d9 at2 l5)
 G8:∀{d9:List Tok} {at2 l5:Int},a3Y d9 at2 l5 (Φ.G8 d9 at2 l5)
 I9:∀{d9:List Tok} {at2 l5:Int},a3F d9 at2 l5 (Φ.I9 d9 at2 l5)
 U0:∀{d9:List Tok} {at2 l5:Int},a2W d9 at2 l5 (Φ.U0 d9 at2 l5)
 V9:∀{d9:List Tok} {at2 l5:Int},a3X d9 at2 l5 (Φ.V9 d9 at2 l5)
 O7:∀{d9:List Tok} {at2 l5:Int},a3W d9 at2 l5 (Φ.O7 d9 at2 l5)
 V6:∀{d9:List Tok} {at2 l5:Int},a3n d9 at2 l5 (Φ.V6 d9 at2 l5)
 T9:∀{d9:List Tok} {at2 l5:Int},a2R d9 at2 l5 (Φ.T9 d9 at2 l5)
 N9:∀{a1e:Nod} {a0d:List J3} {O5:List Tok} {at4 a2M:Int},a3A a1e a0d O5 at4 a2M (Φ.N9 a1e a0d O5 at4 a2M)
 L9:∀{d9:List Tok} {at2 l5:Int},a1i d9 at2 l5 (Φ.L9 d9 at2 l5)
 X6:∀{d9:List Tok} {at2 l5:Int},a3D d9 at2 l5 (Φ.X6 d9 at2 l5)
 V8:∀{op1:Int} {A9:List Tok} {at3 G7:Int},a4D op1 A9 at3 G7 (Φ.V8 op1 A9 at3 G7)
instance {Φ:j6} [h:j6.Ok Φ] {d9:List Tok}{at2 l5:Int}:a3z d9 at2 l5 (Φ.I8 d9 at2 l5):=h.I8
instance {Φ:j6} [h:j6.Ok Φ] {d9:List Tok}{at2 l5:Int}:a1B d9 at2 l5 (Φ.M8 d9 at2 l5):=h.M8
instance {Φ:j6} [h:j6.Ok Φ] {d9:List Tok}{at2 l5:Int}:a11 d9 at2 l5 (Φ.K7 d9 at2 l5):=h.K7
instance {Φ:j6} [h:j6.Ok Φ] {d9:List Tok}{at2 l5:Int}:a3C d9 at2 l5 (Φ.X5 d9 at2 l5):=h.X5
instance {Φ:j6} [h:j6.Ok Φ] {d9:List Tok}{at2 l5:Int}:a3Y d9 at2 l5 (Φ.G8 d9 at2 l5):=h.G8
instance {Φ:j6} [h:j6.Ok Φ] {d9:List Tok}{at2 l5:Int}:a3F d9 at2 l5 (Φ.I9 d9 at2 l5):=h.I9
instance {Φ:j6} [h:j6.Ok Φ] {d9:List Tok}{at2 l5:Int}:a2W d9 at2 l5 (Φ.U0 d9 at2 l5):=h.U0
instance {Φ:j6} [h:j6.Ok Φ] {d9:List Tok}{at2 l5:Int}:a3X d9 at2 l5 (Φ.V9 d9 at2 l5):=h.V9
instance {Φ:j6} [h:j6.Ok Φ] {d9:List Tok}{at2 l5:Int}:a3W d9 at2 l5 (Φ.O7 d9 at2 l5):=h.O7
instance {Φ:j6} [h:j6.Ok Φ] {d9:List Tok}{at2 l5:Int}:a3n d9 at2 l5 (Φ.V6 d9 at2 l5):=h.V6
instance {Φ:j6} [h:j6.Ok Φ] {d9:List Tok}{at2 l5:Int}:a2R d9 at2 l5 (Φ.T9 d9 at2 l5):=h.T9
instance {Φ:j6} [h:j6.Ok Φ] {a1e:Nod}{a0d:List J3}{O5:List Tok}{at4 a2M:Int}:a3A a1e a0d O5 at4 a2M (Φ.N9 a1e a0d O5 at4 a2M):=h.N9
instance {Φ:j6} [h:j6.Ok Φ] {d9:List Tok}{at2 l5:Int}:a1i d9 at2 l5 (Φ.L9 d9 at2 l5):=h.L9
instance {Φ:j6} [h:j6.Ok Φ] {d9:List Tok}{at2 l5:Int}:a3D d9 at2 l5 (Φ.X6 d9 at2 l5):=h.X6
instance {Φ:j6} [h:j6.Ok Φ] {op1:Int}{A9:List Tok}{at3 G7:Int}:a4D op1 A9 at3 G7 (Φ.V8 op1 A9 at3 G7):=h.V8
theorem b1t (n:Nat){Φ:j6} [hΦ:j6.Ok Φ] {d9:List Tok}{at2 l5:Int}:a3z d9 at2 l5 (a2d n Φ d9 at2 l5):=⟨fun{r} h=>by
 unfold a2d at h
 refine D5 rfl Tryz.func73 rfl rfl ?_
 exact blk⟩
theorem a8E (n:Nat){Φ:j6} [hΦ:j6.Ok Φ] {d9:List Tok}{at2 l5:Int}:a1B d9 at2 l5 (a0I n Φ d9 at2 l5):=⟨fun{r} h=>by
 unfold a0I at h
 refine D5 rfl Tryz.func125 rfl rfl ?_
 let kr:=fun r:Rs (List Nod×Int) (o7×Int)=>a0H env 125 1 Tryz.f125.results.toList (a4U d9 at2 l5 r)
 let jn1:Jn 5 (List Nod×Int):=⟨fun fr H z=>([(3,.st 1 D8 z.1)],[(0,.row [.sl p8 d9,.i z.2,.i l5]),(1,.tip (tpe 10 (List.length z.1)) (List.length z.1))])⟩
 let jl1:Jn 2 (List Nod×Int):=⟨fun fr H z=>([(0,.ptr 0 0),(3,.st 1 D8 z.1)],[(0,.row [.sl p8 d9,.i z.2,.i l5]),(1,.tip (tpe 10 (List.length z.1)) (List.length z.1))])⟩
 exact blk⟩
theorem a88 (n:Nat){Φ:j6} [hΦ:j6.Ok Φ] {d9:List Tok}{at2 l5:Int}:a11 d9 at2 l5 (J4 n Φ d9 at2 l5):=⟨fun{r} h=>by
 unfold J4 at h
 refine D5 rfl Tryz.func142 rfl rfl ?_
 let kr:=fun r:Rs (Nod×Int) (o7×Int)=>a0H env 142 1 Tryz.f142.results.toList (a5g d9 at2 l5 r)
 let jn1:Jn 5 (Str):=⟨fun fr H z=>([(0,.ptr 0 0),(2,.ptr 1 0),(3,.str z)],[(0,oH H 0),(1,.row [.i 0,.str [],.i 0,.i 0,.str [],.i 0,.slice (.tag 2) 0 [],.slice (.tag 3) 0 [],.slice (.tag 4) 0 [],.i 0]),(2,.tip 0 0),(3,.tip 0 0),(4,.tip 0 0)])⟩
 let jn2:Jn 30008 (Bool):=⟨fun fr H z=>([(0,.ptr 0 0),(2,.ptr 1 0),(23,(lk 3 fr)),(24,.bool z)],[(0,oH H 0),(1,oH H 1),(2,.tip 0 0),(3,.tip 0 0),(4,.tip 0 0)])⟩
 let jn3:Jn 27 (Int×List Nod):=⟨fun fr H z=>([(2,.ptr 1 0),(5,.ptr 2 0)],[(0,.row [.sl p8 d9,.i z.1,.i l5]),(1,.row [.i 0,.str [],.i 0,.i 0,.str [],.i 0,.slice (.tag 3) 0 [],.slice (.tag 4) 0 [],.slice (.tag 5) 0 [],.i 0]),(2,.row [.i 28,.str [],.i 0,.i 0,.str [],.i 0,.slice .sealed 0 [],.slice (.tag 6) 0 [],.st 7 D8 z.2,(agC (lk 67 fr) 9)]),(3,.tip 0 0),(4,.tip 0 0),(5,.tip 0 0),(6,.tip 0 0),(7,.tip (tpe 10 (List.length z.2)) (List.length z.2))])⟩
 let ls:Nat->List Nat:=fun n=>cond (Nat.beq n 45) [640] (cond (Nat.beq n 37) [512] (cond (Nat.beq n 18) [320] ([])))
 exact blk⟩
theorem b1z (n:Nat){Φ:j6} [hΦ:j6.Ok Φ] {d9:List Tok}{at2 l5:Int}:a3C d9 at2 l5 (a2e n Φ d9 at2 l5):=⟨fun{r} h=>by
 unfold a2e at h
 refine D5 rfl Tryz.func148 rfl rfl ?_
 let kr:=fun r:Rs (Nod×Int) (o7×Int)=>a0H env 148 1 Tryz.f148.results.toList (a6M d9 at2 l5 r)
 let jn1:Jn 6 (Int×Int):=⟨fun fr H z=>([(0,.ptr 0 0),(2,.ptr 1 0),(3,.ptr 2 0)],[(0,.row [.sl p8 d9,.i z.1,.i l5]),(1,.row [.i 0,.str [],.i 0,.i 0,.str [],.i 0,.slice (.tag 3) 0 [],.slice (.tag 4) 0 [],.slice (.tag 5) 0 [],.i 0]),(2,.row [.i 21,.str [],.i z.2,.i 0,.str [],.i 0,.slice .sealed 0 [],.slice (.tag 6) 0 [],.slice (.tag 7) 0 [],(agC (lk 6 fr) 9)]),(3,.tip 0 0),(4,.tip 0 0),(5,.tip 0 0),(6,.tip 0 0),(7,.tip 0 0)])⟩
 let jn2:Jn 10 (Int×Int×Str×Int×List Typ):=⟨fun fr H z=>([(0,.ptr 0 0),(2,.ptr 1 0),(3,.ptr 2 0),(4,(lk 16 fr))],[(0,.row [.sl p8 d9,.i z.1,.i l5]),(1,oH H 1),(2,.row [.i 21,(lk 13 fr),(cH H 2 2),.i z.2.1,.str z.2.2.1,.i z.2.2.2.1,.sl C9 z.2.2.2.2,.slice (.tag 6) 0 [],.slice (.tag 7) 0 [],(cH H 2 9)]),(3,.tip 0 0),(4,.tip 0 0),(5,.tip 0 0),(6,.tip 0 0),(7,.tip 0 0)])⟩
 let jn3:Jn 30011 (Bool×Int):=⟨fun fr H z=>([(0,.ptr 0 0),(2,.ptr 1 0),(3,.ptr 2 0),(30,.bool z.1)],[(0,.row [.sl p8 d9,.i z.2,.i l5]),(1,oH H 1),(2,oH H 2),(3,.tip 0 0),(4,.tip 0 0),(5,.tip 0 0),(6,.tip 0 0),(7,.tip 0 0)])⟩
 exact blk⟩
theorem b2j (n:Nat){Φ:j6} [hΦ:j6.Ok Φ] {d9:List Tok}{at2 l5:Int}:a3Y d9 at2 l5 (a2E n Φ d9 at2 l5):=⟨fun{r} h=>by
 unfold a2E at h
 refine D5 rfl Tryz.func152 rfl rfl ?_
 exact blk⟩
theorem b1C (n:Nat){Φ:j6} [hΦ:j6.Ok Φ] {d9:List Tok}{at2 l5:Int}:a3F d9 at2 l5 (a2g n Φ d9 at2 l5):=⟨fun{r} h=>by
 unfold a2g at h
 refine D5 rfl Tryz.func166 rfl rfl ?_
 let kr:=fun r:Rs (Nod×Int) (o7×Int)=>a0H env 166 1 Tryz.f166.results.toList (a6P d9 at2 l5 r)
 let jn1:Jn 7 (Int×Int):=⟨fun fr H z=>([(0,.ptr 0 0),(2,.ptr 1 0),(3,.ptr 2 0)],[(0,.row [.sl p8 d9,.i z.1,.i l5]),(1,.row [.i 0,.str [],.i 0,.i 0,.str [],.i 0,.slice (.tag 3) 0 [],.slice (.tag 4) 0 [],.slice (.tag 5) 0 [],.i 0]),(2,.row [.i z.2,.str [],.i 0,.i 0,.str [],.i 0,.slice .sealed 0 [],.slice (.tag 6) 0 [],.slice (.tag 7) 0 [],(agC (lk 5 fr) 9)]),(3,.tip 0 0),(4,.tip 0 0),(5,.tip 0 0),(6,.tip 0 0),(7,.tip 0 0)])⟩
 exact blk⟩
theorem b0e (n:Nat){Φ:j6} [hΦ:j6.Ok Φ] {d9:List Tok}{at2 l5:Int}:a2W d9 at2 l5 (a1l n Φ d9 at2 l5):=⟨fun{r} h=>by
 unfold a1l at h
 refine D5 rfl Tryz.func178 rfl rfl ?_
 let kr:=fun r:Rs (Nod×Int) (o7×Int)=>a0H env 178 1 Tryz.f178.results.toList (a5K d9 at2 l5 r)
 let jl1:Jn 4 (Bool×Int×Nod):=⟨fun fr H z=>([(0,.ptr 0 0),(2,.ptr 1 0),(3,.bool z.1),(4,.ptr 2 0)],[(0,.row [.sl p8 d9,.i z.2.1,.i l5]),(1,.row [.i 0,.str [],.i 0,.i 0,.str [],.i 0,.slice (.tag 3) 0 [],.slice (.tag 4) 0 [],.slice (.tag 5) 0 [],.i 0]),(2,.row (c0 z.2.2.op z.2.2.s z.2.2.n z.2.2.t.kind z.2.2.t.name z.2.2.t.n (.sl C9 z.2.2.t.args) (.sl C9 z.2.2.ts) (.sl D8 z.2.2.l) z.2.2.at_)),(3,.tip 0 0),(4,.tip 0 0),(5,.tip 0 0)])⟩
 let jn1:Jn 17 (Int×Int×Str×List Nod):=⟨fun fr H z=>([(0,.ptr 0 0),(2,.ptr 1 0),(4,.ptr 2 0)],[(0,.row [.sl p8 d9,.i z.1,.i l5]),(1,oH H 1),(2,.row [.i z.2.1,.str z.2.2.1,.i 0,.i 0,.str [],.i 0,.slice (.tag 6) 0 [],.slice (.tag 7) 0 [],.sl D8 z.2.2.2,(cH H 2 9)]),(3,.tip 0 0),(4,.tip 0 0),(5,.tip 0 0),(6,.tip 0 0),(7,.tip 0 0)])⟩
 let jn2:Jn 10 (Int×Int×List Nod):=⟨fun fr H z=>([(0,.ptr 0 0),(2,.ptr 1 0),(4,.ptr 2 0),(5,.ptr 3 0)],[(0,.row [.sl p8 d9,.i z.1,.i l5]),(1,.row [.i 0,.str [],.i 0,.i 0,.str [],.i 0,.slice (.tag 4) 0 [],.slice (.tag 5) 0 [],.slice (.tag 6) 0 [],.i 0]),(2,oH H 2),(3,.row [.i z.2.1,(lk 16 fr),.i 0,.i 0,.str [],.i 0,.slice (.tag 7) 0 [],.slice (.tag 8) 0 [],.st 9 D8 z.2.2,(lk 18 fr)]),(4,.tip 0 0),(5,.tip 0 0),(6,.tip 0 0),(7,.tip 0 0),(8,.tip 0 0),(9,.tip (tpe 10 (List.length z.2.2)) (List.length z.2.2))])⟩
 let ls:Nat->List Nat:=fun n=>cond (Nat.beq n 14) [448] (cond (Nat.beq n 12) [2,2] (cond (Nat.beq n 8) [384] (cond (Nat.beq n 5) [2,2] ([]))))
 exact blk⟩
theorem b2h (n:Nat){Φ:j6} [hΦ:j6.Ok Φ] {d9:List Tok}{at2 l5:Int}:a3X d9 at2 l5 (a0L n Φ d9 at2 l5):=⟨fun{r} h=>by
 unfold a0L at h
 refine D5 rfl Tryz.func186 rfl rfl ?_
 let kr:=fun r:Rs (Nod×Int) (o7×Int)=>a0H env 186 1 Tryz.f186.results.toList (a7p d9 at2 l5 r)
 let jn1:Jn 37 (Int×Int×Str×Int×Int×Str×Int×List Typ×List Nod):=⟨fun fr H z=>([(2,.ptr 1 0),(3,.ptr 2 0)],[(0,.row [.sl p8 d9,.i z.1,.i l5]),(1,.row [.i 0,.str [],.i 0,.i 0,.str [],.i 0,.slice (.tag 3) 0 [],.slice (.tag 4) 0 [],.slice (.tag 5) 0 [],.i 0]),(2,.row [.i z.2.1,.str z.2.2.1,.i z.2.2.2.1,.i z.2.2.2.2.1,.str z.2.2.2.2.2.1,.i z.2.2.2.2.2.2.1,.sl C9 z.2.2.2.2.2.2.2.1,.slice (.tag 6) 0 [],.sl D8 z.2.2.2.2.2.2.2.2,(agC (lk 6 fr) 9)]),(3,.tip 0 0),(4,.tip 0 0),(5,.tip 0 0),(6,.tip 0 0)])⟩
 let jn2:Jn 30 (Int×List Nod):=⟨fun fr H z=>([(0,.ptr 0 0),(2,.ptr 1 0),(3,.ptr 2 0)],[(0,.row [.sl p8 d9,.i z.1,.i l5]),(1,.row [.i 0,.str [],.i 0,.i 0,.str [],.i 0,.slice (.tag 3) 0 [],.slice (.tag 4) 0 [],.slice (.tag 5) 0 [],.i 0]),(2,.row [.i 67,.str [],.i 0,.i 0,.str [],.i 0,.slice .sealed 0 [],.slice (.tag 6) 0 [],.st 7 D8 z.2,(agC (lk 6 fr) 9)]),(3,.tip 0 0),(4,.tip 0 0),(5,.tip 0 0),(6,.tip 0 0),(7,.tip (tpe 10 (List.length z.2)) (List.length z.2))])⟩
 let jl1:Jn 27 (Int×List Nod):=⟨fun fr H z=>([(0,.ptr 0 0),(2,.ptr 1 0),(3,.ptr 2 0)],[(0,.row [.sl p8 d9,.i z.1,.i l5]),(1,.row [.i 0,.str [],.i 0,.i 0,.str [],.i 0,.slice (.tag 3) 0 [],.slice (.tag 4) 0 [],.slice (.tag 5) 0 [],.i 0]),(2,.row [.i 67,.str [],.i 0,.i 0,.str [],.i 0,.slice .sealed 0 [],.slice (.tag 6) 0 [],.st 7 D8 z.2,(agC (lk 6 fr) 9)]),(3,.tip 0 0),(4,.tip 0 0),(5,.tip 0 0),(6,.tip 0 0),(7,.tip (tpe 10 (List.length z.2)) (List.length z.2))])⟩
 let ls:Nat->List Nat:=fun n=>cond (Nat.beq n 28) [2] (cond (Nat.beq n 26) [256] ([]))
 exact blk⟩
theorem b2g (n:Nat){Φ:j6} [hΦ:j6.Ok Φ] {d9:List Tok}{at2 l5:Int}:a3W d9 at2 l5 (a2D n Φ d9 at2 l5):=⟨fun{r} h=>by
 unfold a2D at h
 refine D5 rfl Tryz.func187 rfl rfl ?_
 let kr:=fun r:Rs (List Nod×Int) (o7×Int)=>a0H env 187 1 Tryz.f187.results.toList (a7o d9 at2 l5 r)
 let jn1:Jn 12 (List Nod×Int):=⟨fun fr H z=>([(0,.ptr 0 0),(3,.st 1 D8 z.1)],[(0,.row [.sl p8 d9,.i z.2,.i l5]),(1,.tip (tpe 10 (List.length z.1)) (List.length z.1))])⟩
 let jl1:Jn 5 (List Nod×Int):=⟨fun fr H z=>([(0,.ptr 0 0),(3,.st 1 D8 z.1)],[(0,.row [.sl p8 d9,.i z.2,.i l5]),(1,.tip (tpe 10 (List.length z.1)) (List.length z.1))])⟩
 let jn2:Jn 11 (List Nod×Int):=⟨fun fr H z=>([(0,.ptr 0 0),(3,.st 1 D8 z.1)],[(0,.row [.sl p8 d9,.i z.2,.i l5]),(1,.tip (tpe 10 (List.length z.1)) (List.length z.1))])⟩
 exact blk⟩
theorem b0M (n:Nat){Φ:j6} [hΦ:j6.Ok Φ] {d9:List Tok}{at2 l5:Int}:a3n d9 at2 l5 (a1I n Φ d9 at2 l5):=⟨fun{r} h=>by
 unfold a1I at h
 refine D5 rfl Tryz.func195 rfl rfl ?_
 let jl1:Jn 5 (Int×List Nod×Str×Int):=⟨fun fr H z=>([(0,.ptr 0 0),(2,.ptr 1 0),(3,.ptr 2 0),(4,.ptr 3 0)],[(0,.row [.sl p8 d9,.i z.1,.i l5]),(1,.row [.i 0,.str [],.i 0,.i 0,.str [],.i 0,.slice (.tag 4) 0 [],.slice (.tag 5) 0 [],.slice (.tag 6) 0 [],.i 0]),(2,.row [.i 53,.str [],.i 0,.i 0,.str [],.i 0,.slice .sealed 0 [],.slice (.tag 7) 0 [],.st 8 D8 z.2.1,(agC (lk 6 fr) 9)]),(3,.row [.i 52,.str z.2.2.1,.i 0,.i 0,.str [],.i 0,.slice .sealed 0 [],.slice (.tag 9) 0 [],.slice (.tag 10) 0 [],.i z.2.2.2]),(4,.tip 0 0),(5,.tip 0 0),(6,.tip 0 0),(7,.tip 0 0),(8,.tip (tpe 10 (List.length z.2.1)) (List.length z.2.1)),(9,.tip 0 0),(10,.tip 0 0)])⟩
 let ls:Nat->List Nat:=fun n=>cond (Nat.beq n 5) [2] ([])
 exact blk⟩
theorem a99 (n:Nat){Φ:j6} [hΦ:j6.Ok Φ] {d9:List Tok}{at2 l5:Int}:a2R d9 at2 l5 (a1h n Φ d9 at2 l5):=⟨fun{r} h=>by
 unfold a1h at h
 refine D5 rfl Tryz.func196 rfl rfl ?_
 exact blk⟩
theorem b1w (n:Nat){Φ:j6} [hΦ:j6.Ok Φ] {a1e:Nod}{a0d:List J3}{O5:List Tok}{at4 a2M:Int}:a3A a1e a0d O5 at4 a2M (a5e n Φ a1e a0d O5 at4 a2M):=⟨fun{r} h=>by
 unfold a5e at h
 obtain⟨first1_0,first1_1,first1_2,⟨first1_3,first1_4,first1_5,first1_6⟩,first1_7,first1_8,first1_9⟩:=a1e
 refine D5 rfl Tryz.func168 rfl rfl ?_
 let kr:=fun r:Rs (Nod×Int) (o7×Int)=>a0H env 168 1 Tryz.f168.results.toList (a6L (Nod.mk first1_0 first1_1 first1_2 (Typ.mk first1_3 first1_4 first1_5 first1_6) first1_7 first1_8 first1_9) a0d O5 at4 a2M r)
 let jn1:Jn 15 (Int×Nod):=⟨fun fr H z=>([(6,.ptr 1 0),(7,.ptr 2 0)],[(0,.row [.sl p8 O5,.i z.1,.i a2M]),(1,.row [.i 0,.str [],.i 0,.i 0,.str [],.i 0,.slice (.tag 3) 0 [],.slice (.tag 4) 0 [],.slice (.tag 5) 0 [],.i 0]),(2,.row (c0 z.2.op z.2.s z.2.n z.2.t.kind z.2.t.name z.2.t.n (.sl C9 z.2.t.args) (.sl C9 z.2.ts) (.sl D8 z.2.l) z.2.at_)),(3,.tip 0 0),(4,.tip 0 0),(5,.tip 0 0)])⟩
 let jl1:Jn 3 (Int×Int×Nod):=⟨fun fr H z=>([(0,.ptr 0 0),(2,.sl a1c a0d),(6,.ptr 1 0),(7,.ptr 2 0),(14,.i (List.length a0d:Int)),(15,.i z.1)],[(0,.row [.sl p8 O5,.i z.2.1,.i a2M]),(1,.row [.i 0,.str [],.i 0,.i 0,.str [],.i 0,.slice (.tag 3) 0 [],.slice (.tag 4) 0 [],.slice (.tag 5) 0 [],.i 0]),(2,.row (c0 z.2.2.op z.2.2.s z.2.2.n z.2.2.t.kind z.2.2.t.name z.2.2.t.n (.sl C9 z.2.2.t.args) (.sl C9 z.2.2.ts) (.sl D8 z.2.2.l) z.2.2.at_)),(3,.tip 0 0),(4,.tip 0 0),(5,.tip 0 0)])⟩
 let jn2:Jn 14 (Int×Int×Nod):=⟨fun fr H z=>([(0,.ptr 0 0),(2,.sl a1c a0d),(6,.ptr 1 0),(7,.ptr 2 0),(14,.i (List.length a0d:Int)),(15,.i z.1)],[(0,.row [.sl p8 O5,.i z.2.1,.i a2M]),(1,oH H 1),(2,.row (c0 z.2.2.op z.2.2.s z.2.2.n z.2.2.t.kind z.2.2.t.name z.2.2.t.n (.sl C9 z.2.2.t.args) (.sl C9 z.2.2.ts) (.sl D8 z.2.2.l) z.2.2.at_)),(3,.tip 0 0),(4,.tip 0 0),(5,.tip 0 0)])⟩
 let jl2:Jn 6 (Int×Int×Int×Nod):=⟨fun fr H z=>([(0,.ptr 0 0),(2,.sl a1c a0d),(6,.ptr 1 0),(7,.ptr 2 0),(9,.i z.1),(14,.i (List.length a0d:Int)),(15,.i z.2.1)],[(0,.row [.sl p8 O5,.i z.2.2.1,.i a2M]),(1,oH H 1),(2,.row (c0 z.2.2.2.op z.2.2.2.s z.2.2.2.n z.2.2.2.t.kind z.2.2.2.t.name z.2.2.2.t.n (.sl C9 z.2.2.2.t.args) (.sl C9 z.2.2.2.ts) (.sl D8 z.2.2.2.l) z.2.2.2.at_)),(3,.tip 0 0),(4,.tip 0 0),(5,.tip 0 0)])⟩
 let jn3:Jn 90065 (Bool):=⟨fun fr H z=>([(0,.ptr 0 0),(2,.sl a1c a0d),(6,.ptr 1 0),(7,.ptr 2 0),(9,(lk 9 fr)),(14,.i (List.length a0d:Int)),(15,(lk 15 fr)),(65,.bool z)],[(0,oH H 0),(1,oH H 1),(2,oH H 2),(3,.tip 0 0),(4,.tip 0 0),(5,.tip 0 0)])⟩
 let ls:Nat->List Nat:=fun n=>cond (Nat.beq n 9) [] (cond (Nat.beq n 7) [2,0,0] ([]))
 exact blk⟩
theorem a8n (n:Nat){Φ:j6} [hΦ:j6.Ok Φ] {d9:List Tok}{at2 l5:Int}:a1i d9 at2 l5 (a0w n Φ d9 at2 l5):=⟨fun{r} h=>by
 unfold a0w at h
 refine D5 rfl Tryz.func149 rfl rfl ?_
 let kr:=fun r:Rs (Nod×Int) (o7×Int)=>a0H env 149 1 Tryz.f149.results.toList (a4I d9 at2 l5 r)
 let jn1:Jn 12 (Int×List Nod):=⟨fun fr H z=>([(2,.ptr 1 0),(3,.ptr 2 0)],[(0,.row [.sl p8 d9,.i z.1,.i l5]),(1,.row [.i 0,.str [],.i 0,.i 0,.str [],.i 0,.slice (.tag 3) 0 [],.slice (.tag 4) 0 [],.slice (.tag 5) 0 [],.i 0]),(2,.row [.i 24,.str [],.i 0,.i 0,.str [],.i 0,.slice .sealed 0 [],.slice (.tag 6) 0 [],.st 7 D8 z.2,(agC (lk 6 fr) 9)]),(3,.tip 0 0),(4,.tip 0 0),(5,.tip 0 0),(6,.tip 0 0),(7,.tip (tpe 10 (List.length z.2)) (List.length z.2))])⟩
 let jn2:Jn 11 (Int×Nod):=⟨fun fr H z=>([(2,.ptr 1 0),(3,.ptr 2 0),(4,.ptr 3 0)],[(0,.row [.sl p8 d9,.i z.1,.i l5]),(1,.row [.i 0,.str [],.i 0,.i 0,.str [],.i 0,.slice (.tag 4) 0 [],.slice (.tag 5) 0 [],.slice (.tag 6) 0 [],.i 0]),(2,.row [.i 24,.str [],.i 0,.i 0,.str [],.i 0,.slice .sealed 0 [],.slice (.tag 7) 0 [],ow (.tag 8) (lk 18 fr),(agC (lk 6 fr) 9)]),(3,.row (c0 z.2.op z.2.s z.2.n z.2.t.kind z.2.t.name z.2.t.n (.sl C9 z.2.t.args) (.sl C9 z.2.ts) (.sl D8 z.2.l) z.2.at_)),(4,.tip 0 0),(5,.tip 0 0),(6,.tip 0 0),(7,.tip 0 0),(8,oH H 1216)])⟩
 let ls:Nat->List Nat:=fun n=>cond (Nat.beq n 4) [256] ([])
 exact blk⟩
theorem b1A (n:Nat){Φ:j6} [hΦ:j6.Ok Φ] {d9:List Tok}{at2 l5:Int}:a3D d9 at2 l5 (a2f n Φ d9 at2 l5):=⟨fun{r} h=>by
 unfold a2f at h
 refine D5 rfl Tryz.func150 rfl rfl ?_
 let kr:=fun r:Rs (Nod×Int) (o7×Int)=>a0H env 150 1 Tryz.f150.results.toList (a6N d9 at2 l5 r)
 let jn1:Jn 12 (Int×List Nod):=⟨fun fr H z=>([(0,.ptr 0 0),(2,.ptr 1 0),(3,.ptr 2 0)],[(0,.row [.sl p8 d9,.i z.1,.i l5]),(1,.row [.i 0,.str [],.i 0,.i 0,.str [],.i 0,.slice (.tag 3) 0 [],.slice (.tag 4) 0 [],.slice (.tag 5) 0 [],.i 0]),(2,.row [.i 26,.str [],.i 0,.i 0,.str [],.i 0,.slice .sealed 0 [],.slice (.tag 6) 0 [],.st 7 D8 z.2,(agC (lk 8 fr) 9)]),(3,.tip 0 0),(4,.tip 0 0),(5,.tip 0 0),(6,.tip 0 0),(7,.tip (tpe 10 (List.length z.2)) (List.length z.2))])⟩
 let jl1:Jn 5 (Int×List Nod):=⟨fun fr H z=>([(0,.ptr 0 0),(2,.ptr 1 0),(3,.ptr 2 0)],[(0,.row [.sl p8 d9,.i z.1,.i l5]),(1,.row [.i 0,.str [],.i 0,.i 0,.str [],.i 0,.slice (.tag 3) 0 [],.slice (.tag 4) 0 [],.slice (.tag 5) 0 [],.i 0]),(2,.row [.i 26,.str [],.i 0,.i 0,.str [],.i 0,.slice .sealed 0 [],.slice (.tag 6) 0 [],.st 7 D8 z.2,(agC (lk 8 fr) 9)]),(3,.tip 0 0),(4,.tip 0 0),(5,.tip 0 0),(6,.tip 0 0),(7,.tip (tpe 10 (List.length z.2)) (List.length z.2))])⟩
 let jn2:Jn 17 (Int×List Nod):=⟨fun fr H z=>([(0,.ptr 0 0),(2,.ptr 1 0),(3,.ptr 2 0)],[(0,.row [.sl p8 d9,.i z.1,.i l5]),(1,oH H 1),(2,.row [.i 26,.str [],.i 0,.i 0,.str [],.i 0,.slice .sealed 0 [],.slice (.tag 6) 0 [],.st 7 D8 z.2,(cH H 2 9)]),(3,.tip 0 0),(4,.tip 0 0),(5,.tip 0 0),(6,.tip 0 0),(7,.tip (tpe 10 (List.length z.2)) (List.length z.2))])⟩
 let ls:Nat->List Nat:=fun n=>cond (Nat.beq n 14) [384] (cond (Nat.beq n 9) [320] ([]))
 exact blk⟩
theorem b3c (n:Nat){Φ:j6} [hΦ:j6.Ok Φ] {op1:Int}{A9:List Tok}{at3 G7:Int}:a4D op1 A9 at3 G7 (a01 n Φ op1 A9 at3 G7):=⟨fun{r} h=>by
 unfold a01 at h
 refine D5 rfl Tryz.func151 rfl rfl ?_
 exact blk⟩
theorem j6.ok:∀n,j6.Ok (j6.fs n)
 | 0=>⟨⟨fun h=>by cases h⟩,⟨fun h=>by cases h⟩,⟨fun h=>by cases h⟩,⟨fun h=>by cases h⟩,⟨fun h=>by cases h⟩,⟨fun h=>by cases h⟩,⟨fun h=>by cases h⟩,⟨fun h=>by cases h⟩,⟨fun h=>by cases h⟩,⟨fun h=>by cases h⟩,⟨fun h=>by cases h⟩,⟨fun h=>by cases h⟩,⟨fun h=>by cases h⟩,⟨fun h=>by cases h⟩,⟨fun h=>by cases h⟩⟩
 | n+1=>have:=j6.ok n;⟨b1t n,a8E n,a88 n,b1z n,b2j n,b1C n,b0e n,b2h n,b2g n,b0M n,a99 n,b1w n,a8n n,b1A n,b3c n⟩
instance c3n {n:Nat}{d9:List Tok}{at2 l5:Int}:a3z d9 at2 l5 (I8 n d9 at2 l5):=(j6.ok n).I8
instance b9a {n:Nat}{d9:List Tok}{at2 l5:Int}:a1B d9 at2 l5 (M8 n d9 at2 l5):=(j6.ok n).M8
instance b9k {n:Nat}{d9:List Tok}{at2 l5:Int}:a11 d9 at2 l5 (K7 n d9 at2 l5):=(j6.ok n).K7
instance c3q {n:Nat}{d9:List Tok}{at2 l5:Int}:a3C d9 at2 l5 (X5 n d9 at2 l5):=(j6.ok n).X5
instance c4m {n:Nat}{d9:List Tok}{at2 l5:Int}:a3Y d9 at2 l5 (G8 n d9 at2 l5):=(j6.ok n).G8
instance c3u {n:Nat}{d9:List Tok}{at2 l5:Int}:a3F d9 at2 l5 (I9 n d9 at2 l5):=(j6.ok n).I9
instance c1m {n:Nat}{d9:List Tok}{at2 l5:Int}:a2W d9 at2 l5 (U0 n d9 at2 l5):=(j6.ok n).U0
instance c4l {n:Nat}{d9:List Tok}{at2 l5:Int}:a3X d9 at2 l5 (V9 n d9 at2 l5):=(j6.ok n).V9
instance c4k {n:Nat}{d9:List Tok}{at2 l5:Int}:a3W d9 at2 l5 (O7 n d9 at2 l5):=(j6.ok n).O7
instance c1W {n:Nat}{d9:List Tok}{at2 l5:Int}:a3n d9 at2 l5 (V6 n d9 at2 l5):=(j6.ok n).V6
instance c1i {n:Nat}{d9:List Tok}{at2 l5:Int}:a2R d9 at2 l5 (T9 n d9 at2 l5):=(j6.ok n).T9
instance c3p {n:Nat}{a1e:Nod}{a0d:List J3}{O5:List Tok}{at4 a2M:Int}:a3A a1e a0d O5 at4 a2M (N9 n a1e a0d O5 at4 a2M):=(j6.ok n).N9
instance b8r {n:Nat}{d9:List Tok}{at2 l5:Int}:a1i d9 at2 l5 (L9 n d9 at2 l5):=(j6.ok n).L9
instance c3r {n:Nat}{d9:List Tok}{at2 l5:Int}:a3D d9 at2 l5 (X6 n d9 at2 l5):=(j6.ok n).X6
instance c5G {n:Nat}{op1:Int}{A9:List Tok}{at3 G7:Int}:a4D op1 A9 at3 G7 (V8 n op1 A9 at3 G7):=(j6.ok n).V8
abbrev b0K (d9:List Tok)(at2 l5:Int)(p:Option (Rs (Nod×Int) (o7×Int))):Prop:=OkF env p 36 [.ptr 0 0] (hP p8 d9 at2 l5) (a9y d9 at2 l5)
instance b98 {n:Nat}{d9:List Tok}{at2 l5:Int}:b0K d9 at2 l5 (a0T n d9 at2 l5):=⟨fun{r} h=>by
 unfold a0T at h
 refine D5 rfl Tryz.func36 rfl rfl ?_
 let ls:Nat->List Nat:=fun n=>cond (Nat.beq n 3) [256] ([])
 exact blk⟩
abbrev b2l (d9:List Tok)(at2 l5:Int)(p:Option (Rs (Nod×Int) (o7×Int))):Prop:=OkF env p 35 [.ptr 0 0] (hP p8 d9 at2 l5) (a6k d9 at2 l5)
instance c1U {n:Nat}{d9:List Tok}{at2 l5:Int}:b2l d9 at2 l5 (a2F n d9 at2 l5):=⟨fun{r} h=>by
 unfold a2F at h
 refine D5 rfl Tryz.func35 rfl rfl ?_
 let kr:=fun r:Rs (Nod×Int) (o7×Int)=>a0H env 35 1 Tryz.f35.results.toList (a6k d9 at2 l5 r)
 let jn1:Jn 17 (Int×List Nod):=⟨fun fr H z=>([(0,.ptr 0 0),(2,.ptr 1 0),(3,.ptr 2 0)],[(0,.row [.sl p8 d9,.i z.1,.i l5]),(1,.row [.i 0,.str [],.i 0,.i 0,.str [],.i 0,.slice (.tag 3) 0 [],.slice (.tag 4) 0 [],.slice (.tag 5) 0 [],.i 0]),(2,.row [.i 6,(lk 16 fr),.i 0,(agC (lk 11 fr) 0),(agC (lk 11 fr) 1),(agC (lk 11 fr) 2),ow .sealed (agC (lk 11 fr) 3),.slice (.tag 6) 0 [],.st 7 D8 z.2,(agC (lk 7 fr) 9)]),(3,.tip 0 0),(4,.tip 0 0),(5,.tip 0 0),(6,.tip 0 0),(7,.tip (tpe 10 (List.length z.2)) (List.length z.2))])⟩
 let jl1:Jn 8 (Int×List Nod):=⟨fun fr H z=>([(0,.ptr 0 0),(2,.ptr 1 0),(3,.ptr 2 0)],[(0,.row [.sl p8 d9,.i z.1,.i l5]),(1,.row [.i 0,.str [],.i 0,.i 0,.str [],.i 0,.slice (.tag 3) 0 [],.slice (.tag 4) 0 [],.slice (.tag 5) 0 [],.i 0]),(2,.row [.i 6,(lk 16 fr),.i 0,(agC (lk 11 fr) 0),(agC (lk 11 fr) 1),(agC (lk 11 fr) 2),ow .sealed (agC (lk 11 fr) 3),.slice (.tag 6) 0 [],.st 7 D8 z.2,(agC (lk 7 fr) 9)]),(3,.tip 0 0),(4,.tip 0 0),(5,.tip 0 0),(6,.tip 0 0),(7,.tip (tpe 10 (List.length z.2)) (List.length z.2))])⟩
 let jn2:Jn 20 (Int×List Nod):=⟨fun fr H z=>([(0,.ptr 0 0),(2,.ptr 1 0),(3,.ptr 2 0)],[(0,.row [.sl p8 d9,.i z.1,.i l5]),(1,oH H 1),(2,.row [.i 6,(cH H 2 1),.i 0,(cH H 2 3),(cH H 2 4),(cH H 2 5),ow .sealed (cH H 2 6),.slice (.tag 6) 0 [],.st 7 D8 z.2,(cH H 2 9)]),(3,.tip 0 0),(4,.tip 0 0),(5,.tip 0 0),(6,.tip 0 0),(7,.tip (tpe 10 (List.length z.2)) (List.length z.2))])⟩
 let jl2:Jn 16 (Int×List Nod):=⟨fun fr H z=>([(0,.ptr 0 0),(2,.ptr 1 0),(3,.ptr 2 0)],[(0,.row [.sl p8 d9,.i z.1,.i l5]),(1,oH H 1),(2,.row [.i 6,(cH H 2 1),.i 0,(cH H 2 3),(cH H 2 4),(cH H 2 5),ow .sealed (cH H 2 6),.slice (.tag 6) 0 [],.st 7 D8 z.2,(cH H 2 9)]),(3,.tip 0 0),(4,.tip 0 0),(5,.tip 0 0),(6,.tip 0 0),(7,.tip (tpe 10 (List.length z.2)) (List.length z.2))])⟩
 exact blk⟩
abbrev b2n (d9:List Tok)(at2 l5:Int)(p:Option (Rs (List Nod×Int) (o7×Int))):Prop:=OkF env p 41 [.ptr 0 0] (hP p8 d9 at2 l5) (a6l d9 at2 l5)
instance c1V {n:Nat}{d9:List Tok}{at2 l5:Int}:b2n d9 at2 l5 (a1v n d9 at2 l5):=⟨fun{r} h=>by
 unfold a1v at h
 refine D5 rfl Tryz.func41 rfl rfl ?_
 let kr:=fun r:Rs (List Nod×Int) (o7×Int)=>a0H env 41 1 Tryz.f41.results.toList (a6l d9 at2 l5 r)
 let jn1:Jn 14 (List Nod×Int):=⟨fun fr H z=>([(0,.ptr 0 0),(3,.st 1 D8 z.1)],[(0,.row [.sl p8 d9,.i z.2,.i l5]),(1,.tip (tpe 10 (List.length z.1)) (List.length z.1))])⟩
 let jl1:Jn 3 (List Nod×Int):=⟨fun fr H z=>([(0,.ptr 0 0),(3,.st 1 D8 z.1)],[(0,.row [.sl p8 d9,.i z.2,.i l5]),(1,.tip (tpe 10 (List.length z.1)) (List.length z.1))])⟩
 let jn2:Jn 90013 (Bool):=⟨fun fr H z=>([(0,.ptr 0 0),(3,ow (.tag 1) (lk 3 fr)),(13,.bool z)],[(0,oH H 0),(1,oH H 1)])⟩
 let jn3:Jn 9 (Int×Int):=⟨fun fr H z=>([(0,.ptr 0 0),(3,ow (.tag 1) (lk 3 fr)),(4,.ptr 2 0)],[(0,.row [.sl p8 d9,.i z.1,.i l5]),(1,oH H 1),(2,.row [.i 13,.str [],.i z.2,.i 0,.str [],.i 0,.slice .sealed 0 [],.slice (.tag 3) 0 [],.slice (.tag 4) 0 [],(agC (lk 15 fr) 9)]),(3,.tip 0 0),(4,.tip 0 0)])⟩
 let jn4:Jn 18 (List Nod×Int):=⟨fun fr H z=>([(0,.ptr 0 0),(3,.st 1 D8 z.1)],[(0,.row [.sl p8 d9,.i z.2,.i l5]),(1,.tip (tpe 10 (List.length z.1)) (List.length z.1))])⟩
 exact blk⟩
abbrev b3a (d9:List Tok)(at2 l5:Int)(p:Option (Rs (List Nod×Int) (Int×Int))):Prop:=OkF env p 42 [.ptr 0 0] (hP p8 d9 at2 l5) (a6K d9 at2 l5)
instance c3o {n:Nat}{d9:List Tok}{at2 l5:Int}:b3a d9 at2 l5 (a3h n d9 at2 l5):=⟨fun{r} h=>by
 unfold a3h at h
 refine D5 rfl Tryz.func42 rfl rfl ?_
 let kr:=fun r:Rs (List Nod×Int) (Int×Int)=>a0H env 42 1 Tryz.f42.results.toList (a6K d9 at2 l5 r)
 let jn1:Jn 17 (List Nod×Int):=⟨fun fr H z=>([(3,.st 1 D8 z.1)],[(0,.row [.sl p8 d9,.i z.2,.i l5]),(1,.tip (tpe 10 (List.length z.1)) (List.length z.1))])⟩
 let jl1:Jn 3 (List Nod×Int):=⟨fun fr H z=>([(0,.ptr 0 0),(3,.st 1 D8 z.1)],[(0,.row [.sl p8 d9,.i z.2,.i l5]),(1,.tip (tpe 10 (List.length z.1)) (List.length z.1))])⟩
 let jn2:Jn 8 (Int×Int):=⟨fun fr H z=>([(0,.ptr 0 0),(3,ow (.tag 1) (lk 3 fr)),(4,.ptr 2 0)],[(0,.row [.sl p8 d9,.i z.1,.i l5]),(1,oH H 1),(2,.row [.i 14,.str [],.i z.2,.i 0,.str [],.i 0,.slice .sealed 0 [],.slice (.tag 3) 0 [],.slice (.tag 4) 0 [],(agC (lk 11 fr) 9)]),(3,.tip 0 0),(4,.tip 0 0)])⟩
 let jn3:Jn 15 (List Nod×Int×Int×List Typ):=⟨fun fr H z=>([(0,.ptr 0 0),(3,.st 1 D8 z.1),(4,.ptr 2 0)],[(0,.row [.sl p8 d9,.i z.2.1,.i l5]),(1,.tip (tpe 10 (List.length z.1)) (List.length z.1)),(2,.row [.i 14,(lk 18 fr),.i z.2.2.1,.i 0,.str [],.i 0,.slice .sealed 0 [],.st 3 C9 z.2.2.2,.slice (.tag 4) 0 [],(cH H 2 9)]),(3,.tip (tpe 4 (List.length z.2.2.2)) (List.length z.2.2.2)),(4,.tip 0 0)])⟩
 let jn4:Jn 14 (List Nod×Int×Int×List Typ):=⟨fun fr H z=>([(0,.ptr 0 0),(3,.st 1 D8 z.1),(4,.ptr 2 0)],[(0,.row [.sl p8 d9,.i z.2.1,.i l5]),(1,.tip (tpe 10 (List.length z.1)) (List.length z.1)),(2,.row [.i 14,(lk 18 fr),.i z.2.2.1,.i 0,.str [],.i 0,.slice .sealed 0 [],.st 3 C9 z.2.2.2,.slice (.tag 4) 0 [],(cH H 2 9)]),(3,.tip (tpe 4 (List.length z.2.2.2)) (List.length z.2.2.2)),(4,.tip 0 0)])⟩
 let jl2:Jn 11 (List Nod×Int×Int×List Typ):=⟨fun fr H z=>([(0,.ptr 0 0),(3,.st 1 D8 z.1),(4,.ptr 2 0)],[(0,.row [.sl p8 d9,.i z.2.1,.i l5]),(1,.tip (tpe 10 (List.length z.1)) (List.length z.1)),(2,.row [.i 14,(lk 18 fr),.i z.2.2.1,.i 0,.str [],.i 0,.slice .sealed 0 [],.st 3 C9 z.2.2.2,.slice (.tag 4) 0 [],(cH H 2 9)]),(3,.tip (tpe 4 (List.length z.2.2.2)) (List.length z.2.2.2)),(4,.tip 0 0)])⟩
 let ls:Nat->List Nat:=fun n=>cond (Nat.beq n 12) [2] (cond (Nat.beq n 10) [2] ([]))
 exact blk⟩
abbrev a81 (d9:List Tok)(at2 l5:Int)(p:Option (Rs (Nod×Int) (o7×Int))):Prop:=OkF env p 15 [.ptr 0 0] (hP p8 d9 at2 l5) (a4J d9 at2 l5)
instance b8s {n:Nat}{d9:List Tok}{at2 l5:Int}:a81 d9 at2 l5 (a0i n d9 at2 l5):=⟨fun{r} h=>by
 unfold a0i at h
 refine D5 rfl Tryz.func15 rfl rfl ?_
 let kr:=fun r:Rs (Nod×Int) (o7×Int)=>a0H env 15 1 Tryz.f15.results.toList (a4J d9 at2 l5 r)
 let jn1:Jn 17 (Int×Int):=⟨fun fr H z=>([(0,.ptr 0 0),(2,.ptr 1 0),(3,.ptr 2 0)],[(0,.row [.sl p8 d9,.i z.1,.i l5]),(1,.row [.i 0,.str [],.i 0,.i 0,.str [],.i 0,.slice (.tag 3) 0 [],.slice (.tag 4) 0 [],.slice (.tag 5) 0 [],.i 0]),(2,.row [.i 2,.str [],.i z.2,.i 0,.str [],.i 0,.slice .sealed 0 [],.slice (.tag 6) 0 [],.slice (.tag 7) 0 [],(agC (lk 20 fr) 9)]),(3,.tip 0 0),(4,.tip 0 0),(5,.tip 0 0),(6,.tip 0 0),(7,.tip 0 0)])⟩
 let jn2:Jn 19 (Int×Int):=⟨fun fr H z=>([(0,.ptr 0 0),(2,.ptr 1 0),(3,.ptr 2 0)],[(0,.row [.sl p8 d9,.i z.1,.i l5]),(1,oH H 1),(2,.row [.i 2,.str [],.i z.2,.i 0,.str [],.i 0,.slice .sealed 0 [],.slice (.tag 6) 0 [],.slice (.tag 7) 0 [],(cH H 2 9)]),(3,.tip 0 0),(4,.tip 0 0),(5,.tip 0 0),(6,.tip 0 0),(7,.tip 0 0)])⟩
 let jn3:Jn 30020 (Bool×Int):=⟨fun fr H z=>([(0,.ptr 0 0),(2,.ptr 1 0),(3,.ptr 2 0),(56,.bool z.1)],[(0,.row [.sl p8 d9,.i z.2,.i l5]),(1,oH H 1),(2,oH H 2),(3,.tip 0 0),(4,.tip 0 0),(5,.tip 0 0),(6,.tip 0 0),(7,.tip 0 0)])⟩
 let ls:Nat->List Nat:=fun n=>cond (Nat.beq n 27) [2] (cond (Nat.beq n 22) [2] (cond (Nat.beq n 12) [256] ([])))
 exact blk⟩
abbrev b5m (d9:List Tok)(at2 l5 op4:Int)(s5:Str)(n6 a7l:Int)(a7n:Str)(n9:Int)(a3f ts11:List Typ)(l12:List Nod)(at13:Int)(a5Z a8l:List Typ)(a8m:List Nod)(p:Option (Rs (Int×Nod) (o7×Int))):Prop:=OkF env p 14 [.ptr 1 0,.ptr 2 0] [(0,.row [.sl p8 d9,.i at2,.i l5]),(1,.row [.ptr 0 0]),(2,.row (c0 op4 s5 n6 a7l a7n n9 (.sl C9 a3f) (.sl C9 ts11) (.sl D8 l12) at13)),(3,.tip (tpe 4 (List.length a5Z)) (List.length a5Z)),(4,.tip (tpe 4 (List.length a8l)) (List.length a8l)),(5,.tip (tpe 10 (List.length a8m)) (List.length a8m))] (b30 d9 at2 l5 op4 s5 n6 a7l a7n n9 a3f ts11 l12 at13 a5Z a8l a8m)
instance c6X {n:Nat}{d9:List Tok}{at2 l5 op4:Int}{s5:Str}{n6 a7l:Int}{a7n:Str}{n9:Int}{a3f ts11:List Typ}{l12:List Nod}{at13:Int}{a5Z a8l:List Typ}{a8m:List Nod}:b5m d9 at2 l5 op4 s5 n6 a7l a7n n9 a3f ts11 l12 at13 a5Z a8l a8m (a5U n d9 at2 l5 op4 s5 n6 a7l a7n n9 a3f ts11 l12 at13 a5Z a8l a8m):=⟨fun{r} h=>by
 unfold a5U at h
 refine D5 rfl Tryz.func14 rfl rfl ?_
 exact blk⟩
abbrev b1x (d9:List Tok)(at2 l5 op4:Int)(s5:Str)(n6 a7l:Int)(a7n:Str)(n9:Int)(a3f ts11:List Typ)(l12:List Nod)(at13:Int)(p:Option (Flt×Int×Nod)):Prop:=OkF env p 13 [.ptr 0 0,.func (.func 14) [] [.ptr 1 0,.ptr 2 0]] [(0,.row [.sl p8 d9,.i at2,.i l5]),(1,.row [.ptr 0 0]),(2,.row (c0 op4 s5 n6 a7l a7n n9 (.st 3 C9 a3f) (.st 4 C9 ts11) (.st 5 D8 l12) at13)),(3,.tip (tpe 4 (List.length a3f)) (List.length a3f)),(4,.tip (tpe 4 (List.length ts11)) (List.length ts11)),(5,.tip (tpe 10 (List.length l12)) (List.length l12))] (b0b d9 at2 l5 op4 s5 n6 a7l a7n n9 a3f ts11 l12 at13)
instance c1j {n:Nat}{d9:List Tok}{at2 l5 op4:Int}{s5:Str}{n6 a7l:Int}{a7n:Str}{n9:Int}{a3f ts11:List Typ}{l12:List Nod}{at13:Int}:b1x d9 at2 l5 op4 s5 n6 a7l a7n n9 a3f ts11 l12 at13 (a3B n d9 at2 l5 op4 s5 n6 a7l a7n n9 a3f ts11 l12 at13):=⟨fun{r} h=>by
 unfold a3B at h
 rcases c7k h with⟨⟨at14,n15⟩,g1,h⟩ |⟨⟨e16,at17⟩,g2,h⟩
 ·obtain⟨n15_0,n15_1,n15_2,⟨n15_3,n15_4,n15_5,n15_6⟩,n15_7,n15_8,n15_9⟩:=n15
  cases h
  exact E_via rfl rfl (OkF.ok g1) rfl
 ·cases h
  exact E_via rfl rfl (OkF.ok g2) rfl⟩
abbrev b2u (a9q:Int)(A9:List Tok)(at3 G7:Int)(p:Option (Int)):Prop:=OkF env p 16 [.ptr 0 0,.i a9q] (hP p8 A9 at3 G7) (a6n a9q A9 at3 G7)
instance c1Z {n:Nat}{a9q:Int}{A9:List Tok}{at3 G7:Int}:b2u a9q A9 at3 G7 (a2G n a9q A9 at3 G7):=⟨fun{r} h=>by
 unfold a2G at h
 refine D5 rfl Tryz.func16 rfl rfl ?_
 let kr:=fun r:Int=>a0H env 16 1 Tryz.f16.results.toList (a6n a9q A9 at3 G7 r)
 let jn1:Jn 3 (Int):=⟨fun fr H z=>([(0,.ptr 0 0),(1,.i a9q)],(hP p8 A9 z G7))⟩
 let jn2:Jn 14 (Int):=⟨fun fr H z=>([(0,.ptr 0 0)],(hP p8 A9 z G7))⟩
 let jl1:Jn 4 (Int×Int×Int):=⟨fun fr H z=>([(0,.ptr 0 0),(4,.i z.1),(5,.i z.2.1)],[(0,.row [.sl p8 A9,.i z.2.2,.i G7])])⟩
 let jn3:Jn 6 (Int):=⟨fun fr H z=>([(0,.ptr 0 0),(4,.i z),(5,(lk 5 fr))],[(0,oH H 0)])⟩
 let jn4:Jn 30009 (Bool):=⟨fun fr H z=>([(0,.ptr 0 0),(4,(lk 4 fr)),(5,(lk 5 fr)),(6,.ptr 1 0),(57,.bool z)],[(0,oH H 0),(1,oH H 448)])⟩
 let jn5:Jn 30011 (Bool):=⟨fun fr H z=>([(0,.ptr 0 0),(4,(lk 4 fr)),(5,(lk 5 fr)),(6,.ptr 1 0),(69,.bool z)],[(0,oH H 0),(1,oH H 1)])⟩
 let jn6:Jn 30013 (Bool):=⟨fun fr H z=>([(0,.ptr 0 0),(4,(lk 4 fr)),(5,(lk 5 fr)),(79,.bool z)],[(0,oH H 0)])⟩
 exact blk⟩
abbrev a8C (n1:Nod)(p:Option (Int×Int)):Prop:=OkF env p 17 [.agg (c0 n1.op n1.s n1.n n1.t.kind n1.t.name n1.t.n (.sl C9 n1.t.args) (.sl C9 n1.ts) (.sl D8 n1.l) n1.at_)] [] (b29 n1)
class Q8.Ok (Φ:Q8):Prop where
 a2w:∀{n1:Nod},a8C n1 (Φ.a2w n1)
instance {Φ:Q8} [h:Q8.Ok Φ] {n1:Nod}:a8C n1 (Φ.a2w n1):=h.a2w
theorem b8p (n:Nat){Φ:Q8} [hΦ:Q8.Ok Φ] {n1:Nod}:a8C n1 (a6J n Φ n1):=⟨fun{r} h=>by
 unfold a6J at h
 obtain⟨n1_0,n1_1,n1_2,⟨n1_3,n1_4,n1_5,n1_6⟩,n1_7,n1_8,n1_9⟩:=n1
 refine D5 rfl Tryz.func17 rfl rfl ?_
 let kr:=fun r:Int×Int=>a0H env 17 0 Tryz.f17.results.toList (b29 (Nod.mk n1_0 n1_1 n1_2 (Typ.mk n1_3 n1_4 n1_5 n1_6) n1_7 n1_8 n1_9) r)
 let jn1:Jn 10 (Int×Int):=⟨fun fr H z=>([(2,.i z.1),(3,.i z.2)],[])⟩
 let jl1:Jn 3 (Int×Int×Int):=⟨fun fr H z=>([(2,.i z.1),(3,.i z.2.1),(9,.sl D8 n1_8),(10,.i (List.length n1_8:Int)),(11,.i z.2.2)],[])⟩
 exact blk⟩
theorem Q8.ok:∀n,Q8.Ok (Q8.fs n)
 | 0=>⟨⟨fun h=>by cases h⟩⟩
 | n+1=>have:=Q8.ok n;⟨b8p n⟩
instance parse_Size_I {n:Nat}{n1:Nod}:a8C n1 (a2w n n1):=(Q8.ok n).a2w
end Go.Proofs.YtcbjnilpecpbmaaGreatDoor
