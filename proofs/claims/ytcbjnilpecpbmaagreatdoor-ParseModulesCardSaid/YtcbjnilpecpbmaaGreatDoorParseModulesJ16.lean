/- What the functions under ParseModules compute, step by step, as functions in Lean: texts that were built one by one, joined. -/
import Derived.Test.YtcbjnilpecpbmaaGreatDoorParseModulesJ15
set_option maxRecDepth 100000
set_option maxHeartbeats 20000000
set_option linter.unusedSimpArgs false
set_option linter.unusedVariables false
set_option linter.unusedSectionVars false
namespace Go.Proofs.YtcbjnilpecpbmaaGreatDoor
open Go Go.Vm
attribute [local irreducible] Go.Vm.Ev Go.Vm.Os Go.Vm.OsP Go.Vm.Lp Go.Vm.F4 Go.Vm.J8 Go.Vm.K3 Go.Vm.E
abbrev c02 (U8:Str)(p:Option (Unit)):Prop:=OkF env p 4 [.str U8] [] (b71 U8)
instance law02_long_I {U8:Str}:c02 U8 (b1p U8):=⟨fun{r} h=>by
 unfold b1p at h
 refine D5 rfl Tryz.func4 rfl rfl ?_
 exact blk⟩
abbrev b9h (U8:Str)(p:Option (Flt×List Tok)):Prop:=OkF env p 11 [.str U8] [] (b63 U8)
instance parse_begin_I {U8:Str}:b9h U8 (a9P U8):=⟨fun{r} h=>by
 unfold a9P at h
 refine D5 rfl Tryz.func11 rfl rfl ?_
 let ls:Nat->List Nat:=fun n=>cond (Nat.beq n 2) [384] ([])
 exact blk⟩
abbrev b33 (d9:List Tok)(at2 l5:Int)(p:Option (Int)):Prop:=OkF env p 12 [.ptr 0 0] (hP p8 d9 at2 l5) (b2o d9 at2 l5)
instance c4o {d9:List Tok}{at2 l5:Int}:b33 d9 at2 l5 (a0P d9 at2 l5):=⟨fun{r} h=>by
 unfold a0P at h
 refine D5 rfl Tryz.func12 rfl rfl ?_
 exact blk⟩
abbrev b5n (n1 b6G:Int)(b5M:Str)(a7N:List Tok)(at5 b6T:Int)(p:Option (Bool)):Prop:=OkF env p 33 [.ptr 0 0,.i n1,.i b6G,.str b5M] (hP p8 a7N at5 b6T) (b34 n1 b6G b5M a7N at5 b6T)
instance c6Y {n1 b6G:Int}{b5M:Str}{a7N:List Tok}{at5 b6T:Int}:b5n n1 b6G b5M a7N at5 b6T (u6 n1 b6G b5M a7N at5 b6T):=⟨fun{r} h=>by
 unfold u6 at h
 refine D5 rfl Tryz.func33 rfl rfl ?_
 let ls:Nat->List Nat:=fun n=>cond (Nat.beq n 3) [0,0] ([])
 exact blk⟩
abbrev b36 (op1:Int)(A9:List Tok)(at3 G7:Int)(p:Option (Int)):Prop:=OkF env p 37 [.ptr 0 0,.i op1] (hP p8 A9 at3 G7) (b2q op1 A9 at3 G7)
instance c4q {op1:Int}{A9:List Tok}{at3 G7:Int}:b36 op1 A9 at3 G7 (D7 op1 A9 at3 G7):=⟨fun{r} h=>by
 unfold D7 at h
 refine D5 rfl Tryz.func37 rfl rfl ?_
 exact blk⟩
abbrev b31 (d9:List Tok)(at2 l5:Int)(p:Option (Rs Empty Int)):Prop:=OkF env p 77 [.ptr 0 0] (hP p8 d9 at2 l5) (b2m d9 at2 l5)
instance c4n {d9:List Tok}{at2 l5:Int}:b31 d9 at2 l5 (Y5 d9 at2 l5):=⟨fun{r} h=>by
 unfold Y5 at h
 refine D5 rfl Tryz.func77 rfl rfl ?_
 exact blk⟩
abbrev b3f (a0O:Int)(A9:List Tok)(at3 G7:Int)(p:Option (Rs Tok Int)):Prop:=OkF env p 74 [.ptr 0 0,.i a0O] (hP p8 A9 at3 G7) (b1B a0O A9 at3 G7)
instance c3t {a0O:Int}{A9:List Tok}{at3 G7:Int}:b3f a0O A9 at3 G7 (L6 a0O A9 at3 G7):=⟨fun{r} h=>by
 unfold L6 at h
 refine D5 rfl Tryz.func74 rfl rfl ?_
 let ls:Nat->List Nat:=fun n=>cond (Nat.beq n 3) [0,0] ([])
 exact blk⟩
abbrev b1v (d9:List Tok)(at2 l5:Int)(p:Option (Rs Str Int)):Prop:=OkF env p 39 [.ptr 0 0] (hP p8 d9 at2 l5) (a98 d9 at2 l5)
instance c1h {d9:List Tok}{at2 l5:Int}:b1v d9 at2 l5 (F7 d9 at2 l5):=⟨fun{r} h=>by
 unfold F7 at h
 refine D5 rfl Tryz.func39 rfl rfl ?_
 exact blk⟩
abbrev b4O (a8i:Str)(A9:List Tok)(at3 G7:Int)(p:Option (Bool×Int)):Prop:=OkF env p 38 [.ptr 0 0,.str a8i] (hP p8 A9 at3 G7) (b3b a8i A9 at3 G7)
instance c5F {a8i:Str}{A9:List Tok}{at3 G7:Int}:b4O a8i A9 at3 G7 (D9 a8i A9 at3 G7):=⟨fun{r} h=>by
 unfold D9 at h
 refine D5 rfl Tryz.func38 rfl rfl ?_
 exact blk⟩
abbrev b1D (a8i:Str)(A9:List Tok)(at3 G7:Int)(p:Option (Rs Int (Int×Int))):Prop:=OkF env p 43 [.ptr 0 0,.str a8i] (hP p8 A9 at3 G7) (b0g a8i A9 at3 G7)
instance c1n {a8i:Str}{A9:List Tok}{at3 G7:Int}:b1D a8i A9 at3 G7 (G6 a8i A9 at3 G7):=⟨fun{r} h=>by
 unfold G6 at h
 refine D5 rfl Tryz.func43 rfl rfl ?_
 exact blk⟩
abbrev b37 (a8d:Str)(A9:List Tok)(at3 G7:Int)(p:Option (Bool×Int)):Prop:=OkF env p 75 [.ptr 0 0,.str a8d] (hP p8 A9 at3 G7) (b2v a8d A9 at3 G7)
instance c4s {a8d:Str}{A9:List Tok}{at3 G7:Int}:b37 a8d A9 at3 G7 (x9 a8d A9 at3 G7):=⟨fun{r} h=>by
 unfold x9 at h
 refine D5 rfl Tryz.func75 rfl rfl ?_
 exact blk⟩
abbrev b38 (a8d:Str)(A9:List Tok)(at3 G7:Int)(p:Option (Rs Int (Int×Int))):Prop:=OkF env p 68 [.ptr 0 0,.str a8d] (hP p8 A9 at3 G7) (b2w a8d A9 at3 G7)
instance c4t {a8d:Str}{A9:List Tok}{at3 G7:Int}:b38 a8d A9 at3 G7 (u7 a8d A9 at3 G7):=⟨fun{r} h=>by
 unfold u7 at h
 refine D5 rfl Tryz.func68 rfl rfl ?_
 exact blk⟩
abbrev b2i (d9:List Tok)(at2 l5:Int)(p:Option (Rs (List Nod×Int) (Int×Int))):Prop:=OkF env p 69 [.ptr 0 0] (hP p8 d9 at2 l5) (b0J d9 at2 l5)
instance c1T {n:Nat}{d9:List Tok}{at2 l5:Int}:b2i d9 at2 l5 (a1u n d9 at2 l5):=⟨fun{r} h=>by
 unfold a1u at h
 refine D5 rfl Tryz.func69 rfl rfl ?_
 let jl1:Jn 4 (List Nod×Int):=⟨fun fr H z=>([(0,.ptr 0 0),(3,.st 1 D8 z.1)],[(0,.row [.sl p8 d9,.i z.2,.i l5]),(1,.tip (tpe 10 (List.length z.1)) (List.length z.1))])⟩
 exact blk⟩
abbrev b9i (a7m:Str)(X3:List Typ)(p:Option (Typ)):Prop:=OkF env p 141 [.str a7m,.sl C9 X3] [] (b1Y a7m X3)
instance parse_named_I {a7m:Str}{X3:List Typ}:b9i a7m X3 (a6j a7m X3):=⟨fun{r} h=>by
 unfold a6j at h
 refine D5 rfl Tryz.func141 rfl rfl ?_
 let kr:=fun r:Typ=>a0H env 141 0 Tryz.f141.results.toList (b1Y a7m X3 r)
 let jn1:Jn 16 (Int):=⟨fun fr H z=>([(0,.str a7m),(1,.sl C9 X3),(4,.ptr 0 0),(5,.i z)],[(0,.row [.i 0,.str [],.i 0,.slice (.tag 1) 0 []]),(1,.tip 0 0)])⟩
 let jn2:Jn 30004 (Bool):=⟨fun fr H z=>([(0,.str a7m),(1,.sl C9 X3),(4,.ptr 0 0),(5,.i 6),(6,.bool z)],[(0,.row [.i 0,.str [],.i 0,.slice (.tag 1) 0 []]),(1,.tip 0 0)])⟩
 let jn3:Jn 30006 (Bool):=⟨fun fr H z=>([(0,.str a7m),(1,.sl C9 X3),(4,.ptr 0 0),(5,.i 6),(16,.bool z)],[(0,oH H 0),(1,.tip 0 0)])⟩
 exact blk⟩
abbrev a4E (d9:List Tok)(at2 l5:Int)(p:Option (Rs (Typ×Int) (Int×Int))):Prop:=OkF env p 71 [.ptr 0 0] (hP p8 d9 at2 l5) (a7X d9 at2 l5)
abbrev a3Z (inExpr1:Bool)(A9:List Tok)(at3 G7:Int)(p:Option (Rs (Typ×Int) (Int×Int))):Prop:=OkF env p 124 [.ptr 0 0,.bool inExpr1] (hP p8 A9 at3 G7) (a7q inExpr1 A9 at3 G7)
class A7.Ok (Φ:A7):Prop where
 F3:∀{d9:List Tok} {at2 l5:Int},a4E d9 at2 l5 (Φ.F3 d9 at2 l5)
 P9:∀{inExpr1:Bool} {A9:List Tok} {at3 G7:Int},a3Z inExpr1 A9 at3 G7 (Φ.P9 inExpr1 A9 at3 G7)
instance {Φ:A7} [h:A7.Ok Φ] {d9:List Tok}{at2 l5:Int}:a4E d9 at2 l5 (Φ.F3 d9 at2 l5):=h.F3
instance {Φ:A7} [h:A7.Ok Φ] {inExpr1:Bool}{A9:List Tok}{at3 G7:Int}:a3Z inExpr1 A9 at3 G7 (Φ.P9 inExpr1 A9 at3 G7):=h.P9
theorem b3g (n:Nat){Φ:A7} [hΦ:A7.Ok Φ] {d9:List Tok}{at2 l5:Int}:a4E d9 at2 l5 (a3i n Φ d9 at2 l5):=⟨fun{r} h=>by
 unfold a3i at h
 refine D5 rfl Tryz.func71 rfl rfl ?_
 let kr:=fun r:Rs (Typ×Int) (Int×Int)=>a0H env 71 1 Tryz.f71.results.toList (a7X d9 at2 l5 r)
 let jn1:Jn 12 (List Typ×Int):=⟨fun fr H z=>([(0,.ptr 0 0),(2,.ptr 1 0),(3,.st 2 C9 z.1)],[(0,.row [.sl p8 d9,.i z.2,.i l5]),(1,.row [.i 0,.str [],.i 0,.slice (.tag 3) 0 []]),(2,.tip (tpe 4 (List.length z.1)) (List.length z.1)),(3,.tip 0 0)])⟩
 let jn2:Jn 11 (List Typ×Int):=⟨fun fr H z=>([(0,.ptr 0 0),(2,.ptr 1 0),(3,.st 2 C9 z.1)],[(0,.row [.sl p8 d9,.i z.2,.i l5]),(1,.row [.i 0,.str [],.i 0,.slice (.tag 3) 0 []]),(2,.tip (tpe 4 (List.length z.1)) (List.length z.1)),(3,.tip 0 0)])⟩
 let jl1:Jn 8 (List Typ×Int):=⟨fun fr H z=>([(0,.ptr 0 0),(2,.ptr 1 0),(3,.st 2 C9 z.1)],[(0,.row [.sl p8 d9,.i z.2,.i l5]),(1,.row [.i 0,.str [],.i 0,.slice (.tag 3) 0 []]),(2,.tip (tpe 4 (List.length z.1)) (List.length z.1)),(3,.tip 0 0)])⟩
 exact blk⟩
theorem b2s (n:Nat){Φ:A7} [hΦ:A7.Ok Φ] {inExpr1:Bool}{A9:List Tok}{at3 G7:Int}:a3Z inExpr1 A9 at3 G7 (a0l n Φ inExpr1 A9 at3 G7):=⟨fun{r} h=>by
 unfold a0l at h
 refine D5 rfl Tryz.func124 rfl rfl ?_
 let kr:=fun r:Rs (Typ×Int) (Int×Int)=>a0H env 124 1 Tryz.f124.results.toList (a7q inExpr1 A9 at3 G7 r)
 let jn1:Jn 9 (List Typ×Int):=⟨fun fr H z=>([(0,.ptr 0 0),(1,.bool inExpr1),(4,.ptr 1 0),(5,(lk 9 fr)),(6,.st 2 C9 z.1)],[(0,.row [.sl p8 A9,.i z.2,.i G7]),(1,.row [.i 0,.str [],.i 0,.slice (.tag 3) 0 []]),(2,.tip (tpe 4 (List.length z.1)) (List.length z.1)),(3,.tip 0 0)])⟩
 let jn2:Jn 8 (List Typ×Int):=⟨fun fr H z=>([(0,.ptr 0 0),(1,.bool inExpr1),(4,.ptr 1 0),(5,(lk 9 fr)),(6,.st 2 C9 z.1)],[(0,.row [.sl p8 A9,.i z.2,.i G7]),(1,.row [.i 0,.str [],.i 0,.slice (.tag 3) 0 []]),(2,.tip (tpe 4 (List.length z.1)) (List.length z.1)),(3,.tip 0 0)])⟩
 let jl1:Jn 5 (List Typ×Int):=⟨fun fr H z=>([(0,.ptr 0 0),(1,.bool inExpr1),(4,.ptr 1 0),(5,(lk 9 fr)),(6,.st 2 C9 z.1)],[(0,.row [.sl p8 A9,.i z.2,.i G7]),(1,.row [.i 0,.str [],.i 0,.slice (.tag 3) 0 []]),(2,.tip (tpe 4 (List.length z.1)) (List.length z.1)),(3,.tip 0 0)])⟩
 let jn3:Jn 13 (Int×Typ):=⟨fun fr H z=>([(4,.ptr 1 0),(7,.ptr 2 0)],[(0,.row [.sl p8 A9,.i z.1,.i G7]),(1,oH H 1),(2,.row [.i z.2.kind,.str z.2.name,.i z.2.n,.sl C9 z.2.args]),(3,.tip 0 0)])⟩
 let jl2:Jn 9 (Int×Typ):=⟨fun fr H z=>([(0,.ptr 0 0),(1,.bool inExpr1),(4,.ptr 1 0),(7,.ptr 2 0)],[(0,.row [.sl p8 A9,.i z.1,.i G7]),(1,oH H 1),(2,.row [.i z.2.kind,.str z.2.name,.i z.2.n,.sl C9 z.2.args]),(3,.tip 0 0)])⟩
 let jn4:Jn 90038 (Bool):=⟨fun fr H z=>([(0,.ptr 0 0),(1,.bool inExpr1),(4,.ptr 1 0),(7,.ptr 2 0),(38,.bool z)],[(0,oH H 0),(1,oH H 1),(2,oH H 2),(3,.tip 0 0)])⟩
 let ls:Nat->List Nat:=fun n=>cond (Nat.beq n 11) [2] ([])
 exact blk⟩
theorem A7.ok:∀n,A7.Ok (A7.fs n)
 | 0=>⟨⟨fun h=>by cases h⟩,⟨fun h=>by cases h⟩⟩
 | n+1=>have:=A7.ok n;⟨b3g n,b2s n⟩
instance c5H {n:Nat}{d9:List Tok}{at2 l5:Int}:a4E d9 at2 l5 (F3 n d9 at2 l5):=(A7.ok n).F3
instance c4r {n:Nat}{inExpr1:Bool}{A9:List Tok}{at3 G7:Int}:a3Z inExpr1 A9 at3 G7 (P9 n inExpr1 A9 at3 G7):=(A7.ok n).P9
abbrev b35 (d9:List Tok)(at2 l5:Int)(p:Option (Rs Str Int)):Prop:=OkF env p 76 [.ptr 0 0] (hP p8 d9 at2 l5) (b2p d9 at2 l5)
instance c4p {d9:List Tok}{at2 l5:Int}:b35 d9 at2 l5 (H7 d9 at2 l5):=⟨fun{r} h=>by
 unfold H7 at h
 refine D5 rfl Tryz.func76 rfl rfl ?_
 exact blk⟩
abbrev b2r (d9:List Tok)(at2 l5:Int)(p:Option (Rs (List Nod×Int) (Int×Int))):Prop:=OkF env p 122 [.ptr 0 0] (hP p8 d9 at2 l5) (a6m d9 at2 l5)
instance c1X {n:Nat}{d9:List Tok}{at2 l5:Int}:b2r d9 at2 l5 (R9 n d9 at2 l5):=⟨fun{r} h=>by
 unfold R9 at h
 refine D5 rfl Tryz.func122 rfl rfl ?_
 let kr:=fun r:Rs (List Nod×Int) (Int×Int)=>a0H env 122 1 Tryz.f122.results.toList (a6m d9 at2 l5 r)
 let jn1:Jn 16 (List Nod×Int):=⟨fun fr H z=>([(0,.ptr 0 0),(3,.st 1 D8 z.1)],[(0,.row [.sl p8 d9,.i z.2,.i l5]),(1,.tip (tpe 10 (List.length z.1)) (List.length z.1))])⟩
 let jl1:Jn 5 (List Nod×Int):=⟨fun fr H z=>([(0,.ptr 0 0),(3,.st 1 D8 z.1)],[(0,.row [.sl p8 d9,.i z.2,.i l5]),(1,.tip (tpe 10 (List.length z.1)) (List.length z.1))])⟩
 let jn2:Jn 11 (Int×Int):=⟨fun fr H z=>([(0,.ptr 0 0),(3,ow (.tag 1) (lk 3 fr)),(4,.ptr 2 0)],[(0,.row [.sl p8 d9,.i z.1,.i l5]),(1,oH H 1),(2,.row [.i 10,.str [],.i z.2,.i 0,.str [],.i 0,.slice .sealed 0 [],.slice (.tag 3) 0 [],.slice (.tag 4) 0 [],(agC (lk 10 fr) 9)]),(3,.tip 0 0),(4,.tip 0 0)])⟩
 exact blk⟩
abbrev b2t (d9:List Tok)(at2 l5:Int)(p:Option (Rs (Typ×Int) (Int×Int))):Prop:=OkF env p 123 [.ptr 0 0] (hP p8 d9 at2 l5) (b0P d9 at2 l5)
instance c1Y {n:Nat}{d9:List Tok}{at2 l5:Int}:b2t d9 at2 l5 (Y1 n d9 at2 l5):=⟨fun{r} h=>by
 unfold Y1 at h
 refine D5 rfl Tryz.func123 rfl rfl ?_
 exact blk⟩
abbrev b0L (d9:List Tok)(at2 l5:Int)(p:Option (Rs (List Nod×Int) (Int×Int))):Prop:=OkF env p 40 [.ptr 0 0] (hP p8 d9 at2 l5) (a5v d9 at2 l5)
instance b99 {n:Nat}{d9:List Tok}{at2 l5:Int}:b0L d9 at2 l5 (Y0 n d9 at2 l5):=⟨fun{r} h=>by
 unfold Y0 at h
 refine D5 rfl Tryz.func40 rfl rfl ?_
 let kr:=fun r:Rs (List Nod×Int) (Int×Int)=>a0H env 40 1 Tryz.f40.results.toList (a5v d9 at2 l5 r)
 let jn1:Jn 10 (List Nod×Int):=⟨fun fr H z=>([(0,.ptr 0 0),(3,.st 1 D8 z.1)],[(0,.row [.sl p8 d9,.i z.2,.i l5]),(1,.tip (tpe 10 (List.length z.1)) (List.length z.1))])⟩
 let jl1:Jn 4 (List Nod×Int):=⟨fun fr H z=>([(0,.ptr 0 0),(3,.st 1 D8 z.1)],[(0,.row [.sl p8 d9,.i z.2,.i l5]),(1,.tip (tpe 10 (List.length z.1)) (List.length z.1))])⟩
 exact blk⟩
abbrev b3h (d9:List Tok)(at2 l5:Int)(p:Option (Rs (List Nod×Int) (Int×Int))):Prop:=OkF env p 72 [.ptr 0 0] (hP p8 d9 at2 l5) (a6Q d9 at2 l5)
instance c3v {n:Nat}{d9:List Tok}{at2 l5:Int}:b3h d9 at2 l5 (a1V n d9 at2 l5):=⟨fun{r} h=>by
 unfold a1V at h
 refine D5 rfl Tryz.func72 rfl rfl ?_
 let kr:=fun r:Rs (List Nod×Int) (Int×Int)=>a0H env 72 1 Tryz.f72.results.toList (a6Q d9 at2 l5 r)
 let jl1:Jn 4 (List Nod×Int):=⟨fun fr H z=>([(0,.ptr 0 0),(3,.st 1 D8 z.1)],[(0,.row [.sl p8 d9,.i z.2,.i l5]),(1,.tip (tpe 10 (List.length z.1)) (List.length z.1))])⟩
 let jn1:Jn 13 (Int×Str×Int×List Typ):=⟨fun fr H z=>([(0,.ptr 0 0),(3,ow (.tag 1) (lk 3 fr)),(4,.ptr 2 0)],[(0,.row [.sl p8 d9,.i z.1,.i l5]),(1,oH H 1),(2,.row [.i 12,.str z.2.1,.i z.2.2.1,(agC (lk 11 fr) 0),(agC (lk 11 fr) 1),(agC (lk 11 fr) 2),ow .sealed (agC (lk 11 fr) 3),.st 3 C9 z.2.2.2,.slice (.tag 4) 0 [],(agC (lk 9 fr) 9)]),(3,.tip (tpe 4 (List.length z.2.2.2)) (List.length z.2.2.2)),(4,.tip 0 0)])⟩
 exact blk⟩
abbrev b0f (d9:List Tok)(at2 l5:Int)(p:Option (Rs (Str×Typ×List Nod×Int×Int) (Int×Int))):Prop:=OkF env p 70 [.ptr 0 0] (hP p8 d9 at2 l5) (a5f d9 at2 l5)
instance b9j {n:Nat}{d9:List Tok}{at2 l5:Int}:b0f d9 at2 l5 (a0b n d9 at2 l5):=⟨fun{r} h=>by
 unfold a0b at h
 refine D5 rfl Tryz.func70 rfl rfl ?_
 let kr:=fun r:Rs (Str×Typ×List Nod×Int×Int) (Int×Int)=>a0H env 70 1 Tryz.f70.results.toList (a5f d9 at2 l5 r)
 let jn1:Jn 13 (Int×List Nod):=⟨fun fr H z=>([(0,.ptr 0 0),(2,.ptr 1 0),(3,.ptr 2 0)],[(0,.row [.sl p8 d9,.i z.1,.i l5]),(1,.row [.i 0,.str [],.i 0,.i 0,.str [],.i 0,.slice (.tag 3) 0 [],.slice (.tag 4) 0 [],.slice (.tag 5) 0 [],.i 0]),(2,.row [.i 7,(lk 10 fr),.i 0,.i 0,.str [],.i 0,.slice .sealed 0 [],.slice (.tag 6) 0 [],.st 7 D8 z.2,(agC (lk 6 fr) 9)]),(3,.tip 0 0),(4,.tip 0 0),(5,.tip 0 0),(6,.tip 0 0),(7,.tip (tpe 10 (List.length z.2)) (List.length z.2))])⟩
 let ls:Nat->List Nat:=fun n=>cond (Nat.beq n 13) [2] (cond (Nat.beq n 5) [256] ([]))
 exact blk⟩
abbrev b0O (d9:List Tok)(at2 l5:Int)(p:Option (Rs (Nod×Int) (Int×Int))):Prop:=OkF env p 34 [.ptr 0 0] (hP p8 d9 at2 l5) (a5w d9 at2 l5)
instance c0c {n:Nat}{d9:List Tok}{at2 l5:Int}:b0O d9 at2 l5 (a1L n d9 at2 l5):=⟨fun{r} h=>by
 unfold a1L at h
 refine D5 rfl Tryz.func34 rfl rfl ?_
 let kr:=fun r:Rs (Nod×Int) (Int×Int)=>a0H env 34 1 Tryz.f34.results.toList (a5w d9 at2 l5 r)
 let jn1:Jn 13 (Int×List Nod):=⟨fun fr H z=>([(0,.ptr 0 0),(2,.ptr 1 0),(3,.ptr 2 0)],[(0,.row [.sl p8 d9,.i z.1,.i l5]),(1,.row [.i 0,.str [],.i 0,.i 0,.str [],.i 0,.slice (.tag 3) 0 [],.slice (.tag 4) 0 [],.slice (.tag 5) 0 [],.i 0]),(2,.row [.i 5,(lk 11 fr),.i 0,.i 0,.str [],.i 0,.slice .sealed 0 [],.slice (.tag 6) 0 [],.st 7 D8 z.2,(agC (lk 7 fr) 9)]),(3,.tip 0 0),(4,.tip 0 0),(5,.tip 0 0),(6,.tip 0 0),(7,.tip (tpe 10 (List.length z.2)) (List.length z.2))])⟩
 let jl1:Jn 5 (Int×List Nod):=⟨fun fr H z=>([(0,.ptr 0 0),(2,.ptr 1 0),(3,.ptr 2 0)],[(0,.row [.sl p8 d9,.i z.1,.i l5]),(1,.row [.i 0,.str [],.i 0,.i 0,.str [],.i 0,.slice (.tag 3) 0 [],.slice (.tag 4) 0 [],.slice (.tag 5) 0 [],.i 0]),(2,.row [.i 5,(lk 11 fr),.i 0,.i 0,.str [],.i 0,.slice .sealed 0 [],.slice (.tag 6) 0 [],.st 7 D8 z.2,(agC (lk 7 fr) 9)]),(3,.tip 0 0),(4,.tip 0 0),(5,.tip 0 0),(6,.tip 0 0),(7,.tip (tpe 10 (List.length z.2)) (List.length z.2))])⟩
 let jn2:Jn 17 (Int×List Nod):=⟨fun fr H z=>([(0,.ptr 0 0),(2,.ptr 1 0),(3,.ptr 2 0)],[(0,.row [.sl p8 d9,.i z.1,.i l5]),(1,oH H 1),(2,.row [.i 5,(cH H 2 1),.i 0,.i 0,.str [],.i 0,.slice .sealed 0 [],.slice (.tag 6) 0 [],.st 7 D8 z.2,(cH H 2 9)]),(3,.tip 0 0),(4,.tip 0 0),(5,.tip 0 0),(6,.tip 0 0),(7,.tip (tpe 10 (List.length z.2)) (List.length z.2))])⟩
 let jl2:Jn 12 (Int×List Nod):=⟨fun fr H z=>([(0,.ptr 0 0),(2,.ptr 1 0),(3,.ptr 2 0)],[(0,.row [.sl p8 d9,.i z.1,.i l5]),(1,oH H 1),(2,.row [.i 5,(cH H 2 1),.i 0,.i 0,.str [],.i 0,.slice .sealed 0 [],.slice (.tag 6) 0 [],.st 7 D8 z.2,(cH H 2 9)]),(3,.tip 0 0),(4,.tip 0 0),(5,.tip 0 0),(6,.tip 0 0),(7,.tip (tpe 10 (List.length z.2)) (List.length z.2))])⟩
 exact blk⟩
abbrev b1y (d9:List Tok)(at2 l5:Int)(p:Option (Rs Int Int)):Prop:=OkF env p 177 [.ptr 0 0] (hP p8 d9 at2 l5) (b0c d9 at2 l5)
instance c1k {d9:List Tok}{at2 l5:Int}:b1y d9 at2 l5 (Z6 d9 at2 l5):=⟨fun{r} h=>by
 unfold Z6 at h
 refine D5 rfl Tryz.func177 rfl rfl ?_
 exact blk⟩
abbrev b3e (d9:List Tok)(at2 l5:Int)(p:Option (Rs (Nod×Int) (Int×Int))):Prop:=OkF env p 197 [.ptr 0 0] (hP p8 d9 at2 l5) (a6O d9 at2 l5)
instance c3s {n:Nat}{d9:List Tok}{at2 l5:Int}:b3e d9 at2 l5 (a02 n d9 at2 l5):=⟨fun{r} h=>by
 unfold a02 at h
 refine D5 rfl Tryz.func197 rfl rfl ?_
 let kr:=fun r:Rs (Nod×Int) (Int×Int)=>a0H env 197 1 Tryz.f197.results.toList (a6O d9 at2 l5 r)
 let jn1:Jn 8 (Int×Int×Str×List Nod):=⟨fun fr H z=>([(2,.ptr 1 0),(3,.ptr 2 0)],[(0,.row [.sl p8 d9,.i z.1,.i l5]),(1,.row [.i 0,.str [],.i 0,.i 0,.str [],.i 0,.slice (.tag 3) 0 [],.slice (.tag 4) 0 [],.slice (.tag 5) 0 [],.i 0]),(2,.row [.i z.2.1,.str z.2.2.1,.i 0,.i 0,.str [],.i 0,.slice .sealed 0 [],.slice (.tag 6) 0 [],.st 7 D8 z.2.2.2,(agC (lk 6 fr) 9)]),(3,.tip 0 0),(4,.tip 0 0),(5,.tip 0 0),(6,.tip 0 0),(7,.tip (tpe 10 (List.length z.2.2.2)) (List.length z.2.2.2))])⟩
 let jl1:Jn 3 (Int×Int×Str×List Nod):=⟨fun fr H z=>([(0,.ptr 0 0),(2,.ptr 1 0),(3,.ptr 2 0)],[(0,.row [.sl p8 d9,.i z.1,.i l5]),(1,.row [.i 0,.str [],.i 0,.i 0,.str [],.i 0,.slice (.tag 3) 0 [],.slice (.tag 4) 0 [],.slice (.tag 5) 0 [],.i 0]),(2,.row [.i z.2.1,.str z.2.2.1,.i 0,.i 0,.str [],.i 0,.slice .sealed 0 [],.slice (.tag 6) 0 [],.st 7 D8 z.2.2.2,(agC (lk 6 fr) 9)]),(3,.tip 0 0),(4,.tip 0 0),(5,.tip 0 0),(6,.tip 0 0),(7,.tip (tpe 10 (List.length z.2.2.2)) (List.length z.2.2.2))])⟩
 exact blk⟩
abbrev b8q (p:Option (Unit)):Prop:=OkF env p 167 [] [] (b6b)
instance parse_levels_I:b8q (a8D):=⟨fun{r} h=>by
 unfold a8D at h
 refine D5 rfl Tryz.func167 rfl rfl ?_
 exact blk⟩
abbrev a8K (s1:List Str)(v2:Str)(p:Option (Int)):Prop:=OkF env p 78 [.sl clS s1,.str v2] [] (a4v s1 v2)
instance b7t {n:Nat}{s1:List Str}{v2:Str}:a8K s1 v2 (a1E n s1 v2):=⟨fun{r} h=>by
 unfold a1E at h
 refine D5 rfl Tryz.func78 rfl rfl ?_
 let kr:=fun r:Int=>a0H env 78 0 Tryz.f78.results.toList (a4v s1 v2 r)
 let jn1:Jn 8 (Unit):=⟨fun fr H z=>([],[])⟩
 let jl1:Jn 2 (Int):=⟨fun fr H z=>([(0,.sl clS s1),(1,.str v2),(7,.i (List.length s1:Int)),(8,.i z)],[])⟩
 exact blk⟩
abbrev a7E (s1:List Str)(v2:Str)(p:Option (Bool)):Prop:=OkF env p 44 [.sl clS s1,.str v2] [] (a7d s1 v2)
instance b6l {n:Nat}{s1:List Str}{v2:Str}:a7E s1 v2 (R7 n s1 v2):=⟨fun{r} h=>by
 unfold R7 at h
 refine D5 rfl Tryz.func44 rfl rfl ?_
 exact blk⟩
abbrev a2V (d9:List Tok)(at2 l5:Int)(p:Option (Rs (Nod×Int) (Int×Int))):Prop:=OkF env p 165 [.ptr 0 0] (hP p8 d9 at2 l5) (a5J d9 at2 l5)
class F9.Ok (Φ:F9):Prop where
 K4:∀{d9:List Tok} {at2 l5:Int},a2V d9 at2 l5 (Φ.K4 d9 at2 l5)
instance {Φ:F9} [h:F9.Ok Φ] {d9:List Tok}{at2 l5:Int}:a2V d9 at2 l5 (Φ.K4 d9 at2 l5):=h.K4
theorem b0d (n:Nat){Φ:F9} [hΦ:F9.Ok Φ] {d9:List Tok}{at2 l5:Int}:a2V d9 at2 l5 (a1k n Φ d9 at2 l5):=⟨fun{r} h=>by
 unfold a1k at h
 refine D5 rfl Tryz.func165 rfl rfl ?_
 let kr:=fun r:Rs (Nod×Int) (Int×Int)=>a0H env 165 1 Tryz.f165.results.toList (a5J d9 at2 l5 r)
 let jn1:Jn 25 (Int×Int×Str×Int×List Nod):=⟨fun fr H z=>([(2,.ptr 1 0),(3,.ptr 2 0)],[(0,.row [.sl p8 d9,.i z.1,.i l5]),(1,.row [.i 0,.str [],.i 0,.i 0,.str [],.i 0,.slice (.tag 3) 0 [],.slice (.tag 4) 0 [],.slice (.tag 5) 0 [],.i 0]),(2,.row [.i z.2.1,.str z.2.2.1,.i z.2.2.2.1,.i 0,.str [],.i 0,.slice .sealed 0 [],.slice (.tag 6) 0 [],.st 7 D8 z.2.2.2.2,(agC (lk 5 fr) 9)]),(3,.tip 0 0),(4,.tip 0 0),(5,.tip 0 0),(6,.tip 0 0),(7,.tip (tpe 10 (List.length z.2.2.2.2)) (List.length z.2.2.2.2))])⟩
 let jn2:Jn 9 (Int×List Nod):=⟨fun fr H z=>([(0,.ptr 0 0),(2,.ptr 1 0),(3,.ptr 2 0)],[(0,.row [.sl p8 d9,.i z.1,.i l5]),(1,.row [.i 0,.str [],.i 0,.i 0,.str [],.i 0,.slice (.tag 3) 0 [],.slice (.tag 4) 0 [],.slice (.tag 5) 0 [],.i 0]),(2,.row [.i 45,(lk 9 fr),.i 0,.i 0,.str [],.i 0,.slice .sealed 0 [],.slice (.tag 6) 0 [],.st 7 D8 z.2,(agC (lk 5 fr) 9)]),(3,.tip 0 0),(4,.tip 0 0),(5,.tip 0 0),(6,.tip 0 0),(7,.tip (tpe 10 (List.length z.2)) (List.length z.2))])⟩
 let jl1:Jn 6 (Int×List Nod):=⟨fun fr H z=>([(0,.ptr 0 0),(2,.ptr 1 0),(3,.ptr 2 0)],[(0,.row [.sl p8 d9,.i z.1,.i l5]),(1,.row [.i 0,.str [],.i 0,.i 0,.str [],.i 0,.slice (.tag 3) 0 [],.slice (.tag 4) 0 [],.slice (.tag 5) 0 [],.i 0]),(2,.row [.i 45,(lk 9 fr),.i 0,.i 0,.str [],.i 0,.slice .sealed 0 [],.slice (.tag 6) 0 [],.st 7 D8 z.2,(agC (lk 5 fr) 9)]),(3,.tip 0 0),(4,.tip 0 0),(5,.tip 0 0),(6,.tip 0 0),(7,.tip (tpe 10 (List.length z.2)) (List.length z.2))])⟩
 let ls:Nat->List Nat:=fun n=>cond (Nat.beq n 7) [2] (cond (Nat.beq n 5) [256] ([]))
 exact blk⟩
theorem F9.ok:∀n,F9.Ok (F9.fs n)
 | 0=>⟨⟨fun h=>by cases h⟩⟩
 | n+1=>have:=F9.ok n;⟨b0d n⟩
instance c1l {n:Nat}{d9:List Tok}{at2 l5:Int}:a2V d9 at2 l5 (K4 n d9 at2 l5):=(F9.ok n).K4
abbrev b9l (e1:Nod)(p:Option (Bool)):Prop:=OkF env p 153 [.agg (c0 e1.op e1.s e1.n e1.t.kind e1.t.name e1.t.n (.sl C9 e1.t.args) (.sl C9 e1.ts) (.sl D8 e1.l) e1.at_)] [] (b1Z e1)
instance parse_place_I {n:Nat}{e1:Nod}:b9l e1 (a7Y n e1):=⟨fun{r} h=>by
 unfold a7Y at h
 obtain⟨e1_0,e1_1,e1_2,⟨e1_3,e1_4,e1_5,e1_6⟩,e1_7,e1_8,e1_9⟩:=e1
 refine D5 rfl Tryz.func153 rfl rfl ?_
 let kr:=fun r:Bool=>a0H env 153 0 Tryz.f153.results.toList (b1Z (Nod.mk e1_0 e1_1 e1_2 (Typ.mk e1_3 e1_4 e1_5 e1_6) e1_7 e1_8 e1_9) r)
 let jn1:Jn 4 (Nod):=⟨fun fr H z=>([(1,.ptr 0 0)],[(0,.row (c0 z.op z.s z.n z.t.kind z.t.name z.t.n (.sl C9 z.t.args) (.sl C9 z.ts) (.sl D8 z.l) z.at_))])⟩
 let jl1:Jn 1 (Nod):=⟨fun fr H z=>([(1,.ptr 0 0)],[(0,.row (c0 z.op z.s z.n z.t.kind z.t.name z.t.n (.sl C9 z.t.args) (.sl C9 z.ts) (.sl D8 z.l) z.at_))])⟩
 exact blk⟩
end Go.Proofs.YtcbjnilpecpbmaaGreatDoor
