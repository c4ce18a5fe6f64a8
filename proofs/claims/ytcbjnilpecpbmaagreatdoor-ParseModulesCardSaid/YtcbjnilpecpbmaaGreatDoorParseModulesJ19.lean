/- What the functions under ParseModules compute, step by step, as functions in Lean: texts that were built one by one, joined. -/
import Derived.Test.YtcbjnilpecpbmaaGreatDoorParseModulesJ18
set_option maxRecDepth 100000
set_option maxHeartbeats 20000000
set_option linter.unusedSimpArgs false
set_option linter.unusedVariables false
set_option linter.unusedSectionVars false
namespace Go.Proofs.YtcbjnilpecpbmaaGreatDoor
open Go Go.Vm
attribute [local irreducible] Go.Vm.Ev Go.Vm.Os Go.Vm.OsP Go.Vm.Lp Go.Vm.F4 Go.Vm.J8 Go.Vm.K3 Go.Vm.E
abbrev a3H (l1:List Tok)(o9 at3 o5:Int)(p:Option (Nod×Bool×Int×Int)):Prop:=OkF env p 95 [.ptr 0 0] (hR p8 l1 o9 at3 o5) (b1I l1 o9 at3 o5)
abbrev a1D (l1:List Tok)(o9 at3 o5:Int)(p:Option (List Nod×Bool×Int×Int)):Prop:=OkF env p 129 [.ptr 0 0] (hR p8 l1 o9 at3 o5) (a4V l1 o9 at3 o5)
abbrev a15 (l1:List Tok)(o9 at3 o5:Int)(p:Option (Nod×Bool×Int×Int)):Prop:=OkF env p 143 [.ptr 0 0] (hR p8 l1 o9 at3 o5) (a5k l1 o9 at3 o5)
abbrev a3L (l1:List Tok)(o9 at3 o5:Int)(p:Option (Nod×Bool×Int×Int)):Prop:=OkF env p 154 [.ptr 0 0] (hR p8 l1 o9 at3 o5) (a6Y l1 o9 at3 o5)
abbrev a4d (l1:List Tok)(o9 at3 o5:Int)(p:Option (Nod×Bool×Int×Int)):Prop:=OkF env p 156 [.ptr 0 0] (hR p8 l1 o9 at3 o5) (b2C l1 o9 at3 o5)
abbrev a3K (k1:Int)(l2:List Tok)(z8 at4 o8:Int)(p:Option (Nod×Bool×Int×Int)):Prop:=OkF env p 169 [.ptr 0 0,.i k1] (hR p8 l2 z8 at4 o8) (a6X k1 l2 z8 at4 o8)
abbrev a3O (l1:List Tok)(o9 at3 o5:Int)(p:Option (Nod×Bool×Int×Int)):Prop:=OkF env p 180 [.ptr 0 0] (hR p8 l1 o9 at3 o5) (b1O l1 o9 at3 o5)
abbrev a2Z (l1:List Tok)(o9 at3 o5:Int)(p:Option (Nod×Bool×Int×Int)):Prop:=OkF env p 188 [.ptr 0 0] (hR p8 l1 o9 at3 o5) (a5P l1 o9 at3 o5)
abbrev a4b (l1:List Tok)(o9 at3 o5:Int)(p:Option (Nod×Bool×Int×Int)):Prop:=OkF env p 198 [.ptr 0 0] (hR p8 l1 o9 at3 o5) (a7s l1 o9 at3 o5)
abbrev a4a (l1:List Nod)(l2:List Tok)(z8 at4 o8:Int)(p:Option (List Nod×Bool×Int×Int×List Nod)):Prop:=OkF env p 199 [.ptr 0 0,.st 1 D8 l1] [(0,.row [.sl p8 l2,.i z8,.i at4,.i o8]),(1,.tip (tpe 10 (List.length l1)) (List.length l1))] (a7r l1 l2 z8 at4 o8)
abbrev a09 (l1:List Tok)(o9 at3 o5:Int)(p:Option (Nod×Bool×Int×Int)):Prop:=OkF env p 215 [.ptr 0 0] (hR p8 l1 o9 at3 o5) (a4u l1 o9 at3 o5)
abbrev a2X (l1:List Tok)(o9 at3 o5:Int)(p:Option (Nod×Bool×Int×Int)):Prop:=OkF env p 216 [.ptr 0 0] (hR p8 l1 o9 at3 o5) (a5N l1 o9 at3 o5)
abbrev a4e (l1:List Tok)(o9 at3 o5:Int)(p:Option (Nod×Bool×Int×Int)):Prop:=OkF env p 217 [.ptr 0 0] (hR p8 l1 o9 at3 o5) (a7w l1 o9 at3 o5)
abbrev a1p (l1:List Tok)(o9 at3 o5:Int)(p:Option (Nod×Bool×Int×Int)):Prop:=OkF env p 155 [.ptr 0 0] (hR p8 l1 o9 at3 o5) (a4M l1 o9 at3 o5)
abbrev a3M (at1:Int)(l2:List Tok)(z8 at4 o8:Int)(p:Option (List Nod×Bool×Int×Int)):Prop:=OkF env p 157 [.ptr 0 0,.i at1] (hR p8 l2 z8 at4 o8) (a6Z at1 l2 z8 at4 o8)
abbrev a3p (l1:List Tok)(o9 at3 o5:Int)(p:Option (Nod×Bool×Int×Int)):Prop:=OkF env p 158 [.ptr 0 0] (hR p8 l1 o9 at3 o5) (b08 l1 o9 at3 o5)
class j5.Ok (Φ:j5):Prop where
 I6:∀{l1:List Tok} {o9 at3 o5:Int},a3H l1 o9 at3 o5 (Φ.I6 l1 o9 at3 o5)
 M9:∀{l1:List Tok} {o9 at3 o5:Int},a1D l1 o9 at3 o5 (Φ.M9 l1 o9 at3 o5)
 K8:∀{l1:List Tok} {o9 at3 o5:Int},a15 l1 o9 at3 o5 (Φ.K8 l1 o9 at3 o5)
 X7:∀{l1:List Tok} {o9 at3 o5:Int},a3L l1 o9 at3 o5 (Φ.X7 l1 o9 at3 o5)
 H8:∀{l1:List Tok} {o9 at3 o5:Int},a4d l1 o9 at3 o5 (Φ.H8 l1 o9 at3 o5)
 J2:∀{k1:Int} {l2:List Tok} {z8 at4 o8:Int},a3K k1 l2 z8 at4 o8 (Φ.J2 k1 l2 z8 at4 o8)
 K5:∀{l1:List Tok} {o9 at3 o5:Int},a3O l1 o9 at3 o5 (Φ.K5 l1 o9 at3 o5)
 U2:∀{l1:List Tok} {o9 at3 o5:Int},a2Z l1 o9 at3 o5 (Φ.U2 l1 o9 at3 o5)
 W9:∀{l1:List Tok} {o9 at3 o5:Int},a4b l1 o9 at3 o5 (Φ.W9 l1 o9 at3 o5)
 M5:∀{l1:List Nod} {l2:List Tok} {z8 at4 o8:Int},a4a l1 l2 z8 at4 o8 (Φ.M5 l1 l2 z8 at4 o8)
 O3:∀{l1:List Tok} {o9 at3 o5:Int},a09 l1 o9 at3 o5 (Φ.O3 l1 o9 at3 o5)
 U1:∀{l1:List Tok} {o9 at3 o5:Int},a2X l1 o9 at3 o5 (Φ.U1 l1 o9 at3 o5)
 Y7:∀{l1:List Tok} {o9 at3 o5:Int},a4e l1 o9 at3 o5 (Φ.Y7 l1 o9 at3 o5)
 M0:∀{l1:List Tok} {o9 at3 o5:Int},a1p l1 o9 at3 o5 (Φ.M0 l1 o9 at3 o5)
 X8:∀{at1:Int} {l2:List Tok} {z8 at4 o8:Int},a3M at1 l2 z8 at4 o8 (Φ.X8 at1 l2 z8 at4 o8)
 V7:∀{l1:List Tok} {o9 at3 o5:Int},a3p l1 o9 at3 o5 (Φ.V7 l1 o9 at3 o5)
instance {Φ:j5} [h:j5.Ok Φ] {l1:List Tok}{o9 at3 o5:Int}:a3H l1 o9 at3 o5 (Φ.I6 l1 o9 at3 o5):=h.I6
instance {Φ:j5} [h:j5.Ok Φ] {l1:List Tok}{o9 at3 o5:Int}:a1D l1 o9 at3 o5 (Φ.M9 l1 o9 at3 o5):=h.M9
instance {Φ:j5} [h:j5.Ok Φ] {l1:List Tok}{o9 at3 o5:Int}:a15 l1 o9 at3 o5 (Φ.K8 l1 o9 at3 o5):=h.K8
instance {Φ:j5} [h:j5.Ok Φ] {l1:List Tok}{o9 at3 o5:Int}:a3L l1 o9 at3 o5 (Φ.X7 l1 o9 at3 o5):=h.X7
instance {Φ:j5} [h:j5.Ok Φ] {l1:List Tok}{o9 at3 o5:Int}:a4d l1 o9 at3 o5 (Φ.H8 l1 o9 at3 o5):=h.H8
instance {Φ:j5} [h:j5.Ok Φ] {k1:Int}{l2:List Tok}{z8 at4 o8:Int}:a3K k1 l2 z8 at4 o8 (Φ.J2 k1 l2 z8 at4 o8):=h.J2
instance {Φ:j5} [h:j5.Ok Φ] {l1:List Tok}{o9 at3 o5:Int}:a3O l1 o9 at3 o5 (Φ.K5 l1 o9 at3 o5):=h.K5
instance {Φ:j5} [h:j5.Ok Φ] {l1:List Tok}{o9 at3 o5:Int}:a2Z l1 o9 at3 o5 (Φ.U2 l1 o9 at3 o5):=h.U2
instance {Φ:j5} [h:j5.Ok Φ] {l1:List Tok}{o9 at3 o5:Int}:a4b l1 o9 at3 o5 (Φ.W9 l1 o9 at3 o5):=h.W9
instance {Φ:j5} [h:j5.Ok Φ] {l1:List Nod}{l2:List Tok}{z8 at4 o8:Int}:a4a l1 l2 z8 at4 o8 (Φ.M5 l1 l2 z8 at4 o8):=h.M5
instance {Φ:j5} [h:j5.Ok Φ] {l1:List Tok}{o9 at3 o5:Int}:a09 l1 o9 at3 o5 (Φ.O3 l1 o9 at3 o5):=h.O3
instance {Φ:j5} [h:j5.Ok Φ] {l1:List Tok}{o9 at3 o5:Int}:a2X l1 o9 at3 o5 (Φ.U1 l1 o9 at3 o5):=h.U1
instance {Φ:j5} [h:j5.Ok Φ] {l1:List Tok}{o9 at3 o5:Int}:a4e l1 o9 at3 o5 (Φ.Y7 l1 o9 at3 o5):=h.Y7
instance {Φ:j5} [h:j5.Ok Φ] {l1:List Tok}{o9 at3 o5:Int}:a1p l1 o9 at3 o5 (Φ.M0 l1 o9 at3 o5):=h.M0
instance {Φ:j5} [h:j5.Ok Φ] {at1:Int}{l2:List Tok}{z8 at4 o8:Int}:a3M at1 l2 z8 at4 o8 (Φ.X8 at1 l2 z8 at4 o8):=h.X8
instance {Φ:j5} [h:j5.Ok Φ] {l1:List Tok}{o9 at3 o5:Int}:a3p l1 o9 at3 o5 (Φ.V7 l1 o9 at3 o5):=h.V7
theorem b1H (n:Nat){Φ:j5} [hΦ:j5.Ok Φ] {l1:List Tok}{o9 at3 o5:Int}:a3H l1 o9 at3 o5 (a2h n Φ l1 o9 at3 o5):=⟨fun{r} h=>by
 unfold a2h at h
 refine D5 rfl Tryz.func95 rfl rfl ?_
 exact blk⟩
theorem a8I (n:Nat){Φ:j5} [hΦ:j5.Ok Φ] {l1:List Tok}{o9 at3 o5:Int}:a1D l1 o9 at3 o5 (a0J n Φ l1 o9 at3 o5):=⟨fun{r} h=>by
 unfold a0J at h
 refine D5 rfl Tryz.func129 rfl rfl ?_
 let kr:=fun r:List Nod×Bool×Int×Int=>a0H env 129 1 Tryz.f129.results.toList (a4V l1 o9 at3 o5 r)
 let jn1:Jn 8 (List Nod×Int×Int):=⟨fun fr H z=>([(4,.st 1 D8 z.1)],[(0,.row [.sl p8 l1,.i o9,.i z.2.1,.i z.2.2]),(1,.tip (tpe 10 (List.length z.1)) (List.length z.1))])⟩
 let jl1:Jn 2 (List Nod×Int×Int):=⟨fun fr H z=>([(0,.ptr 0 0),(4,.st 1 D8 z.1)],[(0,.row [.sl p8 l1,.i o9,.i z.2.1,.i z.2.2]),(1,.tip (tpe 10 (List.length z.1)) (List.length z.1))])⟩
 exact blk⟩
theorem a9k (n:Nat){Φ:j5} [hΦ:j5.Ok Φ] {l1:List Tok}{o9 at3 o5:Int}:a15 l1 o9 at3 o5 (J5 n Φ l1 o9 at3 o5):=⟨fun{r} h=>by
 unfold J5 at h
 refine D5 rfl Tryz.func143 rfl rfl ?_
 let kr:=fun r:Nod×Bool×Int×Int=>a0H env 143 1 Tryz.f143.results.toList (a5k l1 o9 at3 o5 r)
 let jn1:Jn 30004 (Bool):=⟨fun fr H z=>([(0,.ptr 0 0),(2,.ptr 1 0),(4,(lk 23 fr)),(24,.bool z)],[(0,oH H 0),(1,.row [.i 0,.str [],.i 0,.i 0,.str [],.i 0,.slice (.tag 2) 0 [],.slice (.tag 3) 0 [],.slice (.tag 4) 0 [],.i 0]),(2,.tip 0 0),(3,.tip 0 0),(4,.tip 0 0)])⟩
 let jn2:Jn 30028 (Bool×Int):=⟨fun fr H z=>([(0,.ptr 0 0),(2,.ptr 1 0),(4,(lk 4 fr)),(14,.ptr 2 0),(125,.bool z.1)],[(0,.row [.sl p8 l1,.i o9,.i z.2,(cH H 0 3)]),(1,.row [.i 0,.str [],.i 0,.i 0,.str [],.i 0,.slice (.tag 3) 0 [],.slice (.tag 4) 0 [],.slice (.tag 5) 0 [],.i 0]),(2,oH H 960),(3,.tip 0 0),(4,.tip 0 0),(5,.tip 0 0)])⟩
 let ls:Nat->List Nat:=fun n=>cond (Nat.beq n 23) [832] (cond (Nat.beq n 20) [640] ([]))
 exact blk⟩
theorem b1K (n:Nat){Φ:j5} [hΦ:j5.Ok Φ] {l1:List Tok}{o9 at3 o5:Int}:a3L l1 o9 at3 o5 (a2i n Φ l1 o9 at3 o5):=⟨fun{r} h=>by
 unfold a2i at h
 refine D5 rfl Tryz.func154 rfl rfl ?_
 let kr:=fun r:Nod×Bool×Int×Int=>a0H env 154 1 Tryz.f154.results.toList (a6Y l1 o9 at3 o5 r)
 let jn1:Jn 6 (Int×Int):=⟨fun fr H z=>([(0,.ptr 0 0),(2,.ptr 1 0),(4,.ptr 2 0)],[(0,.row [.sl p8 l1,.i o9,.i z.1,.i o5]),(1,.row [.i 0,.str [],.i 0,.i 0,.str [],.i 0,.slice (.tag 3) 0 [],.slice (.tag 4) 0 [],.slice (.tag 5) 0 [],.i 0]),(2,.row [.i 21,.str [],.i z.2,.i 0,.str [],.i 0,.slice (.tag 6) 0 [],.slice (.tag 7) 0 [],.slice (.tag 8) 0 [],(lk 14 fr)]),(3,.tip 0 0),(4,.tip 0 0),(5,.tip 0 0),(6,.tip 0 0),(7,.tip 0 0),(8,.tip 0 0)])⟩
 let jn2:Jn 17 (Bool×Int×Int×Str×Int×List Typ):=⟨fun fr H z=>([(0,.ptr 0 0),(2,.ptr 1 0),(4,.ptr 2 0),(7,.bool z.1)],[(0,.row [.sl p8 l1,.i o9,.i z.2.1,.i o5]),(1,oH H 1),(2,.row [.i 21,(lk 24 fr),(cH H 2 2),.i z.2.2.1,.str z.2.2.2.1,.i z.2.2.2.2.1,.sl C9 z.2.2.2.2.2,.slice (.tag 6) 0 [],.slice (.tag 7) 0 [],(cH H 2 9)]),(3,.tip 0 0),(4,.tip 0 0),(5,.tip 0 0),(6,.tip 0 0),(7,.tip 0 0)])⟩
 let jn3:Jn 24 (Int×Int×List Nod):=⟨fun fr H z=>([(0,.ptr 0 0),(2,.ptr 1 0),(4,.ptr 2 0)],[(0,.row [.sl p8 l1,.i o9,.i z.1,.i z.2.1]),(1,oH H 1),(2,.row [.i 21,(cH H 2 1),(cH H 2 2),(cH H 2 3),(cH H 2 4),(cH H 2 5),ow .sealed (cH H 2 6),.slice (.tag 6) 0 [],.st 7 D8 z.2.2,(cH H 2 9)]),(3,.tip 0 0),(4,.tip 0 0),(5,.tip 0 0),(6,.tip 0 0),(7,.tip (tpe 10 (List.length z.2.2)) (List.length z.2.2))])⟩
 let jn4:Jn 30023 (Bool):=⟨fun fr H z=>([(0,.ptr 0 0),(2,.ptr 1 0),(4,.ptr 2 0),(62,.bool z)],[(0,oH H 0),(1,oH H 1),(2,oH H 2),(3,.tip 0 0),(4,.tip 0 0),(5,.tip 0 0),(6,.tip 0 0),(7,.tip 0 0)])⟩
 exact blk⟩
theorem b2B (n:Nat){Φ:j5} [hΦ:j5.Ok Φ] {l1:List Tok}{o9 at3 o5:Int}:a4d l1 o9 at3 o5 (a2I n Φ l1 o9 at3 o5):=⟨fun{r} h=>by
 unfold a2I at h
 refine D5 rfl Tryz.func156 rfl rfl ?_
 exact blk⟩
theorem b1J (n:Nat){Φ:j5} [hΦ:j5.Ok Φ] {k1:Int}{l2:List Tok}{z8 at4 o8:Int}:a3K k1 l2 z8 at4 o8 (a0z n Φ k1 l2 z8 at4 o8):=⟨fun{r} h=>by
 unfold a0z at h
 refine D5 rfl Tryz.func169 rfl rfl ?_
 let kr:=fun r:Nod×Bool×Int×Int=>a0H env 169 1 Tryz.f169.results.toList (a6X k1 l2 z8 at4 o8 r)
 let jn1:Jn 21 (Bool×Int×Int×Nod):=⟨fun fr H z=>([(4,.ptr 1 0),(7,.ptr 2 0),(8,.bool z.1)],[(0,.row [.sl p8 l2,.i z8,.i z.2.1,.i z.2.2.1]),(1,.row [.i 0,.str [],.i 0,.i 0,.str [],.i 0,.slice (.tag 3) 0 [],.slice (.tag 4) 0 [],.slice (.tag 5) 0 [],.i 0]),(2,.row (c0 z.2.2.2.op z.2.2.2.s z.2.2.2.n z.2.2.2.t.kind z.2.2.2.t.name z.2.2.2.t.n (.sl C9 z.2.2.2.t.args) (.sl C9 z.2.2.2.ts) (.sl D8 z.2.2.2.l) z.2.2.2.at_)),(3,.tip 0 0),(4,.tip 0 0),(5,.tip 0 0)])⟩
 let jl1:Jn 6 (Bool×Int×Int×Int×Nod):=⟨fun fr H z=>([(0,.ptr 0 0),(1,.i k1),(4,.ptr 1 0),(6,.slice .sealed (List.length ([[[124,124]],[[38,38]],[[61,61],[33,61],[60],[60,61],[62],[62,61]],[[43],[45]],[[42],[47],[37]]]:List (List Str))) ((clSl clS) ([[[124,124]],[[38,38]],[[61,61],[33,61],[60],[60,61],[62],[62,61]],[[43],[45]],[[42],[47],[37]]]:List (List Str)))),(7,.ptr 2 0),(8,.bool z.1),(9,.i z.2.1)],[(0,.row [.sl p8 l2,.i z8,.i z.2.2.1,.i z.2.2.2.1]),(1,.row [.i 0,.str [],.i 0,.i 0,.str [],.i 0,.slice (.tag 3) 0 [],.slice (.tag 4) 0 [],.slice (.tag 5) 0 [],.i 0]),(2,.row (c0 z.2.2.2.2.op z.2.2.2.2.s z.2.2.2.2.n z.2.2.2.2.t.kind z.2.2.2.2.t.name z.2.2.2.2.t.n (.sl C9 z.2.2.2.2.t.args) (.sl C9 z.2.2.2.2.ts) (.sl D8 z.2.2.2.2.l) z.2.2.2.2.at_)),(3,.tip 0 0),(4,.tip 0 0),(5,.tip 0 0)])⟩
 let jn2:Jn 90038 (Bool):=⟨fun fr H z=>([(0,.ptr 0 0),(1,.i k1),(4,.ptr 1 0),(6,.slice .sealed (List.length ([[[124,124]],[[38,38]],[[61,61],[33,61],[60],[60,61],[62],[62,61]],[[43],[45]],[[42],[47],[37]]]:List (List Str))) ((clSl clS) ([[[124,124]],[[38,38]],[[61,61],[33,61],[60],[60,61],[62],[62,61]],[[43],[45]],[[42],[47],[37]]]:List (List Str)))),(7,.ptr 2 0),(8,(lk 8 fr)),(9,(lk 9 fr)),(38,.bool z)],[(0,oH H 0),(1,oH H 1),(2,oH H 2),(3,.tip 0 0),(4,.tip 0 0),(5,.tip 0 0)])⟩
 let jn3:Jn 8 (Bool×Int×Int×Int×Str×List Nod×Int):=⟨fun fr H z=>([(0,.ptr 0 0),(1,.i k1),(4,.ptr 1 0),(6,.slice .sealed (List.length ([[[124,124]],[[38,38]],[[61,61],[33,61],[60],[60,61],[62],[62,61]],[[43],[45]],[[42],[47],[37]]]:List (List Str))) ((clSl clS) ([[[124,124]],[[38,38]],[[61,61],[33,61],[60],[60,61],[62],[62,61]],[[43],[45]],[[42],[47],[37]]]:List (List Str)))),(7,.ptr 2 0),(8,.bool z.1),(9,.i z.2.1)],[(0,.row [.sl p8 l2,.i z8,.i z.2.2.1,.i z.2.2.2.1]),(1,oH H 1),(2,.row [.i 64,.str z.2.2.2.2.1,.i 0,.i 0,.str [],.i 0,.slice (.tag 6) 0 [],.slice (.tag 7) 0 [],.st 8 D8 z.2.2.2.2.2.1,.i z.2.2.2.2.2.2]),(3,.tip 0 0),(4,.tip 0 0),(5,.tip 0 0),(6,.tip 0 0),(7,.tip 0 0),(8,.tip (tpe 10 (List.length z.2.2.2.2.2.1)) (List.length z.2.2.2.2.2.1))])⟩
 let jn4:Jn 15 (Int×Str×Int×Int×Nod):=⟨fun fr H z=>([(0,.ptr 0 0),(1,.i k1),(4,.ptr 1 0),(6,.slice .sealed (List.length ([[[124,124]],[[38,38]],[[61,61],[33,61],[60],[60,61],[62],[62,61]],[[43],[45]],[[42],[47],[37]]]:List (List Str))) ((clSl clS) ([[[124,124]],[[38,38]],[[61,61],[33,61],[60],[60,61],[62],[62,61]],[[43],[45]],[[42],[47],[37]]]:List (List Str)))),(7,.ptr 2 0),(9,.i z.1),(10,.str z.2.1)],[(0,.row [.sl p8 l2,.i z8,.i z.2.2.1,.i z.2.2.2.1]),(1,oH H 1),(2,.row (c0 z.2.2.2.2.op z.2.2.2.2.s z.2.2.2.2.n z.2.2.2.2.t.kind z.2.2.2.2.t.name z.2.2.2.2.t.n (.sl C9 z.2.2.2.2.t.args) (.sl C9 z.2.2.2.2.ts) (.sl D8 z.2.2.2.2.l) z.2.2.2.2.at_)),(3,.tip 0 0),(4,.tip 0 0),(5,.tip 0 0)])⟩
 let jl2:Jn 10 (Int×Str×Int×Int×Int×Nod):=⟨fun fr H z=>([(0,.ptr 0 0),(1,.i k1),(4,.ptr 1 0),(6,.slice .sealed (List.length ([[[124,124]],[[38,38]],[[61,61],[33,61],[60],[60,61],[62],[62,61]],[[43],[45]],[[42],[47],[37]]]:List (List Str))) ((clSl clS) ([[[124,124]],[[38,38]],[[61,61],[33,61],[60],[60,61],[62],[62,61]],[[43],[45]],[[42],[47],[37]]]:List (List Str)))),(7,.ptr 2 0),(9,.i z.1),(10,.str z.2.1),(11,.i z.2.2.1)],[(0,.row [.sl p8 l2,.i z8,.i z.2.2.2.1,.i z.2.2.2.2.1]),(1,oH H 1),(2,.row (c0 z.2.2.2.2.2.op z.2.2.2.2.2.s z.2.2.2.2.2.n z.2.2.2.2.2.t.kind z.2.2.2.2.2.t.name z.2.2.2.2.2.t.n (.sl C9 z.2.2.2.2.2.t.args) (.sl C9 z.2.2.2.2.2.ts) (.sl D8 z.2.2.2.2.2.l) z.2.2.2.2.2.at_)),(3,.tip 0 0),(4,.tip 0 0),(5,.tip 0 0)])⟩
 let jn5:Jn 12 (Str):=⟨fun fr H z=>([(0,.ptr 0 0),(1,.i k1),(4,.ptr 1 0),(6,.slice .sealed (List.length ([[[124,124]],[[38,38]],[[61,61],[33,61],[60],[60,61],[62],[62,61]],[[43],[45]],[[42],[47],[37]]]:List (List Str))) ((clSl clS) ([[[124,124]],[[38,38]],[[61,61],[33,61],[60],[60,61],[62],[62,61]],[[43],[45]],[[42],[47],[37]]]:List (List Str)))),(7,.ptr 2 0),(9,(lk 9 fr)),(10,.str z),(11,(lk 11 fr))],[(0,oH H 0),(1,oH H 1),(2,oH H 2),(3,.tip 0 0),(4,.tip 0 0),(5,.tip 0 0)])⟩
 exact blk⟩
theorem b1N (n:Nat){Φ:j5} [hΦ:j5.Ok Φ] {l1:List Tok}{o9 at3 o5:Int}:a3O l1 o9 at3 o5 (a2k n Φ l1 o9 at3 o5):=⟨fun{r} h=>by
 unfold a2k at h
 refine D5 rfl Tryz.func180 rfl rfl ?_
 exact blk⟩
theorem b0n (n:Nat){Φ:j5} [hΦ:j5.Ok Φ] {l1:List Tok}{o9 at3 o5:Int}:a2Z l1 o9 at3 o5 (a1t n Φ l1 o9 at3 o5):=⟨fun{r} h=>by
 unfold a1t at h
 refine D5 rfl Tryz.func188 rfl rfl ?_
 let kr:=fun r:Nod×Bool×Int×Int=>a0H env 188 1 Tryz.f188.results.toList (a5P l1 o9 at3 o5 r)
 let jn1:Jn 18 (Bool×Int×Int×Nod):=⟨fun fr H z=>([(2,.ptr 1 0),(4,.ptr 2 0),(5,.bool z.1)],[(0,.row [.sl p8 l1,.i o9,.i z.2.1,.i z.2.2.1]),(1,.row [.i 0,.str [],.i 0,.i 0,.str [],.i 0,.slice (.tag 3) 0 [],.slice (.tag 4) 0 [],.slice (.tag 5) 0 [],.i 0]),(2,.row (c0 z.2.2.2.op z.2.2.2.s z.2.2.2.n z.2.2.2.t.kind z.2.2.2.t.name z.2.2.2.t.n (.sl C9 z.2.2.2.t.args) (.sl C9 z.2.2.2.ts) (.sl D8 z.2.2.2.l) z.2.2.2.at_)),(3,.tip 0 0),(4,.tip 0 0),(5,.tip 0 0)])⟩
 let jl1:Jn 2 (Bool×Int×Int×Nod):=⟨fun fr H z=>([(0,.ptr 0 0),(2,.ptr 1 0),(4,.ptr 2 0),(5,.bool z.1)],[(0,.row [.sl p8 l1,.i o9,.i z.2.1,.i z.2.2.1]),(1,.row [.i 0,.str [],.i 0,.i 0,.str [],.i 0,.slice (.tag 3) 0 [],.slice (.tag 4) 0 [],.slice (.tag 5) 0 [],.i 0]),(2,.row (c0 z.2.2.2.op z.2.2.2.s z.2.2.2.n z.2.2.2.t.kind z.2.2.2.t.name z.2.2.2.t.n (.sl C9 z.2.2.2.t.args) (.sl C9 z.2.2.2.ts) (.sl D8 z.2.2.2.l) z.2.2.2.at_)),(3,.tip 0 0),(4,.tip 0 0),(5,.tip 0 0)])⟩
 exact blk⟩
theorem b2y (n:Nat){Φ:j5} [hΦ:j5.Ok Φ] {l1:List Tok}{o9 at3 o5:Int}:a4b l1 o9 at3 o5 (a0M n Φ l1 o9 at3 o5):=⟨fun{r} h=>by
 unfold a0M at h
 refine D5 rfl Tryz.func198 rfl rfl ?_
 let kr:=fun r:Nod×Bool×Int×Int=>a0H env 198 1 Tryz.f198.results.toList (a7s l1 o9 at3 o5 r)
 let jn1:Jn 45 (Int):=⟨fun fr H z=>([(0,.ptr 0 0),(2,.ptr 1 0)],[(0,.row [.sl p8 l1,.i o9,.i z,.i o5]),(1,.row [.i 0,.str [],.i 0,.i 0,.str [],.i 0,.slice (.tag 2) 0 [],.slice (.tag 3) 0 [],.slice (.tag 4) 0 [],.i 0]),(2,.tip 0 0),(3,.tip 0 0),(4,.tip 0 0)])⟩
 let jn2:Jn 43 (Int×Int×List Nod):=⟨fun fr H z=>([(0,.ptr 0 0),(2,.ptr 1 0),(4,.ptr 2 0)],[(0,.row [.sl p8 l1,.i o9,.i z.1,.i z.2.1]),(1,.row [.i 0,.str [],.i 0,.i 0,.str [],.i 0,.slice (.tag 3) 0 [],.slice (.tag 4) 0 [],.slice (.tag 5) 0 [],.i 0]),(2,.row [.i 67,.str [],.i 0,.i 0,.str [],.i 0,.slice (.tag 6) 0 [],.slice (.tag 7) 0 [],.st 8 D8 z.2.2,(lk 23 fr)]),(3,.tip 0 0),(4,.tip 0 0),(5,.tip 0 0),(6,.tip 0 0),(7,.tip 0 0),(8,.tip (tpe 10 (List.length z.2.2)) (List.length z.2.2))])⟩
 let jl1:Jn 35 (Bool×Int×Int×List Nod):=⟨fun fr H z=>([(0,.ptr 0 0),(2,.ptr 1 0),(4,.ptr 2 0),(15,.bool z.1)],[(0,.row [.sl p8 l1,.i o9,.i z.2.1,.i z.2.2.1]),(1,.row [.i 0,.str [],.i 0,.i 0,.str [],.i 0,.slice (.tag 3) 0 [],.slice (.tag 4) 0 [],.slice (.tag 5) 0 [],.i 0]),(2,.row [.i 67,.str [],.i 0,.i 0,.str [],.i 0,.slice (.tag 6) 0 [],.slice (.tag 7) 0 [],.st 8 D8 z.2.2.2,(lk 23 fr)]),(3,.tip 0 0),(4,.tip 0 0),(5,.tip 0 0),(6,.tip 0 0),(7,.tip 0 0),(8,.tip (tpe 10 (List.length z.2.2.2)) (List.length z.2.2.2))])⟩
 let ls:Nat->List Nat:=fun n=>cond (Nat.beq n 46) [1344] ([])
 exact blk⟩
theorem b2x (n:Nat){Φ:j5} [hΦ:j5.Ok Φ] {l1:List Nod}{l2:List Tok}{z8 at4 o8:Int}:a4a l1 l2 z8 at4 o8 (a2H n Φ l1 l2 z8 at4 o8):=⟨fun{r} h=>by
 unfold a2H at h
 refine D5 rfl Tryz.func199 rfl rfl ?_
 let kr:=fun r:List Nod×Bool×Int×Int×List Nod=>a0H env 199 2 Tryz.f199.results.toList (a7r l1 l2 z8 at4 o8 r)
 let jn1:Jn 19 (List Nod×Int×Int):=⟨fun fr H z=>([(0,.ptr 0 0),(1,.st 1 D8 z.1)],[(0,.row [.sl p8 l2,.i z8,.i z.2.1,.i z.2.2]),(1,.tip (tpe 10 (List.length z.1)) (List.length z.1))])⟩
 let jl1:Jn 6 (List Nod×Bool×Int×Int):=⟨fun fr H z=>([(0,.ptr 0 0),(1,.st 1 D8 z.1),(6,.bool z.2.1)],[(0,.row [.sl p8 l2,.i z8,.i z.2.2.1,.i z.2.2.2]),(1,.tip (tpe 10 (List.length z.1)) (List.length z.1))])⟩
 let jn2:Jn 15 (Bool×Int×Int×Nod):=⟨fun fr H z=>([(0,.ptr 0 0),(1,ow (.tag 1) (lk 1 fr)),(8,.ptr 2 0),(9,.bool z.1)],[(0,.row [.sl p8 l2,.i z8,.i z.2.1,.i z.2.2.1]),(1,oH H 1),(2,.row (c0 z.2.2.2.op z.2.2.2.s z.2.2.2.n z.2.2.2.t.kind z.2.2.2.t.name z.2.2.2.t.n (.sl C9 z.2.2.2.t.args) (.sl C9 z.2.2.2.ts) (.sl D8 z.2.2.2.l) z.2.2.2.at_))])⟩
 exact blk⟩
theorem a8b (n:Nat){Φ:j5} [hΦ:j5.Ok Φ] {l1:List Tok}{o9 at3 o5:Int}:a09 l1 o9 at3 o5 (a0q n Φ l1 o9 at3 o5):=⟨fun{r} h=>by
 unfold a0q at h
 refine D5 rfl Tryz.func215 rfl rfl ?_
 let kr:=fun r:Nod×Bool×Int×Int=>a0H env 215 1 Tryz.f215.results.toList (a4u l1 o9 at3 o5 r)
 let jl1:Jn 2 (Int×Int×List Nod):=⟨fun fr H z=>([(0,.ptr 0 0),(2,.ptr 1 0),(4,.ptr 2 0)],[(0,.row [.sl p8 l1,.i o9,.i z.1,.i z.2.1]),(1,.row [.i 0,.str [],.i 0,.i 0,.str [],.i 0,.slice (.tag 3) 0 [],.slice (.tag 4) 0 [],.slice (.tag 5) 0 [],.i 0]),(2,.row [.i 53,.str [],.i 0,.i 0,.str [],.i 0,.slice (.tag 6) 0 [],.slice (.tag 7) 0 [],.st 8 D8 z.2.2,(lk 11 fr)]),(3,.tip 0 0),(4,.tip 0 0),(5,.tip 0 0),(6,.tip 0 0),(7,.tip 0 0),(8,.tip (tpe 10 (List.length z.2.2)) (List.length z.2.2))])⟩
 let jn1:Jn 30011 (Bool):=⟨fun fr H z=>([(0,.ptr 0 0),(2,.ptr 1 0),(4,.ptr 2 0),(7,.ptr 3 0),(61,.bool z)],[(0,oH H 0),(1,.row [.i 0,.str [],.i 0,.i 0,.str [],.i 0,.slice (.tag 4) 0 [],.slice (.tag 5) 0 [],.slice (.tag 6) 0 [],.i 0]),(2,.row [.i 53,.str [],.i 0,.i 0,.str [],.i 0,.slice (.tag 7) 0 [],.slice (.tag 8) 0 [],ow (.tag 9) (lk 38 fr),(cH H 2 9)]),(3,oH H 512),(4,.tip 0 0),(5,.tip 0 0),(6,.tip 0 0),(7,.tip 0 0),(8,.tip 0 0),(9,oH H 8)])⟩
 let ls:Nat->List Nat:=fun n=>cond (Nat.beq n 2) [0,0] ([])
 exact blk⟩
theorem b0l (n:Nat){Φ:j5} [hΦ:j5.Ok Φ] {l1:List Tok}{o9 at3 o5:Int}:a2X l1 o9 at3 o5 (a1o n Φ l1 o9 at3 o5):=⟨fun{r} h=>by
 unfold a1o at h
 refine D5 rfl Tryz.func216 rfl rfl ?_
 let kr:=fun r:Nod×Bool×Int×Int=>a0H env 216 1 Tryz.f216.results.toList (a5N l1 o9 at3 o5 r)
 let jn1:Jn 15 (Int×Int×Str×Int×List Typ):=⟨fun fr H z=>([(0,.ptr 0 0),(2,.ptr 1 0),(4,(lk 13 fr)),(5,.ptr 2 0),(6,ow (.tag 3) (lk 26 fr))],[(0,.row [.sl p8 l1,.i o9,.i z.1,.i o5]),(1,.row [.i 0,.str [],.i 0,.i 0,.str [],.i 0,.slice (.tag 4) 0 [],.slice (.tag 5) 0 [],.slice (.tag 6) 0 [],.i 0]),(2,.row [.i 63,.str [],.i 0,.i z.2.1,.str z.2.2.1,.i z.2.2.2.1,.sl C9 z.2.2.2.2,.slice (.tag 7) 0 [],.slice (.tag 8) 0 [],(lk 13 fr)]),(3,oH H 1664),(4,.tip 0 0),(5,.tip 0 0),(6,.tip 0 0),(7,.tip 0 0),(8,.tip 0 0)])⟩
 exact blk⟩
theorem b2I (n:Nat){Φ:j5} [hΦ:j5.Ok Φ] {l1:List Tok}{o9 at3 o5:Int}:a4e l1 o9 at3 o5 (a2K n Φ l1 o9 at3 o5):=⟨fun{r} h=>by
 unfold a2K at h
 refine D5 rfl Tryz.func217 rfl rfl ?_
 let kr:=fun r:Nod×Bool×Int×Int=>a0H env 217 1 Tryz.f217.results.toList (a7w l1 o9 at3 o5 r)
 let jn1:Jn 23 (Int):=⟨fun fr H z=>([(2,.ptr 1 0),(4,.ptr 2 0)],[(0,.row [.sl p8 l1,.i o9,.i z,.i o5]),(1,.row [.i 0,.str [],.i 0,.i 0,.str [],.i 0,.slice (.tag 3) 0 [],.slice (.tag 4) 0 [],.slice (.tag 5) 0 [],.i 0]),(2,.row [.i 0,.str [],.i 0,.i 0,.str [],.i 0,.slice (.tag 6) 0 [],.slice (.tag 7) 0 [],.slice (.tag 8) 0 [],(lk 16 fr)]),(3,.tip 0 0),(4,.tip 0 0),(5,.tip 0 0),(6,.tip 0 0),(7,.tip 0 0),(8,.tip 0 0)])⟩
 let jl1:Jn 3 (Int×Typ):=⟨fun fr H z=>([(0,.ptr 0 0),(2,.ptr 1 0),(4,.ptr 2 0),(5,.ptr 3 0),(6,(lk 22 fr))],[(0,.row [.sl p8 l1,.i o9,.i z.1,.i o5]),(1,.row [.i 0,.str [],.i 0,.i 0,.str [],.i 0,.slice (.tag 4) 0 [],.slice (.tag 5) 0 [],.slice (.tag 6) 0 [],.i 0]),(2,.row [.i 0,.str [],.i 0,.i 0,.str [],.i 0,.slice (.tag 7) 0 [],.slice (.tag 8) 0 [],.slice (.tag 9) 0 [],(lk 16 fr)]),(3,.row [.i z.2.kind,.str z.2.name,.i z.2.n,.sl C9 z.2.args]),(4,.tip 0 0),(5,.tip 0 0),(6,.tip 0 0),(7,.tip 0 0),(8,.tip 0 0),(9,.tip 0 0)])⟩
 let ls:Nat->List Nat:=fun n=>cond (Nat.beq n 16) [3] (cond (Nat.beq n 6) [3] ([]))
 exact blk⟩
theorem a8o (n:Nat){Φ:j5} [hΦ:j5.Ok Φ] {l1:List Tok}{o9 at3 o5:Int}:a1p l1 o9 at3 o5 (a0y n Φ l1 o9 at3 o5):=⟨fun{r} h=>by
 unfold a0y at h
 refine D5 rfl Tryz.func155 rfl rfl ?_
 let kr:=fun r:Nod×Bool×Int×Int=>a0H env 155 1 Tryz.f155.results.toList (a4M l1 o9 at3 o5 r)
 let jn1:Jn 17 (Bool×Int×Int×Nod):=⟨fun fr H z=>([(2,.ptr 1 0),(4,.ptr 2 0),(5,.ptr 3 0),(7,.ptr 4 0),(8,.bool z.1),(9,.ptr 5 0)],[(0,.row [.sl p8 l1,.i o9,.i z.2.1,.i z.2.2.1]),(1,.row [.i 0,.str [],.i 0,.i 0,.str [],.i 0,.slice (.tag 6) 0 [],.slice (.tag 7) 0 [],.slice (.tag 8) 0 [],.i 0]),(2,.row [.i 24,.str [],.i 0,.i 0,.str [],.i 0,.slice (.tag 9) 0 [],.slice (.tag 10) 0 [],ow (.tag 11) (lk 33 fr),(lk 11 fr)]),(3,oH H 384),(4,oH H 512),(5,.row (c0 z.2.2.2.op z.2.2.2.s z.2.2.2.n z.2.2.2.t.kind z.2.2.2.t.name z.2.2.2.t.n (.sl C9 z.2.2.2.t.args) (.sl C9 z.2.2.2.ts) (.sl D8 z.2.2.2.l) z.2.2.2.at_)),(6,.tip 0 0),(7,.tip 0 0),(8,.tip 0 0),(9,.tip 0 0),(10,.tip 0 0),(11,.tip (tpe 10 (lnV (lk 33 fr))) (lnV (lk 33 fr)))])⟩
 exact blk⟩
theorem b1L (n:Nat){Φ:j5} [hΦ:j5.Ok Φ] {at1:Int}{l2:List Tok}{z8 at4 o8:Int}:a3M at1 l2 z8 at4 o8 (a2j n Φ at1 l2 z8 at4 o8):=⟨fun{r} h=>by
 unfold a2j at h
 refine D5 rfl Tryz.func157 rfl rfl ?_
 let kr:=fun r:List Nod×Bool×Int×Int=>a0H env 157 1 Tryz.f157.results.toList (a6Z at1 l2 z8 at4 o8 r)
 let jn1:Jn 30005 (Bool×Int):=⟨fun fr H z=>([(0,.ptr 0 0),(4,.ptr 1 0),(6,.ptr 2 0),(7,.ptr 3 0),(32,.bool z.1)],[(0,.row [.sl p8 l2,.i z8,.i z.2,(cH H 0 3)]),(1,.row [.i 0,.str [],.i 0,.i 0,.str [],.i 0,.slice (.tag 4) 0 [],.slice (.tag 5) 0 [],.slice (.tag 6) 0 [],.i 0]),(2,.row [.i 26,.str [],.i 0,.i 0,.str [],.i 0,.slice (.tag 7) 0 [],.slice (.tag 8) 0 [],.slice (.tag 9) 0 [],.i at1]),(3,oH H 512),(4,.tip 0 0),(5,.tip 0 0),(6,.tip 0 0),(7,.tip 0 0),(8,.tip 0 0),(9,.tip 0 0)])⟩
 let jn2:Jn 18 (List Nod×Int×Int):=⟨fun fr H z=>([(0,.ptr 0 0),(4,.ptr 1 0),(6,.ptr 2 0),(9,.st 3 D8 z.1)],[(0,.row [.sl p8 l2,.i z8,.i z.2.1,.i z.2.2]),(1,oH H 1),(2,oH H 2),(3,.tip (tpe 10 (List.length z.1)) (List.length z.1)),(4,.tip 0 0),(5,.tip 0 0),(6,.tip 0 0),(7,.tip 0 0),(8,.tip 0 0),(9,.tip 0 0)])⟩
 let jl1:Jn 6 (List Nod×Int×Int):=⟨fun fr H z=>([(0,.ptr 0 0),(4,.ptr 1 0),(6,.ptr 2 0),(9,.st 3 D8 z.1)],[(0,.row [.sl p8 l2,.i z8,.i z.2.1,.i z.2.2]),(1,oH H 1),(2,oH H 2),(3,.tip (tpe 10 (List.length z.1)) (List.length z.1)),(4,.tip 0 0),(5,.tip 0 0),(6,.tip 0 0),(7,.tip 0 0),(8,.tip 0 0),(9,.tip 0 0)])⟩
 let jn3:Jn 26 (List Nod×Int×Int):=⟨fun fr H z=>([(0,.ptr 0 0),(4,.ptr 1 0),(6,.ptr 2 0),(9,.st 3 D8 z.1)],[(0,.row [.sl p8 l2,.i z8,.i z.2.1,.i z.2.2]),(1,oH H 1),(2,oH H 2),(3,.tip (tpe 10 (List.length z.1)) (List.length z.1)),(4,.tip 0 0),(5,.tip 0 0),(6,.tip 0 0),(7,.tip 0 0),(8,.tip 0 0),(9,.tip 0 0)])⟩
 exact blk⟩
theorem b07 (n:Nat){Φ:j5} [hΦ:j5.Ok Φ] {l1:List Tok}{o9 at3 o5:Int}:a3p l1 o9 at3 o5 (a1P n Φ l1 o9 at3 o5):=⟨fun{r} h=>by
 unfold a1P at h
 refine D5 rfl Tryz.func158 rfl rfl ?_
 let ls:Nat->List Nat:=fun n=>cond (Nat.beq n 12) [512,320,320] ([])
 exact blk⟩
theorem j5.ok:∀n,j5.Ok (j5.fs n)
 | 0=>⟨⟨fun h=>by cases h⟩,⟨fun h=>by cases h⟩,⟨fun h=>by cases h⟩,⟨fun h=>by cases h⟩,⟨fun h=>by cases h⟩,⟨fun h=>by cases h⟩,⟨fun h=>by cases h⟩,⟨fun h=>by cases h⟩,⟨fun h=>by cases h⟩,⟨fun h=>by cases h⟩,⟨fun h=>by cases h⟩,⟨fun h=>by cases h⟩,⟨fun h=>by cases h⟩,⟨fun h=>by cases h⟩,⟨fun h=>by cases h⟩,⟨fun h=>by cases h⟩⟩
 | n+1=>have:=j5.ok n;⟨b1H n,a8I n,a9k n,b1K n,b2B n,b1J n,b1N n,b0n n,b2y n,b2x n,a8b n,b0l n,b2I n,a8o n,b1L n,b07 n⟩
instance c3N {n:Nat}{l1:List Tok}{o9 at3 o5:Int}:a3H l1 o9 at3 o5 (I6 n l1 o9 at3 o5):=(j5.ok n).I6
instance b9b {n:Nat}{l1:List Tok}{o9 at3 o5:Int}:a1D l1 o9 at3 o5 (M9 n l1 o9 at3 o5):=(j5.ok n).M9
instance b9p {n:Nat}{l1:List Tok}{o9 at3 o5:Int}:a15 l1 o9 at3 o5 (K8 n l1 o9 at3 o5):=(j5.ok n).K8
instance c3P {n:Nat}{l1:List Tok}{o9 at3 o5:Int}:a3L l1 o9 at3 o5 (X7 n l1 o9 at3 o5):=(j5.ok n).X7
instance c4y {n:Nat}{l1:List Tok}{o9 at3 o5:Int}:a4d l1 o9 at3 o5 (H8 n l1 o9 at3 o5):=(j5.ok n).H8
instance c3O {n:Nat}{k1:Int}{l2:List Tok}{z8 at4 o8:Int}:a3K k1 l2 z8 at4 o8 (J2 n k1 l2 z8 at4 o8):=(j5.ok n).J2
instance c3S {n:Nat}{l1:List Tok}{o9 at3 o5:Int}:a3O l1 o9 at3 o5 (K5 n l1 o9 at3 o5):=(j5.ok n).K5
instance c1C {n:Nat}{l1:List Tok}{o9 at3 o5:Int}:a2Z l1 o9 at3 o5 (U2 n l1 o9 at3 o5):=(j5.ok n).U2
instance c4v {n:Nat}{l1:List Tok}{o9 at3 o5:Int}:a4b l1 o9 at3 o5 (W9 n l1 o9 at3 o5):=(j5.ok n).W9
instance c4u {n:Nat}{l1:List Nod}{l2:List Tok}{z8 at4 o8:Int}:a4a l1 l2 z8 at4 o8 (M5 n l1 l2 z8 at4 o8):=(j5.ok n).M5
instance b7p {n:Nat}{l1:List Tok}{o9 at3 o5:Int}:a09 l1 o9 at3 o5 (O3 n l1 o9 at3 o5):=(j5.ok n).O3
instance c1A {n:Nat}{l1:List Tok}{o9 at3 o5:Int}:a2X l1 o9 at3 o5 (U1 n l1 o9 at3 o5):=(j5.ok n).U1
instance c4B {n:Nat}{l1:List Tok}{o9 at3 o5:Int}:a4e l1 o9 at3 o5 (Y7 n l1 o9 at3 o5):=(j5.ok n).Y7
instance b8M {n:Nat}{l1:List Tok}{o9 at3 o5:Int}:a1p l1 o9 at3 o5 (M0 n l1 o9 at3 o5):=(j5.ok n).M0
instance c3Q {n:Nat}{at1:Int}{l2:List Tok}{z8 at4 o8:Int}:a3M at1 l2 z8 at4 o8 (X8 n at1 l2 z8 at4 o8):=(j5.ok n).X8
instance c2g {n:Nat}{l1:List Tok}{o9 at3 o5:Int}:a3p l1 o9 at3 o5 (V7 n l1 o9 at3 o5):=(j5.ok n).V7
abbrev b2J (n1:Nod)(l2:List Tok)(z8 at4 o8:Int)(p:Option (Nod×Bool×Int×Int)):Prop:=OkF env p 50 [.ptr 0 0,.agg (c0 n1.op n1.s n1.n n1.t.kind n1.t.name n1.t.n (.sl C9 n1.t.args) (.sl C9 n1.ts) (.sl D8 n1.l) n1.at_)] (hR p8 l2 z8 at4 o8) (a6t n1 l2 z8 at4 o8)
instance c2f {n:Nat}{n1:Nod}{l2:List Tok}{z8 at4 o8:Int}:b2J n1 l2 z8 at4 o8 (a1x n n1 l2 z8 at4 o8):=⟨fun{r} h=>by
 unfold a1x at h
 obtain⟨n1_0,n1_1,n1_2,⟨n1_3,n1_4,n1_5,n1_6⟩,n1_7,n1_8,n1_9⟩:=n1
 refine D5 rfl Tryz.func50 rfl rfl ?_
 let kr:=fun r:Nod×Bool×Int×Int=>a0H env 50 1 Tryz.f50.results.toList (a6t (Nod.mk n1_0 n1_1 n1_2 (Typ.mk n1_3 n1_4 n1_5 n1_6) n1_7 n1_8 n1_9) l2 z8 at4 o8 r)
 let jn1:Jn 30008 (Bool×Int):=⟨fun fr H z=>([(0,.ptr 0 0),(3,.ptr 1 0),(4,.ptr 2 0),(8,ow (.tag 3) (lk 32 fr)),(40,.bool z.1)],[(0,.row [.sl p8 l2,.i z8,.i z.2,.i o8]),(1,oH H 256),(2,.row [.i 0,.str [],.i 0,.i 0,.str [],.i 0,.slice (.tag 4) 0 [],.slice (.tag 5) 0 [],.slice (.tag 6) 0 [],.i 0]),(3,oH H 2048),(4,.tip 0 0),(5,.tip 0 0),(6,.tip 0 0)])⟩
 let jn2:Jn 23 (List Nod×Int):=⟨fun fr H z=>([(0,.ptr 0 0),(3,.ptr 1 0),(4,.ptr 2 0),(8,.st 3 D8 z.1)],[(0,.row [.sl p8 l2,.i z8,.i z.2,.i o8]),(1,oH H 1),(2,oH H 2),(3,.tip (tpe 10 (List.length z.1)) (List.length z.1)),(4,.tip 0 0),(5,.tip 0 0),(6,.tip 0 0)])⟩
 let jl1:Jn 8 (List Nod×Int):=⟨fun fr H z=>([(0,.ptr 0 0),(3,.ptr 1 0),(4,.ptr 2 0),(8,.st 3 D8 z.1)],[(0,.row [.sl p8 l2,.i z8,.i z.2,.i o8]),(1,oH H 1),(2,oH H 2),(3,.tip (tpe 10 (List.length z.1)) (List.length z.1)),(4,.tip 0 0),(5,.tip 0 0),(6,.tip 0 0)])⟩
 let jn3:Jn 90047 (Bool):=⟨fun fr H z=>([(0,.ptr 0 0),(3,.ptr 1 0),(4,.ptr 2 0),(8,ow (.tag 3) (lk 8 fr)),(47,.bool z)],[(0,oH H 0),(1,oH H 1),(2,oH H 2),(3,oH H 3),(4,.tip 0 0),(5,.tip 0 0),(6,.tip 0 0)])⟩
 let jn4:Jn 14 (Int×Int):=⟨fun fr H z=>([(0,.ptr 0 0),(3,.ptr 1 0),(4,.ptr 2 0),(8,ow (.tag 3) (lk 8 fr)),(10,.ptr 4 0)],[(0,.row [.sl p8 l2,.i z8,.i z.1,.i o8]),(1,oH H 1),(2,.row [.i 0,.str [],.i 0,.i 0,.str [],.i 0,.slice (.tag 5) 0 [],.slice (.tag 6) 0 [],.slice (.tag 7) 0 [],.i 0]),(3,oH H 3),(4,.row [.i 13,.str [],.i z.2,.i 0,.str [],.i 0,.slice (.tag 8) 0 [],.slice (.tag 9) 0 [],.slice (.tag 10) 0 [],(lk 49 fr)]),(5,.tip 0 0),(6,.tip 0 0),(7,.tip 0 0),(8,.tip 0 0),(9,.tip 0 0),(10,.tip 0 0)])⟩
 let jn5:Jn 30016 (Bool×Int):=⟨fun fr H z=>([(0,.ptr 0 0),(3,.ptr 1 0),(4,.ptr 2 0),(8,ow (.tag 3) (lk 8 fr)),(10,.ptr 4 0),(11,(lk 59 fr)),(67,.bool z.1)],[(0,.row [.sl p8 l2,.i z8,.i z.2,.i o8]),(1,oH H 1),(2,oH H 2),(3,oH H 3),(4,oH H 4),(5,.tip 0 0),(6,.tip 0 0),(7,.tip 0 0),(8,.tip 0 0),(9,.tip 0 0),(10,.tip 0 0)])⟩
 let jn6:Jn 30020 (Bool×Int):=⟨fun fr H z=>([(0,.ptr 0 0),(3,.ptr 1 0),(4,.ptr 2 0),(8,ow (.tag 3) (lk 8 fr)),(10,.ptr 4 0),(13,.ptr 5 0),(82,.bool z.1)],[(0,.row [.sl p8 l2,.i z8,.i z.2,.i o8]),(1,oH H 1),(2,.row [.i 0,.str [],.i 0,.i 0,.str [],.i 0,.slice (.tag 6) 0 [],.slice (.tag 7) 0 [],.slice (.tag 8) 0 [],.i 0]),(3,oH H 3),(4,.row [.i 13,(lk 11 fr),(cH H 4 2),.i 0,.str [],.i 0,.slice (.tag 9) 0 [],.slice (.tag 10) 0 [],.slice (.tag 11) 0 [],(cH H 4 9)]),(5,oH H 896),(6,.tip 0 0),(7,.tip 0 0),(8,.tip 0 0),(9,.tip 0 0),(10,.tip 0 0),(11,.tip 0 0)])⟩
 let jn7:Jn 31 (List Nod×Int×Int):=⟨fun fr H z=>([(0,.ptr 0 0),(3,.ptr 1 0),(4,.ptr 2 0),(8,.st 3 D8 z.1)],[(0,.row [.sl p8 l2,.i z8,.i z.2.1,.i z.2.2]),(1,oH H 1),(2,oH H 2),(3,.tip (tpe 10 (List.length z.1)) (List.length z.1)),(4,.tip 0 0),(5,.tip 0 0),(6,.tip 0 0)])⟩
 exact blk⟩
abbrev b39 (n1:Nod)(l2:List Tok)(z8 at4 o8:Int)(p:Option (Nod×Bool×Int)):Prop:=OkF env p 51 [.ptr 0 0,.agg (c0 n1.op n1.s n1.n n1.t.kind n1.t.name n1.t.n (.sl C9 n1.t.args) (.sl C9 n1.ts) (.sl D8 n1.l) n1.at_)] (hR p8 l2 z8 at4 o8) (a7u n1 l2 z8 at4 o8)
instance c4x {n:Nat}{n1:Nod}{l2:List Tok}{z8 at4 o8:Int}:b39 n1 l2 z8 at4 o8 (a3I n n1 l2 z8 at4 o8):=⟨fun{r} h=>by
 unfold a3I at h
 obtain⟨n1_0,n1_1,n1_2,⟨n1_3,n1_4,n1_5,n1_6⟩,n1_7,n1_8,n1_9⟩:=n1
 refine D5 rfl Tryz.func51 rfl rfl ?_
 let kr:=fun r:Nod×Bool×Int=>a0H env 51 1 Tryz.f51.results.toList (a7u (Nod.mk n1_0 n1_1 n1_2 (Typ.mk n1_3 n1_4 n1_5 n1_6) n1_7 n1_8 n1_9) l2 z8 at4 o8 r)
 let jn1:Jn 30008 (Bool×Int):=⟨fun fr H z=>([(0,.ptr 0 0),(3,.ptr 1 0),(4,.ptr 2 0),(8,ow (.tag 3) (lk 29 fr)),(37,.bool z.1)],[(0,.row [.sl p8 l2,.i z8,.i z.2,.i o8]),(1,oH H 256),(2,.row [.i 0,.str [],.i 0,.i 0,.str [],.i 0,.slice (.tag 4) 0 [],.slice (.tag 5) 0 [],.slice (.tag 6) 0 [],.i 0]),(3,oH H 1856),(4,.tip 0 0),(5,.tip 0 0),(6,.tip 0 0)])⟩
 let jn2:Jn 27 (List Nod×Int):=⟨fun fr H z=>([(0,.ptr 0 0),(3,.ptr 1 0),(4,.ptr 2 0),(8,.st 3 D8 z.1)],[(0,.row [.sl p8 l2,.i z8,.i z.2,.i o8]),(1,oH H 1),(2,oH H 2),(3,.tip (tpe 10 (List.length z.1)) (List.length z.1)),(4,.tip 0 0),(5,.tip 0 0),(6,.tip 0 0)])⟩
 let jl1:Jn 8 (List Nod×Int):=⟨fun fr H z=>([(0,.ptr 0 0),(3,.ptr 1 0),(4,.ptr 2 0),(8,.st 3 D8 z.1)],[(0,.row [.sl p8 l2,.i z8,.i z.2,.i o8]),(1,oH H 1),(2,oH H 2),(3,.tip (tpe 10 (List.length z.1)) (List.length z.1)),(4,.tip 0 0),(5,.tip 0 0),(6,.tip 0 0)])⟩
 let jn3:Jn 90044 (Bool):=⟨fun fr H z=>([(0,.ptr 0 0),(3,.ptr 1 0),(4,.ptr 2 0),(8,ow (.tag 3) (lk 8 fr)),(44,.bool z)],[(0,oH H 0),(1,oH H 1),(2,oH H 2),(3,oH H 3),(4,.tip 0 0),(5,.tip 0 0),(6,.tip 0 0)])⟩
 let jn4:Jn 13 (Int×Int):=⟨fun fr H z=>([(0,.ptr 0 0),(3,.ptr 1 0),(4,.ptr 2 0),(8,ow (.tag 3) (lk 8 fr)),(10,.ptr 4 0)],[(0,.row [.sl p8 l2,.i z8,.i z.1,.i o8]),(1,oH H 1),(2,.row [.i 0,.str [],.i 0,.i 0,.str [],.i 0,.slice (.tag 5) 0 [],.slice (.tag 6) 0 [],.slice (.tag 7) 0 [],.i 0]),(3,oH H 3),(4,.row [.i 14,.str [],.i z.2,.i 0,.str [],.i 0,.slice (.tag 8) 0 [],.slice (.tag 9) 0 [],.slice (.tag 10) 0 [],(lk 46 fr)]),(5,.tip 0 0),(6,.tip 0 0),(7,.tip 0 0),(8,.tip 0 0),(9,.tip 0 0),(10,.tip 0 0)])⟩
 let jn5:Jn 24 (Int×List Typ):=⟨fun fr H z=>([(0,.ptr 0 0),(3,.ptr 1 0),(4,.ptr 2 0),(8,ow (.tag 3) (lk 8 fr)),(10,.ptr 4 0)],[(0,.row [.sl p8 l2,.i z8,.i z.1,.i o8]),(1,oH H 1),(2,oH H 2),(3,oH H 3),(4,.row [.i 14,(lk 58 fr),(cH H 4 2),.i 0,.str [],.i 0,.slice (.tag 8) 0 [],.st 9 C9 z.2,.slice (.tag 10) 0 [],(cH H 4 9)]),(5,.tip 0 0),(6,.tip 0 0),(7,.tip 0 0),(8,.tip 0 0),(9,.tip (tpe 4 (List.length z.2)) (List.length z.2)),(10,.tip 0 0)])⟩
 let jn6:Jn 30022 (Bool×Int):=⟨fun fr H z=>([(0,.ptr 0 0),(3,.ptr 1 0),(4,.ptr 2 0),(8,ow (.tag 3) (lk 8 fr)),(10,.ptr 4 0),(13,ow (.tag 5) (lk 70 fr)),(78,.bool z.1)],[(0,.row [.sl p8 l2,.i z8,.i z.2,.i o8]),(1,oH H 1),(2,.row [.i 0,.str [],.i 0,.i 0,.str [],.i 0,.slice (.tag 6) 0 [],.slice (.tag 7) 0 [],.slice (.tag 8) 0 [],.i 0]),(3,oH H 3),(4,.row [.i 14,(lk 58 fr),(cH H 4 2),.i 0,.str [],.i 0,.slice (.tag 9) 0 [],.slice (.tag 10) 0 [],.slice (.tag 11) 0 [],(cH H 4 9)]),(5,oH H 4480),(6,.tip 0 0),(7,.tip 0 0),(8,.tip 0 0),(9,.tip 0 0),(10,.tip 0 0),(11,.tip 0 0)])⟩
 exact blk⟩
abbrev b3n (l1:List Nod)(l2:List Tok)(z8 at4 o8:Int)(p:Option (List Nod×Bool×Int)):Prop:=OkF env p 98 [.ptr 0 0,.st 1 D8 l1] [(0,.row [.sl p8 l2,.i z8,.i at4,.i o8]),(1,.tip (tpe 10 (List.length l1)) (List.length l1))] (a7b l1 l2 z8 at4 o8)
instance c3T {n:Nat}{l1:List Nod}{l2:List Tok}{z8 at4 o8:Int}:b3n l1 l2 z8 at4 o8 (a1W n l1 l2 z8 at4 o8):=⟨fun{r} h=>by
 unfold a1W at h
 refine D5 rfl Tryz.func98 rfl rfl ?_
 let kr:=fun r:List Nod×Bool×Int=>a0H env 98 2 Tryz.f98.results.toList (a7b l1 l2 z8 at4 o8 r)
 let jn1:Jn 25 (List Nod×Int):=⟨fun fr H z=>([(1,.st 1 D8 z.1)],[(0,.row [.sl p8 l2,.i z8,.i z.2,.i o8]),(1,.tip (tpe 10 (List.length z.1)) (List.length z.1))])⟩
 let jl1:Jn 4 (List Nod×Bool×Int):=⟨fun fr H z=>([(0,.ptr 0 0),(1,.st 1 D8 z.1),(6,.bool z.2.1)],[(0,.row [.sl p8 l2,.i z8,.i z.2.2,.i o8]),(1,.tip (tpe 10 (List.length z.1)) (List.length z.1))])⟩
 let jn2:Jn 23 (Int×Str×Int×List Typ):=⟨fun fr H z=>([(0,.ptr 0 0),(1,ow (.tag 1) (lk 1 fr)),(7,.ptr 2 0)],[(0,.row [.sl p8 l2,.i z8,.i z.1,.i o8]),(1,oH H 1),(2,.row [.i 12,.str z.2.1,.i z.2.2.1,(agC (lk 25 fr) 0),(agC (lk 25 fr) 1),(agC (lk 25 fr) 2),ow .sealed (agC (lk 25 fr) 3),.st 3 C9 z.2.2.2,.slice (.tag 4) 0 [],(lk 20 fr)]),(3,.tip (tpe 4 (List.length z.2.2.2)) (List.length z.2.2.2)),(4,.tip 0 0)])⟩
 exact blk⟩
end Go.Proofs.YtcbjnilpecpbmaaGreatDoor
