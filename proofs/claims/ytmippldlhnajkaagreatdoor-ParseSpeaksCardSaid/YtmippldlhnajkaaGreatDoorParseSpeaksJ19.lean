/- What the functions under ParseSpeaks compute, step by step, as functions in Lean: texts that were built one by one, joined. -/
import Derived.Test.YtmippldlhnajkaaGreatDoorParseSpeaksJ18
set_option maxRecDepth 100000
set_option maxHeartbeats 20000000
set_option linter.unusedSimpArgs false
set_option linter.unusedVariables false
set_option linter.unusedSectionVars false
namespace Go.Proofs.YtmippldlhnajkaaGreatDoor
open Go Go.Vm
attribute [local irreducible] Go.Vm.Ev Go.Vm.Os Go.Vm.OsP Go.Vm.Lp Go.Vm.A9 Go.Vm.H9 Go.Vm.I6 Go.Vm.E
abbrev a2K (l1:List Tok)(o6 at3 j4:Int)(p:Option (Nod×Bool×Int×Int)):Prop:=OkF env p 39 [.ptr 0 0] (hR F7 l1 o6 at3 j4) (a9H l1 o6 at3 j4)
abbrev a2t (k1:Int)(l2:List Tok)(F6 at4 z8:Int)(p:Option (Nod×Bool×Int×Int)):Prop:=OkF env p 75 [.ptr 0 0,.i k1] (hR F7 l2 F6 at4 z8) (a5b k1 l2 F6 at4 z8)
abbrev a2x (l1:List Tok)(o6 at3 j4:Int)(p:Option (Nod×Bool×Int×Int)):Prop:=OkF env p 140 [.ptr 0 0] (hR F7 l1 o6 at3 j4) (a81 l1 o6 at3 j4)
abbrev a1M (l1:List Tok)(o6 at3 j4:Int)(p:Option (Nod×Bool×Int×Int)):Prop:=OkF env p 174 [.ptr 0 0] (hR F7 l1 o6 at3 j4) (a4g l1 o6 at3 j4)
abbrev a2I (l1:List Tok)(o6 at3 j4:Int)(p:Option (Nod×Bool×Int×Int)):Prop:=OkF env p 196 [.ptr 0 0] (hR F7 l1 o6 at3 j4) (a5r l1 o6 at3 j4)
abbrev a2H (l1:List Nod)(l2:List Tok)(F6 at4 z8:Int)(p:Option (List Nod×Bool×Int×Int×List Nod)):Prop:=OkF env p 197 [.ptr 0 0,.st 1 F5 l1] [(0,.row [.sl F7 l2,.i F6,.i at4,.i z8]),(1,.tip (tpe 10 (List.length l1)) (List.length l1))] (a5q l1 l2 F6 at4 z8)
abbrev a0t (l1:List Tok)(o6 at3 j4:Int)(p:Option (Nod×Bool×Int×Int)):Prop:=OkF env p 217 [.ptr 0 0] (hR F7 l1 o6 at3 j4) (a2U l1 o6 at3 j4)
abbrev a1J (l1:List Tok)(o6 at3 j4:Int)(p:Option (Nod×Bool×Int×Int)):Prop:=OkF env p 218 [.ptr 0 0] (hR F7 l1 o6 at3 j4) (a4e l1 o6 at3 j4)
abbrev a0M (l1:List Tok)(o6 at3 j4:Int)(p:Option (List Nod×Bool×Int×Int)):Prop:=OkF env p 179 [.ptr 0 0] (hR F7 l1 o6 at3 j4) (a3r l1 o6 at3 j4)
abbrev a02 (l1:List Tok)(o6 at3 j4:Int)(p:Option (Nod×Bool×Int×Int)):Prop:=OkF env p 205 [.ptr 0 0] (hR F7 l1 o6 at3 j4) (a3G l1 o6 at3 j4)
abbrev a2r (l1:List Tok)(o6 at3 j4:Int)(p:Option (Nod×Bool×Int×Int)):Prop:=OkF env p 154 [.ptr 0 0] (hR F7 l1 o6 at3 j4) (a8U l1 o6 at3 j4)
abbrev a2u (l1:List Tok)(o6 at3 j4:Int)(p:Option (Nod×Bool×Int×Int)):Prop:=OkF env p 232 [.ptr 0 0] (hR F7 l1 o6 at3 j4) (a5c l1 o6 at3 j4)
abbrev a0B (l1:List Tok)(o6 at3 j4:Int)(p:Option (Nod×Bool×Int×Int)):Prop:=OkF env p 233 [.ptr 0 0] (hR F7 l1 o6 at3 j4) (a3g l1 o6 at3 j4)
abbrev a2v (at1:Int)(l2:List Tok)(F6 at4 z8:Int)(p:Option (List Nod×Bool×Int×Int)):Prop:=OkF env p 234 [.ptr 0 0,.i at1] (hR F7 l2 F6 at4 z8) (a5d at1 l2 F6 at4 z8)
abbrev a18 (l1:List Tok)(o6 at3 j4:Int)(p:Option (Nod×Bool×Int×Int)):Prop:=OkF env p 235 [.ptr 0 0] (hR F7 l1 o6 at3 j4) (a8s l1 o6 at3 j4)
abbrev a2L (l1:List Tok)(o6 at3 j4:Int)(p:Option (Nod×Bool×Int×Int)):Prop:=OkF env p 219 [.ptr 0 0] (hR F7 l1 o6 at3 j4) (a5u l1 o6 at3 j4)
class d9.Ok (Φ:d9):Prop where
 E8:∀{l1:List Tok} {o6 at3 j4:Int},a2K l1 o6 at3 j4 (Φ.E8 l1 o6 at3 j4)
 M5:∀{k1:Int} {l2:List Tok} {F6 at4 z8:Int},a2t k1 l2 F6 at4 z8 (Φ.M5 k1 l2 F6 at4 z8)
 O1:∀{l1:List Tok} {o6 at3 j4:Int},a2x l1 o6 at3 j4 (Φ.O1 l1 o6 at3 j4)
 O9:∀{l1:List Tok} {o6 at3 j4:Int},a1M l1 o6 at3 j4 (Φ.O9 l1 o6 at3 j4)
 U8:∀{l1:List Tok} {o6 at3 j4:Int},a2I l1 o6 at3 j4 (Φ.U8 l1 o6 at3 j4)
 J8:∀{l1:List Nod} {l2:List Tok} {F6 at4 z8:Int},a2H l1 l2 F6 at4 z8 (Φ.J8 l1 l2 F6 at4 z8)
 J9:∀{l1:List Tok} {o6 at3 j4:Int},a0t l1 o6 at3 j4 (Φ.J9 l1 o6 at3 j4)
 O8:∀{l1:List Tok} {o6 at3 j4:Int},a1J l1 o6 at3 j4 (Φ.O8 l1 o6 at3 j4)
 K4:∀{l1:List Tok} {o6 at3 j4:Int},a0M l1 o6 at3 j4 (Φ.K4 l1 o6 at3 j4)
 L6:∀{l1:List Tok} {o6 at3 j4:Int},a02 l1 o6 at3 j4 (Φ.L6 l1 o6 at3 j4)
 I5:∀{l1:List Tok} {o6 at3 j4:Int},a2r l1 o6 at3 j4 (Φ.I5 l1 o6 at3 j4)
 R9:∀{l1:List Tok} {o6 at3 j4:Int},a2u l1 o6 at3 j4 (Φ.R9 l1 o6 at3 j4)
 J7:∀{l1:List Tok} {o6 at3 j4:Int},a0B l1 o6 at3 j4 (Φ.J7 l1 o6 at3 j4)
 S9:∀{at1:Int} {l2:List Tok} {F6 at4 z8:Int},a2v at1 l2 F6 at4 z8 (Φ.S9 at1 l2 F6 at4 z8)
 Q9:∀{l1:List Tok} {o6 at3 j4:Int},a18 l1 o6 at3 j4 (Φ.Q9 l1 o6 at3 j4)
 U9:∀{l1:List Tok} {o6 at3 j4:Int},a2L l1 o6 at3 j4 (Φ.U9 l1 o6 at3 j4)
instance {Φ:d9} [h:d9.Ok Φ] {l1:List Tok}{o6 at3 j4:Int}:a2K l1 o6 at3 j4 (Φ.E8 l1 o6 at3 j4):=h.E8
instance {Φ:d9} [h:d9.Ok Φ] {k1:Int}{l2:List Tok}{F6 at4 z8:Int}:a2t k1 l2 F6 at4 z8 (Φ.M5 k1 l2 F6 at4 z8):=h.M5
instance {Φ:d9} [h:d9.Ok Φ] {l1:List Tok}{o6 at3 j4:Int}:a2x l1 o6 at3 j4 (Φ.O1 l1 o6 at3 j4):=h.O1
instance {Φ:d9} [h:d9.Ok Φ] {l1:List Tok}{o6 at3 j4:Int}:a1M l1 o6 at3 j4 (Φ.O9 l1 o6 at3 j4):=h.O9
instance {Φ:d9} [h:d9.Ok Φ] {l1:List Tok}{o6 at3 j4:Int}:a2I l1 o6 at3 j4 (Φ.U8 l1 o6 at3 j4):=h.U8
instance {Φ:d9} [h:d9.Ok Φ] {l1:List Nod}{l2:List Tok}{F6 at4 z8:Int}:a2H l1 l2 F6 at4 z8 (Φ.J8 l1 l2 F6 at4 z8):=h.J8
instance {Φ:d9} [h:d9.Ok Φ] {l1:List Tok}{o6 at3 j4:Int}:a0t l1 o6 at3 j4 (Φ.J9 l1 o6 at3 j4):=h.J9
instance {Φ:d9} [h:d9.Ok Φ] {l1:List Tok}{o6 at3 j4:Int}:a1J l1 o6 at3 j4 (Φ.O8 l1 o6 at3 j4):=h.O8
instance {Φ:d9} [h:d9.Ok Φ] {l1:List Tok}{o6 at3 j4:Int}:a0M l1 o6 at3 j4 (Φ.K4 l1 o6 at3 j4):=h.K4
instance {Φ:d9} [h:d9.Ok Φ] {l1:List Tok}{o6 at3 j4:Int}:a02 l1 o6 at3 j4 (Φ.L6 l1 o6 at3 j4):=h.L6
instance {Φ:d9} [h:d9.Ok Φ] {l1:List Tok}{o6 at3 j4:Int}:a2r l1 o6 at3 j4 (Φ.I5 l1 o6 at3 j4):=h.I5
instance {Φ:d9} [h:d9.Ok Φ] {l1:List Tok}{o6 at3 j4:Int}:a2u l1 o6 at3 j4 (Φ.R9 l1 o6 at3 j4):=h.R9
instance {Φ:d9} [h:d9.Ok Φ] {l1:List Tok}{o6 at3 j4:Int}:a0B l1 o6 at3 j4 (Φ.J7 l1 o6 at3 j4):=h.J7
instance {Φ:d9} [h:d9.Ok Φ] {at1:Int}{l2:List Tok}{F6 at4 z8:Int}:a2v at1 l2 F6 at4 z8 (Φ.S9 at1 l2 F6 at4 z8):=h.S9
instance {Φ:d9} [h:d9.Ok Φ] {l1:List Tok}{o6 at3 j4:Int}:a18 l1 o6 at3 j4 (Φ.Q9 l1 o6 at3 j4):=h.Q9
instance {Φ:d9} [h:d9.Ok Φ] {l1:List Tok}{o6 at3 j4:Int}:a2L l1 o6 at3 j4 (Φ.U9 l1 o6 at3 j4):=h.U9
theorem a9G (n:Nat){Φ:d9} [hΦ:d9.Ok Φ] {l1:List Tok}{o6 at3 j4:Int}:a2K l1 o6 at3 j4 (a1z n Φ l1 o6 at3 j4):=⟨fun{r} h=>by
 unfold a1z at h
 refine A8 rfl Tryz.func39 rfl rfl ?_
 exact blk⟩
theorem a8V (n:Nat){Φ:d9} [hΦ:d9.Ok Φ] {k1:Int}{l2:List Tok}{F6 at4 z8:Int}:a2t k1 l2 F6 at4 z8 (a09 n Φ k1 l2 F6 at4 z8):=⟨fun{r} h=>by
 unfold a09 at h
 refine A8 rfl Tryz.func75 rfl rfl ?_
 let kr:=fun r:Nod×Bool×Int×Int=>a1Q env 75 1 Tryz.f75.results.toList (a5b k1 l2 F6 at4 z8 r)
 let jn1:Jn 21 (Bool×Int×Int×Nod):=⟨fun fr H z=>([(4,.ptr 1 0),(7,.ptr 2 0),(8,.bool z.1)],[(0,.row [.sl F7 l2,.i F6,.i z.2.1,.i z.2.2.1]),(1,.row [.i 0,.str [],.i 0,.i 0,.str [],.i 0,.slice (.tag 3) 0 [],.slice (.tag 4) 0 [],.slice (.tag 5) 0 [],.i 0]),(2,.row (c0 z.2.2.2.op z.2.2.2.s z.2.2.2.n z.2.2.2.t.kind z.2.2.2.t.name z.2.2.2.t.n (.sl C9 z.2.2.2.t.args) (.sl C9 z.2.2.2.ts) (.sl F5 z.2.2.2.l) z.2.2.2.at_)),(3,.tip 0 0),(4,.tip 0 0),(5,.tip 0 0)])⟩
 let jl1:Jn 6 (Bool×Int×Int×Int×Nod):=⟨fun fr H z=>([(0,.ptr 0 0),(1,.i k1),(4,.ptr 1 0),(6,.slice .sealed (List.length ([[[124,124]],[[38,38]],[[61,61],[33,61],[60],[60,61],[62],[62,61]],[[43],[45]],[[42],[47],[37]]]:List (List Str))) ((clSl clS) ([[[124,124]],[[38,38]],[[61,61],[33,61],[60],[60,61],[62],[62,61]],[[43],[45]],[[42],[47],[37]]]:List (List Str)))),(7,.ptr 2 0),(8,.bool z.1),(9,.i z.2.1)],[(0,.row [.sl F7 l2,.i F6,.i z.2.2.1,.i z.2.2.2.1]),(1,.row [.i 0,.str [],.i 0,.i 0,.str [],.i 0,.slice (.tag 3) 0 [],.slice (.tag 4) 0 [],.slice (.tag 5) 0 [],.i 0]),(2,.row (c0 z.2.2.2.2.op z.2.2.2.2.s z.2.2.2.2.n z.2.2.2.2.t.kind z.2.2.2.2.t.name z.2.2.2.2.t.n (.sl C9 z.2.2.2.2.t.args) (.sl C9 z.2.2.2.2.ts) (.sl F5 z.2.2.2.2.l) z.2.2.2.2.at_)),(3,.tip 0 0),(4,.tip 0 0),(5,.tip 0 0)])⟩
 let jn2:Jn 90038 (Bool):=⟨fun fr H z=>([(0,.ptr 0 0),(1,.i k1),(4,.ptr 1 0),(6,.slice .sealed (List.length ([[[124,124]],[[38,38]],[[61,61],[33,61],[60],[60,61],[62],[62,61]],[[43],[45]],[[42],[47],[37]]]:List (List Str))) ((clSl clS) ([[[124,124]],[[38,38]],[[61,61],[33,61],[60],[60,61],[62],[62,61]],[[43],[45]],[[42],[47],[37]]]:List (List Str)))),(7,.ptr 2 0),(8,(lk 8 fr)),(9,(lk 9 fr)),(38,.bool z)],[(0,oH H 0),(1,oH H 1),(2,oH H 2),(3,.tip 0 0),(4,.tip 0 0),(5,.tip 0 0)])⟩
 let jn3:Jn 8 (Bool×Int×Int×Int×Str×List Nod×Int):=⟨fun fr H z=>([(0,.ptr 0 0),(1,.i k1),(4,.ptr 1 0),(6,.slice .sealed (List.length ([[[124,124]],[[38,38]],[[61,61],[33,61],[60],[60,61],[62],[62,61]],[[43],[45]],[[42],[47],[37]]]:List (List Str))) ((clSl clS) ([[[124,124]],[[38,38]],[[61,61],[33,61],[60],[60,61],[62],[62,61]],[[43],[45]],[[42],[47],[37]]]:List (List Str)))),(7,.ptr 2 0),(8,.bool z.1),(9,.i z.2.1)],[(0,.row [.sl F7 l2,.i F6,.i z.2.2.1,.i z.2.2.2.1]),(1,oH H 1),(2,.row [.i 64,.str z.2.2.2.2.1,.i 0,.i 0,.str [],.i 0,.slice (.tag 6) 0 [],.slice (.tag 7) 0 [],.st 8 F5 z.2.2.2.2.2.1,.i z.2.2.2.2.2.2]),(3,.tip 0 0),(4,.tip 0 0),(5,.tip 0 0),(6,.tip 0 0),(7,.tip 0 0),(8,.tip (tpe 10 (List.length z.2.2.2.2.2.1)) (List.length z.2.2.2.2.2.1))])⟩
 let jn4:Jn 15 (Int×Str×Int×Int×Nod):=⟨fun fr H z=>([(0,.ptr 0 0),(1,.i k1),(4,.ptr 1 0),(6,.slice .sealed (List.length ([[[124,124]],[[38,38]],[[61,61],[33,61],[60],[60,61],[62],[62,61]],[[43],[45]],[[42],[47],[37]]]:List (List Str))) ((clSl clS) ([[[124,124]],[[38,38]],[[61,61],[33,61],[60],[60,61],[62],[62,61]],[[43],[45]],[[42],[47],[37]]]:List (List Str)))),(7,.ptr 2 0),(9,.i z.1),(10,.str z.2.1)],[(0,.row [.sl F7 l2,.i F6,.i z.2.2.1,.i z.2.2.2.1]),(1,oH H 1),(2,.row (c0 z.2.2.2.2.op z.2.2.2.2.s z.2.2.2.2.n z.2.2.2.2.t.kind z.2.2.2.2.t.name z.2.2.2.2.t.n (.sl C9 z.2.2.2.2.t.args) (.sl C9 z.2.2.2.2.ts) (.sl F5 z.2.2.2.2.l) z.2.2.2.2.at_)),(3,.tip 0 0),(4,.tip 0 0),(5,.tip 0 0)])⟩
 let jl2:Jn 10 (Int×Str×Int×Int×Int×Nod):=⟨fun fr H z=>([(0,.ptr 0 0),(1,.i k1),(4,.ptr 1 0),(6,.slice .sealed (List.length ([[[124,124]],[[38,38]],[[61,61],[33,61],[60],[60,61],[62],[62,61]],[[43],[45]],[[42],[47],[37]]]:List (List Str))) ((clSl clS) ([[[124,124]],[[38,38]],[[61,61],[33,61],[60],[60,61],[62],[62,61]],[[43],[45]],[[42],[47],[37]]]:List (List Str)))),(7,.ptr 2 0),(9,.i z.1),(10,.str z.2.1),(11,.i z.2.2.1)],[(0,.row [.sl F7 l2,.i F6,.i z.2.2.2.1,.i z.2.2.2.2.1]),(1,oH H 1),(2,.row (c0 z.2.2.2.2.2.op z.2.2.2.2.2.s z.2.2.2.2.2.n z.2.2.2.2.2.t.kind z.2.2.2.2.2.t.name z.2.2.2.2.2.t.n (.sl C9 z.2.2.2.2.2.t.args) (.sl C9 z.2.2.2.2.2.ts) (.sl F5 z.2.2.2.2.2.l) z.2.2.2.2.2.at_)),(3,.tip 0 0),(4,.tip 0 0),(5,.tip 0 0)])⟩
 let jn5:Jn 12 (Str):=⟨fun fr H z=>([(0,.ptr 0 0),(1,.i k1),(4,.ptr 1 0),(6,.slice .sealed (List.length ([[[124,124]],[[38,38]],[[61,61],[33,61],[60],[60,61],[62],[62,61]],[[43],[45]],[[42],[47],[37]]]:List (List Str))) ((clSl clS) ([[[124,124]],[[38,38]],[[61,61],[33,61],[60],[60,61],[62],[62,61]],[[43],[45]],[[42],[47],[37]]]:List (List Str)))),(7,.ptr 2 0),(9,(lk 9 fr)),(10,.str z),(11,(lk 11 fr))],[(0,oH H 0),(1,oH H 1),(2,oH H 2),(3,.tip 0 0),(4,.tip 0 0),(5,.tip 0 0)])⟩
 exact blk⟩
theorem a8Z (n:Nat){Φ:d9} [hΦ:d9.Ok Φ] {l1:List Tok}{o6 at3 j4:Int}:a2x l1 o6 at3 j4 (a1e n Φ l1 o6 at3 j4):=⟨fun{r} h=>by
 unfold a1e at h
 refine A8 rfl Tryz.func140 rfl rfl ?_
 exact blk⟩
theorem a7P (n:Nat){Φ:d9} [hΦ:d9.Ok Φ] {l1:List Tok}{o6 at3 j4:Int}:a1M l1 o6 at3 j4 (a0E n Φ l1 o6 at3 j4):=⟨fun{r} h=>by
 unfold a0E at h
 refine A8 rfl Tryz.func174 rfl rfl ?_
 let kr:=fun r:Nod×Bool×Int×Int=>a1Q env 174 1 Tryz.f174.results.toList (a4g l1 o6 at3 j4 r)
 let jn1:Jn 18 (Bool×Int×Int×Nod):=⟨fun fr H z=>([(2,.ptr 1 0),(4,.ptr 2 0),(5,.bool z.1)],[(0,.row [.sl F7 l1,.i o6,.i z.2.1,.i z.2.2.1]),(1,.row [.i 0,.str [],.i 0,.i 0,.str [],.i 0,.slice (.tag 3) 0 [],.slice (.tag 4) 0 [],.slice (.tag 5) 0 [],.i 0]),(2,.row (c0 z.2.2.2.op z.2.2.2.s z.2.2.2.n z.2.2.2.t.kind z.2.2.2.t.name z.2.2.2.t.n (.sl C9 z.2.2.2.t.args) (.sl C9 z.2.2.2.ts) (.sl F5 z.2.2.2.l) z.2.2.2.at_)),(3,.tip 0 0),(4,.tip 0 0),(5,.tip 0 0)])⟩
 let jl1:Jn 2 (Bool×Int×Int×Nod):=⟨fun fr H z=>([(0,.ptr 0 0),(2,.ptr 1 0),(4,.ptr 2 0),(5,.bool z.1)],[(0,.row [.sl F7 l1,.i o6,.i z.2.1,.i z.2.2.1]),(1,.row [.i 0,.str [],.i 0,.i 0,.str [],.i 0,.slice (.tag 3) 0 [],.slice (.tag 4) 0 [],.slice (.tag 5) 0 [],.i 0]),(2,.row (c0 z.2.2.2.op z.2.2.2.s z.2.2.2.n z.2.2.2.t.kind z.2.2.2.t.name z.2.2.2.t.n (.sl C9 z.2.2.2.t.args) (.sl C9 z.2.2.2.ts) (.sl F5 z.2.2.2.l) z.2.2.2.at_)),(3,.tip 0 0),(4,.tip 0 0),(5,.tip 0 0)])⟩
 exact blk⟩
theorem a9E (n:Nat){Φ:d9} [hΦ:d9.Ok Φ] {l1:List Tok}{o6 at3 j4:Int}:a2I l1 o6 at3 j4 (a1x n Φ l1 o6 at3 j4):=⟨fun{r} h=>by
 unfold a1x at h
 refine A8 rfl Tryz.func196 rfl rfl ?_
 let kr:=fun r:Nod×Bool×Int×Int=>a1Q env 196 1 Tryz.f196.results.toList (a5r l1 o6 at3 j4 r)
 let jn1:Jn 45 (Int):=⟨fun fr H z=>([(0,.ptr 0 0),(2,.ptr 1 0)],[(0,.row [.sl F7 l1,.i o6,.i z,.i j4]),(1,.row [.i 0,.str [],.i 0,.i 0,.str [],.i 0,.slice (.tag 2) 0 [],.slice (.tag 3) 0 [],.slice (.tag 4) 0 [],.i 0]),(2,.tip 0 0),(3,.tip 0 0),(4,.tip 0 0)])⟩
 let jn2:Jn 43 (Int×Int×List Nod):=⟨fun fr H z=>([(0,.ptr 0 0),(2,.ptr 1 0),(4,.ptr 2 0)],[(0,.row [.sl F7 l1,.i o6,.i z.1,.i z.2.1]),(1,.row [.i 0,.str [],.i 0,.i 0,.str [],.i 0,.slice (.tag 3) 0 [],.slice (.tag 4) 0 [],.slice (.tag 5) 0 [],.i 0]),(2,.row [.i 67,.str [],.i 0,.i 0,.str [],.i 0,.slice (.tag 6) 0 [],.slice (.tag 7) 0 [],.st 8 F5 z.2.2,(lk 23 fr)]),(3,.tip 0 0),(4,.tip 0 0),(5,.tip 0 0),(6,.tip 0 0),(7,.tip 0 0),(8,.tip (tpe 10 (List.length z.2.2)) (List.length z.2.2))])⟩
 let jl1:Jn 35 (Bool×Int×Int×List Nod):=⟨fun fr H z=>([(0,.ptr 0 0),(2,.ptr 1 0),(4,.ptr 2 0),(15,.bool z.1)],[(0,.row [.sl F7 l1,.i o6,.i z.2.1,.i z.2.2.1]),(1,.row [.i 0,.str [],.i 0,.i 0,.str [],.i 0,.slice (.tag 3) 0 [],.slice (.tag 4) 0 [],.slice (.tag 5) 0 [],.i 0]),(2,.row [.i 67,.str [],.i 0,.i 0,.str [],.i 0,.slice (.tag 6) 0 [],.slice (.tag 7) 0 [],.st 8 F5 z.2.2.2,(lk 23 fr)]),(3,.tip 0 0),(4,.tip 0 0),(5,.tip 0 0),(6,.tip 0 0),(7,.tip 0 0),(8,.tip (tpe 10 (List.length z.2.2.2)) (List.length z.2.2.2))])⟩
 let ls:Nat->List Nat:=fun n=>cond (Nat.beq n 46) [1344] ([])
 exact blk⟩
theorem a9D (n:Nat){Φ:d9} [hΦ:d9.Ok Φ] {l1:List Nod}{l2:List Tok}{F6 at4 z8:Int}:a2H l1 l2 F6 at4 z8 (a1w n Φ l1 l2 F6 at4 z8):=⟨fun{r} h=>by
 unfold a1w at h
 refine A8 rfl Tryz.func197 rfl rfl ?_
 let kr:=fun r:List Nod×Bool×Int×Int×List Nod=>a1Q env 197 2 Tryz.f197.results.toList (a5q l1 l2 F6 at4 z8 r)
 let jn1:Jn 19 (List Nod×Int×Int):=⟨fun fr H z=>([(0,.ptr 0 0),(1,.st 1 F5 z.1)],[(0,.row [.sl F7 l2,.i F6,.i z.2.1,.i z.2.2]),(1,.tip (tpe 10 (List.length z.1)) (List.length z.1))])⟩
 let jl1:Jn 6 (List Nod×Bool×Int×Int):=⟨fun fr H z=>([(0,.ptr 0 0),(1,.st 1 F5 z.1),(6,.bool z.2.1)],[(0,.row [.sl F7 l2,.i F6,.i z.2.2.1,.i z.2.2.2]),(1,.tip (tpe 10 (List.length z.1)) (List.length z.1))])⟩
 let jn2:Jn 15 (Bool×Int×Int×Nod):=⟨fun fr H z=>([(0,.ptr 0 0),(1,ow (.tag 1) (lk 1 fr)),(8,.ptr 2 0),(9,.bool z.1)],[(0,.row [.sl F7 l2,.i F6,.i z.2.1,.i z.2.2.1]),(1,oH H 1),(2,.row (c0 z.2.2.2.op z.2.2.2.s z.2.2.2.n z.2.2.2.t.kind z.2.2.2.t.name z.2.2.2.t.n (.sl C9 z.2.2.2.t.args) (.sl C9 z.2.2.2.ts) (.sl F5 z.2.2.2.l) z.2.2.2.at_))])⟩
 exact blk⟩
theorem a5O (n:Nat){Φ:d9} [hΦ:d9.Ok Φ] {l1:List Tok}{o6 at3 j4:Int}:a0t l1 o6 at3 j4 (X6 n Φ l1 o6 at3 j4):=⟨fun{r} h=>by
 unfold X6 at h
 refine A8 rfl Tryz.func217 rfl rfl ?_
 let kr:=fun r:Nod×Bool×Int×Int=>a1Q env 217 1 Tryz.f217.results.toList (a2U l1 o6 at3 j4 r)
 let jl1:Jn 2 (Int×Int×List Nod):=⟨fun fr H z=>([(0,.ptr 0 0),(2,.ptr 1 0),(4,.ptr 2 0)],[(0,.row [.sl F7 l1,.i o6,.i z.1,.i z.2.1]),(1,.row [.i 0,.str [],.i 0,.i 0,.str [],.i 0,.slice (.tag 3) 0 [],.slice (.tag 4) 0 [],.slice (.tag 5) 0 [],.i 0]),(2,.row [.i 53,.str [],.i 0,.i 0,.str [],.i 0,.slice (.tag 6) 0 [],.slice (.tag 7) 0 [],.st 8 F5 z.2.2,(lk 11 fr)]),(3,.tip 0 0),(4,.tip 0 0),(5,.tip 0 0),(6,.tip 0 0),(7,.tip 0 0),(8,.tip (tpe 10 (List.length z.2.2)) (List.length z.2.2))])⟩
 let jn1:Jn 30011 (Bool):=⟨fun fr H z=>([(0,.ptr 0 0),(2,.ptr 1 0),(4,.ptr 2 0),(7,.ptr 3 0),(61,.bool z)],[(0,oH H 0),(1,.row [.i 0,.str [],.i 0,.i 0,.str [],.i 0,.slice (.tag 4) 0 [],.slice (.tag 5) 0 [],.slice (.tag 6) 0 [],.i 0]),(2,.row [.i 53,.str [],.i 0,.i 0,.str [],.i 0,.slice (.tag 7) 0 [],.slice (.tag 8) 0 [],ow (.tag 9) (lk 38 fr),(cH H 2 9)]),(3,oH H 512),(4,.tip 0 0),(5,.tip 0 0),(6,.tip 0 0),(7,.tip 0 0),(8,.tip 0 0),(9,oH H 8)])⟩
 let ls:Nat->List Nat:=fun n=>cond (Nat.beq n 2) [0,0] ([])
 exact blk⟩
theorem a7N (n:Nat){Φ:d9} [hΦ:d9.Ok Φ] {l1:List Tok}{o6 at3 j4:Int}:a1J l1 o6 at3 j4 (a0A n Φ l1 o6 at3 j4):=⟨fun{r} h=>by
 unfold a0A at h
 refine A8 rfl Tryz.func218 rfl rfl ?_
 let kr:=fun r:Nod×Bool×Int×Int=>a1Q env 218 1 Tryz.f218.results.toList (a4e l1 o6 at3 j4 r)
 let jn1:Jn 15 (Int×Int×Str×Int×List Typ):=⟨fun fr H z=>([(0,.ptr 0 0),(2,.ptr 1 0),(4,(lk 13 fr)),(5,.ptr 2 0),(6,ow (.tag 3) (lk 26 fr))],[(0,.row [.sl F7 l1,.i o6,.i z.1,.i j4]),(1,.row [.i 0,.str [],.i 0,.i 0,.str [],.i 0,.slice (.tag 4) 0 [],.slice (.tag 5) 0 [],.slice (.tag 6) 0 [],.i 0]),(2,.row [.i 63,.str [],.i 0,.i z.2.1,.str z.2.2.1,.i z.2.2.2.1,.sl C9 z.2.2.2.2,.slice (.tag 7) 0 [],.slice (.tag 8) 0 [],(lk 13 fr)]),(3,oH H 1664),(4,.tip 0 0),(5,.tip 0 0),(6,.tip 0 0),(7,.tip 0 0),(8,.tip 0 0)])⟩
 exact blk⟩
theorem a6o (n:Nat){Φ:d9} [hΦ:d9.Ok Φ] {l1:List Tok}{o6 at3 j4:Int}:a0M l1 o6 at3 j4 (Y6 n Φ l1 o6 at3 j4):=⟨fun{r} h=>by
 unfold Y6 at h
 refine A8 rfl Tryz.func179 rfl rfl ?_
 let kr:=fun r:List Nod×Bool×Int×Int=>a1Q env 179 1 Tryz.f179.results.toList (a3r l1 o6 at3 j4 r)
 let jn1:Jn 8 (List Nod×Int×Int):=⟨fun fr H z=>([(4,.st 1 F5 z.1)],[(0,.row [.sl F7 l1,.i o6,.i z.2.1,.i z.2.2]),(1,.tip (tpe 10 (List.length z.1)) (List.length z.1))])⟩
 let jl1:Jn 2 (List Nod×Int×Int):=⟨fun fr H z=>([(0,.ptr 0 0),(4,.st 1 F5 z.1)],[(0,.row [.sl F7 l1,.i o6,.i z.2.1,.i z.2.2]),(1,.tip (tpe 10 (List.length z.1)) (List.length z.1))])⟩
 exact blk⟩
theorem a6U (n:Nat){Φ:d9} [hΦ:d9.Ok Φ] {l1:List Tok}{o6 at3 j4:Int}:a02 l1 o6 at3 j4 (a0d n Φ l1 o6 at3 j4):=⟨fun{r} h=>by
 unfold a0d at h
 refine A8 rfl Tryz.func205 rfl rfl ?_
 let kr:=fun r:Nod×Bool×Int×Int=>a1Q env 205 1 Tryz.f205.results.toList (a3G l1 o6 at3 j4 r)
 let jn1:Jn 30004 (Bool):=⟨fun fr H z=>([(0,.ptr 0 0),(2,.ptr 1 0),(4,(lk 23 fr)),(24,.bool z)],[(0,oH H 0),(1,.row [.i 0,.str [],.i 0,.i 0,.str [],.i 0,.slice (.tag 2) 0 [],.slice (.tag 3) 0 [],.slice (.tag 4) 0 [],.i 0]),(2,.tip 0 0),(3,.tip 0 0),(4,.tip 0 0)])⟩
 let jn2:Jn 30028 (Bool×Int):=⟨fun fr H z=>([(0,.ptr 0 0),(2,.ptr 1 0),(4,(lk 4 fr)),(14,.ptr 2 0),(125,.bool z.1)],[(0,.row [.sl F7 l1,.i o6,.i z.2,(cH H 0 3)]),(1,.row [.i 0,.str [],.i 0,.i 0,.str [],.i 0,.slice (.tag 3) 0 [],.slice (.tag 4) 0 [],.slice (.tag 5) 0 [],.i 0]),(2,oH H 960),(3,.tip 0 0),(4,.tip 0 0),(5,.tip 0 0)])⟩
 let ls:Nat->List Nat:=fun n=>cond (Nat.beq n 23) [832] (cond (Nat.beq n 20) [640] ([]))
 exact blk⟩
theorem a8T (n:Nat){Φ:d9} [hΦ:d9.Ok Φ] {l1:List Tok}{o6 at3 j4:Int}:a2r l1 o6 at3 j4 (a08 n Φ l1 o6 at3 j4):=⟨fun{r} h=>by
 unfold a08 at h
 refine A8 rfl Tryz.func154 rfl rfl ?_
 exact blk⟩
theorem a8W (n:Nat){Φ:d9} [hΦ:d9.Ok Φ] {l1:List Tok}{o6 at3 j4:Int}:a2u l1 o6 at3 j4 (a1a n Φ l1 o6 at3 j4):=⟨fun{r} h=>by
 unfold a1a at h
 refine A8 rfl Tryz.func232 rfl rfl ?_
 let kr:=fun r:Nod×Bool×Int×Int=>a1Q env 232 1 Tryz.f232.results.toList (a5c l1 o6 at3 j4 r)
 let jn1:Jn 6 (Int×Int):=⟨fun fr H z=>([(0,.ptr 0 0),(2,.ptr 1 0),(4,.ptr 2 0)],[(0,.row [.sl F7 l1,.i o6,.i z.1,.i j4]),(1,.row [.i 0,.str [],.i 0,.i 0,.str [],.i 0,.slice (.tag 3) 0 [],.slice (.tag 4) 0 [],.slice (.tag 5) 0 [],.i 0]),(2,.row [.i 21,.str [],.i z.2,.i 0,.str [],.i 0,.slice (.tag 6) 0 [],.slice (.tag 7) 0 [],.slice (.tag 8) 0 [],(lk 14 fr)]),(3,.tip 0 0),(4,.tip 0 0),(5,.tip 0 0),(6,.tip 0 0),(7,.tip 0 0),(8,.tip 0 0)])⟩
 let jn2:Jn 17 (Bool×Int×Int×Str×Int×List Typ):=⟨fun fr H z=>([(0,.ptr 0 0),(2,.ptr 1 0),(4,.ptr 2 0),(7,.bool z.1)],[(0,.row [.sl F7 l1,.i o6,.i z.2.1,.i j4]),(1,oH H 1),(2,.row [.i 21,(lk 24 fr),(cH H 2 2),.i z.2.2.1,.str z.2.2.2.1,.i z.2.2.2.2.1,.sl C9 z.2.2.2.2.2,.slice (.tag 6) 0 [],.slice (.tag 7) 0 [],(cH H 2 9)]),(3,.tip 0 0),(4,.tip 0 0),(5,.tip 0 0),(6,.tip 0 0),(7,.tip 0 0)])⟩
 let jn3:Jn 24 (Int×Int×List Nod):=⟨fun fr H z=>([(0,.ptr 0 0),(2,.ptr 1 0),(4,.ptr 2 0)],[(0,.row [.sl F7 l1,.i o6,.i z.1,.i z.2.1]),(1,oH H 1),(2,.row [.i 21,(cH H 2 1),(cH H 2 2),(cH H 2 3),(cH H 2 4),(cH H 2 5),ow .sealed (cH H 2 6),.slice (.tag 6) 0 [],.st 7 F5 z.2.2,(cH H 2 9)]),(3,.tip 0 0),(4,.tip 0 0),(5,.tip 0 0),(6,.tip 0 0),(7,.tip (tpe 10 (List.length z.2.2)) (List.length z.2.2))])⟩
 let jn4:Jn 30023 (Bool):=⟨fun fr H z=>([(0,.ptr 0 0),(2,.ptr 1 0),(4,.ptr 2 0),(62,.bool z)],[(0,oH H 0),(1,oH H 1),(2,oH H 2),(3,.tip 0 0),(4,.tip 0 0),(5,.tip 0 0),(6,.tip 0 0),(7,.tip 0 0)])⟩
 exact blk⟩
theorem a5W (n:Nat){Φ:d9} [hΦ:d9.Ok Φ] {l1:List Tok}{o6 at3 j4:Int}:a0B l1 o6 at3 j4 (X9 n Φ l1 o6 at3 j4):=⟨fun{r} h=>by
 unfold X9 at h
 refine A8 rfl Tryz.func233 rfl rfl ?_
 let kr:=fun r:Nod×Bool×Int×Int=>a1Q env 233 1 Tryz.f233.results.toList (a3g l1 o6 at3 j4 r)
 let jn1:Jn 17 (Bool×Int×Int×Nod):=⟨fun fr H z=>([(2,.ptr 1 0),(4,.ptr 2 0),(5,.ptr 3 0),(7,.ptr 4 0),(8,.bool z.1),(9,.ptr 5 0)],[(0,.row [.sl F7 l1,.i o6,.i z.2.1,.i z.2.2.1]),(1,.row [.i 0,.str [],.i 0,.i 0,.str [],.i 0,.slice (.tag 6) 0 [],.slice (.tag 7) 0 [],.slice (.tag 8) 0 [],.i 0]),(2,.row [.i 24,.str [],.i 0,.i 0,.str [],.i 0,.slice (.tag 9) 0 [],.slice (.tag 10) 0 [],ow (.tag 11) (lk 33 fr),(lk 11 fr)]),(3,oH H 384),(4,oH H 512),(5,.row (c0 z.2.2.2.op z.2.2.2.s z.2.2.2.n z.2.2.2.t.kind z.2.2.2.t.name z.2.2.2.t.n (.sl C9 z.2.2.2.t.args) (.sl C9 z.2.2.2.ts) (.sl F5 z.2.2.2.l) z.2.2.2.at_)),(6,.tip 0 0),(7,.tip 0 0),(8,.tip 0 0),(9,.tip 0 0),(10,.tip 0 0),(11,.tip (tpe 10 (lnV (lk 33 fr))) (lnV (lk 33 fr)))])⟩
 exact blk⟩
theorem a8X (n:Nat){Φ:d9} [hΦ:d9.Ok Φ] {at1:Int}{l2:List Tok}{F6 at4 z8:Int}:a2v at1 l2 F6 at4 z8 (a1b n Φ at1 l2 F6 at4 z8):=⟨fun{r} h=>by
 unfold a1b at h
 refine A8 rfl Tryz.func234 rfl rfl ?_
 let kr:=fun r:List Nod×Bool×Int×Int=>a1Q env 234 1 Tryz.f234.results.toList (a5d at1 l2 F6 at4 z8 r)
 let jn1:Jn 30005 (Bool×Int):=⟨fun fr H z=>([(0,.ptr 0 0),(4,.ptr 1 0),(6,.ptr 2 0),(7,.ptr 3 0),(32,.bool z.1)],[(0,.row [.sl F7 l2,.i F6,.i z.2,(cH H 0 3)]),(1,.row [.i 0,.str [],.i 0,.i 0,.str [],.i 0,.slice (.tag 4) 0 [],.slice (.tag 5) 0 [],.slice (.tag 6) 0 [],.i 0]),(2,.row [.i 26,.str [],.i 0,.i 0,.str [],.i 0,.slice (.tag 7) 0 [],.slice (.tag 8) 0 [],.slice (.tag 9) 0 [],.i at1]),(3,oH H 512),(4,.tip 0 0),(5,.tip 0 0),(6,.tip 0 0),(7,.tip 0 0),(8,.tip 0 0),(9,.tip 0 0)])⟩
 let jn2:Jn 18 (List Nod×Int×Int):=⟨fun fr H z=>([(0,.ptr 0 0),(4,.ptr 1 0),(6,.ptr 2 0),(9,.st 3 F5 z.1)],[(0,.row [.sl F7 l2,.i F6,.i z.2.1,.i z.2.2]),(1,oH H 1),(2,oH H 2),(3,.tip (tpe 10 (List.length z.1)) (List.length z.1)),(4,.tip 0 0),(5,.tip 0 0),(6,.tip 0 0),(7,.tip 0 0),(8,.tip 0 0),(9,.tip 0 0)])⟩
 let jl1:Jn 6 (List Nod×Int×Int):=⟨fun fr H z=>([(0,.ptr 0 0),(4,.ptr 1 0),(6,.ptr 2 0),(9,.st 3 F5 z.1)],[(0,.row [.sl F7 l2,.i F6,.i z.2.1,.i z.2.2]),(1,oH H 1),(2,oH H 2),(3,.tip (tpe 10 (List.length z.1)) (List.length z.1)),(4,.tip 0 0),(5,.tip 0 0),(6,.tip 0 0),(7,.tip 0 0),(8,.tip 0 0),(9,.tip 0 0)])⟩
 let jn3:Jn 26 (List Nod×Int×Int):=⟨fun fr H z=>([(0,.ptr 0 0),(4,.ptr 1 0),(6,.ptr 2 0),(9,.st 3 F5 z.1)],[(0,.row [.sl F7 l2,.i F6,.i z.2.1,.i z.2.2]),(1,oH H 1),(2,oH H 2),(3,.tip (tpe 10 (List.length z.1)) (List.length z.1)),(4,.tip 0 0),(5,.tip 0 0),(6,.tip 0 0),(7,.tip 0 0),(8,.tip 0 0),(9,.tip 0 0)])⟩
 exact blk⟩
theorem a8r (n:Nat){Φ:d9} [hΦ:d9.Ok Φ] {l1:List Tok}{o6 at3 j4:Int}:a18 l1 o6 at3 j4 (a0R n Φ l1 o6 at3 j4):=⟨fun{r} h=>by
 unfold a0R at h
 refine A8 rfl Tryz.func235 rfl rfl ?_
 let ls:Nat->List Nat:=fun n=>cond (Nat.beq n 12) [512,320,320] ([])
 exact blk⟩
theorem a9M (n:Nat){Φ:d9} [hΦ:d9.Ok Φ] {l1:List Tok}{o6 at3 j4:Int}:a2L l1 o6 at3 j4 (a1B n Φ l1 o6 at3 j4):=⟨fun{r} h=>by
 unfold a1B at h
 refine A8 rfl Tryz.func219 rfl rfl ?_
 let kr:=fun r:Nod×Bool×Int×Int=>a1Q env 219 1 Tryz.f219.results.toList (a5u l1 o6 at3 j4 r)
 let jn1:Jn 23 (Int):=⟨fun fr H z=>([(2,.ptr 1 0),(4,.ptr 2 0)],[(0,.row [.sl F7 l1,.i o6,.i z,.i j4]),(1,.row [.i 0,.str [],.i 0,.i 0,.str [],.i 0,.slice (.tag 3) 0 [],.slice (.tag 4) 0 [],.slice (.tag 5) 0 [],.i 0]),(2,.row [.i 0,.str [],.i 0,.i 0,.str [],.i 0,.slice (.tag 6) 0 [],.slice (.tag 7) 0 [],.slice (.tag 8) 0 [],(lk 16 fr)]),(3,.tip 0 0),(4,.tip 0 0),(5,.tip 0 0),(6,.tip 0 0),(7,.tip 0 0),(8,.tip 0 0)])⟩
 let jl1:Jn 3 (Bool×Int×Typ):=⟨fun fr H z=>([(0,.ptr 0 0),(2,.ptr 1 0),(4,.ptr 2 0),(5,.ptr 3 0),(6,.bool z.1)],[(0,.row [.sl F7 l1,.i o6,.i z.2.1,.i j4]),(1,.row [.i 0,.str [],.i 0,.i 0,.str [],.i 0,.slice (.tag 4) 0 [],.slice (.tag 5) 0 [],.slice (.tag 6) 0 [],.i 0]),(2,.row [.i 0,.str [],.i 0,.i 0,.str [],.i 0,.slice (.tag 7) 0 [],.slice (.tag 8) 0 [],.slice (.tag 9) 0 [],(lk 16 fr)]),(3,.row [.i z.2.2.kind,.str z.2.2.name,.i z.2.2.n,.sl C9 z.2.2.args]),(4,.tip 0 0),(5,.tip 0 0),(6,.tip 0 0),(7,.tip 0 0),(8,.tip 0 0),(9,.tip 0 0)])⟩
 let ls:Nat->List Nat:=fun n=>cond (Nat.beq n 16) [3] (cond (Nat.beq n 6) [3] ([]))
 exact blk⟩
theorem d9.ok:∀n,d9.Ok (d9.fs n)
 | 0=>⟨⟨fun h=>by cases h⟩,⟨fun h=>by cases h⟩,⟨fun h=>by cases h⟩,⟨fun h=>by cases h⟩,⟨fun h=>by cases h⟩,⟨fun h=>by cases h⟩,⟨fun h=>by cases h⟩,⟨fun h=>by cases h⟩,⟨fun h=>by cases h⟩,⟨fun h=>by cases h⟩,⟨fun h=>by cases h⟩,⟨fun h=>by cases h⟩,⟨fun h=>by cases h⟩,⟨fun h=>by cases h⟩,⟨fun h=>by cases h⟩,⟨fun h=>by cases h⟩⟩
 | n+1=>have:=d9.ok n;⟨a9G n,a8V n,a8Z n,a7P n,a9E n,a9D n,a5O n,a7N n,a6o n,a6U n,a8T n,a8W n,a5W n,a8X n,a8r n,a9M n⟩
instance c0y {n:Nat}{l1:List Tok}{o6 at3 j4:Int}:a2K l1 o6 at3 j4 (E8 n l1 o6 at3 j4):=(d9.ok n).E8
instance b9Z {n:Nat}{k1:Int}{l2:List Tok}{F6 at4 z8:Int}:a2t k1 l2 F6 at4 z8 (M5 n k1 l2 F6 at4 z8):=(d9.ok n).M5
instance b93 {n:Nat}{l1:List Tok}{o6 at3 j4:Int}:a2x l1 o6 at3 j4 (O1 n l1 o6 at3 j4):=(d9.ok n).O1
instance b8m {n:Nat}{l1:List Tok}{o6 at3 j4:Int}:a1M l1 o6 at3 j4 (O9 n l1 o6 at3 j4):=(d9.ok n).O9
instance c0w {n:Nat}{l1:List Tok}{o6 at3 j4:Int}:a2I l1 o6 at3 j4 (U8 n l1 o6 at3 j4):=(d9.ok n).U8
instance c0v {n:Nat}{l1:List Nod}{l2:List Tok}{F6 at4 z8:Int}:a2H l1 l2 F6 at4 z8 (J8 n l1 l2 F6 at4 z8):=(d9.ok n).J8
instance b4x {n:Nat}{l1:List Tok}{o6 at3 j4:Int}:a0t l1 o6 at3 j4 (J9 n l1 o6 at3 j4):=(d9.ok n).J9
instance b8k {n:Nat}{l1:List Tok}{o6 at3 j4:Int}:a1J l1 o6 at3 j4 (O8 n l1 o6 at3 j4):=(d9.ok n).O8
instance b58 {n:Nat}{l1:List Tok}{o6 at3 j4:Int}:a0M l1 o6 at3 j4 (K4 n l1 o6 at3 j4):=(d9.ok n).K4
instance b6k {n:Nat}{l1:List Tok}{o6 at3 j4:Int}:a02 l1 o6 at3 j4 (L6 n l1 o6 at3 j4):=(d9.ok n).L6
instance b9Y {n:Nat}{l1:List Tok}{o6 at3 j4:Int}:a2r l1 o6 at3 j4 (I5 n l1 o6 at3 j4):=(d9.ok n).I5
instance b90 {n:Nat}{l1:List Tok}{o6 at3 j4:Int}:a2u l1 o6 at3 j4 (R9 n l1 o6 at3 j4):=(d9.ok n).R9
instance b5N {n:Nat}{l1:List Tok}{o6 at3 j4:Int}:a0B l1 o6 at3 j4 (J7 n l1 o6 at3 j4):=(d9.ok n).J7
instance b91 {n:Nat}{at1:Int}{l2:List Tok}{F6 at4 z8:Int}:a2v at1 l2 F6 at4 z8 (S9 n at1 l2 F6 at4 z8):=(d9.ok n).S9
instance b8I {n:Nat}{l1:List Tok}{o6 at3 j4:Int}:a18 l1 o6 at3 j4 (Q9 n l1 o6 at3 j4):=(d9.ok n).Q9
instance c0B {n:Nat}{l1:List Tok}{o6 at3 j4:Int}:a2L l1 o6 at3 j4 (U9 n l1 o6 at3 j4):=(d9.ok n).U9
abbrev b8i (a1N:Str)(p:Option (Nod×Flt)):Prop:=OkF env p 13 [.str a1N] [] (b0q a1N)
instance ref02_Expr_I {n:Nat}{a1N:Str}:b8i a1N (a6Q n a1N):=⟨fun{r} h=>by
 unfold a6Q at h
 refine A8 rfl Tryz.func13 rfl rfl ?_
 let kr:=fun r:Nod×Flt=>a1Q env 13 0 Tryz.f13.results.toList (b0q a1N r)
 let jn1:Jn 30008 (Bool):=⟨fun fr H z=>([(2,.ptr 0 0),(3,.ptr 1 0),(4,ow .sealed (lk 14 fr)),(6,.ptr 2 0),(7,.ptr 3 0),(8,(lk 30 fr)),(39,.bool z)],[(0,.row [.i 0,.str [],.i 0,.i 0,.str [],.i 0,.slice (.tag 4) 0 [],.slice (.tag 5) 0 [],.slice (.tag 6) 0 [],.i 0]),(1,oH H 256),(2,oH H 1664),(3,oH H 512),(4,.tip 0 0),(5,.tip 0 0),(6,.tip 0 0)])⟩
 let jn2:Jn 30010 (Bool):=⟨fun fr H z=>([(2,.ptr 0 0),(3,.ptr 1 0),(6,.ptr 2 0),(7,.ptr 3 0),(56,.bool z)],[(0,oH H 0),(1,oH H 1),(2,oH H 2),(3,oH H 3),(4,.tip 0 0),(5,.tip 0 0),(6,.tip 0 0)])⟩
 let ls:Nat->List Nat:=fun n=>cond (Nat.beq n 7) [2] (cond (Nat.beq n 3) [384] ([]))
 exact blk⟩
abbrev b1c (words1:List Str)(p:Option (Str)):Prop:=OkF env p 30 [.ptr 0 0] [(0,.row [.st 1 clS words1]),(1,.tip (tpe 1 (List.length words1)) (List.length words1))] (a9C words1)
instance c0u {words1:List Str}:b1c words1 (a1j words1):=⟨fun{r} h=>by
 unfold a1j at h
 refine A8 rfl Tryz.func30 rfl rfl ?_
 exact blk⟩
abbrev b1L (l1 words2:List Str)(p:Option (List Str)):Prop:=OkF env p 58 [.ptr 0 0,.sl clS l1] [(0,.row [.st 1 clS words2]),(1,.tip (tpe 1 (List.length words2)) (List.length words2))] (b0f l1 words2)
instance c1F {l1 words2:List Str}:b1L l1 words2 (o5 l1 words2):=⟨fun{r} h=>by
 unfold o5 at h
 refine A8 rfl Tryz.func58 rfl rfl ?_
 exact blk⟩
abbrev a9z (n1:Int)(words2:List Str)(p:Option (List Str)):Prop:=OkF env p 76 [.ptr 0 0,.i n1] [(0,.row [.st 1 clS words2]),(1,.tip (tpe 1 (List.length words2)) (List.length words2))] (a4B n1 words2)
instance b8C {n1:Int}{words2:List Str}:a9z n1 words2 (a0H n1 words2):=⟨fun{r} h=>by
 unfold a0H at h
 refine A8 rfl Tryz.func76 rfl rfl ?_
 let kr:=fun r:List Str=>a1Q env 76 2 Tryz.f76.results.toList (a4B n1 words2 r)
 let jn1:Jn 5 (Str×List Str):=⟨fun fr H z=>([(0,.ptr 0 0),(4,.str z.1)],[(0,.row [.st 1 clS z.2]),(1,.tip (tpe 1 (List.length z.2)) (List.length z.2))])⟩
 exact blk⟩
abbrev b0g (n1:Int)(words2:List Str)(p:Option (List Str)):Prop:=OkF env p 77 [.ptr 0 0,.i n1] [(0,.row [.st 1 clS words2]),(1,.tip (tpe 1 (List.length words2)) (List.length words2))] (a8P n1 words2)
instance b9M {n1:Int}{words2:List Str}:b0g n1 words2 (a0W n1 words2):=⟨fun{r} h=>by
 unfold a0W at h
 refine A8 rfl Tryz.func77 rfl rfl ?_
 exact blk⟩
abbrev b9I (n1:Nod)(i2:Int)(p:Option (Nod)):Prop:=OkF env p 80 [.agg (c0 n1.op n1.s n1.n n1.t.kind n1.t.name n1.t.n (.sl C9 n1.t.args) (.sl C9 n1.ts) (.sl F5 n1.l) n1.at_),.i i2] [] (b6e n1 i2)
instance parse_kid_I {n1:Nod}{i2:Int}:b9I n1 i2 (O5 n1 i2):=⟨fun{r} h=>by
 unfold O5 at h
 obtain⟨n1_0,n1_1,n1_2,⟨n1_3,n1_4,n1_5,n1_6⟩,n1_7,n1_8,n1_9⟩:=n1
 refine A8 rfl Tryz.func80 rfl rfl ?_
 exact blk⟩
abbrev a2Y (t1:Typ)(words2:List Str)(p:Option (List Str)):Prop:=OkF env p 45 [.ptr 0 0,.agg [.i t1.kind,.str t1.name,.i t1.n,.sl C9 t1.args]] [(0,.row [.st 1 clS words2]),(1,.tip (tpe 1 (List.length words2)) (List.length words2))] (b0i t1 words2)
abbrev a2D (l1:List Typ)(words2:List Str)(p:Option (List Str)):Prop:=OkF env p 94 [.ptr 0 0,.sl C9 l1] [(0,.row [.st 1 clS words2]),(1,.tip (tpe 1 (List.length words2)) (List.length words2))] (a9u l1 words2)
abbrev a3q (l1:List Typ)(words2:List Str)(p:Option (List Str)):Prop:=OkF env p 95 [.ptr 0 0,.sl C9 l1,.func (.func 45) [.ptr 0 0] []] [(0,.row [.st 1 clS words2]),(1,.tip (tpe 1 (List.length words2)) (List.length words2))] (a5Z l1 words2)
class o9.Ok (Φ:o9):Prop where
 F9:∀{t1:Typ} {words2:List Str},a2Y t1 words2 (Φ.F9 t1 words2)
 M9:∀{l1:List Typ} {words2:List Str},a2D l1 words2 (Φ.M9 l1 words2)
 M7:∀{l1:List Typ} {words2:List Str},a3q l1 words2 (Φ.M7 l1 words2)
instance {Φ:o9} [h:o9.Ok Φ] {t1:Typ}{words2:List Str}:a2Y t1 words2 (Φ.F9 t1 words2):=h.F9
instance {Φ:o9} [h:o9.Ok Φ] {l1:List Typ}{words2:List Str}:a2D l1 words2 (Φ.M9 l1 words2):=h.M9
instance {Φ:o9} [h:o9.Ok Φ] {l1:List Typ}{words2:List Str}:a3q l1 words2 (Φ.M7 l1 words2):=h.M7
theorem b0h (n:Nat){Φ:o9} [hΦ:o9.Ok Φ] {t1:Typ}{words2:List Str}:a2Y t1 words2 (a1V n Φ t1 words2):=⟨fun{r} h=>by
 unfold a1V at h
 obtain⟨t1_0,t1_1,t1_2,t1_3⟩:=t1
 refine A8 rfl Tryz.func45 rfl rfl ?_
 exact blk⟩
theorem a9t (n:Nat){Φ:o9} [hΦ:o9.Ok Φ] {l1:List Typ}{words2:List Str}:a2D l1 words2 (a1t n Φ l1 words2):=⟨fun{r} h=>by
 unfold a1t at h
 refine A8 rfl Tryz.func94 rfl rfl ?_
 exact blk⟩
theorem b1b (n:Nat){Φ:o9} [hΦ:o9.Ok Φ] {l1:List Typ}{words2:List Str}:a3q l1 words2 (a4T n Φ l1 words2):=⟨fun{r} h=>by
 unfold a4T at h
 refine A8 rfl Tryz.func95 rfl rfl ?_
 let kr:=fun r:List Str=>a1Q env 95 2 Tryz.f95.results.toList (a5Z l1 words2 r)
 let jl1:Jn 1 (Int×List Str):=⟨fun fr H z=>([(0,.ptr 0 0),(2,.func (.func 45) [.ptr 0 0] []),(8,.sl C9 l1),(9,.i (List.length l1:Int)),(10,.i z.1)],[(0,.row [.st 1 clS z.2]),(1,.tip (tpe 1 (List.length z.2)) (List.length z.2))])⟩
 let jn1:Jn 6 (List Str):=⟨fun fr H z=>([(0,.ptr 0 0),(2,.func (.func 45) [.ptr 0 0] []),(7,.ptr 2 0),(8,.sl C9 l1),(9,.i (List.length l1:Int)),(10,(lk 10 fr))],[(0,.row [.st 1 clS z]),(1,.tip (tpe 1 (List.length z)) (List.length z)),(2,oH H 512)])⟩
 exact blk⟩
theorem o9.ok:∀n,o9.Ok (o9.fs n)
 | 0=>⟨⟨fun h=>by cases h⟩,⟨fun h=>by cases h⟩,⟨fun h=>by cases h⟩⟩
 | n+1=>have:=o9.ok n;⟨b0h n,a9t n,b1b n⟩
instance c1G {n:Nat}{t1:Typ}{words2:List Str}:a2Y t1 words2 (F9 n t1 words2):=(o9.ok n).F9
instance c0r {n:Nat}{l1:List Typ}{words2:List Str}:a2D l1 words2 (M9 n l1 words2):=(o9.ok n).M9
instance c3a {n:Nat}{l1:List Typ}{words2:List Str}:a3q l1 words2 (M7 n l1 words2):=(o9.ok n).M7
abbrev a7I (p1:Nod)(words2:List Str)(p:Option (List Str)):Prop:=OkF env p 170 [.agg (c0 p1.op p1.s p1.n p1.t.kind p1.t.name p1.t.n (.sl C9 p1.t.args) (.sl C9 p1.ts) (.sl F5 p1.l) p1.at_),.ptr 0 0] [(0,.row [.ptr 1 0]),(1,.row [.st 2 clS words2]),(2,.tip (tpe 1 (List.length words2)) (List.length words2))] (a3C p1 words2)
instance b6f {n:Nat}{p1:Nod}{words2:List Str}:a7I p1 words2 (a1G n p1 words2):=⟨fun{r} h=>by
 unfold a1G at h
 obtain⟨p1_0,p1_1,p1_2,⟨p1_3,p1_4,p1_5,p1_6⟩,p1_7,p1_8,p1_9⟩:=p1
 refine A8 rfl Tryz.func170 rfl rfl ?_
 let kr:=fun r:List Str=>a1Q env 170 3 Tryz.f170.results.toList (a3C (Nod.mk p1_0 p1_1 p1_2 (Typ.mk p1_3 p1_4 p1_5 p1_6) p1_7 p1_8 p1_9) words2 r)
 let jn1:Jn 6 (List Str):=⟨fun fr H z=>([(1,.ptr 0 0),(2,.ptr 3 0)],[(0,.row [.ptr 1 0]),(1,.row [.st 2 clS z]),(2,.tip (tpe 1 (List.length z)) (List.length z)),(3,oH H 192)])⟩
 exact blk⟩
abbrev b0d (l1:List Nod)(words2:List Str)(p:Option (List Str)):Prop:=OkF env p 82 [.ptr 0 0,.sl F5 l1,.func (.func 170) [] [.ptr 1 0]] [(0,.row [.st 2 clS words2]),(1,.row [.ptr 0 0]),(2,.tip (tpe 1 (List.length words2)) (List.length words2))] (a4R l1 words2)
instance b9J {n:Nat}{l1:List Nod}{words2:List Str}:b0d l1 words2 (a2X n l1 words2):=⟨fun{r} h=>by
 unfold a2X at h
 refine A8 rfl Tryz.func82 rfl rfl ?_
 let kr:=fun r:List Str=>a1Q env 82 3 Tryz.f82.results.toList (a4R l1 words2 r)
 let jl1:Jn 1 (Int×List Str):=⟨fun fr H z=>([(0,.ptr 0 0),(2,.func (.func 170) [] [.ptr 1 0]),(8,.sl F5 l1),(9,.i (List.length l1:Int)),(10,.i z.1)],[(0,.row [.st 2 clS z.2]),(1,.row [.ptr 0 0]),(2,.tip (tpe 1 (List.length z.2)) (List.length z.2))])⟩
 let jn1:Jn 6 (List Str):=⟨fun fr H z=>([(0,.ptr 0 0),(2,.func (.func 170) [] [.ptr 1 0]),(7,.ptr 3 0),(8,.sl F5 l1),(9,.i (List.length l1:Int)),(10,(lk 10 fr))],[(0,.row [.st 2 clS z]),(1,.row [.ptr 0 0]),(2,.tip (tpe 1 (List.length z)) (List.length z)),(3,oH H 512)])⟩
 exact blk⟩
abbrev a9A (l1:List Nod)(words2:List Str)(p:Option (List Str)):Prop:=OkF env p 119 [.ptr 0 0,.sl F5 l1] [(0,.row [.st 1 clS words2]),(1,.tip (tpe 1 (List.length words2)) (List.length words2))] (a8h l1 words2)
instance b8D {n:Nat}{l1:List Nod}{words2:List Str}:a9A l1 words2 (a2G n l1 words2):=⟨fun{r} h=>by
 unfold a2G at h
 refine A8 rfl Tryz.func119 rfl rfl ?_
 exact blk⟩
abbrev a9B (t1:Typ)(words2:List Str)(p:Option (List Str)):Prop:=OkF env p 120 [.ptr 0 0,.agg [.i t1.kind,.str t1.name,.i t1.n,.sl C9 t1.args]] [(0,.row [.st 1 clS words2]),(1,.tip (tpe 1 (List.length words2)) (List.length words2))] (a8i t1 words2)
instance b8E {n:Nat}{t1:Typ}{words2:List Str}:a9B t1 words2 (a1v n t1 words2):=⟨fun{r} h=>by
 unfold a1v at h
 obtain⟨t1_0,t1_1,t1_2,t1_3⟩:=t1
 refine A8 rfl Tryz.func120 rfl rfl ?_
 exact blk⟩
abbrev b72 (n1:Nod)(i2:Int)(p:Option (List Nod)):Prop:=OkF env p 147 [.agg (c0 n1.op n1.s n1.n n1.t.kind n1.t.name n1.t.n (.sl C9 n1.t.args) (.sl C9 n1.ts) (.sl F5 n1.l) n1.at_),.i i2] [] (b5x n1 i2)
instance parse_rest_I {n1:Nod}{i2:Int}:b72 n1 i2 (a4u n1 i2):=⟨fun{r} h=>by
 unfold a4u at h
 obtain⟨n1_0,n1_1,n1_2,⟨n1_3,n1_4,n1_5,n1_6⟩,n1_7,n1_8,n1_9⟩:=n1
 refine A8 rfl Tryz.func147 rfl rfl ?_
 exact blk⟩
end Go.Proofs.YtmippldlhnajkaaGreatDoor
