/- What the functions under ParseModules compute, step by step, as functions in Lean: texts that were built one by one, joined. -/
import Derived.Test.YtcbjnilpecpbmaaGreatDoorParseModulesJ17
set_option maxRecDepth 100000
set_option maxHeartbeats 20000000
set_option linter.unusedSimpArgs false
set_option linter.unusedVariables false
set_option linter.unusedSectionVars false
namespace Go.Proofs.YtcbjnilpecpbmaaGreatDoor
open Go Go.Vm
attribute [local irreducible] Go.Vm.Ev Go.Vm.Os Go.Vm.OsP Go.Vm.Lp Go.Vm.F4 Go.Vm.J8 Go.Vm.K3 Go.Vm.E
abbrev b8o (U8:Str)(p:Option (Nod×List Flt)):Prop:=OkF env p 6 [.str U8] [] (b0I U8)
instance parse_Module_I {n:Nat}{U8:Str}:b8o U8 (a6I n U8):=⟨fun{r} h=>by
 unfold a6I at h
 refine D5 rfl Tryz.func6 rfl rfl ?_
 let kr:=fun r:Nod×List Flt=>a0H env 6 0 Tryz.f6.results.toList (b0I U8 r)
 let jn1:Jn 22 (List Flt×List Nod):=⟨fun fr H z=>([(2,.ptr 0 0),(6,.ptr 1 0),(8,.st 2 a5D z.1)],[(0,.row [.i 0,.str [],.i 0,.i 0,.str [],.i 0,.slice (.tag 3) 0 [],.slice (.tag 4) 0 [],.slice (.tag 5) 0 [],.i 0]),(1,.row [.i 1,.str [],.i 0,.i 0,.str [],.i 0,.slice (.tag 6) 0 [],.slice (.tag 7) 0 [],.st 8 D8 z.2,.i 0]),(2,.tip (tpe 2 (List.length z.1)) (List.length z.1)),(3,.tip 0 0),(4,.tip 0 0),(5,.tip 0 0),(6,.tip 0 0),(7,.tip 0 0),(8,.tip (tpe 10 (List.length z.2)) (List.length z.2))])⟩
 let jl1:Jn 7 (Int×List Flt×List Nod×Int):=⟨fun fr H z=>([(2,.ptr 0 0),(4,.ptr 1 0),(6,.ptr 2 0),(7,.i z.1),(8,.st 3 a5D z.2.1)],[(0,.row [.i 0,.str [],.i 0,.i 0,.str [],.i 0,.slice (.tag 4) 0 [],.slice (.tag 5) 0 [],.slice (.tag 6) 0 [],.i 0]),(1,.row [.ptr 7 0]),(2,.row [.i 1,.str [],.i 0,.i 0,.str [],.i 0,.slice (.tag 8) 0 [],.slice (.tag 9) 0 [],.st 10 D8 z.2.2.1,.i 0]),(3,.tip (tpe 2 (List.length z.2.1)) (List.length z.2.1)),(4,.tip 0 0),(5,.tip 0 0),(6,.tip 0 0),(7,.row [ow .sealed (cH H 1152 0),.i z.2.2.2,.i (List.length U8:Int)]),(8,.tip 0 0),(9,.tip 0 0),(10,.tip (tpe 10 (List.length z.2.2.1)) (List.length z.2.2.1))])⟩
 let jn2:Jn 90041 (Bool):=⟨fun fr H z=>([(2,.ptr 0 0),(4,.ptr 1 0),(6,.ptr 2 0),(7,(lk 7 fr)),(8,ow (.tag 3) (lk 8 fr)),(41,.bool z)],[(0,oH H 0),(1,.row [.ptr 7 0]),(2,oH H 2),(3,oH H 3),(4,.tip 0 0),(5,.tip 0 0),(6,.tip 0 0),(7,oH H 7),(8,.tip 0 0),(9,.tip 0 0),(10,oH H 10)])⟩
 let ls:Nat->List Nat:=fun n=>cond (Nat.beq n 3) [384] ([])
 exact blk⟩
abbrev b2G (l1:List Tok)(o9 at3 o5:Int)(p:Option (Int)):Prop:=OkF env p 21 [.ptr 0 0] (hR p8 l1 o9 at3 o5) (b05 l1 o9 at3 o5)
instance c2d {l1:List Tok}{o9 at3 o5:Int}:b2G l1 o9 at3 o5 (E5 l1 o9 at3 o5):=⟨fun{r} h=>by
 unfold E5 at h
 refine D5 rfl Tryz.func21 rfl rfl ?_
 exact blk⟩
abbrev b4b (a0O:Int)(a8g:Str)(l3:List Tok)(b2d at5 a4Q:Int)(p:Option (Bool)):Prop:=OkF env p 93 [.ptr 0 0,.i a0O,.str a8g] (hR p8 l3 b2d at5 a4Q) (b2F a0O a8g l3 b2d at5 a4Q)
instance c4A {a0O:Int}{a8g:Str}{l3:List Tok}{b2d at5 a4Q:Int}:b4b a0O a8g l3 b2d at5 a4Q (C8 a0O a8g l3 b2d at5 a4Q):=⟨fun{r} h=>by
 unfold C8 at h
 refine D5 rfl Tryz.func93 rfl rfl ?_
 exact blk⟩
abbrev b4d (a0O:Int)(a8g:Str)(l3:List Tok)(b2d at5 a4Q:Int)(p:Option (Bool×Int)):Prop:=OkF env p 89 [.ptr 0 0,.i a0O,.str a8g] (hR p8 l3 b2d at5 a4Q) (b2L a0O a8g l3 b2d at5 a4Q)
instance c4D {a0O:Int}{a8g:Str}{l3:List Tok}{b2d at5 a4Q:Int}:b4d a0O a8g l3 b2d at5 a4Q (a2r a0O a8g l3 b2d at5 a4Q):=⟨fun{r} h=>by
 unfold a2r at h
 refine D5 rfl Tryz.func89 rfl rfl ?_
 exact blk⟩
abbrev b4S (s1:Str)(l2:List Tok)(z8 at4 o8:Int)(p:Option (Bool×Int)):Prop:=OkF env p 49 [.ptr 0 0,.str s1] (hR p8 l2 z8 at4 o8) (b3l s1 l2 z8 at4 o8)
instance c5M {s1:Str}{l2:List Tok}{z8 at4 o8:Int}:b4S s1 l2 z8 at4 o8 (w9 s1 l2 z8 at4 o8):=⟨fun{r} h=>by
 unfold w9 at h
 refine D5 rfl Tryz.func49 rfl rfl ?_
 exact blk⟩
abbrev b2E (a0O:Int)(l2:List Tok)(z8 at4 o8:Int)(p:Option (Bool)):Prop:=OkF env p 127 [.ptr 0 0,.i a0O] (hR p8 l2 z8 at4 o8) (b04 a0O l2 z8 at4 o8)
instance c2c {a0O:Int}{l2:List Tok}{z8 at4 o8:Int}:b2E a0O l2 z8 at4 o8 (Q7 a0O l2 z8 at4 o8):=⟨fun{r} h=>by
 unfold Q7 at h
 refine D5 rfl Tryz.func127 rfl rfl ?_
 exact blk⟩
abbrev b4e (a0O:Int)(l2:List Tok)(z8 at4 o8:Int)(p:Option (Str×Bool×Int)):Prop:=OkF env p 90 [.ptr 0 0,.i a0O] (hR p8 l2 z8 at4 o8) (b2M a0O l2 z8 at4 o8)
instance c4E {a0O:Int}{l2:List Tok}{z8 at4 o8:Int}:b4e a0O l2 z8 at4 o8 (q9 a0O l2 z8 at4 o8):=⟨fun{r} h=>by
 unfold q9 at h
 refine D5 rfl Tryz.func90 rfl rfl ?_
 exact blk⟩
abbrev b4c (s1:Str)(l2:List Tok)(z8 at4 o8:Int)(p:Option (Bool×Int)):Prop:=OkF env p 92 [.ptr 0 0,.str s1] (hR p8 l2 z8 at4 o8) (b2K s1 l2 z8 at4 o8)
instance c4C {s1:Str}{l2:List Tok}{z8 at4 o8:Int}:b4c s1 l2 z8 at4 o8 (o6 s1 l2 z8 at4 o8):=⟨fun{r} h=>by
 unfold o6 at h
 refine D5 rfl Tryz.func92 rfl rfl ?_
 exact blk⟩
abbrev b2A (l1:List Tok)(o9 at3 o5:Int)(p:Option (List Nod×Bool×Int)):Prop:=OkF env p 97 [.ptr 0 0] (hR p8 l1 o9 at3 o5) (a6q l1 o9 at3 o5)
instance c2a {n:Nat}{l1:List Tok}{o9 at3 o5:Int}:b2A l1 o9 at3 o5 (a1w n l1 o9 at3 o5):=⟨fun{r} h=>by
 unfold a1w at h
 refine D5 rfl Tryz.func97 rfl rfl ?_
 let kr:=fun r:List Nod×Bool×Int=>a0H env 97 1 Tryz.f97.results.toList (a6q l1 o9 at3 o5 r)
 let jn1:Jn 14 (List Nod×Int):=⟨fun fr H z=>([(4,.st 1 D8 z.1)],[(0,.row [.sl p8 l1,.i o9,.i z.2,.i o5]),(1,.tip (tpe 10 (List.length z.1)) (List.length z.1))])⟩
 let jl1:Jn 5 (List Nod×Bool×Int):=⟨fun fr H z=>([(0,.ptr 0 0),(4,.st 1 D8 z.1),(5,.bool z.2.1)],[(0,.row [.sl p8 l1,.i o9,.i z.2.2,.i o5]),(1,.tip (tpe 10 (List.length z.1)) (List.length z.1))])⟩
 exact blk⟩
abbrev b03 (l1:List Nod)(l2:List Tok)(z8 at4 o8:Int)(p:Option (List Nod×Bool×Int)):Prop:=OkF env p 91 [.ptr 0 0,.st 1 D8 l1] [(0,.row [.sl p8 l2,.i z8,.i at4,.i o8]),(1,.tip (tpe 10 (List.length l1)) (List.length l1))] (a5y l1 l2 z8 at4 o8)
instance c0i {n:Nat}{l1:List Nod}{l2:List Tok}{z8 at4 o8:Int}:b03 l1 l2 z8 at4 o8 (a0o n l1 l2 z8 at4 o8):=⟨fun{r} h=>by
 unfold a0o at h
 refine D5 rfl Tryz.func91 rfl rfl ?_
 let kr:=fun r:List Nod×Bool×Int=>a0H env 91 2 Tryz.f91.results.toList (a5y l1 l2 z8 at4 o8 r)
 let jn1:Jn 17 (List Nod×Int):=⟨fun fr H z=>([(0,.ptr 0 0),(1,.st 1 D8 z.1)],[(0,.row [.sl p8 l2,.i z8,.i z.2,.i o8]),(1,.tip (tpe 10 (List.length z.1)) (List.length z.1))])⟩
 let jl1:Jn 4 (List Nod×Bool×Int):=⟨fun fr H z=>([(0,.ptr 0 0),(1,.st 1 D8 z.1),(6,.bool z.2.1)],[(0,.row [.sl p8 l2,.i z8,.i z.2.2,.i o8]),(1,.tip (tpe 10 (List.length z.1)) (List.length z.1))])⟩
 exact blk⟩
abbrev a4F (l1:List Tok)(o9 at3 o5:Int)(p:Option (Typ×Bool×Int)):Prop:=OkF env p 94 [.ptr 0 0] (hR p8 l1 o9 at3 o5) (a8c l1 o9 at3 o5)
abbrev a4c (l1:List Tok)(o9 at3 o5:Int)(p:Option (Typ×Bool×Int)):Prop:=OkF env p 128 [.ptr 0 0] (hR p8 l1 o9 at3 o5) (a7t l1 o9 at3 o5)
abbrev a3N (l1:List Tok)(o9 at3 o5:Int)(p:Option (List Typ×Bool×Int)):Prop:=OkF env p 96 [.ptr 0 0] (hR p8 l1 o9 at3 o5) (a7a l1 o9 at3 o5)
class p9.Ok (Φ:p9):Prop where
 F6:∀{l1:List Tok} {o9 at3 o5:Int},a4F l1 o9 at3 o5 (Φ.F6 l1 o9 at3 o5)
 Q0:∀{l1:List Tok} {o9 at3 o5:Int},a4c l1 o9 at3 o5 (Φ.Q0 l1 o9 at3 o5)
 O0:∀{l1:List Tok} {o9 at3 o5:Int},a3N l1 o9 at3 o5 (Φ.O0 l1 o9 at3 o5)
instance {Φ:p9} [h:p9.Ok Φ] {l1:List Tok}{o9 at3 o5:Int}:a4F l1 o9 at3 o5 (Φ.F6 l1 o9 at3 o5):=h.F6
instance {Φ:p9} [h:p9.Ok Φ] {l1:List Tok}{o9 at3 o5:Int}:a4c l1 o9 at3 o5 (Φ.Q0 l1 o9 at3 o5):=h.Q0
instance {Φ:p9} [h:p9.Ok Φ] {l1:List Tok}{o9 at3 o5:Int}:a3N l1 o9 at3 o5 (Φ.O0 l1 o9 at3 o5):=h.O0
theorem b3m (n:Nat){Φ:p9} [hΦ:p9.Ok Φ] {l1:List Tok}{o9 at3 o5:Int}:a4F l1 o9 at3 o5 (a3j n Φ l1 o9 at3 o5):=⟨fun{r} h=>by
 unfold a3j at h
 refine D5 rfl Tryz.func94 rfl rfl ?_
 let kr:=fun r:Typ×Bool×Int=>a0H env 94 1 Tryz.f94.results.toList (a8c l1 o9 at3 o5 r)
 let jn1:Jn 12 (Int×List Typ):=⟨fun fr H z=>([(0,.ptr 0 0),(2,.ptr 1 0),(6,.ptr 2 0)],[(0,.row [.sl p8 l1,.i o9,.i z.1,.i o5]),(1,.row [.i 0,.str [],.i 0,.slice (.tag 3) 0 []]),(2,.row [.i 10,.str [],.i 0,.st 4 C9 z.2]),(3,.tip 0 0),(4,.tip (tpe 4 (List.length z.2)) (List.length z.2))])⟩
 let jn2:Jn 30010 (Bool×Int):=⟨fun fr H z=>([(0,.ptr 0 0),(2,.ptr 1 0),(6,.ptr 2 0),(7,ow (.tag 3) (lk 35 fr)),(43,.bool z.1)],[(0,.row [.sl p8 l1,.i o9,.i z.2,.i o5]),(1,.row [.i 0,.str [],.i 0,.slice (.tag 4) 0 []]),(2,.row [.i 10,.str [],.i 0,.slice (.tag 5) 0 []]),(3,oH H 2240),(4,.tip 0 0),(5,.tip 0 0)])⟩
 let jn3:Jn 23 (Bool×Int×Typ):=⟨fun fr H z=>([(2,.ptr 1 0),(12,.ptr 2 0),(13,.bool z.1)],[(0,.row [.sl p8 l1,.i o9,.i z.2.1,.i o5]),(1,.row [.i 0,.str [],.i 0,.slice (.tag 3) 0 []]),(2,.row [.i z.2.2.kind,.str z.2.2.name,.i z.2.2.n,.sl C9 z.2.2.args]),(3,.tip 0 0)])⟩
 let jl1:Jn 18 (Bool×Int×Typ):=⟨fun fr H z=>([(0,.ptr 0 0),(2,.ptr 1 0),(12,.ptr 2 0),(13,.bool z.1)],[(0,.row [.sl p8 l1,.i o9,.i z.2.1,.i o5]),(1,.row [.i 0,.str [],.i 0,.slice (.tag 3) 0 []]),(2,.row [.i z.2.2.kind,.str z.2.2.name,.i z.2.2.n,.sl C9 z.2.2.args]),(3,.tip 0 0)])⟩
 let jn4:Jn 90074 (Bool×Int):=⟨fun fr H z=>([(0,.ptr 0 0),(2,.ptr 1 0),(12,.ptr 2 0),(13,(lk 13 fr)),(74,.bool z.1)],[(0,.row [.sl p8 l1,.i o9,.i z.2,.i o5]),(1,oH H 1),(2,oH H 2),(3,.tip 0 0)])⟩
 exact blk⟩
theorem b2z (n:Nat){Φ:p9} [hΦ:p9.Ok Φ] {l1:List Tok}{o9 at3 o5:Int}:a4c l1 o9 at3 o5 (a0m n Φ l1 o9 at3 o5):=⟨fun{r} h=>by
 unfold a0m at h
 refine D5 rfl Tryz.func128 rfl rfl ?_
 let kr:=fun r:Typ×Bool×Int=>a0H env 128 1 Tryz.f128.results.toList (a7t l1 o9 at3 o5 r)
 let jn1:Jn 11 (List Typ×Int):=⟨fun fr H z=>([(2,.ptr 1 0),(4,(lk 13 fr)),(6,.st 2 C9 z.1)],[(0,.row [.sl p8 l1,.i o9,.i z.2,.i o5]),(1,.row [.i 0,.str [],.i 0,.slice (.tag 3) 0 []]),(2,.tip (tpe 4 (List.length z.1)) (List.length z.1)),(3,.tip 0 0)])⟩
 let jn2:Jn 30009 (Bool×Int):=⟨fun fr H z=>([(2,.ptr 1 0),(4,(lk 13 fr)),(7,ow (.tag 2) (lk 23 fr)),(31,.bool z.1)],[(0,.row [.sl p8 l1,.i o9,.i z.2,.i o5]),(1,.row [.i 0,.str [],.i 0,.slice (.tag 3) 0 []]),(2,oH H 1472),(3,.tip 0 0)])⟩
 let jn3:Jn 24 (Int):=⟨fun fr H z=>([(2,.ptr 1 0),(4,(lk 4 fr)),(6,ow (.tag 2) (lk 6 fr)),(9,.i z)],[(0,oH H 0),(1,oH H 1),(2,oH H 2),(3,.tip 0 0)])⟩
 let jn4:Jn 30013 (Bool):=⟨fun fr H z=>([(2,.ptr 1 0),(4,(lk 4 fr)),(6,ow (.tag 2) (lk 6 fr)),(9,.i 6),(34,.bool z)],[(0,oH H 0),(1,oH H 1),(2,oH H 2),(3,.tip 0 0)])⟩
 let jn5:Jn 30015 (Bool):=⟨fun fr H z=>([(2,.ptr 1 0),(4,(lk 4 fr)),(6,ow (.tag 2) (lk 6 fr)),(9,.i 6),(42,.bool z)],[(0,oH H 0),(1,oH H 1),(2,oH H 2),(3,.tip 0 0)])⟩
 let jn6:Jn 30017 (Bool):=⟨fun fr H z=>([(2,.ptr 1 0),(4,(lk 4 fr)),(6,ow (.tag 2) (lk 6 fr)),(9,.i 6),(50,.bool z)],[(0,oH H 0),(1,oH H 1),(2,oH H 2),(3,.tip 0 0)])⟩
 let jn7:Jn 30019 (Bool):=⟨fun fr H z=>([(2,.ptr 1 0),(4,(lk 4 fr)),(6,ow (.tag 2) (lk 6 fr)),(9,.i 6),(58,.bool z)],[(0,oH H 0),(1,oH H 1),(2,oH H 2),(3,.tip 0 0)])⟩
 let jn8:Jn 30021 (Bool):=⟨fun fr H z=>([(2,.ptr 1 0),(4,(lk 4 fr)),(6,ow (.tag 2) (lk 6 fr)),(9,.i 6),(66,.bool z)],[(0,oH H 0),(1,oH H 1),(2,oH H 2),(3,.tip 0 0)])⟩
 let jn9:Jn 30023 (Bool):=⟨fun fr H z=>([(2,.ptr 1 0),(4,(lk 4 fr)),(6,ow (.tag 2) (lk 6 fr)),(9,.i 6),(74,.bool z)],[(0,oH H 0),(1,oH H 1),(2,oH H 2),(3,.tip 0 0)])⟩
 let jn10:Jn 26 (Str):=⟨fun fr H z=>([(2,.ptr 1 0),(4,.str z),(6,ow (.tag 2) (lk 6 fr)),(9,(lk 9 fr))],[(0,oH H 0),(1,oH H 1),(2,oH H 2),(3,.tip 0 0)])⟩
 exact blk⟩
theorem b1M (n:Nat){Φ:p9} [hΦ:p9.Ok Φ] {l1:List Tok}{o9 at3 o5:Int}:a3N l1 o9 at3 o5 (U4 n Φ l1 o9 at3 o5):=⟨fun{r} h=>by
 unfold U4 at h
 refine D5 rfl Tryz.func96 rfl rfl ?_
 let kr:=fun r:List Typ×Bool×Int=>a0H env 96 1 Tryz.f96.results.toList (a7a l1 o9 at3 o5 r)
 let jn1:Jn 10 (List Typ×Int):=⟨fun fr H z=>([(4,.st 1 C9 z.1)],[(0,.row [.sl p8 l1,.i o9,.i z.2,.i o5]),(1,.tip (tpe 4 (List.length z.1)) (List.length z.1))])⟩
 let jl1:Jn 3 (List Typ×Bool×Int):=⟨fun fr H z=>([(0,.ptr 0 0),(4,.st 1 C9 z.1),(5,.bool z.2.1)],[(0,.row [.sl p8 l1,.i o9,.i z.2.2,.i o5]),(1,.tip (tpe 4 (List.length z.1)) (List.length z.1))])⟩
 exact blk⟩
theorem p9.ok:∀n,p9.Ok (p9.fs n)
 | 0=>⟨⟨fun h=>by cases h⟩,⟨fun h=>by cases h⟩,⟨fun h=>by cases h⟩⟩
 | n+1=>have:=p9.ok n;⟨b3m n,b2z n,b1M n⟩
instance c5N {n:Nat}{l1:List Tok}{o9 at3 o5:Int}:a4F l1 o9 at3 o5 (F6 n l1 o9 at3 o5):=(p9.ok n).F6
instance c4w {n:Nat}{l1:List Tok}{o9 at3 o5:Int}:a4c l1 o9 at3 o5 (Q0 n l1 o9 at3 o5):=(p9.ok n).Q0
instance c3R {n:Nat}{l1:List Tok}{o9 at3 o5:Int}:a3N l1 o9 at3 o5 (O0 n l1 o9 at3 o5):=(p9.ok n).O0
abbrev b8K (p:Option (Unit)):Prop:=OkF env p 179 [] [] (b6i)
instance ref02_levels_I:b8K (a6W):=⟨fun{r} h=>by
 unfold a6W at h
 refine D5 rfl Tryz.func179 rfl rfl ?_
 exact blk⟩
abbrev b8L (s1:Str)(p:Option (Int)):Prop:=OkF env p 181 [.str s1] [] (b0Y s1)
instance ref02_number_I {n:Nat}{s1:Str}:b8L s1 (a1m n s1):=⟨fun{r} h=>by
 unfold a1m at h
 refine D5 rfl Tryz.func181 rfl rfl ?_
 let kr:=fun r:Int=>a0H env 181 0 Tryz.f181.results.toList (b0Y s1 r)
 let jn1:Jn 7 (Int):=⟨fun fr H z=>([(3,.i z)],[])⟩
 let jl1:Jn 3 (Int×Int):=⟨fun fr H z=>([(0,.str s1),(3,.i z.1),(4,.i z.2)],[])⟩
 exact blk⟩
abbrev b4a (l1:List Tok)(o9 at3 o5:Int)(p:Option (Nod×Bool×Int)):Prop:=OkF env p 218 [.ptr 0 0] (hR p8 l1 o9 at3 o5) (a7v l1 o9 at3 o5)
instance c4z {n:Nat}{l1:List Tok}{o9 at3 o5:Int}:b4a l1 o9 at3 o5 (a1q n l1 o9 at3 o5):=⟨fun{r} h=>by
 unfold a1q at h
 refine D5 rfl Tryz.func218 rfl rfl ?_
 let kr:=fun r:Nod×Bool×Int=>a0H env 218 1 Tryz.f218.results.toList (a7v l1 o9 at3 o5 r)
 let jn1:Jn 9 (Bool×Int×Int×Str×List Nod):=⟨fun fr H z=>([(2,.ptr 1 0),(6,.bool z.1),(7,.ptr 2 0)],[(0,.row [.sl p8 l1,.i o9,.i z.2.1,.i o5]),(1,.row [.i 0,.str [],.i 0,.i 0,.str [],.i 0,.slice (.tag 3) 0 [],.slice (.tag 4) 0 [],.slice (.tag 5) 0 [],.i 0]),(2,.row [.i z.2.2.1,.str z.2.2.2.1,.i 0,.i 0,.str [],.i 0,.slice (.tag 6) 0 [],.slice (.tag 7) 0 [],.st 8 D8 z.2.2.2.2,(lk 11 fr)]),(3,.tip 0 0),(4,.tip 0 0),(5,.tip 0 0),(6,.tip 0 0),(7,.tip 0 0),(8,.tip (tpe 10 (List.length z.2.2.2.2)) (List.length z.2.2.2.2))])⟩
 let jl1:Jn 4 (Bool×Int×Int×Str×List Nod):=⟨fun fr H z=>([(0,.ptr 0 0),(2,.ptr 1 0),(4,(lk 11 fr)),(6,.bool z.1),(7,.ptr 2 0)],[(0,.row [.sl p8 l1,.i o9,.i z.2.1,.i o5]),(1,.row [.i 0,.str [],.i 0,.i 0,.str [],.i 0,.slice (.tag 3) 0 [],.slice (.tag 4) 0 [],.slice (.tag 5) 0 [],.i 0]),(2,.row [.i z.2.2.1,.str z.2.2.2.1,.i 0,.i 0,.str [],.i 0,.slice (.tag 6) 0 [],.slice (.tag 7) 0 [],.st 8 D8 z.2.2.2.2,(lk 11 fr)]),(3,.tip 0 0),(4,.tip 0 0),(5,.tip 0 0),(6,.tip 0 0),(7,.tip 0 0),(8,.tip (tpe 10 (List.length z.2.2.2.2)) (List.length z.2.2.2.2))])⟩
 let jn2:Jn 90024 (Bool×Int):=⟨fun fr H z=>([(0,.ptr 0 0),(2,.ptr 1 0),(4,(lk 4 fr)),(6,(lk 6 fr)),(7,.ptr 2 0),(24,.bool z.1)],[(0,.row [.sl p8 l1,.i o9,.i z.2,.i o5]),(1,oH H 1),(2,oH H 2),(3,.tip 0 0),(4,.tip 0 0),(5,.tip 0 0),(6,.tip 0 0),(7,.tip 0 0),(8,oH H 8)])⟩
 exact blk⟩
abbrev b2H (l1:List Nod)(l2:List Tok)(z8 at4 o8:Int)(p:Option (List Nod×Bool×Int)):Prop:=OkF env p 99 [.ptr 0 0,.st 1 D8 l1] [(0,.row [.sl p8 l2,.i z8,.i at4,.i o8]),(1,.tip (tpe 10 (List.length l1)) (List.length l1))] (a6s l1 l2 z8 at4 o8)
instance c2e {n:Nat}{l1:List Nod}{l2:List Tok}{z8 at4 o8:Int}:b2H l1 l2 z8 at4 o8 (a0n n l1 l2 z8 at4 o8):=⟨fun{r} h=>by
 unfold a0n at h
 refine D5 rfl Tryz.func99 rfl rfl ?_
 let kr:=fun r:List Nod×Bool×Int=>a0H env 99 2 Tryz.f99.results.toList (a6s l1 l2 z8 at4 o8 r)
 let jn1:Jn 21 (List Nod×Int):=⟨fun fr H z=>([(0,.ptr 0 0),(1,.st 1 D8 z.1)],[(0,.row [.sl p8 l2,.i z8,.i z.2,.i o8]),(1,.tip (tpe 10 (List.length z.1)) (List.length z.1))])⟩
 let jl1:Jn 4 (List Nod×Bool×Int):=⟨fun fr H z=>([(0,.ptr 0 0),(1,.st 1 D8 z.1),(6,.bool z.2.1)],[(0,.row [.sl p8 l2,.i z8,.i z.2.2,.i o8]),(1,.tip (tpe 10 (List.length z.1)) (List.length z.1))])⟩
 let jn2:Jn 11 (Int×Int):=⟨fun fr H z=>([(0,.ptr 0 0),(1,ow (.tag 1) (lk 1 fr)),(7,.ptr 2 0)],[(0,.row [.sl p8 l2,.i z8,.i z.1,.i o8]),(1,oH H 1),(2,.row [.i 10,.str [],.i z.2,.i 0,.str [],.i 0,.slice (.tag 3) 0 [],.slice (.tag 4) 0 [],.slice (.tag 5) 0 [],(lk 18 fr)]),(3,.tip 0 0),(4,.tip 0 0),(5,.tip 0 0)])⟩
 let jn3:Jn 30013 (Bool×Int):=⟨fun fr H z=>([(0,.ptr 0 0),(1,ow (.tag 1) (lk 1 fr)),(7,.ptr 2 0),(8,(lk 29 fr)),(37,.bool z.1)],[(0,.row [.sl p8 l2,.i z8,.i z.2,.i o8]),(1,oH H 1),(2,oH H 2),(3,.tip 0 0),(4,.tip 0 0),(5,.tip 0 0)])⟩
 exact blk⟩
abbrev a2Y (l1:List Tok)(o9 at3 o5:Int)(p:Option (Nod×Bool×Int)):Prop:=OkF env p 170 [.ptr 0 0] (hR p8 l1 o9 at3 o5) (a5O l1 o9 at3 o5)
class G5.Ok (Φ:G5):Prop where
 L8:∀{l1:List Tok} {o9 at3 o5:Int},a2Y l1 o9 at3 o5 (Φ.L8 l1 o9 at3 o5)
instance {Φ:G5} [h:G5.Ok Φ] {l1:List Tok}{o9 at3 o5:Int}:a2Y l1 o9 at3 o5 (Φ.L8 l1 o9 at3 o5):=h.L8
theorem b0m (n:Nat){Φ:G5} [hΦ:G5.Ok Φ] {l1:List Tok}{o9 at3 o5:Int}:a2Y l1 o9 at3 o5 (a1s n Φ l1 o9 at3 o5):=⟨fun{r} h=>by
 unfold a1s at h
 refine D5 rfl Tryz.func170 rfl rfl ?_
 let kr:=fun r:Nod×Bool×Int=>a0H env 170 1 Tryz.f170.results.toList (a5O l1 o9 at3 o5 r)
 let jn1:Jn 44 (List Nod×Int):=⟨fun fr H z=>([(0,.ptr 0 0),(2,.ptr 1 0),(4,.ptr 2 0),(15,.st 3 D8 z.1)],[(0,.row [.sl p8 l1,.i o9,.i z.2,.i o5]),(1,.row [.i 0,.str [],.i 0,.i 0,.str [],.i 0,.slice (.tag 4) 0 [],.slice (.tag 5) 0 [],.slice (.tag 6) 0 [],.i 0]),(2,.row [.i 45,(lk 88 fr),.i 0,.i 0,.str [],.i 0,.slice (.tag 7) 0 [],.slice (.tag 8) 0 [],.slice (.tag 9) 0 [],(lk 21 fr)]),(3,.tip (tpe 10 (List.length z.1)) (List.length z.1)),(4,.tip 0 0),(5,.tip 0 0),(6,.tip 0 0),(7,.tip 0 0),(8,.tip 0 0),(9,.tip 0 0)])⟩
 let jl1:Jn 37 (List Nod×Bool×Int):=⟨fun fr H z=>([(0,.ptr 0 0),(2,.ptr 1 0),(4,.ptr 2 0),(15,.st 3 D8 z.1),(16,.bool z.2.1)],[(0,.row [.sl p8 l1,.i o9,.i z.2.2,.i o5]),(1,.row [.i 0,.str [],.i 0,.i 0,.str [],.i 0,.slice (.tag 4) 0 [],.slice (.tag 5) 0 [],.slice (.tag 6) 0 [],.i 0]),(2,.row [.i 45,(lk 88 fr),.i 0,.i 0,.str [],.i 0,.slice (.tag 7) 0 [],.slice (.tag 8) 0 [],.slice (.tag 9) 0 [],(lk 21 fr)]),(3,.tip (tpe 10 (List.length z.1)) (List.length z.1)),(4,.tip 0 0),(5,.tip 0 0),(6,.tip 0 0),(7,.tip 0 0),(8,.tip 0 0),(9,.tip 0 0)])⟩
 exact blk⟩
theorem G5.ok:∀n,G5.Ok (G5.fs n)
 | 0=>⟨⟨fun h=>by cases h⟩⟩
 | n+1=>have:=G5.ok n;⟨b0m n⟩
instance c1B {n:Nat}{l1:List Tok}{o9 at3 o5:Int}:a2Y l1 o9 at3 o5 (L8 n l1 o9 at3 o5):=(G5.ok n).L8
abbrev b9n (n1:Nod)(p:Option (Bool)):Prop:=OkF env p 171 [.agg (c0 n1.op n1.s n1.n n1.t.kind n1.t.name n1.t.n (.sl C9 n1.t.args) (.sl C9 n1.ts) (.sl D8 n1.l) n1.at_)] [] (b2a n1)
instance ref02_Place_I {n:Nat}{n1:Nod}:b9n n1 (a8a n n1):=⟨fun{r} h=>by
 unfold a8a at h
 obtain⟨n1_0,n1_1,n1_2,⟨n1_3,n1_4,n1_5,n1_6⟩,n1_7,n1_8,n1_9⟩:=n1
 refine D5 rfl Tryz.func171 rfl rfl ?_
 let kr:=fun r:Bool=>a0H env 171 0 Tryz.f171.results.toList (b2a (Nod.mk n1_0 n1_1 n1_2 (Typ.mk n1_3 n1_4 n1_5 n1_6) n1_7 n1_8 n1_9) r)
 let jn1:Jn 4 (Nod):=⟨fun fr H z=>([(1,.ptr 0 0)],[(0,.row (c0 z.op z.s z.n z.t.kind z.t.name z.t.n (.sl C9 z.t.args) (.sl C9 z.ts) (.sl D8 z.l) z.at_))])⟩
 let jl1:Jn 1 (Nod):=⟨fun fr H z=>([(1,.ptr 0 0)],[(0,.row (c0 z.op z.s z.n z.t.kind z.t.name z.t.n (.sl C9 z.t.args) (.sl C9 z.ts) (.sl D8 z.l) z.at_))])⟩
 let jn2:Jn 90011 (Bool):=⟨fun fr H z=>([(1,.ptr 0 0),(11,.bool z)],[(0,oH H 0)])⟩
 exact blk⟩
end Go.Proofs.YtcbjnilpecpbmaaGreatDoor
