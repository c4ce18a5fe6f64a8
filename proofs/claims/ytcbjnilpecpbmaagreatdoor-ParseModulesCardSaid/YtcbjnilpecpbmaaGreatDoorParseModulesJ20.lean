/- What the functions under ParseModules compute, step by step, as functions in Lean: texts that were built one by one, joined. -/
import Derived.Test.YtcbjnilpecpbmaaGreatDoorParseModulesJ19
set_option maxRecDepth 100000
set_option maxHeartbeats 20000000
set_option linter.unusedSimpArgs false
set_option linter.unusedVariables false
set_option linter.unusedSectionVars false
namespace Go.Proofs.YtcbjnilpecpbmaaGreatDoor
open Go Go.Vm
attribute [local irreducible] Go.Vm.Ev Go.Vm.Os Go.Vm.OsP Go.Vm.Lp Go.Vm.F4 Go.Vm.J8 Go.Vm.K3 Go.Vm.E
abbrev b0Z (body1:Bool)(l2:List Tok)(z8 at4 o8:Int)(p:Option (Nod×Bool×Int×Int)):Prop:=OkF env p 54 [.ptr 0 0,.bool body1] (hR p8 l2 z8 at4 o8) (a5x body1 l2 z8 at4 o8)
instance c0h {n:Nat}{body1:Bool}{l2:List Tok}{z8 at4 o8:Int}:b0Z body1 l2 z8 at4 o8 (P7 n body1 l2 z8 at4 o8):=⟨fun{r} h=>by
 unfold P7 at h
 refine D5 rfl Tryz.func54 rfl rfl ?_
 let kr:=fun r:Nod×Bool×Int×Int=>a0H env 54 1 Tryz.f54.results.toList (a5x body1 l2 z8 at4 o8 r)
 let jn1:Jn 30011 (Bool×Int):=⟨fun fr H z=>([(0,.ptr 0 0),(1,.bool body1),(4,.ptr 1 0),(6,.ptr 2 0),(9,ow (.tag 3) (lk 39 fr)),(47,.bool z.1)],[(0,.row [.sl p8 l2,.i z8,.i z.2,.i o8]),(1,.row [.i 0,.str [],.i 0,.i 0,.str [],.i 0,.slice (.tag 4) 0 [],.slice (.tag 5) 0 [],.slice (.tag 6) 0 [],.i 0]),(2,.row [.i 7,(lk 29 fr),.i 0,.i 4,.str [],.i 0,.slice (.tag 7) 0 [],.slice (.tag 8) 0 [],.slice (.tag 9) 0 [],(lk 19 fr)]),(3,oH H 2496),(4,.tip 0 0),(5,.tip 0 0),(6,.tip 0 0),(7,.tip 0 0),(8,.tip 0 0),(9,.tip 0 0)])⟩
 let jn2:Jn 25 (List Nod×Int):=⟨fun fr H z=>([(0,.ptr 0 0),(1,.bool body1),(4,.ptr 1 0),(6,.ptr 2 0),(9,.st 3 D8 z.1)],[(0,.row [.sl p8 l2,.i z8,.i z.2,.i o8]),(1,oH H 1),(2,oH H 2),(3,.tip (tpe 10 (List.length z.1)) (List.length z.1)),(4,.tip 0 0),(5,.tip 0 0),(6,.tip 0 0),(7,.tip 0 0),(8,.tip 0 0),(9,.tip 0 0)])⟩
 let jn3:Jn 30022 (Bool×Int):=⟨fun fr H z=>([(0,.ptr 0 0),(1,.bool body1),(4,.ptr 1 0),(6,.ptr 2 0),(9,ow (.tag 3) (lk 53 fr)),(11,.ptr 4 0),(12,.ptr 5 0),(80,.bool z.1)],[(0,.row [.sl p8 l2,.i z8,.i z.2,.i o8]),(1,.row [.i 0,.str [],.i 0,.i 0,.str [],.i 0,.slice (.tag 6) 0 [],.slice (.tag 7) 0 [],.slice (.tag 8) 0 [],.i 0]),(2,.row [.i 7,(cH H 2 1),.i 0,.i 4,.str [],.i 0,.slice (.tag 9) 0 [],.slice (.tag 10) 0 [],.slice (.tag 11) 0 [],(cH H 2 9)]),(3,oH H 3),(4,.row [.i 11,.str [],.i 0,.i 0,.str [],.i 0,.slice (.tag 12) 0 [],.slice (.tag 13) 0 [],.slice (.tag 14) 0 [],(lk 61 fr)]),(5,oH H 832),(6,.tip 0 0),(7,.tip 0 0),(8,.tip 0 0),(9,.tip 0 0),(10,.tip 0 0),(11,.tip 0 0),(12,.tip 0 0),(13,.tip 0 0),(14,.tip 0 0)])⟩
 let jn4:Jn 30 (Int×Int×Str×Int×List Typ):=⟨fun fr H z=>([(0,.ptr 0 0),(1,.bool body1),(4,.ptr 1 0),(6,.ptr 2 0),(9,ow (.tag 3) (lk 9 fr))],[(0,.row [.sl p8 l2,.i z8,.i z.1,.i o8]),(1,oH H 1),(2,.row [.i 7,(cH H 2 1),.i 0,.i z.2.1,.str z.2.2.1,.i z.2.2.2.1,.sl C9 z.2.2.2.2,.slice (.tag 7) 0 [],.slice (.tag 8) 0 [],(cH H 2 9)]),(3,oH H 3),(4,.tip 0 0),(5,.tip 0 0),(6,.tip 0 0),(7,.tip 0 0),(8,.tip 0 0)])⟩
 let jn5:Jn 39 (List Nod×Int×Int×Int):=⟨fun fr H z=>([(4,.ptr 1 0),(6,.ptr 2 0),(9,.st 3 D8 z.1)],[(0,.row [.sl p8 l2,.i z8,.i z.2.1,.i z.2.2.1]),(1,oH H 1),(2,.row [.i 7,(cH H 2 1),.i z.2.2.2,(cH H 2 3),(cH H 2 4),(cH H 2 5),ow .sealed (cH H 2 6),.slice (.tag 7) 0 [],.slice (.tag 8) 0 [],(cH H 2 9)]),(3,.tip (tpe 10 (List.length z.1)) (List.length z.1)),(4,.tip 0 0),(5,.tip 0 0),(6,.tip 0 0),(7,.tip 0 0),(8,.tip 0 0)])⟩
 exact blk⟩
abbrev b06 (n1:Nod)(l2:List Tok)(z8 at4 o8:Int)(p:Option (Nod×Bool×Int×Int)):Prop:=OkF env p 52 [.ptr 0 0,.agg (c0 n1.op n1.s n1.n n1.t.kind n1.t.name n1.t.n (.sl C9 n1.t.args) (.sl C9 n1.ts) (.sl D8 n1.l) n1.at_)] (hR p8 l2 z8 at4 o8) (a5z n1 l2 z8 at4 o8)
instance c0j {n:Nat}{n1:Nod}{l2:List Tok}{z8 at4 o8:Int}:b06 n1 l2 z8 at4 o8 (a1O n n1 l2 z8 at4 o8):=⟨fun{r} h=>by
 unfold a1O at h
 obtain⟨n1_0,n1_1,n1_2,⟨n1_3,n1_4,n1_5,n1_6⟩,n1_7,n1_8,n1_9⟩:=n1
 refine D5 rfl Tryz.func52 rfl rfl ?_
 let kr:=fun r:Nod×Bool×Int×Int=>a0H env 52 1 Tryz.f52.results.toList (a5z (Nod.mk n1_0 n1_1 n1_2 (Typ.mk n1_3 n1_4 n1_5 n1_6) n1_7 n1_8 n1_9) l2 z8 at4 o8 r)
 let jn1:Jn 30004 (Bool×Int):=⟨fun fr H z=>([(0,.ptr 0 0),(3,.ptr 1 0),(4,.ptr 2 0),(6,(lk 20 fr)),(28,.bool z.1)],[(0,.row [.sl p8 l2,.i z8,.i z.2,.i o8]),(1,oH H 256),(2,.row [.i 0,.str [],.i 0,.i 0,.str [],.i 0,.slice (.tag 3) 0 [],.slice (.tag 4) 0 [],.slice (.tag 5) 0 [],.i 0]),(3,.tip 0 0),(4,.tip 0 0),(5,.tip 0 0)])⟩
 let jn2:Jn 19 (List Nod×Int):=⟨fun fr H z=>([(0,.ptr 0 0),(3,.ptr 1 0),(4,.ptr 2 0),(8,.st 3 D8 z.1)],[(0,.row [.sl p8 l2,.i z8,.i z.2,.i o8]),(1,oH H 1),(2,.row [.i 0,.str [],.i 0,.i 0,.str [],.i 0,.slice (.tag 4) 0 [],.slice (.tag 5) 0 [],.slice (.tag 6) 0 [],.i 0]),(3,.tip (tpe 10 (List.length z.1)) (List.length z.1)),(4,.tip 0 0),(5,.tip 0 0),(6,.tip 0 0)])⟩
 let jl1:Jn 6 (List Nod×Int):=⟨fun fr H z=>([(0,.ptr 0 0),(3,.ptr 1 0),(4,.ptr 2 0),(8,.st 3 D8 z.1)],[(0,.row [.sl p8 l2,.i z8,.i z.2,.i o8]),(1,oH H 1),(2,.row [.i 0,.str [],.i 0,.i 0,.str [],.i 0,.slice (.tag 4) 0 [],.slice (.tag 5) 0 [],.slice (.tag 6) 0 [],.i 0]),(3,.tip (tpe 10 (List.length z.1)) (List.length z.1)),(4,.tip 0 0),(5,.tip 0 0),(6,.tip 0 0)])⟩
 let jn3:Jn 30016 (Bool×Int):=⟨fun fr H z=>([(0,.ptr 0 0),(3,.ptr 1 0),(4,.ptr 2 0),(8,ow (.tag 3) (lk 8 fr)),(9,.ptr 4 0),(12,ow .sealed (lk 52 fr)),(60,.bool z.1)],[(0,.row [.sl p8 l2,.i z8,.i z.2,.i o8]),(1,oH H 1),(2,.row [.i 0,.str [],.i 0,.i 0,.str [],.i 0,.slice (.tag 5) 0 [],.slice (.tag 6) 0 [],.slice (.tag 7) 0 [],.i 0]),(3,oH H 3),(4,.row [.i 16,(lk 42 fr),.i 0,.i 0,.str [],.i 0,.slice (.tag 8) 0 [],.slice (.tag 9) 0 [],.slice (.tag 10) 0 [],(lk 35 fr)]),(5,.tip 0 0),(6,.tip 0 0),(7,.tip 0 0),(8,.tip 0 0),(9,.tip 0 0),(10,.tip 0 0)])⟩
 let jn4:Jn 24 (List Nod×Int×Int):=⟨fun fr H z=>([(0,.ptr 0 0),(3,.ptr 1 0),(4,.ptr 2 0),(8,.st 3 D8 z.1)],[(0,.row [.sl p8 l2,.i z8,.i z.2.1,.i z.2.2]),(1,oH H 1),(2,oH H 2),(3,.tip (tpe 10 (List.length z.1)) (List.length z.1)),(4,.tip 0 0),(5,.tip 0 0),(6,.tip 0 0)])⟩
 let jl2:Jn 18 (List Nod×Int×Int):=⟨fun fr H z=>([(0,.ptr 0 0),(3,.ptr 1 0),(4,.ptr 2 0),(8,.st 3 D8 z.1)],[(0,.row [.sl p8 l2,.i z8,.i z.2.1,.i z.2.2]),(1,oH H 1),(2,oH H 2),(3,.tip (tpe 10 (List.length z.1)) (List.length z.1)),(4,.tip 0 0),(5,.tip 0 0),(6,.tip 0 0)])⟩
 let jn5:Jn 30022 (Bool×Int):=⟨fun fr H z=>([(0,.ptr 0 0),(3,.ptr 1 0),(4,.ptr 2 0),(8,ow (.tag 3) (lk 8 fr)),(14,.ptr 4 0),(81,.bool z.1)],[(0,.row [.sl p8 l2,.i z8,.i z.2,(cH H 0 3)]),(1,oH H 1),(2,.row [.i 0,.str [],.i 0,.i 0,.str [],.i 0,.slice (.tag 5) 0 [],.slice (.tag 6) 0 [],.slice (.tag 7) 0 [],.i 0]),(3,oH H 3),(4,oH H 960),(5,.tip 0 0),(6,.tip 0 0),(7,.tip 0 0)])⟩
 exact blk⟩
abbrev b2D (n1:Nod)(l2:List Tok)(z8 at4 o8:Int)(p:Option (Nod×Bool×Int×Int)):Prop:=OkF env p 53 [.ptr 0 0,.agg (c0 n1.op n1.s n1.n n1.t.kind n1.t.name n1.t.n (.sl C9 n1.t.args) (.sl C9 n1.ts) (.sl D8 n1.l) n1.at_)] (hR p8 l2 z8 at4 o8) (a6r n1 l2 z8 at4 o8)
instance c2b {n:Nat}{n1:Nod}{l2:List Tok}{z8 at4 o8:Int}:b2D n1 l2 z8 at4 o8 (a2J n n1 l2 z8 at4 o8):=⟨fun{r} h=>by
 unfold a2J at h
 obtain⟨n1_0,n1_1,n1_2,⟨n1_3,n1_4,n1_5,n1_6⟩,n1_7,n1_8,n1_9⟩:=n1
 refine D5 rfl Tryz.func53 rfl rfl ?_
 let kr:=fun r:Nod×Bool×Int×Int=>a0H env 53 1 Tryz.f53.results.toList (a6r (Nod.mk n1_0 n1_1 n1_2 (Typ.mk n1_3 n1_4 n1_5 n1_6) n1_7 n1_8 n1_9) l2 z8 at4 o8 r)
 let jn1:Jn 30004 (Bool×Int):=⟨fun fr H z=>([(0,.ptr 0 0),(3,.ptr 1 0),(4,.ptr 2 0),(6,.ptr 3 0),(31,.bool z.1)],[(0,.row [.sl p8 l2,.i z8,.i z.2,.i o8]),(1,oH H 256),(2,.row [.i 0,.str [],.i 0,.i 0,.str [],.i 0,.slice (.tag 4) 0 [],.slice (.tag 5) 0 [],.slice (.tag 6) 0 [],.i 0]),(3,oH H 448),(4,.tip 0 0),(5,.tip 0 0),(6,.tip 0 0)])⟩
 let jn2:Jn 30012 (Bool×Int):=⟨fun fr H z=>([(0,.ptr 0 0),(3,.ptr 1 0),(4,.ptr 2 0),(10,ow (.tag 3) (lk 48 fr)),(56,.bool z.1)],[(0,.row [.sl p8 l2,.i z8,.i z.2,.i o8]),(1,oH H 1),(2,oH H 2),(3,oH H 3072),(4,.tip 0 0),(5,.tip 0 0),(6,.tip 0 0)])⟩
 let jn3:Jn 25 (List Nod×Int):=⟨fun fr H z=>([(0,.ptr 0 0),(3,.ptr 1 0),(4,.ptr 2 0),(10,.st 3 D8 z.1)],[(0,.row [.sl p8 l2,.i z8,.i z.2,.i o8]),(1,oH H 1),(2,oH H 2),(3,.tip (tpe 10 (List.length z.1)) (List.length z.1)),(4,.tip 0 0),(5,.tip 0 0),(6,.tip 0 0)])⟩
 let jl1:Jn 12 (List Nod×Int):=⟨fun fr H z=>([(0,.ptr 0 0),(3,.ptr 1 0),(4,.ptr 2 0),(10,.st 3 D8 z.1)],[(0,.row [.sl p8 l2,.i z8,.i z.2,.i o8]),(1,oH H 1),(2,oH H 2),(3,.tip (tpe 10 (List.length z.1)) (List.length z.1)),(4,.tip 0 0),(5,.tip 0 0),(6,.tip 0 0)])⟩
 let jn4:Jn 30018 (Bool×Int):=⟨fun fr H z=>([(0,.ptr 0 0),(3,.ptr 1 0),(4,.ptr 2 0),(10,ow (.tag 3) (lk 10 fr)),(12,.ptr 4 0),(13,(lk 68 fr)),(76,.bool z.1)],[(0,.row [.sl p8 l2,.i z8,.i z.2,.i o8]),(1,oH H 1),(2,.row [.i 0,.str [],.i 0,.i 0,.str [],.i 0,.slice (.tag 5) 0 [],.slice (.tag 6) 0 [],.slice (.tag 7) 0 [],.i 0]),(3,oH H 3),(4,.row [.i 17,.str [],.i 0,.i 0,.str [],.i 0,.slice (.tag 8) 0 [],.slice (.tag 9) 0 [],.slice (.tag 10) 0 [],(lk 61 fr)]),(5,.tip 0 0),(6,.tip 0 0),(7,.tip 0 0),(8,.tip 0 0),(9,.tip 0 0),(10,.tip 0 0)])⟩
 let jn5:Jn 30022 (Bool×Int):=⟨fun fr H z=>([(0,.ptr 0 0),(3,.ptr 1 0),(4,.ptr 2 0),(10,ow (.tag 3) (lk 10 fr)),(12,.ptr 4 0),(15,.ptr 5 0),(91,.bool z.1)],[(0,.row [.sl p8 l2,.i z8,.i z.2,.i o8]),(1,oH H 1),(2,.row [.i 0,.str [],.i 0,.i 0,.str [],.i 0,.slice (.tag 6) 0 [],.slice (.tag 7) 0 [],.slice (.tag 8) 0 [],.i 0]),(3,oH H 3),(4,.row [.i 17,(lk 13 fr),.i 0,.i 0,.str [],.i 0,.slice (.tag 9) 0 [],.slice (.tag 10) 0 [],.slice (.tag 11) 0 [],(cH H 4 9)]),(5,oH H 1024),(6,.tip 0 0),(7,.tip 0 0),(8,.tip 0 0),(9,.tip 0 0),(10,.tip 0 0),(11,.tip 0 0)])⟩
 let jn6:Jn 30 (List Nod×Int×Int):=⟨fun fr H z=>([(0,.ptr 0 0),(3,.ptr 1 0),(4,.ptr 2 0),(10,.st 3 D8 z.1)],[(0,.row [.sl p8 l2,.i z8,.i z.2.1,.i z.2.2]),(1,oH H 1),(2,oH H 2),(3,.tip (tpe 10 (List.length z.1)) (List.length z.1)),(4,.tip 0 0),(5,.tip 0 0),(6,.tip 0 0)])⟩
 let jl2:Jn 24 (List Nod×Int×Int):=⟨fun fr H z=>([(0,.ptr 0 0),(3,.ptr 1 0),(4,.ptr 2 0),(10,.st 3 D8 z.1)],[(0,.row [.sl p8 l2,.i z8,.i z.2.1,.i z.2.2]),(1,oH H 1),(2,oH H 2),(3,.tip (tpe 10 (List.length z.1)) (List.length z.1)),(4,.tip 0 0),(5,.tip 0 0),(6,.tip 0 0)])⟩
 exact blk⟩
abbrev a9j (l1:List Tok)(o9 at3 o5:Int)(p:Option (Nod×Bool×Int×Int)):Prop:=OkF env p 19 [.ptr 0 0] (hR p8 l1 o9 at3 o5) (a4N l1 o9 at3 o5)
instance b8N {n:Nat}{l1:List Tok}{o9 at3 o5:Int}:a9j l1 o9 at3 o5 (a0j n l1 o9 at3 o5):=⟨fun{r} h=>by
 unfold a0j at h
 refine D5 rfl Tryz.func19 rfl rfl ?_
 let kr:=fun r:Nod×Bool×Int×Int=>a0H env 19 1 Tryz.f19.results.toList (a4N l1 o9 at3 o5 r)
 let jn1:Jn 5 (Int×Int):=⟨fun fr H z=>([(0,.ptr 0 0),(2,.ptr 1 0),(4,.ptr 2 0)],[(0,.row [.sl p8 l1,.i o9,.i z.1,.i o5]),(1,.row [.i 0,.str [],.i 0,.i 0,.str [],.i 0,.slice (.tag 3) 0 [],.slice (.tag 4) 0 [],.slice (.tag 5) 0 [],.i 0]),(2,.row [.i 0,.str [],.i z.2,.i 0,.str [],.i 0,.slice (.tag 6) 0 [],.slice (.tag 7) 0 [],.slice (.tag 8) 0 [],(lk 6 fr)]),(3,.tip 0 0),(4,.tip 0 0),(5,.tip 0 0),(6,.tip 0 0),(7,.tip 0 0),(8,.tip 0 0)])⟩
 let jn2:Jn 7 (Int×Int):=⟨fun fr H z=>([(0,.ptr 0 0),(2,.ptr 1 0),(4,.ptr 2 0)],[(0,.row [.sl p8 l1,.i o9,.i z.1,.i o5]),(1,oH H 1),(2,.row [.i 0,.str [],.i z.2,.i 0,.str [],.i 0,.slice (.tag 6) 0 [],.slice (.tag 7) 0 [],.slice (.tag 8) 0 [],(cH H 2 9)]),(3,.tip 0 0),(4,.tip 0 0),(5,.tip 0 0),(6,.tip 0 0),(7,.tip 0 0),(8,.tip 0 0)])⟩
 exact blk⟩
abbrev a8H (n1:Nod)(p:Option (Int×Int)):Prop:=OkF env p 20 [.agg (c0 n1.op n1.s n1.n n1.t.kind n1.t.name n1.t.n (.sl C9 n1.t.args) (.sl C9 n1.ts) (.sl D8 n1.l) n1.at_)] [] (b3k n1)
class Q9.Ok (Φ:Q9):Prop where
 a2x:∀{n1:Nod},a8H n1 (Φ.a2x n1)
instance {Φ:Q9} [h:Q9.Ok Φ] {n1:Nod}:a8H n1 (Φ.a2x n1):=h.a2x
theorem b8I (n:Nat){Φ:Q9} [hΦ:Q9.Ok Φ] {n1:Nod}:a8H n1 (a6U n Φ n1):=⟨fun{r} h=>by
 unfold a6U at h
 obtain⟨n1_0,n1_1,n1_2,⟨n1_3,n1_4,n1_5,n1_6⟩,n1_7,n1_8,n1_9⟩:=n1
 refine D5 rfl Tryz.func20 rfl rfl ?_
 let kr:=fun r:Int×Int=>a0H env 20 0 Tryz.f20.results.toList (b3k (Nod.mk n1_0 n1_1 n1_2 (Typ.mk n1_3 n1_4 n1_5 n1_6) n1_7 n1_8 n1_9) r)
 let jn1:Jn 9 (Int×Int):=⟨fun fr H z=>([(4,.i z.1),(5,.i z.2)],[])⟩
 let jl1:Jn 3 (Int×Int×Int):=⟨fun fr H z=>([(1,.ptr 0 0),(4,.i z.1),(5,.i z.2.1),(6,.i z.2.2)],[(0,oH H 128)])⟩
 exact blk⟩
theorem Q9.ok:∀n,Q9.Ok (Q9.fs n)
 | 0=>⟨⟨fun h=>by cases h⟩⟩
 | n+1=>have:=Q9.ok n;⟨b8I n⟩
instance ref02_Size_I {n:Nat}{n1:Nod}:a8H n1 (a2x n n1):=(Q9.ok n).a2x
abbrev b9o (t1:Tok)(p:Option (Int)):Prop:=OkF env p 55 [.agg [.i t1.kind,.str t1.text,.i t1.at_,.i t1.len]] [] (b66 t1)
instance ref02_brace_I {t1:Tok}:b9o t1 (a5j t1):=⟨fun{r} h=>by
 unfold a5j at h
 refine D5 rfl Tryz.func55 rfl rfl ?_
 exact blk⟩
abbrev b8J (t1:Tok)(p:Option (Bool)):Prop:=OkF env p 56 [.agg [.i t1.kind,.str t1.text,.i t1.at_,.i t1.len]] [] (b0X t1)
instance ref02_begins_I {t1:Tok}:b8J t1 (a6V t1):=⟨fun{r} h=>by
 unfold a6V at h
 refine D5 rfl Tryz.func56 rfl rfl ?_
 let kr:=fun r:Bool=>a0H env 56 0 Tryz.f56.results.toList (b0X t1 r)
 let jn1:Jn 30013 (Bool):=⟨fun fr H z=>([(8,.bool z)],[])⟩
 exact blk⟩
abbrev b5z (l1:List Tok)(a8q at3:Int)(p:Option (Int)):Prop:=OkF env p 22 [.sl p8 l1,.i a8q,.i at3] [] (a8s l1 a8q at3)
instance c68 {n:Nat}{l1:List Tok}{a8q at3:Int}:b5z l1 a8q at3 (a4O n l1 a8q at3):=⟨fun{r} h=>by
 unfold a4O at h
 refine D5 rfl Tryz.func22 rfl rfl ?_
 let kr:=fun r:Int=>a0H env 22 0 Tryz.f22.results.toList (a8s l1 a8q at3 r)
 let jn1:Jn 5 (Int):=⟨fun fr H z=>([(0,.sl p8 l1),(1,.i a8q),(7,.i z)],[])⟩
 let jn2:Jn 10 (Int×Int):=⟨fun fr H z=>([(0,.sl p8 l1),(7,.i z.1),(8,.i z.2)],[])⟩
 let jl1:Jn 6 (Int×Int×Int):=⟨fun fr H z=>([(0,.sl p8 l1),(7,.i z.1),(8,.i z.2.1),(9,.i z.2.2)],[])⟩
 let jn3:Jn 90025 (Bool):=⟨fun fr H z=>([(0,.sl p8 l1),(7,(lk 7 fr)),(8,(lk 8 fr)),(9,(lk 9 fr)),(25,.bool z)],[])⟩
 let jn4:Jn 13 (Int):=⟨fun fr H z=>([(0,.sl p8 l1),(7,.i z)],[])⟩
 let jl2:Jn 9 (Int×Int):=⟨fun fr H z=>([(0,.sl p8 l1),(7,.i z.1),(8,.i z.2)],[])⟩
 let jn5:Jn 90050 (Bool):=⟨fun fr H z=>([(0,.sl p8 l1),(7,(lk 7 fr)),(8,(lk 8 fr)),(50,.bool z)],[])⟩
 exact blk⟩
abbrev b8H (U8:Str)(p:Option (Nod×List Flt)):Prop:=OkF env p 7 [.str U8] [] (b0W U8)
instance ref02_Module_I {n:Nat}{U8:Str}:b8H U8 (a6T n U8):=⟨fun{r} h=>by
 unfold a6T at h
 have tokR18:∀s:Str,OkF env (a7M s) 18 [.str s] [] (b2b s):=fun s=>⟨fun{r} h=>by
  obtain⟨l2,c3,a4⟩:=r
  exact b6R h⟩
 refine D5 rfl Tryz.func7 rfl rfl ?_
 let kr:=fun r:Nod×List Flt=>a0H env 7 0 Tryz.f7.results.toList (b0W U8 r)
 let jn1:Jn 26 (List Flt×List Nod):=⟨fun fr H z=>([(2,.ptr 0 0),(7,.ptr 1 0),(9,.st 2 a5D z.1)],[(0,.row [.i 0,.str [],.i 0,.i 0,.str [],.i 0,.slice (.tag 3) 0 [],.slice (.tag 4) 0 [],.slice (.tag 5) 0 [],.i 0]),(1,.row [.i 1,.str [],.i 0,.i 0,.str [],.i 0,.slice (.tag 6) 0 [],.slice (.tag 7) 0 [],.st 8 D8 z.2,.i 0]),(2,.tip (tpe 2 (List.length z.1)) (List.length z.1)),(3,.tip 0 0),(4,.tip 0 0),(5,.tip 0 0),(6,.tip 0 0),(7,.tip 0 0),(8,.tip (tpe 10 (List.length z.2)) (List.length z.2))])⟩
 let jl1:Jn 8 (Int×List Flt×Int×Int×List Nod):=⟨fun fr H z=>([(2,.ptr 0 0),(4,ow .sealed (lk 19 fr)),(6,.ptr 1 0),(7,.ptr 2 0),(8,.i z.1),(9,.st 3 a5D z.2.1)],[(0,.row [.i 0,.str [],.i 0,.i 0,.str [],.i 0,.slice (.tag 4) 0 [],.slice (.tag 5) 0 [],.slice (.tag 6) 0 [],.i 0]),(1,.row [ow .sealed (lk 19 fr),.i (List.length U8:Int),.i z.2.2.1,.i z.2.2.2.1]),(2,.row [.i 1,.str [],.i 0,.i 0,.str [],.i 0,.slice (.tag 7) 0 [],.slice (.tag 8) 0 [],.st 9 D8 z.2.2.2.2,.i 0]),(3,.tip (tpe 2 (List.length z.2.1)) (List.length z.2.1)),(4,.tip 0 0),(5,.tip 0 0),(6,.tip 0 0),(7,.tip 0 0),(8,.tip 0 0),(9,.tip (tpe 10 (List.length z.2.2.2.2)) (List.length z.2.2.2.2))])⟩
 let jn2:Jn 90044 (Bool):=⟨fun fr H z=>([(2,.ptr 0 0),(4,ow .sealed (lk 4 fr)),(6,.ptr 1 0),(7,.ptr 2 0),(8,(lk 8 fr)),(9,ow (.tag 3) (lk 9 fr)),(44,.bool z)],[(0,oH H 0),(1,oH H 1),(2,oH H 2),(3,oH H 3),(4,.tip 0 0),(5,.tip 0 0),(6,.tip 0 0),(7,.tip 0 0),(8,.tip 0 0),(9,oH H 9)])⟩
 let jn3:Jn 25 (List Flt×Int):=⟨fun fr H z=>([(2,.ptr 0 0),(4,ow .sealed (lk 4 fr)),(6,.ptr 1 0),(7,.ptr 2 0),(8,(lk 8 fr)),(9,.st 3 a5D z.1),(10,(lk 48 fr))],[(0,oH H 0),(1,.row [ow .sealed (lk 4 fr),.i (List.length U8:Int),(cH H 1 2),.i z.2]),(2,oH H 2),(3,.tip (tpe 2 (List.length z.1)) (List.length z.1)),(4,.tip 0 0),(5,.tip 0 0),(6,.tip 0 0),(7,.tip 0 0),(8,.tip 0 0),(9,oH H 9)])⟩
 let ls:Nat->List Nat:=fun n=>cond (Nat.beq n 3) [384] ([])
 exact blk⟩
abbrev b4I (a1 b2:List Flt)(p:Option (Bool)):Prop:=OkF env p 8 [.sl a5D a1,.sl a5D b2] [] (a7U a1 b2)
instance c5n {n:Nat}{a1 b2:List Flt}:b4I a1 b2 (a5p n a1 b2):=⟨fun{r} h=>by
 unfold a5p at h
 refine D5 rfl Tryz.func8 rfl rfl ?_
 let kr:=fun r:Bool=>a0H env 8 0 Tryz.f8.results.toList (a7U a1 b2 r)
 let jn1:Jn 9 (Unit):=⟨fun fr H z=>([],[])⟩
 let jl1:Jn 4 (Int):=⟨fun fr H z=>([(0,.sl a5D a1),(1,.sl a5D b2),(5,.i z)],[])⟩
 exact blk⟩
abbrev a6S (a1 b2:Typ)(p:Option (Bool)):Prop:=OkF env p 23 [.agg [.i a1.kind,.str a1.name,.i a1.n,.sl C9 a1.args],.agg [.i b2.kind,.str b2.name,.i b2.n,.sl C9 b2.args]] [] (b6h a1 b2)
abbrev a5W (a1 b2:List Typ)(p:Option (Bool)):Prop:=OkF env p 24 [.sl C9 a1,.sl C9 b2] [] (a9T a1 b2)
class G9.Ok (Φ:G9):Prop where
 a0c:∀{a1 b2:Typ},a6S a1 b2 (Φ.a0c a1 b2)
 Y6:∀{a1 b2:List Typ},a5W a1 b2 (Φ.Y6 a1 b2)
instance {Φ:G9} [h:G9.Ok Φ] {a1 b2:Typ}:a6S a1 b2 (Φ.a0c a1 b2):=h.a0c
instance {Φ:G9} [h:G9.Ok Φ] {a1 b2:List Typ}:a5W a1 b2 (Φ.Y6 a1 b2):=h.Y6
theorem b6g (n:Nat){Φ:G9} [hΦ:G9.Ok Φ] {a1 b2:Typ}:a6S a1 b2 (a5i n Φ a1 b2):=⟨fun{r} h=>by
 unfold a5i at h
 obtain⟨a1_0,a1_1,a1_2,a1_3⟩:=a1
 obtain⟨b2_0,b2_1,b2_2,b2_3⟩:=b2
 refine D5 rfl Tryz.func23 rfl rfl ?_
 exact blk⟩
theorem b5y (n:Nat){Φ:G9} [hΦ:G9.Ok Φ] {a1 b2:List Typ}:a5W a1 b2 (a4L n Φ a1 b2):=⟨fun{r} h=>by
 unfold a4L at h
 refine D5 rfl Tryz.func24 rfl rfl ?_
 let kr:=fun r:Bool=>a0H env 24 0 Tryz.f24.results.toList (a9T a1 b2 r)
 let jn1:Jn 9 (Unit):=⟨fun fr H z=>([],[])⟩
 let jl1:Jn 4 (Int):=⟨fun fr H z=>([(0,.sl C9 a1),(1,.sl C9 b2),(5,.i z)],[])⟩
 exact blk⟩
theorem G9.ok:∀n,G9.Ok (G9.fs n)
 | 0=>⟨⟨fun h=>by cases h⟩,⟨fun h=>by cases h⟩⟩
 | n+1=>have:=G9.ok n;⟨b6g n,b5y n⟩
instance ref00_EqType_I {n:Nat}{a1 b2:Typ}:a6S a1 b2 (a0c n a1 b2):=(G9.ok n).a0c
instance c8k {n:Nat}{a1 b2:List Typ}:a5W a1 b2 (Y6 n a1 b2):=(G9.ok n).Y6
abbrev a6R (a1 b2:Nod)(at3:Bool)(p:Option (Bool)):Prop:=OkF env p 9 [.agg (c0 a1.op a1.s a1.n a1.t.kind a1.t.name a1.t.n (.sl C9 a1.t.args) (.sl C9 a1.ts) (.sl D8 a1.l) a1.at_),.agg (c0 b2.op b2.s b2.n b2.t.kind b2.t.name b2.t.n (.sl C9 b2.t.args) (.sl C9 b2.ts) (.sl D8 b2.l) b2.at_),.bool at3] [] (b0V a1 b2 at3)
abbrev a5V (a1 b2:List Nod)(at3:Bool)(p:Option (Bool)):Prop:=OkF env p 25 [.sl D8 a1,.sl D8 b2,.bool at3] [] (a9S a1 b2 at3)
class I5.Ok (Φ:I5):Prop where
 a0F:∀{a1 b2:Nod} {at3:Bool},a6R a1 b2 at3 (Φ.a0F a1 b2 at3)
 a1d:∀{a1 b2:List Nod} {at3:Bool},a5V a1 b2 at3 (Φ.a1d a1 b2 at3)
instance {Φ:I5} [h:I5.Ok Φ] {a1 b2:Nod}{at3:Bool}:a6R a1 b2 at3 (Φ.a0F a1 b2 at3):=h.a0F
instance {Φ:I5} [h:I5.Ok Φ] {a1 b2:List Nod}{at3:Bool}:a5V a1 b2 at3 (Φ.a1d a1 b2 at3):=h.a1d
theorem b6f (n:Nat){Φ:I5} [hΦ:I5.Ok Φ] {a1 b2:Nod}{at3:Bool}:a6R a1 b2 at3 (a5h n Φ a1 b2 at3):=⟨fun{r} h=>by
 unfold a5h at h
 obtain⟨a1_0,a1_1,a1_2,⟨a1_3,a1_4,a1_5,a1_6⟩,a1_7,a1_8,a1_9⟩:=a1
 obtain⟨b2_0,b2_1,b2_2,⟨b2_3,b2_4,b2_5,b2_6⟩,b2_7,b2_8,b2_9⟩:=b2
 refine D5 rfl Tryz.func9 rfl rfl ?_
 let kr:=fun r:Bool=>a0H env 9 0 Tryz.f9.results.toList (b0V (Nod.mk a1_0 a1_1 a1_2 (Typ.mk a1_3 a1_4 a1_5 a1_6) a1_7 a1_8 a1_9) (Nod.mk b2_0 b2_1 b2_2 (Typ.mk b2_3 b2_4 b2_5 b2_6) b2_7 b2_8 b2_9) at3 r)
 let jn1:Jn 30003 (Bool):=⟨fun fr H z=>([(2,.bool at3),(3,.ptr 0 0),(4,.ptr 1 0),(51,.bool z)],[(0,oH H 256),(1,oH H 320)])⟩
 exact blk⟩
theorem b5x (n:Nat){Φ:I5} [hΦ:I5.Ok Φ] {a1 b2:List Nod}{at3:Bool}:a5V a1 b2 at3 (a4K n Φ a1 b2 at3):=⟨fun{r} h=>by
 unfold a4K at h
 refine D5 rfl Tryz.func25 rfl rfl ?_
 let kr:=fun r:Bool=>a0H env 25 0 Tryz.f25.results.toList (a9S a1 b2 at3 r)
 let jn1:Jn 9 (Unit):=⟨fun fr H z=>([],[])⟩
 let jl1:Jn 4 (Int):=⟨fun fr H z=>([(0,.sl D8 a1),(1,.sl D8 b2),(2,.bool at3),(7,.i z)],[])⟩
 exact blk⟩
theorem I5.ok:∀n,I5.Ok (I5.fs n)
 | 0=>⟨⟨fun h=>by cases h⟩,⟨fun h=>by cases h⟩⟩
 | n+1=>have:=I5.ok n;⟨b6f n,b5x n⟩
instance ref00_EqNode_I {n:Nat}{a1 b2:Nod}{at3:Bool}:a6R a1 b2 at3 (a0F n a1 b2 at3):=(I5.ok n).a0F
instance c8j {n:Nat}{a1 b2:List Nod}{at3:Bool}:a5V a1 b2 at3 (a1d n a1 b2 at3):=(I5.ok n).a1d
abbrev b23 (U8:Str)(p:Option (Bool)):Prop:=OkF env p 3 [.str U8] [] (b1o U8)
instance b24 {n:Nat}{U8:Str}:b23 U8 (a4B n U8):=⟨fun{r} h=>by
 unfold a4B at h
 refine D5 rfl Tryz.func3 rfl rfl ?_
 exact blk⟩
end Go.Proofs.YtcbjnilpecpbmaaGreatDoor
namespace Go.Proofs.YtcbjnilpecpbmaaGreatDoor
open Go Go.Vm
theorem c7I (s:Str):E env (.call 3 [.str s]) []=some (.ret (.bool true) []):=b24.ok (c07 (n:=90000) (Nat.le_refl _) s)
end Go.Proofs.YtcbjnilpecpbmaaGreatDoor
