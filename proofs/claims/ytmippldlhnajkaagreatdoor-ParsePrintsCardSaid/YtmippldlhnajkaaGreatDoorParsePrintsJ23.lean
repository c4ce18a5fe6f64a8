/- Texts of ParsePrints, joined. -/
import Derived.Test.YtmippldlhnajkaaGreatDoorParsePrintsJ22
set_option maxRecDepth 100000
set_option maxHeartbeats 20000000
set_option linter.unusedSimpArgs false
set_option linter.unusedVariables false
set_option linter.unusedSectionVars false
namespace Go.Proofs.YtmippldlhnajkaaGreatDoor
open Go Go.Vm
attribute [local irreducible] Go.Vm.Ev Go.Vm.Os Go.Vm.OsP Go.Vm.Lp Go.Vm.E9 Go.Vm.J7 Go.Vm.J9 Go.Vm.E
abbrev b4L (n1:Nod)(l2:List Tok)(u6 at4 o9:Int)(p:Option (Nod×Bool×Int)):Prop:=OkF env p 97 [.ptr 0 0,.agg (c0 n1.op n1.s n1.n n1.t.kind n1.t.name n1.t.n (.sl w9 n1.t.args) (.sl w9 n1.ts) (.sl C8 n1.l) n1.at_)] (hR D8 l2 u6 at4 o9) (a7I n1 l2 u6 at4 o9)
instance c5K {n:Nat}{n1:Nod}{l2:List Tok}{u6 at4 o9:Int}:b4L n1 l2 u6 at4 o9 (a3X n n1 l2 u6 at4 o9):=⟨fun{r} h=>by
 unfold a3X at h;obtain⟨n1_0,n1_1,n1_2,⟨n1_3,n1_4,n1_5,n1_6⟩,n1_7,n1_8,n1_9⟩:=n1;refine A8 rfl Tryz.func97 rfl rfl ?_;let kr:=fun r:Nod×Bool×Int=>a0e env 97 1 Tryz.f97.results.toList (a7I (Nod.mk n1_0 n1_1 n1_2 (Typ.mk n1_3 n1_4 n1_5 n1_6) n1_7 n1_8 n1_9) l2 u6 at4 o9 r);let jn1:Jn 30008 (Bool×Int):=⟨fun fr H z=>([(0,.ptr 0 0),(3,.ptr 1 0),(4,.ptr 2 0),(8,ow (.tag 3) (lk 29 fr)),(37,.bool z.1)],[(0,.row [.sl D8 l2,.i u6,.i z.2,.i o9]),(1,oH H 256),(2,.row [.i 0,.str [],.i 0,.i 0,.str [],.i 0,.slice (.tag 4) 0 [],.slice (.tag 5) 0 [],.slice (.tag 6) 0 [],.i 0]),(3,oH H 1856),(4,.tip 0 0),(5,.tip 0 0),(6,.tip 0 0)])⟩
 let jn2:Jn 27 (List Nod×Int):=⟨fun fr H z=>([(0,.ptr 0 0),(3,.ptr 1 0),(4,.ptr 2 0),(8,.st 3 C8 z.1)],[(0,.row [.sl D8 l2,.i u6,.i z.2,.i o9]),(1,oH H 1),(2,oH H 2),(3,.tip (tpe 10 (List.length z.1)) (List.length z.1)),(4,.tip 0 0),(5,.tip 0 0),(6,.tip 0 0)])⟩
 let jl1:Jn 8 (List Nod×Int):=⟨fun fr H z=>([(0,.ptr 0 0),(3,.ptr 1 0),(4,.ptr 2 0),(8,.st 3 C8 z.1)],[(0,.row [.sl D8 l2,.i u6,.i z.2,.i o9]),(1,oH H 1),(2,oH H 2),(3,.tip (tpe 10 (List.length z.1)) (List.length z.1)),(4,.tip 0 0),(5,.tip 0 0),(6,.tip 0 0)])⟩
 let jn3:Jn 90044 (Bool):=⟨fun fr H z=>([(0,.ptr 0 0),(3,.ptr 1 0),(4,.ptr 2 0),(8,ow (.tag 3) (lk 8 fr)),(44,.bool z)],[(0,oH H 0),(1,oH H 1),(2,oH H 2),(3,oH H 3),(4,.tip 0 0),(5,.tip 0 0),(6,.tip 0 0)])⟩
 let jn4:Jn 13 (Int×Int):=⟨fun fr H z=>([(0,.ptr 0 0),(3,.ptr 1 0),(4,.ptr 2 0),(8,ow (.tag 3) (lk 8 fr)),(10,.ptr 4 0)],[(0,.row [.sl D8 l2,.i u6,.i z.1,.i o9]),(1,oH H 1),(2,.row [.i 0,.str [],.i 0,.i 0,.str [],.i 0,.slice (.tag 5) 0 [],.slice (.tag 6) 0 [],.slice (.tag 7) 0 [],.i 0]),(3,oH H 3),(4,.row [.i 14,.str [],.i z.2,.i 0,.str [],.i 0,.slice (.tag 8) 0 [],.slice (.tag 9) 0 [],.slice (.tag 10) 0 [],(lk 46 fr)]),(5,.tip 0 0),(6,.tip 0 0),(7,.tip 0 0),(8,.tip 0 0),(9,.tip 0 0),(10,.tip 0 0)])⟩
 let jn5:Jn 24 (Int×List Typ):=⟨fun fr H z=>([(0,.ptr 0 0),(3,.ptr 1 0),(4,.ptr 2 0),(8,ow (.tag 3) (lk 8 fr)),(10,.ptr 4 0)],[(0,.row [.sl D8 l2,.i u6,.i z.1,.i o9]),(1,oH H 1),(2,oH H 2),(3,oH H 3),(4,.row [.i 14,(lk 58 fr),(cH H 4 2),.i 0,.str [],.i 0,.slice (.tag 8) 0 [],.st 9 w9 z.2,.slice (.tag 10) 0 [],(cH H 4 9)]),(5,.tip 0 0),(6,.tip 0 0),(7,.tip 0 0),(8,.tip 0 0),(9,.tip (tpe 4 (List.length z.2)) (List.length z.2)),(10,.tip 0 0)])⟩
 let jn6:Jn 30022 (Bool×Int):=⟨fun fr H z=>([(0,.ptr 0 0),(3,.ptr 1 0),(4,.ptr 2 0),(8,ow (.tag 3) (lk 8 fr)),(10,.ptr 4 0),(13,ow (.tag 5) (lk 70 fr)),(78,.bool z.1)],[(0,.row [.sl D8 l2,.i u6,.i z.2,.i o9]),(1,oH H 1),(2,.row [.i 0,.str [],.i 0,.i 0,.str [],.i 0,.slice (.tag 6) 0 [],.slice (.tag 7) 0 [],.slice (.tag 8) 0 [],.i 0]),(3,oH H 3),(4,.row [.i 14,(lk 58 fr),(cH H 4 2),.i 0,.str [],.i 0,.slice (.tag 9) 0 [],.slice (.tag 10) 0 [],.slice (.tag 11) 0 [],(cH H 4 9)]),(5,oH H 4480),(6,.tip 0 0),(7,.tip 0 0),(8,.tip 0 0),(9,.tip 0 0),(10,.tip 0 0),(11,.tip 0 0)])⟩
 exact blk⟩
abbrev b1D (n1:Nod)(l2:List Tok)(u6 at4 o9:Int)(p:Option (Nod×Bool×Int×Int)):Prop:=OkF env p 98 [.ptr 0 0,.agg (c0 n1.op n1.s n1.n n1.t.kind n1.t.name n1.t.n (.sl w9 n1.t.args) (.sl w9 n1.ts) (.sl C8 n1.l) n1.at_)] (hR D8 l2 u6 at4 o9) (a6c n1 l2 u6 at4 o9)
instance c1s {n:Nat}{n1:Nod}{l2:List Tok}{u6 at4 o9:Int}:b1D n1 l2 u6 at4 o9 (a14 n n1 l2 u6 at4 o9):=⟨fun{r} h=>by
 unfold a14 at h;obtain⟨n1_0,n1_1,n1_2,⟨n1_3,n1_4,n1_5,n1_6⟩,n1_7,n1_8,n1_9⟩:=n1;refine A8 rfl Tryz.func98 rfl rfl ?_;let kr:=fun r:Nod×Bool×Int×Int=>a0e env 98 1 Tryz.f98.results.toList (a6c (Nod.mk n1_0 n1_1 n1_2 (Typ.mk n1_3 n1_4 n1_5 n1_6) n1_7 n1_8 n1_9) l2 u6 at4 o9 r);let jn1:Jn 30004 (Bool×Int):=⟨fun fr H z=>([(0,.ptr 0 0),(3,.ptr 1 0),(4,.ptr 2 0),(6,(lk 20 fr)),(28,.bool z.1)],[(0,.row [.sl D8 l2,.i u6,.i z.2,.i o9]),(1,oH H 256),(2,.row [.i 0,.str [],.i 0,.i 0,.str [],.i 0,.slice (.tag 3) 0 [],.slice (.tag 4) 0 [],.slice (.tag 5) 0 [],.i 0]),(3,.tip 0 0),(4,.tip 0 0),(5,.tip 0 0)])⟩
 let jn2:Jn 19 (List Nod×Int):=⟨fun fr H z=>([(0,.ptr 0 0),(3,.ptr 1 0),(4,.ptr 2 0),(8,.st 3 C8 z.1)],[(0,.row [.sl D8 l2,.i u6,.i z.2,.i o9]),(1,oH H 1),(2,.row [.i 0,.str [],.i 0,.i 0,.str [],.i 0,.slice (.tag 4) 0 [],.slice (.tag 5) 0 [],.slice (.tag 6) 0 [],.i 0]),(3,.tip (tpe 10 (List.length z.1)) (List.length z.1)),(4,.tip 0 0),(5,.tip 0 0),(6,.tip 0 0)])⟩
 let jl1:Jn 6 (List Nod×Int):=⟨fun fr H z=>([(0,.ptr 0 0),(3,.ptr 1 0),(4,.ptr 2 0),(8,.st 3 C8 z.1)],[(0,.row [.sl D8 l2,.i u6,.i z.2,.i o9]),(1,oH H 1),(2,.row [.i 0,.str [],.i 0,.i 0,.str [],.i 0,.slice (.tag 4) 0 [],.slice (.tag 5) 0 [],.slice (.tag 6) 0 [],.i 0]),(3,.tip (tpe 10 (List.length z.1)) (List.length z.1)),(4,.tip 0 0),(5,.tip 0 0),(6,.tip 0 0)])⟩
 let jn3:Jn 30016 (Bool×Int):=⟨fun fr H z=>([(0,.ptr 0 0),(3,.ptr 1 0),(4,.ptr 2 0),(8,ow (.tag 3) (lk 8 fr)),(9,.ptr 4 0),(12,ow .sealed (lk 52 fr)),(60,.bool z.1)],[(0,.row [.sl D8 l2,.i u6,.i z.2,.i o9]),(1,oH H 1),(2,.row [.i 0,.str [],.i 0,.i 0,.str [],.i 0,.slice (.tag 5) 0 [],.slice (.tag 6) 0 [],.slice (.tag 7) 0 [],.i 0]),(3,oH H 3),(4,.row [.i 16,(lk 42 fr),.i 0,.i 0,.str [],.i 0,.slice (.tag 8) 0 [],.slice (.tag 9) 0 [],.slice (.tag 10) 0 [],(lk 35 fr)]),(5,.tip 0 0),(6,.tip 0 0),(7,.tip 0 0),(8,.tip 0 0),(9,.tip 0 0),(10,.tip 0 0)])⟩
 let jn4:Jn 24 (List Nod×Int×Int):=⟨fun fr H z=>([(0,.ptr 0 0),(3,.ptr 1 0),(4,.ptr 2 0),(8,.st 3 C8 z.1)],[(0,.row [.sl D8 l2,.i u6,.i z.2.1,.i z.2.2]),(1,oH H 1),(2,oH H 2),(3,.tip (tpe 10 (List.length z.1)) (List.length z.1)),(4,.tip 0 0),(5,.tip 0 0),(6,.tip 0 0)])⟩
 let jl2:Jn 18 (List Nod×Int×Int):=⟨fun fr H z=>([(0,.ptr 0 0),(3,.ptr 1 0),(4,.ptr 2 0),(8,.st 3 C8 z.1)],[(0,.row [.sl D8 l2,.i u6,.i z.2.1,.i z.2.2]),(1,oH H 1),(2,oH H 2),(3,.tip (tpe 10 (List.length z.1)) (List.length z.1)),(4,.tip 0 0),(5,.tip 0 0),(6,.tip 0 0)])⟩
 let jn5:Jn 30022 (Bool×Int):=⟨fun fr H z=>([(0,.ptr 0 0),(3,.ptr 1 0),(4,.ptr 2 0),(8,ow (.tag 3) (lk 8 fr)),(14,.ptr 4 0),(81,.bool z.1)],[(0,.row [.sl D8 l2,.i u6,.i z.2,(cH H 0 3)]),(1,oH H 1),(2,.row [.i 0,.str [],.i 0,.i 0,.str [],.i 0,.slice (.tag 5) 0 [],.slice (.tag 6) 0 [],.slice (.tag 7) 0 [],.i 0]),(3,oH H 3),(4,oH H 960),(5,.tip 0 0),(6,.tip 0 0),(7,.tip 0 0)])⟩
 exact blk⟩
abbrev b3a (n1:Nod)(l2:List Tok)(u6 at4 o9:Int)(p:Option (Nod×Bool×Int×Int)):Prop:=OkF env p 99 [.ptr 0 0,.agg (c0 n1.op n1.s n1.n n1.t.kind n1.t.name n1.t.n (.sl w9 n1.t.args) (.sl w9 n1.ts) (.sl C8 n1.l) n1.at_)] (hR D8 l2 u6 at4 o9) (a6Q n1 l2 u6 at4 o9)
instance c3w {n:Nat}{n1:Nod}{l2:List Tok}{u6 at4 o9:Int}:b3a n1 l2 u6 at4 o9 (a2Y n n1 l2 u6 at4 o9):=⟨fun{r} h=>by
 unfold a2Y at h;obtain⟨n1_0,n1_1,n1_2,⟨n1_3,n1_4,n1_5,n1_6⟩,n1_7,n1_8,n1_9⟩:=n1;refine A8 rfl Tryz.func99 rfl rfl ?_;let kr:=fun r:Nod×Bool×Int×Int=>a0e env 99 1 Tryz.f99.results.toList (a6Q (Nod.mk n1_0 n1_1 n1_2 (Typ.mk n1_3 n1_4 n1_5 n1_6) n1_7 n1_8 n1_9) l2 u6 at4 o9 r);let jn1:Jn 30004 (Bool×Int):=⟨fun fr H z=>([(0,.ptr 0 0),(3,.ptr 1 0),(4,.ptr 2 0),(6,.ptr 3 0),(31,.bool z.1)],[(0,.row [.sl D8 l2,.i u6,.i z.2,.i o9]),(1,oH H 256),(2,.row [.i 0,.str [],.i 0,.i 0,.str [],.i 0,.slice (.tag 4) 0 [],.slice (.tag 5) 0 [],.slice (.tag 6) 0 [],.i 0]),(3,oH H 448),(4,.tip 0 0),(5,.tip 0 0),(6,.tip 0 0)])⟩
 let jn2:Jn 30012 (Bool×Int):=⟨fun fr H z=>([(0,.ptr 0 0),(3,.ptr 1 0),(4,.ptr 2 0),(10,ow (.tag 3) (lk 48 fr)),(56,.bool z.1)],[(0,.row [.sl D8 l2,.i u6,.i z.2,.i o9]),(1,oH H 1),(2,oH H 2),(3,oH H 3072),(4,.tip 0 0),(5,.tip 0 0),(6,.tip 0 0)])⟩
 let jn3:Jn 25 (List Nod×Int):=⟨fun fr H z=>([(0,.ptr 0 0),(3,.ptr 1 0),(4,.ptr 2 0),(10,.st 3 C8 z.1)],[(0,.row [.sl D8 l2,.i u6,.i z.2,.i o9]),(1,oH H 1),(2,oH H 2),(3,.tip (tpe 10 (List.length z.1)) (List.length z.1)),(4,.tip 0 0),(5,.tip 0 0),(6,.tip 0 0)])⟩
 let jl1:Jn 12 (List Nod×Int):=⟨fun fr H z=>([(0,.ptr 0 0),(3,.ptr 1 0),(4,.ptr 2 0),(10,.st 3 C8 z.1)],[(0,.row [.sl D8 l2,.i u6,.i z.2,.i o9]),(1,oH H 1),(2,oH H 2),(3,.tip (tpe 10 (List.length z.1)) (List.length z.1)),(4,.tip 0 0),(5,.tip 0 0),(6,.tip 0 0)])⟩
 let jn4:Jn 30018 (Bool×Int):=⟨fun fr H z=>([(0,.ptr 0 0),(3,.ptr 1 0),(4,.ptr 2 0),(10,ow (.tag 3) (lk 10 fr)),(12,.ptr 4 0),(13,(lk 68 fr)),(76,.bool z.1)],[(0,.row [.sl D8 l2,.i u6,.i z.2,.i o9]),(1,oH H 1),(2,.row [.i 0,.str [],.i 0,.i 0,.str [],.i 0,.slice (.tag 5) 0 [],.slice (.tag 6) 0 [],.slice (.tag 7) 0 [],.i 0]),(3,oH H 3),(4,.row [.i 17,.str [],.i 0,.i 0,.str [],.i 0,.slice (.tag 8) 0 [],.slice (.tag 9) 0 [],.slice (.tag 10) 0 [],(lk 61 fr)]),(5,.tip 0 0),(6,.tip 0 0),(7,.tip 0 0),(8,.tip 0 0),(9,.tip 0 0),(10,.tip 0 0)])⟩
 let jn5:Jn 30022 (Bool×Int):=⟨fun fr H z=>([(0,.ptr 0 0),(3,.ptr 1 0),(4,.ptr 2 0),(10,ow (.tag 3) (lk 10 fr)),(12,.ptr 4 0),(15,.ptr 5 0),(91,.bool z.1)],[(0,.row [.sl D8 l2,.i u6,.i z.2,.i o9]),(1,oH H 1),(2,.row [.i 0,.str [],.i 0,.i 0,.str [],.i 0,.slice (.tag 6) 0 [],.slice (.tag 7) 0 [],.slice (.tag 8) 0 [],.i 0]),(3,oH H 3),(4,.row [.i 17,(lk 13 fr),.i 0,.i 0,.str [],.i 0,.slice (.tag 9) 0 [],.slice (.tag 10) 0 [],.slice (.tag 11) 0 [],(cH H 4 9)]),(5,oH H 1024),(6,.tip 0 0),(7,.tip 0 0),(8,.tip 0 0),(9,.tip 0 0),(10,.tip 0 0),(11,.tip 0 0)])⟩
 let jn6:Jn 30 (List Nod×Int×Int):=⟨fun fr H z=>([(0,.ptr 0 0),(3,.ptr 1 0),(4,.ptr 2 0),(10,.st 3 C8 z.1)],[(0,.row [.sl D8 l2,.i u6,.i z.2.1,.i z.2.2]),(1,oH H 1),(2,oH H 2),(3,.tip (tpe 10 (List.length z.1)) (List.length z.1)),(4,.tip 0 0),(5,.tip 0 0),(6,.tip 0 0)])⟩
 let jl2:Jn 24 (List Nod×Int×Int):=⟨fun fr H z=>([(0,.ptr 0 0),(3,.ptr 1 0),(4,.ptr 2 0),(10,.st 3 C8 z.1)],[(0,.row [.sl D8 l2,.i u6,.i z.2.1,.i z.2.2]),(1,oH H 1),(2,oH H 2),(3,.tip (tpe 10 (List.length z.1)) (List.length z.1)),(4,.tip 0 0),(5,.tip 0 0),(6,.tip 0 0)])⟩
 exact blk⟩
abbrev a9P (l1:List Tok)(p8 at3 j4:Int)(p:Option (Nod×Bool×Int×Int)):Prop:=OkF env p 49 [.ptr 0 0] (hR D8 l1 p8 at3 j4) (a4Z l1 p8 at3 j4)
instance b9O {n:Nat}{l1:List Tok}{p8 at3 j4:Int}:a9P l1 p8 at3 j4 (a04 n l1 p8 at3 j4):=⟨fun{r} h=>by
 unfold a04 at h;refine A8 rfl Tryz.func49 rfl rfl ?_;let kr:=fun r:Nod×Bool×Int×Int=>a0e env 49 1 Tryz.f49.results.toList (a4Z l1 p8 at3 j4 r);let jn1:Jn 5 (Int×Int):=⟨fun fr H z=>([(0,.ptr 0 0),(2,.ptr 1 0),(4,.ptr 2 0)],[(0,.row [.sl D8 l1,.i p8,.i z.1,.i j4]),(1,.row [.i 0,.str [],.i 0,.i 0,.str [],.i 0,.slice (.tag 3) 0 [],.slice (.tag 4) 0 [],.slice (.tag 5) 0 [],.i 0]),(2,.row [.i 0,.str [],.i z.2,.i 0,.str [],.i 0,.slice (.tag 6) 0 [],.slice (.tag 7) 0 [],.slice (.tag 8) 0 [],(lk 6 fr)]),(3,.tip 0 0),(4,.tip 0 0),(5,.tip 0 0),(6,.tip 0 0),(7,.tip 0 0),(8,.tip 0 0)])⟩
 let jn2:Jn 7 (Int×Int):=⟨fun fr H z=>([(0,.ptr 0 0),(2,.ptr 1 0),(4,.ptr 2 0)],[(0,.row [.sl D8 l1,.i p8,.i z.1,.i j4]),(1,oH H 1),(2,.row [.i 0,.str [],.i z.2,.i 0,.str [],.i 0,.slice (.tag 6) 0 [],.slice (.tag 7) 0 [],.slice (.tag 8) 0 [],(cH H 2 9)]),(3,.tip 0 0),(4,.tip 0 0),(5,.tip 0 0),(6,.tip 0 0),(7,.tip 0 0),(8,.tip 0 0)])⟩
 exact blk⟩
abbrev c0t (t1:Tok)(p:Option (Int)):Prop:=OkF env p 101 [.agg [.i t1.kind,.str t1.text,.i t1.at_,.i t1.len]] [] (b7S t1)
instance ref02_brace_I {t1:Tok}:c0t t1 (a6O t1):=⟨fun{r} h=>by
 unfold a6O at h;refine A8 rfl Tryz.func101 rfl rfl ?_;exact blk⟩
abbrev b9H (t1:Tok)(p:Option (Bool)):Prop:=OkF env p 102 [.agg [.i t1.kind,.str t1.text,.i t1.at_,.i t1.len]] [] (b1v t1)
instance ref02_begins_I {t1:Tok}:b9H t1 (a7p t1):=⟨fun{r} h=>by
 unfold a7p at h;refine A8 rfl Tryz.func102 rfl rfl ?_;let kr:=fun r:Bool=>a0e env 102 0 Tryz.f102.results.toList (b1v t1 r);let jn1:Jn 30013 (Bool):=⟨fun fr H z=>([(8,.bool z)],[])⟩
 exact blk⟩
abbrev b6a (l1:List Tok)(a8F at3:Int)(p:Option (Int)):Prop:=OkF env p 50 [.sl D8 l1,.i a8F,.i at3] [] (a8N l1 a8F at3)
instance c8A {n:Nat}{l1:List Tok}{a8F at3:Int}:b6a l1 a8F at3 (a5a n l1 a8F at3):=⟨fun{r} h=>by
 unfold a5a at h;refine A8 rfl Tryz.func50 rfl rfl ?_;let kr:=fun r:Int=>a0e env 50 0 Tryz.f50.results.toList (a8N l1 a8F at3 r);let jn1:Jn 5 (Int):=⟨fun fr H z=>([(0,.sl D8 l1),(1,.i a8F),(7,.i z)],[])⟩
 let jn2:Jn 10 (Int×Int):=⟨fun fr H z=>([(0,.sl D8 l1),(7,.i z.1),(8,.i z.2)],[])⟩
 let jl1:Jn 6 (Int×Int×Int):=⟨fun fr H z=>([(0,.sl D8 l1),(7,.i z.1),(8,.i z.2.1),(9,.i z.2.2)],[])⟩
 let jn3:Jn 90025 (Bool):=⟨fun fr H z=>([(0,.sl D8 l1),(7,(lk 7 fr)),(8,(lk 8 fr)),(9,(lk 9 fr)),(25,.bool z)],[])⟩
 let jn4:Jn 13 (Int):=⟨fun fr H z=>([(0,.sl D8 l1),(7,.i z)],[])⟩
 let jl2:Jn 9 (Int×Int):=⟨fun fr H z=>([(0,.sl D8 l1),(7,.i z.1),(8,.i z.2)],[])⟩
 let jn5:Jn 90050 (Bool):=⟨fun fr H z=>([(0,.sl D8 l1),(7,(lk 7 fr)),(8,(lk 8 fr)),(50,.bool z)],[])⟩
 exact blk⟩
abbrev b9E (a5t:Str)(p:Option (Nod×List Flt)):Prop:=OkF env p 22 [.str a5t] [] (b1u a5t)
instance ref02_Module_I {n:Nat}{a5t:Str}:b9E a5t (a5S n a5t):=⟨fun{r} h=>by
 unfold a5S at h;refine A8 rfl Tryz.func22 rfl rfl ?_;let kr:=fun r:Nod×List Flt=>a0e env 22 0 Tryz.f22.results.toList (b1u a5t r);let jn1:Jn 26 (List Flt×List Nod):=⟨fun fr H z=>([(2,.ptr 0 0),(7,.ptr 1 0),(9,.st 2 b0c z.1)],[(0,.row [.i 0,.str [],.i 0,.i 0,.str [],.i 0,.slice (.tag 3) 0 [],.slice (.tag 4) 0 [],.slice (.tag 5) 0 [],.i 0]),(1,.row [.i 1,.str [],.i 0,.i 0,.str [],.i 0,.slice (.tag 6) 0 [],.slice (.tag 7) 0 [],.st 8 C8 z.2,.i 0]),(2,.tip (tpe 2 (List.length z.1)) (List.length z.1)),(3,.tip 0 0),(4,.tip 0 0),(5,.tip 0 0),(6,.tip 0 0),(7,.tip 0 0),(8,.tip (tpe 10 (List.length z.2)) (List.length z.2))])⟩
 let jl1:Jn 8 (Int×List Flt×Int×Int×List Nod):=⟨fun fr H z=>([(2,.ptr 0 0),(4,ow .sealed (lk 19 fr)),(6,.ptr 1 0),(7,.ptr 2 0),(8,.i z.1),(9,.st 3 b0c z.2.1)],[(0,.row [.i 0,.str [],.i 0,.i 0,.str [],.i 0,.slice (.tag 4) 0 [],.slice (.tag 5) 0 [],.slice (.tag 6) 0 [],.i 0]),(1,.row [ow .sealed (lk 19 fr),.i (List.length a5t:Int),.i z.2.2.1,.i z.2.2.2.1]),(2,.row [.i 1,.str [],.i 0,.i 0,.str [],.i 0,.slice (.tag 7) 0 [],.slice (.tag 8) 0 [],.st 9 C8 z.2.2.2.2,.i 0]),(3,.tip (tpe 2 (List.length z.2.1)) (List.length z.2.1)),(4,.tip 0 0),(5,.tip 0 0),(6,.tip 0 0),(7,.tip 0 0),(8,.tip 0 0),(9,.tip (tpe 10 (List.length z.2.2.2.2)) (List.length z.2.2.2.2))])⟩
 let jn2:Jn 90044 (Bool):=⟨fun fr H z=>([(2,.ptr 0 0),(4,ow .sealed (lk 4 fr)),(6,.ptr 1 0),(7,.ptr 2 0),(8,(lk 8 fr)),(9,ow (.tag 3) (lk 9 fr)),(44,.bool z)],[(0,oH H 0),(1,oH H 1),(2,oH H 2),(3,oH H 3),(4,.tip 0 0),(5,.tip 0 0),(6,.tip 0 0),(7,.tip 0 0),(8,.tip 0 0),(9,oH H 9)])⟩
 let jn3:Jn 25 (List Flt×Int):=⟨fun fr H z=>([(2,.ptr 0 0),(4,ow .sealed (lk 4 fr)),(6,.ptr 1 0),(7,.ptr 2 0),(8,(lk 8 fr)),(9,.st 3 b0c z.1),(10,(lk 48 fr))],[(0,oH H 0),(1,.row [ow .sealed (lk 4 fr),.i (List.length a5t:Int),(cH H 1 2),.i z.2]),(2,oH H 2),(3,.tip (tpe 2 (List.length z.1)) (List.length z.1)),(4,.tip 0 0),(5,.tip 0 0),(6,.tip 0 0),(7,.tip 0 0),(8,.tip 0 0),(9,oH H 9)])⟩
 let ls:Nat->List Nat:=fun n=>cond (Nat.beq n 3) [384] ([]);exact blk⟩
abbrev c2Y (a1 b2:Nod)(p:Option (Bool)):Prop:=OkF env p 23 [.agg (c0 a1.op a1.s a1.n a1.t.kind a1.t.name a1.t.n (.sl w9 a1.t.args) (.sl w9 a1.ts) (.sl C8 a1.l) a1.at_),.agg (c0 b2.op b2.s b2.n b2.t.kind b2.t.name b2.t.n (.sl w9 b2.t.args) (.sl w9 b2.ts) (.sl C8 b2.l) b2.at_)] [] (b9F a1 b2)
instance ref02_Same_I {n:Nat}{a1 b2:Nod}:c2Y a1 b2 (a9K n a1 b2):=⟨fun{r} h=>by
 unfold a9K at h;obtain⟨a1_0,a1_1,a1_2,⟨a1_3,a1_4,a1_5,a1_6⟩,a1_7,a1_8,a1_9⟩:=a1;obtain⟨b2_0,b2_1,b2_2,⟨b2_3,b2_4,b2_5,b2_6⟩,b2_7,b2_8,b2_9⟩:=b2;refine A8 rfl Tryz.func23 rfl rfl ?_;exact blk⟩
abbrev c0s (n1:Nod)(p:Option (Bool)):Prop:=OkF env p 6 [.agg (c0 n1.op n1.s n1.n n1.t.kind n1.t.name n1.t.n (.sl w9 n1.t.args) (.sl w9 n1.ts) (.sl C8 n1.l) n1.at_)] [] (b2I n1)
instance ref02_Valid_I {n:Nat}{n1:Nod}:c0s n1 (a8r n n1):=⟨fun{r} h=>by
 unfold a8r at h;obtain⟨n1_0,n1_1,n1_2,⟨n1_3,n1_4,n1_5,n1_6⟩,n1_7,n1_8,n1_9⟩:=n1;refine A8 rfl Tryz.func6 rfl rfl ?_;let kr:=fun r:Bool=>a0e env 6 0 Tryz.f6.results.toList (b2I (Nod.mk n1_0 n1_1 n1_2 (Typ.mk n1_3 n1_4 n1_5 n1_6) n1_7 n1_8 n1_9) r);let jn1:Jn 30006 (Bool):=⟨fun fr H z=>([(1,.ptr 0 0),(25,.bool z)],[(0,oH H 128)])⟩
 exact blk⟩
abbrev a5P (t1:Typ)(p:Option (List Typ)):Prop:=OkF env p 25 [.agg [.i t1.kind,.str t1.name,.i t1.n,.sl w9 t1.args]] [] (b5q t1)
abbrev a5o (l1:List Typ)(p:Option (List Typ)):Prop:=OkF env p 26 [.sl w9 l1] [] (a8L l1)
class F6.Ok (Φ:F6):Prop where
 Z6:∀{t1:Typ},a5P t1 (Φ.Z6 t1)
 Y8:∀{l1:List Typ},a5o l1 (Φ.Y8 l1)
instance {Φ:F6} [h:F6.Ok Φ] {t1:Typ}:a5P t1 (Φ.Z6 t1):=h.Z6
instance {Φ:F6} [h:F6.Ok Φ] {l1:List Typ}:a5o l1 (Φ.Y8 l1):=h.Y8
theorem b5p (n:Nat){Φ:F6} [hΦ:F6.Ok Φ] {t1:Typ}:a5P t1 (a4C n Φ t1):=⟨fun{r} h=>by
 unfold a4C at h;obtain⟨t1_0,t1_1,t1_2,t1_3⟩:=t1;refine A8 rfl Tryz.func25 rfl rfl ?_;exact blk⟩
theorem b4J (n:Nat){Φ:F6} [hΦ:F6.Ok Φ] {l1:List Typ}:a5o l1 (a3T n Φ l1):=⟨fun{r} h=>by
 unfold a3T at h;refine A8 rfl Tryz.func26 rfl rfl ?_;let kr:=fun r:List Typ=>a0e env 26 0 Tryz.f26.results.toList (a8L l1 r);let jn1:Jn 7 (List Typ):=⟨fun fr H z=>([(3,.st 0 w9 z)],[(0,.tip (tpe 4 (List.length z)) (List.length z))])⟩
 let jl1:Jn 3 (List Typ×Int):=⟨fun fr H z=>([(0,.sl w9 l1),(3,.st 0 w9 z.1),(4,.i z.2)],[(0,.tip (tpe 4 (List.length z.1)) (List.length z.1))])⟩
 exact blk⟩
theorem F6.ok:∀n,F6.Ok (F6.fs n)
 | 0=>⟨⟨fun h=>by cases h⟩,⟨fun h=>by cases h⟩⟩
 | n+1=>have:=F6.ok n;⟨b5p n,b4J n⟩
instance c9B {n:Nat}{t1:Typ}:a5P t1 (Z6 n t1):=(F6.ok n).Z6
instance c8x {n:Nat}{l1:List Typ}:a5o l1 (Y8 n l1):=(F6.ok n).Y8
abbrev a5O (n1:Nod)(p:Option (Nod)):Prop:=OkF env p 8 [.agg (c0 n1.op n1.s n1.n n1.t.kind n1.t.name n1.t.n (.sl w9 n1.t.args) (.sl w9 n1.ts) (.sl C8 n1.l) n1.at_)] [] (b5o n1)
abbrev a5n (l1:List Nod)(p:Option (List Nod)):Prop:=OkF env p 27 [.sl C8 l1] [] (a8K l1)
class F5.Ok (Φ:F5):Prop where
 Z5:∀{n1:Nod},a5O n1 (Φ.Z5 n1)
 a0D:∀{l1:List Nod},a5n l1 (Φ.a0D l1)
instance {Φ:F5} [h:F5.Ok Φ] {n1:Nod}:a5O n1 (Φ.Z5 n1):=h.Z5
instance {Φ:F5} [h:F5.Ok Φ] {l1:List Nod}:a5n l1 (Φ.a0D l1):=h.a0D
theorem b5n (n:Nat){Φ:F5} [hΦ:F5.Ok Φ] {n1:Nod}:a5O n1 (a4B n Φ n1):=⟨fun{r} h=>by
 unfold a4B at h;obtain⟨n1_0,n1_1,n1_2,⟨n1_3,n1_4,n1_5,n1_6⟩,n1_7,n1_8,n1_9⟩:=n1;refine A8 rfl Tryz.func8 rfl rfl ?_;exact blk⟩
theorem b4I (n:Nat){Φ:F5} [hΦ:F5.Ok Φ] {l1:List Nod}:a5n l1 (a3S n Φ l1):=⟨fun{r} h=>by
 unfold a3S at h;refine A8 rfl Tryz.func27 rfl rfl ?_;let kr:=fun r:List Nod=>a0e env 27 0 Tryz.f27.results.toList (a8K l1 r);let jn1:Jn 7 (List Nod):=⟨fun fr H z=>([(3,.st 0 C8 z)],[(0,.tip (tpe 10 (List.length z)) (List.length z))])⟩
 let jl1:Jn 3 (List Nod×Int):=⟨fun fr H z=>([(0,.sl C8 l1),(3,.st 0 C8 z.1),(4,.i z.2)],[(0,.tip (tpe 10 (List.length z.1)) (List.length z.1))])⟩
 exact blk⟩
theorem F5.ok:∀n,F5.Ok (F5.fs n)
 | 0=>⟨⟨fun h=>by cases h⟩,⟨fun h=>by cases h⟩⟩
 | n+1=>have:=F5.ok n;⟨b5n n,b4I n⟩
instance c9A {n:Nat}{n1:Nod}:a5O n1 (Z5 n n1):=(F5.ok n).Z5
instance c8w {n:Nat}{l1:List Nod}:a5n l1 (a0D n l1):=(F5.ok n).a0D
abbrev b4C (n1:Nod)(p:Option (Bool)):Prop:=OkF env p 3 [.agg (c0 n1.op n1.s n1.n n1.t.kind n1.t.name n1.t.n (.sl w9 n1.t.args) (.sl w9 n1.ts) (.sl C8 n1.l) n1.at_)] [] (a7E n1)
instance b4D {n:Nat}{n1:Nod}:b4C n1 (a5i n n1):=⟨fun{r} h=>by
 unfold a5i at h;obtain⟨n1_0,n1_1,n1_2,⟨n1_3,n1_4,n1_5,n1_6⟩,n1_7,n1_8,n1_9⟩:=n1;refine A8 rfl Tryz.func3 rfl rfl ?_;let kr:=fun r:Bool=>a0e env 3 0 Tryz.f3.results.toList (a7E (Nod.mk n1_0 n1_1 n1_2 (Typ.mk n1_3 n1_4 n1_5 n1_6) n1_7 n1_8 n1_9) r);let jn1:Jn 30003 (Bool):=⟨fun fr H z=>([(1,.ptr 0 0),(10,.bool z)],[(0,oH H 128)])⟩
 exact blk⟩
end Go.Proofs.YtmippldlhnajkaaGreatDoor
namespace Go.Proofs.YtmippldlhnajkaaGreatDoor
open Go Go.Vm Pr
theorem a4j {a:Int}(h1:-9223372036854775808<=a)(h2:a<=9223372036854775807):w64 a=a:=by
 unfold w64;simp only[IntKind.wrap,IntKind.bits,IntKind.signed];simp;omega
theorem L6 {k:Nat}(h:k<=1000000000000):w64 ((k:Int)+1) =((k+1:Nat):Int):=by rw[a4j (by omega) (by omega)];rfl
theorem c09 (a b:Int):ltB a b=decide (a<b):=by unfold ltB;rfl
theorem leB_d (a b:Int):leB a b=decide (a<=b):=by unfold leB;rfl
theorem a0j (a b:Int):eqB a b=decide (a=b):=by unfold eqB;rfl
theorem R4 {a b:Int}(h:a<b):ltB a b=true:=by simp[ltB,h]
theorem O8 {a b:Int}(h:¬a<b):ltB a b=false:=by simp[ltB,h]
theorem leB_t {a b:Int}(h:a<=b):leB a b=true:=by simp[leB,h]
theorem leB_f {a b:Int}(h:¬a<=b):leB a b=false:=by simp[leB,h]
theorem a1s {a b:Int}(h:a=b):eqB a b=true:=by simp[eqB,h]
theorem a0i {a b:Int}(h:¬a=b):eqB a b=false:=by simp[eqB,h]
theorem b0X (s:Str):eqS s s=true:=by simp[eqS]
theorem eqS_cons (a:UInt8)(r:Str):eqS (a::r) []=false:=by simp[eqS]
theorem O3 {α:Type}{l:List α}{i:Nat}(h:i<l.length):idx' l (i:Int)=some l[i]:=by
 have h1:inR (i:Int) l.length=true:=by simp[inR,h]
 simp[idx',h1,h]
theorem c1P {α:Type}{b:Nat}{l m:List α}(h:(l.length+m.length)*(b+1)<=70368744177664):app b l m=some (l++m):=by
 unfold app leN;rw[decide_eq_true h]
theorem b6l {α:Type}{l:List α}{a b:Nat}(h1:a<=b)(h2:b<=l.length):b2x l (a:Int) (b:Int)=some ((l.take b).drop a):=by
 have h:inI (a:Int) (b:Int) l.length=true:=by simp[inI,h1,h2]
 simp[b2x,h]
theorem drop_eq {α:Type}{l:List α}{i:Nat}(h:i<l.length):l.drop i=l[i]::l.drop (i+1):=List.drop_eq_getElem_cons h
def S2 {A B:Type}(Q:A->B->Prop)(p:Option A)(r:Option B):Prop:=∃a b,p=some a/\r=some b/\Q a b
theorem S2mk {A B:Type}{Q:A->B->Prop}{a:A}{b:B}(h:Q a b):S2 Q (some a) (some b):=⟨a,b,rfl,rfl,h⟩
theorem S2imp {A B:Type}{Q R:A->B->Prop}{p:Option A}{r:Option B}(h:S2 Q p r)(hi:∀a b,Q a b->R a b):S2 R p r:=by
 obtain⟨a,b,h1,h2,h3⟩:=h;exact⟨a,b,h1,h2,hi a b h3⟩
def bS {α ρ β:Type}(x:Option (Lr α ρ))(f:α->Option β)(o:ρ->Option β):Option β:=match x with
 | none=>none
 | some (.brk a)=>f a
 | some (.out r)=>o r
def wt:List Str->Nat | []=>0|s::r=>s.length+1+wt r
theorem c3o:wt []=0:=rfl
theorem wt_cons (s:Str)(r:List Str):wt (s::r)=s.length+1+wt r:=rfl
theorem c1G:∀a b:List Str,wt (a++b)=wt a+wt b
 | [],b=>by simp[wt]
 | x::a,b=>by rw[List.cons_append,wt,wt,c1G a b];omega
theorem c3n:∀l:List Str,l.length<=wt l
 | []=>Nat.le_refl _
 | x::r=>by have:=c3n r;simp only[wt,List.length_cons];omega
def E2 (d c:Nat)(w a b:List Str):Prop:=a=b/\wt a+d<=wt w+c
section
variable {A B:Type} {Q:A->B->Prop}
theorem a6r {d c:Nat}{w:List Str}{p r:Option (List Str)}{f:List Str->Option A}{g:List Str->Option B}(H:S2 (E2 d c w) p r)(h:∀w':List Str,wt w'+d<=wt w+c->S2 Q (f w') (g w')):S2 Q (p.bind f) (r.bind g):=by
 obtain⟨a,b,rfl,rfl,rfl,hq⟩:=H;exact h a hq
theorem b8m {l m:List Str}(h1:wt l<=4000000000000)(h2:m.length<=100):app 16 l m=some (l++m):=by
 have:=c3n l;refine c1P ?_;omega
theorem a5j {l m:List Str}{f:List Str->Option A}{R:Option B}(h1:wt l<=4000000000000)(h2:m.length<=100)(h:S2 Q (f (l++m)) R):S2 Q ((j5 m l).bind f) R:=by
 unfold j5;rw[b8m h1 h2];exact h
theorem a5m {l m:List Str}{f:List Str->Option B}{R:Option A}(h1:wt l<=4000000000000)(h2:m.length<=100)(h:S2 Q R (f (l++m))):S2 Q R ((app 16 l m).bind f):=by
 rw[b8m h1 h2];exact h
theorem e2_ok {d c:Nat}{w a b:List Str}(h1:a=b)(h2:wt a+d<=wt w+c):S2 (E2 d c w) (some a) (some b):=S2mk ⟨h1,h2⟩
end
theorem NF:(∀{α β γ:Type} (x:Option α) (f:α->Option β) (g:β->Option γ),(x.bind f).bind g=x.bind fun a=>(f a).bind g) /\
  (∀{α β:Type} (a:α) (f:α->Option β),(some a).bind f=f a)/\(∀{α:Type} (a b:α),cond true a b=a)/\(∀{α:Type} (a b:α),cond false a b=b)/\(!true)=false/\(!false)=true /\
  (∀{α ρ:Type} (x:Option (Lr α ρ)) (k:α->Option ρ),a1c x k=bS x k some) /\
  (∀{α γ ρ:Type} (x:Option (Lr α ρ)) (k:α->Option (Lr γ ρ)),b8u x k=bS x k fun r=>some (.out r)) /\
  (∀{α ρ β δ:Type} (x:Option δ) (f:δ->Option (Lr α ρ)) (h:α->Option β) (o:ρ->Option β),bS (x.bind f) h o=x.bind fun a=>bS (f a) h o) /\
  (∀{α ρ β δ ε:Type} (x:Option (Lr δ ε)) (f:δ->Option (Lr α ρ)) (g:ε->Option (Lr α ρ)) (h:α->Option β) (o:ρ->Option β),bS (bS x f g) h o=bS x (fun a=>bS (f a) h o) fun b=>bS (g b) h o) /\
  (∀{α ρ β γ:Type} (x:Option (Lr α ρ)) (f:α->Option β) (o:ρ->Option β) (h:β->Option γ),(bS x f o).bind h=bS x (fun a=>(f a).bind h) fun b=>(o b).bind h) /\
  (∀{α ρ β:Type} (a:α) (f:α->Option β) (o:ρ->Option β),bS (some (.brk a)) f o=f a)/\(∀{α ρ β:Type} (r:ρ) (f:α->Option β) (o:ρ->Option β),bS (some (.out r)) f o=o r):=by
 refine⟨fun x f g=>?_,fun _ _=>rfl,fun _ _=>rfl,fun _ _=>rfl,rfl,rfl,fun x f=>?_,fun x f=>?_,fun x f h o=>?_,fun x f g h o=>?_,fun x f o h=>?_,fun _ _ _=>rfl,fun _ _ _=>rfl⟩<;>(rcases x with _|x)<;>first|rfl |(cases x<;>rfl)
theorem b8A {d c d' c':Nat}{w w':List Str}{p r:Option (List Str)}(H:S2 (E2 d c w) p r)(h:∀x:Nat,x+d<=wt w+c->x+d'<=wt w'+c'):S2 (E2 d' c' w') p r:=S2imp H fun a b h1=>⟨h1.1,h _ h1.2⟩
theorem WT:(∀a b:List Str,wt (a++b)=wt a+wt b)/\(∀(s:Str) (r:List Str),wt (s::r)=s.length+1+wt r)/\wt []=0/\(∀{α:Type} (a:α) (l:List α),(a::l).length=l.length+1)/\(∀{α:Type},([]:List α).length=0)/\(∀{α:Type} (a b:List α),(a++b).length=a.length+b.length):=⟨c1G,wt_cons,rfl,fun _ _=>rfl,rfl,fun _ _=>List.length_append⟩
theorem pt {P:Prop}(x:P:=by
 repeat' first
 | with_reducible assumption
 |(with_reducible intro _ h;replace h:=h;simp only[WT]at h)
 | with_reducible intro _
 |(simp only[NF,a0j,Int.reduceEq,decide_false,decide_true])
 |(simp (disch:=assumption) only[NF,R4,O8,a0i,a1s])
 | with_reducible refine a5j ?_ ?_ ?_
 | with_reducible refine a5m ?_ ?_ ?_
 | with_reducible refine a6r (ih1 _ ?_) ?_
 | with_reducible refine a6r (ih2 _ ?_) ?_
 | with_reducible refine a6r (ih3 _ ?_) ?_
 | with_reducible refine a6r (ih4 _ ?_) ?_
 | with_reducible refine b8A (ih1 _ ?_) ?_
 | with_reducible refine b8A (ih2 _ ?_) ?_
 | with_reducible refine e2_ok ?_ ?_
 | exact rfl
 |(simp only[List.append_assoc,List.cons_append,List.nil_append];done)
 | omega
 |(simp only[WT];omega)):P:=x
mutual
def Typ.sz:Typ->Nat
 |⟨_,_,_,a⟩=>1+szT a
def szT:List Typ->Nat
 | []=>0
 | x::r=>x.sz+szT r
end
theorem tsz (k:Int)(s:Str)(n:Int)(a:List Typ):(⟨k,s,n,a⟩:Typ).sz=1+szT a:=rfl
theorem Typ.S9 (x:Typ):x.sz=1+szT x.args:=by cases x;rfl
theorem a5V:szT []=0:=rfl
theorem a2b (x:Typ)(r:List Typ):szT (x::r)=x.sz+szT r:=rfl
theorem a9W:∀a b:List Typ,szT (a++b)=szT a+szT b
 | [],b=>by simp[szT]
 | x::a,b=>by rw[List.cons_append,szT,szT,a9W a b];omega
theorem a4t:∀l:List Typ,l.length<=szT l
 | []=>Nat.le_refl _
 | x::r=>by have:=a4t r;have:=x.S9;simp only[szT,List.length_cons];omega
theorem a4f {x:Typ}:∀{l:List Typ},x∈l->x.sz<=szT l
 | y::r,h=>by
  simp only[szT];rcases List.mem_cons.1 h with rfl|h
  ·omega
  ·have:=a4f h;omega
inductive GT:Typ->Prop
 | mk {k:Int} {s:Str} {n:Int} {a:List Typ}:s.length<=20000 ->(k=8->a.length<=1) ->(∀x∈a,GT x)->GT ⟨k,s,n,a⟩
section
variable {n n':Nat} {Φ:q9} {Ψ:G9}
theorem c8a {t:Typ}(hL:t.args.length<=1000000000)(H:∀x∈t.args,∀w,wt w+100000*x.sz<=2000000000000->S2 (E2 2 (100000*x.sz) w) (Φ.H6 x w) (Ψ.I7 w x)):∀(m m' i:Nat) (w:List Str),t.args.length<m+i->t.args.length<m'+i->i<=t.args.length->wt w+100000*szT (t.args.drop i)+2<=2000000000000->S2 (E2 0 (100000*szT (t.args.drop i)) w) (K3 n Φ t.args m i w) (a1S n' Ψ t m' w i)
 | 0,_,_,_,_,_,_,_=>by omega
 | _+1,0,_,_,_,_,_,_=>by omega
 | m+1,m'+1,i,w,h1,h2,h3,h4=>by
  rw[K3.eq_2,a1S.eq_2];rcases Nat.lt_or_ge i t.args.length with h|h
  ·have hl:=a4t (t.args.drop i);rw[List.length_drop]at hl;have hd:=drop_eq h;rw[hd,a2b]at h4 hl ⊢;have ih1:=fun w=>H t.args[i] (List.getElem_mem h) w;have ih2:=fun w=>c8a hL H m m' (i+1) w (by omega) (by omega) (by omega);rw[R4 (show(i:Int)<(t.args.length:Int)by omega),O3 h,L6 (by omega)];rcases Nat.eq_zero_or_pos i with rfl|hi
   ·rw[O8 (show ¬(0:Int)<((0:Nat):Int)by omega)];exact pt
   ·rw[R4 (show(0:Int)<(i:Int)by omega)];exact pt
  ·rw[O8 (by omega)];exact pt
theorem c79 {k:Int}{s:Str}{nn:Int}{a:List Typ}{z:Typ}(hL:a.length<=1000000000)(H:∀x∈a,∀w,wt w+100000*x.sz<=2000000000000->S2 (E2 2 (100000*x.sz) w) (Φ.H6 x w) (Ψ.I7 w x)):∀(m m' i:Nat) (w:List Str),a.length<m+i->a.length<m'+i->i<=a.length->wt w+100000*szT (a.drop i)+2<=2000000000000->S2 (E2 0 (100000*szT (a.drop i)) w) (K3 n Φ a m i w) (X6 n' Ψ ⟨k,s,nn,a++[z]⟩ m' w i)
 | 0,_,_,_,_,_,_,_=>by omega
 | _+1,0,_,_,_,_,_,_=>by omega
 | m+1,m'+1,i,w,h1,h2,h3,h4=>by
  rw[K3.eq_2,X6.eq_2];have hl:=a4t (a.drop i);rw[List.length_drop]at hl;rw[L6 (by omega)];have he:((a++[z]).length:Int) =(a.length:Int)+1:=by simp
  simp only[he];rcases Nat.lt_or_ge i a.length with h|h
  ·have hd:=drop_eq h;rw[hd,a2b]at h4 hl ⊢;have ih1:=fun w=>H a[i] (List.getElem_mem h) w;have ih2:=fun w=>c79 (k:=k) (s:=s) (nn:=nn) (z:=z) hL H m m' (i+1) w (by omega) (by omega) (by omega);have hx:idx' (a++[z]) (i:Int)=some a[i]:=by rw[O3 (by simp;omega)];simp[h]
   rw[R4 (show(i:Int)<(a.length:Int)by omega),O3 h,R4 (show((i+1:Nat):Int)<(a.length:Int)+1 by omega),hx];rcases Nat.eq_zero_or_pos i with rfl|hi
   ·rw[O8 (show ¬(0:Int)<((0:Nat):Int)by omega)];exact pt
   ·rw[R4 (show(0:Int)<(i:Int)by omega)];exact pt
  ·rw[O8 (by omega),O8 (show ¬((i+1:Nat):Int)<(a.length:Int)+1 by omega)];exact pt
end
theorem fs_typ (n:Nat)(h:1<=n)(t:Typ)(w:List Str):(q9.fs n).H6 t w=a3r (n-1) (q9.fs (n-1)) t w:=by
 obtain⟨m,rfl⟩:∃m,n=m+1:=⟨n-1,by omega⟩
 rfl
theorem fs_args (n:Nat)(h:1<=n)(t:List Typ)(w:List Str):(q9.fs n).R6 t w=a2R (n-1) (q9.fs (n-1)) t w:=by
 obtain⟨m,rfl⟩:∃m,n=m+1:=⟨n-1,by omega⟩
 rfl
theorem a9q (n:Nat)(h:1<=n)(t:List Typ)(w:List Str):(q9.fs n).K5 t w=K3 (n-1) (q9.fs (n-1)) t (n-1) 0 w:=by
 obtain⟨m,rfl⟩:∃m,n=m+1:=⟨n-1,by omega⟩
 rfl
theorem c38 (n:Nat)(h:1<=n)(t:Typ)(w:List Str):(G9.fs n).I7 w t=a5c (n-1) (G9.fs (n-1)) w t:=by
 obtain⟨m,rfl⟩:∃m,n=m+1:=⟨n-1,by omega⟩
 rfl
theorem c7n {t:Typ}(g:GT t):∀(n n':Nat) (w:List Str),10*t.sz+10<=n->10*t.sz+10<=n'->wt w+100000*t.sz<=2000000000000->S2 (E2 2 (100000*t.sz) w) ((q9.fs n).H6 t w) ((G9.fs n').I7 w t):=by
 induction g with
 | @mk k s nn a hs h8 ha IH =>
  intro n n' w hn hn' hw;rw[tsz]at hn hn' hw ⊢;have hl:=a4t a;rw[fs_typ n (by omega),c38 n' (by omega)];have H:∀q q',10*szT a+10<=q->10*szT a+10<=q' -> ∀x∈a,∀w,wt w+100000*x.sz<=2000000000000->S2 (E2 2 (100000*x.sz) w) ((q9.fs q).H6 x w) ((G9.fs q').I7 w x):=fun q q' h1 h2 x hx w h3=>by
   have:=a4f hx;exact IH x hx q q' w (by omega) (by omega) h3
  have L38:=fun w=>c8a (n:=n-1-1-1) (n':=n'-1) (t:=⟨k,s,nn,a⟩) (show a.length<=_ by omega) (H (n-1-1-1) (n'-1) (by omega) (by omega)) (n-1-1-1) (n'-1) 0 w (show a.length<_ by omega) (show a.length<_ by omega) (Nat.zero_le _);simp only[List.drop_zero]at L38;have AR:∀w,wt w+100000*szT a<=1999999999000->S2 (E2 0 (100000*szT a+4) w) ((q9.fs (n-1)).R6 a w) (cond (ltB 0 (List.length a:Int)) ((app 16 w ([[60]]:List Str)).bind fun l21=>Option.bind (α:=List Str) (a1S (n'-1) (G9.fs (n'-1)) ⟨k,s,nn,a⟩ (n'-1) l21 0) fun l550=>(app 16 l550 ([[62]]:List Str)).bind fun l25=>some l25) (some w)):=fun w hw=>by
   have ih1:=L38;rw[fs_args (n-1) (by omega)];unfold a2R;simp only[a9q (n-1-1) (by omega)];rcases Nat.eq_zero_or_pos a.length with h0|h0
   ·rw[O8 (by omega)];exact pt
   ·rw[R4 (by omega)];exact pt
  have ih1:=AR;unfold a3r a5c;rcases Classical.em (k=1)with rfl|k1
  ·exact pt
  rcases Classical.em (k=2)with rfl|k2
  ·exact pt
  rcases Classical.em (k=3)with rfl|k3
  ·exact pt
  rcases Classical.em (k=4)with rfl|k4
  ·exact pt
  rcases Classical.em (k=5)with rfl|k5
  ·exact pt
  rcases Classical.em (k=11)with rfl|k11
  ·exact pt
  rcases Classical.em (k=9)with rfl|k9
  ·exact pt
  rcases Classical.em (k=8)with rfl|k8
  ·have h1:=h8 rfl;have hb:∀w,wt w+100000*szT a<=1999999999000->S2 (E2 0 (100000*szT a) w) ((q9.fs (n-1)).K5 a w) (a1R (n'-1) (G9.fs (n'-1)) ⟨8,s,nn,a⟩ (n'-1) w 0):=fun w hw=>by
    rw[a9q (n-1) (by omega)];obtain⟨m,hm⟩:∃m,n-1-1=m+2:=⟨n-1-1-2,by omega⟩
    obtain⟨m',hm'⟩:∃m,n'-1=m+2:=⟨n'-1-2,by omega⟩
    have H1:=H (n-1-1) (n'-1) (by omega) (by omega);rw[hm,hm']at H1 ⊢;rw[K3.eq_2,a1R.eq_2];have c0:ltB 0 ((0:Nat):Int)=false:=O8 (by omega);have c1:ltB 0 ((1:Nat):Int)=true:=R4 (by omega);have c2:ltB 1 ((1:Nat):Int)=false:=O8 (by omega);have c3:ltB 0 0=false:=O8 (by omega);rcases a with _ |⟨x,_ |⟨y,a⟩⟩
    ·simp only[List.length_nil,c0];exact pt
    ·have ih1:=fun w=>H1 x (List.mem_singleton.2 rfl) w;simp only[K3.eq_2,a1R.eq_2];have e1:idx' [x] 0=some x:=O3 (l:=[x]) (i:=0) (by simp);have e2:w64 (0+1)=1:=by decide
     simp only[a2b,a5V]at hw ⊢;simp only[List.length_singleton,e1,e2,c0,c1,c2,c3];exact pt
    ·simp only[List.length_cons]at h1;omega
   have ih1:=hb;exact pt
  rcases Classical.em (k=10)with rfl|k10
  ·rcases List.eq_nil_or_concat a with rfl |⟨b,z,rfl⟩
   ·obtain⟨m,hm⟩:∃m,n-1-1=m+2:=⟨n-1-1-2,by omega⟩
    obtain⟨m',hm'⟩:∃m,n'-1=m+2:=⟨n'-1-2,by omega⟩
    have e1:(max (w64 (((([]:List Typ).length:Nat):Int)-1)) 0)=0:=by decide
    have e2:b2x ([]:List Typ) 0 0=some []:=b6l (l:=[]) (a:=0) (b:=0) (by omega) (by simp);have e3:∀w,(q9.fs (n-1)).K5 [] w=some w:=fun w=>by
     rw[a9q (n-1) (by omega),hm,K3.eq_2,c09];rfl
    have e4:∀w,X6 (n'-1) (G9.fs (n'-1)) ⟨10,s,nn,[]⟩ (n'-1) w 0=some w:=fun w=>by
     rw[hm',X6.eq_2,c09];rfl
    have e5:ltB 0 (((([]:List Typ).length:Nat):Int))=false:=by rw[c09];decide
    simp only[e1,e4,e5];simp only[List.length_nil,Int.natCast_zero,NF,a0j,Int.reduceEq,decide_false,decide_true,e2,e3];exact pt
   ·simp only[List.concat_eq_append]at *;simp only[a9W,a2b,a5V,List.length_append,List.length_singleton]at *;have e0:w64 (((b.length+1:Nat):Int)-1) =(b.length:Int):=by rw[a4j (by omega) (by omega)];omega
    have e1:max (b.length:Int) 0 =(b.length:Int):=by omega
    have e2:b2x (b++[z]) 0 (b.length:Int)=some b:=by
     have:=b6l (l:=b++[z]) (a:=0) (b:=b.length) (by omega) (by simp);rw[List.drop_zero,List.take_left]at this;exact this
    have e3:b2x (b++[z]) (b.length:Int) ((b.length+1:Nat):Int)=some [z]:=by
     have:=b6l (l:=b++[z]) (a:=b.length) (b:=b.length+1) (by omega) (by simp);rw[List.take_of_length_le (by simp),List.drop_left]at this;exact this
    have e4:idx' (b++[z]) (b.length:Int)=some z:=by rw[O3 (by simp)];simp
    have ih1:=fun w=>c79 (n:=n-1-1) (n':=n'-1) (k:=10) (s:=s) (nn:=nn) (a:=b) (z:=z) (by omega) (fun x hx=>H (n-1-1) (n'-1) (by omega) (by omega) x (List.mem_append_left _ hx)) (n-1-1) (n'-1) 0 w (by omega) (by omega) (Nat.zero_le _);have ih2:=fun w=>H (n-1-1) (n'-1) (by omega) (by omega) z (List.mem_append_right _ (List.mem_singleton.2 rfl)) w;have e5:∀w,(q9.fs (n-1)).K5 [z] w =((q9.fs (n-1-1)).H6 z w).bind some:=fun w=>by
     obtain⟨m,hm⟩:∃m,n-1-1=m+2:=⟨n-1-1-2,by omega⟩
     rw[a9q (n-1) (by omega),hm,K3.eq_2];have e1:idx' [z] 0=some z:=O3 (l:=[z]) (i:=0) (by simp);have e2:w64 (0+1)=1:=by decide
     simp only[List.length_singleton,e1,e2,c09];simp only[NF,K3.eq_2,List.length_singleton,c09];rfl
    simp only[List.drop_zero]at ih1;have h1:ltB 0 ((b.length+1:Nat):Int)=true:=R4 (by omega);simp only[NF,a0j,Int.reduceEq,decide_false,decide_true,e0,e1,e2,e3,e4,e5,h1,a9q (n-1) (by omega) b];exact pt
  ·simp only[a0i k1,a0i k2,a0i k3,a0i k4,a0i k5,a0i k11,a0i k9,a0i k8,a0i k10];exact pt
end Go.Proofs.YtmippldlhnajkaaGreatDoor
namespace Go.Proofs.YtmippldlhnajkaaGreatDoor
open Go Go.Vm Pr
mutual
def Nod.sz:Nod->Nat
 |⟨_,_,_,t,ts,l,_⟩=>1+t.sz+szT ts+szN l
def szN:List Nod->Nat
 | []=>0
 | x::r=>x.sz+szN r
end
theorem Nod.S9 (x:Nod):x.sz=1+x.t.sz+szT x.ts+szN x.l:=by cases x;rfl
theorem Q8:szN []=0:=rfl
theorem K6 (x:Nod)(r:List Nod):szN (x::r)=x.sz+szN r:=rfl
theorem b2y:∀a b:List Nod,szN (a++b)=szN a+szN b
 | [],b=>by simp[szN]
 | x::a,b=>by rw[List.cons_append,szN,szN,b2y a b];omega
theorem G5:∀l:List Nod,l.length<=szN l
 | []=>Nat.le_refl _
 | x::r=>by have:=G5 r;have:=x.S9;simp only[szN,List.length_cons];omega
theorem I5 {x:Nod}:∀{l:List Nod},x∈l->x.sz<=szN l
 | y::r,h=>by
  simp only[szN];rcases List.mem_cons.1 h with rfl|h
  ·omega
  ·have:=I5 h;omega
theorem SZ:(∀(op:Int) (s:Str) (n:Int) (t:Typ) (ts:List Typ) (l:List Nod) (a:Int),(⟨op,s,n,t,ts,l,a⟩:Nod).sz=1+t.sz+szT ts+szN l)/\(∀(k:Int) (s:Str) (n:Int) (a:List Typ),(⟨k,s,n,a⟩:Typ).sz=1+szT a)/\szT []=0/\szN []=0/\(∀(x:Nod) (r:List Nod),szN (x::r)=x.sz+szN r) /\ ∀a b:List Nod,szN (a++b)=szN a+szN b :=
 ⟨fun _ _ _ _ _ _ _=>rfl,fun _ _ _ _=>rfl,rfl,rfl,fun _ _=>rfl,b2y⟩
@[reducible] def zT:Typ:=⟨0,[],0,[]⟩
inductive G:Nat->Nod->Prop
 | int {n a:Int}:0<=n->n<=9223372036854775807->G 0 ⟨50,[],n,zT,[],[],a⟩
 | truth {n a:Int}:G 0 ⟨51,[],n,zT,[],[],a⟩
 | text {s:Str} {a:Int}:s.length<=20000->G 0 ⟨52,s,0,zT,[],[],a⟩
 | interp {l:List Nod} {a:Int}:(∀x∈l,G 0 x)->3<=l.length->l.length%2=1->G 0 ⟨53,[],0,zT,[],l,a⟩
 | name {s:Str} {a:Int}:s.length<=20000->G 0 ⟨54,s,0,zT,[],[],a⟩
 | use {s:Str} {a:Int}:s.length<=20000->G 0 ⟨61,s,0,zT,[],[],a⟩
 | list {l:List Nod} {a:Int}:(∀x∈l,G 0 x)->G 0 ⟨67,[],0,zT,[],l,a⟩
 | clos {t:Typ} {p b:List Nod} {a a':Int}:GT t ->(∀x∈p,G 4 x) ->(∀x∈b,G 1 x)->G 0 ⟨63,[],0,t,[],p++[⟨20,[],0,zT,[],b,a'⟩],a⟩
 | bin {s:Str} {x y:Nod} {a:Int}:s.length<=20000->G 0 x->G 0 y->G 0 ⟨64,s,0,zT,[],[x,y],a⟩
 | un {op:Int} {x:Nod} {a:Int}:op=65∨op=66->G 0 x->G 0 ⟨op,[],0,zT,[],[x],a⟩
 | field {s:Str} {x:Nod} {a:Int}:s.length<=20000->G 0 x->G 0 ⟨55,s,0,zT,[],[x],a⟩
 | call {s:Str} {l:List Nod} {a:Int}:s.length<=20000 ->(∀x∈l,G 6 x)->G 0 ⟨56,s,0,zT,[],l,a⟩
 | method {s:Str} {x:Nod} {l:List Nod} {a:Int}:s.length<=20000->G 0 x ->(∀x∈l,G 6 x)->G 0 ⟨57,s,0,zT,[],x::l,a⟩
 | apply{x:Nod} {l:List Nod} {a:Int}:G 0 x ->(∀x∈l,G 6 x)->G 0 ⟨60,[],0,zT,[],x::l,a⟩
 | stat0 {t:Typ} {s:Str} {a:Int}:s.length<=20000->GT t->G 0 ⟨58,s,0,t,[],[],a⟩
 | stat1 {t:Typ} {s:Str} {l:List Nod} {a:Int}:s.length<=20000->GT t ->(∀x∈l,G 6 x)->G 0 ⟨58,s,1,t,[],l,a⟩
 | make {t:Typ} {l:List Nod} {a:Int}:GT t ->(∀x∈l,G 6 x)->G 0 ⟨59,[],0,t,[],l,a⟩
 | arg {x:Nod}:G 0 x->G 6 x
 | lend {x:Nod} {a:Int}:G 0 x->G 6 ⟨62,[],0,zT,[],[x],a⟩
 | let0 {s:Str} {n:Int} {t:Typ} {a:Int}:s.length<=20000 ->(t.kind=0∨GT t)->G 1 ⟨21,s,n,t,[],[],a⟩
 | let1 {s:Str} {n:Int} {t:Typ} {x:Nod} {a:Int}:s.length<=20000 ->(t.kind=0∨GT t)->G 0 x->G 1 ⟨21,s,n,t,[],[x],a⟩
 | assign {x y:Nod} {a:Int}:G 0 x->G 0 y->G 1 ⟨22,[],0,zT,[],[x,y],a⟩
 | sole {x:Nod} {a:Int}:G 0 x->G 1 ⟨23,[],0,zT,[],[x],a⟩
 | if2 {x b:Nod} {a:Int}:G 0 x->G 2 b->G 1 ⟨24,[],0,zT,[],[x,b],a⟩
 | if3 {x b c:Nod} {a:Int}:G 0 x->G 2 b->G 2 c->G 1 ⟨24,[],0,zT,[],[x,b,c],a⟩
 | if4 {x b c:Nod} {a:Int}:G 0 x->G 2 b->G 1 c->c.op=24->G 1 ⟨24,[],0,zT,[],[x,b,c],a⟩
 | whil {x b:Nod} {a:Int}:G 0 x->G 2 b->G 1 ⟨25,[],0,zT,[],[x,b],a⟩
 | mat {x:Nod} {l:List Nod} {a:Int}:G 0 x ->(∀y∈l,G 5 y)->G 1 ⟨26,[],0,zT,[],x::l,a⟩
 | ret0 {a:Int}:G 1 ⟨28,[],0,zT,[],[],a⟩
 | ret1 {x:Nod} {a:Int}:G 0 x->G 1 ⟨28,[],0,zT,[],[x],a⟩
 | throws {x:Nod} {a:Int}:G 0 x->G 1 ⟨29,[],0,zT,[],[x],a⟩
 | doc {s:Str} {b c:Nod} {a:Int}:s.length<=20000->G 2 b->G 2 c->G 1 ⟨30,s,0,zT,[],[b,c],a⟩
 | defer {b:Nod} {a:Int}:G 2 b->G 1 ⟨31,[],0,zT,[],[b],a⟩
 | block {l:List Nod} {a:Int}:(∀x∈l,G 1 x)->G 2 ⟨20,[],0,zT,[],l,a⟩
 | wild {a:Int}:G 3 ⟨40,[],0,zT,[],[],a⟩
 | bnd {s:Str} {a:Int}:s.length<=20000->G 3 ⟨41,s,0,zT,[],[],a⟩
 | pint {n a:Int}:(-9223372036854775808<=n/\n<=9223372036854775807)->G 3 ⟨42,[],n,zT,[],[],a⟩
 | ptruth {n a:Int}:(-9223372036854775808<=n/\n<=9223372036854775807)->G 3 ⟨43,[],n,zT,[],[],a⟩
 | ptext {s:Str} {a:Int}:s.length<=20000->G 3 ⟨44,s,0,zT,[],[],a⟩
 | pcase {s:Str} {l:List Nod} {a:Int}:s.length<=20000 ->(∀x∈l,G 3 x)->G 3 ⟨45,s,0,zT,[],l,a⟩
 | param {s:Str} {n:Int} {t:Typ} {a:Int}:s.length<=20000->GT t->G 4 ⟨10,s,n,t,[],[],a⟩
 | arm {p b:Nod} {a:Int}:G 3 p->G 2 b->G 5 ⟨27,[],0,zT,[],[p,b],a⟩
theorem G.slen {m:Nat}{x:Nod}(h:G m x):x.s.length<=20000:=by
 induction h<;>first|assumption|exact Nat.zero_le _
abbrev RE (x:Nod):Prop:=∀n n' w,40*x.sz+40<=n->40*x.sz+40<=n'->wt w+100000*x.sz<=2000000000000->S2 (E2 2 (100000*x.sz) w) ((j3.fs n).E5 x w) ((j6.fs n').F9 w x)
abbrev RS (x:Nod):Prop:=∀n n' w,40*x.sz+40<=n->40*x.sz+40<=n'->wt w+100000*x.sz<=2000000000000->S2 (E2 2 (100000*x.sz) w) ((j3.fs n).J6 x w) ((j6.fs n').I6 w x)
abbrev RB (x:Nod):Prop:=∀n n' w,40*x.sz+40<=n->40*x.sz+40<=n'->wt w+100000*x.sz<=2000000000000->S2 (E2 2 (100000*x.sz) w) ((j3.fs n).I4 x w) ((j6.fs n').I6 w x)
abbrev RP (x:Nod):Prop:=∀n n' w,40*x.sz+40<=n->40*x.sz+40<=n'->wt w+100000*x.sz<=2000000000000->S2 (E2 2 (100000*x.sz) w) ((A7.fs n).K7 x w) ((G6.fs n').T9 w x)
def RM (x:Nod):Prop:=∃s n t a,x =⟨10,s,n,t,[],[],a⟩/\s.length<=20000/\GT t
def RA (x:Nod):Prop:=∃p b a,x =⟨27,[],0,zT,[],[p,b],a⟩/\RP p/\RB b
def RR:Nat->Nod->Prop|0=>RE|1=>RS|2=>fun x=>RB x/\x.op=20|3=>RP|4=>RM|5=>RA|_=>RE
theorem BSm {α:Type}(x:Option α):(x.bind fun r=>some r)=x:=by cases x<;>rfl
theorem LIT:(∀(x:Nod) (r:List Nod),idx' (x::r) 0=some x)/\(∀(x y:Nod) (r:List Nod),idx' (x::y::r) 1=some y)/\(∀(x y z:Nod) (r:List Nod),idx' (x::y::z::r) 2=some z) /\
  w64 (0+1)=1/\w64 (1+1)=2/\w64 (2+1)=3 /\
  (∀(x:Nod) (r:List Nod),ltB 0 (((x::r).length:Nat):Int)=true)/\(∀(x:Nod) (r:List Nod),eqB (((x::r).length:Nat):Int) 0=false)/\(∀(x y:Nod) (r:List Nod),ltB 1 (((x::y::r).length:Nat):Int)=true)/\(∀(x y z:Nod) (r:List Nod),ltB 2 (((x::y::z::r).length:Nat):Int)=true) /\
  ltB 0 ((([]:List Nod).length:Nat):Int)=false/\eqB ((([]:List Nod).length:Nat):Int) 0=true/\(∀x:Nod,ltB 1 ((([x]:List Nod).length:Nat):Int)=false)/\(∀x y:Nod,ltB 2 ((([x,y]:List Nod).length:Nat):Int)=false)/\(∀x y z:Nod,ltB 3 ((([x,y,z]:List Nod).length:Nat):Int)=false)/\ltB 0 0=false/\ltB 0 1=true /\
  (∀(x:Nod) (r:List Nod),r.length<=1000000000->b2x (x::r) 1 (((x::r).length:Nat):Int)=some r) /\
  (∀(op:Int) (s:Str) (m:Int) (t:Typ) (ts:List Typ) (a:Int) (x:Nod) (r:List Nod),R5 ⟨op,s,m,t,ts,x::r,a⟩ 0=some x)/\(∀(op:Int) (s:Str) (m:Int) (t:Typ) (ts:List Typ) (a:Int) (x y:Nod) (r:List Nod),R5 ⟨op,s,m,t,ts,x::y::r,a⟩ 1=some y) /\
  (∀(op:Int) (s:Str) (m:Int) (t:Typ) (ts:List Typ) (a:Int) (x:Nod) (r:List Nod),r.length<=1000000000->a6C ⟨op,s,m,t,ts,x::r,a⟩ 1=some r):=by
 have i0:∀(x:Nod) (r:List Nod),idx' (x::r) 0=some x:=fun x r=>O3 (l:=x::r) (i:=0) (by simp);have i1:∀(x y:Nod) (r:List Nod),idx' (x::y::r) 1=some y:=fun x y r=>O3 (l:=x::y::r) (i:=1) (by simp);have i2:∀(x y z:Nod) (r:List Nod),idx' (x::y::z::r) 2=some z:=fun x y z r=>O3 (l:=x::y::z::r) (i:=2) (by simp);have l0:∀(x:Nod) (r:List Nod),ltB 0 (((x::r).length:Nat):Int)=true:=fun x r=>R4 (by simp only[List.length_cons];omega);have l1:∀(x y:Nod) (r:List Nod),ltB 1 (((x::y::r).length:Nat):Int)=true:=fun x y r=>R4 (by simp only[List.length_cons];omega);have s1:∀(x:Nod) (r:List Nod),r.length<=1000000000->b2x (x::r) 1 (((x::r).length:Nat):Int)=some r:=fun x r h=>by
  have:=b6l (l:=x::r) (a:=1) (b:=(x::r).length) (by simp) (Nat.le_refl _);rw[List.take_length]at this;exact this
 refine⟨i0,i1,i2,by decide,by decide,by decide,l0,fun x r=>a0i (by simp only[List.length_cons];omega),l1,fun x y z r=>R4 (by simp only[List.length_cons];omega),O8 (by simp),a1s (by simp),fun x=>O8 (by simp),fun x y=>O8 (by simp),fun x y z=>O8 (by simp),O8 (by omega),R4 (by omega),s1,fun op s m t ts a x r=>?_,fun op s m t ts a x y r=>?_,fun op s m t ts a x r h=>?_⟩
 ·unfold R5;simp only[l0,i0,cond_true,Option.bind_some]
 ·unfold R5;simp only[l1,i1,cond_true,Option.bind_some]
 ·unfold a6C;rcases r with _ |⟨y,r⟩
  ·rw[O8 (by simp),cond_false]
  ·simp only[l1,cond_true];rw[s1 _ _ h];rfl
theorem fe1 (n:Nat)(h:1<=n)(op:Int)(s:Str)(m:Int)(t:Typ)(ts:List Typ)(l:List Nod)(a:Int)(w:List Str):(j3.fs n).E5 ⟨op,s,m,t,ts,l,a⟩ w=V7 (n-1) (j3.fs (n-1)) ⟨op,s,m,t,ts,l,a⟩ w:=by
 obtain⟨k,rfl⟩:∃k,n=k+1:=⟨n-1,by omega⟩
 rfl
theorem fe2 (n:Nat)(h:1<=n)(op:Int)(s:Str)(m:Int)(t:Typ)(ts:List Typ)(l:List Nod)(a:Int)(w:List Str):(j3.fs n).V8 ⟨op,s,m,t,ts,l,a⟩ w=a1Z (n-1) (j3.fs (n-1)) ⟨op,s,m,t,ts,l,a⟩ w:=by
 obtain⟨k,rfl⟩:∃k,n=k+1:=⟨n-1,by omega⟩
 rfl
theorem fe3 (n:Nat)(h:1<=n)(op:Int)(s:Str)(m:Int)(t:Typ)(ts:List Typ)(l:List Nod)(a:Int)(w:List Str):(j3.fs n).U6 ⟨op,s,m,t,ts,l,a⟩ w=a1v (n-1) (j3.fs (n-1)) ⟨op,s,m,t,ts,l,a⟩ w:=by
 obtain⟨k,rfl⟩:∃k,n=k+1:=⟨n-1,by omega⟩
 rfl
theorem fe4 (n:Nat)(h:1<=n)(op:Int)(s:Str)(m:Int)(t:Typ)(ts:List Typ)(l:List Nod)(a:Int)(w:List Str):(j3.fs n).J6 ⟨op,s,m,t,ts,l,a⟩ w=J2 (n-1) (j3.fs (n-1)) ⟨op,s,m,t,ts,l,a⟩ w:=by
 obtain⟨k,rfl⟩:∃k,n=k+1:=⟨n-1,by omega⟩
 rfl
theorem fe5 (n:Nat)(h:1<=n)(op:Int)(s:Str)(m:Int)(t:Typ)(ts:List Typ)(l:List Nod)(a:Int)(w:List Str):(j3.fs n).I4 ⟨op,s,m,t,ts,l,a⟩ w=a2v (n-1) (j3.fs (n-1)) ⟨op,s,m,t,ts,l,a⟩ w:=by
 obtain⟨k,rfl⟩:∃k,n=k+1:=⟨n-1,by omega⟩
 rfl
theorem fe6 (n:Nat)(h:1<=n)(op:Int)(s:Str)(m:Int)(t:Typ)(ts:List Typ)(l:List Nod)(a:Int)(w:List Str):(j3.fs n).a0o ⟨op,s,m,t,ts,l,a⟩ w=a3s (n-1) (j3.fs (n-1)) ⟨op,s,m,t,ts,l,a⟩ w:=by
 obtain⟨k,rfl⟩:∃k,n=k+1:=⟨n-1,by omega⟩
 rfl
theorem fe7 (n:Nat)(h:1<=n)(l:List Nod)(w:List Str):(j3.fs n).P6 l w=a2S (n-1) (j3.fs (n-1)) l w:=by
 obtain⟨k,rfl⟩:∃k,n=k+1:=⟨n-1,by omega⟩
 rfl
theorem fe8 (n:Nat)(h:1<=n)(l:List Nod)(w:List Str):(j3.fs n).V4 l w=a2t (n-1) (j3.fs (n-1)) l w:=by
 obtain⟨k,rfl⟩:∃k,n=k+1:=⟨n-1,by omega⟩
 rfl
theorem fe9 (n:Nat)(h:1<=n)(x:Nod)(w:List Str):(j3.fs n).L8 x w=a1g (n-1) (j3.fs (n-1)) x w:=by
 obtain⟨k,rfl⟩:∃k,n=k+1:=⟨n-1,by omega⟩
 rfl
theorem fr1 (n:Nat)(h:1<=n)(op:Int)(s:Str)(m:Int)(t:Typ)(ts:List Typ)(l:List Nod)(a:Int)(w:List Str):(j6.fs n).F9 w ⟨op,s,m,t,ts,l,a⟩=a0n (n-1) (j6.fs (n-1)) w ⟨op,s,m,t,ts,l,a⟩:=by
 obtain⟨k,rfl⟩:∃k,n=k+1:=⟨n-1,by omega⟩
 rfl
theorem fr2 (n:Nat)(h:1<=n)(l:List Nod)(w:List Str):(j6.fs n).a0z w l=a5b (n-1) (j6.fs (n-1)) w l:=by
 obtain⟨k,rfl⟩:∃k,n=k+1:=⟨n-1,by omega⟩
 rfl
theorem fr3 (n:Nat)(h:1<=n)(op:Int)(s:Str)(m:Int)(t:Typ)(ts:List Typ)(l:List Nod)(a:Int)(w:List Str):(j6.fs n).a0l w ⟨op,s,m,t,ts,l,a⟩=a1j (n-1) (j6.fs (n-1)) w ⟨op,s,m,t,ts,l,a⟩:=by
 obtain⟨k,rfl⟩:∃k,n=k+1:=⟨n-1,by omega⟩
 rfl
theorem fr4 (n:Nat)(h:1<=n)(op:Int)(s:Str)(m:Int)(t:Typ)(ts:List Typ)(l:List Nod)(a:Int)(w:List Str):(j6.fs n).I6 w ⟨op,s,m,t,ts,l,a⟩=Q7 (n-1) (j6.fs (n-1)) w ⟨op,s,m,t,ts,l,a⟩:=by
 obtain⟨k,rfl⟩:∃k,n=k+1:=⟨n-1,by omega⟩
 rfl
theorem fr5 (n:Nat)(h:1<=n)(op:Int)(s:Str)(m:Int)(t:Typ)(ts:List Typ)(l:List Nod)(a:Int)(w:List Str):(j6.fs n).a0k w ⟨op,s,m,t,ts,l,a⟩=a0I (n-1) (j6.fs (n-1)) w ⟨op,s,m,t,ts,l,a⟩:=by
 obtain⟨k,rfl⟩:∃k,n=k+1:=⟨n-1,by omega⟩
 rfl
theorem fr6 (n:Nat)(h:1<=n)(x:Nod)(b:Bool)(w:List Str):(j6.fs n).W9 w x b=a2N (n-1) (j6.fs (n-1)) w x b:=by
 obtain⟨k,rfl⟩:∃k,n=k+1:=⟨n-1,by omega⟩
 rfl
theorem fp1 (n:Nat)(h:1<=n)(op:Int)(s:Str)(m:Int)(t:Typ)(ts:List Typ)(l:List Nod)(a:Int)(w:List Str):(A7.fs n).K7 ⟨op,s,m,t,ts,l,a⟩ w=a0H (n-1) (A7.fs (n-1)) ⟨op,s,m,t,ts,l,a⟩ w:=by
 obtain⟨k,rfl⟩:∃k,n=k+1:=⟨n-1,by omega⟩
 rfl
theorem fp2 (n:Nat)(h:1<=n)(l:List Nod)(w:List Str):(A7.fs n).Y0 l w=a2u (n-1) (A7.fs (n-1)) l w:=by
 obtain⟨k,rfl⟩:∃k,n=k+1:=⟨n-1,by omega⟩
 rfl
theorem fm1 (n:Nat)(h:1<=n)(op:Int)(s:Str)(m:Int)(t:Typ)(ts:List Typ)(l:List Nod)(a:Int)(w:List Str):(G6.fs n).T9 w ⟨op,s,m,t,ts,l,a⟩=a1Q (n-1) (G6.fs (n-1)) w ⟨op,s,m,t,ts,l,a⟩:=by
 obtain⟨k,rfl⟩:∃k,n=k+1:=⟨n-1,by omega⟩
 rfl
theorem u18_0 {n m:Nat}{Ψ:j6}{op:Int}{s:Str}{k:Int}{t:Typ}{ts:List Typ}{a:Int}{w:List Str}(h:1<=m):a0K n Ψ ⟨op,s,k,t,ts,[],a⟩ m w 0=some w:=by
 obtain⟨q,rfl⟩:∃q,m=q+1:=⟨m-1,by omega⟩
 simp (disch:=omega) only[a0K.eq_2,LIT,NF,BSm,a0j,Int.reduceEq,decide_true,decide_false]
theorem u18_1 {n m:Nat}{Ψ:j6}{op:Int}{s:Str}{k:Int}{t:Typ}{ts:List Typ}{a:Int}{w:List Str}{x:Nod}(h:2<=m):a0K n Ψ ⟨op,s,k,t,ts,[x],a⟩ m w 0 =(app 16 w ([[61]]:List Str)).bind fun l12=>Ψ.F9 l12 x:=by
 obtain⟨q,rfl⟩:∃q,m=q+2:=⟨m-2,by omega⟩
 simp (disch:=omega) only[a0K.eq_2,LIT,NF,BSm,a0j,Int.reduceEq,decide_true,decide_false]
theorem u25 {n m:Nat}{Ψ:j6}{op:Int}{s:Str}{k:Int}{t:Typ}{ts:List Typ}{a:Int}{w:List Str}{x y:Nod}(h:3<=m):a2l n Ψ ⟨op,s,k,t,ts,[x,y],a⟩ m w 0 =(Ψ.F9 w x).bind fun r=>(app 16 r ([[61]]:List Str)).bind fun l12=>Ψ.F9 l12 y:=by
 obtain⟨q,rfl⟩:∃q,m=q+3:=⟨m-3,by omega⟩
 simp (disch:=omega) only[a2l.eq_2,LIT,NF,BSm,a0j,Int.reduceEq,decide_true,decide_false]
theorem u39_0 {n m:Nat}{Ψ:j6}{op:Int}{s:Str}{k:Int}{t:Typ}{ts:List Typ}{a:Int}{w:List Str}(h:1<=m):a0L n Ψ ⟨op,s,k,t,ts,[],a⟩ m w 0=some w:=by
 obtain⟨q,rfl⟩:∃q,m=q+1:=⟨m-1,by omega⟩
 simp (disch:=omega) only[a0L.eq_2,LIT,NF,BSm,a0j,Int.reduceEq,decide_true,decide_false]
theorem u39_1 {n m:Nat}{Ψ:j6}{op:Int}{s:Str}{k:Int}{t:Typ}{ts:List Typ}{a:Int}{w:List Str}{x:Nod}(h:2<=m):a0L n Ψ ⟨op,s,k,t,ts,[x],a⟩ m w 0=Ψ.F9 w x:=by
 obtain⟨q,rfl⟩:∃q,m=q+2:=⟨m-2,by omega⟩
 simp (disch:=omega) only[a0L.eq_2,LIT,NF,BSm,a0j,Int.reduceEq,decide_true,decide_false]
theorem u8_2 {n m:Nat}{Ψ:j6}{op:Int}{s:Str}{k:Int}{t:Typ}{ts:List Typ}{a:Int}{w:List Str}{x y:Nod}(h:3<=m):a0v n Ψ ⟨op,s,k,t,ts,[x,y],a⟩ m w 0 =(Ψ.F9 w x).bind fun r=>Ψ.I6 r y:=by
 obtain⟨q,rfl⟩:∃q,m=q+3:=⟨m-3,by omega⟩
 simp (disch:=omega) only[a0v.eq_2,LIT,NF,BSm,a0j,Int.reduceEq,decide_true,decide_false]
theorem u8_3 {n m:Nat}{Ψ:j6}{op:Int}{s:Str}{k:Int}{t:Typ}{ts:List Typ}{a:Int}{w:List Str}{x y z:Nod}(h:4<=m):a0v n Ψ ⟨op,s,k,t,ts,[x,y,z],a⟩ m w 0 =(Ψ.F9 w x).bind fun r=>(Ψ.I6 r y).bind fun q=>(app 16 q ([[101,108,115,101]]:List Str)).bind fun q=>Ψ.I6 q z:=by
 obtain⟨q,rfl⟩:∃q,m=q+4:=⟨m-4,by omega⟩
 simp (disch:=omega) only[a0v.eq_2,LIT,NF,BSm,a0j,Int.reduceEq,decide_true,decide_false]
theorem u31 {n m:Nat}{Ψ:j6}{op:Int}{s:Str}{k:Int}{t:Typ}{ts:List Typ}{a:Int}{w:List Str}{x y:Nod}(h:3<=m):a1e n Ψ ⟨op,s,k,t,ts,[x,y],a⟩ m w 0 =(Ψ.I6 w x).bind fun r=>(app 16 r ([[99,97,116,99,104],s]:List Str)).bind fun r=>Ψ.I6 r y:=by
 obtain⟨q,rfl⟩:∃q,m=q+3:=⟨m-3,by omega⟩
 simp (disch:=omega) only[a1e.eq_2,LIT,NF,BSm,a0j,Int.reduceEq,decide_true,decide_false]
theorem u39b {n m:Nat}{Ψ:j6}{op:Int}{s:Str}{k:Int}{t:Typ}{ts:List Typ}{a:Int}{w:List Str}{x:Nod}(h:2<=m):a1f n Ψ ⟨op,s,k,t,ts,[x],a⟩ m w 0=Ψ.I6 w x:=by
 obtain⟨q,rfl⟩:∃q,m=q+2:=⟨m-2,by omega⟩
 simp (disch:=omega) only[a1f.eq_2,LIT,NF,BSm,a0j,Int.reduceEq,decide_true,decide_false]
end Go.Proofs.YtmippldlhnajkaaGreatDoor
namespace Go.Proofs.YtmippldlhnajkaaGreatDoor
open Go Go.Vm Pr
theorem a7R {n n':Nat}{Φ:j3}{Ψ:j6}{l:List Nod}(hL:l.length<=1000000000)(H:∀x∈l,∀w,wt w+100000*x.sz<=2000000000000->S2 (E2 2 (100000*x.sz) w) (Φ.E5 x w) (Ψ.F9 w x)):∀(m m' i:Nat) (w:List Str),l.length<m+i->l.length<m'+i->i<=l.length->wt w+100000*szN (l.drop i)+2<=2000000000000->S2 (E2 0 (100000*szN (l.drop i)) w) (a0W n Φ l m (i:Int) w) (a3u n' Ψ l m' w (i:Int))
 | 0,_,_,_,_,_,_,_=>by omega
 | _+1,0,_,_,_,_,_,_=>by omega
 | m+1,m'+1,i,w,h1,h2,h3,h4=>by
  rw[a0W.eq_2,a3u.eq_2];rcases Nat.lt_or_ge i l.length with h|h
  ·have hl:=G5 (l.drop i);rw[List.length_drop]at hl;have hd:=drop_eq h;rw[hd,K6]at h4 hl ⊢;have ih1:=fun w=>H l[i] (List.getElem_mem h) w;have ih2:=fun w=>a7R (n:=n) (n':=n') (Φ:=Φ) (Ψ:=Ψ) hL H m m' (i+1) w (by omega) (by omega) (by omega);simp only[R4 (show(i:Int)<(l.length:Int)by omega),O3 h,L6 (show i<=1000000000000 by omega)];rcases Nat.eq_zero_or_pos i with rfl|hi
   ·simp only[O8 (show ¬(0:Int)<((0:Nat):Int)by omega)];exact pt
   ·simp only[R4 (show(0:Int)<(i:Int)by omega)];exact pt
  ·simp only[O8 (show ¬(i:Int)<(l.length:Int)by omega)];exact pt
theorem c06 {n n':Nat}{Φ:j3}{Ψ:j6}{op:Int}{s:Str}{k:Int}{t:Typ}{ts:List Typ}{a:Int}{l:List Nod}(hL:l.length<=1000000000)(H:∀x∈l,∀w,wt w+100000*x.sz<=2000000000000->S2 (E2 2 (100000*x.sz) w) (Φ.E5 x w) (Ψ.F9 w x)):∀(m m' i:Nat) (w:List Str),l.length<m+i->l.length<m'+i->i<=l.length->wt w+100000*szN (l.drop i)+2<=2000000000000->S2 (E2 0 (100000*szN (l.drop i)) w) (a0W n Φ l m (i:Int) w) (a2k n' Ψ ⟨op,s,k,t,ts,l,a⟩ m' w (i:Int))
 | 0,_,_,_,_,_,_,_=>by omega
 | _+1,0,_,_,_,_,_,_=>by omega
 | m+1,m'+1,i,w,h1,h2,h3,h4=>by
  rw[a0W.eq_2,a2k.eq_2];rcases Nat.lt_or_ge i l.length with h|h
  ·have hl:=G5 (l.drop i);rw[List.length_drop]at hl;have hd:=drop_eq h;rw[hd,K6]at h4 hl ⊢;have ih1:=fun w=>H l[i] (List.getElem_mem h) w;have ih2:=fun w=>c06 (n:=n) (n':=n') (Φ:=Φ) (Ψ:=Ψ) (op:=op) (s:=s) (k:=k) (t:=t) (ts:=ts) (a:=a) hL H m m' (i+1) w (by omega) (by omega) (by omega);simp only[R4 (show(i:Int)<(l.length:Int)by omega),O3 h,L6 (show i<=1000000000000 by omega)];rcases Nat.eq_zero_or_pos i with rfl|hi
   ·simp only[O8 (show ¬(0:Int)<((0:Nat):Int)by omega)];exact pt
   ·simp only[R4 (show(0:Int)<(i:Int)by omega)];exact pt
  ·simp only[O8 (show ¬(i:Int)<(l.length:Int)by omega)];exact pt
theorem b84 {n n':Nat}{Φ:j3}{Ψ:j6}{op:Int}{s:Str}{k:Int}{t:Typ}{ts:List Typ}{a op':Int}{s':Str}{k':Int}{t':Typ}{ts':List Typ}{a':Int}{l:List Nod}(hL:l.length<=1000000000)(H:∀x∈l,∀w,wt w+100000*x.sz<=2000000000000->S2 (E2 2 (100000*x.sz) w) (Φ.J6 x w) (Ψ.I6 w x)):∀(m m' i:Nat) (w:List Str),l.length<m+i->l.length<m'+i->i<=l.length->wt w+100000*szN (l.drop i)+2<=2000000000000->S2 (E2 0 (100000*szN (l.drop i)) w) (a3A n Φ ⟨op,s,k,t,ts,l,a⟩ m (i:Int) w) (a2M n' Ψ ⟨op',s',k',t',ts',l,a'⟩ m' w (i:Int))
 | 0,_,_,_,_,_,_,_=>by omega
 | _+1,0,_,_,_,_,_,_=>by omega
 | m+1,m'+1,i,w,h1,h2,h3,h4=>by
  rw[a3A.eq_2,a2M.eq_2];rcases Nat.lt_or_ge i l.length with h|h
  ·have hl:=G5 (l.drop i);rw[List.length_drop]at hl;have hd:=drop_eq h;rw[hd,K6]at h4 hl ⊢;have ih1:=fun w=>H l[i] (List.getElem_mem h) w;have ih2:=fun w=>b84 (n:=n) (n':=n') (Φ:=Φ) (Ψ:=Ψ) (op:=op) (s:=s) (k:=k) (t:=t) (ts:=ts) (a:=a) (op':=op') (s':=s') (k':=k') (t':=t') (ts':=ts') (a':=a') hL H m m' (i+1) w (by omega) (by omega) (by omega);simp only[R4 (show(i:Int)<(l.length:Int)by omega),O3 h,L6 (show i<=1000000000000 by omega)];exact pt
  ·simp only[O8 (show ¬(i:Int)<(l.length:Int)by omega)];exact pt
theorem recv {n n':Nat}{x:Nod}{w:List Str}(h1:1<=n)(h2:1<=n')(hx:∀w,wt w+100000*x.sz<=2000000000000->S2 (E2 2 (100000*x.sz) w) ((j3.fs (n-1)).E5 x w) ((j6.fs (n'-1)).F9 w x))(hw:wt w+100000*x.sz+2<=2000000000000):S2 (E2 0 (100000*x.sz+2) w) ((j3.fs n).L8 x w) ((a3n x).bind fun b=>(j6.fs n').W9 w x b):=by
 rw[fe9 n h1];unfold a1g a3n;simp only[fr6 n' h2,a2N];have ih1:=hx;cases eqB x.op 61<;>cases eqB x.op 63<;>cases eqB x.op 66<;>cases eqB x.op 65<;>exact pt
theorem t_recv {A B:Type}{Q:A->B->Prop}{n n':Nat}{x:Nod}{w:List Str}{f:List Str->Option A}{g:List Str->Option B}(hx:RE x)(h1:40*x.sz+41<=n)(h2:40*x.sz+41<=n')(hw:wt w+100000*x.sz+2<=2000000000000)(h:∀w':List Str,wt w'<=wt w+100000*x.sz+2->S2 Q (f w') (g w')):S2 Q (((j3.fs n).L8 x w).bind f) ((a3n x).bind fun b=>((j6.fs n').W9 w x b).bind g):=by
 have:=a6r (recv (n:=n) (n':=n') (by omega) (by omega) (fun w hw=>hx (n-1) (n'-1) w (by omega) (by omega) hw) hw) h;simpa only[NF]using this
theorem a8G {n n':Nat}{t:Typ}(g:GT t)(w:List Str)(h1:10*t.sz+10<=n)(h2:10*t.sz+10<=n')(hw:wt w+100000*t.sz<=2000000000000):S2 (E2 2 (100000*t.sz) w) (H6 n t w) (I7 n' w t):=c7n g n n' w h1 h2 hw
theorem b0B {A B:Type}{Q:A->B->Prop}{s:Str}{f:Str->Option A}{R:Option B}(hs:s.length<=20000)(h:S2 Q (f (Rp.esc s)) R):S2 Q ((b7J s).bind f) R:=by
 unfold b7J leN;rw[decide_eq_true (by omega)];exact h
theorem b7l {a b:Str}(h:a.length+b.length<=100000):cat a b=some (a++b):=by
 unfold cat
 rw[leB_t (by omega)]
theorem escs {s:Str}(hs:s.length<=20000):(b7J s=some (Rp.esc s)/\escR s=some (Rp.esc s))/\(Rp.esc s).length<=40000:=by
 have:=Rp.b3s s;unfold b7J escR leN;rw[decide_eq_true (by omega)];exact⟨⟨rfl,rfl⟩,by omega⟩
theorem b65 {n:Int}(h:-9223372036854775808<=n/\n<=9223372036854775807):rngB n=true:=by
 unfold rngB;rw[decide_eq_true h.1,decide_eq_true h.2];rfl
theorem itoas {n:Int}(h:-9223372036854775808<=n/\n<=9223372036854775807):b7r n=some (Lib.itoa n):=by
 unfold b7r;rw[b65 h]
theorem w64_rng (n:Int):-9223372036854775808<=w64 n/\w64 n<=9223372036854775807:=by
 unfold w64;simp only[IntKind.wrap,IntKind.bits,IntKind.signed];simp;omega
theorem sub1 {n:Int}(hn:-9223372036854775808<=n/\n<=9223372036854775807):subS (Lib.itoa n) 1 ((Lib.itoa n).length:Int)=some ((Lib.itoa n).drop 1):=by
 have h:=(b3A (b65 hn)).1;have h1:inI 1 ((Lib.itoa n).length:Int) (Lib.itoa n).length=true:=by simp[inI];omega
 simp[subS,h1]
theorem wrT (n:Nat)(h:1<=n)(x:Nod)(w:List Str):(j6.fs n).W9 w x true =(app 16 w ([[40]]:List Str)).bind fun l5=>((j6.fs (n-1)).F9 l5 x).bind fun r6=>app 16 r6 ([[41]]:List Str):=by
 rw[fr6 n h];simp only[a2N,Bool.not_true,cond_false,BSm]
theorem LEN:(∀(x:Nod) (r:List Nod),decide ((((x::r).length:Nat):Int)=0)=false)/\decide (((([]:List Nod).length:Nat):Int)=0)=true:=⟨fun x r=>decide_eq_false (by simp only[List.length_cons];omega),by decide⟩
theorem p_put0 {B:Type}{Q:List Str->B->Prop}{l m:List Str}{R:Option B}(h1:wt l<=4000000000000)(h2:m.length<=100)(h:S2 Q (some (l++m)) R):S2 Q (j5 m l) R:=by
 unfold j5;rw[b8m h1 h2];exact h
theorem r_put0 {B:Type}{Q:B->List Str->Prop}{l m:List Str}{R:Option B}(h1:wt l<=4000000000000)(h2:m.length<=100)(h:S2 Q R (some (l++m))):S2 Q R (app 16 l m):=by
 rw[b8m h1 h2];exact h
theorem pn {P:Prop}(x:P:=by
 repeat' first
 | with_reducible assumption
 |(with_reducible intro _ h;replace h:=h;simp only[WT]at h)
 | with_reducible intro _
 |(simp (disch:=omega) only[NF,fe1,fe2,fe3,fe4,fe5,fe6,fe7,fe8,fr1,fr2,fr3,fr4,fr5,wrT,LIT,LEN,BSm,SZ,a0j,Int.reduceEq,decide_false,decide_true,V7,a3s,a2S,a2t,a0n,a1j,a5b])
 |(simp (disch:=omega) only[NF,fe1,fe2,fe3,fe4,fe5,fe6,fe7,fe8,fr1,fr2,fr3,fr4,fr5,wrT,LIT,LEN,BSm,SZ,a0j,Int.reduceEq,decide_false,decide_true,J2,a2v,Q7,a0I,Q7,a0I,u18_0,u18_1,u25,u39_0,u39_1,u8_2,u8_3,u31,u39b])
 |(simp only[he,NF])
 | with_reducible refine a5j ?_ ?_ ?_
 | with_reducible refine a5m ?_ ?_ ?_
 | with_reducible refine p_put0 ?_ ?_ ?_
 | with_reducible refine r_put0 ?_ ?_ ?_
 | with_reducible refine a6r (ih1 _ ?_) ?_
 | with_reducible refine a6r (ih2 _ ?_) ?_
 | with_reducible refine a6r (hx _ _ _ ?_ ?_ ?_) ?_
 | with_reducible refine a6r (hy _ _ _ ?_ ?_ ?_) ?_
 | with_reducible refine a6r (hz _ _ _ ?_ ?_ ?_) ?_
 | with_reducible refine a6r (a8G hg _ ?_ ?_ ?_) ?_
 | with_reducible refine t_recv hx ?_ ?_ ?_ ?_
 | with_reducible refine b8A (ih1 _ ?_) ?_
 | with_reducible refine b8A (ih2 _ ?_) ?_
 | with_reducible refine b8A (hx _ _ _ ?_ ?_ ?_) ?_
 | with_reducible refine b8A (hy _ _ _ ?_ ?_ ?_) ?_
 | with_reducible refine b8A (hz _ _ _ ?_ ?_ ?_) ?_
 | with_reducible refine b8A (a8G hg _ ?_ ?_ ?_) ?_
 | with_reducible refine e2_ok ?_ ?_
 | exact rfl
 |(simp only[List.append_assoc,List.cons_append,List.nil_append];done)
 | omega
 |(simp only[WT];omega)):P:=x
section
variable {s:Str} {a:Int} {x y z:Nod} {l:List Nod} {t:Typ}
theorem E_name (hs:s.length<=20000):RE ⟨54,s,0,zT,[],[],a⟩:=fun n n' w hn hn' hw=>by
 simp only[SZ]at hn hn' hw;exact pn
theorem E_use (hs:s.length<=20000):RE ⟨61,s,0,zT,[],[],a⟩:=fun n n' w hn hn' hw=>by
 simp only[SZ]at hn hn' hw;exact pn
theorem E_bin (hs:s.length<=20000)(hx:RE x)(hy:RE y):RE ⟨64,s,0,zT,[],[x,y],a⟩:=fun n n' w hn hn' hw=>by
 simp only[SZ]at hn hn' hw;exact pn
theorem E_neg (hx:RE x):RE ⟨66,[],0,zT,[],[x],a⟩:=fun n n' w hn hn' hw=>by
 simp only[SZ]at hn hn' hw;exact pn
theorem E_not (hx:RE x):RE ⟨65,[],0,zT,[],[x],a⟩:=fun n n' w hn hn' hw=>by
 simp only[SZ]at hn hn' hw;exact pn
theorem E_lend (hx:RE x):RE ⟨62,[],0,zT,[],[x],a⟩:=fun n n' w hn hn' hw=>by
 simp only[SZ]at hn hn' hw;exact pn
theorem E_field (hs:s.length<=20000)(hx:RE x):RE ⟨55,s,0,zT,[],[x],a⟩:=fun n n' w hn hn' hw=>by
 simp only[SZ]at hn hn' hw;exact pn
end
end Go.Proofs.YtmippldlhnajkaaGreatDoor
