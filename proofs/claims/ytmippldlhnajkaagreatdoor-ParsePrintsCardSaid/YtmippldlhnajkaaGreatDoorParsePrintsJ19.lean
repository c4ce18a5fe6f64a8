/- Texts of ParsePrints, joined. -/
import Derived.Test.YtmippldlhnajkaaGreatDoorParsePrintsJ18
set_option maxRecDepth 100000
set_option maxHeartbeats 20000000
set_option linter.unusedSimpArgs false
set_option linter.unusedVariables false
set_option linter.unusedSectionVars false
namespace Go.Proofs.YtmippldlhnajkaaGreatDoor.Pr
open Go Go.Vm
attribute [local irreducible] Go.Vm.Ev Go.Vm.Os Go.Vm.OsP Go.Vm.Lp Go.Vm.E9 Go.Vm.J7 Go.Vm.J9 Go.Vm.E
abbrev b5l (l1 words2:List Str)(p:Option (List Str)):Prop:=OkF env p 58 [.ptr 0 0,.sl clS l1] [(0,.row [.st 1 clS words2]),(1,.tip (tpe 1 (List.length words2)) (List.length words2))] (b3H l1 words2)
instance c6V {l1 words2:List Str}:b5l l1 words2 (j5 l1 words2):=⟨fun{r} h=>by
 unfold j5 at h;refine A8 rfl Tryz.func58 rfl rfl ?_;exact blk⟩
abbrev a4K (t1:Typ)(words2:List Str)(p:Option (List Str)):Prop:=OkF env p 45 [.ptr 0 0,.agg [.i t1.kind,.str t1.name,.i t1.n,.sl w9 t1.args]] [(0,.row [.st 1 clS words2]),(1,.tip (tpe 1 (List.length words2)) (List.length words2))] (b3K t1 words2)
abbrev a4l (l1:List Typ)(words2:List Str)(p:Option (List Str)):Prop:=OkF env p 94 [.ptr 0 0,.sl w9 l1] [(0,.row [.st 1 clS words2]),(1,.tip (tpe 1 (List.length words2)) (List.length words2))] (b2S l1 words2)
abbrev a5k (l1:List Typ)(words2:List Str)(p:Option (List Str)):Prop:=OkF env p 95 [.ptr 0 0,.sl w9 l1,.func (.func 45) [.ptr 0 0] []] [(0,.row [.st 1 clS words2]),(1,.tip (tpe 1 (List.length words2)) (List.length words2))] (a8I l1 words2)
class q9.Ok (Φ:q9):Prop where
 H6:∀{t1:Typ} {words2:List Str},a4K t1 words2 (Φ.H6 t1 words2)
 R6:∀{l1:List Typ} {words2:List Str},a4l l1 words2 (Φ.R6 l1 words2)
 K5:∀{l1:List Typ} {words2:List Str},a5k l1 words2 (Φ.K5 l1 words2)
instance {Φ:q9} [h:q9.Ok Φ] {t1:Typ}{words2:List Str}:a4K t1 words2 (Φ.H6 t1 words2):=h.H6
instance {Φ:q9} [h:q9.Ok Φ] {l1:List Typ}{words2:List Str}:a4l l1 words2 (Φ.R6 l1 words2):=h.R6
instance {Φ:q9} [h:q9.Ok Φ] {l1:List Typ}{words2:List Str}:a5k l1 words2 (Φ.K5 l1 words2):=h.K5
theorem b3J (n:Nat){Φ:q9} [hΦ:q9.Ok Φ] {t1:Typ}{words2:List Str}:a4K t1 words2 (a3r n Φ t1 words2):=⟨fun{r} h=>by
 unfold a3r at h;obtain⟨t1_0,t1_1,t1_2,t1_3⟩:=t1;refine A8 rfl Tryz.func45 rfl rfl ?_;exact blk⟩
theorem b2R (n:Nat){Φ:q9} [hΦ:q9.Ok Φ] {l1:List Typ}{words2:List Str}:a4l l1 words2 (a2R n Φ l1 words2):=⟨fun{r} h=>by
 unfold a2R at h;refine A8 rfl Tryz.func94 rfl rfl ?_;exact blk⟩
theorem b4F (n:Nat){Φ:q9} [hΦ:q9.Ok Φ] {l1:List Typ}{words2:List Str}:a5k l1 words2 (a7h n Φ l1 words2):=⟨fun{r} h=>by
 unfold a7h at h;refine A8 rfl Tryz.func95 rfl rfl ?_;let kr:=fun r:List Str=>a0e env 95 2 Tryz.f95.results.toList (a8I l1 words2 r);let jl1:Jn 1 (Int×List Str):=⟨fun fr H z=>([(0,.ptr 0 0),(2,.func (.func 45) [.ptr 0 0] []),(8,.sl w9 l1),(9,.i (List.length l1:Int)),(10,.i z.1)],[(0,.row [.st 1 clS z.2]),(1,.tip (tpe 1 (List.length z.2)) (List.length z.2))])⟩
 let jn1:Jn 6 (List Str):=⟨fun fr H z=>([(0,.ptr 0 0),(2,.func (.func 45) [.ptr 0 0] []),(7,.ptr 2 0),(8,.sl w9 l1),(9,.i (List.length l1:Int)),(10,(lk 10 fr))],[(0,.row [.st 1 clS z]),(1,.tip (tpe 1 (List.length z)) (List.length z)),(2,oH H 512)])⟩
 exact blk⟩
theorem q9.ok:∀n,q9.Ok (q9.fs n)
 | 0=>⟨⟨fun h=>by cases h⟩,⟨fun h=>by cases h⟩,⟨fun h=>by cases h⟩⟩
 | n+1=>have:=q9.ok n;⟨b3J n,b2R n,b4F n⟩
instance c6W {n:Nat}{t1:Typ}{words2:List Str}:a4K t1 words2 (H6 n t1 words2):=(q9.ok n).H6
instance c5E {n:Nat}{l1:List Typ}{words2:List Str}:a4l l1 words2 (R6 n l1 words2):=(q9.ok n).R6
instance c8p {n:Nat}{l1:List Typ}{words2:List Str}:a5k l1 words2 (K5 n l1 words2):=(q9.ok n).K5
abbrev c6U (n1:Nod)(ops2:List Int)(p:Option (List Nod)):Prop:=OkF env p 60 [.agg (c0 n1.op n1.s n1.n n1.t.kind n1.t.name n1.t.n (.sl w9 n1.t.args) (.sl w9 n1.ts) (.sl C8 n1.l) n1.at_),.slice .sealed (List.length ops2) ((clI .i64) ops2)] [] (b5Y n1 ops2)
instance parse_of_I {n:Nat}{n1:Nod}{ops2:List Int}:c6U n1 ops2 (a1Y n n1 ops2):=⟨fun{r} h=>by
 unfold a1Y at h;obtain⟨n1_0,n1_1,n1_2,⟨n1_3,n1_4,n1_5,n1_6⟩,n1_7,n1_8,n1_9⟩:=n1;refine A8 rfl Tryz.func60 rfl rfl ?_;let kr:=fun r:List Nod=>a0e env 60 0 Tryz.f60.results.toList (b5Y (Nod.mk n1_0 n1_1 n1_2 (Typ.mk n1_3 n1_4 n1_5 n1_6) n1_7 n1_8 n1_9) ops2 r);let jn1:Jn 13 (List Nod):=⟨fun fr H z=>([(5,.st 0 C8 z)],[(0,.tip (tpe 10 (List.length z)) (List.length z))])⟩
 let jl1:Jn 3 (List Nod×Int):=⟨fun fr H z=>([(1,.slice .sealed (List.length ops2) ((clI .i64) ops2)),(5,.st 0 C8 z.1),(11,.sl C8 n1_8),(12,.i (List.length n1_8:Int)),(13,.i z.2)],[(0,.tip (tpe 10 (List.length z.1)) (List.length z.1))])⟩
 let jn2:Jn 12 (List Nod×Int):=⟨fun fr H z=>([(1,.slice .sealed (List.length ops2) ((clI .i64) ops2)),(5,.st 0 C8 z.1),(11,.sl C8 n1_8),(12,.i (List.length n1_8:Int)),(13,.i z.2)],[(0,.tip (tpe 10 (List.length z.1)) (List.length z.1))])⟩
 let jl2:Jn 6 (List Nod×Int×Int):=⟨fun fr H z=>([(1,.slice .sealed (List.length ops2) ((clI .i64) ops2)),(5,.st 0 C8 z.1),(7,.ptr 1 0),(11,.sl C8 n1_8),(12,.i (List.length n1_8:Int)),(13,.i z.2.1),(17,.slice .sealed (List.length ops2) ((clI .i64) ops2)),(18,.i (List.length ops2:Int)),(19,.i z.2.2)],[(0,.tip (tpe 10 (List.length z.1)) (List.length z.1)),(1,oH H 512)])⟩
 let jn3:Jn 11 (List Nod):=⟨fun fr H z=>([(1,.slice .sealed (List.length ops2) ((clI .i64) ops2)),(5,.st 0 C8 z),(7,.ptr 1 0),(11,.sl C8 n1_8),(12,.i (List.length n1_8:Int)),(13,(lk 13 fr)),(17,.slice .sealed (List.length ops2) ((clI .i64) ops2)),(18,.i (List.length ops2:Int)),(19,(lk 19 fr))],[(0,.tip (tpe 10 (List.length z)) (List.length z)),(1,oH H 1)])⟩
 exact blk⟩
abbrev b2T (n1:Nod)(words2:List Str)(p:Option (List Str)):Prop:=OkF env p 62 [.ptr 0 0,.agg (c0 n1.op n1.s n1.n n1.t.kind n1.t.name n1.t.n (.sl w9 n1.t.args) (.sl w9 n1.ts) (.sl C8 n1.l) n1.at_)] [(0,.row [.st 1 clS words2]),(1,.tip (tpe 1 (List.length words2)) (List.length words2))] (a6I n1 words2)
instance c3p {n:Nat}{n1:Nod}{words2:List Str}:b2T n1 words2 (a1G n n1 words2):=⟨fun{r} h=>by
 unfold a1G at h;obtain⟨n1_0,n1_1,n1_2,⟨n1_3,n1_4,n1_5,n1_6⟩,n1_7,n1_8,n1_9⟩:=n1;refine A8 rfl Tryz.func62 rfl rfl ?_;let kr:=fun r:List Str=>a0e env 62 2 Tryz.f62.results.toList (a6I (Nod.mk n1_0 n1_1 n1_2 (Typ.mk n1_3 n1_4 n1_5 n1_6) n1_7 n1_8 n1_9) words2 r);let jl1:Jn 2 (Int×List Str):=⟨fun fr H z=>([(0,.ptr 0 0),(7,.sl C8 n1_8),(8,.i (List.length n1_8:Int)),(9,.i z.1)],[(0,.row [.st 1 clS z.2]),(1,.tip (tpe 1 (List.length z.2)) (List.length z.2))])⟩
 let jn1:Jn 8 (List Str):=⟨fun fr H z=>([(0,.ptr 0 0),(5,.ptr 2 0),(7,.sl C8 n1_8),(8,.i (List.length n1_8:Int)),(9,(lk 9 fr))],[(0,.row [.st 1 clS z]),(1,.tip (tpe 1 (List.length z)) (List.length z)),(2,oH H 384)])⟩
 exact blk⟩
abbrev a9B (g1:Nod)(words2:List Str)(p:Option (List Str)):Prop:=OkF env p 117 [.agg (c0 g1.op g1.s g1.n g1.t.kind g1.t.name g1.t.n (.sl w9 g1.t.args) (.sl w9 g1.ts) (.sl C8 g1.l) g1.at_),.ptr 0 0] [(0,.row [.ptr 1 0]),(1,.row [.st 2 clS words2]),(2,.tip (tpe 1 (List.length words2)) (List.length words2))] (a8A g1 words2)
instance b9o {n:Nat}{g1:Nod}{words2:List Str}:a9B g1 words2 (a02 n g1 words2):=⟨fun{r} h=>by
 unfold a02 at h;obtain⟨g1_0,g1_1,g1_2,⟨g1_3,g1_4,g1_5,g1_6⟩,g1_7,g1_8,g1_9⟩:=g1;refine A8 rfl Tryz.func117 rfl rfl ?_;exact blk⟩
abbrev b5X (l1:List Nod)(words2:List Str)(p:Option (List Str)):Prop:=OkF env p 82 [.ptr 0 0,.sl C8 l1,.func (.func 117) [] [.ptr 1 0]] [(0,.row [.st 2 clS words2]),(1,.row [.ptr 0 0]),(2,.tip (tpe 1 (List.length words2)) (List.length words2))] (a8H l1 words2)
instance c8o {n:Nat}{l1:List Nod}{words2:List Str}:b5X l1 words2 (a6v n l1 words2):=⟨fun{r} h=>by
 unfold a6v at h;refine A8 rfl Tryz.func82 rfl rfl ?_;let kr:=fun r:List Str=>a0e env 82 3 Tryz.f82.results.toList (a8H l1 words2 r);let jl1:Jn 1 (Int×List Str):=⟨fun fr H z=>([(0,.ptr 0 0),(2,.func (.func 117) [] [.ptr 1 0]),(8,.sl C8 l1),(9,.i (List.length l1:Int)),(10,.i z.1)],[(0,.row [.st 2 clS z.2]),(1,.row [.ptr 0 0]),(2,.tip (tpe 1 (List.length z.2)) (List.length z.2))])⟩
 let jn1:Jn 6 (List Str):=⟨fun fr H z=>([(0,.ptr 0 0),(2,.func (.func 117) [] [.ptr 1 0]),(7,.ptr 3 0),(8,.sl C8 l1),(9,.i (List.length l1:Int)),(10,(lk 10 fr))],[(0,.row [.st 2 clS z]),(1,.row [.ptr 0 0]),(2,.tip (tpe 1 (List.length z)) (List.length z)),(3,oH H 512)])⟩
 exact blk⟩
abbrev b1h (n1:Nod)(words2:List Str)(p:Option (List Str)):Prop:=OkF env p 59 [.ptr 0 0,.agg (c0 n1.op n1.s n1.n n1.t.kind n1.t.name n1.t.n (.sl w9 n1.t.args) (.sl w9 n1.ts) (.sl C8 n1.l) n1.at_)] [(0,.row [.st 1 clS words2]),(1,.tip (tpe 1 (List.length words2)) (List.length words2))] (a94 n1 words2)
instance c1l {n:Nat}{n1:Nod}{words2:List Str}:b1h n1 words2 (a0t n n1 words2):=⟨fun{r} h=>by
 unfold a0t at h;obtain⟨n1_0,n1_1,n1_2,⟨n1_3,n1_4,n1_5,n1_6⟩,n1_7,n1_8,n1_9⟩:=n1;refine A8 rfl Tryz.func59 rfl rfl ?_;exact blk⟩
abbrev c2I (n1:Nod)(i2:Int)(p:Option (List Nod)):Prop:=OkF env p 147 [.agg (c0 n1.op n1.s n1.n n1.t.kind n1.t.name n1.t.n (.sl w9 n1.t.args) (.sl w9 n1.ts) (.sl C8 n1.l) n1.at_),.i i2] [] (b9n n1 i2)
instance parse_rest_I {n1:Nod}{i2:Int}:c2I n1 i2 (a6C n1 i2):=⟨fun{r} h=>by
 unfold a6C at h;obtain⟨n1_0,n1_1,n1_2,⟨n1_3,n1_4,n1_5,n1_6⟩,n1_7,n1_8,n1_9⟩:=n1;refine A8 rfl Tryz.func147 rfl rfl ?_;exact blk⟩
abbrev b2Z (n1:Int)(words2:List Str)(p:Option (List Str)):Prop:=OkF env p 76 [.ptr 0 0,.i n1] [(0,.row [.st 1 clS words2]),(1,.tip (tpe 1 (List.length words2)) (List.length words2))] (a6L n1 words2)
instance c3s {n1:Int}{words2:List Str}:b2Z n1 words2 (a1H n1 words2):=⟨fun{r} h=>by
 unfold a1H at h;refine A8 rfl Tryz.func76 rfl rfl ?_;let kr:=fun r:List Str=>a0e env 76 2 Tryz.f76.results.toList (a6L n1 words2 r);let jn1:Jn 5 (Str×List Str):=⟨fun fr H z=>([(0,.ptr 0 0),(4,.str z.1)],[(0,.row [.st 1 clS z.2]),(1,.tip (tpe 1 (List.length z.2)) (List.length z.2))])⟩
 exact blk⟩
abbrev b3I (n1:Int)(words2:List Str)(p:Option (List Str)):Prop:=OkF env p 77 [.ptr 0 0,.i n1] [(0,.row [.st 1 clS words2]),(1,.tip (tpe 1 (List.length words2)) (List.length words2))] (b2f n1 words2)
instance c4Q {n1:Int}{words2:List Str}:b3I n1 words2 (a2f n1 words2):=⟨fun{r} h=>by
 unfold a2f at h;refine A8 rfl Tryz.func77 rfl rfl ?_;exact blk⟩
abbrev a3f (n1:Nod)(words2:List Str)(p:Option (List Str)):Prop:=OkF env p 177 [.ptr 0 0,.agg (c0 n1.op n1.s n1.n n1.t.kind n1.t.name n1.t.n (.sl w9 n1.t.args) (.sl w9 n1.ts) (.sl C8 n1.l) n1.at_)] [(0,.row [.st 1 clS words2]),(1,.tip (tpe 1 (List.length words2)) (List.length words2))] (b0K n1 words2)
abbrev a3P (l1:List Nod)(words2:List Str)(p:Option (List Str)):Prop:=OkF env p 82 [.ptr 0 0,.sl C8 l1,.func (.func 177) [.ptr 0 0] []] [(0,.row [.st 1 clS words2]),(1,.tip (tpe 1 (List.length words2)) (List.length words2))] (a7g l1 words2)
class A7.Ok (Φ:A7):Prop where
 K7:∀{n1:Nod} {words2:List Str},a3f n1 words2 (Φ.K7 n1 words2)
 Y0:∀{l1:List Nod} {words2:List Str},a3P l1 words2 (Φ.Y0 l1 words2)
instance {Φ:A7} [h:A7.Ok Φ] {n1:Nod}{words2:List Str}:a3f n1 words2 (Φ.K7 n1 words2):=h.K7
instance {Φ:A7} [h:A7.Ok Φ] {l1:List Nod}{words2:List Str}:a3P l1 words2 (Φ.Y0 l1 words2):=h.Y0
theorem b0J (n:Nat){Φ:A7} [hΦ:A7.Ok Φ] {n1:Nod}{words2:List Str}:a3f n1 words2 (a0H n Φ n1 words2):=⟨fun{r} h=>by
 unfold a0H at h;obtain⟨n1_0,n1_1,n1_2,⟨n1_3,n1_4,n1_5,n1_6⟩,n1_7,n1_8,n1_9⟩:=n1;refine A8 rfl Tryz.func177 rfl rfl ?_;exact blk⟩
theorem b2d (n:Nat){Φ:A7} [hΦ:A7.Ok Φ] {l1:List Nod}{words2:List Str}:a3P l1 words2 (a2u n Φ l1 words2):=⟨fun{r} h=>by
 unfold a2u at h;refine A8 rfl Tryz.func82 rfl rfl ?_;let kr:=fun r:List Str=>a0e env 82 2 Tryz.f82.results.toList (a7g l1 words2 r);let jl1:Jn 1 (Int×List Str):=⟨fun fr H z=>([(0,.ptr 0 0),(2,.func (.func 177) [.ptr 0 0] []),(8,.sl C8 l1),(9,.i (List.length l1:Int)),(10,.i z.1)],[(0,.row [.st 1 clS z.2]),(1,.tip (tpe 1 (List.length z.2)) (List.length z.2))])⟩
 let jn1:Jn 6 (List Str):=⟨fun fr H z=>([(0,.ptr 0 0),(2,.func (.func 177) [.ptr 0 0] []),(7,.ptr 2 0),(8,.sl C8 l1),(9,.i (List.length l1:Int)),(10,(lk 10 fr))],[(0,.row [.st 1 clS z]),(1,.tip (tpe 1 (List.length z)) (List.length z)),(2,oH H 512)])⟩
 exact blk⟩
theorem A7.ok:∀n,A7.Ok (A7.fs n)
 | 0=>⟨⟨fun h=>by cases h⟩,⟨fun h=>by cases h⟩⟩
 | n+1=>have:=A7.ok n;⟨b0J n,b2d n⟩
instance c2K {n:Nat}{n1:Nod}{words2:List Str}:a3f n1 words2 (K7 n n1 words2):=(A7.ok n).K7
instance c4O {n:Nat}{l1:List Nod}{words2:List Str}:a3P l1 words2 (Y0 n l1 words2):=(A7.ok n).Y0
abbrev c4K (n1:Nod)(i2:Int)(p:Option (Nod)):Prop:=OkF env p 80 [.agg (c0 n1.op n1.s n1.n n1.t.kind n1.t.name n1.t.n (.sl w9 n1.t.args) (.sl w9 n1.ts) (.sl C8 n1.l) n1.at_),.i i2] [] (c0l n1 i2)
instance parse_kid_I {n1:Nod}{i2:Int}:c4K n1 i2 (R5 n1 i2):=⟨fun{r} h=>by
 unfold R5 at h;obtain⟨n1_0,n1_1,n1_2,⟨n1_3,n1_4,n1_5,n1_6⟩,n1_7,n1_8,n1_9⟩:=n1;refine A8 rfl Tryz.func80 rfl rfl ?_;exact blk⟩
abbrev b0I (p1:Nod)(words2:List Str)(p:Option (List Str)):Prop:=OkF env p 170 [.agg (c0 p1.op p1.s p1.n p1.t.kind p1.t.name p1.t.n (.sl w9 p1.t.args) (.sl w9 p1.ts) (.sl C8 p1.l) p1.at_),.ptr 0 0] [(0,.row [.ptr 1 0]),(1,.row [.st 2 clS words2]),(2,.tip (tpe 1 (List.length words2)) (List.length words2))] (a5B p1 words2)
instance c0m {n:Nat}{p1:Nod}{words2:List Str}:b0I p1 words2 (a3e n p1 words2):=⟨fun{r} h=>by
 unfold a3e at h;obtain⟨p1_0,p1_1,p1_2,⟨p1_3,p1_4,p1_5,p1_6⟩,p1_7,p1_8,p1_9⟩:=p1;refine A8 rfl Tryz.func170 rfl rfl ?_;let kr:=fun r:List Str=>a0e env 170 3 Tryz.f170.results.toList (a5B (Nod.mk p1_0 p1_1 p1_2 (Typ.mk p1_3 p1_4 p1_5 p1_6) p1_7 p1_8 p1_9) words2 r);let jn1:Jn 6 (List Str):=⟨fun fr H z=>([(1,.ptr 0 0),(2,.ptr 3 0)],[(0,.row [.ptr 1 0]),(1,.row [.st 2 clS z]),(2,.tip (tpe 1 (List.length z)) (List.length z)),(3,oH H 192)])⟩
 exact blk⟩
abbrev b3F (l1:List Nod)(words2:List Str)(p:Option (List Str)):Prop:=OkF env p 82 [.ptr 0 0,.sl C8 l1,.func (.func 170) [] [.ptr 1 0]] [(0,.row [.st 2 clS words2]),(1,.row [.ptr 0 0]),(2,.tip (tpe 1 (List.length words2)) (List.length words2))] (a7d l1 words2)
instance c4L {n:Nat}{l1:List Nod}{words2:List Str}:b3F l1 words2 (a3q n l1 words2):=⟨fun{r} h=>by
 unfold a3q at h;refine A8 rfl Tryz.func82 rfl rfl ?_;let kr:=fun r:List Str=>a0e env 82 3 Tryz.f82.results.toList (a7d l1 words2 r);let jl1:Jn 1 (Int×List Str):=⟨fun fr H z=>([(0,.ptr 0 0),(2,.func (.func 170) [] [.ptr 1 0]),(8,.sl C8 l1),(9,.i (List.length l1:Int)),(10,.i z.1)],[(0,.row [.st 2 clS z.2]),(1,.row [.ptr 0 0]),(2,.tip (tpe 1 (List.length z.2)) (List.length z.2))])⟩
 let jn1:Jn 6 (List Str):=⟨fun fr H z=>([(0,.ptr 0 0),(2,.func (.func 170) [] [.ptr 1 0]),(7,.ptr 3 0),(8,.sl C8 l1),(9,.i (List.length l1:Int)),(10,(lk 10 fr))],[(0,.row [.st 2 clS z]),(1,.row [.ptr 0 0]),(2,.tip (tpe 1 (List.length z)) (List.length z)),(3,oH H 512)])⟩
 exact blk⟩
abbrev b21 (l1:List Nod)(words2:List Str)(p:Option (List Str)):Prop:=OkF env p 119 [.ptr 0 0,.sl C8 l1] [(0,.row [.st 1 clS words2]),(1,.tip (tpe 1 (List.length words2)) (List.length words2))] (b1j l1 words2)
instance c3t {n:Nat}{l1:List Nod}{words2:List Str}:b21 l1 words2 (a1I n l1 words2):=⟨fun{r} h=>by
 unfold a1I at h;refine A8 rfl Tryz.func119 rfl rfl ?_;exact blk⟩
abbrev b22 (t1:Typ)(words2:List Str)(p:Option (List Str)):Prop:=OkF env p 120 [.ptr 0 0,.agg [.i t1.kind,.str t1.name,.i t1.n,.sl w9 t1.args]] [(0,.row [.st 1 clS words2]),(1,.tip (tpe 1 (List.length words2)) (List.length words2))] (b1k t1 words2)
instance c3u {n:Nat}{t1:Typ}{words2:List Str}:b22 t1 words2 (a0q n t1 words2):=⟨fun{r} h=>by
 unfold a0q at h;obtain⟨t1_0,t1_1,t1_2,t1_3⟩:=t1;refine A8 rfl Tryz.func120 rfl rfl ?_;exact blk⟩
abbrev a3Q (n1:Nod)(words2:List Str)(p:Option (List Str)):Prop:=OkF env p 118 [.ptr 0 0,.agg (c0 n1.op n1.s n1.n n1.t.kind n1.t.name n1.t.n (.sl w9 n1.t.args) (.sl w9 n1.ts) (.sl C8 n1.l) n1.at_)] [(0,.row [.st 1 clS words2]),(1,.tip (tpe 1 (List.length words2)) (List.length words2))] (a7i n1 words2)
abbrev a2n (n1:Nod)(words2:List Str)(p:Option (List Str)):Prop:=OkF env p 144 [.ptr 0 0,.agg (c0 n1.op n1.s n1.n n1.t.kind n1.t.name n1.t.n (.sl w9 n1.t.args) (.sl w9 n1.ts) (.sl C8 n1.l) n1.at_)] [(0,.row [.st 1 clS words2]),(1,.tip (tpe 1 (List.length words2)) (List.length words2))] (a5C n1 words2)
abbrev a4n (n1:Nod)(words2:List Str)(p:Option (List Str)):Prop:=OkF env p 41 [.ptr 0 0,.agg (c0 n1.op n1.s n1.n n1.t.kind n1.t.name n1.t.n (.sl w9 n1.t.args) (.sl w9 n1.ts) (.sl C8 n1.l) n1.at_)] [(0,.row [.st 1 clS words2]),(1,.tip (tpe 1 (List.length words2)) (List.length words2))] (b2X n1 words2)
abbrev a3B (n1:Nod)(words2:List Str)(p:Option (List Str)):Prop:=OkF env p 79 [.ptr 0 0,.agg (c0 n1.op n1.s n1.n n1.t.kind n1.t.name n1.t.n (.sl w9 n1.t.args) (.sl w9 n1.ts) (.sl C8 n1.l) n1.at_)] [(0,.row [.st 1 clS words2]),(1,.tip (tpe 1 (List.length words2)) (List.length words2))] (a6J n1 words2)
abbrev a3c (n1:Nod)(words2:List Str)(p:Option (List Str)):Prop:=OkF env p 81 [.ptr 0 0,.agg (c0 n1.op n1.s n1.n n1.t.kind n1.t.name n1.t.n (.sl w9 n1.t.args) (.sl w9 n1.ts) (.sl C8 n1.l) n1.at_)] [(0,.row [.st 1 clS words2]),(1,.tip (tpe 1 (List.length words2)) (List.length words2))] (a6j n1 words2)
abbrev a3O (l1:List Nod)(words2:List Str)(p:Option (List Str)):Prop:=OkF env p 82 [.ptr 0 0,.sl C8 l1,.func (.func 41) [.ptr 0 0] []] [(0,.row [.st 1 clS words2]),(1,.tip (tpe 1 (List.length words2)) (List.length words2))] (a7f l1 words2)
abbrev a4L (n1:Nod)(words2:List Str)(p:Option (List Str)):Prop:=OkF env p 83 [.ptr 0 0,.agg (c0 n1.op n1.s n1.n n1.t.kind n1.t.name n1.t.n (.sl w9 n1.t.args) (.sl w9 n1.ts) (.sl C8 n1.l) n1.at_)] [(0,.row [.st 1 clS words2]),(1,.tip (tpe 1 (List.length words2)) (List.length words2))] (b3M n1 words2)
abbrev a2H (n1:Nod)(words2:List Str)(p:Option (List Str)):Prop:=OkF env p 145 [.ptr 0 0,.agg (c0 n1.op n1.s n1.n n1.t.kind n1.t.name n1.t.n (.sl w9 n1.t.args) (.sl w9 n1.ts) (.sl C8 n1.l) n1.at_)] [(0,.row [.st 1 clS words2]),(1,.tip (tpe 1 (List.length words2)) (List.length words2))] (a5Z n1 words2)
abbrev a4m (l1:List Nod)(words2:List Str)(p:Option (List Str)):Prop:=OkF env p 146 [.ptr 0 0,.sl C8 l1] [(0,.row [.st 1 clS words2]),(1,.tip (tpe 1 (List.length words2)) (List.length words2))] (b2V l1 words2)
class j3.Ok (Φ:j3):Prop where
 I4:∀{n1:Nod} {words2:List Str},a3Q n1 words2 (Φ.I4 n1 words2)
 J6:∀{n1:Nod} {words2:List Str},a2n n1 words2 (Φ.J6 n1 words2)
 E5:∀{n1:Nod} {words2:List Str},a4n n1 words2 (Φ.E5 n1 words2)
 V8:∀{n1:Nod} {words2:List Str},a3B n1 words2 (Φ.V8 n1 words2)
 U6:∀{n1:Nod} {words2:List Str},a3c n1 words2 (Φ.U6 n1 words2)
 V4:∀{l1:List Nod} {words2:List Str},a3O l1 words2 (Φ.V4 l1 words2)
 a0o:∀{n1:Nod} {words2:List Str},a4L n1 words2 (Φ.a0o n1 words2)
 L8:∀{n1:Nod} {words2:List Str},a2H n1 words2 (Φ.L8 n1 words2)
 P6:∀{l1:List Nod} {words2:List Str},a4m l1 words2 (Φ.P6 l1 words2)
instance {Φ:j3} [h:j3.Ok Φ] {n1:Nod}{words2:List Str}:a3Q n1 words2 (Φ.I4 n1 words2):=h.I4
instance {Φ:j3} [h:j3.Ok Φ] {n1:Nod}{words2:List Str}:a2n n1 words2 (Φ.J6 n1 words2):=h.J6
instance {Φ:j3} [h:j3.Ok Φ] {n1:Nod}{words2:List Str}:a4n n1 words2 (Φ.E5 n1 words2):=h.E5
instance {Φ:j3} [h:j3.Ok Φ] {n1:Nod}{words2:List Str}:a3B n1 words2 (Φ.V8 n1 words2):=h.V8
instance {Φ:j3} [h:j3.Ok Φ] {n1:Nod}{words2:List Str}:a3c n1 words2 (Φ.U6 n1 words2):=h.U6
instance {Φ:j3} [h:j3.Ok Φ] {l1:List Nod}{words2:List Str}:a3O l1 words2 (Φ.V4 l1 words2):=h.V4
instance {Φ:j3} [h:j3.Ok Φ] {n1:Nod}{words2:List Str}:a4L n1 words2 (Φ.a0o n1 words2):=h.a0o
instance {Φ:j3} [h:j3.Ok Φ] {n1:Nod}{words2:List Str}:a2H n1 words2 (Φ.L8 n1 words2):=h.L8
instance {Φ:j3} [h:j3.Ok Φ] {l1:List Nod}{words2:List Str}:a4m l1 words2 (Φ.P6 l1 words2):=h.P6
theorem b2e (n:Nat){Φ:j3} [hΦ:j3.Ok Φ] {n1:Nod}{words2:List Str}:a3Q n1 words2 (a2v n Φ n1 words2):=⟨fun{r} h=>by
 unfold a2v at h;obtain⟨n1_0,n1_1,n1_2,⟨n1_3,n1_4,n1_5,n1_6⟩,n1_7,n1_8,n1_9⟩:=n1;refine A8 rfl Tryz.func118 rfl rfl ?_;let kr:=fun r:List Str=>a0e env 118 2 Tryz.f118.results.toList (a7i (Nod.mk n1_0 n1_1 n1_2 (Typ.mk n1_3 n1_4 n1_5 n1_6) n1_7 n1_8 n1_9) words2 r);let jn1:Jn 8 (List Str):=⟨fun fr H z=>([(0,.ptr 0 0)],[(0,.row [.st 1 clS z]),(1,.tip (tpe 1 (List.length z)) (List.length z))])⟩
 let jl1:Jn 3 (Int×List Str):=⟨fun fr H z=>([(0,.ptr 0 0),(10,.sl C8 n1_8),(11,.i (List.length n1_8:Int)),(12,.i z.1)],[(0,.row [.st 1 clS z.2]),(1,.tip (tpe 1 (List.length z.2)) (List.length z.2))])⟩
 exact blk⟩
theorem a9C (n:Nat){Φ:j3} [hΦ:j3.Ok Φ] {n1:Nod}{words2:List Str}:a2n n1 words2 (J2 n Φ n1 words2):=⟨fun{r} h=>by
 unfold J2 at h;obtain⟨n1_0,n1_1,n1_2,⟨n1_3,n1_4,n1_5,n1_6⟩,n1_7,n1_8,n1_9⟩:=n1;refine A8 rfl Tryz.func144 rfl rfl ?_;let kr:=fun r:List Str=>a0e env 144 2 Tryz.f144.results.toList (a5C (Nod.mk n1_0 n1_1 n1_2 (Typ.mk n1_3 n1_4 n1_5 n1_6) n1_7 n1_8 n1_9) words2 r);let jn1:Jn 7 (List Str):=⟨fun fr H z=>([(0,.ptr 0 0),(3,.ptr 2 0)],[(0,.row [.st 1 clS z]),(1,.tip (tpe 1 (List.length z)) (List.length z)),(2,oH H 256)])⟩
 let jn2:Jn 11 (List Str):=⟨fun fr H z=>([(0,.ptr 0 0),(3,.ptr 2 0)],[(0,.row [.st 1 clS z]),(1,.tip (tpe 1 (List.length z)) (List.length z)),(2,oH H 2)])⟩
 let jn3:Jn 14 (List Str):=⟨fun fr H z=>([(0,.ptr 0 0)],[(0,.row [.st 1 clS z]),(1,.tip (tpe 1 (List.length z)) (List.length z))])⟩
 let jn4:Jn 47 (List Str):=⟨fun fr H z=>([(0,.ptr 0 0)],[(0,.row [.st 1 clS z]),(1,.tip (tpe 1 (List.length z)) (List.length z))])⟩
 let jl1:Jn 40 (Int×List Str):=⟨fun fr H z=>([(0,.ptr 0 0),(140,ow .sealed (lk 140 fr)),(141,(lk 141 fr)),(142,.i z.1)],[(0,.row [.st 1 clS z.2]),(1,.tip (tpe 1 (List.length z.2)) (List.length z.2))])⟩
 let jn5:Jn 52 (List Str):=⟨fun fr H z=>([(0,.ptr 0 0)],[(0,.row [.st 1 clS z]),(1,.tip (tpe 1 (List.length z)) (List.length z))])⟩
 exact blk⟩
theorem b2W (n:Nat){Φ:j3} [hΦ:j3.Ok Φ] {n1:Nod}{words2:List Str}:a4n n1 words2 (V7 n Φ n1 words2):=⟨fun{r} h=>by
 unfold V7 at h;obtain⟨n1_0,n1_1,n1_2,⟨n1_3,n1_4,n1_5,n1_6⟩,n1_7,n1_8,n1_9⟩:=n1;refine A8 rfl Tryz.func41 rfl rfl ?_;exact blk⟩
theorem b1i (n:Nat){Φ:j3} [hΦ:j3.Ok Φ] {n1:Nod}{words2:List Str}:a3B n1 words2 (a1Z n Φ n1 words2):=⟨fun{r} h=>by
 unfold a1Z at h;obtain⟨n1_0,n1_1,n1_2,⟨n1_3,n1_4,n1_5,n1_6⟩,n1_7,n1_8,n1_9⟩:=n1;refine A8 rfl Tryz.func79 rfl rfl ?_;let kr:=fun r:List Str=>a0e env 79 2 Tryz.f79.results.toList (a6J (Nod.mk n1_0 n1_1 n1_2 (Typ.mk n1_3 n1_4 n1_5 n1_6) n1_7 n1_8 n1_9) words2 r);let jl1:Jn 2 (Int×List Str):=⟨fun fr H z=>([(0,.ptr 0 0),(3,.ptr 2 0),(7,.sl C8 n1_8),(8,.i (List.length n1_8:Int)),(9,.i z.1)],[(0,.row [.st 1 clS z.2]),(1,.tip (tpe 1 (List.length z.2)) (List.length z.2)),(2,oH H 256)])⟩
 let jn1:Jn 12 (List Str):=⟨fun fr H z=>([(0,.ptr 0 0),(3,.ptr 2 0),(7,.sl C8 n1_8),(8,.i (List.length n1_8:Int)),(9,(lk 9 fr))],[(0,.row [.st 1 clS z]),(1,.tip (tpe 1 (List.length z)) (List.length z)),(2,oH H 2)])⟩
 exact blk⟩
theorem b0H (n:Nat){Φ:j3} [hΦ:j3.Ok Φ] {n1:Nod}{words2:List Str}:a3c n1 words2 (a1v n Φ n1 words2):=⟨fun{r} h=>by
 unfold a1v at h;obtain⟨n1_0,n1_1,n1_2,⟨n1_3,n1_4,n1_5,n1_6⟩,n1_7,n1_8,n1_9⟩:=n1;refine A8 rfl Tryz.func81 rfl rfl ?_;let kr:=fun r:List Str=>a0e env 81 2 Tryz.f81.results.toList (a6j (Nod.mk n1_0 n1_1 n1_2 (Typ.mk n1_3 n1_4 n1_5 n1_6) n1_7 n1_8 n1_9) words2 r);let jn1:Jn 15 (List Str):=⟨fun fr H z=>([(0,.ptr 0 0)],[(0,.row [.st 1 clS z]),(1,.tip (tpe 1 (List.length z)) (List.length z))])⟩
 let jl1:Jn 6 (Int×List Str):=⟨fun fr H z=>([(0,.ptr 0 0),(25,ow .sealed (lk 25 fr)),(26,(lk 26 fr)),(27,.i z.1)],[(0,.row [.st 1 clS z.2]),(1,.tip (tpe 1 (List.length z.2)) (List.length z.2))])⟩
 let jn2:Jn 14 (Int×List Str):=⟨fun fr H z=>([(0,.ptr 0 0),(25,ow .sealed (lk 25 fr)),(26,(lk 26 fr)),(27,.i z.1)],[(0,.row [.st 1 clS z.2]),(1,.tip (tpe 1 (List.length z.2)) (List.length z.2))])⟩
 let jl2:Jn 9 (Int×Int×List Str):=⟨fun fr H z=>([(0,.ptr 0 0),(25,ow .sealed (lk 25 fr)),(26,(lk 26 fr)),(27,.i z.1),(32,ow .sealed (agC (lk 30 fr) 8)),(33,(lk 33 fr)),(34,.i z.2.1)],[(0,.row [.st 1 clS z.2.2]),(1,.tip (tpe 1 (List.length z.2.2)) (List.length z.2.2))])⟩
 exact blk⟩
theorem b2c (n:Nat){Φ:j3} [hΦ:j3.Ok Φ] {l1:List Nod}{words2:List Str}:a3O l1 words2 (a2t n Φ l1 words2):=⟨fun{r} h=>by
 unfold a2t at h;refine A8 rfl Tryz.func82 rfl rfl ?_;let kr:=fun r:List Str=>a0e env 82 2 Tryz.f82.results.toList (a7f l1 words2 r);let jl1:Jn 1 (Int×List Str):=⟨fun fr H z=>([(0,.ptr 0 0),(2,.func (.func 41) [.ptr 0 0] []),(8,.sl C8 l1),(9,.i (List.length l1:Int)),(10,.i z.1)],[(0,.row [.st 1 clS z.2]),(1,.tip (tpe 1 (List.length z.2)) (List.length z.2))])⟩
 let jn1:Jn 6 (List Str):=⟨fun fr H z=>([(0,.ptr 0 0),(2,.func (.func 41) [.ptr 0 0] []),(7,.ptr 2 0),(8,.sl C8 l1),(9,.i (List.length l1:Int)),(10,(lk 10 fr))],[(0,.row [.st 1 clS z]),(1,.tip (tpe 1 (List.length z)) (List.length z)),(2,oH H 512)])⟩
 exact blk⟩
theorem b3L (n:Nat){Φ:j3} [hΦ:j3.Ok Φ] {n1:Nod}{words2:List Str}:a4L n1 words2 (a3s n Φ n1 words2):=⟨fun{r} h=>by
 unfold a3s at h;obtain⟨n1_0,n1_1,n1_2,⟨n1_3,n1_4,n1_5,n1_6⟩,n1_7,n1_8,n1_9⟩:=n1;refine A8 rfl Tryz.func83 rfl rfl ?_;exact blk⟩
theorem a95 (n:Nat){Φ:j3} [hΦ:j3.Ok Φ] {n1:Nod}{words2:List Str}:a2H n1 words2 (a1g n Φ n1 words2):=⟨fun{r} h=>by
 unfold a1g at h;obtain⟨n1_0,n1_1,n1_2,⟨n1_3,n1_4,n1_5,n1_6⟩,n1_7,n1_8,n1_9⟩:=n1;refine A8 rfl Tryz.func145 rfl rfl ?_;let kr:=fun r:List Str=>a0e env 145 2 Tryz.f145.results.toList (a5Z (Nod.mk n1_0 n1_1 n1_2 (Typ.mk n1_3 n1_4 n1_5 n1_6) n1_7 n1_8 n1_9) words2 r);let jn1:Jn 30008 (Bool):=⟨fun fr H z=>([(0,.ptr 0 0),(3,.ptr 2 0),(9,.bool z)],[(0,.row [.st 1 clS words2]),(1,.tip (tpe 1 (List.length words2)) (List.length words2)),(2,oH H 256)])⟩
 exact blk⟩
theorem b2U (n:Nat){Φ:j3} [hΦ:j3.Ok Φ] {l1:List Nod}{words2:List Str}:a4m l1 words2 (a2S n Φ l1 words2):=⟨fun{r} h=>by
 unfold a2S at h;refine A8 rfl Tryz.func146 rfl rfl ?_;exact blk⟩
theorem j3.ok:∀n,j3.Ok (j3.fs n)
 | 0=>⟨⟨fun h=>by cases h⟩,⟨fun h=>by cases h⟩,⟨fun h=>by cases h⟩,⟨fun h=>by cases h⟩,⟨fun h=>by cases h⟩,⟨fun h=>by cases h⟩,⟨fun h=>by cases h⟩,⟨fun h=>by cases h⟩,⟨fun h=>by cases h⟩⟩
 | n+1=>have:=j3.ok n;⟨b2e n,a9C n,b2W n,b1i n,b0H n,b2c n,b3L n,a95 n,b2U n⟩
instance c4P {n:Nat}{n1:Nod}{words2:List Str}:a3Q n1 words2 (I4 n n1 words2):=(j3.ok n).I4
instance c0n {n:Nat}{n1:Nod}{words2:List Str}:a2n n1 words2 (J6 n n1 words2):=(j3.ok n).J6
instance c5G {n:Nat}{n1:Nod}{words2:List Str}:a4n n1 words2 (E5 n n1 words2):=(j3.ok n).E5
instance c3q {n:Nat}{n1:Nod}{words2:List Str}:a3B n1 words2 (V8 n n1 words2):=(j3.ok n).V8
instance c2J {n:Nat}{n1:Nod}{words2:List Str}:a3c n1 words2 (U6 n n1 words2):=(j3.ok n).U6
instance c4N {n:Nat}{l1:List Nod}{words2:List Str}:a3O l1 words2 (V4 n l1 words2):=(j3.ok n).V4
instance c6X {n:Nat}{n1:Nod}{words2:List Str}:a4L n1 words2 (a0o n n1 words2):=(j3.ok n).a0o
instance c1m {n:Nat}{n1:Nod}{words2:List Str}:a2H n1 words2 (L8 n n1 words2):=(j3.ok n).L8
instance c5F {n:Nat}{l1:List Nod}{words2:List Str}:a4m l1 words2 (P6 n l1 words2):=(j3.ok n).P6
abbrev b2Y (n1:Nod)(words2:List Str)(p:Option (List Str)):Prop:=OkF env p 61 [.ptr 0 0,.agg (c0 n1.op n1.s n1.n n1.t.kind n1.t.name n1.t.n (.sl w9 n1.t.args) (.sl w9 n1.ts) (.sl C8 n1.l) n1.at_)] [(0,.row [.st 1 clS words2]),(1,.tip (tpe 1 (List.length words2)) (List.length words2))] (a6K n1 words2)
instance c3r {n:Nat}{n1:Nod}{words2:List Str}:b2Y n1 words2 (a2T n n1 words2):=⟨fun{r} h=>by
 unfold a2T at h;obtain⟨n1_0,n1_1,n1_2,⟨n1_3,n1_4,n1_5,n1_6⟩,n1_7,n1_8,n1_9⟩:=n1;refine A8 rfl Tryz.func61 rfl rfl ?_;let kr:=fun r:List Str=>a0e env 61 2 Tryz.f61.results.toList (a6K (Nod.mk n1_0 n1_1 n1_2 (Typ.mk n1_3 n1_4 n1_5 n1_6) n1_7 n1_8 n1_9) words2 r);let jn1:Jn 7 (List Str):=⟨fun fr H z=>([(0,.ptr 0 0),(3,.ptr 2 0)],[(0,.row [.st 1 clS z]),(1,.tip (tpe 1 (List.length z)) (List.length z)),(2,oH H 256)])⟩
 let jn2:Jn 13 (List Str):=⟨fun fr H z=>([(0,.ptr 0 0),(3,.ptr 2 0)],[(0,.row [.st 1 clS z]),(1,.tip (tpe 1 (List.length z)) (List.length z)),(2,oH H 256)])⟩
 let jn3:Jn 18 (List Str):=⟨fun fr H z=>([(0,.ptr 0 0)],[(0,.row [.st 1 clS z]),(1,.tip (tpe 1 (List.length z)) (List.length z))])⟩
 exact blk⟩
abbrev b1l (r1:Nod)(words2:List Str)(p:Option (List Str)):Prop:=OkF env p 121 [.agg (c0 r1.op r1.s r1.n r1.t.kind r1.t.name r1.t.n (.sl w9 r1.t.args) (.sl w9 r1.ts) (.sl C8 r1.l) r1.at_),.ptr 0 0] [(0,.row [.ptr 1 0]),(1,.row [.st 2 clS words2]),(2,.tip (tpe 1 (List.length words2)) (List.length words2))] (a96 r1 words2)
instance c1n {n:Nat}{r1:Nod}{words2:List Str}:b1l r1 words2 (a10 n r1 words2):=⟨fun{r} h=>by
 unfold a10 at h;obtain⟨r1_0,r1_1,r1_2,⟨r1_3,r1_4,r1_5,r1_6⟩,r1_7,r1_8,r1_9⟩:=r1;refine A8 rfl Tryz.func121 rfl rfl ?_;exact blk⟩
abbrev b3G (l1:List Nod)(words2:List Str)(p:Option (List Str)):Prop:=OkF env p 82 [.ptr 0 0,.sl C8 l1,.func (.func 121) [] [.ptr 1 0]] [(0,.row [.st 2 clS words2]),(1,.row [.ptr 0 0]),(2,.tip (tpe 1 (List.length words2)) (List.length words2))] (a7e l1 words2)
instance c4M {n:Nat}{l1:List Nod}{words2:List Str}:b3G l1 words2 (a4J n l1 words2):=⟨fun{r} h=>by
 unfold a4J at h;refine A8 rfl Tryz.func82 rfl rfl ?_;let kr:=fun r:List Str=>a0e env 82 3 Tryz.f82.results.toList (a7e l1 words2 r);let jl1:Jn 1 (Int×List Str):=⟨fun fr H z=>([(0,.ptr 0 0),(2,.func (.func 121) [] [.ptr 1 0]),(8,.sl C8 l1),(9,.i (List.length l1:Int)),(10,.i z.1)],[(0,.row [.st 2 clS z.2]),(1,.row [.ptr 0 0]),(2,.tip (tpe 1 (List.length z.2)) (List.length z.2))])⟩
 let jn1:Jn 6 (List Str):=⟨fun fr H z=>([(0,.ptr 0 0),(2,.func (.func 121) [] [.ptr 1 0]),(7,.ptr 3 0),(8,.sl C8 l1),(9,.i (List.length l1:Int)),(10,(lk 10 fr))],[(0,.row [.st 2 clS z]),(1,.row [.ptr 0 0]),(2,.tip (tpe 1 (List.length z)) (List.length z)),(3,oH H 512)])⟩
 exact blk⟩
abbrev b3N (n1:Nod)(words2:List Str)(p:Option (List Str)):Prop:=OkF env p 64 [.ptr 0 0,.agg (c0 n1.op n1.s n1.n n1.t.kind n1.t.name n1.t.n (.sl w9 n1.t.args) (.sl w9 n1.ts) (.sl C8 n1.l) n1.at_)] [(0,.row [.st 1 clS words2]),(1,.tip (tpe 1 (List.length words2)) (List.length words2))] (b2g n1 words2)
instance c4R {n:Nat}{n1:Nod}{words2:List Str}:b3N n1 words2 (a2g n n1 words2):=⟨fun{r} h=>by
 unfold a2g at h;obtain⟨n1_0,n1_1,n1_2,⟨n1_3,n1_4,n1_5,n1_6⟩,n1_7,n1_8,n1_9⟩:=n1;refine A8 rfl Tryz.func64 rfl rfl ?_;exact blk⟩
abbrev b1g (n1:Nod)(words2:List Str)(p:Option (List Str)):Prop:=OkF env p 63 [.ptr 0 0,.agg (c0 n1.op n1.s n1.n n1.t.kind n1.t.name n1.t.n (.sl w9 n1.t.args) (.sl w9 n1.ts) (.sl C8 n1.l) n1.at_)] [(0,.row [.st 1 clS words2]),(1,.tip (tpe 1 (List.length words2)) (List.length words2))] (a5Y n1 words2)
instance c1k {n:Nat}{n1:Nod}{words2:List Str}:b1g n1 words2 (Y5 n n1 words2):=⟨fun{r} h=>by
 unfold Y5 at h;obtain⟨n1_0,n1_1,n1_2,⟨n1_3,n1_4,n1_5,n1_6⟩,n1_7,n1_8,n1_9⟩:=n1;refine A8 rfl Tryz.func63 rfl rfl ?_;let kr:=fun r:List Str=>a0e env 63 2 Tryz.f63.results.toList (a5Y (Nod.mk n1_0 n1_1 n1_2 (Typ.mk n1_3 n1_4 n1_5 n1_6) n1_7 n1_8 n1_9) words2 r);let jn1:Jn 12 (List Str):=⟨fun fr H z=>([(0,.ptr 0 0),(3,.ptr 2 0)],[(0,.row [.st 1 clS z]),(1,.tip (tpe 1 (List.length z)) (List.length z)),(2,oH H 256)])⟩
 let jl1:Jn 5 (List Nod×Int×Int×List Str):=⟨fun fr H z=>([(0,.ptr 0 0),(3,.ptr 2 0),(23,.sl C8 z.1),(24,.i z.2.1),(25,.i z.2.2.1)],[(0,.row [.st 1 clS z.2.2.2]),(1,.tip (tpe 1 (List.length z.2.2.2)) (List.length z.2.2.2)),(2,oH H 256)])⟩
 let jl2:Jn 15 (Int×List Str):=⟨fun fr H z=>([(0,.ptr 0 0),(52,ow .sealed (lk 52 fr)),(53,(lk 53 fr)),(54,.i z.1)],[(0,.row [.st 1 clS z.2]),(1,.tip (tpe 1 (List.length z.2)) (List.length z.2))])⟩
 exact blk⟩
abbrev a9z (n1:Nod)(words2:List Str)(p:Option (List Str)):Prop:=OkF env p 28 [.ptr 0 0,.agg (c0 n1.op n1.s n1.n n1.t.kind n1.t.name n1.t.n (.sl w9 n1.t.args) (.sl w9 n1.ts) (.sl C8 n1.l) n1.at_)] [(0,.row [.st 1 clS words2]),(1,.tip (tpe 1 (List.length words2)) (List.length words2))] (a4U n1 words2)
instance a9A {n:Nat}{n1:Nod}{words2:List Str}:a9z n1 words2 (a00 n n1 words2):=⟨fun{r} h=>by
 unfold a00 at h;obtain⟨n1_0,n1_1,n1_2,⟨n1_3,n1_4,n1_5,n1_6⟩,n1_7,n1_8,n1_9⟩:=n1;refine A8 rfl Tryz.func28 rfl rfl ?_;let kr:=fun r:List Str=>a0e env 28 2 Tryz.f28.results.toList (a4U (Nod.mk n1_0 n1_1 n1_2 (Typ.mk n1_3 n1_4 n1_5 n1_6) n1_7 n1_8 n1_9) words2 r);let jn1:Jn 30006 (Bool):=⟨fun fr H z=>([(0,.ptr 0 0),(3,.ptr 2 0),(11,.i n1_0),(12,.bool z)],[(0,.row [.st 1 clS words2]),(1,.tip (tpe 1 (List.length words2)) (List.length words2)),(2,oH H 256)])⟩
 let jn2:Jn 8 (List Str):=⟨fun fr H z=>([(0,.ptr 0 0),(3,.ptr 2 0)],[(0,.row [.st 1 clS z]),(1,.tip (tpe 1 (List.length z)) (List.length z)),(2,oH H 2)])⟩
 let jn3:Jn 10 (List Str):=⟨fun fr H z=>([(0,.ptr 0 0),(3,.ptr 2 0)],[(0,.row [.st 1 clS z]),(1,.tip (tpe 1 (List.length z)) (List.length z)),(2,oH H 2)])⟩
 let jn4:Jn 18 (List Str):=⟨fun fr H z=>([(0,.ptr 0 0)],[(0,.row [.st 1 clS z]),(1,.tip (tpe 1 (List.length z)) (List.length z))])⟩
 let jl1:Jn 13 (List Nod×Int×Int×List Str):=⟨fun fr H z=>([(0,.ptr 0 0),(48,.sl C8 z.1),(49,.i z.2.1),(50,.i z.2.2.1)],[(0,.row [.st 1 clS z.2.2.2]),(1,.tip (tpe 1 (List.length z.2.2.2)) (List.length z.2.2.2))])⟩
 let jn5:Jn 30 (List Str):=⟨fun fr H z=>([(0,.ptr 0 0)],[(0,.row [.st 1 clS z]),(1,.tip (tpe 1 (List.length z)) (List.length z))])⟩
 let jl2:Jn 21 (Int×List Str):=⟨fun fr H z=>([(0,.ptr 0 0),(69,.sl C8 n1_8),(70,.i (List.length n1_8:Int)),(71,.i z.1)],[(0,.row [.st 1 clS z.2]),(1,.tip (tpe 1 (List.length z.2)) (List.length z.2))])⟩
 let jn6:Jn 29 (List Str):=⟨fun fr H z=>([(0,.ptr 0 0),(69,.sl C8 n1_8),(70,.i (List.length n1_8:Int)),(71,(lk 71 fr))],[(0,.row [.st 1 clS z]),(1,.tip (tpe 1 (List.length z)) (List.length z))])⟩
 let jn7:Jn 46 (List Str):=⟨fun fr H z=>([(0,.ptr 0 0)],[(0,.row [.st 1 clS z]),(1,.tip (tpe 1 (List.length z)) (List.length z))])⟩
 let jl3:Jn 37 (Int×List Str):=⟨fun fr H z=>([(0,.ptr 0 0),(118,ow .sealed (lk 118 fr)),(119,(lk 119 fr)),(120,.i z.1)],[(0,.row [.st 1 clS z.2]),(1,.tip (tpe 1 (List.length z.2)) (List.length z.2))])⟩
 let jn8:Jn 45 (List Str):=⟨fun fr H z=>([(0,.ptr 0 0),(118,ow .sealed (lk 118 fr)),(119,(lk 119 fr)),(120,(lk 120 fr))],[(0,.row [.st 1 clS z]),(1,.tip (tpe 1 (List.length z)) (List.length z))])⟩
 exact blk⟩
abbrev b4G (words1:List Str)(p:Option (Str)):Prop:=OkF env p 30 [.ptr 0 0] [(0,.row [.st 1 clS words1]),(1,.tip (tpe 1 (List.length words1)) (List.length words1))] (b23 words1)
instance b4H {words1:List Str}:b4G words1 (a5l words1):=⟨fun{r} h=>by
 unfold a5l at h;refine A8 rfl Tryz.func30 rfl rfl ?_;exact blk⟩
abbrev a8g (l1:List Str)(t2:Typ)(p:Option (List Str)):Prop:=OkF env p 46 [.st 0 clS l1,.agg [.i t2.kind,.str t2.name,.i t2.n,.sl w9 t2.args]] [(0,.tip (tpe 1 (List.length l1)) (List.length l1))] (b2K l1 t2)
class G9.Ok (Φ:G9):Prop where
 I7:∀{l1:List Str} {t2:Typ},a8g l1 t2 (Φ.I7 l1 t2)
instance {Φ:G9} [h:G9.Ok Φ] {l1:List Str}{t2:Typ}:a8g l1 t2 (Φ.I7 l1 t2):=h.I7
theorem b7X (n:Nat){Φ:G9} [hΦ:G9.Ok Φ] {l1:List Str}{t2:Typ}:a8g l1 t2 (a5c n Φ l1 t2):=⟨fun{r} h=>by
 unfold a5c at h;obtain⟨t2_0,t2_1,t2_2,t2_3⟩:=t2;refine A8 rfl Tryz.func46 rfl rfl ?_;let kr:=fun r:List Str=>a0e env 46 1 Tryz.f46.results.toList (b2K l1 (Typ.mk t2_0 t2_1 t2_2 t2_3) r);let jn1:Jn 36 (List Str):=⟨fun fr H z=>([(0,.st 0 clS z),(3,.ptr 1 0)],[(0,.tip (tpe 1 (List.length z)) (List.length z)),(1,oH H 256)])⟩
 let jn2:Jn 19 (List Str):=⟨fun fr H z=>([(0,.st 0 clS z),(3,.ptr 1 0)],[(0,.tip (tpe 1 (List.length z)) (List.length z)),(1,oH H 256)])⟩
 let jl1:Jn 15 (List Str×Int):=⟨fun fr H z=>([(0,.st 0 clS z.1),(3,.ptr 1 0),(5,.i z.2)],[(0,.tip (tpe 1 (List.length z.1)) (List.length z.1)),(1,oH H 256)])⟩
 let jn3:Jn 28 (List Str):=⟨fun fr H z=>([(0,.st 0 clS z),(3,.ptr 1 0)],[(0,.tip (tpe 1 (List.length z)) (List.length z)),(1,oH H 256)])⟩
 let jl2:Jn 22 (List Str×Int):=⟨fun fr H z=>([(0,.st 0 clS z.1),(3,.ptr 1 0),(6,.i z.2)],[(0,.tip (tpe 1 (List.length z.1)) (List.length z.1)),(1,oH H 256)])⟩
 let jn4:Jn 27 (List Str):=⟨fun fr H z=>([(0,.st 0 clS z),(3,.ptr 1 0),(6,(lk 6 fr))],[(0,.tip (tpe 1 (List.length z)) (List.length z)),(1,oH H 1)])⟩
 let jn5:Jn 31 (List Str):=⟨fun fr H z=>([(0,.st 0 clS z)],[(0,.tip (tpe 1 (List.length z)) (List.length z))])⟩
 let jn6:Jn 45 (List Str):=⟨fun fr H z=>([(0,.st 0 clS z)],[(0,.tip (tpe 1 (List.length z)) (List.length z))])⟩
 let jn7:Jn 44 (List Str):=⟨fun fr H z=>([(0,.st 0 clS z)],[(0,.tip (tpe 1 (List.length z)) (List.length z))])⟩
 let jl3:Jn 38 (List Str×Int):=⟨fun fr H z=>([(0,.st 0 clS z.1),(3,.ptr 1 0),(7,.i z.2)],[(0,.tip (tpe 1 (List.length z.1)) (List.length z.1)),(1,oH H 1)])⟩
 let jn8:Jn 43 (List Str):=⟨fun fr H z=>([(0,.st 0 clS z),(3,.ptr 1 0),(7,(lk 7 fr))],[(0,.tip (tpe 1 (List.length z)) (List.length z)),(1,oH H 1)])⟩
 exact blk⟩
theorem G9.ok:∀n,G9.Ok (G9.fs n)
 | 0=>⟨⟨fun h=>by cases h⟩⟩
 | n+1=>have:=G9.ok n;⟨b7X n⟩
instance ref02_typed_I {n:Nat}{l1:List Str}{t2:Typ}:a8g l1 t2 (I7 n l1 t2):=(G9.ok n).I7
abbrev c66 (n1:Nod)(ops2:List Int)(p:Option (List Nod)):Prop:=OkF env p 124 [.agg (c0 n1.op n1.s n1.n n1.t.kind n1.t.name n1.t.n (.sl w9 n1.t.args) (.sl w9 n1.ts) (.sl C8 n1.l) n1.at_),.slice .sealed (List.length ops2) ((clI .i64) ops2)] [] (b59 n1 ops2)
instance ref02_of_I {n:Nat}{n1:Nod}{ops2:List Int}:c66 n1 ops2 (a4X n n1 ops2):=⟨fun{r} h=>by
 unfold a4X at h;obtain⟨n1_0,n1_1,n1_2,⟨n1_3,n1_4,n1_5,n1_6⟩,n1_7,n1_8,n1_9⟩:=n1;refine A8 rfl Tryz.func124 rfl rfl ?_;let kr:=fun r:List Nod=>a0e env 124 0 Tryz.f124.results.toList (b59 (Nod.mk n1_0 n1_1 n1_2 (Typ.mk n1_3 n1_4 n1_5 n1_6) n1_7 n1_8 n1_9) ops2 r);let jn1:Jn 11 (List Nod):=⟨fun fr H z=>([(5,.st 0 C8 z)],[(0,.tip (tpe 10 (List.length z)) (List.length z))])⟩
 let jl1:Jn 3 (List Nod×Int):=⟨fun fr H z=>([(1,.slice .sealed (List.length ops2) ((clI .i64) ops2)),(2,.ptr 0 0),(5,.st 1 C8 z.1),(6,.i z.2)],[(0,oH H 192),(1,.tip (tpe 10 (List.length z.1)) (List.length z.1))])⟩
 let jn2:Jn 5 (List Nod×Int):=⟨fun fr H z=>([(1,.slice .sealed (List.length ops2) ((clI .i64) ops2)),(2,.ptr 0 0),(5,.st 1 C8 z.1),(6,.i z.2)],[(0,oH H 0),(1,.tip (tpe 10 (List.length z.1)) (List.length z.1))])⟩
 let jl2:Jn 6 (List Nod×Int×Int):=⟨fun fr H z=>([(1,.slice .sealed (List.length ops2) ((clI .i64) ops2)),(2,.ptr 0 0),(5,.st 1 C8 z.1),(6,.i z.2.1),(7,.i z.2.2)],[(0,oH H 0),(1,.tip (tpe 10 (List.length z.1)) (List.length z.1))])⟩
 exact blk⟩
abbrev b6Y (l1:List Str)(n2:Nod)(p:Option (List Str)):Prop:=OkF env p 67 [.st 0 clS l1,.agg (c0 n2.op n2.s n2.n n2.t.kind n2.t.name n2.t.n (.sl w9 n2.t.args) (.sl w9 n2.ts) (.sl C8 n2.l) n2.at_)] [(0,.tip (tpe 1 (List.length l1)) (List.length l1))] (a9R l1 n2)
instance c9F {n:Nat}{l1:List Str}{n2:Nod}:b6Y l1 n2 (a2E n l1 n2):=⟨fun{r} h=>by
 unfold a2E at h;obtain⟨n2_0,n2_1,n2_2,⟨n2_3,n2_4,n2_5,n2_6⟩,n2_7,n2_8,n2_9⟩:=n2;refine A8 rfl Tryz.func67 rfl rfl ?_;let kr:=fun r:List Str=>a0e env 67 1 Tryz.f67.results.toList (a9R l1 (Nod.mk n2_0 n2_1 n2_2 (Typ.mk n2_3 n2_4 n2_5 n2_6) n2_7 n2_8 n2_9) r);let jn1:Jn 15 (List Str):=⟨fun fr H z=>([(0,.st 0 clS z)],[(0,.tip (tpe 1 (List.length z)) (List.length z))])⟩
 let jl1:Jn 3 (List Str×Int):=⟨fun fr H z=>([(0,.st 0 clS z.1),(5,ow .sealed (lk 9 fr)),(6,.i z.2)],[(0,.tip (tpe 1 (List.length z.1)) (List.length z.1))])⟩
 let jn2:Jn 5 (List Str):=⟨fun fr H z=>([(0,.st 0 clS z),(5,ow .sealed (lk 5 fr)),(6,(lk 6 fr))],[(0,.tip (tpe 1 (List.length z)) (List.length z))])⟩
 let jn3:Jn 9 (List Str):=⟨fun fr H z=>([(0,.st 0 clS z),(5,ow .sealed (lk 5 fr)),(6,(lk 6 fr))],[(0,.tip (tpe 1 (List.length z)) (List.length z))])⟩
 exact blk⟩
end Go.Proofs.YtmippldlhnajkaaGreatDoor.Pr
