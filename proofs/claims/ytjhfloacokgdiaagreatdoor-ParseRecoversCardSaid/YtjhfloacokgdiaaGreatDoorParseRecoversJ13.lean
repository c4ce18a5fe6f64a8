/- Texts of ParseRecovers, joined. -/
import Derived.Test.YtjhfloacokgdiaaGreatDoorParseRecoversJ12
set_option maxRecDepth 100000
set_option maxHeartbeats 20000000
set_option linter.all false
namespace Go.Proofs.YtjhfloacokgdiaaGreatDoor.Pr
open Go Go.Vm
variable {l1:List Nod} {words2:List Str} {n1:Nod} {Φ:j6}
attribute [local irreducible] Go.Vm.Ev Go.Vm.Os Go.Vm.OsP Go.Vm.Lp Go.Vm.E8 Go.Vm.J5 Go.Vm.J7 Go.Vm.E
abbrev b4f (l1 words2:List Str)(p:Option (List Str)):Prop:=OkF env p 54 [.ptr 0 0,.sl clS l1] [(0,.row [.st 1 clS words2]),(1,.tip (tpe 1 (List.length words2)) (List.length words2))] (b2J l1 words2)
instance c4E {l1 words2:List Str}:b4f l1 words2 (j5 l1 words2):=⟨fun{r} h=>by
 unfold j5 at h;refine D5 rfl Tryz.func54 rfl rfl ?_;exact blk⟩
abbrev c4A (n1:Nod)(ops2:List Int)(p:Option (List Nod)):Prop:=OkF env p 56 [.agg (c0 n1.op n1.s n1.n n1.t.kind n1.t.name n1.t.n (.sl D8 n1.t.args) (.sl D8 n1.ts) (.sl D9 n1.l) n1.at_),.slice .sealed (List.length ops2) ((clI .i64) ops2)] [] (b4N n1 ops2)
instance parse_of_I {n:Nat}{n1:Nod}{ops2:List Int}:c4A n1 ops2 (a1J n n1 ops2):=⟨fun{r} h=>by
 unfold a1J at h;obtain⟨n1_0,n1_1,n1_2,⟨n1_3,n1_4,n1_5,n1_6⟩,n1_7,n1_8,n1_9⟩:=n1;refine D5 rfl Tryz.func56 rfl rfl ?_;let kr:=fun r:List Nod=>a2e env 56 0 Tryz.f56.results.toList (b4N (Nod.mk n1_0 n1_1 n1_2 (Typ.mk n1_3 n1_4 n1_5 n1_6) n1_7 n1_8 n1_9) ops2 r);let jn1:Jn 13 (List Nod):=⟨fun fr H z=>([(5,.st 0 D9 z)],[(0,.tip (tpe 10 (List.length z)) (List.length z))])⟩
 let jl1:Jn 3 (List Nod×Int):=⟨fun fr H z=>([(1,.slice .sealed (List.length ops2) ((clI .i64) ops2)),(5,.st 0 D9 z.1),(11,.sl D9 n1_8),(12,.i (List.length n1_8:Int)),(13,.i z.2)],[(0,.tip (tpe 10 (List.length z.1)) (List.length z.1))])⟩
 let jn2:Jn 12 (List Nod×Int):=⟨fun fr H z=>([(1,.slice .sealed (List.length ops2) ((clI .i64) ops2)),(5,.st 0 D9 z.1),(11,.sl D9 n1_8),(12,.i (List.length n1_8:Int)),(13,.i z.2)],[(0,.tip (tpe 10 (List.length z.1)) (List.length z.1))])⟩
 let jl2:Jn 6 (List Nod×Int×Int):=⟨fun fr H z=>([(1,.slice .sealed (List.length ops2) ((clI .i64) ops2)),(5,.st 0 D9 z.1),(7,.ptr 1 0),(11,.sl D9 n1_8),(12,.i (List.length n1_8:Int)),(13,.i z.2.1),(17,.slice .sealed (List.length ops2) ((clI .i64) ops2)),(18,.i (List.length ops2:Int)),(19,.i z.2.2)],[(0,.tip (tpe 10 (List.length z.1)) (List.length z.1)),(1,oH H 512)])⟩
 let jn3:Jn 11 (List Nod):=⟨fun fr H z=>([(1,.slice .sealed (List.length ops2) ((clI .i64) ops2)),(5,.st 0 D9 z),(7,.ptr 1 0),(11,.sl D9 n1_8),(12,.i (List.length n1_8:Int)),(13,(lk 13 fr)),(17,.slice .sealed (List.length ops2) ((clI .i64) ops2)),(18,.i (List.length ops2:Int)),(19,(lk 19 fr))],[(0,.tip (tpe 10 (List.length z)) (List.length z)),(1,oH H 1)])⟩
 exact blk⟩
abbrev b1R (n1:Nod)(words2:List Str)(p:Option (List Str)):Prop:=OkF env p 58 [.ptr 0 0,.agg (c0 n1.op n1.s n1.n n1.t.kind n1.t.name n1.t.n (.sl D8 n1.t.args) (.sl D8 n1.ts) (.sl D9 n1.l) n1.at_)] [(0,.row [.st 1 clS words2]),(1,.tip (tpe 1 (List.length words2)) (List.length words2))] (a6g n1 words2)
instance c1o {n:Nat}{n1:Nod}{words2:List Str}:b1R n1 words2 (a1a n n1 words2):=⟨fun{r} h=>by
 unfold a1a at h;obtain⟨n1_0,n1_1,n1_2,⟨n1_3,n1_4,n1_5,n1_6⟩,n1_7,n1_8,n1_9⟩:=n1;refine D5 rfl Tryz.func58 rfl rfl ?_;let kr:=fun r:List Str=>a2e env 58 2 Tryz.f58.results.toList (a6g (Nod.mk n1_0 n1_1 n1_2 (Typ.mk n1_3 n1_4 n1_5 n1_6) n1_7 n1_8 n1_9) words2 r);let jl1:Jn 2 (Int×List Str):=⟨fun fr H z=>([(0,.ptr 0 0),(7,.sl D9 n1_8),(8,.i (List.length n1_8:Int)),(9,.i z.1)],[(0,.row [.st 1 clS z.2]),(1,.tip (tpe 1 (List.length z.2)) (List.length z.2))])⟩
 let jn1:Jn 8 (List Str):=⟨fun fr H z=>([(0,.ptr 0 0),(5,.ptr 2 0),(7,.sl D9 n1_8),(8,.i (List.length n1_8:Int)),(9,(lk 9 fr))],[(0,.row [.st 1 clS z]),(1,.tip (tpe 1 (List.length z)) (List.length z)),(2,oH H 384)])⟩
 exact blk⟩
abbrev a8T (g1:Nod)(words2:List Str)(p:Option (List Str)):Prop:=OkF env p 100 [.agg (c0 g1.op g1.s g1.n g1.t.kind g1.t.name g1.t.n (.sl D8 g1.t.args) (.sl D8 g1.ts) (.sl D9 g1.l) g1.at_),.ptr 0 0] [(0,.row [.ptr 1 0]),(1,.row [.st 2 clS words2]),(2,.tip (tpe 1 (List.length words2)) (List.length words2))] (a7Q g1 words2)
instance b7K {n:Nat}{g1:Nod}{words2:List Str}:a8T g1 words2 (a0A n g1 words2):=⟨fun{r} h=>by
 unfold a0A at h;obtain⟨g1_0,g1_1,g1_2,⟨g1_3,g1_4,g1_5,g1_6⟩,g1_7,g1_8,g1_9⟩:=g1;refine D5 rfl Tryz.func100 rfl rfl ?_;exact blk⟩
abbrev b4M (l1:List Nod)(words2:List Str)(p:Option (List Str)):Prop:=OkF env p 75 [.ptr 0 0,.sl D9 l1,.func (.func 100) [] [.ptr 1 0]] [(0,.row [.st 2 clS words2]),(1,.row [.ptr 0 0]),(2,.tip (tpe 1 (List.length words2)) (List.length words2))] (a7W l1 words2)
instance c6f {n:Nat}{l1:List Nod}{words2:List Str}:b4M l1 words2 (a5G n l1 words2):=⟨fun{r} h=>by
 unfold a5G at h;refine D5 rfl Tryz.func75 rfl rfl ?_;let kr:=fun r:List Str=>a2e env 75 3 Tryz.f75.results.toList (a7W l1 words2 r);let jl1:Jn 1 (Int×List Str):=⟨fun fr H z=>([(0,.ptr 0 0),(2,.func (.func 100) [] [.ptr 1 0]),(8,.sl D9 l1),(9,.i (List.length l1:Int)),(10,.i z.1)],[(0,.row [.st 2 clS z.2]),(1,.row [.ptr 0 0]),(2,.tip (tpe 1 (List.length z.2)) (List.length z.2))])⟩
 let jn1:Jn 6 (List Str):=⟨fun fr H z=>([(0,.ptr 0 0),(2,.func (.func 100) [] [.ptr 1 0]),(7,.ptr 3 0),(8,.sl D9 l1),(9,.i (List.length l1:Int)),(10,(lk 10 fr))],[(0,.row [.st 2 clS z]),(1,.row [.ptr 0 0]),(2,.tip (tpe 1 (List.length z)) (List.length z)),(3,oH H 512)])⟩
 exact blk⟩
abbrev b0s (n1:Nod)(words2:List Str)(p:Option (List Str)):Prop:=OkF env p 55 [.ptr 0 0,.agg (c0 n1.op n1.s n1.n n1.t.kind n1.t.name n1.t.n (.sl D8 n1.t.args) (.sl D8 n1.ts) (.sl D9 n1.l) n1.at_)] [(0,.row [.st 1 clS words2]),(1,.tip (tpe 1 (List.length words2)) (List.length words2))] (a9i n1 words2)
instance b9u {n:Nat}{n1:Nod}{words2:List Str}:b0s n1 words2 (a1f n n1 words2):=⟨fun{r} h=>by
 unfold a1f at h;obtain⟨n1_0,n1_1,n1_2,⟨n1_3,n1_4,n1_5,n1_6⟩,n1_7,n1_8,n1_9⟩:=n1;refine D5 rfl Tryz.func55 rfl rfl ?_;exact blk⟩
abbrev a4z (l1:List Typ)(words2:List Str)(p:Option (List Str)):Prop:=OkF env p 101 [.ptr 0 0,.sl D8 l1,.func (.func 60) [.ptr 0 0] []] [(0,.row [.st 1 clS words2]),(1,.tip (tpe 1 (List.length words2)) (List.length words2))] (a7X l1 words2)
abbrev a4j (t1:Typ)(words2:List Str)(p:Option (List Str)):Prop:=OkF env p 60 [.ptr 0 0,.agg [.i t1.kind,.str t1.name,.i t1.n,.sl D8 t1.args]] [(0,.row [.st 1 clS words2]),(1,.tip (tpe 1 (List.length words2)) (List.length words2))] (b2M t1 words2)
abbrev a3J (l1:List Typ)(words2:List Str)(p:Option (List Str)):Prop:=OkF env p 105 [.ptr 0 0,.sl D8 l1] [(0,.row [.st 1 clS words2]),(1,.tip (tpe 1 (List.length words2)) (List.length words2))] (b1Q l1 words2)
class w9.Ok (Φ:w9):Prop where
 Q0:∀{l1:List Typ} {words2:List Str},a4z l1 words2 (Φ.Q0 l1 words2)
 H7:∀{t1:Typ} {words2:List Str},a4j t1 words2 (Φ.H7 t1 words2)
 V8:∀{l1:List Typ} {words2:List Str},a3J l1 words2 (Φ.V8 l1 words2)
instance {Φ:w9} [h:w9.Ok Φ] {l1:List Typ}{words2:List Str}:a4z l1 words2 (Φ.Q0 l1 words2):=h.Q0
instance {Φ:w9} [h:w9.Ok Φ] {t1:Typ}{words2:List Str}:a4j t1 words2 (Φ.H7 t1 words2):=h.H7
instance {Φ:w9} [h:w9.Ok Φ] {l1:List Typ}{words2:List Str}:a3J l1 words2 (Φ.V8 l1 words2):=h.V8
theorem b3u (n:Nat){Φ:w9} [hΦ:w9.Ok Φ] {l1:List Typ}:a4z l1 words2 (a3m n Φ l1 words2):=⟨fun{r} h=>by
 unfold a3m at h;refine D5 rfl Tryz.func101 rfl rfl ?_;let kr:=fun r:List Str=>a2e env 101 2 Tryz.f101.results.toList (a7X l1 words2 r);let jl1:Jn 1 (Int×List Str):=⟨fun fr H z=>([(0,.ptr 0 0),(2,.func (.func 60) [.ptr 0 0] []),(8,.sl D8 l1),(9,.i (List.length l1:Int)),(10,.i z.1)],[(0,.row [.st 1 clS z.2]),(1,.tip (tpe 1 (List.length z.2)) (List.length z.2))])⟩
 let jn1:Jn 6 (List Str):=⟨fun fr H z=>([(0,.ptr 0 0),(2,.func (.func 60) [.ptr 0 0] []),(7,.ptr 2 0),(8,.sl D8 l1),(9,.i (List.length l1:Int)),(10,(lk 10 fr))],[(0,.row [.st 1 clS z]),(1,.tip (tpe 1 (List.length z)) (List.length z)),(2,oH H 512)])⟩
 exact blk⟩
theorem b2L (n:Nat){Φ:w9} [hΦ:w9.Ok Φ] {t1:Typ}:a4j t1 words2 (a2T n Φ t1 words2):=⟨fun{r} h=>by
 unfold a2T at h;obtain⟨t1_0,t1_1,t1_2,t1_3⟩:=t1;refine D5 rfl Tryz.func60 rfl rfl ?_;exact blk⟩
theorem b1P (n:Nat){Φ:w9} [hΦ:w9.Ok Φ] {l1:List Typ}:a3J l1 words2 (a2t n Φ l1 words2):=⟨fun{r} h=>by
 unfold a2t at h;refine D5 rfl Tryz.func105 rfl rfl ?_;exact blk⟩
theorem w9.ok:∀n,w9.Ok (w9.fs n)
 | 0=>⟨⟨fun h=>by cases h⟩,⟨fun h=>by cases h⟩,⟨fun h=>by cases h⟩⟩
 | n+1=>have:=w9.ok n;⟨b3u n,b2L n,b1P n⟩
instance c6g {n:Nat}{l1:List Typ}{words2:List Str}:a4z l1 words2 (Q0 n l1 words2):=(w9.ok n).Q0
instance c4F {n:Nat}{t1:Typ}{words2:List Str}:a4j t1 words2 (H7 n t1 words2):=(w9.ok n).H7
instance c3t {n:Nat}{l1:List Typ}{words2:List Str}:a3J l1 words2 (V8 n l1 words2):=(w9.ok n).V8
abbrev c0N (n1:Nod)(i2:Int)(p:Option (List Nod)):Prop:=OkF env p 119 [.agg (c0 n1.op n1.s n1.n n1.t.kind n1.t.name n1.t.n (.sl D8 n1.t.args) (.sl D8 n1.ts) (.sl D9 n1.l) n1.at_),.i i2] [] (b7J n1 i2)
instance parse_rest_I {n1:Nod}{i2:Int}:c0N n1 i2 (a5N n1 i2):=⟨fun{r} h=>by
 unfold a5N at h;obtain⟨n1_0,n1_1,n1_2,⟨n1_3,n1_4,n1_5,n1_6⟩,n1_7,n1_8,n1_9⟩:=n1;refine D5 rfl Tryz.func119 rfl rfl ?_;exact blk⟩
abbrev b1X (n1:Int)(words2:List Str)(p:Option (List Str)):Prop:=OkF env p 69 [.ptr 0 0,.i n1] [(0,.row [.st 1 clS words2]),(1,.tip (tpe 1 (List.length words2)) (List.length words2))] (a6j n1 words2)
instance c1r {n1:Int}{words2:List Str}:b1X n1 words2 (a0c n1 words2):=⟨fun{r} h=>by
 unfold a0c at h;refine D5 rfl Tryz.func69 rfl rfl ?_;let kr:=fun r:List Str=>a2e env 69 2 Tryz.f69.results.toList (a6j n1 words2 r);let jn1:Jn 5 (Str×List Str):=⟨fun fr H z=>([(0,.ptr 0 0),(4,.str z.1)],[(0,.row [.st 1 clS z.2]),(1,.tip (tpe 1 (List.length z.2)) (List.length z.2))])⟩
 exact blk⟩
abbrev b2K (n1:Int)(words2:List Str)(p:Option (List Str)):Prop:=OkF env p 70 [.ptr 0 0,.i n1] [(0,.row [.st 1 clS words2]),(1,.tip (tpe 1 (List.length words2)) (List.length words2))] (b1c n1 words2)
instance c2S {n1:Int}{words2:List Str}:b2K n1 words2 (U3 n1 words2):=⟨fun{r} h=>by
 unfold U3 at h;refine D5 rfl Tryz.func70 rfl rfl ?_;exact blk⟩
abbrev a2E (n1:Nod)(words2:List Str)(p:Option (List Str)):Prop:=OkF env p 144 [.ptr 0 0,.agg (c0 n1.op n1.s n1.n n1.t.kind n1.t.name n1.t.n (.sl D8 n1.t.args) (.sl D8 n1.ts) (.sl D9 n1.l) n1.at_)] [(0,.row [.st 1 clS words2]),(1,.tip (tpe 1 (List.length words2)) (List.length words2))] (a9U n1 words2)
abbrev a3l (l1:List Nod)(words2:List Str)(p:Option (List Str)):Prop:=OkF env p 75 [.ptr 0 0,.sl D9 l1,.func (.func 144) [.ptr 0 0] []] [(0,.row [.st 1 clS words2]),(1,.tip (tpe 1 (List.length words2)) (List.length words2))] (a6A l1 words2)
class q9.Ok (Φ:q9):Prop where
 O6:∀{n1:Nod} {words2:List Str},a2E n1 words2 (Φ.O6 n1 words2)
 Y8:∀{l1:List Nod} {words2:List Str},a3l l1 words2 (Φ.Y8 l1 words2)
instance {Φ:q9} [h:q9.Ok Φ] {n1:Nod}{words2:List Str}:a2E n1 words2 (Φ.O6 n1 words2):=h.O6
instance {Φ:q9} [h:q9.Ok Φ] {l1:List Nod}{words2:List Str}:a3l l1 words2 (Φ.Y8 l1 words2):=h.Y8
theorem a9T (n:Nat){Φ:q9} [hΦ:q9.Ok Φ]:a2E n1 words2 (I9 n Φ n1 words2):=⟨fun{r} h=>by
 unfold I9 at h;obtain⟨n1_0,n1_1,n1_2,⟨n1_3,n1_4,n1_5,n1_6⟩,n1_7,n1_8,n1_9⟩:=n1;refine D5 rfl Tryz.func144 rfl rfl ?_;exact blk⟩
theorem b0W (n:Nat){Φ:q9} [hΦ:q9.Ok Φ]:a3l l1 words2 (a4N n Φ l1 words2):=⟨fun{r} h=>by
 unfold a4N at h;refine D5 rfl Tryz.func75 rfl rfl ?_;let kr:=fun r:List Str=>a2e env 75 2 Tryz.f75.results.toList (a6A l1 words2 r);let jl1:Jn 1 (Int×List Str):=⟨fun fr H z=>([(0,.ptr 0 0),(2,.func (.func 144) [.ptr 0 0] []),(8,.sl D9 l1),(9,.i (List.length l1:Int)),(10,.i z.1)],[(0,.row [.st 1 clS z.2]),(1,.tip (tpe 1 (List.length z.2)) (List.length z.2))])⟩
 let jn1:Jn 6 (List Str):=⟨fun fr H z=>([(0,.ptr 0 0),(2,.func (.func 144) [.ptr 0 0] []),(7,.ptr 2 0),(8,.sl D9 l1),(9,.i (List.length l1:Int)),(10,(lk 10 fr))],[(0,.row [.st 1 clS z]),(1,.tip (tpe 1 (List.length z)) (List.length z)),(2,oH H 512)])⟩
 exact blk⟩
theorem q9.ok:∀n,q9.Ok (q9.fs n)
 | 0=>⟨⟨fun h=>by cases h⟩,⟨fun h=>by cases h⟩⟩
 | n+1=>have:=q9.ok n;⟨a9T n,b0W n⟩
instance c0P {n:Nat}{n1:Nod}{words2:List Str}:a2E n1 words2 (O6 n n1 words2):=(q9.ok n).O6
instance c2G {n:Nat}{l1:List Nod}{words2:List Str}:a3l l1 words2 (Y8 n l1 words2):=(q9.ok n).Y8
abbrev c2C (n1:Nod)(i2:Int)(p:Option (Nod)):Prop:=OkF env p 73 [.agg (c0 n1.op n1.s n1.n n1.t.kind n1.t.name n1.t.n (.sl D8 n1.t.args) (.sl D8 n1.ts) (.sl D9 n1.l) n1.at_),.i i2] [] (b8y n1 i2)
instance parse_kid_I {n1:Nod}{i2:Int}:c2C n1 i2 (R8 n1 i2):=⟨fun{r} h=>by
 unfold R8 at h;obtain⟨n1_0,n1_1,n1_2,⟨n1_3,n1_4,n1_5,n1_6⟩,n1_7,n1_8,n1_9⟩:=n1;refine D5 rfl Tryz.func73 rfl rfl ?_;exact blk⟩
abbrev a9S (p1:Nod)(words2:List Str)(p:Option (List Str)):Prop:=OkF env p 133 [.agg (c0 p1.op p1.s p1.n p1.t.kind p1.t.name p1.t.n (.sl D8 p1.t.args) (.sl D8 p1.ts) (.sl D9 p1.l) p1.at_),.ptr 0 0] [(0,.row [.ptr 1 0]),(1,.row [.st 2 clS words2]),(2,.tip (tpe 1 (List.length words2)) (List.length words2))] (a4S p1 words2)
instance b8D {n:Nat}{p1:Nod}{words2:List Str}:a9S p1 words2 (a0x n p1 words2):=⟨fun{r} h=>by
 unfold a0x at h;obtain⟨p1_0,p1_1,p1_2,⟨p1_3,p1_4,p1_5,p1_6⟩,p1_7,p1_8,p1_9⟩:=p1;refine D5 rfl Tryz.func133 rfl rfl ?_;let kr:=fun r:List Str=>a2e env 133 3 Tryz.f133.results.toList (a4S (Nod.mk p1_0 p1_1 p1_2 (Typ.mk p1_3 p1_4 p1_5 p1_6) p1_7 p1_8 p1_9) words2 r);let jn1:Jn 6 (List Str):=⟨fun fr H z=>([(1,.ptr 0 0),(2,.ptr 3 0)],[(0,.row [.ptr 1 0]),(1,.row [.st 2 clS z]),(2,.tip (tpe 1 (List.length z)) (List.length z)),(3,oH H 192)])⟩
 exact blk⟩
abbrev b2z (l1:List Nod)(words2:List Str)(p:Option (List Str)):Prop:=OkF env p 75 [.ptr 0 0,.sl D9 l1,.func (.func 133) [] [.ptr 1 0]] [(0,.row [.st 2 clS words2]),(1,.row [.ptr 0 0]),(2,.tip (tpe 1 (List.length words2)) (List.length words2))] (a6x l1 words2)
instance c2D {n:Nat}{l1:List Nod}{words2:List Str}:b2z l1 words2 (a4f n l1 words2):=⟨fun{r} h=>by
 unfold a4f at h;refine D5 rfl Tryz.func75 rfl rfl ?_;let kr:=fun r:List Str=>a2e env 75 3 Tryz.f75.results.toList (a6x l1 words2 r);let jl1:Jn 1 (Int×List Str):=⟨fun fr H z=>([(0,.ptr 0 0),(2,.func (.func 133) [] [.ptr 1 0]),(8,.sl D9 l1),(9,.i (List.length l1:Int)),(10,.i z.1)],[(0,.row [.st 2 clS z.2]),(1,.row [.ptr 0 0]),(2,.tip (tpe 1 (List.length z.2)) (List.length z.2))])⟩
 let jn1:Jn 6 (List Str):=⟨fun fr H z=>([(0,.ptr 0 0),(2,.func (.func 133) [] [.ptr 1 0]),(7,.ptr 3 0),(8,.sl D9 l1),(9,.i (List.length l1:Int)),(10,(lk 10 fr))],[(0,.row [.st 2 clS z]),(1,.row [.ptr 0 0]),(2,.tip (tpe 1 (List.length z)) (List.length z)),(3,oH H 512)])⟩
 exact blk⟩
abbrev b1Y (l1:List Nod)(words2:List Str)(p:Option (List Str)):Prop:=OkF env p 103 [.ptr 0 0,.sl D9 l1] [(0,.row [.st 1 clS words2]),(1,.tip (tpe 1 (List.length words2)) (List.length words2))] (b0u l1 words2)
instance c1s {n:Nat}{l1:List Nod}{words2:List Str}:b1Y l1 words2 (a1T n l1 words2):=⟨fun{r} h=>by
 unfold a1T at h;refine D5 rfl Tryz.func103 rfl rfl ?_;exact blk⟩
abbrev b1Z (t1:Typ)(words2:List Str)(p:Option (List Str)):Prop:=OkF env p 104 [.ptr 0 0,.agg [.i t1.kind,.str t1.name,.i t1.n,.sl D8 t1.args]] [(0,.row [.st 1 clS words2]),(1,.tip (tpe 1 (List.length words2)) (List.length words2))] (b0v t1 words2)
instance c1t {n:Nat}{t1:Typ}{words2:List Str}:b1Z t1 words2 (a1U n t1 words2):=⟨fun{r} h=>by
 unfold a1U at h;obtain⟨t1_0,t1_1,t1_2,t1_3⟩:=t1;refine D5 rfl Tryz.func104 rfl rfl ?_;exact blk⟩
abbrev a3s (n1:Nod)(words2:List Str)(p:Option (List Str)):Prop:=OkF env p 102 [.ptr 0 0,.agg (c0 n1.op n1.s n1.n n1.t.kind n1.t.name n1.t.n (.sl D8 n1.t.args) (.sl D8 n1.ts) (.sl D9 n1.l) n1.at_)] [(0,.row [.st 1 clS words2]),(1,.tip (tpe 1 (List.length words2)) (List.length words2))] (a6I n1 words2)
abbrev a2d (n1:Nod)(words2:List Str)(p:Option (List Str)):Prop:=OkF env p 116 [.ptr 0 0,.agg (c0 n1.op n1.s n1.n n1.t.kind n1.t.name n1.t.n (.sl D8 n1.t.args) (.sl D8 n1.ts) (.sl D9 n1.l) n1.at_)] [(0,.row [.st 1 clS words2]),(1,.tip (tpe 1 (List.length words2)) (List.length words2))] (a4T n1 words2)
abbrev a3L (n1:Nod)(words2:List Str)(p:Option (List Str)):Prop:=OkF env p 37 [.ptr 0 0,.agg (c0 n1.op n1.s n1.n n1.t.kind n1.t.name n1.t.n (.sl D8 n1.t.args) (.sl D8 n1.ts) (.sl D9 n1.l) n1.at_)] [(0,.row [.st 1 clS words2]),(1,.tip (tpe 1 (List.length words2)) (List.length words2))] (b1V n1 words2)
abbrev a2Z (n1:Nod)(words2:List Str)(p:Option (List Str)):Prop:=OkF env p 72 [.ptr 0 0,.agg (c0 n1.op n1.s n1.n n1.t.kind n1.t.name n1.t.n (.sl D8 n1.t.args) (.sl D8 n1.ts) (.sl D9 n1.l) n1.at_)] [(0,.row [.st 1 clS words2]),(1,.tip (tpe 1 (List.length words2)) (List.length words2))] (a6h n1 words2)
abbrev a2D (n1:Nod)(words2:List Str)(p:Option (List Str)):Prop:=OkF env p 74 [.ptr 0 0,.agg (c0 n1.op n1.s n1.n n1.t.kind n1.t.name n1.t.n (.sl D8 n1.t.args) (.sl D8 n1.ts) (.sl D9 n1.l) n1.at_)] [(0,.row [.st 1 clS words2]),(1,.tip (tpe 1 (List.length words2)) (List.length words2))] (a5x n1 words2)
abbrev a3k (l1:List Nod)(words2:List Str)(p:Option (List Str)):Prop:=OkF env p 75 [.ptr 0 0,.sl D9 l1,.func (.func 37) [.ptr 0 0] []] [(0,.row [.st 1 clS words2]),(1,.tip (tpe 1 (List.length words2)) (List.length words2))] (a6z l1 words2)
abbrev a4k (n1:Nod)(words2:List Str)(p:Option (List Str)):Prop:=OkF env p 76 [.ptr 0 0,.agg (c0 n1.op n1.s n1.n n1.t.kind n1.t.name n1.t.n (.sl D8 n1.t.args) (.sl D8 n1.ts) (.sl D9 n1.l) n1.at_)] [(0,.row [.st 1 clS words2]),(1,.tip (tpe 1 (List.length words2)) (List.length words2))] (b2O n1 words2)
abbrev a2m (n1:Nod)(words2:List Str)(p:Option (List Str)):Prop:=OkF env p 117 [.ptr 0 0,.agg (c0 n1.op n1.s n1.n n1.t.kind n1.t.name n1.t.n (.sl D8 n1.t.args) (.sl D8 n1.ts) (.sl D9 n1.l) n1.at_)] [(0,.row [.st 1 clS words2]),(1,.tip (tpe 1 (List.length words2)) (List.length words2))] (a5m n1 words2)
abbrev a3K (l1:List Nod)(words2:List Str)(p:Option (List Str)):Prop:=OkF env p 118 [.ptr 0 0,.sl D9 l1] [(0,.row [.st 1 clS words2]),(1,.tip (tpe 1 (List.length words2)) (List.length words2))] (b1T l1 words2)
class j6.Ok (Φ:j6):Prop where
 I4:∀{n1:Nod} {words2:List Str},a3s n1 words2 (Φ.I4 n1 words2)
 M9:∀{n1:Nod} {words2:List Str},a2d n1 words2 (Φ.M9 n1 words2)
 F8:∀{n1:Nod} {words2:List Str},a3L n1 words2 (Φ.F8 n1 words2)
 X9:∀{n1:Nod} {words2:List Str},a2Z n1 words2 (Φ.X9 n1 words2)
 V6:∀{n1:Nod} {words2:List Str},a2D n1 words2 (Φ.V6 n1 words2)
 W9:∀{l1:List Nod} {words2:List Str},a3k l1 words2 (Φ.W9 l1 words2)
 a0B:∀{n1:Nod} {words2:List Str},a4k n1 words2 (Φ.a0B n1 words2)
 O8:∀{n1:Nod} {words2:List Str},a2m n1 words2 (Φ.O8 n1 words2)
 P5:∀{l1:List Nod} {words2:List Str},a3K l1 words2 (Φ.P5 l1 words2)
instance {Φ:j6} [h:j6.Ok Φ] {n1:Nod}{words2:List Str}:a3s n1 words2 (Φ.I4 n1 words2):=h.I4
instance {Φ:j6} [h:j6.Ok Φ] {n1:Nod}{words2:List Str}:a2d n1 words2 (Φ.M9 n1 words2):=h.M9
instance {Φ:j6} [h:j6.Ok Φ] {n1:Nod}{words2:List Str}:a3L n1 words2 (Φ.F8 n1 words2):=h.F8
instance {Φ:j6} [h:j6.Ok Φ] {n1:Nod}{words2:List Str}:a2Z n1 words2 (Φ.X9 n1 words2):=h.X9
instance {Φ:j6} [h:j6.Ok Φ] {n1:Nod}{words2:List Str}:a2D n1 words2 (Φ.V6 n1 words2):=h.V6
instance {Φ:j6} [h:j6.Ok Φ] {l1:List Nod}{words2:List Str}:a3k l1 words2 (Φ.W9 l1 words2):=h.W9
instance {Φ:j6} [h:j6.Ok Φ] {n1:Nod}{words2:List Str}:a4k n1 words2 (Φ.a0B n1 words2):=h.a0B
instance {Φ:j6} [h:j6.Ok Φ] {n1:Nod}{words2:List Str}:a2m n1 words2 (Φ.O8 n1 words2):=h.O8
instance {Φ:j6} [h:j6.Ok Φ] {l1:List Nod}{words2:List Str}:a3K l1 words2 (Φ.P5 l1 words2):=h.P5
theorem b1b (n:Nat) [hΦ:j6.Ok Φ]:a3s n1 words2 (a2j n Φ n1 words2):=⟨fun{r} h=>by
 unfold a2j at h;obtain⟨n1_0,n1_1,n1_2,⟨n1_3,n1_4,n1_5,n1_6⟩,n1_7,n1_8,n1_9⟩:=n1;refine D5 rfl Tryz.func102 rfl rfl ?_;let kr:=fun r:List Str=>a2e env 102 2 Tryz.f102.results.toList (a6I (Nod.mk n1_0 n1_1 n1_2 (Typ.mk n1_3 n1_4 n1_5 n1_6) n1_7 n1_8 n1_9) words2 r);let jn1:Jn 8 (List Str):=⟨fun fr H z=>([(0,.ptr 0 0)],[(0,.row [.st 1 clS z]),(1,.tip (tpe 1 (List.length z)) (List.length z))])⟩
 let jl1:Jn 3 (Int×List Str):=⟨fun fr H z=>([(0,.ptr 0 0),(10,.sl D9 n1_8),(11,.i (List.length n1_8:Int)),(12,.i z.1)],[(0,.row [.st 1 clS z.2]),(1,.tip (tpe 1 (List.length z.2)) (List.length z.2))])⟩
 exact blk⟩
theorem a8U (n:Nat) [hΦ:j6.Ok Φ]:a2d n1 words2 (Z6 n Φ n1 words2):=⟨fun{r} h=>by
 unfold Z6 at h;obtain⟨n1_0,n1_1,n1_2,⟨n1_3,n1_4,n1_5,n1_6⟩,n1_7,n1_8,n1_9⟩:=n1;refine D5 rfl Tryz.func116 rfl rfl ?_;let kr:=fun r:List Str=>a2e env 116 2 Tryz.f116.results.toList (a4T (Nod.mk n1_0 n1_1 n1_2 (Typ.mk n1_3 n1_4 n1_5 n1_6) n1_7 n1_8 n1_9) words2 r);let jn1:Jn 7 (List Str):=⟨fun fr H z=>([(0,.ptr 0 0),(3,.ptr 2 0)],[(0,.row [.st 1 clS z]),(1,.tip (tpe 1 (List.length z)) (List.length z)),(2,oH H 256)])⟩
 let jn2:Jn 11 (List Str):=⟨fun fr H z=>([(0,.ptr 0 0),(3,.ptr 2 0)],[(0,.row [.st 1 clS z]),(1,.tip (tpe 1 (List.length z)) (List.length z)),(2,oH H 2)])⟩
 let jn3:Jn 14 (List Str):=⟨fun fr H z=>([(0,.ptr 0 0)],[(0,.row [.st 1 clS z]),(1,.tip (tpe 1 (List.length z)) (List.length z))])⟩
 let jn4:Jn 47 (List Str):=⟨fun fr H z=>([(0,.ptr 0 0)],[(0,.row [.st 1 clS z]),(1,.tip (tpe 1 (List.length z)) (List.length z))])⟩
 let jl1:Jn 40 (Int×List Str):=⟨fun fr H z=>([(0,.ptr 0 0),(140,ow .sealed (lk 140 fr)),(141,(lk 141 fr)),(142,.i z.1)],[(0,.row [.st 1 clS z.2]),(1,.tip (tpe 1 (List.length z.2)) (List.length z.2))])⟩
 let jn5:Jn 52 (List Str):=⟨fun fr H z=>([(0,.ptr 0 0)],[(0,.row [.st 1 clS z]),(1,.tip (tpe 1 (List.length z)) (List.length z))])⟩
 exact blk⟩
theorem b1U (n:Nat) [hΦ:j6.Ok Φ]:a3L n1 words2 (O5 n Φ n1 words2):=⟨fun{r} h=>by
 unfold O5 at h;obtain⟨n1_0,n1_1,n1_2,⟨n1_3,n1_4,n1_5,n1_6⟩,n1_7,n1_8,n1_9⟩:=n1;refine D5 rfl Tryz.func37 rfl rfl ?_;exact blk⟩
theorem b0t (n:Nat) [hΦ:j6.Ok Φ]:a2Z n1 words2 (a4u n Φ n1 words2):=⟨fun{r} h=>by
 unfold a4u at h;obtain⟨n1_0,n1_1,n1_2,⟨n1_3,n1_4,n1_5,n1_6⟩,n1_7,n1_8,n1_9⟩:=n1;refine D5 rfl Tryz.func72 rfl rfl ?_;let kr:=fun r:List Str=>a2e env 72 2 Tryz.f72.results.toList (a6h (Nod.mk n1_0 n1_1 n1_2 (Typ.mk n1_3 n1_4 n1_5 n1_6) n1_7 n1_8 n1_9) words2 r);let jl1:Jn 2 (Int×List Str):=⟨fun fr H z=>([(0,.ptr 0 0),(3,.ptr 2 0),(7,.sl D9 n1_8),(8,.i (List.length n1_8:Int)),(9,.i z.1)],[(0,.row [.st 1 clS z.2]),(1,.tip (tpe 1 (List.length z.2)) (List.length z.2)),(2,oH H 256)])⟩
 let jn1:Jn 12 (List Str):=⟨fun fr H z=>([(0,.ptr 0 0),(3,.ptr 2 0),(7,.sl D9 n1_8),(8,.i (List.length n1_8:Int)),(9,(lk 9 fr))],[(0,.row [.st 1 clS z]),(1,.tip (tpe 1 (List.length z)) (List.length z)),(2,oH H 2)])⟩
 exact blk⟩
theorem a9R (n:Nat) [hΦ:j6.Ok Φ]:a2D n1 words2 (a1P n Φ n1 words2):=⟨fun{r} h=>by
 unfold a1P at h;obtain⟨n1_0,n1_1,n1_2,⟨n1_3,n1_4,n1_5,n1_6⟩,n1_7,n1_8,n1_9⟩:=n1;refine D5 rfl Tryz.func74 rfl rfl ?_;let kr:=fun r:List Str=>a2e env 74 2 Tryz.f74.results.toList (a5x (Nod.mk n1_0 n1_1 n1_2 (Typ.mk n1_3 n1_4 n1_5 n1_6) n1_7 n1_8 n1_9) words2 r);let jn1:Jn 15 (List Str):=⟨fun fr H z=>([(0,.ptr 0 0)],[(0,.row [.st 1 clS z]),(1,.tip (tpe 1 (List.length z)) (List.length z))])⟩
 let jl1:Jn 6 (Int×List Str):=⟨fun fr H z=>([(0,.ptr 0 0),(25,ow .sealed (lk 25 fr)),(26,(lk 26 fr)),(27,.i z.1)],[(0,.row [.st 1 clS z.2]),(1,.tip (tpe 1 (List.length z.2)) (List.length z.2))])⟩
 let jn2:Jn 14 (Int×List Str):=⟨fun fr H z=>([(0,.ptr 0 0),(25,ow .sealed (lk 25 fr)),(26,(lk 26 fr)),(27,.i z.1)],[(0,.row [.st 1 clS z.2]),(1,.tip (tpe 1 (List.length z.2)) (List.length z.2))])⟩
 let jl2:Jn 9 (Int×Int×List Str):=⟨fun fr H z=>([(0,.ptr 0 0),(25,ow .sealed (lk 25 fr)),(26,(lk 26 fr)),(27,.i z.1),(32,ow .sealed (agC (lk 30 fr) 8)),(33,(lk 33 fr)),(34,.i z.2.1)],[(0,.row [.st 1 clS z.2.2]),(1,.tip (tpe 1 (List.length z.2.2)) (List.length z.2.2))])⟩
 exact blk⟩
theorem b0V (n:Nat) [hΦ:j6.Ok Φ]:a3k l1 words2 (a4M n Φ l1 words2):=⟨fun{r} h=>by
 unfold a4M at h;refine D5 rfl Tryz.func75 rfl rfl ?_;let kr:=fun r:List Str=>a2e env 75 2 Tryz.f75.results.toList (a6z l1 words2 r);let jl1:Jn 1 (Int×List Str):=⟨fun fr H z=>([(0,.ptr 0 0),(2,.func (.func 37) [.ptr 0 0] []),(8,.sl D9 l1),(9,.i (List.length l1:Int)),(10,.i z.1)],[(0,.row [.st 1 clS z.2]),(1,.tip (tpe 1 (List.length z.2)) (List.length z.2))])⟩
 let jn1:Jn 6 (List Str):=⟨fun fr H z=>([(0,.ptr 0 0),(2,.func (.func 37) [.ptr 0 0] []),(7,.ptr 2 0),(8,.sl D9 l1),(9,.i (List.length l1:Int)),(10,(lk 10 fr))],[(0,.row [.st 1 clS z]),(1,.tip (tpe 1 (List.length z)) (List.length z)),(2,oH H 512)])⟩
 exact blk⟩
theorem b2N (n:Nat) [hΦ:j6.Ok Φ]:a4k n1 words2 (a2U n Φ n1 words2):=⟨fun{r} h=>by
 unfold a2U at h;obtain⟨n1_0,n1_1,n1_2,⟨n1_3,n1_4,n1_5,n1_6⟩,n1_7,n1_8,n1_9⟩:=n1;refine D5 rfl Tryz.func76 rfl rfl ?_;exact blk⟩
theorem a9j (n:Nat) [hΦ:j6.Ok Φ]:a2m n1 words2 (a1A n Φ n1 words2):=⟨fun{r} h=>by
 unfold a1A at h;obtain⟨n1_0,n1_1,n1_2,⟨n1_3,n1_4,n1_5,n1_6⟩,n1_7,n1_8,n1_9⟩:=n1;refine D5 rfl Tryz.func117 rfl rfl ?_;let kr:=fun r:List Str=>a2e env 117 2 Tryz.f117.results.toList (a5m (Nod.mk n1_0 n1_1 n1_2 (Typ.mk n1_3 n1_4 n1_5 n1_6) n1_7 n1_8 n1_9) words2 r);let jn1:Jn 30008 (Bool):=⟨fun fr H z=>([(0,.ptr 0 0),(3,.ptr 2 0),(9,.bool z)],[(0,.row [.st 1 clS words2]),(1,.tip (tpe 1 (List.length words2)) (List.length words2)),(2,oH H 256)])⟩
 exact blk⟩
theorem b1S (n:Nat) [hΦ:j6.Ok Φ]:a3K l1 words2 (a2u n Φ l1 words2):=⟨fun{r} h=>by
 unfold a2u at h;refine D5 rfl Tryz.func118 rfl rfl ?_;exact blk⟩
theorem j6.ok:∀n,j6.Ok (j6.fs n)
 | 0=>⟨⟨fun h=>by cases h⟩,⟨fun h=>by cases h⟩,⟨fun h=>by cases h⟩,⟨fun h=>by cases h⟩,⟨fun h=>by cases h⟩,⟨fun h=>by cases h⟩,⟨fun h=>by cases h⟩,⟨fun h=>by cases h⟩,⟨fun h=>by cases h⟩⟩
 | n+1=>have:=j6.ok n;⟨b1b n,a8U n,b1U n,b0t n,a9R n,b0V n,b2N n,a9j n,b1S n⟩
instance c2R {n:Nat}{n1:Nod}{words2:List Str}:a3s n1 words2 (I4 n n1 words2):=(j6.ok n).I4
instance b8E {n:Nat}{n1:Nod}{words2:List Str}:a2d n1 words2 (M9 n n1 words2):=(j6.ok n).M9
instance c3v {n:Nat}{n1:Nod}{words2:List Str}:a3L n1 words2 (F8 n n1 words2):=(j6.ok n).F8
instance c1p {n:Nat}{n1:Nod}{words2:List Str}:a2Z n1 words2 (X9 n n1 words2):=(j6.ok n).X9
instance c0O {n:Nat}{n1:Nod}{words2:List Str}:a2D n1 words2 (V6 n n1 words2):=(j6.ok n).V6
instance c2F {n:Nat}{l1:List Nod}{words2:List Str}:a3k l1 words2 (W9 n l1 words2):=(j6.ok n).W9
instance c4G {n:Nat}{n1:Nod}{words2:List Str}:a4k n1 words2 (a0B n n1 words2):=(j6.ok n).a0B
instance b9v {n:Nat}{n1:Nod}{words2:List Str}:a2m n1 words2 (O8 n n1 words2):=(j6.ok n).O8
instance c3u {n:Nat}{l1:List Nod}{words2:List Str}:a3K l1 words2 (P5 n l1 words2):=(j6.ok n).P5
abbrev b1W (n1:Nod)(words2:List Str)(p:Option (List Str)):Prop:=OkF env p 57 [.ptr 0 0,.agg (c0 n1.op n1.s n1.n n1.t.kind n1.t.name n1.t.n (.sl D8 n1.t.args) (.sl D8 n1.ts) (.sl D9 n1.l) n1.at_)] [(0,.row [.st 1 clS words2]),(1,.tip (tpe 1 (List.length words2)) (List.length words2))] (a6i n1 words2)
instance c1q {n:Nat}{n1:Nod}{words2:List Str}:b1W n1 words2 (J9 n n1 words2):=⟨fun{r} h=>by
 unfold J9 at h;obtain⟨n1_0,n1_1,n1_2,⟨n1_3,n1_4,n1_5,n1_6⟩,n1_7,n1_8,n1_9⟩:=n1;refine D5 rfl Tryz.func57 rfl rfl ?_;let kr:=fun r:List Str=>a2e env 57 2 Tryz.f57.results.toList (a6i (Nod.mk n1_0 n1_1 n1_2 (Typ.mk n1_3 n1_4 n1_5 n1_6) n1_7 n1_8 n1_9) words2 r);let jn1:Jn 7 (List Str):=⟨fun fr H z=>([(0,.ptr 0 0),(3,.ptr 2 0)],[(0,.row [.st 1 clS z]),(1,.tip (tpe 1 (List.length z)) (List.length z)),(2,oH H 256)])⟩
 let jn2:Jn 13 (List Str):=⟨fun fr H z=>([(0,.ptr 0 0),(3,.ptr 2 0)],[(0,.row [.st 1 clS z]),(1,.tip (tpe 1 (List.length z)) (List.length z)),(2,oH H 256)])⟩
 let jn3:Jn 18 (List Str):=⟨fun fr H z=>([(0,.ptr 0 0)],[(0,.row [.st 1 clS z]),(1,.tip (tpe 1 (List.length z)) (List.length z))])⟩
 exact blk⟩
abbrev b0w (r1:Nod)(words2:List Str)(p:Option (List Str)):Prop:=OkF env p 106 [.agg (c0 r1.op r1.s r1.n r1.t.kind r1.t.name r1.t.n (.sl D8 r1.t.args) (.sl D8 r1.ts) (.sl D9 r1.l) r1.at_),.ptr 0 0] [(0,.row [.ptr 1 0]),(1,.row [.st 2 clS words2]),(2,.tip (tpe 1 (List.length words2)) (List.length words2))] (a9k r1 words2)
instance b9w {n:Nat}{r1:Nod}{words2:List Str}:b0w r1 words2 (a1g n r1 words2):=⟨fun{r} h=>by
 unfold a1g at h;obtain⟨r1_0,r1_1,r1_2,⟨r1_3,r1_4,r1_5,r1_6⟩,r1_7,r1_8,r1_9⟩:=r1;refine D5 rfl Tryz.func106 rfl rfl ?_;exact blk⟩
abbrev b2A (l1:List Nod)(words2:List Str)(p:Option (List Str)):Prop:=OkF env p 75 [.ptr 0 0,.sl D9 l1,.func (.func 106) [] [.ptr 1 0]] [(0,.row [.st 2 clS words2]),(1,.row [.ptr 0 0]),(2,.tip (tpe 1 (List.length words2)) (List.length words2))] (a6y l1 words2)
instance c2E {n:Nat}{l1:List Nod}{words2:List Str}:b2A l1 words2 (a4g n l1 words2):=⟨fun{r} h=>by
 unfold a4g at h;refine D5 rfl Tryz.func75 rfl rfl ?_;let kr:=fun r:List Str=>a2e env 75 3 Tryz.f75.results.toList (a6y l1 words2 r);let jl1:Jn 1 (Int×List Str):=⟨fun fr H z=>([(0,.ptr 0 0),(2,.func (.func 106) [] [.ptr 1 0]),(8,.sl D9 l1),(9,.i (List.length l1:Int)),(10,.i z.1)],[(0,.row [.st 2 clS z.2]),(1,.row [.ptr 0 0]),(2,.tip (tpe 1 (List.length z.2)) (List.length z.2))])⟩
 let jn1:Jn 6 (List Str):=⟨fun fr H z=>([(0,.ptr 0 0),(2,.func (.func 106) [] [.ptr 1 0]),(7,.ptr 3 0),(8,.sl D9 l1),(9,.i (List.length l1:Int)),(10,(lk 10 fr))],[(0,.row [.st 2 clS z]),(1,.row [.ptr 0 0]),(2,.tip (tpe 1 (List.length z)) (List.length z)),(3,oH H 512)])⟩
 exact blk⟩
abbrev b2P (n1:Nod)(words2:List Str)(p:Option (List Str)):Prop:=OkF env p 61 [.ptr 0 0,.agg (c0 n1.op n1.s n1.n n1.t.kind n1.t.name n1.t.n (.sl D8 n1.t.args) (.sl D8 n1.ts) (.sl D9 n1.l) n1.at_)] [(0,.row [.st 1 clS words2]),(1,.tip (tpe 1 (List.length words2)) (List.length words2))] (b1d n1 words2)
instance c2T {n:Nat}{n1:Nod}{words2:List Str}:b2P n1 words2 (a2b n n1 words2):=⟨fun{r} h=>by
 unfold a2b at h;obtain⟨n1_0,n1_1,n1_2,⟨n1_3,n1_4,n1_5,n1_6⟩,n1_7,n1_8,n1_9⟩:=n1;refine D5 rfl Tryz.func61 rfl rfl ?_;exact blk⟩
abbrev b0r (n1:Nod)(words2:List Str)(p:Option (List Str)):Prop:=OkF env p 59 [.ptr 0 0,.agg (c0 n1.op n1.s n1.n n1.t.kind n1.t.name n1.t.n (.sl D8 n1.t.args) (.sl D8 n1.ts) (.sl D9 n1.l) n1.at_)] [(0,.row [.st 1 clS words2]),(1,.tip (tpe 1 (List.length words2)) (List.length words2))] (a5l n1 words2)
instance b9t {n:Nat}{n1:Nod}{words2:List Str}:b0r n1 words2 (X5 n n1 words2):=⟨fun{r} h=>by
 unfold X5 at h;obtain⟨n1_0,n1_1,n1_2,⟨n1_3,n1_4,n1_5,n1_6⟩,n1_7,n1_8,n1_9⟩:=n1;refine D5 rfl Tryz.func59 rfl rfl ?_;let kr:=fun r:List Str=>a2e env 59 2 Tryz.f59.results.toList (a5l (Nod.mk n1_0 n1_1 n1_2 (Typ.mk n1_3 n1_4 n1_5 n1_6) n1_7 n1_8 n1_9) words2 r);let jn1:Jn 12 (List Str):=⟨fun fr H z=>([(0,.ptr 0 0),(3,.ptr 2 0)],[(0,.row [.st 1 clS z]),(1,.tip (tpe 1 (List.length z)) (List.length z)),(2,oH H 256)])⟩
 let jl1:Jn 5 (List Nod×Int×Int×List Str):=⟨fun fr H z=>([(0,.ptr 0 0),(3,.ptr 2 0),(23,.sl D9 z.1),(24,.i z.2.1),(25,.i z.2.2.1)],[(0,.row [.st 1 clS z.2.2.2]),(1,.tip (tpe 1 (List.length z.2.2.2)) (List.length z.2.2.2)),(2,oH H 256)])⟩
 let jl2:Jn 15 (Int×List Str):=⟨fun fr H z=>([(0,.ptr 0 0),(52,ow .sealed (lk 52 fr)),(53,(lk 53 fr)),(54,.i z.1)],[(0,.row [.st 1 clS z.2]),(1,.tip (tpe 1 (List.length z.2)) (List.length z.2))])⟩
 exact blk⟩
abbrev a8S (n1:Nod)(words2:List Str)(p:Option (List Str)):Prop:=OkF env p 25 [.ptr 0 0,.agg (c0 n1.op n1.s n1.n n1.t.kind n1.t.name n1.t.n (.sl D8 n1.t.args) (.sl D8 n1.ts) (.sl D9 n1.l) n1.at_)] [(0,.row [.st 1 clS words2]),(1,.tip (tpe 1 (List.length words2)) (List.length words2))] (a4r n1 words2)
instance a4R {n:Nat}{n1:Nod}{words2:List Str}:a8S n1 words2 (I5 n n1 words2):=⟨fun{r} h=>by
 unfold I5 at h;obtain⟨n1_0,n1_1,n1_2,⟨n1_3,n1_4,n1_5,n1_6⟩,n1_7,n1_8,n1_9⟩:=n1;refine D5 rfl Tryz.func25 rfl rfl ?_;let kr:=fun r:List Str=>a2e env 25 2 Tryz.f25.results.toList (a4r (Nod.mk n1_0 n1_1 n1_2 (Typ.mk n1_3 n1_4 n1_5 n1_6) n1_7 n1_8 n1_9) words2 r);let jn1:Jn 30006 (Bool):=⟨fun fr H z=>([(0,.ptr 0 0),(3,.ptr 2 0),(11,.i n1_0),(12,.bool z)],[(0,.row [.st 1 clS words2]),(1,.tip (tpe 1 (List.length words2)) (List.length words2)),(2,oH H 256)])⟩
 let jn2:Jn 8 (List Str):=⟨fun fr H z=>([(0,.ptr 0 0),(3,.ptr 2 0)],[(0,.row [.st 1 clS z]),(1,.tip (tpe 1 (List.length z)) (List.length z)),(2,oH H 2)])⟩
 let jn3:Jn 10 (List Str):=⟨fun fr H z=>([(0,.ptr 0 0),(3,.ptr 2 0)],[(0,.row [.st 1 clS z]),(1,.tip (tpe 1 (List.length z)) (List.length z)),(2,oH H 2)])⟩
 let jn4:Jn 18 (List Str):=⟨fun fr H z=>([(0,.ptr 0 0)],[(0,.row [.st 1 clS z]),(1,.tip (tpe 1 (List.length z)) (List.length z))])⟩
 let jl1:Jn 13 (List Nod×Int×Int×List Str):=⟨fun fr H z=>([(0,.ptr 0 0),(48,.sl D9 z.1),(49,.i z.2.1),(50,.i z.2.2.1)],[(0,.row [.st 1 clS z.2.2.2]),(1,.tip (tpe 1 (List.length z.2.2.2)) (List.length z.2.2.2))])⟩
 let jn5:Jn 30 (List Str):=⟨fun fr H z=>([(0,.ptr 0 0)],[(0,.row [.st 1 clS z]),(1,.tip (tpe 1 (List.length z)) (List.length z))])⟩
 let jl2:Jn 21 (Int×List Str):=⟨fun fr H z=>([(0,.ptr 0 0),(69,.sl D9 n1_8),(70,.i (List.length n1_8:Int)),(71,.i z.1)],[(0,.row [.st 1 clS z.2]),(1,.tip (tpe 1 (List.length z.2)) (List.length z.2))])⟩
 let jn6:Jn 29 (List Str):=⟨fun fr H z=>([(0,.ptr 0 0),(69,.sl D9 n1_8),(70,.i (List.length n1_8:Int)),(71,(lk 71 fr))],[(0,.row [.st 1 clS z]),(1,.tip (tpe 1 (List.length z)) (List.length z))])⟩
 let jn7:Jn 46 (List Str):=⟨fun fr H z=>([(0,.ptr 0 0)],[(0,.row [.st 1 clS z]),(1,.tip (tpe 1 (List.length z)) (List.length z))])⟩
 let jl3:Jn 37 (Int×List Str):=⟨fun fr H z=>([(0,.ptr 0 0),(118,ow .sealed (lk 118 fr)),(119,(lk 119 fr)),(120,.i z.1)],[(0,.row [.st 1 clS z.2]),(1,.tip (tpe 1 (List.length z.2)) (List.length z.2))])⟩
 let jn8:Jn 45 (List Str):=⟨fun fr H z=>([(0,.ptr 0 0),(118,ow .sealed (lk 118 fr)),(119,(lk 119 fr)),(120,(lk 120 fr))],[(0,.row [.st 1 clS z]),(1,.tip (tpe 1 (List.length z)) (List.length z))])⟩
 exact blk⟩
abbrev b3C (words1:List Str)(p:Option (Str)):Prop:=OkF env p 27 [.ptr 0 0] [(0,.row [.st 1 clS words1]),(1,.tip (tpe 1 (List.length words1)) (List.length words1))] (b2a words1)
instance a7Y {words1:List Str}:b3C words1 (a3t words1):=⟨fun{r} h=>by
 unfold a3t at h;refine D5 rfl Tryz.func27 rfl rfl ?_;exact blk⟩
end Go.Proofs.YtjhfloacokgdiaaGreatDoor.Pr
namespace Go.Vm
open Go
variable {B:Nat} {x:Value} {w w0:World}
variable {env:Env}
def rho0:Rho:=⟨fun _=>none,fun _ _=>none⟩
def lab0:Lab:=fun _ _=>none
theorem rho0_le (ρ:Rho):rho0.le ρ:=⟨fun _ _ h=>(by cases h),fun _ _ _ h=>(by cases h)⟩
def b6c (B:Nat):Rho:=⟨fun k=>if k=0 then some (some (B,0),none)else none,fun k n=>if k=1/\n=0 then some (none,0)else none⟩
def a3R (B:Nat):Lab:=fun b o=>if b=B/\o=0 then some (some 0)else none
def hp1:Hp:=[(0,.row [.slice (.tag 1) 0 []]),(1,.tip 0 0)]
theorem old_rel (hB:w0.heap.size<=B)(hk:∀b,b<w0.heap.size->w.heap[b]? = w0.heap[b]?){v:V}(h:Rel rho0 lab0 w0 v x):Rel (b6c B) (a3R B) w v x:=by
 have h1:Rel rho0 (a3R B) w v x:=by
  refine h.carry fun b o x h=>?_;have hb:=a1d h.cell;refine⟨?_,?_⟩
  ·simp only[a3R];rw[if_neg (by omega)]
  ·simp only[cellAt,World.cell?,hk b hb];exact h.cell
 exact h1.ext (Ext.refl _ _) (rho0_le _)
theorem sim1 (hkp:KpW w)(hkB:∀p∈kpL,p.1<B)(hc:w.cell? ⟨B,0,none⟩=some (.slice none 0 0))(hz:w.frozen? ⟨B,0,none⟩=false):Sim (b6c B) (a3R B) hp1 w where
 kp:=⟨hkp,fun p hp o k h=>by
  simp only[a3R]at h;rw[if_neg (by have:=hkB p hp;omega)]at h;cases h⟩
 row:=fun k cs h=>by
  have:k=0/\cs=[.slice (.tag 1) 0 []]:=by
   simp only[hp1,hget]at h;split at h
   ·rename_i hb;cases h;exact⟨(Nat.eq_of_beq_eq_true hb).symm,rfl⟩
   ·split at h
    ·cases h
    ·cases h
  obtain⟨rfl,rfl⟩:=this;refine⟨B,0,[.slice none 0 0],by simp[b6c],?_,fun i x hx=>?_⟩
  ·refine E9.2 ⟨_,_,rfl,.slice _ 0 [] [] 0 0 none 0 rfl (Nat.le_refl _) (fun h=>by omega) (fun _=>rfl) (fun i x h=>by simp at h) (fun i v x h=>by simp at h) (by simp[b6c]) (by simp) (by simp),⟨rfl,by simp⟩⟩
  ·match i,hx with
   | 0,hx =>
    cases hx;exact⟨⟨by simp[a3R],hz,_,hc⟩,hc⟩
   | i+1,hx=>simp at hx
 grow:=fun k e cs h=>by
  simp only[hp1,hget]at h;split at h
  ·cases h
  ·split at h<;>cases h
 tip:=fun k e n h=>by
  have:k=1/\e=0/\n=0:=by
   simp only[hp1,hget]at h;split at h
   ·cases h
   ·split at h
    ·rename_i hb;cases h;exact⟨(Nat.eq_of_beq_eq_true hb).symm,rfl,rfl⟩
    ·cases h
  obtain⟨rfl,rfl,rfl⟩:=this;exact⟨none,0,by simp[b6c],Nat.le_refl _,fun _=>rfl,fun _=>rfl,fun a h=>by cases h⟩
 mp:=fun k es h=>by
  simp only[hp1,hget]at h;split at h
  ·cases h
  ·split at h<;>cases h
 hdom:=fun k n x h=>by
  simp only[b6c]at h;split at h
  ·rename_i hk;obtain⟨rfl,rfl⟩:=hk;exact⟨0,0,rfl,Nat.le_refl _⟩
  ·cases h
 adom:=fun k x h=>by
  simp only[b6c]at h;split at h
  ·rename_i hk;subst hk;simp[hp1,hget]
  ·cases h
 ldom:=fun b o k h=>by
  simp only[a3R]at h;split at h
  ·rename_i hb;obtain⟨rfl,rfl⟩:=hb;exact a1d hc
  ·cases h
theorem b46 {w':World}{lab':Lab}(E:Ext (a3R B) w lab' w'):Wrote B w w' :=
 ⟨E.size,E.os,E.tape,E.output,fun b hb hn=>E.blk b hb (fun o k h=>by
  simp only[a3R]at h;rw[if_neg (fun h=>hn h.1)]at h;cases h)⟩
theorem c7W (hE:a7q env){g1 g2:Nat}{c:V}{H1 H2:Hp}{s:List UInt8}
  (h1:E env (.call g1 [.ptr 0 0,c]) hp1=some (.ret (.tuple []) H1)) (h2:E env (.call g2 [.ptr 0 0]) H1=some (.ret (.str s) H2))
  (hkp:KpW w0) (hkw:w0.heap.size<=w.heap.size) (hB:w0.heap.size<=B) (hk:∀b,b<w0.heap.size->w.heap[b]? = w0.heap[b]?) (hc:w.cell? ⟨B,0,none⟩=some (.slice none 0 0)) (hz:w.frozen? ⟨B,0,none⟩=false) (hx:Rel rho0 lab0 w0 c x) :
  Calls env.P g1 #[.pointer (some ⟨B,0,none⟩),x] w fun e w1=>e=.returned (.tuple #[])/\Wrote B w w1 /\
   Calls env.P g2 #[.pointer (some ⟨B,0,none⟩)] w1 fun e w2=>e=.returned (.string ⟨⟨s⟩⟩)/\Wrote B w w2:=by
 obtain⟨k1,hk1⟩:=(a3W env).at_ _ _ _ h1;obtain⟨k2,hk2⟩:=(a3W env).at_ _ _ _ h2;have hS:=sim1 (fun p hp=>⟨Nat.lt_of_lt_of_le (hkp p hp).1 hkw,by rw[hk p.1 (hkp p hp).1];exact(hkp p hp).2⟩) (fun p hp=>Nat.lt_of_lt_of_le (hkp p hp).1 hB) hc hz;have hp:Rel (b6c B) (a3R B) w (.ptr 0 0) (.pointer (some ⟨B,0+0,none⟩)):=.ptr 0 0 B 0 none (by simp[b6c]);have hL:J2 (b6c B) (a3R B) w [.ptr 0 0,c] [.pointer (some ⟨B,0,none⟩),x]:=E9.2 ⟨_,_,rfl,hp,E9.2 ⟨_,_,rfl,old_rel hB hk hx,⟨rfl,by simp⟩⟩⟩;have C1:=(b70 hE k1).1.call g1 _ _ _ hk1 (b6c B) (a3R B) w _ ⟨rfl,rfl,trivial⟩ hS hL;refine C1.mono fun e w1 hP=>?_;cases e with
 | returned v =>
  obtain⟨ρ',lab',s1,s2,s3,s4,s5,s6⟩:=hP;have hv:v=.tuple #[]:=by
   cases s4 with
   | tuple _ zs h1 h2 =>
    have:zs=[]:=by simpa using h1
    subst this;rfl
  refine⟨by rw[hv],b46 s2,?_⟩;have ha:ρ'.at_ 0=some (some (B,0),none):=s3.at_ 0 _ (by decide) (by simp[b6c]);have hp2:Rel ρ' lab' w1 (.ptr 0 0) (.pointer (some ⟨B,0+0,none⟩)):=.ptr 0 0 B 0 none ha;have hL2:J2 ρ' lab' w1 [.ptr 0 0] [.pointer (some ⟨B,0,none⟩)]:=E9.2 ⟨_,_,rfl,hp2,⟨rfl,by simp⟩⟩;have C2:=(b70 hE k2).1.call g2 _ _ _ hk2 ρ' lab' w1 _ s5 s1 hL2;refine C2.mono fun e w2 hP=>?_;cases e with
  | returned v2 =>
   obtain⟨ρ2,lab2,t1,t2,t3,t4,t5,t6⟩:=hP;have hv2:v2=.string ⟨⟨s⟩⟩:=by cases t4;rfl
   exact⟨by rw[hv2],b46 (s2.trans t2)⟩
  | panicked ch=>exact hP.elim
  | outgrown=>exact hP.elim
 | panicked ch=>exact hP.elim
 | outgrown=>exact hP.elim
end Go.Vm
