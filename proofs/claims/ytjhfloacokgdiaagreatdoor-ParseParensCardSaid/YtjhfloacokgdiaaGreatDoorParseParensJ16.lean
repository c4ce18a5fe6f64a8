/- Texts of ParseParens, joined. -/
import Derived.Test.YtjhfloacokgdiaaGreatDoorParseParensJ15
set_option maxRecDepth 100000
set_option maxHeartbeats 20000000
set_option linter.unusedSimpArgs false
set_option linter.unusedVariables false
set_option linter.unusedSectionVars false
namespace Go.Proofs.YtjhfloacokgdiaaGreatDoor
open Go Go.Vm
attribute [local irreducible] Go.Vm.Ev Go.Vm.Os Go.Vm.OsP Go.Vm.Lp Go.Vm.D8 Go.Vm.M4 Go.Vm.M7 Go.Vm.E
abbrev a13 (n1:Nod)(words2:List Str)(p:Option (List Str)):Prop:=OkF env p 144 [.ptr 0 0,.agg (c0 n1.op n1.s n1.n n1.t.kind n1.t.name n1.t.n (.sl F3 n1.t.args) (.sl F3 n1.ts) (.sl H6 n1.l) n1.at_)] [(0,.row [.st 1 clS words2]),(1,.tip (tpe 1 (List.length words2)) (List.length words2))] (a8j n1 words2)
abbrev a2x (l1:List Nod)(words2:List Str)(p:Option (List Str)):Prop:=OkF env p 75 [.ptr 0 0,.sl H6 l1,.func (.func 144) [.ptr 0 0] []] [(0,.row [.st 1 clS words2]),(1,.tip (tpe 1 (List.length words2)) (List.length words2))] (a5i l1 words2)
class o9.Ok (Φ:o9):Prop where
 R4:∀{n1:Nod} {words2:List Str},a13 n1 words2 (Φ.R4 n1 words2)
 Z4:∀{l1:List Nod} {words2:List Str},a2x l1 words2 (Φ.Z4 l1 words2)
instance {Φ:o9} [h:o9.Ok Φ] {n1:Nod}{words2:List Str}:a13 n1 words2 (Φ.R4 n1 words2):=h.R4
instance {Φ:o9} [h:o9.Ok Φ] {l1:List Nod}{words2:List Str}:a2x l1 words2 (Φ.Z4 l1 words2):=h.Z4
theorem a8i (n:Nat){Φ:o9} [hΦ:o9.Ok Φ] {n1:Nod}{words2:List Str}:a13 n1 words2 (E5 n Φ n1 words2):=⟨fun{r} h=>by
 unfold E5 at h
 obtain⟨n1_0,n1_1,n1_2,⟨n1_3,n1_4,n1_5,n1_6⟩,n1_7,n1_8,n1_9⟩:=n1
 refine F4 rfl Tryz.func144 rfl rfl ?_
 exact blk⟩
theorem a9f (n:Nat){Φ:o9} [hΦ:o9.Ok Φ] {l1:List Nod}{words2:List Str}:a2x l1 words2 (a3R n Φ l1 words2):=⟨fun{r} h=>by
 unfold a3R at h
 refine F4 rfl Tryz.func75 rfl rfl ?_
 let kr:=fun r:List Str=>a3I env 75 2 Tryz.f75.results.toList (a5i l1 words2 r)
 let jl1:Jn 1 (Int×List Str):=⟨fun fr H z=>([(0,.ptr 0 0),(2,.func (.func 144) [.ptr 0 0] []),(8,.sl H6 l1),(9,.i (List.length l1:Int)),(10,.i z.1)],[(0,.row [.st 1 clS z.2]),(1,.tip (tpe 1 (List.length z.2)) (List.length z.2))])⟩
 let jn1:Jn 6 (List Str):=⟨fun fr H z=>([(0,.ptr 0 0),(2,.func (.func 144) [.ptr 0 0] []),(7,.ptr 2 0),(8,.sl H6 l1),(9,.i (List.length l1:Int)),(10,(lk 10 fr))],[(0,.row [.st 1 clS z]),(1,.tip (tpe 1 (List.length z)) (List.length z)),(2,oH H 512)])⟩
 exact blk⟩
theorem o9.ok:∀n,o9.Ok (o9.fs n)
 | 0=>⟨⟨fun h=>by cases h⟩,⟨fun h=>by cases h⟩⟩
 | n+1=>have:=o9.ok n;⟨a8i n,a9f n⟩
instance b8D {n:Nat}{n1:Nod}{words2:List Str}:a13 n1 words2 (R4 n n1 words2):=(o9.ok n).R4
instance c0j {n:Nat}{l1:List Nod}{words2:List Str}:a2x l1 words2 (Z4 n l1 words2):=(o9.ok n).Z4
abbrev c2i (n1:Nod)(ops2:List Int)(p:Option (List Nod)):Prop:=OkF env p 56 [.agg (c0 n1.op n1.s n1.n n1.t.kind n1.t.name n1.t.n (.sl F3 n1.t.args) (.sl F3 n1.ts) (.sl H6 n1.l) n1.at_),.slice .sealed (List.length ops2) ((clI .i64) ops2)] [] (b2W n1 ops2)
instance parse_of_I {n:Nat}{n1:Nod}{ops2:List Int}:c2i n1 ops2 (a8D n n1 ops2):=⟨fun{r} h=>by
 unfold a8D at h
 obtain⟨n1_0,n1_1,n1_2,⟨n1_3,n1_4,n1_5,n1_6⟩,n1_7,n1_8,n1_9⟩:=n1
 refine F4 rfl Tryz.func56 rfl rfl ?_
 let kr:=fun r:List Nod=>a3I env 56 0 Tryz.f56.results.toList (b2W (Nod.mk n1_0 n1_1 n1_2 (Typ.mk n1_3 n1_4 n1_5 n1_6) n1_7 n1_8 n1_9) ops2 r)
 let jn1:Jn 13 (List Nod):=⟨fun fr H z=>([(5,.st 0 H6 z)],[(0,.tip (tpe 10 (List.length z)) (List.length z))])⟩
 let jl1:Jn 3 (List Nod×Int):=⟨fun fr H z=>([(1,.slice .sealed (List.length ops2) ((clI .i64) ops2)),(5,.st 0 H6 z.1),(11,.sl H6 n1_8),(12,.i (List.length n1_8:Int)),(13,.i z.2)],[(0,.tip (tpe 10 (List.length z.1)) (List.length z.1))])⟩
 let jn2:Jn 12 (List Nod×Int):=⟨fun fr H z=>([(1,.slice .sealed (List.length ops2) ((clI .i64) ops2)),(5,.st 0 H6 z.1),(11,.sl H6 n1_8),(12,.i (List.length n1_8:Int)),(13,.i z.2)],[(0,.tip (tpe 10 (List.length z.1)) (List.length z.1))])⟩
 let jl2:Jn 6 (List Nod×Int×Int):=⟨fun fr H z=>([(1,.slice .sealed (List.length ops2) ((clI .i64) ops2)),(5,.st 0 H6 z.1),(7,.ptr 1 0),(11,.sl H6 n1_8),(12,.i (List.length n1_8:Int)),(13,.i z.2.1),(17,.slice .sealed (List.length ops2) ((clI .i64) ops2)),(18,.i (List.length ops2:Int)),(19,.i z.2.2)],[(0,.tip (tpe 10 (List.length z.1)) (List.length z.1)),(1,oH H 512)])⟩
 let jn3:Jn 11 (List Nod):=⟨fun fr H z=>([(1,.slice .sealed (List.length ops2) ((clI .i64) ops2)),(5,.st 0 H6 z),(7,.ptr 1 0),(11,.sl H6 n1_8),(12,.i (List.length n1_8:Int)),(13,(lk 13 fr)),(17,.slice .sealed (List.length ops2) ((clI .i64) ops2)),(18,.i (List.length ops2:Int)),(19,(lk 19 fr))],[(0,.tip (tpe 10 (List.length z)) (List.length z)),(1,oH H 1)])⟩
 exact blk⟩
abbrev a2T (n1:Nod)(words2:List Str)(p:Option (List Str)):Prop:=OkF env p 37 [.ptr 0 0,.agg (c0 n1.op n1.s n1.n n1.t.kind n1.t.name n1.t.n (.sl F3 n1.t.args) (.sl F3 n1.ts) (.sl H6 n1.l) n1.at_)] [(0,.row [.st 1 clS words2]),(1,.tip (tpe 1 (List.length words2)) (List.length words2))] (a99 n1 words2)
abbrev a2k (n1:Nod)(words2:List Str)(p:Option (List Str)):Prop:=OkF env p 72 [.ptr 0 0,.agg (c0 n1.op n1.s n1.n n1.t.kind n1.t.name n1.t.n (.sl F3 n1.t.args) (.sl F3 n1.ts) (.sl H6 n1.l) n1.at_)] [(0,.row [.st 1 clS words2]),(1,.tip (tpe 1 (List.length words2)) (List.length words2))] (a4O n1 words2)
abbrev a11 (n1:Nod)(words2:List Str)(p:Option (List Str)):Prop:=OkF env p 74 [.ptr 0 0,.agg (c0 n1.op n1.s n1.n n1.t.kind n1.t.name n1.t.n (.sl F3 n1.t.args) (.sl F3 n1.ts) (.sl H6 n1.l) n1.at_)] [(0,.row [.st 1 clS words2]),(1,.tip (tpe 1 (List.length words2)) (List.length words2))] (a4s n1 words2)
abbrev a1x (n1:Nod)(words2:List Str)(p:Option (List Str)):Prop:=OkF env p 116 [.ptr 0 0,.agg (c0 n1.op n1.s n1.n n1.t.kind n1.t.name n1.t.n (.sl F3 n1.t.args) (.sl F3 n1.ts) (.sl H6 n1.l) n1.at_)] [(0,.row [.st 1 clS words2]),(1,.tip (tpe 1 (List.length words2)) (List.length words2))] (a3U n1 words2)
abbrev a2E (n1:Nod)(words2:List Str)(p:Option (List Str)):Prop:=OkF env p 102 [.ptr 0 0,.agg (c0 n1.op n1.s n1.n n1.t.kind n1.t.name n1.t.n (.sl F3 n1.t.args) (.sl F3 n1.ts) (.sl H6 n1.l) n1.at_)] [(0,.row [.st 1 clS words2]),(1,.tip (tpe 1 (List.length words2)) (List.length words2))] (a5o n1 words2)
abbrev a3E (l1:List Nod)(words2:List Str)(p:Option (List Str)):Prop:=OkF env p 75 [.ptr 0 0,.sl H6 l1,.func (.func 37) [.ptr 0 0] []] [(0,.row [.st 1 clS words2]),(1,.tip (tpe 1 (List.length words2)) (List.length words2))] (a6w l1 words2)
abbrev a3o (n1:Nod)(words2:List Str)(p:Option (List Str)):Prop:=OkF env p 76 [.ptr 0 0,.agg (c0 n1.op n1.s n1.n n1.t.kind n1.t.name n1.t.n (.sl F3 n1.t.args) (.sl F3 n1.ts) (.sl H6 n1.l) n1.at_)] [(0,.row [.st 1 clS words2]),(1,.tip (tpe 1 (List.length words2)) (List.length words2))] (b0O n1 words2)
abbrev a1K (n1:Nod)(words2:List Str)(p:Option (List Str)):Prop:=OkF env p 117 [.ptr 0 0,.agg (c0 n1.op n1.s n1.n n1.t.kind n1.t.name n1.t.n (.sl F3 n1.t.args) (.sl F3 n1.ts) (.sl H6 n1.l) n1.at_)] [(0,.row [.st 1 clS words2]),(1,.tip (tpe 1 (List.length words2)) (List.length words2))] (a4i n1 words2)
abbrev a2S (l1:List Nod)(words2:List Str)(p:Option (List Str)):Prop:=OkF env p 118 [.ptr 0 0,.sl H6 l1] [(0,.row [.st 1 clS words2]),(1,.tip (tpe 1 (List.length words2)) (List.length words2))] (a97 l1 words2)
class j4.Ok (Φ:j4):Prop where
 D9:∀{n1:Nod} {words2:List Str},a2T n1 words2 (Φ.D9 n1 words2)
 Y1:∀{n1:Nod} {words2:List Str},a2k n1 words2 (Φ.Y1 n1 words2)
 X4:∀{n1:Nod} {words2:List Str},a11 n1 words2 (Φ.X4 n1 words2)
 O7:∀{n1:Nod} {words2:List Str},a1x n1 words2 (Φ.O7 n1 words2)
 O1:∀{n1:Nod} {words2:List Str},a2E n1 words2 (Φ.O1 n1 words2)
 a0m:∀{l1:List Nod} {words2:List Str},a3E l1 words2 (Φ.a0m l1 words2)
 a0c:∀{n1:Nod} {words2:List Str},a3o n1 words2 (Φ.a0c n1 words2)
 R6:∀{n1:Nod} {words2:List Str},a1K n1 words2 (Φ.R6 n1 words2)
 R7:∀{l1:List Nod} {words2:List Str},a2S l1 words2 (Φ.R7 l1 words2)
instance {Φ:j4} [h:j4.Ok Φ] {n1:Nod}{words2:List Str}:a2T n1 words2 (Φ.D9 n1 words2):=h.D9
instance {Φ:j4} [h:j4.Ok Φ] {n1:Nod}{words2:List Str}:a2k n1 words2 (Φ.Y1 n1 words2):=h.Y1
instance {Φ:j4} [h:j4.Ok Φ] {n1:Nod}{words2:List Str}:a11 n1 words2 (Φ.X4 n1 words2):=h.X4
instance {Φ:j4} [h:j4.Ok Φ] {n1:Nod}{words2:List Str}:a1x n1 words2 (Φ.O7 n1 words2):=h.O7
instance {Φ:j4} [h:j4.Ok Φ] {n1:Nod}{words2:List Str}:a2E n1 words2 (Φ.O1 n1 words2):=h.O1
instance {Φ:j4} [h:j4.Ok Φ] {l1:List Nod}{words2:List Str}:a3E l1 words2 (Φ.a0m l1 words2):=h.a0m
instance {Φ:j4} [h:j4.Ok Φ] {n1:Nod}{words2:List Str}:a3o n1 words2 (Φ.a0c n1 words2):=h.a0c
instance {Φ:j4} [h:j4.Ok Φ] {n1:Nod}{words2:List Str}:a1K n1 words2 (Φ.R6 n1 words2):=h.R6
instance {Φ:j4} [h:j4.Ok Φ] {l1:List Nod}{words2:List Str}:a2S l1 words2 (Φ.R7 l1 words2):=h.R7
theorem a98 (n:Nat){Φ:j4} [hΦ:j4.Ok Φ] {n1:Nod}{words2:List Str}:a2T n1 words2 (A9 n Φ n1 words2):=⟨fun{r} h=>by
 unfold A9 at h
 obtain⟨n1_0,n1_1,n1_2,⟨n1_3,n1_4,n1_5,n1_6⟩,n1_7,n1_8,n1_9⟩:=n1
 refine F4 rfl Tryz.func37 rfl rfl ?_
 exact blk⟩
theorem a8J (n:Nat){Φ:j4} [hΦ:j4.Ok Φ] {n1:Nod}{words2:List Str}:a2k n1 words2 (a3y n Φ n1 words2):=⟨fun{r} h=>by
 unfold a3y at h
 obtain⟨n1_0,n1_1,n1_2,⟨n1_3,n1_4,n1_5,n1_6⟩,n1_7,n1_8,n1_9⟩:=n1
 refine F4 rfl Tryz.func72 rfl rfl ?_
 let kr:=fun r:List Str=>a3I env 72 2 Tryz.f72.results.toList (a4O (Nod.mk n1_0 n1_1 n1_2 (Typ.mk n1_3 n1_4 n1_5 n1_6) n1_7 n1_8 n1_9) words2 r)
 let jl1:Jn 2 (Int×List Str):=⟨fun fr H z=>([(0,.ptr 0 0),(3,.ptr 2 0),(7,.sl H6 n1_8),(8,.i (List.length n1_8:Int)),(9,.i z.1)],[(0,.row [.st 1 clS z.2]),(1,.tip (tpe 1 (List.length z.2)) (List.length z.2)),(2,oH H 256)])⟩
 let jn1:Jn 12 (List Str):=⟨fun fr H z=>([(0,.ptr 0 0),(3,.ptr 2 0),(7,.sl H6 n1_8),(8,.i (List.length n1_8:Int)),(9,(lk 9 fr))],[(0,.row [.st 1 clS z]),(1,.tip (tpe 1 (List.length z)) (List.length z)),(2,oH H 2)])⟩
 exact blk⟩
theorem a8g (n:Nat){Φ:j4} [hΦ:j4.Ok Φ] {n1:Nod}{words2:List Str}:a11 n1 words2 (a1c n Φ n1 words2):=⟨fun{r} h=>by
 unfold a1c at h
 obtain⟨n1_0,n1_1,n1_2,⟨n1_3,n1_4,n1_5,n1_6⟩,n1_7,n1_8,n1_9⟩:=n1
 refine F4 rfl Tryz.func74 rfl rfl ?_
 let kr:=fun r:List Str=>a3I env 74 2 Tryz.f74.results.toList (a4s (Nod.mk n1_0 n1_1 n1_2 (Typ.mk n1_3 n1_4 n1_5 n1_6) n1_7 n1_8 n1_9) words2 r)
 let jn1:Jn 15 (List Str):=⟨fun fr H z=>([(0,.ptr 0 0)],[(0,.row [.st 1 clS z]),(1,.tip (tpe 1 (List.length z)) (List.length z))])⟩
 let jl1:Jn 6 (Int×List Str):=⟨fun fr H z=>([(0,.ptr 0 0),(25,ow .sealed (lk 25 fr)),(26,(lk 26 fr)),(27,.i z.1)],[(0,.row [.st 1 clS z.2]),(1,.tip (tpe 1 (List.length z.2)) (List.length z.2))])⟩
 let jn2:Jn 14 (Int×List Str):=⟨fun fr H z=>([(0,.ptr 0 0),(25,ow .sealed (lk 25 fr)),(26,(lk 26 fr)),(27,.i z.1)],[(0,.row [.st 1 clS z.2]),(1,.tip (tpe 1 (List.length z.2)) (List.length z.2))])⟩
 let jl2:Jn 9 (Int×Int×List Str):=⟨fun fr H z=>([(0,.ptr 0 0),(25,ow .sealed (lk 25 fr)),(26,(lk 26 fr)),(27,.i z.1),(32,ow .sealed (agC (lk 30 fr) 8)),(33,(lk 33 fr)),(34,.i z.2.1)],[(0,.row [.st 1 clS z.2.2]),(1,.tip (tpe 1 (List.length z.2.2)) (List.length z.2.2))])⟩
 exact blk⟩
theorem a7l (n:Nat){Φ:j4} [hΦ:j4.Ok Φ] {n1:Nod}{words2:List Str}:a1x n1 words2 (o6 n Φ n1 words2):=⟨fun{r} h=>by
 unfold o6 at h
 obtain⟨n1_0,n1_1,n1_2,⟨n1_3,n1_4,n1_5,n1_6⟩,n1_7,n1_8,n1_9⟩:=n1
 refine F4 rfl Tryz.func116 rfl rfl ?_
 let kr:=fun r:List Str=>a3I env 116 2 Tryz.f116.results.toList (a3U (Nod.mk n1_0 n1_1 n1_2 (Typ.mk n1_3 n1_4 n1_5 n1_6) n1_7 n1_8 n1_9) words2 r)
 let jn1:Jn 7 (List Str):=⟨fun fr H z=>([(0,.ptr 0 0),(3,.ptr 2 0)],[(0,.row [.st 1 clS z]),(1,.tip (tpe 1 (List.length z)) (List.length z)),(2,oH H 256)])⟩
 let jn2:Jn 11 (List Str):=⟨fun fr H z=>([(0,.ptr 0 0),(3,.ptr 2 0)],[(0,.row [.st 1 clS z]),(1,.tip (tpe 1 (List.length z)) (List.length z)),(2,oH H 2)])⟩
 let jn3:Jn 14 (List Str):=⟨fun fr H z=>([(0,.ptr 0 0)],[(0,.row [.st 1 clS z]),(1,.tip (tpe 1 (List.length z)) (List.length z))])⟩
 let jn4:Jn 47 (List Str):=⟨fun fr H z=>([(0,.ptr 0 0)],[(0,.row [.st 1 clS z]),(1,.tip (tpe 1 (List.length z)) (List.length z))])⟩
 let jl1:Jn 40 (Int×List Str):=⟨fun fr H z=>([(0,.ptr 0 0),(140,ow .sealed (lk 140 fr)),(141,(lk 141 fr)),(142,.i z.1)],[(0,.row [.st 1 clS z.2]),(1,.tip (tpe 1 (List.length z.2)) (List.length z.2))])⟩
 let jn5:Jn 52 (List Str):=⟨fun fr H z=>([(0,.ptr 0 0)],[(0,.row [.st 1 clS z]),(1,.tip (tpe 1 (List.length z)) (List.length z))])⟩
 exact blk⟩
theorem a9r (n:Nat){Φ:j4} [hΦ:j4.Ok Φ] {n1:Nod}{words2:List Str}:a2E n1 words2 (a1E n Φ n1 words2):=⟨fun{r} h=>by
 unfold a1E at h
 obtain⟨n1_0,n1_1,n1_2,⟨n1_3,n1_4,n1_5,n1_6⟩,n1_7,n1_8,n1_9⟩:=n1
 refine F4 rfl Tryz.func102 rfl rfl ?_
 let kr:=fun r:List Str=>a3I env 102 2 Tryz.f102.results.toList (a5o (Nod.mk n1_0 n1_1 n1_2 (Typ.mk n1_3 n1_4 n1_5 n1_6) n1_7 n1_8 n1_9) words2 r)
 let jn1:Jn 8 (List Str):=⟨fun fr H z=>([(0,.ptr 0 0)],[(0,.row [.st 1 clS z]),(1,.tip (tpe 1 (List.length z)) (List.length z))])⟩
 let jl1:Jn 3 (Int×List Str):=⟨fun fr H z=>([(0,.ptr 0 0),(10,.sl H6 n1_8),(11,.i (List.length n1_8:Int)),(12,.i z.1)],[(0,.row [.st 1 clS z.2]),(1,.tip (tpe 1 (List.length z.2)) (List.length z.2))])⟩
 exact blk⟩
theorem b1s (n:Nat){Φ:j4} [hΦ:j4.Ok Φ] {l1:List Nod}{words2:List Str}:a3E l1 words2 (a5g n Φ l1 words2):=⟨fun{r} h=>by
 unfold a5g at h
 refine F4 rfl Tryz.func75 rfl rfl ?_
 let kr:=fun r:List Str=>a3I env 75 2 Tryz.f75.results.toList (a6w l1 words2 r)
 let jl1:Jn 1 (Int×List Str):=⟨fun fr H z=>([(0,.ptr 0 0),(2,.func (.func 37) [.ptr 0 0] []),(8,.sl H6 l1),(9,.i (List.length l1:Int)),(10,.i z.1)],[(0,.row [.st 1 clS z.2]),(1,.tip (tpe 1 (List.length z.2)) (List.length z.2))])⟩
 let jn1:Jn 6 (List Str):=⟨fun fr H z=>([(0,.ptr 0 0),(2,.func (.func 37) [.ptr 0 0] []),(7,.ptr 2 0),(8,.sl H6 l1),(9,.i (List.length l1:Int)),(10,(lk 10 fr))],[(0,.row [.st 1 clS z]),(1,.tip (tpe 1 (List.length z)) (List.length z)),(2,oH H 512)])⟩
 exact blk⟩
theorem b0N (n:Nat){Φ:j4} [hΦ:j4.Ok Φ] {n1:Nod}{words2:List Str}:a3o n1 words2 (K7 n Φ n1 words2):=⟨fun{r} h=>by
 unfold K7 at h
 obtain⟨n1_0,n1_1,n1_2,⟨n1_3,n1_4,n1_5,n1_6⟩,n1_7,n1_8,n1_9⟩:=n1
 refine F4 rfl Tryz.func76 rfl rfl ?_
 exact blk⟩
theorem a7w (n:Nat){Φ:j4} [hΦ:j4.Ok Φ] {n1:Nod}{words2:List Str}:a1K n1 words2 (a0Z n Φ n1 words2):=⟨fun{r} h=>by
 unfold a0Z at h
 obtain⟨n1_0,n1_1,n1_2,⟨n1_3,n1_4,n1_5,n1_6⟩,n1_7,n1_8,n1_9⟩:=n1
 refine F4 rfl Tryz.func117 rfl rfl ?_
 let kr:=fun r:List Str=>a3I env 117 2 Tryz.f117.results.toList (a4i (Nod.mk n1_0 n1_1 n1_2 (Typ.mk n1_3 n1_4 n1_5 n1_6) n1_7 n1_8 n1_9) words2 r)
 let jn1:Jn 30008 (Bool):=⟨fun fr H z=>([(0,.ptr 0 0),(3,.ptr 2 0),(9,.bool z)],[(0,.row [.st 1 clS words2]),(1,.tip (tpe 1 (List.length words2)) (List.length words2)),(2,oH H 256)])⟩
 exact blk⟩
theorem a96 (n:Nat){Φ:j4} [hΦ:j4.Ok Φ] {l1:List Nod}{words2:List Str}:a2S l1 words2 (a1S n Φ l1 words2):=⟨fun{r} h=>by
 unfold a1S at h
 refine F4 rfl Tryz.func118 rfl rfl ?_
 exact blk⟩
theorem j4.ok:∀n,j4.Ok (j4.fs n)
 | 0=>⟨⟨fun h=>by cases h⟩,⟨fun h=>by cases h⟩,⟨fun h=>by cases h⟩,⟨fun h=>by cases h⟩,⟨fun h=>by cases h⟩,⟨fun h=>by cases h⟩,⟨fun h=>by cases h⟩,⟨fun h=>by cases h⟩,⟨fun h=>by cases h⟩⟩
 | n+1=>have:=j4.ok n;⟨a98 n,a8J n,a8g n,a7l n,a9r n,b1s n,b0N n,a7w n,a96 n⟩
instance c05 {n:Nat}{n1:Nod}{words2:List Str}:a2T n1 words2 (D9 n n1 words2):=(j4.ok n).D9
instance b89 {n:Nat}{n1:Nod}{words2:List Str}:a2k n1 words2 (Y1 n n1 words2):=(j4.ok n).Y1
instance b8C {n:Nat}{n1:Nod}{words2:List Str}:a11 n1 words2 (X4 n n1 words2):=(j4.ok n).X4
instance b6F {n:Nat}{n1:Nod}{words2:List Str}:a1x n1 words2 (O7 n n1 words2):=(j4.ok n).O7
instance c0s {n:Nat}{n1:Nod}{words2:List Str}:a2E n1 words2 (O1 n n1 words2):=(j4.ok n).O1
instance c3T {n:Nat}{l1:List Nod}{words2:List Str}:a3E l1 words2 (a0m n l1 words2):=(j4.ok n).a0m
instance c2o {n:Nat}{n1:Nod}{words2:List Str}:a3o n1 words2 (a0c n n1 words2):=(j4.ok n).a0c
instance b7j {n:Nat}{n1:Nod}{words2:List Str}:a1K n1 words2 (R6 n n1 words2):=(j4.ok n).R6
instance c04 {n:Nat}{l1:List Nod}{words2:List Str}:a2S l1 words2 (R7 n l1 words2):=(j4.ok n).R7
abbrev b2V (n1:Nod)(p:Option (Str)):Prop:=OkF env p 15 [.agg (c0 n1.op n1.s n1.n n1.t.kind n1.t.name n1.t.n (.sl F3 n1.t.args) (.sl F3 n1.ts) (.sl H6 n1.l) n1.at_)] [] (b1r n1)
instance c3S {n:Nat}{n1:Nod}:b2V n1 (a1f n n1):=⟨fun{r} h=>by
 unfold a1f at h
 obtain⟨n1_0,n1_1,n1_2,⟨n1_3,n1_4,n1_5,n1_6⟩,n1_7,n1_8,n1_9⟩:=n1
 refine F4 rfl Tryz.func15 rfl rfl ?_
 exact blk⟩
abbrev b8k (a1g:Str)(p:Option (Unit)):Prop:=OkF env p 7 [.str a1g] [] (b5t a1g)
instance law02_long_I {a1g:Str}:b8k a1g (a9b a1g):=⟨fun{r} h=>by
 unfold a9b at h
 refine F4 rfl Tryz.func7 rfl rfl ?_
 exact blk⟩
abbrev b1p (a1g:Str)(p:Option (Bool)):Prop:=OkF env p 5 [.str a1g] [] (a5B a1g)
instance b1q {n:Nat}{a1g:Str}:b1p a1g (a3D n a1g):=⟨fun{r} h=>by
 unfold a3D at h
 refine F4 rfl Tryz.func5 rfl rfl ?_
 let kr:=fun r:Bool=>a3I env 5 0 Tryz.f5.results.toList (a5B a1g r)
 let jn1:Jn 30007 (Bool):=⟨fun fr H z=>([(3,.ptr 0 0),(5,(lk 19 fr)),(29,.bool z)],[(0,oH H 256)])⟩
 exact blk⟩
end Go.Proofs.YtjhfloacokgdiaaGreatDoor
